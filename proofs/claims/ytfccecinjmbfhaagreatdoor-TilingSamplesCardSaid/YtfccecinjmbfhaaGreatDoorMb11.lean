/- Part 11 of a proof. -/
import Derived.Test.YtfccecinjmbfhaaGreatDoorMb10
set_option linter.unusedSimpArgs false
set_option maxHeartbeats 4000000
set_option maxRecDepth 100000
set_option linter.unusedVariables false
section
namespace Go.Sx
open Go Go.Proofs Tryz
variable {GB:Gh}
theorem azt{h l y:Nat}(hh:h<y)(hl:l<4294967296)(hy:y<4294967296):PF GB prog 199 [.v (.int .u32 (h:Int)), .v (.int .u32 (l:Int)), .v (.int .u32 (y:Int))] (.tp [dU ((h*4294967296+l)/y),dU ((h*4294967296+l)%y)]):=by
 refine fn (fu:=⟨11⟩) func199 J J ntmps199 J J (fun C=>?_)
 refine kT 10 rfl (by omega) ?_
 refine gx (fu:=⟨4⟩) rfl<|?_
 refine kF 14 rfl (by omega) ?_
 refine gx (fu:=⟨11⟩) (hv:=by simp only[aah];exact⟨by omega,(by decide)⟩) rfl<|?_
 refine eqF 19 (.d (.v (.int .u64 (h*2^32:Nat)))) rfl (by show FX.d (.v (.int _ _))= .d (.v (.int _ _));rw[adU _ 32 (by decide) (by show _*4294967296<_;omega) rfl]) ?_
 refine gx (fu:=⟨3⟩) rfl<|?_
 refine eqF 22 (.d (.v (.int .u64 (l+h*2^32:Nat)))) rfl (congrArg (fun z:Nat=>FX.d (.v (.int .u64 (z:Int)))) (by rw[BitVec.or_comm];exact aqR 64 l h 32 hl (by show _+_*4294967296<18446744073709551616;omega))) ?_
 obtain⟨t,ht⟩: ∃t,t=h*4294967296+l:=⟨_,rfl⟩
 have hq:t/y<4294967296:=by rw[jY (by omega)];have:=dY 4294967296 (show h+1≤y from hh);omega
 have hr:t%y<y:=cS _ (by omega)
 refine eqF 22 (.d (.v (.int .u64 (t:Nat)))) rfl (by show FX.d (.v (.int _ _))= .d (.v (.int _ _));congr 3;rw[ht];omega) ?_
 refine gx (hv:=by simp only[aah];exact⟨⟨⟨⟨by omega,⟨(by omega),(by omega),(by omega)⟩⟩,by omega⟩,⟨(by omega),(by omega)⟩⟩,by kernel_rfl⟩) rfl<|?_
 exact rz rfl (by show DV.tp [.v (.int _ _), .v (.int _ _)]= .tp [.v (.int _ _), .v (.int _ _)];rw[←ht,←oS,←mN];generalize t/y=q at*;generalize t%y=r at*;congr 4<;>(first|omega|(congr 3;omega)))
theorem azi{A r i b:Nat}(d:Nat)(hb:0<b):(A*4294967296+d)/b=A/b*4294967296+(A%b*4294967296+d)/b∧(A*4294967296+d)%b=(A%b*4294967296+d)%b:=by
 have h:=pJ A b
 have e:A*4294967296+d=(A%b*4294967296+d)+b*(A/b*4294967296):=by
  rw[←bR,Nat.add_right_comm,←cY,jX (A%b),h]
 rw[e,kM _ _ hb,lN]
 exact⟨jX _ _,rfl⟩
theorem aqj{ds:List Nat}{i:Nat}(h:i<ds.length):dv (ds.drop i)=dv (ds.drop (i+1))*4294967296+ds.getD i 0:=by
 rw[bQ h,aX,aQ h]
 simp only[dv,lK];omega
theorem ahC{W:List Nat}{i q:Nat}(h:i<W.length):dv ((W.set i q).drop i)=dv (W.drop (i+1))*4294967296+q:=by
 rw[aqj (by rw[bX];exact h),rV (by omega),ai1 h]
theorem aug{a b k:Nat}{W:List Nat}(hb:0<b)(hk:k<(dg a).length)(hl:W.length=(dg a).length)(h:dv (W.drop (k+1))=dv ((dg a).drop (k+1))/b):
  dv ((W.set k ((dv ((dg a).drop (k+1))%b*4294967296+(dg a).getD k 0)/b)).drop k)=dv ((dg a).drop k)/b∧dv ((dg a).drop k)%b=(dv ((dg a).drop (k+1))%b*4294967296+(dg a).getD k 0)%b:=by
 have:=azi (A:=dv ((dg a).drop (k+1))) (r:=0) (i:=0) ((dg a).getD k 0) hb
 rw[ahC (by omega),h,aqj hk,this.1,this.2]
 exact⟨rfl,rfl⟩
theorem afA{a b:Nat}:aho a b<0↔a<b:=by unfold aho;split<;>(try split)<;>omega
theorem agd{a b:Nat}:0<aho a b↔b<a:=by unfold aho;split<;>(try split)<;>omega
theorem aBY{x:Nat}(hx:x<4294967296):PF GB prog 253 [dU x] (vI (32-(bl x:Int))):=by
 intro G vs hg hv
 obtain⟨v,m,rfl,h1,h2⟩:=aac.1 hv
 rw[aaM] at h2;subst h2
 rw[aa2.1 h1]
 exact(aiK hx).mono fun v G' _ h=>aa2.2 h
theorem ans{a k:Nat}(h:4294967296^k≤a):k<(dg a).length:=by
 have h1:=ac4 a
 rcases gN k (dg a).length with q|q
 ·exact q
 ·have:4294967296^(dg a).length≤4294967296^k:=bK (by decide) q
  omega
theorem axI{v L:Nat}(hL:L=(dg v).length)(h1:1≤L):(dg v).getD (L-1) 0=v/4294967296^(L-1)∧0<v/4294967296^(L-1):=by
 have h:=atb (aeQ v) (L-1)
 rw[adL (by omega:(dg v).length≤L-1+1),aaQ,oU,dT] at h
 have h2:=ac4 v
 rw[←hL] at h2
 rw[jZ (show v<4294967296^(L-1+2) from cM h2 (bK (by decide) (by omega))),oU,dT] at h
 have h3:=afO (aaE v).2.2 (by intro e;rw[e] at hL;simp at hL;omega)
 rw[aaQ,←hL] at h3
 exact⟨h.symm,Nat.div_pos h3 (dJ (by decide))⟩
theorem aok{R n:Nat}(h1:1≤n)(h:R<4294967296^(n+1)):R/4294967296^(n-1)=(dg R).getD (n-1) 0+(dg R).getD n 0*4294967296:=by
 have e:=atb (aeQ R) (n-1)
 rw[aaQ,show n-1+1=n by omega,jZ (show R<4294967296^(n-1+2) by rwa [show n-1+2=n+1 by omega]),oU,dT,bT] at e
 exact e
theorem avq{R v j L:Nat}(hL:L=(dg v).length)(h1:1≤L)(hR:R<v*4294967296^(j+1)):R/(v*4294967296^j)≤min (R/4294967296^(L+j-1)/(v/4294967296^(L-1))) 4294967295:=by
 have ht:=(axI hL h1).2
 have hp:0<4294967296^j:=dJ (by decide)
 have hv0:0<v:=by
  rcases fQ v with q|q
  ·subst q;simp at ht
  ·exact q
 have hvp:0<v*4294967296^j:=jK hv0 hp
 refine Nat.le_min.2 ⟨?_,?_⟩
 ·rw[qU ht,qU (dJ (by decide))]
  have h3:v/4294967296^(L-1)*4294967296^(L-1)≤v:=Nat.div_mul_le_self _ _
  have h4:R/(v*4294967296^j)*(v*4294967296^j)≤R:=Nat.div_mul_le_self _ _
  rw[show L+j-1=L-1+j by omega,eK]
  calc R/(v*4294967296^j)*(v/4294967296^(L-1))*(4294967296^(L-1)*4294967296^j)
    =R/(v*4294967296^j)*((v/4294967296^(L-1)*4294967296^(L-1))*4294967296^j):=by simp only[bR]
   _≤R/(v*4294967296^j)*(v*4294967296^j):=dY _ (bV _ h3)
   _≤R:=h4
 ·have:R/(v*4294967296^j)<4294967296:=by
   rw[jY hvp]
   rw[dV] at hR
   rwa [bT,bR]
  omega
theorem afm{R V g:Nat}(hV:0<V)(h:R<V*g):R/V<g:=by
 rw[jY hV,bT];exact h
theorem auG{R V g:Nat}(hV:0<V)(h1:R/V≤g)(h2:V*g≤R):g=R/V:=by
 have:g≤R/V:=by rw[qU hV,bT];exact h2
 omega
theorem apy{R0 R v j g:Nat}{W:List Nat}(hj:j<W.length)(h:R0=R+dv (W.drop (j+1))*4294967296^(j+1)*v)(hv:0<v*4294967296^j)(hg:g=R/(v*4294967296^j)):
  R0=(R-v*4294967296^j*g)+dv ((W.set j g).drop j)*4294967296^j*v∧R-v*4294967296^j*g<v*4294967296^j:=by
 have h1:=pJ R (v*4294967296^j)
 have h2:=cS R hv
 rw[←hg] at h1
 refine⟨?_,by omega⟩
 rw[ahC hj,cY,cY,h,dV]
 have e:g*4294967296^j*v=v*4294967296^j*g:=by simp only[bR,kQ,bT]
 have e2:dv (W.drop (j+1))*(4294967296^j*4294967296)*v=dv (W.drop (j+1))*4294967296*4294967296^j*v:=by simp only[bR,kQ,bT]
 rw[e,e2]
 omega
theorem avy{a b s R:Nat}{D:Nat}(hR:R<b*2^s)(h:a*2^s=R+D*(b*2^s)):D=a/b∧R/2^s=a%b:=by
 have hp:0<2^s:=dJ (by decide)
 have hb:0<b:=by
  rcases fQ b with q|q
  ·subst q;simp at hR
  ·exact q
 have h1:a=R/2^s+D*b:=by
  have:=congrArg (· /2^s) h
  rw[Nat.mul_div_cancel _ hp,←bR,Nat.add_mul_div_right _ _ hp] at this
  exact this
 have h2:R/2^s<b:=by rw[jY hp];exact hR
 have h3:R/2^s+b*D=a:=by rw[bT b];exact h1.symm
 have:=(Nat.div_mod_unique hb).2 ⟨h3,h2⟩
 exact⟨this.1.symm,this.2.symm⟩
theorem aqP{a b s:Nat}(hl:(dg b).length≤(dg a).length)(h2:1≤(dg b).length):a*2^s<b*2^s*4294967296^((dg a).length-(dg b).length+1):=by
 have h1:=ac4 a
 have h3:=afO (aaE b).2.2 (by intro e;rw[e] at h2;simp at h2)
 rw[aaQ] at h3
 have h4:4294967296^(dg a).length≤b*4294967296^((dg a).length-(dg b).length+1):=by
  rw[show(dg a).length=((dg b).length-1)+((dg a).length-(dg b).length+1) by omega,eK]
  rw[show(dg b).length-1+((dg a).length-(dg b).length+1)-(dg b).length+1=(dg a).length-(dg b).length+1 by omega]
  exact bV _ h3
 rw[pR]
 exact jM (cM h1 h4) (dJ (by decide))
theorem axQ(x j:Nat):x*2^(32*j)=x*4294967296^j:=by rw[oY]
theorem aAo{R L j:Nat}(h:R<4294967296^(L+j+1))(h1:1≤L):R/4294967296^(L+j-1)<18446744073709551616:=by
 rw[jY (dJ (by decide)),show(18446744073709551616:Nat)=4294967296^2 from rfl,←eK]
 rwa [show 2+(L+j-1)=L+j+1 by omega]
theorem au5{R v j L:Nat}(hL:L=(dg v).length)(hR:R<v*4294967296^(j+1)):R<4294967296^(L+j+1):=by
 have h:=ac4 v
 rw[←hL] at h
 rw[iL,eK]
 exact cM hR (bV _ (nY h))
theorem aCQ{a b ia ib:Nat}[ha:BN a ia][hb:BN b ib](hi:ia≤500000000)(hj:ib≤500000000)(h2:1≤(dg b).length)(hl:(dg b).length≤(dg a).length):PF GB prog 200 [dN a,dN b] (.tp [dN (a/b),dN (a%b)]):=by
 have hla:=aaA (dg a)
 have hlb:=aaA (dg b)
 have hba:=aa1 ha.h
 have hba':(dg a).length≤20000000:=by omega
 refine fn func200 J J ntmps200 J J (fun C=>?_)
 refine ix _ rfl (aaB (k:=(dg b).length-1) (by omega) (by omega)) rfl<|cl (fu:=⟨0⟩) rfl (aBY (ac8 b ((dg b).length-1))) rfl<|?_
 obtain⟨s,hs⟩: ∃s:Nat,s=32-bl ((dg b).getD ((dg b).length-1) 0):=⟨_,rfl⟩
 have hs32:s≤32:=by omega
 refine eqF 22 (.d (vI (s:Nat))) rfl (by show FX.d (.v (.int _ _))= .d (.v (.int _ _));congr 3;have:=ahq.2 (show(dg b).getD ((dg b).length-1) 0<2^32 from ac8 b _);omega) ?_
 refine gx rfl<|cl rfl (apd (a:=b) (k:=s) (ia:=ib) (by omega) (by omega)) rfl<|cl (fu:=⟨0⟩) rfl (apd (a:=a) (k:=s) (ia:=ia) (by omega) (by omega)) rfl<|?_
 obtain⟨v,hv⟩: ∃v,v=b*2^s:=⟨_,rfl⟩
 obtain⟨R0,hR0⟩: ∃R0,R0=a*2^s:=⟨_,rfl⟩
 refine eqF 25 (.d (dN v)) rfl (by rw[hv]) ?_
 refine eqF 28 (.d (dN R0)) rfl (by rw[hR0]) ?_
 obtain⟨L,hL⟩: ∃L,L=(dg v).length:=⟨_,rfl⟩
 have hlv:((dg v).map dU).length=L:=by rw[aaA,hL]
 have hps:2^s≤2^32:=bK (by decide) hs32
 have hpp:0<2^s:=dJ (by decide)
 have hst:=aqP (a:=a) (b:=b) (s:=s) hl h2
 rw[←hv,←hR0] at hst
 have hvb:v<2^(ib+32):=by rw[hv,eK];exact lS hb.h hps (by decide)
 have hRb:R0<2^(ia+32):=by rw[hR0,eK];exact lS ha.h hps (by decide)
 have hbp:0<b:=iQ (fun q=>by subst q;rw[ahh] at h2;simp at h2)
 have hvp:0<v:=hv▸jK hbp hpp
 have hLp:1≤L:=by rw[hL];exact ans (k:=0) (by rw[pL];exact hvp)
 have htop:=axI hL hLp
 haveI hvB:BN v (ib+32):=⟨hvb⟩
 have hLb:=aa1 hvb
 have hLb':L≤20000000:=by omega
 have htl:=ac8 v (L-1)
 refine gx (fu:=⟨9⟩) rfl<|?_
 refine eqF 31 (.d (vI (L:Nat))) rfl (by rw[hlv];rfl) ?_
 refine gx rfl<|ix (fu:=⟨2⟩) _ rfl (aaB (k:=L-1) (by omega) (by omega)) rfl<|?_
 refine eqF 35 (.d (.v (.int .u64 (v/4294967296^(L-1):Nat)))) rfl (by rw[htop.1]) ?_
 rw[htop.1] at htl
 refine gx (fu:=⟨11⟩) rfl<|?_
 obtain⟨m,hm⟩: ∃m,m=(dg a).length-(dg b).length+1:=⟨_,rfl⟩
 rw[←hm] at hst
 have hrl:(List.replicate ((m:Nat):Int).toNat (DV.v (.int .u32 0))).length=m:=by rw[aU,bZ]
 refine eqF 41 (.d (vI (m:Nat))) rfl (by show FX.d (.v (.int _ _))= .d (.v (.int _ _));congr 3;omega) ?_
 refine gx rfl<|mk ((List.replicate m 0).map dU) J J (by rw[←aeE];rfl) rfl<|?_
 refine lp (X:=List Nat×Nat×Nat) (fun⟨W,R,k⟩=>[(6, .d (vI (s:Nat))),(7, .d (dN v)),(8, .d (dN R)),(9, .d (.v (.int .u64 (v/4294967296^(L-1):Nat)))),(10, .rw 42),(11, .d (vI ((k:Nat)-1)))]) (fun⟨W,R,k⟩=>[(42,some (.b 256 1 (W.map dU) true))]) (fun⟨W,R,k⟩=>W.length=m∧DOk W∧k≤m∧R0=R+dv (W.drop k)*4294967296^k*v∧R<v*4294967296^k∧R≤R0) (fun⟨W,R,k⟩=>k) ⟨List.replicate m 0,R0,m⟩ rfl ⟨by simp, .replicate _,aL _,by simp[dv],hst,aL _⟩ (fun _=>rfl) (fun⟨W,R,k⟩ hk=>?_)
 dsimp only at hk⊢
 obtain⟨h1,h2',h3,h4,h5,h6⟩:=hk
 have hlw:=aaA W
 refine br (fu1:=⟨10⟩) J J J (fun hc47=>?_) (fun hc47=>?_)
 ·
  obtain⟨j,rfl⟩: ∃j,k=j+1:=⟨k-1,by omega⟩
  have hvj:0<v*4294967296^j:=jK hvp (dJ (by decide))
  have hge:=avq hL hLp h5
  have hlen:=au5 hL h5
  have hlr:((dg R).map dU).length=(dg R).length:=aaA _
  haveI hRB:BN R (ia+32):=⟨by omega⟩
  have hq32:R/(v*4294967296^j)<4294967296:=by omega
  have hz1:=Int.natCast_nonneg (R/4294967296^(L+j-1))
  have hz2:=Int.natCast_nonneg (R/4294967296^(L+j-1)/(v/4294967296^(L-1)))
  refine eqF 11 (.d (vI (j:Nat))) rfl (by show FX.d (.v (.int _ _))= .d (.v (.int _ _));congr 3;omega) ?_
  refine mg (fu:=⟨6⟩) (hv:=fun _ _=>by simp only[aah];exact⟨(by omega),(by have:=aAo hlen hLp;omega),(by omega)⟩) (X:=Unit) (fun _=>[(6, .d (vI (s:Nat))),(7, .d (dN v)),(8, .d (dN R)),(9, .d (.v (.int .u64 (v/4294967296^(L-1):Nat)))),(10, .rw 42),(11, .d (vI (j:Nat))),(12, .d (.v (.int .u64 (R/4294967296^(L+j-1):Nat))))]) (fun _=>[(42,some (.b 256 1 (W.map dU) true))]) (fun _=>True) [6,7,8,9,10,11,12] [42] rfl ?_ (fun _=>rfl) (fun _ hm=>?_)
  ·
   refine gx (fu:=⟨4⟩) rfl<|?_
   refine eqF 51 (.d (vI (L:Nat))) rfl (by rw[hlv];rfl) ?_
   refine gx (fu:=⟨2⟩) rfl<|?_
   refine eqF 53 (.d (vI (L+j:Nat))) rfl (by show FX.d (.v (.int _ _))= .d (.v (.int _ _));congr 3) ?_
   refine gx (fu:=⟨8⟩) rfl<|?_
   refine eqF 56 (.d (vI ((dg R).length:Nat))) rfl (by rw[hlr];rfl) ?_
   refine gx rfl<|?_
   refine br (fu2:=⟨6⟩) J J J (fun hc57=>?_) (fun hc57=>?_)
   ·
    have hd0:=ac8 R (L+j-1)
    have hd1:=ac8 R (L+j)
    refine ix (hv:=by simp only[aah];exact⟨⟨by omega,(by decide)⟩,by omega⟩) _ rfl (aaB (k:=L+j) (by omega) (by omega)) rfl<|ix (fu:=⟨3⟩) _ rfl (aaB (k:=L+j-1) (by omega) (by omega)) rfl<|?_
    refine eqF 70 (.d (.v (.int .u64 ((dg R).getD (L+j-1) 0+(dg R).getD (L+j) 0*4294967296:Nat)))) rfl (congrArg (fun z:Nat=>FX.d (.v (.int .u64 (z:Int)))) (by rw[adU _ 32 (by decide) (by show _*4294967296<_;omega) rfl,BitVec.or_comm];exact aqR 64 ((dg R).getD (L+j-1) 0) ((dg R).getD (L+j) 0) 32 hd0 (by show _+_*4294967296<18446744073709551616;omega))) ?_
    refine gx rfl<|?_
    refine eqF 12 (.d (.v (.int .u64 (R/4294967296^(L+j-1):Nat)))) rfl (by rw[aok (by omega) hlen]) ?_
    exact at_ () trivial
   ·
    refine eqF 74 (.d (vI ((dg R).length:Nat))) rfl (by rw[hlr];rfl) ?_
    refine gx rfl<|?_
    refine br J J J (fun hc75=>?_) (fun hc75=>?_)
    ·
     have hd0:=ac8 R (L+j-1)
     refine ix _ rfl (aaB (k:=L+j-1) (by omega) (by omega)) rfl<|?_
     refine eqF 12 (.d (.v (.int .u64 (R/4294967296^(L+j-1):Nat)))) rfl (by rw[aok (by omega) hlen,adL (by omega:(dg R).length≤L+j),kS,dT]) ?_
     exact at_ () trivial
    ·
     refine eqF 12 (.d (.v (.int .u64 (R/4294967296^(L+j-1):Nat)))) rfl (by rw[aok (by omega) hlen,adL (by omega:(dg R).length≤L+j),adL (by omega:(dg R).length≤L+j-1)];rfl) ?_
     exact at_ () trivial
  ·
   obtain⟨g0,hg0'⟩: ∃g0,g0=min (R/4294967296^(L+j-1)/(v/4294967296^(L-1))) 4294967295:=⟨_,rfl⟩
   rw[←hg0'] at hge
   have hg0:=hge
   have hg1:g0≤4294967295:=by omega
   refine eqF 85 (.d (.v (.int .u64 (g0:Nat)))) rfl (by show FX.d (.v (.int _ _))= .d (.v (.int _ _));congr 3;rw[←oS];split<;>omega) ?_
   refine gx rfl<|cl rfl (agF (u:=g0) (by omega)) rfl<|cl (fu:=⟨2⟩) rfl (aci (ia:=ib+32) (ib:=32) (hb:=⟨by show _<4294967296;omega⟩) (by omega) (by decide)) rfl<|?_
   refine eqF 91 (.d (vI (32*j:Nat))) rfl (by show FX.d (.v (.int _ _))= .d (.v (.int _ _));congr 3) ?_
   refine gx rfl<|cl (fu:=⟨0⟩) rfl (apd (k:=32*j) (ia:=ib+64) (ha:=⟨by rw[show ib+64=ib+32+32 by omega,eK];exact nQ hvb (by show _<4294967296;omega)⟩) (by omega) (by omega)) rfl<|?_
   refine eqF 92 (.d (dN (v*4294967296^j*g0))) rfl (by rw[axQ,pR]) ?_
   refine gx rfl<|?_
   refine lp (X:=Nat) (fun g=>[(6, .d (vI (s:Nat))),(7, .d (dN v)),(8, .d (dN R)),(9, .d (.v (.int .u64 (v/4294967296^(L-1):Nat)))),(10, .rw 42),(11, .d (vI (j:Nat))),(14, .d (.v (.int .u64 (g:Nat)))),(15, .d (dN (v*4294967296^j*g)))]) (fun g=>[(42,some (.b 256 1 (W.map dU) true))]) (fun g=>R/(v*4294967296^j)≤g∧g≤4294967295) (fun g=>g) g0 rfl ⟨hg0,by omega⟩ (fun _=>rfl) (fun g hk=>?_)
   obtain⟨g1,g2⟩:=hk
   have hlw:=aaA W
   refine cl rfl (atN (a:=v*4294967296^j*g) (b:=R) (by have:=agA (a:=v*4294967296^j*g) (k:=L+j+1) (by have h1:=ac4 v;rw[←hL] at h1;rw[dV,eK];exact nQ (jM h1 (dJ (by decide))) (by omega));omega) (by have:=agA hlen;omega)) rfl<|?_
   refine br (fu1:=⟨7⟩) (v1:=fun hc96=>by simp only[aah];exact(by have h:=afm hvj (agd.1 hc96);have h1:1≤g:=fX (aR _) h;omega)) (fu2:=⟨11⟩) J J J (fun hc96=>?_) (fun hc96=>?_)
   ·
    have hgd:=afm hvj (agd.1 hc96)
    have hg1p:1≤g:=fX (aR _) hgd
    refine eqF 98 (.d (.v (.int .u64 ((g-1:Nat):Int)))) rfl (by show FX.d (.v (.int _ _))= .d (.v (.int _ _));congr 3;omega) ?_
    refine gx rfl<|cl rfl (agF (u:=g-1) (by omega)) rfl<|cl (fu:=⟨2⟩) rfl (aci (ia:=ib+32) (ib:=32) (hb:=⟨by show _<4294967296;omega⟩) (by omega) (by decide)) rfl<|?_
    refine eqF 104 (.d (vI (32*j:Nat))) rfl (by show FX.d (.v (.int _ _))= .d (.v (.int _ _));congr 3) ?_
    refine gx rfl<|cl (fu:=⟨0⟩) rfl (apd (k:=32*j) (ia:=ib+64) (ha:=⟨by rw[show ib+64=ib+32+32 by omega,eK];exact nQ hvb (by show _<4294967296;omega)⟩) (by omega) (by omega)) rfl<|?_
    refine eqF 105 (.d (dN (v*4294967296^j*(g-1)))) rfl (by rw[axQ,pR]) ?_
    refine gx rfl<|?_
    exact at_ (g-1) ⟨⟨by have h:=afm hvj (agd.1 hc96);omega,by omega⟩,(by have:=afm hvj (agd.1 hc96);omega)⟩
   ·
    have hgq:=auG hvj g1 (qS fun q=>hc96 (agd.2 q))
    refine eqF 109 (.d (dU g)) rfl (by show FX.d (.v (.int _ _))= .d (.v (.int _ _));congr 3;omega) ?_
    refine gx rfl<|sb _ ((W.set j (R/(v*4294967296^j))).map dU) rfl (aaB (k:=j) (by omega) (by omega)) rfl (by(rw[←hgq,bZ,←adM])<;>rfl) rfl<|?_
    refine cl (fu:=⟨0⟩) rfl (arn (a:=R) (b:=v*4294967296^j*g) (ia:=ia+32) (by rw[hgq];exact Nat.mul_div_le _ _) (by omega)) rfl<|?_
    refine eqF 113 (.d (dN (R-v*4294967296^j*(R/(v*4294967296^j))))) rfl (by rw[hgq]) ?_
    refine gx rfl<|?_
    exact at_ ⟨W.set j (R/(v*4294967296^j)),R-v*4294967296^j*(R/(v*4294967296^j)),j⟩ (by dsimp only;exact⟨⟨by simpa using h1,h2'.set _ (by omega),by omega,(apy (by omega) h4 hvj rfl).1,(apy (by omega) h4 hvj rfl).2,by omega⟩,(by omega)⟩)
 ·
  obtain rfl:k=0:=by omega
  rw[pL,gR] at h5
  rw[pL,gR,hJ,hR0,hv] at h4
  rw[hv] at h5
  have hend:=avy h5 h4
  haveI hRB:BN R (ia+32):=⟨by omega⟩
  refine fz 42 J J<|cl rfl (afI (ds:=W) (by omega)) rfl<|cl rfl (azo (a:=R) (k:=s) (ia:=ia+32) (by omega) (by omega)) rfl<|?_
  exact rz rfl (by show DV.tp [dLi _,dN _]= .tp [dN _,dN _];rw[aeG h2' hend.1,hend.2])
theorem aog{a b:Nat}(h:b≤a):(dg b).length≤(dg a).length:=agA (fX h (ac4 a))
theorem afp{a b ia ib:Nat}[ha:BN a ia][hb:BN b ib](hb0:0<b)(hi:ia≤500000000:=by decide)(hj:ib≤500000000:=by decide):PF GB prog 143 [dN a,dN b] (.tp [dN (a/b),dN (a%b)]):=by
 have hla:=aaA (dg a)
 have hlb:=aaA (dg b)
 have hba:=aa1 ha.h
 have hbb:=aa1 hb.h
 have hba':(dg a).length≤20000000:=by omega
 have hbb':(dg b).length≤20000000:=by omega
 have hlb1:1≤(dg b).length:=ans (k:=0) (by rw[pL];exact hb0)
 refine fn (fu:=⟨7⟩) func143 J J ntmps143 J J (fun C=>?_)
 refine mg (X:=Unit) (fun _=>[(0, .d (dN a)),(1, .d (dN b))]) (fun _=>[]) (fun _=>True) [0,1] [] rfl ?_ (fun _=>rfl) (fun _ hm=>?_)
 ·
  refine gx rfl<|cl rfl (ao3 (a:=a) (ia:=ia) (by omega)) rfl<|?_
  refine bd (fu1:=⟨0⟩) J J J (fun hc18=>?_) (fun hc18=>?_)
  ·
   refine eqF 6 (.d (.v (.int .u64 (a:Nat)))) rfl (by rw[if_pos hc18]) ?_
   refine gx rfl<|cl rfl (ao3 (a:=b) (ia:=ib) (by omega)) rfl<|?_
   refine bd (fu1:=⟨0⟩) J J J (fun hc24=>?_) (fun hc24=>?_)
   ·
    refine eqF 8 (.d (.v (.int .u64 (b:Nat)))) rfl (by rw[if_pos hc24]) ?_
    have hdl:=iV a b
    have hml:=Nat.mod_le a b
    refine gx (hv:=by simp only[aah];exact⟨(by omega),(by omega),(by omega)⟩) rfl<|cl (hv:=by simp only[aah];exact⟨(by omega),(by omega)⟩) rfl (agF (u:=a/b) (by omega)) rfl<|cl rfl (agF (u:=a%b) (by omega)) rfl<|?_
    exact rz J J
   ·
    exact at_ () trivial
  ·
   exact at_ () trivial
 ·
  refine cl rfl (atN (by omega) (by omega)) rfl<|?_
  refine br J J J (fun hc36=>?_) (fun hc36=>?_)
  ·
   have hab:=afA.1 hc36
   refine ro0 J J<|ap _ J J (anc _) rfl<|?_
   refine fzE 39 rfl ?_
   exact rz rfl (by show DV.tp [_, .sl ([]++_)]= .tp [_,_];rw[jZ hab,fK hab,ac6];rfl)
  ·
   have hab:b≤a:=qS fun q=>hc36 (afA.2 q)
   have hlab:(dg b).length≤(dg a).length:=aog hab
   refine br (fu1:=⟨4⟩) J J J (fun hc42=>?_) (fun hc42=>?_)
   ·
    have hb1:b<4294967296:=by have:=ac4 b;rw[show(dg b).length=1 by omega] at this;omega
    have hbd:(dg b).getD 0 0=b:=act (by omega)
    refine eqF 44 (.d (vI ((dg a).length:Nat))) rfl (by rw[hla];rfl) ?_
    refine gx rfl<|mk (fu:=⟨13⟩) ((List.replicate (dg a).length 0).map dU) J J (by rw[←aeE];rfl) rfl<|?_
    refine eqF 47 (.d (vI ((dg a).length:Nat))) rfl (by rw[hla];rfl) ?_
    refine gx rfl<|?_
    refine lp (X:=List Nat×Nat) (fun⟨W,k⟩=>[(0, .d (dN a)),(1, .d (dN b)),(10, .rw 45),(11, .d (dU (dv ((dg a).drop k)%b))),(12, .d (vI ((k:Nat)-1)))]) (fun⟨W,k⟩=>[(45,some (.b 256 1 (W.map dU) true))]) (fun⟨W,k⟩=>W.length=(dg a).length∧DOk W∧k≤(dg a).length∧dv (W.drop k)=dv ((dg a).drop k)/b) (fun⟨W,k⟩=>k) ⟨List.replicate (dg a).length 0,(dg a).length⟩ rfl ⟨by simp, .replicate _,aL _,by simp[dv]⟩ (fun _=>rfl) (fun⟨W,k⟩ hk=>?_) (hF:=(by refine⟨rfl,rfl,rfl,leI rfl (by simp[dv,dU]),leI rfl (by simp[vI]),?_⟩;repeat (first|exact trivial|refine And.intro rfl ?_)))
    try dsimp only at hk⊢
    obtain⟨h1,h2,h3,h4⟩:=hk
    have hlw:=aaA W
    refine br (fu1:=⟨0⟩) J J J (fun hc50=>?_) (fun hc50=>?_)
    ·
     obtain⟨k,rfl⟩: ∃j,k=j+1:=⟨k-1,by omega⟩
     have hsi:=aug hb0 (by omega) h1 h4
     have hrm:=cS (dv ((dg a).drop (k+1))) hb0
     have hdk:=ac8 a k
     have hqd:(dv ((dg a).drop (k+1))%b*4294967296+(dg a).getD k 0)/b<4294967296:=by rw[jY hb0];have:=dY 4294967296 (show dv ((dg a).drop (k+1))%b+1≤b from hrm);omega
     refine eqF 12 (.d (vI (k:Nat))) rfl (by show FX.d (.v (.int _ _))= .d (.v (.int _ _));congr 3;omega) ?_
     refine gx rfl<|ix _ rfl (aaB (k:=k) (by omega) (by omega)) rfl<|ix _ rfl (aaB (k:=0) rfl (by omega)) rfl<|cl rfl (azt (h:=dv ((dg a).drop (k+1))%b) (l:=(dg a).getD k 0) (y:=(dg b).getD 0 0) (by omega) hdk (by omega)) rfl<|?_
     refine sb (hv:=by simp only[aah];exact⟨by kernel_rfl,by omega⟩) _ ((W.set k ((dv ((dg a).drop (k+1))%b*4294967296+(dg a).getD k 0)/b)).map dU) rfl (aaB (k:=k) (by omega) (by omega)) rfl (by(rw[hbd,bZ,←adM])<;>rfl) rfl<|?_
     exact at_ ⟨W.set k ((dv ((dg a).drop (k+1))%b*4294967296+(dg a).getD k 0)/b),k⟩ (by dsimp only;exact⟨⟨by simpa using h1,h2.set _ hqd,by omega,hsi.1⟩,(by omega)⟩) (by refine⟨rfl,rfl,rfl,leI rfl (by rw[hsi.2,hbd]),leI rfl (by first|(simp[vI];done)|(simp[vI];omega)),?_⟩;repeat (first|exact trivial|refine And.intro rfl ?_))
    ·
     refine fz 45 J J<|cl rfl (afI (ds:=W) (by omega)) rfl<|rf J J<|cl rfl (afI (ds:=[dv ((dg a).drop k)%b]) (by simp)) rfl<|?_
     exact rz rfl (by show DV.tp [dLi _,dLi _]= .tp [_,_];obtain rfl:k=0:=(by omega);rw[hJ,hJ,aaQ] at h4;rw[hJ,aaQ];rw[aeG h2 h4,aeG (.cons (by have:=cS a hb0;omega) .nil) (n:=a%b) (by simp[dv])])
   ·
    refine cl rfl (aCQ (by omega) (by omega) hlb1 hlab) rfl<|?_
    exact rz J J
theorem ap2(x y:Nat):Nat.gcd y (x%y)=Nat.gcd x y:=by rw[iX x y,rS y x,iX]
theorem ala{a b ia ib:Nat}[ha:BN a ia][hb:BN b ib](hi:ia≤240000000:=by decide)(hj:ib≤240000000:=by decide):PF GB prog 140 [dN a,dN b] (dN (Nat.gcd a b)):=by
 refine fn (fu:=⟨6⟩) func140 J J ntmps140 J J (fun C=>?_)
 refine mg (X:=Unit) (fun _=>[(0, .d (dN a)),(1, .d (dN b))]) (fun _=>[]) (fun _=>True) [0,1] [] rfl ?_ (fun _=>rfl) (fun _ hm=>?_)
 ·
  refine gx rfl<|cl rfl (ao3 (a:=a) (ia:=ia) (by omega)) rfl<|?_
  refine bd (fu1:=⟨0⟩) J J J (fun hc16=>?_) (fun hc16=>?_)
  ·
   refine eqF 5 (.d (.v (.int .u64 (a:Nat)))) rfl (by rw[if_pos hc16]) ?_
   refine gx rfl<|cl rfl (ao3 (a:=b) (ia:=ib) (by omega)) rfl<|?_
   refine bd (fu1:=⟨0⟩) J J J (fun hc22=>?_) (fun hc22=>?_)
   ·
    refine eqF 7 (.d (.v (.int .u64 (b:Nat)))) rfl (by rw[if_pos hc22]) ?_
    refine gx rfl<|?_
    refine lp (X:=Nat×Nat) (fun⟨x,y⟩=>[(5, .d (.v (.int .u64 (x:Nat)))),(7, .d (.v (.int .u64 (y:Nat))))]) (fun⟨x,y⟩=>[]) (fun⟨x,y⟩=>x<18446744073709551616∧y<18446744073709551616∧Nat.gcd x y=Nat.gcd a b) (fun⟨x,y⟩=>y) ⟨a,b⟩ rfl ⟨hc16,hc22,rfl⟩ (fun _=>rfl) (fun⟨x,y⟩ hk=>?_)
    try dsimp only at hk⊢
    obtain⟨h1,h2,h3⟩:=hk
    refine br (v1:=fun hc24=>by simp only[aah];exact⟨⟨(by omega),(by omega)⟩,by kernel_rfl⟩) J J J (fun hc24=>?_) (fun hc24=>?_)
    ·
     exact at_ ⟨y,x%y⟩ (by dsimp only;exact⟨⟨h2,by have:=cS x (show 0<y by omega);omega,by rw[ap2,h3]⟩,(by exact cS _ (by omega))⟩)
    ·
     refine cl rfl (agF (u:=x) h1) rfl<|?_
     exact rz rfl (by show dN x=_;rw[←h3,show y=0 by omega,lR])
   ·
    exact at_ () trivial
  ·
   exact at_ () trivial
 ·
  refine lp (fu:=⟨5⟩) (X:=Nat×Nat) (fun⟨x,y⟩=>[(0, .d (dN x)),(1, .d (dN y))]) (fun⟨x,y⟩=>[]) (fun⟨x,y⟩=>x<2^(ia+ib)∧y<2^(ia+ib)∧Nat.gcd x y=Nat.gcd a b) (fun⟨x,y⟩=>y) ⟨a,b⟩ rfl ⟨(ha.mono (by omega)).h,(hb.mono (by omega)).h,rfl⟩ (fun _=>rfl) (fun⟨x,y⟩ hk=>?_)
  try dsimp only at hk⊢
  obtain⟨h1,h2,h3⟩:=hk
  have hly:=aaA (dg y)
  haveI hx':BN x (ia+ib):=⟨h1⟩
  haveI hy':BN y (ia+ib):=⟨h2⟩
  refine eqF 32 (.d (vI ((dg y).length:Nat))) rfl (by rw[hly];rfl) ?_
  refine gx rfl<|?_
  refine br J J J (fun hc33=>?_) (fun hc33=>?_)
  ·
   have hy0:0<y:=iQ fun q=>by subst q;rw[ahh] at hc33;simp at hc33
   refine cl rfl (afp (a:=x) (b:=y) (ia:=ia+ib) (ib:=ia+ib) hy0 (by omega) (by omega)) rfl<|?_
   exact at_ ⟨y,x%y⟩ (by dsimp only;exact⟨⟨h2,by have:=cS x hy0;omega,by rw[ap2,h3]⟩,(by exact cS _ hy0)⟩)
  ·
   have hy0:y=0:=acq.1 (by omega)
   have hlx:=aa1 h1
   have hmx:=aaA (dg x)
   refine ro0 J J<|ap _ J J (anc _) rfl<|?_
   refine fzE 44 rfl ?_
   exact rz rfl (by show DV.sl ([]++_)=_;rw[←h3,hy0,lR];rfl)
theorem aBN(neg:Bool)(m:Nat):eI (zv neg m)= .ag [.v (.bool (neg&&decide (0<m))),dN m]:=by unfold eI;rw[afM,amh]
theorem aCd(z:Int):zv (!decide (z<0)) z.natAbs= -z:=by
 unfold zv
 by_cases h:z<0<;>simp[h]<;>omega
theorem aAD(a b:Int):zv (!(decide (a<0)==decide (b<0))) (a.natAbs*b.natAbs)=a*b:=by
 have h:=axT (decide (a<0)) (decide (b<0)) a.natAbs b.natAbs
 rw[adA,adA] at h
 exact h
theorem acG{neg:Bool}{m:Nat}:PF GB prog 92 [.v (.bool neg),dN m] (eI (zv neg m)):=by
 have hl:=aaA (dg m)
 have hz:= @acq m
 refine fn func92 J J ntmps92 J J (fun C=>?_)
 refine csb 6 J J J (fun hg6=>?_) (fun hg6=>?_)
 ·
  exact rz rfl (by rw[aBN,hg6];show DV.ag [.v (.bool _),_]= .ag [.v (.bool _),_];congr 4;rw[Bool.true_and];exact decide_eq_decide.2 (by omega))
 ·
  exact rz rfl (by rw[aBN,hg6];rfl)
structure IvV where
 lo:RV
 hi:RV
 nl:Bool
 nh:Bool
def IvV.v(z:IvV):Value:= .agg ⟨[.int .i64 z.lo.n, .int .i64 z.lo.d, .pointer z.lo.p, .int .i64 z.hi.n, .int .i64 z.hi.d, .pointer z.hi.p, .bool z.nl, .bool z.nh]⟩
section
variable {P:Program} {C:Ctx} {n:Nat} {fr:Fr} {own own' own1:List Own} {G:Gh} {Φ:Act→World→Prop}
variable {dst:Option Nat} {t t' ty':TypeId} {pos:String} {af:Array Edge} {gd:Option (Nat×Bool)} {x y:Operand} {e s by_:Nat}
end
structure aF3 (k:Nat) (G:Gh) (z:IvV) (v:IvQ):Prop where
 lo:IsR k G z.lo v.lo
 hi:IsR k G z.hi v.hi
 nl:z.nl=v.nl
 nh:z.nh=v.nh
def orQ:List Int→Int
 |[]=>0
 |x::t=>if x≠0 then x else orQ t
def aG2(l m:LnQ):Int:=orQ [abc l.a m.a,abc l.b m.b,abc l.c m.c]
structure FrV where
 l:LV
 v:IvV
def FrV.val(z:FrV):Value:= .agg ⟨[.int .i64 z.l.a.n, .int .i64 z.l.a.d, .pointer z.l.a.p, .int .i64 z.l.b.n, .int .i64 z.l.b.d, .pointer z.l.b.p, .int .i64 z.l.c.n, .int .i64 z.l.c.d, .pointer z.l.c.p, .int .i64 z.v.lo.n, .int .i64 z.v.lo.d, .pointer z.v.lo.p, .int .i64 z.v.hi.n, .int .i64 z.v.hi.d, .pointer z.v.hi.p, .bool z.v.nl, .bool z.v.nh]⟩
structure aFW (k:Nat) (G:Gh) (z:FrV) (f:FrQ):Prop where
 l:IsL k G z.l f.l
 v:aF3 (25*k+6) G z.v f.v
inductive awh {α β:Type} (R:α→β→Prop):List α→List β→Prop
 |nil:awh R [] []
 |cons {a b us bs} (h:R a b) (t:awh R us bs):awh R (a::us) (b::bs)
structure IsC (k:Nat) (G:Gh) (x:SV) (c:aag):Prop where
 ex: ∃fs:List FrV,afb G 17 x (fs.map FrV.val)∧awh (aFW k G) fs c

section
variable {P:Program} {C:Ctx} {n:Nat} {fr:Fr} {own own':List Own} {G:Gh} {Φ:Act→World→Prop}
variable {dst:Option Nat} {t t' ty':TypeId} {pos:String} {af:Array Edge} {gd:Option (Nat×Bool)} {x y:Operand} {e s by_:Nat}
theorem avF{o1 o2:Own}{rest:List Own}(h:o1.b≠o2.b→St C n fr (o1::o2::rest) G Φ):St C n fr (o1::o2::rest) G Φ:=
 fun a w rl=>h ((bN.1 rl.h.nd).1 _ aZ) a w rl
theorem adO[hT:acN P t e s by_]{k:IntKind}{b off len cap:Nat}{l:Int}(hx:opv fr x=some (.slice (some ⟨b,off,none⟩) len cap))(hy:opv fr y=some (.int k l))(h0:0≤l)(h1:l≤len)(h2:l<cap):
  Yd P C fr own G ⟨dst, .slice t x (some y) none none,ty',pos,af,gd⟩ (.slice (some ⟨b,off+l.toNat*s,none⟩) (len-l.toNat) (cap-l.toNat)):=by
 have h:=afX (P:=P) (C:=C) (own:=own) (G:=G) (t:=t) (dst:=dst) (ty':=ty') (pos:=pos) (af:=af) (gd:=gd) (by_:=by_) hx hy h0 h1
 unfold aoL at h
 rw[if_neg (by omega)] at h
 simpa[acx] using h
end

section
variable {P:Program} {C:Ctx} {n:Nat} {fr:Fr} {own own':List Own} {G:Gh} {Φ:Act→World→Prop}
variable {dst:Option Nat} {t t' ty':TypeId} {pos:String} {af:Array Edge} {gd:Option (Nat×Bool)} {x y:Operand} {e s by_:Nat}
end

def IsT(k:Nat)(G:Gh):Tr→Option Addr→Prop
 | .leaf b,p=> ∃n,p=some ⟨n,0,none⟩∧G n=some [.int .i64 0, .int .i64 0, .pointer none, .int .i64 0, .int .i64 0, .pointer none, .int .i64 0, .int .i64 0, .pointer none, .pointer none, .pointer none, .bool b]
 | .node l x y,p=> ∃(n:Nat) (z:LV) (q r:Option Addr),p=some ⟨n,0,none⟩∧G n=some [.int .i64 z.a.n, .int .i64 z.a.d, .pointer z.a.p, .int .i64 z.b.n, .int .i64 z.b.d, .pointer z.b.p, .int .i64 z.c.n, .int .i64 z.c.d, .pointer z.c.p, .pointer q, .pointer r, .bool false]∧IsL k G z l∧IsT k G x q∧IsT k G y r
structure ND where
 a:IV
 b:IV
 c:IV
 l:Int
 r:Int
def ND.val(z:ND):Value:= .agg ⟨[.bool z.a.neg, .slice z.a.a.a z.a.a.n z.a.a.c, .bool z.b.neg, .slice z.b.a.a z.b.a.n z.b.a.c, .bool z.c.neg, .slice z.c.a.a z.c.a.n z.c.a.c, .int .i64 z.l, .int .i64 z.r]⟩
structure aFO (k:Nat) (G:Gh) (z:ND) (n:NQ):Prop where
 a:IsI k G z.a n.l.a
 b:IsI k G z.b n.l.b
 c:IsI k G z.c n.l.c
 l:z.l=n.a
 r:z.r=n.b
structure aG0 (k:Nat) (G:Gh) (x:SV) (ns:List NQ):Prop where
 ex: ∃zs:List ND,afb G 8 x (zs.map ND.val)∧awh (aFO k G) zs ns
def aGm(n i:Nat):List Value:=(List.range n).map fun j=> .bool (decide (j<i))

def aFw(ob wb:Nat):Value:= .func (.func 174) #[] #[.pointer (some ⟨ob,0,none⟩), .pointer (some ⟨wb,0,none⟩)]
structure PtV where
 x:SV
 p:Option Addr
def PtV.val(z:PtV):Value:= .agg ⟨[.slice z.x.a z.x.n z.x.c, .pointer z.p]⟩
structure aFK (k:Nat) (G:Gh) (z:PtV) (b:Bool×aag):Prop where
 c:IsC k G z.x b.2
 t:IsT k G (.leaf b.1) z.p
structure aGD (k:Nat) (G:Gh) (w:SV) (ps:List (Bool×aag)):Prop where
 ex: ∃zs:List PtV,afb G 2 w (zs.map PtV.val)∧awh (aFK k G) zs ps
structure LI where
 a:IV
 b:IV
 c:IV
def LI.val(z:LI):Value:= .agg ⟨[.bool z.a.neg, .slice z.a.a.a z.a.a.n z.a.a.c, .bool z.b.neg, .slice z.b.a.a z.b.a.n z.b.a.c, .bool z.c.neg, .slice z.c.a.a z.c.a.n z.c.a.c]⟩
structure aGj (k:Nat) (G:Gh) (z:LI) (l:LnQ):Prop where
 a:IsI k G z.a l.a
 b:IsI k G z.b l.b
 c:IsI k G z.c l.c
structure aFZ (k:Nat) (G:Gh) (x:SV) (ls:List LnQ):Prop where
 ex: ∃zs:List LI,afb G 6 x (zs.map LI.val)∧awh (aGj k G) zs ls
structure aF9 (k:Nat) (G:Gh) (x:SV) (ls:List LnQ):Prop where
 ex: ∃zs:List LV,afb G 9 x (zs.map LV.v)∧awh (IsL k G) zs ls
theorem aos{a b:Int}(h:a=b):eI a=eI b:=by rw[h]
theorem apU(z:Int):eQ (z:Rat)= .ag [.v (.bool (decide (z<0))),dN z.natAbs, .sl []]:=by unfold eQ;rw[pV,pW];rfl
theorem afy{a:Rat}(h:a.den=1):((a.num:Int):Rat)=a:=Rat.ext (pV _) (by rw[pW,h])
theorem avT{a b:Rat}(ha:a.den=1)(hb:b.den=1):a+b=((a.num+b.num:Int):Rat):=by
 rw[pK,afy ha,afy hb]
theorem at7{a b:Rat}(ha:a.den=1)(hb:b.den=1):a*b=((a.num*b.num:Int):Rat):=by
 rw[cV,afy ha,afy hb]
theorem ajR(n:Nat)(h:0<n):(if n=1 then [] else(dg n).map dU).length=0↔n=1:=by
 by_cases q:n=1
 ·simp[q]
 ·rw[if_neg q,aJ,acq];omega
theorem aAY{n:Nat}(h:n≠1):dD n=dN n:=by unfold dD;rw[if_neg h];rfl
theorem akH{g:Nat}:(aho g 1=0)↔g=1:=by
 unfold aho
 constructor
 ·intro h;split at h
  ·exact absurd h (by decide)
  ·split at h
   ·assumption
   ·exact absurd h (by decide)
 ·rintro rfl;rfl
theorem axL{x:Int}{d:Nat}(hd:0<d):zv (decide (x<0)) (x.natAbs/Nat.gcd x.natAbs d)=(mkRat x d).num:=by
 rw[Rat.num_mkRat,if_neg (by omega),iX]
 have hg:0<Nat.gcd d x.natAbs:=nJ _ hd
 obtain⟨c,hc⟩:Nat.gcd d x.natAbs∣x.natAbs:=mJ _ _
 generalize Nat.gcd d x.natAbs=g at*
 rw[hc,Nat.mul_div_cancel_left _ hg]
 unfold zv
 by_cases q:x<0
 ·rw[if_pos (by simpa using q),show x=(g:Int)*(-(c:Int)) by rw[Int.mul_neg,←iK];omega,Int.mul_ediv_cancel_left _ (by omega)]
 ·rw[if_neg (by simpa using q),show x=(g:Int)*(c:Int) by rw[←iK];omega,Int.mul_ediv_cancel_left _ (by omega)]
theorem aya{x:Int}{d:Nat}(hd:0<d):d/Nat.gcd x.natAbs d=(mkRat x d).den:=by
 rw[Rat.den_mkRat,if_neg (by omega),iX]
theorem aCH{x:Int}{d:Nat}(hd:0<d)(h:Nat.gcd x.natAbs d=1):(mkRat x d).num=x∧(mkRat x d).den=d:=by
 rw[←axL hd,←aya hd,h,rL,rL]
 exact⟨adA x,rfl⟩
instance BI.zv (neg:Bool) (m i:Nat) [h:BN m i]:BI (zv neg m) i:=⟨by rw[afM];exact h.h⟩
section
variable {GB:Gh} {C:Ctx} {n:Nat} {Q0:Exit→Act→World→Prop} {fr fr':FrX} {own own':OwX} {cf cf':Cf} {vc:List Prop}
def aFE(fr:FrX)(cf:Cf):Option Int:=match opC fr cf with
 |some ⟨_, .convert t t' x,_,_,_,_⟩=>match abD tt t,abD tt t' with
  |some ⟨.int .i64,_,_,_⟩,some ⟨.int .u64,_,_,_⟩=>match evX (lkC fr cf) x with
   |some (.d (.v (.int .i64 p)))=>some p
   |_=>none
  |_,_=>none
 |_=>none
theorem cvw[fu:Fu]{p:Int}(q:Int)(h:aFE fr cf=some p)(e:p%18446744073709551616=q)(hgo:goA tt n fu.n fr own cf (.d (.v (.int .u64 q))) [] []=⟨vc,fr',own',cf'⟩)(k:CfS prog GB C n Q0 fr' own' cf')
  (hv:aah vc:=by first|exact trivial|(simp only[aah];omega)):CfS prog GB C n Q0 fr own cf:=by
 unfold aFE at h
 split at h<;>try (cases h;done)
 rename_i hh
 split at h<;>try (cases h;done)
 rename_i hT hT'
 split at h<;>cases h
 rename_i hx
 have:=ake (ab2 _ _ hT) rfl
 have:=ake (ab2 _ _ hT') rfl
 refine us hh (.x1 hx fun ρ G ov a w y _ r h1 h2=>?_) hgo hv k
 rw[aay] at h2;subst h2
 refine⟨_,aay.2 rfl,?_⟩
 rw[←e,←abQ]
 exact akY h1
def aFG(fr:FrX)(cf:Cf):Option Int:=match opC fr cf with
 |some ⟨_, .unOp .neg _ x,_,_,_,_⟩=>match evX (lkC fr cf) x with
  |some (.d (.v (.int .u64 p)))=>some p
  |_=>none
 |_=>none
theorem ngw[fu:Fu]{p:Int}(q:Int)(h:aFG fr cf=some p)(e:(0-p)%18446744073709551616=q)(hgo:goA tt n fu.n fr own cf (.d (.v (.int .u64 q))) [] []=⟨vc,fr',own',cf'⟩)(k:CfS prog GB C n Q0 fr' own' cf')
  (hv:aah vc:=by first|exact trivial|(simp only[aah];omega)):CfS prog GB C n Q0 fr own cf:=by
 unfold aFG at h
 split at h<;>try (cases h;done)
 rename_i hh
 split at h<;>cases h
 rename_i hx
 refine us hh (.x1 hx fun ρ G ov a w y _ r h1 h2=>?_) hgo hv k
 rw[aay] at h2;subst h2
 refine⟨_,aay.2 rfl,?_⟩
 rw[←e,←abQ]
 exact atA h1
end
theorem aBc{n:Int}(h0: -4611686018427387904≤n)(h1:n≤4611686018427387904):PF GB prog 76 [.v (.int .i64 n)] (eI n):=by
 refine fn func76 J J ntmps76 J J (fun C=>?_)
 refine br (fu1:=⟨3⟩) (fu2:=⟨6⟩) J J J (fun hc4=>?_) (fun hc4=>?_)
 ·
  refine cvw (fu:=⟨0⟩) (18446744073709551616+n) rfl (by omega) rfl<|ngw (n.natAbs:Nat) rfl (by omega) rfl<|cl rfl (agF (u:=n.natAbs) (by omega)) rfl<|?_
  refine cl rfl acG rfl<|?_
  exact rz rfl (aos (by unfold zv;rw[if_pos rfl];omega))
 ·
  refine eqF 11 (.d (.v (.int .u64 (n.natAbs:Nat)))) rfl (by show FX.d (.v (.int _ _))= .d (.v (.int _ _));congr 3;omega) ?_
  refine gx rfl<|cl rfl (agF (u:=n.natAbs) (by omega)) rfl<|cl rfl acG rfl<|?_
  exact rz rfl (aos (by unfold zv;rw[if_neg (by decide)];omega))
theorem apR{z:Int}:PF GB prog 89 [eI z] (vI z.sign):=by
 have hl:=aaA (dg z.natAbs)
 have hz:= @acq z.natAbs
 refine fn func89 J J ntmps89 J J (fun C=>?_)
 refine br J J J (fun hc6=>?_) (fun hc6=>?_)
 ·
  exact rz rfl (by show DV.v (.int _ 0)=DV.v (.int _ _);rw[show z=0 by omega];rfl)
 ·
  refine bd J J J (fun hc8=>?_) (fun hc8=>?_)
  ·
   exact rz rfl (by show DV.v (.int _ (-1))=DV.v (.int _ _);rw[fJ (by omega)])
  ·
   exact rz rfl (by show DV.v (.int _ 1)=DV.v (.int _ _);rw[gK (by omega)])
theorem ajc{z:Int}:PF GB prog 184 [eI z] (eI (-z)):=by
 refine fn func184 J J ntmps184 J J (fun C=>?_)
 refine cl rfl acG rfl<|?_
 exact rz rfl (aos (aCd z))
theorem awQ{a b:Int}(h:decide (a<0)=decide (b<0)):zv (decide (a<0)) (a.natAbs+b.natAbs)=a+b:=by
 unfold zv
 have h':a<0↔b<0:=by simpa using h
 by_cases q:a<0
 ·have:=h'.1 q
  simp[q];omega
 ·have: ¬b<0:=fun w=>q (h'.2 w)
  simp[q];omega
theorem ayi{a b:Int}(h: ¬decide (a<0)=decide (b<0))(k:a.natAbs<b.natAbs):zv (decide (b<0)) (b.natAbs-a.natAbs)=a+b:=by
 unfold zv
 have h': ¬(a<0↔b<0):=by simpa using h
 by_cases q:b<0
 ·have: ¬a<0:=fun w=>h' ⟨fun _=>q,fun _=>w⟩
  simp[q];omega
 ·have:a<0:=Int.not_le.1 fun w=>h' ⟨fun e=>by omega,fun e=>absurd e q⟩
  simp[q];omega
theorem azs{a b:Int}(h: ¬decide (a<0)=decide (b<0))(k:b.natAbs≤a.natAbs):zv (decide (a<0)) (a.natAbs-b.natAbs)=a+b:=by
 unfold zv
 have h': ¬(a<0↔b<0):=by simpa using h
 by_cases q:a<0
 ·have: ¬b<0:=fun w=>h' ⟨fun _=>w,fun _=>q⟩
  simp[q];omega
 ·have:b<0:=Int.not_le.1 fun w=>h' ⟨fun e=>absurd e q,fun e=>by omega⟩
  simp[q];omega
theorem avG{a b:Int}{i j:Nat}[ha:BI a i][hb:BI b j](hi:i≤400000000:=by decide)(hj:j≤400000000:=by decide):PF GB prog 105 [eI a,eI b] (eI (a+b)):=by
 have hba:=aa1 ha.h
 have hbb:=aa1 hb.h
 refine fn (fu:=⟨15⟩) func105 J J ntmps105 J J (fun C=>?_)
 refine eqF 9 (.d (.v (.bool (decide (decide (a<0)=decide (b<0)))))) rfl (by congr 2) ?_
 refine gx rfl<|?_
 refine bd J J J (fun hc9=>?_) (fun hc9=>?_)
 ·
  refine cl rfl (aDR (by omega) (by omega)) rfl<|cl rfl acG rfl<|?_
  exact rz rfl (aos (awQ hc9))
 ·
  refine cl rfl (atN (by omega) (by omega)) rfl<|?_
  refine br J J J (fun hc23=>?_) (fun hc23=>?_)
  ·
   refine cl rfl (arn (by have:=afA.1 hc23;omega) (by omega)) rfl<|cl rfl acG rfl<|?_
   exact rz rfl (aos (ayi hc9 (afA.1 hc23)))
  ·
   refine cl rfl (arn (qS fun q=>hc23 (afA.2 q)) (by omega)) rfl<|cl rfl acG rfl<|?_
   exact rz rfl (aos (azs hc9 (qS fun q=>hc23 (afA.2 q))))
theorem ana{a b:Int}{i j:Nat}[ha:BI a i][hb:BI b j](hi:i≤400000000:=by decide)(hj:j≤400000000:=by decide):PF GB prog 91 [eI a,eI b] (eI (a*b)):=by
 refine fn func91 J J ntmps91 J J (fun C=>?_)
 refine cl rfl (aci (by omega) (by omega)) rfl<|cl rfl acG rfl<|?_
 exact rz rfl (aos (aAD a b))
theorem ahe{a b:Int}{i j:Nat}[ha:BI a i][hb:BI b j](hi:i≤400000000:=by decide)(hj:j≤400000000:=by decide):PF GB prog 252 [eI a,eI b] (vI (a-b).sign):=by
 refine fn func252 J J ntmps252 J J (fun C=>?_)
 refine cl rfl ajc rfl<|cl rfl (avG (by omega) (by omega)) rfl<|cl rfl apR rfl<|?_
 exact rz rfl (by rw[Int.sub_eq_add_neg];rfl)
theorem aeR{q:Rat}:PF GB prog 93 [eQ q] (dN q.den):=by
 refine fn func93 J J ntmps93 J J (fun C=>?_)
 refine br J J J (fun hc6=>?_) (fun hc6=>?_)
 ·
  refine cl rfl aAu rfl<|?_
  exact rz rfl (by rw[(ajR q.den (abF q)).1 (by omega)];rfl)
 ·
  exact rz rfl (by exact aAY (fun e=>hc6 (by exact congrArg Int.ofNat ((ajR q.den (abF q)).2 e))))
theorem ahJ{n k:Nat}[h:BN n k](hk:k≤500000000):(dg n).length≤100000000:=by have:=aa1 h.h;omega
theorem ajo{x:Int}{d i j:Nat}[hx:BI x i][hd:BN d j](hd0:0<d)(hi:i≤200000000:=by decide)(hj:j≤200000000:=by decide):PF GB prog 75 [eI x,dN d] (eQ (mkRat x d)):=by
 obtain⟨q,hq⟩: ∃q,q=mkRat x d:=⟨_,rfl⟩
 obtain⟨g,hg⟩: ∃g,g=Nat.gcd x.natAbs d:=⟨_,rfl⟩
 have hg0:0<g:=hg▸pZ _ hd0
 haveI hgB:BN g (i+j):=hg▸inferInstance
 have hg1:(dg g).length≤100000000:=ahJ (k:=i+j) (by omega)
 have ho1:(dg 1).length≤100000000:=by rw[amI];decide
 haveI hqB:BQ q (i+j):=hq▸agh hd0 (cM hx.h (bK (by decide) (by omega))) (cM hd.h (bK (by decide) (by omega)))
 refine fn func75 J J ntmps75 J J (fun C=>?_)
 refine cl (fu:=⟨0⟩) rfl (ala (by omega) (by omega)) rfl<|?_
 refine eqF 11 (.d (dN g)) rfl (by rw[hg]) ?_
 refine gx (fu:=⟨4⟩) rfl<|?_
 refine mg (fu:=⟨1⟩) (X:=Unit) (fun _=>[(1, .d (dN q.den)),(2, .ov 2 0),(4, .ov 4 0)]) (fun _=>[(4,some (.o 52 [.ff, .nl, .nl] true)),(2,some (.o 50 [.d (.v (.bool (decide (q.num<0)))), .d (dN q.num.natAbs)] true))]) (fun _=>True) [1,2,4] [4,2] rfl ?_ (fun _=>rfl) (fun _ hm=>?_)
 ·
  refine gx rfl<|cl rfl aAu rfl<|cl rfl (atN hg1 ho1) rfl<|?_
  refine br J J J (fun hc15=>?_) (fun hc15=>?_)
  ·
   refine cl rfl (afp hg0 (by omega) (by omega)) rfl<|cl (fu:=⟨0⟩) rfl acG rfl<|?_
   refine eqF 26 (.d (eI q.num)) rfl (by show FX.d (eI (zv _ _))=_;rw[hg,axL hd0,hq]) ?_
   refine gx rfl<|cl (fu:=⟨2⟩) rfl (afp hg0 (by omega) (by omega)) rfl<|?_
   refine eqF 31 (.d (dN q.den)) rfl (by rw[hg,aya hd0,hq]) ?_
   refine gx rfl<|?_
   exact at_ () trivial
  ·
   have hm:=aCH (x:=x) hd0 (by rw[←hg];exact akH.1 (Decidable.not_not.1 hc15))
   rw[←hq] at hm
   refine eqF 1 (.d (dN q.den)) rfl (by rw[hm.2]) ?_
   exact at_ () trivial (hO:=⟨rfl,by rw[hm.1];rfl,trivial⟩)
 ·
  refine mg (X:=Unit) (fun _=>[(1, .d (dD q.den)),(2, .ov 2 0),(4, .ov 4 0)]) (fun _=>[(4,some (.o 52 [.ff, .nl, .nl] true)),(2,some (.o 50 [.d (.v (.bool (decide (q.num<0)))), .d (dN q.num.natAbs)] true))]) (fun _=>True) [1,2,4] [4,2] rfl ?_ (fun _=>rfl) (fun _ hm=>?_)
  ·
   refine gx rfl<|cl rfl aAu rfl<|cl rfl (atN (ahJ (k:=i+j) (by omega)) ho1) rfl<|?_
   refine br J J J (fun hc36=>?_) (fun hc36=>?_)
   ·
    refine nlD 1 rfl ?_
    refine eqF 1 (.d (dD q.den)) rfl (by rw[akH.1 hc36];rfl) ?_
    exact at_ () trivial
   ·
    refine eqF 1 (.d (dD q.den)) rfl (by rw[aAY (fun e=>hc36 (akH.2 e))]) ?_
    exact at_ () trivial
  ·
   exact rz rfl (by rw[←hq];rfl)
theorem aiL(a:Rat):mkRat a.num a.den=a:=by simp[Rat.mkRat_self]
theorem asC{a b:Rat}(h:b≠0):a/b=mkRat (a.num*zv (decide (b.num<0)) b.den) (a.den*b.num.natAbs):=by
 rw[lY]
 have ha:(a.num:Rat)/(a.den:Rat)=a:=by rw[←lY,aiL]
 have hb:(b.num:Rat)/(b.den:Rat)=b:=by rw[←lY,aiL]
 have h1:(a.den:Rat)≠0:=by have:=a.den_nz;exact_mod_cast this
 have h2:(b.den:Rat)≠0:=by have:=b.den_nz;exact_mod_cast this
 have h3:(b.num:Rat)≠0:=by
  intro e
  rw[e] at hb
  apply h;rw[←hb];grind
 rw[cV,Rat.natCast_mul]
 by_cases q:b.num<0
 ·have e1:((zv (decide (b.num<0)) b.den:Int):Rat)= -(b.den:Rat):=by
   unfold zv;rw[if_pos (by simpa using q),pY];rfl
  have e2:((b.num.natAbs:Nat):Rat)= -(b.num:Rat):=by
   have:((b.num.natAbs:Nat):Int)= -b.num:=by omega
   rw[←pY,←this];rfl
  rw[e1,e2]
  generalize (a.num:Rat)=an at*
  generalize (a.den:Rat)=ad at*
  generalize (b.num:Rat)=bn at*
  generalize (b.den:Rat)=bd at*
  subst ha hb
  grind
 ·have e1:((zv (decide (b.num<0)) b.den:Int):Rat)=(b.den:Rat):=by
   unfold zv;rw[if_neg (by simpa using q)];rfl
  have e2:((b.num.natAbs:Nat):Rat)=(b.num:Rat):=by
   have:((b.num.natAbs:Nat):Int)=b.num:=by omega
   rw[←this];rfl
  rw[e1,e2]
  generalize (a.num:Rat)=an at*
  generalize (a.den:Rat)=ad at*
  generalize (b.num:Rat)=bn at*
  generalize (b.den:Rat)=bd at*
  subst ha hb
  grind
theorem aqz{q:Rat}{n:Int}{d:Nat}(hd:0<d)(h:q*(d:Rat)=(n:Rat)):q.num.natAbs≤n.natAbs∧q.den≤d:=by
 have e:q=mkRat n d:=by
  rw[lY]
  have:(d:Rat)≠0:=by exact_mod_cast (by omega:d≠0)
  rw[←h];grind
 rw[e,Rat.num_mkRat,Rat.den_mkRat,if_neg (by omega),if_neg (by omega)]
 exact⟨mQ n (d.gcd n.natAbs:Nat),iV ..⟩
theorem BQ.of_frac{q:Rat}{n:Int}{d i:Nat}(hd:0<d)(h:q*(d:Rat)=(n:Rat))(hn:n.natAbs<2^i)(hdi:d<2^i):BQ q i:=by
 have:=aqz hd h
 exact⟨by omega,by omega⟩
theorem aks{b:Rat}(h:b≠0):0<b.num.natAbs:=by
 have:b.num≠0:=fun e=>h (nL.1 e)
 omega
instance BQ.over (a b:Rat) (i j:Nat) [ha:BQ a i] [hb:BQ b j]:BQ (a/b) (i+j):=by
 by_cases h:b=0
 ·subst h
  rw[Rat.div_def,Rat.inv_zero,Rat.mul_zero]
  have h2:=ha.hd
  have h3:0<a.den:=abF a
  have h4:2^i*1≤2^i*2^j:=dY _ (dJ (by decide))
  rw[←eK] at h4
  exact⟨by show 0<_;omega,by show 1<_;omega⟩
 ·rw[asC h]
  have hb0:=aks h
  refine agh (jK (abF a) hb0) ?_ (abi ha.hd hb.hn)
  rw[iW,afM]
  exact abi ha.hn hb.hd
theorem ale{n:Int}(h0: -4611686018427387904≤n)(h1:n≤4611686018427387904):PF GB prog 23 [.v (.int .i64 n)] (eQ (n:Rat)):=by
 refine fn func23 J J ntmps23 J J (fun C=>?_)
 refine cl rfl (aBc (by omega) (by omega)) rfl<|?_
 exact rz rfl (by rw[apU];rfl)
theorem q_S{q:Rat}:PF GB prog 33 [eQ q] (vI q.num.sign):=by
 refine fn func33 J J ntmps33 J J (fun C=>?_)
 refine cl rfl apR rfl<|?_
 exact rz J J
theorem alI{q:Rat}:PF GB prog 186 [eQ q] (eQ (-q)):=by
 refine fn func186 J J ntmps186 J J (fun C=>?_)
 refine cl rfl ajc rfl<|?_
 exact rz rfl (by unfold eQ;rw[nW,rQ];rfl)
theorem abn{a b:Rat}{i j:Nat}[ha:BQ a i][hb:BQ b j](hi:i≤20000000:=by decide)(hj:j≤20000000:=by decide):PF GB prog 44 [eQ a,eQ b] (eQ (a*b)):=by
 have had:=abF a
 have hbd:=abF b
 have hdp:=jK had hbd
 have e1:=ajR a.den had
 have e2:=ajR b.den hbd
 refine fn func44 J J ntmps44 J J (fun C=>?_)
 refine cs 9 J J J (fun hg9=>?_) (fun hg9=>?_)
 ·
  refine br J J J (fun hc14=>?_) (fun hc14=>?_)
  ·
   refine cl rfl (ana (a:=a.num) (b:=b.num) (by omega) (by omega)) rfl<|?_
   exact rz rfl (by rw[at7 (e1.1 (by omega)) (e2.1 (by omega)),apU];rfl)
  ·
   refine cl rfl (ana (a:=a.num) (b:=b.num) (by omega) (by omega)) rfl<|cl rfl aeR rfl<|cl rfl aeR rfl<|cl rfl (aci (by omega) (by omega)) rfl<|?_
   refine cl rfl (ajo hdp (by omega) (by omega)) rfl<|?_
   exact rz rfl (by rw[aen];rfl)
 ·
  refine cl rfl (ana (a:=a.num) (b:=b.num) (by omega) (by omega)) rfl<|cl rfl aeR rfl<|cl rfl aeR rfl<|cl rfl (aci (by omega) (by omega)) rfl<|?_
  refine cl rfl (ajo hdp (by omega) (by omega)) rfl<|?_
  exact rz rfl (by rw[aen];rfl)
theorem aeN{a b:Rat}{i j:Nat}[ha:BQ a i][hb:BQ b j](hi:i≤20000000:=by decide)(hj:j≤20000000:=by decide):PF GB prog 41 [eQ a,eQ b] (eQ (a+b)):=by
 have had:=abF a
 have hbd:=abF b
 have hdp:=jK had hbd
 have e1:=ajR a.den had
 have e2:=ajR b.den hbd
 refine fn func41 J J ntmps41 J J (fun C=>?_)
 refine cs 9 J J J (fun hg9=>?_) (fun hg9=>?_)
 ·
  refine br J J J (fun hc14=>?_) (fun hc14=>?_)
  ·
   refine cl rfl (avG (by omega) (by omega)) rfl<|?_
   exact rz rfl (by rw[avT (e1.1 (by omega)) (e2.1 (by omega)),apU];rfl)
  ·
   refine cl rfl aeR rfl<|cl rfl acG rfl<|cl rfl (ana (a:=a.num) (b:=zv false b.den) (by omega) (by omega)) rfl<|cl rfl aeR rfl<|cl rfl acG rfl<|?_
   refine cl rfl (ana (a:=b.num) (b:=zv false a.den) (by omega) (by omega)) rfl<|cl rfl (avG (by omega) (by omega)) rfl<|cl rfl aeR rfl<|?_
   refine cl rfl aeR rfl<|cl rfl (aci (by omega) (by omega)) rfl<|cl rfl (ajo hdp (by omega) (by omega)) rfl<|?_
   exact rz rfl (by rw[aej];rfl)
 ·
  refine cl rfl aeR rfl<|cl rfl acG rfl<|cl rfl (ana (a:=a.num) (b:=zv false b.den) (by omega) (by omega)) rfl<|cl rfl aeR rfl<|?_
  refine cl rfl acG rfl<|cl rfl (ana (a:=b.num) (b:=zv false a.den) (by omega) (by omega)) rfl<|cl rfl (avG (by omega) (by omega)) rfl<|?_
  refine cl rfl aeR rfl<|cl rfl aeR rfl<|cl rfl (aci (by omega) (by omega)) rfl<|cl rfl (ajo hdp (by omega) (by omega)) rfl<|?_
  exact rz rfl (by rw[aej];rfl)
theorem alt{a b:Rat}{i j:Nat}[ha:BQ a i][hb:BQ b j](hi:i≤20000000:=by decide)(hj:j≤20000000:=by decide):PF GB prog 149 [eQ a,eQ b] (eQ (a-b)):=by
 refine fn func149 J J ntmps149 J J (fun C=>?_)
 refine cl rfl (alI (q:=b)) rfl<|cl rfl (aeN (a:=a) (b:= -b) hi hj) rfl<|?_
 exact rz rfl (by rw[Rat.sub_eq_add_neg];rfl)
theorem ajX{a b:Rat}{i j:Nat}[ha:BQ a i][hb:BQ b j](hb0:b≠0)(hi:i≤20000000:=by decide)(hj:j≤20000000:=by decide):PF GB prog 35 [eQ a,eQ b] (eQ (a/b)):=by
 have hbp:=aks hb0
 have hdp:=jK (abF a) hbp
 refine fn func35 J J ntmps35 J J (fun C=>?_)
 refine cl rfl aeR rfl<|cl rfl acG rfl<|cl rfl (ana (a:=a.num) (b:=zv (decide (b.num<0)) b.den) (by omega) (by omega)) rfl<|cl rfl aeR rfl<|?_
 refine cl rfl (aci (a:=a.den) (b:=b.num.natAbs) (by omega) (by omega)) rfl<|cl rfl (ajo (x:=a.num*zv (decide (b.num<0)) b.den) (d:=a.den*b.num.natAbs) hdp (by omega) (by omega)) rfl<|?_
 exact rz rfl (by rw[asC hb0];rfl)
theorem q_C{a b:Rat}{i j:Nat}[ha:BQ a i][hb:BQ b j](hi:i≤20000000:=by decide)(hj:j≤20000000:=by decide):PF GB prog 90 [eQ a,eQ b] (vI (abc a b)):=by
 refine fn func90 J J ntmps90 J J (fun C=>?_)
 refine cl rfl (alt hi hj) rfl<|cl rfl q_S rfl<|?_
 exact rz rfl (by show vI _=vI _;rw[aih])
theorem aDa:((2:Int):Rat)≠0:=by decide
instance BI.two:BI 2 2:=⟨by decide⟩
theorem asj{a:Rat}{i:Nat}[ha:BQ a i](hi:i≤20000000:=by decide):PF GB prog 283 [eQ a] (eQ (a/2)):=by
 refine fn func283 J J ntmps283 J J (fun C=>?_)
 refine cl rfl (ale (n:=2) (by decide) (by decide)) rfl<|cl rfl (ajX (a:=a) (b:=((2:Int):Rat)) aDa hi (by decide)) rfl<|?_
 exact rz J J
theorem azd{a b:Rat}{i j:Nat}[ha:BQ a i][hb:BQ b j](hi:i≤2000000:=by decide)(hj:j≤2000000:=by decide):PF GB prog 284 [eQ a,eQ b] (eQ ((a+b)/2)):=by
 refine fn func284 J J ntmps284 J J (fun C=>?_)
 refine cl rfl (aeN (by omega) (by omega)) rfl<|cl rfl (asj (a:=a+b) (by omega)) rfl<|?_
 exact rz J J
theorem aCk{m:Int}{g:Nat}(hg:(g:Int)∣m)(hb:m.natAbs<4611686018427387904):IntKind.i64.wrap (m.tdiv g)=m/g:=by
 rw[Int.tdiv_eq_ediv_of_dvd hg]
 have:=mQ m g
 exact alV (by omega)
def tm(a b:Int):Int:=if(a*b).natAbs<4611686018427387904 then a*b else 0
theorem ay0(a b:Int):(tm a b).natAbs<4611686018427387904:=by unfold tm;split<;>omega
theorem asr{a b:Int}(h:(a*b).natAbs<4611686018427387904):tm a b=a*b:=if_pos h
theorem aBC{a b:Int}(h: ¬(a*b).natAbs<4611686018427387904):DV.tp [vI 0, .v (.bool false)]= .tp [vI (tm a b),vB (decide ((a*b).natAbs<4611686018427387904))]:=by unfold tm;rw[if_neg h,decide_eq_false h];rfl
theorem axk{a b:Int}{x:Int}(h:(a*b).natAbs<4611686018427387904)(e:x=a*b):DV.tp [vI x, .v (.bool true)]= .tp [vI (tm a b),vB (decide ((a*b).natAbs<4611686018427387904))]:=by unfold tm;rw[if_pos h,decide_eq_true h,e];rfl
theorem axe(n:Nat):eI (n:Int)= .ag [.v (.bool false),dN n]:=by unfold eI;rw[decide_eq_false (by omega),iR]
theorem aDf{p q:Rat}(hp:p.den=1)(hq:q.den=1):rgcd p q=((Nat.gcd p.num.natAbs q.num.natAbs:Nat):Int):=by
 conv=>lhs;rw[akK hp,akK hq]
 exact agG _ _
theorem ayx(q:Rat):mkRat (zv (decide (q.num<0)) q.den) q.num.natAbs=q⁻¹:=by
 rw[Rat.inv_def]
 by_cases h:q.num<0
 ·rw[decide_eq_true h];exact ak0 h
 ·rw[decide_eq_false h,←Rat.divInt_ofNat,mX (by omega)];rfl
instance BQ.inv (q:Rat) (i:Nat) [h:BQ q i]:BQ q⁻¹ i:=by
 have h1:=h.hn
 have h2:=h.hd
 have h3:=q.den_nz
 rcases pM q.num 0 with k|k|k
 ·obtain⟨e1,e2⟩:=aiw k;exact⟨by omega,by omega⟩
 ·have e:q=0:=nL.1 k
  have e0:(0:Rat)⁻¹=0:=Rat.inv_zero
  rw[e] at h1 h2⊢;rw[e0];exact⟨h1,h2⟩
 ·obtain⟨e1,e2⟩:=ajz k;exact⟨by omega,by omega⟩
instance BQ.half:BQ (mkRat 1 2) 2:=⟨by decide,by decide⟩
theorem azr{x y:Nat}(hx:x<18446744073709551616)(hy:y<18446744073709551616):PF GB prog 211 [.v (.int .u64 (x:Nat)), .v (.int .u64 (y:Nat))] (.tp [.v (.int .u64 ((x*y/18446744073709551616:Nat):Int)), .v (.int .u64 ((x*y%18446744073709551616:Nat):Int))]):=fun G vs _ hv=>by
 obtain⟨v,m,rfl,h1,h2⟩:=aac.1 hv
 obtain⟨u,m',rfl,h3,h4⟩:=aac.1 h2
 cases aaM.1 h4
 rw[aa2.1 h1,aa2.1 h3]
 exact(aop hx hy).mono fun v G' _ h=>by subst h;exact ad1.2 ⟨_,rfl, .cons (aa2.2 rfl) (.cons (aa2.2 rfl) .nil)⟩
theorem aBk{a b:Nat}(ha:a<18446744073709551616)(hb:b<18446744073709551616):PF GB prog 213 [.v (.int .u64 (a:Nat)), .v (.int .u64 (b:Nat))] (.v (.int .u64 (Nat.gcd a b:Nat))):=by
 refine fn func213 J J ntmps213 J J (fun C=>?_)
 refine lp (X:=Nat×Nat) (fun⟨u,v⟩=>[(1, .d (.v (.int .u64 (v:Nat)))),(0, .d (.v (.int .u64 (u:Nat))))]) (fun⟨u,v⟩=>[]) (fun⟨u,v⟩=>u<18446744073709551616∧v<18446744073709551616∧Nat.gcd u v=Nat.gcd a b) (fun⟨u,v⟩=>v) (a,b) rfl ⟨ha,hb,rfl⟩ (fun _=>rfl) (fun⟨u,v⟩ hk=>?_)
 dsimp only at hk⊢
 obtain⟨h1,h2,h3⟩:=hk
 refine br (v1:=fun hc6=>by simp only[aah];exact⟨by omega,by kernel_rfl⟩) J J J (fun hc6=>?_) (fun hc6=>?_)
 ·
  have hm:=cS u (show 0<v by omega)
  exact at_ (v,u%v) (by dsimp only;exact⟨⟨h2,by omega,by rw[←h3,iX u v,rS v u,iX]⟩,hm⟩)
 ·
  exact rz rfl (by rw[←h3,show v=0 by omega,lR];rfl)
theorem aip{m:Int}(h:m.natAbs<9223372036854775808):PF GB prog 138 [vI m] (eF (m:Rat)):=by
 refine fn func138 J J ntmps138 J J (fun C=>?_)
 refine cs 5 J J J (fun hg5=>?_) (fun hg5=>?_)
 ·
  refine cl rfl (ai5 (m:=m) (by omega) (by omega)) rfl<|rf (fu:=⟨0⟩) J J<|?_
  refine eqF 11 (.d (dN 1)) rfl (by unfold dN;rw[amI];rfl) ?_
  refine gx rfl<|cl rfl (aeH (n:=decide (m<0)) (a:=m.natAbs) (i:=63) (h:=⟨h⟩) (d:=1)) rfl<|?_
  exact rz rfl (by rw[adA,show mkRat m 1=(m:Rat) from qL ..];rfl)
 ·
  refine br J J J (fun hc8=>?_) (fun hc8=>?_)
  ·
   refine cl rfl (ai5 (m:=m) (by omega) (by omega)) rfl<|rf (fu:=⟨0⟩) J J<|?_
   refine eqF 11 (.d (dN 1)) rfl (by unfold dN;rw[amI];rfl) ?_
   refine gx rfl<|cl rfl (aeH (n:=decide (m<0)) (a:=m.natAbs) (i:=63) (h:=⟨h⟩) (d:=1)) rfl<|?_
   exact rz rfl (by rw[adA,show mkRat m 1=(m:Rat) from qL ..];rfl)
  ·
   exact rzI rfl (aFs (by omega))
theorem aij{a b:Int}(ha:a.natAbs<4611686018427387904)(hb:b.natAbs<4611686018427387904):PF GB prog 156 [vI a,vI b] (.tp [vI (tm a b),vB (decide ((a*b).natAbs<4611686018427387904))]):=by
 have hab:=iW a b
 refine fn func156 J J ntmps156 J J (fun C=>?_)
 refine cl rfl (asP (m:=a) (by omega)) rfl<|cl rfl (asP (m:=b) (by omega)) rfl<|cl rfl (azr (x:=a.natAbs) (y:=b.natAbs) (by omega) (by omega)) rfl<|?_
 refine cs 18 J J J (fun hg18=>?_) (fun hg18=>?_)
 ·
  exact rz rfl (aBC (by omega))
 ·
  refine br J J J (fun hc21=>?_) (fun hc21=>?_)
  ·
   exact rz rfl (aBC (by omega))
  ·
   refine bb J J J (fun hc26=>?_) (fun hc26=>?_)
   ·
    have hs:=amG a b
    rw[if_neg (by simpa using hc26)] at hs
    exact rz rfl (axk (by omega) (by rw[hs,←hab];omega))
   ·
    have hs:=amG a b
    rw[if_pos (by simpa using hc26)] at hs
    exact rz rfl (axk (by omega) (by rw[hs,←hab];omega))
theorem ap9{m:Int}{d:Nat}(h:m.natAbs<4611686018427387904)(h0:0<d)(hd:d<4611686018427387904):PF GB prog 157 [vI m,vI (d:Nat)] (eF (mkRat m d)):=by
 have hg:Nat.gcd m.natAbs d≤d:=Nat.gcd_le_right _ h0
 have hg0:0<Nat.gcd m.natAbs d:=pZ _ h0
 obtain⟨e1,e2⟩:=ark (m:=m) h0
 have e3:=mQ m (Nat.gcd m.natAbs d:Nat)
 have e4:=iV d (Nat.gcd m.natAbs d)
 have e5:=Nat.div_pos hg hg0
 refine fn func157 J J ntmps157 J J (fun C=>?_)
 refine cl rfl (asP (m:=m) (by omega)) rfl<|cl rfl (aBk (a:=m.natAbs) (b:=d) (by omega) (by omega)) rfl<|?_
 refine br (fu1:=⟨4⟩) J J J (fun hc13=>?_) (fun hc13=>?_)
 ·
  refine eqF 16 (.d (vI (m/(Nat.gcd m.natAbs d:Nat)))) rfl (by rw[aCk (Int.dvd_natAbs.1 (pS.2 (lT _ _))) h];rfl) ?_
  refine gx (fu:=⟨3⟩) rfl<|?_
  refine eqF 19 (.d (vI ((d/Nat.gcd m.natAbs d:Nat)))) rfl (by rw[aCk (pS.2 (mJ _ _)) (by rw[iR];exact hd)];rfl) ?_
  refine gx (hv:=by simp only[aah];exact⟨by kernel_rfl,by omega⟩) rfl<|?_
  exact rzI rfl (avV (fun k=>k ⟨by rw[e1];omega,by rw[e2];omega⟩) e1 (by rw[e2]) rfl)
 ·
  exact rzI rfl (by have h1:Nat.gcd m.natAbs d=1:=(by omega);rw[h1,rL] at e2;rw[h1,Int.natCast_one,Int.ediv_one] at e1;exact avV (fun k=>k ⟨by rw[e1];omega,by rw[e2];omega⟩) e1 (by rw[e2]) rfl)
theorem aeO{p q:Rat}{i j:Nat}[h:BQ p i][k:BQ q j](hi:i≤100000000:=by decide)(hj:j≤100000000:=by decide):PF GB prog 87 [eF p,eF q] (eF (p*q)):=by
 refine fn (fu:=⟨8⟩) func87 J J ntmps87 J J (fun C=>?_)
 refine mg (X:=Unit) (fun _=>[(2, .ov 2 0),(3, .ov 3 0),(4, .ov 4 0)]) (fun _=>[(2,some (.o 142 [.d (vI (fn_ p)), .d (vI (fd_ p)), .d (fp_ p)] true)),(3,some (.o 142 [.d (vI (fn_ q)), .d (vI (fd_ q)), .d (fp_ q)] true)),(4,some (.o 142 [.d (.v (.int .i64 0)), .d (.v (.int .i64 0)), .d (.v (.pointer none))] true))]) (fun _=>True) [2,3,4] [2,3,4] rfl ?_ (fun _=>rfl) (fun _ _=>?_)
 ·
  refine gx rfl<|?_
  refine cs 12 J J J (fun hg12=>?_) (fun hg12=>?_)
  ·
   refine br (fu1:=⟨4⟩) J J J (fun hc16=>?_) (fun hc16=>?_)
   ·
    have hp:=bgF hg12
    have hq:=bgF hc16
    have p1:=apz hp
    have p2:=aq3 hp
    have p3:=adx hp
    have p4:=adv hp
    have p5:=p.den_nz
    have q1:=apz hq
    have q2:=aq3 hq
    have q3:=adx hq
    have q4:=adv hq
    have q5:=q.den_nz
    refine eqF 19 (.d (vI p.num)) rfl (by rw[p1]) ?_
    refine gx (fu:=⟨2⟩) rfl<|?_
    refine eqF 21 (.d (vI q.num)) rfl (by rw[q1]) ?_
    refine gx rfl<|cl (fu:=⟨12⟩) rfl (aij (a:=p.num) (b:=q.num) (by omega) (by omega)) rfl<|?_
    refine eqF 28 (.d (vI (p.den:Nat))) rfl (by congr 3;omega) ?_
    refine gx (fu:=⟨3⟩) rfl<|?_
    refine eqF 31 (.d (vI (q.den:Nat))) rfl (by congr 3;omega) ?_
    refine gx rfl<|cl rfl (aij (a:=(p.den:Nat)) (b:=(q.den:Nat)) (by omega) (by omega)) rfl<|?_
    refine csd 36 J J J (fun hg36=>?_) (fun hg36=>?_)
    ·
     refine bd (fu1:=⟨3⟩) J J J (fun hc38=>?_) (fun hc38=>?_)
     ·
      have hd1:p.den*q.den<4611686018427387904:=by omega
      refine eqF 39 (.d (vI (p.num*q.num))) rfl (by rw[asr hg36]) ?_
      refine gx (fu:=⟨1⟩) rfl<|?_
      refine eqF 40 (.d (vI ((p.den*q.den:Nat)))) rfl (by rw[asr hc38];rfl) ?_
      refine gx rfl<|cl rfl (ap9 (m:=p.num*q.num) (d:=p.den*q.den) hg36 (jK (by omega) (by omega)) hd1) rfl<|?_
      exact rz rfl (by rw[←aen];rfl)
     ·
      exact at_ () trivial
    ·
     exact at_ () trivial
   ·
    exact at_ () trivial
  ·
   exact at_ () trivial
 ·
  refine cl rfl (aoi (q:=p) (by omega)) rfl<|cl rfl (aoi (q:=q) (by omega)) rfl<|cl rfl (as5 (a:=p.num) (b:=q.num) (by omega) (by omega)) rfl<|?_
  refine cl rfl (ajg (q:=p) (by omega)) rfl<|cl rfl (ajg (q:=q) (by omega)) rfl<|cl rfl (aq1 (a:=p.den) (b:=q.den) (by omega) (by omega)) rfl<|?_
  refine cl rfl (aeH (n:=decide (p.num*q.num<0)) (a:=(p.num*q.num).natAbs) (d:=p.den*q.den) (i:=i+j) (j:=i+j) (by omega) (by omega)) rfl<|?_
  exact rz rfl (by rw[adA,←aen];rfl)
theorem agO{p q:Rat}{i j:Nat}[h:BQ p i][k:BQ q j](hi:i≤100000000:=by decide)(hj:j≤100000000:=by decide):PF GB prog 88 [eF p,eF q] (eF (p+q)):=by
 refine fn (fu:=⟨8⟩) func88 J J ntmps88 J J (fun C=>?_)
 refine mg (X:=Unit) (fun _=>[(2, .ov 2 0),(3, .ov 3 0),(4, .ov 4 0)]) (fun _=>[(2,some (.o 142 [.d (vI (fn_ p)), .d (vI (fd_ p)), .d (fp_ p)] true)),(3,some (.o 142 [.d (vI (fn_ q)), .d (vI (fd_ q)), .d (fp_ q)] true)),(4,some (.o 142 [.d (.v (.int .i64 0)), .d (.v (.int .i64 0)), .d (.v (.pointer none))] true))]) (fun _=>True) [2,3,4] [2,3,4] rfl ?_ (fun _=>rfl) (fun _ _=>?_)
 ·
  refine gx rfl<|?_
  refine cs 16 J J J (fun hg16=>?_) (fun hg16=>?_)
  ·
   refine br (fu1:=⟨1⟩) J J J (fun hc20=>?_) (fun hc20=>?_)
   ·
    have hp:=bgF hg16
    have hq:=bgF hc20
    have p1:=apz hp
    have p2:=aq3 hp
    have p3:=adx hp
    have p4:=adv hp
    have p5:=p.den_nz
    have q1:=apz hq
    have q2:=aq3 hq
    have q3:=adx hq
    have q4:=adv hq
    have q5:=q.den_nz
    refine mg (fu:=⟨4⟩) (X:=Unit) (fun _=>[(2, .ov 2 0),(3, .ov 3 0),(4, .ov 4 0)]) (fun _=>[(2,some (.o 142 [.d (vI (fn_ p)), .d (vI (fd_ p)), .d (fp_ p)] true)),(3,some (.o 142 [.d (vI (fn_ q)), .d (vI (fd_ q)), .d (fp_ q)] true)),(4,some (.o 142 [.d (.v (.int .i64 0)), .d (.v (.int .i64 0)), .d (.v (.pointer none))] true))]) (fun _=>True) [2,3,4] [2,3,4] rfl ?_ (fun _=>rfl) (fun _ _=>?_)
    ·
     refine gx rfl<|?_
     refine cs 24 J J J (fun hg24=>?_) (fun hg24=>?_)
     ·
      refine br (fu1:=⟨4⟩) J J J (fun hc28=>?_) (fun hc28=>?_)
      ·
       refine eqF 30 (.d (vI p.num)) rfl (by rw[p1]) ?_
       refine gx (fu:=⟨2⟩) rfl<|?_
       refine eqF 32 (.d (vI q.num)) rfl (by rw[q1]) ?_
       refine gx rfl<|cl rfl (aip (m:=p.num+q.num) (by omega)) rfl<|?_
       exact rz rfl (by rw[akK (q:=p) (by omega),akK (q:=q) (by omega),←pK];rfl)
      ·
       exact at_ () trivial
     ·
      exact at_ () trivial
    ·
     refine eqF 37 (.d (vI p.num)) rfl (by rw[p1]) ?_
     refine gx (fu:=⟨3⟩) rfl<|?_
     refine eqF 40 (.d (vI (q.den:Nat))) rfl (by congr 3;omega) ?_
     refine gx rfl<|cl (fu:=⟨11⟩) rfl (aij (a:=p.num) (b:=(q.den:Nat)) (by omega) (by omega)) rfl<|?_
     refine eqF 46 (.d (vI q.num)) rfl (by rw[q1]) ?_
     refine gx (fu:=⟨3⟩) rfl<|?_
     refine eqF 49 (.d (vI (p.den:Nat))) rfl (by congr 3;omega) ?_
     refine gx rfl<|cl (fu:=⟨12⟩) rfl (aij (a:=q.num) (b:=(p.den:Nat)) (by omega) (by omega)) rfl<|?_
     refine eqF 56 (.d (vI (p.den:Nat))) rfl (by congr 3;omega) ?_
     refine gx (fu:=⟨3⟩) rfl<|?_
     refine eqF 59 (.d (vI (q.den:Nat))) rfl (by congr 3;omega) ?_
     refine gx rfl<|cl (fu:=⟨3⟩) rfl (aij (a:=(p.den:Nat)) (b:=(q.den:Nat)) (by omega) (by omega)) rfl<|?_
     have t1:=ay0 p.num (q.den:Nat)
     have t2:=ay0 q.num (p.den:Nat)
     have t3:=ay0 (p.den:Nat) (q.den:Nat)
     refine gx rfl<|?_
     refine csd 67 J J J (fun hg67=>?_) (fun hg67=>?_)
     ·
      refine csd 70 J J J (fun hg70=>?_) (fun hg70=>?_)
      ·
       refine csd 73 J J J (fun hg73=>?_) (fun hg73=>?_)
       ·
        refine cs 77 J J J (fun hg77=>?_) (fun hg77=>?_)
        ·
         refine br (fu1:=⟨3⟩) J J J (fun hc80=>?_) (fun hc80=>?_)
         ·
          have u1:=asr hg67
          have u2:=asr hg70
          have u3:=asr hg73
          have hd1:p.den*q.den<4611686018427387904:=by omega
          refine eqF 81 (.d (vI (p.num*(q.den:Nat)+q.num*(p.den:Nat)))) rfl (by rw[u1,u2];rfl) ?_
          refine gx (fu:=⟨1⟩) rfl<|?_
          refine eqF 82 (.d (vI ((p.den*q.den:Nat)))) rfl (by rw[u3];rfl) ?_
          refine gx rfl<|cl rfl (ap9 (m:=p.num*(q.den:Nat)+q.num*(p.den:Nat)) (d:=p.den*q.den) (by omega) (jK (by omega) (by omega)) hd1) rfl<|?_
          exact rz rfl (by rw[←aej];rfl)
         ·
          exact at_ () trivial
        ·
         exact at_ () trivial
       ·
        exact at_ () trivial
      ·
       exact at_ () trivial
     ·
      exact at_ () trivial
   ·
    exact at_ () trivial
  ·
   exact at_ () trivial
 ·
  refine cl rfl (aoi (q:=p) (by omega)) rfl<|cl (fu:=⟨1⟩) rfl (ajg (q:=q) (by omega)) rfl<|?_
  refine eqF 88 (.d (eI (q.den:Nat))) rfl (by rw[axe]) ?_
  refine gx rfl<|cl rfl (as5 (a:=p.num) (b:=(q.den:Nat)) (by omega) (by omega)) rfl<|cl rfl (aoi (q:=q) (by omega)) rfl<|cl (fu:=⟨1⟩) rfl (ajg (q:=p) (by omega)) rfl<|?_
  refine eqF 94 (.d (eI (p.den:Nat))) rfl (by rw[axe]) ?_
  refine gx rfl<|cl rfl (as5 (a:=q.num) (b:=(p.den:Nat)) (by omega) (by omega)) rfl<|cl rfl (aCq (a:=p.num*(q.den:Nat)) (b:=q.num*(p.den:Nat)) (i:=i+j) (j:=j+i) (by omega) (by omega)) rfl<|?_
  refine cl rfl (ajg (q:=p) (by omega)) rfl<|cl rfl (ajg (q:=q) (by omega)) rfl<|cl rfl (aq1 (a:=p.den) (b:=q.den) (by omega) (by omega)) rfl<|?_
  refine cl rfl (aeH (n:=decide (p.num*(q.den:Nat)+q.num*(p.den:Nat)<0)) (a:=(p.num*(q.den:Nat)+q.num*(p.den:Nat)).natAbs) (d:=p.den*q.den) (i:=i+j+(j+i)+1) (j:=i+j) (by omega) (by omega)) rfl<|?_
  exact rz rfl (by rw[adA,←aej];rfl)
theorem ahL{p q:Rat}{i j:Nat}[h:BQ p i][k:BQ q j](hi:i≤100000000:=by decide)(hj:j≤100000000:=by decide):PF GB prog 210 [eF p,eF q] (eF (p-q)):=by
 refine fn func210 J J ntmps210 J J (fun C=>?_)
 refine cl rfl (ahM (q:=q) (by omega)) rfl<|cl rfl (agO (p:=p) (q:= -q) (by omega) (by omega)) rfl<|?_
 exact rz rfl (by rw[←Rat.sub_eq_add_neg];rfl)
theorem aCF{q:Rat}{i:Nat}[h:BQ q i](hi:i≤400000000:=by decide):PF GB prog 85 [eF q] (eF q⁻¹):=by
 refine fn func85 J J ntmps85 J J (fun C=>?_)
 refine br (v1:=fun hc3=>by simp only[aah];exact⟨⟨hc3,hc3⟩,hc3⟩) J J J (fun hc3=>?_) (fun hc3=>?_)
 ·
  refine cl rfl (aeH (n:=decide (q.num<0)) (a:=q.den) (d:=q.num.natAbs) (by omega) (by omega)) rfl<|?_
  exact rz rfl (by rw[ayx];rfl)
 ·
  have q1:=apz (aqy hc3)
  have q2:=aq3 (aqy hc3)
  have q3:=adx (aqy hc3)
  have q4:=adv (aqy hc3)
  have q5:=q.den_nz
  refine br J J J (fun hc26=>?_) (fun hc26=>?_)
  ·
   exact rzI rfl (by obtain⟨e1,e2⟩:=aiw (q:=q) (by omega);exact avV (fun k=>k ⟨by omega,by omega⟩) (by omega) (by omega) rfl)
  ·
   refine br J J J (fun hc39=>?_) (fun hc39=>?_)
   ·
    exact rzI rfl (by rw[nL.1 (show q.num=0 by omega),Rat.inv_zero];exact aDC)
   ·
    exact rzI rfl (by obtain⟨e1,e2⟩:=ajz (q:=q) (by omega);exact avV (fun k=>k ⟨by omega,by omega⟩) (by omega) (by omega) rfl)
theorem aky{p q:Rat}{i j:Nat}[h:BQ p i][k:BQ q j](hi:i≤100000000:=by decide)(hj:j≤100000000:=by decide):PF GB prog 139 [eF p,eF q] (eF (p/q)):=by
 refine fn func139 J J ntmps139 J J (fun C=>?_)
 refine cl rfl (aCF (q:=q) (by omega)) rfl<|cl rfl (aeO (p:=p) (q:=q⁻¹) (by omega) (by omega)) rfl<|?_
 exact rz rfl (by rw[Rat.div_def];rfl)
theorem aA2{G:Gh}{q r:DV}{t:List DV}{vs:List Value}(h: ∀y,Is G r y→Is G q y)(hv:IsLs G (r::t) vs):IsLs G (q::t) vs:=by
 obtain⟨y,m,rfl,h1,h2⟩:=aac.1 hv
 exact .cons (h _ h1) h2
theorem asz{G:Gh}{a q r:DV}{t:List DV}{vs:List Value}(h: ∀y,Is G r y→Is G q y)(hv:IsLs G (a::r::t) vs):IsLs G (a::q::t) vs:=by
 obtain⟨y,m,rfl,h1,h2⟩:=aac.1 hv
 exact .cons h1 (aA2 h h2)
theorem azk{q:Rat}{i:Nat}[h:BQ q i](hi:i≤100000000:=by decide):PF GB prog 87 [eF q, .ag [vI 1,vI 1, .v (.pointer none)]] (eF (q*mkRat 1 2)):=
 (aeO (p:=q) (q:=mkRat 1 2) hi).ofI fun G vs hv=>asz (fun y hy=>avV (q:=mkRat 1 2) (fun k=>k ⟨by decide,by decide⟩) (by decide) (by decide) rfl G y hy) hv
theorem auq{q:Rat}{i:Nat}[h:BQ q i](hi:i≤100000000:=by decide):PF GB prog 150 [eF q] (eF (q*mkRat 1 2)):=by
 refine fn func150 J J ntmps150 J J (fun C=>?_)
 refine cl rfl (azk (q:=q) (by omega)) rfl<|?_
 exact rz J J
theorem aiJ{p q:Rat}{i j:Nat}[h:BQ p i][k:BQ q j](hi:i≤100000000:=by decide)(hj:j≤100000000:=by decide):PF GB prog 164 [eF p,eF q] (vI (abc p q)):=by
 refine fn func164 J J ntmps164 J J (fun C=>?_)
 refine cs 8 J J J (fun hg8=>?_) (fun hg8=>?_)
 ·
  refine cs 13 J J J (fun hg13=>?_) (fun hg13=>?_)
  ·
   refine br J J J (fun hc19=>?_) (fun hc19=>?_)
   ·
    have hp:=bgF hg8
    have hq:=bgF hg13
    have p1:=apz hp
    have p2:=aq3 hp
    have p3:=adx hp
    have p4:=adv hp
    have p5:=p.den_nz
    have q1:=apz hq
    have q2:=aq3 hq
    have q3:=adx hq
    have q4:=adv hq
    have q5:=q.den_nz
    have hl:=arM (a:=p) (b:=q) (by omega)
    have hr:=arM (a:=q) (b:=p) (by omega)
    unfold abc
    refine br J J J (fun hc20=>?_) (fun hc20=>?_)
    ·
     exact rz rfl (by rw[if_pos (hl.2 (by omega))];rfl)
    ·
     refine br J J J (fun hc26=>?_) (fun hc26=>?_)
     ·
      exact rz rfl (by rw[if_neg (fun e=>by have:=hl.1 e;omega),if_pos (hr.2 (by omega))];rfl)
     ·
      exact rz rfl (by rw[if_neg (fun e=>by have:=hl.1 e;omega),if_neg (fun e=>by have:=hr.1 e;omega)];rfl)
   ·
    refine cl rfl (ahL (p:=p) (q:=q) (by omega) (by omega)) rfl<|cl rfl (ac5 (q:=p-q) (by omega)) rfl<|?_
    exact rz rfl (by rw[aih];rfl)
  ·
   refine cl rfl (ahL (p:=p) (q:=q) (by omega) (by omega)) rfl<|cl rfl (ac5 (q:=p-q) (by omega)) rfl<|?_
   exact rz rfl (by rw[aih];rfl)
 ·
  refine cl rfl (ahL (p:=p) (q:=q) (by omega) (by omega)) rfl<|cl rfl (ac5 (q:=p-q) (by omega)) rfl<|?_
  exact rz rfl (by rw[aih];rfl)
theorem aid{p q:Rat}{i j:Nat}[h:BQ p i][k:BQ q j](hi:i≤100000000:=by decide)(hj:j≤100000000:=by decide):PF GB prog 265 [eF p,eF q] (vB (decide (p=q))):=by
 refine fn func265 J J ntmps265 J J (fun C=>?_)
 refine cl rfl (aiJ (p:=p) (q:=q) hi hj) rfl<|?_
 exact rz rfl (by show DV.v (.bool (decide _))= .v (.bool _);congr 2;exact decide_eq_decide.2 (aeA p q))
theorem aC3{p q:Rat}{i j:Nat}[h:BQ p i][k:BQ q j](hi:i≤100000000:=by decide)(hj:j≤100000000:=by decide):PF GB prog 99 [eF p,eF q] (eF (if p<q then q else p)):=by
 refine fn func99 J J ntmps99 J J (fun C=>?_)
 refine cl rfl (aiJ (p:=q) (q:=p) hj hi) rfl<|?_
 refine br J J J (fun hc8=>?_) (fun hc8=>?_)
 ·
  exact rz rfl (by rw[if_pos ((aoU q p).1 hc8)];rfl)
 ·
  exact rz rfl (by rw[if_neg (fun e=>hc8 ((aoU q p).2 e))];rfl)
theorem aC0{p q:Rat}{i j:Nat}[h:BQ p i][k:BQ q j](hi:i≤100000000:=by decide)(hj:j≤100000000:=by decide):PF GB prog 98 [eF p,eF q] (eF (if q<p then q else p)):=by
 refine fn func98 J J ntmps98 J J (fun C=>?_)
 refine cl rfl (aiJ (p:=q) (q:=p) hj hi) rfl<|?_
 refine br J J J (fun hc8=>?_) (fun hc8=>?_)
 ·
  exact rz rfl (by rw[if_pos ((aoH q p).1 hc8)];rfl)
 ·
  exact rz rfl (by rw[if_neg (fun e=>hc8 ((aoH q p).2 e))];rfl)
theorem ahH{p q:Rat}{i j:Nat}[h:BQ p i][k:BQ q j](hi:i≤100000000:=by decide)(hj:j≤100000000:=by decide):PF GB prog 264 [eF p,eF q] (eF (rgcd p q)):=by
 refine fn (fu:=⟨8⟩) func264 J J ntmps264 J J (fun C=>?_)
 refine mg (X:=Unit) (fun _=>[(2, .ov 2 0),(3, .ov 3 0),(4, .ov 4 0)]) (fun _=>[(2,some (.o 142 [.d (vI (fn_ p)), .d (vI (fd_ p)), .d (fp_ p)] true)),(3,some (.o 142 [.d (vI (fn_ q)), .d (vI (fd_ q)), .d (fp_ q)] true)),(4,some (.o 142 [.d (.v (.int .i64 0)), .d (.v (.int .i64 0)), .d (.v (.pointer none))] true))]) (fun _=>True) [2,3,4] [2,3,4] rfl ?_ (fun _=>rfl) (fun _ _=>?_)
 ·
  refine gx rfl<|?_
  refine cs 10 J J J (fun hg10=>?_) (fun hg10=>?_)
  ·
   refine cs 15 J J J (fun hg15=>?_) (fun hg15=>?_)
   ·
    have hp:=bgF hg10
    have hq:=bgF hg15
    have p1:=apz hp
    have p2:=aq3 hp
    have p3:=adx hp
    have p4:=adv hp
    have p5:=p.den_nz
    have q1:=apz hq
    have q2:=aq3 hq
    have q3:=adx hq
    have q4:=adv hq
    have q5:=q.den_nz
    refine cs 20 J J J (fun hg20=>?_) (fun hg20=>?_)
    ·
     refine br (fu1:=⟨4⟩) J J J (fun hc24=>?_) (fun hc24=>?_)
     ·
      have hg:=aDc p3 q3
      refine eqF 26 (.d (vI p.num)) rfl (by rw[p1]) ?_
      refine gx rfl<|cl (fu:=⟨2⟩) rfl (asP (m:=p.num) (by omega)) rfl<|?_
      refine eqF 29 (.d (vI q.num)) rfl (by rw[q1]) ?_
      refine gx rfl<|cl rfl (asP (m:=q.num) (by omega)) rfl<|cl (hv:=by simp only[aah];exact⟨by omega,by kernel_rfl⟩) rfl (aBk (a:=p.num.natAbs) (b:=q.num.natAbs) (by omega) (by omega)) rfl<|?_
      exact rzI rfl (by rw[aDf (p:=p) (q:=q) (by omega) (by omega)];exact aFs (by rw[iR];exact hg))
     ·
      exact at_ () trivial
    ·
     exact at_ () trivial
   ·
    exact at_ () trivial
  ·
   exact at_ () trivial
 ·
  refine cl rfl (ajg (q:=p) (by omega)) rfl<|cl rfl (ajg (q:=q) (by omega)) rfl<|cl rfl (aq1 (a:=p.den) (b:=q.den) (by omega) (by omega)) rfl<|?_
  refine cl rfl (aoi (q:=p) (by omega)) rfl<|cl rfl (ajg (q:=q) (by omega)) rfl<|cl rfl (aq1 (a:=p.num.natAbs) (b:=q.den) (by omega) (by omega)) rfl<|?_
  refine cl rfl (aoi (q:=q) (by omega)) rfl<|cl rfl (ajg (q:=p) (by omega)) rfl<|cl rfl (aq1 (a:=q.num.natAbs) (b:=p.den) (by omega) (by omega)) rfl<|?_
  refine cl rfl (aBd (a:=p.num.natAbs*q.den) (b:=q.num.natAbs*p.den) (i:=i+j) (j:=j+i) (by omega) (by omega)) rfl<|cl rfl (aeH (n:=false) (a:=Nat.gcd (p.num.natAbs*q.den) (q.num.natAbs*p.den)) (d:=p.den*q.den) (i:=i+j+(j+i)) (j:=i+j) (by omega) (by omega)) rfl<|?_
  exact rz J J

def cT:Tr→List DV
 | .leaf b=>[.v (.bool true), .v (.bool b), .v (.bool false), .sl [], .v (.bool false), .sl [], .v (.bool false), .sl [], .v (.pointer none), .v (.pointer none)]
 | .node l x y=>[.v (.bool false), .v (.bool false), .v (.bool (decide (l.a<0))),dN l.a.natAbs, .v (.bool (decide (l.b<0))),dN l.b.natAbs, .v (.bool (decide (l.c<0))),dN l.c.natAbs, .pt (cT x), .pt (cT y)]
def eT(t:Tr):DV:= .pt (cT t)
def eN(n:NQ):DV:= .ag [.v (.bool (decide (n.l.a<0))),dN n.l.a.natAbs, .v (.bool (decide (n.l.b<0))),dN n.l.b.natAbs, .v (.bool (decide (n.l.c<0))),dN n.l.c.natAbs, .v (.int .i64 n.a), .v (.int .i64 n.b)]
def eA(t:Tr):DV:= .ag [.v (.int .i64 (t.num 0)), .sl ((t.wr 0).map eN)]
structure BL (l:LnQ) (k:Nat):Prop where
 a:l.a.natAbs<2^k
 b:l.b.natAbs<2^k
 c:l.c.natAbs<2^k
theorem aEu(ns:List NQ):acI 8 (ns.map eN):=fun d hd=>by
 obtain⟨n,_,rfl⟩:=bW.1 hd;exact⟨rfl,rfl⟩
theorem Tr.all_wr{p:LnQ→Prop}: ∀{t:Tr} (n:Nat),t.all p→ ∀x∈t.wr n,p x.l
 | .leaf b,n,_,x,hx=>by cases hx
 | .node l u v,n,⟨h1,h2,h3⟩,x,hx=>by
  simp only[Tr.wr,jQ,aS,bS] at hx
  rcases hx with rfl|hx|hx
  ·exact h1
  ·exact u.all_wr _ h2 x hx
  ·exact v.all_wr _ h3 x hx
structure LS (l:LnQ):Prop where
 ok:l.ok
 a:l.a.natAbs≤4
 b:l.b.natAbs≤4
 c:l.c.natAbs≤40000
theorem LS.bl{l:LnQ}(h:LS l):BL l 96:=⟨by have:=h.a;omega,by have:=h.b;omega,by have:=h.c;omega⟩
theorem aeI{xs:List LnQ}{i:Nat}(h:i<xs.length):(xs.map eL)[(i:Int).toNat]? =some (eL xs[i]):=by simp[h]
theorem aeB(xs:List LnQ):(xs.map eL).length=xs.length:=aJ ..
theorem atu{α:Type}{xs:List α}{i:Nat}{p:α→Prop}(h: ∀x∈xs.take i,p x)(hi:i<xs.length)(hy:p xs[i]): ∀x∈xs.take (i+1),p x:=by
 intro x hx
 rw[fZ hi] at hx
 simp only[bS,aY] at hx
 rcases hx with hx|rfl
 ·exact h x hx
 ·exact hy
theorem at5{a b:Int}(h:decide (a<0)=decide (b<0)):decide (a.natAbs=b.natAbs)=decide (a=b):=by
 have h':a<0↔b<0:=by simpa using h
 exact decide_eq_decide.2 ⟨fun e=>by omega,fun e=>by rw[e]⟩
theorem LnQ.ext'{l m:LnQ}(h1:l.a=m.a)(h2:l.b=m.b)(h3:l.c=m.c):l=m:=by cases l;cases m;simp_all
instance:DecidableEq NQ:=fun x y=>decidable_of_iff (x.l=y.l∧x.a=y.a∧x.b=y.b) (by
 cases x;cases y;simp)
theorem acj(ls:List LnQ):acI 6 (ls.map eL):=fun d hd=>by
 obtain⟨n,_,rfl⟩:=bW.1 hd;exact⟨rfl,rfl⟩
theorem aAw{a b:Nat}(hl:(dg a).length=(dg b).length)(h: ∀j,j<(dg a).length→(dg a).getD j 0=(dg b).getD j 0):a=b:=by
 have e:dg a=dg b:=by
  apply List.ext_getElem hl
  intro i h1 h2
  have:=h i h1
  rw[aX,aX,aQ h1,aQ h2] at this
  exact this
 rw[←aaQ a,e,aaQ]
theorem ako{z:Int}:PF GB prog 190 [eI z] (eQ (z:Rat)):=by
 refine fn func190 J J ntmps190 J J (fun C=>?_)
 exact rz rfl (by rw[apU];rfl)
theorem aiH{l:LnQ}:PF GB prog 119 [eL l] (eL l.rev):=by
 refine fn func119 J J ntmps119 J J (fun C=>?_)
 refine cl rfl ajc rfl<|cl rfl ajc rfl<|cl rfl ajc rfl<|?_
 exact rz J J
theorem aub{a b i j:Nat}[ha:BN a i][hb:BN b j](hi:i≤400000000:=by decide):PF GB prog 146 [dN a,dN b] (vB (decide (a=b))):=by
 have hla:=aaA (dg a)
 have hlb:=aaA (dg b)
 have hba:=aa1 ha.h
 refine fn func146 J J ntmps146 J J (fun C=>?_)
 refine br (fu2:=⟨7⟩) J J J (fun hc10=>?_) (fun hc10=>?_)
 ·
  exact rz rfl (by rw[decide_eq_false (fun e:a=b=>hc10 (by rw[e]))];rfl)
 ·
  refine eqF 12 (.d (vI ((dg a).length:Nat))) rfl (by rw[hla];rfl) ?_
  refine gx rfl<|?_
  refine lp (X:=Nat) (fun i=>[(13, .d (vI (i:Nat))),(12, .d (vI ((dg a).length:Nat))),(0, .d (dN a)),(1, .d (dN b))]) (fun i=>[]) (fun i=>i≤(dg a).length∧ ∀j,j<i→(dg a).getD j 0=(dg b).getD j 0) (fun i=>(dg a).length-i) 0 rfl ⟨aR _,fun j hj=>absurd hj (by omega)⟩ (fun _=>rfl) (fun i hk=>?_)
  obtain⟨h1,h2⟩:=hk
  refine br J J J (fun hc14=>?_) (fun hc14=>?_)
  ·
   refine ix _ rfl (abe (by omega)) rfl<|ix _ rfl (abe (by omega)) rfl<|?_
   refine br J J J (fun hc24=>?_) (fun hc24=>?_)
   ·
    exact rz rfl (by rw[decide_eq_false (fun e:a=b=>hc24 (by rw[e]))];rfl)
   ·
    exact at_ (i+1) ⟨⟨by omega,fun j hj=>by by_cases q:j=i;(subst q;omega);exact h2 j (by omega)⟩,(by omega)⟩
  ·
   exact rz rfl (by rw[decide_eq_true (aAw (by omega) (fun j hj=>h2 j (by omega)))];rfl)
theorem ayP{a b:Int}{i j:Nat}[ha:BI a i][hb:BI b j](hi:i≤400000000:=by decide):PF GB prog 145 [eI a,eI b] (vB (decide (a=b))):=by
 refine fn (fu:=⟨14⟩) func145 J J ntmps145 J J (fun C=>?_)
 refine eqF 9 (.d (.v (.bool (decide (decide (a<0)=decide (b<0)))))) rfl (by congr 2) ?_
 refine gx rfl<|?_
 refine csd 10 J J J (fun hg10=>?_) (fun hg10=>?_)
 ·
  refine cl rfl (aub (by omega)) rfl<|?_
  exact rz rfl (by show DV.v (.bool _)=DV.v (.bool _);rw[←at5 hg10])
 ·
  exact rz rfl (by rw[decide_eq_false (fun e:a=b=>hg10 (by rw[e]))];rfl)
end Go.Sx
end
