import Derived.Test.YtidmgdlbilojcaaGreatDoorMc10
set_option linter.unusedSimpArgs false
set_option maxHeartbeats 4000000
set_option maxRecDepth 100000
set_option linter.unusedVariables false
section
namespace Go.Sx
open Go Go.Proofs Tryz
variable {GB:Gh}
theorem aAN{h l y:Nat}(hh:h<y)(hl:l<4294967296)(hy:y<4294967296):PF GB prog 173 [.v (.int .u32 (h:Int)), .v (.int .u32 (l:Int)), .v (.int .u32 (y:Int))] (.tp [dU ((h*4294967296+l)/y),dU ((h*4294967296+l)%y)]):=by
 refine fn (fu:=⟨11⟩) func173 J J ntmps173 J J (fun C=>?_)
 refine kT 10 rfl (by omega) ?_
 refine gx (fu:=⟨4⟩) rfl<|?_
 refine kF 14 rfl (by omega) ?_
 refine gx (fu:=⟨11⟩) (hv:=by simp only[aah];exact⟨by omega,(by decide)⟩) rfl<|?_
 refine eqF 19 (.d (.v (.int .u64 (h*2^32:Nat)))) rfl (by show FX.d (.v (.int _ _))= .d (.v (.int _ _));rw[aeh _ 32 (by decide) (by show _*4294967296<_;omega) rfl]) ?_
 refine gx (fu:=⟨3⟩) rfl<|?_
 refine eqF 22 (.d (.v (.int .u64 (l+h*2^32:Nat)))) rfl (congrArg (fun z:Nat=>FX.d (.v (.int .u64 (z:Int)))) (by rw[BitVec.or_comm];exact art 64 l h 32 hl (by show _+_*4294967296<18446744073709551616;omega))) ?_
 obtain⟨t,ht⟩: ∃t,t=h*4294967296+l:=⟨_,rfl⟩
 have hq:t/y<4294967296:=by rw[kX (by omega)];have:=dS 4294967296 (show h+1≤y from hh);omega
 have hr:t%y<y:=dX _ (by omega)
 refine eqF 22 (.d (.v (.int .u64 (t:Nat)))) rfl (by show FX.d (.v (.int _ _))= .d (.v (.int _ _));congr 3;rw[ht];omega) ?_
 refine gx (hv:=by simp only[aah];exact⟨⟨⟨⟨by omega,⟨(by omega),(by omega),(by omega)⟩⟩,by omega⟩,⟨(by omega),(by omega)⟩⟩,by kernel_rfl⟩) rfl<|?_
 exact rz rfl (by show DV.tp [.v (.int _ _), .v (.int _ _)]= .tp [.v (.int _ _), .v (.int _ _)];rw[←ht,←pT,←oQ];generalize t/y=q at*;generalize t%y=r at*;congr 4<;>(first|omega|(congr 3;omega)))
theorem aAa{A r i b:Nat}(d:Nat)(hb:0<b):(A*4294967296+d)/b=A/b*4294967296+(A%b*4294967296+d)/b∧(A*4294967296+d)%b=(A%b*4294967296+d)%b:=by
 have h:=qX A b
 have e:A*4294967296+d=(A%b*4294967296+d)+b*(A/b*4294967296):=by
  rw[←bM,Nat.add_right_comm,←cS,jU (A%b),h]
 rw[e,lS _ _ hb,mL]
 exact⟨jU _ _,rfl⟩
theorem apM{ds:List Nat}{i:Nat}(h:i<ds.length):dv (ds.drop i)=dv (ds.drop (i+1))*4294967296+ds.getD i 0:=by
 rw[bQ h,aX,aQ h]
 simp only[dv,lJ];omega
theorem ah0{W:List Nat}{i q:Nat}(h:i<W.length):dv ((W.set i q).drop i)=dv (W.drop (i+1))*4294967296+q:=by
 rw[apM (by rw[aN];exact h),sW (by omega),ajj h]
theorem asK{a b k:Nat}{W:List Nat}(hb:0<b)(hk:k<(dg a).length)(hl:W.length=(dg a).length)(h:dv (W.drop (k+1))=dv ((dg a).drop (k+1))/b):
  dv ((W.set k ((dv ((dg a).drop (k+1))%b*4294967296+(dg a).getD k 0)/b)).drop k)=dv ((dg a).drop k)/b∧dv ((dg a).drop k)%b=(dv ((dg a).drop (k+1))%b*4294967296+(dg a).getD k 0)%b:=by
 have:=aAa (A:=dv ((dg a).drop (k+1))) (r:=0) (i:=0) ((dg a).getD k 0) hb
 rw[ah0 (by omega),h,apM hk,this.1,this.2]
 exact⟨rfl,rfl⟩
theorem afK{a b:Nat}:ahi a b<0↔a<b:=by unfold ahi;split<;>(try split)<;>omega
theorem ag5{a b:Nat}:0<ahi a b↔b<a:=by unfold ahi;split<;>(try split)<;>omega
theorem aDR{x:Nat}(hx:x<4294967296):PF GB prog 231 [dU x] (vI (32-(bl x:Int))):=by
 intro G vs hg hv
 obtain⟨v,m,rfl,h1,h2⟩:=aad.1 hv
 rw[aaN] at h2;subst h2
 rw[aaY.1 h1]
 exact(aiV hx).mono fun v G' _ h=>aaY.2 h
theorem ana{a k:Nat}(h:4294967296^k≤a):k<(dg a).length:=by
 have h1:=adg a
 rcases iY k (dg a).length with q|q
 ·exact q
 ·have:4294967296^(dg a).length≤4294967296^k:=bV (by decide) q
  omega
theorem azh{v L:Nat}(hL:L=(dg v).length)(h1:1≤L):(dg v).getD (L-1) 0=v/4294967296^(L-1)∧0<v/4294967296^(L-1):=by
 have h:=avG (ae6 v) (L-1)
 rw[ad3 (by omega:(dg v).length≤L-1+1),aaO,pK,fQ] at h
 have h2:=adg v
 rw[←hL] at h2
 rw[jL (show v<4294967296^(L-1+2) from dW h2 (bV (by decide) (by omega))),pK,fQ] at h
 have h3:=af0 (aaC v).2.2 (by intro e;rw[e] at hL;simp at hL;omega)
 rw[aaO,←hL] at h3
 exact⟨h.symm,Nat.div_pos h3 (eK (by decide))⟩
theorem aoB{R n:Nat}(h1:1≤n)(h:R<4294967296^(n+1)):R/4294967296^(n-1)=(dg R).getD (n-1) 0+(dg R).getD n 0*4294967296:=by
 have e:=avG (ae6 R) (n-1)
 rw[aaO,show n-1+1=n by omega,jL (show R<4294967296^(n-1+2) by rwa [show n-1+2=n+1 by omega]),pK,fQ,bL] at e
 exact e
theorem awL{R v j L:Nat}(hL:L=(dg v).length)(h1:1≤L)(hR:R<v*4294967296^(j+1)):R/(v*4294967296^j)≤min (R/4294967296^(L+j-1)/(v/4294967296^(L-1))) 4294967295:=by
 have ht:=(azh hL h1).2
 have hp:0<4294967296^j:=eK (by decide)
 have hv0:0<v:=by
  rcases fT v with q|q
  ·subst q;simp at ht
  ·exact q
 have hvp:0<v*4294967296^j:=gS hv0 hp
 refine Nat.le_min.2 ⟨?_,?_⟩
 ·rw[rW ht,rW (eK (by decide))]
  have h3:v/4294967296^(L-1)*4294967296^(L-1)≤v:=Nat.div_mul_le_self _ _
  have h4:R/(v*4294967296^j)*(v*4294967296^j)≤R:=Nat.div_mul_le_self _ _
  rw[show L+j-1=L-1+j by omega,eX]
  calc R/(v*4294967296^j)*(v/4294967296^(L-1))*(4294967296^(L-1)*4294967296^j)
    =R/(v*4294967296^j)*((v/4294967296^(L-1)*4294967296^(L-1))*4294967296^j):=by simp only[bM]
   _≤R/(v*4294967296^j)*(v*4294967296^j):=dS _ (bK _ h3)
   _≤R:=h4
 ·have:R/(v*4294967296^j)<4294967296:=by
   rw[kX hvp]
   rw[fX] at hR
   rwa [bL,bM]
  omega
theorem afQ{R V g:Nat}(hV:0<V)(h:R<V*g):R/V<g:=by
 rw[kX hV,bL];exact h
theorem awG{R V g:Nat}(hV:0<V)(h1:R/V≤g)(h2:V*g≤R):g=R/V:=by
 have:g≤R/V:=by rw[rW hV,bL];exact h2
 omega
theorem apO{R0 R v j g:Nat}{W:List Nat}(hj:j<W.length)(h:R0=R+dv (W.drop (j+1))*4294967296^(j+1)*v)(hv:0<v*4294967296^j)(hg:g=R/(v*4294967296^j)):
  R0=(R-v*4294967296^j*g)+dv ((W.set j g).drop j)*4294967296^j*v∧R-v*4294967296^j*g<v*4294967296^j:=by
 have h1:=qX R (v*4294967296^j)
 have h2:=dX R hv
 rw[←hg] at h1
 refine⟨?_,by omega⟩
 rw[ah0 hj,cS,cS,h,fX]
 have e:g*4294967296^j*v=v*4294967296^j*g:=by simp only[bM,kM,bL]
 have e2:dv (W.drop (j+1))*(4294967296^j*4294967296)*v=dv (W.drop (j+1))*4294967296*4294967296^j*v:=by simp only[bM,kM,bL]
 rw[e,e2]
 omega
theorem axo{a b s R:Nat}{D:Nat}(hR:R<b*2^s)(h:a*2^s=R+D*(b*2^s)):D=a/b∧R/2^s=a%b:=by
 have hp:0<2^s:=eK (by decide)
 have hb:0<b:=by
  rcases fT b with q|q
  ·subst q;simp at hR
  ·exact q
 have h1:a=R/2^s+D*b:=by
  have:=congrArg (· /2^s) h
  rw[Nat.mul_div_cancel _ hp,←bM,Nat.add_mul_div_right _ _ hp] at this
  exact this
 have h2:R/2^s<b:=by rw[kX hp];exact hR
 have h3:R/2^s+b*D=a:=by rw[bL b];exact h1.symm
 have:=(Nat.div_mod_unique hb).2 ⟨h3,h2⟩
 exact⟨this.1.symm,this.2.symm⟩
theorem arE{a b s:Nat}(hl:(dg b).length≤(dg a).length)(h2:1≤(dg b).length):a*2^s<b*2^s*4294967296^((dg a).length-(dg b).length+1):=by
 have h1:=adg a
 have h3:=af0 (aaC b).2.2 (by intro e;rw[e] at h2;simp at h2)
 rw[aaO] at h3
 have h4:4294967296^(dg a).length≤b*4294967296^((dg a).length-(dg b).length+1):=by
  rw[show(dg a).length=((dg b).length-1)+((dg a).length-(dg b).length+1) by omega,eX]
  rw[show(dg b).length-1+((dg a).length-(dg b).length+1)-(dg b).length+1=(dg a).length-(dg b).length+1 by omega]
  exact bK _ h3
 rw[qY]
 exact kU (dW h1 h4) (eK (by decide))
theorem ayG(x j:Nat):x*2^(32*j)=x*4294967296^j:=by rw[pX]
theorem aBP{R L j:Nat}(h:R<4294967296^(L+j+1))(h1:1≤L):R/4294967296^(L+j-1)<18446744073709551616:=by
 rw[kX (eK (by decide)),show(18446744073709551616:Nat)=4294967296^2 from rfl,←eX]
 rwa [show 2+(L+j-1)=L+j+1 by omega]
theorem ax7{R v j L:Nat}(hL:L=(dg v).length)(hR:R<v*4294967296^(j+1)):R<4294967296^(L+j+1):=by
 have h:=adg v
 rw[←hL] at h
 rw[jR,eX]
 exact dW hR (bK _ (lU h))
theorem aEa{a b ia ib:Nat}[ha:BN a ia][hb:BN b ib](hi:ia≤500000000)(hj:ib≤500000000)(h2:1≤(dg b).length)(hl:(dg b).length≤(dg a).length):PF GB prog 174 [dN a,dN b] (.tp [dN (a/b),dN (a%b)]):=by
 have hla:=aaz (dg a)
 have hlb:=aaz (dg b)
 have hba:=aa2 ha.h
 have hba':(dg a).length≤20000000:=by omega
 refine fn func174 J J ntmps174 J J (fun C=>?_)
 refine ix _ rfl (aaA (k:=(dg b).length-1) (by omega) (by omega)) rfl<|cl (fu:=⟨0⟩) rfl (aDR (adm b ((dg b).length-1))) rfl<|?_
 obtain⟨s,hs⟩: ∃s:Nat,s=32-bl ((dg b).getD ((dg b).length-1) 0):=⟨_,rfl⟩
 have hs32:s≤32:=by omega
 refine eqF 22 (.d (vI (s:Nat))) rfl (by show FX.d (.v (.int _ _))= .d (.v (.int _ _));congr 3;have:=aht.2 (show(dg b).getD ((dg b).length-1) 0<2^32 from adm b _);omega) ?_
 refine gx rfl<|cl rfl (apU (a:=b) (k:=s) (ia:=ib) (by omega) (by omega)) rfl<|cl (fu:=⟨0⟩) rfl (apU (a:=a) (k:=s) (ia:=ia) (by omega) (by omega)) rfl<|?_
 obtain⟨v,hv⟩: ∃v,v=b*2^s:=⟨_,rfl⟩
 obtain⟨R0,hR0⟩: ∃R0,R0=a*2^s:=⟨_,rfl⟩
 refine eqF 25 (.d (dN v)) rfl (by rw[hv]) ?_
 refine eqF 28 (.d (dN R0)) rfl (by rw[hR0]) ?_
 obtain⟨L,hL⟩: ∃L,L=(dg v).length:=⟨_,rfl⟩
 have hlv:((dg v).map dU).length=L:=by rw[aaz,hL]
 have hps:2^s≤2^32:=bV (by decide) hs32
 have hpp:0<2^s:=eK (by decide)
 have hst:=arE (a:=a) (b:=b) (s:=s) hl h2
 rw[←hv,←hR0] at hst
 have hvb:v<2^(ib+32):=by rw[hv,eX];exact mR hb.h hps (by decide)
 have hRb:R0<2^(ia+32):=by rw[hR0,eX];exact mR ha.h hps (by decide)
 have hbp:0<b:=iR (fun q=>by subst q;rw[ahS] at h2;simp at h2)
 have hvp:0<v:=hv▸gS hbp hpp
 have hLp:1≤L:=by rw[hL];exact ana (k:=0) (by rw[qL];exact hvp)
 have htop:=azh hL hLp
 haveI hvB:BN v (ib+32):=⟨hvb⟩
 have hLb:=aa2 hvb
 have hLb':L≤20000000:=by omega
 have htl:=adm v (L-1)
 refine gx (fu:=⟨9⟩) rfl<|?_
 refine eqF 31 (.d (vI (L:Nat))) rfl (by rw[hlv];rfl) ?_
 refine gx rfl<|ix (fu:=⟨2⟩) _ rfl (aaA (k:=L-1) (by omega) (by omega)) rfl<|?_
 refine eqF 35 (.d (.v (.int .u64 (v/4294967296^(L-1):Nat)))) rfl (by rw[htop.1]) ?_
 rw[htop.1] at htl
 refine gx (fu:=⟨11⟩) rfl<|?_
 obtain⟨m,hm⟩: ∃m,m=(dg a).length-(dg b).length+1:=⟨_,rfl⟩
 rw[←hm] at hst
 have hrl:(List.replicate ((m:Nat):Int).toNat (DV.v (.int .u32 0))).length=m:=by rw[aY,bZ]
 refine eqF 41 (.d (vI (m:Nat))) rfl (by show FX.d (.v (.int _ _))= .d (.v (.int _ _));congr 3;omega) ?_
 refine gx rfl<|mk ((List.replicate m 0).map dU) J J (by rw[←aeJ];rfl) rfl<|?_
 refine lp (X:=List Nat×Nat×Nat) (fun⟨W,R,k⟩=>[(6, .d (vI (s:Nat))),(7, .d (dN v)),(8, .d (dN R)),(9, .d (.v (.int .u64 (v/4294967296^(L-1):Nat)))),(10, .rw 42),(11, .d (vI ((k:Nat)-1)))]) (fun⟨W,R,k⟩=>[(42,some (.b 215 1 (W.map dU) true))]) (fun⟨W,R,k⟩=>W.length=m∧DOk W∧k≤m∧R0=R+dv (W.drop k)*4294967296^k*v∧R<v*4294967296^k∧R≤R0) (fun⟨W,R,k⟩=>k) ⟨List.replicate m 0,R0,m⟩ rfl ⟨by simp, .replicate _,aM _,by simp[dv],hst,aM _⟩ (fun _=>rfl) (fun⟨W,R,k⟩ hk=>?_)
 dsimp only at hk⊢
 obtain⟨h1,h2',h3,h4,h5,h6⟩:=hk
 have hlw:=aaz W
 refine br (fu1:=⟨10⟩) J J J (fun hc47=>?_) (fun hc47=>?_)
 ·
  obtain⟨j,rfl⟩: ∃j,k=j+1:=⟨k-1,by omega⟩
  have hvj:0<v*4294967296^j:=gS hvp (eK (by decide))
  have hge:=awL hL hLp h5
  have hlen:=ax7 hL h5
  have hlr:((dg R).map dU).length=(dg R).length:=aaz _
  haveI hRB:BN R (ia+32):=⟨by omega⟩
  have hq32:R/(v*4294967296^j)<4294967296:=by omega
  have hz1:=qW (R/4294967296^(L+j-1))
  have hz2:=qW (R/4294967296^(L+j-1)/(v/4294967296^(L-1)))
  refine eqF 11 (.d (vI (j:Nat))) rfl (by show FX.d (.v (.int _ _))= .d (.v (.int _ _));congr 3;omega) ?_
  refine mg (fu:=⟨6⟩) (hv:=fun _ _=>by simp only[aah];exact⟨(by omega),(by have:=aBP hlen hLp;omega),(by omega)⟩) (X:=Unit) (fun _=>[(6, .d (vI (s:Nat))),(7, .d (dN v)),(8, .d (dN R)),(9, .d (.v (.int .u64 (v/4294967296^(L-1):Nat)))),(10, .rw 42),(11, .d (vI (j:Nat))),(12, .d (.v (.int .u64 (R/4294967296^(L+j-1):Nat))))]) (fun _=>[(42,some (.b 215 1 (W.map dU) true))]) (fun _=>True) [6,7,8,9,10,11,12] [42] rfl ?_ (fun _=>rfl) (fun _ hm=>?_)
  ·
   refine gx (fu:=⟨4⟩) rfl<|?_
   refine eqF 51 (.d (vI (L:Nat))) rfl (by rw[hlv];rfl) ?_
   refine gx (fu:=⟨2⟩) rfl<|?_
   refine eqF 53 (.d (vI (L+j:Nat))) rfl (by show FX.d (.v (.int _ _))= .d (.v (.int _ _));congr 3) ?_
   refine gx (fu:=⟨8⟩) rfl<|?_
   refine eqF 56 (.d (vI ((dg R).length:Nat))) rfl (by rw[hlr];rfl) ?_
   refine gx rfl<|?_
   refine br (fu2:=⟨6⟩) J J J (fun hc57=>?_) (fun hc57=>?_)
   ·
    have hd0:=adm R (L+j-1)
    have hd1:=adm R (L+j)
    refine ix (hv:=by simp only[aah];exact⟨⟨by omega,(by decide)⟩,by omega⟩) _ rfl (aaA (k:=L+j) (by omega) (by omega)) rfl<|ix (fu:=⟨3⟩) _ rfl (aaA (k:=L+j-1) (by omega) (by omega)) rfl<|?_
    refine eqF 70 (.d (.v (.int .u64 ((dg R).getD (L+j-1) 0+(dg R).getD (L+j) 0*4294967296:Nat)))) rfl (congrArg (fun z:Nat=>FX.d (.v (.int .u64 (z:Int)))) (by rw[aeh _ 32 (by decide) (by show _*4294967296<_;omega) rfl,BitVec.or_comm];exact art 64 ((dg R).getD (L+j-1) 0) ((dg R).getD (L+j) 0) 32 hd0 (by show _+_*4294967296<18446744073709551616;omega))) ?_
    refine gx rfl<|?_
    refine eqF 12 (.d (.v (.int .u64 (R/4294967296^(L+j-1):Nat)))) rfl (by rw[aoB (by omega) hlen]) ?_
    exact at_ () trivial
   ·
    refine eqF 74 (.d (vI ((dg R).length:Nat))) rfl (by rw[hlr];rfl) ?_
    refine gx rfl<|?_
    refine br J J J (fun hc75=>?_) (fun hc75=>?_)
    ·
     have hd0:=adm R (L+j-1)
     refine ix _ rfl (aaA (k:=L+j-1) (by omega) (by omega)) rfl<|?_
     refine eqF 12 (.d (.v (.int .u64 (R/4294967296^(L+j-1):Nat)))) rfl (by rw[aoB (by omega) hlen,ad3 (by omega:(dg R).length≤L+j),lY,fQ]) ?_
     exact at_ () trivial
    ·
     refine eqF 12 (.d (.v (.int .u64 (R/4294967296^(L+j-1):Nat)))) rfl (by rw[aoB (by omega) hlen,ad3 (by omega:(dg R).length≤L+j),ad3 (by omega:(dg R).length≤L+j-1)];rfl) ?_
     exact at_ () trivial
  ·
   obtain⟨g0,hg0'⟩: ∃g0,g0=min (R/4294967296^(L+j-1)/(v/4294967296^(L-1))) 4294967295:=⟨_,rfl⟩
   rw[←hg0'] at hge
   have hg0:=hge
   have hg1:g0≤4294967295:=by omega
   refine eqF 85 (.d (.v (.int .u64 (g0:Nat)))) rfl (by show FX.d (.v (.int _ _))= .d (.v (.int _ _));congr 3;rw[←pT];split<;>omega) ?_
   refine gx rfl<|cl rfl (agw (u:=g0) (by omega)) rfl<|cl (fu:=⟨2⟩) rfl (ack (ia:=ib+32) (ib:=32) (hb:=⟨by show _<4294967296;omega⟩) (by omega) (by decide)) rfl<|?_
   refine eqF 91 (.d (vI (32*j:Nat))) rfl (by show FX.d (.v (.int _ _))= .d (.v (.int _ _));congr 3) ?_
   refine gx rfl<|cl (fu:=⟨0⟩) rfl (apU (k:=32*j) (ia:=ib+64) (ha:=⟨by rw[show ib+64=ib+32+32 by omega,eX];exact oZ hvb (by show _<4294967296;omega)⟩) (by omega) (by omega)) rfl<|?_
   refine eqF 92 (.d (dN (v*4294967296^j*g0))) rfl (by rw[ayG,qY]) ?_
   refine gx rfl<|?_
   refine lp (X:=Nat) (fun g=>[(6, .d (vI (s:Nat))),(7, .d (dN v)),(8, .d (dN R)),(9, .d (.v (.int .u64 (v/4294967296^(L-1):Nat)))),(10, .rw 42),(11, .d (vI (j:Nat))),(14, .d (.v (.int .u64 (g:Nat)))),(15, .d (dN (v*4294967296^j*g)))]) (fun g=>[(42,some (.b 215 1 (W.map dU) true))]) (fun g=>R/(v*4294967296^j)≤g∧g≤4294967295) (fun g=>g) g0 rfl ⟨hg0,by omega⟩ (fun _=>rfl) (fun g hk=>?_)
   obtain⟨g1,g2⟩:=hk
   have hlw:=aaz W
   refine cl rfl (asL (a:=v*4294967296^j*g) (b:=R) (by have:=aha (a:=v*4294967296^j*g) (k:=L+j+1) (by have h1:=adg v;rw[←hL] at h1;rw[fX,eX];exact oZ (kU h1 (eK (by decide))) (by omega));omega) (by have:=aha hlen;omega)) rfl<|?_
   refine br (fu1:=⟨7⟩) (v1:=fun hc96=>by simp only[aah];exact(by have h:=afQ hvj (ag5.1 hc96);have h1:1≤g:=eY (bX _) h;omega)) (fu2:=⟨11⟩) J J J (fun hc96=>?_) (fun hc96=>?_)
   ·
    have hgd:=afQ hvj (ag5.1 hc96)
    have hg1p:1≤g:=eY (bX _) hgd
    refine eqF 98 (.d (.v (.int .u64 ((g-1:Nat):Int)))) rfl (by show FX.d (.v (.int _ _))= .d (.v (.int _ _));congr 3;omega) ?_
    refine gx rfl<|cl rfl (agw (u:=g-1) (by omega)) rfl<|cl (fu:=⟨2⟩) rfl (ack (ia:=ib+32) (ib:=32) (hb:=⟨by show _<4294967296;omega⟩) (by omega) (by decide)) rfl<|?_
    refine eqF 104 (.d (vI (32*j:Nat))) rfl (by show FX.d (.v (.int _ _))= .d (.v (.int _ _));congr 3) ?_
    refine gx rfl<|cl (fu:=⟨0⟩) rfl (apU (k:=32*j) (ia:=ib+64) (ha:=⟨by rw[show ib+64=ib+32+32 by omega,eX];exact oZ hvb (by show _<4294967296;omega)⟩) (by omega) (by omega)) rfl<|?_
    refine eqF 105 (.d (dN (v*4294967296^j*(g-1)))) rfl (by rw[ayG,qY]) ?_
    refine gx rfl<|?_
    exact at_ (g-1) ⟨⟨by have h:=afQ hvj (ag5.1 hc96);omega,by omega⟩,(by have:=afQ hvj (ag5.1 hc96);omega)⟩
   ·
    have hgq:=awG hvj g1 (rT fun q=>hc96 (ag5.2 q))
    refine eqF 109 (.d (dU g)) rfl (by show FX.d (.v (.int _ _))= .d (.v (.int _ _));congr 3;omega) ?_
    refine gx rfl<|sb _ ((W.set j (R/(v*4294967296^j))).map dU) rfl (aaA (k:=j) (by omega) (by omega)) rfl (by(rw[←hgq,bZ,←ad8])<;>rfl) rfl<|?_
    refine cl (fu:=⟨0⟩) rfl (aue (a:=R) (b:=v*4294967296^j*g) (ia:=ia+32) (by rw[hgq];exact Nat.mul_div_le _ _) (by omega)) rfl<|?_
    refine eqF 113 (.d (dN (R-v*4294967296^j*(R/(v*4294967296^j))))) rfl (by rw[hgq]) ?_
    refine gx rfl<|?_
    exact at_ ⟨W.set j (R/(v*4294967296^j)),R-v*4294967296^j*(R/(v*4294967296^j)),j⟩ (by dsimp only;exact⟨⟨by simpa using h1,h2'.set _ (by omega),by omega,(apO (by omega) h4 hvj rfl).1,(apO (by omega) h4 hvj rfl).2,by omega⟩,(by omega)⟩)
 ·
  obtain rfl:k=0:=by omega
  rw[qL,iK] at h5
  rw[qL,iK,gT,hR0,hv] at h4
  rw[hv] at h5
  have hend:=axo h5 h4
  haveI hRB:BN R (ia+32):=⟨by omega⟩
  refine fz 42 J J<|cl rfl (af2 (ds:=W) (by omega)) rfl<|cl rfl (aCe (a:=R) (k:=s) (ia:=ia+32) (by omega) (by omega)) rfl<|?_
  exact rz rfl (by show DV.tp [dLi _,dN _]= .tp [dN _,dN _];rw[aeC h2' hend.1,hend.2])
theorem aoQ{a b:Nat}(h:b≤a):(dg b).length≤(dg a).length:=aha (eY h (adg a))
theorem afH{a b ia ib:Nat}[ha:BN a ia][hb:BN b ib](hb0:0<b)(hi:ia≤500000000:=by decide)(hj:ib≤500000000:=by decide):PF GB prog 113 [dN a,dN b] (.tp [dN (a/b),dN (a%b)]):=by
 have hla:=aaz (dg a)
 have hlb:=aaz (dg b)
 have hba:=aa2 ha.h
 have hbb:=aa2 hb.h
 have hba':(dg a).length≤20000000:=by omega
 have hbb':(dg b).length≤20000000:=by omega
 have hlb1:1≤(dg b).length:=ana (k:=0) (by rw[qL];exact hb0)
 refine fn (fu:=⟨7⟩) func113 J J ntmps113 J J (fun C=>?_)
 refine mg (X:=Unit) (fun _=>[(0, .d (dN a)),(1, .d (dN b))]) (fun _=>[]) (fun _=>True) [0,1] [] rfl ?_ (fun _=>rfl) (fun _ hm=>?_)
 ·
  refine gx rfl<|cl rfl (aq6 (a:=a) (ia:=ia) (by omega)) rfl<|?_
  refine bd (fu1:=⟨0⟩) J J J (fun hc18=>?_) (fun hc18=>?_)
  ·
   refine eqF 6 (.d (.v (.int .u64 (a:Nat)))) rfl (by rw[if_pos hc18]) ?_
   refine gx rfl<|cl rfl (aq6 (a:=b) (ia:=ib) (by omega)) rfl<|?_
   refine bd (fu1:=⟨0⟩) J J J (fun hc24=>?_) (fun hc24=>?_)
   ·
    refine eqF 8 (.d (.v (.int .u64 (b:Nat)))) rfl (by rw[if_pos hc24]) ?_
    have hdl:=kK a b
    have hml:=Nat.mod_le a b
    refine gx (hv:=by simp only[aah];exact⟨(by omega),(by omega),(by omega)⟩) rfl<|cl (hv:=by simp only[aah];exact⟨(by omega),(by omega)⟩) rfl (agw (u:=a/b) (by omega)) rfl<|cl rfl (agw (u:=a%b) (by omega)) rfl<|?_
    exact rz J J
   ·
    exact at_ () trivial
  ·
   exact at_ () trivial
 ·
  refine cl rfl (asL (by omega) (by omega)) rfl<|?_
  refine br J J J (fun hc36=>?_) (fun hc36=>?_)
  ·
   have hab:=afK.1 hc36
   refine ro0 J J<|ap _ J J (amE _) rfl<|?_
   refine fzE 39 rfl ?_
   exact rz rfl (by show DV.tp [_, .sl ([]++_)]= .tp [_,_];rw[jL hab,fJ hab,acW];rfl)
  ·
   have hab:b≤a:=rT fun q=>hc36 (afK.2 q)
   have hlab:(dg b).length≤(dg a).length:=aoQ hab
   refine br (fu1:=⟨4⟩) J J J (fun hc42=>?_) (fun hc42=>?_)
   ·
    have hb1:b<4294967296:=by have:=adg b;rw[show(dg b).length=1 by omega] at this;omega
    have hbd:(dg b).getD 0 0=b:=acA (by omega)
    refine eqF 44 (.d (vI ((dg a).length:Nat))) rfl (by rw[hla];rfl) ?_
    refine gx rfl<|mk (fu:=⟨13⟩) ((List.replicate (dg a).length 0).map dU) J J (by rw[←aeJ];rfl) rfl<|?_
    refine eqF 47 (.d (vI ((dg a).length:Nat))) rfl (by rw[hla];rfl) ?_
    refine gx rfl<|?_
    refine lp (X:=List Nat×Nat) (fun⟨W,k⟩=>[(0, .d (dN a)),(1, .d (dN b)),(10, .rw 45),(11, .d (dU (dv ((dg a).drop k)%b))),(12, .d (vI ((k:Nat)-1)))]) (fun⟨W,k⟩=>[(45,some (.b 215 1 (W.map dU) true))]) (fun⟨W,k⟩=>W.length=(dg a).length∧DOk W∧k≤(dg a).length∧dv (W.drop k)=dv ((dg a).drop k)/b) (fun⟨W,k⟩=>k) ⟨List.replicate (dg a).length 0,(dg a).length⟩ rfl ⟨by simp, .replicate _,aM _,by simp[dv]⟩ (fun _=>rfl) (fun⟨W,k⟩ hk=>?_) (hF:=(by refine⟨rfl,rfl,rfl,leI rfl (by simp[dv,dU]),leI rfl (by simp[vI]),?_⟩;repeat (first|exact trivial|refine And.intro rfl ?_)))
    try dsimp only at hk⊢
    obtain⟨h1,h2,h3,h4⟩:=hk
    have hlw:=aaz W
    refine br (fu1:=⟨0⟩) J J J (fun hc50=>?_) (fun hc50=>?_)
    ·
     obtain⟨k,rfl⟩: ∃j,k=j+1:=⟨k-1,by omega⟩
     have hsi:=asK hb0 (by omega) h1 h4
     have hrm:=dX (dv ((dg a).drop (k+1))) hb0
     have hdk:=adm a k
     have hqd:(dv ((dg a).drop (k+1))%b*4294967296+(dg a).getD k 0)/b<4294967296:=by rw[kX hb0];have:=dS 4294967296 (show dv ((dg a).drop (k+1))%b+1≤b from hrm);omega
     refine eqF 12 (.d (vI (k:Nat))) rfl (by show FX.d (.v (.int _ _))= .d (.v (.int _ _));congr 3;omega) ?_
     refine gx rfl<|ix _ rfl (aaA (k:=k) (by omega) (by omega)) rfl<|ix _ rfl (aaA (k:=0) rfl (by omega)) rfl<|cl rfl (aAN (h:=dv ((dg a).drop (k+1))%b) (l:=(dg a).getD k 0) (y:=(dg b).getD 0 0) (by omega) hdk (by omega)) rfl<|?_
     refine sb (hv:=by simp only[aah];exact⟨by kernel_rfl,by omega⟩) _ ((W.set k ((dv ((dg a).drop (k+1))%b*4294967296+(dg a).getD k 0)/b)).map dU) rfl (aaA (k:=k) (by omega) (by omega)) rfl (by(rw[hbd,bZ,←ad8])<;>rfl) rfl<|?_
     exact at_ ⟨W.set k ((dv ((dg a).drop (k+1))%b*4294967296+(dg a).getD k 0)/b),k⟩ (by dsimp only;exact⟨⟨by simpa using h1,h2.set _ hqd,by omega,hsi.1⟩,(by omega)⟩) (by refine⟨rfl,rfl,rfl,leI rfl (by rw[hsi.2,hbd]),leI rfl (by first|(simp[vI];done)|(simp[vI];omega)),?_⟩;repeat (first|exact trivial|refine And.intro rfl ?_))
    ·
     refine fz 45 J J<|cl rfl (af2 (ds:=W) (by omega)) rfl<|rf J J<|cl rfl (af2 (ds:=[dv ((dg a).drop k)%b]) (by simp)) rfl<|?_
     exact rz rfl (by show DV.tp [dLi _,dLi _]= .tp [_,_];obtain rfl:k=0:=(by omega);rw[gT,gT,aaO] at h4;rw[gT,aaO];rw[aeC h2 h4,aeC (.cons (by have:=dX a hb0;omega) .nil) (n:=a%b) (by simp[dv])])
   ·
    refine cl rfl (aEa (by omega) (by omega) hlb1 hlab) rfl<|?_
    exact rz J J
theorem apx(x y:Nat):Nat.gcd y (x%y)=Nat.gcd x y:=by rw[iN x y,sS y x,iN]
theorem alB{a b ia ib:Nat}[ha:BN a ia][hb:BN b ib](hi:ia≤240000000:=by decide)(hj:ib≤240000000:=by decide):PF GB prog 111 [dN a,dN b] (dN (Nat.gcd a b)):=by
 refine fn (fu:=⟨6⟩) func111 J J ntmps111 J J (fun C=>?_)
 refine mg (X:=Unit) (fun _=>[(0, .d (dN a)),(1, .d (dN b))]) (fun _=>[]) (fun _=>True) [0,1] [] rfl ?_ (fun _=>rfl) (fun _ hm=>?_)
 ·
  refine gx rfl<|cl rfl (aq6 (a:=a) (ia:=ia) (by omega)) rfl<|?_
  refine bd (fu1:=⟨0⟩) J J J (fun hc16=>?_) (fun hc16=>?_)
  ·
   refine eqF 5 (.d (.v (.int .u64 (a:Nat)))) rfl (by rw[if_pos hc16]) ?_
   refine gx rfl<|cl rfl (aq6 (a:=b) (ia:=ib) (by omega)) rfl<|?_
   refine bd (fu1:=⟨0⟩) J J J (fun hc22=>?_) (fun hc22=>?_)
   ·
    refine eqF 7 (.d (.v (.int .u64 (b:Nat)))) rfl (by rw[if_pos hc22]) ?_
    refine gx rfl<|?_
    refine lp (X:=Nat×Nat) (fun⟨x,y⟩=>[(5, .d (.v (.int .u64 (x:Nat)))),(7, .d (.v (.int .u64 (y:Nat))))]) (fun⟨x,y⟩=>[]) (fun⟨x,y⟩=>x<18446744073709551616∧y<18446744073709551616∧Nat.gcd x y=Nat.gcd a b) (fun⟨x,y⟩=>y) ⟨a,b⟩ rfl ⟨hc16,hc22,rfl⟩ (fun _=>rfl) (fun⟨x,y⟩ hk=>?_)
    try dsimp only at hk⊢
    obtain⟨h1,h2,h3⟩:=hk
    refine br (v1:=fun hc24=>by simp only[aah];exact⟨⟨(by omega),(by omega)⟩,by kernel_rfl⟩) J J J (fun hc24=>?_) (fun hc24=>?_)
    ·
     exact at_ ⟨y,x%y⟩ (by dsimp only;exact⟨⟨h2,by have:=dX x (show 0<y by omega);omega,by rw[apx,h3]⟩,(by exact dX _ (by omega))⟩)
    ·
     refine cl rfl (agw (u:=x) h1) rfl<|?_
     exact rz rfl (by show dN x=_;rw[←h3,show y=0 by omega,mT])
   ·
    exact at_ () trivial
  ·
   exact at_ () trivial
 ·
  refine lp (fu:=⟨5⟩) (X:=Nat×Nat) (fun⟨x,y⟩=>[(0, .d (dN x)),(1, .d (dN y))]) (fun⟨x,y⟩=>[]) (fun⟨x,y⟩=>x<2^(ia+ib)∧y<2^(ia+ib)∧Nat.gcd x y=Nat.gcd a b) (fun⟨x,y⟩=>y) ⟨a,b⟩ rfl ⟨(ha.mono (by omega)).h,(hb.mono (by omega)).h,rfl⟩ (fun _=>rfl) (fun⟨x,y⟩ hk=>?_)
  try dsimp only at hk⊢
  obtain⟨h1,h2,h3⟩:=hk
  have hly:=aaz (dg y)
  haveI hx':BN x (ia+ib):=⟨h1⟩
  haveI hy':BN y (ia+ib):=⟨h2⟩
  refine eqF 32 (.d (vI ((dg y).length:Nat))) rfl (by rw[hly];rfl) ?_
  refine gx rfl<|?_
  refine br J J J (fun hc33=>?_) (fun hc33=>?_)
  ·
   have hy0:0<y:=iR fun q=>by subst q;rw[ahS] at hc33;simp at hc33
   refine cl rfl (afH (a:=x) (b:=y) (ia:=ia+ib) (ib:=ia+ib) hy0 (by omega) (by omega)) rfl<|?_
   exact at_ ⟨y,x%y⟩ (by dsimp only;exact⟨⟨h2,by have:=dX x hy0;omega,by rw[apx,h3]⟩,(by exact dX _ hy0)⟩)
  ·
   have hy0:y=0:=act.1 (by omega)
   have hlx:=aa2 h1
   have hmx:=aaz (dg x)
   refine ro0 J J<|ap _ J J (amE _) rfl<|?_
   refine fzE 44 rfl ?_
   exact rz rfl (by show DV.sl ([]++_)=_;rw[←h3,hy0,mT];rfl)
theorem aC6(neg:Bool)(m:Nat):eI (zv neg m)= .ag [.v (.bool (neg&&decide (0<m))),dN m]:=by unfold eI;rw[afY,anF]
theorem aCJ(z:Int):zv (!decide (z<0)) z.natAbs= -z:=by
 unfold zv
 by_cases h:z<0<;>simp[h]<;>omega
theorem aBw(a b:Int):zv (!(decide (a<0)==decide (b<0))) (a.natAbs*b.natAbs)=a*b:=by
 have h:=ayz (decide (a<0)) (decide (b<0)) a.natAbs b.natAbs
 rw[adF,adF] at h
 exact h
theorem acT{neg:Bool}{m:Nat}:PF GB prog 49 [.v (.bool neg),dN m] (eI (zv neg m)):=by
 have hl:=aaz (dg m)
 have hz:= @act m
 refine fn func49 J J ntmps49 J J (fun C=>?_)
 refine csb 6 J J J (fun hg6=>?_) (fun hg6=>?_)
 ·
  exact rz rfl (by rw[aC6,hg6];show DV.ag [.v (.bool _),_]= .ag [.v (.bool _),_];congr 4;rw[Bool.true_and];exact decide_eq_decide.2 (by omega))
 ·
  exact rz rfl (by rw[aC6,hg6];rfl)
end Go.Sx
end
section
namespace Go.Sx
open Go
instance:DecidableEq LnQ:=fun x y=>decidable_of_iff (x.a=y.a∧x.b=y.b∧x.c=y.c) (by
 cases x;cases y;simp)
structure IvQ where
 lo:Rat
 hi:Rat
 nl:Bool
 nh:Bool
def IvQ.all:IvQ:=⟨0,0,true,true⟩
def IvQ.empty(v:IvQ):Bool:=!v.nl&&(!v.nh&&decide (0≤abd v.lo v.hi))
def IvQ.meet(v w:IvQ):IvQ:=
 ⟨if v.nl then w.lo else if w.nl then v.lo else if v.lo<w.lo then w.lo else v.lo,
  if v.nh then w.hi else if w.nh then v.hi else if w.hi<v.hi then w.hi else v.hi,v.nl&&w.nl,v.nh&&w.nh⟩
def IvQ.sample(v:IvQ):Rat:=if v.nl&&v.nh then 0 else if v.nl then v.hi-1 else if v.nh then v.lo+1 else(v.lo+v.hi)*mkRat 1 2
def LnQ.cutK(l m:LnQ):Rat:=m.nor.dot l.dir
def LnQ.cutC(l m:LnQ):Rat:=m.value l.base
def LnQ.cutV(l:LnQ)(v:IvQ)(m:LnQ):IvQ:=
 if Int.sign (l.cutK m).num=0 then v
 else if Int.sign (l.cutK m).num=1 then v.meet ⟨-(l.cutC m/l.cutK m),0,false,true⟩
 else v.meet ⟨0, -(l.cutC m/l.cutK m),true,false⟩
def LnQ.cutB(l:LnQ)(v:IvQ)(m:LnQ):Bool:=
 if Int.sign (l.cutK m).num=0 then decide (0<Int.sign (l.cutC m).num) else !(l.cutV v m).empty
structure FrQ where
 l:LnQ
 v:IvQ
abbrev aae:=List FrQ
def agu(l:LnQ):aae→IvQ→Option IvQ
 |[],v=>some v
 |s::t,v=>if l.cutB v s.l then agu l t (l.cutV v s.l) else none
def afq(c:aae)(l:LnQ):Option IvQ:=agu l c IvQ.all
def aey(l:LnQ)(s:FrQ):Int:=Int.sign (l.value (s.l.at s.v.sample)).num
def aew(l:LnQ):aae→Int
 |[]=> -1
 |s::t=>if aey l s≠0 then aey l s else if s.l=l then 1 else aew l t
def ajz(c:aae)(l:LnQ):Int:=if(afq c l).isSome then 0 else aew l c
def PtQ.half(p:PtQ):Int:=
 if 0<Int.sign p.y.num∨(Int.sign p.y.num=0∧0<Int.sign p.x.num) then 1 else if Int.sign p.y.num<0∨Int.sign p.x.num<0 then 2 else 0
def aa6(u v:PtQ):Int:=if u.half<v.half then-1 else if v.half<u.half then 1 else-(Int.sign (u.cross v).num)
def abP(l:LnQ):aae→aae
 |[]=>[]
 |s::t=>if s.l.cutB s.v l then⟨s.l,s.l.cutV s.v l⟩::abP l t else abP l t
def bsq(p:Nat→Bool)(i j:Nat):Nat:=
 if h:i<j then(if p ((i+j)/2) then bsq p ((i+j)/2+1) j else bsq p i ((i+j)/2)) else i
termination_by j-i
def aen(c:aae)(l:LnQ)(i:Nat):Bool:=match c[i]? with
 |some s=>decide (aa6 s.l.dir l.dir<0)
 |none=>false
def aoX(c:aae)(l:LnQ)(v:IvQ):aae:=
 c.take (bsq (aen c l) 0 c.length)++⟨l,v⟩::c.drop (bsq (aen c l) 0 c.length)
def aaL(c:aae)(l:LnQ):aae:=match afq c l with
 |some v=>aoX (abP l c) l v
 |none=>c
def aa9(c:aae)(l:LnQ):Bool:=match afq c l with
 |some _=>true
 |none=>decide (0<ajz c l)
theorem aqu(p:Nat→Bool): ∀(d i j:Nat),j-i≤d→i≤j→i≤bsq p i j∧bsq p i j≤j
 |0,i,j,h,hij=>by
  rw[bsq,dif_neg (by omega)];omega
 |d+1,i,j,h,hij=>by
  rw[bsq]
  split
  ·split
   ·have:=aqu p d ((i+j)/2+1) j (by omega) (by omega);omega
   ·have:=aqu p d i ((i+j)/2) (by omega) (by omega);omega
  ·omega
theorem ams(l:LnQ): ∀c:aae,(abP l c).length≤c.length
 |[]=>aM _
 |s::t=>by
  have:=ams l t
  unfold abP
  split<;>simp<;>omega
theorem axi(c:aae)(l:LnQ)(v:IvQ):(aoX c l v).length=c.length+1:=by
 have:=(aqu (aen c l) c.length 0 c.length (by omega) (by omega)).2
 simp[aoX];omega
theorem aft(c:aae)(l:LnQ):(aaL c l).length≤c.length+1:=by
 unfold aaL
 split
 ·rw[axi];have:=ams l c;omega
 ·omega
inductive Tr where
 |leaf (b:Bool)
 |node (l:LnQ) (x y:Tr)
def Tr.isLeaf:Tr→Bool
 | .leaf _=>true
 | .node .. =>false
def Tr.code:Tr→Bool
 | .leaf b=>b
 | .node .. =>false
def Tr.depth:Tr→Nat
 | .leaf _=>0
 | .node _ x y=>1+max x.depth y.depth
def Tr.size:Tr→Nat
 | .leaf _=>0
 | .node _ x y=>1+x.size+y.size
def Tr.joinQ(l:LnQ)(x y:Tr):Tr:=if x.isLeaf&&(y.isLeaf&&(x.code==y.code)) then x else .node l x y
def Tr.restrict:Tr→aae→Tr
 | .leaf b,_=> .leaf b
 | .node l x y,c=>if !aa9 c l.rev then x.restrict c else if !aa9 c l then y.restrict c else joinQ l (x.restrict (aaL c l)) (y.restrict (aaL c l.rev))
def Tr.parts:Tr→aae→List (Bool×aae)
 | .leaf b,c=>[(b,c)]
 | .node l x y,c=>(if aa9 c l then x.parts (aaL c l) else [])++(if aa9 c l.rev then y.parts (aaL c l.rev) else [])
def Tr.all(p:LnQ→Prop):Tr→Prop
 | .leaf _=>True
 | .node l x y=>p l∧x.all p∧y.all p
def Tr.good:Tr→Prop
 | .leaf _=>True
 | .node _ x y=> ¬(x.isLeaf=true∧y.isLeaf=true∧x.code=y.code)∧x.good∧y.good
structure NQ where
 l:LnQ
 a:Int
 b:Int
def ac6(b:Bool):Int:=if b then-2 else-1
def Tr.num:Tr→Nat→Int
 | .leaf b,_=>ac6 b
 | .node ..,n=>n
def Tr.wr:Tr→Nat→List NQ
 | .leaf _,_=>[]
 | .node l x y,n=>⟨l,x.num (n+1),y.num (n+1+x.size)⟩::x.wr (n+1)++y.wr (n+1+x.size)
theorem Tr.wr_len: ∀(t:Tr) (n:Nat),(t.wr n).length=t.size
 | .leaf _,n=>rfl
 | .node l x y,n=>by
  have h1:=Tr.wr_len x (n+1)
  have h2:=Tr.wr_len y (n+1+x.size)
  simp[Tr.wr,Tr.size,h1,h2];omega
theorem Tr.joinQ_cases(l:LnQ)(x y:Tr):(Tr.joinQ l x y=x∧x.isLeaf=true)∨(Tr.joinQ l x y= .node l x y∧ ¬(x.isLeaf=true∧y.isLeaf=true∧x.code=y.code)):=by
 unfold Tr.joinQ
 split
 ·rename_i h
  simp at h
  exact .inl ⟨rfl,h.1⟩
 ·rename_i h
  simp at h
  exact .inr ⟨rfl,fun⟨a,b,c⟩=>h a b c⟩
theorem Tr.restrict_depth: ∀(t:Tr) (c:aae),(t.restrict c).depth≤t.depth
 | .leaf b,c=>aM _
 | .node l x y,c=>by
  unfold Tr.restrict
  split
  ·have:=x.restrict_depth c;simp only[Tr.depth];omega
  ·split
   ·have:=y.restrict_depth c;simp only[Tr.depth];omega
   ·have h1:=x.restrict_depth (aaL c l)
    have h2:=y.restrict_depth (aaL c l.rev)
    rcases Tr.joinQ_cases l (x.restrict (aaL c l)) (y.restrict (aaL c l.rev)) with⟨h,_⟩|⟨h,_⟩
    ·rw[h];simp only[Tr.depth];omega
    ·rw[h];simp only[Tr.depth];omega
theorem Tr.restrict_all(p:LnQ→Prop): ∀(t:Tr) (c:aae),t.all p→(t.restrict c).all p
 | .leaf b,c,_=>trivial
 | .node l x y,c,h=>by
  obtain⟨h0,h1,h2⟩:=h
  unfold Tr.restrict
  split
  ·exact x.restrict_all p c h1
  ·split
   ·exact y.restrict_all p c h2
   ·rcases Tr.joinQ_cases l (x.restrict (aaL c l)) (y.restrict (aaL c l.rev)) with⟨h,_⟩|⟨h,_⟩
    ·rw[h];exact x.restrict_all p _ h1
    ·rw[h];exact⟨h0,x.restrict_all p _ h1,y.restrict_all p _ h2⟩
theorem abl(l:LnQ)(p:PtQ):l.value p=(l.a:Rat)*p.x+(l.b:Rat)*p.y+(l.c:Rat):=rfl
theorem aaV(l:LnQ)(p:PtQ):l.rev.value p= -l.value p:=by
 rw[abl,abl]
 have h1:((l.rev.a:Int):Rat)= -(l.a:Rat):=(aga l.a).symm
 have h2:((l.rev.b:Int):Rat)= -(l.b:Rat):=(aga l.b).symm
 have h3:((l.rev.c:Int):Rat)= -(l.c:Rat):=(aga l.c).symm
 rw[h1,h2,h3];grind
def abi(q p:PtQ)(e:Rat):PtQ:=⟨q.x+e*(p.x-q.x),q.y+e*(p.y-q.y)⟩
theorem acE(l:LnQ)(q p:PtQ)(e:Rat):l.value (abi q p e)=l.value q+e*(l.value p-l.value q):=by
 simp only[abl,abi];grind
def adk(q u:PtQ)(e:Rat):PtQ:=⟨q.x+e*u.x,q.y+e*u.y⟩
theorem abK(l:LnQ)(q u:PtQ)(e:Rat):l.value (adk q u e)=l.value q+e*l.nor.dot u:=by
 simp only[abl,adk,LnQ.nor,PtQ.dot];grind
theorem aan{a b:Rat}(ha:0<a)(hb:0<b):0<a*b:=Rat.mul_pos ha hb
theorem aab{a b:Rat}(ha:0≤a)(hb:0≤b):0≤a*b:=Rat.mul_nonneg ha hb
theorem ag0(a:Rat):0≤a*a:=by
 by_cases h:0≤a
 ·exact aab h h
 ·have:=aab (a:= -a) (b:= -a) (by grind) (by grind)
  grind
theorem aaq{s k:Rat}(hk:0<k):0<s*k↔0<s:=by
 constructor
 ·intro h
  by_cases hs:0<s
  ·exact hs
  ·have:=aab (a:= -s) (b:=k) (by grind) (by grind)
   grind
 ·intro h;exact aan h hk
theorem aai{s k:Rat}(hk:0<k):0≤s*k↔0≤s:=by
 constructor
 ·intro h
  by_cases hs:0≤s
  ·exact hs
  ·have:=aan (a:= -s) (b:=k) (by grind) hk
   grind
 ·intro h;exact aab h (by grind)
theorem af7{A B u v:Rat}(h0:0≤A)(h1:0≤A+v*B)(hu:0≤u)(huv:u≤v):0≤A+u*B:=by
 by_cases hB:0≤B
 ·have:=aab hu hB;grind
 ·have:=aab (a:=v-u) (b:= -B) (by grind) (by grind)
  grind
def LnQ.Ne(l:LnQ):Prop:= ¬(l.a=0∧l.b=0)
theorem LnQ.ok.ne{l:LnQ}(h:l.ok):l.Ne:=h.1
theorem afX{l:LnQ}(h:l.Ne):0<l.nor.dot l.nor:=by
 show 0<(l.a:Rat)*l.a+(l.b:Rat)*l.b
 have h1:=ag0 (l.a:Rat)
 have h2:=ag0 (l.b:Rat)
 by_cases ha:l.a=0
 ·have hb:l.b≠0:=fun hb=>h ⟨ha,hb⟩
  have hb':(l.b:Rat)≠0:=fun e=>hb (dQ.1 e)
  have:(l.b:Rat)*l.b≠0:=by grind
  grind
 ·have ha':(l.a:Rat)≠0:=fun e=>ha (dQ.1 e)
  have:(l.a:Rat)*l.a≠0:=by grind
  grind
theorem amK{l:LnQ}(h:l.Ne): ∃q:Rat,l.nor.dot l.nor*q= -(l.c:Rat)∧l.base=⟨(l.a:Rat)*q,(l.b:Rat)*q⟩:=by
 refine⟨-(l.c:Rat)/l.nor.dot l.nor,?_,rfl⟩
 have:=afX h
 grind
theorem ace(l m:LnQ)(t:Rat):m.value (l.at t)=l.cutC m+t*l.cutK m:=by
 simp only[LnQ.cutC,LnQ.cutK,abl,LnQ.at,PtQ.add,PtQ.scale,LnQ.dir,LnQ.nor,PtQ.dot];grind
theorem acf{l:LnQ}(h:l.Ne)(t:Rat):l.value (l.at t)=0:=by
 obtain⟨q,h1,h2⟩:=amK h
 simp only[abl,LnQ.at,h2,PtQ.add,PtQ.scale,LnQ.dir]
 simp only[LnQ.nor,PtQ.dot] at h1
 grind
theorem aww{l:LnQ}(h:l.Ne){p:PtQ}(hp:l.value p=0): ∃t,p=l.at t:=by
 obtain⟨q,h1,h2⟩:=amK h
 have hn:=afX h
 obtain⟨x,y⟩:=p
 rw[abl] at hp
 simp only[LnQ.nor,PtQ.dot] at h1 hn
 refine⟨((l.b:Rat)*x-(l.a:Rat)*y)/((l.a:Rat)*l.a+(l.b:Rat)*l.b),?_⟩
 generalize ht:((l.b:Rat)*x-(l.a:Rat)*y)/((l.a:Rat)*l.a+(l.b:Rat)*l.b)=t
 have ht':((l.a:Rat)*l.a+(l.b:Rat)*l.b)*t=(l.b:Rat)*x-(l.a:Rat)*y:=by grind
 simp only[LnQ.at,h2,PtQ.add,PtQ.scale,LnQ.dir,PtQ.mk.injEq]
 generalize (l.a:Rat)=a at*
 generalize (l.b:Rat)=b at*
 generalize (l.c:Rat)=c at*
 have e1:(a*a+b*b)*(x-(a*q+b*t))=0:=by grind
 have e2:(a*a+b*b)*(y-(b*q+ -a*t))=0:=by grind
 constructor<;>grind
def IvQ.has(v:IvQ)(t:Rat):Prop:=(v.nl=true∨v.lo≤t)∧(v.nh=true∨t≤v.hi)
def IvQ.ins(v:IvQ)(t:Rat):Prop:=(v.nl=true∨v.lo<t)∧(v.nh=true∨t<v.hi)
def IvQ.Pos(v:IvQ):Prop:=v.nl=true∨v.nh=true∨v.lo<v.hi
theorem aoz(a b:Rat):0≤abd a b↔b≤a:=by
 unfold abd;split
 ·constructor
  ·intro h;exact absurd h (by decide)
  ·intro h;grind
 ·split
  ·constructor
   ·intro _;grind
   ·intro _;decide
  ·constructor
   ·intro _;grind
   ·intro _;decide
theorem agJ(v:IvQ):v.empty=false↔v.Pos:=by
 obtain⟨lo,hi,nl,nh⟩:=v
 unfold IvQ.empty IvQ.Pos
 cases nl<;>cases nh<;>simp[aoz]
 first|exact Rat.not_le|grind
theorem IvQ.ins.has{v:IvQ}{t:Rat}(h:v.ins t):v.has t:=by
 obtain⟨h1,h2⟩:=h
 exact⟨h1.imp id (fun h=>cN h),h2.imp id (fun h=>cN h)⟩
theorem aB5:mkRat 1 2=(1:Rat)/2:=by rw[pR];rfl
theorem aba{v:IvQ}(h:v.Pos):v.ins v.sample:=by
 obtain⟨lo,hi,nl,nh⟩:=v
 unfold IvQ.Pos at h
 unfold IvQ.ins IvQ.sample
 rw[aB5]
 cases nl<;>cases nh<;>simp at* <;>grind
theorem ard(v w:IvQ)(t:Rat):(v.meet w).has t↔v.has t∧w.has t:=by
 obtain⟨lo,hi,nl,nh⟩:=v
 obtain⟨lo',hi',nl',nh'⟩:=w
 unfold IvQ.has IvQ.meet
 cases nl<;>cases nh<;>cases nl'<;>cases nh'<;>simp<;>grind
theorem arf(v w:IvQ)(t:Rat):(v.meet w).ins t↔v.ins t∧w.ins t:=by
 obtain⟨lo,hi,nl,nh⟩:=v
 obtain⟨lo',hi',nl',nh'⟩:=w
 unfold IvQ.ins IvQ.meet
 cases nl<;>cases nh<;>cases nl'<;>cases nh'<;>simp<;>grind
theorem aov(t:Rat):IvQ.all.has t:=⟨.inl rfl, .inl rfl⟩
theorem aAS(t:Rat):IvQ.all.ins t:=⟨.inl rfl, .inl rfl⟩
theorem agc:IvQ.all.Pos:= .inl rfl
theorem abV(k:Rat):Int.sign k.num=0↔k=0:=by rw[iV,nZ]
theorem awP(k:Rat):0<k.num↔0<k:=by
 have h1:0≤k.num↔0≤k:=Rat.num_nonneg
 have h2:k.num=0↔k=0:=nZ
 constructor
 ·intro h
  have a:=h1.1 (by omega)
  have b:k≠0:=fun e=>by have:=h2.2 e;omega
  grind
 ·intro h
  have a:=h1.2 (by grind)
  have b:k.num≠0:=fun e=>by have:=h2.1 e;grind
  omega
theorem ahL(k:Rat):Int.sign k.num=1↔0<k:=by rw[Int.sign_eq_one_iff_pos,awP]
theorem acG(k:Rat):0<Int.sign k.num↔0<k:=by
 rw[←ahL]
 rcases qM k.num 0 with h|h|h
 ·rw[fL h];decide
 ·rw[h];decide
 ·rw[gR h];decide
theorem ahN(k:Rat):Int.sign k.num<0↔k<0:=by
 have h1:=abV k
 have h2:=acG k
 constructor
 ·intro h
  by_cases hk:0<k
  ·have:=h2.2 hk;omega
  ·by_cases h0:k=0
   ·have:=h1.2 h0;omega
   ·grind
 ·intro h
  have a1: ¬Int.sign k.num=0:=fun e=>by have:=h1.1 e;grind
  have a2: ¬0<Int.sign k.num:=fun e=>by have:=h2.1 e;grind
  omega
theorem agM{l m:LnQ}(v:IvQ)(hk:l.cutK m=0):l.cutV v m=v∧(l.cutB v m=true↔0<l.cutC m):=by
 have h:=(abV (l.cutK m)).2 hk
 unfold LnQ.cutV LnQ.cutB
 rw[if_pos h,if_pos h,decide_eq_true_iff,acG]
 exact⟨rfl,Iff.rfl⟩
theorem aoc{l m:LnQ}(v:IvQ)(hk:0<l.cutK m):l.cutV v m=v.meet ⟨-(l.cutC m/l.cutK m),0,false,true⟩∧(l.cutB v m=true↔(l.cutV v m).Pos):=by
 have h0: ¬Int.sign (l.cutK m).num=0:=fun e=>by have:=(abV _).1 e;grind
 have h1:=(ahL (l.cutK m)).2 hk
 constructor
 ·unfold LnQ.cutV;rw[if_neg h0,if_pos h1]
 ·unfold LnQ.cutB;rw[if_neg h0,←agJ];simp
theorem anw{l m:LnQ}(v:IvQ)(hk:l.cutK m<0):l.cutV v m=v.meet ⟨0, -(l.cutC m/l.cutK m),true,false⟩∧(l.cutB v m=true↔(l.cutV v m).Pos):=by
 have h0: ¬Int.sign (l.cutK m).num=0:=fun e=>by have:=(abV _).1 e;grind
 have h1: ¬Int.sign (l.cutK m).num=1:=fun e=>by have:=(ahL _).1 e;grind
 constructor
 ·unfold LnQ.cutV;rw[if_neg h0,if_neg h1]
 ·unfold LnQ.cutB;rw[if_neg h0,←agJ];simp
theorem aGz{C K t:Rat}(hk:0<K): -(C/K)≤t↔0≤C+t*K:=by
 have e:C=C/K*K:=by grind
 generalize C/K=d at*
 rw[e,show d*K+t*K=(d+t)*K from by grind,aai hk]
 grind
theorem aE5{C K t:Rat}(hk:0<K): -(C/K)<t↔0<C+t*K:=by
 have e:C=C/K*K:=by grind
 generalize C/K=d at*
 rw[e,show d*K+t*K=(d+t)*K from by grind,aaq hk]
 grind
theorem aGY{C K t:Rat}(hk:K<0):t≤ -(C/K)↔0≤C+t*K:=by
 have e:C=C/K*K:=by grind
 generalize C/K=d at*
 rw[e,show d*K+t*K=(-(d+t))*(-K) from by grind,aai (by grind)]
 grind
theorem aDu{C K t:Rat}(hk:K<0):t< -(C/K)↔0<C+t*K:=by
 have e:C=C/K*K:=by grind
 generalize C/K=d at*
 rw[e,show d*K+t*K=(-(d+t))*(-K) from by grind,aaq (by grind)]
 grind
theorem acX(k:Rat):k=0∨0<k∨k<0:=by grind
theorem alM{l m:LnQ}{v:IvQ}(hb:l.cutB v m=true)(t:Rat):(l.cutV v m).has t↔v.has t∧0≤m.value (l.at t):=by
 rw[ace]
 rcases acX (l.cutK m) with hk|hk|hk
 ·obtain⟨h1,h2⟩:=agM v hk
  rw[h1,hk]
  have:=h2.1 hb
  constructor
  ·intro h;exact⟨h,by grind⟩
  ·exact fun h=>h.1
 ·rw[(aoc v hk).1,ard,←aGz hk]
  simp[IvQ.has]
 ·rw[(anw v hk).1,ard,←aGY hk]
  simp[IvQ.has]
theorem auk{l m:LnQ}{v:IvQ}(hb:l.cutB v m=true)(t:Rat):(l.cutV v m).ins t↔v.ins t∧0<m.value (l.at t):=by
 rw[ace]
 rcases acX (l.cutK m) with hk|hk|hk
 ·obtain⟨h1,h2⟩:=agM v hk
  rw[h1,hk]
  have:=h2.1 hb
  constructor
  ·intro h;exact⟨h,by grind⟩
  ·exact fun h=>h.1
 ·rw[(aoc v hk).1,arf,←aE5 hk]
  simp[IvQ.ins]
 ·rw[(anw v hk).1,arf,←aDu hk]
  simp[IvQ.ins]
theorem aje{l m:LnQ}{v:IvQ}(hv:v.Pos)(hb:l.cutB v m=true):(l.cutV v m).Pos:=by
 rcases acX (l.cutK m) with hk|hk|hk
 ·rw[(agM v hk).1];exact hv
 ·exact(aoc v hk).2.1 hb
 ·exact(anw v hk).2.1 hb
theorem asC{l m:LnQ}{v:IvQ}(hv:v.Pos)(hb:l.cutB v m=false){t:Rat}(ht:v.has t):m.value (l.at t)≤0:=by
 rw[ace]
 have hb': ¬l.cutB v m=true:=by rw[hb];decide
 rcases acX (l.cutK m) with hk|hk|hk
 ·have h2:=(agM v hk).2
  have: ¬0<l.cutC m:=fun h=>hb' (h2.2 h)
  rw[hk];grind
 ·obtain⟨h1,h2⟩:=aoc v hk
  have hn: ¬(l.cutV v m).Pos:=fun h=>hb' (h2.2 h)
  rw[h1] at hn
  have h3:=aE5 (C:=l.cutC m) (t:=t) hk
  suffices¬(-(l.cutC m/l.cutK m)<t) by grind
  generalize-(l.cutC m/l.cutK m)=d at*
  obtain⟨lo,hi,nl,nh⟩:=v
  unfold IvQ.Pos IvQ.meet at hn
  unfold IvQ.Pos at hv
  unfold IvQ.has at ht
  cases nl<;>cases nh<;>simp at* <;>grind
 ·obtain⟨h1,h2⟩:=anw v hk
  have hn: ¬(l.cutV v m).Pos:=fun h=>hb' (h2.2 h)
  rw[h1] at hn
  have h3:=aDu (C:=l.cutC m) (t:=t) hk
  suffices¬(t< -(l.cutC m/l.cutK m)) by grind
  generalize-(l.cutC m/l.cutK m)=d at*
  obtain⟨lo,hi,nl,nh⟩:=v
  unfold IvQ.Pos IvQ.meet at hn
  unfold IvQ.Pos at hv
  unfold IvQ.has at ht
  cases nl<;>cases nh<;>simp at* <;>grind
def InD(c:aae)(p:PtQ):Prop:= ∀s∈c,0<s.l.value p
def InC(c:aae)(p:PtQ):Prop:= ∀s∈c,0≤s.l.value p
theorem ahs(l:LnQ): ∀(c:aae) (v w:IvQ),v.Pos→agu l c v=some w→
  w.Pos∧(∀t,w.has t↔v.has t∧InC c (l.at t))∧(∀t,w.ins t↔v.ins t∧InD c (l.at t))
 |[],v,w,hv,h=>by
  obtain rfl:v=w:=by simpa[agu] using h
  exact⟨hv,fun t=>⟨fun h=>⟨h,fun s hs=>absurd hs (by simp)⟩,fun h=>h.1⟩,fun t=>⟨fun h=>⟨h,fun s hs=>absurd hs (by simp)⟩,fun h=>h.1⟩⟩
 |s::c,v,w,hv,h=>by
  rw[agu] at h
  split at h
  ·rename_i hb
   obtain⟨h1,h2,h3⟩:=ahs l c _ w (aje hv hb) h
   refine⟨h1,fun t=>?_,fun t=>?_⟩
   ·rw[h2,alM hb]
    simp only[InC,dK]
    exact and_assoc
   ·rw[h3,auk hb]
    simp only[InD,dK]
    exact and_assoc
  ·exact absurd h (by simp)
theorem akY(l:LnQ): ∀(c:aae) (v:IvQ),v.Pos→agu l c v=none→ ∀t,v.has t→ ¬InD c (l.at t)
 |[],v,hv,h=>by simp[agu] at h
 |s::c,v,hv,h=>by
  intro t ht hd
  have hd':=dK.1 hd
  rw[agu] at h
  split at h
  ·rename_i hb
   exact akY l c _ (aje hv hb) h t ((alM hb t).2 ⟨ht,cN hd'.1⟩) hd'.2
  ·rename_i hb
   have:=asC hv (by simpa using hb) ht
   have:=hd'.1
   grind
theorem InD.open: ∀{c:aae} {q:PtQ} (u:PtQ),InD c q→ ∃e:Rat,0<e∧ ∀d,0≤d→d≤e→InD c (adk q u d)
 |[],q,u,_=>⟨1,by decide,fun d _ _ s hs=>absurd hs (by simp)⟩
 |s::c,q,u,h=>by
  have h':=dK.1 h
  obtain⟨e,he,hd⟩:=InD.open (c:=c) u h'.2
  have hs:=h'.1
  generalize hk:s.l.nor.dot u=k
  have hf: ∃f:Rat,0<f∧ ∀d,0≤d→d≤f→0<s.l.value q+d*k:=by
   by_cases hk0:0≤k
   ·exact⟨1,by decide,fun d h1 _=>by have:=aab h1 hk0;grind⟩
   ·refine⟨s.l.value q/(2* -k),?_,fun d h1 h2=>?_⟩
    ·have e1:s.l.value q/(2* -k)*(2* -k)=s.l.value q:=by grind
     exact(aaq (k:=2* -k) (by grind)).1 (by rw[e1];exact hs)
    ·have e1:s.l.value q/(2* -k)*(2* -k)=s.l.value q:=by grind
     generalize s.l.value q/(2* -k)=f at*
     have:=aab (a:=f-d) (b:= -k) (by grind) (by grind)
     grind
  obtain⟨f,hf0,hf⟩:=hf
  by_cases hef:e≤f
  ·refine⟨e,he,fun d h1 h2=>dK.2 ⟨?_,hd d h1 h2⟩⟩
   rw[abK,hk];exact hf d h1 (by grind)
  ·refine⟨f,hf0,fun d h1 h2=>dK.2 ⟨?_,hd d h1 (by grind)⟩⟩
   rw[abK,hk];exact hf d h1 h2
theorem akv: ∀{c:aae} {q p:PtQ},InD c q→(∃s∈c,s.l.value p≤0)→
  ∃e:Rat,0≤e∧e≤1∧(∃s∈c,s.l.value p≤0∧s.l.value (abi q p e)=0)∧InC c (abi q p e)
 |[],q,p,_,h=>by obtain⟨s,hs,_⟩:=h;exact absurd hs (by simp)
 |s::c,q,p,h,hex=>by
  have h':=dK.1 h
  have hs:=h'.1
  by_cases hc: ∃s∈c,s.l.value p≤0
  ·obtain⟨e,h0,h1,⟨s1,m1,n1,z1⟩,hC⟩:=akv h'.2 hc
   by_cases hp:0≤s.l.value (abi q p e)
   ·exact⟨e,h0,h1,⟨s1,aJ _ m1,n1,z1⟩,dK.2 ⟨hp,hC⟩⟩
   ·rw[acE] at hp
    generalize hB:s.l.value p-s.l.value q=B at*
    have hB0:B<0:=by
     by_cases hB0:0≤B
     ·have:=aab h0 hB0;grind
     ·grind
    have e1:s.l.value q/(-B)*(-B)=s.l.value q:=by grind
    generalize hf:s.l.value q/(-B)=f at*
    have f0:0≤f:=(aai (k:= -B) (by grind)).1 (by rw[e1];grind)
    have f1:f≤e:=by
     have:=(aai (s:=e-f) (k:= -B) (by grind)).1 (by grind)
     grind
    have z:s.l.value (abi q p f)=0:=by rw[acE,hB];grind
    have np:s.l.value p≤0:=by
     have:=aab (a:=1-e) (b:= -B) (by grind) (by grind)
     grind
    refine⟨f,f0,by grind,⟨s,aZ,np,z⟩,dK.2 ⟨by rw[z];exact fU,fun s2 m2=>?_⟩⟩
    have a1:=h'.2 s2 m2
    have a2:=hC s2 m2
    rw[acE] at a2⊢
    exact af7 (cN a1) a2 f0 f1
  ·have np:s.l.value p≤0:=by
    obtain⟨s1,m1,n1⟩:=hex
    rcases aT.1 m1 with rfl|m1
    ·exact n1
    ·exact absurd ⟨s1,m1,n1⟩ hc
   generalize hB:s.l.value p-s.l.value q=B at*
   have hB0:B<0:=by grind
   have e1:s.l.value q/(-B)*(-B)=s.l.value q:=by grind
   generalize hf:s.l.value q/(-B)=f at*
   have f0:0≤f:=(aai (k:= -B) (by grind)).1 (by rw[e1];grind)
   have f1:f≤1:=by
    have:=(aai (s:=1-f) (k:= -B) (by grind)).1 (by grind)
    grind
   have z:s.l.value (abi q p f)=0:=by rw[acE,hB];grind
   refine⟨f,f0,f1,⟨s,aZ,np,z⟩,dK.2 ⟨by rw[z];exact fU,fun s2 m2=>?_⟩⟩
   have a1:=h'.2 s2 m2
   have a2:0<s2.l.value p:=by
    by_cases h:0<s2.l.value p
    ·exact h
    ·exact absurd ⟨s2,m2,by grind⟩ hc
   rw[acE]
   have:=af7 (A:=s2.l.value q) (B:=s2.l.value p-s2.l.value q) (u:=f) (v:=1) (cN a1) (by grind) f0 f1
   exact this
structure aaJ (c:aae):Prop where
 ne: ∃p,InD c p
 ok: ∀s∈c,s.l.ok
 edge: ∀s∈c,s.v.Pos∧ ∀t,s.v.has t↔InC c (s.l.at t)
theorem aaJ.nil:aaJ []:=⟨⟨⟨0,0⟩,fun s hs=>absurd hs (by simp)⟩,fun s hs=>absurd hs (by simp),fun s hs=>absurd hs (by simp)⟩
theorem aa0{c:aae}{m:LnQ}(hne: ∃q,InD c q)(h: ∀p,InD c p→0<m.value p){p:PtQ}(hp:InC c p):0≤m.value p:=by
 obtain⟨q,hq⟩:=hne
 have mq:=h q hq
 by_cases hm:0≤m.value p
 ·exact hm
 ·exfalso
  generalize hB:m.value q-m.value p=B
  have hB0:0<B:=by grind
  have e1: -m.value p/B*B= -m.value p:=by grind
  generalize-m.value p/B=e at*
  have e0:0<e:=(aaq hB0).1 (by rw[e1];grind)
  have e2:e≤1:=by
   have:=(aai (s:=1-e) hB0).1 (by grind)
   grind
  have hd:InD c (abi p q e):=fun s hs=>by
   rw[acE]
   have a:=hp s hs
   have b:=hq s hs
   have:=aan e0 b
   have:=aab (a:=1-e) (b:=s.l.value p) (by grind) a
   grind
  have:=h _ hd
  rw[acE,hB,e1] at this
  grind
theorem aco{l:LnQ}{s':FrQ}: ∀{c:aae},s'∈abP l c↔ ∃s∈c,s.l.cutB s.v l=true∧s'=⟨s.l,s.l.cutV s.v l⟩
 |[]=>by simp[abP]
 |s::c=>by
  rw[abP]
  split
  ·rename_i hb
   rw[aT,aco (c:=c)]
   constructor
   ·rintro (rfl|⟨s1,h1,h2⟩)
    ·exact⟨s,aZ,hb,rfl⟩
    ·exact⟨s1,aJ _ h1,h2⟩
   ·rintro ⟨s1,h1,h2,h3⟩
    rcases aT.1 h1 with rfl|h1
    ·exact .inl h3
    ·exact .inr ⟨s1,h1,h2,h3⟩
  ·rename_i hb
   rw[aco (c:=c)]
   constructor
   ·rintro ⟨s1,h1,h2⟩;exact⟨s1,aJ _ h1,h2⟩
   ·rintro ⟨s1,h1,h2,h3⟩
    rcases aT.1 h1 with rfl|h1
    ·exact absurd h2 hb
    ·exact⟨s1,h1,h2,h3⟩
theorem acH{c:aae}{l:LnQ}{v:IvQ}{s:FrQ}:s∈aoX c l v↔s=⟨l,v⟩∨s∈c:=by
 unfold aoX
 generalize bsq (aen c l) 0 c.length=n
 rw[bY,aT]
 have h:=iM n c
 constructor
 ·rintro (h1|h1|h1)
  ·exact .inr (fZ h1)
  ·exact .inl h1
  ·exact .inr (gJ h1)
 ·rintro (h1|h1)
  ·exact .inr (.inl h1)
  ·rw[←h,bY] at h1
   rcases h1 with h1|h1
   ·exact .inl h1
   ·exact .inr (.inr h1)
theorem axZ{c:aae}{l:LnQ}(hl:l.Ne)(hp:afq c l=none){p:PtQ}(h:InD c p):l.value p≠0:=by
 intro h0
 obtain⟨t,rfl⟩:=aww hl h0
 exact akY l c _ agc hp t (aov t) h
theorem ahy{c:aae}{l:LnQ}(hl:l.Ne){v:IvQ}(hp:afq c l=some v):(∃q,InD c q∧0<l.value q)∧ ∃q,InD c q∧l.value q<0:=by
 obtain⟨h1,_,h3⟩:=ahs l c _ v agc hp
 have hd:=((h3 v.sample).1 (aba h1)).2
 have h0:=acf hl v.sample
 have hn:=afX hl
 constructor
 ·obtain⟨e,he,hm⟩:=hd.open l.nor
  refine⟨_,hm e (cN he) fU,?_⟩
  rw[abK,h0]
  have:=aan he hn
  grind
 ·obtain⟨e,he,hm⟩:=hd.open ⟨-l.nor.x, -l.nor.y⟩
  refine⟨_,hm e (cN he) fU,?_⟩
  rw[abK,h0]
  have:=aan he hn
  simp only[PtQ.dot] at this⊢
  grind
theorem avC{c:aae}{l:LnQ}{v:IvQ}(hc:aaJ c)(hl:l.ok)(hp:afq c l=some v):
  aaJ (aoX (abP l c) l v)∧ ∀p,InD (aoX (abP l c) l v) p↔InD c p∧0<l.value p:=by
 obtain⟨⟨q,hq,lq⟩,_⟩:=ahy hl.ne hp
 obtain⟨v1,v2,v3⟩:=ahs l c _ v agc hp
 have hD: ∀p,InD (aoX (abP l c) l v) p↔InD c p∧0<l.value p:=by
  intro p
  constructor
  ·intro h
   have lp:0<l.value p:=h ⟨l,v⟩ (acH.2 (.inl rfl))
   refine⟨fun s0 hs0=>?_,lp⟩
   by_cases h0:0<s0.l.value p
   ·exact h0
   ·exfalso
    obtain⟨e,e0,e1,⟨s,ms,ns,zs⟩,hC⟩:=akv (p:=p) hq ⟨s0,hs0,by grind⟩
    obtain⟨t,ht⟩:=aww (hc.ok s ms).ne zs
    rw[ht] at hC
    obtain⟨p1,p2⟩:=hc.edge s ms
    have hh:=(p2 t).2 hC
    have lr:0<l.value (s.l.at t):=by
     rw[←ht,acE]
     by_cases hB:0≤l.value p-l.value q
     ·have:=aab e0 hB;grind
     ·have:=aab (a:=1-e) (b:= -(l.value p-l.value q)) (by grind) (by grind)
      grind
    have hb:s.l.cutB s.v l=true:=by
     cases hb:s.l.cutB s.v l with
     |true=>rfl
     |false=>have:=asC p1 hb hh;grind
    have:=h ⟨s.l,s.l.cutV s.v l⟩ (acH.2 (.inr (aco.2 ⟨s,ms,hb,rfl⟩)))
    simp only at this
    grind
  ·rintro ⟨h1,h2⟩ s hs
   rcases acH.1 hs with rfl|hs
   ·exact h2
   ·obtain⟨s1,m1,_,rfl⟩:=aco.1 hs
    exact h1 s1 m1
 have hne: ∃p,InD (aoX (abP l c) l v) p:=⟨q,(hD q).2 ⟨hq,lq⟩⟩
 have hC: ∀p,InC (aoX (abP l c) l v) p↔InC c p∧0≤l.value p:=by
  intro p
  constructor
  ·intro h
   refine⟨fun s hs=>?_,h ⟨l,v⟩ (acH.2 (.inl rfl))⟩
   exact aa0 hne (fun p hp=>((hD p).1 hp).1 s hs) h
  ·rintro ⟨h1,h2⟩ s hs
   rcases acH.1 hs with rfl|hs
   ·exact h2
   ·obtain⟨s1,m1,_,rfl⟩:=aco.1 hs
    exact h1 s1 m1
 refine⟨⟨hne,fun s hs=>?_,fun s hs=>?_⟩,hD⟩
 ·rcases acH.1 hs with rfl|hs
  ·exact hl
  ·obtain⟨s1,m1,_,rfl⟩:=aco.1 hs
   exact hc.ok s1 m1
 ·rcases acH.1 hs with rfl|hs
  ·refine⟨v1,fun t=>?_⟩
   rw[hC]
   simp only
   rw[v2]
   have h0:=acf hl.ne t
   constructor
   ·intro h;exact⟨h.2,by rw[h0];exact fU⟩
   ·intro h;exact⟨aov t,h.1⟩
  ·obtain⟨s1,m1,hb,rfl⟩:=aco.1 hs
   obtain⟨p1,p2⟩:=hc.edge s1 m1
   refine⟨aje p1 hb,fun t=>?_⟩
   rw[hC]
   simp only
   rw[alM hb,p2]
theorem InD.seg{c:aae}{q p:PtQ}{e:Rat}(hq:InD c q)(hp:InD c p)(h0:0≤e)(h1:e≤1):InD c (abi q p e):=fun s hs=>by
 rw[acE]
 have a:=hq s hs
 have b:=hp s hs
 by_cases he:e=0
 ·subst he;grind
 ·have:=aan (a:=e) (by grind) b
  have:=aab (a:=1-e) (b:=s.l.value q) (by grind) (by grind)
  grind
theorem alV{v:IvQ}{t:Rat}(h:v.ins t):(∃u,u<t∧v.has u)∧ ∃u,t<u∧v.has u:=by
 obtain⟨lo,hi,nl,nh⟩:=v
 unfold IvQ.ins at h
 unfold IvQ.has
 refine⟨⟨if nl=true then t-1 else lo,?_⟩,⟨if nh=true then t+1 else hi,?_⟩⟩<;>cases nl<;>cases nh<;>simp at* <;>grind
theorem ac0{a b c x y z:Nat}(h1:x*b=a*y)(h2:x*c=a*z)(g:Nat.gcd (Nat.gcd a b) c=1):a∣x:=by
 have e:x=Nat.gcd (Nat.gcd (x*a) (x*b)) (x*c):=by
  rw[Nat.gcd_mul_left,Nat.gcd_mul_left,g,iK]
 rw[e]
 exact Nat.dvd_gcd (Nat.dvd_gcd (Nat.dvd_mul_left ..) (h1▸Nat.dvd_mul_right ..)) (h2▸Nat.dvd_mul_right ..)
theorem atM{a b c x y z:Int}(h1:a*y=b*x)(h2:a*z=c*x)(h3:b*z=c*y)
  (g1:Nat.gcd (Nat.gcd a.natAbs b.natAbs) c.natAbs=1)(g2:Nat.gcd (Nat.gcd x.natAbs y.natAbs) z.natAbs=1):
  (a=x∧b=y∧c=z)∨(a= -x∧b= -y∧c= -z):=by
 have n1:a.natAbs*y.natAbs=b.natAbs*x.natAbs:=by rw[←jJ,←jJ,h1]
 have n2:a.natAbs*z.natAbs=c.natAbs*x.natAbs:=by rw[←jJ,←jJ,h2]
 have n3:b.natAbs*z.natAbs=c.natAbs*y.natAbs:=by rw[←jJ,←jJ,h3]
 generalize ha:a.natAbs=A at*
 generalize hb:b.natAbs=B at*
 generalize hc:c.natAbs=C at*
 generalize hx:x.natAbs=X at*
 generalize hy:y.natAbs=Y at*
 generalize hz:z.natAbs=Z at*
 have gB:Nat.gcd (Nat.gcd B A) C=1:=by rw[iN B A];exact g1
 have gC:Nat.gcd (Nat.gcd C A) B=1:=by rw[Nat.gcd_assoc,iN];exact g1
 have gY:Nat.gcd (Nat.gcd Y X) Z=1:=by rw[iN Y X];exact g2
 have gZ:Nat.gcd (Nat.gcd Z X) Y=1:=by rw[Nat.gcd_assoc,iN];exact g2
 have e1:A=X:=Nat.dvd_antisymm (ac0 (x:=X) (y:=Y) (z:=Z) (by grind) (by grind) g1) (ac0 (x:=A) (y:=B) (z:=C) (by grind) (by grind) g2)
 have e2:B=Y:=Nat.dvd_antisymm (ac0 (x:=Y) (y:=X) (z:=Z) (by grind) (by grind) gB) (ac0 (x:=B) (y:=A) (z:=C) (by grind) (by grind) gY)
 have e3:C=Z:=Nat.dvd_antisymm (ac0 (x:=Z) (y:=X) (z:=Y) (by grind) (by grind) gC) (ac0 (x:=C) (y:=A) (z:=B) (by grind) (by grind) gZ)
 have s1:a=x∨a= -x:=by omega
 have s2:b=y∨b= -y:=by omega
 have s3:c=z∨c= -z:=by omega
 clear ha hb hc hx hy hz n1 n2 n3 g1 g2 gB gC gY gZ e1 e2 e3
 have z1:= @sJ x y
 have z2:= @sJ x z
 have z3:= @sJ y z
 rcases s1 with rfl|rfl<;>rcases s2 with rfl|rfl<;>rcases s3 with rfl|rfl<;>grind
theorem afc{l m:LnQ}(hl:l.ok)(hm:m.ok)(h: ∀t,l.value (m.at t)=0):l=m∨l=m.rev:=by
 have h0:=h 0
 have h1:=h 1
 rw[ace] at h0 h1
 have hC:m.cutC l=0:=by grind
 have hK:m.cutK l=0:=by grind
 obtain⟨q,q1,q2⟩:=amK hm.ne
 have hn:=afX hm.ne
 unfold LnQ.cutC at hC
 rw[q2,abl] at hC
 unfold LnQ.cutK at hK
 simp only[LnQ.nor,LnQ.dir,PtQ.dot] at hK q1 hn hC
 obtain⟨a,b,c⟩:=l
 obtain⟨x,y,z⟩:=m
 simp only at*
 have e1:a*y=b*x:=by
  have:((a*y:Int):Rat)=((b*x:Int):Rat):=by rw[cV,cV];grind
  exact nX.1 this
 have e2:a*z=c*x:=by
  have:((a*z:Int):Rat)=((c*x:Int):Rat):=by rw[cV,cV];grind
  exact nX.1 this
 have e3:b*z=c*y:=by
  have:((b*z:Int):Rat)=((c*y:Int):Rat):=by rw[cV,cV];grind
  exact nX.1 this
 rcases atM e1 e2 e3 hl.2 hm.2 with⟨rfl,rfl,rfl⟩|⟨rfl,rfl,rfl⟩
 ·exact .inl rfl
 ·exact .inr rfl
theorem LnQ.ok.rev{l:LnQ}(h:l.ok):l.rev.ok:=by
 obtain⟨h1,h2⟩:=h
 refine⟨?_,?_⟩
 ·simp only[LnQ.rev];omega
 ·simp only[LnQ.rev,iT];exact h2
theorem anM(l:LnQ): ∀c:aae,(∀s∈c,aey l s≤0∧s.l≠l)→ ¬0<aew l c
 |[],_=>by simp[aew]
 |s::c,h=>by
  have h':=dK.1 h
  unfold aew
  rw[if_neg h'.1.2]
  split
  ·have:=h'.1.1;omega
  ·exact anM l c h'.2
theorem akN{c:aae}{l:LnQ}(hc:aaJ c)(hl:l.ok)(hp:afq c l=none):
  (0<aew l c∧ ∀p,InD c p→0<l.value p)∨(¬0<aew l c∧ ∀p,InD c p→l.value p<0):=by
 have hoff:=fun p (h:InD c p)=>axZ hl.ne hp h
 by_cases hq: ∃q,InD c q∧0<l.value q
 ·left
  obtain⟨q,hq,lq⟩:=hq
  have hall: ∀p,InD c p→0<l.value p:=by
   intro p h
   have:=hoff p h
   by_cases h0:0<l.value p
   ·exact h0
   ·exfalso
    have hn:l.value p<0:=by grind
    have e1:l.value q/(l.value q-l.value p)*(l.value q-l.value p)=l.value q:=by grind
    generalize l.value q/(l.value q-l.value p)=e at*
    have f0:0≤e:=(aai (k:=l.value q-l.value p) (by grind)).1 (by grind)
    have f1:e≤1:=by
     have:=(aai (s:=1-e) (k:=l.value q-l.value p) (by grind)).1 (by grind)
     grind
    exact hoff _ (hq.seg h f0 f1) (by rw[acE];grind)
  refine⟨?_,hall⟩
  cases c with
  |nil=>simp[afq,agu] at hp
  |cons s c=>
   obtain⟨p1,p2⟩:=hc.edge s aZ
   have hi:=aba p1
   have hr:=aa0 hc.ne hall ((p2 _).1 hi.has)
   unfold aew
   by_cases h0:aey l s=0
   ·rw[if_neg (by simpa using h0)]
    have hz:l.value (s.l.at s.v.sample)=0:=(abV _).1 h0
    have hge: ∀t,s.v.has t→0≤l.value (s.l.at t):=fun t ht=>aa0 hc.ne hall ((p2 t).1 ht)
    obtain⟨⟨u1,m1,n1⟩,⟨u2,m2,n2⟩⟩:=alV hi
    have g1:=hge _ n1
    have g2:=hge _ n2
    rw[ace] at hz g1 g2
    have hK:s.l.cutK l=0:=by
     rcases acX (s.l.cutK l) with h|h|h
     ·exact h
     ·exfalso
      have:=aan (a:=s.v.sample-u1) (b:=s.l.cutK l) (by grind) h
      grind
     ·exfalso
      have:=aan (a:=u2-s.v.sample) (b:= -s.l.cutK l) (by grind) (by grind)
      grind
    have hz2: ∀t,l.value (s.l.at t)=0:=fun t=>by rw[ace,hK];rw[hK] at hz;grind
    rcases afc hl (hc.ok s aZ) hz2 with h|h
    ·rw[if_pos h.symm];decide
    ·exfalso
     have:=hall q hq
     rw[h,aaV] at this
     have:=hq s aZ
     grind
   ·rw[if_pos h0]
    have hz:l.value (s.l.at s.v.sample)≠0:=fun e=>h0 ((abV _).2 e)
    exact(acG _).2 (by grind)
 ·right
  have hall: ∀p,InD c p→l.value p<0:=fun p h=>by
   have:=hoff p h
   have: ¬0<l.value p:=fun h'=>hq ⟨p,h,h'⟩
   grind
  refine⟨anM l c fun s hs=>?_,hall⟩
  obtain⟨p1,p2⟩:=hc.edge s hs
  have hr:=aa0 (m:=l.rev) hc.ne (fun p h=>by rw[aaV];have:=hall p h;grind) ((p2 _).1 (aba p1).has)
  rw[aaV] at hr
  constructor
  ·have: ¬0<aey l s:=fun h=>by have:=(acG _).1 h;grind
   omega
  ·rintro rfl
   obtain⟨p,hp⟩:=hc.ne
   have:=hall p hp
   have:=hp s hs
   grind
theorem ad6{c:aae}{l:LnQ}(hc:aaJ c)(hl:l.ok):aa9 c l=true↔ ∃p,InD c p∧0<l.value p:=by
 unfold aa9
 cases hp:afq c l with
 |some v=>exact⟨fun _=>(ahy hl.ne hp).1,fun _=>rfl⟩
 |none=>
  simp only[ajz,hp,Option.isSome_none,jV,if_false,decide_eq_true_iff]
  rcases akN hc hl hp with⟨h1,h2⟩|⟨h1,h2⟩
  ·refine⟨fun _=>?_,fun _=>h1⟩
   obtain⟨p,hp⟩:=hc.ne
   exact⟨p,hp,h2 p hp⟩
  ·refine⟨fun h=>absurd h h1,?_⟩
   rintro ⟨p,hp,h⟩
   have:=h2 p hp
   grind
theorem aaU{c:aae}{l:LnQ}(hc:aaJ c)(hl:l.ok)(hb:aa9 c l=true):aaJ (aaL c l)∧ ∀p,InD (aaL c l) p↔InD c p∧0<l.value p:=by
 unfold aaL
 cases hp:afq c l with
 |some v=>exact avC hc hl hp
 |none=>
  refine⟨hc,fun p=>?_⟩
  unfold aa9 at hb
  simp only[hp,ajz,Option.isSome_none,jV,if_false,decide_eq_true_iff] at hb
  rcases akN hc hl hp with⟨h1,h2⟩|⟨h1,h2⟩
  ·exact⟨fun h=>⟨h,h2 p h⟩,fun h=>h.1⟩
  ·exact absurd hb h1
theorem apk{c:aae}{l:LnQ}(hl:l.ok){p:PtQ}(hp:InD c p)(h0:l.value p=0):(∃q,InD c q∧0<l.value q)∧ ∃q,InD c q∧l.value q<0:=by
 have hn:=afX hl.ne
 constructor
 ·obtain⟨e,he,hm⟩:=hp.open l.nor
  refine⟨_,hm e (cN he) fU,?_⟩
  rw[abK,h0]
  have:=aan he hn
  grind
 ·obtain⟨e,he,hm⟩:=hp.open ⟨-l.nor.x, -l.nor.y⟩
  refine⟨_,hm e (cN he) fU,?_⟩
  rw[abK,h0]
  have:=aan he hn
  simp only[PtQ.dot] at this⊢
  grind
inductive aIB (c:aae) (l:LnQ):Prop
 |left (h1:aa9 c l.rev=false) (h: ∀p,InD c p→0<l.value p)
 |right (h1:aa9 c l.rev=true) (h2:aa9 c l=false) (h: ∀p,InD c p→l.value p<0)
 |both (h1:aa9 c l.rev=true) (h2:aa9 c l=true) (g1:aaJ (aaL c l)) (g2:aaJ (aaL c l.rev))
   (e1: ∀p,InD (aaL c l) p↔InD c p∧0<l.value p) (e2: ∀p,InD (aaL c l.rev) p↔InD c p∧l.value p<0)
theorem lies{c:aae}{l:LnQ}(hc:aaJ c)(hl:l.ok):aIB c l:=by
 have hr:=ad6 hc hl.rev
 have hi:=ad6 hc hl
 cases h1:aa9 c l.rev with
 |false=>
  refine .left h1 fun p hp=>?_
  have hn: ¬ ∃q,InD c q∧l.value q<0:=by
   rintro ⟨q,a,b⟩
   have:=hr.2 ⟨q,a,by rw[aaV];grind⟩
   rw[h1] at this;exact absurd this (by decide)
  have n1: ¬l.value p<0:=fun h=>hn ⟨p,hp,h⟩
  have n2:l.value p≠0:=fun h=>hn (apk hl hp h).2
  grind
 |true=>
  cases h2:aa9 c l with
  |false=>
   refine .right h1 h2 fun p hp=>?_
   have hn: ¬ ∃q,InD c q∧0<l.value q:=by
    intro h
    have:=hi.2 h
    rw[h2] at this;exact absurd this (by decide)
   have n1: ¬0<l.value p:=fun h=>hn ⟨p,hp,h⟩
   have n2:l.value p≠0:=fun h=>hn (apk hl hp h).1
   grind
  |true=>
   obtain⟨g1,e1⟩:=aaU hc hl h2
   obtain⟨g2,e2⟩:=aaU hc hl.rev h1
   refine .both h1 h2 g1 g2 e1 fun p=>?_
   rw[e2,aaV]
   constructor<;>rintro ⟨a,b⟩<;>exact⟨a,by grind⟩
theorem Tr.restrict_A{l:LnQ}{e:aae}(X Y:Tr)(h:aa9 e l.rev=false):(Tr.node l X Y).restrict e=X.restrict e:=by
 rw[Tr.restrict,h];rfl
theorem Tr.restrict_B{l:LnQ}{e:aae}(X Y:Tr)(h:aa9 e l.rev=true)(h2:aa9 e l=false):(Tr.node l X Y).restrict e=Y.restrict e:=by
 rw[Tr.restrict,h,h2];rfl
theorem Tr.restrict_C{l:LnQ}{e:aae}(X Y:Tr)(h:aa9 e l.rev=true)(h2:aa9 e l=true):(Tr.node l X Y).restrict e=Tr.joinQ l (X.restrict (aaL e l)) (Y.restrict (aaL e l.rev)):=by
 rw[Tr.restrict,h,h2];rfl
def abR:List LnQ→aae→Option aae
 |[],c=>some c
 |l::t,c=>if aa9 c l then abR t (aaL c l) else none
theorem ahP: ∀{ls:List LnQ} {c e:aae},aaJ c→(∀l∈ls,l.ok)→abR ls c=some e→aaJ e∧ ∀p,InD e p↔InD c p∧ ∀l∈ls,0<l.value p
 |[],c,e,hc,_,h=>by
  obtain rfl:c=e:=by simpa[abR] using h
  exact⟨hc,fun p=>⟨fun h=>⟨h,fun l hl=>absurd hl (by simp)⟩,fun h=>h.1⟩⟩
 |l::t,c,e,hc,hl,h=>by
  have hl':=dK.1 hl
  rw[abR] at h
  split at h
  ·rename_i hb
   obtain⟨g1,g2⟩:=aaU hc hl'.1 hb
   obtain⟨k1,k2⟩:=ahP g1 hl'.2 h
   refine⟨k1,fun p=>?_⟩
   rw[k2,g2,dK,and_assoc]
  ·exact absurd h (by simp)
theorem ahG: ∀{ls:List LnQ} {c:aae},aaJ c→(∀l∈ls,l.ok)→(∃p,InD c p∧ ∀l∈ls,0<l.value p)→ ∃e,abR ls c=some e
 |[],c,_,_,_=>⟨c,rfl⟩
 |l::t,c,hc,hl,⟨p,h1,h2⟩=>by
  have hl':=dK.1 hl
  have h2':=dK.1 h2
  have hb:=(ad6 hc hl'.1).2 ⟨p,h1,h2'.1⟩
  obtain⟨g1,g2⟩:=aaU hc hl'.1 hb
  rw[abR,if_pos hb]
  exact ahG g1 hl'.2 ⟨p,(g2 p).2 ⟨h1,h2'.1⟩,h2'.2⟩
theorem am3{c:aae}(hc:aaJ c){s:FrQ}(hs:s∈c){m:LnQ}(hm:m.ok)(h: ∀p,InD c p→0<m.value p)(hz:m.value (s.l.at s.v.sample)=0):m=s.l:=by
 obtain⟨p1,p2⟩:=hc.edge s hs
 have hi:=aba p1
 have hge: ∀t,s.v.has t→0≤m.value (s.l.at t):=fun t ht=>aa0 hc.ne h ((p2 t).1 ht)
 obtain⟨⟨u1,m1,n1⟩,⟨u2,m2,n2⟩⟩:=alV hi
 have g1:=hge _ n1
 have g2:=hge _ n2
 rw[ace] at hz g1 g2
 have hK:s.l.cutK m=0:=by
  rcases acX (s.l.cutK m) with h|h|h
  ·exact h
  ·exfalso
   have:=aan (a:=s.v.sample-u1) (b:=s.l.cutK m) (by grind) h
   grind
  ·exfalso
   have:=aan (a:=u2-s.v.sample) (b:= -s.l.cutK m) (by grind) (by grind)
   grind
 have hz2: ∀t,m.value (s.l.at t)=0:=fun t=>by rw[ace,hK];rw[hK] at hz;grind
 rcases afc hm (hc.ok s hs) hz2 with h'|h'
 ·exact h'
 ·exfalso
  obtain⟨q,hq⟩:=hc.ne
  have:=h q hq
  rw[h',aaV] at this
  have:=hq s hs
  grind
def ab9(l:LnQ):List LnQ→IvQ→Option IvQ
 |[],v=>some v
 |m::t,v=>if m=l then ab9 l t v else if l.cutB v m then ab9 l t (l.cutV v m) else none
def InL(c:List LnQ)(p:PtQ):Prop:= ∀m∈c,0<m.value p
theorem aek(l:LnQ): ∀(c:List LnQ) (v w:IvQ),v.Pos→ab9 l c v=some w→
  w.Pos∧(∀t,w.ins t↔v.ins t∧ ∀m∈c,m≠l→0<m.value (l.at t))
 |[],v,w,hv,h=>by
  obtain rfl:v=w:=by simpa[ab9] using h
  exact⟨hv,fun t=>⟨fun h=>⟨h,fun s hs=>absurd hs (by simp)⟩,fun h=>h.1⟩⟩
 |m::c,v,w,hv,h=>by
  rw[ab9] at h
  split at h
  ·rename_i hm
   obtain⟨h1,h2⟩:=aek l c _ w hv h
   refine⟨h1,fun t=>?_⟩
   rw[h2,dK]
   exact⟨fun h=>⟨h.1,fun h'=>absurd hm h',h.2⟩,fun h=>⟨h.1,h.2.2⟩⟩
  ·rename_i hm
   split at h
   ·rename_i hb
    obtain⟨h1,h2⟩:=aek l c _ w (aje hv hb) h
    refine⟨h1,fun t=>?_⟩
    rw[h2,auk hb,dK,and_assoc]
    exact⟨fun h=>⟨h.1,fun _=>h.2.1,h.2.2⟩,fun h=>⟨h.1,h.2.1 hm,h.2.2⟩⟩
   ·exact absurd h (by simp)
theorem ahw(l:LnQ): ∀(c:List LnQ) (v:IvQ),v.Pos→ab9 l c v=none→ ∀t,v.has t→ ¬ ∀m∈c,m≠l→0<m.value (l.at t)
 |[],v,hv,h=>by simp[ab9] at h
 |m::c,v,hv,h=>by
  intro t ht hd
  have hd':=dK.1 hd
  rw[ab9] at h
  split at h
  ·exact ahw l c _ hv h t ht hd'.2
  ·rename_i hm
   split at h
   ·rename_i hb
    exact ahw l c _ (aje hv hb) h t ((alM hb t).2 ⟨ht,cN (hd'.1 hm)⟩) hd'.2
   ·rename_i hb
    have:=asC hv (by simpa using hb) ht
    have:=hd'.1 hm
    grind
def abY(c:List LnQ):Bool:=c.isEmpty||c.any (fun l=>(ab9 l c IvQ.all).isSome)
theorem akQ: ∀{ls:List LnQ} {c e:aae},abR ls c=some e→ ∀s∈e,s.l∈ls∨ ∃s'∈c,s'.l=s.l
 |[],c,e,h,s,hs=>by
  obtain rfl:c=e:=by simpa[abR] using h
  exact .inr ⟨s,hs,rfl⟩
 |l::t,c,e,h,s,hs=>by
  rw[abR] at h
  split at h
  ·rcases akQ h s hs with h1|⟨s',h1,h2⟩
   ·exact .inl (aJ _ h1)
   ·unfold aaL at h1
    split at h1
    ·rcases acH.1 h1 with rfl|h1
     ·exact .inl (by rw[←h2];exact aZ)
     ·obtain⟨s1,m1,_,rfl⟩:=aco.1 h1
      exact .inr ⟨s1,m1,h2⟩
    ·exact .inr ⟨s',h1,h2⟩
  ·exact absurd h (by simp)
theorem aeE{c:List LnQ}(hok: ∀l∈c,l.ok)(hne: ∃p,InL c p): ∃e,abR c []=some e∧aaJ e∧(∀p,InD e p↔InL c p)∧ ∀s∈e,s.l∈c∧(ab9 s.l c IvQ.all).isSome=true:=by
 obtain⟨p,hp⟩:=hne
 obtain⟨e,he⟩:=ahG aaJ.nil hok ⟨p,fun s hs=>absurd hs (by simp),hp⟩
 obtain⟨g1,g2⟩:=ahP aaJ.nil hok he
 have g3: ∀p,InD e p↔InL c p:=fun p=>by
  rw[g2]
  exact⟨fun h=>h.2,fun h=>⟨fun s hs=>absurd hs (by simp),h⟩⟩
 refine⟨e,he,g1,g3,fun s hs=>?_⟩
 have hm:s.l∈c:=by
  rcases akQ he s hs with h|⟨_,h,_⟩
  ·exact h
  ·exact absurd h (by simp)
 refine⟨hm,?_⟩
 cases hp:ab9 s.l c IvQ.all with
 |some w=>rfl
 |none=>
  exfalso
  obtain⟨p1,p2⟩:=g1.edge s hs
  have hC:=(p2 s.v.sample).1 (aba p1).has
  refine ahw s.l c _ agc hp s.v.sample (aov _) fun m hmc hne=>?_
  have hall: ∀p,InD e p→0<m.value p:=fun p hp=>(g3 p).1 hp m hmc
  have h0:=aa0 g1.ne hall hC
  have h1:m.value (s.l.at s.v.sample)≠0:=fun hz=>hne (am3 g1 hs (hok m hmc) hall hz)
  grind
theorem aeu{c:List LnQ}(hok: ∀l∈c,l.ok):abY c=true↔ ∃p,InL c p:=by
 unfold abY
 rw[gN,List.isEmpty_iff,jW]
 constructor
 ·rintro (rfl|⟨l,hl,h⟩)
  ·exact⟨⟨0,0⟩,fun m hm=>absurd hm (by simp)⟩
  ·obtain⟨w,hw⟩:=qQ.1 h
   obtain⟨w1,w2⟩:=aek l c _ w agc hw
   have hi:=((w2 w.sample).1 (aba w1)).2
   have h0:=acf (hok l hl).ne w.sample
   have hd:InD ((c.filter (fun m=>decide (m≠l))).map (fun m=>(⟨m,IvQ.all⟩:FrQ))) (l.at w.sample):=by
    intro s hs
    obtain⟨m,hm,rfl⟩:=bJ.1 hs
    rw[qV,decide_eq_true_iff] at hm
    exact hi m hm.1 hm.2
   obtain⟨e,he,ho⟩:=hd.open l.nor
   refine⟨adk (l.at w.sample) l.nor e,fun m hm=>?_⟩
   by_cases hml:m=l
   ·subst hml
    rw[abK,h0]
    have:=aan he (afX (hok m hl).ne)
    grind
   ·exact ho e (cN he) fU ⟨m,IvQ.all⟩ (bJ.2 ⟨m,qV.2 ⟨hm,by simpa using hml⟩,rfl⟩)
 ·intro hne
  obtain⟨e,h1,h2,h3,h4⟩:=aeE hok hne
  cases c with
  |nil=>exact .inl rfl
  |cons l c=>
   right
   cases e with
   |nil=>
    exfalso
    have:=(h3 (l.at 0)).1 (fun s hs=>absurd hs (by simp)) l aZ
    rw[acf (hok l aZ).ne] at this
    exact absurd this (by decide)
   |cons s e=>
    obtain⟨a,b⟩:=h4 s aZ
    exact⟨s.l,a,b⟩
def ad9(out:List LnQ)(l:LnQ):Nat:=(out.takeWhile (fun x=>decide (aa6 x.dir l.dir<0))).length
def acr(out:List LnQ)(l:LnQ):List LnQ:=if out[ad9 out l]? =some l then out else out.take (ad9 out l)++l::out.drop (ad9 out l)
def ad1(c:List LnQ):List LnQ→List LnQ→List LnQ
 |[],out=>out
 |l::t,out=>ad1 c t (if(ab9 l c IvQ.all).isSome then acr out l else out)
def aa3(c:List LnQ):List LnQ:=ad1 c c []
theorem afw{out:List LnQ}{l m:LnQ}:m∈acr out l↔m=l∨m∈out:=by
 unfold acr
 split
 ·rename_i h
  exact⟨fun h=> .inr h,fun h'=>h'.elim (fun e=>e▸aU h) id⟩
 ·generalize ad9 out l=n
  have h:=iM n out
  rw[bY,aT]
  constructor
  ·rintro (h1|h1|h1)
   ·exact .inr (fZ h1)
   ·exact .inl h1
   ·exact .inr (gJ h1)
  ·rintro (h1|h1)
   ·exact .inr (.inl h1)
   ·rw[←h,bY] at h1
    rcases h1 with h1|h1
    ·exact .inl h1
    ·exact .inr (.inr h1)
theorem ak4{c:List LnQ}{m:LnQ}: ∀{t out:List LnQ},m∈ad1 c t out↔m∈out∨m∈t∧(ab9 m c IvQ.all).isSome=true
 |[],out=>by simp[ad1]
 |l::t,out=>by
  rw[ad1,ak4]
  split
  ·rename_i h
   rw[afw,aT]
   constructor
   ·rintro ((rfl|h1)|⟨h1,h2⟩)
    ·exact .inr ⟨.inl rfl,h⟩
    ·exact .inl h1
    ·exact .inr ⟨.inr h1,h2⟩
   ·rintro (h1|⟨rfl|h1,h2⟩)
    ·exact .inl (.inr h1)
    ·exact .inl (.inl rfl)
    ·exact .inr ⟨h1,h2⟩
  ·rename_i h
   rw[aT]
   constructor
   ·rintro (h1|⟨h1,h2⟩)
    ·exact .inl h1
    ·exact .inr ⟨.inr h1,h2⟩
   ·rintro (h1|⟨rfl|h1,h2⟩)
    ·exact .inl h1
    ·exact absurd h2 h
    ·exact .inr ⟨h1,h2⟩
theorem abb{c:List LnQ}{m:LnQ}:m∈aa3 c↔m∈c∧(ab9 m c IvQ.all).isSome=true:=by
 unfold aa3;rw[ak4];simp
theorem afj{c:List LnQ}(hok: ∀l∈c,l.ok)(hne: ∃p,InL c p)(p:PtQ):InL (aa3 c) p↔InL c p:=by
 constructor
 ·intro h
  obtain⟨e,h1,h2,h3,h4⟩:=aeE hok hne
  exact(h3 p).1 fun s hs=>h s.l (abb.2 (h4 s hs))
 ·intro h m hm;exact h m (abb.1 hm).1
def aea(c:List LnQ)(l:LnQ):Int:=if abY (c++[l])&&abY (c++[l.rev]) then 0 else if abY (c++[l]) then 1 else-1
def Tr.restrictL:Tr→List LnQ→Tr
 | .leaf b,_=> .leaf b
 | .node l x y,c=>if aea c l=1 then x.restrictL c else if aea c l= -1 then y.restrictL c else joinQ l (x.restrictL (aa3 (c++[l]))) (y.restrictL (aa3 (c++[l.rev])))
theorem abD{c:List LnQ}{l:LnQ}{p:PtQ}:InL (c++[l]) p↔InL c p∧0<l.value p:=by
 unfold InL
 rw[qN]
 simp
theorem abS{c:List LnQ}{l:LnQ}(hok: ∀m∈c,m.ok)(hl:l.ok): ∀m∈c++[l],m.ok:=by
 rw[qN]
 exact⟨hok,by simpa using hl⟩
theorem Tr.restrictL_eq: ∀(t:Tr) (c:List LnQ) (d:aae),t.all LnQ.ok→(∀l∈c,l.ok)→aaJ d→(∀p,InD d p↔InL c p)→t.restrictL c=t.restrict d
 | .leaf b,c,d,_,_,_,_=>rfl
 | .node l x y,c,d,h,hc,hd,he=>by
  obtain⟨hl,hx,hy⟩:=h
  have i1:=aeu (abS hc hl)
  have i2:=aeu (abS hc hl.rev)
  obtain⟨p0,hp0⟩:=hd.ne
  rcases lies hd hl with⟨a1,a⟩|⟨a1,a2,a⟩|⟨a1,a2,ag1,ag2,ae1,ae2⟩
  ·have b1:abY (c++[l])=true:=i1.2 ⟨p0,abD.2 ⟨(he p0).1 hp0,a p0 hp0⟩⟩
   have b2:abY (c++[l.rev])=false:=by
    rw[←mY,i2]
    rintro ⟨p,hp⟩
    have hp:=abD.1 hp
    have:=a p ((he p).2 hp.1)
    rw[aaV] at hp
    grind
   rw[Tr.restrict_A _ _ a1,Tr.restrictL,aea,b1,b2]
   exact x.restrictL_eq c d hx hc hd he
  ·have b2:abY (c++[l.rev])=true:=i2.2 ⟨p0,abD.2 ⟨(he p0).1 hp0,by rw[aaV];have:=a p0 hp0;grind⟩⟩
   have b1:abY (c++[l])=false:=by
    rw[←mY,i1]
    rintro ⟨p,hp⟩
    have hp:=abD.1 hp
    have:=a p ((he p).2 hp.1)
    grind
   rw[Tr.restrict_B _ _ a1 a2,Tr.restrictL,aea,b1,b2]
   exact y.restrictL_eq c d hy hc hd he
  ·have n1: ∃p,InL (c++[l]) p:=by
    obtain⟨p,hp⟩:=ag1.ne
    exact⟨p,abD.2 ⟨(he p).1 ((ae1 p).1 hp).1,((ae1 p).1 hp).2⟩⟩
   have n2: ∃p,InL (c++[l.rev]) p:=by
    obtain⟨p,hp⟩:=ag2.ne
    exact⟨p,abD.2 ⟨(he p).1 ((ae2 p).1 hp).1,by rw[aaV];have:=((ae2 p).1 hp).2;grind⟩⟩
   rw[Tr.restrict_C _ _ a1 a2,Tr.restrictL,aea,i1.2 n1,i2.2 n2]
   have k1:=x.restrictL_eq (aa3 (c++[l])) (aaL d l) hx (fun m hm=>abS hc hl m (abb.1 hm).1) ag1 fun p=>by
    rw[afj (abS hc hl) n1,ae1,abD,he]
   have k2:=y.restrictL_eq (aa3 (c++[l.rev])) (aaL d l.rev) hy (fun m hm=>abS hc hl.rev m (abb.1 hm).1) ag2 fun p=>by
    rw[afj (abS hc hl.rev) n2,ae2,abD,he,aaV]
    constructor<;>rintro ⟨a,b⟩<;>exact⟨a,by grind⟩
   rw[k1,k2]
   rfl
end Go.Sx
end
section
namespace Go.Sx
open Go Go.Proofs
structure IvV where
 lo:RV
 hi:RV
 nl:Bool
 nh:Bool
def IvV.v(z:IvV):Value:= .agg ⟨[.int .i64 z.lo.n, .int .i64 z.lo.d, .pointer z.lo.p, .int .i64 z.hi.n, .int .i64 z.hi.d, .pointer z.hi.p, .bool z.nl, .bool z.nh]⟩
section
variable {P:Program} {C:Ctx} {n:Nat} {fr:Fr} {own own' own1:List Own} {G:Gh} {Φ:Act→World→Prop}
variable {dst:Option Nat} {t t' ty':TypeId} {pos:String} {af:Array Edge} {gd:Option (Nat×Bool)} {x y:Operand} {e s by_:Nat}
end
structure aIh (k:Nat) (G:Gh) (z:IvV) (v:IvQ):Prop where
 lo:IsR k G z.lo v.lo
 hi:IsR k G z.hi v.hi
 nl:z.nl=v.nl
 nh:z.nh=v.nh
def orQ:List Int→Int
 |[]=>0
 |x::t=>if x≠0 then x else orQ t
def aIZ(l m:LnQ):Int:=orQ [abd l.a m.a,abd l.b m.b,abd l.c m.c]
structure FrV where
 l:LV
 v:IvV
def FrV.val(z:FrV):Value:= .agg ⟨[.int .i64 z.l.a.n, .int .i64 z.l.a.d, .pointer z.l.a.p, .int .i64 z.l.b.n, .int .i64 z.l.b.d, .pointer z.l.b.p, .int .i64 z.l.c.n, .int .i64 z.l.c.d, .pointer z.l.c.p, .int .i64 z.v.lo.n, .int .i64 z.v.lo.d, .pointer z.v.lo.p, .int .i64 z.v.hi.n, .int .i64 z.v.hi.d, .pointer z.v.hi.p, .bool z.v.nl, .bool z.v.nh]⟩
structure aIo (k:Nat) (G:Gh) (z:FrV) (f:FrQ):Prop where
 l:IsL k G z.l f.l
 v:aIh (25*k+6) G z.v f.v
inductive axm {α β:Type} (R:α→β→Prop):List α→List β→Prop
 |nil:axm R [] []
 |cons {a b us bs} (h:R a b) (t:axm R us bs):axm R (a::us) (b::bs)
structure IsC (k:Nat) (G:Gh) (x:SV) (c:aae):Prop where
 ex: ∃fs:List FrV,afe G 17 x (fs.map FrV.val)∧axm (aIo k G) fs c

section
variable {P:Program} {C:Ctx} {n:Nat} {fr:Fr} {own own':List Own} {G:Gh} {Φ:Act→World→Prop}
variable {dst:Option Nat} {t t' ty':TypeId} {pos:String} {af:Array Edge} {gd:Option (Nat×Bool)} {x y:Operand} {e s by_:Nat}
theorem av0{o1 o2:Own}{rest:List Own}(h:o1.b≠o2.b→St C n fr (o1::o2::rest) G Φ):St C n fr (o1::o2::rest) G Φ:=
 fun a w rl=>h ((cK.1 rl.h.nd).1 _ aZ) a w rl
theorem aeb[hT:acV P t e s by_]{k:IntKind}{b off len cap:Nat}{l:Int}(hx:opv fr x=some (.slice (some ⟨b,off,none⟩) len cap))(hy:opv fr y=some (.int k l))(h0:0≤l)(h1:l≤len)(h2:l<cap):
  Yd P C fr own G ⟨dst, .slice t x (some y) none none,ty',pos,af,gd⟩ (.slice (some ⟨b,off+l.toNat*s,none⟩) (len-l.toNat) (cap-l.toNat)):=by
 have h:=age (P:=P) (C:=C) (own:=own) (G:=G) (t:=t) (dst:=dst) (ty':=ty') (pos:=pos) (af:=af) (gd:=gd) (by_:=by_) hx hy h0 h1
 unfold ap4 at h
 rw[if_neg (by omega)] at h
 simpa[acD] using h
end

section
variable {P:Program} {C:Ctx} {n:Nat} {fr:Fr} {own own':List Own} {G:Gh} {Φ:Act→World→Prop}
variable {dst:Option Nat} {t t' ty':TypeId} {pos:String} {af:Array Edge} {gd:Option (Nat×Bool)} {x y:Operand} {e s by_:Nat}
end

def IsT(k:Nat)(G:Gh):Tr→Option Addr→Prop
 | .leaf b,p=> ∃n,p=some ⟨n,0,none⟩∧G n=some [.int .i64 0, .int .i64 0, .pointer none, .int .i64 0, .int .i64 0, .pointer none, .int .i64 0, .int .i64 0, .pointer none, .pointer none, .pointer none, .bool b]
 | .node l x y,p=> ∃(n:Nat) (z:LV) (q r:Option Addr),p=some ⟨n,0,none⟩∧G n=some [.int .i64 z.a.n, .int .i64 z.a.d, .pointer z.a.p, .int .i64 z.b.n, .int .i64 z.b.d, .pointer z.b.p, .int .i64 z.c.n, .int .i64 z.c.d, .pointer z.c.p, .pointer q, .pointer r, .bool false]∧IsL k G z l∧IsT k G x q∧IsT k G y r
structure ND where
 a:IV
 b:IV
 c:IV
 l:Int
 r:Int
def ND.val(z:ND):Value:= .agg ⟨[.bool z.a.neg, .slice z.a.a.a z.a.a.n z.a.a.c, .bool z.b.neg, .slice z.b.a.a z.b.a.n z.b.a.c, .bool z.c.neg, .slice z.c.a.a z.c.a.n z.c.a.c, .int .i64 z.l, .int .i64 z.r]⟩
structure aIv (k:Nat) (G:Gh) (z:ND) (n:NQ):Prop where
 a:IsI k G z.a n.l.a
 b:IsI k G z.b n.l.b
 c:IsI k G z.c n.l.c
 l:z.l=n.a
 r:z.r=n.b
structure aI5 (k:Nat) (G:Gh) (x:SV) (ns:List NQ):Prop where
 ex: ∃zs:List ND,afe G 8 x (zs.map ND.val)∧axm (aIv k G) zs ns
def aIw(n i:Nat):List Value:=(List.range n).map fun j=> .bool (decide (j<i))

def aHd(ob wb:Nat):Value:= .func (.func 129) #[] #[.pointer (some ⟨ob,0,none⟩), .pointer (some ⟨wb,0,none⟩)]
structure PtV where
 x:SV
 p:Option Addr
def PtV.val(z:PtV):Value:= .agg ⟨[.slice z.x.a z.x.n z.x.c, .pointer z.p]⟩
structure aIk (k:Nat) (G:Gh) (z:PtV) (b:Bool×aae):Prop where
 c:IsC k G z.x b.2
 t:IsT k G (.leaf b.1) z.p
structure aIY (k:Nat) (G:Gh) (w:SV) (ps:List (Bool×aae)):Prop where
 ex: ∃zs:List PtV,afe G 2 w (zs.map PtV.val)∧axm (aIk k G) zs ps
structure LI where
 a:IV
 b:IV
 c:IV
def LI.val(z:LI):Value:= .agg ⟨[.bool z.a.neg, .slice z.a.a.a z.a.a.n z.a.a.c, .bool z.b.neg, .slice z.b.a.a z.b.a.n z.b.a.c, .bool z.c.neg, .slice z.c.a.a z.c.a.n z.c.a.c]⟩
structure aIG (k:Nat) (G:Gh) (z:LI) (l:LnQ):Prop where
 a:IsI k G z.a l.a
 b:IsI k G z.b l.b
 c:IsI k G z.c l.c
structure aHV (k:Nat) (G:Gh) (x:SV) (ls:List LnQ):Prop where
 ex: ∃zs:List LI,afe G 6 x (zs.map LI.val)∧axm (aIG k G) zs ls
structure aIC (k:Nat) (G:Gh) (x:SV) (ls:List LnQ):Prop where
 ex: ∃zs:List LV,afe G 9 x (zs.map LV.v)∧axm (IsL k G) zs ls
theorem apj{a b:Int}(h:a=b):eI a=eI b:=by rw[h]
theorem aqE(z:Int):eQ (z:Rat)= .ag [.v (.bool (decide (z<0))),dN z.natAbs, .sl []]:=by unfold eQ;rw[qJ,qK];rfl
theorem afE{a:Rat}(h:a.den=1):((a.num:Int):Rat)=a:=Rat.ext (qJ _) (by rw[qK,h])
theorem awB{a b:Rat}(ha:a.den=1)(hb:b.den=1):a+b=((a.num+b.num:Int):Rat):=by
 rw[oR,afE ha,afE hb]
theorem at6{a b:Rat}(ha:a.den=1)(hb:b.den=1):a*b=((a.num*b.num:Int):Rat):=by
 rw[cV,afE ha,afE hb]
theorem akK(n:Nat)(h:0<n):(if n=1 then [] else(dg n).map dU).length=0↔n=1:=by
 by_cases q:n=1
 ·simp[q]
 ·rw[if_neg q,aK,act];omega
theorem aCV{n:Nat}(h:n≠1):dD n=dN n:=by unfold dD;rw[if_neg h];rfl
theorem al0{g:Nat}:(ahi g 1=0)↔g=1:=by
 unfold ahi
 constructor
 ·intro h;split at h
  ·exact absurd h (by decide)
  ·split at h
   ·assumption
   ·exact absurd h (by decide)
 ·rintro rfl;rfl
theorem azF{x:Int}{d:Nat}(hd:0<d):zv (decide (x<0)) (x.natAbs/Nat.gcd x.natAbs d)=(mkRat x d).num:=by
 rw[Rat.num_mkRat,if_neg (by omega),iN]
 have hg:0<Nat.gcd d x.natAbs:=oX _ hd
 obtain⟨c,hc⟩:Nat.gcd d x.natAbs∣x.natAbs:=nV _ _
 generalize Nat.gcd d x.natAbs=g at*
 rw[hc,Nat.mul_div_cancel_left _ hg]
 unfold zv
 by_cases q:x<0
 ·rw[if_pos (by simpa using q),show x=(g:Int)*(-(c:Int)) by rw[sQ,←jQ];omega,Int.mul_ediv_cancel_left _ (by omega)]
 ·rw[if_neg (by simpa using q),show x=(g:Int)*(c:Int) by rw[←jQ];omega,Int.mul_ediv_cancel_left _ (by omega)]
theorem azl{x:Int}{d:Nat}(hd:0<d):d/Nat.gcd x.natAbs d=(mkRat x d).den:=by
 rw[Rat.den_mkRat,if_neg (by omega),iN]
theorem aEk{x:Int}{d:Nat}(hd:0<d)(h:Nat.gcd x.natAbs d=1):(mkRat x d).num=x∧(mkRat x d).den=d:=by
 rw[←azF hd,←azl hd,h,sL,sL]
 exact⟨adF x,rfl⟩
end Go.Sx
end
