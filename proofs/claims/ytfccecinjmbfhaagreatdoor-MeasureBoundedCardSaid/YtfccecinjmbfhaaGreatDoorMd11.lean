import Derived.Test.YtfccecinjmbfhaaGreatDoorMd10
set_option linter.unusedSimpArgs false
set_option maxHeartbeats 4000000
set_option maxRecDepth 100000
set_option linter.unusedVariables false
section
namespace Go.Sx
open Go Go.Proofs Tryz
variable {GB:Gh}
theorem aBF{h l y:Nat}(hh:h<y)(hl:l<4294967296)(hy:y<4294967296):PF GB prog 199 [.v (.int .u32 (h:Int)), .v (.int .u32 (l:Int)), .v (.int .u32 (y:Int))] (.tp [dU ((h*4294967296+l)/y),dU ((h*4294967296+l)%y)]):=by
 refine fn (fu:=⟨11⟩) func199 J J ntmps199 J J (fun C=>?_)
 refine kT 10 rfl (by omega) ?_
 refine gx (fu:=⟨4⟩) rfl<|?_
 refine kF 14 rfl (by omega) ?_
 refine gx (fu:=⟨11⟩) (hv:=by simp only[aah];exact⟨by omega,(by decide)⟩) rfl<|?_
 refine eqF 19 (.d (.v (.int .u64 (h*2^32:Nat)))) rfl (by show FX.d (.v (.int _ _))= .d (.v (.int _ _));rw[aek _ 32 (by decide) (by show _*4294967296<_;omega) rfl]) ?_
 refine gx (fu:=⟨3⟩) rfl<|?_
 refine eqF 22 (.d (.v (.int .u64 (l+h*2^32:Nat)))) rfl (congrArg (fun z:Nat=>FX.d (.v (.int .u64 (z:Int)))) (by rw[BitVec.or_comm];exact arM 64 l h 32 hl (by show _+_*4294967296<18446744073709551616;omega))) ?_
 obtain⟨t,ht⟩: ∃t,t=h*4294967296+l:=⟨_,rfl⟩
 have hq:t/y<4294967296:=by rw[kK (by omega)];have:=eX 4294967296 (show h+1≤y from hh);omega
 have hr:t%y<y:=dJ _ (by omega)
 refine eqF 22 (.d (.v (.int .u64 (t:Nat)))) rfl (by show FX.d (.v (.int _ _))= .d (.v (.int _ _));congr 3;rw[ht];omega) ?_
 refine gx (hv:=by simp only[aah];exact⟨⟨⟨⟨by omega,⟨(by omega),(by omega),(by omega)⟩⟩,by omega⟩,⟨(by omega),(by omega)⟩⟩,by kernel_rfl⟩) rfl<|?_
 exact rz rfl (by show DV.tp [.v (.int _ _), .v (.int _ _)]= .tp [.v (.int _ _), .v (.int _ _)];rw[←ht,←pR,←oQ];generalize t/y=q at*;generalize t%y=r at*;congr 4<;>(first|omega|(congr 3;omega)))
theorem aAE{A r i b:Nat}(d:Nat)(hb:0<b):(A*4294967296+d)/b=A/b*4294967296+(A%b*4294967296+d)/b∧(A*4294967296+d)%b=(A%b*4294967296+d)%b:=by
 have h:=qV A b
 have e:A*4294967296+d=(A%b*4294967296+d)+b*(A/b*4294967296):=by
  rw[←bM,Nat.add_right_comm,←cS,jK (A%b),h]
 rw[e,lR _ _ hb,mL]
 exact⟨jK _ _,rfl⟩
theorem ap4{ds:List Nat}{i:Nat}(h:i<ds.length):dv (ds.drop i)=dv (ds.drop (i+1))*4294967296+ds.getD i 0:=by
 rw[bJ h,aX,aQ h]
 simp only[dv,lJ];omega
theorem aie{W:List Nat}{i q:Nat}(h:i<W.length):dv ((W.set i q).drop i)=dv (W.drop (i+1))*4294967296+q:=by
 rw[ap4 (by rw[aN];exact h),sV (by omega),ai2 h]
theorem auE{a b k:Nat}{W:List Nat}(hb:0<b)(hk:k<(dg a).length)(hl:W.length=(dg a).length)(h:dv (W.drop (k+1))=dv ((dg a).drop (k+1))/b):
  dv ((W.set k ((dv ((dg a).drop (k+1))%b*4294967296+(dg a).getD k 0)/b)).drop k)=dv ((dg a).drop k)/b∧dv ((dg a).drop k)%b=(dv ((dg a).drop (k+1))%b*4294967296+(dg a).getD k 0)%b:=by
 have:=aAE (A:=dv ((dg a).drop (k+1))) (r:=0) (i:=0) ((dg a).getD k 0) hb
 rw[aie (by omega),h,ap4 hk,this.1,this.2]
 exact⟨rfl,rfl⟩
theorem afA{a b:Nat}:ahE a b<0↔a<b:=by unfold ahE;split<;>(try split)<;>omega
theorem agy{a b:Nat}:0<ahE a b↔b<a:=by unfold ahE;split<;>(try split)<;>omega
theorem aDs{x:Nat}(hx:x<4294967296):PF GB prog 253 [dU x] (vI (32-(bl x:Int))):=by
 intro G vs hg hv
 obtain⟨v,m,rfl,h1,h2⟩:=aad.1 hv
 rw[aaN] at h2;subst h2
 rw[aaX.1 h1]
 exact(akb hx).mono fun v G' _ h=>aaX.2 h
theorem an6{a k:Nat}(h:4294967296^k≤a):k<(dg a).length:=by
 have h1:=adf a
 rcases iW k (dg a).length with q|q
 ·exact q
 ·have:4294967296^(dg a).length≤4294967296^k:=bX (by decide) q
  omega
theorem ay5{v L:Nat}(hL:L=(dg v).length)(h1:1≤L):(dg v).getD (L-1) 0=v/4294967296^(L-1)∧0<v/4294967296^(L-1):=by
 have h:=asu (ae8 v) (L-1)
 rw[ad9 (by omega:(dg v).length≤L-1+1),aaQ,pV,fK] at h
 have h2:=adf v
 rw[←hL] at h2
 rw[jS (show v<4294967296^(L-1+2) from dV h2 (bX (by decide) (by omega))),pV,fK] at h
 have h3:=afV (aaE v).2.2 (by intro e;rw[e] at hL;simp at hL;omega)
 rw[aaQ,←hL] at h3
 exact⟨h.symm,Nat.div_pos h3 (eJ (by decide))⟩
theorem apj{R n:Nat}(h1:1≤n)(h:R<4294967296^(n+1)):R/4294967296^(n-1)=(dg R).getD (n-1) 0+(dg R).getD n 0*4294967296:=by
 have e:=asu (ae8 R) (n-1)
 rw[aaQ,show n-1+1=n by omega,jS (show R<4294967296^(n-1+2) by rwa [show n-1+2=n+1 by omega]),pV,fK,bL] at e
 exact e
theorem av0{R v j L:Nat}(hL:L=(dg v).length)(h1:1≤L)(hR:R<v*4294967296^(j+1)):R/(v*4294967296^j)≤min (R/4294967296^(L+j-1)/(v/4294967296^(L-1))) 4294967295:=by
 have ht:=(ay5 hL h1).2
 have hp:0<4294967296^j:=eJ (by decide)
 have hv0:0<v:=by
  rcases fS v with q|q
  ·subst q;simp at ht
  ·exact q
 have hvp:0<v*4294967296^j:=gL hv0 hp
 refine Nat.le_min.2 ⟨?_,?_⟩
 ·rw[rU ht,rU (eJ (by decide))]
  have h3:v/4294967296^(L-1)*4294967296^(L-1)≤v:=Nat.div_mul_le_self _ _
  have h4:R/(v*4294967296^j)*(v*4294967296^j)≤R:=Nat.div_mul_le_self _ _
  rw[show L+j-1=L-1+j by omega,eK]
  calc R/(v*4294967296^j)*(v/4294967296^(L-1))*(4294967296^(L-1)*4294967296^j)
    =R/(v*4294967296^j)*((v/4294967296^(L-1)*4294967296^(L-1))*4294967296^j):=by simp only[bM]
   _≤R/(v*4294967296^j)*(v*4294967296^j):=eX _ (bV _ h3)
   _≤R:=h4
 ·have:R/(v*4294967296^j)<4294967296:=by
   rw[kK hvp]
   rw[fQ] at hR
   rwa [bL,bM]
  omega
theorem afF{R V g:Nat}(hV:0<V)(h:R<V*g):R/V<g:=by
 rw[kK hV,bL];exact h
theorem axM{R V g:Nat}(hV:0<V)(h1:R/V≤g)(h2:V*g≤R):g=R/V:=by
 have:g≤R/V:=by rw[rU hV,bL];exact h2
 omega
theorem aqN{R0 R v j g:Nat}{W:List Nat}(hj:j<W.length)(h:R0=R+dv (W.drop (j+1))*4294967296^(j+1)*v)(hv:0<v*4294967296^j)(hg:g=R/(v*4294967296^j)):
  R0=(R-v*4294967296^j*g)+dv ((W.set j g).drop j)*4294967296^j*v∧R-v*4294967296^j*g<v*4294967296^j:=by
 have h1:=qV R (v*4294967296^j)
 have h2:=dJ R hv
 rw[←hg] at h1
 refine⟨?_,by omega⟩
 rw[aie hj,cS,cS,h,fQ]
 have e:g*4294967296^j*v=v*4294967296^j*g:=by simp only[bM,kM,bL]
 have e2:dv (W.drop (j+1))*(4294967296^j*4294967296)*v=dv (W.drop (j+1))*4294967296*4294967296^j*v:=by simp only[bM,kM,bL]
 rw[e,e2]
 omega
theorem awO{a b s R:Nat}{D:Nat}(hR:R<b*2^s)(h:a*2^s=R+D*(b*2^s)):D=a/b∧R/2^s=a%b:=by
 have hp:0<2^s:=eJ (by decide)
 have hb:0<b:=by
  rcases fS b with q|q
  ·subst q;simp at hR
  ·exact q
 have h1:a=R/2^s+D*b:=by
  have:=congrArg (· /2^s) h
  rw[Nat.mul_div_cancel _ hp,←bM,Nat.add_mul_div_right _ _ hp] at this
  exact this
 have h2:R/2^s<b:=by rw[kK hp];exact hR
 have h3:R/2^s+b*D=a:=by rw[bL b];exact h1.symm
 have:=(Nat.div_mod_unique hb).2 ⟨h3,h2⟩
 exact⟨this.1.symm,this.2.symm⟩
theorem asd{a b s:Nat}(hl:(dg b).length≤(dg a).length)(h2:1≤(dg b).length):a*2^s<b*2^s*4294967296^((dg a).length-(dg b).length+1):=by
 have h1:=adf a
 have h3:=afV (aaE b).2.2 (by intro e;rw[e] at h2;simp at h2)
 rw[aaQ] at h3
 have h4:4294967296^(dg a).length≤b*4294967296^((dg a).length-(dg b).length+1):=by
  rw[show(dg a).length=((dg b).length-1)+((dg a).length-(dg b).length+1) by omega,eK]
  rw[show(dg b).length-1+((dg a).length-(dg b).length+1)-(dg b).length+1=(dg a).length-(dg b).length+1 by omega]
  exact bV _ h3
 rw[qS]
 exact kR (dV h1 h4) (eJ (by decide))
theorem ayN(x j:Nat):x*2^(32*j)=x*4294967296^j:=by rw[pJ]
theorem aAH{R L j:Nat}(h:R<4294967296^(L+j+1))(h1:1≤L):R/4294967296^(L+j-1)<18446744073709551616:=by
 rw[kK (eJ (by decide)),show(18446744073709551616:Nat)=4294967296^2 from rfl,←eK]
 rwa [show 2+(L+j-1)=L+j+1 by omega]
theorem ax4{R v j L:Nat}(hL:L=(dg v).length)(hR:R<v*4294967296^(j+1)):R<4294967296^(L+j+1):=by
 have h:=adf v
 rw[←hL] at h
 rw[jY,eK]
 exact dV hR (bV _ (lU h))
theorem aD5{a b ia ib:Nat}[ha:BN a ia][hb:BN b ib](hi:ia≤500000000)(hj:ib≤500000000)(h2:1≤(dg b).length)(hl:(dg b).length≤(dg a).length):PF GB prog 200 [dN a,dN b] (.tp [dN (a/b),dN (a%b)]):=by
 have hla:=aaA (dg a)
 have hlb:=aaA (dg b)
 have hba:=aa3 ha.h
 have hba':(dg a).length≤20000000:=by omega
 refine fn func200 J J ntmps200 J J (fun C=>?_)
 refine ix _ rfl (aaB (k:=(dg b).length-1) (by omega) (by omega)) rfl<|cl (fu:=⟨0⟩) rfl (aDs (adr b ((dg b).length-1))) rfl<|?_
 obtain⟨s,hs⟩: ∃s:Nat,s=32-bl ((dg b).getD ((dg b).length-1) 0):=⟨_,rfl⟩
 have hs32:s≤32:=by omega
 refine eqF 22 (.d (vI (s:Nat))) rfl (by show FX.d (.v (.int _ _))= .d (.v (.int _ _));congr 3;have:=ahP.2 (show(dg b).getD ((dg b).length-1) 0<2^32 from adr b _);omega) ?_
 refine gx rfl<|cl rfl (apV (a:=b) (k:=s) (ia:=ib) (by omega) (by omega)) rfl<|cl (fu:=⟨0⟩) rfl (apV (a:=a) (k:=s) (ia:=ia) (by omega) (by omega)) rfl<|?_
 obtain⟨v,hv⟩: ∃v,v=b*2^s:=⟨_,rfl⟩
 obtain⟨R0,hR0⟩: ∃R0,R0=a*2^s:=⟨_,rfl⟩
 refine eqF 25 (.d (dN v)) rfl (by rw[hv]) ?_
 refine eqF 28 (.d (dN R0)) rfl (by rw[hR0]) ?_
 obtain⟨L,hL⟩: ∃L,L=(dg v).length:=⟨_,rfl⟩
 have hlv:((dg v).map dU).length=L:=by rw[aaA,hL]
 have hps:2^s≤2^32:=bX (by decide) hs32
 have hpp:0<2^s:=eJ (by decide)
 have hst:=asd (a:=a) (b:=b) (s:=s) hl h2
 rw[←hv,←hR0] at hst
 have hvb:v<2^(ib+32):=by rw[hv,eK];exact mT hb.h hps (by decide)
 have hRb:R0<2^(ia+32):=by rw[hR0,eK];exact mT ha.h hps (by decide)
 have hbp:0<b:=iR (fun q=>by subst q;rw[ahI] at h2;simp at h2)
 have hvp:0<v:=hv▸gL hbp hpp
 have hLp:1≤L:=by rw[hL];exact an6 (k:=0) (by rw[rZ];exact hvp)
 have htop:=ay5 hL hLp
 haveI hvB:BN v (ib+32):=⟨hvb⟩
 have hLb:=aa3 hvb
 have hLb':L≤20000000:=by omega
 have htl:=adr v (L-1)
 refine gx (fu:=⟨9⟩) rfl<|?_
 refine eqF 31 (.d (vI (L:Nat))) rfl (by rw[hlv];rfl) ?_
 refine gx rfl<|ix (fu:=⟨2⟩) _ rfl (aaB (k:=L-1) (by omega) (by omega)) rfl<|?_
 refine eqF 35 (.d (.v (.int .u64 (v/4294967296^(L-1):Nat)))) rfl (by rw[htop.1]) ?_
 rw[htop.1] at htl
 refine gx (fu:=⟨11⟩) rfl<|?_
 obtain⟨m,hm⟩: ∃m,m=(dg a).length-(dg b).length+1:=⟨_,rfl⟩
 rw[←hm] at hst
 have hrl:(List.replicate ((m:Nat):Int).toNat (DV.v (.int .u32 0))).length=m:=by rw[aU,bZ]
 refine eqF 41 (.d (vI (m:Nat))) rfl (by show FX.d (.v (.int _ _))= .d (.v (.int _ _));congr 3;omega) ?_
 refine gx rfl<|mk ((List.replicate m 0).map dU) J J (by rw[←aeO];rfl) rfl<|?_
 refine lp (X:=List Nat×Nat×Nat) (fun⟨W,R,k⟩=>[(6, .d (vI (s:Nat))),(7, .d (dN v)),(8, .d (dN R)),(9, .d (.v (.int .u64 (v/4294967296^(L-1):Nat)))),(10, .rw 42),(11, .d (vI ((k:Nat)-1)))]) (fun⟨W,R,k⟩=>[(42,some (.b 256 1 (W.map dU) true))]) (fun⟨W,R,k⟩=>W.length=m∧DOk W∧k≤m∧R0=R+dv (W.drop k)*4294967296^k*v∧R<v*4294967296^k∧R≤R0) (fun⟨W,R,k⟩=>k) ⟨List.replicate m 0,R0,m⟩ rfl ⟨by simp, .replicate _,aM _,by simp[dv],hst,aM _⟩ (fun _=>rfl) (fun⟨W,R,k⟩ hk=>?_)
 dsimp only at hk⊢
 obtain⟨h1,h2',h3,h4,h5,h6⟩:=hk
 have hlw:=aaA W
 refine br (fu1:=⟨10⟩) J J J (fun hc47=>?_) (fun hc47=>?_)
 ·
  obtain⟨j,rfl⟩: ∃j,k=j+1:=⟨k-1,by omega⟩
  have hvj:0<v*4294967296^j:=gL hvp (eJ (by decide))
  have hge:=av0 hL hLp h5
  have hlen:=ax4 hL h5
  have hlr:((dg R).map dU).length=(dg R).length:=aaA _
  haveI hRB:BN R (ia+32):=⟨by omega⟩
  have hq32:R/(v*4294967296^j)<4294967296:=by omega
  have hz1:=qR (R/4294967296^(L+j-1))
  have hz2:=qR (R/4294967296^(L+j-1)/(v/4294967296^(L-1)))
  refine eqF 11 (.d (vI (j:Nat))) rfl (by show FX.d (.v (.int _ _))= .d (.v (.int _ _));congr 3;omega) ?_
  refine mg (fu:=⟨6⟩) (hv:=fun _ _=>by simp only[aah];exact⟨(by omega),(by have:=aAH hlen hLp;omega),(by omega)⟩) (X:=Unit) (fun _=>[(6, .d (vI (s:Nat))),(7, .d (dN v)),(8, .d (dN R)),(9, .d (.v (.int .u64 (v/4294967296^(L-1):Nat)))),(10, .rw 42),(11, .d (vI (j:Nat))),(12, .d (.v (.int .u64 (R/4294967296^(L+j-1):Nat))))]) (fun _=>[(42,some (.b 256 1 (W.map dU) true))]) (fun _=>True) [6,7,8,9,10,11,12] [42] rfl ?_ (fun _=>rfl) (fun _ hm=>?_)
  ·
   refine gx (fu:=⟨4⟩) rfl<|?_
   refine eqF 51 (.d (vI (L:Nat))) rfl (by rw[hlv];rfl) ?_
   refine gx (fu:=⟨2⟩) rfl<|?_
   refine eqF 53 (.d (vI (L+j:Nat))) rfl (by show FX.d (.v (.int _ _))= .d (.v (.int _ _));congr 3) ?_
   refine gx (fu:=⟨8⟩) rfl<|?_
   refine eqF 56 (.d (vI ((dg R).length:Nat))) rfl (by rw[hlr];rfl) ?_
   refine gx rfl<|?_
   refine br (fu2:=⟨6⟩) J J J (fun hc57=>?_) (fun hc57=>?_)
   ·
    have hd0:=adr R (L+j-1)
    have hd1:=adr R (L+j)
    refine ix (hv:=by simp only[aah];exact⟨⟨by omega,(by decide)⟩,by omega⟩) _ rfl (aaB (k:=L+j) (by omega) (by omega)) rfl<|ix (fu:=⟨3⟩) _ rfl (aaB (k:=L+j-1) (by omega) (by omega)) rfl<|?_
    refine eqF 70 (.d (.v (.int .u64 ((dg R).getD (L+j-1) 0+(dg R).getD (L+j) 0*4294967296:Nat)))) rfl (congrArg (fun z:Nat=>FX.d (.v (.int .u64 (z:Int)))) (by rw[aek _ 32 (by decide) (by show _*4294967296<_;omega) rfl,BitVec.or_comm];exact arM 64 ((dg R).getD (L+j-1) 0) ((dg R).getD (L+j) 0) 32 hd0 (by show _+_*4294967296<18446744073709551616;omega))) ?_
    refine gx rfl<|?_
    refine eqF 12 (.d (.v (.int .u64 (R/4294967296^(L+j-1):Nat)))) rfl (by rw[apj (by omega) hlen]) ?_
    exact at_ () trivial
   ·
    refine eqF 74 (.d (vI ((dg R).length:Nat))) rfl (by rw[hlr];rfl) ?_
    refine gx rfl<|?_
    refine br J J J (fun hc75=>?_) (fun hc75=>?_)
    ·
     have hd0:=adr R (L+j-1)
     refine ix _ rfl (aaB (k:=L+j-1) (by omega) (by omega)) rfl<|?_
     refine eqF 12 (.d (.v (.int .u64 (R/4294967296^(L+j-1):Nat)))) rfl (by rw[apj (by omega) hlen,ad9 (by omega:(dg R).length≤L+j),lY,fK]) ?_
     exact at_ () trivial
    ·
     refine eqF 12 (.d (.v (.int .u64 (R/4294967296^(L+j-1):Nat)))) rfl (by rw[apj (by omega) hlen,ad9 (by omega:(dg R).length≤L+j),ad9 (by omega:(dg R).length≤L+j-1)];rfl) ?_
     exact at_ () trivial
  ·
   obtain⟨g0,hg0'⟩: ∃g0,g0=min (R/4294967296^(L+j-1)/(v/4294967296^(L-1))) 4294967295:=⟨_,rfl⟩
   rw[←hg0'] at hge
   have hg0:=hge
   have hg1:g0≤4294967295:=by omega
   refine eqF 85 (.d (.v (.int .u64 (g0:Nat)))) rfl (by show FX.d (.v (.int _ _))= .d (.v (.int _ _));congr 3;rw[←pR];split<;>omega) ?_
   refine gx rfl<|cl rfl (agz (u:=g0) (by omega)) rfl<|cl (fu:=⟨2⟩) rfl (acq (ia:=ib+32) (ib:=32) (hb:=⟨by show _<4294967296;omega⟩) (by omega) (by decide)) rfl<|?_
   refine eqF 91 (.d (vI (32*j:Nat))) rfl (by show FX.d (.v (.int _ _))= .d (.v (.int _ _));congr 3) ?_
   refine gx rfl<|cl (fu:=⟨0⟩) rfl (apV (k:=32*j) (ia:=ib+64) (ha:=⟨by rw[show ib+64=ib+32+32 by omega,eK];exact oZ hvb (by show _<4294967296;omega)⟩) (by omega) (by omega)) rfl<|?_
   refine eqF 92 (.d (dN (v*4294967296^j*g0))) rfl (by rw[ayN,qS]) ?_
   refine gx rfl<|?_
   refine lp (X:=Nat) (fun g=>[(6, .d (vI (s:Nat))),(7, .d (dN v)),(8, .d (dN R)),(9, .d (.v (.int .u64 (v/4294967296^(L-1):Nat)))),(10, .rw 42),(11, .d (vI (j:Nat))),(14, .d (.v (.int .u64 (g:Nat)))),(15, .d (dN (v*4294967296^j*g)))]) (fun g=>[(42,some (.b 256 1 (W.map dU) true))]) (fun g=>R/(v*4294967296^j)≤g∧g≤4294967295) (fun g=>g) g0 rfl ⟨hg0,by omega⟩ (fun _=>rfl) (fun g hk=>?_)
   obtain⟨g1,g2⟩:=hk
   have hlw:=aaA W
   refine cl rfl (atf (a:=v*4294967296^j*g) (b:=R) (by have:=ahd (a:=v*4294967296^j*g) (k:=L+j+1) (by have h1:=adf v;rw[←hL] at h1;rw[fQ,eK];exact oZ (kR h1 (eJ (by decide))) (by omega));omega) (by have:=ahd hlen;omega)) rfl<|?_
   refine br (fu1:=⟨7⟩) (v1:=fun hc96=>by simp only[aah];exact(by have h:=afF hvj (agy.1 hc96);have h1:1≤g:=fJ (bQ _) h;omega)) (fu2:=⟨11⟩) J J J (fun hc96=>?_) (fun hc96=>?_)
   ·
    have hgd:=afF hvj (agy.1 hc96)
    have hg1p:1≤g:=fJ (bQ _) hgd
    refine eqF 98 (.d (.v (.int .u64 ((g-1:Nat):Int)))) rfl (by show FX.d (.v (.int _ _))= .d (.v (.int _ _));congr 3;omega) ?_
    refine gx rfl<|cl rfl (agz (u:=g-1) (by omega)) rfl<|cl (fu:=⟨2⟩) rfl (acq (ia:=ib+32) (ib:=32) (hb:=⟨by show _<4294967296;omega⟩) (by omega) (by decide)) rfl<|?_
    refine eqF 104 (.d (vI (32*j:Nat))) rfl (by show FX.d (.v (.int _ _))= .d (.v (.int _ _));congr 3) ?_
    refine gx rfl<|cl (fu:=⟨0⟩) rfl (apV (k:=32*j) (ia:=ib+64) (ha:=⟨by rw[show ib+64=ib+32+32 by omega,eK];exact oZ hvb (by show _<4294967296;omega)⟩) (by omega) (by omega)) rfl<|?_
    refine eqF 105 (.d (dN (v*4294967296^j*(g-1)))) rfl (by rw[ayN,qS]) ?_
    refine gx rfl<|?_
    exact at_ (g-1) ⟨⟨by have h:=afF hvj (agy.1 hc96);omega,by omega⟩,(by have:=afF hvj (agy.1 hc96);omega)⟩
   ·
    have hgq:=axM hvj g1 (rR fun q=>hc96 (agy.2 q))
    refine eqF 109 (.d (dU g)) rfl (by show FX.d (.v (.int _ _))= .d (.v (.int _ _));congr 3;omega) ?_
    refine gx rfl<|sb _ ((W.set j (R/(v*4294967296^j))).map dU) rfl (aaB (k:=j) (by omega) (by omega)) rfl (by(rw[←hgq,bZ,←aeb])<;>rfl) rfl<|?_
    refine cl (fu:=⟨0⟩) rfl (atJ (a:=R) (b:=v*4294967296^j*g) (ia:=ia+32) (by rw[hgq];exact Nat.mul_div_le _ _) (by omega)) rfl<|?_
    refine eqF 113 (.d (dN (R-v*4294967296^j*(R/(v*4294967296^j))))) rfl (by rw[hgq]) ?_
    refine gx rfl<|?_
    exact at_ ⟨W.set j (R/(v*4294967296^j)),R-v*4294967296^j*(R/(v*4294967296^j)),j⟩ (by dsimp only;exact⟨⟨by simpa using h1,h2'.set _ (by omega),by omega,(aqN (by omega) h4 hvj rfl).1,(aqN (by omega) h4 hvj rfl).2,by omega⟩,(by omega)⟩)
 ·
  obtain rfl:k=0:=by omega
  rw[rZ,iK] at h5
  rw[rZ,iK,gR,hR0,hv] at h4
  rw[hv] at h5
  have hend:=awO h5 h4
  haveI hRB:BN R (ia+32):=⟨by omega⟩
  refine fz 42 J J<|cl rfl (af2 (ds:=W) (by omega)) rfl<|cl rfl (aAq (a:=R) (k:=s) (ia:=ia+32) (by omega) (by omega)) rfl<|?_
  exact rz rfl (by show DV.tp [dLi _,dN _]= .tp [dN _,dN _];rw[aeM h2' hend.1,hend.2])
theorem aoD{a b:Nat}(h:b≤a):(dg b).length≤(dg a).length:=ahd (fJ h (adf a))
theorem afG{a b ia ib:Nat}[ha:BN a ia][hb:BN b ib](hb0:0<b)(hi:ia≤500000000:=by decide)(hj:ib≤500000000:=by decide):PF GB prog 143 [dN a,dN b] (.tp [dN (a/b),dN (a%b)]):=by
 have hla:=aaA (dg a)
 have hlb:=aaA (dg b)
 have hba:=aa3 ha.h
 have hbb:=aa3 hb.h
 have hba':(dg a).length≤20000000:=by omega
 have hbb':(dg b).length≤20000000:=by omega
 have hlb1:1≤(dg b).length:=an6 (k:=0) (by rw[rZ];exact hb0)
 refine fn (fu:=⟨7⟩) func143 J J ntmps143 J J (fun C=>?_)
 refine mg (X:=Unit) (fun _=>[(0, .d (dN a)),(1, .d (dN b))]) (fun _=>[]) (fun _=>True) [0,1] [] rfl ?_ (fun _=>rfl) (fun _ hm=>?_)
 ·
  refine gx rfl<|cl rfl (aqg (a:=a) (ia:=ia) (by omega)) rfl<|?_
  refine bd (fu1:=⟨0⟩) J J J (fun hc18=>?_) (fun hc18=>?_)
  ·
   refine eqF 6 (.d (.v (.int .u64 (a:Nat)))) rfl (by rw[if_pos hc18]) ?_
   refine gx rfl<|cl rfl (aqg (a:=b) (ia:=ib) (by omega)) rfl<|?_
   refine bd (fu1:=⟨0⟩) J J J (fun hc24=>?_) (fun hc24=>?_)
   ·
    refine eqF 8 (.d (.v (.int .u64 (b:Nat)))) rfl (by rw[if_pos hc24]) ?_
    have hdl:=kW a b
    have hml:=Nat.mod_le a b
    refine gx (hv:=by simp only[aah];exact⟨(by omega),(by omega),(by omega)⟩) rfl<|cl (hv:=by simp only[aah];exact⟨(by omega),(by omega)⟩) rfl (agz (u:=a/b) (by omega)) rfl<|cl rfl (agz (u:=a%b) (by omega)) rfl<|?_
    exact rz J J
   ·
    exact at_ () trivial
  ·
   exact at_ () trivial
 ·
  refine cl rfl (atf (by omega) (by omega)) rfl<|?_
  refine br J J J (fun hc36=>?_) (fun hc36=>?_)
  ·
   have hab:=afA.1 hc36
   refine ro0 J J<|ap _ J J (an5 _) rfl<|?_
   refine fzE 39 rfl ?_
   exact rz rfl (by show DV.tp [_, .sl ([]++_)]= .tp [_,_];rw[jS hab,fU hab,ac5];rfl)
  ·
   have hab:b≤a:=rR fun q=>hc36 (afA.2 q)
   have hlab:(dg b).length≤(dg a).length:=aoD hab
   refine br (fu1:=⟨4⟩) J J J (fun hc42=>?_) (fun hc42=>?_)
   ·
    have hb1:b<4294967296:=by have:=adf b;rw[show(dg b).length=1 by omega] at this;omega
    have hbd:(dg b).getD 0 0=b:=acC (by omega)
    refine eqF 44 (.d (vI ((dg a).length:Nat))) rfl (by rw[hla];rfl) ?_
    refine gx rfl<|mk (fu:=⟨13⟩) ((List.replicate (dg a).length 0).map dU) J J (by rw[←aeO];rfl) rfl<|?_
    refine eqF 47 (.d (vI ((dg a).length:Nat))) rfl (by rw[hla];rfl) ?_
    refine gx rfl<|?_
    refine lp (X:=List Nat×Nat) (fun⟨W,k⟩=>[(0, .d (dN a)),(1, .d (dN b)),(10, .rw 45),(11, .d (dU (dv ((dg a).drop k)%b))),(12, .d (vI ((k:Nat)-1)))]) (fun⟨W,k⟩=>[(45,some (.b 256 1 (W.map dU) true))]) (fun⟨W,k⟩=>W.length=(dg a).length∧DOk W∧k≤(dg a).length∧dv (W.drop k)=dv ((dg a).drop k)/b) (fun⟨W,k⟩=>k) ⟨List.replicate (dg a).length 0,(dg a).length⟩ rfl ⟨by simp, .replicate _,aM _,by simp[dv]⟩ (fun _=>rfl) (fun⟨W,k⟩ hk=>?_) (hF:=(by refine⟨rfl,rfl,rfl,leI rfl (by simp[dv,dU]),leI rfl (by simp[vI]),?_⟩;repeat (first|exact trivial|refine And.intro rfl ?_)))
    try dsimp only at hk⊢
    obtain⟨h1,h2,h3,h4⟩:=hk
    have hlw:=aaA W
    refine br (fu1:=⟨0⟩) J J J (fun hc50=>?_) (fun hc50=>?_)
    ·
     obtain⟨k,rfl⟩: ∃j,k=j+1:=⟨k-1,by omega⟩
     have hsi:=auE hb0 (by omega) h1 h4
     have hrm:=dJ (dv ((dg a).drop (k+1))) hb0
     have hdk:=adr a k
     have hqd:(dv ((dg a).drop (k+1))%b*4294967296+(dg a).getD k 0)/b<4294967296:=by rw[kK hb0];have:=eX 4294967296 (show dv ((dg a).drop (k+1))%b+1≤b from hrm);omega
     refine eqF 12 (.d (vI (k:Nat))) rfl (by show FX.d (.v (.int _ _))= .d (.v (.int _ _));congr 3;omega) ?_
     refine gx rfl<|ix _ rfl (aaB (k:=k) (by omega) (by omega)) rfl<|ix _ rfl (aaB (k:=0) rfl (by omega)) rfl<|cl rfl (aBF (h:=dv ((dg a).drop (k+1))%b) (l:=(dg a).getD k 0) (y:=(dg b).getD 0 0) (by omega) hdk (by omega)) rfl<|?_
     refine sb (hv:=by simp only[aah];exact⟨by kernel_rfl,by omega⟩) _ ((W.set k ((dv ((dg a).drop (k+1))%b*4294967296+(dg a).getD k 0)/b)).map dU) rfl (aaB (k:=k) (by omega) (by omega)) rfl (by(rw[hbd,bZ,←aeb])<;>rfl) rfl<|?_
     exact at_ ⟨W.set k ((dv ((dg a).drop (k+1))%b*4294967296+(dg a).getD k 0)/b),k⟩ (by dsimp only;exact⟨⟨by simpa using h1,h2.set _ hqd,by omega,hsi.1⟩,(by omega)⟩) (by refine⟨rfl,rfl,rfl,leI rfl (by rw[hsi.2,hbd]),leI rfl (by first|(simp[vI];done)|(simp[vI];omega)),?_⟩;repeat (first|exact trivial|refine And.intro rfl ?_))
    ·
     refine fz 45 J J<|cl rfl (af2 (ds:=W) (by omega)) rfl<|rf J J<|cl rfl (af2 (ds:=[dv ((dg a).drop k)%b]) (by simp)) rfl<|?_
     exact rz rfl (by show DV.tp [dLi _,dLi _]= .tp [_,_];obtain rfl:k=0:=(by omega);rw[gR,gR,aaQ] at h4;rw[gR,aaQ];rw[aeM h2 h4,aeM (.cons (by have:=dJ a hb0;omega) .nil) (n:=a%b) (by simp[dv])])
   ·
    refine cl rfl (aD5 (by omega) (by omega) hlb1 hlab) rfl<|?_
    exact rz J J
theorem aq9(x y:Nat):Nat.gcd y (x%y)=Nat.gcd x y:=by rw[iM x y,sT y x,iM]
theorem al3{a b ia ib:Nat}[ha:BN a ia][hb:BN b ib](hi:ia≤240000000:=by decide)(hj:ib≤240000000:=by decide):PF GB prog 140 [dN a,dN b] (dN (Nat.gcd a b)):=by
 refine fn (fu:=⟨6⟩) func140 J J ntmps140 J J (fun C=>?_)
 refine mg (X:=Unit) (fun _=>[(0, .d (dN a)),(1, .d (dN b))]) (fun _=>[]) (fun _=>True) [0,1] [] rfl ?_ (fun _=>rfl) (fun _ hm=>?_)
 ·
  refine gx rfl<|cl rfl (aqg (a:=a) (ia:=ia) (by omega)) rfl<|?_
  refine bd (fu1:=⟨0⟩) J J J (fun hc16=>?_) (fun hc16=>?_)
  ·
   refine eqF 5 (.d (.v (.int .u64 (a:Nat)))) rfl (by rw[if_pos hc16]) ?_
   refine gx rfl<|cl rfl (aqg (a:=b) (ia:=ib) (by omega)) rfl<|?_
   refine bd (fu1:=⟨0⟩) J J J (fun hc22=>?_) (fun hc22=>?_)
   ·
    refine eqF 7 (.d (.v (.int .u64 (b:Nat)))) rfl (by rw[if_pos hc22]) ?_
    refine gx rfl<|?_
    refine lp (X:=Nat×Nat) (fun⟨x,y⟩=>[(5, .d (.v (.int .u64 (x:Nat)))),(7, .d (.v (.int .u64 (y:Nat))))]) (fun⟨x,y⟩=>[]) (fun⟨x,y⟩=>x<18446744073709551616∧y<18446744073709551616∧Nat.gcd x y=Nat.gcd a b) (fun⟨x,y⟩=>y) ⟨a,b⟩ rfl ⟨hc16,hc22,rfl⟩ (fun _=>rfl) (fun⟨x,y⟩ hk=>?_)
    try dsimp only at hk⊢
    obtain⟨h1,h2,h3⟩:=hk
    refine br (v1:=fun hc24=>by simp only[aah];exact⟨⟨(by omega),(by omega)⟩,by kernel_rfl⟩) J J J (fun hc24=>?_) (fun hc24=>?_)
    ·
     exact at_ ⟨y,x%y⟩ (by dsimp only;exact⟨⟨h2,by have:=dJ x (show 0<y by omega);omega,by rw[aq9,h3]⟩,(by exact dJ _ (by omega))⟩)
    ·
     refine cl rfl (agz (u:=x) h1) rfl<|?_
     exact rz rfl (by show dN x=_;rw[←h3,show y=0 by omega,mU])
   ·
    exact at_ () trivial
  ·
   exact at_ () trivial
 ·
  refine lp (fu:=⟨5⟩) (X:=Nat×Nat) (fun⟨x,y⟩=>[(0, .d (dN x)),(1, .d (dN y))]) (fun⟨x,y⟩=>[]) (fun⟨x,y⟩=>x<2^(ia+ib)∧y<2^(ia+ib)∧Nat.gcd x y=Nat.gcd a b) (fun⟨x,y⟩=>y) ⟨a,b⟩ rfl ⟨(ha.mono (by omega)).h,(hb.mono (by omega)).h,rfl⟩ (fun _=>rfl) (fun⟨x,y⟩ hk=>?_)
  try dsimp only at hk⊢
  obtain⟨h1,h2,h3⟩:=hk
  have hly:=aaA (dg y)
  haveI hx':BN x (ia+ib):=⟨h1⟩
  haveI hy':BN y (ia+ib):=⟨h2⟩
  refine eqF 32 (.d (vI ((dg y).length:Nat))) rfl (by rw[hly];rfl) ?_
  refine gx rfl<|?_
  refine br J J J (fun hc33=>?_) (fun hc33=>?_)
  ·
   have hy0:0<y:=iR fun q=>by subst q;rw[ahI] at hc33;simp at hc33
   refine cl rfl (afG (a:=x) (b:=y) (ia:=ia+ib) (ib:=ia+ib) hy0 (by omega) (by omega)) rfl<|?_
   exact at_ ⟨y,x%y⟩ (by dsimp only;exact⟨⟨h2,by have:=dJ x hy0;omega,by rw[aq9,h3]⟩,(by exact dJ _ hy0)⟩)
  ·
   have hy0:y=0:=acz.1 (by omega)
   have hlx:=aa3 h1
   have hmx:=aaA (dg x)
   refine ro0 J J<|ap _ J J (an5 _) rfl<|?_
   refine fzE 44 rfl ?_
   exact rz rfl (by show DV.sl ([]++_)=_;rw[←h3,hy0,mU];rfl)
theorem aDc(neg:Bool)(m:Nat):eI (zv neg m)= .ag [.v (.bool (neg&&decide (0<m))),dN m]:=by unfold eI;rw[af1,an3]
theorem aDQ(z:Int):zv (!decide (z<0)) z.natAbs= -z:=by
 unfold zv
 by_cases h:z<0<;>simp[h]<;>omega
theorem azU(a b:Int):zv (!(decide (a<0)==decide (b<0))) (a.natAbs*b.natAbs)=a*b:=by
 have h:=ayT (decide (a<0)) (decide (b<0)) a.natAbs b.natAbs
 rw[adG,adG] at h
 exact h
theorem acT{neg:Bool}{m:Nat}:PF GB prog 92 [.v (.bool neg),dN m] (eI (zv neg m)):=by
 have hl:=aaA (dg m)
 have hz:= @acz m
 refine fn func92 J J ntmps92 J J (fun C=>?_)
 refine csb 6 J J J (fun hg6=>?_) (fun hg6=>?_)
 ·
  exact rz rfl (by rw[aDc,hg6];show DV.ag [.v (.bool _),_]= .ag [.v (.bool _),_];congr 4;rw[Bool.true_and];exact decide_eq_decide.2 (by omega))
 ·
  exact rz rfl (by rw[aDc,hg6];rfl)
end Go.Sx
end
section
namespace Go.Sx
open Go
instance:DecidableEq LnQ:=fun x y=>decidable_of_iff (x.a=y.a∧x.b=y.b∧x.c=y.c) (by
 cases x;cases y;simp)
structure IvQ where
 lo:Rat
 hi:Rat
 nl:Bool
 nh:Bool
def IvQ.all:IvQ:=⟨0,0,true,true⟩
def IvQ.empty(v:IvQ):Bool:=!v.nl&&(!v.nh&&decide (0≤aa9 v.lo v.hi))
def IvQ.meet(v w:IvQ):IvQ:=
 ⟨if v.nl then w.lo else if w.nl then v.lo else if v.lo<w.lo then w.lo else v.lo,
  if v.nh then w.hi else if w.nh then v.hi else if w.hi<v.hi then w.hi else v.hi,v.nl&&w.nl,v.nh&&w.nh⟩
def IvQ.sample(v:IvQ):Rat:=if v.nl&&v.nh then 0 else if v.nl then v.hi-1 else if v.nh then v.lo+1 else(v.lo+v.hi)*mkRat 1 2
def LnQ.cutK(l m:LnQ):Rat:=m.nor.dot l.dir
def LnQ.cutC(l m:LnQ):Rat:=m.value l.base
def LnQ.cutV(l:LnQ)(v:IvQ)(m:LnQ):IvQ:=
 if Int.sign (l.cutK m).num=0 then v
 else if Int.sign (l.cutK m).num=1 then v.meet ⟨-(l.cutC m/l.cutK m),0,false,true⟩
 else v.meet ⟨0, -(l.cutC m/l.cutK m),true,false⟩
def LnQ.cutB(l:LnQ)(v:IvQ)(m:LnQ):Bool:=
 if Int.sign (l.cutK m).num=0 then decide (0<Int.sign (l.cutC m).num) else !(l.cutV v m).empty
structure FrQ where
 l:LnQ
 v:IvQ
abbrev aag:=List FrQ
def agR(l:LnQ):aag→IvQ→Option IvQ
 |[],v=>some v
 |s::t,v=>if l.cutB v s.l then agR l t (l.cutV v s.l) else none
def afs(c:aag)(l:LnQ):Option IvQ:=agR l c IvQ.all
def aeC(l:LnQ)(s:FrQ):Int:=Int.sign (l.value (s.l.at s.v.sample)).num
def aeq(l:LnQ):aag→Int
 |[]=> -1
 |s::t=>if aeC l s≠0 then aeC l s else if s.l=l then 1 else aeq l t
def ajy(c:aag)(l:LnQ):Int:=if(afs c l).isSome then 0 else aeq l c
def PtQ.half(p:PtQ):Int:=
 if 0<Int.sign p.y.num∨(Int.sign p.y.num=0∧0<Int.sign p.x.num) then 1 else if Int.sign p.y.num<0∨Int.sign p.x.num<0 then 2 else 0
def aa7(u v:PtQ):Int:=if u.half<v.half then-1 else if v.half<u.half then 1 else-(Int.sign (u.cross v).num)
def abP(l:LnQ):aag→aag
 |[]=>[]
 |s::t=>if s.l.cutB s.v l then⟨s.l,s.l.cutV s.v l⟩::abP l t else abP l t
def bsq(p:Nat→Bool)(i j:Nat):Nat:=
 if h:i<j then(if p ((i+j)/2) then bsq p ((i+j)/2+1) j else bsq p i ((i+j)/2)) else i
termination_by j-i
def aeo(c:aag)(l:LnQ)(i:Nat):Bool:=match c[i]? with
 |some s=>decide (aa7 s.l.dir l.dir<0)
 |none=>false
def apt(c:aag)(l:LnQ)(v:IvQ):aag:=
 c.take (bsq (aeo c l) 0 c.length)++⟨l,v⟩::c.drop (bsq (aeo c l) 0 c.length)
def aaP(c:aag)(l:LnQ):aag:=match afs c l with
 |some v=>apt (abP l c) l v
 |none=>c
def abl(c:aag)(l:LnQ):Bool:=match afs c l with
 |some _=>true
 |none=>decide (0<ajy c l)
theorem aqf(p:Nat→Bool): ∀(d i j:Nat),j-i≤d→i≤j→i≤bsq p i j∧bsq p i j≤j
 |0,i,j,h,hij=>by
  rw[bsq,dif_neg (by omega)];omega
 |d+1,i,j,h,hij=>by
  rw[bsq]
  split
  ·split
   ·have:=aqf p d ((i+j)/2+1) j (by omega) (by omega);omega
   ·have:=aqf p d i ((i+j)/2) (by omega) (by omega);omega
  ·omega
theorem aof(l:LnQ): ∀c:aag,(abP l c).length≤c.length
 |[]=>aM _
 |s::t=>by
  have:=aof l t
  unfold abP
  split<;>simp<;>omega
theorem awR(c:aag)(l:LnQ)(v:IvQ):(apt c l v).length=c.length+1:=by
 have:=(aqf (aeo c l) c.length 0 c.length (by omega) (by omega)).2
 simp[apt];omega
theorem ahe(c:aag)(l:LnQ):(aaP c l).length≤c.length+1:=by
 unfold aaP
 split
 ·rw[awR];have:=aof l c;omega
 ·omega
inductive Tr where
 |leaf (b:Bool)
 |node (l:LnQ) (x y:Tr)
def Tr.isLeaf:Tr→Bool
 | .leaf _=>true
 | .node .. =>false
def Tr.code:Tr→Bool
 | .leaf b=>b
 | .node .. =>false
def Tr.depth:Tr→Nat
 | .leaf _=>0
 | .node _ x y=>1+max x.depth y.depth
def Tr.size:Tr→Nat
 | .leaf _=>0
 | .node _ x y=>1+x.size+y.size
def Tr.joinQ(l:LnQ)(x y:Tr):Tr:=if x.isLeaf&&(y.isLeaf&&(x.code==y.code)) then x else .node l x y
def Tr.restrict:Tr→aag→Tr
 | .leaf b,_=> .leaf b
 | .node l x y,c=>if !abl c l.rev then x.restrict c else if !abl c l then y.restrict c else joinQ l (x.restrict (aaP c l)) (y.restrict (aaP c l.rev))
def Tr.parts:Tr→aag→List (Bool×aag)
 | .leaf b,c=>[(b,c)]
 | .node l x y,c=>(if abl c l then x.parts (aaP c l) else [])++(if abl c l.rev then y.parts (aaP c l.rev) else [])
def Tr.all(p:LnQ→Prop):Tr→Prop
 | .leaf _=>True
 | .node l x y=>p l∧x.all p∧y.all p
def Tr.good:Tr→Prop
 | .leaf _=>True
 | .node _ x y=> ¬(x.isLeaf=true∧y.isLeaf=true∧x.code=y.code)∧x.good∧y.good
structure NQ where
 l:LnQ
 a:Int
 b:Int
def adc(b:Bool):Int:=if b then-2 else-1
def Tr.num:Tr→Nat→Int
 | .leaf b,_=>adc b
 | .node ..,n=>n
def Tr.wr:Tr→Nat→List NQ
 | .leaf _,_=>[]
 | .node l x y,n=>⟨l,x.num (n+1),y.num (n+1+x.size)⟩::x.wr (n+1)++y.wr (n+1+x.size)
theorem Tr.wr_len: ∀(t:Tr) (n:Nat),(t.wr n).length=t.size
 | .leaf _,n=>rfl
 | .node l x y,n=>by
  have h1:=Tr.wr_len x (n+1)
  have h2:=Tr.wr_len y (n+1+x.size)
  simp[Tr.wr,Tr.size,h1,h2];omega
theorem Tr.size_lt: ∀t:Tr,t.size<2^t.depth
 | .leaf _=>by simp[Tr.size,Tr.depth]
 | .node l x y=>by
  have h1:=x.size_lt
  have h2:=y.size_lt
  have e1:2^x.depth≤2^max x.depth y.depth:=bX (by omega) (qU ..)
  have e2:2^y.depth≤2^max x.depth y.depth:=bX (by omega) (pS ..)
  simp only[Tr.size,Tr.depth,jK 1 (max _ _),fQ]
  omega
theorem Tr.joinQ_cases(l:LnQ)(x y:Tr):(Tr.joinQ l x y=x∧x.isLeaf=true)∨(Tr.joinQ l x y= .node l x y∧ ¬(x.isLeaf=true∧y.isLeaf=true∧x.code=y.code)):=by
 unfold Tr.joinQ
 split
 ·rename_i h
  simp at h
  exact .inl ⟨rfl,h.1⟩
 ·rename_i h
  simp at h
  exact .inr ⟨rfl,fun⟨a,b,c⟩=>h a b c⟩
theorem Tr.restrict_depth: ∀(t:Tr) (c:aag),(t.restrict c).depth≤t.depth
 | .leaf b,c=>aM _
 | .node l x y,c=>by
  unfold Tr.restrict
  split
  ·have:=x.restrict_depth c;simp only[Tr.depth];omega
  ·split
   ·have:=y.restrict_depth c;simp only[Tr.depth];omega
   ·have h1:=x.restrict_depth (aaP c l)
    have h2:=y.restrict_depth (aaP c l.rev)
    rcases Tr.joinQ_cases l (x.restrict (aaP c l)) (y.restrict (aaP c l.rev)) with⟨h,_⟩|⟨h,_⟩
    ·rw[h];simp only[Tr.depth];omega
    ·rw[h];simp only[Tr.depth];omega
theorem Tr.restrict_all(p:LnQ→Prop): ∀(t:Tr) (c:aag),t.all p→(t.restrict c).all p
 | .leaf b,c,_=>trivial
 | .node l x y,c,h=>by
  obtain⟨h0,h1,h2⟩:=h
  unfold Tr.restrict
  split
  ·exact x.restrict_all p c h1
  ·split
   ·exact y.restrict_all p c h2
   ·rcases Tr.joinQ_cases l (x.restrict (aaP c l)) (y.restrict (aaP c l.rev)) with⟨h,_⟩|⟨h,_⟩
    ·rw[h];exact x.restrict_all p _ h1
    ·rw[h];exact⟨h0,x.restrict_all p _ h1,y.restrict_all p _ h2⟩
theorem abD(l:LnQ)(p:PtQ):l.value p=(l.a:Rat)*p.x+(l.b:Rat)*p.y+(l.c:Rat):=rfl
theorem aaY(l:LnQ)(p:PtQ):l.rev.value p= -l.value p:=by
 rw[abD,abD]
 have h1:((l.rev.a:Int):Rat)= -(l.a:Rat):=(af6 l.a).symm
 have h2:((l.rev.b:Int):Rat)= -(l.b:Rat):=(af6 l.b).symm
 have h3:((l.rev.c:Int):Rat)= -(l.c:Rat):=(af6 l.c).symm
 rw[h1,h2,h3];grind
def abi(q p:PtQ)(e:Rat):PtQ:=⟨q.x+e*(p.x-q.x),q.y+e*(p.y-q.y)⟩
theorem acG(l:LnQ)(q p:PtQ)(e:Rat):l.value (abi q p e)=l.value q+e*(l.value p-l.value q):=by
 simp only[abD,abi];grind
def adv(q u:PtQ)(e:Rat):PtQ:=⟨q.x+e*u.x,q.y+e*u.y⟩
theorem abL(l:LnQ)(q u:PtQ)(e:Rat):l.value (adv q u e)=l.value q+e*l.nor.dot u:=by
 simp only[abD,adv,LnQ.nor,PtQ.dot];grind
theorem aap{a b:Rat}(ha:0<a)(hb:0<b):0<a*b:=Rat.mul_pos ha hb
theorem aab{a b:Rat}(ha:0≤a)(hb:0≤b):0≤a*b:=Rat.mul_nonneg ha hb
theorem agH(a:Rat):0≤a*a:=by
 by_cases h:0≤a
 ·exact aab h h
 ·have:=aab (a:= -a) (b:= -a) (by grind) (by grind)
  grind
theorem aat{s k:Rat}(hk:0<k):0<s*k↔0<s:=by
 constructor
 ·intro h
  by_cases hs:0<s
  ·exact hs
  ·have:=aab (a:= -s) (b:=k) (by grind) (by grind)
   grind
 ·intro h;exact aap h hk
theorem aaj{s k:Rat}(hk:0<k):0≤s*k↔0≤s:=by
 constructor
 ·intro h
  by_cases hs:0≤s
  ·exact hs
  ·have:=aap (a:= -s) (b:=k) (by grind) hk
   grind
 ·intro h;exact aab h (by grind)
theorem agi{A B u v:Rat}(h0:0≤A)(h1:0≤A+v*B)(hu:0≤u)(huv:u≤v):0≤A+u*B:=by
 by_cases hB:0≤B
 ·have:=aab hu hB;grind
 ·have:=aab (a:=v-u) (b:= -B) (by grind) (by grind)
  grind
def LnQ.Ne(l:LnQ):Prop:= ¬(l.a=0∧l.b=0)
theorem LnQ.ok.ne{l:LnQ}(h:l.ok):l.Ne:=h.1
theorem afU{l:LnQ}(h:l.Ne):0<l.nor.dot l.nor:=by
 show 0<(l.a:Rat)*l.a+(l.b:Rat)*l.b
 have h1:=agH (l.a:Rat)
 have h2:=agH (l.b:Rat)
 by_cases ha:l.a=0
 ·have hb:l.b≠0:=fun hb=>h ⟨ha,hb⟩
  have hb':(l.b:Rat)≠0:=fun e=>hb (cN.1 e)
  have:(l.b:Rat)*l.b≠0:=by grind
  grind
 ·have ha':(l.a:Rat)≠0:=fun e=>ha (cN.1 e)
  have:(l.a:Rat)*l.a≠0:=by grind
  grind
theorem anY{l:LnQ}(h:l.Ne): ∃q:Rat,l.nor.dot l.nor*q= -(l.c:Rat)∧l.base=⟨(l.a:Rat)*q,(l.b:Rat)*q⟩:=by
 refine⟨-(l.c:Rat)/l.nor.dot l.nor,?_,rfl⟩
 have:=afU h
 grind
theorem acd(l m:LnQ)(t:Rat):m.value (l.at t)=l.cutC m+t*l.cutK m:=by
 simp only[LnQ.cutC,LnQ.cutK,abD,LnQ.at,PtQ.add,PtQ.scale,LnQ.dir,LnQ.nor,PtQ.dot];grind
theorem acw{l:LnQ}(h:l.Ne)(t:Rat):l.value (l.at t)=0:=by
 obtain⟨q,h1,h2⟩:=anY h
 simp only[abD,LnQ.at,h2,PtQ.add,PtQ.scale,LnQ.dir]
 simp only[LnQ.nor,PtQ.dot] at h1
 grind
theorem aw0{l:LnQ}(h:l.Ne){p:PtQ}(hp:l.value p=0): ∃t,p=l.at t:=by
 obtain⟨q,h1,h2⟩:=anY h
 have hn:=afU h
 obtain⟨x,y⟩:=p
 rw[abD] at hp
 simp only[LnQ.nor,PtQ.dot] at h1 hn
 refine⟨((l.b:Rat)*x-(l.a:Rat)*y)/((l.a:Rat)*l.a+(l.b:Rat)*l.b),?_⟩
 generalize ht:((l.b:Rat)*x-(l.a:Rat)*y)/((l.a:Rat)*l.a+(l.b:Rat)*l.b)=t
 have ht':((l.a:Rat)*l.a+(l.b:Rat)*l.b)*t=(l.b:Rat)*x-(l.a:Rat)*y:=by grind
 simp only[LnQ.at,h2,PtQ.add,PtQ.scale,LnQ.dir,PtQ.mk.injEq]
 generalize (l.a:Rat)=a at*
 generalize (l.b:Rat)=b at*
 generalize (l.c:Rat)=c at*
 have e1:(a*a+b*b)*(x-(a*q+b*t))=0:=by grind
 have e2:(a*a+b*b)*(y-(b*q+ -a*t))=0:=by grind
 constructor<;>grind
def IvQ.has(v:IvQ)(t:Rat):Prop:=(v.nl=true∨v.lo≤t)∧(v.nh=true∨t≤v.hi)
def IvQ.ins(v:IvQ)(t:Rat):Prop:=(v.nl=true∨v.lo<t)∧(v.nh=true∨t<v.hi)
def IvQ.Pos(v:IvQ):Prop:=v.nl=true∨v.nh=true∨v.lo<v.hi
theorem apx(a b:Rat):0≤aa9 a b↔b≤a:=by
 unfold aa9;split
 ·constructor
  ·intro h;exact absurd h (by decide)
  ·intro h;grind
 ·split
  ·constructor
   ·intro _;grind
   ·intro _;decide
  ·constructor
   ·intro _;grind
   ·intro _;decide
theorem agM(v:IvQ):v.empty=false↔v.Pos:=by
 obtain⟨lo,hi,nl,nh⟩:=v
 unfold IvQ.empty IvQ.Pos
 cases nl<;>cases nh<;>simp[apx]
 first|exact Rat.not_le|grind
theorem IvQ.ins.has{v:IvQ}{t:Rat}(h:v.ins t):v.has t:=by
 obtain⟨h1,h2⟩:=h
 exact⟨h1.imp id (fun h=>dQ h),h2.imp id (fun h=>dQ h)⟩
theorem aCg:mkRat 1 2=(1:Rat)/2:=by rw[pL];rfl
theorem abd{v:IvQ}(h:v.Pos):v.ins v.sample:=by
 obtain⟨lo,hi,nl,nh⟩:=v
 unfold IvQ.Pos at h
 unfold IvQ.ins IvQ.sample
 rw[aCg]
 cases nl<;>cases nh<;>simp at* <;>grind
theorem ap6(v w:IvQ)(t:Rat):(v.meet w).has t↔v.has t∧w.has t:=by
 obtain⟨lo,hi,nl,nh⟩:=v
 obtain⟨lo',hi',nl',nh'⟩:=w
 unfold IvQ.has IvQ.meet
 cases nl<;>cases nh<;>cases nl'<;>cases nh'<;>simp<;>grind
theorem apP(v w:IvQ)(t:Rat):(v.meet w).ins t↔v.ins t∧w.ins t:=by
 obtain⟨lo,hi,nl,nh⟩:=v
 obtain⟨lo',hi',nl',nh'⟩:=w
 unfold IvQ.ins IvQ.meet
 cases nl<;>cases nh<;>cases nl'<;>cases nh'<;>simp<;>grind
theorem ao0(t:Rat):IvQ.all.has t:=⟨.inl rfl, .inl rfl⟩
theorem aBI(t:Rat):IvQ.all.ins t:=⟨.inl rfl, .inl rfl⟩
theorem agb:IvQ.all.Pos:= .inl rfl
theorem abT(k:Rat):Int.sign k.num=0↔k=0:=by rw[jX,oS]
theorem axH(k:Rat):0<k.num↔0<k:=by
 have h1:0≤k.num↔0≤k:=Rat.num_nonneg
 have h2:k.num=0↔k=0:=oS
 constructor
 ·intro h
  have a:=h1.1 (by omega)
  have b:k≠0:=fun e=>by have:=h2.2 e;omega
  grind
 ·intro h
  have a:=h1.2 (by grind)
  have b:k.num≠0:=fun e=>by have:=h2.1 e;grind
  omega
theorem ahZ(k:Rat):Int.sign k.num=1↔0<k:=by rw[Int.sign_eq_one_iff_pos,axH]
theorem acH(k:Rat):0<Int.sign k.num↔0<k:=by
 rw[←ahZ]
 rcases rX k.num 0 with h|h|h
 ·rw[fM h];decide
 ·rw[h];decide
 ·rw[gS h];decide
theorem ahJ(k:Rat):Int.sign k.num<0↔k<0:=by
 have h1:=abT k
 have h2:=acH k
 constructor
 ·intro h
  by_cases hk:0<k
  ·have:=h2.2 hk;omega
  ·by_cases h0:k=0
   ·have:=h1.2 h0;omega
   ·grind
 ·intro h
  have a1: ¬Int.sign k.num=0:=fun e=>by have:=h1.1 e;grind
  have a2: ¬0<Int.sign k.num:=fun e=>by have:=h2.1 e;grind
  omega
theorem agE{l m:LnQ}(v:IvQ)(hk:l.cutK m=0):l.cutV v m=v∧(l.cutB v m=true↔0<l.cutC m):=by
 have h:=(abT (l.cutK m)).2 hk
 unfold LnQ.cutV LnQ.cutB
 rw[if_pos h,if_pos h,decide_eq_true_iff,acH]
 exact⟨rfl,Iff.rfl⟩
theorem amT{l m:LnQ}(v:IvQ)(hk:0<l.cutK m):l.cutV v m=v.meet ⟨-(l.cutC m/l.cutK m),0,false,true⟩∧(l.cutB v m=true↔(l.cutV v m).Pos):=by
 have h0: ¬Int.sign (l.cutK m).num=0:=fun e=>by have:=(abT _).1 e;grind
 have h1:=(ahZ (l.cutK m)).2 hk
 constructor
 ·unfold LnQ.cutV;rw[if_neg h0,if_pos h1]
 ·unfold LnQ.cutB;rw[if_neg h0,←agM];simp
theorem anw{l m:LnQ}(v:IvQ)(hk:l.cutK m<0):l.cutV v m=v.meet ⟨0, -(l.cutC m/l.cutK m),true,false⟩∧(l.cutB v m=true↔(l.cutV v m).Pos):=by
 have h0: ¬Int.sign (l.cutK m).num=0:=fun e=>by have:=(abT _).1 e;grind
 have h1: ¬Int.sign (l.cutK m).num=1:=fun e=>by have:=(ahZ _).1 e;grind
 constructor
 ·unfold LnQ.cutV;rw[if_neg h0,if_neg h1]
 ·unfold LnQ.cutB;rw[if_neg h0,←agM];simp
theorem aFZ{C K t:Rat}(hk:0<K): -(C/K)≤t↔0≤C+t*K:=by
 have e:C=C/K*K:=by grind
 generalize C/K=d at*
 rw[e,show d*K+t*K=(d+t)*K from by grind,aaj hk]
 grind
theorem aED{C K t:Rat}(hk:0<K): -(C/K)<t↔0<C+t*K:=by
 have e:C=C/K*K:=by grind
 generalize C/K=d at*
 rw[e,show d*K+t*K=(d+t)*K from by grind,aat hk]
 grind
theorem aF2{C K t:Rat}(hk:K<0):t≤ -(C/K)↔0≤C+t*K:=by
 have e:C=C/K*K:=by grind
 generalize C/K=d at*
 rw[e,show d*K+t*K=(-(d+t))*(-K) from by grind,aaj (by grind)]
 grind
theorem aEI{C K t:Rat}(hk:K<0):t< -(C/K)↔0<C+t*K:=by
 have e:C=C/K*K:=by grind
 generalize C/K=d at*
 rw[e,show d*K+t*K=(-(d+t))*(-K) from by grind,aat (by grind)]
 grind
theorem acX(k:Rat):k=0∨0<k∨k<0:=by grind
theorem alU{l m:LnQ}{v:IvQ}(hb:l.cutB v m=true)(t:Rat):(l.cutV v m).has t↔v.has t∧0≤m.value (l.at t):=by
 rw[acd]
 rcases acX (l.cutK m) with hk|hk|hk
 ·obtain⟨h1,h2⟩:=agE v hk
  rw[h1,hk]
  have:=h2.1 hb
  constructor
  ·intro h;exact⟨h,by grind⟩
  ·exact fun h=>h.1
 ·rw[(amT v hk).1,ap6,←aFZ hk]
  simp[IvQ.has]
 ·rw[(anw v hk).1,ap6,←aF2 hk]
  simp[IvQ.has]
theorem atv{l m:LnQ}{v:IvQ}(hb:l.cutB v m=true)(t:Rat):(l.cutV v m).ins t↔v.ins t∧0<m.value (l.at t):=by
 rw[acd]
 rcases acX (l.cutK m) with hk|hk|hk
 ·obtain⟨h1,h2⟩:=agE v hk
  rw[h1,hk]
  have:=h2.1 hb
  constructor
  ·intro h;exact⟨h,by grind⟩
  ·exact fun h=>h.1
 ·rw[(amT v hk).1,apP,←aED hk]
  simp[IvQ.ins]
 ·rw[(anw v hk).1,apP,←aEI hk]
  simp[IvQ.ins]
theorem ajS{l m:LnQ}{v:IvQ}(hv:v.Pos)(hb:l.cutB v m=true):(l.cutV v m).Pos:=by
 rcases acX (l.cutK m) with hk|hk|hk
 ·rw[(agE v hk).1];exact hv
 ·exact(amT v hk).2.1 hb
 ·exact(anw v hk).2.1 hb
theorem avw{l m:LnQ}{v:IvQ}(hv:v.Pos)(hb:l.cutB v m=false){t:Rat}(ht:v.has t):m.value (l.at t)≤0:=by
 rw[acd]
 have hb': ¬l.cutB v m=true:=by rw[hb];decide
 rcases acX (l.cutK m) with hk|hk|hk
 ·have h2:=(agE v hk).2
  have: ¬0<l.cutC m:=fun h=>hb' (h2.2 h)
  rw[hk];grind
 ·obtain⟨h1,h2⟩:=amT v hk
  have hn: ¬(l.cutV v m).Pos:=fun h=>hb' (h2.2 h)
  rw[h1] at hn
  have h3:=aED (C:=l.cutC m) (t:=t) hk
  suffices¬(-(l.cutC m/l.cutK m)<t) by grind
  generalize-(l.cutC m/l.cutK m)=d at*
  obtain⟨lo,hi,nl,nh⟩:=v
  unfold IvQ.Pos IvQ.meet at hn
  unfold IvQ.Pos at hv
  unfold IvQ.has at ht
  cases nl<;>cases nh<;>simp at* <;>grind
 ·obtain⟨h1,h2⟩:=anw v hk
  have hn: ¬(l.cutV v m).Pos:=fun h=>hb' (h2.2 h)
  rw[h1] at hn
  have h3:=aEI (C:=l.cutC m) (t:=t) hk
  suffices¬(t< -(l.cutC m/l.cutK m)) by grind
  generalize-(l.cutC m/l.cutK m)=d at*
  obtain⟨lo,hi,nl,nh⟩:=v
  unfold IvQ.Pos IvQ.meet at hn
  unfold IvQ.Pos at hv
  unfold IvQ.has at ht
  cases nl<;>cases nh<;>simp at* <;>grind
def InD(c:aag)(p:PtQ):Prop:= ∀s∈c,0<s.l.value p
def InC(c:aag)(p:PtQ):Prop:= ∀s∈c,0≤s.l.value p
theorem ahx(l:LnQ): ∀(c:aag) (v w:IvQ),v.Pos→agR l c v=some w→
  w.Pos∧(∀t,w.has t↔v.has t∧InC c (l.at t))∧(∀t,w.ins t↔v.ins t∧InD c (l.at t))
 |[],v,w,hv,h=>by
  obtain rfl:v=w:=by simpa[agR] using h
  exact⟨hv,fun t=>⟨fun h=>⟨h,fun s hs=>absurd hs (by simp)⟩,fun h=>h.1⟩,fun t=>⟨fun h=>⟨h,fun s hs=>absurd hs (by simp)⟩,fun h=>h.1⟩⟩
 |s::c,v,w,hv,h=>by
  rw[agR] at h
  split at h
  ·rename_i hb
   obtain⟨h1,h2,h3⟩:=ahx l c _ w (ajS hv hb) h
   refine⟨h1,fun t=>?_,fun t=>?_⟩
   ·rw[h2,alU hb]
    simp only[InC,dY]
    exact and_assoc
   ·rw[h3,atv hb]
    simp only[InD,dY]
    exact and_assoc
  ·exact absurd h (by simp)
theorem ak1(l:LnQ): ∀(c:aag) (v:IvQ),v.Pos→agR l c v=none→ ∀t,v.has t→ ¬InD c (l.at t)
 |[],v,hv,h=>by simp[agR] at h
 |s::c,v,hv,h=>by
  intro t ht hd
  have hd':=dY.1 hd
  rw[agR] at h
  split at h
  ·rename_i hb
   exact ak1 l c _ (ajS hv hb) h t ((alU hb t).2 ⟨ht,dQ hd'.1⟩) hd'.2
  ·rename_i hb
   have:=avw hv (by simpa using hb) ht
   have:=hd'.1
   grind
theorem InD.open: ∀{c:aag} {q:PtQ} (u:PtQ),InD c q→ ∃e:Rat,0<e∧ ∀d,0≤d→d≤e→InD c (adv q u d)
 |[],q,u,_=>⟨1,by decide,fun d _ _ s hs=>absurd hs (by simp)⟩
 |s::c,q,u,h=>by
  have h':=dY.1 h
  obtain⟨e,he,hd⟩:=InD.open (c:=c) u h'.2
  have hs:=h'.1
  generalize hk:s.l.nor.dot u=k
  have hf: ∃f:Rat,0<f∧ ∀d,0≤d→d≤f→0<s.l.value q+d*k:=by
   by_cases hk0:0≤k
   ·exact⟨1,by decide,fun d h1 _=>by have:=aab h1 hk0;grind⟩
   ·refine⟨s.l.value q/(2* -k),?_,fun d h1 h2=>?_⟩
    ·have e1:s.l.value q/(2* -k)*(2* -k)=s.l.value q:=by grind
     exact(aat (k:=2* -k) (by grind)).1 (by rw[e1];exact hs)
    ·have e1:s.l.value q/(2* -k)*(2* -k)=s.l.value q:=by grind
     generalize s.l.value q/(2* -k)=f at*
     have:=aab (a:=f-d) (b:= -k) (by grind) (by grind)
     grind
  obtain⟨f,hf0,hf⟩:=hf
  by_cases hef:e≤f
  ·refine⟨e,he,fun d h1 h2=>dY.2 ⟨?_,hd d h1 h2⟩⟩
   rw[abL,hk];exact hf d h1 (by grind)
  ·refine⟨f,hf0,fun d h1 h2=>dY.2 ⟨?_,hd d h1 (by grind)⟩⟩
   rw[abL,hk];exact hf d h1 h2
theorem ak3: ∀{c:aag} {q p:PtQ},InD c q→(∃s∈c,s.l.value p≤0)→
  ∃e:Rat,0≤e∧e≤1∧(∃s∈c,s.l.value p≤0∧s.l.value (abi q p e)=0)∧InC c (abi q p e)
 |[],q,p,_,h=>by obtain⟨s,hs,_⟩:=h;exact absurd hs (by simp)
 |s::c,q,p,h,hex=>by
  have h':=dY.1 h
  have hs:=h'.1
  by_cases hc: ∃s∈c,s.l.value p≤0
  ·obtain⟨e,h0,h1,⟨s1,m1,n1,z1⟩,hC⟩:=ak3 h'.2 hc
   by_cases hp:0≤s.l.value (abi q p e)
   ·exact⟨e,h0,h1,⟨s1,aK _ m1,n1,z1⟩,dY.2 ⟨hp,hC⟩⟩
   ·rw[acG] at hp
    generalize hB:s.l.value p-s.l.value q=B at*
    have hB0:B<0:=by
     by_cases hB0:0≤B
     ·have:=aab h0 hB0;grind
     ·grind
    have e1:s.l.value q/(-B)*(-B)=s.l.value q:=by grind
    generalize hf:s.l.value q/(-B)=f at*
    have f0:0≤f:=(aaj (k:= -B) (by grind)).1 (by rw[e1];grind)
    have f1:f≤e:=by
     have:=(aaj (s:=e-f) (k:= -B) (by grind)).1 (by grind)
     grind
    have z:s.l.value (abi q p f)=0:=by rw[acG,hB];grind
    have np:s.l.value p≤0:=by
     have:=aab (a:=1-e) (b:= -B) (by grind) (by grind)
     grind
    refine⟨f,f0,by grind,⟨s,aZ,np,z⟩,dY.2 ⟨by rw[z];exact gQ,fun s2 m2=>?_⟩⟩
    have a1:=h'.2 s2 m2
    have a2:=hC s2 m2
    rw[acG] at a2⊢
    exact agi (dQ a1) a2 f0 f1
  ·have np:s.l.value p≤0:=by
    obtain⟨s1,m1,n1⟩:=hex
    rcases aR.1 m1 with rfl|m1
    ·exact n1
    ·exact absurd ⟨s1,m1,n1⟩ hc
   generalize hB:s.l.value p-s.l.value q=B at*
   have hB0:B<0:=by grind
   have e1:s.l.value q/(-B)*(-B)=s.l.value q:=by grind
   generalize hf:s.l.value q/(-B)=f at*
   have f0:0≤f:=(aaj (k:= -B) (by grind)).1 (by rw[e1];grind)
   have f1:f≤1:=by
    have:=(aaj (s:=1-f) (k:= -B) (by grind)).1 (by grind)
    grind
   have z:s.l.value (abi q p f)=0:=by rw[acG,hB];grind
   refine⟨f,f0,f1,⟨s,aZ,np,z⟩,dY.2 ⟨by rw[z];exact gQ,fun s2 m2=>?_⟩⟩
   have a1:=h'.2 s2 m2
   have a2:0<s2.l.value p:=by
    by_cases h:0<s2.l.value p
    ·exact h
    ·exact absurd ⟨s2,m2,by grind⟩ hc
   rw[acG]
   have:=agi (A:=s2.l.value q) (B:=s2.l.value p-s2.l.value q) (u:=f) (v:=1) (dQ a1) (by grind) f0 f1
   exact this
structure aaV (c:aag):Prop where
 ne: ∃p,InD c p
 ok: ∀s∈c,s.l.ok
 edge: ∀s∈c,s.v.Pos∧ ∀t,s.v.has t↔InC c (s.l.at t)
theorem aaV.nil:aaV []:=⟨⟨⟨0,0⟩,fun s hs=>absurd hs (by simp)⟩,fun s hs=>absurd hs (by simp),fun s hs=>absurd hs (by simp)⟩
theorem aa1{c:aag}{m:LnQ}(hne: ∃q,InD c q)(h: ∀p,InD c p→0<m.value p){p:PtQ}(hp:InC c p):0≤m.value p:=by
 obtain⟨q,hq⟩:=hne
 have mq:=h q hq
 by_cases hm:0≤m.value p
 ·exact hm
 ·exfalso
  generalize hB:m.value q-m.value p=B
  have hB0:0<B:=by grind
  have e1: -m.value p/B*B= -m.value p:=by grind
  generalize-m.value p/B=e at*
  have e0:0<e:=(aat hB0).1 (by rw[e1];grind)
  have e2:e≤1:=by
   have:=(aaj (s:=1-e) hB0).1 (by grind)
   grind
  have hd:InD c (abi p q e):=fun s hs=>by
   rw[acG]
   have a:=hp s hs
   have b:=hq s hs
   have:=aap e0 b
   have:=aab (a:=1-e) (b:=s.l.value p) (by grind) a
   grind
  have:=h _ hd
  rw[acG,hB,e1] at this
  grind
theorem acn{l:LnQ}{s':FrQ}: ∀{c:aag},s'∈abP l c↔ ∃s∈c,s.l.cutB s.v l=true∧s'=⟨s.l,s.l.cutV s.v l⟩
 |[]=>by simp[abP]
 |s::c=>by
  rw[abP]
  split
  ·rename_i hb
   rw[aR,acn (c:=c)]
   constructor
   ·rintro (rfl|⟨s1,h1,h2⟩)
    ·exact⟨s,aZ,hb,rfl⟩
    ·exact⟨s1,aK _ h1,h2⟩
   ·rintro ⟨s1,h1,h2,h3⟩
    rcases aR.1 h1 with rfl|h1
    ·exact .inl h3
    ·exact .inr ⟨s1,h1,h2,h3⟩
  ·rename_i hb
   rw[acn (c:=c)]
   constructor
   ·rintro ⟨s1,h1,h2⟩;exact⟨s1,aK _ h1,h2⟩
   ·rintro ⟨s1,h1,h2,h3⟩
    rcases aR.1 h1 with rfl|h1
    ·exact absurd h2 hb
    ·exact⟨s1,h1,h2,h3⟩
theorem acK{c:aag}{l:LnQ}{v:IvQ}{s:FrQ}:s∈apt c l v↔s=⟨l,v⟩∨s∈c:=by
 unfold apt
 generalize bsq (aeo c l) 0 c.length=n
 rw[bR,aR]
 have h:=kX n c
 constructor
 ·rintro (h1|h1|h1)
  ·exact .inr (dK h1)
  ·exact .inl h1
  ·exact .inr (gK h1)
 ·rintro (h1|h1)
  ·exact .inr (.inl h1)
  ·rw[←h,bR] at h1
   rcases h1 with h1|h1
   ·exact .inl h1
   ·exact .inr (.inr h1)
theorem awL{c:aag}{l:LnQ}(hl:l.Ne)(hp:afs c l=none){p:PtQ}(h:InD c p):l.value p≠0:=by
 intro h0
 obtain⟨t,rfl⟩:=aw0 hl h0
 exact ak1 l c _ agb hp t (ao0 t) h
theorem ahN{c:aag}{l:LnQ}(hl:l.Ne){v:IvQ}(hp:afs c l=some v):(∃q,InD c q∧0<l.value q)∧ ∃q,InD c q∧l.value q<0:=by
 obtain⟨h1,_,h3⟩:=ahx l c _ v agb hp
 have hd:=((h3 v.sample).1 (abd h1)).2
 have h0:=acw hl v.sample
 have hn:=afU hl
 constructor
 ·obtain⟨e,he,hm⟩:=hd.open l.nor
  refine⟨_,hm e (dQ he) gQ,?_⟩
  rw[abL,h0]
  have:=aap he hn
  grind
 ·obtain⟨e,he,hm⟩:=hd.open ⟨-l.nor.x, -l.nor.y⟩
  refine⟨_,hm e (dQ he) gQ,?_⟩
  rw[abL,h0]
  have:=aap he hn
  simp only[PtQ.dot] at this⊢
  grind
theorem aug{c:aag}{l:LnQ}{v:IvQ}(hc:aaV c)(hl:l.ok)(hp:afs c l=some v):
  aaV (apt (abP l c) l v)∧ ∀p,InD (apt (abP l c) l v) p↔InD c p∧0<l.value p:=by
 obtain⟨⟨q,hq,lq⟩,_⟩:=ahN hl.ne hp
 obtain⟨v1,v2,v3⟩:=ahx l c _ v agb hp
 have hD: ∀p,InD (apt (abP l c) l v) p↔InD c p∧0<l.value p:=by
  intro p
  constructor
  ·intro h
   have lp:0<l.value p:=h ⟨l,v⟩ (acK.2 (.inl rfl))
   refine⟨fun s0 hs0=>?_,lp⟩
   by_cases h0:0<s0.l.value p
   ·exact h0
   ·exfalso
    obtain⟨e,e0,e1,⟨s,ms,ns,zs⟩,hC⟩:=ak3 (p:=p) hq ⟨s0,hs0,by grind⟩
    obtain⟨t,ht⟩:=aw0 (hc.ok s ms).ne zs
    rw[ht] at hC
    obtain⟨p1,p2⟩:=hc.edge s ms
    have hh:=(p2 t).2 hC
    have lr:0<l.value (s.l.at t):=by
     rw[←ht,acG]
     by_cases hB:0≤l.value p-l.value q
     ·have:=aab e0 hB;grind
     ·have:=aab (a:=1-e) (b:= -(l.value p-l.value q)) (by grind) (by grind)
      grind
    have hb:s.l.cutB s.v l=true:=by
     cases hb:s.l.cutB s.v l with
     |true=>rfl
     |false=>have:=avw p1 hb hh;grind
    have:=h ⟨s.l,s.l.cutV s.v l⟩ (acK.2 (.inr (acn.2 ⟨s,ms,hb,rfl⟩)))
    simp only at this
    grind
  ·rintro ⟨h1,h2⟩ s hs
   rcases acK.1 hs with rfl|hs
   ·exact h2
   ·obtain⟨s1,m1,_,rfl⟩:=acn.1 hs
    exact h1 s1 m1
 have hne: ∃p,InD (apt (abP l c) l v) p:=⟨q,(hD q).2 ⟨hq,lq⟩⟩
 have hC: ∀p,InC (apt (abP l c) l v) p↔InC c p∧0≤l.value p:=by
  intro p
  constructor
  ·intro h
   refine⟨fun s hs=>?_,h ⟨l,v⟩ (acK.2 (.inl rfl))⟩
   exact aa1 hne (fun p hp=>((hD p).1 hp).1 s hs) h
  ·rintro ⟨h1,h2⟩ s hs
   rcases acK.1 hs with rfl|hs
   ·exact h2
   ·obtain⟨s1,m1,_,rfl⟩:=acn.1 hs
    exact h1 s1 m1
 refine⟨⟨hne,fun s hs=>?_,fun s hs=>?_⟩,hD⟩
 ·rcases acK.1 hs with rfl|hs
  ·exact hl
  ·obtain⟨s1,m1,_,rfl⟩:=acn.1 hs
   exact hc.ok s1 m1
 ·rcases acK.1 hs with rfl|hs
  ·refine⟨v1,fun t=>?_⟩
   rw[hC]
   simp only
   rw[v2]
   have h0:=acw hl.ne t
   constructor
   ·intro h;exact⟨h.2,by rw[h0];exact gQ⟩
   ·intro h;exact⟨ao0 t,h.1⟩
  ·obtain⟨s1,m1,hb,rfl⟩:=acn.1 hs
   obtain⟨p1,p2⟩:=hc.edge s1 m1
   refine⟨ajS p1 hb,fun t=>?_⟩
   rw[hC]
   simp only
   rw[alU hb,p2]
theorem InD.seg{c:aag}{q p:PtQ}{e:Rat}(hq:InD c q)(hp:InD c p)(h0:0≤e)(h1:e≤1):InD c (abi q p e):=fun s hs=>by
 rw[acG]
 have a:=hq s hs
 have b:=hp s hs
 by_cases he:e=0
 ·subst he;grind
 ·have:=aap (a:=e) (by grind) b
  have:=aab (a:=1-e) (b:=s.l.value q) (by grind) (by grind)
  grind
theorem alV{v:IvQ}{t:Rat}(h:v.ins t):(∃u,u<t∧v.has u)∧ ∃u,t<u∧v.has u:=by
 obtain⟨lo,hi,nl,nh⟩:=v
 unfold IvQ.ins at h
 unfold IvQ.has
 refine⟨⟨if nl=true then t-1 else lo,?_⟩,⟨if nh=true then t+1 else hi,?_⟩⟩<;>cases nl<;>cases nh<;>simp at* <;>grind
theorem ac1{a b c x y z:Nat}(h1:x*b=a*y)(h2:x*c=a*z)(g:Nat.gcd (Nat.gcd a b) c=1):a∣x:=by
 have e:x=Nat.gcd (Nat.gcd (x*a) (x*b)) (x*c):=by
  rw[Nat.gcd_mul_left,Nat.gcd_mul_left,g,iK]
 rw[e]
 exact Nat.dvd_gcd (Nat.dvd_gcd (Nat.dvd_mul_left ..) (h1▸Nat.dvd_mul_right ..)) (h2▸Nat.dvd_mul_right ..)
theorem avL{a b c x y z:Int}(h1:a*y=b*x)(h2:a*z=c*x)(h3:b*z=c*y)
  (g1:Nat.gcd (Nat.gcd a.natAbs b.natAbs) c.natAbs=1)(g2:Nat.gcd (Nat.gcd x.natAbs y.natAbs) z.natAbs=1):
  (a=x∧b=y∧c=z)∨(a= -x∧b= -y∧c= -z):=by
 have n1:a.natAbs*y.natAbs=b.natAbs*x.natAbs:=by rw[←iJ,←iJ,h1]
 have n2:a.natAbs*z.natAbs=c.natAbs*x.natAbs:=by rw[←iJ,←iJ,h2]
 have n3:b.natAbs*z.natAbs=c.natAbs*y.natAbs:=by rw[←iJ,←iJ,h3]
 generalize ha:a.natAbs=A at*
 generalize hb:b.natAbs=B at*
 generalize hc:c.natAbs=C at*
 generalize hx:x.natAbs=X at*
 generalize hy:y.natAbs=Y at*
 generalize hz:z.natAbs=Z at*
 have gB:Nat.gcd (Nat.gcd B A) C=1:=by rw[iM B A];exact g1
 have gC:Nat.gcd (Nat.gcd C A) B=1:=by rw[Nat.gcd_assoc,iM];exact g1
 have gY:Nat.gcd (Nat.gcd Y X) Z=1:=by rw[iM Y X];exact g2
 have gZ:Nat.gcd (Nat.gcd Z X) Y=1:=by rw[Nat.gcd_assoc,iM];exact g2
 have e1:A=X:=Nat.dvd_antisymm (ac1 (x:=X) (y:=Y) (z:=Z) (by grind) (by grind) g1) (ac1 (x:=A) (y:=B) (z:=C) (by grind) (by grind) g2)
 have e2:B=Y:=Nat.dvd_antisymm (ac1 (x:=Y) (y:=X) (z:=Z) (by grind) (by grind) gB) (ac1 (x:=B) (y:=A) (z:=C) (by grind) (by grind) gY)
 have e3:C=Z:=Nat.dvd_antisymm (ac1 (x:=Z) (y:=X) (z:=Y) (by grind) (by grind) gC) (ac1 (x:=C) (y:=A) (z:=B) (by grind) (by grind) gZ)
 have s1:a=x∨a= -x:=by omega
 have s2:b=y∨b= -y:=by omega
 have s3:c=z∨c= -z:=by omega
 clear ha hb hc hx hy hz n1 n2 n3 g1 g2 gB gC gY gZ e1 e2 e3
 have z1:= @sK x y
 have z2:= @sK x z
 have z3:= @sK y z
 rcases s1 with rfl|rfl<;>rcases s2 with rfl|rfl<;>rcases s3 with rfl|rfl<;>grind
theorem afv{l m:LnQ}(hl:l.ok)(hm:m.ok)(h: ∀t,l.value (m.at t)=0):l=m∨l=m.rev:=by
 have h0:=h 0
 have h1:=h 1
 rw[acd] at h0 h1
 have hC:m.cutC l=0:=by grind
 have hK:m.cutK l=0:=by grind
 obtain⟨q,q1,q2⟩:=anY hm.ne
 have hn:=afU hm.ne
 unfold LnQ.cutC at hC
 rw[q2,abD] at hC
 unfold LnQ.cutK at hK
 simp only[LnQ.nor,LnQ.dir,PtQ.dot] at hK q1 hn hC
 obtain⟨a,b,c⟩:=l
 obtain⟨x,y,z⟩:=m
 simp only at*
 have e1:a*y=b*x:=by
  have:((a*y:Int):Rat)=((b*x:Int):Rat):=by rw[cV,cV];grind
  exact nQ.1 this
 have e2:a*z=c*x:=by
  have:((a*z:Int):Rat)=((c*x:Int):Rat):=by rw[cV,cV];grind
  exact nQ.1 this
 have e3:b*z=c*y:=by
  have:((b*z:Int):Rat)=((c*y:Int):Rat):=by rw[cV,cV];grind
  exact nQ.1 this
 rcases avL e1 e2 e3 hl.2 hm.2 with⟨rfl,rfl,rfl⟩|⟨rfl,rfl,rfl⟩
 ·exact .inl rfl
 ·exact .inr rfl
theorem LnQ.ok.rev{l:LnQ}(h:l.ok):l.rev.ok:=by
 obtain⟨h1,h2⟩:=h
 refine⟨?_,?_⟩
 ·simp only[LnQ.rev];omega
 ·simp only[LnQ.rev,iT];exact h2
theorem amU(l:LnQ): ∀c:aag,(∀s∈c,aeC l s≤0∧s.l≠l)→ ¬0<aeq l c
 |[],_=>by simp[aeq]
 |s::c,h=>by
  have h':=dY.1 h
  unfold aeq
  rw[if_neg h'.1.2]
  split
  ·have:=h'.1.1;omega
  ·exact amU l c h'.2
theorem aku{c:aag}{l:LnQ}(hc:aaV c)(hl:l.ok)(hp:afs c l=none):
  (0<aeq l c∧ ∀p,InD c p→0<l.value p)∨(¬0<aeq l c∧ ∀p,InD c p→l.value p<0):=by
 have hoff:=fun p (h:InD c p)=>awL hl.ne hp h
 by_cases hq: ∃q,InD c q∧0<l.value q
 ·left
  obtain⟨q,hq,lq⟩:=hq
  have hall: ∀p,InD c p→0<l.value p:=by
   intro p h
   have:=hoff p h
   by_cases h0:0<l.value p
   ·exact h0
   ·exfalso
    have hn:l.value p<0:=by grind
    have e1:l.value q/(l.value q-l.value p)*(l.value q-l.value p)=l.value q:=by grind
    generalize l.value q/(l.value q-l.value p)=e at*
    have f0:0≤e:=(aaj (k:=l.value q-l.value p) (by grind)).1 (by grind)
    have f1:e≤1:=by
     have:=(aaj (s:=1-e) (k:=l.value q-l.value p) (by grind)).1 (by grind)
     grind
    exact hoff _ (hq.seg h f0 f1) (by rw[acG];grind)
  refine⟨?_,hall⟩
  cases c with
  |nil=>simp[afs,agR] at hp
  |cons s c=>
   obtain⟨p1,p2⟩:=hc.edge s aZ
   have hi:=abd p1
   have hr:=aa1 hc.ne hall ((p2 _).1 hi.has)
   unfold aeq
   by_cases h0:aeC l s=0
   ·rw[if_neg (by simpa using h0)]
    have hz:l.value (s.l.at s.v.sample)=0:=(abT _).1 h0
    have hge: ∀t,s.v.has t→0≤l.value (s.l.at t):=fun t ht=>aa1 hc.ne hall ((p2 t).1 ht)
    obtain⟨⟨u1,m1,n1⟩,⟨u2,m2,n2⟩⟩:=alV hi
    have g1:=hge _ n1
    have g2:=hge _ n2
    rw[acd] at hz g1 g2
    have hK:s.l.cutK l=0:=by
     rcases acX (s.l.cutK l) with h|h|h
     ·exact h
     ·exfalso
      have:=aap (a:=s.v.sample-u1) (b:=s.l.cutK l) (by grind) h
      grind
     ·exfalso
      have:=aap (a:=u2-s.v.sample) (b:= -s.l.cutK l) (by grind) (by grind)
      grind
    have hz2: ∀t,l.value (s.l.at t)=0:=fun t=>by rw[acd,hK];rw[hK] at hz;grind
    rcases afv hl (hc.ok s aZ) hz2 with h|h
    ·rw[if_pos h.symm];decide
    ·exfalso
     have:=hall q hq
     rw[h,aaY] at this
     have:=hq s aZ
     grind
   ·rw[if_pos h0]
    have hz:l.value (s.l.at s.v.sample)≠0:=fun e=>h0 ((abT _).2 e)
    exact(acH _).2 (by grind)
 ·right
  have hall: ∀p,InD c p→l.value p<0:=fun p h=>by
   have:=hoff p h
   have: ¬0<l.value p:=fun h'=>hq ⟨p,h,h'⟩
   grind
  refine⟨amU l c fun s hs=>?_,hall⟩
  obtain⟨p1,p2⟩:=hc.edge s hs
  have hr:=aa1 (m:=l.rev) hc.ne (fun p h=>by rw[aaY];have:=hall p h;grind) ((p2 _).1 (abd p1).has)
  rw[aaY] at hr
  constructor
  ·have: ¬0<aeC l s:=fun h=>by have:=(acH _).1 h;grind
   omega
  ·rintro rfl
   obtain⟨p,hp⟩:=hc.ne
   have:=hall p hp
   have:=hp s hs
   grind
theorem ad8{c:aag}{l:LnQ}(hc:aaV c)(hl:l.ok):abl c l=true↔ ∃p,InD c p∧0<l.value p:=by
 unfold abl
 cases hp:afs c l with
 |some v=>exact⟨fun _=>(ahN hl.ne hp).1,fun _=>rfl⟩
 |none=>
  simp only[ajy,hp,Option.isSome_none,jJ,if_false,decide_eq_true_iff]
  rcases aku hc hl hp with⟨h1,h2⟩|⟨h1,h2⟩
  ·refine⟨fun _=>?_,fun _=>h1⟩
   obtain⟨p,hp⟩:=hc.ne
   exact⟨p,hp,h2 p hp⟩
  ·refine⟨fun h=>absurd h h1,?_⟩
   rintro ⟨p,hp,h⟩
   have:=h2 p hp
   grind
theorem aa8{c:aag}{l:LnQ}(hc:aaV c)(hl:l.ok)(hb:abl c l=true):aaV (aaP c l)∧ ∀p,InD (aaP c l) p↔InD c p∧0<l.value p:=by
 unfold aaP
 cases hp:afs c l with
 |some v=>exact aug hc hl hp
 |none=>
  refine⟨hc,fun p=>?_⟩
  unfold abl at hb
  simp only[hp,ajy,Option.isSome_none,jJ,if_false,decide_eq_true_iff] at hb
  rcases aku hc hl hp with⟨h1,h2⟩|⟨h1,h2⟩
  ·exact⟨fun h=>⟨h,h2 p h⟩,fun h=>h.1⟩
  ·exact absurd hb h1
theorem ap2{c:aag}{l:LnQ}(hl:l.ok){p:PtQ}(hp:InD c p)(h0:l.value p=0):(∃q,InD c q∧0<l.value q)∧ ∃q,InD c q∧l.value q<0:=by
 have hn:=afU hl.ne
 constructor
 ·obtain⟨e,he,hm⟩:=hp.open l.nor
  refine⟨_,hm e (dQ he) gQ,?_⟩
  rw[abL,h0]
  have:=aap he hn
  grind
 ·obtain⟨e,he,hm⟩:=hp.open ⟨-l.nor.x, -l.nor.y⟩
  refine⟨_,hm e (dQ he) gQ,?_⟩
  rw[abL,h0]
  have:=aap he hn
  simp only[PtQ.dot] at this⊢
  grind
inductive aIn (c:aag) (l:LnQ):Prop
 |left (h1:abl c l.rev=false) (h: ∀p,InD c p→0<l.value p)
 |right (h1:abl c l.rev=true) (h2:abl c l=false) (h: ∀p,InD c p→l.value p<0)
 |both (h1:abl c l.rev=true) (h2:abl c l=true) (g1:aaV (aaP c l)) (g2:aaV (aaP c l.rev))
   (e1: ∀p,InD (aaP c l) p↔InD c p∧0<l.value p) (e2: ∀p,InD (aaP c l.rev) p↔InD c p∧l.value p<0)
theorem lies{c:aag}{l:LnQ}(hc:aaV c)(hl:l.ok):aIn c l:=by
 have hr:=ad8 hc hl.rev
 have hi:=ad8 hc hl
 cases h1:abl c l.rev with
 |false=>
  refine .left h1 fun p hp=>?_
  have hn: ¬ ∃q,InD c q∧l.value q<0:=by
   rintro ⟨q,a,b⟩
   have:=hr.2 ⟨q,a,by rw[aaY];grind⟩
   rw[h1] at this;exact absurd this (by decide)
  have n1: ¬l.value p<0:=fun h=>hn ⟨p,hp,h⟩
  have n2:l.value p≠0:=fun h=>hn (ap2 hl hp h).2
  grind
 |true=>
  cases h2:abl c l with
  |false=>
   refine .right h1 h2 fun p hp=>?_
   have hn: ¬ ∃q,InD c q∧0<l.value q:=by
    intro h
    have:=hi.2 h
    rw[h2] at this;exact absurd this (by decide)
   have n1: ¬0<l.value p:=fun h=>hn ⟨p,hp,h⟩
   have n2:l.value p≠0:=fun h=>hn (ap2 hl hp h).1
   grind
  |true=>
   obtain⟨g1,e1⟩:=aa8 hc hl h2
   obtain⟨g2,e2⟩:=aa8 hc hl.rev h1
   refine .both h1 h2 g1 g2 e1 fun p=>?_
   rw[e2,aaY]
   constructor<;>rintro ⟨a,b⟩<;>exact⟨a,by grind⟩
theorem Tr.restrict_A{l:LnQ}{e:aag}(X Y:Tr)(h:abl e l.rev=false):(Tr.node l X Y).restrict e=X.restrict e:=by
 rw[Tr.restrict,h];rfl
theorem Tr.restrict_B{l:LnQ}{e:aag}(X Y:Tr)(h:abl e l.rev=true)(h2:abl e l=false):(Tr.node l X Y).restrict e=Y.restrict e:=by
 rw[Tr.restrict,h,h2];rfl
theorem Tr.restrict_C{l:LnQ}{e:aag}(X Y:Tr)(h:abl e l.rev=true)(h2:abl e l=true):(Tr.node l X Y).restrict e=Tr.joinQ l (X.restrict (aaP e l)) (Y.restrict (aaP e l.rev)):=by
 rw[Tr.restrict,h,h2];rfl
def afg:List LnQ→aag→Option aag
 |[],c=>some c
 |l::t,c=>if abl c l then afg t (aaP c l) else none
theorem akN: ∀{ls:List LnQ} {c e:aag},aaV c→(∀l∈ls,l.ok)→afg ls c=some e→aaV e∧ ∀p,InD e p↔InD c p∧ ∀l∈ls,0<l.value p
 |[],c,e,hc,_,h=>by
  obtain rfl:c=e:=by simpa[afg] using h
  exact⟨hc,fun p=>⟨fun h=>⟨h,fun l hl=>absurd hl (by simp)⟩,fun h=>h.1⟩⟩
 |l::t,c,e,hc,hl,h=>by
  have hl':=dY.1 hl
  rw[afg] at h
  split at h
  ·rename_i hb
   obtain⟨g1,g2⟩:=aa8 hc hl'.1 hb
   obtain⟨k1,k2⟩:=akN g1 hl'.2 h
   refine⟨k1,fun p=>?_⟩
   rw[k2,g2,dY,and_assoc]
  ·exact absurd h (by simp)
theorem akP: ∀{ls:List LnQ} {c:aag},aaV c→(∀l∈ls,l.ok)→(∃p,InD c p∧ ∀l∈ls,0<l.value p)→ ∃e,afg ls c=some e
 |[],c,_,_,_=>⟨c,rfl⟩
 |l::t,c,hc,hl,⟨p,h1,h2⟩=>by
  have hl':=dY.1 hl
  have h2':=dY.1 h2
  have hb:=(ad8 hc hl'.1).2 ⟨p,h1,h2'.1⟩
  obtain⟨g1,g2⟩:=aa8 hc hl'.1 hb
  rw[afg,if_pos hb]
  exact akP g1 hl'.2 ⟨p,(g2 p).2 ⟨h1,h2'.1⟩,h2'.2⟩
theorem amK{c:aag}(hc:aaV c){s:FrQ}(hs:s∈c){m:LnQ}(hm:m.ok)(h: ∀p,InD c p→0<m.value p)(hz:m.value (s.l.at s.v.sample)=0):m=s.l:=by
 obtain⟨p1,p2⟩:=hc.edge s hs
 have hi:=abd p1
 have hge: ∀t,s.v.has t→0≤m.value (s.l.at t):=fun t ht=>aa1 hc.ne h ((p2 t).1 ht)
 obtain⟨⟨u1,m1,n1⟩,⟨u2,m2,n2⟩⟩:=alV hi
 have g1:=hge _ n1
 have g2:=hge _ n2
 rw[acd] at hz g1 g2
 have hK:s.l.cutK m=0:=by
  rcases acX (s.l.cutK m) with h|h|h
  ·exact h
  ·exfalso
   have:=aap (a:=s.v.sample-u1) (b:=s.l.cutK m) (by grind) h
   grind
  ·exfalso
   have:=aap (a:=u2-s.v.sample) (b:= -s.l.cutK m) (by grind) (by grind)
   grind
 have hz2: ∀t,m.value (s.l.at t)=0:=fun t=>by rw[acd,hK];rw[hK] at hz;grind
 rcases afv hm (hc.ok s hs) hz2 with h'|h'
 ·exact h'
 ·exfalso
  obtain⟨q,hq⟩:=hc.ne
  have:=h q hq
  rw[h',aaY] at this
  have:=hq s hs
  grind
def acb(l:LnQ):List LnQ→IvQ→Option IvQ
 |[],v=>some v
 |m::t,v=>if m=l then acb l t v else if l.cutB v m then acb l t (l.cutV v m) else none
def InL(c:List LnQ)(p:PtQ):Prop:= ∀m∈c,0<m.value p
theorem aeF(l:LnQ): ∀(c:List LnQ) (v w:IvQ),v.Pos→acb l c v=some w→
  w.Pos∧(∀t,w.ins t↔v.ins t∧ ∀m∈c,m≠l→0<m.value (l.at t))
 |[],v,w,hv,h=>by
  obtain rfl:v=w:=by simpa[acb] using h
  exact⟨hv,fun t=>⟨fun h=>⟨h,fun s hs=>absurd hs (by simp)⟩,fun h=>h.1⟩⟩
 |m::c,v,w,hv,h=>by
  rw[acb] at h
  split at h
  ·rename_i hm
   obtain⟨h1,h2⟩:=aeF l c _ w hv h
   refine⟨h1,fun t=>?_⟩
   rw[h2,dY]
   exact⟨fun h=>⟨h.1,fun h'=>absurd hm h',h.2⟩,fun h=>⟨h.1,h.2.2⟩⟩
  ·rename_i hm
   split at h
   ·rename_i hb
    obtain⟨h1,h2⟩:=aeF l c _ w (ajS hv hb) h
    refine⟨h1,fun t=>?_⟩
    rw[h2,atv hb,dY,and_assoc]
    exact⟨fun h=>⟨h.1,fun _=>h.2.1,h.2.2⟩,fun h=>⟨h.1,h.2.1 hm,h.2.2⟩⟩
   ·exact absurd h (by simp)
theorem ahU(l:LnQ): ∀(c:List LnQ) (v:IvQ),v.Pos→acb l c v=none→ ∀t,v.has t→ ¬ ∀m∈c,m≠l→0<m.value (l.at t)
 |[],v,hv,h=>by simp[acb] at h
 |m::c,v,hv,h=>by
  intro t ht hd
  have hd':=dY.1 hd
  rw[acb] at h
  split at h
  ·exact ahU l c _ hv h t ht hd'.2
  ·rename_i hm
   split at h
   ·rename_i hb
    exact ahU l c _ (ajS hv hb) h t ((alU hb t).2 ⟨ht,dQ (hd'.1 hm)⟩) hd'.2
   ·rename_i hb
    have:=avw hv (by simpa using hb) ht
    have:=hd'.1 hm
    grind
def ab1(c:List LnQ):Bool:=c.isEmpty||c.any (fun l=>(acb l c IvQ.all).isSome)
theorem ak5: ∀{ls:List LnQ} {c e:aag},afg ls c=some e→ ∀s∈e,s.l∈ls∨ ∃s'∈c,s'.l=s.l
 |[],c,e,h,s,hs=>by
  obtain rfl:c=e:=by simpa[afg] using h
  exact .inr ⟨s,hs,rfl⟩
 |l::t,c,e,h,s,hs=>by
  rw[afg] at h
  split at h
  ·rcases ak5 h s hs with h1|⟨s',h1,h2⟩
   ·exact .inl (aK _ h1)
   ·unfold aaP at h1
    split at h1
    ·rcases acK.1 h1 with rfl|h1
     ·exact .inl (by rw[←h2];exact aZ)
     ·obtain⟨s1,m1,_,rfl⟩:=acn.1 h1
      exact .inr ⟨s1,m1,h2⟩
    ·exact .inr ⟨s',h1,h2⟩
  ·exact absurd h (by simp)
theorem aeY{c:List LnQ}(hok: ∀l∈c,l.ok)(hne: ∃p,InL c p): ∃e,afg c []=some e∧aaV e∧(∀p,InD e p↔InL c p)∧ ∀s∈e,s.l∈c∧(acb s.l c IvQ.all).isSome=true:=by
 obtain⟨p,hp⟩:=hne
 obtain⟨e,he⟩:=akP aaV.nil hok ⟨p,fun s hs=>absurd hs (by simp),hp⟩
 obtain⟨g1,g2⟩:=akN aaV.nil hok he
 have g3: ∀p,InD e p↔InL c p:=fun p=>by
  rw[g2]
  exact⟨fun h=>h.2,fun h=>⟨fun s hs=>absurd hs (by simp),h⟩⟩
 refine⟨e,he,g1,g3,fun s hs=>?_⟩
 have hm:s.l∈c:=by
  rcases ak5 he s hs with h|⟨_,h,_⟩
  ·exact h
  ·exact absurd h (by simp)
 refine⟨hm,?_⟩
 cases hp:acb s.l c IvQ.all with
 |some w=>rfl
 |none=>
  exfalso
  obtain⟨p1,p2⟩:=g1.edge s hs
  have hC:=(p2 s.v.sample).1 (abd p1).has
  refine ahU s.l c _ agb hp s.v.sample (ao0 _) fun m hmc hne=>?_
  have hall: ∀p,InD e p→0<m.value p:=fun p hp=>(g3 p).1 hp m hmc
  have h0:=aa1 g1.ne hall hC
  have h1:m.value (s.l.at s.v.sample)≠0:=fun hz=>hne (amK g1 hs (hok m hmc) hall hz)
  grind
theorem aeG{c:List LnQ}(hok: ∀l∈c,l.ok):ab1 c=true↔ ∃p,InL c p:=by
 unfold ab1
 rw[iQ,List.isEmpty_iff,jV]
 constructor
 ·rintro (rfl|⟨l,hl,h⟩)
  ·exact⟨⟨0,0⟩,fun m hm=>absurd hm (by simp)⟩
  ·obtain⟨w,hw⟩:=qJ.1 h
   obtain⟨w1,w2⟩:=aeF l c _ w agb hw
   have hi:=((w2 w.sample).1 (abd w1)).2
   have h0:=acw (hok l hl).ne w.sample
   have hd:InD ((c.filter (fun m=>decide (m≠l))).map (fun m=>(⟨m,IvQ.all⟩:FrQ))) (l.at w.sample):=by
    intro s hs
    obtain⟨m,hm,rfl⟩:=bK.1 hs
    rw[qT,decide_eq_true_iff] at hm
    exact hi m hm.1 hm.2
   obtain⟨e,he,ho⟩:=hd.open l.nor
   refine⟨adv (l.at w.sample) l.nor e,fun m hm=>?_⟩
   by_cases hml:m=l
   ·subst hml
    rw[abL,h0]
    have:=aap he (afU (hok m hl).ne)
    grind
   ·exact ho e (dQ he) gQ ⟨m,IvQ.all⟩ (bK.2 ⟨m,qT.2 ⟨hm,by simpa using hml⟩,rfl⟩)
 ·intro hne
  obtain⟨e,h1,h2,h3,h4⟩:=aeY hok hne
  cases c with
  |nil=>exact .inl rfl
  |cons l c=>
   right
   cases e with
   |nil=>
    exfalso
    have:=(h3 (l.at 0)).1 (fun s hs=>absurd hs (by simp)) l aZ
    rw[acw (hok l aZ).ne] at this
    exact absurd this (by decide)
   |cons s e=>
    obtain⟨a,b⟩:=h4 s aZ
    exact⟨s.l,a,b⟩
def aeg(out:List LnQ)(l:LnQ):Nat:=(out.takeWhile (fun x=>decide (aa7 x.dir l.dir<0))).length
def acv(out:List LnQ)(l:LnQ):List LnQ:=if out[aeg out l]? =some l then out else out.take (aeg out l)++l::out.drop (aeg out l)
def aed(c:List LnQ):List LnQ→List LnQ→List LnQ
 |[],out=>out
 |l::t,out=>aed c t (if(acb l c IvQ.all).isSome then acv out l else out)
def aaJ(c:List LnQ):List LnQ:=aed c c []
theorem afd{out:List LnQ}{l m:LnQ}:m∈acv out l↔m=l∨m∈out:=by
 unfold acv
 split
 ·rename_i h
  exact⟨fun h=> .inr h,fun h'=>h'.elim (fun e=>e▸aY h) id⟩
 ·generalize aeg out l=n
  have h:=kX n out
  rw[bR,aR]
  constructor
  ·rintro (h1|h1|h1)
   ·exact .inr (dK h1)
   ·exact .inl h1
   ·exact .inr (gK h1)
  ·rintro (h1|h1)
   ·exact .inr (.inl h1)
   ·rw[←h,bR] at h1
    rcases h1 with h1|h1
    ·exact .inl h1
    ·exact .inr (.inr h1)
theorem akG{c:List LnQ}{m:LnQ}: ∀{t out:List LnQ},m∈aed c t out↔m∈out∨m∈t∧(acb m c IvQ.all).isSome=true
 |[],out=>by simp[aed]
 |l::t,out=>by
  rw[aed,akG]
  split
  ·rename_i h
   rw[afd,aR]
   constructor
   ·rintro ((rfl|h1)|⟨h1,h2⟩)
    ·exact .inr ⟨.inl rfl,h⟩
    ·exact .inl h1
    ·exact .inr ⟨.inr h1,h2⟩
   ·rintro (h1|⟨rfl|h1,h2⟩)
    ·exact .inl (.inr h1)
    ·exact .inl (.inl rfl)
    ·exact .inr ⟨h1,h2⟩
  ·rename_i h
   rw[aR]
   constructor
   ·rintro (h1|⟨h1,h2⟩)
    ·exact .inl h1
    ·exact .inr ⟨.inr h1,h2⟩
   ·rintro (h1|⟨rfl|h1,h2⟩)
    ·exact .inl h1
    ·exact absurd h2 h
    ·exact .inr ⟨h1,h2⟩
theorem aa4{c:List LnQ}{m:LnQ}:m∈aaJ c↔m∈c∧(acb m c IvQ.all).isSome=true:=by
 unfold aaJ;rw[akG];simp
theorem afk{c:List LnQ}(hok: ∀l∈c,l.ok)(hne: ∃p,InL c p)(p:PtQ):InL (aaJ c) p↔InL c p:=by
 constructor
 ·intro h
  obtain⟨e,h1,h2,h3,h4⟩:=aeY hok hne
  exact(h3 p).1 fun s hs=>h s.l (aa4.2 (h4 s hs))
 ·intro h m hm;exact h m (aa4.1 hm).1
def ad6(c:List LnQ)(l:LnQ):Int:=if ab1 (c++[l])&&ab1 (c++[l.rev]) then 0 else if ab1 (c++[l]) then 1 else-1
def Tr.restrictL:Tr→List LnQ→Tr
 | .leaf b,_=> .leaf b
 | .node l x y,c=>if ad6 c l=1 then x.restrictL c else if ad6 c l= -1 then y.restrictL c else joinQ l (x.restrictL (aaJ (c++[l]))) (y.restrictL (aaJ (c++[l.rev])))
theorem abE{c:List LnQ}{l:LnQ}{p:PtQ}:InL (c++[l]) p↔InL c p∧0<l.value p:=by
 unfold InL
 rw[rJ]
 simp
theorem abW{c:List LnQ}{l:LnQ}(hok: ∀m∈c,m.ok)(hl:l.ok): ∀m∈c++[l],m.ok:=by
 rw[rJ]
 exact⟨hok,by simpa using hl⟩
theorem Tr.restrictL_eq: ∀(t:Tr) (c:List LnQ) (d:aag),t.all LnQ.ok→(∀l∈c,l.ok)→aaV d→(∀p,InD d p↔InL c p)→t.restrictL c=t.restrict d
 | .leaf b,c,d,_,_,_,_=>rfl
 | .node l x y,c,d,h,hc,hd,he=>by
  obtain⟨hl,hx,hy⟩:=h
  have i1:=aeG (abW hc hl)
  have i2:=aeG (abW hc hl.rev)
  obtain⟨p0,hp0⟩:=hd.ne
  rcases lies hd hl with⟨a1,a⟩|⟨a1,a2,a⟩|⟨a1,a2,ag1,ag2,ae1,ae2⟩
  ·have b1:ab1 (c++[l])=true:=i1.2 ⟨p0,abE.2 ⟨(he p0).1 hp0,a p0 hp0⟩⟩
   have b2:ab1 (c++[l.rev])=false:=by
    rw[←mW,i2]
    rintro ⟨p,hp⟩
    have hp:=abE.1 hp
    have:=a p ((he p).2 hp.1)
    rw[aaY] at hp
    grind
   rw[Tr.restrict_A _ _ a1,Tr.restrictL,ad6,b1,b2]
   exact x.restrictL_eq c d hx hc hd he
  ·have b2:ab1 (c++[l.rev])=true:=i2.2 ⟨p0,abE.2 ⟨(he p0).1 hp0,by rw[aaY];have:=a p0 hp0;grind⟩⟩
   have b1:ab1 (c++[l])=false:=by
    rw[←mW,i1]
    rintro ⟨p,hp⟩
    have hp:=abE.1 hp
    have:=a p ((he p).2 hp.1)
    grind
   rw[Tr.restrict_B _ _ a1 a2,Tr.restrictL,ad6,b1,b2]
   exact y.restrictL_eq c d hy hc hd he
  ·have n1: ∃p,InL (c++[l]) p:=by
    obtain⟨p,hp⟩:=ag1.ne
    exact⟨p,abE.2 ⟨(he p).1 ((ae1 p).1 hp).1,((ae1 p).1 hp).2⟩⟩
   have n2: ∃p,InL (c++[l.rev]) p:=by
    obtain⟨p,hp⟩:=ag2.ne
    exact⟨p,abE.2 ⟨(he p).1 ((ae2 p).1 hp).1,by rw[aaY];have:=((ae2 p).1 hp).2;grind⟩⟩
   rw[Tr.restrict_C _ _ a1 a2,Tr.restrictL,ad6,i1.2 n1,i2.2 n2]
   have k1:=x.restrictL_eq (aaJ (c++[l])) (aaP d l) hx (fun m hm=>abW hc hl m (aa4.1 hm).1) ag1 fun p=>by
    rw[afk (abW hc hl) n1,ae1,abE,he]
   have k2:=y.restrictL_eq (aaJ (c++[l.rev])) (aaP d l.rev) hy (fun m hm=>abW hc hl.rev m (aa4.1 hm).1) ag2 fun p=>by
    rw[afk (abW hc hl.rev) n2,ae2,abE,he,aaY]
    constructor<;>rintro ⟨a,b⟩<;>exact⟨a,by grind⟩
   rw[k1,k2]
   rfl
end Go.Sx
end
section
namespace Go.Sx
open Go Go.Proofs
structure IvV where
 lo:RV
 hi:RV
 nl:Bool
 nh:Bool
def IvV.v(z:IvV):Value:= .agg ⟨[.int .i64 z.lo.n, .int .i64 z.lo.d, .pointer z.lo.p, .int .i64 z.hi.n, .int .i64 z.hi.d, .pointer z.hi.p, .bool z.nl, .bool z.nh]⟩
section
variable {P:Program} {C:Ctx} {n:Nat} {fr:Fr} {own own' own1:List Own} {G:Gh} {Φ:Act→World→Prop}
variable {dst:Option Nat} {t t' ty':TypeId} {pos:String} {af:Array Edge} {gd:Option (Nat×Bool)} {x y:Operand} {e s by_:Nat}
end
structure aH8 (k:Nat) (G:Gh) (z:IvV) (v:IvQ):Prop where
 lo:IsR k G z.lo v.lo
 hi:IsR k G z.hi v.hi
 nl:z.nl=v.nl
 nh:z.nh=v.nh
def orQ:List Int→Int
 |[]=>0
 |x::t=>if x≠0 then x else orQ t
def aIL(l m:LnQ):Int:=orQ [aa9 l.a m.a,aa9 l.b m.b,aa9 l.c m.c]
structure FrV where
 l:LV
 v:IvV
def FrV.val(z:FrV):Value:= .agg ⟨[.int .i64 z.l.a.n, .int .i64 z.l.a.d, .pointer z.l.a.p, .int .i64 z.l.b.n, .int .i64 z.l.b.d, .pointer z.l.b.p, .int .i64 z.l.c.n, .int .i64 z.l.c.d, .pointer z.l.c.p, .int .i64 z.v.lo.n, .int .i64 z.v.lo.d, .pointer z.v.lo.p, .int .i64 z.v.hi.n, .int .i64 z.v.hi.d, .pointer z.v.hi.p, .bool z.v.nl, .bool z.v.nh]⟩
structure aH5 (k:Nat) (G:Gh) (z:FrV) (f:FrQ):Prop where
 l:IsL k G z.l f.l
 v:aH8 (25*k+6) G z.v f.v
inductive awa {α β:Type} (R:α→β→Prop):List α→List β→Prop
 |nil:awa R [] []
 |cons {a b us bs} (h:R a b) (t:awa R us bs):awa R (a::us) (b::bs)
structure IsC (k:Nat) (G:Gh) (x:SV) (c:aag):Prop where
 ex: ∃fs:List FrV,afw G 17 x (fs.map FrV.val)∧awa (aH5 k G) fs c

section
variable {P:Program} {C:Ctx} {n:Nat} {fr:Fr} {own own':List Own} {G:Gh} {Φ:Act→World→Prop}
variable {dst:Option Nat} {t t' ty':TypeId} {pos:String} {af:Array Edge} {gd:Option (Nat×Bool)} {x y:Operand} {e s by_:Nat}
theorem ayl{o1 o2:Own}{rest:List Own}(h:o1.b≠o2.b→St C n fr (o1::o2::rest) G Φ):St C n fr (o1::o2::rest) G Φ:=
 fun a w rl=>h ((cK.1 rl.h.nd).1 _ aZ) a w rl
theorem ad7[hT:ac3 P t e s by_]{k:IntKind}{b off len cap:Nat}{l:Int}(hx:opv fr x=some (.slice (some ⟨b,off,none⟩) len cap))(hy:opv fr y=some (.int k l))(h0:0≤l)(h1:l≤len)(h2:l<cap):
  Yd P C fr own G ⟨dst, .slice t x (some y) none none,ty',pos,af,gd⟩ (.slice (some ⟨b,off+l.toNat*s,none⟩) (len-l.toNat) (cap-l.toNat)):=by
 have h:=af5 (P:=P) (C:=C) (own:=own) (G:=G) (t:=t) (dst:=dst) (ty':=ty') (pos:=pos) (af:=af) (gd:=gd) (by_:=by_) hx hy h0 h1
 unfold aqD at h
 rw[if_neg (by omega)] at h
 simpa[acQ] using h
end

section
variable {P:Program} {C:Ctx} {n:Nat} {fr:Fr} {own own':List Own} {G:Gh} {Φ:Act→World→Prop}
variable {dst:Option Nat} {t t' ty':TypeId} {pos:String} {af:Array Edge} {gd:Option (Nat×Bool)} {x y:Operand} {e s by_:Nat}
end

def IsT(k:Nat)(G:Gh):Tr→Option Addr→Prop
 | .leaf b,p=> ∃n,p=some ⟨n,0,none⟩∧G n=some [.int .i64 0, .int .i64 0, .pointer none, .int .i64 0, .int .i64 0, .pointer none, .int .i64 0, .int .i64 0, .pointer none, .pointer none, .pointer none, .bool b]
 | .node l x y,p=> ∃(n:Nat) (z:LV) (q r:Option Addr),p=some ⟨n,0,none⟩∧G n=some [.int .i64 z.a.n, .int .i64 z.a.d, .pointer z.a.p, .int .i64 z.b.n, .int .i64 z.b.d, .pointer z.b.p, .int .i64 z.c.n, .int .i64 z.c.d, .pointer z.c.p, .pointer q, .pointer r, .bool false]∧IsL k G z l∧IsT k G x q∧IsT k G y r
structure ND where
 a:IV
 b:IV
 c:IV
 l:Int
 r:Int
def ND.val(z:ND):Value:= .agg ⟨[.bool z.a.neg, .slice z.a.a.a z.a.a.n z.a.a.c, .bool z.b.neg, .slice z.b.a.a z.b.a.n z.b.a.c, .bool z.c.neg, .slice z.c.a.a z.c.a.n z.c.a.c, .int .i64 z.l, .int .i64 z.r]⟩
structure aH3 (k:Nat) (G:Gh) (z:ND) (n:NQ):Prop where
 a:IsI k G z.a n.l.a
 b:IsI k G z.b n.l.b
 c:IsI k G z.c n.l.c
 l:z.l=n.a
 r:z.r=n.b
structure aJh (k:Nat) (G:Gh) (x:SV) (ns:List NQ):Prop where
 ex: ∃zs:List ND,afw G 8 x (zs.map ND.val)∧awa (aH3 k G) zs ns
def aId(n i:Nat):List Value:=(List.range n).map fun j=> .bool (decide (j<i))

def aHE(ob wb:Nat):Value:= .func (.func 174) #[] #[.pointer (some ⟨ob,0,none⟩), .pointer (some ⟨wb,0,none⟩)]
structure PtV where
 x:SV
 p:Option Addr
def PtV.val(z:PtV):Value:= .agg ⟨[.slice z.x.a z.x.n z.x.c, .pointer z.p]⟩
structure aHQ (k:Nat) (G:Gh) (z:PtV) (b:Bool×aag):Prop where
 c:IsC k G z.x b.2
 t:IsT k G (.leaf b.1) z.p
structure aJm (k:Nat) (G:Gh) (w:SV) (ps:List (Bool×aag)):Prop where
 ex: ∃zs:List PtV,afw G 2 w (zs.map PtV.val)∧awa (aHQ k G) zs ps
structure LI where
 a:IV
 b:IV
 c:IV
def LI.val(z:LI):Value:= .agg ⟨[.bool z.a.neg, .slice z.a.a.a z.a.a.n z.a.a.c, .bool z.b.neg, .slice z.b.a.a z.b.a.n z.b.a.c, .bool z.c.neg, .slice z.c.a.a z.c.a.n z.c.a.c]⟩
structure aHU (k:Nat) (G:Gh) (z:LI) (l:LnQ):Prop where
 a:IsI k G z.a l.a
 b:IsI k G z.b l.b
 c:IsI k G z.c l.c
structure aHX (k:Nat) (G:Gh) (x:SV) (ls:List LnQ):Prop where
 ex: ∃zs:List LI,afw G 6 x (zs.map LI.val)∧awa (aHU k G) zs ls
structure aH1 (k:Nat) (G:Gh) (x:SV) (ls:List LnQ):Prop where
 ex: ∃zs:List LV,afw G 9 x (zs.map LV.v)∧awa (IsL k G) zs ls
theorem ao1{a b:Int}(h:a=b):eI a=eI b:=by rw[h]
theorem aqy(z:Int):eQ (z:Rat)= .ag [.v (.bool (decide (z<0))),dN z.natAbs, .sl []]:=by unfold eQ;rw[qW,qY];rfl
theorem afy{a:Rat}(h:a.den=1):((a.num:Int):Rat)=a:=Rat.ext (qW _) (by rw[qY,h])
theorem axR{a b:Rat}(ha:a.den=1)(hb:b.den=1):a+b=((a.num+b.num:Int):Rat):=by
 rw[oL,afy ha,afy hb]
theorem aul{a b:Rat}(ha:a.den=1)(hb:b.den=1):a*b=((a.num*b.num:Int):Rat):=by
 rw[cV,afy ha,afy hb]
theorem aky(n:Nat)(h:0<n):(if n=1 then [] else(dg n).map dU).length=0↔n=1:=by
 by_cases q:n=1
 ·simp[q]
 ·rw[if_neg q,aJ,acz];omega
theorem aEC{n:Nat}(h:n≠1):dD n=dN n:=by unfold dD;rw[if_neg h];rfl
theorem alQ{g:Nat}:(ahE g 1=0)↔g=1:=by
 unfold ahE
 constructor
 ·intro h;split at h
  ·exact absurd h (by decide)
  ·split at h
   ·assumption
   ·exact absurd h (by decide)
 ·rintro rfl;rfl
theorem ayF{x:Int}{d:Nat}(hd:0<d):zv (decide (x<0)) (x.natAbs/Nat.gcd x.natAbs d)=(mkRat x d).num:=by
 rw[Rat.num_mkRat,if_neg (by omega),iM]
 have hg:0<Nat.gcd d x.natAbs:=oX _ hd
 obtain⟨c,hc⟩:Nat.gcd d x.natAbs∣x.natAbs:=nJ _ _
 generalize Nat.gcd d x.natAbs=g at*
 rw[hc,Nat.mul_div_cancel_left _ hg]
 unfold zv
 by_cases q:x<0
 ·rw[if_pos (by simpa using q),show x=(g:Int)*(-(c:Int)) by rw[sZ,←iN];omega,Int.mul_ediv_cancel_left _ (by omega)]
 ·rw[if_neg (by simpa using q),show x=(g:Int)*(c:Int) by rw[←iN];omega,Int.mul_ediv_cancel_left _ (by omega)]
theorem azc{x:Int}{d:Nat}(hd:0<d):d/Nat.gcd x.natAbs d=(mkRat x d).den:=by
 rw[Rat.den_mkRat,if_neg (by omega),iM]
theorem aE4{x:Int}{d:Nat}(hd:0<d)(h:Nat.gcd x.natAbs d=1):(mkRat x d).num=x∧(mkRat x d).den=d:=by
 rw[←ayF hd,←azc hd,h,sS,sS]
 exact⟨adG x,rfl⟩
end Go.Sx
end
