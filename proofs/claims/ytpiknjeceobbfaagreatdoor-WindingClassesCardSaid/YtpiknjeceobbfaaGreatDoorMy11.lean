import Derived.Test.YtpiknjeceobbfaaGreatDoorMy10
set_option linter.all false
set_option maxHeartbeats 4000000
set_option maxRecDepth 100000
section
namespace Go.Sx
open Go Go.Proofs Tryz
variable {GB:Gh}
def Sc{h l y:Nat}(hh:h<y)(hl:l<4294967296)(hy:y<4294967296):PF GB prog 183 [.v (.int .u32 (h:Int)), .v (.int .u32 (l:Int)), .v (.int .u32 (y:Int))] (.tp [dU ((h*4294967296+l)/y),dU ((h*4294967296+l)%y)]):=by
 refine fn (fu:=⟨11⟩) func183 J J ntmps183 J J (fun C=>?_);refine kT 10 J (by omega) ?_;refine gx (fu:=⟨4⟩) J<|?_;refine kF 14 J (by omega) ?_;refine gx (fu:=⟨11⟩) (hv:=by simp only[ah];exact⟨by omega,(by decide)⟩) J<|?_;refine aj 19 (.d (.v (.int .u64 (h*2^32:Nat)))) J (by show FX.d (.v (.int _ _))= .d (.v (.int _ _));rw[qg _ 32 (by decide) (by show _*4294967296<_;omega) J]) ?_;refine gx (fu:=⟨3⟩) J<|?_;refine aj 22 (.d (.v (.int .u64 (l+h*2^32:Nat)))) J (congrArg (fun z:Nat=>FX.d (.v (.int .u64 (z:Int)))) (by rw[BitVec.or_comm];exact vi 64 l h 32 hl (by show _+_*4294967296<18446744073709551616;omega))) ?_;obtain⟨t,ht⟩: ∃t,t=h*4294967296+l:=⟨_,rfl⟩;have hq:t/y<4294967296:=by rw[jS (by omega)];have:=fV 4294967296 (show h+1<=y from hh);omega
 have hr:t%y<y:=cL _ (by omega);refine aj 22 (.d (.v (.int .u64 (t:Nat)))) J (by show FX.d (.v (.int _ _))= .d (.v (.int _ _));congr 3;rw[ht];omega) ?_;refine gx (hv:=by simp only[ah];exact⟨⟨⟨⟨by omega,⟨(by omega),(by omega),(by omega)⟩⟩,by omega⟩,⟨(by omega),(by omega)⟩⟩,by kernel_rfl⟩) J<|?_;exact rz J (by show DV.tp [.v (.int _ _), .v (.int _ _)]= .tp [.v (.int _ _), .v (.int _ _)];rw[<-ht,<-pK,<-nR];generalize t/y=q at*;generalize t%y=r at*;congr 4<;>(first|omega|(congr 3;omega)))
def QS{A r i b:Nat}(d:Nat)(hb:0<b):(A*4294967296+d)/b=A/b*4294967296+(A%b*4294967296+d)/b/\(A*4294967296+d)%b=(A%b*4294967296+d)%b:=by
 have h:=pN A b;have e:A*4294967296+d=(A%b*4294967296+d)+b*(A/b*4294967296):=by
  rw[<-cZ,Nat.add_right_comm,<-dZ,lL (A%b),h]
 rw[e,lY _ _ hb,mW];exact⟨lL _ _,J⟩
def PQ{ds:List Nat}{i:Nat}(h:i<ds.length):dv (ds.drop i)=dv (ds.drop (i+1))*4294967296+ds.getD i 0:=by
 rw[bL h,aX,aZ h];simp only[dv,gK];omega
def Lx{W:List Nat}{i q:Nat}(h:i<W.length):dv ((W.set i q).drop i)=dv (W.drop (i+1))*4294967296+q:=by
 rw[PQ (by rw[aT];exact h),pW (by omega),I4 h]
def RE{a b k:Nat}{W:List Nat}(hb:0<b)(hk:k<(dg a).length)(hl:W.length=(dg a).length)(h:dv (W.drop (k+1))=dv ((dg a).drop (k+1))/b):
  dv ((W.set k ((dv ((dg a).drop (k+1))%b*4294967296+(dg a).getD k 0)/b)).drop k)=dv ((dg a).drop k)/b/\dv ((dg a).drop k)%b=(dv ((dg a).drop (k+1))%b*4294967296+(dg a).getD k 0)%b:=by
 have:=QS (A:=dv ((dg a).drop (k+1))) (r:=0) (i:=0) ((dg a).getD k 0) hb;rw[Lx (by omega),h,PQ hk,this.1,this.2];exact⟨J,J⟩
def vQ{a b:Nat}:fC a b<0↔a<b:=by unfold fC;split<;>(try split)<;>omega
def zf{a b:Nat}:0<fC a b↔b<a:=by unfold fC;split<;>(try split)<;>omega
def VU{x:Nat}(hx:x<4294967296):PF GB prog 214 [dU x] (vI (32-(bl x:Int))):=by
 intro G vs hg hv;obtain⟨v,m,rfl,h1,h2⟩:=b7.1 hv;rw[cH] at h2;subst h2;rw[bi.1 h1];exact(Hg hx).mono fun v G' _ h=>bi.2 h
def Jh{a k:Nat}(h:4294967296^k<=a):k<(dg a).length:=by
 have h1:=tk a;rcases gT k (dg a).length with q|q
 ·exact q
 ·have:4294967296^(dg a).length<=4294967296^k:=bK (by decide) q
  omega
def Pa{v L:Nat}(hL:L=(dg v).length)(h1:1<=L):(dg v).getD (L-1) 0=v/4294967296^(L-1)/\0<v/4294967296^(L-1):=by
 have h:=EB (jz v) (L-1);rw[tg (by omega:(dg v).length<=L-1+1),bP,oN,eX] at h;have h2:=tk v;rw[<-hL] at h2;rw[iM (show v<4294967296^(L-1+2) from dV h2 (bK (by decide) (by omega))),oN,eX] at h;have h3:=p6 (d8 v).2.2 (by intro e;rw[e] at hL;simp at hL;omega);rw[bP,<-hL] at h3;exact⟨h.symm,Nat.div_pos h3 (fQ (by decide))⟩
def H1{R n:Nat}(h1:1<=n)(h:R<4294967296^(n+1)):R/4294967296^(n-1)=(dg R).getD (n-1) 0+(dg R).getD n 0*4294967296:=by
 have e:=EB (jz R) (n-1);rw[bP,show n-1+1=n by omega,iM (show R<4294967296^(n-1+2) by rwa [show n-1+2=n+1 by omega]),oN,eX,bM] at e;exact e
def auS{R v j L:Nat}(hL:L=(dg v).length)(h1:1<=L)(hR:R<v*4294967296^(j+1)):R/(v*4294967296^j)<=min (R/4294967296^(L+j-1)/(v/4294967296^(L-1))) 4294967295:=by
 have ht:=(Pa hL h1).2;have hp:0<4294967296^j:=fQ (by decide);have hv0:0<v:=by
  rcases dS v with q|q
  ·subst q;simp at ht
  ·exact q
 have hvp:0<v*4294967296^j:=gN hv0 hp;refine Nat.le_min.2 ⟨?_,?_⟩
 ·rw[rX ht,rX (fQ (by decide))]
  have h3:v/4294967296^(L-1)*4294967296^(L-1)<=v:=Nat.div_mul_le_self _ _;have h4:R/(v*4294967296^j)*(v*4294967296^j)<=R:=Nat.div_mul_le_self _ _;rw[show L+j-1=L-1+j by omega,fJ]
  calc R/(v*4294967296^j)*(v/4294967296^(L-1))*(4294967296^(L-1)*4294967296^j)
    =R/(v*4294967296^j)*((v/4294967296^(L-1)*4294967296^(L-1))*4294967296^j):=by simp only[cZ]
   _<=R/(v*4294967296^j)*(v*4294967296^j):=fV _ (bS _ h3)
   _<=R:=h4
 ·have:R/(v*4294967296^j)<4294967296:=by
   rw[jS hvp];rw[fT] at hR;rwa [bM,cZ]
  omega
def BC{R V g:Nat}(hV:0<V)(h:R<V*g):R/V<g:=by
 rw[jS hV,bM];exact h
def Rd{R V g:Nat}(hV:0<V)(h1:R/V<=g)(h2:V*g<=R):g=R/V:=by
 have:g<=R/V:=by rw[rX hV,bM];exact h2
 omega
def JO{R0 R v j g:Nat}{W:List Nat}(hj:j<W.length)(h:R0=R+dv (W.drop (j+1))*4294967296^(j+1)*v)(hv:0<v*4294967296^j)(hg:g=R/(v*4294967296^j)):
  R0=(R-v*4294967296^j*g)+dv ((W.set j g).drop j)*4294967296^j*v/\R-v*4294967296^j*g<v*4294967296^j:=by
 have h1:=pN R (v*4294967296^j);have h2:=cL R hv;rw[<-hg] at h1;refine⟨?_,by omega⟩;rw[Lx hj,dZ,dZ,h,fT];have e:g*4294967296^j*v=v*4294967296^j*g:=by simp only[cZ,kY,bM]
 have e2:dv (W.drop (j+1))*(4294967296^j*4294967296)*v=dv (W.drop (j+1))*4294967296*4294967296^j*v:=by simp only[cZ,kY,bM]
 rw[e,e2];omega
def Uf{a b s R:Nat}{D:Nat}(hR:R<b*2^s)(h:a*2^s=R+D*(b*2^s)):D=a/b/\R/2^s=a%b:=by
 have hp:0<2^s:=fQ (by decide);have hb:0<b:=by
  rcases dS b with q|q
  ·subst q;simp at hR
  ·exact q
 have h1:a=R/2^s+D*b:=by
  have:=congrArg (· /2^s) h;rw[Nat.mul_div_cancel _ hp,<-cZ,Nat.add_mul_div_right _ _ hp] at this;exact this
 have h2:R/2^s<b:=by rw[jS hp];exact hR
 have h3:R/2^s+b*D=a:=by rw[bM b];exact h1.symm
 have:=(Nat.div_mod_unique hb).2 ⟨h3,h2⟩;exact⟨this.1.symm,this.2.symm⟩
def aqi{a b s:Nat}(hl:(dg b).length<=(dg a).length)(h2:1<=(dg b).length):a*2^s<b*2^s*4294967296^((dg a).length-(dg b).length+1):=by
 have h1:=tk a;have h3:=p6 (d8 b).2.2 (by intro e;rw[e] at h2;simp at h2);rw[bP] at h3;have h4:4294967296^(dg a).length<=b*4294967296^((dg a).length-(dg b).length+1):=by
  rw[show(dg a).length=((dg b).length-1)+((dg a).length-(dg b).length+1) by omega,fJ];rw[show(dg b).length-1+((dg a).length-(dg b).length+1)-(dg b).length+1=(dg a).length-(dg b).length+1 by omega];exact bS _ h3
 rw[qJ];exact kK (dV h1 h4) (fQ (by decide))
def IB(x j:Nat):x*2^(32*j)=x*4294967296^j:=by rw[oR]
def SS{R L j:Nat}(h:R<4294967296^(L+j+1))(h1:1<=L):R/4294967296^(L+j-1)<18446744073709551616:=by
 rw[jS (fQ (by decide)),show(18446744073709551616:Nat)=4294967296^2 from J,<-fJ];rwa [show 2+(L+j-1)=L+j+1 by omega]
def Yh{R v j L:Nat}(hL:L=(dg v).length)(hR:R<v*4294967296^(j+1)):R<4294967296^(L+j+1):=by
 have h:=tk v;rw[<-hL] at h;rw[kV,fJ];exact dV hR (bS _ (nN h))
def aBd{a b ia ib:Nat}[ha:BN a ia][hb:BN b ib](hi:ia<=500000000)(hj:ib<=500000000)(h2:1<=(dg b).length)(hl:(dg b).length<=(dg a).length):PF GB prog 184 [dN a,dN b] (.tp [dN (a/b),dN (a%b)]):=by
 have hla:=eB (dg a);have hlb:=eB (dg b);have hba:=k8 ha.h;have hba':(dg a).length<=20000000:=by omega
 refine fn func184 J J ntmps184 J J (fun C=>?_);refine ix _ J (fB (k:=(dg b).length-1) (by omega) (by omega)) J<|cl (fu:=⟨0⟩) J (VU (f5 b ((dg b).length-1))) J<|?_;obtain⟨s,hs⟩: ∃s:Nat,s=32-bl ((dg b).getD ((dg b).length-1) 0):=⟨_,rfl⟩;have hs32:s<=32:=by omega
 refine aj 22 (.d (vI (s:Nat))) J (by show FX.d (.v (.int _ _))= .d (.v (.int _ _));congr 3;have:=mD.2 (show(dg b).getD ((dg b).length-1) 0<2^32 from f5 b _);omega) ?_;refine gx J<|cl J (Ap (a:=b) (k:=s) (ia:=ib) (by omega) (by omega)) J<|cl (fu:=⟨0⟩) J (Ap (a:=a) (k:=s) (ia:=ia) (by omega) (by omega)) J<|?_;obtain⟨v,hv⟩: ∃v,v=b*2^s:=⟨_,rfl⟩;obtain⟨R0,hR0⟩: ∃R0,R0=a*2^s:=⟨_,rfl⟩;refine aj 25 (.d (dN v)) J (by rw[hv]) ?_;refine aj 28 (.d (dN R0)) J (by rw[hR0]) ?_;obtain⟨L,hL⟩: ∃L,L=(dg v).length:=⟨_,rfl⟩;have hlv:((dg v).map dU).length=L:=by rw[eB,hL]
 have hps:2^s<=2^32:=bK (by decide) hs32;have hpp:0<2^s:=fQ (by decide);have hst:=aqi (a:=a) (b:=b) (s:=s) hl h2;rw[<-hv,<-hR0] at hst;have hvb:v<2^(ib+32):=by rw[hv,fJ];exact mK hb.h hps (by decide)
 have hRb:R0<2^(ia+32):=by rw[hR0,fJ];exact mK ha.h hps (by decide)
 have hbp:0<b:=fL (fun q=>by subst q;rw[xj] at h2;simp at h2);have hvp:0<v:=hv▸gN hbp hpp;have hLp:1<=L:=by rw[hL];exact Jh (k:=0) (by rw[qS];exact hvp)
 have htop:=Pa hL hLp;haveI hvB:BN v (ib+32):=⟨hvb⟩;have hLb:=k8 hvb;have hLb':L<=20000000:=by omega
 have htl:=f5 v (L-1);refine gx (fu:=⟨9⟩) J<|?_;refine aj 31 (.d (vI (L:Nat))) J (by rw[hlv];rfl) ?_;refine gx J<|ix (fu:=⟨2⟩) _ J (fB (k:=L-1) (by omega) (by omega)) J<|?_;refine aj 35 (.d (.v (.int .u64 (v/4294967296^(L-1):Nat)))) J (by rw[htop.1]) ?_;rw[htop.1] at htl;refine gx (fu:=⟨11⟩) J<|?_;obtain⟨m,hm⟩: ∃m,m=(dg a).length-(dg b).length+1:=⟨_,rfl⟩;rw[<-hm] at hst;have hrl:(List.replicate ((m:Nat):Int).toNat (DV.v (.int .u32 0))).length=m:=by rw[aW,bW]
 refine aj 41 (.d (vI (m:Nat))) J (by show FX.d (.v (.int _ _))= .d (.v (.int _ _));congr 3;omega) ?_;refine gx J<|mk ((List.replicate m 0).map dU) J J (by rw[<-uT];rfl) J<|?_;refine lp (X:=List Nat×Nat×Nat) (fun⟨W,R,k⟩=>[(6, .d (vI (s:Nat))),(7, .d (dN v)),(8, .d (dN R)),(9, .d (.v (.int .u64 (v/4294967296^(L-1):Nat)))),(10, .rw 42),(11, .d (vI ((k:Nat)-1)))]) (fun⟨W,R,k⟩=>[(42,some (.b 206 1 (W.map dU) true))]) (fun⟨W,R,k⟩=>W.length=m/\bg W/\k<=m/\R0=R+dv (W.drop k)*4294967296^k*v/\R<v*4294967296^k/\R<=R0) (fun⟨W,R,k⟩=>k) ⟨List.replicate m 0,R0,m⟩ J ⟨by simp, .replicate _,aN _,by simp[dv],hst,aN _⟩ (fun _=>J) (fun⟨W,R,k⟩ hk=>?_);dsimp only at hk⊢;obtain⟨h1,h2',h3,h4,h5,h6⟩:=hk;have hlw:=eB W;refine br (fu1:=⟨10⟩) J J J (fun hc47=>?_) (fun hc47=>?_)
 .
  obtain⟨j,rfl⟩: ∃j,k=j+1:=⟨k-1,by omega⟩;have hvj:0<v*4294967296^j:=gN hvp (fQ (by decide));have hge:=auS hL hLp h5;have hlen:=Yh hL h5;have hlr:((dg R).map dU).length=(dg R).length:=eB _;haveI hRB:BN R (ia+32):=⟨by omega⟩;have hq32:R/(v*4294967296^j)<4294967296:=by omega
  have hz1:=Int.natCast_nonneg (R/4294967296^(L+j-1));have hz2:=Int.natCast_nonneg (R/4294967296^(L+j-1)/(v/4294967296^(L-1)));refine aj 11 (.d (vI (j:Nat))) J (by show FX.d (.v (.int _ _))= .d (.v (.int _ _));congr 3;omega) ?_;refine mg (fu:=⟨6⟩) (hv:=fun _ _=>by simp only[ah];exact⟨(by omega),(by have:=SS hlen hLp;omega),(by omega)⟩) (X:=Unit) (fun _=>[(6, .d (vI (s:Nat))),(7, .d (dN v)),(8, .d (dN R)),(9, .d (.v (.int .u64 (v/4294967296^(L-1):Nat)))),(10, .rw 42),(11, .d (vI (j:Nat))),(12, .d (.v (.int .u64 (R/4294967296^(L+j-1):Nat))))]) (fun _=>[(42,some (.b 206 1 (W.map dU) true))]) (fun _=>True) [6,7,8,9,10,11,12] [42] rfl ?_ (fun _=>J) (fun _ hm=>?_)
  .
   refine gx (fu:=⟨4⟩) J<|?_;refine aj 51 (.d (vI (L:Nat))) J (by rw[hlv];rfl) ?_;refine gx (fu:=⟨2⟩) J<|?_;refine aj 53 (.d (vI (L+j:Nat))) J (by show FX.d (.v (.int _ _))= .d (.v (.int _ _));congr 3) ?_;refine gx (fu:=⟨8⟩) J<|?_;refine aj 56 (.d (vI ((dg R).length:Nat))) J (by rw[hlr];rfl) ?_;refine gx J<|?_;refine br (fu2:=⟨6⟩) J J J (fun hc57=>?_) (fun hc57=>?_)
   .
    have hd0:=f5 R (L+j-1);have hd1:=f5 R (L+j);refine ix (hv:=by simp only[ah];exact⟨⟨by omega,(by decide)⟩,by omega⟩) _ J (fB (k:=L+j) (by omega) (by omega)) J<|ix (fu:=⟨3⟩) _ J (fB (k:=L+j-1) (by omega) (by omega)) J<|?_;refine aj 70 (.d (.v (.int .u64 ((dg R).getD (L+j-1) 0+(dg R).getD (L+j) 0*4294967296:Nat)))) J (congrArg (fun z:Nat=>FX.d (.v (.int .u64 (z:Int)))) (by rw[qg _ 32 (by decide) (by show _*4294967296<_;omega) J,BitVec.or_comm];exact vi 64 ((dg R).getD (L+j-1) 0) ((dg R).getD (L+j) 0) 32 hd0 (by show _+_*4294967296<18446744073709551616;omega))) ?_;refine gx J<|?_;refine aj 12 (.d (.v (.int .u64 (R/4294967296^(L+j-1):Nat)))) J (by rw[H1 (by omega) hlen]) ?_;exact at_ () trivial
   .
    refine aj 74 (.d (vI ((dg R).length:Nat))) J (by rw[hlr];rfl) ?_;refine gx J<|?_;refine br J J J (fun hc75=>?_) (fun hc75=>?_)
    .
     have hd0:=f5 R (L+j-1);refine ix _ J (fB (k:=L+j-1) (by omega) (by omega)) J<|?_;refine aj 12 (.d (.v (.int .u64 (R/4294967296^(L+j-1):Nat)))) J (by rw[H1 (by omega) hlen,tg (by omega:(dg R).length<=L+j),lK,eX]) ?_;exact at_ () trivial
    .
     refine aj 12 (.d (.v (.int .u64 (R/4294967296^(L+j-1):Nat)))) J (by rw[H1 (by omega) hlen,tg (by omega:(dg R).length<=L+j),tg (by omega:(dg R).length<=L+j-1)];rfl) ?_;exact at_ () trivial
  .
   obtain⟨g0,hg0'⟩: ∃g0,g0=min (R/4294967296^(L+j-1)/(v/4294967296^(L-1))) 4294967295:=⟨_,rfl⟩;rw[<-hg0'] at hge;have hg0:=hge;have hg1:g0<=4294967295:=by omega
   refine aj 85 (.d (.v (.int .u64 (g0:Nat)))) J (by show FX.d (.v (.int _ _))= .d (.v (.int _ _));congr 3;rw[<-pK];split<;>omega) ?_;refine gx J<|cl J (q8 (u:=g0) (by omega)) J<|cl (fu:=⟨2⟩) J (pw (ia:=ib+32) (ib:=32) (hb:=⟨by show _<4294967296;omega⟩) (by omega) (by decide)) J<|?_;refine aj 91 (.d (vI (32*j:Nat))) J (by show FX.d (.v (.int _ _))= .d (.v (.int _ _));congr 3) ?_;refine gx J<|cl (fu:=⟨0⟩) J (Ap (k:=32*j) (ia:=ib+64) (ha:=⟨by rw[show ib+64=ib+32+32 by omega,fJ];exact mZ hvb (by show _<4294967296;omega)⟩) (by omega) (by omega)) J<|?_;refine aj 92 (.d (dN (v*4294967296^j*g0))) J (by rw[IB,qJ]) ?_;refine gx J<|?_;refine lp (X:=Nat) (fun g=>[(6, .d (vI (s:Nat))),(7, .d (dN v)),(8, .d (dN R)),(9, .d (.v (.int .u64 (v/4294967296^(L-1):Nat)))),(10, .rw 42),(11, .d (vI (j:Nat))),(14, .d (.v (.int .u64 (g:Nat)))),(15, .d (dN (v*4294967296^j*g)))]) (fun g=>[(42,some (.b 206 1 (W.map dU) true))]) (fun g=>R/(v*4294967296^j)<=g/\g<=4294967295) (fun g=>g) g0 J ⟨hg0,by omega⟩ (fun _=>J) (fun g hk=>?_);obtain⟨g1,g2⟩:=hk;have hlw:=eB W;refine cl J (w6 (a:=v*4294967296^j*g) (b:=R) (by have:=CG (a:=v*4294967296^j*g) (k:=L+j+1) (by have h1:=tk v;rw[<-hL] at h1;rw[fT,fJ];exact mZ (kK h1 (fQ (by decide))) (by omega));omega) (by have:=CG hlen;omega)) J<|?_;refine br (fu1:=⟨7⟩) (v1:=fun hc96=>by simp only[ah];exact(by have h:=BC hvj (zf.1 hc96);have h1:1<=g:=dL (bN _) h;omega)) (fu2:=⟨11⟩) J J J (fun hc96=>?_) (fun hc96=>?_)
   .
    have hgd:=BC hvj (zf.1 hc96);have hg1p:1<=g:=dL (bN _) hgd;refine aj 98 (.d (.v (.int .u64 ((g-1:Nat):Int)))) J (by show FX.d (.v (.int _ _))= .d (.v (.int _ _));congr 3;omega) ?_;refine gx J<|cl J (q8 (u:=g-1) (by omega)) J<|cl (fu:=⟨2⟩) J (pw (ia:=ib+32) (ib:=32) (hb:=⟨by show _<4294967296;omega⟩) (by omega) (by decide)) J<|?_;refine aj 104 (.d (vI (32*j:Nat))) J (by show FX.d (.v (.int _ _))= .d (.v (.int _ _));congr 3) ?_;refine gx J<|cl (fu:=⟨0⟩) J (Ap (k:=32*j) (ia:=ib+64) (ha:=⟨by rw[show ib+64=ib+32+32 by omega,fJ];exact mZ hvb (by show _<4294967296;omega)⟩) (by omega) (by omega)) J<|?_;refine aj 105 (.d (dN (v*4294967296^j*(g-1)))) J (by rw[IB,qJ]) ?_;refine gx J<|?_;exact at_ (g-1) ⟨⟨by have h:=BC hvj (zf.1 hc96);omega,by omega⟩,(by have:=BC hvj (zf.1 hc96);omega)⟩
   .
    have hgq:=Rd hvj g1 (rK fun q=>hc96 (zf.2 q));refine aj 109 (.d (dU g)) J (by show FX.d (.v (.int _ _))= .d (.v (.int _ _));congr 3;omega) ?_;refine gx J<|sb _ ((W.set j (R/(v*4294967296^j))).map dU) J (fB (k:=j) (by omega) (by omega)) J (by(rw[<-hgq,bW,<-sF])<;>rfl) J<|?_;refine cl (fu:=⟨0⟩) J (Hs (a:=R) (b:=v*4294967296^j*g) (ia:=ia+32) (by rw[hgq];exact Nat.mul_div_le _ _) (by omega)) J<|?_;refine aj 113 (.d (dN (R-v*4294967296^j*(R/(v*4294967296^j))))) J (by rw[hgq]) ?_;refine gx J<|?_;exact at_ ⟨W.set j (R/(v*4294967296^j)),R-v*4294967296^j*(R/(v*4294967296^j)),j⟩ (by dsimp only;exact⟨⟨by simpa using h1,h2'.set _ (by omega),by omega,(JO (by omega) h4 hvj J).1,(JO (by omega) h4 hvj J).2,by omega⟩,(by omega)⟩)
 .
  obtain rfl:k=0:=by omega
  rw[qS,kZ] at h5;rw[qS,kZ,iT,hR0,hv] at h4;rw[hv] at h5;have hend:=Uf h5 h4;haveI hRB:BN R (ia+32):=⟨by omega⟩;refine fz 42 J J<|cl J (qf (ds:=W) (by omega)) J<|cl J (TL (a:=R) (k:=s) (ia:=ia+32) (by omega) (by omega)) J<|?_;exact rz J (by show DV.tp [eG _,dN _]= .tp [dN _,dN _];rw[rD h2' hend.1,hend.2])
def QB{a b:Nat}(h:b<=a):(dg b).length<=(dg a).length:=CG (dL h (tk a))
def r8{a b ia ib:Nat}[ha:BN a ia][hb:BN b ib](hb0:0<b)(hi:ia<=500000000:=by decide)(hj:ib<=500000000:=by decide):PF GB prog 133 [dN a,dN b] (.tp [dN (a/b),dN (a%b)]):=by
 have hla:=eB (dg a);have hlb:=eB (dg b);have hba:=k8 ha.h;have hbb:=k8 hb.h;have hba':(dg a).length<=20000000:=by omega
 have hbb':(dg b).length<=20000000:=by omega
 have hlb1:1<=(dg b).length:=Jh (k:=0) (by rw[qS];exact hb0);refine fn (fu:=⟨7⟩) func133 J J ntmps133 J J (fun C=>?_);refine mg (X:=Unit) (fun _=>[(0, .d (dN a)),(1, .d (dN b))]) (fun _=>[]) (fun _=>True) [0,1] [] rfl ?_ (fun _=>J) (fun _ hm=>?_)
 .
  refine gx J<|cl J (AX (a:=a) (ia:=ia) (by omega)) J<|?_;refine bd (fu1:=⟨0⟩) J J J (fun hc18=>?_) (fun hc18=>?_)
  .
   refine aj 6 (.d (.v (.int .u64 (a:Nat)))) J (by rw[if_pos hc18]) ?_;refine gx J<|cl J (AX (a:=b) (ia:=ib) (by omega)) J<|?_;refine bd (fu1:=⟨0⟩) J J J (fun hc24=>?_) (fun hc24=>?_)
   .
    refine aj 8 (.d (.v (.int .u64 (b:Nat)))) J (by rw[if_pos hc24]) ?_;have hdl:=iR a b;have hml:=Nat.mod_le a b;refine gx (hv:=by simp only[ah];exact⟨(by omega),(by omega),(by omega)⟩) J<|cl (hv:=by simp only[ah];exact⟨(by omega),(by omega)⟩) J (q8 (u:=a/b) (by omega)) J<|cl J (q8 (u:=a%b) (by omega)) J<|?_;exact rz J J
   .
    exact at_ () trivial
  .
   exact at_ () trivial
 .
  refine cl J (w6 (by omega) (by omega)) J<|?_;refine br J J J (fun hc36=>?_) (fun hc36=>?_)
  .
   have hab:=vQ.1 hc36;refine An J J<|ap _ J J (tH _) J<|?_;refine mf 39 J ?_;exact rz J (by show DV.tp [_, .sl ([]++_)]= .tp [_,_];rw[iM hab,dT hab,Ft];rfl)
  .
   have hab:b<=a:=rK fun q=>hc36 (vQ.2 q);have hlab:(dg b).length<=(dg a).length:=QB hab;refine br (fu1:=⟨4⟩) J J J (fun hc42=>?_) (fun hc42=>?_)
   .
    have hb1:b<4294967296:=by have:=tk b;rw[show(dg b).length=1 by omega] at this;omega
    have hbd:(dg b).getD 0 0=b:=wq (by omega);refine aj 44 (.d (vI ((dg a).length:Nat))) J (by rw[hla];rfl) ?_;refine gx J<|mk (fu:=⟨13⟩) ((List.replicate (dg a).length 0).map dU) J J (by rw[<-uT];rfl) J<|?_;refine aj 47 (.d (vI ((dg a).length:Nat))) J (by rw[hla];rfl) ?_;refine gx J<|?_;refine lp (X:=List Nat×Nat) (fun⟨W,k⟩=>[(0, .d (dN a)),(1, .d (dN b)),(10, .rw 45),(11, .d (dU (dv ((dg a).drop k)%b))),(12, .d (vI ((k:Nat)-1)))]) (fun⟨W,k⟩=>[(45,some (.b 206 1 (W.map dU) true))]) (fun⟨W,k⟩=>W.length=(dg a).length/\bg W/\k<=(dg a).length/\dv (W.drop k)=dv ((dg a).drop k)/b) (fun⟨W,k⟩=>k) ⟨List.replicate (dg a).length 0,(dg a).length⟩ J ⟨by simp, .replicate _,aN _,by simp[dv]⟩ (fun _=>J) (fun⟨W,k⟩ hk=>?_) (hF:=(by refine⟨J,J,J,oe J (by simp[dv,dU]),oe J (by simp[vI]),?_⟩;repeat (first|exact trivial|refine And.intro J ?_)))
    try dsimp only at hk⊢
    obtain⟨h1,h2,h3,h4⟩:=hk;have hlw:=eB W;refine br (fu1:=⟨0⟩) J J J (fun hc50=>?_) (fun hc50=>?_)
    .
     obtain⟨k,rfl⟩: ∃j,k=j+1:=⟨k-1,by omega⟩;have hsi:=RE hb0 (by omega) h1 h4;have hrm:=cL (dv ((dg a).drop (k+1))) hb0;have hdk:=f5 a k;have hqd:(dv ((dg a).drop (k+1))%b*4294967296+(dg a).getD k 0)/b<4294967296:=by rw[jS hb0];have:=fV 4294967296 (show dv ((dg a).drop (k+1))%b+1<=b from hrm);omega
     refine aj 12 (.d (vI (k:Nat))) J (by show FX.d (.v (.int _ _))= .d (.v (.int _ _));congr 3;omega) ?_;refine gx J<|ix _ J (fB (k:=k) (by omega) (by omega)) J<|ix _ J (fB (k:=0) J (by omega)) J<|cl J (Sc (h:=dv ((dg a).drop (k+1))%b) (l:=(dg a).getD k 0) (y:=(dg b).getD 0 0) (by omega) hdk (by omega)) J<|?_;refine sb (hv:=by simp only[ah];exact⟨by kernel_rfl,by omega⟩) _ ((W.set k ((dv ((dg a).drop (k+1))%b*4294967296+(dg a).getD k 0)/b)).map dU) J (fB (k:=k) (by omega) (by omega)) J (by(rw[hbd,bW,<-sF])<;>rfl) J<|?_;exact at_ ⟨W.set k ((dv ((dg a).drop (k+1))%b*4294967296+(dg a).getD k 0)/b),k⟩ (by dsimp only;exact⟨⟨by simpa using h1,h2.set _ hqd,by omega,hsi.1⟩,(by omega)⟩) (by refine⟨J,J,J,oe J (by rw[hsi.2,hbd]),oe J (by first|(simp[vI];done)|(simp[vI];omega)),?_⟩;repeat (first|exact trivial|refine And.intro J ?_))
    .
     refine fz 45 J J<|cl J (qf (ds:=W) (by omega)) J<|rf J J<|cl J (qf (ds:=[dv ((dg a).drop k)%b]) (by simp)) J<|?_;exact rz rfl (by show DV.tp [eG _,eG _]= .tp [_,_];obtain rfl:k=0:=(by omega);rw[iT,iT,bP] at h4;rw[iT,bP];rw[rD h2 h4,rD (.cons (by have:=cL a hb0;omega) .nil) (n:=a%b) (by simp[dv])])
   .
    refine cl J (aBd (by omega) (by omega) hlb1 hlab) J<|?_;exact rz J J
def Or(x y:Nat):Nat.gcd y (x%y)=Nat.gcd x y:=by rw[iZ x y,sT y x,iZ]
def C9{a b ia ib:Nat}[ha:BN a ia][hb:BN b ib](hi:ia<=240000000:=by decide)(hj:ib<=240000000:=by decide):PF GB prog 130 [dN a,dN b] (dN (Nat.gcd a b)):=by
 refine fn (fu:=⟨6⟩) func130 J J ntmps130 J J (fun C=>?_);refine mg (X:=Unit) (fun _=>[(0, .d (dN a)),(1, .d (dN b))]) (fun _=>[]) (fun _=>True) [0,1] [] rfl ?_ (fun _=>J) (fun _ hm=>?_)
 .
  refine gx J<|cl J (AX (a:=a) (ia:=ia) (by omega)) J<|?_;refine bd (fu1:=⟨0⟩) J J J (fun hc16=>?_) (fun hc16=>?_)
  .
   refine aj 5 (.d (.v (.int .u64 (a:Nat)))) J (by rw[if_pos hc16]) ?_;refine gx J<|cl J (AX (a:=b) (ia:=ib) (by omega)) J<|?_;refine bd (fu1:=⟨0⟩) J J J (fun hc22=>?_) (fun hc22=>?_)
   .
    refine aj 7 (.d (.v (.int .u64 (b:Nat)))) J (by rw[if_pos hc22]) ?_;refine gx J<|?_;refine lp (X:=Nat×Nat) (fun⟨x,y⟩=>[(5, .d (.v (.int .u64 (x:Nat)))),(7, .d (.v (.int .u64 (y:Nat))))]) (fun⟨x,y⟩=>[]) (fun⟨x,y⟩=>x<18446744073709551616/\y<18446744073709551616/\Nat.gcd x y=Nat.gcd a b) (fun⟨x,y⟩=>y) ⟨a,b⟩ J ⟨hc16,hc22,J⟩ (fun _=>J) (fun⟨x,y⟩ hk=>?_)
    try dsimp only at hk⊢
    obtain⟨h1,h2,h3⟩:=hk;refine br (v1:=fun hc24=>by simp only[ah];exact⟨⟨(by omega),(by omega)⟩,by kernel_rfl⟩) J J J (fun hc24=>?_) (fun hc24=>?_)
    .
     exact at_ ⟨y,x%y⟩ (by dsimp only;exact⟨⟨h2,by have:=cL x (show 0<y by omega);omega,by rw[Or,h3]⟩,(by exact cL _ (by omega))⟩)
    .
     refine cl J (q8 (u:=x) h1) J<|?_;exact rz J (by show dN x=_;rw[<-h3,show y=0 by omega,mJ])
   .
    exact at_ () trivial
  .
   exact at_ () trivial
 .
  refine lp (fu:=⟨5⟩) (X:=Nat×Nat) (fun⟨x,y⟩=>[(0, .d (dN x)),(1, .d (dN y))]) (fun⟨x,y⟩=>[]) (fun⟨x,y⟩=>x<2^(ia+ib)/\y<2^(ia+ib)/\Nat.gcd x y=Nat.gcd a b) (fun⟨x,y⟩=>y) ⟨a,b⟩ J ⟨(ha.mono (by omega)).h,(hb.mono (by omega)).h,J⟩ (fun _=>J) (fun⟨x,y⟩ hk=>?_)
  try dsimp only at hk⊢
  obtain⟨h1,h2,h3⟩:=hk;have hly:=eB (dg y);haveI hx':BN x (ia+ib):=⟨h1⟩;haveI hy':BN y (ia+ib):=⟨h2⟩;refine aj 32 (.d (vI ((dg y).length:Nat))) J (by rw[hly];rfl) ?_;refine gx J<|?_;refine br J J J (fun hc33=>?_) (fun hc33=>?_)
  .
   have hy0:0<y:=fL fun q=>by subst q;rw[xj] at hc33;simp at hc33
   refine cl J (r8 (a:=x) (b:=y) (ia:=ia+ib) (ib:=ia+ib) hy0 (by omega) (by omega)) J<|?_;exact at_ ⟨y,x%y⟩ (by dsimp only;exact⟨⟨h2,by have:=cL x hy0;omega,by rw[Or,h3]⟩,(by exact cL _ hy0)⟩)
  .
   have hy0:y=0:=tO.1 (by omega);have hlx:=k8 h1;have hmx:=eB (dg x);refine An J J<|ap _ J J (tH _) J<|?_;refine mf 44 J ?_;exact rz J (by show DV.sl ([]++_)=_;rw[<-h3,hy0,mJ];rfl)
def Jd(neg:Bool)(m:Nat):eI (zv neg m)= .ag [.v (.bool (neg&&decide (0<m))),dN m]:=by unfold eI;rw[my,M7]
def YA(z:Int):zv (!decide (z<0)) z.natAbs= -z:=by
 unfold zv;by_cases h:z<0<;>simp[h]<;>omega
def Ug(a b:Int):zv (!(decide (a<0)==decide (b<0))) (a.natAbs*b.natAbs)=a*b:=by
 have h:=P0 (decide (a<0)) (decide (b<0)) a.natAbs b.natAbs;rw[lj,lj] at h;exact h
def gP{neg:Bool}{m:Nat}:PF GB prog 125 [.v (.bool neg),dN m] (eI (zv neg m)):=by
 have hl:=eB (dg m);have hz:= @tO m;refine fn func125 J J ntmps125 J J (fun C=>?_);refine kA 6 J J J (fun hg6=>?_) (fun hg6=>?_)
 .
  exact rz J (by rw[Jd,hg6];show DV.ag [.v (.bool _),_]= .ag [.v (.bool _),_];congr 4;rw[pS];exact decide_eq_decide.2 (by omega))
 .
  exact rz J (by rw[Jd,hg6];rfl)
end Go.Sx
end
section
namespace Go.Sx
open Go
instance:DecidableEq ab:=fun x y=>decidable_of_iff (x.a=y.a/\x.b=y.b/\x.c=y.c) (by
 cases x;cases y;simp)
structure aA where
 lo:Rat
 hi:Rat
 nl:Bool
 nh:Bool
def aA.all:aA:=⟨0,0,true,true⟩
def aA.empty(v:aA):Bool:=!v.nl&&(!v.nh&&decide (0<=bE v.lo v.hi))
def aA.meet(v w:aA):aA:=
 ⟨if v.nl then w.lo else if w.nl then v.lo else if v.lo<w.lo then w.lo else v.lo,
  if v.nh then w.hi else if w.nh then v.hi else if w.hi<v.hi then w.hi else v.hi,v.nl&&w.nl,v.nh&&w.nh⟩
def aA.sample(v:aA):Rat:=if v.nl&&v.nh then 0 else if v.nl then v.hi-1 else if v.nh then v.lo+1 else(v.lo+v.hi)*mkRat 1 2
def ab.cutK(l m:ab):Rat:=m.nor.dot l.dir
def ab.cutC(l m:ab):Rat:=m.value l.base
def ab.cutV(l:ab)(v:aA)(m:ab):aA:=
 if Int.sign (l.cutK m).num=0 then v
 else if Int.sign (l.cutK m).num=1 then v.meet ⟨-(l.cutC m/l.cutK m),0,false,true⟩
 else v.meet ⟨0, -(l.cutC m/l.cutK m),true,false⟩
def ab.cutB(l:ab)(v:aA)(m:ab):Bool:=
 if Int.sign (l.cutK m).num=0 then decide (0<Int.sign (l.cutC m).num) else !(l.cutV v m).empty
structure aH where
 l:ab
 v:aA
abbrev bw:=List aH
def ru(l:ab):bw->aA->Option aA
 |[],v=>some v
 |s::t,v=>if l.cutB v s.l then ru l t (l.cutV v s.l) else none
def p8(c:bw)(l:ab):Option aA:=ru l c aA.all
def xi(l:ab)(s:aH):Int:=Int.sign (l.value (s.l.at s.v.sample)).num
def se(l:ab):bw->Int
 |[]=> -1
 |s::t=>if xi l s≠0 then xi l s else if s.l=l then 1 else se l t
def GS(c:bw)(l:ab):Int:=if(p8 c l).isSome then 0 else se l c
def aa.half(p:aa):Int:=
 if 0<Int.sign p.y.num\/(Int.sign p.y.num=0/\0<Int.sign p.x.num) then 1 else if Int.sign p.y.num<0\/Int.sign p.x.num<0 then 2 else 0
def ce(u v:aa):Int:=if u.half<v.half then-1 else if v.half<u.half then 1 else-(Int.sign (u.cross v).num)
def o9(l:ab):bw->bw
 |[]=>[]
 |s::t=>if s.l.cutB s.v l then⟨s.l,s.l.cutV s.v l⟩::o9 l t else o9 l t
def zk(p:Nat->Bool)(i j:Nat):Nat:=
 if h:i<j then(if p ((i+j)/2) then zk p ((i+j)/2+1) j else zk p i ((i+j)/2)) else i
termination_by j-i
def GV(c:bw)(l:ab)(i:Nat):Bool:=match c[i]? with
 |some s=>decide (ce s.l.dir l.dir<0)
 |none=>false
def tq(c:bw)(l:ab)(v:aA):bw:=
 c.take (zk (GV c l) 0 c.length)++⟨l,v⟩::c.drop (zk (GV c l) 0 c.length)
def gj(c:bw)(l:ab):bw:=match p8 c l with
 |some v=>tq (o9 l c) l v
 |none=>c
def fi(c:bw)(l:ab):Bool:=match p8 c l with
 |some _=>true
 |none=>decide (0<GS c l)
inductive Tr where
 |leaf (b:Bool)
 |node (l:ab) (x y:Tr)
def Tr.isLeaf:Tr->Bool
 | .leaf _=>true
 | .node .. =>false
def Tr.code:Tr->Bool
 | .leaf b=>b
 | .node .. =>false
def Tr.depth:Tr->Nat
 | .leaf _=>0
 | .node _ x y=>1+max x.depth y.depth
def Tr.size:Tr->Nat
 | .leaf _=>0
 | .node _ x y=>1+x.size+y.size
def Tr.joinQ(l:ab)(x y:Tr):Tr:=if x.isLeaf&&(y.isLeaf&&(x.code==y.code)) then x else .node l x y
def Tr.restrict:Tr->bw->Tr
 | .leaf b,_=> .leaf b
 | .node l x y,c=>if !fi c l.rev then x.restrict c else if !fi c l then y.restrict c else joinQ l (x.restrict (gj c l)) (y.restrict (gj c l.rev))
def Tr.parts:Tr->bw->List (Bool×bw)
 | .leaf b,c=>[(b,c)]
 | .node l x y,c=>(if fi c l then x.parts (gj c l) else [])++(if fi c l.rev then y.parts (gj c l.rev) else [])
def Tr.all(p:ab->Prop):Tr->Prop
 | .leaf _=>True
 | .node l x y=>p l/\x.all p/\y.all p
def Tr.good:Tr->Prop
 | .leaf _=>True
 | .node _ x y=> ¬(x.isLeaf=true/\y.isLeaf=true/\x.code=y.code)/\x.good/\y.good
structure NQ where
 l:ab
 a:Int
 b:Int
def Aq(b:Bool):Int:=if b then-2 else-1
def Tr.num:Tr->Nat->Int
 | .leaf b,_=>Aq b
 | .node ..,n=>n
def Tr.wr:Tr->Nat->List NQ
 | .leaf _,_=>[]
 | .node l x y,n=>⟨l,x.num (n+1),y.num (n+1+x.size)⟩::x.wr (n+1)++y.wr (n+1+x.size)
def Tr.joinQ_cases(l:ab)(x y:Tr):(Tr.joinQ l x y=x/\x.isLeaf=true)\/(Tr.joinQ l x y= .node l x y/\ ¬(x.isLeaf=true/\y.isLeaf=true/\x.code=y.code)):=by
 unfold Tr.joinQ;split
 ·rename_i h
  simp at h;exact .inl ⟨J,h.1⟩
 ·rename_i h
  simp at h;exact .inr ⟨J,fun⟨a,b,c⟩=>h a b c⟩
def Tr.restrict_all(p:ab->Prop): ∀(t:Tr) (c:bw),t.all p->(t.restrict c).all p
 | .leaf b,c,_=>trivial
 | .node l x y,c,h=>by
  obtain⟨h0,h1,h2⟩:=h;unfold Tr.restrict;split
  ·exact x.restrict_all p c h1
  ·split
   ·exact y.restrict_all p c h2
   ·rcases Tr.joinQ_cases l (x.restrict (gj c l)) (y.restrict (gj c l.rev)) with⟨h,_⟩|⟨h,_⟩
    ·rw[h];exact x.restrict_all p _ h1
    ·rw[h];exact⟨h0,x.restrict_all p _ h1,y.restrict_all p _ h2⟩
def lG(l:ab)(p:aa):l.value p=(l.a:Rat)*p.x+(l.b:Rat)*p.y+(l.c:Rat):=rfl
def nA(l:ab)(p:aa):l.rev.value p= -l.value p:=by
 rw[lG,lG];have h1:((l.rev.a:Int):Rat)= -(l.a:Rat):=(HU l.a).symm;have h2:((l.rev.b:Int):Rat)= -(l.b:Rat):=(HU l.b).symm;have h3:((l.rev.c:Int):Rat)= -(l.c:Rat):=(HU l.c).symm;rw[h1,h2,h3];grind
def aC(q p:aa)(e:Rat):aa:=⟨q.x+e*(p.x-q.x),q.y+e*(p.y-q.y)⟩
def mp(l:ab)(q p:aa)(e:Rat):l.value (aC q p e)=l.value q+e*(l.value p-l.value q):=by
 simp only[lG,aC];grind
def aD(q u:aa)(e:Rat):aa:=⟨q.x+e*u.x,q.y+e*u.y⟩
def gA(l:ab)(q u:aa)(e:Rat):l.value (aD q u e)=l.value q+e*l.nor.dot u:=by
 simp only[lG,aD,ab.nor,aa.dot];grind
def bt{a b:Rat}(ha:0<a)(hb:0<b):0<a*b:=Rat.mul_pos ha hb
def bG{a b:Rat}(ha:0<=a)(hb:0<=b):0<=a*b:=nS ha hb
def qm(a:Rat):0<=a*a:=by
 by_cases h:0<=a
 ·exact bG h h
 ·have:=bG (a:= -a) (b:= -a) (by grind) (by grind)
  grind
def fk{s k:Rat}(hk:0<k):0<s*k↔0<s:=by
 constructor
 ·intro h
  by_cases hs:0<s
  ·exact hs
  ·have:=bG (a:= -s) (b:=k) (by grind) (by grind)
   grind
 ·intro h;exact bt h hk
def jD{s k:Rat}(hk:0<k):0<=s*k↔0<=s:=by
 constructor
 ·intro h
  by_cases hs:0<=s
  ·exact hs
  ·have:=bt (a:= -s) (b:=k) (by grind) hk
   grind
 ·intro h;exact bG h (by grind)
def OW{A B u v:Rat}(h0:0<=A)(h1:0<=A+v*B)(hu:0<=u)(huv:u<=v):0<=A+u*B:=by
 by_cases hB:0<=B
 ·have:=bG hu hB;grind
 ·have:=bG (a:=v-u) (b:= -B) (by grind) (by grind)
  grind
def ab.Ne(l:ab):Prop:= ¬(l.a=0/\l.b=0)
def ab.ok.ne{l:ab}(h:l.ok):l.Ne:=h.1
def r4{l:ab}(h:l.Ne):0<l.nor.dot l.nor:=by
 show 0<(l.a:Rat)*l.a+(l.b:Rat)*l.b;have h1:=qm (l.a:Rat);have h2:=qm (l.b:Rat);by_cases ha:l.a=0
 ·have hb:l.b≠0:=fun hb=>h ⟨ha,hb⟩
  have hb':(l.b:Rat)≠0:=fun e=>hb (jK.1 e);have:(l.b:Rat)*l.b≠0:=by grind
  grind
 ·have ha':(l.a:Rat)≠0:=fun e=>ha (jK.1 e)
  have:(l.a:Rat)*l.a≠0:=by grind
  grind
def ym{l:ab}(h:l.Ne): ∃q:Rat,l.nor.dot l.nor*q= -(l.c:Rat)/\l.base=⟨(l.a:Rat)*q,(l.b:Rat)*q⟩:=by
 refine⟨-(l.c:Rat)/l.nor.dot l.nor,?_,J⟩;have:=r4 h;grind
def ow(l m:ab)(t:Rat):m.value (l.at t)=l.cutC m+t*l.cutK m:=by
 simp only[ab.cutC,ab.cutK,lG,ab.at,aa.add,aa.scale,ab.dir,ab.nor,aa.dot];grind
def qI{l:ab}(h:l.Ne)(t:Rat):l.value (l.at t)=0:=by
 obtain⟨q,h1,h2⟩:=ym h;simp only[lG,ab.at,h2,aa.add,aa.scale,ab.dir];simp only[ab.nor,aa.dot] at h1;grind
def B4{l:ab}(h:l.Ne){p:aa}(hp:l.value p=0): ∃t,p=l.at t:=by
 obtain⟨q,h1,h2⟩:=ym h;have hn:=r4 h;obtain⟨x,y⟩:=p;rw[lG] at hp;simp only[ab.nor,aa.dot] at h1 hn;refine⟨((l.b:Rat)*x-(l.a:Rat)*y)/((l.a:Rat)*l.a+(l.b:Rat)*l.b),?_⟩;generalize ht:((l.b:Rat)*x-(l.a:Rat)*y)/((l.a:Rat)*l.a+(l.b:Rat)*l.b)=t;have ht':((l.a:Rat)*l.a+(l.b:Rat)*l.b)*t=(l.b:Rat)*x-(l.a:Rat)*y:=by grind
 simp only[ab.at,h2,aa.add,aa.scale,ab.dir,aa.mk.injEq];generalize (l.a:Rat)=a at*;generalize (l.b:Rat)=b at*;generalize (l.c:Rat)=c at*;have e1:(a*a+b*b)*(x-(a*q+b*t))=0:=by grind
 have e2:(a*a+b*b)*(y-(b*q+ -a*t))=0:=by grind
 constructor<;>grind
def aA.has(v:aA)(t:Rat):Prop:=(v.nl=true\/v.lo<=t)/\(v.nh=true\/t<=v.hi)
def aA.ins(v:aA)(t:Rat):Prop:=(v.nl=true\/v.lo<t)/\(v.nh=true\/t<v.hi)
def aA.Pos(v:aA):Prop:=v.nl=true\/v.nh=true\/v.lo<v.hi
def No(a b:Rat):0<=bE a b↔b<=a:=by
 unfold bE;split
 ·constructor
  ·intro h;exact absurd h (by decide)
  ·intro h;grind
 ·split
  ·constructor
   ·intro _;grind
   ·intro _;decide
  ·constructor
   ·intro _;grind
   ·intro _;decide
def Og(v:aA):v.empty=false↔v.Pos:=by
 obtain⟨lo,hi,nl,nh⟩:=v;unfold aA.empty aA.Pos
 cases nl<;>cases nh<;>simp[No]
 first|exact Rat.not_le|grind
def aA.ins.has{v:aA}{t:Rat}(h:v.ins t):v.has t:=by
 obtain⟨h1,h2⟩:=h;exact⟨h1.imp id (fun h=>cS h),h2.imp id (fun h=>cS h)⟩
def Qn:mkRat 1 2=(1:Rat)/2:=by rw[mX];rfl
def wc{v:aA}(h:v.Pos):v.ins v.sample:=by
 obtain⟨lo,hi,nl,nh⟩:=v;unfold aA.Pos at h;unfold aA.ins aA.sample;rw[Qn]
 cases nl<;>cases nh<;>simp at* <;>grind
def MQ(v w:aA)(t:Rat):(v.meet w).has t↔v.has t/\w.has t:=by
 obtain⟨lo,hi,nl,nh⟩:=v;obtain⟨lo',hi',nl',nh'⟩:=w;unfold aA.has aA.meet
 cases nl<;>cases nh<;>cases nl'<;>cases nh'<;>simp<;>grind
def OO(v w:aA)(t:Rat):(v.meet w).ins t↔v.ins t/\w.ins t:=by
 obtain⟨lo,hi,nl,nh⟩:=v;obtain⟨lo',hi',nl',nh'⟩:=w;unfold aA.ins aA.meet
 cases nl<;>cases nh<;>cases nl'<;>cases nh'<;>simp<;>grind
def F3(t:Rat):aA.all.has t:=⟨.inl J, .inl J⟩
def Yl(t:Rat):aA.all.ins t:=⟨.inl J, .inl J⟩
def vx:aA.all.Pos:= .inl J
def fD(k:Rat):Int.sign k.num=0↔k=0:=by rw[iY,jM]
def F4(k:Rat):0<k.num↔0<k:=by
 have h1:0<=k.num↔0<=k:=Rat.num_nonneg;have h2:k.num=0↔k=0:=jM;constructor
 ·intro h
  have a:=h1.1 (by omega);have b:k≠0:=fun e=>by have:=h2.2 e;omega
  grind
 ·intro h
  have a:=h1.2 (by grind);have b:k.num≠0:=fun e=>by have:=h2.1 e;grind
  omega
def ij(k:Rat):Int.sign k.num=1↔0<k:=by rw[Int.sign_eq_one_iff_pos,F4]
def jg(k:Rat):0<Int.sign k.num↔0<k:=by
 rw[<-ij];rcases lU k.num 0 with h|h|h
 ·rw[fX h];decide
 ·rw[h];decide
 ·rw[fK h];decide
def lw(k:Rat):Int.sign k.num<0↔k<0:=by
 have h1:=fD k;have h2:=jg k;constructor
 ·intro h
  by_cases hk:0<k
  ·have:=h2.2 hk;omega
  ·by_cases h0:k=0
   ·have:=h1.2 h0;omega
   ·grind
 ·intro h
  have a1: ¬Int.sign k.num=0:=fun e=>by have:=h1.1 e;grind
  have a2: ¬0<Int.sign k.num:=fun e=>by have:=h2.1 e;grind
  omega
def CO{l m:ab}(v:aA)(hk:l.cutK m=0):l.cutV v m=v/\(l.cutB v m=true↔0<l.cutC m):=by
 have h:=(fD (l.cutK m)).2 hk;unfold ab.cutV ab.cutB;rw[if_pos h,if_pos h,decide_eq_true_iff,jg];exact⟨J,Iff.rfl⟩
def AP{l m:ab}(v:aA)(hk:0<l.cutK m):l.cutV v m=v.meet ⟨-(l.cutC m/l.cutK m),0,false,true⟩/\(l.cutB v m=true↔(l.cutV v m).Pos):=by
 have h0: ¬Int.sign (l.cutK m).num=0:=fun e=>by have:=(fD _).1 e;grind
 have h1:=(ij (l.cutK m)).2 hk;constructor
 ·unfold ab.cutV;rw[if_neg h0,if_pos h1]
 ·unfold ab.cutB;rw[if_neg h0,<-Og];simp
def C7{l m:ab}(v:aA)(hk:l.cutK m<0):l.cutV v m=v.meet ⟨0, -(l.cutC m/l.cutK m),true,false⟩/\(l.cutB v m=true↔(l.cutV v m).Pos):=by
 have h0: ¬Int.sign (l.cutK m).num=0:=fun e=>by have:=(fD _).1 e;grind
 have h1: ¬Int.sign (l.cutK m).num=1:=fun e=>by have:=(ij _).1 e;grind
 constructor
 ·unfold ab.cutV;rw[if_neg h0,if_neg h1]
 ·unfold ab.cutB;rw[if_neg h0,<-Og];simp
def Z9{C K t:Rat}(hk:0<K): -(C/K)<=t↔0<=C+t*K:=by
 have e:C=C/K*K:=by grind
 generalize C/K=d at*;rw[e,show d*K+t*K=(d+t)*K from by grind,jD hk];grind
def Ld{C K t:Rat}(hk:0<K): -(C/K)<t↔0<C+t*K:=by
 have e:C=C/K*K:=by grind
 generalize C/K=d at*;rw[e,show d*K+t*K=(d+t)*K from by grind,fk hk];grind
def Rz{C K t:Rat}(hk:K<0):t<= -(C/K)↔0<=C+t*K:=by
 have e:C=C/K*K:=by grind
 generalize C/K=d at*;rw[e,show d*K+t*K=(-(d+t))*(-K) from by grind,jD (by grind)];grind
def IX{C K t:Rat}(hk:K<0):t< -(C/K)↔0<C+t*K:=by
 have e:C=C/K*K:=by grind
 generalize C/K=d at*;rw[e,show d*K+t*K=(-(d+t))*(-K) from by grind,fk (by grind)];grind
def di(k:Rat):k=0\/0<k\/k<0:=by grind
def AD{l m:ab}{v:aA}(hb:l.cutB v m=true)(t:Rat):(l.cutV v m).has t↔v.has t/\0<=m.value (l.at t):=by
 rw[ow];rcases di (l.cutK m) with hk|hk|hk
 ·obtain⟨h1,h2⟩:=CO v hk
  rw[h1,hk];have:=h2.1 hb;constructor
  ·intro h;exact⟨h,by grind⟩
  ·exact fun h=>h.1
 ·rw[(AP v hk).1,MQ,<-Z9 hk]
  simp[aA.has]
 ·rw[(C7 v hk).1,MQ,<-Rz hk]
  simp[aA.has]
def Ij{l m:ab}{v:aA}(hb:l.cutB v m=true)(t:Rat):(l.cutV v m).ins t↔v.ins t/\0<m.value (l.at t):=by
 rw[ow];rcases di (l.cutK m) with hk|hk|hk
 ·obtain⟨h1,h2⟩:=CO v hk
  rw[h1,hk];have:=h2.1 hb;constructor
  ·intro h;exact⟨h,by grind⟩
  ·exact fun h=>h.1
 ·rw[(AP v hk).1,OO,<-Ld hk]
  simp[aA.ins]
 ·rw[(C7 v hk).1,OO,<-IX hk]
  simp[aA.ins]
def zh{l m:ab}{v:aA}(hv:v.Pos)(hb:l.cutB v m=true):(l.cutV v m).Pos:=by
 rcases di (l.cutK m) with hk|hk|hk
 ·rw[(CO v hk).1];exact hv
 ·exact(AP v hk).2.1 hb
 ·exact(C7 v hk).2.1 hb
def ES{l m:ab}{v:aA}(hv:v.Pos)(hb:l.cutB v m=false){t:Rat}(ht:v.has t):m.value (l.at t)<=0:=by
 rw[ow];have hb': ¬l.cutB v m=true:=by rw[hb];decide
 rcases di (l.cutK m) with hk|hk|hk
 ·have h2:=(CO v hk).2
  have: ¬0<l.cutC m:=fun h=>hb' (h2.2 h);rw[hk];grind
 ·obtain⟨h1,h2⟩:=AP v hk
  have hn: ¬(l.cutV v m).Pos:=fun h=>hb' (h2.2 h);rw[h1] at hn;have h3:=Ld (C:=l.cutC m) (t:=t) hk
  suffices¬(-(l.cutC m/l.cutK m)<t) by grind
  generalize-(l.cutC m/l.cutK m)=d at*;obtain⟨lo,hi,nl,nh⟩:=v;unfold aA.Pos aA.meet at hn;unfold aA.Pos at hv;unfold aA.has at ht
  cases nl<;>cases nh<;>simp at* <;>grind
 ·obtain⟨h1,h2⟩:=C7 v hk
  have hn: ¬(l.cutV v m).Pos:=fun h=>hb' (h2.2 h);rw[h1] at hn;have h3:=IX (C:=l.cutC m) (t:=t) hk
  suffices¬(t< -(l.cutC m/l.cutK m)) by grind
  generalize-(l.cutC m/l.cutK m)=d at*;obtain⟨lo,hi,nl,nh⟩:=v;unfold aA.Pos aA.meet at hn;unfold aA.Pos at hv;unfold aA.has at ht
  cases nl<;>cases nh<;>simp at* <;>grind
def cg(c:bw)(p:aa):Prop:= ∀s∈c,0<s.l.value p
def u7(c:bw)(p:aa):Prop:= ∀s∈c,0<=s.l.value p
def DL(l:ab): ∀(c:bw) (v w:aA),v.Pos->ru l c v=some w->
  w.Pos/\(∀t,w.has t↔v.has t/\u7 c (l.at t))/\(∀t,w.ins t↔v.ins t/\cg c (l.at t))
 |[],v,w,hv,h=>by
  obtain rfl:v=w:=by simpa[ru] using h
  exact⟨hv,fun t=>⟨fun h=>⟨h,fun s hs=>absurd hs (by simp)⟩,fun h=>h.1⟩,fun t=>⟨fun h=>⟨h,fun s hs=>absurd hs (by simp)⟩,fun h=>h.1⟩⟩
 |s::c,v,w,hv,h=>by
  rw[ru] at h;split at h
  ·rename_i hb
   obtain⟨h1,h2,h3⟩:=DL l c _ w (zh hv hb) h;refine⟨h1,fun t=>?_,fun t=>?_⟩
   ·rw[h2,AD hb]
    simp only[u7,dK];exact and_assoc
   ·rw[h3,Ij hb]
    simp only[cg,dK];exact and_assoc
  ·exact absurd h (by simp)
def Nf(l:ab): ∀(c:bw) (v:aA),v.Pos->ru l c v=none-> ∀t,v.has t-> ¬cg c (l.at t)
 |[],v,hv,h=>by simp[ru] at h
 |s::c,v,hv,h=>by
  intro t ht hd;have hd':=dK.1 hd;rw[ru] at h;split at h
  ·rename_i hb
   exact Nf l c _ (zh hv hb) h t ((AD hb t).2 ⟨ht,cS hd'.1⟩) hd'.2
  ·rename_i hb
   have:=ES hv (by simpa using hb) ht;have:=hd'.1;grind
def cg.open: ∀{c:bw} {q:aa} (u:aa),cg c q-> ∃e:Rat,0<e/\ ∀d,0<=d->d<=e->cg c (aD q u d)
 |[],q,u,_=>⟨1,by decide,fun d _ _ s hs=>absurd hs (by simp)⟩
 |s::c,q,u,h=>by
  have h':=dK.1 h;obtain⟨e,he,hd⟩:=cg.open (c:=c) u h'.2;have hs:=h'.1;generalize hk:s.l.nor.dot u=k;have hf: ∃f:Rat,0<f/\ ∀d,0<=d->d<=f->0<s.l.value q+d*k:=by
   by_cases hk0:0<=k
   ·exact⟨1,by decide,fun d h1 _=>by have:=bG h1 hk0;grind⟩
   ·refine⟨s.l.value q/(2* -k),?_,fun d h1 h2=>?_⟩
    ·have e1:s.l.value q/(2* -k)*(2* -k)=s.l.value q:=by grind
     exact(fk (k:=2* -k) (by grind)).1 (by rw[e1];exact hs)
    ·have e1:s.l.value q/(2* -k)*(2* -k)=s.l.value q:=by grind
     generalize s.l.value q/(2* -k)=f at*;have:=bG (a:=f-d) (b:= -k) (by grind) (by grind);grind
  obtain⟨f,hf0,hf⟩:=hf;by_cases hef:e<=f
  ·refine⟨e,he,fun d h1 h2=>dK.2 ⟨?_,hd d h1 h2⟩⟩
   rw[gA,hk];exact hf d h1 (by grind)
  ·refine⟨f,hf0,fun d h1 h2=>dK.2 ⟨?_,hd d h1 (by grind)⟩⟩
   rw[gA,hk];exact hf d h1 h2
def IC: ∀{c:bw} {q p:aa},cg c q->(∃s∈c,s.l.value p<=0)->
  ∃e:Rat,0<=e/\e<=1/\(∃s∈c,s.l.value p<=0/\s.l.value (aC q p e)=0)/\u7 c (aC q p e)
 |[],q,p,_,h=>by obtain⟨s,hs,_⟩:=h;exact absurd hs (by simp)
 |s::c,q,p,h,hex=>by
  have h':=dK.1 h;have hs:=h'.1;by_cases hc: ∃s∈c,s.l.value p<=0
  ·obtain⟨e,h0,h1,⟨s1,m1,n1,z1⟩,hC⟩:=IC h'.2 hc
   by_cases hp:0<=s.l.value (aC q p e)
   ·exact⟨e,h0,h1,⟨s1,aJ _ m1,n1,z1⟩,dK.2 ⟨hp,hC⟩⟩
   ·rw[mp] at hp
    generalize hB:s.l.value p-s.l.value q=B at*;have hB0:B<0:=by
     by_cases hB0:0<=B
     ·have:=bG h0 hB0;grind
     ·grind
    have e1:s.l.value q/(-B)*(-B)=s.l.value q:=by grind
    generalize hf:s.l.value q/(-B)=f at*;have f0:0<=f:=(jD (k:= -B) (by grind)).1 (by rw[e1];grind);have f1:f<=e:=by
     have:=(jD (s:=e-f) (k:= -B) (by grind)).1 (by grind);grind
    have z:s.l.value (aC q p f)=0:=by rw[mp,hB];grind
    have np:s.l.value p<=0:=by
     have:=bG (a:=1-e) (b:= -B) (by grind) (by grind);grind
    refine⟨f,f0,by grind,⟨s,aQ,np,z⟩,dK.2 ⟨by rw[z];exact dR,fun s2 m2=>?_⟩⟩;have a1:=h'.2 s2 m2;have a2:=hC s2 m2;rw[mp] at a2⊢;exact OW (cS a1) a2 f0 f1
  ·have np:s.l.value p<=0:=by
    obtain⟨s1,m1,n1⟩:=hex;rcases aU.1 m1 with rfl|m1
    ·exact n1
    ·exact absurd ⟨s1,m1,n1⟩ hc
   generalize hB:s.l.value p-s.l.value q=B at*;have hB0:B<0:=by grind
   have e1:s.l.value q/(-B)*(-B)=s.l.value q:=by grind
   generalize hf:s.l.value q/(-B)=f at*;have f0:0<=f:=(jD (k:= -B) (by grind)).1 (by rw[e1];grind);have f1:f<=1:=by
    have:=(jD (s:=1-f) (k:= -B) (by grind)).1 (by grind);grind
   have z:s.l.value (aC q p f)=0:=by rw[mp,hB];grind
   refine⟨f,f0,f1,⟨s,aQ,np,z⟩,dK.2 ⟨by rw[z];exact dR,fun s2 m2=>?_⟩⟩;have a1:=h'.2 s2 m2;have a2:0<s2.l.value p:=by
    by_cases h:0<s2.l.value p
    ·exact h
    ·exact absurd ⟨s2,m2,by grind⟩ hc
   rw[mp];have:=OW (A:=s2.l.value q) (B:=s2.l.value p-s2.l.value q) (u:=f) (v:=1) (cS a1) (by grind) f0 f1;exact this
structure ip (c:bw):Prop where
 ne: ∃p,cg c p
 ok: ∀s∈c,s.l.ok
 edge: ∀s∈c,s.v.Pos/\ ∀t,s.v.has t↔u7 c (s.l.at t)
def ip.nil:ip []:=⟨⟨⟨0,0⟩,fun s hs=>absurd hs (by simp)⟩,fun s hs=>absurd hs (by simp),fun s hs=>absurd hs (by simp)⟩
def vH{c:bw}{m:ab}(hne: ∃q,cg c q)(h: ∀p,cg c p->0<m.value p){p:aa}(hp:u7 c p):0<=m.value p:=by
 obtain⟨q,hq⟩:=hne;have mq:=h q hq;by_cases hm:0<=m.value p
 ·exact hm
 ·exfalso
  generalize hB:m.value q-m.value p=B;have hB0:0<B:=by grind
  have e1: -m.value p/B*B= -m.value p:=by grind
  generalize-m.value p/B=e at*;have e0:0<e:=(fk hB0).1 (by rw[e1];grind);have e2:e<=1:=by
   have:=(jD (s:=1-e) hB0).1 (by grind);grind
  have hd:cg c (aC p q e):=fun s hs=>by
   rw[mp];have a:=hp s hs;have b:=hq s hs;have:=bt e0 b;have:=bG (a:=1-e) (b:=s.l.value p) (by grind) a;grind
  have:=h _ hd;rw[mp,hB,e1] at this;grind
def tI{l:ab}{s':aH}: ∀{c:bw},s'∈o9 l c↔ ∃s∈c,s.l.cutB s.v l=true/\s'=⟨s.l,s.l.cutV s.v l⟩
 |[]=>by simp[o9]
 |s::c=>by
  rw[o9];split
  ·rename_i hb
   rw[aU,tI (c:=c)];constructor
   ·rintro (rfl|⟨s1,h1,h2⟩)
    ·exact⟨s,aQ,hb,J⟩
    ·exact⟨s1,aJ _ h1,h2⟩
   ·rintro ⟨s1,h1,h2,h3⟩
    rcases aU.1 h1 with rfl|h1
    ·exact .inl h3
    ·exact .inr ⟨s1,h1,h2,h3⟩
  ·rename_i hb
   rw[tI (c:=c)];constructor
   ·rintro ⟨s1,h1,h2⟩;exact⟨s1,aJ _ h1,h2⟩
   ·rintro ⟨s1,h1,h2,h3⟩
    rcases aU.1 h1 with rfl|h1
    ·exact absurd h2 hb
    ·exact⟨s1,h1,h2,h3⟩
def sj{c:bw}{l:ab}{v:aA}{s:aH}:s∈tq c l v↔s=⟨l,v⟩\/s∈c:=by
 unfold tq;generalize zk (GV c l) 0 c.length=n;rw[bT,aU];have h:=jX n c;constructor
 ·rintro (h1|h1|h1)
  ·exact .inr (eY h1)
  ·exact .inl h1
  ·exact .inr (mL h1)
 ·rintro (h1|h1)
  ·exact .inr (.inl h1)
  ·rw[<-h,bT] at h1
   rcases h1 with h1|h1
   ·exact .inl h1
   ·exact .inr (.inr h1)
def Q4{c:bw}{l:ab}(hl:l.Ne)(hp:p8 c l=none){p:aa}(h:cg c p):l.value p≠0:=by
 intro h0;obtain⟨t,rfl⟩:=B4 hl h0;exact Nf l c _ vx hp t (F3 t) h
def Iv{c:bw}{l:ab}(hl:l.Ne){v:aA}(hp:p8 c l=some v):(∃q,cg c q/\0<l.value q)/\ ∃q,cg c q/\l.value q<0:=by
 obtain⟨h1,_,h3⟩:=DL l c _ v vx hp;have hd:=((h3 v.sample).1 (wc h1)).2;have h0:=qI hl v.sample;have hn:=r4 hl;constructor
 ·obtain⟨e,he,hm⟩:=hd.open l.nor
  refine⟨_,hm e (cS he) dR,?_⟩;rw[gA,h0];have:=bt he hn;grind
 ·obtain⟨e,he,hm⟩:=hd.open ⟨-l.nor.x, -l.nor.y⟩
  refine⟨_,hm e (cS he) dR,?_⟩;rw[gA,h0];have:=bt he hn;simp only[aa.dot] at this⊢;grind
def ZN{c:bw}{l:ab}{v:aA}(hc:ip c)(hl:l.ok)(hp:p8 c l=some v):
  ip (tq (o9 l c) l v)/\ ∀p,cg (tq (o9 l c) l v) p↔cg c p/\0<l.value p:=by
 obtain⟨⟨q,hq,lq⟩,_⟩:=Iv hl.ne hp;obtain⟨v1,v2,v3⟩:=DL l c _ v vx hp;have hD: ∀p,cg (tq (o9 l c) l v) p↔cg c p/\0<l.value p:=by
  intro p;constructor
  ·intro h
   have lp:0<l.value p:=h ⟨l,v⟩ (sj.2 (.inl J));refine⟨fun s0 hs0=>?_,lp⟩;by_cases h0:0<s0.l.value p
   ·exact h0
   ·exfalso
    obtain⟨e,e0,e1,⟨s,ms,ns,zs⟩,hC⟩:=IC (p:=p) hq ⟨s0,hs0,by grind⟩;obtain⟨t,ht⟩:=B4 (hc.ok s ms).ne zs;rw[ht] at hC;obtain⟨p1,p2⟩:=hc.edge s ms;have hh:=(p2 t).2 hC;have lr:0<l.value (s.l.at t):=by
     rw[<-ht,mp];by_cases hB:0<=l.value p-l.value q
     ·have:=bG e0 hB;grind
     ·have:=bG (a:=1-e) (b:= -(l.value p-l.value q)) (by grind) (by grind)
      grind
    have hb:s.l.cutB s.v l=true:=by
     cases hb:s.l.cutB s.v l with
     |true=>rfl
     |false=>have:=ES p1 hb hh;grind
    have:=h ⟨s.l,s.l.cutV s.v l⟩ (sj.2 (.inr (tI.2 ⟨s,ms,hb,J⟩)));simp only at this;grind
  ·rintro ⟨h1,h2⟩ s hs
   rcases sj.1 hs with rfl|hs
   ·exact h2
   ·obtain⟨s1,m1,_,rfl⟩:=tI.1 hs
    exact h1 s1 m1
 have hne: ∃p,cg (tq (o9 l c) l v) p:=⟨q,(hD q).2 ⟨hq,lq⟩⟩;have hC: ∀p,u7 (tq (o9 l c) l v) p↔u7 c p/\0<=l.value p:=by
  intro p;constructor
  ·intro h
   refine⟨fun s hs=>?_,h ⟨l,v⟩ (sj.2 (.inl J))⟩;exact vH hne (fun p hp=>((hD p).1 hp).1 s hs) h
  ·rintro ⟨h1,h2⟩ s hs
   rcases sj.1 hs with rfl|hs
   ·exact h2
   ·obtain⟨s1,m1,_,rfl⟩:=tI.1 hs
    exact h1 s1 m1
 refine⟨⟨hne,fun s hs=>?_,fun s hs=>?_⟩,hD⟩
 ·rcases sj.1 hs with rfl|hs
  ·exact hl
  ·obtain⟨s1,m1,_,rfl⟩:=tI.1 hs
   exact hc.ok s1 m1
 ·rcases sj.1 hs with rfl|hs
  ·refine⟨v1,fun t=>?_⟩
   rw[hC];simp only;rw[v2];have h0:=qI hl.ne t;constructor
   ·intro h;exact⟨h.2,by rw[h0];exact dR⟩
   ·intro h;exact⟨F3 t,h.1⟩
  ·obtain⟨s1,m1,hb,rfl⟩:=tI.1 hs
   obtain⟨p1,p2⟩:=hc.edge s1 m1;refine⟨zh p1 hb,fun t=>?_⟩;rw[hC];simp only;rw[AD hb,p2]
def cg.seg{c:bw}{q p:aa}{e:Rat}(hq:cg c q)(hp:cg c p)(h0:0<=e)(h1:e<=1):cg c (aC q p e):=fun s hs=>by
 rw[mp];have a:=hq s hs;have b:=hp s hs;by_cases he:e=0
 ·subst he;grind
 ·have:=bt (a:=e) (by grind) b
  have:=bG (a:=1-e) (b:=s.l.value q) (by grind) (by grind);grind
def KG{v:aA}{t:Rat}(h:v.ins t):(∃u,u<t/\v.has u)/\ ∃u,t<u/\v.has u:=by
 obtain⟨lo,hi,nl,nh⟩:=v;unfold aA.ins at h;unfold aA.has;refine⟨⟨if nl=true then t-1 else lo,?_⟩,⟨if nh=true then t+1 else hi,?_⟩⟩<;>cases nl<;>cases nh<;>simp at* <;>grind
def v6{a b c x y z:Nat}(h1:x*b=a*y)(h2:x*c=a*z)(g:Nat.gcd (Nat.gcd a b) c=1):a∣x:=by
 have e:x=Nat.gcd (Nat.gcd (x*a) (x*b)) (x*c):=by
  rw[Nat.gcd_mul_left,Nat.gcd_mul_left,g,kZ]
 rw[e];exact Nat.dvd_gcd (Nat.dvd_gcd (Nat.dvd_mul_left ..) (h1▸Nat.dvd_mul_right ..)) (h2▸Nat.dvd_mul_right ..)
def UQ{a b c x y z:Int}(h1:a*y=b*x)(h2:a*z=c*x)(h3:b*z=c*y)
  (g1:Nat.gcd (Nat.gcd a.natAbs b.natAbs) c.natAbs=1)(g2:Nat.gcd (Nat.gcd x.natAbs y.natAbs) z.natAbs=1):
  (a=x/\b=y/\c=z)\/(a= -x/\b= -y/\c= -z):=by
 have n1:a.natAbs*y.natAbs=b.natAbs*x.natAbs:=by rw[<-iK,<-iK,h1]
 have n2:a.natAbs*z.natAbs=c.natAbs*x.natAbs:=by rw[<-iK,<-iK,h2]
 have n3:b.natAbs*z.natAbs=c.natAbs*y.natAbs:=by rw[<-iK,<-iK,h3]
 generalize ha:a.natAbs=A at*;generalize hb:b.natAbs=B at*;generalize hc:c.natAbs=C at*;generalize hx:x.natAbs=X at*;generalize hy:y.natAbs=Y at*;generalize hz:z.natAbs=Z at*;have gB:Nat.gcd (Nat.gcd B A) C=1:=by rw[iZ B A];exact g1
 have gC:Nat.gcd (Nat.gcd C A) B=1:=by rw[Nat.gcd_assoc,iZ];exact g1
 have gY:Nat.gcd (Nat.gcd Y X) Z=1:=by rw[iZ Y X];exact g2
 have gZ:Nat.gcd (Nat.gcd Z X) Y=1:=by rw[Nat.gcd_assoc,iZ];exact g2
 have e1:A=X:=Nat.dvd_antisymm (v6 (x:=X) (y:=Y) (z:=Z) (by grind) (by grind) g1) (v6 (x:=A) (y:=B) (z:=C) (by grind) (by grind) g2);have e2:B=Y:=Nat.dvd_antisymm (v6 (x:=Y) (y:=X) (z:=Z) (by grind) (by grind) gB) (v6 (x:=B) (y:=A) (z:=C) (by grind) (by grind) gY);have e3:C=Z:=Nat.dvd_antisymm (v6 (x:=Z) (y:=X) (z:=Y) (by grind) (by grind) gC) (v6 (x:=C) (y:=A) (z:=B) (by grind) (by grind) gZ);have s1:a=x\/a= -x:=by omega
 have s2:b=y\/b= -y:=by omega
 have s3:c=z\/c= -z:=by omega
 clear ha hb hc hx hy hz n1 n2 n3 g1 g2 gB gC gY gZ e1 e2 e3;have z1:= @rS x y;have z2:= @rS x z;have z3:= @rS y z;rcases s1 with rfl|rfl<;>rcases s2 with rfl|rfl<;>rcases s3 with rfl|rfl<;>grind
def Hd{l m:ab}(hl:l.ok)(hm:m.ok)(h: ∀t,l.value (m.at t)=0):l=m\/l=m.rev:=by
 have h0:=h 0;have h1:=h 1;rw[ow] at h0 h1;have hC:m.cutC l=0:=by grind
 have hK:m.cutK l=0:=by grind
 obtain⟨q,q1,q2⟩:=ym hm.ne;have hn:=r4 hm.ne;unfold ab.cutC at hC;rw[q2,lG] at hC;unfold ab.cutK at hK;simp only[ab.nor,ab.dir,aa.dot] at hK q1 hn hC;obtain⟨a,b,c⟩:=l;obtain⟨x,y,z⟩:=m;simp only at*;have e1:a*y=b*x:=by
  have:((a*y:Int):Rat)=((b*x:Int):Rat):=by rw[cR,cR];grind
  exact qQ.1 this
 have e2:a*z=c*x:=by
  have:((a*z:Int):Rat)=((c*x:Int):Rat):=by rw[cR,cR];grind
  exact qQ.1 this
 have e3:b*z=c*y:=by
  have:((b*z:Int):Rat)=((c*y:Int):Rat):=by rw[cR,cR];grind
  exact qQ.1 this
 rcases UQ e1 e2 e3 hl.2 hm.2 with⟨rfl,rfl,rfl⟩|⟨rfl,rfl,rfl⟩
 ·exact .inl J
 ·exact .inr J
def ab.ok.rev{l:ab}(h:l.ok):l.rev.ok:=by
 obtain⟨h1,h2⟩:=h;refine⟨?_,?_⟩
 ·simp only[ab.rev];omega
 ·simp only[ab.rev,iS];exact h2
def Mq(l:ab): ∀c:bw,(∀s∈c,xi l s<=0/\s.l≠l)-> ¬0<se l c
 |[],_=>by simp[se]
 |s::c,h=>by
  have h':=dK.1 h;unfold se;rw[if_neg h'.1.2];split
  ·have:=h'.1.1;omega
  ·exact Mq l c h'.2
def PU{c:bw}{l:ab}(hc:ip c)(hl:l.ok)(hp:p8 c l=none):
  (0<se l c/\ ∀p,cg c p->0<l.value p)\/(¬0<se l c/\ ∀p,cg c p->l.value p<0):=by
 have hoff:=fun p (h:cg c p)=>Q4 hl.ne hp h;by_cases hq: ∃q,cg c q/\0<l.value q
 ·left
  obtain⟨q,hq,lq⟩:=hq;have hall: ∀p,cg c p->0<l.value p:=by
   intro p h;have:=hoff p h;by_cases h0:0<l.value p
   ·exact h0
   ·exfalso
    have hn:l.value p<0:=by grind
    have e1:l.value q/(l.value q-l.value p)*(l.value q-l.value p)=l.value q:=by grind
    generalize l.value q/(l.value q-l.value p)=e at*;have f0:0<=e:=(jD (k:=l.value q-l.value p) (by grind)).1 (by grind);have f1:e<=1:=by
     have:=(jD (s:=1-e) (k:=l.value q-l.value p) (by grind)).1 (by grind);grind
    exact hoff _ (hq.seg h f0 f1) (by rw[mp];grind)
  refine⟨?_,hall⟩
  cases c with
  |nil=>simp[p8,ru] at hp
  |cons s c=>
   obtain⟨p1,p2⟩:=hc.edge s aQ;have hi:=wc p1;have hr:=vH hc.ne hall ((p2 _).1 hi.has);unfold se;by_cases h0:xi l s=0
   ·rw[if_neg (by simpa using h0)]
    have hz:l.value (s.l.at s.v.sample)=0:=(fD _).1 h0;have hge: ∀t,s.v.has t->0<=l.value (s.l.at t):=fun t ht=>vH hc.ne hall ((p2 t).1 ht);obtain⟨⟨u1,m1,n1⟩,⟨u2,m2,n2⟩⟩:=KG hi;have g1:=hge _ n1;have g2:=hge _ n2;rw[ow] at hz g1 g2;have hK:s.l.cutK l=0:=by
     rcases di (s.l.cutK l) with h|h|h
     ·exact h
     ·exfalso
      have:=bt (a:=s.v.sample-u1) (b:=s.l.cutK l) (by grind) h;grind
     ·exfalso
      have:=bt (a:=u2-s.v.sample) (b:= -s.l.cutK l) (by grind) (by grind);grind
    have hz2: ∀t,l.value (s.l.at t)=0:=fun t=>by rw[ow,hK];rw[hK] at hz;grind
    rcases Hd hl (hc.ok s aQ) hz2 with h|h
    ·rw[if_pos h.symm];decide
    ·exfalso
     have:=hall q hq;rw[h,nA] at this;have:=hq s aQ;grind
   ·rw[if_pos h0]
    have hz:l.value (s.l.at s.v.sample)≠0:=fun e=>h0 ((fD _).2 e);exact(jg _).2 (by grind)
 ·right
  have hall: ∀p,cg c p->l.value p<0:=fun p h=>by
   have:=hoff p h;have: ¬0<l.value p:=fun h'=>hq ⟨p,h,h'⟩;grind
  refine⟨Mq l c fun s hs=>?_,hall⟩;obtain⟨p1,p2⟩:=hc.edge s hs;have hr:=vH (m:=l.rev) hc.ne (fun p h=>by rw[nA];have:=hall p h;grind) ((p2 _).1 (wc p1).has);rw[nA] at hr;constructor
  ·have: ¬0<xi l s:=fun h=>by have:=(jg _).1 h;grind
   omega
  ·rintro rfl
   obtain⟨p,hp⟩:=hc.ne;have:=hall p hp;have:=hp s hs;grind
def Ea{c:bw}{l:ab}(hc:ip c)(hl:l.ok):fi c l=true↔ ∃p,cg c p/\0<l.value p:=by
 unfold fi
 cases hp:p8 c l with
 |some v=>exact⟨fun _=>(Iv hl.ne hp).1,fun _=>J⟩
 |none=>
  simp only[GS,hp,Option.isSome_none,gM,if_false,decide_eq_true_iff];rcases PU hc hl hp with⟨h1,h2⟩|⟨h1,h2⟩
  ·refine⟨fun _=>?_,fun _=>h1⟩
   obtain⟨p,hp⟩:=hc.ne;exact⟨p,hp,h2 p hp⟩
  ·refine⟨fun h=>absurd h h1,?_⟩
   rintro ⟨p,hp,h⟩;have:=h2 p hp;grind
def Di{c:bw}{l:ab}(hc:ip c)(hl:l.ok)(hb:fi c l=true):ip (gj c l)/\ ∀p,cg (gj c l) p↔cg c p/\0<l.value p:=by
 unfold gj
 cases hp:p8 c l with
 |some v=>exact ZN hc hl hp
 |none=>
  refine⟨hc,fun p=>?_⟩;unfold fi at hb;simp only[hp,GS,Option.isSome_none,gM,if_false,decide_eq_true_iff] at hb;rcases PU hc hl hp with⟨h1,h2⟩|⟨h1,h2⟩
  ·exact⟨fun h=>⟨h,h2 p h⟩,fun h=>h.1⟩
  ·exact absurd hb h1
inductive aHo (c:bw) (l:ab):Prop
 |left (h1:fi c l.rev=false) (h: ∀p,cg c p->0<l.value p)
 |right (h1:fi c l.rev=true) (h2:fi c l=false) (h: ∀p,cg c p->l.value p<0)
 |both (h1:fi c l.rev=true) (h2:fi c l=true) (g1:ip (gj c l)) (g2:ip (gj c l.rev))
   (e1: ∀p,cg (gj c l) p↔cg c p/\0<l.value p) (e2: ∀p,cg (gj c l.rev) p↔cg c p/\l.value p<0)
def Tr.restrict_A{l:ab}{e:bw}(X Y:Tr)(h:fi e l.rev=false):(Tr.node l X Y).restrict e=X.restrict e:=by
 rw[Tr.restrict,h];rfl
def Tr.restrict_B{l:ab}{e:bw}(X Y:Tr)(h:fi e l.rev=true)(h2:fi e l=false):(Tr.node l X Y).restrict e=Y.restrict e:=by
 rw[Tr.restrict,h,h2];rfl
def Tr.restrict_C{l:ab}{e:bw}(X Y:Tr)(h:fi e l.rev=true)(h2:fi e l=true):(Tr.node l X Y).restrict e=Tr.joinQ l (X.restrict (gj e l)) (Y.restrict (gj e l.rev)):=by
 rw[Tr.restrict,h,h2];rfl
def ph:List ab->bw->Option bw
 |[],c=>some c
 |l::t,c=>if fi c l then ph t (gj c l) else none
def I6: ∀{ls:List ab} {c e:bw},ip c->(∀l∈ls,l.ok)->ph ls c=some e->ip e/\ ∀p,cg e p↔cg c p/\ ∀l∈ls,0<l.value p
 |[],c,e,hc,_,h=>by
  obtain rfl:c=e:=by simpa[ph] using h
  exact⟨hc,fun p=>⟨fun h=>⟨h,fun l hl=>absurd hl (by simp)⟩,fun h=>h.1⟩⟩
 |l::t,c,e,hc,hl,h=>by
  have hl':=dK.1 hl;rw[ph] at h;split at h
  ·rename_i hb
   obtain⟨g1,g2⟩:=Di hc hl'.1 hb;obtain⟨k1,k2⟩:=I6 g1 hl'.2 h;refine⟨k1,fun p=>?_⟩;rw[k2,g2,dK,and_assoc]
  ·exact absurd h (by simp)
def Mg: ∀{ls:List ab} {c:bw},ip c->(∀l∈ls,l.ok)->(∃p,cg c p/\ ∀l∈ls,0<l.value p)-> ∃e,ph ls c=some e
 |[],c,_,_,_=>⟨c,J⟩
 |l::t,c,hc,hl,⟨p,h1,h2⟩=>by
  have hl':=dK.1 hl;have h2':=dK.1 h2;have hb:=(Ea hc hl'.1).2 ⟨p,h1,h2'.1⟩;obtain⟨g1,g2⟩:=Di hc hl'.1 hb;rw[ph,if_pos hb];exact Mg g1 hl'.2 ⟨p,(g2 p).2 ⟨h1,h2'.1⟩,h2'.2⟩
def WJ{c:bw}(hc:ip c){s:aH}(hs:s∈c){m:ab}(hm:m.ok)(h: ∀p,cg c p->0<m.value p)(hz:m.value (s.l.at s.v.sample)=0):m=s.l:=by
 obtain⟨p1,p2⟩:=hc.edge s hs;have hi:=wc p1;have hge: ∀t,s.v.has t->0<=m.value (s.l.at t):=fun t ht=>vH hc.ne h ((p2 t).1 ht);obtain⟨⟨u1,m1,n1⟩,⟨u2,m2,n2⟩⟩:=KG hi;have g1:=hge _ n1;have g2:=hge _ n2;rw[ow] at hz g1 g2;have hK:s.l.cutK m=0:=by
  rcases di (s.l.cutK m) with h|h|h
  ·exact h
  ·exfalso
   have:=bt (a:=s.v.sample-u1) (b:=s.l.cutK m) (by grind) h;grind
  ·exfalso
   have:=bt (a:=u2-s.v.sample) (b:= -s.l.cutK m) (by grind) (by grind);grind
 have hz2: ∀t,m.value (s.l.at t)=0:=fun t=>by rw[ow,hK];rw[hK] at hz;grind
 rcases Hd hm (hc.ok s hs) hz2 with h'|h'
 ·exact h'
 ·exfalso
  obtain⟨q,hq⟩:=hc.ne;have:=h q hq;rw[h',nA] at this;have:=hq s hs;grind
def ig(l:ab):List ab->aA->Option aA
 |[],v=>some v
 |m::t,v=>if m=l then ig l t v else if l.cutB v m then ig l t (l.cutV v m) else none
def fh(c:List ab)(p:aa):Prop:= ∀m∈c,0<m.value p
def C4(l:ab): ∀(c:List ab) (v w:aA),v.Pos->ig l c v=some w->
  w.Pos/\(∀t,w.ins t↔v.ins t/\ ∀m∈c,m≠l->0<m.value (l.at t))
 |[],v,w,hv,h=>by
  obtain rfl:v=w:=by simpa[ig] using h
  exact⟨hv,fun t=>⟨fun h=>⟨h,fun s hs=>absurd hs (by simp)⟩,fun h=>h.1⟩⟩
 |m::c,v,w,hv,h=>by
  rw[ig] at h;split at h
  ·rename_i hm
   obtain⟨h1,h2⟩:=C4 l c _ w hv h;refine⟨h1,fun t=>?_⟩;rw[h2,dK];exact⟨fun h=>⟨h.1,fun h'=>absurd hm h',h.2⟩,fun h=>⟨h.1,h.2.2⟩⟩
  ·rename_i hm
   split at h
   ·rename_i hb
    obtain⟨h1,h2⟩:=C4 l c _ w (zh hv hb) h;refine⟨h1,fun t=>?_⟩;rw[h2,Ij hb,dK,and_assoc];exact⟨fun h=>⟨h.1,fun _=>h.2.1,h.2.2⟩,fun h=>⟨h.1,h.2.1 hm,h.2.2⟩⟩
   ·exact absurd h (by simp)
def Fa(l:ab): ∀(c:List ab) (v:aA),v.Pos->ig l c v=none-> ∀t,v.has t-> ¬ ∀m∈c,m≠l->0<m.value (l.at t)
 |[],v,hv,h=>by simp[ig] at h
 |m::c,v,hv,h=>by
  intro t ht hd;have hd':=dK.1 hd;rw[ig] at h;split at h
  ·exact Fa l c _ hv h t ht hd'.2
  ·rename_i hm
   split at h
   ·rename_i hb
    exact Fa l c _ (zh hv hb) h t ((AD hb t).2 ⟨ht,cS (hd'.1 hm)⟩) hd'.2
   ·rename_i hb
    have:=ES hv (by simpa using hb) ht;have:=hd'.1 hm;grind
def t6(c:List ab):Bool:=c.isEmpty||c.any (fun l=>(ig l c aA.all).isSome)
def OE: ∀{ls:List ab} {c e:bw},ph ls c=some e-> ∀s∈e,s.l∈ls\/ ∃s'∈c,s'.l=s.l
 |[],c,e,h,s,hs=>by
  obtain rfl:c=e:=by simpa[ph] using h
  exact .inr ⟨s,hs,J⟩
 |l::t,c,e,h,s,hs=>by
  rw[ph] at h;split at h
  ·rcases OE h s hs with h1|⟨s',h1,h2⟩
   ·exact .inl (aJ _ h1)
   ·unfold gj at h1
    split at h1
    ·rcases sj.1 h1 with rfl|h1
     ·exact .inl (by rw[<-h2];exact aQ)
     ·obtain⟨s1,m1,_,rfl⟩:=tI.1 h1
      exact .inr ⟨s1,m1,h2⟩
    ·exact .inr ⟨s',h1,h2⟩
  ·exact absurd h (by simp)
def Y8{c:List ab}(hok: ∀l∈c,l.ok)(hne: ∃p,fh c p): ∃e,ph c []=some e/\ip e/\(∀p,cg e p↔fh c p)/\ ∀s∈e,s.l∈c/\(ig s.l c aA.all).isSome=true:=by
 obtain⟨p,hp⟩:=hne;obtain⟨e,he⟩:=Mg ip.nil hok ⟨p,fun s hs=>absurd hs (by simp),hp⟩;obtain⟨g1,g2⟩:=I6 ip.nil hok he;have g3: ∀p,cg e p↔fh c p:=fun p=>by
  rw[g2];exact⟨fun h=>h.2,fun h=>⟨fun s hs=>absurd hs (by simp),h⟩⟩
 refine⟨e,he,g1,g3,fun s hs=>?_⟩;have hm:s.l∈c:=by
  rcases OE he s hs with h|⟨_,h,_⟩
  ·exact h
  ·exact absurd h (by simp)
 refine⟨hm,?_⟩
 cases hp:ig s.l c aA.all with
 |some w=>rfl
 |none=>
  exfalso;obtain⟨p1,p2⟩:=g1.edge s hs;have hC:=(p2 s.v.sample).1 (wc p1).has;refine Fa s.l c _ vx hp s.v.sample (F3 _) fun m hmc hne=>?_;have hall: ∀p,cg e p->0<m.value p:=fun p hp=>(g3 p).1 hp m hmc;have h0:=vH g1.ne hall hC;have h1:m.value (s.l.at s.v.sample)≠0:=fun hz=>hne (WJ g1 hs (hok m hmc) hall hz);grind
def Zt{c:List ab}(hok: ∀l∈c,l.ok):t6 c=true↔ ∃p,fh c p:=by
 unfold t6;rw[gL,List.isEmpty_iff,kX];constructor
 ·rintro (rfl|⟨l,hl,h⟩)
  ·exact⟨⟨0,0⟩,fun m hm=>absurd hm (by simp)⟩
  ·obtain⟨w,hw⟩:=Option.isSome_iff_exists.1 h
   obtain⟨w1,w2⟩:=C4 l c _ w vx hw;have hi:=((w2 w.sample).1 (wc w1)).2;have h0:=qI (hok l hl).ne w.sample;have hd:cg ((c.filter (fun m=>decide (m≠l))).map (fun m=>(⟨m,aA.all⟩:aH))) (l.at w.sample):=by
    intro s hs;obtain⟨m,hm,rfl⟩:=bZ.1 hs;rw[iJ,decide_eq_true_iff] at hm;exact hi m hm.1 hm.2
   obtain⟨e,he,ho⟩:=hd.open l.nor;refine⟨aD (l.at w.sample) l.nor e,fun m hm=>?_⟩;by_cases hml:m=l
   ·subst hml
    rw[gA,h0];have:=bt he (r4 (hok m hl).ne);grind
   ·exact ho e (cS he) dR ⟨m,aA.all⟩ (bZ.2 ⟨m,iJ.2 ⟨hm,by simpa using hml⟩,J⟩)
 ·intro hne
  obtain⟨e,h1,h2,h3,h4⟩:=Y8 hok hne
  cases c with
  |nil=>exact .inl J
  |cons l c=>
   right
   cases e with
   |nil=>
    exfalso;have:=(h3 (l.at 0)).1 (fun s hs=>absurd hs (by simp)) l aQ;rw[qI (hok l aQ).ne] at this;exact absurd this (by decide)
   |cons s e=>
    obtain⟨a,b⟩:=h4 s aQ;exact⟨s.l,a,b⟩
def GJ(out:List ab)(l:ab):Nat:=(out.takeWhile (fun x=>decide (ce x.dir l.dir<0))).length
def YZ(out:List ab)(l:ab):List ab:=if out[GJ out l]? =some l then out else out.take (GJ out l)++l::out.drop (GJ out l)
def Ge(c:List ab):List ab->List ab->List ab
 |[],out=>out
 |l::t,out=>Ge c t (if(ig l c aA.all).isSome then YZ out l else out)
def rx(c:List ab):List ab:=Ge c c []
def AU(c:List ab)(l:ab):Int:=if t6 (c++[l])&&t6 (c++[l.rev]) then 0 else if t6 (c++[l]) then 1 else-1
def Tr.restrictL:Tr->List ab->Tr
 | .leaf b,_=> .leaf b
 | .node l x y,c=>if AU c l=1 then x.restrictL c else if AU c l= -1 then y.restrictL c else joinQ l (x.restrictL (rx (c++[l]))) (y.restrictL (rx (c++[l.rev])))
def Ht{c:List ab}{l:ab}{p:aa}:fh (c++[l]) p↔fh c p/\0<l.value p:=by
 unfold fh;rw[List.forall_mem_append];simp
def J5{c:List ab}{l:ab}(hok: ∀m∈c,m.ok)(hl:l.ok): ∀m∈c++[l],m.ok:=by
 rw[List.forall_mem_append];exact⟨hok,by simpa using hl⟩
end Go.Sx
end
section
namespace Go.Sx
open Go Go.Proofs
structure As where
 lo:RV
 hi:RV
 nl:Bool
 nh:Bool
def As.v(z:As):Value:= .agg ⟨[.int .i64 z.lo.n, .int .i64 z.lo.d, .pointer z.lo.p, .int .i64 z.hi.n, .int .i64 z.hi.d, .pointer z.hi.p, .bool z.nl, .bool z.nh]⟩
section
variable {P:Program} {C:az} {n:Nat} {fr:Fr} {own own' own1:List av} {G:Gh} {Φ:Act->World->Prop}
variable {dst:Option Nat} {t t' ty':TypeId} {pos:String} {af:Array Edge} {gd:Option (Nat×Bool)} {x y:Operand} {e s by_:Nat}
end
structure WU (k:Nat) (G:Gh) (z:As) (v:aA):Prop where
 lo:uu k G z.lo v.lo
 hi:uu k G z.hi v.hi
 nl:z.nl=v.nl
 nh:z.nh=v.nh
def OQ:List Int->Int
 |[]=>0
 |x::t=>if x≠0 then x else OQ t
def aG9(l m:ab):Int:=OQ [bE l.a m.a,bE l.b m.b,bE l.c m.c]
structure x5 where
 l:LV
 v:As
def x5.val(z:x5):Value:= .agg ⟨[.int .i64 z.l.a.n, .int .i64 z.l.a.d, .pointer z.l.a.p, .int .i64 z.l.b.n, .int .i64 z.l.b.d, .pointer z.l.b.p, .int .i64 z.l.c.n, .int .i64 z.l.c.d, .pointer z.l.c.p, .int .i64 z.v.lo.n, .int .i64 z.v.lo.d, .pointer z.v.lo.p, .int .i64 z.v.hi.n, .int .i64 z.v.hi.d, .pointer z.v.hi.p, .bool z.v.nl, .bool z.v.nh]⟩
structure Qs (k:Nat) (G:Gh) (z:x5) (f:aH):Prop where
 l:DO k G z.l f.l
 v:WU (25*k+6) G z.v f.v
inductive rI {α β:Type} (R:α->β->Prop):List α->List β->Prop
 |nil:rI R [] []
 |cons {a b us bs} (h:R a b) (t:rI R us bs):rI R (a::us) (b::bs)
structure RT (k:Nat) (G:Gh) (x:SV) (c:bw):Prop where
 ex: ∃fs:List x5,ey G 17 x (fs.map x5.val)/\rI (Qs k G) fs c

section
variable {P:Program} {C:az} {n:Nat} {fr:Fr} {own own':List av} {G:Gh} {Φ:Act->World->Prop}
variable {dst:Option Nat} {t t' ty':TypeId} {pos:String} {af:Array Edge} {gd:Option (Nat×Bool)} {x y:Operand} {e s by_:Nat}
end

section
variable {P:Program} {C:az} {n:Nat} {fr:Fr} {own own':List av} {G:Gh} {Φ:Act->World->Prop}
variable {dst:Option Nat} {t t' ty':TypeId} {pos:String} {af:Array Edge} {gd:Option (Nat×Bool)} {x y:Operand} {e s by_:Nat}
end

def Gv(k:Nat)(G:Gh):Tr->Option Addr->Prop
 | .leaf b,p=> ∃n,p=some ⟨n,0,none⟩/\G n=some [.int .i64 0, .int .i64 0, .pointer none, .int .i64 0, .int .i64 0, .pointer none, .int .i64 0, .int .i64 0, .pointer none, .pointer none, .pointer none, .bool b]
 | .node l x y,p=> ∃(n:Nat) (z:LV) (q r:Option Addr),p=some ⟨n,0,none⟩/\G n=some [.int .i64 z.a.n, .int .i64 z.a.d, .pointer z.a.p, .int .i64 z.b.n, .int .i64 z.b.d, .pointer z.b.p, .int .i64 z.c.n, .int .i64 z.c.d, .pointer z.c.p, .pointer q, .pointer r, .bool false]/\DO k G z l/\Gv k G x q/\Gv k G y r
structure ND where
 a:IV
 b:IV
 c:IV
 l:Int
 r:Int
def ND.val(z:ND):Value:= .agg ⟨[.bool z.a.neg, .slice z.a.a.a z.a.a.n z.a.a.c, .bool z.b.neg, .slice z.b.a.a z.b.a.n z.b.a.c, .bool z.c.neg, .slice z.c.a.a z.c.a.n z.c.a.c, .int .i64 z.l, .int .i64 z.r]⟩
structure SY (k:Nat) (G:Gh) (z:ND) (n:NQ):Prop where
 a:tX k G z.a n.l.a
 b:tX k G z.b n.l.b
 c:tX k G z.c n.l.c
 l:z.l=n.a
 r:z.r=n.b
structure aGY (k:Nat) (G:Gh) (x:SV) (ns:List NQ):Prop where
 ex: ∃zs:List ND,ey G 8 x (zs.map ND.val)/\rI (SY k G) zs ns
def aGt(n i:Nat):List Value:=(List.range n).map fun j=> .bool (decide (j<i))


structure Ae where
 x:SV
 p:Option Addr
def Ae.val(z:Ae):Value:= .agg ⟨[.slice z.x.a z.x.n z.x.c, .pointer z.p]⟩
structure Zw (k:Nat) (G:Gh) (z:Ae) (b:Bool×bw):Prop where
 c:RT k G z.x b.2
 t:Gv k G (.leaf b.1) z.p
structure aHP (k:Nat) (G:Gh) (w:SV) (ps:List (Bool×bw)):Prop where
 ex: ∃zs:List Ae,ey G 2 w (zs.map Ae.val)/\rI (Zw k G) zs ps
structure LI where
 a:IV
 b:IV
 c:IV
def LI.val(z:LI):Value:= .agg ⟨[.bool z.a.neg, .slice z.a.a.a z.a.a.n z.a.a.c, .bool z.b.neg, .slice z.b.a.a z.b.a.n z.b.a.c, .bool z.c.neg, .slice z.c.a.a z.c.a.n z.c.a.c]⟩
structure aGr (k:Nat) (G:Gh) (z:LI) (l:ab):Prop where
 a:tX k G z.a l.a
 b:tX k G z.b l.b
 c:tX k G z.c l.c
structure aGf (k:Nat) (G:Gh) (x:SV) (ls:List ab):Prop where
 ex: ∃zs:List LI,ey G 6 x (zs.map LI.val)/\rI (aGr k G) zs ls
structure aGa (k:Nat) (G:Gh) (x:SV) (ls:List ab):Prop where
 ex: ∃zs:List LV,ey G 9 x (zs.map LV.v)/\rI (DO k G) zs ls
def uQ{a b:Int}(h:a=b):eI a=eI b:=by rw[h]
def Ak(z:Int):eQ (z:Rat)= .ag [.v (.bool (decide (z<0))),dN z.natAbs, .sl []]:=by unfold eQ;rw[oX,oJ];rfl
def Ct{a:Rat}(h:a.den=1):((a.num:Int):Rat)=a:=Rat.ext (oX _) (by rw[oJ,h])
def U0{a b:Rat}(ha:a.den=1)(hb:b.den=1):a+b=((a.num+b.num:Int):Rat):=by
 rw[oK,Ct ha,Ct hb]
def VE{a b:Rat}(ha:a.den=1)(hb:b.den=1):a*b=((a.num*b.num:Int):Rat):=by
 rw[cR,Ct ha,Ct hb]
def vP(n:Nat)(h:0<n):(if n=1 then [] else(dg n).map dU).length=0↔n=1:=by
 by_cases q:n=1
 ·simp[q]
 ·rw[if_neg q,aK,tO];omega
def IY{n:Nat}(h:n≠1):dD n=dN n:=by unfold dD;rw[if_neg h];rfl
def GK{g:Nat}:(fC g 1=0)↔g=1:=by
 unfold fC;constructor
 ·intro h;split at h
  ·exact absurd h (by decide)
  ·split at h
   ·assumption
   ·exact absurd h (by decide)
 ·rintro rfl;rfl
def Mm{x:Int}{d:Nat}(hd:0<d):zv (decide (x<0)) (x.natAbs/Nat.gcd x.natAbs d)=(mkRat x d).num:=by
 rw[Rat.num_mkRat,if_neg (by omega),iZ];have hg:0<Nat.gcd d x.natAbs:=kJ _ hd;obtain⟨c,hc⟩:Nat.gcd d x.natAbs∣x.natAbs:=jR _ _;generalize Nat.gcd d x.natAbs=g at*;rw[hc,qW _ hg];unfold zv;by_cases q:x<0
 ·rw[if_pos (by simpa using q),show x=(g:Int)*(-(c:Int)) by rw[Int.mul_neg,<-iX];omega,Int.mul_ediv_cancel_left _ (by omega)]
 ·rw[if_neg (by simpa using q),show x=(g:Int)*(c:Int) by rw[<-iX];omega,Int.mul_ediv_cancel_left _ (by omega)]
def Lw{x:Int}{d:Nat}(hd:0<d):d/Nat.gcd x.natAbs d=(mkRat x d).den:=by
 rw[Rat.den_mkRat,if_neg (by omega),iZ]
def Uc{x:Int}{d:Nat}(hd:0<d)(h:Nat.gcd x.natAbs d=1):(mkRat x d).num=x/\(mkRat x d).den=d:=by
 rw[<-Mm hd,<-Lw hd,h,sL,sL];exact⟨lj x,J⟩
end Go.Sx
end
