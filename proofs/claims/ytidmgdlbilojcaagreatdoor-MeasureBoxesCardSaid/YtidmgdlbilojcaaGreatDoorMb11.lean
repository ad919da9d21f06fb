import Derived.Test.YtidmgdlbilojcaaGreatDoorMb10
set_option linter.all false
set_option maxHeartbeats 4000000
set_option maxRecDepth 100000
section
namespace Go.Sx
open Go Go.Proofs Tryz
variable {GB:Gh}
def aC8{h l y:Nat}(hh:h<y)(hl:l<4294967296)(hy:y<4294967296):PF GB prog 173 [.v (.int .u32 (h:Int)), .v (.int .u32 (l:Int)), .v (.int .u32 (y:Int))] (.tp [dU ((h*4294967296+l)/y),dU ((h*4294967296+l)%y)]):=by
 refine fn (fu:=⟨11⟩) func173 J J ntmps173 J J (fun C=>?_);refine kT 10 J (by omega) ?_;refine gx (fu:=⟨4⟩) J<|?_;refine kF 14 J (by omega) ?_;refine gx (fu:=⟨11⟩) (hv:=by simp only[ac];exact⟨by omega,(by decide)⟩) J<|?_;refine aj 19 (.d (.v (.int .u64 (h*2^32:Nat)))) J (by show FX.d (.v (.int _ _))= .d (.v (.int _ _));rw[sk _ 32 (by decide) (by show _*4294967296<_;omega) J]) ?_;refine gx (fu:=⟨3⟩) J<|?_;refine aj 22 (.d (.v (.int .u64 (l+h*2^32:Nat)))) J (congrArg (fun z:Nat=>FX.d (.v (.int .u64 (z:Int)))) (by rw[BitVec.or_comm];exact yz 64 l h 32 hl (by show _+_*4294967296<18446744073709551616;omega))) ?_;obtain⟨t,ht⟩: ∃t,t=h*4294967296+l:=⟨_,rfl⟩;have hq:t/y<4294967296:=by rw[kR (by omega)];have:=fZ 4294967296 (show h+1<=y from hh);omega
 have hr:t%y<y:=dX _ (by omega);refine aj 22 (.d (.v (.int .u64 (t:Nat)))) J (by show FX.d (.v (.int _ _))= .d (.v (.int _ _));congr 3;rw[ht];omega) ?_;refine gx (hv:=by simp only[ac];exact⟨⟨⟨⟨by omega,⟨(by omega),(by omega),(by omega)⟩⟩,by omega⟩,⟨(by omega),(by omega)⟩⟩,by kernel_rfl⟩) J<|?_;exact rz J (by show DV.tp [.v (.int _ _), .v (.int _ _)]= .tp [.v (.int _ _), .v (.int _ _)];rw[<-ht,<-qV,<-pZ];generalize t/y=q at*;generalize t%y=r at*;congr 4<;>(first|omega|(congr 3;omega)))
def aCt{A r i b:Nat}(d:Nat)(hb:0<b):(A*4294967296+d)/b=A/b*4294967296+(A%b*4294967296+d)/b/\(A*4294967296+d)%b=(A%b*4294967296+d)%b:=by
 have h:=qM A b;have e:A*4294967296+d=(A%b*4294967296+d)+b*(A/b*4294967296):=by
  rw[<-cX,Nat.add_right_comm,<-cS,kZ (A%b),h]
 rw[e,mK _ _ hb,nL];exact⟨kZ _ _,J⟩
def Sj{ds:List Nat}{i:Nat}(h:i<ds.length):dv (ds.drop i)=dv (ds.drop (i+1))*4294967296+ds.getD i 0:=by
 rw[bZ h,aX,aZ h];simp only[dv,lX];omega
def Py{W:List Nat}{i q:Nat}(h:i<W.length):dv ((W.set i q).drop i)=dv (W.drop (i+1))*4294967296+q:=by
 rw[Sj (by rw[aM];exact h),qU (by omega),NR h]
def atH{a b k:Nat}{W:List Nat}(hb:0<b)(hk:k<(dg a).length)(hl:W.length=(dg a).length)(h:dv (W.drop (k+1))=dv ((dg a).drop (k+1))/b):
  dv ((W.set k ((dv ((dg a).drop (k+1))%b*4294967296+(dg a).getD k 0)/b)).drop k)=dv ((dg a).drop k)/b/\dv ((dg a).drop k)%b=(dv ((dg a).drop (k+1))%b*4294967296+(dg a).getD k 0)%b:=by
 have:=aCt (A:=dv ((dg a).drop (k+1))) (r:=0) (i:=0) ((dg a).getD k 0) hb;rw[Py (by omega),h,Sj hk,this.1,this.2];exact⟨J,J⟩
def zy{a b:Nat}:gz a b<0↔a<b:=by unfold gz;split<;>(try split)<;>omega
def CK{a b:Nat}:0<gz a b↔b<a:=by unfold gz;split<;>(try split)<;>omega
def U3{x:Nat}(hx:x<4294967296):PF GB prog 231 [dU x] (vI (32-(bl x:Int))):=by
 intro G vs hg hv;obtain⟨v,m,rfl,h1,h2⟩:=bh.1 hv;rw[eG] at h2;subst h2;rw[aI.1 h1];exact(KQ hx).mono fun v G' _ h=>aI.2 h
def O2{a k:Nat}(h:4294967296^k<=a):k<(dg a).length:=by
 have h1:=u6 a;rcases iT k (dg a).length with q|q
 ·exact q
 ·have:4294967296^(dg a).length<=4294967296^k:=bY (by decide) q
  omega
def Tn{v L:Nat}(hL:L=(dg v).length)(h1:1<=L):(dg v).getD (L-1) 0=v/4294967296^(L-1)/\0<v/4294967296^(L-1):=by
 have h:=Kw (kG v) (L-1);rw[vg (by omega:(dg v).length<=L-1+1),ck,qZ,fQ] at h;have h2:=u6 v;rw[<-hL] at h2;rw[jM (show v<4294967296^(L-1+2) from dW h2 (bY (by decide) (by omega))),qZ,fQ] at h;have h3:=rx (eE v).2.2 (by intro e;rw[e] at hL;simp at hL;omega);rw[ck,<-hL] at h3;exact⟨h.symm,Nat.div_pos h3 (fY (by decide))⟩
def HH{R n:Nat}(h1:1<=n)(h:R<4294967296^(n+1)):R/4294967296^(n-1)=(dg R).getD (n-1) 0+(dg R).getD n 0*4294967296:=by
 have e:=Kw (kG R) (n-1);rw[ck,show n-1+1=n by omega,jM (show R<4294967296^(n-1+2) by rwa [show n-1+2=n+1 by omega]),qZ,fQ,bN] at e;exact e
def X7{R v j L:Nat}(hL:L=(dg v).length)(h1:1<=L)(hR:R<v*4294967296^(j+1)):R/(v*4294967296^j)<=min (R/4294967296^(L+j-1)/(v/4294967296^(L-1))) 4294967295:=by
 have ht:=(Tn hL h1).2;have hp:0<4294967296^j:=fY (by decide);have hv0:0<v:=by
  rcases fX v with q|q
  ·subst q;simp at ht
  ·exact q
 have hvp:0<v*4294967296^j:=gU hv0 hp;refine Nat.le_min.2 ⟨?_,?_⟩
 ·rw[sQ ht,sQ (fY (by decide))]
  have h3:v/4294967296^(L-1)*4294967296^(L-1)<=v:=Nat.div_mul_le_self _ _;have h4:R/(v*4294967296^j)*(v*4294967296^j)<=R:=Nat.div_mul_le_self _ _;rw[show L+j-1=L-1+j by omega,fJ]
  calc R/(v*4294967296^j)*(v/4294967296^(L-1))*(4294967296^(L-1)*4294967296^j)
    =R/(v*4294967296^j)*((v/4294967296^(L-1)*4294967296^(L-1))*4294967296^j):=by simp only[cX]
   _<=R/(v*4294967296^j)*(v*4294967296^j):=fZ _ (bW _ h3)
   _<=R:=h4
 ·have:R/(v*4294967296^j)<4294967296:=by
   rw[kR hvp];rw[fR] at hR;rwa [bN,cX]
  omega
def EP{R V g:Nat}(hV:0<V)(h:R<V*g):R/V<g:=by
 rw[kR hV,bN];exact h
def WQ{R V g:Nat}(hV:0<V)(h1:R/V<=g)(h2:V*g<=R):g=R/V:=by
 have:g<=R/V:=by rw[sQ hV,bN];exact h2
 omega
def QQ{R0 R v j g:Nat}{W:List Nat}(hj:j<W.length)(h:R0=R+dv (W.drop (j+1))*4294967296^(j+1)*v)(hv:0<v*4294967296^j)(hg:g=R/(v*4294967296^j)):
  R0=(R-v*4294967296^j*g)+dv ((W.set j g).drop j)*4294967296^j*v/\R-v*4294967296^j*g<v*4294967296^j:=by
 have h1:=qM R (v*4294967296^j);have h2:=dX R hv;rw[<-hg] at h1;refine⟨?_,by omega⟩;rw[Py hj,cS,cS,h,fR];have e:g*4294967296^j*v=v*4294967296^j*g:=by simp only[cX,lW,bN]
 have e2:dv (W.drop (j+1))*(4294967296^j*4294967296)*v=dv (W.drop (j+1))*4294967296*4294967296^j*v:=by simp only[cX,lW,bN]
 rw[e,e2];omega
def UD{a b s R:Nat}{D:Nat}(hR:R<b*2^s)(h:a*2^s=R+D*(b*2^s)):D=a/b/\R/2^s=a%b:=by
 have hp:0<2^s:=fY (by decide);have hb:0<b:=by
  rcases fX b with q|q
  ·subst q;simp at hR
  ·exact q
 have h1:a=R/2^s+D*b:=by
  have:=congrArg (· /2^s) h;rw[Nat.mul_div_cancel _ hp,<-cX,Nat.add_mul_div_right _ _ hp] at this;exact this
 have h2:R/2^s<b:=by rw[kR hp];exact hR
 have h3:R/2^s+b*D=a:=by rw[bN b];exact h1.symm
 have:=(Nat.div_mod_unique hb).2 ⟨h3,h2⟩;exact⟨this.1.symm,this.2.symm⟩
def asx{a b s:Nat}(hl:(dg b).length<=(dg a).length)(h2:1<=(dg b).length):a*2^s<b*2^s*4294967296^((dg a).length-(dg b).length+1):=by
 have h1:=u6 a;have h3:=rx (eE b).2.2 (by intro e;rw[e] at h2;simp at h2);rw[ck] at h3;have h4:4294967296^(dg a).length<=b*4294967296^((dg a).length-(dg b).length+1):=by
  rw[show(dg a).length=((dg b).length-1)+((dg a).length-(dg b).length+1) by omega,fJ];rw[show(dg b).length-1+((dg a).length-(dg b).length+1)-(dg b).length+1=(dg a).length-(dg b).length+1 by omega];exact bW _ h3
 rw[rZ];exact lK (dW h1 h4) (fY (by decide))
def K9(x j:Nat):x*2^(32*j)=x*4294967296^j:=by rw[pN]
def Wn{R L j:Nat}(h:R<4294967296^(L+j+1))(h1:1<=L):R/4294967296^(L+j-1)<18446744073709551616:=by
 rw[kR (fY (by decide)),show(18446744073709551616:Nat)=4294967296^2 from J,<-fJ];rwa [show 2+(L+j-1)=L+j+1 by omega]
def axU{R v j L:Nat}(hL:L=(dg v).length)(hR:R<v*4294967296^(j+1)):R<4294967296^(L+j+1):=by
 have h:=u6 v;rw[<-hL] at h;rw[kK,fJ];exact dW hR (bW _ (mX h))
def Uf{a b ia ib:Nat}[ha:BN a ia][hb:BN b ib](hi:ia<=500000000)(hj:ib<=500000000)(h2:1<=(dg b).length)(hl:(dg b).length<=(dg a).length):PF GB prog 174 [dN a,dN b] (.tp [dN (a/b),dN (a%b)]):=by
 have hla:=fg (dg a);have hlb:=fg (dg b);have hba:=lw ha.h;have hba':(dg a).length<=20000000:=by omega
 refine fn func174 J J ntmps174 J J (fun C=>?_);refine ix _ J (gE (k:=(dg b).length-1) (by omega) (by omega)) J<|cl (fu:=⟨0⟩) J (U3 (ik b ((dg b).length-1))) J<|?_;obtain⟨s,hs⟩: ∃s:Nat,s=32-bl ((dg b).getD ((dg b).length-1) 0):=⟨_,rfl⟩;have hs32:s<=32:=by omega
 refine aj 22 (.d (vI (s:Nat))) J (by show FX.d (.v (.int _ _))= .d (.v (.int _ _));congr 3;have:=oy.2 (show(dg b).getD ((dg b).length-1) 0<2^32 from ik b _);omega) ?_;refine gx J<|cl J (Fw (a:=b) (k:=s) (ia:=ib) (by omega) (by omega)) J<|cl (fu:=⟨0⟩) J (Fw (a:=a) (k:=s) (ia:=ia) (by omega) (by omega)) J<|?_;obtain⟨v,hv⟩: ∃v,v=b*2^s:=⟨_,rfl⟩;obtain⟨R0,hR0⟩: ∃R0,R0=a*2^s:=⟨_,rfl⟩;refine aj 25 (.d (dN v)) J (by rw[hv]) ?_;refine aj 28 (.d (dN R0)) J (by rw[hR0]) ?_;obtain⟨L,hL⟩: ∃L,L=(dg v).length:=⟨_,rfl⟩;have hlv:((dg v).map dU).length=L:=by rw[fg,hL]
 have hps:2^s<=2^32:=bY (by decide) hs32;have hpp:0<2^s:=fY (by decide);have hst:=asx (a:=a) (b:=b) (s:=s) hl h2;rw[<-hv,<-hR0] at hst;have hvb:v<2^(ib+32):=by rw[hv,fJ];exact nR hb.h hps (by decide)
 have hRb:R0<2^(ia+32):=by rw[hR0,fJ];exact nR ha.h hps (by decide)
 have hbp:0<b:=iS (fun q=>by subst q;rw[zb] at h2;simp at h2);have hvp:0<v:=hv▸gU hbp hpp;have hLp:1<=L:=by rw[hL];exact O2 (k:=0) (by rw[rU];exact hvp)
 have htop:=Tn hL hLp;haveI hvB:BN v (ib+32):=⟨hvb⟩;have hLb:=lw hvb;have hLb':L<=20000000:=by omega
 have htl:=ik v (L-1);refine gx (fu:=⟨9⟩) J<|?_;refine aj 31 (.d (vI (L:Nat))) J (by rw[hlv];rfl) ?_;refine gx J<|ix (fu:=⟨2⟩) _ J (gE (k:=L-1) (by omega) (by omega)) J<|?_;refine aj 35 (.d (.v (.int .u64 (v/4294967296^(L-1):Nat)))) J (by rw[htop.1]) ?_;rw[htop.1] at htl;refine gx (fu:=⟨11⟩) J<|?_;obtain⟨m,hm⟩: ∃m,m=(dg a).length-(dg b).length+1:=⟨_,rfl⟩;rw[<-hm] at hst;have hrl:(List.replicate ((m:Nat):Int).toNat (DV.v (.int .u32 0))).length=m:=by rw[aY,bJ]
 refine aj 41 (.d (vI (m:Nat))) J (by show FX.d (.v (.int _ _))= .d (.v (.int _ _));congr 3;omega) ?_;refine gx J<|mk ((List.replicate m 0).map dU) J J (by rw[<-wY];rfl) J<|?_;refine lp (X:=List Nat×Nat×Nat) (fun⟨W,R,k⟩=>[(6, .d (vI (s:Nat))),(7, .d (dN v)),(8, .d (dN R)),(9, .d (.v (.int .u64 (v/4294967296^(L-1):Nat)))),(10, .rw 42),(11, .d (vI ((k:Nat)-1)))]) (fun⟨W,R,k⟩=>[(42,some (.b 215 1 (W.map dU) true))]) (fun⟨W,R,k⟩=>W.length=m/\bi W/\k<=m/\R0=R+dv (W.drop k)*4294967296^k*v/\R<v*4294967296^k/\R<=R0) (fun⟨W,R,k⟩=>k) ⟨List.replicate m 0,R0,m⟩ J ⟨by simp, .replicate _,aN _,by simp[dv],hst,aN _⟩ (fun _=>J) (fun⟨W,R,k⟩ hk=>?_);dsimp only at hk⊢;obtain⟨h1,h2',h3,h4,h5,h6⟩:=hk;have hlw:=fg W;refine br (fu1:=⟨10⟩) J J J (fun hc47=>?_) (fun hc47=>?_)
 .
  obtain⟨j,rfl⟩: ∃j,k=j+1:=⟨k-1,by omega⟩;have hvj:0<v*4294967296^j:=gU hvp (fY (by decide));have hge:=X7 hL hLp h5;have hlen:=axU hL h5;have hlr:((dg R).map dU).length=(dg R).length:=fg _;haveI hRB:BN R (ia+32):=⟨by omega⟩;have hq32:R/(v*4294967296^j)<4294967296:=by omega
  have hz1:=rX (R/4294967296^(L+j-1));have hz2:=rX (R/4294967296^(L+j-1)/(v/4294967296^(L-1)));refine aj 11 (.d (vI (j:Nat))) J (by show FX.d (.v (.int _ _))= .d (.v (.int _ _));congr 3;omega) ?_;refine mg (fu:=⟨6⟩) (hv:=fun _ _=>by simp only[ac];exact⟨(by omega),(by have:=Wn hlen hLp;omega),(by omega)⟩) (X:=Unit) (fun _=>[(6, .d (vI (s:Nat))),(7, .d (dN v)),(8, .d (dN R)),(9, .d (.v (.int .u64 (v/4294967296^(L-1):Nat)))),(10, .rw 42),(11, .d (vI (j:Nat))),(12, .d (.v (.int .u64 (R/4294967296^(L+j-1):Nat))))]) (fun _=>[(42,some (.b 215 1 (W.map dU) true))]) (fun _=>True) [6,7,8,9,10,11,12] [42] rfl ?_ (fun _=>J) (fun _ hm=>?_)
  .
   refine gx (fu:=⟨4⟩) J<|?_;refine aj 51 (.d (vI (L:Nat))) J (by rw[hlv];rfl) ?_;refine gx (fu:=⟨2⟩) J<|?_;refine aj 53 (.d (vI (L+j:Nat))) J (by show FX.d (.v (.int _ _))= .d (.v (.int _ _));congr 3) ?_;refine gx (fu:=⟨8⟩) J<|?_;refine aj 56 (.d (vI ((dg R).length:Nat))) J (by rw[hlr];rfl) ?_;refine gx J<|?_;refine br (fu2:=⟨6⟩) J J J (fun hc57=>?_) (fun hc57=>?_)
   .
    have hd0:=ik R (L+j-1);have hd1:=ik R (L+j);refine ix (hv:=by simp only[ac];exact⟨⟨by omega,(by decide)⟩,by omega⟩) _ J (gE (k:=L+j) (by omega) (by omega)) J<|ix (fu:=⟨3⟩) _ J (gE (k:=L+j-1) (by omega) (by omega)) J<|?_;refine aj 70 (.d (.v (.int .u64 ((dg R).getD (L+j-1) 0+(dg R).getD (L+j) 0*4294967296:Nat)))) J (congrArg (fun z:Nat=>FX.d (.v (.int .u64 (z:Int)))) (by rw[sk _ 32 (by decide) (by show _*4294967296<_;omega) J,BitVec.or_comm];exact yz 64 ((dg R).getD (L+j-1) 0) ((dg R).getD (L+j) 0) 32 hd0 (by show _+_*4294967296<18446744073709551616;omega))) ?_;refine gx J<|?_;refine aj 12 (.d (.v (.int .u64 (R/4294967296^(L+j-1):Nat)))) J (by rw[HH (by omega) hlen]) ?_;exact at_ () trivial
   .
    refine aj 74 (.d (vI ((dg R).length:Nat))) J (by rw[hlr];rfl) ?_;refine gx J<|?_;refine br J J J (fun hc75=>?_) (fun hc75=>?_)
    .
     have hd0:=ik R (L+j-1);refine ix _ J (gE (k:=L+j-1) (by omega) (by omega)) J<|?_;refine aj 12 (.d (.v (.int .u64 (R/4294967296^(L+j-1):Nat)))) J (by rw[HH (by omega) hlen,vg (by omega:(dg R).length<=L+j),mQ,fQ]) ?_;exact at_ () trivial
    .
     refine aj 12 (.d (.v (.int .u64 (R/4294967296^(L+j-1):Nat)))) J (by rw[HH (by omega) hlen,vg (by omega:(dg R).length<=L+j),vg (by omega:(dg R).length<=L+j-1)];rfl) ?_;exact at_ () trivial
  .
   obtain⟨g0,hg0'⟩: ∃g0,g0=min (R/4294967296^(L+j-1)/(v/4294967296^(L-1))) 4294967295:=⟨_,rfl⟩;rw[<-hg0'] at hge;have hg0:=hge;have hg1:g0<=4294967295:=by omega
   refine aj 85 (.d (.v (.int .u64 (g0:Nat)))) J (by show FX.d (.v (.int _ _))= .d (.v (.int _ _));congr 3;rw[<-qV];split<;>omega) ?_;refine gx J<|cl J (sG (u:=g0) (by omega)) J<|cl (fu:=⟨2⟩) J (r4 (ia:=ib+32) (ib:=32) (hb:=⟨by show _<4294967296;omega⟩) (by omega) (by decide)) J<|?_;refine aj 91 (.d (vI (32*j:Nat))) J (by show FX.d (.v (.int _ _))= .d (.v (.int _ _));congr 3) ?_;refine gx J<|cl (fu:=⟨0⟩) J (Fw (k:=32*j) (ia:=ib+64) (ha:=⟨by rw[show ib+64=ib+32+32 by omega,fJ];exact pX hvb (by show _<4294967296;omega)⟩) (by omega) (by omega)) J<|?_;refine aj 92 (.d (dN (v*4294967296^j*g0))) J (by rw[K9,rZ]) ?_;refine gx J<|?_;refine lp (X:=Nat) (fun g=>[(6, .d (vI (s:Nat))),(7, .d (dN v)),(8, .d (dN R)),(9, .d (.v (.int .u64 (v/4294967296^(L-1):Nat)))),(10, .rw 42),(11, .d (vI (j:Nat))),(14, .d (.v (.int .u64 (g:Nat)))),(15, .d (dN (v*4294967296^j*g)))]) (fun g=>[(42,some (.b 215 1 (W.map dU) true))]) (fun g=>R/(v*4294967296^j)<=g/\g<=4294967295) (fun g=>g) g0 J ⟨hg0,by omega⟩ (fun _=>J) (fun g hk=>?_);obtain⟨g1,g2⟩:=hk;have hlw:=fg W;refine cl J (Cd (a:=v*4294967296^j*g) (b:=R) (by have:=CO (a:=v*4294967296^j*g) (k:=L+j+1) (by have h1:=u6 v;rw[<-hL] at h1;rw[fR,fJ];exact pX (lK h1 (fY (by decide))) (by omega));omega) (by have:=CO hlen;omega)) J<|?_;refine br (fu1:=⟨7⟩) (v1:=fun hc96=>by simp only[ac];exact(by have h:=EP hvj (CK.1 hc96);have h1:1<=g:=fT (bV _) h;omega)) (fu2:=⟨11⟩) J J J (fun hc96=>?_) (fun hc96=>?_)
   .
    have hgd:=EP hvj (CK.1 hc96);have hg1p:1<=g:=fT (bV _) hgd;refine aj 98 (.d (.v (.int .u64 ((g-1:Nat):Int)))) J (by show FX.d (.v (.int _ _))= .d (.v (.int _ _));congr 3;omega) ?_;refine gx J<|cl J (sG (u:=g-1) (by omega)) J<|cl (fu:=⟨2⟩) J (r4 (ia:=ib+32) (ib:=32) (hb:=⟨by show _<4294967296;omega⟩) (by omega) (by decide)) J<|?_;refine aj 104 (.d (vI (32*j:Nat))) J (by show FX.d (.v (.int _ _))= .d (.v (.int _ _));congr 3) ?_;refine gx J<|cl (fu:=⟨0⟩) J (Fw (k:=32*j) (ia:=ib+64) (ha:=⟨by rw[show ib+64=ib+32+32 by omega,fJ];exact pX hvb (by show _<4294967296;omega)⟩) (by omega) (by omega)) J<|?_;refine aj 105 (.d (dN (v*4294967296^j*(g-1)))) J (by rw[K9,rZ]) ?_;refine gx J<|?_;exact at_ (g-1) ⟨⟨by have h:=EP hvj (CK.1 hc96);omega,by omega⟩,(by have:=EP hvj (CK.1 hc96);omega)⟩
   .
    have hgq:=WQ hvj g1 (sX fun q=>hc96 (CK.2 q));refine aj 109 (.d (dU g)) J (by show FX.d (.v (.int _ _))= .d (.v (.int _ _));congr 3;omega) ?_;refine gx J<|sb _ ((W.set j (R/(v*4294967296^j))).map dU) J (gE (k:=j) (by omega) (by omega)) J (by(rw[<-hgq,bJ,<-uV])<;>rfl) J<|?_;refine cl (fu:=⟨0⟩) J (GZ (a:=R) (b:=v*4294967296^j*g) (ia:=ia+32) (by rw[hgq];exact Nat.mul_div_le _ _) (by omega)) J<|?_;refine aj 113 (.d (dN (R-v*4294967296^j*(R/(v*4294967296^j))))) J (by rw[hgq]) ?_;refine gx J<|?_;exact at_ ⟨W.set j (R/(v*4294967296^j)),R-v*4294967296^j*(R/(v*4294967296^j)),j⟩ (by dsimp only;exact⟨⟨by simpa using h1,h2'.set _ (by omega),by omega,(QQ (by omega) h4 hvj J).1,(QQ (by omega) h4 hvj J).2,by omega⟩,(by omega)⟩)
 .
  obtain rfl:k=0:=by omega
  rw[rU,iY] at h5;rw[rU,iY,iX,hR0,hv] at h4;rw[hv] at h5;have hend:=UD h5 h4;haveI hRB:BN R (ia+32):=⟨by omega⟩;refine fz 42 J J<|cl J (rH (ds:=W) (by omega)) J<|cl J (aA0 (a:=R) (k:=s) (ia:=ia+32) (by omega) (by omega)) J<|?_;exact rz J (by show DV.tp [fp _,dN _]= .tp [dN _,dN _];rw[th h2' hend.1,hend.2])
def Yf{a b:Nat}(h:b<=a):(dg b).length<=(dg a).length:=CO (fT h (u6 a))
def Af{a b ia ib:Nat}[ha:BN a ia][hb:BN b ib](hb0:0<b)(hi:ia<=500000000:=by decide)(hj:ib<=500000000:=by decide):PF GB prog 113 [dN a,dN b] (.tp [dN (a/b),dN (a%b)]):=by
 have hla:=fg (dg a);have hlb:=fg (dg b);have hba:=lw ha.h;have hbb:=lw hb.h;have hba':(dg a).length<=20000000:=by omega
 have hbb':(dg b).length<=20000000:=by omega
 have hlb1:1<=(dg b).length:=O2 (k:=0) (by rw[rU];exact hb0);refine fn (fu:=⟨7⟩) func113 J J ntmps113 J J (fun C=>?_);refine mg (X:=Unit) (fun _=>[(0, .d (dN a)),(1, .d (dN b))]) (fun _=>[]) (fun _=>True) [0,1] [] rfl ?_ (fun _=>J) (fun _ hm=>?_)
 .
  refine gx J<|cl J (Eu (a:=a) (ia:=ia) (by omega)) J<|?_;refine bd (fu1:=⟨0⟩) J J J (fun hc18=>?_) (fun hc18=>?_)
  .
   refine aj 6 (.d (.v (.int .u64 (a:Nat)))) J (by rw[if_pos hc18]) ?_;refine gx J<|cl J (Eu (a:=b) (ia:=ib) (by omega)) J<|?_;refine bd (fu1:=⟨0⟩) J J J (fun hc24=>?_) (fun hc24=>?_)
   .
    refine aj 8 (.d (.v (.int .u64 (b:Nat)))) J (by rw[if_pos hc24]) ?_;have hdl:=kM a b;have hml:=Nat.mod_le a b;refine gx (hv:=by simp only[ac];exact⟨(by omega),(by omega),(by omega)⟩) J<|cl (hv:=by simp only[ac];exact⟨(by omega),(by omega)⟩) J (sG (u:=a/b) (by omega)) J<|cl J (sG (u:=a%b) (by omega)) J<|?_;exact rz J J
   .
    exact at_ () trivial
  .
   exact at_ () trivial
 .
  refine cl J (Cd (by omega) (by omega)) J<|?_;refine br J J J (fun hc36=>?_) (fun hc36=>?_)
  .
   have hab:=zy.1 hc36;refine rp J J<|ap _ J J (vK _) J<|?_;refine iE 39 J ?_;exact rz J (by show DV.tp [_, .sl ([]++_)]= .tp [_,_];rw[jM hab,eX hab,p9];rfl)
  .
   have hab:b<=a:=sX fun q=>hc36 (zy.2 q);have hlab:(dg b).length<=(dg a).length:=Yf hab;refine br (fu1:=⟨4⟩) J J J (fun hc42=>?_) (fun hc42=>?_)
   .
    have hb1:b<4294967296:=by have:=u6 b;rw[show(dg b).length=1 by omega] at this;omega
    have hbd:(dg b).getD 0 0=b:=yy (by omega);refine aj 44 (.d (vI ((dg a).length:Nat))) J (by rw[hla];rfl) ?_;refine gx J<|mk (fu:=⟨13⟩) ((List.replicate (dg a).length 0).map dU) J J (by rw[<-wY];rfl) J<|?_;refine aj 47 (.d (vI ((dg a).length:Nat))) J (by rw[hla];rfl) ?_;refine gx J<|?_;refine lp (X:=List Nat×Nat) (fun⟨W,k⟩=>[(0, .d (dN a)),(1, .d (dN b)),(10, .rw 45),(11, .d (dU (dv ((dg a).drop k)%b))),(12, .d (vI ((k:Nat)-1)))]) (fun⟨W,k⟩=>[(45,some (.b 215 1 (W.map dU) true))]) (fun⟨W,k⟩=>W.length=(dg a).length/\bi W/\k<=(dg a).length/\dv (W.drop k)=dv ((dg a).drop k)/b) (fun⟨W,k⟩=>k) ⟨List.replicate (dg a).length 0,(dg a).length⟩ J ⟨by simp, .replicate _,aN _,by simp[dv]⟩ (fun _=>J) (fun⟨W,k⟩ hk=>?_) (hF:=(by refine⟨J,J,J,pG J (by simp[dv,dU]),pG J (by simp[vI]),?_⟩;repeat (first|exact trivial|refine And.intro J ?_)))
    try dsimp only at hk⊢
    obtain⟨h1,h2,h3,h4⟩:=hk;have hlw:=fg W;refine br (fu1:=⟨0⟩) J J J (fun hc50=>?_) (fun hc50=>?_)
    .
     obtain⟨k,rfl⟩: ∃j,k=j+1:=⟨k-1,by omega⟩;have hsi:=atH hb0 (by omega) h1 h4;have hrm:=dX (dv ((dg a).drop (k+1))) hb0;have hdk:=ik a k;have hqd:(dv ((dg a).drop (k+1))%b*4294967296+(dg a).getD k 0)/b<4294967296:=by rw[kR hb0];have:=fZ 4294967296 (show dv ((dg a).drop (k+1))%b+1<=b from hrm);omega
     refine aj 12 (.d (vI (k:Nat))) J (by show FX.d (.v (.int _ _))= .d (.v (.int _ _));congr 3;omega) ?_;refine gx J<|ix _ J (gE (k:=k) (by omega) (by omega)) J<|ix _ J (gE (k:=0) J (by omega)) J<|cl J (aC8 (h:=dv ((dg a).drop (k+1))%b) (l:=(dg a).getD k 0) (y:=(dg b).getD 0 0) (by omega) hdk (by omega)) J<|?_;refine sb (hv:=by simp only[ac];exact⟨by kernel_rfl,by omega⟩) _ ((W.set k ((dv ((dg a).drop (k+1))%b*4294967296+(dg a).getD k 0)/b)).map dU) J (gE (k:=k) (by omega) (by omega)) J (by(rw[hbd,bJ,<-uV])<;>rfl) J<|?_;exact at_ ⟨W.set k ((dv ((dg a).drop (k+1))%b*4294967296+(dg a).getD k 0)/b),k⟩ (by dsimp only;exact⟨⟨by simpa using h1,h2.set _ hqd,by omega,hsi.1⟩,(by omega)⟩) (by refine⟨J,J,J,pG J (by rw[hsi.2,hbd]),pG J (by first|(simp[vI];done)|(simp[vI];omega)),?_⟩;repeat (first|exact trivial|refine And.intro J ?_))
    .
     refine fz 45 J J<|cl J (rH (ds:=W) (by omega)) J<|rf J J<|cl J (rH (ds:=[dv ((dg a).drop k)%b]) (by simp)) J<|?_;exact rz rfl (by show DV.tp [fp _,fp _]= .tp [_,_];obtain rfl:k=0:=(by omega);rw[iX,iX,ck] at h4;rw[iX,ck];rw[th h2 h4,th (.cons (by have:=dX a hb0;omega) .nil) (n:=a%b) (by simp[dv])])
   .
    refine cl J (Uf (by omega) (by omega) hlb1 hlab) J<|?_;exact rz J J
def Rk(x y:Nat):Nat.gcd y (x%y)=Nat.gcd x y:=by rw[jQ x y,tV y x,jQ]
def KU{a b ia ib:Nat}[ha:BN a ia][hb:BN b ib](hi:ia<=240000000:=by decide)(hj:ib<=240000000:=by decide):PF GB prog 111 [dN a,dN b] (dN (Nat.gcd a b)):=by
 refine fn (fu:=⟨6⟩) func111 J J ntmps111 J J (fun C=>?_);refine mg (X:=Unit) (fun _=>[(0, .d (dN a)),(1, .d (dN b))]) (fun _=>[]) (fun _=>True) [0,1] [] rfl ?_ (fun _=>J) (fun _ hm=>?_)
 .
  refine gx J<|cl J (Eu (a:=a) (ia:=ia) (by omega)) J<|?_;refine bd (fu1:=⟨0⟩) J J J (fun hc16=>?_) (fun hc16=>?_)
  .
   refine aj 5 (.d (.v (.int .u64 (a:Nat)))) J (by rw[if_pos hc16]) ?_;refine gx J<|cl J (Eu (a:=b) (ia:=ib) (by omega)) J<|?_;refine bd (fu1:=⟨0⟩) J J J (fun hc22=>?_) (fun hc22=>?_)
   .
    refine aj 7 (.d (.v (.int .u64 (b:Nat)))) J (by rw[if_pos hc22]) ?_;refine gx J<|?_;refine lp (X:=Nat×Nat) (fun⟨x,y⟩=>[(5, .d (.v (.int .u64 (x:Nat)))),(7, .d (.v (.int .u64 (y:Nat))))]) (fun⟨x,y⟩=>[]) (fun⟨x,y⟩=>x<18446744073709551616/\y<18446744073709551616/\Nat.gcd x y=Nat.gcd a b) (fun⟨x,y⟩=>y) ⟨a,b⟩ J ⟨hc16,hc22,J⟩ (fun _=>J) (fun⟨x,y⟩ hk=>?_)
    try dsimp only at hk⊢
    obtain⟨h1,h2,h3⟩:=hk;refine br (v1:=fun hc24=>by simp only[ac];exact⟨⟨(by omega),(by omega)⟩,by kernel_rfl⟩) J J J (fun hc24=>?_) (fun hc24=>?_)
    .
     exact at_ ⟨y,x%y⟩ (by dsimp only;exact⟨⟨h2,by have:=dX x (show 0<y by omega);omega,by rw[Rk,h3]⟩,(by exact dX _ (by omega))⟩)
    .
     refine cl J (sG (u:=x) h1) J<|?_;exact rz J (by show dN x=_;rw[<-h3,show y=0 by omega,nT])
   .
    exact at_ () trivial
  .
   exact at_ () trivial
 .
  refine lp (fu:=⟨5⟩) (X:=Nat×Nat) (fun⟨x,y⟩=>[(0, .d (dN x)),(1, .d (dN y))]) (fun⟨x,y⟩=>[]) (fun⟨x,y⟩=>x<2^(ia+ib)/\y<2^(ia+ib)/\Nat.gcd x y=Nat.gcd a b) (fun⟨x,y⟩=>y) ⟨a,b⟩ J ⟨(ha.mono (by omega)).h,(hb.mono (by omega)).h,J⟩ (fun _=>J) (fun⟨x,y⟩ hk=>?_)
  try dsimp only at hk⊢
  obtain⟨h1,h2,h3⟩:=hk;have hly:=fg (dg y);haveI hx':BN x (ia+ib):=⟨h1⟩;haveI hy':BN y (ia+ib):=⟨h2⟩;refine aj 32 (.d (vI ((dg y).length:Nat))) J (by rw[hly];rfl) ?_;refine gx J<|?_;refine br J J J (fun hc33=>?_) (fun hc33=>?_)
  .
   have hy0:0<y:=iS fun q=>by subst q;rw[zb] at hc33;simp at hc33
   refine cl J (Af (a:=x) (b:=y) (ia:=ia+ib) (ib:=ia+ib) hy0 (by omega) (by omega)) J<|?_;exact at_ ⟨y,x%y⟩ (by dsimp only;exact⟨⟨h2,by have:=dX x hy0;omega,by rw[Rk,h3]⟩,(by exact dX _ hy0)⟩)
  .
   have hy0:y=0:=xg.1 (by omega);have hlx:=lw h1;have hmx:=fg (dg x);refine rp J J<|ap _ J J (vK _) J<|?_;refine iE 44 J ?_;exact rz J (by show DV.sl ([]++_)=_;rw[<-h3,hy0,nT];rfl)
def S8(neg:Bool)(m:Nat):eI (zv neg m)= .ag [.v (.bool (neg&&decide (0<m))),dN m]:=by unfold eI;rw[rI,Pq]
def aEg(z:Int):zv (!decide (z<0)) z.natAbs= -z:=by
 unfold zv;by_cases h:z<0<;>simp[h]<;>omega
def WE(a b:Int):zv (!(decide (a<0)==decide (b<0))) (a.natAbs*b.natAbs)=a*b:=by
 have h:=L0 (decide (a<0)) (decide (b<0)) a.natAbs b.natAbs;rw[lP,lP] at h;exact h
def kB{neg:Bool}{m:Nat}:PF GB prog 49 [.v (.bool neg),dN m] (eI (zv neg m)):=by
 have hl:=fg (dg m);have hz:= @xg m;refine fn func49 J J ntmps49 J J (fun C=>?_);refine jd 6 J J J (fun hg6=>?_) (fun hg6=>?_)
 .
  exact rz J (by rw[S8,hg6];show DV.ag [.v (.bool _),_]= .ag [.v (.bool _),_];congr 4;rw[Bool.true_and];exact decide_eq_decide.2 (by omega))
 .
  exact rz J (by rw[S8,hg6];rfl)
structure FI where
 lo:RV
 hi:RV
 nl:Bool
 nh:Bool
def FI.v(z:FI):Value:= .agg ⟨[.int .i64 z.lo.n, .int .i64 z.lo.d, .pointer z.lo.p, .int .i64 z.hi.n, .int .i64 z.hi.d, .pointer z.hi.p, .bool z.nl, .bool z.nh]⟩
section
variable {P:Program} {C:aB} {n:Nat} {fr:Fr} {own own' own1:List av} {G:Gh} {Φ:Act->World->Prop}
variable {dst:Option Nat} {t t' ty':TypeId} {pos:String} {af:Array Edge} {gd:Option (Nat×Bool)} {x y:Operand} {e s by_:Nat}
end
structure Xh (k:Nat) (G:Gh) (z:FI) (v:ah):Prop where
 lo:xu k G z.lo v.lo
 hi:xu k G z.hi v.hi
 nl:z.nl=v.nl
 nh:z.nh=v.nh
def MB:List Int->Int
 |[]=>0
 |x::t=>if x≠0 then x else MB t
def aJK(l m:aa):Int:=MB [bg l.a m.a,bg l.b m.b,bg l.c m.c]
structure BX where
 l:LV
 v:FI
def BX.val(z:BX):Value:= .agg ⟨[.int .i64 z.l.a.n, .int .i64 z.l.a.d, .pointer z.l.a.p, .int .i64 z.l.b.n, .int .i64 z.l.b.d, .pointer z.l.b.p, .int .i64 z.l.c.n, .int .i64 z.l.c.d, .pointer z.l.c.p, .int .i64 z.v.lo.n, .int .i64 z.v.lo.d, .pointer z.v.lo.p, .int .i64 z.v.hi.n, .int .i64 z.v.hi.d, .pointer z.v.hi.p, .bool z.v.nl, .bool z.v.nh]⟩
structure aI9 (k:Nat) (G:Gh) (z:BX) (f:ba):Prop where
 l:I4 k G z.l f.l
 v:Xh (25*k+6) G z.v f.v
inductive ta {α β:Type} (R:α->β->Prop):List α->List β->Prop
 |nil:ta R [] []
 |cons {a b us bs} (h:R a b) (t:ta R us bs):ta R (a::us) (b::bs)
structure UN (k:Nat) (G:Gh) (x:SV) (c:aw):Prop where
 ex: ∃fs:List BX,eH G 17 x (fs.map BX.val)/\ta (aI9 k G) fs c

section
variable {P:Program} {C:aB} {n:Nat} {fr:Fr} {own own':List av} {G:Gh} {Φ:Act->World->Prop}
variable {dst:Option Nat} {t t' ty':TypeId} {pos:String} {af:Array Edge} {gd:Option (Nat×Bool)} {x y:Operand} {e s by_:Nat}
def XD{o1 o2:av}{rest:List av}(h:o1.b≠o2.b->St C n fr (o1::o2::rest) G Φ):St C n fr (o1::o2::rest) G Φ:=
 fun a w rl=>h ((bR.1 rl.h.nd).1 _ aQ) a w rl
def Ej[hT:cv P t e s by_]{k:IntKind}{b off len cap:Nat}{l:Int}(hx:ax fr x=some (.slice (some ⟨b,off,none⟩) len cap))(hy:ax fr y=some (.int k l))(h0:0<=l)(h1:l<=len)(h2:l<cap):
  Yd P C fr own G ⟨dst, .slice t x (some y) none none,ty',pos,af,gd⟩ (.slice (some ⟨b,off+l.toNat*s,none⟩) (len-l.toNat) (cap-l.toNat)):=by
 have h:=Ew (P:=P) (C:=C) (own:=own) (G:=G) (t:=t) (dst:=dst) (ty':=ty') (pos:=pos) (af:=af) (gd:=gd) (by_:=by_) hx hy h0 h1;unfold nq at h;rw[if_neg (by omega)] at h;simpa[pz] using h
end

section
variable {P:Program} {C:aB} {n:Nat} {fr:Fr} {own own':List av} {G:Gh} {Φ:Act->World->Prop}
variable {dst:Option Nat} {t t' ty':TypeId} {pos:String} {af:Array Edge} {gd:Option (Nat×Bool)} {x y:Operand} {e s by_:Nat}
end

def IZ(k:Nat)(G:Gh):Tr->Option Addr->Prop
 | .leaf b,p=> ∃n,p=some ⟨n,0,none⟩/\G n=some [.int .i64 0, .int .i64 0, .pointer none, .int .i64 0, .int .i64 0, .pointer none, .int .i64 0, .int .i64 0, .pointer none, .pointer none, .pointer none, .bool b]
 | .node l x y,p=> ∃(n:Nat) (z:LV) (q r:Option Addr),p=some ⟨n,0,none⟩/\G n=some [.int .i64 z.a.n, .int .i64 z.a.d, .pointer z.a.p, .int .i64 z.b.n, .int .i64 z.b.d, .pointer z.b.p, .int .i64 z.c.n, .int .i64 z.c.d, .pointer z.c.p, .pointer q, .pointer r, .bool false]/\I4 k G z l/\IZ k G x q/\IZ k G y r
structure ND where
 a:IV
 b:IV
 c:IV
 l:Int
 r:Int
def ND.val(z:ND):Value:= .agg ⟨[.bool z.a.neg, .slice z.a.a.a z.a.a.n z.a.a.c, .bool z.b.neg, .slice z.b.a.a z.b.a.n z.b.a.c, .bool z.c.neg, .slice z.c.a.a z.c.a.n z.c.a.c, .int .i64 z.l, .int .i64 z.r]⟩
structure Z0 (k:Nat) (G:Gh) (z:ND) (n:NQ):Prop where
 a:xf k G z.a n.l.a
 b:xf k G z.b n.l.b
 c:xf k G z.c n.l.c
 l:z.l=n.a
 r:z.r=n.b
structure aJ0 (k:Nat) (G:Gh) (x:SV) (ns:List NQ):Prop where
 ex: ∃zs:List ND,eH G 8 x (zs.map ND.val)/\ta (Z0 k G) zs ns
def aI4(n i:Nat):List Value:=(List.range n).map fun j=> .bool (decide (j<i))

def aH4(ob wb:Nat):Value:= .func (.func 129) #[] #[.pointer (some ⟨ob,0,none⟩), .pointer (some ⟨wb,0,none⟩)]
structure BG where
 x:SV
 p:Option Addr
def BG.val(z:BG):Value:= .agg ⟨[.slice z.x.a z.x.n z.x.c, .pointer z.p]⟩
structure aI3 (k:Nat) (G:Gh) (z:BG) (b:Bool×aw):Prop where
 c:UN k G z.x b.2
 t:IZ k G (.leaf b.1) z.p
structure aJN (k:Nat) (G:Gh) (w:SV) (ps:List (Bool×aw)):Prop where
 ex: ∃zs:List BG,eH G 2 w (zs.map BG.val)/\ta (aI3 k G) zs ps
structure LI where
 a:IV
 b:IV
 c:IV
def LI.val(z:LI):Value:= .agg ⟨[.bool z.a.neg, .slice z.a.a.a z.a.a.n z.a.a.c, .bool z.b.neg, .slice z.b.a.a z.b.a.n z.b.a.c, .bool z.c.neg, .slice z.c.a.a z.c.a.n z.c.a.c]⟩
structure aIS (k:Nat) (G:Gh) (z:LI) (l:aa):Prop where
 a:xf k G z.a l.a
 b:xf k G z.b l.b
 c:xf k G z.c l.c
structure aIV (k:Nat) (G:Gh) (x:SV) (ls:List aa):Prop where
 ex: ∃zs:List LI,eH G 6 x (zs.map LI.val)/\ta (aIS k G) zs ls
structure aJA (k:Nat) (G:Gh) (x:SV) (ls:List aa):Prop where
 ex: ∃zs:List LV,eH G 9 x (zs.map LV.v)/\ta (I4 k G) zs ls
def wl{a b:Int}(h:a=b):eI a=eI b:=by rw[h]
def EC(z:Int):eQ (z:Rat)= .ag [.v (.bool (decide (z<0))),dN z.natAbs, .sl []]:=by unfold eQ;rw[qN,rQ];rfl
def Fc{a:Rat}(h:a.den=1):((a.num:Int):Rat)=a:=Rat.ext (qN _) (by rw[rQ,h])
def Ud{a b:Rat}(ha:a.den=1)(hb:b.den=1):a+b=((a.num+b.num:Int):Rat):=by
 rw[pT,Fc ha,Fc hb]
def UL{a b:Rat}(ha:a.den=1)(hb:b.den=1):a*b=((a.num*b.num:Int):Rat):=by
 rw[cY,Fc ha,Fc hb]
def Ay(n:Nat)(h:0<n):(if n=1 then [] else(dg n).map dU).length=0↔n=1:=by
 by_cases q:n=1
 ·simp[q]
 ·rw[if_neg q,aK,xg];omega
def Th{n:Nat}(h:n≠1):dD n=dN n:=by unfold dD;rw[if_neg h];rfl
def I7{g:Nat}:(gz g 1=0)↔g=1:=by
 unfold gz;constructor
 ·intro h;split at h
  ·exact absurd h (by decide)
  ·split at h
   ·assumption
   ·exact absurd h (by decide)
 ·rintro rfl;rfl
def Oh{x:Int}{d:Nat}(hd:0<d):zv (decide (x<0)) (x.natAbs/Nat.gcd x.natAbs d)=(mkRat x d).num:=by
 rw[Rat.num_mkRat,if_neg (by omega),jQ];have hg:0<Nat.gcd d x.natAbs:=mY _ hd;obtain⟨c,hc⟩:Nat.gcd d x.natAbs∣x.natAbs:=oK _ _;generalize Nat.gcd d x.natAbs=g at*;rw[hc,Nat.mul_div_cancel_left _ hg];unfold zv;by_cases q:x<0
 ·rw[if_pos (by simpa using q),show x=(g:Int)*(-(c:Int)) by rw[sU,<-jX];omega,Int.mul_ediv_cancel_left _ (by omega)]
 ·rw[if_neg (by simpa using q),show x=(g:Int)*(c:Int) by rw[<-jX];omega,Int.mul_ediv_cancel_left _ (by omega)]
def Qk{x:Int}{d:Nat}(hd:0<d):d/Nat.gcd x.natAbs d=(mkRat x d).den:=by
 rw[Rat.den_mkRat,if_neg (by omega),jQ]
def Vb{x:Int}{d:Nat}(hd:0<d)(h:Nat.gcd x.natAbs d=1):(mkRat x d).num=x/\(mkRat x d).den=d:=by
 rw[<-Oh hd,<-Qk hd,h,tW,tW];exact⟨lP x,J⟩
instance BI.zv (neg:Bool) (m i:Nat) [h:BN m i]:BI (zv neg m) i:=⟨by rw[rI];exact h.h⟩
section
variable {GB:Gh} {C:aB} {n:Nat} {Q0:Exit->Act->World->Prop} {fr fr':az} {own own':aC} {cf cf':Cf} {vc:List Prop}
def SP(fr:az)(cf:Cf):Option Int:=match cx fr cf with
 |some ⟨_, .convert t t' x,_,_,_,_⟩=>match dl tt t,dl tt t' with
  |some ⟨.int .i64,_,_,_⟩,some ⟨.int .u64,_,_,_⟩=>match aF (bC fr cf) x with
   |some (.d (.v (.int .i64 p)))=>some p
   |_=>none
  |_,_=>none
 |_=>none
def Wm[fu:Fu]{p:Int}(q:Int)(h:SP fr cf=some p)(e:p%18446744073709551616=q)(hgo:cF tt n fu.n fr own cf (.d (.v (.int .u64 q))) [] []=⟨vc,fr',own',cf'⟩)(k:ak prog GB C n Q0 fr' own' cf')
  (hv:ac vc:=by first|exact trivial|(simp only[ac];omega)):ak prog GB C n Q0 fr own cf:=by
 unfold SP at h;split at h<;>try (cases h;done)
 rename_i hh;split at h<;>try (cases h;done)
 rename_i hT hT';split at h<;>cases h;rename_i hx;have:=yx (dP _ _ hT) J;have:=yx (dP _ _ hT') J;refine us hh (.x1 hx fun ρ G ov a w y _ r h1 h2=>?_) hgo hv k;rw[c8] at h2;subst h2;refine⟨_,c8.2 J,?_⟩;rw[<-e,<-n8];exact Ez h1
def Rg(fr:az)(cf:Cf):Option Int:=match cx fr cf with
 |some ⟨_, .unOp .neg _ x,_,_,_,_⟩=>match aF (bC fr cf) x with
  |some (.d (.v (.int .u64 p)))=>some p
  |_=>none
 |_=>none
def T6[fu:Fu]{p:Int}(q:Int)(h:Rg fr cf=some p)(e:(0-p)%18446744073709551616=q)(hgo:cF tt n fu.n fr own cf (.d (.v (.int .u64 q))) [] []=⟨vc,fr',own',cf'⟩)(k:ak prog GB C n Q0 fr' own' cf')
  (hv:ac vc:=by first|exact trivial|(simp only[ac];omega)):ak prog GB C n Q0 fr own cf:=by
 unfold Rg at h;split at h<;>try (cases h;done)
 rename_i hh;split at h<;>cases h;rename_i hx;refine us hh (.x1 hx fun ρ G ov a w y _ r h1 h2=>?_) hgo hv k;rw[c8] at h2;subst h2;refine⟨_,c8.2 J,?_⟩;rw[<-e,<-n8];exact I0 h1
end
def HX{n:Int}(h0: -4611686018427387904<=n)(h1:n<=4611686018427387904):PF GB prog 70 [.v (.int .i64 n)] (eI n):=by
 refine fn func70 J J ntmps70 J J (fun C=>?_);refine br (fu1:=⟨3⟩) (fu2:=⟨6⟩) J J J (fun hc4=>?_) (fun hc4=>?_)
 .
  refine Wm (fu:=⟨0⟩) (18446744073709551616+n) J (by omega) J<|T6 (n.natAbs:Nat) J (by omega) J<|cl J (sG (u:=n.natAbs) (by omega)) J<|?_;refine cl J kB J<|?_;exact rz J (wl (by unfold zv;rw[if_pos J];omega))
 .
  refine aj 11 (.d (.v (.int .u64 (n.natAbs:Nat)))) J (by show FX.d (.v (.int _ _))= .d (.v (.int _ _));congr 3;omega) ?_;refine gx J<|cl J (sG (u:=n.natAbs) (by omega)) J<|cl J kB J<|?_;exact rz J (wl (by unfold zv;rw[if_neg (by decide)];omega))
def Dp{z:Int}:PF GB prog 63 [eI z] (vI z.sign):=by
 have hl:=fg (dg z.natAbs);have hz:= @xg z.natAbs;refine fn func63 J J ntmps63 J J (fun C=>?_);refine br J J J (fun hc6=>?_) (fun hc6=>?_)
 .
  exact rz J (by show DV.v (.int _ 0)=DV.v (.int _ _);rw[show z=0 by omega];rfl)
 .
  refine bd J J J (fun hc8=>?_) (fun hc8=>?_)
  .
   exact rz J (by show DV.v (.int _ (-1))=DV.v (.int _ _);rw[fK (by omega)])
  .
   exact rz J (by show DV.v (.int _ 1)=DV.v (.int _ _);rw[fW (by omega)])
def Cr{z:Int}:PF GB prog 152 [eI z] (eI (-z)):=by
 refine fn func152 J J ntmps152 J J (fun C=>?_);refine cl J kB J<|?_;exact rz J (wl (aEg z))
def awN{a b:Int}(h:decide (a<0)=decide (b<0)):zv (decide (a<0)) (a.natAbs+b.natAbs)=a+b:=by
 unfold zv;have h':a<0↔b<0:=by simpa using h
 by_cases q:a<0
 ·have:=h'.1 q
  simp[q];omega
 ·have: ¬b<0:=fun w=>q (h'.2 w)
  simp[q];omega
def T1{a b:Int}(h: ¬decide (a<0)=decide (b<0))(k:a.natAbs<b.natAbs):zv (decide (b<0)) (b.natAbs-a.natAbs)=a+b:=by
 unfold zv;have h': ¬(a<0↔b<0):=by simpa using h
 by_cases q:b<0
 ·have: ¬a<0:=fun w=>h' ⟨fun _=>q,fun _=>w⟩
  simp[q];omega
 ·have:a<0:=Int.not_le.1 fun w=>h' ⟨fun e=>by omega,fun e=>absurd e q⟩
  simp[q];omega
def aAN{a b:Int}(h: ¬decide (a<0)=decide (b<0))(k:b.natAbs<=a.natAbs):zv (decide (a<0)) (a.natAbs-b.natAbs)=a+b:=by
 unfold zv;have h': ¬(a<0↔b<0):=by simpa using h
 by_cases q:a<0
 ·have: ¬b<0:=fun w=>h' ⟨fun _=>w,fun _=>q⟩
  simp[q];omega
 ·have:b<0:=Int.not_le.1 fun w=>h' ⟨fun e=>absurd e q,fun e=>by omega⟩
  simp[q];omega
def Dw{a b:Int}{i j:Nat}[ha:BI a i][hb:BI b j](hi:i<=400000000:=by decide)(hj:j<=400000000:=by decide):PF GB prog 46 [eI a,eI b] (eI (a+b)):=by
 have hba:=lw ha.h;have hbb:=lw hb.h;refine fn (fu:=⟨15⟩) func46 J J ntmps46 J J (fun C=>?_);refine aj 9 (.d (.v (.bool (decide (decide (a<0)=decide (b<0)))))) J (by congr 2) ?_;refine gx J<|?_;refine bd J J J (fun hc9=>?_) (fun hc9=>?_)
 .
  refine cl J (VX (by omega) (by omega)) J<|cl J kB J<|?_;exact rz J (wl (awN hc9))
 .
  refine cl J (Cd (by omega) (by omega)) J<|?_;refine br J J J (fun hc23=>?_) (fun hc23=>?_)
  .
   refine cl J (GZ (by have:=zy.1 hc23;omega) (by omega)) J<|cl J kB J<|?_;exact rz J (wl (T1 hc9 (zy.1 hc23)))
  .
   refine cl J (GZ (sX fun q=>hc23 (zy.2 q)) (by omega)) J<|cl J kB J<|?_;exact rz J (wl (aAN hc9 (sX fun q=>hc23 (zy.2 q))))
def vA{a b:Int}{i j:Nat}[ha:BI a i][hb:BI b j](hi:i<=400000000:=by decide)(hj:j<=400000000:=by decide):PF GB prog 48 [eI a,eI b] (eI (a*b)):=by
 refine fn func48 J J ntmps48 J J (fun C=>?_);refine cl J (r4 (by omega) (by omega)) J<|cl J kB J<|?_;exact rz J (wl (WE a b))
def Kk{a b:Int}{i j:Nat}[ha:BI a i][hb:BI b j](hi:i<=400000000:=by decide)(hj:j<=400000000:=by decide):PF GB prog 240 [eI a,eI b] (vI (a-b).sign):=by
 refine fn func240 J J ntmps240 J J (fun C=>?_);refine cl J Cr J<|cl J (Dw (by omega) (by omega)) J<|cl J Dp J<|?_;exact rz J (by rw[Int.sub_eq_add_neg];rfl)
def kz{q:Rat}:PF GB prog 50 [eQ q] (dN q.den):=by
 refine fn func50 J J ntmps50 J J (fun C=>?_);refine br J J J (fun hc6=>?_) (fun hc6=>?_)
 .
  refine cl J GU J<|?_;exact rz J (by rw[(Ay q.den (nv q)).1 (by omega)];rfl)
 .
  exact rz J (by exact Th (fun e=>hc6 (by exact congrArg Int.ofNat ((Ay q.den (nv q)).2 e))))
def Oz{n k:Nat}[h:BN n k](hk:k<=500000000):(dg n).length<=100000000:=by have:=lw h.h;omega
def uT{x:Int}{d i j:Nat}[hx:BI x i][hd:BN d j](hd0:0<d)(hi:i<=200000000:=by decide)(hj:j<=200000000:=by decide):PF GB prog 47 [eI x,dN d] (eQ (mkRat x d)):=by
 obtain⟨q,hq⟩: ∃q,q=mkRat x d:=⟨_,rfl⟩;obtain⟨g,hg⟩: ∃g,g=Nat.gcd x.natAbs d:=⟨_,rfl⟩;have hg0:0<g:=hg▸oU _ hd0;haveI hgB:BN g (i+j):=hg▸inferInstance;have hg1:(dg g).length<=100000000:=Oz (k:=i+j) (by omega);have ho1:(dg 1).length<=100000000:=by rw[Co];decide
 haveI hqB:BQ q (i+j):=hq▸wm hd0 (dW hx.h (bY (by decide) (by omega))) (dW hd.h (bY (by decide) (by omega)));refine fn func47 J J ntmps47 J J (fun C=>?_);refine cl (fu:=⟨0⟩) J (KU (by omega) (by omega)) J<|?_;refine aj 11 (.d (dN g)) J (by rw[hg]) ?_;refine gx (fu:=⟨4⟩) J<|?_;refine mg (fu:=⟨1⟩) (X:=Unit) (fun _=>[(1, .d (dN q.den)),(2, .ov 2 0),(4, .ov 4 0)]) (fun _=>[(4,some (.o 48 [.ff, .nl, .nl] true)),(2,some (.o 46 [.d (.v (.bool (decide (q.num<0)))), .d (dN q.num.natAbs)] true))]) (fun _=>True) [1,2,4] [4,2] rfl ?_ (fun _=>J) (fun _ hm=>?_)
 .
  refine gx J<|cl J GU J<|cl J (Cd hg1 ho1) J<|?_;refine br J J J (fun hc15=>?_) (fun hc15=>?_)
  .
   refine cl J (Af hg0 (by omega) (by omega)) J<|cl (fu:=⟨0⟩) J kB J<|?_;refine aj 26 (.d (eI q.num)) J (by show FX.d (eI (zv _ _))=_;rw[hg,Oh hd0,hq]) ?_;refine gx J<|cl (fu:=⟨2⟩) J (Af hg0 (by omega) (by omega)) J<|?_;refine aj 31 (.d (dN q.den)) J (by rw[hg,Qk hd0,hq]) ?_;refine gx J<|?_;exact at_ () trivial
  .
   have hm:=Vb (x:=x) hd0 (by rw[<-hg];exact I7.1 (Decidable.not_not.1 hc15));rw[<-hq] at hm;refine aj 1 (.d (dN q.den)) J (by rw[hm.2]) ?_;exact at_ () trivial (hO:=⟨J,by rw[hm.1];rfl,trivial⟩)
 .
  refine mg (X:=Unit) (fun _=>[(1, .d (dD q.den)),(2, .ov 2 0),(4, .ov 4 0)]) (fun _=>[(4,some (.o 48 [.ff, .nl, .nl] true)),(2,some (.o 46 [.d (.v (.bool (decide (q.num<0)))), .d (dN q.num.natAbs)] true))]) (fun _=>True) [1,2,4] [4,2] rfl ?_ (fun _=>J) (fun _ hm=>?_)
  .
   refine gx J<|cl J GU J<|cl J (Cd (Oz (k:=i+j) (by omega)) ho1) J<|?_;refine br J J J (fun hc36=>?_) (fun hc36=>?_)
   .
    refine U9 1 J ?_;refine aj 1 (.d (dD q.den)) J (by rw[I7.1 hc36];rfl) ?_;exact at_ () trivial
   .
    refine aj 1 (.d (dD q.den)) J (by rw[Th (fun e=>hc36 (I7.2 e))]) ?_;exact at_ () trivial
  .
   exact rz J (by rw[<-hq];rfl)
def P4(a:Rat):mkRat a.num a.den=a:=by simp[tJ]
def On{a b:Rat}(h:b≠0):a/b=mkRat (a.num*zv (decide (b.num<0)) b.den) (a.den*b.num.natAbs):=by
 rw[pK];have ha:(a.num:Rat)/(a.den:Rat)=a:=by rw[<-pK,P4]
 have hb:(b.num:Rat)/(b.den:Rat)=b:=by rw[<-pK,P4]
 have h1:(a.den:Rat)≠0:=by have:=a.den_nz;exact_mod_cast this
 have h2:(b.den:Rat)≠0:=by have:=b.den_nz;exact_mod_cast this
 have h3:(b.num:Rat)≠0:=by
  intro e;rw[e] at hb;apply h;rw[<-hb];grind
 rw[cY,Rat.natCast_mul];by_cases q:b.num<0
 ·have e1:((zv (decide (b.num<0)) b.den:Int):Rat)= -(b.den:Rat):=by
   unfold zv;rw[if_pos (by simpa using q),lR];rfl
  have e2:((b.num.natAbs:Nat):Rat)= -(b.num:Rat):=by
   have:((b.num.natAbs:Nat):Int)= -b.num:=by omega
   rw[<-lR,<-this];rfl
  rw[e1,e2];generalize (a.num:Rat)=an at*;generalize (a.den:Rat)=ad at*;generalize (b.num:Rat)=bn at*;generalize (b.den:Rat)=bd at*;subst ha hb;grind
 ·have e1:((zv (decide (b.num<0)) b.den:Int):Rat)=(b.den:Rat):=by
   unfold zv;rw[if_neg (by simpa using q)];rfl
  have e2:((b.num.natAbs:Nat):Rat)=(b.num:Rat):=by
   have:((b.num.natAbs:Nat):Int)=b.num:=by omega
   rw[<-this];rfl
  rw[e1,e2];generalize (a.num:Rat)=an at*;generalize (a.den:Rat)=ad at*;generalize (b.num:Rat)=bn at*;generalize (b.den:Rat)=bd at*;subst ha hb;grind
def WT{q:Rat}{n:Int}{d:Nat}(hd:0<d)(h:q*(d:Rat)=(n:Rat)):q.num.natAbs<=n.natAbs/\q.den<=d:=by
 have e:q=mkRat n d:=by
  rw[pK];have:(d:Rat)≠0:=by exact_mod_cast (by omega:d≠0)
  rw[<-h];grind
 rw[e,Rat.num_mkRat,Rat.den_mkRat,if_neg (by omega),if_neg (by omega)];exact⟨nM n (d.gcd n.natAbs:Nat),kM ..⟩
theorem BQ.of_frac{q:Rat}{n:Int}{d i:Nat}(hd:0<d)(h:q*(d:Rat)=(n:Rat))(hn:n.natAbs<2^i)(hdi:d<2^i):BQ q i:=by
 have:=WT hd h;exact⟨by omega,by omega⟩
def Rq{b:Rat}(h:b≠0):0<b.num.natAbs:=by
 have:b.num≠0:=fun e=>h (mT.1 e);omega
instance BQ.over (a b:Rat) (i j:Nat) [ha:BQ a i] [hb:BQ b j]:BQ (a/b) (i+j):=by
 by_cases h:b=0
 ·subst h
  rw[Rat.div_def,Rat.inv_zero,Rat.mul_zero];have h2:=ha.hd;have h3:0<a.den:=nv a;have h4:2^i*1<=2^i*2^j:=fZ _ (fY (by decide));rw[<-fJ] at h4;exact⟨by show 0<_;omega,by show 1<_;omega⟩
 ·rw[On h]
  have hb0:=Rq h;refine wm (gU (nv a) hb0) ?_ (pe ha.hd hb.hn);rw[jK,rI];exact pe ha.hn hb.hd
def ku{n:Int}(h0: -4611686018427387904<=n)(h1:n<=4611686018427387904):PF GB prog 20 [.v (.int .i64 n)] (eQ (n:Rat)):=by
 refine fn func20 J J ntmps20 J J (fun C=>?_);refine cl J (HX (by omega) (by omega)) J<|?_;exact rz J (by rw[EC];rfl)
def qO{q:Rat}:PF GB prog 17 [eQ q] (vI q.num.sign):=by
 refine fn func17 J J ntmps17 J J (fun C=>?_);refine cl J Dp J<|?_;exact rz J J
def wS{q:Rat}:PF GB prog 180 [eQ q] (eQ (-q)):=by
 refine fn func180 J J ntmps180 J J (fun C=>?_);refine cl J Cr J<|?_;exact rz J (by unfold eQ;rw[nJ,qQ];rfl)
def jc{a b:Rat}{i j:Nat}[ha:BQ a i][hb:BQ b j](hi:i<=20000000:=by decide)(hj:j<=20000000:=by decide):PF GB prog 21 [eQ a,eQ b] (eQ (a*b)):=by
 have had:=nv a;have hbd:=nv b;have hdp:=gU had hbd;have e1:=Ay a.den had;have e2:=Ay b.den hbd;refine fn func21 J J ntmps21 J J (fun C=>?_);refine cs 9 J J J (fun hg9=>?_) (fun hg9=>?_)
 .
  refine br J J J (fun hc14=>?_) (fun hc14=>?_)
  .
   refine cl J (vA (a:=a.num) (b:=b.num) (by omega) (by omega)) J<|?_;exact rz J (by rw[UL (e1.1 (by omega)) (e2.1 (by omega)),EC];rfl)
  .
   refine cl J (vA (a:=a.num) (b:=b.num) (by omega) (by omega)) J<|cl J kz J<|cl J kz J<|cl J (r4 (by omega) (by omega)) J<|?_;refine cl J (uT hdp (by omega) (by omega)) J<|?_;exact rz J (by rw[BA];rfl)
 .
  refine cl J (vA (a:=a.num) (b:=b.num) (by omega) (by omega)) J<|cl J kz J<|cl J kz J<|cl J (r4 (by omega) (by omega)) J<|?_;refine cl J (uT hdp (by omega) (by omega)) J<|?_;exact rz J (by rw[BA];rfl)
def pE{a b:Rat}{i j:Nat}[ha:BQ a i][hb:BQ b j](hi:i<=20000000:=by decide)(hj:j<=20000000:=by decide):PF GB prog 13 [eQ a,eQ b] (eQ (a+b)):=by
 have had:=nv a;have hbd:=nv b;have hdp:=gU had hbd;have e1:=Ay a.den had;have e2:=Ay b.den hbd;refine fn func13 J J ntmps13 J J (fun C=>?_);refine cs 9 J J J (fun hg9=>?_) (fun hg9=>?_)
 .
  refine br J J J (fun hc14=>?_) (fun hc14=>?_)
  .
   refine cl J (Dw (by omega) (by omega)) J<|?_;exact rz J (by rw[Ud (e1.1 (by omega)) (e2.1 (by omega)),EC];rfl)
  .
   refine cl J kz J<|cl J kB J<|cl J (vA (a:=a.num) (b:=zv false b.den) (by omega) (by omega)) J<|cl J kz J<|cl J kB J<|?_;refine cl J (vA (a:=b.num) (b:=zv false a.den) (by omega) (by omega)) J<|cl J (Dw (by omega) (by omega)) J<|cl J kz J<|?_;refine cl J kz J<|cl J (r4 (by omega) (by omega)) J<|cl J (uT hdp (by omega) (by omega)) J<|?_;exact rz J (by rw[B4];rfl)
 .
  refine cl J kz J<|cl J kB J<|cl J (vA (a:=a.num) (b:=zv false b.den) (by omega) (by omega)) J<|cl J kz J<|?_;refine cl J kB J<|cl J (vA (a:=b.num) (b:=zv false a.den) (by omega) (by omega)) J<|cl J (Dw (by omega) (by omega)) J<|?_;refine cl J kz J<|cl J kz J<|cl J (r4 (by omega) (by omega)) J<|cl J (uT hdp (by omega) (by omega)) J<|?_;exact rz J (by rw[B4];rfl)
def ug{a b:Rat}{i j:Nat}[ha:BQ a i][hb:BQ b j](hi:i<=20000000:=by decide)(hj:j<=20000000:=by decide):PF GB prog 122 [eQ a,eQ b] (eQ (a-b)):=by
 refine fn func122 J J ntmps122 J J (fun C=>?_);refine cl J (wS (q:=b)) J<|cl J (pE (a:=a) (b:= -b) hi hj) J<|?_;exact rz J (by rw[Rat.sub_eq_add_neg];rfl)
def zn{a b:Rat}{i j:Nat}[ha:BQ a i][hb:BQ b j](hb0:b≠0)(hi:i<=20000000:=by decide)(hj:j<=20000000:=by decide):PF GB prog 259 [eQ a,eQ b] (eQ (a/b)):=by
 have hbp:=Rq hb0;have hdp:=gU (nv a) hbp;refine fn func259 J J ntmps259 J J (fun C=>?_);refine cl J kz J<|cl J kB J<|cl J (vA (a:=a.num) (b:=zv (decide (b.num<0)) b.den) (by omega) (by omega)) J<|cl J kz J<|?_;refine cl J (r4 (a:=a.den) (b:=b.num.natAbs) (by omega) (by omega)) J<|cl J (uT (x:=a.num*zv (decide (b.num<0)) b.den) (d:=a.den*b.num.natAbs) hdp (by omega) (by omega)) J<|?_;exact rz J (by rw[On hb0];rfl)
def jm{a b:Rat}{i j:Nat}[ha:BQ a i][hb:BQ b j](hi:i<=20000000:=by decide)(hj:j<=20000000:=by decide):PF GB prog 59 [eQ a,eQ b] (vI (bg a b)):=by
 refine fn func59 J J ntmps59 J J (fun C=>?_);refine cl J (ug hi hj) J<|cl J qO J<|?_;exact rz J (by show vI _=vI _;rw[Et])
def Vx:((2:Int):Rat)≠0:=by decide
instance BI.two:BI 2 2:=⟨by decide⟩
def H4{a:Rat}{i:Nat}[ha:BQ a i](hi:i<=20000000:=by decide):PF GB prog 260 [eQ a] (eQ (a/2)):=by
 refine fn func260 J J ntmps260 J J (fun C=>?_);refine cl J (ku (n:=2) (by decide) (by decide)) J<|cl J (zn (a:=a) (b:=((2:Int):Rat)) Vx hi (by decide)) J<|?_;exact rz J J
def HQ{a b:Rat}{i j:Nat}[ha:BQ a i][hb:BQ b j](hi:i<=2000000:=by decide)(hj:j<=2000000:=by decide):PF GB prog 261 [eQ a,eQ b] (eQ ((a+b)/2)):=by
 refine fn func261 J J ntmps261 J J (fun C=>?_);refine cl J (pE (by omega) (by omega)) J<|cl J (H4 (a:=a+b) (by omega)) J<|?_;exact rz J J
def Nn{m:Int}{g:Nat}(hg:(g:Int)∣m)(hb:m.natAbs<4611686018427387904):IntKind.i64.wrap (m.tdiv g)=m/g:=by
 rw[Int.tdiv_eq_ediv_of_dvd hg];have:=nM m g;exact ZZ (by omega)
def tm(a b:Int):Int:=if(a*b).natAbs<4611686018427387904 then a*b else 0
def H8(a b:Int):(tm a b).natAbs<4611686018427387904:=by unfold tm;split<;>omega
def Bd{a b:Int}(h:(a*b).natAbs<4611686018427387904):tm a b=a*b:=if_pos h
def M'{a b:Int}(h: ¬(a*b).natAbs<4611686018427387904):DV.tp [vI 0, .v (.bool false)]= .tp [vI (tm a b),vB (decide ((a*b).natAbs<4611686018427387904))]:=by unfold tm;rw[if_neg h,decide_eq_false h];rfl
def MY{a b:Int}{x:Int}(h:(a*b).natAbs<4611686018427387904)(e:x=a*b):DV.tp [vI x, .v (.bool true)]= .tp [vI (tm a b),vB (decide ((a*b).natAbs<4611686018427387904))]:=by unfold tm;rw[if_pos h,decide_eq_true h,e];rfl
def MF(n:Nat):eI (n:Int)= .ag [.v (.bool false),dN n]:=by unfold eI;rw[decide_eq_false (by omega),iL]
def Y7{p q:Rat}(hp:p.den=1)(hq:q.den=1):rgcd p q=((Nat.gcd p.num.natAbs q.num.natAbs:Nat):Int):=by
 conv=>lhs;rw[E6 hp,E6 hq]
 exact CG _ _
def YN(q:Rat):mkRat (zv (decide (q.num<0)) q.den) q.num.natAbs=q⁻¹:=by
 rw[Rat.inv_def];by_cases h:q.num<0
 ·rw[decide_eq_true h];exact amB h
 ·rw[decide_eq_false h,<-Rat.divInt_ofNat,oX (by omega)];rfl
instance BQ.inv (q:Rat) (i:Nat) [h:BQ q i]:BQ q⁻¹ i:=by
 have h1:=h.hn;have h2:=h.hd;have h3:=q.den_nz;rcases lU q.num 0 with k|k|k
 ·obtain⟨e1,e2⟩:=SE k;exact⟨by omega,by omega⟩
 ·have e:q=0:=mT.1 k
  have e0:(0:Rat)⁻¹=0:=Rat.inv_zero;rw[e] at h1 h2⊢;rw[e0];exact⟨h1,h2⟩
 ·obtain⟨e1,e2⟩:=MT k;exact⟨by omega,by omega⟩
instance BQ.half:BQ (mkRat 1 2) 2:=⟨by decide,by decide⟩
def Uq{x y:Nat}(hx:x<18446744073709551616)(hy:y<18446744073709551616):PF GB prog 212 [.v (.int .u64 (x:Nat)), .v (.int .u64 (y:Nat))] (.tp [.v (.int .u64 ((x*y/18446744073709551616:Nat):Int)), .v (.int .u64 ((x*y%18446744073709551616:Nat):Int))]):=fun G vs _ hv=>by
 obtain⟨v,m,rfl,h1,h2⟩:=bh.1 hv;obtain⟨u,m',rfl,h3,h4⟩:=bh.1 h2
 cases eG.1 h4
 rw[aI.1 h1,aI.1 h3];exact(TV hx hy).mono fun v G' _ h=>by subst h;exact iH.2 ⟨_,J, .cons (aI.2 J) (.cons (aI.2 J) .nil)⟩
def RX{a b:Nat}(ha:a<18446744073709551616)(hb:b<18446744073709551616):PF GB prog 214 [.v (.int .u64 (a:Nat)), .v (.int .u64 (b:Nat))] (.v (.int .u64 (Nat.gcd a b:Nat))):=by
 refine fn func214 J J ntmps214 J J (fun C=>?_);refine lp (X:=Nat×Nat) (fun⟨u,v⟩=>[(1, .d (.v (.int .u64 (v:Nat)))),(0, .d (.v (.int .u64 (u:Nat))))]) (fun⟨u,v⟩=>[]) (fun⟨u,v⟩=>u<18446744073709551616/\v<18446744073709551616/\Nat.gcd u v=Nat.gcd a b) (fun⟨u,v⟩=>v) (a,b) J ⟨ha,hb,J⟩ (fun _=>J) (fun⟨u,v⟩ hk=>?_);dsimp only at hk⊢;obtain⟨h1,h2,h3⟩:=hk;refine br (v1:=fun hc6=>by simp only[ac];exact⟨by omega,by kernel_rfl⟩) J J J (fun hc6=>?_) (fun hc6=>?_)
 .
  have hm:=dX u (show 0<v by omega);exact at_ (v,u%v) (by dsimp only;exact⟨⟨h2,by omega,by rw[<-h3,jQ u v,tV v u,jQ]⟩,hm⟩)
 .
  exact rz J (by rw[<-h3,show v=0 by omega,nT];rfl)
def qa{m:Int}(h:m.natAbs<9223372036854775808):PF GB prog 134 [vI m] (eF (m:Rat)):=by
 refine fn func134 J J ntmps134 J J (fun C=>?_);refine cs 5 J J J (fun hg5=>?_) (fun hg5=>?_)
 .
  refine cl J (Ge (m:=m) (by omega) (by omega)) J<|rf (fu:=⟨0⟩) J J<|?_;refine aj 11 (.d (dN 1)) J (by unfold dN;rw[Co];rfl) ?_;refine gx J<|cl J (uR (n:=decide (m<0)) (a:=m.natAbs) (i:=63) (h:=⟨h⟩) (d:=1)) J<|?_;exact rz J (by rw[lP,show mkRat m 1=(m:Rat) from sK ..];rfl)
 .
  refine br J J J (fun hc8=>?_) (fun hc8=>?_)
  .
   refine cl J (Ge (m:=m) (by omega) (by omega)) J<|rf (fu:=⟨0⟩) J J<|?_;refine aj 11 (.d (dN 1)) J (by unfold dN;rw[Co];rfl) ?_;refine gx J<|cl J (uR (n:=decide (m<0)) (a:=m.natAbs) (i:=63) (h:=⟨h⟩) (d:=1)) J<|?_;exact rz J (by rw[lP,show mkRat m 1=(m:Rat) from sK ..];rfl)
  .
   exact jo J (Ln (by omega))
def BF{a b:Int}(ha:a.natAbs<4611686018427387904)(hb:b.natAbs<4611686018427387904):PF GB prog 157 [vI a,vI b] (.tp [vI (tm a b),vB (decide ((a*b).natAbs<4611686018427387904))]):=by
 have hab:=jK a b;refine fn func157 J J ntmps157 J J (fun C=>?_);refine cl J (Bw (m:=a) (by omega)) J<|cl J (Bw (m:=b) (by omega)) J<|cl J (Uq (x:=a.natAbs) (y:=b.natAbs) (by omega) (by omega)) J<|?_;refine cs 18 J J J (fun hg18=>?_) (fun hg18=>?_)
 .
  exact rz J (M' (by omega))
 .
  refine br J J J (fun hc21=>?_) (fun hc21=>?_)
  .
   exact rz J (M' (by omega))
  .
   refine bb J J J (fun hc26=>?_) (fun hc26=>?_)
   .
    have hs:=LZ a b;rw[if_neg (by simpa using hc26)] at hs;exact rz J (MY (by omega) (by rw[hs,<-hab];omega))
   .
    have hs:=LZ a b;rw[if_pos (by simpa using hc26)] at hs;exact rz J (MY (by omega) (by rw[hs,<-hab];omega))
def Sg{m:Int}{d:Nat}(h:m.natAbs<4611686018427387904)(h0:0<d)(hd:d<4611686018427387904):PF GB prog 158 [vI m,vI (d:Nat)] (eF (mkRat m d)):=by
 have hg:Nat.gcd m.natAbs d<=d:=Nat.gcd_le_right _ h0;have hg0:0<Nat.gcd m.natAbs d:=oU _ h0;obtain⟨e1,e2⟩:=MR (m:=m) h0;have e3:=nM m (Nat.gcd m.natAbs d:Nat);have e4:=kM d (Nat.gcd m.natAbs d);have e5:=Nat.div_pos hg hg0;refine fn func158 J J ntmps158 J J (fun C=>?_);refine cl J (Bw (m:=m) (by omega)) J<|cl J (RX (a:=m.natAbs) (b:=d) (by omega) (by omega)) J<|?_;refine br (fu1:=⟨4⟩) J J J (fun hc13=>?_) (fun hc13=>?_)
 .
  refine aj 16 (.d (vI (m/(Nat.gcd m.natAbs d:Nat)))) J (by rw[Nn (Int.dvd_natAbs.1 (rK.2 (nU _ _))) h];rfl) ?_;refine gx (fu:=⟨3⟩) J<|?_;refine aj 19 (.d (vI ((d/Nat.gcd m.natAbs d:Nat)))) J (by rw[Nn (rK.2 (oK _ _)) (by rw[iL];exact hd)];rfl) ?_;refine gx (hv:=by simp only[ac];exact⟨by kernel_rfl,by omega⟩) J<|?_;exact jo J (tg (fun k=>k ⟨by rw[e1];omega,by rw[e2];omega⟩) e1 (by rw[e2]) J)
 .
  exact jo J (by have h1:Nat.gcd m.natAbs d=1:=(by omega);rw[h1,tW] at e2;rw[h1,Int.natCast_one,Int.ediv_one] at e1;exact tg (fun k=>k ⟨by rw[e1];omega,by rw[e2];omega⟩) e1 (by rw[e2]) J)
def gt{p q:Rat}{i j:Nat}[h:BQ p i][k:BQ q j](hi:i<=100000000:=by decide)(hj:j<=100000000:=by decide):PF GB prog 121 [eF p,eF q] (eF (p*q)):=by
 refine fn (fu:=⟨8⟩) func121 J J ntmps121 J J (fun C=>?_);refine mg (X:=Unit) (fun _=>[(2, .ov 2 0),(3, .ov 3 0),(4, .ov 4 0)]) (fun _=>[(2,some (.o 96 [.d (vI (ce p)), .d (vI (b9 p)), .d (cg p)] true)),(3,some (.o 96 [.d (vI (ce q)), .d (vI (b9 q)), .d (cg q)] true)),(4,some (.o 96 [.d (.v (.int .i64 0)), .d (.v (.int .i64 0)), .d (.v (.pointer none))] true))]) (fun _=>True) [2,3,4] [2,3,4] rfl ?_ (fun _=>J) (fun _ _=>?_)
 .
  refine gx J<|?_;refine cs 12 J J J (fun hg12=>?_) (fun hg12=>?_)
  .
   refine br (fu1:=⟨4⟩) J J J (fun hc16=>?_) (fun hc16=>?_)
   .
    have hp:=uk hg12;have hq:=uk hc16;have p1:=og hp;have p2:=qf hp;have p3:=qB hp;have p4:=qi hp;have p5:=p.den_nz;have q1:=og hq;have q2:=qf hq;have q3:=qB hq;have q4:=qi hq;have q5:=q.den_nz;refine aj 19 (.d (vI p.num)) J (by rw[p1]) ?_;refine gx (fu:=⟨2⟩) J<|?_;refine aj 21 (.d (vI q.num)) J (by rw[q1]) ?_;refine gx J<|cl (fu:=⟨12⟩) J (BF (a:=p.num) (b:=q.num) (by omega) (by omega)) J<|?_;refine aj 28 (.d (vI (p.den:Nat))) J (by congr 3;omega) ?_;refine gx (fu:=⟨3⟩) J<|?_;refine aj 31 (.d (vI (q.den:Nat))) J (by congr 3;omega) ?_;refine gx J<|cl J (BF (a:=(p.den:Nat)) (b:=(q.den:Nat)) (by omega) (by omega)) J<|?_;refine csd 36 J J J (fun hg36=>?_) (fun hg36=>?_)
    .
     refine bd (fu1:=⟨3⟩) J J J (fun hc38=>?_) (fun hc38=>?_)
     .
      have hd1:p.den*q.den<4611686018427387904:=by omega
      refine aj 39 (.d (vI (p.num*q.num))) J (by rw[Bd hg36]) ?_;refine gx (fu:=⟨1⟩) J<|?_;refine aj 40 (.d (vI ((p.den*q.den:Nat)))) J (by rw[Bd hc38];rfl) ?_;refine gx J<|cl J (Sg (m:=p.num*q.num) (d:=p.den*q.den) hg36 (gU (by omega) (by omega)) hd1) J<|?_;exact rz J (by rw[<-BA];rfl)
     .
      exact at_ () trivial
    .
     exact at_ () trivial
   .
    exact at_ () trivial
  .
   exact at_ () trivial
 .
  refine cl J (xm (q:=p) (by omega)) J<|cl J (xm (q:=q) (by omega)) J<|cl J (Jb (a:=p.num) (b:=q.num) (by omega) (by omega)) J<|?_;refine cl J (q6 (q:=p) (by omega)) J<|cl J (q6 (q:=q) (by omega)) J<|cl J (Ae (a:=p.den) (b:=q.den) (by omega) (by omega)) J<|?_;refine cl J (uR (n:=decide (p.num*q.num<0)) (a:=(p.num*q.num).natAbs) (d:=p.den*q.den) (i:=i+j) (j:=i+j) (by omega) (by omega)) J<|?_;exact rz J (by rw[lP,<-BA];rfl)
def kh{p q:Rat}{i j:Nat}[h:BQ p i][k:BQ q j](hi:i<=100000000:=by decide)(hj:j<=100000000:=by decide):PF GB prog 98 [eF p,eF q] (eF (p+q)):=by
 refine fn (fu:=⟨8⟩) func98 J J ntmps98 J J (fun C=>?_);refine mg (X:=Unit) (fun _=>[(2, .ov 2 0),(3, .ov 3 0),(4, .ov 4 0)]) (fun _=>[(2,some (.o 96 [.d (vI (ce p)), .d (vI (b9 p)), .d (cg p)] true)),(3,some (.o 96 [.d (vI (ce q)), .d (vI (b9 q)), .d (cg q)] true)),(4,some (.o 96 [.d (.v (.int .i64 0)), .d (.v (.int .i64 0)), .d (.v (.pointer none))] true))]) (fun _=>True) [2,3,4] [2,3,4] rfl ?_ (fun _=>J) (fun _ _=>?_)
 .
  refine gx J<|?_;refine cs 16 J J J (fun hg16=>?_) (fun hg16=>?_)
  .
   refine br (fu1:=⟨1⟩) J J J (fun hc20=>?_) (fun hc20=>?_)
   .
    have hp:=uk hg16;have hq:=uk hc20;have p1:=og hp;have p2:=qf hp;have p3:=qB hp;have p4:=qi hp;have p5:=p.den_nz;have q1:=og hq;have q2:=qf hq;have q3:=qB hq;have q4:=qi hq;have q5:=q.den_nz;refine mg (fu:=⟨4⟩) (X:=Unit) (fun _=>[(2, .ov 2 0),(3, .ov 3 0),(4, .ov 4 0)]) (fun _=>[(2,some (.o 96 [.d (vI (ce p)), .d (vI (b9 p)), .d (cg p)] true)),(3,some (.o 96 [.d (vI (ce q)), .d (vI (b9 q)), .d (cg q)] true)),(4,some (.o 96 [.d (.v (.int .i64 0)), .d (.v (.int .i64 0)), .d (.v (.pointer none))] true))]) (fun _=>True) [2,3,4] [2,3,4] rfl ?_ (fun _=>J) (fun _ _=>?_)
    .
     refine gx J<|?_;refine cs 24 J J J (fun hg24=>?_) (fun hg24=>?_)
     .
      refine br (fu1:=⟨4⟩) J J J (fun hc28=>?_) (fun hc28=>?_)
      .
       refine aj 30 (.d (vI p.num)) J (by rw[p1]) ?_;refine gx (fu:=⟨2⟩) J<|?_;refine aj 32 (.d (vI q.num)) J (by rw[q1]) ?_;refine gx J<|cl J (qa (m:=p.num+q.num) (by omega)) J<|?_;exact rz J (by rw[E6 (q:=p) (by omega),E6 (q:=q) (by omega),<-pT];rfl)
      .
       exact at_ () trivial
     .
      exact at_ () trivial
    .
     refine aj 37 (.d (vI p.num)) J (by rw[p1]) ?_;refine gx (fu:=⟨3⟩) J<|?_;refine aj 40 (.d (vI (q.den:Nat))) J (by congr 3;omega) ?_;refine gx J<|cl (fu:=⟨11⟩) J (BF (a:=p.num) (b:=(q.den:Nat)) (by omega) (by omega)) J<|?_;refine aj 46 (.d (vI q.num)) J (by rw[q1]) ?_;refine gx (fu:=⟨3⟩) J<|?_;refine aj 49 (.d (vI (p.den:Nat))) J (by congr 3;omega) ?_;refine gx J<|cl (fu:=⟨12⟩) J (BF (a:=q.num) (b:=(p.den:Nat)) (by omega) (by omega)) J<|?_;refine aj 56 (.d (vI (p.den:Nat))) J (by congr 3;omega) ?_;refine gx (fu:=⟨3⟩) J<|?_;refine aj 59 (.d (vI (q.den:Nat))) J (by congr 3;omega) ?_;refine gx J<|cl (fu:=⟨3⟩) J (BF (a:=(p.den:Nat)) (b:=(q.den:Nat)) (by omega) (by omega)) J<|?_;have t1:=H8 p.num (q.den:Nat);have t2:=H8 q.num (p.den:Nat);have t3:=H8 (p.den:Nat) (q.den:Nat);refine gx J<|?_;refine csd 67 J J J (fun hg67=>?_) (fun hg67=>?_)
     .
      refine csd 70 J J J (fun hg70=>?_) (fun hg70=>?_)
      .
       refine csd 73 J J J (fun hg73=>?_) (fun hg73=>?_)
       .
        refine cs 77 J J J (fun hg77=>?_) (fun hg77=>?_)
        .
         refine br (fu1:=⟨3⟩) J J J (fun hc80=>?_) (fun hc80=>?_)
         .
          have u1:=Bd hg67;have u2:=Bd hg70;have u3:=Bd hg73;have hd1:p.den*q.den<4611686018427387904:=by omega
          refine aj 81 (.d (vI (p.num*(q.den:Nat)+q.num*(p.den:Nat)))) J (by rw[u1,u2];rfl) ?_;refine gx (fu:=⟨1⟩) J<|?_;refine aj 82 (.d (vI ((p.den*q.den:Nat)))) J (by rw[u3];rfl) ?_;refine gx J<|cl J (Sg (m:=p.num*(q.den:Nat)+q.num*(p.den:Nat)) (d:=p.den*q.den) (by omega) (gU (by omega) (by omega)) hd1) J<|?_;exact rz J (by rw[<-B4];rfl)
         .
          exact at_ () trivial
        .
         exact at_ () trivial
       .
        exact at_ () trivial
      .
       exact at_ () trivial
     .
      exact at_ () trivial
   .
    exact at_ () trivial
  .
   exact at_ () trivial
 .
  refine cl J (xm (q:=p) (by omega)) J<|cl (fu:=⟨1⟩) J (q6 (q:=q) (by omega)) J<|?_;refine aj 88 (.d (eI (q.den:Nat))) J (by rw[MF]) ?_;refine gx J<|cl J (Jb (a:=p.num) (b:=(q.den:Nat)) (by omega) (by omega)) J<|cl J (xm (q:=q) (by omega)) J<|cl (fu:=⟨1⟩) J (q6 (q:=p) (by omega)) J<|?_;refine aj 94 (.d (eI (p.den:Nat))) J (by rw[MF]) ?_;refine gx J<|cl J (Jb (a:=q.num) (b:=(p.den:Nat)) (by omega) (by omega)) J<|cl J (Zo (a:=p.num*(q.den:Nat)) (b:=q.num*(p.den:Nat)) (i:=i+j) (j:=j+i) (by omega) (by omega)) J<|?_;refine cl J (q6 (q:=p) (by omega)) J<|cl J (q6 (q:=q) (by omega)) J<|cl J (Ae (a:=p.den) (b:=q.den) (by omega) (by omega)) J<|?_;refine cl J (uR (n:=decide (p.num*(q.den:Nat)+q.num*(p.den:Nat)<0)) (a:=(p.num*(q.den:Nat)+q.num*(p.den:Nat)).natAbs) (d:=p.den*q.den) (i:=i+j+(j+i)+1) (j:=i+j) (by omega) (by omega)) J<|?_;exact rz J (by rw[lP,<-B4];rfl)
def u7{p q:Rat}{i j:Nat}[h:BQ p i][k:BQ q j](hi:i<=100000000:=by decide)(hj:j<=100000000:=by decide):PF GB prog 197 [eF p,eF q] (eF (p-q)):=by
 refine fn func197 J J ntmps197 J J (fun C=>?_);refine cl J (qt (q:=q) (by omega)) J<|cl J (kh (p:=p) (q:= -q) (by omega) (by omega)) J<|?_;exact rz J (by rw[<-Rat.sub_eq_add_neg];rfl)
def Ic{q:Rat}{i:Nat}[h:BQ q i](hi:i<=400000000:=by decide):PF GB prog 85 [eF q] (eF q⁻¹):=by
 refine fn func85 J J ntmps85 J J (fun C=>?_);refine br (v1:=fun hc3=>by simp only[ac];exact⟨⟨hc3,hc3⟩,hc3⟩) J J J (fun hc3=>?_) (fun hc3=>?_)
 .
  refine cl J (uR (n:=decide (q.num<0)) (a:=q.den) (d:=q.num.natAbs) (by omega) (by omega)) J<|?_;exact rz J (by rw[YN];rfl)
 .
  have q1:=og (o6 hc3);have q2:=qf (o6 hc3);have q3:=qB (o6 hc3);have q4:=qi (o6 hc3);have q5:=q.den_nz;refine br J J J (fun hc26=>?_) (fun hc26=>?_)
  .
   exact jo rfl (by obtain⟨e1,e2⟩:=SE (q:=q) (by omega);exact tg (fun k=>k ⟨by omega,by omega⟩) (by omega) (by omega) rfl)
  .
   refine br J J J (fun hc39=>?_) (fun hc39=>?_)
   .
    exact jo J (by rw[mT.1 (show q.num=0 by omega),Rat.inv_zero];exact y5)
   .
    exact jo rfl (by obtain⟨e1,e2⟩:=MT (q:=q) (by omega);exact tg (fun k=>k ⟨by omega,by omega⟩) (by omega) (by omega) rfl)
def Ap{p q:Rat}{i j:Nat}[h:BQ p i][k:BQ q j](hi:i<=100000000:=by decide)(hj:j<=100000000:=by decide):PF GB prog 135 [eF p,eF q] (eF (p/q)):=by
 refine fn func135 J J ntmps135 J J (fun C=>?_);refine cl J (Ic (q:=q) (by omega)) J<|cl J (gt (p:=p) (q:=q⁻¹) (by omega) (by omega)) J<|?_;exact rz J (by rw[Rat.div_def];rfl)
def OS{G:Gh}{q r:DV}{t:List DV}{vs:List Value}(h: ∀y,Is G r y->Is G q y)(hv:IsLs G (r::t) vs):IsLs G (q::t) vs:=by
 obtain⟨y,m,rfl,h1,h2⟩:=bh.1 hv;exact .cons (h _ h1) h2
def Ij{G:Gh}{a q r:DV}{t:List DV}{vs:List Value}(h: ∀y,Is G r y->Is G q y)(hv:IsLs G (a::r::t) vs):IsLs G (a::q::t) vs:=by
 obtain⟨y,m,rfl,h1,h2⟩:=bh.1 hv;exact .cons h1 (OS h h2)
def UJ{q:Rat}{i:Nat}[h:BQ q i](hi:i<=100000000:=by decide):PF GB prog 121 [eF q, .ag [vI 1,vI 1, .v (.pointer none)]] (eF (q*mkRat 1 2)):=
 (gt (p:=q) (q:=mkRat 1 2) hi).ofI fun G vs hv=>Ij (fun y hy=>tg (q:=mkRat 1 2) (fun k=>k ⟨by decide,by decide⟩) (by decide) (by decide) J G y hy) hv
def Jm{q:Rat}{i:Nat}[h:BQ q i](hi:i<=100000000:=by decide):PF GB prog 99 [eF q] (eF (q*mkRat 1 2)):=by
 refine fn func99 J J ntmps99 J J (fun C=>?_);refine cl J (UJ (q:=q) (by omega)) J<|?_;exact rz J J
def xp{p q:Rat}{i j:Nat}[h:BQ p i][k:BQ q j](hi:i<=100000000:=by decide)(hj:j<=100000000:=by decide):PF GB prog 148 [eF p,eF q] (vI (bg p q)):=by
 refine fn func148 J J ntmps148 J J (fun C=>?_);refine cs 8 J J J (fun hg8=>?_) (fun hg8=>?_)
 .
  refine cs 13 J J J (fun hg13=>?_) (fun hg13=>?_)
  .
   refine br J J J (fun hc19=>?_) (fun hc19=>?_)
   .
    have hp:=uk hg8;have hq:=uk hg13;have p1:=og hp;have p2:=qf hp;have p3:=qB hp;have p4:=qi hp;have p5:=p.den_nz;have q1:=og hq;have q2:=qf hq;have q3:=qB hq;have q4:=qi hq;have q5:=q.den_nz;have hl:=OC (a:=p) (b:=q) (by omega);have hr:=OC (a:=q) (b:=p) (by omega);unfold bg;refine br J J J (fun hc20=>?_) (fun hc20=>?_)
    .
     exact rz J (by rw[if_pos (hl.2 (by omega))];rfl)
    .
     refine br J J J (fun hc26=>?_) (fun hc26=>?_)
     .
      exact rz J (by rw[if_neg (fun e=>by have:=hl.1 e;omega),if_pos (hr.2 (by omega))];rfl)
     .
      exact rz J (by rw[if_neg (fun e=>by have:=hl.1 e;omega),if_neg (fun e=>by have:=hr.1 e;omega)];rfl)
   .
    refine cl J (u7 (p:=p) (q:=q) (by omega) (by omega)) J<|cl J (nF (q:=p-q) (by omega)) J<|?_;exact rz J (by rw[Et];rfl)
  .
   refine cl J (u7 (p:=p) (q:=q) (by omega) (by omega)) J<|cl J (nF (q:=p-q) (by omega)) J<|?_;exact rz J (by rw[Et];rfl)
 .
  refine cl J (u7 (p:=p) (q:=q) (by omega) (by omega)) J<|cl J (nF (q:=p-q) (by omega)) J<|?_;exact rz J (by rw[Et];rfl)
def C5{p q:Rat}{i j:Nat}[h:BQ p i][k:BQ q j](hi:i<=100000000:=by decide)(hj:j<=100000000:=by decide):PF GB prog 224 [eF p,eF q] (vB (decide (p=q))):=by
 refine fn func224 J J ntmps224 J J (fun C=>?_);refine cl J (xp (p:=p) (q:=q) hi hj) J<|?_;exact rz J (by show DV.v (.bool (decide _))= .v (.bool _);congr 2;exact decide_eq_decide.2 (tC p q))
def Hv{p q:Rat}{i j:Nat}[h:BQ p i][k:BQ q j](hi:i<=100000000:=by decide)(hj:j<=100000000:=by decide):PF GB prog 83 [eF p,eF q] (eF (if p<q then q else p)):=by
 refine fn func83 J J ntmps83 J J (fun C=>?_);refine cl J (xp (p:=q) (q:=p) hj hi) J<|?_;refine br J J J (fun hc8=>?_) (fun hc8=>?_)
 .
  exact rz J (by rw[if_pos ((Ly q p).1 hc8)];rfl)
 .
  exact rz J (by rw[if_neg (fun e=>hc8 ((Ly q p).2 e))];rfl)
def IE{p q:Rat}{i j:Nat}[h:BQ p i][k:BQ q j](hi:i<=100000000:=by decide)(hj:j<=100000000:=by decide):PF GB prog 82 [eF p,eF q] (eF (if q<p then q else p)):=by
 refine fn func82 J J ntmps82 J J (fun C=>?_);refine cl J (xp (p:=q) (q:=p) hj hi) J<|?_;refine br J J J (fun hc8=>?_) (fun hc8=>?_)
 .
  exact rz J (by rw[if_pos ((SL q p).1 hc8)];rfl)
 .
  exact rz J (by rw[if_neg (fun e=>hc8 ((SL q p).2 e))];rfl)
def tj{p q:Rat}{i j:Nat}[h:BQ p i][k:BQ q j](hi:i<=100000000:=by decide)(hj:j<=100000000:=by decide):PF GB prog 223 [eF p,eF q] (eF (rgcd p q)):=by
 refine fn (fu:=⟨8⟩) func223 J J ntmps223 J J (fun C=>?_);refine mg (X:=Unit) (fun _=>[(2, .ov 2 0),(3, .ov 3 0),(4, .ov 4 0)]) (fun _=>[(2,some (.o 96 [.d (vI (ce p)), .d (vI (b9 p)), .d (cg p)] true)),(3,some (.o 96 [.d (vI (ce q)), .d (vI (b9 q)), .d (cg q)] true)),(4,some (.o 96 [.d (.v (.int .i64 0)), .d (.v (.int .i64 0)), .d (.v (.pointer none))] true))]) (fun _=>True) [2,3,4] [2,3,4] rfl ?_ (fun _=>J) (fun _ _=>?_)
 .
  refine gx J<|?_;refine cs 10 J J J (fun hg10=>?_) (fun hg10=>?_)
  .
   refine cs 15 J J J (fun hg15=>?_) (fun hg15=>?_)
   .
    have hp:=uk hg10;have hq:=uk hg15;have p1:=og hp;have p2:=qf hp;have p3:=qB hp;have p4:=qi hp;have p5:=p.den_nz;have q1:=og hq;have q2:=qf hq;have q3:=qB hq;have q4:=qi hq;have q5:=q.den_nz;refine cs 20 J J J (fun hg20=>?_) (fun hg20=>?_)
    .
     refine br (fu1:=⟨4⟩) J J J (fun hc24=>?_) (fun hc24=>?_)
     .
      have hg:=Wt p3 q3;refine aj 26 (.d (vI p.num)) J (by rw[p1]) ?_;refine gx J<|cl (fu:=⟨2⟩) J (Bw (m:=p.num) (by omega)) J<|?_;refine aj 29 (.d (vI q.num)) J (by rw[q1]) ?_;refine gx J<|cl J (Bw (m:=q.num) (by omega)) J<|cl (hv:=by simp only[ac];exact⟨by omega,by kernel_rfl⟩) J (RX (a:=p.num.natAbs) (b:=q.num.natAbs) (by omega) (by omega)) J<|?_;exact jo J (by rw[Y7 (p:=p) (q:=q) (by omega) (by omega)];exact Ln (by rw[iL];exact hg))
     .
      exact at_ () trivial
    .
     exact at_ () trivial
   .
    exact at_ () trivial
  .
   exact at_ () trivial
 .
  refine cl J (q6 (q:=p) (by omega)) J<|cl J (q6 (q:=q) (by omega)) J<|cl J (Ae (a:=p.den) (b:=q.den) (by omega) (by omega)) J<|?_;refine cl J (xm (q:=p) (by omega)) J<|cl J (q6 (q:=q) (by omega)) J<|cl J (Ae (a:=p.num.natAbs) (b:=q.den) (by omega) (by omega)) J<|?_;refine cl J (xm (q:=q) (by omega)) J<|cl J (q6 (q:=p) (by omega)) J<|cl J (Ae (a:=q.num.natAbs) (b:=p.den) (by omega) (by omega)) J<|?_;refine cl J (O9 (a:=p.num.natAbs*q.den) (b:=q.num.natAbs*p.den) (i:=i+j) (j:=j+i) (by omega) (by omega)) J<|cl J (uR (n:=false) (a:=Nat.gcd (p.num.natAbs*q.den) (q.num.natAbs*p.den)) (d:=p.den*q.den) (i:=i+j+(j+i)) (j:=i+j) (by omega) (by omega)) J<|?_;exact rz J J

def cT:Tr->List DV
 | .leaf b=>[.v (.bool true), .v (.bool b), .v (.bool false), .sl [], .v (.bool false), .sl [], .v (.bool false), .sl [], .v (.pointer none), .v (.pointer none)]
 | .node l x y=>[.v (.bool false), .v (.bool false), .v (.bool (decide (l.a<0))),dN l.a.natAbs, .v (.bool (decide (l.b<0))),dN l.b.natAbs, .v (.bool (decide (l.c<0))),dN l.c.natAbs, .pt (cT x), .pt (cT y)]
def eT(t:Tr):DV:= .pt (cT t)
def eN(n:NQ):DV:= .ag [.v (.bool (decide (n.l.a<0))),dN n.l.a.natAbs, .v (.bool (decide (n.l.b<0))),dN n.l.b.natAbs, .v (.bool (decide (n.l.c<0))),dN n.l.c.natAbs, .v (.int .i64 n.a), .v (.int .i64 n.b)]
def eA(t:Tr):DV:= .ag [.v (.int .i64 (t.num 0)), .sl ((t.wr 0).map eN)]
structure BL (l:aa) (k:Nat):Prop where
 a:l.a.natAbs<2^k
 b:l.b.natAbs<2^k
 c:l.c.natAbs<2^k
def VJ(ns:List NQ):cP 8 (ns.map eN):=fun d hd=>by
 obtain⟨n,_,rfl⟩:=bQ.1 hd;exact⟨rfl,rfl⟩
def Tr.all_wr{p:aa->Prop}: ∀{t:Tr} (n:Nat),t.all p-> ∀x∈t.wr n,p x.l
 | .leaf b,n,_,x,hx=>by cases hx
 | .node l u v,n,⟨h1,h2,h3⟩,x,hx=>by
  simp only[Tr.wr,jJ,aW,bK] at hx;rcases hx with rfl|hx|hx
  ·exact h1
  ·exact u.all_wr _ h2 x hx
  ·exact v.all_wr _ h3 x hx
structure LS (l:aa):Prop where
 ok:l.ok
 a:l.a.natAbs<=4
 b:l.b.natAbs<=4
 c:l.c.natAbs<=40000
def xz{xs:List aa}{i:Nat}(h:i<xs.length):(xs.map eL)[(i:Int).toNat]? =some (eL xs[i]):=by simp[h]
def wU(xs:List aa):(xs.map eL).length=xs.length:=aK ..
def Zx{α:Type}{xs:List α}{i:Nat}{p:α->Prop}(h: ∀x∈xs.take i,p x)(hi:i<xs.length)(hy:p xs[i]): ∀x∈xs.take (i+1),p x:=by
 intro x hx;rw[fN hi] at hx;simp only[bK,aU] at hx;rcases hx with hx|rfl
 ·exact h x hx
 ·exact hy
def Va{a b:Int}(h:decide (a<0)=decide (b<0)):decide (a.natAbs=b.natAbs)=decide (a=b):=by
 have h':a<0↔b<0:=by simpa using h
 exact decide_eq_decide.2 ⟨fun e=>by omega,fun e=>by rw[e]⟩
def aa.ext'{l m:aa}(h1:l.a=m.a)(h2:l.b=m.b)(h3:l.c=m.c):l=m:=by cases l;cases m;simp_all
instance:DecidableEq NQ:=fun x y=>decidable_of_iff (x.l=y.l/\x.a=y.a/\x.b=y.b) (by
 cases x;cases y;simp)
def gm(ls:List aa):cP 6 (ls.map eL):=fun d hd=>by
 obtain⟨n,_,rfl⟩:=bQ.1 hd;exact⟨rfl,rfl⟩
def WB{a b:Nat}(hl:(dg a).length=(dg b).length)(h: ∀j,j<(dg a).length->(dg a).getD j 0=(dg b).getD j 0):a=b:=by
 have e:dg a=dg b:=by
  apply List.ext_getElem hl;intro i h1 h2;have:=h i h1;rw[aX,aX,aZ h1,aZ h2] at this;exact this
 rw[<-ck a,e,ck]
def js{z:Int}:PF GB prog 257 [eI z] (eQ (z:Rat)):=by
 refine fn func257 J J ntmps257 J J (fun C=>?_);exact rz J (by rw[EC];rfl)
def An{l:aa}:PF GB prog 93 [eL l] (eL l.rev):=by
 refine fn func93 J J ntmps93 J J (fun C=>?_);refine cl J Cr J<|cl J Cr J<|cl J Cr J<|?_;exact rz J J
def S1{a b i j:Nat}[ha:BN a i][hb:BN b j](hi:i<=400000000:=by decide):PF GB prog 124 [dN a,dN b] (vB (decide (a=b))):=by
 have hla:=fg (dg a);have hlb:=fg (dg b);have hba:=lw ha.h;refine fn func124 J J ntmps124 J J (fun C=>?_);refine br (fu2:=⟨7⟩) J J J (fun hc10=>?_) (fun hc10=>?_)
 .
  exact rz J (by rw[decide_eq_false (fun e:a=b=>hc10 (by rw[e]))];rfl)
 .
  refine aj 12 (.d (vI ((dg a).length:Nat))) J (by rw[hla];rfl) ?_;refine gx J<|?_;refine lp (X:=Nat) (fun i=>[(13, .d (vI (i:Nat))),(12, .d (vI ((dg a).length:Nat))),(0, .d (dN a)),(1, .d (dN b))]) (fun i=>[]) (fun i=>i<=(dg a).length/\ ∀j,j<i->(dg a).getD j 0=(dg b).getD j 0) (fun i=>(dg a).length-i) 0 J ⟨bV _,fun j hj=>absurd hj (by omega)⟩ (fun _=>J) (fun i hk=>?_);obtain⟨h1,h2⟩:=hk;refine br J J J (fun hc14=>?_) (fun hc14=>?_)
  .
   refine ix _ J (m7 (by omega)) J<|ix _ J (m7 (by omega)) J<|?_;refine br J J J (fun hc24=>?_) (fun hc24=>?_)
   .
    exact rz J (by rw[decide_eq_false (fun e:a=b=>hc24 (by rw[e]))];rfl)
   .
    exact at_ (i+1) ⟨⟨by omega,fun j hj=>by by_cases q:j=i;(subst q;omega);exact h2 j (by omega)⟩,(by omega)⟩
  .
   exact rz J (by rw[decide_eq_true (WB (by omega) (fun j hj=>h2 j (by omega)))];rfl)
def Z5{a b:Int}{i j:Nat}[ha:BI a i][hb:BI b j](hi:i<=400000000:=by decide):PF GB prog 123 [eI a,eI b] (vB (decide (a=b))):=by
 refine fn (fu:=⟨14⟩) func123 J J ntmps123 J J (fun C=>?_);refine aj 9 (.d (.v (.bool (decide (decide (a<0)=decide (b<0)))))) J (by congr 2) ?_;refine gx J<|?_;refine csd 10 J J J (fun hg10=>?_) (fun hg10=>?_)
 .
  refine cl J (S1 (by omega)) J<|?_;exact rz J (by show DV.v (.bool _)=DV.v (.bool _);rw[<-Va hg10])
 .
  exact rz J (by rw[decide_eq_false (fun e:a=b=>hg10 (by rw[e]))];rfl)
end Go.Sx
end
