import Derived.Test.YtefoocgiaegobaaGreatDoorPd10
set_option linter.all false
set_option maxHeartbeats 4000000
set_option maxRecDepth 100000
section
namespace Go.Sx
open Go Go.Proofs Tryz
variable {GB:Gh}
def aAg{h l y:Nat}(hh:h<y)(hl:l<4294967296)(hy:y<4294967296):PF GB prog 341 [.v (.int .u32 (h:Int)), .v (.int .u32 (l:Int)), .v (.int .u32 (y:Int))] (.tp [dU ((h*4294967296+l)/y),dU ((h*4294967296+l)%y)]):=by
 refine fn (fu:=⟨11⟩) func341 J J ntmps341 J J (fun C=>?_);refine kT 10 J (by omega) ?_;refine gx (fu:=⟨4⟩) J<|?_;refine kF 14 J (by omega) ?_;refine gx (fu:=⟨11⟩) (hv:=by simp only[ah];exact⟨by omega,(by decide)⟩) J<|?_;refine ak 19 (.d (.v (.int .u64 (h*2^32:Nat)))) J (by show FX.d (.v (.int _ _))= .d (.v (.int _ _));rw[qu _ 32 (by decide) (by show _*4294967296<_;omega) J]) ?_;refine gx (fu:=⟨3⟩) J<|?_;refine ak 22 (.d (.v (.int .u64 (l+h*2^32:Nat)))) J (congrArg (fun z:Nat=>FX.d (.v (.int .u64 (z:Int)))) (by rw[BitVec.or_comm];exact vH 64 l h 32 hl (by show _+_*4294967296<18446744073709551616;omega))) ?_;obtain⟨t,ht⟩: ∃t,t=h*4294967296+l:=⟨_,rfl⟩;have hq:t/y<4294967296:=by rw[kZ (by omega)];have:=fV 4294967296 (show h+1<=y from hh);omega
 have hr:t%y<y:=dW _ (by omega);refine ak 22 (.d (.v (.int .u64 (t:Nat)))) J (by show FX.d (.v (.int _ _))= .d (.v (.int _ _));congr 3;rw[ht];omega) ?_;refine gx (hv:=by simp only[ah];exact⟨⟨⟨⟨by omega,⟨(by omega),(by omega),(by omega)⟩⟩,by omega⟩,⟨(by omega),(by omega)⟩⟩,by kernel_rfl⟩) J<|?_;exact rz J (by show DV.tp [.v (.int _ _), .v (.int _ _)]= .tp [.v (.int _ _), .v (.int _ _)];rw[<-ht,<-pY,<-nT];generalize t/y=q at*;generalize t%y=r at*;congr 4<;>(first|omega|(congr 3;omega)))
def Qs{A r i b:Nat}(d:Nat)(hb:0<b):(A*4294967296+d)/b=A/b*4294967296+(A%b*4294967296+d)/b/\(A*4294967296+d)%b=(A%b*4294967296+d)%b:=by
 have h:=qJ A b;have e:A*4294967296+d=(A%b*4294967296+d)+b*(A/b*4294967296):=by
  rw[<-bL,Nat.add_right_comm,<-dQ,kW (A%b),h]
 rw[e,mZ _ _ hb,mN];exact⟨kW _ _,J⟩
def Md{ds:List Nat}{i:Nat}(h:i<ds.length):dv (ds.drop i)=dv (ds.drop (i+1))*4294967296+ds.getD i 0:=by
 rw[bX h,aX,aZ h];simp only[dv,jK];omega
def Nt{W:List Nat}{i q:Nat}(h:i<W.length):dv ((W.set i q).drop i)=dv (W.drop (i+1))*4294967296+q:=by
 rw[Md (by rw[aS];exact h),sZ (by omega),Jg h]
def YR{a b k:Nat}{W:List Nat}(hb:0<b)(hk:k<(dg a).length)(hl:W.length=(dg a).length)(h:dv (W.drop (k+1))=dv ((dg a).drop (k+1))/b):
  dv ((W.set k ((dv ((dg a).drop (k+1))%b*4294967296+(dg a).getD k 0)/b)).drop k)=dv ((dg a).drop k)/b/\dv ((dg a).drop k)%b=(dv ((dg a).drop (k+1))%b*4294967296+(dg a).getD k 0)%b:=by
 have:=Qs (A:=dv ((dg a).drop (k+1))) (r:=0) (i:=0) ((dg a).getD k 0) hb;rw[Nt (by omega),h,Md hk,this.1,this.2];exact⟨J,J⟩
def wB{a b:Nat}:f8 a b<0↔a<b:=by unfold f8;split<;>(try split)<;>omega
def xv{a b:Nat}:0<f8 a b↔b<a:=by unfold f8;split<;>(try split)<;>omega
def WC{x:Nat}(hx:x<4294967296):PF GB prog 366 [dU x] (vI (32-(bl x:Int))):=by
 intro G vs hg hv;obtain⟨v,m,rfl,h1,h2⟩:=bt.1 hv;rw[dl] at h2;subst h2;rw[bc.1 h1];exact(EA hx).mono fun v G' _ h=>bc.2 h
def Od{a k:Nat}(h:4294967296^k<=a):k<(dg a).length:=by
 have h1:=tu a;rcases iS k (dg a).length with q|q
 ·exact q
 ·have:4294967296^(dg a).length<=4294967296^k:=bY (by decide) q
  omega
def Oo{v L:Nat}(hL:L=(dg v).length)(h1:1<=L):(dg v).getD (L-1) 0=v/4294967296^(L-1)/\0<v/4294967296^(L-1):=by
 have h:=Ev (jI v) (L-1);rw[sN (by omega:(dg v).length<=L-1+1),b8,pZ,fJ] at h;have h2:=tu v;rw[<-hL] at h2;rw[jT (show v<4294967296^(L-1+2) from dK h2 (bY (by decide) (by omega))),pZ,fJ] at h;have h3:=qk (ek v).2.2 (by intro e;rw[e] at hL;simp at hL;omega);rw[b8,<-hL] at h3;exact⟨h.symm,Nat.div_pos h3 (dL (by decide))⟩
def EL{R n:Nat}(h1:1<=n)(h:R<4294967296^(n+1)):R/4294967296^(n-1)=(dg R).getD (n-1) 0+(dg R).getD n 0*4294967296:=by
 have e:=Ev (jI R) (n-1);rw[b8,show n-1+1=n by omega,jT (show R<4294967296^(n-1+2) by rwa [show n-1+2=n+1 by omega]),pZ,fJ,bS] at e;exact e
def SL{R v j L:Nat}(hL:L=(dg v).length)(h1:1<=L)(hR:R<v*4294967296^(j+1)):R/(v*4294967296^j)<=min (R/4294967296^(L+j-1)/(v/4294967296^(L-1))) 4294967295:=by
 have ht:=(Oo hL h1).2;have hp:0<4294967296^j:=dL (by decide);have hv0:0<v:=by
  rcases fL v with q|q
  ·subst q;simp at ht
  ·exact q
 have hvp:0<v*4294967296^j:=kQ hv0 hp;refine Nat.le_min.2 ⟨?_,?_⟩
 ·rw[rY ht,rY (dL (by decide))]
  have h3:v/4294967296^(L-1)*4294967296^(L-1)<=v:=Nat.div_mul_le_self _ _;have h4:R/(v*4294967296^j)*(v*4294967296^j)<=R:=Nat.div_mul_le_self _ _;rw[show L+j-1=L-1+j by omega,fX]
  calc R/(v*4294967296^j)*(v/4294967296^(L-1))*(4294967296^(L-1)*4294967296^j)
    =R/(v*4294967296^j)*((v/4294967296^(L-1)*4294967296^(L-1))*4294967296^j):=by simp only[bL]
   _<=R/(v*4294967296^j)*(v*4294967296^j):=fV _ (bV _ h3)
   _<=R:=h4
 ·have:R/(v*4294967296^j)<4294967296:=by
   rw[kZ hvp];rw[fK] at hR;rwa [bS,bL]
  omega
def CQ{R V g:Nat}(hV:0<V)(h:R<V*g):R/V<g:=by
 rw[kZ hV,bS];exact h
def avJ{R V g:Nat}(hV:0<V)(h1:R/V<=g)(h2:V*g<=R):g=R/V:=by
 have:g<=R/V:=by rw[rY hV,bS];exact h2
 omega
def M5{R0 R v j g:Nat}{W:List Nat}(hj:j<W.length)(h:R0=R+dv (W.drop (j+1))*4294967296^(j+1)*v)(hv:0<v*4294967296^j)(hg:g=R/(v*4294967296^j)):
  R0=(R-v*4294967296^j*g)+dv ((W.set j g).drop j)*4294967296^j*v/\R-v*4294967296^j*g<v*4294967296^j:=by
 have h1:=qJ R (v*4294967296^j);have h2:=dW R hv;rw[<-hg] at h1;refine⟨?_,by omega⟩;rw[Nt hj,dQ,dQ,h,fK];have e:g*4294967296^j*v=v*4294967296^j*g:=by simp only[bL,kN,bS]
 have e2:dv (W.drop (j+1))*(4294967296^j*4294967296)*v=dv (W.drop (j+1))*4294967296*4294967296^j*v:=by simp only[bL,kN,bS]
 rw[e,e2];omega
def QK{a b s R:Nat}{D:Nat}(hR:R<b*2^s)(h:a*2^s=R+D*(b*2^s)):D=a/b/\R/2^s=a%b:=by
 have hp:0<2^s:=dL (by decide);have hb:0<b:=by
  rcases fL b with q|q
  ·subst q;simp at hR
  ·exact q
 have h1:a=R/2^s+D*b:=by
  have:=congrArg (· /2^s) h;rw[Nat.mul_div_cancel _ hp,<-bL,Nat.add_mul_div_right _ _ hp] at this;exact this
 have h2:R/2^s<b:=by rw[kZ hp];exact hR
 have h3:R/2^s+b*D=a:=by rw[bS b];exact h1.symm
 have:=(Nat.div_mod_unique hb).2 ⟨h3,h2⟩;exact⟨this.1.symm,this.2.symm⟩
def X9{a b s:Nat}(hl:(dg b).length<=(dg a).length)(h2:1<=(dg b).length):a*2^s<b*2^s*4294967296^((dg a).length-(dg b).length+1):=by
 have h1:=tu a;have h3:=qk (ek b).2.2 (by intro e;rw[e] at h2;simp at h2);rw[b8] at h3;have h4:4294967296^(dg a).length<=b*4294967296^((dg a).length-(dg b).length+1):=by
  rw[show(dg a).length=((dg b).length-1)+((dg a).length-(dg b).length+1) by omega,fX];rw[show(dg b).length-1+((dg a).length-(dg b).length+1)-(dg b).length+1=(dg a).length-(dg b).length+1 by omega];exact bV _ h3
 rw[qT];exact kL (dK h1 h4) (dL (by decide))
def MR(x j:Nat):x*2^(32*j)=x*4294967296^j:=by rw[oM]
def QJ{R L j:Nat}(h:R<4294967296^(L+j+1))(h1:1<=L):R/4294967296^(L+j-1)<18446744073709551616:=by
 rw[kZ (dL (by decide)),show(18446744073709551616:Nat)=4294967296^2 from J,<-fX];rwa [show 2+(L+j-1)=L+j+1 by omega]
def avT{R v j L:Nat}(hL:L=(dg v).length)(hR:R<v*4294967296^(j+1)):R<4294967296^(L+j+1):=by
 have h:=tu v;rw[<-hL] at h;rw[jW,fX];exact dK hR (bV _ (nL h))
def QH{a b ia ib:Nat}[ha:BN a ia][hb:BN b ib](hi:ia<=500000000)(hj:ib<=500000000)(h2:1<=(dg b).length)(hl:(dg b).length<=(dg a).length):PF GB prog 342 [dN a,dN b] (.tp [dN (a/b),dN (a%b)]):=by
 have hla:=ez (dg a);have hlb:=ez (dg b);have hba:=ld ha.h;have hba':(dg a).length<=20000000:=by omega
 refine fn func342 J J ntmps342 J J (fun C=>?_);refine ix _ J (gh (k:=(dg b).length-1) (by omega) (by omega)) J<|cl (fu:=⟨0⟩) J (WC (gp b ((dg b).length-1))) J<|?_;obtain⟨s,hs⟩: ∃s:Nat,s=32-bl ((dg b).getD ((dg b).length-1) 0):=⟨_,rfl⟩;have hs32:s<=32:=by omega
 refine ak 22 (.d (vI (s:Nat))) J (by show FX.d (.v (.int _ _))= .d (.v (.int _ _));congr 3;have:=nn.2 (show(dg b).getD ((dg b).length-1) 0<2^32 from gp b _);omega) ?_;refine gx J<|cl J (BA (a:=b) (k:=s) (ia:=ib) (by omega) (by omega)) J<|cl (fu:=⟨0⟩) J (BA (a:=a) (k:=s) (ia:=ia) (by omega) (by omega)) J<|?_;obtain⟨v,hv⟩: ∃v,v=b*2^s:=⟨_,rfl⟩;obtain⟨R0,hR0⟩: ∃R0,R0=a*2^s:=⟨_,rfl⟩;refine ak 25 (.d (dN v)) J (by rw[hv]) ?_;refine ak 28 (.d (dN R0)) J (by rw[hR0]) ?_;obtain⟨L,hL⟩: ∃L,L=(dg v).length:=⟨_,rfl⟩;have hlv:((dg v).map dU).length=L:=by rw[ez,hL]
 have hps:2^s<=2^32:=bY (by decide) hs32;have hpp:0<2^s:=dL (by decide);have hst:=X9 (a:=a) (b:=b) (s:=s) hl h2;rw[<-hv,<-hR0] at hst;have hvb:v<2^(ib+32):=by rw[hv,fX];exact mL hb.h hps (by decide)
 have hRb:R0<2^(ia+32):=by rw[hR0,fX];exact mL ha.h hps (by decide)
 have hbp:0<b:=iY (fun q=>by subst q;rw[Ao] at h2;simp at h2);have hvp:0<v:=hv▸kQ hbp hpp;have hLp:1<=L:=by rw[hL];exact Od (k:=0) (by rw[qN];exact hvp)
 have htop:=Oo hL hLp;haveI hvB:BN v (ib+32):=⟨hvb⟩;have hLb:=ld hvb;have hLb':L<=20000000:=by omega
 have htl:=gp v (L-1);refine gx (fu:=⟨9⟩) J<|?_;refine ak 31 (.d (vI (L:Nat))) J (by rw[hlv];rfl) ?_;refine gx J<|ix (fu:=⟨2⟩) _ J (gh (k:=L-1) (by omega) (by omega)) J<|?_;refine ak 35 (.d (.v (.int .u64 (v/4294967296^(L-1):Nat)))) J (by rw[htop.1]) ?_;rw[htop.1] at htl;refine gx (fu:=⟨11⟩) J<|?_;obtain⟨m,hm⟩: ∃m,m=(dg a).length-(dg b).length+1:=⟨_,rfl⟩;rw[<-hm] at hst;have hrl:(List.replicate ((m:Nat):Int).toNat (DV.v (.int .u32 0))).length=m:=by rw[aW,bW]
 refine ak 41 (.d (vI (m:Nat))) J (by show FX.d (.v (.int _ _))= .d (.v (.int _ _));congr 3;omega) ?_;refine gx J<|mk ((List.replicate m 0).map dU) J J (by rw[<-ue];rfl) J<|?_;refine lp (X:=List Nat×Nat×Nat) (fun⟨W,R,k⟩=>[(6, .d (vI (s:Nat))),(7, .d (dN v)),(8, .d (dN R)),(9, .d (.v (.int .u64 (v/4294967296^(L-1):Nat)))),(10, .rw 42),(11, .d (vI ((k:Nat)-1)))]) (fun⟨W,R,k⟩=>[(42,some (.b 366 1 (W.map dU) true))]) (fun⟨W,R,k⟩=>W.length=m/\bw W/\k<=m/\R0=R+dv (W.drop k)*4294967296^k*v/\R<v*4294967296^k/\R<=R0) (fun⟨W,R,k⟩=>k) ⟨List.replicate m 0,R0,m⟩ J ⟨by simp, .replicate _,aL _,by simp[dv],hst,aL _⟩ (fun _=>J) (fun⟨W,R,k⟩ hk=>?_);dsimp only at hk⊢;obtain⟨h1,h2',h3,h4,h5,h6⟩:=hk;have hlw:=ez W;refine br (fu1:=⟨10⟩) J J J (fun hc47=>?_) (fun hc47=>?_)
 .
  obtain⟨j,rfl⟩: ∃j,k=j+1:=⟨k-1,by omega⟩;have hvj:0<v*4294967296^j:=kQ hvp (dL (by decide));have hge:=SL hL hLp h5;have hlen:=avT hL h5;have hlr:((dg R).map dU).length=(dg R).length:=ez _;haveI hRB:BN R (ia+32):=⟨by omega⟩;have hq32:R/(v*4294967296^j)<4294967296:=by omega
  have hz1:=Int.natCast_nonneg (R/4294967296^(L+j-1));have hz2:=Int.natCast_nonneg (R/4294967296^(L+j-1)/(v/4294967296^(L-1)));refine ak 11 (.d (vI (j:Nat))) J (by show FX.d (.v (.int _ _))= .d (.v (.int _ _));congr 3;omega) ?_;refine mg (fu:=⟨6⟩) (hv:=fun _ _=>by simp only[ah];exact⟨(by omega),(by have:=QJ hlen hLp;omega),(by omega)⟩) (X:=Unit) (fun _=>[(6, .d (vI (s:Nat))),(7, .d (dN v)),(8, .d (dN R)),(9, .d (.v (.int .u64 (v/4294967296^(L-1):Nat)))),(10, .rw 42),(11, .d (vI (j:Nat))),(12, .d (.v (.int .u64 (R/4294967296^(L+j-1):Nat))))]) (fun _=>[(42,some (.b 366 1 (W.map dU) true))]) (fun _=>True) [6,7,8,9,10,11,12] [42] rfl ?_ (fun _=>J) (fun _ hm=>?_)
  .
   refine gx (fu:=⟨4⟩) J<|?_;refine ak 51 (.d (vI (L:Nat))) J (by rw[hlv];rfl) ?_;refine gx (fu:=⟨2⟩) J<|?_;refine ak 53 (.d (vI (L+j:Nat))) J (by show FX.d (.v (.int _ _))= .d (.v (.int _ _));congr 3) ?_;refine gx (fu:=⟨8⟩) J<|?_;refine ak 56 (.d (vI ((dg R).length:Nat))) J (by rw[hlr];rfl) ?_;refine gx J<|?_;refine br (fu2:=⟨6⟩) J J J (fun hc57=>?_) (fun hc57=>?_)
   .
    have hd0:=gp R (L+j-1);have hd1:=gp R (L+j);refine ix (hv:=by simp only[ah];exact⟨⟨by omega,(by decide)⟩,by omega⟩) _ J (gh (k:=L+j) (by omega) (by omega)) J<|ix (fu:=⟨3⟩) _ J (gh (k:=L+j-1) (by omega) (by omega)) J<|?_;refine ak 70 (.d (.v (.int .u64 ((dg R).getD (L+j-1) 0+(dg R).getD (L+j) 0*4294967296:Nat)))) J (congrArg (fun z:Nat=>FX.d (.v (.int .u64 (z:Int)))) (by rw[qu _ 32 (by decide) (by show _*4294967296<_;omega) J,BitVec.or_comm];exact vH 64 ((dg R).getD (L+j-1) 0) ((dg R).getD (L+j) 0) 32 hd0 (by show _+_*4294967296<18446744073709551616;omega))) ?_;refine gx J<|?_;refine ak 12 (.d (.v (.int .u64 (R/4294967296^(L+j-1):Nat)))) J (by rw[EL (by omega) hlen]) ?_;exact at_ () trivial
   .
    refine ak 74 (.d (vI ((dg R).length:Nat))) J (by rw[hlr];rfl) ?_;refine gx J<|?_;refine br J J J (fun hc75=>?_) (fun hc75=>?_)
    .
     have hd0:=gp R (L+j-1);refine ix _ J (gh (k:=L+j-1) (by omega) (by omega)) J<|?_;refine ak 12 (.d (.v (.int .u64 (R/4294967296^(L+j-1):Nat)))) J (by rw[EL (by omega) hlen,sN (by omega:(dg R).length<=L+j),kV,fJ]) ?_;exact at_ () trivial
    .
     refine ak 12 (.d (.v (.int .u64 (R/4294967296^(L+j-1):Nat)))) J (by rw[EL (by omega) hlen,sN (by omega:(dg R).length<=L+j),sN (by omega:(dg R).length<=L+j-1)];rfl) ?_;exact at_ () trivial
  .
   obtain⟨g0,hg0'⟩: ∃g0,g0=min (R/4294967296^(L+j-1)/(v/4294967296^(L-1))) 4294967295:=⟨_,rfl⟩;rw[<-hg0'] at hge;have hg0:=hge;have hg1:g0<=4294967295:=by omega
   refine ak 85 (.d (.v (.int .u64 (g0:Nat)))) J (by show FX.d (.v (.int _ _))= .d (.v (.int _ _));congr 3;rw[<-pY];split<;>omega) ?_;refine gx J<|cl J (sE (u:=g0) (by omega)) J<|cl (fu:=⟨2⟩) J (ql (ia:=ib+32) (ib:=32) (hb:=⟨by show _<4294967296;omega⟩) (by omega) (by decide)) J<|?_;refine ak 91 (.d (vI (32*j:Nat))) J (by show FX.d (.v (.int _ _))= .d (.v (.int _ _));congr 3) ?_;refine gx J<|cl (fu:=⟨0⟩) J (BA (k:=32*j) (ia:=ib+64) (ha:=⟨by rw[show ib+64=ib+32+32 by omega,fX];exact mT hvb (by show _<4294967296;omega)⟩) (by omega) (by omega)) J<|?_;refine ak 92 (.d (dN (v*4294967296^j*g0))) J (by rw[MR,qT]) ?_;refine gx J<|?_;refine lp (X:=Nat) (fun g=>[(6, .d (vI (s:Nat))),(7, .d (dN v)),(8, .d (dN R)),(9, .d (.v (.int .u64 (v/4294967296^(L-1):Nat)))),(10, .rw 42),(11, .d (vI (j:Nat))),(14, .d (.v (.int .u64 (g:Nat)))),(15, .d (dN (v*4294967296^j*g)))]) (fun g=>[(42,some (.b 366 1 (W.map dU) true))]) (fun g=>R/(v*4294967296^j)<=g/\g<=4294967295) (fun g=>g) g0 J ⟨hg0,by omega⟩ (fun _=>J) (fun g hk=>?_);obtain⟨g1,g2⟩:=hk;have hlw:=ez W;refine cl J (Ap (a:=v*4294967296^j*g) (b:=R) (by have:=Dm (a:=v*4294967296^j*g) (k:=L+j+1) (by have h1:=tu v;rw[<-hL] at h1;rw[fK,fX];exact mT (kL h1 (dL (by decide))) (by omega));omega) (by have:=Dm hlen;omega)) J<|?_;refine br (fu1:=⟨7⟩) (v1:=fun hc96=>by simp only[ah];exact(by have h:=CQ hvj (xv.1 hc96);have h1:1<=g:=fN (bQ _) h;omega)) (fu2:=⟨11⟩) J J J (fun hc96=>?_) (fun hc96=>?_)
   .
    have hgd:=CQ hvj (xv.1 hc96);have hg1p:1<=g:=fN (bQ _) hgd;refine ak 98 (.d (.v (.int .u64 ((g-1:Nat):Int)))) J (by show FX.d (.v (.int _ _))= .d (.v (.int _ _));congr 3;omega) ?_;refine gx J<|cl J (sE (u:=g-1) (by omega)) J<|cl (fu:=⟨2⟩) J (ql (ia:=ib+32) (ib:=32) (hb:=⟨by show _<4294967296;omega⟩) (by omega) (by decide)) J<|?_;refine ak 104 (.d (vI (32*j:Nat))) J (by show FX.d (.v (.int _ _))= .d (.v (.int _ _));congr 3) ?_;refine gx J<|cl (fu:=⟨0⟩) J (BA (k:=32*j) (ia:=ib+64) (ha:=⟨by rw[show ib+64=ib+32+32 by omega,fX];exact mT hvb (by show _<4294967296;omega)⟩) (by omega) (by omega)) J<|?_;refine ak 105 (.d (dN (v*4294967296^j*(g-1)))) J (by rw[MR,qT]) ?_;refine gx J<|?_;exact at_ (g-1) ⟨⟨by have h:=CQ hvj (xv.1 hc96);omega,by omega⟩,(by have:=CQ hvj (xv.1 hc96);omega)⟩
   .
    have hgq:=avJ hvj g1 (rT fun q=>hc96 (xv.2 q));refine ak 109 (.d (dU g)) J (by show FX.d (.v (.int _ _))= .d (.v (.int _ _));congr 3;omega) ?_;refine gx J<|sb _ ((W.set j (R/(v*4294967296^j))).map dU) J (gh (k:=j) (by omega) (by omega)) J (by(rw[<-hgq,bW,<-td])<;>rfl) J<|?_;refine cl (fu:=⟨0⟩) J (Ea (a:=R) (b:=v*4294967296^j*g) (ia:=ia+32) (by rw[hgq];exact Nat.mul_div_le _ _) (by omega)) J<|?_;refine ak 113 (.d (dN (R-v*4294967296^j*(R/(v*4294967296^j))))) J (by rw[hgq]) ?_;refine gx J<|?_;exact at_ ⟨W.set j (R/(v*4294967296^j)),R-v*4294967296^j*(R/(v*4294967296^j)),j⟩ (by dsimp only;exact⟨⟨by simpa using h1,h2'.set _ (by omega),by omega,(M5 (by omega) h4 hvj J).1,(M5 (by omega) h4 hvj J).2,by omega⟩,(by omega)⟩)
 .
  obtain rfl:k=0:=by omega
  rw[qN,kS] at h5;rw[qN,kS,iW,hR0,hv] at h4;rw[hv] at h5;have hend:=QK h5 h4;haveI hRB:BN R (ia+32):=⟨by omega⟩;refine fz 42 J J<|cl J (pH (ds:=W) (by omega)) J<|cl J (YH (a:=R) (k:=s) (ia:=ia+32) (by omega) (by omega)) J<|?_;exact rz J (by show DV.tp [fh _,dN _]= .tp [dN _,dN _];rw[q9 h2' hend.1,hend.2])
def an9{a b:Nat}(h:b<=a):(dg b).length<=(dg a).length:=Dm (fN h (tu a))
def wh{a b ia ib:Nat}[ha:BN a ia][hb:BN b ib](hb0:0<b)(hi:ia<=500000000:=by decide)(hj:ib<=500000000:=by decide):PF GB prog 247 [dN a,dN b] (.tp [dN (a/b),dN (a%b)]):=by
 have hla:=ez (dg a);have hlb:=ez (dg b);have hba:=ld ha.h;have hbb:=ld hb.h;have hba':(dg a).length<=20000000:=by omega
 have hbb':(dg b).length<=20000000:=by omega
 have hlb1:1<=(dg b).length:=Od (k:=0) (by rw[qN];exact hb0);refine fn (fu:=⟨7⟩) func247 J J ntmps247 J J (fun C=>?_);refine mg (X:=Unit) (fun _=>[(0, .d (dN a)),(1, .d (dN b))]) (fun _=>[]) (fun _=>True) [0,1] [] rfl ?_ (fun _=>J) (fun _ hm=>?_)
 .
  refine gx J<|cl J (B5 (a:=a) (ia:=ia) (by omega)) J<|?_;refine bd (fu1:=⟨0⟩) J J J (fun hc18=>?_) (fun hc18=>?_)
  .
   refine ak 6 (.d (.v (.int .u64 (a:Nat)))) J (by rw[if_pos hc18]) ?_;refine gx J<|cl J (B5 (a:=b) (ia:=ib) (by omega)) J<|?_;refine bd (fu1:=⟨0⟩) J J J (fun hc24=>?_) (fun hc24=>?_)
   .
    refine ak 8 (.d (.v (.int .u64 (b:Nat)))) J (by rw[if_pos hc24]) ?_;have hdl:=kY a b;have hml:=Nat.mod_le a b;refine gx (hv:=by simp only[ah];exact⟨(by omega),(by omega),(by omega)⟩) J<|cl (hv:=by simp only[ah];exact⟨(by omega),(by omega)⟩) J (sE (u:=a/b) (by omega)) J<|cl J (sE (u:=a%b) (by omega)) J<|?_;exact rz J J
   .
    exact at_ () trivial
  .
   exact at_ () trivial
 .
  refine cl J (Ap (by omega) (by omega)) J<|?_;refine br J J J (fun hc36=>?_) (fun hc36=>?_)
  .
   have hab:=wB.1 hc36;refine qe J J<|ap _ J J (tk _) J<|?_;refine iA 39 J ?_;exact rz J (by show DV.tp [_, .sl ([]++_)]= .tp [_,_];rw[jT hab,gQ hab,n5];rfl)
  .
   have hab:b<=a:=rT fun q=>hc36 (wB.2 q);have hlab:(dg b).length<=(dg a).length:=an9 hab;refine br (fu1:=⟨4⟩) J J J (fun hc42=>?_) (fun hc42=>?_)
   .
    have hb1:b<4294967296:=by have:=tu b;rw[show(dg b).length=1 by omega] at this;omega
    have hbd:(dg b).getD 0 0=b:=wK (by omega);refine ak 44 (.d (vI ((dg a).length:Nat))) J (by rw[hla];rfl) ?_;refine gx J<|mk (fu:=⟨13⟩) ((List.replicate (dg a).length 0).map dU) J J (by rw[<-ue];rfl) J<|?_;refine ak 47 (.d (vI ((dg a).length:Nat))) J (by rw[hla];rfl) ?_;refine gx J<|?_;refine lp (X:=List Nat×Nat) (fun⟨W,k⟩=>[(0, .d (dN a)),(1, .d (dN b)),(10, .rw 45),(11, .d (dU (dv ((dg a).drop k)%b))),(12, .d (vI ((k:Nat)-1)))]) (fun⟨W,k⟩=>[(45,some (.b 366 1 (W.map dU) true))]) (fun⟨W,k⟩=>W.length=(dg a).length/\bw W/\k<=(dg a).length/\dv (W.drop k)=dv ((dg a).drop k)/b) (fun⟨W,k⟩=>k) ⟨List.replicate (dg a).length 0,(dg a).length⟩ J ⟨by simp, .replicate _,aL _,by simp[dv]⟩ (fun _=>J) (fun⟨W,k⟩ hk=>?_) (hF:=(by refine⟨J,J,J,nv J (by simp[dv,dU]),nv J (by simp[vI]),?_⟩;repeat (first|exact trivial|refine And.intro J ?_)))
    try dsimp only at hk⊢
    obtain⟨h1,h2,h3,h4⟩:=hk;have hlw:=ez W;refine br (fu1:=⟨0⟩) J J J (fun hc50=>?_) (fun hc50=>?_)
    .
     obtain⟨k,rfl⟩: ∃j,k=j+1:=⟨k-1,by omega⟩;have hsi:=YR hb0 (by omega) h1 h4;have hrm:=dW (dv ((dg a).drop (k+1))) hb0;have hdk:=gp a k;have hqd:(dv ((dg a).drop (k+1))%b*4294967296+(dg a).getD k 0)/b<4294967296:=by rw[kZ hb0];have:=fV 4294967296 (show dv ((dg a).drop (k+1))%b+1<=b from hrm);omega
     refine ak 12 (.d (vI (k:Nat))) J (by show FX.d (.v (.int _ _))= .d (.v (.int _ _));congr 3;omega) ?_;refine gx J<|ix _ J (gh (k:=k) (by omega) (by omega)) J<|ix _ J (gh (k:=0) J (by omega)) J<|cl J (aAg (h:=dv ((dg a).drop (k+1))%b) (l:=(dg a).getD k 0) (y:=(dg b).getD 0 0) (by omega) hdk (by omega)) J<|?_;refine sb (hv:=by simp only[ah];exact⟨by kernel_rfl,by omega⟩) _ ((W.set k ((dv ((dg a).drop (k+1))%b*4294967296+(dg a).getD k 0)/b)).map dU) J (gh (k:=k) (by omega) (by omega)) J (by(rw[hbd,bW,<-td])<;>rfl) J<|?_;exact at_ ⟨W.set k ((dv ((dg a).drop (k+1))%b*4294967296+(dg a).getD k 0)/b),k⟩ (by dsimp only;exact⟨⟨by simpa using h1,h2.set _ hqd,by omega,hsi.1⟩,(by omega)⟩) (by refine⟨J,J,J,nv J (by rw[hsi.2,hbd]),nv J (by first|(simp[vI];done)|(simp[vI];omega)),?_⟩;repeat (first|exact trivial|refine And.intro J ?_))
    .
     refine fz 45 J J<|cl J (pH (ds:=W) (by omega)) J<|rf J J<|cl J (pH (ds:=[dv ((dg a).drop k)%b]) (by simp)) J<|?_;exact rz rfl (by show DV.tp [fh _,fh _]= .tp [_,_];obtain rfl:k=0:=(by omega);rw[iW,iW,b8] at h4;rw[iW,b8];rw[q9 h2 h4,q9 (.cons (by have:=dW a hb0;omega) .nil) (n:=a%b) (by simp[dv])])
   .
    refine cl J (QH (by omega) (by omega) hlb1 hlab) J<|?_;exact rz J J
def Ok(x y:Nat):Nat.gcd y (x%y)=Nat.gcd x y:=by rw[iM x y,sT y x,iM]
def GX{a b ia ib:Nat}[ha:BN a ia][hb:BN b ib](hi:ia<=240000000:=by decide)(hj:ib<=240000000:=by decide):PF GB prog 186 [dN a,dN b] (dN (Nat.gcd a b)):=by
 refine fn (fu:=⟨6⟩) func186 J J ntmps186 J J (fun C=>?_);refine mg (X:=Unit) (fun _=>[(0, .d (dN a)),(1, .d (dN b))]) (fun _=>[]) (fun _=>True) [0,1] [] rfl ?_ (fun _=>J) (fun _ hm=>?_)
 .
  refine gx J<|cl J (B5 (a:=a) (ia:=ia) (by omega)) J<|?_;refine bd (fu1:=⟨0⟩) J J J (fun hc16=>?_) (fun hc16=>?_)
  .
   refine ak 5 (.d (.v (.int .u64 (a:Nat)))) J (by rw[if_pos hc16]) ?_;refine gx J<|cl J (B5 (a:=b) (ia:=ib) (by omega)) J<|?_;refine bd (fu1:=⟨0⟩) J J J (fun hc22=>?_) (fun hc22=>?_)
   .
    refine ak 7 (.d (.v (.int .u64 (b:Nat)))) J (by rw[if_pos hc22]) ?_;refine gx J<|?_;refine lp (X:=Nat×Nat) (fun⟨x,y⟩=>[(5, .d (.v (.int .u64 (x:Nat)))),(7, .d (.v (.int .u64 (y:Nat))))]) (fun⟨x,y⟩=>[]) (fun⟨x,y⟩=>x<18446744073709551616/\y<18446744073709551616/\Nat.gcd x y=Nat.gcd a b) (fun⟨x,y⟩=>y) ⟨a,b⟩ J ⟨hc16,hc22,J⟩ (fun _=>J) (fun⟨x,y⟩ hk=>?_)
    try dsimp only at hk⊢
    obtain⟨h1,h2,h3⟩:=hk;refine br (v1:=fun hc24=>by simp only[ah];exact⟨⟨(by omega),(by omega)⟩,by kernel_rfl⟩) J J J (fun hc24=>?_) (fun hc24=>?_)
    .
     exact at_ ⟨y,x%y⟩ (by dsimp only;exact⟨⟨h2,by have:=dW x (show 0<y by omega);omega,by rw[Ok,h3]⟩,(by exact dW _ (by omega))⟩)
    .
     refine cl J (sE (u:=x) h1) J<|?_;exact rz J (by show dN x=_;rw[<-h3,show y=0 by omega,mS])
   .
    exact at_ () trivial
  .
   exact at_ () trivial
 .
  refine lp (fu:=⟨5⟩) (X:=Nat×Nat) (fun⟨x,y⟩=>[(0, .d (dN x)),(1, .d (dN y))]) (fun⟨x,y⟩=>[]) (fun⟨x,y⟩=>x<2^(ia+ib)/\y<2^(ia+ib)/\Nat.gcd x y=Nat.gcd a b) (fun⟨x,y⟩=>y) ⟨a,b⟩ J ⟨(ha.mono (by omega)).h,(hb.mono (by omega)).h,J⟩ (fun _=>J) (fun⟨x,y⟩ hk=>?_)
  try dsimp only at hk⊢
  obtain⟨h1,h2,h3⟩:=hk;have hly:=ez (dg y);haveI hx':BN x (ia+ib):=⟨h1⟩;haveI hy':BN y (ia+ib):=⟨h2⟩;refine ak 32 (.d (vI ((dg y).length:Nat))) J (by rw[hly];rfl) ?_;refine gx J<|?_;refine br J J J (fun hc33=>?_) (fun hc33=>?_)
  .
   have hy0:0<y:=iY fun q=>by subst q;rw[Ao] at hc33;simp at hc33
   refine cl J (wh (a:=x) (b:=y) (ia:=ia+ib) (ib:=ia+ib) hy0 (by omega) (by omega)) J<|?_;exact at_ ⟨y,x%y⟩ (by dsimp only;exact⟨⟨h2,by have:=dW x hy0;omega,by rw[Ok,h3]⟩,(by exact dW _ hy0)⟩)
  .
   have hy0:y=0:=tg.1 (by omega);have hlx:=ld h1;have hmx:=ez (dg x);refine qe J J<|ap _ J J (tk _) J<|?_;refine iA 44 J ?_;exact rz J (by show DV.sl ([]++_)=_;rw[<-h3,hy0,mS];rfl)
def P4(neg:Bool)(m:Nat):eI (zv neg m)= .ag [.v (.bool (neg&&decide (0<m))),dN m]:=by unfold eI;rw[pA,N3]
def Yu(z:Int):zv (!decide (z<0)) z.natAbs= -z:=by
 unfold zv;by_cases h:z<0<;>simp[h]<;>omega
def Xz(a b:Int):zv (!(decide (a<0)==decide (b<0))) (a.natAbs*b.natAbs)=a*b:=by
 have h:=Pz (decide (a<0)) (decide (b<0)) a.natAbs b.natAbs;rw[lw,lw] at h;exact h
def jD{neg:Bool}{m:Nat}:PF GB prog 217 [.v (.bool neg),dN m] (eI (zv neg m)):=by
 have hl:=ez (dg m);have hz:= @tg m;refine fn func217 J J ntmps217 J J (fun C=>?_);refine jv 6 J J J (fun hg6=>?_) (fun hg6=>?_)
 .
  exact rz J (by rw[P4,hg6];show DV.ag [.v (.bool _),_]= .ag [.v (.bool _),_];congr 4;rw[Bool.true_and];exact decide_eq_decide.2 (by omega))
 .
  exact rz J (by rw[P4,hg6];rfl)
end Go.Sx
end
section
namespace Go.Sx
open Go
instance:DecidableEq aa:=fun x y=>decidable_of_iff (x.a=y.a/\x.b=y.b/\x.c=y.c) (by
 cases x;cases y;simp)
structure aj where
 lo:Rat
 hi:Rat
 nl:Bool
 nh:Bool
def aj.all:aj:=⟨0,0,true,true⟩
def aj.empty(v:aj):Bool:=!v.nl&&(!v.nh&&decide (0<=bg v.lo v.hi))
def aj.meet(v w:aj):aj:=
 ⟨if v.nl then w.lo else if w.nl then v.lo else if v.lo<w.lo then w.lo else v.lo,
  if v.nh then w.hi else if w.nh then v.hi else if w.hi<v.hi then w.hi else v.hi,v.nl&&w.nl,v.nh&&w.nh⟩
def aj.sample(v:aj):Rat:=if v.nl&&v.nh then 0 else if v.nl then v.hi-1 else if v.nh then v.lo+1 else(v.lo+v.hi)*mkRat 1 2
def aa.cutK(l m:aa):Rat:=m.nor.dot l.dir
def aa.cutC(l m:aa):Rat:=m.value l.base
def aa.cutV(l:aa)(v:aj)(m:aa):aj:=
 if Int.sign (l.cutK m).num=0 then v
 else if Int.sign (l.cutK m).num=1 then v.meet ⟨-(l.cutC m/l.cutK m),0,false,true⟩
 else v.meet ⟨0, -(l.cutC m/l.cutK m),true,false⟩
def aa.cutB(l:aa)(v:aj)(m:aa):Bool:=
 if Int.sign (l.cutK m).num=0 then decide (0<Int.sign (l.cutC m).num) else !(l.cutV v m).empty
structure aG where
 l:aa
 v:aj
abbrev aE:=List aG
def l5(l:aa):aE->aj->Option aj
 |[],v=>some v
 |s::t,v=>if l.cutB v s.l then l5 l t (l.cutV v s.l) else none
def kC(c:aE)(l:aa):Option aj:=l5 l c aj.all
def ni(l:aa)(s:aG):Int:=Int.sign (l.value (s.l.at s.v.sample)).num
def mH(l:aa):aE->Int
 |[]=> -1
 |s::t=>if ni l s≠0 then ni l s else if s.l=l then 1 else mH l t
def uE(c:aE)(l:aa):Int:=if(kC c l).isSome then 0 else mH l c
def ab.half(p:ab):Int:=
 if 0<Int.sign p.y.num\/(Int.sign p.y.num=0/\0<Int.sign p.x.num) then 1 else if Int.sign p.y.num<0\/Int.sign p.x.num<0 then 2 else 0
def ir(u v:ab):Int:=if u.half<v.half then-1 else if v.half<u.half then 1 else-(Int.sign (u.cross v).num)
def fp(l:aa):aE->aE
 |[]=>[]
 |s::t=>if s.l.cutB s.v l then⟨s.l,s.l.cutV s.v l⟩::fp l t else fp l t
def iu(p:Nat->Bool)(i j:Nat):Nat:=
 if h:i<j then(if p ((i+j)/2) then iu p ((i+j)/2+1) j else iu p i ((i+j)/2)) else i
termination_by j-i
def mh(c:aE)(l:aa)(i:Nat):Bool:=match c[i]? with
 |some s=>decide (ir s.l.dir l.dir<0)
 |none=>false
def om(c:aE)(l:aa)(v:aj):aE:=
 c.take (iu (mh c l) 0 c.length)++⟨l,v⟩::c.drop (iu (mh c l) 0 c.length)
def bD(c:aE)(l:aa):aE:=match kC c l with
 |some v=>om (fp l c) l v
 |none=>c
def cx(c:aE)(l:aa):Bool:=match kC c l with
 |some _=>true
 |none=>decide (0<uE c l)
def BW(p:Nat->Bool): ∀(d i j:Nat),j-i<=d->i<=j->i<=iu p i j/\iu p i j<=j
 |0,i,j,h,hij=>by
  rw[iu,dif_neg (by omega)];omega
 |d+1,i,j,h,hij=>by
  rw[iu];split
  ·split
   ·have:=BW p d ((i+j)/2+1) j (by omega) (by omega);omega
   ·have:=BW p d i ((i+j)/2) (by omega) (by omega);omega
  ·omega
def Jf(l:aa): ∀c:aE,(fp l c).length<=c.length
 |[]=>aL _
 |s::t=>by
  have:=Jf l t;unfold fp;split<;>simp<;>omega
def Ze(c:aE)(l:aa)(v:aj):(om c l v).length=c.length+1:=by
 have:=(BW (mh c l) c.length 0 c.length (by omega) (by omega)).2;simp[om];omega
def Cj(c:aE)(l:aa):(bD c l).length<=c.length+1:=by
 unfold bD;split
 ·rw[Ze];have:=Jf l c;omega
 ·omega
inductive Tr where
 |leaf (b:Bool)
 |node (l:aa) (x y:Tr)
def Tr.isLeaf:Tr->Bool
 | .leaf _=>true
 | .node .. =>false
def Tr.code:Tr->Bool
 | .leaf b=>b
 | .node .. =>false
def Tr.depth:Tr->Nat
 | .leaf _=>0
 | .node _ x y=>1+max x.depth y.depth
def Tr.size:Tr->Nat
 | .leaf _=>0
 | .node _ x y=>1+x.size+y.size
def Tr.joinQ(l:aa)(x y:Tr):Tr:=if x.isLeaf&&(y.isLeaf&&(x.code==y.code)) then x else .node l x y
def Tr.restrict:Tr->aE->Tr
 | .leaf b,_=> .leaf b
 | .node l x y,c=>if !cx c l.rev then x.restrict c else if !cx c l then y.restrict c else joinQ l (x.restrict (bD c l)) (y.restrict (bD c l.rev))
def Tr.parts:Tr->aE->List (Bool×aE)
 | .leaf b,c=>[(b,c)]
 | .node l x y,c=>(if cx c l then x.parts (bD c l) else [])++(if cx c l.rev then y.parts (bD c l.rev) else [])
def Tr.all(p:aa->Prop):Tr->Prop
 | .leaf _=>True
 | .node l x y=>p l/\x.all p/\y.all p
def Tr.good:Tr->Prop
 | .leaf _=>True
 | .node _ x y=> ¬(x.isLeaf=true/\y.isLeaf=true/\x.code=y.code)/\x.good/\y.good
structure NQ where
 l:aa
 a:Int
 b:Int
def AL(b:Bool):Int:=if b then-2 else-1
def Tr.num:Tr->Nat->Int
 | .leaf b,_=>AL b
 | .node ..,n=>n
def Tr.wr:Tr->Nat->List NQ
 | .leaf _,_=>[]
 | .node l x y,n=>⟨l,x.num (n+1),y.num (n+1+x.size)⟩::x.wr (n+1)++y.wr (n+1+x.size)
def Tr.wr_len: ∀(t:Tr) (n:Nat),(t.wr n).length=t.size
 | .leaf _,n=>rfl
 | .node l x y,n=>by
  have h1:=Tr.wr_len x (n+1);have h2:=Tr.wr_len y (n+1+x.size);simp[Tr.wr,Tr.size,h1,h2];omega
def Tr.joinQ_cases(l:aa)(x y:Tr):(Tr.joinQ l x y=x/\x.isLeaf=true)\/(Tr.joinQ l x y= .node l x y/\ ¬(x.isLeaf=true/\y.isLeaf=true/\x.code=y.code)):=by
 unfold Tr.joinQ;split
 ·rename_i h
  simp at h;exact .inl ⟨J,h.1⟩
 ·rename_i h
  simp at h;exact .inr ⟨J,fun⟨a,b,c⟩=>h a b c⟩
def Tr.restrict_depth: ∀(t:Tr) (c:aE),(t.restrict c).depth<=t.depth
 | .leaf b,c=>aL _
 | .node l x y,c=>by
  unfold Tr.restrict;split
  ·have:=x.restrict_depth c;simp only[Tr.depth];omega
  ·split
   ·have:=y.restrict_depth c;simp only[Tr.depth];omega
   ·have h1:=x.restrict_depth (bD c l)
    have h2:=y.restrict_depth (bD c l.rev);rcases Tr.joinQ_cases l (x.restrict (bD c l)) (y.restrict (bD c l.rev)) with⟨h,_⟩|⟨h,_⟩
    ·rw[h];simp only[Tr.depth];omega
    ·rw[h];simp only[Tr.depth];omega
def Tr.restrict_all(p:aa->Prop): ∀(t:Tr) (c:aE),t.all p->(t.restrict c).all p
 | .leaf b,c,_=>trivial
 | .node l x y,c,h=>by
  obtain⟨h0,h1,h2⟩:=h;unfold Tr.restrict;split
  ·exact x.restrict_all p c h1
  ·split
   ·exact y.restrict_all p c h2
   ·rcases Tr.joinQ_cases l (x.restrict (bD c l)) (y.restrict (bD c l.rev)) with⟨h,_⟩|⟨h,_⟩
    ·rw[h];exact x.restrict_all p _ h1
    ·rw[h];exact⟨h0,x.restrict_all p _ h1,y.restrict_all p _ h2⟩
def oh(l:aa)(p:ab):l.value p=(l.a:Rat)*p.x+(l.b:Rat)*p.y+(l.c:Rat):=rfl
def fP(l:aa)(p:ab):l.rev.value p= -l.value p:=by
 rw[oh,oh];have h1:((l.rev.a:Int):Rat)= -(l.a:Rat):=(EY l.a).symm;have h2:((l.rev.b:Int):Rat)= -(l.b:Rat):=(EY l.b).symm;have h3:((l.rev.c:Int):Rat)= -(l.c:Rat):=(EY l.c).symm;rw[h1,h2,h3];grind
def bp(q p:ab)(e:Rat):ab:=⟨q.x+e*(p.x-q.x),q.y+e*(p.y-q.y)⟩
def kr(l:aa)(q p:ab)(e:Rat):l.value (bp q p e)=l.value q+e*(l.value p-l.value q):=by
 simp only[oh,bp];grind
def cv(q u:ab)(e:Rat):ab:=⟨q.x+e*u.x,q.y+e*u.y⟩
def jq(l:aa)(q u:ab)(e:Rat):l.value (cv q u e)=l.value q+e*l.nor.dot u:=by
 simp only[oh,cv,aa.nor,ab.dot];grind
def jb{a b:Rat}(ha:0<a)(hb:0<b):0<a*b:=Rat.mul_pos ha hb
def f6{a b:Rat}(ha:0<=a)(hb:0<=b):0<=a*b:=Rat.mul_nonneg ha hb
def NB(a:Rat):0<=a*a:=by
 by_cases h:0<=a
 ·exact f6 h h
 ·have:=f6 (a:= -a) (b:= -a) (by grind) (by grind)
  grind
def oe{s k:Rat}(hk:0<k):0<s*k↔0<s:=by
 constructor
 ·intro h
  by_cases hs:0<s
  ·exact hs
  ·have:=f6 (a:= -s) (b:=k) (by grind) (by grind)
   grind
 ·intro h;exact jb h hk
def jB{s k:Rat}(hk:0<k):0<=s*k↔0<=s:=by
 constructor
 ·intro h
  by_cases hs:0<=s
  ·exact hs
  ·have:=jb (a:= -s) (b:=k) (by grind) hk
   grind
 ·intro h;exact f6 h (by grind)
def Ji{A B u v:Rat}(h0:0<=A)(h1:0<=A+v*B)(hu:0<=u)(huv:u<=v):0<=A+u*B:=by
 by_cases hB:0<=B
 ·have:=f6 hu hB;grind
 ·have:=f6 (a:=v-u) (b:= -B) (by grind) (by grind)
  grind
def aa.Ne(l:aa):Prop:= ¬(l.a=0/\l.b=0)
def aa.ok.ne{l:aa}(h:l.ok):l.Ne:=h.1
def n4{l:aa}(h:l.Ne):0<l.nor.dot l.nor:=by
 show 0<(l.a:Rat)*l.a+(l.b:Rat)*l.b;have h1:=NB (l.a:Rat);have h2:=NB (l.b:Rat);by_cases ha:l.a=0
 ·have hb:l.b≠0:=fun hb=>h ⟨ha,hb⟩
  have hb':(l.b:Rat)≠0:=fun e=>hb (iT.1 e);have:(l.b:Rat)*l.b≠0:=by grind
  grind
 ·have ha':(l.a:Rat)≠0:=fun e=>ha (iT.1 e)
  have:(l.a:Rat)*l.a≠0:=by grind
  grind
def zw{l:aa}(h:l.Ne): ∃q:Rat,l.nor.dot l.nor*q= -(l.c:Rat)/\l.base=⟨(l.a:Rat)*q,(l.b:Rat)*q⟩:=by
 refine⟨-(l.c:Rat)/l.nor.dot l.nor,?_,J⟩;have:=n4 h;grind
def mF(l m:aa)(t:Rat):m.value (l.at t)=l.cutC m+t*l.cutK m:=by
 simp only[aa.cutC,aa.cutK,oh,aa.at,ab.add,ab.scale,aa.dir,aa.nor,ab.dot];grind
def rE{l:aa}(h:l.Ne)(t:Rat):l.value (l.at t)=0:=by
 obtain⟨q,h1,h2⟩:=zw h;simp only[oh,aa.at,h2,ab.add,ab.scale,aa.dir];simp only[aa.nor,ab.dot] at h1;grind
def B9{l:aa}(h:l.Ne){p:ab}(hp:l.value p=0): ∃t,p=l.at t:=by
 obtain⟨q,h1,h2⟩:=zw h;have hn:=n4 h;obtain⟨x,y⟩:=p;rw[oh] at hp;simp only[aa.nor,ab.dot] at h1 hn;refine⟨((l.b:Rat)*x-(l.a:Rat)*y)/((l.a:Rat)*l.a+(l.b:Rat)*l.b),?_⟩;generalize ht:((l.b:Rat)*x-(l.a:Rat)*y)/((l.a:Rat)*l.a+(l.b:Rat)*l.b)=t;have ht':((l.a:Rat)*l.a+(l.b:Rat)*l.b)*t=(l.b:Rat)*x-(l.a:Rat)*y:=by grind
 simp only[aa.at,h2,ab.add,ab.scale,aa.dir,ab.mk.injEq];generalize (l.a:Rat)=a at*;generalize (l.b:Rat)=b at*;generalize (l.c:Rat)=c at*;have e1:(a*a+b*b)*(x-(a*q+b*t))=0:=by grind
 have e2:(a*a+b*b)*(y-(b*q+ -a*t))=0:=by grind
 constructor<;>grind
def aj.has(v:aj)(t:Rat):Prop:=(v.nl=true\/v.lo<=t)/\(v.nh=true\/t<=v.hi)
def aj.ins(v:aj)(t:Rat):Prop:=(v.nl=true\/v.lo<t)/\(v.nh=true\/t<v.hi)
def aj.Pos(v:aj):Prop:=v.nl=true\/v.nh=true\/v.lo<v.hi
def anU(a b:Rat):0<=bg a b↔b<=a:=by
 unfold bg;split
 ·constructor
  ·intro h;exact absurd h (by decide)
  ·intro h;grind
 ·split
  ·constructor
   ·intro _;grind
   ·intro _;decide
  ·constructor
   ·intro _;grind
   ·intro _;decide
def Dd(v:aj):v.empty=false↔v.Pos:=by
 obtain⟨lo,hi,nl,nh⟩:=v;unfold aj.empty aj.Pos
 cases nl<;>cases nh<;>simp[anU]
 first|exact Rat.not_le|grind
def aj.ins.has{v:aj}{t:Rat}(h:v.ins t):v.has t:=by
 obtain⟨h1,h2⟩:=h;exact⟨h1.imp id (fun h=>fT h),h2.imp id (fun h=>fT h)⟩
def P5:mkRat 1 2=(1:Rat)/2:=by rw[pT];rfl
def uG{v:aj}(h:v.Pos):v.ins v.sample:=by
 obtain⟨lo,hi,nl,nh⟩:=v;unfold aj.Pos at h;unfold aj.ins aj.sample;rw[P5]
 cases nl<;>cases nh<;>simp at* <;>grind
def Kb(v w:aj)(t:Rat):(v.meet w).has t↔v.has t/\w.has t:=by
 obtain⟨lo,hi,nl,nh⟩:=v;obtain⟨lo',hi',nl',nh'⟩:=w;unfold aj.has aj.meet
 cases nl<;>cases nh<;>cases nl'<;>cases nh'<;>simp<;>grind
def Qm(v w:aj)(t:Rat):(v.meet w).ins t↔v.ins t/\w.ins t:=by
 obtain⟨lo,hi,nl,nh⟩:=v;obtain⟨lo',hi',nl',nh'⟩:=w;unfold aj.ins aj.meet
 cases nl<;>cases nh<;>cases nl'<;>cases nh'<;>simp<;>grind
def Ho(t:Rat):aj.all.has t:=⟨.inl J, .inl J⟩
def Rp(t:Rat):aj.all.ins t:=⟨.inl J, .inl J⟩
def vj:aj.all.Pos:= .inl J
def mr(k:Rat):Int.sign k.num=0↔k=0:=by rw[jX,oZ]
def YF(k:Rat):0<k.num↔0<k:=by
 have h1:0<=k.num↔0<=k:=Rat.num_nonneg;have h2:k.num=0↔k=0:=oZ;constructor
 ·intro h
  have a:=h1.1 (by omega);have b:k≠0:=fun e=>by have:=h2.2 e;omega
  grind
 ·intro h
  have a:=h1.2 (by grind);have b:k.num≠0:=fun e=>by have:=h2.1 e;grind
  omega
def nC(k:Rat):Int.sign k.num=1↔0<k:=by rw[Int.sign_eq_one_iff_pos,YF]
def r6(k:Rat):0<Int.sign k.num↔0<k:=by
 rw[<-nC];rcases oR k.num 0 with h|h|h
 ·rw[fZ h];decide
 ·rw[h];decide
 ·rw[gV h];decide
def pc(k:Rat):Int.sign k.num<0↔k<0:=by
 have h1:=mr k;have h2:=r6 k;constructor
 ·intro h
  by_cases hk:0<k
  ·have:=h2.2 hk;omega
  ·by_cases h0:k=0
   ·have:=h1.2 h0;omega
   ·grind
 ·intro h
  have a1: ¬Int.sign k.num=0:=fun e=>by have:=h1.1 e;grind
  have a2: ¬0<Int.sign k.num:=fun e=>by have:=h2.1 e;grind
  omega
def vf{l m:aa}(v:aj)(hk:l.cutK m=0):l.cutV v m=v/\(l.cutB v m=true↔0<l.cutC m):=by
 have h:=(mr (l.cutK m)).2 hk;unfold aa.cutV aa.cutB;rw[if_pos h,if_pos h,decide_eq_true_iff,r6];exact⟨J,Iff.rfl⟩
def wi{l m:aa}(v:aj)(hk:0<l.cutK m):l.cutV v m=v.meet ⟨-(l.cutC m/l.cutK m),0,false,true⟩/\(l.cutB v m=true↔(l.cutV v m).Pos):=by
 have h0: ¬Int.sign (l.cutK m).num=0:=fun e=>by have:=(mr _).1 e;grind
 have h1:=(nC (l.cutK m)).2 hk;constructor
 ·unfold aa.cutV;rw[if_neg h0,if_pos h1]
 ·unfold aa.cutB;rw[if_neg h0,<-Dd];simp
def uZ{l m:aa}(v:aj)(hk:l.cutK m<0):l.cutV v m=v.meet ⟨0, -(l.cutC m/l.cutK m),true,false⟩/\(l.cutB v m=true↔(l.cutV v m).Pos):=by
 have h0: ¬Int.sign (l.cutK m).num=0:=fun e=>by have:=(mr _).1 e;grind
 have h1: ¬Int.sign (l.cutK m).num=1:=fun e=>by have:=(nC _).1 e;grind
 constructor
 ·unfold aa.cutV;rw[if_neg h0,if_neg h1]
 ·unfold aa.cutB;rw[if_neg h0,<-Dd];simp
def Vn{C K t:Rat}(hk:0<K): -(C/K)<=t↔0<=C+t*K:=by
 have e:C=C/K*K:=by grind
 generalize C/K=d at*;rw[e,show d*K+t*K=(d+t)*K from by grind,jB hk];grind
def LG{C K t:Rat}(hk:0<K): -(C/K)<t↔0<C+t*K:=by
 have e:C=C/K*K:=by grind
 generalize C/K=d at*;rw[e,show d*K+t*K=(d+t)*K from by grind,oe hk];grind
def SQ{C K t:Rat}(hk:K<0):t<= -(C/K)↔0<=C+t*K:=by
 have e:C=C/K*K:=by grind
 generalize C/K=d at*;rw[e,show d*K+t*K=(-(d+t))*(-K) from by grind,jB (by grind)];grind
def JP{C K t:Rat}(hk:K<0):t< -(C/K)↔0<C+t*K:=by
 have e:C=C/K*K:=by grind
 generalize C/K=d at*;rw[e,show d*K+t*K=(-(d+t))*(-K) from by grind,oe (by grind)];grind
def ny(k:Rat):k=0\/0<k\/k<0:=by grind
def Cp{l m:aa}{v:aj}(hb:l.cutB v m=true)(t:Rat):(l.cutV v m).has t↔v.has t/\0<=m.value (l.at t):=by
 rw[mF];rcases ny (l.cutK m) with hk|hk|hk
 ·obtain⟨h1,h2⟩:=vf v hk
  rw[h1,hk];have:=h2.1 hb;constructor
  ·intro h;exact⟨h,by grind⟩
  ·exact fun h=>h.1
 ·rw[(wi v hk).1,Kb,<-Vn hk]
  simp[aj.has]
 ·rw[(uZ v hk).1,Kb,<-SQ hk]
  simp[aj.has]
def CZ{l m:aa}{v:aj}(hb:l.cutB v m=true)(t:Rat):(l.cutV v m).ins t↔v.ins t/\0<m.value (l.at t):=by
 rw[mF];rcases ny (l.cutK m) with hk|hk|hk
 ·obtain⟨h1,h2⟩:=vf v hk
  rw[h1,hk];have:=h2.1 hb;constructor
  ·intro h;exact⟨h,by grind⟩
  ·exact fun h=>h.1
 ·rw[(wi v hk).1,Qm,<-LG hk]
  simp[aj.ins]
 ·rw[(uZ v hk).1,Qm,<-JP hk]
  simp[aj.ins]
def vE{l m:aa}{v:aj}(hv:v.Pos)(hb:l.cutB v m=true):(l.cutV v m).Pos:=by
 rcases ny (l.cutK m) with hk|hk|hk
 ·rw[(vf v hk).1];exact hv
 ·exact(wi v hk).2.1 hb
 ·exact(uZ v hk).2.1 hb
def CN{l m:aa}{v:aj}(hv:v.Pos)(hb:l.cutB v m=false){t:Rat}(ht:v.has t):m.value (l.at t)<=0:=by
 rw[mF];have hb': ¬l.cutB v m=true:=by rw[hb];decide
 rcases ny (l.cutK m) with hk|hk|hk
 ·have h2:=(vf v hk).2
  have: ¬0<l.cutC m:=fun h=>hb' (h2.2 h);rw[hk];grind
 ·obtain⟨h1,h2⟩:=wi v hk
  have hn: ¬(l.cutV v m).Pos:=fun h=>hb' (h2.2 h);rw[h1] at hn;have h3:=LG (C:=l.cutC m) (t:=t) hk
  suffices¬(-(l.cutC m/l.cutK m)<t) by grind
  generalize-(l.cutC m/l.cutK m)=d at*;obtain⟨lo,hi,nl,nh⟩:=v;unfold aj.Pos aj.meet at hn;unfold aj.Pos at hv;unfold aj.has at ht
  cases nl<;>cases nh<;>simp at* <;>grind
 ·obtain⟨h1,h2⟩:=uZ v hk
  have hn: ¬(l.cutV v m).Pos:=fun h=>hb' (h2.2 h);rw[h1] at hn;have h3:=JP (C:=l.cutC m) (t:=t) hk
  suffices¬(t< -(l.cutC m/l.cutK m)) by grind
  generalize-(l.cutC m/l.cutK m)=d at*;obtain⟨lo,hi,nl,nh⟩:=v;unfold aj.Pos aj.meet at hn;unfold aj.Pos at hv;unfold aj.has at ht
  cases nl<;>cases nh<;>simp at* <;>grind
def bF(c:aE)(p:ab):Prop:= ∀s∈c,0<s.l.value p
def uK(c:aE)(p:ab):Prop:= ∀s∈c,0<=s.l.value p
def Ed(l:aa): ∀(c:aE) (v w:aj),v.Pos->l5 l c v=some w->
  w.Pos/\(∀t,w.has t↔v.has t/\uK c (l.at t))/\(∀t,w.ins t↔v.ins t/\bF c (l.at t))
 |[],v,w,hv,h=>by
  obtain rfl:v=w:=by simpa[l5] using h
  exact⟨hv,fun t=>⟨fun h=>⟨h,fun s hs=>absurd hs (by simp)⟩,fun h=>h.1⟩,fun t=>⟨fun h=>⟨h,fun s hs=>absurd hs (by simp)⟩,fun h=>h.1⟩⟩
 |s::c,v,w,hv,h=>by
  rw[l5] at h;split at h
  ·rename_i hb
   obtain⟨h1,h2,h3⟩:=Ed l c _ w (vE hv hb) h;refine⟨h1,fun t=>?_,fun t=>?_⟩
   ·rw[h2,Cp hb]
    simp only[uK,dJ];exact and_assoc
   ·rw[h3,CZ hb]
    simp only[bF,dJ];exact and_assoc
  ·exact absurd h (by simp)
def Li(l:aa): ∀(c:aE) (v:aj),v.Pos->l5 l c v=none-> ∀t,v.has t-> ¬bF c (l.at t)
 |[],v,hv,h=>by simp[l5] at h
 |s::c,v,hv,h=>by
  intro t ht hd;have hd':=dJ.1 hd;rw[l5] at h;split at h
  ·rename_i hb
   exact Li l c _ (vE hv hb) h t ((Cp hb t).2 ⟨ht,fT hd'.1⟩) hd'.2
  ·rename_i hb
   have:=CN hv (by simpa using hb) ht;have:=hd'.1;grind
def bF.open: ∀{c:aE} {q:ab} (u:ab),bF c q-> ∃e:Rat,0<e/\ ∀d,0<=d->d<=e->bF c (cv q u d)
 |[],q,u,_=>⟨1,by decide,fun d _ _ s hs=>absurd hs (by simp)⟩
 |s::c,q,u,h=>by
  have h':=dJ.1 h;obtain⟨e,he,hd⟩:=bF.open (c:=c) u h'.2;have hs:=h'.1;generalize hk:s.l.nor.dot u=k;have hf: ∃f:Rat,0<f/\ ∀d,0<=d->d<=f->0<s.l.value q+d*k:=by
   by_cases hk0:0<=k
   ·exact⟨1,by decide,fun d h1 _=>by have:=f6 h1 hk0;grind⟩
   ·refine⟨s.l.value q/(2* -k),?_,fun d h1 h2=>?_⟩
    ·have e1:s.l.value q/(2* -k)*(2* -k)=s.l.value q:=by grind
     exact(oe (k:=2* -k) (by grind)).1 (by rw[e1];exact hs)
    ·have e1:s.l.value q/(2* -k)*(2* -k)=s.l.value q:=by grind
     generalize s.l.value q/(2* -k)=f at*;have:=f6 (a:=f-d) (b:= -k) (by grind) (by grind);grind
  obtain⟨f,hf0,hf⟩:=hf;by_cases hef:e<=f
  ·refine⟨e,he,fun d h1 h2=>dJ.2 ⟨?_,hd d h1 h2⟩⟩
   rw[jq,hk];exact hf d h1 (by grind)
  ·refine⟨f,hf0,fun d h1 h2=>dJ.2 ⟨?_,hd d h1 (by grind)⟩⟩
   rw[jq,hk];exact hf d h1 h2
def OO: ∀{c:aE} {q p:ab},bF c q->(∃s∈c,s.l.value p<=0)->
  ∃e:Rat,0<=e/\e<=1/\(∃s∈c,s.l.value p<=0/\s.l.value (bp q p e)=0)/\uK c (bp q p e)
 |[],q,p,_,h=>by obtain⟨s,hs,_⟩:=h;exact absurd hs (by simp)
 |s::c,q,p,h,hex=>by
  have h':=dJ.1 h;have hs:=h'.1;by_cases hc: ∃s∈c,s.l.value p<=0
  ·obtain⟨e,h0,h1,⟨s1,m1,n1,z1⟩,hC⟩:=OO h'.2 hc
   by_cases hp:0<=s.l.value (bp q p e)
   ·exact⟨e,h0,h1,⟨s1,aJ _ m1,n1,z1⟩,dJ.2 ⟨hp,hC⟩⟩
   ·rw[kr] at hp
    generalize hB:s.l.value p-s.l.value q=B at*;have hB0:B<0:=by
     by_cases hB0:0<=B
     ·have:=f6 h0 hB0;grind
     ·grind
    have e1:s.l.value q/(-B)*(-B)=s.l.value q:=by grind
    generalize hf:s.l.value q/(-B)=f at*;have f0:0<=f:=(jB (k:= -B) (by grind)).1 (by rw[e1];grind);have f1:f<=e:=by
     have:=(jB (s:=e-f) (k:= -B) (by grind)).1 (by grind);grind
    have z:s.l.value (bp q p f)=0:=by rw[kr,hB];grind
    have np:s.l.value p<=0:=by
     have:=f6 (a:=1-e) (b:= -B) (by grind) (by grind);grind
    refine⟨f,f0,by grind,⟨s,aQ,np,z⟩,dJ.2 ⟨by rw[z];exact gR,fun s2 m2=>?_⟩⟩;have a1:=h'.2 s2 m2;have a2:=hC s2 m2;rw[kr] at a2⊢;exact Ji (fT a1) a2 f0 f1
  ·have np:s.l.value p<=0:=by
    obtain⟨s1,m1,n1⟩:=hex;rcases aT.1 m1 with rfl|m1
    ·exact n1
    ·exact absurd ⟨s1,m1,n1⟩ hc
   generalize hB:s.l.value p-s.l.value q=B at*;have hB0:B<0:=by grind
   have e1:s.l.value q/(-B)*(-B)=s.l.value q:=by grind
   generalize hf:s.l.value q/(-B)=f at*;have f0:0<=f:=(jB (k:= -B) (by grind)).1 (by rw[e1];grind);have f1:f<=1:=by
    have:=(jB (s:=1-f) (k:= -B) (by grind)).1 (by grind);grind
   have z:s.l.value (bp q p f)=0:=by rw[kr,hB];grind
   refine⟨f,f0,f1,⟨s,aQ,np,z⟩,dJ.2 ⟨by rw[z];exact gR,fun s2 m2=>?_⟩⟩;have a1:=h'.2 s2 m2;have a2:0<s2.l.value p:=by
    by_cases h:0<s2.l.value p
    ·exact h
    ·exact absurd ⟨s2,m2,by grind⟩ hc
   rw[kr];have:=Ji (A:=s2.l.value q) (B:=s2.l.value p-s2.l.value q) (u:=f) (v:=1) (fT a1) (by grind) f0 f1;exact this
structure di (c:aE):Prop where
 ne: ∃p,bF c p
 ok: ∀s∈c,s.l.ok
 edge: ∀s∈c,s.v.Pos/\ ∀t,s.v.has t↔uK c (s.l.at t)
def di.nil:di []:=⟨⟨⟨0,0⟩,fun s hs=>absurd hs (by simp)⟩,fun s hs=>absurd hs (by simp),fun s hs=>absurd hs (by simp)⟩
def vK{c:aE}{m:aa}(hne: ∃q,bF c q)(h: ∀p,bF c p->0<m.value p){p:ab}(hp:uK c p):0<=m.value p:=by
 obtain⟨q,hq⟩:=hne;have mq:=h q hq;by_cases hm:0<=m.value p
 ·exact hm
 ·exfalso
  generalize hB:m.value q-m.value p=B;have hB0:0<B:=by grind
  have e1: -m.value p/B*B= -m.value p:=by grind
  generalize-m.value p/B=e at*;have e0:0<e:=(oe hB0).1 (by rw[e1];grind);have e2:e<=1:=by
   have:=(jB (s:=1-e) hB0).1 (by grind);grind
  have hd:bF c (bp p q e):=fun s hs=>by
   rw[kr];have a:=hp s hs;have b:=hq s hs;have:=jb e0 b;have:=f6 (a:=1-e) (b:=s.l.value p) (by grind) a;grind
  have:=h _ hd;rw[kr,hB,e1] at this;grind
def s7{l:aa}{s':aG}: ∀{c:aE},s'∈fp l c↔ ∃s∈c,s.l.cutB s.v l=true/\s'=⟨s.l,s.l.cutV s.v l⟩
 |[]=>by simp[fp]
 |s::c=>by
  rw[fp];split
  ·rename_i hb
   rw[aT,s7 (c:=c)];constructor
   ·rintro (rfl|⟨s1,h1,h2⟩)
    ·exact⟨s,aQ,hb,J⟩
    ·exact⟨s1,aJ _ h1,h2⟩
   ·rintro ⟨s1,h1,h2,h3⟩
    rcases aT.1 h1 with rfl|h1
    ·exact .inl h3
    ·exact .inr ⟨s1,h1,h2,h3⟩
  ·rename_i hb
   rw[s7 (c:=c)];constructor
   ·rintro ⟨s1,h1,h2⟩;exact⟨s1,aJ _ h1,h2⟩
   ·rintro ⟨s1,h1,h2,h3⟩
    rcases aT.1 h1 with rfl|h1
    ·exact absurd h2 hb
    ·exact⟨s1,h1,h2,h3⟩
def tI{c:aE}{l:aa}{v:aj}{s:aG}:s∈om c l v↔s=⟨l,v⟩\/s∈c:=by
 unfold om;generalize iu (mh c l) 0 c.length=n;rw[cX,aT];have h:=lU n c;constructor
 ·rintro (h1|h1|h1)
  ·exact .inr (fY h1)
  ·exact .inl h1
  ·exact .inr (iQ h1)
 ·rintro (h1|h1)
  ·exact .inr (.inl h1)
  ·rw[<-h,cX] at h1
   rcases h1 with h1|h1
   ·exact .inl h1
   ·exact .inr (.inr h1)
def YZ{c:aE}{l:aa}(hl:l.Ne)(hp:kC c l=none){p:ab}(h:bF c p):l.value p≠0:=by
 intro h0;obtain⟨t,rfl⟩:=B9 hl h0;exact Li l c _ vj hp t (Ho t) h
def MM{c:aE}{l:aa}(hl:l.Ne){v:aj}(hp:kC c l=some v):(∃q,bF c q/\0<l.value q)/\ ∃q,bF c q/\l.value q<0:=by
 obtain⟨h1,_,h3⟩:=Ed l c _ v vj hp;have hd:=((h3 v.sample).1 (uG h1)).2;have h0:=rE hl v.sample;have hn:=n4 hl;constructor
 ·obtain⟨e,he,hm⟩:=hd.open l.nor
  refine⟨_,hm e (fT he) gR,?_⟩;rw[jq,h0];have:=jb he hn;grind
 ·obtain⟨e,he,hm⟩:=hd.open ⟨-l.nor.x, -l.nor.y⟩
  refine⟨_,hm e (fT he) gR,?_⟩;rw[jq,h0];have:=jb he hn;simp only[ab.dot] at this⊢;grind
def U1{c:aE}{l:aa}{v:aj}(hc:di c)(hl:l.ok)(hp:kC c l=some v):
  di (om (fp l c) l v)/\ ∀p,bF (om (fp l c) l v) p↔bF c p/\0<l.value p:=by
 obtain⟨⟨q,hq,lq⟩,_⟩:=MM hl.ne hp;obtain⟨v1,v2,v3⟩:=Ed l c _ v vj hp;have hD: ∀p,bF (om (fp l c) l v) p↔bF c p/\0<l.value p:=by
  intro p;constructor
  ·intro h
   have lp:0<l.value p:=h ⟨l,v⟩ (tI.2 (.inl J));refine⟨fun s0 hs0=>?_,lp⟩;by_cases h0:0<s0.l.value p
   ·exact h0
   ·exfalso
    obtain⟨e,e0,e1,⟨s,ms,ns,zs⟩,hC⟩:=OO (p:=p) hq ⟨s0,hs0,by grind⟩;obtain⟨t,ht⟩:=B9 (hc.ok s ms).ne zs;rw[ht] at hC;obtain⟨p1,p2⟩:=hc.edge s ms;have hh:=(p2 t).2 hC;have lr:0<l.value (s.l.at t):=by
     rw[<-ht,kr];by_cases hB:0<=l.value p-l.value q
     ·have:=f6 e0 hB;grind
     ·have:=f6 (a:=1-e) (b:= -(l.value p-l.value q)) (by grind) (by grind)
      grind
    have hb:s.l.cutB s.v l=true:=by
     cases hb:s.l.cutB s.v l with
     |true=>rfl
     |false=>have:=CN p1 hb hh;grind
    have:=h ⟨s.l,s.l.cutV s.v l⟩ (tI.2 (.inr (s7.2 ⟨s,ms,hb,J⟩)));simp only at this;grind
  ·rintro ⟨h1,h2⟩ s hs
   rcases tI.1 hs with rfl|hs
   ·exact h2
   ·obtain⟨s1,m1,_,rfl⟩:=s7.1 hs
    exact h1 s1 m1
 have hne: ∃p,bF (om (fp l c) l v) p:=⟨q,(hD q).2 ⟨hq,lq⟩⟩;have hC: ∀p,uK (om (fp l c) l v) p↔uK c p/\0<=l.value p:=by
  intro p;constructor
  ·intro h
   refine⟨fun s hs=>?_,h ⟨l,v⟩ (tI.2 (.inl J))⟩;exact vK hne (fun p hp=>((hD p).1 hp).1 s hs) h
  ·rintro ⟨h1,h2⟩ s hs
   rcases tI.1 hs with rfl|hs
   ·exact h2
   ·obtain⟨s1,m1,_,rfl⟩:=s7.1 hs
    exact h1 s1 m1
 refine⟨⟨hne,fun s hs=>?_,fun s hs=>?_⟩,hD⟩
 ·rcases tI.1 hs with rfl|hs
  ·exact hl
  ·obtain⟨s1,m1,_,rfl⟩:=s7.1 hs
   exact hc.ok s1 m1
 ·rcases tI.1 hs with rfl|hs
  ·refine⟨v1,fun t=>?_⟩
   rw[hC];simp only;rw[v2];have h0:=rE hl.ne t;constructor
   ·intro h;exact⟨h.2,by rw[h0];exact gR⟩
   ·intro h;exact⟨Ho t,h.1⟩
  ·obtain⟨s1,m1,hb,rfl⟩:=s7.1 hs
   obtain⟨p1,p2⟩:=hc.edge s1 m1;refine⟨vE p1 hb,fun t=>?_⟩;rw[hC];simp only;rw[Cp hb,p2]
def bF.seg{c:aE}{q p:ab}{e:Rat}(hq:bF c q)(hp:bF c p)(h0:0<=e)(h1:e<=1):bF c (bp q p e):=fun s hs=>by
 rw[kr];have a:=hq s hs;have b:=hp s hs;by_cases he:e=0
 ·subst he;grind
 ·have:=jb (a:=e) (by grind) b
  have:=f6 (a:=1-e) (b:=s.l.value q) (by grind) (by grind);grind
def PL{v:aj}{t:Rat}(h:v.ins t):(∃u,u<t/\v.has u)/\ ∃u,t<u/\v.has u:=by
 obtain⟨lo,hi,nl,nh⟩:=v;unfold aj.ins at h;unfold aj.has;refine⟨⟨if nl=true then t-1 else lo,?_⟩,⟨if nh=true then t+1 else hi,?_⟩⟩<;>cases nl<;>cases nh<;>simp at* <;>grind
def vL{a b c x y z:Nat}(h1:x*b=a*y)(h2:x*c=a*z)(g:Nat.gcd (Nat.gcd a b) c=1):a∣x:=by
 have e:x=Nat.gcd (Nat.gcd (x*a) (x*b)) (x*c):=by
  rw[Nat.gcd_mul_left,Nat.gcd_mul_left,g,kS]
 rw[e];exact Nat.dvd_gcd (Nat.dvd_gcd (Nat.dvd_mul_left ..) (h1▸Nat.dvd_mul_right ..)) (h2▸Nat.dvd_mul_right ..)
def W9{a b c x y z:Int}(h1:a*y=b*x)(h2:a*z=c*x)(h3:b*z=c*y)
  (g1:Nat.gcd (Nat.gcd a.natAbs b.natAbs) c.natAbs=1)(g2:Nat.gcd (Nat.gcd x.natAbs y.natAbs) z.natAbs=1):
  (a=x/\b=y/\c=z)\/(a= -x/\b= -y/\c= -z):=by
 have n1:a.natAbs*y.natAbs=b.natAbs*x.natAbs:=by rw[<-jQ,<-jQ,h1]
 have n2:a.natAbs*z.natAbs=c.natAbs*x.natAbs:=by rw[<-jQ,<-jQ,h2]
 have n3:b.natAbs*z.natAbs=c.natAbs*y.natAbs:=by rw[<-jQ,<-jQ,h3]
 generalize ha:a.natAbs=A at*;generalize hb:b.natAbs=B at*;generalize hc:c.natAbs=C at*;generalize hx:x.natAbs=X at*;generalize hy:y.natAbs=Y at*;generalize hz:z.natAbs=Z at*;have gB:Nat.gcd (Nat.gcd B A) C=1:=by rw[iM B A];exact g1
 have gC:Nat.gcd (Nat.gcd C A) B=1:=by rw[Nat.gcd_assoc,iM];exact g1
 have gY:Nat.gcd (Nat.gcd Y X) Z=1:=by rw[iM Y X];exact g2
 have gZ:Nat.gcd (Nat.gcd Z X) Y=1:=by rw[Nat.gcd_assoc,iM];exact g2
 have e1:A=X:=Nat.dvd_antisymm (vL (x:=X) (y:=Y) (z:=Z) (by grind) (by grind) g1) (vL (x:=A) (y:=B) (z:=C) (by grind) (by grind) g2);have e2:B=Y:=Nat.dvd_antisymm (vL (x:=Y) (y:=X) (z:=Z) (by grind) (by grind) gB) (vL (x:=B) (y:=A) (z:=C) (by grind) (by grind) gY);have e3:C=Z:=Nat.dvd_antisymm (vL (x:=Z) (y:=X) (z:=Y) (by grind) (by grind) gC) (vL (x:=C) (y:=A) (z:=B) (by grind) (by grind) gZ);have s1:a=x\/a= -x:=by omega
 have s2:b=y\/b= -y:=by omega
 have s3:c=z\/c= -z:=by omega
 clear ha hb hc hx hy hz n1 n2 n3 g1 g2 gB gC gY gZ e1 e2 e3;have z1:= @rM x y;have z2:= @rM x z;have z3:= @rM y z;rcases s1 with rfl|rfl<;>rcases s2 with rfl|rfl<;>rcases s3 with rfl|rfl<;>grind
def Gq{l m:aa}(hl:l.ok)(hm:m.ok)(h: ∀t,l.value (m.at t)=0):l=m\/l=m.rev:=by
 have h0:=h 0;have h1:=h 1;rw[mF] at h0 h1;have hC:m.cutC l=0:=by grind
 have hK:m.cutK l=0:=by grind
 obtain⟨q,q1,q2⟩:=zw hm.ne;have hn:=n4 hm.ne;unfold aa.cutC at hC;rw[q2,oh] at hC;unfold aa.cutK at hK;simp only[aa.nor,aa.dir,ab.dot] at hK q1 hn hC;obtain⟨a,b,c⟩:=l;obtain⟨x,y,z⟩:=m;simp only at*;have e1:a*y=b*x:=by
  have:((a*y:Int):Rat)=((b*x:Int):Rat):=by rw[cN,cN];grind
  exact oX.1 this
 have e2:a*z=c*x:=by
  have:((a*z:Int):Rat)=((c*x:Int):Rat):=by rw[cN,cN];grind
  exact oX.1 this
 have e3:b*z=c*y:=by
  have:((b*z:Int):Rat)=((c*y:Int):Rat):=by rw[cN,cN];grind
  exact oX.1 this
 rcases W9 e1 e2 e3 hl.2 hm.2 with⟨rfl,rfl,rfl⟩|⟨rfl,rfl,rfl⟩
 ·exact .inl J
 ·exact .inr J
def aa.ok.rev{l:aa}(h:l.ok):l.rev.ok:=by
 obtain⟨h1,h2⟩:=h;refine⟨?_,?_⟩
 ·simp only[aa.rev];omega
 ·simp only[aa.rev,kJ];exact h2
def NR(l:aa): ∀c:aE,(∀s∈c,ni l s<=0/\s.l≠l)-> ¬0<mH l c
 |[],_=>by simp[mH]
 |s::c,h=>by
  have h':=dJ.1 h;unfold mH;rw[if_neg h'.1.2];split
  ·have:=h'.1.1;omega
  ·exact NR l c h'.2
def Qn{c:aE}{l:aa}(hc:di c)(hl:l.ok)(hp:kC c l=none):
  (0<mH l c/\ ∀p,bF c p->0<l.value p)\/(¬0<mH l c/\ ∀p,bF c p->l.value p<0):=by
 have hoff:=fun p (h:bF c p)=>YZ hl.ne hp h;by_cases hq: ∃q,bF c q/\0<l.value q
 ·left
  obtain⟨q,hq,lq⟩:=hq;have hall: ∀p,bF c p->0<l.value p:=by
   intro p h;have:=hoff p h;by_cases h0:0<l.value p
   ·exact h0
   ·exfalso
    have hn:l.value p<0:=by grind
    have e1:l.value q/(l.value q-l.value p)*(l.value q-l.value p)=l.value q:=by grind
    generalize l.value q/(l.value q-l.value p)=e at*;have f0:0<=e:=(jB (k:=l.value q-l.value p) (by grind)).1 (by grind);have f1:e<=1:=by
     have:=(jB (s:=1-e) (k:=l.value q-l.value p) (by grind)).1 (by grind);grind
    exact hoff _ (hq.seg h f0 f1) (by rw[kr];grind)
  refine⟨?_,hall⟩
  cases c with
  |nil=>simp[kC,l5] at hp
  |cons s c=>
   obtain⟨p1,p2⟩:=hc.edge s aQ;have hi:=uG p1;have hr:=vK hc.ne hall ((p2 _).1 hi.has);unfold mH;by_cases h0:ni l s=0
   ·rw[if_neg (by simpa using h0)]
    have hz:l.value (s.l.at s.v.sample)=0:=(mr _).1 h0;have hge: ∀t,s.v.has t->0<=l.value (s.l.at t):=fun t ht=>vK hc.ne hall ((p2 t).1 ht);obtain⟨⟨u1,m1,n1⟩,⟨u2,m2,n2⟩⟩:=PL hi;have g1:=hge _ n1;have g2:=hge _ n2;rw[mF] at hz g1 g2;have hK:s.l.cutK l=0:=by
     rcases ny (s.l.cutK l) with h|h|h
     ·exact h
     ·exfalso
      have:=jb (a:=s.v.sample-u1) (b:=s.l.cutK l) (by grind) h;grind
     ·exfalso
      have:=jb (a:=u2-s.v.sample) (b:= -s.l.cutK l) (by grind) (by grind);grind
    have hz2: ∀t,l.value (s.l.at t)=0:=fun t=>by rw[mF,hK];rw[hK] at hz;grind
    rcases Gq hl (hc.ok s aQ) hz2 with h|h
    ·rw[if_pos h.symm];decide
    ·exfalso
     have:=hall q hq;rw[h,fP] at this;have:=hq s aQ;grind
   ·rw[if_pos h0]
    have hz:l.value (s.l.at s.v.sample)≠0:=fun e=>h0 ((mr _).2 e);exact(r6 _).2 (by grind)
 ·right
  have hall: ∀p,bF c p->l.value p<0:=fun p h=>by
   have:=hoff p h;have: ¬0<l.value p:=fun h'=>hq ⟨p,h,h'⟩;grind
  refine⟨NR l c fun s hs=>?_,hall⟩;obtain⟨p1,p2⟩:=hc.edge s hs;have hr:=vK (m:=l.rev) hc.ne (fun p h=>by rw[fP];have:=hall p h;grind) ((p2 _).1 (uG p1).has);rw[fP] at hr;constructor
  ·have: ¬0<ni l s:=fun h=>by have:=(r6 _).1 h;grind
   omega
  ·rintro rfl
   obtain⟨p,hp⟩:=hc.ne;have:=hall p hp;have:=hp s hs;grind
def pG{c:aE}{l:aa}(hc:di c)(hl:l.ok):cx c l=true↔ ∃p,bF c p/\0<l.value p:=by
 unfold cx
 cases hp:kC c l with
 |some v=>exact⟨fun _=>(MM hl.ne hp).1,fun _=>J⟩
 |none=>
  simp only[uE,hp,Option.isSome_none,dZ,if_false,decide_eq_true_iff];rcases Qn hc hl hp with⟨h1,h2⟩|⟨h1,h2⟩
  ·refine⟨fun _=>?_,fun _=>h1⟩
   obtain⟨p,hp⟩:=hc.ne;exact⟨p,hp,h2 p hp⟩
  ·refine⟨fun h=>absurd h h1,?_⟩
   rintro ⟨p,hp,h⟩;have:=h2 p hp;grind
def je{c:aE}{l:aa}(hc:di c)(hl:l.ok)(hb:cx c l=true):di (bD c l)/\ ∀p,bF (bD c l) p↔bF c p/\0<l.value p:=by
 unfold bD
 cases hp:kC c l with
 |some v=>exact U1 hc hl hp
 |none=>
  refine⟨hc,fun p=>?_⟩;unfold cx at hb;simp only[hp,uE,Option.isSome_none,dZ,if_false,decide_eq_true_iff] at hb;rcases Qn hc hl hp with⟨h1,h2⟩|⟨h1,h2⟩
  ·exact⟨fun h=>⟨h,h2 p h⟩,fun h=>h.1⟩
  ·exact absurd hb h1
def MZ{c:aE}{l:aa}(hl:l.ok){p:ab}(hp:bF c p)(h0:l.value p=0):(∃q,bF c q/\0<l.value q)/\ ∃q,bF c q/\l.value q<0:=by
 have hn:=n4 hl.ne;constructor
 ·obtain⟨e,he,hm⟩:=hp.open l.nor
  refine⟨_,hm e (fT he) gR,?_⟩;rw[jq,h0];have:=jb he hn;grind
 ·obtain⟨e,he,hm⟩:=hp.open ⟨-l.nor.x, -l.nor.y⟩
  refine⟨_,hm e (fT he) gR,?_⟩;rw[jq,h0];have:=jb he hn;simp only[ab.dot] at this⊢;grind
inductive Qu (c:aE) (l:aa):Prop
 |left (h1:cx c l.rev=false) (h: ∀p,bF c p->0<l.value p)
 |right (h1:cx c l.rev=true) (h2:cx c l=false) (h: ∀p,bF c p->l.value p<0)
 |both (h1:cx c l.rev=true) (h2:cx c l=true) (g1:di (bD c l)) (g2:di (bD c l.rev))
   (e1: ∀p,bF (bD c l) p↔bF c p/\0<l.value p) (e2: ∀p,bF (bD c l.rev) p↔bF c p/\l.value p<0)
def Ai{c:aE}{l:aa}(hc:di c)(hl:l.ok):Qu c l:=by
 have hr:=pG hc hl.rev;have hi:=pG hc hl
 cases h1:cx c l.rev with
 |false=>
  refine .left h1 fun p hp=>?_;have hn: ¬ ∃q,bF c q/\l.value q<0:=by
   rintro ⟨q,a,b⟩;have:=hr.2 ⟨q,a,by rw[fP];grind⟩;rw[h1] at this;exact absurd this (by decide)
  have n1: ¬l.value p<0:=fun h=>hn ⟨p,hp,h⟩;have n2:l.value p≠0:=fun h=>hn (MZ hl hp h).2;grind
 |true=>
  cases h2:cx c l with
  |false=>
   refine .right h1 h2 fun p hp=>?_;have hn: ¬ ∃q,bF c q/\0<l.value q:=by
    intro h;have:=hi.2 h;rw[h2] at this;exact absurd this (by decide)
   have n1: ¬0<l.value p:=fun h=>hn ⟨p,hp,h⟩;have n2:l.value p≠0:=fun h=>hn (MZ hl hp h).1;grind
  |true=>
   obtain⟨g1,e1⟩:=je hc hl h2;obtain⟨g2,e2⟩:=je hc hl.rev h1;refine .both h1 h2 g1 g2 e1 fun p=>?_;rw[e2,fP];constructor<;>rintro ⟨a,b⟩<;>exact⟨a,by grind⟩
def Tr.restrict_A{l:aa}{e:aE}(X Y:Tr)(h:cx e l.rev=false):(Tr.node l X Y).restrict e=X.restrict e:=by
 rw[Tr.restrict,h];rfl
def Tr.restrict_B{l:aa}{e:aE}(X Y:Tr)(h:cx e l.rev=true)(h2:cx e l=false):(Tr.node l X Y).restrict e=Y.restrict e:=by
 rw[Tr.restrict,h,h2];rfl
def Tr.restrict_C{l:aa}{e:aE}(X Y:Tr)(h:cx e l.rev=true)(h2:cx e l=true):(Tr.node l X Y).restrict e=Tr.joinQ l (X.restrict (bD e l)) (Y.restrict (bD e l.rev)):=by
 rw[Tr.restrict,h,h2];rfl
def o4:List aa->aE->Option aE
 |[],c=>some c
 |l::t,c=>if cx c l then o4 t (bD c l) else none
def Ol: ∀{ls:List aa} {c e:aE},di c->(∀l∈ls,l.ok)->o4 ls c=some e->di e/\ ∀p,bF e p↔bF c p/\ ∀l∈ls,0<l.value p
 |[],c,e,hc,_,h=>by
  obtain rfl:c=e:=by simpa[o4] using h
  exact⟨hc,fun p=>⟨fun h=>⟨h,fun l hl=>absurd hl (by simp)⟩,fun h=>h.1⟩⟩
 |l::t,c,e,hc,hl,h=>by
  have hl':=dJ.1 hl;rw[o4] at h;split at h
  ·rename_i hb
   obtain⟨g1,g2⟩:=je hc hl'.1 hb;obtain⟨k1,k2⟩:=Ol g1 hl'.2 h;refine⟨k1,fun p=>?_⟩;rw[k2,g2,dJ,and_assoc]
  ·exact absurd h (by simp)
def J9: ∀{ls:List aa} {c:aE},di c->(∀l∈ls,l.ok)->(∃p,bF c p/\ ∀l∈ls,0<l.value p)-> ∃e,o4 ls c=some e
 |[],c,_,_,_=>⟨c,J⟩
 |l::t,c,hc,hl,⟨p,h1,h2⟩=>by
  have hl':=dJ.1 hl;have h2':=dJ.1 h2;have hb:=(pG hc hl'.1).2 ⟨p,h1,h2'.1⟩;obtain⟨g1,g2⟩:=je hc hl'.1 hb;rw[o4,if_pos hb];exact J9 g1 hl'.2 ⟨p,(g2 p).2 ⟨h1,h2'.1⟩,h2'.2⟩
def Lg{c:aE}(hc:di c){s:aG}(hs:s∈c){m:aa}(hm:m.ok)(h: ∀p,bF c p->0<m.value p)(hz:m.value (s.l.at s.v.sample)=0):m=s.l:=by
 obtain⟨p1,p2⟩:=hc.edge s hs;have hi:=uG p1;have hge: ∀t,s.v.has t->0<=m.value (s.l.at t):=fun t ht=>vK hc.ne h ((p2 t).1 ht);obtain⟨⟨u1,m1,n1⟩,⟨u2,m2,n2⟩⟩:=PL hi;have g1:=hge _ n1;have g2:=hge _ n2;rw[mF] at hz g1 g2;have hK:s.l.cutK m=0:=by
  rcases ny (s.l.cutK m) with h|h|h
  ·exact h
  ·exfalso
   have:=jb (a:=s.v.sample-u1) (b:=s.l.cutK m) (by grind) h;grind
  ·exfalso
   have:=jb (a:=u2-s.v.sample) (b:= -s.l.cutK m) (by grind) (by grind);grind
 have hz2: ∀t,m.value (s.l.at t)=0:=fun t=>by rw[mF,hK];rw[hK] at hz;grind
 rcases Gq hm (hc.ok s hs) hz2 with h'|h'
 ·exact h'
 ·exfalso
  obtain⟨q,hq⟩:=hc.ne;have:=h q hq;rw[h',fP] at this;have:=hq s hs;grind
def fy(l:aa):List aa->aj->Option aj
 |[],v=>some v
 |m::t,v=>if m=l then fy l t v else if l.cutB v m then fy l t (l.cutV v m) else none
def d5(c:List aa)(p:ab):Prop:= ∀m∈c,0<m.value p
def Bu(l:aa): ∀(c:List aa) (v w:aj),v.Pos->fy l c v=some w->
  w.Pos/\(∀t,w.ins t↔v.ins t/\ ∀m∈c,m≠l->0<m.value (l.at t))
 |[],v,w,hv,h=>by
  obtain rfl:v=w:=by simpa[fy] using h
  exact⟨hv,fun t=>⟨fun h=>⟨h,fun s hs=>absurd hs (by simp)⟩,fun h=>h.1⟩⟩
 |m::c,v,w,hv,h=>by
  rw[fy] at h;split at h
  ·rename_i hm
   obtain⟨h1,h2⟩:=Bu l c _ w hv h;refine⟨h1,fun t=>?_⟩;rw[h2,dJ];exact⟨fun h=>⟨h.1,fun h'=>absurd hm h',h.2⟩,fun h=>⟨h.1,h.2.2⟩⟩
  ·rename_i hm
   split at h
   ·rename_i hb
    obtain⟨h1,h2⟩:=Bu l c _ w (vE hv hb) h;refine⟨h1,fun t=>?_⟩;rw[h2,CZ hb,dJ,and_assoc];exact⟨fun h=>⟨h.1,fun _=>h.2.1,h.2.2⟩,fun h=>⟨h.1,h.2.1 hm,h.2.2⟩⟩
   ·exact absurd h (by simp)
def Gd(l:aa): ∀(c:List aa) (v:aj),v.Pos->fy l c v=none-> ∀t,v.has t-> ¬ ∀m∈c,m≠l->0<m.value (l.at t)
 |[],v,hv,h=>by simp[fy] at h
 |m::c,v,hv,h=>by
  intro t ht hd;have hd':=dJ.1 hd;rw[fy] at h;split at h
  ·exact Gd l c _ hv h t ht hd'.2
  ·rename_i hm
   split at h
   ·rename_i hb
    exact Gd l c _ (vE hv hb) h t ((Cp hb t).2 ⟨ht,fT (hd'.1 hm)⟩) hd'.2
   ·rename_i hb
    have:=CN hv (by simpa using hb) ht;have:=hd'.1 hm;grind
def jE(c:List aa):Bool:=c.isEmpty||c.any (fun l=>(fy l c aj.all).isSome)
def KT: ∀{ls:List aa} {c e:aE},o4 ls c=some e-> ∀s∈e,s.l∈ls\/ ∃s'∈c,s'.l=s.l
 |[],c,e,h,s,hs=>by
  obtain rfl:c=e:=by simpa[o4] using h
  exact .inr ⟨s,hs,J⟩
 |l::t,c,e,h,s,hs=>by
  rw[o4] at h;split at h
  ·rcases KT h s hs with h1|⟨s',h1,h2⟩
   ·exact .inl (aJ _ h1)
   ·unfold bD at h1
    split at h1
    ·rcases tI.1 h1 with rfl|h1
     ·exact .inl (by rw[<-h2];exact aQ)
     ·obtain⟨s1,m1,_,rfl⟩:=s7.1 h1
      exact .inr ⟨s1,m1,h2⟩
    ·exact .inr ⟨s',h1,h2⟩
  ·exact absurd h (by simp)
def PD{c:List aa}(hok: ∀l∈c,l.ok)(hne: ∃p,d5 c p): ∃e,o4 c []=some e/\di e/\(∀p,bF e p↔d5 c p)/\ ∀s∈e,s.l∈c/\(fy s.l c aj.all).isSome=true:=by
 obtain⟨p,hp⟩:=hne;obtain⟨e,he⟩:=J9 di.nil hok ⟨p,fun s hs=>absurd hs (by simp),hp⟩;obtain⟨g1,g2⟩:=Ol di.nil hok he;have g3: ∀p,bF e p↔d5 c p:=fun p=>by
  rw[g2];exact⟨fun h=>h.2,fun h=>⟨fun s hs=>absurd hs (by simp),h⟩⟩
 refine⟨e,he,g1,g3,fun s hs=>?_⟩;have hm:s.l∈c:=by
  rcases KT he s hs with h|⟨_,h,_⟩
  ·exact h
  ·exact absurd h (by simp)
 refine⟨hm,?_⟩
 cases hp:fy s.l c aj.all with
 |some w=>rfl
 |none=>
  exfalso;obtain⟨p1,p2⟩:=g1.edge s hs;have hC:=(p2 s.v.sample).1 (uG p1).has;refine Gd s.l c _ vj hp s.v.sample (Ho _) fun m hmc hne=>?_;have hall: ∀p,bF e p->0<m.value p:=fun p hp=>(g3 p).1 hp m hmc;have h0:=vK g1.ne hall hC;have h1:m.value (s.l.at s.v.sample)≠0:=fun hz=>hne (Lg g1 hs (hok m hmc) hall hz);grind
def Fp{c:List aa}(hok: ∀l∈c,l.ok):jE c=true↔ ∃p,d5 c p:=by
 unfold jE;rw[iJ,List.isEmpty_iff,lS];constructor
 ·rintro (rfl|⟨l,hl,h⟩)
  ·exact⟨⟨0,0⟩,fun m hm=>absurd hm (by simp)⟩
  ·obtain⟨w,hw⟩:=Option.isSome_iff_exists.1 h
   obtain⟨w1,w2⟩:=Bu l c _ w vj hw;have hi:=((w2 w.sample).1 (uG w1)).2;have h0:=rE (hok l hl).ne w.sample;have hd:bF ((c.filter (fun m=>decide (m≠l))).map (fun m=>(⟨m,aj.all⟩:aG))) (l.at w.sample):=by
    intro s hs;obtain⟨m,hm,rfl⟩:=bM.1 hs;rw[rN,decide_eq_true_iff] at hm;exact hi m hm.1 hm.2
   obtain⟨e,he,ho⟩:=hd.open l.nor;refine⟨cv (l.at w.sample) l.nor e,fun m hm=>?_⟩;by_cases hml:m=l
   ·subst hml
    rw[jq,h0];have:=jb he (n4 (hok m hl).ne);grind
   ·exact ho e (fT he) gR ⟨m,aj.all⟩ (bM.2 ⟨m,rN.2 ⟨hm,by simpa using hml⟩,J⟩)
 ·intro hne
  obtain⟨e,h1,h2,h3,h4⟩:=PD hok hne
  cases c with
  |nil=>exact .inl J
  |cons l c=>
   right
   cases e with
   |nil=>
    exfalso;have:=(h3 (l.at 0)).1 (fun s hs=>absurd hs (by simp)) l aQ;rw[rE (hok l aQ).ne] at this;exact absurd this (by decide)
   |cons s e=>
    obtain⟨a,b⟩:=h4 s aQ;exact⟨s.l,a,b⟩
def oB(out:List aa)(l:aa):Nat:=(out.takeWhile (fun x=>decide (ir x.dir l.dir<0))).length
def qz(out:List aa)(l:aa):List aa:=if out[oB out l]? =some l then out else out.take (oB out l)++l::out.drop (oB out l)
def n9(c:List aa):List aa->List aa->List aa
 |[],out=>out
 |l::t,out=>n9 c t (if(fy l c aj.all).isSome then qz out l else out)
def il(c:List aa):List aa:=n9 c c []
def Ph{out:List aa}{l m:aa}:m∈qz out l↔m=l\/m∈out:=by
 unfold qz;split
 ·rename_i h
  exact⟨fun h=> .inr h,fun h'=>h'.elim (fun e=>e▸bZ h) id⟩
 ·generalize oB out l=n
  have h:=lU n out;rw[cX,aT];constructor
  ·rintro (h1|h1|h1)
   ·exact .inr (fY h1)
   ·exact .inl h1
   ·exact .inr (iQ h1)
  ·rintro (h1|h1)
   ·exact .inr (.inl h1)
   ·rw[<-h,cX] at h1
    rcases h1 with h1|h1
    ·exact .inl h1
    ·exact .inr (.inr h1)
def Kq{c:List aa}{m:aa}: ∀{t out:List aa},m∈n9 c t out↔m∈out\/m∈t/\(fy m c aj.all).isSome=true
 |[],out=>by simp[n9]
 |l::t,out=>by
  rw[n9,Kq];split
  ·rename_i h
   rw[Ph,aT];constructor
   ·rintro ((rfl|h1)|⟨h1,h2⟩)
    ·exact .inr ⟨.inl J,h⟩
    ·exact .inl h1
    ·exact .inr ⟨.inr h1,h2⟩
   ·rintro (h1|⟨rfl|h1,h2⟩)
    ·exact .inl (.inr h1)
    ·exact .inl (.inl J)
    ·exact .inr ⟨h1,h2⟩
  ·rename_i h
   rw[aT];constructor
   ·rintro (h1|⟨h1,h2⟩)
    ·exact .inl h1
    ·exact .inr ⟨.inr h1,h2⟩
   ·rintro (h1|⟨rfl|h1,h2⟩)
    ·exact .inl h1
    ·exact absurd h2 h
    ·exact .inr ⟨h1,h2⟩
def wz{c:List aa}{m:aa}:m∈il c↔m∈c/\(fy m c aj.all).isSome=true:=by
 unfold il;rw[Kq];simp
def P6{c:List aa}(hok: ∀l∈c,l.ok)(hne: ∃p,d5 c p)(p:ab):d5 (il c) p↔d5 c p:=by
 constructor
 ·intro h
  obtain⟨e,h1,h2,h3,h4⟩:=PD hok hne;exact(h3 p).1 fun s hs=>h s.l (wz.2 (h4 s hs))
 ·intro h m hm;exact h m (wz.1 hm).1
def pg(c:List aa)(l:aa):Int:=if jE (c++[l])&&jE (c++[l.rev]) then 0 else if jE (c++[l]) then 1 else-1
def Tr.restrictL:Tr->List aa->Tr
 | .leaf b,_=> .leaf b
 | .node l x y,c=>if pg c l=1 then x.restrictL c else if pg c l= -1 then y.restrictL c else joinQ l (x.restrictL (il (c++[l]))) (y.restrictL (il (c++[l.rev])))
def o6{c:List aa}{l:aa}{p:ab}:d5 (c++[l]) p↔d5 c p/\0<l.value p:=by
 unfold d5;rw[rQ];simp
def lI{c:List aa}{l:aa}(hok: ∀m∈c,m.ok)(hl:l.ok): ∀m∈c++[l],m.ok:=by
 rw[rQ];exact⟨hok,by simpa using hl⟩
def Tr.restrictL_eq: ∀(t:Tr) (c:List aa) (d:aE),t.all aa.ok->(∀l∈c,l.ok)->di d->(∀p,bF d p↔d5 c p)->t.restrictL c=t.restrict d
 | .leaf b,c,d,_,_,_,_=>rfl
 | .node l x y,c,d,h,hc,hd,he=>by
  obtain⟨hl,hx,hy⟩:=h;have i1:=Fp (lI hc hl);have i2:=Fp (lI hc hl.rev);obtain⟨p0,hp0⟩:=hd.ne;rcases Ai hd hl with⟨a1,a⟩|⟨a1,a2,a⟩|⟨a1,a2,ag1,ag2,ae1,ae2⟩
  ·have b1:jE (c++[l])=true:=i1.2 ⟨p0,o6.2 ⟨(he p0).1 hp0,a p0 hp0⟩⟩
   have b2:jE (c++[l.rev])=false:=by
    rw[<-jS,i2];rintro ⟨p,hp⟩;have hp:=o6.1 hp;have:=a p ((he p).2 hp.1);rw[fP] at hp;grind
   rw[Tr.restrict_A _ _ a1,Tr.restrictL,pg,b1,b2];exact x.restrictL_eq c d hx hc hd he
  ·have b2:jE (c++[l.rev])=true:=i2.2 ⟨p0,o6.2 ⟨(he p0).1 hp0,by rw[fP];have:=a p0 hp0;grind⟩⟩
   have b1:jE (c++[l])=false:=by
    rw[<-jS,i1];rintro ⟨p,hp⟩;have hp:=o6.1 hp;have:=a p ((he p).2 hp.1);grind
   rw[Tr.restrict_B _ _ a1 a2,Tr.restrictL,pg,b1,b2];exact y.restrictL_eq c d hy hc hd he
  ·have n1: ∃p,d5 (c++[l]) p:=by
    obtain⟨p,hp⟩:=ag1.ne;exact⟨p,o6.2 ⟨(he p).1 ((ae1 p).1 hp).1,((ae1 p).1 hp).2⟩⟩
   have n2: ∃p,d5 (c++[l.rev]) p:=by
    obtain⟨p,hp⟩:=ag2.ne;exact⟨p,o6.2 ⟨(he p).1 ((ae2 p).1 hp).1,by rw[fP];have:=((ae2 p).1 hp).2;grind⟩⟩
   rw[Tr.restrict_C _ _ a1 a2,Tr.restrictL,pg,i1.2 n1,i2.2 n2];have k1:=x.restrictL_eq (il (c++[l])) (bD d l) hx (fun m hm=>lI hc hl m (wz.1 hm).1) ag1 fun p=>by
    rw[P6 (lI hc hl) n1,ae1,o6,he]
   have k2:=y.restrictL_eq (il (c++[l.rev])) (bD d l.rev) hy (fun m hm=>lI hc hl.rev m (wz.1 hm).1) ag2 fun p=>by
    rw[P6 (lI hc hl.rev) n2,ae2,o6,he,fP];constructor<;>rintro ⟨a,b⟩<;>exact⟨a,by grind⟩
   rw[k1,k2];rfl
end Go.Sx
end
section
namespace Go.Sx
open Go Go.Proofs
structure A7 where
 lo:RV
 hi:RV
 nl:Bool
 nh:Bool
def A7.v(z:A7):Value:= .agg ⟨[.int .i64 z.lo.n, .int .i64 z.lo.d, .pointer z.lo.p, .int .i64 z.hi.n, .int .i64 z.hi.d, .pointer z.hi.p, .bool z.nl, .bool z.nh]⟩
section
variable {P:Program} {C:aC} {n:Nat} {fr:Fr} {own own' own1:List ao} {G:Gh} {Φ:Act->World->Prop}
variable {dst:Option Nat} {t t' ty':TypeId} {pos:String} {af:Array Edge} {gd:Option (Nat×Bool)} {x y:Operand} {e s by_:Nat}
end
structure SH (k:Nat) (G:Gh) (z:A7) (v:aj):Prop where
 lo:uv k G z.lo v.lo
 hi:uv k G z.hi v.hi
 nl:z.nl=v.nl
 nh:z.nh=v.nh
def K7:List Int->Int
 |[]=>0
 |x::t=>if x≠0 then x else K7 t
def aH4(l m:aa):Int:=K7 [bg l.a m.a,bg l.b m.b,bg l.c m.c]
structure xq where
 l:LV
 v:A7
def xq.val(z:xq):Value:= .agg ⟨[.int .i64 z.l.a.n, .int .i64 z.l.a.d, .pointer z.l.a.p, .int .i64 z.l.b.n, .int .i64 z.l.b.d, .pointer z.l.b.p, .int .i64 z.l.c.n, .int .i64 z.l.c.d, .pointer z.l.c.p, .int .i64 z.v.lo.n, .int .i64 z.v.lo.d, .pointer z.v.lo.p, .int .i64 z.v.hi.n, .int .i64 z.v.hi.d, .pointer z.v.hi.p, .bool z.v.nl, .bool z.v.nh]⟩
structure Ut (k:Nat) (G:Gh) (z:xq) (f:aG):Prop where
 l:Ii k G z.l f.l
 v:SH (25*k+6) G z.v f.v
inductive fH {α β:Type} (R:α->β->Prop):List α->List β->Prop
 |nil:fH R [] []
 |cons {a b us bs} (h:R a b) (t:fH R us bs):fH R (a::us) (b::bs)
def fH.len{α β:Type}{R:α->β->Prop}{us:List α}{bs:List β}(h:fH R us bs):us.length=bs.length:=by
 induction h with
 |nil=>rfl
 |cons _ _ ih=>simp[ih]
def fH.imp{α β:Type}{R S:α->β->Prop}{us:List α}{bs:List β}(h:fH R us bs)(k: ∀a b,R a b->S a b):fH S us bs:=by
 induction h with
 |nil=>exact .nil
 |cons h _ ih=>exact .cons (k _ _ h) ih
def fH.get{α β:Type}{R:α->β->Prop}{us:List α}{bs:List β}(h:fH R us bs){i:Nat}{b:β}(hi:bs[i]? =some b): ∃a,us[i]? =some a/\R a b:=by
 induction h generalizing i with
 |nil=>simp at hi
 | @cons a b' us bs h t ih=>
  cases i with
  |zero=>simp at hi;subst hi;exact⟨a,J,h⟩
  |succ i=>simpa using ih (i:=i) (by simpa using hi)
def fH.app{α β:Type}{R:α->β->Prop}{us us':List α}{bs bs':List β}(h:fH R us bs)(k:fH R us' bs'):fH R (us++us') (bs++bs'):=by
 induction h with
 |nil=>exact k
 |cons h _ ih=>exact .cons h ih
structure QR (k:Nat) (G:Gh) (x:SV) (c:aE):Prop where
 ex: ∃fs:List xq,ee G 17 x (fs.map xq.val)/\fH (Ut k G) fs c

section
variable {P:Program} {C:aC} {n:Nat} {fr:Fr} {own own':List ao} {G:Gh} {Φ:Act->World->Prop}
variable {dst:Option Nat} {t t' ty':TypeId} {pos:String} {af:Array Edge} {gd:Option (Nat×Bool)} {x y:Operand} {e s by_:Nat}
def Wq{o1 o2:ao}{rest:List ao}(h:o1.b≠o2.b->St C n fr (o1::o2::rest) G Φ):St C n fr (o1::o2::rest) G Φ:=
 fun a w rl=>h ((cZ.1 rl.h.nd).1 _ aQ) a w rl
def Ax[hT:co P t e s by_]{k:IntKind}{b off len cap:Nat}{l:Int}(hx:aw fr x=some (.slice (some ⟨b,off,none⟩) len cap))(hy:aw fr y=some (.int k l))(h0:0<=l)(h1:l<=len)(h2:l<cap):
  Yd P C fr own G ⟨dst, .slice t x (some y) none none,ty',pos,af,gd⟩ (.slice (some ⟨b,off+l.toNat*s,none⟩) (len-l.toNat) (cap-l.toNat)):=by
 have h:=He (P:=P) (C:=C) (own:=own) (G:=G) (t:=t) (dst:=dst) (ty':=ty') (pos:=pos) (af:=af) (gd:=gd) (by_:=by_) hx hy h0 h1;unfold ma at h;rw[if_neg (by omega)] at h;simpa[p8] using h
end

section
variable {P:Program} {C:aC} {n:Nat} {fr:Fr} {own own':List ao} {G:Gh} {Φ:Act->World->Prop}
variable {dst:Option Nat} {t t' ty':TypeId} {pos:String} {af:Array Edge} {gd:Option (Nat×Bool)} {x y:Operand} {e s by_:Nat}
end

def ET(k:Nat)(G:Gh):Tr->Option Addr->Prop
 | .leaf b,p=> ∃n,p=some ⟨n,0,none⟩/\G n=some [.int .i64 0, .int .i64 0, .pointer none, .int .i64 0, .int .i64 0, .pointer none, .int .i64 0, .int .i64 0, .pointer none, .pointer none, .pointer none, .bool b]
 | .node l x y,p=> ∃(n:Nat) (z:LV) (q r:Option Addr),p=some ⟨n,0,none⟩/\G n=some [.int .i64 z.a.n, .int .i64 z.a.d, .pointer z.a.p, .int .i64 z.b.n, .int .i64 z.b.d, .pointer z.b.p, .int .i64 z.c.n, .int .i64 z.c.d, .pointer z.c.p, .pointer q, .pointer r, .bool false]/\Ii k G z l/\ET k G x q/\ET k G y r
structure ND where
 a:IV
 b:IV
 c:IV
 l:Int
 r:Int
def ND.val(z:ND):Value:= .agg ⟨[.bool z.a.neg, .slice z.a.a.a z.a.a.n z.a.a.c, .bool z.b.neg, .slice z.b.a.a z.b.a.n z.b.a.c, .bool z.c.neg, .slice z.c.a.a z.c.a.n z.c.a.c, .int .i64 z.l, .int .i64 z.r]⟩
structure qt (k:Nat) (G:Gh) (z:ND) (n:NQ):Prop where
 a:lC k G z.a n.l.a
 b:lC k G z.b n.l.b
 c:lC k G z.c n.l.c
 l:z.l=n.a
 r:z.r=n.b
def qt.up{k:Nat}{A G:Gh}{z:ND}{n:NQ}(h:qt k A z n)[GL A G]:qt k G z n:=⟨h.a.up,h.b.up,h.c.up,h.l,h.r⟩
structure aG3 (k:Nat) (G:Gh) (x:SV) (ns:List NQ):Prop where
 ex: ∃zs:List ND,ee G 8 x (zs.map ND.val)/\fH (qt k G) zs ns
def aHD(n i:Nat):List Value:=(List.range n).map fun j=> .bool (decide (j<i))

def ND.len8(zs:List ND): ∀v∈zs.map ND.val,(aD v).length=8:=fun v hv=>by
 obtain⟨f,_,rfl⟩:=bM.1 hv;rfl
def ND.flat(zs:List ND): ∀v∈zs.map ND.val,∀c∈aD v,Sx.flat c=true:=fun v hv c hc=>by
 obtain⟨f,_,rfl⟩:=bM.1 hv;simp only[ND.val,aD,aT,jL,or_false] at hc;rcases hc with rfl|rfl|rfl|rfl|rfl|rfl|rfl|rfl<;>rfl
def fH.set{α β:Type}{R:α->β->Prop}{us:List α}{bs:List β}(h:fH R us bs){a:α}{b:β}(hr:R a b)(i:Nat):fH R (us.set i a) (bs.set i b):=by
 induction h generalizing i with
 |nil=>simp;exact .nil
 |cons h t ih=>
  cases i with
  |zero=>exact .cons hr t
  |succ i=>exact .cons h (ih i)
def IU(zs:List ND)(rest:List Value)(i j:Nat)(x:Value)(z:ND)(hi:i<zs.length)(hj:j<8)(hz:aD z.val=(aD (zs[i]).val).set j x):
  (aF (zs.map ND.val)++rest).set (i*8+j) x=aF ((zs.set i z).map ND.val)++rest:=by
 have hi':i<(zs.map ND.val).length:=by simpa using hi
 rw[N7 hj _ i hi' (ND.len8 zs),List.getElem_map,<-hz,jU,List.set_eq_take_append_cons_drop,if_pos hi',oz];have e:aF (z.val::(zs.map ND.val).drop (i+1))=aD z.val++aF ((zs.map ND.val).drop (i+1)):=by simp[aF]
 rw[e];simp[dY]
def mP(ob wb:Nat):Value:= .func (.func 170) #[] #[.pointer (some ⟨ob,0,none⟩), .pointer (some ⟨wb,0,none⟩)]
structure ya where
 x:SV
 p:Option Addr
def ya.val(z:ya):Value:= .agg ⟨[.slice z.x.a z.x.n z.x.c, .pointer z.p]⟩
structure Wz (k:Nat) (G:Gh) (z:ya) (b:Bool×aE):Prop where
 c:QR k G z.x b.2
 t:ET k G (.leaf b.1) z.p
structure aIu (k:Nat) (G:Gh) (w:SV) (ps:List (Bool×aE)):Prop where
 ex: ∃zs:List ya,ee G 2 w (zs.map ya.val)/\fH (Wz k G) zs ps
structure LI where
 a:IV
 b:IV
 c:IV
def LI.val(z:LI):Value:= .agg ⟨[.bool z.a.neg, .slice z.a.a.a z.a.a.n z.a.a.c, .bool z.b.neg, .slice z.b.a.a z.b.a.n z.b.a.c, .bool z.c.neg, .slice z.c.a.a z.c.a.n z.c.a.c]⟩
structure aHi (k:Nat) (G:Gh) (z:LI) (l:aa):Prop where
 a:lC k G z.a l.a
 b:lC k G z.b l.b
 c:lC k G z.c l.c
structure aGT (k:Nat) (G:Gh) (x:SV) (ls:List aa):Prop where
 ex: ∃zs:List LI,ee G 6 x (zs.map LI.val)/\fH (aHi k G) zs ls
structure aGZ (k:Nat) (G:Gh) (x:SV) (ls:List aa):Prop where
 ex: ∃zs:List LV,ee G 9 x (zs.map LV.v)/\fH (Ii k G) zs ls
end Go.Sx
end
