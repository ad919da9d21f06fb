import Derived.Test.YtefoocgiaegobaaGreatDoorPc10
set_option linter.all false
set_option maxHeartbeats 4000000
set_option maxRecDepth 100000
section
namespace Go.Sx
open Go Go.Proofs Tryz
variable {GB:Gh}
def LY{h l y:Nat}(hh:h<y)(hl:l<4294967296)(hy:y<4294967296):PF GB prog 341 [.v (.int .u32 (h:Int)), .v (.int .u32 (l:Int)), .v (.int .u32 (y:Int))] (.tp [dU ((h*4294967296+l)/y),dU ((h*4294967296+l)%y)]):=by
 refine fn (fu:=⟨11⟩) func341 J J ntmps341 J J (fun C=>?_);refine kT 10 J (by omega) ?_;refine gx (fu:=⟨4⟩) J<|?_;refine kF 14 J (by omega) ?_;refine gx (fu:=⟨11⟩) (hv:=by simp only[ah];exact⟨by omega,(by decide)⟩) J<|?_;refine aj 19 (.d (.v (.int .u64 (h*2^32:Nat)))) J (by show FX.d (.v (.int _ _))= .d (.v (.int _ _));rw[mB _ 32 (by decide) (by show _*4294967296<_;omega) J]) ?_;refine gx (fu:=⟨3⟩) J<|?_;refine aj 22 (.d (.v (.int .u64 (l+h*2^32:Nat)))) J (congrArg (fun z:Nat=>FX.d (.v (.int .u64 (z:Int)))) (by rw[BitVec.or_comm];exact sf 64 l h 32 hl (by show _+_*4294967296<18446744073709551616;omega))) ?_;obtain⟨t,ht⟩: ∃t,t=h*4294967296+l:=⟨_,rfl⟩;have hq:t/y<4294967296:=by rw[iT (by omega)];have:=dY 4294967296 (show h+1<=y from hh);omega
 have hr:t%y<y:=cV _ (by omega);refine aj 22 (.d (.v (.int .u64 (t:Nat)))) J (by show FX.d (.v (.int _ _))= .d (.v (.int _ _));congr 3;rw[ht];omega) ?_;refine gx (hv:=by simp only[ah];exact⟨⟨⟨⟨by omega,⟨(by omega),(by omega),(by omega)⟩⟩,by omega⟩,⟨(by omega),(by omega)⟩⟩,by kernel_rfl⟩) J<|?_;exact rz J (by show DV.tp [.v (.int _ _), .v (.int _ _)]= .tp [.v (.int _ _), .v (.int _ _)];rw[<-ht,<-oQ,<-mU];generalize t/y=q at*;generalize t%y=r at*;congr 4<;>(first|omega|(congr 3;omega)))
def Su{A r i b:Nat}(d:Nat)(hb:0<b):(A*4294967296+d)/b=A/b*4294967296+(A%b*4294967296+d)/b/\(A*4294967296+d)%b=(A%b*4294967296+d)%b:=by
 have h:=oY A b;have e:A*4294967296+d=(A%b*4294967296+d)+b*(A/b*4294967296):=by
  rw[<-bW,Nat.add_right_comm,<-cK,kS (A%b),h]
 rw[e,kW _ _ hb,lY];exact⟨kS _ _,J⟩
def H7{ds:List Nat}{i:Nat}(h:i<ds.length):dv (ds.drop i)=dv (ds.drop (i+1))*4294967296+ds.getD i 0:=by
 rw[bS h,aJ,aQ h];simp only[dv,gU];omega
def DH{W:List Nat}{i q:Nat}(h:i<W.length):dv ((W.set i q).drop i)=dv (W.drop (i+1))*4294967296+q:=by
 rw[H7 (by rw[aW];exact h),mJ (by omega),II h]
def PU{a b k:Nat}{W:List Nat}(hb:0<b)(hk:k<(dg a).length)(hl:W.length=(dg a).length)(h:dv (W.drop (k+1))=dv ((dg a).drop (k+1))/b):
  dv ((W.set k ((dv ((dg a).drop (k+1))%b*4294967296+(dg a).getD k 0)/b)).drop k)=dv ((dg a).drop k)/b/\dv ((dg a).drop k)%b=(dv ((dg a).drop (k+1))%b*4294967296+(dg a).getD k 0)%b:=by
 have:=Su (A:=dv ((dg a).drop (k+1))) (r:=0) (i:=0) ((dg a).getD k 0) hb;rw[DH (by omega),h,H7 hk,this.1,this.2];exact⟨J,J⟩
def sC{a b:Nat}:eu a b<0↔a<b:=by unfold eu;split<;>(try split)<;>omega
def uU{a b:Nat}:0<eu a b↔b<a:=by unfold eu;split<;>(try split)<;>omega
def SB{x:Nat}(hx:x<4294967296):PF GB prog 366 [dU x] (vI (32-(bl x:Int))):=by
 intro G vs hg hv;obtain⟨v,m,rfl,h1,h2⟩:=bD.1 hv;rw[cp] at h2;subst h2;rw[bc.1 h1];exact(Dg hx).mono fun v G' _ h=>bc.2 h
def Io{a k:Nat}(h:4294967296^k<=a):k<(dg a).length:=by
 have h1:=pk a;rcases fS k (dg a).length with q|q
 ·exact q
 ·have:4294967296^(dg a).length<=4294967296^k:=aM (by decide) q
  omega
def Hg{v L:Nat}(hL:L=(dg v).length)(h1:1<=L):(dg v).getD (L-1) 0=v/4294967296^(L-1)/\0<v/4294967296^(L-1):=by
 have h:=B9 (gF v) (L-1);rw[pp (by omega:(dg v).length<=L-1+1),bz,nT,cN] at h;have h2:=pk v;rw[<-hL] at h2;rw[gS (show v<4294967296^(L-1+2) from cS h2 (aM (by decide) (by omega))),nT,cN] at h;have h3:=ng (dB v).2.2 (by intro e;rw[e] at hL;simp at hL;omega);rw[bz,<-hL] at h3;exact⟨h.symm,Nat.div_pos h3 (dZ (by decide))⟩
def yT{R n:Nat}(h1:1<=n)(h:R<4294967296^(n+1)):R/4294967296^(n-1)=(dg R).getD (n-1) 0+(dg R).getD n 0*4294967296:=by
 have e:=B9 (gF R) (n-1);rw[bz,show n-1+1=n by omega,gS (show R<4294967296^(n-1+2) by rwa [show n-1+2=n+1 by omega]),nT,cN,bV] at e;exact e
def RD{R v j L:Nat}(hL:L=(dg v).length)(h1:1<=L)(hR:R<v*4294967296^(j+1)):R/(v*4294967296^j)<=min (R/4294967296^(L+j-1)/(v/4294967296^(L-1))) 4294967295:=by
 have ht:=(Hg hL h1).2;have hp:0<4294967296^j:=dZ (by decide);have hv0:0<v:=by
  rcases dQ v with q|q
  ·subst q;simp at ht
  ·exact q
 have hvp:0<v*4294967296^j:=gX hv0 hp;refine Nat.le_min.2 ⟨?_,?_⟩
 ·rw[pT ht,pT (dZ (by decide))]
  have h3:v/4294967296^(L-1)*4294967296^(L-1)<=v:=Nat.div_mul_le_self _ _;have h4:R/(v*4294967296^j)*(v*4294967296^j)<=R:=Nat.div_mul_le_self _ _;rw[show L+j-1=L-1+j by omega,dJ]
  calc R/(v*4294967296^j)*(v/4294967296^(L-1))*(4294967296^(L-1)*4294967296^j)
    =R/(v*4294967296^j)*((v/4294967296^(L-1)*4294967296^(L-1))*4294967296^j):=by simp only[bW]
   _<=R/(v*4294967296^j)*(v*4294967296^j):=dY _ (bX _ h3)
   _<=R:=h4
 ·have:R/(v*4294967296^j)<4294967296:=by
   rw[iT hvp];rw[eX] at hR;rwa [bV,bW]
  omega
def x9{R V g:Nat}(hV:0<V)(h:R<V*g):R/V<g:=by
 rw[iT hV,bV];exact h
def Sp{R V g:Nat}(hV:0<V)(h1:R/V<=g)(h2:V*g<=R):g=R/V:=by
 have:g<=R/V:=by rw[pT hV,bV];exact h2
 omega
def GI{R0 R v j g:Nat}{W:List Nat}(hj:j<W.length)(h:R0=R+dv (W.drop (j+1))*4294967296^(j+1)*v)(hv:0<v*4294967296^j)(hg:g=R/(v*4294967296^j)):
  R0=(R-v*4294967296^j*g)+dv ((W.set j g).drop j)*4294967296^j*v/\R-v*4294967296^j*g<v*4294967296^j:=by
 have h1:=oY R (v*4294967296^j);have h2:=cV R hv;rw[<-hg] at h1;refine⟨?_,by omega⟩;rw[DH hj,cK,cK,h,eX];have e:g*4294967296^j*v=v*4294967296^j*g:=by simp only[bW,jU,bV]
 have e2:dv (W.drop (j+1))*(4294967296^j*4294967296)*v=dv (W.drop (j+1))*4294967296*4294967296^j*v:=by simp only[bW,jU,bV]
 rw[e,e2];omega
def MO{a b s R:Nat}{D:Nat}(hR:R<b*2^s)(h:a*2^s=R+D*(b*2^s)):D=a/b/\R/2^s=a%b:=by
 have hp:0<2^s:=dZ (by decide);have hb:0<b:=by
  rcases dQ b with q|q
  ·subst q;simp at hR
  ·exact q
 have h1:a=R/2^s+D*b:=by
  have:=congrArg (· /2^s) h;rw[Nat.mul_div_cancel _ hp,<-bW,Nat.add_mul_div_right _ _ hp] at this;exact this
 have h2:R/2^s<b:=by rw[iT hp];exact hR
 have h3:R/2^s+b*D=a:=by rw[bV b];exact h1.symm
 have:=(Nat.div_mod_unique hb).2 ⟨h3,h2⟩;exact⟨this.1.symm,this.2.symm⟩
def Oz{a b s:Nat}(hl:(dg b).length<=(dg a).length)(h2:1<=(dg b).length):a*2^s<b*2^s*4294967296^((dg a).length-(dg b).length+1):=by
 have h1:=pk a;have h3:=ng (dB b).2.2 (by intro e;rw[e] at h2;simp at h2);rw[bz] at h3;have h4:4294967296^(dg a).length<=b*4294967296^((dg a).length-(dg b).length+1):=by
  rw[show(dg a).length=((dg b).length-1)+((dg a).length-(dg b).length+1) by omega,dJ];rw[show(dg b).length-1+((dg a).length-(dg b).length+1)-(dg b).length+1=(dg a).length-(dg b).length+1 by omega];exact bX _ h3
 rw[oL];exact jV (cS h1 h4) (dZ (by decide))
def Ic(x j:Nat):x*2^(32*j)=x*4294967296^j:=by rw[nY]
def S6{R L j:Nat}(h:R<4294967296^(L+j+1))(h1:1<=L):R/4294967296^(L+j-1)<18446744073709551616:=by
 rw[iT (dZ (by decide)),show(18446744073709551616:Nat)=4294967296^2 from J,<-dJ];rwa [show 2+(L+j-1)=L+j+1 by omega]
def L'{R v j L:Nat}(hL:L=(dg v).length)(hR:R<v*4294967296^(j+1)):R<4294967296^(L+j+1):=by
 have h:=pk v;rw[<-hL] at h;rw[jW,dJ];exact cS hR (bX _ (mM h))
def NN{a b ia ib:Nat}[ha:BN a ia][hb:BN b ib](hi:ia<=500000000)(hj:ib<=500000000)(h2:1<=(dg b).length)(hl:(dg b).length<=(dg a).length):PF GB prog 342 [dN a,dN b] (.tp [dN (a/b),dN (a%b)]):=by
 have hla:=dH (dg a);have hlb:=dH (dg b);have hba:=i8 ha.h;have hba':(dg a).length<=20000000:=by omega
 refine fn func342 J J ntmps342 J J (fun C=>?_);refine ix _ J (et (k:=(dg b).length-1) (by omega) (by omega)) J<|cl (fu:=⟨0⟩) J (SB (e7 b ((dg b).length-1))) J<|?_;obtain⟨s,hs⟩: ∃s:Nat,s=32-bl ((dg b).getD ((dg b).length-1) 0):=⟨_,rfl⟩;have hs32:s<=32:=by omega
 refine aj 22 (.d (vI (s:Nat))) J (by show FX.d (.v (.int _ _))= .d (.v (.int _ _));congr 3;have:=kv.2 (show(dg b).getD ((dg b).length-1) 0<2^32 from e7 b _);omega) ?_;refine gx J<|cl J (yb (a:=b) (k:=s) (ia:=ib) (by omega) (by omega)) J<|cl (fu:=⟨0⟩) J (yb (a:=a) (k:=s) (ia:=ia) (by omega) (by omega)) J<|?_;obtain⟨v,hv⟩: ∃v,v=b*2^s:=⟨_,rfl⟩;obtain⟨R0,hR0⟩: ∃R0,R0=a*2^s:=⟨_,rfl⟩;refine aj 25 (.d (dN v)) J (by rw[hv]) ?_;refine aj 28 (.d (dN R0)) J (by rw[hR0]) ?_;obtain⟨L,hL⟩: ∃L,L=(dg v).length:=⟨_,rfl⟩;have hlv:((dg v).map dU).length=L:=by rw[dH,hL]
 have hps:2^s<=2^32:=aM (by decide) hs32;have hpp:0<2^s:=dZ (by decide);have hst:=Oz (a:=a) (b:=b) (s:=s) hl h2;rw[<-hv,<-hR0] at hst;have hvb:v<2^(ib+32):=by rw[hv,dJ];exact lK hb.h hps (by decide)
 have hRb:R0<2^(ia+32):=by rw[hR0,dJ];exact lK ha.h hps (by decide)
 have hbp:0<b:=fT (fun q=>by subst q;rw[tW] at h2;simp at h2);have hvp:0<v:=hv▸gX hbp hpp;have hLp:1<=L:=by rw[hL];exact Io (k:=0) (by rw[pK];exact hvp)
 have htop:=Hg hL hLp;haveI hvB:BN v (ib+32):=⟨hvb⟩;have hLb:=i8 hvb;have hLb':L<=20000000:=by omega
 have htl:=e7 v (L-1);refine gx (fu:=⟨9⟩) J<|?_;refine aj 31 (.d (vI (L:Nat))) J (by rw[hlv];rfl) ?_;refine gx J<|ix (fu:=⟨2⟩) _ J (et (k:=L-1) (by omega) (by omega)) J<|?_;refine aj 35 (.d (.v (.int .u64 (v/4294967296^(L-1):Nat)))) J (by rw[htop.1]) ?_;rw[htop.1] at htl;refine gx (fu:=⟨11⟩) J<|?_;obtain⟨m,hm⟩: ∃m,m=(dg a).length-(dg b).length+1:=⟨_,rfl⟩;rw[<-hm] at hst;have hrl:(List.replicate ((m:Nat):Int).toNat (DV.v (.int .u32 0))).length=m:=by rw[aV,bT]
 refine aj 41 (.d (vI (m:Nat))) J (by show FX.d (.v (.int _ _))= .d (.v (.int _ _));congr 3;omega) ?_;refine gx J<|mk ((List.replicate m 0).map dU) J J (by rw[<-rp];rfl) J<|?_;refine lp (X:=List Nat×Nat×Nat) (fun⟨W,R,k⟩=>[(6, .d (vI (s:Nat))),(7, .d (dN v)),(8, .d (dN R)),(9, .d (.v (.int .u64 (v/4294967296^(L-1):Nat)))),(10, .rw 42),(11, .d (vI ((k:Nat)-1)))]) (fun⟨W,R,k⟩=>[(42,some (.b 366 1 (W.map dU) true))]) (fun⟨W,R,k⟩=>W.length=m/\aO W/\k<=m/\R0=R+dv (W.drop k)*4294967296^k*v/\R<v*4294967296^k/\R<=R0) (fun⟨W,R,k⟩=>k) ⟨List.replicate m 0,R0,m⟩ J ⟨by simp, .replicate _,aS _,by simp[dv],hst,aS _⟩ (fun _=>J) (fun⟨W,R,k⟩ hk=>?_);dsimp only at hk⊢;obtain⟨h1,h2',h3,h4,h5,h6⟩:=hk;have hlw:=dH W;refine br (fu1:=⟨10⟩) J J J (fun hc47=>?_) (fun hc47=>?_)
 .
  obtain⟨j,rfl⟩: ∃j,k=j+1:=⟨k-1,by omega⟩;have hvj:0<v*4294967296^j:=gX hvp (dZ (by decide));have hge:=RD hL hLp h5;have hlen:=L' hL h5;have hlr:((dg R).map dU).length=(dg R).length:=dH _;haveI hRB:BN R (ia+32):=⟨by omega⟩;have hq32:R/(v*4294967296^j)<4294967296:=by omega
  have hz1:=Int.natCast_nonneg (R/4294967296^(L+j-1));have hz2:=Int.natCast_nonneg (R/4294967296^(L+j-1)/(v/4294967296^(L-1)));refine aj 11 (.d (vI (j:Nat))) J (by show FX.d (.v (.int _ _))= .d (.v (.int _ _));congr 3;omega) ?_;refine mg (fu:=⟨6⟩) (hv:=fun _ _=>by simp only[ah];exact⟨(by omega),(by have:=S6 hlen hLp;omega),(by omega)⟩) (X:=Unit) (fun _=>[(6, .d (vI (s:Nat))),(7, .d (dN v)),(8, .d (dN R)),(9, .d (.v (.int .u64 (v/4294967296^(L-1):Nat)))),(10, .rw 42),(11, .d (vI (j:Nat))),(12, .d (.v (.int .u64 (R/4294967296^(L+j-1):Nat))))]) (fun _=>[(42,some (.b 366 1 (W.map dU) true))]) (fun _=>True) [6,7,8,9,10,11,12] [42] rfl ?_ (fun _=>J) (fun _ hm=>?_)
  .
   refine gx (fu:=⟨4⟩) J<|?_;refine aj 51 (.d (vI (L:Nat))) J (by rw[hlv];rfl) ?_;refine gx (fu:=⟨2⟩) J<|?_;refine aj 53 (.d (vI (L+j:Nat))) J (by show FX.d (.v (.int _ _))= .d (.v (.int _ _));congr 3) ?_;refine gx (fu:=⟨8⟩) J<|?_;refine aj 56 (.d (vI ((dg R).length:Nat))) J (by rw[hlr];rfl) ?_;refine gx J<|?_;refine br (fu2:=⟨6⟩) J J J (fun hc57=>?_) (fun hc57=>?_)
   .
    have hd0:=e7 R (L+j-1);have hd1:=e7 R (L+j);refine ix (hv:=by simp only[ah];exact⟨⟨by omega,(by decide)⟩,by omega⟩) _ J (et (k:=L+j) (by omega) (by omega)) J<|ix (fu:=⟨3⟩) _ J (et (k:=L+j-1) (by omega) (by omega)) J<|?_;refine aj 70 (.d (.v (.int .u64 ((dg R).getD (L+j-1) 0+(dg R).getD (L+j) 0*4294967296:Nat)))) J (congrArg (fun z:Nat=>FX.d (.v (.int .u64 (z:Int)))) (by rw[mB _ 32 (by decide) (by show _*4294967296<_;omega) J,BitVec.or_comm];exact sf 64 ((dg R).getD (L+j-1) 0) ((dg R).getD (L+j) 0) 32 hd0 (by show _+_*4294967296<18446744073709551616;omega))) ?_;refine gx J<|?_;refine aj 12 (.d (.v (.int .u64 (R/4294967296^(L+j-1):Nat)))) J (by rw[yT (by omega) hlen]) ?_;exact at_ () trivial
   .
    refine aj 74 (.d (vI ((dg R).length:Nat))) J (by rw[hlr];rfl) ?_;refine gx J<|?_;refine br J J J (fun hc75=>?_) (fun hc75=>?_)
    .
     have hd0:=e7 R (L+j-1);refine ix _ J (et (k:=L+j-1) (by omega) (by omega)) J<|?_;refine aj 12 (.d (.v (.int .u64 (R/4294967296^(L+j-1):Nat)))) J (by rw[yT (by omega) hlen,pp (by omega:(dg R).length<=L+j),kX,cN]) ?_;exact at_ () trivial
    .
     refine aj 12 (.d (.v (.int .u64 (R/4294967296^(L+j-1):Nat)))) J (by rw[yT (by omega) hlen,pp (by omega:(dg R).length<=L+j),pp (by omega:(dg R).length<=L+j-1)];rfl) ?_;exact at_ () trivial
  .
   obtain⟨g0,hg0'⟩: ∃g0,g0=min (R/4294967296^(L+j-1)/(v/4294967296^(L-1))) 4294967295:=⟨_,rfl⟩;rw[<-hg0'] at hge;have hg0:=hge;have hg1:g0<=4294967295:=by omega
   refine aj 85 (.d (.v (.int .u64 (g0:Nat)))) J (by show FX.d (.v (.int _ _))= .d (.v (.int _ _));congr 3;rw[<-oQ];split<;>omega) ?_;refine gx J<|cl J (oH (u:=g0) (by omega)) J<|cl (fu:=⟨2⟩) J (mI (ia:=ib+32) (ib:=32) (hb:=⟨by show _<4294967296;omega⟩) (by omega) (by decide)) J<|?_;refine aj 91 (.d (vI (32*j:Nat))) J (by show FX.d (.v (.int _ _))= .d (.v (.int _ _));congr 3) ?_;refine gx J<|cl (fu:=⟨0⟩) J (yb (k:=32*j) (ia:=ib+64) (ha:=⟨by rw[show ib+64=ib+32+32 by omega,dJ];exact lZ hvb (by show _<4294967296;omega)⟩) (by omega) (by omega)) J<|?_;refine aj 92 (.d (dN (v*4294967296^j*g0))) J (by rw[Ic,oL]) ?_;refine gx J<|?_;refine lp (X:=Nat) (fun g=>[(6, .d (vI (s:Nat))),(7, .d (dN v)),(8, .d (dN R)),(9, .d (.v (.int .u64 (v/4294967296^(L-1):Nat)))),(10, .rw 42),(11, .d (vI (j:Nat))),(14, .d (.v (.int .u64 (g:Nat)))),(15, .d (dN (v*4294967296^j*g)))]) (fun g=>[(42,some (.b 366 1 (W.map dU) true))]) (fun g=>R/(v*4294967296^j)<=g/\g<=4294967295) (fun g=>g) g0 J ⟨hg0,by omega⟩ (fun _=>J) (fun g hk=>?_);obtain⟨g1,g2⟩:=hk;have hlw:=dH W;refine cl J (uF (a:=v*4294967296^j*g) (b:=R) (by have:=wl (a:=v*4294967296^j*g) (k:=L+j+1) (by have h1:=pk v;rw[<-hL] at h1;rw[eX,dJ];exact lZ (jV h1 (dZ (by decide))) (by omega));omega) (by have:=wl hlen;omega)) J<|?_;refine br (fu1:=⟨7⟩) (v1:=fun hc96=>by simp only[ah];exact(by have h:=x9 hvj (uU.1 hc96);have h1:1<=g:=eJ (bJ _) h;omega)) (fu2:=⟨11⟩) J J J (fun hc96=>?_) (fun hc96=>?_)
   .
    have hgd:=x9 hvj (uU.1 hc96);have hg1p:1<=g:=eJ (bJ _) hgd;refine aj 98 (.d (.v (.int .u64 ((g-1:Nat):Int)))) J (by show FX.d (.v (.int _ _))= .d (.v (.int _ _));congr 3;omega) ?_;refine gx J<|cl J (oH (u:=g-1) (by omega)) J<|cl (fu:=⟨2⟩) J (mI (ia:=ib+32) (ib:=32) (hb:=⟨by show _<4294967296;omega⟩) (by omega) (by decide)) J<|?_;refine aj 104 (.d (vI (32*j:Nat))) J (by show FX.d (.v (.int _ _))= .d (.v (.int _ _));congr 3) ?_;refine gx J<|cl (fu:=⟨0⟩) J (yb (k:=32*j) (ia:=ib+64) (ha:=⟨by rw[show ib+64=ib+32+32 by omega,dJ];exact lZ hvb (by show _<4294967296;omega)⟩) (by omega) (by omega)) J<|?_;refine aj 105 (.d (dN (v*4294967296^j*(g-1)))) J (by rw[Ic,oL]) ?_;refine gx J<|?_;exact at_ (g-1) ⟨⟨by have h:=x9 hvj (uU.1 hc96);omega,by omega⟩,(by have:=x9 hvj (uU.1 hc96);omega)⟩
   .
    have hgq:=Sp hvj g1 (pR fun q=>hc96 (uU.2 q));refine aj 109 (.d (dU g)) J (by show FX.d (.v (.int _ _))= .d (.v (.int _ _));congr 3;omega) ?_;refine gx J<|sb _ ((W.set j (R/(v*4294967296^j))).map dU) J (et (k:=j) (by omega) (by omega)) J (by(rw[<-hgq,bT,<-p8])<;>rfl) J<|?_;refine cl (fu:=⟨0⟩) J (BC (a:=R) (b:=v*4294967296^j*g) (ia:=ia+32) (by rw[hgq];exact Nat.mul_div_le _ _) (by omega)) J<|?_;refine aj 113 (.d (dN (R-v*4294967296^j*(R/(v*4294967296^j))))) J (by rw[hgq]) ?_;refine gx J<|?_;exact at_ ⟨W.set j (R/(v*4294967296^j)),R-v*4294967296^j*(R/(v*4294967296^j)),j⟩ (by dsimp only;exact⟨⟨by simpa using h1,h2'.set _ (by omega),by omega,(GI (by omega) h4 hvj J).1,(GI (by omega) h4 hvj J).2,by omega⟩,(by omega)⟩)
 .
  obtain rfl:k=0:=by omega
  rw[pK,jX] at h5;rw[pK,jX,gV,hR0,hv] at h4;rw[hv] at h5;have hend:=MO h5 h4;haveI hRB:BN R (ia+32):=⟨by omega⟩;refine fz 42 J J<|cl J (nq (ds:=W) (by omega)) J<|cl J (RG (a:=R) (k:=s) (ia:=ia+32) (by omega) (by omega)) J<|?_;exact rz J (by show DV.tp [d7 _,dN _]= .tp [dN _,dN _];rw[nH h2' hend.1,hend.2])
def Qj{a b:Nat}(h:b<=a):(dg b).length<=(dg a).length:=wl (eJ h (pk a))
def tE{a b ia ib:Nat}[ha:BN a ia][hb:BN b ib](hb0:0<b)(hi:ia<=500000000:=by decide)(hj:ib<=500000000:=by decide):PF GB prog 247 [dN a,dN b] (.tp [dN (a/b),dN (a%b)]):=by
 have hla:=dH (dg a);have hlb:=dH (dg b);have hba:=i8 ha.h;have hbb:=i8 hb.h;have hba':(dg a).length<=20000000:=by omega
 have hbb':(dg b).length<=20000000:=by omega
 have hlb1:1<=(dg b).length:=Io (k:=0) (by rw[pK];exact hb0);refine fn (fu:=⟨7⟩) func247 J J ntmps247 J J (fun C=>?_);refine mg (X:=Unit) (fun _=>[(0, .d (dN a)),(1, .d (dN b))]) (fun _=>[]) (fun _=>True) [0,1] [] rfl ?_ (fun _=>J) (fun _ hm=>?_)
 .
  refine gx J<|cl J (xG (a:=a) (ia:=ia) (by omega)) J<|?_;refine bd (fu1:=⟨0⟩) J J J (fun hc18=>?_) (fun hc18=>?_)
  .
   refine aj 6 (.d (.v (.int .u64 (a:Nat)))) J (by rw[if_pos hc18]) ?_;refine gx J<|cl J (xG (a:=b) (ia:=ib) (by omega)) J<|?_;refine bd (fu1:=⟨0⟩) J J J (fun hc24=>?_) (fun hc24=>?_)
   .
    refine aj 8 (.d (.v (.int .u64 (b:Nat)))) J (by rw[if_pos hc24]) ?_;have hdl:=iL a b;have hml:=Nat.mod_le a b;refine gx (hv:=by simp only[ah];exact⟨(by omega),(by omega),(by omega)⟩) J<|cl (hv:=by simp only[ah];exact⟨(by omega),(by omega)⟩) J (oH (u:=a/b) (by omega)) J<|cl J (oH (u:=a%b) (by omega)) J<|?_;exact rz J J
   .
    exact at_ () trivial
  .
   exact at_ () trivial
 .
  refine cl J (uF (by omega) (by omega)) J<|?_;refine br J J J (fun hc36=>?_) (fun hc36=>?_)
  .
   have hab:=sC.1 hc36;refine wJ J J<|ap _ J J (pw _) J<|?_;refine jw 39 J ?_;exact rz J (by show DV.tp [_, .sl ([]++_)]= .tp [_,_];rw[gS hab,dR hab,y6];rfl)
  .
   have hab:b<=a:=pR fun q=>hc36 (sC.2 q);have hlab:(dg b).length<=(dg a).length:=Qj hab;refine br (fu1:=⟨4⟩) J J J (fun hc42=>?_) (fun hc42=>?_)
   .
    have hb1:b<4294967296:=by have:=pk b;rw[show(dg b).length=1 by omega] at this;omega
    have hbd:(dg b).getD 0 0=b:=r9 (by omega);refine aj 44 (.d (vI ((dg a).length:Nat))) J (by rw[hla];rfl) ?_;refine gx J<|mk (fu:=⟨13⟩) ((List.replicate (dg a).length 0).map dU) J J (by rw[<-rp];rfl) J<|?_;refine aj 47 (.d (vI ((dg a).length:Nat))) J (by rw[hla];rfl) ?_;refine gx J<|?_;refine lp (X:=List Nat×Nat) (fun⟨W,k⟩=>[(0, .d (dN a)),(1, .d (dN b)),(10, .rw 45),(11, .d (dU (dv ((dg a).drop k)%b))),(12, .d (vI ((k:Nat)-1)))]) (fun⟨W,k⟩=>[(45,some (.b 366 1 (W.map dU) true))]) (fun⟨W,k⟩=>W.length=(dg a).length/\aO W/\k<=(dg a).length/\dv (W.drop k)=dv ((dg a).drop k)/b) (fun⟨W,k⟩=>k) ⟨List.replicate (dg a).length 0,(dg a).length⟩ J ⟨by simp, .replicate _,aS _,by simp[dv]⟩ (fun _=>J) (fun⟨W,k⟩ hk=>?_) (hF:=(by refine⟨J,J,J,k9 J (by simp[dv,dU]),k9 J (by simp[vI]),?_⟩;repeat (first|exact trivial|refine And.intro J ?_)))
    try dsimp only at hk⊢
    obtain⟨h1,h2,h3,h4⟩:=hk;have hlw:=dH W;refine br (fu1:=⟨0⟩) J J J (fun hc50=>?_) (fun hc50=>?_)
    .
     obtain⟨k,rfl⟩: ∃j,k=j+1:=⟨k-1,by omega⟩;have hsi:=PU hb0 (by omega) h1 h4;have hrm:=cV (dv ((dg a).drop (k+1))) hb0;have hdk:=e7 a k;have hqd:(dv ((dg a).drop (k+1))%b*4294967296+(dg a).getD k 0)/b<4294967296:=by rw[iT hb0];have:=dY 4294967296 (show dv ((dg a).drop (k+1))%b+1<=b from hrm);omega
     refine aj 12 (.d (vI (k:Nat))) J (by show FX.d (.v (.int _ _))= .d (.v (.int _ _));congr 3;omega) ?_;refine gx J<|ix _ J (et (k:=k) (by omega) (by omega)) J<|ix _ J (et (k:=0) J (by omega)) J<|cl J (LY (h:=dv ((dg a).drop (k+1))%b) (l:=(dg a).getD k 0) (y:=(dg b).getD 0 0) (by omega) hdk (by omega)) J<|?_;refine sb (hv:=by simp only[ah];exact⟨by kernel_rfl,by omega⟩) _ ((W.set k ((dv ((dg a).drop (k+1))%b*4294967296+(dg a).getD k 0)/b)).map dU) J (et (k:=k) (by omega) (by omega)) J (by(rw[hbd,bT,<-p8])<;>rfl) J<|?_;exact at_ ⟨W.set k ((dv ((dg a).drop (k+1))%b*4294967296+(dg a).getD k 0)/b),k⟩ (by dsimp only;exact⟨⟨by simpa using h1,h2.set _ hqd,by omega,hsi.1⟩,(by omega)⟩) (by refine⟨J,J,J,k9 J (by rw[hsi.2,hbd]),k9 J (by first|(simp[vI];done)|(simp[vI];omega)),?_⟩;repeat (first|exact trivial|refine And.intro J ?_))
    .
     refine fz 45 J J<|cl J (nq (ds:=W) (by omega)) J<|rf J J<|cl J (nq (ds:=[dv ((dg a).drop k)%b]) (by simp)) J<|?_;exact rz rfl (by show DV.tp [d7 _,d7 _]= .tp [_,_];obtain rfl:k=0:=(by omega);rw[gV,gV,bz] at h4;rw[gV,bz];rw[nH h2 h4,nH (.cons (by have:=cV a hb0;omega) .nil) (n:=a%b) (by simp[dv])])
   .
    refine cl J (NN (by omega) (by omega) hlb1 hlab) J<|?_;exact rz J J
def Fk(x y:Nat):Nat.gcd y (x%y)=Nat.gcd x y:=by rw[fN x y,qL y x,fN]
def A2{a b ia ib:Nat}[ha:BN a ia][hb:BN b ib](hi:ia<=240000000:=by decide)(hj:ib<=240000000:=by decide):PF GB prog 186 [dN a,dN b] (dN (Nat.gcd a b)):=by
 refine fn (fu:=⟨6⟩) func186 J J ntmps186 J J (fun C=>?_);refine mg (X:=Unit) (fun _=>[(0, .d (dN a)),(1, .d (dN b))]) (fun _=>[]) (fun _=>True) [0,1] [] rfl ?_ (fun _=>J) (fun _ hm=>?_)
 .
  refine gx J<|cl J (xG (a:=a) (ia:=ia) (by omega)) J<|?_;refine bd (fu1:=⟨0⟩) J J J (fun hc16=>?_) (fun hc16=>?_)
  .
   refine aj 5 (.d (.v (.int .u64 (a:Nat)))) J (by rw[if_pos hc16]) ?_;refine gx J<|cl J (xG (a:=b) (ia:=ib) (by omega)) J<|?_;refine bd (fu1:=⟨0⟩) J J J (fun hc22=>?_) (fun hc22=>?_)
   .
    refine aj 7 (.d (.v (.int .u64 (b:Nat)))) J (by rw[if_pos hc22]) ?_;refine gx J<|?_;refine lp (X:=Nat×Nat) (fun⟨x,y⟩=>[(5, .d (.v (.int .u64 (x:Nat)))),(7, .d (.v (.int .u64 (y:Nat))))]) (fun⟨x,y⟩=>[]) (fun⟨x,y⟩=>x<18446744073709551616/\y<18446744073709551616/\Nat.gcd x y=Nat.gcd a b) (fun⟨x,y⟩=>y) ⟨a,b⟩ J ⟨hc16,hc22,J⟩ (fun _=>J) (fun⟨x,y⟩ hk=>?_)
    try dsimp only at hk⊢
    obtain⟨h1,h2,h3⟩:=hk;refine br (v1:=fun hc24=>by simp only[ah];exact⟨⟨(by omega),(by omega)⟩,by kernel_rfl⟩) J J J (fun hc24=>?_) (fun hc24=>?_)
    .
     exact at_ ⟨y,x%y⟩ (by dsimp only;exact⟨⟨h2,by have:=cV x (show 0<y by omega);omega,by rw[Fk,h3]⟩,(by exact cV _ (by omega))⟩)
    .
     refine cl J (oH (u:=x) h1) J<|?_;exact rz J (by show dN x=_;rw[<-h3,show y=0 by omega,lJ])
   .
    exact at_ () trivial
  .
   exact at_ () trivial
 .
  refine lp (fu:=⟨5⟩) (X:=Nat×Nat) (fun⟨x,y⟩=>[(0, .d (dN x)),(1, .d (dN y))]) (fun⟨x,y⟩=>[]) (fun⟨x,y⟩=>x<2^(ia+ib)/\y<2^(ia+ib)/\Nat.gcd x y=Nat.gcd a b) (fun⟨x,y⟩=>y) ⟨a,b⟩ J ⟨(ha.mono (by omega)).h,(hb.mono (by omega)).h,J⟩ (fun _=>J) (fun⟨x,y⟩ hk=>?_)
  try dsimp only at hk⊢
  obtain⟨h1,h2,h3⟩:=hk;have hly:=dH (dg y);haveI hx':BN x (ia+ib):=⟨h1⟩;haveI hy':BN y (ia+ib):=⟨h2⟩;refine aj 32 (.d (vI ((dg y).length:Nat))) J (by rw[hly];rfl) ?_;refine gx J<|?_;refine br J J J (fun hc33=>?_) (fun hc33=>?_)
  .
   have hy0:0<y:=fT fun q=>by subst q;rw[tW] at hc33;simp at hc33
   refine cl J (tE (a:=x) (b:=y) (ia:=ia+ib) (ib:=ia+ib) hy0 (by omega) (by omega)) J<|?_;exact at_ ⟨y,x%y⟩ (by dsimp only;exact⟨⟨h2,by have:=cV x hy0;omega,by rw[Fk,h3]⟩,(by exact cV _ hy0)⟩)
  .
   have hy0:y=0:=qn.1 (by omega);have hlx:=i8 h1;have hmx:=dH (dg x);refine wJ J J<|ap _ J J (pw _) J<|?_;refine jw 44 J ?_;exact rz J (by show DV.sl ([]++_)=_;rw[<-h3,hy0,lJ];rfl)
def E1(neg:Bool)(m:Nat):eI (zv neg m)= .ag [.v (.bool (neg&&decide (0<m))),dN m]:=by unfold eI;rw[mj,KB]
def TX(z:Int):zv (!decide (z<0)) z.natAbs= -z:=by
 unfold zv;by_cases h:z<0<;>simp[h]<;>omega
def Nn(a b:Int):zv (!(decide (a<0)==decide (b<0))) (a.natAbs*b.natAbs)=a*b:=by
 have h:=EH (decide (a<0)) (decide (b<0)) a.natAbs b.natAbs;rw[jm,jm] at h;exact h
def gH{neg:Bool}{m:Nat}:PF GB prog 217 [.v (.bool neg),dN m] (eI (zv neg m)):=by
 have hl:=dH (dg m);have hz:= @qn m;refine fn func217 J J ntmps217 J J (fun C=>?_);refine kB 6 J J J (fun hg6=>?_) (fun hg6=>?_)
 .
  exact rz J (by rw[E1,hg6];show DV.ag [.v (.bool _),_]= .ag [.v (.bool _),_];congr 4;rw[Bool.true_and];exact decide_eq_decide.2 (by omega))
 .
  exact rz J (by rw[E1,hg6];rfl)
end Go.Sx
end
section
namespace Go.Sx
open Go
instance:DecidableEq ab:=fun x y=>decidable_of_iff (x.a=y.a/\x.b=y.b/\x.c=y.c) (by
 cases x;cases y;simp)
structure bi where
 lo:Rat
 hi:Rat
 nl:Bool
 nh:Bool
def bi.all:bi:=⟨0,0,true,true⟩
def bi.empty(v:bi):Bool:=!v.nl&&(!v.nh&&decide (0<=bt v.lo v.hi))
def bi.meet(v w:bi):bi:=
 ⟨if v.nl then w.lo else if w.nl then v.lo else if v.lo<w.lo then w.lo else v.lo,
  if v.nh then w.hi else if w.nh then v.hi else if w.hi<v.hi then w.hi else v.hi,v.nl&&w.nl,v.nh&&w.nh⟩
def bi.sample(v:bi):Rat:=if v.nl&&v.nh then 0 else if v.nl then v.hi-1 else if v.nh then v.lo+1 else(v.lo+v.hi)*mkRat 1 2
def ab.cutK(l m:ab):Rat:=m.nor.dot l.dir
def ab.cutC(l m:ab):Rat:=m.value l.base
def ab.cutV(l:ab)(v:bi)(m:ab):bi:=
 if Int.sign (l.cutK m).num=0 then v
 else if Int.sign (l.cutK m).num=1 then v.meet ⟨-(l.cutC m/l.cutK m),0,false,true⟩
 else v.meet ⟨0, -(l.cutC m/l.cutK m),true,false⟩
def ab.cutB(l:ab)(v:bi)(m:ab):Bool:=
 if Int.sign (l.cutK m).num=0 then decide (0<Int.sign (l.cutC m).num) else !(l.cutV v m).empty
structure aI where
 l:ab
 v:bi
abbrev b7:=List aI
def K0(l:ab):b7->bi->Option bi
 |[],v=>some v
 |s::t,v=>if l.cutB v s.l then K0 l t (l.cutV v s.l) else none
def Bi(c:b7)(l:ab):Option bi:=K0 l c bi.all
def KP(l:ab)(s:aI):Int:=Int.sign (l.value (s.l.at s.v.sample)).num
def Ib(l:ab):b7->Int
 |[]=> -1
 |s::t=>if KP l s≠0 then KP l s else if s.l=l then 1 else Ib l t
def Q6(c:b7)(l:ab):Int:=if(Bi c l).isSome then 0 else Ib l c
def aa.half(p:aa):Int:=
 if 0<Int.sign p.y.num\/(Int.sign p.y.num=0/\0<Int.sign p.x.num) then 1 else if Int.sign p.y.num<0\/Int.sign p.x.num<0 then 2 else 0
def ci(u v:aa):Int:=if u.half<v.half then-1 else if v.half<u.half then 1 else-(Int.sign (u.cross v).num)
def yy(l:ab):b7->b7
 |[]=>[]
 |s::t=>if s.l.cutB s.v l then⟨s.l,s.l.cutV s.v l⟩::yy l t else yy l t
def wB(p:Nat->Bool)(i j:Nat):Nat:=
 if h:i<j then(if p ((i+j)/2) then wB p ((i+j)/2+1) j else wB p i ((i+j)/2)) else i
termination_by j-i
def KE(c:b7)(l:ab)(i:Nat):Bool:=match c[i]? with
 |some s=>decide (ci s.l.dir l.dir<0)
 |none=>false
def Qr(c:b7)(l:ab)(v:bi):b7:=
 c.take (wB (KE c l) 0 c.length)++⟨l,v⟩::c.drop (wB (KE c l) 0 c.length)
def jh(c:b7)(l:ab):b7:=match Bi c l with
 |some v=>Qr (yy l c) l v
 |none=>c
def jD(c:b7)(l:ab):Bool:=match Bi c l with
 |some _=>true
 |none=>decide (0<Q6 c l)
inductive Tr where
 |leaf (b:Bool)
 |node (l:ab) (x y:Tr)
def Tr.isLeaf:Tr->Bool
 | .leaf _=>true
 | .node .. =>false
def Tr.code:Tr->Bool
 | .leaf b=>b
 | .node .. =>false
def Tr.depth:Tr->Nat
 | .leaf _=>0
 | .node _ x y=>1+max x.depth y.depth
def Tr.size:Tr->Nat
 | .leaf _=>0
 | .node _ x y=>1+x.size+y.size
def Tr.joinQ(l:ab)(x y:Tr):Tr:=if x.isLeaf&&(y.isLeaf&&(x.code==y.code)) then x else .node l x y
def Tr.restrict:Tr->b7->Tr
 | .leaf b,_=> .leaf b
 | .node l x y,c=>if !jD c l.rev then x.restrict c else if !jD c l then y.restrict c else joinQ l (x.restrict (jh c l)) (y.restrict (jh c l.rev))
def Tr.parts:Tr->b7->List (Bool×b7)
 | .leaf b,c=>[(b,c)]
 | .node l x y,c=>(if jD c l then x.parts (jh c l) else [])++(if jD c l.rev then y.parts (jh c l.rev) else [])
def Tr.all(p:ab->Prop):Tr->Prop
 | .leaf _=>True
 | .node l x y=>p l/\x.all p/\y.all p
def Tr.good:Tr->Prop
 | .leaf _=>True
 | .node _ x y=> ¬(x.isLeaf=true/\y.isLeaf=true/\x.code=y.code)/\x.good/\y.good
structure NQ where
 l:ab
 a:Int
 b:Int
def wn(b:Bool):Int:=if b then-2 else-1
def Tr.num:Tr->Nat->Int
 | .leaf b,_=>wn b
 | .node ..,n=>n
def Tr.wr:Tr->Nat->List NQ
 | .leaf _,_=>[]
 | .node l x y,n=>⟨l,x.num (n+1),y.num (n+1+x.size)⟩::x.wr (n+1)++y.wr (n+1+x.size)
def n8(l:ab)(p:aa):l.value p=(l.a:Rat)*p.x+(l.b:Rat)*p.y+(l.c:Rat):=rfl
def Uj(l:ab)(p:aa):l.rev.value p= -l.value p:=by
 rw[n8,n8];have h1:((l.rev.a:Int):Rat)= -(l.a:Rat):=(Bm l.a).symm;have h2:((l.rev.b:Int):Rat)= -(l.b:Rat):=(Bm l.b).symm;have h3:((l.rev.c:Int):Rat)= -(l.c:Rat):=(Bm l.c).symm;rw[h1,h2,h3];grind
def kg(q p:aa)(e:Rat):aa:=⟨q.x+e*(p.x-q.x),q.y+e*(p.y-q.y)⟩
def cC(q u:aa)(e:Rat):aa:=⟨q.x+e*u.x,q.y+e*u.y⟩
def fw{a b:Rat}(ha:0<a)(hb:0<b):0<a*b:=Rat.mul_pos ha hb
def lx{a b:Rat}(ha:0<=a)(hb:0<=b):0<=a*b:=mT ha hb
def wQ(a:Rat):0<=a*a:=by
 by_cases h:0<=a
 ·exact lx h h
 ·have:=lx (a:= -a) (b:= -a) (by grind) (by grind)
  grind
def pn{s k:Rat}(hk:0<k):0<s*k↔0<s:=by
 constructor
 ·intro h
  by_cases hs:0<s
  ·exact hs
  ·have:=lx (a:= -s) (b:=k) (by grind) (by grind)
   grind
 ·intro h;exact fw h hk
def y8{s k:Rat}(hk:0<k):0<=s*k↔0<=s:=by
 constructor
 ·intro h
  by_cases hs:0<=s
  ·exact hs
  ·have:=fw (a:= -s) (b:=k) (by grind) hk
   grind
 ·intro h;exact lx h (by grind)
def ab.Ne(l:ab):Prop:= ¬(l.a=0/\l.b=0)
def ab.ok.ne{l:ab}(h:l.ok):l.Ne:=h.1
def vl{l:ab}(h:l.Ne):0<l.nor.dot l.nor:=by
 show 0<(l.a:Rat)*l.a+(l.b:Rat)*l.b;have h1:=wQ (l.a:Rat);have h2:=wQ (l.b:Rat);by_cases ha:l.a=0
 ·have hb:l.b≠0:=fun hb=>h ⟨ha,hb⟩
  have hb':(l.b:Rat)≠0:=fun e=>hb (mS.1 e);have:(l.b:Rat)*l.b≠0:=by grind
  grind
 ·have ha':(l.a:Rat)≠0:=fun e=>ha (mS.1 e)
  have:(l.a:Rat)*l.a≠0:=by grind
  grind
def x6{l:ab}(h:l.Ne): ∃q:Rat,l.nor.dot l.nor*q= -(l.c:Rat)/\l.base=⟨(l.a:Rat)*q,(l.b:Rat)*q⟩:=by
 refine⟨-(l.c:Rat)/l.nor.dot l.nor,?_,J⟩;have:=vl h;grind
def HE(l m:ab)(t:Rat):m.value (l.at t)=l.cutC m+t*l.cutK m:=by
 simp only[ab.cutC,ab.cutK,n8,ab.at,aa.add,aa.scale,ab.dir,ab.nor,aa.dot];grind
def Mm{l:ab}(h:l.Ne)(t:Rat):l.value (l.at t)=0:=by
 obtain⟨q,h1,h2⟩:=x6 h;simp only[n8,ab.at,h2,aa.add,aa.scale,ab.dir];simp only[ab.nor,aa.dot] at h1;grind
def I8{l:ab}(h:l.Ne){p:aa}(hp:l.value p=0): ∃t,p=l.at t:=by
 obtain⟨q,h1,h2⟩:=x6 h;have hn:=vl h;obtain⟨x,y⟩:=p;rw[n8] at hp;simp only[ab.nor,aa.dot] at h1 hn;refine⟨((l.b:Rat)*x-(l.a:Rat)*y)/((l.a:Rat)*l.a+(l.b:Rat)*l.b),?_⟩;generalize ht:((l.b:Rat)*x-(l.a:Rat)*y)/((l.a:Rat)*l.a+(l.b:Rat)*l.b)=t;have ht':((l.a:Rat)*l.a+(l.b:Rat)*l.b)*t=(l.b:Rat)*x-(l.a:Rat)*y:=by grind
 simp only[ab.at,h2,aa.add,aa.scale,ab.dir,aa.mk.injEq];generalize (l.a:Rat)=a at*;generalize (l.b:Rat)=b at*;generalize (l.c:Rat)=c at*;have e1:(a*a+b*b)*(x-(a*q+b*t))=0:=by grind
 have e2:(a*a+b*b)*(y-(b*q+ -a*t))=0:=by grind
 constructor<;>grind
def bi.has(v:bi)(t:Rat):Prop:=(v.nl=true\/v.lo<=t)/\(v.nh=true\/t<=v.hi)
def bi.ins(v:bi)(t:Rat):Prop:=(v.nl=true\/v.lo<t)/\(v.nh=true\/t<v.hi)
def bi.Pos(v:bi):Prop:=v.nl=true\/v.nh=true\/v.lo<v.hi
def RJ(a b:Rat):0<=bt a b↔b<=a:=by
 unfold bt;split
 ·constructor
  ·intro h;exact absurd h (by decide)
  ·intro h;grind
 ·split
  ·constructor
   ·intro _;grind
   ·intro _;decide
  ·constructor
   ·intro _;grind
   ·intro _;decide
def qr(k:Rat):Int.sign k.num=0↔k=0:=by rw[gJ,kU]
def zf(k:Rat):0<k.num↔0<k:=by
 have h1:0<=k.num↔0<=k:=Rat.num_nonneg;have h2:k.num=0↔k=0:=kU;constructor
 ·intro h
  have a:=h1.1 (by omega);have b:k≠0:=fun e=>by have:=h2.2 e;omega
  grind
 ·intro h
  have a:=h1.2 (by grind);have b:k.num≠0:=fun e=>by have:=h2.1 e;grind
  omega
def vK(k:Rat):Int.sign k.num=1↔0<k:=by rw[Int.sign_eq_one_iff_pos,zf]
def um(k:Rat):0<Int.sign k.num↔0<k:=by
 rw[<-vK];rcases lL k.num 0 with h|h|h
 ·rw[cM h];decide
 ·rw[h];decide
 ·rw[eK h];decide
def se(k:Rat):Int.sign k.num<0↔k<0:=by
 have h1:=qr k;have h2:=um k;constructor
 ·intro h
  by_cases hk:0<k
  ·have:=h2.2 hk;omega
  ·by_cases h0:k=0
   ·have:=h1.2 h0;omega
   ·grind
 ·intro h
  have a1: ¬Int.sign k.num=0:=fun e=>by have:=h1.1 e;grind
  have a2: ¬0<Int.sign k.num:=fun e=>by have:=h2.1 e;grind
  omega
def tY(k:Rat):k=0\/0<k\/k<0:=by grind
def pO(c:b7)(p:aa):Prop:= ∀s∈c,0<s.l.value p
def QN(c:b7)(p:aa):Prop:= ∀s∈c,0<=s.l.value p
structure Fz (c:b7):Prop where
 ne: ∃p,pO c p
 ok: ∀s∈c,s.l.ok
 edge: ∀s∈c,s.v.Pos/\ ∀t,s.v.has t↔QN c (s.l.at t)
def rU{a b c x y z:Nat}(h1:x*b=a*y)(h2:x*c=a*z)(g:Nat.gcd (Nat.gcd a b) c=1):a∣x:=by
 have e:x=Nat.gcd (Nat.gcd (x*a) (x*b)) (x*c):=by
  rw[Nat.gcd_mul_left,Nat.gcd_mul_left,g,jX]
 rw[e];exact Nat.dvd_gcd (Nat.dvd_gcd (Nat.dvd_mul_left ..) (h1▸Nat.dvd_mul_right ..)) (h2▸Nat.dvd_mul_right ..)
def S4{a b c x y z:Int}(h1:a*y=b*x)(h2:a*z=c*x)(h3:b*z=c*y)
  (g1:Nat.gcd (Nat.gcd a.natAbs b.natAbs) c.natAbs=1)(g2:Nat.gcd (Nat.gcd x.natAbs y.natAbs) z.natAbs=1):
  (a=x/\b=y/\c=z)\/(a= -x/\b= -y/\c= -z):=by
 have n1:a.natAbs*y.natAbs=b.natAbs*x.natAbs:=by rw[<-gQ,<-gQ,h1]
 have n2:a.natAbs*z.natAbs=c.natAbs*x.natAbs:=by rw[<-gQ,<-gQ,h2]
 have n3:b.natAbs*z.natAbs=c.natAbs*y.natAbs:=by rw[<-gQ,<-gQ,h3]
 generalize ha:a.natAbs=A at*;generalize hb:b.natAbs=B at*;generalize hc:c.natAbs=C at*;generalize hx:x.natAbs=X at*;generalize hy:y.natAbs=Y at*;generalize hz:z.natAbs=Z at*;have gB:Nat.gcd (Nat.gcd B A) C=1:=by rw[fN B A];exact g1
 have gC:Nat.gcd (Nat.gcd C A) B=1:=by rw[Nat.gcd_assoc,fN];exact g1
 have gY:Nat.gcd (Nat.gcd Y X) Z=1:=by rw[fN Y X];exact g2
 have gZ:Nat.gcd (Nat.gcd Z X) Y=1:=by rw[Nat.gcd_assoc,fN];exact g2
 have e1:A=X:=Nat.dvd_antisymm (rU (x:=X) (y:=Y) (z:=Z) (by grind) (by grind) g1) (rU (x:=A) (y:=B) (z:=C) (by grind) (by grind) g2);have e2:B=Y:=Nat.dvd_antisymm (rU (x:=Y) (y:=X) (z:=Z) (by grind) (by grind) gB) (rU (x:=B) (y:=A) (z:=C) (by grind) (by grind) gY);have e3:C=Z:=Nat.dvd_antisymm (rU (x:=Z) (y:=X) (z:=Y) (by grind) (by grind) gC) (rU (x:=C) (y:=A) (z:=B) (by grind) (by grind) gZ);have s1:a=x\/a= -x:=by omega
 have s2:b=y\/b= -y:=by omega
 have s3:c=z\/c= -z:=by omega
 clear ha hb hc hx hy hz n1 n2 n3 g1 g2 gB gC gY gZ e1 e2 e3;have z1:= @Int.mul_eq_zero x y;have z2:= @Int.mul_eq_zero x z;have z3:= @Int.mul_eq_zero y z;rcases s1 with rfl|rfl<;>rcases s2 with rfl|rfl<;>rcases s3 with rfl|rfl<;>grind
def LR{l m:ab}(hl:l.ok)(hm:m.ok)(h: ∀t,l.value (m.at t)=0):l=m\/l=m.rev:=by
 have h0:=h 0;have h1:=h 1;rw[HE] at h0 h1;have hC:m.cutC l=0:=by grind
 have hK:m.cutK l=0:=by grind
 obtain⟨q,q1,q2⟩:=x6 hm.ne;have hn:=vl hm.ne;unfold ab.cutC at hC;rw[q2,n8] at hC;unfold ab.cutK at hK;simp only[ab.nor,ab.dir,aa.dot] at hK q1 hn hC;obtain⟨a,b,c⟩:=l;obtain⟨x,y,z⟩:=m;simp only at*;have e1:a*y=b*x:=by
  have:((a*y:Int):Rat)=((b*x:Int):Rat):=by rw[dW,dW];grind
  exact nX.1 this
 have e2:a*z=c*x:=by
  have:((a*z:Int):Rat)=((c*x:Int):Rat):=by rw[dW,dW];grind
  exact nX.1 this
 have e3:b*z=c*y:=by
  have:((b*z:Int):Rat)=((c*y:Int):Rat):=by rw[dW,dW];grind
  exact nX.1 this
 rcases S4 e1 e2 e3 hl.2 hm.2 with⟨rfl,rfl,rfl⟩|⟨rfl,rfl,rfl⟩
 ·exact .inl J
 ·exact .inr J
def ab.ok.rev{l:ab}(h:l.ok):l.rev.ok:=by
 obtain⟨h1,h2⟩:=h;refine⟨?_,?_⟩
 ·simp only[ab.rev];omega
 ·simp only[ab.rev,gW];exact h2
inductive Wb (c:b7) (l:ab):Prop
 |left (h1:jD c l.rev=false) (h: ∀p,pO c p->0<l.value p)
 |right (h1:jD c l.rev=true) (h2:jD c l=false) (h: ∀p,pO c p->l.value p<0)
 |both (h1:jD c l.rev=true) (h2:jD c l=true) (g1:Fz (jh c l)) (g2:Fz (jh c l.rev))
   (e1: ∀p,pO (jh c l) p↔pO c p/\0<l.value p) (e2: ∀p,pO (jh c l.rev) p↔pO c p/\l.value p<0)
def Hx:List ab->b7->Option b7
 |[],c=>some c
 |l::t,c=>if jD c l then Hx t (jh c l) else none
def s6(l:ab):List ab->bi->Option bi
 |[],v=>some v
 |m::t,v=>if m=l then s6 l t v else if l.cutB v m then s6 l t (l.cutV v m) else none
def OH(c:List ab)(p:aa):Prop:= ∀m∈c,0<m.value p
def zu(c:List ab):Bool:=c.isEmpty||c.any (fun l=>(s6 l c bi.all).isSome)
def yG(out:List ab)(l:ab):Nat:=(out.takeWhile (fun x=>decide (ci x.dir l.dir<0))).length
def LD(out:List ab)(l:ab):List ab:=if out[yG out l]? =some l then out else out.take (yG out l)++l::out.drop (yG out l)
def zj(c:List ab):List ab->List ab->List ab
 |[],out=>out
 |l::t,out=>zj c t (if(s6 l c bi.all).isSome then LD out l else out)
def nG(c:List ab):List ab:=zj c c []
def xA(c:List ab)(l:ab):Int:=if zu (c++[l])&&zu (c++[l.rev]) then 0 else if zu (c++[l]) then 1 else-1
def Tr.restrictL:Tr->List ab->Tr
 | .leaf b,_=> .leaf b
 | .node l x y,c=>if xA c l=1 then x.restrictL c else if xA c l= -1 then y.restrictL c else joinQ l (x.restrictL (nG (c++[l]))) (y.restrictL (nG (c++[l.rev])))
end Go.Sx
end
section
namespace Go.Sx
open Go Go.Proofs Tryz
variable {GB:Gh}
structure xW where
 lo:RV
 hi:RV
 nl:Bool
 nh:Bool
def xW.v(z:xW):Value:= .agg ⟨[.int .i64 z.lo.n, .int .i64 z.lo.d, .pointer z.lo.p, .int .i64 z.hi.n, .int .i64 z.hi.d, .pointer z.hi.p, .bool z.nl, .bool z.nh]⟩
section
variable {P:Program} {C:aA} {n:Nat} {fr:Fr} {own own' own1:List av} {G:Gh} {Φ:Act->World->Prop}
variable {dst:Option Nat} {t t' ty':TypeId} {pos:String} {af:Array Edge} {gd:Option (Nat×Bool)} {x y:Operand} {e s by_:Nat}
end
structure Ub (k:Nat) (G:Gh) (z:xW) (v:bi):Prop where
 lo:rE k G z.lo v.lo
 hi:rE k G z.hi v.hi
 nl:z.nl=v.nl
 nh:z.nh=v.nh
def KV:List Int->Int
 |[]=>0
 |x::t=>if x≠0 then x else KV t
def VQ(l m:ab):Int:=KV [bt l.a m.a,bt l.b m.b,bt l.c m.c]
structure uX where
 l:LV
 v:xW
def uX.val(z:uX):Value:= .agg ⟨[.int .i64 z.l.a.n, .int .i64 z.l.a.d, .pointer z.l.a.p, .int .i64 z.l.b.n, .int .i64 z.l.b.d, .pointer z.l.b.p, .int .i64 z.l.c.n, .int .i64 z.l.c.d, .pointer z.l.c.p, .int .i64 z.v.lo.n, .int .i64 z.v.lo.d, .pointer z.v.lo.p, .int .i64 z.v.hi.n, .int .i64 z.v.hi.d, .pointer z.v.hi.p, .bool z.v.nl, .bool z.v.nh]⟩
structure Sz (k:Nat) (G:Gh) (z:uX) (f:aI):Prop where
 l:CE k G z.l f.l
 v:Ub (25*k+6) G z.v f.v
inductive ou {α β:Type} (R:α->β->Prop):List α->List β->Prop
 |nil:ou R [] []
 |cons {a b us bs} (h:R a b) (t:ou R us bs):ou R (a::us) (b::bs)
structure Rm (k:Nat) (G:Gh) (x:SV) (c:b7):Prop where
 ex: ∃fs:List uX,d6 G 17 x (fs.map uX.val)/\ou (Sz k G) fs c

section
variable {P:Program} {C:aA} {n:Nat} {fr:Fr} {own own':List av} {G:Gh} {Φ:Act->World->Prop}
variable {dst:Option Nat} {t t' ty':TypeId} {pos:String} {af:Array Edge} {gd:Option (Nat×Bool)} {x y:Operand} {e s by_:Nat}
end

section
variable {P:Program} {C:aA} {n:Nat} {fr:Fr} {own own':List av} {G:Gh} {Φ:Act->World->Prop}
variable {dst:Option Nat} {t t' ty':TypeId} {pos:String} {af:Array Edge} {gd:Option (Nat×Bool)} {x y:Operand} {e s by_:Nat}
end

def AQ(k:Nat)(G:Gh):Tr->Option Addr->Prop
 | .leaf b,p=> ∃n,p=some ⟨n,0,none⟩/\G n=some [.int .i64 0, .int .i64 0, .pointer none, .int .i64 0, .int .i64 0, .pointer none, .int .i64 0, .int .i64 0, .pointer none, .pointer none, .pointer none, .bool b]
 | .node l x y,p=> ∃(n:Nat) (z:LV) (q r:Option Addr),p=some ⟨n,0,none⟩/\G n=some [.int .i64 z.a.n, .int .i64 z.a.d, .pointer z.a.p, .int .i64 z.b.n, .int .i64 z.b.d, .pointer z.b.p, .int .i64 z.c.n, .int .i64 z.c.d, .pointer z.c.p, .pointer q, .pointer r, .bool false]/\CE k G z l/\AQ k G x q/\AQ k G y r
structure ND where
 a:IV
 b:IV
 c:IV
 l:Int
 r:Int
def ND.val(z:ND):Value:= .agg ⟨[.bool z.a.neg, .slice z.a.a.a z.a.a.n z.a.a.c, .bool z.b.neg, .slice z.b.a.a z.b.a.n z.b.a.c, .bool z.c.neg, .slice z.c.a.a z.c.a.n z.c.a.c, .int .i64 z.l, .int .i64 z.r]⟩
structure UB (k:Nat) (G:Gh) (z:ND) (n:NQ):Prop where
 a:rM k G z.a n.l.a
 b:rM k G z.b n.l.b
 c:rM k G z.c n.l.c
 l:z.l=n.a
 r:z.r=n.b
structure XC (k:Nat) (G:Gh) (x:SV) (ns:List NQ):Prop where
 ex: ∃zs:List ND,d6 G 8 x (zs.map ND.val)/\ou (UB k G) zs ns
def Yf(n i:Nat):List Value:=(List.range n).map fun j=> .bool (decide (j<i))

def X7(ob wb:Nat):Value:= .func (.func 170) #[] #[.pointer (some ⟨ob,0,none⟩), .pointer (some ⟨wb,0,none⟩)]
structure uR where
 x:SV
 p:Option Addr
def uR.val(z:uR):Value:= .agg ⟨[.slice z.x.a z.x.n z.x.c, .pointer z.p]⟩
structure SH (k:Nat) (G:Gh) (z:uR) (b:Bool×b7):Prop where
 c:Rm k G z.x b.2
 t:AQ k G (.leaf b.1) z.p
structure WZ (k:Nat) (G:Gh) (w:SV) (ps:List (Bool×b7)):Prop where
 ex: ∃zs:List uR,d6 G 2 w (zs.map uR.val)/\ou (SH k G) zs ps
structure LI where
 a:IV
 b:IV
 c:IV
def LI.val(z:LI):Value:= .agg ⟨[.bool z.a.neg, .slice z.a.a.a z.a.a.n z.a.a.c, .bool z.b.neg, .slice z.b.a.a z.b.a.n z.b.a.c, .bool z.c.neg, .slice z.c.a.a z.c.a.n z.c.a.c]⟩
structure N3 (k:Nat) (G:Gh) (z:LI) (l:ab):Prop where
 a:rM k G z.a l.a
 b:rM k G z.b l.b
 c:rM k G z.c l.c
structure V0 (k:Nat) (G:Gh) (x:SV) (ls:List ab):Prop where
 ex: ∃zs:List LI,d6 G 6 x (zs.map LI.val)/\ou (N3 k G) zs ls
structure V9 (k:Nat) (G:Gh) (x:SV) (ls:List ab):Prop where
 ex: ∃zs:List LV,d6 G 9 x (zs.map LV.v)/\ou (CE k G) zs ls
def qD{a b:Int}(h:a=b):eI a=eI b:=by rw[h]
def wk(z:Int):eQ (z:Rat)= .ag [.v (.bool (decide (z<0))),dN z.natAbs, .sl []]:=by unfold eQ;rw[oU,oT];rfl
def xo{a:Rat}(h:a.den=1):((a.num:Int):Rat)=a:=Rat.ext (oU _) (by rw[oT,h])
def Tf{a b:Rat}(ha:a.den=1)(hb:b.den=1):a+b=((a.num+b.num:Int):Rat):=by
 rw[qZ,xo ha,xo hb]
def P9{a b:Rat}(ha:a.den=1)(hb:b.den=1):a*b=((a.num*b.num:Int):Rat):=by
 rw[dW,xo ha,xo hb]
def s8(n:Nat)(h:0<n):(if n=1 then [] else(dg n).map dU).length=0↔n=1:=by
 by_cases q:n=1
 ·simp[q]
 ·rw[if_neg q,aX,qn];omega
def F'{n:Nat}(h:n≠1):dD n=dN n:=by unfold dD;rw[if_neg h];rfl
def AH{g:Nat}:(eu g 1=0)↔g=1:=by
 unfold eu;constructor
 ·intro h;split at h
  ·exact absurd h (by decide)
  ·split at h
   ·assumption
   ·exact absurd h (by decide)
 ·rintro rfl;rfl
def KX{x:Int}{d:Nat}(hd:0<d):zv (decide (x<0)) (x.natAbs/Nat.gcd x.natAbs d)=(mkRat x d).num:=by
 rw[Rat.num_mkRat,if_neg (by omega),fN];have hg:0<Nat.gcd d x.natAbs:=jK _ hd;obtain⟨c,hc⟩:Nat.gcd d x.natAbs∣x.natAbs:=jR _ _;generalize Nat.gcd d x.natAbs=g at*;rw[hc,oN _ hg];unfold zv;by_cases q:x<0
 ·rw[if_pos (by simpa using q),show x=(g:Int)*(-(c:Int)) by rw[Int.mul_neg,<-iV];omega,Int.mul_ediv_cancel_left _ (by omega)]
 ·rw[if_neg (by simpa using q),show x=(g:Int)*(c:Int) by rw[<-iV];omega,Int.mul_ediv_cancel_left _ (by omega)]
def EW{x:Int}{d:Nat}(hd:0<d):d/Nat.gcd x.natAbs d=(mkRat x d).den:=by
 rw[Rat.den_mkRat,if_neg (by omega),fN]
def S9{x:Int}{d:Nat}(hd:0<d)(h:Nat.gcd x.natAbs d=1):(mkRat x d).num=x/\(mkRat x d).den=d:=by
 rw[<-KX hd,<-EW hd,h,qM,qM];exact⟨jm x,J⟩
instance BI.zv (neg:Bool) (m i:Nat) [h:BN m i]:BI (zv neg m) i:=⟨by rw[mj];exact h.h⟩
section
variable {GB:Gh} {C:aA} {n:Nat} {Q0:Exit->Act->World->Prop} {fr fr':ao} {own own':aB} {cf cf':Cf} {vc:List Prop}
def Iy(fr:ao)(cf:Cf):Option Int:=match bw fr cf with
 |some ⟨_, .convert t t' x,_,_,_,_⟩=>match cd tt t,cd tt t' with
  |some ⟨.int .i64,_,_,_⟩,some ⟨.int .u64,_,_,_⟩=>match aC (ba fr cf) x with
   |some (.d (.v (.int .i64 p)))=>some p
   |_=>none
  |_,_=>none
 |_=>none
def NY[fu:Fu]{p:Int}(q:Int)(h:Iy fr cf=some p)(e:p%18446744073709551616=q)(hgo:bG tt n fu.n fr own cf (.d (.v (.int .u64 q))) [] []=⟨vc,fr',own',cf'⟩)(k:ak prog GB C n Q0 fr' own' cf')
  (hv:ah vc:=by first|exact trivial|(simp only[ah];omega)):ak prog GB C n Q0 fr own cf:=by
 unfold Iy at h;split at h<;>try (cases h;done)
 rename_i hh;split at h<;>try (cases h;done)
 rename_i hT hT';split at h<;>cases h;rename_i hx;have:=sK (dG _ _ hT) J;have:=sK (dG _ _ hT') J;refine us hh (.x1 hx fun ρ G ov a w y _ r h1 h2=>?_) hgo hv k;rw[cj] at h2;subst h2;refine⟨_,cj.2 J,?_⟩;rw[<-e,<-kj];exact vU h1
def Ke(fr:ao)(cf:Cf):Option Int:=match bw fr cf with
 |some ⟨_, .unOp .neg _ x,_,_,_,_⟩=>match aC (ba fr cf) x with
  |some (.d (.v (.int .u64 p)))=>some p
  |_=>none
 |_=>none
def LT[fu:Fu]{p:Int}(q:Int)(h:Ke fr cf=some p)(e:(0-p)%18446744073709551616=q)(hgo:bG tt n fu.n fr own cf (.d (.v (.int .u64 q))) [] []=⟨vc,fr',own',cf'⟩)(k:ak prog GB C n Q0 fr' own' cf')
  (hv:ah vc:=by first|exact trivial|(simp only[ah];omega)):ak prog GB C n Q0 fr own cf:=by
 unfold Ke at h;split at h<;>try (cases h;done)
 rename_i hh;split at h<;>cases h;rename_i hx;refine us hh (.x1 hx fun ρ G ov a w y _ r h1 h2=>?_) hgo hv k;rw[cj] at h2;subst h2;refine⟨_,cj.2 J,?_⟩;rw[<-e,<-kj];exact Cx h1
end
def Ev{n:Int}(h0: -4611686018427387904<=n)(h1:n<=4611686018427387904):PF GB prog 157 [.v (.int .i64 n)] (eI n):=by
 refine fn func157 J J ntmps157 J J (fun C=>?_);refine br (fu1:=⟨3⟩) (fu2:=⟨6⟩) J J J (fun hc4=>?_) (fun hc4=>?_)
 .
  refine NY (fu:=⟨0⟩) (18446744073709551616+n) J (by omega) J<|LT (n.natAbs:Nat) J (by omega) J<|cl J (oH (u:=n.natAbs) (by omega)) J<|?_;refine cl J gH J<|?_;exact rz J (qD (by unfold zv;rw[if_pos J];omega))
 .
  refine aj 11 (.d (.v (.int .u64 (n.natAbs:Nat)))) J (by show FX.d (.v (.int _ _))= .d (.v (.int _ _));congr 3;omega) ?_;refine gx J<|cl J (oH (u:=n.natAbs) (by omega)) J<|cl J gH J<|?_;exact rz J (qD (by unfold zv;rw[if_neg (by decide)];omega))
def wD{z:Int}:PF GB prog 123 [eI z] (vI z.sign):=by
 have hl:=dH (dg z.natAbs);have hz:= @qn z.natAbs;refine fn func123 J J ntmps123 J J (fun C=>?_);refine br J J J (fun hc6=>?_) (fun hc6=>?_)
 .
  exact rz J (by show DV.v (.int _ 0)=DV.v (.int _ _);rw[show z=0 by omega];rfl)
 .
  refine bd J J J (fun hc8=>?_) (fun hc8=>?_)
  .
   exact rz J (by show DV.v (.int _ (-1))=DV.v (.int _ _);rw[cM (by omega)])
  .
   exact rz J (by show DV.v (.int _ 1)=DV.v (.int _ _);rw[eK (by omega)])
def ul{z:Int}:PF GB prog 124 [eI z] (eI (-z)):=by
 refine fn func124 J J ntmps124 J J (fun C=>?_);refine cl J gH J<|?_;exact rz J (qD (TX z))
def LX{a b:Int}(h:decide (a<0)=decide (b<0)):zv (decide (a<0)) (a.natAbs+b.natAbs)=a+b:=by
 unfold zv;have h':a<0↔b<0:=by simpa using h
 by_cases q:a<0
 ·have:=h'.1 q
  simp[q];omega
 ·have: ¬b<0:=fun w=>q (h'.2 w)
  simp[q];omega
def L4{a b:Int}(h: ¬decide (a<0)=decide (b<0))(k:a.natAbs<b.natAbs):zv (decide (b<0)) (b.natAbs-a.natAbs)=a+b:=by
 unfold zv;have h': ¬(a<0↔b<0):=by simpa using h
 by_cases q:b<0
 ·have: ¬a<0:=fun w=>h' ⟨fun _=>q,fun _=>w⟩
  simp[q];omega
 ·have:a<0:=Int.not_le.1 fun w=>h' ⟨fun e=>by omega,fun e=>absurd e q⟩
  simp[q];omega
def Ud{a b:Int}(h: ¬decide (a<0)=decide (b<0))(k:b.natAbs<=a.natAbs):zv (decide (a<0)) (a.natAbs-b.natAbs)=a+b:=by
 unfold zv;have h': ¬(a<0↔b<0):=by simpa using h
 by_cases q:a<0
 ·have: ¬b<0:=fun w=>h' ⟨fun _=>w,fun _=>q⟩
  simp[q];omega
 ·have:b<0:=Int.not_le.1 fun w=>h' ⟨fun e=>absurd e q,fun e=>by omega⟩
  simp[q];omega
def wK{a b:Int}{i j:Nat}[ha:BI a i][hb:BI b j](hi:i<=400000000:=by decide)(hj:j<=400000000:=by decide):PF GB prog 240 [eI a,eI b] (eI (a+b)):=by
 have hba:=i8 ha.h;have hbb:=i8 hb.h;refine fn (fu:=⟨15⟩) func240 J J ntmps240 J J (fun C=>?_);refine aj 9 (.d (.v (.bool (decide (decide (a<0)=decide (b<0)))))) J (by congr 2) ?_;refine gx J<|?_;refine bd J J J (fun hc9=>?_) (fun hc9=>?_)
 .
  refine cl J (Vu (by omega) (by omega)) J<|cl J gH J<|?_;exact rz J (qD (LX hc9))
 .
  refine cl J (uF (by omega) (by omega)) J<|?_;refine br J J J (fun hc23=>?_) (fun hc23=>?_)
  .
   refine cl J (BC (by have:=sC.1 hc23;omega) (by omega)) J<|cl J gH J<|?_;exact rz J (qD (L4 hc9 (sC.1 hc23)))
  .
   refine cl J (BC (pR fun q=>hc23 (sC.2 q)) (by omega)) J<|cl J gH J<|?_;exact rz J (qD (Ud hc9 (pR fun q=>hc23 (sC.2 q))))
def pu{a b:Int}{i j:Nat}[ha:BI a i][hb:BI b j](hi:i<=400000000:=by decide)(hj:j<=400000000:=by decide):PF GB prog 238 [eI a,eI b] (eI (a*b)):=by
 refine fn func238 J J ntmps238 J J (fun C=>?_);refine cl J (mI (by omega) (by omega)) J<|cl J gH J<|?_;exact rz J (qD (Nn a b))
def B4{a b:Int}{i j:Nat}[ha:BI a i][hb:BI b j](hi:i<=400000000:=by decide)(hj:j<=400000000:=by decide):PF GB prog 268 [eI a,eI b] (vI (a-b).sign):=by
 refine fn func268 J J ntmps268 J J (fun C=>?_);refine cl J ul J<|cl J (wK (by omega) (by omega)) J<|cl J wD J<|?_;exact rz J (by rw[Int.sub_eq_add_neg];rfl)
def iq{q:Rat}:PF GB prog 195 [eQ q] (dN q.den):=by
 refine fn func195 J J ntmps195 J J (fun C=>?_);refine br J J J (fun hc6=>?_) (fun hc6=>?_)
 .
  refine cl J yI J<|?_;exact rz J (by rw[(s8 q.den (jz q)).1 (by omega)];rfl)
 .
  exact rz J (by exact F' (fun e=>hc6 (by exact congrArg Int.ofNat ((s8 q.den (jz q)).2 e))))
def JE{n k:Nat}[h:BN n k](hk:k<=500000000):(dg n).length<=100000000:=by have:=i8 h.h;omega
def rj{x:Int}{d i j:Nat}[hx:BI x i][hd:BN d j](hd0:0<d)(hi:i<=200000000:=by decide)(hj:j<=200000000:=by decide):PF GB prog 156 [eI x,dN d] (eQ (mkRat x d)):=by
 obtain⟨q,hq⟩: ∃q,q=mkRat x d:=⟨_,rfl⟩;obtain⟨g,hg⟩: ∃g,g=Nat.gcd x.natAbs d:=⟨_,rfl⟩;have hg0:0<g:=hg▸mZ _ hd0;haveI hgB:BN g (i+j):=hg▸inferInstance;have hg1:(dg g).length<=100000000:=JE (k:=i+j) (by omega);have ho1:(dg 1).length<=100000000:=by rw[wA];decide
 haveI hqB:BQ q (i+j):=hq▸rD hd0 (cS hx.h (aM (by decide) (by omega))) (cS hd.h (aM (by decide) (by omega)));refine fn func156 J J ntmps156 J J (fun C=>?_);refine cl (fu:=⟨0⟩) J (A2 (by omega) (by omega)) J<|?_;refine aj 11 (.d (dN g)) J (by rw[hg]) ?_;refine gx (fu:=⟨4⟩) J<|?_;refine mg (fu:=⟨1⟩) (X:=Unit) (fun _=>[(1, .d (dN q.den)),(2, .ov 2 0),(4, .ov 4 0)]) (fun _=>[(4,some (.o 79 [.ff, .nl, .nl] true)),(2,some (.o 77 [.d (.v (.bool (decide (q.num<0)))), .d (dN q.num.natAbs)] true))]) (fun _=>True) [1,2,4] [4,2] rfl ?_ (fun _=>J) (fun _ hm=>?_)
 .
  refine gx J<|cl J yI J<|cl J (uF hg1 ho1) J<|?_;refine br J J J (fun hc15=>?_) (fun hc15=>?_)
  .
   refine cl J (tE hg0 (by omega) (by omega)) J<|cl (fu:=⟨0⟩) J gH J<|?_;refine aj 26 (.d (eI q.num)) J (by show FX.d (eI (zv _ _))=_;rw[hg,KX hd0,hq]) ?_;refine gx J<|cl (fu:=⟨2⟩) J (tE hg0 (by omega) (by omega)) J<|?_;refine aj 31 (.d (dN q.den)) J (by rw[hg,EW hd0,hq]) ?_;refine gx J<|?_;exact at_ () trivial
  .
   have hm:=S9 (x:=x) hd0 (by rw[<-hg];exact AH.1 (Decidable.not_not.1 hc15));rw[<-hq] at hm;refine aj 1 (.d (dN q.den)) J (by rw[hm.2]) ?_;exact at_ () trivial (hO:=⟨J,by rw[hm.1];rfl,trivial⟩)
 .
  refine mg (X:=Unit) (fun _=>[(1, .d (dD q.den)),(2, .ov 2 0),(4, .ov 4 0)]) (fun _=>[(4,some (.o 79 [.ff, .nl, .nl] true)),(2,some (.o 77 [.d (.v (.bool (decide (q.num<0)))), .d (dN q.num.natAbs)] true))]) (fun _=>True) [1,2,4] [4,2] rfl ?_ (fun _=>J) (fun _ hm=>?_)
  .
   refine gx J<|cl J yI J<|cl J (uF (JE (k:=i+j) (by omega)) ho1) J<|?_;refine br J J J (fun hc36=>?_) (fun hc36=>?_)
   .
    refine T' 1 J ?_;refine aj 1 (.d (dD q.den)) J (by rw[AH.1 hc36];rfl) ?_;exact at_ () trivial
   .
    refine aj 1 (.d (dD q.den)) J (by rw[F' (fun e=>hc36 (AH.2 e))]) ?_;exact at_ () trivial
  .
   exact rz J (by rw[<-hq];rfl)
def Kx(a:Rat):mkRat a.num a.den=a:=by simp[qS]
def H5{a b:Rat}(h:b≠0):a/b=mkRat (a.num*zv (decide (b.num<0)) b.den) (a.den*b.num.natAbs):=by
 rw[oX];have ha:(a.num:Rat)/(a.den:Rat)=a:=by rw[<-oX,Kx]
 have hb:(b.num:Rat)/(b.den:Rat)=b:=by rw[<-oX,Kx]
 have h1:(a.den:Rat)≠0:=by have:=a.den_nz;exact_mod_cast this
 have h2:(b.den:Rat)≠0:=by have:=b.den_nz;exact_mod_cast this
 have h3:(b.num:Rat)≠0:=by
  intro e;rw[e] at hb;apply h;rw[<-hb];grind
 rw[dW,Rat.natCast_mul];by_cases q:b.num<0
 ·have e1:((zv (decide (b.num<0)) b.den:Int):Rat)= -(b.den:Rat):=by
   unfold zv;rw[if_pos (by simpa using q),qX];rfl
  have e2:((b.num.natAbs:Nat):Rat)= -(b.num:Rat):=by
   have:((b.num.natAbs:Nat):Int)= -b.num:=by omega
   rw[<-qX,<-this];rfl
  rw[e1,e2];generalize (a.num:Rat)=an at*;generalize (a.den:Rat)=ad at*;generalize (b.num:Rat)=bn at*;generalize (b.den:Rat)=bd at*;subst ha hb;grind
 ·have e1:((zv (decide (b.num<0)) b.den:Int):Rat)=(b.den:Rat):=by
   unfold zv;rw[if_neg (by simpa using q)];rfl
  have e2:((b.num.natAbs:Nat):Rat)=(b.num:Rat):=by
   have:((b.num.natAbs:Nat):Int)=b.num:=by omega
   rw[<-this];rfl
  rw[e1,e2];generalize (a.num:Rat)=an at*;generalize (a.den:Rat)=ad at*;generalize (b.num:Rat)=bn at*;generalize (b.den:Rat)=bd at*;subst ha hb;grind
def Sg{q:Rat}{n:Int}{d:Nat}(hd:0<d)(h:q*(d:Rat)=(n:Rat)):q.num.natAbs<=n.natAbs/\q.den<=d:=by
 have e:q=mkRat n d:=by
  rw[oX];have:(d:Rat)≠0:=by exact_mod_cast (by omega:d≠0)
  rw[<-h];grind
 rw[e,Rat.num_mkRat,Rat.den_mkRat,if_neg (by omega),if_neg (by omega)];exact⟨lU n (d.gcd n.natAbs:Nat),iL ..⟩
theorem BQ.of_frac{q:Rat}{n:Int}{d i:Nat}(hd:0<d)(h:q*(d:Rat)=(n:Rat))(hn:n.natAbs<2^i)(hdi:d<2^i):BQ q i:=by
 have:=Sg hd h;exact⟨by omega,by omega⟩
def Ix{b:Rat}(h:b≠0):0<b.num.natAbs:=by
 have:b.num≠0:=fun e=>h (kU.1 e);omega
instance BQ.over (a b:Rat) (i j:Nat) [ha:BQ a i] [hb:BQ b j]:BQ (a/b) (i+j):=by
 by_cases h:b=0
 ·subst h
  rw[Rat.div_def,Rat.inv_zero,Rat.mul_zero];have h2:=ha.hd;have h3:0<a.den:=jz a;have h4:2^i*1<=2^i*2^j:=dY _ (dZ (by decide));rw[<-dJ] at h4;exact⟨by show 0<_;omega,by show 1<_;omega⟩
 ·rw[H5 h]
  have hb0:=Ix h;refine rD (gX (jz a) hb0) ?_ (k8 ha.hd hb.hn);rw[gQ,mj];exact k8 ha.hn hb.hd
def rN{n:Int}(h0: -4611686018427387904<=n)(h1:n<=4611686018427387904):PF GB prog 101 [.v (.int .i64 n)] (eQ (n:Rat)):=by
 refine fn func101 J J ntmps101 J J (fun C=>?_);refine cl J (Ev (by omega) (by omega)) J<|?_;exact rz J (by rw[wk];rfl)
def wh{q:Rat}:PF GB prog 44 [eQ q] (vI q.num.sign):=by
 refine fn func44 J J ntmps44 J J (fun C=>?_);refine cl J wD J<|?_;exact rz J J
def wX{q:Rat}:PF GB prog 45 [eQ q] (eQ (-q)):=by
 refine fn func45 J J ntmps45 J J (fun C=>?_);refine cl J ul J<|?_;exact rz J (by unfold eQ;rw[kN,nU];rfl)
def lD{a b:Rat}{i j:Nat}[ha:BQ a i][hb:BQ b j](hi:i<=20000000:=by decide)(hj:j<=20000000:=by decide):PF GB prog 149 [eQ a,eQ b] (eQ (a*b)):=by
 have had:=jz a;have hbd:=jz b;have hdp:=gX had hbd;have e1:=s8 a.den had;have e2:=s8 b.den hbd;refine fn func149 J J ntmps149 J J (fun C=>?_);refine cs 9 J J J (fun hg9=>?_) (fun hg9=>?_)
 .
  refine br J J J (fun hc14=>?_) (fun hc14=>?_)
  .
   refine cl J (pu (a:=a.num) (b:=b.num) (by omega) (by omega)) J<|?_;exact rz J (by rw[P9 (e1.1 (by omega)) (e2.1 (by omega)),wk];rfl)
  .
   refine cl J (pu (a:=a.num) (b:=b.num) (by omega) (by omega)) J<|cl J iq J<|cl J iq J<|cl J (mI (by omega) (by omega)) J<|?_;refine cl J (rj hdp (by omega) (by omega)) J<|?_;exact rz J (by rw[t7];rfl)
 .
  refine cl J (pu (a:=a.num) (b:=b.num) (by omega) (by omega)) J<|cl J iq J<|cl J iq J<|cl J (mI (by omega) (by omega)) J<|?_;refine cl J (rj hdp (by omega) (by omega)) J<|?_;exact rz J (by rw[t7];rfl)
def u5{a b:Rat}{i j:Nat}[ha:BQ a i][hb:BQ b j](hi:i<=20000000:=by decide)(hj:j<=20000000:=by decide):PF GB prog 148 [eQ a,eQ b] (eQ (a+b)):=by
 have had:=jz a;have hbd:=jz b;have hdp:=gX had hbd;have e1:=s8 a.den had;have e2:=s8 b.den hbd;refine fn func148 J J ntmps148 J J (fun C=>?_);refine cs 9 J J J (fun hg9=>?_) (fun hg9=>?_)
 .
  refine br J J J (fun hc14=>?_) (fun hc14=>?_)
  .
   refine cl J (wK (by omega) (by omega)) J<|?_;exact rz J (by rw[Tf (e1.1 (by omega)) (e2.1 (by omega)),wk];rfl)
  .
   refine cl J iq J<|cl J gH J<|cl J (pu (a:=a.num) (b:=zv false b.den) (by omega) (by omega)) J<|cl J iq J<|cl J gH J<|?_;refine cl J (pu (a:=b.num) (b:=zv false a.den) (by omega) (by omega)) J<|cl J (wK (by omega) (by omega)) J<|cl J iq J<|?_;refine cl J iq J<|cl J (mI (by omega) (by omega)) J<|cl J (rj hdp (by omega) (by omega)) J<|?_;exact rz J (by rw[tP];rfl)
 .
  refine cl J iq J<|cl J gH J<|cl J (pu (a:=a.num) (b:=zv false b.den) (by omega) (by omega)) J<|cl J iq J<|?_;refine cl J gH J<|cl J (pu (a:=b.num) (b:=zv false a.den) (by omega) (by omega)) J<|cl J (wK (by omega) (by omega)) J<|?_;refine cl J iq J<|cl J iq J<|cl J (mI (by omega) (by omega)) J<|cl J (rj hdp (by omega) (by omega)) J<|?_;exact rz J (by rw[tP];rfl)
def IJ{a b:Rat}{i j:Nat}[ha:BQ a i][hb:BQ b j](hi:i<=20000000:=by decide)(hj:j<=20000000:=by decide):PF GB prog 163 [eQ a,eQ b] (eQ (a-b)):=by
 refine fn func163 J J ntmps163 J J (fun C=>?_);refine cl J (wX (q:=b)) J<|cl J (u5 (a:=a) (b:= -b) hi hj) J<|?_;exact rz J (by rw[Rat.sub_eq_add_neg];rfl)
def SZ{a b:Rat}{i j:Nat}[ha:BQ a i][hb:BQ b j](hb0:b≠0)(hi:i<=20000000:=by decide)(hj:j<=20000000:=by decide):PF GB prog 147 [eQ a,eQ b] (eQ (a/b)):=by
 have hbp:=Ix hb0;have hdp:=gX (jz a) hbp;refine fn func147 J J ntmps147 J J (fun C=>?_);refine cl J iq J<|cl J gH J<|cl J (pu (a:=a.num) (b:=zv (decide (b.num<0)) b.den) (by omega) (by omega)) J<|cl J iq J<|?_;refine cl J (mI (a:=a.den) (b:=b.num.natAbs) (by omega) (by omega)) J<|cl J (rj (x:=a.num*zv (decide (b.num<0)) b.den) (d:=a.den*b.num.natAbs) hdp (by omega) (by omega)) J<|?_;exact rz J (by rw[H5 hb0];rfl)
def sV{a b:Rat}{i j:Nat}[ha:BQ a i][hb:BQ b j](hi:i<=20000000:=by decide)(hj:j<=20000000:=by decide):PF GB prog 115 [eQ a,eQ b] (vI (bt a b)):=by
 refine fn func115 J J ntmps115 J J (fun C=>?_);refine cl J (IJ hi hj) J<|cl J wh J<|?_;exact rz J (by show vI _=vI _;rw[ym])
instance BI.two:BI 2 2:=⟨by decide⟩
end Go.Sx
end
