import Derived.Test.YtefoocgiaegobaaGreatDoorPa10
set_option linter.all false
set_option maxHeartbeats 4000000
set_option maxRecDepth 100000
section
namespace Go.Sx
open Go Go.Proofs Tryz
variable {GB:Gh}
def SZ{h l y:Nat}(hh:h<y)(hl:l<4294967296)(hy:y<4294967296):PF GB prog 341 [.v (.int .u32 (h:Int)), .v (.int .u32 (l:Int)), .v (.int .u32 (y:Int))] (.tp [dU ((h*4294967296+l)/y),dU ((h*4294967296+l)%y)]):=by
 refine fn (fu:=⟨11⟩) func341 J J ntmps341 J J (fun C=>?_);refine kT 10 J (by omega) ?_;refine gx (fu:=⟨4⟩) J<|?_;refine kF 14 J (by omega) ?_;refine gx (fu:=⟨11⟩) (hv:=by simp only[ah];exact⟨by omega,(by decide)⟩) J<|?_;refine ak 19 (.d (.v (.int .u64 (h*2^32:Nat)))) J (by show FX.d (.v (.int _ _))= .d (.v (.int _ _));rw[oA _ 32 (by decide) (by show _*4294967296<_;omega) J]) ?_;refine gx (fu:=⟨3⟩) J<|?_;refine ak 22 (.d (.v (.int .u64 (l+h*2^32:Nat)))) J (congrArg (fun z:Nat=>FX.d (.v (.int .u64 (z:Int)))) (by rw[BitVec.or_comm];exact vD 64 l h 32 hl (by show _+_*4294967296<18446744073709551616;omega))) ?_;obtain⟨t,ht⟩: ∃t,t=h*4294967296+l:=⟨_,rfl⟩;have hq:t/y<4294967296:=by rw[jK (by omega)];have:=fX 4294967296 (show h+1<=y from hh);omega
 have hr:t%y<y:=cN _ (by omega);refine ak 22 (.d (.v (.int .u64 (t:Nat)))) J (by show FX.d (.v (.int _ _))= .d (.v (.int _ _));congr 3;rw[ht];omega) ?_;refine gx (hv:=by simp only[ah];exact⟨⟨⟨⟨by omega,⟨(by omega),(by omega),(by omega)⟩⟩,by omega⟩,⟨(by omega),(by omega)⟩⟩,by kernel_rfl⟩) J<|?_;exact rz J (by show DV.tp [.v (.int _ _), .v (.int _ _)]= .tp [.v (.int _ _), .v (.int _ _)];rw[<-ht,<-oU,<-nJ];generalize t/y=q at*;generalize t%y=r at*;congr 4<;>(first|omega|(congr 3;omega)))
def Sv{A r i b:Nat}(d:Nat)(hb:0<b):(A*4294967296+d)/b=A/b*4294967296+(A%b*4294967296+d)/b/\(A*4294967296+d)%b=(A%b*4294967296+d)%b:=by
 have h:=pZ A b;have e:A*4294967296+d=(A%b*4294967296+d)+b*(A/b*4294967296):=by
  rw[<-bL,Nat.add_right_comm,<-dQ,lU (A%b),h]
 rw[e,lQ _ _ hb,mX];exact⟨lU _ _,J⟩
def J1{ds:List Nat}{i:Nat}(h:i<ds.length):dv (ds.drop i)=dv (ds.drop (i+1))*4294967296+ds.getD i 0:=by
 rw[cW h,aX,aZ h];simp only[dv,gM];omega
def Nf{W:List Nat}{i q:Nat}(h:i<W.length):dv ((W.set i q).drop i)=dv (W.drop (i+1))*4294967296+q:=by
 rw[J1 (by rw[aT];exact h),oR (by omega),Nq h]
def Tb{a b k:Nat}{W:List Nat}(hb:0<b)(hk:k<(dg a).length)(hl:W.length=(dg a).length)(h:dv (W.drop (k+1))=dv ((dg a).drop (k+1))/b):
  dv ((W.set k ((dv ((dg a).drop (k+1))%b*4294967296+(dg a).getD k 0)/b)).drop k)=dv ((dg a).drop k)/b/\dv ((dg a).drop k)%b=(dv ((dg a).drop (k+1))%b*4294967296+(dg a).getD k 0)%b:=by
 have:=Sv (A:=dv ((dg a).drop (k+1))) (r:=0) (i:=0) ((dg a).getD k 0) hb;rw[Nf (by omega),h,J1 hk,this.1,this.2];exact⟨J,J⟩
def uM{a b:Nat}:fq a b<0↔a<b:=by unfold fq;split<;>(try split)<;>omega
def w4{a b:Nat}:0<fq a b↔b<a:=by unfold fq;split<;>(try split)<;>omega
def XJ{x:Nat}(hx:x<4294967296):PF GB prog 366 [dU x] (vI (32-(bl x:Int))):=by
 intro G vs hg hv;obtain⟨v,m,rfl,h1,h2⟩:=cb.1 hv;rw[cG] at h2;subst h2;rw[bt.1 h1];exact(DM hx).mono fun v G' _ h=>bt.2 h
def KH{a k:Nat}(h:4294967296^k<=a):k<(dg a).length:=by
 have h1:=r5 a;rcases gW k (dg a).length with q|q
 ·exact q
 ·have:4294967296^(dg a).length<=4294967296^k:=bZ (by decide) q
  omega
def LM{v L:Nat}(hL:L=(dg v).length)(h1:1<=L):(dg v).getD (L-1) 0=v/4294967296^(L-1)/\0<v/4294967296^(L-1):=by
 have h:=Ca (jB v) (L-1);rw[sJ (by omega:(dg v).length<=L-1+1),b7,oK,dT] at h;have h2:=r5 v;rw[<-hL] at h2;rw[iY (show v<4294967296^(L-1+2) from dK h2 (bZ (by decide) (by omega))),oK,dT] at h;have h3:=pi (dO v).2.2 (by intro e;rw[e] at hL;simp at hL;omega);rw[b7,<-hL] at h3;exact⟨h.symm,Nat.div_pos h3 (dS (by decide))⟩
def BS{R n:Nat}(h1:1<=n)(h:R<4294967296^(n+1)):R/4294967296^(n-1)=(dg R).getD (n-1) 0+(dg R).getD n 0*4294967296:=by
 have e:=Ca (jB R) (n-1);rw[b7,show n-1+1=n by omega,iY (show R<4294967296^(n-1+2) by rwa [show n-1+2=n+1 by omega]),oK,dT,bS] at e;exact e
def U1{R v j L:Nat}(hL:L=(dg v).length)(h1:1<=L)(hR:R<v*4294967296^(j+1)):R/(v*4294967296^j)<=min (R/4294967296^(L+j-1)/(v/4294967296^(L-1))) 4294967295:=by
 have ht:=(LM hL h1).2;have hp:0<4294967296^j:=dS (by decide);have hv0:0<v:=by
  rcases fZ v with q|q
  ·subst q;simp at ht
  ·exact q
 have hvp:0<v*4294967296^j:=iU hv0 hp;refine Nat.le_min.2 ⟨?_,?_⟩
 ·rw[qT ht,qT (dS (by decide))]
  have h3:v/4294967296^(L-1)*4294967296^(L-1)<=v:=Nat.div_mul_le_self _ _;have h4:R/(v*4294967296^j)*(v*4294967296^j)<=R:=Nat.div_mul_le_self _ _;rw[show L+j-1=L-1+j by omega,eK]
  calc R/(v*4294967296^j)*(v/4294967296^(L-1))*(4294967296^(L-1)*4294967296^j)
    =R/(v*4294967296^j)*((v/4294967296^(L-1)*4294967296^(L-1))*4294967296^j):=by simp only[bL]
   _<=R/(v*4294967296^j)*(v*4294967296^j):=fX _ (bT _ h3)
   _<=R:=h4
 ·have:R/(v*4294967296^j)<4294967296:=by
   rw[jK hvp];rw[fV] at hR;rwa [bS,bL]
  omega
def zn{R V g:Nat}(hV:0<V)(h:R<V*g):R/V<g:=by
 rw[jK hV,bS];exact h
def T5{R V g:Nat}(hV:0<V)(h1:R/V<=g)(h2:V*g<=R):g=R/V:=by
 have:g<=R/V:=by rw[qT hV,bS];exact h2
 omega
def MI{R0 R v j g:Nat}{W:List Nat}(hj:j<W.length)(h:R0=R+dv (W.drop (j+1))*4294967296^(j+1)*v)(hv:0<v*4294967296^j)(hg:g=R/(v*4294967296^j)):
  R0=(R-v*4294967296^j*g)+dv ((W.set j g).drop j)*4294967296^j*v/\R-v*4294967296^j*g<v*4294967296^j:=by
 have h1:=pZ R (v*4294967296^j);have h2:=cN R hv;rw[<-hg] at h1;refine⟨?_,by omega⟩;rw[Nf hj,dQ,dQ,h,fV];have e:g*4294967296^j*v=v*4294967296^j*g:=by simp only[bL,kJ,bS]
 have e2:dv (W.drop (j+1))*(4294967296^j*4294967296)*v=dv (W.drop (j+1))*4294967296*4294967296^j*v:=by simp only[bL,kJ,bS]
 rw[e,e2];omega
def VG{a b s R:Nat}{D:Nat}(hR:R<b*2^s)(h:a*2^s=R+D*(b*2^s)):D=a/b/\R/2^s=a%b:=by
 have hp:0<2^s:=dS (by decide);have hb:0<b:=by
  rcases fZ b with q|q
  ·subst q;simp at hR
  ·exact q
 have h1:a=R/2^s+D*b:=by
  have:=congrArg (· /2^s) h;rw[Nat.mul_div_cancel _ hp,<-bL,Nat.add_mul_div_right _ _ hp] at this;exact this
 have h2:R/2^s<b:=by rw[jK hp];exact hR
 have h3:R/2^s+b*D=a:=by rw[bS b];exact h1.symm
 have:=(Nat.div_mod_unique hb).2 ⟨h3,h2⟩;exact⟨this.1.symm,this.2.symm⟩
def Tp{a b s:Nat}(hl:(dg b).length<=(dg a).length)(h2:1<=(dg b).length):a*2^s<b*2^s*4294967296^((dg a).length-(dg b).length+1):=by
 have h1:=r5 a;have h3:=pi (dO b).2.2 (by intro e;rw[e] at h2;simp at h2);rw[b7] at h3;have h4:4294967296^(dg a).length<=b*4294967296^((dg a).length-(dg b).length+1):=by
  rw[show(dg a).length=((dg b).length-1)+((dg a).length-(dg b).length+1) by omega,eK];rw[show(dg b).length-1+((dg a).length-(dg b).length+1)-(dg b).length+1=(dg a).length-(dg b).length+1 by omega];exact bT _ h3
 rw[pT];exact kQ (dK h1 h4) (dS (by decide))
def Gg(x j:Nat):x*2^(32*j)=x*4294967296^j:=by rw[oQ]
def TQ{R L j:Nat}(h:R<4294967296^(L+j+1))(h1:1<=L):R/4294967296^(L+j-1)<18446744073709551616:=by
 rw[jK (dS (by decide)),show(18446744073709551616:Nat)=4294967296^2 from J,<-eK];rwa [show 2+(L+j-1)=L+j+1 by omega]
def Xi{R v j L:Nat}(hL:L=(dg v).length)(hR:R<v*4294967296^(j+1)):R<4294967296^(L+j+1):=by
 have h:=r5 v;rw[<-hL] at h;rw[kZ,eK];exact dK hR (bT _ (nY h))
def OC{a b ia ib:Nat}[ha:BN a ia][hb:BN b ib](hi:ia<=500000000)(hj:ib<=500000000)(h2:1<=(dg b).length)(hl:(dg b).length<=(dg a).length):PF GB prog 342 [dN a,dN b] (.tp [dN (a/b),dN (a%b)]):=by
 have hla:=eO (dg a);have hlb:=eO (dg b);have hba:=lE ha.h;have hba':(dg a).length<=20000000:=by omega
 refine fn func342 J J ntmps342 J J (fun C=>?_);refine ix _ J (fk (k:=(dg b).length-1) (by omega) (by omega)) J<|cl (fu:=⟨0⟩) J (XJ (fP b ((dg b).length-1))) J<|?_;obtain⟨s,hs⟩: ∃s:Nat,s=32-bl ((dg b).getD ((dg b).length-1) 0):=⟨_,rfl⟩;have hs32:s<=32:=by omega
 refine ak 22 (.d (vI (s:Nat))) J (by show FX.d (.v (.int _ _))= .d (.v (.int _ _));congr 3;have:=l6.2 (show(dg b).getD ((dg b).length-1) 0<2^32 from fP b _);omega) ?_;refine gx J<|cl J (AQ (a:=b) (k:=s) (ia:=ib) (by omega) (by omega)) J<|cl (fu:=⟨0⟩) J (AQ (a:=a) (k:=s) (ia:=ia) (by omega) (by omega)) J<|?_;obtain⟨v,hv⟩: ∃v,v=b*2^s:=⟨_,rfl⟩;obtain⟨R0,hR0⟩: ∃R0,R0=a*2^s:=⟨_,rfl⟩;refine ak 25 (.d (dN v)) J (by rw[hv]) ?_;refine ak 28 (.d (dN R0)) J (by rw[hR0]) ?_;obtain⟨L,hL⟩: ∃L,L=(dg v).length:=⟨_,rfl⟩;have hlv:((dg v).map dU).length=L:=by rw[eO,hL]
 have hps:2^s<=2^32:=bZ (by decide) hs32;have hpp:0<2^s:=dS (by decide);have hst:=Tp (a:=a) (b:=b) (s:=s) hl h2;rw[<-hv,<-hR0] at hst;have hvb:v<2^(ib+32):=by rw[hv,eK];exact lN hb.h hps (by decide)
 have hRb:R0<2^(ia+32):=by rw[hR0,eK];exact lN ha.h hps (by decide)
 have hbp:0<b:=gT (fun q=>by subst q;rw[xd] at h2;simp at h2);have hvp:0<v:=hv▸iU hbp hpp;have hLp:1<=L:=by rw[hL];exact KH (k:=0) (by rw[qX];exact hvp)
 have htop:=LM hL hLp;haveI hvB:BN v (ib+32):=⟨hvb⟩;have hLb:=lE hvb;have hLb':L<=20000000:=by omega
 have htl:=fP v (L-1);refine gx (fu:=⟨9⟩) J<|?_;refine ak 31 (.d (vI (L:Nat))) J (by rw[hlv];rfl) ?_;refine gx J<|ix (fu:=⟨2⟩) _ J (fk (k:=L-1) (by omega) (by omega)) J<|?_;refine ak 35 (.d (.v (.int .u64 (v/4294967296^(L-1):Nat)))) J (by rw[htop.1]) ?_;rw[htop.1] at htl;refine gx (fu:=⟨11⟩) J<|?_;obtain⟨m,hm⟩: ∃m,m=(dg a).length-(dg b).length+1:=⟨_,rfl⟩;rw[<-hm] at hst;have hrl:(List.replicate ((m:Nat):Int).toNat (DV.v (.int .u32 0))).length=m:=by rw[aV,bM]
 refine ak 41 (.d (vI (m:Nat))) J (by show FX.d (.v (.int _ _))= .d (.v (.int _ _));congr 3;omega) ?_;refine gx J<|mk ((List.replicate m 0).map dU) J J (by rw[<-tJ];rfl) J<|?_;refine lp (X:=List Nat×Nat×Nat) (fun⟨W,R,k⟩=>[(6, .d (vI (s:Nat))),(7, .d (dN v)),(8, .d (dN R)),(9, .d (.v (.int .u64 (v/4294967296^(L-1):Nat)))),(10, .rw 42),(11, .d (vI ((k:Nat)-1)))]) (fun⟨W,R,k⟩=>[(42,some (.b 366 1 (W.map dU) true))]) (fun⟨W,R,k⟩=>W.length=m/\bj W/\k<=m/\R0=R+dv (W.drop k)*4294967296^k*v/\R<v*4294967296^k/\R<=R0) (fun⟨W,R,k⟩=>k) ⟨List.replicate m 0,R0,m⟩ J ⟨by simp, .replicate _,aL _,by simp[dv],hst,aL _⟩ (fun _=>J) (fun⟨W,R,k⟩ hk=>?_);dsimp only at hk⊢;obtain⟨h1,h2',h3,h4,h5,h6⟩:=hk;have hlw:=eO W;refine br (fu1:=⟨10⟩) J J J (fun hc47=>?_) (fun hc47=>?_)
 .
  obtain⟨j,rfl⟩: ∃j,k=j+1:=⟨k-1,by omega⟩;have hvj:0<v*4294967296^j:=iU hvp (dS (by decide));have hge:=U1 hL hLp h5;have hlen:=Xi hL h5;have hlr:((dg R).map dU).length=(dg R).length:=eO _;haveI hRB:BN R (ia+32):=⟨by omega⟩;have hq32:R/(v*4294967296^j)<4294967296:=by omega
  have hz1:=Int.natCast_nonneg (R/4294967296^(L+j-1));have hz2:=Int.natCast_nonneg (R/4294967296^(L+j-1)/(v/4294967296^(L-1)));refine ak 11 (.d (vI (j:Nat))) J (by show FX.d (.v (.int _ _))= .d (.v (.int _ _));congr 3;omega) ?_;refine mg (fu:=⟨6⟩) (hv:=fun _ _=>by simp only[ah];exact⟨(by omega),(by have:=TQ hlen hLp;omega),(by omega)⟩) (X:=Unit) (fun _=>[(6, .d (vI (s:Nat))),(7, .d (dN v)),(8, .d (dN R)),(9, .d (.v (.int .u64 (v/4294967296^(L-1):Nat)))),(10, .rw 42),(11, .d (vI (j:Nat))),(12, .d (.v (.int .u64 (R/4294967296^(L+j-1):Nat))))]) (fun _=>[(42,some (.b 366 1 (W.map dU) true))]) (fun _=>True) [6,7,8,9,10,11,12] [42] rfl ?_ (fun _=>J) (fun _ hm=>?_)
  .
   refine gx (fu:=⟨4⟩) J<|?_;refine ak 51 (.d (vI (L:Nat))) J (by rw[hlv];rfl) ?_;refine gx (fu:=⟨2⟩) J<|?_;refine ak 53 (.d (vI (L+j:Nat))) J (by show FX.d (.v (.int _ _))= .d (.v (.int _ _));congr 3) ?_;refine gx (fu:=⟨8⟩) J<|?_;refine ak 56 (.d (vI ((dg R).length:Nat))) J (by rw[hlr];rfl) ?_;refine gx J<|?_;refine br (fu2:=⟨6⟩) J J J (fun hc57=>?_) (fun hc57=>?_)
   .
    have hd0:=fP R (L+j-1);have hd1:=fP R (L+j);refine ix (hv:=by simp only[ah];exact⟨⟨by omega,(by decide)⟩,by omega⟩) _ J (fk (k:=L+j) (by omega) (by omega)) J<|ix (fu:=⟨3⟩) _ J (fk (k:=L+j-1) (by omega) (by omega)) J<|?_;refine ak 70 (.d (.v (.int .u64 ((dg R).getD (L+j-1) 0+(dg R).getD (L+j) 0*4294967296:Nat)))) J (congrArg (fun z:Nat=>FX.d (.v (.int .u64 (z:Int)))) (by rw[oA _ 32 (by decide) (by show _*4294967296<_;omega) J,BitVec.or_comm];exact vD 64 ((dg R).getD (L+j-1) 0) ((dg R).getD (L+j) 0) 32 hd0 (by show _+_*4294967296<18446744073709551616;omega))) ?_;refine gx J<|?_;refine ak 12 (.d (.v (.int .u64 (R/4294967296^(L+j-1):Nat)))) J (by rw[BS (by omega) hlen]) ?_;exact at_ () trivial
   .
    refine ak 74 (.d (vI ((dg R).length:Nat))) J (by rw[hlr];rfl) ?_;refine gx J<|?_;refine br J J J (fun hc75=>?_) (fun hc75=>?_)
    .
     have hd0:=fP R (L+j-1);refine ix _ J (fk (k:=L+j-1) (by omega) (by omega)) J<|?_;refine ak 12 (.d (.v (.int .u64 (R/4294967296^(L+j-1):Nat)))) J (by rw[BS (by omega) hlen,sJ (by omega:(dg R).length<=L+j),kL,dT]) ?_;exact at_ () trivial
    .
     refine ak 12 (.d (.v (.int .u64 (R/4294967296^(L+j-1):Nat)))) J (by rw[BS (by omega) hlen,sJ (by omega:(dg R).length<=L+j),sJ (by omega:(dg R).length<=L+j-1)];rfl) ?_;exact at_ () trivial
  .
   obtain⟨g0,hg0'⟩: ∃g0,g0=min (R/4294967296^(L+j-1)/(v/4294967296^(L-1))) 4294967295:=⟨_,rfl⟩;rw[<-hg0'] at hge;have hg0:=hge;have hg1:g0<=4294967295:=by omega
   refine ak 85 (.d (.v (.int .u64 (g0:Nat)))) J (by show FX.d (.v (.int _ _))= .d (.v (.int _ _));congr 3;rw[<-oU];split<;>omega) ?_;refine gx J<|cl J (pH (u:=g0) (by omega)) J<|cl (fu:=⟨2⟩) J (tw (ia:=ib+32) (ib:=32) (hb:=⟨by show _<4294967296;omega⟩) (by omega) (by decide)) J<|?_;refine ak 91 (.d (vI (32*j:Nat))) J (by show FX.d (.v (.int _ _))= .d (.v (.int _ _));congr 3) ?_;refine gx J<|cl (fu:=⟨0⟩) J (AQ (k:=32*j) (ia:=ib+64) (ha:=⟨by rw[show ib+64=ib+32+32 by omega,eK];exact lL hvb (by show _<4294967296;omega)⟩) (by omega) (by omega)) J<|?_;refine ak 92 (.d (dN (v*4294967296^j*g0))) J (by rw[Gg,pT]) ?_;refine gx J<|?_;refine lp (X:=Nat) (fun g=>[(6, .d (vI (s:Nat))),(7, .d (dN v)),(8, .d (dN R)),(9, .d (.v (.int .u64 (v/4294967296^(L-1):Nat)))),(10, .rw 42),(11, .d (vI (j:Nat))),(14, .d (.v (.int .u64 (g:Nat)))),(15, .d (dN (v*4294967296^j*g)))]) (fun g=>[(42,some (.b 366 1 (W.map dU) true))]) (fun g=>R/(v*4294967296^j)<=g/\g<=4294967295) (fun g=>g) g0 J ⟨hg0,by omega⟩ (fun _=>J) (fun g hk=>?_);obtain⟨g1,g2⟩:=hk;have hlw:=eO W;refine cl J (xH (a:=v*4294967296^j*g) (b:=R) (by have:=A3 (a:=v*4294967296^j*g) (k:=L+j+1) (by have h1:=r5 v;rw[<-hL] at h1;rw[fV,eK];exact lL (kQ h1 (dS (by decide))) (by omega));omega) (by have:=A3 hlen;omega)) J<|?_;refine br (fu1:=⟨7⟩) (v1:=fun hc96=>by simp only[ah];exact(by have h:=zn hvj (w4.1 hc96);have h1:1<=g:=fT (cV _) h;omega)) (fu2:=⟨11⟩) J J J (fun hc96=>?_) (fun hc96=>?_)
   .
    have hgd:=zn hvj (w4.1 hc96);have hg1p:1<=g:=fT (cV _) hgd;refine ak 98 (.d (.v (.int .u64 ((g-1:Nat):Int)))) J (by show FX.d (.v (.int _ _))= .d (.v (.int _ _));congr 3;omega) ?_;refine gx J<|cl J (pH (u:=g-1) (by omega)) J<|cl (fu:=⟨2⟩) J (tw (ia:=ib+32) (ib:=32) (hb:=⟨by show _<4294967296;omega⟩) (by omega) (by decide)) J<|?_;refine ak 104 (.d (vI (32*j:Nat))) J (by show FX.d (.v (.int _ _))= .d (.v (.int _ _));congr 3) ?_;refine gx J<|cl (fu:=⟨0⟩) J (AQ (k:=32*j) (ia:=ib+64) (ha:=⟨by rw[show ib+64=ib+32+32 by omega,eK];exact lL hvb (by show _<4294967296;omega)⟩) (by omega) (by omega)) J<|?_;refine ak 105 (.d (dN (v*4294967296^j*(g-1)))) J (by rw[Gg,pT]) ?_;refine gx J<|?_;exact at_ (g-1) ⟨⟨by have h:=zn hvj (w4.1 hc96);omega,by omega⟩,(by have:=zn hvj (w4.1 hc96);omega)⟩
   .
    have hgq:=T5 hvj g1 (qL fun q=>hc96 (w4.2 q));refine ak 109 (.d (dU g)) J (by show FX.d (.v (.int _ _))= .d (.v (.int _ _));congr 3;omega) ?_;refine gx J<|sb _ ((W.set j (R/(v*4294967296^j))).map dU) J (fk (k:=j) (by omega) (by omega)) J (by(rw[<-hgq,bM,<-rC])<;>rfl) J<|?_;refine cl (fu:=⟨0⟩) J (Fw (a:=R) (b:=v*4294967296^j*g) (ia:=ia+32) (by rw[hgq];exact Nat.mul_div_le _ _) (by omega)) J<|?_;refine ak 113 (.d (dN (R-v*4294967296^j*(R/(v*4294967296^j))))) J (by rw[hgq]) ?_;refine gx J<|?_;exact at_ ⟨W.set j (R/(v*4294967296^j)),R-v*4294967296^j*(R/(v*4294967296^j)),j⟩ (by dsimp only;exact⟨⟨by simpa using h1,h2'.set _ (by omega),by omega,(MI (by omega) h4 hvj J).1,(MI (by omega) h4 hvj J).2,by omega⟩,(by omega)⟩)
 .
  obtain rfl:k=0:=by omega
  rw[qX,jS] at h5;rw[qX,jS,iJ,hR0,hv] at h4;rw[hv] at h5;have hend:=VG h5 h4;haveI hRB:BN R (ia+32):=⟨by omega⟩;refine fz 42 J J<|cl J (qh (ds:=W) (by omega)) J<|cl J (TM (a:=R) (k:=s) (ia:=ia+32) (by omega) (by omega)) J<|?_;exact rz J (by show DV.tp [fe _,dN _]= .tp [dN _,dN _];rw[qj h2' hend.1,hend.2])
def S4{a b:Nat}(h:b<=a):(dg b).length<=(dg a).length:=A3 (fT h (r5 a))
def Dd{a b ia ib:Nat}[ha:BN a ia][hb:BN b ib](hb0:0<b)(hi:ia<=500000000:=by decide)(hj:ib<=500000000:=by decide):PF GB prog 247 [dN a,dN b] (.tp [dN (a/b),dN (a%b)]):=by
 have hla:=eO (dg a);have hlb:=eO (dg b);have hba:=lE ha.h;have hbb:=lE hb.h;have hba':(dg a).length<=20000000:=by omega
 have hbb':(dg b).length<=20000000:=by omega
 have hlb1:1<=(dg b).length:=KH (k:=0) (by rw[qX];exact hb0);refine fn (fu:=⟨7⟩) func247 J J ntmps247 J J (fun C=>?_);refine mg (X:=Unit) (fun _=>[(0, .d (dN a)),(1, .d (dN b))]) (fun _=>[]) (fun _=>True) [0,1] [] rfl ?_ (fun _=>J) (fun _ hm=>?_)
 .
  refine gx J<|cl J (zy (a:=a) (ia:=ia) (by omega)) J<|?_;refine bd (fu1:=⟨0⟩) J J J (fun hc18=>?_) (fun hc18=>?_)
  .
   refine ak 6 (.d (.v (.int .u64 (a:Nat)))) J (by rw[if_pos hc18]) ?_;refine gx J<|cl J (zy (a:=b) (ia:=ib) (by omega)) J<|?_;refine bd (fu1:=⟨0⟩) J J J (fun hc24=>?_) (fun hc24=>?_)
   .
    refine ak 8 (.d (.v (.int .u64 (b:Nat)))) J (by rw[if_pos hc24]) ?_;have hdl:=jY a b;have hml:=Nat.mod_le a b;refine gx (hv:=by simp only[ah];exact⟨(by omega),(by omega),(by omega)⟩) J<|cl (hv:=by simp only[ah];exact⟨(by omega),(by omega)⟩) J (pH (u:=a/b) (by omega)) J<|cl J (pH (u:=a%b) (by omega)) J<|?_;exact rz J J
   .
    exact at_ () trivial
  .
   exact at_ () trivial
 .
  refine cl J (xH (by omega) (by omega)) J<|?_;refine br J J J (fun hc36=>?_) (fun hc36=>?_)
  .
   have hab:=uM.1 hc36;refine AI J J<|ap _ J J (tL _) J<|?_;refine n5 39 J ?_;exact rz J (by show DV.tp [_, .sl ([]++_)]= .tp [_,_];rw[iY hab,dY hab,Ez];rfl)
  .
   have hab:b<=a:=qL fun q=>hc36 (uM.2 q);have hlab:(dg b).length<=(dg a).length:=S4 hab;refine br (fu1:=⟨4⟩) J J J (fun hc42=>?_) (fun hc42=>?_)
   .
    have hb1:b<4294967296:=by have:=r5 b;rw[show(dg b).length=1 by omega] at this;omega
    have hbd:(dg b).getD 0 0=b:=uN (by omega);refine ak 44 (.d (vI ((dg a).length:Nat))) J (by rw[hla];rfl) ?_;refine gx J<|mk (fu:=⟨13⟩) ((List.replicate (dg a).length 0).map dU) J J (by rw[<-tJ];rfl) J<|?_;refine ak 47 (.d (vI ((dg a).length:Nat))) J (by rw[hla];rfl) ?_;refine gx J<|?_;refine lp (X:=List Nat×Nat) (fun⟨W,k⟩=>[(0, .d (dN a)),(1, .d (dN b)),(10, .rw 45),(11, .d (dU (dv ((dg a).drop k)%b))),(12, .d (vI ((k:Nat)-1)))]) (fun⟨W,k⟩=>[(45,some (.b 366 1 (W.map dU) true))]) (fun⟨W,k⟩=>W.length=(dg a).length/\bj W/\k<=(dg a).length/\dv (W.drop k)=dv ((dg a).drop k)/b) (fun⟨W,k⟩=>k) ⟨List.replicate (dg a).length 0,(dg a).length⟩ J ⟨by simp, .replicate _,aL _,by simp[dv]⟩ (fun _=>J) (fun⟨W,k⟩ hk=>?_) (hF:=(by refine⟨J,J,J,mA J (by simp[dv,dU]),mA J (by simp[vI]),?_⟩;repeat (first|exact trivial|refine And.intro J ?_)))
    try dsimp only at hk⊢
    obtain⟨h1,h2,h3,h4⟩:=hk;have hlw:=eO W;refine br (fu1:=⟨0⟩) J J J (fun hc50=>?_) (fun hc50=>?_)
    .
     obtain⟨k,rfl⟩: ∃j,k=j+1:=⟨k-1,by omega⟩;have hsi:=Tb hb0 (by omega) h1 h4;have hrm:=cN (dv ((dg a).drop (k+1))) hb0;have hdk:=fP a k;have hqd:(dv ((dg a).drop (k+1))%b*4294967296+(dg a).getD k 0)/b<4294967296:=by rw[jK hb0];have:=fX 4294967296 (show dv ((dg a).drop (k+1))%b+1<=b from hrm);omega
     refine ak 12 (.d (vI (k:Nat))) J (by show FX.d (.v (.int _ _))= .d (.v (.int _ _));congr 3;omega) ?_;refine gx J<|ix _ J (fk (k:=k) (by omega) (by omega)) J<|ix _ J (fk (k:=0) J (by omega)) J<|cl J (SZ (h:=dv ((dg a).drop (k+1))%b) (l:=(dg a).getD k 0) (y:=(dg b).getD 0 0) (by omega) hdk (by omega)) J<|?_;refine sb (hv:=by simp only[ah];exact⟨by kernel_rfl,by omega⟩) _ ((W.set k ((dv ((dg a).drop (k+1))%b*4294967296+(dg a).getD k 0)/b)).map dU) J (fk (k:=k) (by omega) (by omega)) J (by(rw[hbd,bM,<-rC])<;>rfl) J<|?_;exact at_ ⟨W.set k ((dv ((dg a).drop (k+1))%b*4294967296+(dg a).getD k 0)/b),k⟩ (by dsimp only;exact⟨⟨by simpa using h1,h2.set _ hqd,by omega,hsi.1⟩,(by omega)⟩) (by refine⟨J,J,J,mA J (by rw[hsi.2,hbd]),mA J (by first|(simp[vI];done)|(simp[vI];omega)),?_⟩;repeat (first|exact trivial|refine And.intro J ?_))
    .
     refine fz 45 J J<|cl J (qh (ds:=W) (by omega)) J<|rf J J<|cl J (qh (ds:=[dv ((dg a).drop k)%b]) (by simp)) J<|?_;exact rz rfl (by show DV.tp [fe _,fe _]= .tp [_,_];obtain rfl:k=0:=(by omega);rw[iJ,iJ,b7] at h4;rw[iJ,b7];rw[qj h2 h4,qj (.cons (by have:=cN a hb0;omega) .nil) (n:=a%b) (by simp[dv])])
   .
    refine cl J (OC (by omega) (by omega) hlb1 hlab) J<|?_;exact rz J J
def Je(x y:Nat):Nat.gcd y (x%y)=Nat.gcd x y:=by rw[gS x y,rM y x,gS]
def Of{a b ia ib:Nat}[ha:BN a ia][hb:BN b ib](hi:ia<=240000000:=by decide)(hj:ib<=240000000:=by decide):PF GB prog 186 [dN a,dN b] (dN (Nat.gcd a b)):=by
 refine fn (fu:=⟨6⟩) func186 J J ntmps186 J J (fun C=>?_);refine mg (X:=Unit) (fun _=>[(0, .d (dN a)),(1, .d (dN b))]) (fun _=>[]) (fun _=>True) [0,1] [] rfl ?_ (fun _=>J) (fun _ hm=>?_)
 .
  refine gx J<|cl J (zy (a:=a) (ia:=ia) (by omega)) J<|?_;refine bd (fu1:=⟨0⟩) J J J (fun hc16=>?_) (fun hc16=>?_)
  .
   refine ak 5 (.d (.v (.int .u64 (a:Nat)))) J (by rw[if_pos hc16]) ?_;refine gx J<|cl J (zy (a:=b) (ia:=ib) (by omega)) J<|?_;refine bd (fu1:=⟨0⟩) J J J (fun hc22=>?_) (fun hc22=>?_)
   .
    refine ak 7 (.d (.v (.int .u64 (b:Nat)))) J (by rw[if_pos hc22]) ?_;refine gx J<|?_;refine lp (X:=Nat×Nat) (fun⟨x,y⟩=>[(5, .d (.v (.int .u64 (x:Nat)))),(7, .d (.v (.int .u64 (y:Nat))))]) (fun⟨x,y⟩=>[]) (fun⟨x,y⟩=>x<18446744073709551616/\y<18446744073709551616/\Nat.gcd x y=Nat.gcd a b) (fun⟨x,y⟩=>y) ⟨a,b⟩ J ⟨hc16,hc22,J⟩ (fun _=>J) (fun⟨x,y⟩ hk=>?_)
    try dsimp only at hk⊢
    obtain⟨h1,h2,h3⟩:=hk;refine br (v1:=fun hc24=>by simp only[ah];exact⟨⟨(by omega),(by omega)⟩,by kernel_rfl⟩) J J J (fun hc24=>?_) (fun hc24=>?_)
    .
     exact at_ ⟨y,x%y⟩ (by dsimp only;exact⟨⟨h2,by have:=cN x (show 0<y by omega);omega,by rw[Je,h3]⟩,(by exact cN _ (by omega))⟩)
    .
     refine cl J (pH (u:=x) h1) J<|?_;exact rz J (by show dN x=_;rw[<-h3,show y=0 by omega,lM])
   .
    exact at_ () trivial
  .
   exact at_ () trivial
 .
  refine lp (fu:=⟨5⟩) (X:=Nat×Nat) (fun⟨x,y⟩=>[(0, .d (dN x)),(1, .d (dN y))]) (fun⟨x,y⟩=>[]) (fun⟨x,y⟩=>x<2^(ia+ib)/\y<2^(ia+ib)/\Nat.gcd x y=Nat.gcd a b) (fun⟨x,y⟩=>y) ⟨a,b⟩ J ⟨(ha.mono (by omega)).h,(hb.mono (by omega)).h,J⟩ (fun _=>J) (fun⟨x,y⟩ hk=>?_)
  try dsimp only at hk⊢
  obtain⟨h1,h2,h3⟩:=hk;have hly:=eO (dg y);haveI hx':BN x (ia+ib):=⟨h1⟩;haveI hy':BN y (ia+ib):=⟨h2⟩;refine ak 32 (.d (vI ((dg y).length:Nat))) J (by rw[hly];rfl) ?_;refine gx J<|?_;refine br J J J (fun hc33=>?_) (fun hc33=>?_)
  .
   have hy0:0<y:=gT fun q=>by subst q;rw[xd] at hc33;simp at hc33
   refine cl J (Dd (a:=x) (b:=y) (ia:=ia+ib) (ib:=ia+ib) hy0 (by omega) (by omega)) J<|?_;exact at_ ⟨y,x%y⟩ (by dsimp only;exact⟨⟨h2,by have:=cN x hy0;omega,by rw[Je,h3]⟩,(by exact cN _ hy0)⟩)
  .
   have hy0:y=0:=ve.1 (by omega);have hlx:=lE h1;have hmx:=eO (dg x);refine AI J J<|ap _ J J (tL _) J<|?_;refine n5 44 J ?_;exact rz J (by show DV.sl ([]++_)=_;rw[<-h3,hy0,lM];rfl)
def IE(neg:Bool)(m:Nat):eI (zv neg m)= .ag [.v (.bool (neg&&decide (0<m))),dN m]:=by unfold eI;rw[nA,Mb]
def P8(z:Int):zv (!decide (z<0)) z.natAbs= -z:=by
 unfold zv;by_cases h:z<0<;>simp[h]<;>omega
def Xm(a b:Int):zv (!(decide (a<0)==decide (b<0))) (a.natAbs*b.natAbs)=a*b:=by
 have h:=MN (decide (a<0)) (decide (b<0)) a.natAbs b.natAbs;rw[km,km] at h;exact h
def mF{neg:Bool}{m:Nat}:PF GB prog 217 [.v (.bool neg),dN m] (eI (zv neg m)):=by
 have hl:=eO (dg m);have hz:= @ve m;refine fn func217 J J ntmps217 J J (fun C=>?_);refine l7 6 J J J (fun hg6=>?_) (fun hg6=>?_)
 .
  exact rz J (by rw[IE,hg6];show DV.ag [.v (.bool _),_]= .ag [.v (.bool _),_];congr 4;rw[Bool.true_and];exact decide_eq_decide.2 (by omega))
 .
  exact rz J (by rw[IE,hg6];rfl)
end Go.Sx
end
section
namespace Go.Sx
open Go
instance:DecidableEq ab:=fun x y=>decidable_of_iff (x.a=y.a/\x.b=y.b/\x.c=y.c) (by
 cases x;cases y;simp)
structure aB where
 lo:Rat
 hi:Rat
 nl:Bool
 nh:Bool
def aB.all:aB:=⟨0,0,true,true⟩
def aB.empty(v:aB):Bool:=!v.nl&&(!v.nh&&decide (0<=bO v.lo v.hi))
def aB.meet(v w:aB):aB:=
 ⟨if v.nl then w.lo else if w.nl then v.lo else if v.lo<w.lo then w.lo else v.lo,
  if v.nh then w.hi else if w.nh then v.hi else if w.hi<v.hi then w.hi else v.hi,v.nl&&w.nl,v.nh&&w.nh⟩
def aB.sample(v:aB):Rat:=if v.nl&&v.nh then 0 else if v.nl then v.hi-1 else if v.nh then v.lo+1 else(v.lo+v.hi)*mkRat 1 2
def ab.cutK(l m:ab):Rat:=m.nor.dot l.dir
def ab.cutC(l m:ab):Rat:=m.value l.base
def ab.cutV(l:ab)(v:aB)(m:ab):aB:=
 if Int.sign (l.cutK m).num=0 then v
 else if Int.sign (l.cutK m).num=1 then v.meet ⟨-(l.cutC m/l.cutK m),0,false,true⟩
 else v.meet ⟨0, -(l.cutC m/l.cutK m),true,false⟩
def ab.cutB(l:ab)(v:aB)(m:ab):Bool:=
 if Int.sign (l.cutK m).num=0 then decide (0<Int.sign (l.cutC m).num) else !(l.cutV v m).empty
structure aP where
 l:ab
 v:aB
abbrev bw:=List aP
def pG(l:ab):bw->aB->Option aB
 |[],v=>some v
 |s::t,v=>if l.cutB v s.l then pG l t (l.cutV v s.l) else none
def pg(c:bw)(l:ab):Option aB:=pG l c aB.all
def vN(l:ab)(s:aP):Int:=Int.sign (l.value (s.l.at s.v.sample)).num
def sC(l:ab):bw->Int
 |[]=> -1
 |s::t=>if vN l s≠0 then vN l s else if s.l=l then 1 else sC l t
def C6(c:bw)(l:ab):Int:=if(pg c l).isSome then 0 else sC l c
def aa.half(p:aa):Int:=
 if 0<Int.sign p.y.num\/(Int.sign p.y.num=0/\0<Int.sign p.x.num) then 1 else if Int.sign p.y.num<0\/Int.sign p.x.num<0 then 2 else 0
def cA(u v:aa):Int:=if u.half<v.half then-1 else if v.half<u.half then 1 else-(Int.sign (u.cross v).num)
def nB(l:ab):bw->bw
 |[]=>[]
 |s::t=>if s.l.cutB s.v l then⟨s.l,s.l.cutV s.v l⟩::nB l t else nB l t
def xI(p:Nat->Bool)(i j:Nat):Nat:=
 if h:i<j then(if p ((i+j)/2) then xI p ((i+j)/2+1) j else xI p i ((i+j)/2)) else i
termination_by j-i
def EM(c:bw)(l:ab)(i:Nat):Bool:=match c[i]? with
 |some s=>decide (cA s.l.dir l.dir<0)
 |none=>false
def sj(c:bw)(l:ab)(v:aB):bw:=
 c.take (xI (EM c l) 0 c.length)++⟨l,v⟩::c.drop (xI (EM c l) 0 c.length)
def gi(c:bw)(l:ab):bw:=match pg c l with
 |some v=>sj (nB l c) l v
 |none=>c
def e7(c:bw)(l:ab):Bool:=match pg c l with
 |some _=>true
 |none=>decide (0<C6 c l)
inductive Tr where
 |leaf (b:Bool)
 |node (l:ab) (x y:Tr)
def Tr.isLeaf:Tr->Bool
 | .leaf _=>true
 | .node .. =>false
def Tr.code:Tr->Bool
 | .leaf b=>b
 | .node .. =>false
def Tr.depth:Tr->Nat
 | .leaf _=>0
 | .node _ x y=>1+max x.depth y.depth
def Tr.size:Tr->Nat
 | .leaf _=>0
 | .node _ x y=>1+x.size+y.size
def Tr.joinQ(l:ab)(x y:Tr):Tr:=if x.isLeaf&&(y.isLeaf&&(x.code==y.code)) then x else .node l x y
def Tr.restrict:Tr->bw->Tr
 | .leaf b,_=> .leaf b
 | .node l x y,c=>if !e7 c l.rev then x.restrict c else if !e7 c l then y.restrict c else joinQ l (x.restrict (gi c l)) (y.restrict (gi c l.rev))
def Tr.parts:Tr->bw->List (Bool×bw)
 | .leaf b,c=>[(b,c)]
 | .node l x y,c=>(if e7 c l then x.parts (gi c l) else [])++(if e7 c l.rev then y.parts (gi c l.rev) else [])
def Tr.all(p:ab->Prop):Tr->Prop
 | .leaf _=>True
 | .node l x y=>p l/\x.all p/\y.all p
def Tr.good:Tr->Prop
 | .leaf _=>True
 | .node _ x y=> ¬(x.isLeaf=true/\y.isLeaf=true/\x.code=y.code)/\x.good/\y.good
structure NQ where
 l:ab
 a:Int
 b:Int
def yn(b:Bool):Int:=if b then-2 else-1
def Tr.num:Tr->Nat->Int
 | .leaf b,_=>yn b
 | .node ..,n=>n
def Tr.wr:Tr->Nat->List NQ
 | .leaf _,_=>[]
 | .node l x y,n=>⟨l,x.num (n+1),y.num (n+1+x.size)⟩::x.wr (n+1)++y.wr (n+1+x.size)
def Tr.joinQ_cases(l:ab)(x y:Tr):(Tr.joinQ l x y=x/\x.isLeaf=true)\/(Tr.joinQ l x y= .node l x y/\ ¬(x.isLeaf=true/\y.isLeaf=true/\x.code=y.code)):=by
 unfold Tr.joinQ;split
 ·rename_i h
  simp at h;exact .inl ⟨J,h.1⟩
 ·rename_i h
  simp at h;exact .inr ⟨J,fun⟨a,b,c⟩=>h a b c⟩
def Tr.restrict_all(p:ab->Prop): ∀(t:Tr) (c:bw),t.all p->(t.restrict c).all p
 | .leaf b,c,_=>trivial
 | .node l x y,c,h=>by
  obtain⟨h0,h1,h2⟩:=h;unfold Tr.restrict;split
  ·exact x.restrict_all p c h1
  ·split
   ·exact y.restrict_all p c h2
   ·rcases Tr.joinQ_cases l (x.restrict (gi c l)) (y.restrict (gi c l.rev)) with⟨h,_⟩|⟨h,_⟩
    ·rw[h];exact x.restrict_all p _ h1
    ·rw[h];exact⟨h0,x.restrict_all p _ h1,y.restrict_all p _ h2⟩
def kE(l:ab)(p:aa):l.value p=(l.a:Rat)*p.x+(l.b:Rat)*p.y+(l.c:Rat):=rfl
def m8(l:ab)(p:aa):l.rev.value p= -l.value p:=by
 rw[kE,kE];have h1:((l.rev.a:Int):Rat)= -(l.a:Rat):=(Gb l.a).symm;have h2:((l.rev.b:Int):Rat)= -(l.b:Rat):=(Gb l.b).symm;have h3:((l.rev.c:Int):Rat)= -(l.c:Rat):=(Gb l.c).symm;rw[h1,h2,h3];grind
def aF(q p:aa)(e:Rat):aa:=⟨q.x+e*(p.x-q.x),q.y+e*(p.y-q.y)⟩
def l8(l:ab)(q p:aa)(e:Rat):l.value (aF q p e)=l.value q+e*(l.value p-l.value q):=by
 simp only[kE,aF];grind
def bc(q u:aa)(e:Rat):aa:=⟨q.x+e*u.x,q.y+e*u.y⟩
def ic(l:ab)(q u:aa)(e:Rat):l.value (bc q u e)=l.value q+e*l.nor.dot u:=by
 simp only[kE,bc,ab.nor,aa.dot];grind
def bv{a b:Rat}(ha:0<a)(hb:0<b):0<a*b:=Rat.mul_pos ha hb
def bG{a b:Rat}(ha:0<=a)(hb:0<=b):0<=a*b:=nK ha hb
def oD(a:Rat):0<=a*a:=by
 by_cases h:0<=a
 ·exact bG h h
 ·have:=bG (a:= -a) (b:= -a) (by grind) (by grind)
  grind
def fi{s k:Rat}(hk:0<k):0<s*k↔0<s:=by
 constructor
 ·intro h
  by_cases hs:0<s
  ·exact hs
  ·have:=bG (a:= -s) (b:=k) (by grind) (by grind)
   grind
 ·intro h;exact bv h hk
def iC{s k:Rat}(hk:0<k):0<=s*k↔0<=s:=by
 constructor
 ·intro h
  by_cases hs:0<=s
  ·exact hs
  ·have:=bv (a:= -s) (b:=k) (by grind) hk
   grind
 ·intro h;exact bG h (by grind)
def JP{A B u v:Rat}(h0:0<=A)(h1:0<=A+v*B)(hu:0<=u)(huv:u<=v):0<=A+u*B:=by
 by_cases hB:0<=B
 ·have:=bG hu hB;grind
 ·have:=bG (a:=v-u) (b:= -B) (by grind) (by grind)
  grind
def ab.Ne(l:ab):Prop:= ¬(l.a=0/\l.b=0)
def ab.ok.ne{l:ab}(h:l.ok):l.Ne:=h.1
def p9{l:ab}(h:l.Ne):0<l.nor.dot l.nor:=by
 show 0<(l.a:Rat)*l.a+(l.b:Rat)*l.b;have h1:=oD (l.a:Rat);have h2:=oD (l.b:Rat);by_cases ha:l.a=0
 ·have hb:l.b≠0:=fun hb=>h ⟨ha,hb⟩
  have hb':(l.b:Rat)≠0:=fun e=>hb (iL.1 e);have:(l.b:Rat)*l.b≠0:=by grind
  grind
 ·have ha':(l.a:Rat)≠0:=fun e=>ha (iL.1 e)
  have:(l.a:Rat)*l.a≠0:=by grind
  grind
def wn{l:ab}(h:l.Ne): ∃q:Rat,l.nor.dot l.nor*q= -(l.c:Rat)/\l.base=⟨(l.a:Rat)*q,(l.b:Rat)*q⟩:=by
 refine⟨-(l.c:Rat)/l.nor.dot l.nor,?_,J⟩;have:=p9 h;grind
def n4(l m:ab)(t:Rat):m.value (l.at t)=l.cutC m+t*l.cutK m:=by
 simp only[ab.cutC,ab.cutK,kE,ab.at,aa.add,aa.scale,ab.dir,ab.nor,aa.dot];grind
def pO{l:ab}(h:l.Ne)(t:Rat):l.value (l.at t)=0:=by
 obtain⟨q,h1,h2⟩:=wn h;simp only[kE,ab.at,h2,aa.add,aa.scale,ab.dir];simp only[ab.nor,aa.dot] at h1;grind
def yS{l:ab}(h:l.Ne){p:aa}(hp:l.value p=0): ∃t,p=l.at t:=by
 obtain⟨q,h1,h2⟩:=wn h;have hn:=p9 h;obtain⟨x,y⟩:=p;rw[kE] at hp;simp only[ab.nor,aa.dot] at h1 hn;refine⟨((l.b:Rat)*x-(l.a:Rat)*y)/((l.a:Rat)*l.a+(l.b:Rat)*l.b),?_⟩;generalize ht:((l.b:Rat)*x-(l.a:Rat)*y)/((l.a:Rat)*l.a+(l.b:Rat)*l.b)=t;have ht':((l.a:Rat)*l.a+(l.b:Rat)*l.b)*t=(l.b:Rat)*x-(l.a:Rat)*y:=by grind
 simp only[ab.at,h2,aa.add,aa.scale,ab.dir,aa.mk.injEq];generalize (l.a:Rat)=a at*;generalize (l.b:Rat)=b at*;generalize (l.c:Rat)=c at*;have e1:(a*a+b*b)*(x-(a*q+b*t))=0:=by grind
 have e2:(a*a+b*b)*(y-(b*q+ -a*t))=0:=by grind
 constructor<;>grind
def aB.has(v:aB)(t:Rat):Prop:=(v.nl=true\/v.lo<=t)/\(v.nh=true\/t<=v.hi)
def aB.ins(v:aB)(t:Rat):Prop:=(v.nl=true\/v.lo<t)/\(v.nh=true\/t<v.hi)
def aB.Pos(v:aB):Prop:=v.nl=true\/v.nh=true\/v.lo<v.hi
def Mp(a b:Rat):0<=bO a b↔b<=a:=by
 unfold bO;split
 ·constructor
  ·intro h;exact absurd h (by decide)
  ·intro h;grind
 ·split
  ·constructor
   ·intro _;grind
   ·intro _;decide
  ·constructor
   ·intro _;grind
   ·intro _;decide
def KZ(v:aB):v.empty=false↔v.Pos:=by
 obtain⟨lo,hi,nl,nh⟩:=v;unfold aB.empty aB.Pos
 cases nl<;>cases nh<;>simp[Mp]
 first|exact Rat.not_le|grind
def aB.ins.has{v:aB}{t:Rat}(h:v.ins t):v.has t:=by
 obtain⟨h1,h2⟩:=h;exact⟨h1.imp id (fun h=>cY h),h2.imp id (fun h=>cY h)⟩
def UB:mkRat 1 2=(1:Rat)/2:=by rw[nV];rfl
def u9{v:aB}(h:v.Pos):v.ins v.sample:=by
 obtain⟨lo,hi,nl,nh⟩:=v;unfold aB.Pos at h;unfold aB.ins aB.sample;rw[UB]
 cases nl<;>cases nh<;>simp at* <;>grind
def Hm(v w:aB)(t:Rat):(v.meet w).has t↔v.has t/\w.has t:=by
 obtain⟨lo,hi,nl,nh⟩:=v;obtain⟨lo',hi',nl',nh'⟩:=w;unfold aB.has aB.meet
 cases nl<;>cases nh<;>cases nl'<;>cases nh'<;>simp<;>grind
def KE(v w:aB)(t:Rat):(v.meet w).ins t↔v.ins t/\w.ins t:=by
 obtain⟨lo,hi,nl,nh⟩:=v;obtain⟨lo',hi',nl',nh'⟩:=w;unfold aB.ins aB.meet
 cases nl<;>cases nh<;>cases nl'<;>cases nh'<;>simp<;>grind
def Ff(t:Rat):aB.all.has t:=⟨.inl J, .inl J⟩
def W5(t:Rat):aB.all.ins t:=⟨.inl J, .inl J⟩
def uU:aB.all.Pos:= .inl J
def jk(k:Rat):Int.sign k.num=0↔k=0:=by rw[iZ,lV]
def Fc(k:Rat):0<k.num↔0<k:=by
 have h1:0<=k.num↔0<=k:=Rat.num_nonneg;have h2:k.num=0↔k=0:=lV;constructor
 ·intro h
  have a:=h1.1 (by omega);have b:k≠0:=fun e=>by have:=h2.2 e;omega
  grind
 ·intro h
  have a:=h1.2 (by grind);have b:k.num≠0:=fun e=>by have:=h2.1 e;grind
  omega
def io(k:Rat):Int.sign k.num=1↔0<k:=by rw[Int.sign_eq_one_iff_pos,Fc]
def jF(k:Rat):0<Int.sign k.num↔0<k:=by
 rw[<-io];rcases lJ k.num 0 with h|h|h
 ·rw[eJ h];decide
 ·rw[h];decide
 ·rw[fQ h];decide
def lD(k:Rat):Int.sign k.num<0↔k<0:=by
 have h1:=jk k;have h2:=jF k;constructor
 ·intro h
  by_cases hk:0<k
  ·have:=h2.2 hk;omega
  ·by_cases h0:k=0
   ·have:=h1.2 h0;omega
   ·grind
 ·intro h
  have a1: ¬Int.sign k.num=0:=fun e=>by have:=h1.1 e;grind
  have a2: ¬0<Int.sign k.num:=fun e=>by have:=h2.1 e;grind
  omega
def Ab{l m:ab}(v:aB)(hk:l.cutK m=0):l.cutV v m=v/\(l.cutB v m=true↔0<l.cutC m):=by
 have h:=(jk (l.cutK m)).2 hk;unfold ab.cutV ab.cutB;rw[if_pos h,if_pos h,decide_eq_true_iff,jF];exact⟨J,Iff.rfl⟩
def yb{l m:ab}(v:aB)(hk:0<l.cutK m):l.cutV v m=v.meet ⟨-(l.cutC m/l.cutK m),0,false,true⟩/\(l.cutB v m=true↔(l.cutV v m).Pos):=by
 have h0: ¬Int.sign (l.cutK m).num=0:=fun e=>by have:=(jk _).1 e;grind
 have h1:=(io (l.cutK m)).2 hk;constructor
 ·unfold ab.cutV;rw[if_neg h0,if_pos h1]
 ·unfold ab.cutB;rw[if_neg h0,<-KZ];simp
def yr{l m:ab}(v:aB)(hk:l.cutK m<0):l.cutV v m=v.meet ⟨0, -(l.cutC m/l.cutK m),true,false⟩/\(l.cutB v m=true↔(l.cutV v m).Pos):=by
 have h0: ¬Int.sign (l.cutK m).num=0:=fun e=>by have:=(jk _).1 e;grind
 have h1: ¬Int.sign (l.cutK m).num=1:=fun e=>by have:=(io _).1 e;grind
 constructor
 ·unfold ab.cutV;rw[if_neg h0,if_neg h1]
 ·unfold ab.cutB;rw[if_neg h0,<-KZ];simp
def PQ{C K t:Rat}(hk:0<K): -(C/K)<=t↔0<=C+t*K:=by
 have e:C=C/K*K:=by grind
 generalize C/K=d at*;rw[e,show d*K+t*K=(d+t)*K from by grind,iC hk];grind
def JJ{C K t:Rat}(hk:0<K): -(C/K)<t↔0<C+t*K:=by
 have e:C=C/K*K:=by grind
 generalize C/K=d at*;rw[e,show d*K+t*K=(d+t)*K from by grind,fi hk];grind
def Tk{C K t:Rat}(hk:K<0):t<= -(C/K)↔0<=C+t*K:=by
 have e:C=C/K*K:=by grind
 generalize C/K=d at*;rw[e,show d*K+t*K=(-(d+t))*(-K) from by grind,iC (by grind)];grind
def Hz{C K t:Rat}(hk:K<0):t< -(C/K)↔0<C+t*K:=by
 have e:C=C/K*K:=by grind
 generalize C/K=d at*;rw[e,show d*K+t*K=(-(d+t))*(-K) from by grind,fi (by grind)];grind
def dC(k:Rat):k=0\/0<k\/k<0:=by grind
def Ax{l m:ab}{v:aB}(hb:l.cutB v m=true)(t:Rat):(l.cutV v m).has t↔v.has t/\0<=m.value (l.at t):=by
 rw[n4];rcases dC (l.cutK m) with hk|hk|hk
 ·obtain⟨h1,h2⟩:=Ab v hk
  rw[h1,hk];have:=h2.1 hb;constructor
  ·intro h;exact⟨h,by grind⟩
  ·exact fun h=>h.1
 ·rw[(yb v hk).1,Hm,<-PQ hk]
  simp[aB.has]
 ·rw[(yr v hk).1,Hm,<-Tk hk]
  simp[aB.has]
def M'{l m:ab}{v:aB}(hb:l.cutB v m=true)(t:Rat):(l.cutV v m).ins t↔v.ins t/\0<m.value (l.at t):=by
 rw[n4];rcases dC (l.cutK m) with hk|hk|hk
 ·obtain⟨h1,h2⟩:=Ab v hk
  rw[h1,hk];have:=h2.1 hb;constructor
  ·intro h;exact⟨h,by grind⟩
  ·exact fun h=>h.1
 ·rw[(yb v hk).1,KE,<-JJ hk]
  simp[aB.ins]
 ·rw[(yr v hk).1,KE,<-Hz hk]
  simp[aB.ins]
def wv{l m:ab}{v:aB}(hv:v.Pos)(hb:l.cutB v m=true):(l.cutV v m).Pos:=by
 rcases dC (l.cutK m) with hk|hk|hk
 ·rw[(Ab v hk).1];exact hv
 ·exact(yb v hk).2.1 hb
 ·exact(yr v hk).2.1 hb
def By{l m:ab}{v:aB}(hv:v.Pos)(hb:l.cutB v m=false){t:Rat}(ht:v.has t):m.value (l.at t)<=0:=by
 rw[n4];have hb': ¬l.cutB v m=true:=by rw[hb];decide
 rcases dC (l.cutK m) with hk|hk|hk
 ·have h2:=(Ab v hk).2
  have: ¬0<l.cutC m:=fun h=>hb' (h2.2 h);rw[hk];grind
 ·obtain⟨h1,h2⟩:=yb v hk
  have hn: ¬(l.cutV v m).Pos:=fun h=>hb' (h2.2 h);rw[h1] at hn;have h3:=JJ (C:=l.cutC m) (t:=t) hk
  suffices¬(-(l.cutC m/l.cutK m)<t) by grind
  generalize-(l.cutC m/l.cutK m)=d at*;obtain⟨lo,hi,nl,nh⟩:=v;unfold aB.Pos aB.meet at hn;unfold aB.Pos at hv;unfold aB.has at ht
  cases nl<;>cases nh<;>simp at* <;>grind
 ·obtain⟨h1,h2⟩:=yr v hk
  have hn: ¬(l.cutV v m).Pos:=fun h=>hb' (h2.2 h);rw[h1] at hn;have h3:=Hz (C:=l.cutC m) (t:=t) hk
  suffices¬(t< -(l.cutC m/l.cutK m)) by grind
  generalize-(l.cutC m/l.cutK m)=d at*;obtain⟨lo,hi,nl,nh⟩:=v;unfold aB.Pos aB.meet at hn;unfold aB.Pos at hv;unfold aB.has at ht
  cases nl<;>cases nh<;>simp at* <;>grind
def cd(c:bw)(p:aa):Prop:= ∀s∈c,0<s.l.value p
def tG(c:bw)(p:aa):Prop:= ∀s∈c,0<=s.l.value p
def Ew(l:ab): ∀(c:bw) (v w:aB),v.Pos->pG l c v=some w->
  w.Pos/\(∀t,w.has t↔v.has t/\tG c (l.at t))/\(∀t,w.ins t↔v.ins t/\cd c (l.at t))
 |[],v,w,hv,h=>by
  obtain rfl:v=w:=by simpa[pG] using h
  exact⟨hv,fun t=>⟨fun h=>⟨h,fun s hs=>absurd hs (by simp)⟩,fun h=>h.1⟩,fun t=>⟨fun h=>⟨h,fun s hs=>absurd hs (by simp)⟩,fun h=>h.1⟩⟩
 |s::c,v,w,hv,h=>by
  rw[pG] at h;split at h
  ·rename_i hb
   obtain⟨h1,h2,h3⟩:=Ew l c _ w (wv hv hb) h;refine⟨h1,fun t=>?_,fun t=>?_⟩
   ·rw[h2,Ax hb]
    simp only[tG,dJ];exact and_assoc
   ·rw[h3,M' hb]
    simp only[cd,dJ];exact and_assoc
  ·exact absurd h (by simp)
def MT(l:ab): ∀(c:bw) (v:aB),v.Pos->pG l c v=none-> ∀t,v.has t-> ¬cd c (l.at t)
 |[],v,hv,h=>by simp[pG] at h
 |s::c,v,hv,h=>by
  intro t ht hd;have hd':=dJ.1 hd;rw[pG] at h;split at h
  ·rename_i hb
   exact MT l c _ (wv hv hb) h t ((Ax hb t).2 ⟨ht,cY hd'.1⟩) hd'.2
  ·rename_i hb
   have:=By hv (by simpa using hb) ht;have:=hd'.1;grind
def cd.open: ∀{c:bw} {q:aa} (u:aa),cd c q-> ∃e:Rat,0<e/\ ∀d,0<=d->d<=e->cd c (bc q u d)
 |[],q,u,_=>⟨1,by decide,fun d _ _ s hs=>absurd hs (by simp)⟩
 |s::c,q,u,h=>by
  have h':=dJ.1 h;obtain⟨e,he,hd⟩:=cd.open (c:=c) u h'.2;have hs:=h'.1;generalize hk:s.l.nor.dot u=k;have hf: ∃f:Rat,0<f/\ ∀d,0<=d->d<=f->0<s.l.value q+d*k:=by
   by_cases hk0:0<=k
   ·exact⟨1,by decide,fun d h1 _=>by have:=bG h1 hk0;grind⟩
   ·refine⟨s.l.value q/(2* -k),?_,fun d h1 h2=>?_⟩
    ·have e1:s.l.value q/(2* -k)*(2* -k)=s.l.value q:=by grind
     exact(fi (k:=2* -k) (by grind)).1 (by rw[e1];exact hs)
    ·have e1:s.l.value q/(2* -k)*(2* -k)=s.l.value q:=by grind
     generalize s.l.value q/(2* -k)=f at*;have:=bG (a:=f-d) (b:= -k) (by grind) (by grind);grind
  obtain⟨f,hf0,hf⟩:=hf;by_cases hef:e<=f
  ·refine⟨e,he,fun d h1 h2=>dJ.2 ⟨?_,hd d h1 h2⟩⟩
   rw[ic,hk];exact hf d h1 (by grind)
  ·refine⟨f,hf0,fun d h1 h2=>dJ.2 ⟨?_,hd d h1 (by grind)⟩⟩
   rw[ic,hk];exact hf d h1 h2
def JH: ∀{c:bw} {q p:aa},cd c q->(∃s∈c,s.l.value p<=0)->
  ∃e:Rat,0<=e/\e<=1/\(∃s∈c,s.l.value p<=0/\s.l.value (aF q p e)=0)/\tG c (aF q p e)
 |[],q,p,_,h=>by obtain⟨s,hs,_⟩:=h;exact absurd hs (by simp)
 |s::c,q,p,h,hex=>by
  have h':=dJ.1 h;have hs:=h'.1;by_cases hc: ∃s∈c,s.l.value p<=0
  ·obtain⟨e,h0,h1,⟨s1,m1,n1,z1⟩,hC⟩:=JH h'.2 hc
   by_cases hp:0<=s.l.value (aF q p e)
   ·exact⟨e,h0,h1,⟨s1,aJ _ m1,n1,z1⟩,dJ.2 ⟨hp,hC⟩⟩
   ·rw[l8] at hp
    generalize hB:s.l.value p-s.l.value q=B at*;have hB0:B<0:=by
     by_cases hB0:0<=B
     ·have:=bG h0 hB0;grind
     ·grind
    have e1:s.l.value q/(-B)*(-B)=s.l.value q:=by grind
    generalize hf:s.l.value q/(-B)=f at*;have f0:0<=f:=(iC (k:= -B) (by grind)).1 (by rw[e1];grind);have f1:f<=e:=by
     have:=(iC (s:=e-f) (k:= -B) (by grind)).1 (by grind);grind
    have z:s.l.value (aF q p f)=0:=by rw[l8,hB];grind
    have np:s.l.value p<=0:=by
     have:=bG (a:=1-e) (b:= -B) (by grind) (by grind);grind
    refine⟨f,f0,by grind,⟨s,aQ,np,z⟩,dJ.2 ⟨by rw[z];exact dV,fun s2 m2=>?_⟩⟩;have a1:=h'.2 s2 m2;have a2:=hC s2 m2;rw[l8] at a2⊢;exact JP (cY a1) a2 f0 f1
  ·have np:s.l.value p<=0:=by
    obtain⟨s1,m1,n1⟩:=hex;rcases aU.1 m1 with rfl|m1
    ·exact n1
    ·exact absurd ⟨s1,m1,n1⟩ hc
   generalize hB:s.l.value p-s.l.value q=B at*;have hB0:B<0:=by grind
   have e1:s.l.value q/(-B)*(-B)=s.l.value q:=by grind
   generalize hf:s.l.value q/(-B)=f at*;have f0:0<=f:=(iC (k:= -B) (by grind)).1 (by rw[e1];grind);have f1:f<=1:=by
    have:=(iC (s:=1-f) (k:= -B) (by grind)).1 (by grind);grind
   have z:s.l.value (aF q p f)=0:=by rw[l8,hB];grind
   refine⟨f,f0,f1,⟨s,aQ,np,z⟩,dJ.2 ⟨by rw[z];exact dV,fun s2 m2=>?_⟩⟩;have a1:=h'.2 s2 m2;have a2:0<s2.l.value p:=by
    by_cases h:0<s2.l.value p
    ·exact h
    ·exact absurd ⟨s2,m2,by grind⟩ hc
   rw[l8];have:=JP (A:=s2.l.value q) (B:=s2.l.value p-s2.l.value q) (u:=f) (v:=1) (cY a1) (by grind) f0 f1;exact this
structure gA (c:bw):Prop where
 ne: ∃p,cd c p
 ok: ∀s∈c,s.l.ok
 edge: ∀s∈c,s.v.Pos/\ ∀t,s.v.has t↔tG c (s.l.at t)
def gA.nil:gA []:=⟨⟨⟨0,0⟩,fun s hs=>absurd hs (by simp)⟩,fun s hs=>absurd hs (by simp),fun s hs=>absurd hs (by simp)⟩
def tZ{c:bw}{m:ab}(hne: ∃q,cd c q)(h: ∀p,cd c p->0<m.value p){p:aa}(hp:tG c p):0<=m.value p:=by
 obtain⟨q,hq⟩:=hne;have mq:=h q hq;by_cases hm:0<=m.value p
 ·exact hm
 ·exfalso
  generalize hB:m.value q-m.value p=B;have hB0:0<B:=by grind
  have e1: -m.value p/B*B= -m.value p:=by grind
  generalize-m.value p/B=e at*;have e0:0<e:=(fi hB0).1 (by rw[e1];grind);have e2:e<=1:=by
   have:=(iC (s:=1-e) hB0).1 (by grind);grind
  have hd:cd c (aF p q e):=fun s hs=>by
   rw[l8];have a:=hp s hs;have b:=hq s hs;have:=bv e0 b;have:=bG (a:=1-e) (b:=s.l.value p) (by grind) a;grind
  have:=h _ hd;rw[l8,hB,e1] at this;grind
def ry{l:ab}{s':aP}: ∀{c:bw},s'∈nB l c↔ ∃s∈c,s.l.cutB s.v l=true/\s'=⟨s.l,s.l.cutV s.v l⟩
 |[]=>by simp[nB]
 |s::c=>by
  rw[nB];split
  ·rename_i hb
   rw[aU,ry (c:=c)];constructor
   ·rintro (rfl|⟨s1,h1,h2⟩)
    ·exact⟨s,aQ,hb,J⟩
    ·exact⟨s1,aJ _ h1,h2⟩
   ·rintro ⟨s1,h1,h2,h3⟩
    rcases aU.1 h1 with rfl|h1
    ·exact .inl h3
    ·exact .inr ⟨s1,h1,h2,h3⟩
  ·rename_i hb
   rw[ry (c:=c)];constructor
   ·rintro ⟨s1,h1,h2⟩;exact⟨s1,aJ _ h1,h2⟩
   ·rintro ⟨s1,h1,h2,h3⟩
    rcases aU.1 h1 with rfl|h1
    ·exact absurd h2 hb
    ·exact⟨s1,h1,h2,h3⟩
def rI{c:bw}{l:ab}{v:aB}{s:aP}:s∈sj c l v↔s=⟨l,v⟩\/s∈c:=by
 unfold sj;generalize xI (EM c l) 0 c.length=n;rw[bV,aU];have h:=iR n c;constructor
 ·rintro (h1|h1|h1)
  ·exact .inr (fJ h1)
  ·exact .inl h1
  ·exact .inr (mV h1)
 ·rintro (h1|h1)
  ·exact .inr (.inl h1)
  ·rw[<-h,bV] at h1
   rcases h1 with h1|h1
   ·exact .inl h1
   ·exact .inr (.inr h1)
def ON{c:bw}{l:ab}(hl:l.Ne)(hp:pg c l=none){p:aa}(h:cd c p):l.value p≠0:=by
 intro h0;obtain⟨t,rfl⟩:=yS hl h0;exact MT l c _ uU hp t (Ff t) h
def Iw{c:bw}{l:ab}(hl:l.Ne){v:aB}(hp:pg c l=some v):(∃q,cd c q/\0<l.value q)/\ ∃q,cd c q/\l.value q<0:=by
 obtain⟨h1,_,h3⟩:=Ew l c _ v uU hp;have hd:=((h3 v.sample).1 (u9 h1)).2;have h0:=pO hl v.sample;have hn:=p9 hl;constructor
 ·obtain⟨e,he,hm⟩:=hd.open l.nor
  refine⟨_,hm e (cY he) dV,?_⟩;rw[ic,h0];have:=bv he hn;grind
 ·obtain⟨e,he,hm⟩:=hd.open ⟨-l.nor.x, -l.nor.y⟩
  refine⟨_,hm e (cY he) dV,?_⟩;rw[ic,h0];have:=bv he hn;simp only[aa.dot] at this⊢;grind
def Xg{c:bw}{l:ab}{v:aB}(hc:gA c)(hl:l.ok)(hp:pg c l=some v):
  gA (sj (nB l c) l v)/\ ∀p,cd (sj (nB l c) l v) p↔cd c p/\0<l.value p:=by
 obtain⟨⟨q,hq,lq⟩,_⟩:=Iw hl.ne hp;obtain⟨v1,v2,v3⟩:=Ew l c _ v uU hp;have hD: ∀p,cd (sj (nB l c) l v) p↔cd c p/\0<l.value p:=by
  intro p;constructor
  ·intro h
   have lp:0<l.value p:=h ⟨l,v⟩ (rI.2 (.inl J));refine⟨fun s0 hs0=>?_,lp⟩;by_cases h0:0<s0.l.value p
   ·exact h0
   ·exfalso
    obtain⟨e,e0,e1,⟨s,ms,ns,zs⟩,hC⟩:=JH (p:=p) hq ⟨s0,hs0,by grind⟩;obtain⟨t,ht⟩:=yS (hc.ok s ms).ne zs;rw[ht] at hC;obtain⟨p1,p2⟩:=hc.edge s ms;have hh:=(p2 t).2 hC;have lr:0<l.value (s.l.at t):=by
     rw[<-ht,l8];by_cases hB:0<=l.value p-l.value q
     ·have:=bG e0 hB;grind
     ·have:=bG (a:=1-e) (b:= -(l.value p-l.value q)) (by grind) (by grind)
      grind
    have hb:s.l.cutB s.v l=true:=by
     cases hb:s.l.cutB s.v l with
     |true=>rfl
     |false=>have:=By p1 hb hh;grind
    have:=h ⟨s.l,s.l.cutV s.v l⟩ (rI.2 (.inr (ry.2 ⟨s,ms,hb,J⟩)));simp only at this;grind
  ·rintro ⟨h1,h2⟩ s hs
   rcases rI.1 hs with rfl|hs
   ·exact h2
   ·obtain⟨s1,m1,_,rfl⟩:=ry.1 hs
    exact h1 s1 m1
 have hne: ∃p,cd (sj (nB l c) l v) p:=⟨q,(hD q).2 ⟨hq,lq⟩⟩;have hC: ∀p,tG (sj (nB l c) l v) p↔tG c p/\0<=l.value p:=by
  intro p;constructor
  ·intro h
   refine⟨fun s hs=>?_,h ⟨l,v⟩ (rI.2 (.inl J))⟩;exact tZ hne (fun p hp=>((hD p).1 hp).1 s hs) h
  ·rintro ⟨h1,h2⟩ s hs
   rcases rI.1 hs with rfl|hs
   ·exact h2
   ·obtain⟨s1,m1,_,rfl⟩:=ry.1 hs
    exact h1 s1 m1
 refine⟨⟨hne,fun s hs=>?_,fun s hs=>?_⟩,hD⟩
 ·rcases rI.1 hs with rfl|hs
  ·exact hl
  ·obtain⟨s1,m1,_,rfl⟩:=ry.1 hs
   exact hc.ok s1 m1
 ·rcases rI.1 hs with rfl|hs
  ·refine⟨v1,fun t=>?_⟩
   rw[hC];simp only;rw[v2];have h0:=pO hl.ne t;constructor
   ·intro h;exact⟨h.2,by rw[h0];exact dV⟩
   ·intro h;exact⟨Ff t,h.1⟩
  ·obtain⟨s1,m1,hb,rfl⟩:=ry.1 hs
   obtain⟨p1,p2⟩:=hc.edge s1 m1;refine⟨wv p1 hb,fun t=>?_⟩;rw[hC];simp only;rw[Ax hb,p2]
def cd.seg{c:bw}{q p:aa}{e:Rat}(hq:cd c q)(hp:cd c p)(h0:0<=e)(h1:e<=1):cd c (aF q p e):=fun s hs=>by
 rw[l8];have a:=hq s hs;have b:=hp s hs;by_cases he:e=0
 ·subst he;grind
 ·have:=bv (a:=e) (by grind) b
  have:=bG (a:=1-e) (b:=s.l.value q) (by grind) (by grind);grind
def N5{v:aB}{t:Rat}(h:v.ins t):(∃u,u<t/\v.has u)/\ ∃u,t<u/\v.has u:=by
 obtain⟨lo,hi,nl,nh⟩:=v;unfold aB.ins at h;unfold aB.has;refine⟨⟨if nl=true then t-1 else lo,?_⟩,⟨if nh=true then t+1 else hi,?_⟩⟩<;>cases nl<;>cases nh<;>simp at* <;>grind
def uT{a b c x y z:Nat}(h1:x*b=a*y)(h2:x*c=a*z)(g:Nat.gcd (Nat.gcd a b) c=1):a∣x:=by
 have e:x=Nat.gcd (Nat.gcd (x*a) (x*b)) (x*c):=by
  rw[Nat.gcd_mul_left,Nat.gcd_mul_left,g,jS]
 rw[e];exact Nat.dvd_gcd (Nat.dvd_gcd (Nat.dvd_mul_left ..) (h1▸Nat.dvd_mul_right ..)) (h2▸Nat.dvd_mul_right ..)
def Yl{a b c x y z:Int}(h1:a*y=b*x)(h2:a*z=c*x)(h3:b*z=c*y)
  (g1:Nat.gcd (Nat.gcd a.natAbs b.natAbs) c.natAbs=1)(g2:Nat.gcd (Nat.gcd x.natAbs y.natAbs) z.natAbs=1):
  (a=x/\b=y/\c=z)\/(a= -x/\b= -y/\c= -z):=by
 have n1:a.natAbs*y.natAbs=b.natAbs*x.natAbs:=by rw[<-gN,<-gN,h1]
 have n2:a.natAbs*z.natAbs=c.natAbs*x.natAbs:=by rw[<-gN,<-gN,h2]
 have n3:b.natAbs*z.natAbs=c.natAbs*y.natAbs:=by rw[<-gN,<-gN,h3]
 generalize ha:a.natAbs=A at*;generalize hb:b.natAbs=B at*;generalize hc:c.natAbs=C at*;generalize hx:x.natAbs=X at*;generalize hy:y.natAbs=Y at*;generalize hz:z.natAbs=Z at*;have gB:Nat.gcd (Nat.gcd B A) C=1:=by rw[gS B A];exact g1
 have gC:Nat.gcd (Nat.gcd C A) B=1:=by rw[Nat.gcd_assoc,gS];exact g1
 have gY:Nat.gcd (Nat.gcd Y X) Z=1:=by rw[gS Y X];exact g2
 have gZ:Nat.gcd (Nat.gcd Z X) Y=1:=by rw[Nat.gcd_assoc,gS];exact g2
 have e1:A=X:=Nat.dvd_antisymm (uT (x:=X) (y:=Y) (z:=Z) (by grind) (by grind) g1) (uT (x:=A) (y:=B) (z:=C) (by grind) (by grind) g2);have e2:B=Y:=Nat.dvd_antisymm (uT (x:=Y) (y:=X) (z:=Z) (by grind) (by grind) gB) (uT (x:=B) (y:=A) (z:=C) (by grind) (by grind) gY);have e3:C=Z:=Nat.dvd_antisymm (uT (x:=Z) (y:=X) (z:=Y) (by grind) (by grind) gC) (uT (x:=C) (y:=A) (z:=B) (by grind) (by grind) gZ);have s1:a=x\/a= -x:=by omega
 have s2:b=y\/b= -y:=by omega
 have s3:c=z\/c= -z:=by omega
 clear ha hb hc hx hy hz n1 n2 n3 g1 g2 gB gC gY gZ e1 e2 e3;have z1:= @rX x y;have z2:= @rX x z;have z3:= @rX y z;rcases s1 with rfl|rfl<;>rcases s2 with rfl|rfl<;>rcases s3 with rfl|rfl<;>grind
def EZ{l m:ab}(hl:l.ok)(hm:m.ok)(h: ∀t,l.value (m.at t)=0):l=m\/l=m.rev:=by
 have h0:=h 0;have h1:=h 1;rw[n4] at h0 h1;have hC:m.cutC l=0:=by grind
 have hK:m.cutK l=0:=by grind
 obtain⟨q,q1,q2⟩:=wn hm.ne;have hn:=p9 hm.ne;unfold ab.cutC at hC;rw[q2,kE] at hC;unfold ab.cutK at hK;simp only[ab.nor,ab.dir,aa.dot] at hK q1 hn hC;obtain⟨a,b,c⟩:=l;obtain⟨x,y,z⟩:=m;simp only at*;have e1:a*y=b*x:=by
  have:((a*y:Int):Rat)=((b*x:Int):Rat):=by rw[cR,cR];grind
  exact pV.1 this
 have e2:a*z=c*x:=by
  have:((a*z:Int):Rat)=((c*x:Int):Rat):=by rw[cR,cR];grind
  exact pV.1 this
 have e3:b*z=c*y:=by
  have:((b*z:Int):Rat)=((c*y:Int):Rat):=by rw[cR,cR];grind
  exact pV.1 this
 rcases Yl e1 e2 e3 hl.2 hm.2 with⟨rfl,rfl,rfl⟩|⟨rfl,rfl,rfl⟩
 ·exact .inl J
 ·exact .inr J
def ab.ok.rev{l:ab}(h:l.ok):l.rev.ok:=by
 obtain⟨h1,h2⟩:=h;refine⟨?_,?_⟩
 ·simp only[ab.rev];omega
 ·simp only[ab.rev,iV];exact h2
def JC(l:ab): ∀c:bw,(∀s∈c,vN l s<=0/\s.l≠l)-> ¬0<sC l c
 |[],_=>by simp[sC]
 |s::c,h=>by
  have h':=dJ.1 h;unfold sC;rw[if_neg h'.1.2];split
  ·have:=h'.1.1;omega
  ·exact JC l c h'.2
def M2{c:bw}{l:ab}(hc:gA c)(hl:l.ok)(hp:pg c l=none):
  (0<sC l c/\ ∀p,cd c p->0<l.value p)\/(¬0<sC l c/\ ∀p,cd c p->l.value p<0):=by
 have hoff:=fun p (h:cd c p)=>ON hl.ne hp h;by_cases hq: ∃q,cd c q/\0<l.value q
 ·left
  obtain⟨q,hq,lq⟩:=hq;have hall: ∀p,cd c p->0<l.value p:=by
   intro p h;have:=hoff p h;by_cases h0:0<l.value p
   ·exact h0
   ·exfalso
    have hn:l.value p<0:=by grind
    have e1:l.value q/(l.value q-l.value p)*(l.value q-l.value p)=l.value q:=by grind
    generalize l.value q/(l.value q-l.value p)=e at*;have f0:0<=e:=(iC (k:=l.value q-l.value p) (by grind)).1 (by grind);have f1:e<=1:=by
     have:=(iC (s:=1-e) (k:=l.value q-l.value p) (by grind)).1 (by grind);grind
    exact hoff _ (hq.seg h f0 f1) (by rw[l8];grind)
  refine⟨?_,hall⟩
  cases c with
  |nil=>simp[pg,pG] at hp
  |cons s c=>
   obtain⟨p1,p2⟩:=hc.edge s aQ;have hi:=u9 p1;have hr:=tZ hc.ne hall ((p2 _).1 hi.has);unfold sC;by_cases h0:vN l s=0
   ·rw[if_neg (by simpa using h0)]
    have hz:l.value (s.l.at s.v.sample)=0:=(jk _).1 h0;have hge: ∀t,s.v.has t->0<=l.value (s.l.at t):=fun t ht=>tZ hc.ne hall ((p2 t).1 ht);obtain⟨⟨u1,m1,n1⟩,⟨u2,m2,n2⟩⟩:=N5 hi;have g1:=hge _ n1;have g2:=hge _ n2;rw[n4] at hz g1 g2;have hK:s.l.cutK l=0:=by
     rcases dC (s.l.cutK l) with h|h|h
     ·exact h
     ·exfalso
      have:=bv (a:=s.v.sample-u1) (b:=s.l.cutK l) (by grind) h;grind
     ·exfalso
      have:=bv (a:=u2-s.v.sample) (b:= -s.l.cutK l) (by grind) (by grind);grind
    have hz2: ∀t,l.value (s.l.at t)=0:=fun t=>by rw[n4,hK];rw[hK] at hz;grind
    rcases EZ hl (hc.ok s aQ) hz2 with h|h
    ·rw[if_pos h.symm];decide
    ·exfalso
     have:=hall q hq;rw[h,m8] at this;have:=hq s aQ;grind
   ·rw[if_pos h0]
    have hz:l.value (s.l.at s.v.sample)≠0:=fun e=>h0 ((jk _).2 e);exact(jF _).2 (by grind)
 ·right
  have hall: ∀p,cd c p->l.value p<0:=fun p h=>by
   have:=hoff p h;have: ¬0<l.value p:=fun h'=>hq ⟨p,h,h'⟩;grind
  refine⟨JC l c fun s hs=>?_,hall⟩;obtain⟨p1,p2⟩:=hc.edge s hs;have hr:=tZ (m:=l.rev) hc.ne (fun p h=>by rw[m8];have:=hall p h;grind) ((p2 _).1 (u9 p1).has);rw[m8] at hr;constructor
  ·have: ¬0<vN l s:=fun h=>by have:=(jF _).1 h;grind
   omega
  ·rintro rfl
   obtain⟨p,hp⟩:=hc.ne;have:=hall p hp;have:=hp s hs;grind
def FK{c:bw}{l:ab}(hc:gA c)(hl:l.ok):e7 c l=true↔ ∃p,cd c p/\0<l.value p:=by
 unfold e7
 cases hp:pg c l with
 |some v=>exact⟨fun _=>(Iw hl.ne hp).1,fun _=>J⟩
 |none=>
  simp only[C6,hp,Option.isSome_none,gU,if_false,decide_eq_true_iff];rcases M2 hc hl hp with⟨h1,h2⟩|⟨h1,h2⟩
  ·refine⟨fun _=>?_,fun _=>h1⟩
   obtain⟨p,hp⟩:=hc.ne;exact⟨p,hp,h2 p hp⟩
  ·refine⟨fun h=>absurd h h1,?_⟩
   rintro ⟨p,hp,h⟩;have:=h2 p hp;grind
def Ad{c:bw}{l:ab}(hc:gA c)(hl:l.ok)(hb:e7 c l=true):gA (gi c l)/\ ∀p,cd (gi c l) p↔cd c p/\0<l.value p:=by
 unfold gi
 cases hp:pg c l with
 |some v=>exact Xg hc hl hp
 |none=>
  refine⟨hc,fun p=>?_⟩;unfold e7 at hb;simp only[hp,C6,Option.isSome_none,gU,if_false,decide_eq_true_iff] at hb;rcases M2 hc hl hp with⟨h1,h2⟩|⟨h1,h2⟩
  ·exact⟨fun h=>⟨h,h2 p h⟩,fun h=>h.1⟩
  ·exact absurd hb h1
inductive aFH (c:bw) (l:ab):Prop
 |left (h1:e7 c l.rev=false) (h: ∀p,cd c p->0<l.value p)
 |right (h1:e7 c l.rev=true) (h2:e7 c l=false) (h: ∀p,cd c p->l.value p<0)
 |both (h1:e7 c l.rev=true) (h2:e7 c l=true) (g1:gA (gi c l)) (g2:gA (gi c l.rev))
   (e1: ∀p,cd (gi c l) p↔cd c p/\0<l.value p) (e2: ∀p,cd (gi c l.rev) p↔cd c p/\l.value p<0)
def Tr.restrict_A{l:ab}{e:bw}(X Y:Tr)(h:e7 e l.rev=false):(Tr.node l X Y).restrict e=X.restrict e:=by
 rw[Tr.restrict,h];rfl
def Tr.restrict_B{l:ab}{e:bw}(X Y:Tr)(h:e7 e l.rev=true)(h2:e7 e l=false):(Tr.node l X Y).restrict e=Y.restrict e:=by
 rw[Tr.restrict,h,h2];rfl
def Tr.restrict_C{l:ab}{e:bw}(X Y:Tr)(h:e7 e l.rev=true)(h2:e7 e l=true):(Tr.node l X Y).restrict e=Tr.joinQ l (X.restrict (gi e l)) (Y.restrict (gi e l.rev)):=by
 rw[Tr.restrict,h,h2];rfl
def oo:List ab->bw->Option bw
 |[],c=>some c
 |l::t,c=>if e7 c l then oo t (gi c l) else none
def H1: ∀{ls:List ab} {c e:bw},gA c->(∀l∈ls,l.ok)->oo ls c=some e->gA e/\ ∀p,cd e p↔cd c p/\ ∀l∈ls,0<l.value p
 |[],c,e,hc,_,h=>by
  obtain rfl:c=e:=by simpa[oo] using h
  exact⟨hc,fun p=>⟨fun h=>⟨h,fun l hl=>absurd hl (by simp)⟩,fun h=>h.1⟩⟩
 |l::t,c,e,hc,hl,h=>by
  have hl':=dJ.1 hl;rw[oo] at h;split at h
  ·rename_i hb
   obtain⟨g1,g2⟩:=Ad hc hl'.1 hb;obtain⟨k1,k2⟩:=H1 g1 hl'.2 h;refine⟨k1,fun p=>?_⟩;rw[k2,g2,dJ,and_assoc]
  ·exact absurd h (by simp)
def IW: ∀{ls:List ab} {c:bw},gA c->(∀l∈ls,l.ok)->(∃p,cd c p/\ ∀l∈ls,0<l.value p)-> ∃e,oo ls c=some e
 |[],c,_,_,_=>⟨c,J⟩
 |l::t,c,hc,hl,⟨p,h1,h2⟩=>by
  have hl':=dJ.1 hl;have h2':=dJ.1 h2;have hb:=(FK hc hl'.1).2 ⟨p,h1,h2'.1⟩;obtain⟨g1,g2⟩:=Ad hc hl'.1 hb;rw[oo,if_pos hb];exact IW g1 hl'.2 ⟨p,(g2 p).2 ⟨h1,h2'.1⟩,h2'.2⟩
def WY{c:bw}(hc:gA c){s:aP}(hs:s∈c){m:ab}(hm:m.ok)(h: ∀p,cd c p->0<m.value p)(hz:m.value (s.l.at s.v.sample)=0):m=s.l:=by
 obtain⟨p1,p2⟩:=hc.edge s hs;have hi:=u9 p1;have hge: ∀t,s.v.has t->0<=m.value (s.l.at t):=fun t ht=>tZ hc.ne h ((p2 t).1 ht);obtain⟨⟨u1,m1,n1⟩,⟨u2,m2,n2⟩⟩:=N5 hi;have g1:=hge _ n1;have g2:=hge _ n2;rw[n4] at hz g1 g2;have hK:s.l.cutK m=0:=by
  rcases dC (s.l.cutK m) with h|h|h
  ·exact h
  ·exfalso
   have:=bv (a:=s.v.sample-u1) (b:=s.l.cutK m) (by grind) h;grind
  ·exfalso
   have:=bv (a:=u2-s.v.sample) (b:= -s.l.cutK m) (by grind) (by grind);grind
 have hz2: ∀t,m.value (s.l.at t)=0:=fun t=>by rw[n4,hK];rw[hK] at hz;grind
 rcases EZ hm (hc.ok s hs) hz2 with h'|h'
 ·exact h'
 ·exfalso
  obtain⟨q,hq⟩:=hc.ne;have:=h q hq;rw[h',m8] at this;have:=hq s hs;grind
def gE(l:ab):List ab->aB->Option aB
 |[],v=>some v
 |m::t,v=>if m=l then gE l t v else if l.cutB v m then gE l t (l.cutV v m) else none
def e6(c:List ab)(p:aa):Prop:= ∀m∈c,0<m.value p
def Bo(l:ab): ∀(c:List ab) (v w:aB),v.Pos->gE l c v=some w->
  w.Pos/\(∀t,w.ins t↔v.ins t/\ ∀m∈c,m≠l->0<m.value (l.at t))
 |[],v,w,hv,h=>by
  obtain rfl:v=w:=by simpa[gE] using h
  exact⟨hv,fun t=>⟨fun h=>⟨h,fun s hs=>absurd hs (by simp)⟩,fun h=>h.1⟩⟩
 |m::c,v,w,hv,h=>by
  rw[gE] at h;split at h
  ·rename_i hm
   obtain⟨h1,h2⟩:=Bo l c _ w hv h;refine⟨h1,fun t=>?_⟩;rw[h2,dJ];exact⟨fun h=>⟨h.1,fun h'=>absurd hm h',h.2⟩,fun h=>⟨h.1,h.2.2⟩⟩
  ·rename_i hm
   split at h
   ·rename_i hb
    obtain⟨h1,h2⟩:=Bo l c _ w (wv hv hb) h;refine⟨h1,fun t=>?_⟩;rw[h2,M' hb,dJ,and_assoc];exact⟨fun h=>⟨h.1,fun _=>h.2.1,h.2.2⟩,fun h=>⟨h.1,h.2.1 hm,h.2.2⟩⟩
   ·exact absurd h (by simp)
def FM(l:ab): ∀(c:List ab) (v:aB),v.Pos->gE l c v=none-> ∀t,v.has t-> ¬ ∀m∈c,m≠l->0<m.value (l.at t)
 |[],v,hv,h=>by simp[gE] at h
 |m::c,v,hv,h=>by
  intro t ht hd;have hd':=dJ.1 hd;rw[gE] at h;split at h
  ·exact FM l c _ hv h t ht hd'.2
  ·rename_i hm
   split at h
   ·rename_i hb
    exact FM l c _ (wv hv hb) h t ((Ax hb t).2 ⟨ht,cY (hd'.1 hm)⟩) hd'.2
   ·rename_i hb
    have:=By hv (by simpa using hb) ht;have:=hd'.1 hm;grind
def sM(c:List ab):Bool:=c.isEmpty||c.any (fun l=>(gE l c aB.all).isSome)
def M5: ∀{ls:List ab} {c e:bw},oo ls c=some e-> ∀s∈e,s.l∈ls\/ ∃s'∈c,s'.l=s.l
 |[],c,e,h,s,hs=>by
  obtain rfl:c=e:=by simpa[oo] using h
  exact .inr ⟨s,hs,J⟩
 |l::t,c,e,h,s,hs=>by
  rw[oo] at h;split at h
  ·rcases M5 h s hs with h1|⟨s',h1,h2⟩
   ·exact .inl (aJ _ h1)
   ·unfold gi at h1
    split at h1
    ·rcases rI.1 h1 with rfl|h1
     ·exact .inl (by rw[<-h2];exact aQ)
     ·obtain⟨s1,m1,_,rfl⟩:=ry.1 h1
      exact .inr ⟨s1,m1,h2⟩
    ·exact .inr ⟨s',h1,h2⟩
  ·exact absurd h (by simp)
def S5{c:List ab}(hok: ∀l∈c,l.ok)(hne: ∃p,e6 c p): ∃e,oo c []=some e/\gA e/\(∀p,cd e p↔e6 c p)/\ ∀s∈e,s.l∈c/\(gE s.l c aB.all).isSome=true:=by
 obtain⟨p,hp⟩:=hne;obtain⟨e,he⟩:=IW gA.nil hok ⟨p,fun s hs=>absurd hs (by simp),hp⟩;obtain⟨g1,g2⟩:=H1 gA.nil hok he;have g3: ∀p,cd e p↔e6 c p:=fun p=>by
  rw[g2];exact⟨fun h=>h.2,fun h=>⟨fun s hs=>absurd hs (by simp),h⟩⟩
 refine⟨e,he,g1,g3,fun s hs=>?_⟩;have hm:s.l∈c:=by
  rcases M5 he s hs with h|⟨_,h,_⟩
  ·exact h
  ·exact absurd h (by simp)
 refine⟨hm,?_⟩
 cases hp:gE s.l c aB.all with
 |some w=>rfl
 |none=>
  exfalso;obtain⟨p1,p2⟩:=g1.edge s hs;have hC:=(p2 s.v.sample).1 (u9 p1).has;refine FM s.l c _ uU hp s.v.sample (Ff _) fun m hmc hne=>?_;have hall: ∀p,cd e p->0<m.value p:=fun p hp=>(g3 p).1 hp m hmc;have h0:=tZ g1.ne hall hC;have h1:m.value (s.l.at s.v.sample)≠0:=fun hz=>hne (WY g1 hs (hok m hmc) hall hz);grind
def QI{c:List ab}(hok: ∀l∈c,l.ok):sM c=true↔ ∃p,e6 c p:=by
 unfold sM;rw[gV,List.isEmpty_iff,jL];constructor
 ·rintro (rfl|⟨l,hl,h⟩)
  ·exact⟨⟨0,0⟩,fun m hm=>absurd hm (by simp)⟩
  ·obtain⟨w,hw⟩:=Option.isSome_iff_exists.1 h
   obtain⟨w1,w2⟩:=Bo l c _ w uU hw;have hi:=((w2 w.sample).1 (u9 w1)).2;have h0:=pO (hok l hl).ne w.sample;have hd:cd ((c.filter (fun m=>decide (m≠l))).map (fun m=>(⟨m,aB.all⟩:aP))) (l.at w.sample):=by
    intro s hs;obtain⟨m,hm,rfl⟩:=bX.1 hs;rw[gL,decide_eq_true_iff] at hm;exact hi m hm.1 hm.2
   obtain⟨e,he,ho⟩:=hd.open l.nor;refine⟨bc (l.at w.sample) l.nor e,fun m hm=>?_⟩;by_cases hml:m=l
   ·subst hml
    rw[ic,h0];have:=bv he (p9 (hok m hl).ne);grind
   ·exact ho e (cY he) dV ⟨m,aB.all⟩ (bX.2 ⟨m,gL.2 ⟨hm,by simpa using hml⟩,J⟩)
 ·intro hne
  obtain⟨e,h1,h2,h3,h4⟩:=S5 hok hne
  cases c with
  |nil=>exact .inl J
  |cons l c=>
   right
   cases e with
   |nil=>
    exfalso;have:=(h3 (l.at 0)).1 (fun s hs=>absurd hs (by simp)) l aQ;rw[pO (hok l aQ).ne] at this;exact absurd this (by decide)
   |cons s e=>
    obtain⟨a,b⟩:=h4 s aQ;exact⟨s.l,a,b⟩
def F2(out:List ab)(l:ab):Nat:=(out.takeWhile (fun x=>decide (cA x.dir l.dir<0))).length
def Yg(out:List ab)(l:ab):List ab:=if out[F2 out l]? =some l then out else out.take (F2 out l)++l::out.drop (F2 out l)
def Bz(c:List ab):List ab->List ab->List ab
 |[],out=>out
 |l::t,out=>Bz c t (if(gE l c aB.all).isSome then Yg out l else out)
def p6(c:List ab):List ab:=Bz c c []
def ye(c:List ab)(l:ab):Int:=if sM (c++[l])&&sM (c++[l.rev]) then 0 else if sM (c++[l]) then 1 else-1
def Tr.restrictL:Tr->List ab->Tr
 | .leaf b,_=> .leaf b
 | .node l x y,c=>if ye c l=1 then x.restrictL c else if ye c l= -1 then y.restrictL c else joinQ l (x.restrictL (p6 (c++[l]))) (y.restrictL (p6 (c++[l.rev])))
def Cq{c:List ab}{l:ab}{p:aa}:e6 (c++[l]) p↔e6 c p/\0<l.value p:=by
 unfold e6;rw[List.forall_mem_append];simp
def K0{c:List ab}{l:ab}(hok: ∀m∈c,m.ok)(hl:l.ok): ∀m∈c++[l],m.ok:=by
 rw[List.forall_mem_append];exact⟨hok,by simpa using hl⟩
end Go.Sx
end
section
namespace Go.Sx
open Go Go.Proofs
structure Bq where
 lo:RV
 hi:RV
 nl:Bool
 nh:Bool
def Bq.v(z:Bq):Value:= .agg ⟨[.int .i64 z.lo.n, .int .i64 z.lo.d, .pointer z.lo.p, .int .i64 z.hi.n, .int .i64 z.hi.d, .pointer z.hi.p, .bool z.nl, .bool z.nh]⟩
section
variable {P:Program} {C:aA} {n:Nat} {fr:Fr} {own own' own1:List av} {G:Gh} {Φ:Act->World->Prop}
variable {dst:Option Nat} {t t' ty':TypeId} {pos:String} {af:Array Edge} {gd:Option (Nat×Bool)} {x y:Operand} {e s by_:Nat}
end
structure Ti (k:Nat) (G:Gh) (z:Bq) (v:aB):Prop where
 lo:tX k G z.lo v.lo
 hi:tX k G z.hi v.hi
 nl:z.nl=v.nl
 nh:z.nh=v.nh
def J7:List Int->Int
 |[]=>0
 |x::t=>if x≠0 then x else J7 t
def aGC(l m:ab):Int:=J7 [bO l.a m.a,bO l.b m.b,bO l.c m.c]
structure v8 where
 l:LV
 v:Bq
def v8.val(z:v8):Value:= .agg ⟨[.int .i64 z.l.a.n, .int .i64 z.l.a.d, .pointer z.l.a.p, .int .i64 z.l.b.n, .int .i64 z.l.b.d, .pointer z.l.b.p, .int .i64 z.l.c.n, .int .i64 z.l.c.d, .pointer z.l.c.p, .int .i64 z.v.lo.n, .int .i64 z.v.lo.d, .pointer z.v.lo.p, .int .i64 z.v.hi.n, .int .i64 z.v.hi.d, .pointer z.v.hi.p, .bool z.v.nl, .bool z.v.nh]⟩
structure VT (k:Nat) (G:Gh) (z:v8) (f:aP):Prop where
 l:Fh k G z.l f.l
 v:Ti (25*k+6) G z.v f.v
inductive qy {α β:Type} (R:α->β->Prop):List α->List β->Prop
 |nil:qy R [] []
 |cons {a b us bs} (h:R a b) (t:qy R us bs):qy R (a::us) (b::bs)
structure Rl (k:Nat) (G:Gh) (x:SV) (c:bw):Prop where
 ex: ∃fs:List v8,ee G 17 x (fs.map v8.val)/\qy (VT k G) fs c

section
variable {P:Program} {C:aA} {n:Nat} {fr:Fr} {own own':List av} {G:Gh} {Φ:Act->World->Prop}
variable {dst:Option Nat} {t t' ty':TypeId} {pos:String} {af:Array Edge} {gd:Option (Nat×Bool)} {x y:Operand} {e s by_:Nat}
end

section
variable {P:Program} {C:aA} {n:Nat} {fr:Fr} {own own':List av} {G:Gh} {Φ:Act->World->Prop}
variable {dst:Option Nat} {t t' ty':TypeId} {pos:String} {af:Array Edge} {gd:Option (Nat×Bool)} {x y:Operand} {e s by_:Nat}
end

def C5(k:Nat)(G:Gh):Tr->Option Addr->Prop
 | .leaf b,p=> ∃n,p=some ⟨n,0,none⟩/\G n=some [.int .i64 0, .int .i64 0, .pointer none, .int .i64 0, .int .i64 0, .pointer none, .int .i64 0, .int .i64 0, .pointer none, .pointer none, .pointer none, .bool b]
 | .node l x y,p=> ∃(n:Nat) (z:LV) (q r:Option Addr),p=some ⟨n,0,none⟩/\G n=some [.int .i64 z.a.n, .int .i64 z.a.d, .pointer z.a.p, .int .i64 z.b.n, .int .i64 z.b.d, .pointer z.b.p, .int .i64 z.c.n, .int .i64 z.c.d, .pointer z.c.p, .pointer q, .pointer r, .bool false]/\Fh k G z l/\C5 k G x q/\C5 k G y r
structure ND where
 a:IV
 b:IV
 c:IV
 l:Int
 r:Int
def ND.val(z:ND):Value:= .agg ⟨[.bool z.a.neg, .slice z.a.a.a z.a.a.n z.a.a.c, .bool z.b.neg, .slice z.b.a.a z.b.a.n z.b.a.c, .bool z.c.neg, .slice z.c.a.a z.c.a.n z.c.a.c, .int .i64 z.l, .int .i64 z.r]⟩
structure Ul (k:Nat) (G:Gh) (z:ND) (n:NQ):Prop where
 a:tP k G z.a n.l.a
 b:tP k G z.b n.l.b
 c:tP k G z.c n.l.c
 l:z.l=n.a
 r:z.r=n.b
structure Y5 (k:Nat) (G:Gh) (x:SV) (ns:List NQ):Prop where
 ex: ∃zs:List ND,ee G 8 x (zs.map ND.val)/\qy (Ul k G) zs ns
def aFq(n i:Nat):List Value:=(List.range n).map fun j=> .bool (decide (j<i))

def aDX(ob wb:Nat):Value:= .func (.func 170) #[] #[.pointer (some ⟨ob,0,none⟩), .pointer (some ⟨wb,0,none⟩)]
structure vX where
 x:SV
 p:Option Addr
def vX.val(z:vX):Value:= .agg ⟨[.slice z.x.a z.x.n z.x.c, .pointer z.p]⟩
structure Ts (k:Nat) (G:Gh) (z:vX) (b:Bool×bw):Prop where
 c:Rl k G z.x b.2
 t:C5 k G (.leaf b.1) z.p
structure ZL (k:Nat) (G:Gh) (w:SV) (ps:List (Bool×bw)):Prop where
 ex: ∃zs:List vX,ee G 2 w (zs.map vX.val)/\qy (Ts k G) zs ps
structure LI where
 a:IV
 b:IV
 c:IV
def LI.val(z:LI):Value:= .agg ⟨[.bool z.a.neg, .slice z.a.a.a z.a.a.n z.a.a.c, .bool z.b.neg, .slice z.b.a.a z.b.a.n z.b.a.c, .bool z.c.neg, .slice z.c.a.a z.c.a.n z.c.a.c]⟩
structure Ym (k:Nat) (G:Gh) (z:LI) (l:ab):Prop where
 a:tP k G z.a l.a
 b:tP k G z.b l.b
 c:tP k G z.c l.c
structure Zs (k:Nat) (G:Gh) (x:SV) (ls:List ab):Prop where
 ex: ∃zs:List LI,ee G 6 x (zs.map LI.val)/\qy (Ym k G) zs ls
structure aFm (k:Nat) (G:Gh) (x:SV) (ls:List ab):Prop where
 ex: ∃zs:List LV,ee G 9 x (zs.map LV.v)/\qy (Fh k G) zs ls
def sT{a b:Int}(h:a=b):eI a=eI b:=by rw[h]
def Dc(z:Int):eQ (z:Rat)= .ag [.v (.bool (decide (z<0))),dN z.natAbs, .sl []]:=by unfold eQ;rw[pJ,pK];rfl
def y6{a:Rat}(h:a.den=1):((a.num:Int):Rat)=a:=Rat.ext (pJ _) (by rw[pK,h])
def Vp{a b:Rat}(ha:a.den=1)(hb:b.den=1):a+b=((a.num+b.num:Int):Rat):=by
 rw[nT,y6 ha,y6 hb]
def Wq{a b:Rat}(ha:a.den=1)(hb:b.den=1):a*b=((a.num*b.num:Int):Rat):=by
 rw[cR,y6 ha,y6 hb]
def vC(n:Nat)(h:0<n):(if n=1 then [] else(dg n).map dU).length=0↔n=1:=by
 by_cases q:n=1
 ·simp[q]
 ·rw[if_neg q,aK,ve];omega
def Mq{n:Nat}(h:n≠1):dD n=dN n:=by unfold dD;rw[if_neg h];rfl
def CX{g:Nat}:(fq g 1=0)↔g=1:=by
 unfold fq;constructor
 ·intro h;split at h
  ·exact absurd h (by decide)
  ·split at h
   ·assumption
   ·exact absurd h (by decide)
 ·rintro rfl;rfl
def Hc{x:Int}{d:Nat}(hd:0<d):zv (decide (x<0)) (x.natAbs/Nat.gcd x.natAbs d)=(mkRat x d).num:=by
 rw[Rat.num_mkRat,if_neg (by omega),gS];have hg:0<Nat.gcd d x.natAbs:=lK _ hd;obtain⟨c,hc⟩:Nat.gcd d x.natAbs∣x.natAbs:=kV _ _;generalize Nat.gcd d x.natAbs=g at*;rw[hc,pS _ hg];unfold zv;by_cases q:x<0
 ·rw[if_pos (by simpa using q),show x=(g:Int)*(-(c:Int)) by rw[Int.mul_neg,<-jQ];omega,Int.mul_ediv_cancel_left _ (by omega)]
 ·rw[if_neg (by simpa using q),show x=(g:Int)*(c:Int) by rw[<-jQ];omega,Int.mul_ediv_cancel_left _ (by omega)]
def H5{x:Int}{d:Nat}(hd:0<d):d/Nat.gcd x.natAbs d=(mkRat x d).den:=by
 rw[Rat.den_mkRat,if_neg (by omega),gS]
def Om{x:Int}{d:Nat}(hd:0<d)(h:Nat.gcd x.natAbs d=1):(mkRat x d).num=x/\(mkRat x d).den=d:=by
 rw[<-Hc hd,<-H5 hd,h,rN,rN];exact⟨km x,J⟩
end Go.Sx
end
