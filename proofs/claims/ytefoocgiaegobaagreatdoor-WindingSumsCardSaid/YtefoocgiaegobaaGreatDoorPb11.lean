import Derived.Test.YtefoocgiaegobaaGreatDoorPb10
set_option linter.all false
set_option maxHeartbeats 4000000
set_option maxRecDepth 100000
section
namespace Go.Sx
open Go Go.Proofs Tryz
variable {GB:Gh}
def Kk{h l y:Nat}(hh:h<y)(hl:l<4294967296)(hy:y<4294967296):PF GB prog 341 [.v (.int .u32 (h:Int)), .v (.int .u32 (l:Int)), .v (.int .u32 (y:Int))] (.tp [dU ((h*4294967296+l)/y),dU ((h*4294967296+l)%y)]):=by
 refine fn (fu:=⟨11⟩) func341 J J ntmps341 J J (fun C=>?_);refine kT 10 J (by omega) ?_;refine gx (fu:=⟨4⟩) J<|?_;refine kF 14 J (by omega) ?_;refine gx (fu:=⟨11⟩) (hv:=by simp only[ab];exact⟨by omega,(by decide)⟩) J<|?_;refine ak 19 (.d (.v (.int .u64 (h*2^32:Nat)))) J (by show FX.d (.v (.int _ _))= .d (.v (.int _ _));rw[mf _ 32 (by decide) (by show _*4294967296<_;omega) J]) ?_;refine gx (fu:=⟨3⟩) J<|?_;refine ak 22 (.d (.v (.int .u64 (l+h*2^32:Nat)))) J (congrArg (fun z:Nat=>FX.d (.v (.int .u64 (z:Int)))) (by rw[BitVec.or_comm];exact rH 64 l h 32 hl (by show _+_*4294967296<18446744073709551616;omega))) ?_;obtain⟨t,ht⟩: ∃t,t=h*4294967296+l:=⟨_,rfl⟩;have hq:t/y<4294967296:=by rw[iW (by omega)];have:=dT 4294967296 (show h+1<=y from hh);omega
 have hr:t%y<y:=cY _ (by omega);refine ak 22 (.d (.v (.int .u64 (t:Nat)))) J (by show FX.d (.v (.int _ _))= .d (.v (.int _ _));congr 3;rw[ht];omega) ?_;refine gx (hv:=by simp only[ab];exact⟨⟨⟨⟨by omega,⟨(by omega),(by omega),(by omega)⟩⟩,by omega⟩,⟨(by omega),(by omega)⟩⟩,by kernel_rfl⟩) J<|?_;exact rz J (by show DV.tp [.v (.int _ _), .v (.int _ _)]= .tp [.v (.int _ _), .v (.int _ _)];rw[<-ht,<-nV,<-mZ];generalize t/y=q at*;generalize t%y=r at*;congr 4<;>(first|omega|(congr 3;omega)))
def Qv{A r i b:Nat}(d:Nat)(hb:0<b):(A*4294967296+d)/b=A/b*4294967296+(A%b*4294967296+d)/b/\(A*4294967296+d)%b=(A%b*4294967296+d)%b:=by
 have h:=oQ A b;have e:A*4294967296+d=(A%b*4294967296+d)+b*(A/b*4294967296):=by
  rw[<-bV,Nat.add_right_comm,<-cK,kW (A%b),h]
 rw[e,kQ _ _ hb,lX];exact⟨kW _ _,J⟩
def F5{ds:List Nat}{i:Nat}(h:i<ds.length):dv (ds.drop i)=dv (ds.drop (i+1))*4294967296+ds.getD i 0:=by
 rw[bM h,aJ,aZ h];simp only[dv,gV];omega
def Jm{W:List Nat}{i q:Nat}(h:i<W.length):dv ((W.set i q).drop i)=dv (W.drop (i+1))*4294967296+q:=by
 rw[F5 (by rw[aW];exact h),nT (by omega),If h]
def P3{a b k:Nat}{W:List Nat}(hb:0<b)(hk:k<(dg a).length)(hl:W.length=(dg a).length)(h:dv (W.drop (k+1))=dv ((dg a).drop (k+1))/b):
  dv ((W.set k ((dv ((dg a).drop (k+1))%b*4294967296+(dg a).getD k 0)/b)).drop k)=dv ((dg a).drop k)/b/\dv ((dg a).drop k)%b=(dv ((dg a).drop (k+1))%b*4294967296+(dg a).getD k 0)%b:=by
 have:=Qv (A:=dv ((dg a).drop (k+1))) (r:=0) (i:=0) ((dg a).getD k 0) hb;rw[Jm (by omega),h,F5 hk,this.1,this.2];exact⟨J,J⟩
def rF{a b:Nat}:eh a b<0↔a<b:=by unfold eh;split<;>(try split)<;>omega
def sY{a b:Nat}:0<eh a b↔b<a:=by unfold eh;split<;>(try split)<;>omega
def OL{x:Nat}(hx:x<4294967296):PF GB prog 366 [dU x] (vI (32-(bl x:Int))):=by
 intro G vs hg hv;obtain⟨v,m,rfl,h1,h2⟩:=bE.1 hv;rw[cb] at h2;subst h2;rw[ba.1 h1];exact(Cv hx).mono fun v G' _ h=>ba.2 h
def Fj{a k:Nat}(h:4294967296^k<=a):k<(dg a).length:=by
 have h1:=oD a;rcases fT k (dg a).length with q|q
 ·exact q
 ·have:4294967296^(dg a).length<=4294967296^k:=aM (by decide) q
  omega
def Fe{v L:Nat}(hL:L=(dg v).length)(h1:1<=L):(dg v).getD (L-1) 0=v/4294967296^(L-1)/\0<v/4294967296^(L-1):=by
 have h:=Bj (i4 v) (L-1);rw[pg (by omega:(dg v).length<=L-1+1),bD,nZ,cN] at h;have h2:=oD v;rw[<-hL] at h2;rw[gU (show v<4294967296^(L-1+2) from cR h2 (aM (by decide) (by omega))),nZ,cN] at h;have h3:=mw (dm v).2.2 (by intro e;rw[e] at hL;simp at hL;omega);rw[bD,<-hL] at h3;exact⟨h.symm,Nat.div_pos h3 (dZ (by decide))⟩
def BX{R n:Nat}(h1:1<=n)(h:R<4294967296^(n+1)):R/4294967296^(n-1)=(dg R).getD (n-1) 0+(dg R).getD n 0*4294967296:=by
 have e:=Bj (i4 R) (n-1);rw[bD,show n-1+1=n by omega,gU (show R<4294967296^(n-1+2) by rwa [show n-1+2=n+1 by omega]),nZ,cN,bK] at e;exact e
def TP{R v j L:Nat}(hL:L=(dg v).length)(h1:1<=L)(hR:R<v*4294967296^(j+1)):R/(v*4294967296^j)<=min (R/4294967296^(L+j-1)/(v/4294967296^(L-1))) 4294967295:=by
 have ht:=(Fe hL h1).2;have hp:0<4294967296^j:=dZ (by decide);have hv0:0<v:=by
  rcases dY v with q|q
  ·subst q;simp at ht
  ·exact q
 have hvp:0<v*4294967296^j:=gT hv0 hp;refine Nat.le_min.2 ⟨?_,?_⟩
 ·rw[pU ht,pU (dZ (by decide))]
  have h3:v/4294967296^(L-1)*4294967296^(L-1)<=v:=Nat.div_mul_le_self _ _;have h4:R/(v*4294967296^j)*(v*4294967296^j)<=R:=Nat.div_mul_le_self _ _;rw[show L+j-1=L-1+j by omega,dK]
  calc R/(v*4294967296^j)*(v/4294967296^(L-1))*(4294967296^(L-1)*4294967296^j)
    =R/(v*4294967296^j)*((v/4294967296^(L-1)*4294967296^(L-1))*4294967296^j):=by simp only[bV]
   _<=R/(v*4294967296^j)*(v*4294967296^j):=dT _ (bX _ h3)
   _<=R:=h4
 ·have:R/(v*4294967296^j)<4294967296:=by
   rw[iW hvp];rw[dL] at hR;rwa [bK,bV]
  omega
def xd{R V g:Nat}(hV:0<V)(h:R<V*g):R/V<g:=by
 rw[iW hV,bK];exact h
def MI{R V g:Nat}(hV:0<V)(h1:R/V<=g)(h2:V*g<=R):g=R/V:=by
 have:g<=R/V:=by rw[pU hV,bK];exact h2
 omega
def HB{R0 R v j g:Nat}{W:List Nat}(hj:j<W.length)(h:R0=R+dv (W.drop (j+1))*4294967296^(j+1)*v)(hv:0<v*4294967296^j)(hg:g=R/(v*4294967296^j)):
  R0=(R-v*4294967296^j*g)+dv ((W.set j g).drop j)*4294967296^j*v/\R-v*4294967296^j*g<v*4294967296^j:=by
 have h1:=oQ R (v*4294967296^j);have h2:=cY R hv;rw[<-hg] at h1;refine⟨?_,by omega⟩;rw[Jm hj,cK,cK,h,dL];have e:g*4294967296^j*v=v*4294967296^j*g:=by simp only[bV,jJ,bK]
 have e2:dv (W.drop (j+1))*(4294967296^j*4294967296)*v=dv (W.drop (j+1))*4294967296*4294967296^j*v:=by simp only[bV,jJ,bK]
 rw[e,e2];omega
def MD{a b s R:Nat}{D:Nat}(hR:R<b*2^s)(h:a*2^s=R+D*(b*2^s)):D=a/b/\R/2^s=a%b:=by
 have hp:0<2^s:=dZ (by decide);have hb:0<b:=by
  rcases dY b with q|q
  ·subst q;simp at hR
  ·exact q
 have h1:a=R/2^s+D*b:=by
  have:=congrArg (· /2^s) h;rw[Nat.mul_div_cancel _ hp,<-bV,Nat.add_mul_div_right _ _ hp] at this;exact this
 have h2:R/2^s<b:=by rw[iW hp];exact hR
 have h3:R/2^s+b*D=a:=by rw[bK b];exact h1.symm
 have:=(Nat.div_mod_unique hb).2 ⟨h3,h2⟩;exact⟨this.1.symm,this.2.symm⟩
def Nr{a b s:Nat}(hl:(dg b).length<=(dg a).length)(h2:1<=(dg b).length):a*2^s<b*2^s*4294967296^((dg a).length-(dg b).length+1):=by
 have h1:=oD a;have h3:=mw (dm b).2.2 (by intro e;rw[e] at h2;simp at h2);rw[bD] at h3;have h4:4294967296^(dg a).length<=b*4294967296^((dg a).length-(dg b).length+1):=by
  rw[show(dg a).length=((dg b).length-1)+((dg a).length-(dg b).length+1) by omega,dK];rw[show(dg b).length-1+((dg a).length-(dg b).length+1)-(dg b).length+1=(dg a).length-(dg b).length+1 by omega];exact bX _ h3
 rw[oY];exact jQ (cR h1 h4) (dZ (by decide))
def Hp(x j:Nat):x*2^(32*j)=x*4294967296^j:=by rw[mN]
def O0{R L j:Nat}(h:R<4294967296^(L+j+1))(h1:1<=L):R/4294967296^(L+j-1)<18446744073709551616:=by
 rw[iW (dZ (by decide)),show(18446744073709551616:Nat)=4294967296^2 from J,<-dK];rwa [show 2+(L+j-1)=L+j+1 by omega]
def R1{R v j L:Nat}(hL:L=(dg v).length)(hR:R<v*4294967296^(j+1)):R<4294967296^(L+j+1):=by
 have h:=oD v;rw[<-hL] at h;rw[jZ,dK];exact cR hR (bX _ (mW h))
def Nb{a b ia ib:Nat}[ha:BN a ia][hb:BN b ib](hi:ia<=500000000)(hj:ib<=500000000)(h2:1<=(dg b).length)(hl:(dg b).length<=(dg a).length):PF GB prog 342 [dN a,dN b] (.tp [dN (a/b),dN (a%b)]):=by
 have hla:=d5 (dg a);have hlb:=d5 (dg b);have hba:=jH ha.h;have hba':(dg a).length<=20000000:=by omega
 refine fn func342 J J ntmps342 J J (fun C=>?_);refine ix _ J (en (k:=(dg b).length-1) (by omega) (by omega)) J<|cl (fu:=⟨0⟩) J (OL (eG b ((dg b).length-1))) J<|?_;obtain⟨s,hs⟩: ∃s:Nat,s=32-bl ((dg b).getD ((dg b).length-1) 0):=⟨_,rfl⟩;have hs32:s<=32:=by omega
 refine ak 22 (.d (vI (s:Nat))) J (by show FX.d (.v (.int _ _))= .d (.v (.int _ _));congr 3;have:=kd.2 (show(dg b).getD ((dg b).length-1) 0<2^32 from eG b _);omega) ?_;refine gx J<|cl J (wN (a:=b) (k:=s) (ia:=ib) (by omega) (by omega)) J<|cl (fu:=⟨0⟩) J (wN (a:=a) (k:=s) (ia:=ia) (by omega) (by omega)) J<|?_;obtain⟨v,hv⟩: ∃v,v=b*2^s:=⟨_,rfl⟩;obtain⟨R0,hR0⟩: ∃R0,R0=a*2^s:=⟨_,rfl⟩;refine ak 25 (.d (dN v)) J (by rw[hv]) ?_;refine ak 28 (.d (dN R0)) J (by rw[hR0]) ?_;obtain⟨L,hL⟩: ∃L,L=(dg v).length:=⟨_,rfl⟩;have hlv:((dg v).map dU).length=L:=by rw[d5,hL]
 have hps:2^s<=2^32:=aM (by decide) hs32;have hpp:0<2^s:=dZ (by decide);have hst:=Nr (a:=a) (b:=b) (s:=s) hl h2;rw[<-hv,<-hR0] at hst;have hvb:v<2^(ib+32):=by rw[hv,dK];exact kN hb.h hps (by decide)
 have hRb:R0<2^(ia+32):=by rw[hR0,dK];exact kN ha.h hps (by decide)
 have hbp:0<b:=fS (fun q=>by subst q;rw[uD] at h2;simp at h2);have hvp:0<v:=hv▸gT hbp hpp;have hLp:1<=L:=by rw[hL];exact Fj (k:=0) (by rw[pQ];exact hvp)
 have htop:=Fe hL hLp;haveI hvB:BN v (ib+32):=⟨hvb⟩;have hLb:=jH hvb;have hLb':L<=20000000:=by omega
 have htl:=eG v (L-1);refine gx (fu:=⟨9⟩) J<|?_;refine ak 31 (.d (vI (L:Nat))) J (by rw[hlv];rfl) ?_;refine gx J<|ix (fu:=⟨2⟩) _ J (en (k:=L-1) (by omega) (by omega)) J<|?_;refine ak 35 (.d (.v (.int .u64 (v/4294967296^(L-1):Nat)))) J (by rw[htop.1]) ?_;rw[htop.1] at htl;refine gx (fu:=⟨11⟩) J<|?_;obtain⟨m,hm⟩: ∃m,m=(dg a).length-(dg b).length+1:=⟨_,rfl⟩;rw[<-hm] at hst;have hrl:(List.replicate ((m:Nat):Int).toNat (DV.v (.int .u32 0))).length=m:=by rw[aK,bY]
 refine ak 41 (.d (vI (m:Nat))) J (by show FX.d (.v (.int _ _))= .d (.v (.int _ _));congr 3;omega) ?_;refine gx J<|mk ((List.replicate m 0).map dU) J J (by rw[<-qD];rfl) J<|?_;refine lp (X:=List Nat×Nat×Nat) (fun⟨W,R,k⟩=>[(6, .d (vI (s:Nat))),(7, .d (dN v)),(8, .d (dN R)),(9, .d (.v (.int .u64 (v/4294967296^(L-1):Nat)))),(10, .rw 42),(11, .d (vI ((k:Nat)-1)))]) (fun⟨W,R,k⟩=>[(42,some (.b 366 1 (W.map dU) true))]) (fun⟨W,R,k⟩=>W.length=m/\aP W/\k<=m/\R0=R+dv (W.drop k)*4294967296^k*v/\R<v*4294967296^k/\R<=R0) (fun⟨W,R,k⟩=>k) ⟨List.replicate m 0,R0,m⟩ J ⟨by simp, .replicate _,aR _,by simp[dv],hst,aR _⟩ (fun _=>J) (fun⟨W,R,k⟩ hk=>?_);dsimp only at hk⊢;obtain⟨h1,h2',h3,h4,h5,h6⟩:=hk;have hlw:=d5 W;refine br (fu1:=⟨10⟩) J J J (fun hc47=>?_) (fun hc47=>?_)
 .
  obtain⟨j,rfl⟩: ∃j,k=j+1:=⟨k-1,by omega⟩;have hvj:0<v*4294967296^j:=gT hvp (dZ (by decide));have hge:=TP hL hLp h5;have hlen:=R1 hL h5;have hlr:((dg R).map dU).length=(dg R).length:=d5 _;haveI hRB:BN R (ia+32):=⟨by omega⟩;have hq32:R/(v*4294967296^j)<4294967296:=by omega
  have hz1:=Int.natCast_nonneg (R/4294967296^(L+j-1));have hz2:=Int.natCast_nonneg (R/4294967296^(L+j-1)/(v/4294967296^(L-1)));refine ak 11 (.d (vI (j:Nat))) J (by show FX.d (.v (.int _ _))= .d (.v (.int _ _));congr 3;omega) ?_;refine mg (fu:=⟨6⟩) (hv:=fun _ _=>by simp only[ab];exact⟨(by omega),(by have:=O0 hlen hLp;omega),(by omega)⟩) (X:=Unit) (fun _=>[(6, .d (vI (s:Nat))),(7, .d (dN v)),(8, .d (dN R)),(9, .d (.v (.int .u64 (v/4294967296^(L-1):Nat)))),(10, .rw 42),(11, .d (vI (j:Nat))),(12, .d (.v (.int .u64 (R/4294967296^(L+j-1):Nat))))]) (fun _=>[(42,some (.b 366 1 (W.map dU) true))]) (fun _=>True) [6,7,8,9,10,11,12] [42] rfl ?_ (fun _=>J) (fun _ hm=>?_)
  .
   refine gx (fu:=⟨4⟩) J<|?_;refine ak 51 (.d (vI (L:Nat))) J (by rw[hlv];rfl) ?_;refine gx (fu:=⟨2⟩) J<|?_;refine ak 53 (.d (vI (L+j:Nat))) J (by show FX.d (.v (.int _ _))= .d (.v (.int _ _));congr 3) ?_;refine gx (fu:=⟨8⟩) J<|?_;refine ak 56 (.d (vI ((dg R).length:Nat))) J (by rw[hlr];rfl) ?_;refine gx J<|?_;refine br (fu2:=⟨6⟩) J J J (fun hc57=>?_) (fun hc57=>?_)
   .
    have hd0:=eG R (L+j-1);have hd1:=eG R (L+j);refine ix (hv:=by simp only[ab];exact⟨⟨by omega,(by decide)⟩,by omega⟩) _ J (en (k:=L+j) (by omega) (by omega)) J<|ix (fu:=⟨3⟩) _ J (en (k:=L+j-1) (by omega) (by omega)) J<|?_;refine ak 70 (.d (.v (.int .u64 ((dg R).getD (L+j-1) 0+(dg R).getD (L+j) 0*4294967296:Nat)))) J (congrArg (fun z:Nat=>FX.d (.v (.int .u64 (z:Int)))) (by rw[mf _ 32 (by decide) (by show _*4294967296<_;omega) J,BitVec.or_comm];exact rH 64 ((dg R).getD (L+j-1) 0) ((dg R).getD (L+j) 0) 32 hd0 (by show _+_*4294967296<18446744073709551616;omega))) ?_;refine gx J<|?_;refine ak 12 (.d (.v (.int .u64 (R/4294967296^(L+j-1):Nat)))) J (by rw[BX (by omega) hlen]) ?_;exact at_ () trivial
   .
    refine ak 74 (.d (vI ((dg R).length:Nat))) J (by rw[hlr];rfl) ?_;refine gx J<|?_;refine br J J J (fun hc75=>?_) (fun hc75=>?_)
    .
     have hd0:=eG R (L+j-1);refine ix _ J (en (k:=L+j-1) (by omega) (by omega)) J<|?_;refine ak 12 (.d (.v (.int .u64 (R/4294967296^(L+j-1):Nat)))) J (by rw[BX (by omega) hlen,pg (by omega:(dg R).length<=L+j),jL,cN]) ?_;exact at_ () trivial
    .
     refine ak 12 (.d (.v (.int .u64 (R/4294967296^(L+j-1):Nat)))) J (by rw[BX (by omega) hlen,pg (by omega:(dg R).length<=L+j),pg (by omega:(dg R).length<=L+j-1)];rfl) ?_;exact at_ () trivial
  .
   obtain⟨g0,hg0'⟩: ∃g0,g0=min (R/4294967296^(L+j-1)/(v/4294967296^(L-1))) 4294967295:=⟨_,rfl⟩;rw[<-hg0'] at hge;have hg0:=hge;have hg1:g0<=4294967295:=by omega
   refine ak 85 (.d (.v (.int .u64 (g0:Nat)))) J (by show FX.d (.v (.int _ _))= .d (.v (.int _ _));congr 3;rw[<-nV];split<;>omega) ?_;refine gx J<|cl J (n8 (u:=g0) (by omega)) J<|cl (fu:=⟨2⟩) J (p9 (ia:=ib+32) (ib:=32) (hb:=⟨by show _<4294967296;omega⟩) (by omega) (by decide)) J<|?_;refine ak 91 (.d (vI (32*j:Nat))) J (by show FX.d (.v (.int _ _))= .d (.v (.int _ _));congr 3) ?_;refine gx J<|cl (fu:=⟨0⟩) J (wN (k:=32*j) (ia:=ib+64) (ha:=⟨by rw[show ib+64=ib+32+32 by omega,dK];exact kS hvb (by show _<4294967296;omega)⟩) (by omega) (by omega)) J<|?_;refine ak 92 (.d (dN (v*4294967296^j*g0))) J (by rw[Hp,oY]) ?_;refine gx J<|?_;refine lp (X:=Nat) (fun g=>[(6, .d (vI (s:Nat))),(7, .d (dN v)),(8, .d (dN R)),(9, .d (.v (.int .u64 (v/4294967296^(L-1):Nat)))),(10, .rw 42),(11, .d (vI (j:Nat))),(14, .d (.v (.int .u64 (g:Nat)))),(15, .d (dN (v*4294967296^j*g)))]) (fun g=>[(42,some (.b 366 1 (W.map dU) true))]) (fun g=>R/(v*4294967296^j)<=g/\g<=4294967295) (fun g=>g) g0 J ⟨hg0,by omega⟩ (fun _=>J) (fun g hk=>?_);obtain⟨g1,g2⟩:=hk;have hlw:=d5 W;refine cl J (tg (a:=v*4294967296^j*g) (b:=R) (by have:=w9 (a:=v*4294967296^j*g) (k:=L+j+1) (by have h1:=oD v;rw[<-hL] at h1;rw[dL,dK];exact kS (jQ h1 (dZ (by decide))) (by omega));omega) (by have:=w9 hlen;omega)) J<|?_;refine br (fu1:=⟨7⟩) (v1:=fun hc96=>by simp only[ab];exact(by have h:=xd hvj (sY.1 hc96);have h1:1<=g:=fZ (bL _) h;omega)) (fu2:=⟨11⟩) J J J (fun hc96=>?_) (fun hc96=>?_)
   .
    have hgd:=xd hvj (sY.1 hc96);have hg1p:1<=g:=fZ (bL _) hgd;refine ak 98 (.d (.v (.int .u64 ((g-1:Nat):Int)))) J (by show FX.d (.v (.int _ _))= .d (.v (.int _ _));congr 3;omega) ?_;refine gx J<|cl J (n8 (u:=g-1) (by omega)) J<|cl (fu:=⟨2⟩) J (p9 (ia:=ib+32) (ib:=32) (hb:=⟨by show _<4294967296;omega⟩) (by omega) (by decide)) J<|?_;refine ak 104 (.d (vI (32*j:Nat))) J (by show FX.d (.v (.int _ _))= .d (.v (.int _ _));congr 3) ?_;refine gx J<|cl (fu:=⟨0⟩) J (wN (k:=32*j) (ia:=ib+64) (ha:=⟨by rw[show ib+64=ib+32+32 by omega,dK];exact kS hvb (by show _<4294967296;omega)⟩) (by omega) (by omega)) J<|?_;refine ak 105 (.d (dN (v*4294967296^j*(g-1)))) J (by rw[Hp,oY]) ?_;refine gx J<|?_;exact at_ (g-1) ⟨⟨by have h:=xd hvj (sY.1 hc96);omega,by omega⟩,(by have:=xd hvj (sY.1 hc96);omega)⟩
   .
    have hgq:=MI hvj g1 (pR fun q=>hc96 (sY.2 q));refine ak 109 (.d (dU g)) J (by show FX.d (.v (.int _ _))= .d (.v (.int _ _));congr 3;omega) ?_;refine gx J<|sb _ ((W.set j (R/(v*4294967296^j))).map dU) J (en (k:=j) (by omega) (by omega)) J (by(rw[<-hgq,bY,<-oq])<;>rfl) J<|?_;refine cl (fu:=⟨0⟩) J (Bl (a:=R) (b:=v*4294967296^j*g) (ia:=ia+32) (by rw[hgq];exact Nat.mul_div_le _ _) (by omega)) J<|?_;refine ak 113 (.d (dN (R-v*4294967296^j*(R/(v*4294967296^j))))) J (by rw[hgq]) ?_;refine gx J<|?_;exact at_ ⟨W.set j (R/(v*4294967296^j)),R-v*4294967296^j*(R/(v*4294967296^j)),j⟩ (by dsimp only;exact⟨⟨by simpa using h1,h2'.set _ (by omega),by omega,(HB (by omega) h4 hvj J).1,(HB (by omega) h4 hvj J).2,by omega⟩,(by omega)⟩)
 .
  obtain rfl:k=0:=by omega
  rw[pQ,iM] at h5;rw[pQ,iM,gJ,hR0,hv] at h4;rw[hv] at h5;have hend:=MD h5 h4;haveI hRB:BN R (ia+32):=⟨by omega⟩;refine fz 42 J J<|cl J (nO (ds:=W) (by omega)) J<|cl J (Ov (a:=R) (k:=s) (ia:=ia+32) (by omega) (by omega)) J<|?_;exact rz J (by show DV.tp [d8 _,dN _]= .tp [dN _,dN _];rw[n5 h2' hend.1,hend.2])
def SU{a b:Nat}(h:b<=a):(dg b).length<=(dg a).length:=w9 (fZ h (oD a))
def AO{a b ia ib:Nat}[ha:BN a ia][hb:BN b ib](hb0:0<b)(hi:ia<=500000000:=by decide)(hj:ib<=500000000:=by decide):PF GB prog 247 [dN a,dN b] (.tp [dN (a/b),dN (a%b)]):=by
 have hla:=d5 (dg a);have hlb:=d5 (dg b);have hba:=jH ha.h;have hbb:=jH hb.h;have hba':(dg a).length<=20000000:=by omega
 have hbb':(dg b).length<=20000000:=by omega
 have hlb1:1<=(dg b).length:=Fj (k:=0) (by rw[pQ];exact hb0);refine fn (fu:=⟨7⟩) func247 J J ntmps247 J J (fun C=>?_);refine mg (X:=Unit) (fun _=>[(0, .d (dN a)),(1, .d (dN b))]) (fun _=>[]) (fun _=>True) [0,1] [] rfl ?_ (fun _=>J) (fun _ hm=>?_)
 .
  refine gx J<|cl J (wC (a:=a) (ia:=ia) (by omega)) J<|?_;refine bd (fu1:=⟨0⟩) J J J (fun hc18=>?_) (fun hc18=>?_)
  .
   refine ak 6 (.d (.v (.int .u64 (a:Nat)))) J (by rw[if_pos hc18]) ?_;refine gx J<|cl J (wC (a:=b) (ia:=ib) (by omega)) J<|?_;refine bd (fu1:=⟨0⟩) J J J (fun hc24=>?_) (fun hc24=>?_)
   .
    refine ak 8 (.d (.v (.int .u64 (b:Nat)))) J (by rw[if_pos hc24]) ?_;have hdl:=iT a b;have hml:=Nat.mod_le a b;refine gx (hv:=by simp only[ab];exact⟨(by omega),(by omega),(by omega)⟩) J<|cl (hv:=by simp only[ab];exact⟨(by omega),(by omega)⟩) J (n8 (u:=a/b) (by omega)) J<|cl J (n8 (u:=a%b) (by omega)) J<|?_;exact rz J J
   .
    exact at_ () trivial
  .
   exact at_ () trivial
 .
  refine cl J (tg (by omega) (by omega)) J<|?_;refine br J J J (fun hc36=>?_) (fun hc36=>?_)
  .
   have hab:=rF.1 hc36;refine wx J J<|ap _ J J (qo _) J<|?_;refine ki 39 J ?_;exact rz J (by show DV.tp [_, .sl ([]++_)]= .tp [_,_];rw[gU hab,dQ hab,BO];rfl)
  .
   have hab:b<=a:=pR fun q=>hc36 (rF.2 q);have hlab:(dg b).length<=(dg a).length:=SU hab;refine br (fu1:=⟨4⟩) J J J (fun hc42=>?_) (fun hc42=>?_)
   .
    have hb1:b<4294967296:=by have:=oD b;rw[show(dg b).length=1 by omega] at this;omega
    have hbd:(dg b).getD 0 0=b:=sF (by omega);refine ak 44 (.d (vI ((dg a).length:Nat))) J (by rw[hla];rfl) ?_;refine gx J<|mk (fu:=⟨13⟩) ((List.replicate (dg a).length 0).map dU) J J (by rw[<-qD];rfl) J<|?_;refine ak 47 (.d (vI ((dg a).length:Nat))) J (by rw[hla];rfl) ?_;refine gx J<|?_;refine lp (X:=List Nat×Nat) (fun⟨W,k⟩=>[(0, .d (dN a)),(1, .d (dN b)),(10, .rw 45),(11, .d (dU (dv ((dg a).drop k)%b))),(12, .d (vI ((k:Nat)-1)))]) (fun⟨W,k⟩=>[(45,some (.b 366 1 (W.map dU) true))]) (fun⟨W,k⟩=>W.length=(dg a).length/\aP W/\k<=(dg a).length/\dv (W.drop k)=dv ((dg a).drop k)/b) (fun⟨W,k⟩=>k) ⟨List.replicate (dg a).length 0,(dg a).length⟩ J ⟨by simp, .replicate _,aR _,by simp[dv]⟩ (fun _=>J) (fun⟨W,k⟩ hk=>?_) (hF:=(by refine⟨J,J,J,kj J (by simp[dv,dU]),kj J (by simp[vI]),?_⟩;repeat (first|exact trivial|refine And.intro J ?_)))
    try dsimp only at hk⊢
    obtain⟨h1,h2,h3,h4⟩:=hk;have hlw:=d5 W;refine br (fu1:=⟨0⟩) J J J (fun hc50=>?_) (fun hc50=>?_)
    .
     obtain⟨k,rfl⟩: ∃j,k=j+1:=⟨k-1,by omega⟩;have hsi:=P3 hb0 (by omega) h1 h4;have hrm:=cY (dv ((dg a).drop (k+1))) hb0;have hdk:=eG a k;have hqd:(dv ((dg a).drop (k+1))%b*4294967296+(dg a).getD k 0)/b<4294967296:=by rw[iW hb0];have:=dT 4294967296 (show dv ((dg a).drop (k+1))%b+1<=b from hrm);omega
     refine ak 12 (.d (vI (k:Nat))) J (by show FX.d (.v (.int _ _))= .d (.v (.int _ _));congr 3;omega) ?_;refine gx J<|ix _ J (en (k:=k) (by omega) (by omega)) J<|ix _ J (en (k:=0) J (by omega)) J<|cl J (Kk (h:=dv ((dg a).drop (k+1))%b) (l:=(dg a).getD k 0) (y:=(dg b).getD 0 0) (by omega) hdk (by omega)) J<|?_;refine sb (hv:=by simp only[ab];exact⟨by kernel_rfl,by omega⟩) _ ((W.set k ((dv ((dg a).drop (k+1))%b*4294967296+(dg a).getD k 0)/b)).map dU) J (en (k:=k) (by omega) (by omega)) J (by(rw[hbd,bY,<-oq])<;>rfl) J<|?_;exact at_ ⟨W.set k ((dv ((dg a).drop (k+1))%b*4294967296+(dg a).getD k 0)/b),k⟩ (by dsimp only;exact⟨⟨by simpa using h1,h2.set _ hqd,by omega,hsi.1⟩,(by omega)⟩) (by refine⟨J,J,J,kj J (by rw[hsi.2,hbd]),kj J (by first|(simp[vI];done)|(simp[vI];omega)),?_⟩;repeat (first|exact trivial|refine And.intro J ?_))
    .
     refine fz 45 J J<|cl J (nO (ds:=W) (by omega)) J<|rf J J<|cl J (nO (ds:=[dv ((dg a).drop k)%b]) (by simp)) J<|?_;exact rz rfl (by show DV.tp [d8 _,d8 _]= .tp [_,_];obtain rfl:k=0:=(by omega);rw[gJ,gJ,bD] at h4;rw[gJ,bD];rw[n5 h2 h4,n5 (.cons (by have:=cY a hb0;omega) .nil) (n:=a%b) (by simp[dv])])
   .
    refine cl J (Nb (by omega) (by omega) hlb1 hlab) J<|?_;exact rz J J
def DH(x y:Nat):Nat.gcd y (x%y)=Nat.gcd x y:=by rw[fM x y,qT y x,fM]
def Td{a b ia ib:Nat}[ha:BN a ia][hb:BN b ib](hi:ia<=240000000:=by decide)(hj:ib<=240000000:=by decide):PF GB prog 186 [dN a,dN b] (dN (Nat.gcd a b)):=by
 refine fn (fu:=⟨6⟩) func186 J J ntmps186 J J (fun C=>?_);refine mg (X:=Unit) (fun _=>[(0, .d (dN a)),(1, .d (dN b))]) (fun _=>[]) (fun _=>True) [0,1] [] rfl ?_ (fun _=>J) (fun _ hm=>?_)
 .
  refine gx J<|cl J (wC (a:=a) (ia:=ia) (by omega)) J<|?_;refine bd (fu1:=⟨0⟩) J J J (fun hc16=>?_) (fun hc16=>?_)
  .
   refine ak 5 (.d (.v (.int .u64 (a:Nat)))) J (by rw[if_pos hc16]) ?_;refine gx J<|cl J (wC (a:=b) (ia:=ib) (by omega)) J<|?_;refine bd (fu1:=⟨0⟩) J J J (fun hc22=>?_) (fun hc22=>?_)
   .
    refine ak 7 (.d (.v (.int .u64 (b:Nat)))) J (by rw[if_pos hc22]) ?_;refine gx J<|?_;refine lp (X:=Nat×Nat) (fun⟨x,y⟩=>[(5, .d (.v (.int .u64 (x:Nat)))),(7, .d (.v (.int .u64 (y:Nat))))]) (fun⟨x,y⟩=>[]) (fun⟨x,y⟩=>x<18446744073709551616/\y<18446744073709551616/\Nat.gcd x y=Nat.gcd a b) (fun⟨x,y⟩=>y) ⟨a,b⟩ J ⟨hc16,hc22,J⟩ (fun _=>J) (fun⟨x,y⟩ hk=>?_)
    try dsimp only at hk⊢
    obtain⟨h1,h2,h3⟩:=hk;refine br (v1:=fun hc24=>by simp only[ab];exact⟨⟨(by omega),(by omega)⟩,by kernel_rfl⟩) J J J (fun hc24=>?_) (fun hc24=>?_)
    .
     exact at_ ⟨y,x%y⟩ (by dsimp only;exact⟨⟨h2,by have:=cY x (show 0<y by omega);omega,by rw[DH,h3]⟩,(by exact cY _ (by omega))⟩)
    .
     refine cl J (n8 (u:=x) h1) J<|?_;exact rz J (by show dN x=_;rw[<-h3,show y=0 by omega,kM])
   .
    exact at_ () trivial
  .
   exact at_ () trivial
 .
  refine lp (fu:=⟨5⟩) (X:=Nat×Nat) (fun⟨x,y⟩=>[(0, .d (dN x)),(1, .d (dN y))]) (fun⟨x,y⟩=>[]) (fun⟨x,y⟩=>x<2^(ia+ib)/\y<2^(ia+ib)/\Nat.gcd x y=Nat.gcd a b) (fun⟨x,y⟩=>y) ⟨a,b⟩ J ⟨(ha.mono (by omega)).h,(hb.mono (by omega)).h,J⟩ (fun _=>J) (fun⟨x,y⟩ hk=>?_)
  try dsimp only at hk⊢
  obtain⟨h1,h2,h3⟩:=hk;have hly:=d5 (dg y);haveI hx':BN x (ia+ib):=⟨h1⟩;haveI hy':BN y (ia+ib):=⟨h2⟩;refine ak 32 (.d (vI ((dg y).length:Nat))) J (by rw[hly];rfl) ?_;refine gx J<|?_;refine br J J J (fun hc33=>?_) (fun hc33=>?_)
  .
   have hy0:0<y:=fS fun q=>by subst q;rw[uD] at hc33;simp at hc33
   refine cl J (AO (a:=x) (b:=y) (ia:=ia+ib) (ib:=ia+ib) hy0 (by omega) (by omega)) J<|?_;exact at_ ⟨y,x%y⟩ (by dsimp only;exact⟨⟨h2,by have:=cY x hy0;omega,by rw[DH,h3]⟩,(by exact cY _ hy0)⟩)
  .
   have hy0:y=0:=sH.1 (by omega);have hlx:=jH h1;have hmx:=d5 (dg x);refine wx J J<|ap _ J J (qo _) J<|?_;refine ki 44 J ?_;exact rz J (by show DV.sl ([]++_)=_;rw[<-h3,hy0,kM];rfl)
def I2(neg:Bool)(m:Nat):eI (zv neg m)= .ag [.v (.bool (neg&&decide (0<m))),dN m]:=by unfold eI;rw[ll,HX]
def Ua(z:Int):zv (!decide (z<0)) z.natAbs= -z:=by
 unfold zv;by_cases h:z<0<;>simp[h]<;>omega
def Kr(a b:Int):zv (!(decide (a<0)==decide (b<0))) (a.natAbs*b.natAbs)=a*b:=by
 have h:=E6 (decide (a<0)) (decide (b<0)) a.natAbs b.natAbs;rw[i8,i8] at h;exact h
def kr{neg:Bool}{m:Nat}:PF GB prog 217 [.v (.bool neg),dN m] (eI (zv neg m)):=by
 have hl:=d5 (dg m);have hz:= @sH m;refine fn func217 J J ntmps217 J J (fun C=>?_);refine jP 6 J J J (fun hg6=>?_) (fun hg6=>?_)
 .
  exact rz J (by rw[I2,hg6];show DV.ag [.v (.bool _),_]= .ag [.v (.bool _),_];congr 4;rw[Bool.true_and];exact decide_eq_decide.2 (by omega))
 .
  exact rz J (by rw[I2,hg6];rfl)
end Go.Sx
end
section
namespace Go.Sx
open Go
instance:DecidableEq ah:=fun x y=>decidable_of_iff (x.a=y.a/\x.b=y.b/\x.c=y.c) (by
 cases x;cases y;simp)
structure bi where
 lo:Rat
 hi:Rat
 nl:Bool
 nh:Bool
def bi.all:bi:=⟨0,0,true,true⟩
def bi.empty(v:bi):Bool:=!v.nl&&(!v.nh&&decide (0<=bv v.lo v.hi))
def bi.meet(v w:bi):bi:=
 ⟨if v.nl then w.lo else if w.nl then v.lo else if v.lo<w.lo then w.lo else v.lo,
  if v.nh then w.hi else if w.nh then v.hi else if w.hi<v.hi then w.hi else v.hi,v.nl&&w.nl,v.nh&&w.nh⟩
def bi.sample(v:bi):Rat:=if v.nl&&v.nh then 0 else if v.nl then v.hi-1 else if v.nh then v.lo+1 else(v.lo+v.hi)*mkRat 1 2
def ah.cutK(l m:ah):Rat:=m.nor.dot l.dir
def ah.cutC(l m:ah):Rat:=m.value l.base
def ah.cutV(l:ah)(v:bi)(m:ah):bi:=
 if Int.sign (l.cutK m).num=0 then v
 else if Int.sign (l.cutK m).num=1 then v.meet ⟨-(l.cutC m/l.cutK m),0,false,true⟩
 else v.meet ⟨0, -(l.cutC m/l.cutK m),true,false⟩
def ah.cutB(l:ah)(v:bi)(m:ah):Bool:=
 if Int.sign (l.cutK m).num=0 then decide (0<Int.sign (l.cutC m).num) else !(l.cutV v m).empty
structure bg where
 l:ah
 v:bi
abbrev bO:=List bg
def Dv(l:ah):bO->bi->Option bi
 |[],v=>some v
 |s::t,v=>if l.cutB v s.l then Dv l t (l.cutV v s.l) else none
def AG(c:bO)(l:ah):Option bi:=Dv l c bi.all
def EA(l:ah)(s:bg):Int:=Int.sign (l.value (s.l.at s.v.sample)).num
def Fq(l:ah):bO->Int
 |[]=> -1
 |s::t=>if EA l s≠0 then EA l s else if s.l=l then 1 else Fq l t
def Py(c:bO)(l:ah):Int:=if(AG c l).isSome then 0 else Fq l c
def aa.half(p:aa):Int:=
 if 0<Int.sign p.y.num\/(Int.sign p.y.num=0/\0<Int.sign p.x.num) then 1 else if Int.sign p.y.num<0\/Int.sign p.x.num<0 then 2 else 0
def ce(u v:aa):Int:=if u.half<v.half then-1 else if v.half<u.half then 1 else-(Int.sign (u.cross v).num)
def AI(l:ah):bO->bO
 |[]=>[]
 |s::t=>if s.l.cutB s.v l then⟨s.l,s.l.cutV s.v l⟩::AI l t else AI l t
def vO(p:Nat->Bool)(i j:Nat):Nat:=
 if h:i<j then(if p ((i+j)/2) then vO p ((i+j)/2+1) j else vO p i ((i+j)/2)) else i
termination_by j-i
def HD(c:bO)(l:ah)(i:Nat):Bool:=match c[i]? with
 |some s=>decide (ce s.l.dir l.dir<0)
 |none=>false
def PZ(c:bO)(l:ah)(v:bi):bO:=
 c.take (vO (HD c l) 0 c.length)++⟨l,v⟩::c.drop (vO (HD c l) 0 c.length)
def iD(c:bO)(l:ah):bO:=match AG c l with
 |some v=>PZ (AI l c) l v
 |none=>c
def jc(c:bO)(l:ah):Bool:=match AG c l with
 |some _=>true
 |none=>decide (0<Py c l)
inductive Tr where
 |leaf (b:Bool)
 |node (l:ah) (x y:Tr)
def Tr.isLeaf:Tr->Bool
 | .leaf _=>true
 | .node .. =>false
def Tr.code:Tr->Bool
 | .leaf b=>b
 | .node .. =>false
def Tr.depth:Tr->Nat
 | .leaf _=>0
 | .node _ x y=>1+max x.depth y.depth
def Tr.size:Tr->Nat
 | .leaf _=>0
 | .node _ x y=>1+x.size+y.size
def Tr.joinQ(l:ah)(x y:Tr):Tr:=if x.isLeaf&&(y.isLeaf&&(x.code==y.code)) then x else .node l x y
def Tr.restrict:Tr->bO->Tr
 | .leaf b,_=> .leaf b
 | .node l x y,c=>if !jc c l.rev then x.restrict c else if !jc c l then y.restrict c else joinQ l (x.restrict (iD c l)) (y.restrict (iD c l.rev))
def Tr.parts:Tr->bO->List (Bool×bO)
 | .leaf b,c=>[(b,c)]
 | .node l x y,c=>(if jc c l then x.parts (iD c l) else [])++(if jc c l.rev then y.parts (iD c l.rev) else [])
def Tr.all(p:ah->Prop):Tr->Prop
 | .leaf _=>True
 | .node l x y=>p l/\x.all p/\y.all p
def Tr.good:Tr->Prop
 | .leaf _=>True
 | .node _ x y=> ¬(x.isLeaf=true/\y.isLeaf=true/\x.code=y.code)/\x.good/\y.good
structure NQ where
 l:ah
 a:Int
 b:Int
def wh(b:Bool):Int:=if b then-2 else-1
def Tr.num:Tr->Nat->Int
 | .leaf b,_=>wh b
 | .node ..,n=>n
def Tr.wr:Tr->Nat->List NQ
 | .leaf _,_=>[]
 | .node l x y,n=>⟨l,x.num (n+1),y.num (n+1+x.size)⟩::x.wr (n+1)++y.wr (n+1+x.size)
def nC(l:ah)(p:aa):l.value p=(l.a:Rat)*p.x+(l.b:Rat)*p.y+(l.c:Rat):=rfl
def QK(l:ah)(p:aa):l.rev.value p= -l.value p:=by
 rw[nC,nC];have h1:((l.rev.a:Int):Rat)= -(l.a:Rat):=(xz l.a).symm;have h2:((l.rev.b:Int):Rat)= -(l.b:Rat):=(xz l.b).symm;have h3:((l.rev.c:Int):Rat)= -(l.c:Rat):=(xz l.c).symm;rw[h1,h2,h3];grind
def p6(q p:aa)(e:Rat):aa:=⟨q.x+e*(p.x-q.x),q.y+e*(p.y-q.y)⟩
def dx(q u:aa)(e:Rat):aa:=⟨q.x+e*u.x,q.y+e*u.y⟩
def fy{a b:Rat}(ha:0<a)(hb:0<b):0<a*b:=Rat.mul_pos ha hb
def mA{a b:Rat}(ha:0<=a)(hb:0<=b):0<=a*b:=mX ha hb
def CY(a:Rat):0<=a*a:=by
 by_cases h:0<=a
 ·exact mA h h
 ·have:=mA (a:= -a) (b:= -a) (by grind) (by grind)
  grind
def ol{s k:Rat}(hk:0<k):0<s*k↔0<s:=by
 constructor
 ·intro h
  by_cases hs:0<s
  ·exact hs
  ·have:=mA (a:= -s) (b:=k) (by grind) (by grind)
   grind
 ·intro h;exact fy h hk
def FT{s k:Rat}(hk:0<k):0<=s*k↔0<=s:=by
 constructor
 ·intro h
  by_cases hs:0<=s
  ·exact hs
  ·have:=fy (a:= -s) (b:=k) (by grind) hk
   grind
 ·intro h;exact mA h (by grind)
def ah.Ne(l:ah):Prop:= ¬(l.a=0/\l.b=0)
def ah.ok.ne{l:ah}(h:l.ok):l.Ne:=h.1
def tS{l:ah}(h:l.Ne):0<l.nor.dot l.nor:=by
 show 0<(l.a:Rat)*l.a+(l.b:Rat)*l.b;have h1:=CY (l.a:Rat);have h2:=CY (l.b:Rat);by_cases ha:l.a=0
 ·have hb:l.b≠0:=fun hb=>h ⟨ha,hb⟩
  have hb':(l.b:Rat)≠0:=fun e=>hb (mJ.1 e);have:(l.b:Rat)*l.b≠0:=by grind
  grind
 ·have ha':(l.a:Rat)≠0:=fun e=>ha (mJ.1 e)
  have:(l.a:Rat)*l.a≠0:=by grind
  grind
def xt{l:ah}(h:l.Ne): ∃q:Rat,l.nor.dot l.nor*q= -(l.c:Rat)/\l.base=⟨(l.a:Rat)*q,(l.b:Rat)*q⟩:=by
 refine⟨-(l.c:Rat)/l.nor.dot l.nor,?_,J⟩;have:=tS h;grind
def Dq(l m:ah)(t:Rat):m.value (l.at t)=l.cutC m+t*l.cutK m:=by
 simp only[ah.cutC,ah.cutK,nC,ah.at,aa.add,aa.scale,ah.dir,ah.nor,aa.dot];grind
def OS{l:ah}(h:l.Ne)(t:Rat):l.value (l.at t)=0:=by
 obtain⟨q,h1,h2⟩:=xt h;simp only[nC,ah.at,h2,aa.add,aa.scale,ah.dir];simp only[ah.nor,aa.dot] at h1;grind
def IA{l:ah}(h:l.Ne){p:aa}(hp:l.value p=0): ∃t,p=l.at t:=by
 obtain⟨q,h1,h2⟩:=xt h;have hn:=tS h;obtain⟨x,y⟩:=p;rw[nC] at hp;simp only[ah.nor,aa.dot] at h1 hn;refine⟨((l.b:Rat)*x-(l.a:Rat)*y)/((l.a:Rat)*l.a+(l.b:Rat)*l.b),?_⟩;generalize ht:((l.b:Rat)*x-(l.a:Rat)*y)/((l.a:Rat)*l.a+(l.b:Rat)*l.b)=t;have ht':((l.a:Rat)*l.a+(l.b:Rat)*l.b)*t=(l.b:Rat)*x-(l.a:Rat)*y:=by grind
 simp only[ah.at,h2,aa.add,aa.scale,ah.dir,aa.mk.injEq];generalize (l.a:Rat)=a at*;generalize (l.b:Rat)=b at*;generalize (l.c:Rat)=c at*;have e1:(a*a+b*b)*(x-(a*q+b*t))=0:=by grind
 have e2:(a*a+b*b)*(y-(b*q+ -a*t))=0:=by grind
 constructor<;>grind
def bi.has(v:bi)(t:Rat):Prop:=(v.nl=true\/v.lo<=t)/\(v.nh=true\/t<=v.hi)
def bi.ins(v:bi)(t:Rat):Prop:=(v.nl=true\/v.lo<t)/\(v.nh=true\/t<v.hi)
def bi.Pos(v:bi):Prop:=v.nl=true\/v.nh=true\/v.lo<v.hi
def S1(a b:Rat):0<=bv a b↔b<=a:=by
 unfold bv;split
 ·constructor
  ·intro h;exact absurd h (by decide)
  ·intro h;grind
 ·split
  ·constructor
   ·intro _;grind
   ·intro _;decide
  ·constructor
   ·intro _;grind
   ·intro _;decide
def q7(k:Rat):Int.sign k.num=0↔k=0:=by rw[nU,kK]
def Ce(k:Rat):0<k.num↔0<k:=by
 have h1:0<=k.num↔0<=k:=Rat.num_nonneg;have h2:k.num=0↔k=0:=kK;constructor
 ·intro h
  have a:=h1.1 (by omega);have b:k≠0:=fun e=>by have:=h2.2 e;omega
  grind
 ·intro h
  have a:=h1.2 (by grind);have b:k.num≠0:=fun e=>by have:=h2.1 e;grind
  omega
def vM(k:Rat):Int.sign k.num=1↔0<k:=by rw[Int.sign_eq_one_iff_pos,Ce]
def wW(k:Rat):0<Int.sign k.num↔0<k:=by
 rw[<-vM];rcases pZ k.num 0 with h|h|h
 ·rw[eX h];decide
 ·rw[h];decide
 ·rw[fW h];decide
def sf(k:Rat):Int.sign k.num<0↔k<0:=by
 have h1:=q7 k;have h2:=wW k;constructor
 ·intro h
  by_cases hk:0<k
  ·have:=h2.2 hk;omega
  ·by_cases h0:k=0
   ·have:=h1.2 h0;omega
   ·grind
 ·intro h
  have a1: ¬Int.sign k.num=0:=fun e=>by have:=h1.1 e;grind
  have a2: ¬0<Int.sign k.num:=fun e=>by have:=h2.1 e;grind
  omega
def Fc(k:Rat):k=0\/0<k\/k<0:=by grind
def o3(c:bO)(p:aa):Prop:= ∀s∈c,0<s.l.value p
def Lg(c:bO)(p:aa):Prop:= ∀s∈c,0<=s.l.value p
structure Fk (c:bO):Prop where
 ne: ∃p,o3 c p
 ok: ∀s∈c,s.l.ok
 edge: ∀s∈c,s.v.Pos/\ ∀t,s.v.has t↔Lg c (s.l.at t)
def sd{a b c x y z:Nat}(h1:x*b=a*y)(h2:x*c=a*z)(g:Nat.gcd (Nat.gcd a b) c=1):a∣x:=by
 have e:x=Nat.gcd (Nat.gcd (x*a) (x*b)) (x*c):=by
  rw[Nat.gcd_mul_left,Nat.gcd_mul_left,g,iM]
 rw[e];exact Nat.dvd_gcd (Nat.dvd_gcd (Nat.dvd_mul_left ..) (h1▸Nat.dvd_mul_right ..)) (h2▸Nat.dvd_mul_right ..)
def Oh{a b c x y z:Int}(h1:a*y=b*x)(h2:a*z=c*x)(h3:b*z=c*y)
  (g1:Nat.gcd (Nat.gcd a.natAbs b.natAbs) c.natAbs=1)(g2:Nat.gcd (Nat.gcd x.natAbs y.natAbs) z.natAbs=1):
  (a=x/\b=y/\c=z)\/(a= -x/\b= -y/\c= -z):=by
 have n1:a.natAbs*y.natAbs=b.natAbs*x.natAbs:=by rw[<-fN,<-fN,h1]
 have n2:a.natAbs*z.natAbs=c.natAbs*x.natAbs:=by rw[<-fN,<-fN,h2]
 have n3:b.natAbs*z.natAbs=c.natAbs*y.natAbs:=by rw[<-fN,<-fN,h3]
 generalize ha:a.natAbs=A at*;generalize hb:b.natAbs=B at*;generalize hc:c.natAbs=C at*;generalize hx:x.natAbs=X at*;generalize hy:y.natAbs=Y at*;generalize hz:z.natAbs=Z at*;have gB:Nat.gcd (Nat.gcd B A) C=1:=by rw[fM B A];exact g1
 have gC:Nat.gcd (Nat.gcd C A) B=1:=by rw[Nat.gcd_assoc,fM];exact g1
 have gY:Nat.gcd (Nat.gcd Y X) Z=1:=by rw[fM Y X];exact g2
 have gZ:Nat.gcd (Nat.gcd Z X) Y=1:=by rw[Nat.gcd_assoc,fM];exact g2
 have e1:A=X:=Nat.dvd_antisymm (sd (x:=X) (y:=Y) (z:=Z) (by grind) (by grind) g1) (sd (x:=A) (y:=B) (z:=C) (by grind) (by grind) g2);have e2:B=Y:=Nat.dvd_antisymm (sd (x:=Y) (y:=X) (z:=Z) (by grind) (by grind) gB) (sd (x:=B) (y:=A) (z:=C) (by grind) (by grind) gY);have e3:C=Z:=Nat.dvd_antisymm (sd (x:=Z) (y:=X) (z:=Y) (by grind) (by grind) gC) (sd (x:=C) (y:=A) (z:=B) (by grind) (by grind) gZ);have s1:a=x\/a= -x:=by omega
 have s2:b=y\/b= -y:=by omega
 have s3:c=z\/c= -z:=by omega
 clear ha hb hc hx hy hz n1 n2 n3 g1 g2 gB gC gY gZ e1 e2 e3;have z1:= @Int.mul_eq_zero x y;have z2:= @Int.mul_eq_zero x z;have z3:= @Int.mul_eq_zero y z;rcases s1 with rfl|rfl<;>rcases s2 with rfl|rfl<;>rcases s3 with rfl|rfl<;>grind
def Qb{l m:ah}(hl:l.ok)(hm:m.ok)(h: ∀t,l.value (m.at t)=0):l=m\/l=m.rev:=by
 have h0:=h 0;have h1:=h 1;rw[Dq] at h0 h1;have hC:m.cutC l=0:=by grind
 have hK:m.cutK l=0:=by grind
 obtain⟨q,q1,q2⟩:=xt hm.ne;have hn:=tS hm.ne;unfold ah.cutC at hC;rw[q2,nC] at hC;unfold ah.cutK at hK;simp only[ah.nor,ah.dir,aa.dot] at hK q1 hn hC;obtain⟨a,b,c⟩:=l;obtain⟨x,y,z⟩:=m;simp only at*;have e1:a*y=b*x:=by
  have:((a*y:Int):Rat)=((b*x:Int):Rat):=by rw[dW,dW];grind
  exact oK.1 this
 have e2:a*z=c*x:=by
  have:((a*z:Int):Rat)=((c*x:Int):Rat):=by rw[dW,dW];grind
  exact oK.1 this
 have e3:b*z=c*y:=by
  have:((b*z:Int):Rat)=((c*y:Int):Rat):=by rw[dW,dW];grind
  exact oK.1 this
 rcases Oh e1 e2 e3 hl.2 hm.2 with⟨rfl,rfl,rfl⟩|⟨rfl,rfl,rfl⟩
 ·exact .inl J
 ·exact .inr J
def ah.ok.rev{l:ah}(h:l.ok):l.rev.ok:=by
 obtain⟨h1,h2⟩:=h;refine⟨?_,?_⟩
 ·simp only[ah.rev];omega
 ·simp only[ah.rev,gK];exact h2
inductive Vn (c:bO) (l:ah):Prop
 |left (h1:jc c l.rev=false) (h: ∀p,o3 c p->0<l.value p)
 |right (h1:jc c l.rev=true) (h2:jc c l=false) (h: ∀p,o3 c p->l.value p<0)
 |both (h1:jc c l.rev=true) (h2:jc c l=true) (g1:Fk (iD c l)) (g2:Fk (iD c l.rev))
   (e1: ∀p,o3 (iD c l) p↔o3 c p/\0<l.value p) (e2: ∀p,o3 (iD c l.rev) p↔o3 c p/\l.value p<0)
def Jl:List ah->bO->Option bO
 |[],c=>some c
 |l::t,c=>if jc c l then Jl t (iD c l) else none
def sK(l:ah):List ah->bi->Option bi
 |[],v=>some v
 |m::t,v=>if m=l then sK l t v else if l.cutB v m then sK l t (l.cutV v m) else none
def Nz(c:List ah)(p:aa):Prop:= ∀m∈c,0<m.value p
def xS(c:List ah):Bool:=c.isEmpty||c.any (fun l=>(sK l c bi.all).isSome)
def CU(out:List ah)(l:ah):Nat:=(out.takeWhile (fun x=>decide (ce x.dir l.dir<0))).length
def K1(out:List ah)(l:ah):List ah:=if out[CU out l]? =some l then out else out.take (CU out l)++l::out.drop (CU out l)
def AP(c:List ah):List ah->List ah->List ah
 |[],out=>out
 |l::t,out=>AP c t (if(sK l c bi.all).isSome then K1 out l else out)
def nf(c:List ah):List ah:=AP c c []
def vb(c:List ah)(l:ah):Int:=if xS (c++[l])&&xS (c++[l.rev]) then 0 else if xS (c++[l]) then 1 else-1
def Tr.restrictL:Tr->List ah->Tr
 | .leaf b,_=> .leaf b
 | .node l x y,c=>if vb c l=1 then x.restrictL c else if vb c l= -1 then y.restrictL c else joinQ l (x.restrictL (nf (c++[l]))) (y.restrictL (nf (c++[l.rev])))
end Go.Sx
end
section
namespace Go.Sx
open Go Go.Proofs Tryz
variable {GB:Gh}
structure vQ where
 lo:RV
 hi:RV
 nl:Bool
 nh:Bool
def vQ.v(z:vQ):Value:= .agg ⟨[.int .i64 z.lo.n, .int .i64 z.lo.d, .pointer z.lo.p, .int .i64 z.hi.n, .int .i64 z.hi.d, .pointer z.hi.p, .bool z.nl, .bool z.nh]⟩
section
variable {P:Program} {C:az} {n:Nat} {fr:Fr} {own own' own1:List av} {G:Gh} {Φ:Act->World->Prop}
variable {dst:Option Nat} {t t' ty':TypeId} {pos:String} {af:Array Edge} {gd:Option (Nat×Bool)} {x y:Operand} {e s by_:Nat}
end
structure Lb (k:Nat) (G:Gh) (z:vQ) (v:bi):Prop where
 lo:qG k G z.lo v.lo
 hi:qG k G z.hi v.hi
 nl:z.nl=v.nl
 nh:z.nh=v.nh
def D3:List Int->Int
 |[]=>0
 |x::t=>if x≠0 then x else D3 t
def VS(l m:ah):Int:=D3 [bv l.a m.a,bv l.b m.b,bv l.c m.c]
structure tR where
 l:LV
 v:vQ
def tR.val(z:tR):Value:= .agg ⟨[.int .i64 z.l.a.n, .int .i64 z.l.a.d, .pointer z.l.a.p, .int .i64 z.l.b.n, .int .i64 z.l.b.d, .pointer z.l.b.p, .int .i64 z.l.c.n, .int .i64 z.l.c.d, .pointer z.l.c.p, .int .i64 z.v.lo.n, .int .i64 z.v.lo.d, .pointer z.v.lo.p, .int .i64 z.v.hi.n, .int .i64 z.v.hi.d, .pointer z.v.hi.p, .bool z.v.nl, .bool z.v.nh]⟩
structure OJ (k:Nat) (G:Gh) (z:tR) (f:bg):Prop where
 l:Ac k G z.l f.l
 v:Lb (25*k+6) G z.v f.v
inductive nn {α β:Type} (R:α->β->Prop):List α->List β->Prop
 |nil:nn R [] []
 |cons {a b us bs} (h:R a b) (t:nn R us bs):nn R (a::us) (b::bs)
structure TV (k:Nat) (G:Gh) (x:SV) (c:bO):Prop where
 ex: ∃fs:List tR,dG G 17 x (fs.map tR.val)/\nn (OJ k G) fs c

section
variable {P:Program} {C:az} {n:Nat} {fr:Fr} {own own':List av} {G:Gh} {Φ:Act->World->Prop}
variable {dst:Option Nat} {t t' ty':TypeId} {pos:String} {af:Array Edge} {gd:Option (Nat×Bool)} {x y:Operand} {e s by_:Nat}
end

section
variable {P:Program} {C:az} {n:Nat} {fr:Fr} {own own':List av} {G:Gh} {Φ:Act->World->Prop}
variable {dst:Option Nat} {t t' ty':TypeId} {pos:String} {af:Array Edge} {gd:Option (Nat×Bool)} {x y:Operand} {e s by_:Nat}
end

def AU(k:Nat)(G:Gh):Tr->Option Addr->Prop
 | .leaf b,p=> ∃n,p=some ⟨n,0,none⟩/\G n=some [.int .i64 0, .int .i64 0, .pointer none, .int .i64 0, .int .i64 0, .pointer none, .int .i64 0, .int .i64 0, .pointer none, .pointer none, .pointer none, .bool b]
 | .node l x y,p=> ∃(n:Nat) (z:LV) (q r:Option Addr),p=some ⟨n,0,none⟩/\G n=some [.int .i64 z.a.n, .int .i64 z.a.d, .pointer z.a.p, .int .i64 z.b.n, .int .i64 z.b.d, .pointer z.b.p, .int .i64 z.c.n, .int .i64 z.c.d, .pointer z.c.p, .pointer q, .pointer r, .bool false]/\Ac k G z l/\AU k G x q/\AU k G y r
structure ND where
 a:IV
 b:IV
 c:IV
 l:Int
 r:Int
def ND.val(z:ND):Value:= .agg ⟨[.bool z.a.neg, .slice z.a.a.a z.a.a.n z.a.a.c, .bool z.b.neg, .slice z.b.a.a z.b.a.n z.b.a.c, .bool z.c.neg, .slice z.c.a.a z.c.a.n z.c.a.c, .int .i64 z.l, .int .i64 z.r]⟩
structure Ls (k:Nat) (G:Gh) (z:ND) (n:NQ):Prop where
 a:q6 k G z.a n.l.a
 b:q6 k G z.b n.l.b
 c:q6 k G z.c n.l.c
 l:z.l=n.a
 r:z.r=n.b
structure UG (k:Nat) (G:Gh) (x:SV) (ns:List NQ):Prop where
 ex: ∃zs:List ND,dG G 8 x (zs.map ND.val)/\nn (Ls k G) zs ns
def Wf(n i:Nat):List Value:=(List.range n).map fun j=> .bool (decide (j<i))

def WP(ob wb:Nat):Value:= .func (.func 170) #[] #[.pointer (some ⟨ob,0,none⟩), .pointer (some ⟨wb,0,none⟩)]
structure uq where
 x:SV
 p:Option Addr
def uq.val(z:uq):Value:= .agg ⟨[.slice z.x.a z.x.n z.x.c, .pointer z.p]⟩
structure Ml (k:Nat) (G:Gh) (z:uq) (b:Bool×bO):Prop where
 c:TV k G z.x b.2
 t:AU k G (.leaf b.1) z.p
structure UR (k:Nat) (G:Gh) (w:SV) (ps:List (Bool×bO)):Prop where
 ex: ∃zs:List uq,dG G 2 w (zs.map uq.val)/\nn (Ml k G) zs ps
structure LI where
 a:IV
 b:IV
 c:IV
def LI.val(z:LI):Value:= .agg ⟨[.bool z.a.neg, .slice z.a.a.a z.a.a.n z.a.a.c, .bool z.b.neg, .slice z.b.a.a z.b.a.n z.b.a.c, .bool z.c.neg, .slice z.c.a.a z.c.a.n z.c.a.c]⟩
structure Ky (k:Nat) (G:Gh) (z:LI) (l:ah):Prop where
 a:q6 k G z.a l.a
 b:q6 k G z.b l.b
 c:q6 k G z.c l.c
structure U0 (k:Nat) (G:Gh) (x:SV) (ls:List ah):Prop where
 ex: ∃zs:List LI,dG G 6 x (zs.map LI.val)/\nn (Ky k G) zs ls
structure WS (k:Nat) (G:Gh) (x:SV) (ls:List ah):Prop where
 ex: ∃zs:List LV,dG G 9 x (zs.map LV.v)/\nn (Ac k G) zs ls
def qk{a b:Int}(h:a=b):eI a=eI b:=by rw[h]
def AZ(z:Int):eQ (z:Rat)= .ag [.v (.bool (decide (z<0))),dN z.natAbs, .sl []]:=by unfold eQ;rw[oX,oJ];rfl
def wo{a:Rat}(h:a.den=1):((a.num:Int):Rat)=a:=Rat.ext (oX _) (by rw[oJ,h])
def QI{a b:Rat}(ha:a.den=1)(hb:b.den=1):a+b=((a.num+b.num:Int):Rat):=by
 rw[qQ,wo ha,wo hb]
def PC{a b:Rat}(ha:a.den=1)(hb:b.den=1):a*b=((a.num*b.num:Int):Rat):=by
 rw[dW,wo ha,wo hb]
def rB(n:Nat)(h:0<n):(if n=1 then [] else(dg n).map dU).length=0↔n=1:=by
 by_cases q:n=1
 ·simp[q]
 ·rw[if_neg q,aX,sH];omega
def Jr{n:Nat}(h:n≠1):dD n=dN n:=by unfold dD;rw[if_neg h];rfl
def Be{g:Nat}:(eh g 1=0)↔g=1:=by
 unfold eh;constructor
 ·intro h;split at h
  ·exact absurd h (by decide)
  ·split at h
   ·assumption
   ·exact absurd h (by decide)
 ·rintro rfl;rfl
def Eg{x:Int}{d:Nat}(hd:0<d):zv (decide (x<0)) (x.natAbs/Nat.gcd x.natAbs d)=(mkRat x d).num:=by
 rw[Rat.num_mkRat,if_neg (by omega),fM];have hg:0<Nat.gcd d x.natAbs:=kJ _ hd;obtain⟨c,hc⟩:Nat.gcd d x.natAbs∣x.natAbs:=jV _ _;generalize Nat.gcd d x.natAbs=g at*;rw[hc,oT _ hg];unfold zv;by_cases q:x<0
 ·rw[if_pos (by simpa using q),show x=(g:Int)*(-(c:Int)) by rw[Int.mul_neg,<-iQ];omega,Int.mul_ediv_cancel_left _ (by omega)]
 ·rw[if_neg (by simpa using q),show x=(g:Int)*(c:Int) by rw[<-iQ];omega,Int.mul_ediv_cancel_left _ (by omega)]
def Jk{x:Int}{d:Nat}(hd:0<d):d/Nat.gcd x.natAbs d=(mkRat x d).den:=by
 rw[Rat.den_mkRat,if_neg (by omega),fM]
def QS{x:Int}{d:Nat}(hd:0<d)(h:Nat.gcd x.natAbs d=1):(mkRat x d).num=x/\(mkRat x d).den=d:=by
 rw[<-Eg hd,<-Jk hd,h,qR,qR];exact⟨i8 x,J⟩
instance BI.zv (neg:Bool) (m i:Nat) [h:BN m i]:BI (zv neg m) i:=⟨by rw[ll];exact h.h⟩
section
variable {GB:Gh} {C:az} {n:Nat} {Q0:Exit->Act->World->Prop} {fr fr':ao} {own own':aB} {cf cf':Cf} {vc:List Prop}
def GU(fr:ao)(cf:Cf):Option Int:=match bu fr cf with
 |some ⟨_, .convert t t' x,_,_,_,_⟩=>match b8 tt t,b8 tt t' with
  |some ⟨.int .i64,_,_,_⟩,some ⟨.int .u64,_,_,_⟩=>match aC (aI fr cf) x with
   |some (.d (.v (.int .i64 p)))=>some p
   |_=>none
  |_,_=>none
 |_=>none
def NR[fu:Fu]{p:Int}(q:Int)(h:GU fr cf=some p)(e:p%18446744073709551616=q)(hgo:bF tt n fu.n fr own cf (.d (.v (.int .u64 q))) [] []=⟨vc,fr',own',cf'⟩)(k:aj prog GB C n Q0 fr' own' cf')
  (hv:ab vc:=by first|exact trivial|(simp only[ab];omega)):aj prog GB C n Q0 fr own cf:=by
 unfold GU at h;split at h<;>try (cases h;done)
 rename_i hh;split at h<;>try (cases h;done)
 rename_i hT hT';split at h<;>cases h;rename_i hx;have:=rD (dt _ _ hT) J;have:=rD (dt _ _ hT') J;refine us hh (.x1 hx fun ρ G ov a w y _ r h1 h2=>?_) hgo hv k;rw[cg] at h2;subst h2;refine⟨_,cg.2 J,?_⟩;rw[<-e,<-ju];exact wL h1
def Il(fr:ao)(cf:Cf):Option Int:=match bu fr cf with
 |some ⟨_, .unOp .neg _ x,_,_,_,_⟩=>match aC (aI fr cf) x with
  |some (.d (.v (.int .u64 p)))=>some p
  |_=>none
 |_=>none
def TR[fu:Fu]{p:Int}(q:Int)(h:Il fr cf=some p)(e:(0-p)%18446744073709551616=q)(hgo:bF tt n fu.n fr own cf (.d (.v (.int .u64 q))) [] []=⟨vc,fr',own',cf'⟩)(k:aj prog GB C n Q0 fr' own' cf')
  (hv:ab vc:=by first|exact trivial|(simp only[ab];omega)):aj prog GB C n Q0 fr own cf:=by
 unfold Il at h;split at h<;>try (cases h;done)
 rename_i hh;split at h<;>cases h;rename_i hx;refine us hh (.x1 hx fun ρ G ov a w y _ r h1 h2=>?_) hgo hv k;rw[cg] at h2;subst h2;refine⟨_,cg.2 J,?_⟩;rw[<-e,<-ju];exact zc h1
end
def Ej{n:Int}(h0: -4611686018427387904<=n)(h1:n<=4611686018427387904):PF GB prog 157 [.v (.int .i64 n)] (eI n):=by
 refine fn func157 J J ntmps157 J J (fun C=>?_);refine br (fu1:=⟨3⟩) (fu2:=⟨6⟩) J J J (fun hc4=>?_) (fun hc4=>?_)
 .
  refine NR (fu:=⟨0⟩) (18446744073709551616+n) J (by omega) J<|TR (n.natAbs:Nat) J (by omega) J<|cl J (n8 (u:=n.natAbs) (by omega)) J<|?_;refine cl J kr J<|?_;exact rz J (qk (by unfold zv;rw[if_pos J];omega))
 .
  refine ak 11 (.d (.v (.int .u64 (n.natAbs:Nat)))) J (by show FX.d (.v (.int _ _))= .d (.v (.int _ _));congr 3;omega) ?_;refine gx J<|cl J (n8 (u:=n.natAbs) (by omega)) J<|cl J kr J<|?_;exact rz J (qk (by unfold zv;rw[if_neg (by decide)];omega))
def Pg{z:Int}:PF GB prog 123 [eI z] (vI z.sign):=by
 have hl:=d5 (dg z.natAbs);have hz:= @sH z.natAbs;refine fn func123 J J ntmps123 J J (fun C=>?_);refine br J J J (fun hc6=>?_) (fun hc6=>?_)
 .
  exact rz J (by show DV.v (.int _ 0)=DV.v (.int _ _);rw[show z=0 by omega];rfl)
 .
  refine bd J J J (fun hc8=>?_) (fun hc8=>?_)
  .
   exact rz J (by show DV.v (.int _ (-1))=DV.v (.int _ _);rw[eX (by omega)])
  .
   exact rz J (by show DV.v (.int _ 1)=DV.v (.int _ _);rw[fW (by omega)])
def Ry{z:Int}:PF GB prog 124 [eI z] (eI (-z)):=by
 refine fn func124 J J ntmps124 J J (fun C=>?_);refine cl J kr J<|?_;exact rz J (qk (Ua z))
def PT{a b:Int}(h:decide (a<0)=decide (b<0)):zv (decide (a<0)) (a.natAbs+b.natAbs)=a+b:=by
 unfold zv;have h':a<0↔b<0:=by simpa using h
 by_cases q:a<0
 ·have:=h'.1 q
  simp[q];omega
 ·have: ¬b<0:=fun w=>q (h'.2 w)
  simp[q];omega
def RA{a b:Int}(h: ¬decide (a<0)=decide (b<0))(k:a.natAbs<b.natAbs):zv (decide (b<0)) (b.natAbs-a.natAbs)=a+b:=by
 unfold zv;have h': ¬(a<0↔b<0):=by simpa using h
 by_cases q:b<0
 ·have: ¬a<0:=fun w=>h' ⟨fun _=>q,fun _=>w⟩
  simp[q];omega
 ·have:a<0:=Int.not_le.1 fun w=>h' ⟨fun e=>by omega,fun e=>absurd e q⟩
  simp[q];omega
def Lp{a b:Int}(h: ¬decide (a<0)=decide (b<0))(k:b.natAbs<=a.natAbs):zv (decide (a<0)) (a.natAbs-b.natAbs)=a+b:=by
 unfold zv;have h': ¬(a<0↔b<0):=by simpa using h
 by_cases q:a<0
 ·have: ¬b<0:=fun w=>h' ⟨fun _=>w,fun _=>q⟩
  simp[q];omega
 ·have:b<0:=Int.not_le.1 fun w=>h' ⟨fun e=>absurd e q,fun e=>by omega⟩
  simp[q];omega
def AD{a b:Int}{i j:Nat}[ha:BI a i][hb:BI b j](hi:i<=400000000:=by decide)(hj:j<=400000000:=by decide):PF GB prog 240 [eI a,eI b] (eI (a+b)):=by
 have hba:=jH ha.h;have hbb:=jH hb.h;refine fn (fu:=⟨15⟩) func240 J J ntmps240 J J (fun C=>?_);refine ak 9 (.d (.v (.bool (decide (decide (a<0)=decide (b<0)))))) J (by congr 2) ?_;refine gx J<|?_;refine bd J J J (fun hc9=>?_) (fun hc9=>?_)
 .
  refine cl J (Np (by omega) (by omega)) J<|cl J kr J<|?_;exact rz J (qk (PT hc9))
 .
  refine cl J (tg (by omega) (by omega)) J<|?_;refine br J J J (fun hc23=>?_) (fun hc23=>?_)
  .
   refine cl J (Bl (by have:=rF.1 hc23;omega) (by omega)) J<|cl J kr J<|?_;exact rz J (qk (RA hc9 (rF.1 hc23)))
  .
   refine cl J (Bl (pR fun q=>hc23 (rF.2 q)) (by omega)) J<|cl J kr J<|?_;exact rz J (qk (Lp hc9 (pR fun q=>hc23 (rF.2 q))))
def qP{a b:Int}{i j:Nat}[ha:BI a i][hb:BI b j](hi:i<=400000000:=by decide)(hj:j<=400000000:=by decide):PF GB prog 238 [eI a,eI b] (eI (a*b)):=by
 refine fn func238 J J ntmps238 J J (fun C=>?_);refine cl J (p9 (by omega) (by omega)) J<|cl J kr J<|?_;exact rz J (qk (Kr a b))
def jO{q:Rat}:PF GB prog 195 [eQ q] (dN q.den):=by
 refine fn func195 J J ntmps195 J J (fun C=>?_);refine br J J J (fun hc6=>?_) (fun hc6=>?_)
 .
  refine cl J Ak J<|?_;exact rz J (by rw[(rB q.den (jm q)).1 (by omega)];rfl)
 .
  exact rz J (by exact Jr (fun e=>hc6 (by exact congrArg Int.ofNat ((rB q.den (jm q)).2 e))))
def Hy{n k:Nat}[h:BN n k](hk:k<=500000000):(dg n).length<=100000000:=by have:=jH h.h;omega
def tV{x:Int}{d i j:Nat}[hx:BI x i][hd:BN d j](hd0:0<d)(hi:i<=200000000:=by decide)(hj:j<=200000000:=by decide):PF GB prog 156 [eI x,dN d] (eQ (mkRat x d)):=by
 obtain⟨q,hq⟩: ∃q,q=mkRat x d:=⟨_,rfl⟩;obtain⟨g,hg⟩: ∃g,g=Nat.gcd x.natAbs d:=⟨_,rfl⟩;have hg0:0<g:=hg▸lT _ hd0;haveI hgB:BN g (i+j):=hg▸inferInstance;have hg1:(dg g).length<=100000000:=Hy (k:=i+j) (by omega);have ho1:(dg 1).length<=100000000:=by rw[uQ];decide
 haveI hqB:BQ q (i+j):=hq▸qj hd0 (cR hx.h (aM (by decide) (by omega))) (cR hd.h (aM (by decide) (by omega)));refine fn func156 J J ntmps156 J J (fun C=>?_);refine cl (fu:=⟨0⟩) J (Td (by omega) (by omega)) J<|?_;refine ak 11 (.d (dN g)) J (by rw[hg]) ?_;refine gx (fu:=⟨4⟩) J<|?_;refine mg (fu:=⟨1⟩) (X:=Unit) (fun _=>[(1, .d (dN q.den)),(2, .ov 2 0),(4, .ov 4 0)]) (fun _=>[(4,some (.o 79 [.ff, .nl, .nl] true)),(2,some (.o 77 [.d (.v (.bool (decide (q.num<0)))), .d (dN q.num.natAbs)] true))]) (fun _=>True) [1,2,4] [4,2] rfl ?_ (fun _=>J) (fun _ hm=>?_)
 .
  refine gx J<|cl J Ak J<|cl J (tg hg1 ho1) J<|?_;refine br J J J (fun hc15=>?_) (fun hc15=>?_)
  .
   refine cl J (AO hg0 (by omega) (by omega)) J<|cl (fu:=⟨0⟩) J kr J<|?_;refine ak 26 (.d (eI q.num)) J (by show FX.d (eI (zv _ _))=_;rw[hg,Eg hd0,hq]) ?_;refine gx J<|cl (fu:=⟨2⟩) J (AO hg0 (by omega) (by omega)) J<|?_;refine ak 31 (.d (dN q.den)) J (by rw[hg,Jk hd0,hq]) ?_;refine gx J<|?_;exact at_ () trivial
  .
   have hm:=QS (x:=x) hd0 (by rw[<-hg];exact Be.1 (Decidable.not_not.1 hc15));rw[<-hq] at hm;refine ak 1 (.d (dN q.den)) J (by rw[hm.2]) ?_;exact at_ () trivial (hO:=⟨J,by rw[hm.1];rfl,trivial⟩)
 .
  refine mg (X:=Unit) (fun _=>[(1, .d (dD q.den)),(2, .ov 2 0),(4, .ov 4 0)]) (fun _=>[(4,some (.o 79 [.ff, .nl, .nl] true)),(2,some (.o 77 [.d (.v (.bool (decide (q.num<0)))), .d (dN q.num.natAbs)] true))]) (fun _=>True) [1,2,4] [4,2] rfl ?_ (fun _=>J) (fun _ hm=>?_)
  .
   refine gx J<|cl J Ak J<|cl J (tg (Hy (k:=i+j) (by omega)) ho1) J<|?_;refine br J J J (fun hc36=>?_) (fun hc36=>?_)
   .
    refine Lo 1 J ?_;refine ak 1 (.d (dD q.den)) J (by rw[Be.1 hc36];rfl) ?_;exact at_ () trivial
   .
    refine ak 1 (.d (dD q.den)) J (by rw[Jr (fun e=>hc36 (Be.2 e))]) ?_;exact at_ () trivial
  .
   exact rz J (by rw[<-hq];rfl)
def JG(a:Rat):mkRat a.num a.den=a:=by simp[Rat.mkRat_self]
def Sv{a b:Rat}(h:b≠0):a/b=mkRat (a.num*zv (decide (b.num<0)) b.den) (a.den*b.num.natAbs):=by
 rw[nY];have ha:(a.num:Rat)/(a.den:Rat)=a:=by rw[<-nY,JG]
 have hb:(b.num:Rat)/(b.den:Rat)=b:=by rw[<-nY,JG]
 have h1:(a.den:Rat)≠0:=by have:=a.den_nz;exact_mod_cast this
 have h2:(b.den:Rat)≠0:=by have:=b.den_nz;exact_mod_cast this
 have h3:(b.num:Rat)≠0:=by
  intro e;rw[e] at hb;apply h;rw[<-hb];grind
 rw[dW,Rat.natCast_mul];by_cases q:b.num<0
 ·have e1:((zv (decide (b.num<0)) b.den:Int):Rat)= -(b.den:Rat):=by
   unfold zv;rw[if_pos (by simpa using q),Rat.intCast_neg];rfl
  have e2:((b.num.natAbs:Nat):Rat)= -(b.num:Rat):=by
   have:((b.num.natAbs:Nat):Int)= -b.num:=by omega
   rw[<-Rat.intCast_neg,<-this];rfl
  rw[e1,e2];generalize (a.num:Rat)=an at*;generalize (a.den:Rat)=ad at*;generalize (b.num:Rat)=bn at*;generalize (b.den:Rat)=bd at*;subst ha hb;grind
 ·have e1:((zv (decide (b.num<0)) b.den:Int):Rat)=(b.den:Rat):=by
   unfold zv;rw[if_neg (by simpa using q)];rfl
  have e2:((b.num.natAbs:Nat):Rat)=(b.num:Rat):=by
   have:((b.num.natAbs:Nat):Int)=b.num:=by omega
   rw[<-this];rfl
  rw[e1,e2];generalize (a.num:Rat)=an at*;generalize (a.den:Rat)=ad at*;generalize (b.num:Rat)=bn at*;generalize (b.den:Rat)=bd at*;subst ha hb;grind
def Qo{q:Rat}{n:Int}{d:Nat}(hd:0<d)(h:q*(d:Rat)=(n:Rat)):q.num.natAbs<=n.natAbs/\q.den<=d:=by
 have e:q=mkRat n d:=by
  rw[nY];have:(d:Rat)≠0:=by exact_mod_cast (by omega:d≠0)
  rw[<-h];grind
 rw[e,Rat.num_mkRat,Rat.den_mkRat,if_neg (by omega),if_neg (by omega)];exact⟨lJ n (d.gcd n.natAbs:Nat),iT ..⟩
theorem BQ.of_frac{q:Rat}{n:Int}{d i:Nat}(hd:0<d)(h:q*(d:Rat)=(n:Rat))(hn:n.natAbs<2^i)(hdi:d<2^i):BQ q i:=by
 have:=Qo hd h;exact⟨by omega,by omega⟩
def M3{b:Rat}(h:b≠0):0<b.num.natAbs:=by
 have:b.num≠0:=fun e=>h (kK.1 e);omega
instance BQ.over (a b:Rat) (i j:Nat) [ha:BQ a i] [hb:BQ b j]:BQ (a/b) (i+j):=by
 by_cases h:b=0
 ·subst h
  rw[Rat.div_def,Rat.inv_zero,Rat.mul_zero];have h2:=ha.hd;have h3:0<a.den:=jm a;have h4:2^i*1<=2^i*2^j:=dT _ (dZ (by decide));rw[<-dK] at h4;exact⟨by show 0<_;omega,by show 1<_;omega⟩
 ·rw[Sv h]
  have hb0:=M3 h;refine qj (gT (jm a) hb0) ?_ (km ha.hd hb.hn);rw[fN,ll];exact km ha.hn hb.hd
def te{n:Int}(h0: -4611686018427387904<=n)(h1:n<=4611686018427387904):PF GB prog 101 [.v (.int .i64 n)] (eQ (n:Rat)):=by
 refine fn func101 J J ntmps101 J J (fun C=>?_);refine cl J (Ej (by omega) (by omega)) J<|?_;exact rz J (by rw[AZ];rfl)
def GK{q:Rat}:PF GB prog 44 [eQ q] (vI q.num.sign):=by
 refine fn func44 J J ntmps44 J J (fun C=>?_);refine cl J Pg J<|?_;exact rz J J
def L'{q:Rat}:PF GB prog 45 [eQ q] (eQ (-q)):=by
 refine fn func45 J J ntmps45 J J (fun C=>?_);refine cl J Ry J<|?_;exact rz J (by unfold eQ;rw[kR,nQ];rfl)
def xk{a b:Rat}{i j:Nat}[ha:BQ a i][hb:BQ b j](hi:i<=20000000:=by decide)(hj:j<=20000000:=by decide):PF GB prog 149 [eQ a,eQ b] (eQ (a*b)):=by
 have had:=jm a;have hbd:=jm b;have hdp:=gT had hbd;have e1:=rB a.den had;have e2:=rB b.den hbd;refine fn func149 J J ntmps149 J J (fun C=>?_);refine cs 9 J J J (fun hg9=>?_) (fun hg9=>?_)
 .
  refine br J J J (fun hc14=>?_) (fun hc14=>?_)
  .
   refine cl J (qP (a:=a.num) (b:=b.num) (by omega) (by omega)) J<|?_;exact rz J (by rw[PC (e1.1 (by omega)) (e2.1 (by omega)),AZ];rfl)
  .
   refine cl J (qP (a:=a.num) (b:=b.num) (by omega) (by omega)) J<|cl J jO J<|cl J jO J<|cl J (p9 (by omega) (by omega)) J<|?_;refine cl J (tV hdp (by omega) (by omega)) J<|?_;exact rz J (by rw[uz];rfl)
 .
  refine cl J (qP (a:=a.num) (b:=b.num) (by omega) (by omega)) J<|cl J jO J<|cl J jO J<|cl J (p9 (by omega) (by omega)) J<|?_;refine cl J (tV hdp (by omega) (by omega)) J<|?_;exact rz J (by rw[uz];rfl)
def Cs{a b:Rat}{i j:Nat}[ha:BQ a i][hb:BQ b j](hi:i<=20000000:=by decide)(hj:j<=20000000:=by decide):PF GB prog 148 [eQ a,eQ b] (eQ (a+b)):=by
 have had:=jm a;have hbd:=jm b;have hdp:=gT had hbd;have e1:=rB a.den had;have e2:=rB b.den hbd;refine fn func148 J J ntmps148 J J (fun C=>?_);refine cs 9 J J J (fun hg9=>?_) (fun hg9=>?_)
 .
  refine br J J J (fun hc14=>?_) (fun hc14=>?_)
  .
   refine cl J (AD (by omega) (by omega)) J<|?_;exact rz J (by rw[QI (e1.1 (by omega)) (e2.1 (by omega)),AZ];rfl)
  .
   refine cl J jO J<|cl J kr J<|cl J (qP (a:=a.num) (b:=zv false b.den) (by omega) (by omega)) J<|cl J jO J<|cl J kr J<|?_;refine cl J (qP (a:=b.num) (b:=zv false a.den) (by omega) (by omega)) J<|cl J (AD (by omega) (by omega)) J<|cl J jO J<|?_;refine cl J jO J<|cl J (p9 (by omega) (by omega)) J<|cl J (tV hdp (by omega) (by omega)) J<|?_;exact rz J (by rw[sW];rfl)
 .
  refine cl J jO J<|cl J kr J<|cl J (qP (a:=a.num) (b:=zv false b.den) (by omega) (by omega)) J<|cl J jO J<|?_;refine cl J kr J<|cl J (qP (a:=b.num) (b:=zv false a.den) (by omega) (by omega)) J<|cl J (AD (by omega) (by omega)) J<|?_;refine cl J jO J<|cl J jO J<|cl J (p9 (by omega) (by omega)) J<|cl J (tV hdp (by omega) (by omega)) J<|?_;exact rz J (by rw[sW];rfl)
def Df{a b:Rat}{i j:Nat}[ha:BQ a i][hb:BQ b j](hi:i<=20000000:=by decide)(hj:j<=20000000:=by decide):PF GB prog 163 [eQ a,eQ b] (eQ (a-b)):=by
 refine fn func163 J J ntmps163 J J (fun C=>?_);refine cl J (L' (q:=b)) J<|cl J (Cs (a:=a) (b:= -b) hi hj) J<|?_;exact rz J (by rw[Rat.sub_eq_add_neg];rfl)
def wg{a b:Rat}{i j:Nat}[ha:BQ a i][hb:BQ b j](hi:i<=20000000:=by decide)(hj:j<=20000000:=by decide):PF GB prog 115 [eQ a,eQ b] (vI (bv a b)):=by
 refine fn func115 J J ntmps115 J J (fun C=>?_);refine cl J (Df hi hj) J<|cl J GK J<|?_;exact rz J (by show vI _=vI _;rw[vG])
instance BI.two:BI 2 2:=⟨by decide⟩
end Go.Sx
end
