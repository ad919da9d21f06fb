import Derived.Test.YtnnpcjkdmmjknaaGreatDoorMg10
set_option linter.all false
set_option maxHeartbeats 4000000
set_option maxRecDepth 100000
section
namespace Go.Sx
open Go Go.Proofs Tryz
variable {GB G:Gh}{A i k L R n V g j ia ib e s by_ off cap d:Nat}{ds W:List Nat}{q:Rat}{m z:Int}{P:Program}{C:aD}{fr:Fr}{own' own1 rest:List av}{Φ:Act->World->Prop}{dst:Option Nat}{t:List DV}{t' ty':TypeId}{pos:String}{af:Array Edge}{gd:Option (Nat×Bool)}{y:Operand}{α β:Type}{vs:List Value}
def ZH{h l y:Nat}(hh:h<y)(hl:l<4294967296)(hy:y<4294967296):PF GB prog 257 [.v (.int .u32 (h:Int)), .v (.int .u32 (l:Int)), .v (.int .u32 (y:Int))] (.tp [dU ((h*4294967296+l)/y),dU ((h*4294967296+l)%y)]):=by
 refine fn (fu:=⟨11⟩) func257 J J ntmps257 J J (fun C=>?_);refine kT 10 J (by omega) ?_;refine gx (fu:=⟨4⟩) J<|?_;refine kF 14 J (by omega) ?_;refine gx (fu:=⟨11⟩) (hv:=by simp only[aj];exact⟨by omega,(by decide)⟩) J<|?_;refine ak 19 (.d (.v (.int .u64 (h*2^32:Nat)))) J (by show FX.d (.v (.int _ _))= .d (.v (.int _ _));rw[sP _ 32 (by decide) (by show _*4294967296<_;omega) J]) ?_;refine gx (fu:=⟨3⟩) J<|?_;refine ak 22 (.d (.v (.int .u64 (l+h*2^32:Nat)))) J (congrArg (fun z:Nat=>FX.d (.v (.int .u64 (z:Int)))) (by rw[BitVec.or_comm];exact yf 64 l h 32 hl (by show _+_*4294967296<18446744073709551616;omega))) ?_;obtain⟨t,ht⟩: ∃t,t=h*4294967296+l:=⟨_,rfl⟩;have hq:t/y<4294967296:=by rw[lX (by omega)];have:=fL 4294967296 (show h+1<=y from hh);omega
 have hr:t%y<y:=dV _ (by omega);refine ak 22 (.d (.v (.int .u64 (t:Nat)))) J (by show FX.d (.v (.int _ _))= .d (.v (.int _ _));congr 3;rw[ht];omega) ?_;refine gx (hv:=by simp only[aj];exact⟨⟨⟨⟨by omega,⟨(by omega),(by omega),(by omega)⟩⟩,by omega⟩,⟨(by omega),(by omega)⟩⟩,by kernel_rfl⟩) J<|?_;exact rz J (by show DV.tp [.v (.int _ _), .v (.int _ _)]= .tp [.v (.int _ _), .v (.int _ _)];rw[<-ht,<-qR,<-oM];generalize t/y=q at*;generalize t%y=r at*;congr 4<;>(first|omega|(congr 3;omega)))
def WC{r i b:Nat}(d:Nat)(hb:0<b):(A*4294967296+d)/b=A/b*4294967296+(A%b*4294967296+d)/b/\(A*4294967296+d)%b=(A%b*4294967296+d)%b:=by
 have h:=rT A b;have e:A*4294967296+d=(A%b*4294967296+d)+b*(A/b*4294967296):=by
  rw[<-cJ,Nat.add_right_comm,<-dJ,kR (A%b),h]
 rw[e,mY _ _ hb,nN];exact⟨kR _ _,J⟩
def S8(h:i<ds.length):dv (ds.drop i)=dv (ds.drop (i+1))*4294967296+ds.getD i 0:=by
 rw[bQ h,aK,aZ h];simp only[dv,kW];omega
def M2{q:Nat}(h:i<W.length):dv ((W.set i q).drop i)=dv (W.drop (i+1))*4294967296+q:=by
 rw[S8 (by rw[bY];exact h),tV (by omega),Lb h]
def axc{a b:Nat}(hb:0<b)(hk:k<(dg a).length)(hl:W.length=(dg a).length)(h:dv (W.drop (k+1))=dv ((dg a).drop (k+1))/b):
  dv ((W.set k ((dv ((dg a).drop (k+1))%b*4294967296+(dg a).getD k 0)/b)).drop k)=dv ((dg a).drop k)/b/\dv ((dg a).drop k)%b=(dv ((dg a).drop (k+1))%b*4294967296+(dg a).getD k 0)%b:=by
 have:=WC (A:=dv ((dg a).drop (k+1))) (r:=0) (i:=0) ((dg a).getD k 0) hb;rw[M2 (by omega),h,S8 hk,this.1,this.2];exact⟨J,J⟩
def x7{a b:Nat}:gk a b<0↔a<b:=by unfold gk;split<;>(try split)<;>omega
def Bn{a b:Nat}:0<gk a b↔b<a:=by unfold gk;split<;>(try split)<;>omega
def aG1{x:Nat}(hx:x<4294967296):PF GB prog 302 [dU x] (vI (32-(bl x:Int))):=by
 intro G vs hg hv;obtain⟨v,m,rfl,h1,h2⟩:=aI.1 hv;rw[dE] at h2;subst h2;rw[aB.1 h1];exact(GO hx).mono fun v G' _ h=>aB.2 h
def Ou{a:Nat}(h:4294967296^k<=a):k<(dg a).length:=by
 have h1:=vz a;rcases jK k (dg a).length with q|q
 .exact q
 .have:4294967296^(dg a).length<=4294967296^k:=bR (by decide) q
  omega
def Tf{v:Nat}(hL:L=(dg v).length)(h1:1<=L):(dg v).getD (L-1) 0=v/4294967296^(L-1)/\0<v/4294967296^(L-1):=by
 have h:=GD (ll v) (L-1);rw[vJ (by omega:(dg v).length<=L-1+1),ce,qW,fK] at h;have h2:=vz v;rw[<-hL] at h2;rw[kU (show v<4294967296^(L-1+2) from dZ h2 (bR (by decide) (by omega))),qW,fK] at h;have h3:=sk (eg v).2.2 (by intro e;rw[e] at hL;simp at hL;omega);rw[ce,<-hL] at h3;exact⟨h.symm,Nat.div_pos h3 (fX (by decide))⟩
def Hu(h1:1<=n)(h:R<4294967296^(n+1)):R/4294967296^(n-1)=(dg R).getD (n-1) 0+(dg R).getD n 0*4294967296:=by
 have e:=GD (ll R) (n-1);rw[ce,show n-1+1=n by omega,kU (show R<4294967296^(n-1+2) by rwa [show n-1+2=n+1 by omega]),qW,fK,cK] at e;exact e
def azS{R v j L:Nat}(hL:L=(dg v).length)(h1:1<=L)(hR:R<v*4294967296^(j+1)):R/(v*4294967296^j)<=min (R/4294967296^(L+j-1)/(v/4294967296^(L-1))) 4294967295:=by
 have ht:=(Tf hL h1).2;have hp:0<4294967296^j:=fX (by decide);have hv0:0<v:=by
  rcases gU v with q|q
  .subst q;simp at ht
  .exact q
 have hvp:0<v*4294967296^j:=jW hv0 hp;refine Nat.le_min.2 ⟨?_,?_⟩
 .rw[sL ht,sL (fX (by decide))]
  have h3:v/4294967296^(L-1)*4294967296^(L-1)<=v:=Nat.div_mul_le_self _ _;have h4:R/(v*4294967296^j)*(v*4294967296^j)<=R:=Nat.div_mul_le_self _ _;rw[show L+j-1=L-1+j by omega,eY]
  calc R/(v*4294967296^j)*(v/4294967296^(L-1))*(4294967296^(L-1)*4294967296^j)
    =R/(v*4294967296^j)*((v/4294967296^(L-1)*4294967296^(L-1))*4294967296^j):=by simp only[cJ]
   _<=R/(v*4294967296^j)*(v*4294967296^j):=fL _ (bL _ h3)
   _<=R:=h4
 .have:R/(v*4294967296^j)<4294967296:=by
   rw[lX hvp];rw[fY] at hR;rwa [cK,cJ]
  omega
def Ep(hV:0<V)(h:R<V*g):R/V<g:=by
 rw[lX hV,cK];exact h
def Xj(hV:0<V)(h1:R/V<=g)(h2:V*g<=R):g=R/V:=by
 have:g<=R/V:=by rw[sL hV,cK];exact h2
 omega
def O8{R0 R v j g:Nat}{W:List Nat}(hj:j<W.length)(h:R0=R+dv (W.drop (j+1))*4294967296^(j+1)*v)(hv:0<v*4294967296^j)(hg:g=R/(v*4294967296^j)):
  R0=(R-v*4294967296^j*g)+dv ((W.set j g).drop j)*4294967296^j*v/\R-v*4294967296^j*g<v*4294967296^j:=by
 have h1:=rT R (v*4294967296^j);have h2:=dV R hv;rw[<-hg] at h1;refine⟨?_,by omega⟩;rw[M2 hj,dJ,dJ,h,fY];have e:g*4294967296^j*v=v*4294967296^j*g:=by simp only[cJ,kM,cK]
 have e2:dv (W.drop (j+1))*(4294967296^j*4294967296)*v=dv (W.drop (j+1))*4294967296*4294967296^j*v:=by simp only[cJ,kM,cK]
 rw[e,e2];omega
def Yw{a b s R:Nat}{D:Nat}(hR:R<b*2^s)(h:a*2^s=R+D*(b*2^s)):D=a/b/\R/2^s=a%b:=by
 have hp:0<2^s:=fX (by decide);have hb:0<b:=by
  rcases gU b with q|q
  .subst q;simp at hR
  .exact q
 have h1:a=R/2^s+D*b:=by
  have:=congrArg (· /2^s) h;rw[Nat.mul_div_cancel _ hp,<-cJ,Nat.add_mul_div_right _ _ hp] at this;exact this
 have h2:R/2^s<b:=by rw[lX hp];exact hR
 have h3:R/2^s+b*D=a:=by rw[cK b];exact h1.symm
 have:=(Nat.div_mod_unique hb).2 ⟨h3,h2⟩;exact⟨this.1.symm,this.2.symm⟩
def asM{a b s:Nat}(hl:(dg b).length<=(dg a).length)(h2:1<=(dg b).length):a*2^s<b*2^s*4294967296^((dg a).length-(dg b).length+1):=by
 have h1:=vz a;have h3:=sk (eg b).2.2 (by intro e;rw[e] at h2;simp at h2);rw[ce] at h3;have h4:4294967296^(dg a).length<=b*4294967296^((dg a).length-(dg b).length+1):=by
  rw[show(dg a).length=((dg b).length-1)+((dg a).length-(dg b).length+1) by omega,eY];rw[show(dg b).length-1+((dg a).length-(dg b).length+1)-(dg b).length+1=(dg a).length-(dg b).length+1 by omega];exact bL _ h3
 rw[nV];exact lU (dZ h1 h4) (fX (by decide))
def P7(x j:Nat):x*2^(32*j)=x*4294967296^j:=by rw[qK]
def aD2(h:R<4294967296^(L+j+1))(h1:1<=L):R/4294967296^(L+j-1)<18446744073709551616:=by
 rw[lX (fX (by decide)),show(18446744073709551616:Nat)=4294967296^2 from J,<-eY];rwa [show 2+(L+j-1)=L+j+1 by omega]
def axv{v:Nat}(hL:L=(dg v).length)(hR:R<v*4294967296^(j+1)):R<4294967296^(L+j+1):=by
 have h:=vz v;rw[<-hL] at h;rw[kV,eY];exact dZ hR (bL _ (gR h))
def UJ{a b ia ib:Nat}[ha:BN a ia][hb:BN b ib](hi:ia<=500000000)(hj:ib<=500000000)(h2:1<=(dg b).length)(hl:(dg b).length<=(dg a).length):PF GB prog 258 [dN a,dN b] (.tp [dN (a/b),dN (a%b)]):=by
 have hla:=eH (dg a);have hlb:=eH (dg b);have hba:=lc ha.h;have hba':(dg a).length<=20000000:=by omega
 refine fn func258 J J ntmps258 J J (fun C=>?_);refine ix _ J (gF (k:=(dg b).length-1)) J<|cl (fu:=⟨0⟩) J (aG1 (io b ((dg b).length-1))) J<|?_;obtain⟨s,hs⟩: ∃s:Nat,s=32-bl ((dg b).getD ((dg b).length-1) 0):=⟨_,rfl⟩;have hs32:s<=32:=by omega
 refine ak 22 (.d (vI (s:Nat))) J (by show FX.d (.v (.int _ _))= .d (.v (.int _ _));congr 3;have:=pi.2 (show(dg b).getD ((dg b).length-1) 0<2^32 from io b _);omega) ?_;refine gx J<|cl J (Dp (a:=b) (k:=s) (ia:=ib) (by omega) (by omega)) J<|cl (fu:=⟨0⟩) J (Dp (a:=a) (k:=s) (ia:=ia) (by omega) (by omega)) J<|?_;obtain⟨v,hv⟩: ∃v,v=b*2^s:=⟨_,rfl⟩;obtain⟨R0,hR0⟩: ∃R0,R0=a*2^s:=⟨_,rfl⟩;refine ak 25 (.d (dN v)) J (by rw[hv]) ?_;refine ak 28 (.d (dN R0)) J (by rw[hR0]) ?_;obtain⟨L,hL⟩: ∃L,L=(dg v).length:=⟨_,rfl⟩;have hlv:((dg v).map dU).length=L:=by rw[eH,hL]
 have hps:2^s<=2^32:=bR (by decide) hs32;have hpp:0<2^s:=fX (by decide);have hst:=asM (a:=a) (b:=b) (s:=s) hl h2;rw[<-hv,<-hR0] at hst;have hvb:v<2^(ib+32):=by rw[hv,eY];exact nU hb.h hps (by decide)
 have hRb:R0<2^(ia+32):=by rw[hR0,eY];exact nU ha.h hps (by decide)
 have hbp:0<b:=iK (fun q=>by subst q;rw[yq] at h2;simp at h2);have hvp:0<v:=hv▸jW hbp hpp;have hLp:1<=L:=by rw[hL];exact Ou (k:=0) (by rw[sK];exact hvp)
 have htop:=Tf hL hLp;haveI hvB:BN v (ib+32):=⟨hvb⟩;have hLb:=lc hvb;have hLb':L<=20000000:=by omega
 have htl:=io v (L-1);refine gx (fu:=⟨9⟩) J<|?_;refine ak 31 (.d (vI (L:Nat))) J (by rw[hlv];rfl) ?_;refine gx J<|ix (fu:=⟨2⟩) _ J (gF (k:=L-1)) J<|?_;refine ak 35 (.d (.v (.int .u64 (v/4294967296^(L-1):Nat)))) J (by rw[htop.1]) ?_;rw[htop.1] at htl;refine gx (fu:=⟨11⟩) J<|?_;obtain⟨m,hm⟩: ∃m,m=(dg a).length-(dg b).length+1:=⟨_,rfl⟩;rw[<-hm] at hst;have hrl:(List.replicate ((m:Nat):Int).toNat (DV.v (.int .u32 0))).length=m:=by rw[aL,aR]
 refine ak 41 (.d (vI (m:Nat))) J (by show FX.d (.v (.int _ _))= .d (.v (.int _ _));congr 3;omega) ?_;refine gx J<|mk ((List.replicate m 0).map dU) J J (by rw[<-xi];rfl) J<|?_;refine lp (X:=List Nat×Nat×Nat) (fun⟨W,R,k⟩=>[(6, .d (vI (s:Nat))),(7, .d (dN v)),(8, .d (dN R)),(9, .d (.v (.int .u64 (v/4294967296^(L-1):Nat)))),(10, .rw 42),(11, .d (vI ((k:Nat)-1)))]) (fun⟨W,R,k⟩=>[(42,some (.b 268 1 (W.map dU) true))]) (fun⟨W,R,k⟩=>W.length=m/\bB W/\k<=m/\R0=R+dv (W.drop k)*4294967296^k*v/\R<v*4294967296^k/\R<=R0) (fun⟨W,R,k⟩=>k) ⟨List.replicate m 0,R0,m⟩ J ⟨by simp, .replicate _,bX _,by simp[dv],hst,bX _⟩ (fun _=>J) (fun⟨W,R,k⟩ hk=>?_);dsimp only at hk⊢;obtain⟨h1,h2',h3,h4,h5,h6⟩:=hk;have hlw:=eH W;refine br (fu1:=⟨10⟩) J J J (fun hc47=>?_) (fun hc47=>?_)
 .
  obtain⟨j,rfl⟩: ∃j,k=j+1:=⟨k-1,by omega⟩;have hvj:0<v*4294967296^j:=jW hvp (fX (by decide));have hge:=azS hL hLp h5;have hlen:=axv hL h5;have hlr:((dg R).map dU).length=(dg R).length:=eH _;haveI hRB:BN R (ia+32):=⟨by omega⟩;have hq32:R/(v*4294967296^j)<4294967296:=by omega
  have hz1:=Int.natCast_nonneg (R/4294967296^(L+j-1));have hz2:=Int.natCast_nonneg (R/4294967296^(L+j-1)/(v/4294967296^(L-1)));refine ak 11 (.d (vI (j:Nat))) J (by show FX.d (.v (.int _ _))= .d (.v (.int _ _));congr 3;omega) ?_;refine mg (fu:=⟨6⟩) (hv:=fun _ _=>by simp only[aj];exact⟨(by omega),(by have:=aD2 hlen hLp;omega),(by omega)⟩) (X:=Unit) (fun _=>[(6, .d (vI (s:Nat))),(7, .d (dN v)),(8, .d (dN R)),(9, .d (.v (.int .u64 (v/4294967296^(L-1):Nat)))),(10, .rw 42),(11, .d (vI (j:Nat))),(12, .d (.v (.int .u64 (R/4294967296^(L+j-1):Nat))))]) (fun _=>[(42,some (.b 268 1 (W.map dU) true))]) (fun _=>True) [6,7,8,9,10,11,12] [42] rfl ?_ (fun _=>J) (fun _ hm=>?_)
  .
   refine gx (fu:=⟨4⟩) J<|?_;refine ak 51 (.d (vI (L:Nat))) J (by rw[hlv];rfl) ?_;refine gx (fu:=⟨2⟩) J<|?_;refine ak 53 (.d (vI (L+j:Nat))) J (by show FX.d (.v (.int _ _))= .d (.v (.int _ _));congr 3) ?_;refine gx (fu:=⟨8⟩) J<|?_;refine ak 56 (.d (vI ((dg R).length:Nat))) J (by rw[hlr];rfl) ?_;refine gx J<|?_;refine br (fu2:=⟨6⟩) J J J (fun hc57=>?_) (fun hc57=>?_)
   .
    have hd0:=io R (L+j-1);have hd1:=io R (L+j);refine ix (hv:=by simp only[aj];exact⟨⟨by omega,(by decide)⟩,by omega⟩) _ J (gF (k:=L+j)) J<|ix (fu:=⟨3⟩) _ J (gF (k:=L+j-1)) J<|?_;refine ak 70 (.d (.v (.int .u64 ((dg R).getD (L+j-1) 0+(dg R).getD (L+j) 0*4294967296:Nat)))) J (congrArg (fun z:Nat=>FX.d (.v (.int .u64 (z:Int)))) (by rw[sP _ 32 (by decide) (by show _*4294967296<_;omega) J,BitVec.or_comm];exact yf 64 ((dg R).getD (L+j-1) 0) ((dg R).getD (L+j) 0) 32 hd0 (by show _+_*4294967296<18446744073709551616;omega))) ?_;refine gx J<|?_;refine ak 12 (.d (.v (.int .u64 (R/4294967296^(L+j-1):Nat)))) J (by rw[Hu (by omega) hlen]) ?_;exact at_ () trivial
   .
    refine ak 74 (.d (vI ((dg R).length:Nat))) J (by rw[hlr];rfl) ?_;refine gx J<|?_;refine br J J J (fun hc75=>?_) (fun hc75=>?_)
    .
     have hd0:=io R (L+j-1);refine ix _ J (gF (k:=L+j-1)) J<|?_;refine ak 12 (.d (.v (.int .u64 (R/4294967296^(L+j-1):Nat)))) J (by rw[Hu (by omega) hlen,vJ (by omega:(dg R).length<=L+j),lJ,fK]) ?_;exact at_ () trivial
    .
     refine ak 12 (.d (.v (.int .u64 (R/4294967296^(L+j-1):Nat)))) J (by rw[Hu (by omega) hlen,vJ (by omega:(dg R).length<=L+j),vJ (by omega:(dg R).length<=L+j-1)];rfl) ?_;exact at_ () trivial
  .
   obtain⟨g0,hg0'⟩: ∃g0,g0=min (R/4294967296^(L+j-1)/(v/4294967296^(L-1))) 4294967295:=⟨_,rfl⟩;rw[<-hg0'] at hge;have hg0:=hge;have hg1:g0<=4294967295:=by omega
   refine ak 85 (.d (.v (.int .u64 (g0:Nat)))) J (by show FX.d (.v (.int _ _))= .d (.v (.int _ _));congr 3;rw[<-qR];split<;>omega) ?_;refine gx J<|cl J (vX (u:=g0)) J<|cl (fu:=⟨2⟩) J (sj (ia:=ib+32) (ib:=32) (hb:=⟨by show _<4294967296;omega⟩) (by omega) (by decide)) J<|?_;refine ak 91 (.d (vI (32*j:Nat))) J (by show FX.d (.v (.int _ _))= .d (.v (.int _ _));congr 3) ?_;refine gx J<|cl (fu:=⟨0⟩) J (Dp (k:=32*j) (ia:=ib+64) (ha:=⟨by rw[show ib+64=ib+32+32 by omega,eY];exact pQ hvb (by show _<4294967296;omega)⟩) (by omega) (by omega)) J<|?_;refine ak 92 (.d (dN (v*4294967296^j*g0))) J (by rw[P7,nV]) ?_;refine gx J<|?_;refine lp (X:=Nat) (fun g=>[(6, .d (vI (s:Nat))),(7, .d (dN v)),(8, .d (dN R)),(9, .d (.v (.int .u64 (v/4294967296^(L-1):Nat)))),(10, .rw 42),(11, .d (vI (j:Nat))),(14, .d (.v (.int .u64 (g:Nat)))),(15, .d (dN (v*4294967296^j*g)))]) (fun g=>[(42,some (.b 268 1 (W.map dU) true))]) (fun g=>R/(v*4294967296^j)<=g/\g<=4294967295) (fun g=>g) g0 J ⟨hg0,by omega⟩ (fun _=>J) (fun g hk=>?_);obtain⟨g1,g2⟩:=hk;have hlw:=eH W;refine cl J (ym (a:=v*4294967296^j*g) (b:=R) (by have:=Fx (a:=v*4294967296^j*g) (k:=L+j+1) (by have h1:=vz v;rw[<-hL] at h1;rw[fY,eY];exact pQ (lU h1 (fX (by decide))) (by omega));omega) (by have:=Fx hlen;omega)) J<|?_;refine br (fu1:=⟨7⟩) (v1:=fun hc96=>by simp only[aj];exact(by have h:=Ep hvj (Bn.1 hc96);have h1:1<=g:=eK (bZ _) h;omega)) (fu2:=⟨11⟩) J J J (fun hc96=>?_) (fun hc96=>?_)
   .
    have hgd:=Ep hvj (Bn.1 hc96);have hg1p:1<=g:=eK (bZ _) hgd;refine ak 98 (.d (.v (.int .u64 ((g-1:Nat):Int)))) J (by show FX.d (.v (.int _ _))= .d (.v (.int _ _));congr 3;omega) ?_;refine gx J<|cl J (vX (u:=g-1)) J<|cl (fu:=⟨2⟩) J (sj (ia:=ib+32) (ib:=32) (hb:=⟨by show _<4294967296;omega⟩) (by omega) (by decide)) J<|?_;refine ak 104 (.d (vI (32*j:Nat))) J (by show FX.d (.v (.int _ _))= .d (.v (.int _ _));congr 3) ?_;refine gx J<|cl (fu:=⟨0⟩) J (Dp (k:=32*j) (ia:=ib+64) (ha:=⟨by rw[show ib+64=ib+32+32 by omega,eY];exact pQ hvb (by show _<4294967296;omega)⟩) (by omega) (by omega)) J<|?_;refine ak 105 (.d (dN (v*4294967296^j*(g-1)))) J (by rw[P7,nV]) ?_;refine gx J<|?_;exact at_ (g-1) ⟨⟨by have h:=Ep hvj (Bn.1 hc96);omega,by omega⟩,(by have:=Ep hvj (Bn.1 hc96);omega)⟩
   .
    have hgq:=Xj hvj g1 (sM fun q=>hc96 (Bn.2 q));refine ak 109 (.d (dU g)) J (by show FX.d (.v (.int _ _))= .d (.v (.int _ _));congr 3;omega) ?_;refine gx J<|sb _ ((W.set j (R/(v*4294967296^j))).map dU) J (gF (k:=j)) J (by(rw[<-hgq,aR,<-uY])<;>rfl) J<|?_;refine cl (fu:=⟨0⟩) J (Gt (a:=R) (b:=v*4294967296^j*g) (ia:=ia+32) (by rw[hgq];exact Nat.mul_div_le _ _) (by omega)) J<|?_;refine ak 113 (.d (dN (R-v*4294967296^j*(R/(v*4294967296^j))))) J (by rw[hgq]) ?_;refine gx J<|?_;exact at_ ⟨W.set j (R/(v*4294967296^j)),R-v*4294967296^j*(R/(v*4294967296^j)),j⟩ (by dsimp only;exact⟨⟨by simpa using h1,h2'.set _ (by omega),by omega,(O8 (by omega) h4 hvj J).1,(O8 (by omega) h4 hvj J).2,by omega⟩,(by omega)⟩)
 .
  obtain rfl:k=0:=by omega
  rw[sK,fV] at h5;rw[sK,fV,jV,hR0,hv] at h4;rw[hv] at h5;have hend:=Yw h5 h4;haveI hRB:BN R (ia+32):=⟨by omega⟩;refine fz 42 J J<|cl J (sB (ds:=W)) J<|cl J (WP (a:=R) (k:=s) (ia:=ia+32) (by omega) (by omega)) J<|?_;exact rz J (by show DV.tp [eO _,dN _]= .tp [dN _,dN _];rw[tH h2' hend.1,hend.2])
def ZE{a b:Nat}(h:b<=a):(dg b).length<=(dg a).length:=Fx (eK h (vz a))
def xp{a b:Nat}[ha:BN a ia][hb:BN b ib](hb0:0<b)(hi:ia<=500000000:=by decide)(hj:ib<=500000000:=by decide):PF GB prog 168 [dN a,dN b] (.tp [dN (a/b),dN (a%b)]):=by
 have hla:=eH (dg a);have hlb:=eH (dg b);have hba:=lc ha.h;have hbb:=lc hb.h;have hba':(dg a).length<=20000000:=by omega
 have hbb':(dg b).length<=20000000:=by omega
 have hlb1:1<=(dg b).length:=Ou (k:=0) (by rw[sK];exact hb0);refine fn (fu:=⟨7⟩) func168 J J ntmps168 J J (fun C=>?_);refine mg (X:=Unit) (fun _=>[(0, .d (dN a)),(1, .d (dN b))]) (fun _=>[]) (fun _=>True) [0,1] [] rfl ?_ (fun _=>J) (fun _ hm=>?_)
 .
  refine gx J<|cl J (D3 (a:=a) (ia:=ia) (by omega)) J<|?_;refine bd (fu1:=⟨0⟩) J J J (fun hc18=>?_) (fun hc18=>?_)
  .
   refine ak 6 (.d (.v (.int .u64 (a:Nat)))) J (by rw[if_pos hc18]) ?_;refine gx J<|cl J (D3 (a:=b) (ia:=ib) (by omega)) J<|?_;refine bd (fu1:=⟨0⟩) J J J (fun hc24=>?_) (fun hc24=>?_)
   .
    refine ak 8 (.d (.v (.int .u64 (b:Nat)))) J (by rw[if_pos hc24]) ?_;have hdl:=lK a b;have hml:=Nat.mod_le a b;refine gx (hv:=by simp only[aj];exact⟨(by omega),(by omega),(by omega)⟩) J<|cl (hv:=by simp only[aj];exact⟨(by omega),(by omega)⟩) J (vX (u:=a/b)) J<|cl J (vX (u:=a%b)) J<|?_;exact rz J J
   .
    exact at_ () trivial
  .
   exact at_ () trivial
 .
  refine cl J (ym) J<|?_;refine br J J J (fun hc36=>?_) (fun hc36=>?_)
  .
   have hab:=x7.1 hc36;refine s5 J J<|ap _ J J (ve _) J<|?_;refine ir 39 J ?_;exact rz J (by show DV.tp [_, .sl ([]++_)]= .tp [_,_];rw[kU hab,gS hab,qv];rfl)
  .
   have hab:b<=a:=sM fun q=>hc36 (x7.2 q);have hlab:(dg b).length<=(dg a).length:=ZE hab;refine br (fu1:=⟨4⟩) J J J (fun hc42=>?_) (fun hc42=>?_)
   .
    have hb1:b<4294967296:=by have:=vz b;rw[show(dg b).length=1 by omega] at this;omega
    have hbd:(dg b).getD 0 0=b:=Az;refine ak 44 (.d (vI ((dg a).length:Nat))) J (by rw[hla];rfl) ?_;refine gx J<|mk (fu:=⟨13⟩) ((List.replicate (dg a).length 0).map dU) J J (by rw[<-xi];rfl) J<|?_;refine ak 47 (.d (vI ((dg a).length:Nat))) J (by rw[hla];rfl) ?_;refine gx J<|?_;refine lp (X:=List Nat×Nat) (fun⟨W,k⟩=>[(0, .d (dN a)),(1, .d (dN b)),(10, .rw 45),(11, .d (dU (dv ((dg a).drop k)%b))),(12, .d (vI ((k:Nat)-1)))]) (fun⟨W,k⟩=>[(45,some (.b 268 1 (W.map dU) true))]) (fun⟨W,k⟩=>W.length=(dg a).length/\bB W/\k<=(dg a).length/\dv (W.drop k)=dv ((dg a).drop k)/b) (fun⟨W,k⟩=>k) ⟨List.replicate (dg a).length 0,(dg a).length⟩ J ⟨by simp, .replicate _,bX _,by simp[dv]⟩ (fun _=>J) (fun⟨W,k⟩ hk=>?_) (hF:=(by refine⟨J,J,J,qz J (by simp[dv,dU]),qz J (by simp[vI]),?_⟩;repeat (first|exact trivial|refine And.intro J ?_)))
    try dsimp only at hk⊢
    obtain⟨h1,h2,h3,h4⟩:=hk;have hlw:=eH W;refine br (fu1:=⟨0⟩) J J J (fun hc50=>?_) (fun hc50=>?_)
    .
     obtain⟨k,rfl⟩: ∃j,k=j+1:=⟨k-1,by omega⟩;have hsi:=axc hb0 (by omega) h1 h4;have hrm:=dV (dv ((dg a).drop (k+1))) hb0;have hdk:=io a k;have hqd:(dv ((dg a).drop (k+1))%b*4294967296+(dg a).getD k 0)/b<4294967296:=by rw[lX hb0];have:=fL 4294967296 (show dv ((dg a).drop (k+1))%b+1<=b from hrm);omega
     refine ak 12 (.d (vI (k:Nat))) J (by show FX.d (.v (.int _ _))= .d (.v (.int _ _));congr 3;omega) ?_;refine gx J<|ix _ J (gF (k:=k)) J<|ix _ J (gF (k:=0) J (by omega)) J<|cl J (ZH (h:=dv ((dg a).drop (k+1))%b) (l:=(dg a).getD k 0) (y:=(dg b).getD 0 0) (by omega) hdk (by omega)) J<|?_;refine sb (hv:=by simp only[aj];exact⟨by kernel_rfl,by omega⟩) _ ((W.set k ((dv ((dg a).drop (k+1))%b*4294967296+(dg a).getD k 0)/b)).map dU) J (gF (k:=k)) J (by(rw[hbd,aR,<-uY])<;>rfl) J<|?_;exact at_ ⟨W.set k ((dv ((dg a).drop (k+1))%b*4294967296+(dg a).getD k 0)/b),k⟩ (by dsimp only;exact⟨⟨by simpa using h1,h2.set _ hqd,by omega,hsi.1⟩,(by omega)⟩) (by refine⟨J,J,J,qz J (by rw[hsi.2,hbd]),qz J (by first|(simp[vI];done)|(simp[vI];omega)),?_⟩;repeat (first|exact trivial|refine And.intro J ?_))
    .
     refine fz 45 J J<|cl J (sB (ds:=W)) J<|rf J J<|cl J (sB (ds:=[dv ((dg a).drop k)%b]) (by simp)) J<|?_;exact rz rfl (by show DV.tp [eO _,eO _]= .tp [_,_];obtain rfl:k=0:=(by omega);rw[jV,jV,ce] at h4;rw[jV,ce];rw[tH h2 h4,tH (.cons (by have:=dV a hb0;omega) .nil) (n:=a%b) (by simp[dv])])
   .
    refine cl J (UJ (by omega) (by omega) hlb1 hlab) J<|?_;exact rz J J
def RM(x y:Nat):Nat.gcd y (x%y)=Nat.gcd x y:=by rw[jY x y,tT y x,jY]
def By{a b:Nat}[ha:BN a ia][hb:BN b ib](hi:ia<=240000000:=by decide)(hj:ib<=240000000:=by decide):PF GB prog 166 [dN a,dN b] (dN (Nat.gcd a b)):=by
 refine fn (fu:=⟨6⟩) func166 J J ntmps166 J J (fun C=>?_);refine mg (X:=Unit) (fun _=>[(0, .d (dN a)),(1, .d (dN b))]) (fun _=>[]) (fun _=>True) [0,1] [] rfl ?_ (fun _=>J) (fun _ hm=>?_)
 .
  refine gx J<|cl J (D3 (a:=a) (ia:=ia) (by omega)) J<|?_;refine bd (fu1:=⟨0⟩) J J J (fun hc16=>?_) (fun hc16=>?_)
  .
   refine ak 5 (.d (.v (.int .u64 (a:Nat)))) J (by rw[if_pos hc16]) ?_;refine gx J<|cl J (D3 (a:=b) (ia:=ib) (by omega)) J<|?_;refine bd (fu1:=⟨0⟩) J J J (fun hc22=>?_) (fun hc22=>?_)
   .
    refine ak 7 (.d (.v (.int .u64 (b:Nat)))) J (by rw[if_pos hc22]) ?_;refine gx J<|?_;refine lp (X:=Nat×Nat) (fun⟨x,y⟩=>[(5, .d (.v (.int .u64 (x:Nat)))),(7, .d (.v (.int .u64 (y:Nat))))]) (fun⟨x,y⟩=>[]) (fun⟨x,y⟩=>x<18446744073709551616/\y<18446744073709551616/\Nat.gcd x y=Nat.gcd a b) (fun⟨x,y⟩=>y) ⟨a,b⟩ J ⟨hc16,hc22,J⟩ (fun _=>J) (fun⟨x,y⟩ hk=>?_)
    try dsimp only at hk⊢
    obtain⟨h1,h2,h3⟩:=hk;refine br (v1:=fun hc24=>by simp only[aj];exact⟨⟨(by omega),(by omega)⟩,by kernel_rfl⟩) J J J (fun hc24=>?_) (fun hc24=>?_)
    .
     exact at_ ⟨y,x%y⟩ (by dsimp only;exact⟨⟨h2,by have:=dV x (show 0<y by omega);omega,by rw[RM,h3]⟩,(by exact dV _ (by omega))⟩)
    .
     refine cl J (vX (u:=x) h1) J<|?_;exact rz J (by show dN x=_;rw[<-h3,show y=0 by omega,nW])
   .
    exact at_ () trivial
  .
   exact at_ () trivial
 .
  refine lp (fu:=⟨5⟩) (X:=Nat×Nat) (fun⟨x,y⟩=>[(0, .d (dN x)),(1, .d (dN y))]) (fun⟨x,y⟩=>[]) (fun⟨x,y⟩=>x<2^(ia+ib)/\y<2^(ia+ib)/\Nat.gcd x y=Nat.gcd a b) (fun⟨x,y⟩=>y) ⟨a,b⟩ J ⟨(ha.mono (by omega)).h,(hb.mono (by omega)).h,J⟩ (fun _=>J) (fun⟨x,y⟩ hk=>?_)
  try dsimp only at hk⊢
  obtain⟨h1,h2,h3⟩:=hk;have hly:=eH (dg y);haveI hx':BN x (ia+ib):=⟨h1⟩;haveI hy':BN y (ia+ib):=⟨h2⟩;refine ak 32 (.d (vI ((dg y).length:Nat))) J (by rw[hly];rfl) ?_;refine gx J<|?_;refine br J J J (fun hc33=>?_) (fun hc33=>?_)
  .
   have hy0:0<y:=iK fun q=>by subst q;rw[yq] at hc33;simp at hc33
   refine cl J (xp (a:=x) (b:=y) (ia:=ia+ib) (ib:=ia+ib) hy0 (by omega) (by omega)) J<|?_;exact at_ ⟨y,x%y⟩ (by dsimp only;exact⟨⟨h2,by have:=dV x hy0;omega,by rw[RM,h3]⟩,(by exact dV _ hy0)⟩)
  .
   have hy0:y=0:=vO.1 (by omega);have hlx:=lc h1;have hmx:=eH (dg x);refine s5 J J<|ap _ J J (ve _) J<|?_;refine ir 44 J ?_;exact rz J (by show DV.sl ([]++_)=_;rw[<-h3,hy0,nW];rfl)
def OG(neg:Bool)(m:Nat):eI (zv neg m)= .ag [.v (.bool (neg&&decide (0<m))),dN m]:=by unfold eI;rw[sA,LZ]
def W0(z:Int):zv (!decide (z<0)) z.natAbs= -z:=by
 unfold zv;by_cases h:z<0<;>simp[h]<;>omega
def Wj(a b:Int):zv (!(decide (a<0)==decide (b<0))) (a.natAbs*b.natAbs)=a*b:=by
 have h:=Pa (decide (a<0)) (decide (b<0)) a.natAbs b.natAbs;rw[mo,mo] at h;exact h
def lz{neg:Bool}{m:Nat}:PF GB prog 78 [.v (.bool neg),dN m] (eI (zv neg m)):=by
 have hl:=eH (dg m);have hz:= @vO m;refine fn func78 J J ntmps78 J J (fun C=>?_);refine ja 6 J J J (fun hg6=>?_) (fun hg6=>?_)
 .
  exact rz J (by rw[OG,hg6];show DV.ag [.v (.bool _),_]= .ag [.v (.bool _),_];congr 4;rw[pN];exact decide_eq_decide.2 (by omega))
 .
  exact rz J (by rw[OG,hg6];rfl)
structure HK where
 lo:RV
 hi:RV
 nl:Bool
 nh:Bool
def HK.v(z:HK):Value:= .agg ⟨[.int .i64 z.lo.n, .int .i64 z.lo.d, .pointer z.lo.p, .int .i64 z.hi.n, .int .i64 z.hi.d, .pointer z.hi.p, .bool z.nl, .bool z.nh]⟩
section
variable {own:List av}
variable {t:TypeId}{x:Operand}
end

structure LJ where
 l:LV
 v:HK
def LJ.val(z:LJ):Value:= .agg ⟨[.int .i64 z.l.a.n, .int .i64 z.l.a.d, .pointer z.l.a.p, .int .i64 z.l.b.n, .int .i64 z.l.b.d, .pointer z.l.b.p, .int .i64 z.l.c.n, .int .i64 z.l.c.d, .pointer z.l.c.p, .int .i64 z.v.lo.n, .int .i64 z.v.lo.d, .pointer z.v.lo.p, .int .i64 z.v.hi.n, .int .i64 z.v.hi.d, .pointer z.v.hi.p, .bool z.v.nl, .bool z.v.nh]⟩
inductive gP {α β:Type} (R:α->β->Prop):List α->List β->Prop
 |nil:gP R [] []
 |cons {a b us bs} (h:R a b) (t:gP R us bs):gP R (a::us) (b::bs)
def gP.len{R:α->β->Prop}{us:List α}{bs:List β}(h:gP R us bs):us.length=bs.length:=by
 induction h with
 |nil=>rfl
 |cons _ _ ih=>simp[ih]
def gP.imp{R S:α->β->Prop}{us:List α}{bs:List β}(h:gP R us bs)(k: ∀a b,R a b->S a b):gP S us bs:=by
 induction h with
 |nil=>exact .nil
 |cons h _ ih=>exact .cons (k _ _ h) ih
def gP.get{R:α->β->Prop}{us:List α}{bs:List β}(h:gP R us bs){b:β}(hi:bs[i]? =some b): ∃a,us[i]? =some a/\R a b:=by
 induction h generalizing i with
 |nil=>simp at hi
 | @cons a b' us bs h t ih=>
  cases i with
  |zero=>simp at hi;subst hi;exact⟨a,J,h⟩
  |succ i=>simpa using ih (i:=i) (by simpa using hi)
def gP.app{R:α->β->Prop}{us us':List α}{bs bs':List β}(h:gP R us bs)(k:gP R us' bs'):gP R (us++us') (bs++bs'):=by
 induction h with
 |nil=>exact k
 |cons h _ ih=>exact .cons h ih

section
variable {own:List av}
variable {t:TypeId}{x:Operand}
def axP{o1 o2:av}(h:o1.b≠o2.b->St C n fr (o1::o2::rest) G Φ):St C n fr (o1::o2::rest) G Φ:=
 fun a w rl=>h ((cV.1 rl.h.nd).1 _ aQ) a w rl
def EA[hT:cv P t e s by_]{k:IntKind}{b len:Nat}{l:Int}(hx:aA fr x=some (.slice (some ⟨b,off,none⟩) len cap))(hy:aA fr y=some (.int k l))(h0:0<=l:=by omega)(h1:l<=len:=by omega)(h2:l<cap:=by omega):
  Yd P C fr own G ⟨dst, .slice t x (some y) none none,ty',pos,af,gd⟩ (.slice (some ⟨b,off+l.toNat*s,none⟩) (len-l.toNat) (cap-l.toNat)):=by
 have h:=Ki (P:=P) (C:=C) (own:=own) (G:=G) (t:=t) (dst:=dst) (ty':=ty') (pos:=pos) (af:=af) (gd:=gd) (by_:=by_) hx hy h0 h1;unfold nF at h;rw[if_neg (by omega)] at h;simpa[qD] using h
end

section
variable {own:List av}
variable {t:TypeId}{x:Operand}
end


structure ND where
 a:IV
 b:IV
 c:IV
 l:Int
 r:Int
def ND.val(z:ND):Value:= .agg ⟨[.bool z.a.neg, .slice z.a.a.a z.a.a.n z.a.a.c, .bool z.b.neg, .slice z.b.a.a z.b.a.n z.b.a.c, .bool z.c.neg, .slice z.c.a.a z.c.a.n z.c.a.c, .int .i64 z.l, .int .i64 z.r]⟩
structure rO (k:Nat) (G:Gh) (z:ND) (n:NQ):Prop where
 a:rh k G z.a n.l.a
 b:rh k G z.b n.l.b
 c:rh k G z.c n.l.c
 l:z.l=n.a
 r:z.r=n.b
def rO.up{k:Nat}{A G:Gh}{z:ND}{n:NQ}(h:rO k A z n)[GL A G]:rO k G z n:=⟨h.a.up,h.b.up,h.c.up,h.l,h.r⟩
structure Vy (k:Nat) (G:Gh) (x:SV) (ns:List NQ):Prop where
 ex: ∃zs:List ND,fw G 8 x (zs.map ND.val)/\gP (rO k G) zs ns

def ND.len8(zs:List ND): ∀v∈zs.map ND.val,(aE v).length=8:=fun v hv=>by
 obtain⟨f,_,rfl⟩:=aT.1 hv;rfl
def ND.flat(zs:List ND): ∀v∈zs.map ND.val,∀c∈aE v,Sx.flat c=true:=fun v hv c hc=>by
 obtain⟨f,_,rfl⟩:=aT.1 hv;simp only[ND.val,aE,aW,dR,or_false] at hc;rcases hc with rfl|rfl|rfl|rfl|rfl|rfl|rfl|rfl<;>rfl
def gP.set{α β:Type}{R:α->β->Prop}{us:List α}{bs:List β}(h:gP R us bs){a:α}{b:β}(hr:R a b)(i:Nat):gP R (us.set i a) (bs.set i b):=by
 induction h generalizing i with
 |nil=>simp;exact .nil
 |cons h t ih=>
  cases i with
  |zero=>exact .cons hr t
  |succ i=>exact .cons h (ih i)
def MK(zs:List ND)(rest:List Value)(i j:Nat)(x:Value)(z:ND)(hi:i<zs.length)(hj:j<8)(hz:aE z.val=(aE (zs[i]).val).set j x):
  (aF (zs.map ND.val)++rest).set (i*8+j) x=aF ((zs.set i z).map ND.val)++rest:=by
 have hi':i<(zs.map ND.val).length:=by simpa using hi
 rw[Ql hj _ i hi' (ND.len8 zs),qY,<-hz,kY,List.set_eq_take_append_cons_drop,if_pos hi',qp];have e:aF (z.val::(zs.map ND.val).drop (i+1))=aE z.val++aF ((zs.map ND.val).drop (i+1)):=by simp[aF]
 rw[e];simp[dW]
def oA(ob wb:Nat):Value:= .func (.func 188) #[] #[.pointer (some ⟨ob,0,none⟩), .pointer (some ⟨wb,0,none⟩)]
structure M4 where
 x:SV
 p:Option Addr
def M4.val(z:M4):Value:= .agg ⟨[.slice z.x.a z.x.n z.x.c, .pointer z.p]⟩
structure LI where
 a:IV
 b:IV
 c:IV
def LI.val(z:LI):Value:= .agg ⟨[.bool z.a.neg, .slice z.a.a.a z.a.a.n z.a.a.c, .bool z.b.neg, .slice z.b.a.a z.b.a.n z.b.a.c, .bool z.c.neg, .slice z.c.a.a z.c.a.n z.c.a.c]⟩
def xo{a b:Int}(h:a=b):eI a=eI b:=by rw[h]
def EY(z:Int):eQ (z:Rat)= .ag [.v (.bool (decide (z<0))),dN z.natAbs, .sl []]:=by unfold eQ;rw[oZ,oX];rfl
def Ej{a:Rat}(h:a.den=1):((a.num:Int):Rat)=a:=Rat.ext (oZ _) (by rw[oX,h])
def ax8{a b:Rat}(ha:a.den=1)(hb:b.den=1):a+b=((a.num+b.num:Int):Rat):=by
 rw[lV,Ej ha,Ej hb]
def Va{a b:Rat}(ha:a.den=1)(hb:b.den=1):a*b=((a.num*b.num:Int):Rat):=by
 rw[cW,Ej ha,Ej hb]
def Ag(n:Nat)(h:0<n):(if n=1 then [] else(dg n).map dU).length=0↔n=1:=by
 by_cases q:n=1
 .simp[q]
 .rw[if_neg q,aX,vO];omega
def Ra(h:n≠1):dD n=dN n:=by unfold dD;rw[if_neg h];rfl
def Gg:(gk g 1=0)↔g=1:=by
 unfold gk;constructor
 .intro h;split at h
  .exact absurd h (by decide)
  .split at h
   .assumption
   .exact absurd h (by decide)
 .rintro rfl;rfl
def OO{x:Int}(hd:0<d):zv (decide (x<0)) (x.natAbs/Nat.gcd x.natAbs d)=(mkRat x d).num:=by
 rw[Rat.num_mkRat,if_neg (by omega),jY];have hg:0<Nat.gcd d x.natAbs:=mL _ hd;obtain⟨c,hc⟩:Nat.gcd d x.natAbs∣x.natAbs:=lL _ _;generalize Nat.gcd d x.natAbs=g at*;rw[hc,rN _ hg];unfold zv;by_cases q:x<0
 .rw[if_pos (by simpa using q),show x=(g:Int)*(-(c:Int)) by rw[Int.mul_neg,<-jU];omega,Int.mul_ediv_cancel_left _ (by omega)]
 .rw[if_neg (by simpa using q),show x=(g:Int)*(c:Int) by rw[<-jU];omega,Int.mul_ediv_cancel_left _ (by omega)]
def OW{x:Int}(hd:0<d):d/Nat.gcd x.natAbs d=(mkRat x d).den:=by
 rw[Rat.den_mkRat,if_neg (by omega),jY]
def aGm{x:Int}(hd:0<d)(h:Nat.gcd x.natAbs d=1):(mkRat x d).num=x/\(mkRat x d).den=d:=by
 rw[<-OO hd,<-OW hd,h,tL,tL];exact⟨mo x,J⟩
instance BI.zv (neg:Bool) (m i:Nat) [h:BN m i]:BI (zv neg m) i:=⟨by rw[sA];exact h.h⟩
section
variable {Q0:Exit->Act->World->Prop}{fr fr':aC}{own own':aH}{cf cf':Cf}{vc:List Prop}
def Sz(fr:aC)(cf:Cf):Option Int:=match dd fr cf with
 |some ⟨_, .convert t t' x,_,_,_,_⟩=>match d8 tt t,d8 tt t' with
  |some ⟨.int .i64,_,_,_⟩,some ⟨.int .u64,_,_,_⟩=>match bj (b9 fr cf) x with
   |some (.d (.v (.int .i64 p)))=>some p
   |_=>none
  |_,_=>none
 |_=>none
def cvw[fu:Fu]{p:Int}(q:Int)(h:Sz fr cf=some p)(e:p%18446744073709551616=q)(hgo:cI tt n fu.n fr own cf (.d (.v (.int .u64 q))) [] []=⟨vc,fr',own',cf'⟩)(k:aw prog GB C n Q0 fr' own' cf')
  (hv:aj vc:=by first|exact trivial|(simp only[aj];omega)):aw prog GB C n Q0 fr own cf:=by
 unfold Sz at h;split at h<;>try (cases h;done)
 rename_i hh;split at h<;>try (cases h;done)
 rename_i hT hT';split at h<;>cases h;rename_i hx;have:=zz (eE _ _ hT) J;have:=zz (eE _ _ hT') J;refine us hh (.x1 hx fun ρ G ov a w y _ r h1 h2=>?_) hgo hv k;rw[dq] at h2;subst h2;refine⟨_,dq.2 J,?_⟩;rw[<-e,<-od];exact DS h1
def NK(fr:aC)(cf:Cf):Option Int:=match dd fr cf with
 |some ⟨_, .unOp .neg _ x,_,_,_,_⟩=>match bj (b9 fr cf) x with
  |some (.d (.v (.int .u64 p)))=>some p
  |_=>none
 |_=>none
def Uz[fu:Fu]{p:Int}(q:Int)(h:NK fr cf=some p)(e:(0-p)%18446744073709551616=q)(hgo:cI tt n fu.n fr own cf (.d (.v (.int .u64 q))) [] []=⟨vc,fr',own',cf'⟩)(k:aw prog GB C n Q0 fr' own' cf')
  (hv:autoParam (aj vc) cvw._auto_1):aw prog GB C n Q0 fr own cf:=by
 unfold NK at h;split at h<;>try (cases h;done)
 rename_i hh;split at h<;>cases h;rename_i hx;refine us hh (.x1 hx fun ρ G ov a w y _ r h1 h2=>?_) hgo hv k;rw[dq] at h2;subst h2;refine⟨_,dq.2 J,?_⟩;rw[<-e,<-od];exact HU h1
end
def aIa{n:Int}(h0: -4611686018427387904<=n)(h1:n<=4611686018427387904):PF GB prog 110 [.v (.int .i64 n)] (eI n):=by
 refine fn func110 J J ntmps110 J J (fun C=>?_);refine br (fu1:=⟨3⟩) (fu2:=⟨6⟩) J J J (fun hc4=>?_) (fun hc4=>?_)
 .
  refine cvw (fu:=⟨0⟩) (18446744073709551616+n) J (by omega) J<|Uz (n.natAbs:Nat) J (by omega) J<|cl J (vX (u:=n.natAbs)) J<|?_;refine cl J lz J<|?_;exact rz J (xo (by unfold zv;rw[if_pos J];omega))
 .
  refine ak 11 (.d (.v (.int .u64 (n.natAbs:Nat)))) J (by show FX.d (.v (.int _ _))= .d (.v (.int _ _));congr 3;omega) ?_;refine gx J<|cl J (vX (u:=n.natAbs)) J<|cl J lz J<|?_;exact rz J (xo (by unfold zv;rw[if_neg (by decide)];omega))
def yv:PF GB prog 171 [eI z] (vI z.sign):=by
 have hl:=eH (dg z.natAbs);have hz:= @vO z.natAbs;refine fn func171 J J ntmps171 J J (fun C=>?_);refine br J J J (fun hc6=>?_) (fun hc6=>?_)
 .
  exact rz J (by show DV.v (.int _ 0)=DV.v (.int _ _);rw[show z=0 by omega];rfl)
 .
  refine bd J J J (fun hc8=>?_) (fun hc8=>?_)
  .
   exact rz J (by show DV.v (.int _ (-1))=DV.v (.int _ _);rw[fZ (by omega)])
  .
   exact rz J (by show DV.v (.int _ 1)=DV.v (.int _ _);rw[fS (by omega)])
def AG:PF GB prog 113 [eI z] (eI (-z)):=by
 refine fn func113 J J ntmps113 J J (fun C=>?_);refine cl J lz J<|?_;exact rz J (xo (W0 z))
def Uq{a b:Int}(h:decide (a<0)=decide (b<0)):zv (decide (a<0)) (a.natAbs+b.natAbs)=a+b:=by
 unfold zv;have h':a<0↔b<0:=by simpa using h
 by_cases q:a<0
 .have:=h'.1 q
  simp[q];omega
 .have: ¬b<0:=fun w=>q (h'.2 w)
  simp[q];omega
def aEg{a b:Int}(h: ¬decide (a<0)=decide (b<0))(k:a.natAbs<b.natAbs):zv (decide (b<0)) (b.natAbs-a.natAbs)=a+b:=by
 unfold zv;have h': ¬(a<0↔b<0):=by simpa using h
 by_cases q:b<0
 .have: ¬a<0:=fun w=>h' ⟨fun _=>q,fun _=>w⟩
  simp[q];omega
 .have:a<0:=Int.not_le.1 fun w=>h' ⟨fun e=>by omega,fun e=>absurd e q⟩
  simp[q];omega
def aBP{a b:Int}(h: ¬decide (a<0)=decide (b<0))(k:b.natAbs<=a.natAbs):zv (decide (a<0)) (a.natAbs-b.natAbs)=a+b:=by
 unfold zv;have h': ¬(a<0↔b<0):=by simpa using h
 by_cases q:a<0
 .have: ¬b<0:=fun w=>h' ⟨fun _=>w,fun _=>q⟩
  simp[q];omega
 .have:b<0:=Int.not_le.1 fun w=>h' ⟨fun e=>absurd e q,fun e=>by omega⟩
  simp[q];omega
def Eb{a b:Int}[ha:BI a i][hb:BI b j](hi:i<=400000000:=by decide)(hj:j<=400000000:=by decide):PF GB prog 75 [eI a,eI b] (eI (a+b)):=by
 have hba:=lc ha.h;have hbb:=lc hb.h;refine fn (fu:=⟨15⟩) func75 J J ntmps75 J J (fun C=>?_);refine ak 9 (.d (.v (.bool (decide (decide (a<0)=decide (b<0)))))) J (by congr 2) ?_;refine gx J<|?_;refine bd J J J (fun hc9=>?_) (fun hc9=>?_)
 .
  refine cl J (aH1 (by omega) (by omega)) J<|cl J lz J<|?_;exact rz J (xo (Uq hc9))
 .
  refine cl J (ym) J<|?_;refine br J J J (fun hc23=>?_) (fun hc23=>?_)
  .
   refine cl J (Gt (by have:=x7.1 hc23;omega) (by omega)) J<|cl J lz J<|?_;exact rz J (xo (aEg hc9 (x7.1 hc23)))
  .
   refine cl J (Gt (sM fun q=>hc23 (x7.2 q)) (by omega)) J<|cl J lz J<|?_;exact rz J (xo (aBP hc9 (sM fun q=>hc23 (x7.2 q))))
def vk{a b:Int}[ha:BI a i][hb:BI b j](hi:i<=400000000:=by decide)(hj:j<=400000000:=by decide):PF GB prog 77 [eI a,eI b] (eI (a*b)):=by
 refine fn func77 J J ntmps77 J J (fun C=>?_);refine cl J (sj (by omega) (by omega)) J<|cl J lz J<|?_;exact rz J (xo (Wj a b))
def KR{a b:Int}[ha:BI a i][hb:BI b j](hi:i<=400000000:=by decide)(hj:j<=400000000:=by decide):PF GB prog 209 [eI a,eI b] (vI (a-b).sign):=by
 refine fn func209 J J ntmps209 J J (fun C=>?_);refine cl J AG J<|cl J (Eb (by omega) (by omega)) J<|cl J yv J<|?_;exact rz J (by rw[Int.sub_eq_add_neg];rfl)
def lD:PF GB prog 79 [eQ q] (dN q.den):=by
 refine fn func79 J J ntmps79 J J (fun C=>?_);refine br J J J (fun hc6=>?_) (fun hc6=>?_)
 .
  refine cl J CW J<|?_;exact rz J (by rw[(Ag q.den (nj q)).1 (by omega)];rfl)
 .
  exact rz J (by exact Ra (fun e=>hc6 (by exact congrArg Int.ofNat ((Ag q.den (nj q)).2 e))))
def OQ[h:BN n k](hk:k<=500000000:=by omega):(dg n).length<=100000000:=by have:=lc h.h;omega
def yi{x:Int}[hx:BI x i][hd:BN d j](hd0:0<d)(hi:i<=200000000:=by decide)(hj:j<=200000000:=by decide):PF GB prog 76 [eI x,dN d] (eQ (mkRat x d)):=by
 obtain⟨q,hq⟩: ∃q,q=mkRat x d:=⟨_,rfl⟩;obtain⟨g,hg⟩: ∃g,g=Nat.gcd x.natAbs d:=⟨_,rfl⟩;have hg0:0<g:=hg▸rK _ hd0;haveI hgB:BN g (i+j):=hg▸inferInstance;have hg1:(dg g).length<=100000000:=OQ (k:=i+j);have ho1:(dg 1).length<=100000000:=by rw[Bb];decide
 haveI hqB:BQ q (i+j):=hq▸A4 hd0 (dZ hx.h (bR (by decide) (by omega))) (dZ hd.h (bR (by decide) (by omega)));refine fn func76 J J ntmps76 J J (fun C=>?_);refine cl (fu:=⟨0⟩) J (By (by omega) (by omega)) J<|?_;refine ak 11 (.d (dN g)) J (by rw[hg]) ?_;refine gx (fu:=⟨4⟩) J<|?_;refine mg (fu:=⟨1⟩) (X:=Unit) (fun _=>[(1, .d (dN q.den)),(2, .ov 2 0),(4, .ov 4 0)]) (fun _=>[(4,some (.o 34 [.ff, .nl, .nl] true)),(2,some (.o 32 [.d (.v (.bool (decide (q.num<0)))), .d (dN q.num.natAbs)] true))]) (fun _=>True) [1,2,4] [4,2] rfl ?_ (fun _=>J) (fun _ hm=>?_)
 .
  refine gx J<|cl J CW J<|cl J (ym hg1 ho1) J<|?_;refine br J J J (fun hc15=>?_) (fun hc15=>?_)
  .
   refine cl J (xp hg0 (by omega) (by omega)) J<|cl (fu:=⟨0⟩) J lz J<|?_;refine ak 26 (.d (eI q.num)) J (by show FX.d (eI (zv _ _))=_;rw[hg,OO hd0,hq]) ?_;refine gx J<|cl (fu:=⟨2⟩) J (xp hg0 (by omega) (by omega)) J<|?_;refine ak 31 (.d (dN q.den)) J (by rw[hg,OW hd0,hq]) ?_;refine gx J<|?_;exact at_ () trivial
  .
   have hm:=aGm (x:=x) hd0 (by rw[<-hg];exact Gg.1 (Decidable.not_not.1 hc15));rw[<-hq] at hm;refine ak 1 (.d (dN q.den)) J (by rw[hm.2]) ?_;exact at_ () trivial (hO:=⟨J,by rw[hm.1];rfl,trivial⟩)
 .
  refine mg (X:=Unit) (fun _=>[(1, .d (dD q.den)),(2, .ov 2 0),(4, .ov 4 0)]) (fun _=>[(4,some (.o 34 [.ff, .nl, .nl] true)),(2,some (.o 32 [.d (.v (.bool (decide (q.num<0)))), .d (dN q.num.natAbs)] true))]) (fun _=>True) [1,2,4] [4,2] rfl ?_ (fun _=>J) (fun _ hm=>?_)
  .
   refine gx J<|cl J CW J<|cl J (ym (OQ (k:=i+j)) ho1) J<|?_;refine br J J J (fun hc36=>?_) (fun hc36=>?_)
   .
    refine nlD 1 J ?_;refine ak 1 (.d (dD q.den)) J (by rw[Gg.1 hc36];rfl) ?_;exact at_ () trivial
   .
    refine ak 1 (.d (dD q.den)) J (by rw[Ra (fun e=>hc36 (Gg.2 e))]) ?_;exact at_ () trivial
  .
   exact rz J (by rw[<-hq];rfl)
def Se(a:Rat):mkRat a.num a.den=a:=by simp[sV]
def Ol{a b:Rat}(h:b≠0):a/b=mkRat (a.num*zv (decide (b.num<0)) b.den) (a.den*b.num.natAbs):=by
 rw[nK];have ha:(a.num:Rat)/(a.den:Rat)=a:=by rw[<-nK,Se]
 have hb:(b.num:Rat)/(b.den:Rat)=b:=by rw[<-nK,Se]
 have h1:(a.den:Rat)≠0:=by have:=a.den_nz;exact_mod_cast this
 have h2:(b.den:Rat)≠0:=by have:=b.den_nz;exact_mod_cast this
 have h3:(b.num:Rat)≠0:=by
  intro e;rw[e] at hb;apply h;rw[<-hb];grind
 rw[cW,Rat.natCast_mul];by_cases q:b.num<0
 .have e1:((zv (decide (b.num<0)) b.den:Int):Rat)= -(b.den:Rat):=by
   unfold zv;rw[if_pos (by simpa using q),jQ];rfl
  have e2:((b.num.natAbs:Nat):Rat)= -(b.num:Rat):=by
   have:((b.num.natAbs:Nat):Int)= -b.num:=by omega
   rw[<-jQ,<-this];rfl
  rw[e1,e2];generalize (a.num:Rat)=an at*;generalize (a.den:Rat)=ad at*;generalize (b.num:Rat)=bn at*;generalize (b.den:Rat)=bd at*;subst ha hb;grind
 .have e1:((zv (decide (b.num<0)) b.den:Int):Rat)=(b.den:Rat):=by
   unfold zv;rw[if_neg (by simpa using q)];rfl
  have e2:((b.num.natAbs:Nat):Rat)=(b.num:Rat):=by
   have:((b.num.natAbs:Nat):Int)=b.num:=by omega
   rw[<-this];rfl
  rw[e1,e2];generalize (a.num:Rat)=an at*;generalize (a.den:Rat)=ad at*;generalize (b.num:Rat)=bn at*;generalize (b.den:Rat)=bd at*;subst ha hb;grind
def ZI{n:Int}(hd:0<d)(h:q*(d:Rat)=(n:Rat)):q.num.natAbs<=n.natAbs/\q.den<=d:=by
 have e:q=mkRat n d:=by
  rw[nK];have:(d:Rat)≠0:=by exact_mod_cast (by omega:d≠0)
  rw[<-h];grind
 rw[e,Rat.num_mkRat,Rat.den_mkRat,if_neg (by omega),if_neg (by omega)];exact⟨oQ n (d.gcd n.natAbs:Nat),lK ..⟩
theorem BQ.of_frac{n:Int}(hd:0<d)(h:q*(d:Rat)=(n:Rat))(hn:n.natAbs<2^i)(hdi:d<2^i):BQ q i:=by
 have:=ZI hd h;exact⟨by omega,by omega⟩
def SU{b:Rat}(h:b≠0):0<b.num.natAbs:=by
 have:b.num≠0:=fun e=>h (mQ.1 e);omega
instance BQ.over (a b:Rat) (i j:Nat) [ha:BQ a i] [hb:BQ b j]:BQ (a/b) (i+j):=by
 by_cases h:b=0
 .subst h
  rw[Rat.div_def,Rat.inv_zero,Rat.mul_zero];have h2:=ha.hd;have h3:0<a.den:=nj a;have h4:2^i*1<=2^i*2^j:=fL _ (fX (by decide));rw[<-eY] at h4;exact⟨by show 0<_;omega,by show 1<_;omega⟩
 .rw[Ol h]
  have hb0:=SU h;refine A4 (jW (nj a) hb0) ?_ (qb ha.hd hb.hn);rw[fR,sA];exact qb ha.hn hb.hd
def kl{n:Int}(h0: -4611686018427387904<=n:=by decide)(h1:n<=4611686018427387904:=by decide):PF GB prog 57 [.v (.int .i64 n)] (eQ (n:Rat)):=by
 refine fn func57 J J ntmps57 J J (fun C=>?_);refine cl J (aIa (by omega) (by omega)) J<|?_;exact rz J (by rw[EY];rfl)
def sH:PF GB prog 83 [eQ q] (vI q.num.sign):=by
 refine fn func83 J J ntmps83 J J (fun C=>?_);refine cl J yv J<|?_;exact rz J J
def vD:PF GB prog 185 [eQ q] (eQ (-q)):=by
 refine fn func185 J J ntmps185 J J (fun C=>?_);refine cl J AG J<|?_;exact rz J (by unfold eQ;rw[oK,tZ];rfl)
def jm{a b:Rat}[ha:BQ a i][hb:BQ b j](hi:i<=20000000:=by decide)(hj:j<=20000000:=by decide):PF GB prog 134 [eQ a,eQ b] (eQ (a*b)):=by
 have had:=nj a;have hbd:=nj b;have hdp:=jW had hbd;have e1:=Ag a.den had;have e2:=Ag b.den hbd;refine fn func134 J J ntmps134 J J (fun C=>?_);refine cs 9 J J J (fun hg9=>?_) (fun hg9=>?_)
 .
  refine br J J J (fun hc14=>?_) (fun hc14=>?_)
  .
   refine cl J (vk (a:=a.num) (b:=b.num) (by omega) (by omega)) J<|?_;exact rz J (by rw[Va (e1.1 (by omega)) (e2.1 (by omega)),EY];rfl)
  .
   refine cl J (vk (a:=a.num) (b:=b.num) (by omega) (by omega)) J<|cl J lD J<|cl J lD J<|cl J (sj (by omega) (by omega)) J<|?_;refine cl J (yi hdp (by omega) (by omega)) J<|?_;exact rz J (by rw[Br];rfl)
 .
  refine cl J (vk (a:=a.num) (b:=b.num) (by omega) (by omega)) J<|cl J lD J<|cl J lD J<|cl J (sj (by omega) (by omega)) J<|?_;refine cl J (yi hdp (by omega) (by omega)) J<|?_;exact rz J (by rw[Br];rfl)
def ol{a b:Rat}[ha:BQ a i][hb:BQ b j](hi:i<=20000000:=by decide)(hj:j<=20000000:=by decide):PF GB prog 23 [eQ a,eQ b] (eQ (a+b)):=by
 have had:=nj a;have hbd:=nj b;have hdp:=jW had hbd;have e1:=Ag a.den had;have e2:=Ag b.den hbd;refine fn func23 J J ntmps23 J J (fun C=>?_);refine cs 9 J J J (fun hg9=>?_) (fun hg9=>?_)
 .
  refine br J J J (fun hc14=>?_) (fun hc14=>?_)
  .
   refine cl J (Eb (by omega) (by omega)) J<|?_;exact rz J (by rw[ax8 (e1.1 (by omega)) (e2.1 (by omega)),EY];rfl)
  .
   refine cl J lD J<|cl J lz J<|cl J (vk (a:=a.num) (b:=zv false b.den) (by omega) (by omega)) J<|cl J lD J<|cl J lz J<|?_;refine cl J (vk (a:=b.num) (b:=zv false a.den) (by omega) (by omega)) J<|cl J (Eb (by omega) (by omega)) J<|cl J lD J<|?_;refine cl J lD J<|cl J (sj (by omega) (by omega)) J<|cl J (yi hdp (by omega) (by omega)) J<|?_;exact rz J (by rw[BY];rfl)
 .
  refine cl J lD J<|cl J lz J<|cl J (vk (a:=a.num) (b:=zv false b.den) (by omega) (by omega)) J<|cl J lD J<|?_;refine cl J lz J<|cl J (vk (a:=b.num) (b:=zv false a.den) (by omega) (by omega)) J<|cl J (Eb (by omega) (by omega)) J<|?_;refine cl J lD J<|cl J lD J<|cl J (sj (by omega) (by omega)) J<|cl J (yi hdp (by omega) (by omega)) J<|?_;exact rz J (by rw[BY];rfl)
def tc{a b:Rat}[ha:BQ a i][hb:BQ b j](hi:i<=20000000:=by decide)(hj:j<=20000000:=by decide):PF GB prog 172 [eQ a,eQ b] (eQ (a-b)):=by
 refine fn func172 J J ntmps172 J J (fun C=>?_);refine cl J (vD (q:=b)) J<|cl J (ol (a:=a) (b:= -b) hi hj) J<|?_;exact rz J (by rw[Rat.sub_eq_add_neg];rfl)
def wA{a b:Rat}[ha:BQ a i][hb:BQ b j](hb0:b≠0)(hi:i<=20000000:=by decide)(hj:j<=20000000:=by decide):PF GB prog 170 [eQ a,eQ b] (eQ (a/b)):=by
 have hbp:=SU hb0;have hdp:=jW (nj a) hbp;refine fn func170 J J ntmps170 J J (fun C=>?_);refine cl J lD J<|cl J lz J<|cl J (vk (a:=a.num) (b:=zv (decide (b.num<0)) b.den) (by omega) (by omega)) J<|cl J lD J<|?_;refine cl J (sj (a:=a.den) (b:=b.num.natAbs) (by omega) (by omega)) J<|cl J (yi (x:=a.num*zv (decide (b.num<0)) b.den) (d:=a.den*b.num.natAbs) hdp (by omega) (by omega)) J<|?_;exact rz J (by rw[Ol hb0];rfl)
def mD{a b:Rat}[ha:BQ a i][hb:BQ b j](hi:i<=20000000:=by decide)(hj:j<=20000000:=by decide):PF GB prog 207 [eQ a,eQ b] (vI (bA a b)):=by
 refine fn func207 J J ntmps207 J J (fun C=>?_);refine cl J (tc hi hj) J<|cl J sH J<|?_;exact rz J (by show vI _=vI _;rw[Dz])
def YN:((2:Int):Rat)≠0:=by decide
instance BI.two:BI 2 2:=⟨by decide⟩
def GI{a:Rat}[ha:BQ a i](hi:i<=20000000:=by decide):PF GB prog 81 [eQ a] (eQ (a/2)):=by
 refine fn func81 J J ntmps81 J J (fun C=>?_);refine cl J (kl (n:=2)) J<|cl J (wA (a:=a) (b:=((2:Int):Rat)) YN hi (by decide)) J<|?_;exact rz J J
def Ew{a b:Rat}[ha:BQ a i][hb:BQ b j](hi:i<=2000000:=by decide)(hj:j<=2000000:=by decide):PF GB prog 292 [eQ a,eQ b] (eQ ((a+b)/2)):=by
 refine fn func292 J J ntmps292 J J (fun C=>?_);refine cl J (ol (by omega) (by omega)) J<|cl J (GI (a:=a+b) (by omega)) J<|?_;exact rz J J
def L7(hg:(g:Int)∣m)(hb:m.natAbs<4611686018427387904):IntKind.i64.wrap (m.tdiv g)=m/g:=by
 rw[Int.tdiv_eq_ediv_of_dvd hg];have:=oQ m g;exact awZ (by omega)
def tm(a b:Int):Int:=if(a*b).natAbs<4611686018427387904 then a*b else 0
def GP(a b:Int):(tm a b).natAbs<4611686018427387904:=by unfold tm;split<;>omega
def Cd{a b:Int}(h:(a*b).natAbs<4611686018427387904):tm a b=a*b:=if_pos h
def R3{a b:Int}(h: ¬(a*b).natAbs<4611686018427387904:=by omega):DV.tp [vI 0, .v (.bool false)]= .tp [vI (tm a b),vB (decide ((a*b).natAbs<4611686018427387904))]:=by unfold tm;rw[if_neg h,decide_eq_false h];rfl
def Ml{a b:Int}{x:Int}(h:(a*b).natAbs<4611686018427387904)(e:x=a*b):DV.tp [vI x, .v (.bool true)]= .tp [vI (tm a b),vB (decide ((a*b).natAbs<4611686018427387904))]:=by unfold tm;rw[if_pos h,decide_eq_true h,e];rfl
def RE(n:Nat):eI (n:Int)= .ag [.v (.bool false),dN n]:=by unfold eI;rw[decide_eq_false (by omega),fU]
def aFK{p:Rat}(hp:p.den=1)(hq:q.den=1):rgcd p q=((Nat.gcd p.num.natAbs q.num.natAbs:Nat):Int):=by
 conv=>lhs;rw[DW hp,DW hq]
 exact Cg _ _
def aDa(q:Rat):mkRat (zv (decide (q.num<0)) q.den) q.num.natAbs=q⁻¹:=by
 rw[Rat.inv_def];by_cases h:q.num<0
 .rw[decide_eq_true h];exact Yp h
 .rw[decide_eq_false h,<-Rat.divInt_ofNat,oJ (by omega)];rfl
instance BQ.inv (q:Rat) (i:Nat) [h:BQ q i]:BQ q⁻¹ i:=by
 have h1:=h.hn;have h2:=h.hd;have h3:=q.den_nz;rcases qJ q.num 0 with k|k|k
 .obtain⟨e1,e2⟩:=Qw k;exact⟨by omega,by omega⟩
 .have e:q=0:=mQ.1 k
  have e0:(0:Rat)⁻¹=0:=Rat.inv_zero;rw[e] at h1 h2⊢;rw[e0];exact⟨h1,h2⟩
 .obtain⟨e1,e2⟩:=Sj k;exact⟨by omega,by omega⟩
instance BQ.half:BQ (mkRat 1 2) 2:=⟨by decide,by decide⟩
def U3{x y:Nat}(hx:x<18446744073709551616)(hy:y<18446744073709551616):PF GB prog 229 [.v (.int .u64 (x:Nat)), .v (.int .u64 (y:Nat))] (.tp [.v (.int .u64 ((x*y/18446744073709551616:Nat):Int)), .v (.int .u64 ((x*y%18446744073709551616:Nat):Int))]):=fun G vs _ hv=>by
 obtain⟨v,m,rfl,h1,h2⟩:=aI.1 hv;obtain⟨u,m',rfl,h3,h4⟩:=aI.1 h2
 cases dE.1 h4
 rw[aB.1 h1,aB.1 h3];exact(XL hx hy).mono fun v G' _ h=>by subst h;exact jj.2 ⟨_,J, .cons (aB.2 J) (.cons (aB.2 J) .nil)⟩
def MN{a b:Nat}(ha:a<18446744073709551616:=by omega)(hb:b<18446744073709551616:=by omega):PF GB prog 231 [.v (.int .u64 (a:Nat)), .v (.int .u64 (b:Nat))] (.v (.int .u64 (Nat.gcd a b:Nat))):=by
 refine fn func231 J J ntmps231 J J (fun C=>?_);refine lp (X:=Nat×Nat) (fun⟨u,v⟩=>[(1, .d (.v (.int .u64 (v:Nat)))),(0, .d (.v (.int .u64 (u:Nat))))]) (fun⟨u,v⟩=>[]) (fun⟨u,v⟩=>u<18446744073709551616/\v<18446744073709551616/\Nat.gcd u v=Nat.gcd a b) (fun⟨u,v⟩=>v) (a,b) J ⟨ha,hb,J⟩ (fun _=>J) (fun⟨u,v⟩ hk=>?_);dsimp only at hk⊢;obtain⟨h1,h2,h3⟩:=hk;refine br (v1:=fun hc6=>by simp only[aj];exact⟨by omega,by kernel_rfl⟩) J J J (fun hc6=>?_) (fun hc6=>?_)
 .
  have hm:=dV u (show 0<v by omega);exact at_ (v,u%v) (by dsimp only;exact⟨⟨h2,by omega,by rw[<-h3,jY u v,tT v u,jY]⟩,hm⟩)
 .
  exact rz J (by rw[<-h3,show v=0 by omega,nW];rfl)
def tn(h:m.natAbs<9223372036854775808:=by decide):PF GB prog 147 [vI m] (eF (m:Rat)):=by
 refine fn func147 J J ntmps147 J J (fun C=>?_);refine cs 5 J J J (fun hg5=>?_) (fun hg5=>?_)
 .
  refine cl J (GH (m:=m)) J<|rf (fu:=⟨0⟩) J J<|?_;refine ak 11 (.d (dN 1)) J (by unfold dN;rw[Bb];rfl) ?_;refine gx J<|cl J (vE (n:=decide (m<0)) (a:=m.natAbs) (i:=63) (h:=⟨h⟩) (d:=1)) J<|?_;exact rz J (by rw[mo,show mkRat m 1=(m:Rat) from sN ..];rfl)
 .
  refine br J J J (fun hc8=>?_) (fun hc8=>?_)
  .
   refine cl J (GH (m:=m)) J<|rf (fu:=⟨0⟩) J J<|?_;refine ak 11 (.d (dN 1)) J (by unfold dN;rw[Bb];rfl) ?_;refine gx J<|cl J (vE (n:=decide (m<0)) (a:=m.natAbs) (i:=63) (h:=⟨h⟩) (d:=1)) J<|?_;exact rz J (by rw[mo,show mkRat m 1=(m:Rat) from sN ..];rfl)
  .
   exact jz J (MI (by omega))
def Cv{a b:Int}(ha:a.natAbs<4611686018427387904:=by omega)(hb:b.natAbs<4611686018427387904:=by omega):PF GB prog 148 [vI a,vI b] (.tp [vI (tm a b),vB (decide ((a*b).natAbs<4611686018427387904))]):=by
 have hab:=fR a b;refine fn func148 J J ntmps148 J J (fun C=>?_);refine cl J (BS (m:=a)) J<|cl J (BS (m:=b)) J<|cl J (U3 (x:=a.natAbs) (y:=b.natAbs) (by omega) (by omega)) J<|?_;refine cs 18 J J J (fun hg18=>?_) (fun hg18=>?_)
 .
  exact rz J (R3)
 .
  refine br J J J (fun hc21=>?_) (fun hc21=>?_)
  .
   exact rz J (R3)
  .
   refine bb J J J (fun hc26=>?_) (fun hc26=>?_)
   .
    have hs:=Rg a b;rw[if_neg (by simpa using hc26)] at hs;exact rz J (Ml (by omega) (by rw[hs,<-hab];omega))
   .
    have hs:=Rg a b;rw[if_pos (by simpa using hc26)] at hs;exact rz J (Ml (by omega) (by rw[hs,<-hab];omega))
def NF(h:m.natAbs<4611686018427387904)(h0:0<d)(hd:d<4611686018427387904):PF GB prog 149 [vI m,vI (d:Nat)] (eF (mkRat m d)):=by
 have hg:Nat.gcd m.natAbs d<=d:=Nat.gcd_le_right _ h0;have hg0:0<Nat.gcd m.natAbs d:=rK _ h0;obtain⟨e1,e2⟩:=Qj (m:=m) h0;have e3:=oQ m (Nat.gcd m.natAbs d:Nat);have e4:=lK d (Nat.gcd m.natAbs d);have e5:=Nat.div_pos hg hg0;refine fn func149 J J ntmps149 J J (fun C=>?_);refine cl J (BS (m:=m)) J<|cl J (MN (a:=m.natAbs) (b:=d)) J<|?_;refine br (fu1:=⟨4⟩) J J J (fun hc13=>?_) (fun hc13=>?_)
 .
  refine ak 16 (.d (vI (m/(Nat.gcd m.natAbs d:Nat)))) J (by rw[L7 (Int.dvd_natAbs.1 (rM.2 (kS _ _))) h];rfl) ?_;refine gx (fu:=⟨3⟩) J<|?_;refine ak 19 (.d (vI ((d/Nat.gcd m.natAbs d:Nat)))) J (by rw[L7 (rM.2 (lL _ _)) (by rw[fU];exact hd)];rfl) ?_;refine gx (hv:=by simp only[aj];exact⟨by kernel_rfl,by omega⟩) J<|?_;exact jz J (uq (fun k=>k ⟨by rw[e1];omega,by rw[e2];omega⟩) e1 (by rw[e2]) J)
 .
  exact jz J (by have h1:Nat.gcd m.natAbs d=1:=(by omega);rw[h1,tL] at e2;rw[h1,Int.natCast_one,Int.ediv_one] at e1;exact uq (fun k=>k ⟨by rw[e1];omega,by rw[e2];omega⟩) e1 (by rw[e2]) J)
def oC{p:Rat}[h:BQ p i][k:BQ q j](hi:i<=100000000:=by decide)(hj:j<=100000000:=by decide):PF GB prog 245 [eF p,eF q] (eF (p*q)):=by
 refine fn (fu:=⟨8⟩) func245 J J ntmps245 J J (fun C=>?_);refine mg (X:=Unit) (fun _=>[(2, .ov 2 0),(3, .ov 3 0),(4, .ov 4 0)]) (fun _=>[(2,some (.o 120 [.d (vI (dw p)), .d (vI (dx p)), .d (dm p)] true)),(3,some (.o 120 [.d (vI (dw q)), .d (vI (dx q)), .d (dm q)] true)),(4,some (.o 120 [.d (.v (.int .i64 0)), .d (.v (.int .i64 0)), .d (.v (.pointer none))] true))]) (fun _=>True) [2,3,4] [2,3,4] rfl ?_ (fun _=>J) (fun _ _=>?_)
 .
  refine gx J<|?_;refine cs 12 J J J (fun hg12=>?_) (fun hg12=>?_)
  .
   refine br (fu1:=⟨4⟩) J J J (fun hc16=>?_) (fun hc16=>?_)
   .
    have hp:=uc hg12;have hq:=uc hc16;have p1:=n5 hp;have p2:=qq hp;have p3:=qB hp;have p4:=ra hp;have p5:=p.den_nz;have q1:=n5 hq;have q2:=qq hq;have q3:=qB hq;have q4:=ra hq;have q5:=q.den_nz;refine ak 19 (.d (vI p.num)) J (by rw[p1]) ?_;refine gx (fu:=⟨2⟩) J<|?_;refine ak 21 (.d (vI q.num)) J (by rw[q1]) ?_;refine gx J<|cl (fu:=⟨12⟩) J (Cv (a:=p.num) (b:=q.num)) J<|?_;refine ak 28 (.d (vI (p.den:Nat))) J (by congr 3;omega) ?_;refine gx (fu:=⟨3⟩) J<|?_;refine ak 31 (.d (vI (q.den:Nat))) J (by congr 3;omega) ?_;refine gx J<|cl J (Cv (a:=(p.den:Nat)) (b:=(q.den:Nat))) J<|?_;refine csd 36 J J J (fun hg36=>?_) (fun hg36=>?_)
    .
     refine bd (fu1:=⟨3⟩) J J J (fun hc38=>?_) (fun hc38=>?_)
     .
      have hd1:p.den*q.den<4611686018427387904:=by omega
      refine ak 39 (.d (vI (p.num*q.num))) J (by rw[Cd hg36]) ?_;refine gx (fu:=⟨1⟩) J<|?_;refine ak 40 (.d (vI ((p.den*q.den:Nat)))) J (by rw[Cd hc38];rfl) ?_;refine gx J<|cl J (NF (m:=p.num*q.num) (d:=p.den*q.den) hg36 (jW (by omega) (by omega)) hd1) J<|?_;exact rz J (by rw[<-Br];rfl)
     .
      exact at_ () trivial
    .
     exact at_ () trivial
   .
    exact at_ () trivial
  .
   exact at_ () trivial
 .
  refine cl J (tO (q:=p) (by omega)) J<|cl J (tO (q:=q) (by omega)) J<|cl J (Hj (a:=p.num) (b:=q.num) (by omega) (by omega)) J<|?_;refine cl J (sD (q:=p) (by omega)) J<|cl J (sD (q:=q) (by omega)) J<|cl J (zt (a:=p.den) (b:=q.den) (by omega) (by omega)) J<|?_;refine cl J (vE (n:=decide (p.num*q.num<0)) (a:=(p.num*q.num).natAbs) (d:=p.den*q.den) (i:=i+j) (j:=i+j) (by omega) (by omega)) J<|?_;exact rz J (by rw[mo,<-Br];rfl)
def sG{p:Rat}[h:BQ p i][k:BQ q j](hi:i<=100000000:=by decide)(hj:j<=100000000:=by decide):PF GB prog 67 [eF p,eF q] (eF (p+q)):=by
 refine fn (fu:=⟨8⟩) func67 J J ntmps67 J J (fun C=>?_);refine mg (X:=Unit) (fun _=>[(2, .ov 2 0),(3, .ov 3 0),(4, .ov 4 0)]) (fun _=>[(2,some (.o 120 [.d (vI (dw p)), .d (vI (dx p)), .d (dm p)] true)),(3,some (.o 120 [.d (vI (dw q)), .d (vI (dx q)), .d (dm q)] true)),(4,some (.o 120 [.d (.v (.int .i64 0)), .d (.v (.int .i64 0)), .d (.v (.pointer none))] true))]) (fun _=>True) [2,3,4] [2,3,4] rfl ?_ (fun _=>J) (fun _ _=>?_)
 .
  refine gx J<|?_;refine cs 16 J J J (fun hg16=>?_) (fun hg16=>?_)
  .
   refine br (fu1:=⟨1⟩) J J J (fun hc20=>?_) (fun hc20=>?_)
   .
    have hp:=uc hg16;have hq:=uc hc20;have p1:=n5 hp;have p2:=qq hp;have p3:=qB hp;have p4:=ra hp;have p5:=p.den_nz;have q1:=n5 hq;have q2:=qq hq;have q3:=qB hq;have q4:=ra hq;have q5:=q.den_nz;refine mg (fu:=⟨4⟩) (X:=Unit) (fun _=>[(2, .ov 2 0),(3, .ov 3 0),(4, .ov 4 0)]) (fun _=>[(2,some (.o 120 [.d (vI (dw p)), .d (vI (dx p)), .d (dm p)] true)),(3,some (.o 120 [.d (vI (dw q)), .d (vI (dx q)), .d (dm q)] true)),(4,some (.o 120 [.d (.v (.int .i64 0)), .d (.v (.int .i64 0)), .d (.v (.pointer none))] true))]) (fun _=>True) [2,3,4] [2,3,4] rfl ?_ (fun _=>J) (fun _ _=>?_)
    .
     refine gx J<|?_;refine cs 24 J J J (fun hg24=>?_) (fun hg24=>?_)
     .
      refine br (fu1:=⟨4⟩) J J J (fun hc28=>?_) (fun hc28=>?_)
      .
       refine ak 30 (.d (vI p.num)) J (by rw[p1]) ?_;refine gx (fu:=⟨2⟩) J<|?_;refine ak 32 (.d (vI q.num)) J (by rw[q1]) ?_;refine gx J<|cl J (tn (m:=p.num+q.num) (by omega)) J<|?_;exact rz J (by rw[DW (q:=p),DW (q:=q),<-lV];rfl)
      .
       exact at_ () trivial
     .
      exact at_ () trivial
    .
     refine ak 37 (.d (vI p.num)) J (by rw[p1]) ?_;refine gx (fu:=⟨3⟩) J<|?_;refine ak 40 (.d (vI (q.den:Nat))) J (by congr 3;omega) ?_;refine gx J<|cl (fu:=⟨11⟩) J (Cv (a:=p.num) (b:=(q.den:Nat))) J<|?_;refine ak 46 (.d (vI q.num)) J (by rw[q1]) ?_;refine gx (fu:=⟨3⟩) J<|?_;refine ak 49 (.d (vI (p.den:Nat))) J (by congr 3;omega) ?_;refine gx J<|cl (fu:=⟨12⟩) J (Cv (a:=q.num) (b:=(p.den:Nat))) J<|?_;refine ak 56 (.d (vI (p.den:Nat))) J (by congr 3;omega) ?_;refine gx (fu:=⟨3⟩) J<|?_;refine ak 59 (.d (vI (q.den:Nat))) J (by congr 3;omega) ?_;refine gx J<|cl (fu:=⟨3⟩) J (Cv (a:=(p.den:Nat)) (b:=(q.den:Nat))) J<|?_;have t1:=GP p.num (q.den:Nat);have t2:=GP q.num (p.den:Nat);have t3:=GP (p.den:Nat) (q.den:Nat);refine gx J<|?_;refine csd 67 J J J (fun hg67=>?_) (fun hg67=>?_)
     .
      refine csd 70 J J J (fun hg70=>?_) (fun hg70=>?_)
      .
       refine csd 73 J J J (fun hg73=>?_) (fun hg73=>?_)
       .
        refine cs 77 J J J (fun hg77=>?_) (fun hg77=>?_)
        .
         refine br (fu1:=⟨3⟩) J J J (fun hc80=>?_) (fun hc80=>?_)
         .
          have u1:=Cd hg67;have u2:=Cd hg70;have u3:=Cd hg73;have hd1:p.den*q.den<4611686018427387904:=by omega
          refine ak 81 (.d (vI (p.num*(q.den:Nat)+q.num*(p.den:Nat)))) J (by rw[u1,u2];rfl) ?_;refine gx (fu:=⟨1⟩) J<|?_;refine ak 82 (.d (vI ((p.den*q.den:Nat)))) J (by rw[u3];rfl) ?_;refine gx J<|cl J (NF (m:=p.num*(q.den:Nat)+q.num*(p.den:Nat)) (d:=p.den*q.den) (by omega) (jW (by omega) (by omega)) hd1) J<|?_;exact rz J (by rw[<-BY];rfl)
         .
          exact at_ () trivial
        .
         exact at_ () trivial
       .
        exact at_ () trivial
      .
       exact at_ () trivial
     .
      exact at_ () trivial
   .
    exact at_ () trivial
  .
   exact at_ () trivial
 .
  refine cl J (tO (q:=p) (by omega)) J<|cl (fu:=⟨1⟩) J (sD (q:=q) (by omega)) J<|?_;refine ak 88 (.d (eI (q.den:Nat))) J (by rw[RE]) ?_;refine gx J<|cl J (Hj (a:=p.num) (b:=(q.den:Nat)) (by omega) (by omega)) J<|cl J (tO (q:=q) (by omega)) J<|cl (fu:=⟨1⟩) J (sD (q:=p) (by omega)) J<|?_;refine ak 94 (.d (eI (p.den:Nat))) J (by rw[RE]) ?_;refine gx J<|cl J (Hj (a:=q.num) (b:=(p.den:Nat)) (by omega) (by omega)) J<|cl J (YA (a:=p.num*(q.den:Nat)) (b:=q.num*(p.den:Nat)) (i:=i+j) (j:=j+i) (by omega) (by omega)) J<|?_;refine cl J (sD (q:=p) (by omega)) J<|cl J (sD (q:=q) (by omega)) J<|cl J (zt (a:=p.den) (b:=q.den) (by omega) (by omega)) J<|?_;refine cl J (vE (n:=decide (p.num*(q.den:Nat)+q.num*(p.den:Nat)<0)) (a:=(p.num*(q.den:Nat)+q.num*(p.den:Nat)).natAbs) (d:=p.den*q.den) (i:=i+j+(j+i)+1) (j:=i+j) (by omega) (by omega)) J<|?_;exact rz J (by rw[mo,<-BY];rfl)
def qE{p:Rat}[h:BQ p i][k:BQ q j](hi:i<=100000000:=by decide)(hj:j<=100000000:=by decide):PF GB prog 197 [eF p,eF q] (eF (p-q)):=by
 refine fn func197 J J ntmps197 J J (fun C=>?_);refine cl J (pI (q:=q) (by omega)) J<|cl J (sG (p:=p) (q:= -q) (by omega) (by omega)) J<|?_;exact rz J (by rw[<-Rat.sub_eq_add_neg];rfl)
def J5[h:BQ q i](hi:i<=400000000:=by decide):PF GB prog 280 [eF q] (eF q⁻¹):=by
 refine fn func280 J J ntmps280 J J (fun C=>?_);refine br (v1:=fun hc3=>by simp only[aj];exact⟨⟨hc3,hc3⟩,hc3⟩) J J J (fun hc3=>?_) (fun hc3=>?_)
 .
  refine cl J (vE (n:=decide (q.num<0)) (a:=q.den) (d:=q.num.natAbs) (by omega) (by omega)) J<|?_;exact rz J (by rw[aDa];rfl)
 .
  have q1:=n5 (pq hc3);have q2:=qq (pq hc3);have q3:=qB (pq hc3);have q4:=ra (pq hc3);have q5:=q.den_nz;refine br J J J (fun hc26=>?_) (fun hc26=>?_)
  .
   exact jz rfl (by obtain⟨e1,e2⟩:=Qw (q:=q) (by omega);exact uq (fun k=>k ⟨by omega,by omega⟩) (by omega) (by omega) rfl)
  .
   refine br J J J (fun hc39=>?_) (fun hc39=>?_)
   .
    exact jz J (by rw[mQ.1 (show q.num=0 by omega),Rat.inv_zero];exact ES)
   .
    exact jz rfl (by obtain⟨e1,e2⟩:=Sj (q:=q) (by omega);exact uq (fun k=>k ⟨by omega,by omega⟩) (by omega) (by omega) rfl)
def Bm{p:Rat}[h:BQ p i][k:BQ q j](hi:i<=100000000:=by decide)(hj:j<=100000000:=by decide):PF GB prog 329 [eF p,eF q] (eF (p/q)):=by
 refine fn func329 J J ntmps329 J J (fun C=>?_);refine cl J (J5 (q:=q) (by omega)) J<|cl J (oC (p:=p) (q:=q⁻¹) (by omega) (by omega)) J<|?_;exact rz J (by rw[Rat.div_def];rfl)
def Pj{q r:DV}(h: ∀y,Is G r y->Is G q y)(hv:IsLs G (r::t) vs):IsLs G (q::t) vs:=by
 obtain⟨y,m,rfl,h1,h2⟩:=aI.1 hv;exact .cons (h _ h1) h2
def HJ{a q r:DV}(h: ∀y,Is G r y->Is G q y)(hv:IsLs G (a::r::t) vs):IsLs G (a::q::t) vs:=by
 obtain⟨y,m,rfl,h1,h2⟩:=aI.1 hv;exact .cons h1 (Pj h h2)
def TF[h:BQ q i](hi:i<=100000000:=by decide):PF GB prog 245 [eF q, .ag [vI 1,vI 1, .v (.pointer none)]] (eF (q*mkRat 1 2)):=
 (oC (p:=q) (q:=mkRat 1 2) hi).ofI fun G vs hv=>HJ (fun y hy=>uq (q:=mkRat 1 2) (fun k=>k ⟨by decide,by decide⟩) (by decide) (by decide) J G y hy) hv
def Ld[h:BQ q i](hi:i<=100000000:=by decide):PF GB prog 157 [eF q] (eF (q*mkRat 1 2)):=by
 refine fn func157 J J ntmps157 J J (fun C=>?_);refine cl J (TF (q:=q) (by omega)) J<|?_;exact rz J J
def xg{p:Rat}[h:BQ p i][k:BQ q j](hi:i<=100000000:=by decide)(hj:j<=100000000:=by decide):PF GB prog 323 [eF p,eF q] (vI (bA p q)):=by
 refine fn func323 J J ntmps323 J J (fun C=>?_);refine cs 8 J J J (fun hg8=>?_) (fun hg8=>?_)
 .
  refine cs 13 J J J (fun hg13=>?_) (fun hg13=>?_)
  .
   refine br J J J (fun hc19=>?_) (fun hc19=>?_)
   .
    have hp:=uc hg8;have hq:=uc hg13;have p1:=n5 hp;have p2:=qq hp;have p3:=qB hp;have p4:=ra hp;have p5:=p.den_nz;have q1:=n5 hq;have q2:=qq hq;have q3:=qB hq;have q4:=ra hq;have q5:=q.den_nz;have hl:=OZ (a:=p) (b:=q);have hr:=OZ (a:=q) (b:=p);unfold bA;refine br J J J (fun hc20=>?_) (fun hc20=>?_)
    .
     exact rz J (by rw[if_pos (hl.2 (by omega))];rfl)
    .
     refine br J J J (fun hc26=>?_) (fun hc26=>?_)
     .
      exact rz J (by rw[if_neg (fun e=>by have:=hl.1 e;omega),if_pos (hr.2 (by omega))];rfl)
     .
      exact rz J (by rw[if_neg (fun e=>by have:=hl.1 e;omega),if_neg (fun e=>by have:=hr.1 e;omega)];rfl)
   .
    refine cl J (qE (p:=p) (q:=q) (by omega) (by omega)) J<|cl J (m8 (q:=p-q) (by omega)) J<|?_;exact rz J (by rw[Dz];rfl)
  .
   refine cl J (qE (p:=p) (q:=q) (by omega) (by omega)) J<|cl J (m8 (q:=p-q) (by omega)) J<|?_;exact rz J (by rw[Dz];rfl)
 .
  refine cl J (qE (p:=p) (q:=q) (by omega) (by omega)) J<|cl J (m8 (q:=p-q) (by omega)) J<|?_;exact rz J (by rw[Dz];rfl)
def x9{p:Rat}[h:BQ p i][k:BQ q j](hi:i<=100000000:=by decide)(hj:j<=100000000:=by decide):PF GB prog 270 [eF p,eF q] (vB (decide (p=q))):=by
 refine fn func270 J J ntmps270 J J (fun C=>?_);refine cl J (xg (p:=p) (q:=q) hi hj) J<|?_;exact rz J (by show DV.v (.bool (decide _))= .v (.bool _);congr 2;exact decide_eq_decide.2 (vx p q))
def aFa{p:Rat}[h:BQ p i][k:BQ q j](hi:i<=100000000:=by decide)(hj:j<=100000000:=by decide):PF GB prog 348 [eF p,eF q] (eF (if p<q then q else p)):=by
 refine fn func348 J J ntmps348 J J (fun C=>?_);refine cl J (xg (p:=q) (q:=p) hj hi) J<|?_;refine br J J J (fun hc8=>?_) (fun hc8=>?_)
 .
  exact rz J (by rw[if_pos ((PT q p).1 hc8)];rfl)
 .
  exact rz J (by rw[if_neg (fun e=>hc8 ((PT q p).2 e))];rfl)
def K8{p:Rat}[h:BQ p i][k:BQ q j](hi:i<=100000000:=by decide)(hj:j<=100000000:=by decide):PF GB prog 281 [eF p,eF q] (eF (if q<p then q else p)):=by
 refine fn func281 J J ntmps281 J J (fun C=>?_);refine cl J (xg (p:=q) (q:=p) hj hi) J<|?_;refine br J J J (fun hc8=>?_) (fun hc8=>?_)
 .
  exact rz J (by rw[if_pos ((QA q p).1 hc8)];rfl)
 .
  exact rz J (by rw[if_neg (fun e=>hc8 ((QA q p).2 e))];rfl)
def pE{p:Rat}[h:BQ p i][k:BQ q j](hi:i<=100000000:=by decide)(hj:j<=100000000:=by decide):PF GB prog 269 [eF p,eF q] (eF (rgcd p q)):=by
 refine fn (fu:=⟨8⟩) func269 J J ntmps269 J J (fun C=>?_);refine mg (X:=Unit) (fun _=>[(2, .ov 2 0),(3, .ov 3 0),(4, .ov 4 0)]) (fun _=>[(2,some (.o 120 [.d (vI (dw p)), .d (vI (dx p)), .d (dm p)] true)),(3,some (.o 120 [.d (vI (dw q)), .d (vI (dx q)), .d (dm q)] true)),(4,some (.o 120 [.d (.v (.int .i64 0)), .d (.v (.int .i64 0)), .d (.v (.pointer none))] true))]) (fun _=>True) [2,3,4] [2,3,4] rfl ?_ (fun _=>J) (fun _ _=>?_)
 .
  refine gx J<|?_;refine cs 10 J J J (fun hg10=>?_) (fun hg10=>?_)
  .
   refine cs 15 J J J (fun hg15=>?_) (fun hg15=>?_)
   .
    have hp:=uc hg10;have hq:=uc hg15;have p1:=n5 hp;have p2:=qq hp;have p3:=qB hp;have p4:=ra hp;have p5:=p.den_nz;have q1:=n5 hq;have q2:=qq hq;have q3:=qB hq;have q4:=ra hq;have q5:=q.den_nz;refine cs 20 J J J (fun hg20=>?_) (fun hg20=>?_)
    .
     refine br (fu1:=⟨4⟩) J J J (fun hc24=>?_) (fun hc24=>?_)
     .
      have hg:=FP p3 q3;refine ak 26 (.d (vI p.num)) J (by rw[p1]) ?_;refine gx J<|cl (fu:=⟨2⟩) J (BS (m:=p.num)) J<|?_;refine ak 29 (.d (vI q.num)) J (by rw[q1]) ?_;refine gx J<|cl J (BS (m:=q.num)) J<|cl (hv:=by simp only[aj];exact⟨by omega,by kernel_rfl⟩) J (MN (a:=p.num.natAbs) (b:=q.num.natAbs)) J<|?_;exact jz J (by rw[aFK (p:=p) (q:=q) (by omega) (by omega)];exact MI (by rw[fU];exact hg))
     .
      exact at_ () trivial
    .
     exact at_ () trivial
   .
    exact at_ () trivial
  .
   exact at_ () trivial
 .
  refine cl J (sD (q:=p) (by omega)) J<|cl J (sD (q:=q) (by omega)) J<|cl J (zt (a:=p.den) (b:=q.den) (by omega) (by omega)) J<|?_;refine cl J (tO (q:=p) (by omega)) J<|cl J (sD (q:=q) (by omega)) J<|cl J (zt (a:=p.num.natAbs) (b:=q.den) (by omega) (by omega)) J<|?_;refine cl J (tO (q:=q) (by omega)) J<|cl J (sD (q:=p) (by omega)) J<|cl J (zt (a:=q.num.natAbs) (b:=p.den) (by omega) (by omega)) J<|?_;refine cl J (Kj (a:=p.num.natAbs*q.den) (b:=q.num.natAbs*p.den) (i:=i+j) (j:=j+i) (by omega) (by omega)) J<|cl J (vE (n:=false) (a:=Nat.gcd (p.num.natAbs*q.den) (q.num.natAbs*p.den)) (d:=p.den*q.den) (i:=i+j+(j+i)) (j:=i+j) (by omega) (by omega)) J<|?_;exact rz J J

def cT:Tr->List DV
 | .leaf b=>[.v (.bool true), .v (.bool b), .v (.bool false), .sl [], .v (.bool false), .sl [], .v (.bool false), .sl [], .v (.pointer none), .v (.pointer none)]
 | .node l x y=>[.v (.bool false), .v (.bool false), .v (.bool (decide (l.a<0))),dN l.a.natAbs, .v (.bool (decide (l.b<0))),dN l.b.natAbs, .v (.bool (decide (l.c<0))),dN l.c.natAbs, .pt (cT x), .pt (cT y)]
def eT(t:Tr):DV:= .pt (cT t)
def eN(n:NQ):DV:= .ag [.v (.bool (decide (n.l.a<0))),dN n.l.a.natAbs, .v (.bool (decide (n.l.b<0))),dN n.l.b.natAbs, .v (.bool (decide (n.l.c<0))),dN n.l.c.natAbs, .v (.int .i64 n.a), .v (.int .i64 n.b)]
def eA(t:Tr):DV:= .ag [.v (.int .i64 (t.num 0)), .sl ((t.wr 0).map eN)]
def y9{z:IV}(h:rh k G z m):Is G (.v (.bool (decide (m<0)))) (.bool z.neg)/\Is G (dN m.natAbs) (.slice z.a.a z.a.n z.a.c):=
 ⟨aB.2 (by rw[h.neg]),(Hi h.abs.lt).2 ⟨_,J,h.abs⟩⟩
def Kn{u v:Value}(hm:m.natAbs<2^k)(h1:Is G (.v (.bool (decide (m<0)))) u)(h2:Is G (dN m.natAbs) v): ∃z:IV,u= .bool z.neg/\v= .slice z.a.a z.a.n z.a.c/\rh k G z m:=by
 obtain⟨x,rfl,hx⟩:=(Hi hm).1 h2;exact⟨⟨decide (m<0),x⟩,aB.1 h1,J,J,hx⟩
structure BL (l:aa) (k:Nat):Prop where
 a:l.a.natAbs<2^k
 b:l.b.natAbs<2^k
 c:l.c.natAbs<2^k
def aGZ{l:aa}{v:Value}(hl:BL l k)(h:Is G (eL l) v): ∃a b c:IV,v= .agg ⟨[.bool a.neg, .slice a.a.a a.a.n a.a.c, .bool b.neg, .slice b.a.a b.a.n b.a.c, .bool c.neg, .slice c.a.a c.a.n c.a.c]⟩/\rh k G a l.a/\rh k G b l.b/\rh k G c l.c:=by
 obtain⟨m,rfl,g⟩:=d9.1 h;clear h;obtain⟨v1,m,rfl,h1,h⟩:=aI.1 g;obtain⟨v2,m,rfl,h2,h⟩:=aI.1 h;obtain⟨v3,m,rfl,h3,h⟩:=aI.1 h;obtain⟨v4,m,rfl,h4,h⟩:=aI.1 h;obtain⟨v5,m,rfl,h5,h⟩:=aI.1 h;obtain⟨v6,m,rfl,h6,h⟩:=aI.1 h;rw[dE] at h;subst h;obtain⟨a,rfl,rfl,ha⟩:=Kn hl.a h1 h2;obtain⟨b,rfl,rfl,hb⟩:=Kn hl.b h3 h4;obtain⟨c,rfl,rfl,hc⟩:=Kn hl.c h5 h6;exact⟨a,b,c,J,ha,hb,hc⟩
def Vp{n:NQ}{z:ND}(h:rO k G z n):Is G (eN n) z.val:=by
 refine d9.2 ⟨_,J, .cons (y9 h.a).1 (.cons (y9 h.a).2 (.cons (y9 h.b).1 (.cons (y9 h.b).2 (.cons (y9 h.c).1 (.cons (y9 h.c).2 (.cons (aB.2 ?_) (.cons (aB.2 ?_) .nil)))))))⟩
 .rw[h.l]
 .rw[h.r]
def R4{G:Gh}{k:Nat}: ∀{ns:List NQ} {zs:List ND},gP (rO k G) zs ns->IsLs G (ns.map eN) (zs.map ND.val)
 |_,_, .nil=> .nil
 |_,_, .cons h t=> .cons (Vp h) (R4 t)
def aIN(ns:List NQ):cP 8 (ns.map eN):=fun d hd=>by
 obtain⟨n,_,rfl⟩:=aT.1 hd;exact⟨rfl,rfl⟩
def Xm{t:Tr}{x:SV}(h:Vy k G x (t.wr 0)):Is G (eA t) (.agg ⟨[.int .i64 (t.num 0), .slice x.a x.n x.c]⟩):=by
 obtain⟨zs,h1,h2⟩:=h;exact d9.2 ⟨_,J, .cons (aB.2 J) (.cons (gw.2 ⟨8,x,_,J,h1,R4 h2⟩) .nil)⟩
def Tr.all_wr{p:aa->Prop}: ∀{t:Tr} (n:Nat),t.all p-> ∀x∈t.wr n,p x.l
 | .leaf b,n,_,x,hx=>by cases hx
 | .node l u v,n,⟨h1,h2,h3⟩,x,hx=>by
  simp only[Tr.wr,iJ,aW,bW] at hx;rcases hx with rfl|hx|hx
  .exact h1
  .exact u.all_wr _ h2 x hx
  .exact v.all_wr _ h3 x hx
structure LS (l:aa):Prop where
 ok:l.ok
 a:l.a.natAbs<=4
 b:l.b.natAbs<=4
 c:l.c.natAbs<=40000
def LS.bl{l:aa}(h:LS l):BL l 96:=⟨by have:=h.a;omega,by have:=h.b;omega,by have:=h.c;omega⟩
def wm{xs:List aa}(h:i<xs.length:=by omega):(xs.map eL)[(i:Int).toNat]? =some (eL xs[i]):=by simp[h]
def wC(xs:List aa):(xs.map eL).length=xs.length:=aX ..
def YD{xs:List α}{p:α->Prop}(h: ∀x∈xs.take i,p x)(hi:i<xs.length)(hy:p xs[i]): ∀x∈xs.take (i+1),p x:=by
 intro x hx;rw[gT hi] at hx;simp only[bW,aS] at hx;rcases hx with hx|rfl
 .exact h x hx
 .exact hy
def aa.ext'{l m:aa}(h1:l.a=m.a:=by omega)(h2:l.b=m.b:=by omega)(h3:l.c=m.c:=by omega):l=m:=by cases l;cases m;simp_all
def fP(ls:List aa):cP 6 (ls.map eL):=fun d hd=>by
 obtain⟨n,_,rfl⟩:=aT.1 hd;exact⟨rfl,rfl⟩
def jb:PF GB prog 192 [eI z] (eQ (z:Rat)):=by
 refine fn func192 J J ntmps192 J J (fun C=>?_);exact rz J (by rw[EY];rfl)
def Bv{l:aa}:PF GB prog 46 [eL l] (eL l.rev):=by
 refine fn func46 J J ntmps46 J J (fun C=>?_);refine cl J AG J<|cl J AG J<|cl J AG J<|?_;exact rz J J
end Go.Sx
end
