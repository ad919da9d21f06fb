import Derived.Test.YtpiknjeceobbfaaGreatDoorMx10
set_option linter.all false
set_option maxHeartbeats 4000000
set_option maxRecDepth 100000
section
namespace Go.Sx
open Go Go.Proofs Tryz
variable {GB:Gh}
def QE{h l y:Nat}(hh:h<y)(hl:l<4294967296)(hy:y<4294967296):PF GB prog 183 [.v (.int .u32 (h:Int)), .v (.int .u32 (l:Int)), .v (.int .u32 (y:Int))] (.tp [dU ((h*4294967296+l)/y),dU ((h*4294967296+l)%y)]):=by
 refine fn (fu:=⟨11⟩) func183 J J ntmps183 J J (fun C=>?_);refine kT 10 J (by omega) ?_;refine gx (fu:=⟨4⟩) J<|?_;refine kF 14 J (by omega) ?_;refine gx (fu:=⟨11⟩) (hv:=by simp only[ah];exact⟨by omega,(by decide)⟩) J<|?_;refine ak 19 (.d (.v (.int .u64 (h*2^32:Nat)))) J (by show FX.d (.v (.int _ _))= .d (.v (.int _ _));rw[oA _ 32 (by decide) (by show _*4294967296<_;omega) J]) ?_;refine gx (fu:=⟨3⟩) J<|?_;refine ak 22 (.d (.v (.int .u64 (l+h*2^32:Nat)))) J (congrArg (fun z:Nat=>FX.d (.v (.int .u64 (z:Int)))) (by rw[BitVec.or_comm];exact uG 64 l h 32 hl (by show _+_*4294967296<18446744073709551616;omega))) ?_;obtain⟨t,ht⟩: ∃t,t=h*4294967296+l:=⟨_,rfl⟩;have hq:t/y<4294967296:=by rw[jK (by omega)];have:=eK 4294967296 (show h+1<=y from hh);omega
 have hr:t%y<y:=cS _ (by omega);refine ak 22 (.d (.v (.int .u64 (t:Nat)))) J (by show FX.d (.v (.int _ _))= .d (.v (.int _ _));congr 3;rw[ht];omega) ?_;refine gx (hv:=by simp only[ah];exact⟨⟨⟨⟨by omega,⟨(by omega),(by omega),(by omega)⟩⟩,by omega⟩,⟨(by omega),(by omega)⟩⟩,by kernel_rfl⟩) J<|?_;exact rz J (by show DV.tp [.v (.int _ _), .v (.int _ _)]= .tp [.v (.int _ _), .v (.int _ _)];rw[<-ht,<-oK,<-nQ];generalize t/y=q at*;generalize t%y=r at*;congr 4<;>(first|omega|(congr 3;omega)))
def Ot{A r i b:Nat}(d:Nat)(hb:0<b):(A*4294967296+d)/b=A/b*4294967296+(A%b*4294967296+d)/b/\(A*4294967296+d)%b=(A%b*4294967296+d)%b:=by
 have h:=oL A b;have e:A*4294967296+d=(A%b*4294967296+d)+b*(A/b*4294967296):=by
  rw[<-bW,Nat.add_right_comm,<-cL,lK (A%b),h]
 rw[e,kL _ _ hb,lM];exact⟨lK _ _,J⟩
def GN{ds:List Nat}{i:Nat}(h:i<ds.length):dv (ds.drop i)=dv (ds.drop (i+1))*4294967296+ds.getD i 0:=by
 rw[cV h,aJ,aX h];simp only[dv,iV];omega
def Jb{W:List Nat}{i q:Nat}(h:i<W.length):dv ((W.set i q).drop i)=dv (W.drop (i+1))*4294967296+q:=by
 rw[GN (by rw[aR];exact h),oW (by omega),HF h]
def VK{a b k:Nat}{W:List Nat}(hb:0<b)(hk:k<(dg a).length)(hl:W.length=(dg a).length)(h:dv (W.drop (k+1))=dv ((dg a).drop (k+1))/b):
  dv ((W.set k ((dv ((dg a).drop (k+1))%b*4294967296+(dg a).getD k 0)/b)).drop k)=dv ((dg a).drop k)/b/\dv ((dg a).drop k)%b=(dv ((dg a).drop (k+1))%b*4294967296+(dg a).getD k 0)%b:=by
 have:=Ot (A:=dv ((dg a).drop (k+1))) (r:=0) (i:=0) ((dg a).getD k 0) hb;rw[Jb (by omega),h,GN hk,this.1,this.2];exact⟨J,J⟩
def u'{a b:Nat}:fy a b<0↔a<b:=by unfold fy;split<;>(try split)<;>omega
def wl{a b:Nat}:0<fy a b↔b<a:=by unfold fy;split<;>(try split)<;>omega
def Tk{x:Nat}(hx:x<4294967296):PF GB prog 214 [dU x] (vI (32-(bl x:Int))):=by
 intro G vs hg hv;obtain⟨v,m,rfl,h1,h2⟩:=cb.1 hv;rw[cF] at h2;subst h2;rw[bp.1 h1];exact(DJ hx).mono fun v G' _ h=>bp.2 h
def Jq{a k:Nat}(h:4294967296^k<=a):k<(dg a).length:=by
 have h1:=r9 a;rcases gJ k (dg a).length with q|q
 ·exact q
 ·have:4294967296^(dg a).length<=4294967296^k:=bQ (by decide) q
  omega
def FU{v L:Nat}(hL:L=(dg v).length)(h1:1<=L):(dg v).getD (L-1) 0=v/4294967296^(L-1)/\0<v/4294967296^(L-1):=by
 have h:=Ca (j' v) (L-1);rw[si (by omega:(dg v).length<=L-1+1),b9,oZ,dW] at h;have h2:=r9 v;rw[<-hL] at h2;rw[iW (show v<4294967296^(L-1+2) from dZ h2 (bQ (by decide) (by omega))),oZ,dW] at h;have h3:=pw (dP v).2.2 (by intro e;rw[e] at hL;simp at hL;omega);rw[b9,<-hL] at h3;exact⟨h.symm,Nat.div_pos h3 (dS (by decide))⟩
def Ed{R n:Nat}(h1:1<=n)(h:R<4294967296^(n+1)):R/4294967296^(n-1)=(dg R).getD (n-1) 0+(dg R).getD n 0*4294967296:=by
 have e:=Ca (j' R) (n-1);rw[b9,show n-1+1=n by omega,iW (show R<4294967296^(n-1+2) by rwa [show n-1+2=n+1 by omega]),oZ,dW,bV] at e;exact e
def VH{R v j L:Nat}(hL:L=(dg v).length)(h1:1<=L)(hR:R<v*4294967296^(j+1)):R/(v*4294967296^j)<=min (R/4294967296^(L+j-1)/(v/4294967296^(L-1))) 4294967295:=by
 have ht:=(FU hL h1).2;have hp:0<4294967296^j:=dS (by decide);have hv0:0<v:=by
  rcases eJ v with q|q
  ·subst q;simp at ht
  ·exact q
 have hvp:0<v*4294967296^j:=iY hv0 hp;refine Nat.le_min.2 ⟨?_,?_⟩
 ·rw[qZ ht,qZ (dS (by decide))]
  have h3:v/4294967296^(L-1)*4294967296^(L-1)<=v:=Nat.div_mul_le_self _ _;have h4:R/(v*4294967296^j)*(v*4294967296^j)<=R:=Nat.div_mul_le_self _ _;rw[show L+j-1=L-1+j by omega,eY]
  calc R/(v*4294967296^j)*(v/4294967296^(L-1))*(4294967296^(L-1)*4294967296^j)
    =R/(v*4294967296^j)*((v/4294967296^(L-1)*4294967296^(L-1))*4294967296^j):=by simp only[bW]
   _<=R/(v*4294967296^j)*(v*4294967296^j):=eK _ (bX _ h3)
   _<=R:=h4
 ·have:R/(v*4294967296^j)<4294967296:=by
   rw[jK hvp];rw[fZ] at hR;rwa [bV,bW]
  omega
def ym{R V g:Nat}(hV:0<V)(h:R<V*g):R/V<g:=by
 rw[jK hV,bV];exact h
def Ou{R V g:Nat}(hV:0<V)(h1:R/V<=g)(h2:V*g<=R):g=R/V:=by
 have:g<=R/V:=by rw[qZ hV,bV];exact h2
 omega
def HU{R0 R v j g:Nat}{W:List Nat}(hj:j<W.length)(h:R0=R+dv (W.drop (j+1))*4294967296^(j+1)*v)(hv:0<v*4294967296^j)(hg:g=R/(v*4294967296^j)):
  R0=(R-v*4294967296^j*g)+dv ((W.set j g).drop j)*4294967296^j*v/\R-v*4294967296^j*g<v*4294967296^j:=by
 have h1:=oL R (v*4294967296^j);have h2:=cS R hv;rw[<-hg] at h1;refine⟨?_,by omega⟩;rw[Jb hj,cL,cL,h,fZ];have e:g*4294967296^j*v=v*4294967296^j*g:=by simp only[bW,kQ,bV]
 have e2:dv (W.drop (j+1))*(4294967296^j*4294967296)*v=dv (W.drop (j+1))*4294967296*4294967296^j*v:=by simp only[bW,kQ,bV]
 rw[e,e2];omega
def Nj{a b s R:Nat}{D:Nat}(hR:R<b*2^s)(h:a*2^s=R+D*(b*2^s)):D=a/b/\R/2^s=a%b:=by
 have hp:0<2^s:=dS (by decide);have hb:0<b:=by
  rcases eJ b with q|q
  ·subst q;simp at hR
  ·exact q
 have h1:a=R/2^s+D*b:=by
  have:=congrArg (· /2^s) h;rw[Nat.mul_div_cancel _ hp,<-bW,Nat.add_mul_div_right _ _ hp] at this;exact this
 have h2:R/2^s<b:=by rw[jK hp];exact hR
 have h3:R/2^s+b*D=a:=by rw[bV b];exact h1.symm
 have:=(Nat.div_mod_unique hb).2 ⟨h3,h2⟩;exact⟨this.1.symm,this.2.symm⟩
def OR{a b s:Nat}(hl:(dg b).length<=(dg a).length)(h2:1<=(dg b).length):a*2^s<b*2^s*4294967296^((dg a).length-(dg b).length+1):=by
 have h1:=r9 a;have h3:=pw (dP b).2.2 (by intro e;rw[e] at h2;simp at h2);rw[b9] at h3;have h4:4294967296^(dg a).length<=b*4294967296^((dg a).length-(dg b).length+1):=by
  rw[show(dg a).length=((dg b).length-1)+((dg a).length-(dg b).length+1) by omega,eY];rw[show(dg b).length-1+((dg a).length-(dg b).length+1)-(dg b).length+1=(dg a).length-(dg b).length+1 by omega];exact bX _ h3
 rw[pK];exact jL (dZ h1 h4) (dS (by decide))
def JQ(x j:Nat):x*2^(32*j)=x*4294967296^j:=by rw[nM]
def Py{R L j:Nat}(h:R<4294967296^(L+j+1))(h1:1<=L):R/4294967296^(L+j-1)<18446744073709551616:=by
 rw[jK (dS (by decide)),show(18446744073709551616:Nat)=4294967296^2 from J,<-eY];rwa [show 2+(L+j-1)=L+j+1 by omega]
def U3{R v j L:Nat}(hL:L=(dg v).length)(hR:R<v*4294967296^(j+1)):R<4294967296^(L+j+1):=by
 have h:=r9 v;rw[<-hL] at h;rw[jM,eY];exact dZ hR (bX _ (nV h))
def R3{a b ia ib:Nat}[ha:BN a ia][hb:BN b ib](hi:ia<=500000000)(hj:ib<=500000000)(h2:1<=(dg b).length)(hl:(dg b).length<=(dg a).length):PF GB prog 184 [dN a,dN b] (.tp [dN (a/b),dN (a%b)]):=by
 have hla:=eB (dg a);have hlb:=eB (dg b);have hba:=mi ha.h;have hba':(dg a).length<=20000000:=by omega
 refine fn func184 J J ntmps184 J J (fun C=>?_);refine ix _ J (fB (k:=(dg b).length-1) (by omega) (by omega)) J<|cl (fu:=⟨0⟩) J (Tk (f8 b ((dg b).length-1))) J<|?_;obtain⟨s,hs⟩: ∃s:Nat,s=32-bl ((dg b).getD ((dg b).length-1) 0):=⟨_,rfl⟩;have hs32:s<=32:=by omega
 refine ak 22 (.d (vI (s:Nat))) J (by show FX.d (.v (.int _ _))= .d (.v (.int _ _));congr 3;have:=me.2 (show(dg b).getD ((dg b).length-1) 0<2^32 from f8 b _);omega) ?_;refine gx J<|cl J (Ab (a:=b) (k:=s) (ia:=ib) (by omega) (by omega)) J<|cl (fu:=⟨0⟩) J (Ab (a:=a) (k:=s) (ia:=ia) (by omega) (by omega)) J<|?_;obtain⟨v,hv⟩: ∃v,v=b*2^s:=⟨_,rfl⟩;obtain⟨R0,hR0⟩: ∃R0,R0=a*2^s:=⟨_,rfl⟩;refine ak 25 (.d (dN v)) J (by rw[hv]) ?_;refine ak 28 (.d (dN R0)) J (by rw[hR0]) ?_;obtain⟨L,hL⟩: ∃L,L=(dg v).length:=⟨_,rfl⟩;have hlv:((dg v).map dU).length=L:=by rw[eB,hL]
 have hps:2^s<=2^32:=bQ (by decide) hs32;have hpp:0<2^s:=dS (by decide);have hst:=OR (a:=a) (b:=b) (s:=s) hl h2;rw[<-hv,<-hR0] at hst;have hvb:v<2^(ib+32):=by rw[hv,eY];exact lR hb.h hps (by decide)
 have hRb:R0<2^(ia+32):=by rw[hR0,eY];exact lR ha.h hps (by decide)
 have hbp:0<b:=gW (fun q=>by subst q;rw[wH] at h2;simp at h2);have hvp:0<v:=hv▸iY hbp hpp;have hLp:1<=L:=by rw[hL];exact Jq (k:=0) (by rw[pS];exact hvp)
 have htop:=FU hL hLp;haveI hvB:BN v (ib+32):=⟨hvb⟩;have hLb:=mi hvb;have hLb':L<=20000000:=by omega
 have htl:=f8 v (L-1);refine gx (fu:=⟨9⟩) J<|?_;refine ak 31 (.d (vI (L:Nat))) J (by rw[hlv];rfl) ?_;refine gx J<|ix (fu:=⟨2⟩) _ J (fB (k:=L-1) (by omega) (by omega)) J<|?_;refine ak 35 (.d (.v (.int .u64 (v/4294967296^(L-1):Nat)))) J (by rw[htop.1]) ?_;rw[htop.1] at htl;refine gx (fu:=⟨11⟩) J<|?_;obtain⟨m,hm⟩: ∃m,m=(dg a).length-(dg b).length+1:=⟨_,rfl⟩;rw[<-hm] at hst;have hrl:(List.replicate ((m:Nat):Int).toNat (DV.v (.int .u32 0))).length=m:=by rw[aW,bT]
 refine ak 41 (.d (vI (m:Nat))) J (by show FX.d (.v (.int _ _))= .d (.v (.int _ _));congr 3;omega) ?_;refine gx J<|mk ((List.replicate m 0).map dU) J J (by rw[<-tJ];rfl) J<|?_;refine lp (X:=List Nat×Nat×Nat) (fun⟨W,R,k⟩=>[(6, .d (vI (s:Nat))),(7, .d (dN v)),(8, .d (dN R)),(9, .d (.v (.int .u64 (v/4294967296^(L-1):Nat)))),(10, .rw 42),(11, .d (vI ((k:Nat)-1)))]) (fun⟨W,R,k⟩=>[(42,some (.b 206 1 (W.map dU) true))]) (fun⟨W,R,k⟩=>W.length=m/\bi W/\k<=m/\R0=R+dv (W.drop k)*4294967296^k*v/\R<v*4294967296^k/\R<=R0) (fun⟨W,R,k⟩=>k) ⟨List.replicate m 0,R0,m⟩ J ⟨by simp, .replicate _,aN _,by simp[dv],hst,aN _⟩ (fun _=>J) (fun⟨W,R,k⟩ hk=>?_);dsimp only at hk⊢;obtain⟨h1,h2',h3,h4,h5,h6⟩:=hk;have hlw:=eB W;refine br (fu1:=⟨10⟩) J J J (fun hc47=>?_) (fun hc47=>?_)
 .
  obtain⟨j,rfl⟩: ∃j,k=j+1:=⟨k-1,by omega⟩;have hvj:0<v*4294967296^j:=iY hvp (dS (by decide));have hge:=VH hL hLp h5;have hlen:=U3 hL h5;have hlr:((dg R).map dU).length=(dg R).length:=eB _;haveI hRB:BN R (ia+32):=⟨by omega⟩;have hq32:R/(v*4294967296^j)<4294967296:=by omega
  have hz1:=Int.natCast_nonneg (R/4294967296^(L+j-1));have hz2:=Int.natCast_nonneg (R/4294967296^(L+j-1)/(v/4294967296^(L-1)));refine ak 11 (.d (vI (j:Nat))) J (by show FX.d (.v (.int _ _))= .d (.v (.int _ _));congr 3;omega) ?_;refine mg (fu:=⟨6⟩) (hv:=fun _ _=>by simp only[ah];exact⟨(by omega),(by have:=Py hlen hLp;omega),(by omega)⟩) (X:=Unit) (fun _=>[(6, .d (vI (s:Nat))),(7, .d (dN v)),(8, .d (dN R)),(9, .d (.v (.int .u64 (v/4294967296^(L-1):Nat)))),(10, .rw 42),(11, .d (vI (j:Nat))),(12, .d (.v (.int .u64 (R/4294967296^(L+j-1):Nat))))]) (fun _=>[(42,some (.b 206 1 (W.map dU) true))]) (fun _=>True) [6,7,8,9,10,11,12] [42] rfl ?_ (fun _=>J) (fun _ hm=>?_)
  .
   refine gx (fu:=⟨4⟩) J<|?_;refine ak 51 (.d (vI (L:Nat))) J (by rw[hlv];rfl) ?_;refine gx (fu:=⟨2⟩) J<|?_;refine ak 53 (.d (vI (L+j:Nat))) J (by show FX.d (.v (.int _ _))= .d (.v (.int _ _));congr 3) ?_;refine gx (fu:=⟨8⟩) J<|?_;refine ak 56 (.d (vI ((dg R).length:Nat))) J (by rw[hlr];rfl) ?_;refine gx J<|?_;refine br (fu2:=⟨6⟩) J J J (fun hc57=>?_) (fun hc57=>?_)
   .
    have hd0:=f8 R (L+j-1);have hd1:=f8 R (L+j);refine ix (hv:=by simp only[ah];exact⟨⟨by omega,(by decide)⟩,by omega⟩) _ J (fB (k:=L+j) (by omega) (by omega)) J<|ix (fu:=⟨3⟩) _ J (fB (k:=L+j-1) (by omega) (by omega)) J<|?_;refine ak 70 (.d (.v (.int .u64 ((dg R).getD (L+j-1) 0+(dg R).getD (L+j) 0*4294967296:Nat)))) J (congrArg (fun z:Nat=>FX.d (.v (.int .u64 (z:Int)))) (by rw[oA _ 32 (by decide) (by show _*4294967296<_;omega) J,BitVec.or_comm];exact uG 64 ((dg R).getD (L+j-1) 0) ((dg R).getD (L+j) 0) 32 hd0 (by show _+_*4294967296<18446744073709551616;omega))) ?_;refine gx J<|?_;refine ak 12 (.d (.v (.int .u64 (R/4294967296^(L+j-1):Nat)))) J (by rw[Ed (by omega) hlen]) ?_;exact at_ () trivial
   .
    refine ak 74 (.d (vI ((dg R).length:Nat))) J (by rw[hlr];rfl) ?_;refine gx J<|?_;refine br J J J (fun hc75=>?_) (fun hc75=>?_)
    .
     have hd0:=f8 R (L+j-1);refine ix _ J (fB (k:=L+j-1) (by omega) (by omega)) J<|?_;refine ak 12 (.d (.v (.int .u64 (R/4294967296^(L+j-1):Nat)))) J (by rw[Ed (by omega) hlen,si (by omega:(dg R).length<=L+j),kU,dW]) ?_;exact at_ () trivial
    .
     refine ak 12 (.d (.v (.int .u64 (R/4294967296^(L+j-1):Nat)))) J (by rw[Ed (by omega) hlen,si (by omega:(dg R).length<=L+j),si (by omega:(dg R).length<=L+j-1)];rfl) ?_;exact at_ () trivial
  .
   obtain⟨g0,hg0'⟩: ∃g0,g0=min (R/4294967296^(L+j-1)/(v/4294967296^(L-1))) 4294967295:=⟨_,rfl⟩;rw[<-hg0'] at hge;have hg0:=hge;have hg1:g0<=4294967295:=by omega
   refine ak 85 (.d (.v (.int .u64 (g0:Nat)))) J (by show FX.d (.v (.int _ _))= .d (.v (.int _ _));congr 3;rw[<-oK];split<;>omega) ?_;refine gx J<|cl J (qB (u:=g0) (by omega)) J<|cl (fu:=⟨2⟩) J (tu (ia:=ib+32) (ib:=32) (hb:=⟨by show _<4294967296;omega⟩) (by omega) (by decide)) J<|?_;refine ak 91 (.d (vI (32*j:Nat))) J (by show FX.d (.v (.int _ _))= .d (.v (.int _ _));congr 3) ?_;refine gx J<|cl (fu:=⟨0⟩) J (Ab (k:=32*j) (ia:=ib+64) (ha:=⟨by rw[show ib+64=ib+32+32 by omega,eY];exact nZ hvb (by show _<4294967296;omega)⟩) (by omega) (by omega)) J<|?_;refine ak 92 (.d (dN (v*4294967296^j*g0))) J (by rw[JQ,pK]) ?_;refine gx J<|?_;refine lp (X:=Nat) (fun g=>[(6, .d (vI (s:Nat))),(7, .d (dN v)),(8, .d (dN R)),(9, .d (.v (.int .u64 (v/4294967296^(L-1):Nat)))),(10, .rw 42),(11, .d (vI (j:Nat))),(14, .d (.v (.int .u64 (g:Nat)))),(15, .d (dN (v*4294967296^j*g)))]) (fun g=>[(42,some (.b 206 1 (W.map dU) true))]) (fun g=>R/(v*4294967296^j)<=g/\g<=4294967295) (fun g=>g) g0 J ⟨hg0,by omega⟩ (fun _=>J) (fun g hk=>?_);obtain⟨g1,g2⟩:=hk;have hlw:=eB W;refine cl J (wT (a:=v*4294967296^j*g) (b:=R) (by have:=yo (a:=v*4294967296^j*g) (k:=L+j+1) (by have h1:=r9 v;rw[<-hL] at h1;rw[fZ,eY];exact nZ (jL h1 (dS (by decide))) (by omega));omega) (by have:=yo hlen;omega)) J<|?_;refine br (fu1:=⟨7⟩) (v1:=fun hc96=>by simp only[ah];exact(by have h:=ym hvj (wl.1 hc96);have h1:1<=g:=fW (cK _) h;omega)) (fu2:=⟨11⟩) J J J (fun hc96=>?_) (fun hc96=>?_)
   .
    have hgd:=ym hvj (wl.1 hc96);have hg1p:1<=g:=fW (cK _) hgd;refine ak 98 (.d (.v (.int .u64 ((g-1:Nat):Int)))) J (by show FX.d (.v (.int _ _))= .d (.v (.int _ _));congr 3;omega) ?_;refine gx J<|cl J (qB (u:=g-1) (by omega)) J<|cl (fu:=⟨2⟩) J (tu (ia:=ib+32) (ib:=32) (hb:=⟨by show _<4294967296;omega⟩) (by omega) (by decide)) J<|?_;refine ak 104 (.d (vI (32*j:Nat))) J (by show FX.d (.v (.int _ _))= .d (.v (.int _ _));congr 3) ?_;refine gx J<|cl (fu:=⟨0⟩) J (Ab (k:=32*j) (ia:=ib+64) (ha:=⟨by rw[show ib+64=ib+32+32 by omega,eY];exact nZ hvb (by show _<4294967296;omega)⟩) (by omega) (by omega)) J<|?_;refine ak 105 (.d (dN (v*4294967296^j*(g-1)))) J (by rw[JQ,pK]) ?_;refine gx J<|?_;exact at_ (g-1) ⟨⟨by have h:=ym hvj (wl.1 hc96);omega,by omega⟩,(by have:=ym hvj (wl.1 hc96);omega)⟩
   .
    have hgq:=Ou hvj g1 (qJ fun q=>hc96 (wl.2 q));refine ak 109 (.d (dU g)) J (by show FX.d (.v (.int _ _))= .d (.v (.int _ _));congr 3;omega) ?_;refine gx J<|sb _ ((W.set j (R/(v*4294967296^j))).map dU) J (fB (k:=j) (by omega) (by omega)) J (by(rw[<-hgq,bT,<-rF])<;>rfl) J<|?_;refine cl (fu:=⟨0⟩) J (D5 (a:=R) (b:=v*4294967296^j*g) (ia:=ia+32) (by rw[hgq];exact Nat.mul_div_le _ _) (by omega)) J<|?_;refine ak 113 (.d (dN (R-v*4294967296^j*(R/(v*4294967296^j))))) J (by rw[hgq]) ?_;refine gx J<|?_;exact at_ ⟨W.set j (R/(v*4294967296^j)),R-v*4294967296^j*(R/(v*4294967296^j)),j⟩ (by dsimp only;exact⟨⟨by simpa using h1,h2'.set _ (by omega),by omega,(HU (by omega) h4 hvj J).1,(HU (by omega) h4 hvj J).2,by omega⟩,(by omega)⟩)
 .
  obtain rfl:k=0:=by omega
  rw[pS,jT] at h5;rw[pS,jT,iS,hR0,hv] at h4;rw[hv] at h5;have hend:=Nj h5 h4;haveI hRB:BN R (ia+32):=⟨by omega⟩;refine fz 42 J J<|cl J (ql (ds:=W) (by omega)) J<|cl J (U0 (a:=R) (k:=s) (ia:=ia+32) (by omega) (by omega)) J<|?_;exact rz J (by show DV.tp [fe _,dN _]= .tp [dN _,dN _];rw[qe h2' hend.1,hend.2])
def NG{a b:Nat}(h:b<=a):(dg b).length<=(dg a).length:=yo (fW h (r9 a))
def D8{a b ia ib:Nat}[ha:BN a ia][hb:BN b ib](hb0:0<b)(hi:ia<=500000000:=by decide)(hj:ib<=500000000:=by decide):PF GB prog 133 [dN a,dN b] (.tp [dN (a/b),dN (a%b)]):=by
 have hla:=eB (dg a);have hlb:=eB (dg b);have hba:=mi ha.h;have hbb:=mi hb.h;have hba':(dg a).length<=20000000:=by omega
 have hbb':(dg b).length<=20000000:=by omega
 have hlb1:1<=(dg b).length:=Jq (k:=0) (by rw[pS];exact hb0);refine fn (fu:=⟨7⟩) func133 J J ntmps133 J J (fun C=>?_);refine mg (X:=Unit) (fun _=>[(0, .d (dN a)),(1, .d (dN b))]) (fun _=>[]) (fun _=>True) [0,1] [] rfl ?_ (fun _=>J) (fun _ hm=>?_)
 .
  refine gx J<|cl J (AL (a:=a) (ia:=ia) (by omega)) J<|?_;refine bd (fu1:=⟨0⟩) J J J (fun hc18=>?_) (fun hc18=>?_)
  .
   refine ak 6 (.d (.v (.int .u64 (a:Nat)))) J (by rw[if_pos hc18]) ?_;refine gx J<|cl J (AL (a:=b) (ia:=ib) (by omega)) J<|?_;refine bd (fu1:=⟨0⟩) J J J (fun hc24=>?_) (fun hc24=>?_)
   .
    refine ak 8 (.d (.v (.int .u64 (b:Nat)))) J (by rw[if_pos hc24]) ?_;have hdl:=jW a b;have hml:=Nat.mod_le a b;refine gx (hv:=by simp only[ah];exact⟨(by omega),(by omega),(by omega)⟩) J<|cl (hv:=by simp only[ah];exact⟨(by omega),(by omega)⟩) J (qB (u:=a/b) (by omega)) J<|cl J (qB (u:=a%b) (by omega)) J<|?_;exact rz J J
   .
    exact at_ () trivial
  .
   exact at_ () trivial
 .
  refine cl J (wT (by omega) (by omega)) J<|?_;refine br J J J (fun hc36=>?_) (fun hc36=>?_)
  .
   have hab:=u'.1 hc36;refine Eq J J<|ap _ J J (tF _) J<|?_;refine n7 39 J ?_;exact rz J (by show DV.tp [_, .sl ([]++_)]= .tp [_,_];rw[iW hab,dY hab,GM];rfl)
  .
   have hab:b<=a:=qJ fun q=>hc36 (u'.2 q);have hlab:(dg b).length<=(dg a).length:=NG hab;refine br (fu1:=⟨4⟩) J J J (fun hc42=>?_) (fun hc42=>?_)
   .
    have hb1:b<4294967296:=by have:=r9 b;rw[show(dg b).length=1 by omega] at this;omega
    have hbd:(dg b).getD 0 0=b:=uL (by omega);refine ak 44 (.d (vI ((dg a).length:Nat))) J (by rw[hla];rfl) ?_;refine gx J<|mk (fu:=⟨13⟩) ((List.replicate (dg a).length 0).map dU) J J (by rw[<-tJ];rfl) J<|?_;refine ak 47 (.d (vI ((dg a).length:Nat))) J (by rw[hla];rfl) ?_;refine gx J<|?_;refine lp (X:=List Nat×Nat) (fun⟨W,k⟩=>[(0, .d (dN a)),(1, .d (dN b)),(10, .rw 45),(11, .d (dU (dv ((dg a).drop k)%b))),(12, .d (vI ((k:Nat)-1)))]) (fun⟨W,k⟩=>[(45,some (.b 206 1 (W.map dU) true))]) (fun⟨W,k⟩=>W.length=(dg a).length/\bi W/\k<=(dg a).length/\dv (W.drop k)=dv ((dg a).drop k)/b) (fun⟨W,k⟩=>k) ⟨List.replicate (dg a).length 0,(dg a).length⟩ J ⟨by simp, .replicate _,aN _,by simp[dv]⟩ (fun _=>J) (fun⟨W,k⟩ hk=>?_) (hF:=(by refine⟨J,J,J,ng J (by simp[dv,dU]),ng J (by simp[vI]),?_⟩;repeat (first|exact trivial|refine And.intro J ?_)))
    try dsimp only at hk⊢
    obtain⟨h1,h2,h3,h4⟩:=hk;have hlw:=eB W;refine br (fu1:=⟨0⟩) J J J (fun hc50=>?_) (fun hc50=>?_)
    .
     obtain⟨k,rfl⟩: ∃j,k=j+1:=⟨k-1,by omega⟩;have hsi:=VK hb0 (by omega) h1 h4;have hrm:=cS (dv ((dg a).drop (k+1))) hb0;have hdk:=f8 a k;have hqd:(dv ((dg a).drop (k+1))%b*4294967296+(dg a).getD k 0)/b<4294967296:=by rw[jK hb0];have:=eK 4294967296 (show dv ((dg a).drop (k+1))%b+1<=b from hrm);omega
     refine ak 12 (.d (vI (k:Nat))) J (by show FX.d (.v (.int _ _))= .d (.v (.int _ _));congr 3;omega) ?_;refine gx J<|ix _ J (fB (k:=k) (by omega) (by omega)) J<|ix _ J (fB (k:=0) J (by omega)) J<|cl J (QE (h:=dv ((dg a).drop (k+1))%b) (l:=(dg a).getD k 0) (y:=(dg b).getD 0 0) (by omega) hdk (by omega)) J<|?_;refine sb (hv:=by simp only[ah];exact⟨by kernel_rfl,by omega⟩) _ ((W.set k ((dv ((dg a).drop (k+1))%b*4294967296+(dg a).getD k 0)/b)).map dU) J (fB (k:=k) (by omega) (by omega)) J (by(rw[hbd,bT,<-rF])<;>rfl) J<|?_;exact at_ ⟨W.set k ((dv ((dg a).drop (k+1))%b*4294967296+(dg a).getD k 0)/b),k⟩ (by dsimp only;exact⟨⟨by simpa using h1,h2.set _ hqd,by omega,hsi.1⟩,(by omega)⟩) (by refine⟨J,J,J,ng J (by rw[hsi.2,hbd]),ng J (by first|(simp[vI];done)|(simp[vI];omega)),?_⟩;repeat (first|exact trivial|refine And.intro J ?_))
    .
     refine fz 45 J J<|cl J (ql (ds:=W) (by omega)) J<|rf J J<|cl J (ql (ds:=[dv ((dg a).drop k)%b]) (by simp)) J<|?_;exact rz rfl (by show DV.tp [fe _,fe _]= .tp [_,_];obtain rfl:k=0:=(by omega);rw[iS,iS,b9] at h4;rw[iS,b9];rw[qe h2 h4,qe (.cons (by have:=cS a hb0;omega) .nil) (n:=a%b) (by simp[dv])])
   .
    refine cl J (R3 (by omega) (by omega) hlb1 hlab) J<|?_;exact rz J J
def L7(x y:Nat):Nat.gcd y (x%y)=Nat.gcd x y:=by rw[gR x y,rZ y x,gR]
def S9{a b ia ib:Nat}[ha:BN a ia][hb:BN b ib](hi:ia<=240000000:=by decide)(hj:ib<=240000000:=by decide):PF GB prog 130 [dN a,dN b] (dN (Nat.gcd a b)):=by
 refine fn (fu:=⟨6⟩) func130 J J ntmps130 J J (fun C=>?_);refine mg (X:=Unit) (fun _=>[(0, .d (dN a)),(1, .d (dN b))]) (fun _=>[]) (fun _=>True) [0,1] [] rfl ?_ (fun _=>J) (fun _ hm=>?_)
 .
  refine gx J<|cl J (AL (a:=a) (ia:=ia) (by omega)) J<|?_;refine bd (fu1:=⟨0⟩) J J J (fun hc16=>?_) (fun hc16=>?_)
  .
   refine ak 5 (.d (.v (.int .u64 (a:Nat)))) J (by rw[if_pos hc16]) ?_;refine gx J<|cl J (AL (a:=b) (ia:=ib) (by omega)) J<|?_;refine bd (fu1:=⟨0⟩) J J J (fun hc22=>?_) (fun hc22=>?_)
   .
    refine ak 7 (.d (.v (.int .u64 (b:Nat)))) J (by rw[if_pos hc22]) ?_;refine gx J<|?_;refine lp (X:=Nat×Nat) (fun⟨x,y⟩=>[(5, .d (.v (.int .u64 (x:Nat)))),(7, .d (.v (.int .u64 (y:Nat))))]) (fun⟨x,y⟩=>[]) (fun⟨x,y⟩=>x<18446744073709551616/\y<18446744073709551616/\Nat.gcd x y=Nat.gcd a b) (fun⟨x,y⟩=>y) ⟨a,b⟩ J ⟨hc16,hc22,J⟩ (fun _=>J) (fun⟨x,y⟩ hk=>?_)
    try dsimp only at hk⊢
    obtain⟨h1,h2,h3⟩:=hk;refine br (v1:=fun hc24=>by simp only[ah];exact⟨⟨(by omega),(by omega)⟩,by kernel_rfl⟩) J J J (fun hc24=>?_) (fun hc24=>?_)
    .
     exact at_ ⟨y,x%y⟩ (by dsimp only;exact⟨⟨h2,by have:=cS x (show 0<y by omega);omega,by rw[L7,h3]⟩,(by exact cS _ (by omega))⟩)
    .
     refine cl J (qB (u:=x) h1) J<|?_;exact rz J (by show dN x=_;rw[<-h3,show y=0 by omega,lT])
   .
    exact at_ () trivial
  .
   exact at_ () trivial
 .
  refine lp (fu:=⟨5⟩) (X:=Nat×Nat) (fun⟨x,y⟩=>[(0, .d (dN x)),(1, .d (dN y))]) (fun⟨x,y⟩=>[]) (fun⟨x,y⟩=>x<2^(ia+ib)/\y<2^(ia+ib)/\Nat.gcd x y=Nat.gcd a b) (fun⟨x,y⟩=>y) ⟨a,b⟩ J ⟨(ha.mono (by omega)).h,(hb.mono (by omega)).h,J⟩ (fun _=>J) (fun⟨x,y⟩ hk=>?_)
  try dsimp only at hk⊢
  obtain⟨h1,h2,h3⟩:=hk;have hly:=eB (dg y);haveI hx':BN x (ia+ib):=⟨h1⟩;haveI hy':BN y (ia+ib):=⟨h2⟩;refine ak 32 (.d (vI ((dg y).length:Nat))) J (by rw[hly];rfl) ?_;refine gx J<|?_;refine br J J J (fun hc33=>?_) (fun hc33=>?_)
  .
   have hy0:0<y:=gW fun q=>by subst q;rw[wH] at hc33;simp at hc33
   refine cl J (D8 (a:=x) (b:=y) (ia:=ia+ib) (ib:=ia+ib) hy0 (by omega) (by omega)) J<|?_;exact at_ ⟨y,x%y⟩ (by dsimp only;exact⟨⟨h2,by have:=cS x hy0;omega,by rw[L7,h3]⟩,(by exact cS _ hy0)⟩)
  .
   have hy0:y=0:=ve.1 (by omega);have hlx:=mi h1;have hmx:=eB (dg x);refine Eq J J<|ap _ J J (tF _) J<|?_;refine n7 44 J ?_;exact rz J (by show DV.sl ([]++_)=_;rw[<-h3,hy0,lT];rfl)
def MW(neg:Bool)(m:Nat):eI (zv neg m)= .ag [.v (.bool (neg&&decide (0<m))),dN m]:=by unfold eI;rw[pg,MD]
def QV(z:Int):zv (!decide (z<0)) z.natAbs= -z:=by
 unfold zv;by_cases h:z<0<;>simp[h]<;>omega
def Qu(a b:Int):zv (!(decide (a<0)==decide (b<0))) (a.natAbs*b.natAbs)=a*b:=by
 have h:=Na (decide (a<0)) (decide (b<0)) a.natAbs b.natAbs;rw[kl,kl] at h;exact h
def nf{neg:Bool}{m:Nat}:PF GB prog 125 [.v (.bool neg),dN m] (eI (zv neg m)):=by
 have hl:=eB (dg m);have hz:= @ve m;refine fn func125 J J ntmps125 J J (fun C=>?_);refine jE 6 J J J (fun hg6=>?_) (fun hg6=>?_)
 .
  exact rz J (by rw[MW,hg6];show DV.ag [.v (.bool _),_]= .ag [.v (.bool _),_];congr 4;rw[oT];exact decide_eq_decide.2 (by omega))
 .
  exact rz J (by rw[MW,hg6];rfl)
end Go.Sx
end
section
namespace Go.Sx
open Go
instance:DecidableEq ab:=fun x y=>decidable_of_iff (x.a=y.a/\x.b=y.b/\x.c=y.c) (by
 cases x;cases y;simp)
structure aA where
 lo:Rat
 hi:Rat
 nl:Bool
 nh:Bool
def aA.all:aA:=⟨0,0,true,true⟩
def aA.empty(v:aA):Bool:=!v.nl&&(!v.nh&&decide (0<=ce v.lo v.hi))
def aA.meet(v w:aA):aA:=
 ⟨if v.nl then w.lo else if w.nl then v.lo else if v.lo<w.lo then w.lo else v.lo,
  if v.nh then w.hi else if w.nh then v.hi else if w.hi<v.hi then w.hi else v.hi,v.nl&&w.nl,v.nh&&w.nh⟩
def aA.sample(v:aA):Rat:=if v.nl&&v.nh then 0 else if v.nl then v.hi-1 else if v.nh then v.lo+1 else(v.lo+v.hi)*mkRat 1 2
def ab.cutK(l m:ab):Rat:=m.nor.dot l.dir
def ab.cutC(l m:ab):Rat:=m.value l.base
def ab.cutV(l:ab)(v:aA)(m:ab):aA:=
 if Int.sign (l.cutK m).num=0 then v
 else if Int.sign (l.cutK m).num=1 then v.meet ⟨-(l.cutC m/l.cutK m),0,false,true⟩
 else v.meet ⟨0, -(l.cutC m/l.cutK m),true,false⟩
def ab.cutB(l:ab)(v:aA)(m:ab):Bool:=
 if Int.sign (l.cutK m).num=0 then decide (0<Int.sign (l.cutC m).num) else !(l.cutV v m).empty
structure aP where
 l:ab
 v:aA
abbrev bw:=List aP
def pG(l:ab):bw->aA->Option aA
 |[],v=>some v
 |s::t,v=>if l.cutB v s.l then pG l t (l.cutV v s.l) else none
def pD(c:bw)(l:ab):Option aA:=pG l c aA.all
def xi(l:ab)(s:aP):Int:=Int.sign (l.value (s.l.at s.v.sample)).num
def rI(l:ab):bw->Int
 |[]=> -1
 |s::t=>if xi l s≠0 then xi l s else if s.l=l then 1 else rI l t
def A9(c:bw)(l:ab):Int:=if(pD c l).isSome then 0 else rI l c
def aa.half(p:aa):Int:=
 if 0<Int.sign p.y.num\/(Int.sign p.y.num=0/\0<Int.sign p.x.num) then 1 else if Int.sign p.y.num<0\/Int.sign p.x.num<0 then 2 else 0
def cA(u v:aa):Int:=if u.half<v.half then-1 else if v.half<u.half then 1 else-(Int.sign (u.cross v).num)
def n5(l:ab):bw->bw
 |[]=>[]
 |s::t=>if s.l.cutB s.v l then⟨s.l,s.l.cutV s.v l⟩::n5 l t else n5 l t
def vN(p:Nat->Bool)(i j:Nat):Nat:=
 if h:i<j then(if p ((i+j)/2) then vN p ((i+j)/2+1) j else vN p i ((i+j)/2)) else i
termination_by j-i
def A8(c:bw)(l:ab)(i:Nat):Bool:=match c[i]? with
 |some s=>decide (cA s.l.dir l.dir<0)
 |none=>false
def rR(c:bw)(l:ab)(v:aA):bw:=
 c.take (vN (A8 c l) 0 c.length)++⟨l,v⟩::c.drop (vN (A8 c l) 0 c.length)
def gh(c:bw)(l:ab):bw:=match pD c l with
 |some v=>rR (n5 l c) l v
 |none=>c
def e7(c:bw)(l:ab):Bool:=match pD c l with
 |some _=>true
 |none=>decide (0<A9 c l)
inductive Tr where
 |leaf (b:Bool)
 |node (l:ab) (x y:Tr)
def Tr.isLeaf:Tr->Bool
 | .leaf _=>true
 | .node .. =>false
def Tr.code:Tr->Bool
 | .leaf b=>b
 | .node .. =>false
def Tr.depth:Tr->Nat
 | .leaf _=>0
 | .node _ x y=>1+max x.depth y.depth
def Tr.size:Tr->Nat
 | .leaf _=>0
 | .node _ x y=>1+x.size+y.size
def Tr.joinQ(l:ab)(x y:Tr):Tr:=if x.isLeaf&&(y.isLeaf&&(x.code==y.code)) then x else .node l x y
def Tr.restrict:Tr->bw->Tr
 | .leaf b,_=> .leaf b
 | .node l x y,c=>if !e7 c l.rev then x.restrict c else if !e7 c l then y.restrict c else joinQ l (x.restrict (gh c l)) (y.restrict (gh c l.rev))
def Tr.parts:Tr->bw->List (Bool×bw)
 | .leaf b,c=>[(b,c)]
 | .node l x y,c=>(if e7 c l then x.parts (gh c l) else [])++(if e7 c l.rev then y.parts (gh c l.rev) else [])
def Tr.all(p:ab->Prop):Tr->Prop
 | .leaf _=>True
 | .node l x y=>p l/\x.all p/\y.all p
def Tr.good:Tr->Prop
 | .leaf _=>True
 | .node _ x y=> ¬(x.isLeaf=true/\y.isLeaf=true/\x.code=y.code)/\x.good/\y.good
structure NQ where
 l:ab
 a:Int
 b:Int
def zR(b:Bool):Int:=if b then-2 else-1
def Tr.num:Tr->Nat->Int
 | .leaf b,_=>zR b
 | .node ..,n=>n
def Tr.wr:Tr->Nat->List NQ
 | .leaf _,_=>[]
 | .node l x y,n=>⟨l,x.num (n+1),y.num (n+1+x.size)⟩::x.wr (n+1)++y.wr (n+1+x.size)
def Tr.joinQ_cases(l:ab)(x y:Tr):(Tr.joinQ l x y=x/\x.isLeaf=true)\/(Tr.joinQ l x y= .node l x y/\ ¬(x.isLeaf=true/\y.isLeaf=true/\x.code=y.code)):=by
 unfold Tr.joinQ;split
 ·rename_i h
  simp at h;exact .inl ⟨J,h.1⟩
 ·rename_i h
  simp at h;exact .inr ⟨J,fun⟨a,b,c⟩=>h a b c⟩
def Tr.restrict_all(p:ab->Prop): ∀(t:Tr) (c:bw),t.all p->(t.restrict c).all p
 | .leaf b,c,_=>trivial
 | .node l x y,c,h=>by
  obtain⟨h0,h1,h2⟩:=h;unfold Tr.restrict;split
  ·exact x.restrict_all p c h1
  ·split
   ·exact y.restrict_all p c h2
   ·rcases Tr.joinQ_cases l (x.restrict (gh c l)) (y.restrict (gh c l.rev)) with⟨h,_⟩|⟨h,_⟩
    ·rw[h];exact x.restrict_all p _ h1
    ·rw[h];exact⟨h0,x.restrict_all p _ h1,y.restrict_all p _ h2⟩
def lj(l:ab)(p:aa):l.value p=(l.a:Rat)*p.x+(l.b:Rat)*p.y+(l.c:Rat):=rfl
def my(l:ab)(p:aa):l.rev.value p= -l.value p:=by
 rw[lj,lj];have h1:((l.rev.a:Int):Rat)= -(l.a:Rat):=(Ba l.a).symm;have h2:((l.rev.b:Int):Rat)= -(l.b:Rat):=(Ba l.b).symm;have h3:((l.rev.c:Int):Rat)= -(l.c:Rat):=(Ba l.c).symm;rw[h1,h2,h3];grind
def aD(q p:aa)(e:Rat):aa:=⟨q.x+e*(p.x-q.x),q.y+e*(p.y-q.y)⟩
def mf(l:ab)(q p:aa)(e:Rat):l.value (aD q p e)=l.value q+e*(l.value p-l.value q):=by
 simp only[lj,aD];grind
def aG(q u:aa)(e:Rat):aa:=⟨q.x+e*u.x,q.y+e*u.y⟩
def io(l:ab)(q u:aa)(e:Rat):l.value (aG q u e)=l.value q+e*l.nor.dot u:=by
 simp only[lj,aG,ab.nor,aa.dot];grind
def bj{a b:Rat}(ha:0<a)(hb:0<b):0<a*b:=Rat.mul_pos ha hb
def bE{a b:Rat}(ha:0<=a)(hb:0<=b):0<=a*b:=nX ha hb
def o8(a:Rat):0<=a*a:=by
 by_cases h:0<=a
 ·exact bE h h
 ·have:=bE (a:= -a) (b:= -a) (by grind) (by grind)
  grind
def eO{s k:Rat}(hk:0<k):0<s*k↔0<s:=by
 constructor
 ·intro h
  by_cases hs:0<s
  ·exact hs
  ·have:=bE (a:= -s) (b:=k) (by grind) (by grind)
   grind
 ·intro h;exact bj h hk
def gO{s k:Rat}(hk:0<k):0<=s*k↔0<=s:=by
 constructor
 ·intro h
  by_cases hs:0<=s
  ·exact hs
  ·have:=bj (a:= -s) (b:=k) (by grind) hk
   grind
 ·intro h;exact bE h (by grind)
def LH{A B u v:Rat}(h0:0<=A)(h1:0<=A+v*B)(hu:0<=u)(huv:u<=v):0<=A+u*B:=by
 by_cases hB:0<=B
 ·have:=bE hu hB;grind
 ·have:=bE (a:=v-u) (b:= -B) (by grind) (by grind)
  grind
def ab.Ne(l:ab):Prop:= ¬(l.a=0/\l.b=0)
def ab.ok.ne{l:ab}(h:l.ok):l.Ne:=h.1
def qk{l:ab}(h:l.Ne):0<l.nor.dot l.nor:=by
 show 0<(l.a:Rat)*l.a+(l.b:Rat)*l.b;have h1:=o8 (l.a:Rat);have h2:=o8 (l.b:Rat);by_cases ha:l.a=0
 ·have hb:l.b≠0:=fun hb=>h ⟨ha,hb⟩
  have hb':(l.b:Rat)≠0:=fun e=>hb (iT.1 e);have:(l.b:Rat)*l.b≠0:=by grind
  grind
 ·have ha':(l.a:Rat)≠0:=fun e=>ha (iT.1 e)
  have:(l.a:Rat)*l.a≠0:=by grind
  grind
def xc{l:ab}(h:l.Ne): ∃q:Rat,l.nor.dot l.nor*q= -(l.c:Rat)/\l.base=⟨(l.a:Rat)*q,(l.b:Rat)*q⟩:=by
 refine⟨-(l.c:Rat)/l.nor.dot l.nor,?_,J⟩;have:=qk h;grind
def n8(l m:ab)(t:Rat):m.value (l.at t)=l.cutC m+t*l.cutK m:=by
 simp only[ab.cutC,ab.cutK,lj,ab.at,aa.add,aa.scale,ab.dir,ab.nor,aa.dot];grind
def p6{l:ab}(h:l.Ne)(t:Rat):l.value (l.at t)=0:=by
 obtain⟨q,h1,h2⟩:=xc h;simp only[lj,ab.at,h2,aa.add,aa.scale,ab.dir];simp only[ab.nor,aa.dot] at h1;grind
def xy{l:ab}(h:l.Ne){p:aa}(hp:l.value p=0): ∃t,p=l.at t:=by
 obtain⟨q,h1,h2⟩:=xc h;have hn:=qk h;obtain⟨x,y⟩:=p;rw[lj] at hp;simp only[ab.nor,aa.dot] at h1 hn;refine⟨((l.b:Rat)*x-(l.a:Rat)*y)/((l.a:Rat)*l.a+(l.b:Rat)*l.b),?_⟩;generalize ht:((l.b:Rat)*x-(l.a:Rat)*y)/((l.a:Rat)*l.a+(l.b:Rat)*l.b)=t;have ht':((l.a:Rat)*l.a+(l.b:Rat)*l.b)*t=(l.b:Rat)*x-(l.a:Rat)*y:=by grind
 simp only[ab.at,h2,aa.add,aa.scale,ab.dir,aa.mk.injEq];generalize (l.a:Rat)=a at*;generalize (l.b:Rat)=b at*;generalize (l.c:Rat)=c at*;have e1:(a*a+b*b)*(x-(a*q+b*t))=0:=by grind
 have e2:(a*a+b*b)*(y-(b*q+ -a*t))=0:=by grind
 constructor<;>grind
def aA.has(v:aA)(t:Rat):Prop:=(v.nl=true\/v.lo<=t)/\(v.nh=true\/t<=v.hi)
def aA.ins(v:aA)(t:Rat):Prop:=(v.nl=true\/v.lo<t)/\(v.nh=true\/t<v.hi)
def aA.Pos(v:aA):Prop:=v.nl=true\/v.nh=true\/v.lo<v.hi
def I5(a b:Rat):0<=ce a b↔b<=a:=by
 unfold ce;split
 ·constructor
  ·intro h;exact absurd h (by decide)
  ·intro h;grind
 ·split
  ·constructor
   ·intro _;grind
   ·intro _;decide
  ·constructor
   ·intro _;grind
   ·intro _;decide
def HO(v:aA):v.empty=false↔v.Pos:=by
 obtain⟨lo,hi,nl,nh⟩:=v;unfold aA.empty aA.Pos
 cases nl<;>cases nh<;>simp[I5]
 first|exact Rat.not_le|grind
def aA.ins.has{v:aA}{t:Rat}(h:v.ins t):v.has t:=by
 obtain⟨h1,h2⟩:=h;exact⟨h1.imp id (fun h=>bN h),h2.imp id (fun h=>bN h)⟩
def Pi:mkRat 1 2=(1:Rat)/2:=by rw[nJ];rfl
def uc{v:aA}(h:v.Pos):v.ins v.sample:=by
 obtain⟨lo,hi,nl,nh⟩:=v;unfold aA.Pos at h;unfold aA.ins aA.sample;rw[Pi]
 cases nl<;>cases nh<;>simp at* <;>grind
def KG(v w:aA)(t:Rat):(v.meet w).has t↔v.has t/\w.has t:=by
 obtain⟨lo,hi,nl,nh⟩:=v;obtain⟨lo',hi',nl',nh'⟩:=w;unfold aA.has aA.meet
 cases nl<;>cases nh<;>cases nl'<;>cases nh'<;>simp<;>grind
def Mf(v w:aA)(t:Rat):(v.meet w).ins t↔v.ins t/\w.ins t:=by
 obtain⟨lo,hi,nl,nh⟩:=v;obtain⟨lo',hi',nl',nh'⟩:=w;unfold aA.ins aA.meet
 cases nl<;>cases nh<;>cases nl'<;>cases nh'<;>simp<;>grind
def Ev(t:Rat):aA.all.has t:=⟨.inl J, .inl J⟩
def Sk(t:Rat):aA.all.ins t:=⟨.inl J, .inl J⟩
def uV:aA.all.Pos:= .inl J
def jf(k:Rat):Int.sign k.num=0↔k=0:=by rw[jX,kN]
def DF(k:Rat):0<k.num↔0<k:=by
 have h1:0<=k.num↔0<=k:=Rat.num_nonneg;have h2:k.num=0↔k=0:=kN;constructor
 ·intro h
  have a:=h1.1 (by omega);have b:k≠0:=fun e=>by have:=h2.2 e;omega
  grind
 ·intro h
  have a:=h1.2 (by grind);have b:k.num≠0:=fun e=>by have:=h2.1 e;grind
  omega
def iH(k:Rat):Int.sign k.num=1↔0<k:=by rw[Int.sign_eq_one_iff_pos,DF]
def jD(k:Rat):0<Int.sign k.num↔0<k:=by
 rw[<-iH];rcases kX k.num 0 with h|h|h
 ·rw[dV h];decide
 ·rw[h];decide
 ·rw[dT h];decide
def lm(k:Rat):Int.sign k.num<0↔k<0:=by
 have h1:=jf k;have h2:=jD k;constructor
 ·intro h
  by_cases hk:0<k
  ·have:=h2.2 hk;omega
  ·by_cases h0:k=0
   ·have:=h1.2 h0;omega
   ·grind
 ·intro h
  have a1: ¬Int.sign k.num=0:=fun e=>by have:=h1.1 e;grind
  have a2: ¬0<Int.sign k.num:=fun e=>by have:=h2.1 e;grind
  omega
def xC{l m:ab}(v:aA)(hk:l.cutK m=0):l.cutV v m=v/\(l.cutB v m=true↔0<l.cutC m):=by
 have h:=(jf (l.cutK m)).2 hk;unfold ab.cutV ab.cutB;rw[if_pos h,if_pos h,decide_eq_true_iff,jD];exact⟨J,Iff.rfl⟩
def xD{l m:ab}(v:aA)(hk:0<l.cutK m):l.cutV v m=v.meet ⟨-(l.cutC m/l.cutK m),0,false,true⟩/\(l.cutB v m=true↔(l.cutV v m).Pos):=by
 have h0: ¬Int.sign (l.cutK m).num=0:=fun e=>by have:=(jf _).1 e;grind
 have h1:=(iH (l.cutK m)).2 hk;constructor
 ·unfold ab.cutV;rw[if_neg h0,if_pos h1]
 ·unfold ab.cutB;rw[if_neg h0,<-HO];simp
def Aj{l m:ab}(v:aA)(hk:l.cutK m<0):l.cutV v m=v.meet ⟨0, -(l.cutC m/l.cutK m),true,false⟩/\(l.cutB v m=true↔(l.cutV v m).Pos):=by
 have h0: ¬Int.sign (l.cutK m).num=0:=fun e=>by have:=(jf _).1 e;grind
 have h1: ¬Int.sign (l.cutK m).num=1:=fun e=>by have:=(iH _).1 e;grind
 constructor
 ·unfold ab.cutV;rw[if_neg h0,if_neg h1]
 ·unfold ab.cutB;rw[if_neg h0,<-HO];simp
def Vt{C K t:Rat}(hk:0<K): -(C/K)<=t↔0<=C+t*K:=by
 have e:C=C/K*K:=by grind
 generalize C/K=d at*;rw[e,show d*K+t*K=(d+t)*K from by grind,gO hk];grind
def KW{C K t:Rat}(hk:0<K): -(C/K)<t↔0<C+t*K:=by
 have e:C=C/K*K:=by grind
 generalize C/K=d at*;rw[e,show d*K+t*K=(d+t)*K from by grind,eO hk];grind
def Xr{C K t:Rat}(hk:K<0):t<= -(C/K)↔0<=C+t*K:=by
 have e:C=C/K*K:=by grind
 generalize C/K=d at*;rw[e,show d*K+t*K=(-(d+t))*(-K) from by grind,gO (by grind)];grind
def GS{C K t:Rat}(hk:K<0):t< -(C/K)↔0<C+t*K:=by
 have e:C=C/K*K:=by grind
 generalize C/K=d at*;rw[e,show d*K+t*K=(-(d+t))*(-K) from by grind,eO (by grind)];grind
def dF(k:Rat):k=0\/0<k\/k<0:=by grind
def yB{l m:ab}{v:aA}(hb:l.cutB v m=true)(t:Rat):(l.cutV v m).has t↔v.has t/\0<=m.value (l.at t):=by
 rw[n8];rcases dF (l.cutK m) with hk|hk|hk
 ·obtain⟨h1,h2⟩:=xC v hk
  rw[h1,hk];have:=h2.1 hb;constructor
  ·intro h;exact⟨h,by grind⟩
  ·exact fun h=>h.1
 ·rw[(xD v hk).1,KG,<-Vt hk]
  simp[aA.has]
 ·rw[(Aj v hk).1,KG,<-Xr hk]
  simp[aA.has]
def Mw{l m:ab}{v:aA}(hb:l.cutB v m=true)(t:Rat):(l.cutV v m).ins t↔v.ins t/\0<m.value (l.at t):=by
 rw[n8];rcases dF (l.cutK m) with hk|hk|hk
 ·obtain⟨h1,h2⟩:=xC v hk
  rw[h1,hk];have:=h2.1 hb;constructor
  ·intro h;exact⟨h,by grind⟩
  ·exact fun h=>h.1
 ·rw[(xD v hk).1,Mf,<-KW hk]
  simp[aA.ins]
 ·rw[(Aj v hk).1,Mf,<-GS hk]
  simp[aA.ins]
def v6{l m:ab}{v:aA}(hv:v.Pos)(hb:l.cutB v m=true):(l.cutV v m).Pos:=by
 rcases dF (l.cutK m) with hk|hk|hk
 ·rw[(xC v hk).1];exact hv
 ·exact(xD v hk).2.1 hb
 ·exact(Aj v hk).2.1 hb
def Fa{l m:ab}{v:aA}(hv:v.Pos)(hb:l.cutB v m=false){t:Rat}(ht:v.has t):m.value (l.at t)<=0:=by
 rw[n8];have hb': ¬l.cutB v m=true:=by rw[hb];decide
 rcases dF (l.cutK m) with hk|hk|hk
 ·have h2:=(xC v hk).2
  have: ¬0<l.cutC m:=fun h=>hb' (h2.2 h);rw[hk];grind
 ·obtain⟨h1,h2⟩:=xD v hk
  have hn: ¬(l.cutV v m).Pos:=fun h=>hb' (h2.2 h);rw[h1] at hn;have h3:=KW (C:=l.cutC m) (t:=t) hk
  suffices¬(-(l.cutC m/l.cutK m)<t) by grind
  generalize-(l.cutC m/l.cutK m)=d at*;obtain⟨lo,hi,nl,nh⟩:=v;unfold aA.Pos aA.meet at hn;unfold aA.Pos at hv;unfold aA.has at ht
  cases nl<;>cases nh<;>simp at* <;>grind
 ·obtain⟨h1,h2⟩:=Aj v hk
  have hn: ¬(l.cutV v m).Pos:=fun h=>hb' (h2.2 h);rw[h1] at hn;have h3:=GS (C:=l.cutC m) (t:=t) hk
  suffices¬(t< -(l.cutC m/l.cutK m)) by grind
  generalize-(l.cutC m/l.cutK m)=d at*;obtain⟨lo,hi,nl,nh⟩:=v;unfold aA.Pos aA.meet at hn;unfold aA.Pos at hv;unfold aA.has at ht
  cases nl<;>cases nh<;>simp at* <;>grind
def cg(c:bw)(p:aa):Prop:= ∀s∈c,0<s.l.value p
def th(c:bw)(p:aa):Prop:= ∀s∈c,0<=s.l.value p
def CZ(l:ab): ∀(c:bw) (v w:aA),v.Pos->pG l c v=some w->
  w.Pos/\(∀t,w.has t↔v.has t/\th c (l.at t))/\(∀t,w.ins t↔v.ins t/\cg c (l.at t))
 |[],v,w,hv,h=>by
  obtain rfl:v=w:=by simpa[pG] using h
  exact⟨hv,fun t=>⟨fun h=>⟨h,fun s hs=>absurd hs (by simp)⟩,fun h=>h.1⟩,fun t=>⟨fun h=>⟨h,fun s hs=>absurd hs (by simp)⟩,fun h=>h.1⟩⟩
 |s::c,v,w,hv,h=>by
  rw[pG] at h;split at h
  ·rename_i hb
   obtain⟨h1,h2,h3⟩:=CZ l c _ w (v6 hv hb) h;refine⟨h1,fun t=>?_,fun t=>?_⟩
   ·rw[h2,yB hb]
    simp only[th,dQ];exact and_assoc
   ·rw[h3,Mw hb]
    simp only[cg,dQ];exact and_assoc
  ·exact absurd h (by simp)
def FQ(l:ab): ∀(c:bw) (v:aA),v.Pos->pG l c v=none-> ∀t,v.has t-> ¬cg c (l.at t)
 |[],v,hv,h=>by simp[pG] at h
 |s::c,v,hv,h=>by
  intro t ht hd;have hd':=dQ.1 hd;rw[pG] at h;split at h
  ·rename_i hb
   exact FQ l c _ (v6 hv hb) h t ((yB hb t).2 ⟨ht,bN hd'.1⟩) hd'.2
  ·rename_i hb
   have:=Fa hv (by simpa using hb) ht;have:=hd'.1;grind
def cg.open: ∀{c:bw} {q:aa} (u:aa),cg c q-> ∃e:Rat,0<e/\ ∀d,0<=d->d<=e->cg c (aG q u d)
 |[],q,u,_=>⟨1,by decide,fun d _ _ s hs=>absurd hs (by simp)⟩
 |s::c,q,u,h=>by
  have h':=dQ.1 h;obtain⟨e,he,hd⟩:=cg.open (c:=c) u h'.2;have hs:=h'.1;generalize hk:s.l.nor.dot u=k;have hf: ∃f:Rat,0<f/\ ∀d,0<=d->d<=f->0<s.l.value q+d*k:=by
   by_cases hk0:0<=k
   ·exact⟨1,by decide,fun d h1 _=>by have:=bE h1 hk0;grind⟩
   ·refine⟨s.l.value q/(2* -k),?_,fun d h1 h2=>?_⟩
    ·have e1:s.l.value q/(2* -k)*(2* -k)=s.l.value q:=by grind
     exact(eO (k:=2* -k) (by grind)).1 (by rw[e1];exact hs)
    ·have e1:s.l.value q/(2* -k)*(2* -k)=s.l.value q:=by grind
     generalize s.l.value q/(2* -k)=f at*;have:=bE (a:=f-d) (b:= -k) (by grind) (by grind);grind
  obtain⟨f,hf0,hf⟩:=hf;by_cases hef:e<=f
  ·refine⟨e,he,fun d h1 h2=>dQ.2 ⟨?_,hd d h1 h2⟩⟩
   rw[io,hk];exact hf d h1 (by grind)
  ·refine⟨f,hf0,fun d h1 h2=>dQ.2 ⟨?_,hd d h1 (by grind)⟩⟩
   rw[io,hk];exact hf d h1 h2
def Gr: ∀{c:bw} {q p:aa},cg c q->(∃s∈c,s.l.value p<=0)->
  ∃e:Rat,0<=e/\e<=1/\(∃s∈c,s.l.value p<=0/\s.l.value (aD q p e)=0)/\th c (aD q p e)
 |[],q,p,_,h=>by obtain⟨s,hs,_⟩:=h;exact absurd hs (by simp)
 |s::c,q,p,h,hex=>by
  have h':=dQ.1 h;have hs:=h'.1;by_cases hc: ∃s∈c,s.l.value p<=0
  ·obtain⟨e,h0,h1,⟨s1,m1,n1,z1⟩,hC⟩:=Gr h'.2 hc
   by_cases hp:0<=s.l.value (aD q p e)
   ·exact⟨e,h0,h1,⟨s1,aZ _ m1,n1,z1⟩,dQ.2 ⟨hp,hC⟩⟩
   ·rw[mf] at hp
    generalize hB:s.l.value p-s.l.value q=B at*;have hB0:B<0:=by
     by_cases hB0:0<=B
     ·have:=bE h0 hB0;grind
     ·grind
    have e1:s.l.value q/(-B)*(-B)=s.l.value q:=by grind
    generalize hf:s.l.value q/(-B)=f at*;have f0:0<=f:=(gO (k:= -B) (by grind)).1 (by rw[e1];grind);have f1:f<=e:=by
     have:=(gO (s:=e-f) (k:= -B) (by grind)).1 (by grind);grind
    have z:s.l.value (aD q p f)=0:=by rw[mf,hB];grind
    have np:s.l.value p<=0:=by
     have:=bE (a:=1-e) (b:= -B) (by grind) (by grind);grind
    refine⟨f,f0,by grind,⟨s,aQ,np,z⟩,dQ.2 ⟨by rw[z];exact dJ,fun s2 m2=>?_⟩⟩;have a1:=h'.2 s2 m2;have a2:=hC s2 m2;rw[mf] at a2⊢;exact LH (bN a1) a2 f0 f1
  ·have np:s.l.value p<=0:=by
    obtain⟨s1,m1,n1⟩:=hex;rcases aU.1 m1 with rfl|m1
    ·exact n1
    ·exact absurd ⟨s1,m1,n1⟩ hc
   generalize hB:s.l.value p-s.l.value q=B at*;have hB0:B<0:=by grind
   have e1:s.l.value q/(-B)*(-B)=s.l.value q:=by grind
   generalize hf:s.l.value q/(-B)=f at*;have f0:0<=f:=(gO (k:= -B) (by grind)).1 (by rw[e1];grind);have f1:f<=1:=by
    have:=(gO (s:=1-f) (k:= -B) (by grind)).1 (by grind);grind
   have z:s.l.value (aD q p f)=0:=by rw[mf,hB];grind
   refine⟨f,f0,f1,⟨s,aQ,np,z⟩,dQ.2 ⟨by rw[z];exact dJ,fun s2 m2=>?_⟩⟩;have a1:=h'.2 s2 m2;have a2:0<s2.l.value p:=by
    by_cases h:0<s2.l.value p
    ·exact h
    ·exact absurd ⟨s2,m2,by grind⟩ hc
   rw[mf];have:=LH (A:=s2.l.value q) (B:=s2.l.value p-s2.l.value q) (u:=f) (v:=1) (bN a1) (by grind) f0 f1;exact this
structure ic (c:bw):Prop where
 ne: ∃p,cg c p
 ok: ∀s∈c,s.l.ok
 edge: ∀s∈c,s.v.Pos/\ ∀t,s.v.has t↔th c (s.l.at t)
def ic.nil:ic []:=⟨⟨⟨0,0⟩,fun s hs=>absurd hs (by simp)⟩,fun s hs=>absurd hs (by simp),fun s hs=>absurd hs (by simp)⟩
def vf{c:bw}{m:ab}(hne: ∃q,cg c q)(h: ∀p,cg c p->0<m.value p){p:aa}(hp:th c p):0<=m.value p:=by
 obtain⟨q,hq⟩:=hne;have mq:=h q hq;by_cases hm:0<=m.value p
 ·exact hm
 ·exfalso
  generalize hB:m.value q-m.value p=B;have hB0:0<B:=by grind
  have e1: -m.value p/B*B= -m.value p:=by grind
  generalize-m.value p/B=e at*;have e0:0<e:=(eO hB0).1 (by rw[e1];grind);have e2:e<=1:=by
   have:=(gO (s:=1-e) hB0).1 (by grind);grind
  have hd:cg c (aD p q e):=fun s hs=>by
   rw[mf];have a:=hp s hs;have b:=hq s hs;have:=bj e0 b;have:=bE (a:=1-e) (b:=s.l.value p) (by grind) a;grind
  have:=h _ hd;rw[mf,hB,e1] at this;grind
def rN{l:ab}{s':aP}: ∀{c:bw},s'∈n5 l c↔ ∃s∈c,s.l.cutB s.v l=true/\s'=⟨s.l,s.l.cutV s.v l⟩
 |[]=>by simp[n5]
 |s::c=>by
  rw[n5];split
  ·rename_i hb
   rw[aU,rN (c:=c)];constructor
   ·rintro (rfl|⟨s1,h1,h2⟩)
    ·exact⟨s,aQ,hb,J⟩
    ·exact⟨s1,aZ _ h1,h2⟩
   ·rintro ⟨s1,h1,h2,h3⟩
    rcases aU.1 h1 with rfl|h1
    ·exact .inl h3
    ·exact .inr ⟨s1,h1,h2,h3⟩
  ·rename_i hb
   rw[rN (c:=c)];constructor
   ·rintro ⟨s1,h1,h2⟩;exact⟨s1,aZ _ h1,h2⟩
   ·rintro ⟨s1,h1,h2,h3⟩
    rcases aU.1 h1 with rfl|h1
    ·exact absurd h2 hb
    ·exact⟨s1,h1,h2,h3⟩
def ry{c:bw}{l:ab}{v:aA}{s:aP}:s∈rR c l v↔s=⟨l,v⟩\/s∈c:=by
 unfold rR;generalize vN (A8 c l) 0 c.length=n;rw[bL,aU];have h:=lL n c;constructor
 ·rintro (h1|h1|h1)
  ·exact .inr (gN h1)
  ·exact .inl h1
  ·exact .inr (List.mem_of_mem_drop h1)
 ·rintro (h1|h1)
  ·exact .inr (.inl h1)
  ·rw[<-h,bL] at h1
   rcases h1 with h1|h1
   ·exact .inl h1
   ·exact .inr (.inr h1)
def QB{c:bw}{l:ab}(hl:l.Ne)(hp:pD c l=none){p:aa}(h:cg c p):l.value p≠0:=by
 intro h0;obtain⟨t,rfl⟩:=xy hl h0;exact FQ l c _ uV hp t (Ev t) h
def G9{c:bw}{l:ab}(hl:l.Ne){v:aA}(hp:pD c l=some v):(∃q,cg c q/\0<l.value q)/\ ∃q,cg c q/\l.value q<0:=by
 obtain⟨h1,_,h3⟩:=CZ l c _ v uV hp;have hd:=((h3 v.sample).1 (uc h1)).2;have h0:=p6 hl v.sample;have hn:=qk hl;constructor
 ·obtain⟨e,he,hm⟩:=hd.open l.nor
  refine⟨_,hm e (bN he) dJ,?_⟩;rw[io,h0];have:=bj he hn;grind
 ·obtain⟨e,he,hm⟩:=hd.open ⟨-l.nor.x, -l.nor.y⟩
  refine⟨_,hm e (bN he) dJ,?_⟩;rw[io,h0];have:=bj he hn;simp only[aa.dot] at this⊢;grind
def O3{c:bw}{l:ab}{v:aA}(hc:ic c)(hl:l.ok)(hp:pD c l=some v):
  ic (rR (n5 l c) l v)/\ ∀p,cg (rR (n5 l c) l v) p↔cg c p/\0<l.value p:=by
 obtain⟨⟨q,hq,lq⟩,_⟩:=G9 hl.ne hp;obtain⟨v1,v2,v3⟩:=CZ l c _ v uV hp;have hD: ∀p,cg (rR (n5 l c) l v) p↔cg c p/\0<l.value p:=by
  intro p;constructor
  ·intro h
   have lp:0<l.value p:=h ⟨l,v⟩ (ry.2 (.inl J));refine⟨fun s0 hs0=>?_,lp⟩;by_cases h0:0<s0.l.value p
   ·exact h0
   ·exfalso
    obtain⟨e,e0,e1,⟨s,ms,ns,zs⟩,hC⟩:=Gr (p:=p) hq ⟨s0,hs0,by grind⟩;obtain⟨t,ht⟩:=xy (hc.ok s ms).ne zs;rw[ht] at hC;obtain⟨p1,p2⟩:=hc.edge s ms;have hh:=(p2 t).2 hC;have lr:0<l.value (s.l.at t):=by
     rw[<-ht,mf];by_cases hB:0<=l.value p-l.value q
     ·have:=bE e0 hB;grind
     ·have:=bE (a:=1-e) (b:= -(l.value p-l.value q)) (by grind) (by grind)
      grind
    have hb:s.l.cutB s.v l=true:=by
     cases hb:s.l.cutB s.v l with
     |true=>rfl
     |false=>have:=Fa p1 hb hh;grind
    have:=h ⟨s.l,s.l.cutV s.v l⟩ (ry.2 (.inr (rN.2 ⟨s,ms,hb,J⟩)));simp only at this;grind
  ·rintro ⟨h1,h2⟩ s hs
   rcases ry.1 hs with rfl|hs
   ·exact h2
   ·obtain⟨s1,m1,_,rfl⟩:=rN.1 hs
    exact h1 s1 m1
 have hne: ∃p,cg (rR (n5 l c) l v) p:=⟨q,(hD q).2 ⟨hq,lq⟩⟩;have hC: ∀p,th (rR (n5 l c) l v) p↔th c p/\0<=l.value p:=by
  intro p;constructor
  ·intro h
   refine⟨fun s hs=>?_,h ⟨l,v⟩ (ry.2 (.inl J))⟩;exact vf hne (fun p hp=>((hD p).1 hp).1 s hs) h
  ·rintro ⟨h1,h2⟩ s hs
   rcases ry.1 hs with rfl|hs
   ·exact h2
   ·obtain⟨s1,m1,_,rfl⟩:=rN.1 hs
    exact h1 s1 m1
 refine⟨⟨hne,fun s hs=>?_,fun s hs=>?_⟩,hD⟩
 ·rcases ry.1 hs with rfl|hs
  ·exact hl
  ·obtain⟨s1,m1,_,rfl⟩:=rN.1 hs
   exact hc.ok s1 m1
 ·rcases ry.1 hs with rfl|hs
  ·refine⟨v1,fun t=>?_⟩
   rw[hC];simp only;rw[v2];have h0:=p6 hl.ne t;constructor
   ·intro h;exact⟨h.2,by rw[h0];exact dJ⟩
   ·intro h;exact⟨Ev t,h.1⟩
  ·obtain⟨s1,m1,hb,rfl⟩:=rN.1 hs
   obtain⟨p1,p2⟩:=hc.edge s1 m1;refine⟨v6 p1 hb,fun t=>?_⟩;rw[hC];simp only;rw[yB hb,p2]
def cg.seg{c:bw}{q p:aa}{e:Rat}(hq:cg c q)(hp:cg c p)(h0:0<=e)(h1:e<=1):cg c (aD q p e):=fun s hs=>by
 rw[mf];have a:=hq s hs;have b:=hp s hs;by_cases he:e=0
 ·subst he;grind
 ·have:=bj (a:=e) (by grind) b
  have:=bE (a:=1-e) (b:=s.l.value q) (by grind) (by grind);grind
def Mg{v:aA}{t:Rat}(h:v.ins t):(∃u,u<t/\v.has u)/\ ∃u,t<u/\v.has u:=by
 obtain⟨lo,hi,nl,nh⟩:=v;unfold aA.ins at h;unfold aA.has;refine⟨⟨if nl=true then t-1 else lo,?_⟩,⟨if nh=true then t+1 else hi,?_⟩⟩<;>cases nl<;>cases nh<;>simp at* <;>grind
def tX{a b c x y z:Nat}(h1:x*b=a*y)(h2:x*c=a*z)(g:Nat.gcd (Nat.gcd a b) c=1):a∣x:=by
 have e:x=Nat.gcd (Nat.gcd (x*a) (x*b)) (x*c):=by
  rw[Nat.gcd_mul_left,Nat.gcd_mul_left,g,jT]
 rw[e];exact Nat.dvd_gcd (Nat.dvd_gcd (Nat.dvd_mul_left ..) (h1▸Nat.dvd_mul_right ..)) (h2▸Nat.dvd_mul_right ..)
def OH{a b c x y z:Int}(h1:a*y=b*x)(h2:a*z=c*x)(h3:b*z=c*y)
  (g1:Nat.gcd (Nat.gcd a.natAbs b.natAbs) c.natAbs=1)(g2:Nat.gcd (Nat.gcd x.natAbs y.natAbs) z.natAbs=1):
  (a=x/\b=y/\c=z)\/(a= -x/\b= -y/\c= -z):=by
 have n1:a.natAbs*y.natAbs=b.natAbs*x.natAbs:=by rw[<-iX,<-iX,h1]
 have n2:a.natAbs*z.natAbs=c.natAbs*x.natAbs:=by rw[<-iX,<-iX,h2]
 have n3:b.natAbs*z.natAbs=c.natAbs*y.natAbs:=by rw[<-iX,<-iX,h3]
 generalize ha:a.natAbs=A at*;generalize hb:b.natAbs=B at*;generalize hc:c.natAbs=C at*;generalize hx:x.natAbs=X at*;generalize hy:y.natAbs=Y at*;generalize hz:z.natAbs=Z at*;have gB:Nat.gcd (Nat.gcd B A) C=1:=by rw[gR B A];exact g1
 have gC:Nat.gcd (Nat.gcd C A) B=1:=by rw[Nat.gcd_assoc,gR];exact g1
 have gY:Nat.gcd (Nat.gcd Y X) Z=1:=by rw[gR Y X];exact g2
 have gZ:Nat.gcd (Nat.gcd Z X) Y=1:=by rw[Nat.gcd_assoc,gR];exact g2
 have e1:A=X:=Nat.dvd_antisymm (tX (x:=X) (y:=Y) (z:=Z) (by grind) (by grind) g1) (tX (x:=A) (y:=B) (z:=C) (by grind) (by grind) g2);have e2:B=Y:=Nat.dvd_antisymm (tX (x:=Y) (y:=X) (z:=Z) (by grind) (by grind) gB) (tX (x:=B) (y:=A) (z:=C) (by grind) (by grind) gY);have e3:C=Z:=Nat.dvd_antisymm (tX (x:=Z) (y:=X) (z:=Y) (by grind) (by grind) gC) (tX (x:=C) (y:=A) (z:=B) (by grind) (by grind) gZ);have s1:a=x\/a= -x:=by omega
 have s2:b=y\/b= -y:=by omega
 have s3:c=z\/c= -z:=by omega
 clear ha hb hc hx hy hz n1 n2 n3 g1 g2 gB gC gY gZ e1 e2 e3;have z1:= @qU x y;have z2:= @qU x z;have z3:= @qU y z;rcases s1 with rfl|rfl<;>rcases s2 with rfl|rfl<;>rcases s3 with rfl|rfl<;>grind
def BW{l m:ab}(hl:l.ok)(hm:m.ok)(h: ∀t,l.value (m.at t)=0):l=m\/l=m.rev:=by
 have h0:=h 0;have h1:=h 1;rw[n8] at h0 h1;have hC:m.cutC l=0:=by grind
 have hK:m.cutK l=0:=by grind
 obtain⟨q,q1,q2⟩:=xc hm.ne;have hn:=qk hm.ne;unfold ab.cutC at hC;rw[q2,lj] at hC;unfold ab.cutK at hK;simp only[ab.nor,ab.dir,aa.dot] at hK q1 hn hC;obtain⟨a,b,c⟩:=l;obtain⟨x,y,z⟩:=m;simp only at*;have e1:a*y=b*x:=by
  have:((a*y:Int):Rat)=((b*x:Int):Rat):=by rw[cY,cY];grind
  exact Rat.intCast_inj.1 this
 have e2:a*z=c*x:=by
  have:((a*z:Int):Rat)=((c*x:Int):Rat):=by rw[cY,cY];grind
  exact Rat.intCast_inj.1 this
 have e3:b*z=c*y:=by
  have:((b*z:Int):Rat)=((c*y:Int):Rat):=by rw[cY,cY];grind
  exact Rat.intCast_inj.1 this
 rcases OH e1 e2 e3 hl.2 hm.2 with⟨rfl,rfl,rfl⟩|⟨rfl,rfl,rfl⟩
 ·exact .inl J
 ·exact .inr J
def ab.ok.rev{l:ab}(h:l.ok):l.rev.ok:=by
 obtain⟨h1,h2⟩:=h;refine⟨?_,?_⟩
 ·simp only[ab.rev];omega
 ·simp only[ab.rev,iJ];exact h2
def KM(l:ab): ∀c:bw,(∀s∈c,xi l s<=0/\s.l≠l)-> ¬0<rI l c
 |[],_=>by simp[rI]
 |s::c,h=>by
  have h':=dQ.1 h;unfold rI;rw[if_neg h'.1.2];split
  ·have:=h'.1.1;omega
  ·exact KM l c h'.2
def Fv{c:bw}{l:ab}(hc:ic c)(hl:l.ok)(hp:pD c l=none):
  (0<rI l c/\ ∀p,cg c p->0<l.value p)\/(¬0<rI l c/\ ∀p,cg c p->l.value p<0):=by
 have hoff:=fun p (h:cg c p)=>QB hl.ne hp h;by_cases hq: ∃q,cg c q/\0<l.value q
 ·left
  obtain⟨q,hq,lq⟩:=hq;have hall: ∀p,cg c p->0<l.value p:=by
   intro p h;have:=hoff p h;by_cases h0:0<l.value p
   ·exact h0
   ·exfalso
    have hn:l.value p<0:=by grind
    have e1:l.value q/(l.value q-l.value p)*(l.value q-l.value p)=l.value q:=by grind
    generalize l.value q/(l.value q-l.value p)=e at*;have f0:0<=e:=(gO (k:=l.value q-l.value p) (by grind)).1 (by grind);have f1:e<=1:=by
     have:=(gO (s:=1-e) (k:=l.value q-l.value p) (by grind)).1 (by grind);grind
    exact hoff _ (hq.seg h f0 f1) (by rw[mf];grind)
  refine⟨?_,hall⟩
  cases c with
  |nil=>simp[pD,pG] at hp
  |cons s c=>
   obtain⟨p1,p2⟩:=hc.edge s aQ;have hi:=uc p1;have hr:=vf hc.ne hall ((p2 _).1 hi.has);unfold rI;by_cases h0:xi l s=0
   ·rw[if_neg (by simpa using h0)]
    have hz:l.value (s.l.at s.v.sample)=0:=(jf _).1 h0;have hge: ∀t,s.v.has t->0<=l.value (s.l.at t):=fun t ht=>vf hc.ne hall ((p2 t).1 ht);obtain⟨⟨u1,m1,n1⟩,⟨u2,m2,n2⟩⟩:=Mg hi;have g1:=hge _ n1;have g2:=hge _ n2;rw[n8] at hz g1 g2;have hK:s.l.cutK l=0:=by
     rcases dF (s.l.cutK l) with h|h|h
     ·exact h
     ·exfalso
      have:=bj (a:=s.v.sample-u1) (b:=s.l.cutK l) (by grind) h;grind
     ·exfalso
      have:=bj (a:=u2-s.v.sample) (b:= -s.l.cutK l) (by grind) (by grind);grind
    have hz2: ∀t,l.value (s.l.at t)=0:=fun t=>by rw[n8,hK];rw[hK] at hz;grind
    rcases BW hl (hc.ok s aQ) hz2 with h|h
    ·rw[if_pos h.symm];decide
    ·exfalso
     have:=hall q hq;rw[h,my] at this;have:=hq s aQ;grind
   ·rw[if_pos h0]
    have hz:l.value (s.l.at s.v.sample)≠0:=fun e=>h0 ((jf _).2 e);exact(jD _).2 (by grind)
 ·right
  have hall: ∀p,cg c p->l.value p<0:=fun p h=>by
   have:=hoff p h;have: ¬0<l.value p:=fun h'=>hq ⟨p,h,h'⟩;grind
  refine⟨KM l c fun s hs=>?_,hall⟩;obtain⟨p1,p2⟩:=hc.edge s hs;have hr:=vf (m:=l.rev) hc.ne (fun p h=>by rw[my];have:=hall p h;grind) ((p2 _).1 (uc p1).has);rw[my] at hr;constructor
  ·have: ¬0<xi l s:=fun h=>by have:=(jD _).1 h;grind
   omega
  ·rintro rfl
   obtain⟨p,hp⟩:=hc.ne;have:=hall p hp;have:=hp s hs;grind
def Bb{c:bw}{l:ab}(hc:ic c)(hl:l.ok):e7 c l=true↔ ∃p,cg c p/\0<l.value p:=by
 unfold e7
 cases hp:pD c l with
 |some v=>exact⟨fun _=>(G9 hl.ne hp).1,fun _=>J⟩
 |none=>
  simp only[A9,hp,Option.isSome_none,gV,if_false,decide_eq_true_iff];rcases Fv hc hl hp with⟨h1,h2⟩|⟨h1,h2⟩
  ·refine⟨fun _=>?_,fun _=>h1⟩
   obtain⟨p,hp⟩:=hc.ne;exact⟨p,hp,h2 p hp⟩
  ·refine⟨fun h=>absurd h h1,?_⟩
   rintro ⟨p,hp,h⟩;have:=h2 p hp;grind
def yH{c:bw}{l:ab}(hc:ic c)(hl:l.ok)(hb:e7 c l=true):ic (gh c l)/\ ∀p,cg (gh c l) p↔cg c p/\0<l.value p:=by
 unfold gh
 cases hp:pD c l with
 |some v=>exact O3 hc hl hp
 |none=>
  refine⟨hc,fun p=>?_⟩;unfold e7 at hb;simp only[hp,A9,Option.isSome_none,gV,if_false,decide_eq_true_iff] at hb;rcases Fv hc hl hp with⟨h1,h2⟩|⟨h1,h2⟩
  ·exact⟨fun h=>⟨h,h2 p h⟩,fun h=>h.1⟩
  ·exact absurd hb h1
inductive XX (c:bw) (l:ab):Prop
 |left (h1:e7 c l.rev=false) (h: ∀p,cg c p->0<l.value p)
 |right (h1:e7 c l.rev=true) (h2:e7 c l=false) (h: ∀p,cg c p->l.value p<0)
 |both (h1:e7 c l.rev=true) (h2:e7 c l=true) (g1:ic (gh c l)) (g2:ic (gh c l.rev))
   (e1: ∀p,cg (gh c l) p↔cg c p/\0<l.value p) (e2: ∀p,cg (gh c l.rev) p↔cg c p/\l.value p<0)
def Tr.restrict_A{l:ab}{e:bw}(X Y:Tr)(h:e7 e l.rev=false):(Tr.node l X Y).restrict e=X.restrict e:=by
 rw[Tr.restrict,h];rfl
def Tr.restrict_B{l:ab}{e:bw}(X Y:Tr)(h:e7 e l.rev=true)(h2:e7 e l=false):(Tr.node l X Y).restrict e=Y.restrict e:=by
 rw[Tr.restrict,h,h2];rfl
def Tr.restrict_C{l:ab}{e:bw}(X Y:Tr)(h:e7 e l.rev=true)(h2:e7 e l=true):(Tr.node l X Y).restrict e=Tr.joinQ l (X.restrict (gh e l)) (Y.restrict (gh e l.rev)):=by
 rw[Tr.restrict,h,h2];rfl
def oe:List ab->bw->Option bw
 |[],c=>some c
 |l::t,c=>if e7 c l then oe t (gh c l) else none
def MT: ∀{ls:List ab} {c e:bw},ic c->(∀l∈ls,l.ok)->oe ls c=some e->ic e/\ ∀p,cg e p↔cg c p/\ ∀l∈ls,0<l.value p
 |[],c,e,hc,_,h=>by
  obtain rfl:c=e:=by simpa[oe] using h
  exact⟨hc,fun p=>⟨fun h=>⟨h,fun l hl=>absurd hl (by simp)⟩,fun h=>h.1⟩⟩
 |l::t,c,e,hc,hl,h=>by
  have hl':=dQ.1 hl;rw[oe] at h;split at h
  ·rename_i hb
   obtain⟨g1,g2⟩:=yH hc hl'.1 hb;obtain⟨k1,k2⟩:=MT g1 hl'.2 h;refine⟨k1,fun p=>?_⟩;rw[k2,g2,dQ,and_assoc]
  ·exact absurd h (by simp)
def Kz: ∀{ls:List ab} {c:bw},ic c->(∀l∈ls,l.ok)->(∃p,cg c p/\ ∀l∈ls,0<l.value p)-> ∃e,oe ls c=some e
 |[],c,_,_,_=>⟨c,J⟩
 |l::t,c,hc,hl,⟨p,h1,h2⟩=>by
  have hl':=dQ.1 hl;have h2':=dQ.1 h2;have hb:=(Bb hc hl'.1).2 ⟨p,h1,h2'.1⟩;obtain⟨g1,g2⟩:=yH hc hl'.1 hb;rw[oe,if_pos hb];exact Kz g1 hl'.2 ⟨p,(g2 p).2 ⟨h1,h2'.1⟩,h2'.2⟩
def Su{c:bw}(hc:ic c){s:aP}(hs:s∈c){m:ab}(hm:m.ok)(h: ∀p,cg c p->0<m.value p)(hz:m.value (s.l.at s.v.sample)=0):m=s.l:=by
 obtain⟨p1,p2⟩:=hc.edge s hs;have hi:=uc p1;have hge: ∀t,s.v.has t->0<=m.value (s.l.at t):=fun t ht=>vf hc.ne h ((p2 t).1 ht);obtain⟨⟨u1,m1,n1⟩,⟨u2,m2,n2⟩⟩:=Mg hi;have g1:=hge _ n1;have g2:=hge _ n2;rw[n8] at hz g1 g2;have hK:s.l.cutK m=0:=by
  rcases dF (s.l.cutK m) with h|h|h
  ·exact h
  ·exfalso
   have:=bj (a:=s.v.sample-u1) (b:=s.l.cutK m) (by grind) h;grind
  ·exfalso
   have:=bj (a:=u2-s.v.sample) (b:= -s.l.cutK m) (by grind) (by grind);grind
 have hz2: ∀t,m.value (s.l.at t)=0:=fun t=>by rw[n8,hK];rw[hK] at hz;grind
 rcases BW hm (hc.ok s hs) hz2 with h'|h'
 ·exact h'
 ·exfalso
  obtain⟨q,hq⟩:=hc.ne;have:=h q hq;rw[h',my] at this;have:=hq s hs;grind
def ik(l:ab):List ab->aA->Option aA
 |[],v=>some v
 |m::t,v=>if m=l then ik l t v else if l.cutB v m then ik l t (l.cutV v m) else none
def fg(c:List ab)(p:aa):Prop:= ∀m∈c,0<m.value p
def Av(l:ab): ∀(c:List ab) (v w:aA),v.Pos->ik l c v=some w->
  w.Pos/\(∀t,w.ins t↔v.ins t/\ ∀m∈c,m≠l->0<m.value (l.at t))
 |[],v,w,hv,h=>by
  obtain rfl:v=w:=by simpa[ik] using h
  exact⟨hv,fun t=>⟨fun h=>⟨h,fun s hs=>absurd hs (by simp)⟩,fun h=>h.1⟩⟩
 |m::c,v,w,hv,h=>by
  rw[ik] at h;split at h
  ·rename_i hm
   obtain⟨h1,h2⟩:=Av l c _ w hv h;refine⟨h1,fun t=>?_⟩;rw[h2,dQ];exact⟨fun h=>⟨h.1,fun h'=>absurd hm h',h.2⟩,fun h=>⟨h.1,h.2.2⟩⟩
  ·rename_i hm
   split at h
   ·rename_i hb
    obtain⟨h1,h2⟩:=Av l c _ w (v6 hv hb) h;refine⟨h1,fun t=>?_⟩;rw[h2,Mw hb,dQ,and_assoc];exact⟨fun h=>⟨h.1,fun _=>h.2.1,h.2.2⟩,fun h=>⟨h.1,h.2.1 hm,h.2.2⟩⟩
   ·exact absurd h (by simp)
def Bn(l:ab): ∀(c:List ab) (v:aA),v.Pos->ik l c v=none-> ∀t,v.has t-> ¬ ∀m∈c,m≠l->0<m.value (l.at t)
 |[],v,hv,h=>by simp[ik] at h
 |m::c,v,hv,h=>by
  intro t ht hd;have hd':=dQ.1 hd;rw[ik] at h;split at h
  ·exact Bn l c _ hv h t ht hd'.2
  ·rename_i hm
   split at h
   ·rename_i hb
    exact Bn l c _ (v6 hv hb) h t ((yB hb t).2 ⟨ht,bN (hd'.1 hm)⟩) hd'.2
   ·rename_i hb
    have:=Fa hv (by simpa using hb) ht;have:=hd'.1 hm;grind
def sP(c:List ab):Bool:=c.isEmpty||c.any (fun l=>(ik l c aA.all).isSome)
def HC: ∀{ls:List ab} {c e:bw},oe ls c=some e-> ∀s∈e,s.l∈ls\/ ∃s'∈c,s'.l=s.l
 |[],c,e,h,s,hs=>by
  obtain rfl:c=e:=by simpa[oe] using h
  exact .inr ⟨s,hs,J⟩
 |l::t,c,e,h,s,hs=>by
  rw[oe] at h;split at h
  ·rcases HC h s hs with h1|⟨s',h1,h2⟩
   ·exact .inl (aZ _ h1)
   ·unfold gh at h1
    split at h1
    ·rcases ry.1 h1 with rfl|h1
     ·exact .inl (by rw[<-h2];exact aQ)
     ·obtain⟨s1,m1,_,rfl⟩:=rN.1 h1
      exact .inr ⟨s1,m1,h2⟩
    ·exact .inr ⟨s',h1,h2⟩
  ·exact absurd h (by simp)
def SO{c:List ab}(hok: ∀l∈c,l.ok)(hne: ∃p,fg c p): ∃e,oe c []=some e/\ic e/\(∀p,cg e p↔fg c p)/\ ∀s∈e,s.l∈c/\(ik s.l c aA.all).isSome=true:=by
 obtain⟨p,hp⟩:=hne;obtain⟨e,he⟩:=Kz ic.nil hok ⟨p,fun s hs=>absurd hs (by simp),hp⟩;obtain⟨g1,g2⟩:=MT ic.nil hok he;have g3: ∀p,cg e p↔fg c p:=fun p=>by
  rw[g2];exact⟨fun h=>h.2,fun h=>⟨fun s hs=>absurd hs (by simp),h⟩⟩
 refine⟨e,he,g1,g3,fun s hs=>?_⟩;have hm:s.l∈c:=by
  rcases HC he s hs with h|⟨_,h,_⟩
  ·exact h
  ·exact absurd h (by simp)
 refine⟨hm,?_⟩
 cases hp:ik s.l c aA.all with
 |some w=>rfl
 |none=>
  exfalso;obtain⟨p1,p2⟩:=g1.edge s hs;have hC:=(p2 s.v.sample).1 (uc p1).has;refine Bn s.l c _ uV hp s.v.sample (Ev _) fun m hmc hne=>?_;have hall: ∀p,cg e p->0<m.value p:=fun p hp=>(g3 p).1 hp m hmc;have h0:=vf g1.ne hall hC;have h1:m.value (s.l.at s.v.sample)≠0:=fun hz=>hne (Su g1 hs (hok m hmc) hall hz);grind
def Or{c:List ab}(hok: ∀l∈c,l.ok):sP c=true↔ ∃p,fg c p:=by
 unfold sP;rw[fR,List.isEmpty_iff,jQ];constructor
 ·rintro (rfl|⟨l,hl,h⟩)
  ·exact⟨⟨0,0⟩,fun m hm=>absurd hm (by simp)⟩
  ·obtain⟨w,hw⟩:=Option.isSome_iff_exists.1 h
   obtain⟨w1,w2⟩:=Av l c _ w uV hw;have hi:=((w2 w.sample).1 (uc w1)).2;have h0:=p6 (hok l hl).ne w.sample;have hd:cg ((c.filter (fun m=>decide (m≠l))).map (fun m=>(⟨m,aA.all⟩:aP))) (l.at w.sample):=by
    intro s hs;obtain⟨m,hm,rfl⟩:=bK.1 hs;rw[iK,decide_eq_true_iff] at hm;exact hi m hm.1 hm.2
   obtain⟨e,he,ho⟩:=hd.open l.nor;refine⟨aG (l.at w.sample) l.nor e,fun m hm=>?_⟩;by_cases hml:m=l
   ·subst hml
    rw[io,h0];have:=bj he (qk (hok m hl).ne);grind
   ·exact ho e (bN he) dJ ⟨m,aA.all⟩ (bK.2 ⟨m,iK.2 ⟨hm,by simpa using hml⟩,J⟩)
 ·intro hne
  obtain⟨e,h1,h2,h3,h4⟩:=SO hok hne
  cases c with
  |nil=>exact .inl J
  |cons l c=>
   right
   cases e with
   |nil=>
    exfalso;have:=(h3 (l.at 0)).1 (fun s hs=>absurd hs (by simp)) l aQ;rw[p6 (hok l aQ).ne] at this;exact absurd this (by decide)
   |cons s e=>
    obtain⟨a,b⟩:=h4 s aQ;exact⟨s.l,a,b⟩
def Da(out:List ab)(l:ab):Nat:=(out.takeWhile (fun x=>decide (cA x.dir l.dir<0))).length
def Wc(out:List ab)(l:ab):List ab:=if out[Da out l]? =some l then out else out.take (Da out l)++l::out.drop (Da out l)
def BC(c:List ab):List ab->List ab->List ab
 |[],out=>out
 |l::t,out=>BC c t (if(ik l c aA.all).isSome then Wc out l else out)
def p9(c:List ab):List ab:=BC c c []
def Ak(c:List ab)(l:ab):Int:=if sP (c++[l])&&sP (c++[l.rev]) then 0 else if sP (c++[l]) then 1 else-1
def Tr.restrictL:Tr->List ab->Tr
 | .leaf b,_=> .leaf b
 | .node l x y,c=>if Ak c l=1 then x.restrictL c else if Ak c l= -1 then y.restrictL c else joinQ l (x.restrictL (p9 (c++[l]))) (y.restrictL (p9 (c++[l.rev])))
def DK{c:List ab}{l:ab}{p:aa}:fg (c++[l]) p↔fg c p/\0<l.value p:=by
 unfold fg;rw[List.forall_mem_append];simp
def Mu{c:List ab}{l:ab}(hok: ∀m∈c,m.ok)(hl:l.ok): ∀m∈c++[l],m.ok:=by
 rw[List.forall_mem_append];exact⟨hok,by simpa using hl⟩
end Go.Sx
end
section
namespace Go.Sx
open Go Go.Proofs Tryz
variable {GB:Gh}
structure yW where
 lo:RV
 hi:RV
 nl:Bool
 nh:Bool
def yW.v(z:yW):Value:= .agg ⟨[.int .i64 z.lo.n, .int .i64 z.lo.d, .pointer z.lo.p, .int .i64 z.hi.n, .int .i64 z.hi.d, .pointer z.hi.p, .bool z.nl, .bool z.nh]⟩
section
variable {P:Program} {C:az} {n:Nat} {fr:Fr} {own own' own1:List aq} {G:Gh} {Φ:Act->World->Prop}
variable {dst:Option Nat} {t t' ty':TypeId} {pos:String} {af:Array Edge} {gd:Option (Nat×Bool)} {x y:Operand} {e s by_:Nat}
end
structure Vn (k:Nat) (G:Gh) (z:yW) (v:aA):Prop where
 lo:sF k G z.lo v.lo
 hi:sF k G z.hi v.hi
 nl:z.nl=v.nl
 nh:z.nh=v.nh
def LX:List Int->Int
 |[]=>0
 |x::t=>if x≠0 then x else LX t
def Yj(l m:ab):Int:=LX [ce l.a m.a,ce l.b m.b,ce l.c m.c]
structure w7 where
 l:LV
 v:yW
def w7.val(z:w7):Value:= .agg ⟨[.int .i64 z.l.a.n, .int .i64 z.l.a.d, .pointer z.l.a.p, .int .i64 z.l.b.n, .int .i64 z.l.b.d, .pointer z.l.b.p, .int .i64 z.l.c.n, .int .i64 z.l.c.d, .pointer z.l.c.p, .int .i64 z.v.lo.n, .int .i64 z.v.lo.d, .pointer z.v.lo.p, .int .i64 z.v.hi.n, .int .i64 z.v.hi.d, .pointer z.v.hi.p, .bool z.v.nl, .bool z.v.nh]⟩
structure Vp (k:Nat) (G:Gh) (z:w7) (f:aP):Prop where
 l:EU k G z.l f.l
 v:Vn (25*k+6) G z.v f.v
inductive qt {α β:Type} (R:α->β->Prop):List α->List β->Prop
 |nil:qt R [] []
 |cons {a b us bs} (h:R a b) (t:qt R us bs):qt R (a::us) (b::bs)
structure Pc (k:Nat) (G:Gh) (x:SV) (c:bw):Prop where
 ex: ∃fs:List w7,er G 17 x (fs.map w7.val)/\qt (Vp k G) fs c

section
variable {P:Program} {C:az} {n:Nat} {fr:Fr} {own own':List aq} {G:Gh} {Φ:Act->World->Prop}
variable {dst:Option Nat} {t t' ty':TypeId} {pos:String} {af:Array Edge} {gd:Option (Nat×Bool)} {x y:Operand} {e s by_:Nat}
end

section
variable {P:Program} {C:az} {n:Nat} {fr:Fr} {own own':List aq} {G:Gh} {Φ:Act->World->Prop}
variable {dst:Option Nat} {t t' ty':TypeId} {pos:String} {af:Array Edge} {gd:Option (Nat×Bool)} {x y:Operand} {e s by_:Nat}
end

def DA(k:Nat)(G:Gh):Tr->Option Addr->Prop
 | .leaf b,p=> ∃n,p=some ⟨n,0,none⟩/\G n=some [.int .i64 0, .int .i64 0, .pointer none, .int .i64 0, .int .i64 0, .pointer none, .int .i64 0, .int .i64 0, .pointer none, .pointer none, .pointer none, .bool b]
 | .node l x y,p=> ∃(n:Nat) (z:LV) (q r:Option Addr),p=some ⟨n,0,none⟩/\G n=some [.int .i64 z.a.n, .int .i64 z.a.d, .pointer z.a.p, .int .i64 z.b.n, .int .i64 z.b.d, .pointer z.b.p, .int .i64 z.c.n, .int .i64 z.c.d, .pointer z.c.p, .pointer q, .pointer r, .bool false]/\EU k G z l/\DA k G x q/\DA k G y r
structure ND where
 a:IV
 b:IV
 c:IV
 l:Int
 r:Int
def ND.val(z:ND):Value:= .agg ⟨[.bool z.a.neg, .slice z.a.a.a z.a.a.n z.a.a.c, .bool z.b.neg, .slice z.b.a.a z.b.a.n z.b.a.c, .bool z.c.neg, .slice z.c.a.a z.c.a.n z.c.a.c, .int .i64 z.l, .int .i64 z.r]⟩
structure Rk (k:Nat) (G:Gh) (z:ND) (n:NQ):Prop where
 a:sY k G z.a n.l.a
 b:sY k G z.b n.l.b
 c:sY k G z.c n.l.c
 l:z.l=n.a
 r:z.r=n.b
structure Zq (k:Nat) (G:Gh) (x:SV) (ns:List NQ):Prop where
 ex: ∃zs:List ND,er G 8 x (zs.map ND.val)/\qt (Rk k G) zs ns
def aEx(n i:Nat):List Value:=(List.range n).map fun j=> .bool (decide (j<i))


structure wA where
 x:SV
 p:Option Addr
def wA.val(z:wA):Value:= .agg ⟨[.slice z.x.a z.x.n z.x.c, .pointer z.p]⟩
structure VT (k:Nat) (G:Gh) (z:wA) (b:Bool×bw):Prop where
 c:Pc k G z.x b.2
 t:DA k G (.leaf b.1) z.p
structure aGf (k:Nat) (G:Gh) (w:SV) (ps:List (Bool×bw)):Prop where
 ex: ∃zs:List wA,er G 2 w (zs.map wA.val)/\qt (VT k G) zs ps
structure LI where
 a:IV
 b:IV
 c:IV
def LI.val(z:LI):Value:= .agg ⟨[.bool z.a.neg, .slice z.a.a.a z.a.a.n z.a.a.c, .bool z.b.neg, .slice z.b.a.a z.b.a.n z.b.a.c, .bool z.c.neg, .slice z.c.a.a z.c.a.n z.c.a.c]⟩
structure P' (k:Nat) (G:Gh) (z:LI) (l:ab):Prop where
 a:sY k G z.a l.a
 b:sY k G z.b l.b
 c:sY k G z.c l.c
structure Yr (k:Nat) (G:Gh) (x:SV) (ls:List ab):Prop where
 ex: ∃zs:List LI,er G 6 x (zs.map LI.val)/\qt (P' k G) zs ls
structure Zt (k:Nat) (G:Gh) (x:SV) (ls:List ab):Prop where
 ex: ∃zs:List LV,er G 9 x (zs.map LV.v)/\qt (EU k G) zs ls
def sI{a b:Int}(h:a=b):eI a=eI b:=by rw[h]
def AN(z:Int):eQ (z:Rat)= .ag [.v (.bool (decide (z<0))),dN z.natAbs, .sl []]:=by unfold eQ;rw[oN,pQ];rfl
def zh{a:Rat}(h:a.den=1):((a.num:Int):Rat)=a:=Rat.ext (oN _) (by rw[pQ,h])
def Xo{a b:Rat}(ha:a.den=1)(hb:b.den=1):a+b=((a.num+b.num:Int):Rat):=by
 rw[nW,zh ha,zh hb]
def Wb{a b:Rat}(ha:a.den=1)(hb:b.den=1):a*b=((a.num*b.num:Int):Rat):=by
 rw[cY,zh ha,zh hb]
def uA(n:Nat)(h:0<n):(if n=1 then [] else(dg n).map dU).length=0↔n=1:=by
 by_cases q:n=1
 ·simp[q]
 ·rw[if_neg q,aK,ve];omega
def Mh{n:Nat}(h:n≠1):dD n=dN n:=by unfold dD;rw[if_neg h];rfl
def Cd{g:Nat}:(fy g 1=0)↔g=1:=by
 unfold fy;constructor
 ·intro h;split at h
  ·exact absurd h (by decide)
  ·split at h
   ·assumption
   ·exact absurd h (by decide)
 ·rintro rfl;rfl
def Jn{x:Int}{d:Nat}(hd:0<d):zv (decide (x<0)) (x.natAbs/Nat.gcd x.natAbs d)=(mkRat x d).num:=by
 rw[Rat.num_mkRat,if_neg (by omega),gR];have hg:0<Nat.gcd d x.natAbs:=kM _ hd;obtain⟨c,hc⟩:Nat.gcd d x.natAbs∣x.natAbs:=kJ _ _;generalize Nat.gcd d x.natAbs=g at*;rw[hc,pW _ hg];unfold zv;by_cases q:x<0
 ·rw[if_pos (by simpa using q),show x=(g:Int)*(-(c:Int)) by rw[Int.mul_neg,<-iM];omega,Int.mul_ediv_cancel_left _ (by omega)]
 ·rw[if_neg (by simpa using q),show x=(g:Int)*(c:Int) by rw[<-iM];omega,Int.mul_ediv_cancel_left _ (by omega)]
def Im{x:Int}{d:Nat}(hd:0<d):d/Nat.gcd x.natAbs d=(mkRat x d).den:=by
 rw[Rat.den_mkRat,if_neg (by omega),gR]
def Wy{x:Int}{d:Nat}(hd:0<d)(h:Nat.gcd x.natAbs d=1):(mkRat x d).num=x/\(mkRat x d).den=d:=by
 rw[<-Jn hd,<-Im hd,h,rX,rX];exact⟨kl x,J⟩
instance BI.zv (neg:Bool) (m i:Nat) [h:BN m i]:BI (zv neg m) i:=⟨by rw[pg];exact h.h⟩
section
variable {GB:Gh} {C:az} {n:Nat} {Q0:Exit->Act->World->Prop} {fr fr':au} {own own':aB} {cf cf':Cf} {vc:List Prop}
def JX(fr:au)(cf:Cf):Option Int:=match bH fr cf with
 |some ⟨_, .convert t t' x,_,_,_,_⟩=>match cG tt t,cG tt t' with
  |some ⟨.int .i64,_,_,_⟩,some ⟨.int .u64,_,_,_⟩=>match aE (bm fr cf) x with
   |some (.d (.v (.int .i64 p)))=>some p
   |_=>none
  |_,_=>none
 |_=>none
def Ue[fu:Fu]{p:Int}(q:Int)(h:JX fr cf=some p)(e:p%18446744073709551616=q)(hgo:cv tt n fu.n fr own cf (.d (.v (.int .u64 q))) [] []=⟨vc,fr',own',cf'⟩)(k:ao prog GB C n Q0 fr' own' cf')
  (hv:ah vc:=by first|exact trivial|(simp only[ah];omega)):ao prog GB C n Q0 fr own cf:=by
 unfold JX at h;split at h<;>try (cases h;done)
 rename_i hh;split at h<;>try (cases h;done)
 rename_i hT hT';split at h<;>cases h;rename_i hx;have:=t8 (d7 _ _ hT) J;have:=t8 (d7 _ _ hT') J;refine us hh (.x1 hx fun ρ G ov a w y _ r h1 h2=>?_) hgo hv k;rw[cI] at h2;subst h2;refine⟨_,cI.2 J,?_⟩;rw[<-e,<-lv];exact AI h1
def IH(fr:au)(cf:Cf):Option Int:=match bH fr cf with
 |some ⟨_, .unOp .neg _ x,_,_,_,_⟩=>match aE (bm fr cf) x with
  |some (.d (.v (.int .u64 p)))=>some p
  |_=>none
 |_=>none
def RE[fu:Fu]{p:Int}(q:Int)(h:IH fr cf=some p)(e:(0-p)%18446744073709551616=q)(hgo:cv tt n fu.n fr own cf (.d (.v (.int .u64 q))) [] []=⟨vc,fr',own',cf'⟩)(k:ao prog GB C n Q0 fr' own' cf')
  (hv:ah vc:=by first|exact trivial|(simp only[ah];omega)):ao prog GB C n Q0 fr own cf:=by
 unfold IH at h;split at h<;>try (cases h;done)
 rename_i hh;split at h<;>cases h;rename_i hx;refine us hh (.x1 hx fun ρ G ov a w y _ r h1 h2=>?_) hgo hv k;rw[cI] at h2;subst h2;refine⟨_,cI.2 J,?_⟩;rw[<-e,<-lv];exact Do h1
end
def J2{n:Int}(h0: -4611686018427387904<=n)(h1:n<=4611686018427387904):PF GB prog 85 [.v (.int .i64 n)] (eI n):=by
 refine fn func85 J J ntmps85 J J (fun C=>?_);refine br (fu1:=⟨3⟩) (fu2:=⟨6⟩) J J J (fun hc4=>?_) (fun hc4=>?_)
 .
  refine Ue (fu:=⟨0⟩) (18446744073709551616+n) J (by omega) J<|RE (n.natAbs:Nat) J (by omega) J<|cl J (qB (u:=n.natAbs) (by omega)) J<|?_;refine cl J nf J<|?_;exact rz J (sI (by unfold zv;rw[if_pos J];omega))
 .
  refine ak 11 (.d (.v (.int .u64 (n.natAbs:Nat)))) J (by show FX.d (.v (.int _ _))= .d (.v (.int _ _));congr 3;omega) ?_;refine gx J<|cl J (qB (u:=n.natAbs) (by omega)) J<|cl J nf J<|?_;exact rz J (sI (by unfold zv;rw[if_neg (by decide)];omega))
def Ql{z:Int}:PF GB prog 107 [eI z] (vI z.sign):=by
 have hl:=eB (dg z.natAbs);have hz:= @ve z.natAbs;refine fn func107 J J ntmps107 J J (fun C=>?_);refine br J J J (fun hc6=>?_) (fun hc6=>?_)
 .
  exact rz J (by show DV.v (.int _ 0)=DV.v (.int _ _);rw[show z=0 by omega];rfl)
 .
  refine bd J J J (fun hc8=>?_) (fun hc8=>?_)
  .
   exact rz J (by show DV.v (.int _ (-1))=DV.v (.int _ _);rw[dV (by omega)])
  .
   exact rz J (by show DV.v (.int _ 1)=DV.v (.int _ _);rw[dT (by omega)])
def Ti{z:Int}:PF GB prog 129 [eI z] (eI (-z)):=by
 refine fn func129 J J ntmps129 J J (fun C=>?_);refine cl J nf J<|?_;exact rz J (sI (QV z))
def Oe{a b:Int}(h:decide (a<0)=decide (b<0)):zv (decide (a<0)) (a.natAbs+b.natAbs)=a+b:=by
 unfold zv;have h':a<0↔b<0:=by simpa using h
 by_cases q:a<0
 ·have:=h'.1 q
  simp[q];omega
 ·have: ¬b<0:=fun w=>q (h'.2 w)
  simp[q];omega
def Xw{a b:Int}(h: ¬decide (a<0)=decide (b<0))(k:a.natAbs<b.natAbs):zv (decide (b<0)) (b.natAbs-a.natAbs)=a+b:=by
 unfold zv;have h': ¬(a<0↔b<0):=by simpa using h
 by_cases q:b<0
 ·have: ¬a<0:=fun w=>h' ⟨fun _=>q,fun _=>w⟩
  simp[q];omega
 ·have:a<0:=Int.not_le.1 fun w=>h' ⟨fun e=>by omega,fun e=>absurd e q⟩
  simp[q];omega
def Sd{a b:Int}(h: ¬decide (a<0)=decide (b<0))(k:b.natAbs<=a.natAbs):zv (decide (a<0)) (a.natAbs-b.natAbs)=a+b:=by
 unfold zv;have h': ¬(a<0↔b<0):=by simpa using h
 by_cases q:a<0
 ·have: ¬b<0:=fun w=>h' ⟨fun _=>w,fun _=>q⟩
  simp[q];omega
 ·have:b<0:=Int.not_le.1 fun w=>h' ⟨fun e=>absurd e q,fun e=>by omega⟩
  simp[q];omega
def CN{a b:Int}{i j:Nat}[ha:BI a i][hb:BI b j](hi:i<=400000000:=by decide)(hj:j<=400000000:=by decide):PF GB prog 127 [eI a,eI b] (eI (a+b)):=by
 have hba:=mi ha.h;have hbb:=mi hb.h;refine fn (fu:=⟨15⟩) func127 J J ntmps127 J J (fun C=>?_);refine ak 9 (.d (.v (.bool (decide (decide (a<0)=decide (b<0)))))) J (by congr 2) ?_;refine gx J<|?_;refine bd J J J (fun hc9=>?_) (fun hc9=>?_)
 .
  refine cl J (Vw (by omega) (by omega)) J<|cl J nf J<|?_;exact rz J (sI (Oe hc9))
 .
  refine cl J (wT (by omega) (by omega)) J<|?_;refine br J J J (fun hc23=>?_) (fun hc23=>?_)
  .
   refine cl J (D5 (by have:=u'.1 hc23;omega) (by omega)) J<|cl J nf J<|?_;exact rz J (sI (Xw hc9 (u'.1 hc23)))
  .
   refine cl J (D5 (qJ fun q=>hc23 (u'.2 q)) (by omega)) J<|cl J nf J<|?_;exact rz J (sI (Sd hc9 (qJ fun q=>hc23 (u'.2 q))))
def sX{a b:Int}{i j:Nat}[ha:BI a i][hb:BI b j](hi:i<=400000000:=by decide)(hj:j<=400000000:=by decide):PF GB prog 128 [eI a,eI b] (eI (a*b)):=by
 refine fn func128 J J ntmps128 J J (fun C=>?_);refine cl J (tu (by omega) (by omega)) J<|cl J nf J<|?_;exact rz J (sI (Qu a b))
def l5{q:Rat}:PF GB prog 95 [eQ q] (dN q.den):=by
 refine fn func95 J J ntmps95 J J (fun C=>?_);refine br J J J (fun hc6=>?_) (fun hc6=>?_)
 .
  refine cl J D6 J<|?_;exact rz J (by rw[(uA q.den (ly q)).1 (by omega)];rfl)
 .
  exact rz J (by exact Mh (fun e=>hc6 (by exact congrArg Int.ofNat ((uA q.den (ly q)).2 e))))
def Hj{n k:Nat}[h:BN n k](hk:k<=500000000):(dg n).length<=100000000:=by have:=mi h.h;omega
def wR{x:Int}{d i j:Nat}[hx:BI x i][hd:BN d j](hd0:0<d)(hi:i<=200000000:=by decide)(hj:j<=200000000:=by decide):PF GB prog 84 [eI x,dN d] (eQ (mkRat x d)):=by
 obtain⟨q,hq⟩: ∃q,q=mkRat x d:=⟨_,rfl⟩;obtain⟨g,hg⟩: ∃g,g=Nat.gcd x.natAbs d:=⟨_,rfl⟩;have hg0:0<g:=hg▸mY _ hd0;haveI hgB:BN g (i+j):=hg▸inferInstance;have hg1:(dg g).length<=100000000:=Hj (k:=i+j) (by omega);have ho1:(dg 1).length<=100000000:=by rw[AD];decide
 haveI hqB:BQ q (i+j):=hq▸sV hd0 (dZ hx.h (bQ (by decide) (by omega))) (dZ hd.h (bQ (by decide) (by omega)));refine fn func84 J J ntmps84 J J (fun C=>?_);refine cl (fu:=⟨0⟩) J (S9 (by omega) (by omega)) J<|?_;refine ak 11 (.d (dN g)) J (by rw[hg]) ?_;refine gx (fu:=⟨4⟩) J<|?_;refine mg (fu:=⟨1⟩) (X:=Unit) (fun _=>[(1, .d (dN q.den)),(2, .ov 2 0),(4, .ov 4 0)]) (fun _=>[(4,some (.o 34 [.ff, .nl, .nl] true)),(2,some (.o 32 [.d (.v (.bool (decide (q.num<0)))), .d (dN q.num.natAbs)] true))]) (fun _=>True) [1,2,4] [4,2] rfl ?_ (fun _=>J) (fun _ hm=>?_)
 .
  refine gx J<|cl J D6 J<|cl J (wT hg1 ho1) J<|?_;refine br J J J (fun hc15=>?_) (fun hc15=>?_)
  .
   refine cl J (D8 hg0 (by omega) (by omega)) J<|cl (fu:=⟨0⟩) J nf J<|?_;refine ak 26 (.d (eI q.num)) J (by show FX.d (eI (zv _ _))=_;rw[hg,Jn hd0,hq]) ?_;refine gx J<|cl (fu:=⟨2⟩) J (D8 hg0 (by omega) (by omega)) J<|?_;refine ak 31 (.d (dN q.den)) J (by rw[hg,Im hd0,hq]) ?_;refine gx J<|?_;exact at_ () trivial
  .
   have hm:=Wy (x:=x) hd0 (by rw[<-hg];exact Cd.1 (Decidable.not_not.1 hc15));rw[<-hq] at hm;refine ak 1 (.d (dN q.den)) J (by rw[hm.2]) ?_;exact at_ () trivial (hO:=⟨J,by rw[hm.1];rfl,trivial⟩)
 .
  refine mg (X:=Unit) (fun _=>[(1, .d (dD q.den)),(2, .ov 2 0),(4, .ov 4 0)]) (fun _=>[(4,some (.o 34 [.ff, .nl, .nl] true)),(2,some (.o 32 [.d (.v (.bool (decide (q.num<0)))), .d (dN q.num.natAbs)] true))]) (fun _=>True) [1,2,4] [4,2] rfl ?_ (fun _=>J) (fun _ hm=>?_)
  .
   refine gx J<|cl J D6 J<|cl J (wT (Hj (k:=i+j) (by omega)) ho1) J<|?_;refine br J J J (fun hc36=>?_) (fun hc36=>?_)
   .
    refine W1 1 J ?_;refine ak 1 (.d (dD q.den)) J (by rw[Cd.1 hc36];rfl) ?_;exact at_ () trivial
   .
    refine ak 1 (.d (dD q.den)) J (by rw[Mh (fun e=>hc36 (Cd.2 e))]) ?_;exact at_ () trivial
  .
   exact rz J (by rw[<-hq];rfl)
end Go.Sx
end
