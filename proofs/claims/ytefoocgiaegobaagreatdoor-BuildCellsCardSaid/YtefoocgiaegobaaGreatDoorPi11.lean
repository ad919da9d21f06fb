import Derived.Test.YtefoocgiaegobaaGreatDoorPi10
set_option linter.all false
set_option maxHeartbeats 4000000
set_option maxRecDepth 100000
section
namespace Go.Sx
open Go Go.Proofs Tryz
variable {GB:Gh}
def tE{a k:Nat}(h:a<2^k)(hk:k<=1000000000):(dg a).length<=100000000:=by have:=l9 h;omega
def cp(a:Nat):dv (dg a)=a:=(eo a).1
def lA(a:Nat):bm (dg a):=(eo a).2.1
def fm(ds:List Nat):(ds.map dU).length=ds.length:=aJ ..
def pp{ds:List Nat}{n:Nat}(h:ds.length<=n):ds.take n=ds:=bZ h
def ve{ds:List Nat}{i:Nat}(h:ds.length<=i):ds.getD i 0=0:=by
 rw[aK,dW h];rfl
def r4{ds:List Nat}{n:Nat}(h:bm ds)(e:dv ds=n):f5 (trimD ds)=dN n:=by rw[aHh h,e]
def EO{a b:Nat}(h:a<b):gw a b= -1:=by unfold gw;rw[if_pos h]
def Fi{a b:Nat}(h:b<a):gw a b=1:=by unfold gw;rw[if_neg (by omega),if_neg (by omega)]
def R2{a b:Nat}(h:a=b):gw a b=0:=by unfold gw;rw[if_neg (by omega),if_pos h]
def TV(m n:Nat):Int.sign ((m:Int)-n)=gw m n:=by
 unfold gw;split
 ·exact fQ (by omega)
 ·split
  ·rw[show(m:Int)-n=0 by omega];rfl
  ·exact fR (by omega)
def ayr{a b:Nat}(h:(dg a).length≠(dg b).length):gw (dg a).length (dg b).length=gw a b:=by
 rcases Nat.lt_or_gt_of_ne h with h|h
 ·have:=ta (lA a) (eo b).2.2 h
  rw[cp,cp] at this;rw[EO h,EO this]
 ·have:=ta (lA b) (eo a).2.2 h
  rw[cp,cp] at this;rw[Fi h,Fi this]
def GR{a b i:Nat}(hl:(dg a).length=(dg b).length)(hi:i<(dg a).length)(hs:(dg a).drop (i+1)=(dg b).drop (i+1)):
  ((dg a).getD i 0<(dg b).getD i 0->a<b)/\((dg b).getD i 0<(dg a).getD i 0->b<a)/\((dg a).getD i 0=(dg b).getD i 0->(dg a).drop i=(dg b).drop i):=by
 refine⟨fun h=>?_,fun h=>?_,fun h=>?_⟩
 ·have:=AY (lA a) (lA b) i hi (by omega) hl hs h
  rwa [cp,cp] at this
 ·have:=AY (lA b) (lA a) i (by omega) hi hl.symm hs.symm h
  rwa [cp,cp] at this
 ·rw[aM hi,aM (by omega:i<(dg b).length),hs]
  rw[aK,aK,aX hi,aX (by omega:i<(dg b).length)] at h;simp only[jS] at h;rw[h]
def Xu{z:Int}:PF GB prog 283 [vI z] (vI z.sign):=by
 refine fn func283 J J ntmps283 J J (fun C=>?_);refine br J J J (fun hc4=>?_) (fun hc4=>?_)
 .
  exact rz J (by show DV.v (.int _ 1)=DV.v (.int _ _);rw[fR (by omega)])
 .
  refine br J J J (fun hc6=>?_) (fun hc6=>?_)
  .
   exact rz J (by show DV.v (.int _ (-1))=DV.v (.int _ _);rw[fQ (by omega)])
  .
   exact rz J (by show DV.v (.int _ 0)=DV.v (.int _ _);rw[show z=0 by omega];rfl)
def R8(u:Nat):dv [u%4294967296,u/4294967296]=u:=by simp only[dv];omega
def V'{u:Nat}(h:u<18446744073709551616):bm [u%4294967296,u/4294967296]:= .cons (by omega) (.cons (by omega) .nil)
def Gp(u:Nat):(u:Int).fdiv (2^min (32:Int).toNat IntKind.u64.bits)=((u/4294967296:Nat):Int):=by
 rw[show(2:Int)^min (32:Int).toNat IntKind.u64.bits=((4294967296:Nat):Int) from J,iX _ (by decide)];rfl
def sH{u:Nat}(hu:u<18446744073709551616):PF GB prog 158 [.v (.int .u64 (u:Int))] (dN u):=by
 refine fn (fu:=⟨11⟩) (hv:=by simp only[ah];exact(by decide)) func158 J J ntmps158 J J (fun C=>?_);refine av 6 (.d (.v (.int .u64 (u/4294967296:Nat)))) J (by rw[Gp]) ?_;refine gx J<|rf (fu:=⟨0⟩) J J<|?_;refine av 8 (.d (f5 [u%4294967296,u/4294967296])) J (by show FX.d (.sl [.v (.int _ _), .v (.int _ _)])= .d (.sl [.v (.int _ _), .v (.int _ _)]);congr 6;omega) ?_;refine gx J<|cl J (tg (ds:=[u%4294967296,u/4294967296]) (by simp)) J<|?_;exact rz J (r4 (V' hu) (R8 u))
def FU:PF GB prog 188 [] (dN 1):=by
 refine fn func188 J J ntmps188 J J (fun C=>?_);refine rf J J<|?_;exact rz J (by unfold dN;rw[zq];rfl)
def zc{a b:Nat}(ha:(dg a).length<=100000000)(hb:(dg b).length<=100000000):PF GB prog 187 [dN a,dN b] (vI (gw a b)):=by
 have hla:=fm (dg a);have hlb:=fm (dg b);refine fn func187 J J ntmps187 J J (fun C=>?_);refine br J J J (fun hc10=>?_) (fun hc10=>?_)
 .
  refine cl J Xu J<|?_;exact rz J (by show DV.v (.int _ _)=DV.v (.int _ _);rw[hla,hlb,TV,ayr (by omega)])
 .
  have hl:(dg a).length=(dg b).length:=by omega
  refine lp (X:=Nat) (fun k=>[(0, .d (dN a)),(1, .d (dN b)),(5, .d (vI ((k:Nat)-1)))]) (fun k=>[]) (fun k=>k<=(dg a).length/\(dg a).drop k=(dg b).drop k) (fun k=>k) (dg a).length J ⟨aN _,by rw[jZ,hl,jZ]⟩ (fun _=>J) (fun k hk=>?_);obtain⟨h1,h2⟩:=hk;refine br J J J (fun hc21=>?_) (fun hc21=>?_)
  .
   obtain⟨k,rfl⟩: ∃m,k=m+1:=⟨k-1,by omega⟩;refine ix _ J (gq (k:=k) (by omega) (by omega)) J<|ix _ J (gq (k:=k) (by omega) (by omega)) J<|?_;refine br J J J (fun hc32=>?_) (fun hc32=>?_)
   .
    exact rz J (by show DV.v (.int _ 1)=DV.v (.int _ _);rw[Fi ((GR hl (by omega) h2).2.1 (by omega))])
   .
    refine ix _ J (gq (k:=k) (by omega) (by omega)) J<|ix _ J (gq (k:=k) (by omega) (by omega)) J<|?_;refine br J J J (fun hc41=>?_) (fun hc41=>?_)
    .
     exact rz J (by show DV.v (.int _ (-1))=DV.v (.int _ _);rw[EO ((GR hl (by omega) h2).1 (by omega))])
    .
     exact at_ k ⟨⟨by omega,(GR (i:=k) hl (by omega) h2).2.2 (by omega)⟩,(by omega)⟩
  .
   exact rz rfl (by show DV.v (.int _ 0)=DV.v (.int _ _);rw[R2];obtain rfl:k=0:=(by omega);rw[jJ,jJ] at h2;rw[<-cp a,h2,cp])
def Yz{A B W:List Nat}{i c:Nat}(hi:i<W.length)(h:dv (W.take i)+4294967296^i*c=dv (A.take i)+dv (B.take i)):
  dv ((W.set i ((A.getD i 0+B.getD i 0+c)%4294967296)).take (i+1))+4294967296^(i+1)*((A.getD i 0+B.getD i 0+c)/4294967296)=dv (A.take (i+1))+dv (B.take (i+1)):=by
 rw[qf hi,jl A,jl B,gX,show A.getD i 0+B.getD i 0+c=c+A.getD i 0+B.getD i 0 by omega];exact Pi h
def YB{a b n:Nat}{W:List Nat}{c:Nat}(hn:n=max (dg a).length (dg b).length)(hl:W.length=n+1)(h:dv (W.take n)+4294967296^n*c=dv ((dg a).take n)+dv ((dg b).take n)):dv (W.set n c)=a+b:=by
 have e:=qf (ws:=W) (k:=n) (d:=c) (by omega);rw[pp (by rw[aT];omega)] at e;rw[e,h,pp (by omega),pp (by omega),cp,cp]
def UI{a b ia ib:Nat}[ha:BN a ia][hb:BN b ib](hi:ia<=1000000000:=by decide)(hj:ib<=1000000000:=by decide):PF GB prog 336 [dN a,dN b] (dN (a+b)):=by
 have hla:=fm (dg a);have hlb:=fm (dg b);have hba:=tE ha.h hi;have hbb:=tE hb.h hj;refine fn (fu:=⟨12⟩) func336 J J ntmps336 J J (fun C=>?_);obtain⟨n,hn⟩: ∃n,n=max (dg a).length (dg b).length:=⟨_,rfl⟩;refine av 15 (.d (vI (n:Nat))) J (by show FX.d (.v (.int _ _))= .d (.v (.int _ _));congr 3;split<;>omega) ?_;refine gx J<|mk ((List.replicate (n+1) 0).map dU) J J (by rw[<-vC];rfl) J<|?_;refine lp (X:=List Nat×Nat×Nat) (fun⟨W,c,i⟩=>[(0, .d (dN a)),(1, .d (dN b)),(5, .d (vI (n:Nat))),(6, .rw 18),(7, .d (.v (.int .u32 (c:Nat)))),(8, .d (vI (i:Nat)))]) (fun⟨W,c,i⟩=>[(18,some (.b 366 1 (W.map dU) true))]) (fun⟨W,c,i⟩=>W.length=n+1/\bm W/\c<=1/\i<=n/\dv (W.take i)+4294967296^i*c=dv ((dg a).take i)+dv ((dg b).take i)) (fun⟨W,c,i⟩=>n-i) ⟨List.replicate (n+1) 0,0,0⟩ J ⟨by simp, .replicate _,by omega,by omega,by simp[dv]⟩ (fun _=>J) (fun⟨W,c,i⟩ hk=>?_);dsimp only at hk⊢;obtain⟨h1,h2,h3,h4,h5⟩:=hk;have hlw:=fm W;have hda:=ip a i;have hdb:=ip b i;refine br (fu1:=⟨11⟩) J J J (fun hc21=>?_) (fun hc21=>?_)
 .
  refine mg (fu:=⟨1⟩) (X:=Unit) (fun _=>[(0, .d (dN a)),(1, .d (dN b)),(5, .d (vI (n:Nat))),(6, .rw 18),(7, .d (.v (.int .u32 (c:Nat)))),(8, .d (vI (i:Nat))),(9, .d (dU ((dg a).getD i 0))),(10, .d (.v (.int .u32 0)))]) (fun _=>[(18,some (.b 366 1 (W.map dU) true))]) (fun _=>True) [0,1,5,6,7,8,9,10] [18] rfl ?_ (fun _=>J) (fun _ hm=>?_)
  .
   refine gx J<|?_;refine br J J J (fun hc27=>?_) (fun hc27=>?_)
   .
    refine ix _ J (mE (by omega)) J<|?_;exact at_ () trivial
   .
    refine av 9 (.d (dU ((dg a).getD i 0))) J (by rw[ve (by omega)];rfl) ?_;exact at_ () trivial
  .
   refine mg (X:=Unit) (fun _=>[(0, .d (dN a)),(1, .d (dN b)),(5, .d (vI (n:Nat))),(6, .rw 18),(7, .d (.v (.int .u32 (c:Nat)))),(8, .d (vI (i:Nat))),(9, .d (dU ((dg a).getD i 0))),(10, .d (dU ((dg b).getD i 0)))]) (fun _=>[(18,some (.b 366 1 (W.map dU) true))]) (fun _=>True) [0,1,5,6,7,8,9,10] [18] rfl ?_ (fun _=>J) (fun _ hm=>?_)
   .
    refine gx J<|?_;refine br J J J (fun hc35=>?_) (fun hc35=>?_)
    .
     refine ix _ J (mE (by omega)) J<|?_;exact at_ () trivial
    .
     refine av 10 (.d (dU ((dg b).getD i 0))) J (by rw[ve (by omega)];rfl) ?_;exact at_ () trivial
   .
    refine cl J (UF (by omega) (by omega) (by omega)) J<|sb _ ((W.set i (((dg a).getD i 0+(dg b).getD i 0+c)%4294967296)).map dU) J (mE (by omega)) J (by rw[<-ue];rfl) J<|?_;exact at_ ⟨W.set i (((dg a).getD i 0+(dg b).getD i 0+c)%4294967296),((dg a).getD i 0+(dg b).getD i 0+c)/4294967296,i+1⟩ (by dsimp only;exact⟨⟨by simpa using h1,h2.set _ (by omega),by omega,by omega,Yz (by omega) h5⟩,(by omega)⟩)
 .
  obtain rfl:i=n:=by omega
  refine sb _ ((W.set i c).map dU) J (mE (by omega)) J (by rw[<-ue];rfl) J<|fz 18 J J<|cl J (tg (ds:=W.set i c) (by simp;omega)) J<|?_;exact rz J (r4 (h2.set _ (by omega)) (YB hn h1 h5))
def TR{A B W:List Nat}{i c d c2:Nat}(hA:bm A)(hB:bm B)(hi:i<W.length)(hc:c<=1)(h:dv (W.take i)+dv (B.take i)=dv (A.take i)+4294967296^i*c)
  (hd:d=if A.getD i 0<B.getD i 0+c then A.getD i 0+4294967296-(B.getD i 0+c) else A.getD i 0-(B.getD i 0+c))(hc2:c2=if A.getD i 0<B.getD i 0+c then 1 else 0):
  dv ((W.set i d).take (i+1))+dv (B.take (i+1))=dv (A.take (i+1))+4294967296^(i+1)*c2:=by
 have h1:=hA.get i;have h2:=hB.get i;rw[qf hi,jl A,jl B,gX];split at hd
 ·rename_i q
  rw[if_pos q] at hc2;subst hc2 hd;rw[kX (B.getD i 0) c];exact NY h (by omega) (by omega)
 ·rename_i q
  rw[if_neg q] at hc2;subst hc2 hd;rw[kX (B.getD i 0) c];exact Nc h (by omega)
def Z2{a b c:Nat}{W:List Nat}(hw:bm W)(hl:W.length=(dg a).length)(hb:b<=a)(h:dv (W.take (dg a).length)+dv ((dg b).take (dg a).length)=dv ((dg a).take (dg a).length)+4294967296^(dg a).length*c):dv W=a-b:=by
 have hlb:(dg b).length<=(dg a).length:=by
  rcases jX (dg a).length (dg b).length with q|q
  ·have:=ta (lA a) (eo b).2.2 q
   rw[cp,cp] at this;omega
  ·exact q
 rw[pp (by omega),pp hlb,pp (aN _),cp,cp] at h;have h2:=ju hw;rw[hl] at h2;rcases fX c with q|q
 ·subst q;omega
 ·have:4294967296^(dg a).length*1<=4294967296^(dg a).length*c:=fL _ q
  omega
def Hi{a b ia:Nat}[ha:BN a ia](hb:b<=a)(hi:ia<=1000000000:=by decide):PF GB prog 337 [dN a,dN b] (dN (a-b)):=by
 have hla:=fm (dg a);have hlb:=fm (dg b);have hba:=tE ha.h hi;refine fn (fu:=⟨9⟩) func337 J J ntmps337 J J (fun C=>?_);refine av 10 (.d (vI ((dg a).length:Nat))) J (by rw[hla];rfl) ?_;refine gx J<|mk (fu:=⟨13⟩) ((List.replicate (dg a).length 0).map dU) J J (by rw[<-vC];rfl) J<|?_;refine av 13 (.d (vI ((dg a).length:Nat))) J (by rw[hla];rfl) ?_;refine gx J<|?_;refine lp (X:=List Nat×Nat×Nat) (fun⟨W,c,i⟩=>[(0, .d (dN a)),(1, .d (dN b)),(5, .rw 11),(6, .d (.v (.int .u32 (c:Nat)))),(13, .d (vI ((dg a).length:Nat))),(14, .d (vI (i:Nat)))]) (fun⟨W,c,i⟩=>[(11,some (.b 366 1 (W.map dU) true))]) (fun⟨W,c,i⟩=>W.length=(dg a).length/\bm W/\c<=1/\i<=(dg a).length/\dv (W.take i)+dv ((dg b).take i)=dv ((dg a).take i)+4294967296^i*c) (fun⟨W,c,i⟩=>(dg a).length-i) ⟨List.replicate (dg a).length 0,0,0⟩ J ⟨by simp, .replicate _,by omega,by omega,by simp[dv]⟩ (fun _=>J) (fun⟨W,c,i⟩ hk=>?_);dsimp only at hk⊢;obtain⟨h1,h2,h3,h4,h5⟩:=hk;have hlw:=fm W;have hda:=ip a i;have hdb:=ip b i;refine br (fu1:=⟨16⟩) J J J (fun hc15=>?_) (fun hc15=>?_)
 .
  refine mg (X:=Unit) (fun _=>[(0, .d (dN a)),(1, .d (dN b)),(5, .rw 11),(6, .d (.v (.int .u32 (c:Nat)))),(13, .d (vI ((dg a).length:Nat))),(14, .d (vI (i:Nat))),(7, .d (vI (i:Nat))),(8, .d (dU ((dg b).getD i 0)))]) (fun _=>[(11,some (.b 366 1 (W.map dU) true))]) (fun _=>True) [0,1,5,6,13,14,7,8] [11] rfl ?_ (fun _=>J) (fun _ hm=>?_)
  .
   refine gx J<|?_;refine br J J J (fun hc20=>?_) (fun hc20=>?_)
   .
    refine ix _ J (mE (by omega)) J<|?_;exact at_ () trivial
   .
    refine av 8 (.d (dU ((dg b).getD i 0))) J (by rw[ve (by omega)];rfl) ?_;exact at_ () trivial
  .
   refine ix _ J (mE (by omega)) J<|cl J (aBg (by omega) (by omega) (by omega)) J<|sb _ ((W.set i (if(dg a).getD i 0<(dg b).getD i 0+c then(dg a).getD i 0+4294967296-((dg b).getD i 0+c) else(dg a).getD i 0-((dg b).getD i 0+c))).map dU) J (mE (by omega)) J (by rw[<-ue];rfl) J<|?_;exact at_ ⟨W.set i (if(dg a).getD i 0<(dg b).getD i 0+c then(dg a).getD i 0+4294967296-((dg b).getD i 0+c) else(dg a).getD i 0-((dg b).getD i 0+c)),(if(dg a).getD i 0<(dg b).getD i 0+c then 1 else 0),i+1⟩ (by dsimp only;exact⟨⟨by simpa using h1,h2.set _ (by split<;>omega),by split<;>omega,by omega,TR (lA a) (lA b) (by omega) h3 h5 J J⟩,(by omega)⟩)
 .
  obtain rfl:i=(dg a).length:=by omega
  refine fz 11 J J<|cl J (tg (ds:=W) (by omega)) J<|?_;exact rz J (r4 h2 (Z2 h2 h1 hb h5))
def yf(n:Nat)(a b k:Nat)(ha:a<2^k)(h:a+b*2^k<2^n):(BitVec.ofInt n (a:Int) ||| BitVec.ofInt n ((b*2^k:Nat):Int)).toNat=a+b*2^k:=by
 rw[BitVec.toNat_or,BitVec.ofInt_natCast,BitVec.ofInt_natCast,BitVec.toNat_ofNat,BitVec.toNat_ofNat,fW (by omega),fW (by omega)];rw[<-mX,Nat.or_comm,<-mK ha,mX];omega
def Hj{x y:Nat}(hx:x<4294967296)(hy:y<4294967296):x*y<=18446744065119617025:=by
 have:=jN (by omega:x<=4294967295) (by omega:y<=4294967295);exact this
def QO(x y:Nat):(0:Int)<=(x:Int)*(y:Int):=by rw[<-jW];omega
def Rx{x y:Nat}(hx:x<4294967296)(hy:y<4294967296):(x:Int)*(y:Int)<=18446744073709551615:=by
 have:=Hj hx hy;rw[<-jW];omega
def aDl{ds:List Nat}(h:ds.length=1):dv ds=ds.getD 0 0:=by
 match ds,h with
 |[d],_=>simp[dv]
def x5{a:Nat}(h:(dg a).length=1):(dg a).getD 0 0=a:=by rw[<-aDl h,cp]
def YH{ds:List Nat}{j m:Nat}(h:j<m):(ds.take m).getD j 0=ds.getD j 0:=by
 rw[aK,aK,rQ,if_pos h]
def N4{W:List Nat}{j m d:Nat}(hj:j<m)(hm:m<=W.length):dv ((W.set j d).take m)+4294967296^j*W.getD j 0=dv (W.take m)+4294967296^j*d:=by
 rw[List.take_set,<-YH (ds:=W) hj];exact px _ _ _ (by rw[cK];omega)
def Uf{W:List Nat}{P X Y m i k c y t S:Nat}(hk:i+k<m)(hm:m<=W.length)(h:dv (W.take m)+4294967296^(i+k)*c=P+X*(4294967296^i*S))(ht:t=Y+W.getD (i+k) 0+c)(hY:Y=X*y):
  dv ((W.set (i+k) (t%4294967296)).take m)+4294967296^(i+(k+1))*(t/4294967296)=P+X*(4294967296^i*(S+4294967296^k*y)):=by
 have h1:=N4 (W:=W) (d:=t%4294967296) hk hm;rw[ht,show Y+W.getD (i+k) 0+c=c+Y+W.getD (i+k) 0 by omega] at h1⊢;have h2:=O1 h1 h;rw[<-kZ,gX,h2,hY,fT];simp only[dV,cJ,lW,cX,kZ]
def axw{a b:Nat}{W:List Nat}{i c lb:Nat}(hlb:lb=(dg b).length)(hl:i+lb<W.length)(h:dv (W.take (i+lb))+4294967296^(i+lb)*c=dv ((dg a).take i)*b+(dg a).getD i 0*(4294967296^i*dv ((dg b).take lb))):
  dv ((W.set (i+lb) c).take (i+1+lb))=dv ((dg a).take (i+1))*b:=by
 rw[show i+1+lb=i+lb+1 by omega,qf hl,h,jl,pp (ds:=dg b) (by omega),cp b,cR];simp only[cJ,lW,cX]
def MB(n j:Nat):(List.replicate n 0).getD j 0=0:=by
 rw[aK,List.getElem?_replicate];split<;>rfl
def z7{k:Nat}(h:k<=1000000000):IntKind.i64.wrap ((k:Int).tdiv 32)=((k/32:Nat):Int):=by
 rw[show(k:Int).tdiv 32=((k/32:Nat):Int) from J,Fo];omega
def Jz(k:Nat):(k:Int).tmod 32=((k%32:Nat):Int):=rfl
def q8{a b ia ib:Nat}[ha:BN a ia][hb:BN b ib](hi:ia<=1000000000:=by decide)(hj:ib<=1000000000:=by decide):PF GB prog 239 [dN a,dN b] (dN (a*b)):=by
 have hla:=fm (dg a);have hlb:=fm (dg b);have hba:=tE ha.h hi;have hbb:=tE hb.h hj;refine fn (fu:=⟨6⟩) func239 J J ntmps239 J J (fun C=>?_);refine mg (fu:=⟨4⟩) (X:=Unit) (fun _=>[(0, .d (dN a)),(1, .d (dN b))]) (fun _=>[]) (fun _=>True) [0,1] [] rfl ?_ (fun _=>J) (fun _ hm=>?_)
 .
  refine gx J<|?_;refine cs 15 J J J (fun hg15=>?_) (fun hg15=>?_)
  .
   refine br J J J (fun hc19=>?_) (fun hc19=>?_)
   .
    have hd0:=ip a 0;have hd1:=ip b 0;refine ix _ J (gq (k:=0) J (by omega)) J<|ix (hv:=by simp only[ah];exact⟨by omega,⟨(QO _ _),(Rx (ip _ _) (ip _ _))⟩⟩) _ J (gq (k:=0) J (by omega)) J<|cl J (sH (u:=(dg a).getD 0 0*(dg b).getD 0 0) (by have:=Hj (ip a 0) (ip b 0);omega)) J<|?_;exact rz J (by rw[x5 (by omega),x5 (by omega)];rfl)
   .
    exact at_ () trivial
  .
   exact at_ () trivial
 .
  refine av 31 (.d (vI ((dg a).length:Nat))) J (by rw[hla];rfl) ?_;refine gx (fu:=⟨2⟩) J<|?_;refine av 33 (.d (vI ((dg b).length:Nat))) J (by rw[hlb];rfl) ?_;refine gx J<|mk (fu:=⟨8⟩) ((List.replicate ((dg a).length+(dg b).length) 0).map dU) J J (by rw[<-vC];rfl) J<|?_;refine av 37 (.d (vI ((dg a).length:Nat))) J (by rw[hla];rfl) ?_;refine gx J<|?_;refine lp (X:=List Nat×Nat) (fun⟨W,i⟩=>[(0, .d (dN a)),(1, .d (dN b)),(5, .rw 35),(36, .d (dN a)),(37, .d (vI ((dg a).length:Nat))),(38, .d (vI (i:Nat)))]) (fun⟨W,i⟩=>[(35,some (.b 366 1 (W.map dU) true))]) (fun⟨W,i⟩=>W.length=(dg a).length+(dg b).length/\bm W/\i<=(dg a).length/\dv (W.take (i+(dg b).length))=dv ((dg a).take i)*b) (fun⟨W,i⟩=>(dg a).length-i) ⟨List.replicate ((dg a).length+(dg b).length) 0,0⟩ J ⟨by simp, .replicate _,by omega,by rw[List.take_replicate,xG];simp[dv]⟩ (fun _=>J) (fun⟨W,i⟩ hk=>?_);dsimp only at hk⊢;obtain⟨h1,h2,h3,h4⟩:=hk;refine br J J J (fun hc39=>?_) (fun hc39=>?_)
  .
   refine ix (fu:=⟨15⟩) _ J (mE (by omega)) J<|?_;refine av 44 (.d (vI ((dg b).length:Nat))) J (by rw[hlb];rfl) ?_;refine gx J<|?_;refine lp (X:=List Nat×Nat×Nat) (fun⟨W2,c,k⟩=>[(0, .d (dN a)),(1, .d (dN b)),(5, .rw 35),(6, .d (vI (i:Nat))),(7, .d (dU ((dg a).getD i 0))),(8, .d (.v (.int .u64 (c:Nat)))),(36, .d (dN a)),(37, .d (vI ((dg a).length:Nat))),(38, .d (vI (i:Nat))),(43, .d (dN b)),(44, .d (vI ((dg b).length:Nat))),(45, .d (vI (k:Nat)))]) (fun⟨W2,c,k⟩=>[(35,some (.b 366 1 (W2.map dU) true))]) (fun⟨W2,c,k⟩=>W2.length=(dg a).length+(dg b).length/\bm W2/\c<4294967296/\k<=(dg b).length/\dv (W2.take (i+(dg b).length))+4294967296^(i+k)*c=dv ((dg a).take i)*b+(dg a).getD i 0*(4294967296^i*dv ((dg b).take k))) (fun⟨W2,c,k⟩=>(dg b).length-k) ⟨W,0,0⟩ J ⟨h1,h2,by omega,by omega,by rw[h4];simp[dv]⟩ (fun _=>J) (fun⟨W2,c,k⟩ hk=>?_);dsimp only at hk⊢;obtain⟨g1,g2,g3,g4,g5⟩:=hk;have hlw:=fm W2;have hw:=g2.get (i+k);have hda:=ip a i;have hdb:=ip b k;refine br (fu2:=⟨10⟩) J J J (fun hc46=>?_) (fun hc46=>?_)
   .
    refine ix (fu:=⟨12⟩) (hv:=by simp only[ah];exact⟨⟨by omega,by omega⟩,⟨(QO _ _),(Rx (ip _ _) (ip _ _))⟩⟩) _ J (mE (by omega)) J<|?_;obtain⟨p,hp⟩: ∃p,p=(dg a).getD i 0*(dg b).getD k 0:=⟨_,rfl⟩;have hp1:p<=18446744065119617025:=hp▸Hj hda hdb;refine av 54 (.d (.v (.int .u64 (p:Nat)))) J (by rw[hp,jW]) ?_;refine gx J<|lb (fu:=⟨4⟩) _ J (gq (k:=i+k) (by omega) (by omega)) J<|?_;obtain⟨t,ht⟩: ∃t,t=p+W2.getD (i+k) 0+c:=⟨_,rfl⟩;refine av 64 (.d (.v (.int .u64 (t:Nat)))) J (by congr 3;omega) ?_;refine gx (fu:=⟨11⟩) J<|?_;refine av 70 (.d (dU (t%4294967296))) J (by show FX.d (.v (.int _ _))= .d (.v (.int _ _));congr 3) ?_;refine gx J<|sb (fu:=⟨5⟩) (hv:=by simp only[ah];exact(by decide)) _ ((W2.set (i+k) (t%4294967296)).map dU) J (gq (k:=i+k) (by omega) (by omega)) J (by(rw[show((i:Int)+k).toNat=i+k by omega,<-ue])<;>rfl) J<|?_;refine av 73 (.d (.v (.int .u64 (t/4294967296:Nat)))) J (by rw[Gp]) ?_;refine gx J<|?_;exact at_ ⟨W2.set (i+k) (t%4294967296),t/4294967296,k+1⟩ (by dsimp only;exact⟨⟨by simpa using g1,g2.set _ (by omega),by omega,by omega,by rw[jl];exact Uf (by omega) (by omega) g5 ht hp⟩,(by omega)⟩)
   .
    obtain rfl:k=(dg b).length:=by omega
    refine av 78 (.d (vI ((dg b).length:Nat))) J (by rw[hlb];rfl) ?_;refine gx (fu:=⟨3⟩) J<|?_;refine av 81 (.d (dU c)) J (by show FX.d (.v (.int _ _))= .d (.v (.int _ _));congr 3;omega) ?_;refine gx J<|sb _ ((W2.set (i+(dg b).length) c).map dU) J (gq (k:=i+(dg b).length) (by omega) (by omega)) J (by(rw[show((i:Int)+((dg b).length:Nat)).toNat=i+(dg b).length by omega,<-ue])<;>rfl) J<|?_;exact at_ ⟨W2.set (i+(dg b).length) c,i+1⟩ (by dsimp only;exact⟨⟨by simpa using g1,g2.set _ g3,by omega,axw J (by omega) g5⟩,(by omega)⟩)
  .
   obtain rfl:i=(dg a).length:=by omega
   refine fz 35 J J<|cl J (tg (ds:=W) (by omega)) J<|?_;exact rz J (r4 h2 (by have:=h4;rw[pp (by omega),pp (by omega),cp] at this;exact this))
def PY(x s:Nat):x*2^s=x*2^s%4294967296+4294967296*(x*2^s/4294967296):=by omega
def W5{x s:Nat}(hx:x<4294967296)(hs:s<32):x*2^s/4294967296<2^s:=by
 rw[kY (by decide),cX (2^s)];exact nK hx (aN _) (fV (by decide))
def Ik{s:Nat}(hs:s<32):2^s*2^(32-s)=4294967296:=by rw[<-fT,show s+(32-s)=32 by omega]
def U9(x s:Nat)(hs:s<32):x*2^s%4294967296=x%2^(32-s)*2^s:=by
 rw[<-Ik hs,cX (2^s),sZ]
def UL{x s:Nat}(hx:x<4294967296)(hs:s<32):x*2^s<18446744073709551616:=by
 have h1:2^s<=2^31:=bR (by decide) (by omega);have:=nK hx h1 (by decide);omega
def T7{w x s:Nat}(hw:w<2^s)(hs:s<32):(BitVec.ofInt 32 (w:Int) ||| BitVec.ofInt 32 ((x*2^s%4294967296:Nat):Int)).toNat=w+x*2^s%4294967296:=by
 rw[U9 x s hs];refine yf 32 _ _ _ hw ?_;have h1:x%2^(32-s)+1<=2^(32-s):=dX _ (fV (by decide));have h2:=bT (2^s) h1;rw[cX (2^(32-s)),Ik hs,cR,mS] at h2;show _<4294967296;omega
def WY{h:Nat}(hh:h<4294967296):(BitVec.ofInt 32 ((0:Nat):Int) ||| BitVec.ofInt 32 (h:Int)).toNat=h:=by
 have:=yf 32 0 h 0 (by decide) (by simpa using hh);simpa using this
def GZ(k:Nat):2^k=4294967296^(k/32)*2^(k%32):=by
 rw[show(4294967296:Nat)=2^32 from J,<-pK,<-fT,qS]
def getD_set_ne{W:List Nat}{i j d:Nat}(h:i≠j):(W.set i d).getD j 0=W.getD j 0:=by
 rw[aK,aK,List.getElem?_set_ne h]
def PQ{W:List Nat}{i d:Nat}(h:i<W.length):(W.set i d).getD i 0=d:=by
 rw[aK,rR h];rfl
def RU{A W:List Nat}{k q s i x:Nat}(hq:q=k/32)(hs:s=k%32)(hl:q+i+1<W.length)(hx:x=A.getD i 0)
  (h:dv (W.take (q+i+1))=dv (A.take i)*2^k):
  dv (((W.set (q+i) (W.getD (q+i) 0+x*2^s%4294967296)).set (q+i+1) (x*2^s/4294967296)).take (q+(i+1)+1))=dv (A.take (i+1))*2^k:=by
 have e1:=N4 (W:=W) (j:=q+i) (m:=q+i+1) (d:=W.getD (q+i) 0+x*2^s%4294967296) (by omega) (by omega);rw[show q+(i+1)+1=q+i+1+1 by omega,qf (by rw[aT];omega),jl A,<-hx];have e2:dv ((W.set (q+i) (W.getD (q+i) 0+x*2^s%4294967296)).take (q+i+1))=dv (A.take i)*2^k+4294967296^(q+i)*(x*2^s%4294967296):=by
  rw[dV,h] at e1;omega
 rw[e2,gX,cJ,kZ,<-dV,<-PY,cR,GZ k,<-hq,<-hs,fT];simp only[cJ,lW,cX]
def BC{a k ia:Nat}[ha:BN a ia](hk:k<=1000000000)(hi:ia<=1000000000:=by decide):PF GB prog 378 [dN a,vI (k:Nat)] (dN (a*2^k)):=by
 have hla:=fm (dg a);have hba:=tE ha.h hi;refine fn (fu:=⟨9⟩) func378 J J ntmps378 J J (fun C=>?_);refine av 11 (.d (vI (k/32:Nat))) J (by show FX.d (.v (.int _ _))= .d (.v (.int _ _));rw[z7 hk]) ?_;refine gx (fu:=⟨2⟩) J<|?_;refine av 13 (.d (vI ((dg a).length:Nat))) J (by rw[hla];rfl) ?_;refine gx (fu:=⟨2⟩) J<|?_;refine av 15 (.d (vI (k/32+(dg a).length+1:Nat))) J (by show FX.d (.v (.int _ _))= .d (.v (.int _ _));congr 3) ?_;refine gx J<|mk (fu:=⟨7⟩) (hv:=by simp only[ah];exact(by decide)) ((List.replicate (k/32+(dg a).length+1) 0).map dU) J J (by rw[<-vC];rfl) J<|?_;refine av 18 (.d (vI (k%32:Nat))) J (by show FX.d (.v (.int _ _))= .d (.v (.int _ _));rw[Jz]) ?_;refine gx (fu:=⟨9⟩) J<|?_;refine av 21 (.d (vI ((dg a).length:Nat))) J (by rw[hla];rfl) ?_;refine gx J<|?_;refine lp (X:=List Nat×Nat) (fun⟨W,i⟩=>[(0, .d (dN a)),(1, .d (vI (k:Nat))),(5, .rw 16),(6, .d (.v (.int .u64 (k%32:Nat)))),(20, .d (dN a)),(21, .d (vI ((dg a).length:Nat))),(22, .d (vI (i:Nat)))]) (fun⟨W,i⟩=>[(16,some (.b 366 1 (W.map dU) true))]) (fun⟨W,i⟩=>W.length=k/32+(dg a).length+1/\bm W/\i<=(dg a).length/\dv (W.take (k/32+i+1))=dv ((dg a).take i)*2^k/\W.getD (k/32+i) 0<2^(k%32)/\ ∀j,k/32+i<j->W.getD j 0=0) (fun⟨W,i⟩=>(dg a).length-i) ⟨List.replicate (k/32+(dg a).length+1) 0,0⟩ J ⟨by simp, .replicate _,by omega,by rw[List.take_replicate,xG];simp[dv],by rw[MB];exact fV (by decide),fun j _=>MB _ _⟩ (fun _=>J) (fun⟨W,i⟩ hk=>?_);dsimp only at hk⊢;obtain⟨h1,h2,h3,h4,h5,h6⟩:=hk;have hlw:=fm W;have hda:=ip a i;have hsk:k%32<32:=dX _ (by decide)
 have hpp:2^(k%32)<=2^31:=bR (by decide) (by omega);refine br J J J (fun hc23=>?_) (fun hc23=>?_)
 .
  refine ix (fu:=⟨11⟩) (hv:=by simp only[ah];exact⟨by omega,(by omega)⟩) _ J (mE (by omega)) J<|?_;have hhi:=W5 hda hsk;have hfit0:=UL hda hsk;have hor:=T7 (x:=(dg a).getD i 0) h5 hsk;have hfit:W.getD (k/32+i) 0+(dg a).getD i 0*2^(k%32)%4294967296<4294967296:=by rw[<-hor];exact BitVec.isLt _
  have hlp:=PY ((dg a).getD i 0) (k%32);refine av 30 (.d (.v (.int .u64 ((dg a).getD i 0*2^(k%32):Nat)))) J (by show FX.d (.v (.int _ _))= .d (.v (.int _ _));rw[qO _ (k%32) (by omega) hfit0 (by omega)]) ?_;obtain⟨t,ht⟩: ∃t,t=(dg a).getD i 0*2^(k%32):=⟨_,rfl⟩;simp only[<-ht] at hhi hfit0 hor hfit hlp;rw[<-ht];refine gx (fu:=⟨8⟩) J<|?_;refine av 33 (.d (vI (k/32:Nat))) J (by show FX.d (.v (.int _ _))= .d (.v (.int _ _));rw[z7 hk]) ?_;refine gx J<|lb (fu:=⟨2⟩) _ J (gq (k:=k/32+i) (by omega) (by omega)) J<|?_;refine av 39 (.d (dU (t%4294967296))) J (by show FX.d (.v (.int _ _))= .d (.v (.int _ _));congr 3) ?_;refine gx (fu:=⟨1⟩) J<|?_;refine av 40 _ J (congrArg (fun z:Nat=>FX.d (.v (.int .u32 (z:Int)))) hor) ?_;refine gx J<|sb (fu:=⟨6⟩) _ ((W.set (k/32+i) (W.getD (k/32+i) 0+t%4294967296)).map dU) J (gq (k:=k/32+i) (by omega) (by omega)) J (by(rw[show(((k/32:Nat):Int)+i).toNat=k/32+i by omega];simp only[oR];rfl)<;>rfl) J<|?_;refine av 44 (.d (vI (k/32:Nat))) J (by show FX.d (.v (.int _ _))= .d (.v (.int _ _));rw[z7 hk]) ?_;refine gx J<|lb (fu:=⟨0⟩) _ J (gq (k:=k/32+i+1) (by omega) (by rw[aT];omega)) J<|?_;refine av 49 (.d (dU 0)) J (by rw[getD_set_ne (by omega),h6 _ (by omega)]) ?_;refine gx (fu:=⟨2⟩) (hv:=by simp only[ah];exact(by decide)) J<|?_;refine av 51 (.d (.v (.int .u64 (t/4294967296:Nat)))) J (by rw[Gp]) ?_;refine gx (fu:=⟨1⟩) J<|?_;refine av 52 (.d (dU (t/4294967296))) J (by show FX.d (.v (.int _ _))= .d (.v (.int _ _));congr 3;omega) ?_;refine gx (fu:=⟨1⟩) J<|?_;refine av 53 _ J (congrArg (fun z:Nat=>FX.d (.v (.int .u32 (z:Int)))) (WY (by omega))) ?_
  refine gx J<|sb _ (((W.set (k/32+i) (W.getD (k/32+i) 0+t%4294967296)).set (k/32+i+1) (t/4294967296)).map dU) J (gq (k:=k/32+i+1) (by omega) (by rw[aT];omega)) J (by(rw[show(((k/32:Nat):Int)+i+1).toNat=k/32+i+1 by omega];simp only[oR];rfl)<;>rfl) J<|?_;exact at_ ⟨(W.set (k/32+i) (W.getD (k/32+i) 0+t%4294967296)).set (k/32+i+1) (t/4294967296),i+1⟩ (by dsimp only;exact⟨⟨by simpa using h1,(h2.set _ hfit).set _ (by omega),by omega,by have q:=RU (x:=(dg a).getD i 0) J J (by omega) J h4;rw[<-ht] at q;exact q,by rw[show k/32+(i+1)=k/32+i+1 by omega,PQ (by simp;omega)];exact hhi,fun j hj=>by rw[getD_set_ne (by omega),getD_set_ne (by omega)];exact h6 j (by omega)⟩,(by omega)⟩)
 .
  obtain rfl:i=(dg a).length:=by omega
  refine fz 16 J J<|cl J (tg (ds:=W) (by omega)) J<|?_;exact rz J (r4 h2 (by have:=h4;rw[pp (by omega),pp (by omega),cp] at this;exact this))
def aro{a k:Nat}(h:(dg a).length<=k/32):a/2^k=0:=by
 refine jM ?_;have h1:=ju (lA a);rw[cp] at h1;have h2:4294967296^(dg a).length<=4294967296^(k/32):=bR (by decide) h;have h3:4294967296^(k/32)*1<=4294967296^(k/32)*2^(k%32):=fL _ (fV (by decide));rw[GZ k];omega
def Ef{ds:List Nat}(h:bm ds)(q:Nat):dv (ds.drop q)=dv ds/4294967296^q:=by
 rcases jX ds.length q with hq|hq
 ·rw[iW (by omega)]
  have h1:=ju h;have h2:4294967296^ds.length<=4294967296^q:=bR (by decide) (by omega);rw[jM (by omega)];rfl
 ·have e:=AT ds q hq
  have h1:=ju (h.take q);rw[cK,gV hq] at h1;rw[e,mV _ _ (fV (by decide)),jM h1,dT]
def GD{ds:List Nat}(h:bm ds)(i:Nat):dv ds/4294967296^i=ds.getD i 0+4294967296*ds.getD (i+1) 0+18446744073709551616*(dv ds/4294967296^(i+2)):=by
 have e0:=Ef h i;have e2:=Ef h (i+2);rw[<-e0,<-e2];have g0:ds.getD i 0=(ds.drop i).getD 0 0:=by rw[aK,aK,mZ];rfl
 have g1:ds.getD (i+1) 0=(ds.drop i).getD 1 0:=by rw[aK,aK,mZ]
 have g2:ds.drop (i+2)=(ds.drop i).drop 2:=by rw[tK]
 rw[g0,g1,g2]
 match ds.drop i with
 |[]=>rfl
 |[u]=>simp[dv]
 |u::v::t=>simp only[dv,tZ,lS,tQ,jJ];omega
def XZ{D s i u v w Z:Nat}(hs:s<32)(hZ:D/4294967296^i=u+4294967296*v+18446744073709551616*Z)(hw:w=(u+v*4294967296)/2^s%4294967296):(D/2^s)%4294967296^(i+1)=(D/2^s)%4294967296^i+4294967296^i*w:=by
 rw[gX,Nat.mod_mul];congr 2;rw[mR,cX (2^s),<-mR,hZ,hw];have h1:18446744073709551616=2^s*(2^(32-s)*4294967296):=by rw[<-cJ,Ik hs]
 rw[h1,cJ (2^s),mV _ _ (fV (by decide)),cX v];rw[cX (2^(32-s)),cJ,nY]
def XX{a k:Nat}{W:List Nat}{q s:Nat}(hq:q=k/32)(hs:s=k%32)(hl:W.length=(dg a).length-q)(h:dv (W.take ((dg a).length-q))=(dv ((dg a).drop q)/2^s)%4294967296^((dg a).length-q)):dv W=a/2^k:=by
 rw[pp (by omega)] at h;have h1:=ju ((lA a).drop q);rw[gL] at h1;have h2:=kR (dv ((dg a).drop q)) (2^s);rw[h,fW (by omega),Ef (lA a),cp,GZ k,<-hq,<-hs,mR]
def U6{a k ia:Nat}[ha:BN a ia](hk:k<=1000000000)(hi:ia<=1000000000:=by decide):PF GB prog 379 [dN a,vI (k:Nat)] (dN (a/2^k)):=by
 have hla:=fm (dg a);have hba:=tE ha.h hi;refine fn (fu:=⟨10⟩) func379 J J ntmps379 J J (fun C=>?_);refine av 12 (.d (vI (k/32:Nat))) J (by show FX.d (.v (.int _ _))= .d (.v (.int _ _));rw[z7 hk]) ?_;refine gx (fu:=⟨2⟩) J<|?_;refine av 14 (.d (vI ((dg a).length:Nat))) J (by rw[hla];rfl) ?_;refine gx J<|?_;refine br (fu2:=⟨6⟩) (v2:=fun _=>by simp only[ah];exact(by decide)) J J J (fun hc15=>?_) (fun hc15=>?_)
 .
  exact rz J (by rw[aro (by omega),vh];rfl)
 .
  refine av 17 (.d (vI (k%32:Nat))) J (by show FX.d (.v (.int _ _))= .d (.v (.int _ _));rw[Jz]) ?_;refine gx (fu:=⟨9⟩) J<|?_;refine av 21 (.d (vI (k/32:Nat))) J (by show FX.d (.v (.int _ _))= .d (.v (.int _ _));rw[z7 hk]) ?_;refine gx J<|vS (fu:=⟨0⟩) (k/32) (dg a).length _ J J (by rw[hla]) J (vq _) (by omega) (by omega) J<|?_;obtain⟨I,hI⟩: ∃I,I=(dg a).drop (k/32):=⟨_,rfl⟩;have hIl:I.length=(dg a).length-k/32:=by rw[hI,gL]
  have hIm:=fm I;have hIo:bm I:=hI▸(lA a).drop _;refine av 22 (.d (f5 I)) J (by show FX.d (.sl _)= .d (.sl _);rw[hI,<-hla,fY,oQ]) ?_;refine gx (fu:=⟨7⟩) J<|?_;refine av 24 (.d (vI (I.length:Nat))) J (by rw[hIm];rfl) ?_;refine gx J<|mk (fu:=⟨8⟩) ((List.replicate I.length 0).map dU) J J (by rw[<-vC];rfl) J<|?_;refine av 27 (.d (vI (I.length:Nat))) J (by rw[hIm];rfl) ?_;refine gx J<|?_;refine lp (X:=List Nat×Nat) (fun⟨W,i⟩=>[(0, .d (dN a)),(5, .d (.v (.int .u64 (k%32:Nat)))),(6, .d (f5 I)),(7, .rw 25),(26, .d (f5 I)),(27, .d (vI (I.length:Nat))),(28, .d (vI (i:Nat)))]) (fun⟨W,i⟩=>[(25,some (.b 366 1 (W.map dU) true))]) (fun⟨W,i⟩=>W.length=I.length/\bm W/\i<=I.length/\dv (W.take i)=(dv I/2^(k%32))%4294967296^i) (fun⟨W,i⟩=>I.length-i) ⟨List.replicate I.length 0,0⟩ J ⟨by simp, .replicate _,by omega,by simp[dv,Nat.mod_one]⟩ (fun _=>J) (fun⟨W,i⟩ hk=>?_);dsimp only at hk⊢;obtain⟨h1,h2,h3,h4⟩:=hk;have hlw:=fm W;have hda:=hIo.get i;have hdb:=hIo.get (i+1);have hsk:k%32<32:=dX _ (by decide);refine br J J J (fun hc29=>?_) (fun hc29=>?_)
  .
   refine ix (fu:=⟨13⟩) _ J (mE (by omega)) J<|?_;refine mg (fu:=⟨6⟩) (hv:=fun _ _=>by simp only[ah];exact(by omega)) (X:=Unit) (fun _=>[(0, .d (dN a)),(5, .d (.v (.int .u64 (k%32:Nat)))),(6, .d (f5 I)),(7, .rw 25),(26, .d (f5 I)),(27, .d (vI (I.length:Nat))),(28, .d (vI (i:Nat))),(8, .d (vI (i:Nat))),(10, .d (.v (.int .u64 (I.getD i 0+I.getD (i+1) 0*4294967296:Nat))))]) (fun _=>[(25,some (.b 366 1 (W.map dU) true))]) (fun _=>True) [0,5,6,7,26,27,28,8,10] [25] rfl ?_ (fun _=>J) (fun _ hm=>?_)
   .
    refine gx (fu:=⟨6⟩) J<|?_;refine av 38 (.d (vI (I.length:Nat))) J (by rw[hIm];rfl) ?_;refine gx J<|?_;refine br J J J (fun hc39=>?_) (fun hc39=>?_)
    .
     refine ix (fu:=⟨3⟩) (hv:=by simp only[ah];exact⟨by omega,(by decide)⟩) _ J (gq (k:=i+1) (by omega) (by omega)) J<|?_;refine av 47 (.d (.v (.int .u64 (I.getD (i+1) 0*4294967296:Nat)))) J (by show FX.d (.v (.int _ _))= .d (.v (.int _ _));rw[qO _ 32 (by decide) (by show _*4294967296<_;omega) J]) ?_;refine gx (fu:=⟨1⟩) J<|?_;refine av 48 _ J (congrArg (fun z:Nat=>FX.d (.v (.int .u64 (z:Int)))) (yf 64 (I.getD i 0) (I.getD (i+1) 0) 32 hda (by show _+_*4294967296<18446744073709551616;omega))) ?_;refine gx J<|?_;exact at_ () trivial
    .
     refine av 10 (.d (.v (.int .u64 (I.getD i 0+I.getD (i+1) 0*4294967296:Nat)))) J (by rw[ve (by omega:I.length<=i+1),kU,eY]) ?_;exact at_ () trivial
   .
    refine av 53 (.d (.v (.int .u64 ((I.getD i 0+I.getD (i+1) 0*4294967296)/2^(k%32):Nat)))) J (by show FX.d (.v (.int _ _))= .d (.v (.int _ _));rw[th _ (k%32) (by omega) (by omega)]) ?_;refine gx (fu:=⟨1⟩) J<|?_;obtain⟨w,hw⟩: ∃w,w=(I.getD i 0+I.getD (i+1) 0*4294967296)/2^(k%32)%4294967296:=⟨_,rfl⟩;have hw1:w<4294967296:=hw▸dX _ (by decide);refine av 54 (.d (dU w)) J (by show FX.d (.v (.int _ _))= .d (.v (.int _ _));rw[hw];congr 3) ?_;refine gx J<|sb _ ((W.set i w).map dU) J (mE (by omega)) J (by(rw[<-ue];rfl)<;>rfl) J<|?_;exact at_ ⟨W.set i w,i+1⟩ (by dsimp only;exact⟨⟨by simpa using h1,h2.set _ (by omega),by omega,by rw[qf (by omega),h4];exact(XZ hsk (GD hIo i) hw).symm⟩,(by omega)⟩)
  .
   refine fz 25 J J<|cl J (tg (ds:=W) (by omega)) J<|?_;exact rz rfl (r4 h2 (by obtain rfl:i=I.length:=(by omega);rw[hIl] at h1 h4;rw[hI] at h4;exact XX rfl rfl h1 h4))
def CG{a k:Nat}(h:a<4294967296^k):(dg a).length<=k:=by
 rcases jX k (dg a).length with q|q
 ·have h1:=qI (eo a).2.2 (by intro e;rw[e] at q;simp at q)
  rw[cp] at h1;have h2:4294967296^k<=4294967296^((dg a).length-1):=bR (by decide) (by omega);omega
 ·exact q
def Tv{a:Nat}(h:(dg a).length=2):(dg a).getD 0 0+(dg a).getD 1 0*4294967296=a:=by
 have e:=cp a;revert e
 match dg a,h with
 |[x,y],_=>intro e;simp[dv] at e⊢;omega
def Az(a:Nat):DV:= .tp [.v (.int .u64 ((if a<18446744073709551616 then a else 0:Nat):Int)),vB (decide (a<18446744073709551616))]
def KW{a:Nat}(h:a<18446744073709551616):Az a= .tp [.v (.int .u64 (a:Int)),vB true]:=by unfold Az;rw[if_pos h,decide_eq_true h]
def XU{a:Nat}(h: ¬a<18446744073709551616):Az a= .tp [.v (.int .u64 0),vB false]:=by unfold Az;rw[if_neg h,decide_eq_false h];rfl
def tN(a:Nat):a<4294967296^(dg a).length:=by have:=ju (lA a);rwa [cp] at this
def Du{a ia:Nat}[ha:BN a ia](hi:ia<=1000000000:=by decide):PF GB prog 282 [dN a] (Az a):=by
 have hla:=fm (dg a);have hba:=tE ha.h hi;have hlt:=tN a;have hd00:=ip a 0;refine fn (fu:=⟨11⟩) func282 J J ntmps282 J J (fun C=>?_);refine av 5 (.d (vI ((dg a).length:Nat))) J (by rw[hla];rfl) ?_;refine gx J<|?_;refine br J J J (fun hc6=>?_) (fun hc6=>?_)
 .
  exact rz rfl (by rw[show(dg a).length=0 by omega] at hlt;obtain rfl:a=0:=(by omega);rfl)
 .
  refine br J J J (fun hc8=>?_) (fun hc8=>?_)
  .
   refine ix (fu:=⟨2⟩) _ J (gq (k:=0) J (by omega)) J<|?_;refine av 13 (.d (.v (.int .u64 (a:Nat)))) J (by rw[x5 (by omega)]) ?_;refine gx J<|?_;exact rz J (by rw[show(dg a).length=1 by omega] at hlt;rw[KW (by omega),<-x5 (a:=a) (by omega),x5 (a:=a) (by omega)];rfl)
  .
   refine br J J J (fun hc14=>?_) (fun hc14=>?_)
   .
    have hd0:=ip a 0;have hd1:=ip a 1;refine ix (hv:=by simp only[ah];exact⟨by omega,(by decide)⟩) _ J (gq (k:=1) J (by omega)) J<|ix (fu:=⟨3⟩) _ J (gq (k:=0) J (by omega)) J<|?_;refine av 25 (.d (.v (.int .u64 (a:Nat)))) J (congrArg (fun z:Nat=>FX.d (.v (.int .u64 (z:Int)))) (by rw[qO _ 32 (by decide) (by show _*4294967296<_;omega) J,BitVec.or_comm];exact(yf 64 ((dg a).getD 0 0) ((dg a).getD 1 0) 32 hd0 (by show _+_*4294967296<18446744073709551616;omega)).trans (Tv (by omega)))) ?_;refine gx J<|?_;exact rz J (by rw[show(dg a).length=2 by omega] at hlt;rw[KW (by omega)];rfl)
   .
    exact rz rfl (by rw[XU];rfl;intro h;have:=CG (a:=a) (k:=2) (by omega);omega)
def RJ{G:Gh}{ds:List Nat}{v:Value}(hd:bm ds)(h:Is G (f5 ds) v): ∃x:SV,v=x.v/\cx G x ds:=by
 obtain⟨x,rfl,h1⟩:=NB.1 h;exact⟨x,J,hd,h1⟩
def fG.is{G:Gh}{k n:Nat}{z:SV}(h:fG k G z n):Is G (dN n) z.v:=(HH h.lt).2 ⟨z,J,h⟩
def yI{G:Gh}{ds:List Nat}{vs:List Value}(hd:bm ds)(h:IsLs G [f5 ds] vs): ∃x:SV,vs=[x.v]/\cx G x ds:=by
 obtain⟨v,m,rfl,h1,h2⟩:=aP.1 h
 cases cG.1 h2
 obtain⟨x,rfl,h3⟩:=RJ hd h1;exact⟨x,J,h3⟩
def ze{G:Gh}{a b:Nat}{vs:List Value}(h:IsLs G [dN a,dN b] vs): ∃x y:SV,vs=[x.v,y.v]/\cx G x (dg a)/\cx G y (dg b):=by
 obtain⟨v,m,rfl,h1,h2⟩:=aP.1 h;obtain⟨y,rfl,h4⟩:=yI (eo b).2.1 h2;obtain⟨x,rfl,h3⟩:=RJ (eo a).2.1 h1;exact⟨x,y,J,h3,h4⟩
section
variable {GB:Gh} {a b i j:Nat}
def mi[h:BN a i](hi:i<=1000000000):(dg a).length<=31250001:=by have:=l9 h.h;omega
def KJ{ds:List Nat}(hd:bm ds)(hl:ds.length<=1125899906842624):PF GB prog 348 [f5 ds] (vB (decide (eh ds))):=fun G vs _ hv=>by
 obtain⟨x,rfl,hx⟩:=yI hd hv;exact(YR hx hl).mono fun v G' _ h=>aF.2 h
def ud[h:BN a i](hi:i<=1000000000:=by decide):PF GB prog 310 [dN a] (vI (bl a:Nat)):=fun G vs _ hv=>by
 obtain⟨x,rfl,hx⟩:=yI (eo a).2.1 hv;have:=mi (a:=a) hi;exact(Yc hx (by omega)).mono fun v G' _ h=>aF.2 (by rw[h,cp])
def yo[h:BN a i](hi:i<=1000000000:=by decide):PF GB prog 308 [dN a] (dN a):=fun G vs _ hv=>by
 obtain⟨x,rfl,hx⟩:=yI (eo a).2.1 hv;have:=mi (a:=a) hi;refine(Gq (k:=i) hx (by rw[cp];exact h.h) (by omega)).mono fun v G' _ h=>?_;obtain⟨z,rfl,h⟩:=h;rw[cp] at h;exact h.is
def H4(h:a<18446744073709551616):PF GB prog 309 [.v (.int .u64 (a:Nat))] (dN a):=fun G vs _ hv=>by
 obtain⟨v,m,rfl,h1,h2⟩:=aP.1 hv
 cases cG.1 h2
 rw[aF.1 h1];refine(I3 h).mono fun v G' _ h=>?_;obtain⟨z,rfl,h⟩:=h;exact h.is
def H'(h:a<18446744073709551616):PF GB prog 315 [dN a] (.tp [.v (.int .u64 (a:Nat)),vB true]):=fun G vs _ hv=>by
 obtain⟨x,rfl,hx⟩:=yI (eo a).2.1 hv;have:BN a 64:=⟨h⟩;have:=mi (a:=a) (i:=64) (by decide);refine(HT hx (by omega)).mono fun v G' _ e=>?_;rw[cp,if_pos h,decide_eq_true h] at e;subst e;exact iF.2 ⟨_,J, .cons (aF.2 J) (.cons (aF.2 J) .nil)⟩
def T'[h:BN a i][k:BN b j](hi:i<=1000000000:=by decide)(hj:j<=1000000000:=by decide):PF GB prog 362 [dN a,dN b] (dN (a+b)):=fun G vs _ hv=>by
 obtain⟨x,y,rfl,hx,hy⟩:=ze hv;have:=mi (a:=a) hi;have:=mi (a:=b) hj;refine(S1 (kk:=i+j+1) hx hy (by rw[cp,cp];exact DI h.h k.h) (by omega) (by omega)).mono fun v G' _ h=>?_;obtain⟨z,rfl,h⟩:=h;rw[cp,cp] at h;exact h.is
def Qd[h:BN a i][k:BN b j](hi:i<=1000000000:=by decide)(hj:j<=1000000000:=by decide):PF GB prog 363 [dN a,dN b] (.tp [dN (a-b),vB (decide (b<=a))]):=fun G vs _ hv=>by
 obtain⟨x,y,rfl,hx,hy⟩:=ze hv;have:=mi (a:=a) hi;have:=mi (a:=b) hj;refine(aAt (kk:=i) hx hy (by rw[cp];exact h.h) (by omega) (by omega)).mono fun v G' _ h=>?_;obtain⟨z,rfl,h⟩:=h;rw[cp,cp] at h⊢;exact iF.2 ⟨_,J, .cons h.is (.cons (aF.2 J) .nil)⟩
def wI[h:BN a i][k:BN b j](hi:i<=1000000000:=by decide)(hj:j<=1000000000:=by decide):PF GB prog 302 [dN a,dN b] (dN (a*b)):=fun G vs _ hv=>by
 obtain⟨x,y,rfl,hx,hy⟩:=ze hv;have:=mi (a:=a) hi;have:=mi (a:=b) hj;refine(Yk (kk:=i+j) hx hy (by rw[cp,cp];exact pf h.h k.h) (by omega) (by omega)).mono fun v G' _ h=>?_;obtain⟨z,rfl,h⟩:=h;rw[cp,cp] at h;exact h.is
def Kd[h:BN a i][k:BN b j](hb:0<b)(hi:i<=1000000000:=by decide)(hj:j<=1000000000:=by decide):PF GB prog 313 [dN a,dN b] (.tp [dN (a/b),dN (a%b),vB true]):=fun G vs _ hv=>by
 obtain⟨x,y,rfl,hx,hy⟩:=ze hv;have:=mi (a:=a) hi;have:=mi (a:=b) hj;refine(GY (k1:=i) (k2:=j) hx hy (by rw[cp];exact hb) (by rw[cp,cp];exact gJ (kR _ _) h.h) (by rw[cp,cp];exact pT (dX _ hb) k.h) (by omega) (by omega)).mono fun v G' _ h=>?_;obtain⟨z,r,rfl,h,h'⟩:=h;rw[cp,cp] at h h';exact iF.2 ⟨_,J, .cons h.is (.cons h'.is (.cons (aF.2 J) .nil))⟩
def Iw[h:BN a i][k:BN b j](hi:i<=1000000000:=by decide)(hj:j<=1000000000:=by decide):PF GB prog 312 [dN a,dN b] (dN (Nat.gcd a b)):=fun G vs _ hv=>by
 obtain⟨x,y,rfl,hx,hy⟩:=ze hv;have:=mi (a:=a) hi;have:=mi (a:=b) hj;have e: ∀k',k'<=i+j->(2:Nat)^k'<=2^(i+j):=fun k' h=>bR (by decide) h;have:=e i (by omega);have:=e j (by omega);have:=h.h;have:=k.h;refine(aAi (k:=i+j) (k0:=i+j) hx hy (by rw[cp];omega) (by rw[cp];omega) (by omega) (by rw[cp,cp];exact Gk h.h k.h) (by omega) (by omega)).mono fun v G' _ h=>?_;obtain⟨z,rfl,h⟩:=h;rw[cp,cp] at h;exact h.is
end
section
variable {GB:Gh} {C:aD} {n:Nat} {Q0:Exit->Act->World->Prop} {fr fr' fr1 fr2:aA} {own own' own1 own2:aG} {cf cf' cf1 cf2:Cf} {vc vc1 vc2:List Prop}
def ja{fb:Func}{e:Exit}{ds:List DV}{rv:DV}(hr:qe tt fr own fb.results.toList=some ds)(hd: ∀G y,Is G (i9 ds) y->Is G rv y)(he:zZ e=true:=by rfl):ak prog GB C n (fp C prog fb (jp C (fun v G'=>Is G' rv v))) fr own (.ex e []):=by
 refine⟨fun ρ G ov a w r=>?_⟩;obtain⟨vs,h1,h2⟩:=yL r hr;have hk:Is G rv (gH vs):=hd _ _ (zk h2)
 cases e with
 |ret=>exact zD (C:=C) (n:=n) (fr:=co a) (own:=ov) (G:=G) (K:=fun v G'=>Is G' rv v) h1 hk a w ⟨r.h,r.sz,cC a,r.df⟩
 |normal=>exact Pz (C:=C) (n:=n) (fr:=co a) (own:=ov) (G:=G) (K:=fun v G'=>Is G' rv v) h1 hk a w ⟨r.h,r.sz,cC a,r.df⟩
 |_=>cases he
def P9(fr:aA)(cf:Cf):Option (Int×IntKind):=match cd fr cf with
 |some ⟨_, .convert t t' x,_,_,_,_⟩=>match dt tt t,dt tt t',aH (bD fr cf) x with
  |some ⟨.int k,_,_,_⟩,some ⟨.int k',_,_,_⟩,some (.d (.v (.int j p)))=>bif kq k j then some (p,k') else none
  |_,_,_=>none
 |_=>none
def cu[fu:Fu]{p:Int}{k':IntKind}(u:Int)(h:P9 fr cf=some (p,k'))(e:k'.wrap p=u)(hgo:cD tt n fu.n fr own cf (.d (.v (.int k' u))) [] []=⟨vc,fr',own',cf'⟩)(k:ak prog GB C n Q0 fr' own' cf')
  (hv:ah vc:=by first|exact trivial|(simp only[ah];kernel_rfl)|(simp only[ah];omega)):ak prog GB C n Q0 fr own cf:=by
 unfold P9 at h;split at h<;>try (cases h;done)
 rename_i hh;split at h<;>try (cases h;done)
 rename_i k0 _ _ _ k1 _ _ _ j p0 hT hT' hx
 cases hk:kq k0 j with
 |false=>rw[hk] at h;cases h
 |true=>
  rw[hk,cond_true] at h;cases h;cases B9 hk;have:=yn (et _ _ hT) J;have:=yn (et _ _ hT') J;subst e;refine us hh (.x1 hx fun ρ G ov a w y _ r h1 h2=>?_) hgo hv k;rw[dm] at h2;subst h2;exact⟨_,dm.2 J,CT h1⟩
def Jf(fr:aA)(cf:Cf):Option (Int×IntKind):=match cd fr cf with
 |some ⟨_, .unOp .neg _ x,_,_,_,_⟩=>match aH (bD fr cf) x with
  |some (.d (.v (.int j p)))=>some (p,j)
  |_=>none
 |_=>none
def nu[fu:Fu]{p:Int}{k':IntKind}(u:Int)(h:Jf fr cf=some (p,k'))(e:k'.wrap (0-p)=u)(hgo:cD tt n fu.n fr own cf (.d (.v (.int k' u))) [] []=⟨vc,fr',own',cf'⟩)(k:ak prog GB C n Q0 fr' own' cf')
  (hv:ah vc:=by first|exact trivial|(simp only[ah];kernel_rfl)|(simp only[ah];omega)):ak prog GB C n Q0 fr own cf:=by
 unfold Jf at h;split at h<;>try (cases h;done)
 rename_i hh;split at h<;>cases h;rename_i hx;subst e;exact us hh (.x1 hx fun ρ G ov a w y _ r h1 h2=>by
  rw[dm] at h2;subst h2;exact⟨_,dm.2 J,F7 h1⟩) hgo hv k
end
def Hv{x:Nat}:bl x=0↔x=0:=by
 have:= @ou x 0;simp at this;omega
def xt{a:Nat}:0<(dg a).length↔0<a:=by
 have:= @wv a;omega
def eS(neg:Bool)(a:Nat):DV:= .ag [.v (.bool neg),dN a]
def Dc(neg:Bool)(a:Nat):eI (zv neg a)= .ag [.v (.bool (neg&&decide (0<a))),dN a]:=by unfold eI;rw[qb,OL]
def aBk{n:Bool}{u:Nat}{b:Int}(h:n≠decide (b<0))(hle:b.natAbs<=u):zv n (u-b.natAbs)=zv n u+b:=by cases n<;>simp[zv] at* <;>omega
def Yw{n:Bool}{u:Nat}{b:Int}(h:n≠decide (b<0))(hle:u<=b.natAbs):zv (decide (b<0)) (b.natAbs-u)=zv n u+b:=by cases n<;>simp[zv] at* <;>(try rw[if_pos h])<;>(try rw[if_neg (by omega)])<;>omega
def Rr{neg:Bool}{ds:List Nat}(hd:bm ds)(hl:ds.length<=1125899906842624):PF GB prog 269 [.ag [.v (.bool neg),f5 ds]] (vB (decide (eh ds/\(neg=true->0<ds.length)))):=by
 refine fn func269 J J ntmps269 J J (fun C=>?_);refine cl J (KJ hd hl) J<|?_;refine csd 6 J J J (fun hg6=>?_) (fun hg6=>?_)
 .
  refine lv 10 J J J (fun hg10=>?_) (fun hg10=>?_)
  .
   exact rz J (by unfold vB;congr 2;simp_all [i9])
  .
   exact rz J (by unfold vB;congr 2;simp_all [i9])
 .
  exact rz J (by unfold vB;congr 2;simp_all [i9])
def NW{n:Bool}{a i:Nat}[h:BN a i](hi:i<=1000000000:=by decide):PF GB prog 311 [eS n a] (vI (zv n a).sign):=by
 refine fn func311 J J ntmps311 J J (fun C=>?_);refine cl J (ud (a:=a) hi) J<|?_;refine br J J J (fun hc3=>?_) (fun hc3=>?_)
 .
  exact rz J (by have:=Hv.1 (Int.ofNat.inj hc3);subst this;cases n<;>rfl)
 .
  refine bb J J J (fun hc8=>?_) (fun hc8=>?_)
  .
   exact rz J (by subst hc8;rw[fQ (by have:a≠0:=(fun e=>hc3 (by rw[e];rfl));simp[zv];omega)];rfl)
  .
   exact rz J (by subst hc8;rw[fR (by have:a≠0:=(fun e=>hc3 (by rw[e];rfl));simp[zv];omega)];rfl)
def IS{m:Int}(h0: -9223372036854775808<=m)(h1:m<=9223372036854775807):PF GB prog 289 [vI m] (eI m):=by
 refine fn (fu:=⟨8⟩) func289 J J ntmps289 J J (fun C=>?_);refine cu ((m%18446744073709551616:Int)) J (nv _) J<|?_;refine br (fu1:=⟨2⟩) (fu2:=⟨0⟩) J J J (fun hc7=>?_) (fun hc7=>?_)
 .
  refine nu ((m.natAbs:Nat)) J (by rw[nv];omega) J<|cl J (H4 (a:=m.natAbs) (by omega)) J<|?_;exact rz J J
 .
  refine av 3 (.d (.v (.int .u64 (m.natAbs:Nat)))) J (by congr 3;omega) ?_;refine gx J<|cl J (H4 (a:=m.natAbs) (by omega)) J<|?_;exact rz J J
def PT{n:Bool}{a:Nat}(h:a<4611686018427387904):PF GB prog 314 [eS n a] (.tp [vI (zv n a),vB true]):=by
 refine fn func314 J J ntmps314 J J (fun C=>?_);refine cl (fu:=⟨2⟩) J (H' (a:=a) (by omega)) J<|f8 J J J<|?_;refine lv 18 J J J (fun hg18=>?_) (fun hg18=>?_)
 .
  refine br (fu1:=⟨3⟩) J J J (fun hc12=>?_) (fun hc12=>?_)
  .
   refine nu (fu:=⟨0⟩) (((18446744073709551616-a)%18446744073709551616:Int)) J (by rw[nv];omega) J<|cu (zv n a) J (by subst hg18;rw[Fo];simp only[zv,if_true];omega) J<|?_;exact rz J J
  .
   exact absurd (by omega) hc12
 .
  refine lv 32 J J J (fun hg32=>?_) (fun hg32=>?_)
  .
   refine br J J J (fun hc25=>?_) (fun hc25=>?_)
   .
    exact rz J (by subst hg18;rfl)
   .
    exact absurd (by omega) hc25
  .
   subst hg18;cases hg32
def xU{neg:Bool}{a i:Nat}[h:BN a i](hi:i<=1000000000:=by decide):PF GB prog 307 [eS neg a] (eI (zv neg a)):=by
 refine fn func307 J J ntmps307 J J (fun C=>?_);refine cl J (yo hi) J<|?_;refine lv 9 J J J (fun hg9=>?_) (fun hg9=>?_)
 .
  exact rz J (by rw[Dc];simp[hg9,xt,i9])
 .
  exact rz J (by rw[Dc];simp[hg9,xt,i9])
def Ce{neg:Bool}{a:Nat}:PF GB prog 360 [.v (.bool neg),dN a] (eI (zv neg a)):=by
 refine fn func360 J J ntmps360 J J (fun C=>?_);refine lv 6 J J J (fun hg6=>?_) (fun hg6=>?_)
 .
  exact rz J (by rw[Dc];simp[hg6,xt,i9])
 .
  exact rz J (by rw[Dc];simp[hg6,xt,i9])
def Wk{m:Int}{i:Nat}[h:BI m i](hi:i<=1000000000:=by decide):PF GB prog 339 [eI m] (eI (-m)):=by
 refine fn func339 J J ntmps339 J J (fun C=>?_);refine cl J (xU (neg:=!decide (m<0)) (a:=m.natAbs) hi) J<|?_;exact rz J (by rw[Yt,lx];rfl)
def FO{a b:Int}{i j:Nat}[h:BI a i][k:BI b j](hi:i<=1000000000:=by decide)(hj:j<=1000000000:=by decide):PF GB prog 301 [eI a,eI b] (eI (a*b)):=by
 refine fn func301 J J ntmps301 J J (fun C=>?_);refine cl J (wI (a:=a.natAbs) (b:=b.natAbs) hi hj) J<|cl J Ce J<|?_;exact rz J (by rw[show(!(decide (a<0)==decide (b<0)))=(decide (a<0) !=decide (b<0)) from J,Jt,lx,lx];rfl)
def YK{n1:Bool}{u:Nat}{b:Int}{i j:Nat}[h:BN u i][k:BI b j](hi:i<=1000000000:=by decide)(hj:j<=1000000000:=by decide):PF GB prog 303 [eS n1 u,eI b] (eI (zv n1 u+b)):=by
 refine fn func303 J J ntmps303 J J (fun C=>?_);refine bb J J J (fun hc13=>?_) (fun hc13=>?_)
 .
  refine cl J (T' (b:=b.natAbs) hi hj) J<|cl J Ce J<|?_;exact rz J (by rw[SI,show n1=decide (b<0) from by simpa using hc13,lx];rfl)
 .
  refine cl J (Qd (b:=b.natAbs) hi hj) J<|?_;refine bd J J J (fun hc30=>?_) (fun hc30=>?_)
  .
   refine cl J Ce J<|?_;exact rz J (by rw[aBk (by simpa using hc13) hc30];rfl)
  .
   refine cl J (Qd (a:=b.natAbs) hj hi) J<|cl J Ce J<|?_;exact rz J (by rw[Yw (by simpa using hc13) (by omega)];rfl)
def Uv{a b:Int}{i j:Nat}[h:BI a i][k:BI b j](hi:i<=1000000000:=by decide)(hj:j<=1000000000:=by decide):PF GB prog 303 [eI a,eI b] (eI (a+b)):=(YK (n1:=decide (a<0)) (u:=a.natAbs) hi hj).to (by rw[lx])
def fj(q:Rat):Prop:= ¬(q.num.natAbs<4611686018427387904/\q.den<4611686018427387904)
instance (q:Rat):Decidable (fj q):=inferInstanceAs (Decidable (¬_))
def dC(q:Rat):Int:=if fj q then 0 else q.num
def dB(q:Rat):Int:=if fj q then 0 else(q.den:Int)-1
def du(q:Rat):DV:= .op (decide (fj q)) [.v (.bool (decide (q.num<0))),dN q.num.natAbs,dN q.den]
def eF(q:Rat):DV:= .ag [vI (dC q),vI (dB q),du q]
abbrev ZZ {q:Rat} (h:decide (fj q)=true):fj q:=of_decide_eq_true h
abbrev r6 {q:Rat} (h:decide (fj q)=false): ¬fj q:=of_decide_eq_false h
abbrev S0 {q:Rat} (h: ¬decide (fj q)=false):fj q:=by simpa using h
abbrev oh {q:Rat} (h: ¬decide (fj q)=true): ¬fj q:=by simpa using h
def nj{q:Rat}(h: ¬fj q):dC q=q.num:=if_neg h
def oC{q:Rat}(h: ¬fj q):dB q=(q.den:Int)-1:=if_neg h
def pq{q:Rat}(h: ¬fj q):q.num.natAbs<4611686018427387904:=(Decidable.not_not.1 h).1
def qd{q:Rat}(h: ¬fj q):q.den<4611686018427387904:=(Decidable.not_not.1 h).2
def IP{q:Rat}(h:fj q):q≠0:=fun e=>by subst e;exact h ⟨by decide,by decide⟩
def sd{q:Rat}{m d:Int}{r:DV}(h: ¬fj q)(h1:q.num=m)(h2:(q.den:Int)-1=d)(e:r= .ag [vI m,vI d, .v (.pointer none)])(G:Gh)(y:Value)(k:Is G r y):Is G (eF q) y:=by
 subst e h1 h2;obtain⟨l,rfl,g⟩:=c8.1 k;obtain⟨y1,l1,rfl,k1,g1⟩:=aP.1 g;obtain⟨y2,l2,rfl,k2,g2⟩:=aP.1 g1;obtain⟨y3,l3,rfl,k3,g3⟩:=aP.1 g2;exact c8.2 ⟨_,J, .cons (by rw[nj h];exact k1) (.cons (by rw[oC h];exact k2) (.cons (tc.2 (.inl ⟨decide_eq_false h,aF.1 k3⟩)) g3))⟩
def Mm{q:Rat}{n:Bool}{a d:Nat}{r:DV}(h:fj q)(h1:decide (q.num<0)=n)(h2:q.num.natAbs=a)(h3:q.den=d)(e:r= .ag [vI 0,vI 0, .pt [.v (.bool n),dN a,dN d]])(G:Gh)(y:Value)(k:Is G r y):Is G (eF q) y:=by
 subst e h1 h2 h3;obtain⟨l,rfl,g⟩:=c8.1 k;obtain⟨y1,l1,rfl,k1,g1⟩:=aP.1 g;obtain⟨y2,l2,rfl,k2,g2⟩:=aP.1 g1;obtain⟨y3,l3,rfl,k3,g3⟩:=aP.1 g2;exact c8.2 ⟨_,J, .cons (by unfold dC;rw[if_pos h];exact k1) (.cons (by unfold dB;rw[if_pos h];exact k2) (.cons (tc.2 (.inr ⟨decide_eq_true h,k3⟩)) g3))⟩
def vW(G:Gh)(y:Value)(k:Is G (.ag [vI 0,vI 0, .v (.pointer none)]) y):Is G (eF 0) y:=sd (fun h=>IP h J) J J J G y k
def OG{m:Int}(h:m.natAbs<4611686018427387904)(G:Gh)(y:Value)(k:Is G (.ag [vI m,vI 0, .v (.pointer none)]) y):Is G (eF (m:Rat)) y:=
 sd (fun k=>k ⟨by simpa using h,by rw[qL];decide⟩) (sL m) (by rw[qL];rfl) J G y k
def N8{n:Bool}{a d:Nat}(hd:0<d):(mkRat (zv n a) d).num=zv n (a/Nat.gcd a d)/\(mkRat (zv n a) d).den=d/Nat.gcd a d:=by
 obtain⟨h1,h2⟩:=Jh (m:=zv n a) hd;rw[qb] at h1 h2;exact⟨by rw[h1,VP (kJ _ _)],h2⟩
def Kf{n:Bool}{a d a' d':Nat}(hd:0<d)(ha:a'=a/Nat.gcd a d)(hd':d'=d/Nat.gcd a d)(h1:a'<4611686018427387904)(h2:d'<4611686018427387904)(G:Gh)(y:Value)(k:Is G (.ag [vI (zv n a'),vI ((d':Int)-1), .v (.pointer none)]) y):Is G (eF (mkRat (zv n a) d)) y:=by
 obtain⟨e1,e2⟩:=N8 (n:=n) (a:=a) hd;rw[<-ha] at e1;rw[<-hd'] at e2;exact sd (fun k=>k ⟨by rw[e1,qb];exact h1,by rw[e2];exact h2⟩) e1 (by rw[e2]) J G y k
def Bn{n:Bool}{a d a' d':Nat}(hd:0<d)(ha:a'=a/Nat.gcd a d)(hd':d'=d/Nat.gcd a d)(h: ¬(a'<4611686018427387904/\d'<4611686018427387904))(G:Gh)(y:Value)(k:Is G (.ag [vI 0,vI 0, .pt [.v (.bool (decide (zv n a'<0))),dN (zv n a').natAbs,dN d']]) y):Is G (eF (mkRat (zv n a) d)) y:=by
 obtain⟨e1,e2⟩:=N8 (n:=n) (a:=a) hd;rw[<-ha] at e1;rw[<-hd'] at e2;exact Mm (fun k=>h ⟨by rw[e1,qb] at k;exact k.1,by rw[e2] at k;exact k.2⟩) (by rw[e1]) (by rw[e1]) e2 J G y k
def aJY{a d:Nat}(hd:0<d)(h: ¬(1:Int)<(bl (Nat.gcd a d):Nat)):Nat.gcd a d=1:=by
 have h1:Nat.gcd a d≠0:=fun e=>by rw[Nat.gcd_eq_zero_iff] at e;omega
 have h2:Nat.gcd a d<2^1:=ou.1 (by omega);omega
def nn{x:Nat}:(((bl x:Nat):Int)<=62)↔x<4611686018427387904:=aBG
def PF.ofI{P:Program}{f:FuncId}{ds ds':List DV}{r:DV}(h:PF GB P f ds r)(k: ∀G vs,IsLs G ds' vs->IsLs G ds vs):PF GB P f ds' r:=fun G vs hg hv=>h G vs hg (k G vs hv)
def uc{n:Bool}{a d i j:Nat}[h:BN a i][k:BN d j](hi:i<=450000000:=by decide)(hj:j<=450000000:=by decide):PF GB prog 218 [eS n a,dN d] (eF (mkRat (zv n a) d)):=by
 refine fn func218 J J ntmps218 J J (fun C=>?_);refine cl J (ud (a:=d) (by omega)) J<|?_;refine cs 13 J J J (fun hg13=>?_) (fun hg13=>?_)
 .
  exact ja rfl (by obtain rfl:=Hv.1 (Int.ofNat.inj hg13);rw[Rat.mkRat_zero];exact vW)
 .
  have hd0:0<d:=by have:= @Hv d;omega
  have hg0:0<Nat.gcd a d:=oZ _ hd0;refine cl J (NW (n:=n) (a:=a) (by omega)) J<|?_;refine br J J J (fun hc17=>?_) (fun hc17=>?_)
  .
   exact ja J (by rw[kV.1 hc17,Rat.zero_mkRat];exact vW)
  .
   refine cl J (Iw (a:=a) (b:=d) (by omega) (by omega)) J<|cl J (ud (a:=Nat.gcd a d) (i:=i+j) (by omega)) J<|?_;refine br J J J (fun hc25=>?_) (fun hc25=>?_)
   .
    obtain⟨a',ea⟩: ∃a',a'=a/Nat.gcd a d:=⟨_,rfl⟩;obtain⟨d',ed⟩: ∃d',d'=d/Nat.gcd a d:=⟨_,rfl⟩;have hba:BN a' i:=ea▸inferInstance;have hbd:BN d' j:=ed▸inferInstance;refine cl (fu:=⟨2⟩) J (Kd (a:=a) (b:=Nat.gcd a d) (j:=i+j) hg0 (by omega) (by omega)) J<|?_;refine av 31 (.d (dN a')) J (by rw[ea]) ?_;refine gx J<|cl (fu:=⟨2⟩) J (Kd (a:=d) (b:=Nat.gcd a d) (j:=i+j) hg0 (by omega) (by omega)) J<|?_;refine av 39 (.d (dN d')) J (by rw[ed]) ?_;refine gx J<|cl J (ud (h:=hba) (by omega)) J<|?_;refine cs 46 J J J (fun hg46=>?_) (fun hg46=>?_)
    .
     refine cl J (ud (h:=hbd) (by omega)) J<|?_;refine br J J J (fun hc50=>?_) (fun hc50=>?_)
     .
      have hs2:=nn.1 hc50;refine cl J (PT (nn.1 hg46)) J<|cl J (H' (by have:=nn.1 hc50;omega)) J<|?_;exact ja J (Kf hd0 ea ed (nn.1 hg46) (nn.1 hc50))
     .
      refine cl J (xU (neg:=n) (h:=hba) (by omega)) J<|cl J (yo (h:=hbd) (by omega)) J<|fz 71 J J<|?_;exact ja J (Bn hd0 ea ed (fun e=>hc50 (nn.2 e.2)))
    .
     refine cl J (xU (neg:=n) (h:=hba) (by omega)) J<|cl J (yo (h:=hbd) (by omega)) J<|fz 71 J J<|?_;exact ja J (Bn hd0 ea ed (fun e=>hg46 (nn.2 e.1)))
   .
    have hg1:=aJY hd0 hc25;have ea:a=a/Nat.gcd a d:=by rw[hg1,tY]
    have ed:d=d/Nat.gcd a d:=by rw[hg1,tY]
    have hba:=h;have hbd:=k;refine cl J (ud (h:=hba) (by omega)) J<|?_;refine cs 46 J J J (fun hg46=>?_) (fun hg46=>?_)
    .
     refine cl J (ud (h:=hbd) (by omega)) J<|?_;refine br J J J (fun hc50=>?_) (fun hc50=>?_)
     .
      have hs2:=nn.1 hc50;refine cl J (PT (nn.1 hg46)) J<|cl J (H' (by have:=nn.1 hc50;omega)) J<|?_;exact ja J (Kf hd0 ea ed (nn.1 hg46) (nn.1 hc50))
     .
      refine cl J (xU (neg:=n) (h:=hba) (by omega)) J<|cl J (yo (h:=hbd) (by omega)) J<|fz 71 J J<|?_;exact ja J (Bn hd0 ea ed (fun e=>hc50 (nn.2 e.2)))
    .
     refine cl J (xU (neg:=n) (h:=hba) (by omega)) J<|cl J (yo (h:=hbd) (by omega)) J<|fz 71 J J<|?_;exact ja J (Bn hd0 ea ed (fun e=>hg46 (nn.2 e.1)))
def s6{m:Int}{i:Nat}[h:BI m i](hi:i<=400000000:=by decide):PF GB prog 270 [eI m] (eF (m:Rat)):=by
 refine fn func270 J J ntmps270 J J (fun C=>?_);refine rf (fu:=⟨0⟩) J J<|?_;refine av 4 (.d (dN 1)) J (by unfold dN;rw[zq];rfl) ?_;refine gx J<|cl J (uc (n:=decide (m<0)) (a:=m.natAbs) (d:=1) (by omega)) J<|?_;exact rz J (by rw[lx,show mkRat m 1=(m:Rat) from sV ..];rfl)
def tB{q:Rat}:PF GB prog 271 [eF q] (vB (decide (q=0))):=by
 refine fn func271 J J ntmps271 J J (fun C=>?_);refine cs 6 J J J (fun hg6=>?_) (fun hg6=>?_)
 .
  exact rz J (by rw[nj (r6 hg6)];show DV.v (.bool (decide _))= .v (.bool _);congr 2;exact decide_eq_decide.2 ⟨fun e=>lL.1 e,fun e=>by rw[e];rfl⟩)
 .
  exact rz J (by rw[decide_eq_false (IP (S0 hg6))];rfl)
def zJ{m:Int}(h:m.natAbs<9223372036854775808):PF GB prog 350 [vI m] (.v (.int .u64 (m.natAbs:Nat))):=by
 refine fn func350 J J ntmps350 J J (fun C=>?_);refine br J J J (fun hc4=>?_) (fun hc4=>?_)
 .
  exact rz J (by show DV.v (.int _ _)=_;congr 2;omega)
 .
  exact rz J (by show DV.v (.int _ _)=_;congr 2;omega)
def rI{q:Rat}{i:Nat}[h:BQ q i](hi:i<=900000000:=by decide):PF GB prog 216 [eF q] (dN q.den):=by
 refine fn func216 J J ntmps216 J J (fun C=>?_);refine br (v1:=fun hc5=>by simp only[ah];exact hc5) (fu2:=⟨6⟩) J J J (fun hc5=>?_) (fun hc5=>?_)
 .
  refine cl J (yo (a:=q.den) (by omega)) J<|?_;exact rz J J
 .
  have hd:=q.den_nz;have hs:=qd (oh hc5);refine av 13 (.d (vI ((q.den:Int)-1))) J (by rw[oC (oh hc5)]) ?_;refine gx (fu:=⟨2⟩) J<|?_;refine av 15 (.d (.v (.int .u64 (q.den:Nat)))) J (by congr 3;omega) ?_;refine gx J<|cl J (H4 (a:=q.den) (by omega)) J<|?_;exact rz J J
def td{q:Rat}{i:Nat}[h:BQ q i](hi:i<=900000000:=by decide):PF GB prog 215 [eF q] (eI q.num):=by
 refine fn func215 J J ntmps215 J J (fun C=>?_);refine br (v1:=fun hc5=>by simp only[ah];exact hc5) (fu2:=⟨6⟩) J J J (fun hc5=>?_) (fun hc5=>?_)
 .
  refine cl J (xU (neg:=decide (q.num<0)) (a:=q.num.natAbs) (by omega)) J<|?_;exact rz J (by rw[lx];rfl)
 .
  have hs:=pq (oh hc5);refine av 13 (.d (vI q.num)) J (by rw[nj (oh hc5)]) ?_;refine gx J<|cl J (IS (by omega) (by omega)) J<|?_;exact rz J J
def ot{q:Rat}{i:Nat}[h:BQ q i](hi:i<=900000000:=by decide):PF GB prog 245 [eF q] (eF (-q)):=by
 refine fn func245 J J ntmps245 J J (fun C=>?_);refine br (v1:=fun hc5=>by simp only[ah];exact hc5) (fu2:=⟨6⟩) J J J (fun hc5=>?_) (fun hc5=>?_)
 .
  refine cl (fu:=⟨6⟩) (hv:=by simp only[ah];exact hc5) J (Wk (m:=q.num) (by omega)) J<|VC J J<|?_;exact ja J (Mm (q:= -q) (fun k=>ZZ hc5 (by rw[mL,iR,pV] at k;exact k)) (by rw[mL]) (by rw[mL]) (pV q) J)
 .
  have hs:=pq (oh hc5);refine av 21 (.d (vI q.num)) J (by rw[nj (oh hc5)]) ?_;refine gx J<|?_;exact ja J (sd (q:= -q) (fun k=>k (by rw[mL,iR,pV];exact⟨hs,qd (oh hc5)⟩)) (by rw[mL]) (by rw[pV,oC (oh hc5)]) J)
def my{q:Rat}{i:Nat}[h:BQ q i](hi:i<=900000000:=by decide):PF GB prog 228 [eF q] (vI q.num.sign):=by
 refine fn func228 J J ntmps228 J J (fun C=>?_);refine br (v1:=fun hc3=>by simp only[ah];exact hc3) J J J (fun hc3=>?_) (fun hc3=>?_)
 .
  refine cl J (NW (n:=decide (q.num<0)) (a:=q.num.natAbs) (by omega)) J<|?_;exact rz J (by rw[lx];rfl)
 .
  have hs:=nj (oh hc3);refine br J J J (fun hc13=>?_) (fun hc13=>?_)
  .
   exact rz J (by rw[fQ (by omega)];rfl)
  .
   refine br J J J (fun hc17=>?_) (fun hc17=>?_)
   .
    exact rz J (by rw[fR (by omega)];rfl)
   .
    exact rz J (by rw[show q.num=0 by omega];rfl)
def aBR{h l y:Nat}(hh:h<y)(hl:l<4294967296)(hy:y<4294967296):PF GB prog 341 [.v (.int .u32 (h:Int)), .v (.int .u32 (l:Int)), .v (.int .u32 (y:Int))] (.tp [dU ((h*4294967296+l)/y),dU ((h*4294967296+l)%y)]):=by
 refine fn (fu:=⟨11⟩) func341 J J ntmps341 J J (fun C=>?_);refine kT 10 J (by omega) ?_;refine gx (fu:=⟨4⟩) J<|?_;refine kF 14 J (by omega) ?_;refine gx (fu:=⟨11⟩) (hv:=by simp only[ah];exact⟨by omega,(by decide)⟩) J<|?_;refine av 19 (.d (.v (.int .u64 (h*2^32:Nat)))) J (by show FX.d (.v (.int _ _))= .d (.v (.int _ _));rw[qO _ 32 (by decide) (by show _*4294967296<_;omega) J]) ?_;refine gx (fu:=⟨3⟩) J<|?_;refine av 22 (.d (.v (.int .u64 (l+h*2^32:Nat)))) J (congrArg (fun z:Nat=>FX.d (.v (.int .u64 (z:Int)))) (by rw[BitVec.or_comm];exact yf 64 l h 32 hl (by show _+_*4294967296<18446744073709551616;omega))) ?_;obtain⟨t,ht⟩: ∃t,t=h*4294967296+l:=⟨_,rfl⟩;have hq:t/y<4294967296:=by rw[kY (by omega)];have:=fL 4294967296 (show h+1<=y from hh);omega
 have hr:t%y<y:=dX _ (by omega);refine av 22 (.d (.v (.int .u64 (t:Nat)))) J (by show FX.d (.v (.int _ _))= .d (.v (.int _ _));congr 3;rw[ht];omega) ?_;refine gx (hv:=by simp only[ah];exact⟨⟨⟨⟨by omega,⟨(by omega),(by omega),(by omega)⟩⟩,by omega⟩,⟨(by omega),(by omega)⟩⟩,by kernel_rfl⟩) J<|?_;exact rz J (by show DV.tp [.v (.int _ _), .v (.int _ _)]= .tp [.v (.int _ _), .v (.int _ _)];rw[<-ht,<-pS,<-oW];generalize t/y=q at*;generalize t%y=r at*;congr 4<;>(first|omega|(congr 3;omega)))
def To{A r i b:Nat}(d:Nat)(hb:0<b):(A*4294967296+d)/b=A/b*4294967296+(A%b*4294967296+d)/b/\(A*4294967296+d)%b=(A%b*4294967296+d)%b:=by
 have h:=qS A b;have e:A*4294967296+d=(A%b*4294967296+d)+b*(A/b*4294967296):=by
  rw[<-cJ,Nat.add_right_comm,<-cR,kX (A%b),h]
 rw[e,mV _ _ hb,nY];exact⟨kX _ _,J⟩
def P5{ds:List Nat}{i:Nat}(h:i<ds.length):dv (ds.drop i)=dv (ds.drop (i+1))*4294967296+ds.getD i 0:=by
 rw[aM h,aK,aX h];simp only[dv,jS];omega
def Nk{W:List Nat}{i q:Nat}(h:i<W.length):dv ((W.set i q).drop i)=dv (W.drop (i+1))*4294967296+q:=by
 rw[P5 (by rw[aT];exact h),qZ (by omega),PQ h]
def VO{a b k:Nat}{W:List Nat}(hb:0<b)(hk:k<(dg a).length)(hl:W.length=(dg a).length)(h:dv (W.drop (k+1))=dv ((dg a).drop (k+1))/b):
  dv ((W.set k ((dv ((dg a).drop (k+1))%b*4294967296+(dg a).getD k 0)/b)).drop k)=dv ((dg a).drop k)/b/\dv ((dg a).drop k)%b=(dv ((dg a).drop (k+1))%b*4294967296+(dg a).getD k 0)%b:=by
 have:=To (A:=dv ((dg a).drop (k+1))) (r:=0) (i:=0) ((dg a).getD k 0) hb;rw[Nk (by omega),h,P5 hk,this.1,this.2];exact⟨J,J⟩
def xC{a b:Nat}:gw a b<0↔a<b:=by unfold gw;split<;>(try split)<;>omega
def zT{a b:Nat}:0<gw a b↔b<a:=by unfold gw;split<;>(try split)<;>omega
def aFI{x:Nat}(hx:x<4294967296):PF GB prog 366 [dU x] (vI (32-(bl x:Int))):=by
 intro G vs hg hv;obtain⟨v,m,rfl,h1,h2⟩:=aP.1 hv;rw[cG] at h2;subst h2;rw[aF.1 h1];exact(Ih hx).mono fun v G' _ h=>aF.2 h
def Mk{a k:Nat}(h:4294967296^k<=a):k<(dg a).length:=by
 have h1:=tN a;rcases jX k (dg a).length with q|q
 ·exact q
 ·have:4294967296^(dg a).length<=4294967296^k:=bR (by decide) q
  omega
def I5{v L:Nat}(hL:L=(dg v).length)(h1:1<=L):(dg v).getD (L-1) 0=v/4294967296^(L-1)/\0<v/4294967296^(L-1):=by
 have h:=GD (lA v) (L-1);rw[ve (by omega:(dg v).length<=L-1+1),cp,pW,eY] at h;have h2:=tN v;rw[<-hL] at h2;rw[jM (show v<4294967296^(L-1+2) from dJ h2 (bR (by decide) (by omega))),pW,eY] at h;have h3:=qI (eo v).2.2 (by intro e;rw[e] at hL;simp at hL;omega);rw[cp,<-hL] at h3;exact⟨h.symm,Nat.div_pos h3 (fV (by decide))⟩
def FI{R n:Nat}(h1:1<=n)(h:R<4294967296^(n+1)):R/4294967296^(n-1)=(dg R).getD (n-1) 0+(dg R).getD n 0*4294967296:=by
 have e:=GD (lA R) (n-1);rw[cp,show n-1+1=n by omega,jM (show R<4294967296^(n-1+2) by rwa [show n-1+2=n+1 by omega]),pW,eY,cX] at e;exact e
def U4{R v j L:Nat}(hL:L=(dg v).length)(h1:1<=L)(hR:R<v*4294967296^(j+1)):R/(v*4294967296^j)<=min (R/4294967296^(L+j-1)/(v/4294967296^(L-1))) 4294967295:=by
 have ht:=(I5 hL h1).2;have hp:0<4294967296^j:=fV (by decide);have hv0:0<v:=by
  rcases fX v with q|q
  ·subst q;simp at ht
  ·exact q
 have hvp:0<v*4294967296^j:=jT hv0 hp;refine Nat.le_min.2 ⟨?_,?_⟩
 ·rw[sX ht,sX (fV (by decide))]
  have h3:v/4294967296^(L-1)*4294967296^(L-1)<=v:=Nat.div_mul_le_self _ _;have h4:R/(v*4294967296^j)*(v*4294967296^j)<=R:=Nat.div_mul_le_self _ _;rw[show L+j-1=L-1+j by omega,fT]
  calc R/(v*4294967296^j)*(v/4294967296^(L-1))*(4294967296^(L-1)*4294967296^j)
    =R/(v*4294967296^j)*((v/4294967296^(L-1)*4294967296^(L-1))*4294967296^j):=by simp only[cJ]
   _<=R/(v*4294967296^j)*(v*4294967296^j):=fL _ (bT _ h3)
   _<=R:=h4
 ·have:R/(v*4294967296^j)<4294967296:=by
   rw[kY hvp];rw[gX] at hR;rwa [cX,cJ]
  omega
def C7{R V g:Nat}(hV:0<V)(h:R<V*g):R/V<g:=by
 rw[kY hV,cX];exact h
def Vm{R V g:Nat}(hV:0<V)(h1:R/V<=g)(h2:V*g<=R):g=R/V:=by
 have:g<=R/V:=by rw[sX hV,cX];exact h2
 omega
def Qv{R0 R v j g:Nat}{W:List Nat}(hj:j<W.length)(h:R0=R+dv (W.drop (j+1))*4294967296^(j+1)*v)(hv:0<v*4294967296^j)(hg:g=R/(v*4294967296^j)):
  R0=(R-v*4294967296^j*g)+dv ((W.set j g).drop j)*4294967296^j*v/\R-v*4294967296^j*g<v*4294967296^j:=by
 have h1:=qS R (v*4294967296^j);have h2:=dX R hv;rw[<-hg] at h1;refine⟨?_,by omega⟩;rw[Nk hj,cR,cR,h,gX];have e:g*4294967296^j*v=v*4294967296^j*g:=by simp only[cJ,lW,cX]
 have e2:dv (W.drop (j+1))*(4294967296^j*4294967296)*v=dv (W.drop (j+1))*4294967296*4294967296^j*v:=by simp only[cJ,lW,cX]
 rw[e,e2];omega
def Zj{a b s R:Nat}{D:Nat}(hR:R<b*2^s)(h:a*2^s=R+D*(b*2^s)):D=a/b/\R/2^s=a%b:=by
 have hp:0<2^s:=fV (by decide);have hb:0<b:=by
  rcases fX b with q|q
  ·subst q;simp at hR
  ·exact q
 have h1:a=R/2^s+D*b:=by
  have:=congrArg (· /2^s) h;rw[Nat.mul_div_cancel _ hp,<-cJ,Nat.add_mul_div_right _ _ hp] at this;exact this
 have h2:R/2^s<b:=by rw[kY hp];exact hR
 have h3:R/2^s+b*D=a:=by rw[cX b];exact h1.symm
 have:=(Nat.div_mod_unique hb).2 ⟨h3,h2⟩;exact⟨this.1.symm,this.2.symm⟩
def Xw{a b s:Nat}(hl:(dg b).length<=(dg a).length)(h2:1<=(dg b).length):a*2^s<b*2^s*4294967296^((dg a).length-(dg b).length+1):=by
 have h1:=tN a;have h3:=qI (eo b).2.2 (by intro e;rw[e] at h2;simp at h2);rw[cp] at h3;have h4:4294967296^(dg a).length<=b*4294967296^((dg a).length-(dg b).length+1):=by
  rw[show(dg a).length=((dg b).length-1)+((dg a).length-(dg b).length+1) by omega,fT];rw[show(dg b).length-1+((dg a).length-(dg b).length+1)-(dg b).length+1=(dg a).length-(dg b).length+1 by omega];exact bT _ h3
 rw[rX];exact lZ (dJ h1 h4) (fV (by decide))
def Qt(x j:Nat):x*2^(32*j)=x*4294967296^j:=by rw[pK]
def aA9{R L j:Nat}(h:R<4294967296^(L+j+1))(h1:1<=L):R/4294967296^(L+j-1)<18446744073709551616:=by
 rw[kY (fV (by decide)),show(18446744073709551616:Nat)=4294967296^2 from J,<-fT];rwa [show 2+(L+j-1)=L+j+1 by omega]
def Ys{R v j L:Nat}(hL:L=(dg v).length)(hR:R<v*4294967296^(j+1)):R<4294967296^(L+j+1):=by
 have h:=tN v;rw[<-hL] at h;rw[kZ,fT];exact dJ hR (bT _ (oT h))
def VR{a b ia ib:Nat}[ha:BN a ia][hb:BN b ib](hi:ia<=500000000)(hj:ib<=500000000)(h2:1<=(dg b).length)(hl:(dg b).length<=(dg a).length):PF GB prog 342 [dN a,dN b] (.tp [dN (a/b),dN (a%b)]):=by
 have hla:=fm (dg a);have hlb:=fm (dg b);have hba:=l9 ha.h;have hba':(dg a).length<=20000000:=by omega
 refine fn func342 J J ntmps342 J J (fun C=>?_);refine ix _ J (gq (k:=(dg b).length-1) (by omega) (by omega)) J<|cl (fu:=⟨0⟩) J (aFI (ip b ((dg b).length-1))) J<|?_;obtain⟨s,hs⟩: ∃s:Nat,s=32-bl ((dg b).getD ((dg b).length-1) 0):=⟨_,rfl⟩;have hs32:s<=32:=by omega
 refine av 22 (.d (vI (s:Nat))) J (by show FX.d (.v (.int _ _))= .d (.v (.int _ _));congr 3;have:=ou.2 (show(dg b).getD ((dg b).length-1) 0<2^32 from ip b _);omega) ?_;refine gx J<|cl J (BC (a:=b) (k:=s) (ia:=ib) (by omega) (by omega)) J<|cl (fu:=⟨0⟩) J (BC (a:=a) (k:=s) (ia:=ia) (by omega) (by omega)) J<|?_;obtain⟨v,hv⟩: ∃v,v=b*2^s:=⟨_,rfl⟩;obtain⟨R0,hR0⟩: ∃R0,R0=a*2^s:=⟨_,rfl⟩;refine av 25 (.d (dN v)) J (by rw[hv]) ?_;refine av 28 (.d (dN R0)) J (by rw[hR0]) ?_;obtain⟨L,hL⟩: ∃L,L=(dg v).length:=⟨_,rfl⟩;have hlv:((dg v).map dU).length=L:=by rw[fm,hL]
 have hps:2^s<=2^32:=bR (by decide) hs32;have hpp:0<2^s:=fV (by decide);have hst:=Xw (a:=a) (b:=b) (s:=s) hl h2;rw[<-hv,<-hR0] at hst;have hvb:v<2^(ib+32):=by rw[hv,fT];exact nK hb.h hps (by decide)
 have hRb:R0<2^(ia+32):=by rw[hR0,fT];exact nK ha.h hps (by decide)
 have hbp:0<b:=iV (fun q=>by subst q;rw[wP] at h2;simp at h2);have hvp:0<v:=hv▸jT hbp hpp;have hLp:1<=L:=by rw[hL];exact Mk (k:=0) (by rw[rS];exact hvp)
 have htop:=I5 hL hLp;haveI hvB:BN v (ib+32):=⟨hvb⟩;have hLb:=l9 hvb;have hLb':L<=20000000:=by omega
 have htl:=ip v (L-1);refine gx (fu:=⟨9⟩) J<|?_;refine av 31 (.d (vI (L:Nat))) J (by rw[hlv];rfl) ?_;refine gx J<|ix (fu:=⟨2⟩) _ J (gq (k:=L-1) (by omega) (by omega)) J<|?_;refine av 35 (.d (.v (.int .u64 (v/4294967296^(L-1):Nat)))) J (by rw[htop.1]) ?_;rw[htop.1] at htl;refine gx (fu:=⟨11⟩) J<|?_;obtain⟨m,hm⟩: ∃m,m=(dg a).length-(dg b).length+1:=⟨_,rfl⟩;rw[<-hm] at hst;have hrl:(List.replicate ((m:Nat):Int).toNat (DV.v (.int .u32 0))).length=m:=by rw[aV,bQ]
 refine av 41 (.d (vI (m:Nat))) J (by show FX.d (.v (.int _ _))= .d (.v (.int _ _));congr 3;omega) ?_;refine gx J<|mk ((List.replicate m 0).map dU) J J (by rw[<-vC];rfl) J<|?_;refine lp (X:=List Nat×Nat×Nat) (fun⟨W,R,k⟩=>[(6, .d (vI (s:Nat))),(7, .d (dN v)),(8, .d (dN R)),(9, .d (.v (.int .u64 (v/4294967296^(L-1):Nat)))),(10, .rw 42),(11, .d (vI ((k:Nat)-1)))]) (fun⟨W,R,k⟩=>[(42,some (.b 366 1 (W.map dU) true))]) (fun⟨W,R,k⟩=>W.length=m/\bm W/\k<=m/\R0=R+dv (W.drop k)*4294967296^k*v/\R<v*4294967296^k/\R<=R0) (fun⟨W,R,k⟩=>k) ⟨List.replicate m 0,R0,m⟩ J ⟨by simp, .replicate _,aN _,by simp[dv],hst,aN _⟩ (fun _=>J) (fun⟨W,R,k⟩ hk=>?_);dsimp only at hk⊢;obtain⟨h1,h2',h3,h4,h5,h6⟩:=hk;have hlw:=fm W;refine br (fu1:=⟨10⟩) J J J (fun hc47=>?_) (fun hc47=>?_)
 .
  obtain⟨j,rfl⟩: ∃j,k=j+1:=⟨k-1,by omega⟩;have hvj:0<v*4294967296^j:=jT hvp (fV (by decide));have hge:=U4 hL hLp h5;have hlen:=Ys hL h5;have hlr:((dg R).map dU).length=(dg R).length:=fm _;haveI hRB:BN R (ia+32):=⟨by omega⟩;have hq32:R/(v*4294967296^j)<4294967296:=by omega
  have hz1:=Int.natCast_nonneg (R/4294967296^(L+j-1));have hz2:=Int.natCast_nonneg (R/4294967296^(L+j-1)/(v/4294967296^(L-1)));refine av 11 (.d (vI (j:Nat))) J (by show FX.d (.v (.int _ _))= .d (.v (.int _ _));congr 3;omega) ?_;refine mg (fu:=⟨6⟩) (hv:=fun _ _=>by simp only[ah];exact⟨(by omega),(by have:=aA9 hlen hLp;omega),(by omega)⟩) (X:=Unit) (fun _=>[(6, .d (vI (s:Nat))),(7, .d (dN v)),(8, .d (dN R)),(9, .d (.v (.int .u64 (v/4294967296^(L-1):Nat)))),(10, .rw 42),(11, .d (vI (j:Nat))),(12, .d (.v (.int .u64 (R/4294967296^(L+j-1):Nat))))]) (fun _=>[(42,some (.b 366 1 (W.map dU) true))]) (fun _=>True) [6,7,8,9,10,11,12] [42] rfl ?_ (fun _=>J) (fun _ hm=>?_)
  .
   refine gx (fu:=⟨4⟩) J<|?_;refine av 51 (.d (vI (L:Nat))) J (by rw[hlv];rfl) ?_;refine gx (fu:=⟨2⟩) J<|?_;refine av 53 (.d (vI (L+j:Nat))) J (by show FX.d (.v (.int _ _))= .d (.v (.int _ _));congr 3) ?_;refine gx (fu:=⟨8⟩) J<|?_;refine av 56 (.d (vI ((dg R).length:Nat))) J (by rw[hlr];rfl) ?_;refine gx J<|?_;refine br (fu2:=⟨6⟩) J J J (fun hc57=>?_) (fun hc57=>?_)
   .
    have hd0:=ip R (L+j-1);have hd1:=ip R (L+j);refine ix (hv:=by simp only[ah];exact⟨⟨by omega,(by decide)⟩,by omega⟩) _ J (gq (k:=L+j) (by omega) (by omega)) J<|ix (fu:=⟨3⟩) _ J (gq (k:=L+j-1) (by omega) (by omega)) J<|?_;refine av 70 (.d (.v (.int .u64 ((dg R).getD (L+j-1) 0+(dg R).getD (L+j) 0*4294967296:Nat)))) J (congrArg (fun z:Nat=>FX.d (.v (.int .u64 (z:Int)))) (by rw[qO _ 32 (by decide) (by show _*4294967296<_;omega) J,BitVec.or_comm];exact yf 64 ((dg R).getD (L+j-1) 0) ((dg R).getD (L+j) 0) 32 hd0 (by show _+_*4294967296<18446744073709551616;omega))) ?_;refine gx J<|?_;refine av 12 (.d (.v (.int .u64 (R/4294967296^(L+j-1):Nat)))) J (by rw[FI (by omega) hlen]) ?_;exact at_ () trivial
   .
    refine av 74 (.d (vI ((dg R).length:Nat))) J (by rw[hlr];rfl) ?_;refine gx J<|?_;refine br J J J (fun hc75=>?_) (fun hc75=>?_)
    .
     have hd0:=ip R (L+j-1);refine ix _ J (gq (k:=L+j-1) (by omega) (by omega)) J<|?_;refine av 12 (.d (.v (.int .u64 (R/4294967296^(L+j-1):Nat)))) J (by rw[FI (by omega) hlen,ve (by omega:(dg R).length<=L+j),kU,eY]) ?_;exact at_ () trivial
    .
     refine av 12 (.d (.v (.int .u64 (R/4294967296^(L+j-1):Nat)))) J (by rw[FI (by omega) hlen,ve (by omega:(dg R).length<=L+j),ve (by omega:(dg R).length<=L+j-1)];rfl) ?_;exact at_ () trivial
  .
   obtain⟨g0,hg0'⟩: ∃g0,g0=min (R/4294967296^(L+j-1)/(v/4294967296^(L-1))) 4294967295:=⟨_,rfl⟩;rw[<-hg0'] at hge;have hg0:=hge;have hg1:g0<=4294967295:=by omega
   refine av 85 (.d (.v (.int .u64 (g0:Nat)))) J (by show FX.d (.v (.int _ _))= .d (.v (.int _ _));congr 3;rw[<-pS];split<;>omega) ?_;refine gx J<|cl J (sH (u:=g0) (by omega)) J<|cl (fu:=⟨2⟩) J (q8 (ia:=ib+32) (ib:=32) (hb:=⟨by show _<4294967296;omega⟩) (by omega) (by decide)) J<|?_;refine av 91 (.d (vI (32*j:Nat))) J (by show FX.d (.v (.int _ _))= .d (.v (.int _ _));congr 3) ?_;refine gx J<|cl (fu:=⟨0⟩) J (BC (k:=32*j) (ia:=ib+64) (ha:=⟨by rw[show ib+64=ib+32+32 by omega,fT];exact nQ hvb (by show _<4294967296;omega)⟩) (by omega) (by omega)) J<|?_;refine av 92 (.d (dN (v*4294967296^j*g0))) J (by rw[Qt,rX]) ?_;refine gx J<|?_;refine lp (X:=Nat) (fun g=>[(6, .d (vI (s:Nat))),(7, .d (dN v)),(8, .d (dN R)),(9, .d (.v (.int .u64 (v/4294967296^(L-1):Nat)))),(10, .rw 42),(11, .d (vI (j:Nat))),(14, .d (.v (.int .u64 (g:Nat)))),(15, .d (dN (v*4294967296^j*g)))]) (fun g=>[(42,some (.b 366 1 (W.map dU) true))]) (fun g=>R/(v*4294967296^j)<=g/\g<=4294967295) (fun g=>g) g0 J ⟨hg0,by omega⟩ (fun _=>J) (fun g hk=>?_);obtain⟨g1,g2⟩:=hk;have hlw:=fm W;refine cl J (zc (a:=v*4294967296^j*g) (b:=R) (by have:=CG (a:=v*4294967296^j*g) (k:=L+j+1) (by have h1:=tN v;rw[<-hL] at h1;rw[gX,fT];exact nQ (lZ h1 (fV (by decide))) (by omega));omega) (by have:=CG hlen;omega)) J<|?_;refine br (fu1:=⟨7⟩) (v1:=fun hc96=>by simp only[ah];exact(by have h:=C7 hvj (zT.1 hc96);have h1:1<=g:=gJ (bU _) h;omega)) (fu2:=⟨11⟩) J J J (fun hc96=>?_) (fun hc96=>?_)
   .
    have hgd:=C7 hvj (zT.1 hc96);have hg1p:1<=g:=gJ (bU _) hgd;refine av 98 (.d (.v (.int .u64 ((g-1:Nat):Int)))) J (by show FX.d (.v (.int _ _))= .d (.v (.int _ _));congr 3;omega) ?_;refine gx J<|cl J (sH (u:=g-1) (by omega)) J<|cl (fu:=⟨2⟩) J (q8 (ia:=ib+32) (ib:=32) (hb:=⟨by show _<4294967296;omega⟩) (by omega) (by decide)) J<|?_;refine av 104 (.d (vI (32*j:Nat))) J (by show FX.d (.v (.int _ _))= .d (.v (.int _ _));congr 3) ?_;refine gx J<|cl (fu:=⟨0⟩) J (BC (k:=32*j) (ia:=ib+64) (ha:=⟨by rw[show ib+64=ib+32+32 by omega,fT];exact nQ hvb (by show _<4294967296;omega)⟩) (by omega) (by omega)) J<|?_;refine av 105 (.d (dN (v*4294967296^j*(g-1)))) J (by rw[Qt,rX]) ?_;refine gx J<|?_;exact at_ (g-1) ⟨⟨by have h:=C7 hvj (zT.1 hc96);omega,by omega⟩,(by have:=C7 hvj (zT.1 hc96);omega)⟩
   .
    have hgq:=Vm hvj g1 (sJ fun q=>hc96 (zT.2 q));refine av 109 (.d (dU g)) J (by show FX.d (.v (.int _ _))= .d (.v (.int _ _));congr 3;omega) ?_;refine gx J<|sb _ ((W.set j (R/(v*4294967296^j))).map dU) J (gq (k:=j) (by omega) (by omega)) J (by(rw[<-hgq,bQ,<-ue])<;>rfl) J<|?_;refine cl (fu:=⟨0⟩) J (Hi (a:=R) (b:=v*4294967296^j*g) (ia:=ia+32) (by rw[hgq];exact Nat.mul_div_le _ _) (by omega)) J<|?_;refine av 113 (.d (dN (R-v*4294967296^j*(R/(v*4294967296^j))))) J (by rw[hgq]) ?_;refine gx J<|?_;exact at_ ⟨W.set j (R/(v*4294967296^j)),R-v*4294967296^j*(R/(v*4294967296^j)),j⟩ (by dsimp only;exact⟨⟨by simpa using h1,h2'.set _ (by omega),by omega,(Qv (by omega) h4 hvj J).1,(Qv (by omega) h4 hvj J).2,by omega⟩,(by omega)⟩)
 .
  obtain rfl:k=0:=by omega
  rw[rS,iL] at h5;rw[rS,iL,jJ,hR0,hv] at h4;rw[hv] at h5;have hend:=Zj h5 h4;haveI hRB:BN R (ia+32):=⟨by omega⟩;refine fz 42 J J<|cl J (tg (ds:=W) (by omega)) J<|cl J (U6 (a:=R) (k:=s) (ia:=ia+32) (by omega) (by omega)) J<|?_;exact rz J (by show DV.tp [f5 _,dN _]= .tp [dN _,dN _];rw[r4 h2' hend.1,hend.2])
end Go.Sx
end
