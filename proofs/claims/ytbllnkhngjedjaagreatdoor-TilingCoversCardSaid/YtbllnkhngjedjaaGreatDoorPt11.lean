import Derived.Test.YtbllnkhngjedjaaGreatDoorPt10
set_option linter.all false
set_option maxHeartbeats 4000000
set_option maxRecDepth 100000
section
namespace Go.Sx
open Go Go.Proofs Tryz
variable {GB:Gh}
def xE(n:Nat)(a b k:Nat)(ha:a<2^k)(h:a+b*2^k<2^n):(BitVec.ofInt n (a:Int) ||| BitVec.ofInt n ((b*2^k:Nat):Int)).toNat=a+b*2^k:=by
 rw[BitVec.toNat_or,BitVec.ofInt_natCast,BitVec.ofInt_natCast,BitVec.toNat_ofNat,BitVec.toNat_ofNat,dV (by omega),dV (by omega)];rw[<-mX,Nat.or_comm,<-mY ha,mX];omega
def Fg{x y:Nat}(hx:x<4294967296)(hy:y<4294967296):x*y<=18446744065119617025:=by
 have:=iW (by omega:x<=4294967295) (by omega:y<=4294967295);exact this
def MN(x y:Nat):(0:Int)<=(x:Int)*(y:Int):=by rw[<-jJ];omega
def N0{x y:Nat}(hx:x<4294967296)(hy:y<4294967296):(x:Int)*(y:Int)<=18446744073709551615:=by
 have:=Fg hx hy;rw[<-jJ];omega
def U8{ds:List Nat}(h:ds.length=1):dv ds=ds.getD 0 0:=by
 match ds,h with
 |[d],_=>simp[dv]
def yh{a:Nat}(h:(dg a).length=1:=by omega):(dg a).getD 0 0=a:=by rw[<-U8 h,cj]
def auW{ds:List Nat}{j m:Nat}(h:j<m):(ds.take m).getD j 0=ds.getD j 0:=by
 rw[aX,aX,rJ,if_pos h]
def Tf{W:List Nat}{j m d:Nat}(hj:j<m)(hm:m<=W.length):dv ((W.set j d).take m)+4294967296^j*W.getD j 0=dv (W.take m)+4294967296^j*d:=by
 rw[List.take_set,<-auW (ds:=W) hj];exact qi _ _ _ (by rw[cJ];omega)
def azQ{W:List Nat}{P X Y m i k c y t S:Nat}(hk:i+k<m)(hm:m<=W.length)(h:dv (W.take m)+4294967296^(i+k)*c=P+X*(4294967296^i*S))(ht:t=Y+W.getD (i+k) 0+c)(hY:Y=X*y):
  dv ((W.set (i+k) (t%4294967296)).take m)+4294967296^(i+(k+1))*(t/4294967296)=P+X*(4294967296^i*(S+4294967296^k*y)):=by
 have h1:=Tf (W:=W) (d:=t%4294967296) hk hm;rw[ht,show Y+W.getD (i+k) 0+c=c+Y+W.getD (i+k) 0 by omega] at h1⊢;have h2:=Mb h1 h;rw[<-kW,fL,h2,hY,fK];simp only[dT,cX,lY,bN,kW]
def azG{a b:Nat}{W:List Nat}{i c lb:Nat}(hlb:lb=(dg b).length)(hl:i+lb<W.length)(h:dv (W.take (i+lb))+4294967296^(i+lb)*c=dv ((dg a).take i)*b+(dg a).getD i 0*(4294967296^i*dv ((dg b).take lb))):
  dv ((W.set (i+lb) c).take (i+1+lb))=dv ((dg a).take (i+1))*b:=by
 rw[show i+1+lb=i+lb+1 by omega,qx hl,h,jq,pA (ds:=dg b),cj b,cM];simp only[cX,lY,bN]
def NR(n j:Nat):(List.replicate n 0).getD j 0=0:=by
 rw[aX,List.getElem?_replicate];split<;>rfl
def AH{k:Nat}(h:k<=1000000000):IntKind.i64.wrap ((k:Int).tdiv 32)=((k/32:Nat):Int):=by
 rw[show(k:Int).tdiv 32=((k/32:Nat):Int) from J,HM];omega
def Li(k:Nat):(k:Int).tmod 32=((k%32:Nat):Int):=rfl
def se{a b ia ib:Nat}[ha:BN a ia][hb:BN b ib](hi:ia<=1000000000:=by decide)(hj:ib<=1000000000:=by decide):PF GB prog 219 [dN a,dN b] (dN (a*b)):=by
 have hla:=fp (dg a);have hlb:=fp (dg b);have hba:=vD ha.h hi;have hbb:=vD hb.h hj;refine fn (fu:=⟨6⟩) func219 J J ntmps219 J J (fun C=>?_);refine mg (fu:=⟨4⟩) (X:=Unit) (fun _=>[(0, .d (dN a)),(1, .d (dN b))]) (fun _=>[]) (fun _=>True) [0,1] [] rfl ?_ (fun _=>J) (fun _ hm=>?_)
 .
  refine gx J<|?_;refine cs 15 J J J (fun hg15=>?_) (fun hg15=>?_)
  .
   refine br J J J (fun hc19=>?_) (fun hc19=>?_)
   .
    have hd0:=iu a 0;have hd1:=iu b 0;refine ix _ J (gP (k:=0) J (by omega)) J<|ix (hv:=by simp only[ah];exact⟨by omega,⟨(MN _ _),(N0 (iu _ _) (iu _ _))⟩⟩) _ J (gP (k:=0) J (by omega)) J<|cl J (ut (u:=(dg a).getD 0 0*(dg b).getD 0 0) (by have:=Fg (iu a 0) (iu b 0);omega)) J<|?_;exact rz J (by rw[yh,yh];rfl)
   .
    exact at_ () trivial
  .
   exact at_ () trivial
 .
  refine ak 31 (.d (vI ((dg a).length:Nat))) J (by rw[hla];rfl) ?_;refine gx (fu:=⟨2⟩) J<|?_;refine ak 33 (.d (vI ((dg b).length:Nat))) J (by rw[hlb];rfl) ?_;refine gx J<|mk (fu:=⟨8⟩) ((List.replicate ((dg a).length+(dg b).length) 0).map dU) J J (by rw[<-xm];rfl) J<|?_;refine ak 37 (.d (vI ((dg a).length:Nat))) J (by rw[hla];rfl) ?_;refine gx J<|?_;refine lp (X:=List Nat×Nat) (fun⟨W,i⟩=>[(0, .d (dN a)),(1, .d (dN b)),(5, .rw 35),(36, .d (dN a)),(37, .d (vI ((dg a).length:Nat))),(38, .d (vI (i:Nat)))]) (fun⟨W,i⟩=>[(35,some (.b 182 1 (W.map dU) true))]) (fun⟨W,i⟩=>W.length=(dg a).length+(dg b).length/\bi W/\i<=(dg a).length/\dv (W.take (i+(dg b).length))=dv ((dg a).take i)*b) (fun⟨W,i⟩=>(dg a).length-i) ⟨List.replicate ((dg a).length+(dg b).length) 0,0⟩ J ⟨by simp, .replicate _,by omega,by rw[List.take_replicate,yx];simp[dv]⟩ (fun _=>J) (fun⟨W,i⟩ hk=>?_);dsimp only at hk⊢;obtain⟨h1,h2,h3,h4⟩:=hk;refine br J J J (fun hc39=>?_) (fun hc39=>?_)
  .
   refine ix (fu:=⟨15⟩) _ J (nn) J<|?_;refine ak 44 (.d (vI ((dg b).length:Nat))) J (by rw[hlb];rfl) ?_;refine gx J<|?_;refine lp (X:=List Nat×Nat×Nat) (fun⟨W2,c,k⟩=>[(0, .d (dN a)),(1, .d (dN b)),(5, .rw 35),(6, .d (vI (i:Nat))),(7, .d (dU ((dg a).getD i 0))),(8, .d (.v (.int .u64 (c:Nat)))),(36, .d (dN a)),(37, .d (vI ((dg a).length:Nat))),(38, .d (vI (i:Nat))),(43, .d (dN b)),(44, .d (vI ((dg b).length:Nat))),(45, .d (vI (k:Nat)))]) (fun⟨W2,c,k⟩=>[(35,some (.b 182 1 (W2.map dU) true))]) (fun⟨W2,c,k⟩=>W2.length=(dg a).length+(dg b).length/\bi W2/\c<4294967296/\k<=(dg b).length/\dv (W2.take (i+(dg b).length))+4294967296^(i+k)*c=dv ((dg a).take i)*b+(dg a).getD i 0*(4294967296^i*dv ((dg b).take k))) (fun⟨W2,c,k⟩=>(dg b).length-k) ⟨W,0,0⟩ J ⟨h1,h2,by omega,by omega,by rw[h4];simp[dv]⟩ (fun _=>J) (fun⟨W2,c,k⟩ hk=>?_);dsimp only at hk⊢;obtain⟨g1,g2,g3,g4,g5⟩:=hk;have hlw:=fp W2;have hw:=g2.get (i+k);have hda:=iu a i;have hdb:=iu b k;refine br (fu2:=⟨10⟩) J J J (fun hc46=>?_) (fun hc46=>?_)
   .
    refine ix (fu:=⟨12⟩) (hv:=by simp only[ah];exact⟨⟨by omega,by omega⟩,⟨(MN _ _),(N0 (iu _ _) (iu _ _))⟩⟩) _ J (nn) J<|?_;obtain⟨p,hp⟩: ∃p,p=(dg a).getD i 0*(dg b).getD k 0:=⟨_,rfl⟩;have hp1:p<=18446744065119617025:=hp▸Fg hda hdb;refine ak 54 (.d (.v (.int .u64 (p:Nat)))) J (by rw[hp,jJ]) ?_;refine gx J<|lb (fu:=⟨4⟩) _ J (gP (k:=i+k)) J<|?_;obtain⟨t,ht⟩: ∃t,t=p+W2.getD (i+k) 0+c:=⟨_,rfl⟩;refine ak 64 (.d (.v (.int .u64 (t:Nat)))) J (by congr 3;omega) ?_;refine gx (fu:=⟨11⟩) J<|?_;refine ak 70 (.d (dU (t%4294967296))) J (by show FX.d (.v (.int _ _))= .d (.v (.int _ _));congr 3) ?_;refine gx J<|sb (fu:=⟨5⟩) (hv:=by simp only[ah];exact(by decide)) _ ((W2.set (i+k) (t%4294967296)).map dU) J (gP (k:=i+k)) J (by(rw[show((i:Int)+k).toNat=i+k by omega,<-uO])<;>rfl) J<|?_;refine ak 73 (.d (.v (.int .u64 (t/4294967296:Nat)))) J (by rw[Gu]) ?_;refine gx J<|?_;exact at_ ⟨W2.set (i+k) (t%4294967296),t/4294967296,k+1⟩ (by dsimp only;exact⟨⟨by simpa using g1,g2.set _ (by omega),by omega,by omega,by rw[jq];exact azQ (by omega) (by omega) g5 ht hp⟩,(by omega)⟩)
   .
    obtain rfl:k=(dg b).length:=by omega
    refine ak 78 (.d (vI ((dg b).length:Nat))) J (by rw[hlb];rfl) ?_;refine gx (fu:=⟨3⟩) J<|?_;refine ak 81 (.d (dU c)) J (by show FX.d (.v (.int _ _))= .d (.v (.int _ _));congr 3;omega) ?_;refine gx J<|sb _ ((W2.set (i+(dg b).length) c).map dU) J (gP (k:=i+(dg b).length)) J (by(rw[show((i:Int)+((dg b).length:Nat)).toNat=i+(dg b).length by omega,<-uO])<;>rfl) J<|?_;exact at_ ⟨W2.set (i+(dg b).length) c,i+1⟩ (by dsimp only;exact⟨⟨by simpa using g1,g2.set _ g3,by omega,azG J (by omega) g5⟩,(by omega)⟩)
  .
   obtain rfl:i=(dg a).length:=by omega
   refine fz 35 J J<|cl J (rE (ds:=W)) J<|?_;exact rz J (t7 h2 (by have:=h4;rw[pA,pA,cj] at this;exact this))
def KO(x s:Nat):x*2^s=x*2^s%4294967296+4294967296*(x*2^s/4294967296):=by omega
def Ul{x s:Nat}(hx:x<4294967296)(hs:s<32):x*2^s/4294967296<2^s:=by
 rw[kS (by decide),bN (2^s)];exact nS hx (aM _) (fU (by decide))
def FT{s:Nat}(hs:s<32):2^s*2^(32-s)=4294967296:=by rw[<-fK,show s+(32-s)=32 by omega]
def UJ(x s:Nat)(hs:s<32):x*2^s%4294967296=x%2^(32-s)*2^s:=by
 rw[<-FT hs,bN (2^s),sX]
def axr{x s:Nat}(hx:x<4294967296)(hs:s<32):x*2^s<18446744073709551616:=by
 have h1:2^s<=2^31:=bU (by decide) (by omega);have:=nS hx h1 (by decide);omega
def V4{w x s:Nat}(hw:w<2^s)(hs:s<32):(BitVec.ofInt 32 (w:Int) ||| BitVec.ofInt 32 ((x*2^s%4294967296:Nat):Int)).toNat=w+x*2^s%4294967296:=by
 rw[UJ x s hs];refine xE 32 _ _ _ hw ?_;have h1:x%2^(32-s)+1<=2^(32-s):=cS _ (fU (by decide));have h2:=bW (2^s) h1;rw[bN (2^(32-s)),FT hs,cM,oJ] at h2;show _<4294967296;omega
def aub{h:Nat}(hh:h<4294967296):(BitVec.ofInt 32 ((0:Nat):Int) ||| BitVec.ofInt 32 (h:Int)).toNat=h:=by
 have:=xE 32 0 h 0 (by decide) (by simpa using hh);simpa using this
def J6(k:Nat):2^k=4294967296^(k/32)*2^(k%32):=by
 rw[show(4294967296:Nat)=2^32 from J,<-pL,<-fK,qN]
def getD_set_ne{W:List Nat}{i j d:Nat}(h:i≠j:=by omega):(W.set i d).getD j 0=W.getD j 0:=by
 rw[aX,aX,List.getElem?_set_ne h]
def ON{W:List Nat}{i d:Nat}(h:i<W.length):(W.set i d).getD i 0=d:=by
 rw[aX,nX h];rfl
def XK{A W:List Nat}{k q s i x:Nat}(hq:q=k/32)(hs:s=k%32)(hl:q+i+1<W.length)(hx:x=A.getD i 0)
  (h:dv (W.take (q+i+1))=dv (A.take i)*2^k):
  dv (((W.set (q+i) (W.getD (q+i) 0+x*2^s%4294967296)).set (q+i+1) (x*2^s/4294967296)).take (q+(i+1)+1))=dv (A.take (i+1))*2^k:=by
 have e1:=Tf (W:=W) (j:=q+i) (m:=q+i+1) (d:=W.getD (q+i) 0+x*2^s%4294967296) (by omega) (by omega);rw[show q+(i+1)+1=q+i+1+1 by omega,qx (by rw[bZ];omega),jq A,<-hx];have e2:dv ((W.set (q+i) (W.getD (q+i) 0+x*2^s%4294967296)).take (q+i+1))=dv (A.take i)*2^k+4294967296^(q+i)*(x*2^s%4294967296):=by
  rw[dT,h] at e1;omega
 rw[e2,fL,cX,kW,<-dT,<-KO,cM,J6 k,<-hq,<-hs,fK];simp only[cX,lY,bN]
def DG{a k ia:Nat}[ha:BN a ia](hk:k<=1000000000)(hi:ia<=1000000000:=by decide):PF GB prog 255 [dN a,vI (k:Nat)] (dN (a*2^k)):=by
 have hla:=fp (dg a);have hba:=vD ha.h hi;refine fn (fu:=⟨9⟩) func255 J J ntmps255 J J (fun C=>?_);refine ak 11 (.d (vI (k/32:Nat))) J (by show FX.d (.v (.int _ _))= .d (.v (.int _ _));rw[AH hk]) ?_;refine gx (fu:=⟨2⟩) J<|?_;refine ak 13 (.d (vI ((dg a).length:Nat))) J (by rw[hla];rfl) ?_;refine gx (fu:=⟨2⟩) J<|?_;refine ak 15 (.d (vI (k/32+(dg a).length+1:Nat))) J (by show FX.d (.v (.int _ _))= .d (.v (.int _ _));congr 3) ?_;refine gx J<|mk (fu:=⟨7⟩) (hv:=by simp only[ah];exact(by decide)) ((List.replicate (k/32+(dg a).length+1) 0).map dU) J J (by rw[<-xm];rfl) J<|?_;refine ak 18 (.d (vI (k%32:Nat))) J (by show FX.d (.v (.int _ _))= .d (.v (.int _ _));rw[Li]) ?_;refine gx (fu:=⟨9⟩) J<|?_;refine ak 21 (.d (vI ((dg a).length:Nat))) J (by rw[hla];rfl) ?_;refine gx J<|?_;refine lp (X:=List Nat×Nat) (fun⟨W,i⟩=>[(0, .d (dN a)),(1, .d (vI (k:Nat))),(5, .rw 16),(6, .d (.v (.int .u64 (k%32:Nat)))),(20, .d (dN a)),(21, .d (vI ((dg a).length:Nat))),(22, .d (vI (i:Nat)))]) (fun⟨W,i⟩=>[(16,some (.b 182 1 (W.map dU) true))]) (fun⟨W,i⟩=>W.length=k/32+(dg a).length+1/\bi W/\i<=(dg a).length/\dv (W.take (k/32+i+1))=dv ((dg a).take i)*2^k/\W.getD (k/32+i) 0<2^(k%32)/\ ∀j,k/32+i<j->W.getD j 0=0) (fun⟨W,i⟩=>(dg a).length-i) ⟨List.replicate (k/32+(dg a).length+1) 0,0⟩ J ⟨by simp, .replicate _,by omega,by rw[List.take_replicate,yx];simp[dv],by rw[NR];exact fU (by decide),fun j _=>NR _ _⟩ (fun _=>J) (fun⟨W,i⟩ hk=>?_);dsimp only at hk⊢;obtain⟨h1,h2,h3,h4,h5,h6⟩:=hk;have hlw:=fp W;have hda:=iu a i;have hsk:k%32<32:=cS _ (by decide)
 have hpp:2^(k%32)<=2^31:=bU (by decide) (by omega);refine br J J J (fun hc23=>?_) (fun hc23=>?_)
 .
  refine ix (fu:=⟨11⟩) (hv:=by simp only[ah];exact⟨by omega,(by omega)⟩) _ J (nn) J<|?_;have hhi:=Ul hda hsk;have hfit0:=axr hda hsk;have hor:=V4 (x:=(dg a).getD i 0) h5 hsk;have hfit:W.getD (k/32+i) 0+(dg a).getD i 0*2^(k%32)%4294967296<4294967296:=by rw[<-hor];exact BitVec.isLt _
  have hlp:=KO ((dg a).getD i 0) (k%32);refine ak 30 (.d (.v (.int .u64 ((dg a).getD i 0*2^(k%32):Nat)))) J (by show FX.d (.v (.int _ _))= .d (.v (.int _ _));rw[sd _ (k%32) (by omega) hfit0 (by omega)]) ?_;obtain⟨t,ht⟩: ∃t,t=(dg a).getD i 0*2^(k%32):=⟨_,rfl⟩;simp only[<-ht] at hhi hfit0 hor hfit hlp;rw[<-ht];refine gx (fu:=⟨8⟩) J<|?_;refine ak 33 (.d (vI (k/32:Nat))) J (by show FX.d (.v (.int _ _))= .d (.v (.int _ _));rw[AH hk]) ?_;refine gx J<|lb (fu:=⟨2⟩) _ J (gP (k:=k/32+i)) J<|?_;refine ak 39 (.d (dU (t%4294967296))) J (by show FX.d (.v (.int _ _))= .d (.v (.int _ _));congr 3) ?_;refine gx (fu:=⟨1⟩) J<|?_;refine ak 40 _ J (congrArg (fun z:Nat=>FX.d (.v (.int .u32 (z:Int)))) hor) ?_;refine gx J<|sb (fu:=⟨6⟩) _ ((W.set (k/32+i) (W.getD (k/32+i) 0+t%4294967296)).map dU) J (gP (k:=k/32+i)) J (by(rw[show(((k/32:Nat):Int)+i).toNat=k/32+i by omega];simp only[kM];rfl)<;>rfl) J<|?_;refine ak 44 (.d (vI (k/32:Nat))) J (by show FX.d (.v (.int _ _))= .d (.v (.int _ _));rw[AH hk]) ?_;refine gx J<|lb (fu:=⟨0⟩) _ J (gP (k:=k/32+i+1) (by omega) (by rw[bZ];omega)) J<|?_;refine ak 49 (.d (dU 0)) J (by rw[getD_set_ne,h6 _ (by omega)]) ?_;refine gx (fu:=⟨2⟩) (hv:=by simp only[ah];exact(by decide)) J<|?_;refine ak 51 (.d (.v (.int .u64 (t/4294967296:Nat)))) J (by rw[Gu]) ?_;refine gx (fu:=⟨1⟩) J<|?_;refine ak 52 (.d (dU (t/4294967296))) J (by show FX.d (.v (.int _ _))= .d (.v (.int _ _));congr 3;omega) ?_;refine gx (fu:=⟨1⟩) J<|?_;refine ak 53 _ J (congrArg (fun z:Nat=>FX.d (.v (.int .u32 (z:Int)))) (aub (by omega))) ?_
  refine gx J<|sb _ (((W.set (k/32+i) (W.getD (k/32+i) 0+t%4294967296)).set (k/32+i+1) (t/4294967296)).map dU) J (gP (k:=k/32+i+1) (by omega) (by rw[bZ];omega)) J (by(rw[show(((k/32:Nat):Int)+i+1).toNat=k/32+i+1 by omega];simp only[kM];rfl)<;>rfl) J<|?_;exact at_ ⟨(W.set (k/32+i) (W.getD (k/32+i) 0+t%4294967296)).set (k/32+i+1) (t/4294967296),i+1⟩ (by dsimp only;exact⟨⟨by simpa using h1,(h2.set _ hfit).set _ (by omega),by omega,by have q:=XK (x:=(dg a).getD i 0) J J (by omega) J h4;rw[<-ht] at q;exact q,by rw[show k/32+(i+1)=k/32+i+1 by omega,ON (by simp;omega)];exact hhi,fun j hj=>by rw[getD_set_ne,getD_set_ne];exact h6 j (by omega)⟩,(by omega)⟩)
 .
  obtain rfl:i=(dg a).length:=by omega
  refine fz 16 J J<|cl J (rE (ds:=W)) J<|?_;exact rz J (t7 h2 (by have:=h4;rw[pA,pA,cj] at this;exact this))
def Yn{a k:Nat}(h:(dg a).length<=k/32):a/2^k=0:=by
 refine jN ?_;have h1:=jx (lc a);rw[cj] at h1;have h2:4294967296^(dg a).length<=4294967296^(k/32):=bU (by decide) h;have h3:4294967296^(k/32)*1<=4294967296^(k/32)*2^(k%32):=fJ _ (fU (by decide));rw[J6 k];omega
def Iv{ds:List Nat}(h:bi ds)(q:Nat):dv (ds.drop q)=dv ds/4294967296^q:=by
 rcases iL ds.length q with hq|hq
 .rw[kY (by omega)]
  have h1:=jx h;have h2:4294967296^ds.length<=4294967296^q:=bU (by decide) (by omega);rw[jN (by omega)];rfl
 .have e:=Cs ds q hq
  have h1:=jx (h.take q);rw[cJ,gK hq] at h1;rw[e,mU _ _ (fU (by decide)),jN h1,eK]
def Fo{ds:List Nat}(h:bi ds)(i:Nat):dv ds/4294967296^i=ds.getD i 0+4294967296*ds.getD (i+1) 0+18446744073709551616*(dv ds/4294967296^(i+2)):=by
 have e0:=Iv h i;have e2:=Iv h (i+2);rw[<-e0,<-e2];have g0:ds.getD i 0=(ds.drop i).getD 0 0:=by rw[aX,aX,nT];rfl
 have g1:ds.getD (i+1) 0=(ds.drop i).getD 1 0:=by rw[aX,aX,nT]
 have g2:ds.drop (i+2)=(ds.drop i).drop 2:=by rw[tW]
 rw[g0,g1,g2]
 match ds.drop i with
 |[]=>rfl
 |[u]=>simp[dv]
 |u::v::t=>simp only[dv,tJ,lS,tX,iZ];omega
def Um{D s i u v w Z:Nat}(hs:s<32)(hZ:D/4294967296^i=u+4294967296*v+18446744073709551616*Z)(hw:w=(u+v*4294967296)/2^s%4294967296):(D/2^s)%4294967296^(i+1)=(D/2^s)%4294967296^i+4294967296^i*w:=by
 rw[fL,Nat.mod_mul];congr 2;rw[nJ,bN (2^s),<-nJ,hZ,hw];have h1:18446744073709551616=2^s*(2^(32-s)*4294967296):=by rw[<-cX,FT hs]
 rw[h1,cX (2^s),mU _ _ (fU (by decide)),bN v];rw[bN (2^(32-s)),cX,nM]
def XI{a k:Nat}{W:List Nat}{q s:Nat}(hq:q=k/32)(hs:s=k%32)(hl:W.length=(dg a).length-q)(h:dv (W.take ((dg a).length-q))=(dv ((dg a).drop q)/2^s)%4294967296^((dg a).length-q)):dv W=a/2^k:=by
 rw[pA] at h;have h1:=jx ((lc a).drop q);rw[iQ] at h1;have h2:=kN (dv ((dg a).drop q)) (2^s);rw[h,dV (by omega),Iv (lc a),cj,J6 k,<-hq,<-hs,nJ]
def aCZ{a k ia:Nat}[ha:BN a ia](hk:k<=1000000000)(hi:ia<=1000000000:=by decide):PF GB prog 256 [dN a,vI (k:Nat)] (dN (a/2^k)):=by
 have hla:=fp (dg a);have hba:=vD ha.h hi;refine fn (fu:=⟨10⟩) func256 J J ntmps256 J J (fun C=>?_);refine ak 12 (.d (vI (k/32:Nat))) J (by show FX.d (.v (.int _ _))= .d (.v (.int _ _));rw[AH hk]) ?_;refine gx (fu:=⟨2⟩) J<|?_;refine ak 14 (.d (vI ((dg a).length:Nat))) J (by rw[hla];rfl) ?_;refine gx J<|?_;refine br (fu2:=⟨6⟩) (v2:=fun _=>by simp only[ah];exact(by decide)) J J J (fun hc15=>?_) (fun hc15=>?_)
 .
  exact rz J (by rw[Yn (by omega),p6];rfl)
 .
  refine ak 17 (.d (vI (k%32:Nat))) J (by show FX.d (.v (.int _ _))= .d (.v (.int _ _));rw[Li]) ?_;refine gx (fu:=⟨9⟩) J<|?_;refine ak 21 (.d (vI (k/32:Nat))) J (by show FX.d (.v (.int _ _))= .d (.v (.int _ _));rw[AH hk]) ?_;refine gx J<|ni (fu:=⟨0⟩) (k/32) (dg a).length _ J J (by rw[hla]) J (uD _) (by omega) (by omega) J<|?_;obtain⟨I,hI⟩: ∃I,I=(dg a).drop (k/32):=⟨_,rfl⟩;have hIl:I.length=(dg a).length-k/32:=by rw[hI,iQ]
  have hIm:=fp I;have hIo:bi I:=hI▸(lc a).drop _;refine ak 22 (.d (fC I)) J (by show FX.d (.sl _)= .d (.sl _);rw[hI,<-hla,dW,iN]) ?_;refine gx (fu:=⟨7⟩) J<|?_;refine ak 24 (.d (vI (I.length:Nat))) J (by rw[hIm];rfl) ?_;refine gx J<|mk (fu:=⟨8⟩) ((List.replicate I.length 0).map dU) J J (by rw[<-xm];rfl) J<|?_;refine ak 27 (.d (vI (I.length:Nat))) J (by rw[hIm];rfl) ?_;refine gx J<|?_;refine lp (X:=List Nat×Nat) (fun⟨W,i⟩=>[(0, .d (dN a)),(5, .d (.v (.int .u64 (k%32:Nat)))),(6, .d (fC I)),(7, .rw 25),(26, .d (fC I)),(27, .d (vI (I.length:Nat))),(28, .d (vI (i:Nat)))]) (fun⟨W,i⟩=>[(25,some (.b 182 1 (W.map dU) true))]) (fun⟨W,i⟩=>W.length=I.length/\bi W/\i<=I.length/\dv (W.take i)=(dv I/2^(k%32))%4294967296^i) (fun⟨W,i⟩=>I.length-i) ⟨List.replicate I.length 0,0⟩ J ⟨by simp, .replicate _,by omega,by simp[dv,Nat.mod_one]⟩ (fun _=>J) (fun⟨W,i⟩ hk=>?_);dsimp only at hk⊢;obtain⟨h1,h2,h3,h4⟩:=hk;have hlw:=fp W;have hda:=hIo.get i;have hdb:=hIo.get (i+1);have hsk:k%32<32:=cS _ (by decide);refine br J J J (fun hc29=>?_) (fun hc29=>?_)
  .
   refine ix (fu:=⟨13⟩) _ J (nn) J<|?_;refine mg (fu:=⟨6⟩) (hv:=fun _ _=>by simp only[ah];exact(by omega)) (X:=Unit) (fun _=>[(0, .d (dN a)),(5, .d (.v (.int .u64 (k%32:Nat)))),(6, .d (fC I)),(7, .rw 25),(26, .d (fC I)),(27, .d (vI (I.length:Nat))),(28, .d (vI (i:Nat))),(8, .d (vI (i:Nat))),(10, .d (.v (.int .u64 (I.getD i 0+I.getD (i+1) 0*4294967296:Nat))))]) (fun _=>[(25,some (.b 182 1 (W.map dU) true))]) (fun _=>True) [0,5,6,7,26,27,28,8,10] [25] rfl ?_ (fun _=>J) (fun _ hm=>?_)
   .
    refine gx (fu:=⟨6⟩) J<|?_;refine ak 38 (.d (vI (I.length:Nat))) J (by rw[hIm];rfl) ?_;refine gx J<|?_;refine br J J J (fun hc39=>?_) (fun hc39=>?_)
    .
     refine ix (fu:=⟨3⟩) (hv:=by simp only[ah];exact⟨by omega,(by decide)⟩) _ J (gP (k:=i+1)) J<|?_;refine ak 47 (.d (.v (.int .u64 (I.getD (i+1) 0*4294967296:Nat)))) J (by show FX.d (.v (.int _ _))= .d (.v (.int _ _));rw[sd _ 32 (by decide) (by show _*4294967296<_;omega) J]) ?_;refine gx (fu:=⟨1⟩) J<|?_;refine ak 48 _ J (congrArg (fun z:Nat=>FX.d (.v (.int .u64 (z:Int)))) (xE 64 (I.getD i 0) (I.getD (i+1) 0) 32 hda (by show _+_*4294967296<18446744073709551616;omega))) ?_;refine gx J<|?_;exact at_ () trivial
    .
     refine ak 10 (.d (.v (.int .u64 (I.getD i 0+I.getD (i+1) 0*4294967296:Nat)))) J (by rw[uU (by omega:I.length<=i+1),mK,fX]) ?_;exact at_ () trivial
   .
    refine ak 53 (.d (.v (.int .u64 ((I.getD i 0+I.getD (i+1) 0*4294967296)/2^(k%32):Nat)))) J (by show FX.d (.v (.int _ _))= .d (.v (.int _ _));rw[ti _ (k%32) (by omega) (by omega)]) ?_;refine gx (fu:=⟨1⟩) J<|?_;obtain⟨w,hw⟩: ∃w,w=(I.getD i 0+I.getD (i+1) 0*4294967296)/2^(k%32)%4294967296:=⟨_,rfl⟩;have hw1:w<4294967296:=hw▸cS _ (by decide);refine ak 54 (.d (dU w)) J (by show FX.d (.v (.int _ _))= .d (.v (.int _ _));rw[hw];congr 3) ?_;refine gx J<|sb _ ((W.set i w).map dU) J (nn) J (by(rw[<-uO];rfl)<;>rfl) J<|?_;exact at_ ⟨W.set i w,i+1⟩ (by dsimp only;exact⟨⟨by simpa using h1,h2.set _ (by omega),by omega,by rw[qx,h4];exact(Um hsk (Fo hIo i) hw).symm⟩,(by omega)⟩)
  .
   refine fz 25 J J<|cl J (rE (ds:=W)) J<|?_;exact rz rfl (t7 h2 (by obtain rfl:i=I.length:=(by omega);rw[hIl] at h1 h4;rw[hI] at h4;exact XI rfl rfl h1 h4))
def Ev{a k:Nat}(h:a<4294967296^k):(dg a).length<=k:=by
 rcases iL k (dg a).length with q|q
 .have h1:=rI (ew a).2.2 (by intro e;rw[e] at q;simp at q)
  rw[cj] at h1;have h2:4294967296^k<=4294967296^((dg a).length-1):=bU (by decide) (by omega);omega
 .exact q
def VL{a:Nat}(h:(dg a).length=2):(dg a).getD 0 0+(dg a).getD 1 0*4294967296=a:=by
 have e:=cj a;revert e
 match dg a,h with
 |[x,y],_=>intro e;simp[dv] at e⊢;omega
def Bx(a:Nat):DV:= .tp [.v (.int .u64 ((if a<18446744073709551616 then a else 0:Nat):Int)),vB (decide (a<18446744073709551616))]
def MF{a:Nat}(h:a<18446744073709551616:=by omega):Bx a= .tp [.v (.int .u64 (a:Int)),vB true]:=by unfold Bx;rw[if_pos h,decide_eq_true h]
def Xy{a:Nat}(h: ¬a<18446744073709551616):Bx a= .tp [.v (.int .u64 0),vB false]:=by unfold Bx;rw[if_neg h,decide_eq_false h];rfl
def uE(a:Nat):a<4294967296^(dg a).length:=by have:=jx (lc a);rwa [cj] at this
def CU{a ia:Nat}[ha:BN a ia](hi:ia<=1000000000:=by decide):PF GB prog 221 [dN a] (Bx a):=by
 have hla:=fp (dg a);have hba:=vD ha.h hi;have hlt:=uE a;have hd00:=iu a 0;refine fn (fu:=⟨11⟩) func221 J J ntmps221 J J (fun C=>?_);refine ak 5 (.d (vI ((dg a).length:Nat))) J (by rw[hla];rfl) ?_;refine gx J<|?_;refine br J J J (fun hc6=>?_) (fun hc6=>?_)
 .
  exact rz rfl (by rw[show(dg a).length=0 by omega] at hlt;obtain rfl:a=0:=(by omega);rfl)
 .
  refine br J J J (fun hc8=>?_) (fun hc8=>?_)
  .
   refine ix (fu:=⟨2⟩) _ J (gP (k:=0) J (by omega)) J<|?_;refine ak 13 (.d (.v (.int .u64 (a:Nat)))) J (by rw[yh]) ?_;refine gx J<|?_;exact rz J (by rw[show(dg a).length=1 by omega] at hlt;rw[MF,<-yh (a:=a),yh (a:=a)];rfl)
  .
   refine br J J J (fun hc14=>?_) (fun hc14=>?_)
   .
    have hd0:=iu a 0;have hd1:=iu a 1;refine ix (hv:=by simp only[ah];exact⟨by omega,(by decide)⟩) _ J (gP (k:=1) J (by omega)) J<|ix (fu:=⟨3⟩) _ J (gP (k:=0) J (by omega)) J<|?_;refine ak 25 (.d (.v (.int .u64 (a:Nat)))) J (congrArg (fun z:Nat=>FX.d (.v (.int .u64 (z:Int)))) (by rw[sd _ 32 (by decide) (by show _*4294967296<_;omega) J,BitVec.or_comm];exact(xE 64 ((dg a).getD 0 0) ((dg a).getD 1 0) 32 hd0 (by show _+_*4294967296<18446744073709551616;omega)).trans (VL (by omega)))) ?_;refine gx J<|?_;exact rz J (by rw[show(dg a).length=2 by omega] at hlt;rw[MF];rfl)
   .
    exact rz rfl (by rw[Xy];rfl;intro h;have:=Ev (a:=a) (k:=2) (by omega);omega)
def SQ{G:Gh}{ds:List Nat}{v:Value}(hd:bi ds)(h:Is G (fC ds) v): ∃x:SV,v=x.v/\cv G x ds:=by
 obtain⟨x,rfl,h1⟩:=QM.1 h;exact⟨x,J,hd,h1⟩
def gg.is{G:Gh}{k n:Nat}{z:SV}(h:gg k G z n):Is G (dN n) z.v:=(aH0 h.lt).2 ⟨z,J,h⟩
def Bn{G:Gh}{ds:List Nat}{vs:List Value}(hd:bi ds)(h:IsLs G [fC ds] vs): ∃x:SV,vs=[x.v]/\cv G x ds:=by
 obtain⟨v,m,rfl,h1,h2⟩:=bu.1 h
 cases fh.1 h2
 obtain⟨x,rfl,h3⟩:=SQ hd h1;exact⟨x,J,h3⟩
def AK{G:Gh}{a b:Nat}{vs:List Value}(h:IsLs G [dN a,dN b] vs): ∃x y:SV,vs=[x.v,y.v]/\cv G x (dg a)/\cv G y (dg b):=by
 obtain⟨v,m,rfl,h1,h2⟩:=bu.1 h;obtain⟨y,rfl,h4⟩:=Bn (ew b).2.1 h2;obtain⟨x,rfl,h3⟩:=SQ (ew a).2.1 h1;exact⟨x,y,J,h3,h4⟩
section
variable {GB:Gh} {a b i j:Nat}
def mH[h:BN a i](hi:i<=1000000000):(dg a).length<=31250001:=by have:=lm h.h;omega
def R6{ds:List Nat}(hd:bi ds)(hl:ds.length<=1125899906842624):PF GB prog 228 [fC ds] (vB (decide (eo ds))):=fun G vs _ hv=>by
 obtain⟨x,rfl,hx⟩:=Bn hd hv;exact(asO hx hl).mono fun v G' _ h=>bc.2 h
def uX[h:BN a i](hi:i<=1000000000:=by decide):PF GB prog 126 [dN a] (vI (bl a:Nat)):=fun G vs _ hv=>by
 obtain⟨x,rfl,hx⟩:=Bn (ew a).2.1 hv;have:=mH (a:=a) hi;exact(Xu hx (by omega)).mono fun v G' _ h=>bc.2 (by rw[h,cj])
def x7[h:BN a i](hi:i<=1000000000:=by decide):PF GB prog 124 [dN a] (dN a):=fun G vs _ hv=>by
 obtain⟨x,rfl,hx⟩:=Bn (ew a).2.1 hv;have:=mH (a:=a) hi;refine(HB (k:=i) hx (by rw[cj];exact h.h)).mono fun v G' _ h=>?_;obtain⟨z,rfl,h⟩:=h;rw[cj] at h;exact h.is
def GZ(h:a<18446744073709551616:=by omega):PF GB prog 125 [.v (.int .u64 (a:Nat))] (dN a):=fun G vs _ hv=>by
 obtain⟨v,m,rfl,h1,h2⟩:=bu.1 hv
 cases fh.1 h2
 rw[bc.1 h1];refine(Ia h).mono fun v G' _ h=>?_;obtain⟨z,rfl,h⟩:=h;exact h.is
def Js(h:a<18446744073709551616):PF GB prog 131 [dN a] (.tp [.v (.int .u64 (a:Nat)),vB true]):=fun G vs _ hv=>by
 obtain⟨x,rfl,hx⟩:=Bn (ew a).2.1 hv;have:BN a 64:=⟨h⟩;have:=mH (a:=a) (i:=64) (by decide);refine(Fw hx).mono fun v G' _ e=>?_;rw[cj,if_pos h,decide_eq_true h] at e;subst e;exact i8.2 ⟨_,J, .cons (bc.2 J) (.cons (bc.2 J) .nil)⟩
def aIy[h:BN a i][k:BN b j](hi:i<=1000000000:=by decide)(hj:j<=1000000000:=by decide):PF GB prog 121 [dN a,dN b] (dN (a+b)):=fun G vs _ hv=>by
 obtain⟨x,y,rfl,hx,hy⟩:=AK hv;have:=mH (a:=a) hi;have:=mH (a:=b) hj;refine(Xs (kk:=i+j+1) hx hy (by rw[cj,cj];exact Dt h.h k.h) (by omega) (by omega)).mono fun v G' _ h=>?_;obtain⟨z,rfl,h⟩:=h;rw[cj,cj] at h;exact h.is
def SB[h:BN a i][k:BN b j](hi:i<=1000000000:=by decide)(hj:j<=1000000000:=by decide):PF GB prog 122 [dN a,dN b] (.tp [dN (a-b),vB (decide (b<=a))]):=fun G vs _ hv=>by
 obtain⟨x,y,rfl,hx,hy⟩:=AK hv;have:=mH (a:=a) hi;have:=mH (a:=b) hj;refine(aBR (kk:=i) hx hy (by rw[cj];exact h.h) (by omega) (by omega)).mono fun v G' _ h=>?_;obtain⟨z,rfl,h⟩:=h;rw[cj,cj] at h⊢;exact i8.2 ⟨_,J, .cons h.is (.cons (bc.2 J) .nil)⟩
def yH[h:BN a i][k:BN b j](hi:i<=1000000000:=by decide)(hj:j<=1000000000:=by decide):PF GB prog 71 [dN a,dN b] (dN (a*b)):=fun G vs _ hv=>by
 obtain⟨x,y,rfl,hx,hy⟩:=AK hv;have:=mH (a:=a) hi;have:=mH (a:=b) hj;refine(ZM (kk:=i+j) hx hy (by rw[cj,cj];exact qe h.h k.h) (by omega) (by omega)).mono fun v G' _ h=>?_;obtain⟨z,rfl,h⟩:=h;rw[cj,cj] at h;exact h.is
def NV[h:BN a i][k:BN b j](hb:0<b)(hi:i<=1000000000:=by decide)(hj:j<=1000000000:=by decide):PF GB prog 129 [dN a,dN b] (.tp [dN (a/b),dN (a%b),vB true]):=fun G vs _ hv=>by
 obtain⟨x,y,rfl,hx,hy⟩:=AK hv;have:=mH (a:=a) hi;have:=mH (a:=b) hj;refine(Ht (k1:=i) (k2:=j) hx hy (by rw[cj];exact hb) (by rw[cj,cj];exact fR (kN _ _) h.h) (by rw[cj,cj];exact qZ (cS _ hb) k.h)).mono fun v G' _ h=>?_;obtain⟨z,r,rfl,h,h'⟩:=h;rw[cj,cj] at h h';exact i8.2 ⟨_,J, .cons h.is (.cons h'.is (.cons (bc.2 J) .nil))⟩
def Ho[h:BN a i][k:BN b j](hi:i<=1000000000:=by decide)(hj:j<=1000000000:=by decide):PF GB prog 128 [dN a,dN b] (dN (Nat.gcd a b)):=fun G vs _ hv=>by
 obtain⟨x,y,rfl,hx,hy⟩:=AK hv;have:=mH (a:=a) hi;have:=mH (a:=b) hj;have e: ∀k',k'<=i+j->(2:Nat)^k'<=2^(i+j):=fun k' h=>bU (by decide) h;have:=e i (by omega);have:=e j (by omega);have:=h.h;have:=k.h;refine(aBO (k:=i+j) (k0:=i+j) hx hy (by rw[cj];omega) (by rw[cj];omega) (by omega) (by rw[cj,cj];exact FJ h.h k.h) (by omega) (by omega)).mono fun v G' _ h=>?_;obtain⟨z,rfl,h⟩:=h;rw[cj,cj] at h;exact h.is
end
section
variable {GB:Gh} {C:aD} {n:Nat} {Q0:Exit->Act->World->Prop} {fr fr' fr1 fr2:aB} {own own' own1 own2:aF} {cf cf' cf1 cf2:Cf} {vc vc1 vc2:List Prop}
def jm{fb:Func}{e:Exit}{ds:List DV}{rv:DV}(hr:sA tt fr own fb.results.toList=some ds)(hd: ∀G y,Is G (jn ds) y->Is G rv y)(he:Cn e=true:=by rfl):ao prog GB C n (gn C prog fb (mn C (fun v G'=>Is G' rv v))) fr own (.ex e []):=by
 refine⟨fun ρ G ov a w r=>?_⟩;obtain⟨vs,h1,h2⟩:=EF r hr;have hk:Is G rv (iv vs):=hd _ _ (En h2)
 cases e with
 |ret=>exact zD (C:=C) (n:=n) (fr:=cE a) (own:=ov) (G:=G) (K:=fun v G'=>Is G' rv v) h1 hk a w ⟨r.h,r.sz,c8 a,r.df⟩
 |normal=>exact Ta (C:=C) (n:=n) (fr:=cE a) (own:=ov) (G:=G) (K:=fun v G'=>Is G' rv v) h1 hk a w ⟨r.h,r.sz,c8 a,r.df⟩
 |_=>cases he
def Re(fr:aB)(cf:Cf):Option (Int×IntKind):=match cg fr cf with
 |some ⟨_, .convert t t' x,_,_,_,_⟩=>match dq tt t,dq tt t',aH (bz fr cf) x with
  |some ⟨.int k,_,_,_⟩,some ⟨.int k',_,_,_⟩,some (.d (.v (.int j p)))=>bif kq k j then some (p,k') else none
  |_,_,_=>none
 |_=>none
def cu[fu:Fu]{p:Int}{k':IntKind}(u:Int)(h:Re fr cf=some (p,k'))(e:k'.wrap p=u)(hgo:dh tt n fu.n fr own cf (.d (.v (.int k' u))) [] []=⟨vc,fr',own',cf'⟩)(k:ao prog GB C n Q0 fr' own' cf')
  (hv:autoParam (ah vc) cL._auto_1):ao prog GB C n Q0 fr own cf:=by
 unfold Re at h;split at h<;>try (cases h;done)
 rename_i hh;split at h<;>try (cases h;done)
 rename_i k0 _ _ _ k1 _ _ _ j p0 hT hT' hx
 cases hk:kq k0 j with
 |false=>rw[hk] at h;cases h
 |true=>
  rw[hk,cond_true] at h;cases h;cases Cu hk;have:=yn (eh _ _ hT) J;have:=yn (eh _ _ hT') J;subst e;refine us hh (.x1 hx fun ρ G ov a w y _ r h1 h2=>?_) hgo hv k;rw[de] at h2;subst h2;exact⟨_,de.2 J,D2 h1⟩
def Ti(fr:aB)(cf:Cf):Option (Int×IntKind):=match cg fr cf with
 |some ⟨_, .unOp .neg _ x,_,_,_,_⟩=>match aH (bz fr cf) x with
  |some (.d (.v (.int j p)))=>some (p,j)
  |_=>none
 |_=>none
def nu[fu:Fu]{p:Int}{k':IntKind}(u:Int)(h:Ti fr cf=some (p,k'))(e:k'.wrap (0-p)=u)(hgo:dh tt n fu.n fr own cf (.d (.v (.int k' u))) [] []=⟨vc,fr',own',cf'⟩)(k:ao prog GB C n Q0 fr' own' cf')
  (hv:autoParam (ah vc) cL._auto_1):ao prog GB C n Q0 fr own cf:=by
 unfold Ti at h;split at h<;>try (cases h;done)
 rename_i hh;split at h<;>cases h;rename_i hx;subst e;exact us hh (.x1 hx fun ρ G ov a w y _ r h1 h2=>by
  rw[de] at h2;subst h2;exact⟨_,de.2 J,F5 h1⟩) hgo hv k
end
def FB{x:Nat}:bl x=0↔x=0:=by
 have:= @o8 x 0;simp at this;omega
def xz{a:Nat}:0<(dg a).length↔0<a:=by
 have:= @vJ a;omega
def eS(neg:Bool)(a:Nat):DV:= .ag [.v (.bool neg),dN a]
def CF(neg:Bool)(a:Nat):eI (zv neg a)= .ag [.v (.bool (neg&&decide (0<a))),dN a]:=by unfold eI;rw[rx,QR]
def aDM{n:Bool}{u:Nat}{b:Int}(h:n≠decide (b<0))(hle:b.natAbs<=u):zv n (u-b.natAbs)=zv n u+b:=by cases n<;>simp[zv] at* <;>omega
def aC8{n:Bool}{u:Nat}{b:Int}(h:n≠decide (b<0))(hle:u<=b.natAbs):zv (decide (b<0)) (b.natAbs-u)=zv n u+b:=by cases n<;>simp[zv] at* <;>(try rw[if_pos h])<;>(try rw[if_neg (by omega)])<;>omega
def SF{neg:Bool}{ds:List Nat}(hd:bi ds)(hl:ds.length<=1125899906842624):PF GB prog 191 [.ag [.v (.bool neg),fC ds]] (vB (decide (eo ds/\(neg=true->0<ds.length)))):=by
 refine fn func191 J J ntmps191 J J (fun C=>?_);refine cl J (R6 hd hl) J<|?_;refine csd 6 J J J (fun hg6=>?_) (fun hg6=>?_)
 .
  refine ji 10 J J J (fun hg10=>?_) (fun hg10=>?_)
  .
   exact rz J (by unfold vB;congr 2;simp_all [jn])
  .
   exact rz J (by unfold vB;congr 2;simp_all [jn])
 .
  exact rz J (by unfold vB;congr 2;simp_all [jn])
def KN{n:Bool}{a i:Nat}[h:BN a i](hi:i<=1000000000:=by decide):PF GB prog 127 [eS n a] (vI (zv n a).sign):=by
 refine fn func127 J J ntmps127 J J (fun C=>?_);refine cl J (uX (a:=a) hi) J<|?_;refine br J J J (fun hc3=>?_) (fun hc3=>?_)
 .
  exact rz J (by have:=FB.1 (Int.ofNat.inj hc3);subst this;cases n<;>rfl)
 .
  refine bb J J J (fun hc8=>?_) (fun hc8=>?_)
  .
   exact rz J (by subst hc8;rw[eJ (by have:a≠0:=(fun e=>hc3 (by rw[e];rfl));simp[zv];omega)];rfl)
  .
   exact rz J (by subst hc8;rw[dS (by have:a≠0:=(fun e=>hc3 (by rw[e];rfl));simp[zv];omega)];rfl)
def J1{m:Int}(h0: -9223372036854775808<=m:=by omega)(h1:m<=9223372036854775807:=by omega):PF GB prog 116 [vI m] (eI m):=by
 refine fn (fu:=⟨8⟩) func116 J J ntmps116 J J (fun C=>?_);refine cu ((m%18446744073709551616:Int)) J (n7 _) J<|?_;refine br (fu1:=⟨2⟩) (fu2:=⟨0⟩) J J J (fun hc7=>?_) (fun hc7=>?_)
 .
  refine nu ((m.natAbs:Nat)) J (by rw[n7];omega) J<|cl J (GZ (a:=m.natAbs)) J<|?_;exact rz J J
 .
  refine ak 3 (.d (.v (.int .u64 (m.natAbs:Nat)))) J (by congr 3;omega) ?_;refine gx J<|cl J (GZ (a:=m.natAbs)) J<|?_;exact rz J J
def Kj{n:Bool}{a:Nat}(h:a<4611686018427387904):PF GB prog 130 [eS n a] (.tp [vI (zv n a),vB true]):=by
 refine fn func130 J J ntmps130 J J (fun C=>?_);refine cl (fu:=⟨2⟩) J (Js (a:=a) (by omega)) J<|cB J J J<|?_;refine ji 18 J J J (fun hg18=>?_) (fun hg18=>?_)
 .
  refine br (fu1:=⟨3⟩) J J J (fun hc12=>?_) (fun hc12=>?_)
  .
   refine nu (fu:=⟨0⟩) (((18446744073709551616-a)%18446744073709551616:Int)) J (by rw[n7];omega) J<|cu (zv n a) J (by subst hg18;rw[HM];simp only[zv,if_true];omega) J<|?_;exact rz J J
  .
   exact absurd (by omega) hc12
 .
  refine ji 32 J J J (fun hg32=>?_) (fun hg32=>?_)
  .
   refine br J J J (fun hc25=>?_) (fun hc25=>?_)
   .
    exact rz J (by subst hg18;rfl)
   .
    exact absurd (by omega) hc25
  .
   subst hg18;cases hg32
def xM{neg:Bool}{a i:Nat}[h:BN a i](hi:i<=1000000000:=by decide):PF GB prog 123 [eS neg a] (eI (zv neg a)):=by
 refine fn func123 J J ntmps123 J J (fun C=>?_);refine cl J (x7 hi) J<|?_;refine ji 9 J J J (fun hg9=>?_) (fun hg9=>?_)
 .
  exact rz J (by rw[CF];simp[hg9,xz,jn])
 .
  exact rz J (by rw[CF];simp[hg9,xz,jn])
def EA{neg:Bool}{a:Nat}:PF GB prog 120 [.v (.bool neg),dN a] (eI (zv neg a)):=by
 refine fn func120 J J ntmps120 J J (fun C=>?_);refine ji 6 J J J (fun hg6=>?_) (fun hg6=>?_)
 .
  exact rz J (by rw[CF];simp[hg6,xz,jn])
 .
  exact rz J (by rw[CF];simp[hg6,xz,jn])
def Z7{m:Int}{i:Nat}[h:BI m i](hi:i<=1000000000:=by decide):PF GB prog 227 [eI m] (eI (-m)):=by
 refine fn func227 J J ntmps227 J J (fun C=>?_);refine cl J (xM (neg:=!decide (m<0)) (a:=m.natAbs) hi) J<|?_;exact rz J (by rw[Vp,ml];rfl)
def H8{a b:Int}{i j:Nat}[h:BI a i][k:BI b j](hi:i<=1000000000:=by decide)(hj:j<=1000000000:=by decide):PF GB prog 67 [eI a,eI b] (eI (a*b)):=by
 refine fn func67 J J ntmps67 J J (fun C=>?_);refine cl J (yH (a:=a.natAbs) (b:=b.natAbs) hi hj) J<|cl J EA J<|?_;exact rz J (by rw[show(!(decide (a<0)==decide (b<0)))=(decide (a<0) !=decide (b<0)) from J,OM,ml,ml];rfl)
def aCN{n1:Bool}{u:Nat}{b:Int}{i j:Nat}[h:BN u i][k:BI b j](hi:i<=1000000000:=by decide)(hj:j<=1000000000:=by decide):PF GB prog 66 [eS n1 u,eI b] (eI (zv n1 u+b)):=by
 refine fn func66 J J ntmps66 J J (fun C=>?_);refine bb J J J (fun hc13=>?_) (fun hc13=>?_)
 .
  refine cl J (aIy (b:=b.natAbs) hi hj) J<|cl J EA J<|?_;exact rz J (by rw[apa,show n1=decide (b<0) from by simpa using hc13,ml];rfl)
 .
  refine cl J (SB (b:=b.natAbs) hi hj) J<|?_;refine bd J J J (fun hc30=>?_) (fun hc30=>?_)
  .
   refine cl J EA J<|?_;exact rz J (by rw[aDM (by simpa using hc13) hc30];rfl)
  .
   refine cl J (SB (a:=b.natAbs) hj hi) J<|cl J EA J<|?_;exact rz J (by rw[aC8 (by simpa using hc13) (by omega)];rfl)
def aFA{a b:Int}{i j:Nat}[h:BI a i][k:BI b j](hi:i<=1000000000:=by decide)(hj:j<=1000000000:=by decide):PF GB prog 66 [eI a,eI b] (eI (a+b)):=(aCN (n1:=decide (a<0)) (u:=a.natAbs) hi hj).to (by rw[ml])
def iw(q:Rat):Prop:= ¬(q.num.natAbs<4611686018427387904/\q.den<4611686018427387904)
instance (q:Rat):Decidable (iw q):=inferInstanceAs (Decidable (¬_))
def cH(q:Rat):Int:=if iw q then 0 else q.num
def cG(q:Rat):Int:=if iw q then 0 else(q.den:Int)-1
def cP(q:Rat):DV:= .op (decide (iw q)) [.v (.bool (decide (q.num<0))),dN q.num.natAbs,dN q.den]
def eF(q:Rat):DV:= .ag [vI (cH q),vI (cG q),cP q]
abbrev bgT {q:Rat} (h:decide (iw q)=true):iw q:=of_decide_eq_true h
abbrev ul {q:Rat} (h:decide (iw q)=false): ¬iw q:=of_decide_eq_false h
abbrev Xg {q:Rat} (h: ¬decide (iw q)=false):iw q:=by simpa using h
abbrev oC {q:Rat} (h: ¬decide (iw q)=true): ¬iw q:=by simpa using h
def nO{q:Rat}(h: ¬iw q):cH q=q.num:=if_neg h
def pE{q:Rat}(h: ¬iw q):cG q=(q.den:Int)-1:=if_neg h
def qH{q:Rat}(h: ¬iw q):q.num.natAbs<4611686018427387904:=(Decidable.not_not.1 h).1
def qj{q:Rat}(h: ¬iw q):q.den<4611686018427387904:=(Decidable.not_not.1 h).2
def I4{q:Rat}(h:iw q):q≠0:=fun e=>by subst e;exact h ⟨by decide,by decide⟩
def tf{q:Rat}{m d:Int}{r:DV}(h: ¬iw q)(h1:q.num=m)(h2:(q.den:Int)-1=d)(e:r= .ag [vI m,vI d, .v (.pointer none)])(G:Gh)(y:Value)(k:Is G r y):Is G (eF q) y:=by
 subst e h1 h2;obtain⟨l,rfl,g⟩:=et.1 k;obtain⟨y1,l1,rfl,k1,g1⟩:=bu.1 g;obtain⟨y2,l2,rfl,k2,g2⟩:=bu.1 g1;obtain⟨y3,l3,rfl,k3,g3⟩:=bu.1 g2;exact et.2 ⟨_,J, .cons (by rw[nO h];exact k1) (.cons (by rw[pE h];exact k2) (.cons (xf.2 (.inl ⟨decide_eq_false h,bc.1 k3⟩)) g3))⟩
def Oq{q:Rat}{n:Bool}{a d:Nat}{r:DV}(h:iw q)(h1:decide (q.num<0)=n)(h2:q.num.natAbs=a)(h3:q.den=d)(e:r= .ag [vI 0,vI 0, .pt [.v (.bool n),dN a,dN d]])(G:Gh)(y:Value)(k:Is G r y):Is G (eF q) y:=by
 subst e h1 h2 h3;obtain⟨l,rfl,g⟩:=et.1 k;obtain⟨y1,l1,rfl,k1,g1⟩:=bu.1 g;obtain⟨y2,l2,rfl,k2,g2⟩:=bu.1 g1;obtain⟨y3,l3,rfl,k3,g3⟩:=bu.1 g2;exact et.2 ⟨_,J, .cons (by unfold cH;rw[if_pos h];exact k1) (.cons (by unfold cG;rw[if_pos h];exact k2) (.cons (xf.2 (.inr ⟨decide_eq_true h,k3⟩)) g3))⟩
def xR(G:Gh)(y:Value)(k:Is G (.ag [vI 0,vI 0, .v (.pointer none)]) y):Is G (eF 0) y:=tf (fun h=>I4 h J) J J J G y k
def M6{m:Int}(h:m.natAbs<4611686018427387904)(G:Gh)(y:Value)(k:Is G (.ag [vI m,vI 0, .v (.pointer none)]) y):Is G (eF (m:Rat)) y:=
 tf (fun k=>k ⟨by simpa using h,by rw[rZ];decide⟩) (rQ m) (by rw[rZ];rfl) J G y k
def Mf{n:Bool}{a d:Nat}(hd:0<d):(mkRat (zv n a) d).num=zv n (a/Nat.gcd a d)/\(mkRat (zv n a) d).den=d/Nat.gcd a d:=by
 obtain⟨h1,h2⟩:=MV (m:=zv n a) hd;rw[rx] at h1 h2;exact⟨by rw[h1,XC (nU _ _)],h2⟩
def K2{n:Bool}{a d a' d':Nat}(hd:0<d)(ha:a'=a/Nat.gcd a d)(hd':d'=d/Nat.gcd a d)(h1:a'<4611686018427387904)(h2:d'<4611686018427387904)(G:Gh)(y:Value)(k:Is G (.ag [vI (zv n a'),vI ((d':Int)-1), .v (.pointer none)]) y):Is G (eF (mkRat (zv n a) d)) y:=by
 obtain⟨e1,e2⟩:=Mf (n:=n) (a:=a) hd;rw[<-ha] at e1;rw[<-hd'] at e2;exact tf (fun k=>k ⟨by rw[e1,rx];exact h1,by rw[e2];exact h2⟩) e1 (by rw[e2]) J G y k
def Ef{n:Bool}{a d a' d':Nat}(hd:0<d)(ha:a'=a/Nat.gcd a d)(hd':d'=d/Nat.gcd a d)(h: ¬(a'<4611686018427387904/\d'<4611686018427387904))(G:Gh)(y:Value)(k:Is G (.ag [vI 0,vI 0, .pt [.v (.bool (decide (zv n a'<0))),dN (zv n a').natAbs,dN d']]) y):Is G (eF (mkRat (zv n a) d)) y:=by
 obtain⟨e1,e2⟩:=Mf (n:=n) (a:=a) hd;rw[<-ha] at e1;rw[<-hd'] at e2;exact Oq (fun k=>h ⟨by rw[e1,rx] at k;exact k.1,by rw[e2] at k;exact k.2⟩) (by rw[e1]) (by rw[e1]) e2 J G y k
def Vn{a d:Nat}(hd:0<d)(h: ¬(1:Int)<(bl (Nat.gcd a d):Nat)):Nat.gcd a d=1:=by
 have h1:Nat.gcd a d≠0:=fun e=>by rw[Nat.gcd_eq_zero_iff] at e;omega
 have h2:Nat.gcd a d<2^1:=o8.1 (by omega);omega
def n9{x:Nat}:(((bl x:Nat):Int)<=62)↔x<4611686018427387904:=TE
def PF.ofI{P:Program}{f:FuncId}{ds ds':List DV}{r:DV}(h:PF GB P f ds r)(k: ∀G vs,IsLs G ds' vs->IsLs G ds vs):PF GB P f ds' r:=fun G vs hg hv=>h G vs hg (k G vs hv)
def uM{n:Bool}{a d i j:Nat}[h:BN a i][k:BN d j](hi:i<=450000000:=by decide)(hj:j<=450000000:=by decide):PF GB prog 70 [eS n a,dN d] (eF (mkRat (zv n a) d)):=by
 refine fn func70 J J ntmps70 J J (fun C=>?_);refine cl J (uX (a:=d) (by omega)) J<|?_;refine cs 13 J J J (fun hg13=>?_) (fun hg13=>?_)
 .
  exact jm rfl (by obtain rfl:=FB.1 (Int.ofNat.inj hg13);rw[Rat.mkRat_zero];exact xR)
 .
  have hd0:0<d:=by have:= @FB d;omega
  have hg0:0<Nat.gcd a d:=oT _ hd0;refine cl J (KN (n:=n) (a:=a) (by omega)) J<|?_;refine br J J J (fun hc17=>?_) (fun hc17=>?_)
  .
   exact jm J (by rw[jY.1 hc17,Rat.zero_mkRat];exact xR)
  .
   refine cl J (Ho (a:=a) (b:=d) (by omega) (by omega)) J<|cl J (uX (a:=Nat.gcd a d) (i:=i+j) (by omega)) J<|?_;refine br J J J (fun hc25=>?_) (fun hc25=>?_)
   .
    obtain⟨a',ea⟩: ∃a',a'=a/Nat.gcd a d:=⟨_,rfl⟩;obtain⟨d',ed⟩: ∃d',d'=d/Nat.gcd a d:=⟨_,rfl⟩;have hba:BN a' i:=ea▸inferInstance;have hbd:BN d' j:=ed▸inferInstance;refine cl (fu:=⟨2⟩) J (NV (a:=a) (b:=Nat.gcd a d) (j:=i+j) hg0 (by omega) (by omega)) J<|?_;refine ak 31 (.d (dN a')) J (by rw[ea]) ?_;refine gx J<|cl (fu:=⟨2⟩) J (NV (a:=d) (b:=Nat.gcd a d) (j:=i+j) hg0 (by omega) (by omega)) J<|?_;refine ak 39 (.d (dN d')) J (by rw[ed]) ?_;refine gx J<|cl J (uX (h:=hba) (by omega)) J<|?_;refine cs 46 J J J (fun hg46=>?_) (fun hg46=>?_)
    .
     refine cl J (uX (h:=hbd) (by omega)) J<|?_;refine br J J J (fun hc50=>?_) (fun hc50=>?_)
     .
      have hs2:=n9.1 hc50;refine cl J (Kj (n9.1 hg46)) J<|cl J (Js (by have:=n9.1 hc50;omega)) J<|?_;exact jm J (K2 hd0 ea ed (n9.1 hg46) (n9.1 hc50))
     .
      refine cl J (xM (neg:=n) (h:=hba) (by omega)) J<|cl J (x7 (h:=hbd) (by omega)) J<|fz 71 J J<|?_;exact jm J (Ef hd0 ea ed (fun e=>hc50 (n9.2 e.2)))
    .
     refine cl J (xM (neg:=n) (h:=hba) (by omega)) J<|cl J (x7 (h:=hbd) (by omega)) J<|fz 71 J J<|?_;exact jm J (Ef hd0 ea ed (fun e=>hg46 (n9.2 e.1)))
   .
    have hg1:=Vn hd0 hc25;have ea:a=a/Nat.gcd a d:=by rw[hg1,tN]
    have ed:d=d/Nat.gcd a d:=by rw[hg1,tN]
    have hba:=h;have hbd:=k;refine cl J (uX (h:=hba) (by omega)) J<|?_;refine cs 46 J J J (fun hg46=>?_) (fun hg46=>?_)
    .
     refine cl J (uX (h:=hbd) (by omega)) J<|?_;refine br J J J (fun hc50=>?_) (fun hc50=>?_)
     .
      have hs2:=n9.1 hc50;refine cl J (Kj (n9.1 hg46)) J<|cl J (Js (by have:=n9.1 hc50;omega)) J<|?_;exact jm J (K2 hd0 ea ed (n9.1 hg46) (n9.1 hc50))
     .
      refine cl J (xM (neg:=n) (h:=hba) (by omega)) J<|cl J (x7 (h:=hbd) (by omega)) J<|fz 71 J J<|?_;exact jm J (Ef hd0 ea ed (fun e=>hc50 (n9.2 e.2)))
    .
     refine cl J (xM (neg:=n) (h:=hba) (by omega)) J<|cl J (x7 (h:=hbd) (by omega)) J<|fz 71 J J<|?_;exact jm J (Ef hd0 ea ed (fun e=>hg46 (n9.2 e.1)))
def tB{m:Int}{i:Nat}[h:BI m i](hi:i<=400000000:=by decide):PF GB prog 192 [eI m] (eF (m:Rat)):=by
 refine fn func192 J J ntmps192 J J (fun C=>?_);refine rf (fu:=⟨0⟩) J J<|?_;refine ak 4 (.d (dN 1)) J (by unfold dN;rw[zb];rfl) ?_;refine gx J<|cl J (uM (n:=decide (m<0)) (a:=m.natAbs) (d:=1) (by omega)) J<|?_;exact rz J (by rw[ml,show mkRat m 1=(m:Rat) from sY ..];rfl)
def xk{q:Rat}:PF GB prog 180 [eF q] (vB (decide (q=0))):=by
 refine fn func180 J J ntmps180 J J (fun C=>?_);refine cs 6 J J J (fun hg6=>?_) (fun hg6=>?_)
 .
  exact rz J (by rw[nO (ul hg6)];show DV.v (.bool (decide _))= .v (.bool _);congr 2;exact decide_eq_decide.2 ⟨fun e=>lM.1 e,fun e=>by rw[e];rfl⟩)
 .
  exact rz J (by rw[decide_eq_false (I4 (Xg hg6))];rfl)
def AB{m:Int}(h:m.natAbs<9223372036854775808:=by omega):PF GB prog 118 [vI m] (.v (.int .u64 (m.natAbs:Nat))):=by
 refine fn func118 J J ntmps118 J J (fun C=>?_);refine br J J J (fun hc4=>?_) (fun hc4=>?_)
 .
  exact rz J (by show DV.v (.int _ _)=_;congr 2;omega)
 .
  exact rz J (by show DV.v (.int _ _)=_;congr 2;omega)
def qy{q:Rat}{i:Nat}[h:BQ q i](hi:i<=900000000:=by decide):PF GB prog 69 [eF q] (dN q.den):=by
 refine fn func69 J J ntmps69 J J (fun C=>?_);refine br (v1:=fun hc5=>by simp only[ah];exact hc5) (fu2:=⟨6⟩) J J J (fun hc5=>?_) (fun hc5=>?_)
 .
  refine cl J (x7 (a:=q.den) (by omega)) J<|?_;exact rz J J
 .
  have hd:=q.den_nz;have hs:=qj (oC hc5);refine ak 13 (.d (vI ((q.den:Int)-1))) J (by rw[pE (oC hc5)]) ?_;refine gx (fu:=⟨2⟩) J<|?_;refine ak 15 (.d (.v (.int .u64 (q.den:Nat)))) J (by congr 3;omega) ?_;refine gx J<|cl J (GZ (a:=q.den)) J<|?_;exact rz J J
def wN{q:Rat}{i:Nat}[h:BQ q i](hi:i<=900000000:=by decide):PF GB prog 68 [eF q] (eI q.num):=by
 refine fn func68 J J ntmps68 J J (fun C=>?_);refine br (v1:=fun hc5=>by simp only[ah];exact hc5) (fu2:=⟨6⟩) J J J (fun hc5=>?_) (fun hc5=>?_)
 .
  refine cl J (xM (neg:=decide (q.num<0)) (a:=q.num.natAbs) (by omega)) J<|?_;exact rz J (by rw[ml];rfl)
 .
  have hs:=qH (oC hc5);refine ak 13 (.d (vI q.num)) J (by rw[nO (oC hc5)]) ?_;refine gx J<|cl J (J1) J<|?_;exact rz J J
def qC{q:Rat}{i:Nat}[h:BQ q i](hi:i<=900000000:=by decide):PF GB prog 179 [eF q] (eF (-q)):=by
 refine fn func179 J J ntmps179 J J (fun C=>?_);refine br (v1:=fun hc5=>by simp only[ah];exact hc5) (fu2:=⟨6⟩) J J J (fun hc5=>?_) (fun hc5=>?_)
 .
  refine cl (fu:=⟨6⟩) (hv:=by simp only[ah];exact hc5) J (Z7 (m:=q.num) (by omega)) J<|Ff J J<|?_;exact jm J (Oq (q:= -q) (fun k=>bgT hc5 (by rw[nK,iX,pM] at k;exact k)) (by rw[nK]) (by rw[nK]) (pM q) J)
 .
  have hs:=qH (oC hc5);refine ak 21 (.d (vI q.num)) J (by rw[nO (oC hc5)]) ?_;refine gx J<|?_;exact jm J (tf (q:= -q) (fun k=>k (by rw[nK,iX,pM];exact⟨hs,qj (oC hc5)⟩)) (by rw[nK]) (by rw[pM,pE (oC hc5)]) J)
def nB{q:Rat}{i:Nat}[h:BQ q i](hi:i<=900000000:=by decide):PF GB prog 110 [eF q] (vI q.num.sign):=by
 refine fn func110 J J ntmps110 J J (fun C=>?_);refine br (v1:=fun hc3=>by simp only[ah];exact hc3) J J J (fun hc3=>?_) (fun hc3=>?_)
 .
  refine cl J (KN (n:=decide (q.num<0)) (a:=q.num.natAbs) (by omega)) J<|?_;exact rz J (by rw[ml];rfl)
 .
  have hs:=nO (oC hc3);refine br J J J (fun hc13=>?_) (fun hc13=>?_)
  .
   exact rz J (by rw[eJ (by omega)];rfl)
  .
   refine br J J J (fun hc17=>?_) (fun hc17=>?_)
   .
    exact rz J (by rw[dS (by omega)];rfl)
   .
    exact rz J (by rw[show q.num=0 by omega];rfl)
def aDb{h l y:Nat}(hh:h<y)(hl:l<4294967296)(hy:y<4294967296):PF GB prog 223 [.v (.int .u32 (h:Int)), .v (.int .u32 (l:Int)), .v (.int .u32 (y:Int))] (.tp [dU ((h*4294967296+l)/y),dU ((h*4294967296+l)%y)]):=by
 refine fn (fu:=⟨11⟩) func223 J J ntmps223 J J (fun C=>?_);refine kT 10 J (by omega) ?_;refine gx (fu:=⟨4⟩) J<|?_;refine kF 14 J (by omega) ?_;refine gx (fu:=⟨11⟩) (hv:=by simp only[ah];exact⟨by omega,(by decide)⟩) J<|?_;refine ak 19 (.d (.v (.int .u64 (h*2^32:Nat)))) J (by show FX.d (.v (.int _ _))= .d (.v (.int _ _));rw[sd _ 32 (by decide) (by show _*4294967296<_;omega) J]) ?_;refine gx (fu:=⟨3⟩) J<|?_;refine ak 22 (.d (.v (.int .u64 (l+h*2^32:Nat)))) J (congrArg (fun z:Nat=>FX.d (.v (.int .u64 (z:Int)))) (by rw[BitVec.or_comm];exact xE 64 l h 32 hl (by show _+_*4294967296<18446744073709551616;omega))) ?_;obtain⟨t,ht⟩: ∃t,t=h*4294967296+l:=⟨_,rfl⟩;have hq:t/y<4294967296:=by rw[kS (by omega)];have:=fJ 4294967296 (show h+1<=y from hh);omega
 have hr:t%y<y:=cS _ (by omega);refine ak 22 (.d (.v (.int .u64 (t:Nat)))) J (by show FX.d (.v (.int _ _))= .d (.v (.int _ _));congr 3;rw[ht];omega) ?_;refine gx (hv:=by simp only[ah];exact⟨⟨⟨⟨by omega,⟨(by omega),(by omega),(by omega)⟩⟩,by omega⟩,⟨(by omega),(by omega)⟩⟩,by kernel_rfl⟩) J<|?_;exact rz J (by show DV.tp [.v (.int _ _), .v (.int _ _)]= .tp [.v (.int _ _), .v (.int _ _)];rw[<-ht,<-qJ,<-pZ];generalize t/y=q at*;generalize t%y=r at*;congr 4<;>(first|omega|(congr 3;omega)))
def XT{A r i b:Nat}(d:Nat)(hb:0<b):(A*4294967296+d)/b=A/b*4294967296+(A%b*4294967296+d)/b/\(A*4294967296+d)%b=(A%b*4294967296+d)%b:=by
 have h:=qN A b;have e:A*4294967296+d=(A%b*4294967296+d)+b*(A/b*4294967296):=by
  rw[<-cX,Nat.add_right_comm,<-cM,kJ (A%b),h]
 rw[e,mU _ _ hb,nM];exact⟨kJ _ _,J⟩
def Q2{ds:List Nat}{i:Nat}(h:i<ds.length):dv (ds.drop i)=dv (ds.drop (i+1))*4294967296+ds.getD i 0:=by
 rw[bX h,aX,aQ h];simp only[dv,iK];omega
def NH{W:List Nat}{i q:Nat}(h:i<W.length):dv ((W.set i q).drop i)=dv (W.drop (i+1))*4294967296+q:=by
 rw[Q2 (by rw[bZ];exact h),qU (by omega),ON h]
def VP{a b k:Nat}{W:List Nat}(hb:0<b)(hk:k<(dg a).length)(hl:W.length=(dg a).length)(h:dv (W.drop (k+1))=dv ((dg a).drop (k+1))/b):
  dv ((W.set k ((dv ((dg a).drop (k+1))%b*4294967296+(dg a).getD k 0)/b)).drop k)=dv ((dg a).drop k)/b/\dv ((dg a).drop k)%b=(dv ((dg a).drop (k+1))%b*4294967296+(dg a).getD k 0)%b:=by
 have:=XT (A:=dv ((dg a).drop (k+1))) (r:=0) (i:=0) ((dg a).getD k 0) hb;rw[NH (by omega),h,Q2 hk,this.1,this.2];exact⟨J,J⟩
def xA{a b:Nat}:gO a b<0↔a<b:=by unfold gO;split<;>(try split)<;>omega
def zy{a b:Nat}:0<gO a b↔b<a:=by unfold gO;split<;>(try split)<;>omega
def aGh{x:Nat}(hx:x<4294967296):PF GB prog 188 [dU x] (vI (32-(bl x:Int))):=by
 intro G vs hg hv;obtain⟨v,m,rfl,h1,h2⟩:=bu.1 hv;rw[fh] at h2;subst h2;rw[bc.1 h1];exact(FC hx).mono fun v G' _ h=>bc.2 h
def PD{a k:Nat}(h:4294967296^k<=a):k<(dg a).length:=by
 have h1:=uE a;rcases iL k (dg a).length with q|q
 .exact q
 .have:4294967296^(dg a).length<=4294967296^k:=bU (by decide) q
  omega
def Nw{v L:Nat}(hL:L=(dg v).length)(h1:1<=L):(dg v).getD (L-1) 0=v/4294967296^(L-1)/\0<v/4294967296^(L-1):=by
 have h:=Fo (lc v) (L-1);rw[uU (by omega:(dg v).length<=L-1+1),cj,pN,fX] at h;have h2:=uE v;rw[<-hL] at h2;rw[jN (show v<4294967296^(L-1+2) from dY h2 (bU (by decide) (by omega))),pN,fX] at h;have h3:=rI (ew v).2.2 (by intro e;rw[e] at hL;simp at hL;omega);rw[cj,<-hL] at h3;exact⟨h.symm,Nat.div_pos h3 (fU (by decide))⟩
def F6{R n:Nat}(h1:1<=n)(h:R<4294967296^(n+1)):R/4294967296^(n-1)=(dg R).getD (n-1) 0+(dg R).getD n 0*4294967296:=by
 have e:=Fo (lc R) (n-1);rw[cj,show n-1+1=n by omega,jN (show R<4294967296^(n-1+2) by rwa [show n-1+2=n+1 by omega]),pN,fX,bN] at e;exact e
def axv{R v j L:Nat}(hL:L=(dg v).length)(h1:1<=L)(hR:R<v*4294967296^(j+1)):R/(v*4294967296^j)<=min (R/4294967296^(L+j-1)/(v/4294967296^(L-1))) 4294967295:=by
 have ht:=(Nw hL h1).2;have hp:0<4294967296^j:=fU (by decide);have hv0:0<v:=by
  rcases fT v with q|q
  .subst q;simp at ht
  .exact q
 have hvp:0<v*4294967296^j:=iT hv0 hp;refine Nat.le_min.2 ⟨?_,?_⟩
 .rw[sJ ht,sJ (fU (by decide))]
  have h3:v/4294967296^(L-1)*4294967296^(L-1)<=v:=Nat.div_mul_le_self _ _;have h4:R/(v*4294967296^j)*(v*4294967296^j)<=R:=Nat.div_mul_le_self _ _;rw[show L+j-1=L-1+j by omega,fK]
  calc R/(v*4294967296^j)*(v/4294967296^(L-1))*(4294967296^(L-1)*4294967296^j)
    =R/(v*4294967296^j)*((v/4294967296^(L-1)*4294967296^(L-1))*4294967296^j):=by simp only[cX]
   _<=R/(v*4294967296^j)*(v*4294967296^j):=fJ _ (bW _ h3)
   _<=R:=h4
 .have:R/(v*4294967296^j)<4294967296:=by
   rw[kS hvp];rw[fL] at hR;rwa [bN,cX]
  omega
def B5{R V g:Nat}(hV:0<V)(h:R<V*g):R/V<g:=by
 rw[kS hV,bN];exact h
def ay2{R V g:Nat}(hV:0<V)(h1:R/V<=g)(h2:V*g<=R):g=R/V:=by
 have:g<=R/V:=by rw[sJ hV,bN];exact h2
 omega
def Sy{R0 R v j g:Nat}{W:List Nat}(hj:j<W.length)(h:R0=R+dv (W.drop (j+1))*4294967296^(j+1)*v)(hv:0<v*4294967296^j)(hg:g=R/(v*4294967296^j)):
  R0=(R-v*4294967296^j*g)+dv ((W.set j g).drop j)*4294967296^j*v/\R-v*4294967296^j*g<v*4294967296^j:=by
 have h1:=qN R (v*4294967296^j);have h2:=cS R hv;rw[<-hg] at h1;refine⟨?_,by omega⟩;rw[NH hj,cM,cM,h,fL];have e:g*4294967296^j*v=v*4294967296^j*g:=by simp only[cX,lY,bN]
 have e2:dv (W.drop (j+1))*(4294967296^j*4294967296)*v=dv (W.drop (j+1))*4294967296*4294967296^j*v:=by simp only[cX,lY,bN]
 rw[e,e2];omega
def axR{a b s R:Nat}{D:Nat}(hR:R<b*2^s)(h:a*2^s=R+D*(b*2^s)):D=a/b/\R/2^s=a%b:=by
 have hp:0<2^s:=fU (by decide);have hb:0<b:=by
  rcases fT b with q|q
  .subst q;simp at hR
  .exact q
 have h1:a=R/2^s+D*b:=by
  have:=congrArg (· /2^s) h;rw[Nat.mul_div_cancel _ hp,<-cX,Nat.add_mul_div_right _ _ hp] at this;exact this
 have h2:R/2^s<b:=by rw[kS hp];exact hR
 have h3:R/2^s+b*D=a:=by rw[bN b];exact h1.symm
 have:=(Nat.div_mod_unique hb).2 ⟨h3,h2⟩;exact⟨this.1.symm,this.2.symm⟩
def asU{a b s:Nat}(hl:(dg b).length<=(dg a).length)(h2:1<=(dg b).length):a*2^s<b*2^s*4294967296^((dg a).length-(dg b).length+1):=by
 have h1:=uE a;have h3:=rI (ew b).2.2 (by intro e;rw[e] at h2;simp at h2);rw[cj] at h3;have h4:4294967296^(dg a).length<=b*4294967296^((dg a).length-(dg b).length+1):=by
  rw[show(dg a).length=((dg b).length-1)+((dg a).length-(dg b).length+1) by omega,fK];rw[show(dg b).length-1+((dg a).length-(dg b).length+1)-(dg b).length+1=(dg a).length-(dg b).length+1 by omega];exact bW _ h3
 rw[rK];exact lV (dY h1 h4) (fU (by decide))
def La(x j:Nat):x*2^(32*j)=x*4294967296^j:=by rw[pL]
def U6{R L j:Nat}(h:R<4294967296^(L+j+1))(h1:1<=L):R/4294967296^(L+j-1)<18446744073709551616:=by
 rw[kS (fU (by decide)),show(18446744073709551616:Nat)=4294967296^2 from J,<-fK];rwa [show 2+(L+j-1)=L+j+1 by omega]
def azt{R v j L:Nat}(hL:L=(dg v).length)(hR:R<v*4294967296^(j+1)):R<4294967296^(L+j+1):=by
 have h:=uE v;rw[<-hL] at h;rw[kW,fK];exact dY hR (bW _ (mW h))
def aHl{a b ia ib:Nat}[ha:BN a ia][hb:BN b ib](hi:ia<=500000000)(hj:ib<=500000000)(h2:1<=(dg b).length)(hl:(dg b).length<=(dg a).length):PF GB prog 224 [dN a,dN b] (.tp [dN (a/b),dN (a%b)]):=by
 have hla:=fp (dg a);have hlb:=fp (dg b);have hba:=lm ha.h;have hba':(dg a).length<=20000000:=by omega
 refine fn func224 J J ntmps224 J J (fun C=>?_);refine ix _ J (gP (k:=(dg b).length-1)) J<|cl (fu:=⟨0⟩) J (aGh (iu b ((dg b).length-1))) J<|?_;obtain⟨s,hs⟩: ∃s:Nat,s=32-bl ((dg b).getD ((dg b).length-1) 0):=⟨_,rfl⟩;have hs32:s<=32:=by omega
 refine ak 22 (.d (vI (s:Nat))) J (by show FX.d (.v (.int _ _))= .d (.v (.int _ _));congr 3;have:=o8.2 (show(dg b).getD ((dg b).length-1) 0<2^32 from iu b _);omega) ?_;refine gx J<|cl J (DG (a:=b) (k:=s) (ia:=ib) (by omega) (by omega)) J<|cl (fu:=⟨0⟩) J (DG (a:=a) (k:=s) (ia:=ia) (by omega) (by omega)) J<|?_;obtain⟨v,hv⟩: ∃v,v=b*2^s:=⟨_,rfl⟩;obtain⟨R0,hR0⟩: ∃R0,R0=a*2^s:=⟨_,rfl⟩;refine ak 25 (.d (dN v)) J (by rw[hv]) ?_;refine ak 28 (.d (dN R0)) J (by rw[hR0]) ?_;obtain⟨L,hL⟩: ∃L,L=(dg v).length:=⟨_,rfl⟩;have hlv:((dg v).map dU).length=L:=by rw[fp,hL]
 have hps:2^s<=2^32:=bU (by decide) hs32;have hpp:0<2^s:=fU (by decide);have hst:=asU (a:=a) (b:=b) (s:=s) hl h2;rw[<-hv,<-hR0] at hst;have hvb:v<2^(ib+32):=by rw[hv,fK];exact nS hb.h hps (by decide)
 have hRb:R0<2^(ia+32):=by rw[hR0,fK];exact nS ha.h hps (by decide)
 have hbp:0<b:=iY (fun q=>by subst q;rw[yc] at h2;simp at h2);have hvp:0<v:=hv▸iT hbp hpp;have hLp:1<=L:=by rw[hL];exact PD (k:=0) (by rw[rS];exact hvp)
 have htop:=Nw hL hLp;haveI hvB:BN v (ib+32):=⟨hvb⟩;have hLb:=lm hvb;have hLb':L<=20000000:=by omega
 have htl:=iu v (L-1);refine gx (fu:=⟨9⟩) J<|?_;refine ak 31 (.d (vI (L:Nat))) J (by rw[hlv];rfl) ?_;refine gx J<|ix (fu:=⟨2⟩) _ J (gP (k:=L-1)) J<|?_;refine ak 35 (.d (.v (.int .u64 (v/4294967296^(L-1):Nat)))) J (by rw[htop.1]) ?_;rw[htop.1] at htl;refine gx (fu:=⟨11⟩) J<|?_;obtain⟨m,hm⟩: ∃m,m=(dg a).length-(dg b).length+1:=⟨_,rfl⟩;rw[<-hm] at hst;have hrl:(List.replicate ((m:Nat):Int).toNat (DV.v (.int .u32 0))).length=m:=by rw[aR,bV]
 refine ak 41 (.d (vI (m:Nat))) J (by show FX.d (.v (.int _ _))= .d (.v (.int _ _));congr 3;omega) ?_;refine gx J<|mk ((List.replicate m 0).map dU) J J (by rw[<-xm];rfl) J<|?_;refine lp (X:=List Nat×Nat×Nat) (fun⟨W,R,k⟩=>[(6, .d (vI (s:Nat))),(7, .d (dN v)),(8, .d (dN R)),(9, .d (.v (.int .u64 (v/4294967296^(L-1):Nat)))),(10, .rw 42),(11, .d (vI ((k:Nat)-1)))]) (fun⟨W,R,k⟩=>[(42,some (.b 182 1 (W.map dU) true))]) (fun⟨W,R,k⟩=>W.length=m/\bi W/\k<=m/\R0=R+dv (W.drop k)*4294967296^k*v/\R<v*4294967296^k/\R<=R0) (fun⟨W,R,k⟩=>k) ⟨List.replicate m 0,R0,m⟩ J ⟨by simp, .replicate _,aM _,by simp[dv],hst,aM _⟩ (fun _=>J) (fun⟨W,R,k⟩ hk=>?_);dsimp only at hk⊢;obtain⟨h1,h2',h3,h4,h5,h6⟩:=hk;have hlw:=fp W;refine br (fu1:=⟨10⟩) J J J (fun hc47=>?_) (fun hc47=>?_)
 .
  obtain⟨j,rfl⟩: ∃j,k=j+1:=⟨k-1,by omega⟩;have hvj:0<v*4294967296^j:=iT hvp (fU (by decide));have hge:=axv hL hLp h5;have hlen:=azt hL h5;have hlr:((dg R).map dU).length=(dg R).length:=fp _;haveI hRB:BN R (ia+32):=⟨by omega⟩;have hq32:R/(v*4294967296^j)<4294967296:=by omega
  have hz1:=Int.natCast_nonneg (R/4294967296^(L+j-1));have hz2:=Int.natCast_nonneg (R/4294967296^(L+j-1)/(v/4294967296^(L-1)));refine ak 11 (.d (vI (j:Nat))) J (by show FX.d (.v (.int _ _))= .d (.v (.int _ _));congr 3;omega) ?_;refine mg (fu:=⟨6⟩) (hv:=fun _ _=>by simp only[ah];exact⟨(by omega),(by have:=U6 hlen hLp;omega),(by omega)⟩) (X:=Unit) (fun _=>[(6, .d (vI (s:Nat))),(7, .d (dN v)),(8, .d (dN R)),(9, .d (.v (.int .u64 (v/4294967296^(L-1):Nat)))),(10, .rw 42),(11, .d (vI (j:Nat))),(12, .d (.v (.int .u64 (R/4294967296^(L+j-1):Nat))))]) (fun _=>[(42,some (.b 182 1 (W.map dU) true))]) (fun _=>True) [6,7,8,9,10,11,12] [42] rfl ?_ (fun _=>J) (fun _ hm=>?_)
  .
   refine gx (fu:=⟨4⟩) J<|?_;refine ak 51 (.d (vI (L:Nat))) J (by rw[hlv];rfl) ?_;refine gx (fu:=⟨2⟩) J<|?_;refine ak 53 (.d (vI (L+j:Nat))) J (by show FX.d (.v (.int _ _))= .d (.v (.int _ _));congr 3) ?_;refine gx (fu:=⟨8⟩) J<|?_;refine ak 56 (.d (vI ((dg R).length:Nat))) J (by rw[hlr];rfl) ?_;refine gx J<|?_;refine br (fu2:=⟨6⟩) J J J (fun hc57=>?_) (fun hc57=>?_)
   .
    have hd0:=iu R (L+j-1);have hd1:=iu R (L+j);refine ix (hv:=by simp only[ah];exact⟨⟨by omega,(by decide)⟩,by omega⟩) _ J (gP (k:=L+j)) J<|ix (fu:=⟨3⟩) _ J (gP (k:=L+j-1)) J<|?_;refine ak 70 (.d (.v (.int .u64 ((dg R).getD (L+j-1) 0+(dg R).getD (L+j) 0*4294967296:Nat)))) J (congrArg (fun z:Nat=>FX.d (.v (.int .u64 (z:Int)))) (by rw[sd _ 32 (by decide) (by show _*4294967296<_;omega) J,BitVec.or_comm];exact xE 64 ((dg R).getD (L+j-1) 0) ((dg R).getD (L+j) 0) 32 hd0 (by show _+_*4294967296<18446744073709551616;omega))) ?_;refine gx J<|?_;refine ak 12 (.d (.v (.int .u64 (R/4294967296^(L+j-1):Nat)))) J (by rw[F6 (by omega) hlen]) ?_;exact at_ () trivial
   .
    refine ak 74 (.d (vI ((dg R).length:Nat))) J (by rw[hlr];rfl) ?_;refine gx J<|?_;refine br J J J (fun hc75=>?_) (fun hc75=>?_)
    .
     have hd0:=iu R (L+j-1);refine ix _ J (gP (k:=L+j-1)) J<|?_;refine ak 12 (.d (.v (.int .u64 (R/4294967296^(L+j-1):Nat)))) J (by rw[F6 (by omega) hlen,uU (by omega:(dg R).length<=L+j),mK,fX]) ?_;exact at_ () trivial
    .
     refine ak 12 (.d (.v (.int .u64 (R/4294967296^(L+j-1):Nat)))) J (by rw[F6 (by omega) hlen,uU (by omega:(dg R).length<=L+j),uU (by omega:(dg R).length<=L+j-1)];rfl) ?_;exact at_ () trivial
  .
   obtain⟨g0,hg0'⟩: ∃g0,g0=min (R/4294967296^(L+j-1)/(v/4294967296^(L-1))) 4294967295:=⟨_,rfl⟩;rw[<-hg0'] at hge;have hg0:=hge;have hg1:g0<=4294967295:=by omega
   refine ak 85 (.d (.v (.int .u64 (g0:Nat)))) J (by show FX.d (.v (.int _ _))= .d (.v (.int _ _));congr 3;rw[<-qJ];split<;>omega) ?_;refine gx J<|cl J (ut (u:=g0)) J<|cl (fu:=⟨2⟩) J (se (ia:=ib+32) (ib:=32) (hb:=⟨by show _<4294967296;omega⟩) (by omega) (by decide)) J<|?_;refine ak 91 (.d (vI (32*j:Nat))) J (by show FX.d (.v (.int _ _))= .d (.v (.int _ _));congr 3) ?_;refine gx J<|cl (fu:=⟨0⟩) J (DG (k:=32*j) (ia:=ib+64) (ha:=⟨by rw[show ib+64=ib+32+32 by omega,fK];exact pX hvb (by show _<4294967296;omega)⟩) (by omega) (by omega)) J<|?_;refine ak 92 (.d (dN (v*4294967296^j*g0))) J (by rw[La,rK]) ?_;refine gx J<|?_;refine lp (X:=Nat) (fun g=>[(6, .d (vI (s:Nat))),(7, .d (dN v)),(8, .d (dN R)),(9, .d (.v (.int .u64 (v/4294967296^(L-1):Nat)))),(10, .rw 42),(11, .d (vI (j:Nat))),(14, .d (.v (.int .u64 (g:Nat)))),(15, .d (dN (v*4294967296^j*g)))]) (fun g=>[(42,some (.b 182 1 (W.map dU) true))]) (fun g=>R/(v*4294967296^j)<=g/\g<=4294967295) (fun g=>g) g0 J ⟨hg0,by omega⟩ (fun _=>J) (fun g hk=>?_);obtain⟨g1,g2⟩:=hk;have hlw:=fp W;refine cl J (Au (a:=v*4294967296^j*g) (b:=R) (by have:=Ev (a:=v*4294967296^j*g) (k:=L+j+1) (by have h1:=uE v;rw[<-hL] at h1;rw[fL,fK];exact pX (lV h1 (fU (by decide))) (by omega));omega) (by have:=Ev hlen;omega)) J<|?_;refine br (fu1:=⟨7⟩) (v1:=fun hc96=>by simp only[ah];exact(by have h:=B5 hvj (zy.1 hc96);have h1:1<=g:=fR (aN _) h;omega)) (fu2:=⟨11⟩) J J J (fun hc96=>?_) (fun hc96=>?_)
   .
    have hgd:=B5 hvj (zy.1 hc96);have hg1p:1<=g:=fR (aN _) hgd;refine ak 98 (.d (.v (.int .u64 ((g-1:Nat):Int)))) J (by show FX.d (.v (.int _ _))= .d (.v (.int _ _));congr 3;omega) ?_;refine gx J<|cl J (ut (u:=g-1)) J<|cl (fu:=⟨2⟩) J (se (ia:=ib+32) (ib:=32) (hb:=⟨by show _<4294967296;omega⟩) (by omega) (by decide)) J<|?_;refine ak 104 (.d (vI (32*j:Nat))) J (by show FX.d (.v (.int _ _))= .d (.v (.int _ _));congr 3) ?_;refine gx J<|cl (fu:=⟨0⟩) J (DG (k:=32*j) (ia:=ib+64) (ha:=⟨by rw[show ib+64=ib+32+32 by omega,fK];exact pX hvb (by show _<4294967296;omega)⟩) (by omega) (by omega)) J<|?_;refine ak 105 (.d (dN (v*4294967296^j*(g-1)))) J (by rw[La,rK]) ?_;refine gx J<|?_;exact at_ (g-1) ⟨⟨by have h:=B5 hvj (zy.1 hc96);omega,by omega⟩,(by have:=B5 hvj (zy.1 hc96);omega)⟩
   .
    have hgq:=ay2 hvj g1 (sV fun q=>hc96 (zy.2 q));refine ak 109 (.d (dU g)) J (by show FX.d (.v (.int _ _))= .d (.v (.int _ _));congr 3;omega) ?_;refine gx J<|sb _ ((W.set j (R/(v*4294967296^j))).map dU) J (gP (k:=j)) J (by(rw[<-hgq,bV,<-uO])<;>rfl) J<|?_;refine cl (fu:=⟨0⟩) J (Fz (a:=R) (b:=v*4294967296^j*g) (ia:=ia+32) (by rw[hgq];exact Nat.mul_div_le _ _) (by omega)) J<|?_;refine ak 113 (.d (dN (R-v*4294967296^j*(R/(v*4294967296^j))))) J (by rw[hgq]) ?_;refine gx J<|?_;exact at_ ⟨W.set j (R/(v*4294967296^j)),R-v*4294967296^j*(R/(v*4294967296^j)),j⟩ (by dsimp only;exact⟨⟨by simpa using h1,h2'.set _ (by omega),by omega,(Sy (by omega) h4 hvj J).1,(Sy (by omega) h4 hvj J).2,by omega⟩,(by omega)⟩)
 .
  obtain rfl:k=0:=by omega
  rw[rS,iU] at h5;rw[rS,iU,iZ,hR0,hv] at h4;rw[hv] at h5;have hend:=axR h5 h4;haveI hRB:BN R (ia+32):=⟨by omega⟩;refine fz 42 J J<|cl J (rE (ds:=W)) J<|cl J (aCZ (a:=R) (k:=s) (ia:=ia+32) (by omega) (by omega)) J<|?_;exact rz J (by show DV.tp [fC _,dN _]= .tp [dN _,dN _];rw[t7 h2' hend.1,hend.2])
def apo{a b:Nat}(h:b<=a):(dg b).length<=(dg a).length:=Ev (fR h (uE a))
def xy{a b ia ib:Nat}[ha:BN a ia][hb:BN b ib](hb0:0<b)(hi:ia<=500000000:=by decide)(hj:ib<=500000000:=by decide):PF GB prog 174 [dN a,dN b] (.tp [dN (a/b),dN (a%b)]):=by
 have hla:=fp (dg a);have hlb:=fp (dg b);have hba:=lm ha.h;have hbb:=lm hb.h;have hba':(dg a).length<=20000000:=by omega
 have hbb':(dg b).length<=20000000:=by omega
 have hlb1:1<=(dg b).length:=PD (k:=0) (by rw[rS];exact hb0);refine fn (fu:=⟨7⟩) func174 J J ntmps174 J J (fun C=>?_);refine mg (X:=Unit) (fun _=>[(0, .d (dN a)),(1, .d (dN b))]) (fun _=>[]) (fun _=>True) [0,1] [] rfl ?_ (fun _=>J) (fun _ hm=>?_)
 .
  refine gx J<|cl J (CU (a:=a) (ia:=ia) (by omega)) J<|?_;refine bd (fu1:=⟨0⟩) J J J (fun hc18=>?_) (fun hc18=>?_)
  .
   refine ak 6 (.d (.v (.int .u64 (a:Nat)))) J (by rw[if_pos hc18]) ?_;refine gx J<|cl J (CU (a:=b) (ia:=ib) (by omega)) J<|?_;refine bd (fu1:=⟨0⟩) J J J (fun hc24=>?_) (fun hc24=>?_)
   .
    refine ak 8 (.d (.v (.int .u64 (b:Nat)))) J (by rw[if_pos hc24]) ?_;have hdl:=kN a b;have hml:=Nat.mod_le a b;refine gx (hv:=by simp only[ah];exact⟨(by omega),(by omega),(by omega)⟩) J<|cl (hv:=by simp only[ah];exact⟨(by omega),(by omega)⟩) J (ut (u:=a/b)) J<|cl J (ut (u:=a%b)) J<|?_;exact rz J J
   .
    exact at_ () trivial
  .
   exact at_ () trivial
 .
  refine cl J (Au) J<|?_;refine br J J J (fun hc36=>?_) (fun hc36=>?_)
  .
   have hab:=xA.1 hc36;refine r7 J J<|ap _ J J (uD _) J<|?_;refine gI 39 J ?_;exact rz J (by show DV.tp [_, .sl ([]++_)]= .tp [_,_];rw[jN hab,dV hab,p6];rfl)
  .
   have hab:b<=a:=sV fun q=>hc36 (xA.2 q);have hlab:(dg b).length<=(dg a).length:=apo hab;refine br (fu1:=⟨4⟩) J J J (fun hc42=>?_) (fun hc42=>?_)
   .
    have hb1:b<4294967296:=by have:=uE b;rw[show(dg b).length=1 by omega] at this;omega
    have hbd:(dg b).getD 0 0=b:=yh;refine ak 44 (.d (vI ((dg a).length:Nat))) J (by rw[hla];rfl) ?_;refine gx J<|mk (fu:=⟨13⟩) ((List.replicate (dg a).length 0).map dU) J J (by rw[<-xm];rfl) J<|?_;refine ak 47 (.d (vI ((dg a).length:Nat))) J (by rw[hla];rfl) ?_;refine gx J<|?_;refine lp (X:=List Nat×Nat) (fun⟨W,k⟩=>[(0, .d (dN a)),(1, .d (dN b)),(10, .rw 45),(11, .d (dU (dv ((dg a).drop k)%b))),(12, .d (vI ((k:Nat)-1)))]) (fun⟨W,k⟩=>[(45,some (.b 182 1 (W.map dU) true))]) (fun⟨W,k⟩=>W.length=(dg a).length/\bi W/\k<=(dg a).length/\dv (W.drop k)=dv ((dg a).drop k)/b) (fun⟨W,k⟩=>k) ⟨List.replicate (dg a).length 0,(dg a).length⟩ J ⟨by simp, .replicate _,aM _,by simp[dv]⟩ (fun _=>J) (fun⟨W,k⟩ hk=>?_) (hF:=(by refine⟨J,J,J,p9 J (by simp[dv,dU]),p9 J (by simp[vI]),?_⟩;repeat (first|exact trivial|refine And.intro J ?_)))
    try dsimp only at hk⊢
    obtain⟨h1,h2,h3,h4⟩:=hk;have hlw:=fp W;refine br (fu1:=⟨0⟩) J J J (fun hc50=>?_) (fun hc50=>?_)
    .
     obtain⟨k,rfl⟩: ∃j,k=j+1:=⟨k-1,by omega⟩;have hsi:=VP hb0 (by omega) h1 h4;have hrm:=cS (dv ((dg a).drop (k+1))) hb0;have hdk:=iu a k;have hqd:(dv ((dg a).drop (k+1))%b*4294967296+(dg a).getD k 0)/b<4294967296:=by rw[kS hb0];have:=fJ 4294967296 (show dv ((dg a).drop (k+1))%b+1<=b from hrm);omega
     refine ak 12 (.d (vI (k:Nat))) J (by show FX.d (.v (.int _ _))= .d (.v (.int _ _));congr 3;omega) ?_;refine gx J<|ix _ J (gP (k:=k)) J<|ix _ J (gP (k:=0) J (by omega)) J<|cl J (aDb (h:=dv ((dg a).drop (k+1))%b) (l:=(dg a).getD k 0) (y:=(dg b).getD 0 0) (by omega) hdk (by omega)) J<|?_;refine sb (hv:=by simp only[ah];exact⟨by kernel_rfl,by omega⟩) _ ((W.set k ((dv ((dg a).drop (k+1))%b*4294967296+(dg a).getD k 0)/b)).map dU) J (gP (k:=k)) J (by(rw[hbd,bV,<-uO])<;>rfl) J<|?_;exact at_ ⟨W.set k ((dv ((dg a).drop (k+1))%b*4294967296+(dg a).getD k 0)/b),k⟩ (by dsimp only;exact⟨⟨by simpa using h1,h2.set _ hqd,by omega,hsi.1⟩,(by omega)⟩) (by refine⟨J,J,J,p9 J (by rw[hsi.2,hbd]),p9 J (by first|(simp[vI];done)|(simp[vI];omega)),?_⟩;repeat (first|exact trivial|refine And.intro J ?_))
    .
     refine fz 45 J J<|cl J (rE (ds:=W)) J<|rf J J<|cl J (rE (ds:=[dv ((dg a).drop k)%b]) (by simp)) J<|?_;exact rz rfl (by show DV.tp [fC _,fC _]= .tp [_,_];obtain rfl:k=0:=(by omega);rw[iZ,iZ,cj] at h4;rw[iZ,cj];rw[t7 h2 h4,t7 (.cons (by have:=cS a hb0;omega) .nil) (n:=a%b) (by simp[dv])])
   .
    refine cl J (aHl (by omega) (by omega) hlb1 hlab) J<|?_;exact rz J J
def K6(x y:Nat):Nat.gcd y (x%y)=Nat.gcd x y:=by rw[jZ x y,tM y x,jZ]
def GX{a b ia ib:Nat}[ha:BN a ia][hb:BN b ib](hi:ia<=240000000:=by decide)(hj:ib<=240000000:=by decide):PF GB prog 172 [dN a,dN b] (dN (Nat.gcd a b)):=by
 refine fn (fu:=⟨6⟩) func172 J J ntmps172 J J (fun C=>?_);refine mg (X:=Unit) (fun _=>[(0, .d (dN a)),(1, .d (dN b))]) (fun _=>[]) (fun _=>True) [0,1] [] rfl ?_ (fun _=>J) (fun _ hm=>?_)
 .
  refine gx J<|cl J (CU (a:=a) (ia:=ia) (by omega)) J<|?_;refine bd (fu1:=⟨0⟩) J J J (fun hc16=>?_) (fun hc16=>?_)
  .
   refine ak 5 (.d (.v (.int .u64 (a:Nat)))) J (by rw[if_pos hc16]) ?_;refine gx J<|cl J (CU (a:=b) (ia:=ib) (by omega)) J<|?_;refine bd (fu1:=⟨0⟩) J J J (fun hc22=>?_) (fun hc22=>?_)
   .
    refine ak 7 (.d (.v (.int .u64 (b:Nat)))) J (by rw[if_pos hc22]) ?_;refine gx J<|?_;refine lp (X:=Nat×Nat) (fun⟨x,y⟩=>[(5, .d (.v (.int .u64 (x:Nat)))),(7, .d (.v (.int .u64 (y:Nat))))]) (fun⟨x,y⟩=>[]) (fun⟨x,y⟩=>x<18446744073709551616/\y<18446744073709551616/\Nat.gcd x y=Nat.gcd a b) (fun⟨x,y⟩=>y) ⟨a,b⟩ J ⟨hc16,hc22,J⟩ (fun _=>J) (fun⟨x,y⟩ hk=>?_)
    try dsimp only at hk⊢
    obtain⟨h1,h2,h3⟩:=hk;refine br (v1:=fun hc24=>by simp only[ah];exact⟨⟨(by omega),(by omega)⟩,by kernel_rfl⟩) J J J (fun hc24=>?_) (fun hc24=>?_)
    .
     exact at_ ⟨y,x%y⟩ (by dsimp only;exact⟨⟨h2,by have:=cS x (show 0<y by omega);omega,by rw[K6,h3]⟩,(by exact cS _ (by omega))⟩)
    .
     refine cl J (ut (u:=x) h1) J<|?_;exact rz J (by show dN x=_;rw[<-h3,show y=0 by omega,nR])
   .
    exact at_ () trivial
  .
   exact at_ () trivial
 .
  refine lp (fu:=⟨5⟩) (X:=Nat×Nat) (fun⟨x,y⟩=>[(0, .d (dN x)),(1, .d (dN y))]) (fun⟨x,y⟩=>[]) (fun⟨x,y⟩=>x<2^(ia+ib)/\y<2^(ia+ib)/\Nat.gcd x y=Nat.gcd a b) (fun⟨x,y⟩=>y) ⟨a,b⟩ J ⟨(ha.mono (by omega)).h,(hb.mono (by omega)).h,J⟩ (fun _=>J) (fun⟨x,y⟩ hk=>?_)
  try dsimp only at hk⊢
  obtain⟨h1,h2,h3⟩:=hk;have hly:=fp (dg y);haveI hx':BN x (ia+ib):=⟨h1⟩;haveI hy':BN y (ia+ib):=⟨h2⟩;refine ak 32 (.d (vI ((dg y).length:Nat))) J (by rw[hly];rfl) ?_;refine gx J<|?_;refine br J J J (fun hc33=>?_) (fun hc33=>?_)
  .
   have hy0:0<y:=iY fun q=>by subst q;rw[yc] at hc33;simp at hc33
   refine cl J (xy (a:=x) (b:=y) (ia:=ia+ib) (ib:=ia+ib) hy0 (by omega) (by omega)) J<|?_;exact at_ ⟨y,x%y⟩ (by dsimp only;exact⟨⟨h2,by have:=cS x hy0;omega,by rw[K6,h3]⟩,(by exact cS _ hy0)⟩)
  .
   have hy0:y=0:=vJ.1 (by omega);have hlx:=lm h1;have hmx:=fp (dg x);refine r7 J J<|ap _ J J (uD _) J<|?_;refine gI 44 J ?_;exact rz J (by show DV.sl ([]++_)=_;rw[<-h3,hy0,nR];rfl)
def RM(neg:Bool)(m:Nat):eI (zv neg m)= .ag [.v (.bool (neg&&decide (0<m))),dN m]:=by unfold eI;rw[rx,QR]
def aFp(z:Int):zv (!decide (z<0)) z.natAbs= -z:=by
 unfold zv;by_cases h:z<0<;>simp[h]<;>omega
def aBU(a b:Int):zv (!(decide (a<0)==decide (b<0))) (a.natAbs*b.natAbs)=a*b:=by
 have h:=OM (decide (a<0)) (decide (b<0)) a.natAbs b.natAbs;rw[ml,ml] at h;exact h
def kC{neg:Bool}{m:Nat}:PF GB prog 165 [.v (.bool neg),dN m] (eI (zv neg m)):=by
 have hl:=fp (dg m);have hz:= @vJ m;refine fn func165 J J ntmps165 J J (fun C=>?_);refine ji 6 J J J (fun hg6=>?_) (fun hg6=>?_)
 .
  exact rz J (by rw[RM,hg6];show DV.ag [.v (.bool _),_]= .ag [.v (.bool _),_];congr 4;rw[Bool.true_and];exact decide_eq_decide.2 (by omega))
 .
  exact rz J (by rw[RM,hg6];rfl)
end Go.Sx
end
section
namespace Go.Sx
open Go
instance:DecidableEq ab:=fun x y=>decidable_of_iff (x.a=y.a/\x.b=y.b/\x.c=y.c) (by
 cases x;cases y;simp)
structure aj where
 lo:Rat
 hi:Rat
 nl:Bool
 nh:Bool
def aj.all:aj:=⟨0,0,true,true⟩
def aj.empty(v:aj):Bool:=!v.nl&&(!v.nh&&decide (0<=bg v.lo v.hi))
def aj.meet(v w:aj):aj:=
 ⟨if v.nl then w.lo else if w.nl then v.lo else if v.lo<w.lo then w.lo else v.lo,
  if v.nh then w.hi else if w.nh then v.hi else if w.hi<v.hi then w.hi else v.hi,v.nl&&w.nl,v.nh&&w.nh⟩
def aj.sample(v:aj):Rat:=if v.nl&&v.nh then 0 else if v.nl then v.hi-1 else if v.nh then v.lo+1 else(v.lo+v.hi)*mkRat 1 2
def ab.cutK(l m:ab):Rat:=m.nor.dot l.dir
def ab.cutC(l m:ab):Rat:=m.value l.base
def ab.cutV(l:ab)(v:aj)(m:ab):aj:=
 if Int.sign (l.cutK m).num=0 then v
 else if Int.sign (l.cutK m).num=1 then v.meet ⟨-(l.cutC m/l.cutK m),0,false,true⟩
 else v.meet ⟨0, -(l.cutC m/l.cutK m),true,false⟩
def ab.cutB(l:ab)(v:aj)(m:ab):Bool:=
 if Int.sign (l.cutK m).num=0 then decide (0<Int.sign (l.cutC m).num) else !(l.cutV v m).empty
structure aP where
 l:ab
 v:aj
abbrev az:=List aP
def nG(l:ab):az->aj->Option aj
 |[],v=>some v
 |s::t,v=>if l.cutB v s.l then nG l t (l.cutV v s.l) else none
def lI(c:az)(l:ab):Option aj:=nG l c aj.all
def oH(l:ab)(s:aP):Int:=Int.sign (l.value (s.l.at s.v.sample)).num
def oF(l:ab):az->Int
 |[]=> -1
 |s::t=>if oH l s≠0 then oH l s else if s.l=l then 1 else oF l t
def wS(c:az)(l:ab):Int:=if(lI c l).isSome then 0 else oF l c
def aa.half(p:aa):Int:=
 if 0<Int.sign p.y.num\/(Int.sign p.y.num=0/\0<Int.sign p.x.num) then 1 else if Int.sign p.y.num<0\/Int.sign p.x.num<0 then 2 else 0
def co(u v:aa):Int:=if u.half<v.half then-1 else if v.half<u.half then 1 else-(Int.sign (u.cross v).num)
def eH(l:ab):az->az
 |[]=>[]
 |s::t=>if s.l.cutB s.v l then⟨s.l,s.l.cutV s.v l⟩::eH l t else eH l t
def gw(p:Nat->Bool)(i j:Nat):Nat:=
 if h:i<j then(if p ((i+j)/2) then gw p ((i+j)/2+1) j else gw p i ((i+j)/2)) else i
termination_by j-i
def jC(c:az)(l:ab)(i:Nat):Bool:=match c[i]? with
 |some s=>decide (co s.l.dir l.dir<0)
 |none=>false
def nq(c:az)(l:ab)(v:aj):az:=
 c.take (gw (jC c l) 0 c.length)++⟨l,v⟩::c.drop (gw (jC c l) 0 c.length)
def b8(c:az)(l:ab):az:=match lI c l with
 |some v=>nq (eH l c) l v
 |none=>c
def di(c:az)(l:ab):Bool:=match lI c l with
 |some _=>true
 |none=>decide (0<wS c l)
def Eg(p:Nat->Bool): ∀(d i j:Nat),j-i<=d->i<=j->i<=gw p i j/\gw p i j<=j
 |0,i,j,h,hij=>by
  rw[gw,dif_neg (by omega)];omega
 |d+1,i,j,h,hij=>by
  rw[gw];split
  .split
   .have:=Eg p d ((i+j)/2+1) j (by omega) (by omega);omega
   .have:=Eg p d i ((i+j)/2) (by omega) (by omega);omega
  .omega
def OY(l:ab): ∀c:az,(eH l c).length<=c.length
 |[]=>aM _
 |s::t=>by
  have:=OY l t;unfold eH;split<;>simp<;>omega
def axk(c:az)(l:ab)(v:aj):(nq c l v).length=c.length+1:=by
 have:=(Eg (jC c l) c.length 0 c.length (by omega) (by omega)).2;simp[nq];omega
def yt(c:az)(l:ab):(b8 c l).length<=c.length+1:=by
 unfold b8;split
 .rw[axk];have:=OY l c;omega
 .omega
inductive Tr where
 |leaf (b:Bool)
 |node (l:ab) (x y:Tr)
def Tr.isLeaf:Tr->Bool
 | .leaf _=>true
 | .node .. =>false
def Tr.code:Tr->Bool
 | .leaf b=>b
 | .node .. =>false
def Tr.depth:Tr->Nat
 | .leaf _=>0
 | .node _ x y=>1+max x.depth y.depth
def Tr.size:Tr->Nat
 | .leaf _=>0
 | .node _ x y=>1+x.size+y.size
def Tr.joinQ(l:ab)(x y:Tr):Tr:=if x.isLeaf&&(y.isLeaf&&(x.code==y.code)) then x else .node l x y
def Tr.restrict:Tr->az->Tr
 | .leaf b,_=> .leaf b
 | .node l x y,c=>if !di c l.rev then x.restrict c else if !di c l then y.restrict c else joinQ l (x.restrict (b8 c l)) (y.restrict (b8 c l.rev))
def Tr.parts:Tr->az->List (Bool×az)
 | .leaf b,c=>[(b,c)]
 | .node l x y,c=>(if di c l then x.parts (b8 c l) else [])++(if di c l.rev then y.parts (b8 c l.rev) else [])
def Tr.all(p:ab->Prop):Tr->Prop
 | .leaf _=>True
 | .node l x y=>p l/\x.all p/\y.all p
def Tr.good:Tr->Prop
 | .leaf _=>True
 | .node _ x y=> ¬(x.isLeaf=true/\y.isLeaf=true/\x.code=y.code)/\x.good/\y.good
structure NQ where
 l:ab
 a:Int
 b:Int
def so(b:Bool):Int:=if b then-2 else-1
def Tr.num:Tr->Nat->Int
 | .leaf b,_=>so b
 | .node ..,n=>n
def Tr.wr:Tr->Nat->List NQ
 | .leaf _,_=>[]
 | .node l x y,n=>⟨l,x.num (n+1),y.num (n+1+x.size)⟩::x.wr (n+1)++y.wr (n+1+x.size)
def Tr.wr_len: ∀(t:Tr) (n:Nat),(t.wr n).length=t.size
 | .leaf _,n=>rfl
 | .node l x y,n=>by
  have h1:=Tr.wr_len x (n+1);have h2:=Tr.wr_len y (n+1+x.size);simp[Tr.wr,Tr.size,h1,h2];omega
def Tr.joinQ_cases(l:ab)(x y:Tr):(Tr.joinQ l x y=x/\x.isLeaf=true)\/(Tr.joinQ l x y= .node l x y/\ ¬(x.isLeaf=true/\y.isLeaf=true/\x.code=y.code)):=by
 unfold Tr.joinQ;split
 .rename_i h
  simp at h;exact .inl ⟨J,h.1⟩
 .rename_i h
  simp at h;exact .inr ⟨J,fun⟨a,b,c⟩=>h a b c⟩
def Tr.restrict_depth: ∀(t:Tr) (c:az),(t.restrict c).depth<=t.depth
 | .leaf b,c=>aM _
 | .node l x y,c=>by
  unfold Tr.restrict;split
  .have:=x.restrict_depth c;simp only[Tr.depth];omega
  .split
   .have:=y.restrict_depth c;simp only[Tr.depth];omega
   .have h1:=x.restrict_depth (b8 c l)
    have h2:=y.restrict_depth (b8 c l.rev);rcases Tr.joinQ_cases l (x.restrict (b8 c l)) (y.restrict (b8 c l.rev)) with⟨h,_⟩|⟨h,_⟩
    .rw[h];simp only[Tr.depth];omega
    .rw[h];simp only[Tr.depth];omega
def Tr.restrict_all(p:ab->Prop): ∀(t:Tr) (c:az),t.all p->(t.restrict c).all p
 | .leaf b,c,_=>trivial
 | .node l x y,c,h=>by
  obtain⟨h0,h1,h2⟩:=h;unfold Tr.restrict;split
  .exact x.restrict_all p c h1
  .split
   .exact y.restrict_all p c h2
   .rcases Tr.joinQ_cases l (x.restrict (b8 c l)) (y.restrict (b8 c l.rev)) with⟨h,_⟩|⟨h,_⟩
    .rw[h];exact x.restrict_all p _ h1
    .rw[h];exact⟨h0,x.restrict_all p _ h1,y.restrict_all p _ h2⟩
end Go.Sx
end
