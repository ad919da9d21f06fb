import Derived.Test.YtochlbkonkgedaaGreatDoorQb10
set_option linter.all false
set_option maxHeartbeats 4000000
set_option maxRecDepth 100000
section
namespace Go.Sx
open Go Go.Proofs Tryz
variable {GB:Gh}
def AY(n:Nat)(a b k:Nat)(ha:a<2^k)(h:a+b*2^k<2^n):(BitVec.ofInt n (a:Int) ||| BitVec.ofInt n ((b*2^k:Nat):Int)).toNat=a+b*2^k:=by
 rw[BitVec.toNat_or,BitVec.ofInt_natCast,BitVec.ofInt_natCast,BitVec.toNat_ofNat,BitVec.toNat_ofNat,fU (by omega),fU (by omega)];rw[<-mK,Nat.or_comm,<-mY ha,mK];omega
def Jl{x y:Nat}(hx:x<4294967296)(hy:y<4294967296):x*y<=18446744065119617025:=by
 have:=lJ (by omega:x<=4294967295) (by omega:y<=4294967295);exact this
def O2(x y:Nat):(0:Int)<=(x:Int)*(y:Int):=by rw[<-jX];omega
def S2{x y:Nat}(hx:x<4294967296)(hy:y<4294967296):(x:Int)*(y:Int)<=18446744073709551615:=by
 have:=Jl hx hy;rw[<-jX];omega
def aDF{ds:List Nat}(h:ds.length=1):dv ds=ds.getD 0 0:=by
 match ds,h with
 |[d],_=>simp[dv]
def Aa{a:Nat}(h:(dg a).length=1):(dg a).getD 0 0=a:=by rw[<-aDF h,cx]
def awg{ds:List Nat}{j m:Nat}(h:j<m):(ds.take m).getD j 0=ds.getD j 0:=by
 rw[aK,aK,rK,if_pos h]
def Oa{W:List Nat}{j m d:Nat}(hj:j<m)(hm:m<=W.length):dv ((W.set j d).take m)+4294967296^j*W.getD j 0=dv (W.take m)+4294967296^j*d:=by
 rw[List.take_set,<-awg (ds:=W) hj];exact qv _ _ _ (by rw[cK];omega)
def ZG{W:List Nat}{P X Y m i k c y t S:Nat}(hk:i+k<m)(hm:m<=W.length)(h:dv (W.take m)+4294967296^(i+k)*c=P+X*(4294967296^i*S))(ht:t=Y+W.getD (i+k) 0+c)(hY:Y=X*y):
  dv ((W.set (i+k) (t%4294967296)).take m)+4294967296^(i+(k+1))*(t/4294967296)=P+X*(4294967296^i*(S+4294967296^k*y)):=by
 have h1:=Oa (W:=W) (d:=t%4294967296) hk hm;rw[ht,show Y+W.getD (i+k) 0+c=c+Y+W.getD (i+k) 0 by omega] at h1⊢;have h2:=Rk h1 h;rw[<-kN,gW,h2,hY,gJ];simp only[eX,cW,lK,cV,kN]
def axn{a b:Nat}{W:List Nat}{i c lb:Nat}(hlb:lb=(dg b).length)(hl:i+lb<W.length)(h:dv (W.take (i+lb))+4294967296^(i+lb)*c=dv ((dg a).take i)*b+(dg a).getD i 0*(4294967296^i*dv ((dg b).take lb))):
  dv ((W.set (i+lb) c).take (i+1+lb))=dv ((dg a).take (i+1))*b:=by
 rw[show i+1+lb=i+lb+1 by omega,qB hl,h,jj,pp (ds:=dg b) (by omega),cx b,dQ];simp only[cW,lK,cV]
def MP(n j:Nat):(List.replicate n 0).getD j 0=0:=by
 rw[aK,List.getElem?_replicate];split<;>rfl
def Da{k:Nat}(h:k<=1000000000):IntKind.i64.wrap ((k:Int).tdiv 32)=((k/32:Nat):Int):=by
 rw[show(k:Int).tdiv 32=((k/32:Nat):Int) from J,Hm];omega
def SQ(k:Nat):(k:Int).tmod 32=((k%32:Nat):Int):=rfl
def sG{a b ia ib:Nat}[ha:BN a ia][hb:BN b ib](hi:ia<=1000000000:=by decide)(hj:ib<=1000000000:=by decide):PF GB prog 71 [dN a,dN b] (dN (a*b)):=by
 have hla:=fB (dg a);have hlb:=fB (dg b);have hba:=vd ha.h hi;have hbb:=vd hb.h hj;refine fn (fu:=⟨6⟩) func71 J J ntmps71 J J (fun C=>?_);refine mg (fu:=⟨4⟩) (X:=Unit) (fun _=>[(0, .d (dN a)),(1, .d (dN b))]) (fun _=>[]) (fun _=>True) [0,1] [] rfl ?_ (fun _=>J) (fun _ hm=>?_)
 .
  refine gx J<|?_;refine cs 15 J J J (fun hg15=>?_) (fun hg15=>?_)
  .
   refine br J J J (fun hc19=>?_) (fun hc19=>?_)
   .
    have hd0:=ir a 0;have hd1:=ir b 0;refine ix _ J (gz (k:=0) J (by omega)) J<|ix (hv:=by simp only[ah];exact⟨by omega,⟨(O2 _ _),(S2 (ir _ _) (ir _ _))⟩⟩) _ J (gz (k:=0) J (by omega)) J<|cl J (tg (u:=(dg a).getD 0 0*(dg b).getD 0 0) (by have:=Jl (ir a 0) (ir b 0);omega)) J<|?_;exact rz J (by rw[Aa (by omega),Aa (by omega)];rfl)
   .
    exact at_ () trivial
  .
   exact at_ () trivial
 .
  refine ao 31 (.d (vI ((dg a).length:Nat))) J (by rw[hla];rfl) ?_;refine gx (fu:=⟨2⟩) J<|?_;refine ao 33 (.d (vI ((dg b).length:Nat))) J (by rw[hlb];rfl) ?_;refine gx J<|mk (fu:=⟨8⟩) ((List.replicate ((dg a).length+(dg b).length) 0).map dU) J J (by rw[<-wx];rfl) J<|?_;refine ao 37 (.d (vI ((dg a).length:Nat))) J (by rw[hla];rfl) ?_;refine gx J<|?_;refine lp (X:=List Nat×Nat) (fun⟨W,i⟩=>[(0, .d (dN a)),(1, .d (dN b)),(5, .rw 35),(36, .d (dN a)),(37, .d (vI ((dg a).length:Nat))),(38, .d (vI (i:Nat)))]) (fun⟨W,i⟩=>[(35,some (.b 218 1 (W.map dU) true))]) (fun⟨W,i⟩=>W.length=(dg a).length+(dg b).length/\bw W/\i<=(dg a).length/\dv (W.take (i+(dg b).length))=dv ((dg a).take i)*b) (fun⟨W,i⟩=>(dg a).length-i) ⟨List.replicate ((dg a).length+(dg b).length) 0,0⟩ J ⟨by simp, .replicate _,by omega,by rw[List.take_replicate,AE];simp[dv]⟩ (fun _=>J) (fun⟨W,i⟩ hk=>?_);dsimp only at hk⊢;obtain⟨h1,h2,h3,h4⟩:=hk;refine br J J J (fun hc39=>?_) (fun hc39=>?_)
  .
   refine ix (fu:=⟨15⟩) _ J (o6 (by omega)) J<|?_;refine ao 44 (.d (vI ((dg b).length:Nat))) J (by rw[hlb];rfl) ?_;refine gx J<|?_;refine lp (X:=List Nat×Nat×Nat) (fun⟨W2,c,k⟩=>[(0, .d (dN a)),(1, .d (dN b)),(5, .rw 35),(6, .d (vI (i:Nat))),(7, .d (dU ((dg a).getD i 0))),(8, .d (.v (.int .u64 (c:Nat)))),(36, .d (dN a)),(37, .d (vI ((dg a).length:Nat))),(38, .d (vI (i:Nat))),(43, .d (dN b)),(44, .d (vI ((dg b).length:Nat))),(45, .d (vI (k:Nat)))]) (fun⟨W2,c,k⟩=>[(35,some (.b 218 1 (W2.map dU) true))]) (fun⟨W2,c,k⟩=>W2.length=(dg a).length+(dg b).length/\bw W2/\c<4294967296/\k<=(dg b).length/\dv (W2.take (i+(dg b).length))+4294967296^(i+k)*c=dv ((dg a).take i)*b+(dg a).getD i 0*(4294967296^i*dv ((dg b).take k))) (fun⟨W2,c,k⟩=>(dg b).length-k) ⟨W,0,0⟩ J ⟨h1,h2,by omega,by omega,by rw[h4];simp[dv]⟩ (fun _=>J) (fun⟨W2,c,k⟩ hk=>?_);dsimp only at hk⊢;obtain⟨g1,g2,g3,g4,g5⟩:=hk;have hlw:=fB W2;have hw:=g2.get (i+k);have hda:=ir a i;have hdb:=ir b k;refine br (fu2:=⟨10⟩) J J J (fun hc46=>?_) (fun hc46=>?_)
   .
    refine ix (fu:=⟨12⟩) (hv:=by simp only[ah];exact⟨⟨by omega,by omega⟩,⟨(O2 _ _),(S2 (ir _ _) (ir _ _))⟩⟩) _ J (o6 (by omega)) J<|?_;obtain⟨p,hp⟩: ∃p,p=(dg a).getD i 0*(dg b).getD k 0:=⟨_,rfl⟩;have hp1:p<=18446744065119617025:=hp▸Jl hda hdb;refine ao 54 (.d (.v (.int .u64 (p:Nat)))) J (by rw[hp,jX]) ?_;refine gx J<|lb (fu:=⟨4⟩) _ J (gz (k:=i+k) (by omega) (by omega)) J<|?_;obtain⟨t,ht⟩: ∃t,t=p+W2.getD (i+k) 0+c:=⟨_,rfl⟩;refine ao 64 (.d (.v (.int .u64 (t:Nat)))) J (by congr 3;omega) ?_;refine gx (fu:=⟨11⟩) J<|?_;refine ao 70 (.d (dU (t%4294967296))) J (by show FX.d (.v (.int _ _))= .d (.v (.int _ _));congr 3) ?_;refine gx J<|sb (fu:=⟨5⟩) (hv:=by simp only[ah];exact(by decide)) _ ((W2.set (i+k) (t%4294967296)).map dU) J (gz (k:=i+k) (by omega) (by omega)) J (by(rw[show((i:Int)+k).toNat=i+k by omega,<-vn])<;>rfl) J<|?_;refine ao 73 (.d (.v (.int .u64 (t/4294967296:Nat)))) J (by rw[Hl]) ?_;refine gx J<|?_;exact at_ ⟨W2.set (i+k) (t%4294967296),t/4294967296,k+1⟩ (by dsimp only;exact⟨⟨by simpa using g1,g2.set _ (by omega),by omega,by omega,by rw[jj];exact ZG (by omega) (by omega) g5 ht hp⟩,(by omega)⟩)
   .
    obtain rfl:k=(dg b).length:=by omega
    refine ao 78 (.d (vI ((dg b).length:Nat))) J (by rw[hlb];rfl) ?_;refine gx (fu:=⟨3⟩) J<|?_;refine ao 81 (.d (dU c)) J (by show FX.d (.v (.int _ _))= .d (.v (.int _ _));congr 3;omega) ?_;refine gx J<|sb _ ((W2.set (i+(dg b).length) c).map dU) J (gz (k:=i+(dg b).length) (by omega) (by omega)) J (by(rw[show((i:Int)+((dg b).length:Nat)).toNat=i+(dg b).length by omega,<-vn])<;>rfl) J<|?_;exact at_ ⟨W2.set (i+(dg b).length) c,i+1⟩ (by dsimp only;exact⟨⟨by simpa using g1,g2.set _ g3,by omega,axn J (by omega) g5⟩,(by omega)⟩)
  .
   obtain rfl:i=(dg a).length:=by omega
   refine fz 35 J J<|cl J (sI (ds:=W) (by omega)) J<|?_;exact rz J (t8 h2 (by have:=h4;rw[pp (by omega),pp (by omega),cx] at this;exact this))
def Q4(x s:Nat):x*2^s=x*2^s%4294967296+4294967296*(x*2^s/4294967296):=by omega
def ZD{x s:Nat}(hx:x<4294967296)(hs:s<32):x*2^s/4294967296<2^s:=by
 rw[kW (by decide),cV (2^s)];exact nW hx (bQ _) (fM (by decide))
def HO{s:Nat}(hs:s<32):2^s*2^(32-s)=4294967296:=by rw[<-gJ,show s+(32-s)=32 by omega]
def aAG(x s:Nat)(hs:s<32):x*2^s%4294967296=x%2^(32-s)*2^s:=by
 rw[<-HO hs,cV (2^s),sK]
def YG{x s:Nat}(hx:x<4294967296)(hs:s<32):x*2^s<18446744073709551616:=by
 have h1:2^s<=2^31:=bS (by decide) (by omega);have:=nW hx h1 (by decide);omega
def ZN{w x s:Nat}(hw:w<2^s)(hs:s<32):(BitVec.ofInt 32 (w:Int) ||| BitVec.ofInt 32 ((x*2^s%4294967296:Nat):Int)).toNat=w+x*2^s%4294967296:=by
 rw[aAG x s hs];refine AY 32 _ _ _ hw ?_;have h1:x%2^(32-s)+1<=2^(32-s):=dW _ (fM (by decide));have h2:=bR (2^s) h1;rw[cV (2^(32-s)),HO hs,dQ,mN] at h2;show _<4294967296;omega
def atu{h:Nat}(hh:h<4294967296):(BitVec.ofInt 32 ((0:Nat):Int) ||| BitVec.ofInt 32 (h:Int)).toNat=h:=by
 have:=AY 32 0 h 0 (by decide) (by simpa using hh);simpa using this
def IT(k:Nat):2^k=4294967296^(k/32)*2^(k%32):=by
 rw[show(4294967296:Nat)=2^32 from J,<-pR,<-gJ,rZ]
def getD_set_ne{W:List Nat}{i j d:Nat}(h:i≠j):(W.set i d).getD j 0=W.getD j 0:=by
 rw[aK,aK,List.getElem?_set_ne h]
def Rw{W:List Nat}{i d:Nat}(h:i<W.length):(W.set i d).getD i 0=d:=by
 rw[aK,rM h];rfl
def XS{A W:List Nat}{k q s i x:Nat}(hq:q=k/32)(hs:s=k%32)(hl:q+i+1<W.length)(hx:x=A.getD i 0)
  (h:dv (W.take (q+i+1))=dv (A.take i)*2^k):
  dv (((W.set (q+i) (W.getD (q+i) 0+x*2^s%4294967296)).set (q+i+1) (x*2^s/4294967296)).take (q+(i+1)+1))=dv (A.take (i+1))*2^k:=by
 have e1:=Oa (W:=W) (j:=q+i) (m:=q+i+1) (d:=W.getD (q+i) 0+x*2^s%4294967296) (by omega) (by omega);rw[show q+(i+1)+1=q+i+1+1 by omega,qB (by rw[aN];omega),jj A,<-hx];have e2:dv ((W.set (q+i) (W.getD (q+i) 0+x*2^s%4294967296)).take (q+i+1))=dv (A.take i)*2^k+4294967296^(q+i)*(x*2^s%4294967296):=by
  rw[eX,h] at e1;omega
 rw[e2,gW,cW,kN,<-eX,<-Q4,dQ,IT k,<-hq,<-hs,gJ];simp only[cW,lK,cV]
def Ev{a k ia:Nat}[ha:BN a ia](hk:k<=1000000000)(hi:ia<=1000000000:=by decide):PF GB prog 202 [dN a,vI (k:Nat)] (dN (a*2^k)):=by
 have hla:=fB (dg a);have hba:=vd ha.h hi;refine fn (fu:=⟨9⟩) func202 J J ntmps202 J J (fun C=>?_);refine ao 11 (.d (vI (k/32:Nat))) J (by show FX.d (.v (.int _ _))= .d (.v (.int _ _));rw[Da hk]) ?_;refine gx (fu:=⟨2⟩) J<|?_;refine ao 13 (.d (vI ((dg a).length:Nat))) J (by rw[hla];rfl) ?_;refine gx (fu:=⟨2⟩) J<|?_;refine ao 15 (.d (vI (k/32+(dg a).length+1:Nat))) J (by show FX.d (.v (.int _ _))= .d (.v (.int _ _));congr 3) ?_;refine gx J<|mk (fu:=⟨7⟩) (hv:=by simp only[ah];exact(by decide)) ((List.replicate (k/32+(dg a).length+1) 0).map dU) J J (by rw[<-wx];rfl) J<|?_;refine ao 18 (.d (vI (k%32:Nat))) J (by show FX.d (.v (.int _ _))= .d (.v (.int _ _));rw[SQ]) ?_;refine gx (fu:=⟨9⟩) J<|?_;refine ao 21 (.d (vI ((dg a).length:Nat))) J (by rw[hla];rfl) ?_;refine gx J<|?_;refine lp (X:=List Nat×Nat) (fun⟨W,i⟩=>[(0, .d (dN a)),(1, .d (vI (k:Nat))),(5, .rw 16),(6, .d (.v (.int .u64 (k%32:Nat)))),(20, .d (dN a)),(21, .d (vI ((dg a).length:Nat))),(22, .d (vI (i:Nat)))]) (fun⟨W,i⟩=>[(16,some (.b 218 1 (W.map dU) true))]) (fun⟨W,i⟩=>W.length=k/32+(dg a).length+1/\bw W/\i<=(dg a).length/\dv (W.take (k/32+i+1))=dv ((dg a).take i)*2^k/\W.getD (k/32+i) 0<2^(k%32)/\ ∀j,k/32+i<j->W.getD j 0=0) (fun⟨W,i⟩=>(dg a).length-i) ⟨List.replicate (k/32+(dg a).length+1) 0,0⟩ J ⟨by simp, .replicate _,by omega,by rw[List.take_replicate,AE];simp[dv],by rw[MP];exact fM (by decide),fun j _=>MP _ _⟩ (fun _=>J) (fun⟨W,i⟩ hk=>?_);dsimp only at hk⊢;obtain⟨h1,h2,h3,h4,h5,h6⟩:=hk;have hlw:=fB W;have hda:=ir a i;have hsk:k%32<32:=dW _ (by decide)
 have hpp:2^(k%32)<=2^31:=bS (by decide) (by omega);refine br J J J (fun hc23=>?_) (fun hc23=>?_)
 .
  refine ix (fu:=⟨11⟩) (hv:=by simp only[ah];exact⟨by omega,(by omega)⟩) _ J (o6 (by omega)) J<|?_;have hhi:=ZD hda hsk;have hfit0:=YG hda hsk;have hor:=ZN (x:=(dg a).getD i 0) h5 hsk;have hfit:W.getD (k/32+i) 0+(dg a).getD i 0*2^(k%32)%4294967296<4294967296:=by rw[<-hor];exact BitVec.isLt _
  have hlp:=Q4 ((dg a).getD i 0) (k%32);refine ao 30 (.d (.v (.int .u64 ((dg a).getD i 0*2^(k%32):Nat)))) J (by show FX.d (.v (.int _ _))= .d (.v (.int _ _));rw[r7 _ (k%32) (by omega) hfit0 (by omega)]) ?_;obtain⟨t,ht⟩: ∃t,t=(dg a).getD i 0*2^(k%32):=⟨_,rfl⟩;simp only[<-ht] at hhi hfit0 hor hfit hlp;rw[<-ht];refine gx (fu:=⟨8⟩) J<|?_;refine ao 33 (.d (vI (k/32:Nat))) J (by show FX.d (.v (.int _ _))= .d (.v (.int _ _));rw[Da hk]) ?_;refine gx J<|lb (fu:=⟨2⟩) _ J (gz (k:=k/32+i) (by omega) (by omega)) J<|?_;refine ao 39 (.d (dU (t%4294967296))) J (by show FX.d (.v (.int _ _))= .d (.v (.int _ _));congr 3) ?_;refine gx (fu:=⟨1⟩) J<|?_;refine ao 40 _ J (congrArg (fun z:Nat=>FX.d (.v (.int .u32 (z:Int)))) hor) ?_;refine gx J<|sb (fu:=⟨6⟩) _ ((W.set (k/32+i) (W.getD (k/32+i) 0+t%4294967296)).map dU) J (gz (k:=k/32+i) (by omega) (by omega)) J (by(rw[show(((k/32:Nat):Int)+i).toNat=k/32+i by omega];simp only[qQ];rfl)<;>rfl) J<|?_;refine ao 44 (.d (vI (k/32:Nat))) J (by show FX.d (.v (.int _ _))= .d (.v (.int _ _));rw[Da hk]) ?_;refine gx J<|lb (fu:=⟨0⟩) _ J (gz (k:=k/32+i+1) (by omega) (by rw[aN];omega)) J<|?_;refine ao 49 (.d (dU 0)) J (by rw[getD_set_ne (by omega),h6 _ (by omega)]) ?_;refine gx (fu:=⟨2⟩) (hv:=by simp only[ah];exact(by decide)) J<|?_;refine ao 51 (.d (.v (.int .u64 (t/4294967296:Nat)))) J (by rw[Hl]) ?_;refine gx (fu:=⟨1⟩) J<|?_;refine ao 52 (.d (dU (t/4294967296))) J (by show FX.d (.v (.int _ _))= .d (.v (.int _ _));congr 3;omega) ?_;refine gx (fu:=⟨1⟩) J<|?_;refine ao 53 _ J (congrArg (fun z:Nat=>FX.d (.v (.int .u32 (z:Int)))) (atu (by omega))) ?_
  refine gx J<|sb _ (((W.set (k/32+i) (W.getD (k/32+i) 0+t%4294967296)).set (k/32+i+1) (t/4294967296)).map dU) J (gz (k:=k/32+i+1) (by omega) (by rw[aN];omega)) J (by(rw[show(((k/32:Nat):Int)+i+1).toNat=k/32+i+1 by omega];simp only[qQ];rfl)<;>rfl) J<|?_;exact at_ ⟨(W.set (k/32+i) (W.getD (k/32+i) 0+t%4294967296)).set (k/32+i+1) (t/4294967296),i+1⟩ (by dsimp only;exact⟨⟨by simpa using h1,(h2.set _ hfit).set _ (by omega),by omega,by have q:=XS (x:=(dg a).getD i 0) J J (by omega) J h4;rw[<-ht] at q;exact q,by rw[show k/32+(i+1)=k/32+i+1 by omega,Rw (by simp;omega)];exact hhi,fun j hj=>by rw[getD_set_ne (by omega),getD_set_ne (by omega)];exact h6 j (by omega)⟩,(by omega)⟩)
 .
  obtain rfl:i=(dg a).length:=by omega
  refine fz 16 J J<|cl J (sI (ds:=W) (by omega)) J<|?_;exact rz J (t8 h2 (by have:=h4;rw[pp (by omega),pp (by omega),cx] at this;exact this))
def WJ{a k:Nat}(h:(dg a).length<=k/32):a/2^k=0:=by
 refine kQ ?_;have h1:=jz (ku a);rw[cx] at h1;have h2:4294967296^(dg a).length<=4294967296^(k/32):=bS (by decide) h;have h3:4294967296^(k/32)*1<=4294967296^(k/32)*2^(k%32):=gK _ (fM (by decide));rw[IT k];omega
def KR{ds:List Nat}(h:bw ds)(q:Nat):dv (ds.drop q)=dv ds/4294967296^q:=by
 rcases iN ds.length q with hq|hq
 ·rw[pQ (by omega)]
  have h1:=jz h;have h2:4294967296^ds.length<=4294967296^q:=bS (by decide) (by omega);rw[kQ (by omega)];rfl
 ·have e:=ES ds q hq
  have h1:=jz (h.take q);rw[cK,gT hq] at h1;rw[e,mU _ _ (fM (by decide)),kQ h1,fQ]
def HB{ds:List Nat}(h:bw ds)(i:Nat):dv ds/4294967296^i=ds.getD i 0+4294967296*ds.getD (i+1) 0+18446744073709551616*(dv ds/4294967296^(i+2)):=by
 have e0:=KR h i;have e2:=KR h (i+2);rw[<-e0,<-e2];have g0:ds.getD i 0=(ds.drop i).getD 0 0:=by rw[aK,aK,mQ];rfl
 have g1:ds.getD (i+1) 0=(ds.drop i).getD 1 0:=by rw[aK,aK,mQ]
 have g2:ds.drop (i+2)=(ds.drop i).drop 2:=by rw[tW]
 rw[g0,g1,g2]
 match ds.drop i with
 |[]=>rfl
 |[u]=>simp[dv]
 |u::v::t=>simp only[dv,tK,lS,tJ,jW];omega
def asv{D s i u v w Z:Nat}(hs:s<32)(hZ:D/4294967296^i=u+4294967296*v+18446744073709551616*Z)(hw:w=(u+v*4294967296)/2^s%4294967296):(D/2^s)%4294967296^(i+1)=(D/2^s)%4294967296^i+4294967296^i*w:=by
 rw[gW,Nat.mod_mul];congr 2;rw[mM,cV (2^s),<-mM,hZ,hw];have h1:18446744073709551616=2^s*(2^(32-s)*4294967296):=by rw[<-cW,HO hs]
 rw[h1,cW (2^s),mU _ _ (fM (by decide)),cV v];rw[cV (2^(32-s)),cW,nR]
def as7{a k:Nat}{W:List Nat}{q s:Nat}(hq:q=k/32)(hs:s=k%32)(hl:W.length=(dg a).length-q)(h:dv (W.take ((dg a).length-q))=(dv ((dg a).drop q)/2^s)%4294967296^((dg a).length-q)):dv W=a/2^k:=by
 rw[pp (by omega)] at h;have h1:=jz ((ku a).drop q);rw[iW] at h1;have h2:=kU (dv ((dg a).drop q)) (2^s);rw[h,fU (by omega),KR (ku a),cx,IT k,<-hq,<-hs,mM]
def Wh{a k ia:Nat}[ha:BN a ia](hk:k<=1000000000)(hi:ia<=1000000000:=by decide):PF GB prog 203 [dN a,vI (k:Nat)] (dN (a/2^k)):=by
 have hla:=fB (dg a);have hba:=vd ha.h hi;refine fn (fu:=⟨10⟩) func203 J J ntmps203 J J (fun C=>?_);refine ao 12 (.d (vI (k/32:Nat))) J (by show FX.d (.v (.int _ _))= .d (.v (.int _ _));rw[Da hk]) ?_;refine gx (fu:=⟨2⟩) J<|?_;refine ao 14 (.d (vI ((dg a).length:Nat))) J (by rw[hla];rfl) ?_;refine gx J<|?_;refine br (fu2:=⟨6⟩) (v2:=fun _=>by simp only[ah];exact(by decide)) J J J (fun hc15=>?_) (fun hc15=>?_)
 .
  exact rz J (by rw[WJ (by omega),EH];rfl)
 .
  refine ao 17 (.d (vI (k%32:Nat))) J (by show FX.d (.v (.int _ _))= .d (.v (.int _ _));rw[SQ]) ?_;refine gx (fu:=⟨9⟩) J<|?_;refine ao 21 (.d (vI (k/32:Nat))) J (by show FX.d (.v (.int _ _))= .d (.v (.int _ _));rw[Da hk]) ?_;refine gx J<|sv (fu:=⟨0⟩) (k/32) (dg a).length _ J J (by rw[hla]) J (vy _) (by omega) (by omega) J<|?_;obtain⟨I,hI⟩: ∃I,I=(dg a).drop (k/32):=⟨_,rfl⟩;have hIl:I.length=(dg a).length-k/32:=by rw[hI,iW]
  have hIm:=fB I;have hIo:bw I:=hI▸(ku a).drop _;refine ao 22 (.d (fk I)) J (by show FX.d (.sl _)= .d (.sl _);rw[hI,<-hla,dS,qM]) ?_;refine gx (fu:=⟨7⟩) J<|?_;refine ao 24 (.d (vI (I.length:Nat))) J (by rw[hIm];rfl) ?_;refine gx J<|mk (fu:=⟨8⟩) ((List.replicate I.length 0).map dU) J J (by rw[<-wx];rfl) J<|?_;refine ao 27 (.d (vI (I.length:Nat))) J (by rw[hIm];rfl) ?_;refine gx J<|?_;refine lp (X:=List Nat×Nat) (fun⟨W,i⟩=>[(0, .d (dN a)),(5, .d (.v (.int .u64 (k%32:Nat)))),(6, .d (fk I)),(7, .rw 25),(26, .d (fk I)),(27, .d (vI (I.length:Nat))),(28, .d (vI (i:Nat)))]) (fun⟨W,i⟩=>[(25,some (.b 218 1 (W.map dU) true))]) (fun⟨W,i⟩=>W.length=I.length/\bw W/\i<=I.length/\dv (W.take i)=(dv I/2^(k%32))%4294967296^i) (fun⟨W,i⟩=>I.length-i) ⟨List.replicate I.length 0,0⟩ J ⟨by simp, .replicate _,by omega,by simp[dv,Nat.mod_one]⟩ (fun _=>J) (fun⟨W,i⟩ hk=>?_);dsimp only at hk⊢;obtain⟨h1,h2,h3,h4⟩:=hk;have hlw:=fB W;have hda:=hIo.get i;have hdb:=hIo.get (i+1);have hsk:k%32<32:=dW _ (by decide);refine br J J J (fun hc29=>?_) (fun hc29=>?_)
  .
   refine ix (fu:=⟨13⟩) _ J (o6 (by omega)) J<|?_;refine mg (fu:=⟨6⟩) (hv:=fun _ _=>by simp only[ah];exact(by omega)) (X:=Unit) (fun _=>[(0, .d (dN a)),(5, .d (.v (.int .u64 (k%32:Nat)))),(6, .d (fk I)),(7, .rw 25),(26, .d (fk I)),(27, .d (vI (I.length:Nat))),(28, .d (vI (i:Nat))),(8, .d (vI (i:Nat))),(10, .d (.v (.int .u64 (I.getD i 0+I.getD (i+1) 0*4294967296:Nat))))]) (fun _=>[(25,some (.b 218 1 (W.map dU) true))]) (fun _=>True) [0,5,6,7,26,27,28,8,10] [25] rfl ?_ (fun _=>J) (fun _ hm=>?_)
   .
    refine gx (fu:=⟨6⟩) J<|?_;refine ao 38 (.d (vI (I.length:Nat))) J (by rw[hIm];rfl) ?_;refine gx J<|?_;refine br J J J (fun hc39=>?_) (fun hc39=>?_)
    .
     refine ix (fu:=⟨3⟩) (hv:=by simp only[ah];exact⟨by omega,(by decide)⟩) _ J (gz (k:=i+1) (by omega) (by omega)) J<|?_;refine ao 47 (.d (.v (.int .u64 (I.getD (i+1) 0*4294967296:Nat)))) J (by show FX.d (.v (.int _ _))= .d (.v (.int _ _));rw[r7 _ 32 (by decide) (by show _*4294967296<_;omega) J]) ?_;refine gx (fu:=⟨1⟩) J<|?_;refine ao 48 _ J (congrArg (fun z:Nat=>FX.d (.v (.int .u64 (z:Int)))) (AY 64 (I.getD i 0) (I.getD (i+1) 0) 32 hda (by show _+_*4294967296<18446744073709551616;omega))) ?_;refine gx J<|?_;exact at_ () trivial
    .
     refine ao 10 (.d (.v (.int .u64 (I.getD i 0+I.getD (i+1) 0*4294967296:Nat)))) J (by rw[vo (by omega:I.length<=i+1),kY,fJ]) ?_;exact at_ () trivial
   .
    refine ao 53 (.d (.v (.int .u64 ((I.getD i 0+I.getD (i+1) 0*4294967296)/2^(k%32):Nat)))) J (by show FX.d (.v (.int _ _))= .d (.v (.int _ _));rw[tu _ (k%32) (by omega) (by omega)]) ?_;refine gx (fu:=⟨1⟩) J<|?_;obtain⟨w,hw⟩: ∃w,w=(I.getD i 0+I.getD (i+1) 0*4294967296)/2^(k%32)%4294967296:=⟨_,rfl⟩;have hw1:w<4294967296:=hw▸dW _ (by decide);refine ao 54 (.d (dU w)) J (by show FX.d (.v (.int _ _))= .d (.v (.int _ _));rw[hw];congr 3) ?_;refine gx J<|sb _ ((W.set i w).map dU) J (o6 (by omega)) J (by(rw[<-vn];rfl)<;>rfl) J<|?_;exact at_ ⟨W.set i w,i+1⟩ (by dsimp only;exact⟨⟨by simpa using h1,h2.set _ (by omega),by omega,by rw[qB (by omega),h4];exact(asv hsk (HB hIo i) hw).symm⟩,(by omega)⟩)
  .
   refine fz 25 J J<|cl J (sI (ds:=W) (by omega)) J<|?_;exact rz rfl (t8 h2 (by obtain rfl:i=I.length:=(by omega);rw[hIl] at h1 h4;rw[hI] at h4;exact as7 rfl rfl h1 h4))
def ED{a k:Nat}(h:a<4294967296^k):(dg a).length<=k:=by
 rcases iN k (dg a).length with q|q
 ·have h1:=ri (eG a).2.2 (by intro e;rw[e] at q;simp at q)
  rw[cx] at h1;have h2:4294967296^k<=4294967296^((dg a).length-1):=bS (by decide) (by omega);omega
 ·exact q
def ayt{a:Nat}(h:(dg a).length=2):(dg a).getD 0 0+(dg a).getD 1 0*4294967296=a:=by
 have e:=cx a;revert e
 match dg a,h with
 |[x,y],_=>intro e;simp[dv] at e⊢;omega
def Ct(a:Nat):DV:= .tp [.v (.int .u64 ((if a<18446744073709551616 then a else 0:Nat):Int)),vB (decide (a<18446744073709551616))]
def Pi{a:Nat}(h:a<18446744073709551616):Ct a= .tp [.v (.int .u64 (a:Int)),vB true]:=by unfold Ct;rw[if_pos h,decide_eq_true h]
def ax0{a:Nat}(h: ¬a<18446744073709551616):Ct a= .tp [.v (.int .u64 0),vB false]:=by unfold Ct;rw[if_neg h,decide_eq_false h];rfl
def vk(a:Nat):a<4294967296^(dg a).length:=by have:=jz (ku a);rwa [cx] at this
def F5{a ia:Nat}[ha:BN a ia](hi:ia<=1000000000:=by decide):PF GB prog 166 [dN a] (Ct a):=by
 have hla:=fB (dg a);have hba:=vd ha.h hi;have hlt:=vk a;have hd00:=ir a 0;refine fn (fu:=⟨11⟩) func166 J J ntmps166 J J (fun C=>?_);refine ao 5 (.d (vI ((dg a).length:Nat))) J (by rw[hla];rfl) ?_;refine gx J<|?_;refine br J J J (fun hc6=>?_) (fun hc6=>?_)
 .
  exact rz rfl (by rw[show(dg a).length=0 by omega] at hlt;obtain rfl:a=0:=(by omega);rfl)
 .
  refine br J J J (fun hc8=>?_) (fun hc8=>?_)
  .
   refine ix (fu:=⟨2⟩) _ J (gz (k:=0) J (by omega)) J<|?_;refine ao 13 (.d (.v (.int .u64 (a:Nat)))) J (by rw[Aa (by omega)]) ?_;refine gx J<|?_;exact rz J (by rw[show(dg a).length=1 by omega] at hlt;rw[Pi (by omega),<-Aa (a:=a) (by omega),Aa (a:=a) (by omega)];rfl)
  .
   refine br J J J (fun hc14=>?_) (fun hc14=>?_)
   .
    have hd0:=ir a 0;have hd1:=ir a 1;refine ix (hv:=by simp only[ah];exact⟨by omega,(by decide)⟩) _ J (gz (k:=1) J (by omega)) J<|ix (fu:=⟨3⟩) _ J (gz (k:=0) J (by omega)) J<|?_;refine ao 25 (.d (.v (.int .u64 (a:Nat)))) J (congrArg (fun z:Nat=>FX.d (.v (.int .u64 (z:Int)))) (by rw[r7 _ 32 (by decide) (by show _*4294967296<_;omega) J,BitVec.or_comm];exact(AY 64 ((dg a).getD 0 0) ((dg a).getD 1 0) 32 hd0 (by show _+_*4294967296<18446744073709551616;omega)).trans (ayt (by omega)))) ?_;refine gx J<|?_;exact rz J (by rw[show(dg a).length=2 by omega] at hlt;rw[Pi (by omega)];rfl)
   .
    exact rz rfl (by rw[ax0];rfl;intro h;have:=ED (a:=a) (k:=2) (by omega);omega)
def Ta{G:Gh}{ds:List Nat}{v:Value}(hd:bw ds)(h:Is G (fk ds) v): ∃x:SV,v=x.v/\cA G x ds:=by
 obtain⟨x,rfl,h1⟩:=TJ.1 h;exact⟨x,J,hd,h1⟩
def fE.is{G:Gh}{k n:Nat}{z:SV}(h:fE k G z n):Is G (dN n) z.v:=(H4 h.lt).2 ⟨z,J,h⟩
def BG{G:Gh}{ds:List Nat}{vs:List Value}(hd:bw ds)(h:IsLs G [fk ds] vs): ∃x:SV,vs=[x.v]/\cA G x ds:=by
 obtain⟨v,m,rfl,h1,h2⟩:=aP.1 h
 cases co.1 h2
 obtain⟨x,rfl,h3⟩:=Ta hd h1;exact⟨x,J,h3⟩
def Dn{G:Gh}{a b:Nat}{vs:List Value}(h:IsLs G [dN a,dN b] vs): ∃x y:SV,vs=[x.v,y.v]/\cA G x (dg a)/\cA G y (dg b):=by
 obtain⟨v,m,rfl,h1,h2⟩:=aP.1 h;obtain⟨y,rfl,h4⟩:=BG (eG b).2.1 h2;obtain⟨x,rfl,h3⟩:=Ta (eG a).2.1 h1;exact⟨x,y,J,h3,h4⟩
section
variable {GB:Gh} {a b i j:Nat}
def nj[h:BN a i](hi:i<=1000000000):(dg a).length<=31250001:=by have:=mi h.h;omega
def T2{ds:List Nat}(hd:bw ds)(hl:ds.length<=1125899906842624):PF GB prog 187 [fk ds] (vB (decide (er ds))):=fun G vs _ hv=>by
 obtain⟨x,rfl,hx⟩:=BG hd hv;exact(U0 hx hl).mono fun v G' _ h=>aH.2 h
def vO[h:BN a i](hi:i<=1000000000:=by decide):PF GB prog 180 [dN a] (vI (bl a:Nat)):=fun G vs _ hv=>by
 obtain⟨x,rfl,hx⟩:=BG (eG a).2.1 hv;have:=nj (a:=a) hi;exact(Xh hx (by omega)).mono fun v G' _ h=>aH.2 (by rw[h,cx])
def zc[h:BN a i](hi:i<=1000000000:=by decide):PF GB prog 185 [dN a] (dN a):=fun G vs _ hv=>by
 obtain⟨x,rfl,hx⟩:=BG (eG a).2.1 hv;have:=nj (a:=a) hi;refine(Iw (k:=i) hx (by rw[cx];exact h.h) (by omega)).mono fun v G' _ h=>?_;obtain⟨z,rfl,h⟩:=h;rw[cx] at h;exact h.is
def HF(h:a<18446744073709551616):PF GB prog 198 [.v (.int .u64 (a:Nat))] (dN a):=fun G vs _ hv=>by
 obtain⟨v,m,rfl,h1,h2⟩:=aP.1 hv
 cases co.1 h2
 rw[aH.1 h1];refine(HA h).mono fun v G' _ h=>?_;obtain⟨z,rfl,h⟩:=h;exact h.is
def Jd(h:a<18446744073709551616):PF GB prog 184 [dN a] (.tp [.v (.int .u64 (a:Nat)),vB true]):=fun G vs _ hv=>by
 obtain⟨x,rfl,hx⟩:=BG (eG a).2.1 hv;have:BN a 64:=⟨h⟩;have:=nj (a:=a) (i:=64) (by decide);refine(JY hx (by omega)).mono fun v G' _ e=>?_;rw[cx,if_pos h,decide_eq_true h] at e;subst e;exact jv.2 ⟨_,J, .cons (aH.2 J) (.cons (aH.2 J) .nil)⟩
def Yr[h:BN a i][k:BN b j](hi:i<=1000000000:=by decide)(hj:j<=1000000000:=by decide):PF GB prog 239 [dN a,dN b] (dN (a+b)):=fun G vs _ hv=>by
 obtain⟨x,y,rfl,hx,hy⟩:=Dn hv;have:=nj (a:=a) hi;have:=nj (a:=b) hj;refine(aCL (kk:=i+j+1) hx hy (by rw[cx,cx];exact FG h.h k.h) (by omega) (by omega)).mono fun v G' _ h=>?_;obtain⟨z,rfl,h⟩:=h;rw[cx,cx] at h;exact h.is
def S9[h:BN a i][k:BN b j](hi:i<=1000000000:=by decide)(hj:j<=1000000000:=by decide):PF GB prog 240 [dN a,dN b] (.tp [dN (a-b),vB (decide (b<=a))]):=fun G vs _ hv=>by
 obtain⟨x,y,rfl,hx,hy⟩:=Dn hv;have:=nj (a:=a) hi;have:=nj (a:=b) hj;refine(aBG (kk:=i) hx hy (by rw[cx];exact h.h) (by omega) (by omega)).mono fun v G' _ h=>?_;obtain⟨z,rfl,h⟩:=h;rw[cx,cx] at h⊢;exact jv.2 ⟨_,J, .cons h.is (.cons (aH.2 J) .nil)⟩
def Ba[h:BN a i][k:BN b j](hi:i<=1000000000:=by decide)(hj:j<=1000000000:=by decide):PF GB prog 206 [dN a,dN b] (dN (a*b)):=fun G vs _ hv=>by
 obtain⟨x,y,rfl,hx,hy⟩:=Dn hv;have:=nj (a:=a) hi;have:=nj (a:=b) hj;refine(V6 (kk:=i+j) hx hy (by rw[cx,cx];exact po h.h k.h) (by omega) (by omega)).mono fun v G' _ h=>?_;obtain⟨z,rfl,h⟩:=h;rw[cx,cx] at h;exact h.is
def QH[h:BN a i][k:BN b j](hb:0<b)(hi:i<=1000000000:=by decide)(hj:j<=1000000000:=by decide):PF GB prog 182 [dN a,dN b] (.tp [dN (a/b),dN (a%b),vB true]):=fun G vs _ hv=>by
 obtain⟨x,y,rfl,hx,hy⟩:=Dn hv;have:=nj (a:=a) hi;have:=nj (a:=b) hj;refine(J2 (k1:=i) (k2:=j) hx hy (by rw[cx];exact hb) (by rw[cx,cx];exact gU (kU _ _) h.h) (by rw[cx,cx];exact qZ (dW _ hb) k.h) (by omega) (by omega)).mono fun v G' _ h=>?_;obtain⟨z,r,rfl,h,h'⟩:=h;rw[cx,cx] at h h';exact jv.2 ⟨_,J, .cons h.is (.cons h'.is (.cons (aH.2 J) .nil))⟩
def I1[h:BN a i][k:BN b j](hi:i<=1000000000:=by decide)(hj:j<=1000000000:=by decide):PF GB prog 181 [dN a,dN b] (dN (Nat.gcd a b)):=fun G vs _ hv=>by
 obtain⟨x,y,rfl,hx,hy⟩:=Dn hv;have:=nj (a:=a) hi;have:=nj (a:=b) hj;have e: ∀k',k'<=i+j->(2:Nat)^k'<=2^(i+j):=fun k' h=>bS (by decide) h;have:=e i (by omega);have:=e j (by omega);have:=h.h;have:=k.h;refine(V3 (k:=i+j) (k0:=i+j) hx hy (by rw[cx];omega) (by rw[cx];omega) (by omega) (by rw[cx,cx];exact KH h.h k.h) (by omega) (by omega)).mono fun v G' _ h=>?_;obtain⟨z,rfl,h⟩:=h;rw[cx,cx] at h;exact h.is
end
section
variable {GB:Gh} {C:aD} {n:Nat} {Q0:Exit->Act->World->Prop} {fr fr' fr1 fr2:aA} {own own' own1 own2:aI} {cf cf' cf1 cf2:Cf} {vc vc1 vc2:List Prop}
def jf{fb:Func}{e:Exit}{ds:List DV}{rv:DV}(hr:qh tt fr own fb.results.toList=some ds)(hd: ∀G y,Is G (ji ds) y->Is G rv y)(he:Dl e=true:=by rfl):aj prog GB C n (gv C prog fb (jD C (fun v G'=>Is G' rv v))) fr own (.ex e []):=by
 refine⟨fun ρ G ov a w r=>?_⟩;obtain⟨vs,h1,h2⟩:=BO r hr;have hk:Is G rv (gI vs):=hd _ _ (Ck h2)
 cases e with
 |ret=>exact zD (C:=C) (n:=n) (fr:=cG a) (own:=ov) (G:=G) (K:=fun v G'=>Is G' rv v) h1 hk a w ⟨r.h,r.sz,c9 a,r.df⟩
 |normal=>exact N2 (C:=C) (n:=n) (fr:=cG a) (own:=ov) (G:=G) (K:=fun v G'=>Is G' rv v) h1 hk a w ⟨r.h,r.sz,c9 a,r.df⟩
 |_=>cases he
def Qp(fr:aA)(cf:Cf):Option (Int×IntKind):=match ce fr cf with
 |some ⟨_, .convert t t' x,_,_,_,_⟩=>match dB tt t,dB tt t',aO (bE fr cf) x with
  |some ⟨.int k,_,_,_⟩,some ⟨.int k',_,_,_⟩,some (.d (.v (.int j p)))=>bif kq k j then some (p,k') else none
  |_,_,_=>none
 |_=>none
def cu[fu:Fu]{p:Int}{k':IntKind}(u:Int)(h:Qp fr cf=some (p,k'))(e:k'.wrap p=u)(hgo:cI tt n fu.n fr own cf (.d (.v (.int k' u))) [] []=⟨vc,fr',own',cf'⟩)(k:aj prog GB C n Q0 fr' own' cf')
  (hv:ah vc:=by first|exact trivial|(simp only[ah];kernel_rfl)|(simp only[ah];omega)):aj prog GB C n Q0 fr own cf:=by
 unfold Qp at h;split at h<;>try (cases h;done)
 rename_i hh;split at h<;>try (cases h;done)
 rename_i k0 _ _ _ k1 _ _ _ j p0 hT hT' hx
 cases hk:kq k0 j with
 |false=>rw[hk] at h;cases h
 |true=>
  rw[hk,cond_true] at h;cases h;cases F8 hk;have:=A9 (d9 _ _ hT) J;have:=A9 (d9 _ _ hT') J;subst e;refine us hh (.x1 hx fun ρ G ov a w y _ r h1 h2=>?_) hgo hv k;rw[dl] at h2;subst h2;exact⟨_,dl.2 J,Eb h1⟩
def Oh(fr:aA)(cf:Cf):Option (Int×IntKind):=match ce fr cf with
 |some ⟨_, .unOp .neg _ x,_,_,_,_⟩=>match aO (bE fr cf) x with
  |some (.d (.v (.int j p)))=>some (p,j)
  |_=>none
 |_=>none
def nu[fu:Fu]{p:Int}{k':IntKind}(u:Int)(h:Oh fr cf=some (p,k'))(e:k'.wrap (0-p)=u)(hgo:cI tt n fu.n fr own cf (.d (.v (.int k' u))) [] []=⟨vc,fr',own',cf'⟩)(k:aj prog GB C n Q0 fr' own' cf')
  (hv:ah vc:=by first|exact trivial|(simp only[ah];kernel_rfl)|(simp only[ah];omega)):aj prog GB C n Q0 fr own cf:=by
 unfold Oh at h;split at h<;>try (cases h;done)
 rename_i hh;split at h<;>cases h;rename_i hx;subst e;exact us hh (.x1 hx fun ρ G ov a w y _ r h1 h2=>by
  rw[dl] at h2;subst h2;exact⟨_,dl.2 J,KA h1⟩) hgo hv k
end
def Ir{x:Nat}:bl x=0↔x=0:=by
 have:= @pc x 0;simp at this;omega
def Ao{a:Nat}:0<(dg a).length↔0<a:=by
 have:= @uX a;omega
def eS(neg:Bool)(a:Nat):DV:= .ag [.v (.bool neg),dN a]
def EU(neg:Bool)(a:Nat):eI (zv neg a)= .ag [.v (.bool (neg&&decide (0<a))),dN a]:=by unfold eI;rw[q7,Sl]
def VG{n:Bool}{u:Nat}{b:Int}(h:n≠decide (b<0))(hle:b.natAbs<=u):zv n (u-b.natAbs)=zv n u+b:=by cases n<;>simp[zv] at* <;>omega
def aCg{n:Bool}{u:Nat}{b:Int}(h:n≠decide (b<0))(hle:u<=b.natAbs):zv (decide (b<0)) (b.natAbs-u)=zv n u+b:=by cases n<;>simp[zv] at* <;>(try rw[if_pos h])<;>(try rw[if_neg (by omega)])<;>omega
def Rr{neg:Bool}{ds:List Nat}(hd:bw ds)(hl:ds.length<=1125899906842624):PF GB prog 170 [.ag [.v (.bool neg),fk ds]] (vB (decide (er ds/\(neg=true->0<ds.length)))):=by
 refine fn func170 J J ntmps170 J J (fun C=>?_);refine cl J (T2 hd hl) J<|?_;refine csd 6 J J J (fun hg6=>?_) (fun hg6=>?_)
 .
  refine ml 10 J J J (fun hg10=>?_) (fun hg10=>?_)
  .
   exact rz J (by unfold vB;congr 2;simp_all [ji])
  .
   exact rz J (by unfold vB;congr 2;simp_all [ji])
 .
  exact rz J (by unfold vB;congr 2;simp_all [ji])
def OZ{n:Bool}{a i:Nat}[h:BN a i](hi:i<=1000000000:=by decide):PF GB prog 156 [eS n a] (vI (zv n a).sign):=by
 refine fn func156 J J ntmps156 J J (fun C=>?_);refine cl J (vO (a:=a) hi) J<|?_;refine br J J J (fun hc3=>?_) (fun hc3=>?_)
 .
  exact rz J (by have:=Ir.1 (Int.ofNat.inj hc3);subst this;cases n<;>rfl)
 .
  refine bb J J J (fun hc8=>?_) (fun hc8=>?_)
  .
   exact rz J (by subst hc8;rw[fY (by have:a≠0:=(fun e=>hc3 (by rw[e];rfl));simp[zv];omega)];rfl)
  .
   exact rz J (by subst hc8;rw[fT (by have:a≠0:=(fun e=>hc3 (by rw[e];rfl));simp[zv];omega)];rfl)
def Lb{m:Int}(h0: -9223372036854775808<=m)(h1:m<=9223372036854775807):PF GB prog 159 [vI m] (eI m):=by
 refine fn (fu:=⟨8⟩) func159 J J ntmps159 J J (fun C=>?_);refine cu ((m%18446744073709551616:Int)) J (nO _) J<|?_;refine br (fu1:=⟨2⟩) (fu2:=⟨0⟩) J J J (fun hc7=>?_) (fun hc7=>?_)
 .
  refine nu ((m.natAbs:Nat)) J (by rw[nO];omega) J<|cl J (HF (a:=m.natAbs) (by omega)) J<|?_;exact rz J J
 .
  refine ao 3 (.d (.v (.int .u64 (m.natAbs:Nat)))) J (by congr 3;omega) ?_;refine gx J<|cl J (HF (a:=m.natAbs) (by omega)) J<|?_;exact rz J J
def Qh{n:Bool}{a:Nat}(h:a<4611686018427387904):PF GB prog 183 [eS n a] (.tp [vI (zv n a),vB true]):=by
 refine fn func183 J J ntmps183 J J (fun C=>?_);refine cl (fu:=⟨2⟩) J (Jd (a:=a) (by omega)) J<|gj J J J<|?_;refine ml 18 J J J (fun hg18=>?_) (fun hg18=>?_)
 .
  refine br (fu1:=⟨3⟩) J J J (fun hc12=>?_) (fun hc12=>?_)
  .
   refine nu (fu:=⟨0⟩) (((18446744073709551616-a)%18446744073709551616:Int)) J (by rw[nO];omega) J<|cu (zv n a) J (by subst hg18;rw[Hm];simp only[zv,if_true];omega) J<|?_;exact rz J J
  .
   exact absurd (by omega) hc12
 .
  refine ml 32 J J J (fun hg32=>?_) (fun hg32=>?_)
  .
   refine br J J J (fun hc25=>?_) (fun hc25=>?_)
   .
    exact rz J (by subst hg18;rfl)
   .
    exact absurd (by omega) hc25
  .
   subst hg18;cases hg32
def Bb{neg:Bool}{a i:Nat}[h:BN a i](hi:i<=1000000000:=by decide):PF GB prog 158 [eS neg a] (eI (zv neg a)):=by
 refine fn func158 J J ntmps158 J J (fun C=>?_);refine cl J (zc hi) J<|?_;refine ml 9 J J J (fun hg9=>?_) (fun hg9=>?_)
 .
  exact rz J (by rw[EU];simp[hg9,Ao,ji])
 .
  exact rz J (by rw[EU];simp[hg9,Ao,ji])
def EF{neg:Bool}{a:Nat}:PF GB prog 238 [.v (.bool neg),dN a] (eI (zv neg a)):=by
 refine fn func238 J J ntmps238 J J (fun C=>?_);refine ml 6 J J J (fun hg6=>?_) (fun hg6=>?_)
 .
  exact rz J (by rw[EU];simp[hg6,Ao,ji])
 .
  exact rz J (by rw[EU];simp[hg6,Ao,ji])
def aEh{m:Int}{i:Nat}[h:BI m i](hi:i<=1000000000:=by decide):PF GB prog 190 [eI m] (eI (-m)):=by
 refine fn func190 J J ntmps190 J J (fun C=>?_);refine cl J (Bb (neg:=!decide (m<0)) (a:=m.natAbs) hi) J<|?_;exact rz J (by rw[Z3,my];rfl)
def Jy{a b:Int}{i j:Nat}[h:BI a i][k:BI b j](hi:i<=1000000000:=by decide)(hj:j<=1000000000:=by decide):PF GB prog 210 [eI a,eI b] (eI (a*b)):=by
 refine fn func210 J J ntmps210 J J (fun C=>?_);refine cl J (Ba (a:=a.natAbs) (b:=b.natAbs) hi hj) J<|cl J EF J<|?_;exact rz J (by rw[show(!(decide (a<0)==decide (b<0)))=(decide (a<0) !=decide (b<0)) from J,Qb,my,my];rfl)
def aCA{n1:Bool}{u:Nat}{b:Int}{i j:Nat}[h:BN u i][k:BI b j](hi:i<=1000000000:=by decide)(hj:j<=1000000000:=by decide):PF GB prog 211 [eS n1 u,eI b] (eI (zv n1 u+b)):=by
 refine fn func211 J J ntmps211 J J (fun C=>?_);refine bb J J J (fun hc13=>?_) (fun hc13=>?_)
 .
  refine cl J (Yr (b:=b.natAbs) hi hj) J<|cl J EF J<|?_;exact rz J (by rw[apD,show n1=decide (b<0) from by simpa using hc13,my];rfl)
 .
  refine cl J (S9 (b:=b.natAbs) hi hj) J<|?_;refine bd J J J (fun hc30=>?_) (fun hc30=>?_)
  .
   refine cl J EF J<|?_;exact rz J (by rw[VG (by simpa using hc13) hc30];rfl)
  .
   refine cl J (S9 (a:=b.natAbs) hj hi) J<|cl J EF J<|?_;exact rz J (by rw[aCg (by simpa using hc13) (by omega)];rfl)
def aDu{a b:Int}{i j:Nat}[h:BI a i][k:BI b j](hi:i<=1000000000:=by decide)(hj:j<=1000000000:=by decide):PF GB prog 211 [eI a,eI b] (eI (a+b)):=(aCA (n1:=decide (a<0)) (u:=a.natAbs) hi hj).to (by rw[my])
def fi(q:Rat):Prop:= ¬(q.num.natAbs<4611686018427387904/\q.den<4611686018427387904)
instance (q:Rat):Decidable (fi q):=inferInstanceAs (Decidable (¬_))
def dq(q:Rat):Int:=if fi q then 0 else q.num
def dm(q:Rat):Int:=if fi q then 0 else(q.den:Int)-1
def dh(q:Rat):DV:= .op (decide (fi q)) [.v (.bool (decide (q.num<0))),dN q.num.natAbs,dN q.den]
def eF(q:Rat):DV:= .ag [vI (dq q),vI (dm q),dh q]
abbrev WK {q:Rat} (h:decide (fi q)=true):fi q:=of_decide_eq_true h
abbrev t6 {q:Rat} (h:decide (fi q)=false): ¬fi q:=of_decide_eq_false h
abbrev WO {q:Rat} (h: ¬decide (fi q)=false):fi q:=by simpa using h
abbrev oP {q:Rat} (h: ¬decide (fi q)=true): ¬fi q:=by simpa using h
def nE{q:Rat}(h: ¬fi q):dq q=q.num:=if_neg h
def pk{q:Rat}(h: ¬fi q):dm q=(q.den:Int)-1:=if_neg h
def qC{q:Rat}(h: ¬fi q):q.num.natAbs<4611686018427387904:=(Decidable.not_not.1 h).1
def qp{q:Rat}(h: ¬fi q):q.den<4611686018427387904:=(Decidable.not_not.1 h).2
def IK{q:Rat}(h:fi q):q≠0:=fun e=>by subst e;exact h ⟨by decide,by decide⟩
def uv{q:Rat}{m d:Int}{r:DV}(h: ¬fi q)(h1:q.num=m)(h2:(q.den:Int)-1=d)(e:r= .ag [vI m,vI d, .v (.pointer none)])(G:Gh)(y:Value)(k:Is G r y):Is G (eF q) y:=by
 subst e h1 h2;obtain⟨l,rfl,g⟩:=c7.1 k;obtain⟨y1,l1,rfl,k1,g1⟩:=aP.1 g;obtain⟨y2,l2,rfl,k2,g2⟩:=aP.1 g1;obtain⟨y3,l3,rfl,k3,g3⟩:=aP.1 g2;exact c7.2 ⟨_,J, .cons (by rw[nE h];exact k1) (.cons (by rw[pk h];exact k2) (.cons (tj.2 (.inl ⟨decide_eq_false h,aH.1 k3⟩)) g3))⟩
def Ry{q:Rat}{n:Bool}{a d:Nat}{r:DV}(h:fi q)(h1:decide (q.num<0)=n)(h2:q.num.natAbs=a)(h3:q.den=d)(e:r= .ag [vI 0,vI 0, .pt [.v (.bool n),dN a,dN d]])(G:Gh)(y:Value)(k:Is G r y):Is G (eF q) y:=by
 subst e h1 h2 h3;obtain⟨l,rfl,g⟩:=c7.1 k;obtain⟨y1,l1,rfl,k1,g1⟩:=aP.1 g;obtain⟨y2,l2,rfl,k2,g2⟩:=aP.1 g1;obtain⟨y3,l3,rfl,k3,g3⟩:=aP.1 g2;exact c7.2 ⟨_,J, .cons (by unfold dq;rw[if_pos h];exact k1) (.cons (by unfold dm;rw[if_pos h];exact k2) (.cons (tj.2 (.inr ⟨decide_eq_true h,k3⟩)) g3))⟩
def ut(G:Gh)(y:Value)(k:Is G (.ag [vI 0,vI 0, .v (.pointer none)]) y):Is G (eF 0) y:=uv (fun h=>IK h J) J J J G y k
def NN{m:Int}(h:m.natAbs<4611686018427387904)(G:Gh)(y:Value)(k:Is G (.ag [vI m,vI 0, .v (.pointer none)]) y):Is G (eF (m:Rat)) y:=
 uv (fun k=>k ⟨by simpa using h,by rw[rJ];decide⟩) (rX m) (by rw[rJ];rfl) J G y k
def RP{n:Bool}{a d:Nat}(hd:0<d):(mkRat (zv n a) d).num=zv n (a/Nat.gcd a d)/\(mkRat (zv n a) d).den=d/Nat.gcd a d:=by
 obtain⟨h1,h2⟩:=O5 (m:=zv n a) hd;rw[q7] at h1 h2;exact⟨by rw[h1,aDV (kK _ _)],h2⟩
def SN{n:Bool}{a d a' d':Nat}(hd:0<d)(ha:a'=a/Nat.gcd a d)(hd':d'=d/Nat.gcd a d)(h1:a'<4611686018427387904)(h2:d'<4611686018427387904)(G:Gh)(y:Value)(k:Is G (.ag [vI (zv n a'),vI ((d':Int)-1), .v (.pointer none)]) y):Is G (eF (mkRat (zv n a) d)) y:=by
 obtain⟨e1,e2⟩:=RP (n:=n) (a:=a) hd;rw[<-ha] at e1;rw[<-hd'] at e2;exact uv (fun k=>k ⟨by rw[e1,q7];exact h1,by rw[e2];exact h2⟩) e1 (by rw[e2]) J G y k
def FJ{n:Bool}{a d a' d':Nat}(hd:0<d)(ha:a'=a/Nat.gcd a d)(hd':d'=d/Nat.gcd a d)(h: ¬(a'<4611686018427387904/\d'<4611686018427387904))(G:Gh)(y:Value)(k:Is G (.ag [vI 0,vI 0, .pt [.v (.bool (decide (zv n a'<0))),dN (zv n a').natAbs,dN d']]) y):Is G (eF (mkRat (zv n a) d)) y:=by
 obtain⟨e1,e2⟩:=RP (n:=n) (a:=a) hd;rw[<-ha] at e1;rw[<-hd'] at e2;exact Ry (fun k=>h ⟨by rw[e1,q7] at k;exact k.1,by rw[e2] at k;exact k.2⟩) (by rw[e1]) (by rw[e1]) e2 J G y k
def Zt{a d:Nat}(hd:0<d)(h: ¬(1:Int)<(bl (Nat.gcd a d):Nat)):Nat.gcd a d=1:=by
 have h1:Nat.gcd a d≠0:=fun e=>by rw[Nat.gcd_eq_zero_iff] at e;omega
 have h2:Nat.gcd a d<2^1:=pc.1 (by omega);omega
def n8{x:Nat}:(((bl x:Nat):Int)<=62)↔x<4611686018427387904:=YJ
def PF.ofI{P:Program}{f:FuncId}{ds ds':List DV}{r:DV}(h:PF GB P f ds r)(k: ∀G vs,IsLs G ds' vs->IsLs G ds vs):PF GB P f ds' r:=fun G vs hg hv=>h G vs hg (k G vs hv)
def uV{n:Bool}{a d i j:Nat}[h:BN a i][k:BN d j](hi:i<=450000000:=by decide)(hj:j<=450000000:=by decide):PF GB prog 135 [eS n a,dN d] (eF (mkRat (zv n a) d)):=by
 refine fn func135 J J ntmps135 J J (fun C=>?_);refine cl J (vO (a:=d) (by omega)) J<|?_;refine cs 13 J J J (fun hg13=>?_) (fun hg13=>?_)
 .
  exact jf rfl (by obtain rfl:=Ir.1 (Int.ofNat.inj hg13);rw[Rat.mkRat_zero];exact ut)
 .
  have hd0:0<d:=by have:= @Ir d;omega
  have hg0:0<Nat.gcd a d:=oV _ hd0;refine cl J (OZ (n:=n) (a:=a) (by omega)) J<|?_;refine br J J J (fun hc17=>?_) (fun hc17=>?_)
  .
   exact jf J (by rw[jL.1 hc17,Rat.zero_mkRat];exact ut)
  .
   refine cl J (I1 (a:=a) (b:=d) (by omega) (by omega)) J<|cl J (vO (a:=Nat.gcd a d) (i:=i+j) (by omega)) J<|?_;refine br J J J (fun hc25=>?_) (fun hc25=>?_)
   .
    obtain⟨a',ea⟩: ∃a',a'=a/Nat.gcd a d:=⟨_,rfl⟩;obtain⟨d',ed⟩: ∃d',d'=d/Nat.gcd a d:=⟨_,rfl⟩;have hba:BN a' i:=ea▸inferInstance;have hbd:BN d' j:=ed▸inferInstance;refine cl (fu:=⟨2⟩) J (QH (a:=a) (b:=Nat.gcd a d) (j:=i+j) hg0 (by omega) (by omega)) J<|?_;refine ao 31 (.d (dN a')) J (by rw[ea]) ?_;refine gx J<|cl (fu:=⟨2⟩) J (QH (a:=d) (b:=Nat.gcd a d) (j:=i+j) hg0 (by omega) (by omega)) J<|?_;refine ao 39 (.d (dN d')) J (by rw[ed]) ?_;refine gx J<|cl J (vO (h:=hba) (by omega)) J<|?_;refine cs 46 J J J (fun hg46=>?_) (fun hg46=>?_)
    .
     refine cl J (vO (h:=hbd) (by omega)) J<|?_;refine br J J J (fun hc50=>?_) (fun hc50=>?_)
     .
      have hs2:=n8.1 hc50;refine cl J (Qh (n8.1 hg46)) J<|cl J (Jd (by have:=n8.1 hc50;omega)) J<|?_;exact jf J (SN hd0 ea ed (n8.1 hg46) (n8.1 hc50))
     .
      refine cl J (Bb (neg:=n) (h:=hba) (by omega)) J<|cl J (zc (h:=hbd) (by omega)) J<|fz 71 J J<|?_;exact jf J (FJ hd0 ea ed (fun e=>hc50 (n8.2 e.2)))
    .
     refine cl J (Bb (neg:=n) (h:=hba) (by omega)) J<|cl J (zc (h:=hbd) (by omega)) J<|fz 71 J J<|?_;exact jf J (FJ hd0 ea ed (fun e=>hg46 (n8.2 e.1)))
   .
    have hg1:=Zt hd0 hc25;have ea:a=a/Nat.gcd a d:=by rw[hg1,tT]
    have ed:d=d/Nat.gcd a d:=by rw[hg1,tT]
    have hba:=h;have hbd:=k;refine cl J (vO (h:=hba) (by omega)) J<|?_;refine cs 46 J J J (fun hg46=>?_) (fun hg46=>?_)
    .
     refine cl J (vO (h:=hbd) (by omega)) J<|?_;refine br J J J (fun hc50=>?_) (fun hc50=>?_)
     .
      have hs2:=n8.1 hc50;refine cl J (Qh (n8.1 hg46)) J<|cl J (Jd (by have:=n8.1 hc50;omega)) J<|?_;exact jf J (SN hd0 ea ed (n8.1 hg46) (n8.1 hc50))
     .
      refine cl J (Bb (neg:=n) (h:=hba) (by omega)) J<|cl J (zc (h:=hbd) (by omega)) J<|fz 71 J J<|?_;exact jf J (FJ hd0 ea ed (fun e=>hc50 (n8.2 e.2)))
    .
     refine cl J (Bb (neg:=n) (h:=hba) (by omega)) J<|cl J (zc (h:=hbd) (by omega)) J<|fz 71 J J<|?_;exact jf J (FJ hd0 ea ed (fun e=>hg46 (n8.2 e.1)))
def uj{m:Int}{i:Nat}[h:BI m i](hi:i<=400000000:=by decide):PF GB prog 171 [eI m] (eF (m:Rat)):=by
 refine fn func171 J J ntmps171 J J (fun C=>?_);refine rf (fu:=⟨0⟩) J J<|?_;refine ao 4 (.d (dN 1)) J (by unfold dN;rw[Cl];rfl) ?_;refine gx J<|cl J (uV (n:=decide (m<0)) (a:=m.natAbs) (d:=1) (by omega)) J<|?_;exact rz J (by rw[my,show mkRat m 1=(m:Rat) from sL ..];rfl)
def rP{q:Rat}:PF GB prog 172 [eF q] (vB (decide (q=0))):=by
 refine fn func172 J J ntmps172 J J (fun C=>?_);refine cs 6 J J J (fun hg6=>?_) (fun hg6=>?_)
 .
  exact rz J (by rw[nE (t6 hg6)];show DV.v (.bool (decide _))= .v (.bool _);congr 2;exact decide_eq_decide.2 ⟨fun e=>mR.1 e,fun e=>by rw[e];rfl⟩)
 .
  exact rz J (by rw[decide_eq_false (IK (WO hg6))];rfl)
def C8{m:Int}(h:m.natAbs<9223372036854775808):PF GB prog 205 [vI m] (.v (.int .u64 (m.natAbs:Nat))):=by
 refine fn func205 J J ntmps205 J J (fun C=>?_);refine br J J J (fun hc4=>?_) (fun hc4=>?_)
 .
  exact rz J (by show DV.v (.int _ _)=_;congr 2;omega)
 .
  exact rz J (by show DV.v (.int _ _)=_;congr 2;omega)
def ry{q:Rat}{i:Nat}[h:BQ q i](hi:i<=900000000:=by decide):PF GB prog 207 [eF q] (dN q.den):=by
 refine fn func207 J J ntmps207 J J (fun C=>?_);refine br (v1:=fun hc5=>by simp only[ah];exact hc5) (fu2:=⟨6⟩) J J J (fun hc5=>?_) (fun hc5=>?_)
 .
  refine cl J (zc (a:=q.den) (by omega)) J<|?_;exact rz J J
 .
  have hd:=q.den_nz;have hs:=qp (oP hc5);refine ao 13 (.d (vI ((q.den:Int)-1))) J (by rw[pk (oP hc5)]) ?_;refine gx (fu:=⟨2⟩) J<|?_;refine ao 15 (.d (.v (.int .u64 (q.den:Nat)))) J (by congr 3;omega) ?_;refine gx J<|cl J (HF (a:=q.den) (by omega)) J<|?_;exact rz J J
def tH{q:Rat}{i:Nat}[h:BQ q i](hi:i<=900000000:=by decide):PF GB prog 109 [eF q] (eI q.num):=by
 refine fn func109 J J ntmps109 J J (fun C=>?_);refine br (v1:=fun hc5=>by simp only[ah];exact hc5) (fu2:=⟨6⟩) J J J (fun hc5=>?_) (fun hc5=>?_)
 .
  refine cl J (Bb (neg:=decide (q.num<0)) (a:=q.num.natAbs) (by omega)) J<|?_;exact rz J (by rw[my];rfl)
 .
  have hs:=qC (oP hc5);refine ao 13 (.d (vI q.num)) J (by rw[nE (oP hc5)]) ?_;refine gx J<|cl J (Lb (by omega) (by omega)) J<|?_;exact rz J J
def n4{q:Rat}{i:Nat}[h:BQ q i](hi:i<=900000000:=by decide):PF GB prog 147 [eF q] (eF (-q)):=by
 refine fn func147 J J ntmps147 J J (fun C=>?_);refine br (v1:=fun hc5=>by simp only[ah];exact hc5) (fu2:=⟨6⟩) J J J (fun hc5=>?_) (fun hc5=>?_)
 .
  refine cl (fu:=⟨6⟩) (hv:=by simp only[ah];exact hc5) J (aEh (m:=q.num) (by omega)) J<|bxf J J<|?_;exact jf J (Ry (q:= -q) (fun k=>WK hc5 (by rw[nQ,jN,pS] at k;exact k)) (by rw[nQ]) (by rw[nQ]) (pS q) J)
 .
  have hs:=qC (oP hc5);refine ao 21 (.d (vI q.num)) J (by rw[nE (oP hc5)]) ?_;refine gx J<|?_;exact jf J (uv (q:= -q) (fun k=>k (by rw[nQ,jN,pS];exact⟨hs,qp (oP hc5)⟩)) (by rw[nQ]) (by rw[pS,pk (oP hc5)]) J)
def kv{q:Rat}{i:Nat}[h:BQ q i](hi:i<=900000000:=by decide):PF GB prog 104 [eF q] (vI q.num.sign):=by
 refine fn func104 J J ntmps104 J J (fun C=>?_);refine br (v1:=fun hc3=>by simp only[ah];exact hc3) J J J (fun hc3=>?_) (fun hc3=>?_)
 .
  refine cl J (OZ (n:=decide (q.num<0)) (a:=q.num.natAbs) (by omega)) J<|?_;exact rz J (by rw[my];rfl)
 .
  have hs:=nE (oP hc3);refine br J J J (fun hc13=>?_) (fun hc13=>?_)
  .
   exact rz J (by rw[fY (by omega)];rfl)
  .
   refine br J J J (fun hc17=>?_) (fun hc17=>?_)
   .
    exact rz J (by rw[fT (by omega)];rfl)
   .
    exact rz J (by rw[show q.num=0 by omega];rfl)
def aAp{h l y:Nat}(hh:h<y)(hl:l<4294967296)(hy:y<4294967296):PF GB prog 168 [.v (.int .u32 (h:Int)), .v (.int .u32 (l:Int)), .v (.int .u32 (y:Int))] (.tp [dU ((h*4294967296+l)/y),dU ((h*4294967296+l)%y)]):=by
 refine fn (fu:=⟨11⟩) func168 J J ntmps168 J J (fun C=>?_);refine kT 10 J (by omega) ?_;refine gx (fu:=⟨4⟩) J<|?_;refine kF 14 J (by omega) ?_;refine gx (fu:=⟨11⟩) (hv:=by simp only[ah];exact⟨by omega,(by decide)⟩) J<|?_;refine ao 19 (.d (.v (.int .u64 (h*2^32:Nat)))) J (by show FX.d (.v (.int _ _))= .d (.v (.int _ _));rw[r7 _ 32 (by decide) (by show _*4294967296<_;omega) J]) ?_;refine gx (fu:=⟨3⟩) J<|?_;refine ao 22 (.d (.v (.int .u64 (l+h*2^32:Nat)))) J (congrArg (fun z:Nat=>FX.d (.v (.int .u64 (z:Int)))) (by rw[BitVec.or_comm];exact AY 64 l h 32 hl (by show _+_*4294967296<18446744073709551616;omega))) ?_;obtain⟨t,ht⟩: ∃t,t=h*4294967296+l:=⟨_,rfl⟩;have hq:t/y<4294967296:=by rw[kW (by omega)];have:=gK 4294967296 (show h+1<=y from hh);omega
 have hr:t%y<y:=dW _ (by omega);refine ao 22 (.d (.v (.int .u64 (t:Nat)))) J (by show FX.d (.v (.int _ _))= .d (.v (.int _ _));congr 3;rw[ht];omega) ?_;refine gx (hv:=by simp only[ah];exact⟨⟨⟨⟨by omega,⟨(by omega),(by omega),(by omega)⟩⟩,by omega⟩,⟨(by omega),(by omega)⟩⟩,by kernel_rfl⟩) J<|?_;exact rz J (by show DV.tp [.v (.int _ _), .v (.int _ _)]= .tp [.v (.int _ _), .v (.int _ _)];rw[<-ht,<-qJ,<-oS];generalize t/y=q at*;generalize t%y=r at*;congr 4<;>(first|omega|(congr 3;omega)))
def Wg{A r i b:Nat}(d:Nat)(hb:0<b):(A*4294967296+d)/b=A/b*4294967296+(A%b*4294967296+d)/b/\(A*4294967296+d)%b=(A%b*4294967296+d)%b:=by
 have h:=rZ A b;have e:A*4294967296+d=(A%b*4294967296+d)+b*(A/b*4294967296):=by
  rw[<-cW,Nat.add_right_comm,<-dQ,lX (A%b),h]
 rw[e,mU _ _ hb,nR];exact⟨lX _ _,J⟩
def MJ{ds:List Nat}{i:Nat}(h:i<ds.length):dv (ds.drop i)=dv (ds.drop (i+1))*4294967296+ds.getD i 0:=by
 rw[cX h,aK,aX h];simp only[dv,jK];omega
def PJ{W:List Nat}{i q:Nat}(h:i<W.length):dv ((W.set i q).drop i)=dv (W.drop (i+1))*4294967296+q:=by
 rw[MJ (by rw[aN];exact h),qY (by omega),Rw h]
def av0{a b k:Nat}{W:List Nat}(hb:0<b)(hk:k<(dg a).length)(hl:W.length=(dg a).length)(h:dv (W.drop (k+1))=dv ((dg a).drop (k+1))/b):
  dv ((W.set k ((dv ((dg a).drop (k+1))%b*4294967296+(dg a).getD k 0)/b)).drop k)=dv ((dg a).drop k)/b/\dv ((dg a).drop k)%b=(dv ((dg a).drop (k+1))%b*4294967296+(dg a).getD k 0)%b:=by
 have:=Wg (A:=dv ((dg a).drop (k+1))) (r:=0) (i:=0) ((dg a).getD k 0) hb;rw[PJ (by omega),h,MJ hk,this.1,this.2];exact⟨J,J⟩
def AW{a b:Nat}:gq a b<0↔a<b:=by unfold gq;split<;>(try split)<;>omega
def CB{a b:Nat}:0<gq a b↔b<a:=by unfold gq;split<;>(try split)<;>omega
def Xb{x:Nat}(hx:x<4294967296):PF GB prog 201 [dU x] (vI (32-(bl x:Int))):=by
 intro G vs hg hv;obtain⟨v,m,rfl,h1,h2⟩:=aP.1 hv;rw[co] at h2;subst h2;rw[aH.1 h1];exact(Ik hx).mono fun v G' _ h=>aH.2 h
def Uo{a k:Nat}(h:4294967296^k<=a):k<(dg a).length:=by
 have h1:=vk a;rcases iN k (dg a).length with q|q
 ·exact q
 ·have:4294967296^(dg a).length<=4294967296^k:=bS (by decide) q
  omega
def SL{v L:Nat}(hL:L=(dg v).length)(h1:1<=L):(dg v).getD (L-1) 0=v/4294967296^(L-1)/\0<v/4294967296^(L-1):=by
 have h:=HB (ku v) (L-1);rw[vo (by omega:(dg v).length<=L-1+1),cx,pN,fJ] at h;have h2:=vk v;rw[<-hL] at h2;rw[kQ (show v<4294967296^(L-1+2) from dR h2 (bS (by decide) (by omega))),pN,fJ] at h;have h3:=ri (eG v).2.2 (by intro e;rw[e] at hL;simp at hL;omega);rw[cx,<-hL] at h3;exact⟨h.symm,Nat.div_pos h3 (fM (by decide))⟩
def K6{R n:Nat}(h1:1<=n)(h:R<4294967296^(n+1)):R/4294967296^(n-1)=(dg R).getD (n-1) 0+(dg R).getD n 0*4294967296:=by
 have e:=HB (ku R) (n-1);rw[cx,show n-1+1=n by omega,kQ (show R<4294967296^(n-1+2) by rwa [show n-1+2=n+1 by omega]),pN,fJ,cV] at e;exact e
def ayf{R v j L:Nat}(hL:L=(dg v).length)(h1:1<=L)(hR:R<v*4294967296^(j+1)):R/(v*4294967296^j)<=min (R/4294967296^(L+j-1)/(v/4294967296^(L-1))) 4294967295:=by
 have ht:=(SL hL h1).2;have hp:0<4294967296^j:=fM (by decide);have hv0:0<v:=by
  rcases fR v with q|q
  ·subst q;simp at ht
  ·exact q
 have hvp:0<v*4294967296^j:=jS hv0 hp;refine Nat.le_min.2 ⟨?_,?_⟩
 ·rw[sV ht,sV (fM (by decide))]
  have h3:v/4294967296^(L-1)*4294967296^(L-1)<=v:=Nat.div_mul_le_self _ _;have h4:R/(v*4294967296^j)*(v*4294967296^j)<=R:=Nat.div_mul_le_self _ _;rw[show L+j-1=L-1+j by omega,gJ]
  calc R/(v*4294967296^j)*(v/4294967296^(L-1))*(4294967296^(L-1)*4294967296^j)
    =R/(v*4294967296^j)*((v/4294967296^(L-1)*4294967296^(L-1))*4294967296^j):=by simp only[cW]
   _<=R/(v*4294967296^j)*(v*4294967296^j):=gK _ (bR _ h3)
   _<=R:=h4
 ·have:R/(v*4294967296^j)<4294967296:=by
   rw[kW hvp];rw[gW] at hR;rwa [cV,cW]
  omega
def Gd{R V g:Nat}(hV:0<V)(h:R<V*g):R/V<g:=by
 rw[kW hV,cV];exact h
def awP{R V g:Nat}(hV:0<V)(h1:R/V<=g)(h2:V*g<=R):g=R/V:=by
 have:g<=R/V:=by rw[sV hV,cV];exact h2
 omega
def Om{R0 R v j g:Nat}{W:List Nat}(hj:j<W.length)(h:R0=R+dv (W.drop (j+1))*4294967296^(j+1)*v)(hv:0<v*4294967296^j)(hg:g=R/(v*4294967296^j)):
  R0=(R-v*4294967296^j*g)+dv ((W.set j g).drop j)*4294967296^j*v/\R-v*4294967296^j*g<v*4294967296^j:=by
 have h1:=rZ R (v*4294967296^j);have h2:=dW R hv;rw[<-hg] at h1;refine⟨?_,by omega⟩;rw[PJ hj,dQ,dQ,h,gW];have e:g*4294967296^j*v=v*4294967296^j*g:=by simp only[cW,lK,cV]
 have e2:dv (W.drop (j+1))*(4294967296^j*4294967296)*v=dv (W.drop (j+1))*4294967296*4294967296^j*v:=by simp only[cW,lK,cV]
 rw[e,e2];omega
def axb{a b s R:Nat}{D:Nat}(hR:R<b*2^s)(h:a*2^s=R+D*(b*2^s)):D=a/b/\R/2^s=a%b:=by
 have hp:0<2^s:=fM (by decide);have hb:0<b:=by
  rcases fR b with q|q
  ·subst q;simp at hR
  ·exact q
 have h1:a=R/2^s+D*b:=by
  have:=congrArg (· /2^s) h;rw[Nat.mul_div_cancel _ hp,<-cW,Nat.add_mul_div_right _ _ hp] at this;exact this
 have h2:R/2^s<b:=by rw[kW hp];exact hR
 have h3:R/2^s+b*D=a:=by rw[cV b];exact h1.symm
 have:=(Nat.div_mod_unique hb).2 ⟨h3,h2⟩;exact⟨this.1.symm,this.2.symm⟩
def asn{a b s:Nat}(hl:(dg b).length<=(dg a).length)(h2:1<=(dg b).length):a*2^s<b*2^s*4294967296^((dg a).length-(dg b).length+1):=by
 have h1:=vk a;have h3:=ri (eG b).2.2 (by intro e;rw[e] at h2;simp at h2);rw[cx] at h3;have h4:4294967296^(dg a).length<=b*4294967296^((dg a).length-(dg b).length+1):=by
  rw[show(dg a).length=((dg b).length-1)+((dg a).length-(dg b).length+1) by omega,gJ];rw[show(dg b).length-1+((dg a).length-(dg b).length+1)-(dg b).length+1=(dg a).length-(dg b).length+1 by omega];exact bR _ h3
 rw[rY];exact kL (dR h1 h4) (fM (by decide))
def Tg(x j:Nat):x*2^(32*j)=x*4294967296^j:=by rw[pR]
def Y8{R L j:Nat}(h:R<4294967296^(L+j+1))(h1:1<=L):R/4294967296^(L+j-1)<18446744073709551616:=by
 rw[kW (fM (by decide)),show(18446744073709551616:Nat)=4294967296^2 from J,<-gJ];rwa [show 2+(L+j-1)=L+j+1 by omega]
def aw1{R v j L:Nat}(hL:L=(dg v).length)(hR:R<v*4294967296^(j+1)):R<4294967296^(L+j+1):=by
 have h:=vk v;rw[<-hL] at h;rw[kN,gJ];exact dR hR (bR _ (pZ h))
def VW{a b ia ib:Nat}[ha:BN a ia][hb:BN b ib](hi:ia<=500000000)(hj:ib<=500000000)(h2:1<=(dg b).length)(hl:(dg b).length<=(dg a).length):PF GB prog 169 [dN a,dN b] (.tp [dN (a/b),dN (a%b)]):=by
 have hla:=fB (dg a);have hlb:=fB (dg b);have hba:=mi ha.h;have hba':(dg a).length<=20000000:=by omega
 refine fn func169 J J ntmps169 J J (fun C=>?_);refine ix _ J (gz (k:=(dg b).length-1) (by omega) (by omega)) J<|cl (fu:=⟨0⟩) J (Xb (ir b ((dg b).length-1))) J<|?_;obtain⟨s,hs⟩: ∃s:Nat,s=32-bl ((dg b).getD ((dg b).length-1) 0):=⟨_,rfl⟩;have hs32:s<=32:=by omega
 refine ao 22 (.d (vI (s:Nat))) J (by show FX.d (.v (.int _ _))= .d (.v (.int _ _));congr 3;have:=pc.2 (show(dg b).getD ((dg b).length-1) 0<2^32 from ir b _);omega) ?_;refine gx J<|cl J (Ev (a:=b) (k:=s) (ia:=ib) (by omega) (by omega)) J<|cl (fu:=⟨0⟩) J (Ev (a:=a) (k:=s) (ia:=ia) (by omega) (by omega)) J<|?_;obtain⟨v,hv⟩: ∃v,v=b*2^s:=⟨_,rfl⟩;obtain⟨R0,hR0⟩: ∃R0,R0=a*2^s:=⟨_,rfl⟩;refine ao 25 (.d (dN v)) J (by rw[hv]) ?_;refine ao 28 (.d (dN R0)) J (by rw[hR0]) ?_;obtain⟨L,hL⟩: ∃L,L=(dg v).length:=⟨_,rfl⟩;have hlv:((dg v).map dU).length=L:=by rw[fB,hL]
 have hps:2^s<=2^32:=bS (by decide) hs32;have hpp:0<2^s:=fM (by decide);have hst:=asn (a:=a) (b:=b) (s:=s) hl h2;rw[<-hv,<-hR0] at hst;have hvb:v<2^(ib+32):=by rw[hv,gJ];exact nW hb.h hps (by decide)
 have hRb:R0<2^(ia+32):=by rw[hR0,gJ];exact nW ha.h hps (by decide)
 have hbp:0<b:=iY (fun q=>by subst q;rw[AP] at h2;simp at h2);have hvp:0<v:=hv▸jS hbp hpp;have hLp:1<=L:=by rw[hL];exact Uo (k:=0) (by rw[rN];exact hvp)
 have htop:=SL hL hLp;haveI hvB:BN v (ib+32):=⟨hvb⟩;have hLb:=mi hvb;have hLb':L<=20000000:=by omega
 have htl:=ir v (L-1);refine gx (fu:=⟨9⟩) J<|?_;refine ao 31 (.d (vI (L:Nat))) J (by rw[hlv];rfl) ?_;refine gx J<|ix (fu:=⟨2⟩) _ J (gz (k:=L-1) (by omega) (by omega)) J<|?_;refine ao 35 (.d (.v (.int .u64 (v/4294967296^(L-1):Nat)))) J (by rw[htop.1]) ?_;rw[htop.1] at htl;refine gx (fu:=⟨11⟩) J<|?_;obtain⟨m,hm⟩: ∃m,m=(dg a).length-(dg b).length+1:=⟨_,rfl⟩;rw[<-hm] at hst;have hrl:(List.replicate ((m:Nat):Int).toNat (DV.v (.int .u32 0))).length=m:=by rw[aU,bZ]
 refine ao 41 (.d (vI (m:Nat))) J (by show FX.d (.v (.int _ _))= .d (.v (.int _ _));congr 3;omega) ?_;refine gx J<|mk ((List.replicate m 0).map dU) J J (by rw[<-wx];rfl) J<|?_;refine lp (X:=List Nat×Nat×Nat) (fun⟨W,R,k⟩=>[(6, .d (vI (s:Nat))),(7, .d (dN v)),(8, .d (dN R)),(9, .d (.v (.int .u64 (v/4294967296^(L-1):Nat)))),(10, .rw 42),(11, .d (vI ((k:Nat)-1)))]) (fun⟨W,R,k⟩=>[(42,some (.b 218 1 (W.map dU) true))]) (fun⟨W,R,k⟩=>W.length=m/\bw W/\k<=m/\R0=R+dv (W.drop k)*4294967296^k*v/\R<v*4294967296^k/\R<=R0) (fun⟨W,R,k⟩=>k) ⟨List.replicate m 0,R0,m⟩ J ⟨by simp, .replicate _,bQ _,by simp[dv],hst,bQ _⟩ (fun _=>J) (fun⟨W,R,k⟩ hk=>?_);dsimp only at hk⊢;obtain⟨h1,h2',h3,h4,h5,h6⟩:=hk;have hlw:=fB W;refine br (fu1:=⟨10⟩) J J J (fun hc47=>?_) (fun hc47=>?_)
 .
  obtain⟨j,rfl⟩: ∃j,k=j+1:=⟨k-1,by omega⟩;have hvj:0<v*4294967296^j:=jS hvp (fM (by decide));have hge:=ayf hL hLp h5;have hlen:=aw1 hL h5;have hlr:((dg R).map dU).length=(dg R).length:=fB _;haveI hRB:BN R (ia+32):=⟨by omega⟩;have hq32:R/(v*4294967296^j)<4294967296:=by omega
  have hz1:=Int.natCast_nonneg (R/4294967296^(L+j-1));have hz2:=Int.natCast_nonneg (R/4294967296^(L+j-1)/(v/4294967296^(L-1)));refine ao 11 (.d (vI (j:Nat))) J (by show FX.d (.v (.int _ _))= .d (.v (.int _ _));congr 3;omega) ?_;refine mg (fu:=⟨6⟩) (hv:=fun _ _=>by simp only[ah];exact⟨(by omega),(by have:=Y8 hlen hLp;omega),(by omega)⟩) (X:=Unit) (fun _=>[(6, .d (vI (s:Nat))),(7, .d (dN v)),(8, .d (dN R)),(9, .d (.v (.int .u64 (v/4294967296^(L-1):Nat)))),(10, .rw 42),(11, .d (vI (j:Nat))),(12, .d (.v (.int .u64 (R/4294967296^(L+j-1):Nat))))]) (fun _=>[(42,some (.b 218 1 (W.map dU) true))]) (fun _=>True) [6,7,8,9,10,11,12] [42] rfl ?_ (fun _=>J) (fun _ hm=>?_)
  .
   refine gx (fu:=⟨4⟩) J<|?_;refine ao 51 (.d (vI (L:Nat))) J (by rw[hlv];rfl) ?_;refine gx (fu:=⟨2⟩) J<|?_;refine ao 53 (.d (vI (L+j:Nat))) J (by show FX.d (.v (.int _ _))= .d (.v (.int _ _));congr 3) ?_;refine gx (fu:=⟨8⟩) J<|?_;refine ao 56 (.d (vI ((dg R).length:Nat))) J (by rw[hlr];rfl) ?_;refine gx J<|?_;refine br (fu2:=⟨6⟩) J J J (fun hc57=>?_) (fun hc57=>?_)
   .
    have hd0:=ir R (L+j-1);have hd1:=ir R (L+j);refine ix (hv:=by simp only[ah];exact⟨⟨by omega,(by decide)⟩,by omega⟩) _ J (gz (k:=L+j) (by omega) (by omega)) J<|ix (fu:=⟨3⟩) _ J (gz (k:=L+j-1) (by omega) (by omega)) J<|?_;refine ao 70 (.d (.v (.int .u64 ((dg R).getD (L+j-1) 0+(dg R).getD (L+j) 0*4294967296:Nat)))) J (congrArg (fun z:Nat=>FX.d (.v (.int .u64 (z:Int)))) (by rw[r7 _ 32 (by decide) (by show _*4294967296<_;omega) J,BitVec.or_comm];exact AY 64 ((dg R).getD (L+j-1) 0) ((dg R).getD (L+j) 0) 32 hd0 (by show _+_*4294967296<18446744073709551616;omega))) ?_;refine gx J<|?_;refine ao 12 (.d (.v (.int .u64 (R/4294967296^(L+j-1):Nat)))) J (by rw[K6 (by omega) hlen]) ?_;exact at_ () trivial
   .
    refine ao 74 (.d (vI ((dg R).length:Nat))) J (by rw[hlr];rfl) ?_;refine gx J<|?_;refine br J J J (fun hc75=>?_) (fun hc75=>?_)
    .
     have hd0:=ir R (L+j-1);refine ix _ J (gz (k:=L+j-1) (by omega) (by omega)) J<|?_;refine ao 12 (.d (.v (.int .u64 (R/4294967296^(L+j-1):Nat)))) J (by rw[K6 (by omega) hlen,vo (by omega:(dg R).length<=L+j),kY,fJ]) ?_;exact at_ () trivial
    .
     refine ao 12 (.d (.v (.int .u64 (R/4294967296^(L+j-1):Nat)))) J (by rw[K6 (by omega) hlen,vo (by omega:(dg R).length<=L+j),vo (by omega:(dg R).length<=L+j-1)];rfl) ?_;exact at_ () trivial
  .
   obtain⟨g0,hg0'⟩: ∃g0,g0=min (R/4294967296^(L+j-1)/(v/4294967296^(L-1))) 4294967295:=⟨_,rfl⟩;rw[<-hg0'] at hge;have hg0:=hge;have hg1:g0<=4294967295:=by omega
   refine ao 85 (.d (.v (.int .u64 (g0:Nat)))) J (by show FX.d (.v (.int _ _))= .d (.v (.int _ _));congr 3;rw[<-qJ];split<;>omega) ?_;refine gx J<|cl J (tg (u:=g0) (by omega)) J<|cl (fu:=⟨2⟩) J (sG (ia:=ib+32) (ib:=32) (hb:=⟨by show _<4294967296;omega⟩) (by omega) (by decide)) J<|?_;refine ao 91 (.d (vI (32*j:Nat))) J (by show FX.d (.v (.int _ _))= .d (.v (.int _ _));congr 3) ?_;refine gx J<|cl (fu:=⟨0⟩) J (Ev (k:=32*j) (ia:=ib+64) (ha:=⟨by rw[show ib+64=ib+32+32 by omega,gJ];exact nJ hvb (by show _<4294967296;omega)⟩) (by omega) (by omega)) J<|?_;refine ao 92 (.d (dN (v*4294967296^j*g0))) J (by rw[Tg,rY]) ?_;refine gx J<|?_;refine lp (X:=Nat) (fun g=>[(6, .d (vI (s:Nat))),(7, .d (dN v)),(8, .d (dN R)),(9, .d (.v (.int .u64 (v/4294967296^(L-1):Nat)))),(10, .rw 42),(11, .d (vI (j:Nat))),(14, .d (.v (.int .u64 (g:Nat)))),(15, .d (dN (v*4294967296^j*g)))]) (fun g=>[(42,some (.b 218 1 (W.map dU) true))]) (fun g=>R/(v*4294967296^j)<=g/\g<=4294967295) (fun g=>g) g0 J ⟨hg0,by omega⟩ (fun _=>J) (fun g hk=>?_);obtain⟨g1,g2⟩:=hk;have hlw:=fB W;refine cl J (Bu (a:=v*4294967296^j*g) (b:=R) (by have:=ED (a:=v*4294967296^j*g) (k:=L+j+1) (by have h1:=vk v;rw[<-hL] at h1;rw[gW,gJ];exact nJ (kL h1 (fM (by decide))) (by omega));omega) (by have:=ED hlen;omega)) J<|?_;refine br (fu1:=⟨7⟩) (v1:=fun hc96=>by simp only[ah];exact(by have h:=Gd hvj (CB.1 hc96);have h1:1<=g:=gU (bT _) h;omega)) (fu2:=⟨11⟩) J J J (fun hc96=>?_) (fun hc96=>?_)
   .
    have hgd:=Gd hvj (CB.1 hc96);have hg1p:1<=g:=gU (bT _) hgd;refine ao 98 (.d (.v (.int .u64 ((g-1:Nat):Int)))) J (by show FX.d (.v (.int _ _))= .d (.v (.int _ _));congr 3;omega) ?_;refine gx J<|cl J (tg (u:=g-1) (by omega)) J<|cl (fu:=⟨2⟩) J (sG (ia:=ib+32) (ib:=32) (hb:=⟨by show _<4294967296;omega⟩) (by omega) (by decide)) J<|?_;refine ao 104 (.d (vI (32*j:Nat))) J (by show FX.d (.v (.int _ _))= .d (.v (.int _ _));congr 3) ?_;refine gx J<|cl (fu:=⟨0⟩) J (Ev (k:=32*j) (ia:=ib+64) (ha:=⟨by rw[show ib+64=ib+32+32 by omega,gJ];exact nJ hvb (by show _<4294967296;omega)⟩) (by omega) (by omega)) J<|?_;refine ao 105 (.d (dN (v*4294967296^j*(g-1)))) J (by rw[Tg,rY]) ?_;refine gx J<|?_;exact at_ (g-1) ⟨⟨by have h:=Gd hvj (CB.1 hc96);omega,by omega⟩,(by have:=Gd hvj (CB.1 hc96);omega)⟩
   .
    have hgq:=awP hvj g1 (sY fun q=>hc96 (CB.2 q));refine ao 109 (.d (dU g)) J (by show FX.d (.v (.int _ _))= .d (.v (.int _ _));congr 3;omega) ?_;refine gx J<|sb _ ((W.set j (R/(v*4294967296^j))).map dU) J (gz (k:=j) (by omega) (by omega)) J (by(rw[<-hgq,bZ,<-vn])<;>rfl) J<|?_;refine cl (fu:=⟨0⟩) J (Kw (a:=R) (b:=v*4294967296^j*g) (ia:=ia+32) (by rw[hgq];exact Nat.mul_div_le _ _) (by omega)) J<|?_;refine ao 113 (.d (dN (R-v*4294967296^j*(R/(v*4294967296^j))))) J (by rw[hgq]) ?_;refine gx J<|?_;exact at_ ⟨W.set j (R/(v*4294967296^j)),R-v*4294967296^j*(R/(v*4294967296^j)),j⟩ (by dsimp only;exact⟨⟨by simpa using h1,h2'.set _ (by omega),by omega,(Om (by omega) h4 hvj J).1,(Om (by omega) h4 hvj J).2,by omega⟩,(by omega)⟩)
 .
  obtain rfl:k=0:=by omega
  rw[rN,iR] at h5;rw[rN,iR,jW,hR0,hv] at h4;rw[hv] at h5;have hend:=axb h5 h4;haveI hRB:BN R (ia+32):=⟨by omega⟩;refine fz 42 J J<|cl J (sI (ds:=W) (by omega)) J<|cl J (Wh (a:=R) (k:=s) (ia:=ia+32) (by omega) (by omega)) J<|?_;exact rz J (by show DV.tp [fk _,dN _]= .tp [dN _,dN _];rw[t8 h2' hend.1,hend.2])
def apq{a b:Nat}(h:b<=a):(dg b).length<=(dg a).length:=ED (gU h (vk a))
def Bd{a b ia ib:Nat}[ha:BN a ia][hb:BN b ib](hb0:0<b)(hi:ia<=500000000:=by decide)(hj:ib<=500000000:=by decide):PF GB prog 120 [dN a,dN b] (.tp [dN (a/b),dN (a%b)]):=by
 have hla:=fB (dg a);have hlb:=fB (dg b);have hba:=mi ha.h;have hbb:=mi hb.h;have hba':(dg a).length<=20000000:=by omega
 have hbb':(dg b).length<=20000000:=by omega
 have hlb1:1<=(dg b).length:=Uo (k:=0) (by rw[rN];exact hb0);refine fn (fu:=⟨7⟩) func120 J J ntmps120 J J (fun C=>?_);refine mg (X:=Unit) (fun _=>[(0, .d (dN a)),(1, .d (dN b))]) (fun _=>[]) (fun _=>True) [0,1] [] rfl ?_ (fun _=>J) (fun _ hm=>?_)
 .
  refine gx J<|cl J (F5 (a:=a) (ia:=ia) (by omega)) J<|?_;refine bd (fu1:=⟨0⟩) J J J (fun hc18=>?_) (fun hc18=>?_)
  .
   refine ao 6 (.d (.v (.int .u64 (a:Nat)))) J (by rw[if_pos hc18]) ?_;refine gx J<|cl J (F5 (a:=b) (ia:=ib) (by omega)) J<|?_;refine bd (fu1:=⟨0⟩) J J J (fun hc24=>?_) (fun hc24=>?_)
   .
    refine ao 8 (.d (.v (.int .u64 (b:Nat)))) J (by rw[if_pos hc24]) ?_;have hdl:=kU a b;have hml:=Nat.mod_le a b;refine gx (hv:=by simp only[ah];exact⟨(by omega),(by omega),(by omega)⟩) J<|cl (hv:=by simp only[ah];exact⟨(by omega),(by omega)⟩) J (tg (u:=a/b) (by omega)) J<|cl J (tg (u:=a%b) (by omega)) J<|?_;exact rz J J
   .
    exact at_ () trivial
  .
   exact at_ () trivial
 .
  refine cl J (Bu (by omega) (by omega)) J<|?_;refine br J J J (fun hc36=>?_) (fun hc36=>?_)
  .
   have hab:=AW.1 hc36;refine D3 J J<|ap _ J J (vy _) J<|?_;refine mD 39 J ?_;exact rz J (by show DV.tp [_, .sl ([]++_)]= .tp [_,_];rw[kQ hab,fU hab,EH];rfl)
  .
   have hab:b<=a:=sY fun q=>hc36 (AW.2 q);have hlab:(dg b).length<=(dg a).length:=apq hab;refine br (fu1:=⟨4⟩) J J J (fun hc42=>?_) (fun hc42=>?_)
   .
    have hb1:b<4294967296:=by have:=vk b;rw[show(dg b).length=1 by omega] at this;omega
    have hbd:(dg b).getD 0 0=b:=Aa (by omega);refine ao 44 (.d (vI ((dg a).length:Nat))) J (by rw[hla];rfl) ?_;refine gx J<|mk (fu:=⟨13⟩) ((List.replicate (dg a).length 0).map dU) J J (by rw[<-wx];rfl) J<|?_;refine ao 47 (.d (vI ((dg a).length:Nat))) J (by rw[hla];rfl) ?_;refine gx J<|?_;refine lp (X:=List Nat×Nat) (fun⟨W,k⟩=>[(0, .d (dN a)),(1, .d (dN b)),(10, .rw 45),(11, .d (dU (dv ((dg a).drop k)%b))),(12, .d (vI ((k:Nat)-1)))]) (fun⟨W,k⟩=>[(45,some (.b 218 1 (W.map dU) true))]) (fun⟨W,k⟩=>W.length=(dg a).length/\bw W/\k<=(dg a).length/\dv (W.drop k)=dv ((dg a).drop k)/b) (fun⟨W,k⟩=>k) ⟨List.replicate (dg a).length 0,(dg a).length⟩ J ⟨by simp, .replicate _,bQ _,by simp[dv]⟩ (fun _=>J) (fun⟨W,k⟩ hk=>?_) (hF:=(by refine⟨J,J,J,pP J (by simp[dv,dU]),pP J (by simp[vI]),?_⟩;repeat (first|exact trivial|refine And.intro J ?_)))
    try dsimp only at hk⊢
    obtain⟨h1,h2,h3,h4⟩:=hk;have hlw:=fB W;refine br (fu1:=⟨0⟩) J J J (fun hc50=>?_) (fun hc50=>?_)
    .
     obtain⟨k,rfl⟩: ∃j,k=j+1:=⟨k-1,by omega⟩;have hsi:=av0 hb0 (by omega) h1 h4;have hrm:=dW (dv ((dg a).drop (k+1))) hb0;have hdk:=ir a k;have hqd:(dv ((dg a).drop (k+1))%b*4294967296+(dg a).getD k 0)/b<4294967296:=by rw[kW hb0];have:=gK 4294967296 (show dv ((dg a).drop (k+1))%b+1<=b from hrm);omega
     refine ao 12 (.d (vI (k:Nat))) J (by show FX.d (.v (.int _ _))= .d (.v (.int _ _));congr 3;omega) ?_;refine gx J<|ix _ J (gz (k:=k) (by omega) (by omega)) J<|ix _ J (gz (k:=0) J (by omega)) J<|cl J (aAp (h:=dv ((dg a).drop (k+1))%b) (l:=(dg a).getD k 0) (y:=(dg b).getD 0 0) (by omega) hdk (by omega)) J<|?_;refine sb (hv:=by simp only[ah];exact⟨by kernel_rfl,by omega⟩) _ ((W.set k ((dv ((dg a).drop (k+1))%b*4294967296+(dg a).getD k 0)/b)).map dU) J (gz (k:=k) (by omega) (by omega)) J (by(rw[hbd,bZ,<-vn])<;>rfl) J<|?_;exact at_ ⟨W.set k ((dv ((dg a).drop (k+1))%b*4294967296+(dg a).getD k 0)/b),k⟩ (by dsimp only;exact⟨⟨by simpa using h1,h2.set _ hqd,by omega,hsi.1⟩,(by omega)⟩) (by refine⟨J,J,J,pP J (by rw[hsi.2,hbd]),pP J (by first|(simp[vI];done)|(simp[vI];omega)),?_⟩;repeat (first|exact trivial|refine And.intro J ?_))
    .
     refine fz 45 J J<|cl J (sI (ds:=W) (by omega)) J<|rf J J<|cl J (sI (ds:=[dv ((dg a).drop k)%b]) (by simp)) J<|?_;exact rz rfl (by show DV.tp [fk _,fk _]= .tp [_,_];obtain rfl:k=0:=(by omega);rw[jW,jW,cx] at h4;rw[jW,cx];rw[t8 h2 h4,t8 (.cons (by have:=dW a hb0;omega) .nil) (n:=a%b) (by simp[dv])])
   .
    refine cl J (VW (by omega) (by omega) hlb1 hlab) J<|?_;exact rz J J
def RM(x y:Nat):Nat.gcd y (x%y)=Nat.gcd x y:=by rw[jZ x y,tU y x,jZ]
def HW{a b ia ib:Nat}[ha:BN a ia][hb:BN b ib](hi:ia<=240000000:=by decide)(hj:ib<=240000000:=by decide):PF GB prog 117 [dN a,dN b] (dN (Nat.gcd a b)):=by
 refine fn (fu:=⟨6⟩) func117 J J ntmps117 J J (fun C=>?_);refine mg (X:=Unit) (fun _=>[(0, .d (dN a)),(1, .d (dN b))]) (fun _=>[]) (fun _=>True) [0,1] [] rfl ?_ (fun _=>J) (fun _ hm=>?_)
 .
  refine gx J<|cl J (F5 (a:=a) (ia:=ia) (by omega)) J<|?_;refine bd (fu1:=⟨0⟩) J J J (fun hc16=>?_) (fun hc16=>?_)
  .
   refine ao 5 (.d (.v (.int .u64 (a:Nat)))) J (by rw[if_pos hc16]) ?_;refine gx J<|cl J (F5 (a:=b) (ia:=ib) (by omega)) J<|?_;refine bd (fu1:=⟨0⟩) J J J (fun hc22=>?_) (fun hc22=>?_)
   .
    refine ao 7 (.d (.v (.int .u64 (b:Nat)))) J (by rw[if_pos hc22]) ?_;refine gx J<|?_;refine lp (X:=Nat×Nat) (fun⟨x,y⟩=>[(5, .d (.v (.int .u64 (x:Nat)))),(7, .d (.v (.int .u64 (y:Nat))))]) (fun⟨x,y⟩=>[]) (fun⟨x,y⟩=>x<18446744073709551616/\y<18446744073709551616/\Nat.gcd x y=Nat.gcd a b) (fun⟨x,y⟩=>y) ⟨a,b⟩ J ⟨hc16,hc22,J⟩ (fun _=>J) (fun⟨x,y⟩ hk=>?_)
    try dsimp only at hk⊢
    obtain⟨h1,h2,h3⟩:=hk;refine br (v1:=fun hc24=>by simp only[ah];exact⟨⟨(by omega),(by omega)⟩,by kernel_rfl⟩) J J J (fun hc24=>?_) (fun hc24=>?_)
    .
     exact at_ ⟨y,x%y⟩ (by dsimp only;exact⟨⟨h2,by have:=dW x (show 0<y by omega);omega,by rw[RM,h3]⟩,(by exact dW _ (by omega))⟩)
    .
     refine cl J (tg (u:=x) h1) J<|?_;exact rz J (by show dN x=_;rw[<-h3,show y=0 by omega,nV])
   .
    exact at_ () trivial
  .
   exact at_ () trivial
 .
  refine lp (fu:=⟨5⟩) (X:=Nat×Nat) (fun⟨x,y⟩=>[(0, .d (dN x)),(1, .d (dN y))]) (fun⟨x,y⟩=>[]) (fun⟨x,y⟩=>x<2^(ia+ib)/\y<2^(ia+ib)/\Nat.gcd x y=Nat.gcd a b) (fun⟨x,y⟩=>y) ⟨a,b⟩ J ⟨(ha.mono (by omega)).h,(hb.mono (by omega)).h,J⟩ (fun _=>J) (fun⟨x,y⟩ hk=>?_)
  try dsimp only at hk⊢
  obtain⟨h1,h2,h3⟩:=hk;have hly:=fB (dg y);haveI hx':BN x (ia+ib):=⟨h1⟩;haveI hy':BN y (ia+ib):=⟨h2⟩;refine ao 32 (.d (vI ((dg y).length:Nat))) J (by rw[hly];rfl) ?_;refine gx J<|?_;refine br J J J (fun hc33=>?_) (fun hc33=>?_)
  .
   have hy0:0<y:=iY fun q=>by subst q;rw[AP] at hc33;simp at hc33
   refine cl J (Bd (a:=x) (b:=y) (ia:=ia+ib) (ib:=ia+ib) hy0 (by omega) (by omega)) J<|?_;exact at_ ⟨y,x%y⟩ (by dsimp only;exact⟨⟨h2,by have:=dW x hy0;omega,by rw[RM,h3]⟩,(by exact dW _ hy0)⟩)
  .
   have hy0:y=0:=uX.1 (by omega);have hlx:=mi h1;have hmx:=fB (dg x);refine D3 J J<|ap _ J J (vy _) J<|?_;refine mD 44 J ?_;exact rz J (by show DV.sl ([]++_)=_;rw[<-h3,hy0,nV];rfl)
def NA(neg:Bool)(m:Nat):eI (zv neg m)= .ag [.v (.bool (neg&&decide (0<m))),dN m]:=by unfold eI;rw[q7,Sl]
def VC(z:Int):zv (!decide (z<0)) z.natAbs= -z:=by
 unfold zv;by_cases h:z<0<;>simp[h]<;>omega
def aB9(a b:Int):zv (!(decide (a<0)==decide (b<0))) (a.natAbs*b.natAbs)=a*b:=by
 have h:=Qb (decide (a<0)) (decide (b<0)) a.natAbs b.natAbs;rw[my,my] at h;exact h
def lf{neg:Bool}{m:Nat}:PF GB prog 74 [.v (.bool neg),dN m] (eI (zv neg m)):=by
 have hl:=fB (dg m);have hz:= @uX m;refine fn func74 J J ntmps74 J J (fun C=>?_);refine ml 6 J J J (fun hg6=>?_) (fun hg6=>?_)
 .
  exact rz J (by rw[NA,hg6];show DV.ag [.v (.bool _),_]= .ag [.v (.bool _),_];congr 4;rw[Bool.true_and];exact decide_eq_decide.2 (by omega))
 .
  exact rz J (by rw[NA,hg6];rfl)
end Go.Sx
end
section
namespace Go.Sx
open Go
instance:DecidableEq ab:=fun x y=>decidable_of_iff (x.a=y.a/\x.b=y.b/\x.c=y.c) (by
 cases x;cases y;simp)
structure av where
 lo:Rat
 hi:Rat
 nl:Bool
 nh:Bool
def av.all:av:=⟨0,0,true,true⟩
def av.empty(v:av):Bool:=!v.nl&&(!v.nh&&decide (0<=cg v.lo v.hi))
def av.meet(v w:av):av:=
 ⟨if v.nl then w.lo else if w.nl then v.lo else if v.lo<w.lo then w.lo else v.lo,
  if v.nh then w.hi else if w.nh then v.hi else if w.hi<v.hi then w.hi else v.hi,v.nl&&w.nl,v.nh&&w.nh⟩
def av.sample(v:av):Rat:=if v.nl&&v.nh then 0 else if v.nl then v.hi-1 else if v.nh then v.lo+1 else(v.lo+v.hi)*mkRat 1 2
def ab.cutK(l m:ab):Rat:=m.nor.dot l.dir
def ab.cutC(l m:ab):Rat:=m.value l.base
def ab.cutV(l:ab)(v:av)(m:ab):av:=
 if Int.sign (l.cutK m).num=0 then v
 else if Int.sign (l.cutK m).num=1 then v.meet ⟨-(l.cutC m/l.cutK m),0,false,true⟩
 else v.meet ⟨0, -(l.cutC m/l.cutK m),true,false⟩
def ab.cutB(l:ab)(v:av)(m:ab):Bool:=
 if Int.sign (l.cutK m).num=0 then decide (0<Int.sign (l.cutC m).num) else !(l.cutV v m).empty
structure aE where
 l:ab
 v:av
abbrev aG:=List aE
def od(l:ab):aG->av->Option av
 |[],v=>some v
 |s::t,v=>if l.cutB v s.l then od l t (l.cutV v s.l) else none
def mh(c:aG)(l:ab):Option av:=od l c av.all
def o7(l:ab)(s:aE):Int:=Int.sign (l.value (s.l.at s.v.sample)).num
def oD(l:ab):aG->Int
 |[]=> -1
 |s::t=>if o7 l s≠0 then o7 l s else if s.l=l then 1 else oD l t
def x9(c:aG)(l:ab):Int:=if(mh c l).isSome then 0 else oD l c
def aa.half(p:aa):Int:=
 if 0<Int.sign p.y.num\/(Int.sign p.y.num=0/\0<Int.sign p.x.num) then 1 else if Int.sign p.y.num<0\/Int.sign p.x.num<0 then 2 else 0
def cO(u v:aa):Int:=if u.half<v.half then-1 else if v.half<u.half then 1 else-(Int.sign (u.cross v).num)
def f7(l:ab):aG->aG
 |[]=>[]
 |s::t=>if s.l.cutB s.v l then⟨s.l,s.l.cutV s.v l⟩::f7 l t else f7 l t
def jb(p:Nat->Bool)(i j:Nat):Nat:=
 if h:i<j then(if p ((i+j)/2) then jb p ((i+j)/2+1) j else jb p i ((i+j)/2)) else i
termination_by j-i
def ol(c:aG)(l:ab)(i:Nat):Bool:=match c[i]? with
 |some s=>decide (cO s.l.dir l.dir<0)
 |none=>false
def pg(c:aG)(l:ab)(v:av):aG:=
 c.take (jb (ol c l) 0 c.length)++⟨l,v⟩::c.drop (jb (ol c l) 0 c.length)
def bP(c:aG)(l:ab):aG:=match mh c l with
 |some v=>pg (f7 l c) l v
 |none=>c
def de(c:aG)(l:ab):Bool:=match mh c l with
 |some _=>true
 |none=>decide (0<x9 c l)
def E1(p:Nat->Bool): ∀(d i j:Nat),j-i<=d->i<=j->i<=jb p i j/\jb p i j<=j
 |0,i,j,h,hij=>by
  rw[jb,dif_neg (by omega)];omega
 |d+1,i,j,h,hij=>by
  rw[jb];split
  ·split
   ·have:=E1 p d ((i+j)/2+1) j (by omega) (by omega);omega
   ·have:=E1 p d i ((i+j)/2) (by omega) (by omega);omega
  ·omega
def Qx(l:ab): ∀c:aG,(f7 l c).length<=c.length
 |[]=>bQ _
 |s::t=>by
  have:=Qx l t;unfold f7;split<;>simp<;>omega
def Yk(c:aG)(l:ab)(v:av):(pg c l v).length=c.length+1:=by
 have:=(E1 (ol c l) c.length 0 c.length (by omega) (by omega)).2;simp[pg];omega
def DA(c:aG)(l:ab):(bP c l).length<=c.length+1:=by
 unfold bP;split
 ·rw[Yk];have:=Qx l c;omega
 ·omega
inductive Tr where
 |leaf (b:Bool)
 |node (l:ab) (x y:Tr)
def Tr.isLeaf:Tr->Bool
 | .leaf _=>true
 | .node .. =>false
def Tr.code:Tr->Bool
 | .leaf b=>b
 | .node .. =>false
def Tr.depth:Tr->Nat
 | .leaf _=>0
 | .node _ x y=>1+max x.depth y.depth
def Tr.size:Tr->Nat
 | .leaf _=>0
 | .node _ x y=>1+x.size+y.size
def Tr.joinQ(l:ab)(x y:Tr):Tr:=if x.isLeaf&&(y.isLeaf&&(x.code==y.code)) then x else .node l x y
def Tr.restrict:Tr->aG->Tr
 | .leaf b,_=> .leaf b
 | .node l x y,c=>if !de c l.rev then x.restrict c else if !de c l then y.restrict c else joinQ l (x.restrict (bP c l)) (y.restrict (bP c l.rev))
def Tr.parts:Tr->aG->List (Bool×aG)
 | .leaf b,c=>[(b,c)]
 | .node l x y,c=>(if de c l then x.parts (bP c l) else [])++(if de c l.rev then y.parts (bP c l.rev) else [])
def Tr.all(p:ab->Prop):Tr->Prop
 | .leaf _=>True
 | .node l x y=>p l/\x.all p/\y.all p
def Tr.good:Tr->Prop
 | .leaf _=>True
 | .node _ x y=> ¬(x.isLeaf=true/\y.isLeaf=true/\x.code=y.code)/\x.good/\y.good
structure NQ where
 l:ab
 a:Int
 b:Int
def sB(b:Bool):Int:=if b then-2 else-1
def Tr.num:Tr->Nat->Int
 | .leaf b,_=>sB b
 | .node ..,n=>n
def Tr.wr:Tr->Nat->List NQ
 | .leaf _,_=>[]
 | .node l x y,n=>⟨l,x.num (n+1),y.num (n+1+x.size)⟩::x.wr (n+1)++y.wr (n+1+x.size)
def Tr.wr_len: ∀(t:Tr) (n:Nat),(t.wr n).length=t.size
 | .leaf _,n=>rfl
 | .node l x y,n=>by
  have h1:=Tr.wr_len x (n+1);have h2:=Tr.wr_len y (n+1+x.size);simp[Tr.wr,Tr.size,h1,h2];omega
def Tr.joinQ_cases(l:ab)(x y:Tr):(Tr.joinQ l x y=x/\x.isLeaf=true)\/(Tr.joinQ l x y= .node l x y/\ ¬(x.isLeaf=true/\y.isLeaf=true/\x.code=y.code)):=by
 unfold Tr.joinQ;split
 ·rename_i h
  simp at h;exact .inl ⟨J,h.1⟩
 ·rename_i h
  simp at h;exact .inr ⟨J,fun⟨a,b,c⟩=>h a b c⟩
def Tr.restrict_depth: ∀(t:Tr) (c:aG),(t.restrict c).depth<=t.depth
 | .leaf b,c=>bQ _
 | .node l x y,c=>by
  unfold Tr.restrict;split
  ·have:=x.restrict_depth c;simp only[Tr.depth];omega
  ·split
   ·have:=y.restrict_depth c;simp only[Tr.depth];omega
   ·have h1:=x.restrict_depth (bP c l)
    have h2:=y.restrict_depth (bP c l.rev);rcases Tr.joinQ_cases l (x.restrict (bP c l)) (y.restrict (bP c l.rev)) with⟨h,_⟩|⟨h,_⟩
    ·rw[h];simp only[Tr.depth];omega
    ·rw[h];simp only[Tr.depth];omega
def Tr.restrict_all(p:ab->Prop): ∀(t:Tr) (c:aG),t.all p->(t.restrict c).all p
 | .leaf b,c,_=>trivial
 | .node l x y,c,h=>by
  obtain⟨h0,h1,h2⟩:=h;unfold Tr.restrict;split
  ·exact x.restrict_all p c h1
  ·split
   ·exact y.restrict_all p c h2
   ·rcases Tr.joinQ_cases l (x.restrict (bP c l)) (y.restrict (bP c l.rev)) with⟨h,_⟩|⟨h,_⟩
    ·rw[h];exact x.restrict_all p _ h1
    ·rw[h];exact⟨h0,x.restrict_all p _ h1,y.restrict_all p _ h2⟩
end Go.Sx
end
