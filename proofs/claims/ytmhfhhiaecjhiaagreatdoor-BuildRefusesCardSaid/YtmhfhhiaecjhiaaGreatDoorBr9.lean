import Derived.Test.YtmhfhhiaecjhiaaGreatDoorBr8
set_option linter.all false
set_option maxHeartbeats 4000000
set_option maxRecDepth 100000
section
namespace Go.Sx
open Go Go.Proofs Tryz
variable {GB:Gh}
def oD(n:Nat)(a b k:Nat)(ha:a<2^k)(h:a+b*2^k<2^n):(BitVec.ofInt n (a:Int) ||| BitVec.ofInt n ((b*2^k:Nat):Int)).toNat=a+b*2^k:=by
 rw[BitVec.toNat_or,BitVec.ofInt_natCast,BitVec.ofInt_natCast,BitVec.toNat_ofNat,BitVec.toNat_ofNat,jQ (by omega),jQ (by omega)];rw[<-Nat.shiftLeft_eq,Nat.or_comm,<-Nat.shiftLeft_add_eq_or_of_lt ha,Nat.shiftLeft_eq];omega
def BZ{x y:Nat}(hx:x<4294967296)(hy:y<4294967296):x*y<=18446744065119617025:=by
 have:=kW (by omega:x<=4294967295) (by omega:y<=4294967295);exact this
def zA(x y:Nat):(0:Int)<=(x:Int)*(y:Int):=by rw[<-iJ];omega
def xN{x y:Nat}(hx:x<4294967296)(hy:y<4294967296):(x:Int)*(y:Int)<=18446744073709551615:=by
 have:=BZ hx hy;rw[<-iJ];omega
def ZR{ds:List Nat}(h:ds.length=1):dv ds=ds.getD 0 0:=by
 match ds,h with
 |[d],_=>simp[dv]
def t6{a:Nat}(h:(dg a).length=1:=by omega):(dg a).getD 0 0=a:=by rw[<-ZR h,cH]
def auF{ds:List Nat}{j m:Nat}(h:j<m):(ds.take m).getD j 0=ds.getD j 0:=by
 rw[aK,aK,qU,if_pos h]
def Qs{W:List Nat}{j m d:Nat}(hj:j<m)(hm:m<=W.length):dv ((W.set j d).take m)+4294967296^j*W.getD j 0=dv (W.take m)+4294967296^j*d:=by
 rw[List.take_set,<-auF (ds:=W) hj];exact uU _ _ _ (by rw[bK];omega)
def PU{W:List Nat}{P X Y m i k c y t S:Nat}(hk:i+k<m)(hm:m<=W.length)(h:dv (W.take m)+4294967296^(i+k)*c=P+X*(4294967296^i*S))(ht:t=Y+W.getD (i+k) 0+c)(hY:Y=X*y):
  dv ((W.set (i+k) (t%4294967296)).take m)+4294967296^(i+(k+1))*(t/4294967296)=P+X*(4294967296^i*(S+4294967296^k*y)):=by
 have h1:=Qs (W:=W) (d:=t%4294967296) hk hm;rw[ht,show Y+W.getD (i+k) 0+c=c+Y+W.getD (i+k) 0 by omega] at h1⊢;have h2:=YK h1 h;rw[<-lK,iL,h2,hY,gM];simp only[dK,bR,lW,bT,lK]
def M5{a b:Nat}{W:List Nat}{i c lb:Nat}(hlb:lb=(dg b).length)(hl:i+lb<W.length)(h:dv (W.take (i+lb))+4294967296^(i+lb)*c=dv ((dg a).take i)*b+(dg a).getD i 0*(4294967296^i*dv ((dg b).take lb))):
  dv ((W.set (i+lb) c).take (i+1+lb))=dv ((dg a).take (i+1))*b:=by
 rw[show i+1+lb=i+lb+1 by omega,uD hl,h,ml,jj (ds:=dg b),cH b,dZ];simp only[bR,lW,bT]
def BC(n j:Nat):(List.replicate n 0).getD j 0=0:=by
 rw[aK,List.getElem?_replicate];split<;>rfl
def zt{k:Nat}(h:k<=10000000000):IntKind.i64.wrap ((k:Int).tdiv 32)=((k/32:Nat):Int):=by
 rw[show(k:Int).tdiv 32=((k/32:Nat):Int) from J,Ib];omega
def OD(k:Nat):(k:Int).tmod 32=((k%32:Nat):Int):=rfl
def uA{a b ia ib:Nat}[ha:BN a ia][hb:BN b ib](hi:ia<=1000000000:=by decide)(hj:ib<=1000000000:=by decide):PF GB prog 178 [dN a,dN b] (dN (a*b)):=by
 have hla:=bP (dg a);have hlb:=bP (dg b);have hba:=te ha.h;have hbb:=te hb.h;refine fn (fu:=⟨6⟩) func178 J J ntmps178 J J (fun C=>?_);refine mg (fu:=⟨4⟩) (X:=Unit) (fun _=>[(0, .d (dN a)),(1, .d (dN b))]) (fun _=>[]) (fun _=>True) [0,1] [] rfl ?_ (fun _=>J) (fun _ hm=>?_)
 .
  refine gx J<|cs 15 J J J (fun hg15=>?_) (fun hg15=>?_)
  .
   refine br J J J (fun hc19=>?_) (fun hc19=>?_)
   .
    have hd0:=dE a 0;have hd1:=dE b 0;refine ix _ J (cF (k:=0) J (by omega)) J<|ix (hv:=by simp only[aj];exact⟨by omega,⟨(zA _ _),(xN (dE _ _) (dE _ _))⟩⟩) _ J (cF (k:=0) J (by omega)) J<|cl J (s8 (u:=(dg a).getD 0 0*(dg b).getD 0 0) (by have:=BZ (dE a 0) (dE b 0);omega)) J<|rz J (by rw[t6,t6];rfl)
   .
    exact at_ () trivial
  .
   exact at_ () trivial
 .
  refine ah 31 (.d (vI ((dg a).length:Nat))) J (by rw[hla];rfl)<|gx (fu:=⟨2⟩) J<|ah 33 (.d (vI ((dg b).length:Nat))) J (by rw[hlb];rfl)<|gx J<|mk (fu:=⟨8⟩) ((List.replicate ((dg a).length+(dg b).length) 0).map dU) J J (by rw[<-ma];rfl) J<|ah 37 (.d (vI ((dg a).length:Nat))) J (by rw[hla];rfl)<|gx J<|lp (X:=List Nat×Nat) (fun⟨W,i⟩=>[(0, .d (dN a)),(1, .d (dN b)),(5, .rw 35),(36, .d (dN a)),(37, .d (vI ((dg a).length:Nat))),(38, .d (vI (i:Nat)))]) (fun⟨W,i⟩=>[(35,some (.b 261 1 (W.map dU) true))]) (fun⟨W,i⟩=>W.length=(dg a).length+(dg b).length/\bt W/\i<=(dg a).length/\dv (W.take (i+(dg b).length))=dv ((dg a).take i)*b) (fun⟨W,i⟩=>(dg a).length-i) ⟨List.replicate ((dg a).length+(dg b).length) 0,0⟩ J ⟨by simp, .replicate _,by omega,by rw[pN,vq];simp[dv]⟩ (fun _=>J) (fun⟨W,i⟩ hk=>?_);dsimp only at hk⊢;obtain⟨h1,h2,h3,h4⟩:=hk;refine br J J J (fun hc39=>?_) (fun hc39=>?_)
  .
   refine ix (fu:=⟨15⟩) _ J (d6) J<|ah 44 (.d (vI ((dg b).length:Nat))) J (by rw[hlb];rfl)<|gx J<|lp (X:=List Nat×Nat×Nat) (fun⟨W2,c,k⟩=>[(0, .d (dN a)),(1, .d (dN b)),(5, .rw 35),(6, .d (vI (i:Nat))),(7, .d (dU ((dg a).getD i 0))),(8, .d (.v (.int .u64 (c:Nat)))),(36, .d (dN a)),(37, .d (vI ((dg a).length:Nat))),(38, .d (vI (i:Nat))),(43, .d (dN b)),(44, .d (vI ((dg b).length:Nat))),(45, .d (vI (k:Nat)))]) (fun⟨W2,c,k⟩=>[(35,some (.b 261 1 (W2.map dU) true))]) (fun⟨W2,c,k⟩=>W2.length=(dg a).length+(dg b).length/\bt W2/\c<4294967296/\k<=(dg b).length/\dv (W2.take (i+(dg b).length))+4294967296^(i+k)*c=dv ((dg a).take i)*b+(dg a).getD i 0*(4294967296^i*dv ((dg b).take k))) (fun⟨W2,c,k⟩=>(dg b).length-k) ⟨W,0,0⟩ J ⟨h1,h2,by omega,by omega,by rw[h4];simp[dv]⟩ (fun _=>J) (fun⟨W2,c,k⟩ hk=>?_);dsimp only at hk⊢;obtain⟨g1,g2,g3,g4,g5⟩:=hk;have hlw:=bP W2;have hw:=g2.get (i+k);have hda:=dE a i;have hdb:=dE b k;refine br (fu2:=⟨10⟩) J J J (fun hc46=>?_) (fun hc46=>?_)
   .
    refine ix (fu:=⟨12⟩) (hv:=by simp only[aj];exact⟨⟨by omega,by omega⟩,⟨(zA _ _),(xN (dE _ _) (dE _ _))⟩⟩) _ J (d6) J<|?_;obtain⟨p,hp⟩: ∃p,p=(dg a).getD i 0*(dg b).getD k 0:=⟨_,rfl⟩;have hp1:p<=18446744065119617025:=hp▸BZ hda hdb;refine ah 54 (.d (.v (.int .u64 (p:Nat)))) J (by rw[hp,iJ])<|gx J<|lb (fu:=⟨4⟩) _ J (cF (k:=i+k)) J<|?_;obtain⟨t,ht⟩: ∃t,t=p+W2.getD (i+k) 0+c:=⟨_,rfl⟩;refine ah 64 (.d (.v (.int .u64 (t:Nat)))) J (by congr 3;omega)<|gx (fu:=⟨11⟩) J<|ah 70 (.d (dU (t%4294967296))) J (by show FX.d (.v (.int _ _))= .d (.v (.int _ _));congr 3)<|gx J<|sb (fu:=⟨5⟩) (hv:=by simp only[aj];exact(by decide)) _ ((W2.set (i+k) (t%4294967296)).map dU) J (cF (k:=i+k)) J (by(rw[show((i:Int)+k).toNat=i+k by omega,<-iC])<;>rfl) J<|ah 73 (.d (.v (.int .u64 (t/4294967296:Nat)))) J (by rw[nF])<|gx J<|at_ ⟨W2.set (i+k) (t%4294967296),t/4294967296,k+1⟩ (by dsimp only;exact⟨⟨by simpa using g1,g2.set _ (by omega),by omega,by omega,by rw[ml];exact PU (by omega) (by omega) g5 ht hp⟩,(by omega)⟩)
   .
    obtain rfl:k=(dg b).length:=by omega
    refine ah 78 (.d (vI ((dg b).length:Nat))) J (by rw[hlb];rfl)<|gx (fu:=⟨3⟩) J<|ah 81 (.d (dU c)) J (by show FX.d (.v (.int _ _))= .d (.v (.int _ _));congr 3;omega)<|gx J<|sb _ ((W2.set (i+(dg b).length) c).map dU) J (cF (k:=i+(dg b).length)) J (by(rw[show((i:Int)+((dg b).length:Nat)).toNat=i+(dg b).length by omega,<-iC])<;>rfl) J<|at_ ⟨W2.set (i+(dg b).length) c,i+1⟩ (by dsimp only;exact⟨⟨by simpa using g1,g2.set _ g3,by omega,M5 J (by omega) g5⟩,(by omega)⟩)
  .
   obtain rfl:i=(dg a).length:=by omega
   refine fz 35 J J<|cl J (qi (ds:=W)) J<|rz J (jG h2 (by have:=h4;rw[jj,jj,cH] at this;exact this))
def Gi(x s:Nat):x*2^s=x*2^s%4294967296+4294967296*(x*2^s/4294967296):=by omega
def Kj{x s:Nat}(hx:x<4294967296)(hs:s<32):x*2^s/4294967296<2^s:=by
 rw[jJ (by decide),bT (2^s)];exact mW hx (bQ _) (gN (by decide))
def FB{s:Nat}(hs:s<32):2^s*2^(32-s)=4294967296:=by rw[<-gM,show s+(32-s)=32 by omega]
def VP(x s:Nat)(hs:s<32):x*2^s%4294967296=x%2^(32-s)*2^s:=by
 rw[<-FB hs,bT (2^s),Nat.mul_mod_mul_right]
def KV{x s:Nat}(hx:x<4294967296)(hs:s<32):x*2^s<18446744073709551616:=by
 have h1:2^s<=2^31:=bU (by decide) (by omega);have:=mW hx h1 (by decide);omega
def LU{w x s:Nat}(hw:w<2^s)(hs:s<32):(BitVec.ofInt 32 (w:Int) ||| BitVec.ofInt 32 ((x*2^s%4294967296:Nat):Int)).toNat=w+x*2^s%4294967296:=by
 rw[VP x s hs];refine oD 32 _ _ _ hw ?_;have h1:x%2^(32-s)+1<=2^(32-s):=dQ _ (gN (by decide));have h2:=bV (2^s) h1;rw[bT (2^(32-s)),FB hs,dZ,lL] at h2;show _<4294967296;omega
def ZZ{h:Nat}(hh:h<4294967296):(BitVec.ofInt 32 ((0:Nat):Int) ||| BitVec.ofInt 32 (h:Int)).toNat=h:=by
 have:=oD 32 0 h 0 (by decide) (by simpa using hh);simpa using this
def Dr(k:Nat):2^k=4294967296^(k/32)*2^(k%32):=by
 rw[show(4294967296:Nat)=2^32 from J,<-sQ,<-gM,qV]
def getD_set_ne{W:List Nat}{i j d:Nat}(h:i≠j:=by omega):(W.set i d).getD j 0=W.getD j 0:=by
 rw[aK,aK,List.getElem?_set_ne h]
def yN{W:List Nat}{i d:Nat}(h:i<W.length):(W.set i d).getD i 0=d:=by
 rw[aK,List.getElem?_set_self h];rfl
def Qi{A W:List Nat}{k q s i x:Nat}(hq:q=k/32)(hs:s=k%32)(hl:q+i+1<W.length)(hx:x=A.getD i 0)
  (h:dv (W.take (q+i+1))=dv (A.take i)*2^k):
  dv (((W.set (q+i) (W.getD (q+i) 0+x*2^s%4294967296)).set (q+i+1) (x*2^s/4294967296)).take (q+(i+1)+1))=dv (A.take (i+1))*2^k:=by
 have e1:=Qs (W:=W) (j:=q+i) (m:=q+i+1) (d:=W.getD (q+i) 0+x*2^s%4294967296) (by omega) (by omega);rw[show q+(i+1)+1=q+i+1+1 by omega,uD (by rw[aR];omega),ml A,<-hx];have e2:dv ((W.set (q+i) (W.getD (q+i) 0+x*2^s%4294967296)).take (q+i+1))=dv (A.take i)*2^k+4294967296^(q+i)*(x*2^s%4294967296):=by
  rw[dK,h] at e1;omega
 rw[e2,iL,bR,lK,<-dK,<-Gi,dZ,Dr k,<-hq,<-hs,gM];simp only[bR,lW,bT]
def Bl{a k ia:Nat}[ha:BN a ia](hk:k<=10000000000)(hi:ia<=1000000000:=by decide):PF GB prog 238 [dN a,vI (k:Nat)] (dN (a*2^k)):=by
 have hla:=bP (dg a);have hba:=te ha.h;refine fn (fu:=⟨9⟩) func238 J J ntmps238 J J (fun C=>?_);refine ah 11 (.d (vI (k/32:Nat))) J (by show FX.d (.v (.int _ _))= .d (.v (.int _ _));rw[zt hk])<|gx (fu:=⟨2⟩) J<|ah 13 (.d (vI ((dg a).length:Nat))) J (by rw[hla];rfl)<|gx (fu:=⟨2⟩) J<|ah 15 (.d (vI (k/32+(dg a).length+1:Nat))) J (by show FX.d (.v (.int _ _))= .d (.v (.int _ _));congr 3)<|gx J<|mk (fu:=⟨7⟩) (hv:=by simp only[aj];exact(by decide)) ((List.replicate (k/32+(dg a).length+1) 0).map dU) J J (by rw[<-ma];rfl) J<|ah 18 (.d (vI (k%32:Nat))) J (by show FX.d (.v (.int _ _))= .d (.v (.int _ _));rw[OD])<|gx (fu:=⟨9⟩) J<|ah 21 (.d (vI ((dg a).length:Nat))) J (by rw[hla];rfl)<|gx J<|lp (X:=List Nat×Nat) (fun⟨W,i⟩=>[(0, .d (dN a)),(1, .d (vI (k:Nat))),(5, .rw 16),(6, .d (.v (.int .u64 (k%32:Nat)))),(20, .d (dN a)),(21, .d (vI ((dg a).length:Nat))),(22, .d (vI (i:Nat)))]) (fun⟨W,i⟩=>[(16,some (.b 261 1 (W.map dU) true))]) (fun⟨W,i⟩=>W.length=k/32+(dg a).length+1/\bt W/\i<=(dg a).length/\dv (W.take (k/32+i+1))=dv ((dg a).take i)*2^k/\W.getD (k/32+i) 0<2^(k%32)/\ ∀j,k/32+i<j->W.getD j 0=0) (fun⟨W,i⟩=>(dg a).length-i) ⟨List.replicate (k/32+(dg a).length+1) 0,0⟩ J ⟨by simp, .replicate _,by omega,by rw[pN,vq];simp[dv],by rw[BC];exact gN (by decide),fun j _=>BC _ _⟩ (fun _=>J) (fun⟨W,i⟩ hk=>?_);dsimp only at hk⊢;obtain⟨h1,h2,h3,h4,h5,h6⟩:=hk;have hlw:=bP W;have hda:=dE a i;have hsk:k%32<32:=dQ _ (by decide);have hpp:2^(k%32)<=2^31:=bU (by decide) (by omega);refine br J J J (fun hc23=>?_) (fun hc23=>?_)
 .
  refine ix (fu:=⟨11⟩) (hv:=by simp only[aj];exact⟨by omega,(by omega)⟩) _ J (d6) J<|?_;have hhi:=Kj hda hsk;have hfit0:=KV hda hsk;have hor:=LU (x:=(dg a).getD i 0) h5 hsk;have hfit:W.getD (k/32+i) 0+(dg a).getD i 0*2^(k%32)%4294967296<4294967296:=by rw[<-hor];exact BitVec.isLt _
  have hlp:=Gi ((dg a).getD i 0) (k%32);refine ah 30 (.d (.v (.int .u64 ((dg a).getD i 0*2^(k%32):Nat)))) J (by show FX.d (.v (.int _ _))= .d (.v (.int _ _));rw[o4 _ (k%32) (by omega) hfit0]) ?_;obtain⟨t,ht⟩: ∃t,t=(dg a).getD i 0*2^(k%32):=⟨_,rfl⟩;simp only[<-ht] at hhi hfit0 hor hfit hlp;rw[<-ht];refine gx (fu:=⟨8⟩) J<|ah 33 (.d (vI (k/32:Nat))) J (by show FX.d (.v (.int _ _))= .d (.v (.int _ _));rw[zt hk])<|gx J<|lb (fu:=⟨2⟩) _ J (cF (k:=k/32+i)) J<|ah 39 (.d (dU (t%4294967296))) J (by show FX.d (.v (.int _ _))= .d (.v (.int _ _));congr 3)<|gx (fu:=⟨1⟩) J<|ah 40 _ J (congrArg (fun z:Nat=>FX.d (.v (.int .u32 (z:Int)))) hor)<|gx J<|sb (fu:=⟨6⟩) _ ((W.set (k/32+i) (W.getD (k/32+i) 0+t%4294967296)).map dU) J (cF (k:=k/32+i)) J (by(rw[show(((k/32:Nat):Int)+i).toNat=k/32+i by omega];simp only[oX];rfl)<;>rfl) J<|ah 44 (.d (vI (k/32:Nat))) J (by show FX.d (.v (.int _ _))= .d (.v (.int _ _));rw[zt hk])<|gx J<|lb (fu:=⟨0⟩) _ J (cF (k:=k/32+i+1) (by omega) (by rw[aR];omega)) J<|ah 49 (.d (dU 0)) J (by rw[getD_set_ne,h6 _ (by omega)])<|gx (fu:=⟨2⟩) (hv:=by simp only[aj];exact(by decide)) J<|ah 51 (.d (.v (.int .u64 (t/4294967296:Nat)))) J (by rw[nF])<|gx (fu:=⟨1⟩) J<|ah 52 (.d (dU (t/4294967296))) J (by show FX.d (.v (.int _ _))= .d (.v (.int _ _));congr 3;omega)<|gx (fu:=⟨1⟩) J<|ah 53 _ J (congrArg (fun z:Nat=>FX.d (.v (.int .u32 (z:Int)))) (ZZ (by omega)))<|gx J<|sb _ (((W.set (k/32+i) (W.getD (k/32+i) 0+t%4294967296)).set (k/32+i+1) (t/4294967296)).map dU) J (cF (k:=k/32+i+1) (by omega) (by rw[aR];omega)) J (by(rw[show(((k/32:Nat):Int)+i+1).toNat=k/32+i+1 by omega];simp only[oX];rfl)<;>rfl) J<|at_ ⟨(W.set (k/32+i) (W.getD (k/32+i) 0+t%4294967296)).set (k/32+i+1) (t/4294967296),i+1⟩ (by dsimp only;exact⟨⟨by simpa using h1,(h2.set _ hfit).set _ (by omega),by omega,by have q:=Qi (x:=(dg a).getD i 0) J J (by omega) J h4;rw[<-ht] at q;exact q,by rw[show k/32+(i+1)=k/32+i+1 by omega,yN (by simp;omega)];exact hhi,fun j hj=>by rw[getD_set_ne,getD_set_ne];exact h6 j (by omega)⟩,(by omega)⟩)
 .
  obtain rfl:i=(dg a).length:=by omega
  refine fz 16 J J<|cl J (qi (ds:=W)) J<|rz J (jG h2 (by have:=h4;rw[jj,jj,cH] at this;exact this))
def WM{a k:Nat}(h:(dg a).length<=k/32):a/2^k=0:=by
 refine lX ?_;have h1:=ka (fk a);rw[cH] at h1;have h2:4294967296^(dg a).length<=4294967296^(k/32):=bU (by decide) h;have h3:4294967296^(k/32)*1<=4294967296^(k/32)*2^(k%32):=fR _ (gN (by decide));rw[Dr k];omega
def E9{ds:List Nat}(h:bt ds)(q:Nat):dv (ds.drop q)=dv ds/4294967296^q:=by
 rcases fW ds.length q with hq|hq
 .rw[kJ (by omega)]
  have h1:=ka h;have h2:4294967296^ds.length<=4294967296^q:=bU (by decide) (by omega);rw[lX (by omega)];rfl
 .have e:=zc ds q hq
  have h1:=ka (h.take q);rw[bK,iM hq] at h1;rw[e,pX _ _ (gN (by decide)),lX h1,dL]
def Cs{ds:List Nat}(h:bt ds)(i:Nat):dv ds/4294967296^i=ds.getD i 0+4294967296*ds.getD (i+1) 0+18446744073709551616*(dv ds/4294967296^(i+2)):=by
 have e0:=E9 h i;have e2:=E9 h (i+2);rw[<-e0,<-e2];have g0:ds.getD i 0=(ds.drop i).getD 0 0:=by rw[aK,aK,lQ];rfl
 have g1:ds.getD (i+1) 0=(ds.drop i).getD 1 0:=by rw[aK,aK,lQ]
 have g2:ds.drop (i+2)=(ds.drop i).drop 2:=by rw[tX]
 rw[g0,g1,g2]
 match ds.drop i with
 |[]=>rfl
 |[u]=>simp[dv]
 |u::v::t=>simp only[dv,sS,kU,sT,gT];omega
def O'{D s i u v w Z:Nat}(hs:s<32)(hZ:D/4294967296^i=u+4294967296*v+18446744073709551616*Z)(hw:w=(u+v*4294967296)/2^s%4294967296):(D/2^s)%4294967296^(i+1)=(D/2^s)%4294967296^i+4294967296^i*w:=by
 rw[iL,Nat.mod_mul];congr 2;rw[rX,bT (2^s),<-rX,hZ,hw];have h1:18446744073709551616=2^s*(2^(32-s)*4294967296):=by rw[<-bR,FB hs]
 rw[h1,bR (2^s),pX _ _ (gN (by decide)),bT v];rw[bT (2^(32-s)),bR,pR]
def Xn{a k:Nat}{W:List Nat}{q s:Nat}(hq:q=k/32)(hs:s=k%32)(hl:W.length=(dg a).length-q)(h:dv (W.take ((dg a).length-q))=(dv ((dg a).drop q)/2^s)%4294967296^((dg a).length-q)):dv W=a/2^k:=by
 rw[jj] at h;have h1:=ka ((fk a).drop q);rw[fN] at h1;have h2:=lU (dv ((dg a).drop q)) (2^s);rw[h,jQ (by omega),E9 (fk a),cH,Dr k,<-hq,<-hs,rX]
def U9{a k ia:Nat}[ha:BN a ia](hk:k<=10000000000)(hi:ia<=1000000000:=by decide):PF GB prog 239 [dN a,vI (k:Nat)] (dN (a/2^k)):=by
 have hla:=bP (dg a);have hba:=te ha.h;refine fn (fu:=⟨10⟩) func239 J J ntmps239 J J (fun C=>?_);refine ah 12 (.d (vI (k/32:Nat))) J (by show FX.d (.v (.int _ _))= .d (.v (.int _ _));rw[zt hk])<|gx (fu:=⟨2⟩) J<|ah 14 (.d (vI ((dg a).length:Nat))) J (by rw[hla];rfl)<|gx J<|br (fu2:=⟨6⟩) (v2:=fun _=>by simp only[aj];exact(by decide)) J J J (fun hc15=>?_) (fun hc15=>?_)
 .
  exact rz J (by rw[WM (by omega),uc];rfl)
 .
  refine ah 17 (.d (vI (k%32:Nat))) J (by show FX.d (.v (.int _ _))= .d (.v (.int _ _));rw[OD])<|gx (fu:=⟨9⟩) J<|ah 21 (.d (vI (k/32:Nat))) J (by show FX.d (.v (.int _ _))= .d (.v (.int _ _));rw[zt hk])<|gx J<|py (fu:=⟨0⟩) (k/32) (dg a).length _ J J (by rw[hla]) J (qp _) (by omega) (by omega) J<|?_;obtain⟨I,hI⟩: ∃I,I=(dg a).drop (k/32):=⟨_,rfl⟩;have hIl:I.length=(dg a).length-k/32:=by rw[hI,fN]
  have hIm:=bP I;have hIo:bt I:=hI▸(fk a).drop _;refine ah 22 (.d (bE I)) J (by show FX.d (.sl _)= .d (.sl _);rw[hI,<-hla,cJ,nZ])<|gx (fu:=⟨7⟩) J<|ah 24 (.d (vI (I.length:Nat))) J (by rw[hIm];rfl)<|gx J<|mk (fu:=⟨8⟩) ((List.replicate I.length 0).map dU) J J (by rw[<-ma];rfl) J<|ah 27 (.d (vI (I.length:Nat))) J (by rw[hIm];rfl)<|gx J<|lp (X:=List Nat×Nat) (fun⟨W,i⟩=>[(0, .d (dN a)),(5, .d (.v (.int .u64 (k%32:Nat)))),(6, .d (bE I)),(7, .rw 25),(26, .d (bE I)),(27, .d (vI (I.length:Nat))),(28, .d (vI (i:Nat)))]) (fun⟨W,i⟩=>[(25,some (.b 261 1 (W.map dU) true))]) (fun⟨W,i⟩=>W.length=I.length/\bt W/\i<=I.length/\dv (W.take i)=(dv I/2^(k%32))%4294967296^i) (fun⟨W,i⟩=>I.length-i) ⟨List.replicate I.length 0,0⟩ J ⟨by simp, .replicate _,by omega,by simp[dv,Nat.mod_one]⟩ (fun _=>J) (fun⟨W,i⟩ hk=>?_);dsimp only at hk⊢;obtain⟨h1,h2,h3,h4⟩:=hk;have hlw:=bP W;have hda:=hIo.get i;have hdb:=hIo.get (i+1);have hsk:k%32<32:=dQ _ (by decide);refine br J J J (fun hc29=>?_) (fun hc29=>?_)
  .
   refine ix (fu:=⟨13⟩) _ J (d6) J<|mg (fu:=⟨6⟩) (hv:=fun _ _=>by simp only[aj];exact(by omega)) (X:=Unit) (fun _=>[(0, .d (dN a)),(5, .d (.v (.int .u64 (k%32:Nat)))),(6, .d (bE I)),(7, .rw 25),(26, .d (bE I)),(27, .d (vI (I.length:Nat))),(28, .d (vI (i:Nat))),(8, .d (vI (i:Nat))),(10, .d (.v (.int .u64 (I.getD i 0+I.getD (i+1) 0*4294967296:Nat))))]) (fun _=>[(25,some (.b 261 1 (W.map dU) true))]) (fun _=>True) [0,5,6,7,26,27,28,8,10] [25] rfl ?_ (fun _=>J) (fun _ hm=>?_)
   .
    refine gx (fu:=⟨6⟩) J<|ah 38 (.d (vI (I.length:Nat))) J (by rw[hIm];rfl)<|gx J<|br J J J (fun hc39=>?_) (fun hc39=>?_)
    .
     refine ix (fu:=⟨3⟩) (hv:=by simp only[aj];exact⟨by omega,(by decide)⟩) _ J (cF (k:=i+1)) J<|ah 47 (.d (.v (.int .u64 (I.getD (i+1) 0*4294967296:Nat)))) J (by show FX.d (.v (.int _ _))= .d (.v (.int _ _));rw[o4 _ 32 (by decide) (by show _*4294967296<_;omega) J])<|gx (fu:=⟨1⟩) J<|ah 48 _ J (congrArg (fun z:Nat=>FX.d (.v (.int .u64 (z:Int)))) (oD 64 (I.getD i 0) (I.getD (i+1) 0) 32 hda (by show _+_*4294967296<18446744073709551616;omega)))<|gx J<|at_ () trivial
    .
     refine ah 10 (.d (.v (.int .u64 (I.getD i 0+I.getD (i+1) 0*4294967296:Nat)))) J (by rw[o8 (by omega:I.length<=i+1),jK,gV])<|at_ () trivial
   .
    refine ah 53 (.d (.v (.int .u64 ((I.getD i 0+I.getD (i+1) 0*4294967296)/2^(k%32):Nat)))) J (by show FX.d (.v (.int _ _))= .d (.v (.int _ _));rw[PJ _ (k%32)])<|gx (fu:=⟨1⟩) J<|?_;obtain⟨w,hw⟩: ∃w,w=(I.getD i 0+I.getD (i+1) 0*4294967296)/2^(k%32)%4294967296:=⟨_,rfl⟩;have hw1:w<4294967296:=hw▸dQ _ (by decide);refine ah 54 (.d (dU w)) J (by show FX.d (.v (.int _ _))= .d (.v (.int _ _));rw[hw];congr 3)<|gx J<|sb _ ((W.set i w).map dU) J (d6) J (by(rw[<-iC];rfl)<;>rfl) J<|at_ ⟨W.set i w,i+1⟩ (by dsimp only;exact⟨⟨by simpa using h1,h2.set _ (by omega),by omega,by rw[uD,h4];exact(O' hsk (Cs hIo i) hw).symm⟩,(by omega)⟩)
  .
   refine fz 25 rfl rfl<|cl rfl (qi (ds:=W)) rfl<|rz rfl (jG h2 (by obtain rfl:i=I.length:=(by omega);rw[hIl] at h1 h4;rw[hI] at h4;exact Xn rfl rfl h1 h4))
def zP{a k:Nat}(h:a<4294967296^k):(dg a).length<=k:=by
 rcases fW k (dg a).length with q|q
 .have h1:=ul (ey a).2.2 (by intro e;rw[e] at q;simp at q)
  rw[cH] at h1;have h2:4294967296^k<=4294967296^((dg a).length-1):=bU (by decide) (by omega);omega
 .exact q
def awt{a:Nat}(h:(dg a).length=2):(dg a).getD 0 0+(dg a).getD 1 0*4294967296=a:=by
 have e:=cH a;revert e
 match dg a,h with
 |[x,y],_=>intro e;simp[dv] at e⊢;omega
def zO(a:Nat):DV:= .tp [.v (.int .u64 ((if a<18446744073709551616 then a else 0:Nat):Int)),vB (decide (a<18446744073709551616))]
def OJ{a:Nat}(h:a<18446744073709551616:=by omega):zO a= .tp [.v (.int .u64 (a:Int)),vB true]:=by unfold zO;rw[if_pos h,decide_eq_true h]
def Z5{a:Nat}(h: ¬a<18446744073709551616):zO a= .tp [.v (.int .u64 0),vB false]:=by unfold zO;rw[if_neg h,decide_eq_false h];rfl
def qn(a:Nat):a<4294967296^(dg a).length:=by have:=ka (fk a);rwa [cH] at this
def Ah{a ia:Nat}[ha:BN a ia](hi:ia<=1000000000:=by decide):PF GB prog 145 [dN a] (zO a):=by
 have hla:=bP (dg a);have hba:=te ha.h;have hlt:=qn a;have hd00:=dE a 0;refine fn (fu:=⟨11⟩) func145 J J ntmps145 J J (fun C=>?_);refine ah 5 (.d (vI ((dg a).length:Nat))) J (by rw[hla];rfl)<|gx J<|br J J J (fun hc6=>?_) (fun hc6=>?_)
 .
  exact rz rfl (by rw[show(dg a).length=0 by omega] at hlt;obtain rfl:a=0:=(by omega);rfl)
 .
  refine br J J J (fun hc8=>?_) (fun hc8=>?_)
  .
   refine ix (fu:=⟨2⟩) _ J (cF (k:=0) J (by omega)) J<|ah 13 (.d (.v (.int .u64 (a:Nat)))) J (by rw[t6])<|gx J<|rz J (by rw[show(dg a).length=1 by omega] at hlt;rw[OJ,<-t6 (a:=a),t6 (a:=a)];rfl)
  .
   refine br J J J (fun hc14=>?_) (fun hc14=>?_)
   .
    have hd0:=dE a 0;have hd1:=dE a 1;refine ix (hv:=by simp only[aj];exact⟨by omega,(by decide)⟩) _ J (cF (k:=1) J (by omega)) J<|ix (fu:=⟨3⟩) _ J (cF (k:=0) J (by omega)) J<|ah 25 (.d (.v (.int .u64 (a:Nat)))) J (congrArg (fun z:Nat=>FX.d (.v (.int .u64 (z:Int)))) (by rw[o4 _ 32 (by decide) (by show _*4294967296<_;omega) J,BitVec.or_comm];exact(oD 64 ((dg a).getD 0 0) ((dg a).getD 1 0) 32 hd0 (by show _+_*4294967296<18446744073709551616;omega)).trans (awt (by omega))))<|gx J<|rz J (by rw[show(dg a).length=2 by omega] at hlt;rw[OJ];rfl)
   .
    exact rz rfl (by rw[Z5];rfl;intro h;have:=zP (a:=a) (k:=2) (by omega);omega)
section
variable {GB:Gh} {C:aC} {n:Nat} {Q0:Exit->Act->World->Prop} {fr fr' fr1 fr2:av} {own own' own1 own2:aF} {cf cf' cf1 cf2:Cf} {vc vc1 vc2:List Prop}
def iv{fb:Func}{e:Exit}{ds:List DV}{rv:DV}(hr:mF tt fr own fb.results.toList=some ds)(hd: ∀G y,Is G (gm ds) y->Is G rv y)(he:uH e=true:=by rfl):ak prog GB C n (eH C prog fb (fP C (fun v G'=>Is G' rv v))) fr own (.ex e []):=by
 refine⟨fun ρ G ov a w r=>?_⟩;obtain⟨vs,h1,h2⟩:=uF r hr;have hk:Is G rv (kH vs):=hd _ _ (uY h2)
 cases e with
 |ret=>exact zD (C:=C) (n:=n) (fr:=cC a) (own:=ov) (G:=G) (K:=fun v G'=>Is G' rv v) h1 hk a w ⟨r.h,r.sz,c6 a,r.df⟩
 |normal=>exact Gs (C:=C) (n:=n) (fr:=cC a) (own:=ov) (G:=G) (K:=fun v G'=>Is G' rv v) h1 hk a w ⟨r.h,r.sz,c6 a,r.df⟩
 |_=>cases he
def LO(fr:av)(cf:Cf):Option (Int×IntKind):=match b8 fr cf with
 |some ⟨_, .convert t t' x,_,_,_,_⟩=>match de tt t,de tt t',aI (bw fr cf) x with
  |some ⟨.int k,_,_,_⟩,some ⟨.int k',_,_,_⟩,some (.d (.v (.int j p)))=>bif kq k j then some (p,k') else none
  |_,_,_=>none
 |_=>none
def cu[fu:Fu]{p:Int}{k':IntKind}(u:Int)(h:LO fr cf=some (p,k'))(e:k'.wrap p=u)(hgo:cv tt n fu.n fr own cf (.d (.v (.int k' u))) [] []=⟨vc,fr',own',cf'⟩)(k:ak prog GB C n Q0 fr' own' cf')
  (hv:autoParam (aj vc) cL._auto_1):ak prog GB C n Q0 fr own cf:=by
 unfold LO at h;split at h<;>try (cases h;done)
 rename_i hh;split at h<;>try (cases h;done)
 rename_i k0 _ _ _ k1 _ _ _ j p0 hT hT' hx
 cases hk:kq k0 j with
 |false=>rw[hk] at h;cases h
 |true=>
  rw[hk,cond_true] at h;cases h;cases AB hk;have:=wB (e8 _ _ hT) J;have:=wB (e8 _ _ hT') J;subst e;refine us hh (.x1 hx fun ρ G ov a w y _ r h1 h2=>?_) hgo hv k;rw[c8] at h2;subst h2;exact⟨_,c8.2 J,A1 h1⟩
def N8(fr:av)(cf:Cf):Option (Int×IntKind):=match b8 fr cf with
 |some ⟨_, .unOp .neg _ x,_,_,_,_⟩=>match aI (bw fr cf) x with
  |some (.d (.v (.int j p)))=>some (p,j)
  |_=>none
 |_=>none
def nu[fu:Fu]{p:Int}{k':IntKind}(u:Int)(h:N8 fr cf=some (p,k'))(e:k'.wrap (0-p)=u)(hgo:cv tt n fu.n fr own cf (.d (.v (.int k' u))) [] []=⟨vc,fr',own',cf'⟩)(k:ak prog GB C n Q0 fr' own' cf')
  (hv:autoParam (aj vc) cL._auto_1):ak prog GB C n Q0 fr own cf:=by
 unfold N8 at h;split at h<;>try (cases h;done)
 rename_i hh;split at h<;>cases h;rename_i hx;subst e;exact us hh (.x1 hx fun ρ G ov a w y _ r h1 h2=>by
  rw[c8] at h2;subst h2;exact⟨_,c8.2 J,E7 h1⟩) hgo hv k
end
def Kz{W:List Nat}(h:0<W.length:=by omega)(hz:W.getD (W.length-1) 0=0:=by omega):trimD W=trimD (W.take (W.length-1)):=by
 have:=Kw (ds:=W) (n:=W.length) ⟨h,bQ _⟩ hz;rwa [cJ] at this
def CG{W:List Nat}(hz:0<W.length->W.getD (W.length-1) 0≠0):trimD W=W:=by
 have:=Ng (ds:=W) (n:=W.length) (bQ _) hz;rwa [cJ] at this
def q8{ds:List Nat}(hl:ds.length<=1125899906842624:=by omega):PF GB prog 233 [bE ds] (bE (trimD ds)):=by
 refine fn func233 J J ntmps233 J J (fun C=>?_);refine lp (fu:=⟨5⟩) (X:=List Nat) (fun W=>[(0, .d (bE W))]) (fun W=>[]) (fun W=>trimD ds=trimD W/\W.length<=ds.length) (fun W=>W.length) ds J ⟨J,bQ _⟩ (fun _=>J) (fun W hk=>?_);obtain⟨h1,h2⟩:=hk;have hml:=bP W;refine ah 4 (.d (vI (W.length:Nat))) J (by rw[hml]<;>rfl)<|gx J<|cs (fu1:=⟨3⟩) 6 J J J (fun hg6=>?_) (fun hg6=>?_)
 .
  refine ah 9 (.d (vI (W.length:Nat))) J (by rw[hml]<;>rfl)<|gx J<|ix _ J (cF (k:=W.length-1)) J<|br (fu1:=⟨7⟩) J J J (fun hc14=>?_) (fun hc14=>?_)
  .
   refine ah 17 (.d (vI (W.length:Nat))) J (by rw[hml]<;>rfl)<|gx (fu:=⟨1⟩) J<|ah 18 (.d (vI (W.length-1:Nat))) J (by show FX.d (.v (.int _ _))= .d (.v (.int _ _));congr 3;omega)<|gx J<|py (fu:=⟨0⟩) 0 (W.length-1) _ J J J J (qp _) (by omega) (by simp) J<|ah 19 (.d (bE (W.take (W.length-1)))) J (by show FX.d (.sl _)=FX.d (.sl _);simp)<|gx J<|at_ (W.take (W.length-1)) ⟨⟨by rw[h1,Kz],by rw[bK];omega⟩,(by rw[bK];omega)⟩
  .
   exact rz J (by rw[h1,CG (fun _=>by omega)];rfl)
 .
  exact rz J (by rw[h1,CG (fun _=>by omega)];rfl)
def Th{G:Gh}{ds:List Nat}{v:Value}(hd:bt ds)(h:Is G (bE ds) v): ∃x:SV,v=x.v/\l5 G x ds:=by
 obtain⟨x,rfl,h1⟩:=DY.1 h;exact⟨x,J,hd,h1⟩
def Lz{ds:List Nat}(hd:bt ds)(hb:ds.length<=1125899906842:=by omega):PF GB prog 241 [bE ds] (bE ds):=fun G vs _ hv=>by
 obtain⟨v,m,rfl,h1,h2⟩:=bm.1 hv
 cases ck.1 h2
 obtain⟨x,rfl,h3⟩:=Th hd h1;exact(arG h3 hb).mono fun v G' _ ⟨z,e,h⟩=>by subst e;exact DY.2 ⟨z,J,h.sl⟩
def Zy{ds:List Nat}(h:ds.length=0):dl ds:=by rw[bL h];unfold dl;simp
def X9{ds:List Nat}(h:0<ds.length):dl ds↔ds.getD (ds.length-1) 0≠0:=by
 unfold dl;rw[kN,aK,aZ (by omega)];simp
def Si(a:Nat):trimD (dg a)=dg a:=RY (ey a).2.2
def nq{a:Nat}(h:(dg a).length<=1125899906842624:=by omega):PF GB prog 233 [dN a] (dN a):=(q8 (ds:=dg a) h).to (by rw[Si];rfl)
def hH{a i:Nat}[h:BN a i](hi:i<=1000000000:=by omega):(dg a).length<=187500001:=by have:=i6 h.h;omega
def tw{a i:Nat}[h:BN a i](hi:i<=1000000000:=by decide):PF GB prog 214 [dN a] (dN a):=by
 have hla:=bP (dg a);have hba:=hH (a:=a) hi;refine fn func214 J J ntmps214 J J (fun C=>?_);refine cl J (nq) J<|cl J (Lz (fk _)) J<|rz J J
def AH{ds:List Nat}(hd:bt ds)(hl:ds.length<=1125899906842624):PF GB prog 194 [bE ds] (vB (decide (dl ds))):=by
 have hla:=bP ds;refine fn (fu:=⟨9⟩) func194 J J ntmps194 J J (fun C=>?_);refine ah 4 (.d (vI (ds.length:Nat))) J (by rw[hla]<;>rfl)<|gx J<|cs (fu2:=⟨3⟩) 6 J J J (fun hg6=>?_) (fun hg6=>?_)
 .
  exact rz J (by rw[decide_eq_true (Zy (by omega))];rfl)
 .
  refine ah 9 (.d (vI (ds.length:Nat))) J (by rw[hla]<;>rfl)<|gx J<|ix _ J (cF (k:=ds.length-1)) J<|rz J (by show DV.v (.bool (decide _))=DV.v (.bool (decide _));congr 2;exact decide_eq_decide.2 (by rw[X9 (by omega)];omega))
def yh{a:Nat}(h:a<18446744073709551616:=by omega):PF GB prog 215 [.v (.int .u64 (a:Nat))] (dN a):=by
 refine fn (fu:=⟨11⟩) (hv:=by simp only[aj];exact(by decide)) func215 J J ntmps215 J J (fun C=>?_);refine ah 6 (.d (.v (.int .u64 (a/4294967296:Nat)))) J (by rw[nF])<|gx J<|rf (fu:=⟨0⟩) J J<|ah 8 (.d (bE [a%4294967296,a/4294967296])) J (by show FX.d (.sl [.v (.int _ _), .v (.int _ _)])= .d (.sl [.v (.int _ _), .v (.int _ _)]);congr 6;omega)<|gx J<|cl J (q8 (ds:=[a%4294967296,a/4294967296]) (by simp)) J<|rz J (jG (M0 h) (ON a))
def Mr{a b i j:Nat}[h:BN a i][k:BN b j](hi:i<=1000000000:=by decide)(hj:j<=1000000000:=by decide):PF GB prog 240 [dN a,dN b] (vI (gD a b)):=by
 have hla:=bP (dg a);have hba:=hH (a:=a) hi;have hlb:=bP (dg b);have hbb:=hH (a:=b) hj;refine fn func240 J J ntmps240 J J (fun C=>?_);refine cl J (nq) J<|cl (fu:=⟨9⟩) J (nq) J<|ah 11 (.d (vI ((dg a).length:Nat))) J (by rw[hla]<;>rfl)<|gx (fu:=⟨2⟩) J<|ah 13 (.d (vI ((dg b).length:Nat))) J (by rw[hlb]<;>rfl)<|gx J<|br (fu1:=⟨5⟩) (fu2:=⟨7⟩) J J J (fun hc14=>?_) (fun hc14=>?_)
 .
  refine ah 16 (.d (vI ((dg a).length:Nat))) J (by rw[hla]<;>rfl)<|gx (fu:=⟨2⟩) J<|ah 18 (.d (vI ((dg b).length:Nat))) J (by rw[hlb]<;>rfl)<|gx J<|br J J J (fun hc19=>?_) (fun hc19=>?_)
  .
   exact rz J (by show DV.v (.int _ (-1))=_;rw[<-HA,yX (by omega)];rfl)
  .
   exact rz J (by show DV.v (.int _ 1)=_;rw[<-HA,xt (by omega)];rfl)
 .
  have hl:(dg a).length=(dg b).length:=by omega
  refine ah 21 (.d (vI ((dg a).length:Nat))) J (by rw[hla]<;>rfl)<|gx J<|lp (X:=Nat) (fun k=>[(5, .d (vI ((k:Nat)-1)))]) (fun k=>[]) (fun k=>k<=(dg a).length/\(dg a).drop k=(dg b).drop k) (fun k=>k) (dg a).length J ⟨bQ _,by rw[lZ,hl,lZ]⟩ (fun _=>J) (fun k hk=>?_);obtain⟨h1,h2⟩:=hk;refine br J J J (fun hc24=>?_) (fun hc24=>?_)
  .
   obtain⟨k,rfl⟩: ∃m,k=m+1:=⟨k-1,by omega⟩;refine ix _ J (cF (k:=k)) J<|ix _ J (cF (k:=k)) J<|br J J J (fun hc27=>?_) (fun hc27=>?_)
   .
    exact rz J (by show DV.v (.int _ (-1))=_;rw[yX ((vW hl (by omega) h2).1 (by omega))];rfl)
   .
    refine ix _ J (cF (k:=k)) J<|ix _ J (cF (k:=k)) J<|br J J J (fun hc37=>?_) (fun hc37=>?_)
    .
     exact rz J (by show DV.v (.int _ 1)=_;rw[xt ((vW hl (by omega) h2).2.1 (by omega))];rfl)
    .
     exact at_ k ⟨⟨by omega,(vW (i:=k) hl (by omega) h2).2.2 (by omega)⟩,(by omega)⟩
  .
   exact rz rfl (by show DV.v (.int _ 0)=_;rw[Ho];rfl;obtain rfl:k=0:=(by omega);rw[gT,gT] at h2;rw[<-cH a,h2,cH])
def Zg{a b i j:Nat}[h:BN a i][k:BN b j](hi:i<=1000000000:=by decide)(hj:j<=1000000000:=by decide):PF GB prog 263 [dN a,dN b] (dN (a+b)):=by
 have hla:=bP (dg a);have hba:=hH (a:=a) hi;have hlb:=bP (dg b);have hbb:=hH (a:=b) hj;refine fn (fu:=⟨6⟩) func263 J J ntmps263 J J (fun C=>?_);refine mg (fu:=⟨4⟩) (X:=Nat×Nat) (fun⟨A,B⟩=>[(0, .d (dN A)),(1, .d (dN B))]) (fun⟨A,B⟩=>[]) (fun⟨A,B⟩=>(dg B).length<=(dg A).length/\A+B=a+b/\(dg A).length<=187500001) [0,1] [] rfl ?_ (fun _=>J) (fun⟨A,B⟩ ⟨hm1,hm2,hm3⟩=>?_)
 .
  refine gx (fu:=⟨4⟩) J<|ah 10 (.d (vI ((dg a).length:Nat))) J (by rw[hla]<;>rfl)<|gx (fu:=⟨2⟩) J<|ah 12 (.d (vI ((dg b).length:Nat))) J (by rw[hlb]<;>rfl)<|gx J<|br J J J (fun hc13=>?_) (fun hc13=>?_)
  .
   exact at_ ⟨b,a⟩ ⟨by omega,kK b a,hbb⟩
  .
   exact at_ ⟨a,b⟩ ⟨by omega,J,hba⟩
 .
  have hlA:=bP (dg A);have hlB:=bP (dg B);refine ah 17 (.d (vI ((dg A).length:Nat))) J (by rw[hlA]<;>rfl)<|gx (fu:=⟨1⟩) J<|ah 18 (.d (vI ((dg A).length+1:Nat))) J (by show FX.d (.v (.int _ _))= .d (.v (.int _ _));congr 3)<|gx J<|mk (fu:=⟨13⟩) ((List.replicate ((dg A).length+1) 0).map dU) J J (by rw[<-ma];rfl) J<|ah 21 (.d (vI ((dg A).length:Nat))) J (by rw[hlA]<;>rfl)<|gx J<|lp (X:=List Nat×Nat×Nat) (fun⟨W,c,i⟩=>[(0, .d (dN A)),(1, .d (dN B)),(5, .rw 19),(6, .d (.v (.int .u64 (c:Nat)))),(20, .d (dN A)),(21, .d (vI ((dg A).length:Nat))),(22, .d (vI (i:Nat)))]) (fun⟨W,c,i⟩=>[(19,some (.b 261 1 (W.map dU) true))]) (fun⟨W,c,i⟩=>W.length=(dg A).length+1/\bt W/\c<=1/\i<=(dg A).length/\dv (W.take i)+4294967296^i*c=dv ((dg A).take i)+dv ((dg B).take i)) (fun⟨W,c,i⟩=>(dg A).length-i) ⟨List.replicate ((dg A).length+1) 0,0,0⟩ J ⟨by simp, .replicate _,by omega,by omega,by simp[dv]⟩ (fun _=>J) (fun⟨W,c,i⟩ hk=>?_)
  try dsimp only at hk⊢
  obtain⟨h1,h2,h3,h4,h5⟩:=hk;have hlw:=bP W;have hda:=dE A i;have hdb:=dE B i;obtain⟨t,ht⟩: ∃t,t=(dg A).getD i 0+(dg B).getD i 0+c:=⟨_,rfl⟩;refine br (fu2:=⟨10⟩) J J J (fun hc23=>?_) (fun hc23=>?_)
  .
   refine ix (fu:=⟨15⟩) _ J (d6) J<|mg (fu:=⟨6⟩) (X:=Unit) (fun _=>[(0, .d (dN A)),(1, .d (dN B)),(5, .rw 19),(6, .d (.v (.int .u64 (t:Nat)))),(20, .d (dN A)),(21, .d (vI ((dg A).length:Nat))),(22, .d (vI (i:Nat))),(7, .d (vI (i:Nat))),(8, .d (dU ((dg A).getD i 0)))]) (fun _=>[(19,some (.b 261 1 (W.map dU) true))]) (fun _=>True) [0,1,5,6,20,21,22,7,8] [19] rfl ?_ (fun _=>J) (fun _ _=>?_)
   .
    refine gx (fu:=⟨5⟩) J<|ah 33 (.d (vI ((dg B).length:Nat))) J (by rw[hlB]<;>rfl)<|gx J<|br J J J (fun hc34=>?_) (fun hc34=>?_)
    .
     refine ix _ J (d6) J<|ah 6 (.d (.v (.int .u64 (t:Nat)))) J (by show FX.d (.v (.int _ _))= .d (.v (.int _ _));congr 3;omega)<|at_ () trivial
    .
     have hz:=o8 (ds:=dg B) (i:=i);refine ah 6 (.d (.v (.int .u64 (t:Nat)))) J (by show FX.d (.v (.int _ _))= .d (.v (.int _ _));congr 3;omega)<|at_ () trivial
   .
    refine ah 45 (.d (dU (t%4294967296))) J (by show FX.d (.v (.int _ _))= .d (.v (.int _ _));congr 3)<|gx J<|sb (fu:=⟨5⟩) (hv:=by simp only[aj];exact(by decide)) _ ((W.set i (t%4294967296)).map dU) J (d6) J (by rw[<-iC];rfl) J<|ah 48 (.d (.v (.int .u64 (t/4294967296:Nat)))) J (by rw[nF])<|gx J<|at_ ⟨W.set i (t%4294967296),t/4294967296,i+1⟩ (by dsimp only;exact⟨⟨by simpa using h1,h2.set _ (by omega),by omega,by omega,by rw[ht];exact Mp (by omega) h5⟩,(by omega)⟩)
  .
   obtain rfl:i=(dg A).length:=by omega
   refine ah 52 (.d (vI ((dg A).length:Nat))) J (by rw[hlA]<;>rfl)<|gx (fu:=⟨2⟩) J<|ah 54 (.d (dU c)) J (by show FX.d (.v (.int _ _))= .d (.v (.int _ _));congr 3;omega)<|gx J<|sb _ ((W.set (dg A).length c).map dU) J (d6) J (by rw[<-iC];rfl) J<|fz 19 J J<|cl J (q8 (ds:=W.set (dg A).length c) (by simp;omega)) J<|rz J (by rw[<-hm2];exact jG (h2.set _ (by omega)) (I3 (by omega) h1 h5))
def S2{x y:Nat}(hx:x<4294967296)(hy:y<=4294967296):IntKind.u64.wrap ((x:Int)-y)=(((if x<y then x+18446744073709551616-y else x-y):Nat):Int):=by
 rw[pG];split<;>omega
def yS{a b:Nat}:gD a b<0↔a<b:=by unfold gD;split<;>(try split)<;>omega
section
variable {GB:Gh} {C:aC} {n:Nat} {Q0:Exit->Act->World->Prop} {fr fr':av} {own own':aF} {cf cf':Cf} {vc:List Prop}
def MB(fr:av)(cf:Cf):Option (Int×Int):=match b8 fr cf with
 |some ⟨_, .binOp .sub _ x y _,_,_,_,_⟩=>match aI (bw fr cf) x,aI (bw fr cf) y with
  |some (.d (.v (.int .u64 p))),some (.d (.v (.int .u64 q)))=>some (p,q)
  |_,_=>none
 |_=>none
def sd[fu:Fu]{p q:Int}(u:Int)(h:MB fr cf=some (p,q))(e:IntKind.u64.wrap (p-q)=u)(hgo:cv tt n fu.n fr own cf (.d (.v (.int .u64 u))) [] []=⟨vc,fr',own',cf'⟩)(k:ak prog GB C n Q0 fr' own' cf')
  (hv:autoParam (aj vc) cL._auto_1):ak prog GB C n Q0 fr own cf:=by
 unfold MB at h;split at h<;>try (cases h;done)
 rename_i hh;split at h<;>cases h;rename_i h1 h2;subst e;exact us hh (.yd fun ρ G ov a w r=>by
  obtain⟨y1,h3,h4⟩:=r.ev h1;obtain⟨y2,h5,h6⟩:=r.ev h2;rw[c8] at h4 h6;subst h4 h6;exact⟨_,c8.2 J,j0 h3 h5 fun w=>J⟩) hgo hv k
end
def EB(u:Nat):(u:Int).fdiv (2^min (63:Int).toNat IntKind.u64.bits)=((u/9223372036854775808:Nat):Int):=by
 rw[show(2:Int)^min (63:Int).toNat IntKind.u64.bits=((9223372036854775808:Nat):Int) from J,jT _ (by decide)];rfl
def To{a b ia ib:Nat}[h:BN a ia][k:BN b ib](hb:b<=a)(hi:ia<=1000000000:=by decide)(hj:ib<=1000000000:=by decide):PF GB prog 270 [dN a,dN b] (dN (a-b)):=by
 have hla:=bP (dg a);have hba:=hH (a:=a) hi;have hlb:=bP (dg b);have hbb:=hH (a:=b) hj;refine fn (fu:=⟨9⟩) func270 J J ntmps270 J J (fun C=>?_);refine ah 12 (.d (vI ((dg a).length:Nat))) J (by rw[hla]<;>rfl)<|gx J<|mk (fu:=⟨13⟩) ((List.replicate (dg a).length 0).map dU) J J (by rw[<-ma];rfl) J<|ah 15 (.d (vI ((dg a).length:Nat))) J (by rw[hla]<;>rfl)<|gx J<|lp (X:=List Nat×Nat×Nat) (fun⟨W,c,i⟩=>[(0, .d (dN a)),(1, .d (dN b)),(5, .rw 13),(6, .d (.v (.int .u64 (c:Nat)))),(14, .d (dN a)),(15, .d (vI ((dg a).length:Nat))),(16, .d (vI (i:Nat)))]) (fun⟨W,c,i⟩=>[(13,some (.b 261 1 (W.map dU) true))]) (fun⟨W,c,i⟩=>W.length=(dg a).length/\bt W/\c<=1/\i<=(dg a).length/\dv (W.take i)+dv ((dg b).take i)=dv ((dg a).take i)+4294967296^i*c) (fun⟨W,c,i⟩=>(dg a).length-i) ⟨List.replicate (dg a).length 0,0,0⟩ J ⟨by simp, .replicate _,by omega,by omega,by simp[dv]⟩ (fun _=>J) (fun⟨W,c,i⟩ hk=>?_)
 try dsimp only at hk⊢
 obtain⟨h1,h2,h3,h4,h5⟩:=hk;have hlw:=bP W;have hda:=dE a i;have hdb:=dE b i;obtain⟨t,ht⟩: ∃t,t=(dg b).getD i 0+c:=⟨_,rfl⟩;obtain⟨v,hv⟩: ∃v:Nat,v=if(dg a).getD i 0<t then(dg a).getD i 0+18446744073709551616-t else(dg a).getD i 0-t:=⟨_,rfl⟩
 obtain⟨d,hd⟩: ∃d:Nat,d=if(dg a).getD i 0<(dg b).getD i 0+c then(dg a).getD i 0+4294967296-((dg b).getD i 0+c) else(dg a).getD i 0-((dg b).getD i 0+c):=⟨_,rfl⟩
 obtain⟨c2,hc2⟩: ∃d:Nat,d=if(dg a).getD i 0<(dg b).getD i 0+c then 1 else 0:=⟨_,rfl⟩
 have hvd:v%4294967296=d:=by rw[hv,hd,<-ht];split<;>omega
 have hvc:v/9223372036854775808=c2:=by rw[hv,hc2,<-ht];split<;>omega
 refine br J J J (fun hc17=>?_) (fun hc17=>?_)
 .
  refine ix (fu:=⟨12⟩) _ J (d6) J<|mg (fu:=⟨5⟩) (X:=Unit) (fun _=>[(0, .d (dN a)),(1, .d (dN b)),(5, .rw 13),(6, .d (.v (.int .u64 (c:Nat)))),(14, .d (dN a)),(15, .d (vI ((dg a).length:Nat))),(16, .d (vI (i:Nat))),(7, .d (vI (i:Nat))),(8, .d (dU ((dg a).getD i 0))),(9, .d (.v (.int .u64 (t:Nat))))]) (fun _=>[(13,some (.b 261 1 (W.map dU) true))]) (fun _=>True) [0,1,5,6,14,15,16,7,8,9] [13] rfl ?_ (fun _=>J) (fun _ _=>?_)
  .
   refine gx (fu:=⟨5⟩) J<|ah 24 (.d (vI ((dg b).length:Nat))) J (by rw[hlb]<;>rfl)<|gx J<|br J J J (fun hc25=>?_) (fun hc25=>?_)
   .
    refine ix _ J (d6) J<|ah 9 (.d (.v (.int .u64 (t:Nat)))) J (by show FX.d (.v (.int _ _))= .d (.v (.int _ _));congr 3;omega)<|at_ () trivial
   .
    have hz:=o8 (ds:=dg b) (i:=i);refine ah 9 (.d (.v (.int .u64 (t:Nat)))) J (by show FX.d (.v (.int _ _))= .d (.v (.int _ _));congr 3;omega)<|at_ () trivial
  .
   refine sd (fu:=⟨9⟩) ((v:Nat):Int) J (by rw[hv];exact S2 hda (by omega)) J<|ah 40 (.d (dU d)) J (by show FX.d (.v (.int _ _))= .d (.v (.int _ _));congr 3;omega)<|gx J<|sb (fu:=⟨5⟩) (hv:=by simp only[aj];exact(by decide)) _ ((W.set i d).map dU) J (d6) J (by rw[<-iC];rfl) J<|ah 43 (.d (.v (.int .u64 (c2:Nat)))) J (by rw[EB,hvc])<|gx J<|at_ ⟨W.set i d,c2,i+1⟩ (by dsimp only;exact⟨⟨by simpa using h1,h2.set _ (by rw[hd];split<;>omega),by rw[hc2];split<;>omega,by omega,LY (fk a) (fk b) (by omega) h3 h5 hd hc2⟩,(by omega)⟩)
 .
  obtain rfl:i=(dg a).length:=by omega
  refine fz 13 J J<|cl J (q8 (ds:=W)) J<|rz J (jG h2 (Lq h2 h1 hb h5))
def OR{a b i j:Nat}[h:BN a i][k:BN b j](hi:i<=1000000000:=by decide)(hj:j<=1000000000:=by decide):PF GB prog 264 [dN a,dN b] (.tp [dN (a-b),vB (decide (b<=a))]):=by
 have hla:=bP (dg a);have hba:=hH (a:=a) hi;have hlb:=bP (dg b);have hbb:=hH (a:=b) hj;refine fn func264 J J ntmps264 J J (fun C=>?_);refine cl J (Mr (a:=a) (b:=b) hi hj) J<|br J J J (fun hc9=>?_) (fun hc9=>?_)
 .
  exact rz J (by rw[show a-b=0 by have:=yS (a:=a) (b:=b);omega,decide_eq_false (by have:=yS (a:=a) (b:=b);omega),uc];rfl)
 .
  refine cl J (nq) J<|cl J (nq) J<|cl J (To (by have:=yS (a:=a) (b:=b);omega) hi hj) J<|rz J (by rw[decide_eq_true (by have:=yS (a:=a) (b:=b);omega)];rfl)
def vL{a b ia ib:Nat}[h:BN a ia][k:BN b ib](hi:ia<=1000000000:=by decide)(hj:ib<=1000000000:=by decide):PF GB prog 197 [dN a,dN b] (dN (a*b)):=by
 have hla:=bP (dg a);have hba:=hH (a:=a) hi;have hlb:=bP (dg b);have hbb:=hH (a:=b) hj;refine fn func197 J J ntmps197 J J (fun C=>?_);refine cl J (nq) J<|cl (fu:=⟨8⟩) J (nq) J<|ah 16 (.d (vI ((dg a).length:Nat))) J (by rw[hla]<;>rfl)<|gx (fu:=⟨2⟩) J<|ah 18 (.d (vI ((dg b).length:Nat))) J (by rw[hlb]<;>rfl)<|gx (fu:=⟨1⟩) J<|ah 19 (.d (vI ((dg a).length+(dg b).length:Nat))) J (by show FX.d (.v (.int _ _))= .d (.v (.int _ _));congr 3)<|gx J<|mk (fu:=⟨8⟩) ((List.replicate ((dg a).length+(dg b).length) 0).map dU) J J (by rw[<-ma];rfl) J<|ah 22 (.d (vI ((dg a).length:Nat))) J (by rw[hla]<;>rfl)<|gx J<|lp (X:=List Nat×Nat) (fun⟨W,i⟩=>[(0, .d (dN a)),(1, .d (dN b)),(5, .rw 20),(21, .d (dN a)),(22, .d (vI ((dg a).length:Nat))),(23, .d (vI (i:Nat)))]) (fun⟨W,i⟩=>[(20,some (.b 261 1 (W.map dU) true))]) (fun⟨W,i⟩=>W.length=(dg a).length+(dg b).length/\bt W/\i<=(dg a).length/\dv (W.take (i+(dg b).length))=dv ((dg a).take i)*b) (fun⟨W,i⟩=>(dg a).length-i) ⟨List.replicate ((dg a).length+(dg b).length) 0,0⟩ J ⟨by simp, .replicate _,by omega,by rw[pN,vq];simp[dv]⟩ (fun _=>J) (fun⟨W,i⟩ hk=>?_)
 try dsimp only at hk⊢
 obtain⟨h1,h2,h3,h4⟩:=hk;refine br J J J (fun hc24=>?_) (fun hc24=>?_)
 .
  refine ix (fu:=⟨15⟩) _ J (d6) J<|ah 29 (.d (vI ((dg b).length:Nat))) J (by rw[hlb]<;>rfl)<|gx J<|lp (X:=List Nat×Nat×Nat) (fun⟨W2,c,k⟩=>[(0, .d (dN a)),(1, .d (dN b)),(5, .rw 20),(6, .d (vI (i:Nat))),(7, .d (dU ((dg a).getD i 0))),(8, .d (.v (.int .u64 (c:Nat)))),(21, .d (dN a)),(22, .d (vI ((dg a).length:Nat))),(23, .d (vI (i:Nat))),(28, .d (dN b)),(29, .d (vI ((dg b).length:Nat))),(30, .d (vI (k:Nat)))]) (fun⟨W2,c,k⟩=>[(20,some (.b 261 1 (W2.map dU) true))]) (fun⟨W2,c,k⟩=>W2.length=(dg a).length+(dg b).length/\bt W2/\c<4294967296/\k<=(dg b).length/\dv (W2.take (i+(dg b).length))+4294967296^(i+k)*c=dv ((dg a).take i)*b+(dg a).getD i 0*(4294967296^i*dv ((dg b).take k))) (fun⟨W2,c,k⟩=>(dg b).length-k) ⟨W,0,0⟩ J ⟨h1,h2,by omega,by omega,by rw[h4];simp[dv]⟩ (fun _=>J) (fun⟨W2,c,k⟩ hk=>?_)
  try dsimp only at hk⊢
  obtain⟨g1,g2,g3,g4,g5⟩:=hk;have hlw:=bP W2;have hw:=g2.get (i+k);have hda:=dE a i;have hdb:=dE b k;refine br (fu2:=⟨10⟩) J J J (fun hc31=>?_) (fun hc31=>?_)
  .
   refine ix (fu:=⟨13⟩) (hv:=by simp only[aj];exact⟨⟨by omega,by omega⟩,⟨(zA _ _),(xN (dE _ _) (dE _ _))⟩⟩) _ J (d6) J<|?_;obtain⟨p,hp⟩: ∃p,p=(dg a).getD i 0*(dg b).getD k 0:=⟨_,rfl⟩;have hp1:p<=18446744065119617025:=hp▸BZ hda hdb;refine ah 40 (.d (.v (.int .u64 (p:Nat)))) J (by rw[hp,iJ])<|gx J<|lb (fu:=⟨3⟩) _ J (cF (k:=i+k)) J<|?_;obtain⟨t,ht⟩: ∃t,t=p+W2.getD (i+k) 0+c:=⟨_,rfl⟩;refine ah 49 (.d (.v (.int .u64 (t:Nat)))) J (by show FX.d (.v (.int _ _))= .d (.v (.int _ _));congr 3;omega)<|gx (fu:=⟨11⟩) J<|ah 55 (.d (dU (t%4294967296))) J (by show FX.d (.v (.int _ _))= .d (.v (.int _ _));congr 3)<|gx J<|sb (fu:=⟨5⟩) (hv:=by simp only[aj];exact(by decide)) _ ((W2.set (i+k) (t%4294967296)).map dU) J (cF (k:=i+k)) J (by(rw[show((i:Int)+k).toNat=i+k by omega,<-iC])<;>rfl) J<|ah 58 (.d (.v (.int .u64 (t/4294967296:Nat)))) J (by rw[nF])<|gx J<|at_ ⟨W2.set (i+k) (t%4294967296),t/4294967296,k+1⟩ (by dsimp only;exact⟨⟨by simpa using g1,g2.set _ (by omega),by omega,by omega,by rw[ml];exact PU (by omega) (by omega) g5 ht hp⟩,(by omega)⟩)
  .
   obtain rfl:k=(dg b).length:=by omega
   refine ah 63 (.d (vI ((dg b).length:Nat))) J (by rw[hlb]<;>rfl)<|gx (fu:=⟨3⟩) J<|ah 66 (.d (dU c)) J (by show FX.d (.v (.int _ _))= .d (.v (.int _ _));congr 3;omega)<|gx J<|sb _ ((W2.set (i+(dg b).length) c).map dU) J (cF (k:=i+(dg b).length)) J (by(rw[show((i:Int)+((dg b).length:Nat)).toNat=i+(dg b).length by omega,<-iC])<;>rfl) J<|at_ ⟨W2.set (i+(dg b).length) c,i+1⟩ (by dsimp only;exact⟨⟨by simpa using g1,g2.set _ g3,by omega,M5 J (by omega) g5⟩,(by omega)⟩)
 .
  obtain rfl:i=(dg a).length:=by omega
  refine fz 20 J J<|cl J (q8 (ds:=W)) J<|rz J (jG h2 (by have:=h4;rw[jj,jj,cH] at this;exact this))
def WL{h l y:Nat}(hh:h<y)(hl:l<4294967296)(hy:y<4294967296):PF GB prog 208 [.v (.int .u32 (h:Int)), .v (.int .u32 (l:Int)), .v (.int .u32 (y:Int))] (.tp [dU ((h*4294967296+l)/y),dU ((h*4294967296+l)%y)]):=by
 refine fn (fu:=⟨11⟩) func208 J J ntmps208 J J (fun C=>?_);refine kT 10 J (by omega)<|gx (fu:=⟨4⟩) J<|kF 14 J (by omega)<|gx (fu:=⟨11⟩) (hv:=by simp only[aj];exact⟨by omega,(by decide)⟩) J<|ah 19 (.d (.v (.int .u64 (h*2^32:Nat)))) J (by show FX.d (.v (.int _ _))= .d (.v (.int _ _));rw[o4 _ 32 (by decide) (by show _*4294967296<_;omega) J])<|gx (fu:=⟨3⟩) J<|ah 22 (.d (.v (.int .u64 (l+h*2^32:Nat)))) J (congrArg (fun z:Nat=>FX.d (.v (.int .u64 (z:Int)))) (by rw[BitVec.or_comm];exact oD 64 l h 32 hl (by show _+_*4294967296<18446744073709551616;omega))) ?_;obtain⟨t,ht⟩: ∃t,t=h*4294967296+l:=⟨_,rfl⟩;have hq:t/y<4294967296:=by rw[jJ (by omega)];have:=fR 4294967296 (show h+1<=y from hh);omega
 have hr:t%y<y:=dQ _ (by omega);refine ah 22 (.d (.v (.int .u64 (t:Nat)))) J (by show FX.d (.v (.int _ _))= .d (.v (.int _ _));congr 3;rw[ht];omega)<|gx (hv:=by simp only[aj];exact⟨⟨⟨⟨by omega,⟨(by omega),(by omega),(by omega)⟩⟩,by omega⟩,⟨(by omega),(by omega)⟩⟩,by kernel_rfl⟩) J<|rz J (by show DV.tp [.v (.int _ _), .v (.int _ _)]= .tp [.v (.int _ _), .v (.int _ _)];rw[<-ht,<-rR,<-Int.natCast_emod];generalize t/y=q at*;generalize t%y=r at*;congr 4<;>(first|omega|(congr 3;omega)))
def Wi{A r i b:Nat}(d:Nat)(hb:0<b):(A*4294967296+d)/b=A/b*4294967296+(A%b*4294967296+d)/b/\(A*4294967296+d)%b=(A%b*4294967296+d)%b:=by
 have h:=qV A b;have e:A*4294967296+d=(A%b*4294967296+d)+b*(A/b*4294967296):=by
  rw[<-bR,Nat.add_right_comm,<-dZ,kK (A%b),h]
 rw[e,pX _ _ hb,pR];exact⟨kK _ _,J⟩
def Pi{ds:List Nat}{i:Nat}(h:i<ds.length):dv (ds.drop i)=dv (ds.drop (i+1))*4294967296+ds.getD i 0:=by
 rw[cW h,aK,aZ h];simp only[dv,jR];omega
def MF{W:List Nat}{i q:Nat}(h:i<W.length):dv ((W.set i q).drop i)=dv (W.drop (i+1))*4294967296+q:=by
 rw[Pi (by rw[aR];exact h),sU (by omega),yN h]
def Ti{a b k:Nat}{W:List Nat}(hb:0<b)(hk:k<(dg a).length)(hl:W.length=(dg a).length)(h:dv (W.drop (k+1))=dv ((dg a).drop (k+1))/b):
  dv ((W.set k ((dv ((dg a).drop (k+1))%b*4294967296+(dg a).getD k 0)/b)).drop k)=dv ((dg a).drop k)/b/\dv ((dg a).drop k)%b=(dv ((dg a).drop (k+1))%b*4294967296+(dg a).getD k 0)%b:=by
 have:=Wi (A:=dv ((dg a).drop (k+1))) (r:=0) (i:=0) ((dg a).getD k 0) hb;rw[MF (by omega),h,Pi hk,this.1,this.2];exact⟨J,J⟩
def xh{a b:Nat}:gD a b<0↔a<b:=by unfold gD;split<;>(try split)<;>omega
def yP{a b:Nat}:0<gD a b↔b<a:=by unfold gD;split<;>(try split)<;>omega
def Ie{x:Nat}(hx:x<4294967296):PF GB prog 237 [dU x] (vI (32-(bl x:Int))):=by
 intro G vs hg hv;obtain⟨v,m,rfl,h1,h2⟩:=bm.1 hv;rw[ck] at h2;subst h2;rw[aP.1 h1];exact(Xr hx).mono fun v G' _ h=>aP.2 h
def Qv{a k:Nat}(h:4294967296^k<=a):k<(dg a).length:=by
 have h1:=qn a;rcases fW k (dg a).length with q|q
 .exact q
 .have:4294967296^(dg a).length<=4294967296^k:=bU (by decide) q
  omega
def Mf{v L:Nat}(hL:L=(dg v).length)(h1:1<=L):(dg v).getD (L-1) 0=v/4294967296^(L-1)/\0<v/4294967296^(L-1):=by
 have h:=Cs (fk v) (L-1);rw[o8 (by omega:(dg v).length<=L-1+1),cH,sN,gV] at h;have h2:=qn v;rw[<-hL] at h2;rw[lX (show v<4294967296^(L-1+2) from bM h2 (bU (by decide) (by omega))),sN,gV] at h;have h3:=ul (ey v).2.2 (by intro e;rw[e] at hL;simp at hL;omega);rw[cH,<-hL] at h3;exact⟨h.symm,Nat.div_pos h3 (gN (by decide))⟩
def FT{R n:Nat}(h1:1<=n)(h:R<4294967296^(n+1)):R/4294967296^(n-1)=(dg R).getD (n-1) 0+(dg R).getD n 0*4294967296:=by
 have e:=Cs (fk R) (n-1);rw[cH,show n-1+1=n by omega,lX (show R<4294967296^(n-1+2) by rwa [show n-1+2=n+1 by omega]),sN,gV,bT] at e;exact e
def Tf{R v j L:Nat}(hL:L=(dg v).length)(h1:1<=L)(hR:R<v*4294967296^(j+1)):R/(v*4294967296^j)<=min (R/4294967296^(L+j-1)/(v/4294967296^(L-1))) 4294967295:=by
 have ht:=(Mf hL h1).2;have hp:0<4294967296^j:=gN (by decide);have hv0:0<v:=by
  rcases fU v with q|q
  .subst q;simp at ht
  .exact q
 have hvp:0<v*4294967296^j:=iV hv0 hp;refine Nat.le_min.2 ⟨?_,?_⟩
 .rw[rU ht,rU (gN (by decide))]
  have h3:v/4294967296^(L-1)*4294967296^(L-1)<=v:=Nat.div_mul_le_self _ _;have h4:R/(v*4294967296^j)*(v*4294967296^j)<=R:=Nat.div_mul_le_self _ _;rw[show L+j-1=L-1+j by omega,gM]
  calc R/(v*4294967296^j)*(v/4294967296^(L-1))*(4294967296^(L-1)*4294967296^j)
    =R/(v*4294967296^j)*((v/4294967296^(L-1)*4294967296^(L-1))*4294967296^j):=by simp only[bR]
   _<=R/(v*4294967296^j)*(v*4294967296^j):=fR _ (bV _ h3)
   _<=R:=h4
 .have:R/(v*4294967296^j)<4294967296:=by
   rw[jJ hvp];rw[iL] at hR;rwa [bT,bR]
  omega
def Br{R V g:Nat}(hV:0<V)(h:R<V*g):R/V<g:=by
 rw[jJ hV,bT];exact h
def awV{R V g:Nat}(hV:0<V)(h1:R/V<=g)(h2:V*g<=R):g=R/V:=by
 have:g<=R/V:=by rw[rU hV,bT];exact h2
 omega
def P3{R0 R v j g:Nat}{W:List Nat}(hj:j<W.length)(h:R0=R+dv (W.drop (j+1))*4294967296^(j+1)*v)(hv:0<v*4294967296^j)(hg:g=R/(v*4294967296^j)):
  R0=(R-v*4294967296^j*g)+dv ((W.set j g).drop j)*4294967296^j*v/\R-v*4294967296^j*g<v*4294967296^j:=by
 have h1:=qV R (v*4294967296^j);have h2:=dQ R hv;rw[<-hg] at h1;refine⟨?_,by omega⟩;rw[MF hj,dZ,dZ,h,iL];have e:g*4294967296^j*v=v*4294967296^j*g:=by simp only[bR,lW,bT]
 have e2:dv (W.drop (j+1))*(4294967296^j*4294967296)*v=dv (W.drop (j+1))*4294967296*4294967296^j*v:=by simp only[bR,lW,bT]
 rw[e,e2];omega
def V8{a b s R:Nat}{D:Nat}(hR:R<b*2^s)(h:a*2^s=R+D*(b*2^s)):D=a/b/\R/2^s=a%b:=by
 have hp:0<2^s:=gN (by decide);have hb:0<b:=by
  rcases fU b with q|q
  .subst q;simp at hR
  .exact q
 have h1:a=R/2^s+D*b:=by
  have:=congrArg (· /2^s) h;rw[Nat.mul_div_cancel _ hp,<-bR,Nat.add_mul_div_right _ _ hp] at this;exact this
 have h2:R/2^s<b:=by rw[jJ hp];exact hR
 have h3:R/2^s+b*D=a:=by rw[bT b];exact h1.symm
 have:=(Nat.div_mod_unique hb).2 ⟨h3,h2⟩;exact⟨this.1.symm,this.2.symm⟩
def Vw{a b s:Nat}(hl:(dg b).length<=(dg a).length)(h2:1<=(dg b).length):a*2^s<b*2^s*4294967296^((dg a).length-(dg b).length+1):=by
 have h1:=qn a;have h3:=ul (ey b).2.2 (by intro e;rw[e] at h2;simp at h2);rw[cH] at h3;have h4:4294967296^(dg a).length<=b*4294967296^((dg a).length-(dg b).length+1):=by
  rw[show(dg a).length=((dg b).length-1)+((dg a).length-(dg b).length+1) by omega,gM];rw[show(dg b).length-1+((dg a).length-(dg b).length+1)-(dg b).length+1=(dg a).length-(dg b).length+1 by omega];exact bV _ h3
 rw[mV];exact lR (bM h1 h4) (gN (by decide))
def QW(x j:Nat):x*2^(32*j)=x*4294967296^j:=by rw[sQ]
def Yl{R L j:Nat}(h:R<4294967296^(L+j+1))(h1:1<=L):R/4294967296^(L+j-1)<18446744073709551616:=by
 rw[jJ (gN (by decide)),show(18446744073709551616:Nat)=4294967296^2 from J,<-gM];rwa [show 2+(L+j-1)=L+j+1 by omega]
def Wl{R v j L:Nat}(hL:L=(dg v).length)(hR:R<v*4294967296^(j+1)):R<4294967296^(L+j+1):=by
 have h:=qn v;rw[<-hL] at h;rw[lK,gM];exact bM hR (bV _ (oQ h))
def RB{a b ia ib:Nat}[ha:BN a ia][hb:BN b ib](hi:ia<=500000000)(hj:ib<=500000000)(h2:1<=(dg b).length)(hl:(dg b).length<=(dg a).length):PF GB prog 209 [dN a,dN b] (.tp [dN (a/b),dN (a%b)]):=by
 have hla:=bP (dg a);have hlb:=bP (dg b);have hba:=i6 ha.h;have hba':(dg a).length<=100000000:=by omega
 refine fn func209 J J ntmps209 J J (fun C=>?_);refine ix _ J (cF (k:=(dg b).length-1)) J<|cl (fu:=⟨0⟩) J (Ie (dE b ((dg b).length-1))) J<|?_;obtain⟨s,hs⟩: ∃s:Nat,s=32-bl ((dg b).getD ((dg b).length-1) 0):=⟨_,rfl⟩;have hs32:s<=32:=by omega
 refine ah 22 (.d (vI (s:Nat))) J (by show FX.d (.v (.int _ _))= .d (.v (.int _ _));congr 3;have:=ld.2 (show(dg b).getD ((dg b).length-1) 0<2^32 from dE b _);omega)<|gx J<|cl J (Bl (a:=b) (k:=s) (ia:=ib) (by omega) (by omega)) J<|cl (fu:=⟨0⟩) J (Bl (a:=a) (k:=s) (ia:=ia) (by omega) (by omega)) J<|?_;obtain⟨v,hv⟩: ∃v,v=b*2^s:=⟨_,rfl⟩;obtain⟨R0,hR0⟩: ∃R0,R0=a*2^s:=⟨_,rfl⟩;refine ah 25 (.d (dN v)) J (by rw[hv])<|ah 28 (.d (dN R0)) J (by rw[hR0]) ?_;obtain⟨L,hL⟩: ∃L,L=(dg v).length:=⟨_,rfl⟩;have hlv:((dg v).map dU).length=L:=by rw[bP,hL]
 have hps:2^s<=2^32:=bU (by decide) hs32;have hpp:0<2^s:=gN (by decide);have hst:=Vw (a:=a) (b:=b) (s:=s) hl h2;rw[<-hv,<-hR0] at hst;have hvb:v<2^(6*(ib+32)):=by rw[hv];exact bM (mW hb.h hps (by decide)) (by rw[<-gM];exact bU (by decide) (by omega))
 have hRb:R0<2^(6*(ia+32)):=by rw[hR0];exact bM (mW ha.h hps (by decide)) (by rw[<-gM];exact bU (by decide) (by omega))
 have hbp:0<b:=eK (fun q=>by subst q;rw[qc] at h2;simp at h2);have hvp:0<v:=hv▸iV hbp hpp;have hLp:1<=L:=by rw[hL];exact Qv (k:=0) (by rw[tZ];exact hvp)
 have htop:=Mf hL hLp;haveI hvB:BN v (ib+32):=⟨hvb⟩;have hLb:=i6 hvb;have hLb':L<=100000000:=by omega
 have htl:=dE v (L-1);refine gx (fu:=⟨9⟩) J<|ah 31 (.d (vI (L:Nat))) J (by rw[hlv];rfl)<|gx J<|ix (fu:=⟨2⟩) _ J (cF (k:=L-1)) J<|ah 35 (.d (.v (.int .u64 (v/4294967296^(L-1):Nat)))) J (by rw[htop.1]) ?_;rw[htop.1] at htl;refine gx (fu:=⟨11⟩) J<|?_;obtain⟨m,hm⟩: ∃m,m=(dg a).length-(dg b).length+1:=⟨_,rfl⟩;rw[<-hm] at hst;have hrl:(List.replicate ((m:Nat):Int).toNat (DV.v (.int .u32 0))).length=m:=by rw[aW,eY]
 refine ah 41 (.d (vI (m:Nat))) J (by show FX.d (.v (.int _ _))= .d (.v (.int _ _));congr 3;omega)<|gx J<|mk ((List.replicate m 0).map dU) J J (by rw[<-ma];rfl) J<|lp (X:=List Nat×Nat×Nat) (fun⟨W,R,k⟩=>[(6, .d (vI (s:Nat))),(7, .d (dN v)),(8, .d (dN R)),(9, .d (.v (.int .u64 (v/4294967296^(L-1):Nat)))),(10, .rw 42),(11, .d (vI ((k:Nat)-1)))]) (fun⟨W,R,k⟩=>[(42,some (.b 261 1 (W.map dU) true))]) (fun⟨W,R,k⟩=>W.length=m/\bt W/\k<=m/\R0=R+dv (W.drop k)*4294967296^k*v/\R<v*4294967296^k/\R<=R0) (fun⟨W,R,k⟩=>k) ⟨List.replicate m 0,R0,m⟩ J ⟨by simp, .replicate _,bQ _,by simp[dv],hst,bQ _⟩ (fun _=>J) (fun⟨W,R,k⟩ hk=>?_);dsimp only at hk⊢;obtain⟨h1,h2',h3,h4,h5,h6⟩:=hk;have hlw:=bP W;refine br (fu1:=⟨10⟩) J J J (fun hc47=>?_) (fun hc47=>?_)
 .
  obtain⟨j,rfl⟩: ∃j,k=j+1:=⟨k-1,by omega⟩;have hvj:0<v*4294967296^j:=iV hvp (gN (by decide));have hge:=Tf hL hLp h5;have hlen:=Wl hL h5;have hlr:((dg R).map dU).length=(dg R).length:=bP _;haveI hRB:BN R (ia+32):=⟨by omega⟩;have hq32:R/(v*4294967296^j)<4294967296:=by omega
  have hz1:=Int.natCast_nonneg (R/4294967296^(L+j-1));have hz2:=Int.natCast_nonneg (R/4294967296^(L+j-1)/(v/4294967296^(L-1)));refine ah 11 (.d (vI (j:Nat))) J (by show FX.d (.v (.int _ _))= .d (.v (.int _ _));congr 3;omega)<|mg (fu:=⟨6⟩) (hv:=fun _ _=>by simp only[aj];exact⟨(by omega),(by have:=Yl hlen hLp;omega),(by omega)⟩) (X:=Unit) (fun _=>[(6, .d (vI (s:Nat))),(7, .d (dN v)),(8, .d (dN R)),(9, .d (.v (.int .u64 (v/4294967296^(L-1):Nat)))),(10, .rw 42),(11, .d (vI (j:Nat))),(12, .d (.v (.int .u64 (R/4294967296^(L+j-1):Nat))))]) (fun _=>[(42,some (.b 261 1 (W.map dU) true))]) (fun _=>True) [6,7,8,9,10,11,12] [42] rfl ?_ (fun _=>J) (fun _ hm=>?_)
  .
   refine gx (fu:=⟨4⟩) J<|ah 51 (.d (vI (L:Nat))) J (by rw[hlv];rfl)<|gx (fu:=⟨2⟩) J<|ah 53 (.d (vI (L+j:Nat))) J (by show FX.d (.v (.int _ _))= .d (.v (.int _ _));congr 3)<|gx (fu:=⟨8⟩) J<|ah 56 (.d (vI ((dg R).length:Nat))) J (by rw[hlr];rfl)<|gx J<|br (fu2:=⟨6⟩) J J J (fun hc57=>?_) (fun hc57=>?_)
   .
    have hd0:=dE R (L+j-1);have hd1:=dE R (L+j);refine ix (hv:=by simp only[aj];exact⟨⟨by omega,(by decide)⟩,by omega⟩) _ J (cF (k:=L+j)) J<|ix (fu:=⟨3⟩) _ J (cF (k:=L+j-1)) J<|ah 70 (.d (.v (.int .u64 ((dg R).getD (L+j-1) 0+(dg R).getD (L+j) 0*4294967296:Nat)))) J (congrArg (fun z:Nat=>FX.d (.v (.int .u64 (z:Int)))) (by rw[o4 _ 32 (by decide) (by show _*4294967296<_;omega) J,BitVec.or_comm];exact oD 64 ((dg R).getD (L+j-1) 0) ((dg R).getD (L+j) 0) 32 hd0 (by show _+_*4294967296<18446744073709551616;omega)))<|gx J<|ah 12 (.d (.v (.int .u64 (R/4294967296^(L+j-1):Nat)))) J (by rw[FT (by omega) hlen])<|at_ () trivial
   .
    refine ah 74 (.d (vI ((dg R).length:Nat))) J (by rw[hlr];rfl)<|gx J<|br J J J (fun hc75=>?_) (fun hc75=>?_)
    .
     have hd0:=dE R (L+j-1);refine ix _ J (cF (k:=L+j-1)) J<|ah 12 (.d (.v (.int .u64 (R/4294967296^(L+j-1):Nat)))) J (by rw[FT (by omega) hlen,o8 (by omega:(dg R).length<=L+j),jK,gV])<|at_ () trivial
    .
     refine ah 12 (.d (.v (.int .u64 (R/4294967296^(L+j-1):Nat)))) J (by rw[FT (by omega) hlen,o8 (by omega:(dg R).length<=L+j),o8 (by omega:(dg R).length<=L+j-1)];rfl)<|at_ () trivial
  .
   obtain⟨g0,hg0'⟩: ∃g0,g0=min (R/4294967296^(L+j-1)/(v/4294967296^(L-1))) 4294967295:=⟨_,rfl⟩;rw[<-hg0'] at hge;have hg0:=hge;have hg1:g0<=4294967295:=by omega
   refine ah 85 (.d (.v (.int .u64 (g0:Nat)))) J (by show FX.d (.v (.int _ _))= .d (.v (.int _ _));congr 3;rw[<-rR];split<;>omega)<|gx J<|cl J (s8 (u:=g0)) J<|cl (fu:=⟨2⟩) J (uA (ia:=ib+32) (ib:=32) (hb:=⟨u7 (by show _<4294967296;omega)⟩) (by omega) (by decide)) J<|ah 91 (.d (vI (32*j:Nat))) J (by show FX.d (.v (.int _ _))= .d (.v (.int _ _));congr 3)<|gx J<|cl (fu:=⟨0⟩) J (Bl (k:=32*j) (ia:=ib+64) (ha:=⟨show _<2^(6*(ib+32+32)) from l6 hvb (u7 (by show _<4294967296;omega))⟩) (by omega) (by omega)) J<|ah 92 (.d (dN (v*4294967296^j*g0))) J (by rw[QW,mV])<|gx J<|lp (X:=Nat) (fun g=>[(6, .d (vI (s:Nat))),(7, .d (dN v)),(8, .d (dN R)),(9, .d (.v (.int .u64 (v/4294967296^(L-1):Nat)))),(10, .rw 42),(11, .d (vI (j:Nat))),(14, .d (.v (.int .u64 (g:Nat)))),(15, .d (dN (v*4294967296^j*g)))]) (fun g=>[(42,some (.b 261 1 (W.map dU) true))]) (fun g=>R/(v*4294967296^j)<=g/\g<=4294967295) (fun g=>g) g0 J ⟨hg0,by omega⟩ (fun _=>J) (fun g hk=>?_);obtain⟨g1,g2⟩:=hk;have hlw:=bP W;refine cl J (xd (a:=v*4294967296^j*g) (b:=R) (by have:=zP (a:=v*4294967296^j*g) (k:=L+j+1) (by have h1:=qn v;rw[<-hL] at h1;rw[iL,gM];exact rS (lR h1 (gN (by decide))) (by omega));omega) (by have:=zP hlen;omega)) J<|br (fu1:=⟨7⟩) (v1:=fun hc96=>by simp only[aj];exact(by have h:=Br hvj (yP.1 hc96);have h1:1<=g:=gW (aN _) h;omega)) (fu2:=⟨11⟩) J J J (fun hc96=>?_) (fun hc96=>?_)
   .
    have hgd:=Br hvj (yP.1 hc96);have hg1p:1<=g:=gW (aN _) hgd;refine ah 98 (.d (.v (.int .u64 ((g-1:Nat):Int)))) J (by show FX.d (.v (.int _ _))= .d (.v (.int _ _));congr 3;omega)<|gx J<|cl J (s8 (u:=g-1)) J<|cl (fu:=⟨2⟩) J (uA (ia:=ib+32) (ib:=32) (hb:=⟨u7 (by show _<4294967296;omega)⟩) (by omega) (by decide)) J<|ah 104 (.d (vI (32*j:Nat))) J (by show FX.d (.v (.int _ _))= .d (.v (.int _ _));congr 3)<|gx J<|cl (fu:=⟨0⟩) J (Bl (k:=32*j) (ia:=ib+64) (ha:=⟨show _<2^(6*(ib+32+32)) from l6 hvb (u7 (by show _<4294967296;omega))⟩) (by omega) (by omega)) J<|ah 105 (.d (dN (v*4294967296^j*(g-1)))) J (by rw[QW,mV])<|gx J<|at_ (g-1) ⟨⟨by have h:=Br hvj (yP.1 hc96);omega,by omega⟩,(by have:=Br hvj (yP.1 hc96);omega)⟩
   .
    have hgq:=awV hvj g1 (rL fun q=>hc96 (yP.2 q));refine ah 109 (.d (dU g)) J (by show FX.d (.v (.int _ _))= .d (.v (.int _ _));congr 3;omega)<|gx J<|sb _ ((W.set j (R/(v*4294967296^j))).map dU) J (cF (k:=j)) J (by(rw[<-hgq,eY,<-iC])<;>rfl) J<|cl (fu:=⟨0⟩) J (IC (a:=R) (b:=v*4294967296^j*g) (ia:=ia+32) (by rw[hgq];exact Nat.mul_div_le _ _) (by omega)) J<|ah 113 (.d (dN (R-v*4294967296^j*(R/(v*4294967296^j))))) J (by rw[hgq])<|gx J<|at_ ⟨W.set j (R/(v*4294967296^j)),R-v*4294967296^j*(R/(v*4294967296^j)),j⟩ (by dsimp only;exact⟨⟨by simpa using h1,h2'.set _ (by omega),by omega,(P3 (by omega) h4 hvj J).1,(P3 (by omega) h4 hvj J).2,by omega⟩,(by omega)⟩)
 .
  obtain rfl:k=0:=by omega
  rw[tZ,lM] at h5;rw[tZ,lM,gT,hR0,hv] at h4;rw[hv] at h5;have hend:=V8 h5 h4;haveI hRB:BN R (ia+32):=⟨by omega⟩;refine fz 42 J J<|cl J (qi (ds:=W)) J<|cl J (U9 (a:=R) (k:=s) (ia:=ia+32) (by omega) (by omega)) J<|rz J (by show DV.tp [bE _,dN _]= .tp [dN _,dN _];rw[jG h2' hend.1,hend.2])
def ay1{ds:List Nat}(hl:ds.length<=1125899906842624):PB GB prog 233 (mA [none]) 1 261 (ds.map dU) (fun w=> .v (.slice w.a w.n w.c)) ((trimD ds).map dU):=by
 refine Og func233 J J ntmps233 J J (fun C=>?_);refine lp (fu:=⟨5⟩) (X:=List Nat) (fun W=>[(0, .rw 1000000)]) (fun W=>[(1000000,some (.b 261 1 (W.map dU) false))]) (fun W=>trimD ds=trimD W/\W.length<=ds.length) (fun W=>W.length) ds J ⟨J,bQ _⟩ (fun _=>J) (fun W hk=>?_);obtain⟨h1,h2⟩:=hk;have hml:=bP W;refine ah 4 (.d (vI (W.length:Nat))) J (by rw[hml]<;>rfl)<|gx J<|cs (fu1:=⟨3⟩) 6 J J J (fun hg6=>?_) (fun hg6=>?_)
 .
  refine ah 9 (.d (vI (W.length:Nat))) J (by rw[hml]<;>rfl)<|gx J<|lb _ J (cF (k:=W.length-1)) J<|br (fu1:=⟨7⟩) J J J (fun hc14=>?_) (fun hc14=>?_)
  .
   refine ah 17 (.d (vI (W.length:Nat))) J (by rw[hml]<;>rfl)<|gx (fu:=⟨1⟩) J<|ah 18 (.d (vI (W.length-1:Nat))) J (by show FX.d (.v (.int _ _))= .d (.v (.int _ _));congr 3;omega)<|gx (fu:=⟨0⟩) J<|Ma ((W.take (W.length-1)).map dU) (W.length-1) J J (by rw[hml];omega) (by rw[kX]) J<|fD 19 1000000 J<|at_ (W.take (W.length-1)) ⟨⟨by rw[h1,Kz],by rw[bK];omega⟩,(by rw[bK];omega)⟩
  .
   exact Fk J J J (by rw[h1,CG (fun _=>by omega)])
 .
  exact Fk J J J (by rw[h1,CG (fun _=>by omega)])
def Za{a:Nat}(h:0<(dg a).length):bl a=32*((dg a).length-1)+bl ((dg a).getD ((dg a).length-1) 0):=by
 have:=TG (fk a) (ey a).2.2 (fun e=>by rw[e] at h;exact absurd h (by decide));rwa [cH] at this
def xK{a:Nat}(h:(dg a).length=0:=by omega):a=0:=by rw[<-cH a,bL h];rfl
def r5{a i:Nat}[h:BN a i](hi:i<=1000000000:=by decide):PF GB prog 210 [dN a] (vI (bl a:Nat)):=by
 have hla:=bP (dg a);have hba:=hH (a:=a) hi;have hbl:bl ((dg a).getD ((dg a).length-1) 0)<=32:=ld.2 (dE a _);refine fn func210 J J ntmps210 J J (fun C=>?_);refine cl (fu:=⟨8⟩) J (nq) J<|ah 6 (.d (vI ((dg a).length:Nat))) J (by rw[hla]<;>rfl)<|gx J<|br (fu2:=⟨6⟩) J J J (fun hc7=>?_) (fun hc7=>?_)
 .
  exact rz J (by rw[xK (a:=a)];rfl)
 .
  refine ah 9 (.d (vI ((dg a).length:Nat))) J (by rw[hla]<;>rfl)<|gx (fu:=⟨4⟩) J<|ah 13 (.d (vI ((dg a).length:Nat))) J (by rw[hla]<;>rfl)<|gx J<|ix _ J (cF (k:=(dg a).length-1)) J<|cl J (Ie (dE a ((dg a).length-1))) J<|rz J (by show DV.v (.int _ _)=DV.v (.int _ _);have:=Za (a:=a) (by omega);congr 2;omega)
def Ta{a i:Nat}(h:a<18446744073709551616)(hi:i<(dg a).length):dv ((dg a).take i)<2^(32*i)/\dv ((dg a).take i)+(dg a).getD i 0*2^(32*i)=dv ((dg a).take (i+1))/\dv ((dg a).take (i+1))<18446744073709551616:=by
 have h1:=ka ((fk a).take i);rw[bK,iM (by omega)] at h1;have e:(2:Nat)^(32*i)=4294967296^i:=by rw[sQ]
 have h2:=zc (dg a) (i+1);rw[cH] at h2;refine⟨by rw[e];exact h1,by rw[e,ml,bT],?_⟩;have:=aN (4294967296^(i+1)*dv ((dg a).drop (i+1)));omega
def Vl{a:Nat}(h:a<18446744073709551616):(dg a).length<=2:=by have:=i6 (u:=a) (k:=64) h;omega
def xI{a:Nat}(h:a<18446744073709551616):PF GB prog 213 [dN a] (.tp [.v (.int .u64 (a:Nat)),vB true]):=by
 have hla:=bP (dg a);have hl2:=Vl h;refine fn func213 J J ntmps213 J J (fun C=>?_);refine cl (fu:=⟨8⟩) J (nq) J<|ah 10 (.d (vI ((dg a).length:Nat))) J (by rw[hla]<;>rfl)<|gx (fu:=⟨0⟩) J<|b9 (fu:=⟨15⟩) J (by show some (decide _)=some false;rw[decide_eq_false (by omega)]) J<|ah 13 (.d (vI ((dg a).length:Nat))) J (by rw[hla]<;>rfl)<|gx J<|lp (X:=Nat) (fun i=>[(14, .d (vI (i:Nat))),(4, .d (.v (.int .u64 (dv ((dg a).take i):Nat))))]) (fun i=>[]) (fun i=>i<=(dg a).length) (fun i=>(dg a).length-i) 0 J (aN _) (fun _=>J) (fun i hk=>?_);refine br J J J (fun hc15=>?_) (fun hc15=>?_)
 .
  obtain⟨u1,u2,u3⟩:=Ta h (i:=i) (by omega);have hda:=dE a i;refine ix (fu:=⟨12⟩) (hv:=by simp only[aj];exact⟨⟨by omega,by omega⟩,(by omega)⟩) _ J (d6) J<|ah 24 (.d (.v (.int .u64 ((dg a).getD i 0*2^(32*i):Nat)))) J (by show FX.d (.v (.int _ _))= .d (.v (.int _ _));rw[o4 _ (32*i) (by omega) (by omega)])<|gx (fu:=⟨1⟩) J<|ah 25 (.d (.v (.int .u64 (dv ((dg a).take (i+1)):Nat)))) J (congrArg (fun z:Nat=>FX.d (.v (.int .u64 (z:Int)))) ((oD 64 _ _ (32*i) u1 (by rw[u2];exact u3)).trans u2))<|gx J<|at_ (i+1) ⟨(by omega),(by omega)⟩
 .
  obtain rfl:i=(dg a).length:=by omega
  exact rz J (by rw[jj (bQ _),cH];rfl)
def Nh{ds:List Nat}{j:Nat}(h:j<ds.length):dv (ds.drop j)=ds.getD j 0+4294967296*dv (ds.drop (j+1)):=by
 rw[cW h,aK,aZ h];rfl
def Xk{A W:List Nat}{j d r v:Nat}(hA:j<A.length)(hW:j<W.length)(hd:0<d)(h:dv (A.drop (j+1))=d*dv (W.drop (j+1))+r)(hv:v=A.getD j 0+r*4294967296):dv (A.drop j)=d*dv ((W.set j (v/d)).drop j)+v%d:=by
 have e1:dv ((W.set j (v/d)).drop j)=v/d+4294967296*dv (W.drop (j+1)):=by
  rw[Nh (by rw[aR];exact hW),yN hW,sU (by omega)]
 have h2:=qV v d;have e3:d*(v/d+4294967296*dv (W.drop (j+1)))=d*(v/d)+4294967296*(d*dv (W.drop (j+1))):=by rw[dK,lW]
 rw[e1,Nh hA,h,e3];omega
def S4{a d r:Nat}{W:List Nat}(h:a=d*dv W+r)(hr:r<d):dv W=a/d/\r=a%d:=by
 have:=(Nat.div_mod_unique (by omega:0<d)).2 ⟨show r+d*dv W=a by omega,hr⟩;exact⟨this.1.symm,this.2.symm⟩
def azO{a d i:Nat}[h:BN a i](hd:0<d)(hd2:d<4294967296)(hi:i<=1000000000:=by decide):PF GB prog 242 [dN a,dU d] (.tp [dN (a/d),dU (a%d)]):=by
 have hla:=bP (dg a);have hba:=hH (a:=a) hi;refine fn (fu:=⟨10⟩) func242 J J ntmps242 J J (fun C=>?_);refine ah 11 (.d (vI ((dg a).length:Nat))) J (by rw[hla]<;>rfl)<|gx J<|mk (fu:=⟨13⟩) ((List.replicate (dg a).length 0).map dU) J J (by rw[<-ma];rfl) J<|ah 14 (.d (vI ((dg a).length:Nat))) J (by rw[hla]<;>rfl)<|gx J<|lp (X:=List Nat×Nat×Nat) (fun⟨W,r,k⟩=>[(0, .d (dN a)),(1, .d (dU d)),(6, .rw 12),(7, .d (.v (.int .u64 (r:Nat)))),(8, .d (vI ((k:Nat)-1)))]) (fun⟨W,r,k⟩=>[(12,some (.b 261 1 (W.map dU) true))]) (fun⟨W,r,k⟩=>W.length=(dg a).length/\bt W/\r<d/\k<=(dg a).length/\dv ((dg a).drop k)=d*dv (W.drop k)+r) (fun⟨W,r,k⟩=>k) ⟨List.replicate (dg a).length 0,0,(dg a).length⟩ J ⟨by simp, .replicate _,hd,bQ _,by simp[dv]⟩ (fun _=>J) (fun⟨W,r,k⟩ hk=>?_)
 try dsimp only at hk⊢
 obtain⟨h1,h2,h3,h4,h5⟩:=hk;have hlw:=bP W;refine br (fu1:=⟨0⟩) J J J (fun hc17=>?_) (fun hc17=>?_)
 .
  obtain⟨j,rfl⟩: ∃m,k=m+1:=⟨k-1,by omega⟩;have hda:=dE a j;obtain⟨v,hv⟩: ∃v,v=(dg a).getD j 0+r*4294967296:=⟨_,rfl⟩;obtain⟨q,hq⟩: ∃q,q=v/d:=⟨_,rfl⟩;have hvq:q<4294967296:=by rw[hq,jJ hd,bT];have:=bV 4294967296 (show r+1<=d from h3);omega
  refine ah 8 (.d (vI (j:Nat))) J (by show FX.d (.v (.int _ _))= .d (.v (.int _ _));congr 3;omega)<|gx (fu:=⟨8⟩) (hv:=by simp only[aj];exact(by decide)) J<|ah 21 (.d (.v (.int .u64 (r*4294967296:Nat)))) J (by show FX.d (.v (.int _ _))= .d (.v (.int _ _));rw[o4 _ 32 (by decide) (by show _*4294967296<_;omega) J])<|gx J<|ix (fu:=⟨3⟩) _ J (d6) J<|ah 27 (.d (.v (.int .u64 (v:Nat)))) J (congrArg (fun z:Nat=>FX.d (.v (.int .u64 (z:Int)))) ((congrArg BitVec.toNat (BitVec.or_comm ..)).trans ((oD 64 ((dg a).getD j 0) r 32 hda (by show _+_*4294967296<18446744073709551616;omega)).trans hv.symm)))<|gx (fu:=⟨11⟩) J<|ah 33 (.d (.v (.int .u64 (q:Nat)))) J (by show FX.d (.v (.int _ _))= .d (.v (.int _ _));congr 3;rw[hq];rfl)<|gx (fu:=⟨1⟩) J<|ah 34 (.d (dU q)) J (by show FX.d (.v (.int _ _))= .d (.v (.int _ _));congr 3;omega)<|gx J<|sb (fu:=⟨7⟩) _ ((W.set j q).map dU) J (d6) J (by rw[<-iC];rfl) J<|ah 39 (.d (.v (.int .u64 (v%d:Nat)))) J (by show FX.d (.v (.int _ _))= .d (.v (.int _ _));congr 3)<|gx J<|at_ ⟨W.set j q,v%d,j⟩ (by dsimp only;exact⟨⟨by simpa using h1,h2.set _ hvq,dQ _ hd,by omega,by rw[hq];exact Xk (by omega) (by omega) hd h5 hv⟩,(by omega)⟩)
 .
  obtain rfl:k=0:=by omega
  obtain⟨e1,e2⟩:=S4 (a:=a) (W:=W) (by rw[gT,gT,cH] at h5;exact h5) h3;refine fz 12 J J<|cl (fu:=⟨2⟩) J (q8 (ds:=W)) J<|ah 43 (.d (dU r)) J (by show FX.d (.v (.int _ _))= .d (.v (.int _ _));congr 3;omega)<|gx J<|rz J (by show DV.tp [bE _,dU _]= .tp [dN _,dU _];rw[jG h2 e1,<-e2])
end Go.Sx
end
