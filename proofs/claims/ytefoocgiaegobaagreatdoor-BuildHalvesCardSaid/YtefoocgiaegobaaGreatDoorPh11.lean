import Derived.Test.YtefoocgiaegobaaGreatDoorPh10
set_option linter.all false
set_option maxHeartbeats 4000000
set_option maxRecDepth 100000
section
namespace Go.Sx
open Go Go.Proofs Tryz
variable {GB:Gh}
def wG(n:Nat)(a b k:Nat)(ha:a<2^k)(h:a+b*2^k<2^n):(BitVec.ofInt n (a:Int) ||| BitVec.ofInt n ((b*2^k:Nat):Int)).toNat=a+b*2^k:=by
 rw[BitVec.toNat_or,BitVec.ofInt_natCast,BitVec.ofInt_natCast,BitVec.toNat_ofNat,BitVec.toNat_ofNat,fK (by omega),fK (by omega)];rw[<-lM,Nat.or_comm,<-mX ha,lM];omega
def Hh{x y:Nat}(hx:x<4294967296)(hy:y<4294967296):x*y<=18446744065119617025:=by
 have:=kV (by omega:x<=4294967295) (by omega:y<=4294967295);exact this
def MR(x y:Nat):(0:Int)<=(x:Int)*(y:Int):=by rw[<-jQ];omega
def Ix{x y:Nat}(hx:x<4294967296)(hy:y<4294967296):(x:Int)*(y:Int)<=18446744073709551615:=by
 have:=Hh hx hy;rw[<-jQ];omega
def T0{ds:List Nat}(h:ds.length=1):dv ds=ds.getD 0 0:=by
 match ds,h with
 |[d],_=>simp[dv]
def vS{a:Nat}(h:(dg a).length=1):(dg a).getD 0 0=a:=by rw[<-T0 h,cj]
def XT{ds:List Nat}{j m:Nat}(h:j<m):(ds.take m).getD j 0=ds.getD j 0:=by
 rw[aK,aK,qT,if_pos h]
def HT{W:List Nat}{j m d:Nat}(hj:j<m)(hm:m<=W.length):dv ((W.set j d).take m)+4294967296^j*W.getD j 0=dv (W.take m)+4294967296^j*d:=by
 rw[List.take_set,<-XT (ds:=W) hj];exact pi _ _ _ (by rw[cK];omega)
def Zv{W:List Nat}{P X Y m i k c y t S:Nat}(hk:i+k<m)(hm:m<=W.length)(h:dv (W.take m)+4294967296^(i+k)*c=P+X*(4294967296^i*S))(ht:t=Y+W.getD (i+k) 0+c)(hY:Y=X*y):
  dv ((W.set (i+k) (t%4294967296)).take m)+4294967296^(i+(k+1))*(t/4294967296)=P+X*(4294967296^i*(S+4294967296^k*y)):=by
 have h1:=HT (W:=W) (d:=t%4294967296) hk hm;rw[ht,show Y+W.getD (i+k) 0+c=c+Y+W.getD (i+k) 0 by omega] at h1⊢;have h2:=ML h1 h;rw[<-kN,fS,h2,hY,fJ];simp only[dZ,bS,kJ,bM,kN]
def auH{a b:Nat}{W:List Nat}{i c lb:Nat}(hlb:lb=(dg b).length)(hl:i+lb<W.length)(h:dv (W.take (i+lb))+4294967296^(i+lb)*c=dv ((dg a).take i)*b+(dg a).getD i 0*(4294967296^i*dv ((dg b).take lb))):
  dv ((W.set (i+lb) c).take (i+1+lb))=dv ((dg a).take (i+1))*b:=by
 rw[show i+1+lb=i+lb+1 by omega,oP hl,h,iC,n8 (ds:=dg b) (by omega),cj b,cY];simp only[bS,kJ,bM]
def JK(n j:Nat):(List.replicate n 0).getD j 0=0:=by
 rw[aK,List.getElem?_replicate];split<;>rfl
def yg{k:Nat}(h:k<=1000000000):IntKind.i64.wrap ((k:Int).tdiv 32)=((k/32:Nat):Int):=by
 rw[show(k:Int).tdiv 32=((k/32:Nat):Int) from J,C9];omega
def Ma(k:Nat):(k:Int).tmod 32=((k%32:Nat):Int):=rfl
def u9{a b ia ib:Nat}[ha:BN a ia][hb:BN b ib](hi:ia<=1000000000:=by decide)(hj:ib<=1000000000:=by decide):PF GB prog 239 [dN a,dN b] (dN (a*b)):=by
 have hla:=fj (dg a);have hlb:=fj (dg b);have hba:=th ha.h hi;have hbb:=th hb.h hj;refine fn (fu:=⟨6⟩) func239 J J ntmps239 J J (fun C=>?_);refine mg (fu:=⟨4⟩) (X:=Unit) (fun _=>[(0, .d (dN a)),(1, .d (dN b))]) (fun _=>[]) (fun _=>True) [0,1] [] rfl ?_ (fun _=>J) (fun _ hm=>?_)
 .
  refine gx J<|?_;refine cs 15 J J J (fun hg15=>?_) (fun hg15=>?_)
  .
   refine br J J J (fun hc19=>?_) (fun hc19=>?_)
   .
    have hd0:=gF a 0;have hd1:=gF b 0;refine ix _ J (gh (k:=0) J (by omega)) J<|ix (hv:=by simp only[ah];exact⟨by omega,⟨(MR _ _),(Ix (gF _ _) (gF _ _))⟩⟩) _ J (gh (k:=0) J (by omega)) J<|cl J (qE (u:=(dg a).getD 0 0*(dg b).getD 0 0) (by have:=Hh (gF a 0) (gF b 0);omega)) J<|?_;exact rz J (by rw[vS (by omega),vS (by omega)];rfl)
   .
    exact at_ () trivial
  .
   exact at_ () trivial
 .
  refine aA 31 (.d (vI ((dg a).length:Nat))) J (by rw[hla];rfl) ?_;refine gx (fu:=⟨2⟩) J<|?_;refine aA 33 (.d (vI ((dg b).length:Nat))) J (by rw[hlb];rfl) ?_;refine gx J<|mk (fu:=⟨8⟩) ((List.replicate ((dg a).length+(dg b).length) 0).map dU) J J (by rw[<-uY];rfl) J<|?_;refine aA 37 (.d (vI ((dg a).length:Nat))) J (by rw[hla];rfl) ?_;refine gx J<|?_;refine lp (X:=List Nat×Nat) (fun⟨W,i⟩=>[(0, .d (dN a)),(1, .d (dN b)),(5, .rw 35),(36, .d (dN a)),(37, .d (vI ((dg a).length:Nat))),(38, .d (vI (i:Nat)))]) (fun⟨W,i⟩=>[(35,some (.b 366 1 (W.map dU) true))]) (fun⟨W,i⟩=>W.length=(dg a).length+(dg b).length/\bu W/\i<=(dg a).length/\dv (W.take (i+(dg b).length))=dv ((dg a).take i)*b) (fun⟨W,i⟩=>(dg a).length-i) ⟨List.replicate ((dg a).length+(dg b).length) 0,0⟩ J ⟨by simp, .replicate _,by omega,by rw[List.take_replicate,wD];simp[dv]⟩ (fun _=>J) (fun⟨W,i⟩ hk=>?_);dsimp only at hk⊢;obtain⟨h1,h2,h3,h4⟩:=hk;refine br J J J (fun hc39=>?_) (fun hc39=>?_)
  .
   refine ix (fu:=⟨15⟩) _ J (mI (by omega)) J<|?_;refine aA 44 (.d (vI ((dg b).length:Nat))) J (by rw[hlb];rfl) ?_;refine gx J<|?_;refine lp (X:=List Nat×Nat×Nat) (fun⟨W2,c,k⟩=>[(0, .d (dN a)),(1, .d (dN b)),(5, .rw 35),(6, .d (vI (i:Nat))),(7, .d (dU ((dg a).getD i 0))),(8, .d (.v (.int .u64 (c:Nat)))),(36, .d (dN a)),(37, .d (vI ((dg a).length:Nat))),(38, .d (vI (i:Nat))),(43, .d (dN b)),(44, .d (vI ((dg b).length:Nat))),(45, .d (vI (k:Nat)))]) (fun⟨W2,c,k⟩=>[(35,some (.b 366 1 (W2.map dU) true))]) (fun⟨W2,c,k⟩=>W2.length=(dg a).length+(dg b).length/\bu W2/\c<4294967296/\k<=(dg b).length/\dv (W2.take (i+(dg b).length))+4294967296^(i+k)*c=dv ((dg a).take i)*b+(dg a).getD i 0*(4294967296^i*dv ((dg b).take k))) (fun⟨W2,c,k⟩=>(dg b).length-k) ⟨W,0,0⟩ J ⟨h1,h2,by omega,by omega,by rw[h4];simp[dv]⟩ (fun _=>J) (fun⟨W2,c,k⟩ hk=>?_);dsimp only at hk⊢;obtain⟨g1,g2,g3,g4,g5⟩:=hk;have hlw:=fj W2;have hw:=g2.get (i+k);have hda:=gF a i;have hdb:=gF b k;refine br (fu2:=⟨10⟩) J J J (fun hc46=>?_) (fun hc46=>?_)
   .
    refine ix (fu:=⟨12⟩) (hv:=by simp only[ah];exact⟨⟨by omega,by omega⟩,⟨(MR _ _),(Ix (gF _ _) (gF _ _))⟩⟩) _ J (mI (by omega)) J<|?_;obtain⟨p,hp⟩: ∃p,p=(dg a).getD i 0*(dg b).getD k 0:=⟨_,rfl⟩;have hp1:p<=18446744065119617025:=hp▸Hh hda hdb;refine aA 54 (.d (.v (.int .u64 (p:Nat)))) J (by rw[hp,jQ]) ?_;refine gx J<|lb (fu:=⟨4⟩) _ J (gh (k:=i+k) (by omega) (by omega)) J<|?_;obtain⟨t,ht⟩: ∃t,t=p+W2.getD (i+k) 0+c:=⟨_,rfl⟩;refine aA 64 (.d (.v (.int .u64 (t:Nat)))) J (by congr 3;omega) ?_;refine gx (fu:=⟨11⟩) J<|?_;refine aA 70 (.d (dU (t%4294967296))) J (by show FX.d (.v (.int _ _))= .d (.v (.int _ _));congr 3) ?_;refine gx J<|sb (fu:=⟨5⟩) (hv:=by simp only[ah];exact(by decide)) _ ((W2.set (i+k) (t%4294967296)).map dU) J (gh (k:=i+k) (by omega) (by omega)) J (by(rw[show((i:Int)+k).toNat=i+k by omega,<-tw])<;>rfl) J<|?_;refine aA 73 (.d (.v (.int .u64 (t/4294967296:Nat)))) J (by rw[FA]) ?_;refine gx J<|?_;exact at_ ⟨W2.set (i+k) (t%4294967296),t/4294967296,k+1⟩ (by dsimp only;exact⟨⟨by simpa using g1,g2.set _ (by omega),by omega,by omega,by rw[iC];exact Zv (by omega) (by omega) g5 ht hp⟩,(by omega)⟩)
   .
    obtain rfl:k=(dg b).length:=by omega
    refine aA 78 (.d (vI ((dg b).length:Nat))) J (by rw[hlb];rfl) ?_;refine gx (fu:=⟨3⟩) J<|?_;refine aA 81 (.d (dU c)) J (by show FX.d (.v (.int _ _))= .d (.v (.int _ _));congr 3;omega) ?_;refine gx J<|sb _ ((W2.set (i+(dg b).length) c).map dU) J (gh (k:=i+(dg b).length) (by omega) (by omega)) J (by(rw[show((i:Int)+((dg b).length:Nat)).toNat=i+(dg b).length by omega,<-tw])<;>rfl) J<|?_;exact at_ ⟨W2.set (i+(dg b).length) c,i+1⟩ (by dsimp only;exact⟨⟨by simpa using g1,g2.set _ g3,by omega,auH J (by omega) g5⟩,(by omega)⟩)
  .
   obtain rfl:i=(dg a).length:=by omega
   refine fz 35 J J<|cl J (qC (ds:=W) (by omega)) J<|?_;exact rz J (qG h2 (by have:=h4;rw[n8 (by omega),n8 (by omega),cj] at this;exact this))
def Ib(x s:Nat):x*2^s=x*2^s%4294967296+4294967296*(x*2^s/4294967296):=by omega
def Ze{x s:Nat}(hx:x<4294967296)(hs:s<32):x*2^s/4294967296<2^s:=by
 rw[kK (by decide),bM (2^s)];exact nQ hx (aN _) (fX (by decide))
def D9{s:Nat}(hs:s<32):2^s*2^(32-s)=4294967296:=by rw[<-fJ,show s+(32-s)=32 by omega]
def QA(x s:Nat)(hs:s<32):x*2^s%4294967296=x%2^(32-s)*2^s:=by
 rw[<-D9 hs,bM (2^s),rU]
def Yh{x s:Nat}(hx:x<4294967296)(hs:s<32):x*2^s<18446744073709551616:=by
 have h1:2^s<=2^31:=bZ (by decide) (by omega);have:=nQ hx h1 (by decide);omega
def PJ{w x s:Nat}(hw:w<2^s)(hs:s<32):(BitVec.ofInt 32 (w:Int) ||| BitVec.ofInt 32 ((x*2^s%4294967296:Nat):Int)).toNat=w+x*2^s%4294967296:=by
 rw[QA x s hs];refine wG 32 _ _ _ hw ?_;have h1:x%2^(32-s)+1<=2^(32-s):=cN _ (fX (by decide));have h2:=bX (2^s) h1;rw[bM (2^(32-s)),D9 hs,cY,mY] at h2;show _<4294967296;omega
def Se{h:Nat}(hh:h<4294967296):(BitVec.ofInt 32 ((0:Nat):Int) ||| BitVec.ofInt 32 (h:Int)).toNat=h:=by
 have:=wG 32 0 h 0 (by decide) (by simpa using hh);simpa using this
def EZ(k:Nat):2^k=4294967296^(k/32)*2^(k%32):=by
 rw[show(4294967296:Nat)=2^32 from J,<-pX,<-fJ,qW]
def getD_set_ne{W:List Nat}{i j d:Nat}(h:i≠j):(W.set i d).getD j 0=W.getD j 0:=by
 rw[aK,aK,List.getElem?_set_ne h]
def OG{W:List Nat}{i d:Nat}(h:i<W.length):(W.set i d).getD i 0=d:=by
 rw[aK,rZ h];rfl
def R9{A W:List Nat}{k q s i x:Nat}(hq:q=k/32)(hs:s=k%32)(hl:q+i+1<W.length)(hx:x=A.getD i 0)
  (h:dv (W.take (q+i+1))=dv (A.take i)*2^k):
  dv (((W.set (q+i) (W.getD (q+i) 0+x*2^s%4294967296)).set (q+i+1) (x*2^s/4294967296)).take (q+(i+1)+1))=dv (A.take (i+1))*2^k:=by
 have e1:=HT (W:=W) (j:=q+i) (m:=q+i+1) (d:=W.getD (q+i) 0+x*2^s%4294967296) (by omega) (by omega);rw[show q+(i+1)+1=q+i+1+1 by omega,oP (by rw[aR];omega),iC A,<-hx];have e2:dv ((W.set (q+i) (W.getD (q+i) 0+x*2^s%4294967296)).take (q+i+1))=dv (A.take i)*2^k+4294967296^(q+i)*(x*2^s%4294967296):=by
  rw[dZ,h] at e1;omega
 rw[e2,fS,bS,kN,<-dZ,<-Ib,cY,EZ k,<-hq,<-hs,fJ];simp only[bS,kJ,bM]
def z7{a k ia:Nat}[ha:BN a ia](hk:k<=1000000000)(hi:ia<=1000000000:=by decide):PF GB prog 378 [dN a,vI (k:Nat)] (dN (a*2^k)):=by
 have hla:=fj (dg a);have hba:=th ha.h hi;refine fn (fu:=⟨9⟩) func378 J J ntmps378 J J (fun C=>?_);refine aA 11 (.d (vI (k/32:Nat))) J (by show FX.d (.v (.int _ _))= .d (.v (.int _ _));rw[yg hk]) ?_;refine gx (fu:=⟨2⟩) J<|?_;refine aA 13 (.d (vI ((dg a).length:Nat))) J (by rw[hla];rfl) ?_;refine gx (fu:=⟨2⟩) J<|?_;refine aA 15 (.d (vI (k/32+(dg a).length+1:Nat))) J (by show FX.d (.v (.int _ _))= .d (.v (.int _ _));congr 3) ?_;refine gx J<|mk (fu:=⟨7⟩) (hv:=by simp only[ah];exact(by decide)) ((List.replicate (k/32+(dg a).length+1) 0).map dU) J J (by rw[<-uY];rfl) J<|?_;refine aA 18 (.d (vI (k%32:Nat))) J (by show FX.d (.v (.int _ _))= .d (.v (.int _ _));rw[Ma]) ?_;refine gx (fu:=⟨9⟩) J<|?_;refine aA 21 (.d (vI ((dg a).length:Nat))) J (by rw[hla];rfl) ?_;refine gx J<|?_;refine lp (X:=List Nat×Nat) (fun⟨W,i⟩=>[(0, .d (dN a)),(1, .d (vI (k:Nat))),(5, .rw 16),(6, .d (.v (.int .u64 (k%32:Nat)))),(20, .d (dN a)),(21, .d (vI ((dg a).length:Nat))),(22, .d (vI (i:Nat)))]) (fun⟨W,i⟩=>[(16,some (.b 366 1 (W.map dU) true))]) (fun⟨W,i⟩=>W.length=k/32+(dg a).length+1/\bu W/\i<=(dg a).length/\dv (W.take (k/32+i+1))=dv ((dg a).take i)*2^k/\W.getD (k/32+i) 0<2^(k%32)/\ ∀j,k/32+i<j->W.getD j 0=0) (fun⟨W,i⟩=>(dg a).length-i) ⟨List.replicate (k/32+(dg a).length+1) 0,0⟩ J ⟨by simp, .replicate _,by omega,by rw[List.take_replicate,wD];simp[dv],by rw[JK];exact fX (by decide),fun j _=>JK _ _⟩ (fun _=>J) (fun⟨W,i⟩ hk=>?_);dsimp only at hk⊢;obtain⟨h1,h2,h3,h4,h5,h6⟩:=hk;have hlw:=fj W;have hda:=gF a i;have hsk:k%32<32:=cN _ (by decide)
 have hpp:2^(k%32)<=2^31:=bZ (by decide) (by omega);refine br J J J (fun hc23=>?_) (fun hc23=>?_)
 .
  refine ix (fu:=⟨11⟩) (hv:=by simp only[ah];exact⟨by omega,(by omega)⟩) _ J (mI (by omega)) J<|?_;have hhi:=Ze hda hsk;have hfit0:=Yh hda hsk;have hor:=PJ (x:=(dg a).getD i 0) h5 hsk;have hfit:W.getD (k/32+i) 0+(dg a).getD i 0*2^(k%32)%4294967296<4294967296:=by rw[<-hor];exact BitVec.isLt _
  have hlp:=Ib ((dg a).getD i 0) (k%32);refine aA 30 (.d (.v (.int .u64 ((dg a).getD i 0*2^(k%32):Nat)))) J (by show FX.d (.v (.int _ _))= .d (.v (.int _ _));rw[pP _ (k%32) (by omega) hfit0 (by omega)]) ?_;obtain⟨t,ht⟩: ∃t,t=(dg a).getD i 0*2^(k%32):=⟨_,rfl⟩;simp only[<-ht] at hhi hfit0 hor hfit hlp;rw[<-ht];refine gx (fu:=⟨8⟩) J<|?_;refine aA 33 (.d (vI (k/32:Nat))) J (by show FX.d (.v (.int _ _))= .d (.v (.int _ _));rw[yg hk]) ?_;refine gx J<|lb (fu:=⟨2⟩) _ J (gh (k:=k/32+i) (by omega) (by omega)) J<|?_;refine aA 39 (.d (dU (t%4294967296))) J (by show FX.d (.v (.int _ _))= .d (.v (.int _ _));congr 3) ?_;refine gx (fu:=⟨1⟩) J<|?_;refine aA 40 _ J (congrArg (fun z:Nat=>FX.d (.v (.int .u32 (z:Int)))) hor) ?_;refine gx J<|sb (fu:=⟨6⟩) _ ((W.set (k/32+i) (W.getD (k/32+i) 0+t%4294967296)).map dU) J (gh (k:=k/32+i) (by omega) (by omega)) J (by(rw[show(((k/32:Nat):Int)+i).toNat=k/32+i by omega];simp only[pV];rfl)<;>rfl) J<|?_;refine aA 44 (.d (vI (k/32:Nat))) J (by show FX.d (.v (.int _ _))= .d (.v (.int _ _));rw[yg hk]) ?_;refine gx J<|lb (fu:=⟨0⟩) _ J (gh (k:=k/32+i+1) (by omega) (by rw[aR];omega)) J<|?_;refine aA 49 (.d (dU 0)) J (by rw[getD_set_ne (by omega),h6 _ (by omega)]) ?_;refine gx (fu:=⟨2⟩) (hv:=by simp only[ah];exact(by decide)) J<|?_;refine aA 51 (.d (.v (.int .u64 (t/4294967296:Nat)))) J (by rw[FA]) ?_;refine gx (fu:=⟨1⟩) J<|?_;refine aA 52 (.d (dU (t/4294967296))) J (by show FX.d (.v (.int _ _))= .d (.v (.int _ _));congr 3;omega) ?_;refine gx (fu:=⟨1⟩) J<|?_;refine aA 53 _ J (congrArg (fun z:Nat=>FX.d (.v (.int .u32 (z:Int)))) (Se (by omega))) ?_
  refine gx J<|sb _ (((W.set (k/32+i) (W.getD (k/32+i) 0+t%4294967296)).set (k/32+i+1) (t/4294967296)).map dU) J (gh (k:=k/32+i+1) (by omega) (by rw[aR];omega)) J (by(rw[show(((k/32:Nat):Int)+i+1).toNat=k/32+i+1 by omega];simp only[pV];rfl)<;>rfl) J<|?_;exact at_ ⟨(W.set (k/32+i) (W.getD (k/32+i) 0+t%4294967296)).set (k/32+i+1) (t/4294967296),i+1⟩ (by dsimp only;exact⟨⟨by simpa using h1,(h2.set _ hfit).set _ (by omega),by omega,by have q:=R9 (x:=(dg a).getD i 0) J J (by omega) J h4;rw[<-ht] at q;exact q,by rw[show k/32+(i+1)=k/32+i+1 by omega,OG (by simp;omega)];exact hhi,fun j hj=>by rw[getD_set_ne (by omega),getD_set_ne (by omega)];exact h6 j (by omega)⟩,(by omega)⟩)
 .
  obtain rfl:i=(dg a).length:=by omega
  refine fz 16 J J<|cl J (qC (ds:=W) (by omega)) J<|?_;exact rz J (qG h2 (by have:=h4;rw[n8 (by omega),n8 (by omega),cj] at this;exact this))
def ap1{a k:Nat}(h:(dg a).length<=k/32):a/2^k=0:=by
 refine jS ?_;have h1:=i6 (kH a);rw[cj] at h1;have h2:4294967296^(dg a).length<=4294967296^(k/32):=bZ (by decide) h;have h3:4294967296^(k/32)*1<=4294967296^(k/32)*2^(k%32):=fY _ (fX (by decide));rw[EZ k];omega
def Cx{ds:List Nat}(h:bu ds)(q:Nat):dv (ds.drop q)=dv ds/4294967296^q:=by
 rcases iR ds.length q with hq|hq
 ·rw[oW (by omega)]
  have h1:=i6 h;have h2:4294967296^ds.length<=4294967296^q:=bZ (by decide) (by omega);rw[jS (by omega)];rfl
 ·have e:=AB ds q hq
  have h1:=i6 (h.take q);rw[cK,fM hq] at h1;rw[e,mJ _ _ (fX (by decide)),jS h1,dR]
def EL{ds:List Nat}(h:bu ds)(i:Nat):dv ds/4294967296^i=ds.getD i 0+4294967296*ds.getD (i+1) 0+18446744073709551616*(dv ds/4294967296^(i+2)):=by
 have e0:=Cx h i;have e2:=Cx h (i+2);rw[<-e0,<-e2];have g0:ds.getD i 0=(ds.drop i).getD 0 0:=by rw[aK,aK,lS];rfl
 have g1:ds.getD (i+1) 0=(ds.drop i).getD 1 0:=by rw[aK,aK,lS]
 have g2:ds.drop (i+2)=(ds.drop i).drop 2:=by rw[sU]
 rw[g0,g1,g2]
 match ds.drop i with
 |[]=>rfl
 |[u]=>simp[dv]
 |u::v::t=>simp only[dv,sW,lY,sV,jY];omega
def UB{D s i u v w Z:Nat}(hs:s<32)(hZ:D/4294967296^i=u+4294967296*v+18446744073709551616*Z)(hw:w=(u+v*4294967296)/2^s%4294967296):(D/2^s)%4294967296^(i+1)=(D/2^s)%4294967296^i+4294967296^i*w:=by
 rw[fS,Nat.mod_mul];congr 2;rw[mW,bM (2^s),<-mW,hZ,hw];have h1:18446744073709551616=2^s*(2^(32-s)*4294967296):=by rw[<-bS,D9 hs]
 rw[h1,bS (2^s),mJ _ _ (fX (by decide)),bM v];rw[bM (2^(32-s)),bS,nJ]
def P9{a k:Nat}{W:List Nat}{q s:Nat}(hq:q=k/32)(hs:s=k%32)(hl:W.length=(dg a).length-q)(h:dv (W.take ((dg a).length-q))=(dv ((dg a).drop q)/2^s)%4294967296^((dg a).length-q)):dv W=a/2^k:=by
 rw[n8 (by omega)] at h;have h1:=i6 ((kH a).drop q);rw[gN] at h1;have h2:=kY (dv ((dg a).drop q)) (2^s);rw[h,fK (by omega),Cx (kH a),cj,EZ k,<-hq,<-hs,mW]
def Xz{a k ia:Nat}[ha:BN a ia](hk:k<=1000000000)(hi:ia<=1000000000:=by decide):PF GB prog 379 [dN a,vI (k:Nat)] (dN (a/2^k)):=by
 have hla:=fj (dg a);have hba:=th ha.h hi;refine fn (fu:=⟨10⟩) func379 J J ntmps379 J J (fun C=>?_);refine aA 12 (.d (vI (k/32:Nat))) J (by show FX.d (.v (.int _ _))= .d (.v (.int _ _));rw[yg hk]) ?_;refine gx (fu:=⟨2⟩) J<|?_;refine aA 14 (.d (vI ((dg a).length:Nat))) J (by rw[hla];rfl) ?_;refine gx J<|?_;refine br (fu2:=⟨6⟩) (v2:=fun _=>by simp only[ah];exact(by decide)) J J J (fun hc15=>?_) (fun hc15=>?_)
 .
  exact rz J (by rw[ap1 (by omega),NY];rfl)
 .
  refine aA 17 (.d (vI (k%32:Nat))) J (by show FX.d (.v (.int _ _))= .d (.v (.int _ _));rw[Ma]) ?_;refine gx (fu:=⟨9⟩) J<|?_;refine aA 21 (.d (vI (k/32:Nat))) J (by show FX.d (.v (.int _ _))= .d (.v (.int _ _));rw[yg hk]) ?_;refine gx J<|yi (fu:=⟨0⟩) (k/32) (dg a).length _ J J (by rw[hla]) J (um _) (by omega) (by omega) J<|?_;obtain⟨I,hI⟩: ∃I,I=(dg a).drop (k/32):=⟨_,rfl⟩;have hIl:I.length=(dg a).length-k/32:=by rw[hI,gN]
  have hIm:=fj I;have hIo:bu I:=hI▸(kH a).drop _;refine aA 22 (.d (fk I)) J (by show FX.d (.sl _)= .d (.sl _);rw[hI,<-hla,iQ,List.map_drop]) ?_;refine gx (fu:=⟨7⟩) J<|?_;refine aA 24 (.d (vI (I.length:Nat))) J (by rw[hIm];rfl) ?_;refine gx J<|mk (fu:=⟨8⟩) ((List.replicate I.length 0).map dU) J J (by rw[<-uY];rfl) J<|?_;refine aA 27 (.d (vI (I.length:Nat))) J (by rw[hIm];rfl) ?_;refine gx J<|?_;refine lp (X:=List Nat×Nat) (fun⟨W,i⟩=>[(0, .d (dN a)),(5, .d (.v (.int .u64 (k%32:Nat)))),(6, .d (fk I)),(7, .rw 25),(26, .d (fk I)),(27, .d (vI (I.length:Nat))),(28, .d (vI (i:Nat)))]) (fun⟨W,i⟩=>[(25,some (.b 366 1 (W.map dU) true))]) (fun⟨W,i⟩=>W.length=I.length/\bu W/\i<=I.length/\dv (W.take i)=(dv I/2^(k%32))%4294967296^i) (fun⟨W,i⟩=>I.length-i) ⟨List.replicate I.length 0,0⟩ J ⟨by simp, .replicate _,by omega,by simp[dv,Nat.mod_one]⟩ (fun _=>J) (fun⟨W,i⟩ hk=>?_);dsimp only at hk⊢;obtain⟨h1,h2,h3,h4⟩:=hk;have hlw:=fj W;have hda:=hIo.get i;have hdb:=hIo.get (i+1);have hsk:k%32<32:=cN _ (by decide);refine br J J J (fun hc29=>?_) (fun hc29=>?_)
  .
   refine ix (fu:=⟨13⟩) _ J (mI (by omega)) J<|?_;refine mg (fu:=⟨6⟩) (hv:=fun _ _=>by simp only[ah];exact(by omega)) (X:=Unit) (fun _=>[(0, .d (dN a)),(5, .d (.v (.int .u64 (k%32:Nat)))),(6, .d (fk I)),(7, .rw 25),(26, .d (fk I)),(27, .d (vI (I.length:Nat))),(28, .d (vI (i:Nat))),(8, .d (vI (i:Nat))),(10, .d (.v (.int .u64 (I.getD i 0+I.getD (i+1) 0*4294967296:Nat))))]) (fun _=>[(25,some (.b 366 1 (W.map dU) true))]) (fun _=>True) [0,5,6,7,26,27,28,8,10] [25] rfl ?_ (fun _=>J) (fun _ hm=>?_)
   .
    refine gx (fu:=⟨6⟩) J<|?_;refine aA 38 (.d (vI (I.length:Nat))) J (by rw[hIm];rfl) ?_;refine gx J<|?_;refine br J J J (fun hc39=>?_) (fun hc39=>?_)
    .
     refine ix (fu:=⟨3⟩) (hv:=by simp only[ah];exact⟨by omega,(by decide)⟩) _ J (gh (k:=i+1) (by omega) (by omega)) J<|?_;refine aA 47 (.d (.v (.int .u64 (I.getD (i+1) 0*4294967296:Nat)))) J (by show FX.d (.v (.int _ _))= .d (.v (.int _ _));rw[pP _ 32 (by decide) (by show _*4294967296<_;omega) J]) ?_;refine gx (fu:=⟨1⟩) J<|?_;refine aA 48 _ J (congrArg (fun z:Nat=>FX.d (.v (.int .u64 (z:Int)))) (wG 64 (I.getD i 0) (I.getD (i+1) 0) 32 hda (by show _+_*4294967296<18446744073709551616;omega))) ?_;refine gx J<|?_;exact at_ () trivial
    .
     refine aA 10 (.d (.v (.int .u64 (I.getD i 0+I.getD (i+1) 0*4294967296:Nat)))) J (by rw[tG (by omega:I.length<=i+1),kW,eK]) ?_;exact at_ () trivial
   .
    refine aA 53 (.d (.v (.int .u64 ((I.getD i 0+I.getD (i+1) 0*4294967296)/2^(k%32):Nat)))) J (by show FX.d (.v (.int _ _))= .d (.v (.int _ _));rw[rP _ (k%32) (by omega) (by omega)]) ?_;refine gx (fu:=⟨1⟩) J<|?_;obtain⟨w,hw⟩: ∃w,w=(I.getD i 0+I.getD (i+1) 0*4294967296)/2^(k%32)%4294967296:=⟨_,rfl⟩;have hw1:w<4294967296:=hw▸cN _ (by decide);refine aA 54 (.d (dU w)) J (by show FX.d (.v (.int _ _))= .d (.v (.int _ _));rw[hw];congr 3) ?_;refine gx J<|sb _ ((W.set i w).map dU) J (mI (by omega)) J (by(rw[<-tw];rfl)<;>rfl) J<|?_;exact at_ ⟨W.set i w,i+1⟩ (by dsimp only;exact⟨⟨by simpa using h1,h2.set _ (by omega),by omega,by rw[oP (by omega),h4];exact(UB hsk (EL hIo i) hw).symm⟩,(by omega)⟩)
  .
   refine fz 25 J J<|cl J (qC (ds:=W) (by omega)) J<|?_;exact rz rfl (qG h2 (by obtain rfl:i=I.length:=(by omega);rw[hIl] at h1 h4;rw[hI] at h4;exact P9 rfl rfl h1 h4))
def Ae{a k:Nat}(h:a<4294967296^k):(dg a).length<=k:=by
 rcases iR k (dg a).length with q|q
 ·have h1:=qh (d9 a).2.2 (by intro e;rw[e] at q;simp at q)
  rw[cj] at h1;have h2:4294967296^k<=4294967296^((dg a).length-1):=bZ (by decide) (by omega);omega
 ·exact q
def Zt{a:Nat}(h:(dg a).length=2):(dg a).getD 0 0+(dg a).getD 1 0*4294967296=a:=by
 have e:=cj a;revert e
 match dg a,h with
 |[x,y],_=>intro e;simp[dv] at e⊢;omega
def yn(a:Nat):DV:= .tp [.v (.int .u64 ((if a<18446744073709551616 then a else 0:Nat):Int)),vB (decide (a<18446744073709551616))]
def L3{a:Nat}(h:a<18446744073709551616):yn a= .tp [.v (.int .u64 (a:Int)),vB true]:=by unfold yn;rw[if_pos h,decide_eq_true h]
def Wi{a:Nat}(h: ¬a<18446744073709551616):yn a= .tp [.v (.int .u64 0),vB false]:=by unfold yn;rw[if_neg h,decide_eq_false h];rfl
def tK(a:Nat):a<4294967296^(dg a).length:=by have:=i6 (kH a);rwa [cj] at this
def BT{a ia:Nat}[ha:BN a ia](hi:ia<=1000000000:=by decide):PF GB prog 282 [dN a] (yn a):=by
 have hla:=fj (dg a);have hba:=th ha.h hi;have hlt:=tK a;have hd00:=gF a 0;refine fn (fu:=⟨11⟩) func282 J J ntmps282 J J (fun C=>?_);refine aA 5 (.d (vI ((dg a).length:Nat))) J (by rw[hla];rfl) ?_;refine gx J<|?_;refine br J J J (fun hc6=>?_) (fun hc6=>?_)
 .
  exact rz rfl (by rw[show(dg a).length=0 by omega] at hlt;obtain rfl:a=0:=(by omega);rfl)
 .
  refine br J J J (fun hc8=>?_) (fun hc8=>?_)
  .
   refine ix (fu:=⟨2⟩) _ J (gh (k:=0) J (by omega)) J<|?_;refine aA 13 (.d (.v (.int .u64 (a:Nat)))) J (by rw[vS (by omega)]) ?_;refine gx J<|?_;exact rz J (by rw[show(dg a).length=1 by omega] at hlt;rw[L3 (by omega),<-vS (a:=a) (by omega),vS (a:=a) (by omega)];rfl)
  .
   refine br J J J (fun hc14=>?_) (fun hc14=>?_)
   .
    have hd0:=gF a 0;have hd1:=gF a 1;refine ix (hv:=by simp only[ah];exact⟨by omega,(by decide)⟩) _ J (gh (k:=1) J (by omega)) J<|ix (fu:=⟨3⟩) _ J (gh (k:=0) J (by omega)) J<|?_;refine aA 25 (.d (.v (.int .u64 (a:Nat)))) J (congrArg (fun z:Nat=>FX.d (.v (.int .u64 (z:Int)))) (by rw[pP _ 32 (by decide) (by show _*4294967296<_;omega) J,BitVec.or_comm];exact(wG 64 ((dg a).getD 0 0) ((dg a).getD 1 0) 32 hd0 (by show _+_*4294967296<18446744073709551616;omega)).trans (Zt (by omega)))) ?_;refine gx J<|?_;exact rz J (by rw[show(dg a).length=2 by omega] at hlt;rw[L3 (by omega)];rfl)
   .
    exact rz rfl (by rw[Wi];rfl;intro h;have:=Ae (a:=a) (k:=2) (by omega);omega)
def KH{G:Gh}{ds:List Nat}{v:Value}(hd:bu ds)(h:Is G (fk ds) v): ∃x:SV,v=x.v/\cg G x ds:=by
 obtain⟨x,rfl,h1⟩:=JI.1 h;exact⟨x,J,hd,h1⟩
def fg.is{G:Gh}{k n:Nat}{z:SV}(h:fg k G z n):Is G (dN n) z.v:=(Hn h.lt).2 ⟨z,J,h⟩
def x8{G:Gh}{ds:List Nat}{vs:List Value}(hd:bu ds)(h:IsLs G [fk ds] vs): ∃x:SV,vs=[x.v]/\cg G x ds:=by
 obtain⟨v,m,rfl,h1,h2⟩:=aO.1 h
 cases cB.1 h2
 obtain⟨x,rfl,h3⟩:=KH hd h1;exact⟨x,J,h3⟩
def xI{G:Gh}{a b:Nat}{vs:List Value}(h:IsLs G [dN a,dN b] vs): ∃x y:SV,vs=[x.v,y.v]/\cg G x (dg a)/\cg G y (dg b):=by
 obtain⟨v,m,rfl,h1,h2⟩:=aO.1 h;obtain⟨y,rfl,h4⟩:=x8 (d9 b).2.1 h2;obtain⟨x,rfl,h3⟩:=KH (d9 a).2.1 h1;exact⟨x,y,J,h3,h4⟩
section
variable {GB:Gh} {a b i j:Nat}
def l6[h:BN a i](hi:i<=1000000000):(dg a).length<=31250001:=by have:=ma h.h;omega
def Kx{ds:List Nat}(hd:bu ds)(hl:ds.length<=1125899906842624):PF GB prog 348 [fk ds] (vB (decide (d4 ds))):=fun G vs _ hv=>by
 obtain⟨x,rfl,hx⟩:=x8 hd hv;exact(W4 hx hl).mono fun v G' _ h=>aF.2 h
def sk[h:BN a i](hi:i<=1000000000:=by decide):PF GB prog 310 [dN a] (vI (bl a:Nat)):=fun G vs _ hv=>by
 obtain⟨x,rfl,hx⟩:=x8 (d9 a).2.1 hv;have:=l6 (a:=a) hi;exact(W8 hx (by omega)).mono fun v G' _ h=>aF.2 (by rw[h,cj])
def vx[h:BN a i](hi:i<=1000000000:=by decide):PF GB prog 308 [dN a] (dN a):=fun G vs _ hv=>by
 obtain⟨x,rfl,hx⟩:=x8 (d9 a).2.1 hv;have:=l6 (a:=a) hi;refine(E7 (k:=i) hx (by rw[cj];exact h.h) (by omega)).mono fun v G' _ h=>?_;obtain⟨z,rfl,h⟩:=h;rw[cj] at h;exact h.is
def GP(h:a<18446744073709551616):PF GB prog 309 [.v (.int .u64 (a:Nat))] (dN a):=fun G vs _ hv=>by
 obtain⟨v,m,rfl,h1,h2⟩:=aO.1 hv
 cases cB.1 h2
 rw[aF.1 h1];refine(EE h).mono fun v G' _ h=>?_;obtain⟨z,rfl,h⟩:=h;exact h.is
def Eh(h:a<18446744073709551616):PF GB prog 315 [dN a] (.tp [.v (.int .u64 (a:Nat)),vB true]):=fun G vs _ hv=>by
 obtain⟨x,rfl,hx⟩:=x8 (d9 a).2.1 hv;have:BN a 64:=⟨h⟩;have:=l6 (a:=a) (i:=64) (by decide);refine(EN hx (by omega)).mono fun v G' _ e=>?_;rw[cj,if_pos h,decide_eq_true h] at e;subst e;exact je.2 ⟨_,J, .cons (aF.2 J) (.cons (aF.2 J) .nil)⟩
def Zx[h:BN a i][k:BN b j](hi:i<=1000000000:=by decide)(hj:j<=1000000000:=by decide):PF GB prog 362 [dN a,dN b] (dN (a+b)):=fun G vs _ hv=>by
 obtain⟨x,y,rfl,hx,hy⟩:=xI hv;have:=l6 (a:=a) hi;have:=l6 (a:=b) hj;refine(ZE (kk:=i+j+1) hx hy (by rw[cj,cj];exact AM h.h k.h) (by omega) (by omega)).mono fun v G' _ h=>?_;obtain⟨z,rfl,h⟩:=h;rw[cj,cj] at h;exact h.is
def O8[h:BN a i][k:BN b j](hi:i<=1000000000:=by decide)(hj:j<=1000000000:=by decide):PF GB prog 363 [dN a,dN b] (.tp [dN (a-b),vB (decide (b<=a))]):=fun G vs _ hv=>by
 obtain⟨x,y,rfl,hx,hy⟩:=xI hv;have:=l6 (a:=a) hi;have:=l6 (a:=b) hj;refine(Y3 (kk:=i) hx hy (by rw[cj];exact h.h) (by omega) (by omega)).mono fun v G' _ h=>?_;obtain⟨z,rfl,h⟩:=h;rw[cj,cj] at h⊢;exact je.2 ⟨_,J, .cons h.is (.cons (aF.2 J) .nil)⟩
def vH[h:BN a i][k:BN b j](hi:i<=1000000000:=by decide)(hj:j<=1000000000:=by decide):PF GB prog 302 [dN a,dN b] (dN (a*b)):=fun G vs _ hv=>by
 obtain⟨x,y,rfl,hx,hy⟩:=xI hv;have:=l6 (a:=a) hi;have:=l6 (a:=b) hj;refine(YH (kk:=i+j) hx hy (by rw[cj,cj];exact l8 h.h k.h) (by omega) (by omega)).mono fun v G' _ h=>?_;obtain⟨z,rfl,h⟩:=h;rw[cj,cj] at h;exact h.is
def NS[h:BN a i][k:BN b j](hb:0<b)(hi:i<=1000000000:=by decide)(hj:j<=1000000000:=by decide):PF GB prog 313 [dN a,dN b] (.tp [dN (a/b),dN (a%b),vB true]):=fun G vs _ hv=>by
 obtain⟨x,y,rfl,hx,hy⟩:=xI hv;have:=l6 (a:=a) hi;have:=l6 (a:=b) hj;refine(Cz (k1:=i) (k2:=j) hx hy (by rw[cj];exact hb) (by rw[cj,cj];exact fZ (kY _ _) h.h) (by rw[cj,cj];exact pY (cN _ hb) k.h) (by omega) (by omega)).mono fun v G' _ h=>?_;obtain⟨z,r,rfl,h,h'⟩:=h;rw[cj,cj] at h h';exact je.2 ⟨_,J, .cons h.is (.cons h'.is (.cons (aF.2 J) .nil))⟩
def Ef[h:BN a i][k:BN b j](hi:i<=1000000000:=by decide)(hj:j<=1000000000:=by decide):PF GB prog 312 [dN a,dN b] (dN (Nat.gcd a b)):=fun G vs _ hv=>by
 obtain⟨x,y,rfl,hx,hy⟩:=xI hv;have:=l6 (a:=a) hi;have:=l6 (a:=b) hj;have e: ∀k',k'<=i+j->(2:Nat)^k'<=2^(i+j):=fun k' h=>bZ (by decide) h;have:=e i (by omega);have:=e j (by omega);have:=h.h;have:=k.h;refine(azz (k:=i+j) (k0:=i+j) hx hy (by rw[cj];omega) (by rw[cj];omega) (by omega) (by rw[cj,cj];exact CX h.h k.h) (by omega) (by omega)).mono fun v G' _ h=>?_;obtain⟨z,rfl,h⟩:=h;rw[cj,cj] at h;exact h.is
end
section
variable {GB:Gh} {C:aC} {n:Nat} {Q0:Exit->Act->World->Prop} {fr fr' fr1 fr2:aw} {own own' own1 own2:aH} {cf cf' cf1 cf2:Cf} {vc vc1 vc2:List Prop}
def iA{fb:Func}{e:Exit}{ds:List DV}{rv:DV}(hr:px tt fr own fb.results.toList=some ds)(hd: ∀G y,Is G (iw ds) y->Is G rv y)(he:yQ e=true:=by rfl):ak prog GB C n (f7 C prog fb (i7 C (fun v G'=>Is G' rv v))) fr own (.ex e []):=by
 refine⟨fun ρ G ov a w r=>?_⟩;obtain⟨vs,h1,h2⟩:=yD r hr;have hk:Is G rv (gu vs):=hd _ _ (xK h2)
 cases e with
 |ret=>exact zD (C:=C) (n:=n) (fr:=cA a) (own:=ov) (G:=G) (K:=fun v G'=>Is G' rv v) h1 hk a w ⟨r.h,r.sz,cG a,r.df⟩
 |normal=>exact LF (C:=C) (n:=n) (fr:=cA a) (own:=ov) (G:=G) (K:=fun v G'=>Is G' rv v) h1 hk a w ⟨r.h,r.sz,cG a,r.df⟩
 |_=>cases he
def K7(fr:aw)(cf:Cf):Option (Int×IntKind):=match cb fr cf with
 |some ⟨_, .convert t t' x,_,_,_,_⟩=>match dh tt t,dh tt t',aI (bw fr cf) x with
  |some ⟨.int k,_,_,_⟩,some ⟨.int k',_,_,_⟩,some (.d (.v (.int j p)))=>bif kq k j then some (p,k') else none
  |_,_,_=>none
 |_=>none
def cu[fu:Fu]{p:Int}{k':IntKind}(u:Int)(h:K7 fr cf=some (p,k'))(e:k'.wrap p=u)(hgo:cD tt n fu.n fr own cf (.d (.v (.int k' u))) [] []=⟨vc,fr',own',cf'⟩)(k:ak prog GB C n Q0 fr' own' cf')
  (hv:ah vc:=by first|exact trivial|(simp only[ah];kernel_rfl)|(simp only[ah];omega)):ak prog GB C n Q0 fr own cf:=by
 unfold K7 at h;split at h<;>try (cases h;done)
 rename_i hh;split at h<;>try (cases h;done)
 rename_i k0 _ _ _ k1 _ _ _ j p0 hT hT' hx
 cases hk:kq k0 j with
 |false=>rw[hk] at h;cases h
 |true=>
  rw[hk,cond_true] at h;cases h;cases Al hk;have:=xl (d7 _ _ hT) J;have:=xl (d7 _ _ hT') J;subst e;refine us hh (.x1 hx fun ρ G ov a w y _ r h1 h2=>?_) hgo hv k;rw[c8] at h2;subst h2;exact⟨_,c8.2 J,Aw h1⟩
def MF(fr:aw)(cf:Cf):Option (Int×IntKind):=match cb fr cf with
 |some ⟨_, .unOp .neg _ x,_,_,_,_⟩=>match aI (bw fr cf) x with
  |some (.d (.v (.int j p)))=>some (p,j)
  |_=>none
 |_=>none
def nu[fu:Fu]{p:Int}{k':IntKind}(u:Int)(h:MF fr cf=some (p,k'))(e:k'.wrap (0-p)=u)(hgo:cD tt n fu.n fr own cf (.d (.v (.int k' u))) [] []=⟨vc,fr',own',cf'⟩)(k:ak prog GB C n Q0 fr' own' cf')
  (hv:ah vc:=by first|exact trivial|(simp only[ah];kernel_rfl)|(simp only[ah];omega)):ak prog GB C n Q0 fr own cf:=by
 unfold MF at h;split at h<;>try (cases h;done)
 rename_i hh;split at h<;>cases h;rename_i hx;subst e;exact us hh (.x1 hx fun ρ G ov a w y _ r h1 h2=>by
  rw[c8] at h2;subst h2;exact⟨_,c8.2 J,Dk h1⟩) hgo hv k
end
def Hg{x:Nat}:bl x=0↔x=0:=by
 have:= @ni x 0;simp at this;omega
def vt{a:Nat}:0<(dg a).length↔0<a:=by
 have:= @wV a;omega
def eS(neg:Bool)(a:Nat):DV:= .ag [.v (.bool neg),dN a]
def A1(neg:Bool)(a:Nat):eI (zv neg a)= .ag [.v (.bool (neg&&decide (0<a))),dN a]:=by unfold eI;rw[o4,HV]
def Ur{n:Bool}{u:Nat}{b:Int}(h:n≠decide (b<0))(hle:b.natAbs<=u):zv n (u-b.natAbs)=zv n u+b:=by cases n<;>simp[zv] at* <;>omega
def XP{n:Bool}{u:Nat}{b:Int}(h:n≠decide (b<0))(hle:u<=b.natAbs):zv (decide (b<0)) (b.natAbs-u)=zv n u+b:=by cases n<;>simp[zv] at* <;>(try rw[if_pos h])<;>(try rw[if_neg (by omega)])<;>omega
def Ou{neg:Bool}{ds:List Nat}(hd:bu ds)(hl:ds.length<=1125899906842624):PF GB prog 269 [.ag [.v (.bool neg),fk ds]] (vB (decide (d4 ds/\(neg=true->0<ds.length)))):=by
 refine fn func269 J J ntmps269 J J (fun C=>?_);refine cl J (Kx hd hl) J<|?_;refine csd 6 J J J (fun hg6=>?_) (fun hg6=>?_)
 .
  refine oz 10 J J J (fun hg10=>?_) (fun hg10=>?_)
  .
   exact rz J (by unfold vB;congr 2;simp_all [iw])
  .
   exact rz J (by unfold vB;congr 2;simp_all [iw])
 .
  exact rz J (by unfold vB;congr 2;simp_all [iw])
def OU{n:Bool}{a i:Nat}[h:BN a i](hi:i<=1000000000:=by decide):PF GB prog 311 [eS n a] (vI (zv n a).sign):=by
 refine fn func311 J J ntmps311 J J (fun C=>?_);refine cl J (sk (a:=a) hi) J<|?_;refine br J J J (fun hc3=>?_) (fun hc3=>?_)
 .
  exact rz J (by have:=Hg.1 (Int.ofNat.inj hc3);subst this;cases n<;>rfl)
 .
  refine bb J J J (fun hc8=>?_) (fun hc8=>?_)
  .
   exact rz J (by subst hc8;rw[dY (by have:a≠0:=(fun e=>hc3 (by rw[e];rfl));simp[zv];omega)];rfl)
  .
   exact rz J (by subst hc8;rw[dS (by have:a≠0:=(fun e=>hc3 (by rw[e];rfl));simp[zv];omega)];rfl)
def DA{m:Int}(h0: -9223372036854775808<=m)(h1:m<=9223372036854775807):PF GB prog 289 [vI m] (eI m):=by
 refine fn (fu:=⟨8⟩) func289 J J ntmps289 J J (fun C=>?_);refine cu ((m%18446744073709551616:Int)) J (mi _) J<|?_;refine br (fu1:=⟨2⟩) (fu2:=⟨0⟩) J J J (fun hc7=>?_) (fun hc7=>?_)
 .
  refine nu ((m.natAbs:Nat)) J (by rw[mi];omega) J<|cl J (GP (a:=m.natAbs) (by omega)) J<|?_;exact rz J J
 .
  refine aA 3 (.d (.v (.int .u64 (m.natAbs:Nat)))) J (by congr 3;omega) ?_;refine gx J<|cl J (GP (a:=m.natAbs) (by omega)) J<|?_;exact rz J J
def Ng{n:Bool}{a:Nat}(h:a<4611686018427387904):PF GB prog 314 [eS n a] (.tp [vI (zv n a),vB true]):=by
 refine fn func314 J J ntmps314 J J (fun C=>?_);refine cl (fu:=⟨2⟩) J (Eh (a:=a) (by omega)) J<|fD J J J<|?_;refine oz 18 J J J (fun hg18=>?_) (fun hg18=>?_)
 .
  refine br (fu1:=⟨3⟩) J J J (fun hc12=>?_) (fun hc12=>?_)
  .
   refine nu (fu:=⟨0⟩) (((18446744073709551616-a)%18446744073709551616:Int)) J (by rw[mi];omega) J<|cu (zv n a) J (by subst hg18;rw[C9];simp only[zv,if_true];omega) J<|?_;exact rz J J
  .
   exact absurd (by omega) hc12
 .
  refine oz 32 J J J (fun hg32=>?_) (fun hg32=>?_)
  .
   refine br J J J (fun hc25=>?_) (fun hc25=>?_)
   .
    exact rz J (by subst hg18;rfl)
   .
    exact absurd (by omega) hc25
  .
   subst hg18;cases hg32
def vE{neg:Bool}{a i:Nat}[h:BN a i](hi:i<=1000000000:=by decide):PF GB prog 307 [eS neg a] (eI (zv neg a)):=by
 refine fn func307 J J ntmps307 J J (fun C=>?_);refine cl J (vx hi) J<|?_;refine oz 9 J J J (fun hg9=>?_) (fun hg9=>?_)
 .
  exact rz J (by rw[A1];simp[hg9,vt,iw])
 .
  exact rz J (by rw[A1];simp[hg9,vt,iw])
def B5{neg:Bool}{a:Nat}:PF GB prog 360 [.v (.bool neg),dN a] (eI (zv neg a)):=by
 refine fn func360 J J ntmps360 J J (fun C=>?_);refine oz 6 J J J (fun hg6=>?_) (fun hg6=>?_)
 .
  exact rz J (by rw[A1];simp[hg6,vt,iw])
 .
  exact rz J (by rw[A1];simp[hg6,vt,iw])
def R8{m:Int}{i:Nat}[h:BI m i](hi:i<=1000000000:=by decide):PF GB prog 339 [eI m] (eI (-m)):=by
 refine fn func339 J J ntmps339 J J (fun C=>?_);refine cl J (vE (neg:=!decide (m<0)) (a:=m.natAbs) hi) J<|?_;exact rz J (by rw[X2,kE];rfl)
def FB{a b:Int}{i j:Nat}[h:BI a i][k:BI b j](hi:i<=1000000000:=by decide)(hj:j<=1000000000:=by decide):PF GB prog 301 [eI a,eI b] (eI (a*b)):=by
 refine fn func301 J J ntmps301 J J (fun C=>?_);refine cl J (vH (a:=a.natAbs) (b:=b.natAbs) hi hj) J<|cl J B5 J<|?_;exact rz J (by rw[show(!(decide (a<0)==decide (b<0)))=(decide (a<0) !=decide (b<0)) from J,LN,kE,kE];rfl)
def Uh{n1:Bool}{u:Nat}{b:Int}{i j:Nat}[h:BN u i][k:BI b j](hi:i<=1000000000:=by decide)(hj:j<=1000000000:=by decide):PF GB prog 303 [eS n1 u,eI b] (eI (zv n1 u+b)):=by
 refine fn func303 J J ntmps303 J J (fun C=>?_);refine bb J J J (fun hc13=>?_) (fun hc13=>?_)
 .
  refine cl J (Zx (b:=b.natAbs) hi hj) J<|cl J B5 J<|?_;exact rz J (by rw[Qu,show n1=decide (b<0) from by simpa using hc13,kE];rfl)
 .
  refine cl J (O8 (b:=b.natAbs) hi hj) J<|?_;refine bd J J J (fun hc30=>?_) (fun hc30=>?_)
  .
   refine cl J B5 J<|?_;exact rz J (by rw[Ur (by simpa using hc13) hc30];rfl)
  .
   refine cl J (O8 (a:=b.natAbs) hj hi) J<|cl J B5 J<|?_;exact rz J (by rw[XP (by simpa using hc13) (by omega)];rfl)
def aC2{a b:Int}{i j:Nat}[h:BI a i][k:BI b j](hi:i<=1000000000:=by decide)(hj:j<=1000000000:=by decide):PF GB prog 303 [eI a,eI b] (eI (a+b)):=(Uh (n1:=decide (a<0)) (u:=a.natAbs) hi hj).to (by rw[kE])
def et(q:Rat):Prop:= ¬(q.num.natAbs<4611686018427387904/\q.den<4611686018427387904)
instance (q:Rat):Decidable (et q):=inferInstanceAs (Decidable (¬_))
def dt(q:Rat):Int:=if et q then 0 else q.num
def du(q:Rat):Int:=if et q then 0 else(q.den:Int)-1
def dl(q:Rat):DV:= .op (decide (et q)) [.v (.bool (decide (q.num<0))),dN q.num.natAbs,dN q.den]
def eF(q:Rat):DV:= .ag [vI (dt q),vI (du q),dl q]
abbrev ZQ {q:Rat} (h:decide (et q)=true):et q:=of_decide_eq_true h
abbrev qA {q:Rat} (h:decide (et q)=false): ¬et q:=of_decide_eq_false h
abbrev XK {q:Rat} (h: ¬decide (et q)=false):et q:=by simpa using h
abbrev nC {q:Rat} (h: ¬decide (et q)=true): ¬et q:=by simpa using h
def my{q:Rat}(h: ¬et q):dt q=q.num:=if_neg h
def ou{q:Rat}(h: ¬et q):du q=(q.den:Int)-1:=if_neg h
def oH{q:Rat}(h: ¬et q):q.num.natAbs<4611686018427387904:=(Decidable.not_not.1 h).1
def oC{q:Rat}(h: ¬et q):q.den<4611686018427387904:=(Decidable.not_not.1 h).2
def D7{q:Rat}(h:et q):q≠0:=fun e=>by subst e;exact h ⟨by decide,by decide⟩
def rh{q:Rat}{m d:Int}{r:DV}(h: ¬et q)(h1:q.num=m)(h2:(q.den:Int)-1=d)(e:r= .ag [vI m,vI d, .v (.pointer none)])(G:Gh)(y:Value)(k:Is G r y):Is G (eF q) y:=by
 subst e h1 h2;obtain⟨l,rfl,g⟩:=cO.1 k;obtain⟨y1,l1,rfl,k1,g1⟩:=aO.1 g;obtain⟨y2,l2,rfl,k2,g2⟩:=aO.1 g1;obtain⟨y3,l3,rfl,k3,g3⟩:=aO.1 g2;exact cO.2 ⟨_,J, .cons (by rw[my h];exact k1) (.cons (by rw[ou h];exact k2) (.cons (rA.2 (.inl ⟨decide_eq_false h,aF.1 k3⟩)) g3))⟩
def NP{q:Rat}{n:Bool}{a d:Nat}{r:DV}(h:et q)(h1:decide (q.num<0)=n)(h2:q.num.natAbs=a)(h3:q.den=d)(e:r= .ag [vI 0,vI 0, .pt [.v (.bool n),dN a,dN d]])(G:Gh)(y:Value)(k:Is G r y):Is G (eF q) y:=by
 subst e h1 h2 h3;obtain⟨l,rfl,g⟩:=cO.1 k;obtain⟨y1,l1,rfl,k1,g1⟩:=aO.1 g;obtain⟨y2,l2,rfl,k2,g2⟩:=aO.1 g1;obtain⟨y3,l3,rfl,k3,g3⟩:=aO.1 g2;exact cO.2 ⟨_,J, .cons (by unfold dt;rw[if_pos h];exact k1) (.cons (by unfold du;rw[if_pos h];exact k2) (.cons (rA.2 (.inr ⟨decide_eq_true h,k3⟩)) g3))⟩
def uR(G:Gh)(y:Value)(k:Is G (.ag [vI 0,vI 0, .v (.pointer none)]) y):Is G (eF 0) y:=rh (fun h=>D7 h J) J J J G y k
def Mf{m:Int}(h:m.natAbs<4611686018427387904)(G:Gh)(y:Value)(k:Is G (.ag [vI m,vI 0, .v (.pointer none)]) y):Is G (eF (m:Rat)) y:=
 rh (fun k=>k ⟨by simpa using h,by rw[qY];decide⟩) (sJ m) (by rw[qY];rfl) J G y k
def Oo{n:Bool}{a d:Nat}(hd:0<d):(mkRat (zv n a) d).num=zv n (a/Nat.gcd a d)/\(mkRat (zv n a) d).den=d/Nat.gcd a d:=by
 obtain⟨h1,h2⟩:=Lv (m:=zv n a) hd;rw[o4] at h1 h2;exact⟨by rw[h1,Rn (iT _ _)],h2⟩
def In{n:Bool}{a d a' d':Nat}(hd:0<d)(ha:a'=a/Nat.gcd a d)(hd':d'=d/Nat.gcd a d)(h1:a'<4611686018427387904)(h2:d'<4611686018427387904)(G:Gh)(y:Value)(k:Is G (.ag [vI (zv n a'),vI ((d':Int)-1), .v (.pointer none)]) y):Is G (eF (mkRat (zv n a) d)) y:=by
 obtain⟨e1,e2⟩:=Oo (n:=n) (a:=a) hd;rw[<-ha] at e1;rw[<-hd'] at e2;exact rh (fun k=>k ⟨by rw[e1,o4];exact h1,by rw[e2];exact h2⟩) e1 (by rw[e2]) J G y k
def AV{n:Bool}{a d a' d':Nat}(hd:0<d)(ha:a'=a/Nat.gcd a d)(hd':d'=d/Nat.gcd a d)(h: ¬(a'<4611686018427387904/\d'<4611686018427387904))(G:Gh)(y:Value)(k:Is G (.ag [vI 0,vI 0, .pt [.v (.bool (decide (zv n a'<0))),dN (zv n a').natAbs,dN d']]) y):Is G (eF (mkRat (zv n a) d)) y:=by
 obtain⟨e1,e2⟩:=Oo (n:=n) (a:=a) hd;rw[<-ha] at e1;rw[<-hd'] at e2;exact NP (fun k=>h ⟨by rw[e1,o4] at k;exact k.1,by rw[e2] at k;exact k.2⟩) (by rw[e1]) (by rw[e1]) e2 J G y k
def YX{a d:Nat}(hd:0<d)(h: ¬(1:Int)<(bl (Nat.gcd a d):Nat)):Nat.gcd a d=1:=by
 have h1:Nat.gcd a d≠0:=fun e=>by rw[Nat.gcd_eq_zero_iff] at e;omega
 have h2:Nat.gcd a d<2^1:=ni.1 (by omega);omega
def mC{x:Nat}:(((bl x:Nat):Int)<=62)↔x<4611686018427387904:=VH
def PF.ofI{P:Program}{f:FuncId}{ds ds':List DV}{r:DV}(h:PF GB P f ds r)(k: ∀G vs,IsLs G ds' vs->IsLs G ds vs):PF GB P f ds' r:=fun G vs hg hv=>h G vs hg (k G vs hv)
def sD{n:Bool}{a d i j:Nat}[h:BN a i][k:BN d j](hi:i<=450000000:=by decide)(hj:j<=450000000:=by decide):PF GB prog 218 [eS n a,dN d] (eF (mkRat (zv n a) d)):=by
 refine fn func218 J J ntmps218 J J (fun C=>?_);refine cl J (sk (a:=d) (by omega)) J<|?_;refine cs 13 J J J (fun hg13=>?_) (fun hg13=>?_)
 .
  exact iA rfl (by obtain rfl:=Hg.1 (Int.ofNat.inj hg13);rw[Rat.mkRat_zero];exact uR)
 .
  have hd0:0<d:=by have:= @Hg d;omega
  have hg0:0<Nat.gcd a d:=nS _ hd0;refine cl J (OU (n:=n) (a:=a) (by omega)) J<|?_;refine br J J J (fun hc17=>?_) (fun hc17=>?_)
  .
   exact iA J (by rw[Int.sign_eq_zero_iff_zero.1 hc17,Rat.zero_mkRat];exact uR)
  .
   refine cl J (Ef (a:=a) (b:=d) (by omega) (by omega)) J<|cl J (sk (a:=Nat.gcd a d) (i:=i+j) (by omega)) J<|?_;refine br J J J (fun hc25=>?_) (fun hc25=>?_)
   .
    obtain⟨a',ea⟩: ∃a',a'=a/Nat.gcd a d:=⟨_,rfl⟩;obtain⟨d',ed⟩: ∃d',d'=d/Nat.gcd a d:=⟨_,rfl⟩;have hba:BN a' i:=ea▸inferInstance;have hbd:BN d' j:=ed▸inferInstance;refine cl (fu:=⟨2⟩) J (NS (a:=a) (b:=Nat.gcd a d) (j:=i+j) hg0 (by omega) (by omega)) J<|?_;refine aA 31 (.d (dN a')) J (by rw[ea]) ?_;refine gx J<|cl (fu:=⟨2⟩) J (NS (a:=d) (b:=Nat.gcd a d) (j:=i+j) hg0 (by omega) (by omega)) J<|?_;refine aA 39 (.d (dN d')) J (by rw[ed]) ?_;refine gx J<|cl J (sk (h:=hba) (by omega)) J<|?_;refine cs 46 J J J (fun hg46=>?_) (fun hg46=>?_)
    .
     refine cl J (sk (h:=hbd) (by omega)) J<|?_;refine br J J J (fun hc50=>?_) (fun hc50=>?_)
     .
      have hs2:=mC.1 hc50;refine cl J (Ng (mC.1 hg46)) J<|cl J (Eh (by have:=mC.1 hc50;omega)) J<|?_;exact iA J (In hd0 ea ed (mC.1 hg46) (mC.1 hc50))
     .
      refine cl J (vE (neg:=n) (h:=hba) (by omega)) J<|cl J (vx (h:=hbd) (by omega)) J<|fz 71 J J<|?_;exact iA J (AV hd0 ea ed (fun e=>hc50 (mC.2 e.2)))
    .
     refine cl J (vE (neg:=n) (h:=hba) (by omega)) J<|cl J (vx (h:=hbd) (by omega)) J<|fz 71 J J<|?_;exact iA J (AV hd0 ea ed (fun e=>hg46 (mC.2 e.1)))
   .
    have hg1:=YX hd0 hc25;have ea:a=a/Nat.gcd a d:=by rw[hg1,sM]
    have ed:d=d/Nat.gcd a d:=by rw[hg1,sM]
    have hba:=h;have hbd:=k;refine cl J (sk (h:=hba) (by omega)) J<|?_;refine cs 46 J J J (fun hg46=>?_) (fun hg46=>?_)
    .
     refine cl J (sk (h:=hbd) (by omega)) J<|?_;refine br J J J (fun hc50=>?_) (fun hc50=>?_)
     .
      have hs2:=mC.1 hc50;refine cl J (Ng (mC.1 hg46)) J<|cl J (Eh (by have:=mC.1 hc50;omega)) J<|?_;exact iA J (In hd0 ea ed (mC.1 hg46) (mC.1 hc50))
     .
      refine cl J (vE (neg:=n) (h:=hba) (by omega)) J<|cl J (vx (h:=hbd) (by omega)) J<|fz 71 J J<|?_;exact iA J (AV hd0 ea ed (fun e=>hc50 (mC.2 e.2)))
    .
     refine cl J (vE (neg:=n) (h:=hba) (by omega)) J<|cl J (vx (h:=hbd) (by omega)) J<|fz 71 J J<|?_;exact iA J (AV hd0 ea ed (fun e=>hg46 (mC.2 e.1)))
def r4{m:Int}{i:Nat}[h:BI m i](hi:i<=400000000:=by decide):PF GB prog 270 [eI m] (eF (m:Rat)):=by
 refine fn func270 J J ntmps270 J J (fun C=>?_);refine rf (fu:=⟨0⟩) J J<|?_;refine aA 4 (.d (dN 1)) J (by unfold dN;rw[x5];rfl) ?_;refine gx J<|cl J (sD (n:=decide (m<0)) (a:=m.natAbs) (d:=1) (by omega)) J<|?_;exact rz J (by rw[kE,show mkRat m 1=(m:Rat) from rM ..];rfl)
def nG{q:Rat}:PF GB prog 271 [eF q] (vB (decide (q=0))):=by
 refine fn func271 J J ntmps271 J J (fun C=>?_);refine cs 6 J J J (fun hg6=>?_) (fun hg6=>?_)
 .
  exact rz J (by rw[my (qA hg6)];show DV.v (.bool (decide _))= .v (.bool _);congr 2;exact decide_eq_decide.2 ⟨fun e=>kQ.1 e,fun e=>by rw[e];rfl⟩)
 .
  exact rz J (by rw[decide_eq_false (D7 (XK hg6))];rfl)
def xM{m:Int}(h:m.natAbs<9223372036854775808):PF GB prog 350 [vI m] (.v (.int .u64 (m.natAbs:Nat))):=by
 refine fn func350 J J ntmps350 J J (fun C=>?_);refine br J J J (fun hc4=>?_) (fun hc4=>?_)
 .
  exact rz J (by show DV.v (.int _ _)=_;congr 2;omega)
 .
  exact rz J (by show DV.v (.int _ _)=_;congr 2;omega)
def pH{q:Rat}{i:Nat}[h:BQ q i](hi:i<=900000000:=by decide):PF GB prog 216 [eF q] (dN q.den):=by
 refine fn func216 J J ntmps216 J J (fun C=>?_);refine br (v1:=fun hc5=>by simp only[ah];exact hc5) (fu2:=⟨6⟩) J J J (fun hc5=>?_) (fun hc5=>?_)
 .
  refine cl J (vx (a:=q.den) (by omega)) J<|?_;exact rz J J
 .
  have hd:=q.den_nz;have hs:=oC (nC hc5);refine aA 13 (.d (vI ((q.den:Int)-1))) J (by rw[ou (nC hc5)]) ?_;refine gx (fu:=⟨2⟩) J<|?_;refine aA 15 (.d (.v (.int .u64 (q.den:Nat)))) J (by congr 3;omega) ?_;refine gx J<|cl J (GP (a:=q.den) (by omega)) J<|?_;exact rz J J
def rB{q:Rat}{i:Nat}[h:BQ q i](hi:i<=900000000:=by decide):PF GB prog 215 [eF q] (eI q.num):=by
 refine fn func215 J J ntmps215 J J (fun C=>?_);refine br (v1:=fun hc5=>by simp only[ah];exact hc5) (fu2:=⟨6⟩) J J J (fun hc5=>?_) (fun hc5=>?_)
 .
  refine cl J (vE (neg:=decide (q.num<0)) (a:=q.num.natAbs) (by omega)) J<|?_;exact rz J (by rw[kE];rfl)
 .
  have hs:=oH (nC hc5);refine aA 13 (.d (vI q.num)) J (by rw[my (nC hc5)]) ?_;refine gx J<|cl J (DA (by omega) (by omega)) J<|?_;exact rz J J
def lw{q:Rat}{i:Nat}[h:BQ q i](hi:i<=900000000:=by decide):PF GB prog 245 [eF q] (eF (-q)):=by
 refine fn func245 J J ntmps245 J J (fun C=>?_);refine br (v1:=fun hc5=>by simp only[ah];exact hc5) (fu2:=⟨6⟩) J J J (fun hc5=>?_) (fun hc5=>?_)
 .
  refine cl (fu:=⟨6⟩) (hv:=by simp only[ah];exact hc5) J (R8 (m:=q.num) (by omega)) J<|S7 J J<|?_;exact iA J (NP (q:= -q) (fun k=>ZQ hc5 (by rw[mU,jU,pJ] at k;exact k)) (by rw[mU]) (by rw[mU]) (pJ q) J)
 .
  have hs:=oH (nC hc5);refine aA 21 (.d (vI q.num)) J (by rw[my (nC hc5)]) ?_;refine gx J<|?_;exact iA J (rh (q:= -q) (fun k=>k (by rw[mU,jU,pJ];exact⟨hs,oC (nC hc5)⟩)) (by rw[mU]) (by rw[pJ,ou (nC hc5)]) J)
def lO{q:Rat}{i:Nat}[h:BQ q i](hi:i<=900000000:=by decide):PF GB prog 228 [eF q] (vI q.num.sign):=by
 refine fn func228 J J ntmps228 J J (fun C=>?_);refine br (v1:=fun hc3=>by simp only[ah];exact hc3) J J J (fun hc3=>?_) (fun hc3=>?_)
 .
  refine cl J (OU (n:=decide (q.num<0)) (a:=q.num.natAbs) (by omega)) J<|?_;exact rz J (by rw[kE];rfl)
 .
  have hs:=my (nC hc3);refine br J J J (fun hc13=>?_) (fun hc13=>?_)
  .
   exact rz J (by rw[dY (by omega)];rfl)
  .
   refine br J J J (fun hc17=>?_) (fun hc17=>?_)
   .
    exact rz J (by rw[dS (by omega)];rfl)
   .
    exact rz J (by rw[show q.num=0 by omega];rfl)
def XD{h l y:Nat}(hh:h<y)(hl:l<4294967296)(hy:y<4294967296):PF GB prog 341 [.v (.int .u32 (h:Int)), .v (.int .u32 (l:Int)), .v (.int .u32 (y:Int))] (.tp [dU ((h*4294967296+l)/y),dU ((h*4294967296+l)%y)]):=by
 refine fn (fu:=⟨11⟩) func341 J J ntmps341 J J (fun C=>?_);refine kT 10 J (by omega) ?_;refine gx (fu:=⟨4⟩) J<|?_;refine kF 14 J (by omega) ?_;refine gx (fu:=⟨11⟩) (hv:=by simp only[ah];exact⟨by omega,(by decide)⟩) J<|?_;refine aA 19 (.d (.v (.int .u64 (h*2^32:Nat)))) J (by show FX.d (.v (.int _ _))= .d (.v (.int _ _));rw[pP _ 32 (by decide) (by show _*4294967296<_;omega) J]) ?_;refine gx (fu:=⟨3⟩) J<|?_;refine aA 22 (.d (.v (.int .u64 (l+h*2^32:Nat)))) J (congrArg (fun z:Nat=>FX.d (.v (.int .u64 (z:Int)))) (by rw[BitVec.or_comm];exact wG 64 l h 32 hl (by show _+_*4294967296<18446744073709551616;omega))) ?_;obtain⟨t,ht⟩: ∃t,t=h*4294967296+l:=⟨_,rfl⟩;have hq:t/y<4294967296:=by rw[kK (by omega)];have:=fY 4294967296 (show h+1<=y from hh);omega
 have hr:t%y<y:=cN _ (by omega);refine aA 22 (.d (.v (.int .u64 (t:Nat)))) J (by show FX.d (.v (.int _ _))= .d (.v (.int _ _));congr 3;rw[ht];omega) ?_;refine gx (hv:=by simp only[ah];exact⟨⟨⟨⟨by omega,⟨(by omega),(by omega),(by omega)⟩⟩,by omega⟩,⟨(by omega),(by omega)⟩⟩,by kernel_rfl⟩) J<|?_;exact rz J (by show DV.tp [.v (.int _ _), .v (.int _ _)]= .tp [.v (.int _ _), .v (.int _ _)];rw[<-ht,<-pT,<-oJ];generalize t/y=q at*;generalize t%y=r at*;congr 4<;>(first|omega|(congr 3;omega)))
def Y0{A r i b:Nat}(d:Nat)(hb:0<b):(A*4294967296+d)/b=A/b*4294967296+(A%b*4294967296+d)/b/\(A*4294967296+d)%b=(A%b*4294967296+d)%b:=by
 have h:=qW A b;have e:A*4294967296+d=(A%b*4294967296+d)+b*(A/b*4294967296):=by
  rw[<-bS,Nat.add_right_comm,<-cY,lX (A%b),h]
 rw[e,mJ _ _ hb,nJ];exact⟨lX _ _,J⟩
def Il{ds:List Nat}{i:Nat}(h:i<ds.length):dv (ds.drop i)=dv (ds.drop (i+1))*4294967296+ds.getD i 0:=by
 rw[cX h,aK,aX h];simp only[dv,jT];omega
def I4{W:List Nat}{i q:Nat}(h:i<W.length):dv ((W.set i q).drop i)=dv (W.drop (i+1))*4294967296+q:=by
 rw[Il (by rw[aR];exact h),pN (by omega),OG h]
def Vt{a b k:Nat}{W:List Nat}(hb:0<b)(hk:k<(dg a).length)(hl:W.length=(dg a).length)(h:dv (W.drop (k+1))=dv ((dg a).drop (k+1))/b):
  dv ((W.set k ((dv ((dg a).drop (k+1))%b*4294967296+(dg a).getD k 0)/b)).drop k)=dv ((dg a).drop k)/b/\dv ((dg a).drop k)%b=(dv ((dg a).drop (k+1))%b*4294967296+(dg a).getD k 0)%b:=by
 have:=Y0 (A:=dv ((dg a).drop (k+1))) (r:=0) (i:=0) ((dg a).getD k 0) hb;rw[I4 (by omega),h,Il hk,this.1,this.2];exact⟨J,J⟩
def xg{a b:Nat}:gg a b<0↔a<b:=by unfold gg;split<;>(try split)<;>omega
def yC{a b:Nat}:0<gg a b↔b<a:=by unfold gg;split<;>(try split)<;>omega
def Qz{x:Nat}(hx:x<4294967296):PF GB prog 366 [dU x] (vI (32-(bl x:Int))):=by
 intro G vs hg hv;obtain⟨v,m,rfl,h1,h2⟩:=aO.1 hv;rw[cB] at h2;subst h2;rw[aF.1 h1];exact(DZ hx).mono fun v G' _ h=>aF.2 h
def KD{a k:Nat}(h:4294967296^k<=a):k<(dg a).length:=by
 have h1:=tK a;rcases iR k (dg a).length with q|q
 ·exact q
 ·have:4294967296^(dg a).length<=4294967296^k:=bZ (by decide) q
  omega
def LZ{v L:Nat}(hL:L=(dg v).length)(h1:1<=L):(dg v).getD (L-1) 0=v/4294967296^(L-1)/\0<v/4294967296^(L-1):=by
 have h:=EL (kH v) (L-1);rw[tG (by omega:(dg v).length<=L-1+1),cj,pK,eK] at h;have h2:=tK v;rw[<-hL] at h2;rw[jS (show v<4294967296^(L-1+2) from cS h2 (bZ (by decide) (by omega))),pK,eK] at h;have h3:=qh (d9 v).2.2 (by intro e;rw[e] at hL;simp at hL;omega);rw[cj,<-hL] at h3;exact⟨h.symm,Nat.div_pos h3 (fX (by decide))⟩
def Hy{R n:Nat}(h1:1<=n)(h:R<4294967296^(n+1)):R/4294967296^(n-1)=(dg R).getD (n-1) 0+(dg R).getD n 0*4294967296:=by
 have e:=EL (kH R) (n-1);rw[cj,show n-1+1=n by omega,jS (show R<4294967296^(n-1+2) by rwa [show n-1+2=n+1 by omega]),pK,eK,bM] at e;exact e
def Wo{R v j L:Nat}(hL:L=(dg v).length)(h1:1<=L)(hR:R<v*4294967296^(j+1)):R/(v*4294967296^j)<=min (R/4294967296^(L+j-1)/(v/4294967296^(L-1))) 4294967295:=by
 have ht:=(LZ hL h1).2;have hp:0<4294967296^j:=fX (by decide);have hv0:0<v:=by
  rcases fW v with q|q
  ·subst q;simp at ht
  ·exact q
 have hvp:0<v*4294967296^j:=iX hv0 hp;refine Nat.le_min.2 ⟨?_,?_⟩
 ·rw[rT ht,rT (fX (by decide))]
  have h3:v/4294967296^(L-1)*4294967296^(L-1)<=v:=Nat.div_mul_le_self _ _;have h4:R/(v*4294967296^j)*(v*4294967296^j)<=R:=Nat.div_mul_le_self _ _;rw[show L+j-1=L-1+j by omega,fJ]
  calc R/(v*4294967296^j)*(v/4294967296^(L-1))*(4294967296^(L-1)*4294967296^j)
    =R/(v*4294967296^j)*((v/4294967296^(L-1)*4294967296^(L-1))*4294967296^j):=by simp only[bS]
   _<=R/(v*4294967296^j)*(v*4294967296^j):=fY _ (bX _ h3)
   _<=R:=h4
 ·have:R/(v*4294967296^j)<4294967296:=by
   rw[kK hvp];rw[fS] at hR;rwa [bM,bS]
  omega
def zU{R V g:Nat}(hV:0<V)(h:R<V*g):R/V<g:=by
 rw[kK hV,bM];exact h
def Q3{R V g:Nat}(hV:0<V)(h1:R/V<=g)(h2:V*g<=R):g=R/V:=by
 have:g<=R/V:=by rw[rT hV,bM];exact h2
 omega
def Ig{R0 R v j g:Nat}{W:List Nat}(hj:j<W.length)(h:R0=R+dv (W.drop (j+1))*4294967296^(j+1)*v)(hv:0<v*4294967296^j)(hg:g=R/(v*4294967296^j)):
  R0=(R-v*4294967296^j*g)+dv ((W.set j g).drop j)*4294967296^j*v/\R-v*4294967296^j*g<v*4294967296^j:=by
 have h1:=qW R (v*4294967296^j);have h2:=cN R hv;rw[<-hg] at h1;refine⟨?_,by omega⟩;rw[I4 hj,cY,cY,h,fS];have e:g*4294967296^j*v=v*4294967296^j*g:=by simp only[bS,kJ,bM]
 have e2:dv (W.drop (j+1))*(4294967296^j*4294967296)*v=dv (W.drop (j+1))*4294967296*4294967296^j*v:=by simp only[bS,kJ,bM]
 rw[e,e2];omega
def Zi{a b s R:Nat}{D:Nat}(hR:R<b*2^s)(h:a*2^s=R+D*(b*2^s)):D=a/b/\R/2^s=a%b:=by
 have hp:0<2^s:=fX (by decide);have hb:0<b:=by
  rcases fW b with q|q
  ·subst q;simp at hR
  ·exact q
 have h1:a=R/2^s+D*b:=by
  have:=congrArg (· /2^s) h;rw[Nat.mul_div_cancel _ hp,<-bS,Nat.add_mul_div_right _ _ hp] at this;exact this
 have h2:R/2^s<b:=by rw[kK hp];exact hR
 have h3:R/2^s+b*D=a:=by rw[bM b];exact h1.symm
 have:=(Nat.div_mod_unique hb).2 ⟨h3,h2⟩;exact⟨this.1.symm,this.2.symm⟩
def Ys{a b s:Nat}(hl:(dg b).length<=(dg a).length)(h2:1<=(dg b).length):a*2^s<b*2^s*4294967296^((dg a).length-(dg b).length+1):=by
 have h1:=tK a;have h3:=qh (d9 b).2.2 (by intro e;rw[e] at h2;simp at h2);rw[cj] at h3;have h4:4294967296^(dg a).length<=b*4294967296^((dg a).length-(dg b).length+1):=by
  rw[show(dg a).length=((dg b).length-1)+((dg a).length-(dg b).length+1) by omega,fJ];rw[show(dg b).length-1+((dg a).length-(dg b).length+1)-(dg b).length+1=(dg a).length-(dg b).length+1 by omega];exact bX _ h3
 rw[mM];exact kL (cS h1 h4) (fX (by decide))
def Pu(x j:Nat):x*2^(32*j)=x*4294967296^j:=by rw[pX]
def S3{R L j:Nat}(h:R<4294967296^(L+j+1))(h1:1<=L):R/4294967296^(L+j-1)<18446744073709551616:=by
 rw[kK (fX (by decide)),show(18446744073709551616:Nat)=4294967296^2 from J,<-fJ];rwa [show 2+(L+j-1)=L+j+1 by omega]
def UG{R v j L:Nat}(hL:L=(dg v).length)(hR:R<v*4294967296^(j+1)):R<4294967296^(L+j+1):=by
 have h:=tK v;rw[<-hL] at h;rw[kN,fJ];exact cS hR (bX _ (oY h))
def WV{a b ia ib:Nat}[ha:BN a ia][hb:BN b ib](hi:ia<=500000000)(hj:ib<=500000000)(h2:1<=(dg b).length)(hl:(dg b).length<=(dg a).length):PF GB prog 342 [dN a,dN b] (.tp [dN (a/b),dN (a%b)]):=by
 have hla:=fj (dg a);have hlb:=fj (dg b);have hba:=ma ha.h;have hba':(dg a).length<=20000000:=by omega
 refine fn func342 J J ntmps342 J J (fun C=>?_);refine ix _ J (gh (k:=(dg b).length-1) (by omega) (by omega)) J<|cl (fu:=⟨0⟩) J (Qz (gF b ((dg b).length-1))) J<|?_;obtain⟨s,hs⟩: ∃s:Nat,s=32-bl ((dg b).getD ((dg b).length-1) 0):=⟨_,rfl⟩;have hs32:s<=32:=by omega
 refine aA 22 (.d (vI (s:Nat))) J (by show FX.d (.v (.int _ _))= .d (.v (.int _ _));congr 3;have:=ni.2 (show(dg b).getD ((dg b).length-1) 0<2^32 from gF b _);omega) ?_;refine gx J<|cl J (z7 (a:=b) (k:=s) (ia:=ib) (by omega) (by omega)) J<|cl (fu:=⟨0⟩) J (z7 (a:=a) (k:=s) (ia:=ia) (by omega) (by omega)) J<|?_;obtain⟨v,hv⟩: ∃v,v=b*2^s:=⟨_,rfl⟩;obtain⟨R0,hR0⟩: ∃R0,R0=a*2^s:=⟨_,rfl⟩;refine aA 25 (.d (dN v)) J (by rw[hv]) ?_;refine aA 28 (.d (dN R0)) J (by rw[hR0]) ?_;obtain⟨L,hL⟩: ∃L,L=(dg v).length:=⟨_,rfl⟩;have hlv:((dg v).map dU).length=L:=by rw[fj,hL]
 have hps:2^s<=2^32:=bZ (by decide) hs32;have hpp:0<2^s:=fX (by decide);have hst:=Ys (a:=a) (b:=b) (s:=s) hl h2;rw[<-hv,<-hR0] at hst;have hvb:v<2^(ib+32):=by rw[hv,fJ];exact nQ hb.h hps (by decide)
 have hRb:R0<2^(ia+32):=by rw[hR0,fJ];exact nQ ha.h hps (by decide)
 have hbp:0<b:=iZ (fun q=>by subst q;rw[vP] at h2;simp at h2);have hvp:0<v:=hv▸iX hbp hpp;have hLp:1<=L:=by rw[hL];exact KD (k:=0) (by rw[rX];exact hvp)
 have htop:=LZ hL hLp;haveI hvB:BN v (ib+32):=⟨hvb⟩;have hLb:=ma hvb;have hLb':L<=20000000:=by omega
 have htl:=gF v (L-1);refine gx (fu:=⟨9⟩) J<|?_;refine aA 31 (.d (vI (L:Nat))) J (by rw[hlv];rfl) ?_;refine gx J<|ix (fu:=⟨2⟩) _ J (gh (k:=L-1) (by omega) (by omega)) J<|?_;refine aA 35 (.d (.v (.int .u64 (v/4294967296^(L-1):Nat)))) J (by rw[htop.1]) ?_;rw[htop.1] at htl;refine gx (fu:=⟨11⟩) J<|?_;obtain⟨m,hm⟩: ∃m,m=(dg a).length-(dg b).length+1:=⟨_,rfl⟩;rw[<-hm] at hst;have hrl:(List.replicate ((m:Nat):Int).toNat (DV.v (.int .u32 0))).length=m:=by rw[aW,aM]
 refine aA 41 (.d (vI (m:Nat))) J (by show FX.d (.v (.int _ _))= .d (.v (.int _ _));congr 3;omega) ?_;refine gx J<|mk ((List.replicate m 0).map dU) J J (by rw[<-uY];rfl) J<|?_;refine lp (X:=List Nat×Nat×Nat) (fun⟨W,R,k⟩=>[(6, .d (vI (s:Nat))),(7, .d (dN v)),(8, .d (dN R)),(9, .d (.v (.int .u64 (v/4294967296^(L-1):Nat)))),(10, .rw 42),(11, .d (vI ((k:Nat)-1)))]) (fun⟨W,R,k⟩=>[(42,some (.b 366 1 (W.map dU) true))]) (fun⟨W,R,k⟩=>W.length=m/\bu W/\k<=m/\R0=R+dv (W.drop k)*4294967296^k*v/\R<v*4294967296^k/\R<=R0) (fun⟨W,R,k⟩=>k) ⟨List.replicate m 0,R0,m⟩ J ⟨by simp, .replicate _,aN _,by simp[dv],hst,aN _⟩ (fun _=>J) (fun⟨W,R,k⟩ hk=>?_);dsimp only at hk⊢;obtain⟨h1,h2',h3,h4,h5,h6⟩:=hk;have hlw:=fj W;refine br (fu1:=⟨10⟩) J J J (fun hc47=>?_) (fun hc47=>?_)
 .
  obtain⟨j,rfl⟩: ∃j,k=j+1:=⟨k-1,by omega⟩;have hvj:0<v*4294967296^j:=iX hvp (fX (by decide));have hge:=Wo hL hLp h5;have hlen:=UG hL h5;have hlr:((dg R).map dU).length=(dg R).length:=fj _;haveI hRB:BN R (ia+32):=⟨by omega⟩;have hq32:R/(v*4294967296^j)<4294967296:=by omega
  have hz1:=Int.natCast_nonneg (R/4294967296^(L+j-1));have hz2:=Int.natCast_nonneg (R/4294967296^(L+j-1)/(v/4294967296^(L-1)));refine aA 11 (.d (vI (j:Nat))) J (by show FX.d (.v (.int _ _))= .d (.v (.int _ _));congr 3;omega) ?_;refine mg (fu:=⟨6⟩) (hv:=fun _ _=>by simp only[ah];exact⟨(by omega),(by have:=S3 hlen hLp;omega),(by omega)⟩) (X:=Unit) (fun _=>[(6, .d (vI (s:Nat))),(7, .d (dN v)),(8, .d (dN R)),(9, .d (.v (.int .u64 (v/4294967296^(L-1):Nat)))),(10, .rw 42),(11, .d (vI (j:Nat))),(12, .d (.v (.int .u64 (R/4294967296^(L+j-1):Nat))))]) (fun _=>[(42,some (.b 366 1 (W.map dU) true))]) (fun _=>True) [6,7,8,9,10,11,12] [42] rfl ?_ (fun _=>J) (fun _ hm=>?_)
  .
   refine gx (fu:=⟨4⟩) J<|?_;refine aA 51 (.d (vI (L:Nat))) J (by rw[hlv];rfl) ?_;refine gx (fu:=⟨2⟩) J<|?_;refine aA 53 (.d (vI (L+j:Nat))) J (by show FX.d (.v (.int _ _))= .d (.v (.int _ _));congr 3) ?_;refine gx (fu:=⟨8⟩) J<|?_;refine aA 56 (.d (vI ((dg R).length:Nat))) J (by rw[hlr];rfl) ?_;refine gx J<|?_;refine br (fu2:=⟨6⟩) J J J (fun hc57=>?_) (fun hc57=>?_)
   .
    have hd0:=gF R (L+j-1);have hd1:=gF R (L+j);refine ix (hv:=by simp only[ah];exact⟨⟨by omega,(by decide)⟩,by omega⟩) _ J (gh (k:=L+j) (by omega) (by omega)) J<|ix (fu:=⟨3⟩) _ J (gh (k:=L+j-1) (by omega) (by omega)) J<|?_;refine aA 70 (.d (.v (.int .u64 ((dg R).getD (L+j-1) 0+(dg R).getD (L+j) 0*4294967296:Nat)))) J (congrArg (fun z:Nat=>FX.d (.v (.int .u64 (z:Int)))) (by rw[pP _ 32 (by decide) (by show _*4294967296<_;omega) J,BitVec.or_comm];exact wG 64 ((dg R).getD (L+j-1) 0) ((dg R).getD (L+j) 0) 32 hd0 (by show _+_*4294967296<18446744073709551616;omega))) ?_;refine gx J<|?_;refine aA 12 (.d (.v (.int .u64 (R/4294967296^(L+j-1):Nat)))) J (by rw[Hy (by omega) hlen]) ?_;exact at_ () trivial
   .
    refine aA 74 (.d (vI ((dg R).length:Nat))) J (by rw[hlr];rfl) ?_;refine gx J<|?_;refine br J J J (fun hc75=>?_) (fun hc75=>?_)
    .
     have hd0:=gF R (L+j-1);refine ix _ J (gh (k:=L+j-1) (by omega) (by omega)) J<|?_;refine aA 12 (.d (.v (.int .u64 (R/4294967296^(L+j-1):Nat)))) J (by rw[Hy (by omega) hlen,tG (by omega:(dg R).length<=L+j),kW,eK]) ?_;exact at_ () trivial
    .
     refine aA 12 (.d (.v (.int .u64 (R/4294967296^(L+j-1):Nat)))) J (by rw[Hy (by omega) hlen,tG (by omega:(dg R).length<=L+j),tG (by omega:(dg R).length<=L+j-1)];rfl) ?_;exact at_ () trivial
  .
   obtain⟨g0,hg0'⟩: ∃g0,g0=min (R/4294967296^(L+j-1)/(v/4294967296^(L-1))) 4294967295:=⟨_,rfl⟩;rw[<-hg0'] at hge;have hg0:=hge;have hg1:g0<=4294967295:=by omega
   refine aA 85 (.d (.v (.int .u64 (g0:Nat)))) J (by show FX.d (.v (.int _ _))= .d (.v (.int _ _));congr 3;rw[<-pT];split<;>omega) ?_;refine gx J<|cl J (qE (u:=g0) (by omega)) J<|cl (fu:=⟨2⟩) J (u9 (ia:=ib+32) (ib:=32) (hb:=⟨by show _<4294967296;omega⟩) (by omega) (by decide)) J<|?_;refine aA 91 (.d (vI (32*j:Nat))) J (by show FX.d (.v (.int _ _))= .d (.v (.int _ _));congr 3) ?_;refine gx J<|cl (fu:=⟨0⟩) J (z7 (k:=32*j) (ia:=ib+64) (ha:=⟨by rw[show ib+64=ib+32+32 by omega,fJ];exact mS hvb (by show _<4294967296;omega)⟩) (by omega) (by omega)) J<|?_;refine aA 92 (.d (dN (v*4294967296^j*g0))) J (by rw[Pu,mM]) ?_;refine gx J<|?_;refine lp (X:=Nat) (fun g=>[(6, .d (vI (s:Nat))),(7, .d (dN v)),(8, .d (dN R)),(9, .d (.v (.int .u64 (v/4294967296^(L-1):Nat)))),(10, .rw 42),(11, .d (vI (j:Nat))),(14, .d (.v (.int .u64 (g:Nat)))),(15, .d (dN (v*4294967296^j*g)))]) (fun g=>[(42,some (.b 366 1 (W.map dU) true))]) (fun g=>R/(v*4294967296^j)<=g/\g<=4294967295) (fun g=>g) g0 J ⟨hg0,by omega⟩ (fun _=>J) (fun g hk=>?_);obtain⟨g1,g2⟩:=hk;have hlw:=fj W;refine cl J (yU (a:=v*4294967296^j*g) (b:=R) (by have:=Ae (a:=v*4294967296^j*g) (k:=L+j+1) (by have h1:=tK v;rw[<-hL] at h1;rw[fS,fJ];exact mS (kL h1 (fX (by decide))) (by omega));omega) (by have:=Ae hlen;omega)) J<|?_;refine br (fu1:=⟨7⟩) (v1:=fun hc96=>by simp only[ah];exact(by have h:=zU hvj (yC.1 hc96);have h1:1<=g:=fZ (cJ _) h;omega)) (fu2:=⟨11⟩) J J J (fun hc96=>?_) (fun hc96=>?_)
   .
    have hgd:=zU hvj (yC.1 hc96);have hg1p:1<=g:=fZ (cJ _) hgd;refine aA 98 (.d (.v (.int .u64 ((g-1:Nat):Int)))) J (by show FX.d (.v (.int _ _))= .d (.v (.int _ _));congr 3;omega) ?_;refine gx J<|cl J (qE (u:=g-1) (by omega)) J<|cl (fu:=⟨2⟩) J (u9 (ia:=ib+32) (ib:=32) (hb:=⟨by show _<4294967296;omega⟩) (by omega) (by decide)) J<|?_;refine aA 104 (.d (vI (32*j:Nat))) J (by show FX.d (.v (.int _ _))= .d (.v (.int _ _));congr 3) ?_;refine gx J<|cl (fu:=⟨0⟩) J (z7 (k:=32*j) (ia:=ib+64) (ha:=⟨by rw[show ib+64=ib+32+32 by omega,fJ];exact mS hvb (by show _<4294967296;omega)⟩) (by omega) (by omega)) J<|?_;refine aA 105 (.d (dN (v*4294967296^j*(g-1)))) J (by rw[Pu,mM]) ?_;refine gx J<|?_;exact at_ (g-1) ⟨⟨by have h:=zU hvj (yC.1 hc96);omega,by omega⟩,(by have:=zU hvj (yC.1 hc96);omega)⟩
   .
    have hgq:=Q3 hvj g1 (rR fun q=>hc96 (yC.2 q));refine aA 109 (.d (dU g)) J (by show FX.d (.v (.int _ _))= .d (.v (.int _ _));congr 3;omega) ?_;refine gx J<|sb _ ((W.set j (R/(v*4294967296^j))).map dU) J (gh (k:=j) (by omega) (by omega)) J (by(rw[<-hgq,aM,<-tw])<;>rfl) J<|?_;refine cl (fu:=⟨0⟩) J (Gl (a:=R) (b:=v*4294967296^j*g) (ia:=ia+32) (by rw[hgq];exact Nat.mul_div_le _ _) (by omega)) J<|?_;refine aA 113 (.d (dN (R-v*4294967296^j*(R/(v*4294967296^j))))) J (by rw[hgq]) ?_;refine gx J<|?_;exact at_ ⟨W.set j (R/(v*4294967296^j)),R-v*4294967296^j*(R/(v*4294967296^j)),j⟩ (by dsimp only;exact⟨⟨by simpa using h1,h2'.set _ (by omega),by omega,(Ig (by omega) h4 hvj J).1,(Ig (by omega) h4 hvj J).2,by omega⟩,(by omega)⟩)
 .
  obtain rfl:k=0:=by omega
  rw[rX,iW] at h5;rw[rX,iW,jY,hR0,hv] at h4;rw[hv] at h5;have hend:=Zi h5 h4;haveI hRB:BN R (ia+32):=⟨by omega⟩;refine fz 42 J J<|cl J (qC (ds:=W) (by omega)) J<|cl J (Xz (a:=R) (k:=s) (ia:=ia+32) (by omega) (by omega)) J<|?_;exact rz J (by show DV.tp [fk _,dN _]= .tp [dN _,dN _];rw[qG h2' hend.1,hend.2])
def anf{a b:Nat}(h:b<=a):(dg b).length<=(dg a).length:=Ae (fZ h (tK a))
def Cw{a b ia ib:Nat}[ha:BN a ia][hb:BN b ib](hb0:0<b)(hi:ia<=500000000:=by decide)(hj:ib<=500000000:=by decide):PF GB prog 247 [dN a,dN b] (.tp [dN (a/b),dN (a%b)]):=by
 have hla:=fj (dg a);have hlb:=fj (dg b);have hba:=ma ha.h;have hbb:=ma hb.h;have hba':(dg a).length<=20000000:=by omega
 have hbb':(dg b).length<=20000000:=by omega
 have hlb1:1<=(dg b).length:=KD (k:=0) (by rw[rX];exact hb0);refine fn (fu:=⟨7⟩) func247 J J ntmps247 J J (fun C=>?_);refine mg (X:=Unit) (fun _=>[(0, .d (dN a)),(1, .d (dN b))]) (fun _=>[]) (fun _=>True) [0,1] [] rfl ?_ (fun _=>J) (fun _ hm=>?_)
 .
  refine gx J<|cl J (BT (a:=a) (ia:=ia) (by omega)) J<|?_;refine bd (fu1:=⟨0⟩) J J J (fun hc18=>?_) (fun hc18=>?_)
  .
   refine aA 6 (.d (.v (.int .u64 (a:Nat)))) J (by rw[if_pos hc18]) ?_;refine gx J<|cl J (BT (a:=b) (ia:=ib) (by omega)) J<|?_;refine bd (fu1:=⟨0⟩) J J J (fun hc24=>?_) (fun hc24=>?_)
   .
    refine aA 8 (.d (.v (.int .u64 (b:Nat)))) J (by rw[if_pos hc24]) ?_;have hdl:=kY a b;have hml:=Nat.mod_le a b;refine gx (hv:=by simp only[ah];exact⟨(by omega),(by omega),(by omega)⟩) J<|cl (hv:=by simp only[ah];exact⟨(by omega),(by omega)⟩) J (qE (u:=a/b) (by omega)) J<|cl J (qE (u:=a%b) (by omega)) J<|?_;exact rz J J
   .
    exact at_ () trivial
  .
   exact at_ () trivial
 .
  refine cl J (yU (by omega) (by omega)) J<|?_;refine br J J J (fun hc36=>?_) (fun hc36=>?_)
  .
   have hab:=xg.1 hc36;refine Ew J J<|ap _ J J (um _) J<|?_;refine qi 39 J ?_;exact rz J (by show DV.tp [_, .sl ([]++_)]= .tp [_,_];rw[jS hab,fK hab,NY];rfl)
  .
   have hab:b<=a:=rR fun q=>hc36 (xg.2 q);have hlab:(dg b).length<=(dg a).length:=anf hab;refine br (fu1:=⟨4⟩) J J J (fun hc42=>?_) (fun hc42=>?_)
   .
    have hb1:b<4294967296:=by have:=tK b;rw[show(dg b).length=1 by omega] at this;omega
    have hbd:(dg b).getD 0 0=b:=vS (by omega);refine aA 44 (.d (vI ((dg a).length:Nat))) J (by rw[hla];rfl) ?_;refine gx J<|mk (fu:=⟨13⟩) ((List.replicate (dg a).length 0).map dU) J J (by rw[<-uY];rfl) J<|?_;refine aA 47 (.d (vI ((dg a).length:Nat))) J (by rw[hla];rfl) ?_;refine gx J<|?_;refine lp (X:=List Nat×Nat) (fun⟨W,k⟩=>[(0, .d (dN a)),(1, .d (dN b)),(10, .rw 45),(11, .d (dU (dv ((dg a).drop k)%b))),(12, .d (vI ((k:Nat)-1)))]) (fun⟨W,k⟩=>[(45,some (.b 366 1 (W.map dU) true))]) (fun⟨W,k⟩=>W.length=(dg a).length/\bu W/\k<=(dg a).length/\dv (W.drop k)=dv ((dg a).drop k)/b) (fun⟨W,k⟩=>k) ⟨List.replicate (dg a).length 0,(dg a).length⟩ J ⟨by simp, .replicate _,aN _,by simp[dv]⟩ (fun _=>J) (fun⟨W,k⟩ hk=>?_) (hF:=(by refine⟨J,J,J,nF J (by simp[dv,dU]),nF J (by simp[vI]),?_⟩;repeat (first|exact trivial|refine And.intro J ?_)))
    try dsimp only at hk⊢
    obtain⟨h1,h2,h3,h4⟩:=hk;have hlw:=fj W;refine br (fu1:=⟨0⟩) J J J (fun hc50=>?_) (fun hc50=>?_)
    .
     obtain⟨k,rfl⟩: ∃j,k=j+1:=⟨k-1,by omega⟩;have hsi:=Vt hb0 (by omega) h1 h4;have hrm:=cN (dv ((dg a).drop (k+1))) hb0;have hdk:=gF a k;have hqd:(dv ((dg a).drop (k+1))%b*4294967296+(dg a).getD k 0)/b<4294967296:=by rw[kK hb0];have:=fY 4294967296 (show dv ((dg a).drop (k+1))%b+1<=b from hrm);omega
     refine aA 12 (.d (vI (k:Nat))) J (by show FX.d (.v (.int _ _))= .d (.v (.int _ _));congr 3;omega) ?_;refine gx J<|ix _ J (gh (k:=k) (by omega) (by omega)) J<|ix _ J (gh (k:=0) J (by omega)) J<|cl J (XD (h:=dv ((dg a).drop (k+1))%b) (l:=(dg a).getD k 0) (y:=(dg b).getD 0 0) (by omega) hdk (by omega)) J<|?_;refine sb (hv:=by simp only[ah];exact⟨by kernel_rfl,by omega⟩) _ ((W.set k ((dv ((dg a).drop (k+1))%b*4294967296+(dg a).getD k 0)/b)).map dU) J (gh (k:=k) (by omega) (by omega)) J (by(rw[hbd,aM,<-tw])<;>rfl) J<|?_;exact at_ ⟨W.set k ((dv ((dg a).drop (k+1))%b*4294967296+(dg a).getD k 0)/b),k⟩ (by dsimp only;exact⟨⟨by simpa using h1,h2.set _ hqd,by omega,hsi.1⟩,(by omega)⟩) (by refine⟨J,J,J,nF J (by rw[hsi.2,hbd]),nF J (by first|(simp[vI];done)|(simp[vI];omega)),?_⟩;repeat (first|exact trivial|refine And.intro J ?_))
    .
     refine fz 45 J J<|cl J (qC (ds:=W) (by omega)) J<|rf J J<|cl J (qC (ds:=[dv ((dg a).drop k)%b]) (by simp)) J<|?_;exact rz rfl (by show DV.tp [fk _,fk _]= .tp [_,_];obtain rfl:k=0:=(by omega);rw[jY,jY,cj] at h4;rw[jY,cj];rw[qG h2 h4,qG (.cons (by have:=cN a hb0;omega) .nil) (n:=a%b) (by simp[dv])])
   .
    refine cl J (WV (by omega) (by omega) hlb1 hlab) J<|?_;exact rz J J
def Km(x y:Nat):Nat.gcd y (x%y)=Nat.gcd x y:=by rw[iM x y,sL y x,iM]
def SB{a b ia ib:Nat}[ha:BN a ia][hb:BN b ib](hi:ia<=240000000:=by decide)(hj:ib<=240000000:=by decide):PF GB prog 186 [dN a,dN b] (dN (Nat.gcd a b)):=by
 refine fn (fu:=⟨6⟩) func186 J J ntmps186 J J (fun C=>?_);refine mg (X:=Unit) (fun _=>[(0, .d (dN a)),(1, .d (dN b))]) (fun _=>[]) (fun _=>True) [0,1] [] rfl ?_ (fun _=>J) (fun _ hm=>?_)
 .
  refine gx J<|cl J (BT (a:=a) (ia:=ia) (by omega)) J<|?_;refine bd (fu1:=⟨0⟩) J J J (fun hc16=>?_) (fun hc16=>?_)
  .
   refine aA 5 (.d (.v (.int .u64 (a:Nat)))) J (by rw[if_pos hc16]) ?_;refine gx J<|cl J (BT (a:=b) (ia:=ib) (by omega)) J<|?_;refine bd (fu1:=⟨0⟩) J J J (fun hc22=>?_) (fun hc22=>?_)
   .
    refine aA 7 (.d (.v (.int .u64 (b:Nat)))) J (by rw[if_pos hc22]) ?_;refine gx J<|?_;refine lp (X:=Nat×Nat) (fun⟨x,y⟩=>[(5, .d (.v (.int .u64 (x:Nat)))),(7, .d (.v (.int .u64 (y:Nat))))]) (fun⟨x,y⟩=>[]) (fun⟨x,y⟩=>x<18446744073709551616/\y<18446744073709551616/\Nat.gcd x y=Nat.gcd a b) (fun⟨x,y⟩=>y) ⟨a,b⟩ J ⟨hc16,hc22,J⟩ (fun _=>J) (fun⟨x,y⟩ hk=>?_)
    try dsimp only at hk⊢
    obtain⟨h1,h2,h3⟩:=hk;refine br (v1:=fun hc24=>by simp only[ah];exact⟨⟨(by omega),(by omega)⟩,by kernel_rfl⟩) J J J (fun hc24=>?_) (fun hc24=>?_)
    .
     exact at_ ⟨y,x%y⟩ (by dsimp only;exact⟨⟨h2,by have:=cN x (show 0<y by omega);omega,by rw[Km,h3]⟩,(by exact cN _ (by omega))⟩)
    .
     refine cl J (qE (u:=x) h1) J<|?_;exact rz J (by show dN x=_;rw[<-h3,show y=0 by omega,mN])
   .
    exact at_ () trivial
  .
   exact at_ () trivial
 .
  refine lp (fu:=⟨5⟩) (X:=Nat×Nat) (fun⟨x,y⟩=>[(0, .d (dN x)),(1, .d (dN y))]) (fun⟨x,y⟩=>[]) (fun⟨x,y⟩=>x<2^(ia+ib)/\y<2^(ia+ib)/\Nat.gcd x y=Nat.gcd a b) (fun⟨x,y⟩=>y) ⟨a,b⟩ J ⟨(ha.mono (by omega)).h,(hb.mono (by omega)).h,J⟩ (fun _=>J) (fun⟨x,y⟩ hk=>?_)
  try dsimp only at hk⊢
  obtain⟨h1,h2,h3⟩:=hk;have hly:=fj (dg y);haveI hx':BN x (ia+ib):=⟨h1⟩;haveI hy':BN y (ia+ib):=⟨h2⟩;refine aA 32 (.d (vI ((dg y).length:Nat))) J (by rw[hly];rfl) ?_;refine gx J<|?_;refine br J J J (fun hc33=>?_) (fun hc33=>?_)
  .
   have hy0:0<y:=iZ fun q=>by subst q;rw[vP] at hc33;simp at hc33
   refine cl J (Cw (a:=x) (b:=y) (ia:=ia+ib) (ib:=ia+ib) hy0 (by omega) (by omega)) J<|?_;exact at_ ⟨y,x%y⟩ (by dsimp only;exact⟨⟨h2,by have:=cN x hy0;omega,by rw[Km,h3]⟩,(by exact cN _ hy0)⟩)
  .
   have hy0:y=0:=wV.1 (by omega);have hlx:=ma h1;have hmx:=fj (dg x);refine Ew J J<|ap _ J J (um _) J<|?_;refine qi 44 J ?_;exact rz J (by show DV.sl ([]++_)=_;rw[<-h3,hy0,mN];rfl)
def Na(neg:Bool)(m:Nat):eI (zv neg m)= .ag [.v (.bool (neg&&decide (0<m))),dN m]:=by unfold eI;rw[o4,HV]
def VC(z:Int):zv (!decide (z<0)) z.natAbs= -z:=by
 unfold zv;by_cases h:z<0<;>simp[h]<;>omega
def Ug(a b:Int):zv (!(decide (a<0)==decide (b<0))) (a.natAbs*b.natAbs)=a*b:=by
 have h:=LN (decide (a<0)) (decide (b<0)) a.natAbs b.natAbs;rw[kE,kE] at h;exact h
def n9{neg:Bool}{m:Nat}:PF GB prog 217 [.v (.bool neg),dN m] (eI (zv neg m)):=by
 have hl:=fj (dg m);have hz:= @wV m;refine fn func217 J J ntmps217 J J (fun C=>?_);refine oz 6 J J J (fun hg6=>?_) (fun hg6=>?_)
 .
  exact rz J (by rw[Na,hg6];show DV.ag [.v (.bool _),_]= .ag [.v (.bool _),_];congr 4;rw[Bool.true_and];exact decide_eq_decide.2 (by omega))
 .
  exact rz J (by rw[Na,hg6];rfl)
end Go.Sx
end
section
namespace Go.Sx
open Go
instance:DecidableEq ab:=fun x y=>decidable_of_iff (x.a=y.a/\x.b=y.b/\x.c=y.c) (by
 cases x;cases y;simp)
structure ao where
 lo:Rat
 hi:Rat
 nl:Bool
 nh:Bool
def ao.all:ao:=⟨0,0,true,true⟩
def ao.empty(v:ao):Bool:=!v.nl&&(!v.nh&&decide (0<=cp v.lo v.hi))
def ao.meet(v w:ao):ao:=
 ⟨if v.nl then w.lo else if w.nl then v.lo else if v.lo<w.lo then w.lo else v.lo,
  if v.nh then w.hi else if w.nh then v.hi else if w.hi<v.hi then w.hi else v.hi,v.nl&&w.nl,v.nh&&w.nh⟩
def ao.sample(v:ao):Rat:=if v.nl&&v.nh then 0 else if v.nl then v.hi-1 else if v.nh then v.lo+1 else(v.lo+v.hi)*mkRat 1 2
def ab.cutK(l m:ab):Rat:=m.nor.dot l.dir
def ab.cutC(l m:ab):Rat:=m.value l.base
def ab.cutV(l:ab)(v:ao)(m:ab):ao:=
 if Int.sign (l.cutK m).num=0 then v
 else if Int.sign (l.cutK m).num=1 then v.meet ⟨-(l.cutC m/l.cutK m),0,false,true⟩
 else v.meet ⟨0, -(l.cutC m/l.cutK m),true,false⟩
def ab.cutB(l:ab)(v:ao)(m:ab):Bool:=
 if Int.sign (l.cutK m).num=0 then decide (0<Int.sign (l.cutC m).num) else !(l.cutV v m).empty
structure aP where
 l:ab
 v:ao
abbrev aE:=List aP
def mf(l:ab):aE->ao->Option ao
 |[],v=>some v
 |s::t,v=>if l.cutB v s.l then mf l t (l.cutV v s.l) else none
def lc(c:aE)(l:ab):Option ao:=mf l c ao.all
def nf(l:ab)(s:aP):Int:=Int.sign (l.value (s.l.at s.v.sample)).num
def nB(l:ab):aE->Int
 |[]=> -1
 |s::t=>if nf l s≠0 then nf l s else if s.l=l then 1 else nB l t
def ui(c:aE)(l:ab):Int:=if(lc c l).isSome then 0 else nB l c
def aa.half(p:aa):Int:=
 if 0<Int.sign p.y.num\/(Int.sign p.y.num=0/\0<Int.sign p.x.num) then 1 else if Int.sign p.y.num<0\/Int.sign p.x.num<0 then 2 else 0
def di(u v:aa):Int:=if u.half<v.half then-1 else if v.half<u.half then 1 else-(Int.sign (u.cross v).num)
def fA(l:ab):aE->aE
 |[]=>[]
 |s::t=>if s.l.cutB s.v l then⟨s.l,s.l.cutV s.v l⟩::fA l t else fA l t
def ip(p:Nat->Bool)(i j:Nat):Nat:=
 if h:i<j then(if p ((i+j)/2) then ip p ((i+j)/2+1) j else ip p i ((i+j)/2)) else i
termination_by j-i
def mc(c:aE)(l:ab)(i:Nat):Bool:=match c[i]? with
 |some s=>decide (di s.l.dir l.dir<0)
 |none=>false
def om(c:aE)(l:ab)(v:ao):aE:=
 c.take (ip (mc c l) 0 c.length)++⟨l,v⟩::c.drop (ip (mc c l) 0 c.length)
def bF(c:aE)(l:ab):aE:=match lc c l with
 |some v=>om (fA l c) l v
 |none=>c
def cP(c:aE)(l:ab):Bool:=match lc c l with
 |some _=>true
 |none=>decide (0<ui c l)
def Bh(p:Nat->Bool): ∀(d i j:Nat),j-i<=d->i<=j->i<=ip p i j/\ip p i j<=j
 |0,i,j,h,hij=>by
  rw[ip,dif_neg (by omega)];omega
 |d+1,i,j,h,hij=>by
  rw[ip];split
  ·split
   ·have:=Bh p d ((i+j)/2+1) j (by omega) (by omega);omega
   ·have:=Bh p d i ((i+j)/2) (by omega) (by omega);omega
  ·omega
def M1(l:ab): ∀c:aE,(fA l c).length<=c.length
 |[]=>aN _
 |s::t=>by
  have:=M1 l t;unfold fA;split<;>simp<;>omega
def Tz(c:aE)(l:ab)(v:ao):(om c l v).length=c.length+1:=by
 have:=(Bh (mc c l) c.length 0 c.length (by omega) (by omega)).2;simp[om];omega
def Bj(c:aE)(l:ab):(bF c l).length<=c.length+1:=by
 unfold bF;split
 ·rw[Tz];have:=M1 l c;omega
 ·omega
inductive Tr where
 |leaf (b:Bool)
 |node (l:ab) (x y:Tr)
def Tr.isLeaf:Tr->Bool
 | .leaf _=>true
 | .node .. =>false
def Tr.code:Tr->Bool
 | .leaf b=>b
 | .node .. =>false
def Tr.depth:Tr->Nat
 | .leaf _=>0
 | .node _ x y=>1+max x.depth y.depth
def Tr.size:Tr->Nat
 | .leaf _=>0
 | .node _ x y=>1+x.size+y.size
def Tr.joinQ(l:ab)(x y:Tr):Tr:=if x.isLeaf&&(y.isLeaf&&(x.code==y.code)) then x else .node l x y
def Tr.restrict:Tr->aE->Tr
 | .leaf b,_=> .leaf b
 | .node l x y,c=>if !cP c l.rev then x.restrict c else if !cP c l then y.restrict c else joinQ l (x.restrict (bF c l)) (y.restrict (bF c l.rev))
def Tr.parts:Tr->aE->List (Bool×aE)
 | .leaf b,c=>[(b,c)]
 | .node l x y,c=>(if cP c l then x.parts (bF c l) else [])++(if cP c l.rev then y.parts (bF c l.rev) else [])
def Tr.all(p:ab->Prop):Tr->Prop
 | .leaf _=>True
 | .node l x y=>p l/\x.all p/\y.all p
def Tr.good:Tr->Prop
 | .leaf _=>True
 | .node _ x y=> ¬(x.isLeaf=true/\y.isLeaf=true/\x.code=y.code)/\x.good/\y.good
structure NQ where
 l:ab
 a:Int
 b:Int
def qe(b:Bool):Int:=if b then-2 else-1
def Tr.num:Tr->Nat->Int
 | .leaf b,_=>qe b
 | .node ..,n=>n
def Tr.wr:Tr->Nat->List NQ
 | .leaf _,_=>[]
 | .node l x y,n=>⟨l,x.num (n+1),y.num (n+1+x.size)⟩::x.wr (n+1)++y.wr (n+1+x.size)
def Tr.wr_len: ∀(t:Tr) (n:Nat),(t.wr n).length=t.size
 | .leaf _,n=>rfl
 | .node l x y,n=>by
  have h1:=Tr.wr_len x (n+1);have h2:=Tr.wr_len y (n+1+x.size);simp[Tr.wr,Tr.size,h1,h2];omega
def Tr.joinQ_cases(l:ab)(x y:Tr):(Tr.joinQ l x y=x/\x.isLeaf=true)\/(Tr.joinQ l x y= .node l x y/\ ¬(x.isLeaf=true/\y.isLeaf=true/\x.code=y.code)):=by
 unfold Tr.joinQ;split
 ·rename_i h
  simp at h;exact .inl ⟨J,h.1⟩
 ·rename_i h
  simp at h;exact .inr ⟨J,fun⟨a,b,c⟩=>h a b c⟩
def Tr.restrict_depth: ∀(t:Tr) (c:aE),(t.restrict c).depth<=t.depth
 | .leaf b,c=>aN _
 | .node l x y,c=>by
  unfold Tr.restrict;split
  ·have:=x.restrict_depth c;simp only[Tr.depth];omega
  ·split
   ·have:=y.restrict_depth c;simp only[Tr.depth];omega
   ·have h1:=x.restrict_depth (bF c l)
    have h2:=y.restrict_depth (bF c l.rev);rcases Tr.joinQ_cases l (x.restrict (bF c l)) (y.restrict (bF c l.rev)) with⟨h,_⟩|⟨h,_⟩
    ·rw[h];simp only[Tr.depth];omega
    ·rw[h];simp only[Tr.depth];omega
def Tr.restrict_all(p:ab->Prop): ∀(t:Tr) (c:aE),t.all p->(t.restrict c).all p
 | .leaf b,c,_=>trivial
 | .node l x y,c,h=>by
  obtain⟨h0,h1,h2⟩:=h;unfold Tr.restrict;split
  ·exact x.restrict_all p c h1
  ·split
   ·exact y.restrict_all p c h2
   ·rcases Tr.joinQ_cases l (x.restrict (bF c l)) (y.restrict (bF c l.rev)) with⟨h,_⟩|⟨h,_⟩
    ·rw[h];exact x.restrict_all p _ h1
    ·rw[h];exact⟨h0,x.restrict_all p _ h1,y.restrict_all p _ h2⟩
end Go.Sx
end
