import Derived.Test.YtmdgdhokaffbkaaGreatDoorTf8
set_option linter.all false
set_option maxHeartbeats 4000000
set_option maxRecDepth 100000
section
namespace Go.Sx
open Go Go.Proofs Tryz
variable {GB G:Gh}{x y a j m d k b ia ib s w h i v q n L R V g r:Nat}{ds W A:List Nat}{C:aD}{Q0:Exit->Act->World->Prop}{fr fr' fr1 fr2:aA}{own' own1 own2:aF}{cf cf' cf1 cf2:Cf}{vc vc1 vc2:List Prop}{p:Int}{k':IntKind}
def oE(n:Nat)(a b k:Nat)(ha:a<2^k)(h:a+b*2^k<2^n):(BitVec.ofInt n (a:Int) ||| BitVec.ofInt n ((b*2^k:Nat):Int)).toNat=a+b*2^k:=by
 rw[BitVec.toNat_or,BitVec.ofInt_natCast,BitVec.ofInt_natCast,BitVec.toNat_ofNat,BitVec.toNat_ofNat,gQ pb,gQ pb];rw[<-Nat.shiftLeft_eq,Nat.or_comm,<-Nat.shiftLeft_add_eq_or_of_lt ha,Nat.shiftLeft_eq];omega
def BH(hx:x<4294967296)(hy:y<4294967296):x*y<=18446744065119617025:=by
 have:=iK (by omega:x<=4294967295) (by omega:y<=4294967295);exact this
def x7(x y:Nat):(0:Int)<=(x:Int)*(y:Int):=by rw[<-gM];omega
def yx(hx:x<4294967296)(hy:y<4294967296):(x:Int)*(y:Int)<=18446744073709551615:=by
 have:=BH hx hy;rw[<-gM];omega
def Xh(h:ds.length=1):dv ds=ds.getD 0 0:=by
 match ds,h with
 |[d],_=>simp[dv]
def uP(h:(dg a).length=1:=by omega):(dg a).getD 0 0=a:=by rw[<-Xh h,cG]
def TP(h:j<m):(ds.take m).getD j 0=ds.getD j 0:=by
 rw[aJ,aJ,qW,if_pos h]
def IF(hj:j<m)(hm:m<=W.length):dv ((W.set j d).take m)+4294967296^j*W.getD j 0=dv (W.take m)+4294967296^j*d:=by
 rw[List.take_set,<-TP (ds:=W) hj];exact tU _ _ _ (by rw[bR];omega)
def KK{W:List Nat}{P X Y m i k c y t S:Nat}(hk:i+k<m)(hm:m<=W.length)(h:dv (W.take m)+4294967296^(i+k)*c=P+X*(4294967296^i*S))(ht:t=Y+W.getD (i+k) 0+c)(hY:Y=X*y):
  dv ((W.set (i+k) (t%4294967296)).take m)+4294967296^(i+(k+1))*(t/4294967296)=P+X*(4294967296^i*(S+4294967296^k*y)):=by
 have h1:=IF (W:=W) (d:=t%4294967296) hk hm;rw[ht,show Y+W.getD (i+k) 0+c=c+Y+W.getD (i+k) 0 by omega] at h1⊢;have h2:=Zu h1 h;rw[<-kX,gJ,h2,hY,fW];simp only[eJ,cX,mN,bM,kX]
def JV{a b:Nat}{W:List Nat}{i c lb:Nat}(hlb:lb=(dg b).length)(hl:i+lb<W.length)(h:dv (W.take (i+lb))+4294967296^(i+lb)*c=dv ((dg a).take i)*b+(dg a).getD i 0*(4294967296^i*dv ((dg b).take lb))):
  dv ((W.set (i+lb) c).take (i+1+lb))=dv ((dg a).take (i+1))*b:=by
 rw[show i+1+lb=i+lb+1 by omega,t6 hl,h,mv,jl (ds:=dg b),cG b,cN];simp only[cX,mN,bM]
def BS(n j:Nat):(List.replicate n 0).getD j 0=0:=by
 rw[aJ,List.getElem?_replicate];split<;>rfl
def zj(h:k<=1000000000):IntKind.i64.wrap ((k:Int).tdiv 32)=((k/32:Nat):Int):=by
 rw[show(k:Int).tdiv 32=((k/32:Nat):Int) from J,Hq];omega
def Lh(k:Nat):(k:Int).tmod 32=((k%32:Nat):Int):=rfl
theorem omg{p:Prop}(h:p:=by show FX.d (.v (.int _ _))= .d (.v (.int _ _));congr 3):p:=h
theorem omT{p:Prop}(h:p:=by congr 3;omega):p:=h
theorem oki{p:Prop}(h:p:=by dsimp only;exact⟨⟨by simpa using g1,g2.set _ pb,pb,pb,by rw[mv];exact KK pb pb g5 ht hp⟩,pb⟩):p:=h
theorem okr{p:Prop}(h:p:=by have:=h4;rw[jl,jl,cG] at this;exact this):p:=h
theorem okG{p:Prop}(h:p:=by dsimp only;exact⟨⟨by simpa using g1,g2.set _ g3,pb,JV J pb g5⟩,pb⟩):p:=h
def o9[ha:BN a ia][hb:BN b ib](hi:ia<=1000000000:=by decide)(hj:ib<=1000000000:=by decide):PF GB prog 58 [dN a,dN b] (dN (a*b)):=by
 have hla:=bC (dg a);have hlb:=bC (dg b);have hba:=s7 ha.h hi;have hbb:=s7 hb.h hj;refine fn (fu:=⟨6⟩) func58 J J ntmps58 J J (fun C=>?_);refine mg (fu:=⟨4⟩) (X:=Unit) (fun _=>[(0, .d (dN a)),(1, .d (dN b))]) (fun _=>[]) (fun _=>True) [0,1] [] rfl ?_ (fun _=>J) (fun _ hm=>?_)
 .
  refine gx J<|cs 15 J J J (fun hg15=>?_) (fun hg15=>?_)
  .
   refine br J J J (fun hc19=>?_) (fun hc19=>?_)
   .
    have hd0:=dk a 0;have hd1:=dk b 0;refine ix _ J (cp (k:=0) J pb) J<|ix (hv:=by simp only[aj];exact⟨pb,⟨(x7 _ _),(yx (dk _ _) (dk _ _))⟩⟩) _ J (cp (k:=0) J pb) J<|cl J (qo (u:=(dg a).getD 0 0*(dg b).getD 0 0) (by have:=BH (dk a 0) (dk b 0);omega)) J<|rz J (by rw[uP,uP];rfl)
   .
    exact at_ () trivial
  .
   exact at_ () trivial
 .
  refine ah 31 (.d (vI ((dg a).length:Nat))) J omP<|gx (fu:=⟨2⟩) J<|ah 33 (.d (vI ((dg b).length:Nat))) J (by rw[hlb];rfl)<|gx J<|mk (fu:=⟨8⟩) ((List.replicate ((dg a).length+(dg b).length) 0).map dU) J J omz J<|ah 37 (.d (vI ((dg a).length:Nat))) J omP<|gx J<|lp (X:=List Nat×Nat) (fun⟨W,i⟩=>[(0, .d (dN a)),(1, .d (dN b)),(5, .rw 35),(36, .d (dN a)),(37, .d (vI ((dg a).length:Nat))),(38, .d (vI (i:Nat)))]) (fun⟨W,i⟩=>[(35,some (.b 225 1 (W.map dU) true))]) (fun⟨W,i⟩=>W.length=(dg a).length+(dg b).length/\bt W/\i<=(dg a).length/\dv (W.take (i+(dg b).length))=dv ((dg a).take i)*b) (fun⟨W,i⟩=>(dg a).length-i) ⟨List.replicate ((dg a).length+(dg b).length) 0,0⟩ J ⟨v8, .replicate _,pb,by rw[pR,uY];simp[dv]⟩ (fun _=>J) (fun⟨W,i⟩ hk=>?_);dsimp only at hk⊢;obtain⟨h1,h2,h3,h4⟩:=hk;refine br J J J (fun hc39=>?_) (fun hc39=>?_)
  .
   refine ix (fu:=⟨15⟩) _ J (dG) J<|ah 44 (.d (vI ((dg b).length:Nat))) J (by rw[hlb];rfl)<|gx J<|lp (X:=List Nat×Nat×Nat) (fun⟨W2,c,k⟩=>[(0, .d (dN a)),(1, .d (dN b)),(5, .rw 35),(6, .d (vI (i:Nat))),(7, .d (dU ((dg a).getD i 0))),(8, .d (.v (.int .u64 (c:Nat)))),(36, .d (dN a)),(37, .d (vI ((dg a).length:Nat))),(38, .d (vI (i:Nat))),(43, .d (dN b)),(44, .d (vI ((dg b).length:Nat))),(45, .d (vI (k:Nat)))]) (fun⟨W2,c,k⟩=>[(35,some (.b 225 1 (W2.map dU) true))]) (fun⟨W2,c,k⟩=>W2.length=(dg a).length+(dg b).length/\bt W2/\c<4294967296/\k<=(dg b).length/\dv (W2.take (i+(dg b).length))+4294967296^(i+k)*c=dv ((dg a).take i)*b+(dg a).getD i 0*(4294967296^i*dv ((dg b).take k))) (fun⟨W2,c,k⟩=>(dg b).length-k) ⟨W,0,0⟩ J ⟨h1,h2,pb,pb,by rw[h4];simp[dv]⟩ (fun _=>J) (fun⟨W2,c,k⟩ hk=>?_);dsimp only at hk⊢;obtain⟨g1,g2,g3,g4,g5⟩:=hk;have hlw:=bC W2;have hw:=g2.get (i+k);have hda:=dk a i;have hdb:=dk b k;refine br (fu2:=⟨10⟩) J J J (fun hc46=>?_) (fun hc46=>?_)
   .
    refine ix (fu:=⟨12⟩) (hv:=by simp only[aj];exact⟨⟨pb,pb⟩,⟨(x7 _ _),(yx (dk _ _) (dk _ _))⟩⟩) _ J (dG) J<|?_;obtain⟨p,hp⟩: ∃p,p=(dg a).getD i 0*(dg b).getD k 0:=⟨_,rfl⟩;have hp1:p<=18446744065119617025:=hp▸BH hda hdb;refine ah 54 (.d (.v (.int .u64 (p:Nat)))) J (by rw[hp,gM])<|gx J<|lb (fu:=⟨4⟩) _ J (cp (k:=i+k)) J<|?_;obtain⟨t,ht⟩: ∃t,t=p+W2.getD (i+k) 0+c:=⟨_,rfl⟩;refine ah 64 (.d (.v (.int .u64 (t:Nat)))) J omT<|gx (fu:=⟨11⟩) J<|ah 70 (.d (dU (t%4294967296))) J omg<|gx J<|sb (fu:=⟨5⟩) (hv:=by simp only[aj];exact v6) _ ((W2.set (i+k) (t%4294967296)).map dU) J (cp (k:=i+k)) J (by(rw[show((i:Int)+k).toNat=i+k by omega,<-iw])<;>rfl) J<|ah 73 (.d (.v (.int .u64 (t/4294967296:Nat)))) J okq<|gx J<|at_ ⟨W2.set (i+k) (t%4294967296),t/4294967296,k+1⟩ oki
   .
    obtain rfl:k=(dg b).length:=by omega
    refine ah 78 (.d (vI ((dg b).length:Nat))) J (by rw[hlb];rfl)<|gx (fu:=⟨3⟩) J<|ah 81 (.d (dU c)) J (ome pb)<|gx J<|sb _ ((W2.set (i+(dg b).length) c).map dU) J (cp (k:=i+(dg b).length)) J (by(rw[show((i:Int)+((dg b).length:Nat)).toNat=i+(dg b).length by omega,<-iw])<;>rfl) J<|at_ ⟨W2.set (i+(dg b).length) c,i+1⟩ okG
  .
   obtain rfl:i=(dg a).length:=by omega
   refine fz 35 J J<|cl J (pp (ds:=W)) J<|rz J (jF h2 okr)
def FS(x s:Nat):x*2^s=x*2^s%4294967296+4294967296*(x*2^s/4294967296):=by omega
def O0(hx:x<4294967296)(hs:s<32):x*2^s/4294967296<2^s:=by
 rw[jV v6,bM (2^s)];exact mV hx (bZ _) (gV v6)
def Ei(hs:s<32):2^s*2^(32-s)=4294967296:=by rw[<-fW,show s+(32-s)=32 by omega]
def TG(x s:Nat)(hs:s<32):x*2^s%4294967296=x%2^(32-s)*2^s:=by
 rw[<-Ei hs,bM (2^s),Nat.mul_mod_mul_right]
def JC(hx:x<4294967296)(hs:s<32):x*2^s<18446744073709551616:=by
 have h1:2^s<=2^31:=bU v6 pb;have:=mV hx h1 v6;omega
def JP(hw:w<2^s)(hs:s<32):(BitVec.ofInt 32 (w:Int) ||| BitVec.ofInt 32 ((x*2^s%4294967296:Nat):Int)).toNat=w+x*2^s%4294967296:=by
 rw[TG x s hs];refine oE 32 _ _ _ hw ?_;have h1:x%2^(32-s)+1<=2^(32-s):=cR _ (gV v6);have h2:=bX (2^s) h1;rw[bM (2^(32-s)),Ei hs,cN,mS] at h2;show _<4294967296;omega
def P2(hh:h<4294967296):(BitVec.ofInt 32 ((0:Nat):Int) ||| BitVec.ofInt 32 (h:Int)).toNat=h:=by
 have:=oE 32 0 h 0 v6 (by simpa using hh);simpa using this
def Dz(k:Nat):2^k=4294967296^(k/32)*2^(k%32):=by
 rw[show(4294967296:Nat)=2^32 from J,<-tX,<-fW,qZ]
def getD_set_ne(h:i≠j:=by omega):(W.set i d).getD j 0=W.getD j 0:=by
 rw[aJ,aJ,List.getElem?_set_ne h]
def y6(h:i<W.length):(W.set i d).getD i 0=d:=by
 rw[aJ,oJ h];rfl
def Lo{A W:List Nat}{k q s i x:Nat}(hq:q=k/32)(hs:s=k%32)(hl:q+i+1<W.length)(hx:x=A.getD i 0)
  (h:dv (W.take (q+i+1))=dv (A.take i)*2^k):
  dv (((W.set (q+i) (W.getD (q+i) 0+x*2^s%4294967296)).set (q+i+1) (x*2^s/4294967296)).take (q+(i+1)+1))=dv (A.take (i+1))*2^k:=by
 have e1:=IF (W:=W) (j:=q+i) (m:=q+i+1) (d:=W.getD (q+i) 0+x*2^s%4294967296) pb pb;rw[show q+(i+1)+1=q+i+1+1 by omega,t6 okY,mv A,<-hx];have e2:dv ((W.set (q+i) (W.getD (q+i) 0+x*2^s%4294967296)).take (q+i+1))=dv (A.take i)*2^k+4294967296^(q+i)*(x*2^s%4294967296):=by
  rw[eJ,h] at e1;omega
 rw[e2,gJ,cX,kX,<-eJ,<-FS,cN,Dz k,<-hq,<-hs,fW];simp only[cX,mN,bM]
theorem omt{p:Prop}(h:p:=by show FX.d (.v (.int _ _))= .d (.v (.int _ _));rw[zj hk]):p:=h
theorem oza{p:Prop}(h:p:=by show FX.d (.v (.int _ _))= .d (.v (.int _ _));rw[Lh]):p:=h
def C7[ha:BN a ia](hk:k<=1000000000)(hi:ia<=1000000000:=by decide):PF GB prog 262 [dN a,vI (k:Nat)] (dN (a*2^k)):=by
 have hla:=bC (dg a);have hba:=s7 ha.h hi;refine fn (fu:=⟨9⟩) func262 J J ntmps262 J J (fun C=>?_);refine ah 11 (.d (vI (k/32:Nat))) J omt<|gx (fu:=⟨2⟩) J<|ah 13 (.d (vI ((dg a).length:Nat))) J omP<|gx (fu:=⟨2⟩) J<|ah 15 (.d (vI (k/32+(dg a).length+1:Nat))) J omg<|gx J<|mk (fu:=⟨7⟩) (hv:=by simp only[aj];exact v6) ((List.replicate (k/32+(dg a).length+1) 0).map dU) J J omz J<|ah 18 (.d (vI (k%32:Nat))) J oza<|gx (fu:=⟨9⟩) J<|ah 21 (.d (vI ((dg a).length:Nat))) J omP<|gx J<|lp (X:=List Nat×Nat) (fun⟨W,i⟩=>[(0, .d (dN a)),(1, .d (vI (k:Nat))),(5, .rw 16),(6, .d (.v (.int .u64 (k%32:Nat)))),(20, .d (dN a)),(21, .d (vI ((dg a).length:Nat))),(22, .d (vI (i:Nat)))]) (fun⟨W,i⟩=>[(16,some (.b 225 1 (W.map dU) true))]) (fun⟨W,i⟩=>W.length=k/32+(dg a).length+1/\bt W/\i<=(dg a).length/\dv (W.take (k/32+i+1))=dv ((dg a).take i)*2^k/\W.getD (k/32+i) 0<2^(k%32)/\ ∀j,k/32+i<j->W.getD j 0=0) (fun⟨W,i⟩=>(dg a).length-i) ⟨List.replicate (k/32+(dg a).length+1) 0,0⟩ J ⟨v8, .replicate _,pb,by rw[pR,uY];simp[dv],by rw[BS];exact gV v6,fun j _=>BS _ _⟩ (fun _=>J) (fun⟨W,i⟩ hk=>?_);dsimp only at hk⊢;obtain⟨h1,h2,h3,h4,h5,h6⟩:=hk;have hlw:=bC W;have hda:=dk a i;have hsk:k%32<32:=cR _ v6;have hpp:2^(k%32)<=2^31:=bU v6 pb;refine br J J J (fun hc23=>?_) (fun hc23=>?_)
 .
  refine ix (fu:=⟨11⟩) (hv:=by simp only[aj];exact⟨pb,pb⟩) _ J (dG) J<|?_;have hhi:=O0 hda hsk;have hfit0:=JC hda hsk;have hor:=JP (x:=(dg a).getD i 0) h5 hsk;have hfit:W.getD (k/32+i) 0+(dg a).getD i 0*2^(k%32)%4294967296<4294967296:=by rw[<-hor];exact BitVec.isLt _
  have hlp:=FS ((dg a).getD i 0) (k%32);refine ah 30 (.d (.v (.int .u64 ((dg a).getD i 0*2^(k%32):Nat)))) J (by show FX.d (.v (.int _ _))= .d (.v (.int _ _));rw[oC _ (k%32) pb hfit0]) ?_;obtain⟨t,ht⟩: ∃t,t=(dg a).getD i 0*2^(k%32):=⟨_,rfl⟩;simp only[<-ht] at hhi hfit0 hor hfit hlp;rw[<-ht];refine gx (fu:=⟨8⟩) J<|ah 33 (.d (vI (k/32:Nat))) J omt<|gx J<|lb (fu:=⟨2⟩) _ J (cp (k:=k/32+i)) J<|ah 39 (.d (dU (t%4294967296))) J omg<|gx (fu:=⟨1⟩) J<|ah 40 _ J (congrArg (fun z:Nat=>FX.d (.v (.int .u32 (z:Int)))) hor)<|gx J<|sb (fu:=⟨6⟩) _ ((W.set (k/32+i) (W.getD (k/32+i) 0+t%4294967296)).map dU) J (cp (k:=k/32+i)) J (by(rw[show(((k/32:Nat):Int)+i).toNat=k/32+i by omega];simp only[jY];rfl)<;>rfl) J<|ah 44 (.d (vI (k/32:Nat))) J omt<|gx J<|lb (fu:=⟨0⟩) _ J (cp (k:=k/32+i+1) pb okY) J<|ah 49 (.d (dU 0)) J (by rw[getD_set_ne,h6 _ pb])<|gx (fu:=⟨2⟩) (hv:=by simp only[aj];exact v6) J<|ah 51 (.d (.v (.int .u64 (t/4294967296:Nat)))) J okq<|gx (fu:=⟨1⟩) J<|ah 52 (.d (dU (t/4294967296))) J (ome pb)<|gx (fu:=⟨1⟩) J<|ah 53 _ J (congrArg (fun z:Nat=>FX.d (.v (.int .u32 (z:Int)))) (P2 pb))<|gx J<|sb _ (((W.set (k/32+i) (W.getD (k/32+i) 0+t%4294967296)).set (k/32+i+1) (t/4294967296)).map dU) J (cp (k:=k/32+i+1) pb okY) J (by(rw[show(((k/32:Nat):Int)+i+1).toNat=k/32+i+1 by omega];simp only[jY];rfl)<;>rfl) J<|at_ ⟨(W.set (k/32+i) (W.getD (k/32+i) 0+t%4294967296)).set (k/32+i+1) (t/4294967296),i+1⟩ (by dsimp only;exact⟨⟨by simpa using h1,(h2.set _ hfit).set _ pb,pb,by have q:=Lo (x:=(dg a).getD i 0) J J pb J h4;rw[<-ht] at q;exact q,by rw[show k/32+(i+1)=k/32+i+1 by omega,y6 omk];exact hhi,fun j hj=>by rw[getD_set_ne,getD_set_ne];exact h6 j pb⟩,pb⟩)
 .
  obtain rfl:i=(dg a).length:=by omega
  refine fz 16 J J<|cl J (pp (ds:=W)) J<|rz J (jF h2 okr)
def UA(h:(dg a).length<=k/32):a/2^k=0:=by
 refine lV ?_;have h1:=lu (fB a);rw[cG] at h1;have h2:4294967296^(dg a).length<=4294967296^(k/32):=bU v6 h;have h3:4294967296^(k/32)*1<=4294967296^(k/32)*2^(k%32):=dY _ (gV v6);rw[Dz k];omega
def ER(h:bt ds)(q:Nat):dv (ds.drop q)=dv ds/4294967296^q:=by
 rcases iY ds.length q with hq|hq
 .rw[jL pb]
  have h1:=lu h;have h2:4294967296^ds.length<=4294967296^q:=bU v6 pb;rw[lV pb];rfl
 .have e:=wE ds q hq
  have h1:=lu (h.take q);rw[bR,iN hq] at h1;rw[e,pX _ _ (gV v6),lV h1,eX]
def AR(h:bt ds)(i:Nat):dv ds/4294967296^i=ds.getD i 0+4294967296*ds.getD (i+1) 0+18446744073709551616*(dv ds/4294967296^(i+2)):=by
 have e0:=ER h i;have e2:=ER h (i+2);rw[<-e0,<-e2];have g0:ds.getD i 0=(ds.drop i).getD 0 0:=by rw[aJ,aJ,oZ];rfl
 have g1:ds.getD (i+1) 0=(ds.drop i).getD 1 0:=by rw[aJ,aJ,oZ]
 have g2:ds.drop (i+2)=(ds.drop i).drop 2:=by rw[List.drop_drop]
 rw[g0,g1,g2]
 match ds.drop i with
 |[]=>rfl
 |[u]=>simp[dv]
 |u::v::t=>simp only[dv,sU,kM,sY,fM];omega
def In{D u Z:Nat}(hs:s<32)(hZ:D/4294967296^i=u+4294967296*v+18446744073709551616*Z)(hw:w=(u+v*4294967296)/2^s%4294967296):(D/2^s)%4294967296^(i+1)=(D/2^s)%4294967296^i+4294967296^i*w:=by
 rw[gJ,Nat.mod_mul];congr 2;rw[qM,bM (2^s),<-qM,hZ,hw];have h1:18446744073709551616=2^s*(2^(32-s)*4294967296):=by rw[<-cX,Ei hs]
 rw[h1,cX (2^s),pX _ _ (gV v6),bM v];rw[bM (2^(32-s)),cX,pU]
def Ur(hq:q=k/32)(hs:s=k%32)(hl:W.length=(dg a).length-q)(h:dv (W.take ((dg a).length-q))=(dv ((dg a).drop q)/2^s)%4294967296^((dg a).length-q)):dv W=a/2^k:=by
 rw[jl] at h;have h1:=lu ((fB a).drop q);rw[gU] at h1;have h2:=lL (dv ((dg a).drop q)) (2^s);rw[h,gQ pb,ER (fB a),cG,Dz k,<-hq,<-hs,qM]
theorem omn{p:Prop}(h:p:=by show FX.d (.v (.int _ _))= .d (.v (.int _ _));rw[oC _ 32 v6 (by show _*4294967296<_;omega) J]):p:=h
theorem omp{p:Prop}(h:p:=by show _+_*4294967296<18446744073709551616;omega):p:=h
def ZM[ha:BN a ia](hk:k<=1000000000)(hi:ia<=1000000000:=by decide):PF GB prog 263 [dN a,vI (k:Nat)] (dN (a/2^k)):=by
 have hla:=bC (dg a);have hba:=s7 ha.h hi;refine fn (fu:=⟨10⟩) func263 J J ntmps263 J J (fun C=>?_);refine ah 12 (.d (vI (k/32:Nat))) J omt<|gx (fu:=⟨2⟩) J<|ah 14 (.d (vI ((dg a).length:Nat))) J omP<|gx J<|br (fu2:=⟨6⟩) (v2:=fun _=>by simp only[aj];exact v6) J J J (fun hc15=>?_) (fun hc15=>?_)
 .
  exact rz J (by rw[UA pb,kr];rfl)
 .
  refine ah 17 (.d (vI (k%32:Nat))) J oza<|gx (fu:=⟨9⟩) J<|ah 21 (.d (vI (k/32:Nat))) J omt<|gx J<|js (fu:=⟨0⟩) (k/32) (dg a).length _ J J (by rw[hla]) J (pn _) pb pb J<|?_;obtain⟨I,hI⟩: ∃I,I=(dg a).drop (k/32):=⟨_,rfl⟩;have hIl:I.length=(dg a).length-k/32:=by rw[hI,gU]
  have hIm:=bC I;have hIo:bt I:=hI▸(fB a).drop _;refine ah 22 (.d (dt I)) J (by show FX.d (.sl _)= .d (.sl _);rw[hI,<-hla,cS,iW])<|gx (fu:=⟨7⟩) J<|ah 24 (.d (vI (I.length:Nat))) J (by rw[hIm];rfl)<|gx J<|mk (fu:=⟨8⟩) ((List.replicate I.length 0).map dU) J J omz J<|ah 27 (.d (vI (I.length:Nat))) J (by rw[hIm];rfl)<|gx J<|lp (X:=List Nat×Nat) (fun⟨W,i⟩=>[(0, .d (dN a)),(5, .d (.v (.int .u64 (k%32:Nat)))),(6, .d (dt I)),(7, .rw 25),(26, .d (dt I)),(27, .d (vI (I.length:Nat))),(28, .d (vI (i:Nat)))]) (fun⟨W,i⟩=>[(25,some (.b 225 1 (W.map dU) true))]) (fun⟨W,i⟩=>W.length=I.length/\bt W/\i<=I.length/\dv (W.take i)=(dv I/2^(k%32))%4294967296^i) (fun⟨W,i⟩=>I.length-i) ⟨List.replicate I.length 0,0⟩ J ⟨v8, .replicate _,pb,by simp[dv,Nat.mod_one]⟩ (fun _=>J) (fun⟨W,i⟩ hk=>?_);dsimp only at hk⊢;obtain⟨h1,h2,h3,h4⟩:=hk;have hlw:=bC W;have hda:=hIo.get i;have hdb:=hIo.get (i+1);have hsk:k%32<32:=cR _ v6;refine br J J J (fun hc29=>?_) (fun hc29=>?_)
  .
   refine ix (fu:=⟨13⟩) _ J (dG) J<|mg (fu:=⟨6⟩) (hv:=fun _ _=>by simp only[aj];exact pb) (X:=Unit) (fun _=>[(0, .d (dN a)),(5, .d (.v (.int .u64 (k%32:Nat)))),(6, .d (dt I)),(7, .rw 25),(26, .d (dt I)),(27, .d (vI (I.length:Nat))),(28, .d (vI (i:Nat))),(8, .d (vI (i:Nat))),(10, .d (.v (.int .u64 (I.getD i 0+I.getD (i+1) 0*4294967296:Nat))))]) (fun _=>[(25,some (.b 225 1 (W.map dU) true))]) (fun _=>True) [0,5,6,7,26,27,28,8,10] [25] rfl ?_ (fun _=>J) (fun _ hm=>?_)
   .
    refine gx (fu:=⟨6⟩) J<|ah 38 (.d (vI (I.length:Nat))) J (by rw[hIm];rfl)<|gx J<|br J J J (fun hc39=>?_) (fun hc39=>?_)
    .
     refine ix (fu:=⟨3⟩) (hv:=by simp only[aj];exact⟨pb,v6⟩) _ J (cp (k:=i+1)) J<|ah 47 (.d (.v (.int .u64 (I.getD (i+1) 0*4294967296:Nat)))) J omn<|gx (fu:=⟨1⟩) J<|ah 48 _ J (congrArg (fun z:Nat=>FX.d (.v (.int .u64 (z:Int)))) (oE 64 (I.getD i 0) (I.getD (i+1) 0) 32 hda omp))<|gx J<|at_ () trivial
    .
     refine ah 10 (.d (.v (.int .u64 (I.getD i 0+I.getD (i+1) 0*4294967296:Nat)))) J (by rw[oF (by omega:I.length<=i+1),kK,gW])<|at_ () trivial
   .
    refine ah 53 (.d (.v (.int .u64 ((I.getD i 0+I.getD (i+1) 0*4294967296)/2^(k%32):Nat)))) J (by show FX.d (.v (.int _ _))= .d (.v (.int _ _));rw[Ij _ (k%32)])<|gx (fu:=⟨1⟩) J<|?_;obtain⟨w,hw⟩: ∃w,w=(I.getD i 0+I.getD (i+1) 0*4294967296)/2^(k%32)%4294967296:=⟨_,rfl⟩;have hw1:w<4294967296:=hw▸cR _ v6;refine ah 54 (.d (dU w)) J (by show FX.d (.v (.int _ _))= .d (.v (.int _ _));rw[hw];congr 3)<|gx J<|sb _ ((W.set i w).map dU) J (dG) J (by(rw[<-iw];rfl)<;>rfl) J<|at_ ⟨W.set i w,i+1⟩ (by dsimp only;exact⟨⟨by simpa using h1,h2.set _ pb,pb,by rw[t6,h4];exact(In hsk (AR hIo i) hw).symm⟩,pb⟩)
  .
   refine fz 25 rfl rfl<|cl rfl (pp (ds:=W)) rfl<|rz rfl (jF h2 (by obtain rfl:i=I.length:=pb;rw[hIl] at h1 h4;rw[hI] at h4;exact Ur rfl rfl h1 h4))
def wY(h:a<4294967296^k):(dg a).length<=k:=by
 rcases iY k (dg a).length with q|q
 .have h1:=um (f6 a).2.2 (by intro e;rw[e] at q;simp at q)
  rw[cG] at h1;have h2:4294967296^k<=4294967296^((dg a).length-1):=bU v6 pb;omega
 .exact q
def SM(h:(dg a).length=2):(dg a).getD 0 0+(dg a).getD 1 0*4294967296=a:=by
 have e:=cG a;revert e
 match dg a,h with
 |[x,y],_=>intro e;simp[dv] at e⊢;omega
def w4(a:Nat):DV:= .tp [.v (.int .u64 ((if a<18446744073709551616 then a else 0:Nat):Int)),vB (decide (a<18446744073709551616))]
def KA(h:a<18446744073709551616:=by omega):w4 a= .tp [.v (.int .u64 (a:Int)),vB true]:=by unfold w4;rw[if_pos h,decide_eq_true h]
def awb(h: ¬a<18446744073709551616):w4 a= .tp [.v (.int .u64 0),vB false]:=by unfold w4;rw[if_neg h,decide_eq_false h];rfl
def qd(a:Nat):a<4294967296^(dg a).length:=by have:=lu (fB a);rwa [cG] at this
theorem omw{p:Prop}(h:p:=by show _*4294967296<_;omega):p:=h
def AZ{a ia:Nat}[ha:BN a ia](hi:ia<=1000000000:=by decide):PF GB prog 206 [dN a] (w4 a):=by
 have hla:=bC (dg a);have hba:=s7 ha.h hi;have hlt:=qd a;have hd00:=dk a 0;refine fn (fu:=⟨11⟩) func206 J J ntmps206 J J (fun C=>?_);refine ah 5 (.d (vI ((dg a).length:Nat))) J omP<|gx J<|br J J J (fun hc6=>?_) (fun hc6=>?_)
 .
  exact rz rfl (by rw[show(dg a).length=0 by omega] at hlt;obtain rfl:a=0:=pb;rfl)
 .
  refine br J J J (fun hc8=>?_) (fun hc8=>?_)
  .
   refine ix (fu:=⟨2⟩) _ J (cp (k:=0) J pb) J<|ah 13 (.d (.v (.int .u64 (a:Nat)))) J (by rw[uP])<|gx J<|rz J (by rw[show(dg a).length=1 by omega] at hlt;rw[KA,<-uP (a:=a),uP (a:=a)];rfl)
  .
   refine br J J J (fun hc14=>?_) (fun hc14=>?_)
   .
    have hd0:=dk a 0;have hd1:=dk a 1;refine ix (hv:=by simp only[aj];exact⟨pb,v6⟩) _ J (cp (k:=1) J pb) J<|ix (fu:=⟨3⟩) _ J (cp (k:=0) J pb) J<|ah 25 (.d (.v (.int .u64 (a:Nat)))) J (congrArg (fun z:Nat=>FX.d (.v (.int .u64 (z:Int)))) (by rw[oC _ 32 v6 omw J,BitVec.or_comm];exact(oE 64 ((dg a).getD 0 0) ((dg a).getD 1 0) 32 hd0 omp).trans (SM pb)))<|gx J<|rz J (by rw[show(dg a).length=2 by omega] at hlt;rw[KA];rfl)
   .
    exact rz rfl (by rw[awb];rfl;intro h;have:=wY (a:=a) (k:=2) pb;omega)
section
variable {own:aF}
def iB{fb:Func}{e:Exit}{ds:List DV}{rv:DV}(hr:og tt fr own fb.results.toList=some ds)(hd: ∀G y,Is G (ic ds) y->Is G rv y)(he:y9 e=true:=by rfl):ao prog GB C n (dx C prog fb (je C (fun v G'=>Is G' rv v))) fr own (.ex e []):=by
 refine⟨fun ρ G ov a w r=>?_⟩;obtain⟨vs,h1,h2⟩:=yb r hr;have hk:Is G rv (my vs):=hd _ _ (xI h2)
 cases e with
 |ret=>exact zD (C:=C) (n:=n) (fr:=b8 a) (own:=ov) (G:=G) (K:=fun v G'=>Is G' rv v) h1 hk a w ⟨r.h,r.sz,b9 a,r.df⟩
 |normal=>exact FG (C:=C) (n:=n) (fr:=b8 a) (own:=ov) (G:=G) (K:=fun v G'=>Is G' rv v) h1 hk a w ⟨r.h,r.sz,b9 a,r.df⟩
 |_=>cases he
def LD(fr:aA)(cf:Cf):Option (Int×IntKind):=match cO fr cf with
 |some ⟨_, .convert t t' x,_,_,_,_⟩=>match di tt t,di tt t',ba (bH fr cf) x with
  |some ⟨.int k,_,_,_⟩,some ⟨.int k',_,_,_⟩,some (.d (.v (.int j p)))=>bif kq k j then some (p,k') else none
  |_,_,_=>none
 |_=>none
def cu[fu:Fu](u:Int)(h:LD fr cf=some (p,k'))(e:k'.wrap p=u)(hgo:cv tt n fu.n fr own cf (.d (.v (.int k' u))) [] []=⟨vc,fr',own',cf'⟩)(k:ao prog GB C n Q0 fr' own' cf')
  (hv:autoParam (aj vc) cL._auto_1):ao prog GB C n Q0 fr own cf:=by
 unfold LD at h;split at h<;>try (cases h;done)
 rename_i hh;split at h<;>try (cases h;done)
 rename_i k0 _ _ _ k1 _ _ _ j p0 hT hT' hx
 cases hk:kq k0 j with
 |false=>rw[hk] at h;cases h
 |true=>
  rw[hk,cond_true] at h;cases h;cases AG hk;have:=wk (dw _ _ hT) J;have:=wk (dw _ _ hT') J;subst e;refine us hh (.x1 hx fun ρ G ov a w y _ r h1 h2=>?_) hgo hv k;rw[cC] at h2;subst h2;exact⟨_,cC.2 J,CL h1⟩
def Ob(fr:aA)(cf:Cf):Option (Int×IntKind):=match cO fr cf with
 |some ⟨_, .unOp .neg _ x,_,_,_,_⟩=>match ba (bH fr cf) x with
  |some (.d (.v (.int j p)))=>some (p,j)
  |_=>none
 |_=>none
def nu[fu:Fu](u:Int)(h:Ob fr cf=some (p,k'))(e:k'.wrap (0-p)=u)(hgo:cv tt n fu.n fr own cf (.d (.v (.int k' u))) [] []=⟨vc,fr',own',cf'⟩)(k:ao prog GB C n Q0 fr' own' cf')
  (hv:autoParam (aj vc) cL._auto_1):ao prog GB C n Q0 fr own cf:=by
 unfold Ob at h;split at h<;>try (cases h;done)
 rename_i hh;split at h<;>cases h;rename_i hx;subst e;exact us hh (.x1 hx fun ρ G ov a w y _ r h1 h2=>by
  rw[cC] at h2;subst h2;exact⟨_,cC.2 J,Fl h1⟩) hgo hv k
end
def PH(h:0<W.length:=by omega)(hz:W.getD (W.length-1) 0=0:=by omega):trimD W=trimD (W.take (W.length-1)):=by
 have:=KF (ds:=W) (n:=W.length) ⟨h,bZ _⟩ hz;rwa [cS] at this
def Cv(hz:0<W.length->W.getD (W.length-1) 0≠0):trimD W=W:=by
 have:=Ic (ds:=W) (n:=W.length) (bZ _) hz;rwa [cS] at this
theorem omj{p:Prop}(h:p:=by rw[hml]<;>rfl):p:=h
def qy(hl:ds.length<=1125899906842624:=by omega):PF GB prog 193 [dt ds] (dt (trimD ds)):=by
 refine fn func193 J J ntmps193 J J (fun C=>?_);refine lp (fu:=⟨5⟩) (X:=List Nat) (fun W=>[(0, .d (dt W))]) (fun W=>[]) (fun W=>trimD ds=trimD W/\W.length<=ds.length) (fun W=>W.length) ds J ⟨J,bZ _⟩ (fun _=>J) (fun W hk=>?_);obtain⟨h1,h2⟩:=hk;have hml:=bC W;refine ah 4 (.d (vI (W.length:Nat))) J omj<|gx J<|cs (fu1:=⟨3⟩) 6 J J J (fun hg6=>?_) (fun hg6=>?_)
 .
  refine ah 9 (.d (vI (W.length:Nat))) J omj<|gx J<|ix _ J (cp (k:=W.length-1)) J<|br (fu1:=⟨7⟩) J J J (fun hc14=>?_) (fun hc14=>?_)
  .
   refine ah 17 (.d (vI (W.length:Nat))) J omj<|gx (fu:=⟨1⟩) J<|ah 18 (.d (vI (W.length-1:Nat))) J (ome pb)<|gx J<|js (fu:=⟨0⟩) 0 (W.length-1) _ J J J J (pn _) pb v8 J<|ah 19 (.d (dt (W.take (W.length-1)))) J (by show FX.d (.sl _)=FX.d (.sl _);simp)<|gx J<|at_ (W.take (W.length-1)) ⟨⟨by rw[h1,PH],by rw[bR];omega⟩,(by rw[bR];omega)⟩
  .
   exact rz J (by rw[h1,Cv (fun _=>by omega)];rfl)
 .
  exact rz J (by rw[h1,Cv (fun _=>by omega)];rfl)
def V5{v:Value}(hd:bt ds)(h:Is G (dt ds) v): ∃x:SV,v=x.v/\pz G x ds:=by
 obtain⟨x,rfl,h1⟩:=JM.1 h;exact⟨x,J,hd,h1⟩
def Ns(hd:bt ds)(hb:ds.length<=1125899906842:=by omega):PF GB prog 250 [dt ds] (dt ds):=fun G vs _ hv=>by
 obtain⟨v,m,rfl,h1,h2⟩:=bE.1 hv
 cases eD.1 h2
 obtain⟨x,rfl,h3⟩:=V5 hd h1;exact(R5 h3 hb).mono fun v G' _ ⟨z,e,h⟩=>by subst e;exact JM.2 ⟨z,J,h.sl⟩
def X9(h:ds.length=0):fk ds:=by rw[cV h];unfold fk;simp
def UX(h:0<ds.length):fk ds↔ds.getD (ds.length-1) 0≠0:=by
 unfold fk;rw[lQ,aJ,aQ pb];simp
def Xf(a:Nat):trimD (dg a)=dg a:=Xn (f6 a).2.2
def ni(h:(dg a).length<=1125899906842624:=by omega):PF GB prog 193 [dN a] (dN a):=(qy (ds:=dg a) h).to (by rw[Xf];rfl)
def gP[h:BN a i](hi:i<=1000000000:=by omega):(dg a).length<=31250001:=by have:=k9 h.h;omega
def rA[h:BN a i](hi:i<=1000000000:=by decide):PF GB prog 185 [dN a] (dN a):=by
 have hla:=bC (dg a);have hba:=gP (a:=a) hi;refine fn func185 J J ntmps185 J J (fun C=>?_);refine cl J (ni) J<|cl J (Ns (fB _)) J<|rz J J
theorem omo{p:Prop}(h:p:=by rw[hla]<;>rfl):p:=h
def Oa(hd:bt ds)(hl:ds.length<=1125899906842624):PF GB prog 290 [dt ds] (vB (decide (fk ds))):=by
 have hla:=bC ds;refine fn (fu:=⟨9⟩) func290 J J ntmps290 J J (fun C=>?_);refine ah 4 (.d (vI (ds.length:Nat))) J omo<|gx J<|cs (fu2:=⟨3⟩) 6 J J J (fun hg6=>?_) (fun hg6=>?_)
 .
  exact rz J (by rw[decide_eq_true (X9 pb)];rfl)
 .
  refine ah 9 (.d (vI (ds.length:Nat))) J omo<|gx J<|ix _ J (cp (k:=ds.length-1)) J<|rz J (by show DV.v (.bool (decide _))=DV.v (.bool (decide _));congr 2;exact decide_eq_decide.2 (by rw[UX pb];omega))
def xP(h:a<18446744073709551616:=by omega):PF GB prog 186 [.v (.int .u64 (a:Nat))] (dN a):=by
 refine fn (fu:=⟨11⟩) (hv:=by simp only[aj];exact v6) func186 J J ntmps186 J J (fun C=>?_);refine ah 6 (.d (.v (.int .u64 (a/4294967296:Nat)))) J okq<|gx J<|rf (fu:=⟨0⟩) J J<|ah 8 (.d (dt [a%4294967296,a/4294967296])) J okb<|gx J<|cl J (qy (ds:=[a%4294967296,a/4294967296]) v8) J<|rz J (jF (LH h) (Im a))
theorem omM{p:Prop}(h:p:=by rw[hlb]<;>rfl):p:=h
def Mk[h:BN a i][k:BN b j](hi:i<=1000000000:=by decide)(hj:j<=1000000000:=by decide):PF GB prog 248 [dN a,dN b] (vI (iE a b)):=by
 have hla:=bC (dg a);have hba:=gP (a:=a) hi;have hlb:=bC (dg b);have hbb:=gP (a:=b) hj;refine fn func248 J J ntmps248 J J (fun C=>?_);refine cl J (ni) J<|cl (fu:=⟨9⟩) J (ni) J<|ah 11 (.d (vI ((dg a).length:Nat))) J omo<|gx (fu:=⟨2⟩) J<|ah 13 (.d (vI ((dg b).length:Nat))) J omM<|gx J<|br (fu1:=⟨5⟩) (fu2:=⟨7⟩) J J J (fun hc14=>?_) (fun hc14=>?_)
 .
  refine ah 16 (.d (vI ((dg a).length:Nat))) J omo<|gx (fu:=⟨2⟩) J<|ah 18 (.d (vI ((dg b).length:Nat))) J omM<|gx J<|br J J J (fun hc19=>?_) (fun hc19=>?_)
  .
   exact rz J (by show DV.v (.int _ (-1))=_;rw[<-EN,yf pb];rfl)
  .
   exact rz J (by show DV.v (.int _ 1)=_;rw[<-EN,xY pb];rfl)
 .
  have hl:(dg a).length=(dg b).length:=by omega
  refine ah 21 (.d (vI ((dg a).length:Nat))) J omo<|gx J<|lp (X:=Nat) (fun k=>[(5, .d (vI ((k:Nat)-1)))]) (fun k=>[]) (fun k=>k<=(dg a).length/\(dg a).drop k=(dg b).drop k) (fun k=>k) (dg a).length J ⟨bZ _,by rw[fU,hl,fU]⟩ (fun _=>J) (fun k hk=>?_);obtain⟨h1,h2⟩:=hk;refine br J J J (fun hc24=>?_) (fun hc24=>?_)
  .
   obtain⟨k,rfl⟩: ∃m,k=m+1:=⟨k-1,pb⟩;refine ix _ J (cp (k:=k)) J<|ix _ J (cp (k:=k)) J<|br J J J (fun hc27=>?_) (fun hc27=>?_)
   .
    exact rz J (by show DV.v (.int _ (-1))=_;rw[yf ((vt hl pb h2).1 pb)];rfl)
   .
    refine ix _ J (cp (k:=k)) J<|ix _ J (cp (k:=k)) J<|br J J J (fun hc37=>?_) (fun hc37=>?_)
    .
     exact rz J (by show DV.v (.int _ 1)=_;rw[xY ((vt hl pb h2).2.1 pb)];rfl)
    .
     exact at_ k ⟨⟨pb,(vt (i:=k) hl pb h2).2.2 pb⟩,pb⟩
  .
   exact rz rfl (by show DV.v (.int _ 0)=_;rw[JQ];rfl;obtain rfl:k=0:=pb;rw[fM,fM] at h2;rw[<-cG a,h2,cG])
def S7{a b i j:Nat}[h:BN a i][k:BN b j](hi:i<=1000000000:=by decide)(hj:j<=1000000000:=by decide):PF GB prog 182 [dN a,dN b] (dN (a+b)):=by
 have hla:=bC (dg a);have hba:=gP (a:=a) hi;have hlb:=bC (dg b);have hbb:=gP (a:=b) hj;refine fn (fu:=⟨6⟩) func182 J J ntmps182 J J (fun C=>?_);refine mg (fu:=⟨4⟩) (X:=Nat×Nat) (fun⟨A,B⟩=>[(0, .d (dN A)),(1, .d (dN B))]) (fun⟨A,B⟩=>[]) (fun⟨A,B⟩=>(dg B).length<=(dg A).length/\A+B=a+b/\(dg A).length<=31250001) [0,1] [] rfl ?_ (fun _=>J) (fun⟨A,B⟩ ⟨hm1,hm2,hm3⟩=>?_)
 .
  refine gx (fu:=⟨4⟩) J<|ah 10 (.d (vI ((dg a).length:Nat))) J omo<|gx (fu:=⟨2⟩) J<|ah 12 (.d (vI ((dg b).length:Nat))) J omM<|gx J<|br J J J (fun hc13=>?_) (fun hc13=>?_)
  .
   exact at_ ⟨b,a⟩ ⟨pb,jW b a,hbb⟩
  .
   exact at_ ⟨a,b⟩ ⟨pb,J,hba⟩
 .
  have hlA:=bC (dg A);have hlB:=bC (dg B);refine ah 17 (.d (vI ((dg A).length:Nat))) J (by rw[hlA]<;>rfl)<|gx (fu:=⟨1⟩) J<|ah 18 (.d (vI ((dg A).length+1:Nat))) J omg<|gx J<|mk (fu:=⟨13⟩) ((List.replicate ((dg A).length+1) 0).map dU) J J omz J<|ah 21 (.d (vI ((dg A).length:Nat))) J (by rw[hlA]<;>rfl)<|gx J<|lp (X:=List Nat×Nat×Nat) (fun⟨W,c,i⟩=>[(0, .d (dN A)),(1, .d (dN B)),(5, .rw 19),(6, .d (.v (.int .u64 (c:Nat)))),(20, .d (dN A)),(21, .d (vI ((dg A).length:Nat))),(22, .d (vI (i:Nat)))]) (fun⟨W,c,i⟩=>[(19,some (.b 225 1 (W.map dU) true))]) (fun⟨W,c,i⟩=>W.length=(dg A).length+1/\bt W/\c<=1/\i<=(dg A).length/\dv (W.take i)+4294967296^i*c=dv ((dg A).take i)+dv ((dg B).take i)) (fun⟨W,c,i⟩=>(dg A).length-i) ⟨List.replicate ((dg A).length+1) 0,0,0⟩ J ⟨v8, .replicate _,pb,pb,by simp[dv]⟩ (fun _=>J) (fun⟨W,c,i⟩ hk=>?_)
  try dsimp only at hk⊢
  obtain⟨h1,h2,h3,h4,h5⟩:=hk;have hlw:=bC W;have hda:=dk A i;have hdb:=dk B i;obtain⟨t,ht⟩: ∃t,t=(dg A).getD i 0+(dg B).getD i 0+c:=⟨_,rfl⟩;refine br (fu2:=⟨10⟩) J J J (fun hc23=>?_) (fun hc23=>?_)
  .
   refine ix (fu:=⟨15⟩) _ J (dG) J<|mg (fu:=⟨6⟩) (X:=Unit) (fun _=>[(0, .d (dN A)),(1, .d (dN B)),(5, .rw 19),(6, .d (.v (.int .u64 (t:Nat)))),(20, .d (dN A)),(21, .d (vI ((dg A).length:Nat))),(22, .d (vI (i:Nat))),(7, .d (vI (i:Nat))),(8, .d (dU ((dg A).getD i 0)))]) (fun _=>[(19,some (.b 225 1 (W.map dU) true))]) (fun _=>True) [0,1,5,6,20,21,22,7,8] [19] rfl ?_ (fun _=>J) (fun _ _=>?_)
   .
    refine gx (fu:=⟨5⟩) J<|ah 33 (.d (vI ((dg B).length:Nat))) J (by rw[hlB]<;>rfl)<|gx J<|br J J J (fun hc34=>?_) (fun hc34=>?_)
    .
     refine ix _ J (dG) J<|ah 6 (.d (.v (.int .u64 (t:Nat)))) J (ome pb)<|at_ () trivial
    .
     have hz:=oF (ds:=dg B) (i:=i);refine ah 6 (.d (.v (.int .u64 (t:Nat)))) J (ome pb)<|at_ () trivial
   .
    refine ah 45 (.d (dU (t%4294967296))) J omg<|gx J<|sb (fu:=⟨5⟩) (hv:=by simp only[aj];exact v6) _ ((W.set i (t%4294967296)).map dU) J (dG) J okf J<|ah 48 (.d (.v (.int .u64 (t/4294967296:Nat)))) J okq<|gx J<|at_ ⟨W.set i (t%4294967296),t/4294967296,i+1⟩ (by dsimp only;exact⟨⟨by simpa using h1,h2.set _ pb,pb,pb,by rw[ht];exact N4 pb h5⟩,pb⟩)
  .
   obtain rfl:i=(dg A).length:=by omega
   refine ah 52 (.d (vI ((dg A).length:Nat))) J (by rw[hlA]<;>rfl)<|gx (fu:=⟨2⟩) J<|ah 54 (.d (dU c)) J (ome pb)<|gx J<|sb _ ((W.set (dg A).length c).map dU) J (dG) J okf J<|fz 19 J J<|cl J (qy (ds:=W.set (dg A).length c) omk) J<|rz J (by rw[<-hm2];exact jF (h2.set _ pb) (Mp pb h1 h5))
def arh(hx:x<4294967296)(hy:y<=4294967296):IntKind.u64.wrap ((x:Int)-y)=(((if x<y then x+18446744073709551616-y else x-y):Nat):Int):=by
 rw[pq];split<;>omega
def yl:iE a b<0↔a<b:=by unfold iE;split<;>(try split)<;>omega
section
variable {own:aF}
def IL(fr:aA)(cf:Cf):Option (Int×Int):=match cO fr cf with
 |some ⟨_, .binOp .sub _ x y _,_,_,_,_⟩=>match ba (bH fr cf) x,ba (bH fr cf) y with
  |some (.d (.v (.int .u64 p))),some (.d (.v (.int .u64 q)))=>some (p,q)
  |_,_=>none
 |_=>none
def sd[fu:Fu]{q:Int}(u:Int)(h:IL fr cf=some (p,q))(e:IntKind.u64.wrap (p-q)=u)(hgo:cv tt n fu.n fr own cf (.d (.v (.int .u64 u))) [] []=⟨vc,fr',own',cf'⟩)(k:ao prog GB C n Q0 fr' own' cf')
  (hv:autoParam (aj vc) cL._auto_1):ao prog GB C n Q0 fr own cf:=by
 unfold IL at h;split at h<;>try (cases h;done)
 rename_i hh;split at h<;>cases h;rename_i h1 h2;subst e;exact us hh (.yd fun ρ G ov a w r=>by
  obtain⟨y1,h3,h4⟩:=r.ev h1;obtain⟨y2,h5,h6⟩:=r.ev h2;rw[cC] at h4 h6;subst h4 h6;exact⟨_,cC.2 J,jC h3 h5 fun w=>J⟩) hgo hv k
end
def FY(u:Nat):(u:Int).fdiv (2^min (63:Int).toNat IntKind.u64.bits)=((u/9223372036854775808:Nat):Int):=by
 rw[show(2:Int)^min (63:Int).toNat IntKind.u64.bits=((9223372036854775808:Nat):Int) from J,jT _ v6];rfl
def Uu[h:BN a ia][k:BN b ib](hb:b<=a)(hi:ia<=1000000000:=by decide)(hj:ib<=1000000000:=by decide):PF GB prog 249 [dN a,dN b] (dN (a-b)):=by
 have hla:=bC (dg a);have hba:=gP (a:=a) hi;have hlb:=bC (dg b);have hbb:=gP (a:=b) hj;refine fn (fu:=⟨9⟩) func249 J J ntmps249 J J (fun C=>?_);refine ah 12 (.d (vI ((dg a).length:Nat))) J omo<|gx J<|mk (fu:=⟨13⟩) ((List.replicate (dg a).length 0).map dU) J J omz J<|ah 15 (.d (vI ((dg a).length:Nat))) J omo<|gx J<|lp (X:=List Nat×Nat×Nat) (fun⟨W,c,i⟩=>[(0, .d (dN a)),(1, .d (dN b)),(5, .rw 13),(6, .d (.v (.int .u64 (c:Nat)))),(14, .d (dN a)),(15, .d (vI ((dg a).length:Nat))),(16, .d (vI (i:Nat)))]) (fun⟨W,c,i⟩=>[(13,some (.b 225 1 (W.map dU) true))]) (fun⟨W,c,i⟩=>W.length=(dg a).length/\bt W/\c<=1/\i<=(dg a).length/\dv (W.take i)+dv ((dg b).take i)=dv ((dg a).take i)+4294967296^i*c) (fun⟨W,c,i⟩=>(dg a).length-i) ⟨List.replicate (dg a).length 0,0,0⟩ J ⟨v8, .replicate _,pb,pb,by simp[dv]⟩ (fun _=>J) (fun⟨W,c,i⟩ hk=>?_)
 try dsimp only at hk⊢
 obtain⟨h1,h2,h3,h4,h5⟩:=hk;have hlw:=bC W;have hda:=dk a i;have hdb:=dk b i;obtain⟨t,ht⟩: ∃t,t=(dg b).getD i 0+c:=⟨_,rfl⟩;obtain⟨v,hv⟩: ∃v:Nat,v=if(dg a).getD i 0<t then(dg a).getD i 0+18446744073709551616-t else(dg a).getD i 0-t:=⟨_,rfl⟩
 obtain⟨d,hd⟩: ∃d:Nat,d=if(dg a).getD i 0<(dg b).getD i 0+c then(dg a).getD i 0+4294967296-((dg b).getD i 0+c) else(dg a).getD i 0-((dg b).getD i 0+c):=⟨_,rfl⟩
 obtain⟨c2,hc2⟩: ∃d:Nat,d=if(dg a).getD i 0<(dg b).getD i 0+c then 1 else 0:=⟨_,rfl⟩
 have hvd:v%4294967296=d:=by rw[hv,hd,<-ht];split<;>omega
 have hvc:v/9223372036854775808=c2:=by rw[hv,hc2,<-ht];split<;>omega
 refine br J J J (fun hc17=>?_) (fun hc17=>?_)
 .
  refine ix (fu:=⟨12⟩) _ J (dG) J<|mg (fu:=⟨5⟩) (X:=Unit) (fun _=>[(0, .d (dN a)),(1, .d (dN b)),(5, .rw 13),(6, .d (.v (.int .u64 (c:Nat)))),(14, .d (dN a)),(15, .d (vI ((dg a).length:Nat))),(16, .d (vI (i:Nat))),(7, .d (vI (i:Nat))),(8, .d (dU ((dg a).getD i 0))),(9, .d (.v (.int .u64 (t:Nat))))]) (fun _=>[(13,some (.b 225 1 (W.map dU) true))]) (fun _=>True) [0,1,5,6,14,15,16,7,8,9] [13] rfl ?_ (fun _=>J) (fun _ _=>?_)
  .
   refine gx (fu:=⟨5⟩) J<|ah 24 (.d (vI ((dg b).length:Nat))) J omM<|gx J<|br J J J (fun hc25=>?_) (fun hc25=>?_)
   .
    refine ix _ J (dG) J<|ah 9 (.d (.v (.int .u64 (t:Nat)))) J (ome pb)<|at_ () trivial
   .
    have hz:=oF (ds:=dg b) (i:=i);refine ah 9 (.d (.v (.int .u64 (t:Nat)))) J (ome pb)<|at_ () trivial
  .
   refine sd (fu:=⟨9⟩) ((v:Nat):Int) J (by rw[hv];exact arh hda pb) J<|ah 40 (.d (dU d)) J (ome pb)<|gx J<|sb (fu:=⟨5⟩) (hv:=by simp only[aj];exact v6) _ ((W.set i d).map dU) J (dG) J okf J<|ah 43 (.d (.v (.int .u64 (c2:Nat)))) J (by rw[FY,hvc])<|gx J<|at_ ⟨W.set i d,c2,i+1⟩ (by dsimp only;exact⟨⟨by simpa using h1,h2.set _ (by rw[hd];split<;>omega),by rw[hc2];split<;>omega,pb,OL (fB a) (fB b) pb h3 h5 hd hc2⟩,pb⟩)
 .
  obtain rfl:i=(dg a).length:=by omega
  refine fz 13 J J<|cl J (qy (ds:=W)) J<|rz J (jF h2 (Pn h2 h1 hb h5))
theorem okS{p:Prop}(h:p:=by have:=yl (a:=a) (b:=b);omega):p:=h
def MO[h:BN a i][k:BN b j](hi:i<=1000000000:=by decide)(hj:j<=1000000000:=by decide):PF GB prog 183 [dN a,dN b] (.tp [dN (a-b),vB (decide (b<=a))]):=by
 have hla:=bC (dg a);have hba:=gP (a:=a) hi;have hlb:=bC (dg b);have hbb:=gP (a:=b) hj;refine fn func183 J J ntmps183 J J (fun C=>?_);refine cl J (Mk (a:=a) (b:=b) hi hj) J<|br J J J (fun hc9=>?_) (fun hc9=>?_)
 .
  exact rz J (by rw[show a-b=0 by have:=yl (a:=a) (b:=b);omega,decide_eq_false okS,kr];rfl)
 .
  refine cl J (ni) J<|cl J (ni) J<|cl J (Uu okS hi hj) J<|rz J (by rw[decide_eq_true okS];rfl)
def wn[h:BN a ia][k:BN b ib](hi:ia<=1000000000:=by decide)(hj:ib<=1000000000:=by decide):PF GB prog 113 [dN a,dN b] (dN (a*b)):=by
 have hla:=bC (dg a);have hba:=gP (a:=a) hi;have hlb:=bC (dg b);have hbb:=gP (a:=b) hj;refine fn func113 J J ntmps113 J J (fun C=>?_);refine cl J (ni) J<|cl (fu:=⟨8⟩) J (ni) J<|ah 16 (.d (vI ((dg a).length:Nat))) J omo<|gx (fu:=⟨2⟩) J<|ah 18 (.d (vI ((dg b).length:Nat))) J omM<|gx (fu:=⟨1⟩) J<|ah 19 (.d (vI ((dg a).length+(dg b).length:Nat))) J omg<|gx J<|mk (fu:=⟨8⟩) ((List.replicate ((dg a).length+(dg b).length) 0).map dU) J J omz J<|ah 22 (.d (vI ((dg a).length:Nat))) J omo<|gx J<|lp (X:=List Nat×Nat) (fun⟨W,i⟩=>[(0, .d (dN a)),(1, .d (dN b)),(5, .rw 20),(21, .d (dN a)),(22, .d (vI ((dg a).length:Nat))),(23, .d (vI (i:Nat)))]) (fun⟨W,i⟩=>[(20,some (.b 225 1 (W.map dU) true))]) (fun⟨W,i⟩=>W.length=(dg a).length+(dg b).length/\bt W/\i<=(dg a).length/\dv (W.take (i+(dg b).length))=dv ((dg a).take i)*b) (fun⟨W,i⟩=>(dg a).length-i) ⟨List.replicate ((dg a).length+(dg b).length) 0,0⟩ J ⟨v8, .replicate _,pb,by rw[pR,uY];simp[dv]⟩ (fun _=>J) (fun⟨W,i⟩ hk=>?_)
 try dsimp only at hk⊢
 obtain⟨h1,h2,h3,h4⟩:=hk;refine br J J J (fun hc24=>?_) (fun hc24=>?_)
 .
  refine ix (fu:=⟨15⟩) _ J (dG) J<|ah 29 (.d (vI ((dg b).length:Nat))) J omM<|gx J<|lp (X:=List Nat×Nat×Nat) (fun⟨W2,c,k⟩=>[(0, .d (dN a)),(1, .d (dN b)),(5, .rw 20),(6, .d (vI (i:Nat))),(7, .d (dU ((dg a).getD i 0))),(8, .d (.v (.int .u64 (c:Nat)))),(21, .d (dN a)),(22, .d (vI ((dg a).length:Nat))),(23, .d (vI (i:Nat))),(28, .d (dN b)),(29, .d (vI ((dg b).length:Nat))),(30, .d (vI (k:Nat)))]) (fun⟨W2,c,k⟩=>[(20,some (.b 225 1 (W2.map dU) true))]) (fun⟨W2,c,k⟩=>W2.length=(dg a).length+(dg b).length/\bt W2/\c<4294967296/\k<=(dg b).length/\dv (W2.take (i+(dg b).length))+4294967296^(i+k)*c=dv ((dg a).take i)*b+(dg a).getD i 0*(4294967296^i*dv ((dg b).take k))) (fun⟨W2,c,k⟩=>(dg b).length-k) ⟨W,0,0⟩ J ⟨h1,h2,pb,pb,by rw[h4];simp[dv]⟩ (fun _=>J) (fun⟨W2,c,k⟩ hk=>?_)
  try dsimp only at hk⊢
  obtain⟨g1,g2,g3,g4,g5⟩:=hk;have hlw:=bC W2;have hw:=g2.get (i+k);have hda:=dk a i;have hdb:=dk b k;refine br (fu2:=⟨10⟩) J J J (fun hc31=>?_) (fun hc31=>?_)
  .
   refine ix (fu:=⟨13⟩) (hv:=by simp only[aj];exact⟨⟨pb,pb⟩,⟨(x7 _ _),(yx (dk _ _) (dk _ _))⟩⟩) _ J (dG) J<|?_;obtain⟨p,hp⟩: ∃p,p=(dg a).getD i 0*(dg b).getD k 0:=⟨_,rfl⟩;have hp1:p<=18446744065119617025:=hp▸BH hda hdb;refine ah 40 (.d (.v (.int .u64 (p:Nat)))) J (by rw[hp,gM])<|gx J<|lb (fu:=⟨3⟩) _ J (cp (k:=i+k)) J<|?_;obtain⟨t,ht⟩: ∃t,t=p+W2.getD (i+k) 0+c:=⟨_,rfl⟩;refine ah 49 (.d (.v (.int .u64 (t:Nat)))) J (ome pb)<|gx (fu:=⟨11⟩) J<|ah 55 (.d (dU (t%4294967296))) J omg<|gx J<|sb (fu:=⟨5⟩) (hv:=by simp only[aj];exact v6) _ ((W2.set (i+k) (t%4294967296)).map dU) J (cp (k:=i+k)) J (by(rw[show((i:Int)+k).toNat=i+k by omega,<-iw])<;>rfl) J<|ah 58 (.d (.v (.int .u64 (t/4294967296:Nat)))) J okq<|gx J<|at_ ⟨W2.set (i+k) (t%4294967296),t/4294967296,k+1⟩ oki
  .
   obtain rfl:k=(dg b).length:=by omega
   refine ah 63 (.d (vI ((dg b).length:Nat))) J omM<|gx (fu:=⟨3⟩) J<|ah 66 (.d (dU c)) J (ome pb)<|gx J<|sb _ ((W2.set (i+(dg b).length) c).map dU) J (cp (k:=i+(dg b).length)) J (by(rw[show((i:Int)+((dg b).length:Nat)).toNat=i+(dg b).length by omega,<-iw])<;>rfl) J<|at_ ⟨W2.set (i+(dg b).length) c,i+1⟩ okG
 .
  obtain rfl:i=(dg a).length:=by omega
  refine fz 20 J J<|cl J (qy (ds:=W)) J<|rz J (jF h2 okr)
def azm{h l y:Nat}(hh:h<y)(hl:l<4294967296)(hy:y<4294967296):PF GB prog 207 [.v (.int .u32 (h:Int)), .v (.int .u32 (l:Int)), .v (.int .u32 (y:Int))] (.tp [dU ((h*4294967296+l)/y),dU ((h*4294967296+l)%y)]):=by
 refine fn (fu:=⟨11⟩) func207 J J ntmps207 J J (fun C=>?_);refine kT 10 J pb<|gx (fu:=⟨4⟩) J<|kF 14 J pb<|gx (fu:=⟨11⟩) (hv:=by simp only[aj];exact⟨pb,v6⟩) J<|ah 19 (.d (.v (.int .u64 (h*2^32:Nat)))) J omn<|gx (fu:=⟨3⟩) J<|ah 22 (.d (.v (.int .u64 (l+h*2^32:Nat)))) J (congrArg (fun z:Nat=>FX.d (.v (.int .u64 (z:Int)))) (by rw[BitVec.or_comm];exact oE 64 l h 32 hl omp)) ?_;obtain⟨t,ht⟩: ∃t,t=h*4294967296+l:=⟨_,rfl⟩;have hq:t/y<4294967296:=by rw[jV pb];have:=dY 4294967296 (show h+1<=y from hh);omega
 have hr:t%y<y:=cR _ pb;refine ah 22 (.d (.v (.int .u64 (t:Nat)))) J (by show FX.d (.v (.int _ _))= .d (.v (.int _ _));congr 3;rw[ht];omega)<|gx (hv:=by simp only[aj];exact⟨⟨⟨⟨pb,⟨pb,pb,pb⟩⟩,pb⟩,⟨pb,pb⟩⟩,we⟩) J<|rz J (by show DV.tp [.v (.int _ _), .v (.int _ _)]= .tp [.v (.int _ _), .v (.int _ _)];rw[<-ht,<-rW,<-Int.natCast_emod];generalize t/y=q at*;generalize t%y=r at*;congr 4<;>(first|omega|(congr 3;omega)))
def Ut{A r i:Nat}(d:Nat)(hb:0<b):(A*4294967296+d)/b=A/b*4294967296+(A%b*4294967296+d)/b/\(A*4294967296+d)%b=(A%b*4294967296+d)%b:=by
 have h:=qZ A b;have e:A*4294967296+d=(A%b*4294967296+d)+b*(A/b*4294967296):=by
  rw[<-cX,Nat.add_right_comm,<-cN,jW (A%b),h]
 rw[e,pX _ _ hb,pU];exact⟨jW _ _,J⟩
def LF(h:i<ds.length):dv (ds.drop i)=dv (ds.drop (i+1))*4294967296+ds.getD i 0:=by
 rw[bW h,aJ,aQ h];simp only[dv,jZ];omega
def KU(h:i<W.length):dv ((W.set i q).drop i)=dv (W.drop (i+1))*4294967296+q:=by
 rw[LF (by rw[aM];exact h),sW pb,y6 h]
def Wb(hb:0<b)(hk:k<(dg a).length)(hl:W.length=(dg a).length)(h:dv (W.drop (k+1))=dv ((dg a).drop (k+1))/b):
  dv ((W.set k ((dv ((dg a).drop (k+1))%b*4294967296+(dg a).getD k 0)/b)).drop k)=dv ((dg a).drop k)/b/\dv ((dg a).drop k)%b=(dv ((dg a).drop (k+1))%b*4294967296+(dg a).getD k 0)%b:=by
 have:=Ut (A:=dv ((dg a).drop (k+1))) (r:=0) (i:=0) ((dg a).getD k 0) hb;rw[KU pb,h,LF hk,this.1,this.2];exact⟨J,J⟩
def wb:iE a b<0↔a<b:=by unfold iE;split<;>(try split)<;>omega
def xQ:0<iE a b↔b<a:=by unfold iE;split<;>(try split)<;>omega
def Hm(hx:x<4294967296):PF GB prog 251 [dU x] (vI (32-(bl x:Int))):=by
 intro G vs hg hv;obtain⟨v,m,rfl,h1,h2⟩:=bE.1 hv;rw[eD] at h2;subst h2;rw[bh.1 h1];exact(WG hx).mono fun v G' _ h=>bh.2 h
def LT(h:4294967296^k<=a):k<(dg a).length:=by
 have h1:=qd a;rcases iY k (dg a).length with q|q
 .exact q
 .have:4294967296^(dg a).length<=4294967296^k:=bU v6 q
  omega
def Lv(hL:L=(dg v).length)(h1:1<=L):(dg v).getD (L-1) 0=v/4294967296^(L-1)/\0<v/4294967296^(L-1):=by
 have h:=AR (fB v) (L-1);rw[oF (by omega:(dg v).length<=L-1+1),cG,sS,gW] at h;have h2:=qd v;rw[<-hL] at h2;rw[lV (show v<4294967296^(L-1+2) from dJ h2 (bU v6 pb)),sS,gW] at h;have h3:=um (f6 v).2.2 (by intro e;rw[e] at hL;simp at hL;omega);rw[cG,<-hL] at h3;exact⟨h.symm,Nat.div_pos h3 (gV v6)⟩
def Gt(h1:1<=n)(h:R<4294967296^(n+1)):R/4294967296^(n-1)=(dg R).getD (n-1) 0+(dg R).getD n 0*4294967296:=by
 have e:=AR (fB R) (n-1);rw[cG,show n-1+1=n by omega,lV (show R<4294967296^(n-1+2) by rwa [show n-1+2=n+1 by omega]),sS,gW,bM] at e;exact e
def Sf{R v j L:Nat}(hL:L=(dg v).length)(h1:1<=L)(hR:R<v*4294967296^(j+1)):R/(v*4294967296^j)<=min (R/4294967296^(L+j-1)/(v/4294967296^(L-1))) 4294967295:=by
 have ht:=(Lv hL h1).2;have hp:0<4294967296^j:=gV v6;have hv0:0<v:=by
  rcases fJ v with q|q
  .subst q;simp at ht
  .exact q
 have hvp:0<v*4294967296^j:=jJ hv0 hp;refine Nat.le_min.2 ⟨?_,?_⟩
 .rw[rV ht,rV (gV v6)]
  have h3:v/4294967296^(L-1)*4294967296^(L-1)<=v:=Nat.div_mul_le_self _ _;have h4:R/(v*4294967296^j)*(v*4294967296^j)<=R:=Nat.div_mul_le_self _ _;rw[show L+j-1=L-1+j by omega,fW]
  calc R/(v*4294967296^j)*(v/4294967296^(L-1))*(4294967296^(L-1)*4294967296^j)
    =R/(v*4294967296^j)*((v/4294967296^(L-1)*4294967296^(L-1))*4294967296^j):=by simp only[cX]
   _<=R/(v*4294967296^j)*(v*4294967296^j):=dY _ (bX _ h3)
   _<=R:=h4
 .have:R/(v*4294967296^j)<4294967296:=by
   rw[jV hvp];rw[gJ] at hR;rwa [bM,cX]
  omega
def AD(hV:0<V)(h:R<V*g):R/V<g:=by
 rw[jV hV,bM];exact h
def Wj(hV:0<V)(h1:R/V<=g)(h2:V*g<=R):g=R/V:=by
 have:g<=R/V:=by rw[rV hV,bM];exact h2
 omega
def O5{R0 R v j g:Nat}{W:List Nat}(hj:j<W.length)(h:R0=R+dv (W.drop (j+1))*4294967296^(j+1)*v)(hv:0<v*4294967296^j)(hg:g=R/(v*4294967296^j)):
  R0=(R-v*4294967296^j*g)+dv ((W.set j g).drop j)*4294967296^j*v/\R-v*4294967296^j*g<v*4294967296^j:=by
 have h1:=qZ R (v*4294967296^j);have h2:=cR R hv;rw[<-hg] at h1;refine⟨?_,pb⟩;rw[KU hj,cN,cN,h,gJ];have e:g*4294967296^j*v=v*4294967296^j*g:=by simp only[cX,mN,bM]
 have e2:dv (W.drop (j+1))*(4294967296^j*4294967296)*v=dv (W.drop (j+1))*4294967296*4294967296^j*v:=by simp only[cX,mN,bM]
 rw[e,e2];omega
def SP{a b s R:Nat}{D:Nat}(hR:R<b*2^s)(h:a*2^s=R+D*(b*2^s)):D=a/b/\R/2^s=a%b:=by
 have hp:0<2^s:=gV v6;have hb:0<b:=by
  rcases fJ b with q|q
  .subst q;simp at hR
  .exact q
 have h1:a=R/2^s+D*b:=by
  have:=congrArg (· /2^s) h;rw[Nat.mul_div_cancel _ hp,<-cX,Nat.add_mul_div_right _ _ hp] at this;exact this
 have h2:R/2^s<b:=by rw[jV hp];exact hR
 have h3:R/2^s+b*D=a:=by rw[bM b];exact h1.symm
 have:=(Nat.div_mod_unique hb).2 ⟨h3,h2⟩;exact⟨this.1.symm,this.2.symm⟩
def Uh{a b s:Nat}(hl:(dg b).length<=(dg a).length)(h2:1<=(dg b).length):a*2^s<b*2^s*4294967296^((dg a).length-(dg b).length+1):=by
 have h1:=qd a;have h3:=um (f6 b).2.2 (by intro e;rw[e] at h2;simp at h2);rw[cG] at h3;have h4:4294967296^(dg a).length<=b*4294967296^((dg a).length-(dg b).length+1):=by
  rw[show(dg a).length=((dg b).length-1)+((dg a).length-(dg b).length+1) by omega,fW];rw[show(dg b).length-1+((dg a).length-(dg b).length+1)-(dg b).length+1=(dg a).length-(dg b).length+1 by omega];exact bX _ h3
 rw[qY];exact mZ (dJ h1 h4) (gV v6)
def ME(x j:Nat):x*2^(32*j)=x*4294967296^j:=by rw[tX]
def Tk(h:R<4294967296^(L+j+1))(h1:1<=L):R/4294967296^(L+j-1)<18446744073709551616:=by
 rw[jV (gV v6),show(18446744073709551616:Nat)=4294967296^2 from J,<-fW];rwa [show 2+(L+j-1)=L+j+1 by omega]
def WT(hL:L=(dg v).length)(hR:R<v*4294967296^(j+1)):R<4294967296^(L+j+1):=by
 have h:=qd v;rw[<-hL] at h;rw[kX,fW];exact dJ hR (bX _ (lW h))
def VQ{a b ia ib:Nat}[ha:BN a ia][hb:BN b ib](hi:ia<=500000000)(hj:ib<=500000000)(h2:1<=(dg b).length)(hl:(dg b).length<=(dg a).length):PF GB prog 208 [dN a,dN b] (.tp [dN (a/b),dN (a%b)]):=by
 have hla:=bC (dg a);have hlb:=bC (dg b);have hba:=k9 ha.h;have hba':(dg a).length<=20000000:=by omega
 refine fn func208 J J ntmps208 J J (fun C=>?_);refine ix _ J (cp (k:=(dg b).length-1)) J<|cl (fu:=⟨0⟩) J (Hm (dk b ((dg b).length-1))) J<|?_;obtain⟨s,hs⟩: ∃s:Nat,s=32-bl ((dg b).getD ((dg b).length-1) 0):=⟨_,rfl⟩;have hs32:s<=32:=by omega
 refine ah 22 (.d (vI (s:Nat))) J (by show FX.d (.v (.int _ _))= .d (.v (.int _ _));congr 3;have:=mB.2 (show(dg b).getD ((dg b).length-1) 0<2^32 from dk b _);omega)<|gx J<|cl J (C7 (a:=b) (k:=s) (ia:=ib) pb pb) J<|cl (fu:=⟨0⟩) J (C7 (a:=a) (k:=s) (ia:=ia) pb pb) J<|?_;obtain⟨v,hv⟩: ∃v,v=b*2^s:=⟨_,rfl⟩;obtain⟨R0,hR0⟩: ∃R0,R0=a*2^s:=⟨_,rfl⟩;refine ah 25 (.d (dN v)) J (by rw[hv])<|ah 28 (.d (dN R0)) J (by rw[hR0]) ?_;obtain⟨L,hL⟩: ∃L,L=(dg v).length:=⟨_,rfl⟩;have hlv:((dg v).map dU).length=L:=by rw[bC,hL]
 have hps:2^s<=2^32:=bU v6 hs32;have hpp:0<2^s:=gV v6;have hst:=Uh (a:=a) (b:=b) (s:=s) hl h2;rw[<-hv,<-hR0] at hst;have hvb:v<2^(ib+32):=by rw[hv,fW];exact mV hb.h hps v6
 have hRb:R0<2^(ia+32):=by rw[hR0,fW];exact mV ha.h hps v6
 have hbp:0<b:=iV (fun q=>by subst q;rw[sv] at h2;simp at h2);have hvp:0<v:=hv▸jJ hbp hpp;have hLp:1<=L:=by rw[hL];exact LT (k:=0) (by rw[sM];exact hvp)
 have htop:=Lv hL hLp;haveI hvB:BN v (ib+32):=⟨hvb⟩;have hLb:=k9 hvb;have hLb':L<=20000000:=by omega
 have htl:=dk v (L-1);refine gx (fu:=⟨9⟩) J<|ah 31 (.d (vI (L:Nat))) J (by rw[hlv];rfl)<|gx J<|ix (fu:=⟨2⟩) _ J (cp (k:=L-1)) J<|ah 35 (.d (.v (.int .u64 (v/4294967296^(L-1):Nat)))) J (by rw[htop.1]) ?_;rw[htop.1] at htl;refine gx (fu:=⟨11⟩) J<|?_;obtain⟨m,hm⟩: ∃m,m=(dg a).length-(dg b).length+1:=⟨_,rfl⟩;rw[<-hm] at hst;have hrl:(List.replicate ((m:Nat):Int).toNat (DV.v (.int .u32 0))).length=m:=by rw[aY,dQ]
 refine ah 41 (.d (vI (m:Nat))) J (ome pb)<|gx J<|mk ((List.replicate m 0).map dU) J J omz J<|lp (X:=List Nat×Nat×Nat) (fun⟨W,R,k⟩=>[(6, .d (vI (s:Nat))),(7, .d (dN v)),(8, .d (dN R)),(9, .d (.v (.int .u64 (v/4294967296^(L-1):Nat)))),(10, .rw 42),(11, .d (vI ((k:Nat)-1)))]) (fun⟨W,R,k⟩=>[(42,some (.b 225 1 (W.map dU) true))]) (fun⟨W,R,k⟩=>W.length=m/\bt W/\k<=m/\R0=R+dv (W.drop k)*4294967296^k*v/\R<v*4294967296^k/\R<=R0) (fun⟨W,R,k⟩=>k) ⟨List.replicate m 0,R0,m⟩ J ⟨v8, .replicate _,bZ _,by simp[dv],hst,bZ _⟩ (fun _=>J) (fun⟨W,R,k⟩ hk=>?_);dsimp only at hk⊢;obtain⟨h1,h2',h3,h4,h5,h6⟩:=hk;have hlw:=bC W;refine br (fu1:=⟨10⟩) J J J (fun hc47=>?_) (fun hc47=>?_)
 .
  obtain⟨j,rfl⟩: ∃j,k=j+1:=⟨k-1,pb⟩;have hvj:0<v*4294967296^j:=jJ hvp (gV v6);have hge:=Sf hL hLp h5;have hlen:=WT hL h5;have hlr:((dg R).map dU).length=(dg R).length:=bC _;haveI hRB:BN R (ia+32):=⟨pb⟩;have hq32:R/(v*4294967296^j)<4294967296:=by omega
  have hz1:=Int.natCast_nonneg (R/4294967296^(L+j-1));have hz2:=Int.natCast_nonneg (R/4294967296^(L+j-1)/(v/4294967296^(L-1)));refine ah 11 (.d (vI (j:Nat))) J (ome pb)<|mg (fu:=⟨6⟩) (hv:=fun _ _=>by simp only[aj];exact⟨pb,(by have:=Tk hlen hLp;omega),pb⟩) (X:=Unit) (fun _=>[(6, .d (vI (s:Nat))),(7, .d (dN v)),(8, .d (dN R)),(9, .d (.v (.int .u64 (v/4294967296^(L-1):Nat)))),(10, .rw 42),(11, .d (vI (j:Nat))),(12, .d (.v (.int .u64 (R/4294967296^(L+j-1):Nat))))]) (fun _=>[(42,some (.b 225 1 (W.map dU) true))]) (fun _=>True) [6,7,8,9,10,11,12] [42] rfl ?_ (fun _=>J) (fun _ hm=>?_)
  .
   refine gx (fu:=⟨4⟩) J<|ah 51 (.d (vI (L:Nat))) J (by rw[hlv];rfl)<|gx (fu:=⟨2⟩) J<|ah 53 (.d (vI (L+j:Nat))) J omg<|gx (fu:=⟨8⟩) J<|ah 56 (.d (vI ((dg R).length:Nat))) J (by rw[hlr];rfl)<|gx J<|br (fu2:=⟨6⟩) J J J (fun hc57=>?_) (fun hc57=>?_)
   .
    have hd0:=dk R (L+j-1);have hd1:=dk R (L+j);refine ix (hv:=by simp only[aj];exact⟨⟨pb,v6⟩,pb⟩) _ J (cp (k:=L+j)) J<|ix (fu:=⟨3⟩) _ J (cp (k:=L+j-1)) J<|ah 70 (.d (.v (.int .u64 ((dg R).getD (L+j-1) 0+(dg R).getD (L+j) 0*4294967296:Nat)))) J (congrArg (fun z:Nat=>FX.d (.v (.int .u64 (z:Int)))) (by rw[oC _ 32 v6 omw J,BitVec.or_comm];exact oE 64 ((dg R).getD (L+j-1) 0) ((dg R).getD (L+j) 0) 32 hd0 omp))<|gx J<|ah 12 (.d (.v (.int .u64 (R/4294967296^(L+j-1):Nat)))) J (by rw[Gt pb hlen])<|at_ () trivial
   .
    refine ah 74 (.d (vI ((dg R).length:Nat))) J (by rw[hlr];rfl)<|gx J<|br J J J (fun hc75=>?_) (fun hc75=>?_)
    .
     have hd0:=dk R (L+j-1);refine ix _ J (cp (k:=L+j-1)) J<|ah 12 (.d (.v (.int .u64 (R/4294967296^(L+j-1):Nat)))) J (by rw[Gt pb hlen,oF (by omega:(dg R).length<=L+j),kK,gW])<|at_ () trivial
    .
     refine ah 12 (.d (.v (.int .u64 (R/4294967296^(L+j-1):Nat)))) J (by rw[Gt pb hlen,oF (by omega:(dg R).length<=L+j),oF (by omega:(dg R).length<=L+j-1)];rfl)<|at_ () trivial
  .
   obtain⟨g0,hg0'⟩: ∃g0,g0=min (R/4294967296^(L+j-1)/(v/4294967296^(L-1))) 4294967295:=⟨_,rfl⟩;rw[<-hg0'] at hge;have hg0:=hge;have hg1:g0<=4294967295:=by omega
   refine ah 85 (.d (.v (.int .u64 (g0:Nat)))) J (by show FX.d (.v (.int _ _))= .d (.v (.int _ _));congr 3;rw[<-rW];split<;>omega)<|gx J<|cl J (qo (u:=g0)) J<|cl (fu:=⟨2⟩) J (o9 (ia:=ib+32) (ib:=32) (hb:=⟨by show _<4294967296;omega⟩) pb v6) J<|ah 91 (.d (vI (32*j:Nat))) J omg<|gx J<|cl (fu:=⟨0⟩) J (C7 (k:=32*j) (ia:=ib+64) (ha:=⟨by rw[show ib+64=ib+32+32 by omega,fW];exact nL hvb (by show _<4294967296;omega)⟩) pb pb) J<|ah 92 (.d (dN (v*4294967296^j*g0))) J (by rw[ME,qY])<|gx J<|lp (X:=Nat) (fun g=>[(6, .d (vI (s:Nat))),(7, .d (dN v)),(8, .d (dN R)),(9, .d (.v (.int .u64 (v/4294967296^(L-1):Nat)))),(10, .rw 42),(11, .d (vI (j:Nat))),(14, .d (.v (.int .u64 (g:Nat)))),(15, .d (dN (v*4294967296^j*g)))]) (fun g=>[(42,some (.b 225 1 (W.map dU) true))]) (fun g=>R/(v*4294967296^j)<=g/\g<=4294967295) (fun g=>g) g0 J ⟨hg0,pb⟩ (fun _=>J) (fun g hk=>?_);obtain⟨g1,g2⟩:=hk;have hlw:=bC W;refine cl J (xj (a:=v*4294967296^j*g) (b:=R) (by have:=wY (a:=v*4294967296^j*g) (k:=L+j+1) (by have h1:=qd v;rw[<-hL] at h1;rw[gJ,fW];exact nL (mZ h1 (gV v6)) pb);omega) (by have:=wY hlen;omega)) J<|br (fu1:=⟨7⟩) (v1:=fun hc96=>by simp only[aj];exact(by have h:=AD hvj (xQ.1 hc96);have h1:1<=g:=gX (aL _) h;omega)) (fu2:=⟨11⟩) J J J (fun hc96=>?_) (fun hc96=>?_)
   .
    have hgd:=AD hvj (xQ.1 hc96);have hg1p:1<=g:=gX (aL _) hgd;refine ah 98 (.d (.v (.int .u64 ((g-1:Nat):Int)))) J (ome pb)<|gx J<|cl J (qo (u:=g-1)) J<|cl (fu:=⟨2⟩) J (o9 (ia:=ib+32) (ib:=32) (hb:=⟨by show _<4294967296;omega⟩) pb v6) J<|ah 104 (.d (vI (32*j:Nat))) J omg<|gx J<|cl (fu:=⟨0⟩) J (C7 (k:=32*j) (ia:=ib+64) (ha:=⟨by rw[show ib+64=ib+32+32 by omega,fW];exact nL hvb (by show _<4294967296;omega)⟩) pb pb) J<|ah 105 (.d (dN (v*4294967296^j*(g-1)))) J (by rw[ME,qY])<|gx J<|at_ (g-1) ⟨⟨by have h:=AD hvj (xQ.1 hc96);omega,pb⟩,(by have:=AD hvj (xQ.1 hc96);omega)⟩
   .
    have hgq:=Wj hvj g1 (rT fun q=>hc96 (xQ.2 q));refine ah 109 (.d (dU g)) J (ome pb)<|gx J<|sb _ ((W.set j (R/(v*4294967296^j))).map dU) J (cp (k:=j)) J (by(rw[<-hgq,dQ,<-iw])<;>rfl) J<|cl (fu:=⟨0⟩) J (Ey (a:=R) (b:=v*4294967296^j*g) (ia:=ia+32) (by rw[hgq];exact Nat.mul_div_le _ _) pb) J<|ah 113 (.d (dN (R-v*4294967296^j*(R/(v*4294967296^j))))) J (by rw[hgq])<|gx J<|at_ ⟨W.set j (R/(v*4294967296^j)),R-v*4294967296^j*(R/(v*4294967296^j)),j⟩ (by dsimp only;exact⟨⟨by simpa using h1,h2'.set _ pb,pb,(O5 pb h4 hvj J).1,(O5 pb h4 hvj J).2,pb⟩,pb⟩)
 .
  obtain rfl:k=0:=by omega
  rw[sM,kY] at h5;rw[sM,kY,fM,hR0,hv] at h4;rw[hv] at h5;have hend:=SP h5 h4;haveI hRB:BN R (ia+32):=⟨pb⟩;refine fz 42 J J<|cl J (pp (ds:=W)) J<|cl J (ZM (a:=R) (k:=s) (ia:=ia+32) pb pb) J<|rz J (by show DV.tp [dt _,dN _]= .tp [dN _,dN _];rw[jF h2' hend.1,hend.2])
def Ru(hl:ds.length<=1125899906842624):PB GB prog 193 (fh [none]) 1 225 (ds.map dU) (fun w=> .v (.slice w.a w.n w.c)) ((trimD ds).map dU):=by
 refine Gy func193 J J ntmps193 J J (fun C=>?_);refine lp (fu:=⟨5⟩) (X:=List Nat) (fun W=>[(0, .rw 1000000)]) (fun W=>[(1000000,some (.b 225 1 (W.map dU) false))]) (fun W=>trimD ds=trimD W/\W.length<=ds.length) (fun W=>W.length) ds J ⟨J,bZ _⟩ (fun _=>J) (fun W hk=>?_);obtain⟨h1,h2⟩:=hk;have hml:=bC W;refine ah 4 (.d (vI (W.length:Nat))) J omj<|gx J<|cs (fu1:=⟨3⟩) 6 J J J (fun hg6=>?_) (fun hg6=>?_)
 .
  refine ah 9 (.d (vI (W.length:Nat))) J omj<|gx J<|lb _ J (cp (k:=W.length-1)) J<|br (fu1:=⟨7⟩) J J J (fun hc14=>?_) (fun hc14=>?_)
  .
   refine ah 17 (.d (vI (W.length:Nat))) J omj<|gx (fu:=⟨1⟩) J<|ah 18 (.d (vI (W.length-1:Nat))) J (ome pb)<|gx (fu:=⟨0⟩) J<|NS ((W.take (W.length-1)).map dU) (W.length-1) J J (by rw[hml];omega) (by rw[gT]) J<|dq 19 1000000 J<|at_ (W.take (W.length-1)) ⟨⟨by rw[h1,PH],by rw[bR];omega⟩,(by rw[bR];omega)⟩
  .
   exact tP J J J (by rw[h1,Cv (fun _=>by omega)])
 .
  exact tP J J J (by rw[h1,Cv (fun _=>by omega)])
def YS(h:0<(dg a).length):bl a=32*((dg a).length-1)+bl ((dg a).getD ((dg a).length-1) 0):=by
 have:=UT (fB a) (f6 a).2.2 (fun e=>by rw[e] at h;exact absurd h v6);rwa [cG] at this
def xd(h:(dg a).length=0:=by omega):a=0:=by rw[<-cG a,cV h];rfl
def rH[h:BN a i](hi:i<=1000000000:=by decide):PF GB prog 187 [dN a] (vI (bl a:Nat)):=by
 have hla:=bC (dg a);have hba:=gP (a:=a) hi;have hbl:bl ((dg a).getD ((dg a).length-1) 0)<=32:=mB.2 (dk a _);refine fn func187 J J ntmps187 J J (fun C=>?_);refine cl (fu:=⟨8⟩) J (ni) J<|ah 6 (.d (vI ((dg a).length:Nat))) J omo<|gx J<|br (fu2:=⟨6⟩) J J J (fun hc7=>?_) (fun hc7=>?_)
 .
  exact rz J (by rw[xd (a:=a)];rfl)
 .
  refine ah 9 (.d (vI ((dg a).length:Nat))) J omo<|gx (fu:=⟨4⟩) J<|ah 13 (.d (vI ((dg a).length:Nat))) J omo<|gx J<|ix _ J (cp (k:=(dg a).length-1)) J<|cl J (Hm (dk a ((dg a).length-1))) J<|rz J (by show DV.v (.int _ _)=DV.v (.int _ _);have:=YS (a:=a) pb;congr 2;omega)
def aAm(h:a<18446744073709551616)(hi:i<(dg a).length):dv ((dg a).take i)<2^(32*i)/\dv ((dg a).take i)+(dg a).getD i 0*2^(32*i)=dv ((dg a).take (i+1))/\dv ((dg a).take (i+1))<18446744073709551616:=by
 have h1:=lu ((fB a).take i);rw[bR,iN pb] at h1;have e:(2:Nat)^(32*i)=4294967296^i:=by rw[tX]
 have h2:=wE (dg a) (i+1);rw[cG] at h2;refine⟨by rw[e];exact h1,by rw[e,mv,bM],?_⟩;have:=aL (4294967296^(i+1)*dv ((dg a).drop (i+1)));omega
def Ti(h:a<18446744073709551616):(dg a).length<=2:=by have:=k9 (u:=a) (k:=64) h;omega
def ym(h:a<18446744073709551616):PF GB prog 192 [dN a] (.tp [.v (.int .u64 (a:Nat)),vB true]):=by
 have hla:=bC (dg a);have hl2:=Ti h;refine fn func192 J J ntmps192 J J (fun C=>?_);refine cl (fu:=⟨8⟩) J (ni) J<|ah 10 (.d (vI ((dg a).length:Nat))) J omo<|gx (fu:=⟨0⟩) J<|bG (fu:=⟨15⟩) J (omd pb) J<|ah 13 (.d (vI ((dg a).length:Nat))) J omo<|gx J<|lp (X:=Nat) (fun i=>[(14, .d (vI (i:Nat))),(4, .d (.v (.int .u64 (dv ((dg a).take i):Nat))))]) (fun i=>[]) (fun i=>i<=(dg a).length) (fun i=>(dg a).length-i) 0 J (aL _) (fun _=>J) (fun i hk=>?_);refine br J J J (fun hc15=>?_) (fun hc15=>?_)
 .
  obtain⟨u1,u2,u3⟩:=aAm h (i:=i) pb;have hda:=dk a i;refine ix (fu:=⟨12⟩) (hv:=by simp only[aj];exact⟨⟨pb,pb⟩,pb⟩) _ J (dG) J<|ah 24 (.d (.v (.int .u64 ((dg a).getD i 0*2^(32*i):Nat)))) J (by show FX.d (.v (.int _ _))= .d (.v (.int _ _));rw[oC _ (32*i) pb pb])<|gx (fu:=⟨1⟩) J<|ah 25 (.d (.v (.int .u64 (dv ((dg a).take (i+1)):Nat)))) J (congrArg (fun z:Nat=>FX.d (.v (.int .u64 (z:Int)))) ((oE 64 _ _ (32*i) u1 (by rw[u2];exact u3)).trans u2))<|gx J<|at_ (i+1) ⟨pb,pb⟩
 .
  obtain rfl:i=(dg a).length:=by omega
  exact rz J (by rw[jl (bZ _),cG];rfl)
def LM(h:j<ds.length):dv (ds.drop j)=ds.getD j 0+4294967296*dv (ds.drop (j+1)):=by
 rw[bW h,aJ,aQ h];rfl
def Uw(hA:j<A.length)(hW:j<W.length)(hd:0<d)(h:dv (A.drop (j+1))=d*dv (W.drop (j+1))+r)(hv:v=A.getD j 0+r*4294967296):dv (A.drop j)=d*dv ((W.set j (v/d)).drop j)+v%d:=by
 have e1:dv ((W.set j (v/d)).drop j)=v/d+4294967296*dv (W.drop (j+1)):=by
  rw[LM (by rw[aM];exact hW),y6 hW,sW pb]
 have h2:=qZ v d;have e3:d*(v/d+4294967296*dv (W.drop (j+1)))=d*(v/d)+4294967296*(d*dv (W.drop (j+1))):=by rw[eJ,mN]
 rw[e1,LM hA,h,e3];omega
def aBN(h:a=d*dv W+r)(hr:r<d):dv W=a/d/\r=a%d:=by
 have:=(Nat.div_mod_unique (by omega:0<d)).2 ⟨show r+d*dv W=a by omega,hr⟩;exact⟨this.1.symm,this.2.symm⟩
def Rs{a d i:Nat}[h:BN a i](hd:0<d)(hd2:d<4294967296)(hi:i<=1000000000:=by decide):PF GB prog 252 [dN a,dU d] (.tp [dN (a/d),dU (a%d)]):=by
 have hla:=bC (dg a);have hba:=gP (a:=a) hi;refine fn (fu:=⟨10⟩) func252 J J ntmps252 J J (fun C=>?_);refine ah 11 (.d (vI ((dg a).length:Nat))) J omo<|gx J<|mk (fu:=⟨13⟩) ((List.replicate (dg a).length 0).map dU) J J omz J<|ah 14 (.d (vI ((dg a).length:Nat))) J omo<|gx J<|lp (X:=List Nat×Nat×Nat) (fun⟨W,r,k⟩=>[(0, .d (dN a)),(1, .d (dU d)),(6, .rw 12),(7, .d (.v (.int .u64 (r:Nat)))),(8, .d (vI ((k:Nat)-1)))]) (fun⟨W,r,k⟩=>[(12,some (.b 225 1 (W.map dU) true))]) (fun⟨W,r,k⟩=>W.length=(dg a).length/\bt W/\r<d/\k<=(dg a).length/\dv ((dg a).drop k)=d*dv (W.drop k)+r) (fun⟨W,r,k⟩=>k) ⟨List.replicate (dg a).length 0,0,(dg a).length⟩ J ⟨v8, .replicate _,hd,bZ _,by simp[dv]⟩ (fun _=>J) (fun⟨W,r,k⟩ hk=>?_)
 try dsimp only at hk⊢
 obtain⟨h1,h2,h3,h4,h5⟩:=hk;have hlw:=bC W;refine br (fu1:=⟨0⟩) J J J (fun hc17=>?_) (fun hc17=>?_)
 .
  obtain⟨j,rfl⟩: ∃m,k=m+1:=⟨k-1,pb⟩;have hda:=dk a j;obtain⟨v,hv⟩: ∃v,v=(dg a).getD j 0+r*4294967296:=⟨_,rfl⟩;obtain⟨q,hq⟩: ∃q,q=v/d:=⟨_,rfl⟩;have hvq:q<4294967296:=by rw[hq,jV hd,bM];have:=bX 4294967296 (show r+1<=d from h3);omega
  refine ah 8 (.d (vI (j:Nat))) J (ome pb)<|gx (fu:=⟨8⟩) (hv:=by simp only[aj];exact v6) J<|ah 21 (.d (.v (.int .u64 (r*4294967296:Nat)))) J omn<|gx J<|ix (fu:=⟨3⟩) _ J (dG) J<|ah 27 (.d (.v (.int .u64 (v:Nat)))) J (congrArg (fun z:Nat=>FX.d (.v (.int .u64 (z:Int)))) ((congrArg BitVec.toNat (BitVec.or_comm ..)).trans ((oE 64 ((dg a).getD j 0) r 32 hda omp).trans hv.symm)))<|gx (fu:=⟨11⟩) J<|ah 33 (.d (.v (.int .u64 (q:Nat)))) J (by show FX.d (.v (.int _ _))= .d (.v (.int _ _));congr 3;rw[hq];rfl)<|gx (fu:=⟨1⟩) J<|ah 34 (.d (dU q)) J (ome pb)<|gx J<|sb (fu:=⟨7⟩) _ ((W.set j q).map dU) J (dG) J okf J<|ah 39 (.d (.v (.int .u64 (v%d:Nat)))) J omg<|gx J<|at_ ⟨W.set j q,v%d,j⟩ (by dsimp only;exact⟨⟨by simpa using h1,h2.set _ hvq,cR _ hd,pb,by rw[hq];exact Uw pb pb hd h5 hv⟩,pb⟩)
 .
  obtain rfl:k=0:=by omega
  obtain⟨e1,e2⟩:=aBN (a:=a) (W:=W) (by rw[fM,fM,cG] at h5;exact h5) h3;refine fz 12 J J<|cl (fu:=⟨2⟩) J (qy (ds:=W)) J<|ah 43 (.d (dU r)) J (ome pb)<|gx J<|rz J (by show DV.tp [dt _,dU _]= .tp [dN _,dU _];rw[jF h2 e1,<-e2])
end Go.Sx
end
