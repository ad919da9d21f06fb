import Derived.Test.YtefoocgiaegobaaGreatDoorPe10
set_option linter.all false
set_option maxHeartbeats 4000000
set_option maxRecDepth 100000
section
namespace Go.Sx
open Go Go.Proofs Tryz
variable {GB:Gh}
def uO(n:Nat)(a b k:Nat)(ha:a<2^k)(h:a+b*2^k<2^n):(BitVec.ofInt n (a:Int) ||| BitVec.ofInt n ((b*2^k:Nat):Int)).toNat=a+b*2^k:=by
 rw[BitVec.toNat_or,BitVec.ofInt_natCast,BitVec.ofInt_natCast,BitVec.toNat_ofNat,BitVec.toNat_ofNat,fR (by omega),fR (by omega)];rw[<-lW,Nat.or_comm,<-lU ha,lW];omega
def EW{x y:Nat}(hx:x<4294967296)(hy:y<4294967296):x*y<=18446744065119617025:=by
 have:=kQ (by omega:x<=4294967295) (by omega:y<=4294967295);exact this
def J6(x y:Nat):(0:Int)<=(x:Int)*(y:Int):=by rw[<-iR];omega
def NN{x y:Nat}(hx:x<4294967296)(hy:y<4294967296):(x:Int)*(y:Int)<=18446744073709551615:=by
 have:=EW hx hy;rw[<-iR];omega
def YI{ds:List Nat}(h:ds.length=1):dv ds=ds.getD 0 0:=by
 match ds,h with
 |[d],_=>simp[dv]
def uP{a:Nat}(h:(dg a).length=1):(dg a).getD 0 0=a:=by rw[<-YI h,cg]
def PY{ds:List Nat}{j m:Nat}(h:j<m):(ds.take m).getD j 0=ds.getD j 0:=by
 rw[aK,aK,qW,if_pos h]
def KD{W:List Nat}{j m d:Nat}(hj:j<m)(hm:m<=W.length):dv ((W.set j d).take m)+4294967296^j*W.getD j 0=dv (W.take m)+4294967296^j*d:=by
 rw[List.take_set,<-PY (ds:=W) hj];exact o8 _ _ _ (by rw[bM];omega)
def TN{W:List Nat}{P X Y m i k c y t S:Nat}(hk:i+k<m)(hm:m<=W.length)(h:dv (W.take m)+4294967296^(i+k)*c=P+X*(4294967296^i*S))(ht:t=Y+W.getD (i+k) 0+c)(hY:Y=X*y):
  dv ((W.set (i+k) (t%4294967296)).take m)+4294967296^(i+(k+1))*(t/4294967296)=P+X*(4294967296^i*(S+4294967296^k*y)):=by
 have h1:=KD (W:=W) (d:=t%4294967296) hk hm;rw[ht,show Y+W.getD (i+k) 0+c=c+Y+W.getD (i+k) 0 by omega] at h1⊢;have h2:=Np h1 h;rw[<-kW,fS,h2,hY,fW];simp only[dZ,bS,kS,bR,kW]
def Ss{a b:Nat}{W:List Nat}{i c lb:Nat}(hlb:lb=(dg b).length)(hl:i+lb<W.length)(h:dv (W.take (i+lb))+4294967296^(i+lb)*c=dv ((dg a).take i)*b+(dg a).getD i 0*(4294967296^i*dv ((dg b).take lb))):
  dv ((W.set (i+lb) c).take (i+1+lb))=dv ((dg a).take (i+1))*b:=by
 rw[show i+1+lb=i+lb+1 by omega,oo hl,h,ij,nP (ds:=dg b) (by omega),cg b,cY];simp only[bS,kS,bR]
def MV(n j:Nat):(List.replicate n 0).getD j 0=0:=by
 rw[aK,List.getElem?_replicate];split<;>rfl
def yr{k:Nat}(h:k<=1000000000):IntKind.i64.wrap ((k:Int).tdiv 32)=((k/32:Nat):Int):=by
 rw[show(k:Int).tdiv 32=((k/32:Nat):Int) from J,Dv];omega
def Mv(k:Nat):(k:Int).tmod 32=((k%32:Nat):Int):=rfl
def tV{a b ia ib:Nat}[ha:BN a ia][hb:BN b ib](hi:ia<=1000000000:=by decide)(hj:ib<=1000000000:=by decide):PF GB prog 239 [dN a,dN b] (dN (a*b)):=by
 have hla:=eO (dg a);have hlb:=eO (dg b);have hba:=sj ha.h hi;have hbb:=sj hb.h hj;refine fn (fu:=⟨6⟩) func239 J J ntmps239 J J (fun C=>?_);refine mg (fu:=⟨4⟩) (X:=Unit) (fun _=>[(0, .d (dN a)),(1, .d (dN b))]) (fun _=>[]) (fun _=>True) [0,1] [] rfl ?_ (fun _=>J) (fun _ hm=>?_)
 .
  refine gx J<|?_;refine cs 15 J J J (fun hg15=>?_) (fun hg15=>?_)
  .
   refine br J J J (fun hc19=>?_) (fun hc19=>?_)
   .
    have hd0:=ge a 0;have hd1:=ge b 0;refine ix _ J (fC (k:=0) J (by omega)) J<|ix (hv:=by simp only[ah];exact⟨by omega,⟨(J6 _ _),(NN (ge _ _) (ge _ _))⟩⟩) _ J (fC (k:=0) J (by omega)) J<|cl J (td (u:=(dg a).getD 0 0*(dg b).getD 0 0) (by have:=EW (ge a 0) (ge b 0);omega)) J<|?_;exact rz J (by rw[uP (by omega),uP (by omega)];rfl)
   .
    exact at_ () trivial
  .
   exact at_ () trivial
 .
  refine aB 31 (.d (vI ((dg a).length:Nat))) J (by rw[hla];rfl) ?_;refine gx (fu:=⟨2⟩) J<|?_;refine aB 33 (.d (vI ((dg b).length:Nat))) J (by rw[hlb];rfl) ?_;refine gx J<|mk (fu:=⟨8⟩) ((List.replicate ((dg a).length+(dg b).length) 0).map dU) J J (by rw[<-uA];rfl) J<|?_;refine aB 37 (.d (vI ((dg a).length:Nat))) J (by rw[hla];rfl) ?_;refine gx J<|?_;refine lp (X:=List Nat×Nat) (fun⟨W,i⟩=>[(0, .d (dN a)),(1, .d (dN b)),(5, .rw 35),(36, .d (dN a)),(37, .d (vI ((dg a).length:Nat))),(38, .d (vI (i:Nat)))]) (fun⟨W,i⟩=>[(35,some (.b 366 1 (W.map dU) true))]) (fun⟨W,i⟩=>W.length=(dg a).length+(dg b).length/\bu W/\i<=(dg a).length/\dv (W.take (i+(dg b).length))=dv ((dg a).take i)*b) (fun⟨W,i⟩=>(dg a).length-i) ⟨List.replicate ((dg a).length+(dg b).length) 0,0⟩ J ⟨by simp, .replicate _,by omega,by rw[List.take_replicate,vU];simp[dv]⟩ (fun _=>J) (fun⟨W,i⟩ hk=>?_);dsimp only at hk⊢;obtain⟨h1,h2,h3,h4⟩:=hk;refine br J J J (fun hc39=>?_) (fun hc39=>?_)
  .
   refine ix (fu:=⟨15⟩) _ J (mc (by omega)) J<|?_;refine aB 44 (.d (vI ((dg b).length:Nat))) J (by rw[hlb];rfl) ?_;refine gx J<|?_;refine lp (X:=List Nat×Nat×Nat) (fun⟨W2,c,k⟩=>[(0, .d (dN a)),(1, .d (dN b)),(5, .rw 35),(6, .d (vI (i:Nat))),(7, .d (dU ((dg a).getD i 0))),(8, .d (.v (.int .u64 (c:Nat)))),(36, .d (dN a)),(37, .d (vI ((dg a).length:Nat))),(38, .d (vI (i:Nat))),(43, .d (dN b)),(44, .d (vI ((dg b).length:Nat))),(45, .d (vI (k:Nat)))]) (fun⟨W2,c,k⟩=>[(35,some (.b 366 1 (W2.map dU) true))]) (fun⟨W2,c,k⟩=>W2.length=(dg a).length+(dg b).length/\bu W2/\c<4294967296/\k<=(dg b).length/\dv (W2.take (i+(dg b).length))+4294967296^(i+k)*c=dv ((dg a).take i)*b+(dg a).getD i 0*(4294967296^i*dv ((dg b).take k))) (fun⟨W2,c,k⟩=>(dg b).length-k) ⟨W,0,0⟩ J ⟨h1,h2,by omega,by omega,by rw[h4];simp[dv]⟩ (fun _=>J) (fun⟨W2,c,k⟩ hk=>?_);dsimp only at hk⊢;obtain⟨g1,g2,g3,g4,g5⟩:=hk;have hlw:=eO W2;have hw:=g2.get (i+k);have hda:=ge a i;have hdb:=ge b k;refine br (fu2:=⟨10⟩) J J J (fun hc46=>?_) (fun hc46=>?_)
   .
    refine ix (fu:=⟨12⟩) (hv:=by simp only[ah];exact⟨⟨by omega,by omega⟩,⟨(J6 _ _),(NN (ge _ _) (ge _ _))⟩⟩) _ J (mc (by omega)) J<|?_;obtain⟨p,hp⟩: ∃p,p=(dg a).getD i 0*(dg b).getD k 0:=⟨_,rfl⟩;have hp1:p<=18446744065119617025:=hp▸EW hda hdb;refine aB 54 (.d (.v (.int .u64 (p:Nat)))) J (by rw[hp,iR]) ?_;refine gx J<|lb (fu:=⟨4⟩) _ J (fC (k:=i+k) (by omega) (by omega)) J<|?_;obtain⟨t,ht⟩: ∃t,t=p+W2.getD (i+k) 0+c:=⟨_,rfl⟩;refine aB 64 (.d (.v (.int .u64 (t:Nat)))) J (by congr 3;omega) ?_;refine gx (fu:=⟨11⟩) J<|?_;refine aB 70 (.d (dU (t%4294967296))) J (by show FX.d (.v (.int _ _))= .d (.v (.int _ _));congr 3) ?_;refine gx J<|sb (fu:=⟨5⟩) (hv:=by simp only[ah];exact(by decide)) _ ((W2.set (i+k) (t%4294967296)).map dU) J (fC (k:=i+k) (by omega) (by omega)) J (by(rw[show((i:Int)+k).toNat=i+k by omega,<-tn])<;>rfl) J<|?_;refine aB 73 (.d (.v (.int .u64 (t/4294967296:Nat)))) J (by rw[EN]) ?_;refine gx J<|?_;exact at_ ⟨W2.set (i+k) (t%4294967296),t/4294967296,k+1⟩ (by dsimp only;exact⟨⟨by simpa using g1,g2.set _ (by omega),by omega,by omega,by rw[ij];exact TN (by omega) (by omega) g5 ht hp⟩,(by omega)⟩)
   .
    obtain rfl:k=(dg b).length:=by omega
    refine aB 78 (.d (vI ((dg b).length:Nat))) J (by rw[hlb];rfl) ?_;refine gx (fu:=⟨3⟩) J<|?_;refine aB 81 (.d (dU c)) J (by show FX.d (.v (.int _ _))= .d (.v (.int _ _));congr 3;omega) ?_;refine gx J<|sb _ ((W2.set (i+(dg b).length) c).map dU) J (fC (k:=i+(dg b).length) (by omega) (by omega)) J (by(rw[show((i:Int)+((dg b).length:Nat)).toNat=i+(dg b).length by omega,<-tn])<;>rfl) J<|?_;exact at_ ⟨W2.set (i+(dg b).length) c,i+1⟩ (by dsimp only;exact⟨⟨by simpa using g1,g2.set _ g3,by omega,Ss J (by omega) g5⟩,(by omega)⟩)
  .
   obtain rfl:i=(dg a).length:=by omega
   refine fz 35 J J<|cl J (q7 (ds:=W) (by omega)) J<|?_;exact rz J (ry h2 (by have:=h4;rw[nP (by omega),nP (by omega),cg] at this;exact this))
def KW(x s:Nat):x*2^s=x*2^s%4294967296+4294967296*(x*2^s/4294967296):=by omega
def W1{x s:Nat}(hx:x<4294967296)(hs:s<32):x*2^s/4294967296<2^s:=by
 rw[jN (by decide),bR (2^s)];exact mV hx (aL _) (fX (by decide))
def HM{s:Nat}(hs:s<32):2^s*2^(32-s)=4294967296:=by rw[<-fW,show s+(32-s)=32 by omega]
def Zg(x s:Nat)(hs:s<32):x*2^s%4294967296=x%2^(32-s)*2^s:=by
 rw[<-HM hs,bR (2^s),rY]
def QK{x s:Nat}(hx:x<4294967296)(hs:s<32):x*2^s<18446744073709551616:=by
 have h1:2^s<=2^31:=bV (by decide) (by omega);have:=mV hx h1 (by decide);omega
def Xr{w x s:Nat}(hw:w<2^s)(hs:s<32):(BitVec.ofInt 32 (w:Int) ||| BitVec.ofInt 32 ((x*2^s%4294967296:Nat):Int)).toNat=w+x*2^s%4294967296:=by
 rw[Zg x s hs];refine uO 32 _ _ _ hw ?_;have h1:x%2^(32-s)+1<=2^(32-s):=dT _ (fX (by decide));have h2:=bK (2^s) h1;rw[bR (2^(32-s)),HM hs,cY,lM] at h2;show _<4294967296;omega
def YF{h:Nat}(hh:h<4294967296):(BitVec.ofInt 32 ((0:Nat):Int) ||| BitVec.ofInt 32 (h:Int)).toNat=h:=by
 have:=uO 32 0 h 0 (by decide) (by simpa using hh);simpa using this
def E'(k:Nat):2^k=4294967296^(k/32)*2^(k%32):=by
 rw[show(4294967296:Nat)=2^32 from J,<-oL,<-fW,qX]
def getD_set_ne{W:List Nat}{i j d:Nat}(h:i≠j):(W.set i d).getD j 0=W.getD j 0:=by
 rw[aK,aK,List.getElem?_set_ne h]
def Nu{W:List Nat}{i d:Nat}(h:i<W.length):(W.set i d).getD i 0=d:=by
 rw[aK,rQ h];rfl
def T8{A W:List Nat}{k q s i x:Nat}(hq:q=k/32)(hs:s=k%32)(hl:q+i+1<W.length)(hx:x=A.getD i 0)
  (h:dv (W.take (q+i+1))=dv (A.take i)*2^k):
  dv (((W.set (q+i) (W.getD (q+i) 0+x*2^s%4294967296)).set (q+i+1) (x*2^s/4294967296)).take (q+(i+1)+1))=dv (A.take (i+1))*2^k:=by
 have e1:=KD (W:=W) (j:=q+i) (m:=q+i+1) (d:=W.getD (q+i) 0+x*2^s%4294967296) (by omega) (by omega);rw[show q+(i+1)+1=q+i+1+1 by omega,oo (by rw[aT];omega),ij A,<-hx];have e2:dv ((W.set (q+i) (W.getD (q+i) 0+x*2^s%4294967296)).take (q+i+1))=dv (A.take i)*2^k+4294967296^(q+i)*(x*2^s%4294967296):=by
  rw[dZ,h] at e1;omega
 rw[e2,fS,bS,kW,<-dZ,<-KW,cY,E' k,<-hq,<-hs,fW];simp only[bS,kS,bR]
def Bq{a k ia:Nat}[ha:BN a ia](hk:k<=1000000000)(hi:ia<=1000000000:=by decide):PF GB prog 378 [dN a,vI (k:Nat)] (dN (a*2^k)):=by
 have hla:=eO (dg a);have hba:=sj ha.h hi;refine fn (fu:=⟨9⟩) func378 J J ntmps378 J J (fun C=>?_);refine aB 11 (.d (vI (k/32:Nat))) J (by show FX.d (.v (.int _ _))= .d (.v (.int _ _));rw[yr hk]) ?_;refine gx (fu:=⟨2⟩) J<|?_;refine aB 13 (.d (vI ((dg a).length:Nat))) J (by rw[hla];rfl) ?_;refine gx (fu:=⟨2⟩) J<|?_;refine aB 15 (.d (vI (k/32+(dg a).length+1:Nat))) J (by show FX.d (.v (.int _ _))= .d (.v (.int _ _));congr 3) ?_;refine gx J<|mk (fu:=⟨7⟩) (hv:=by simp only[ah];exact(by decide)) ((List.replicate (k/32+(dg a).length+1) 0).map dU) J J (by rw[<-uA];rfl) J<|?_;refine aB 18 (.d (vI (k%32:Nat))) J (by show FX.d (.v (.int _ _))= .d (.v (.int _ _));rw[Mv]) ?_;refine gx (fu:=⟨9⟩) J<|?_;refine aB 21 (.d (vI ((dg a).length:Nat))) J (by rw[hla];rfl) ?_;refine gx J<|?_;refine lp (X:=List Nat×Nat) (fun⟨W,i⟩=>[(0, .d (dN a)),(1, .d (vI (k:Nat))),(5, .rw 16),(6, .d (.v (.int .u64 (k%32:Nat)))),(20, .d (dN a)),(21, .d (vI ((dg a).length:Nat))),(22, .d (vI (i:Nat)))]) (fun⟨W,i⟩=>[(16,some (.b 366 1 (W.map dU) true))]) (fun⟨W,i⟩=>W.length=k/32+(dg a).length+1/\bu W/\i<=(dg a).length/\dv (W.take (k/32+i+1))=dv ((dg a).take i)*2^k/\W.getD (k/32+i) 0<2^(k%32)/\ ∀j,k/32+i<j->W.getD j 0=0) (fun⟨W,i⟩=>(dg a).length-i) ⟨List.replicate (k/32+(dg a).length+1) 0,0⟩ J ⟨by simp, .replicate _,by omega,by rw[List.take_replicate,vU];simp[dv],by rw[MV];exact fX (by decide),fun j _=>MV _ _⟩ (fun _=>J) (fun⟨W,i⟩ hk=>?_);dsimp only at hk⊢;obtain⟨h1,h2,h3,h4,h5,h6⟩:=hk;have hlw:=eO W;have hda:=ge a i;have hsk:k%32<32:=dT _ (by decide)
 have hpp:2^(k%32)<=2^31:=bV (by decide) (by omega);refine br J J J (fun hc23=>?_) (fun hc23=>?_)
 .
  refine ix (fu:=⟨11⟩) (hv:=by simp only[ah];exact⟨by omega,(by omega)⟩) _ J (mc (by omega)) J<|?_;have hhi:=W1 hda hsk;have hfit0:=QK hda hsk;have hor:=Xr (x:=(dg a).getD i 0) h5 hsk;have hfit:W.getD (k/32+i) 0+(dg a).getD i 0*2^(k%32)%4294967296<4294967296:=by rw[<-hor];exact BitVec.isLt _
  have hlp:=KW ((dg a).getD i 0) (k%32);refine aB 30 (.d (.v (.int .u64 ((dg a).getD i 0*2^(k%32):Nat)))) J (by show FX.d (.v (.int _ _))= .d (.v (.int _ _));rw[qb _ (k%32) (by omega) hfit0 (by omega)]) ?_;obtain⟨t,ht⟩: ∃t,t=(dg a).getD i 0*2^(k%32):=⟨_,rfl⟩;simp only[<-ht] at hhi hfit0 hor hfit hlp;rw[<-ht];refine gx (fu:=⟨8⟩) J<|?_;refine aB 33 (.d (vI (k/32:Nat))) J (by show FX.d (.v (.int _ _))= .d (.v (.int _ _));rw[yr hk]) ?_;refine gx J<|lb (fu:=⟨2⟩) _ J (fC (k:=k/32+i) (by omega) (by omega)) J<|?_;refine aB 39 (.d (dU (t%4294967296))) J (by show FX.d (.v (.int _ _))= .d (.v (.int _ _));congr 3) ?_;refine gx (fu:=⟨1⟩) J<|?_;refine aB 40 _ J (congrArg (fun z:Nat=>FX.d (.v (.int .u32 (z:Int)))) hor) ?_;refine gx J<|sb (fu:=⟨6⟩) _ ((W.set (k/32+i) (W.getD (k/32+i) 0+t%4294967296)).map dU) J (fC (k:=k/32+i) (by omega) (by omega)) J (by(rw[show(((k/32:Nat):Int)+i).toNat=k/32+i by omega];simp only[pX];rfl)<;>rfl) J<|?_;refine aB 44 (.d (vI (k/32:Nat))) J (by show FX.d (.v (.int _ _))= .d (.v (.int _ _));rw[yr hk]) ?_;refine gx J<|lb (fu:=⟨0⟩) _ J (fC (k:=k/32+i+1) (by omega) (by rw[aT];omega)) J<|?_;refine aB 49 (.d (dU 0)) J (by rw[getD_set_ne (by omega),h6 _ (by omega)]) ?_;refine gx (fu:=⟨2⟩) (hv:=by simp only[ah];exact(by decide)) J<|?_;refine aB 51 (.d (.v (.int .u64 (t/4294967296:Nat)))) J (by rw[EN]) ?_;refine gx (fu:=⟨1⟩) J<|?_;refine aB 52 (.d (dU (t/4294967296))) J (by show FX.d (.v (.int _ _))= .d (.v (.int _ _));congr 3;omega) ?_;refine gx (fu:=⟨1⟩) J<|?_;refine aB 53 _ J (congrArg (fun z:Nat=>FX.d (.v (.int .u32 (z:Int)))) (YF (by omega))) ?_
  refine gx J<|sb _ (((W.set (k/32+i) (W.getD (k/32+i) 0+t%4294967296)).set (k/32+i+1) (t/4294967296)).map dU) J (fC (k:=k/32+i+1) (by omega) (by rw[aT];omega)) J (by(rw[show(((k/32:Nat):Int)+i+1).toNat=k/32+i+1 by omega];simp only[pX];rfl)<;>rfl) J<|?_;exact at_ ⟨(W.set (k/32+i) (W.getD (k/32+i) 0+t%4294967296)).set (k/32+i+1) (t/4294967296),i+1⟩ (by dsimp only;exact⟨⟨by simpa using h1,(h2.set _ hfit).set _ (by omega),by omega,by have q:=T8 (x:=(dg a).getD i 0) J J (by omega) J h4;rw[<-ht] at q;exact q,by rw[show k/32+(i+1)=k/32+i+1 by omega,Nu (by simp;omega)];exact hhi,fun j hj=>by rw[getD_set_ne (by omega),getD_set_ne (by omega)];exact h6 j (by omega)⟩,(by omega)⟩)
 .
  obtain rfl:i=(dg a).length:=by omega
  refine fz 16 J J<|cl J (q7 (ds:=W) (by omega)) J<|?_;exact rz J (ry h2 (by have:=h4;rw[nP (by omega),nP (by omega),cg] at this;exact this))
def Up{a k:Nat}(h:(dg a).length<=k/32):a/2^k=0:=by
 refine jU ?_;have h1:=iw (kA a);rw[cg] at h1;have h2:4294967296^(dg a).length<=4294967296^(k/32):=bV (by decide) h;have h3:4294967296^(k/32)*1<=4294967296^(k/32)*2^(k%32):=fT _ (fX (by decide));rw[E' k];omega
def ET{ds:List Nat}(h:bu ds)(q:Nat):dv (ds.drop q)=dv ds/4294967296^q:=by
 rcases iW ds.length q with hq|hq
 ·rw[oX (by omega)]
  have h1:=iw h;have h2:4294967296^ds.length<=4294967296^q:=bV (by decide) (by omega);rw[jU (by omega)];rfl
 ·have e:=Db ds q hq
  have h1:=iw (h.take q);rw[bM,fN hq] at h1;rw[e,lT _ _ (fX (by decide)),jU h1,dK]
def FG{ds:List Nat}(h:bu ds)(i:Nat):dv ds/4294967296^i=ds.getD i 0+4294967296*ds.getD (i+1) 0+18446744073709551616*(dv ds/4294967296^(i+2)):=by
 have e0:=ET h i;have e2:=ET h (i+2);rw[<-e0,<-e2];have g0:ds.getD i 0=(ds.drop i).getD 0 0:=by rw[aK,aK,lJ];rfl
 have g1:ds.getD (i+1) 0=(ds.drop i).getD 1 0:=by rw[aK,aK,lJ]
 have g2:ds.drop (i+2)=(ds.drop i).drop 2:=by rw[sU]
 rw[g0,g1,g2]
 match ds.drop i with
 |[]=>rfl
 |[u]=>simp[dv]
 |u::v::t=>simp only[dv,sW,lZ,sK,iM];omega
def S7{D s i u v w Z:Nat}(hs:s<32)(hZ:D/4294967296^i=u+4294967296*v+18446744073709551616*Z)(hw:w=(u+v*4294967296)/2^s%4294967296):(D/2^s)%4294967296^(i+1)=(D/2^s)%4294967296^i+4294967296^i*w:=by
 rw[fS,Nat.mod_mul];congr 2;rw[lS,bR (2^s),<-lS,hZ,hw];have h1:18446744073709551616=2^s*(2^(32-s)*4294967296):=by rw[<-bS,HM hs]
 rw[h1,bS (2^s),lT _ _ (fX (by decide)),bR v];rw[bR (2^(32-s)),bS,mS]
def Ud{a k:Nat}{W:List Nat}{q s:Nat}(hq:q=k/32)(hs:s=k%32)(hl:W.length=(dg a).length-q)(h:dv (W.take ((dg a).length-q))=(dv ((dg a).drop q)/2^s)%4294967296^((dg a).length-q)):dv W=a/2^k:=by
 rw[nP (by omega)] at h;have h1:=iw ((kA a).drop q);rw[gM] at h1;have h2:=kJ (dv ((dg a).drop q)) (2^s);rw[h,fR (by omega),ET (kA a),cg,E' k,<-hq,<-hs,lS]
def Vg{a k ia:Nat}[ha:BN a ia](hk:k<=1000000000)(hi:ia<=1000000000:=by decide):PF GB prog 379 [dN a,vI (k:Nat)] (dN (a/2^k)):=by
 have hla:=eO (dg a);have hba:=sj ha.h hi;refine fn (fu:=⟨10⟩) func379 J J ntmps379 J J (fun C=>?_);refine aB 12 (.d (vI (k/32:Nat))) J (by show FX.d (.v (.int _ _))= .d (.v (.int _ _));rw[yr hk]) ?_;refine gx (fu:=⟨2⟩) J<|?_;refine aB 14 (.d (vI ((dg a).length:Nat))) J (by rw[hla];rfl) ?_;refine gx J<|?_;refine br (fu2:=⟨6⟩) (v2:=fun _=>by simp only[ah];exact(by decide)) J J J (fun hc15=>?_) (fun hc15=>?_)
 .
  exact rz J (by rw[Up (by omega),H9];rfl)
 .
  refine aB 17 (.d (vI (k%32:Nat))) J (by show FX.d (.v (.int _ _))= .d (.v (.int _ _));rw[Mv]) ?_;refine gx (fu:=⟨9⟩) J<|?_;refine aB 21 (.d (vI (k/32:Nat))) J (by show FX.d (.v (.int _ _))= .d (.v (.int _ _));rw[yr hk]) ?_;refine gx J<|sG (fu:=⟨0⟩) (k/32) (dg a).length _ J J (by rw[hla]) J (tJ _) (by omega) (by omega) J<|?_;obtain⟨I,hI⟩: ∃I,I=(dg a).drop (k/32):=⟨_,rfl⟩;have hIl:I.length=(dg a).length-k/32:=by rw[hI,gM]
  have hIm:=eO I;have hIo:bu I:=hI▸(kA a).drop _;refine aB 22 (.d (eB I)) J (by show FX.d (.sl _)= .d (.sl _);rw[hI,<-hla,dY,List.map_drop]) ?_;refine gx (fu:=⟨7⟩) J<|?_;refine aB 24 (.d (vI (I.length:Nat))) J (by rw[hIm];rfl) ?_;refine gx J<|mk (fu:=⟨8⟩) ((List.replicate I.length 0).map dU) J J (by rw[<-uA];rfl) J<|?_;refine aB 27 (.d (vI (I.length:Nat))) J (by rw[hIm];rfl) ?_;refine gx J<|?_;refine lp (X:=List Nat×Nat) (fun⟨W,i⟩=>[(0, .d (dN a)),(5, .d (.v (.int .u64 (k%32:Nat)))),(6, .d (eB I)),(7, .rw 25),(26, .d (eB I)),(27, .d (vI (I.length:Nat))),(28, .d (vI (i:Nat)))]) (fun⟨W,i⟩=>[(25,some (.b 366 1 (W.map dU) true))]) (fun⟨W,i⟩=>W.length=I.length/\bu W/\i<=I.length/\dv (W.take i)=(dv I/2^(k%32))%4294967296^i) (fun⟨W,i⟩=>I.length-i) ⟨List.replicate I.length 0,0⟩ J ⟨by simp, .replicate _,by omega,by simp[dv,Nat.mod_one]⟩ (fun _=>J) (fun⟨W,i⟩ hk=>?_);dsimp only at hk⊢;obtain⟨h1,h2,h3,h4⟩:=hk;have hlw:=eO W;have hda:=hIo.get i;have hdb:=hIo.get (i+1);have hsk:k%32<32:=dT _ (by decide);refine br J J J (fun hc29=>?_) (fun hc29=>?_)
  .
   refine ix (fu:=⟨13⟩) _ J (mc (by omega)) J<|?_;refine mg (fu:=⟨6⟩) (hv:=fun _ _=>by simp only[ah];exact(by omega)) (X:=Unit) (fun _=>[(0, .d (dN a)),(5, .d (.v (.int .u64 (k%32:Nat)))),(6, .d (eB I)),(7, .rw 25),(26, .d (eB I)),(27, .d (vI (I.length:Nat))),(28, .d (vI (i:Nat))),(8, .d (vI (i:Nat))),(10, .d (.v (.int .u64 (I.getD i 0+I.getD (i+1) 0*4294967296:Nat))))]) (fun _=>[(25,some (.b 366 1 (W.map dU) true))]) (fun _=>True) [0,5,6,7,26,27,28,8,10] [25] rfl ?_ (fun _=>J) (fun _ hm=>?_)
   .
    refine gx (fu:=⟨6⟩) J<|?_;refine aB 38 (.d (vI (I.length:Nat))) J (by rw[hIm];rfl) ?_;refine gx J<|?_;refine br J J J (fun hc39=>?_) (fun hc39=>?_)
    .
     refine ix (fu:=⟨3⟩) (hv:=by simp only[ah];exact⟨by omega,(by decide)⟩) _ J (fC (k:=i+1) (by omega) (by omega)) J<|?_;refine aB 47 (.d (.v (.int .u64 (I.getD (i+1) 0*4294967296:Nat)))) J (by show FX.d (.v (.int _ _))= .d (.v (.int _ _));rw[qb _ 32 (by decide) (by show _*4294967296<_;omega) J]) ?_;refine gx (fu:=⟨1⟩) J<|?_;refine aB 48 _ J (congrArg (fun z:Nat=>FX.d (.v (.int .u64 (z:Int)))) (uO 64 (I.getD i 0) (I.getD (i+1) 0) 32 hda (by show _+_*4294967296<18446744073709551616;omega))) ?_;refine gx J<|?_;exact at_ () trivial
    .
     refine aB 10 (.d (.v (.int .u64 (I.getD i 0+I.getD (i+1) 0*4294967296:Nat)))) J (by rw[s6 (by omega:I.length<=i+1),kX,eJ]) ?_;exact at_ () trivial
   .
    refine aB 53 (.d (.v (.int .u64 ((I.getD i 0+I.getD (i+1) 0*4294967296)/2^(k%32):Nat)))) J (by show FX.d (.v (.int _ _))= .d (.v (.int _ _));rw[qP _ (k%32) (by omega) (by omega)]) ?_;refine gx (fu:=⟨1⟩) J<|?_;obtain⟨w,hw⟩: ∃w,w=(I.getD i 0+I.getD (i+1) 0*4294967296)/2^(k%32)%4294967296:=⟨_,rfl⟩;have hw1:w<4294967296:=hw▸dT _ (by decide);refine aB 54 (.d (dU w)) J (by show FX.d (.v (.int _ _))= .d (.v (.int _ _));rw[hw];congr 3) ?_;refine gx J<|sb _ ((W.set i w).map dU) J (mc (by omega)) J (by(rw[<-tn];rfl)<;>rfl) J<|?_;exact at_ ⟨W.set i w,i+1⟩ (by dsimp only;exact⟨⟨by simpa using h1,h2.set _ (by omega),by omega,by rw[oo (by omega),h4];exact(S7 hsk (FG hIo i) hw).symm⟩,(by omega)⟩)
  .
   refine fz 25 J J<|cl J (q7 (ds:=W) (by omega)) J<|?_;exact rz rfl (ry h2 (by obtain rfl:i=I.length:=(by omega);rw[hIl] at h1 h4;rw[hI] at h4;exact Ud rfl rfl h1 h4))
def Dm{a k:Nat}(h:a<4294967296^k):(dg a).length<=k:=by
 rcases iW k (dg a).length with q|q
 ·have h1:=qh (d4 a).2.2 (by intro e;rw[e] at q;simp at q)
  rw[cg] at h1;have h2:4294967296^k<=4294967296^((dg a).length-1):=bV (by decide) (by omega);omega
 ·exact q
def RT{a:Nat}(h:(dg a).length=2):(dg a).getD 0 0+(dg a).getD 1 0*4294967296=a:=by
 have e:=cg a;revert e
 match dg a,h with
 |[x,y],_=>intro e;simp[dv] at e⊢;omega
def xm(a:Nat):DV:= .tp [.v (.int .u64 ((if a<18446744073709551616 then a else 0:Nat):Int)),vB (decide (a<18446744073709551616))]
def Kr{a:Nat}(h:a<18446744073709551616):xm a= .tp [.v (.int .u64 (a:Int)),vB true]:=by unfold xm;rw[if_pos h,decide_eq_true h]
def V0{a:Nat}(h: ¬a<18446744073709551616):xm a= .tp [.v (.int .u64 0),vB false]:=by unfold xm;rw[if_neg h,decide_eq_false h];rfl
def rP(a:Nat):a<4294967296^(dg a).length:=by have:=iw (kA a);rwa [cg] at this
def Cv{a ia:Nat}[ha:BN a ia](hi:ia<=1000000000:=by decide):PF GB prog 282 [dN a] (xm a):=by
 have hla:=eO (dg a);have hba:=sj ha.h hi;have hlt:=rP a;have hd00:=ge a 0;refine fn (fu:=⟨11⟩) func282 J J ntmps282 J J (fun C=>?_);refine aB 5 (.d (vI ((dg a).length:Nat))) J (by rw[hla];rfl) ?_;refine gx J<|?_;refine br J J J (fun hc6=>?_) (fun hc6=>?_)
 .
  exact rz rfl (by rw[show(dg a).length=0 by omega] at hlt;obtain rfl:a=0:=(by omega);rfl)
 .
  refine br J J J (fun hc8=>?_) (fun hc8=>?_)
  .
   refine ix (fu:=⟨2⟩) _ J (fC (k:=0) J (by omega)) J<|?_;refine aB 13 (.d (.v (.int .u64 (a:Nat)))) J (by rw[uP (by omega)]) ?_;refine gx J<|?_;exact rz J (by rw[show(dg a).length=1 by omega] at hlt;rw[Kr (by omega),<-uP (a:=a) (by omega),uP (a:=a) (by omega)];rfl)
  .
   refine br J J J (fun hc14=>?_) (fun hc14=>?_)
   .
    have hd0:=ge a 0;have hd1:=ge a 1;refine ix (hv:=by simp only[ah];exact⟨by omega,(by decide)⟩) _ J (fC (k:=1) J (by omega)) J<|ix (fu:=⟨3⟩) _ J (fC (k:=0) J (by omega)) J<|?_;refine aB 25 (.d (.v (.int .u64 (a:Nat)))) J (congrArg (fun z:Nat=>FX.d (.v (.int .u64 (z:Int)))) (by rw[qb _ 32 (by decide) (by show _*4294967296<_;omega) J,BitVec.or_comm];exact(uO 64 ((dg a).getD 0 0) ((dg a).getD 1 0) 32 hd0 (by show _+_*4294967296<18446744073709551616;omega)).trans (RT (by omega)))) ?_;refine gx J<|?_;exact rz J (by rw[show(dg a).length=2 by omega] at hlt;rw[Kr (by omega)];rfl)
   .
    exact rz rfl (by rw[V0];rfl;intro h;have:=Dm (a:=a) (k:=2) (by omega);omega)
def Pd{G:Gh}{ds:List Nat}{v:Value}(hd:bu ds)(h:Is G (eB ds) v): ∃x:SV,v=x.v/\ce G x ds:=by
 obtain⟨x,rfl,h1⟩:=Mm.1 h;exact⟨x,J,hd,h1⟩
def ey.is{G:Gh}{k n:Nat}{z:SV}(h:ey k G z n):Is G (dN n) z.v:=(Et h.lt).2 ⟨z,J,h⟩
def yt{G:Gh}{ds:List Nat}{vs:List Value}(hd:bu ds)(h:IsLs G [eB ds] vs): ∃x:SV,vs=[x.v]/\ce G x ds:=by
 obtain⟨v,m,rfl,h1,h2⟩:=ba.1 h
 cases cA.1 h2
 obtain⟨x,rfl,h3⟩:=Pd hd h1;exact⟨x,J,h3⟩
def yn{G:Gh}{a b:Nat}{vs:List Value}(h:IsLs G [dN a,dN b] vs): ∃x y:SV,vs=[x.v,y.v]/\ce G x (dg a)/\ce G y (dg b):=by
 obtain⟨v,m,rfl,h1,h2⟩:=ba.1 h;obtain⟨y,rfl,h4⟩:=yt (d4 b).2.1 h2;obtain⟨x,rfl,h3⟩:=Pd (d4 a).2.1 h1;exact⟨x,y,J,h3,h4⟩
section
variable {GB:Gh} {a b i j:Nat}
def ll[h:BN a i](hi:i<=1000000000):(dg a).length<=31250001:=by have:=lD h.h;omega
def KY{ds:List Nat}(hd:bu ds)(hl:ds.length<=1125899906842624):PF GB prog 348 [eB ds] (vB (decide (dO ds))):=fun G vs _ hv=>by
 obtain⟨x,rfl,hx⟩:=yt hd hv;exact(Vr hx hl).mono fun v G' _ h=>aG.2 h
def tr[h:BN a i](hi:i<=1000000000:=by decide):PF GB prog 310 [dN a] (vI (bl a:Nat)):=fun G vs _ hv=>by
 obtain⟨x,rfl,hx⟩:=yt (d4 a).2.1 hv;have:=ll (a:=a) hi;exact(Wc hx (by omega)).mono fun v G' _ h=>aG.2 (by rw[h,cg])
def wY[h:BN a i](hi:i<=1000000000:=by decide):PF GB prog 308 [dN a] (dN a):=fun G vs _ hv=>by
 obtain⟨x,rfl,hx⟩:=yt (d4 a).2.1 hv;have:=ll (a:=a) hi;refine(Ge (k:=i) hx (by rw[cg];exact h.h) (by omega)).mono fun v G' _ h=>?_;obtain⟨z,rfl,h⟩:=h;rw[cg] at h;exact h.is
def Gi(h:a<18446744073709551616):PF GB prog 309 [.v (.int .u64 (a:Nat))] (dN a):=fun G vs _ hv=>by
 obtain⟨v,m,rfl,h1,h2⟩:=ba.1 hv
 cases cA.1 h2
 rw[aG.1 h1];refine(HE h).mono fun v G' _ h=>?_;obtain⟨z,rfl,h⟩:=h;exact h.is
def DX(h:a<18446744073709551616):PF GB prog 315 [dN a] (.tp [.v (.int .u64 (a:Nat)),vB true]):=fun G vs _ hv=>by
 obtain⟨x,rfl,hx⟩:=yt (d4 a).2.1 hv;have:BN a 64:=⟨h⟩;have:=ll (a:=a) (i:=64) (by decide);refine(GZ hx (by omega)).mono fun v G' _ e=>?_;rw[cg,if_pos h,decide_eq_true h] at e;subst e;exact iD.2 ⟨_,J, .cons (aG.2 J) (.cons (aG.2 J) .nil)⟩
def Zd[h:BN a i][k:BN b j](hi:i<=1000000000:=by decide)(hj:j<=1000000000:=by decide):PF GB prog 362 [dN a,dN b] (dN (a+b)):=fun G vs _ hv=>by
 obtain⟨x,y,rfl,hx,hy⟩:=yn hv;have:=ll (a:=a) hi;have:=ll (a:=b) hj;refine(Ui (kk:=i+j+1) hx hy (by rw[cg,cg];exact Cy h.h k.h) (by omega) (by omega)).mono fun v G' _ h=>?_;obtain⟨z,rfl,h⟩:=h;rw[cg,cg] at h;exact h.is
def Iv[h:BN a i][k:BN b j](hi:i<=1000000000:=by decide)(hj:j<=1000000000:=by decide):PF GB prog 363 [dN a,dN b] (.tp [dN (a-b),vB (decide (b<=a))]):=fun G vs _ hv=>by
 obtain⟨x,y,rfl,hx,hy⟩:=yn hv;have:=ll (a:=a) hi;have:=ll (a:=b) hj;refine(Xj (kk:=i) hx hy (by rw[cg];exact h.h) (by omega) (by omega)).mono fun v G' _ h=>?_;obtain⟨z,rfl,h⟩:=h;rw[cg,cg] at h⊢;exact iD.2 ⟨_,J, .cons h.is (.cons (aG.2 J) .nil)⟩
def ww[h:BN a i][k:BN b j](hi:i<=1000000000:=by decide)(hj:j<=1000000000:=by decide):PF GB prog 302 [dN a,dN b] (dN (a*b)):=fun G vs _ hv=>by
 obtain⟨x,y,rfl,hx,hy⟩:=yn hv;have:=ll (a:=a) hi;have:=ll (a:=b) hj;refine(Qm (kk:=i+j) hx hy (by rw[cg,cg];exact nB h.h k.h) (by omega) (by omega)).mono fun v G' _ h=>?_;obtain⟨z,rfl,h⟩:=h;rw[cg,cg] at h;exact h.is
def KH[h:BN a i][k:BN b j](hb:0<b)(hi:i<=1000000000:=by decide)(hj:j<=1000000000:=by decide):PF GB prog 313 [dN a,dN b] (.tp [dN (a/b),dN (a%b),vB true]):=fun G vs _ hv=>by
 obtain⟨x,y,rfl,hx,hy⟩:=yn hv;have:=ll (a:=a) hi;have:=ll (a:=b) hj;refine(Hj (k1:=i) (k2:=j) hx hy (by rw[cg];exact hb) (by rw[cg,cg];exact gW (kJ _ _) h.h) (by rw[cg,cg];exact pJ (dT _ hb) k.h) (by omega) (by omega)).mono fun v G' _ h=>?_;obtain⟨z,r,rfl,h,h'⟩:=h;rw[cg,cg] at h h';exact iD.2 ⟨_,J, .cons h.is (.cons h'.is (.cons (aG.2 J) .nil))⟩
def Hb[h:BN a i][k:BN b j](hi:i<=1000000000:=by decide)(hj:j<=1000000000:=by decide):PF GB prog 312 [dN a,dN b] (dN (Nat.gcd a b)):=fun G vs _ hv=>by
 obtain⟨x,y,rfl,hx,hy⟩:=yn hv;have:=ll (a:=a) hi;have:=ll (a:=b) hj;have e: ∀k',k'<=i+j->(2:Nat)^k'<=2^(i+j):=fun k' h=>bV (by decide) h;have:=e i (by omega);have:=e j (by omega);have:=h.h;have:=k.h;refine(Xn (k:=i+j) (k0:=i+j) hx hy (by rw[cg];omega) (by rw[cg];omega) (by omega) (by rw[cg,cg];exact ED h.h k.h) (by omega) (by omega)).mono fun v G' _ h=>?_;obtain⟨z,rfl,h⟩:=h;rw[cg,cg] at h;exact h.is
end
section
variable {GB:Gh} {C:aD} {n:Nat} {Q0:Exit->Act->World->Prop} {fr fr' fr1 fr2:aw} {own own' own1 own2:aH} {cf cf' cf1 cf2:Cf} {vc vc1 vc2:List Prop}
def iu{fb:Func}{e:Exit}{ds:List DV}{rv:DV}(hr:oy tt fr own fb.results.toList=some ds)(hd: ∀G y,Is G (gH ds) y->Is G rv y)(he:Aq e=true:=by rfl):ak prog GB C n (fA C prog fb (iI C (fun v G'=>Is G' rv v))) fr own (.ex e []):=by
 refine⟨fun ρ G ov a w r=>?_⟩;obtain⟨vs,h1,h2⟩:=zg r hr;have hk:Is G rv (f9 vs):=hd _ _ (zk h2)
 cases e with
 |ret=>exact zD (C:=C) (n:=n) (fr:=cF a) (own:=ov) (G:=G) (K:=fun v G'=>Is G' rv v) h1 hk a w ⟨r.h,r.sz,cP a,r.df⟩
 |normal=>exact JS (C:=C) (n:=n) (fr:=cF a) (own:=ov) (G:=G) (K:=fun v G'=>Is G' rv v) h1 hk a w ⟨r.h,r.sz,cP a,r.df⟩
 |_=>cases he
def LN(fr:aw)(cf:Cf):Option (Int×IntKind):=match b8 fr cf with
 |some ⟨_, .convert t t' x,_,_,_,_⟩=>match cO tt t,cO tt t',aI (bw fr cf) x with
  |some ⟨.int k,_,_,_⟩,some ⟨.int k',_,_,_⟩,some (.d (.v (.int j p)))=>bif kq k j then some (p,k') else none
  |_,_,_=>none
 |_=>none
def cu[fu:Fu]{p:Int}{k':IntKind}(u:Int)(h:LN fr cf=some (p,k'))(e:k'.wrap p=u)(hgo:cB tt n fu.n fr own cf (.d (.v (.int k' u))) [] []=⟨vc,fr',own',cf'⟩)(k:ak prog GB C n Q0 fr' own' cf')
  (hv:ah vc:=by first|exact trivial|(simp only[ah];kernel_rfl)|(simp only[ah];omega)):ak prog GB C n Q0 fr own cf:=by
 unfold LN at h;split at h<;>try (cases h;done)
 rename_i hh;split at h<;>try (cases h;done)
 rename_i k0 _ _ _ k1 _ _ _ j p0 hT hT' hx
 cases hk:kq k0 j with
 |false=>rw[hk] at h;cases h
 |true=>
  rw[hk,cond_true] at h;cases h;cases De hk;have:=vX (d7 _ _ hT) J;have:=vX (d7 _ _ hT') J;subst e;refine us hh (.x1 hx fun ρ G ov a w y _ r h1 h2=>?_) hgo hv k;rw[cH] at h2;subst h2;exact⟨_,cH.2 J,B7 h1⟩
def Kx(fr:aw)(cf:Cf):Option (Int×IntKind):=match b8 fr cf with
 |some ⟨_, .unOp .neg _ x,_,_,_,_⟩=>match aI (bw fr cf) x with
  |some (.d (.v (.int j p)))=>some (p,j)
  |_=>none
 |_=>none
def nu[fu:Fu]{p:Int}{k':IntKind}(u:Int)(h:Kx fr cf=some (p,k'))(e:k'.wrap (0-p)=u)(hgo:cB tt n fu.n fr own cf (.d (.v (.int k' u))) [] []=⟨vc,fr',own',cf'⟩)(k:ak prog GB C n Q0 fr' own' cf')
  (hv:ah vc:=by first|exact trivial|(simp only[ah];kernel_rfl)|(simp only[ah];omega)):ak prog GB C n Q0 fr own cf:=by
 unfold Kx at h;split at h<;>try (cases h;done)
 rename_i hh;split at h<;>cases h;rename_i hx;subst e;exact us hh (.x1 hx fun ρ G ov a w y _ r h1 h2=>by
  rw[cH] at h2;subst h2;exact⟨_,cH.2 J,Hx h1⟩) hgo hv k
end
def FO{x:Nat}:bl x=0↔x=0:=by
 have:= @mw x 0;simp at this;omega
def vE{a:Nat}:0<(dg a).length↔0<a:=by
 have:= @uW a;omega
def eS(neg:Bool)(a:Nat):DV:= .ag [.v (.bool neg),dN a]
def BS(neg:Bool)(a:Nat):eI (zv neg a)= .ag [.v (.bool (neg&&decide (0<a))),dN a]:=by unfold eI;rw[ot,Nz]
def Yu{n:Bool}{u:Nat}{b:Int}(h:n≠decide (b<0))(hle:b.natAbs<=u):zv n (u-b.natAbs)=zv n u+b:=by cases n<;>simp[zv] at* <;>omega
def W4{n:Bool}{u:Nat}{b:Int}(h:n≠decide (b<0))(hle:u<=b.natAbs):zv (decide (b<0)) (b.natAbs-u)=zv n u+b:=by cases n<;>simp[zv] at* <;>(try rw[if_pos h])<;>(try rw[if_neg (by omega)])<;>omega
def Mh{neg:Bool}{ds:List Nat}(hd:bu ds)(hl:ds.length<=1125899906842624):PF GB prog 269 [.ag [.v (.bool neg),eB ds]] (vB (decide (dO ds/\(neg=true->0<ds.length)))):=by
 refine fn func269 J J ntmps269 J J (fun C=>?_);refine cl J (KY hd hl) J<|?_;refine csd 6 J J J (fun hg6=>?_) (fun hg6=>?_)
 .
  refine ql 10 J J J (fun hg10=>?_) (fun hg10=>?_)
  .
   exact rz J (by unfold vB;congr 2;simp_all [gH])
  .
   exact rz J (by unfold vB;congr 2;simp_all [gH])
 .
  exact rz J (by unfold vB;congr 2;simp_all [gH])
def Jz{n:Bool}{a i:Nat}[h:BN a i](hi:i<=1000000000:=by decide):PF GB prog 311 [eS n a] (vI (zv n a).sign):=by
 refine fn func311 J J ntmps311 J J (fun C=>?_);refine cl J (tr (a:=a) hi) J<|?_;refine br J J J (fun hc3=>?_) (fun hc3=>?_)
 .
  exact rz J (by have:=FO.1 (Int.ofNat.inj hc3);subst this;cases n<;>rfl)
 .
  refine bb J J J (fun hc8=>?_) (fun hc8=>?_)
  .
   exact rz J (by subst hc8;rw[eY (by have:a≠0:=(fun e=>hc3 (by rw[e];rfl));simp[zv];omega)];rfl)
  .
   exact rz J (by subst hc8;rw[fL (by have:a≠0:=(fun e=>hc3 (by rw[e];rfl));simp[zv];omega)];rfl)
def F5{m:Int}(h0: -9223372036854775808<=m)(h1:m<=9223372036854775807):PF GB prog 289 [vI m] (eI m):=by
 refine fn (fu:=⟨8⟩) func289 J J ntmps289 J J (fun C=>?_);refine cu ((m%18446744073709551616:Int)) J (lz _) J<|?_;refine br (fu1:=⟨2⟩) (fu2:=⟨0⟩) J J J (fun hc7=>?_) (fun hc7=>?_)
 .
  refine nu ((m.natAbs:Nat)) J (by rw[lz];omega) J<|cl J (Gi (a:=m.natAbs) (by omega)) J<|?_;exact rz J J
 .
  refine aB 3 (.d (.v (.int .u64 (m.natAbs:Nat)))) J (by congr 3;omega) ?_;refine gx J<|cl J (Gi (a:=m.natAbs) (by omega)) J<|?_;exact rz J J
def O4{n:Bool}{a:Nat}(h:a<4611686018427387904):PF GB prog 314 [eS n a] (.tp [vI (zv n a),vB true]):=by
 refine fn func314 J J ntmps314 J J (fun C=>?_);refine cl (fu:=⟨2⟩) J (DX (a:=a) (by omega)) J<|gu J J J<|?_;refine ql 18 J J J (fun hg18=>?_) (fun hg18=>?_)
 .
  refine br (fu1:=⟨3⟩) J J J (fun hc12=>?_) (fun hc12=>?_)
  .
   refine nu (fu:=⟨0⟩) (((18446744073709551616-a)%18446744073709551616:Int)) J (by rw[lz];omega) J<|cu (zv n a) J (by subst hg18;rw[Dv];simp only[zv,if_true];omega) J<|?_;exact rz J J
  .
   exact absurd (by omega) hc12
 .
  refine ql 32 J J J (fun hg32=>?_) (fun hg32=>?_)
  .
   refine br J J J (fun hc25=>?_) (fun hc25=>?_)
   .
    exact rz J (by subst hg18;rfl)
   .
    exact absurd (by omega) hc25
  .
   subst hg18;cases hg32
def wx{neg:Bool}{a i:Nat}[h:BN a i](hi:i<=1000000000:=by decide):PF GB prog 307 [eS neg a] (eI (zv neg a)):=by
 refine fn func307 J J ntmps307 J J (fun C=>?_);refine cl J (wY hi) J<|?_;refine ql 9 J J J (fun hg9=>?_) (fun hg9=>?_)
 .
  exact rz J (by rw[BS];simp[hg9,vE,gH])
 .
  exact rz J (by rw[BS];simp[hg9,vE,gH])
def CJ{neg:Bool}{a:Nat}:PF GB prog 360 [.v (.bool neg),dN a] (eI (zv neg a)):=by
 refine fn func360 J J ntmps360 J J (fun C=>?_);refine ql 6 J J J (fun hg6=>?_) (fun hg6=>?_)
 .
  exact rz J (by rw[BS];simp[hg6,vE,gH])
 .
  exact rz J (by rw[BS];simp[hg6,vE,gH])
def Sz{m:Int}{i:Nat}[h:BI m i](hi:i<=1000000000:=by decide):PF GB prog 339 [eI m] (eI (-m)):=by
 refine fn func339 J J ntmps339 J J (fun C=>?_);refine cl J (wx (neg:=!decide (m<0)) (a:=m.natAbs) hi) J<|?_;exact rz J (by rw[S5,kC];rfl)
def FC{a b:Int}{i j:Nat}[h:BI a i][k:BI b j](hi:i<=1000000000:=by decide)(hj:j<=1000000000:=by decide):PF GB prog 301 [eI a,eI b] (eI (a*b)):=by
 refine fn func301 J J ntmps301 J J (fun C=>?_);refine cl J (ww (a:=a.natAbs) (b:=b.natAbs) hi hj) J<|cl J CJ J<|?_;exact rz J (by rw[show(!(decide (a<0)==decide (b<0)))=(decide (a<0) !=decide (b<0)) from J,Mp,kC,kC];rfl)
def Q4{n1:Bool}{u:Nat}{b:Int}{i j:Nat}[h:BN u i][k:BI b j](hi:i<=1000000000:=by decide)(hj:j<=1000000000:=by decide):PF GB prog 303 [eS n1 u,eI b] (eI (zv n1 u+b)):=by
 refine fn func303 J J ntmps303 J J (fun C=>?_);refine bb J J J (fun hc13=>?_) (fun hc13=>?_)
 .
  refine cl J (Zd (b:=b.natAbs) hi hj) J<|cl J CJ J<|?_;exact rz J (by rw[TW,show n1=decide (b<0) from by simpa using hc13,kC];rfl)
 .
  refine cl J (Iv (b:=b.natAbs) hi hj) J<|?_;refine bd J J J (fun hc30=>?_) (fun hc30=>?_)
  .
   refine cl J CJ J<|?_;exact rz J (by rw[Yu (by simpa using hc13) hc30];rfl)
  .
   refine cl J (Iv (a:=b.natAbs) hj hi) J<|cl J CJ J<|?_;exact rz J (by rw[W4 (by simpa using hc13) (by omega)];rfl)
def SJ{a b:Int}{i j:Nat}[h:BI a i][k:BI b j](hi:i<=1000000000:=by decide)(hj:j<=1000000000:=by decide):PF GB prog 303 [eI a,eI b] (eI (a+b)):=(Q4 (n1:=decide (a<0)) (u:=a.natAbs) hi hj).to (by rw[kC])
def eh(q:Rat):Prop:= ¬(q.num.natAbs<4611686018427387904/\q.den<4611686018427387904)
instance (q:Rat):Decidable (eh q):=inferInstanceAs (Decidable (¬_))
def dm(q:Rat):Int:=if eh q then 0 else q.num
def dq(q:Rat):Int:=if eh q then 0 else(q.den:Int)-1
def di(q:Rat):DV:= .op (decide (eh q)) [.v (.bool (decide (q.num<0))),dN q.num.natAbs,dN q.den]
def eF(q:Rat):DV:= .ag [vI (dm q),vI (dq q),di q]
abbrev Zw {q:Rat} (h:decide (eh q)=true):eh q:=of_decide_eq_true h
abbrev q8 {q:Rat} (h:decide (eh q)=false): ¬eh q:=of_decide_eq_false h
abbrev Yv {q:Rat} (h: ¬decide (eh q)=false):eh q:=by simpa using h
abbrev my {q:Rat} (h: ¬decide (eh q)=true): ¬eh q:=by simpa using h
def lG{q:Rat}(h: ¬eh q):dm q=q.num:=if_neg h
def ni{q:Rat}(h: ¬eh q):dq q=(q.den:Int)-1:=if_neg h
def oC{q:Rat}(h: ¬eh q):q.num.natAbs<4611686018427387904:=(Decidable.not_not.1 h).1
def pe{q:Rat}(h: ¬eh q):q.den<4611686018427387904:=(Decidable.not_not.1 h).2
def GR{q:Rat}(h:eh q):q≠0:=fun e=>by subst e;exact h ⟨by decide,by decide⟩
def qv{q:Rat}{m d:Int}{r:DV}(h: ¬eh q)(h1:q.num=m)(h2:(q.den:Int)-1=d)(e:r= .ag [vI m,vI d, .v (.pointer none)])(G:Gh)(y:Value)(k:Is G r y):Is G (eF q) y:=by
 subst e h1 h2;obtain⟨l,rfl,g⟩:=c6.1 k;obtain⟨y1,l1,rfl,k1,g1⟩:=ba.1 g;obtain⟨y2,l2,rfl,k2,g2⟩:=ba.1 g1;obtain⟨y3,l3,rfl,k3,g3⟩:=ba.1 g2;exact c6.2 ⟨_,J, .cons (by rw[lG h];exact k1) (.cons (by rw[ni h];exact k2) (.cons (qI.2 (.inl ⟨decide_eq_false h,aG.1 k3⟩)) g3))⟩
def OO{q:Rat}{n:Bool}{a d:Nat}{r:DV}(h:eh q)(h1:decide (q.num<0)=n)(h2:q.num.natAbs=a)(h3:q.den=d)(e:r= .ag [vI 0,vI 0, .pt [.v (.bool n),dN a,dN d]])(G:Gh)(y:Value)(k:Is G r y):Is G (eF q) y:=by
 subst e h1 h2 h3;obtain⟨l,rfl,g⟩:=c6.1 k;obtain⟨y1,l1,rfl,k1,g1⟩:=ba.1 g;obtain⟨y2,l2,rfl,k2,g2⟩:=ba.1 g1;obtain⟨y3,l3,rfl,k3,g3⟩:=ba.1 g2;exact c6.2 ⟨_,J, .cons (by unfold dm;rw[if_pos h];exact k1) (.cons (by unfold dq;rw[if_pos h];exact k2) (.cons (qI.2 (.inr ⟨decide_eq_true h,k3⟩)) g3))⟩
def wu(G:Gh)(y:Value)(k:Is G (.ag [vI 0,vI 0, .v (.pointer none)]) y):Is G (eF 0) y:=qv (fun h=>GR h J) J J J G y k
def NL{m:Int}(h:m.natAbs<4611686018427387904)(G:Gh)(y:Value)(k:Is G (.ag [vI m,vI 0, .v (.pointer none)]) y):Is G (eF (m:Rat)) y:=
 qv (fun k=>k ⟨by simpa using h,by rw[qK];decide⟩) (qJ m) (by rw[qK];rfl) J G y k
def KB{n:Bool}{a d:Nat}(hd:0<d):(mkRat (zv n a) d).num=zv n (a/Nat.gcd a d)/\(mkRat (zv n a) d).den=d/Nat.gcd a d:=by
 obtain⟨h1,h2⟩:=JW (m:=zv n a) hd;rw[ot] at h1 h2;exact⟨by rw[h1,Vi (jL _ _)],h2⟩
def Ny{n:Bool}{a d a' d':Nat}(hd:0<d)(ha:a'=a/Nat.gcd a d)(hd':d'=d/Nat.gcd a d)(h1:a'<4611686018427387904)(h2:d'<4611686018427387904)(G:Gh)(y:Value)(k:Is G (.ag [vI (zv n a'),vI ((d':Int)-1), .v (.pointer none)]) y):Is G (eF (mkRat (zv n a) d)) y:=by
 obtain⟨e1,e2⟩:=KB (n:=n) (a:=a) hd;rw[<-ha] at e1;rw[<-hd'] at e2;exact qv (fun k=>k ⟨by rw[e1,ot];exact h1,by rw[e2];exact h2⟩) e1 (by rw[e2]) J G y k
def Bv{n:Bool}{a d a' d':Nat}(hd:0<d)(ha:a'=a/Nat.gcd a d)(hd':d'=d/Nat.gcd a d)(h: ¬(a'<4611686018427387904/\d'<4611686018427387904))(G:Gh)(y:Value)(k:Is G (.ag [vI 0,vI 0, .pt [.v (.bool (decide (zv n a'<0))),dN (zv n a').natAbs,dN d']]) y):Is G (eF (mkRat (zv n a) d)) y:=by
 obtain⟨e1,e2⟩:=KB (n:=n) (a:=a) hd;rw[<-ha] at e1;rw[<-hd'] at e2;exact OO (fun k=>h ⟨by rw[e1,ot] at k;exact k.1,by rw[e2] at k;exact k.2⟩) (by rw[e1]) (by rw[e1]) e2 J G y k
def Qh{a d:Nat}(hd:0<d)(h: ¬(1:Int)<(bl (Nat.gcd a d):Nat)):Nat.gcd a d=1:=by
 have h1:Nat.gcd a d≠0:=fun e=>by rw[Nat.gcd_eq_zero_iff] at e;omega
 have h2:Nat.gcd a d<2^1:=mw.1 (by omega);omega
def lA{x:Nat}:(((bl x:Nat):Int)<=62)↔x<4611686018427387904:=Vx
def PF.ofI{P:Program}{f:FuncId}{ds ds':List DV}{r:DV}(h:PF GB P f ds r)(k: ∀G vs,IsLs G ds' vs->IsLs G ds vs):PF GB P f ds' r:=fun G vs hg hv=>h G vs hg (k G vs hv)
def sE{n:Bool}{a d i j:Nat}[h:BN a i][k:BN d j](hi:i<=450000000:=by decide)(hj:j<=450000000:=by decide):PF GB prog 218 [eS n a,dN d] (eF (mkRat (zv n a) d)):=by
 refine fn func218 J J ntmps218 J J (fun C=>?_);refine cl J (tr (a:=d) (by omega)) J<|?_;refine cs 13 J J J (fun hg13=>?_) (fun hg13=>?_)
 .
  exact iu rfl (by obtain rfl:=FO.1 (Int.ofNat.inj hg13);rw[Rat.mkRat_zero];exact wu)
 .
  have hd0:0<d:=by have:= @FO d;omega
  have hg0:0<Nat.gcd a d:=pN _ hd0;refine cl J (Jz (n:=n) (a:=a) (by omega)) J<|?_;refine br J J J (fun hc17=>?_) (fun hc17=>?_)
  .
   exact iu J (by rw[jX.1 hc17,Rat.zero_mkRat];exact wu)
  .
   refine cl J (Hb (a:=a) (b:=d) (by omega) (by omega)) J<|cl J (tr (a:=Nat.gcd a d) (i:=i+j) (by omega)) J<|?_;refine br J J J (fun hc25=>?_) (fun hc25=>?_)
   .
    obtain⟨a',ea⟩: ∃a',a'=a/Nat.gcd a d:=⟨_,rfl⟩;obtain⟨d',ed⟩: ∃d',d'=d/Nat.gcd a d:=⟨_,rfl⟩;have hba:BN a' i:=ea▸inferInstance;have hbd:BN d' j:=ed▸inferInstance;refine cl (fu:=⟨2⟩) J (KH (a:=a) (b:=Nat.gcd a d) (j:=i+j) hg0 (by omega) (by omega)) J<|?_;refine aB 31 (.d (dN a')) J (by rw[ea]) ?_;refine gx J<|cl (fu:=⟨2⟩) J (KH (a:=d) (b:=Nat.gcd a d) (j:=i+j) hg0 (by omega) (by omega)) J<|?_;refine aB 39 (.d (dN d')) J (by rw[ed]) ?_;refine gx J<|cl J (tr (h:=hba) (by omega)) J<|?_;refine cs 46 J J J (fun hg46=>?_) (fun hg46=>?_)
    .
     refine cl J (tr (h:=hbd) (by omega)) J<|?_;refine br J J J (fun hc50=>?_) (fun hc50=>?_)
     .
      have hs2:=lA.1 hc50;refine cl J (O4 (lA.1 hg46)) J<|cl J (DX (by have:=lA.1 hc50;omega)) J<|?_;exact iu J (Ny hd0 ea ed (lA.1 hg46) (lA.1 hc50))
     .
      refine cl J (wx (neg:=n) (h:=hba) (by omega)) J<|cl J (wY (h:=hbd) (by omega)) J<|fz 71 J J<|?_;exact iu J (Bv hd0 ea ed (fun e=>hc50 (lA.2 e.2)))
    .
     refine cl J (wx (neg:=n) (h:=hba) (by omega)) J<|cl J (wY (h:=hbd) (by omega)) J<|fz 71 J J<|?_;exact iu J (Bv hd0 ea ed (fun e=>hg46 (lA.2 e.1)))
   .
    have hg1:=Qh hd0 hc25;have ea:a=a/Nat.gcd a d:=by rw[hg1,sS]
    have ed:d=d/Nat.gcd a d:=by rw[hg1,sS]
    have hba:=h;have hbd:=k;refine cl J (tr (h:=hba) (by omega)) J<|?_;refine cs 46 J J J (fun hg46=>?_) (fun hg46=>?_)
    .
     refine cl J (tr (h:=hbd) (by omega)) J<|?_;refine br J J J (fun hc50=>?_) (fun hc50=>?_)
     .
      have hs2:=lA.1 hc50;refine cl J (O4 (lA.1 hg46)) J<|cl J (DX (by have:=lA.1 hc50;omega)) J<|?_;exact iu J (Ny hd0 ea ed (lA.1 hg46) (lA.1 hc50))
     .
      refine cl J (wx (neg:=n) (h:=hba) (by omega)) J<|cl J (wY (h:=hbd) (by omega)) J<|fz 71 J J<|?_;exact iu J (Bv hd0 ea ed (fun e=>hc50 (lA.2 e.2)))
    .
     refine cl J (wx (neg:=n) (h:=hba) (by omega)) J<|cl J (wY (h:=hbd) (by omega)) J<|fz 71 J J<|?_;exact iu J (Bv hd0 ea ed (fun e=>hg46 (lA.2 e.1)))
def qE{m:Int}{i:Nat}[h:BI m i](hi:i<=400000000:=by decide):PF GB prog 270 [eI m] (eF (m:Rat)):=by
 refine fn func270 J J ntmps270 J J (fun C=>?_);refine rf (fu:=⟨0⟩) J J<|?_;refine aB 4 (.d (dN 1)) J (by unfold dN;rw[y7];rfl) ?_;refine gx J<|cl J (sE (n:=decide (m<0)) (a:=m.natAbs) (d:=1) (by omega)) J<|?_;exact rz J (by rw[kC,show mkRat m 1=(m:Rat) from rS ..];rfl)
def r6{q:Rat}:PF GB prog 271 [eF q] (vB (decide (q=0))):=by
 refine fn func271 J J ntmps271 J J (fun C=>?_);refine cs 6 J J J (fun hg6=>?_) (fun hg6=>?_)
 .
  exact rz J (by rw[lG (q8 hg6)];show DV.v (.bool (decide _))= .v (.bool _);congr 2;exact decide_eq_decide.2 ⟨fun e=>oY.1 e,fun e=>by rw[e];rfl⟩)
 .
  exact rz J (by rw[decide_eq_false (GR (Yv hg6))];rfl)
def Aj{m:Int}(h:m.natAbs<9223372036854775808):PF GB prog 350 [vI m] (.v (.int .u64 (m.natAbs:Nat))):=by
 refine fn func350 J J ntmps350 J J (fun C=>?_);refine br J J J (fun hc4=>?_) (fun hc4=>?_)
 .
  exact rz J (by show DV.v (.int _ _)=_;congr 2;omega)
 .
  exact rz J (by show DV.v (.int _ _)=_;congr 2;omega)
def qg{q:Rat}{i:Nat}[h:BQ q i](hi:i<=900000000:=by decide):PF GB prog 216 [eF q] (dN q.den):=by
 refine fn func216 J J ntmps216 J J (fun C=>?_);refine br (v1:=fun hc5=>by simp only[ah];exact hc5) (fu2:=⟨6⟩) J J J (fun hc5=>?_) (fun hc5=>?_)
 .
  refine cl J (wY (a:=q.den) (by omega)) J<|?_;exact rz J J
 .
  have hd:=q.den_nz;have hs:=pe (my hc5);refine aB 13 (.d (vI ((q.den:Int)-1))) J (by rw[ni (my hc5)]) ?_;refine gx (fu:=⟨2⟩) J<|?_;refine aB 15 (.d (.v (.int .u64 (q.den:Nat)))) J (by congr 3;omega) ?_;refine gx J<|cl J (Gi (a:=q.den) (by omega)) J<|?_;exact rz J J
def qx{q:Rat}{i:Nat}[h:BQ q i](hi:i<=900000000:=by decide):PF GB prog 215 [eF q] (eI q.num):=by
 refine fn func215 J J ntmps215 J J (fun C=>?_);refine br (v1:=fun hc5=>by simp only[ah];exact hc5) (fu2:=⟨6⟩) J J J (fun hc5=>?_) (fun hc5=>?_)
 .
  refine cl J (wx (neg:=decide (q.num<0)) (a:=q.num.natAbs) (by omega)) J<|?_;exact rz J (by rw[kC];rfl)
 .
  have hs:=oC (my hc5);refine aB 13 (.d (vI q.num)) J (by rw[lG (my hc5)]) ?_;refine gx J<|cl J (F5 (by omega) (by omega)) J<|?_;exact rz J J
def oD{q:Rat}{i:Nat}[h:BQ q i](hi:i<=900000000:=by decide):PF GB prog 245 [eF q] (eF (-q)):=by
 refine fn func245 J J ntmps245 J J (fun C=>?_);refine br (v1:=fun hc5=>by simp only[ah];exact hc5) (fu2:=⟨6⟩) J J J (fun hc5=>?_) (fun hc5=>?_)
 .
  refine cl (fu:=⟨6⟩) (hv:=by simp only[ah];exact hc5) J (Sz (m:=q.num) (by omega)) J<|Qo J J<|?_;exact iu J (OO (q:= -q) (fun k=>Zw hc5 (by rw[oN,kZ,rN] at k;exact k)) (by rw[oN]) (by rw[oN]) (rN q) J)
 .
  have hs:=oC (my hc5);refine aB 21 (.d (vI q.num)) J (by rw[lG (my hc5)]) ?_;refine gx J<|?_;exact iu J (qv (q:= -q) (fun k=>k (by rw[oN,kZ,rN];exact⟨hs,pe (my hc5)⟩)) (by rw[oN]) (by rw[rN,ni (my hc5)]) J)
def lv{q:Rat}{i:Nat}[h:BQ q i](hi:i<=900000000:=by decide):PF GB prog 228 [eF q] (vI q.num.sign):=by
 refine fn func228 J J ntmps228 J J (fun C=>?_);refine br (v1:=fun hc3=>by simp only[ah];exact hc3) J J J (fun hc3=>?_) (fun hc3=>?_)
 .
  refine cl J (Jz (n:=decide (q.num<0)) (a:=q.num.natAbs) (by omega)) J<|?_;exact rz J (by rw[kC];rfl)
 .
  have hs:=lG (my hc3);refine br J J J (fun hc13=>?_) (fun hc13=>?_)
  .
   exact rz J (by rw[eY (by omega)];rfl)
  .
   refine br J J J (fun hc17=>?_) (fun hc17=>?_)
   .
    exact rz J (by rw[fL (by omega)];rfl)
   .
    exact rz J (by rw[show q.num=0 by omega];rfl)
def SF{h l y:Nat}(hh:h<y)(hl:l<4294967296)(hy:y<4294967296):PF GB prog 341 [.v (.int .u32 (h:Int)), .v (.int .u32 (l:Int)), .v (.int .u32 (y:Int))] (.tp [dU ((h*4294967296+l)/y),dU ((h*4294967296+l)%y)]):=by
 refine fn (fu:=⟨11⟩) func341 J J ntmps341 J J (fun C=>?_);refine kT 10 J (by omega) ?_;refine gx (fu:=⟨4⟩) J<|?_;refine kF 14 J (by omega) ?_;refine gx (fu:=⟨11⟩) (hv:=by simp only[ah];exact⟨by omega,(by decide)⟩) J<|?_;refine aB 19 (.d (.v (.int .u64 (h*2^32:Nat)))) J (by show FX.d (.v (.int _ _))= .d (.v (.int _ _));rw[qb _ 32 (by decide) (by show _*4294967296<_;omega) J]) ?_;refine gx (fu:=⟨3⟩) J<|?_;refine aB 22 (.d (.v (.int .u64 (l+h*2^32:Nat)))) J (congrArg (fun z:Nat=>FX.d (.v (.int .u64 (z:Int)))) (by rw[BitVec.or_comm];exact uO 64 l h 32 hl (by show _+_*4294967296<18446744073709551616;omega))) ?_;obtain⟨t,ht⟩: ∃t,t=h*4294967296+l:=⟨_,rfl⟩;have hq:t/y<4294967296:=by rw[jN (by omega)];have:=fT 4294967296 (show h+1<=y from hh);omega
 have hr:t%y<y:=dT _ (by omega);refine aB 22 (.d (.v (.int .u64 (t:Nat)))) J (by show FX.d (.v (.int _ _))= .d (.v (.int _ _));congr 3;rw[ht];omega) ?_;refine gx (hv:=by simp only[ah];exact⟨⟨⟨⟨by omega,⟨(by omega),(by omega),(by omega)⟩⟩,by omega⟩,⟨(by omega),(by omega)⟩⟩,by kernel_rfl⟩) J<|?_;exact rz J (by show DV.tp [.v (.int _ _), .v (.int _ _)]= .tp [.v (.int _ _), .v (.int _ _)];rw[<-ht,<-pV,<-nN];generalize t/y=q at*;generalize t%y=r at*;congr 4<;>(first|omega|(congr 3;omega)))
def Sg{A r i b:Nat}(d:Nat)(hb:0<b):(A*4294967296+d)/b=A/b*4294967296+(A%b*4294967296+d)/b/\(A*4294967296+d)%b=(A%b*4294967296+d)%b:=by
 have h:=qX A b;have e:A*4294967296+d=(A%b*4294967296+d)+b*(A/b*4294967296):=by
  rw[<-bS,Nat.add_right_comm,<-cY,kR (A%b),h]
 rw[e,lT _ _ hb,mS];exact⟨kR _ _,J⟩
def J9{ds:List Nat}{i:Nat}(h:i<ds.length):dv (ds.drop i)=dv (ds.drop (i+1))*4294967296+ds.getD i 0:=by
 rw[cJ h,aK,aX h];simp only[dv,jV];omega
def On{W:List Nat}{i q:Nat}(h:i<W.length):dv ((W.set i q).drop i)=dv (W.drop (i+1))*4294967296+q:=by
 rw[J9 (by rw[aT];exact h),pR (by omega),Nu h]
def W7{a b k:Nat}{W:List Nat}(hb:0<b)(hk:k<(dg a).length)(hl:W.length=(dg a).length)(h:dv (W.drop (k+1))=dv ((dg a).drop (k+1))/b):
  dv ((W.set k ((dv ((dg a).drop (k+1))%b*4294967296+(dg a).getD k 0)/b)).drop k)=dv ((dg a).drop k)/b/\dv ((dg a).drop k)%b=(dv ((dg a).drop (k+1))%b*4294967296+(dg a).getD k 0)%b:=by
 have:=Sg (A:=dv ((dg a).drop (k+1))) (r:=0) (i:=0) ((dg a).getD k 0) hb;rw[On (by omega),h,J9 hk,this.1,this.2];exact⟨J,J⟩
def wm{a b:Nat}:fD a b<0↔a<b:=by unfold fD;split<;>(try split)<;>omega
def yc{a b:Nat}:0<fD a b↔b<a:=by unfold fD;split<;>(try split)<;>omega
def TY{x:Nat}(hx:x<4294967296):PF GB prog 366 [dU x] (vI (32-(bl x:Int))):=by
 intro G vs hg hv;obtain⟨v,m,rfl,h1,h2⟩:=ba.1 hv;rw[cA] at h2;subst h2;rw[aG.1 h1];exact(Fm hx).mono fun v G' _ h=>aG.2 h
def Kh{a k:Nat}(h:4294967296^k<=a):k<(dg a).length:=by
 have h1:=rP a;rcases iW k (dg a).length with q|q
 ·exact q
 ·have:4294967296^(dg a).length<=4294967296^k:=bV (by decide) q
  omega
def JT{v L:Nat}(hL:L=(dg v).length)(h1:1<=L):(dg v).getD (L-1) 0=v/4294967296^(L-1)/\0<v/4294967296^(L-1):=by
 have h:=FG (kA v) (L-1);rw[s6 (by omega:(dg v).length<=L-1+1),cg,pZ,eJ] at h;have h2:=rP v;rw[<-hL] at h2;rw[jU (show v<4294967296^(L-1+2) from cN h2 (bV (by decide) (by omega))),pZ,eJ] at h;have h3:=qh (d4 v).2.2 (by intro e;rw[e] at hL;simp at hL;omega);rw[cg,<-hL] at h3;exact⟨h.symm,Nat.div_pos h3 (fX (by decide))⟩
def Hm{R n:Nat}(h1:1<=n)(h:R<4294967296^(n+1)):R/4294967296^(n-1)=(dg R).getD (n-1) 0+(dg R).getD n 0*4294967296:=by
 have e:=FG (kA R) (n-1);rw[cg,show n-1+1=n by omega,jU (show R<4294967296^(n-1+2) by rwa [show n-1+2=n+1 by omega]),pZ,eJ,bR] at e;exact e
def TZ{R v j L:Nat}(hL:L=(dg v).length)(h1:1<=L)(hR:R<v*4294967296^(j+1)):R/(v*4294967296^j)<=min (R/4294967296^(L+j-1)/(v/4294967296^(L-1))) 4294967295:=by
 have ht:=(JT hL h1).2;have hp:0<4294967296^j:=fX (by decide);have hv0:0<v:=by
  rcases fY v with q|q
  ·subst q;simp at ht
  ·exact q
 have hvp:0<v*4294967296^j:=kK hv0 hp;refine Nat.le_min.2 ⟨?_,?_⟩
 ·rw[rU ht,rU (fX (by decide))]
  have h3:v/4294967296^(L-1)*4294967296^(L-1)<=v:=Nat.div_mul_le_self _ _;have h4:R/(v*4294967296^j)*(v*4294967296^j)<=R:=Nat.div_mul_le_self _ _;rw[show L+j-1=L-1+j by omega,fW]
  calc R/(v*4294967296^j)*(v/4294967296^(L-1))*(4294967296^(L-1)*4294967296^j)
    =R/(v*4294967296^j)*((v/4294967296^(L-1)*4294967296^(L-1))*4294967296^j):=by simp only[bS]
   _<=R/(v*4294967296^j)*(v*4294967296^j):=fT _ (bK _ h3)
   _<=R:=h4
 ·have:R/(v*4294967296^j)<4294967296:=by
   rw[jN hvp];rw[fS] at hR;rwa [bR,bS]
  omega
def AF{R V g:Nat}(hV:0<V)(h:R<V*g):R/V<g:=by
 rw[jN hV,bR];exact h
def VN{R V g:Nat}(hV:0<V)(h1:R/V<=g)(h2:V*g<=R):g=R/V:=by
 have:g<=R/V:=by rw[rU hV,bR];exact h2
 omega
def Mi{R0 R v j g:Nat}{W:List Nat}(hj:j<W.length)(h:R0=R+dv (W.drop (j+1))*4294967296^(j+1)*v)(hv:0<v*4294967296^j)(hg:g=R/(v*4294967296^j)):
  R0=(R-v*4294967296^j*g)+dv ((W.set j g).drop j)*4294967296^j*v/\R-v*4294967296^j*g<v*4294967296^j:=by
 have h1:=qX R (v*4294967296^j);have h2:=dT R hv;rw[<-hg] at h1;refine⟨?_,by omega⟩;rw[On hj,cY,cY,h,fS];have e:g*4294967296^j*v=v*4294967296^j*g:=by simp only[bS,kS,bR]
 have e2:dv (W.drop (j+1))*(4294967296^j*4294967296)*v=dv (W.drop (j+1))*4294967296*4294967296^j*v:=by simp only[bS,kS,bR]
 rw[e,e2];omega
def TQ{a b s R:Nat}{D:Nat}(hR:R<b*2^s)(h:a*2^s=R+D*(b*2^s)):D=a/b/\R/2^s=a%b:=by
 have hp:0<2^s:=fX (by decide);have hb:0<b:=by
  rcases fY b with q|q
  ·subst q;simp at hR
  ·exact q
 have h1:a=R/2^s+D*b:=by
  have:=congrArg (· /2^s) h;rw[Nat.mul_div_cancel _ hp,<-bS,Nat.add_mul_div_right _ _ hp] at this;exact this
 have h2:R/2^s<b:=by rw[jN hp];exact hR
 have h3:R/2^s+b*D=a:=by rw[bR b];exact h1.symm
 have:=(Nat.div_mod_unique hb).2 ⟨h3,h2⟩;exact⟨this.1.symm,this.2.symm⟩
def Ym{a b s:Nat}(hl:(dg b).length<=(dg a).length)(h2:1<=(dg b).length):a*2^s<b*2^s*4294967296^((dg a).length-(dg b).length+1):=by
 have h1:=rP a;have h3:=qh (d4 b).2.2 (by intro e;rw[e] at h2;simp at h2);rw[cg] at h3;have h4:4294967296^(dg a).length<=b*4294967296^((dg a).length-(dg b).length+1):=by
  rw[show(dg a).length=((dg b).length-1)+((dg a).length-(dg b).length+1) by omega,fW];rw[show(dg b).length-1+((dg a).length-(dg b).length+1)-(dg b).length+1=(dg a).length-(dg b).length+1 by omega];exact bK _ h3
 rw[qU];exact kV (cN h1 h4) (fX (by decide))
def Lo(x j:Nat):x*2^(32*j)=x*4294967296^j:=by rw[oL]
def WE{R L j:Nat}(h:R<4294967296^(L+j+1))(h1:1<=L):R/4294967296^(L+j-1)<18446744073709551616:=by
 rw[jN (fX (by decide)),show(18446744073709551616:Nat)=4294967296^2 from J,<-fW];rwa [show 2+(L+j-1)=L+j+1 by omega]
def YK{R v j L:Nat}(hL:L=(dg v).length)(hR:R<v*4294967296^(j+1)):R<4294967296^(L+j+1):=by
 have h:=rP v;rw[<-hL] at h;rw[kW,fW];exact cN hR (bK _ (oJ h))
def XZ{a b ia ib:Nat}[ha:BN a ia][hb:BN b ib](hi:ia<=500000000)(hj:ib<=500000000)(h2:1<=(dg b).length)(hl:(dg b).length<=(dg a).length):PF GB prog 342 [dN a,dN b] (.tp [dN (a/b),dN (a%b)]):=by
 have hla:=eO (dg a);have hlb:=eO (dg b);have hba:=lD ha.h;have hba':(dg a).length<=20000000:=by omega
 refine fn func342 J J ntmps342 J J (fun C=>?_);refine ix _ J (fC (k:=(dg b).length-1) (by omega) (by omega)) J<|cl (fu:=⟨0⟩) J (TY (ge b ((dg b).length-1))) J<|?_;obtain⟨s,hs⟩: ∃s:Nat,s=32-bl ((dg b).getD ((dg b).length-1) 0):=⟨_,rfl⟩;have hs32:s<=32:=by omega
 refine aB 22 (.d (vI (s:Nat))) J (by show FX.d (.v (.int _ _))= .d (.v (.int _ _));congr 3;have:=mw.2 (show(dg b).getD ((dg b).length-1) 0<2^32 from ge b _);omega) ?_;refine gx J<|cl J (Bq (a:=b) (k:=s) (ia:=ib) (by omega) (by omega)) J<|cl (fu:=⟨0⟩) J (Bq (a:=a) (k:=s) (ia:=ia) (by omega) (by omega)) J<|?_;obtain⟨v,hv⟩: ∃v,v=b*2^s:=⟨_,rfl⟩;obtain⟨R0,hR0⟩: ∃R0,R0=a*2^s:=⟨_,rfl⟩;refine aB 25 (.d (dN v)) J (by rw[hv]) ?_;refine aB 28 (.d (dN R0)) J (by rw[hR0]) ?_;obtain⟨L,hL⟩: ∃L,L=(dg v).length:=⟨_,rfl⟩;have hlv:((dg v).map dU).length=L:=by rw[eO,hL]
 have hps:2^s<=2^32:=bV (by decide) hs32;have hpp:0<2^s:=fX (by decide);have hst:=Ym (a:=a) (b:=b) (s:=s) hl h2;rw[<-hv,<-hR0] at hst;have hvb:v<2^(ib+32):=by rw[hv,fW];exact mV hb.h hps (by decide)
 have hRb:R0<2^(ia+32):=by rw[hR0,fW];exact mV ha.h hps (by decide)
 have hbp:0<b:=iX (fun q=>by subst q;rw[vr] at h2;simp at h2);have hvp:0<v:=hv▸kK hbp hpp;have hLp:1<=L:=by rw[hL];exact Kh (k:=0) (by rw[rZ];exact hvp)
 have htop:=JT hL hLp;haveI hvB:BN v (ib+32):=⟨hvb⟩;have hLb:=lD hvb;have hLb':L<=20000000:=by omega
 have htl:=ge v (L-1);refine gx (fu:=⟨9⟩) J<|?_;refine aB 31 (.d (vI (L:Nat))) J (by rw[hlv];rfl) ?_;refine gx J<|ix (fu:=⟨2⟩) _ J (fC (k:=L-1) (by omega) (by omega)) J<|?_;refine aB 35 (.d (.v (.int .u64 (v/4294967296^(L-1):Nat)))) J (by rw[htop.1]) ?_;rw[htop.1] at htl;refine gx (fu:=⟨11⟩) J<|?_;obtain⟨m,hm⟩: ∃m,m=(dg a).length-(dg b).length+1:=⟨_,rfl⟩;rw[<-hm] at hst;have hrl:(List.replicate ((m:Nat):Int).toNat (DV.v (.int .u32 0))).length=m:=by rw[aV,aM]
 refine aB 41 (.d (vI (m:Nat))) J (by show FX.d (.v (.int _ _))= .d (.v (.int _ _));congr 3;omega) ?_;refine gx J<|mk ((List.replicate m 0).map dU) J J (by rw[<-uA];rfl) J<|?_;refine lp (X:=List Nat×Nat×Nat) (fun⟨W,R,k⟩=>[(6, .d (vI (s:Nat))),(7, .d (dN v)),(8, .d (dN R)),(9, .d (.v (.int .u64 (v/4294967296^(L-1):Nat)))),(10, .rw 42),(11, .d (vI ((k:Nat)-1)))]) (fun⟨W,R,k⟩=>[(42,some (.b 366 1 (W.map dU) true))]) (fun⟨W,R,k⟩=>W.length=m/\bu W/\k<=m/\R0=R+dv (W.drop k)*4294967296^k*v/\R<v*4294967296^k/\R<=R0) (fun⟨W,R,k⟩=>k) ⟨List.replicate m 0,R0,m⟩ J ⟨by simp, .replicate _,aL _,by simp[dv],hst,aL _⟩ (fun _=>J) (fun⟨W,R,k⟩ hk=>?_);dsimp only at hk⊢;obtain⟨h1,h2',h3,h4,h5,h6⟩:=hk;have hlw:=eO W;refine br (fu1:=⟨10⟩) J J J (fun hc47=>?_) (fun hc47=>?_)
 .
  obtain⟨j,rfl⟩: ∃j,k=j+1:=⟨k-1,by omega⟩;have hvj:0<v*4294967296^j:=kK hvp (fX (by decide));have hge:=TZ hL hLp h5;have hlen:=YK hL h5;have hlr:((dg R).map dU).length=(dg R).length:=eO _;haveI hRB:BN R (ia+32):=⟨by omega⟩;have hq32:R/(v*4294967296^j)<4294967296:=by omega
  have hz1:=Int.natCast_nonneg (R/4294967296^(L+j-1));have hz2:=Int.natCast_nonneg (R/4294967296^(L+j-1)/(v/4294967296^(L-1)));refine aB 11 (.d (vI (j:Nat))) J (by show FX.d (.v (.int _ _))= .d (.v (.int _ _));congr 3;omega) ?_;refine mg (fu:=⟨6⟩) (hv:=fun _ _=>by simp only[ah];exact⟨(by omega),(by have:=WE hlen hLp;omega),(by omega)⟩) (X:=Unit) (fun _=>[(6, .d (vI (s:Nat))),(7, .d (dN v)),(8, .d (dN R)),(9, .d (.v (.int .u64 (v/4294967296^(L-1):Nat)))),(10, .rw 42),(11, .d (vI (j:Nat))),(12, .d (.v (.int .u64 (R/4294967296^(L+j-1):Nat))))]) (fun _=>[(42,some (.b 366 1 (W.map dU) true))]) (fun _=>True) [6,7,8,9,10,11,12] [42] rfl ?_ (fun _=>J) (fun _ hm=>?_)
  .
   refine gx (fu:=⟨4⟩) J<|?_;refine aB 51 (.d (vI (L:Nat))) J (by rw[hlv];rfl) ?_;refine gx (fu:=⟨2⟩) J<|?_;refine aB 53 (.d (vI (L+j:Nat))) J (by show FX.d (.v (.int _ _))= .d (.v (.int _ _));congr 3) ?_;refine gx (fu:=⟨8⟩) J<|?_;refine aB 56 (.d (vI ((dg R).length:Nat))) J (by rw[hlr];rfl) ?_;refine gx J<|?_;refine br (fu2:=⟨6⟩) J J J (fun hc57=>?_) (fun hc57=>?_)
   .
    have hd0:=ge R (L+j-1);have hd1:=ge R (L+j);refine ix (hv:=by simp only[ah];exact⟨⟨by omega,(by decide)⟩,by omega⟩) _ J (fC (k:=L+j) (by omega) (by omega)) J<|ix (fu:=⟨3⟩) _ J (fC (k:=L+j-1) (by omega) (by omega)) J<|?_;refine aB 70 (.d (.v (.int .u64 ((dg R).getD (L+j-1) 0+(dg R).getD (L+j) 0*4294967296:Nat)))) J (congrArg (fun z:Nat=>FX.d (.v (.int .u64 (z:Int)))) (by rw[qb _ 32 (by decide) (by show _*4294967296<_;omega) J,BitVec.or_comm];exact uO 64 ((dg R).getD (L+j-1) 0) ((dg R).getD (L+j) 0) 32 hd0 (by show _+_*4294967296<18446744073709551616;omega))) ?_;refine gx J<|?_;refine aB 12 (.d (.v (.int .u64 (R/4294967296^(L+j-1):Nat)))) J (by rw[Hm (by omega) hlen]) ?_;exact at_ () trivial
   .
    refine aB 74 (.d (vI ((dg R).length:Nat))) J (by rw[hlr];rfl) ?_;refine gx J<|?_;refine br J J J (fun hc75=>?_) (fun hc75=>?_)
    .
     have hd0:=ge R (L+j-1);refine ix _ J (fC (k:=L+j-1) (by omega) (by omega)) J<|?_;refine aB 12 (.d (.v (.int .u64 (R/4294967296^(L+j-1):Nat)))) J (by rw[Hm (by omega) hlen,s6 (by omega:(dg R).length<=L+j),kX,eJ]) ?_;exact at_ () trivial
    .
     refine aB 12 (.d (.v (.int .u64 (R/4294967296^(L+j-1):Nat)))) J (by rw[Hm (by omega) hlen,s6 (by omega:(dg R).length<=L+j),s6 (by omega:(dg R).length<=L+j-1)];rfl) ?_;exact at_ () trivial
  .
   obtain⟨g0,hg0'⟩: ∃g0,g0=min (R/4294967296^(L+j-1)/(v/4294967296^(L-1))) 4294967295:=⟨_,rfl⟩;rw[<-hg0'] at hge;have hg0:=hge;have hg1:g0<=4294967295:=by omega
   refine aB 85 (.d (.v (.int .u64 (g0:Nat)))) J (by show FX.d (.v (.int _ _))= .d (.v (.int _ _));congr 3;rw[<-pV];split<;>omega) ?_;refine gx J<|cl J (td (u:=g0) (by omega)) J<|cl (fu:=⟨2⟩) J (tV (ia:=ib+32) (ib:=32) (hb:=⟨by show _<4294967296;omega⟩) (by omega) (by decide)) J<|?_;refine aB 91 (.d (vI (32*j:Nat))) J (by show FX.d (.v (.int _ _))= .d (.v (.int _ _));congr 3) ?_;refine gx J<|cl (fu:=⟨0⟩) J (Bq (k:=32*j) (ia:=ib+64) (ha:=⟨by rw[show ib+64=ib+32+32 by omega,fW];exact mZ hvb (by show _<4294967296;omega)⟩) (by omega) (by omega)) J<|?_;refine aB 92 (.d (dN (v*4294967296^j*g0))) J (by rw[Lo,qU]) ?_;refine gx J<|?_;refine lp (X:=Nat) (fun g=>[(6, .d (vI (s:Nat))),(7, .d (dN v)),(8, .d (dN R)),(9, .d (.v (.int .u64 (v/4294967296^(L-1):Nat)))),(10, .rw 42),(11, .d (vI (j:Nat))),(14, .d (.v (.int .u64 (g:Nat)))),(15, .d (dN (v*4294967296^j*g)))]) (fun g=>[(42,some (.b 366 1 (W.map dU) true))]) (fun g=>R/(v*4294967296^j)<=g/\g<=4294967295) (fun g=>g) g0 J ⟨hg0,by omega⟩ (fun _=>J) (fun g hk=>?_);obtain⟨g1,g2⟩:=hk;have hlw:=eO W;refine cl J (x8 (a:=v*4294967296^j*g) (b:=R) (by have:=Dm (a:=v*4294967296^j*g) (k:=L+j+1) (by have h1:=rP v;rw[<-hL] at h1;rw[fS,fW];exact mZ (kV h1 (fX (by decide))) (by omega));omega) (by have:=Dm hlen;omega)) J<|?_;refine br (fu1:=⟨7⟩) (v1:=fun hc96=>by simp only[ah];exact(by have h:=AF hvj (yc.1 hc96);have h1:1<=g:=gW (bL _) h;omega)) (fu2:=⟨11⟩) J J J (fun hc96=>?_) (fun hc96=>?_)
   .
    have hgd:=AF hvj (yc.1 hc96);have hg1p:1<=g:=gW (bL _) hgd;refine aB 98 (.d (.v (.int .u64 ((g-1:Nat):Int)))) J (by show FX.d (.v (.int _ _))= .d (.v (.int _ _));congr 3;omega) ?_;refine gx J<|cl J (td (u:=g-1) (by omega)) J<|cl (fu:=⟨2⟩) J (tV (ia:=ib+32) (ib:=32) (hb:=⟨by show _<4294967296;omega⟩) (by omega) (by decide)) J<|?_;refine aB 104 (.d (vI (32*j:Nat))) J (by show FX.d (.v (.int _ _))= .d (.v (.int _ _));congr 3) ?_;refine gx J<|cl (fu:=⟨0⟩) J (Bq (k:=32*j) (ia:=ib+64) (ha:=⟨by rw[show ib+64=ib+32+32 by omega,fW];exact mZ hvb (by show _<4294967296;omega)⟩) (by omega) (by omega)) J<|?_;refine aB 105 (.d (dN (v*4294967296^j*(g-1)))) J (by rw[Lo,qU]) ?_;refine gx J<|?_;exact at_ (g-1) ⟨⟨by have h:=AF hvj (yc.1 hc96);omega,by omega⟩,(by have:=AF hvj (yc.1 hc96);omega)⟩
   .
    have hgq:=VN hvj g1 (rR fun q=>hc96 (yc.2 q));refine aB 109 (.d (dU g)) J (by show FX.d (.v (.int _ _))= .d (.v (.int _ _));congr 3;omega) ?_;refine gx J<|sb _ ((W.set j (R/(v*4294967296^j))).map dU) J (fC (k:=j) (by omega) (by omega)) J (by(rw[<-hgq,aM,<-tn])<;>rfl) J<|?_;refine cl (fu:=⟨0⟩) J (GA (a:=R) (b:=v*4294967296^j*g) (ia:=ia+32) (by rw[hgq];exact Nat.mul_div_le _ _) (by omega)) J<|?_;refine aB 113 (.d (dN (R-v*4294967296^j*(R/(v*4294967296^j))))) J (by rw[hgq]) ?_;refine gx J<|?_;exact at_ ⟨W.set j (R/(v*4294967296^j)),R-v*4294967296^j*(R/(v*4294967296^j)),j⟩ (by dsimp only;exact⟨⟨by simpa using h1,h2'.set _ (by omega),by omega,(Mi (by omega) h4 hvj J).1,(Mi (by omega) h4 hvj J).2,by omega⟩,(by omega)⟩)
 .
  obtain rfl:k=0:=by omega
  rw[rZ,iK] at h5;rw[rZ,iK,iM,hR0,hv] at h4;rw[hv] at h5;have hend:=TQ h5 h4;haveI hRB:BN R (ia+32):=⟨by omega⟩;refine fz 42 J J<|cl J (q7 (ds:=W) (by omega)) J<|cl J (Vg (a:=R) (k:=s) (ia:=ia+32) (by omega) (by omega)) J<|?_;exact rz J (by show DV.tp [eB _,dN _]= .tp [dN _,dN _];rw[ry h2' hend.1,hend.2])
def Zu{a b:Nat}(h:b<=a):(dg b).length<=(dg a).length:=Dm (gW h (rP a))
def DL{a b ia ib:Nat}[ha:BN a ia][hb:BN b ib](hb0:0<b)(hi:ia<=500000000:=by decide)(hj:ib<=500000000:=by decide):PF GB prog 247 [dN a,dN b] (.tp [dN (a/b),dN (a%b)]):=by
 have hla:=eO (dg a);have hlb:=eO (dg b);have hba:=lD ha.h;have hbb:=lD hb.h;have hba':(dg a).length<=20000000:=by omega
 have hbb':(dg b).length<=20000000:=by omega
 have hlb1:1<=(dg b).length:=Kh (k:=0) (by rw[rZ];exact hb0);refine fn (fu:=⟨7⟩) func247 J J ntmps247 J J (fun C=>?_);refine mg (X:=Unit) (fun _=>[(0, .d (dN a)),(1, .d (dN b))]) (fun _=>[]) (fun _=>True) [0,1] [] rfl ?_ (fun _=>J) (fun _ hm=>?_)
 .
  refine gx J<|cl J (Cv (a:=a) (ia:=ia) (by omega)) J<|?_;refine bd (fu1:=⟨0⟩) J J J (fun hc18=>?_) (fun hc18=>?_)
  .
   refine aB 6 (.d (.v (.int .u64 (a:Nat)))) J (by rw[if_pos hc18]) ?_;refine gx J<|cl J (Cv (a:=b) (ia:=ib) (by omega)) J<|?_;refine bd (fu1:=⟨0⟩) J J J (fun hc24=>?_) (fun hc24=>?_)
   .
    refine aB 8 (.d (.v (.int .u64 (b:Nat)))) J (by rw[if_pos hc24]) ?_;have hdl:=kJ a b;have hml:=Nat.mod_le a b;refine gx (hv:=by simp only[ah];exact⟨(by omega),(by omega),(by omega)⟩) J<|cl (hv:=by simp only[ah];exact⟨(by omega),(by omega)⟩) J (td (u:=a/b) (by omega)) J<|cl J (td (u:=a%b) (by omega)) J<|?_;exact rz J J
   .
    exact at_ () trivial
  .
   exact at_ () trivial
 .
  refine cl J (x8 (by omega) (by omega)) J<|?_;refine br J J J (fun hc36=>?_) (fun hc36=>?_)
  .
   have hab:=wm.1 hc36;refine Fa J J<|ap _ J J (tJ _) J<|?_;refine nv 39 J ?_;exact rz J (by show DV.tp [_, .sl ([]++_)]= .tp [_,_];rw[jU hab,fR hab,H9];rfl)
  .
   have hab:b<=a:=rR fun q=>hc36 (wm.2 q);have hlab:(dg b).length<=(dg a).length:=Zu hab;refine br (fu1:=⟨4⟩) J J J (fun hc42=>?_) (fun hc42=>?_)
   .
    have hb1:b<4294967296:=by have:=rP b;rw[show(dg b).length=1 by omega] at this;omega
    have hbd:(dg b).getD 0 0=b:=uP (by omega);refine aB 44 (.d (vI ((dg a).length:Nat))) J (by rw[hla];rfl) ?_;refine gx J<|mk (fu:=⟨13⟩) ((List.replicate (dg a).length 0).map dU) J J (by rw[<-uA];rfl) J<|?_;refine aB 47 (.d (vI ((dg a).length:Nat))) J (by rw[hla];rfl) ?_;refine gx J<|?_;refine lp (X:=List Nat×Nat) (fun⟨W,k⟩=>[(0, .d (dN a)),(1, .d (dN b)),(10, .rw 45),(11, .d (dU (dv ((dg a).drop k)%b))),(12, .d (vI ((k:Nat)-1)))]) (fun⟨W,k⟩=>[(45,some (.b 366 1 (W.map dU) true))]) (fun⟨W,k⟩=>W.length=(dg a).length/\bu W/\k<=(dg a).length/\dv (W.drop k)=dv ((dg a).drop k)/b) (fun⟨W,k⟩=>k) ⟨List.replicate (dg a).length 0,(dg a).length⟩ J ⟨by simp, .replicate _,aL _,by simp[dv]⟩ (fun _=>J) (fun⟨W,k⟩ hk=>?_) (hF:=(by refine⟨J,J,J,nn J (by simp[dv,dU]),nn J (by simp[vI]),?_⟩;repeat (first|exact trivial|refine And.intro J ?_)))
    try dsimp only at hk⊢
    obtain⟨h1,h2,h3,h4⟩:=hk;have hlw:=eO W;refine br (fu1:=⟨0⟩) J J J (fun hc50=>?_) (fun hc50=>?_)
    .
     obtain⟨k,rfl⟩: ∃j,k=j+1:=⟨k-1,by omega⟩;have hsi:=W7 hb0 (by omega) h1 h4;have hrm:=dT (dv ((dg a).drop (k+1))) hb0;have hdk:=ge a k;have hqd:(dv ((dg a).drop (k+1))%b*4294967296+(dg a).getD k 0)/b<4294967296:=by rw[jN hb0];have:=fT 4294967296 (show dv ((dg a).drop (k+1))%b+1<=b from hrm);omega
     refine aB 12 (.d (vI (k:Nat))) J (by show FX.d (.v (.int _ _))= .d (.v (.int _ _));congr 3;omega) ?_;refine gx J<|ix _ J (fC (k:=k) (by omega) (by omega)) J<|ix _ J (fC (k:=0) J (by omega)) J<|cl J (SF (h:=dv ((dg a).drop (k+1))%b) (l:=(dg a).getD k 0) (y:=(dg b).getD 0 0) (by omega) hdk (by omega)) J<|?_;refine sb (hv:=by simp only[ah];exact⟨by kernel_rfl,by omega⟩) _ ((W.set k ((dv ((dg a).drop (k+1))%b*4294967296+(dg a).getD k 0)/b)).map dU) J (fC (k:=k) (by omega) (by omega)) J (by(rw[hbd,aM,<-tn])<;>rfl) J<|?_;exact at_ ⟨W.set k ((dv ((dg a).drop (k+1))%b*4294967296+(dg a).getD k 0)/b),k⟩ (by dsimp only;exact⟨⟨by simpa using h1,h2.set _ hqd,by omega,hsi.1⟩,(by omega)⟩) (by refine⟨J,J,J,nn J (by rw[hsi.2,hbd]),nn J (by first|(simp[vI];done)|(simp[vI];omega)),?_⟩;repeat (first|exact trivial|refine And.intro J ?_))
    .
     refine fz 45 J J<|cl J (q7 (ds:=W) (by omega)) J<|rf J J<|cl J (q7 (ds:=[dv ((dg a).drop k)%b]) (by simp)) J<|?_;exact rz rfl (by show DV.tp [eB _,eB _]= .tp [_,_];obtain rfl:k=0:=(by omega);rw[iM,iM,cg] at h4;rw[iM,cg];rw[ry h2 h4,ry (.cons (by have:=dT a hb0;omega) .nil) (n:=a%b) (by simp[dv])])
   .
    refine cl J (XZ (by omega) (by omega) hlb1 hlab) J<|?_;exact rz J J
def Jl(x y:Nat):Nat.gcd y (x%y)=Nat.gcd x y:=by rw[iU x y,sT y x,iU]
def YY{a b ia ib:Nat}[ha:BN a ia][hb:BN b ib](hi:ia<=240000000:=by decide)(hj:ib<=240000000:=by decide):PF GB prog 186 [dN a,dN b] (dN (Nat.gcd a b)):=by
 refine fn (fu:=⟨6⟩) func186 J J ntmps186 J J (fun C=>?_);refine mg (X:=Unit) (fun _=>[(0, .d (dN a)),(1, .d (dN b))]) (fun _=>[]) (fun _=>True) [0,1] [] rfl ?_ (fun _=>J) (fun _ hm=>?_)
 .
  refine gx J<|cl J (Cv (a:=a) (ia:=ia) (by omega)) J<|?_;refine bd (fu1:=⟨0⟩) J J J (fun hc16=>?_) (fun hc16=>?_)
  .
   refine aB 5 (.d (.v (.int .u64 (a:Nat)))) J (by rw[if_pos hc16]) ?_;refine gx J<|cl J (Cv (a:=b) (ia:=ib) (by omega)) J<|?_;refine bd (fu1:=⟨0⟩) J J J (fun hc22=>?_) (fun hc22=>?_)
   .
    refine aB 7 (.d (.v (.int .u64 (b:Nat)))) J (by rw[if_pos hc22]) ?_;refine gx J<|?_;refine lp (X:=Nat×Nat) (fun⟨x,y⟩=>[(5, .d (.v (.int .u64 (x:Nat)))),(7, .d (.v (.int .u64 (y:Nat))))]) (fun⟨x,y⟩=>[]) (fun⟨x,y⟩=>x<18446744073709551616/\y<18446744073709551616/\Nat.gcd x y=Nat.gcd a b) (fun⟨x,y⟩=>y) ⟨a,b⟩ J ⟨hc16,hc22,J⟩ (fun _=>J) (fun⟨x,y⟩ hk=>?_)
    try dsimp only at hk⊢
    obtain⟨h1,h2,h3⟩:=hk;refine br (v1:=fun hc24=>by simp only[ah];exact⟨⟨(by omega),(by omega)⟩,by kernel_rfl⟩) J J J (fun hc24=>?_) (fun hc24=>?_)
    .
     exact at_ ⟨y,x%y⟩ (by dsimp only;exact⟨⟨h2,by have:=dT x (show 0<y by omega);omega,by rw[Jl,h3]⟩,(by exact dT _ (by omega))⟩)
    .
     refine cl J (td (u:=x) h1) J<|?_;exact rz J (by show dN x=_;rw[<-h3,show y=0 by omega,mK])
   .
    exact at_ () trivial
  .
   exact at_ () trivial
 .
  refine lp (fu:=⟨5⟩) (X:=Nat×Nat) (fun⟨x,y⟩=>[(0, .d (dN x)),(1, .d (dN y))]) (fun⟨x,y⟩=>[]) (fun⟨x,y⟩=>x<2^(ia+ib)/\y<2^(ia+ib)/\Nat.gcd x y=Nat.gcd a b) (fun⟨x,y⟩=>y) ⟨a,b⟩ J ⟨(ha.mono (by omega)).h,(hb.mono (by omega)).h,J⟩ (fun _=>J) (fun⟨x,y⟩ hk=>?_)
  try dsimp only at hk⊢
  obtain⟨h1,h2,h3⟩:=hk;have hly:=eO (dg y);haveI hx':BN x (ia+ib):=⟨h1⟩;haveI hy':BN y (ia+ib):=⟨h2⟩;refine aB 32 (.d (vI ((dg y).length:Nat))) J (by rw[hly];rfl) ?_;refine gx J<|?_;refine br J J J (fun hc33=>?_) (fun hc33=>?_)
  .
   have hy0:0<y:=iX fun q=>by subst q;rw[vr] at hc33;simp at hc33
   refine cl J (DL (a:=x) (b:=y) (ia:=ia+ib) (ib:=ia+ib) hy0 (by omega) (by omega)) J<|?_;exact at_ ⟨y,x%y⟩ (by dsimp only;exact⟨⟨h2,by have:=dT x hy0;omega,by rw[Jl,h3]⟩,(by exact dT _ hy0)⟩)
  .
   have hy0:y=0:=uW.1 (by omega);have hlx:=lD h1;have hmx:=eO (dg x);refine Fa J J<|ap _ J J (tJ _) J<|?_;refine nv 44 J ?_;exact rz J (by show DV.sl ([]++_)=_;rw[<-h3,hy0,mK];rfl)
def Kw(neg:Bool)(m:Nat):eI (zv neg m)= .ag [.v (.bool (neg&&decide (0<m))),dN m]:=by unfold eI;rw[ot,Nz]
def Ti(z:Int):zv (!decide (z<0)) z.natAbs= -z:=by
 unfold zv;by_cases h:z<0<;>simp[h]<;>omega
def Vk(a b:Int):zv (!(decide (a<0)==decide (b<0))) (a.natAbs*b.natAbs)=a*b:=by
 have h:=Mp (decide (a<0)) (decide (b<0)) a.natAbs b.natAbs;rw[kC,kC] at h;exact h
def ny{neg:Bool}{m:Nat}:PF GB prog 217 [.v (.bool neg),dN m] (eI (zv neg m)):=by
 have hl:=eO (dg m);have hz:= @uW m;refine fn func217 J J ntmps217 J J (fun C=>?_);refine ql 6 J J J (fun hg6=>?_) (fun hg6=>?_)
 .
  exact rz J (by rw[Kw,hg6];show DV.ag [.v (.bool _),_]= .ag [.v (.bool _),_];congr 4;rw[Bool.true_and];exact decide_eq_decide.2 (by omega))
 .
  exact rz J (by rw[Kw,hg6];rfl)
end Go.Sx
end
section
namespace Go.Sx
open Go
instance:DecidableEq aa:=fun x y=>decidable_of_iff (x.a=y.a/\x.b=y.b/\x.c=y.c) (by
 cases x;cases y;simp)
structure ao where
 lo:Rat
 hi:Rat
 nl:Bool
 nh:Bool
def ao.all:ao:=⟨0,0,true,true⟩
def ao.empty(v:ao):Bool:=!v.nl&&(!v.nh&&decide (0<=b9 v.lo v.hi))
def ao.meet(v w:ao):ao:=
 ⟨if v.nl then w.lo else if w.nl then v.lo else if v.lo<w.lo then w.lo else v.lo,
  if v.nh then w.hi else if w.nh then v.hi else if w.hi<v.hi then w.hi else v.hi,v.nl&&w.nl,v.nh&&w.nh⟩
def ao.sample(v:ao):Rat:=if v.nl&&v.nh then 0 else if v.nl then v.hi-1 else if v.nh then v.lo+1 else(v.lo+v.hi)*mkRat 1 2
def aa.cutK(l m:aa):Rat:=m.nor.dot l.dir
def aa.cutC(l m:aa):Rat:=m.value l.base
def aa.cutV(l:aa)(v:ao)(m:aa):ao:=
 if Int.sign (l.cutK m).num=0 then v
 else if Int.sign (l.cutK m).num=1 then v.meet ⟨-(l.cutC m/l.cutK m),0,false,true⟩
 else v.meet ⟨0, -(l.cutC m/l.cutK m),true,false⟩
def aa.cutB(l:aa)(v:ao)(m:aa):Bool:=
 if Int.sign (l.cutK m).num=0 then decide (0<Int.sign (l.cutC m).num) else !(l.cutV v m).empty
structure aO where
 l:aa
 v:ao
abbrev aF:=List aO
def l7(l:aa):aF->ao->Option ao
 |[],v=>some v
 |s::t,v=>if l.cutB v s.l then l7 l t (l.cutV v s.l) else none
def kw(c:aF)(l:aa):Option ao:=l7 l c ao.all
def mm(l:aa)(s:aO):Int:=Int.sign (l.value (s.l.at s.v.sample)).num
def mh(l:aa):aF->Int
 |[]=> -1
 |s::t=>if mm l s≠0 then mm l s else if s.l=l then 1 else mh l t
def uy(c:aF)(l:aa):Int:=if(kw c l).isSome then 0 else mh l c
def ab.half(p:ab):Int:=
 if 0<Int.sign p.y.num\/(Int.sign p.y.num=0/\0<Int.sign p.x.num) then 1 else if Int.sign p.y.num<0\/Int.sign p.x.num<0 then 2 else 0
def kG(u v:ab):Int:=if u.half<v.half then-1 else if v.half<u.half then 1 else-(Int.sign (u.cross v).num)
def e8(l:aa):aF->aF
 |[]=>[]
 |s::t=>if s.l.cutB s.v l then⟨s.l,s.l.cutV s.v l⟩::e8 l t else e8 l t
def ig(p:Nat->Bool)(i j:Nat):Nat:=
 if h:i<j then(if p ((i+j)/2) then ig p ((i+j)/2+1) j else ig p i ((i+j)/2)) else i
termination_by j-i
def lP(c:aF)(l:aa)(i:Nat):Bool:=match c[i]? with
 |some s=>decide (kG s.l.dir l.dir<0)
 |none=>false
def nF(c:aF)(l:aa)(v:ao):aF:=
 c.take (ig (lP c l) 0 c.length)++⟨l,v⟩::c.drop (ig (lP c l) 0 c.length)
def bF(c:aF)(l:aa):aF:=match kw c l with
 |some v=>nF (e8 l c) l v
 |none=>c
def cE(c:aF)(l:aa):Bool:=match kw c l with
 |some _=>true
 |none=>decide (0<uy c l)
def Do(p:Nat->Bool): ∀(d i j:Nat),j-i<=d->i<=j->i<=ig p i j/\ig p i j<=j
 |0,i,j,h,hij=>by
  rw[ig,dif_neg (by omega)];omega
 |d+1,i,j,h,hij=>by
  rw[ig];split
  ·split
   ·have:=Do p d ((i+j)/2+1) j (by omega) (by omega);omega
   ·have:=Do p d i ((i+j)/2) (by omega) (by omega);omega
  ·omega
def MP(l:aa): ∀c:aF,(e8 l c).length<=c.length
 |[]=>aL _
 |s::t=>by
  have:=MP l t;unfold e8;split<;>simp<;>omega
def Wr(c:aF)(l:aa)(v:ao):(nF c l v).length=c.length+1:=by
 have:=(Do (lP c l) c.length 0 c.length (by omega) (by omega)).2;simp[nF];omega
def Ca(c:aF)(l:aa):(bF c l).length<=c.length+1:=by
 unfold bF;split
 ·rw[Wr];have:=MP l c;omega
 ·omega
inductive Tr where
 |leaf (b:Bool)
 |node (l:aa) (x y:Tr)
def Tr.isLeaf:Tr->Bool
 | .leaf _=>true
 | .node .. =>false
def Tr.code:Tr->Bool
 | .leaf b=>b
 | .node .. =>false
def Tr.depth:Tr->Nat
 | .leaf _=>0
 | .node _ x y=>1+max x.depth y.depth
def Tr.size:Tr->Nat
 | .leaf _=>0
 | .node _ x y=>1+x.size+y.size
def Tr.joinQ(l:aa)(x y:Tr):Tr:=if x.isLeaf&&(y.isLeaf&&(x.code==y.code)) then x else .node l x y
def Tr.restrict:Tr->aF->Tr
 | .leaf b,_=> .leaf b
 | .node l x y,c=>if !cE c l.rev then x.restrict c else if !cE c l then y.restrict c else joinQ l (x.restrict (bF c l)) (y.restrict (bF c l.rev))
def Tr.parts:Tr->aF->List (Bool×aF)
 | .leaf b,c=>[(b,c)]
 | .node l x y,c=>(if cE c l then x.parts (bF c l) else [])++(if cE c l.rev then y.parts (bF c l.rev) else [])
def Tr.all(p:aa->Prop):Tr->Prop
 | .leaf _=>True
 | .node l x y=>p l/\x.all p/\y.all p
def Tr.good:Tr->Prop
 | .leaf _=>True
 | .node _ x y=> ¬(x.isLeaf=true/\y.isLeaf=true/\x.code=y.code)/\x.good/\y.good
structure NQ where
 l:aa
 a:Int
 b:Int
def qi(b:Bool):Int:=if b then-2 else-1
def Tr.num:Tr->Nat->Int
 | .leaf b,_=>qi b
 | .node ..,n=>n
def Tr.wr:Tr->Nat->List NQ
 | .leaf _,_=>[]
 | .node l x y,n=>⟨l,x.num (n+1),y.num (n+1+x.size)⟩::x.wr (n+1)++y.wr (n+1+x.size)
def Tr.wr_len: ∀(t:Tr) (n:Nat),(t.wr n).length=t.size
 | .leaf _,n=>rfl
 | .node l x y,n=>by
  have h1:=Tr.wr_len x (n+1);have h2:=Tr.wr_len y (n+1+x.size);simp[Tr.wr,Tr.size,h1,h2];omega
def Tr.joinQ_cases(l:aa)(x y:Tr):(Tr.joinQ l x y=x/\x.isLeaf=true)\/(Tr.joinQ l x y= .node l x y/\ ¬(x.isLeaf=true/\y.isLeaf=true/\x.code=y.code)):=by
 unfold Tr.joinQ;split
 ·rename_i h
  simp at h;exact .inl ⟨J,h.1⟩
 ·rename_i h
  simp at h;exact .inr ⟨J,fun⟨a,b,c⟩=>h a b c⟩
def Tr.restrict_depth: ∀(t:Tr) (c:aF),(t.restrict c).depth<=t.depth
 | .leaf b,c=>aL _
 | .node l x y,c=>by
  unfold Tr.restrict;split
  ·have:=x.restrict_depth c;simp only[Tr.depth];omega
  ·split
   ·have:=y.restrict_depth c;simp only[Tr.depth];omega
   ·have h1:=x.restrict_depth (bF c l)
    have h2:=y.restrict_depth (bF c l.rev);rcases Tr.joinQ_cases l (x.restrict (bF c l)) (y.restrict (bF c l.rev)) with⟨h,_⟩|⟨h,_⟩
    ·rw[h];simp only[Tr.depth];omega
    ·rw[h];simp only[Tr.depth];omega
def Tr.restrict_all(p:aa->Prop): ∀(t:Tr) (c:aF),t.all p->(t.restrict c).all p
 | .leaf b,c,_=>trivial
 | .node l x y,c,h=>by
  obtain⟨h0,h1,h2⟩:=h;unfold Tr.restrict;split
  ·exact x.restrict_all p c h1
  ·split
   ·exact y.restrict_all p c h2
   ·rcases Tr.joinQ_cases l (x.restrict (bF c l)) (y.restrict (bF c l.rev)) with⟨h,_⟩|⟨h,_⟩
    ·rw[h];exact x.restrict_all p _ h1
    ·rw[h];exact⟨h0,x.restrict_all p _ h1,y.restrict_all p _ h2⟩
end Go.Sx
end
