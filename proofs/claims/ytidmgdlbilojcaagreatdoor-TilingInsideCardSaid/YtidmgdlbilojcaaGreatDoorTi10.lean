import Derived.Test.YtidmgdlbilojcaaGreatDoorTi9
set_option linter.unusedSimpArgs false
set_option maxHeartbeats 4000000
set_option maxRecDepth 100000
set_option linter.unusedVariables false
section
namespace Go.Sx
open Go Go.Proofs Tryz
variable {GB:Gh}
theorem arM(n:Nat)(a b k:Nat)(ha:a<2^k)(h:a+b*2^k<2^n):(BitVec.ofInt n (a:Int) ||| BitVec.ofInt n ((b*2^k:Nat):Int)).toNat=a+b*2^k:=by
 rw[BitVec.toNat_or,BitVec.ofInt_natCast,BitVec.ofInt_natCast,BitVec.toNat_ofNat,BitVec.toNat_ofNat,dV (by omega),dV (by omega)]
 rw[←lW,Nat.or_comm,←lT ha,lW]
 omega
theorem asb{x y:Nat}(hx:x<4294967296)(hy:y<4294967296):x*y≤18446744065119617025:=by
 have:=lR (by omega:x≤4294967295) (by omega:y≤4294967295)
 exact this
theorem ayR(x y:Nat):(0:Int)≤(x:Int)*(y:Int):=by rw[←iU];omega
theorem azI{x y:Nat}(hx:x<4294967296)(hy:y<4294967296):(x:Int)*(y:Int)≤18446744073709551615:=by
 have:=asb hx hy
 rw[←iU];omega
theorem aDb{ds:List Nat}(h:ds.length=1):dv ds=ds.getD 0 0:=by
 match ds,h with
 |[d],_=>simp[dv]
theorem acH{a:Nat}(h:(dg a).length=1):(dg a).getD 0 0=a:=by rw[←aDb h,aaW]
theorem aue{ds:List Nat}{j m:Nat}(h:j<m):(ds.take m).getD j 0=ds.getD j 0:=by
 rw[aX,aX,qL,if_pos h]
theorem anq{W:List Nat}{j m d:Nat}(hj:j<m)(hm:m≤W.length):dv ((W.set j d).take m)+4294967296^j*W.getD j 0=dv (W.take m)+4294967296^j*d:=by
 rw[List.take_set,←aue (ds:=W) hj]
 exact afp _ _ _ (by rw[cJ];omega)
theorem axL{W:List Nat}{P X Y m i k c y t S:Nat}(hk:i+k<m)(hm:m≤W.length)(h:dv (W.take m)+4294967296^(i+k)*c=P+X*(4294967296^i*S))(ht:t=Y+W.getD (i+k) 0+c)(hY:Y=X*y):
  dv ((W.set (i+k) (t%4294967296)).take m)+4294967296^(i+(k+1))*(t/4294967296)=P+X*(4294967296^i*(S+4294967296^k*y)):=by
 have h1:=anq (W:=W) (d:=t%4294967296) hk hm
 rw[ht,show Y+W.getD (i+k) 0+c=c+Y+W.getD (i+k) 0 by omega] at h1⊢
 have h2:=apY h1 h
 rw[←jU,fZ,h2,hY,fV]
 simp only[dJ,bN,kM,bL,jU]
theorem awK{a b:Nat}{W:List Nat}{i c lb:Nat}(hlb:lb=(dg b).length)(hl:i+lb<W.length)(h:dv (W.take (i+lb))+4294967296^(i+lb)*c=dv ((dg a).take i)*b+(dg a).getD i 0*(4294967296^i*dv ((dg b).take lb))):
  dv ((W.set (i+lb) c).take (i+1+lb))=dv ((dg a).take (i+1))*b:=by
 rw[show i+1+lb=i+lb+1 by omega,abj hl,h,aax,acw (ds:=dg b) (by omega),aaW b,cS]
 simp only[bN,kM,bL]
theorem aql(n j:Nat):(List.replicate n 0).getD j 0=0:=by
 rw[aX,List.getElem?_replicate]
 split<;>rfl
theorem asU{k:Nat}(h:k≤1000000000):IntKind.i64.wrap ((k:Int).tdiv 32)=((k/32:Nat):Int):=by
 rw[show(k:Int).tdiv 32=((k/32:Nat):Int) from rfl,alN];omega
theorem aCM(k:Nat):(k:Int).tmod 32=((k%32:Nat):Int):=rfl
theorem acq{a b ia ib:Nat}[ha:BN a ia][hb:BN b ib](hi:ia≤1000000000:=by decide)(hj:ib≤1000000000:=by decide):PF GB prog 51 [dN a,dN b] (dN (a*b)):=by
 have hla:=aaB (dg a)
 have hlb:=aaB (dg b)
 have hba:=adp ha.h hi
 have hbb:=adp hb.h hj
 refine fn (fu:=⟨6⟩) func51 J J ntmps51 J J (fun C=>?_)
 refine mg (fu:=⟨4⟩) (X:=Unit) (fun _=>[(0, .d (dN a)),(1, .d (dN b))]) (fun _=>[]) (fun _=>True) [0,1] [] rfl ?_ (fun _=>rfl) (fun _ hm=>?_)
 ·
  refine gx rfl<|?_
  refine cs 15 J J J (fun hg15=>?_) (fun hg15=>?_)
  ·
   refine br J J J (fun hc19=>?_) (fun hc19=>?_)
   ·
    have hd0:=adr a 0
    have hd1:=adr b 0
    refine ix _ rfl (aaA (k:=0) rfl (by omega)) rfl<|ix (hv:=by simp only[aaj];exact⟨by omega,⟨(ayR _ _),(azI (adr _ _) (adr _ _))⟩⟩) _ rfl (aaA (k:=0) rfl (by omega)) rfl<|cl rfl (ah9 (u:=(dg a).getD 0 0*(dg b).getD 0 0) (by have:=asb (adr a 0) (adr b 0);omega)) rfl<|?_
    exact rz rfl (by rw[acH (by omega),acH (by omega)];rfl)
   ·
    exact at_ () trivial
  ·
   exact at_ () trivial
 ·
  refine eqF 31 (.d (vI ((dg a).length:Nat))) rfl (by rw[hla];rfl) ?_
  refine gx (fu:=⟨2⟩) rfl<|?_
  refine eqF 33 (.d (vI ((dg b).length:Nat))) rfl (by rw[hlb];rfl) ?_
  refine gx rfl<|mk (fu:=⟨8⟩) ((List.replicate ((dg a).length+(dg b).length) 0).map dU) J J (by rw[←aeW];rfl) rfl<|?_
  refine eqF 37 (.d (vI ((dg a).length:Nat))) rfl (by rw[hla];rfl) ?_
  refine gx rfl<|?_
  refine lp (X:=List Nat×Nat) (fun⟨W,i⟩=>[(0, .d (dN a)),(1, .d (dN b)),(5, .rw 35),(36, .d (dN a)),(37, .d (vI ((dg a).length:Nat))),(38, .d (vI (i:Nat)))]) (fun⟨W,i⟩=>[(35,some (.b 215 1 (W.map dU) true))]) (fun⟨W,i⟩=>W.length=(dg a).length+(dg b).length∧DOk W∧i≤(dg a).length∧dv (W.take (i+(dg b).length))=dv ((dg a).take i)*b) (fun⟨W,i⟩=>(dg a).length-i) ⟨List.replicate ((dg a).length+(dg b).length) 0,0⟩ rfl ⟨by simp, .replicate _,by omega,by rw[List.take_replicate,acI];simp[dv]⟩ (fun _=>rfl) (fun⟨W,i⟩ hk=>?_)
  dsimp only at hk⊢
  obtain⟨h1,h2,h3,h4⟩:=hk
  refine br J J J (fun hc39=>?_) (fun hc39=>?_)
  ·
   refine ix (fu:=⟨15⟩) _ rfl (abG (by omega)) rfl<|?_
   refine eqF 44 (.d (vI ((dg b).length:Nat))) rfl (by rw[hlb];rfl) ?_
   refine gx rfl<|?_
   refine lp (X:=List Nat×Nat×Nat) (fun⟨W2,c,k⟩=>[(0, .d (dN a)),(1, .d (dN b)),(5, .rw 35),(6, .d (vI (i:Nat))),(7, .d (dU ((dg a).getD i 0))),(8, .d (.v (.int .u64 (c:Nat)))),(36, .d (dN a)),(37, .d (vI ((dg a).length:Nat))),(38, .d (vI (i:Nat))),(43, .d (dN b)),(44, .d (vI ((dg b).length:Nat))),(45, .d (vI (k:Nat)))]) (fun⟨W2,c,k⟩=>[(35,some (.b 215 1 (W2.map dU) true))]) (fun⟨W2,c,k⟩=>W2.length=(dg a).length+(dg b).length∧DOk W2∧c<4294967296∧k≤(dg b).length∧dv (W2.take (i+(dg b).length))+4294967296^(i+k)*c=dv ((dg a).take i)*b+(dg a).getD i 0*(4294967296^i*dv ((dg b).take k))) (fun⟨W2,c,k⟩=>(dg b).length-k) ⟨W,0,0⟩ rfl ⟨h1,h2,by omega,by omega,by rw[h4];simp[dv]⟩ (fun _=>rfl) (fun⟨W2,c,k⟩ hk=>?_)
   dsimp only at hk⊢
   obtain⟨g1,g2,g3,g4,g5⟩:=hk
   have hlw:=aaB W2
   have hw:=g2.get (i+k)
   have hda:=adr a i
   have hdb:=adr b k
   refine br (fu2:=⟨10⟩) J J J (fun hc46=>?_) (fun hc46=>?_)
   ·
    refine ix (fu:=⟨12⟩) (hv:=by simp only[aaj];exact⟨⟨by omega,by omega⟩,⟨(ayR _ _),(azI (adr _ _) (adr _ _))⟩⟩) _ rfl (abG (by omega)) rfl<|?_
    obtain⟨p,hp⟩: ∃p,p=(dg a).getD i 0*(dg b).getD k 0:=⟨_,rfl⟩
    have hp1:p≤18446744065119617025:=hp▸asb hda hdb
    refine eqF 54 (.d (.v (.int .u64 (p:Nat)))) rfl (by rw[hp,iU]) ?_
    refine gx rfl<|lb (fu:=⟨4⟩) _ rfl (aaA (k:=i+k) (by omega) (by omega)) rfl<|?_
    obtain⟨t,ht⟩: ∃t,t=p+W2.getD (i+k) 0+c:=⟨_,rfl⟩
    refine eqF 64 (.d (.v (.int .u64 (t:Nat)))) rfl (by congr 3;omega) ?_
    refine gx (fu:=⟨11⟩) rfl<|?_
    refine eqF 70 (.d (dU (t%4294967296))) rfl (by show FX.d (.v (.int _ _))= .d (.v (.int _ _));congr 3) ?_
    refine gx rfl<|sb (fu:=⟨5⟩) (hv:=by simp only[aaj];exact(by decide)) _ ((W2.set (i+k) (t%4294967296)).map dU) rfl (aaA (k:=i+k) (by omega) (by omega)) rfl (by(rw[show((i:Int)+k).toNat=i+k by omega,←ad5])<;>rfl) rfl<|?_
    refine eqF 73 (.d (.v (.int .u64 (t/4294967296:Nat)))) rfl (by rw[auq]) ?_
    refine gx rfl<|?_
    exact at_ ⟨W2.set (i+k) (t%4294967296),t/4294967296,k+1⟩ (by dsimp only;exact⟨⟨by simpa using g1,g2.set _ (by omega),by omega,by omega,by rw[aax];exact axL (by omega) (by omega) g5 ht hp⟩,(by omega)⟩)
   ·
    obtain rfl:k=(dg b).length:=by omega
    refine eqF 78 (.d (vI ((dg b).length:Nat))) rfl (by rw[hlb];rfl) ?_
    refine gx (fu:=⟨3⟩) rfl<|?_
    refine eqF 81 (.d (dU c)) rfl (by show FX.d (.v (.int _ _))= .d (.v (.int _ _));congr 3;omega) ?_
    refine gx rfl<|sb _ ((W2.set (i+(dg b).length) c).map dU) rfl (aaA (k:=i+(dg b).length) (by omega) (by omega)) rfl (by(rw[show((i:Int)+((dg b).length:Nat)).toNat=i+(dg b).length by omega,←ad5])<;>rfl) rfl<|?_
    exact at_ ⟨W2.set (i+(dg b).length) c,i+1⟩ (by dsimp only;exact⟨⟨by simpa using g1,g2.set _ g3,by omega,awK rfl (by omega) g5⟩,(by omega)⟩)
  ·
   obtain rfl:i=(dg a).length:=by omega
   refine fz 35 J J<|cl rfl (af0 (ds:=W) (by omega)) rfl<|?_
   exact rz rfl (ae6 h2 (by have:=h4;rw[acw (by omega),acw (by omega),aaW] at this;exact this))
theorem akY(x s:Nat):x*2^s=x*2^s%4294967296+4294967296*(x*2^s/4294967296):=by omega
theorem aAN{x s:Nat}(hx:x<4294967296)(hs:s<32):x*2^s/4294967296<2^s:=by
 rw[jN (by decide),bL (2^s)]
 exact nZ hx (aM _) (eX (by decide))
theorem asD{s:Nat}(hs:s<32):2^s*2^(32-s)=4294967296:=by rw[←fV,show s+(32-s)=32 by omega]
theorem aBj(x s:Nat)(hs:s<32):x*2^s%4294967296=x%2^(32-s)*2^s:=by
 rw[←asD hs,bL (2^s),rT]
theorem awm{x s:Nat}(hx:x<4294967296)(hs:s<32):x*2^s<18446744073709551616:=by
 have h1:2^s≤2^31:=bT (by decide) (by omega)
 have:=nZ hx h1 (by decide)
 omega
theorem az6{w x s:Nat}(hw:w<2^s)(hs:s<32):(BitVec.ofInt 32 (w:Int) ||| BitVec.ofInt 32 ((x*2^s%4294967296:Nat):Int)).toNat=w+x*2^s%4294967296:=by
 rw[aBj x s hs]
 refine arM 32 _ _ _ hw ?_
 have h1:x%2^(32-s)+1≤2^(32-s):=cY _ (eX (by decide))
 have h2:=bW (2^s) h1
 rw[bL (2^(32-s)),asD hs,cS,oU] at h2
 show _<4294967296
 omega
theorem au4{h:Nat}(hh:h<4294967296):(BitVec.ofInt 32 ((0:Nat):Int) ||| BitVec.ofInt 32 (h:Int)).toNat=h:=by
 have:=arM 32 0 h 0 (by decide) (by simpa using hh)
 simpa using this
theorem at0(k:Nat):2^k=4294967296^(k/32)*2^(k%32):=by
 rw[show(4294967296:Nat)=2^32 from rfl,←pV,←fV,qY]
theorem getD_set_ne{W:List Nat}{i j d:Nat}(h:i≠j):(W.set i d).getD j 0=W.getD j 0:=by
 rw[aX,aX,List.getElem?_set_ne h]
theorem aiN{W:List Nat}{i d:Nat}(h:i<W.length):(W.set i d).getD i 0=d:=by
 rw[aX,mX h];rfl
theorem awS{A W:List Nat}{k q s i x:Nat}(hq:q=k/32)(hs:s=k%32)(hl:q+i+1<W.length)(hx:x=A.getD i 0)
  (h:dv (W.take (q+i+1))=dv (A.take i)*2^k):
  dv (((W.set (q+i) (W.getD (q+i) 0+x*2^s%4294967296)).set (q+i+1) (x*2^s/4294967296)).take (q+(i+1)+1))=dv (A.take (i+1))*2^k:=by
 have e1:=anq (W:=W) (j:=q+i) (m:=q+i+1) (d:=W.getD (q+i) 0+x*2^s%4294967296) (by omega) (by omega)
 rw[show q+(i+1)+1=q+i+1+1 by omega,abj (by rw[aN];omega),aax A,←hx]
 have e2:dv ((W.set (q+i) (W.getD (q+i) 0+x*2^s%4294967296)).take (q+i+1))=dv (A.take i)*2^k+4294967296^(q+i)*(x*2^s%4294967296):=by
  rw[dJ,h] at e1;omega
 rw[e2,fZ,bN,jU,←dJ,←akY,cS,at0 k,←hq,←hs,fV]
 simp only[bN,kM,bL]
theorem aqH{a k ia:Nat}[ha:BN a ia](hk:k≤1000000000)(hi:ia≤1000000000:=by decide):PF GB prog 232 [dN a,vI (k:Nat)] (dN (a*2^k)):=by
 have hla:=aaB (dg a)
 have hba:=adp ha.h hi
 refine fn (fu:=⟨9⟩) func232 J J ntmps232 J J (fun C=>?_)
 refine eqF 11 (.d (vI (k/32:Nat))) rfl (by show FX.d (.v (.int _ _))= .d (.v (.int _ _));rw[asU hk]) ?_
 refine gx (fu:=⟨2⟩) rfl<|?_
 refine eqF 13 (.d (vI ((dg a).length:Nat))) rfl (by rw[hla];rfl) ?_
 refine gx (fu:=⟨2⟩) rfl<|?_
 refine eqF 15 (.d (vI (k/32+(dg a).length+1:Nat))) rfl (by show FX.d (.v (.int _ _))= .d (.v (.int _ _));congr 3) ?_
 refine gx rfl<|mk (fu:=⟨7⟩) (hv:=by simp only[aaj];exact(by decide)) ((List.replicate (k/32+(dg a).length+1) 0).map dU) J J (by rw[←aeW];rfl) rfl<|?_
 refine eqF 18 (.d (vI (k%32:Nat))) rfl (by show FX.d (.v (.int _ _))= .d (.v (.int _ _));rw[aCM]) ?_
 refine gx (fu:=⟨9⟩) rfl<|?_
 refine eqF 21 (.d (vI ((dg a).length:Nat))) rfl (by rw[hla];rfl) ?_
 refine gx rfl<|?_
 refine lp (X:=List Nat×Nat) (fun⟨W,i⟩=>[(0, .d (dN a)),(1, .d (vI (k:Nat))),(5, .rw 16),(6, .d (.v (.int .u64 (k%32:Nat)))),(20, .d (dN a)),(21, .d (vI ((dg a).length:Nat))),(22, .d (vI (i:Nat)))]) (fun⟨W,i⟩=>[(16,some (.b 215 1 (W.map dU) true))]) (fun⟨W,i⟩=>W.length=k/32+(dg a).length+1∧DOk W∧i≤(dg a).length∧dv (W.take (k/32+i+1))=dv ((dg a).take i)*2^k∧W.getD (k/32+i) 0<2^(k%32)∧ ∀j,k/32+i<j→W.getD j 0=0) (fun⟨W,i⟩=>(dg a).length-i) ⟨List.replicate (k/32+(dg a).length+1) 0,0⟩ rfl ⟨by simp, .replicate _,by omega,by rw[List.take_replicate,acI];simp[dv],by rw[aql];exact eX (by decide),fun j _=>aql _ _⟩ (fun _=>rfl) (fun⟨W,i⟩ hk=>?_)
 dsimp only at hk⊢
 obtain⟨h1,h2,h3,h4,h5,h6⟩:=hk
 have hlw:=aaB W
 have hda:=adr a i
 have hsk:k%32<32:=cY _ (by decide)
 have hpp:2^(k%32)≤2^31:=bT (by decide) (by omega)
 refine br J J J (fun hc23=>?_) (fun hc23=>?_)
 ·
  refine ix (fu:=⟨11⟩) (hv:=by simp only[aaj];exact⟨by omega,(by omega)⟩) _ rfl (abG (by omega)) rfl<|?_
  have hhi:=aAN hda hsk
  have hfit0:=awm hda hsk
  have hor:=az6 (x:=(dg a).getD i 0) h5 hsk
  have hfit:W.getD (k/32+i) 0+(dg a).getD i 0*2^(k%32)%4294967296<4294967296:=by rw[←hor];exact BitVec.isLt _
  have hlp:=akY ((dg a).getD i 0) (k%32)
  refine eqF 30 (.d (.v (.int .u64 ((dg a).getD i 0*2^(k%32):Nat)))) rfl (by show FX.d (.v (.int _ _))= .d (.v (.int _ _));rw[aeg _ (k%32) (by omega) hfit0 (by omega)]) ?_
  obtain⟨t,ht⟩: ∃t,t=(dg a).getD i 0*2^(k%32):=⟨_,rfl⟩
  simp only[←ht] at hhi hfit0 hor hfit hlp
  rw[←ht]
  refine gx (fu:=⟨8⟩) rfl<|?_
  refine eqF 33 (.d (vI (k/32:Nat))) rfl (by show FX.d (.v (.int _ _))= .d (.v (.int _ _));rw[asU hk]) ?_
  refine gx rfl<|lb (fu:=⟨2⟩) _ rfl (aaA (k:=k/32+i) (by omega) (by omega)) rfl<|?_
  refine eqF 39 (.d (dU (t%4294967296))) rfl (by show FX.d (.v (.int _ _))= .d (.v (.int _ _));congr 3) ?_
  refine gx (fu:=⟨1⟩) rfl<|?_
  refine eqF 40 _ rfl (congrArg (fun z:Nat=>FX.d (.v (.int .u32 (z:Int)))) hor) ?_
  refine gx rfl<|sb (fu:=⟨6⟩) _ ((W.set (k/32+i) (W.getD (k/32+i) 0+t%4294967296)).map dU) rfl (aaA (k:=k/32+i) (by omega) (by omega)) rfl (by(rw[show(((k/32:Nat):Int)+i).toNat=k/32+i by omega];simp only[kQ];rfl)<;>rfl) rfl<|?_
  refine eqF 44 (.d (vI (k/32:Nat))) rfl (by show FX.d (.v (.int _ _))= .d (.v (.int _ _));rw[asU hk]) ?_
  refine gx rfl<|lb (fu:=⟨0⟩) _ rfl (aaA (k:=k/32+i+1) (by omega) (by rw[aN];omega)) rfl<|?_
  refine eqF 49 (.d (dU 0)) rfl (by rw[getD_set_ne (by omega),h6 _ (by omega)]) ?_
  refine gx (fu:=⟨2⟩) (hv:=by simp only[aaj];exact(by decide)) rfl<|?_
  refine eqF 51 (.d (.v (.int .u64 (t/4294967296:Nat)))) rfl (by rw[auq]) ?_
  refine gx (fu:=⟨1⟩) rfl<|?_
  refine eqF 52 (.d (dU (t/4294967296))) rfl (by show FX.d (.v (.int _ _))= .d (.v (.int _ _));congr 3;omega) ?_
  refine gx (fu:=⟨1⟩) rfl<|?_
  refine eqF 53 _ rfl (congrArg (fun z:Nat=>FX.d (.v (.int .u32 (z:Int)))) (au4 (by omega))) ?_
  refine gx rfl<|sb _ (((W.set (k/32+i) (W.getD (k/32+i) 0+t%4294967296)).set (k/32+i+1) (t/4294967296)).map dU) rfl (aaA (k:=k/32+i+1) (by omega) (by rw[aN];omega)) rfl (by(rw[show(((k/32:Nat):Int)+i+1).toNat=k/32+i+1 by omega];simp only[kQ];rfl)<;>rfl) rfl<|?_
  exact at_ ⟨(W.set (k/32+i) (W.getD (k/32+i) 0+t%4294967296)).set (k/32+i+1) (t/4294967296),i+1⟩ (by dsimp only;exact⟨⟨by simpa using h1,(h2.set _ hfit).set _ (by omega),by omega,by have q:=awS (x:=(dg a).getD i 0) J J (by omega) rfl h4;rw[←ht] at q;exact q,by rw[show k/32+(i+1)=k/32+i+1 by omega,aiN (by simp;omega)];exact hhi,fun j hj=>by rw[getD_set_ne (by omega),getD_set_ne (by omega)];exact h6 j (by omega)⟩,(by omega)⟩)
 ·
  obtain rfl:i=(dg a).length:=by omega
  refine fz 16 J J<|cl rfl (af0 (ds:=W) (by omega)) rfl<|?_
  exact rz rfl (ae6 h2 (by have:=h4;rw[acw (by omega),acw (by omega),aaW] at this;exact this))
theorem arF{a k:Nat}(h:(dg a).length≤k/32):a/2^k=0:=by
 refine jJ ?_
 have h1:=aey (ae9 a)
 rw[aaW] at h1
 have h2:4294967296^(dg a).length≤4294967296^(k/32):=bT (by decide) h
 have h3:4294967296^(k/32)*1≤4294967296^(k/32)*2^(k%32):=eY _ (eX (by decide))
 rw[at0 k]
 omega
theorem ama{ds:List Nat}(h:DOk ds)(q:Nat):dv (ds.drop q)=dv ds/4294967296^q:=by
 rcases iZ ds.length q with hq|hq
 ·rw[jT (by omega)]
  have h1:=aey h
  have h2:4294967296^ds.length≤4294967296^q:=bT (by decide) (by omega)
  rw[jJ (by omega)];rfl
 ·have e:=aip ds q hq
  have h1:=aey (h.take q)
  rw[cJ,fM hq] at h1
  rw[e,lS _ _ (eX (by decide)),jJ h1,fQ]
theorem avF{ds:List Nat}(h:DOk ds)(i:Nat):dv ds/4294967296^i=ds.getD i 0+4294967296*ds.getD (i+1) 0+18446744073709551616*(dv ds/4294967296^(i+2)):=by
 have e0:=ama h i
 have e2:=ama h (i+2)
 rw[←e0,←e2]
 have g0:ds.getD i 0=(ds.drop i).getD 0 0:=by rw[aX,aX,oT];rfl
 have g1:ds.getD (i+1) 0=(ds.drop i).getD 1 0:=by rw[aX,aX,oT]
 have g2:ds.drop (i+2)=(ds.drop i).drop 2:=by rw[sS]
 rw[g0,g1,g2]
 match ds.drop i with
 |[]=>rfl
 |[u]=>simp[dv]
 |u::v::t=>simp only[dv,sW,lZ,sV,iX];omega
theorem arH{D s i u v w Z:Nat}(hs:s<32)(hZ:D/4294967296^i=u+4294967296*v+18446744073709551616*Z)(hw:w=(u+v*4294967296)/2^s%4294967296):(D/2^s)%4294967296^(i+1)=(D/2^s)%4294967296^i+4294967296^i*w:=by
 rw[fZ,Nat.mod_mul]
 congr 2
 rw[mJ,bL (2^s),←mJ,hZ,hw]
 have h1:18446744073709551616=2^s*(2^(32-s)*4294967296):=by rw[←bN,asD hs]
 rw[h1,bN (2^s),lS _ _ (eX (by decide)),bL v]
 rw[bL (2^(32-s)),bN,nJ]
theorem asq{a k:Nat}{W:List Nat}{q s:Nat}(hq:q=k/32)(hs:s=k%32)(hl:W.length=(dg a).length-q)(h:dv (W.take ((dg a).length-q))=(dv ((dg a).drop q)/2^s)%4294967296^((dg a).length-q)):dv W=a/2^k:=by
 rw[acw (by omega)] at h
 have h1:=aey ((ae9 a).drop q)
 rw[gT] at h1
 have h2:=iT (dv ((dg a).drop q)) (2^s)
 rw[h,dV (by omega),ama (ae9 a),aaW,at0 k,←hq,←hs,mJ]
theorem aAn{a k ia:Nat}[ha:BN a ia](hk:k≤1000000000)(hi:ia≤1000000000:=by decide):PF GB prog 233 [dN a,vI (k:Nat)] (dN (a/2^k)):=by
 have hla:=aaB (dg a)
 have hba:=adp ha.h hi
 refine fn (fu:=⟨10⟩) func233 J J ntmps233 J J (fun C=>?_)
 refine eqF 12 (.d (vI (k/32:Nat))) rfl (by show FX.d (.v (.int _ _))= .d (.v (.int _ _));rw[asU hk]) ?_
 refine gx (fu:=⟨2⟩) rfl<|?_
 refine eqF 14 (.d (vI ((dg a).length:Nat))) rfl (by rw[hla];rfl) ?_
 refine gx rfl<|?_
 refine br (fu2:=⟨6⟩) (v2:=fun _=>by simp only[aaj];exact(by decide)) J J J (fun hc15=>?_) (fun hc15=>?_)
 ·
  exact rz rfl (by rw[arF (by omega),adt];rfl)
 ·
  refine eqF 17 (.d (vI (k%32:Nat))) rfl (by show FX.d (.v (.int _ _))= .d (.v (.int _ _));rw[aCM]) ?_
  refine gx (fu:=⟨9⟩) rfl<|?_
  refine eqF 21 (.d (vI (k/32:Nat))) rfl (by show FX.d (.v (.int _ _))= .d (.v (.int _ _));rw[asU hk]) ?_
  refine gx rfl<|sc' (fu:=⟨0⟩) (k/32) (dg a).length _ J J (by rw[hla]) rfl (anS _) (by omega) (by omega) rfl<|?_
  obtain⟨I,hI⟩: ∃I,I=(dg a).drop (k/32):=⟨_,rfl⟩
  have hIl:I.length=(dg a).length-k/32:=by rw[hI,gT]
  have hIm:=aaB I
  have hIo:DOk I:=hI▸(ae9 a).drop _
  refine eqF 22 (.d (dLi I)) rfl (by show FX.d (.sl _)= .d (.sl _);rw[hI,←hla,fY,iK]) ?_
  refine gx (fu:=⟨7⟩) rfl<|?_
  refine eqF 24 (.d (vI (I.length:Nat))) rfl (by rw[hIm];rfl) ?_
  refine gx rfl<|mk (fu:=⟨8⟩) ((List.replicate I.length 0).map dU) J J (by rw[←aeW];rfl) rfl<|?_
  refine eqF 27 (.d (vI (I.length:Nat))) rfl (by rw[hIm];rfl) ?_
  refine gx rfl<|?_
  refine lp (X:=List Nat×Nat) (fun⟨W,i⟩=>[(0, .d (dN a)),(5, .d (.v (.int .u64 (k%32:Nat)))),(6, .d (dLi I)),(7, .rw 25),(26, .d (dLi I)),(27, .d (vI (I.length:Nat))),(28, .d (vI (i:Nat)))]) (fun⟨W,i⟩=>[(25,some (.b 215 1 (W.map dU) true))]) (fun⟨W,i⟩=>W.length=I.length∧DOk W∧i≤I.length∧dv (W.take i)=(dv I/2^(k%32))%4294967296^i) (fun⟨W,i⟩=>I.length-i) ⟨List.replicate I.length 0,0⟩ rfl ⟨by simp, .replicate _,by omega,by simp[dv,Nat.mod_one]⟩ (fun _=>rfl) (fun⟨W,i⟩ hk=>?_)
  dsimp only at hk⊢
  obtain⟨h1,h2,h3,h4⟩:=hk
  have hlw:=aaB W
  have hda:=hIo.get i
  have hdb:=hIo.get (i+1)
  have hsk:k%32<32:=cY _ (by decide)
  refine br J J J (fun hc29=>?_) (fun hc29=>?_)
  ·
   refine ix (fu:=⟨13⟩) _ rfl (abG (by omega)) rfl<|?_
   refine mg (fu:=⟨6⟩) (hv:=fun _ _=>by simp only[aaj];exact(by omega)) (X:=Unit) (fun _=>[(0, .d (dN a)),(5, .d (.v (.int .u64 (k%32:Nat)))),(6, .d (dLi I)),(7, .rw 25),(26, .d (dLi I)),(27, .d (vI (I.length:Nat))),(28, .d (vI (i:Nat))),(8, .d (vI (i:Nat))),(10, .d (.v (.int .u64 (I.getD i 0+I.getD (i+1) 0*4294967296:Nat))))]) (fun _=>[(25,some (.b 215 1 (W.map dU) true))]) (fun _=>True) [0,5,6,7,26,27,28,8,10] [25] rfl ?_ (fun _=>rfl) (fun _ hm=>?_)
   ·
    refine gx (fu:=⟨6⟩) rfl<|?_
    refine eqF 38 (.d (vI (I.length:Nat))) rfl (by rw[hIm];rfl) ?_
    refine gx rfl<|?_
    refine br J J J (fun hc39=>?_) (fun hc39=>?_)
    ·
     refine ix (fu:=⟨3⟩) (hv:=by simp only[aaj];exact⟨by omega,(by decide)⟩) _ rfl (aaA (k:=i+1) (by omega) (by omega)) rfl<|?_
     refine eqF 47 (.d (.v (.int .u64 (I.getD (i+1) 0*4294967296:Nat)))) rfl (by show FX.d (.v (.int _ _))= .d (.v (.int _ _));rw[aeg _ 32 (by decide) (by show _*4294967296<_;omega) rfl]) ?_
     refine gx (fu:=⟨1⟩) rfl<|?_
     refine eqF 48 _ rfl (congrArg (fun z:Nat=>FX.d (.v (.int .u64 (z:Int)))) (arM 64 (I.getD i 0) (I.getD (i+1) 0) 32 hda (by show _+_*4294967296<18446744073709551616;omega))) ?_
     refine gx rfl<|?_
     exact at_ () trivial
    ·
     refine eqF 10 (.d (.v (.int .u64 (I.getD i 0+I.getD (i+1) 0*4294967296:Nat)))) rfl (by rw[aea (by omega:I.length≤i+1),lY,dY]) ?_
     exact at_ () trivial
   ·
    refine eqF 53 (.d (.v (.int .u64 ((I.getD i 0+I.getD (i+1) 0*4294967296)/2^(k%32):Nat)))) rfl (by show FX.d (.v (.int _ _))= .d (.v (.int _ _));rw[aeX _ (k%32) (by omega) (by omega)]) ?_
    refine gx (fu:=⟨1⟩) rfl<|?_
    obtain⟨w,hw⟩: ∃w,w=(I.getD i 0+I.getD (i+1) 0*4294967296)/2^(k%32)%4294967296:=⟨_,rfl⟩
    have hw1:w<4294967296:=hw▸cY _ (by decide)
    refine eqF 54 (.d (dU w)) rfl (by show FX.d (.v (.int _ _))= .d (.v (.int _ _));rw[hw];congr 3) ?_
    refine gx rfl<|sb _ ((W.set i w).map dU) rfl (abG (by omega)) rfl (by(rw[←ad5];rfl)<;>rfl) rfl<|?_
    exact at_ ⟨W.set i w,i+1⟩ (by dsimp only;exact⟨⟨by simpa using h1,h2.set _ (by omega),by omega,by rw[abj (by omega),h4];exact(arH hsk (avF hIo i) hw).symm⟩,(by omega)⟩)
  ·
   refine fz 25 J J<|cl rfl (af0 (ds:=W) (by omega)) rfl<|?_
   exact rz rfl (ae6 h2 (by obtain rfl:i=I.length:=(by omega);rw[hIl] at h1 h4;rw[hI] at h4;exact asq rfl rfl h1 h4))
theorem agK{a k:Nat}(h:a<4294967296^k):(dg a).length≤k:=by
 rcases iZ k (dg a).length with q|q
 ·have h1:=af3 (aaD a).2.2 (by intro e;rw[e] at q;simp at q)
  rw[aaW] at h1
  have h2:4294967296^k≤4294967296^((dg a).length-1):=bT (by decide) (by omega)
  omega
 ·exact q
theorem axY{a:Nat}(h:(dg a).length=2):(dg a).getD 0 0+(dg a).getD 1 0*4294967296=a:=by
 have e:=aaW a
 revert e
 match dg a,h with
 |[x,y],_=>intro e;simp[dv] at e⊢;omega
def auH(a:Nat):DV:= .tp [.v (.int .u64 ((if a<18446744073709551616 then a else 0:Nat):Int)),vB (decide (a<18446744073709551616))]
theorem aqB{a:Nat}(h:a<18446744073709551616):auH a= .tp [.v (.int .u64 (a:Int)),vB true]:=by unfold auH;rw[if_pos h,decide_eq_true h]
theorem axC{a:Nat}(h: ¬a<18446744073709551616):auH a= .tp [.v (.int .u64 0),vB false]:=by unfold auH;rw[if_neg h,decide_eq_false h];rfl
theorem adl(a:Nat):a<4294967296^(dg a).length:=by have:=aey (ae9 a);rwa [aaW] at this
theorem aqI{a ia:Nat}[ha:BN a ia](hi:ia≤1000000000:=by decide):PF GB prog 172 [dN a] (auH a):=by
 have hla:=aaB (dg a)
 have hba:=adp ha.h hi
 have hlt:=adl a
 have hd00:=adr a 0
 refine fn (fu:=⟨11⟩) func172 J J ntmps172 J J (fun C=>?_)
 refine eqF 5 (.d (vI ((dg a).length:Nat))) rfl (by rw[hla];rfl) ?_
 refine gx rfl<|?_
 refine br J J J (fun hc6=>?_) (fun hc6=>?_)
 ·
  exact rz rfl (by rw[show(dg a).length=0 by omega] at hlt;obtain rfl:a=0:=(by omega);rfl)
 ·
  refine br J J J (fun hc8=>?_) (fun hc8=>?_)
  ·
   refine ix (fu:=⟨2⟩) _ rfl (aaA (k:=0) rfl (by omega)) rfl<|?_
   refine eqF 13 (.d (.v (.int .u64 (a:Nat)))) rfl (by rw[acH (by omega)]) ?_
   refine gx rfl<|?_
   exact rz rfl (by rw[show(dg a).length=1 by omega] at hlt;rw[aqB (by omega),←acH (a:=a) (by omega),acH (a:=a) (by omega)];rfl)
  ·
   refine br J J J (fun hc14=>?_) (fun hc14=>?_)
   ·
    have hd0:=adr a 0
    have hd1:=adr a 1
    refine ix (hv:=by simp only[aaj];exact⟨by omega,(by decide)⟩) _ rfl (aaA (k:=1) rfl (by omega)) rfl<|ix (fu:=⟨3⟩) _ rfl (aaA (k:=0) rfl (by omega)) rfl<|?_
    refine eqF 25 (.d (.v (.int .u64 (a:Nat)))) rfl (congrArg (fun z:Nat=>FX.d (.v (.int .u64 (z:Int)))) (by rw[aeg _ 32 (by decide) (by show _*4294967296<_;omega) rfl,BitVec.or_comm];exact(arM 64 ((dg a).getD 0 0) ((dg a).getD 1 0) 32 hd0 (by show _+_*4294967296<18446744073709551616;omega)).trans (axY (by omega)))) ?_
    refine gx rfl<|?_
    exact rz rfl (by rw[show(dg a).length=2 by omega] at hlt;rw[aqB (by omega)];rfl)
   ·
    exact rz rfl (by rw[axC];rfl;intro h;have:=agK (a:=a) (k:=2) (by omega);omega)
theorem aEh{G:Gh}{ds:List Nat}{v:Value}(hd:DOk ds)(h:Is G (dLi ds) v): ∃x:SV,v=x.v∧IsD G x ds:=by
 obtain⟨x,rfl,h1⟩:=aD2.1 h
 exact⟨x,rfl,hd,h1⟩
theorem IsN.is{G:Gh}{k n:Nat}{z:SV}(h:IsN k G z n):Is G (dN n) z.v:=(aGK h.lt).2 ⟨z,rfl,h⟩
theorem op1{G:Gh}{ds:List Nat}{vs:List Value}(hd:DOk ds)(h:IsLs G [dLi ds] vs): ∃x:SV,vs=[x.v]∧IsD G x ds:=by
 obtain⟨v,m,rfl,h1,h2⟩:=aae.1 h
 cases aaJ.1 h2
 obtain⟨x,rfl,h3⟩:=aEh hd h1
 exact⟨x,rfl,h3⟩
theorem op2{G:Gh}{a b:Nat}{vs:List Value}(h:IsLs G [dN a,dN b] vs): ∃x y:SV,vs=[x.v,y.v]∧IsD G x (dg a)∧IsD G y (dg b):=by
 obtain⟨v,m,rfl,h1,h2⟩:=aae.1 h
 obtain⟨y,rfl,h4⟩:=op1 (aaD b).2.1 h2
 obtain⟨x,rfl,h3⟩:=aEh (aaD a).2.1 h1
 exact⟨x,y,rfl,h3,h4⟩
section
variable {GB:Gh} {a b i j:Nat}
theorem agT[h:BN a i](hi:i≤1000000000):(dg a).length≤31250001:=by have:=aa8 h.h;omega
theorem axu{ds:List Nat}(hd:DOk ds)(hl:ds.length≤1125899906842624):PF GB prog 265 [dLi ds] (vB (decide (Nrm ds))):=fun G vs _ hv=>by
 obtain⟨x,rfl,hx⟩:=op1 hd hv
 exact(arZ hx hl).mono fun v G' _ h=>aa4.2 h
theorem ajL[h:BN a i](hi:i≤1000000000:=by decide):PF GB prog 200 [dN a] (vI (bl a:Nat)):=fun G vs _ hv=>by
 obtain⟨x,rfl,hx⟩:=op1 (aaD a).2.1 hv
 have:=agT (a:=a) hi
 exact(av8 hx (by omega)).mono fun v G' _ h=>aa4.2 (by rw[h,aaW])
theorem akP[h:BN a i](hi:i≤1000000000:=by decide):PF GB prog 164 [dN a] (dN a):=fun G vs _ hv=>by
 obtain⟨x,rfl,hx⟩:=op1 (aaD a).2.1 hv
 have:=agT (a:=a) hi
 refine(amr (k:=i) hx (by rw[aaW];exact h.h) (by omega)).mono fun v G' _ h=>?_
 obtain⟨z,rfl,h⟩:=h
 rw[aaW] at h;exact h.is
theorem ahq(h:a<18446744073709551616):PF GB prog 165 [.v (.int .u64 (a:Nat))] (dN a):=fun G vs _ hv=>by
 obtain⟨v,m,rfl,h1,h2⟩:=aae.1 hv
 cases aaJ.1 h2
 rw[aa4.1 h1]
 refine(afx h).mono fun v G' _ h=>?_
 obtain⟨z,rfl,h⟩:=h
 exact h.is
theorem avK(h:a<18446744073709551616):PF GB prog 204 [dN a] (.tp [.v (.int .u64 (a:Nat)),vB true]):=fun G vs _ hv=>by
 obtain⟨x,rfl,hx⟩:=op1 (aaD a).2.1 hv
 have:BN a 64:=⟨h⟩
 have:=agT (a:=a) (i:=64) (by decide)
 refine(alD hx (by omega)).mono fun v G' _ e=>?_
 rw[aaW,if_pos h,decide_eq_true h] at e
 subst e
 exact adS.2 ⟨_,rfl, .cons (aa4.2 rfl) (.cons (aa4.2 rfl) .nil)⟩
theorem aGT[h:BN a i][k:BN b j](hi:i≤1000000000:=by decide)(hj:j≤1000000000:=by decide):PF GB prog 216 [dN a,dN b] (dN (a+b)):=fun G vs _ hv=>by
 obtain⟨x,y,rfl,hx,hy⟩:=op2 hv
 have:=agT (a:=a) hi
 have:=agT (a:=b) hj
 refine(aBV (kk:=i+j+1) hx hy (by rw[aaW,aaW];exact afI h.h k.h) (by omega) (by omega)).mono fun v G' _ h=>?_
 obtain⟨z,rfl,h⟩:=h
 rw[aaW,aaW] at h;exact h.is
theorem aDo[h:BN a i][k:BN b j](hi:i≤1000000000:=by decide)(hj:j≤1000000000:=by decide):PF GB prog 217 [dN a,dN b] (.tp [dN (a-b),vB (decide (b≤a))]):=fun G vs _ hv=>by
 obtain⟨x,y,rfl,hx,hy⟩:=op2 hv
 have:=agT (a:=a) hi
 have:=agT (a:=b) hj
 refine(aAY (kk:=i) hx hy (by rw[aaW];exact h.h) (by omega) (by omega)).mono fun v G' _ h=>?_
 obtain⟨z,rfl,h⟩:=h
 rw[aaW,aaW] at h⊢
 exact adS.2 ⟨_,rfl, .cons h.is (.cons (aa4.2 rfl) .nil)⟩
theorem arD[h:BN a i][k:BN b j](hi:i≤1000000000:=by decide)(hj:j≤1000000000:=by decide):PF GB prog 161 [dN a,dN b] (dN (a*b)):=fun G vs _ hv=>by
 obtain⟨x,y,rfl,hx,hy⟩:=op2 hv
 have:=agT (a:=a) hi
 have:=agT (a:=b) hj
 refine(aA9 (kk:=i+j) hx hy (by rw[aaW,aaW];exact abq h.h k.h) (by omega) (by omega)).mono fun v G' _ h=>?_
 obtain⟨z,rfl,h⟩:=h
 rw[aaW,aaW] at h;exact h.is
theorem aqG[h:BN a i][k:BN b j](hb:0<b)(hi:i≤1000000000:=by decide)(hj:j≤1000000000:=by decide):PF GB prog 202 [dN a,dN b] (.tp [dN (a/b),dN (a%b),vB true]):=fun G vs _ hv=>by
 obtain⟨x,y,rfl,hx,hy⟩:=op2 hv
 have:=agT (a:=a) hi
 have:=agT (a:=b) hj
 refine(ahP (k1:=i) (k2:=j) hx hy (by rw[aaW];exact hb) (by rw[aaW,aaW];exact fS (iT _ _) h.h) (by rw[aaW,aaW];exact pT (cY _ hb) k.h) (by omega) (by omega)).mono fun v G' _ h=>?_
 obtain⟨z,r,rfl,h,h'⟩:=h
 rw[aaW,aaW] at h h'
 exact adS.2 ⟨_,rfl, .cons h.is (.cons h'.is (.cons (aa4.2 rfl) .nil))⟩
theorem aDk[h:BN a i][k:BN b j](hi:i≤1000000000:=by decide)(hj:j≤1000000000:=by decide):PF GB prog 201 [dN a,dN b] (dN (Nat.gcd a b)):=fun G vs _ hv=>by
 obtain⟨x,y,rfl,hx,hy⟩:=op2 hv
 have:=agT (a:=a) hi
 have:=agT (a:=b) hj
 have e: ∀k',k'≤i+j→(2:Nat)^k'≤2^(i+j):=fun k' h=>bT (by decide) h
 have:=e i (by omega)
 have:=e j (by omega)
 have:=h.h
 have:=k.h
 refine(aB7 (k:=i+j) (k0:=i+j) hx hy (by rw[aaW];omega) (by rw[aaW];omega) (by omega) (by rw[aaW,aaW];exact aoY h.h k.h) (by omega) (by omega)).mono fun v G' _ h=>?_
 obtain⟨z,rfl,h⟩:=h
 rw[aaW,aaW] at h;exact h.is
end
section
variable {GB:Gh} {C:Ctx} {n:Nat} {Q0:Exit→Act→World→Prop} {fr fr' fr1 fr2:FrX} {own own' own1 own2:OwX} {cf cf' cf1 cf2:Cf} {vc vc1 vc2:List Prop}
theorem rzI{fb:Func}{e:Exit}{ds:List DV}{rv:DV}(hr:awn tt fr own fb.results.toList=some ds)(hd: ∀G y,Is G (aku ds) y→Is G rv y)(he:aDR e=true:=by rfl):CfS prog GB C n (adi C prog fb (amf C (fun v G'=>Is G' rv v))) fr own (.ex e []):=by
 refine⟨fun ρ G ov a w r=>?_⟩
 obtain⟨vs,h1,h2⟩:=aot r hr
 have hk:Is G rv (ab0 vs):=hd _ _ (aou h2)
 cases e with
 |ret=>exact zD (C:=C) (n:=n) (fr:=frA a) (own:=ov) (G:=G) (K:=fun v G'=>Is G' rv v) h1 hk a w ⟨r.h,r.sz,aaN a,r.df⟩
 |normal=>exact aqQ (C:=C) (n:=n) (fr:=frA a) (own:=ov) (G:=G) (K:=fun v G'=>Is G' rv v) h1 hk a w ⟨r.h,r.sz,aaN a,r.df⟩
 |_=>cases he
def cuA(fr:FrX)(cf:Cf):Option (Int×IntKind):=match opC fr cf with
 |some ⟨_, .convert t t' x,_,_,_,_⟩=>match abi tt t,abi tt t',evX (lkC fr cf) x with
  |some ⟨.int k,_,_,_⟩,some ⟨.int k',_,_,_⟩,some (.d (.v (.int j p)))=>bif kq k j then some (p,k') else none
  |_,_,_=>none
 |_=>none
theorem cu[fu:Fu]{p:Int}{k':IntKind}(u:Int)(h:cuA fr cf=some (p,k'))(e:k'.wrap p=u)(hgo:goA tt n fu.n fr own cf (.d (.v (.int k' u))) [] []=⟨vc,fr',own',cf'⟩)(k:CfS prog GB C n Q0 fr' own' cf')
  (hv:aaj vc:=by first|exact trivial|(simp only[aaj];kernel_rfl)|(simp only[aaj];omega)):CfS prog GB C n Q0 fr own cf:=by
 unfold cuA at h
 split at h<;>try (cases h;done)
 rename_i hh
 split at h<;>try (cases h;done)
 rename_i k0 _ _ _ k1 _ _ _ j p0 hT hT' hx
 cases hk:kq k0 j with
 |false=>rw[hk] at h;cases h
 |true=>
  rw[hk,cond_true] at h;cases h;cases av6 hk
  have:=akF (abM _ _ hT) rfl
  have:=akF (abM _ _ hT') rfl
  subst e
  refine us hh (.x1 hx fun ρ G ov a w y _ r h1 h2=>?_) hgo hv k
  rw[aaw] at h2;subst h2
  exact⟨_,aaw.2 rfl,alk h1⟩
def nuA(fr:FrX)(cf:Cf):Option (Int×IntKind):=match opC fr cf with
 |some ⟨_, .unOp .neg _ x,_,_,_,_⟩=>match evX (lkC fr cf) x with
  |some (.d (.v (.int j p)))=>some (p,j)
  |_=>none
 |_=>none
theorem nu[fu:Fu]{p:Int}{k':IntKind}(u:Int)(h:nuA fr cf=some (p,k'))(e:k'.wrap (0-p)=u)(hgo:goA tt n fu.n fr own cf (.d (.v (.int k' u))) [] []=⟨vc,fr',own',cf'⟩)(k:CfS prog GB C n Q0 fr' own' cf')
  (hv:aaj vc:=by first|exact trivial|(simp only[aaj];kernel_rfl)|(simp only[aaj];omega)):CfS prog GB C n Q0 fr own cf:=by
 unfold nuA at h
 split at h<;>try (cases h;done)
 rename_i hh
 split at h<;>cases h
 rename_i hx
 subst e
 exact us hh (.x1 hx fun ρ G ov a w y _ r h1 h2=>by
  rw[aaw] at h2;subst h2
  exact⟨_,aaw.2 rfl,as2 h1⟩) hgo hv k
end
theorem atZ{x:Nat}:bl x=0↔x=0:=by
 have:= @ahx x 0
 simp at this;omega
theorem ahM{a:Nat}:0<(dg a).length↔0<a:=by
 have:= @acC a
 omega
def eS(neg:Bool)(a:Nat):DV:= .ag [.v (.bool neg),dN a]
theorem aqX(neg:Bool)(a:Nat):eI (zv neg a)= .ag [.v (.bool (neg&&decide (0<a))),dN a]:=by unfold eI;rw[af2,amS]
theorem aAM{n:Bool}{u:Nat}{b:Int}(h:n≠decide (b<0))(hle:b.natAbs≤u):zv n (u-b.natAbs)=zv n u+b:=by cases n<;>simp[zv] at* <;>omega
theorem aAh{n:Bool}{u:Nat}{b:Int}(h:n≠decide (b<0))(hle:u≤b.natAbs):zv (decide (b<0)) (b.natAbs-u)=zv n u+b:=by cases n<;>simp[zv] at* <;>(try rw[if_pos h])<;>(try rw[if_neg (by omega)])<;>omega
theorem amN{neg:Bool}{ds:List Nat}(hd:DOk ds)(hl:ds.length≤1125899906842624):PF GB prog 221 [.ag [.v (.bool neg),dLi ds]] (vB (decide (Nrm ds∧(neg=true→0<ds.length)))):=by
 refine fn func221 J J ntmps221 J J (fun C=>?_)
 refine cl rfl (axu hd hl) rfl<|?_
 refine csd 6 J J J (fun hg6=>?_) (fun hg6=>?_)
 ·
  refine csb 10 J J J (fun hg10=>?_) (fun hg10=>?_)
  ·
   exact rz rfl (by unfold vB;congr 2;simp_all [aku])
  ·
   exact rz rfl (by unfold vB;congr 2;simp_all [aku])
 ·
  exact rz rfl (by unfold vB;congr 2;simp_all [aku])
theorem avJ{n:Bool}{a i:Nat}[h:BN a i](hi:i≤1000000000:=by decide):PF GB prog 198 [eS n a] (vI (zv n a).sign):=by
 refine fn func198 J J ntmps198 J J (fun C=>?_)
 refine cl rfl (ajL (a:=a) hi) rfl<|?_
 refine br J J J (fun hc3=>?_) (fun hc3=>?_)
 ·
  exact rz rfl (by have:=atZ.1 (Int.ofNat.inj hc3);subst this;cases n<;>rfl)
 ·
  refine bb J J J (fun hc8=>?_) (fun hc8=>?_)
  ·
   exact rz rfl (by subst hc8;rw[dT (by have:a≠0:=(fun e=>hc3 (by rw[e];rfl));simp[zv];omega)];rfl)
  ·
   exact rz rfl (by subst hc8;rw[dS (by have:a≠0:=(fun e=>hc3 (by rw[e];rfl));simp[zv];omega)];rfl)
theorem aju{m:Int}(h0: -9223372036854775808≤m)(h1:m≤9223372036854775807):PF GB prog 163 [vI m] (eI m):=by
 refine fn (fu:=⟨8⟩) func163 J J ntmps163 J J (fun C=>?_)
 refine cu ((m%18446744073709551616:Int)) rfl (ab6 _) rfl<|?_
 refine br (fu1:=⟨2⟩) (fu2:=⟨0⟩) J J J (fun hc7=>?_) (fun hc7=>?_)
 ·
  refine nu ((m.natAbs:Nat)) rfl (by rw[ab6];omega) rfl<|cl rfl (ahq (a:=m.natAbs) (by omega)) rfl<|?_
  exact rz J J
 ·
  refine eqF 3 (.d (.v (.int .u64 (m.natAbs:Nat)))) rfl (by congr 3;omega) ?_
  refine gx rfl<|cl rfl (ahq (a:=m.natAbs) (by omega)) rfl<|?_
  exact rz J J
theorem at4{n:Bool}{a:Nat}(h:a<4611686018427387904):PF GB prog 203 [eS n a] (.tp [vI (zv n a),vB true]):=by
 refine fn func203 J J ntmps203 J J (fun C=>?_)
 refine cl (fu:=⟨2⟩) rfl (avK (a:=a) (by omega)) rfl<|knT J J J<|?_
 refine csb 18 J J J (fun hg18=>?_) (fun hg18=>?_)
 ·
  refine br (fu1:=⟨3⟩) J J J (fun hc12=>?_) (fun hc12=>?_)
  ·
   refine nu (fu:=⟨0⟩) (((18446744073709551616-a)%18446744073709551616:Int)) rfl (by rw[ab6];omega) rfl<|cu (zv n a) rfl (by subst hg18;rw[alN];simp only[zv,if_true];omega) rfl<|?_
   exact rz J J
  ·
   exact absurd (by omega) hc12
 ·
  refine csb 32 J J J (fun hg32=>?_) (fun hg32=>?_)
  ·
   refine br J J J (fun hc25=>?_) (fun hc25=>?_)
   ·
    exact rz rfl (by subst hg18;rfl)
   ·
    exact absurd (by omega) hc25
  ·
   subst hg18;cases hg32
theorem ahD{neg:Bool}{a i:Nat}[h:BN a i](hi:i≤1000000000:=by decide):PF GB prog 162 [eS neg a] (eI (zv neg a)):=by
 refine fn func162 J J ntmps162 J J (fun C=>?_)
 refine cl rfl (akP hi) rfl<|?_
 refine csb 9 J J J (fun hg9=>?_) (fun hg9=>?_)
 ·
  exact rz rfl (by rw[aqX];simp[hg9,ahM,aku])
 ·
  exact rz rfl (by rw[aqX];simp[hg9,ahM,aku])
theorem ais{neg:Bool}{a:Nat}:PF GB prog 215 [.v (.bool neg),dN a] (eI (zv neg a)):=by
 refine fn func215 J J ntmps215 J J (fun C=>?_)
 refine csb 6 J J J (fun hg6=>?_) (fun hg6=>?_)
 ·
  exact rz rfl (by rw[aqX];simp[hg6,ahM,aku])
 ·
  exact rz rfl (by rw[aqX];simp[hg6,ahM,aku])
theorem aDZ{m:Int}{i:Nat}[h:BI m i](hi:i≤1000000000:=by decide):PF GB prog 249 [eI m] (eI (-m)):=by
 refine fn func249 J J ntmps249 J J (fun C=>?_)
 refine cl rfl (ahD (neg:=!decide (m<0)) (a:=m.natAbs) hi) rfl<|?_
 exact rz rfl (by rw[aCW,adw];rfl)
theorem avt{a b:Int}{i j:Nat}[h:BI a i][k:BI b j](hi:i≤1000000000:=by decide)(hj:j≤1000000000:=by decide):PF GB prog 160 [eI a,eI b] (eI (a*b)):=by
 refine fn func160 J J ntmps160 J J (fun C=>?_)
 refine cl rfl (arD (a:=a.natAbs) (b:=b.natAbs) hi hj) rfl<|cl rfl ais rfl<|?_
 exact rz rfl (by rw[show(!(decide (a<0)==decide (b<0)))=(decide (a<0) !=decide (b<0)) from rfl,azL,adw,adw];rfl)
theorem aCe{n1:Bool}{u:Nat}{b:Int}{i j:Nat}[h:BN u i][k:BI b j](hi:i≤1000000000:=by decide)(hj:j≤1000000000:=by decide):PF GB prog 159 [eS n1 u,eI b] (eI (zv n1 u+b)):=by
 refine fn func159 J J ntmps159 J J (fun C=>?_)
 refine bb J J J (fun hc13=>?_) (fun hc13=>?_)
 ·
  refine cl rfl (aGT (b:=b.natAbs) hi hj) rfl<|cl rfl ais rfl<|?_
  exact rz rfl (by rw[aoS,show n1=decide (b<0) from by simpa using hc13,adw];rfl)
 ·
  refine cl rfl (aDo (b:=b.natAbs) hi hj) rfl<|?_
  refine bd J J J (fun hc30=>?_) (fun hc30=>?_)
  ·
   refine cl rfl ais rfl<|?_
   exact rz rfl (by rw[aAM (by simpa using hc13) hc30];rfl)
  ·
   refine cl rfl (aDo (a:=b.natAbs) hj hi) rfl<|cl rfl ais rfl<|?_
   exact rz rfl (by rw[aAh (by simpa using hc13) (by omega)];rfl)
theorem aEj{a b:Int}{i j:Nat}[h:BI a i][k:BI b j](hi:i≤1000000000:=by decide)(hj:j≤1000000000:=by decide):PF GB prog 159 [eI a,eI b] (eI (a+b)):=(aCe (n1:=decide (a<0)) (u:=a.natAbs) hi hj).to (by rw[adw])
def Big(q:Rat):Prop:= ¬(q.num.natAbs<4611686018427387904∧q.den<4611686018427387904)
instance (q:Rat):Decidable (Big q):=inferInstanceAs (Decidable (¬_))
def fn_(q:Rat):Int:=if Big q then 0 else q.num
def fd_(q:Rat):Int:=if Big q then 0 else(q.den:Int)-1
def fp_(q:Rat):DV:= .op (decide (Big q)) [.v (.bool (decide (q.num<0))),dN q.num.natAbs,dN q.den]
def eF(q:Rat):DV:= .ag [vI (fn_ q),vI (fd_ q),fp_ q]
abbrev bgT {q:Rat} (h:decide (Big q)=true):Big q:=of_decide_eq_true h
abbrev bgF {q:Rat} (h:decide (Big q)=false): ¬Big q:=of_decide_eq_false h
abbrev aIo {q:Rat} (h: ¬decide (Big q)=false):Big q:=by simpa using h
abbrev arv {q:Rat} (h: ¬decide (Big q)=true): ¬Big q:=by simpa using h
theorem ap6{q:Rat}(h: ¬Big q):fn_ q=q.num:=if_neg h
theorem ar5{q:Rat}(h: ¬Big q):fd_ q=(q.den:Int)-1:=if_neg h
theorem adH{q:Rat}(h: ¬Big q):q.num.natAbs<4611686018427387904:=(Decidable.not_not.1 h).1
theorem adN{q:Rat}(h: ¬Big q):q.den<4611686018427387904:=(Decidable.not_not.1 h).2
theorem asZ{q:Rat}(h:Big q):q≠0:=fun e=>by subst e;exact h ⟨by decide,by decide⟩
theorem awt{q:Rat}{m d:Int}{r:DV}(h: ¬Big q)(h1:q.num=m)(h2:(q.den:Int)-1=d)(e:r= .ag [vI m,vI d, .v (.pointer none)])(G:Gh)(y:Value)(k:Is G r y):Is G (eF q) y:=by
 subst e h1 h2
 obtain⟨l,rfl,g⟩:=abX.1 k
 obtain⟨y1,l1,rfl,k1,g1⟩:=aae.1 g
 obtain⟨y2,l2,rfl,k2,g2⟩:=aae.1 g1
 obtain⟨y3,l3,rfl,k3,g3⟩:=aae.1 g2
 exact abX.2 ⟨_,rfl, .cons (by rw[ap6 h];exact k1) (.cons (by rw[ar5 h];exact k2) (.cons (aoT.2 (.inl ⟨decide_eq_false h,aa4.1 k3⟩)) g3))⟩
theorem aHh{q:Rat}{n:Bool}{a d:Nat}{r:DV}(h:Big q)(h1:decide (q.num<0)=n)(h2:q.num.natAbs=a)(h3:q.den=d)(e:r= .ag [vI 0,vI 0, .pt [.v (.bool n),dN a,dN d]])(G:Gh)(y:Value)(k:Is G r y):Is G (eF q) y:=by
 subst e h1 h2 h3
 obtain⟨l,rfl,g⟩:=abX.1 k
 obtain⟨y1,l1,rfl,k1,g1⟩:=aae.1 g
 obtain⟨y2,l2,rfl,k2,g2⟩:=aae.1 g1
 obtain⟨y3,l3,rfl,k3,g3⟩:=aae.1 g2
 exact abX.2 ⟨_,rfl, .cons (by unfold fn_;rw[if_pos h];exact k1) (.cons (by unfold fd_;rw[if_pos h];exact k2) (.cons (aoT.2 (.inr ⟨decide_eq_true h,k3⟩)) g3))⟩
theorem aDU(G:Gh)(y:Value)(k:Is G (.ag [vI 0,vI 0, .v (.pointer none)]) y):Is G (eF 0) y:=awt (fun h=>asZ h rfl) J J J G y k
theorem aHt{m:Int}(h:m.natAbs<4611686018427387904)(G:Gh)(y:Value)(k:Is G (.ag [vI m,vI 0, .v (.pointer none)]) y):Is G (eF (m:Rat)) y:=
 awt (fun k=>k ⟨by simpa using h,by rw[qT];decide⟩) (qU m) (by rw[qT];rfl) rfl G y k
theorem azt{n:Bool}{a d:Nat}(hd:0<d):(mkRat (zv n a) d).num=zv n (a/Nat.gcd a d)∧(mkRat (zv n a) d).den=d/Nat.gcd a d:=by
 obtain⟨h1,h2⟩:=aub (m:=zv n a) hd
 rw[af2] at h1 h2
 exact⟨by rw[h1,aDt (mT _ _)],h2⟩
theorem aCF{n:Bool}{a d a' d':Nat}(hd:0<d)(ha:a'=a/Nat.gcd a d)(hd':d'=d/Nat.gcd a d)(h1:a'<4611686018427387904)(h2:d'<4611686018427387904)(G:Gh)(y:Value)(k:Is G (.ag [vI (zv n a'),vI ((d':Int)-1), .v (.pointer none)]) y):Is G (eF (mkRat (zv n a) d)) y:=by
 obtain⟨e1,e2⟩:=azt (n:=n) (a:=a) hd
 rw[←ha] at e1;rw[←hd'] at e2
 exact awt (fun k=>k ⟨by rw[e1,af2];exact h1,by rw[e2];exact h2⟩) e1 (by rw[e2]) rfl G y k
theorem axz{n:Bool}{a d a' d':Nat}(hd:0<d)(ha:a'=a/Nat.gcd a d)(hd':d'=d/Nat.gcd a d)(h: ¬(a'<4611686018427387904∧d'<4611686018427387904))(G:Gh)(y:Value)(k:Is G (.ag [vI 0,vI 0, .pt [.v (.bool (decide (zv n a'<0))),dN (zv n a').natAbs,dN d']]) y):Is G (eF (mkRat (zv n a) d)) y:=by
 obtain⟨e1,e2⟩:=azt (n:=n) (a:=a) hd
 rw[←ha] at e1;rw[←hd'] at e2
 exact aHh (fun k=>h ⟨by rw[e1,af2] at k;exact k.1,by rw[e2] at k;exact k.2⟩) (by rw[e1]) (by rw[e1]) e2 rfl G y k
theorem aIm{a d:Nat}(hd:0<d)(h: ¬(1:Int)<(bl (Nat.gcd a d):Nat)):Nat.gcd a d=1:=by
 have h1:Nat.gcd a d≠0:=fun e=>by rw[Nat.gcd_eq_zero_iff] at e;omega
 have h2:Nat.gcd a d<2^1:=ahx.1 (by omega)
 omega
theorem ard{x:Nat}:(((bl x:Nat):Int)≤62)↔x<4611686018427387904:=aAJ
theorem PF.ofI{P:Program}{f:FuncId}{ds ds':List DV}{r:DV}(h:PF GB P f ds r)(k: ∀G vs,IsLs G ds' vs→IsLs G ds vs):PF GB P f ds' r:=fun G vs hg hv=>h G vs hg (k G vs hv)
theorem ad0{n:Bool}{a d i j:Nat}[h:BN a i][k:BN d j](hi:i≤450000000:=by decide)(hj:j≤450000000:=by decide):PF GB prog 149 [eS n a,dN d] (eF (mkRat (zv n a) d)):=by
 refine fn func149 J J ntmps149 J J (fun C=>?_)
 refine cl rfl (ajL (a:=d) (by omega)) rfl<|?_
 refine cs 13 J J J (fun hg13=>?_) (fun hg13=>?_)
 ·
  exact rzI rfl (by obtain rfl:=atZ.1 (Int.ofNat.inj hg13);rw[Rat.mkRat_zero];exact aDU)
 ·
  have hd0:0<d:=by have:= @atZ d;omega
  have hg0:0<Nat.gcd a d:=nN _ hd0
  refine cl rfl (avJ (n:=n) (a:=a) (by omega)) rfl<|?_
  refine br J J J (fun hc17=>?_) (fun hc17=>?_)
  ·
   exact rzI rfl (by rw[iM.1 hc17,Rat.zero_mkRat];exact aDU)
  ·
   refine cl rfl (aDk (a:=a) (b:=d) (by omega) (by omega)) rfl<|cl rfl (ajL (a:=Nat.gcd a d) (i:=i+j) (by omega)) rfl<|?_
   refine br J J J (fun hc25=>?_) (fun hc25=>?_)
   ·
    obtain⟨a',ea⟩: ∃a',a'=a/Nat.gcd a d:=⟨_,rfl⟩
    obtain⟨d',ed⟩: ∃d',d'=d/Nat.gcd a d:=⟨_,rfl⟩
    have hba:BN a' i:=ea▸inferInstance
    have hbd:BN d' j:=ed▸inferInstance
    refine cl (fu:=⟨2⟩) rfl (aqG (a:=a) (b:=Nat.gcd a d) (j:=i+j) hg0 (by omega) (by omega)) rfl<|?_
    refine eqF 31 (.d (dN a')) rfl (by rw[ea]) ?_
    refine gx rfl<|cl (fu:=⟨2⟩) rfl (aqG (a:=d) (b:=Nat.gcd a d) (j:=i+j) hg0 (by omega) (by omega)) rfl<|?_
    refine eqF 39 (.d (dN d')) rfl (by rw[ed]) ?_
    refine gx rfl<|cl rfl (ajL (h:=hba) (by omega)) rfl<|?_
    refine cs 46 J J J (fun hg46=>?_) (fun hg46=>?_)
    ·
     refine cl rfl (ajL (h:=hbd) (by omega)) rfl<|?_
     refine br J J J (fun hc50=>?_) (fun hc50=>?_)
     ·
      have hs2:=ard.1 hc50
      refine cl rfl (at4 (ard.1 hg46)) rfl<|cl rfl (avK (by have:=ard.1 hc50;omega)) rfl<|?_
      exact rzI rfl (aCF hd0 ea ed (ard.1 hg46) (ard.1 hc50))
     ·
      refine cl rfl (ahD (neg:=n) (h:=hba) (by omega)) rfl<|cl rfl (akP (h:=hbd) (by omega)) rfl<|fz 71 J J<|?_
      exact rzI rfl (axz hd0 ea ed (fun e=>hc50 (ard.2 e.2)))
    ·
     refine cl rfl (ahD (neg:=n) (h:=hba) (by omega)) rfl<|cl rfl (akP (h:=hbd) (by omega)) rfl<|fz 71 J J<|?_
     exact rzI rfl (axz hd0 ea ed (fun e=>hg46 (ard.2 e.1)))
   ·
    have hg1:=aIm hd0 hc25
    have ea:a=a/Nat.gcd a d:=by rw[hg1,sN]
    have ed:d=d/Nat.gcd a d:=by rw[hg1,sN]
    have hba:=h
    have hbd:=k
    refine cl rfl (ajL (h:=hba) (by omega)) rfl<|?_
    refine cs 46 J J J (fun hg46=>?_) (fun hg46=>?_)
    ·
     refine cl rfl (ajL (h:=hbd) (by omega)) rfl<|?_
     refine br J J J (fun hc50=>?_) (fun hc50=>?_)
     ·
      have hs2:=ard.1 hc50
      refine cl rfl (at4 (ard.1 hg46)) rfl<|cl rfl (avK (by have:=ard.1 hc50;omega)) rfl<|?_
      exact rzI rfl (aCF hd0 ea ed (ard.1 hg46) (ard.1 hc50))
     ·
      refine cl rfl (ahD (neg:=n) (h:=hba) (by omega)) rfl<|cl rfl (akP (h:=hbd) (by omega)) rfl<|fz 71 J J<|?_
      exact rzI rfl (axz hd0 ea ed (fun e=>hc50 (ard.2 e.2)))
    ·
     refine cl rfl (ahD (neg:=n) (h:=hba) (by omega)) rfl<|cl rfl (akP (h:=hbd) (by omega)) rfl<|fz 71 J J<|?_
     exact rzI rfl (axz hd0 ea ed (fun e=>hg46 (ard.2 e.1)))
theorem aeS{m:Int}{i:Nat}[h:BI m i](hi:i≤400000000:=by decide):PF GB prog 222 [eI m] (eF (m:Rat)):=by
 refine fn func222 J J ntmps222 J J (fun C=>?_)
 refine rf (fu:=⟨0⟩) J J<|?_
 refine eqF 4 (.d (dN 1)) rfl (by unfold dN;rw[an7];rfl) ?_
 refine gx rfl<|cl rfl (ad0 (n:=decide (m<0)) (a:=m.natAbs) (d:=1) (by omega)) rfl<|?_
 exact rz rfl (by rw[adw,show mkRat m 1=(m:Rat) from rN ..];rfl)
theorem aje{q:Rat}:PF GB prog 199 [eF q] (vB (decide (q=0))):=by
 refine fn func199 J J ntmps199 J J (fun C=>?_)
 refine cs 6 J J J (fun hg6=>?_) (fun hg6=>?_)
 ·
  exact rz rfl (by rw[ap6 (bgF hg6)];show DV.v (.bool (decide _))= .v (.bool _);congr 2;exact decide_eq_decide.2 ⟨fun e=>lN.1 e,fun e=>by rw[e];rfl⟩)
 ·
  exact rz rfl (by rw[decide_eq_false (asZ (aIo hg6))];rfl)
theorem atU{m:Int}(h:m.natAbs<9223372036854775808):PF GB prog 213 [vI m] (.v (.int .u64 (m.natAbs:Nat))):=by
 refine fn func213 J J ntmps213 J J (fun C=>?_)
 refine br J J J (fun hc4=>?_) (fun hc4=>?_)
 ·
  exact rz rfl (by show DV.v (.int _ _)=_;congr 2;omega)
 ·
  exact rz rfl (by show DV.v (.int _ _)=_;congr 2;omega)
theorem aj0{q:Rat}{i:Nat}[h:BQ q i](hi:i≤900000000:=by decide):PF GB prog 101 [eF q] (dN q.den):=by
 refine fn func101 J J ntmps101 J J (fun C=>?_)
 refine br (v1:=fun hc5=>by simp only[aaj];exact hc5) (fu2:=⟨6⟩) J J J (fun hc5=>?_) (fun hc5=>?_)
 ·
  refine cl rfl (akP (a:=q.den) (by omega)) rfl<|?_
  exact rz J J
 ·
  have hd:=q.den_nz
  have hs:=adN (arv hc5)
  refine eqF 13 (.d (vI ((q.den:Int)-1))) rfl (by rw[ar5 (arv hc5)]) ?_
  refine gx (fu:=⟨2⟩) rfl<|?_
  refine eqF 15 (.d (.v (.int .u64 (q.den:Nat)))) rfl (by congr 3;omega) ?_
  refine gx rfl<|cl rfl (ahq (a:=q.den) (by omega)) rfl<|?_
  exact rz J J
theorem aov{q:Rat}{i:Nat}[h:BQ q i](hi:i≤900000000:=by decide):PF GB prog 100 [eF q] (eI q.num):=by
 refine fn func100 J J ntmps100 J J (fun C=>?_)
 refine br (v1:=fun hc5=>by simp only[aaj];exact hc5) (fu2:=⟨6⟩) J J J (fun hc5=>?_) (fun hc5=>?_)
 ·
  refine cl rfl (ahD (neg:=decide (q.num<0)) (a:=q.num.natAbs) (by omega)) rfl<|?_
  exact rz rfl (by rw[adw];rfl)
 ·
  have hs:=adH (arv hc5)
  refine eqF 13 (.d (vI q.num)) rfl (by rw[ap6 (arv hc5)]) ?_
  refine gx rfl<|cl rfl (aju (by omega) (by omega)) rfl<|?_
  exact rz J J
theorem afw{q:Rat}{i:Nat}[h:BQ q i](hi:i≤900000000:=by decide):PF GB prog 196 [eF q] (eF (-q)):=by
 refine fn func196 J J ntmps196 J J (fun C=>?_)
 refine br (v1:=fun hc5=>by simp only[aaj];exact hc5) (fu2:=⟨6⟩) J J J (fun hc5=>?_) (fun hc5=>?_)
 ·
  refine cl (fu:=⟨6⟩) (hv:=by simp only[aaj];exact hc5) rfl (aDZ (m:=q.num) (by omega)) rfl<|bxf J J<|?_
  exact rzI rfl (aHh (q:= -q) (fun k=>bgT hc5 (by rw[mK,jX,pW] at k;exact k)) (by rw[mK]) (by rw[mK]) (pW q) rfl)
 ·
  have hs:=adH (arv hc5)
  refine eqF 21 (.d (vI q.num)) rfl (by rw[ap6 (arv hc5)]) ?_
  refine gx rfl<|?_
  exact rzI rfl (awt (q:= -q) (fun k=>k (by rw[mK,jX,pW];exact⟨hs,adN (arv hc5)⟩)) (by rw[mK]) (by rw[pW,ar5 (arv hc5)]) rfl)
theorem acY{q:Rat}{i:Nat}[h:BQ q i](hi:i≤900000000:=by decide):PF GB prog 145 [eF q] (vI q.num.sign):=by
 refine fn func145 J J ntmps145 J J (fun C=>?_)
 refine br (v1:=fun hc3=>by simp only[aaj];exact hc3) J J J (fun hc3=>?_) (fun hc3=>?_)
 ·
  refine cl rfl (avJ (n:=decide (q.num<0)) (a:=q.num.natAbs) (by omega)) rfl<|?_
  exact rz rfl (by rw[adw];rfl)
 ·
  have hs:=ap6 (arv hc3)
  refine br J J J (fun hc13=>?_) (fun hc13=>?_)
  ·
   exact rz rfl (by rw[dT (by omega)];rfl)
  ·
   refine br J J J (fun hc17=>?_) (fun hc17=>?_)
   ·
    exact rz rfl (by rw[dS (by omega)];rfl)
   ·
    exact rz rfl (by rw[show q.num=0 by omega];rfl)
theorem az8{h l y:Nat}(hh:h<y)(hl:l<4294967296)(hy:y<4294967296):PF GB prog 173 [.v (.int .u32 (h:Int)), .v (.int .u32 (l:Int)), .v (.int .u32 (y:Int))] (.tp [dU ((h*4294967296+l)/y),dU ((h*4294967296+l)%y)]):=by
 refine fn (fu:=⟨11⟩) func173 J J ntmps173 J J (fun C=>?_)
 refine kT 10 rfl (by omega) ?_
 refine gx (fu:=⟨4⟩) rfl<|?_
 refine kF 14 rfl (by omega) ?_
 refine gx (fu:=⟨11⟩) (hv:=by simp only[aaj];exact⟨by omega,(by decide)⟩) rfl<|?_
 refine eqF 19 (.d (.v (.int .u64 (h*2^32:Nat)))) rfl (by show FX.d (.v (.int _ _))= .d (.v (.int _ _));rw[aeg _ 32 (by decide) (by show _*4294967296<_;omega) rfl]) ?_
 refine gx (fu:=⟨3⟩) rfl<|?_
 refine eqF 22 (.d (.v (.int .u64 (l+h*2^32:Nat)))) rfl (congrArg (fun z:Nat=>FX.d (.v (.int .u64 (z:Int)))) (by rw[BitVec.or_comm];exact arM 64 l h 32 hl (by show _+_*4294967296<18446744073709551616;omega))) ?_
 obtain⟨t,ht⟩: ∃t,t=h*4294967296+l:=⟨_,rfl⟩
 have hq:t/y<4294967296:=by rw[jN (by omega)];have:=eY 4294967296 (show h+1≤y from hh);omega
 have hr:t%y<y:=cY _ (by omega)
 refine eqF 22 (.d (.v (.int .u64 (t:Nat)))) rfl (by show FX.d (.v (.int _ _))= .d (.v (.int _ _));congr 3;rw[ht];omega) ?_
 refine gx (hv:=by simp only[aaj];exact⟨⟨⟨⟨by omega,⟨(by omega),(by omega),(by omega)⟩⟩,by omega⟩,⟨(by omega),(by omega)⟩⟩,by kernel_rfl⟩) rfl<|?_
 exact rz rfl (by show DV.tp [.v (.int _ _), .v (.int _ _)]= .tp [.v (.int _ _), .v (.int _ _)];rw[←ht,←pS,←oJ];generalize t/y=q at*;generalize t%y=r at*;congr 4<;>(first|omega|(congr 3;omega)))
theorem aAc{A r i b:Nat}(d:Nat)(hb:0<b):(A*4294967296+d)/b=A/b*4294967296+(A%b*4294967296+d)/b∧(A*4294967296+d)%b=(A%b*4294967296+d)%b:=by
 have h:=qY A b
 have e:A*4294967296+d=(A%b*4294967296+d)+b*(A/b*4294967296):=by
  rw[←bN,Nat.add_right_comm,←cS,kZ (A%b),h]
 rw[e,lS _ _ hb,nJ]
 exact⟨kZ _ _,rfl⟩
theorem aqw{ds:List Nat}{i:Nat}(h:i<ds.length):dv (ds.drop i)=dv (ds.drop (i+1))*4294967296+ds.getD i 0:=by
 rw[bQ h,aX,aQ h]
 simp only[dv,lV];omega
theorem ah8{W:List Nat}{i q:Nat}(h:i<W.length):dv ((W.set i q).drop i)=dv (W.drop (i+1))*4294967296+q:=by
 rw[aqw (by rw[aN];exact h),qZ (by omega),aiN h]
theorem avI{a b k:Nat}{W:List Nat}(hb:0<b)(hk:k<(dg a).length)(hl:W.length=(dg a).length)(h:dv (W.drop (k+1))=dv ((dg a).drop (k+1))/b):
  dv ((W.set k ((dv ((dg a).drop (k+1))%b*4294967296+(dg a).getD k 0)/b)).drop k)=dv ((dg a).drop k)/b∧dv ((dg a).drop k)%b=(dv ((dg a).drop (k+1))%b*4294967296+(dg a).getD k 0)%b:=by
 have:=aAc (A:=dv ((dg a).drop (k+1))) (r:=0) (i:=0) ((dg a).getD k 0) hb
 rw[ah8 (by omega),h,aqw hk,this.1,this.2]
 exact⟨rfl,rfl⟩
theorem afQ{a b:Nat}:ahC a b<0↔a<b:=by unfold ahC;split<;>(try split)<;>omega
theorem agO{a b:Nat}:0<ahC a b↔b<a:=by unfold ahC;split<;>(try split)<;>omega
theorem aCT{x:Nat}(hx:x<4294967296):PF GB prog 231 [dU x] (vI (32-(bl x:Int))):=by
 intro G vs hg hv
 obtain⟨v,m,rfl,h1,h2⟩:=aae.1 hv
 rw[aaJ] at h2;subst h2
 rw[aa4.1 h1]
 exact(aj5 hx).mono fun v G' _ h=>aa4.2 h
theorem amT{a k:Nat}(h:4294967296^k≤a):k<(dg a).length:=by
 have h1:=adl a
 rcases iZ k (dg a).length with q|q
 ·exact q
 ·have:4294967296^(dg a).length≤4294967296^k:=bT (by decide) q
  omega
theorem azj{v L:Nat}(hL:L=(dg v).length)(h1:1≤L):(dg v).getD (L-1) 0=v/4294967296^(L-1)∧0<v/4294967296^(L-1):=by
 have h:=avF (ae9 v) (L-1)
 rw[aea (by omega:(dg v).length≤L-1+1),aaW,pY,dY] at h
 have h2:=adl v
 rw[←hL] at h2
 rw[jJ (show v<4294967296^(L-1+2) from dX h2 (bT (by decide) (by omega))),pY,dY] at h
 have h3:=af3 (aaD v).2.2 (by intro e;rw[e] at hL;simp at hL;omega)
 rw[aaW,←hL] at h3
 exact⟨h.symm,Nat.div_pos h3 (eX (by decide))⟩
theorem aoN{R n:Nat}(h1:1≤n)(h:R<4294967296^(n+1)):R/4294967296^(n-1)=(dg R).getD (n-1) 0+(dg R).getD n 0*4294967296:=by
 have e:=avF (ae9 R) (n-1)
 rw[aaW,show n-1+1=n by omega,jJ (show R<4294967296^(n-1+2) by rwa [show n-1+2=n+1 by omega]),pY,dY,bL] at e
 exact e
theorem awz{R v j L:Nat}(hL:L=(dg v).length)(h1:1≤L)(hR:R<v*4294967296^(j+1)):R/(v*4294967296^j)≤min (R/4294967296^(L+j-1)/(v/4294967296^(L-1))) 4294967295:=by
 have ht:=(azj hL h1).2
 have hp:0<4294967296^j:=eX (by decide)
 have hv0:0<v:=by
  rcases eK v with q|q
  ·subst q;simp at ht
  ·exact q
 have hvp:0<v*4294967296^j:=iL hv0 hp
 refine Nat.le_min.2 ⟨?_,?_⟩
 ·rw[rR ht,rR (eX (by decide))]
  have h3:v/4294967296^(L-1)*4294967296^(L-1)≤v:=Nat.div_mul_le_self _ _
  have h4:R/(v*4294967296^j)*(v*4294967296^j)≤R:=Nat.div_mul_le_self _ _
  rw[show L+j-1=L-1+j by omega,fV]
  calc R/(v*4294967296^j)*(v/4294967296^(L-1))*(4294967296^(L-1)*4294967296^j)
    =R/(v*4294967296^j)*((v/4294967296^(L-1)*4294967296^(L-1))*4294967296^j):=by simp only[bN]
   _≤R/(v*4294967296^j)*(v*4294967296^j):=eY _ (bW _ h3)
   _≤R:=h4
 ·have:R/(v*4294967296^j)<4294967296:=by
   rw[jN hvp]
   rw[fZ] at hR
   rwa [bL,bN]
  omega
theorem afU{R V g:Nat}(hV:0<V)(h:R<V*g):R/V<g:=by
 rw[jN hV,bL];exact h
theorem aws{R V g:Nat}(hV:0<V)(h1:R/V≤g)(h2:V*g≤R):g=R/V:=by
 have:g≤R/V:=by rw[rR hV,bL];exact h2
 omega
theorem ap9{R0 R v j g:Nat}{W:List Nat}(hj:j<W.length)(h:R0=R+dv (W.drop (j+1))*4294967296^(j+1)*v)(hv:0<v*4294967296^j)(hg:g=R/(v*4294967296^j)):
  R0=(R-v*4294967296^j*g)+dv ((W.set j g).drop j)*4294967296^j*v∧R-v*4294967296^j*g<v*4294967296^j:=by
 have h1:=qY R (v*4294967296^j)
 have h2:=cY R hv
 rw[←hg] at h1
 refine⟨?_,by omega⟩
 rw[ah8 hj,cS,cS,h,fZ]
 have e:g*4294967296^j*v=v*4294967296^j*g:=by simp only[bN,kM,bL]
 have e2:dv (W.drop (j+1))*(4294967296^j*4294967296)*v=dv (W.drop (j+1))*4294967296*4294967296^j*v:=by simp only[bN,kM,bL]
 rw[e,e2]
 omega
theorem awb{a b s R:Nat}{D:Nat}(hR:R<b*2^s)(h:a*2^s=R+D*(b*2^s)):D=a/b∧R/2^s=a%b:=by
 have hp:0<2^s:=eX (by decide)
 have hb:0<b:=by
  rcases eK b with q|q
  ·subst q;simp at hR
  ·exact q
 have h1:a=R/2^s+D*b:=by
  have:=congrArg (· /2^s) h
  rw[Nat.mul_div_cancel _ hp,←bN,Nat.add_mul_div_right _ _ hp] at this
  exact this
 have h2:R/2^s<b:=by rw[jN hp];exact hR
 have h3:R/2^s+b*D=a:=by rw[bL b];exact h1.symm
 have:=(Nat.div_mod_unique hb).2 ⟨h3,h2⟩
 exact⟨this.1.symm,this.2.symm⟩
theorem arq{a b s:Nat}(hl:(dg b).length≤(dg a).length)(h2:1≤(dg b).length):a*2^s<b*2^s*4294967296^((dg a).length-(dg b).length+1):=by
 have h1:=adl a
 have h3:=af3 (aaD b).2.2 (by intro e;rw[e] at h2;simp at h2)
 rw[aaW] at h3
 have h4:4294967296^(dg a).length≤b*4294967296^((dg a).length-(dg b).length+1):=by
  rw[show(dg a).length=((dg b).length-1)+((dg a).length-(dg b).length+1) by omega,fV]
  rw[show(dg b).length-1+((dg a).length-(dg b).length+1)-(dg b).length+1=(dg a).length-(dg b).length+1 by omega]
  exact bW _ h3
 rw[qM]
 exact kR (dX h1 h4) (eX (by decide))
theorem ayx(x j:Nat):x*2^(32*j)=x*4294967296^j:=by rw[pV]
theorem azM{R L j:Nat}(h:R<4294967296^(L+j+1))(h1:1≤L):R/4294967296^(L+j-1)<18446744073709551616:=by
 rw[jN (eX (by decide)),show(18446744073709551616:Nat)=4294967296^2 from rfl,←fV]
 rwa [show 2+(L+j-1)=L+j+1 by omega]
theorem awh{R v j L:Nat}(hL:L=(dg v).length)(hR:R<v*4294967296^(j+1)):R<4294967296^(L+j+1):=by
 have h:=adl v
 rw[←hL] at h
 rw[jU,fV]
 exact dX hR (bW _ (oR h))
theorem aE6{a b ia ib:Nat}[ha:BN a ia][hb:BN b ib](hi:ia≤500000000)(hj:ib≤500000000)(h2:1≤(dg b).length)(hl:(dg b).length≤(dg a).length):PF GB prog 174 [dN a,dN b] (.tp [dN (a/b),dN (a%b)]):=by
 have hla:=aaB (dg a)
 have hlb:=aaB (dg b)
 have hba:=aa8 ha.h
 have hba':(dg a).length≤20000000:=by omega
 refine fn func174 J J ntmps174 J J (fun C=>?_)
 refine ix _ rfl (aaA (k:=(dg b).length-1) (by omega) (by omega)) rfl<|cl (fu:=⟨0⟩) rfl (aCT (adr b ((dg b).length-1))) rfl<|?_
 obtain⟨s,hs⟩: ∃s:Nat,s=32-bl ((dg b).getD ((dg b).length-1) 0):=⟨_,rfl⟩
 have hs32:s≤32:=by omega
 refine eqF 22 (.d (vI (s:Nat))) rfl (by show FX.d (.v (.int _ _))= .d (.v (.int _ _));congr 3;have:=ahx.2 (show(dg b).getD ((dg b).length-1) 0<2^32 from adr b _);omega) ?_
 refine gx rfl<|cl rfl (aqH (a:=b) (k:=s) (ia:=ib) (by omega) (by omega)) rfl<|cl (fu:=⟨0⟩) rfl (aqH (a:=a) (k:=s) (ia:=ia) (by omega) (by omega)) rfl<|?_
 obtain⟨v,hv⟩: ∃v,v=b*2^s:=⟨_,rfl⟩
 obtain⟨R0,hR0⟩: ∃R0,R0=a*2^s:=⟨_,rfl⟩
 refine eqF 25 (.d (dN v)) rfl (by rw[hv]) ?_
 refine eqF 28 (.d (dN R0)) rfl (by rw[hR0]) ?_
 obtain⟨L,hL⟩: ∃L,L=(dg v).length:=⟨_,rfl⟩
 have hlv:((dg v).map dU).length=L:=by rw[aaB,hL]
 have hps:2^s≤2^32:=bT (by decide) hs32
 have hpp:0<2^s:=eX (by decide)
 have hst:=arq (a:=a) (b:=b) (s:=s) hl h2
 rw[←hv,←hR0] at hst
 have hvb:v<2^(ib+32):=by rw[hv,fV];exact nZ hb.h hps (by decide)
 have hRb:R0<2^(ia+32):=by rw[hR0,fV];exact nZ ha.h hps (by decide)
 have hbp:0<b:=iJ (fun q=>by subst q;rw[ahW] at h2;simp at h2)
 have hvp:0<v:=hv▸iL hbp hpp
 have hLp:1≤L:=by rw[hL];exact amT (k:=0) (by rw[rJ];exact hvp)
 have htop:=azj hL hLp
 haveI hvB:BN v (ib+32):=⟨hvb⟩
 have hLb:=aa8 hvb
 have hLb':L≤20000000:=by omega
 have htl:=adr v (L-1)
 refine gx (fu:=⟨9⟩) rfl<|?_
 refine eqF 31 (.d (vI (L:Nat))) rfl (by rw[hlv];rfl) ?_
 refine gx rfl<|ix (fu:=⟨2⟩) _ rfl (aaA (k:=L-1) (by omega) (by omega)) rfl<|?_
 refine eqF 35 (.d (.v (.int .u64 (v/4294967296^(L-1):Nat)))) rfl (by rw[htop.1]) ?_
 rw[htop.1] at htl
 refine gx (fu:=⟨11⟩) rfl<|?_
 obtain⟨m,hm⟩: ∃m,m=(dg a).length-(dg b).length+1:=⟨_,rfl⟩
 rw[←hm] at hst
 have hrl:(List.replicate ((m:Nat):Int).toNat (DV.v (.int .u32 0))).length=m:=by rw[aW,bK]
 refine eqF 41 (.d (vI (m:Nat))) rfl (by show FX.d (.v (.int _ _))= .d (.v (.int _ _));congr 3;omega) ?_
 refine gx rfl<|mk ((List.replicate m 0).map dU) J J (by rw[←aeW];rfl) rfl<|?_
 refine lp (X:=List Nat×Nat×Nat) (fun⟨W,R,k⟩=>[(6, .d (vI (s:Nat))),(7, .d (dN v)),(8, .d (dN R)),(9, .d (.v (.int .u64 (v/4294967296^(L-1):Nat)))),(10, .rw 42),(11, .d (vI ((k:Nat)-1)))]) (fun⟨W,R,k⟩=>[(42,some (.b 215 1 (W.map dU) true))]) (fun⟨W,R,k⟩=>W.length=m∧DOk W∧k≤m∧R0=R+dv (W.drop k)*4294967296^k*v∧R<v*4294967296^k∧R≤R0) (fun⟨W,R,k⟩=>k) ⟨List.replicate m 0,R0,m⟩ rfl ⟨by simp, .replicate _,aM _,by simp[dv],hst,aM _⟩ (fun _=>rfl) (fun⟨W,R,k⟩ hk=>?_)
 dsimp only at hk⊢
 obtain⟨h1,h2',h3,h4,h5,h6⟩:=hk
 have hlw:=aaB W
 refine br (fu1:=⟨10⟩) J J J (fun hc47=>?_) (fun hc47=>?_)
 ·
  obtain⟨j,rfl⟩: ∃j,k=j+1:=⟨k-1,by omega⟩
  have hvj:0<v*4294967296^j:=iL hvp (eX (by decide))
  have hge:=awz hL hLp h5
  have hlen:=awh hL h5
  have hlr:((dg R).map dU).length=(dg R).length:=aaB _
  haveI hRB:BN R (ia+32):=⟨by omega⟩
  have hq32:R/(v*4294967296^j)<4294967296:=by omega
  have hz1:=Int.natCast_nonneg (R/4294967296^(L+j-1))
  have hz2:=Int.natCast_nonneg (R/4294967296^(L+j-1)/(v/4294967296^(L-1)))
  refine eqF 11 (.d (vI (j:Nat))) rfl (by show FX.d (.v (.int _ _))= .d (.v (.int _ _));congr 3;omega) ?_
  refine mg (fu:=⟨6⟩) (hv:=fun _ _=>by simp only[aaj];exact⟨(by omega),(by have:=azM hlen hLp;omega),(by omega)⟩) (X:=Unit) (fun _=>[(6, .d (vI (s:Nat))),(7, .d (dN v)),(8, .d (dN R)),(9, .d (.v (.int .u64 (v/4294967296^(L-1):Nat)))),(10, .rw 42),(11, .d (vI (j:Nat))),(12, .d (.v (.int .u64 (R/4294967296^(L+j-1):Nat))))]) (fun _=>[(42,some (.b 215 1 (W.map dU) true))]) (fun _=>True) [6,7,8,9,10,11,12] [42] rfl ?_ (fun _=>rfl) (fun _ hm=>?_)
  ·
   refine gx (fu:=⟨4⟩) rfl<|?_
   refine eqF 51 (.d (vI (L:Nat))) rfl (by rw[hlv];rfl) ?_
   refine gx (fu:=⟨2⟩) rfl<|?_
   refine eqF 53 (.d (vI (L+j:Nat))) rfl (by show FX.d (.v (.int _ _))= .d (.v (.int _ _));congr 3) ?_
   refine gx (fu:=⟨8⟩) rfl<|?_
   refine eqF 56 (.d (vI ((dg R).length:Nat))) rfl (by rw[hlr];rfl) ?_
   refine gx rfl<|?_
   refine br (fu2:=⟨6⟩) J J J (fun hc57=>?_) (fun hc57=>?_)
   ·
    have hd0:=adr R (L+j-1)
    have hd1:=adr R (L+j)
    refine ix (hv:=by simp only[aaj];exact⟨⟨by omega,(by decide)⟩,by omega⟩) _ rfl (aaA (k:=L+j) (by omega) (by omega)) rfl<|ix (fu:=⟨3⟩) _ rfl (aaA (k:=L+j-1) (by omega) (by omega)) rfl<|?_
    refine eqF 70 (.d (.v (.int .u64 ((dg R).getD (L+j-1) 0+(dg R).getD (L+j) 0*4294967296:Nat)))) rfl (congrArg (fun z:Nat=>FX.d (.v (.int .u64 (z:Int)))) (by rw[aeg _ 32 (by decide) (by show _*4294967296<_;omega) rfl,BitVec.or_comm];exact arM 64 ((dg R).getD (L+j-1) 0) ((dg R).getD (L+j) 0) 32 hd0 (by show _+_*4294967296<18446744073709551616;omega))) ?_
    refine gx rfl<|?_
    refine eqF 12 (.d (.v (.int .u64 (R/4294967296^(L+j-1):Nat)))) rfl (by rw[aoN (by omega) hlen]) ?_
    exact at_ () trivial
   ·
    refine eqF 74 (.d (vI ((dg R).length:Nat))) rfl (by rw[hlr];rfl) ?_
    refine gx rfl<|?_
    refine br J J J (fun hc75=>?_) (fun hc75=>?_)
    ·
     have hd0:=adr R (L+j-1)
     refine ix _ rfl (aaA (k:=L+j-1) (by omega) (by omega)) rfl<|?_
     refine eqF 12 (.d (.v (.int .u64 (R/4294967296^(L+j-1):Nat)))) rfl (by rw[aoN (by omega) hlen,aea (by omega:(dg R).length≤L+j),lY,dY]) ?_
     exact at_ () trivial
    ·
     refine eqF 12 (.d (.v (.int .u64 (R/4294967296^(L+j-1):Nat)))) rfl (by rw[aoN (by omega) hlen,aea (by omega:(dg R).length≤L+j),aea (by omega:(dg R).length≤L+j-1)];rfl) ?_
     exact at_ () trivial
  ·
   obtain⟨g0,hg0'⟩: ∃g0,g0=min (R/4294967296^(L+j-1)/(v/4294967296^(L-1))) 4294967295:=⟨_,rfl⟩
   rw[←hg0'] at hge
   have hg0:=hge
   have hg1:g0≤4294967295:=by omega
   refine eqF 85 (.d (.v (.int .u64 (g0:Nat)))) rfl (by show FX.d (.v (.int _ _))= .d (.v (.int _ _));congr 3;rw[←pS];split<;>omega) ?_
   refine gx rfl<|cl rfl (ah9 (u:=g0) (by omega)) rfl<|cl (fu:=⟨2⟩) rfl (acq (ia:=ib+32) (ib:=32) (hb:=⟨by show _<4294967296;omega⟩) (by omega) (by decide)) rfl<|?_
   refine eqF 91 (.d (vI (32*j:Nat))) rfl (by show FX.d (.v (.int _ _))= .d (.v (.int _ _));congr 3) ?_
   refine gx rfl<|cl (fu:=⟨0⟩) rfl (aqH (k:=32*j) (ia:=ib+64) (ha:=⟨by rw[show ib+64=ib+32+32 by omega,fV];exact oK hvb (by show _<4294967296;omega)⟩) (by omega) (by omega)) rfl<|?_
   refine eqF 92 (.d (dN (v*4294967296^j*g0))) rfl (by rw[ayx,qM]) ?_
   refine gx rfl<|?_
   refine lp (X:=Nat) (fun g=>[(6, .d (vI (s:Nat))),(7, .d (dN v)),(8, .d (dN R)),(9, .d (.v (.int .u64 (v/4294967296^(L-1):Nat)))),(10, .rw 42),(11, .d (vI (j:Nat))),(14, .d (.v (.int .u64 (g:Nat)))),(15, .d (dN (v*4294967296^j*g)))]) (fun g=>[(42,some (.b 215 1 (W.map dU) true))]) (fun g=>R/(v*4294967296^j)≤g∧g≤4294967295) (fun g=>g) g0 rfl ⟨hg0,by omega⟩ (fun _=>rfl) (fun g hk=>?_)
   obtain⟨g1,g2⟩:=hk
   have hlw:=aaB W
   refine cl rfl (asC (a:=v*4294967296^j*g) (b:=R) (by have:=agK (a:=v*4294967296^j*g) (k:=L+j+1) (by have h1:=adl v;rw[←hL] at h1;rw[fZ,fV];exact oK (kR h1 (eX (by decide))) (by omega));omega) (by have:=agK hlen;omega)) rfl<|?_
   refine br (fu1:=⟨7⟩) (v1:=fun hc96=>by simp only[aaj];exact(by have h:=afU hvj (agO.1 hc96);have h1:1≤g:=fS (bX _) h;omega)) (fu2:=⟨11⟩) J J J (fun hc96=>?_) (fun hc96=>?_)
   ·
    have hgd:=afU hvj (agO.1 hc96)
    have hg1p:1≤g:=fS (bX _) hgd
    refine eqF 98 (.d (.v (.int .u64 ((g-1:Nat):Int)))) rfl (by show FX.d (.v (.int _ _))= .d (.v (.int _ _));congr 3;omega) ?_
    refine gx rfl<|cl rfl (ah9 (u:=g-1) (by omega)) rfl<|cl (fu:=⟨2⟩) rfl (acq (ia:=ib+32) (ib:=32) (hb:=⟨by show _<4294967296;omega⟩) (by omega) (by decide)) rfl<|?_
    refine eqF 104 (.d (vI (32*j:Nat))) rfl (by show FX.d (.v (.int _ _))= .d (.v (.int _ _));congr 3) ?_
    refine gx rfl<|cl (fu:=⟨0⟩) rfl (aqH (k:=32*j) (ia:=ib+64) (ha:=⟨by rw[show ib+64=ib+32+32 by omega,fV];exact oK hvb (by show _<4294967296;omega)⟩) (by omega) (by omega)) rfl<|?_
    refine eqF 105 (.d (dN (v*4294967296^j*(g-1)))) rfl (by rw[ayx,qM]) ?_
    refine gx rfl<|?_
    exact at_ (g-1) ⟨⟨by have h:=afU hvj (agO.1 hc96);omega,by omega⟩,(by have:=afU hvj (agO.1 hc96);omega)⟩
   ·
    have hgq:=aws hvj g1 (rM fun q=>hc96 (agO.2 q))
    refine eqF 109 (.d (dU g)) rfl (by show FX.d (.v (.int _ _))= .d (.v (.int _ _));congr 3;omega) ?_
    refine gx rfl<|sb _ ((W.set j (R/(v*4294967296^j))).map dU) rfl (aaA (k:=j) (by omega) (by omega)) rfl (by(rw[←hgq,bK,←ad5])<;>rfl) rfl<|?_
    refine cl (fu:=⟨0⟩) rfl (as5 (a:=R) (b:=v*4294967296^j*g) (ia:=ia+32) (by rw[hgq];exact Nat.mul_div_le _ _) (by omega)) rfl<|?_
    refine eqF 113 (.d (dN (R-v*4294967296^j*(R/(v*4294967296^j))))) rfl (by rw[hgq]) ?_
    refine gx rfl<|?_
    exact at_ ⟨W.set j (R/(v*4294967296^j)),R-v*4294967296^j*(R/(v*4294967296^j)),j⟩ (by dsimp only;exact⟨⟨by simpa using h1,h2'.set _ (by omega),by omega,(ap9 (by omega) h4 hvj rfl).1,(ap9 (by omega) h4 hvj rfl).2,by omega⟩,(by omega)⟩)
 ·
  obtain rfl:k=0:=by omega
  rw[rJ,gN] at h5
  rw[rJ,gN,iX,hR0,hv] at h4
  rw[hv] at h5
  have hend:=awb h5 h4
  haveI hRB:BN R (ia+32):=⟨by omega⟩
  refine fz 42 J J<|cl rfl (af0 (ds:=W) (by omega)) rfl<|cl rfl (aAn (a:=R) (k:=s) (ia:=ia+32) (by omega) (by omega)) rfl<|?_
  exact rz rfl (by show DV.tp [dLi _,dN _]= .tp [dN _,dN _];rw[ae6 h2' hend.1,hend.2])
theorem apg{a b:Nat}(h:b≤a):(dg b).length≤(dg a).length:=agK (fS h (adl a))
theorem afM{a b ia ib:Nat}[ha:BN a ia][hb:BN b ib](hb0:0<b)(hi:ia≤500000000:=by decide)(hj:ib≤500000000:=by decide):PF GB prog 113 [dN a,dN b] (.tp [dN (a/b),dN (a%b)]):=by
 have hla:=aaB (dg a)
 have hlb:=aaB (dg b)
 have hba:=aa8 ha.h
 have hbb:=aa8 hb.h
 have hba':(dg a).length≤20000000:=by omega
 have hbb':(dg b).length≤20000000:=by omega
 have hlb1:1≤(dg b).length:=amT (k:=0) (by rw[rJ];exact hb0)
 refine fn (fu:=⟨7⟩) func113 J J ntmps113 J J (fun C=>?_)
 refine mg (X:=Unit) (fun _=>[(0, .d (dN a)),(1, .d (dN b))]) (fun _=>[]) (fun _=>True) [0,1] [] rfl ?_ (fun _=>rfl) (fun _ hm=>?_)
 ·
  refine gx rfl<|cl rfl (aqI (a:=a) (ia:=ia) (by omega)) rfl<|?_
  refine bd (fu1:=⟨0⟩) J J J (fun hc18=>?_) (fun hc18=>?_)
  ·
   refine eqF 6 (.d (.v (.int .u64 (a:Nat)))) rfl (by rw[if_pos hc18]) ?_
   refine gx rfl<|cl rfl (aqI (a:=b) (ia:=ib) (by omega)) rfl<|?_
   refine bd (fu1:=⟨0⟩) J J J (fun hc24=>?_) (fun hc24=>?_)
   ·
    refine eqF 8 (.d (.v (.int .u64 (b:Nat)))) rfl (by rw[if_pos hc24]) ?_
    have hdl:=iT a b
    have hml:=Nat.mod_le a b
    refine gx (hv:=by simp only[aaj];exact⟨(by omega),(by omega),(by omega)⟩) rfl<|cl (hv:=by simp only[aaj];exact⟨(by omega),(by omega)⟩) rfl (ah9 (u:=a/b) (by omega)) rfl<|cl rfl (ah9 (u:=a%b) (by omega)) rfl<|?_
    exact rz J J
   ·
    exact at_ () trivial
  ·
   exact at_ () trivial
 ·
  refine cl rfl (asC (by omega) (by omega)) rfl<|?_
  refine br J J J (fun hc36=>?_) (fun hc36=>?_)
  ·
   have hab:=afQ.1 hc36
   refine ro0 J J<|ap _ J J (anS _) rfl<|?_
   refine fzE 39 rfl ?_
   exact rz rfl (by show DV.tp [_, .sl ([]++_)]= .tp [_,_];rw[jJ hab,dV hab,adt];rfl)
  ·
   have hab:b≤a:=rM fun q=>hc36 (afQ.2 q)
   have hlab:(dg b).length≤(dg a).length:=apg hab
   refine br (fu1:=⟨4⟩) J J J (fun hc42=>?_) (fun hc42=>?_)
   ·
    have hb1:b<4294967296:=by have:=adl b;rw[show(dg b).length=1 by omega] at this;omega
    have hbd:(dg b).getD 0 0=b:=acH (by omega)
    refine eqF 44 (.d (vI ((dg a).length:Nat))) rfl (by rw[hla];rfl) ?_
    refine gx rfl<|mk (fu:=⟨13⟩) ((List.replicate (dg a).length 0).map dU) J J (by rw[←aeW];rfl) rfl<|?_
    refine eqF 47 (.d (vI ((dg a).length:Nat))) rfl (by rw[hla];rfl) ?_
    refine gx rfl<|?_
    refine lp (X:=List Nat×Nat) (fun⟨W,k⟩=>[(0, .d (dN a)),(1, .d (dN b)),(10, .rw 45),(11, .d (dU (dv ((dg a).drop k)%b))),(12, .d (vI ((k:Nat)-1)))]) (fun⟨W,k⟩=>[(45,some (.b 215 1 (W.map dU) true))]) (fun⟨W,k⟩=>W.length=(dg a).length∧DOk W∧k≤(dg a).length∧dv (W.drop k)=dv ((dg a).drop k)/b) (fun⟨W,k⟩=>k) ⟨List.replicate (dg a).length 0,(dg a).length⟩ rfl ⟨by simp, .replicate _,aM _,by simp[dv]⟩ (fun _=>rfl) (fun⟨W,k⟩ hk=>?_) (hF:=(by refine⟨rfl,rfl,rfl,leI rfl (by simp[dv,dU]),leI rfl (by simp[vI]),?_⟩;repeat (first|exact trivial|refine And.intro rfl ?_)))
    try dsimp only at hk⊢
    obtain⟨h1,h2,h3,h4⟩:=hk
    have hlw:=aaB W
    refine br (fu1:=⟨0⟩) J J J (fun hc50=>?_) (fun hc50=>?_)
    ·
     obtain⟨k,rfl⟩: ∃j,k=j+1:=⟨k-1,by omega⟩
     have hsi:=avI hb0 (by omega) h1 h4
     have hrm:=cY (dv ((dg a).drop (k+1))) hb0
     have hdk:=adr a k
     have hqd:(dv ((dg a).drop (k+1))%b*4294967296+(dg a).getD k 0)/b<4294967296:=by rw[jN hb0];have:=eY 4294967296 (show dv ((dg a).drop (k+1))%b+1≤b from hrm);omega
     refine eqF 12 (.d (vI (k:Nat))) rfl (by show FX.d (.v (.int _ _))= .d (.v (.int _ _));congr 3;omega) ?_
     refine gx rfl<|ix _ rfl (aaA (k:=k) (by omega) (by omega)) rfl<|ix _ rfl (aaA (k:=0) rfl (by omega)) rfl<|cl rfl (az8 (h:=dv ((dg a).drop (k+1))%b) (l:=(dg a).getD k 0) (y:=(dg b).getD 0 0) (by omega) hdk (by omega)) rfl<|?_
     refine sb (hv:=by simp only[aaj];exact⟨by kernel_rfl,by omega⟩) _ ((W.set k ((dv ((dg a).drop (k+1))%b*4294967296+(dg a).getD k 0)/b)).map dU) rfl (aaA (k:=k) (by omega) (by omega)) rfl (by(rw[hbd,bK,←ad5])<;>rfl) rfl<|?_
     exact at_ ⟨W.set k ((dv ((dg a).drop (k+1))%b*4294967296+(dg a).getD k 0)/b),k⟩ (by dsimp only;exact⟨⟨by simpa using h1,h2.set _ hqd,by omega,hsi.1⟩,(by omega)⟩) (by refine⟨rfl,rfl,rfl,leI rfl (by rw[hsi.2,hbd]),leI rfl (by first|(simp[vI];done)|(simp[vI];omega)),?_⟩;repeat (first|exact trivial|refine And.intro rfl ?_))
    ·
     refine fz 45 J J<|cl rfl (af0 (ds:=W) (by omega)) rfl<|rf J J<|cl rfl (af0 (ds:=[dv ((dg a).drop k)%b]) (by simp)) rfl<|?_
     exact rz rfl (by show DV.tp [dLi _,dLi _]= .tp [_,_];obtain rfl:k=0:=(by omega);rw[iX,iX,aaW] at h4;rw[iX,aaW];rw[ae6 h2 h4,ae6 (.cons (by have:=cY a hb0;omega) .nil) (n:=a%b) (by simp[dv])])
   ·
    refine cl rfl (aE6 (by omega) (by omega) hlb1 hlab) rfl<|?_
    exact rz J J
theorem arf(x y:Nat):Nat.gcd y (x%y)=Nat.gcd x y:=by rw[iY x y,sM y x,iY]
theorem amc{a b ia ib:Nat}[ha:BN a ia][hb:BN b ib](hi:ia≤240000000:=by decide)(hj:ib≤240000000:=by decide):PF GB prog 111 [dN a,dN b] (dN (Nat.gcd a b)):=by
 refine fn (fu:=⟨6⟩) func111 J J ntmps111 J J (fun C=>?_)
 refine mg (X:=Unit) (fun _=>[(0, .d (dN a)),(1, .d (dN b))]) (fun _=>[]) (fun _=>True) [0,1] [] rfl ?_ (fun _=>rfl) (fun _ hm=>?_)
 ·
  refine gx rfl<|cl rfl (aqI (a:=a) (ia:=ia) (by omega)) rfl<|?_
  refine bd (fu1:=⟨0⟩) J J J (fun hc16=>?_) (fun hc16=>?_)
  ·
   refine eqF 5 (.d (.v (.int .u64 (a:Nat)))) rfl (by rw[if_pos hc16]) ?_
   refine gx rfl<|cl rfl (aqI (a:=b) (ia:=ib) (by omega)) rfl<|?_
   refine bd (fu1:=⟨0⟩) J J J (fun hc22=>?_) (fun hc22=>?_)
   ·
    refine eqF 7 (.d (.v (.int .u64 (b:Nat)))) rfl (by rw[if_pos hc22]) ?_
    refine gx rfl<|?_
    refine lp (X:=Nat×Nat) (fun⟨x,y⟩=>[(5, .d (.v (.int .u64 (x:Nat)))),(7, .d (.v (.int .u64 (y:Nat))))]) (fun⟨x,y⟩=>[]) (fun⟨x,y⟩=>x<18446744073709551616∧y<18446744073709551616∧Nat.gcd x y=Nat.gcd a b) (fun⟨x,y⟩=>y) ⟨a,b⟩ rfl ⟨hc16,hc22,rfl⟩ (fun _=>rfl) (fun⟨x,y⟩ hk=>?_)
    try dsimp only at hk⊢
    obtain⟨h1,h2,h3⟩:=hk
    refine br (v1:=fun hc24=>by simp only[aaj];exact⟨⟨(by omega),(by omega)⟩,by kernel_rfl⟩) J J J (fun hc24=>?_) (fun hc24=>?_)
    ·
     exact at_ ⟨y,x%y⟩ (by dsimp only;exact⟨⟨h2,by have:=cY x (show 0<y by omega);omega,by rw[arf,h3]⟩,(by exact cY _ (by omega))⟩)
    ·
     refine cl rfl (ah9 (u:=x) h1) rfl<|?_
     exact rz rfl (by show dN x=_;rw[←h3,show y=0 by omega,nQ])
   ·
    exact at_ () trivial
  ·
   exact at_ () trivial
 ·
  refine lp (fu:=⟨5⟩) (X:=Nat×Nat) (fun⟨x,y⟩=>[(0, .d (dN x)),(1, .d (dN y))]) (fun⟨x,y⟩=>[]) (fun⟨x,y⟩=>x<2^(ia+ib)∧y<2^(ia+ib)∧Nat.gcd x y=Nat.gcd a b) (fun⟨x,y⟩=>y) ⟨a,b⟩ rfl ⟨(ha.mono (by omega)).h,(hb.mono (by omega)).h,rfl⟩ (fun _=>rfl) (fun⟨x,y⟩ hk=>?_)
  try dsimp only at hk⊢
  obtain⟨h1,h2,h3⟩:=hk
  have hly:=aaB (dg y)
  haveI hx':BN x (ia+ib):=⟨h1⟩
  haveI hy':BN y (ia+ib):=⟨h2⟩
  refine eqF 32 (.d (vI ((dg y).length:Nat))) rfl (by rw[hly];rfl) ?_
  refine gx rfl<|?_
  refine br J J J (fun hc33=>?_) (fun hc33=>?_)
  ·
   have hy0:0<y:=iJ fun q=>by subst q;rw[ahW] at hc33;simp at hc33
   refine cl rfl (afM (a:=x) (b:=y) (ia:=ia+ib) (ib:=ia+ib) hy0 (by omega) (by omega)) rfl<|?_
   exact at_ ⟨y,x%y⟩ (by dsimp only;exact⟨⟨h2,by have:=cY x hy0;omega,by rw[arf,h3]⟩,(by exact cY _ hy0)⟩)
  ·
   have hy0:y=0:=acC.1 (by omega)
   have hlx:=aa8 h1
   have hmx:=aaB (dg x)
   refine ro0 J J<|ap _ J J (anS _) rfl<|?_
   refine fzE 44 rfl ?_
   exact rz rfl (by show DV.sl ([]++_)=_;rw[←h3,hy0,nQ];rfl)
theorem aD7(neg:Bool)(m:Nat):eI (zv neg m)= .ag [.v (.bool (neg&&decide (0<m))),dN m]:=by unfold eI;rw[af2,amS]
theorem aDW(z:Int):zv (!decide (z<0)) z.natAbs= -z:=by
 unfold zv
 by_cases h:z<0<;>simp[h]<;>omega
theorem aCu(a b:Int):zv (!(decide (a<0)==decide (b<0))) (a.natAbs*b.natAbs)=a*b:=by
 have h:=azL (decide (a<0)) (decide (b<0)) a.natAbs b.natAbs
 rw[adw,adw] at h
 exact h
theorem ac1{neg:Bool}{m:Nat}:PF GB prog 49 [.v (.bool neg),dN m] (eI (zv neg m)):=by
 have hl:=aaB (dg m)
 have hz:= @acC m
 refine fn func49 J J ntmps49 J J (fun C=>?_)
 refine csb 6 J J J (fun hg6=>?_) (fun hg6=>?_)
 ·
  exact rz rfl (by rw[aD7,hg6];show DV.ag [.v (.bool _),_]= .ag [.v (.bool _),_];congr 4;rw[Bool.true_and];exact decide_eq_decide.2 (by omega))
 ·
  exact rz rfl (by rw[aD7,hg6];rfl)
end Go.Sx
end
section
namespace Go.Sx
open Go
instance:DecidableEq LnQ:=fun x y=>decidable_of_iff (x.a=y.a∧x.b=y.b∧x.c=y.c) (by
 cases x;cases y;simp)
structure IvQ where
 lo:Rat
 hi:Rat
 nl:Bool
 nh:Bool
def IvQ.all:IvQ:=⟨0,0,true,true⟩
def IvQ.empty(v:IvQ):Bool:=!v.nl&&(!v.nh&&decide (0≤abg v.lo v.hi))
def IvQ.meet(v w:IvQ):IvQ:=
 ⟨if v.nl then w.lo else if w.nl then v.lo else if v.lo<w.lo then w.lo else v.lo,
  if v.nh then w.hi else if w.nh then v.hi else if w.hi<v.hi then w.hi else v.hi,v.nl&&w.nl,v.nh&&w.nh⟩
def IvQ.sample(v:IvQ):Rat:=if v.nl&&v.nh then 0 else if v.nl then v.hi-1 else if v.nh then v.lo+1 else(v.lo+v.hi)*mkRat 1 2
def LnQ.cutK(l m:LnQ):Rat:=m.nor.dot l.dir
def LnQ.cutC(l m:LnQ):Rat:=m.value l.base
def LnQ.cutV(l:LnQ)(v:IvQ)(m:LnQ):IvQ:=
 if Int.sign (l.cutK m).num=0 then v
 else if Int.sign (l.cutK m).num=1 then v.meet ⟨-(l.cutC m/l.cutK m),0,false,true⟩
 else v.meet ⟨0, -(l.cutC m/l.cutK m),true,false⟩
def LnQ.cutB(l:LnQ)(v:IvQ)(m:LnQ):Bool:=
 if Int.sign (l.cutK m).num=0 then decide (0<Int.sign (l.cutC m).num) else !(l.cutV v m).empty
structure FrQ where
 l:LnQ
 v:IvQ
abbrev aah:=List FrQ
def agA(l:LnQ):aah→IvQ→Option IvQ
 |[],v=>some v
 |s::t,v=>if l.cutB v s.l then agA l t (l.cutV v s.l) else none
def afz(c:aah)(l:LnQ):Option IvQ:=agA l c IvQ.all
def aeq(l:LnQ)(s:FrQ):Int:=Int.sign (l.value (s.l.at s.v.sample)).num
def aev(l:LnQ):aah→Int
 |[]=> -1
 |s::t=>if aeq l s≠0 then aeq l s else if s.l=l then 1 else aev l t
def ajc(c:aah)(l:LnQ):Int:=if(afz c l).isSome then 0 else aev l c
def PtQ.half(p:PtQ):Int:=
 if 0<Int.sign p.y.num∨(Int.sign p.y.num=0∧0<Int.sign p.x.num) then 1 else if Int.sign p.y.num<0∨Int.sign p.x.num<0 then 2 else 0
def aay(u v:PtQ):Int:=if u.half<v.half then-1 else if v.half<u.half then 1 else-(Int.sign (u.cross v).num)
def abZ(l:LnQ):aah→aah
 |[]=>[]
 |s::t=>if s.l.cutB s.v l then⟨s.l,s.l.cutV s.v l⟩::abZ l t else abZ l t
def bsq(p:Nat→Bool)(i j:Nat):Nat:=
 if h:i<j then(if p ((i+j)/2) then bsq p ((i+j)/2+1) j else bsq p i ((i+j)/2)) else i
termination_by j-i
def aeu(c:aah)(l:LnQ)(i:Nat):Bool:=match c[i]? with
 |some s=>decide (aay s.l.dir l.dir<0)
 |none=>false
def aoM(c:aah)(l:LnQ)(v:IvQ):aah:=
 c.take (bsq (aeu c l) 0 c.length)++⟨l,v⟩::c.drop (bsq (aeu c l) 0 c.length)
def aaP(c:aah)(l:LnQ):aah:=match afz c l with
 |some v=>aoM (abZ l c) l v
 |none=>c
def abh(c:aah)(l:LnQ):Bool:=match afz c l with
 |some _=>true
 |none=>decide (0<ajc c l)
theorem aqu(p:Nat→Bool): ∀(d i j:Nat),j-i≤d→i≤j→i≤bsq p i j∧bsq p i j≤j
 |0,i,j,h,hij=>by
  rw[bsq,dif_neg (by omega)];omega
 |d+1,i,j,h,hij=>by
  rw[bsq]
  split
  ·split
   ·have:=aqu p d ((i+j)/2+1) j (by omega) (by omega);omega
   ·have:=aqu p d i ((i+j)/2) (by omega) (by omega);omega
  ·omega
theorem anI(l:LnQ): ∀c:aah,(abZ l c).length≤c.length
 |[]=>aM _
 |s::t=>by
  have:=anI l t
  unfold abZ
  split<;>simp<;>omega
theorem awD(c:aah)(l:LnQ)(v:IvQ):(aoM c l v).length=c.length+1:=by
 have:=(aqu (aeu c l) c.length 0 c.length (by omega) (by omega)).2
 simp[aoM];omega
theorem aez(c:aah)(l:LnQ):(aaP c l).length≤c.length+1:=by
 unfold aaP
 split
 ·rw[awD];have:=anI l c;omega
 ·omega
inductive Tr where
 |leaf (b:Bool)
 |node (l:LnQ) (x y:Tr)
def Tr.isLeaf:Tr→Bool
 | .leaf _=>true
 | .node .. =>false
def Tr.code:Tr→Bool
 | .leaf b=>b
 | .node .. =>false
def Tr.depth:Tr→Nat
 | .leaf _=>0
 | .node _ x y=>1+max x.depth y.depth
def Tr.size:Tr→Nat
 | .leaf _=>0
 | .node _ x y=>1+x.size+y.size
def Tr.joinQ(l:LnQ)(x y:Tr):Tr:=if x.isLeaf&&(y.isLeaf&&(x.code==y.code)) then x else .node l x y
def Tr.restrict:Tr→aah→Tr
 | .leaf b,_=> .leaf b
 | .node l x y,c=>if !abh c l.rev then x.restrict c else if !abh c l then y.restrict c else joinQ l (x.restrict (aaP c l)) (y.restrict (aaP c l.rev))
def Tr.parts:Tr→aah→List (Bool×aah)
 | .leaf b,c=>[(b,c)]
 | .node l x y,c=>(if abh c l then x.parts (aaP c l) else [])++(if abh c l.rev then y.parts (aaP c l.rev) else [])
def Tr.all(p:LnQ→Prop):Tr→Prop
 | .leaf _=>True
 | .node l x y=>p l∧x.all p∧y.all p
def Tr.good:Tr→Prop
 | .leaf _=>True
 | .node _ x y=> ¬(x.isLeaf=true∧y.isLeaf=true∧x.code=y.code)∧x.good∧y.good
structure NQ where
 l:LnQ
 a:Int
 b:Int
def adg(b:Bool):Int:=if b then-2 else-1
def Tr.num:Tr→Nat→Int
 | .leaf b,_=>adg b
 | .node ..,n=>n
def Tr.wr:Tr→Nat→List NQ
 | .leaf _,_=>[]
 | .node l x y,n=>⟨l,x.num (n+1),y.num (n+1+x.size)⟩::x.wr (n+1)++y.wr (n+1+x.size)
theorem Tr.wr_len: ∀(t:Tr) (n:Nat),(t.wr n).length=t.size
 | .leaf _,n=>rfl
 | .node l x y,n=>by
  have h1:=Tr.wr_len x (n+1)
  have h2:=Tr.wr_len y (n+1+x.size)
  simp[Tr.wr,Tr.size,h1,h2];omega
theorem Tr.joinQ_cases(l:LnQ)(x y:Tr):(Tr.joinQ l x y=x∧x.isLeaf=true)∨(Tr.joinQ l x y= .node l x y∧ ¬(x.isLeaf=true∧y.isLeaf=true∧x.code=y.code)):=by
 unfold Tr.joinQ
 split
 ·rename_i h
  simp at h
  exact .inl ⟨rfl,h.1⟩
 ·rename_i h
  simp at h
  exact .inr ⟨rfl,fun⟨a,b,c⟩=>h a b c⟩
theorem Tr.restrict_depth: ∀(t:Tr) (c:aah),(t.restrict c).depth≤t.depth
 | .leaf b,c=>aM _
 | .node l x y,c=>by
  unfold Tr.restrict
  split
  ·have:=x.restrict_depth c;simp only[Tr.depth];omega
  ·split
   ·have:=y.restrict_depth c;simp only[Tr.depth];omega
   ·have h1:=x.restrict_depth (aaP c l)
    have h2:=y.restrict_depth (aaP c l.rev)
    rcases Tr.joinQ_cases l (x.restrict (aaP c l)) (y.restrict (aaP c l.rev)) with⟨h,_⟩|⟨h,_⟩
    ·rw[h];simp only[Tr.depth];omega
    ·rw[h];simp only[Tr.depth];omega
theorem Tr.restrict_all(p:LnQ→Prop): ∀(t:Tr) (c:aah),t.all p→(t.restrict c).all p
 | .leaf b,c,_=>trivial
 | .node l x y,c,h=>by
  obtain⟨h0,h1,h2⟩:=h
  unfold Tr.restrict
  split
  ·exact x.restrict_all p c h1
  ·split
   ·exact y.restrict_all p c h2
   ·rcases Tr.joinQ_cases l (x.restrict (aaP c l)) (y.restrict (aaP c l.rev)) with⟨h,_⟩|⟨h,_⟩
    ·rw[h];exact x.restrict_all p _ h1
    ·rw[h];exact⟨h0,x.restrict_all p _ h1,y.restrict_all p _ h2⟩
end Go.Sx
end
