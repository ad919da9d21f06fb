import Derived.Test.YtmdgdhokaffbkaaGreatDoorMz9
set_option linter.all false
set_option maxHeartbeats 8000000
set_option maxRecDepth 100000
section
namespace Go.Sx
open Go Go.Proofs Tryz
variable {GB G:Gh}{ds A W vs ws wa qs:List Nat}{i j d k ia U T S u ca s a' d' ib e by_ off cap:Nat}{n neg n1:Bool}{C:aG}{fr:Fr}{own' own1 rest:List aA}{q:Rat}{m:Int}{P:Program}{Φ:Act->World->Prop}{dst:Option Nat}{t t' ty':TypeId}{pos:String}{af:Array Edge}{y:Operand}{α β:Type}
def YD(hl:ds.length<=1125899906842624):PB GB prog 193 (eh [none]) 1 225 (ds.map dU) (fun w=> .v (.slice w.a w.n w.c)) ((trimD ds).map dU):=by
 refine tj func193 J J ntmps193 J J (fun C=>?_);refine lp (fu:=⟨5⟩) (X:=List Nat) (fun W=>[(0, .rw 1000000)]) (fun W=>[(1000000,some (.b 225 1 (W.map dU) false))]) (fun W=>trimD ds=trimD W/\W.length<=ds.length) (fun W=>W.length) ds J ⟨J,bW _⟩ (fun _=>J) (fun W hk=>?_);obtain⟨h1,h2⟩:=hk;have hml:=ck W;refine aj 4 (.d (vI (W.length:Nat))) J omh<|gx J<|cs (fu1:=⟨3⟩) 6 J J J (fun hg6=>?_) (fun hg6=>?_)
 .
  refine aj 9 (.d (vI (W.length:Nat))) J omh<|gx J<|lb _ J (di (k:=W.length-1)) J<|br (fu1:=⟨7⟩) J J J (fun hc14=>?_) (fun hc14=>?_)
  .
   refine aj 17 (.d (vI (W.length:Nat))) J omh<|gx (fu:=⟨1⟩) J<|aj 18 (.d (vI (W.length-1:Nat))) J (omb m5)<|gx (fu:=⟨0⟩) J<|IH ((W.take (W.length-1)).map dU) (W.length-1) J J (by rw[hml];omega) (by rw[gM]) J<|fI 19 1000000 J<|at_ (W.take (W.length-1)) ⟨⟨by rw[h1,ML],by rw[bL];omega⟩,(by rw[bL];omega)⟩
  .
   exact m6 J J J (by rw[h1,Er (fun _=>by omega)])
 .
  exact m6 J J J (by rw[h1,Er (fun _=>by omega)])
def az4{a:Nat}(h:0<(dg a).length):bl a=32*((dg a).length-1)+bl ((dg a).getD ((dg a).length-1) 0):=by
 have:=aL9 (ik a) (gE a).2.2 (fun e=>by rw[e] at h;exact absurd h pb);rwa [dG] at this
def BH{a:Nat}(h:(dg a).length=0:=by omega):a=0:=by rw[<-dG a,cJ h];rfl
def wF{a:Nat}[h:BN a i](hi:i<=1000000000:=by decide):PF GB prog 187 [dN a] (vI (bl a:Nat)):=by
 have hla:=ck (dg a);have hba:=jH (a:=a) hi;have hbl:bl ((dg a).getD ((dg a).length-1) 0)<=32:=qb.2 (fi a _);refine fn func187 J J ntmps187 J J (fun C=>?_);refine cl (fu:=⟨8⟩) J (qH) J<|aj 6 (.d (vI ((dg a).length:Nat))) J omm<|gx J<|br (fu2:=⟨6⟩) J J J (fun hc7=>?_) (fun hc7=>?_)
 .
  exact rz J (by rw[BH (a:=a)];rfl)
 .
  refine aj 9 (.d (vI ((dg a).length:Nat))) J omm<|gx (fu:=⟨4⟩) J<|aj 13 (.d (vI ((dg a).length:Nat))) J omm<|gx J<|ix _ J (di (k:=(dg a).length-1)) J<|cl J (Jq (fi a ((dg a).length-1))) J<|rz J (by show DV.v (.int _ _)=DV.v (.int _ _);have:=az4 (a:=a) m5;congr 2;omega)
def Ye{a:Nat}(h:a<18446744073709551616)(hi:i<(dg a).length):dv ((dg a).take i)<2^(32*i)/\dv ((dg a).take i)+(dg a).getD i 0*2^(32*i)=dv ((dg a).take (i+1))/\dv ((dg a).take (i+1))<18446744073709551616:=by
 have h1:=nq ((ik a).take i);rw[bL,jZ m5] at h1;have e:(2:Nat)^(32*i)=4294967296^i:=by rw[uX]
 have h2:=Ck (dg a) (i+1);rw[dG] at h2;refine⟨by rw[e];exact h1,by rw[e,pE,cW],?_⟩;have:=bK (4294967296^(i+1)*dv ((dg a).drop (i+1)));omega
def Yj{a:Nat}(h:a<18446744073709551616):(dg a).length<=2:=by have:=lx (u:=a) (k:=64) h;omega
def Cc{a:Nat}(h:a<18446744073709551616):PF GB prog 192 [dN a] (.tp [.v (.int .u64 (a:Nat)),vB true]):=by
 have hla:=ck (dg a);have hl2:=Yj h;refine fn func192 J J ntmps192 J J (fun C=>?_);refine cl (fu:=⟨8⟩) J (qH) J<|aj 10 (.d (vI ((dg a).length:Nat))) J omm<|gx (fu:=⟨0⟩) J<|c9 (fu:=⟨15⟩) J (oma m5) J<|aj 13 (.d (vI ((dg a).length:Nat))) J omm<|gx J<|lp (X:=Nat) (fun i=>[(14, .d (vI (i:Nat))),(4, .d (.v (.int .u64 (dv ((dg a).take i):Nat))))]) (fun i=>[]) (fun i=>i<=(dg a).length) (fun i=>(dg a).length-i) 0 J (bK _) (fun _=>J) (fun i hk=>?_);refine br J J J (fun hc15=>?_) (fun hc15=>?_)
 .
  obtain⟨u1,u2,u3⟩:=Ye h (i:=i) m5;have hda:=fi a i;refine ix (fu:=⟨12⟩) (hv:=by simp only[ak];exact⟨⟨m5,m5⟩,m5⟩) _ J (gc) J<|aj 24 (.d (.v (.int .u64 ((dg a).getD i 0*2^(32*i):Nat)))) J (by show FX.d (.v (.int _ _))= .d (.v (.int _ _));rw[rj _ (32*i) m5 m5])<|gx (fu:=⟨1⟩) J<|aj 25 (.d (.v (.int .u64 (dv ((dg a).take (i+1)):Nat)))) J (congrArg (fun z:Nat=>FX.d (.v (.int .u64 (z:Int)))) ((r6 64 _ _ (32*i) u1 (by rw[u2];exact u3)).trans u2))<|gx J<|at_ (i+1) ⟨m5,m5⟩
 .
  obtain rfl:i=(dg a).length:=by omega
  exact rz J (by rw[ly (bW _),dG];rfl)
def UW(h:j<ds.length):dv (ds.drop j)=ds.getD j 0+4294967296*dv (ds.drop (j+1)):=by
 rw[bV h,aK,aZ h];rfl
def aER{r v:Nat}(hA:j<A.length)(hW:j<W.length)(hd:0<d)(h:dv (A.drop (j+1))=d*dv (W.drop (j+1))+r)(hv:v=A.getD j 0+r*4294967296):dv (A.drop j)=d*dv ((W.set j (v/d)).drop j)+v%d:=by
 have e1:dv ((W.set j (v/d)).drop j)=v/d+4294967296*dv (W.drop (j+1)):=by
  rw[UW (by rw[bZ];exact hW),Bl hW,rX m5]
 have h2:=rS v d;have e3:d*(v/d+4294967296*dv (W.drop (j+1)))=d*(v/d)+4294967296*(d*dv (W.drop (j+1))):=by rw[fY,nV]
 rw[e1,UW hA,h,e3];omega
def ZD{a r:Nat}(h:a=d*dv W+r)(hr:r<d):dv W=a/d/\r=a%d:=by
 have:=(Nat.div_mod_unique (by omega:0<d)).2 ⟨show r+d*dv W=a by omega,hr⟩;exact⟨this.1.symm,this.2.symm⟩
def aF2{a d i:Nat}[h:BN a i](hd:0<d)(hd2:d<4294967296)(hi:i<=1000000000:=by decide):PF GB prog 252 [dN a,dU d] (.tp [dN (a/d),dU (a%d)]):=by
 have hla:=ck (dg a);have hba:=jH (a:=a) hi;refine fn (fu:=⟨10⟩) func252 J J ntmps252 J J (fun C=>?_);refine aj 11 (.d (vI ((dg a).length:Nat))) J omm<|gx J<|mk (fu:=⟨13⟩) ((List.replicate (dg a).length 0).map dU) J J omy J<|aj 14 (.d (vI ((dg a).length:Nat))) J omm<|gx J<|lp (X:=List Nat×Nat×Nat) (fun⟨W,r,k⟩=>[(0, .d (dN a)),(1, .d (dU d)),(6, .rw 12),(7, .d (.v (.int .u64 (r:Nat)))),(8, .d (vI ((k:Nat)-1)))]) (fun⟨W,r,k⟩=>[(12,some (.b 225 1 (W.map dU) true))]) (fun⟨W,r,k⟩=>W.length=(dg a).length/\bF W/\r<d/\k<=(dg a).length/\dv ((dg a).drop k)=d*dv (W.drop k)+r) (fun⟨W,r,k⟩=>k) ⟨List.replicate (dg a).length 0,0,(dg a).length⟩ J ⟨vb, .replicate _,hd,bW _,by simp[dv]⟩ (fun _=>J) (fun⟨W,r,k⟩ hk=>?_)
 try dsimp only at hk⊢
 obtain⟨h1,h2,h3,h4,h5⟩:=hk;have hlw:=ck W;refine br (fu1:=⟨0⟩) J J J (fun hc17=>?_) (fun hc17=>?_)
 .
  obtain⟨j,rfl⟩: ∃m,k=m+1:=⟨k-1,m5⟩;have hda:=fi a j;obtain⟨v,hv⟩: ∃v,v=(dg a).getD j 0+r*4294967296:=⟨_,rfl⟩;obtain⟨q,hq⟩: ∃q,q=v/d:=⟨_,rfl⟩;have hvq:q<4294967296:=by rw[hq,kS hd,cW];have:=bS 4294967296 (show r+1<=d from h3);omega
  refine aj 8 (.d (vI (j:Nat))) J (omb m5)<|gx (fu:=⟨8⟩) (hv:=by simp only[ak];exact pb) J<|aj 21 (.d (.v (.int .u64 (r*4294967296:Nat)))) J omk<|gx J<|ix (fu:=⟨3⟩) _ J (gc) J<|aj 27 (.d (.v (.int .u64 (v:Nat)))) J (congrArg (fun z:Nat=>FX.d (.v (.int .u64 (z:Int)))) ((congrArg BitVec.toNat (BitVec.or_comm ..)).trans ((r6 64 ((dg a).getD j 0) r 32 hda omn).trans hv.symm)))<|gx (fu:=⟨11⟩) J<|aj 33 (.d (.v (.int .u64 (q:Nat)))) J (by show FX.d (.v (.int _ _))= .d (.v (.int _ _));congr 3;rw[hq];rfl)<|gx (fu:=⟨1⟩) J<|aj 34 (.d (dU q)) J (omb m5)<|gx J<|sb (fu:=⟨7⟩) _ ((W.set j q).map dU) J (gc) J omX J<|aj 39 (.d (.v (.int .u64 (v%d:Nat)))) J omc<|gx J<|at_ ⟨W.set j q,v%d,j⟩ (by dsimp only;exact⟨⟨by simpa using h1,h2.set _ hvq,dJ _ hd,m5,by rw[hq];exact aER m5 m5 hd h5 hv⟩,m5⟩)
 .
  obtain rfl:k=0:=by omega
  obtain⟨e1,e2⟩:=ZD (a:=a) (W:=W) (by rw[iW,iW,dG] at h5;exact h5) h3;refine fz 12 J J<|cl (fu:=⟨2⟩) J (uC (ds:=W)) J<|aj 43 (.d (dU r)) J (omb m5)<|gx J<|rz J (by show DV.tp [et _,dU _]= .tp [dN _,dU _];rw[ma h2 e1,<-e2])
def aHb{x:Nat}(hk:k<32)(hl:i+1<W.length)(hx:x=A.getD i 0)(h:dv (W.take (i+1))=dv (A.take i)*2^k):dv (((W.set i (W.getD i 0+x*2^k%4294967296)).set (i+1) (x*2^k/4294967296)).take (i+1+1))=dv (A.take (i+1))*2^k:=by
 have:=Qw (A:=A) (W:=W) (k:=k) (q:=0) (s:=k) (i:=i) (x:=x) m5 m5 m5 hx (by rw[eM];exact h);simpa only[eM] using this
def aGU{a n:Nat}(hn:n=(dg a).length)(hl:W.length=n)(h:dv (W.take n)=(a/2^k)%4294967296^n):dv W=a/2^k:=by
 rw[ly] at h;have h1:=so a;have h2:=nY a (2^k);rw[h,iN (by rw[hn];omega)]
def Zn(h:k<32):(k:Int).tdiv 32=0:=Int.tdiv_eq_zero_of_lt m5 m5
def NU{a:Nat}[h:BN a ia](hk:k<32)(h0:0<(dg a).length)(hi:ia<=1000000000:=by decide):PR GB prog 294 [dN a, .v (.int .u64 (k:Nat))] 1 225 ((dg (a*2^k)).map dU):=by
 have hla:=ck (dg a);have hba:=jH (a:=a) hi;refine Dl (fu:=⟨8⟩) func294 J J ntmps294 J J (fun C hmb=>?_);refine cl (fu:=⟨2⟩) J (qH (a:=a)) J<|aj 14 (.d (.v (.int .u64 (k:Nat)))) J (omb m5)<|gx (fu:=⟨9⟩) J<|aj 16 (.d (vI ((dg a).length:Nat))) J omm<|gx (fu:=⟨0⟩) J<|c9 (fu:=⟨10⟩) J (oma m5) J<|aj 20 (.d (vI (0:Nat))) J (by show FX.d (.v (.int _ _))= .d (.v (.int _ _));congr 3;have:=Zn hk;omega)<|gx (fu:=⟨2⟩) J<|aj 22 (.d (.v (.int .u64 (k:Nat)))) J (omb m5)<|gx (fu:=⟨8⟩) J<|aj 24 (.d (vI ((dg a).length:Nat))) J omm<|gx (fu:=⟨3⟩) J<|aj 27 (.d (vI ((dg a).length+1:Nat))) J omc<|gx J<|mk (fu:=⟨8⟩) ((List.replicate ((dg a).length+1) 0).map dU) J J omy J<|aj 30 (.d (vI ((dg a).length:Nat))) J omm<|gx J<|lp (X:=List Nat×Nat) (fun⟨W,i⟩=>[(0, .d (dN a)),(1, .d (.v (.int .u64 (k:Nat)))),(5, .d (vI (0:Nat))),(6, .d (.v (.int .u64 (k:Nat)))),(7, .rw 28),(29, .d (dN a)),(30, .d (vI ((dg a).length:Nat))),(31, .d (vI (i:Nat)))]) (fun⟨W,i⟩=>[(28,some (.b 225 1 (W.map dU) true))]) (fun⟨W,i⟩=>W.length=(dg a).length+1/\bF W/\i<=(dg a).length/\dv (W.take (i+1))=dv ((dg a).take i)*2^k/\W.getD i 0<2^k) (fun⟨W,i⟩=>(dg a).length-i) ⟨List.replicate ((dg a).length+1) 0,0⟩ J ⟨vb, .replicate _,m5,by rw[rJ,zc];simp[dv],by rw[FT];exact gW pb⟩ (fun _=>J) (fun⟨W,i⟩ hk=>?_)
 try dsimp only at hk⊢
 obtain⟨h1,h2,h3,h4,h5⟩:=hk;have hlw:=ck W;have hda:=fi a i;have hpp:2^k<=2^31:=bT pb m5;refine br J J J (fun hc32=>?_) (fun hc32=>?_)
 .
  refine ix (fu:=⟨11⟩) (hv:=by simp only[ak];exact⟨m5,m5⟩) _ J (gc) J<|?_;have hhi:=MD hda hk;have hfit0:=PX hda hk;have hor:=NI (x:=(dg a).getD i 0) h5 hk;have hfit:W.getD i 0+(dg a).getD i 0*2^k%4294967296<4294967296:=by rw[<-hor];exact BitVec.isLt _
  have hlp:=Hh ((dg a).getD i 0) k;refine aj 39 (.d (.v (.int .u64 ((dg a).getD i 0*2^k:Nat)))) J (by show FX.d (.v (.int _ _))= .d (.v (.int _ _));rw[rj _ k m5 hfit0]) ?_;obtain⟨t,ht⟩: ∃t,t=(dg a).getD i 0*2^k:=⟨_,rfl⟩;simp only[<-ht] at hhi hfit0 hor hfit hlp;rw[<-ht];refine gx (fu:=⟨9⟩) J<|aj 43 (.d (vI (i:Nat))) J omc<|gx J<|lb (fu:=⟨2⟩) _ J (gc) J<|aj 47 (.d (dU (t%4294967296))) J omc<|gx (fu:=⟨1⟩) J<|aj 48 _ J (congrArg (fun z:Nat=>FX.d (.v (.int .u32 (z:Int)))) hor)<|gx J<|sb (fu:=⟨7⟩) _ ((W.set i (W.getD i 0+t%4294967296)).map dU) J (gc) J (by simp only[cX,jM]<;>rfl) J<|aj 53 (.d (vI (i:Nat))) J omc<|gx (fu:=⟨1⟩) J<|aj 54 (.d (vI (i+1:Nat))) J omc<|gx (fu:=⟨2⟩) (hv:=by simp only[ak];exact pb) J<|aj 56 (.d (.v (.int .u64 (t/4294967296:Nat)))) J okh<|gx (fu:=⟨1⟩) J<|aj 57 (.d (dU (t/4294967296))) J (omb m5)<|gx J<|sb _ (((W.set i (W.getD i 0+t%4294967296)).set (i+1) (t/4294967296)).map dU) J (gc okS) J (by simp only[cX,jM]<;>rfl) J<|at_ ⟨(W.set i (W.getD i 0+t%4294967296)).set (i+1) (t/4294967296),i+1⟩ (by dsimp only;exact⟨⟨by simpa using h1,(h2.set _ hfit).set _ m5,m5,by have q:=aHb (x:=(dg a).getD i 0) hk m5 J h4;rw[<-ht] at q;exact q,by rw[Bl omg];exact hhi⟩,m5⟩)
 .
  obtain rfl:i=(dg a).length:=by omega
  refine cq _ J (YD (ds:=W) m5) J J<|?_;exact Io J J J (by rw[<-CE h2];have:=h4;rw[ly,ly,dG] at this;rw[this])
def VE(hd:bF ds)(hl:ds.length<=100000000)(hk:k<32):PF GB prog 295 [et ds, .v (.int .u64 (k:Nat))] (dN (dv ds/2^k)):=by
 obtain⟨a,ha⟩: ∃a,a=dv ds:=⟨_,rfl⟩;rw[<-ha];have hla:=ck (dg a);have hba:(dg a).length<=100000000:=by rw[ha,CE hd];have:=V8 ds;omega
 refine fn func295 J J ntmps295 J J (fun C=>?_);refine cl (fu:=⟨0⟩) J (uC (ds:=ds)) J<|aj 11 (.d (dN a)) J (by rw[ma hd ha.symm])<|gx (fu:=⟨8⟩) J<|aj 13 (.d (.v (.int .u64 (0:Nat)))) J (omb m5)<|gx (fu:=⟨2⟩) J<|aj 15 (.d (vI ((dg a).length:Nat))) J omm<|gx J<|br (fu2:=⟨7⟩) J J J (fun hc17=>?_) (fun hc17=>?_)
 .
  exact rz J (by rw[BH (a:=a),Nat.zero_div,pe];rfl)
 .
  refine aj 20 (.d (vI (0:Nat))) J (omb m5)<|gx (fu:=⟨2⟩) J<|aj 22 (.d (.v (.int .u64 (k:Nat)))) J (omb m5)<|gx (fu:=⟨8⟩) J<|aj 24 (.d (vI ((dg a).length:Nat))) J omm<|gx (fu:=⟨2⟩) J<|aj 26 (.d (vI ((dg a).length:Nat))) J omc<|gx J<|mk (fu:=⟨8⟩) ((List.replicate (dg a).length 0).map dU) J J omy J<|aj 29 (.d (vI ((dg a).length:Nat))) J (by rw[ck,aR]<;>rfl)<|gx J<|lp (X:=List Nat×Nat) (fun⟨W,i⟩=>[(0, .d (dN a)),(5, .d (vI (0:Nat))),(6, .d (.v (.int .u64 (k:Nat)))),(7, .rw 27),(29, .d (vI ((dg a).length:Nat))),(30, .d (vI (i:Nat)))]) (fun⟨W,i⟩=>[(27,some (.b 225 1 (W.map dU) true))]) (fun⟨W,i⟩=>W.length=(dg a).length/\bF W/\i<=(dg a).length/\dv (W.take i)=(a/2^k)%4294967296^i) (fun⟨W,i⟩=>(dg a).length-i) ⟨List.replicate (dg a).length 0,0⟩ J ⟨vb, .replicate _,m5,by simp[dv,Nat.mod_one]⟩ (fun _=>J) (fun⟨W,i⟩ hk=>?_)
  try dsimp only at hk⊢
  obtain⟨h1,h2,h3,h4⟩:=hk;have hlw:=ck W;have hda:=fi a i;have hdb:=fi a (i+1);refine br (fu1:=⟨16⟩) J J J (fun hc31=>?_) (fun hc31=>?_)
  .
   refine aj 36 (.d (vI (i:Nat))) J omc<|gx J<|ix (fu:=⟨6⟩) _ J (gc) J<|mg (fu:=⟨6⟩) (hv:=fun _ _=>by simp only[ak];exact m5) (X:=Unit) (fun _=>[(0, .d (dN a)),(5, .d (vI (0:Nat))),(6, .d (.v (.int .u64 (k:Nat)))),(7, .rw 27),(29, .d (vI ((dg a).length:Nat))),(30, .d (vI (i:Nat))),(8, .d (vI (i:Nat))),(9, .d (.v (.int .u64 ((dg a).getD i 0+(dg a).getD (i+1) 0*4294967296:Nat))))]) (fun _=>[(27,some (.b 225 1 (W.map dU) true))]) (fun _=>True) [0,5,6,7,29,30,8,9] [27] rfl ?_ (fun _=>J) (fun _ _=>?_)
   .
    refine gx (fu:=⟨5⟩) J<|aj 42 (.d (vI (i:Nat))) J omc<|gx (fu:=⟨1⟩) J<|aj 43 (.d (vI (i+1:Nat))) J omc<|gx (fu:=⟨2⟩) J<|aj 45 (.d (vI ((dg a).length:Nat))) J omm<|gx J<|br (fu1:=⟨6⟩) J J J (fun hc46=>?_) (fun hc46=>?_)
    .
     refine aj 51 (.d (vI (i:Nat))) J omc<|gx (fu:=⟨1⟩) J<|aj 52 (.d (vI (i+1:Nat))) J omc<|gx J<|ix (fu:=⟨3⟩) (hv:=by simp only[ak];exact⟨m5,pb⟩) _ J (di (k:=i+1)) J<|aj 56 (.d (.v (.int .u64 ((dg a).getD (i+1) 0*4294967296:Nat)))) J omk<|gx (fu:=⟨1⟩) J<|aj 57 _ J (congrArg (fun z:Nat=>FX.d (.v (.int .u64 (z:Int)))) (r6 64 ((dg a).getD i 0) ((dg a).getD (i+1) 0) 32 hda omn))<|gx J<|at_ () trivial
    .
     refine aj 9 (.d (.v (.int .u64 ((dg a).getD i 0+(dg a).getD (i+1) 0*4294967296:Nat)))) J (by rw[r8 (by omega:(dg a).length<=i+1),kM,gQ])<|at_ () trivial
   .
    refine aj 62 (.d (.v (.int .u64 (((dg a).getD i 0+(dg a).getD (i+1) 0*4294967296)/2^k:Nat)))) J (by show FX.d (.v (.int _ _))= .d (.v (.int _ _));rw[Vb _ k])<|gx (fu:=⟨1⟩) J<|?_;obtain⟨w,hw⟩: ∃w,w=((dg a).getD i 0+(dg a).getD (i+1) 0*4294967296)/2^k%4294967296:=⟨_,rfl⟩;have hw1:w<4294967296:=hw▸dJ _ pb;refine aj 63 (.d (dU w)) J (by show FX.d (.v (.int _ _))= .d (.v (.int _ _));congr 3;rw[hw];rfl)<|gx J<|sb _ ((W.set i w).map dU) J (gc) J omX J<|at_ ⟨W.set i w,i+1⟩ (by dsimp only;exact⟨⟨by simpa using h1,h2.set _ m5,m5,by rw[xI,h4];exact(PQ hk (by have:=Et (ik a) i;rwa [dG] at this) hw).symm⟩,m5⟩)
  .
   refine fz 27 J J<|cl rfl (uC (ds:=W)) rfl<|rz rfl (ma h2 (by obtain rfl:i=(dg a).length:=m5;exact aGU rfl h1 h4))
def VM(c:Nat)(h:c<18446744073709551616):(BitVec.ofInt 64 (c:Int) &&& BitVec.ofInt 64 4294967295).toNat=c%4294967296:=by
 rw[BitVec.toNat_and,BitVec.ofInt_natCast,BitVec.toNat_ofNat,iN m5,show(BitVec.ofInt 64 4294967295).toNat=2^32-1 from J,Nat.and_two_pow_sub_one_eq_mod]
structure Z8 (a b n s l:Nat):Prop where
 hn:(dg b).length=n+2
 hs:s=32-bl ((dg b).getD (n+1) 0)
 hb:bl ((dg b).getD (n+1) 0)<=32
 s32:s<32
 vl:(dg (b*2^s)).length=n+2
 v2:b*2^s<4294967296^(n+2)
 al:(dg a).length=n+1+l
 u0:(dg a).length<=(dg (a*2^s)).length
 u1:a*2^s<4294967296^((dg a).length+1)
 u3:a*2^s<b*2^s*4294967296^l
 bp:0<b
def aBS{a b:Nat}(hb2:2<=(dg b).length)(hle:b<=a): ∃n s l,Z8 a b n s l:=by
 have hoa:=ik a;have hob:=ik b;have hna:=(gE a).2.2;have hnb:=(gE b).2.2;have ea:=dG a;have eb:=dG b;obtain⟨n,hn⟩: ∃n,(dg b).length=n+2:=⟨(dg b).length-2,m5⟩;have hbp:0<b:=iR fun h=>by subst h;rw[wm] at hb2;simp at hb2
 have hnm:(dg b).length<=(dg a).length:=by
  rcases jR (dg a).length (dg b).length with h|h
  .have:=zg hoa hnb h
   omega
  .exact h
 have htp:=NP hnb (n+1) hn;have htl:=hob.get (n+1);have hbv:=aLN hob (n+1) hn;have hbt:=C8 hob (n+1);obtain⟨s,hs⟩: ∃s,s=32-bl ((dg b).getD (n+1) 0):=⟨_,rfl⟩;obtain⟨hs32,hs1,hs2⟩:=ayl htp htl hs;have hpn:0<4294967296^(n+1):=gW pb;have hps:0<2^s:=gW pb;rw[eb] at hbv;have hV1:2147483648*4294967296^(n+1)<=b*2^s:=by
  refine dZ (bS _ hs1) ?_;rw[cM,cW (2^s),<-cM];exact bS _ m5
 have hV2:b*2^s<4294967296^(n+2):=by
  refine cN (nL (k:=2^s) (m:=((dg b).getD (n+1) 0+1)*4294967296^(n+1)) (by rw[dV,nM];omega) hps) ?_;rw[cM,cW (4294967296^(n+1)),<-cM,ya (n+1),cW _ 4294967296];exact bS _ hs2
 have hVl:(dg (b*2^s)).length=n+2:=aI7 (by show 4294967296^(n+1)<=_;omega) hV2 m5;have hal:=nq hoa;rw[ea] at hal;have hU2:a*2^s<4294967296^((dg a).length+1):=by
  rw[ya];exact pT hal (cN (Nat.pow_lt_pow_right pb hs32) pb)
 have hUl0:(dg a).length<=(dg (a*2^s)).length:=by
  have hane:dg a≠[]:=fun h=>by
   have:=congrArg List.length h;simp only[eK] at this;omega
  have h1:=xK hna hane;have h2:=nq (gE (a*2^s)).2.1;rw[(gE _).1] at h2;rw[ea] at h1;have h3:a<=a*2^s:=nK _ hps;have h4:=(oN (a:=4294967296) pb).1 (fQ (dZ h1 h3) h2);omega
 have hU3:a*2^s<b*2^s*4294967296^((dg a).length-n-1):=by
  have h1:4294967296^(n+1)*4294967296^((dg a).length-n-1)=4294967296^(dg a).length:=by rw[<-fU,show n+1+((dg a).length-n-1)=(dg a).length by omega]
  refine cN (nL hal hps) (dZ (gX _ (bT pb (show s<=31 by omega))) ?_);rw[<-h1,cW,<-cM];exact bS _ hV1
 exact⟨n,s,(dg a).length-n-1,hn,hs,qb.2 htl,hs32,hVl,hV2,m5,hUl0,hU2,hU3,hbp⟩
section
variable {n:Nat}{Q0:Exit->Act->World->Prop}{fr fr':aD}{own own':aI}{cf cf':Cf}{vc:List Prop}
def O9(fr:aD)(cf:Cf):Option (Int×Int):=match de fr cf with
 |some ⟨_, .binOp .add _ x y _,_,_,_,_⟩=>match aP (cj fr cf) x,aP (cj fr cf) y with
  |some (.d (.v (.int .u32 p))),some (.d (.v (.int .u32 q)))=>some (p,q)
  |_,_=>none
 |_=>none
def aw[fu:Fu]{p q:Int}(u:Int)(h:O9 fr cf=some (p,q))(e:IntKind.u32.wrap (p+q)=u)(hgo:cF tt n fu.n fr own cf (.d (.v (.int .u32 u))) [] []=⟨vc,fr',own',cf'⟩)(k:av prog GB C n Q0 fr' own' cf')
  (hv:autoParam (ak vc) cL._auto_1):av prog GB C n Q0 fr own cf:=by
 unfold O9 at h;split at h<;>try (cases h;done)
 rename_i hh;split at h<;>cases h;rename_i h1 h2;subst e;exact us hh (.yd fun ρ G ov a w r=>by
  obtain⟨y1,h3,h4⟩:=r.ev h1;obtain⟨y2,h5,h6⟩:=r.ev h2;rw[dl] at h4 h6;subst h4 h6;exact⟨_,dl.2 J,l7 h3 h5 fun w=>J⟩) hgo hv k
end
def aBX{m:Nat}(h:U<4294967296^m):dv ((dg U++[0,0]).take m)=U:=by
 have h1:dv (dg U++[0,0])=U:=by rw[show([0,0]:List Nat)=List.replicate 2 0 from J,Y',dG]
 have h2:=yc (dg U++[0,0]) m;rw[A1 (by rw[h1];exact h),h1] at h2;omega
def aIy{a:Nat}[h:BN a ia](hv:vs=dg (a*2^k))(hk:k<32)(h0:0<(dg a).length)(hi:ia<=1000000000):PR GB prog 294 [dN a, .v (.int .u64 (k:Nat))] 1 225 (vs.map dU):=by
 subst hv;exact NU hk h0 hi
def aEI{us:List Nat}{n:Nat}(huo:bF us)(hvo:bF vs)(hvB:dv vs<4294967296^(n+2))(hv0:0<dv vs)(hvh:dv vs=(T*4294967296+S)*4294967296^n+dv (vs.take n))(hlt:dv us<dv vs*4294967296^(i+1)):
  ∃f p V w:Nat,f=us.getD (i+n+2) 0*4294967296+us.getD (i+n+1) 0/\V=dv vs*4294967296^i/\0<V/\dv us<V*4294967296/\(f*4294967296+us.getD (i+n) 0)*p<=dv us/\dv us<(f*4294967296+us.getD (i+n) 0+1)*p/\V=(T*4294967296+S)*p+w/\w<p/\dv us<4294967296^(i+n+3):=by
 have hpi:0<4294967296^i:=gW pb;obtain⟨p,hp⟩: ∃p,p=4294967296^(i+n):=⟨_,rfl⟩;have hM:dv us<4294967296^(i+n+3):=by
  refine cN hlt ?_;rw[show i+n+3=(n+2)+(i+1) by omega,fU 4294967296 (n+2) (i+1)];exact bS _ (gU hvB)
 have huh:=aL2 huo (i+n) hM;have hu0:=C8 huo (i+n);rw[<-hp] at huh hu0;refine⟨_,p,_,dv (vs.take n)*4294967296^i,J,J,iM hv0 hpi,by rw[cM,<-ya];exact hlt,m5,by rw[dV _ 1,nM];omega,?_,?_,hM⟩
 .rw[hvh,dV,hp,fU,cW (4294967296^i),cM]
 .rw[hp,fU,cW]
  exact Nat.mul_lt_mul_of_pos_left (C8 hvo n) hpi
def aEx{g bo c c1 xx:Nat}(hl:i+k<ws.length)(hw:dv ws+g*(dv (vs.take k)*4294967296^i)=u+(bo+c)*4294967296^(i+k))(hc1:c1=c+g*vs.getD k 0)(hx1:xx%4294967296+(c1%4294967296+bo)=ws.getD (i+k) 0+xx/9223372036854775808*4294967296):
  dv (ws.set (i+k) (xx%4294967296))+g*(dv (vs.take (k+1))*4294967296^i)=u+(xx/9223372036854775808+c1/4294967296)*4294967296^(i+(k+1)):=by
 rw[pE,dV (dv (vs.take k)),<-lR i k 1,ya,show 4294967296^k*vs.getD k 0*4294967296^i=vs.getD k 0*4294967296^(i+k) by rw[fU,cW (4294967296^k),cM,cW (4294967296^k)],fY,<-cM g (vs.getD k 0)];exact aGR (xA ws (i+k) _ hl) hw hc1 hx1
def aEW(hl:i+k<wa.length)(ha:dv wa+ca*4294967296^(i+k)=u+dv (vs.take k)*4294967296^i):
  dv (wa.set (i+k) ((ca+(wa.getD (i+k) 0+vs.getD k 0))%4294967296))+(ca+(wa.getD (i+k) 0+vs.getD k 0))/4294967296*4294967296^(i+(k+1))=u+dv (vs.take (k+1))*4294967296^i:=by
 rw[pE,dV (dv (vs.take k)),<-lR i k 1,ya,show 4294967296^k*vs.getD k 0*4294967296^i=vs.getD k 0*4294967296^(i+k) by rw[fU,cW (4294967296^k),cM,cW (4294967296^k)]];exact aGh (xA wa (i+k) _ hl) ha
def aAN{a b n:Nat}{us:List Nat}(hp:0<2^s)(hvv:dv vs=b*2^s)(hv0:0<dv vs)(hvB:dv vs<4294967296^(n+2))(hinv:a*2^s=dv us+dv vs*dv qs)(hlt:dv us<dv vs*4294967296^0):dv qs=a/b/\dv (us.take (n+2))/2^s=a%b:=by
 rw[tN,jT] at hlt;have hut:dv (us.take (n+2))=dv us:=by
  have h0:=yc us (n+2);rw[A1 m5] at h0;omega
 refine⟨?_,?_⟩
 .rw[<-Nat.mul_div_mul_right _ _ hp,hinv,<-hvv,qT _ _ hv0,mK hlt,eM]
 .have:dv us=a%b*2^s:=by rw[<-Nat.mul_mod_mul_right,hinv,<-hvv,rQ,iN hlt]
  rw[hut,this,Nat.mul_div_cancel _ hp]
def aL3{l:Nat}(hl:i<qs.length)(h:qs.getD i 0=0):dv (qs.set i d)=dv qs+4294967296^i*d:=by
 have:=xA qs i d hl;rw[h] at this;simpa using this
def Pf{a R V v:Nat}(hl:i<qs.length)(h0:qs.getD i 0=0)(hinv:a*2^s=u+v*dv qs)(hV:V=v*4294967296^i)(h:R+d*V=u):a*2^s=R+v*dv (qs.set i d):=by
 rw[hinv,<-h,aL3 (l:=0) hl h0,fY,<-cM,<-hV,cW d];omega
def SS(hq: ∀j,j<i+1->qs.getD j 0=0): ∀j,j<i->(qs.set i d).getD j 0=0:=fun j h=>by
 rw[getD_set_ne];exact hq j m5
theorem omr{p:Prop}(h:p:=by show FX.d (.v (.int _ _))= .d (.v (.int _ _));first|rfl|congr 3):p:=h
theorem okd{p:Prop}(h:p:=by first|omega|(have hd:=JF hUlt hVle hfg;rcases fW g with e|e;(rw[e,kM] at hd;omega);omega)):p:=h
def aJH{a b ia ib:Nat}[h:BN a ia][k:BN b ib](h2:2<=(dg b).length)(hle:b<=a)(hi:ia<=1000000000:=by decide)(hj:ib<=1000000000:=by decide):PF GB prog 253 [dN a,dN b] (.tp [dN (a/b),dN (a%b)]):=by
 have hla:=ck (dg a);have hba:=jH (a:=a) hi;have hlb:=ck (dg b);have hbb:=jH (a:=b) hj;obtain⟨n,s,l,P⟩:=aBS h2 hle;have hn:=P.hn;have hs:=P.hs;have hsb:=P.hb;have hs32:=P.s32;have hal:=P.al;have hu0:=P.u0;have hu9:=BO (a:=a*2^s) (k:=(dg a).length+1) P.u1;have htl:=fi b (n+1);obtain⟨vs,hvs⟩: ∃vs,vs=dg (b*2^s):=⟨_,rfl⟩;have hvl:vs.length=n+2:=by rw[hvs];exact P.vl
 have hvv:dv vs=b*2^s:=by rw[hvs,dG]
 have hvo:bF vs:=by rw[hvs];exact ik _
 have hvn:gi vs:=by rw[hvs];exact(gE _).2.2
 have hvm:=ck vs;obtain⟨us0,hus0⟩: ∃us0,us0=(dg (a*2^s)++[0,0]).take ((dg a).length+1):=⟨_,rfl⟩;have husv:dv us0=a*2^s:=by rw[hus0];exact aBX P.u1
 have huso:bF us0:=by rw[hus0];exact((ik _).append (.replicate 2)).take _
 have husl:us0.length=(dg a).length+1:=by rw[hus0];simp;omega
 have hps:0<2^s:=gW pb;have hbp:=P.bp;have hV0':0<dv vs:=by rw[hvv];exact iM hbp hps
 have hvB:dv vs<4294967296^(n+2):=by rw[hvv];exact P.v2
 obtain⟨T,hT⟩: ∃T,T=vs.getD (n+1) 0:=⟨_,rfl⟩;obtain⟨S,hS⟩: ∃S,S=vs.getD n 0:=⟨_,rfl⟩;have hTB:T<4294967296:=by rw[hT];exact hvo.get _
 have hSB:S<4294967296:=by rw[hS];exact hvo.get _
 have hT0:0<T:=by rw[hT];exact NP hvn (n+1) hvl
 have hvh:=aMM hvo n hvB;rw[<-hT,<-hS] at hvh;refine fn (fu:=⟨12⟩) func253 J J ntmps253 J J (fun C=>?_);refine aj 27 (.d (vI ((dg b).length:Nat))) J omJ<|gx J<|ix _ J (di (k:=n+1)) J<|cl (fu:=⟨1⟩) J (Jq htl) J<|aj 32 (.d (.v (.int .u64 (s:Nat)))) J (omb m5)<|gx J<|cr J (NU (a:=a) (k:=s) hs32 m5 hi) J<|rf J J<|ap (fu:=⟨2⟩) _ J J (CQ J) J<|aj 39 (.d (vI ((dg a).length:Nat))) J omm<|gx (fu:=⟨1⟩) J<|aj 40 (.d (vI ((dg a).length+1:Nat))) J omc<|gx (fu:=⟨0⟩) J<|IH (us0.map dU) ((dg a).length+1) J J omg (by rw[hus0,gM,bX];rfl) J<|cr (fu:=⟨7⟩) J (aIy (a:=b) (k:=s) (vs:=vs) hvs hs32 m5 hj) J<|aj 46 (.d (vI (n+2:Nat))) J (by rw[hvm,hvl]<;>rfl)<|gx J<|lb (fu:=⟨1⟩) _ J (di (k:=n+1)) J<|aj 52 (.d (.v (.int .u64 (T:Nat)))) J (by show FX.d (.v (.int _ _))= .d (.v (.int _ _));rw[hT])<|gx J<|lb (fu:=⟨1⟩) _ J (di (k:=n)) J<|aj 58 (.d (.v (.int .u64 (S:Nat)))) J (by show FX.d (.v (.int _ _))= .d (.v (.int _ _));rw[hS])<|gx (fu:=⟨8⟩) J<|aj 60 (.d (vI ((dg a).length+1:Nat))) J (by rw[ck,husl]<;>rfl)<|gx (fu:=⟨2⟩) J<|aj 62 (.d (vI (l:Nat))) J (omb m5)<|gx J<|mk (fu:=⟨11⟩) ((List.replicate l 0).map dU) J J omy J<|aj 65 (.d (vI (l:Nat))) J (by rw[ck,aR]<;>rfl)<|gx J<|lp (X:=List Nat×List Nat×Nat) (fun⟨us,qs,j⟩=>[(13, .d (vI ((j:Nat)-1)))]) (fun⟨us,qs,j⟩=>[(63,some (.b 225 1 (qs.map dU) true)),(41,some (.b 225 1 (us.map dU) true))]) (fun⟨us,qs,j⟩=>us.length=(dg a).length+1/\bF us/\qs.length=l/\bF qs/\j<=l/\(∀i,i<j->qs.getD i 0=0)/\a*2^s=dv us+dv vs*dv qs/\dv us<dv vs*4294967296^j) (fun⟨us,qs,j⟩=>j) ⟨us0,List.replicate l 0,l⟩ J ⟨husl,huso,vb, .replicate _,bW _,fun i _=>FT _ _,by simp only[zc];omega,by rw[husv,hvv];exact P.u3⟩ (fun _=>J) (fun⟨us,qs,j⟩ hk=>?_)
 try dsimp only at hk⊢
 obtain⟨hul,huo,hql,hqo,hjl,hq0,hinv,hlt⟩:=hk;refine br (fu1:=⟨0⟩) (fu2:=⟨0⟩) J J J (fun hc68=>?_) (fun hc68=>?_)
 .
  obtain⟨i,rfl⟩: ∃i,j=i+1:=⟨j-1,m5⟩;refine aj 13 (.d (vI (i:Nat))) J (omb m5) ?_;obtain⟨f,p,V,v0,hf,hV,hVp0,hltV,hUle,hUlt,hVp,hv0,hM⟩:=aEI (n:=n) (i:=i) huo hvo hvB hV0' hvh hlt;have hVle:(T*4294967296+S)*p<=V:=by rw[hVp];exact pY _ _
  have hfT:f<=T*4294967296+S:=aN3 hUle hVp hv0 hltV;have hg0:=huo.get (i+n);have hg1:=huo.get (i+n+1);have hg2:=huo.get (i+n+2);have hum:=ck us;have hqm:=ck qs;refine gx J<|lb (fu:=⟨2⟩) (hv:=by simp only[ak];exact⟨m5,pb⟩) _ J (di (k:=i+n+2)) J<|aj 78 (.d (.v (.int .u64 (us.getD (i+n+2) 0*4294967296:Nat)))) J omk<|gx J<|lb (fu:=⟨2⟩) _ J (di (k:=i+n+1)) J<|aj 87 (.d (.v (.int .u64 (f:Nat)))) J (congrArg (fun z:Nat=>FX.d (.v (.int .u64 (z:Int)))) ((congrArg BitVec.toNat (BitVec.or_comm ..)).trans ((r6 64 (us.getD (i+n+1) 0) (us.getD (i+n+2) 0) 32 hg1 omn).trans (by show _+_*4294967296=_;omega))))<|gx (fu:=⟨8⟩) (hv:=by simp only[ak];exact⟨v6,m5⟩) J<|aj 90 (.d (.v (.int .u64 (f/T:Nat)))) J omr<|gx (fu:=⟨3⟩) J<|aj 93 (.d (.v (.int .u64 (f%T:Nat)))) J omr<|gx (fu:=⟨5⟩) J<|mg (fu:=⟨11⟩) (X:=Nat) (fun g=>[(15, .d (.v (.int .u64 (g:Nat))))]) (fun g=>[]) (fun g=>g<4294967296/\dv us<(g+1)*V/\g*V<dv us+V) [15,16] [] rfl ?_ (fun _=>J) (fun g ⟨hgB,hlo,hhi⟩=>?_)
  .
   refine gx J<|lp (fu:=⟨5⟩) (hv:=fun _ _=>by simp only[ak];exact pb) (X:=Nat×Nat) (fun⟨g,r⟩=>[(15, .d (.v (.int .u64 (g:Nat)))),(16, .d (.v (.int .u64 (r:Nat))))]) (fun⟨g,r⟩=>[]) (fun⟨g,r⟩=>f=g*T+r/\r<4294967296/\dv us<(g+1)*V) (fun⟨g,r⟩=>g) ⟨f/T,f%T⟩ J ⟨(Nat.div_add_mod' ..).symm,tM (dJ _ hT0) hTB,aEQ hUlt hg0 hVle hT0⟩ (fun _=>J) (fun⟨g,r⟩ hk=>?_)
   try dsimp only at hk⊢
   obtain⟨hfg,hrB,hlo⟩:=hk;have hgT:g*1<=g*T:=gX _ hT0;refine aj 95 (.d (.v (.int .u64 (g/4294967296:Nat)))) rfl okh<|gx rfl<|cs (fu1:=⟨26⟩) (v1:=fun hg97=>by simp only[ak];exact okd) (fu2:=⟨3⟩) (v2:=fun hg97=>by simp only[ak];exact⟨(By _ _),(AW (show g<4294967296 by omega) hSB)⟩) 97 J J J (fun hg97=>?_) (fun hg97=>?_)
   .
    have hgB4:4294967296<=g:=by omega
    have hdec:dv us<g*V:=cN hltV (by rw[cW];exact bS _ hgB4);obtain⟨g',rfl⟩: ∃g',g=g'+1:=⟨g-1,by rcases fW g with h|h;(rw[h,kM] at hdec;omega);omega⟩;have hfg':f=g'*T+(r+T):=by rw[hfg,dV,nM];omega
    refine aj 115 (.d (.v (.int .u64 (g':Nat)))) J (omb m5)<|gx (fu:=⟨8⟩) J<|aj 118 (.d (.v (.int .u64 (r+T:Nat)))) J omr<|gx (fu:=⟨7⟩) (hv:=by simp only[ak];exact pb) J<|aj 120 (.d (.v (.int .u64 ((r+T)/4294967296:Nat)))) J okh<|gx J<|br J J J (fun hc121=>?_) (fun hc121=>?_)
    .
     have hgB3:g'<4294967296:=by rcases jR g' 4294967296 with h|h;(exact h);(have:=bS T h;omega)
     have hgS3:g'*S<=(r+T)*4294967296+us.getD (i+n) 0:=by have h1:=iS (gU hgB3) (gU hSB);omega
     exact at_ g' ⟨hgB3,hdec,Hn hUle hVp hv0 hT0 hfg' hgB3 hgS3⟩
    .
     exact at_ ⟨g',r+T⟩ (by dsimp only;exact⟨⟨hfg',m5,hdec⟩,m5⟩)
   .
    have hgB:g<4294967296:=by omega
    have hgS:g*S<4294967296*4294967296:=pT hgB hSB;refine aj 100 (.d (.v (.int .u64 (g*S:Nat)))) rfl (by rw[jQ])<|gx (fu:=⟨2⟩) (hv:=by simp only[ak];exact pb) rfl<|aj 102 (.d (.v (.int .u64 (r*4294967296:Nat)))) rfl (by show FX.d (.v (.int _ _))= .d (.v (.int _ _));rw[rj _ 32 pb omx rfl])<|gx rfl<|lb (fu:=⟨2⟩) _ rfl (di (k:=i+n)) rfl<|aj 111 (.d (.v (.int .u64 (r*4294967296+us.getD (i+n) 0:Nat)))) rfl (congrArg (fun z:Nat=>FX.d (.v (.int .u64 (z:Int)))) ((congrArg BitVec.toNat (BitVec.or_comm ..)).trans ((r6 64 (us.getD (i+n) 0) (r) 32 hg0 omn).trans (by show _+_*4294967296=_;omega))))<|gx rfl<|br (fu1:=⟨7⟩) (v1:=fun hc113=>by simp only[ak];exact okd) rfl rfl rfl (fun hc113=>?_) (fun hc113=>?_)
    .
     have hdec:dv us<g*V:=JF hUlt hVle hfg;obtain⟨g',rfl⟩: ∃g',g=g'+1:=⟨g-1,by rcases fW g with h|h;(rw[h,kM] at hdec;omega);omega⟩;have hfg':f=g'*T+(r+T):=by rw[hfg,dV,nM];omega
     refine aj 115 (.d (.v (.int .u64 (g':Nat)))) J (omb m5)<|gx (fu:=⟨8⟩) J<|aj 118 (.d (.v (.int .u64 (r+T:Nat)))) J omr<|gx (fu:=⟨7⟩) (hv:=by simp only[ak];exact pb) J<|aj 120 (.d (.v (.int .u64 ((r+T)/4294967296:Nat)))) J okh<|gx J<|br J J J (fun hc121=>?_) (fun hc121=>?_)
     .
      have hgB3:g'<4294967296:=by rcases jR g' 4294967296 with h|h;(exact h);(have:=bS T h;omega)
      have hgS3:g'*S<=(r+T)*4294967296+us.getD (i+n) 0:=by have h1:=iS (gU hgB3) (gU hSB);omega
      exact at_ g' ⟨hgB3,hdec,Hn hUle hVp hv0 hT0 hfg' hgB3 hgS3⟩
     .
      exact at_ ⟨g',r+T⟩ (by dsimp only;exact⟨⟨hfg',m5,hdec⟩,m5⟩)
    .
     exact at_ g ⟨hgB,hlo,Hn hUle hVp hv0 hT0 hfg hgB m5⟩
  .
   refine aj 123 (.d (vI (n+2:Nat))) J (by rw[hvm,hvl]<;>rfl)<|gx J<|lp (X:=List Nat×Nat×Nat×Nat) (fun⟨ws,k,bo,c⟩=>[(124, .d (vI (k:Nat))),(17, .d (.v (.int .u64 (bo:Nat)))),(18, .d (.v (.int .u64 (c:Nat))))]) (fun⟨ws,k,bo,c⟩=>[(41,some (.b 225 1 (ws.map dU) true))]) (fun⟨ws,k,bo,c⟩=>ws.length=(dg a).length+1/\bF ws/\k<=n+2/\bo<=1/\c<4294967296/\dv ws<4294967296^(i+n+3)/\dv ws+g*(dv (vs.take k)*4294967296^i)=dv us+(bo+c)*4294967296^(i+k)) (fun⟨ws,k,bo,c⟩=>n+2-k) ⟨us,0,0,0⟩ J ⟨hul,huo,bK _,bK _,pb,hM,by simp[dv]⟩ (fun _=>J) (fun⟨ws,k,bo,c⟩ hk=>?_)
   try dsimp only at hk⊢
   obtain⟨hwl,hwo,hk2,hbo,hc4,hwM,hw⟩:=hk;refine br J J J (fun hc125=>?_) (fun hc125=>?_)
   .
    have hvk:=hvo.get k;have hwg:=hwo.get (i+k);have hgd:g*vs.getD k 0<=4294967295*4294967295:=iS m5 m5;obtain⟨c1,hc1⟩: ∃c1,c1=c+g*vs.getD k 0:=⟨_,rfl⟩;have hc1m:c1%4294967296<4294967296:=dJ _ pb;obtain⟨hx1,hx2,hx3⟩:=P3 (ws.getD (i+k) 0) (c1%4294967296) bo hwg hc1m hbo;obtain⟨xx,hxx⟩: ∃x,x=vD (ws.getD (i+k) 0) (c1%4294967296) bo:=⟨_,rfl⟩;rw[<-hxx] at hx1 hx2 hx3;have hwm:=ck ws;refine lb (fu:=⟨11⟩) (hv:=by simp only[ak];exact⟨m5,⟨(By _ _),(AW hgB hvk)⟩⟩) _ J (gc) J<|aj 133 (.d (.v (.int .u64 (g*vs.getD k 0:Nat)))) J (by rw[jQ])<|gx (fu:=⟨1⟩) J<|aj 134 (.d (.v (.int .u64 (c1:Nat)))) J (omb m5)<|gx J<|lb (fu:=⟨3⟩) _ J (di (k:=i+k)) J<|aj 143 (.d (.v (.int .u64 (c1%4294967296:Nat)))) J (congrArg (fun z:Nat=>FX.d (.v (.int .u64 (z:Int)))) (VM c1 m5))<|gx (fu:=⟨0⟩) J<|sd (fu:=⟨1⟩) (IntKind.u64.wrap (((ws.getD (i+k) 0:Nat):Int)-((c1%4294967296:Nat):Int))) J J J<|sd (fu:=⟨11⟩) ((xx:Nat):Int) J (by rw[hxx];exact Dt _ _ _ hwg hc1m hbo) J<|aj 152 (.d (dU (xx%4294967296))) J omc<|gx J<|sb (fu:=⟨6⟩) (hv:=by simp only[ak];exact pb) _ ((ws.set (i+k) (xx%4294967296)).map dU) J (di (k:=i+k)) J (by(rw[show((i:Int)+k).toNat=i+k by omega,<-kD])<;>rfl) J<|aj 155 (.d (.v (.int .u64 (xx/9223372036854775808:Nat)))) J (by rw[Lb])<|gx (fu:=⟨6⟩) (hv:=by simp only[ak];exact pb) J<|aj 157 (.d (.v (.int .u64 (c1/4294967296:Nat)))) J okh<|gx J<|at_ ⟨ws.set (i+k) (xx%4294967296),k+1,xx/9223372036854775808,c1/4294967296⟩ (by dsimp only;exact⟨⟨by simpa using hwl,hwo.set _ (dJ _ pb),m5,hx2,m5,FL hwo (dJ _ pb) hwM,aEx m5 hw hc1 hx1⟩,m5⟩)
   .
    obtain rfl:k=n+2:=by omega
    rw[bM m5,<-hV] at hw;have hwg:=hwo.get (i+n+2);obtain⟨hx1,hx2,hx3⟩:=P3 (ws.getD (i+n+2) 0) c bo hwg hc4 hbo;obtain⟨xx,hxx⟩: ∃x,x=vD (ws.getD (i+n+2) 0) c bo:=⟨_,rfl⟩;rw[<-hxx] at hx1 hx2 hx3;have hwm:=ck ws;obtain⟨ws2,hws2⟩: ∃z,z=ws.set (i+n+2) (xx%4294967296):=⟨_,rfl⟩;have hl2:=Vx (xA ws (i+n+2) (xx%4294967296) m5) hw hx1;rw[<-ya,<-hws2] at hl2;have hM2:=FL (i:=i+n+2) (d:=xx%4294967296) hwo (dJ _ pb) hwM;have ho2:=hwo.set (i+n+2) (d:=xx%4294967296) (dJ _ pb);have hn2:ws2.length=(dg a).length+1:=by rw[hws2,bZ];exact hwl
    rw[<-hws2] at hM2 ho2;replace hl2:dv ws2+g*V=dv us+xx/9223372036854775808*4294967296^(i+n+3):=hl2;have hqi:=hq0 i m5;obtain⟨q2,hq2⟩: ∃z,z=qs.set i g:=⟨_,rfl⟩;have hq2l:q2.length=l:=by rw[hq2,bZ];exact hql
    have hq2m:=ck q2;have hwm2:=ck ws2;refine lb (fu:=⟨2⟩) _ J (di (k:=i+n+2)) J<|sd (fu:=⟨1⟩) (IntKind.u64.wrap (((ws.getD (i+n+2) 0:Nat):Int)-((c:Nat):Int))) J J J<|sd (fu:=⟨11⟩) ((xx:Nat):Int) J (by rw[hxx];exact Dt _ _ _ hwg hc4 hbo) J<|aj 175 (.d (dU (xx%4294967296))) J omc<|gx J<|sb (fu:=⟨8⟩) _ (ws2.map dU) J (di (k:=i+n+2)) J (by(rw[hws2,show((i:Int)+((n+2:Nat):Int)).toNat=i+n+2 by omega,<-kD])<;>rfl) J<|aj 180 (.d (dU g)) J (omb m5)<|gx J<|sb (fu:=⟨7⟩) (hv:=by simp only[ak];exact pb) _ (q2.map dU) J (gc) J (by rw[hq2,<-kD];rfl) J<|aj 183 (.d (.v (.int .u64 (xx/9223372036854775808:Nat)))) J (by rw[Lb])<|gx J<|br J J J (fun hc184=>?_) (fun hc184=>?_)
    .
     have ht0:xx/9223372036854775808=0:=by omega
     rw[ht0,kM,gQ] at hl2;exact at_ ⟨ws2,q2,i⟩ (by dsimp only;exact⟨⟨hn2,ho2,hq2l,by rw[hq2];exact hqo.set _ hgB,m5,by rw[hq2];exact SS hq0,by rw[hq2];exact Pf m5 hqi hinv hV hl2,by rw[<-hV];exact Zx hlo hl2⟩,m5⟩)
    .
     have ht1:xx/9223372036854775808=1:=by omega
     rw[ht1,nM] at hl2;obtain⟨g',rfl⟩: ∃g',g=g'+1:=⟨g-1,by rcases fW g with h|h;(rw[h,kM] at hl2;omega);omega⟩;have hqs:q2.getD i 0=g'+1:=by rw[hq2];exact Bl m5
     refine lb (fu:=⟨0⟩) _ J (gc) J<|aj 188 (.d (dU (g'+1))) J (by first|rw[hqs]|(simp only[cX];rw[hqs]))<|gx (fu:=⟨0⟩) J<|sw ((g':Nat):Int) J m5 J<|sb (fu:=⟨12⟩) _ ((qs.set i g').map dU) J (gc) J (by simp only[cX,hq2,jM,List.set_set]<;>rfl) J<|aj 192 (.d (vI (n+2:Nat))) J (by rw[hvm,hvl]<;>rfl)<|gx J<|lp (X:=List Nat×Nat×Nat) (fun⟨wa,k,ca⟩=>[(193, .d (vI (k:Nat))),(18, .d (.v (.int .u64 (ca:Nat))))]) (fun⟨wa,k,ca⟩=>[(41,some (.b 225 1 (wa.map dU) true))]) (fun⟨wa,k,ca⟩=>wa.length=(dg a).length+1/\bF wa/\k<=n+2/\ca<=1/\dv wa<4294967296^(i+n+3)/\dv wa+ca*4294967296^(i+k)=dv ws2+dv (vs.take k)*4294967296^i) (fun⟨wa,k,ca⟩=>n+2-k) ⟨ws2,0,0⟩ J ⟨hn2,ho2,bK _,bK _,hM2,by simp[dv]⟩ (fun _=>J) (fun⟨wa,k,ca⟩ hk=>?_)
     try dsimp only at hk⊢
     obtain⟨hal2,hao,hk2,hac,haM,ha⟩:=hk;refine br J J J (fun hc194=>?_) (fun hc194=>?_)
     .
      have hvk:=hvo.get k;have hag:=hao.get (i+k);obtain⟨t,ht⟩: ∃t,t=ca+(wa.getD (i+k) 0+vs.getD k 0):=⟨_,rfl⟩;have ham:=ck wa;refine lb _ J (gc) J<|lb (fu:=⟨5⟩) _ J (di (k:=i+k)) J<|aj 209 (.d (.v (.int .u64 (t:Nat)))) J (omb m5)<|gx (fu:=⟨11⟩) J<|aj 215 (.d (dU (t%4294967296))) J omc<|gx J<|sb (fu:=⟨5⟩) (hv:=by simp only[ak];exact pb) _ ((wa.set (i+k) (t%4294967296)).map dU) J (di (k:=i+k)) J (by(rw[show((i:Int)+k).toNat=i+k by omega,<-kD])<;>rfl) J<|aj 218 (.d (.v (.int .u64 (t/4294967296:Nat)))) J okh<|gx J<|at_ ⟨wa.set (i+k) (t%4294967296),k+1,t/4294967296⟩ (by dsimp only;exact⟨⟨by simpa using hal2,hao.set _ (dJ _ pb),m5,m5,FL hao (dJ _ pb) haM,by rw[ht];exact aEW m5 ha⟩,m5⟩)
     .
      obtain rfl:k=n+2:=by omega
      rw[bM m5,<-hV] at ha;have hag:=hao.get (i+n+2);have ham:=ck wa;have hl4:=Wp (xA wa (i+n+2) ((wa.getD (i+n+2) 0+ca)%4294967296) m5) ha;rw[<-ya] at hl4;have hM4:=FL (i:=i+n+2) (d:=(wa.getD (i+n+2) 0+ca)%4294967296) hao (dJ _ pb) haM;obtain⟨hR1,hR2⟩:=aEC hhi hl2 hl4 hM2 hM4 m5 (Nat.succ_pos _);refine lb (fu:=⟨2⟩) _ J (di (k:=i+n+2)) J<|aj 227 (.d (dU ca)) J (omb m5)<|gx (fu:=⟨0⟩) J<|aw (((wa.getD (i+n+2) 0+ca)%4294967296:Nat):Int) J (by rw[u'];omega) J<|sb _ ((wa.set (i+n+2) ((wa.getD (i+n+2) 0+ca)%4294967296)).map dU) J (di (k:=i+n+2)) J (by(rw[show((i:Int)+((n+2:Nat):Int)).toNat=i+n+2 by omega,<-kD])<;>rfl) J<|at_ ⟨wa.set (i+n+2) ((wa.getD (i+n+2) 0+ca)%4294967296),qs.set i g',i⟩ (by dsimp only;exact⟨⟨by simpa using hal2,hao.set _ (dJ _ pb),by simpa using hql,hqo.set _ m5,m5,SS hq0,Pf m5 hqi hinv hV hR1,by rw[<-hV];exact hR2⟩,m5⟩)
 .
  refine oA 63 J<|oA 41 J ?_;obtain rfl:j=0:=by omega
  obtain⟨e1,e2⟩:=aAN hps hvv hV0' hvB hinv hlt;refine gx J<|cl J (uC (ds:=qs)) J<|kt (fu:=⟨0⟩) 0 (n+2) _ J J J J (sO _) m5 omg J<|aj 234 (.d (et (us.take (n+2)))) J (by first|rfl|(show FX.d (.sl _)=FX.d (.sl _);simp))<|gx J<|cl J (VE (ds:=us.take (n+2)) (huo.take _) omg hs32) J<|rz J (by show DV.tp [et _,dN _]= .tp [dN _,dN _];rw[ma hqo e1,e2])
def C7{a b:Nat}[h:BN a i][k:BN b j](hb:0<b)(hi:i<=1000000000:=by decide)(hj:j<=1000000000:=by decide):PF GB prog 190 [dN a,dN b] (.tp [dN (a/b),dN (a%b),vB true]):=by
 have hla:=ck (dg a);have hba:=jH (a:=a) hi;have hlb:=ck (dg b);have hbb:=jH (a:=b) hj;have hb0:(dg b).length≠0:=fun e=>by have:=BH e;omega
 have hcn:=A9 (a:=a) (b:=b);have hd0:=fi b 0;refine fn func190 J J ntmps190 J J (fun C=>?_);refine cl J (qH) J<|cl (fu:=⟨10⟩) J (qH) J<|aj 17 (.d (vI ((dg b).length:Nat))) J omJ<|gx (fu:=⟨0⟩) J<|c9 J (oma m5) J<|cl J (TG (a:=a) (b:=b) hi hj) J<|br (fu2:=⟨4⟩) J J J (fun hc19=>?_) (fun hc19=>?_)
 .
  refine cl J (Uq (ds:=dg a) (ik _)) J<|rz J (by have hlt:=hcn.1 m5;rw[mK hlt,iN hlt,pe];rfl)
 .
  refine aj 28 (.d (vI ((dg b).length:Nat))) J omJ<|gx J<|br J J J (fun hc26=>?_) (fun hc26=>?_)
  .
   have h1:(dg b).length=1:=by omega
   have e1:=xw h1;have hmd:=dJ a (show 0<(dg b).getD 0 0 by omega);refine ix _ J (di (k:=0) J m5) J<|cl J (aF2 (a:=a) (d:=(dg b).getD 0 0) m5 m5 hi) J<|cl J (AU (a:=a%(dg b).getD 0 0) (by have:=dJ a (show 0<(dg b).getD 0 0 by omega);omega)) J<|rz J (by rw[e1];rfl)
  .
   refine cl J (aJH (a:=a) (b:=b) m5 m5 hi hj) J<|rz J J
def Qo{a:Nat}(h:(dg a).length<=2:=by omega):a<18446744073709551616:=by
 have h1:=so a;have h2:(4294967296:Nat)^(dg a).length<=4294967296^2:=bT pb h;omega
theorem okr{p:Prop}(h:p:=by dsimp only;exact⟨⟨by rw[<-hg,jL B,<-uJ,jL],hB,tM (dJ _ hBp) hB⟩,(dJ _ hBp)⟩):p:=h
theorem ozf{p:Prop}(h:p:=by have hB0:B=0:=BH;rw[hB0,oJ] at hg;rw[<-hg];rfl):p:=h
def IA{a b:Nat}[h:BN a i][k:BN b j](hi:i<=1000000000:=by decide)(hj:j<=1000000000:=by decide):PF GB prog 189 [dN a,dN b] (dN (Nat.gcd a b)):=by
 obtain⟨m,hm⟩: ∃m,m=max i j:=⟨_,rfl⟩;have e0: ∀k',k'<=m->(2:Nat)^k'<=2^m:=fun k' h=>bT pb h;have ha9:a<2^m:=cN h.h (e0 i m5);have hb9:b<2^m:=cN k.h (e0 j m5);refine fn func189 J J ntmps189 J J (fun C=>?_);refine cl J (wI (a:=a) (i:=i) m5) J<|cl J (wI (a:=b) (i:=j) m5) J<|lp (fu:=⟨5⟩) (X:=Nat×Nat) (fun⟨A,B⟩=>[(0, .d (dN A)),(1, .d (dN B))]) (fun⟨A,B⟩=>[]) (fun⟨A,B⟩=>Nat.gcd A B=Nat.gcd a b/\A<2^m/\B<2^m) (fun⟨A,B⟩=>B) ⟨a,b⟩ J ⟨J,ha9,hb9⟩ (fun _=>J) (fun⟨A,B⟩ hk=>?_)
 try dsimp only at hk⊢
 obtain⟨hg,hA,hB⟩:=hk;haveI:BN A m:=⟨hA⟩;haveI:BN B m:=⟨hB⟩;have hlA:=ck (dg A);have hlB:=ck (dg B);have hbA:=jH (a:=A) (i:=m);have hbB:=jH (a:=B) (i:=m);refine aj 17 (.d (vI ((dg A).length:Nat))) J (by rw[hlA]<;>rfl)<|gx J<|cs (fu1:=⟨15⟩) (fu2:=⟨2⟩) 19 J J J (fun hg19=>?_) (fun hg19=>?_)
 .
  refine aj 25 (.d (vI ((dg B).length:Nat))) J (by rw[hlB]<;>rfl)<|gx J<|br J J J (fun hc26=>?_) (fun hc26=>?_)
  .
   exact rz J ozf
  .
   have hBp:0<B:=iR fun e=>hc26 (by rw[e,wm];rfl);refine cl J (C7 (a:=A) (b:=B) (i:=m) (j:=m) hBp m5 m5) J<|at_ ⟨B,A%B⟩ okr
 .
  refine aj 21 (.d (vI ((dg B).length:Nat))) J (by rw[hlB]<;>rfl)<|gx J<|br (fu1:=⟨8⟩) J J J (fun hc23=>?_) (fun hc23=>?_)
  .
   refine aj 25 (.d (vI ((dg B).length:Nat))) J (by rw[hlB]<;>rfl)<|gx J<|br J J J (fun hc26=>?_) (fun hc26=>?_)
   .
    exact rz J ozf
   .
    have hBp:0<B:=iR fun e=>hc26 (by rw[e,wm];rfl);refine cl J (C7 (a:=A) (b:=B) (i:=m) (j:=m) hBp m5 m5) J<|at_ ⟨B,A%B⟩ okr
  .
   have hA2:=Qo (a:=A);have hB2:=Qo (a:=B);refine cl J (Cc (a:=A) hA2) J<|cl J (Cc (a:=B) hB2) J<|lp (X:=Nat×Nat) (fun⟨u,v⟩=>[(8, .d (.v (.int .u64 (u:Nat)))),(10, .d (.v (.int .u64 (v:Nat))))]) (fun⟨u,v⟩=>[]) (fun⟨u,v⟩=>Nat.gcd u v=Nat.gcd a b/\u<18446744073709551616/\v<18446744073709551616) (fun⟨u,v⟩=>v) ⟨A,B⟩ J ⟨hg,hA2,hB2⟩ (fun _=>J) (fun⟨u,v⟩ hk=>?_)
   try dsimp only at hk⊢
   obtain⟨hg2,hu,hv⟩:=hk;refine br (fu1:=⟨8⟩) J J J (fun hc48=>?_) (fun hc48=>?_)
   .
    refine aj 52 (.d (.v (.int .u64 (u%v:Nat)))) J omr<|gx J<|at_ ⟨v,u%v⟩ (by dsimp only;exact⟨⟨by rw[<-hg2,jL v,<-uJ,jL],hv,tM (dJ _ m5) hv⟩,(dJ _ m5)⟩)
   .
    obtain rfl:v=0:=by omega
    rw[oJ] at hg2;refine cl J (AU (a:=u) hu) J<|rz J (by rw[hg2];rfl)

def KS{x:Nat}:bl x=0↔x=0:=by
 have:= @qb x 0;simp at this;omega
def w9{a:Nat}:0<(dg a).length↔0<a:=by
 have:= @wh a;omega
def eS(neg:Bool)(a:Nat):DV:= .ag [.v (.bool neg),dN a]
def Ed(neg:Bool)(a:Nat):eI (zv neg a)= .ag [.v (.bool (neg&&decide (0<a))),dN a]:=by unfold eI;rw[sC,Ml]
def XQ{b:Int}(h:n≠decide (b<0))(hle:b.natAbs<=u):zv n (u-b.natAbs)=zv n u+b:=by cases n<;>simp[zv] at* <;>omega
def YJ{b:Int}(h:n≠decide (b<0))(hle:u<=b.natAbs):zv (decide (b<0)) (b.natAbs-u)=zv n u+b:=by cases n<;>simp[zv] at* <;>(try rw[if_pos h])<;>(try rw[if_neg m5])<;>omega
theorem okw{p:Prop}(h:p:=by unfold vB;congr 2;simp_all [gg]):p:=h
def avi(hd:bF ds)(hl:ds.length<=1125899906842624):PF GB prog 264 [.ag [.v (.bool neg),et ds]] (vB (decide (gi ds/\(neg=true->0<ds.length)))):=by
 refine fn func264 J J ntmps264 J J (fun C=>?_);refine cl J (Qp hd hl) J<|csd 6 J J J (fun hg6=>?_) (fun hg6=>?_)
 .
  refine je 10 J J J (fun hg10=>?_) (fun hg10=>?_)
  .
   exact rz J okw
  .
   exact rz J okw
 .
  exact rz J okw
theorem okX{p:Prop}(h:p:=by have:a≠0:=(fun e=>hc3 (by rw[e];rfl));simp[zv];omega):p:=h
def TC{a:Nat}[h:BN a i](hi:i<=1000000000:=by decide):PF GB prog 188 [eS n a] (vI (zv n a).sign):=by
 refine fn func188 J J ntmps188 J J (fun C=>?_);refine cl J (wF (a:=a) hi) J<|br J J J (fun hc3=>?_) (fun hc3=>?_)
 .
  exact rz J (by have:=KS.1 (Int.ofNat.inj hc3);subst this;cases n<;>rfl)
 .
  refine bb J J J (fun hc8=>?_) (fun hc8=>?_)
  .
   exact rz J (by subst hc8;rw[dY okX];rfl)
  .
   exact rz J (by subst hc8;rw[eJ okX];rfl)
def KV(h0: -9223372036854775808<=m:=by omega)(h1:m<=9223372036854775807:=by omega):PF GB prog 177 [vI m] (eI m):=by
 refine fn (fu:=⟨8⟩) func177 J J ntmps177 J J (fun C=>?_);refine cu ((m%18446744073709551616:Int)) J (sD _) J<|br (fu1:=⟨2⟩) (fu2:=⟨0⟩) J J J (fun hc7=>?_) (fun hc7=>?_)
 .
  refine nu ((m.natAbs:Nat)) J (by rw[sD];omega) J<|cl J (AU (a:=m.natAbs)) J<|rz J J
 .
  refine aj 3 (.d (.v (.int .u64 (m.natAbs:Nat)))) J omF<|gx J<|cl J (AU (a:=m.natAbs)) J<|rz J J
def MJ{a:Nat}(h:a<4611686018427387904):PF GB prog 191 [eS n a] (.tp [vI (zv n a),vB true]):=by
 refine fn func191 J J ntmps191 J J (fun C=>?_);refine cl (fu:=⟨2⟩) J (Cc (a:=a) m5) J<|d7 J J J<|je 18 J J J (fun hg18=>?_) (fun hg18=>?_)
 .
  refine br (fu1:=⟨3⟩) J J J (fun hc12=>?_) (fun hc12=>?_)
  .
   refine nu (fu:=⟨0⟩) (((18446744073709551616-a)%18446744073709551616:Int)) J (by rw[sD];omega) J<|cu (zv n a) J (by subst hg18;rw[Gw];simp only[zv,if_true];omega) J<|rz J J
  .
   exact absurd m5 hc12
 .
  refine je 32 J J J (fun hg32=>?_) (fun hg32=>?_)
  .
   refine br J J J (fun hc25=>?_) (fun hc25=>?_)
   .
    exact rz J (by subst hg18;rfl)
   .
    exact absurd m5 hc25
  .
   subst hg18;cases hg32
def Ai{a:Nat}[h:BN a i](hi:i<=1000000000:=by decide):PF GB prog 184 [eS neg a] (eI (zv neg a)):=by
 refine fn func184 J J ntmps184 J J (fun C=>?_);refine cl J (wI hi) J<|je 9 J J J (fun hg9=>?_) (fun hg9=>?_)
 .
  exact rz J (by rw[Ed];simp[hg9,w9,gg])
 .
  exact rz J (by rw[Ed];simp[hg9,w9,gg])
def CV{a:Nat}:PF GB prog 181 [.v (.bool neg),dN a] (eI (zv neg a)):=by
 refine fn func181 J J ntmps181 J J (fun C=>?_);refine je 6 J J J (fun hg6=>?_) (fun hg6=>?_)
 .
  exact rz J (by rw[Ed];simp[hg6,w9,gg])
 .
  exact rz J (by rw[Ed];simp[hg6,w9,gg])
def aKD[h:BI m i](hi:i<=1000000000:=by decide):PF GB prog 279 [eI m] (eI (-m)):=by
 refine fn func279 J J ntmps279 J J (fun C=>?_);refine cl J (Ai (neg:=!decide (m<0)) (a:=m.natAbs) hi) J<|rz J (by rw[aIG,mF];rfl)
def GX{a b:Int}[h:BI a i][k:BI b j](hi:i<=1000000000:=by decide)(hj:j<=1000000000:=by decide):PF GB prog 109 [eI a,eI b] (eI (a*b)):=by
 refine fn func109 J J ntmps109 J J (fun C=>?_);refine cl J (y6 (a:=a.natAbs) (b:=b.natAbs) hi hj) J<|cl J CV J<|rz J (by rw[show(!(decide (a<0)==decide (b<0)))=(decide (a<0) !=decide (b<0)) from J,T5,mF,mF];rfl)
def WG{b:Int}[h:BN u i][k:BI b j](hi:i<=1000000000:=by decide)(hj:j<=1000000000:=by decide):PF GB prog 108 [eS n1 u,eI b] (eI (zv n1 u+b)):=by
 refine fn func108 J J ntmps108 J J (fun C=>?_);refine bb J J J (fun hc13=>?_) (fun hc13=>?_)
 .
  refine cl J (aMY (b:=b.natAbs) hi hj) J<|cl J CV J<|rz J (by rw[W8,show n1=decide (b<0) from by simpa using hc13,mF];rfl)
 .
  refine cl J (S3 (b:=b.natAbs) hi hj) J<|bd J J J (fun hc30=>?_) (fun hc30=>?_)
  .
   refine cl J CV J<|rz J (by rw[XQ (by simpa using hc13) hc30];rfl)
  .
   refine cl J (S3 (a:=b.natAbs) hj hi) J<|cl J CV J<|rz J (by rw[YJ (by simpa using hc13) m5];rfl)
def XF{a b:Int}[h:BI a i][k:BI b j](hi:i<=1000000000:=by decide)(hj:j<=1000000000:=by decide):PF GB prog 108 [eI a,eI b] (eI (a+b)):=(WG (n1:=decide (a<0)) (u:=a.natAbs) hi hj).to (by rw[mF])
def ip(q:Rat):Prop:= ¬(q.num.natAbs<4611686018427387904/\q.den<4611686018427387904)
instance (q:Rat):Decidable (ip q):=inferInstanceAs (Decidable (¬_))
def ek(q:Rat):Int:=if ip q then 0 else q.num
def eo(q:Rat):Int:=if ip q then 0 else(q.den:Int)-1
def dH(q:Rat):DV:= .op (decide (ip q)) [.v (.bool (decide (q.num<0))),dN q.num.natAbs,dN q.den]
def eF(q:Rat):DV:= .ag [vI (ek q),vI (eo q),dH q]
abbrev Yl {q:Rat} (h:decide (ip q)=true):ip q:=of_decide_eq_true h
abbrev uI {q:Rat} (h:decide (ip q)=false): ¬ip q:=of_decide_eq_false h
abbrev Yy {q:Rat} (h: ¬decide (ip q)=false):ip q:=by simpa using h
abbrev pg {q:Rat} (h: ¬decide (ip q)=true): ¬ip q:=by simpa using h
def oC(h: ¬ip q):ek q=q.num:=if_neg h
def qG(h: ¬ip q):eo q=(q.den:Int)-1:=if_neg h
def rg(h: ¬ip q):q.num.natAbs<4611686018427387904:=(Decidable.not_not.1 h).1
def rx(h: ¬ip q):q.den<4611686018427387904:=(Decidable.not_not.1 h).2
def He(h:ip q):q≠0:=fun e=>by subst e;exact h ⟨pb,pb⟩
def uR{d:Int}{r:DV}(h: ¬ip q)(h1:q.num=m)(h2:(q.den:Int)-1=d)(e:r= .ag [vI m,vI d, .v (.pointer none)])(G:Gh)(y:Value)(k:Is G r y):Is G (eF q) y:=by
 subst e h1 h2;obtain⟨l,rfl,g⟩:=eD.1 k;obtain⟨y1,l1,rfl,k1,g1⟩:=bj.1 g;obtain⟨y2,l2,rfl,k2,g2⟩:=bj.1 g1;obtain⟨y3,l3,rfl,k3,g3⟩:=bj.1 g2;exact eD.2 ⟨_,J, .cons (by rw[oC h];exact k1) (.cons (by rw[qG h];exact k2) (.cons (vg.2 (.inl ⟨decide_eq_false h,aO.1 k3⟩)) g3))⟩
def Pp{a:Nat}{r:DV}(h:ip q)(h1:decide (q.num<0)=n)(h2:q.num.natAbs=a)(h3:q.den=d)(e:r= .ag [vI 0,vI 0, .pt [.v (.bool n),dN a,dN d]])(G:Gh)(y:Value)(k:Is G r y):Is G (eF q) y:=by
 subst e h1 h2 h3;obtain⟨l,rfl,g⟩:=eD.1 k;obtain⟨y1,l1,rfl,k1,g1⟩:=bj.1 g;obtain⟨y2,l2,rfl,k2,g2⟩:=bj.1 g1;obtain⟨y3,l3,rfl,k3,g3⟩:=bj.1 g2;exact eD.2 ⟨_,J, .cons (by unfold ek;rw[if_pos h];exact k1) (.cons (by unfold eo;rw[if_pos h];exact k2) (.cons (vg.2 (.inr ⟨decide_eq_true h,k3⟩)) g3))⟩
def Bd(G:Gh)(y:Value)(k:Is G (.ag [vI 0,vI 0, .v (.pointer none)]) y):Is G (eF 0) y:=uR (fun h=>He h J) J J J G y k
def NJ(h:m.natAbs<4611686018427387904)(G:Gh)(y:Value)(k:Is G (.ag [vI m,vI 0, .v (.pointer none)]) y):Is G (eF (m:Rat)) y:=
 uR (fun k=>k ⟨by simpa using h,by rw[lM];decide⟩) (lL m) (by rw[lM];rfl) J G y k
def SC{a:Nat}(hd:0<d):(mkRat (zv n a) d).num=zv n (a/Nat.gcd a d)/\(mkRat (zv n a) d).den=d/Nat.gcd a d:=by
 obtain⟨h1,h2⟩:=MH (m:=zv n a) hd;rw[sC] at h1 h2;exact⟨by rw[h1,aHO (lV _ _)],h2⟩
def Mo{a:Nat}(hd:0<d)(ha:a'=a/Nat.gcd a d)(hd':d'=d/Nat.gcd a d)(h1:a'<4611686018427387904)(h2:d'<4611686018427387904)(G:Gh)(y:Value)(k:Is G (.ag [vI (zv n a'),vI ((d':Int)-1), .v (.pointer none)]) y):Is G (eF (mkRat (zv n a) d)) y:=by
 obtain⟨e1,e2⟩:=SC (n:=n) (a:=a) hd;rw[<-ha] at e1;rw[<-hd'] at e2;exact uR (fun k=>k ⟨by rw[e1,sC];exact h1,by rw[e2];exact h2⟩) e1 (by rw[e2]) J G y k
def Cy{a:Nat}(hd:0<d)(ha:a'=a/Nat.gcd a d)(hd':d'=d/Nat.gcd a d)(h: ¬(a'<4611686018427387904/\d'<4611686018427387904))(G:Gh)(y:Value)(k:Is G (.ag [vI 0,vI 0, .pt [.v (.bool (decide (zv n a'<0))),dN (zv n a').natAbs,dN d']]) y):Is G (eF (mkRat (zv n a) d)) y:=by
 obtain⟨e1,e2⟩:=SC (n:=n) (a:=a) hd;rw[<-ha] at e1;rw[<-hd'] at e2;exact Pp (fun k=>h ⟨by rw[e1,sC] at k;exact k.1,by rw[e2] at k;exact k.2⟩) (by rw[e1]) (by rw[e1]) e2 J G y k
def VS{a:Nat}(hd:0<d)(h: ¬(1:Int)<(bl (Nat.gcd a d):Nat)):Nat.gcd a d=1:=by
 have h1:Nat.gcd a d≠0:=fun e=>by rw[Nat.gcd_eq_zero_iff] at e;omega
 have h2:Nat.gcd a d<2^1:=qb.1 m5;omega
def om{x:Nat}:(((bl x:Nat):Int)<=62)↔x<4611686018427387904:=Z6
def PF.ofI{f:FuncId}{ds ds':List DV}{r:DV}(h:PF GB P f ds r)(k: ∀G vs,IsLs G ds' vs->IsLs G ds vs):PF GB P f ds' r:=fun G vs hg hv=>h G vs hg (k G vs hv)
def vM{a:Nat}[h:BN a i][k:BN d j](hi:i<=450000000:=by decide)(hj:j<=450000000:=by decide):PF GB prog 112 [eS n a,dN d] (eF (mkRat (zv n a) d)):=by
 refine fn func112 J J ntmps112 J J (fun C=>?_);refine cl J (wF (a:=d) m5) J<|cs 13 J J J (fun hg13=>?_) (fun hg13=>?_)
 .
  exact jO rfl (by obtain rfl:=KS.1 (Int.ofNat.inj hg13);rw[Rat.mkRat_zero];exact Bd)
 .
  have hd0:0<d:=by have:= @KS d;omega
  have hg0:0<Nat.gcd a d:=pZ _ hd0;refine cl J (TC (n:=n) (a:=a) m5) J<|br J J J (fun hc17=>?_) (fun hc17=>?_)
  .
   exact jO J (by rw[iX.1 hc17,Rat.zero_mkRat];exact Bd)
  .
   refine cl J (IA (a:=a) (b:=d) m5 m5) J<|cl J (wF (a:=Nat.gcd a d) (i:=i+j) m5) J<|br J J J (fun hc25=>?_) (fun hc25=>?_)
   .
    obtain⟨a',ea⟩: ∃a',a'=a/Nat.gcd a d:=⟨_,rfl⟩;obtain⟨d',ed⟩: ∃d',d'=d/Nat.gcd a d:=⟨_,rfl⟩;have hba:BN a' i:=ea▸inferInstance;have hbd:BN d' j:=ed▸inferInstance;refine cl (fu:=⟨2⟩) J (C7 (a:=a) (b:=Nat.gcd a d) (j:=i+j) hg0 m5 m5) J<|aj 31 (.d (dN a')) J (by rw[ea])<|gx J<|cl (fu:=⟨2⟩) J (C7 (a:=d) (b:=Nat.gcd a d) (j:=i+j) hg0 m5 m5) J<|aj 39 (.d (dN d')) J (by rw[ed])<|gx J<|cl J (wF (h:=hba) m5) J<|cs 46 J J J (fun hg46=>?_) (fun hg46=>?_)
    .
     refine cl J (wF (h:=hbd) m5) J<|br J J J (fun hc50=>?_) (fun hc50=>?_)
     .
      have hs2:=om.1 hc50;refine cl J (MJ (om.1 hg46)) J<|cl J (Cc (by have:=om.1 hc50;omega)) J<|jO J (Mo hd0 ea ed (om.1 hg46) (om.1 hc50))
     .
      refine cl J (Ai (neg:=n) (h:=hba) m5) J<|cl J (wI (h:=hbd) m5) J<|fz 71 J J<|jO J (Cy hd0 ea ed (fun e=>hc50 (om.2 e.2)))
    .
     refine cl J (Ai (neg:=n) (h:=hba) m5) J<|cl J (wI (h:=hbd) m5) J<|fz 71 J J<|jO J (Cy hd0 ea ed (fun e=>hg46 (om.2 e.1)))
   .
    have hg1:=VS hd0 hc25;have ea:a=a/Nat.gcd a d:=by rw[hg1,uK]
    have ed:d=d/Nat.gcd a d:=by rw[hg1,uK]
    have hba:=h;have hbd:=k;refine cl J (wF (h:=hba) m5) J<|cs 46 J J J (fun hg46=>?_) (fun hg46=>?_)
    .
     refine cl J (wF (h:=hbd) m5) J<|br J J J (fun hc50=>?_) (fun hc50=>?_)
     .
      have hs2:=om.1 hc50;refine cl J (MJ (om.1 hg46)) J<|cl J (Cc (by have:=om.1 hc50;omega)) J<|jO J (Mo hd0 ea ed (om.1 hg46) (om.1 hc50))
     .
      refine cl J (Ai (neg:=n) (h:=hba) m5) J<|cl J (wI (h:=hbd) m5) J<|fz 71 J J<|jO J (Cy hd0 ea ed (fun e=>hc50 (om.2 e.2)))
    .
     refine cl J (Ai (neg:=n) (h:=hba) m5) J<|cl J (wI (h:=hbd) m5) J<|fz 71 J J<|jO J (Cy hd0 ea ed (fun e=>hg46 (om.2 e.1)))
theorem okb{p:Prop}(h:p:=by rw[mF,show mkRat m 1=(m:Rat) from tJ ..];rfl):p:=h
def I'[h:BI m i](hi:i<=400000000:=by decide):PF GB prog 265 [eI m] (eF (m:Rat)):=by
 refine fn func265 J J ntmps265 J J (fun C=>?_);refine rf (fu:=⟨0⟩) J J<|aj 4 (.d (dN 1)) J okx<|gx J<|cl J (vM (n:=decide (m<0)) (a:=m.natAbs) (d:=1) m5) J<|rz J okb
def A6:PF GB prog 266 [eF q] (vB (decide (q=0))):=by
 refine fn func266 J J ntmps266 J J (fun C=>?_);refine cs 6 J J J (fun hg6=>?_) (fun hg6=>?_)
 .
  exact rz J (by rw[oC (uI hg6)];show DV.v (.bool (decide _))= .v (.bool _);congr 2;exact decide_eq_decide.2 ⟨fun e=>lX.1 e,fun e=>by rw[e];rfl⟩)
 .
  exact rz J (by rw[decide_eq_false (He (Yy hg6))];rfl)
def Bp(h:m.natAbs<9223372036854775808:=by omega):PF GB prog 179 [vI m] (.v (.int .u64 (m.natAbs:Nat))):=by
 refine fn func179 J J ntmps179 J J (fun C=>?_);refine br J J J (fun hc4=>?_) (fun hc4=>?_)
 .
  exact rz J (by show DV.v (.int _ _)=_;congr 2;omega)
 .
  exact rz J (by show DV.v (.int _ _)=_;congr 2;omega)
def sr[h:BQ q i](hi:i<=900000000:=by decide):PF GB prog 111 [eF q] (dN q.den):=by
 refine fn func111 J J ntmps111 J J (fun C=>?_);refine br (v1:=fun hc5=>by simp only[ak];exact hc5) (fu2:=⟨6⟩) J J J (fun hc5=>?_) (fun hc5=>?_)
 .
  refine cl J (wI (a:=q.den) m5) J<|rz J J
 .
  have hd:=q.den_nz;have hs:=rx (pg hc5);refine aj 13 (.d (vI ((q.den:Int)-1))) J (by rw[qG (pg hc5)])<|gx (fu:=⟨2⟩) J<|aj 15 (.d (.v (.int .u64 (q.den:Nat)))) J omF<|gx J<|cl J (AU (a:=q.den)) J<|rz J J
def vt[h:BQ q i](hi:i<=900000000:=by decide):PF GB prog 110 [eF q] (eI q.num):=by
 refine fn func110 J J ntmps110 J J (fun C=>?_);refine br (v1:=fun hc5=>by simp only[ak];exact hc5) (fu2:=⟨6⟩) J J J (fun hc5=>?_) (fun hc5=>?_)
 .
  refine cl J (Ai (neg:=decide (q.num<0)) (a:=q.num.natAbs) m5) J<|rz J (by rw[mF];rfl)
 .
  have hs:=rg (pg hc5);refine aj 13 (.d (vI q.num)) J (by rw[oC (pg hc5)])<|gx J<|cl J (KV) J<|rz J J
def qi[h:BQ q i](hi:i<=900000000:=by decide):PF GB prog 222 [eF q] (eF (-q)):=by
 refine fn func222 J J ntmps222 J J (fun C=>?_);refine br (v1:=fun hc5=>by simp only[ak];exact hc5) (fu2:=⟨6⟩) J J J (fun hc5=>?_) (fun hc5=>?_)
 .
  refine cl (fu:=⟨6⟩) (hv:=by simp only[ak];exact hc5) J (aKD (m:=q.num) m5) J<|P9 J J<|jO J (Pp (q:= -q) (fun k=>Yl hc5 (by rw[nQ,jX,qU] at k;exact k)) (by rw[nQ]) (by rw[nQ]) (qU q) J)
 .
  have hs:=rg (pg hc5);refine aj 21 (.d (vI q.num)) J (by rw[oC (pg hc5)])<|gx J<|jO J (uR (q:= -q) (fun k=>k (by rw[nQ,jX,qU];exact⟨hs,rx (pg hc5)⟩)) (by rw[nQ]) (by rw[qU,qG (pg hc5)]) J)
def l6[h:BQ q i](hi:i<=900000000:=by decide):PF GB prog 176 [eF q] (vI q.num.sign):=by
 refine fn func176 J J ntmps176 J J (fun C=>?_);refine br (v1:=fun hc3=>by simp only[ak];exact hc3) J J J (fun hc3=>?_) (fun hc3=>?_)
 .
  refine cl J (TC (n:=decide (q.num<0)) (a:=q.num.natAbs) m5) J<|rz J (by rw[mF];rfl)
 .
  have hs:=oC (pg hc3);refine br J J J (fun hc13=>?_) (fun hc13=>?_)
  .
   exact rz J (by rw[dY m5];rfl)
  .
   refine br J J J (fun hc17=>?_) (fun hc17=>?_)
   .
    exact rz J (by rw[eJ m5];rfl)
   .
    exact rz J (by rw[show q.num=0 by omega];rfl)
def aq5{a b:Nat}(h:b<=a):(dg b).length<=(dg a).length:=BO (fQ h (so a))
def ze{a b:Nat}[ha:BN a ia][hb:BN b ib](hb0:0<b)(hi:ia<=500000000:=by decide)(hj:ib<=500000000:=by decide):PF GB prog 126 [dN a,dN b] (.tp [dN (a/b),dN (a%b)]):=by
 have hla:=ck (dg a);have hlb:=ck (dg b);have hba:=lx ha.h;have hbb:=lx hb.h;have hba':(dg a).length<=20000000:=by omega
 have hbb':(dg b).length<=20000000:=by omega
 have hlb1:1<=(dg b).length:=LQ (k:=0) (by rw[tN];exact hb0);refine fn (fu:=⟨7⟩) func126 J J ntmps126 J J (fun C=>?_);refine mg (X:=Unit) (fun _=>[(0, .d (dN a)),(1, .d (dN b))]) (fun _=>[]) (fun _=>True) [0,1] [] rfl ?_ (fun _=>J) (fun _ hm=>?_)
 .
  refine gx J<|cl J (FM (a:=a) (ia:=ia) m5) J<|bd (fu1:=⟨0⟩) J J J (fun hc18=>?_) (fun hc18=>?_)
  .
   refine aj 6 (.d (.v (.int .u64 (a:Nat)))) J (by rw[if_pos hc18])<|gx J<|cl J (FM (a:=b) (ia:=ib) m5) J<|bd (fu1:=⟨0⟩) J J J (fun hc24=>?_) (fun hc24=>?_)
   .
    refine aj 8 (.d (.v (.int .u64 (b:Nat)))) J (by rw[if_pos hc24]) ?_;have hdl:=nY a b;have hml:=Nat.mod_le a b;refine gx (hv:=by simp only[ak];exact⟨m5,m5,m5⟩) J<|cl (hv:=by simp only[ak];exact⟨m5,m5⟩) J (ux (u:=a/b)) J<|cl J (ux (u:=a%b)) J<|rz J J
   .
    exact at_ () trivial
  .
   exact at_ () trivial
 .
  refine cl J (yD) J<|br J J J (fun hc36=>?_) (fun hc36=>?_)
  .
   have hab:=Ae.1 hc36;refine sB J J<|ap _ J J (sO _) J<|iH 39 J<|rz J (by show DV.tp [_, .sl ([]++_)]= .tp [_,_];rw[mK hab,iN hab,pe];rfl)
  .
   have hab:b<=a:=tZ fun q=>hc36 (Ae.2 q);have hlab:(dg b).length<=(dg a).length:=aq5 hab;refine br (fu1:=⟨4⟩) J J J (fun hc42=>?_) (fun hc42=>?_)
   .
    have hb1:b<4294967296:=by have:=so b;rw[show(dg b).length=1 by omega] at this;omega
    have hbd:(dg b).getD 0 0=b:=xw;refine aj 44 (.d (vI ((dg a).length:Nat))) J omP<|gx J<|mk (fu:=⟨13⟩) ((List.replicate (dg a).length 0).map dU) J J omy J<|aj 47 (.d (vI ((dg a).length:Nat))) J omP<|gx J<|lp (X:=List Nat×Nat) (fun⟨W,k⟩=>[(0, .d (dN a)),(1, .d (dN b)),(10, .rw 45),(11, .d (dU (dv ((dg a).drop k)%b))),(12, .d (vI ((k:Nat)-1)))]) (fun⟨W,k⟩=>[(45,some (.b 225 1 (W.map dU) true))]) (fun⟨W,k⟩=>W.length=(dg a).length/\bF W/\k<=(dg a).length/\dv (W.drop k)=dv ((dg a).drop k)/b) (fun⟨W,k⟩=>k) ⟨List.replicate (dg a).length 0,(dg a).length⟩ J ⟨vb, .replicate _,bW _,by simp[dv]⟩ (fun _=>J) (fun⟨W,k⟩ hk=>?_) (hF:=(by refine⟨J,J,J,qf J (by simp[dv,dU]),qf J (by simp[vI]),?_⟩;repeat (first|exact trivial|refine And.intro J ?_)))
    try dsimp only at hk⊢
    obtain⟨h1,h2,h3,h4⟩:=hk;have hlw:=ck W;refine br (fu1:=⟨0⟩) J J J (fun hc50=>?_) (fun hc50=>?_)
    .
     obtain⟨k,rfl⟩: ∃j,k=j+1:=⟨k-1,m5⟩;have hsi:=axj hb0 m5 h1 h4;have hrm:=dJ (dv ((dg a).drop (k+1))) hb0;have hdk:=fi a k;have hqd:(dv ((dg a).drop (k+1))%b*4294967296+(dg a).getD k 0)/b<4294967296:=by rw[kS hb0];have:=gX 4294967296 (show dv ((dg a).drop (k+1))%b+1<=b from hrm);omega
     refine aj 12 (.d (vI (k:Nat))) J (omb m5)<|gx J<|ix _ J (di (k:=k)) J<|ix _ J (di (k:=0) J m5) J<|cl J (aGW (h:=dv ((dg a).drop (k+1))%b) (l:=(dg a).getD k 0) (y:=(dg b).getD 0 0) m5 hdk m5) J<|sb (hv:=by simp only[ak];exact⟨v6,m5⟩) _ ((W.set k ((dv ((dg a).drop (k+1))%b*4294967296+(dg a).getD k 0)/b)).map dU) J (di (k:=k)) J (by(rw[hbd,cX,<-kD])<;>rfl) J<|at_ ⟨W.set k ((dv ((dg a).drop (k+1))%b*4294967296+(dg a).getD k 0)/b),k⟩ (by dsimp only;exact⟨⟨by simpa using h1,h2.set _ hqd,m5,hsi.1⟩,m5⟩) (by refine⟨J,J,J,qf J (by rw[hsi.2,hbd]),qf J (by first|(simp[vI];done)|(simp[vI];omega)),?_⟩;repeat (first|exact trivial|refine And.intro J ?_))
    .
     refine fz 45 J J<|cl rfl (ub (ds:=W)) rfl<|rf J J<|cl rfl (ub (ds:=[dv ((dg a).drop k)%b]) vb) rfl<|rz rfl (by show DV.tp [et _,et _]= .tp [_,_];obtain rfl:k=0:=m5;rw[iW,iW,dG] at h4;rw[iW,dG];rw[ma h2 h4,ma (.cons (by have:=dJ a hb0;omega) .nil) (n:=a%b) (by simp[dv])])
   .
    refine cl J (V3 m5 m5 hlb1 hlab) J<|rz J J
def UC(x y:Nat):Nat.gcd y (x%y)=Nat.gcd x y:=by rw[jL x y,uJ y x,jL]
def AI{a b:Nat}[ha:BN a ia][hb:BN b ib](hi:ia<=240000000:=by decide)(hj:ib<=240000000:=by decide):PF GB prog 124 [dN a,dN b] (dN (Nat.gcd a b)):=by
 refine fn (fu:=⟨6⟩) func124 J J ntmps124 J J (fun C=>?_);refine mg (X:=Unit) (fun _=>[(0, .d (dN a)),(1, .d (dN b))]) (fun _=>[]) (fun _=>True) [0,1] [] rfl ?_ (fun _=>J) (fun _ hm=>?_)
 .
  refine gx J<|cl J (FM (a:=a) (ia:=ia) m5) J<|bd (fu1:=⟨0⟩) J J J (fun hc16=>?_) (fun hc16=>?_)
  .
   refine aj 5 (.d (.v (.int .u64 (a:Nat)))) J (by rw[if_pos hc16])<|gx J<|cl J (FM (a:=b) (ia:=ib) m5) J<|bd (fu1:=⟨0⟩) J J J (fun hc22=>?_) (fun hc22=>?_)
   .
    refine aj 7 (.d (.v (.int .u64 (b:Nat)))) J (by rw[if_pos hc22])<|gx J<|lp (X:=Nat×Nat) (fun⟨x,y⟩=>[(5, .d (.v (.int .u64 (x:Nat)))),(7, .d (.v (.int .u64 (y:Nat))))]) (fun⟨x,y⟩=>[]) (fun⟨x,y⟩=>x<18446744073709551616/\y<18446744073709551616/\Nat.gcd x y=Nat.gcd a b) (fun⟨x,y⟩=>y) ⟨a,b⟩ J ⟨hc16,hc22,J⟩ (fun _=>J) (fun⟨x,y⟩ hk=>?_)
    try dsimp only at hk⊢
    obtain⟨h1,h2,h3⟩:=hk;refine br (v1:=fun hc24=>by simp only[ak];exact⟨⟨m5,m5⟩,v6⟩) J J J (fun hc24=>?_) (fun hc24=>?_)
    .
     exact at_ ⟨y,x%y⟩ (by dsimp only;exact⟨⟨h2,by have:=dJ x (show 0<y by omega);omega,by rw[UC,h3]⟩,(by exact dJ _ m5)⟩)
    .
     refine cl J (ux (u:=x) h1) J<|rz J (by show dN x=_;rw[<-h3,show y=0 by omega,oJ])
   .
    exact at_ () trivial
  .
   exact at_ () trivial
 .
  refine lp (fu:=⟨5⟩) (X:=Nat×Nat) (fun⟨x,y⟩=>[(0, .d (dN x)),(1, .d (dN y))]) (fun⟨x,y⟩=>[]) (fun⟨x,y⟩=>x<2^(ia+ib)/\y<2^(ia+ib)/\Nat.gcd x y=Nat.gcd a b) (fun⟨x,y⟩=>y) ⟨a,b⟩ J ⟨(ha.mono m5).h,(hb.mono m5).h,J⟩ (fun _=>J) (fun⟨x,y⟩ hk=>?_)
  try dsimp only at hk⊢
  obtain⟨h1,h2,h3⟩:=hk;have hly:=ck (dg y);haveI hx':BN x (ia+ib):=⟨h1⟩;haveI hy':BN y (ia+ib):=⟨h2⟩;refine aj 32 (.d (vI ((dg y).length:Nat))) J (by rw[hly];rfl)<|gx J<|br J J J (fun hc33=>?_) (fun hc33=>?_)
  .
   have hy0:0<y:=iR fun q=>by subst q;rw[wm] at hc33;simp at hc33
   refine cl J (ze (a:=x) (b:=y) (ia:=ia+ib) (ib:=ia+ib) hy0 m5 m5) J<|at_ ⟨y,x%y⟩ (by dsimp only;exact⟨⟨h2,by have:=dJ x hy0;omega,by rw[UC,h3]⟩,(by exact dJ _ hy0)⟩)
  .
   have hy0:y=0:=wh.1 m5;have hlx:=lx h1;have hmx:=ck (dg x);refine sB J J<|ap _ J J (sO _) J<|iH 44 J<|rz J (by show DV.sl ([]++_)=_;rw[<-h3,hy0,oJ];rfl)
def Nh(neg:Bool)(m:Nat):eI (zv neg m)= .ag [.v (.bool (neg&&decide (0<m))),dN m]:=by unfold eI;rw[sC,Ml]
def aK7(z:Int):zv (!decide (z<0)) z.natAbs= -z:=by
 unfold zv;by_cases h:z<0<;>simp[h]<;>omega
def aE4(a b:Int):zv (!(decide (a<0)==decide (b<0))) (a.natAbs*b.natAbs)=a*b:=by
 have h:=T5 (decide (a<0)) (decide (b<0)) a.natAbs b.natAbs;rw[mF,mF] at h;exact h
def lI{m:Nat}:PF GB prog 56 [.v (.bool neg),dN m] (eI (zv neg m)):=by
 have hl:=ck (dg m);have hz:= @wh m;refine fn func56 J J ntmps56 J J (fun C=>?_);refine je 6 J J J (fun hg6=>?_) (fun hg6=>?_)
 .
  exact rz J (by rw[Nh,hg6];show DV.ag [.v (.bool _),_]= .ag [.v (.bool _),_];congr 4;rw[tX];exact decide_eq_decide.2 m5)
 .
  exact rz J (by rw[Nh,hg6];rfl)
structure Jk where
 lo:RV
 hi:RV
 nl:Bool
 nh:Bool
def Jk.v(z:Jk):Value:= .agg ⟨[.int .i64 z.lo.n, .int .i64 z.lo.d, .pointer z.lo.p, .int .i64 z.hi.n, .int .i64 z.hi.d, .pointer z.hi.p, .bool z.nl, .bool z.nh]⟩
section
variable {n:Nat}{own:List aA}
variable {gd:Option (Nat×Bool)}{x:Operand}
end

structure NB where
 l:LV
 v:Jk
def NB.val(z:NB):Value:= .agg ⟨[.int .i64 z.l.a.n, .int .i64 z.l.a.d, .pointer z.l.a.p, .int .i64 z.l.b.n, .int .i64 z.l.b.d, .pointer z.l.b.p, .int .i64 z.l.c.n, .int .i64 z.l.c.d, .pointer z.l.c.p, .int .i64 z.v.lo.n, .int .i64 z.v.lo.d, .pointer z.v.lo.p, .int .i64 z.v.hi.n, .int .i64 z.v.hi.d, .pointer z.v.hi.p, .bool z.v.nl, .bool z.v.nh]⟩
inductive i8 {α β:Type} (R:α->β->Prop):List α->List β->Prop
 |nil:i8 R [] []
 |cons {a b us bs} (h:R a b) (t:i8 R us bs):i8 R (a::us) (b::bs)
def i8.len{R:α->β->Prop}{us:List α}{bs:List β}(h:i8 R us bs):us.length=bs.length:=by
 induction h with
 |nil=>rfl
 |cons _ _ ih=>simp[ih]
def i8.imp{R S:α->β->Prop}{us:List α}{bs:List β}(h:i8 R us bs)(k: ∀a b,R a b->S a b):i8 S us bs:=by
 induction h with
 |nil=>exact .nil
 |cons h _ ih=>exact .cons (k _ _ h) ih
def i8.get{R:α->β->Prop}{us:List α}{bs:List β}(h:i8 R us bs){b:β}(hi:bs[i]? =some b): ∃a,us[i]? =some a/\R a b:=by
 induction h generalizing i with
 |nil=>simp at hi
 | @cons a b' us bs h t ih=>
  cases i with
  |zero=>simp at hi;subst hi;exact⟨a,J,h⟩
  |succ i=>simpa using ih (i:=i) omI
def i8.app{R:α->β->Prop}{us us':List α}{bs bs':List β}(h:i8 R us bs)(k:i8 R us' bs'):i8 R (us++us') (bs++bs'):=by
 induction h with
 |nil=>exact k
 |cons h _ ih=>exact .cons h ih

section
variable {n:Nat}{own:List aA}
variable {gd:Option (Nat×Bool)}{x:Operand}
def aB2{o1 o2:aA}(h:o1.b≠o2.b->St C n fr (o1::o2::rest) G Φ):St C n fr (o1::o2::rest) G Φ:=
 fun a w rl=>h ((bU.1 rl.h.nd).1 _ aQ) a w rl
def Fg[hT:cD P t e s by_]{k:IntKind}{b len:Nat}{l:Int}(hx:aE fr x=some (.slice (some ⟨b,off,none⟩) len cap))(hy:aE fr y=some (.int k l))(h0:0<=l:=by omega)(h1:l<=len:=by omega)(h2:l<cap:=by omega):
  Yd P C fr own G ⟨dst, .slice t x (some y) none none,ty',pos,af,gd⟩ (.slice (some ⟨b,off+l.toNat*s,none⟩) (len-l.toNat) (cap-l.toNat)):=by
 have h:=Du (P:=P) (C:=C) (own:=own) (G:=G) (t:=t) (dst:=dst) (ty':=ty') (pos:=pos) (af:=af) (gd:=gd) (by_:=by_) hx hy h0 h1;unfold nB at h;rw[if_neg m5] at h;simpa[rH] using h
end

section
variable {n:Nat}{own:List aA}
variable {gd:Option (Nat×Bool)}{x:Operand}
end


structure ND where
 a:IV
 b:IV
 c:IV
 l:Int
 r:Int
def ND.val(z:ND):Value:= .agg ⟨[.bool z.a.neg, .slice z.a.a.a z.a.a.n z.a.a.c, .bool z.b.neg, .slice z.b.a.a z.b.a.n z.b.a.c, .bool z.c.neg, .slice z.c.a.a z.c.a.n z.c.a.c, .int .i64 z.l, .int .i64 z.r]⟩
structure ul (k:Nat) (G:Gh) (z:ND) (n:NQ):Prop where
 a:ru k G z.a n.l.a
 b:ru k G z.b n.l.b
 c:ru k G z.c n.l.c
 l:z.l=n.a
 r:z.r=n.b
def ul.up{k:Nat}{A G:Gh}{z:ND}{n:NQ}(h:ul k A z n)[GL A G]:ul k G z n:=⟨h.a.up,h.b.up,h.c.up,h.l,h.r⟩
structure aNT (k:Nat) (G:Gh) (x:SV) (ns:List NQ):Prop where
 ex: ∃zs:List ND,gH G 8 x (zs.map ND.val)/\i8 (ul k G) zs ns

def ND.len8(zs:List ND): ∀v∈zs.map ND.val,(aH v).length=8:=fun v hv=>by
 obtain⟨f,_,rfl⟩:=aT.1 hv;rfl
def ND.flat(zs:List ND): ∀v∈zs.map ND.val,∀c∈aH v,Sx.flat c=true:=fun v hv c hc=>by
 obtain⟨f,_,rfl⟩:=aT.1 hv;simp only[ND.val,aH,aV,fJ,or_false] at hc;rcases hc with rfl|rfl|rfl|rfl|rfl|rfl|rfl|rfl<;>rfl
def i8.set{α β:Type}{R:α->β->Prop}{us:List α}{bs:List β}(h:i8 R us bs){a:α}{b:β}(hr:R a b)(i:Nat):i8 R (us.set i a) (bs.set i b):=by
 induction h generalizing i with
 |nil=>simp;exact .nil
 |cons h t ih=>
  cases i with
  |zero=>exact .cons hr t
  |succ i=>exact .cons h (ih i)
def Mv(zs:List ND)(rest:List Value)(i j:Nat)(x:Value)(z:ND)(hi:i<zs.length)(hj:j<8)(hz:aH z.val=(aH (zs[i]).val).set j x):
  (aF (zs.map ND.val)++rest).set (i*8+j) x=aF ((zs.set i z).map ND.val)++rest:=by
 have hi':i<(zs.map ND.val).length:=by simpa using hi
 rw[T9 hj _ i hi' (ND.len8 zs),qL,<-hz,jM,List.set_eq_take_append_cons_drop,if_pos hi',nA];have e:aF (z.val::(zs.map ND.val).drop (i+1))=aH z.val++aF ((zs.map ND.val).drop (i+1)):=by simp[aF]
 rw[e];simp[dK]
def qc(ob wb:Nat):Value:= .func (.func 139) #[] #[.pointer (some ⟨ob,0,none⟩), .pointer (some ⟨wb,0,none⟩)]
structure Qx where
 x:SV
 p:Option Addr
def Qx.val(z:Qx):Value:= .agg ⟨[.slice z.x.a z.x.n z.x.c, .pointer z.p]⟩
structure LI where
 a:IV
 b:IV
 c:IV
def LI.val(z:LI):Value:= .agg ⟨[.bool z.a.neg, .slice z.a.a.a z.a.a.n z.a.a.c, .bool z.b.neg, .slice z.b.a.a z.b.a.n z.b.a.c, .bool z.c.neg, .slice z.c.a.a z.c.a.n z.c.a.c]⟩
end Go.Sx
end
