import Derived.Test.YtjpdfobnjmflkaaGreatDoorMp9
set_option linter.all false
set_option maxHeartbeats 8000000
set_option maxRecDepth 100000
section
namespace Go.Sx
open Go Go.Proofs Tryz
variable {GB G:Gh}{ds A W vs ws wa qs:List Nat}{i j d k ia U T S u ca s a' d' ib e by_ off cap:Nat}{n neg n1:Bool}{C:aG}{fr:Fr}{own' own1 rest:List aA}{q:Rat}{m:Int}{P:Program}{Φ:Act->World->Prop}{dst:Option Nat}{t t' ty':TypeId}{pos:String}{af:Array Edge}{y:Operand}{α β:Type}
def aCZ(hl:ds.length<=1125899906842624):PB GB prog 278 (dB [none]) 1 208 (ds.map dU) (fun w=> .v (.slice w.a w.n w.c)) ((trimD ds).map dU):=by
 refine r6 func278 J J ntmps278 J J (fun C=>?_);refine lp (fu:=⟨5⟩) (X:=List Nat) (fun W=>[(0, .rw 1000000)]) (fun W=>[(1000000,some (.b 208 1 (W.map dU) false))]) (fun W=>trimD ds=trimD W/\W.length<=ds.length) (fun W=>W.length) ds J ⟨J,bW _⟩ (fun _=>J) (fun W hk=>?_);obtain⟨h1,h2⟩:=hk;have hml:=bP W;refine aj 4 (.d (vI (W.length:Nat))) J (by rw[hml]<;>rfl)<|gx J<|cs (fu1:=⟨3⟩) 6 J J J (fun hg6=>?_) (fun hg6=>?_)
 .
  refine aj 9 (.d (vI (W.length:Nat))) J (by rw[hml]<;>rfl)<|gx J<|lb _ J (cO (k:=W.length-1)) J<|br (fu1:=⟨7⟩) J J J (fun hc14=>?_) (fun hc14=>?_)
  .
   refine aj 17 (.d (vI (W.length:Nat))) J (by rw[hml]<;>rfl)<|gx (fu:=⟨1⟩) J<|aj 18 (.d (vI (W.length-1:Nat))) J (by show FX.d (.v (.int _ _))= .d (.v (.int _ _));congr 3;omega)<|gx (fu:=⟨0⟩) J<|JG ((W.take (W.length-1)).map dU) (W.length-1) J J (by rw[hml];omega) (by rw[iT]) J<|fw 19 1000000 J<|at_ (W.take (W.length-1)) ⟨⟨by rw[h1,Pa],by rw[bR];omega⟩,(by rw[bR];omega)⟩
  .
   exact mc J J J (by rw[h1,E7 (fun _=>by omega)])
 .
  exact mc J J J (by rw[h1,E7 (fun _=>by omega)])
def aAH{a:Nat}(h:0<(dg a).length):bl a=32*((dg a).length-1)+bl ((dg a).getD ((dg a).length-1) 0):=by
 have:=aKA (gy a) (f8 a).2.2 (fun e=>by rw[e] at h;exact absurd h (by decide));rwa [dl] at this
def AM{a:Nat}(h:(dg a).length=0:=by omega):a=0:=by rw[<-dl a,cW h];rfl
def vn{a:Nat}[h:BN a i](hi:i<=1000000000:=by decide):PF GB prog 274 [dN a] (vI (bl a:Nat)):=by
 have hla:=bP (dg a);have hba:=jg (a:=a) hi;have hbl:bl ((dg a).getD ((dg a).length-1) 0)<=32:=ol.2 (ef a _);refine fn func274 J J ntmps274 J J (fun C=>?_);refine cl (fu:=⟨8⟩) J (px) J<|aj 6 (.d (vI ((dg a).length:Nat))) J (by rw[hla]<;>rfl)<|gx J<|br (fu2:=⟨6⟩) J J J (fun hc7=>?_) (fun hc7=>?_)
 .
  exact rz J (by rw[AM (a:=a)];rfl)
 .
  refine aj 9 (.d (vI ((dg a).length:Nat))) J (by rw[hla]<;>rfl)<|gx (fu:=⟨4⟩) J<|aj 13 (.d (vI ((dg a).length:Nat))) J (by rw[hla]<;>rfl)<|gx J<|ix _ J (cO (k:=(dg a).length-1)) J<|cl J (JV (ef a ((dg a).length-1))) J<|rz J (by show DV.v (.int _ _)=DV.v (.int _ _);have:=aAH (a:=a) (by omega);congr 2;omega)
def aC6{a:Nat}(h:a<18446744073709551616)(hi:i<(dg a).length):dv ((dg a).take i)<2^(32*i)/\dv ((dg a).take i)+(dg a).getD i 0*2^(32*i)=dv ((dg a).take (i+1))/\dv ((dg a).take (i+1))<18446744073709551616:=by
 have h1:=mG ((gy a).take i);rw[bR,jZ (by omega)] at h1;have e:(2:Nat)^(32*i)=4294967296^i:=by rw[tL]
 have h2:=Bp (dg a) (i+1);rw[dl] at h2;refine⟨by rw[e];exact h1,by rw[e,pn,cJ],?_⟩;have:=bV (4294967296^(i+1)*dv ((dg a).drop (i+1)));omega
def Vy{a:Nat}(h:a<18446744073709551616):(dg a).length<=2:=by have:=k9 (u:=a) (k:=64) h;omega
def BE{a:Nat}(h:a<18446744073709551616):PF GB prog 277 [dN a] (.tp [.v (.int .u64 (a:Nat)),vB true]):=by
 have hla:=bP (dg a);have hl2:=Vy h;refine fn func277 J J ntmps277 J J (fun C=>?_);refine cl (fu:=⟨8⟩) J (px) J<|aj 10 (.d (vI ((dg a).length:Nat))) J (by rw[hla]<;>rfl)<|gx (fu:=⟨0⟩) J<|cg (fu:=⟨15⟩) J (by show some (decide _)=some false;rw[decide_eq_false (by omega)]) J<|aj 13 (.d (vI ((dg a).length:Nat))) J (by rw[hla]<;>rfl)<|gx J<|lp (X:=Nat) (fun i=>[(14, .d (vI (i:Nat))),(4, .d (.v (.int .u64 (dv ((dg a).take i):Nat))))]) (fun i=>[]) (fun i=>i<=(dg a).length) (fun i=>(dg a).length-i) 0 J (bV _) (fun _=>J) (fun i hk=>?_);refine br J J J (fun hc15=>?_) (fun hc15=>?_)
 .
  obtain⟨u1,u2,u3⟩:=aC6 h (i:=i) (by omega);have hda:=ef a i;refine ix (fu:=⟨12⟩) (hv:=by simp only[ak];exact⟨⟨by omega,by omega⟩,(by omega)⟩) _ J (fh) J<|aj 24 (.d (.v (.int .u64 ((dg a).getD i 0*2^(32*i):Nat)))) J (by show FX.d (.v (.int _ _))= .d (.v (.int _ _));rw[qz _ (32*i) (by omega) (by omega)])<|gx (fu:=⟨1⟩) J<|aj 25 (.d (.v (.int .u64 (dv ((dg a).take (i+1)):Nat)))) J (congrArg (fun z:Nat=>FX.d (.v (.int .u64 (z:Int)))) ((qt 64 _ _ (32*i) u1 (by rw[u2];exact u3)).trans u2))<|gx J<|at_ (i+1) ⟨(by omega),(by omega)⟩
 .
  obtain rfl:i=(dg a).length:=by omega
  exact rz J (by rw[kA (bW _),dl];rfl)
def Lq(h:j<ds.length):dv (ds.drop j)=ds.getD j 0+4294967296*dv (ds.drop (j+1)):=by
 rw[bJ h,aW,aZ h];rfl
def Xg{r v:Nat}(hA:j<A.length)(hW:j<W.length)(hd:0<d)(h:dv (A.drop (j+1))=d*dv (W.drop (j+1))+r)(hv:v=A.getD j 0+r*4294967296):dv (A.drop j)=d*dv ((W.set j (v/d)).drop j)+v%d:=by
 have e1:dv ((W.set j (v/d)).drop j)=v/d+4294967296*dv (W.drop (j+1)):=by
  rw[Lq (by rw[bZ];exact hW),Bz hW,qL (by omega)]
 have h2:=rW v d;have e3:d*(v/d+4294967296*dv (W.drop (j+1)))=d*(v/d)+4294967296*(d*dv (W.drop (j+1))):=by rw[fJ,nQ]
 rw[e1,Lq hA,h,e3];omega
def aCX{a r:Nat}(h:a=d*dv W+r)(hr:r<d):dv W=a/d/\r=a%d:=by
 have:=(Nat.div_mod_unique (by omega:0<d)).2 ⟨show r+d*dv W=a by omega,hr⟩;exact⟨this.1.symm,this.2.symm⟩
def VD{a d i:Nat}[h:BN a i](hd:0<d)(hd2:d<4294967296)(hi:i<=1000000000:=by decide):PF GB prog 304 [dN a,dU d] (.tp [dN (a/d),dU (a%d)]):=by
 have hla:=bP (dg a);have hba:=jg (a:=a) hi;refine fn (fu:=⟨10⟩) func304 J J ntmps304 J J (fun C=>?_);refine aj 11 (.d (vI ((dg a).length:Nat))) J (by rw[hla]<;>rfl)<|gx J<|mk (fu:=⟨13⟩) ((List.replicate (dg a).length 0).map dU) J J (by rw[<-nC];rfl) J<|aj 14 (.d (vI ((dg a).length:Nat))) J (by rw[hla]<;>rfl)<|gx J<|lp (X:=List Nat×Nat×Nat) (fun⟨W,r,k⟩=>[(0, .d (dN a)),(1, .d (dU d)),(6, .rw 12),(7, .d (.v (.int .u64 (r:Nat)))),(8, .d (vI ((k:Nat)-1)))]) (fun⟨W,r,k⟩=>[(12,some (.b 208 1 (W.map dU) true))]) (fun⟨W,r,k⟩=>W.length=(dg a).length/\bA W/\r<d/\k<=(dg a).length/\dv ((dg a).drop k)=d*dv (W.drop k)+r) (fun⟨W,r,k⟩=>k) ⟨List.replicate (dg a).length 0,0,(dg a).length⟩ J ⟨by simp, .replicate _,hd,bW _,by simp[dv]⟩ (fun _=>J) (fun⟨W,r,k⟩ hk=>?_)
 try dsimp only at hk⊢
 obtain⟨h1,h2,h3,h4,h5⟩:=hk;have hlw:=bP W;refine br (fu1:=⟨0⟩) J J J (fun hc17=>?_) (fun hc17=>?_)
 .
  obtain⟨j,rfl⟩: ∃m,k=m+1:=⟨k-1,by omega⟩;have hda:=ef a j;obtain⟨v,hv⟩: ∃v,v=(dg a).getD j 0+r*4294967296:=⟨_,rfl⟩;obtain⟨q,hq⟩: ∃q,q=v/d:=⟨_,rfl⟩;have hvq:q<4294967296:=by rw[hq,kW hd,cJ];have:=bS 4294967296 (show r+1<=d from h3);omega
  refine aj 8 (.d (vI (j:Nat))) J (by show FX.d (.v (.int _ _))= .d (.v (.int _ _));congr 3;omega)<|gx (fu:=⟨8⟩) (hv:=by simp only[ak];exact(by decide)) J<|aj 21 (.d (.v (.int .u64 (r*4294967296:Nat)))) J (by show FX.d (.v (.int _ _))= .d (.v (.int _ _));rw[qz _ 32 (by decide) (by show _*4294967296<_;omega) J])<|gx J<|ix (fu:=⟨3⟩) _ J (fh) J<|aj 27 (.d (.v (.int .u64 (v:Nat)))) J (congrArg (fun z:Nat=>FX.d (.v (.int .u64 (z:Int)))) ((congrArg BitVec.toNat (BitVec.or_comm ..)).trans ((qt 64 ((dg a).getD j 0) r 32 hda (by show _+_*4294967296<18446744073709551616;omega)).trans hv.symm)))<|gx (fu:=⟨11⟩) J<|aj 33 (.d (.v (.int .u64 (q:Nat)))) J (by show FX.d (.v (.int _ _))= .d (.v (.int _ _));congr 3;rw[hq];rfl)<|gx (fu:=⟨1⟩) J<|aj 34 (.d (dU q)) J (by show FX.d (.v (.int _ _))= .d (.v (.int _ _));congr 3;omega)<|gx J<|sb (fu:=⟨7⟩) _ ((W.set j q).map dU) J (fh) J (by rw[<-jA];rfl) J<|aj 39 (.d (.v (.int .u64 (v%d:Nat)))) J (by show FX.d (.v (.int _ _))= .d (.v (.int _ _));congr 3)<|gx J<|at_ ⟨W.set j q,v%d,j⟩ (by dsimp only;exact⟨⟨by simpa using h1,h2.set _ hvq,dK _ hd,by omega,by rw[hq];exact Xg (by omega) (by omega) hd h5 hv⟩,(by omega)⟩)
 .
  obtain rfl:k=0:=by omega
  obtain⟨e1,e2⟩:=aCX (a:=a) (W:=W) (by rw[iV,iV,dl] at h5;exact h5) h3;refine fz 12 J J<|cl (fu:=⟨2⟩) J (ur (ds:=W)) J<|aj 43 (.d (dU r)) J (by show FX.d (.v (.int _ _))= .d (.v (.int _ _));congr 3;omega)<|gx J<|rz J (by show DV.tp [dG _,dU _]= .tp [dN _,dU _];rw[lz h2 e1,<-e2])
def UL{x:Nat}(hk:k<32)(hl:i+1<W.length)(hx:x=A.getD i 0)(h:dv (W.take (i+1))=dv (A.take i)*2^k):dv (((W.set i (W.getD i 0+x*2^k%4294967296)).set (i+1) (x*2^k/4294967296)).take (i+1+1))=dv (A.take (i+1))*2^k:=by
 have:=ML (A:=A) (W:=W) (k:=k) (q:=0) (s:=k) (i:=i) (x:=x) (by omega) (by omega) (by omega) hx (by rw[eM];exact h);simpa only[eM] using this
def aFr{a n:Nat}(hn:n=(dg a).length)(hl:W.length=n)(h:dv (W.take n)=(a/2^k)%4294967296^n):dv W=a/2^k:=by
 rw[kA] at h;have h1:=sF a;have h2:=nZ a (2^k);rw[h,jW (by rw[hn];omega)]
def ZA(h:k<32):(k:Int).tdiv 32=0:=Int.tdiv_eq_zero_of_lt (by omega) (by omega)
def Lx{a:Nat}[h:BN a ia](hk:k<32)(h0:0<(dg a).length)(hi:ia<=1000000000:=by decide):PR GB prog 325 [dN a, .v (.int .u64 (k:Nat))] 1 208 ((dg (a*2^k)).map dU):=by
 have hla:=bP (dg a);have hba:=jg (a:=a) hi;refine I6 (fu:=⟨8⟩) func325 J J ntmps325 J J (fun C hmb=>?_);refine cl (fu:=⟨2⟩) J (px (a:=a)) J<|aj 14 (.d (.v (.int .u64 (k:Nat)))) J (by show FX.d (.v (.int _ _))= .d (.v (.int _ _));congr 3;omega)<|gx (fu:=⟨9⟩) J<|aj 16 (.d (vI ((dg a).length:Nat))) J (by rw[hla]<;>rfl)<|gx (fu:=⟨0⟩) J<|cg (fu:=⟨10⟩) J (by show some (decide _)=some false;rw[decide_eq_false (by omega)]) J<|aj 20 (.d (vI (0:Nat))) J (by show FX.d (.v (.int _ _))= .d (.v (.int _ _));congr 3;have:=ZA hk;omega)<|gx (fu:=⟨2⟩) J<|aj 22 (.d (.v (.int .u64 (k:Nat)))) J (by show FX.d (.v (.int _ _))= .d (.v (.int _ _));congr 3;omega)<|gx (fu:=⟨8⟩) J<|aj 24 (.d (vI ((dg a).length:Nat))) J (by rw[hla]<;>rfl)<|gx (fu:=⟨3⟩) J<|aj 27 (.d (vI ((dg a).length+1:Nat))) J (by show FX.d (.v (.int _ _))= .d (.v (.int _ _));congr 3)<|gx J<|mk (fu:=⟨8⟩) ((List.replicate ((dg a).length+1) 0).map dU) J J (by rw[<-nC];rfl) J<|aj 30 (.d (vI ((dg a).length:Nat))) J (by rw[hla]<;>rfl)<|gx J<|lp (X:=List Nat×Nat) (fun⟨W,i⟩=>[(0, .d (dN a)),(1, .d (.v (.int .u64 (k:Nat)))),(5, .d (vI (0:Nat))),(6, .d (.v (.int .u64 (k:Nat)))),(7, .rw 28),(29, .d (dN a)),(30, .d (vI ((dg a).length:Nat))),(31, .d (vI (i:Nat)))]) (fun⟨W,i⟩=>[(28,some (.b 208 1 (W.map dU) true))]) (fun⟨W,i⟩=>W.length=(dg a).length+1/\bA W/\i<=(dg a).length/\dv (W.take (i+1))=dv ((dg a).take i)*2^k/\W.getD i 0<2^k) (fun⟨W,i⟩=>(dg a).length-i) ⟨List.replicate ((dg a).length+1) 0,0⟩ J ⟨by simp, .replicate _,by omega,by rw[qM,y4];simp[dv],by rw[Ef];exact gK (by decide)⟩ (fun _=>J) (fun⟨W,i⟩ hk=>?_)
 try dsimp only at hk⊢
 obtain⟨h1,h2,h3,h4,h5⟩:=hk;have hlw:=bP W;have hda:=ef a i;have hpp:2^k<=2^31:=bL (by decide) (by omega);refine br J J J (fun hc32=>?_) (fun hc32=>?_)
 .
  refine ix (fu:=⟨11⟩) (hv:=by simp only[ak];exact⟨by omega,(by omega)⟩) _ J (fh) J<|?_;have hhi:=QJ hda hk;have hfit0:=RE hda hk;have hor:=MD (x:=(dg a).getD i 0) h5 hk;have hfit:W.getD i 0+(dg a).getD i 0*2^k%4294967296<4294967296:=by rw[<-hor];exact BitVec.isLt _
  have hlp:=GP ((dg a).getD i 0) k;refine aj 39 (.d (.v (.int .u64 ((dg a).getD i 0*2^k:Nat)))) J (by show FX.d (.v (.int _ _))= .d (.v (.int _ _));rw[qz _ k (by omega) hfit0]) ?_;obtain⟨t,ht⟩: ∃t,t=(dg a).getD i 0*2^k:=⟨_,rfl⟩;simp only[<-ht] at hhi hfit0 hor hfit hlp;rw[<-ht];refine gx (fu:=⟨9⟩) J<|aj 43 (.d (vI (i:Nat))) J (by show FX.d (.v (.int _ _))= .d (.v (.int _ _));congr 3)<|gx J<|lb (fu:=⟨2⟩) _ J (fh) J<|aj 47 (.d (dU (t%4294967296))) J (by show FX.d (.v (.int _ _))= .d (.v (.int _ _));congr 3)<|gx (fu:=⟨1⟩) J<|aj 48 _ J (congrArg (fun z:Nat=>FX.d (.v (.int .u32 (z:Int)))) hor)<|gx J<|sb (fu:=⟨7⟩) _ ((W.set i (W.getD i 0+t%4294967296)).map dU) J (fh) J (by simp only[cZ,kQ]<;>rfl) J<|aj 53 (.d (vI (i:Nat))) J (by show FX.d (.v (.int _ _))= .d (.v (.int _ _));congr 3)<|gx (fu:=⟨1⟩) J<|aj 54 (.d (vI (i+1:Nat))) J (by show FX.d (.v (.int _ _))= .d (.v (.int _ _));congr 3)<|gx (fu:=⟨2⟩) (hv:=by simp only[ak];exact(by decide)) J<|aj 56 (.d (.v (.int .u64 (t/4294967296:Nat)))) J (by rw[pp])<|gx (fu:=⟨1⟩) J<|aj 57 (.d (dU (t/4294967296))) J (by show FX.d (.v (.int _ _))= .d (.v (.int _ _));congr 3;omega)<|gx J<|sb _ (((W.set i (W.getD i 0+t%4294967296)).set (i+1) (t/4294967296)).map dU) J (fh (by rw[bZ];omega)) J (by simp only[cZ,kQ]<;>rfl) J<|at_ ⟨(W.set i (W.getD i 0+t%4294967296)).set (i+1) (t/4294967296),i+1⟩ (by dsimp only;exact⟨⟨by simpa using h1,(h2.set _ hfit).set _ (by omega),by omega,by have q:=UL (x:=(dg a).getD i 0) hk (by omega) J h4;rw[<-ht] at q;exact q,by rw[Bz (by simp;omega)];exact hhi⟩,(by omega)⟩)
 .
  obtain rfl:i=(dg a).length:=by omega
  refine cq _ J (aCZ (ds:=W) (by omega)) J J<|?_;exact QM J J J (by rw[<-ED h2];have:=h4;rw[kA,kA,dl] at this;rw[this])
def WC(hd:bA ds)(hl:ds.length<=100000000)(hk:k<32):PF GB prog 326 [dG ds, .v (.int .u64 (k:Nat))] (dN (dv ds/2^k)):=by
 obtain⟨a,ha⟩: ∃a,a=dv ds:=⟨_,rfl⟩;rw[<-ha];have hla:=bP (dg a);have hba:(dg a).length<=100000000:=by rw[ha,ED hd];have:=XT ds;omega
 refine fn func326 J J ntmps326 J J (fun C=>?_);refine cl (fu:=⟨0⟩) J (ur (ds:=ds)) J<|aj 11 (.d (dN a)) J (by rw[lz hd ha.symm])<|gx (fu:=⟨8⟩) J<|aj 13 (.d (.v (.int .u64 (0:Nat)))) J (by show FX.d (.v (.int _ _))= .d (.v (.int _ _));congr 3;omega)<|gx (fu:=⟨2⟩) J<|aj 15 (.d (vI ((dg a).length:Nat))) J (by rw[hla]<;>rfl)<|gx J<|br (fu2:=⟨7⟩) J J J (fun hc17=>?_) (fun hc17=>?_)
 .
  exact rz J (by rw[AM (a:=a),Nat.zero_div,nk];rfl)
 .
  refine aj 20 (.d (vI (0:Nat))) J (by show FX.d (.v (.int _ _))= .d (.v (.int _ _));congr 3;omega)<|gx (fu:=⟨2⟩) J<|aj 22 (.d (.v (.int .u64 (k:Nat)))) J (by show FX.d (.v (.int _ _))= .d (.v (.int _ _));congr 3;omega)<|gx (fu:=⟨8⟩) J<|aj 24 (.d (vI ((dg a).length:Nat))) J (by rw[hla]<;>rfl)<|gx (fu:=⟨2⟩) J<|aj 26 (.d (vI ((dg a).length:Nat))) J (by show FX.d (.v (.int _ _))= .d (.v (.int _ _));congr 3)<|gx J<|mk (fu:=⟨8⟩) ((List.replicate (dg a).length 0).map dU) J J (by rw[<-nC];rfl) J<|aj 29 (.d (vI ((dg a).length:Nat))) J (by rw[bP,aR]<;>rfl)<|gx J<|lp (X:=List Nat×Nat) (fun⟨W,i⟩=>[(0, .d (dN a)),(5, .d (vI (0:Nat))),(6, .d (.v (.int .u64 (k:Nat)))),(7, .rw 27),(29, .d (vI ((dg a).length:Nat))),(30, .d (vI (i:Nat)))]) (fun⟨W,i⟩=>[(27,some (.b 208 1 (W.map dU) true))]) (fun⟨W,i⟩=>W.length=(dg a).length/\bA W/\i<=(dg a).length/\dv (W.take i)=(a/2^k)%4294967296^i) (fun⟨W,i⟩=>(dg a).length-i) ⟨List.replicate (dg a).length 0,0⟩ J ⟨by simp, .replicate _,by omega,by simp[dv,Nat.mod_one]⟩ (fun _=>J) (fun⟨W,i⟩ hk=>?_)
  try dsimp only at hk⊢
  obtain⟨h1,h2,h3,h4⟩:=hk;have hlw:=bP W;have hda:=ef a i;have hdb:=ef a (i+1);refine br (fu1:=⟨16⟩) J J J (fun hc31=>?_) (fun hc31=>?_)
  .
   refine aj 36 (.d (vI (i:Nat))) J (by show FX.d (.v (.int _ _))= .d (.v (.int _ _));congr 3)<|gx J<|ix (fu:=⟨6⟩) _ J (fh) J<|mg (fu:=⟨6⟩) (hv:=fun _ _=>by simp only[ak];exact(by omega)) (X:=Unit) (fun _=>[(0, .d (dN a)),(5, .d (vI (0:Nat))),(6, .d (.v (.int .u64 (k:Nat)))),(7, .rw 27),(29, .d (vI ((dg a).length:Nat))),(30, .d (vI (i:Nat))),(8, .d (vI (i:Nat))),(9, .d (.v (.int .u64 ((dg a).getD i 0+(dg a).getD (i+1) 0*4294967296:Nat))))]) (fun _=>[(27,some (.b 208 1 (W.map dU) true))]) (fun _=>True) [0,5,6,7,29,30,8,9] [27] rfl ?_ (fun _=>J) (fun _ _=>?_)
   .
    refine gx (fu:=⟨5⟩) J<|aj 42 (.d (vI (i:Nat))) J (by show FX.d (.v (.int _ _))= .d (.v (.int _ _));congr 3)<|gx (fu:=⟨1⟩) J<|aj 43 (.d (vI (i+1:Nat))) J (by show FX.d (.v (.int _ _))= .d (.v (.int _ _));congr 3)<|gx (fu:=⟨2⟩) J<|aj 45 (.d (vI ((dg a).length:Nat))) J (by rw[hla]<;>rfl)<|gx J<|br (fu1:=⟨6⟩) J J J (fun hc46=>?_) (fun hc46=>?_)
    .
     refine aj 51 (.d (vI (i:Nat))) J (by show FX.d (.v (.int _ _))= .d (.v (.int _ _));congr 3)<|gx (fu:=⟨1⟩) J<|aj 52 (.d (vI (i+1:Nat))) J (by show FX.d (.v (.int _ _))= .d (.v (.int _ _));congr 3)<|gx J<|ix (fu:=⟨3⟩) (hv:=by simp only[ak];exact⟨by omega,(by decide)⟩) _ J (cO (k:=i+1)) J<|aj 56 (.d (.v (.int .u64 ((dg a).getD (i+1) 0*4294967296:Nat)))) J (by show FX.d (.v (.int _ _))= .d (.v (.int _ _));rw[qz _ 32 (by decide) (by show _*4294967296<_;omega) J])<|gx (fu:=⟨1⟩) J<|aj 57 _ J (congrArg (fun z:Nat=>FX.d (.v (.int .u64 (z:Int)))) (qt 64 ((dg a).getD i 0) ((dg a).getD (i+1) 0) 32 hda (by show _+_*4294967296<18446744073709551616;omega)))<|gx J<|at_ () trivial
    .
     refine aj 9 (.d (.v (.int .u64 ((dg a).getD i 0+(dg a).getD (i+1) 0*4294967296:Nat)))) J (by rw[qk (by omega:(dg a).length<=i+1),kU,fS])<|at_ () trivial
   .
    refine aj 62 (.d (.v (.int .u64 (((dg a).getD i 0+(dg a).getD (i+1) 0*4294967296)/2^k:Nat)))) J (by show FX.d (.v (.int _ _))= .d (.v (.int _ _));rw[TX _ k])<|gx (fu:=⟨1⟩) J<|?_;obtain⟨w,hw⟩: ∃w,w=((dg a).getD i 0+(dg a).getD (i+1) 0*4294967296)/2^k%4294967296:=⟨_,rfl⟩;have hw1:w<4294967296:=hw▸dK _ (by decide);refine aj 63 (.d (dU w)) J (by show FX.d (.v (.int _ _))= .d (.v (.int _ _));congr 3;rw[hw];rfl)<|gx J<|sb _ ((W.set i w).map dU) J (fh) J (by rw[<-jA];rfl) J<|at_ ⟨W.set i w,i+1⟩ (by dsimp only;exact⟨⟨by simpa using h1,h2.set _ (by omega),by omega,by rw[xi,h4];exact(OD hk (by have:=D8 (gy a) i;rwa [dl] at this) hw).symm⟩,(by omega)⟩)
  .
   refine fz 27 J J<|cl rfl (ur (ds:=W)) rfl<|rz rfl (lz h2 (by obtain rfl:i=(dg a).length:=(by omega);exact aFr rfl h1 h4))
def aG1(c:Nat)(h:c<18446744073709551616):(BitVec.ofInt 64 (c:Int) &&& BitVec.ofInt 64 4294967295).toNat=c%4294967296:=by
 rw[BitVec.toNat_and,BitVec.ofInt_natCast,BitVec.toNat_ofNat,jW (by omega),show(BitVec.ofInt 64 4294967295).toNat=2^32-1 from J,Nat.and_two_pow_sub_one_eq_mod]
structure aJR (a b n s l:Nat):Prop where
 hn:(dg b).length=n+2
 hs:s=32-bl ((dg b).getD (n+1) 0)
 hb:bl ((dg b).getD (n+1) 0)<=32
 s32:s<32
 vl:(dg (b*2^s)).length=n+2
 v2:b*2^s<4294967296^(n+2)
 al:(dg a).length=n+1+l
 u0:(dg a).length<=(dg (a*2^s)).length
 u1:a*2^s<4294967296^((dg a).length+1)
 u3:a*2^s<b*2^s*4294967296^l
 bp:0<b
def azl{a b:Nat}(hb2:2<=(dg b).length)(hle:b<=a): ∃n s l,aJR a b n s l:=by
 have hoa:=gy a;have hob:=gy b;have hna:=(f8 a).2.2;have hnb:=(f8 b).2.2;have ea:=dl a;have eb:=dl b;obtain⟨n,hn⟩: ∃n,(dg b).length=n+2:=⟨(dg b).length-2,by omega⟩;have hbp:0<b:=iS fun h=>by subst h;rw[uM] at hb2;simp at hb2
 have hnm:(dg b).length<=(dg a).length:=by
  rcases jM (dg a).length (dg b).length with h|h
  .have:=yp hoa hnb h
   omega
  .exact h
 have htp:=P0 hnb (n+1) hn;have htl:=hob.get (n+1);have hbv:=W5 hob (n+1) hn;have hbt:=D1 hob (n+1);obtain⟨s,hs⟩: ∃s,s=32-bl ((dg b).getD (n+1) 0):=⟨_,rfl⟩;obtain⟨hs32,hs1,hs2⟩:=axl htp htl hs;have hpn:0<4294967296^(n+1):=gK (by decide);have hps:0<2^s:=gK (by decide);rw[eb] at hbv;have hV1:2147483648*4294967296^(n+1)<=b*2^s:=by
  refine cS (bS _ hs1) ?_;rw[cY,cJ (2^s),<-cY];exact bS _ (by omega)
 have hV2:b*2^s<4294967296^(n+2):=by
  refine dJ (nW (k:=2^s) (m:=((dg b).getD (n+1) 0+1)*4294967296^(n+1)) (by rw[dV,nY];omega) hps) ?_;rw[cY,cJ (4294967296^(n+1)),<-cY,xd (n+1),cJ _ 4294967296];exact bS _ hs2
 have hVl:(dg (b*2^s)).length=n+2:=aG4 (by show 4294967296^(n+1)<=_;omega) hV2 (by omega);have hal:=mG hoa;rw[ea] at hal;have hU2:a*2^s<4294967296^((dg a).length+1):=by
  rw[xd];exact pY hal (dJ (Nat.pow_lt_pow_right (by decide) hs32) (by decide))
 have hUl0:(dg a).length<=(dg (a*2^s)).length:=by
  have hane:dg a≠[]:=fun h=>by
   have:=congrArg List.length h;simp only[dT] at this;omega
  have h1:=xl hna hane;have h2:=mG (f8 (a*2^s)).2.1;rw[(f8 _).1] at h2;rw[ea] at h1;have h3:a<=a*2^s:=mN _ hps;have h4:=(oS (a:=4294967296) (by decide)).1 (fU (cS h1 h3) h2);omega
 have hU3:a*2^s<b*2^s*4294967296^((dg a).length-n-1):=by
  have h1:4294967296^(n+1)*4294967296^((dg a).length-n-1)=4294967296^(dg a).length:=by rw[<-fY,show n+1+((dg a).length-n-1)=(dg a).length by omega]
  refine dJ (nW hal hps) (cS (fM _ (bL (by decide) (show s<=31 by omega))) ?_);rw[<-h1,cJ,<-cY];exact bS _ hV1
 exact⟨n,s,(dg a).length-n-1,hn,hs,ol.2 htl,hs32,hVl,hV2,by omega,hUl0,hU2,hU3,hbp⟩
section
variable {n:Nat}{Q0:Exit->Act->World->Prop}{fr fr':aC}{own own':aH}{cf cf':Cf}{vc:List Prop}
def Mq(fr:aC)(cf:Cf):Option (Int×Int):=match cG fr cf with
 |some ⟨_, .binOp .add _ x y _,_,_,_,_⟩=>match aP (b7 fr cf) x,aP (b7 fr cf) y with
  |some (.d (.v (.int .u32 p))),some (.d (.v (.int .u32 q)))=>some (p,q)
  |_,_=>none
 |_=>none
def aw[fu:Fu]{p q:Int}(u:Int)(h:Mq fr cf=some (p,q))(e:IntKind.u32.wrap (p+q)=u)(hgo:cB tt n fu.n fr own cf (.d (.v (.int .u32 u))) [] []=⟨vc,fr',own',cf'⟩)(k:av prog GB C n Q0 fr' own' cf')
  (hv:autoParam (ak vc) cL._auto_1):av prog GB C n Q0 fr own cf:=by
 unfold Mq at h;split at h<;>try (cases h;done)
 rename_i hh;split at h<;>cases h;rename_i h1 h2;subst e;exact us hh (.yd fun ρ G ov a w r=>by
  obtain⟨y1,h3,h4⟩:=r.ev h1;obtain⟨y2,h5,h6⟩:=r.ev h2;rw[cP] at h4 h6;subst h4 h6;exact⟨_,cP.2 J,lE h3 h5 fun w=>J⟩) hgo hv k
end
def U7{m:Nat}(h:U<4294967296^m):dv ((dg U++[0,0]).take m)=U:=by
 have h1:dv (dg U++[0,0])=U:=by rw[show([0,0]:List Nat)=List.replicate 2 0 from J,VN,dl]
 have h2:=wk (dg U++[0,0]) m;rw[AQ (by rw[h1];exact h),h1] at h2;omega
def aGT{a:Nat}[h:BN a ia](hv:vs=dg (a*2^k))(hk:k<32)(h0:0<(dg a).length)(hi:ia<=1000000000):PR GB prog 325 [dN a, .v (.int .u64 (k:Nat))] 1 208 (vs.map dU):=by
 subst hv;exact Lx hk h0 hi
def aE7{us:List Nat}{n:Nat}(huo:bA us)(hvo:bA vs)(hvB:dv vs<4294967296^(n+2))(hv0:0<dv vs)(hvh:dv vs=(T*4294967296+S)*4294967296^n+dv (vs.take n))(hlt:dv us<dv vs*4294967296^(i+1)):
  ∃f p V w:Nat,f=us.getD (i+n+2) 0*4294967296+us.getD (i+n+1) 0/\V=dv vs*4294967296^i/\0<V/\dv us<V*4294967296/\(f*4294967296+us.getD (i+n) 0)*p<=dv us/\dv us<(f*4294967296+us.getD (i+n) 0+1)*p/\V=(T*4294967296+S)*p+w/\w<p/\dv us<4294967296^(i+n+3):=by
 have hpi:0<4294967296^i:=gK (by decide);obtain⟨p,hp⟩: ∃p,p=4294967296^(i+n):=⟨_,rfl⟩;have hM:dv us<4294967296^(i+n+3):=by
  refine dJ hlt ?_;rw[show i+n+3=(n+2)+(i+1) by omega,fY 4294967296 (n+2) (i+1)];exact bS _ (gW hvB)
 have huh:=X1 huo (i+n) hM;have hu0:=D1 huo (i+n);rw[<-hp] at huh hu0;refine⟨_,p,_,dv (vs.take n)*4294967296^i,J,J,iN hv0 hpi,by rw[cY,<-xd];exact hlt,by omega,by rw[dV _ 1,nY];omega,?_,?_,hM⟩
 .rw[hvh,dV,hp,fY,cJ (4294967296^i),cY]
 .rw[hp,fY,cJ]
  exact Nat.mul_lt_mul_of_pos_left (D1 hvo n) hpi
def Z8{g bo c c1 xx:Nat}(hl:i+k<ws.length)(hw:dv ws+g*(dv (vs.take k)*4294967296^i)=u+(bo+c)*4294967296^(i+k))(hc1:c1=c+g*vs.getD k 0)(hx1:xx%4294967296+(c1%4294967296+bo)=ws.getD (i+k) 0+xx/9223372036854775808*4294967296):
  dv (ws.set (i+k) (xx%4294967296))+g*(dv (vs.take (k+1))*4294967296^i)=u+(xx/9223372036854775808+c1/4294967296)*4294967296^(i+(k+1)):=by
 rw[pn,dV (dv (vs.take k)),<-lY i k 1,xd,show 4294967296^k*vs.getD k 0*4294967296^i=vs.getD k 0*4294967296^(i+k) by rw[fY,cJ (4294967296^k),cY,cJ (4294967296^k)],fJ,<-cY g (vs.getD k 0)];exact aFd (w6 ws (i+k) _ hl) hw hc1 hx1
def Y0(hl:i+k<wa.length)(ha:dv wa+ca*4294967296^(i+k)=u+dv (vs.take k)*4294967296^i):
  dv (wa.set (i+k) ((ca+(wa.getD (i+k) 0+vs.getD k 0))%4294967296))+(ca+(wa.getD (i+k) 0+vs.getD k 0))/4294967296*4294967296^(i+(k+1))=u+dv (vs.take (k+1))*4294967296^i:=by
 rw[pn,dV (dv (vs.take k)),<-lY i k 1,xd,show 4294967296^k*vs.getD k 0*4294967296^i=vs.getD k 0*4294967296^(i+k) by rw[fY,cJ (4294967296^k),cY,cJ (4294967296^k)]];exact Wb (w6 wa (i+k) _ hl) ha
def aAj{a b n:Nat}{us:List Nat}(hp:0<2^s)(hvv:dv vs=b*2^s)(hv0:0<dv vs)(hvB:dv vs<4294967296^(n+2))(hinv:a*2^s=dv us+dv vs*dv qs)(hlt:dv us<dv vs*4294967296^0):dv qs=a/b/\dv (us.take (n+2))/2^s=a%b:=by
 rw[tY,jL] at hlt;have hut:dv (us.take (n+2))=dv us:=by
  have h0:=wk us (n+2);rw[AQ (by omega)] at h0;omega
 refine⟨?_,?_⟩
 .rw[<-Nat.mul_div_mul_right _ _ hp,hinv,<-hvv,qV _ _ hv0,lM hlt,eM]
 .have:dv us=a%b*2^s:=by rw[<-Nat.mul_mod_mul_right,hinv,<-hvv,qR,jW hlt]
  rw[hut,this,Nat.mul_div_cancel _ hp]
def UR{l:Nat}(hl:i<qs.length)(h:qs.getD i 0=0):dv (qs.set i d)=dv qs+4294967296^i*d:=by
 have:=w6 qs i d hl;rw[h] at this;simpa using this
def LD{a R V v:Nat}(hl:i<qs.length)(h0:qs.getD i 0=0)(hinv:a*2^s=u+v*dv qs)(hV:V=v*4294967296^i)(h:R+d*V=u):a*2^s=R+v*dv (qs.set i d):=by
 rw[hinv,<-h,UR (l:=0) hl h0,fJ,<-cY,<-hV,cJ d];omega
def RI(hq: ∀j,j<i+1->qs.getD j 0=0): ∀j,j<i->(qs.set i d).getD j 0=0:=fun j h=>by
 rw[getD_set_ne];exact hq j (by omega)
def aHi{a b ia ib:Nat}[h:BN a ia][k:BN b ib](h2:2<=(dg b).length)(hle:b<=a)(hi:ia<=1000000000:=by decide)(hj:ib<=1000000000:=by decide):PF GB prog 305 [dN a,dN b] (.tp [dN (a/b),dN (a%b)]):=by
 have hla:=bP (dg a);have hba:=jg (a:=a) hi;have hlb:=bP (dg b);have hbb:=jg (a:=b) hj;obtain⟨n,s,l,P⟩:=azl h2 hle;have hn:=P.hn;have hs:=P.hs;have hsb:=P.hb;have hs32:=P.s32;have hal:=P.al;have hu0:=P.u0;have hu9:=BY (a:=a*2^s) (k:=(dg a).length+1) P.u1;have htl:=ef b (n+1);obtain⟨vs,hvs⟩: ∃vs,vs=dg (b*2^s):=⟨_,rfl⟩;have hvl:vs.length=n+2:=by rw[hvs];exact P.vl
 have hvv:dv vs=b*2^s:=by rw[hvs,dl]
 have hvo:bA vs:=by rw[hvs];exact gy _
 have hvn:fj vs:=by rw[hvs];exact(f8 _).2.2
 have hvm:=bP vs;obtain⟨us0,hus0⟩: ∃us0,us0=(dg (a*2^s)++[0,0]).take ((dg a).length+1):=⟨_,rfl⟩;have husv:dv us0=a*2^s:=by rw[hus0];exact U7 P.u1
 have huso:bA us0:=by rw[hus0];exact((gy _).append (.replicate 2)).take _
 have husl:us0.length=(dg a).length+1:=by rw[hus0];simp;omega
 have hps:0<2^s:=gK (by decide);have hbp:=P.bp;have hV0':0<dv vs:=by rw[hvv];exact iN hbp hps
 have hvB:dv vs<4294967296^(n+2):=by rw[hvv];exact P.v2
 obtain⟨T,hT⟩: ∃T,T=vs.getD (n+1) 0:=⟨_,rfl⟩;obtain⟨S,hS⟩: ∃S,S=vs.getD n 0:=⟨_,rfl⟩;have hTB:T<4294967296:=by rw[hT];exact hvo.get _
 have hSB:S<4294967296:=by rw[hS];exact hvo.get _
 have hT0:0<T:=by rw[hT];exact P0 hvn (n+1) hvl
 have hvh:=aJ4 hvo n hvB;rw[<-hT,<-hS] at hvh;refine fn (fu:=⟨12⟩) func305 J J ntmps305 J J (fun C=>?_);refine aj 27 (.d (vI ((dg b).length:Nat))) J (by rw[hlb]<;>rfl)<|gx J<|ix _ J (cO (k:=n+1)) J<|cl (fu:=⟨1⟩) J (JV htl) J<|aj 32 (.d (.v (.int .u64 (s:Nat)))) J (by show FX.d (.v (.int _ _))= .d (.v (.int _ _));congr 3;omega)<|gx J<|cr J (Lx (a:=a) (k:=s) hs32 (by omega) hi) J<|rf J J<|ap (fu:=⟨2⟩) _ J J (Eg J) J<|aj 39 (.d (vI ((dg a).length:Nat))) J (by rw[hla]<;>rfl)<|gx (fu:=⟨1⟩) J<|aj 40 (.d (vI ((dg a).length+1:Nat))) J (by show FX.d (.v (.int _ _))= .d (.v (.int _ _));congr 3)<|gx (fu:=⟨0⟩) J<|JG (us0.map dU) ((dg a).length+1) J J (by simp;omega) (by rw[hus0,iT,bX];rfl) J<|cr (fu:=⟨7⟩) J (aGT (a:=b) (k:=s) (vs:=vs) hvs hs32 (by omega) hj) J<|aj 46 (.d (vI (n+2:Nat))) J (by rw[hvm,hvl]<;>rfl)<|gx J<|lb (fu:=⟨1⟩) _ J (cO (k:=n+1)) J<|aj 52 (.d (.v (.int .u64 (T:Nat)))) J (by show FX.d (.v (.int _ _))= .d (.v (.int _ _));rw[hT])<|gx J<|lb (fu:=⟨1⟩) _ J (cO (k:=n)) J<|aj 58 (.d (.v (.int .u64 (S:Nat)))) J (by show FX.d (.v (.int _ _))= .d (.v (.int _ _));rw[hS])<|gx (fu:=⟨8⟩) J<|aj 60 (.d (vI ((dg a).length+1:Nat))) J (by rw[bP,husl]<;>rfl)<|gx (fu:=⟨2⟩) J<|aj 62 (.d (vI (l:Nat))) J (by show FX.d (.v (.int _ _))= .d (.v (.int _ _));congr 3;omega)<|gx J<|mk (fu:=⟨11⟩) ((List.replicate l 0).map dU) J J (by rw[<-nC];rfl) J<|aj 65 (.d (vI (l:Nat))) J (by rw[bP,aR]<;>rfl)<|gx J<|lp (X:=List Nat×List Nat×Nat) (fun⟨us,qs,j⟩=>[(13, .d (vI ((j:Nat)-1)))]) (fun⟨us,qs,j⟩=>[(63,some (.b 208 1 (qs.map dU) true)),(41,some (.b 208 1 (us.map dU) true))]) (fun⟨us,qs,j⟩=>us.length=(dg a).length+1/\bA us/\qs.length=l/\bA qs/\j<=l/\(∀i,i<j->qs.getD i 0=0)/\a*2^s=dv us+dv vs*dv qs/\dv us<dv vs*4294967296^j) (fun⟨us,qs,j⟩=>j) ⟨us0,List.replicate l 0,l⟩ J ⟨husl,huso,by simp, .replicate _,bW _,fun i _=>Ef _ _,by simp only[y4];omega,by rw[husv,hvv];exact P.u3⟩ (fun _=>J) (fun⟨us,qs,j⟩ hk=>?_)
 try dsimp only at hk⊢
 obtain⟨hul,huo,hql,hqo,hjl,hq0,hinv,hlt⟩:=hk;refine br (fu1:=⟨0⟩) (fu2:=⟨0⟩) J J J (fun hc68=>?_) (fun hc68=>?_)
 .
  obtain⟨i,rfl⟩: ∃i,j=i+1:=⟨j-1,by omega⟩;refine aj 13 (.d (vI (i:Nat))) J (by show FX.d (.v (.int _ _))= .d (.v (.int _ _));congr 3;omega) ?_;obtain⟨f,p,V,v0,hf,hV,hVp0,hltV,hUle,hUlt,hVp,hv0,hM⟩:=aE7 (n:=n) (i:=i) huo hvo hvB hV0' hvh hlt;have hVle:(T*4294967296+S)*p<=V:=by rw[hVp];exact pV _ _
  have hfT:f<=T*4294967296+S:=UB hUle hVp hv0 hltV;have hg0:=huo.get (i+n);have hg1:=huo.get (i+n+1);have hg2:=huo.get (i+n+2);have hum:=bP us;have hqm:=bP qs;refine gx J<|lb (fu:=⟨2⟩) (hv:=by simp only[ak];exact⟨by omega,(by decide)⟩) _ J (cO (k:=i+n+2)) J<|aj 78 (.d (.v (.int .u64 (us.getD (i+n+2) 0*4294967296:Nat)))) J (by show FX.d (.v (.int _ _))= .d (.v (.int _ _));rw[qz _ 32 (by decide) (by show _*4294967296<_;omega) J])<|gx J<|lb (fu:=⟨2⟩) _ J (cO (k:=i+n+1)) J<|aj 87 (.d (.v (.int .u64 (f:Nat)))) J (congrArg (fun z:Nat=>FX.d (.v (.int .u64 (z:Int)))) ((congrArg BitVec.toNat (BitVec.or_comm ..)).trans ((qt 64 (us.getD (i+n+1) 0) (us.getD (i+n+2) 0) 32 hg1 (by show _+_*4294967296<18446744073709551616;omega)).trans (by show _+_*4294967296=_;omega))))<|gx (fu:=⟨8⟩) (hv:=by simp only[ak];exact⟨by kernel_rfl,by omega⟩) J<|aj 90 (.d (.v (.int .u64 (f/T:Nat)))) J (by show FX.d (.v (.int _ _))= .d (.v (.int _ _));first|rfl|congr 3)<|gx (fu:=⟨3⟩) J<|aj 93 (.d (.v (.int .u64 (f%T:Nat)))) J (by show FX.d (.v (.int _ _))= .d (.v (.int _ _));first|rfl|congr 3)<|gx (fu:=⟨5⟩) J<|mg (fu:=⟨11⟩) (X:=Nat) (fun g=>[(15, .d (.v (.int .u64 (g:Nat))))]) (fun g=>[]) (fun g=>g<4294967296/\dv us<(g+1)*V/\g*V<dv us+V) [15,16] [] rfl ?_ (fun _=>J) (fun g ⟨hgB,hlo,hhi⟩=>?_)
  .
   refine gx J<|lp (fu:=⟨5⟩) (hv:=fun _ _=>by simp only[ak];exact(by decide)) (X:=Nat×Nat) (fun⟨g,r⟩=>[(15, .d (.v (.int .u64 (g:Nat)))),(16, .d (.v (.int .u64 (r:Nat))))]) (fun⟨g,r⟩=>[]) (fun⟨g,r⟩=>f=g*T+r/\r<4294967296/\dv us<(g+1)*V) (fun⟨g,r⟩=>g) ⟨f/T,f%T⟩ J ⟨(Nat.div_add_mod' ..).symm,tW (dK _ hT0) hTB,aDM hUlt hg0 hVle hT0⟩ (fun _=>J) (fun⟨g,r⟩ hk=>?_)
   try dsimp only at hk⊢
   obtain⟨hfg,hrB,hlo⟩:=hk;have hgT:g*1<=g*T:=fM _ hT0;refine aj 95 (.d (.v (.int .u64 (g/4294967296:Nat)))) rfl (by rw[pp])<|gx rfl<|cs (fu1:=⟨26⟩) (v1:=fun hg97=>by simp only[ak];exact(by first|omega|(have hd:=Gl hUlt hVle hfg;rcases fX g with e|e;(rw[e,kU] at hd;omega);omega))) (fu2:=⟨3⟩) (v2:=fun hg97=>by simp only[ak];exact⟨(Bo _ _),(Ca (show g<4294967296 by omega) hSB)⟩) 97 J J J (fun hg97=>?_) (fun hg97=>?_)
   .
    have hgB4:4294967296<=g:=by omega
    have hdec:dv us<g*V:=dJ hltV (by rw[cJ];exact bS _ hgB4);obtain⟨g',rfl⟩: ∃g',g=g'+1:=⟨g-1,by rcases fX g with h|h;(rw[h,kU] at hdec;omega);omega⟩;have hfg':f=g'*T+(r+T):=by rw[hfg,dV,nY];omega
    refine aj 115 (.d (.v (.int .u64 (g':Nat)))) J (by show FX.d (.v (.int _ _))= .d (.v (.int _ _));congr 3;omega)<|gx (fu:=⟨8⟩) J<|aj 118 (.d (.v (.int .u64 (r+T:Nat)))) J (by show FX.d (.v (.int _ _))= .d (.v (.int _ _));first|rfl|congr 3)<|gx (fu:=⟨7⟩) (hv:=by simp only[ak];exact(by decide)) J<|aj 120 (.d (.v (.int .u64 ((r+T)/4294967296:Nat)))) J (by rw[pp])<|gx J<|br J J J (fun hc121=>?_) (fun hc121=>?_)
    .
     have hgB3:g'<4294967296:=by rcases jM g' 4294967296 with h|h;(exact h);(have:=bS T h;omega)
     have hgS3:g'*S<=(r+T)*4294967296+us.getD (i+n) 0:=by have h1:=iW (gW hgB3) (gW hSB);omega
     exact at_ g' ⟨hgB3,hdec,Gr hUle hVp hv0 hT0 hfg' hgB3 hgS3⟩
    .
     exact at_ ⟨g',r+T⟩ (by dsimp only;exact⟨⟨hfg',by omega,hdec⟩,(by omega)⟩)
   .
    have hgB:g<4294967296:=by omega
    have hgS:g*S<4294967296*4294967296:=pY hgB hSB;refine aj 100 (.d (.v (.int .u64 (g*S:Nat)))) rfl (by rw[jQ])<|gx (fu:=⟨2⟩) (hv:=by simp only[ak];exact(by decide)) rfl<|aj 102 (.d (.v (.int .u64 (r*4294967296:Nat)))) rfl (by show FX.d (.v (.int _ _))= .d (.v (.int _ _));rw[qz _ 32 (by decide) (by show _*4294967296<_;omega) rfl])<|gx rfl<|lb (fu:=⟨2⟩) _ rfl (cO (k:=i+n)) rfl<|aj 111 (.d (.v (.int .u64 (r*4294967296+us.getD (i+n) 0:Nat)))) rfl (congrArg (fun z:Nat=>FX.d (.v (.int .u64 (z:Int)))) ((congrArg BitVec.toNat (BitVec.or_comm ..)).trans ((qt 64 (us.getD (i+n) 0) (r) 32 hg0 (by show _+_*4294967296<18446744073709551616;omega)).trans (by show _+_*4294967296=_;omega))))<|gx rfl<|br (fu1:=⟨7⟩) (v1:=fun hc113=>by simp only[ak];exact(by first|omega|(have hd:=Gl hUlt hVle hfg;rcases fX g with e|e;(rw[e,kU] at hd;omega);omega))) rfl rfl rfl (fun hc113=>?_) (fun hc113=>?_)
    .
     have hdec:dv us<g*V:=Gl hUlt hVle hfg;obtain⟨g',rfl⟩: ∃g',g=g'+1:=⟨g-1,by rcases fX g with h|h;(rw[h,kU] at hdec;omega);omega⟩;have hfg':f=g'*T+(r+T):=by rw[hfg,dV,nY];omega
     refine aj 115 (.d (.v (.int .u64 (g':Nat)))) J (by show FX.d (.v (.int _ _))= .d (.v (.int _ _));congr 3;omega)<|gx (fu:=⟨8⟩) J<|aj 118 (.d (.v (.int .u64 (r+T:Nat)))) J (by show FX.d (.v (.int _ _))= .d (.v (.int _ _));first|rfl|congr 3)<|gx (fu:=⟨7⟩) (hv:=by simp only[ak];exact(by decide)) J<|aj 120 (.d (.v (.int .u64 ((r+T)/4294967296:Nat)))) J (by rw[pp])<|gx J<|br J J J (fun hc121=>?_) (fun hc121=>?_)
     .
      have hgB3:g'<4294967296:=by rcases jM g' 4294967296 with h|h;(exact h);(have:=bS T h;omega)
      have hgS3:g'*S<=(r+T)*4294967296+us.getD (i+n) 0:=by have h1:=iW (gW hgB3) (gW hSB);omega
      exact at_ g' ⟨hgB3,hdec,Gr hUle hVp hv0 hT0 hfg' hgB3 hgS3⟩
     .
      exact at_ ⟨g',r+T⟩ (by dsimp only;exact⟨⟨hfg',by omega,hdec⟩,(by omega)⟩)
    .
     exact at_ g ⟨hgB,hlo,Gr hUle hVp hv0 hT0 hfg hgB (by omega)⟩
  .
   refine aj 123 (.d (vI (n+2:Nat))) J (by rw[hvm,hvl]<;>rfl)<|gx J<|lp (X:=List Nat×Nat×Nat×Nat) (fun⟨ws,k,bo,c⟩=>[(124, .d (vI (k:Nat))),(17, .d (.v (.int .u64 (bo:Nat)))),(18, .d (.v (.int .u64 (c:Nat))))]) (fun⟨ws,k,bo,c⟩=>[(41,some (.b 208 1 (ws.map dU) true))]) (fun⟨ws,k,bo,c⟩=>ws.length=(dg a).length+1/\bA ws/\k<=n+2/\bo<=1/\c<4294967296/\dv ws<4294967296^(i+n+3)/\dv ws+g*(dv (vs.take k)*4294967296^i)=dv us+(bo+c)*4294967296^(i+k)) (fun⟨ws,k,bo,c⟩=>n+2-k) ⟨us,0,0,0⟩ J ⟨hul,huo,bV _,bV _,by decide,hM,by simp[dv]⟩ (fun _=>J) (fun⟨ws,k,bo,c⟩ hk=>?_)
   try dsimp only at hk⊢
   obtain⟨hwl,hwo,hk2,hbo,hc4,hwM,hw⟩:=hk;refine br J J J (fun hc125=>?_) (fun hc125=>?_)
   .
    have hvk:=hvo.get k;have hwg:=hwo.get (i+k);have hgd:g*vs.getD k 0<=4294967295*4294967295:=iW (by omega) (by omega);obtain⟨c1,hc1⟩: ∃c1,c1=c+g*vs.getD k 0:=⟨_,rfl⟩;have hc1m:c1%4294967296<4294967296:=dK _ (by decide);obtain⟨hx1,hx2,hx3⟩:=Sw (ws.getD (i+k) 0) (c1%4294967296) bo hwg hc1m hbo;obtain⟨xx,hxx⟩: ∃x,x=uk (ws.getD (i+k) 0) (c1%4294967296) bo:=⟨_,rfl⟩;rw[<-hxx] at hx1 hx2 hx3;have hwm:=bP ws;refine lb (fu:=⟨11⟩) (hv:=by simp only[ak];exact⟨by omega,⟨(Bo _ _),(Ca hgB hvk)⟩⟩) _ J (fh) J<|aj 133 (.d (.v (.int .u64 (g*vs.getD k 0:Nat)))) J (by rw[jQ])<|gx (fu:=⟨1⟩) J<|aj 134 (.d (.v (.int .u64 (c1:Nat)))) J (by show FX.d (.v (.int _ _))= .d (.v (.int _ _));congr 3;omega)<|gx J<|lb (fu:=⟨3⟩) _ J (cO (k:=i+k)) J<|aj 143 (.d (.v (.int .u64 (c1%4294967296:Nat)))) J (congrArg (fun z:Nat=>FX.d (.v (.int .u64 (z:Int)))) (aG1 c1 (by omega)))<|gx (fu:=⟨0⟩) J<|sd (fu:=⟨1⟩) (IntKind.u64.wrap (((ws.getD (i+k) 0:Nat):Int)-((c1%4294967296:Nat):Int))) J J J<|sd (fu:=⟨11⟩) ((xx:Nat):Int) J (by rw[hxx];exact E8 _ _ _ hwg hc1m hbo) J<|aj 152 (.d (dU (xx%4294967296))) J (by show FX.d (.v (.int _ _))= .d (.v (.int _ _));congr 3)<|gx J<|sb (fu:=⟨6⟩) (hv:=by simp only[ak];exact(by decide)) _ ((ws.set (i+k) (xx%4294967296)).map dU) J (cO (k:=i+k)) J (by(rw[show((i:Int)+k).toNat=i+k by omega,<-jA])<;>rfl) J<|aj 155 (.d (.v (.int .u64 (xx/9223372036854775808:Nat)))) J (by rw[Jc])<|gx (fu:=⟨6⟩) (hv:=by simp only[ak];exact(by decide)) J<|aj 157 (.d (.v (.int .u64 (c1/4294967296:Nat)))) J (by rw[pp])<|gx J<|at_ ⟨ws.set (i+k) (xx%4294967296),k+1,xx/9223372036854775808,c1/4294967296⟩ (by dsimp only;exact⟨⟨by simpa using hwl,hwo.set _ (dK _ (by decide)),by omega,hx2,by omega,Ec hwo (dK _ (by decide)) hwM,Z8 (by omega) hw hc1 hx1⟩,(by omega)⟩)
   .
    obtain rfl:k=n+2:=by omega
    rw[bM (by omega),<-hV] at hw;have hwg:=hwo.get (i+n+2);obtain⟨hx1,hx2,hx3⟩:=Sw (ws.getD (i+n+2) 0) c bo hwg hc4 hbo;obtain⟨xx,hxx⟩: ∃x,x=uk (ws.getD (i+n+2) 0) c bo:=⟨_,rfl⟩;rw[<-hxx] at hx1 hx2 hx3;have hwm:=bP ws;obtain⟨ws2,hws2⟩: ∃z,z=ws.set (i+n+2) (xx%4294967296):=⟨_,rfl⟩;have hl2:=aEJ (w6 ws (i+n+2) (xx%4294967296) (by omega)) hw hx1;rw[<-xd,<-hws2] at hl2;have hM2:=Ec (i:=i+n+2) (d:=xx%4294967296) hwo (dK _ (by decide)) hwM;have ho2:=hwo.set (i+n+2) (d:=xx%4294967296) (dK _ (by decide));have hn2:ws2.length=(dg a).length+1:=by rw[hws2,bZ];exact hwl
    rw[<-hws2] at hM2 ho2;replace hl2:dv ws2+g*V=dv us+xx/9223372036854775808*4294967296^(i+n+3):=hl2;have hqi:=hq0 i (by omega);obtain⟨q2,hq2⟩: ∃z,z=qs.set i g:=⟨_,rfl⟩;have hq2l:q2.length=l:=by rw[hq2,bZ];exact hql
    have hq2m:=bP q2;have hwm2:=bP ws2;refine lb (fu:=⟨2⟩) _ J (cO (k:=i+n+2)) J<|sd (fu:=⟨1⟩) (IntKind.u64.wrap (((ws.getD (i+n+2) 0:Nat):Int)-((c:Nat):Int))) J J J<|sd (fu:=⟨11⟩) ((xx:Nat):Int) J (by rw[hxx];exact E8 _ _ _ hwg hc4 hbo) J<|aj 175 (.d (dU (xx%4294967296))) J (by show FX.d (.v (.int _ _))= .d (.v (.int _ _));congr 3)<|gx J<|sb (fu:=⟨8⟩) _ (ws2.map dU) J (cO (k:=i+n+2)) J (by(rw[hws2,show((i:Int)+((n+2:Nat):Int)).toNat=i+n+2 by omega,<-jA])<;>rfl) J<|aj 180 (.d (dU g)) J (by show FX.d (.v (.int _ _))= .d (.v (.int _ _));congr 3;omega)<|gx J<|sb (fu:=⟨7⟩) (hv:=by simp only[ak];exact(by decide)) _ (q2.map dU) J (fh) J (by rw[hq2,<-jA];rfl) J<|aj 183 (.d (.v (.int .u64 (xx/9223372036854775808:Nat)))) J (by rw[Jc])<|gx J<|br J J J (fun hc184=>?_) (fun hc184=>?_)
    .
     have ht0:xx/9223372036854775808=0:=by omega
     rw[ht0,kU,fS] at hl2;exact at_ ⟨ws2,q2,i⟩ (by dsimp only;exact⟨⟨hn2,ho2,hq2l,by rw[hq2];exact hqo.set _ hgB,by omega,by rw[hq2];exact RI hq0,by rw[hq2];exact LD (by omega) hqi hinv hV hl2,by rw[<-hV];exact Wy hlo hl2⟩,(by omega)⟩)
    .
     have ht1:xx/9223372036854775808=1:=by omega
     rw[ht1,nY] at hl2;obtain⟨g',rfl⟩: ∃g',g=g'+1:=⟨g-1,by rcases fX g with h|h;(rw[h,kU] at hl2;omega);omega⟩;have hqs:q2.getD i 0=g'+1:=by rw[hq2];exact Bz (by omega)
     refine lb (fu:=⟨0⟩) _ J (fh) J<|aj 188 (.d (dU (g'+1))) J (by first|rw[hqs]|(simp only[cZ];rw[hqs]))<|gx (fu:=⟨0⟩) J<|sw ((g':Nat):Int) J (by omega) J<|sb (fu:=⟨12⟩) _ ((qs.set i g').map dU) J (fh) J (by simp only[cZ,hq2,kQ,List.set_set]<;>rfl) J<|aj 192 (.d (vI (n+2:Nat))) J (by rw[hvm,hvl]<;>rfl)<|gx J<|lp (X:=List Nat×Nat×Nat) (fun⟨wa,k,ca⟩=>[(193, .d (vI (k:Nat))),(18, .d (.v (.int .u64 (ca:Nat))))]) (fun⟨wa,k,ca⟩=>[(41,some (.b 208 1 (wa.map dU) true))]) (fun⟨wa,k,ca⟩=>wa.length=(dg a).length+1/\bA wa/\k<=n+2/\ca<=1/\dv wa<4294967296^(i+n+3)/\dv wa+ca*4294967296^(i+k)=dv ws2+dv (vs.take k)*4294967296^i) (fun⟨wa,k,ca⟩=>n+2-k) ⟨ws2,0,0⟩ J ⟨hn2,ho2,bV _,bV _,hM2,by simp[dv]⟩ (fun _=>J) (fun⟨wa,k,ca⟩ hk=>?_)
     try dsimp only at hk⊢
     obtain⟨hal2,hao,hk2,hac,haM,ha⟩:=hk;refine br J J J (fun hc194=>?_) (fun hc194=>?_)
     .
      have hvk:=hvo.get k;have hag:=hao.get (i+k);obtain⟨t,ht⟩: ∃t,t=ca+(wa.getD (i+k) 0+vs.getD k 0):=⟨_,rfl⟩;have ham:=bP wa;refine lb _ J (fh) J<|lb (fu:=⟨5⟩) _ J (cO (k:=i+k)) J<|aj 209 (.d (.v (.int .u64 (t:Nat)))) J (by show FX.d (.v (.int _ _))= .d (.v (.int _ _));congr 3;omega)<|gx (fu:=⟨11⟩) J<|aj 215 (.d (dU (t%4294967296))) J (by show FX.d (.v (.int _ _))= .d (.v (.int _ _));congr 3)<|gx J<|sb (fu:=⟨5⟩) (hv:=by simp only[ak];exact(by decide)) _ ((wa.set (i+k) (t%4294967296)).map dU) J (cO (k:=i+k)) J (by(rw[show((i:Int)+k).toNat=i+k by omega,<-jA])<;>rfl) J<|aj 218 (.d (.v (.int .u64 (t/4294967296:Nat)))) J (by rw[pp])<|gx J<|at_ ⟨wa.set (i+k) (t%4294967296),k+1,t/4294967296⟩ (by dsimp only;exact⟨⟨by simpa using hal2,hao.set _ (dK _ (by decide)),by omega,by omega,Ec hao (dK _ (by decide)) haM,by rw[ht];exact Y0 (by omega) ha⟩,(by omega)⟩)
     .
      obtain rfl:k=n+2:=by omega
      rw[bM (by omega),<-hV] at ha;have hag:=hao.get (i+n+2);have ham:=bP wa;have hl4:=Yh (w6 wa (i+n+2) ((wa.getD (i+n+2) 0+ca)%4294967296) (by omega)) ha;rw[<-xd] at hl4;have hM4:=Ec (i:=i+n+2) (d:=(wa.getD (i+n+2) 0+ca)%4294967296) hao (dK _ (by decide)) haM;obtain⟨hR1,hR2⟩:=Yk hhi hl2 hl4 hM2 hM4 (by omega) (Nat.succ_pos _);refine lb (fu:=⟨2⟩) _ J (cO (k:=i+n+2)) J<|aj 227 (.d (dU ca)) J (by show FX.d (.v (.int _ _))= .d (.v (.int _ _));congr 3;omega)<|gx (fu:=⟨0⟩) J<|aw (((wa.getD (i+n+2) 0+ca)%4294967296:Nat):Int) J (by rw[tw];omega) J<|sb _ ((wa.set (i+n+2) ((wa.getD (i+n+2) 0+ca)%4294967296)).map dU) J (cO (k:=i+n+2)) J (by(rw[show((i:Int)+((n+2:Nat):Int)).toNat=i+n+2 by omega,<-jA])<;>rfl) J<|at_ ⟨wa.set (i+n+2) ((wa.getD (i+n+2) 0+ca)%4294967296),qs.set i g',i⟩ (by dsimp only;exact⟨⟨by simpa using hal2,hao.set _ (dK _ (by decide)),by simpa using hql,hqo.set _ (by omega),by omega,RI hq0,LD (by omega) hqi hinv hV hR1,by rw[<-hV];exact hR2⟩,(by omega)⟩)
 .
  refine qf 63 J<|qf 41 J ?_;obtain rfl:j=0:=by omega
  obtain⟨e1,e2⟩:=aAj hps hvv hV0' hvB hinv hlt;refine gx J<|cl J (ur (ds:=qs)) J<|kI (fu:=⟨0⟩) 0 (n+2) _ J J J J (r5 _) (by omega) (by simp;omega) J<|aj 234 (.d (dG (us.take (n+2)))) J (by first|rfl|(show FX.d (.sl _)=FX.d (.sl _);simp))<|gx J<|cl J (WC (ds:=us.take (n+2)) (huo.take _) (by simp;omega) hs32) J<|rz J (by show DV.tp [dG _,dN _]= .tp [dN _,dN _];rw[lz hqo e1,e2])
def DF{a b:Nat}[h:BN a i][k:BN b j](hb:0<b)(hi:i<=1000000000:=by decide)(hj:j<=1000000000:=by decide):PF GB prog 275 [dN a,dN b] (.tp [dN (a/b),dN (a%b),vB true]):=by
 have hla:=bP (dg a);have hba:=jg (a:=a) hi;have hlb:=bP (dg b);have hbb:=jg (a:=b) hj;have hb0:(dg b).length≠0:=fun e=>by have:=AM e;omega
 have hcn:=AW (a:=a) (b:=b);have hd0:=ef b 0;refine fn func275 J J ntmps275 J J (fun C=>?_);refine cl J (px) J<|cl (fu:=⟨10⟩) J (px) J<|aj 17 (.d (vI ((dg b).length:Nat))) J (by rw[hlb]<;>rfl)<|gx (fu:=⟨0⟩) J<|cg J (by show some (decide _)=some false;rw[decide_eq_false (by omega)]) J<|cl J (RS (a:=a) (b:=b) hi hj) J<|br (fu2:=⟨4⟩) J J J (fun hc19=>?_) (fun hc19=>?_)
 .
  refine cl J (RB (ds:=dg a) (gy _)) J<|rz J (by have hlt:=hcn.1 (by omega);rw[lM hlt,jW hlt,nk];rfl)
 .
  refine aj 28 (.d (vI ((dg b).length:Nat))) J (by rw[hlb]<;>rfl)<|gx J<|br J J J (fun hc26=>?_) (fun hc26=>?_)
  .
   have h1:(dg b).length=1:=by omega
   have e1:=wx h1;have hmd:=dK a (show 0<(dg b).getD 0 0 by omega);refine ix _ J (cO (k:=0) J (by omega)) J<|cl J (VD (a:=a) (d:=(dg b).getD 0 0) (by omega) (by omega) hi) J<|cl J (AP (a:=a%(dg b).getD 0 0) (by have:=dK a (show 0<(dg b).getD 0 0 by omega);omega)) J<|rz J (by rw[e1];rfl)
  .
   refine cl J (aHi (a:=a) (b:=b) (by omega) (by omega) hi hj) J<|rz J J
def R6{a:Nat}(h:(dg a).length<=2:=by omega):a<18446744073709551616:=by
 have h1:=sF a;have h2:(4294967296:Nat)^(dg a).length<=4294967296^2:=bL (by decide) h;omega
def KB{a b:Nat}[h:BN a i][k:BN b j](hi:i<=1000000000:=by decide)(hj:j<=1000000000:=by decide):PF GB prog 249 [dN a,dN b] (dN (Nat.gcd a b)):=by
 obtain⟨m,hm⟩: ∃m,m=max i j:=⟨_,rfl⟩;have e0: ∀k',k'<=m->(2:Nat)^k'<=2^m:=fun k' h=>bL (by decide) h;have ha9:a<2^m:=dJ h.h (e0 i (by omega));have hb9:b<2^m:=dJ k.h (e0 j (by omega));refine fn func249 J J ntmps249 J J (fun C=>?_);refine cl J (vA (a:=a) (i:=i) (by omega)) J<|cl J (vA (a:=b) (i:=j) (by omega)) J<|lp (fu:=⟨5⟩) (X:=Nat×Nat) (fun⟨A,B⟩=>[(0, .d (dN A)),(1, .d (dN B))]) (fun⟨A,B⟩=>[]) (fun⟨A,B⟩=>Nat.gcd A B=Nat.gcd a b/\A<2^m/\B<2^m) (fun⟨A,B⟩=>B) ⟨a,b⟩ J ⟨J,ha9,hb9⟩ (fun _=>J) (fun⟨A,B⟩ hk=>?_)
 try dsimp only at hk⊢
 obtain⟨hg,hA,hB⟩:=hk;haveI:BN A m:=⟨hA⟩;haveI:BN B m:=⟨hB⟩;have hlA:=bP (dg A);have hlB:=bP (dg B);have hbA:=jg (a:=A) (i:=m);have hbB:=jg (a:=B) (i:=m);refine aj 17 (.d (vI ((dg A).length:Nat))) J (by rw[hlA]<;>rfl)<|gx J<|cs (fu1:=⟨15⟩) (fu2:=⟨2⟩) 19 J J J (fun hg19=>?_) (fun hg19=>?_)
 .
  refine aj 25 (.d (vI ((dg B).length:Nat))) J (by rw[hlB]<;>rfl)<|gx J<|br J J J (fun hc26=>?_) (fun hc26=>?_)
  .
   exact rz J (by have hB0:B=0:=AM;rw[hB0,nL] at hg;rw[<-hg];rfl)
  .
   have hBp:0<B:=iS fun e=>hc26 (by rw[e,uM];rfl);refine cl J (DF (a:=A) (b:=B) (i:=m) (j:=m) hBp (by omega) (by omega)) J<|at_ ⟨B,A%B⟩ (by dsimp only;exact⟨⟨by rw[<-hg,jN B,<-tM,jN],hB,tW (dK _ hBp) hB⟩,(dK _ hBp)⟩)
 .
  refine aj 21 (.d (vI ((dg B).length:Nat))) J (by rw[hlB]<;>rfl)<|gx J<|br (fu1:=⟨8⟩) J J J (fun hc23=>?_) (fun hc23=>?_)
  .
   refine aj 25 (.d (vI ((dg B).length:Nat))) J (by rw[hlB]<;>rfl)<|gx J<|br J J J (fun hc26=>?_) (fun hc26=>?_)
   .
    exact rz J (by have hB0:B=0:=AM;rw[hB0,nL] at hg;rw[<-hg];rfl)
   .
    have hBp:0<B:=iS fun e=>hc26 (by rw[e,uM];rfl);refine cl J (DF (a:=A) (b:=B) (i:=m) (j:=m) hBp (by omega) (by omega)) J<|at_ ⟨B,A%B⟩ (by dsimp only;exact⟨⟨by rw[<-hg,jN B,<-tM,jN],hB,tW (dK _ hBp) hB⟩,(dK _ hBp)⟩)
  .
   have hA2:=R6 (a:=A);have hB2:=R6 (a:=B);refine cl J (BE (a:=A) hA2) J<|cl J (BE (a:=B) hB2) J<|lp (X:=Nat×Nat) (fun⟨u,v⟩=>[(8, .d (.v (.int .u64 (u:Nat)))),(10, .d (.v (.int .u64 (v:Nat))))]) (fun⟨u,v⟩=>[]) (fun⟨u,v⟩=>Nat.gcd u v=Nat.gcd a b/\u<18446744073709551616/\v<18446744073709551616) (fun⟨u,v⟩=>v) ⟨A,B⟩ J ⟨hg,hA2,hB2⟩ (fun _=>J) (fun⟨u,v⟩ hk=>?_)
   try dsimp only at hk⊢
   obtain⟨hg2,hu,hv⟩:=hk;refine br (fu1:=⟨8⟩) J J J (fun hc48=>?_) (fun hc48=>?_)
   .
    refine aj 52 (.d (.v (.int .u64 (u%v:Nat)))) J (by show FX.d (.v (.int _ _))= .d (.v (.int _ _));first|rfl|congr 3)<|gx J<|at_ ⟨v,u%v⟩ (by dsimp only;exact⟨⟨by rw[<-hg2,jN v,<-tM,jN],hv,tW (dK _ (by omega)) hv⟩,(dK _ (by omega))⟩)
   .
    obtain rfl:v=0:=by omega
    rw[nL] at hg2;refine cl J (AP (a:=u) hu) J<|rz J (by rw[hg2];rfl)

def IN{x:Nat}:bl x=0↔x=0:=by
 have:= @ol x 0;simp at this;omega
def wc{a:Nat}:0<(dg a).length↔0<a:=by
 have:= @vQ a;omega
def eS(neg:Bool)(a:Nat):DV:= .ag [.v (.bool neg),dN a]
def EQ(neg:Bool)(a:Nat):eI (zv neg a)= .ag [.v (.bool (neg&&decide (0<a))),dN a]:=by unfold eI;rw[sh,T5]
def aEN{b:Int}(h:n≠decide (b<0))(hle:b.natAbs<=u):zv n (u-b.natAbs)=zv n u+b:=by cases n<;>simp[zv] at* <;>omega
def U3{b:Int}(h:n≠decide (b<0))(hle:u<=b.natAbs):zv (decide (b<0)) (b.natAbs-u)=zv n u+b:=by cases n<;>simp[zv] at* <;>(try rw[if_pos h])<;>(try rw[if_neg (by omega)])<;>omega
def awe(hd:bA ds)(hl:ds.length<=1125899906842624):PF GB prog 180 [.ag [.v (.bool neg),dG ds]] (vB (decide (fj ds/\(neg=true->0<ds.length)))):=by
 refine fn func180 J J ntmps180 J J (fun C=>?_);refine cl J (Rf hd hl) J<|csd 6 J J J (fun hg6=>?_) (fun hg6=>?_)
 .
  refine iC 10 J J J (fun hg10=>?_) (fun hg10=>?_)
  .
   exact rz J (by unfold vB;congr 2;simp_all [fq])
  .
   exact rz J (by unfold vB;congr 2;simp_all [fq])
 .
  exact rz J (by unfold vB;congr 2;simp_all [fq])
def Le{a:Nat}[h:BN a i](hi:i<=1000000000:=by decide):PF GB prog 263 [eS n a] (vI (zv n a).sign):=by
 refine fn func263 J J ntmps263 J J (fun C=>?_);refine cl J (vn (a:=a) hi) J<|br J J J (fun hc3=>?_) (fun hc3=>?_)
 .
  exact rz J (by have:=IN.1 (Int.ofNat.inj hc3);subst this;cases n<;>rfl)
 .
  refine bb J J J (fun hc8=>?_) (fun hc8=>?_)
  .
   exact rz J (by subst hc8;rw[dY (by have:a≠0:=(fun e=>hc3 (by rw[e];rfl));simp[zv];omega)];rfl)
  .
   exact rz J (by subst hc8;rw[eK (by have:a≠0:=(fun e=>hc3 (by rw[e];rfl));simp[zv];omega)];rfl)
def KU(h0: -9223372036854775808<=m:=by omega)(h1:m<=9223372036854775807:=by omega):PF GB prog 251 [vI m] (eI m):=by
 refine fn (fu:=⟨8⟩) func251 J J ntmps251 J J (fun C=>?_);refine cu ((m%18446744073709551616:Int)) J (s5 _) J<|br (fu1:=⟨2⟩) (fu2:=⟨0⟩) J J J (fun hc7=>?_) (fun hc7=>?_)
 .
  refine nu ((m.natAbs:Nat)) J (by rw[s5];omega) J<|cl J (AP (a:=m.natAbs)) J<|rz J J
 .
  refine aj 3 (.d (.v (.int .u64 (m.natAbs:Nat)))) J (by congr 3;omega)<|gx J<|cl J (AP (a:=m.natAbs)) J<|rz J J
def MW{a:Nat}(h:a<4611686018427387904):PF GB prog 276 [eS n a] (.tp [vI (zv n a),vB true]):=by
 refine fn func276 J J ntmps276 J J (fun C=>?_);refine cl (fu:=⟨2⟩) J (BE (a:=a) (by omega)) J<|dP J J J<|iC 18 J J J (fun hg18=>?_) (fun hg18=>?_)
 .
  refine br (fu1:=⟨3⟩) J J J (fun hc12=>?_) (fun hc12=>?_)
  .
   refine nu (fu:=⟨0⟩) (((18446744073709551616-a)%18446744073709551616:Int)) J (by rw[s5];omega) J<|cu (zv n a) J (by subst hg18;rw[Hv];simp only[zv,if_true];omega) J<|rz J J
  .
   exact absurd (by omega) hc12
 .
  refine iC 32 J J J (fun hg32=>?_) (fun hg32=>?_)
  .
   refine br J J J (fun hc25=>?_) (fun hc25=>?_)
   .
    exact rz J (by subst hg18;rfl)
   .
    exact absurd (by omega) hc25
  .
   subst hg18;cases hg32
def ye{a:Nat}[h:BN a i](hi:i<=1000000000:=by decide):PF GB prog 271 [eS neg a] (eI (zv neg a)):=by
 refine fn func271 J J ntmps271 J J (fun C=>?_);refine cl J (vA hi) J<|iC 9 J J J (fun hg9=>?_) (fun hg9=>?_)
 .
  exact rz J (by rw[EQ];simp[hg9,wc,fq])
 .
  exact rz J (by rw[EQ];simp[hg9,wc,fq])
def EH{a:Nat}:PF GB prog 268 [.v (.bool neg),dN a] (eI (zv neg a)):=by
 refine fn func268 J J ntmps268 J J (fun C=>?_);refine iC 6 J J J (fun hg6=>?_) (fun hg6=>?_)
 .
  exact rz J (by rw[EQ];simp[hg6,wc,fq])
 .
  exact rz J (by rw[EQ];simp[hg6,wc,fq])
def aFX[h:BI m i](hi:i<=1000000000:=by decide):PF GB prog 216 [eI m] (eI (-m)):=by
 refine fn func216 J J ntmps216 J J (fun C=>?_);refine cl J (ye (neg:=!decide (m<0)) (a:=m.natAbs) hi) J<|rz J (by rw[aIv,mf];rfl)
def K6{a b:Int}[h:BI a i][k:BI b j](hi:i<=1000000000:=by decide)(hj:j<=1000000000:=by decide):PF GB prog 210 [eI a,eI b] (eI (a*b)):=by
 refine fn func210 J J ntmps210 J J (fun C=>?_);refine cl J (z' (a:=a.natAbs) (b:=b.natAbs) hi hj) J<|cl J EH J<|rz J (by rw[show(!(decide (a<0)==decide (b<0)))=(decide (a<0) !=decide (b<0)) from J,S4,mf,mf];rfl)
def aCN{b:Int}[h:BN u i][k:BI b j](hi:i<=1000000000:=by decide)(hj:j<=1000000000:=by decide):PF GB prog 209 [eS n1 u,eI b] (eI (zv n1 u+b)):=by
 refine fn func209 J J ntmps209 J J (fun C=>?_);refine bb J J J (fun hc13=>?_) (fun hc13=>?_)
 .
  refine cl J (Zm (b:=b.natAbs) hi hj) J<|cl J EH J<|rz J (by rw[XW,show n1=decide (b<0) from by simpa using hc13,mf];rfl)
 .
  refine cl J (Rg (b:=b.natAbs) hi hj) J<|bd J J J (fun hc30=>?_) (fun hc30=>?_)
  .
   refine cl J EH J<|rz J (by rw[aEN (by simpa using hc13) hc30];rfl)
  .
   refine cl J (Rg (a:=b.natAbs) hj hi) J<|cl J EH J<|rz J (by rw[U3 (by simpa using hc13) (by omega)];rfl)
def aGo{a b:Int}[h:BI a i][k:BI b j](hi:i<=1000000000:=by decide)(hj:j<=1000000000:=by decide):PF GB prog 209 [eI a,eI b] (eI (a+b)):=(aCN (n1:=decide (a<0)) (u:=a.natAbs) hi hj).to (by rw[mf])
def gz(q:Rat):Prop:= ¬(q.num.natAbs<4611686018427387904/\q.den<4611686018427387904)
instance (q:Rat):Decidable (gz q):=inferInstanceAs (Decidable (¬_))
def dC(q:Rat):Int:=if gz q then 0 else q.num
def dx(q:Rat):Int:=if gz q then 0 else(q.den:Int)-1
def di(q:Rat):DV:= .op (decide (gz q)) [.v (.bool (decide (q.num<0))),dN q.num.natAbs,dN q.den]
def eF(q:Rat):DV:= .ag [vI (dC q),vI (dx q),di q]
abbrev WQ {q:Rat} (h:decide (gz q)=true):gz q:=of_decide_eq_true h
abbrev te {q:Rat} (h:decide (gz q)=false): ¬gz q:=of_decide_eq_false h
abbrev WS {q:Rat} (h: ¬decide (gz q)=false):gz q:=by simpa using h
abbrev oI {q:Rat} (h: ¬decide (gz q)=true): ¬gz q:=by simpa using h
def nF(h: ¬gz q):dC q=q.num:=if_neg h
def qc(h: ¬gz q):dx q=(q.den:Int)-1:=if_neg h
def qD(h: ¬gz q):q.num.natAbs<4611686018427387904:=(Decidable.not_not.1 h).1
def q7(h: ¬gz q):q.den<4611686018427387904:=(Decidable.not_not.1 h).2
def I7(h:gz q):q≠0:=fun e=>by subst e;exact h ⟨by decide,by decide⟩
def tk{d:Int}{r:DV}(h: ¬gz q)(h1:q.num=m)(h2:(q.den:Int)-1=d)(e:r= .ag [vI m,vI d, .v (.pointer none)])(G:Gh)(y:Value)(k:Is G r y):Is G (eF q) y:=by
 subst e h1 h2;obtain⟨l,rfl,g⟩:=dO.1 k;obtain⟨y1,l1,rfl,k1,g1⟩:=bj.1 g;obtain⟨y2,l2,rfl,k2,g2⟩:=bj.1 g1;obtain⟨y3,l3,rfl,k3,g3⟩:=bj.1 g2;exact dO.2 ⟨_,J, .cons (by rw[nF h];exact k1) (.cons (by rw[qc h];exact k2) (.cons (td.2 (.inl ⟨decide_eq_false h,aI.1 k3⟩)) g3))⟩
def Ln{a:Nat}{r:DV}(h:gz q)(h1:decide (q.num<0)=n)(h2:q.num.natAbs=a)(h3:q.den=d)(e:r= .ag [vI 0,vI 0, .pt [.v (.bool n),dN a,dN d]])(G:Gh)(y:Value)(k:Is G r y):Is G (eF q) y:=by
 subst e h1 h2 h3;obtain⟨l,rfl,g⟩:=dO.1 k;obtain⟨y1,l1,rfl,k1,g1⟩:=bj.1 g;obtain⟨y2,l2,rfl,k2,g2⟩:=bj.1 g1;obtain⟨y3,l3,rfl,k3,g3⟩:=bj.1 g2;exact dO.2 ⟨_,J, .cons (by unfold dC;rw[if_pos h];exact k1) (.cons (by unfold dx;rw[if_pos h];exact k2) (.cons (td.2 (.inr ⟨decide_eq_true h,k3⟩)) g3))⟩
def AN(G:Gh)(y:Value)(k:Is G (.ag [vI 0,vI 0, .v (.pointer none)]) y):Is G (eF 0) y:=tk (fun h=>I7 h J) J J J G y k
def Rx(h:m.natAbs<4611686018427387904)(G:Gh)(y:Value)(k:Is G (.ag [vI m,vI 0, .v (.pointer none)]) y):Is G (eF (m:Rat)) y:=
 tk (fun k=>k ⟨by simpa using h,by rw[oV];decide⟩) (oK m) (by rw[oV];rfl) J G y k
def RD{a:Nat}(hd:0<d):(mkRat (zv n a) d).num=zv n (a/Nat.gcd a d)/\(mkRat (zv n a) d).den=d/Nat.gcd a d:=by
 obtain⟨h1,h2⟩:=Ps (m:=zv n a) hd;rw[sh] at h1 h2;exact⟨by rw[h1,aHY (lJ _ _)],h2⟩
def Pp{a:Nat}(hd:0<d)(ha:a'=a/Nat.gcd a d)(hd':d'=d/Nat.gcd a d)(h1:a'<4611686018427387904)(h2:d'<4611686018427387904)(G:Gh)(y:Value)(k:Is G (.ag [vI (zv n a'),vI ((d':Int)-1), .v (.pointer none)]) y):Is G (eF (mkRat (zv n a) d)) y:=by
 obtain⟨e1,e2⟩:=RD (n:=n) (a:=a) hd;rw[<-ha] at e1;rw[<-hd'] at e2;exact tk (fun k=>k ⟨by rw[e1,sh];exact h1,by rw[e2];exact h2⟩) e1 (by rw[e2]) J G y k
def E4{a:Nat}(hd:0<d)(ha:a'=a/Nat.gcd a d)(hd':d'=d/Nat.gcd a d)(h: ¬(a'<4611686018427387904/\d'<4611686018427387904))(G:Gh)(y:Value)(k:Is G (.ag [vI 0,vI 0, .pt [.v (.bool (decide (zv n a'<0))),dN (zv n a').natAbs,dN d']]) y):Is G (eF (mkRat (zv n a) d)) y:=by
 obtain⟨e1,e2⟩:=RD (n:=n) (a:=a) hd;rw[<-ha] at e1;rw[<-hd'] at e2;exact Ln (fun k=>h ⟨by rw[e1,sh] at k;exact k.1,by rw[e2] at k;exact k.2⟩) (by rw[e1]) (by rw[e1]) e2 J G y k
def aLp{a:Nat}(hd:0<d)(h: ¬(1:Int)<(bl (Nat.gcd a d):Nat)):Nat.gcd a d=1:=by
 have h1:Nat.gcd a d≠0:=fun e=>by rw[Nat.gcd_eq_zero_iff] at e;omega
 have h2:Nat.gcd a d<2^1:=ol.1 (by omega);omega
def oc{x:Nat}:(((bl x:Nat):Int)<=62)↔x<4611686018427387904:=aEu
def PF.ofI{f:FuncId}{ds ds':List DV}{r:DV}(h:PF GB P f ds r)(k: ∀G vs,IsLs G ds' vs->IsLs G ds vs):PF GB P f ds' r:=fun G vs hg hv=>h G vs hg (k G vs hv)
def uT{a:Nat}[h:BN a i][k:BN d j](hi:i<=450000000:=by decide)(hj:j<=450000000:=by decide):PF GB prog 213 [eS n a,dN d] (eF (mkRat (zv n a) d)):=by
 refine fn func213 J J ntmps213 J J (fun C=>?_);refine cl J (vn (a:=d) (by omega)) J<|cs 13 J J J (fun hg13=>?_) (fun hg13=>?_)
 .
  exact jq rfl (by obtain rfl:=IN.1 (Int.ofNat.inj hg13);rw[Rat.mkRat_zero];exact AN)
 .
  have hd0:0<d:=by have:= @IN d;omega
  have hg0:0<Nat.gcd a d:=oM _ hd0;refine cl J (Le (n:=n) (a:=a) (by omega)) J<|br J J J (fun hc17=>?_) (fun hc17=>?_)
  .
   exact jq J (by rw[iZ.1 hc17,Rat.zero_mkRat];exact AN)
  .
   refine cl J (KB (a:=a) (b:=d) (by omega) (by omega)) J<|cl J (vn (a:=Nat.gcd a d) (i:=i+j) (by omega)) J<|br J J J (fun hc25=>?_) (fun hc25=>?_)
   .
    obtain⟨a',ea⟩: ∃a',a'=a/Nat.gcd a d:=⟨_,rfl⟩;obtain⟨d',ed⟩: ∃d',d'=d/Nat.gcd a d:=⟨_,rfl⟩;have hba:BN a' i:=ea▸inferInstance;have hbd:BN d' j:=ed▸inferInstance;refine cl (fu:=⟨2⟩) J (DF (a:=a) (b:=Nat.gcd a d) (j:=i+j) hg0 (by omega) (by omega)) J<|aj 31 (.d (dN a')) J (by rw[ea])<|gx J<|cl (fu:=⟨2⟩) J (DF (a:=d) (b:=Nat.gcd a d) (j:=i+j) hg0 (by omega) (by omega)) J<|aj 39 (.d (dN d')) J (by rw[ed])<|gx J<|cl J (vn (h:=hba) (by omega)) J<|cs 46 J J J (fun hg46=>?_) (fun hg46=>?_)
    .
     refine cl J (vn (h:=hbd) (by omega)) J<|br J J J (fun hc50=>?_) (fun hc50=>?_)
     .
      have hs2:=oc.1 hc50;refine cl J (MW (oc.1 hg46)) J<|cl J (BE (by have:=oc.1 hc50;omega)) J<|jq J (Pp hd0 ea ed (oc.1 hg46) (oc.1 hc50))
     .
      refine cl J (ye (neg:=n) (h:=hba) (by omega)) J<|cl J (vA (h:=hbd) (by omega)) J<|fz 71 J J<|jq J (E4 hd0 ea ed (fun e=>hc50 (oc.2 e.2)))
    .
     refine cl J (ye (neg:=n) (h:=hba) (by omega)) J<|cl J (vA (h:=hbd) (by omega)) J<|fz 71 J J<|jq J (E4 hd0 ea ed (fun e=>hg46 (oc.2 e.1)))
   .
    have hg1:=aLp hd0 hc25;have ea:a=a/Nat.gcd a d:=by rw[hg1,tN]
    have ed:d=d/Nat.gcd a d:=by rw[hg1,tN]
    have hba:=h;have hbd:=k;refine cl J (vn (h:=hba) (by omega)) J<|cs 46 J J J (fun hg46=>?_) (fun hg46=>?_)
    .
     refine cl J (vn (h:=hbd) (by omega)) J<|br J J J (fun hc50=>?_) (fun hc50=>?_)
     .
      have hs2:=oc.1 hc50;refine cl J (MW (oc.1 hg46)) J<|cl J (BE (by have:=oc.1 hc50;omega)) J<|jq J (Pp hd0 ea ed (oc.1 hg46) (oc.1 hc50))
     .
      refine cl J (ye (neg:=n) (h:=hba) (by omega)) J<|cl J (vA (h:=hbd) (by omega)) J<|fz 71 J J<|jq J (E4 hd0 ea ed (fun e=>hc50 (oc.2 e.2)))
    .
     refine cl J (ye (neg:=n) (h:=hba) (by omega)) J<|cl J (vA (h:=hbd) (by omega)) J<|fz 71 J J<|jq J (E4 hd0 ea ed (fun e=>hg46 (oc.2 e.1)))
def Hn[h:BI m i](hi:i<=400000000:=by decide):PF GB prog 181 [eI m] (eF (m:Rat)):=by
 refine fn func181 J J ntmps181 J J (fun C=>?_);refine rf (fu:=⟨0⟩) J J<|aj 4 (.d (dN 1)) J (by unfold dN;rw[Bt];rfl)<|gx J<|cl J (uT (n:=decide (m<0)) (a:=m.natAbs) (d:=1) (by omega)) J<|rz J (by rw[mf,show mkRat m 1=(m:Rat) from sM ..];rfl)
def A5:PF GB prog 182 [eF q] (vB (decide (q=0))):=by
 refine fn func182 J J ntmps182 J J (fun C=>?_);refine cs 6 J J J (fun hg6=>?_) (fun hg6=>?_)
 .
  exact rz J (by rw[nF (te hg6)];show DV.v (.bool (decide _))= .v (.bool _);congr 2;exact decide_eq_decide.2 ⟨fun e=>lQ.1 e,fun e=>by rw[e];rfl⟩)
 .
  exact rz J (by rw[decide_eq_false (I7 (WS hg6))];rfl)
def BD(h:m.natAbs<9223372036854775808:=by omega):PF GB prog 248 [vI m] (.v (.int .u64 (m.natAbs:Nat))):=by
 refine fn func248 J J ntmps248 J J (fun C=>?_);refine br J J J (fun hc4=>?_) (fun hc4=>?_)
 .
  exact rz J (by show DV.v (.int _ _)=_;congr 2;omega)
 .
  exact rz J (by show DV.v (.int _ _)=_;congr 2;omega)
def sC[h:BQ q i](hi:i<=900000000:=by decide):PF GB prog 212 [eF q] (dN q.den):=by
 refine fn func212 J J ntmps212 J J (fun C=>?_);refine br (v1:=fun hc5=>by simp only[ak];exact hc5) (fu2:=⟨6⟩) J J J (fun hc5=>?_) (fun hc5=>?_)
 .
  refine cl J (vA (a:=q.den) (by omega)) J<|rz J J
 .
  have hd:=q.den_nz;have hs:=q7 (oI hc5);refine aj 13 (.d (vI ((q.den:Int)-1))) J (by rw[qc (oI hc5)])<|gx (fu:=⟨2⟩) J<|aj 15 (.d (.v (.int .u64 (q.den:Nat)))) J (by congr 3;omega)<|gx J<|cl J (AP (a:=q.den)) J<|rz J J
def tu[h:BQ q i](hi:i<=900000000:=by decide):PF GB prog 211 [eF q] (eI q.num):=by
 refine fn func211 J J ntmps211 J J (fun C=>?_);refine br (v1:=fun hc5=>by simp only[ak];exact hc5) (fu2:=⟨6⟩) J J J (fun hc5=>?_) (fun hc5=>?_)
 .
  refine cl J (ye (neg:=decide (q.num<0)) (a:=q.num.natAbs) (by omega)) J<|rz J (by rw[mf];rfl)
 .
  have hs:=qD (oI hc5);refine aj 13 (.d (vI q.num)) J (by rw[nF (oI hc5)])<|gx J<|cl J (KU) J<|rz J J
def pA[h:BQ q i](hi:i<=900000000:=by decide):PF GB prog 133 [eF q] (eF (-q)):=by
 refine fn func133 J J ntmps133 J J (fun C=>?_);refine br (v1:=fun hc5=>by simp only[ak];exact hc5) (fu2:=⟨6⟩) J J J (fun hc5=>?_) (fun hc5=>?_)
 .
  refine cl (fu:=⟨6⟩) (hv:=by simp only[ak];exact hc5) J (aFX (m:=q.num) (by omega)) J<|FH J J<|jq J (Ln (q:= -q) (fun k=>WQ hc5 (by rw[mS,jX,qK] at k;exact k)) (by rw[mS]) (by rw[mS]) (qK q) J)
 .
  have hs:=qD (oI hc5);refine aj 21 (.d (vI q.num)) J (by rw[nF (oI hc5)])<|gx J<|jq J (tk (q:= -q) (fun k=>k (by rw[mS,jX,qK];exact⟨hs,q7 (oI hc5)⟩)) (by rw[mS]) (by rw[qK,qc (oI hc5)]) J)
def lu[h:BQ q i](hi:i<=900000000:=by decide):PF GB prog 203 [eF q] (vI q.num.sign):=by
 refine fn func203 J J ntmps203 J J (fun C=>?_);refine br (v1:=fun hc3=>by simp only[ak];exact hc3) J J J (fun hc3=>?_) (fun hc3=>?_)
 .
  refine cl J (Le (n:=decide (q.num<0)) (a:=q.num.natAbs) (by omega)) J<|rz J (by rw[mf];rfl)
 .
  have hs:=nF (oI hc3);refine br J J J (fun hc13=>?_) (fun hc13=>?_)
  .
   exact rz J (by rw[dY (by omega)];rfl)
  .
   refine br J J J (fun hc17=>?_) (fun hc17=>?_)
   .
    exact rz J (by rw[eK (by omega)];rfl)
   .
    exact rz J (by rw[show q.num=0 by omega];rfl)
def Zb{a b:Nat}(h:b<=a):(dg b).length<=(dg a).length:=BY (fU h (sF a))
def x7{a b:Nat}[ha:BN a ia][hb:BN b ib](hb0:0<b)(hi:ia<=500000000:=by decide)(hj:ib<=500000000:=by decide):PF GB prog 114 [dN a,dN b] (.tp [dN (a/b),dN (a%b)]):=by
 have hla:=bP (dg a);have hlb:=bP (dg b);have hba:=k9 ha.h;have hbb:=k9 hb.h;have hba':(dg a).length<=20000000:=by omega
 have hbb':(dg b).length<=20000000:=by omega
 have hlb1:1<=(dg b).length:=Lk (k:=0) (by rw[tY];exact hb0);refine fn (fu:=⟨7⟩) func114 J J ntmps114 J J (fun C=>?_);refine mg (X:=Unit) (fun _=>[(0, .d (dN a)),(1, .d (dN b))]) (fun _=>[]) (fun _=>True) [0,1] [] rfl ?_ (fun _=>J) (fun _ hm=>?_)
 .
  refine gx J<|cl J (Fj (a:=a) (ia:=ia) (by omega)) J<|bd (fu1:=⟨0⟩) J J J (fun hc18=>?_) (fun hc18=>?_)
  .
   refine aj 6 (.d (.v (.int .u64 (a:Nat)))) J (by rw[if_pos hc18])<|gx J<|cl J (Fj (a:=b) (ia:=ib) (by omega)) J<|bd (fu1:=⟨0⟩) J J J (fun hc24=>?_) (fun hc24=>?_)
   .
    refine aj 8 (.d (.v (.int .u64 (b:Nat)))) J (by rw[if_pos hc24]) ?_;have hdl:=nZ a b;have hml:=Nat.mod_le a b;refine gx (hv:=by simp only[ak];exact⟨(by omega),(by omega),(by omega)⟩) J<|cl (hv:=by simp only[ak];exact⟨(by omega),(by omega)⟩) J (uc (u:=a/b)) J<|cl J (uc (u:=a%b)) J<|rz J J
   .
    exact at_ () trivial
  .
   exact at_ () trivial
 .
  refine cl J (Aw) J<|br J J J (fun hc36=>?_) (fun hc36=>?_)
  .
   have hab:=zr.1 hc36;refine sA J J<|ap _ J J (r5 _) J<|iu 39 J<|rz J (by show DV.tp [_, .sl ([]++_)]= .tp [_,_];rw[lM hab,jW hab,nk];rfl)
  .
   have hab:b<=a:=sS fun q=>hc36 (zr.2 q);have hlab:(dg b).length<=(dg a).length:=Zb hab;refine br (fu1:=⟨4⟩) J J J (fun hc42=>?_) (fun hc42=>?_)
   .
    have hb1:b<4294967296:=by have:=sF b;rw[show(dg b).length=1 by omega] at this;omega
    have hbd:(dg b).getD 0 0=b:=wx;refine aj 44 (.d (vI ((dg a).length:Nat))) J (by rw[hla];rfl)<|gx J<|mk (fu:=⟨13⟩) ((List.replicate (dg a).length 0).map dU) J J (by rw[<-nC];rfl) J<|aj 47 (.d (vI ((dg a).length:Nat))) J (by rw[hla];rfl)<|gx J<|lp (X:=List Nat×Nat) (fun⟨W,k⟩=>[(0, .d (dN a)),(1, .d (dN b)),(10, .rw 45),(11, .d (dU (dv ((dg a).drop k)%b))),(12, .d (vI ((k:Nat)-1)))]) (fun⟨W,k⟩=>[(45,some (.b 208 1 (W.map dU) true))]) (fun⟨W,k⟩=>W.length=(dg a).length/\bA W/\k<=(dg a).length/\dv (W.drop k)=dv ((dg a).drop k)/b) (fun⟨W,k⟩=>k) ⟨List.replicate (dg a).length 0,(dg a).length⟩ J ⟨by simp, .replicate _,bW _,by simp[dv]⟩ (fun _=>J) (fun⟨W,k⟩ hk=>?_) (hF:=(by refine⟨J,J,J,pz J (by simp[dv,dU]),pz J (by simp[vI]),?_⟩;repeat (first|exact trivial|refine And.intro J ?_)))
    try dsimp only at hk⊢
    obtain⟨h1,h2,h3,h4⟩:=hk;have hlw:=bP W;refine br (fu1:=⟨0⟩) J J J (fun hc50=>?_) (fun hc50=>?_)
    .
     obtain⟨k,rfl⟩: ∃j,k=j+1:=⟨k-1,by omega⟩;have hsi:=Zq hb0 (by omega) h1 h4;have hrm:=dK (dv ((dg a).drop (k+1))) hb0;have hdk:=ef a k;have hqd:(dv ((dg a).drop (k+1))%b*4294967296+(dg a).getD k 0)/b<4294967296:=by rw[kW hb0];have:=fM 4294967296 (show dv ((dg a).drop (k+1))%b+1<=b from hrm);omega
     refine aj 12 (.d (vI (k:Nat))) J (by show FX.d (.v (.int _ _))= .d (.v (.int _ _));congr 3;omega)<|gx J<|ix _ J (cO (k:=k)) J<|ix _ J (cO (k:=0) J (by omega)) J<|cl J (X7 (h:=dv ((dg a).drop (k+1))%b) (l:=(dg a).getD k 0) (y:=(dg b).getD 0 0) (by omega) hdk (by omega)) J<|sb (hv:=by simp only[ak];exact⟨by kernel_rfl,by omega⟩) _ ((W.set k ((dv ((dg a).drop (k+1))%b*4294967296+(dg a).getD k 0)/b)).map dU) J (cO (k:=k)) J (by(rw[hbd,cZ,<-jA])<;>rfl) J<|at_ ⟨W.set k ((dv ((dg a).drop (k+1))%b*4294967296+(dg a).getD k 0)/b),k⟩ (by dsimp only;exact⟨⟨by simpa using h1,h2.set _ hqd,by omega,hsi.1⟩,(by omega)⟩) (by refine⟨J,J,J,pz J (by rw[hsi.2,hbd]),pz J (by first|(simp[vI];done)|(simp[vI];omega)),?_⟩;repeat (first|exact trivial|refine And.intro J ?_))
    .
     refine fz 45 J J<|cl rfl (r7 (ds:=W)) rfl<|rf J J<|cl rfl (r7 (ds:=[dv ((dg a).drop k)%b]) (by simp)) rfl<|rz rfl (by show DV.tp [dG _,dG _]= .tp [_,_];obtain rfl:k=0:=(by omega);rw[iV,iV,dl] at h4;rw[iV,dl];rw[lz h2 h4,lz (.cons (by have:=dK a hb0;omega) .nil) (n:=a%b) (by simp[dv])])
   .
    refine cl J (Wx (by omega) (by omega) hlb1 hlab) J<|rz J J
def MA(x y:Nat):Nat.gcd y (x%y)=Nat.gcd x y:=by rw[jN x y,tM y x,jN]
def AZ{a b:Nat}[ha:BN a ia][hb:BN b ib](hi:ia<=240000000:=by decide)(hj:ib<=240000000:=by decide):PF GB prog 111 [dN a,dN b] (dN (Nat.gcd a b)):=by
 refine fn (fu:=⟨6⟩) func111 J J ntmps111 J J (fun C=>?_);refine mg (X:=Unit) (fun _=>[(0, .d (dN a)),(1, .d (dN b))]) (fun _=>[]) (fun _=>True) [0,1] [] rfl ?_ (fun _=>J) (fun _ hm=>?_)
 .
  refine gx J<|cl J (Fj (a:=a) (ia:=ia) (by omega)) J<|bd (fu1:=⟨0⟩) J J J (fun hc16=>?_) (fun hc16=>?_)
  .
   refine aj 5 (.d (.v (.int .u64 (a:Nat)))) J (by rw[if_pos hc16])<|gx J<|cl J (Fj (a:=b) (ia:=ib) (by omega)) J<|bd (fu1:=⟨0⟩) J J J (fun hc22=>?_) (fun hc22=>?_)
   .
    refine aj 7 (.d (.v (.int .u64 (b:Nat)))) J (by rw[if_pos hc22])<|gx J<|lp (X:=Nat×Nat) (fun⟨x,y⟩=>[(5, .d (.v (.int .u64 (x:Nat)))),(7, .d (.v (.int .u64 (y:Nat))))]) (fun⟨x,y⟩=>[]) (fun⟨x,y⟩=>x<18446744073709551616/\y<18446744073709551616/\Nat.gcd x y=Nat.gcd a b) (fun⟨x,y⟩=>y) ⟨a,b⟩ J ⟨hc16,hc22,J⟩ (fun _=>J) (fun⟨x,y⟩ hk=>?_)
    try dsimp only at hk⊢
    obtain⟨h1,h2,h3⟩:=hk;refine br (v1:=fun hc24=>by simp only[ak];exact⟨⟨(by omega),(by omega)⟩,by kernel_rfl⟩) J J J (fun hc24=>?_) (fun hc24=>?_)
    .
     exact at_ ⟨y,x%y⟩ (by dsimp only;exact⟨⟨h2,by have:=dK x (show 0<y by omega);omega,by rw[MA,h3]⟩,(by exact dK _ (by omega))⟩)
    .
     refine cl J (uc (u:=x) h1) J<|rz J (by show dN x=_;rw[<-h3,show y=0 by omega,nL])
   .
    exact at_ () trivial
  .
   exact at_ () trivial
 .
  refine lp (fu:=⟨5⟩) (X:=Nat×Nat) (fun⟨x,y⟩=>[(0, .d (dN x)),(1, .d (dN y))]) (fun⟨x,y⟩=>[]) (fun⟨x,y⟩=>x<2^(ia+ib)/\y<2^(ia+ib)/\Nat.gcd x y=Nat.gcd a b) (fun⟨x,y⟩=>y) ⟨a,b⟩ J ⟨(ha.mono (by omega)).h,(hb.mono (by omega)).h,J⟩ (fun _=>J) (fun⟨x,y⟩ hk=>?_)
  try dsimp only at hk⊢
  obtain⟨h1,h2,h3⟩:=hk;have hly:=bP (dg y);haveI hx':BN x (ia+ib):=⟨h1⟩;haveI hy':BN y (ia+ib):=⟨h2⟩;refine aj 32 (.d (vI ((dg y).length:Nat))) J (by rw[hly];rfl)<|gx J<|br J J J (fun hc33=>?_) (fun hc33=>?_)
  .
   have hy0:0<y:=iS fun q=>by subst q;rw[uM] at hc33;simp at hc33
   refine cl J (x7 (a:=x) (b:=y) (ia:=ia+ib) (ib:=ia+ib) hy0 (by omega) (by omega)) J<|at_ ⟨y,x%y⟩ (by dsimp only;exact⟨⟨h2,by have:=dK x hy0;omega,by rw[MA,h3]⟩,(by exact dK _ hy0)⟩)
  .
   have hy0:y=0:=vQ.1 (by omega);have hlx:=k9 h1;have hmx:=bP (dg x);refine sA J J<|ap _ J J (r5 _) J<|iu 44 J<|rz J (by show DV.sl ([]++_)=_;rw[<-h3,hy0,nL];rfl)
def NZ(neg:Bool)(m:Nat):eI (zv neg m)= .ag [.v (.bool (neg&&decide (0<m))),dN m]:=by unfold eI;rw[sh,T5]
def Vk(z:Int):zv (!decide (z<0)) z.natAbs= -z:=by
 unfold zv;by_cases h:z<0<;>simp[h]<;>omega
def aDO(a b:Int):zv (!(decide (a<0)==decide (b<0))) (a.natAbs*b.natAbs)=a*b:=by
 have h:=S4 (decide (a<0)) (decide (b<0)) a.natAbs b.natAbs;rw[mf,mf] at h;exact h
def kB{m:Nat}:PF GB prog 115 [.v (.bool neg),dN m] (eI (zv neg m)):=by
 have hl:=bP (dg m);have hz:= @vQ m;refine fn func115 J J ntmps115 J J (fun C=>?_);refine iC 6 J J J (fun hg6=>?_) (fun hg6=>?_)
 .
  exact rz J (by rw[NZ,hg6];show DV.ag [.v (.bool _),_]= .ag [.v (.bool _),_];congr 4;rw[sL];exact decide_eq_decide.2 (by omega))
 .
  exact rz J (by rw[NZ,hg6];rfl)
structure Hw where
 lo:RV
 hi:RV
 nl:Bool
 nh:Bool
def Hw.v(z:Hw):Value:= .agg ⟨[.int .i64 z.lo.n, .int .i64 z.lo.d, .pointer z.lo.p, .int .i64 z.hi.n, .int .i64 z.hi.d, .pointer z.hi.p, .bool z.nl, .bool z.nh]⟩
section
variable {n:Nat}{own:List aA}
variable {gd:Option (Nat×Bool)}{x:Operand}
end

structure Mo where
 l:LV
 v:Hw
def Mo.val(z:Mo):Value:= .agg ⟨[.int .i64 z.l.a.n, .int .i64 z.l.a.d, .pointer z.l.a.p, .int .i64 z.l.b.n, .int .i64 z.l.b.d, .pointer z.l.b.p, .int .i64 z.l.c.n, .int .i64 z.l.c.d, .pointer z.l.c.p, .int .i64 z.v.lo.n, .int .i64 z.v.lo.d, .pointer z.v.lo.p, .int .i64 z.v.hi.n, .int .i64 z.v.hi.d, .pointer z.v.hi.p, .bool z.v.nl, .bool z.v.nh]⟩
inductive iw {α β:Type} (R:α->β->Prop):List α->List β->Prop
 |nil:iw R [] []
 |cons {a b us bs} (h:R a b) (t:iw R us bs):iw R (a::us) (b::bs)
def iw.len{R:α->β->Prop}{us:List α}{bs:List β}(h:iw R us bs):us.length=bs.length:=by
 induction h with
 |nil=>rfl
 |cons _ _ ih=>simp[ih]
def iw.imp{R S:α->β->Prop}{us:List α}{bs:List β}(h:iw R us bs)(k: ∀a b,R a b->S a b):iw S us bs:=by
 induction h with
 |nil=>exact .nil
 |cons h _ ih=>exact .cons (k _ _ h) ih
def iw.get{R:α->β->Prop}{us:List α}{bs:List β}(h:iw R us bs){b:β}(hi:bs[i]? =some b): ∃a,us[i]? =some a/\R a b:=by
 induction h generalizing i with
 |nil=>simp at hi
 | @cons a b' us bs h t ih=>
  cases i with
  |zero=>simp at hi;subst hi;exact⟨a,J,h⟩
  |succ i=>simpa using ih (i:=i) (by simpa using hi)
def iw.app{R:α->β->Prop}{us us':List α}{bs bs':List β}(h:iw R us bs)(k:iw R us' bs'):iw R (us++us') (bs++bs'):=by
 induction h with
 |nil=>exact k
 |cons h _ ih=>exact .cons h ih

section
variable {n:Nat}{own:List aA}
variable {gd:Option (Nat×Bool)}{x:Operand}
def azM{o1 o2:aA}(h:o1.b≠o2.b->St C n fr (o1::o2::rest) G Φ):St C n fr (o1::o2::rest) G Φ:=
 fun a w rl=>h ((bY.1 rl.h.nd).1 _ aQ) a w rl
def En[hT:ck P t e s by_]{k:IntKind}{b len:Nat}{l:Int}(hx:aD fr x=some (.slice (some ⟨b,off,none⟩) len cap))(hy:aD fr y=some (.int k l))(h0:0<=l:=by omega)(h1:l<=len:=by omega)(h2:l<cap:=by omega):
  Yd P C fr own G ⟨dst, .slice t x (some y) none none,ty',pos,af,gd⟩ (.slice (some ⟨b,off+l.toNat*s,none⟩) (len-l.toNat) (cap-l.toNat)):=by
 have h:=Ej (P:=P) (C:=C) (own:=own) (G:=G) (t:=t) (dst:=dst) (ty':=ty') (pos:=pos) (af:=af) (gd:=gd) (by_:=by_) hx hy h0 h1;unfold m7 at h;rw[if_neg (by omega)] at h;simpa[q6] using h
end

section
variable {n:Nat}{own:List aA}
variable {gd:Option (Nat×Bool)}{x:Operand}
end


structure ND where
 a:IV
 b:IV
 c:IV
 l:Int
 r:Int
def ND.val(z:ND):Value:= .agg ⟨[.bool z.a.neg, .slice z.a.a.a z.a.a.n z.a.a.c, .bool z.b.neg, .slice z.b.a.a z.b.a.n z.b.a.c, .bool z.c.neg, .slice z.c.a.a z.c.a.n z.c.a.c, .int .i64 z.l, .int .i64 z.r]⟩
structure rm (k:Nat) (G:Gh) (z:ND) (n:NQ):Prop where
 a:ql k G z.a n.l.a
 b:ql k G z.b n.l.b
 c:ql k G z.c n.l.c
 l:z.l=n.a
 r:z.r=n.b
def rm.up{k:Nat}{A G:Gh}{z:ND}{n:NQ}(h:rm k A z n)[GL A G]:rm k G z n:=⟨h.a.up,h.b.up,h.c.up,h.l,h.r⟩
structure aLL (k:Nat) (G:Gh) (x:SV) (ns:List NQ):Prop where
 ex: ∃zs:List ND,gk G 8 x (zs.map ND.val)/\iw (rm k G) zs ns

def ND.len8(zs:List ND): ∀v∈zs.map ND.val,(aF v).length=8:=fun v hv=>by
 obtain⟨f,_,rfl⟩:=aU.1 hv;rfl
def ND.flat(zs:List ND): ∀v∈zs.map ND.val,∀c∈aF v,Sx.flat c=true:=fun v hv c hc=>by
 obtain⟨f,_,rfl⟩:=aU.1 hv;simp only[ND.val,aF,aK,eY,or_false] at hc;rcases hc with rfl|rfl|rfl|rfl|rfl|rfl|rfl|rfl<;>rfl
def iw.set{α β:Type}{R:α->β->Prop}{us:List α}{bs:List β}(h:iw R us bs){a:α}{b:β}(hr:R a b)(i:Nat):iw R (us.set i a) (bs.set i b):=by
 induction h generalizing i with
 |nil=>simp;exact .nil
 |cons h t ih=>
  cases i with
  |zero=>exact .cons hr t
  |succ i=>exact .cons h (ih i)
def PT(zs:List ND)(rest:List Value)(i j:Nat)(x:Value)(z:ND)(hi:i<zs.length)(hj:j<8)(hz:aF z.val=(aF (zs[i]).val).set j x):
  (aB (zs.map ND.val)++rest).set (i*8+j) x=aB ((zs.set i z).map ND.val)++rest:=by
 have hi':i<(zs.map ND.val).length:=by simpa using hi
 rw[Pm hj _ i hi' (ND.len8 zs),qY,<-hz,kQ,List.set_eq_take_append_cons_drop,if_pos hi',mA];have e:aB (z.val::(zs.map ND.val).drop (i+1))=aF z.val++aB ((zs.map ND.val).drop (i+1)):=by simp[aB]
 rw[e];simp[dX]
def oq(ob wb:Nat):Value:= .func (.func 162) #[] #[.pointer (some ⟨ob,0,none⟩), .pointer (some ⟨wb,0,none⟩)]
structure MP where
 x:SV
 p:Option Addr
def MP.val(z:MP):Value:= .agg ⟨[.slice z.x.a z.x.n z.x.c, .pointer z.p]⟩
structure LI where
 a:IV
 b:IV
 c:IV
def LI.val(z:LI):Value:= .agg ⟨[.bool z.a.neg, .slice z.a.a.a z.a.a.n z.a.a.c, .bool z.b.neg, .slice z.b.a.a z.b.a.n z.b.a.c, .bool z.c.neg, .slice z.c.a.a z.c.a.n z.c.a.c]⟩
end Go.Sx
end
