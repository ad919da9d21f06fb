import Derived.Test.YtmdgdhokaffbkaaGreatDoorMu9
set_option linter.all false
set_option maxHeartbeats 8000000
set_option maxRecDepth 100000
section
namespace Go.Sx
open Go Go.Proofs Tryz
variable {GB G:Gh}{C:aE}{n neg n1:Bool}{Q0:Exit->Act->World->Prop}{fr:Fr}{fr':aC}{own' own1 rest:List av}{cf cf':Cf}{vc:List Prop}{q:Rat}{U k ia i T S u g ca s d j a' d' ib e by_ off cap:Nat}{m z:Int}{vs ws wa qs ds:List Nat}{P:Program}{Φ:Act->World->Prop}{dst:Option Nat}{t t' ty':TypeId}{pos:String}{af:Array Edge}{y:Operand}{α β:Type}
def YG(c:Nat)(h:c<18446744073709551616):(BitVec.ofInt 64 (c:Int) &&& BitVec.ofInt 64 4294967295).toNat=c%4294967296:=by
 rw[BitVec.toNat_and,BitVec.ofInt_natCast,BitVec.toNat_ofNat,jN (by omega),show(BitVec.ofInt 64 4294967295).toNat=2^32-1 from J,Nat.and_two_pow_sub_one_eq_mod]
structure Zk (a b n s l:Nat):Prop where
 hn:(dg b).length=n+2
 hs:s=32-bl ((dg b).getD (n+1) 0)
 hb:bl ((dg b).getD (n+1) 0)<=32
 s32:s<32
 vl:(dg (b*2^s)).length=n+2
 v2:b*2^s<4294967296^(n+2)
 al:(dg a).length=n+1+l
 u0:(dg a).length<=(dg (a*2^s)).length
 u1:a*2^s<4294967296^((dg a).length+1)
 u3:a*2^s<b*2^s*4294967296^l
 bp:0<b
def SC{a b:Nat}(hb2:2<=(dg b).length)(hle:b<=a): ∃n s l,Zk a b n s l:=by
 have hoa:=f9 a;have hob:=f9 b;have hna:=(fE a).2.2;have hnb:=(fE b).2.2;have ea:=c8 a;have eb:=c8 b;obtain⟨n,hn⟩: ∃n,(dg b).length=n+2:=⟨(dg b).length-2,by omega⟩;have hbp:0<b:=iK fun h=>by subst h;rw[tU] at hb2;simp at hb2
 have hnm:(dg b).length<=(dg a).length:=by
  rcases jZ (dg a).length (dg b).length with h|h
  .have:=xv hoa hnb h
   omega
  .exact h
 have htp:=PZ hnb (n+1) hn;have htl:=hob.get (n+1);have hbv:=aHe hob (n+1) hn;have hbt:=CB hob (n+1);obtain⟨s,hs⟩: ∃s,s=32-bl ((dg b).getD (n+1) 0):=⟨_,rfl⟩;obtain⟨hs32,hs1,hs2⟩:=Tj htp htl hs;have hpn:0<4294967296^(n+1):=fN (by decide);have hps:0<2^s:=fN (by decide);rw[eb] at hbv;have hV1:2147483648*4294967296^(n+1)<=b*2^s:=by
  refine cS (bT _ hs1) ?_;rw[cV,cJ (2^s),<-cV];exact bT _ (by omega)
 have hV2:b*2^s<4294967296^(n+2):=by
  refine dZ (mT (k:=2^s) (m:=((dg b).getD (n+1) 0+1)*4294967296^(n+1)) (by rw[dV,mR];omega) hps) ?_;rw[cV,cJ (4294967296^(n+1)),<-cV,vf (n+1),cJ _ 4294967296];exact bT _ hs2
 have hVl:(dg (b*2^s)).length=n+2:=Wc (by show 4294967296^(n+1)<=_;omega) hV2 (by omega);have hal:=l8 hoa;rw[ea] at hal;have hU2:a*2^s<4294967296^((dg a).length+1):=by
  rw[vf];exact oY hal (dZ (Nat.pow_lt_pow_right (by decide) hs32) (by decide))
 have hUl0:(dg a).length<=(dg (a*2^s)).length:=by
  have hane:dg a≠[]:=fun h=>by
   have:=congrArg List.length h;simp only[eY] at this;omega
  have h1:=uR hna hane;have h2:=l8 (fE (a*2^s)).2.1;rw[(fE _).1] at h2;rw[ea] at h1;have h3:a<=a*2^s:=mK _ hps;have h4:=(nN (a:=4294967296) (by decide)).1 (fK (cS h1 h3) h2);omega
 have hU3:a*2^s<b*2^s*4294967296^((dg a).length-n-1):=by
  have h1:4294967296^(n+1)*4294967296^((dg a).length-n-1)=4294967296^(dg a).length:=by rw[<-fX,show n+1+((dg a).length-n-1)=(dg a).length by omega]
  refine dZ (mT hal hps) (cS (fR _ (bR (by decide) (show s<=31 by omega))) ?_);rw[<-h1,cJ,<-cV];exact bT _ hV1
 exact⟨n,s,(dg a).length-n-1,hn,hs,n9.2 htl,hs32,hVl,hV2,by omega,hUl0,hU2,hU3,hbp⟩
section
variable {n:Nat}{fr:aC}{own own':aG}
def RI(fr:aC)(cf:Cf):Option (Int×Int):=match cE fr cf with
 |some ⟨_, .binOp .add _ x y _,_,_,_,_⟩=>match bh (b7 fr cf) x,bh (b7 fr cf) y with
  |some (.d (.v (.int .u32 p))),some (.d (.v (.int .u32 q)))=>some (p,q)
  |_,_=>none
 |_=>none
def aw[fu:Fu]{p q:Int}(u:Int)(h:RI fr cf=some (p,q))(e:IntKind.u32.wrap (p+q)=u)(hgo:cx tt n fu.n fr own cf (.d (.v (.int .u32 u))) [] []=⟨vc,fr',own',cf'⟩)(k:aA prog GB C n Q0 fr' own' cf')
  (hv:autoParam (ak vc) cL._auto_1):aA prog GB C n Q0 fr own cf:=by
 unfold RI at h;split at h<;>try (cases h;done)
 rename_i hh;split at h<;>cases h;rename_i h1 h2;subst e;exact us hh (.yd fun ρ G ov a w r=>by
  obtain⟨y1,h3,h4⟩:=r.ev h1;obtain⟨y2,h5,h6⟩:=r.ev h2;rw[cH] at h4 h6;subst h4 h6;exact⟨_,cH.2 J,lc h3 h5 fun w=>J⟩) hgo hv k
end
def ZX{m:Nat}(h:U<4294967296^m):dv ((dg U++[0,0]).take m)=U:=by
 have h1:dv (dg U++[0,0])=U:=by rw[show([0,0]:List Nat)=List.replicate 2 0 from J,ZG,c8]
 have h2:=vn (dg U++[0,0]) m;rw[Ao (by rw[h1];exact h),h1] at h2;omega
def aEu{a:Nat}[h:BN a ia](hv:vs=dg (a*2^k))(hk:k<32)(h0:0<(dg a).length)(hi:ia<=1000000000):PR GB prog 294 [dN a, .v (.int .u64 (k:Nat))] 1 225 (vs.map dU):=by
 subst hv;exact NU hk h0 hi
def UI{us:List Nat}{n:Nat}(huo:bB us)(hvo:bB vs)(hvB:dv vs<4294967296^(n+2))(hv0:0<dv vs)(hvh:dv vs=(T*4294967296+S)*4294967296^n+dv (vs.take n))(hlt:dv us<dv vs*4294967296^(i+1)):
  ∃f p V w:Nat,f=us.getD (i+n+2) 0*4294967296+us.getD (i+n+1) 0/\V=dv vs*4294967296^i/\0<V/\dv us<V*4294967296/\(f*4294967296+us.getD (i+n) 0)*p<=dv us/\dv us<(f*4294967296+us.getD (i+n) 0+1)*p/\V=(T*4294967296+S)*p+w/\w<p/\dv us<4294967296^(i+n+3):=by
 have hpi:0<4294967296^i:=fN (by decide);obtain⟨p,hp⟩: ∃p,p=4294967296^(i+n):=⟨_,rfl⟩;have hM:dv us<4294967296^(i+n+3):=by
  refine dZ hlt ?_;rw[show i+n+3=(n+2)+(i+1) by omega,fX 4294967296 (n+2) (i+1)];exact bT _ (gJ hvB)
 have huh:=XH huo (i+n) hM;have hu0:=CB huo (i+n);rw[<-hp] at huh hu0;refine⟨_,p,_,dv (vs.take n)*4294967296^i,J,J,jQ hv0 hpi,by rw[cV,<-vf];exact hlt,by omega,by rw[dV _ 1,mR];omega,?_,?_,hM⟩
 .rw[hvh,dV,hp,fX,cJ (4294967296^i),cV]
 .rw[hp,fX,cJ]
  exact Nat.mul_lt_mul_of_pos_left (CB hvo n) hpi
def Wg{bo c c1 xx:Nat}(hl:i+k<ws.length)(hw:dv ws+g*(dv (vs.take k)*4294967296^i)=u+(bo+c)*4294967296^(i+k))(hc1:c1=c+g*vs.getD k 0)(hx1:xx%4294967296+(c1%4294967296+bo)=ws.getD (i+k) 0+xx/9223372036854775808*4294967296):
  dv (ws.set (i+k) (xx%4294967296))+g*(dv (vs.take (k+1))*4294967296^i)=u+(xx/9223372036854775808+c1/4294967296)*4294967296^(i+(k+1)):=by
 rw[nH,dV (dv (vs.take k)),<-kN i k 1,vf,show 4294967296^k*vs.getD k 0*4294967296^i=vs.getD k 0*4294967296^(i+k) by rw[fX,cJ (4294967296^k),cV,cJ (4294967296^k)],fQ,<-cV g (vs.getD k 0)];exact Yj (vz ws (i+k) _ hl) hw hc1 hx1
def aCF(hl:i+k<wa.length)(ha:dv wa+ca*4294967296^(i+k)=u+dv (vs.take k)*4294967296^i):
  dv (wa.set (i+k) ((ca+(wa.getD (i+k) 0+vs.getD k 0))%4294967296))+(ca+(wa.getD (i+k) 0+vs.getD k 0))/4294967296*4294967296^(i+(k+1))=u+dv (vs.take (k+1))*4294967296^i:=by
 rw[nH,dV (dv (vs.take k)),<-kN i k 1,vf,show 4294967296^k*vs.getD k 0*4294967296^i=vs.getD k 0*4294967296^(i+k) by rw[fX,cJ (4294967296^k),cV,cJ (4294967296^k)]];exact U6 (vz wa (i+k) _ hl) ha
def Zx{a b n:Nat}{us:List Nat}(hp:0<2^s)(hvv:dv vs=b*2^s)(hv0:0<dv vs)(hvB:dv vs<4294967296^(n+2))(hinv:a*2^s=dv us+dv vs*dv qs)(hlt:dv us<dv vs*4294967296^0):dv qs=a/b/\dv (us.take (n+2))/2^s=a%b:=by
 rw[tX,iN] at hlt;have hut:dv (us.take (n+2))=dv us:=by
  have h0:=vn us (n+2);rw[Ao (by omega)] at h0;omega
 refine⟨?_,?_⟩
 .rw[<-Nat.mul_div_mul_right _ _ hp,hinv,<-hvv,pV _ _ hv0,mZ hlt,eX]
 .have:dv us=a%b*2^s:=by rw[<-Nat.mul_mod_mul_right,hinv,<-hvv,pS,jN hlt]
  rw[hut,this,Nat.mul_div_cancel _ hp]
def aGW{l:Nat}(hl:i<qs.length)(h:qs.getD i 0=0):dv (qs.set i d)=dv qs+4294967296^i*d:=by
 have:=vz qs i d hl;rw[h] at this;simpa using this
def L'{a R V v:Nat}(hl:i<qs.length)(h0:qs.getD i 0=0)(hinv:a*2^s=u+v*dv qs)(hV:V=v*4294967296^i)(h:R+d*V=u):a*2^s=R+v*dv (qs.set i d):=by
 rw[hinv,<-h,aGW (l:=0) hl h0,fQ,<-cV,<-hV,cJ d];omega
def Pj(hq: ∀j,j<i+1->qs.getD j 0=0): ∀j,j<i->(qs.set i d).getD j 0=0:=fun j h=>by
 rw[getD_set_ne];exact hq j (by omega)
def aDX{a b ia ib:Nat}[h:BN a ia][k:BN b ib](h2:2<=(dg b).length)(hle:b<=a)(hi:ia<=1000000000:=by decide)(hj:ib<=1000000000:=by decide):PF GB prog 253 [dN a,dN b] (.tp [dN (a/b),dN (a%b)]):=by
 have hla:=bI (dg a);have hba:=iE (a:=a) hi;have hlb:=bI (dg b);have hbb:=iE (a:=b) hj;obtain⟨n,s,l,P⟩:=SC h2 hle;have hn:=P.hn;have hs:=P.hs;have hsb:=P.hb;have hs32:=P.s32;have hal:=P.al;have hu0:=P.u0;have hu9:=BF (a:=a*2^s) (k:=(dg a).length+1) P.u1;have htl:=dt b (n+1);obtain⟨vs,hvs⟩: ∃vs,vs=dg (b*2^s):=⟨_,rfl⟩;have hvl:vs.length=n+2:=by rw[hvs];exact P.vl
 have hvv:dv vs=b*2^s:=by rw[hvs,c8]
 have hvo:bB vs:=by rw[hvs];exact f9 _
 have hvn:ew vs:=by rw[hvs];exact(fE _).2.2
 have hvm:=bI vs;obtain⟨us0,hus0⟩: ∃us0,us0=(dg (a*2^s)++[0,0]).take ((dg a).length+1):=⟨_,rfl⟩;have husv:dv us0=a*2^s:=by rw[hus0];exact ZX P.u1
 have huso:bB us0:=by rw[hus0];exact((f9 _).append (.replicate 2)).take _
 have husl:us0.length=(dg a).length+1:=by rw[hus0];simp;omega
 have hps:0<2^s:=fN (by decide);have hbp:=P.bp;have hV0':0<dv vs:=by rw[hvv];exact jQ hbp hps
 have hvB:dv vs<4294967296^(n+2):=by rw[hvv];exact P.v2
 obtain⟨T,hT⟩: ∃T,T=vs.getD (n+1) 0:=⟨_,rfl⟩;obtain⟨S,hS⟩: ∃S,S=vs.getD n 0:=⟨_,rfl⟩;have hTB:T<4294967296:=by rw[hT];exact hvo.get _
 have hSB:S<4294967296:=by rw[hS];exact hvo.get _
 have hT0:0<T:=by rw[hT];exact PZ hvn (n+1) hvl
 have hvh:=ZA hvo n hvB;rw[<-hT,<-hS] at hvh;refine fn (fu:=⟨12⟩) func253 J J ntmps253 J J (fun C=>?_);refine aj 27 (.d (vI ((dg b).length:Nat))) J (by rw[hlb]<;>rfl)<|gx J<|ix _ J (cv (k:=n+1)) J<|cl (fu:=⟨1⟩) J (ID htl) J<|aj 32 (.d (.v (.int .u64 (s:Nat)))) J (by show FX.d (.v (.int _ _))= .d (.v (.int _ _));congr 3;omega)<|gx J<|cr J (NU (a:=a) (k:=s) hs32 (by omega) hi) J<|rf J J<|ap (fu:=⟨2⟩) _ J J (Cp J) J<|aj 39 (.d (vI ((dg a).length:Nat))) J (by rw[hla]<;>rfl)<|gx (fu:=⟨1⟩) J<|aj 40 (.d (vI ((dg a).length+1:Nat))) J (by show FX.d (.v (.int _ _))= .d (.v (.int _ _));congr 3)<|gx (fu:=⟨0⟩) J<|N' (us0.map dU) ((dg a).length+1) J J (by simp;omega) (by rw[hus0,iW,bX];rfl) J<|cr (fu:=⟨7⟩) J (aEu (a:=b) (k:=s) (vs:=vs) hvs hs32 (by omega) hj) J<|aj 46 (.d (vI (n+2:Nat))) J (by rw[hvm,hvl]<;>rfl)<|gx J<|lb (fu:=⟨1⟩) _ J (cv (k:=n+1)) J<|aj 52 (.d (.v (.int .u64 (T:Nat)))) J (by show FX.d (.v (.int _ _))= .d (.v (.int _ _));rw[hT])<|gx J<|lb (fu:=⟨1⟩) _ J (cv (k:=n)) J<|aj 58 (.d (.v (.int .u64 (S:Nat)))) J (by show FX.d (.v (.int _ _))= .d (.v (.int _ _));rw[hS])<|gx (fu:=⟨8⟩) J<|aj 60 (.d (vI ((dg a).length+1:Nat))) J (by rw[bI,husl]<;>rfl)<|gx (fu:=⟨2⟩) J<|aj 62 (.d (vI (l:Nat))) J (by show FX.d (.v (.int _ _))= .d (.v (.int _ _));congr 3;omega)<|gx J<|mk (fu:=⟨11⟩) ((List.replicate l 0).map dU) J J (by rw[<-mH];rfl) J<|aj 65 (.d (vI (l:Nat))) J (by rw[bI,aS]<;>rfl)<|gx J<|lp (X:=List Nat×List Nat×Nat) (fun⟨us,qs,j⟩=>[(13, .d (vI ((j:Nat)-1)))]) (fun⟨us,qs,j⟩=>[(63,some (.b 225 1 (qs.map dU) true)),(41,some (.b 225 1 (us.map dU) true))]) (fun⟨us,qs,j⟩=>us.length=(dg a).length+1/\bB us/\qs.length=l/\bB qs/\j<=l/\(∀i,i<j->qs.getD i 0=0)/\a*2^s=dv us+dv vs*dv qs/\dv us<dv vs*4294967296^j) (fun⟨us,qs,j⟩=>j) ⟨us0,List.replicate l 0,l⟩ J ⟨husl,huso,by simp, .replicate _,bW _,fun i _=>DL _ _,by simp only[w6];omega,by rw[husv,hvv];exact P.u3⟩ (fun _=>J) (fun⟨us,qs,j⟩ hk=>?_)
 try dsimp only at hk⊢
 obtain⟨hul,huo,hql,hqo,hjl,hq0,hinv,hlt⟩:=hk;refine br (fu1:=⟨0⟩) (fu2:=⟨0⟩) J J J (fun hc68=>?_) (fun hc68=>?_)
 .
  obtain⟨i,rfl⟩: ∃i,j=i+1:=⟨j-1,by omega⟩;refine aj 13 (.d (vI (i:Nat))) J (by show FX.d (.v (.int _ _))= .d (.v (.int _ _));congr 3;omega) ?_;obtain⟨f,p,V,v0,hf,hV,hVp0,hltV,hUle,hUlt,hVp,hv0,hM⟩:=UI (n:=n) (i:=i) huo hvo hvB hV0' hvh hlt;have hVle:(T*4294967296+S)*p<=V:=by rw[hVp];exact oV _ _
  have hfT:f<=T*4294967296+S:=X8 hUle hVp hv0 hltV;have hg0:=huo.get (i+n);have hg1:=huo.get (i+n+1);have hg2:=huo.get (i+n+2);have hum:=bI us;have hqm:=bI qs;refine gx J<|lb (fu:=⟨2⟩) (hv:=by simp only[ak];exact⟨by omega,(by decide)⟩) _ J (cv (k:=i+n+2)) J<|aj 78 (.d (.v (.int .u64 (us.getD (i+n+2) 0*4294967296:Nat)))) J (by show FX.d (.v (.int _ _))= .d (.v (.int _ _));rw[pq _ 32 (by decide) (by show _*4294967296<_;omega) J])<|gx J<|lb (fu:=⟨2⟩) _ J (cv (k:=i+n+1)) J<|aj 87 (.d (.v (.int .u64 (f:Nat)))) J (congrArg (fun z:Nat=>FX.d (.v (.int .u64 (z:Int)))) ((congrArg BitVec.toNat (BitVec.or_comm ..)).trans ((pB 64 (us.getD (i+n+1) 0) (us.getD (i+n+2) 0) 32 hg1 (by show _+_*4294967296<18446744073709551616;omega)).trans (by show _+_*4294967296=_;omega))))<|gx (fu:=⟨8⟩) (hv:=by simp only[ak];exact⟨by kernel_rfl,by omega⟩) J<|aj 90 (.d (.v (.int .u64 (f/T:Nat)))) J (by show FX.d (.v (.int _ _))= .d (.v (.int _ _));first|rfl|congr 3)<|gx (fu:=⟨3⟩) J<|aj 93 (.d (.v (.int .u64 (f%T:Nat)))) J (by show FX.d (.v (.int _ _))= .d (.v (.int _ _));first|rfl|congr 3)<|gx (fu:=⟨5⟩) J<|mg (fu:=⟨11⟩) (X:=Nat) (fun g=>[(15, .d (.v (.int .u64 (g:Nat))))]) (fun g=>[]) (fun g=>g<4294967296/\dv us<(g+1)*V/\g*V<dv us+V) [15,16] [] rfl ?_ (fun _=>J) (fun g ⟨hgB,hlo,hhi⟩=>?_)
  .
   refine gx J<|lp (fu:=⟨5⟩) (hv:=fun _ _=>by simp only[ak];exact(by decide)) (X:=Nat×Nat) (fun⟨g,r⟩=>[(15, .d (.v (.int .u64 (g:Nat)))),(16, .d (.v (.int .u64 (r:Nat))))]) (fun⟨g,r⟩=>[]) (fun⟨g,r⟩=>f=g*T+r/\r<4294967296/\dv us<(g+1)*V) (fun⟨g,r⟩=>g) ⟨f/T,f%T⟩ J ⟨(Nat.div_add_mod' ..).symm,tZ (dK _ hT0) hTB,aA7 hUlt hg0 hVle hT0⟩ (fun _=>J) (fun⟨g,r⟩ hk=>?_)
   try dsimp only at hk⊢
   obtain⟨hfg,hrB,hlo⟩:=hk;have hgT:g*1<=g*T:=fR _ hT0;refine aj 95 (.d (.v (.int .u64 (g/4294967296:Nat)))) rfl (by rw[oy])<|gx rfl<|cs (fu1:=⟨26⟩) (v1:=fun hg97=>by simp only[ak];exact(by first|omega|(have hd:=FN hUlt hVle hfg;rcases fU g with e|e;(rw[e,kX] at hd;omega);omega))) (fu2:=⟨3⟩) (v2:=fun hg97=>by simp only[ak];exact⟨(AB _ _),(zy (show g<4294967296 by omega) hSB)⟩) 97 J J J (fun hg97=>?_) (fun hg97=>?_)
   .
    have hgB4:4294967296<=g:=by omega
    have hdec:dv us<g*V:=dZ hltV (by rw[cJ];exact bT _ hgB4);obtain⟨g',rfl⟩: ∃g',g=g'+1:=⟨g-1,by rcases fU g with h|h;(rw[h,kX] at hdec;omega);omega⟩;have hfg':f=g'*T+(r+T):=by rw[hfg,dV,mR];omega
    refine aj 115 (.d (.v (.int .u64 (g':Nat)))) J (by show FX.d (.v (.int _ _))= .d (.v (.int _ _));congr 3;omega)<|gx (fu:=⟨8⟩) J<|aj 118 (.d (.v (.int .u64 (r+T:Nat)))) J (by show FX.d (.v (.int _ _))= .d (.v (.int _ _));first|rfl|congr 3)<|gx (fu:=⟨7⟩) (hv:=by simp only[ak];exact(by decide)) J<|aj 120 (.d (.v (.int .u64 ((r+T)/4294967296:Nat)))) J (by rw[oy])<|gx J<|br J J J (fun hc121=>?_) (fun hc121=>?_)
    .
     have hgB3:g'<4294967296:=by rcases jZ g' 4294967296 with h|h;(exact h);(have:=bT T h;omega)
     have hgS3:g'*S<=(r+T)*4294967296+us.getD (i+n) 0:=by have h1:=fJ (gJ hgB3) (gJ hSB);omega
     exact at_ g' ⟨hgB3,hdec,HI hUle hVp hv0 hT0 hfg' hgB3 hgS3⟩
    .
     exact at_ ⟨g',r+T⟩ (by dsimp only;exact⟨⟨hfg',by omega,hdec⟩,(by omega)⟩)
   .
    have hgB:g<4294967296:=by omega
    have hgS:g*S<4294967296*4294967296:=oY hgB hSB;refine aj 100 (.d (.v (.int .u64 (g*S:Nat)))) rfl (by rw[iU])<|gx (fu:=⟨2⟩) (hv:=by simp only[ak];exact(by decide)) rfl<|aj 102 (.d (.v (.int .u64 (r*4294967296:Nat)))) rfl (by show FX.d (.v (.int _ _))= .d (.v (.int _ _));rw[pq _ 32 (by decide) (by show _*4294967296<_;omega) rfl])<|gx rfl<|lb (fu:=⟨2⟩) _ rfl (cv (k:=i+n)) rfl<|aj 111 (.d (.v (.int .u64 (r*4294967296+us.getD (i+n) 0:Nat)))) rfl (congrArg (fun z:Nat=>FX.d (.v (.int .u64 (z:Int)))) ((congrArg BitVec.toNat (BitVec.or_comm ..)).trans ((pB 64 (us.getD (i+n) 0) (r) 32 hg0 (by show _+_*4294967296<18446744073709551616;omega)).trans (by show _+_*4294967296=_;omega))))<|gx rfl<|br (fu1:=⟨7⟩) (v1:=fun hc113=>by simp only[ak];exact(by first|omega|(have hd:=FN hUlt hVle hfg;rcases fU g with e|e;(rw[e,kX] at hd;omega);omega))) rfl rfl rfl (fun hc113=>?_) (fun hc113=>?_)
    .
     have hdec:dv us<g*V:=FN hUlt hVle hfg;obtain⟨g',rfl⟩: ∃g',g=g'+1:=⟨g-1,by rcases fU g with h|h;(rw[h,kX] at hdec;omega);omega⟩;have hfg':f=g'*T+(r+T):=by rw[hfg,dV,mR];omega
     refine aj 115 (.d (.v (.int .u64 (g':Nat)))) J (by show FX.d (.v (.int _ _))= .d (.v (.int _ _));congr 3;omega)<|gx (fu:=⟨8⟩) J<|aj 118 (.d (.v (.int .u64 (r+T:Nat)))) J (by show FX.d (.v (.int _ _))= .d (.v (.int _ _));first|rfl|congr 3)<|gx (fu:=⟨7⟩) (hv:=by simp only[ak];exact(by decide)) J<|aj 120 (.d (.v (.int .u64 ((r+T)/4294967296:Nat)))) J (by rw[oy])<|gx J<|br J J J (fun hc121=>?_) (fun hc121=>?_)
     .
      have hgB3:g'<4294967296:=by rcases jZ g' 4294967296 with h|h;(exact h);(have:=bT T h;omega)
      have hgS3:g'*S<=(r+T)*4294967296+us.getD (i+n) 0:=by have h1:=fJ (gJ hgB3) (gJ hSB);omega
      exact at_ g' ⟨hgB3,hdec,HI hUle hVp hv0 hT0 hfg' hgB3 hgS3⟩
     .
      exact at_ ⟨g',r+T⟩ (by dsimp only;exact⟨⟨hfg',by omega,hdec⟩,(by omega)⟩)
    .
     exact at_ g ⟨hgB,hlo,HI hUle hVp hv0 hT0 hfg hgB (by omega)⟩
  .
   refine aj 123 (.d (vI (n+2:Nat))) J (by rw[hvm,hvl]<;>rfl)<|gx J<|lp (X:=List Nat×Nat×Nat×Nat) (fun⟨ws,k,bo,c⟩=>[(124, .d (vI (k:Nat))),(17, .d (.v (.int .u64 (bo:Nat)))),(18, .d (.v (.int .u64 (c:Nat))))]) (fun⟨ws,k,bo,c⟩=>[(41,some (.b 225 1 (ws.map dU) true))]) (fun⟨ws,k,bo,c⟩=>ws.length=(dg a).length+1/\bB ws/\k<=n+2/\bo<=1/\c<4294967296/\dv ws<4294967296^(i+n+3)/\dv ws+g*(dv (vs.take k)*4294967296^i)=dv us+(bo+c)*4294967296^(i+k)) (fun⟨ws,k,bo,c⟩=>n+2-k) ⟨us,0,0,0⟩ J ⟨hul,huo,bJ _,bJ _,by decide,hM,by simp[dv]⟩ (fun _=>J) (fun⟨ws,k,bo,c⟩ hk=>?_)
   try dsimp only at hk⊢
   obtain⟨hwl,hwo,hk2,hbo,hc4,hwM,hw⟩:=hk;refine br J J J (fun hc125=>?_) (fun hc125=>?_)
   .
    have hvk:=hvo.get k;have hwg:=hwo.get (i+k);have hgd:g*vs.getD k 0<=4294967295*4294967295:=fJ (by omega) (by omega);obtain⟨c1,hc1⟩: ∃c1,c1=c+g*vs.getD k 0:=⟨_,rfl⟩;have hc1m:c1%4294967296<4294967296:=dK _ (by decide);obtain⟨hx1,hx2,hx3⟩:=RJ (ws.getD (i+k) 0) (c1%4294967296) bo hwg hc1m hbo;obtain⟨xx,hxx⟩: ∃x,x=rP (ws.getD (i+k) 0) (c1%4294967296) bo:=⟨_,rfl⟩;rw[<-hxx] at hx1 hx2 hx3;have hwm:=bI ws;refine lb (fu:=⟨11⟩) (hv:=by simp only[ak];exact⟨by omega,⟨(AB _ _),(zy hgB hvk)⟩⟩) _ J (eo) J<|aj 133 (.d (.v (.int .u64 (g*vs.getD k 0:Nat)))) J (by rw[iU])<|gx (fu:=⟨1⟩) J<|aj 134 (.d (.v (.int .u64 (c1:Nat)))) J (by show FX.d (.v (.int _ _))= .d (.v (.int _ _));congr 3;omega)<|gx J<|lb (fu:=⟨3⟩) _ J (cv (k:=i+k)) J<|aj 143 (.d (.v (.int .u64 (c1%4294967296:Nat)))) J (congrArg (fun z:Nat=>FX.d (.v (.int .u64 (z:Int)))) (YG c1 (by omega)))<|gx (fu:=⟨0⟩) J<|sd (fu:=⟨1⟩) (IntKind.u64.wrap (((ws.getD (i+k) 0:Nat):Int)-((c1%4294967296:Nat):Int))) J J J<|sd (fu:=⟨11⟩) ((xx:Nat):Int) J (by rw[hxx];exact CG _ _ _ hwg hc1m hbo) J<|aj 152 (.d (dU (xx%4294967296))) J (by show FX.d (.v (.int _ _))= .d (.v (.int _ _));congr 3)<|gx J<|sb (fu:=⟨6⟩) (hv:=by simp only[ak];exact(by decide)) _ ((ws.set (i+k) (xx%4294967296)).map dU) J (cv (k:=i+k)) J (by(rw[show((i:Int)+k).toNat=i+k by omega,<-je])<;>rfl) J<|aj 155 (.d (.v (.int .u64 (xx/9223372036854775808:Nat)))) J (by rw[Id])<|gx (fu:=⟨6⟩) (hv:=by simp only[ak];exact(by decide)) J<|aj 157 (.d (.v (.int .u64 (c1/4294967296:Nat)))) J (by rw[oy])<|gx J<|at_ ⟨ws.set (i+k) (xx%4294967296),k+1,xx/9223372036854775808,c1/4294967296⟩ (by dsimp only;exact⟨⟨by simpa using hwl,hwo.set _ (dK _ (by decide)),by omega,hx2,by omega,C7 hwo (dK _ (by decide)) hwM,Wg (by omega) hw hc1 hx1⟩,(by omega)⟩)
   .
    obtain rfl:k=n+2:=by omega
    rw[cZ (by omega),<-hV] at hw;have hwg:=hwo.get (i+n+2);obtain⟨hx1,hx2,hx3⟩:=RJ (ws.getD (i+n+2) 0) c bo hwg hc4 hbo;obtain⟨xx,hxx⟩: ∃x,x=rP (ws.getD (i+n+2) 0) c bo:=⟨_,rfl⟩;rw[<-hxx] at hx1 hx2 hx3;have hwm:=bI ws;obtain⟨ws2,hws2⟩: ∃z,z=ws.set (i+n+2) (xx%4294967296):=⟨_,rfl⟩;have hl2:=Te (vz ws (i+n+2) (xx%4294967296) (by omega)) hw hx1;rw[<-vf,<-hws2] at hl2;have hM2:=C7 (i:=i+n+2) (d:=xx%4294967296) hwo (dK _ (by decide)) hwM;have ho2:=hwo.set (i+n+2) (d:=xx%4294967296) (dK _ (by decide));have hn2:ws2.length=(dg a).length+1:=by rw[hws2,aN];exact hwl
    rw[<-hws2] at hM2 ho2;replace hl2:dv ws2+g*V=dv us+xx/9223372036854775808*4294967296^(i+n+3):=hl2;have hqi:=hq0 i (by omega);obtain⟨q2,hq2⟩: ∃z,z=qs.set i g:=⟨_,rfl⟩;have hq2l:q2.length=l:=by rw[hq2,aN];exact hql
    have hq2m:=bI q2;have hwm2:=bI ws2;refine lb (fu:=⟨2⟩) _ J (cv (k:=i+n+2)) J<|sd (fu:=⟨1⟩) (IntKind.u64.wrap (((ws.getD (i+n+2) 0:Nat):Int)-((c:Nat):Int))) J J J<|sd (fu:=⟨11⟩) ((xx:Nat):Int) J (by rw[hxx];exact CG _ _ _ hwg hc4 hbo) J<|aj 175 (.d (dU (xx%4294967296))) J (by show FX.d (.v (.int _ _))= .d (.v (.int _ _));congr 3)<|gx J<|sb (fu:=⟨8⟩) _ (ws2.map dU) J (cv (k:=i+n+2)) J (by(rw[hws2,show((i:Int)+((n+2:Nat):Int)).toNat=i+n+2 by omega,<-je])<;>rfl) J<|aj 180 (.d (dU g)) J (by show FX.d (.v (.int _ _))= .d (.v (.int _ _));congr 3;omega)<|gx J<|sb (fu:=⟨7⟩) (hv:=by simp only[ak];exact(by decide)) _ (q2.map dU) J (eo) J (by rw[hq2,<-je];rfl) J<|aj 183 (.d (.v (.int .u64 (xx/9223372036854775808:Nat)))) J (by rw[Id])<|gx J<|br J J J (fun hc184=>?_) (fun hc184=>?_)
    .
     have ht0:xx/9223372036854775808=0:=by omega
     rw[ht0,kX,gX] at hl2;exact at_ ⟨ws2,q2,i⟩ (by dsimp only;exact⟨⟨hn2,ho2,hq2l,by rw[hq2];exact hqo.set _ hgB,by omega,by rw[hq2];exact Pj hq0,by rw[hq2];exact L' (by omega) hqi hinv hV hl2,by rw[<-hV];exact VH hlo hl2⟩,(by omega)⟩)
    .
     have ht1:xx/9223372036854775808=1:=by omega
     rw[ht1,mR] at hl2;obtain⟨g',rfl⟩: ∃g',g=g'+1:=⟨g-1,by rcases fU g with h|h;(rw[h,kX] at hl2;omega);omega⟩;have hqs:q2.getD i 0=g'+1:=by rw[hq2];exact A4 (by omega)
     refine lb (fu:=⟨0⟩) _ J (eo) J<|aj 188 (.d (dU (g'+1))) J (by first|rw[hqs]|(simp only[cK];rw[hqs]))<|gx (fu:=⟨0⟩) J<|sw ((g':Nat):Int) J (by omega) J<|sb (fu:=⟨12⟩) _ ((qs.set i g').map dU) J (eo) J (by simp only[cK,hq2,jR,List.set_set]<;>rfl) J<|aj 192 (.d (vI (n+2:Nat))) J (by rw[hvm,hvl]<;>rfl)<|gx J<|lp (X:=List Nat×Nat×Nat) (fun⟨wa,k,ca⟩=>[(193, .d (vI (k:Nat))),(18, .d (.v (.int .u64 (ca:Nat))))]) (fun⟨wa,k,ca⟩=>[(41,some (.b 225 1 (wa.map dU) true))]) (fun⟨wa,k,ca⟩=>wa.length=(dg a).length+1/\bB wa/\k<=n+2/\ca<=1/\dv wa<4294967296^(i+n+3)/\dv wa+ca*4294967296^(i+k)=dv ws2+dv (vs.take k)*4294967296^i) (fun⟨wa,k,ca⟩=>n+2-k) ⟨ws2,0,0⟩ J ⟨hn2,ho2,bJ _,bJ _,hM2,by simp[dv]⟩ (fun _=>J) (fun⟨wa,k,ca⟩ hk=>?_)
     try dsimp only at hk⊢
     obtain⟨hal2,hao,hk2,hac,haM,ha⟩:=hk;refine br J J J (fun hc194=>?_) (fun hc194=>?_)
     .
      have hvk:=hvo.get k;have hag:=hao.get (i+k);obtain⟨t,ht⟩: ∃t,t=ca+(wa.getD (i+k) 0+vs.getD k 0):=⟨_,rfl⟩;have ham:=bI wa;refine lb _ J (eo) J<|lb (fu:=⟨5⟩) _ J (cv (k:=i+k)) J<|aj 209 (.d (.v (.int .u64 (t:Nat)))) J (by show FX.d (.v (.int _ _))= .d (.v (.int _ _));congr 3;omega)<|gx (fu:=⟨11⟩) J<|aj 215 (.d (dU (t%4294967296))) J (by show FX.d (.v (.int _ _))= .d (.v (.int _ _));congr 3)<|gx J<|sb (fu:=⟨5⟩) (hv:=by simp only[ak];exact(by decide)) _ ((wa.set (i+k) (t%4294967296)).map dU) J (cv (k:=i+k)) J (by(rw[show((i:Int)+k).toNat=i+k by omega,<-je])<;>rfl) J<|aj 218 (.d (.v (.int .u64 (t/4294967296:Nat)))) J (by rw[oy])<|gx J<|at_ ⟨wa.set (i+k) (t%4294967296),k+1,t/4294967296⟩ (by dsimp only;exact⟨⟨by simpa using hal2,hao.set _ (dK _ (by decide)),by omega,by omega,C7 hao (dK _ (by decide)) haM,by rw[ht];exact aCF (by omega) ha⟩,(by omega)⟩)
     .
      obtain rfl:k=n+2:=by omega
      rw[cZ (by omega),<-hV] at ha;have hag:=hao.get (i+n+2);have ham:=bI wa;have hl4:=aBu (vz wa (i+n+2) ((wa.getD (i+n+2) 0+ca)%4294967296) (by omega)) ha;rw[<-vf] at hl4;have hM4:=C7 (i:=i+n+2) (d:=(wa.getD (i+n+2) 0+ca)%4294967296) hao (dK _ (by decide)) haM;obtain⟨hR1,hR2⟩:=Xm hhi hl2 hl4 hM2 hM4 (by omega) (Nat.succ_pos _);refine lb (fu:=⟨2⟩) _ J (cv (k:=i+n+2)) J<|aj 227 (.d (dU ca)) J (by show FX.d (.v (.int _ _))= .d (.v (.int _ _));congr 3;omega)<|gx (fu:=⟨0⟩) J<|aw (((wa.getD (i+n+2) 0+ca)%4294967296:Nat):Int) J (by rw[s6];omega) J<|sb _ ((wa.set (i+n+2) ((wa.getD (i+n+2) 0+ca)%4294967296)).map dU) J (cv (k:=i+n+2)) J (by(rw[show((i:Int)+((n+2:Nat):Int)).toNat=i+n+2 by omega,<-je])<;>rfl) J<|at_ ⟨wa.set (i+n+2) ((wa.getD (i+n+2) 0+ca)%4294967296),qs.set i g',i⟩ (by dsimp only;exact⟨⟨by simpa using hal2,hao.set _ (dK _ (by decide)),by simpa using hql,hqo.set _ (by omega),by omega,Pj hq0,L' (by omega) hqi hinv hV hR1,by rw[<-hV];exact hR2⟩,(by omega)⟩)
 .
  refine pO 63 J<|pO 41 J ?_;obtain rfl:j=0:=by omega
  obtain⟨e1,e2⟩:=Zx hps hvv hV0' hvB hinv hlt;refine gx J<|cl J (sk (ds:=qs)) J<|km (fu:=⟨0⟩) 0 (n+2) _ J J J J (ra _) (by omega) (by simp;omega) J<|aj 234 (.d (dk (us.take (n+2)))) J (by first|rfl|(show FX.d (.sl _)=FX.d (.sl _);simp))<|gx J<|cl J (U7 (ds:=us.take (n+2)) (huo.take _) (by simp;omega) hs32) J<|rz J (by show DV.tp [dk _,dN _]= .tp [dN _,dN _];rw[k8 hqo e1,e2])
def DM{a b:Nat}[h:BN a i][k:BN b j](hb:0<b)(hi:i<=1000000000:=by decide)(hj:j<=1000000000:=by decide):PF GB prog 190 [dN a,dN b] (.tp [dN (a/b),dN (a%b),vB true]):=by
 have hla:=bI (dg a);have hba:=iE (a:=a) hi;have hlb:=bI (dg b);have hbb:=iE (a:=b) hj;have hb0:(dg b).length≠0:=fun e=>by have:=AA e;omega
 have hcn:=zq (a:=a) (b:=b);have hd0:=dt b 0;refine fn func190 J J ntmps190 J J (fun C=>?_);refine cl J (og) J<|cl (fu:=⟨10⟩) J (og) J<|aj 17 (.d (vI ((dg b).length:Nat))) J (by rw[hlb]<;>rfl)<|gx (fu:=⟨0⟩) J<|cF J (by show some (decide _)=some false;rw[decide_eq_false (by omega)]) J<|cl J (Qc (a:=a) (b:=b) hi hj) J<|br (fu2:=⟨4⟩) J J J (fun hc19=>?_) (fun hc19=>?_)
 .
  refine cl J (PJ (ds:=dg a) (f9 _)) J<|rz J (by have hlt:=hcn.1 (by omega);rw[mZ hlt,jN hlt,lO];rfl)
 .
  refine aj 28 (.d (vI ((dg b).length:Nat))) J (by rw[hlb]<;>rfl)<|gx J<|br J J J (fun hc26=>?_) (fun hc26=>?_)
  .
   have h1:(dg b).length=1:=by omega
   have e1:=uS h1;have hmd:=dK a (show 0<(dg b).getD 0 0 by omega);refine ix _ J (cv (k:=0) J (by omega)) J<|cl J (aAz (a:=a) (d:=(dg b).getD 0 0) (by omega) (by omega) hi) J<|cl J (AF (a:=a%(dg b).getD 0 0) (by have:=dK a (show 0<(dg b).getD 0 0 by omega);omega)) J<|rz J (by rw[e1];rfl)
  .
   refine cl J (aDX (a:=a) (b:=b) (by omega) (by omega) hi hj) J<|rz J J
def PL{a:Nat}(h:(dg a).length<=2:=by omega):a<18446744073709551616:=by
 have h1:=rg a;have h2:(4294967296:Nat)^(dg a).length<=4294967296^2:=bR (by decide) h;omega
def FL{a b:Nat}[h:BN a i][k:BN b j](hi:i<=1000000000:=by decide)(hj:j<=1000000000:=by decide):PF GB prog 189 [dN a,dN b] (dN (Nat.gcd a b)):=by
 obtain⟨m,hm⟩: ∃m,m=max i j:=⟨_,rfl⟩;have e0: ∀k',k'<=m->(2:Nat)^k'<=2^m:=fun k' h=>bR (by decide) h;have ha9:a<2^m:=dZ h.h (e0 i (by omega));have hb9:b<2^m:=dZ k.h (e0 j (by omega));refine fn func189 J J ntmps189 J J (fun C=>?_);refine cl J (ux (a:=a) (i:=i) (by omega)) J<|cl J (ux (a:=b) (i:=j) (by omega)) J<|lp (fu:=⟨5⟩) (X:=Nat×Nat) (fun⟨A,B⟩=>[(0, .d (dN A)),(1, .d (dN B))]) (fun⟨A,B⟩=>[]) (fun⟨A,B⟩=>Nat.gcd A B=Nat.gcd a b/\A<2^m/\B<2^m) (fun⟨A,B⟩=>B) ⟨a,b⟩ J ⟨J,ha9,hb9⟩ (fun _=>J) (fun⟨A,B⟩ hk=>?_)
 try dsimp only at hk⊢
 obtain⟨hg,hA,hB⟩:=hk;haveI:BN A m:=⟨hA⟩;haveI:BN B m:=⟨hB⟩;have hlA:=bI (dg A);have hlB:=bI (dg B);have hbA:=iE (a:=A) (i:=m);have hbB:=iE (a:=B) (i:=m);refine aj 17 (.d (vI ((dg A).length:Nat))) J (by rw[hlA]<;>rfl)<|gx J<|cs (fu1:=⟨15⟩) (fu2:=⟨2⟩) 19 J J J (fun hg19=>?_) (fun hg19=>?_)
 .
  refine aj 25 (.d (vI ((dg B).length:Nat))) J (by rw[hlB]<;>rfl)<|gx J<|br J J J (fun hc26=>?_) (fun hc26=>?_)
  .
   exact rz J (by have hB0:B=0:=AA;rw[hB0,nZ] at hg;rw[<-hg];rfl)
  .
   have hBp:0<B:=iK fun e=>hc26 (by rw[e,tU];rfl);refine cl J (DM (a:=A) (b:=B) (i:=m) (j:=m) hBp (by omega) (by omega)) J<|at_ ⟨B,A%B⟩ (by dsimp only;exact⟨⟨by rw[<-hg,jX B,<-tV,jX],hB,tZ (dK _ hBp) hB⟩,(dK _ hBp)⟩)
 .
  refine aj 21 (.d (vI ((dg B).length:Nat))) J (by rw[hlB]<;>rfl)<|gx J<|br (fu1:=⟨8⟩) J J J (fun hc23=>?_) (fun hc23=>?_)
  .
   refine aj 25 (.d (vI ((dg B).length:Nat))) J (by rw[hlB]<;>rfl)<|gx J<|br J J J (fun hc26=>?_) (fun hc26=>?_)
   .
    exact rz J (by have hB0:B=0:=AA;rw[hB0,nZ] at hg;rw[<-hg];rfl)
   .
    have hBp:0<B:=iK fun e=>hc26 (by rw[e,tU];rfl);refine cl J (DM (a:=A) (b:=B) (i:=m) (j:=m) hBp (by omega) (by omega)) J<|at_ ⟨B,A%B⟩ (by dsimp only;exact⟨⟨by rw[<-hg,jX B,<-tV,jX],hB,tZ (dK _ hBp) hB⟩,(dK _ hBp)⟩)
  .
   have hA2:=PL (a:=A);have hB2:=PL (a:=B);refine cl J (AJ (a:=A) hA2) J<|cl J (AJ (a:=B) hB2) J<|lp (X:=Nat×Nat) (fun⟨u,v⟩=>[(8, .d (.v (.int .u64 (u:Nat)))),(10, .d (.v (.int .u64 (v:Nat))))]) (fun⟨u,v⟩=>[]) (fun⟨u,v⟩=>Nat.gcd u v=Nat.gcd a b/\u<18446744073709551616/\v<18446744073709551616) (fun⟨u,v⟩=>v) ⟨A,B⟩ J ⟨hg,hA2,hB2⟩ (fun _=>J) (fun⟨u,v⟩ hk=>?_)
   try dsimp only at hk⊢
   obtain⟨hg2,hu,hv⟩:=hk;refine br (fu1:=⟨8⟩) J J J (fun hc48=>?_) (fun hc48=>?_)
   .
    refine aj 52 (.d (.v (.int .u64 (u%v:Nat)))) J (by show FX.d (.v (.int _ _))= .d (.v (.int _ _));first|rfl|congr 3)<|gx J<|at_ ⟨v,u%v⟩ (by dsimp only;exact⟨⟨by rw[<-hg2,jX v,<-tV,jX],hv,tZ (dK _ (by omega)) hv⟩,(dK _ (by omega))⟩)
   .
    obtain rfl:v=0:=by omega
    rw[nZ] at hg2;refine cl J (AF (a:=u) hu) J<|rz J (by rw[hg2];rfl)

def Iw{x:Nat}:bl x=0↔x=0:=by
 have:= @n9 x 0;simp at this;omega
def tO{a:Nat}:0<(dg a).length↔0<a:=by
 have:= @uc a;omega
def eS(neg:Bool)(a:Nat):DV:= .ag [.v (.bool neg),dN a]
def CF(neg:Bool)(a:Nat):eI (zv neg a)= .ag [.v (.bool (neg&&decide (0<a))),dN a]:=by unfold eI;rw[qF,Nb]
def aAJ{b:Int}(h:n≠decide (b<0))(hle:b.natAbs<=u):zv n (u-b.natAbs)=zv n u+b:=by cases n<;>simp[zv] at* <;>omega
def aAL{b:Int}(h:n≠decide (b<0))(hle:u<=b.natAbs):zv (decide (b<0)) (b.natAbs-u)=zv n u+b:=by cases n<;>simp[zv] at* <;>(try rw[if_pos h])<;>(try rw[if_neg (by omega)])<;>omega
def YO(hd:bB ds)(hl:ds.length<=1125899906842624):PF GB prog 264 [.ag [.v (.bool neg),dk ds]] (vB (decide (ew ds/\(neg=true->0<ds.length)))):=by
 refine fn func264 J J ntmps264 J J (fun C=>?_);refine cl J (L8 hd hl) J<|csd 6 J J J (fun hg6=>?_) (fun hg6=>?_)
 .
  refine iq 10 J J J (fun hg10=>?_) (fun hg10=>?_)
  .
   exact rz J (by unfold vB;congr 2;simp_all [eO])
  .
   exact rz J (by unfold vB;congr 2;simp_all [eO])
 .
  exact rz J (by unfold vB;congr 2;simp_all [eO])
def Ou{a:Nat}[h:BN a i](hi:i<=1000000000:=by decide):PF GB prog 188 [eS n a] (vI (zv n a).sign):=by
 refine fn func188 J J ntmps188 J J (fun C=>?_);refine cl J (ur (a:=a) hi) J<|br J J J (fun hc3=>?_) (fun hc3=>?_)
 .
  exact rz J (by have:=Iw.1 (Int.ofNat.inj hc3);subst this;cases n<;>rfl)
 .
  refine bb J J J (fun hc8=>?_) (fun hc8=>?_)
  .
   exact rz J (by subst hc8;rw[dS (by have:a≠0:=(fun e=>hc3 (by rw[e];rfl));simp[zv];omega)];rfl)
  .
   exact rz J (by subst hc8;rw[fY (by have:a≠0:=(fun e=>hc3 (by rw[e];rfl));simp[zv];omega)];rfl)
def H'(h0: -9223372036854775808<=m:=by omega)(h1:m<=9223372036854775807:=by omega):PF GB prog 177 [vI m] (eI m):=by
 refine fn (fu:=⟨8⟩) func177 J J ntmps177 J J (fun C=>?_);refine cu ((m%18446744073709551616:Int)) J (q7 _) J<|br (fu1:=⟨2⟩) (fu2:=⟨0⟩) J J J (fun hc7=>?_) (fun hc7=>?_)
 .
  refine nu ((m.natAbs:Nat)) J (by rw[q7];omega) J<|cl J (AF (a:=m.natAbs)) J<|rz J J
 .
  refine aj 3 (.d (.v (.int .u64 (m.natAbs:Nat)))) J (by congr 3;omega)<|gx J<|cl J (AF (a:=m.natAbs)) J<|rz J J
def MA{a:Nat}(h:a<4611686018427387904):PF GB prog 191 [eS n a] (.tp [vI (zv n a),vB true]):=by
 refine fn func191 J J ntmps191 J J (fun C=>?_);refine cl (fu:=⟨2⟩) J (AJ (a:=a) (by omega)) J<|dm J J J<|iq 18 J J J (fun hg18=>?_) (fun hg18=>?_)
 .
  refine br (fu1:=⟨3⟩) J J J (fun hc12=>?_) (fun hc12=>?_)
  .
   refine nu (fu:=⟨0⟩) (((18446744073709551616-a)%18446744073709551616:Int)) J (by rw[q7];omega) J<|cu (zv n a) J (by subst hg18;rw[JV];simp only[zv,if_true];omega) J<|rz J J
  .
   exact absurd (by omega) hc12
 .
  refine iq 32 J J J (fun hg32=>?_) (fun hg32=>?_)
  .
   refine br J J J (fun hc25=>?_) (fun hc25=>?_)
   .
    exact rz J (by subst hg18;rfl)
   .
    exact absurd (by omega) hc25
  .
   subst hg18;cases hg32
def xf{a:Nat}[h:BN a i](hi:i<=1000000000:=by decide):PF GB prog 184 [eS neg a] (eI (zv neg a)):=by
 refine fn func184 J J ntmps184 J J (fun C=>?_);refine cl J (ux hi) J<|iq 9 J J J (fun hg9=>?_) (fun hg9=>?_)
 .
  exact rz J (by rw[CF];simp[hg9,tO,eO])
 .
  exact rz J (by rw[CF];simp[hg9,tO,eO])
def Eq{a:Nat}:PF GB prog 181 [.v (.bool neg),dN a] (eI (zv neg a)):=by
 refine fn func181 J J ntmps181 J J (fun C=>?_);refine iq 6 J J J (fun hg6=>?_) (fun hg6=>?_)
 .
  exact rz J (by rw[CF];simp[hg6,tO,eO])
 .
  exact rz J (by rw[CF];simp[hg6,tO,eO])
def aFu[h:BI m i](hi:i<=1000000000:=by decide):PF GB prog 279 [eI m] (eI (-m)):=by
 refine fn func279 J J ntmps279 J J (fun C=>?_);refine cl J (xf (neg:=!decide (m<0)) (a:=m.natAbs) hi) J<|rz J (by rw[Zu,lD];rfl)
def H6{a b:Int}[h:BI a i][k:BI b j](hi:i<=1000000000:=by decide)(hj:j<=1000000000:=by decide):PF GB prog 109 [eI a,eI b] (eI (a*b)):=by
 refine fn func109 J J ntmps109 J J (fun C=>?_);refine cl J (yf (a:=a.natAbs) (b:=b.natAbs) hi hj) J<|cl J Eq J<|rz J (by rw[show(!(decide (a<0)==decide (b<0)))=(decide (a<0) !=decide (b<0)) from J,Nx,lD,lD];rfl)
def WC{b:Int}[h:BN u i][k:BI b j](hi:i<=1000000000:=by decide)(hj:j<=1000000000:=by decide):PF GB prog 108 [eS n1 u,eI b] (eI (zv n1 u+b)):=by
 refine fn func108 J J ntmps108 J J (fun C=>?_);refine bb J J J (fun hc13=>?_) (fun hc13=>?_)
 .
  refine cl J (XM (b:=b.natAbs) hi hj) J<|cl J Eq J<|rz J (by rw[YR,show n1=decide (b<0) from by simpa using hc13,lD];rfl)
 .
  refine cl J (Q3 (b:=b.natAbs) hi hj) J<|bd J J J (fun hc30=>?_) (fun hc30=>?_)
  .
   refine cl J Eq J<|rz J (by rw[aAJ (by simpa using hc13) hc30];rfl)
  .
   refine cl J (Q3 (a:=b.natAbs) hj hi) J<|cl J Eq J<|rz J (by rw[aAL (by simpa using hc13) (by omega)];rfl)
def Vo{a b:Int}[h:BI a i][k:BI b j](hi:i<=1000000000:=by decide)(hj:j<=1000000000:=by decide):PF GB prog 108 [eI a,eI b] (eI (a+b)):=(WC (n1:=decide (a<0)) (u:=a.natAbs) hi hj).to (by rw[lD])
def gj(q:Rat):Prop:= ¬(q.num.natAbs<4611686018427387904/\q.den<4611686018427387904)
instance (q:Rat):Decidable (gj q):=inferInstanceAs (Decidable (¬_))
def di(q:Rat):Int:=if gj q then 0 else q.num
def dh(q:Rat):Int:=if gj q then 0 else(q.den:Int)-1
def c9(q:Rat):DV:= .op (decide (gj q)) [.v (.bool (decide (q.num<0))),dN q.num.natAbs,dN q.den]
def eF(q:Rat):DV:= .ag [vI (di q),vI (dh q),c9 q]
abbrev Y7 {q:Rat} (h:decide (gj q)=true):gj q:=of_decide_eq_true h
abbrev s9 {q:Rat} (h:decide (gj q)=false): ¬gj q:=of_decide_eq_false h
abbrev Z9 {q:Rat} (h: ¬decide (gj q)=false):gj q:=by simpa using h
abbrev ng {q:Rat} (h: ¬decide (gj q)=true): ¬gj q:=by simpa using h
def ml(h: ¬gj q):di q=q.num:=if_neg h
def oh(h: ¬gj q):dh q=(q.den:Int)-1:=if_neg h
def pf(h: ¬gj q):q.num.natAbs<4611686018427387904:=(Decidable.not_not.1 h).1
def pD(h: ¬gj q):q.den<4611686018427387904:=(Decidable.not_not.1 h).2
def Fd(h:gj q):q≠0:=fun e=>by subst e;exact h ⟨by decide,by decide⟩
def ru{d:Int}{r:DV}(h: ¬gj q)(h1:q.num=m)(h2:(q.den:Int)-1=d)(e:r= .ag [vI m,vI d, .v (.pointer none)])(G:Gh)(y:Value)(k:Is G r y):Is G (eF q) y:=by
 subst e h1 h2;obtain⟨l,rfl,g⟩:=d9.1 k;obtain⟨y1,l1,rfl,k1,g1⟩:=bi.1 g;obtain⟨y2,l2,rfl,k2,g2⟩:=bi.1 g1;obtain⟨y3,l3,rfl,k3,g3⟩:=bi.1 g2;exact d9.2 ⟨_,J, .cons (by rw[ml h];exact k1) (.cons (by rw[oh h];exact k2) (.cons (s7.2 (.inl ⟨decide_eq_false h,aH.1 k3⟩)) g3))⟩
def Rt{a:Nat}{r:DV}(h:gj q)(h1:decide (q.num<0)=n)(h2:q.num.natAbs=a)(h3:q.den=d)(e:r= .ag [vI 0,vI 0, .pt [.v (.bool n),dN a,dN d]])(G:Gh)(y:Value)(k:Is G r y):Is G (eF q) y:=by
 subst e h1 h2 h3;obtain⟨l,rfl,g⟩:=d9.1 k;obtain⟨y1,l1,rfl,k1,g1⟩:=bi.1 g;obtain⟨y2,l2,rfl,k2,g2⟩:=bi.1 g1;obtain⟨y3,l3,rfl,k3,g3⟩:=bi.1 g2;exact d9.2 ⟨_,J, .cons (by unfold di;rw[if_pos h];exact k1) (.cons (by unfold dh;rw[if_pos h];exact k2) (.cons (s7.2 (.inr ⟨decide_eq_true h,k3⟩)) g3))⟩
def E1(G:Gh)(y:Value)(k:Is G (.ag [vI 0,vI 0, .v (.pointer none)]) y):Is G (eF 0) y:=ru (fun h=>Fd h J) J J J G y k
def L6(h:m.natAbs<4611686018427387904)(G:Gh)(y:Value)(k:Is G (.ag [vI m,vI 0, .v (.pointer none)]) y):Is G (eF (m:Rat)) y:=
 ru (fun k=>k ⟨by simpa using h,by rw[nU];decide⟩) (nY m) (by rw[nU];rfl) J G y k
def Nc{a:Nat}(hd:0<d):(mkRat (zv n a) d).num=zv n (a/Nat.gcd a d)/\(mkRat (zv n a) d).den=d/Nat.gcd a d:=by
 obtain⟨h1,h2⟩:=Px (m:=zv n a) hd;rw[qF] at h1 h2;exact⟨by rw[h1,Zo (kR _ _)],h2⟩
def OQ{a:Nat}(hd:0<d)(ha:a'=a/Nat.gcd a d)(hd':d'=d/Nat.gcd a d)(h1:a'<4611686018427387904)(h2:d'<4611686018427387904)(G:Gh)(y:Value)(k:Is G (.ag [vI (zv n a'),vI ((d':Int)-1), .v (.pointer none)]) y):Is G (eF (mkRat (zv n a) d)) y:=by
 obtain⟨e1,e2⟩:=Nc (n:=n) (a:=a) hd;rw[<-ha] at e1;rw[<-hd'] at e2;exact ru (fun k=>k ⟨by rw[e1,qF];exact h1,by rw[e2];exact h2⟩) e1 (by rw[e2]) J G y k
def C8{a:Nat}(hd:0<d)(ha:a'=a/Nat.gcd a d)(hd':d'=d/Nat.gcd a d)(h: ¬(a'<4611686018427387904/\d'<4611686018427387904))(G:Gh)(y:Value)(k:Is G (.ag [vI 0,vI 0, .pt [.v (.bool (decide (zv n a'<0))),dN (zv n a').natAbs,dN d']]) y):Is G (eF (mkRat (zv n a) d)) y:=by
 obtain⟨e1,e2⟩:=Nc (n:=n) (a:=a) hd;rw[<-ha] at e1;rw[<-hd'] at e2;exact Rt (fun k=>h ⟨by rw[e1,qF] at k;exact k.1,by rw[e2] at k;exact k.2⟩) (by rw[e1]) (by rw[e1]) e2 J G y k
def aIl{a:Nat}(hd:0<d)(h: ¬(1:Int)<(bl (Nat.gcd a d):Nat)):Nat.gcd a d=1:=by
 have h1:Nat.gcd a d≠0:=fun e=>by rw[Nat.gcd_eq_zero_iff] at e;omega
 have h2:Nat.gcd a d<2^1:=n9.1 (by omega);omega
def mr{x:Nat}:(((bl x:Nat):Int)<=62)↔x<4611686018427387904:=VL
def PF.ofI{f:FuncId}{ds ds':List DV}{r:DV}(h:PF GB P f ds r)(k: ∀G vs,IsLs G ds' vs->IsLs G ds vs):PF GB P f ds' r:=fun G vs hg hv=>h G vs hg (k G vs hv)
def tC{a:Nat}[h:BN a i][k:BN d j](hi:i<=450000000:=by decide)(hj:j<=450000000:=by decide):PF GB prog 112 [eS n a,dN d] (eF (mkRat (zv n a) d)):=by
 refine fn func112 J J ntmps112 J J (fun C=>?_);refine cl J (ur (a:=d) (by omega)) J<|cs 13 J J J (fun hg13=>?_) (fun hg13=>?_)
 .
  exact jh rfl (by obtain rfl:=Iw.1 (Int.ofNat.inj hg13);rw[Rat.mkRat_zero];exact E1)
 .
  have hd0:0<d:=by have:= @Iw d;omega
  have hg0:0<Nat.gcd a d:=qV _ hd0;refine cl J (Ou (n:=n) (a:=a) (by omega)) J<|br J J J (fun hc17=>?_) (fun hc17=>?_)
  .
   exact jh J (by rw[gS.1 hc17,Rat.zero_mkRat];exact E1)
  .
   refine cl J (FL (a:=a) (b:=d) (by omega) (by omega)) J<|cl J (ur (a:=Nat.gcd a d) (i:=i+j) (by omega)) J<|br J J J (fun hc25=>?_) (fun hc25=>?_)
   .
    obtain⟨a',ea⟩: ∃a',a'=a/Nat.gcd a d:=⟨_,rfl⟩;obtain⟨d',ed⟩: ∃d',d'=d/Nat.gcd a d:=⟨_,rfl⟩;have hba:BN a' i:=ea▸inferInstance;have hbd:BN d' j:=ed▸inferInstance;refine cl (fu:=⟨2⟩) J (DM (a:=a) (b:=Nat.gcd a d) (j:=i+j) hg0 (by omega) (by omega)) J<|aj 31 (.d (dN a')) J (by rw[ea])<|gx J<|cl (fu:=⟨2⟩) J (DM (a:=d) (b:=Nat.gcd a d) (j:=i+j) hg0 (by omega) (by omega)) J<|aj 39 (.d (dN d')) J (by rw[ed])<|gx J<|cl J (ur (h:=hba) (by omega)) J<|cs 46 J J J (fun hg46=>?_) (fun hg46=>?_)
    .
     refine cl J (ur (h:=hbd) (by omega)) J<|br J J J (fun hc50=>?_) (fun hc50=>?_)
     .
      have hs2:=mr.1 hc50;refine cl J (MA (mr.1 hg46)) J<|cl J (AJ (by have:=mr.1 hc50;omega)) J<|jh J (OQ hd0 ea ed (mr.1 hg46) (mr.1 hc50))
     .
      refine cl J (xf (neg:=n) (h:=hba) (by omega)) J<|cl J (ux (h:=hbd) (by omega)) J<|fz 71 J J<|jh J (C8 hd0 ea ed (fun e=>hc50 (mr.2 e.2)))
    .
     refine cl J (xf (neg:=n) (h:=hba) (by omega)) J<|cl J (ux (h:=hbd) (by omega)) J<|fz 71 J J<|jh J (C8 hd0 ea ed (fun e=>hg46 (mr.2 e.1)))
   .
    have hg1:=aIl hd0 hc25;have ea:a=a/Nat.gcd a d:=by rw[hg1,tW]
    have ed:d=d/Nat.gcd a d:=by rw[hg1,tW]
    have hba:=h;have hbd:=k;refine cl J (ur (h:=hba) (by omega)) J<|cs 46 J J J (fun hg46=>?_) (fun hg46=>?_)
    .
     refine cl J (ur (h:=hbd) (by omega)) J<|br J J J (fun hc50=>?_) (fun hc50=>?_)
     .
      have hs2:=mr.1 hc50;refine cl J (MA (mr.1 hg46)) J<|cl J (AJ (by have:=mr.1 hc50;omega)) J<|jh J (OQ hd0 ea ed (mr.1 hg46) (mr.1 hc50))
     .
      refine cl J (xf (neg:=n) (h:=hba) (by omega)) J<|cl J (ux (h:=hbd) (by omega)) J<|fz 71 J J<|jh J (C8 hd0 ea ed (fun e=>hc50 (mr.2 e.2)))
    .
     refine cl J (xf (neg:=n) (h:=hba) (by omega)) J<|cl J (ux (h:=hbd) (by omega)) J<|fz 71 J J<|jh J (C8 hd0 ea ed (fun e=>hg46 (mr.2 e.1)))
def JA[h:BI m i](hi:i<=400000000:=by decide):PF GB prog 265 [eI m] (eF (m:Rat)):=by
 refine fn func265 J J ntmps265 J J (fun C=>?_);refine rf (fu:=⟨0⟩) J J<|aj 4 (.d (dN 1)) J (by unfold dN;rw[At];rfl)<|gx J<|cl J (tC (n:=decide (m<0)) (a:=m.natAbs) (d:=1) (by omega)) J<|rz J (by rw[lD,show mkRat m 1=(m:Rat) from sJ ..];rfl)
def BH:PF GB prog 266 [eF q] (vB (decide (q=0))):=by
 refine fn func266 J J ntmps266 J J (fun C=>?_);refine cs 6 J J J (fun hg6=>?_) (fun hg6=>?_)
 .
  exact rz J (by rw[ml (s9 hg6)];show DV.v (.bool (decide _))= .v (.bool _);congr 2;exact decide_eq_decide.2 ⟨fun e=>lL.1 e,fun e=>by rw[e];rfl⟩)
 .
  exact rz J (by rw[decide_eq_false (Fd (Z9 hg6))];rfl)
def z'(h:m.natAbs<9223372036854775808:=by omega):PF GB prog 179 [vI m] (.v (.int .u64 (m.natAbs:Nat))):=by
 refine fn func179 J J ntmps179 J J (fun C=>?_);refine br J J J (fun hc4=>?_) (fun hc4=>?_)
 .
  exact rz J (by show DV.v (.int _ _)=_;congr 2;omega)
 .
  exact rz J (by show DV.v (.int _ _)=_;congr 2;omega)
def qi[h:BQ q i](hi:i<=900000000:=by decide):PF GB prog 111 [eF q] (dN q.den):=by
 refine fn func111 J J ntmps111 J J (fun C=>?_);refine br (v1:=fun hc5=>by simp only[ak];exact hc5) (fu2:=⟨6⟩) J J J (fun hc5=>?_) (fun hc5=>?_)
 .
  refine cl J (ux (a:=q.den) (by omega)) J<|rz J J
 .
  have hd:=q.den_nz;have hs:=pD (ng hc5);refine aj 13 (.d (vI ((q.den:Int)-1))) J (by rw[oh (ng hc5)])<|gx (fu:=⟨2⟩) J<|aj 15 (.d (.v (.int .u64 (q.den:Nat)))) J (by congr 3;omega)<|gx J<|cl J (AF (a:=q.den)) J<|rz J J
def se[h:BQ q i](hi:i<=900000000:=by decide):PF GB prog 110 [eF q] (eI q.num):=by
 refine fn func110 J J ntmps110 J J (fun C=>?_);refine br (v1:=fun hc5=>by simp only[ak];exact hc5) (fu2:=⟨6⟩) J J J (fun hc5=>?_) (fun hc5=>?_)
 .
  refine cl J (xf (neg:=decide (q.num<0)) (a:=q.num.natAbs) (by omega)) J<|rz J (by rw[lD];rfl)
 .
  have hs:=pf (ng hc5);refine aj 13 (.d (vI q.num)) J (by rw[ml (ng hc5)])<|gx J<|cl J (H') J<|rz J J
def p9[h:BQ q i](hi:i<=900000000:=by decide):PF GB prog 222 [eF q] (eF (-q)):=by
 refine fn func222 J J ntmps222 J J (fun C=>?_);refine br (v1:=fun hc5=>by simp only[ak];exact hc5) (fu2:=⟨6⟩) J J J (fun hc5=>?_) (fun hc5=>?_)
 .
  refine cl (fu:=⟨6⟩) (hv:=by simp only[ak];exact hc5) J (aFu (m:=q.num) (by omega)) J<|Cd J J<|jh J (Rt (q:= -q) (fun k=>Y7 hc5 (by rw[nR,jW,sW] at k;exact k)) (by rw[nR]) (by rw[nR]) (sW q) J)
 .
  have hs:=pf (ng hc5);refine aj 21 (.d (vI q.num)) J (by rw[ml (ng hc5)])<|gx J<|jh J (ru (q:= -q) (fun k=>k (by rw[nR,jW,sW];exact⟨hs,pD (ng hc5)⟩)) (by rw[nR]) (by rw[sW,oh (ng hc5)]) J)
def ma[h:BQ q i](hi:i<=900000000:=by decide):PF GB prog 176 [eF q] (vI q.num.sign):=by
 refine fn func176 J J ntmps176 J J (fun C=>?_);refine br (v1:=fun hc3=>by simp only[ak];exact hc3) J J J (fun hc3=>?_) (fun hc3=>?_)
 .
  refine cl J (Ou (n:=decide (q.num<0)) (a:=q.num.natAbs) (by omega)) J<|rz J (by rw[lD];rfl)
 .
  have hs:=ml (ng hc3);refine br J J J (fun hc13=>?_) (fun hc13=>?_)
  .
   exact rz J (by rw[dS (by omega)];rfl)
  .
   refine br J J J (fun hc17=>?_) (fun hc17=>?_)
   .
    exact rz J (by rw[fY (by omega)];rfl)
   .
    exact rz J (by rw[show q.num=0 by omega];rfl)
def Vw{a b:Nat}(h:b<=a):(dg b).length<=(dg a).length:=BF (fK h (rg a))
def yl{a b:Nat}[ha:BN a ia][hb:BN b ib](hb0:0<b)(hi:ia<=500000000:=by decide)(hj:ib<=500000000:=by decide):PF GB prog 126 [dN a,dN b] (.tp [dN (a/b),dN (a%b)]):=by
 have hla:=bI (dg a);have hlb:=bI (dg b);have hba:=kt ha.h;have hbb:=kt hb.h;have hba':(dg a).length<=20000000:=by omega
 have hbb':(dg b).length<=20000000:=by omega
 have hlb1:1<=(dg b).length:=R5 (k:=0) (by rw[tX];exact hb0);refine fn (fu:=⟨7⟩) func126 J J ntmps126 J J (fun C=>?_);refine mg (X:=Unit) (fun _=>[(0, .d (dN a)),(1, .d (dN b))]) (fun _=>[]) (fun _=>True) [0,1] [] rfl ?_ (fun _=>J) (fun _ hm=>?_)
 .
  refine gx J<|cl J (DK (a:=a) (ia:=ia) (by omega)) J<|bd (fu1:=⟨0⟩) J J J (fun hc18=>?_) (fun hc18=>?_)
  .
   refine aj 6 (.d (.v (.int .u64 (a:Nat)))) J (by rw[if_pos hc18])<|gx J<|cl J (DK (a:=b) (ia:=ib) (by omega)) J<|bd (fu1:=⟨0⟩) J J J (fun hc24=>?_) (fun hc24=>?_)
   .
    refine aj 8 (.d (.v (.int .u64 (b:Nat)))) J (by rw[if_pos hc24]) ?_;have hdl:=mY a b;have hml:=Nat.mod_le a b;refine gx (hv:=by simp only[ak];exact⟨(by omega),(by omega),(by omega)⟩) J<|cl (hv:=by simp only[ak];exact⟨(by omega),(by omega)⟩) J (uG (u:=a/b)) J<|cl J (uG (u:=a%b)) J<|rz J J
   .
    exact at_ () trivial
  .
   exact at_ () trivial
 .
  refine cl J (x7) J<|br J J J (fun hc36=>?_) (fun hc36=>?_)
  .
   have hab:=y8.1 hc36;refine qz J J<|ap _ J J (ra _) J<|ik 39 J<|rz J (by show DV.tp [_, .sl ([]++_)]= .tp [_,_];rw[mZ hab,jN hab,lO];rfl)
  .
   have hab:b<=a:=sZ fun q=>hc36 (y8.2 q);have hlab:(dg b).length<=(dg a).length:=Vw hab;refine br (fu1:=⟨4⟩) J J J (fun hc42=>?_) (fun hc42=>?_)
   .
    have hb1:b<4294967296:=by have:=rg b;rw[show(dg b).length=1 by omega] at this;omega
    have hbd:(dg b).getD 0 0=b:=uS;refine aj 44 (.d (vI ((dg a).length:Nat))) J (by rw[hla];rfl)<|gx J<|mk (fu:=⟨13⟩) ((List.replicate (dg a).length 0).map dU) J J (by rw[<-mH];rfl) J<|aj 47 (.d (vI ((dg a).length:Nat))) J (by rw[hla];rfl)<|gx J<|lp (X:=List Nat×Nat) (fun⟨W,k⟩=>[(0, .d (dN a)),(1, .d (dN b)),(10, .rw 45),(11, .d (dU (dv ((dg a).drop k)%b))),(12, .d (vI ((k:Nat)-1)))]) (fun⟨W,k⟩=>[(45,some (.b 225 1 (W.map dU) true))]) (fun⟨W,k⟩=>W.length=(dg a).length/\bB W/\k<=(dg a).length/\dv (W.drop k)=dv ((dg a).drop k)/b) (fun⟨W,k⟩=>k) ⟨List.replicate (dg a).length 0,(dg a).length⟩ J ⟨by simp, .replicate _,bW _,by simp[dv]⟩ (fun _=>J) (fun⟨W,k⟩ hk=>?_) (hF:=(by refine⟨J,J,J,om J (by simp[dv,dU]),om J (by simp[vI]),?_⟩;repeat (first|exact trivial|refine And.intro J ?_)))
    try dsimp only at hk⊢
    obtain⟨h1,h2,h3,h4⟩:=hk;have hlw:=bI W;refine br (fu1:=⟨0⟩) J J J (fun hc50=>?_) (fun hc50=>?_)
    .
     obtain⟨k,rfl⟩: ∃j,k=j+1:=⟨k-1,by omega⟩;have hsi:=YE hb0 (by omega) h1 h4;have hrm:=dK (dv ((dg a).drop (k+1))) hb0;have hdk:=dt a k;have hqd:(dv ((dg a).drop (k+1))%b*4294967296+(dg a).getD k 0)/b<4294967296:=by rw[kZ hb0];have:=fR 4294967296 (show dv ((dg a).drop (k+1))%b+1<=b from hrm);omega
     refine aj 12 (.d (vI (k:Nat))) J (by show FX.d (.v (.int _ _))= .d (.v (.int _ _));congr 3;omega)<|gx J<|ix _ J (cv (k:=k)) J<|ix _ J (cv (k:=0) J (by omega)) J<|cl J (Yu (h:=dv ((dg a).drop (k+1))%b) (l:=(dg a).getD k 0) (y:=(dg b).getD 0 0) (by omega) hdk (by omega)) J<|sb (hv:=by simp only[ak];exact⟨by kernel_rfl,by omega⟩) _ ((W.set k ((dv ((dg a).drop (k+1))%b*4294967296+(dg a).getD k 0)/b)).map dU) J (cv (k:=k)) J (by(rw[hbd,cK,<-je])<;>rfl) J<|at_ ⟨W.set k ((dv ((dg a).drop (k+1))%b*4294967296+(dg a).getD k 0)/b),k⟩ (by dsimp only;exact⟨⟨by simpa using h1,h2.set _ hqd,by omega,hsi.1⟩,(by omega)⟩) (by refine⟨J,J,J,om J (by rw[hsi.2,hbd]),om J (by first|(simp[vI];done)|(simp[vI];omega)),?_⟩;repeat (first|exact trivial|refine And.intro J ?_))
    .
     refine fz 45 J J<|cl rfl (qe (ds:=W)) rfl<|rf J J<|cl rfl (qe (ds:=[dv ((dg a).drop k)%b]) (by simp)) rfl<|rz rfl (by show DV.tp [dk _,dk _]= .tp [_,_];obtain rfl:k=0:=(by omega);rw[iQ,iQ,c8] at h4;rw[iQ,c8];rw[k8 h2 h4,k8 (.cons (by have:=dK a hb0;omega) .nil) (n:=a%b) (by simp[dv])])
   .
    refine cl J (TL (by omega) (by omega) hlb1 hlab) J<|rz J J
def QI(x y:Nat):Nat.gcd y (x%y)=Nat.gcd x y:=by rw[jX x y,tV y x,jX]
def Aj{a b:Nat}[ha:BN a ia][hb:BN b ib](hi:ia<=240000000:=by decide)(hj:ib<=240000000:=by decide):PF GB prog 124 [dN a,dN b] (dN (Nat.gcd a b)):=by
 refine fn (fu:=⟨6⟩) func124 J J ntmps124 J J (fun C=>?_);refine mg (X:=Unit) (fun _=>[(0, .d (dN a)),(1, .d (dN b))]) (fun _=>[]) (fun _=>True) [0,1] [] rfl ?_ (fun _=>J) (fun _ hm=>?_)
 .
  refine gx J<|cl J (DK (a:=a) (ia:=ia) (by omega)) J<|bd (fu1:=⟨0⟩) J J J (fun hc16=>?_) (fun hc16=>?_)
  .
   refine aj 5 (.d (.v (.int .u64 (a:Nat)))) J (by rw[if_pos hc16])<|gx J<|cl J (DK (a:=b) (ia:=ib) (by omega)) J<|bd (fu1:=⟨0⟩) J J J (fun hc22=>?_) (fun hc22=>?_)
   .
    refine aj 7 (.d (.v (.int .u64 (b:Nat)))) J (by rw[if_pos hc22])<|gx J<|lp (X:=Nat×Nat) (fun⟨x,y⟩=>[(5, .d (.v (.int .u64 (x:Nat)))),(7, .d (.v (.int .u64 (y:Nat))))]) (fun⟨x,y⟩=>[]) (fun⟨x,y⟩=>x<18446744073709551616/\y<18446744073709551616/\Nat.gcd x y=Nat.gcd a b) (fun⟨x,y⟩=>y) ⟨a,b⟩ J ⟨hc16,hc22,J⟩ (fun _=>J) (fun⟨x,y⟩ hk=>?_)
    try dsimp only at hk⊢
    obtain⟨h1,h2,h3⟩:=hk;refine br (v1:=fun hc24=>by simp only[ak];exact⟨⟨(by omega),(by omega)⟩,by kernel_rfl⟩) J J J (fun hc24=>?_) (fun hc24=>?_)
    .
     exact at_ ⟨y,x%y⟩ (by dsimp only;exact⟨⟨h2,by have:=dK x (show 0<y by omega);omega,by rw[QI,h3]⟩,(by exact dK _ (by omega))⟩)
    .
     refine cl J (uG (u:=x) h1) J<|rz J (by show dN x=_;rw[<-h3,show y=0 by omega,nZ])
   .
    exact at_ () trivial
  .
   exact at_ () trivial
 .
  refine lp (fu:=⟨5⟩) (X:=Nat×Nat) (fun⟨x,y⟩=>[(0, .d (dN x)),(1, .d (dN y))]) (fun⟨x,y⟩=>[]) (fun⟨x,y⟩=>x<2^(ia+ib)/\y<2^(ia+ib)/\Nat.gcd x y=Nat.gcd a b) (fun⟨x,y⟩=>y) ⟨a,b⟩ J ⟨(ha.mono (by omega)).h,(hb.mono (by omega)).h,J⟩ (fun _=>J) (fun⟨x,y⟩ hk=>?_)
  try dsimp only at hk⊢
  obtain⟨h1,h2,h3⟩:=hk;have hly:=bI (dg y);haveI hx':BN x (ia+ib):=⟨h1⟩;haveI hy':BN y (ia+ib):=⟨h2⟩;refine aj 32 (.d (vI ((dg y).length:Nat))) J (by rw[hly];rfl)<|gx J<|br J J J (fun hc33=>?_) (fun hc33=>?_)
  .
   have hy0:0<y:=iK fun q=>by subst q;rw[tU] at hc33;simp at hc33
   refine cl J (yl (a:=x) (b:=y) (ia:=ia+ib) (ib:=ia+ib) hy0 (by omega) (by omega)) J<|at_ ⟨y,x%y⟩ (by dsimp only;exact⟨⟨h2,by have:=dK x hy0;omega,by rw[QI,h3]⟩,(by exact dK _ hy0)⟩)
  .
   have hy0:y=0:=uc.1 (by omega);have hlx:=kt h1;have hmx:=bI (dg x);refine qz J J<|ap _ J J (ra _) J<|ik 44 J<|rz J (by show DV.sl ([]++_)=_;rw[<-h3,hy0,nZ];rfl)
def QS(neg:Bool)(m:Nat):eI (zv neg m)= .ag [.v (.bool (neg&&decide (0<m))),dN m]:=by unfold eI;rw[qF,Nb]
def UT(z:Int):zv (!decide (z<0)) z.natAbs= -z:=by
 unfold zv;by_cases h:z<0<;>simp[h]<;>omega
def aBX(a b:Int):zv (!(decide (a<0)==decide (b<0))) (a.natAbs*b.natAbs)=a*b:=by
 have h:=Nx (decide (a<0)) (decide (b<0)) a.natAbs b.natAbs;rw[lD,lD] at h;exact h
def ks{m:Nat}:PF GB prog 56 [.v (.bool neg),dN m] (eI (zv neg m)):=by
 have hl:=bI (dg m);have hz:= @uc m;refine fn func56 J J ntmps56 J J (fun C=>?_);refine iq 6 J J J (fun hg6=>?_) (fun hg6=>?_)
 .
  exact rz J (by rw[QS,hg6];show DV.ag [.v (.bool _),_]= .ag [.v (.bool _),_];congr 4;rw[sX];exact decide_eq_decide.2 (by omega))
 .
  exact rz J (by rw[QS,hg6];rfl)
structure JP where
 lo:RV
 hi:RV
 nl:Bool
 nh:Bool
def JP.v(z:JP):Value:= .agg ⟨[.int .i64 z.lo.n, .int .i64 z.lo.d, .pointer z.lo.p, .int .i64 z.hi.n, .int .i64 z.hi.d, .pointer z.hi.p, .bool z.nl, .bool z.nh]⟩
section
variable {n:Nat}{own:List av}
variable {gd:Option (Nat×Bool)}{x:Operand}
end

structure OY where
 l:LV
 v:JP
def OY.val(z:OY):Value:= .agg ⟨[.int .i64 z.l.a.n, .int .i64 z.l.a.d, .pointer z.l.a.p, .int .i64 z.l.b.n, .int .i64 z.l.b.d, .pointer z.l.b.p, .int .i64 z.l.c.n, .int .i64 z.l.c.d, .pointer z.l.c.p, .int .i64 z.v.lo.n, .int .i64 z.v.lo.d, .pointer z.v.lo.p, .int .i64 z.v.hi.n, .int .i64 z.v.hi.d, .pointer z.v.hi.p, .bool z.v.nl, .bool z.v.nh]⟩
inductive gw {α β:Type} (R:α->β->Prop):List α->List β->Prop
 |nil:gw R [] []
 |cons {a b us bs} (h:R a b) (t:gw R us bs):gw R (a::us) (b::bs)
def gw.len{R:α->β->Prop}{us:List α}{bs:List β}(h:gw R us bs):us.length=bs.length:=by
 induction h with
 |nil=>rfl
 |cons _ _ ih=>simp[ih]
def gw.imp{R S:α->β->Prop}{us:List α}{bs:List β}(h:gw R us bs)(k: ∀a b,R a b->S a b):gw S us bs:=by
 induction h with
 |nil=>exact .nil
 |cons h _ ih=>exact .cons (k _ _ h) ih
def gw.get{R:α->β->Prop}{us:List α}{bs:List β}(h:gw R us bs){b:β}(hi:bs[i]? =some b): ∃a,us[i]? =some a/\R a b:=by
 induction h generalizing i with
 |nil=>simp at hi
 | @cons a b' us bs h t ih=>
  cases i with
  |zero=>simp at hi;subst hi;exact⟨a,J,h⟩
  |succ i=>simpa using ih (i:=i) (by simpa using hi)
def gw.app{R:α->β->Prop}{us us':List α}{bs bs':List β}(h:gw R us bs)(k:gw R us' bs'):gw R (us++us') (bs++bs'):=by
 induction h with
 |nil=>exact k
 |cons h _ ih=>exact .cons h ih

section
variable {n:Nat}{own:List av}
variable {gd:Option (Nat×Bool)}{x:Operand}
def S5{o1 o2:av}(h:o1.b≠o2.b->St C n fr (o1::o2::rest) G Φ):St C n fr (o1::o2::rest) G Φ:=
 fun a w rl=>h ((bS.1 rl.h.nd).1 _ aQ) a w rl
def B5[hT:cj P t e s by_]{k:IntKind}{b len:Nat}{l:Int}(hx:aB fr x=some (.slice (some ⟨b,off,none⟩) len cap))(hy:aB fr y=some (.int k l))(h0:0<=l:=by omega)(h1:l<=len:=by omega)(h2:l<cap:=by omega):
  Yd P C fr own G ⟨dst, .slice t x (some y) none none,ty',pos,af,gd⟩ (.slice (some ⟨b,off+l.toNat*s,none⟩) (len-l.toNat) (cap-l.toNat)):=by
 have h:=Fv (P:=P) (C:=C) (own:=own) (G:=G) (t:=t) (dst:=dst) (ty':=ty') (pos:=pos) (af:=af) (gd:=gd) (by_:=by_) hx hy h0 h1;unfold mC at h;rw[if_neg (by omega)] at h;simpa[qA] using h
end

section
variable {n:Nat}{own:List av}
variable {gd:Option (Nat×Bool)}{x:Operand}
end


structure ND where
 a:IV
 b:IV
 c:IV
 l:Int
 r:Int
def ND.val(z:ND):Value:= .agg ⟨[.bool z.a.neg, .slice z.a.a.a z.a.a.n z.a.a.c, .bool z.b.neg, .slice z.b.a.a z.b.a.n z.b.a.c, .bool z.c.neg, .slice z.c.a.a z.c.a.n z.c.a.c, .int .i64 z.l, .int .i64 z.r]⟩
structure rk (k:Nat) (G:Gh) (z:ND) (n:NQ):Prop where
 a:ph k G z.a n.l.a
 b:ph k G z.b n.l.b
 c:ph k G z.c n.l.c
 l:z.l=n.a
 r:z.r=n.b
def rk.up{k:Nat}{A G:Gh}{z:ND}{n:NQ}(h:rk k A z n)[GL A G]:rk k G z n:=⟨h.a.up,h.b.up,h.c.up,h.l,h.r⟩
structure aIC (k:Nat) (G:Gh) (x:SV) (ns:List NQ):Prop where
 ex: ∃zs:List ND,f7 G 8 x (zs.map ND.val)/\gw (rk k G) zs ns

def ND.len8(zs:List ND): ∀v∈zs.map ND.val,(aF v).length=8:=fun v hv=>by
 obtain⟨f,_,rfl⟩:=aR.1 hv;rfl
def ND.flat(zs:List ND): ∀v∈zs.map ND.val,∀c∈aF v,Sx.flat c=true:=fun v hv c hc=>by
 obtain⟨f,_,rfl⟩:=aR.1 hv;simp only[ND.val,aF,aK,dT,or_false] at hc;rcases hc with rfl|rfl|rfl|rfl|rfl|rfl|rfl|rfl<;>rfl
def gw.set{α β:Type}{R:α->β->Prop}{us:List α}{bs:List β}(h:gw R us bs){a:α}{b:β}(hr:R a b)(i:Nat):gw R (us.set i a) (bs.set i b):=by
 induction h generalizing i with
 |nil=>simp;exact .nil
 |cons h t ih=>
  cases i with
  |zero=>exact .cons hr t
  |succ i=>exact .cons h (ih i)
def Ql(zs:List ND)(rest:List Value)(i j:Nat)(x:Value)(z:ND)(hi:i<zs.length)(hj:j<8)(hz:aF z.val=(aF (zs[i]).val).set j x):
  (aD (zs.map ND.val)++rest).set (i*8+j) x=aD ((zs.set i z).map ND.val)++rest:=by
 have hi':i<(zs.map ND.val).length:=by simpa using hi
 rw[MQ hj _ i hi' (ND.len8 zs),pU,<-hz,jR,List.set_eq_take_append_cons_drop,if_pos hi',ni];have e:aD (z.val::(zs.map ND.val).drop (i+1))=aF z.val++aD ((zs.map ND.val).drop (i+1)):=by simp[aD]
 rw[e];simp[dX]
def nG(ob wb:Nat):Value:= .func (.func 139) #[] #[.pointer (some ⟨ob,0,none⟩), .pointer (some ⟨wb,0,none⟩)]
structure Kn where
 x:SV
 p:Option Addr
def Kn.val(z:Kn):Value:= .agg ⟨[.slice z.x.a z.x.n z.x.c, .pointer z.p]⟩
structure LI where
 a:IV
 b:IV
 c:IV
def LI.val(z:LI):Value:= .agg ⟨[.bool z.a.neg, .slice z.a.a.a z.a.a.n z.a.a.c, .bool z.b.neg, .slice z.b.a.a z.b.a.n z.b.a.c, .bool z.c.neg, .slice z.c.a.a z.c.a.n z.c.a.c]⟩
def vu{a b:Int}(h:a=b):eI a=eI b:=by rw[h]
def ED(z:Int):eQ (z:Rat)= .ag [.v (.bool (decide (z<0))),dN z.natAbs, .sl []]:=by unfold eQ;rw[nY,nU];rfl
def CY{a:Rat}(h:a.den=1):((a.num:Int):Rat)=a:=Rat.ext (nY _) (by rw[nU,h])
def Ss{a b:Rat}(ha:a.den=1)(hb:b.den=1):a+b=((a.num+b.num:Int):Rat):=by
 rw[lZ,CY ha,CY hb]
def atD{a b:Rat}(ha:a.den=1)(hb:b.den=1):a*b=((a.num*b.num:Int):Rat):=by
 rw[bM,CY ha,CY hb]
def yu(n:Nat)(h:0<n):(if n=1 then [] else(dg n).map dU).length=0↔n=1:=by
 by_cases q:n=1
 .simp[q]
 .rw[if_neg q,aX,uc];omega
def Lr{n:Nat}(h:n≠1):dD n=dN n:=by unfold dD;rw[if_neg h];rfl
def Jk:(iB g 1=0)↔g=1:=by
 unfold iB;constructor
 .intro h;split at h
  .exact absurd h (by decide)
  .split at h
   .assumption
   .exact absurd h (by decide)
 .rintro rfl;rfl
def NF{x:Int}(hd:0<d):zv (decide (x<0)) (x.natAbs/Nat.gcd x.natAbs d)=(mkRat x d).num:=by
 rw[Rat.num_mkRat,if_neg (by omega),jX];have hg:0<Nat.gcd d x.natAbs:=mW _ hd;obtain⟨c,hc⟩:Nat.gcd d x.natAbs∣x.natAbs:=lU _ _;generalize Nat.gcd d x.natAbs=g at*;rw[hc,rZ _ hg];unfold zv;by_cases q:x<0
 .rw[if_pos (by simpa using q),show x=(g:Int)*(-(c:Int)) by rw[Int.mul_neg,<-iU];omega,Int.mul_ediv_cancel_left _ (by omega)]
 .rw[if_neg (by simpa using q),show x=(g:Int)*(c:Int) by rw[<-iU];omega,Int.mul_ediv_cancel_left _ (by omega)]
def Qn{x:Int}(hd:0<d):d/Nat.gcd x.natAbs d=(mkRat x d).den:=by
 rw[Rat.den_mkRat,if_neg (by omega),jX]
def S4{x:Int}(hd:0<d)(h:Nat.gcd x.natAbs d=1):(mkRat x d).num=x/\(mkRat x d).den=d:=by
 rw[<-NF hd,<-Qn hd,h,tW,tW];exact⟨lD x,J⟩
instance BI.zv (neg:Bool) (m i:Nat) [h:BN m i]:BI (zv neg m) i:=⟨by rw[qF];exact h.h⟩
section
variable {n:Nat}{fr:aC}{own own':aG}
def Om(fr:aC)(cf:Cf):Option Int:=match cE fr cf with
 |some ⟨_, .convert t t' x,_,_,_,_⟩=>match dE tt t,dE tt t' with
  |some ⟨.int .i64,_,_,_⟩,some ⟨.int .u64,_,_,_⟩=>match bh (b7 fr cf) x with
   |some (.d (.v (.int .i64 p)))=>some p
   |_=>none
  |_,_=>none
 |_=>none
def Tw[fu:Fu]{p:Int}(q:Int)(h:Om fr cf=some p)(e:p%18446744073709551616=q)(hgo:cx tt n fu.n fr own cf (.d (.v (.int .u64 q))) [] []=⟨vc,fr',own',cf'⟩)(k:aA prog GB C n Q0 fr' own' cf')
  (hv:ak vc:=by first|exact trivial|(simp only[ak];omega)):aA prog GB C n Q0 fr own cf:=by
 unfold Om at h;split at h<;>try (cases h;done)
 rename_i hh;split at h<;>try (cases h;done)
 rename_i hT hT';split at h<;>cases h;rename_i hx;have:=w8 (eh _ _ hT) J;have:=w8 (eh _ _ hT') J;refine us hh (.x1 hx fun ρ G ov a w y _ r h1 h2=>?_) hgo hv k;rw[cH] at h2;subst h2;refine⟨_,cH.2 J,?_⟩;rw[<-e,<-q7];exact Ej h1
def QZ(fr:aC)(cf:Cf):Option Int:=match cE fr cf with
 |some ⟨_, .unOp .neg _ x,_,_,_,_⟩=>match bh (b7 fr cf) x with
  |some (.d (.v (.int .u64 p)))=>some p
  |_=>none
 |_=>none
def Yg[fu:Fu]{p:Int}(q:Int)(h:QZ fr cf=some p)(e:(0-p)%18446744073709551616=q)(hgo:cx tt n fu.n fr own cf (.d (.v (.int .u64 q))) [] []=⟨vc,fr',own',cf'⟩)(k:aA prog GB C n Q0 fr' own' cf')
  (hv:autoParam (ak vc) Tw._auto_1):aA prog GB C n Q0 fr own cf:=by
 unfold QZ at h;split at h<;>try (cases h;done)
 rename_i hh;split at h<;>cases h;rename_i hx;refine us hh (.x1 hx fun ρ G ov a w y _ r h1 h2=>?_) hgo hv k;rw[cH] at h2;subst h2;refine⟨_,cH.2 J,?_⟩;rw[<-e,<-q7];exact GR h1
end
def Vx{n:Int}(h0: -4611686018427387904<=n)(h1:n<=4611686018427387904):PF GB prog 99 [.v (.int .i64 n)] (eI n):=by
 refine fn func99 J J ntmps99 J J (fun C=>?_);refine br (fu1:=⟨3⟩) (fu2:=⟨6⟩) J J J (fun hc4=>?_) (fun hc4=>?_)
 .
  refine Tw (fu:=⟨0⟩) (18446744073709551616+n) J (by omega) J<|Yg (n.natAbs:Nat) J (by omega) J<|cl J (uG (u:=n.natAbs)) J<|cl J ks J<|rz J (vu (by unfold zv;rw[if_pos J];omega))
 .
  refine aj 11 (.d (.v (.int .u64 (n.natAbs:Nat)))) J (by show FX.d (.v (.int _ _))= .d (.v (.int _ _));congr 3;omega)<|gx J<|cl J (uG (u:=n.natAbs)) J<|cl J ks J<|rz J (vu (by unfold zv;rw[if_neg (by decide)];omega))
def zm:PF GB prog 130 [eI z] (vI z.sign):=by
 have hl:=bI (dg z.natAbs);have hz:= @uc z.natAbs;refine fn func130 J J ntmps130 J J (fun C=>?_);refine br J J J (fun hc6=>?_) (fun hc6=>?_)
 .
  exact rz J (by show DV.v (.int _ 0)=DV.v (.int _ _);rw[show z=0 by omega];rfl)
 .
  refine bd J J J (fun hc8=>?_) (fun hc8=>?_)
  .
   exact rz J (by show DV.v (.int _ (-1))=DV.v (.int _ _);rw[dS (by omega)])
  .
   exact rz J (by show DV.v (.int _ 1)=DV.v (.int _ _);rw[fY (by omega)])
def BG:PF GB prog 167 [eI z] (eI (-z)):=by
 refine fn func167 J J ntmps167 J J (fun C=>?_);refine cl J ks J<|rz J (vu (UT z))
def ayo{a b:Int}(h:decide (a<0)=decide (b<0)):zv (decide (a<0)) (a.natAbs+b.natAbs)=a+b:=by
 unfold zv;have h':a<0↔b<0:=by simpa using h
 by_cases q:a<0
 .have:=h'.1 q
  simp[q];omega
 .have: ¬b<0:=fun w=>q (h'.2 w)
  simp[q];omega
def TB{a b:Int}(h: ¬decide (a<0)=decide (b<0))(k:a.natAbs<b.natAbs):zv (decide (b<0)) (b.natAbs-a.natAbs)=a+b:=by
 unfold zv;have h': ¬(a<0↔b<0):=by simpa using h
 by_cases q:b<0
 .have: ¬a<0:=fun w=>h' ⟨fun _=>q,fun _=>w⟩
  simp[q];omega
 .have:a<0:=Int.not_le.1 fun w=>h' ⟨fun e=>by omega,fun e=>absurd e q⟩
  simp[q];omega
def Uh{a b:Int}(h: ¬decide (a<0)=decide (b<0))(k:b.natAbs<=a.natAbs):zv (decide (a<0)) (a.natAbs-b.natAbs)=a+b:=by
 unfold zv;have h': ¬(a<0↔b<0):=by simpa using h
 by_cases q:a<0
 .have: ¬b<0:=fun w=>h' ⟨fun _=>w,fun _=>q⟩
  simp[q];omega
 .have:b<0:=Int.not_le.1 fun w=>h' ⟨fun e=>absurd e q,fun e=>by omega⟩
  simp[q];omega
def DH{a b:Int}[ha:BI a i][hb:BI b j](hi:i<=400000000:=by decide)(hj:j<=400000000:=by decide):PF GB prog 53 [eI a,eI b] (eI (a+b)):=by
 have hba:=kt ha.h;have hbb:=kt hb.h;refine fn (fu:=⟨15⟩) func53 J J ntmps53 J J (fun C=>?_);refine aj 9 (.d (.v (.bool (decide (decide (a<0)=decide (b<0)))))) J (by congr 2)<|gx J<|bd J J J (fun hc9=>?_) (fun hc9=>?_)
 .
  refine cl J (UC (by omega) (by omega)) J<|cl J ks J<|rz J (vu (ayo hc9))
 .
  refine cl J (x7) J<|br J J J (fun hc23=>?_) (fun hc23=>?_)
  .
   refine cl J (In (by have:=y8.1 hc23;omega) (by omega)) J<|cl J ks J<|rz J (vu (TB hc9 (y8.1 hc23)))
  .
   refine cl J (In (sZ fun q=>hc23 (y8.2 q)) (by omega)) J<|cl J ks J<|rz J (vu (Uh hc9 (sZ fun q=>hc23 (y8.2 q))))
def tB{a b:Int}[ha:BI a i][hb:BI b j](hi:i<=400000000:=by decide)(hj:j<=400000000:=by decide):PF GB prog 55 [eI a,eI b] (eI (a*b)):=by
 refine fn func55 J J ntmps55 J J (fun C=>?_);refine cl J (qg (by omega) (by omega)) J<|cl J ks J<|rz J (vu (aBX a b))
def IF{a b:Int}[ha:BI a i][hb:BI b j](hi:i<=400000000:=by decide)(hj:j<=400000000:=by decide):PF GB prog 237 [eI a,eI b] (vI (a-b).sign):=by
 refine fn func237 J J ntmps237 J J (fun C=>?_);refine cl J BG J<|cl J (DH (by omega) (by omega)) J<|cl J zm J<|rz J (by rw[Int.sub_eq_add_neg];rfl)
def kh:PF GB prog 57 [eQ q] (dN q.den):=by
 refine fn func57 J J ntmps57 J J (fun C=>?_);refine br J J J (fun hc6=>?_) (fun hc6=>?_)
 .
  refine cl J Ce J<|rz J (by rw[(yu q.den (lI q)).1 (by omega)];rfl)
 .
  exact rz J (by exact Lr (fun e=>hc6 (by exact congrArg Int.ofNat ((yu q.den (lI q)).2 e))))
def O2{n:Nat}[h:BN n k](hk:k<=500000000:=by omega):(dg n).length<=100000000:=by have:=kt h.h;omega
def xk{x:Int}[hx:BI x i][hd:BN d j](hd0:0<d)(hi:i<=200000000:=by decide)(hj:j<=200000000:=by decide):PF GB prog 54 [eI x,dN d] (eQ (mkRat x d)):=by
 obtain⟨q,hq⟩: ∃q,q=mkRat x d:=⟨_,rfl⟩;obtain⟨g,hg⟩: ∃g,g=Nat.gcd x.natAbs d:=⟨_,rfl⟩;have hg0:0<g:=hg▸qV _ hd0;haveI hgB:BN g (i+j):=hg▸inferInstance;have hg1:(dg g).length<=100000000:=O2 (k:=i+j);have ho1:(dg 1).length<=100000000:=by rw[At];decide
 haveI hqB:BQ q (i+j):=hq▸AN hd0 (dZ hx.h (bR (by decide) (by omega))) (dZ hd.h (bR (by decide) (by omega)));refine fn func54 J J ntmps54 J J (fun C=>?_);refine cl (fu:=⟨0⟩) J (Aj (by omega) (by omega)) J<|aj 11 (.d (dN g)) J (by rw[hg])<|gx (fu:=⟨4⟩) J<|mg (fu:=⟨1⟩) (X:=Unit) (fun _=>[(1, .d (dN q.den)),(2, .ov 2 0),(4, .ov 4 0)]) (fun _=>[(4,some (.o 34 [.ff, .nl, .nl] true)),(2,some (.o 32 [.d (.v (.bool (decide (q.num<0)))), .d (dN q.num.natAbs)] true))]) (fun _=>True) [1,2,4] [4,2] rfl ?_ (fun _=>J) (fun _ hm=>?_)
 .
  refine gx J<|cl J Ce J<|cl J (x7 hg1 ho1) J<|br J J J (fun hc15=>?_) (fun hc15=>?_)
  .
   refine cl J (yl hg0 (by omega) (by omega)) J<|cl (fu:=⟨0⟩) J ks J<|aj 26 (.d (eI q.num)) J (by show FX.d (eI (zv _ _))=_;rw[hg,NF hd0,hq])<|gx J<|cl (fu:=⟨2⟩) J (yl hg0 (by omega) (by omega)) J<|aj 31 (.d (dN q.den)) J (by rw[hg,Qn hd0,hq])<|gx J<|at_ () trivial
  .
   have hm:=S4 (x:=x) hd0 (by rw[<-hg];exact Jk.1 (Decidable.not_not.1 hc15));rw[<-hq] at hm;refine aj 1 (.d (dN q.den)) J (by rw[hm.2])<|at_ () trivial (hO:=⟨J,by rw[hm.1];rfl,trivial⟩)
 .
  refine mg (X:=Unit) (fun _=>[(1, .d (dD q.den)),(2, .ov 2 0),(4, .ov 4 0)]) (fun _=>[(4,some (.o 34 [.ff, .nl, .nl] true)),(2,some (.o 32 [.d (.v (.bool (decide (q.num<0)))), .d (dN q.num.natAbs)] true))]) (fun _=>True) [1,2,4] [4,2] rfl ?_ (fun _=>J) (fun _ hm=>?_)
  .
   refine gx J<|cl J Ce J<|cl J (x7 (O2 (k:=i+j)) ho1) J<|br J J J (fun hc36=>?_) (fun hc36=>?_)
   .
    refine Ub 1 J<|aj 1 (.d (dD q.den)) J (by rw[Jk.1 hc36];rfl)<|at_ () trivial
   .
    refine aj 1 (.d (dD q.den)) J (by rw[Lr (fun e=>hc36 (Jk.2 e))])<|at_ () trivial
  .
   exact rz J (by rw[<-hq];rfl)
def KO(a:Rat):mkRat a.num a.den=a:=by simp[rY]
def LX{a b:Rat}(h:b≠0):a/b=mkRat (a.num*zv (decide (b.num<0)) b.den) (a.den*b.num.natAbs):=by
 rw[mL];have ha:(a.num:Rat)/(a.den:Rat)=a:=by rw[<-mL,KO]
 have hb:(b.num:Rat)/(b.den:Rat)=b:=by rw[<-mL,KO]
 have h1:(a.den:Rat)≠0:=by have:=a.den_nz;exact_mod_cast this
 have h2:(b.den:Rat)≠0:=by have:=b.den_nz;exact_mod_cast this
 have h3:(b.num:Rat)≠0:=by
  intro e;rw[e] at hb;apply h;rw[<-hb];grind
 rw[bM,Rat.natCast_mul];by_cases q:b.num<0
 .have e1:((zv (decide (b.num<0)) b.den:Int):Rat)= -(b.den:Rat):=by
   unfold zv;rw[if_pos (by simpa using q),jJ];rfl
  have e2:((b.num.natAbs:Nat):Rat)= -(b.num:Rat):=by
   have:((b.num.natAbs:Nat):Int)= -b.num:=by omega
   rw[<-jJ,<-this];rfl
  rw[e1,e2];generalize (a.num:Rat)=an at*;generalize (a.den:Rat)=ad at*;generalize (b.num:Rat)=bn at*;generalize (b.den:Rat)=bd at*;subst ha hb;grind
 .have e1:((zv (decide (b.num<0)) b.den:Int):Rat)=(b.den:Rat):=by
   unfold zv;rw[if_neg (by simpa using q)];rfl
  have e2:((b.num.natAbs:Nat):Rat)=(b.num:Rat):=by
   have:((b.num.natAbs:Nat):Int)=b.num:=by omega
   rw[<-this];rfl
  rw[e1,e2];generalize (a.num:Rat)=an at*;generalize (a.den:Rat)=ad at*;generalize (b.num:Rat)=bn at*;generalize (b.den:Rat)=bd at*;subst ha hb;grind
def Ty{n:Int}(hd:0<d)(h:q*(d:Rat)=(n:Rat)):q.num.natAbs<=n.natAbs/\q.den<=d:=by
 have e:q=mkRat n d:=by
  rw[mL];have:(d:Rat)≠0:=by exact_mod_cast (by omega:d≠0)
  rw[<-h];grind
 rw[e,Rat.num_mkRat,Rat.den_mkRat,if_neg (by omega),if_neg (by omega)];exact⟨nW n (d.gcd n.natAbs:Nat),mY ..⟩
theorem BQ.of_frac{n:Int}(hd:0<d)(h:q*(d:Rat)=(n:Rat))(hn:n.natAbs<2^i)(hdi:d<2^i):BQ q i:=by
 have:=Ty hd h;exact⟨by omega,by omega⟩
def Ox{b:Rat}(h:b≠0):0<b.num.natAbs:=by
 have:b.num≠0:=fun e=>h (lL.1 e);omega
instance BQ.over (a b:Rat) (i j:Nat) [ha:BQ a i] [hb:BQ b j]:BQ (a/b) (i+j):=by
 by_cases h:b=0
 .subst h
  rw[Rat.div_def,Rat.inv_zero,Rat.mul_zero];have h2:=ha.hd;have h3:0<a.den:=lI a;have h4:2^i*1<=2^i*2^j:=fR _ (fN (by decide));rw[<-fX] at h4;exact⟨by show 0<_;omega,by show 1<_;omega⟩
 .rw[LX h]
  have hb0:=Ox h;refine AN (jQ (lI a) hb0) ?_ (po ha.hd hb.hn);rw[fW,qF];exact po ha.hn hb.hd
def jE{n:Int}(h0: -4611686018427387904<=n:=by decide)(h1:n<=4611686018427387904:=by decide):PF GB prog 41 [.v (.int .i64 n)] (eQ (n:Rat)):=by
 refine fn func41 J J ntmps41 J J (fun C=>?_);refine cl J (Vx (by omega) (by omega)) J<|rz J (by rw[ED];rfl)
def qd:PF GB prog 61 [eQ q] (vI q.num.sign):=by
 refine fn func61 J J ntmps61 J J (fun C=>?_);refine cl J zm J<|rz J J
def tP:PF GB prog 160 [eQ q] (eQ (-q)):=by
 refine fn func160 J J ntmps160 J J (fun C=>?_);refine cl J BG J<|rz J (by unfold eQ;rw[nR,sW];rfl)
def iG{a b:Rat}[ha:BQ a i][hb:BQ b j](hi:i<=20000000:=by decide)(hj:j<=20000000:=by decide):PF GB prog 132 [eQ a,eQ b] (eQ (a*b)):=by
 have had:=lI a;have hbd:=lI b;have hdp:=jQ had hbd;have e1:=yu a.den had;have e2:=yu b.den hbd;refine fn func132 J J ntmps132 J J (fun C=>?_);refine cs 9 J J J (fun hg9=>?_) (fun hg9=>?_)
 .
  refine br J J J (fun hc14=>?_) (fun hc14=>?_)
  .
   refine cl J (tB (a:=a.num) (b:=b.num) (by omega) (by omega)) J<|rz J (by rw[atD (e1.1 (by omega)) (e2.1 (by omega)),ED];rfl)
  .
   refine cl J (tB (a:=a.num) (b:=b.num) (by omega) (by omega)) J<|cl J kh J<|cl J kh J<|cl J (qg (by omega) (by omega)) J<|cl J (xk hdp (by omega) (by omega)) J<|rz J (by rw[Bw];rfl)
 .
  refine cl J (tB (a:=a.num) (b:=b.num) (by omega) (by omega)) J<|cl J kh J<|cl J kh J<|cl J (qg (by omega) (by omega)) J<|cl J (xk hdp (by omega) (by omega)) J<|rz J (by rw[Bw];rfl)
def my{a b:Rat}[ha:BQ a i][hb:BQ b j](hi:i<=20000000:=by decide)(hj:j<=20000000:=by decide):PF GB prog 18 [eQ a,eQ b] (eQ (a+b)):=by
 have had:=lI a;have hbd:=lI b;have hdp:=jQ had hbd;have e1:=yu a.den had;have e2:=yu b.den hbd;refine fn func18 J J ntmps18 J J (fun C=>?_);refine cs 9 J J J (fun hg9=>?_) (fun hg9=>?_)
 .
  refine br J J J (fun hc14=>?_) (fun hc14=>?_)
  .
   refine cl J (DH (by omega) (by omega)) J<|rz J (by rw[Ss (e1.1 (by omega)) (e2.1 (by omega)),ED];rfl)
  .
   refine cl J kh J<|cl J ks J<|cl J (tB (a:=a.num) (b:=zv false b.den) (by omega) (by omega)) J<|cl J kh J<|cl J ks J<|cl J (tB (a:=b.num) (b:=zv false a.den) (by omega) (by omega)) J<|cl J (DH (by omega) (by omega)) J<|cl J kh J<|cl J kh J<|cl J (qg (by omega) (by omega)) J<|cl J (xk hdp (by omega) (by omega)) J<|rz J (by rw[AC];rfl)
 .
  refine cl J kh J<|cl J ks J<|cl J (tB (a:=a.num) (b:=zv false b.den) (by omega) (by omega)) J<|cl J kh J<|cl J ks J<|cl J (tB (a:=b.num) (b:=zv false a.den) (by omega) (by omega)) J<|cl J (DH (by omega) (by omega)) J<|cl J kh J<|cl J kh J<|cl J (qg (by omega) (by omega)) J<|cl J (xk hdp (by omega) (by omega)) J<|rz J (by rw[AC];rfl)
def qh{a b:Rat}[ha:BQ a i][hb:BQ b j](hi:i<=20000000:=by decide)(hj:j<=20000000:=by decide):PF GB prog 131 [eQ a,eQ b] (eQ (a-b)):=by
 refine fn func131 J J ntmps131 J J (fun C=>?_);refine cl J (tP (q:=b)) J<|cl J (my (a:=a) (b:= -b) hi hj) J<|rz J (by rw[Rat.sub_eq_add_neg];rfl)
def vp{a b:Rat}[ha:BQ a i][hb:BQ b j](hb0:b≠0)(hi:i<=20000000:=by decide)(hj:j<=20000000:=by decide):PF GB prog 129 [eQ a,eQ b] (eQ (a/b)):=by
 have hbp:=Ox hb0;have hdp:=jQ (lI a) hbp;refine fn func129 J J ntmps129 J J (fun C=>?_);refine cl J kh J<|cl J ks J<|cl J (tB (a:=a.num) (b:=zv (decide (b.num<0)) b.den) (by omega) (by omega)) J<|cl J kh J<|cl J (qg (a:=a.den) (b:=b.num.natAbs) (by omega) (by omega)) J<|cl J (xk (x:=a.num*zv (decide (b.num<0)) b.den) (d:=a.den*b.num.natAbs) hdp (by omega) (by omega)) J<|rz J (by rw[LX hb0];rfl)
def ld{a b:Rat}[ha:BQ a i][hb:BQ b j](hi:i<=20000000:=by decide)(hj:j<=20000000:=by decide):PF GB prog 236 [eQ a,eQ b] (vI (bA a b)):=by
 refine fn func236 J J ntmps236 J J (fun C=>?_);refine cl J (qh hi hj) J<|cl J qd J<|rz J (by show vI _=vI _;rw[Cl])
def UX:((2:Int):Rat)≠0:=by decide
instance BI.two:BI 2 2:=⟨by decide⟩
def FH{a:Rat}[ha:BQ a i](hi:i<=20000000:=by decide):PF GB prog 59 [eQ a] (eQ (a/2)):=by
 refine fn func59 J J ntmps59 J J (fun C=>?_);refine cl J (jE (n:=2)) J<|cl J (vp (a:=a) (b:=((2:Int):Rat)) UX hi (by decide)) J<|rz J J
def D8{a b:Rat}[ha:BQ a i][hb:BQ b j](hi:i<=2000000:=by decide)(hj:j<=2000000:=by decide):PF GB prog 235 [eQ a,eQ b] (eQ ((a+b)/2)):=by
 refine fn func235 J J ntmps235 J J (fun C=>?_);refine cl J (my (by omega) (by omega)) J<|cl J (FH (a:=a+b) (by omega)) J<|rz J J
end Go.Sx
end
