import Derived.Test.YthhjilnhmkheeaaGreatDoorMr9
set_option linter.all false
set_option maxHeartbeats 8000000
set_option maxRecDepth 100000
section
namespace Go.Sx
open Go Go.Proofs Tryz
variable {GB:Gh}
def Xg(c:Nat)(h:c<18446744073709551616):(BitVec.ofInt 64 (c:Int) &&& BitVec.ofInt 64 4294967295).toNat=c%4294967296:=by
 rw[BitVec.toNat_and,BitVec.ofInt_natCast,BitVec.toNat_ofNat,dZ we,show(BitVec.ofInt 64 4294967295).toNat=2^32-1 from J,Nat.and_two_pow_sub_one_eq_mod]
structure Ut (a b n s l:Nat):Prop where
 hn:(dg b).length=n+2
 hs:s=32-bl ((dg b).getD (n+1) 0)
 hb:bl ((dg b).getD (n+1) 0)<=32
 s32:s<32
 vl:(dg (b*2^s)).length=n+2
 v2:b*2^s<4294967296^(n+2)
 al:(dg a).length=n+1+l
 u0:(dg a).length<=(dg (a*2^s)).length
 u1:a*2^s<4294967296^((dg a).length+1)
 u3:a*2^s<b*2^s*4294967296^l
 bp:0<b
def aAr{a b:Nat}(hb2:2<=(dg b).length)(hle:b<=a): ∃n s l,Ut a b n s l:=by
 have hoa:=ij a;have hob:=ij b;have hna:=(i8 a).2.2;have hnb:=(i8 b).2.2;have ea:=dG a;have eb:=dG b;obtain⟨n,hn⟩: ∃n,(dg b).length=n+2:=⟨(dg b).length-2,we⟩;have hbp:0<b:=jM fun h=>by subst h;rw[vX] at hb2;simp at hb2
 have hnm:(dg b).length<=(dg a).length:=by
  rcases jX (dg a).length (dg b).length with h|h
  .have:=yu hoa hnb h
   omega
  .exact h
 have htp:=SU hnb (n+1) hn;have htl:=hob.get (n+1);have hbv:=aKW hob (n+1) hn;have hbt:=EE hob (n+1);obtain⟨s,hs⟩: ∃s,s=32-bl ((dg b).getD (n+1) 0):=⟨_,rfl⟩;obtain⟨hs32,hs1,hs2⟩:=awR htp htl hs;have hpn:0<4294967296^(n+1):=gL oma;have hps:0<2^s:=gL oma;rw[eb] at hbv;have hV1:2147483648*4294967296^(n+1)<=b*2^s:=by
  refine dJ (bR _ hs1) ?_;rw[cM,cK (2^s),<-cM];exact bR _ we
 have hV2:b*2^s<4294967296^(n+2):=by
  refine eY (mN (k:=2^s) (m:=((dg b).getD (n+1) 0+1)*4294967296^(n+1)) (by rw[dW,nL];omega) hps) ?_;rw[cM,cK (4294967296^(n+1)),<-cM,wI (n+1),cK _ 4294967296];exact bR _ hs2
 have hVl:(dg (b*2^s)).length=n+2:=aH1 (by show 4294967296^(n+1)<=_;omega) hV2 we;have hal:=oH hoa;rw[ea] at hal;have hU2:a*2^s<4294967296^((dg a).length+1):=by
  rw[wI];exact pJ hal (eY (sL oma hs32) oma)
 have hUl0:(dg a).length<=(dg (a*2^s)).length:=by
  have hane:dg a≠[]:=fun h=>by
   have:=congrArg List.length h;simp only[gQ] at this;omega
  have h1:=xl hna hane;have h2:=oH (i8 (a*2^s)).2.1;rw[(i8 _).1] at h2;rw[ea] at h1;have h3:a<=a*2^s:=rJ _ hps;have h4:=(oK (a:=4294967296) oma).1 (gU (dJ h1 h3) h2);omega
 have hU3:a*2^s<b*2^s*4294967296^((dg a).length-n-1):=by
  have h1:4294967296^(n+1)*4294967296^((dg a).length-n-1)=4294967296^(dg a).length:=by rw[<-fN,show n+1+((dg a).length-n-1)=(dg a).length by omega]
  refine eY (mN hal hps) (dJ (fV _ (cY oma (show s<=31 by omega))) ?_);rw[<-h1,cK,<-cM];exact bR _ hV1
 exact⟨n,s,(dg a).length-n-1,hn,hs,ph.2 htl,hs32,hVl,hV2,we,hUl0,hU2,hU3,hbp⟩
section
variable {GB:Gh} {C:aH} {n:Nat} {Q0:Exit->Act->World->Prop} {fr fr':aD} {own own':aO} {cf cf':Cf} {vc:List Prop}
def Pv(fr:aD)(cf:Cf):Option (Int×Int):=match dw fr cf with
 |some ⟨_, .binOp .add _ x y _,_,_,_,_⟩=>match ba (co fr cf) x,ba (co fr cf) y with
  |some (.d (.v (.int .u32 p))),some (.d (.v (.int .u32 q)))=>some (p,q)
  |_,_=>none
 |_=>none
def aw[fu:Fu]{p q:Int}(u:Int)(h:Pv fr cf=some (p,q))(e:IntKind.u32.wrap (p+q)=u)(hgo:dl tt n fu.n fr own cf (.d (.v (.int .u32 u))) [] []=⟨vc,fr',own',cf'⟩)(k:ao prog GB C n Q0 fr' own' cf')
  (hv:autoParam (ae vc) cL._auto_1):ao prog GB C n Q0 fr own cf:=by
 unfold Pv at h;split at h<;>try (cases h;done)
 rename_i hh;split at h<;>cases h;rename_i h1 h2;subst e;exact us hh (.yd fun ρ G ov a w r=>by
  obtain⟨y1,h3,h4⟩:=r.ev h1;obtain⟨y2,h5,h6⟩:=r.ev h2;rw[dq] at h4 h6;subst h4 h6;exact⟨_,dq.2 J,mj h3 h5 fun w=>J⟩) hgo hv k
end
def Yl{U m:Nat}(h:U<4294967296^m):dv ((dg U++[0,0]).take m)=U:=by
 have h1:dv (dg U++[0,0])=U:=by rw[show([0,0]:List Nat)=List.replicate 2 0 from J,azC,dG]
 have h2:=xV (dg U++[0,0]) m;rw[Ar (by rw[h1];exact h),h1] at h2;omega
def aGW{a k ia:Nat}{vs:List Nat}[h:BN a ia](hv:vs=dg (a*2^k))(hk:k<32)(h0:0<(dg a).length)(hi:ia<=1000000000):PR GB prog 228 [dN a, .v (.int .u64 (k:Nat))] 1 227 (vs.map dU):=by
 subst hv;exact LY hk h0 hi
def UE{us vs:List Nat}{n i T S:Nat}(huo:bB us)(hvo:bB vs)(hvB:dv vs<4294967296^(n+2))(hv0:0<dv vs)(hvh:dv vs=(T*4294967296+S)*4294967296^n+dv (vs.take n))(hlt:dv us<dv vs*4294967296^(i+1)):
  ∃f p V w:Nat,f=us.getD (i+n+2) 0*4294967296+us.getD (i+n+1) 0/\V=dv vs*4294967296^i/\0<V/\dv us<V*4294967296/\(f*4294967296+us.getD (i+n) 0)*p<=dv us/\dv us<(f*4294967296+us.getD (i+n) 0+1)*p/\V=(T*4294967296+S)*p+w/\w<p/\dv us<4294967296^(i+n+3):=by
 have hpi:0<4294967296^i:=gL oma;obtain⟨p,hp⟩: ∃p,p=4294967296^(i+n):=⟨_,rfl⟩;have hM:dv us<4294967296^(i+n+3):=by
  refine eY hlt ?_;rw[show i+n+3=(n+2)+(i+1) by omega,fN 4294967296 (n+2) (i+1)];exact bR _ (mX hvB)
 have huh:=WF huo (i+n) hM;have hu0:=EE huo (i+n);rw[<-hp] at huh hu0;refine⟨_,p,_,dv (vs.take n)*4294967296^i,J,J,gM hv0 hpi,by rw[cM,<-wI];exact hlt,we,by rw[dW _ 1,nL];omega,?_,?_,hM⟩
 .rw[hvh,dW,hp,fN,cK (4294967296^i),cM]
 .rw[hp,fN,cK]
  exact Nat.mul_lt_mul_of_pos_left (EE hvo n) hpi
def aEc{ws vs:List Nat}{u g i k bo c c1 xx:Nat}(hl:i+k<ws.length)(hw:dv ws+g*(dv (vs.take k)*4294967296^i)=u+(bo+c)*4294967296^(i+k))(hc1:c1=c+g*vs.getD k 0)(hx1:xx%4294967296+(c1%4294967296+bo)=ws.getD (i+k) 0+xx/9223372036854775808*4294967296):
  dv (ws.set (i+k) (xx%4294967296))+g*(dv (vs.take (k+1))*4294967296^i)=u+(xx/9223372036854775808+c1/4294967296)*4294967296^(i+(k+1)):=by
 rw[pE,dW (dv (vs.take k)),<-kM i k 1,wI,show 4294967296^k*vs.getD k 0*4294967296^i=vs.getD k 0*4294967296^(i+k) by rw[fN,cK (4294967296^k),cM,cK (4294967296^k)],fY,<-cM g (vs.getD k 0)];exact aDG (wN ws (i+k) _ hl) hw hc1 hx1
def aDg{wa vs:List Nat}{u i k ca:Nat}(hl:i+k<wa.length)(ha:dv wa+ca*4294967296^(i+k)=u+dv (vs.take k)*4294967296^i):
  dv (wa.set (i+k) ((ca+(wa.getD (i+k) 0+vs.getD k 0))%4294967296))+(ca+(wa.getD (i+k) 0+vs.getD k 0))/4294967296*4294967296^(i+(k+1))=u+dv (vs.take (k+1))*4294967296^i:=by
 rw[pE,dW (dv (vs.take k)),<-kM i k 1,wI,show 4294967296^k*vs.getD k 0*4294967296^i=vs.getD k 0*4294967296^(i+k) by rw[fN,cK (4294967296^k),cM,cK (4294967296^k)]];exact VS (wN wa (i+k) _ hl) ha
def YJ{a b s n:Nat}{us vs qs:List Nat}(hp:0<2^s)(hvv:dv vs=b*2^s)(hv0:0<dv vs)(hvB:dv vs<4294967296^(n+2))(hinv:a*2^s=dv us+dv vs*dv qs)(hlt:dv us<dv vs*4294967296^0):dv qs=a/b/\dv (us.take (n+2))/2^s=a%b:=by
 rw[tK,lY] at hlt;have hut:dv (us.take (n+2))=dv us:=by
  have h0:=xV us (n+2);rw[Ar we] at h0;omega
 refine⟨?_,?_⟩
 .rw[<-Nat.mul_div_mul_right _ _ hp,hinv,<-hvv,qX _ _ hv0,lT hlt,fX]
 .have:dv us=a%b*2^s:=by rw[<-Nat.mul_mod_mul_right,hinv,<-hvv,qV,dZ hlt]
  rw[hut,this,Nat.mul_div_cancel _ hp]
def Vo{qs:List Nat}{i l d:Nat}(hl:i<qs.length)(h:qs.getD i 0=0):dv (qs.set i d)=dv qs+4294967296^i*d:=by
 have:=wN qs i d hl;rw[h] at this;simpa using this
def TF{a s i R d V u v:Nat}{qs:List Nat}(hl:i<qs.length)(h0:qs.getD i 0=0)(hinv:a*2^s=u+v*dv qs)(hV:V=v*4294967296^i)(h:R+d*V=u):a*2^s=R+v*dv (qs.set i d):=by
 rw[hinv,<-h,Vo (l:=0) hl h0,fY,<-cM,<-hV,cK d];omega
def P6{qs:List Nat}{i d:Nat}(hq: ∀j,j<i+1->qs.getD j 0=0): ∀j,j<i->(qs.set i d).getD j 0=0:=fun j h=>by
 rw[getD_set_ne];exact hq j we
theorem omv{p:Prop}(h:p:=by show FX.d (.v (.int _ _))= .d (.v (.int _ _));first|rfl|congr 3):p:=h
theorem okj{p:Prop}(h:p:=by first|omega|(have hd:=HZ hUlt hVle hfg;rcases fW g with e|e;(rw[e,kN] at hd;omega);omega)):p:=h
def Xm{a b ia ib:Nat}[h:BN a ia][k:BN b ib](h2:2<=(dg b).length)(hle:b<=a)(hi:ia<=1000000000:=by decide)(hj:ib<=1000000000:=by decide):PF GB prog 209 [dN a,dN b] (.tp [dN (a/b),dN (a%b)]):=by
 have hla:=cd (dg a);have hba:=jI (a:=a) hi;have hlb:=cd (dg b);have hbb:=jI (a:=b) hj;obtain⟨n,s,l,P⟩:=aAr h2 hle;have hn:=P.hn;have hs:=P.hs;have hsb:=P.hb;have hs32:=P.s32;have hal:=P.al;have hu0:=P.u0;have hu9:=AJ (a:=a*2^s) (k:=(dg a).length+1) P.u1;have htl:=fj b (n+1);obtain⟨vs,hvs⟩: ∃vs,vs=dg (b*2^s):=⟨_,rfl⟩;have hvl:vs.length=n+2:=by rw[hvs];exact P.vl
 have hvv:dv vs=b*2^s:=by rw[hvs,dG]
 have hvo:bB vs:=by rw[hvs];exact ij _
 have hvn:gG vs:=by rw[hvs];exact(i8 _).2.2
 have hvm:=cd vs;obtain⟨us0,hus0⟩: ∃us0,us0=(dg (a*2^s)++[0,0]).take ((dg a).length+1):=⟨_,rfl⟩;have husv:dv us0=a*2^s:=by rw[hus0];exact Yl P.u1
 have huso:bB us0:=by rw[hus0];exact((ij _).append (.replicate 2)).take _
 have husl:us0.length=(dg a).length+1:=by rw[hus0];simp;omega
 have hps:0<2^s:=gL oma;have hbp:=P.bp;have hV0':0<dv vs:=by rw[hvv];exact gM hbp hps
 have hvB:dv vs<4294967296^(n+2):=by rw[hvv];exact P.v2
 obtain⟨T,hT⟩: ∃T,T=vs.getD (n+1) 0:=⟨_,rfl⟩;obtain⟨S,hS⟩: ∃S,S=vs.getD n 0:=⟨_,rfl⟩;have hTB:T<4294967296:=by rw[hT];exact hvo.get _
 have hSB:S<4294967296:=by rw[hS];exact hvo.get _
 have hT0:0<T:=by rw[hT];exact SU hvn (n+1) hvl
 have hvh:=aKi hvo n hvB;rw[<-hT,<-hS] at hvh;refine fn (fu:=⟨12⟩) func209 J J ntmps209 J J (fun C=>?_);refine ah 27 (.d (vI ((dg b).length:Nat))) J omM<|gx J<|ix _ J (dm (k:=n+1)) J<|cl (fu:=⟨1⟩) J (IS htl) J<|ah 32 (.d (.v (.int .u64 (s:Nat)))) J (omi we)<|gx J<|cr J (LY (a:=a) (k:=s) hs32 we hi) J<|rf J J<|ap (fu:=⟨2⟩) _ J J (yo J) J<|ah 39 (.d (vI ((dg a).length:Nat))) J oms<|gx (fu:=⟨1⟩) J<|ah 40 (.d (vI ((dg a).length+1:Nat))) J omj<|gx (fu:=⟨0⟩) J<|Jd (us0.map dU) ((dg a).length+1) J J omo (by rw[hus0,gR,bL];rfl) J<|cr (fu:=⟨7⟩) J (aGW (a:=b) (k:=s) (vs:=vs) hvs hs32 we hj) J<|ah 46 (.d (vI (n+2:Nat))) J (by rw[hvm,hvl]<;>rfl)<|gx J<|lb (fu:=⟨1⟩) _ J (dm (k:=n+1)) J<|ah 52 (.d (.v (.int .u64 (T:Nat)))) J (by show FX.d (.v (.int _ _))= .d (.v (.int _ _));rw[hT])<|gx J<|lb (fu:=⟨1⟩) _ J (dm (k:=n)) J<|ah 58 (.d (.v (.int .u64 (S:Nat)))) J (by show FX.d (.v (.int _ _))= .d (.v (.int _ _));rw[hS])<|gx (fu:=⟨8⟩) J<|ah 60 (.d (vI ((dg a).length+1:Nat))) J (by rw[cd,husl]<;>rfl)<|gx (fu:=⟨2⟩) J<|ah 62 (.d (vI (l:Nat))) J (omi we)<|gx J<|mk (fu:=⟨11⟩) ((List.replicate l 0).map dU) J J omD J<|ah 65 (.d (vI (l:Nat))) J (by rw[cd,aU]<;>rfl)<|gx J<|lp (X:=List Nat×List Nat×Nat) (fun⟨us,qs,j⟩=>[(13, .d (vI ((j:Nat)-1)))]) (fun⟨us,qs,j⟩=>[(63,some (.b 227 1 (qs.map dU) true)),(41,some (.b 227 1 (us.map dU) true))]) (fun⟨us,qs,j⟩=>us.length=(dg a).length+1/\bB us/\qs.length=l/\bB qs/\j<=l/\(∀i,i<j->qs.getD i 0=0)/\a*2^s=dv us+dv vs*dv qs/\dv us<dv vs*4294967296^j) (fun⟨us,qs,j⟩=>j) ⟨us0,List.replicate l 0,l⟩ J ⟨husl,huso,omc, .replicate _,bV _,fun i _=>CE _ _,by simp only[z8];omega,by rw[husv,hvv];exact P.u3⟩ (fun _=>J) (fun⟨us,qs,j⟩ hk=>?_)
 try dsimp only at hk⊢
 obtain⟨hul,huo,hql,hqo,hjl,hq0,hinv,hlt⟩:=hk;refine br (fu1:=⟨0⟩) (fu2:=⟨0⟩) J J J (fun hc68=>?_) (fun hc68=>?_)
 .
  obtain⟨i,rfl⟩: ∃i,j=i+1:=⟨j-1,we⟩;refine ah 13 (.d (vI (i:Nat))) J (omi we) ?_;obtain⟨f,p,V,v0,hf,hV,hVp0,hltV,hUle,hUlt,hVp,hv0,hM⟩:=UE (n:=n) (i:=i) huo hvo hvB hV0' hvh hlt;have hVle:(T*4294967296+S)*p<=V:=by rw[hVp];exact pQ _ _
  have hfT:f<=T*4294967296+S:=aMj hUle hVp hv0 hltV;have hg0:=huo.get (i+n);have hg1:=huo.get (i+n+1);have hg2:=huo.get (i+n+2);have hum:=cd us;have hqm:=cd qs;refine gx J<|lb (fu:=⟨2⟩) (hv:=by simp only[ae];exact⟨we,oma⟩) _ J (dm (k:=i+n+2)) J<|ah 78 (.d (.v (.int .u64 (us.getD (i+n+2) 0*4294967296:Nat)))) J omq<|gx J<|lb (fu:=⟨2⟩) _ J (dm (k:=i+n+1)) J<|ah 87 (.d (.v (.int .u64 (f:Nat)))) J (congrArg (fun z:Nat=>FX.d (.v (.int .u64 (z:Int)))) ((congrArg BitVec.toNat (BitVec.or_comm ..)).trans ((rh 64 (us.getD (i+n+1) 0) (us.getD (i+n+2) 0) 32 hg1 omt).trans (by show _+_*4294967296=_;omega))))<|gx (fu:=⟨8⟩) (hv:=by simp only[ae];exact⟨omd,we⟩) J<|ah 90 (.d (.v (.int .u64 (f/T:Nat)))) J omv<|gx (fu:=⟨3⟩) J<|ah 93 (.d (.v (.int .u64 (f%T:Nat)))) J omv<|gx (fu:=⟨5⟩) J<|mg (fu:=⟨11⟩) (X:=Nat) (fun g=>[(15, .d (.v (.int .u64 (g:Nat))))]) (fun g=>[]) (fun g=>g<4294967296/\dv us<(g+1)*V/\g*V<dv us+V) [15,16] [] rfl ?_ (fun _=>J) (fun g ⟨hgB,hlo,hhi⟩=>?_)
  .
   refine gx J<|lp (fu:=⟨5⟩) (hv:=fun _ _=>by simp only[ae];exact oma) (X:=Nat×Nat) (fun⟨g,r⟩=>[(15, .d (.v (.int .u64 (g:Nat)))),(16, .d (.v (.int .u64 (r:Nat))))]) (fun⟨g,r⟩=>[]) (fun⟨g,r⟩=>f=g*T+r/\r<4294967296/\dv us<(g+1)*V) (fun⟨g,r⟩=>g) ⟨f/T,f%T⟩ J ⟨(Nat.div_add_mod' ..).symm,tX (dQ _ hT0) hTB,aFa hUlt hg0 hVle hT0⟩ (fun _=>J) (fun⟨g,r⟩ hk=>?_)
   try dsimp only at hk⊢
   obtain⟨hfg,hrB,hlo⟩:=hk;have hgT:g*1<=g*T:=fV _ hT0;refine ah 95 (.d (.v (.int .u64 (g/4294967296:Nat)))) rfl okn<|gx rfl<|cs (fu1:=⟨26⟩) (v1:=fun hg97=>by simp only[ae];exact okj) (fu2:=⟨3⟩) (v2:=fun hg97=>by simp only[ae];exact⟨(AP _ _),(Bh (show g<4294967296 by omega) hSB)⟩) 97 J J J (fun hg97=>?_) (fun hg97=>?_)
   .
    have hgB4:4294967296<=g:=by omega
    have hdec:dv us<g*V:=eY hltV (by rw[cK];exact bR _ hgB4);obtain⟨g',rfl⟩: ∃g',g=g'+1:=⟨g-1,by rcases fW g with h|h;(rw[h,kN] at hdec;omega);omega⟩;have hfg':f=g'*T+(r+T):=by rw[hfg,dW,nL];omega
    refine ah 115 (.d (.v (.int .u64 (g':Nat)))) J (omi we)<|gx (fu:=⟨8⟩) J<|ah 118 (.d (.v (.int .u64 (r+T:Nat)))) J omv<|gx (fu:=⟨7⟩) (hv:=by simp only[ae];exact oma) J<|ah 120 (.d (.v (.int .u64 ((r+T)/4294967296:Nat)))) J okn<|gx J<|br J J J (fun hc121=>?_) (fun hc121=>?_)
    .
     have hgB3:g'<4294967296:=by rcases jX g' 4294967296 with h|h;(exact h);(have:=bR T h;omega)
     have hgS3:g'*S<=(r+T)*4294967296+us.getD (i+n) 0:=by have h1:=iK (mX hgB3) (mX hSB);omega
     exact at_ g' ⟨hgB3,hdec,HI hUle hVp hv0 hT0 hfg' hgB3 hgS3⟩
    .
     exact at_ ⟨g',r+T⟩ (by dsimp only;exact⟨⟨hfg',we,hdec⟩,we⟩)
   .
    have hgB:g<4294967296:=by omega
    have hgS:g*S<4294967296*4294967296:=pJ hgB hSB;refine ah 100 (.d (.v (.int .u64 (g*S:Nat)))) rfl (by rw[iY])<|gx (fu:=⟨2⟩) (hv:=by simp only[ae];exact oma) rfl<|ah 102 (.d (.v (.int .u64 (r*4294967296:Nat)))) rfl (by show FX.d (.v (.int _ _))= .d (.v (.int _ _));rw[rI _ 32 oma omA rfl])<|gx rfl<|lb (fu:=⟨2⟩) _ rfl (dm (k:=i+n)) rfl<|ah 111 (.d (.v (.int .u64 (r*4294967296+us.getD (i+n) 0:Nat)))) rfl (congrArg (fun z:Nat=>FX.d (.v (.int .u64 (z:Int)))) ((congrArg BitVec.toNat (BitVec.or_comm ..)).trans ((rh 64 (us.getD (i+n) 0) (r) 32 hg0 omt).trans (by show _+_*4294967296=_;omega))))<|gx rfl<|br (fu1:=⟨7⟩) (v1:=fun hc113=>by simp only[ae];exact okj) rfl rfl rfl (fun hc113=>?_) (fun hc113=>?_)
    .
     have hdec:dv us<g*V:=HZ hUlt hVle hfg;obtain⟨g',rfl⟩: ∃g',g=g'+1:=⟨g-1,by rcases fW g with h|h;(rw[h,kN] at hdec;omega);omega⟩;have hfg':f=g'*T+(r+T):=by rw[hfg,dW,nL];omega
     refine ah 115 (.d (.v (.int .u64 (g':Nat)))) J (omi we)<|gx (fu:=⟨8⟩) J<|ah 118 (.d (.v (.int .u64 (r+T:Nat)))) J omv<|gx (fu:=⟨7⟩) (hv:=by simp only[ae];exact oma) J<|ah 120 (.d (.v (.int .u64 ((r+T)/4294967296:Nat)))) J okn<|gx J<|br J J J (fun hc121=>?_) (fun hc121=>?_)
     .
      have hgB3:g'<4294967296:=by rcases jX g' 4294967296 with h|h;(exact h);(have:=bR T h;omega)
      have hgS3:g'*S<=(r+T)*4294967296+us.getD (i+n) 0:=by have h1:=iK (mX hgB3) (mX hSB);omega
      exact at_ g' ⟨hgB3,hdec,HI hUle hVp hv0 hT0 hfg' hgB3 hgS3⟩
     .
      exact at_ ⟨g',r+T⟩ (by dsimp only;exact⟨⟨hfg',we,hdec⟩,we⟩)
    .
     exact at_ g ⟨hgB,hlo,HI hUle hVp hv0 hT0 hfg hgB we⟩
  .
   refine ah 123 (.d (vI (n+2:Nat))) J (by rw[hvm,hvl]<;>rfl)<|gx J<|lp (X:=List Nat×Nat×Nat×Nat) (fun⟨ws,k,bo,c⟩=>[(124, .d (vI (k:Nat))),(17, .d (.v (.int .u64 (bo:Nat)))),(18, .d (.v (.int .u64 (c:Nat))))]) (fun⟨ws,k,bo,c⟩=>[(41,some (.b 227 1 (ws.map dU) true))]) (fun⟨ws,k,bo,c⟩=>ws.length=(dg a).length+1/\bB ws/\k<=n+2/\bo<=1/\c<4294967296/\dv ws<4294967296^(i+n+3)/\dv ws+g*(dv (vs.take k)*4294967296^i)=dv us+(bo+c)*4294967296^(i+k)) (fun⟨ws,k,bo,c⟩=>n+2-k) ⟨us,0,0,0⟩ J ⟨hul,huo,bS _,bS _,oma,hM,by simp[dv]⟩ (fun _=>J) (fun⟨ws,k,bo,c⟩ hk=>?_)
   try dsimp only at hk⊢
   obtain⟨hwl,hwo,hk2,hbo,hc4,hwM,hw⟩:=hk;refine br J J J (fun hc125=>?_) (fun hc125=>?_)
   .
    have hvk:=hvo.get k;have hwg:=hwo.get (i+k);have hgd:g*vs.getD k 0<=4294967295*4294967295:=iK we we;obtain⟨c1,hc1⟩: ∃c1,c1=c+g*vs.getD k 0:=⟨_,rfl⟩;have hc1m:c1%4294967296<4294967296:=dQ _ oma;obtain⟨hx1,hx2,hx3⟩:=Su (ws.getD (i+k) 0) (c1%4294967296) bo hwg hc1m hbo;obtain⟨xx,hxx⟩: ∃x,x=uK (ws.getD (i+k) 0) (c1%4294967296) bo:=⟨_,rfl⟩;rw[<-hxx] at hx1 hx2 hx3;have hwm:=cd ws;refine lb (fu:=⟨11⟩) (hv:=by simp only[ae];exact⟨we,⟨(AP _ _),(Bh hgB hvk)⟩⟩) _ J (fD) J<|ah 133 (.d (.v (.int .u64 (g*vs.getD k 0:Nat)))) J (by rw[iY])<|gx (fu:=⟨1⟩) J<|ah 134 (.d (.v (.int .u64 (c1:Nat)))) J (omi we)<|gx J<|lb (fu:=⟨3⟩) _ J (dm (k:=i+k)) J<|ah 143 (.d (.v (.int .u64 (c1%4294967296:Nat)))) J (congrArg (fun z:Nat=>FX.d (.v (.int .u64 (z:Int)))) (Xg c1 we))<|gx (fu:=⟨0⟩) J<|sd (fu:=⟨1⟩) (IntKind.u64.wrap (((ws.getD (i+k) 0:Nat):Int)-((c1%4294967296:Nat):Int))) J J J<|sd (fu:=⟨11⟩) ((xx:Nat):Int) J (by rw[hxx];exact EN _ _ _ hwg hc1m hbo) J<|ah 152 (.d (dU (xx%4294967296))) J omj<|gx J<|sb (fu:=⟨6⟩) (hv:=by simp only[ae];exact oma) _ ((ws.set (i+k) (xx%4294967296)).map dU) J (dm (k:=i+k)) J (by(rw[show((i:Int)+k).toNat=i+k by omega,<-ku])<;>rfl) J<|ah 155 (.d (.v (.int .u64 (xx/9223372036854775808:Nat)))) J (by rw[Hz])<|gx (fu:=⟨6⟩) (hv:=by simp only[ae];exact oma) J<|ah 157 (.d (.v (.int .u64 (c1/4294967296:Nat)))) J okn<|gx J<|at_ ⟨ws.set (i+k) (xx%4294967296),k+1,xx/9223372036854775808,c1/4294967296⟩ (by dsimp only;exact⟨⟨by simpa using hwl,hwo.set _ (dQ _ oma),we,hx2,we,Ef hwo (dQ _ oma) hwM,aEc we hw hc1 hx1⟩,we⟩)
   .
    obtain rfl:k=n+2:=by omega
    rw[cZ we,<-hV] at hw;have hwg:=hwo.get (i+n+2);obtain⟨hx1,hx2,hx3⟩:=Su (ws.getD (i+n+2) 0) c bo hwg hc4 hbo;obtain⟨xx,hxx⟩: ∃x,x=uK (ws.getD (i+n+2) 0) c bo:=⟨_,rfl⟩;rw[<-hxx] at hx1 hx2 hx3;have hwm:=cd ws;obtain⟨ws2,hws2⟩: ∃z,z=ws.set (i+n+2) (xx%4294967296):=⟨_,rfl⟩;have hl2:=aEG (wN ws (i+n+2) (xx%4294967296) we) hw hx1;rw[<-wI,<-hws2] at hl2;have hM2:=Ef (i:=i+n+2) (d:=xx%4294967296) hwo (dQ _ oma) hwM;have ho2:=hwo.set (i+n+2) (d:=xx%4294967296) (dQ _ oma);have hn2:ws2.length=(dg a).length+1:=by rw[hws2,aM];exact hwl
    rw[<-hws2] at hM2 ho2;replace hl2:dv ws2+g*V=dv us+xx/9223372036854775808*4294967296^(i+n+3):=hl2;have hqi:=hq0 i we;obtain⟨q2,hq2⟩: ∃z,z=qs.set i g:=⟨_,rfl⟩;have hq2l:q2.length=l:=by rw[hq2,aM];exact hql
    have hq2m:=cd q2;have hwm2:=cd ws2;refine lb (fu:=⟨2⟩) _ J (dm (k:=i+n+2)) J<|sd (fu:=⟨1⟩) (IntKind.u64.wrap (((ws.getD (i+n+2) 0:Nat):Int)-((c:Nat):Int))) J J J<|sd (fu:=⟨11⟩) ((xx:Nat):Int) J (by rw[hxx];exact EN _ _ _ hwg hc4 hbo) J<|ah 175 (.d (dU (xx%4294967296))) J omj<|gx J<|sb (fu:=⟨8⟩) _ (ws2.map dU) J (dm (k:=i+n+2)) J (by(rw[hws2,show((i:Int)+((n+2:Nat):Int)).toNat=i+n+2 by omega,<-ku])<;>rfl) J<|ah 180 (.d (dU g)) J (omi we)<|gx J<|sb (fu:=⟨7⟩) (hv:=by simp only[ae];exact oma) _ (q2.map dU) J (fD) J (by rw[hq2,<-ku];rfl) J<|ah 183 (.d (.v (.int .u64 (xx/9223372036854775808:Nat)))) J (by rw[Hz])<|gx J<|br J J J (fun hc184=>?_) (fun hc184=>?_)
    .
     have ht0:xx/9223372036854775808=0:=by omega
     rw[ht0,kN,gW] at hl2;exact at_ ⟨ws2,q2,i⟩ (by dsimp only;exact⟨⟨hn2,ho2,hq2l,by rw[hq2];exact hqo.set _ hgB,we,by rw[hq2];exact P6 hq0,by rw[hq2];exact TF we hqi hinv hV hl2,by rw[<-hV];exact VU hlo hl2⟩,we⟩)
    .
     have ht1:xx/9223372036854775808=1:=by omega
     rw[ht1,nL] at hl2;obtain⟨g',rfl⟩: ∃g',g=g'+1:=⟨g-1,by rcases fW g with h|h;(rw[h,kN] at hl2;omega);omega⟩;have hqs:q2.getD i 0=g'+1:=by rw[hq2];exact Cb we
     refine lb (fu:=⟨0⟩) _ J (fD) J<|ah 188 (.d (dU (g'+1))) J (by first|rw[hqs]|(simp only[dR];rw[hqs]))<|gx (fu:=⟨0⟩) J<|sw ((g':Nat):Int) J we J<|sb (fu:=⟨12⟩) _ ((qs.set i g').map dU) J (fD) J (by simp only[dR,hq2,kJ,List.set_set]<;>rfl) J<|ah 192 (.d (vI (n+2:Nat))) J (by rw[hvm,hvl]<;>rfl)<|gx J<|lp (X:=List Nat×Nat×Nat) (fun⟨wa,k,ca⟩=>[(193, .d (vI (k:Nat))),(18, .d (.v (.int .u64 (ca:Nat))))]) (fun⟨wa,k,ca⟩=>[(41,some (.b 227 1 (wa.map dU) true))]) (fun⟨wa,k,ca⟩=>wa.length=(dg a).length+1/\bB wa/\k<=n+2/\ca<=1/\dv wa<4294967296^(i+n+3)/\dv wa+ca*4294967296^(i+k)=dv ws2+dv (vs.take k)*4294967296^i) (fun⟨wa,k,ca⟩=>n+2-k) ⟨ws2,0,0⟩ J ⟨hn2,ho2,bS _,bS _,hM2,by simp[dv]⟩ (fun _=>J) (fun⟨wa,k,ca⟩ hk=>?_)
     try dsimp only at hk⊢
     obtain⟨hal2,hao,hk2,hac,haM,ha⟩:=hk;refine br J J J (fun hc194=>?_) (fun hc194=>?_)
     .
      have hvk:=hvo.get k;have hag:=hao.get (i+k);obtain⟨t,ht⟩: ∃t,t=ca+(wa.getD (i+k) 0+vs.getD k 0):=⟨_,rfl⟩;have ham:=cd wa;refine lb _ J (fD) J<|lb (fu:=⟨5⟩) _ J (dm (k:=i+k)) J<|ah 209 (.d (.v (.int .u64 (t:Nat)))) J (omi we)<|gx (fu:=⟨11⟩) J<|ah 215 (.d (dU (t%4294967296))) J omj<|gx J<|sb (fu:=⟨5⟩) (hv:=by simp only[ae];exact oma) _ ((wa.set (i+k) (t%4294967296)).map dU) J (dm (k:=i+k)) J (by(rw[show((i:Int)+k).toNat=i+k by omega,<-ku])<;>rfl) J<|ah 218 (.d (.v (.int .u64 (t/4294967296:Nat)))) J okn<|gx J<|at_ ⟨wa.set (i+k) (t%4294967296),k+1,t/4294967296⟩ (by dsimp only;exact⟨⟨by simpa using hal2,hao.set _ (dQ _ oma),we,we,Ef hao (dQ _ oma) haM,by rw[ht];exact aDg we ha⟩,we⟩)
     .
      obtain rfl:k=n+2:=by omega
      rw[cZ we,<-hV] at ha;have hag:=hao.get (i+n+2);have ham:=cd wa;have hl4:=Uu (wN wa (i+n+2) ((wa.getD (i+n+2) 0+ca)%4294967296) we) ha;rw[<-wI] at hl4;have hM4:=Ef (i:=i+n+2) (d:=(wa.getD (i+n+2) 0+ca)%4294967296) hao (dQ _ oma) haM;obtain⟨hR1,hR2⟩:=aDL hhi hl2 hl4 hM2 hM4 we (Nat.succ_pos _);refine lb (fu:=⟨2⟩) _ J (dm (k:=i+n+2)) J<|ah 227 (.d (dU ca)) J (omi we)<|gx (fu:=⟨0⟩) J<|aw (((wa.getD (i+n+2) 0+ca)%4294967296:Nat):Int) J (by rw[u7];omega) J<|sb _ ((wa.set (i+n+2) ((wa.getD (i+n+2) 0+ca)%4294967296)).map dU) J (dm (k:=i+n+2)) J (by(rw[show((i:Int)+((n+2:Nat):Int)).toNat=i+n+2 by omega,<-ku])<;>rfl) J<|at_ ⟨wa.set (i+n+2) ((wa.getD (i+n+2) 0+ca)%4294967296),qs.set i g',i⟩ (by dsimp only;exact⟨⟨by simpa using hal2,hao.set _ (dQ _ oma),by simpa using hql,hqo.set _ we,we,P6 hq0,TF we hqi hinv hV hR1,by rw[<-hV];exact hR2⟩,we⟩)
 .
  refine vL 63 J<|vL 41 J ?_;obtain rfl:j=0:=by omega
  obtain⟨e1,e2⟩:=YJ hps hvv hV0' hvB hinv hlt;refine gx J<|cl J (uG (ds:=qs)) J<|mc (fu:=⟨0⟩) 0 (n+2) _ J J J J (sr _) we omo J<|ah 234 (.d (fm (us.take (n+2)))) J (by first|rfl|(show FX.d (.sl _)=FX.d (.sl _);simp))<|gx J<|cl J (aLb (ds:=us.take (n+2)) (huo.take _) omo hs32) J<|rz J (by show DV.tp [fm _,dN _]= .tp [dN _,dN _];rw[mi hqo e1,e2])
def EC{a b i j:Nat}[h:BN a i][k:BN b j](hb:0<b)(hi:i<=1000000000:=by decide)(hj:j<=1000000000:=by decide):PF GB prog 163 [dN a,dN b] (.tp [dN (a/b),dN (a%b),vB true]):=by
 have hla:=cd (dg a);have hba:=jI (a:=a) hi;have hlb:=cd (dg b);have hbb:=jI (a:=b) hj;have hb0:(dg b).length≠0:=fun e=>by have:=Bp e;omega
 have hcn:=Bj (a:=a) (b:=b);have hd0:=fj b 0;refine fn func163 J J ntmps163 J J (fun C=>?_);refine cl J (qI) J<|cl (fu:=⟨10⟩) J (qI) J<|ah 17 (.d (vI ((dg b).length:Nat))) J omM<|gx (fu:=⟨0⟩) J<|ew J (omh we) J<|cl J (Rh (a:=a) (b:=b) hi hj) J<|br (fu2:=⟨4⟩) J J J (fun hc19=>?_) (fun hc19=>?_)
 .
  refine cl J (NY (ds:=dg a) (ij _)) J<|rz J (by have hlt:=hcn.1 we;rw[lT hlt,dZ hlt,me];rfl)
 .
  refine ah 28 (.d (vI ((dg b).length:Nat))) J omM<|gx J<|br J J J (fun hc26=>?_) (fun hc26=>?_)
  .
   have h1:(dg b).length=1:=by omega
   have e1:=xm h1;have hmd:=dQ a (show 0<(dg b).getD 0 0 by omega);refine ix _ J (dm (k:=0) J we) J<|cl J (XX (a:=a) (d:=(dg b).getD 0 0) we we hi) J<|cl J (Bm (a:=a%(dg b).getD 0 0) (by have:=dQ a (show 0<(dg b).getD 0 0 by omega);omega)) J<|rz J (by rw[e1];rfl)
  .
   refine cl J (Xm (a:=a) (b:=b) we we hi hj) J<|rz J J
def Lj{a:Nat}(h:(dg a).length<=2:=by omega):a<18446744073709551616:=by
 have h1:=tI a;have h2:(4294967296:Nat)^(dg a).length<=4294967296^2:=cY oma h;omega
theorem okz{p:Prop}(h:p:=by dsimp only;exact⟨⟨by rw[<-hg,jK B,<-tU,jK],hB,tX (dQ _ hBp) hB⟩,(dQ _ hBp)⟩):p:=h
theorem ozo{p:Prop}(h:p:=by have hB0:B=0:=Bp;rw[hB0,nW] at hg;rw[<-hg];rfl):p:=h
def Pc{a b i j:Nat}[h:BN a i][k:BN b j](hi:i<=1000000000:=by decide)(hj:j<=1000000000:=by decide):PF GB prog 162 [dN a,dN b] (dN (Nat.gcd a b)):=by
 obtain⟨m,hm⟩: ∃m,m=max i j:=⟨_,rfl⟩;have e0: ∀k',k'<=m->(2:Nat)^k'<=2^m:=fun k' h=>cY oma h;have ha9:a<2^m:=eY h.h (e0 i we);have hb9:b<2^m:=eY k.h (e0 j we);refine fn func162 J J ntmps162 J J (fun C=>?_);refine cl J (wl (a:=a) (i:=i) we) J<|cl J (wl (a:=b) (i:=j) we) J<|lp (fu:=⟨5⟩) (X:=Nat×Nat) (fun⟨A,B⟩=>[(0, .d (dN A)),(1, .d (dN B))]) (fun⟨A,B⟩=>[]) (fun⟨A,B⟩=>Nat.gcd A B=Nat.gcd a b/\A<2^m/\B<2^m) (fun⟨A,B⟩=>B) ⟨a,b⟩ J ⟨J,ha9,hb9⟩ (fun _=>J) (fun⟨A,B⟩ hk=>?_)
 try dsimp only at hk⊢
 obtain⟨hg,hA,hB⟩:=hk;haveI:BN A m:=⟨hA⟩;haveI:BN B m:=⟨hB⟩;have hlA:=cd (dg A);have hlB:=cd (dg B);have hbA:=jI (a:=A) (i:=m);have hbB:=jI (a:=B) (i:=m);refine ah 17 (.d (vI ((dg A).length:Nat))) J (by rw[hlA]<;>rfl)<|gx J<|cs (fu1:=⟨15⟩) (fu2:=⟨2⟩) 19 J J J (fun hg19=>?_) (fun hg19=>?_)
 .
  refine ah 25 (.d (vI ((dg B).length:Nat))) J (by rw[hlB]<;>rfl)<|gx J<|br J J J (fun hc26=>?_) (fun hc26=>?_)
  .
   exact rz J ozo
  .
   have hBp:0<B:=jM fun e=>hc26 (by rw[e,vX];rfl);refine cl J (EC (a:=A) (b:=B) (i:=m) (j:=m) hBp we we) J<|at_ ⟨B,A%B⟩ okz
 .
  refine ah 21 (.d (vI ((dg B).length:Nat))) J (by rw[hlB]<;>rfl)<|gx J<|br (fu1:=⟨8⟩) J J J (fun hc23=>?_) (fun hc23=>?_)
  .
   refine ah 25 (.d (vI ((dg B).length:Nat))) J (by rw[hlB]<;>rfl)<|gx J<|br J J J (fun hc26=>?_) (fun hc26=>?_)
   .
    exact rz J ozo
   .
    have hBp:0<B:=jM fun e=>hc26 (by rw[e,vX];rfl);refine cl J (EC (a:=A) (b:=B) (i:=m) (j:=m) hBp we we) J<|at_ ⟨B,A%B⟩ okz
  .
   have hA2:=Lj (a:=A);have hB2:=Lj (a:=B);refine cl J (Be (a:=A) hA2) J<|cl J (Be (a:=B) hB2) J<|lp (X:=Nat×Nat) (fun⟨u,v⟩=>[(8, .d (.v (.int .u64 (u:Nat)))),(10, .d (.v (.int .u64 (v:Nat))))]) (fun⟨u,v⟩=>[]) (fun⟨u,v⟩=>Nat.gcd u v=Nat.gcd a b/\u<18446744073709551616/\v<18446744073709551616) (fun⟨u,v⟩=>v) ⟨A,B⟩ J ⟨hg,hA2,hB2⟩ (fun _=>J) (fun⟨u,v⟩ hk=>?_)
   try dsimp only at hk⊢
   obtain⟨hg2,hu,hv⟩:=hk;refine br (fu1:=⟨8⟩) J J J (fun hc48=>?_) (fun hc48=>?_)
   .
    refine ah 52 (.d (.v (.int .u64 (u%v:Nat)))) J omv<|gx J<|at_ ⟨v,u%v⟩ (by dsimp only;exact⟨⟨by rw[<-hg2,jK v,<-tU,jK],hv,tX (dQ _ we) hv⟩,(dQ _ we)⟩)
   .
    obtain rfl:v=0:=by omega
    rw[nW] at hg2;refine cl J (Bm (a:=u) hu) J<|rz J (by rw[hg2];rfl)

def FM{x:Nat}:bl x=0↔x=0:=by
 have:= @ph x 0;simp at this;omega
def BJ{a:Nat}:0<(dg a).length↔0<a:=by
 have:= @wR a;omega
def eS(neg:Bool)(a:Nat):DV:= .ag [.v (.bool neg),dN a]
def C8(neg:Bool)(a:Nat):eI (zv neg a)= .ag [.v (.bool (neg&&decide (0<a))),dN a]:=by unfold eI;rw[tn,Nv]
def Va{n:Bool}{u:Nat}{b:Int}(h:n≠decide (b<0))(hle:b.natAbs<=u):zv n (u-b.natAbs)=zv n u+b:=by cases n<;>simp[zv] at* <;>omega
def YL{n:Bool}{u:Nat}{b:Int}(h:n≠decide (b<0))(hle:u<=b.natAbs):zv (decide (b<0)) (b.natAbs-u)=zv n u+b:=by cases n<;>simp[zv] at* <;>(try rw[if_pos h])<;>(try rw[if_neg we])<;>omega
theorem okH{p:Prop}(h:p:=by unfold vB;congr 2;simp_all [jH]):p:=h
def axj{neg:Bool}{ds:List Nat}(hd:bB ds)(hl:ds.length<=1125899906842624):PF GB prog 210 [.ag [.v (.bool neg),fm ds]] (vB (decide (gG ds/\(neg=true->0<ds.length)))):=by
 refine fn func210 J J ntmps210 J J (fun C=>?_);refine cl J (az9 hd hl) J<|csd 6 J J J (fun hg6=>?_) (fun hg6=>?_)
 .
  refine j' 10 J J J (fun hg10=>?_) (fun hg10=>?_)
  .
   exact rz J okH
  .
   exact rz J okH
 .
  exact rz J okH
theorem oze{p:Prop}(h:p:=by have:a≠0:=(fun e=>hc3 (by rw[e];rfl));simp[zv];omega):p:=h
def OP{n:Bool}{a i:Nat}[h:BN a i](hi:i<=1000000000:=by decide):PF GB prog 161 [eS n a] (vI (zv n a).sign):=by
 refine fn func161 J J ntmps161 J J (fun C=>?_);refine cl J (wE (a:=a) hi) J<|br J J J (fun hc3=>?_) (fun hc3=>?_)
 .
  exact rz J (by have:=FM.1 (Int.ofNat.inj hc3);subst this;cases n<;>rfl)
 .
  refine bb J J J (fun hc8=>?_) (fun hc8=>?_)
  .
   exact rz J (by subst hc8;rw[fZ oze];rfl)
  .
   exact rz J (by subst hc8;rw[fJ oze];rfl)
def GK{m:Int}(h0: -9223372036854775808<=m:=by omega)(h1:m<=9223372036854775807:=by omega):PF GB prog 157 [vI m] (eI m):=by
 refine fn (fu:=⟨8⟩) func157 J J ntmps157 J J (fun C=>?_);refine cu ((m%18446744073709551616:Int)) J (sG _) J<|br (fu1:=⟨2⟩) (fu2:=⟨0⟩) J J J (fun hc7=>?_) (fun hc7=>?_)
 .
  refine nu ((m.natAbs:Nat)) J (by rw[sG];omega) J<|cl J (Bm (a:=m.natAbs)) J<|rz J J
 .
  refine ah 3 (.d (.v (.int .u64 (m.natAbs:Nat)))) J omT<|gx J<|cl J (Bm (a:=m.natAbs)) J<|rz J J
def Uf{n:Bool}{a:Nat}(h:a<4611686018427387904):PF GB prog 164 [eS n a] (.tp [vI (zv n a),vB true]):=by
 refine fn func164 J J ntmps164 J J (fun C=>?_);refine cl (fu:=⟨2⟩) J (Be (a:=a) we) J<|d9 J J J<|j' 18 J J J (fun hg18=>?_) (fun hg18=>?_)
 .
  refine br (fu1:=⟨3⟩) J J J (fun hc12=>?_) (fun hc12=>?_)
  .
   refine nu (fu:=⟨0⟩) (((18446744073709551616-a)%18446744073709551616:Int)) J (by rw[sG];omega) J<|cu (zv n a) J (by subst hg18;rw[HY];simp only[zv,if_true];omega) J<|rz J J
  .
   exact absurd we hc12
 .
  refine j' 32 J J J (fun hg32=>?_) (fun hg32=>?_)
  .
   refine br J J J (fun hc25=>?_) (fun hc25=>?_)
   .
    exact rz J (by subst hg18;rfl)
   .
    exact absurd we hc25
  .
   subst hg18;cases hg32
def yl{neg:Bool}{a i:Nat}[h:BN a i](hi:i<=1000000000:=by decide):PF GB prog 156 [eS neg a] (eI (zv neg a)):=by
 refine fn func156 J J ntmps156 J J (fun C=>?_);refine cl J (wl hi) J<|j' 9 J J J (fun hg9=>?_) (fun hg9=>?_)
 .
  exact rz J (by rw[C8];simp[hg9,BJ,jH])
 .
  exact rz J (by rw[C8];simp[hg9,BJ,jH])
def E5{neg:Bool}{a:Nat}:PF GB prog 194 [.v (.bool neg),dN a] (eI (zv neg a)):=by
 refine fn func194 J J ntmps194 J J (fun C=>?_);refine j' 6 J J J (fun hg6=>?_) (fun hg6=>?_)
 .
  exact rz J (by rw[C8];simp[hg6,BJ,jH])
 .
  exact rz J (by rw[C8];simp[hg6,BJ,jH])
def aHo{m:Int}{i:Nat}[h:BI m i](hi:i<=1000000000:=by decide):PF GB prog 232 [eI m] (eI (-m)):=by
 refine fn func232 J J ntmps232 J J (fun C=>?_);refine cl J (yl (neg:=!decide (m<0)) (a:=m.natAbs) hi) J<|rz J (by rw[aG1,nk];rfl)
def K2{a b:Int}{i j:Nat}[h:BI a i][k:BI b j](hi:i<=1000000000:=by decide)(hj:j<=1000000000:=by decide):PF GB prog 132 [eI a,eI b] (eI (a*b)):=by
 refine fn func132 J J ntmps132 J J (fun C=>?_);refine cl J (yX (a:=a.natAbs) (b:=b.natAbs) hi hj) J<|cl J E5 J<|rz J (by rw[show(!(decide (a<0)==decide (b<0)))=(decide (a<0) !=decide (b<0)) from J,Q8,nk,nk];rfl)
def aDm{n1:Bool}{u:Nat}{b:Int}{i j:Nat}[h:BN u i][k:BI b j](hi:i<=1000000000:=by decide)(hj:j<=1000000000:=by decide):PF GB prog 135 [eS n1 u,eI b] (eI (zv n1 u+b)):=by
 refine fn func135 J J ntmps135 J J (fun C=>?_);refine bb J J J (fun hc13=>?_) (fun hc13=>?_)
 .
  refine cl J (aKX (b:=b.natAbs) hi hj) J<|cl J E5 J<|rz J (by rw[aqX,show n1=decide (b<0) from by simpa using hc13,nk];rfl)
 .
  refine cl J (Mr (b:=b.natAbs) hi hj) J<|bd J J J (fun hc30=>?_) (fun hc30=>?_)
  .
   refine cl J E5 J<|rz J (by rw[Va (by simpa using hc13) hc30];rfl)
  .
   refine cl J (Mr (a:=b.natAbs) hj hi) J<|cl J E5 J<|rz J (by rw[YL (by simpa using hc13) we];rfl)
def Y1{a b:Int}{i j:Nat}[h:BI a i][k:BI b j](hi:i<=1000000000:=by decide)(hj:j<=1000000000:=by decide):PF GB prog 135 [eI a,eI b] (eI (a+b)):=(aDm (n1:=decide (a<0)) (u:=a.natAbs) hi hj).to (by rw[nk])
def kB(q:Rat):Prop:= ¬(q.num.natAbs<4611686018427387904/\q.den<4611686018427387904)
instance (q:Rat):Decidable (kB q):=inferInstanceAs (Decidable (¬_))
def cC(q:Rat):Int:=if kB q then 0 else q.num
def cD(q:Rat):Int:=if kB q then 0 else(q.den:Int)-1
def cE(q:Rat):DV:= .op (decide (kB q)) [.v (.bool (decide (q.num<0))),dN q.num.natAbs,dN q.den]
def eF(q:Rat):DV:= .ag [vI (cC q),vI (cD q),cE q]
abbrev Vb {q:Rat} (h:decide (kB q)=true):kB q:=of_decide_eq_true h
abbrev uO {q:Rat} (h:decide (kB q)=false): ¬kB q:=of_decide_eq_false h
abbrev aMc {q:Rat} (h: ¬decide (kB q)=false):kB q:=by simpa using h
abbrev p6 {q:Rat} (h: ¬decide (kB q)=true): ¬kB q:=by simpa using h
def o7{q:Rat}(h: ¬kB q):cC q=q.num:=if_neg h
def q8{q:Rat}(h: ¬kB q):cD q=(q.den:Int)-1:=if_neg h
def rD{q:Rat}(h: ¬kB q):q.num.natAbs<4611686018427387904:=(Decidable.not_not.1 h).1
def rC{q:Rat}(h: ¬kB q):q.den<4611686018427387904:=(Decidable.not_not.1 h).2
def J6{q:Rat}(h:kB q):q≠0:=fun e=>by subst e;exact h ⟨oma,oma⟩
def uu{q:Rat}{m d:Int}{r:DV}(h: ¬kB q)(h1:q.num=m)(h2:(q.den:Int)-1=d)(e:r= .ag [vI m,vI d, .v (.pointer none)])(G:Gh)(y:Value)(k:Is G r y):Is G (eF q) y:=by
 subst e h1 h2;obtain⟨l,rfl,g⟩:=fC.1 k;obtain⟨y1,l1,rfl,k1,g1⟩:=bO.1 g;obtain⟨y2,l2,rfl,k2,g2⟩:=bO.1 g1;obtain⟨y3,l3,rfl,k3,g3⟩:=bO.1 g2;exact fC.2 ⟨_,J, .cons (by rw[o7 h];exact k1) (.cons (by rw[q8 h];exact k2) (.cons (xh.2 (.inl ⟨decide_eq_false h,bE.1 k3⟩)) g3))⟩
def NR{q:Rat}{n:Bool}{a d:Nat}{r:DV}(h:kB q)(h1:decide (q.num<0)=n)(h2:q.num.natAbs=a)(h3:q.den=d)(e:r= .ag [vI 0,vI 0, .pt [.v (.bool n),dN a,dN d]])(G:Gh)(y:Value)(k:Is G r y):Is G (eF q) y:=by
 subst e h1 h2 h3;obtain⟨l,rfl,g⟩:=fC.1 k;obtain⟨y1,l1,rfl,k1,g1⟩:=bO.1 g;obtain⟨y2,l2,rfl,k2,g2⟩:=bO.1 g1;obtain⟨y3,l3,rfl,k3,g3⟩:=bO.1 g2;exact fC.2 ⟨_,J, .cons (by unfold cC;rw[if_pos h];exact k1) (.cons (by unfold cD;rw[if_pos h];exact k2) (.cons (xh.2 (.inr ⟨decide_eq_true h,k3⟩)) g3))⟩
def yP(G:Gh)(y:Value)(k:Is G (.ag [vI 0,vI 0, .v (.pointer none)]) y):Is G (eF 0) y:=uu (fun h=>J6 h J) J J J G y k
def Rx{m:Int}(h:m.natAbs<4611686018427387904)(G:Gh)(y:Value)(k:Is G (.ag [vI m,vI 0, .v (.pointer none)]) y):Is G (eF (m:Rat)) y:=
 uu (fun k=>k ⟨by simpa using h,by rw[qN];decide⟩) (pT m) (by rw[qN];rfl) J G y k
def OD{n:Bool}{a d:Nat}(hd:0<d):(mkRat (zv n a) d).num=zv n (a/Nat.gcd a d)/\(mkRat (zv n a) d).den=d/Nat.gcd a d:=by
 obtain⟨h1,h2⟩:=Qw (m:=zv n a) hd;rw[tn] at h1 h2;exact⟨by rw[h1,aGT (nK _ _)],h2⟩
def Lq{n:Bool}{a d a' d':Nat}(hd:0<d)(ha:a'=a/Nat.gcd a d)(hd':d'=d/Nat.gcd a d)(h1:a'<4611686018427387904)(h2:d'<4611686018427387904)(G:Gh)(y:Value)(k:Is G (.ag [vI (zv n a'),vI ((d':Int)-1), .v (.pointer none)]) y):Is G (eF (mkRat (zv n a) d)) y:=by
 obtain⟨e1,e2⟩:=OD (n:=n) (a:=a) hd;rw[<-ha] at e1;rw[<-hd'] at e2;exact uu (fun k=>k ⟨by rw[e1,tn];exact h1,by rw[e2];exact h2⟩) e1 (by rw[e2]) J G y k
def Db{n:Bool}{a d a' d':Nat}(hd:0<d)(ha:a'=a/Nat.gcd a d)(hd':d'=d/Nat.gcd a d)(h: ¬(a'<4611686018427387904/\d'<4611686018427387904))(G:Gh)(y:Value)(k:Is G (.ag [vI 0,vI 0, .pt [.v (.bool (decide (zv n a'<0))),dN (zv n a').natAbs,dN d']]) y):Is G (eF (mkRat (zv n a) d)) y:=by
 obtain⟨e1,e2⟩:=OD (n:=n) (a:=a) hd;rw[<-ha] at e1;rw[<-hd'] at e2;exact NR (fun k=>h ⟨by rw[e1,tn] at k;exact k.1,by rw[e2] at k;exact k.2⟩) (by rw[e1]) (by rw[e1]) e2 J G y k
def aL8{a d:Nat}(hd:0<d)(h: ¬(1:Int)<(bl (Nat.gcd a d):Nat)):Nat.gcd a d=1:=by
 have h1:Nat.gcd a d≠0:=fun e=>by rw[Nat.gcd_eq_zero_iff] at e;omega
 have h2:Nat.gcd a d<2^1:=ph.1 we;omega
def ot{x:Nat}:(((bl x:Nat):Int)<=62)↔x<4611686018427387904:=aGa
def PF.ofI{P:Program}{f:FuncId}{ds ds':List DV}{r:DV}(h:PF GB P f ds r)(k: ∀G vs,IsLs G ds' vs->IsLs G ds vs):PF GB P f ds' r:=fun G vs hg hv=>h G vs hg (k G vs hv)
def vO{n:Bool}{a d i j:Nat}[h:BN a i][k:BN d j](hi:i<=450000000:=by decide)(hj:j<=450000000:=by decide):PF GB prog 104 [eS n a,dN d] (eF (mkRat (zv n a) d)):=by
 refine fn func104 J J ntmps104 J J (fun C=>?_);refine cl J (wE (a:=d) we) J<|cs 13 J J J (fun hg13=>?_) (fun hg13=>?_)
 .
  exact jE rfl (by obtain rfl:=FM.1 (Int.ofNat.inj hg13);rw[Rat.mkRat_zero];exact yP)
 .
  have hd0:0<d:=by have:= @FM d;omega
  have hg0:0<Nat.gcd a d:=oW _ hd0;refine cl J (OP (n:=n) (a:=a) we) J<|br J J J (fun hc17=>?_) (fun hc17=>?_)
  .
   exact jE J (by rw[jR.1 hc17,Rat.zero_mkRat];exact yP)
  .
   refine cl J (Pc (a:=a) (b:=d) we we) J<|cl J (wE (a:=Nat.gcd a d) (i:=i+j) we) J<|br J J J (fun hc25=>?_) (fun hc25=>?_)
   .
    obtain⟨a',ea⟩: ∃a',a'=a/Nat.gcd a d:=⟨_,rfl⟩;obtain⟨d',ed⟩: ∃d',d'=d/Nat.gcd a d:=⟨_,rfl⟩;have hba:BN a' i:=ea▸inferInstance;have hbd:BN d' j:=ed▸inferInstance;refine cl (fu:=⟨2⟩) J (EC (a:=a) (b:=Nat.gcd a d) (j:=i+j) hg0 we we) J<|ah 31 (.d (dN a')) J (by rw[ea])<|gx J<|cl (fu:=⟨2⟩) J (EC (a:=d) (b:=Nat.gcd a d) (j:=i+j) hg0 we we) J<|ah 39 (.d (dN d')) J (by rw[ed])<|gx J<|cl J (wE (h:=hba) we) J<|cs 46 J J J (fun hg46=>?_) (fun hg46=>?_)
    .
     refine cl J (wE (h:=hbd) we) J<|br J J J (fun hc50=>?_) (fun hc50=>?_)
     .
      have hs2:=ot.1 hc50;refine cl J (Uf (ot.1 hg46)) J<|cl J (Be (by have:=ot.1 hc50;omega)) J<|jE J (Lq hd0 ea ed (ot.1 hg46) (ot.1 hc50))
     .
      refine cl J (yl (neg:=n) (h:=hba) we) J<|cl J (wl (h:=hbd) we) J<|fz 71 J J<|jE J (Db hd0 ea ed (fun e=>hc50 (ot.2 e.2)))
    .
     refine cl J (yl (neg:=n) (h:=hba) we) J<|cl J (wl (h:=hbd) we) J<|fz 71 J J<|jE J (Db hd0 ea ed (fun e=>hg46 (ot.2 e.1)))
   .
    have hg1:=aL8 hd0 hc25;have ea:a=a/Nat.gcd a d:=by rw[hg1,tT]
    have ed:d=d/Nat.gcd a d:=by rw[hg1,tT]
    have hba:=h;have hbd:=k;refine cl J (wE (h:=hba) we) J<|cs 46 J J J (fun hg46=>?_) (fun hg46=>?_)
    .
     refine cl J (wE (h:=hbd) we) J<|br J J J (fun hc50=>?_) (fun hc50=>?_)
     .
      have hs2:=ot.1 hc50;refine cl J (Uf (ot.1 hg46)) J<|cl J (Be (by have:=ot.1 hc50;omega)) J<|jE J (Lq hd0 ea ed (ot.1 hg46) (ot.1 hc50))
     .
      refine cl J (yl (neg:=n) (h:=hba) we) J<|cl J (wl (h:=hbd) we) J<|fz 71 J J<|jE J (Db hd0 ea ed (fun e=>hc50 (ot.2 e.2)))
    .
     refine cl J (yl (neg:=n) (h:=hba) we) J<|cl J (wl (h:=hbd) we) J<|fz 71 J J<|jE J (Db hd0 ea ed (fun e=>hg46 (ot.2 e.1)))
theorem oki{p:Prop}(h:p:=by rw[nk,show mkRat m 1=(m:Rat) from sU ..];rfl):p:=h
def JQ{m:Int}{i:Nat}[h:BI m i](hi:i<=400000000:=by decide):PF GB prog 211 [eI m] (eF (m:Rat)):=by
 refine fn func211 J J ntmps211 J J (fun C=>?_);refine rf (fu:=⟨0⟩) J J<|ah 4 (.d (dN 1)) J okI<|gx J<|cl J (vO (n:=decide (m<0)) (a:=m.natAbs) (d:=1) we) J<|rz J oki
def IQ{q:Rat}:PF GB prog 212 [eF q] (vB (decide (q=0))):=by
 refine fn func212 J J ntmps212 J J (fun C=>?_);refine cs 6 J J J (fun hg6=>?_) (fun hg6=>?_)
 .
  exact rz J (by rw[o7 (uO hg6)];show DV.v (.bool (decide _))= .v (.bool _);congr 2;exact decide_eq_decide.2 ⟨fun e=>mW.1 e,fun e=>by rw[e];rfl⟩)
 .
  exact rz J (by rw[decide_eq_false (J6 (aMc hg6))];rfl)
def AI{m:Int}(h:m.natAbs<9223372036854775808:=by omega):PF GB prog 192 [vI m] (.v (.int .u64 (m.natAbs:Nat))):=by
 refine fn func192 J J ntmps192 J J (fun C=>?_);refine br J J J (fun hc4=>?_) (fun hc4=>?_)
 .
  exact rz J (by show DV.v (.int _ _)=_;congr 2;omega)
 .
  exact rz J (by show DV.v (.int _ _)=_;congr 2;omega)
def r6{q:Rat}{i:Nat}[h:BQ q i](hi:i<=900000000:=by decide):PF GB prog 101 [eF q] (dN q.den):=by
 refine fn func101 J J ntmps101 J J (fun C=>?_);refine br (v1:=fun hc5=>by simp only[ae];exact hc5) (fu2:=⟨6⟩) J J J (fun hc5=>?_) (fun hc5=>?_)
 .
  refine cl J (wl (a:=q.den) we) J<|rz J J
 .
  have hd:=q.den_nz;have hs:=rC (p6 hc5);refine ah 13 (.d (vI ((q.den:Int)-1))) J (by rw[q8 (p6 hc5)])<|gx (fu:=⟨2⟩) J<|ah 15 (.d (.v (.int .u64 (q.den:Nat)))) J omT<|gx J<|cl J (Bm (a:=q.den)) J<|rz J J
def wU{q:Rat}{i:Nat}[h:BQ q i](hi:i<=900000000:=by decide):PF GB prog 100 [eF q] (eI q.num):=by
 refine fn func100 J J ntmps100 J J (fun C=>?_);refine br (v1:=fun hc5=>by simp only[ae];exact hc5) (fu2:=⟨6⟩) J J J (fun hc5=>?_) (fun hc5=>?_)
 .
  refine cl J (yl (neg:=decide (q.num<0)) (a:=q.num.natAbs) we) J<|rz J (by rw[nk];rfl)
 .
  have hs:=rD (p6 hc5);refine ah 13 (.d (vI q.num)) J (by rw[o7 (p6 hc5)])<|gx J<|cl J (GK) J<|rz J J
def r5{q:Rat}{i:Nat}[h:BQ q i](hi:i<=900000000:=by decide):PF GB prog 215 [eF q] (eF (-q)):=by
 refine fn func215 J J ntmps215 J J (fun C=>?_);refine br (v1:=fun hc5=>by simp only[ae];exact hc5) (fu2:=⟨6⟩) J J J (fun hc5=>?_) (fun hc5=>?_)
 .
  refine cl (fu:=⟨6⟩) (hv:=by simp only[ae];exact hc5) J (aHo (m:=q.num) we) J<|RJ J J<|jE J (NR (q:= -q) (fun k=>Vb hc5 (by rw[nQ,iJ,qZ] at k;exact k)) (by rw[nQ]) (by rw[nQ]) (qZ q) J)
 .
  have hs:=rD (p6 hc5);refine ah 21 (.d (vI q.num)) J (by rw[o7 (p6 hc5)])<|gx J<|jE J (uu (q:= -q) (fun k=>k (by rw[nQ,iJ,qZ];exact⟨hs,rC (p6 hc5)⟩)) (by rw[nQ]) (by rw[qZ,q8 (p6 hc5)]) J)
def oP{q:Rat}{i:Nat}[h:BQ q i](hi:i<=900000000:=by decide):PF GB prog 169 [eF q] (vI q.num.sign):=by
 refine fn func169 J J ntmps169 J J (fun C=>?_);refine br (v1:=fun hc3=>by simp only[ae];exact hc3) J J J (fun hc3=>?_) (fun hc3=>?_)
 .
  refine cl J (OP (n:=decide (q.num<0)) (a:=q.num.natAbs) we) J<|rz J (by rw[nk];rfl)
 .
  have hs:=o7 (p6 hc3);refine br J J J (fun hc13=>?_) (fun hc13=>?_)
  .
   exact rz J (by rw[fZ we];rfl)
  .
   refine br J J J (fun hc17=>?_) (fun hc17=>?_)
   .
    exact rz J (by rw[fJ we];rfl)
   .
    exact rz J (by rw[show q.num=0 by omega];rfl)
def Yv{a b:Nat}(h:b<=a):(dg b).length<=(dg a).length:=AJ (gU h (tI a))
def yk{a b ia ib:Nat}[ha:BN a ia][hb:BN b ib](hb0:0<b)(hi:ia<=500000000:=by decide)(hj:ib<=500000000:=by decide):PF GB prog 141 [dN a,dN b] (.tp [dN (a/b),dN (a%b)]):=by
 have hla:=cd (dg a);have hlb:=cd (dg b);have hba:=n9 ha.h;have hbb:=n9 hb.h;have hba':(dg a).length<=20000000:=by omega
 have hbb':(dg b).length<=20000000:=by omega
 have hlb1:1<=(dg b).length:=Mj (k:=0) (by rw[tK];exact hb0);refine fn (fu:=⟨7⟩) func141 J J ntmps141 J J (fun C=>?_);refine mg (X:=Unit) (fun _=>[(0, .d (dN a)),(1, .d (dN b))]) (fun _=>[]) (fun _=>True) [0,1] [] rfl ?_ (fun _=>J) (fun _ hm=>?_)
 .
  refine gx J<|cl J (DA (a:=a) (ia:=ia) we) J<|bd (fu1:=⟨0⟩) J J J (fun hc18=>?_) (fun hc18=>?_)
  .
   refine ah 6 (.d (.v (.int .u64 (a:Nat)))) J (by rw[if_pos hc18])<|gx J<|cl J (DA (a:=b) (ia:=ib) we) J<|bd (fu1:=⟨0⟩) J J J (fun hc24=>?_) (fun hc24=>?_)
   .
    refine ah 8 (.d (.v (.int .u64 (b:Nat)))) J (by rw[if_pos hc24]) ?_;have hdl:=mU a b;have hml:=Nat.mod_le a b;refine gx (hv:=by simp only[ae];exact⟨we,we,we⟩) J<|cl (hv:=by simp only[ae];exact⟨we,we⟩) J (uc (u:=a/b)) J<|cl J (uc (u:=a%b)) J<|rz J J
   .
    exact at_ () trivial
  .
   exact at_ () trivial
 .
  refine cl J (AW) J<|br J J J (fun hc36=>?_) (fun hc36=>?_)
  .
   have hab:=y7.1 hc36;refine tg J J<|ap _ J J (sr _) J<|jd 39 J<|rz J (by show DV.tp [_, .sl ([]++_)]= .tp [_,_];rw[lT hab,dZ hab,me];rfl)
  .
   have hab:b<=a:=sV fun q=>hc36 (y7.2 q);have hlab:(dg b).length<=(dg a).length:=Yv hab;refine br (fu1:=⟨4⟩) J J J (fun hc42=>?_) (fun hc42=>?_)
   .
    have hb1:b<4294967296:=by have:=tI b;rw[show(dg b).length=1 by omega] at this;omega
    have hbd:(dg b).getD 0 0=b:=xm;refine ah 44 (.d (vI ((dg a).length:Nat))) J omP<|gx J<|mk (fu:=⟨13⟩) ((List.replicate (dg a).length 0).map dU) J J omD J<|ah 47 (.d (vI ((dg a).length:Nat))) J omP<|gx J<|lp (X:=List Nat×Nat) (fun⟨W,k⟩=>[(0, .d (dN a)),(1, .d (dN b)),(10, .rw 45),(11, .d (dU (dv ((dg a).drop k)%b))),(12, .d (vI ((k:Nat)-1)))]) (fun⟨W,k⟩=>[(45,some (.b 227 1 (W.map dU) true))]) (fun⟨W,k⟩=>W.length=(dg a).length/\bB W/\k<=(dg a).length/\dv (W.drop k)=dv ((dg a).drop k)/b) (fun⟨W,k⟩=>k) ⟨List.replicate (dg a).length 0,(dg a).length⟩ J ⟨omc, .replicate _,bV _,by simp[dv]⟩ (fun _=>J) (fun⟨W,k⟩ hk=>?_) (hF:=(by refine⟨J,J,J,ql J (by simp[dv,dU]),ql J (by simp[vI]),?_⟩;repeat (first|exact trivial|refine And.intro J ?_)))
    try dsimp only at hk⊢
    obtain⟨h1,h2,h3,h4⟩:=hk;have hlw:=cd W;refine br (fu1:=⟨0⟩) J J J (fun hc50=>?_) (fun hc50=>?_)
    .
     obtain⟨k,rfl⟩: ∃j,k=j+1:=⟨k-1,we⟩;have hsi:=XC hb0 we h1 h4;have hrm:=dQ (dv ((dg a).drop (k+1))) hb0;have hdk:=fj a k;have hqd:(dv ((dg a).drop (k+1))%b*4294967296+(dg a).getD k 0)/b<4294967296:=by rw[kQ hb0];have:=fV 4294967296 (show dv ((dg a).drop (k+1))%b+1<=b from hrm);omega
     refine ah 12 (.d (vI (k:Nat))) J (omi we)<|gx J<|ix _ J (dm (k:=k)) J<|ix _ J (dm (k:=0) J we) J<|cl J (YG (h:=dv ((dg a).drop (k+1))%b) (l:=(dg a).getD k 0) (y:=(dg b).getD 0 0) we hdk we) J<|sb (hv:=by simp only[ae];exact⟨omd,we⟩) _ ((W.set k ((dv ((dg a).drop (k+1))%b*4294967296+(dg a).getD k 0)/b)).map dU) J (dm (k:=k)) J (by(rw[hbd,dR,<-ku])<;>rfl) J<|at_ ⟨W.set k ((dv ((dg a).drop (k+1))%b*4294967296+(dg a).getD k 0)/b),k⟩ (by dsimp only;exact⟨⟨by simpa using h1,h2.set _ hqd,we,hsi.1⟩,we⟩) (by refine⟨J,J,J,ql J (by rw[hsi.2,hbd]),ql J (by first|(simp[vI];done)|(simp[vI];omega)),?_⟩;repeat (first|exact trivial|refine And.intro J ?_))
    .
     refine fz 45 J J<|cl rfl (tq (ds:=W)) rfl<|rf J J<|cl rfl (tq (ds:=[dv ((dg a).drop k)%b]) omc) rfl<|rz rfl (by show DV.tp [fm _,fm _]= .tp [_,_];obtain rfl:k=0:=we;rw[gJ,gJ,dG] at h4;rw[gJ,dG];rw[mi h2 h4,mi (.cons (by have:=dQ a hb0;omega) .nil) (n:=a%b) (by simp[dv])])
   .
    refine cl J (U7 we we hlb1 hlab) J<|rz J J
def OC(x y:Nat):Nat.gcd y (x%y)=Nat.gcd x y:=by rw[jK x y,tU y x,jK]
def Kl{a b ia ib:Nat}[ha:BN a ia][hb:BN b ib](hi:ia<=240000000:=by decide)(hj:ib<=240000000:=by decide):PF GB prog 138 [dN a,dN b] (dN (Nat.gcd a b)):=by
 refine fn (fu:=⟨6⟩) func138 J J ntmps138 J J (fun C=>?_);refine mg (X:=Unit) (fun _=>[(0, .d (dN a)),(1, .d (dN b))]) (fun _=>[]) (fun _=>True) [0,1] [] rfl ?_ (fun _=>J) (fun _ hm=>?_)
 .
  refine gx J<|cl J (DA (a:=a) (ia:=ia) we) J<|bd (fu1:=⟨0⟩) J J J (fun hc16=>?_) (fun hc16=>?_)
  .
   refine ah 5 (.d (.v (.int .u64 (a:Nat)))) J (by rw[if_pos hc16])<|gx J<|cl J (DA (a:=b) (ia:=ib) we) J<|bd (fu1:=⟨0⟩) J J J (fun hc22=>?_) (fun hc22=>?_)
   .
    refine ah 7 (.d (.v (.int .u64 (b:Nat)))) J (by rw[if_pos hc22])<|gx J<|lp (X:=Nat×Nat) (fun⟨x,y⟩=>[(5, .d (.v (.int .u64 (x:Nat)))),(7, .d (.v (.int .u64 (y:Nat))))]) (fun⟨x,y⟩=>[]) (fun⟨x,y⟩=>x<18446744073709551616/\y<18446744073709551616/\Nat.gcd x y=Nat.gcd a b) (fun⟨x,y⟩=>y) ⟨a,b⟩ J ⟨hc16,hc22,J⟩ (fun _=>J) (fun⟨x,y⟩ hk=>?_)
    try dsimp only at hk⊢
    obtain⟨h1,h2,h3⟩:=hk;refine br (v1:=fun hc24=>by simp only[ae];exact⟨⟨we,we⟩,omd⟩) J J J (fun hc24=>?_) (fun hc24=>?_)
    .
     exact at_ ⟨y,x%y⟩ (by dsimp only;exact⟨⟨h2,by have:=dQ x (show 0<y by omega);omega,by rw[OC,h3]⟩,(by exact dQ _ we)⟩)
    .
     refine cl J (uc (u:=x) h1) J<|rz J (by show dN x=_;rw[<-h3,show y=0 by omega,nW])
   .
    exact at_ () trivial
  .
   exact at_ () trivial
 .
  refine lp (fu:=⟨5⟩) (X:=Nat×Nat) (fun⟨x,y⟩=>[(0, .d (dN x)),(1, .d (dN y))]) (fun⟨x,y⟩=>[]) (fun⟨x,y⟩=>x<2^(ia+ib)/\y<2^(ia+ib)/\Nat.gcd x y=Nat.gcd a b) (fun⟨x,y⟩=>y) ⟨a,b⟩ J ⟨(ha.mono we).h,(hb.mono we).h,J⟩ (fun _=>J) (fun⟨x,y⟩ hk=>?_)
  try dsimp only at hk⊢
  obtain⟨h1,h2,h3⟩:=hk;have hly:=cd (dg y);haveI hx':BN x (ia+ib):=⟨h1⟩;haveI hy':BN y (ia+ib):=⟨h2⟩;refine ah 32 (.d (vI ((dg y).length:Nat))) J (by rw[hly];rfl)<|gx J<|br J J J (fun hc33=>?_) (fun hc33=>?_)
  .
   have hy0:0<y:=jM fun q=>by subst q;rw[vX] at hc33;simp at hc33
   refine cl J (yk (a:=x) (b:=y) (ia:=ia+ib) (ib:=ia+ib) hy0 we we) J<|at_ ⟨y,x%y⟩ (by dsimp only;exact⟨⟨h2,by have:=dQ x hy0;omega,by rw[OC,h3]⟩,(by exact dQ _ hy0)⟩)
  .
   have hy0:y=0:=wR.1 we;have hlx:=n9 h1;have hmx:=cd (dg x);refine tg J J<|ap _ J J (sr _) J<|jd 44 J<|rz J (by show DV.sl ([]++_)=_;rw[<-h3,hy0,nW];rfl)
def Mu(neg:Bool)(m:Nat):eI (zv neg m)= .ag [.v (.bool (neg&&decide (0<m))),dN m]:=by unfold eI;rw[tn,Nv]
def W6(z:Int):zv (!decide (z<0)) z.natAbs= -z:=by
 unfold zv;by_cases h:z<0<;>simp[h]<;>omega
def WD(a b:Int):zv (!(decide (a<0)==decide (b<0))) (a.natAbs*b.natAbs)=a*b:=by
 have h:=Q8 (decide (a<0)) (decide (b<0)) a.natAbs b.natAbs;rw[nk,nk] at h;exact h
def lw{neg:Bool}{m:Nat}:PF GB prog 103 [.v (.bool neg),dN m] (eI (zv neg m)):=by
 have hl:=cd (dg m);have hz:= @wR m;refine fn func103 J J ntmps103 J J (fun C=>?_);refine j' 6 J J J (fun hg6=>?_) (fun hg6=>?_)
 .
  exact rz J (by rw[Mu,hg6];show DV.ag [.v (.bool _),_]= .ag [.v (.bool _),_];congr 4;rw[qT];exact decide_eq_decide.2 we)
 .
  exact rz J (by rw[Mu,hg6];rfl)
structure In where
 lo:RV
 hi:RV
 nl:Bool
 nh:Bool
def In.v(z:In):Value:= .agg ⟨[.int .i64 z.lo.n, .int .i64 z.lo.d, .pointer z.lo.p, .int .i64 z.hi.n, .int .i64 z.hi.d, .pointer z.hi.p, .bool z.nl, .bool z.nh]⟩
section
variable {P:Program} {C:aH} {n:Nat} {fr:Fr} {own own' own1:List az} {G:Gh} {Φ:Act->World->Prop}
variable {dst:Option Nat} {t t' ty':TypeId} {pos:String} {af:Array Edge} {gd:Option (Nat×Bool)} {x y:Operand} {e s by_:Nat}
end

structure M8 where
 l:LV
 v:In
def M8.val(z:M8):Value:= .agg ⟨[.int .i64 z.l.a.n, .int .i64 z.l.a.d, .pointer z.l.a.p, .int .i64 z.l.b.n, .int .i64 z.l.b.d, .pointer z.l.b.p, .int .i64 z.l.c.n, .int .i64 z.l.c.d, .pointer z.l.c.p, .int .i64 z.v.lo.n, .int .i64 z.v.lo.d, .pointer z.v.lo.p, .int .i64 z.v.hi.n, .int .i64 z.v.hi.d, .pointer z.v.hi.p, .bool z.v.nl, .bool z.v.nh]⟩

section
variable {P:Program} {C:aH} {n:Nat} {fr:Fr} {own own':List az} {G:Gh} {Φ:Act->World->Prop}
variable {dst:Option Nat} {t t' ty':TypeId} {pos:String} {af:Array Edge} {gd:Option (Nat×Bool)} {x y:Operand} {e s by_:Nat}
def U0{o1 o2:az}{rest:List az}(h:o1.b≠o2.b->St C n fr (o1::o2::rest) G Φ):St C n fr (o1::o2::rest) G Φ:=
 fun a w rl=>h ((bM.1 rl.h.nd).1 _ aQ) a w rl
def DB[hT:cO P t e s by_]{k:IntKind}{b off len cap:Nat}{l:Int}(hx:aF fr x=some (.slice (some ⟨b,off,none⟩) len cap))(hy:aF fr y=some (.int k l))(h0:0<=l:=by omega)(h1:l<=len:=by omega)(h2:l<cap:=by omega):
  Yd P C fr own G ⟨dst, .slice t x (some y) none none,ty',pos,af,gd⟩ (.slice (some ⟨b,off+l.toNat*s,none⟩) (len-l.toNat) (cap-l.toNat)):=by
 have h:=EH (P:=P) (C:=C) (own:=own) (G:=G) (t:=t) (dst:=dst) (ty':=ty') (pos:=pos) (af:=af) (gd:=gd) (by_:=by_) hx hy h0 h1;unfold nP at h;rw[if_neg we] at h;simpa[rH] using h
end

section
variable {P:Program} {C:aH} {n:Nat} {fr:Fr} {own own':List az} {G:Gh} {Φ:Act->World->Prop}
variable {dst:Option Nat} {t t' ty':TypeId} {pos:String} {af:Array Edge} {gd:Option (Nat×Bool)} {x y:Operand} {e s by_:Nat}
end


structure ND where
 a:IV
 b:IV
 c:IV
 l:Int
 r:Int
def ND.val(z:ND):Value:= .agg ⟨[.bool z.a.neg, .slice z.a.a.a z.a.a.n z.a.a.c, .bool z.b.neg, .slice z.b.a.a z.b.a.n z.b.a.c, .bool z.c.neg, .slice z.c.a.a z.c.a.n z.c.a.c, .int .i64 z.l, .int .i64 z.r]⟩


structure N5 where
 x:SV
 p:Option Addr
def N5.val(z:N5):Value:= .agg ⟨[.slice z.x.a z.x.n z.x.c, .pointer z.p]⟩
structure LI where
 a:IV
 b:IV
 c:IV
def LI.val(z:LI):Value:= .agg ⟨[.bool z.a.neg, .slice z.a.a.a z.a.a.n z.a.a.c, .bool z.b.neg, .slice z.b.a.a z.b.a.n z.b.a.c, .bool z.c.neg, .slice z.c.a.a z.c.a.n z.c.a.c]⟩
def wF{a b:Int}(h:a=b):eI a=eI b:=by rw[h]
def Fl(z:Int):eQ (z:Rat)= .ag [.v (.bool (decide (z<0))),dN z.natAbs, .sl []]:=by unfold eQ;rw[pT,qN];rfl
def E4{a:Rat}(h:a.den=1):((a.num:Int):Rat)=a:=Rat.ext (pT _) (by rw[qN,h])
def XW{a b:Rat}(ha:a.den=1)(hb:b.den=1):a+b=((a.num+b.num:Int):Rat):=by
 rw[mY,E4 ha,E4 hb]
def av0{a b:Rat}(ha:a.den=1)(hb:b.den=1):a*b=((a.num*b.num:Int):Rat):=by
 rw[cS,E4 ha,E4 hb]
def yD(n:Nat)(h:0<n):(if n=1 then [] else(dg n).map dU).length=0↔n=1:=by
 by_cases q:n=1
 .simp[q]
 .rw[if_neg q,aK,wR];omega
def O8{n:Nat}(h:n≠1):dD n=dN n:=by unfold dD;rw[if_neg h];rfl
def Il{g:Nat}:(kj g 1=0)↔g=1:=by
 unfold kj;constructor
 .intro h;split at h
  .exact absurd h oma
  .split at h
   .assumption
   .exact absurd h oma
 .rintro rfl;rfl
def RO{x:Int}{d:Nat}(hd:0<d):zv (decide (x<0)) (x.natAbs/Nat.gcd x.natAbs d)=(mkRat x d).num:=by
 rw[Rat.num_mkRat,if_neg we,jK];have hg:0<Nat.gcd d x.natAbs:=mV _ hd;obtain⟨c,hc⟩:Nat.gcd d x.natAbs∣x.natAbs:=oZ _ _;generalize Nat.gcd d x.natAbs=g at*;rw[hc,Nat.mul_div_cancel_left _ hg];unfold zv;by_cases q:x<0
 .rw[if_pos (by simpa using q),show x=(g:Int)*(-(c:Int)) by rw[sS,<-iY];omega,Int.mul_ediv_cancel_left _ we]
 .rw[if_neg (by simpa using q),show x=(g:Int)*(c:Int) by rw[<-iY];omega,Int.mul_ediv_cancel_left _ we]
def NS{x:Int}{d:Nat}(hd:0<d):d/Nat.gcd x.natAbs d=(mkRat x d).den:=by
 rw[Rat.den_mkRat,if_neg we,jK]
def aIv{x:Int}{d:Nat}(hd:0<d)(h:Nat.gcd x.natAbs d=1):(mkRat x d).num=x/\(mkRat x d).den=d:=by
 rw[<-RO hd,<-NS hd,h,tT,tT];exact⟨nk x,J⟩
instance BI.zv (neg:Bool) (m i:Nat) [h:BN m i]:BI (zv neg m) i:=⟨by rw[tn];exact h.h⟩
section
variable {GB:Gh} {C:aH} {n:Nat} {Q0:Exit->Act->World->Prop} {fr fr':aD} {own own':aO} {cf cf':Cf} {vc:List Prop}
def RK(fr:aD)(cf:Cf):Option Int:=match dw fr cf with
 |some ⟨_, .convert t t' x,_,_,_,_⟩=>match eH tt t,eH tt t' with
  |some ⟨.int .i64,_,_,_⟩,some ⟨.int .u64,_,_,_⟩=>match ba (co fr cf) x with
   |some (.d (.v (.int .i64 p)))=>some p
   |_=>none
  |_,_=>none
 |_=>none
def Xo[fu:Fu]{p:Int}(q:Int)(h:RK fr cf=some p)(e:p%18446744073709551616=q)(hgo:dl tt n fu.n fr own cf (.d (.v (.int .u64 q))) [] []=⟨vc,fr',own',cf'⟩)(k:ao prog GB C n Q0 fr' own' cf')
  (hv:ae vc:=by first|exact trivial|(simp only[ae];omega)):ao prog GB C n Q0 fr own cf:=by
 unfold RK at h;split at h<;>try (cases h;done)
 rename_i hh;split at h<;>try (cases h;done)
 rename_i hT hT';split at h<;>cases h;rename_i hx;have:=Aa (fp _ _ hT) J;have:=Aa (fp _ _ hT') J;refine us hh (.x1 hx fun ρ G ov a w y _ r h1 h2=>?_) hgo hv k;rw[dq] at h2;subst h2;refine⟨_,dq.2 J,?_⟩;rw[<-e,<-sG];exact Ff h1
def MP(fr:aD)(cf:Cf):Option Int:=match dw fr cf with
 |some ⟨_, .unOp .neg _ x,_,_,_,_⟩=>match ba (co fr cf) x with
  |some (.d (.v (.int .u64 p)))=>some p
  |_=>none
 |_=>none
def ngw[fu:Fu]{p:Int}(q:Int)(h:MP fr cf=some p)(e:(0-p)%18446744073709551616=q)(hgo:dl tt n fu.n fr own cf (.d (.v (.int .u64 q))) [] []=⟨vc,fr',own',cf'⟩)(k:ao prog GB C n Q0 fr' own' cf')
  (hv:autoParam (ae vc) Xo._auto_1):ao prog GB C n Q0 fr own cf:=by
 unfold MP at h;split at h<;>try (cases h;done)
 rename_i hh;split at h<;>cases h;rename_i hx;refine us hh (.x1 hx fun ρ G ov a w y _ r h1 h2=>?_) hgo hv k;rw[dq] at h2;subst h2;refine⟨_,dq.2 J,?_⟩;rw[<-e,<-sG];exact IK h1
end
def TD{n:Int}(h0: -4611686018427387904<=n:=by omega)(h1:n<=4611686018427387904:=by omega):PF GB prog 63 [.v (.int .i64 n)] (eI n):=by
 refine fn func63 J J ntmps63 J J (fun C=>?_);refine br (fu1:=⟨3⟩) (fu2:=⟨6⟩) J J J (fun hc4=>?_) (fun hc4=>?_)
 .
  refine Xo (fu:=⟨0⟩) (18446744073709551616+n) J we J<|ngw (n.natAbs:Nat) J we J<|cl J (uc (u:=n.natAbs)) J<|cl J lw J<|rz J (wF (by unfold zv;rw[if_pos J];omega))
 .
  refine ah 11 (.d (.v (.int .u64 (n.natAbs:Nat)))) J (omi we)<|gx J<|cl J (uc (u:=n.natAbs)) J<|cl J lw J<|rz J (wF (by unfold zv;rw[if_neg oma];omega))
def CJ{z:Int}:PF GB prog 50 [eI z] (vI z.sign):=by
 have hl:=cd (dg z.natAbs);have hz:= @wR z.natAbs;refine fn func50 J J ntmps50 J J (fun C=>?_);refine br J J J (fun hc6=>?_) (fun hc6=>?_)
 .
  exact rz J okN
 .
  refine bd J J J (fun hc8=>?_) (fun hc8=>?_)
  .
   exact rz J ozl
  .
   exact rz J ozn
def A3{z:Int}:PF GB prog 51 [eI z] (eI (-z)):=by
 refine fn func51 J J ntmps51 J J (fun C=>?_);refine cl J lw J<|rz J (wF (W6 z))
def aAj{a b:Int}(h:decide (a<0)=decide (b<0)):zv (decide (a<0)) (a.natAbs+b.natAbs)=a+b:=by
 unfold zv;have h':a<0↔b<0:=by simpa using h
 by_cases q:a<0
 .have:=h'.1 q
  simp[q];omega
 .have: ¬b<0:=fun w=>q (h'.2 w)
  simp[q];omega
def Zo{a b:Int}(h: ¬decide (a<0)=decide (b<0))(k:a.natAbs<b.natAbs):zv (decide (b<0)) (b.natAbs-a.natAbs)=a+b:=by
 unfold zv;have h': ¬(a<0↔b<0):=by simpa using h
 by_cases q:b<0
 .have: ¬a<0:=fun w=>h' ⟨fun _=>q,fun _=>w⟩
  simp[q];omega
 .have:a<0:=Int.not_le.1 fun w=>h' ⟨fun e=>by omega,fun e=>absurd e q⟩
  simp[q];omega
def aDD{a b:Int}(h: ¬decide (a<0)=decide (b<0))(k:b.natAbs<=a.natAbs):zv (decide (a<0)) (a.natAbs-b.natAbs)=a+b:=by
 unfold zv;have h': ¬(a<0↔b<0):=by simpa using h
 by_cases q:a<0
 .have: ¬b<0:=fun w=>h' ⟨fun _=>w,fun _=>q⟩
  simp[q];omega
 .have:b<0:=Int.not_le.1 fun w=>h' ⟨fun e=>absurd e q,fun e=>by omega⟩
  simp[q];omega
def Ez{a b:Int}{i j:Nat}[ha:BI a i][hb:BI b j](hi:i<=400000000:=by decide)(hj:j<=400000000:=by decide):PF GB prog 115 [eI a,eI b] (eI (a+b)):=by
 have hba:=n9 ha.h;have hbb:=n9 hb.h;refine fn (fu:=⟨15⟩) func115 J J ntmps115 J J (fun C=>?_);refine ah 9 (.d (.v (.bool (decide (decide (a<0)=decide (b<0)))))) J (by congr 2)<|gx J<|bd J J J (fun hc9=>?_) (fun hc9=>?_)
 .
  refine cl J (WW we we) J<|cl J lw J<|rz J (wF (aAj hc9))
 .
  refine cl J (AW) J<|br J J J (fun hc23=>?_) (fun hc23=>?_)
  .
   refine cl J (HT (by have:=y7.1 hc23;omega) we) J<|cl J lw J<|rz J (wF (Zo hc9 (y7.1 hc23)))
  .
   refine cl J (HT (sV fun q=>hc23 (y7.2 q)) we) J<|cl J lw J<|rz J (wF (aDD hc9 (sV fun q=>hc23 (y7.2 q))))
def vo{a b:Int}{i j:Nat}[ha:BI a i][hb:BI b j](hi:i<=400000000:=by decide)(hj:j<=400000000:=by decide):PF GB prog 113 [eI a,eI b] (eI (a*b)):=by
 refine fn func113 J J ntmps113 J J (fun C=>?_);refine cl J (tv we we) J<|cl J lw J<|rz J (wF (WD a b))
def F9{a b:Int}{i j:Nat}[ha:BI a i][hb:BI b j](hi:i<=400000000:=by decide)(hj:j<=400000000:=by decide):PF GB prog 152 [eI a,eI b] (vI (a-b).sign):=by
 refine fn func152 J J ntmps152 J J (fun C=>?_);refine cl J A3 J<|cl J (Ez we we) J<|cl J CJ J<|rz J (by rw[Int.sub_eq_add_neg];rfl)
def lu{q:Rat}:PF GB prog 85 [eQ q] (dN q.den):=by
 refine fn func85 J J ntmps85 J J (fun C=>?_);refine br J J J (fun hc6=>?_) (fun hc6=>?_)
 .
  refine cl J Gm J<|rz J (by rw[(yD q.den (nG q)).1 we];rfl)
 .
  exact rz J (by exact O8 (fun e=>hc6 (by exact congrArg Int.ofNat ((yD q.den (nG q)).2 e))))
def N8{n k:Nat}[h:BN n k](hk:k<=500000000:=by omega):(dg n).length<=100000000:=by have:=n9 h.h;omega
def xT{x:Int}{d i j:Nat}[hx:BI x i][hd:BN d j](hd0:0<d)(hi:i<=200000000:=by decide)(hj:j<=200000000:=by decide):PF GB prog 79 [eI x,dN d] (eQ (mkRat x d)):=by
 obtain⟨q,hq⟩: ∃q,q=mkRat x d:=⟨_,rfl⟩;obtain⟨g,hg⟩: ∃g,g=Nat.gcd x.natAbs d:=⟨_,rfl⟩;have hg0:0<g:=hg▸oW _ hd0;haveI hgB:BN g (i+j):=hg▸inferInstance;have hg1:(dg g).length<=100000000:=N8 (k:=i+j);have ho1:(dg 1).length<=100000000:=by rw[AV];decide
 haveI hqB:BQ q (i+j):=hq▸BA hd0 (eY hx.h (cY oma we)) (eY hd.h (cY oma we));refine fn func79 J J ntmps79 J J (fun C=>?_);refine cl (fu:=⟨0⟩) J (Kl we we) J<|ah 11 (.d (dN g)) J (by rw[hg])<|gx (fu:=⟨4⟩) J<|mg (fu:=⟨1⟩) (X:=Unit) (fun _=>[(1, .d (dN q.den)),(2, .ov 2 0),(4, .ov 4 0)]) (fun _=>[(4,some (.o 57 [.ff, .nl, .nl] true)),(2,some (.o 55 [.d (.v (.bool (decide (q.num<0)))), .d (dN q.num.natAbs)] true))]) (fun _=>True) [1,2,4] [4,2] rfl ?_ (fun _=>J) (fun _ hm=>?_)
 .
  refine gx J<|cl J Gm J<|cl J (AW hg1 ho1) J<|br J J J (fun hc15=>?_) (fun hc15=>?_)
  .
   refine cl J (yk hg0 we we) J<|cl (fu:=⟨0⟩) J lw J<|ah 26 (.d (eI q.num)) J (by show FX.d (eI (zv _ _))=_;rw[hg,RO hd0,hq])<|gx J<|cl (fu:=⟨2⟩) J (yk hg0 we we) J<|ah 31 (.d (dN q.den)) J (by rw[hg,NS hd0,hq])<|gx J<|at_ () trivial
  .
   have hm:=aIv (x:=x) hd0 (by rw[<-hg];exact Il.1 (Decidable.not_not.1 hc15));rw[<-hq] at hm;refine ah 1 (.d (dN q.den)) J (by rw[hm.2])<|at_ () trivial (hO:=⟨J,by rw[hm.1];rfl,trivial⟩)
 .
  refine mg (X:=Unit) (fun _=>[(1, .d (dD q.den)),(2, .ov 2 0),(4, .ov 4 0)]) (fun _=>[(4,some (.o 57 [.ff, .nl, .nl] true)),(2,some (.o 55 [.d (.v (.bool (decide (q.num<0)))), .d (dN q.num.natAbs)] true))]) (fun _=>True) [1,2,4] [4,2] rfl ?_ (fun _=>J) (fun _ hm=>?_)
  .
   refine gx J<|cl J Gm J<|cl J (AW (N8 (k:=i+j)) ho1) J<|br J J J (fun hc36=>?_) (fun hc36=>?_)
   .
    refine WA 1 J<|ah 1 (.d (dD q.den)) J (by rw[Il.1 hc36];rfl)<|at_ () trivial
   .
    refine ah 1 (.d (dD q.den)) J (by rw[O8 (fun e=>hc36 (Il.2 e))])<|at_ () trivial
  .
   exact rz J (by rw[<-hq];rfl)
def P0(a:Rat):mkRat a.num a.den=a:=by simp[tV]
def P8{a b:Rat}(h:b≠0):a/b=mkRat (a.num*zv (decide (b.num<0)) b.den) (a.den*b.num.natAbs):=by
 rw[pX];have ha:(a.num:Rat)/(a.den:Rat)=a:=by rw[<-pX,P0]
 have hb:(b.num:Rat)/(b.den:Rat)=b:=by rw[<-pX,P0]
 have h1:(a.den:Rat)≠0:=by have:=a.den_nz;exact_mod_cast this
 have h2:(b.den:Rat)≠0:=by have:=b.den_nz;exact_mod_cast this
 have h3:(b.num:Rat)≠0:=by
  intro e;rw[e] at hb;apply h;rw[<-hb];grind
 rw[cS,Rat.natCast_mul];by_cases q:b.num<0
 .have e1:((zv (decide (b.num<0)) b.den:Int):Rat)= -(b.den:Rat):=by
   unfold zv;rw[if_pos (by simpa using q),iX];rfl
  have e2:((b.num.natAbs:Nat):Rat)= -(b.num:Rat):=by
   have:((b.num.natAbs:Nat):Int)= -b.num:=by omega
   rw[<-iX,<-this];rfl
  rw[e1,e2];generalize (a.num:Rat)=an at*;generalize (a.den:Rat)=ad at*;generalize (b.num:Rat)=bn at*;generalize (b.den:Rat)=bd at*;subst ha hb;grind
 .have e1:((zv (decide (b.num<0)) b.den:Int):Rat)=(b.den:Rat):=by
   unfold zv;rw[if_neg (by simpa using q)];rfl
  have e2:((b.num.natAbs:Nat):Rat)=(b.num:Rat):=by
   have:((b.num.natAbs:Nat):Int)=b.num:=by omega
   rw[<-this];rfl
  rw[e1,e2];generalize (a.num:Rat)=an at*;generalize (a.den:Rat)=ad at*;generalize (b.num:Rat)=bn at*;generalize (b.den:Rat)=bd at*;subst ha hb;grind
def auc{q:Rat}{n:Int}{d:Nat}(hd:0<d)(h:q*(d:Rat)=(n:Rat)):q.num.natAbs<=n.natAbs/\q.den<=d:=by
 have e:q=mkRat n d:=by
  rw[pX];have:(d:Rat)≠0:=by exact_mod_cast (by omega:d≠0)
  rw[<-h];grind
 rw[e,Rat.num_mkRat,Rat.den_mkRat,if_neg we,if_neg we];exact⟨nT n (d.gcd n.natAbs:Nat),mU ..⟩
theorem BQ.of_frac{q:Rat}{n:Int}{d i:Nat}(hd:0<d)(h:q*(d:Rat)=(n:Rat))(hn:n.natAbs<2^i)(hdi:d<2^i):BQ q i:=by
 have:=auc hd h;exact⟨we,we⟩
def Qo{b:Rat}(h:b≠0):0<b.num.natAbs:=by
 have:b.num≠0:=fun e=>h (mW.1 e);omega
instance BQ.over (a b:Rat) (i j:Nat) [ha:BQ a i] [hb:BQ b j]:BQ (a/b) (i+j):=by
 by_cases h:b=0
 .subst h
  rw[Rat.div_def,Rat.inv_zero,Rat.mul_zero];have h2:=ha.hd;have h3:0<a.den:=nG a;have h4:2^i*1<=2^i*2^j:=fV _ (gL oma);rw[<-fN] at h4;exact⟨by show 0<_;omega,by show 1<_;omega⟩
 .rw[P8 h]
  have hb0:=Qo h;refine BA (gM (nG a) hb0) ?_ (rO ha.hd hb.hn);rw[iR,tn];exact rO ha.hn hb.hd
def lh{n:Int}(h0: -4611686018427387904<=n:=by decide)(h1:n<=4611686018427387904:=by decide):PF GB prog 27 [.v (.int .i64 n)] (eQ (n:Rat)):=by
 refine fn func27 J J ntmps27 J J (fun C=>?_);refine cl J (TD) J<|rz J (by rw[Fl];rfl)
def qA{q:Rat}:PF GB prog 16 [eQ q] (vI q.num.sign):=by
 refine fn func16 J J ntmps16 J J (fun C=>?_);refine cl J CJ J<|rz J J
def sA{q:Rat}:PF GB prog 17 [eQ q] (eQ (-q)):=by
 refine fn func17 J J ntmps17 J J (fun C=>?_);refine cl J A3 J<|rz J (by unfold eQ;rw[nQ,qZ];rfl)
def jP{a b:Rat}{i j:Nat}[ha:BQ a i][hb:BQ b j](hi:i<=20000000:=by decide)(hj:j<=20000000:=by decide):PF GB prog 61 [eQ a,eQ b] (eQ (a*b)):=by
 have had:=nG a;have hbd:=nG b;have hdp:=gM had hbd;have e1:=yD a.den had;have e2:=yD b.den hbd;refine fn func61 J J ntmps61 J J (fun C=>?_);refine cs 9 J J J (fun hg9=>?_) (fun hg9=>?_)
 .
  refine br J J J (fun hc14=>?_) (fun hc14=>?_)
  .
   refine cl J (vo (a:=a.num) (b:=b.num) we we) J<|rz J (by rw[av0 (e1.1 we) (e2.1 we),Fl];rfl)
  .
   refine cl J (vo (a:=a.num) (b:=b.num) we we) J<|cl J lu J<|cl J lu J<|cl J (tv we we) J<|cl J (xT hdp we we) J<|rz J (by rw[BY];rfl)
 .
  refine cl J (vo (a:=a.num) (b:=b.num) we we) J<|cl J lu J<|cl J lu J<|cl J (tv we we) J<|cl J (xT hdp we we) J<|rz J (by rw[BY];rfl)
def qf{a b:Rat}{i j:Nat}[ha:BQ a i][hb:BQ b j](hi:i<=20000000:=by decide)(hj:j<=20000000:=by decide):PF GB prog 62 [eQ a,eQ b] (eQ (a+b)):=by
 have had:=nG a;have hbd:=nG b;have hdp:=gM had hbd;have e1:=yD a.den had;have e2:=yD b.den hbd;refine fn func62 J J ntmps62 J J (fun C=>?_);refine cs 9 J J J (fun hg9=>?_) (fun hg9=>?_)
 .
  refine br J J J (fun hc14=>?_) (fun hc14=>?_)
  .
   refine cl J (Ez we we) J<|rz J (by rw[XW (e1.1 we) (e2.1 we),Fl];rfl)
  .
   refine cl J lu J<|cl J lw J<|cl J (vo (a:=a.num) (b:=zv false b.den) we we) J<|cl J lu J<|cl J lw J<|cl J (vo (a:=b.num) (b:=zv false a.den) we we) J<|cl J (Ez we we) J<|cl J lu J<|cl J lu J<|cl J (tv we we) J<|cl J (xT hdp we we) J<|rz J (by rw[AL];rfl)
 .
  refine cl J lu J<|cl J lw J<|cl J (vo (a:=a.num) (b:=zv false b.den) we we) J<|cl J lu J<|cl J lw J<|cl J (vo (a:=b.num) (b:=zv false a.den) we we) J<|cl J (Ez we we) J<|cl J lu J<|cl J lu J<|cl J (tv we we) J<|cl J (xT hdp we we) J<|rz J (by rw[AL];rfl)
def ut{a b:Rat}{i j:Nat}[ha:BQ a i][hb:BQ b j](hi:i<=20000000:=by decide)(hj:j<=20000000:=by decide):PF GB prog 60 [eQ a,eQ b] (eQ (a-b)):=by
 refine fn func60 J J ntmps60 J J (fun C=>?_);refine cl J (sA (q:=b)) J<|cl J (qf (a:=a) (b:= -b) hi hj) J<|rz J (by rw[Rat.sub_eq_add_neg];rfl)
def yC{a b:Rat}{i j:Nat}[ha:BQ a i][hb:BQ b j](hb0:b≠0)(hi:i<=20000000:=by decide)(hj:j<=20000000:=by decide):PF GB prog 102 [eQ a,eQ b] (eQ (a/b)):=by
 have hbp:=Qo hb0;have hdp:=gM (nG a) hbp;refine fn func102 J J ntmps102 J J (fun C=>?_);refine cl J lu J<|cl J lw J<|cl J (vo (a:=a.num) (b:=zv (decide (b.num<0)) b.den) we we) J<|cl J lu J<|cl J (tv (a:=a.den) (b:=b.num.natAbs) we we) J<|cl J (xT (x:=a.num*zv (decide (b.num<0)) b.den) (d:=a.den*b.num.natAbs) hdp we we) J<|rz J (by rw[P8 hb0];rfl)
def lg{a b:Rat}{i j:Nat}[ha:BQ a i][hb:BQ b j](hi:i<=20000000:=by decide)(hj:j<=20000000:=by decide):PF GB prog 35 [eQ a,eQ b] (vI (bt a b)):=by
 refine fn func35 J J ntmps35 J J (fun C=>?_);refine cl J (ut hi hj) J<|cl J qA J<|rz J (by show vI _=vI _;rw[Df])
def Wu:((2:Int):Rat)≠0:=by decide
instance BI.two:BI 2 2:=⟨oma⟩
def Fz{a:Rat}{i:Nat}[ha:BQ a i](hi:i<=20000000:=by decide):PF GB prog 48 [eQ a] (eQ (a/2)):=by
 refine fn func48 J J ntmps48 J J (fun C=>?_);refine cl J (lh (n:=2)) J<|cl J (yC (a:=a) (b:=((2:Int):Rat)) Wu hi oma) J<|rz J J
def GS{a b:Rat}{i j:Nat}[ha:BQ a i][hb:BQ b j](hi:i<=2000000:=by decide)(hj:j<=2000000:=by decide):PF GB prog 186 [eQ a,eQ b] (eQ ((a+b)/2)):=by
 refine fn func186 J J ntmps186 J J (fun C=>?_);refine cl J (qf we we) J<|cl J (Fz (a:=a+b) we) J<|rz J J
end Go.Sx
end
