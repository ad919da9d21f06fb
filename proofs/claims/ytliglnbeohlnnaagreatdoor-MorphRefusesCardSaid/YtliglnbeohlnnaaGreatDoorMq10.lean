import Derived.Test.YtliglnbeohlnnaaGreatDoorMq9
set_option linter.all false
set_option maxHeartbeats 8000000
set_option maxRecDepth 100000
section
namespace Go.Sx
open Go Go.Proofs Tryz
variable {GB G:Gh}{C:aF}{n neg n1:Bool}{Q0:Exit->Act->World->Prop}{fr:Fr}{fr':aC}{own' own1 rest:List aB}{cf cf':Cf}{vc:List Prop}{q:Rat}{U k ia i T S u g ca s d j a' d' ib e by_ off cap:Nat}{m z:Int}{vs ws wa qs ds:List Nat}{P:Program}{Φ:Act->World->Prop}{dst:Option Nat}{t t' ty':TypeId}{pos:String}{af:Array Edge}{y:Operand}{α β:Type}
def aIU(c:Nat)(h:c<18446744073709551616):(BitVec.ofInt 64 (c:Int) &&& BitVec.ofInt 64 4294967295).toNat=c%4294967296:=by
 rw[BitVec.toNat_and,BitVec.ofInt_natCast,BitVec.toNat_ofNat,kQ we,show(BitVec.ofInt 64 4294967295).toNat=2^32-1 from J,Nat.and_two_pow_sub_one_eq_mod]
structure Ww (a b n s l:Nat):Prop where
 hn:(dg b).length=n+2
 hs:s=32-bl ((dg b).getD (n+1) 0)
 hb:bl ((dg b).getD (n+1) 0)<=32
 s32:s<32
 vl:(dg (b*2^s)).length=n+2
 v2:b*2^s<4294967296^(n+2)
 al:(dg a).length=n+1+l
 u0:(dg a).length<=(dg (a*2^s)).length
 u1:a*2^s<4294967296^((dg a).length+1)
 u3:a*2^s<b*2^s*4294967296^l
 bp:0<b
def VJ{a b:Nat}(hb2:2<=(dg b).length)(hle:b<=a): ∃n s l,Ww a b n s l:=by
 have hoa:=gt a;have hob:=gt b;have hna:=(eE a).2.2;have hnb:=(eE b).2.2;have ea:=c8 a;have eb:=c8 b;obtain⟨n,hn⟩: ∃n,(dg b).length=n+2:=⟨(dg b).length-2,we⟩;have hbp:0<b:=fZ fun h=>by subst h;rw[sj] at hb2;simp at hb2
 have hnm:(dg b).length<=(dg a).length:=by
  rcases gN (dg a).length (dg b).length with h|h
  .have:=y8 hoa hnb h
   omega
  .exact h
 have htp:=Qn hnb (n+1) hn;have htl:=hob.get (n+1);have hbv:=aMv hob (n+1) hn;have hbt:=DW hob (n+1);obtain⟨s,hs⟩: ∃s,s=32-bl ((dg b).getD (n+1) 0):=⟨_,rfl⟩;obtain⟨hs32,hs1,hs2⟩:=Wg htp htl hs;have hpn:0<4294967296^(n+1):=iX oma;have hps:0<2^s:=iX oma;rw[eb] at hbv;have hV1:2147483648*4294967296^(n+1)<=b*2^s:=by
  refine cN (bR _ hs1) ?_;rw[cY,cW (2^s),<-cY];exact bR _ we
 have hV2:b*2^s<4294967296^(n+2):=by
  refine cM (nV (k:=2^s) (m:=((dg b).getD (n+1) 0+1)*4294967296^(n+1)) (by rw[dY,nU];omega) hps) ?_;rw[cY,cW (4294967296^(n+1)),<-cY,w9 (n+1),cW _ 4294967296];exact bR _ hs2
 have hVl:(dg (b*2^s)).length=n+2:=Y3 (by show 4294967296^(n+1)<=_;omega) hV2 we;have hal:=k8 hoa;rw[ea] at hal;have hU2:a*2^s<4294967296^((dg a).length+1):=by
  rw[w9];exact sS hal (cM (Nat.pow_lt_pow_right oma hs32) oma)
 have hUl0:(dg a).length<=(dg (a*2^s)).length:=by
  have hane:dg a≠[]:=fun h=>by
   have:=congrArg List.length h;simp only[fX] at this;omega
  have h1:=wT hna hane;have h2:=k8 (eE (a*2^s)).2.1;rw[(eE _).1] at h2;rw[ea] at h1;have h3:a<=a*2^s:=mZ _ hps;have h4:=(oV (a:=4294967296) oma).1 (dZ (cN h1 h3) h2);omega
 have hU3:a*2^s<b*2^s*4294967296^((dg a).length-n-1):=by
  have h1:4294967296^(n+1)*4294967296^((dg a).length-n-1)=4294967296^(dg a).length:=by rw[<-fT,show n+1+((dg a).length-n-1)=(dg a).length by omega]
  refine cM (nV hal hps) (cN (gU _ (cZ oma (show s<=31 by omega))) ?_);rw[<-h1,cW,<-cY];exact bR _ hV1
 exact⟨n,s,(dg a).length-n-1,hn,hs,nf.2 htl,hs32,hVl,hV2,we,hUl0,hU2,hU3,hbp⟩
section
variable {n:Nat}{fr:aC}{own own':aO}
def S6(fr:aC)(cf:Cf):Option (Int×Int):=match c6 fr cf with
 |some ⟨_, .binOp .add _ x y _,_,_,_,_⟩=>match bj (cd fr cf) x,bj (cd fr cf) y with
  |some (.d (.v (.int .u32 p))),some (.d (.v (.int .u32 q)))=>some (p,q)
  |_,_=>none
 |_=>none
def aw[fu:Fu]{p q:Int}(u:Int)(h:S6 fr cf=some (p,q))(e:IntKind.u32.wrap (p+q)=u)(hgo:cB tt n fu.n fr own cf (.d (.v (.int .u32 u))) [] []=⟨vc,fr',own',cf'⟩)(k:aA prog GB C n Q0 fr' own' cf')
  (hv:autoParam (ak vc) cL._auto_1):aA prog GB C n Q0 fr own cf:=by
 unfold S6 at h;split at h<;>try (cases h;done)
 rename_i hh;split at h<;>cases h;rename_i h1 h2;subst e;exact us hh (.yd fun ρ G ov a w r=>by
  obtain⟨y1,h3,h4⟩:=r.ev h1;obtain⟨y2,h5,h6⟩:=r.ev h2;rw[dk] at h4 h6;subst h4 h6;exact⟨_,dk.2 J,ly h3 h5 fun w=>J⟩) hgo hv k
end
def azC{m:Nat}(h:U<4294967296^m):dv ((dg U++[0,0]).take m)=U:=by
 have h1:dv (dg U++[0,0])=U:=by rw[show([0,0]:List Nat)=List.replicate 2 0 from J,Zx,c8]
 have h2:=xI (dg U++[0,0]) m;rw[Bg (by rw[h1];exact h),h1] at h2;omega
def aJb{a:Nat}[h:BN a ia](hv:vs=dg (a*2^k))(hk:k<32)(h0:0<(dg a).length)(hi:ia<=1000000000):PR GB prog 292 [dN a, .v (.int .u64 (k:Nat))] 1 301 (vs.map dU):=by
 subst hv;exact RZ hk h0 hi
def Xo{us:List Nat}{n:Nat}(huo:bt us)(hvo:bt vs)(hvB:dv vs<4294967296^(n+2))(hv0:0<dv vs)(hvh:dv vs=(T*4294967296+S)*4294967296^n+dv (vs.take n))(hlt:dv us<dv vs*4294967296^(i+1)):
  ∃f p V w:Nat,f=us.getD (i+n+2) 0*4294967296+us.getD (i+n+1) 0/\V=dv vs*4294967296^i/\0<V/\dv us<V*4294967296/\(f*4294967296+us.getD (i+n) 0)*p<=dv us/\dv us<(f*4294967296+us.getD (i+n) 0+1)*p/\V=(T*4294967296+S)*p+w/\w<p/\dv us<4294967296^(i+n+3):=by
 have hpi:0<4294967296^i:=iX oma;obtain⟨p,hp⟩: ∃p,p=4294967296^(i+n):=⟨_,rfl⟩;have hM:dv us<4294967296^(i+n+3):=by
  refine cM hlt ?_;rw[show i+n+3=(n+2)+(i+1) by omega,fT 4294967296 (n+2) (i+1)];exact bR _ (fR hvB)
 have huh:=aMB huo (i+n) hM;have hu0:=DW huo (i+n);rw[<-hp] at huh hu0;refine⟨_,p,_,dv (vs.take n)*4294967296^i,J,J,iY hv0 hpi,by rw[cY,<-w9];exact hlt,we,by rw[dY _ 1,nU];omega,?_,?_,hM⟩
 .rw[hvh,dY,hp,fT,cW (4294967296^i),cY]
 .rw[hp,fT,cW]
  exact Nat.mul_lt_mul_of_pos_left (DW hvo n) hpi
def aEz{bo c c1 xx:Nat}(hl:i+k<ws.length)(hw:dv ws+g*(dv (vs.take k)*4294967296^i)=u+(bo+c)*4294967296^(i+k))(hc1:c1=c+g*vs.getD k 0)(hx1:xx%4294967296+(c1%4294967296+bo)=ws.getD (i+k) 0+xx/9223372036854775808*4294967296):
  dv (ws.set (i+k) (xx%4294967296))+g*(dv (vs.take (k+1))*4294967296^i)=u+(xx/9223372036854775808+c1/4294967296)*4294967296^(i+(k+1)):=by
 rw[ph,dY (dv (vs.take k)),<-lL i k 1,w9,show 4294967296^k*vs.getD k 0*4294967296^i=vs.getD k 0*4294967296^(i+k) by rw[fT,cW (4294967296^k),cY,cW (4294967296^k)],eX,<-cY g (vs.getD k 0)];exact YI (xj ws (i+k) _ hl) hw hc1 hx1
def aFK(hl:i+k<wa.length)(ha:dv wa+ca*4294967296^(i+k)=u+dv (vs.take k)*4294967296^i):
  dv (wa.set (i+k) ((ca+(wa.getD (i+k) 0+vs.getD k 0))%4294967296))+(ca+(wa.getD (i+k) 0+vs.getD k 0))/4294967296*4294967296^(i+(k+1))=u+dv (vs.take (k+1))*4294967296^i:=by
 rw[ph,dY (dv (vs.take k)),<-lL i k 1,w9,show 4294967296^k*vs.getD k 0*4294967296^i=vs.getD k 0*4294967296^(i+k) by rw[fT,cW (4294967296^k),cY,cW (4294967296^k)]];exact aEp (xj wa (i+k) _ hl) ha
def aAu{a b n:Nat}{us:List Nat}(hp:0<2^s)(hvv:dv vs=b*2^s)(hv0:0<dv vs)(hvB:dv vs<4294967296^(n+2))(hinv:a*2^s=dv us+dv vs*dv qs)(hlt:dv us<dv vs*4294967296^0):dv qs=a/b/\dv (us.take (n+2))/2^s=a%b:=by
 rw[uU,jS] at hlt;have hut:dv (us.take (n+2))=dv us:=by
  have h0:=xI us (n+2);rw[Bg we] at h0;omega
 refine⟨?_,?_⟩
 .rw[<-Nat.mul_div_mul_right _ _ hp,hinv,<-hvv,qZ _ _ hv0,nQ hlt,eM]
 .have:dv us=a%b*2^s:=by rw[<-Nat.mul_mod_mul_right,hinv,<-hvv,qW,kQ hlt]
  rw[hut,this,Nat.mul_div_cancel _ hp]
def ZU{l:Nat}(hl:i<qs.length)(h:qs.getD i 0=0):dv (qs.set i d)=dv qs+4294967296^i*d:=by
 have:=xj qs i d hl;rw[h] at this;simpa using this
def Rf{a R V v:Nat}(hl:i<qs.length)(h0:qs.getD i 0=0)(hinv:a*2^s=u+v*dv qs)(hV:V=v*4294967296^i)(h:R+d*V=u):a*2^s=R+v*dv (qs.set i d):=by
 rw[hinv,<-h,ZU (l:=0) hl h0,eX,<-cY,<-hV,cW d];omega
def Uw(hq: ∀j,j<i+1->qs.getD j 0=0): ∀j,j<i->(qs.set i d).getD j 0=0:=fun j h=>by
 rw[getD_set_ne];exact hq j we
theorem omz{p:Prop}(h:p:=by show FX.d (.v (.int _ _))= .d (.v (.int _ _));first|rfl|congr 3):p:=h
theorem oku{p:Prop}(h:p:=by first|omega|(have hd:=H9 hUlt hVle hfg;rcases fL g with e|e;(rw[e,kS] at hd;omega);omega)):p:=h
def aJr{a b ia ib:Nat}[h:BN a ia][k:BN b ib](h2:2<=(dg b).length)(hle:b<=a)(hi:ia<=1000000000:=by decide)(hj:ib<=1000000000:=by decide):PF GB prog 276 [dN a,dN b] (.tp [dN (a/b),dN (a%b)]):=by
 have hla:=b7 (dg a);have hba:=jl (a:=a) hi;have hlb:=b7 (dg b);have hbb:=jl (a:=b) hj;obtain⟨n,s,l,P⟩:=VJ h2 hle;have hn:=P.hn;have hs:=P.hs;have hsb:=P.hb;have hs32:=P.s32;have hal:=P.al;have hu0:=P.u0;have hu9:=Af (a:=a*2^s) (k:=(dg a).length+1) P.u1;have htl:=ef b (n+1);obtain⟨vs,hvs⟩: ∃vs,vs=dg (b*2^s):=⟨_,rfl⟩;have hvl:vs.length=n+2:=by rw[hvs];exact P.vl
 have hvv:dv vs=b*2^s:=by rw[hvs,c8]
 have hvo:bt vs:=by rw[hvs];exact gt _
 have hvn:dG vs:=by rw[hvs];exact(eE _).2.2
 have hvm:=b7 vs;obtain⟨us0,hus0⟩: ∃us0,us0=(dg (a*2^s)++[0,0]).take ((dg a).length+1):=⟨_,rfl⟩;have husv:dv us0=a*2^s:=by rw[hus0];exact azC P.u1
 have huso:bt us0:=by rw[hus0];exact((gt _).append (.replicate 2)).take _
 have husl:us0.length=(dg a).length+1:=by rw[hus0];simp;omega
 have hps:0<2^s:=iX oma;have hbp:=P.bp;have hV0':0<dv vs:=by rw[hvv];exact iY hbp hps
 have hvB:dv vs<4294967296^(n+2):=by rw[hvv];exact P.v2
 obtain⟨T,hT⟩: ∃T,T=vs.getD (n+1) 0:=⟨_,rfl⟩;obtain⟨S,hS⟩: ∃S,S=vs.getD n 0:=⟨_,rfl⟩;have hTB:T<4294967296:=by rw[hT];exact hvo.get _
 have hSB:S<4294967296:=by rw[hS];exact hvo.get _
 have hT0:0<T:=by rw[hT];exact Qn hvn (n+1) hvl
 have hvh:=ZQ hvo n hvB;rw[<-hT,<-hS] at hvh;refine fn (fu:=⟨12⟩) func276 J J ntmps276 J J (fun C=>?_);refine aj 27 (.d (vI ((dg b).length:Nat))) J omT<|gx J<|ix _ J (cP (k:=n+1)) J<|cl (fu:=⟨1⟩) J (Im htl) J<|aj 32 (.d (.v (.int .u64 (s:Nat)))) J (omi we)<|gx J<|cr J (RZ (a:=a) (k:=s) hs32 we hi) J<|rf J J<|ap (fu:=⟨2⟩) _ J J (CJ J) J<|aj 39 (.d (vI ((dg a).length:Nat))) J omt<|gx (fu:=⟨1⟩) J<|aj 40 (.d (vI ((dg a).length+1:Nat))) J omj<|gx (fu:=⟨0⟩) J<|T2 (us0.map dU) ((dg a).length+1) J J omp (by rw[hus0,fN,aM];rfl) J<|cr (fu:=⟨7⟩) J (aJb (a:=b) (k:=s) (vs:=vs) hvs hs32 we hj) J<|aj 46 (.d (vI (n+2:Nat))) J (by rw[hvm,hvl]<;>rfl)<|gx J<|lb (fu:=⟨1⟩) _ J (cP (k:=n+1)) J<|aj 52 (.d (.v (.int .u64 (T:Nat)))) J (by show FX.d (.v (.int _ _))= .d (.v (.int _ _));rw[hT])<|gx J<|lb (fu:=⟨1⟩) _ J (cP (k:=n)) J<|aj 58 (.d (.v (.int .u64 (S:Nat)))) J (by show FX.d (.v (.int _ _))= .d (.v (.int _ _));rw[hS])<|gx (fu:=⟨8⟩) J<|aj 60 (.d (vI ((dg a).length+1:Nat))) J (by rw[b7,husl]<;>rfl)<|gx (fu:=⟨2⟩) J<|aj 62 (.d (vI (l:Nat))) J (omi we)<|gx J<|mk (fu:=⟨11⟩) ((List.replicate l 0).map dU) J J omI J<|aj 65 (.d (vI (l:Nat))) J (by rw[b7,aL]<;>rfl)<|gx J<|lp (X:=List Nat×List Nat×Nat) (fun⟨us,qs,j⟩=>[(13, .d (vI ((j:Nat)-1)))]) (fun⟨us,qs,j⟩=>[(63,some (.b 301 1 (qs.map dU) true)),(41,some (.b 301 1 (us.map dU) true))]) (fun⟨us,qs,j⟩=>us.length=(dg a).length+1/\bt us/\qs.length=l/\bt qs/\j<=l/\(∀i,i<j->qs.getD i 0=0)/\a*2^s=dv us+dv vs*dv qs/\dv us<dv vs*4294967296^j) (fun⟨us,qs,j⟩=>j) ⟨us0,List.replicate l 0,l⟩ J ⟨husl,huso,omc, .replicate _,bJ _,fun i _=>Gc _ _,by simp only[zp];omega,by rw[husv,hvv];exact P.u3⟩ (fun _=>J) (fun⟨us,qs,j⟩ hk=>?_)
 try dsimp only at hk⊢
 obtain⟨hul,huo,hql,hqo,hjl,hq0,hinv,hlt⟩:=hk;refine br (fu1:=⟨0⟩) (fu2:=⟨0⟩) J J J (fun hc68=>?_) (fun hc68=>?_)
 .
  obtain⟨i,rfl⟩: ∃i,j=i+1:=⟨j-1,we⟩;refine aj 13 (.d (vI (i:Nat))) J (omi we) ?_;obtain⟨f,p,V,v0,hf,hV,hVp0,hltV,hUle,hUlt,hVp,hv0,hM⟩:=Xo (n:=n) (i:=i) huo hvo hvB hV0' hvh hlt;have hVle:(T*4294967296+S)*p<=V:=by rw[hVp];exact oM _ _
  have hfT:f<=T*4294967296+S:=aNV hUle hVp hv0 hltV;have hg0:=huo.get (i+n);have hg1:=huo.get (i+n+1);have hg2:=huo.get (i+n+2);have hum:=b7 us;have hqm:=b7 qs;refine gx J<|lb (fu:=⟨2⟩) (hv:=by simp only[ak];exact⟨we,oma⟩) _ J (cP (k:=i+n+2)) J<|aj 78 (.d (.v (.int .u64 (us.getD (i+n+2) 0*4294967296:Nat)))) J oms<|gx J<|lb (fu:=⟨2⟩) _ J (cP (k:=i+n+1)) J<|aj 87 (.d (.v (.int .u64 (f:Nat)))) J (congrArg (fun z:Nat=>FX.d (.v (.int .u64 (z:Int)))) ((congrArg BitVec.toNat (BitVec.or_comm ..)).trans ((rD 64 (us.getD (i+n+1) 0) (us.getD (i+n+2) 0) 32 hg1 omu).trans (by show _+_*4294967296=_;omega))))<|gx (fu:=⟨8⟩) (hv:=by simp only[ak];exact⟨omd,we⟩) J<|aj 90 (.d (.v (.int .u64 (f/T:Nat)))) J omz<|gx (fu:=⟨3⟩) J<|aj 93 (.d (.v (.int .u64 (f%T:Nat)))) J omz<|gx (fu:=⟨5⟩) J<|mg (fu:=⟨11⟩) (X:=Nat) (fun g=>[(15, .d (.v (.int .u64 (g:Nat))))]) (fun g=>[]) (fun g=>g<4294967296/\dv us<(g+1)*V/\g*V<dv us+V) [15,16] [] rfl ?_ (fun _=>J) (fun g ⟨hgB,hlo,hhi⟩=>?_)
  .
   refine gx J<|lp (fu:=⟨5⟩) (hv:=fun _ _=>by simp only[ak];exact oma) (X:=Nat×Nat) (fun⟨g,r⟩=>[(15, .d (.v (.int .u64 (g:Nat)))),(16, .d (.v (.int .u64 (r:Nat))))]) (fun⟨g,r⟩=>[]) (fun⟨g,r⟩=>f=g*T+r/\r<4294967296/\dv us<(g+1)*V) (fun⟨g,r⟩=>g) ⟨f/T,f%T⟩ J ⟨(Nat.div_add_mod' ..).symm,uY (dK _ hT0) hTB,Vr hUlt hg0 hVle hT0⟩ (fun _=>J) (fun⟨g,r⟩ hk=>?_)
   try dsimp only at hk⊢
   obtain⟨hfg,hrB,hlo⟩:=hk;have hgT:g*1<=g*T:=gU _ hT0;refine aj 95 (.d (.v (.int .u64 (g/4294967296:Nat)))) rfl okz<|gx rfl<|cs (fu1:=⟨26⟩) (v1:=fun hg97=>by simp only[ak];exact oku) (fu2:=⟨3⟩) (v2:=fun hg97=>by simp only[ak];exact⟨(B8 _ _),(Aw (show g<4294967296 by omega) hSB)⟩) 97 J J J (fun hg97=>?_) (fun hg97=>?_)
   .
    have hgB4:4294967296<=g:=by omega
    have hdec:dv us<g*V:=cM hltV (by rw[cW];exact bR _ hgB4);obtain⟨g',rfl⟩: ∃g',g=g'+1:=⟨g-1,by rcases fL g with h|h;(rw[h,kS] at hdec;omega);omega⟩;have hfg':f=g'*T+(r+T):=by rw[hfg,dY,nU];omega
    refine aj 115 (.d (.v (.int .u64 (g':Nat)))) J (omi we)<|gx (fu:=⟨8⟩) J<|aj 118 (.d (.v (.int .u64 (r+T:Nat)))) J omz<|gx (fu:=⟨7⟩) (hv:=by simp only[ak];exact oma) J<|aj 120 (.d (.v (.int .u64 ((r+T)/4294967296:Nat)))) J okz<|gx J<|br J J J (fun hc121=>?_) (fun hc121=>?_)
    .
     have hgB3:g'<4294967296:=by rcases gN g' 4294967296 with h|h;(exact h);(have:=bR T h;omega)
     have hgS3:g'*S<=(r+T)*4294967296+us.getD (i+n) 0:=by have h1:=fU (fR hgB3) (fR hSB);omega
     exact at_ g' ⟨hgB3,hdec,Lt hUle hVp hv0 hT0 hfg' hgB3 hgS3⟩
    .
     exact at_ ⟨g',r+T⟩ (by dsimp only;exact⟨⟨hfg',we,hdec⟩,we⟩)
   .
    have hgB:g<4294967296:=by omega
    have hgS:g*S<4294967296*4294967296:=sS hgB hSB;refine aj 100 (.d (.v (.int .u64 (g*S:Nat)))) rfl (by rw[jQ])<|gx (fu:=⟨2⟩) (hv:=by simp only[ak];exact oma) rfl<|aj 102 (.d (.v (.int .u64 (r*4294967296:Nat)))) rfl (by show FX.d (.v (.int _ _))= .d (.v (.int _ _));rw[rp _ 32 oma omG rfl])<|gx rfl<|lb (fu:=⟨2⟩) _ rfl (cP (k:=i+n)) rfl<|aj 111 (.d (.v (.int .u64 (r*4294967296+us.getD (i+n) 0:Nat)))) rfl (congrArg (fun z:Nat=>FX.d (.v (.int .u64 (z:Int)))) ((congrArg BitVec.toNat (BitVec.or_comm ..)).trans ((rD 64 (us.getD (i+n) 0) (r) 32 hg0 omu).trans (by show _+_*4294967296=_;omega))))<|gx rfl<|br (fu1:=⟨7⟩) (v1:=fun hc113=>by simp only[ak];exact oku) rfl rfl rfl (fun hc113=>?_) (fun hc113=>?_)
    .
     have hdec:dv us<g*V:=H9 hUlt hVle hfg;obtain⟨g',rfl⟩: ∃g',g=g'+1:=⟨g-1,by rcases fL g with h|h;(rw[h,kS] at hdec;omega);omega⟩;have hfg':f=g'*T+(r+T):=by rw[hfg,dY,nU];omega
     refine aj 115 (.d (.v (.int .u64 (g':Nat)))) J (omi we)<|gx (fu:=⟨8⟩) J<|aj 118 (.d (.v (.int .u64 (r+T:Nat)))) J omz<|gx (fu:=⟨7⟩) (hv:=by simp only[ak];exact oma) J<|aj 120 (.d (.v (.int .u64 ((r+T)/4294967296:Nat)))) J okz<|gx J<|br J J J (fun hc121=>?_) (fun hc121=>?_)
     .
      have hgB3:g'<4294967296:=by rcases gN g' 4294967296 with h|h;(exact h);(have:=bR T h;omega)
      have hgS3:g'*S<=(r+T)*4294967296+us.getD (i+n) 0:=by have h1:=fU (fR hgB3) (fR hSB);omega
      exact at_ g' ⟨hgB3,hdec,Lt hUle hVp hv0 hT0 hfg' hgB3 hgS3⟩
     .
      exact at_ ⟨g',r+T⟩ (by dsimp only;exact⟨⟨hfg',we,hdec⟩,we⟩)
    .
     exact at_ g ⟨hgB,hlo,Lt hUle hVp hv0 hT0 hfg hgB we⟩
  .
   refine aj 123 (.d (vI (n+2:Nat))) J (by rw[hvm,hvl]<;>rfl)<|gx J<|lp (X:=List Nat×Nat×Nat×Nat) (fun⟨ws,k,bo,c⟩=>[(124, .d (vI (k:Nat))),(17, .d (.v (.int .u64 (bo:Nat)))),(18, .d (.v (.int .u64 (c:Nat))))]) (fun⟨ws,k,bo,c⟩=>[(41,some (.b 301 1 (ws.map dU) true))]) (fun⟨ws,k,bo,c⟩=>ws.length=(dg a).length+1/\bt ws/\k<=n+2/\bo<=1/\c<4294967296/\dv ws<4294967296^(i+n+3)/\dv ws+g*(dv (vs.take k)*4294967296^i)=dv us+(bo+c)*4294967296^(i+k)) (fun⟨ws,k,bo,c⟩=>n+2-k) ⟨us,0,0,0⟩ J ⟨hul,huo,aS _,aS _,oma,hM,by simp[dv]⟩ (fun _=>J) (fun⟨ws,k,bo,c⟩ hk=>?_)
   try dsimp only at hk⊢
   obtain⟨hwl,hwo,hk2,hbo,hc4,hwM,hw⟩:=hk;refine br J J J (fun hc125=>?_) (fun hc125=>?_)
   .
    have hvk:=hvo.get k;have hwg:=hwo.get (i+k);have hgd:g*vs.getD k 0<=4294967295*4294967295:=fU we we;obtain⟨c1,hc1⟩: ∃c1,c1=c+g*vs.getD k 0:=⟨_,rfl⟩;have hc1m:c1%4294967296<4294967296:=dK _ oma;obtain⟨hx1,hx2,hx3⟩:=Rg (ws.getD (i+k) 0) (c1%4294967296) bo hwg hc1m hbo;obtain⟨xx,hxx⟩: ∃x,x=uk (ws.getD (i+k) 0) (c1%4294967296) bo:=⟨_,rfl⟩;rw[<-hxx] at hx1 hx2 hx3;have hwm:=b7 ws;refine lb (fu:=⟨11⟩) (hv:=by simp only[ak];exact⟨we,⟨(B8 _ _),(Aw hgB hvk)⟩⟩) _ J (fe) J<|aj 133 (.d (.v (.int .u64 (g*vs.getD k 0:Nat)))) J (by rw[jQ])<|gx (fu:=⟨1⟩) J<|aj 134 (.d (.v (.int .u64 (c1:Nat)))) J (omi we)<|gx J<|lb (fu:=⟨3⟩) _ J (cP (k:=i+k)) J<|aj 143 (.d (.v (.int .u64 (c1%4294967296:Nat)))) J (congrArg (fun z:Nat=>FX.d (.v (.int .u64 (z:Int)))) (aIU c1 we))<|gx (fu:=⟨0⟩) J<|sd (fu:=⟨1⟩) (IntKind.u64.wrap (((ws.getD (i+k) 0:Nat):Int)-((c1%4294967296:Nat):Int))) J J J<|sd (fu:=⟨11⟩) ((xx:Nat):Int) J (by rw[hxx];exact Gi _ _ _ hwg hc1m hbo) J<|aj 152 (.d (dU (xx%4294967296))) J omj<|gx J<|sb (fu:=⟨6⟩) (hv:=by simp only[ak];exact oma) _ ((ws.set (i+k) (xx%4294967296)).map dU) J (cP (k:=i+k)) J (by(rw[show((i:Int)+k).toNat=i+k by omega,<-jI])<;>rfl) J<|aj 155 (.d (.v (.int .u64 (xx/9223372036854775808:Nat)))) J (by rw[JY])<|gx (fu:=⟨6⟩) (hv:=by simp only[ak];exact oma) J<|aj 157 (.d (.v (.int .u64 (c1/4294967296:Nat)))) J okz<|gx J<|at_ ⟨ws.set (i+k) (xx%4294967296),k+1,xx/9223372036854775808,c1/4294967296⟩ (by dsimp only;exact⟨⟨by simpa using hwl,hwo.set _ (dK _ oma),we,hx2,we,F2 hwo (dK _ oma) hwM,aEz we hw hc1 hx1⟩,we⟩)
   .
    obtain rfl:k=n+2:=by omega
    rw[bS we,<-hV] at hw;have hwg:=hwo.get (i+n+2);obtain⟨hx1,hx2,hx3⟩:=Rg (ws.getD (i+n+2) 0) c bo hwg hc4 hbo;obtain⟨xx,hxx⟩: ∃x,x=uk (ws.getD (i+n+2) 0) c bo:=⟨_,rfl⟩;rw[<-hxx] at hx1 hx2 hx3;have hwm:=b7 ws;obtain⟨ws2,hws2⟩: ∃z,z=ws.set (i+n+2) (xx%4294967296):=⟨_,rfl⟩;have hl2:=aGr (xj ws (i+n+2) (xx%4294967296) we) hw hx1;rw[<-w9,<-hws2] at hl2;have hM2:=F2 (i:=i+n+2) (d:=xx%4294967296) hwo (dK _ oma) hwM;have ho2:=hwo.set (i+n+2) (d:=xx%4294967296) (dK _ oma);have hn2:ws2.length=(dg a).length+1:=by rw[hws2,bQ];exact hwl
    rw[<-hws2] at hM2 ho2;replace hl2:dv ws2+g*V=dv us+xx/9223372036854775808*4294967296^(i+n+3):=hl2;have hqi:=hq0 i we;obtain⟨q2,hq2⟩: ∃z,z=qs.set i g:=⟨_,rfl⟩;have hq2l:q2.length=l:=by rw[hq2,bQ];exact hql
    have hq2m:=b7 q2;have hwm2:=b7 ws2;refine lb (fu:=⟨2⟩) _ J (cP (k:=i+n+2)) J<|sd (fu:=⟨1⟩) (IntKind.u64.wrap (((ws.getD (i+n+2) 0:Nat):Int)-((c:Nat):Int))) J J J<|sd (fu:=⟨11⟩) ((xx:Nat):Int) J (by rw[hxx];exact Gi _ _ _ hwg hc4 hbo) J<|aj 175 (.d (dU (xx%4294967296))) J omj<|gx J<|sb (fu:=⟨8⟩) _ (ws2.map dU) J (cP (k:=i+n+2)) J (by(rw[hws2,show((i:Int)+((n+2:Nat):Int)).toNat=i+n+2 by omega,<-jI])<;>rfl) J<|aj 180 (.d (dU g)) J (omi we)<|gx J<|sb (fu:=⟨7⟩) (hv:=by simp only[ak];exact oma) _ (q2.map dU) J (fe) J (by rw[hq2,<-jI];rfl) J<|aj 183 (.d (.v (.int .u64 (xx/9223372036854775808:Nat)))) J (by rw[JY])<|gx J<|br J J J (fun hc184=>?_) (fun hc184=>?_)
    .
     have ht0:xx/9223372036854775808=0:=by omega
     rw[ht0,kS,gK] at hl2;exact at_ ⟨ws2,q2,i⟩ (by dsimp only;exact⟨⟨hn2,ho2,hq2l,by rw[hq2];exact hqo.set _ hgB,we,by rw[hq2];exact Uw hq0,by rw[hq2];exact Rf we hqi hinv hV hl2,by rw[<-hV];exact aDU hlo hl2⟩,we⟩)
    .
     have ht1:xx/9223372036854775808=1:=by omega
     rw[ht1,nU] at hl2;obtain⟨g',rfl⟩: ∃g',g=g'+1:=⟨g-1,by rcases fL g with h|h;(rw[h,kS] at hl2;omega);omega⟩;have hqs:q2.getD i 0=g'+1:=by rw[hq2];exact AY we
     refine lb (fu:=⟨0⟩) _ J (fe) J<|aj 188 (.d (dU (g'+1))) J (by first|rw[hqs]|(simp only[cK];rw[hqs]))<|gx (fu:=⟨0⟩) J<|sw ((g':Nat):Int) J we J<|sb (fu:=⟨12⟩) _ ((qs.set i g').map dU) J (fe) J (by simp only[cK,hq2,kK,List.set_set]<;>rfl) J<|aj 192 (.d (vI (n+2:Nat))) J (by rw[hvm,hvl]<;>rfl)<|gx J<|lp (X:=List Nat×Nat×Nat) (fun⟨wa,k,ca⟩=>[(193, .d (vI (k:Nat))),(18, .d (.v (.int .u64 (ca:Nat))))]) (fun⟨wa,k,ca⟩=>[(41,some (.b 301 1 (wa.map dU) true))]) (fun⟨wa,k,ca⟩=>wa.length=(dg a).length+1/\bt wa/\k<=n+2/\ca<=1/\dv wa<4294967296^(i+n+3)/\dv wa+ca*4294967296^(i+k)=dv ws2+dv (vs.take k)*4294967296^i) (fun⟨wa,k,ca⟩=>n+2-k) ⟨ws2,0,0⟩ J ⟨hn2,ho2,aS _,aS _,hM2,by simp[dv]⟩ (fun _=>J) (fun⟨wa,k,ca⟩ hk=>?_)
     try dsimp only at hk⊢
     obtain⟨hal2,hao,hk2,hac,haM,ha⟩:=hk;refine br J J J (fun hc194=>?_) (fun hc194=>?_)
     .
      have hvk:=hvo.get k;have hag:=hao.get (i+k);obtain⟨t,ht⟩: ∃t,t=ca+(wa.getD (i+k) 0+vs.getD k 0):=⟨_,rfl⟩;have ham:=b7 wa;refine lb _ J (fe) J<|lb (fu:=⟨5⟩) _ J (cP (k:=i+k)) J<|aj 209 (.d (.v (.int .u64 (t:Nat)))) J (omi we)<|gx (fu:=⟨11⟩) J<|aj 215 (.d (dU (t%4294967296))) J omj<|gx J<|sb (fu:=⟨5⟩) (hv:=by simp only[ak];exact oma) _ ((wa.set (i+k) (t%4294967296)).map dU) J (cP (k:=i+k)) J (by(rw[show((i:Int)+k).toNat=i+k by omega,<-jI])<;>rfl) J<|aj 218 (.d (.v (.int .u64 (t/4294967296:Nat)))) J okz<|gx J<|at_ ⟨wa.set (i+k) (t%4294967296),k+1,t/4294967296⟩ (by dsimp only;exact⟨⟨by simpa using hal2,hao.set _ (dK _ oma),we,we,F2 hao (dK _ oma) haM,by rw[ht];exact aFK we ha⟩,we⟩)
     .
      obtain rfl:k=n+2:=by omega
      rw[bS we,<-hV] at ha;have hag:=hao.get (i+n+2);have ham:=b7 wa;have hl4:=aG0 (xj wa (i+n+2) ((wa.getD (i+n+2) 0+ca)%4294967296) we) ha;rw[<-w9] at hl4;have hM4:=F2 (i:=i+n+2) (d:=(wa.getD (i+n+2) 0+ca)%4294967296) hao (dK _ oma) haM;obtain⟨hR1,hR2⟩:=aEe hhi hl2 hl4 hM2 hM4 we (Nat.succ_pos _);refine lb (fu:=⟨2⟩) _ J (cP (k:=i+n+2)) J<|aj 227 (.d (dU ca)) J (omi we)<|gx (fu:=⟨0⟩) J<|aw (((wa.getD (i+n+2) 0+ca)%4294967296:Nat):Int) J (by rw[vf];omega) J<|sb _ ((wa.set (i+n+2) ((wa.getD (i+n+2) 0+ca)%4294967296)).map dU) J (cP (k:=i+n+2)) J (by(rw[show((i:Int)+((n+2:Nat):Int)).toNat=i+n+2 by omega,<-jI])<;>rfl) J<|at_ ⟨wa.set (i+n+2) ((wa.getD (i+n+2) 0+ca)%4294967296),qs.set i g',i⟩ (by dsimp only;exact⟨⟨by simpa using hal2,hao.set _ (dK _ oma),by simpa using hql,hqo.set _ we,we,Uw hq0,Rf we hqi hinv hV hR1,by rw[<-hV];exact hR2⟩,we⟩)
 .
  refine lv 63 J<|lv 41 J ?_;obtain rfl:j=0:=by omega
  obtain⟨e1,e2⟩:=aAu hps hvv hV0' hvB hinv hlt;refine gx J<|cl J (uA (ds:=qs)) J<|je (fu:=⟨0⟩) 0 (n+2) _ J J J J (r5 _) we omp J<|aj 234 (.d (bD (us.take (n+2)))) J (by first|rfl|(show FX.d (.sl _)=FX.d (.sl _);simp))<|gx J<|cl J (aLS (ds:=us.take (n+2)) (huo.take _) omp hs32) J<|rz J (by show DV.tp [bD _,dN _]= .tp [dN _,dN _];rw[lP hqo e1,e2])
def Eq{a b:Nat}[h:BN a i][k:BN b j](hb:0<b)(hi:i<=1000000000:=by decide)(hj:j<=1000000000:=by decide):PF GB prog 241 [dN a,dN b] (.tp [dN (a/b),dN (a%b),vB true]):=by
 have hla:=b7 (dg a);have hba:=jl (a:=a) hi;have hlb:=b7 (dg b);have hbb:=jl (a:=b) hj;have hb0:(dg b).length≠0:=fun e=>by have:=Au e;omega
 have hcn:=Ah (a:=a) (b:=b);have hd0:=ef b 0;refine fn func241 J J ntmps241 J J (fun C=>?_);refine cl J (qb) J<|cl (fu:=⟨10⟩) J (qb) J<|aj 17 (.d (vI ((dg b).length:Nat))) J omT<|gx (fu:=⟨0⟩) J<|bO J (omh we) J<|cl J (Qc (a:=a) (b:=b) hi hj) J<|br (fu2:=⟨4⟩) J J J (fun hc19=>?_) (fun hc19=>?_)
 .
  refine cl J (Mq (ds:=dg a) (gt _)) J<|rz J (by have hlt:=hcn.1 we;rw[nQ hlt,kQ hlt,nD];rfl)
 .
  refine aj 28 (.d (vI ((dg b).length:Nat))) J omT<|gx J<|br J J J (fun hc26=>?_) (fun hc26=>?_)
  .
   have h1:(dg b).length=1:=by omega
   have e1:=w8 h1;have hmd:=dK a (show 0<(dg b).getD 0 0 by omega);refine ix _ J (cP (k:=0) J we) J<|cl J (aEM (a:=a) (d:=(dg b).getD 0 0) we we hi) J<|cl J (A9 (a:=a%(dg b).getD 0 0) (by have:=dK a (show 0<(dg b).getD 0 0 by omega);omega)) J<|rz J (by rw[e1];rfl)
  .
   refine cl J (aJr (a:=a) (b:=b) we we hi hj) J<|rz J J
def QG{a:Nat}(h:(dg a).length<=2:=by omega):a<18446744073709551616:=by
 have h1:=sG a;have h2:(4294967296:Nat)^(dg a).length<=4294967296^2:=cZ oma h;omega
theorem okG{p:Prop}(h:p:=by dsimp only;exact⟨⟨by rw[<-hg,jL B,<-uL,jL],hB,uY (dK _ hBp) hB⟩,(dK _ hBp)⟩):p:=h
theorem ozB{p:Prop}(h:p:=by have hB0:B=0:=Au;rw[hB0,nL] at hg;rw[<-hg];rfl):p:=h
def CK{a b:Nat}[h:BN a i][k:BN b j](hi:i<=1000000000:=by decide)(hj:j<=1000000000:=by decide):PF GB prog 211 [dN a,dN b] (dN (Nat.gcd a b)):=by
 obtain⟨m,hm⟩: ∃m,m=max i j:=⟨_,rfl⟩;have e0: ∀k',k'<=m->(2:Nat)^(7*k')<=2^(7*m):=fun k' h=>vz h;have ha9:a<2^(7*m):=cM h.h (e0 i we);have hb9:b<2^(7*m):=cM k.h (e0 j we);refine fn func211 J J ntmps211 J J (fun C=>?_);refine cl J (vj (a:=a) (i:=i) we) J<|cl J (vj (a:=b) (i:=j) we) J<|lp (fu:=⟨5⟩) (X:=Nat×Nat) (fun⟨A,B⟩=>[(0, .d (dN A)),(1, .d (dN B))]) (fun⟨A,B⟩=>[]) (fun⟨A,B⟩=>Nat.gcd A B=Nat.gcd a b/\A<2^(7*m)/\B<2^(7*m)) (fun⟨A,B⟩=>B) ⟨a,b⟩ J ⟨J,ha9,hb9⟩ (fun _=>J) (fun⟨A,B⟩ hk=>?_)
 try dsimp only at hk⊢
 obtain⟨hg,hA,hB⟩:=hk;haveI:BN A m:=⟨hA⟩;haveI:BN B m:=⟨hB⟩;have hlA:=b7 (dg A);have hlB:=b7 (dg B);have hbA:=jl (a:=A) (i:=m);have hbB:=jl (a:=B) (i:=m);refine aj 17 (.d (vI ((dg A).length:Nat))) J (by rw[hlA]<;>rfl)<|gx J<|cs (fu1:=⟨15⟩) (fu2:=⟨2⟩) 19 J J J (fun hg19=>?_) (fun hg19=>?_)
 .
  refine aj 25 (.d (vI ((dg B).length:Nat))) J (by rw[hlB]<;>rfl)<|gx J<|br J J J (fun hc26=>?_) (fun hc26=>?_)
  .
   exact rz J ozB
  .
   have hBp:0<B:=fZ fun e=>hc26 (by rw[e,sj];rfl);refine cl J (Eq (a:=A) (b:=B) (i:=m) (j:=m) hBp we we) J<|at_ ⟨B,A%B⟩ okG
 .
  refine aj 21 (.d (vI ((dg B).length:Nat))) J (by rw[hlB]<;>rfl)<|gx J<|br (fu1:=⟨8⟩) J J J (fun hc23=>?_) (fun hc23=>?_)
  .
   refine aj 25 (.d (vI ((dg B).length:Nat))) J (by rw[hlB]<;>rfl)<|gx J<|br J J J (fun hc26=>?_) (fun hc26=>?_)
   .
    exact rz J ozB
   .
    have hBp:0<B:=fZ fun e=>hc26 (by rw[e,sj];rfl);refine cl J (Eq (a:=A) (b:=B) (i:=m) (j:=m) hBp we we) J<|at_ ⟨B,A%B⟩ okG
  .
   have hA2:=QG (a:=A);have hB2:=QG (a:=B);refine cl J (Ac (a:=A) hA2) J<|cl J (Ac (a:=B) hB2) J<|lp (X:=Nat×Nat) (fun⟨u,v⟩=>[(8, .d (.v (.int .u64 (u:Nat)))),(10, .d (.v (.int .u64 (v:Nat))))]) (fun⟨u,v⟩=>[]) (fun⟨u,v⟩=>Nat.gcd u v=Nat.gcd a b/\u<18446744073709551616/\v<18446744073709551616) (fun⟨u,v⟩=>v) ⟨A,B⟩ J ⟨hg,hA2,hB2⟩ (fun _=>J) (fun⟨u,v⟩ hk=>?_)
   try dsimp only at hk⊢
   obtain⟨hg2,hu,hv⟩:=hk;refine br (fu1:=⟨8⟩) J J J (fun hc48=>?_) (fun hc48=>?_)
   .
    refine aj 52 (.d (.v (.int .u64 (u%v:Nat)))) J omz<|gx J<|at_ ⟨v,u%v⟩ (by dsimp only;exact⟨⟨by rw[<-hg2,jL v,<-uL,jL],hv,uY (dK _ we) hv⟩,(dK _ we)⟩)
   .
    obtain rfl:v=0:=by omega
    rw[nL] at hg2;refine cl J (A9 (a:=u) hu) J<|rz J (by rw[hg2];rfl)

def Ld{x:Nat}:bl x=0↔x=0:=by
 have:= @nf x 0;simp at this;omega
def wm{a:Nat}:0<(dg a).length↔0<a:=by
 have:= @qn a;omega
def eS(neg:Bool)(a:Nat):DV:= .ag [.v (.bool neg),dN a]
def D8(neg:Bool)(a:Nat):eI (zv neg a)= .ag [.v (.bool (neg&&decide (0<a))),dN a]:=by unfold eI;rw[m7,O8]
def Xg{b:Int}(h:n≠decide (b<0))(hle:b.natAbs<=u):zv n (u-b.natAbs)=zv n u+b:=by cases n<;>simp[zv] at* <;>omega
def aFL{b:Int}(h:n≠decide (b<0))(hle:u<=b.natAbs):zv (decide (b<0)) (b.natAbs-u)=zv n u+b:=by cases n<;>simp[zv] at* <;>(try rw[if_pos h])<;>(try rw[if_neg we])<;>omega
theorem okQ{p:Prop}(h:p:=by unfold vB;congr 2;simp_all [fg]):p:=h
def RC(hd:bt ds)(hl:ds.length<=1125899906842624):PF GB prog 145 [.ag [.v (.bool neg),bD ds]] (vB (decide (dG ds/\(neg=true->0<ds.length)))):=by
 refine fn func145 J J ntmps145 J J (fun C=>?_);refine cl J (E9 hd hl) J<|csd 6 J J J (fun hg6=>?_) (fun hg6=>?_)
 .
  refine iE 10 J J J (fun hg10=>?_) (fun hg10=>?_)
  .
   exact rz J okQ
  .
   exact rz J okQ
 .
  exact rz J okQ
theorem ozo{p:Prop}(h:p:=by have:a≠0:=(fun e=>hc3 (by rw[e];rfl));simp[zv];omega):p:=h
def Rw{a:Nat}[h:BN a i](hi:i<=1000000000:=by decide):PF GB prog 228 [eS n a] (vI (zv n a).sign):=by
 refine fn func228 J J ntmps228 J J (fun C=>?_);refine cl J (uM (a:=a) hi) J<|br J J J (fun hc3=>?_) (fun hc3=>?_)
 .
  exact rz J (by have:=Ld.1 (Int.ofNat.inj hc3);subst this;cases n<;>rfl)
 .
  refine bb J J J (fun hc8=>?_) (fun hc8=>?_)
  .
   exact rz J (by subst hc8;rw[eK ozo];rfl)
  .
   exact rz J (by subst hc8;rw[fS ozo];rfl)
def GZ(h0: -9223372036854775808<=m:=by omega)(h1:m<=9223372036854775807:=by omega):PF GB prog 213 [vI m] (eI m):=by
 refine fn (fu:=⟨8⟩) func213 J J ntmps213 J J (fun C=>?_);refine cu ((m%18446744073709551616:Int)) J (sA _) J<|br (fu1:=⟨2⟩) (fu2:=⟨0⟩) J J J (fun hc7=>?_) (fun hc7=>?_)
 .
  refine nu ((m.natAbs:Nat)) J (by rw[sA];omega) J<|cl J (A9 (a:=m.natAbs)) J<|rz J J
 .
  refine aj 3 (.d (.v (.int .u64 (m.natAbs:Nat)))) J omQ<|gx J<|cl J (A9 (a:=m.natAbs)) J<|rz J J
def MY{a:Nat}(h:a<4611686018427387904):PF GB prog 242 [eS n a] (.tp [vI (zv n a),vB true]):=by
 refine fn func242 J J ntmps242 J J (fun C=>?_);refine cl (fu:=⟨2⟩) J (Ac (a:=a) we) J<|cF J J J<|iE 18 J J J (fun hg18=>?_) (fun hg18=>?_)
 .
  refine br (fu1:=⟨3⟩) J J J (fun hc12=>?_) (fun hc12=>?_)
  .
   refine nu (fu:=⟨0⟩) (((18446744073709551616-a)%18446744073709551616:Int)) J (by rw[sA];omega) J<|cu (zv n a) J (by subst hg18;rw[Jd];simp only[zv,if_true];omega) J<|rz J J
  .
   exact absurd we hc12
 .
  refine iE 32 J J J (fun hg32=>?_) (fun hg32=>?_)
  .
   refine br J J J (fun hc25=>?_) (fun hc25=>?_)
   .
    exact rz J (by subst hg18;rfl)
   .
    exact absurd we hc25
  .
   subst hg18;cases hg32
def yI{a:Nat}[h:BN a i](hi:i<=1000000000:=by decide):PF GB prog 237 [eS neg a] (eI (zv neg a)):=by
 refine fn func237 J J ntmps237 J J (fun C=>?_);refine cl J (vj hi) J<|iE 9 J J J (fun hg9=>?_) (fun hg9=>?_)
 .
  exact rz J (by rw[D8];simp[hg9,wm,fg])
 .
  exact rz J (by rw[D8];simp[hg9,wm,fg])
def EC{a:Nat}:PF GB prog 234 [.v (.bool neg),dN a] (eI (zv neg a)):=by
 refine fn func234 J J ntmps234 J J (fun C=>?_);refine iE 6 J J J (fun hg6=>?_) (fun hg6=>?_)
 .
  exact rz J (by rw[D8];simp[hg6,wm,fg])
 .
  exact rz J (by rw[D8];simp[hg6,wm,fg])
def aKt[h:BI m i](hi:i<=1000000000:=by decide):PF GB prog 182 [eI m] (eI (-m)):=by
 refine fn func182 J J ntmps182 J J (fun C=>?_);refine cl J (yI (neg:=!decide (m<0)) (a:=m.natAbs) hi) J<|rz J (by rw[aHD,l5];rfl)
def K6{a b:Int}[h:BI a i][k:BI b j](hi:i<=1000000000:=by decide)(hj:j<=1000000000:=by decide):PF GB prog 176 [eI a,eI b] (eI (a*b)):=by
 refine fn func176 J J ntmps176 J J (fun C=>?_);refine cl J (yc (a:=a.natAbs) (b:=b.natAbs) hi hj) J<|cl J EC J<|rz J (by rw[show(!(decide (a<0)==decide (b<0)))=(decide (a<0) !=decide (b<0)) from J,UA,l5,l5];rfl)
def aEO{b:Int}[h:BN u i][k:BI b j](hi:i<=1000000000:=by decide)(hj:j<=1000000000:=by decide):PF GB prog 175 [eS n1 u,eI b] (eI (zv n1 u+b)):=by
 refine fn func175 J J ntmps175 J J (fun C=>?_);refine bb J J J (fun hc13=>?_) (fun hc13=>?_)
 .
  refine cl J (VL (b:=b.natAbs) hi hj) J<|cl J EC J<|rz J (by rw[ZW,show n1=decide (b<0) from by simpa using hc13,l5];rfl)
 .
  refine cl J (N1 (b:=b.natAbs) hi hj) J<|bd J J J (fun hc30=>?_) (fun hc30=>?_)
  .
   refine cl J EC J<|rz J (by rw[Xg (by simpa using hc13) hc30];rfl)
  .
   refine cl J (N1 (a:=b.natAbs) hj hi) J<|cl J EC J<|rz J (by rw[aFL (by simpa using hc13) we];rfl)
def Y9{a b:Int}[h:BI a i][k:BI b j](hi:i<=1000000000:=by decide)(hj:j<=1000000000:=by decide):PF GB prog 175 [eI a,eI b] (eI (a+b)):=(aEO (n1:=decide (a<0)) (u:=a.natAbs) hi hj).to (by rw[l5])
def jG(q:Rat):Prop:= ¬(q.num.natAbs<4611686018427387904/\q.den<4611686018427387904)
instance (q:Rat):Decidable (jG q):=inferInstanceAs (Decidable (¬_))
def ew(q:Rat):Int:=if jG q then 0 else q.num
def et(q:Rat):Int:=if jG q then 0 else(q.den:Int)-1
def ez(q:Rat):DV:= .op (decide (jG q)) [.v (.bool (decide (q.num<0))),dN q.num.natAbs,dN q.den]
def eF(q:Rat):DV:= .ag [vI (ew q),vI (et q),ez q]
abbrev Vw {q:Rat} (h:decide (jG q)=true):jG q:=of_decide_eq_true h
abbrev ub {q:Rat} (h:decide (jG q)=false): ¬jG q:=of_decide_eq_false h
abbrev aNN {q:Rat} (h: ¬decide (jG q)=false):jG q:=by simpa using h
abbrev pj {q:Rat} (h: ¬decide (jG q)=true): ¬jG q:=by simpa using h
def ot(h: ¬jG q):ew q=q.num:=if_neg h
def p6(h: ¬jG q):et q=(q.den:Int)-1:=if_neg h
def qI(h: ¬jG q):q.num.natAbs<4611686018427387904:=(Decidable.not_not.1 h).1
def qG(h: ¬jG q):q.den<4611686018427387904:=(Decidable.not_not.1 h).2
def H0(h:jG q):q≠0:=fun e=>by subst e;exact h ⟨oma,oma⟩
def ui{d:Int}{r:DV}(h: ¬jG q)(h1:q.num=m)(h2:(q.den:Int)-1=d)(e:r= .ag [vI m,vI d, .v (.pointer none)])(G:Gh)(y:Value)(k:Is G r y):Is G (eF q) y:=by
 subst e h1 h2;obtain⟨l,rfl,g⟩:=eG.1 k;obtain⟨y1,l1,rfl,k1,g1⟩:=bh.1 g;obtain⟨y2,l2,rfl,k2,g2⟩:=bh.1 g1;obtain⟨y3,l3,rfl,k3,g3⟩:=bh.1 g2;exact eG.2 ⟨_,J, .cons (by rw[ot h];exact k1) (.cons (by rw[p6 h];exact k2) (.cons (xi.2 (.inl ⟨decide_eq_false h,aI.1 k3⟩)) g3))⟩
def Ty{a:Nat}{r:DV}(h:jG q)(h1:decide (q.num<0)=n)(h2:q.num.natAbs=a)(h3:q.den=d)(e:r= .ag [vI 0,vI 0, .pt [.v (.bool n),dN a,dN d]])(G:Gh)(y:Value)(k:Is G r y):Is G (eF q) y:=by
 subst e h1 h2 h3;obtain⟨l,rfl,g⟩:=eG.1 k;obtain⟨y1,l1,rfl,k1,g1⟩:=bh.1 g;obtain⟨y2,l2,rfl,k2,g2⟩:=bh.1 g1;obtain⟨y3,l3,rfl,k3,g3⟩:=bh.1 g2;exact eG.2 ⟨_,J, .cons (by unfold ew;rw[if_pos h];exact k1) (.cons (by unfold et;rw[if_pos h];exact k2) (.cons (xi.2 (.inr ⟨decide_eq_true h,k3⟩)) g3))⟩
def CC(G:Gh)(y:Value)(k:Is G (.ag [vI 0,vI 0, .v (.pointer none)]) y):Is G (eF 0) y:=ui (fun h=>H0 h J) J J J G y k
def QX(h:m.natAbs<4611686018427387904)(G:Gh)(y:Value)(k:Is G (.ag [vI m,vI 0, .v (.pointer none)]) y):Is G (eF (m:Rat)) y:=
 ui (fun k=>k ⟨by simpa using h,by rw[kY];decide⟩) (jN m) (by rw[kY];rfl) J G y k
def I0{a:Nat}(hd:0<d):(mkRat (zv n a) d).num=zv n (a/Nat.gcd a d)/\(mkRat (zv n a) d).den=d/Nat.gcd a d:=by
 obtain⟨h1,h2⟩:=RA (m:=zv n a) hd;rw[m7] at h1 h2;exact⟨by rw[h1,WX (lW _ _)],h2⟩
def MR{a:Nat}(hd:0<d)(ha:a'=a/Nat.gcd a d)(hd':d'=d/Nat.gcd a d)(h1:a'<4611686018427387904)(h2:d'<4611686018427387904)(G:Gh)(y:Value)(k:Is G (.ag [vI (zv n a'),vI ((d':Int)-1), .v (.pointer none)]) y):Is G (eF (mkRat (zv n a) d)) y:=by
 obtain⟨e1,e2⟩:=I0 (n:=n) (a:=a) hd;rw[<-ha] at e1;rw[<-hd'] at e2;exact ui (fun k=>k ⟨by rw[e1,m7];exact h1,by rw[e2];exact h2⟩) e1 (by rw[e2]) J G y k
def E5{a:Nat}(hd:0<d)(ha:a'=a/Nat.gcd a d)(hd':d'=d/Nat.gcd a d)(h: ¬(a'<4611686018427387904/\d'<4611686018427387904))(G:Gh)(y:Value)(k:Is G (.ag [vI 0,vI 0, .pt [.v (.bool (decide (zv n a'<0))),dN (zv n a').natAbs,dN d']]) y):Is G (eF (mkRat (zv n a) d)) y:=by
 obtain⟨e1,e2⟩:=I0 (n:=n) (a:=a) hd;rw[<-ha] at e1;rw[<-hd'] at e2;exact Ty (fun k=>h ⟨by rw[e1,m7] at k;exact k.1,by rw[e2] at k;exact k.2⟩) (by rw[e1]) (by rw[e1]) e2 J G y k
def YR{a:Nat}(hd:0<d)(h: ¬(1:Int)<(bl (Nat.gcd a d):Nat)):Nat.gcd a d=1:=by
 have h1:Nat.gcd a d≠0:=fun e=>by rw[Nat.gcd_eq_zero_iff] at e;omega
 have h2:Nat.gcd a d<2^1:=nf.1 we;omega
def og{x:Nat}:(((bl x:Nat):Int)<=62)↔x<4611686018427387904:=VI
def PF.ofI{f:FuncId}{ds ds':List DV}{r:DV}(h:PF GB P f ds r)(k: ∀G vs,IsLs G ds' vs->IsLs G ds vs):PF GB P f ds' r:=fun G vs hg hv=>h G vs hg (k G vs hv)
def wE{a:Nat}[h:BN a i][k:BN d j](hi:i<=450000000:=by decide)(hj:j<=450000000:=by decide):PF GB prog 179 [eS n a,dN d] (eF (mkRat (zv n a) d)):=by
 refine fn func179 J J ntmps179 J J (fun C=>?_);refine cl J (uM (a:=d) we) J<|cs 13 J J J (fun hg13=>?_) (fun hg13=>?_)
 .
  exact jP rfl (by obtain rfl:=Ld.1 (Int.ofNat.inj hg13);rw[uS];exact CC)
 .
  have hd0:0<d:=by have:= @Ld d;omega
  have hg0:0<Nat.gcd a d:=oY _ hd0;refine cl J (Rw (n:=n) (a:=a) we) J<|br J J J (fun hc17=>?_) (fun hc17=>?_)
  .
   exact jP J (by rw[fM.1 hc17,Rat.zero_mkRat];exact CC)
  .
   refine cl J (CK (a:=a) (b:=d) we we) J<|cl J (uM (a:=Nat.gcd a d) (i:=i+j) we) J<|br J J J (fun hc25=>?_) (fun hc25=>?_)
   .
    obtain⟨a',ea⟩: ∃a',a'=a/Nat.gcd a d:=⟨_,rfl⟩;obtain⟨d',ed⟩: ∃d',d'=d/Nat.gcd a d:=⟨_,rfl⟩;have hba:BN a' i:=ea▸inferInstance;have hbd:BN d' j:=ed▸inferInstance;refine cl (fu:=⟨2⟩) J (Eq (a:=a) (b:=Nat.gcd a d) (j:=i+j) hg0 we we) J<|aj 31 (.d (dN a')) J (by rw[ea])<|gx J<|cl (fu:=⟨2⟩) J (Eq (a:=d) (b:=Nat.gcd a d) (j:=i+j) hg0 we we) J<|aj 39 (.d (dN d')) J (by rw[ed])<|gx J<|cl J (uM (h:=hba) we) J<|cs 46 J J J (fun hg46=>?_) (fun hg46=>?_)
    .
     refine cl J (uM (h:=hbd) we) J<|br J J J (fun hc50=>?_) (fun hc50=>?_)
     .
      have hs2:=og.1 hc50;refine cl J (MY (og.1 hg46)) J<|cl J (Ac (by have:=og.1 hc50;omega)) J<|jP J (MR hd0 ea ed (og.1 hg46) (og.1 hc50))
     .
      refine cl J (yI (neg:=n) (h:=hba) we) J<|cl J (vj (h:=hbd) we) J<|fz 71 J J<|jP J (E5 hd0 ea ed (fun e=>hc50 (og.2 e.2)))
    .
     refine cl J (yI (neg:=n) (h:=hba) we) J<|cl J (vj (h:=hbd) we) J<|fz 71 J J<|jP J (E5 hd0 ea ed (fun e=>hg46 (og.2 e.1)))
   .
    have hg1:=YR hd0 hc25;have ea:a=a/Nat.gcd a d:=by rw[hg1,tV]
    have ed:d=d/Nat.gcd a d:=by rw[hg1,tV]
    have hba:=h;have hbd:=k;refine cl J (uM (h:=hba) we) J<|cs 46 J J J (fun hg46=>?_) (fun hg46=>?_)
    .
     refine cl J (uM (h:=hbd) we) J<|br J J J (fun hc50=>?_) (fun hc50=>?_)
     .
      have hs2:=og.1 hc50;refine cl J (MY (og.1 hg46)) J<|cl J (Ac (by have:=og.1 hc50;omega)) J<|jP J (MR hd0 ea ed (og.1 hg46) (og.1 hc50))
     .
      refine cl J (yI (neg:=n) (h:=hba) we) J<|cl J (vj (h:=hbd) we) J<|fz 71 J J<|jP J (E5 hd0 ea ed (fun e=>hc50 (og.2 e.2)))
    .
     refine cl J (yI (neg:=n) (h:=hba) we) J<|cl J (vj (h:=hbd) we) J<|fz 71 J J<|jP J (E5 hd0 ea ed (fun e=>hg46 (og.2 e.1)))
theorem okt{p:Prop}(h:p:=by rw[l5,show mkRat m 1=(m:Rat) from tQ ..];rfl):p:=h
def uD[h:BI m i](hi:i<=400000000:=by decide):PF GB prog 146 [eI m] (eF (m:Rat)):=by
 refine fn func146 J J ntmps146 J J (fun C=>?_);refine rf (fu:=⟨0⟩) J J<|aj 4 (.d (dN 1)) J okR<|gx J<|cl J (wE (n:=decide (m<0)) (a:=m.natAbs) (d:=1) we) J<|rz J okt
def uI:PF GB prog 147 [eF q] (vB (decide (q=0))):=by
 refine fn func147 J J ntmps147 J J (fun C=>?_);refine cs 6 J J J (fun hg6=>?_) (fun hg6=>?_)
 .
  exact rz J (by rw[ot (ub hg6)];show DV.v (.bool (decide _))= .v (.bool _);congr 2;exact decide_eq_decide.2 ⟨fun e=>mW.1 e,fun e=>by rw[e];rfl⟩)
 .
  exact rz J (by rw[decide_eq_false (H0 (aNN hg6))];rfl)
def AK(h:m.natAbs<9223372036854775808:=by omega):PF GB prog 210 [vI m] (.v (.int .u64 (m.natAbs:Nat))):=by
 refine fn func210 J J ntmps210 J J (fun C=>?_);refine br J J J (fun hc4=>?_) (fun hc4=>?_)
 .
  exact rz J (by show DV.v (.int _ _)=_;congr 2;omega)
 .
  exact rz J (by show DV.v (.int _ _)=_;congr 2;omega)
def th[h:BQ q i](hi:i<=900000000:=by decide):PF GB prog 178 [eF q] (dN q.den):=by
 refine fn func178 J J ntmps178 J J (fun C=>?_);refine br (v1:=fun hc5=>by simp only[ak];exact hc5) (fu2:=⟨6⟩) J J J (fun hc5=>?_) (fun hc5=>?_)
 .
  refine cl J (vj (a:=q.den) we) J<|rz J J
 .
  have hd:=q.den_nz;have hs:=qG (pj hc5);refine aj 13 (.d (vI ((q.den:Int)-1))) J (by rw[p6 (pj hc5)])<|gx (fu:=⟨2⟩) J<|aj 15 (.d (.v (.int .u64 (q.den:Nat)))) J omQ<|gx J<|cl J (A9 (a:=q.den)) J<|rz J J
def uj[h:BQ q i](hi:i<=900000000:=by decide):PF GB prog 177 [eF q] (eI q.num):=by
 refine fn func177 J J ntmps177 J J (fun C=>?_);refine br (v1:=fun hc5=>by simp only[ak];exact hc5) (fu2:=⟨6⟩) J J J (fun hc5=>?_) (fun hc5=>?_)
 .
  refine cl J (yI (neg:=decide (q.num<0)) (a:=q.num.natAbs) we) J<|rz J (by rw[l5];rfl)
 .
  have hs:=qI (pj hc5);refine aj 13 (.d (vI q.num)) J (by rw[ot (pj hc5)])<|gx J<|cl J (GZ) J<|rz J J
def tj[h:BQ q i](hi:i<=900000000:=by decide):PF GB prog 101 [eF q] (eF (-q)):=by
 refine fn func101 J J ntmps101 J J (fun C=>?_);refine br (v1:=fun hc5=>by simp only[ak];exact hc5) (fu2:=⟨6⟩) J J J (fun hc5=>?_) (fun hc5=>?_)
 .
  refine cl (fu:=⟨6⟩) (hv:=by simp only[ak];exact hc5) J (aKt (m:=q.num) we) J<|xb J J<|jP J (Ty (q:= -q) (fun k=>Vw hc5 (by rw[oX,jX,tK] at k;exact k)) (by rw[oX]) (by rw[oX]) (tK q) J)
 .
  have hs:=qI (pj hc5);refine aj 21 (.d (vI q.num)) J (by rw[ot (pj hc5)])<|gx J<|jP J (ui (q:= -q) (fun k=>k (by rw[oX,jX,tK];exact⟨hs,qG (pj hc5)⟩)) (by rw[oX]) (by rw[tK,p6 (pj hc5)]) J)
def nA[h:BQ q i](hi:i<=900000000:=by decide):PF GB prog 169 [eF q] (vI q.num.sign):=by
 refine fn func169 J J ntmps169 J J (fun C=>?_);refine br (v1:=fun hc3=>by simp only[ak];exact hc3) J J J (fun hc3=>?_) (fun hc3=>?_)
 .
  refine cl J (Rw (n:=decide (q.num<0)) (a:=q.num.natAbs) we) J<|rz J (by rw[l5];rfl)
 .
  have hs:=ot (pj hc3);refine br J J J (fun hc13=>?_) (fun hc13=>?_)
  .
   exact rz J (by rw[eK we];rfl)
  .
   refine br J J J (fun hc17=>?_) (fun hc17=>?_)
   .
    exact rz J (by rw[fS we];rfl)
   .
    exact rz J (by rw[show q.num=0 by omega];rfl)
def Xl{a b:Nat}(h:b<=a):(dg b).length<=(dg a).length:=Af (dZ h (sG a))
def zz{a b:Nat}[ha:BN a ia][hb:BN b ib](hb0:0<b)(hi:ia<=500000000:=by decide)(hj:ib<=500000000:=by decide):PF GB prog 186 [dN a,dN b] (.tp [dN (a/b),dN (a%b)]):=by
 have hla:=b7 (dg a);have hlb:=b7 (dg b);have hba:=ji ha.h;have hbb:=ji hb.h;have hba':(dg a).length<=110000000:=by omega
 have hbb':(dg b).length<=110000000:=by omega
 have hlb1:1<=(dg b).length:=U5 (k:=0) (by rw[uU];exact hb0);refine fn (fu:=⟨7⟩) func186 J J ntmps186 J J (fun C=>?_);refine mg (X:=Unit) (fun _=>[(0, .d (dN a)),(1, .d (dN b))]) (fun _=>[]) (fun _=>True) [0,1] [] rfl ?_ (fun _=>J) (fun _ hm=>?_)
 .
  refine gx J<|cl J (C7 (a:=a) (ia:=ia) we) J<|bd (fu1:=⟨0⟩) J J J (fun hc18=>?_) (fun hc18=>?_)
  .
   refine aj 6 (.d (.v (.int .u64 (a:Nat)))) J (by rw[if_pos hc18])<|gx J<|cl J (C7 (a:=b) (ia:=ib) we) J<|bd (fu1:=⟨0⟩) J J J (fun hc24=>?_) (fun hc24=>?_)
   .
    refine aj 8 (.d (.v (.int .u64 (b:Nat)))) J (by rw[if_pos hc24]) ?_;have hdl:=mT a b;have hml:=Nat.mod_le a b;refine gx (hv:=by simp only[ak];exact⟨we,we,we⟩) J<|cl (hv:=by simp only[ak];exact⟨we,we⟩) J (vq (u:=a/b)) J<|cl J (vq (u:=a%b)) J<|rz J J
   .
    exact at_ () trivial
  .
   exact at_ () trivial
 .
  refine cl J (yj) J<|br J J J (fun hc36=>?_) (fun hc36=>?_)
  .
   have hab:=yS.1 hc36;refine sO J J<|ap _ J J (r5 _) J<|gD 39 J<|rz J (by show DV.tp [_, .sl ([]++_)]= .tp [_,_];rw[nQ hab,kQ hab,nD];rfl)
  .
   have hab:b<=a:=sL fun q=>hc36 (yS.2 q);have hlab:(dg b).length<=(dg a).length:=Xl hab;refine br (fu1:=⟨4⟩) J J J (fun hc42=>?_) (fun hc42=>?_)
   .
    have hb1:b<4294967296:=by have:=sG b;rw[show(dg b).length=1 by omega] at this;omega
    have hbd:(dg b).getD 0 0=b:=w8;refine aj 44 (.d (vI ((dg a).length:Nat))) J omU<|gx J<|mk (fu:=⟨13⟩) ((List.replicate (dg a).length 0).map dU) J J omI J<|aj 47 (.d (vI ((dg a).length:Nat))) J omU<|gx J<|lp (X:=List Nat×Nat) (fun⟨W,k⟩=>[(0, .d (dN a)),(1, .d (dN b)),(10, .rw 45),(11, .d (dU (dv ((dg a).drop k)%b))),(12, .d (vI ((k:Nat)-1)))]) (fun⟨W,k⟩=>[(45,some (.b 301 1 (W.map dU) true))]) (fun⟨W,k⟩=>W.length=(dg a).length/\bt W/\k<=(dg a).length/\dv (W.drop k)=dv ((dg a).drop k)/b) (fun⟨W,k⟩=>k) ⟨List.replicate (dg a).length 0,(dg a).length⟩ J ⟨omc, .replicate _,bJ _,by simp[dv]⟩ (fun _=>J) (fun⟨W,k⟩ hk=>?_) (hF:=(by refine⟨J,J,J,pC J (by simp[dv,dU]),pC J (by simp[vI]),?_⟩;repeat (first|exact trivial|refine And.intro J ?_)))
    try dsimp only at hk⊢
    obtain⟨h1,h2,h3,h4⟩:=hk;have hlw:=b7 W;refine br (fu1:=⟨0⟩) J J J (fun hc50=>?_) (fun hc50=>?_)
    .
     obtain⟨k,rfl⟩: ∃j,k=j+1:=⟨k-1,we⟩;have hsi:=W1 hb0 we h1 h4;have hrm:=dK (dv ((dg a).drop (k+1))) hb0;have hdk:=ef a k;have hqd:(dv ((dg a).drop (k+1))%b*4294967296+(dg a).getD k 0)/b<4294967296:=by rw[kR hb0];have:=gU 4294967296 (show dv ((dg a).drop (k+1))%b+1<=b from hrm);omega
     refine aj 12 (.d (vI (k:Nat))) J (omi we)<|gx J<|ix _ J (cP (k:=k)) J<|ix _ J (cP (k:=0) J we) J<|cl J (Z8 (h:=dv ((dg a).drop (k+1))%b) (l:=(dg a).getD k 0) (y:=(dg b).getD 0 0) we hdk we) J<|sb (hv:=by simp only[ak];exact⟨omd,we⟩) _ ((W.set k ((dv ((dg a).drop (k+1))%b*4294967296+(dg a).getD k 0)/b)).map dU) J (cP (k:=k)) J (by(rw[hbd,cK,<-jI])<;>rfl) J<|at_ ⟨W.set k ((dv ((dg a).drop (k+1))%b*4294967296+(dg a).getD k 0)/b),k⟩ (by dsimp only;exact⟨⟨by simpa using h1,h2.set _ hqd,we,hsi.1⟩,we⟩) (by refine⟨J,J,J,pC J (by rw[hsi.2,hbd]),pC J (by first|(simp[vI];done)|(simp[vI];omega)),?_⟩;repeat (first|exact trivial|refine And.intro J ?_))
    .
     refine fz 45 J J<|cl rfl (tB (ds:=W)) rfl<|rf J J<|cl rfl (tB (ds:=[dv ((dg a).drop k)%b]) omc) rfl<|rz rfl (by show DV.tp [bD _,bD _]= .tp [_,_];obtain rfl:k=0:=we;rw[iZ,iZ,c8] at h4;rw[iZ,c8];rw[lP h2 h4,lP (.cons (by have:=dK a hb0;omega) .nil) (n:=a%b) (by simp[dv])])
   .
    refine cl J (Va we we hlb1 hlab) J<|rz J J
def Ur(x y:Nat):Nat.gcd y (x%y)=Nat.gcd x y:=by rw[jL x y,uL y x,jL]
def B9{a b:Nat}[ha:BN a ia][hb:BN b ib](hi:ia<=240000000:=by decide)(hj:ib<=240000000:=by decide):PF GB prog 105 [dN a,dN b] (dN (Nat.gcd a b)):=by
 refine fn (fu:=⟨6⟩) func105 J J ntmps105 J J (fun C=>?_);refine mg (X:=Unit) (fun _=>[(0, .d (dN a)),(1, .d (dN b))]) (fun _=>[]) (fun _=>True) [0,1] [] rfl ?_ (fun _=>J) (fun _ hm=>?_)
 .
  refine gx J<|cl J (C7 (a:=a) (ia:=ia) we) J<|bd (fu1:=⟨0⟩) J J J (fun hc16=>?_) (fun hc16=>?_)
  .
   refine aj 5 (.d (.v (.int .u64 (a:Nat)))) J (by rw[if_pos hc16])<|gx J<|cl J (C7 (a:=b) (ia:=ib) we) J<|bd (fu1:=⟨0⟩) J J J (fun hc22=>?_) (fun hc22=>?_)
   .
    refine aj 7 (.d (.v (.int .u64 (b:Nat)))) J (by rw[if_pos hc22])<|gx J<|lp (X:=Nat×Nat) (fun⟨x,y⟩=>[(5, .d (.v (.int .u64 (x:Nat)))),(7, .d (.v (.int .u64 (y:Nat))))]) (fun⟨x,y⟩=>[]) (fun⟨x,y⟩=>x<18446744073709551616/\y<18446744073709551616/\Nat.gcd x y=Nat.gcd a b) (fun⟨x,y⟩=>y) ⟨a,b⟩ J ⟨hc16,hc22,J⟩ (fun _=>J) (fun⟨x,y⟩ hk=>?_)
    try dsimp only at hk⊢
    obtain⟨h1,h2,h3⟩:=hk;refine br (v1:=fun hc24=>by simp only[ak];exact⟨⟨we,we⟩,omd⟩) J J J (fun hc24=>?_) (fun hc24=>?_)
    .
     exact at_ ⟨y,x%y⟩ (by dsimp only;exact⟨⟨h2,by have:=dK x (show 0<y by omega);omega,by rw[Ur,h3]⟩,(by exact dK _ we)⟩)
    .
     refine cl J (vq (u:=x) h1) J<|rz J (by show dN x=_;rw[<-h3,show y=0 by omega,nL])
   .
    exact at_ () trivial
  .
   exact at_ () trivial
 .
  refine lp (fu:=⟨5⟩) (X:=Nat×Nat) (fun⟨x,y⟩=>[(0, .d (dN x)),(1, .d (dN y))]) (fun⟨x,y⟩=>[]) (fun⟨x,y⟩=>x<2^(7*(ia+ib))/\y<2^(7*(ia+ib))/\Nat.gcd x y=Nat.gcd a b) (fun⟨x,y⟩=>y) ⟨a,b⟩ J ⟨(ha.mono we).h,(hb.mono we).h,J⟩ (fun _=>J) (fun⟨x,y⟩ hk=>?_)
  try dsimp only at hk⊢
  obtain⟨h1,h2,h3⟩:=hk;have hly:=b7 (dg y);haveI hx':BN x (ia+ib):=⟨h1⟩;haveI hy':BN y (ia+ib):=⟨h2⟩;refine aj 32 (.d (vI ((dg y).length:Nat))) J (by rw[hly];rfl)<|gx J<|br J J J (fun hc33=>?_) (fun hc33=>?_)
  .
   have hy0:0<y:=fZ fun q=>by subst q;rw[sj] at hc33;simp at hc33
   refine cl J (zz (a:=x) (b:=y) (ia:=ia+ib) (ib:=ia+ib) hy0 we we) J<|at_ ⟨y,x%y⟩ (by dsimp only;exact⟨⟨h2,by have:=dK x hy0;omega,by rw[Ur,h3]⟩,(by exact dK _ hy0)⟩)
  .
   have hy0:y=0:=qn.1 we;have hlx:=ji h1;have hmx:=b7 (dg x);refine sO J J<|ap _ J J (r5 _) J<|gD 44 J<|rz J (by show DV.sl ([]++_)=_;rw[<-h3,hy0,nL];rfl)
def Np(neg:Bool)(m:Nat):eI (zv neg m)= .ag [.v (.bool (neg&&decide (0<m))),dN m]:=by unfold eI;rw[m7,O8]
def XJ(z:Int):zv (!decide (z<0)) z.natAbs= -z:=by
 unfold zv;by_cases h:z<0<;>simp[h]<;>omega
def Wf(a b:Int):zv (!(decide (a<0)==decide (b<0))) (a.natAbs*b.natAbs)=a*b:=by
 have h:=UA (decide (a<0)) (decide (b<0)) a.natAbs b.natAbs;rw[l5,l5] at h;exact h
def kj{m:Nat}:PF GB prog 130 [.v (.bool neg),dN m] (eI (zv neg m)):=by
 have hl:=b7 (dg m);have hz:= @qn m;refine fn func130 J J ntmps130 J J (fun C=>?_);refine iE 6 J J J (fun hg6=>?_) (fun hg6=>?_)
 .
  exact rz J (by rw[Np,hg6];show DV.ag [.v (.bool _),_]= .ag [.v (.bool _),_];congr 4;rw[pR];exact decide_eq_decide.2 we)
 .
  exact rz J (by rw[Np,hg6];rfl)
structure IW where
 lo:RV
 hi:RV
 nl:Bool
 nh:Bool
def IW.v(z:IW):Value:= .agg ⟨[.int .i64 z.lo.n, .int .i64 z.lo.d, .pointer z.lo.p, .int .i64 z.hi.n, .int .i64 z.hi.d, .pointer z.hi.p, .bool z.nl, .bool z.nh]⟩
section
variable {n:Nat}{own:List aB}
variable {gd:Option (Nat×Bool)}{x:Operand}
end

structure Ss where
 l:LV
 v:IW
def Ss.val(z:Ss):Value:= .agg ⟨[.int .i64 z.l.a.n, .int .i64 z.l.a.d, .pointer z.l.a.p, .int .i64 z.l.b.n, .int .i64 z.l.b.d, .pointer z.l.b.p, .int .i64 z.l.c.n, .int .i64 z.l.c.d, .pointer z.l.c.p, .int .i64 z.v.lo.n, .int .i64 z.v.lo.d, .pointer z.v.lo.p, .int .i64 z.v.hi.n, .int .i64 z.v.hi.d, .pointer z.v.hi.p, .bool z.v.nl, .bool z.v.nh]⟩
inductive ie {α β:Type} (R:α->β->Prop):List α->List β->Prop
 |nil:ie R [] []
 |cons {a b us bs} (h:R a b) (t:ie R us bs):ie R (a::us) (b::bs)
def ie.len{R:α->β->Prop}{us:List α}{bs:List β}(h:ie R us bs):us.length=bs.length:=by
 induction h with
 |nil=>rfl
 |cons _ _ ih=>simp[ih]
def ie.imp{R S:α->β->Prop}{us:List α}{bs:List β}(h:ie R us bs)(k: ∀a b,R a b->S a b):ie S us bs:=by
 induction h with
 |nil=>exact .nil
 |cons h _ ih=>exact .cons (k _ _ h) ih
def ie.get{R:α->β->Prop}{us:List α}{bs:List β}(h:ie R us bs){b:β}(hi:bs[i]? =some b): ∃a,us[i]? =some a/\R a b:=by
 induction h generalizing i with
 |nil=>simp at hi
 | @cons a b' us bs h t ih=>
  cases i with
  |zero=>simp at hi;subst hi;exact⟨a,J,h⟩
  |succ i=>simpa using ih (i:=i) omV
def ie.app{R:α->β->Prop}{us us':List α}{bs bs':List β}(h:ie R us bs)(k:ie R us' bs'):ie R (us++us') (bs++bs'):=by
 induction h with
 |nil=>exact k
 |cons h _ ih=>exact .cons h ih

section
variable {n:Nat}{own:List aB}
variable {gd:Option (Nat×Bool)}{x:Operand}
def X8{o1 o2:aB}(h:o1.b≠o2.b->St C n fr (o1::o2::rest) G Φ):St C n fr (o1::o2::rest) G Φ:=
 fun a w rl=>h ((bY.1 rl.h.nd).1 _ aZ) a w rl
def C5[hT:cD P t e s by_]{k:IntKind}{b len:Nat}{l:Int}(hx:aD fr x=some (.slice (some ⟨b,off,none⟩) len cap))(hy:aD fr y=some (.int k l))(h0:0<=l:=by omega)(h1:l<=len:=by omega)(h2:l<cap:=by omega):
  Yd P C fr own G ⟨dst, .slice t x (some y) none none,ty',pos,af,gd⟩ (.slice (some ⟨b,off+l.toNat*s,none⟩) (len-l.toNat) (cap-l.toNat)):=by
 have h:=K0 (P:=P) (C:=C) (own:=own) (G:=G) (t:=t) (dst:=dst) (ty':=ty') (pos:=pos) (af:=af) (gd:=gd) (by_:=by_) hx hy h0 h1;unfold oo at h;rw[if_neg we] at h;simpa[tk] using h
end

section
variable {n:Nat}{own:List aB}
variable {gd:Option (Nat×Bool)}{x:Operand}
end


structure ND where
 a:IV
 b:IV
 c:IV
 l:Int
 r:Int
def ND.val(z:ND):Value:= .agg ⟨[.bool z.a.neg, .slice z.a.a.a z.a.a.n z.a.a.c, .bool z.b.neg, .slice z.b.a.a z.b.a.n z.b.a.c, .bool z.c.neg, .slice z.c.a.a z.c.a.n z.c.a.c, .int .i64 z.l, .int .i64 z.r]⟩
structure tc (k:Nat) (G:Gh) (z:ND) (n:NQ):Prop where
 a:q9 k G z.a n.l.a
 b:q9 k G z.b n.l.b
 c:q9 k G z.c n.l.c
 l:z.l=n.a
 r:z.r=n.b
def tc.up{k:Nat}{A G:Gh}{z:ND}{n:NQ}(h:tc k A z n)[GL A G]:tc k G z n:=⟨h.a.up,h.b.up,h.c.up,h.l,h.r⟩
structure aNW (k:Nat) (G:Gh) (x:SV) (ns:List NQ):Prop where
 ex: ∃zs:List ND,gp G 8 x (zs.map ND.val)/\ie (tc k G) zs ns

def ND.len8(zs:List ND): ∀v∈zs.map ND.val,(aG v).length=8:=fun v hv=>by
 obtain⟨f,_,rfl⟩:=aU.1 hv;rfl
def ND.flat(zs:List ND): ∀v∈zs.map ND.val,∀c∈aG v,Sx.flat c=true:=fun v hv c hc=>by
 obtain⟨f,_,rfl⟩:=aU.1 hv;simp only[ND.val,aG,aW,fK,or_false] at hc;rcases hc with rfl|rfl|rfl|rfl|rfl|rfl|rfl|rfl<;>rfl
def ie.set{α β:Type}{R:α->β->Prop}{us:List α}{bs:List β}(h:ie R us bs){a:α}{b:β}(hr:R a b)(i:Nat):ie R (us.set i a) (bs.set i b):=by
 induction h generalizing i with
 |nil=>simp;exact .nil
 |cons h t ih=>
  cases i with
  |zero=>exact .cons hr t
  |succ i=>exact .cons h (ih i)
def Uy(zs:List ND)(rest:List Value)(i j:Nat)(x:Value)(z:ND)(hi:i<zs.length)(hj:j<8)(hz:aG z.val=(aG (zs[i]).val).set j x):
  (aH (zs.map ND.val)++rest).set (i*8+j) x=aH ((zs.set i z).map ND.val)++rest:=by
 have hi':i<(zs.map ND.val).length:=by simpa using hi
 rw[R9 hj _ i hi' (ND.len8 zs),oL,<-hz,kK,List.set_eq_take_append_cons_drop,if_pos hi',oE];have e:aH (z.val::(zs.map ND.val).drop (i+1))=aG z.val++aH ((zs.map ND.val).drop (i+1)):=by simp[aH]
 rw[e];simp[dV]
def pw(ob wb:Nat):Value:= .func (.func 133) #[] #[.pointer (some ⟨ob,0,none⟩), .pointer (some ⟨wb,0,none⟩)]
structure SE where
 x:SV
 p:Option Addr
def SE.val(z:SE):Value:= .agg ⟨[.slice z.x.a z.x.n z.x.c, .pointer z.p]⟩
structure LI where
 a:IV
 b:IV
 c:IV
def LI.val(z:LI):Value:= .agg ⟨[.bool z.a.neg, .slice z.a.a.a z.a.a.n z.a.a.c, .bool z.b.neg, .slice z.b.a.a z.b.a.n z.b.a.c, .bool z.c.neg, .slice z.c.a.a z.c.a.n z.c.a.c]⟩
def xO{a b:Int}(h:a=b):eI a=eI b:=by rw[h]
def Fz(z:Int):eQ (z:Rat)= .ag [.v (.bool (decide (z<0))),dN z.natAbs, .sl []]:=by unfold eQ;rw[jN,kY];rfl
def Ej{a:Rat}(h:a.den=1):((a.num:Int):Rat)=a:=Rat.ext (jN _) (by rw[kY,h])
def aAF{a b:Rat}(ha:a.den=1)(hb:b.den=1):a+b=((a.num+b.num:Int):Rat):=by
 rw[nJ,Ej ha,Ej hb]
def avk{a b:Rat}(ha:a.den=1)(hb:b.den=1):a*b=((a.num*b.num:Int):Rat):=by
 rw[cS,Ej ha,Ej hb]
def zk(n:Nat)(h:0<n):(if n=1 then [] else(dg n).map dU).length=0↔n=1:=by
 by_cases q:n=1
 .simp[q]
 .rw[if_neg q,aX,qn];omega
def RK{n:Nat}(h:n≠1):dD n=dN n:=by unfold dD;rw[if_neg h];rfl
def Ic:(i0 g 1=0)↔g=1:=by
 unfold i0;constructor
 .intro h;split at h
  .exact absurd h oma
  .split at h
   .assumption
   .exact absurd h oma
 .rintro rfl;rfl
def Pj{x:Int}(hd:0<d):zv (decide (x<0)) (x.natAbs/Nat.gcd x.natAbs d)=(mkRat x d).num:=by
 rw[sM,if_neg we,jL];have hg:0<Nat.gcd d x.natAbs:=mJ _ hd;obtain⟨c,hc⟩:Nat.gcd d x.natAbs∣x.natAbs:=mV _ _;generalize Nat.gcd d x.natAbs=g at*;rw[hc,rT _ hg];unfold zv;by_cases q:x<0
 .rw[if_pos (by simpa using q),show x=(g:Int)*(-(c:Int)) by rw[Int.mul_neg,<-jQ];omega,Int.mul_ediv_cancel_left _ we]
 .rw[if_neg (by simpa using q),show x=(g:Int)*(c:Int) by rw[<-jQ];omega,Int.mul_ediv_cancel_left _ we]
def SP{x:Int}(hd:0<d):d/Nat.gcd x.natAbs d=(mkRat x d).den:=by
 rw[sN,if_neg we,jL]
def Zz{x:Int}(hd:0<d)(h:Nat.gcd x.natAbs d=1):(mkRat x d).num=x/\(mkRat x d).den=d:=by
 rw[<-Pj hd,<-SP hd,h,tV,tV];exact⟨l5 x,J⟩
instance BI.zv (neg:Bool) (m i:Nat) [h:BN m i]:BI (zv neg m) i:=⟨by rw[m7];exact h.h⟩
section
variable {n:Nat}{fr:aC}{own own':aO}
def N7(fr:aC)(cf:Cf):Option Int:=match c6 fr cf with
 |some ⟨_, .convert t t' x,_,_,_,_⟩=>match eo tt t,eo tt t' with
  |some ⟨.int .i64,_,_,_⟩,some ⟨.int .u64,_,_,_⟩=>match bj (cd fr cf) x with
   |some (.d (.v (.int .i64 p)))=>some p
   |_=>none
  |_,_=>none
 |_=>none
def cvw[fu:Fu]{p:Int}(q:Int)(h:N7 fr cf=some p)(e:p%18446744073709551616=q)(hgo:cB tt n fu.n fr own cf (.d (.v (.int .u64 q))) [] []=⟨vc,fr',own',cf'⟩)(k:aA prog GB C n Q0 fr' own' cf')
  (hv:ak vc:=by first|exact trivial|(simp only[ak];omega)):aA prog GB C n Q0 fr own cf:=by
 unfold N7 at h;split at h<;>try (cases h;done)
 rename_i hh;split at h<;>try (cases h;done)
 rename_i hT hT';split at h<;>cases h;rename_i hx;have:=yp (fi _ _ hT) J;have:=yp (fi _ _ hT') J;refine us hh (.x1 hx fun ρ G ov a w y _ r h1 h2=>?_) hgo hv k;rw[dk] at h2;subst h2;refine⟨_,dk.2 J,?_⟩;rw[<-e,<-sA];exact CG h1
def Qa(fr:aC)(cf:Cf):Option Int:=match c6 fr cf with
 |some ⟨_, .unOp .neg _ x,_,_,_,_⟩=>match bj (cd fr cf) x with
  |some (.d (.v (.int .u64 p)))=>some p
  |_=>none
 |_=>none
def Vt[fu:Fu]{p:Int}(q:Int)(h:Qa fr cf=some p)(e:(0-p)%18446744073709551616=q)(hgo:cB tt n fu.n fr own cf (.d (.v (.int .u64 q))) [] []=⟨vc,fr',own',cf'⟩)(k:aA prog GB C n Q0 fr' own' cf')
  (hv:autoParam (ak vc) cvw._auto_1):aA prog GB C n Q0 fr own cf:=by
 unfold Qa at h;split at h<;>try (cases h;done)
 rename_i hh;split at h<;>cases h;rename_i hx;refine us hh (.x1 hx fun ρ G ov a w y _ r h1 h2=>?_) hgo hv k;rw[dk] at h2;subst h2;refine⟨_,dk.2 J,?_⟩;rw[<-e,<-sA];exact LC h1
end
def aMc{n:Int}(h0: -4611686018427387904<=n)(h1:n<=4611686018427387904):PF GB prog 71 [.v (.int .i64 n)] (eI n):=by
 refine fn func71 J J ntmps71 J J (fun C=>?_);refine br (fu1:=⟨3⟩) (fu2:=⟨6⟩) J J J (fun hc4=>?_) (fun hc4=>?_)
 .
  refine cvw (fu:=⟨0⟩) (18446744073709551616+n) J we J<|Vt (n.natAbs:Nat) J we J<|cl J (vq (u:=n.natAbs)) J<|cl J kj J<|rz J (xO (by unfold zv;rw[if_pos J];omega))
 .
  refine aj 11 (.d (.v (.int .u64 (n.natAbs:Nat)))) J (omi we)<|gx J<|cl J (vq (u:=n.natAbs)) J<|cl J kj J<|rz J (xO (by unfold zv;rw[if_neg oma];omega))
def yw:PF GB prog 67 [eI z] (vI z.sign):=by
 have hl:=b7 (dg z.natAbs);have hz:= @qn z.natAbs;refine fn func67 J J ntmps67 J J (fun C=>?_);refine br J J J (fun hc6=>?_) (fun hc6=>?_)
 .
  exact rz J okV
 .
  refine bd J J J (fun hc8=>?_) (fun hc8=>?_)
  .
   exact rz J ozu
  .
   exact rz J ozA
def AL:PF GB prog 196 [eI z] (eI (-z)):=by
 refine fn func196 J J ntmps196 J J (fun C=>?_);refine cl J kj J<|rz J (xO (XJ z))
def Y'{a b:Int}(h:decide (a<0)=decide (b<0)):zv (decide (a<0)) (a.natAbs+b.natAbs)=a+b:=by
 unfold zv;have h':a<0↔b<0:=by simpa using h
 by_cases q:a<0
 .have:=h'.1 q
  simp[q];omega
 .have: ¬b<0:=fun w=>q (h'.2 w)
  simp[q];omega
def aFO{a b:Int}(h: ¬decide (a<0)=decide (b<0))(k:a.natAbs<b.natAbs):zv (decide (b<0)) (b.natAbs-a.natAbs)=a+b:=by
 unfold zv;have h': ¬(a<0↔b<0):=by simpa using h
 by_cases q:b<0
 .have: ¬a<0:=fun w=>h' ⟨fun _=>q,fun _=>w⟩
  simp[q];omega
 .have:a<0:=Int.not_le.1 fun w=>h' ⟨fun e=>by omega,fun e=>absurd e q⟩
  simp[q];omega
def aDY{a b:Int}(h: ¬decide (a<0)=decide (b<0))(k:b.natAbs<=a.natAbs):zv (decide (a<0)) (a.natAbs-b.natAbs)=a+b:=by
 unfold zv;have h': ¬(a<0↔b<0):=by simpa using h
 by_cases q:a<0
 .have: ¬b<0:=fun w=>h' ⟨fun _=>w,fun _=>q⟩
  simp[q];omega
 .have:b<0:=Int.not_le.1 fun w=>h' ⟨fun e=>absurd e q,fun e=>by omega⟩
  simp[q];omega
def FC{a b:Int}[ha:BI a i][hb:BI b j](hi:i<=400000000:=by decide)(hj:j<=400000000:=by decide):PF GB prog 129 [eI a,eI b] (eI (a+b)):=by
 have hba:=ji ha.h;have hbb:=ji hb.h;refine fn (fu:=⟨15⟩) func129 J J ntmps129 J J (fun C=>?_);refine aj 9 (.d (.v (.bool (decide (decide (a<0)=decide (b<0)))))) J (by congr 2)<|gx J<|bd J J J (fun hc9=>?_) (fun hc9=>?_)
 .
  refine cl J (aL5 we we) J<|cl J kj J<|rz J (xO (Y' hc9))
 .
  refine cl J (yj) J<|br J J J (fun hc23=>?_) (fun hc23=>?_)
  .
   refine cl J (H2 (by have:=yS.1 hc23;omega) we) J<|cl J kj J<|rz J (xO (aFO hc9 (yS.1 hc23)))
  .
   refine cl J (H2 (sL fun q=>hc23 (yS.2 q)) we) J<|cl J kj J<|rz J (xO (aDY hc9 (sL fun q=>hc23 (yS.2 q))))
def vv{a b:Int}[ha:BI a i][hb:BI b j](hi:i<=400000000:=by decide)(hj:j<=400000000:=by decide):PF GB prog 126 [eI a,eI b] (eI (a*b)):=by
 refine fn func126 J J ntmps126 J J (fun C=>?_);refine cl J (qp we we) J<|cl J kj J<|rz J (xO (Wf a b))
def IR{a b:Int}[ha:BI a i][hb:BI b j](hi:i<=400000000:=by decide)(hj:j<=400000000:=by decide):PF GB prog 197 [eI a,eI b] (vI (a-b).sign):=by
 refine fn func197 J J ntmps197 J J (fun C=>?_);refine cl J AL J<|cl J (FC we we) J<|cl J yw J<|rz J (by rw[Int.sub_eq_add_neg];rfl)
def jr:PF GB prog 125 [eQ q] (dN q.den):=by
 refine fn func125 J J ntmps125 J J (fun C=>?_);refine br J J J (fun hc6=>?_) (fun hc6=>?_)
 .
  refine cl J EZ J<|rz J (by rw[(zk q.den (nB q)).1 we];rfl)
 .
  exact rz J (by exact RK (fun e=>hc6 (by exact congrArg Int.ofNat ((zk q.den (nB q)).2 e))))
def TO{n:Nat}[h:BN n k](hk:k<=500000000:=by omega):(dg n).length<=220000000:=by have:=ji h.h;omega
def wW{x:Int}[hx:BI x i][hd:BN d j](hd0:0<d)(hi:i<=200000000:=by decide)(hj:j<=200000000:=by decide):PF GB prog 127 [eI x,dN d] (eQ (mkRat x d)):=by
 obtain⟨q,hq⟩: ∃q,q=mkRat x d:=⟨_,rfl⟩;obtain⟨g,hg⟩: ∃g,g=Nat.gcd x.natAbs d:=⟨_,rfl⟩;have hg0:0<g:=hg▸oY _ hd0;haveI hgB:BN g (i+j):=hg▸inferInstance;have hg1:(dg g).length<=220000000:=TO (k:=i+j);have ho1:(dg 1).length<=220000000:=by rw[Aq];decide
 haveI hqB:BQ q (i+j):=hq▸zO hd0 (cM hx.h (cZ oma we)) (cM hd.h (cZ oma we));refine fn func127 J J ntmps127 J J (fun C=>?_);refine cl (fu:=⟨0⟩) J (B9 we we) J<|aj 11 (.d (dN g)) J (by rw[hg])<|gx (fu:=⟨4⟩) J<|mg (fu:=⟨1⟩) (X:=Unit) (fun _=>[(1, .d (dN q.den)),(2, .ov 2 0),(4, .ov 4 0)]) (fun _=>[(4,some (.o 81 [.ff, .nl, .nl] true)),(2,some (.o 79 [.d (.v (.bool (decide (q.num<0)))), .d (dN q.num.natAbs)] true))]) (fun _=>True) [1,2,4] [4,2] rfl ?_ (fun _=>J) (fun _ hm=>?_)
 .
  refine gx J<|cl J EZ J<|cl J (yj hg1 ho1) J<|br J J J (fun hc15=>?_) (fun hc15=>?_)
  .
   refine cl J (zz hg0 we we) J<|cl (fu:=⟨0⟩) J kj J<|aj 26 (.d (eI q.num)) J (by show FX.d (eI (zv _ _))=_;rw[hg,Pj hd0,hq])<|gx J<|cl (fu:=⟨2⟩) J (zz hg0 we we) J<|aj 31 (.d (dN q.den)) J (by rw[hg,SP hd0,hq])<|gx J<|at_ () trivial
  .
   have hm:=Zz (x:=x) hd0 (by rw[<-hg];exact Ic.1 (Decidable.not_not.1 hc15));rw[<-hq] at hm;refine aj 1 (.d (dN q.den)) J (by rw[hm.2])<|at_ () trivial (hO:=⟨J,by rw[hm.1];rfl,trivial⟩)
 .
  refine mg (X:=Unit) (fun _=>[(1, .d (dD q.den)),(2, .ov 2 0),(4, .ov 4 0)]) (fun _=>[(4,some (.o 81 [.ff, .nl, .nl] true)),(2,some (.o 79 [.d (.v (.bool (decide (q.num<0)))), .d (dN q.num.natAbs)] true))]) (fun _=>True) [1,2,4] [4,2] rfl ?_ (fun _=>J) (fun _ hm=>?_)
  .
   refine gx J<|cl J EZ J<|cl J (yj (TO (k:=i+j)) ho1) J<|br J J J (fun hc36=>?_) (fun hc36=>?_)
   .
    refine Z7 1 J<|aj 1 (.d (dD q.den)) J (by rw[Ic.1 hc36];rfl)<|at_ () trivial
   .
    refine aj 1 (.d (dD q.den)) J (by rw[RK (fun e=>hc36 (Ic.2 e))])<|at_ () trivial
  .
   exact rz J (by rw[<-hq];rfl)
def Ni(a:Rat):mkRat a.num a.den=a:=by simp[oN]
def Pf{a b:Rat}(h:b≠0):a/b=mkRat (a.num*zv (decide (b.num<0)) b.den) (a.den*b.num.natAbs):=by
 rw[mL];have ha:(a.num:Rat)/(a.den:Rat)=a:=by rw[<-mL,Ni]
 have hb:(b.num:Rat)/(b.den:Rat)=b:=by rw[<-mL,Ni]
 have h1:(a.den:Rat)≠0:=by have:=a.den_nz;exact_mod_cast this
 have h2:(b.den:Rat)≠0:=by have:=b.den_nz;exact_mod_cast this
 have h3:(b.num:Rat)≠0:=by
  intro e;rw[e] at hb;apply h;rw[<-hb];grind
 rw[cS,Rat.natCast_mul];by_cases q:b.num<0
 .have e1:((zv (decide (b.num<0)) b.den:Int):Rat)= -(b.den:Rat):=by
   unfold zv;rw[if_pos (by simpa using q),kU];rfl
  have e2:((b.num.natAbs:Nat):Rat)= -(b.num:Rat):=by
   have:((b.num.natAbs:Nat):Int)= -b.num:=by omega
   rw[<-kU,<-this];rfl
  rw[e1,e2];generalize (a.num:Rat)=an at*;generalize (a.den:Rat)=ad at*;generalize (b.num:Rat)=bn at*;generalize (b.den:Rat)=bd at*;subst ha hb;grind
 .have e1:((zv (decide (b.num<0)) b.den:Int):Rat)=(b.den:Rat):=by
   unfold zv;rw[if_neg (by simpa using q)];rfl
  have e2:((b.num.natAbs:Nat):Rat)=(b.num:Rat):=by
   have:((b.num.natAbs:Nat):Int)=b.num:=by omega
   rw[<-this];rfl
  rw[e1,e2];generalize (a.num:Rat)=an at*;generalize (a.den:Rat)=ad at*;generalize (b.num:Rat)=bn at*;generalize (b.den:Rat)=bd at*;subst ha hb;grind
def at6{n:Int}(hd:0<d)(h:q*(d:Rat)=(n:Rat)):q.num.natAbs<=n.natAbs/\q.den<=d:=by
 have e:q=mkRat n d:=by
  rw[mL];have:(d:Rat)≠0:=by exact_mod_cast (by omega:d≠0)
  rw[<-h];grind
 rw[e,sM,sN,if_neg we,if_neg we];exact⟨mS n (d.gcd n.natAbs:Nat),mT ..⟩
theorem BQ.of_frac{n:Int}(hd:0<d)(h:q*(d:Rat)=(n:Rat))(hn:n.natAbs<2^(7*i))(hdi:d<2^(7*i)):BQ q i:=by
 have:=at6 hd h;exact⟨we,we⟩
def Mf{b:Rat}(h:b≠0):0<b.num.natAbs:=by
 have:b.num≠0:=fun e=>h (mW.1 e);omega
instance BQ.over (a b:Rat) (i j:Nat) [ha:BQ a i] [hb:BQ b j]:BQ (a/b) (i+j):=by
 by_cases h:b=0
 .subst h
  rw[Rat.div_def,Rat.inv_zero,Rat.mul_zero];have h2:=ha.hd;have h3:0<a.den:=nB a;have h4:2^(7*i)<=2^(7*(i+j)):=vz;exact⟨by show 0<_;omega,by show 1<_;omega⟩
 .rw[Pf h]
  have hb0:=Mf h;refine zO (iY (nB a) hb0) ?_ (kg ha.hd hb.hn);rw[eY,m7];exact kg ha.hn hb.hd
def ju{n:Int}(h0: -4611686018427387904<=n:=by decide)(h1:n<=4611686018427387904:=by decide):PF GB prog 35 [.v (.int .i64 n)] (eQ (n:Rat)):=by
 refine fn func35 J J ntmps35 J J (fun C=>?_);refine cl J (aMc we we) J<|rz J (by rw[Fz];rfl)
def ry:PF GB prog 32 [eQ q] (vI q.num.sign):=by
 refine fn func32 J J ntmps32 J J (fun C=>?_);refine cl J yw J<|rz J J
def tC:PF GB prog 117 [eQ q] (eQ (-q)):=by
 refine fn func117 J J ntmps117 J J (fun C=>?_);refine cl J AL J<|rz J (by unfold eQ;rw[oX,tK];rfl)
def gH{a b:Rat}[ha:BQ a i][hb:BQ b j](hi:i<=20000000:=by decide)(hj:j<=20000000:=by decide):PF GB prog 69 [eQ a,eQ b] (eQ (a*b)):=by
 have had:=nB a;have hbd:=nB b;have hdp:=iY had hbd;have e1:=zk a.den had;have e2:=zk b.den hbd;refine fn func69 J J ntmps69 J J (fun C=>?_);refine cs 9 J J J (fun hg9=>?_) (fun hg9=>?_)
 .
  refine br J J J (fun hc14=>?_) (fun hc14=>?_)
  .
   refine cl J (vv (a:=a.num) (b:=b.num) we we) J<|rz J (by rw[avk (e1.1 we) (e2.1 we),Fz];rfl)
  .
   refine cl J (vv (a:=a.num) (b:=b.num) we we) J<|cl J jr J<|cl J jr J<|cl J (qp we we) J<|cl J (wW hdp we we) J<|rz J (by rw[By];rfl)
 .
  refine cl J (vv (a:=a.num) (b:=b.num) we we) J<|cl J jr J<|cl J jr J<|cl J (qp we we) J<|cl J (wW hdp we we) J<|rz J (by rw[By];rfl)
def ng{a b:Rat}[ha:BQ a i][hb:BQ b j](hi:i<=20000000:=by decide)(hj:j<=20000000:=by decide):PF GB prog 70 [eQ a,eQ b] (eQ (a+b)):=by
 have had:=nB a;have hbd:=nB b;have hdp:=iY had hbd;have e1:=zk a.den had;have e2:=zk b.den hbd;refine fn func70 J J ntmps70 J J (fun C=>?_);refine cs 9 J J J (fun hg9=>?_) (fun hg9=>?_)
 .
  refine br J J J (fun hc14=>?_) (fun hc14=>?_)
  .
   refine cl J (FC we we) J<|rz J (by rw[aAF (e1.1 we) (e2.1 we),Fz];rfl)
  .
   refine cl J jr J<|cl J kj J<|cl J (vv (a:=a.num) (b:=zv false b.den) we we) J<|cl J jr J<|cl J kj J<|cl J (vv (a:=b.num) (b:=zv false a.den) we we) J<|cl J (FC we we) J<|cl J jr J<|cl J jr J<|cl J (qp we we) J<|cl J (wW hdp we we) J<|rz J (by rw[A'];rfl)
 .
  refine cl J jr J<|cl J kj J<|cl J (vv (a:=a.num) (b:=zv false b.den) we we) J<|cl J jr J<|cl J kj J<|cl J (vv (a:=b.num) (b:=zv false a.den) we we) J<|cl J (FC we we) J<|cl J jr J<|cl J jr J<|cl J (qp we we) J<|cl J (wW hdp we we) J<|rz J (by rw[A'];rfl)
def tu{a b:Rat}[ha:BQ a i][hb:BQ b j](hi:i<=20000000:=by decide)(hj:j<=20000000:=by decide):PF GB prog 68 [eQ a,eQ b] (eQ (a-b)):=by
 refine fn func68 J J ntmps68 J J (fun C=>?_);refine cl J (tC (q:=b)) J<|cl J (ng (a:=a) (b:= -b) hi hj) J<|rz J (by rw[Rat.sub_eq_add_neg];rfl)
def wZ{a b:Rat}[ha:BQ a i][hb:BQ b j](hb0:b≠0)(hi:i<=20000000:=by decide)(hj:j<=20000000:=by decide):PF GB prog 118 [eQ a,eQ b] (eQ (a/b)):=by
 have hbp:=Mf hb0;have hdp:=iY (nB a) hbp;refine fn func118 J J ntmps118 J J (fun C=>?_);refine cl J jr J<|cl J kj J<|cl J (vv (a:=a.num) (b:=zv (decide (b.num<0)) b.den) we we) J<|cl J jr J<|cl J (qp (a:=a.den) (b:=b.num.natAbs) we we) J<|cl J (wW (x:=a.num*zv (decide (b.num<0)) b.den) (d:=a.den*b.num.natAbs) hdp we we) J<|rz J (by rw[Pf hb0];rfl)
def jF{a b:Rat}[ha:BQ a i][hb:BQ b j](hi:i<=20000000:=by decide)(hj:j<=20000000:=by decide):PF GB prog 72 [eQ a,eQ b] (vI (bw a b)):=by
 refine fn func72 J J ntmps72 J J (fun C=>?_);refine cl J (tu hi hj) J<|cl J ry J<|rz J (by show vI _=vI _;rw[E4])
def aJX:((2:Int):Rat)≠0:=by decide
instance BI.two:BI 2 2:=⟨oma⟩
def Le{a:Rat}[ha:BQ a i](hi:i<=20000000:=by decide):PF GB prog 258 [eQ a] (eQ (a/2)):=by
 refine fn func258 J J ntmps258 J J (fun C=>?_);refine cl J (ju (n:=2)) J<|cl J (wZ (a:=a) (b:=((2:Int):Rat)) aJX hi oma) J<|rz J J
def Eb{a b:Rat}[ha:BQ a i][hb:BQ b j](hi:i<=2000000:=by decide)(hj:j<=2000000:=by decide):PF GB prog 195 [eQ a,eQ b] (eQ ((a+b)/2)):=by
 refine fn func195 J J ntmps195 J J (fun C=>?_);refine cl J (ng we we) J<|cl J (Le (a:=a+b) we) J<|rz J J
end Go.Sx
end
