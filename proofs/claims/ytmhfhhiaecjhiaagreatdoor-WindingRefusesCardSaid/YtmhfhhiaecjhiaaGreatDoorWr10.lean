import Derived.Test.YtmhfhhiaecjhiaaGreatDoorWr9
set_option linter.all false
set_option maxHeartbeats 8000000
set_option maxRecDepth 100000
section
namespace Go.Sx
open Go Go.Proofs Tryz
variable {GB:Gh}
def Wn{a b ia ib:Nat}[h:BN a ia][k:BN b ib](h2:2<=(dg b).length)(hle:b<=a)(hi:ia<=1000000000:=by decide)(hj:ib<=1000000000:=by decide):PF GB prog 243 [dN a,dN b] (.tp [dN (a/b),dN (a%b)]):=by
 have hla:=bv (dg a);have hba:=eH (a:=a) hi;have hlb:=bv (dg b);have hbb:=eH (a:=b) hj;obtain⟨n,s,l,P⟩:=Qw h2 hle;have hn:=P.hn;have hs:=P.hs;have hsb:=P.hb;have hs32:=P.s32;have hal:=P.al;have hu0:=P.u0;have hu9:=uM (a:=a*2^s) (k:=(dg a).length+1) P.u1;have htl:=cP b (n+1);obtain⟨vs,hvs⟩: ∃vs,vs=dg (b*2^s):=⟨_,rfl⟩;have hvl:vs.length=n+2:=by rw[hvs];exact P.vl
 have hvv:dv vs=b*2^s:=by rw[hvs,cd]
 have hvo:aO vs:=by rw[hvs];exact dH _
 have hvn:c6 vs:=by rw[hvs];exact(dE _).2.2
 have hvm:=bv vs;obtain⟨us0,hus0⟩: ∃us0,us0=(dg (a*2^s)++[0,0]).take ((dg a).length+1):=⟨_,rfl⟩;have husv:dv us0=a*2^s:=by rw[hus0];exact Oi P.u1
 have huso:aO us0:=by rw[hus0];exact((dH _).append (.replicate 2)).take _
 have husl:us0.length=(dg a).length+1:=by rw[hus0];simp;omega
 have hps:0<2^s:=fY (by decide);have hbp:=P.bp;have hV0':0<dv vs:=by rw[hvv];exact fX hbp hps
 have hvB:dv vs<4294967296^(n+2):=by rw[hvv];exact P.v2
 obtain⟨T,hT⟩: ∃T,T=vs.getD (n+1) 0:=⟨_,rfl⟩;obtain⟨S,hS⟩: ∃S,S=vs.getD n 0:=⟨_,rfl⟩;have hTB:T<4294967296:=by rw[hT];exact hvo.get _
 have hSB:S<4294967296:=by rw[hS];exact hvo.get _
 have hT0:0<T:=by rw[hT];exact KD hvn (n+1) hvl
 have hvh:=Mg hvo n hvB;rw[<-hT,<-hS] at hvh;refine fn (fu:=⟨12⟩) func243 J J ntmps243 J J (fun C=>?_);refine ah 27 (.d (vI ((dg b).length:Nat))) J (by rw[hlb]<;>rfl)<|gx J<|ix _ J (b9 (k:=n+1)) J<|cl (fu:=⟨1⟩) J (BB htl) J<|ah 32 (.d (.v (.int .u64 (s:Nat)))) J (by show FX.d (.v (.int _ _))= .d (.v (.int _ _));congr 3;omega)<|gx J<|cr J (I7 (a:=a) (k:=s) hs32 (by omega) hi) J<|rf J J<|ap (fu:=⟨2⟩) _ J J (w5 J) J<|ah 39 (.d (vI ((dg a).length:Nat))) J (by rw[hla]<;>rfl)<|gx (fu:=⟨1⟩) J<|ah 40 (.d (vI ((dg a).length+1:Nat))) J (by show FX.d (.v (.int _ _))= .d (.v (.int _ _));congr 3)<|gx (fu:=⟨0⟩) J<|yX (us0.map dU) ((dg a).length+1) J J (by simp;omega) (by rw[hus0,jL,cK];rfl) J<|cr (fu:=⟨7⟩) J (Sj (a:=b) (k:=s) (vs:=vs) hvs hs32 (by omega) hj) J<|ah 46 (.d (vI (n+2:Nat))) J (by rw[hvm,hvl]<;>rfl)<|gx J<|lb (fu:=⟨1⟩) _ J (b9 (k:=n+1)) J<|ah 52 (.d (.v (.int .u64 (T:Nat)))) J (by show FX.d (.v (.int _ _))= .d (.v (.int _ _));rw[hT])<|gx J<|lb (fu:=⟨1⟩) _ J (b9 (k:=n)) J<|ah 58 (.d (.v (.int .u64 (S:Nat)))) J (by show FX.d (.v (.int _ _))= .d (.v (.int _ _));rw[hS])<|gx (fu:=⟨8⟩) J<|ah 60 (.d (vI ((dg a).length+1:Nat))) J (by rw[bv,husl]<;>rfl)<|gx (fu:=⟨2⟩) J<|ah 62 (.d (vI (l:Nat))) J (by show FX.d (.v (.int _ _))= .d (.v (.int _ _));congr 3;omega)<|gx J<|mk (fu:=⟨11⟩) ((List.replicate l 0).map dU) J J (by rw[<-jd];rfl) J<|ah 65 (.d (vI (l:Nat))) J (by rw[bv,aV]<;>rfl)<|gx J<|lp (X:=List Nat×List Nat×Nat) (fun⟨us,qs,j⟩=>[(13, .d (vI ((j:Nat)-1)))]) (fun⟨us,qs,j⟩=>[(63,some (.b 261 1 (qs.map dU) true)),(41,some (.b 261 1 (us.map dU) true))]) (fun⟨us,qs,j⟩=>us.length=(dg a).length+1/\aO us/\qs.length=l/\aO qs/\j<=l/\(∀i,i<j->qs.getD i 0=0)/\a*2^s=dv us+dv vs*dv qs/\dv us<dv vs*4294967296^j) (fun⟨us,qs,j⟩=>j) ⟨us0,List.replicate l 0,l⟩ J ⟨husl,huso,by simp, .replicate _,aM _,fun i _=>yL _ _,by simp only[r8];omega,by rw[husv,hvv];exact P.u3⟩ (fun _=>J) (fun⟨us,qs,j⟩ hk=>?_)
 try dsimp only at hk⊢
 obtain⟨hul,huo,hql,hqo,hjl,hq0,hinv,hlt⟩:=hk;refine br (fu1:=⟨0⟩) (fu2:=⟨0⟩) J J J (fun hc68=>?_) (fun hc68=>?_)
 .
  obtain⟨i,rfl⟩: ∃i,j=i+1:=⟨j-1,by omega⟩;refine ah 13 (.d (vI (i:Nat))) J (by show FX.d (.v (.int _ _))= .d (.v (.int _ _));congr 3;omega) ?_;obtain⟨f,p,V,v0,hf,hV,hVp0,hltV,hUle,hUlt,hVp,hv0,hM⟩:=Sw (n:=n) (i:=i) huo hvo hvB hV0' hvh hlt;have hVle:(T*4294967296+S)*p<=V:=by rw[hVp];exact nL _ _
  have hfT:f<=T*4294967296+S:=U2 hUle hVp hv0 hltV;have hg0:=huo.get (i+n);have hg1:=huo.get (i+n+1);have hg2:=huo.get (i+n+2);have hum:=bv us;have hqm:=bv qs;refine gx J<|lb (fu:=⟨2⟩) (hv:=by simp only[aj];exact⟨by omega,(by decide)⟩) _ J (b9 (k:=i+n+2)) J<|ah 78 (.d (.v (.int .u64 (us.getD (i+n+2) 0*4294967296:Nat)))) J (by show FX.d (.v (.int _ _))= .d (.v (.int _ _));rw[lz _ 32 (by decide) (by show _*4294967296<_;omega) J])<|gx J<|lb (fu:=⟨2⟩) _ J (b9 (k:=i+n+1)) J<|ah 87 (.d (.v (.int .u64 (f:Nat)))) J (congrArg (fun z:Nat=>FX.d (.v (.int .u64 (z:Int)))) ((congrArg BitVec.toNat (BitVec.or_comm ..)).trans ((lC 64 (us.getD (i+n+1) 0) (us.getD (i+n+2) 0) 32 hg1 (by show _+_*4294967296<18446744073709551616;omega)).trans (by show _+_*4294967296=_;omega))))<|gx (fu:=⟨8⟩) (hv:=by simp only[aj];exact⟨by kernel_rfl,by omega⟩) J<|ah 90 (.d (.v (.int .u64 (f/T:Nat)))) J (by show FX.d (.v (.int _ _))= .d (.v (.int _ _));first|rfl|congr 3)<|gx (fu:=⟨3⟩) J<|ah 93 (.d (.v (.int .u64 (f%T:Nat)))) J (by show FX.d (.v (.int _ _))= .d (.v (.int _ _));first|rfl|congr 3)<|gx (fu:=⟨5⟩) J<|mg (fu:=⟨11⟩) (X:=Nat) (fun g=>[(15, .d (.v (.int .u64 (g:Nat))))]) (fun g=>[]) (fun g=>g<4294967296/\dv us<(g+1)*V/\g*V<dv us+V) [15,16] [] rfl ?_ (fun _=>J) (fun g ⟨hgB,hlo,hhi⟩=>?_)
  .
   refine gx J<|lp (fu:=⟨5⟩) (hv:=fun _ _=>by simp only[aj];exact(by decide)) (X:=Nat×Nat) (fun⟨g,r⟩=>[(15, .d (.v (.int .u64 (g:Nat)))),(16, .d (.v (.int .u64 (r:Nat))))]) (fun⟨g,r⟩=>[]) (fun⟨g,r⟩=>f=g*T+r/\r<4294967296/\dv us<(g+1)*V) (fun⟨g,r⟩=>g) ⟨f/T,f%T⟩ J ⟨(Nat.div_add_mod' ..).symm,rX (cJ _ hT0) hTB,NT hUlt hg0 hVle hT0⟩ (fun _=>J) (fun⟨g,r⟩ hk=>?_)
   try dsimp only at hk⊢
   obtain⟨hfg,hrB,hlo⟩:=hk;have hgT:g*1<=g*T:=eX _ hT0;refine ah 95 (.d (.v (.int .u64 (g/4294967296:Nat)))) rfl (by rw[kn])<|gx rfl<|cs (fu1:=⟨26⟩) (v1:=fun hg97=>by simp only[aj];exact(by first|omega|(have hd:=Al hUlt hVle hfg;rcases cN g with e|e;(rw[e,iV] at hd;omega);omega))) (fu2:=⟨3⟩) (v2:=fun hg97=>by simp only[aj];exact⟨(vm _ _),(tF (show g<4294967296 by omega) hSB)⟩) 97 J J J (fun hg97=>?_) (fun hg97=>?_)
   .
    have hgB4:4294967296<=g:=by omega
    have hdec:dv us<g*V:=bS hltV (by rw[bW];exact bK _ hgB4);obtain⟨g',rfl⟩: ∃g',g=g'+1:=⟨g-1,by rcases cN g with h|h;(rw[h,iV] at hdec;omega);omega⟩;have hfg':f=g'*T+(r+T):=by rw[hfg,cS,mV];omega
    refine ah 115 (.d (.v (.int .u64 (g':Nat)))) J (by show FX.d (.v (.int _ _))= .d (.v (.int _ _));congr 3;omega)<|gx (fu:=⟨8⟩) J<|ah 118 (.d (.v (.int .u64 (r+T:Nat)))) J (by show FX.d (.v (.int _ _))= .d (.v (.int _ _));first|rfl|congr 3)<|gx (fu:=⟨7⟩) (hv:=by simp only[aj];exact(by decide)) J<|ah 120 (.d (.v (.int .u64 ((r+T)/4294967296:Nat)))) J (by rw[kn])<|gx J<|br J J J (fun hc121=>?_) (fun hc121=>?_)
    .
     have hgB3:g'<4294967296:=by rcases dR g' 4294967296 with h|h;(exact h);(have:=bK T h;omega)
     have hgS3:g'*S<=(r+T)*4294967296+us.getD (i+n) 0:=by have h1:=nY (mW hgB3) (mW hSB);omega
     exact at_ g' ⟨hgB3,hdec,Bh hUle hVp hv0 hT0 hfg' hgB3 hgS3⟩
    .
     exact at_ ⟨g',r+T⟩ (by dsimp only;exact⟨⟨hfg',by omega,hdec⟩,(by omega)⟩)
   .
    have hgB:g<4294967296:=by omega
    have hgS:g*S<4294967296*4294967296:=pR hgB hSB;refine ah 100 (.d (.v (.int .u64 (g*S:Nat)))) rfl (by rw[fL])<|gx (fu:=⟨2⟩) (hv:=by simp only[aj];exact(by decide)) rfl<|ah 102 (.d (.v (.int .u64 (r*4294967296:Nat)))) rfl (by show FX.d (.v (.int _ _))= .d (.v (.int _ _));rw[lz _ 32 (by decide) (by show _*4294967296<_;omega) rfl])<|gx rfl<|lb (fu:=⟨2⟩) _ rfl (b9 (k:=i+n)) rfl<|ah 111 (.d (.v (.int .u64 (r*4294967296+us.getD (i+n) 0:Nat)))) rfl (congrArg (fun z:Nat=>FX.d (.v (.int .u64 (z:Int)))) ((congrArg BitVec.toNat (BitVec.or_comm ..)).trans ((lC 64 (us.getD (i+n) 0) (r) 32 hg0 (by show _+_*4294967296<18446744073709551616;omega)).trans (by show _+_*4294967296=_;omega))))<|gx rfl<|br (fu1:=⟨7⟩) (v1:=fun hc113=>by simp only[aj];exact(by first|omega|(have hd:=Al hUlt hVle hfg;rcases cN g with e|e;(rw[e,iV] at hd;omega);omega))) rfl rfl rfl (fun hc113=>?_) (fun hc113=>?_)
    .
     have hdec:dv us<g*V:=Al hUlt hVle hfg;obtain⟨g',rfl⟩: ∃g',g=g'+1:=⟨g-1,by rcases cN g with h|h;(rw[h,iV] at hdec;omega);omega⟩;have hfg':f=g'*T+(r+T):=by rw[hfg,cS,mV];omega
     refine ah 115 (.d (.v (.int .u64 (g':Nat)))) J (by show FX.d (.v (.int _ _))= .d (.v (.int _ _));congr 3;omega)<|gx (fu:=⟨8⟩) J<|ah 118 (.d (.v (.int .u64 (r+T:Nat)))) J (by show FX.d (.v (.int _ _))= .d (.v (.int _ _));first|rfl|congr 3)<|gx (fu:=⟨7⟩) (hv:=by simp only[aj];exact(by decide)) J<|ah 120 (.d (.v (.int .u64 ((r+T)/4294967296:Nat)))) J (by rw[kn])<|gx J<|br J J J (fun hc121=>?_) (fun hc121=>?_)
     .
      have hgB3:g'<4294967296:=by rcases dR g' 4294967296 with h|h;(exact h);(have:=bK T h;omega)
      have hgS3:g'*S<=(r+T)*4294967296+us.getD (i+n) 0:=by have h1:=nY (mW hgB3) (mW hSB);omega
      exact at_ g' ⟨hgB3,hdec,Bh hUle hVp hv0 hT0 hfg' hgB3 hgS3⟩
     .
      exact at_ ⟨g',r+T⟩ (by dsimp only;exact⟨⟨hfg',by omega,hdec⟩,(by omega)⟩)
    .
     exact at_ g ⟨hgB,hlo,Bh hUle hVp hv0 hT0 hfg hgB (by omega)⟩
  .
   refine ah 123 (.d (vI (n+2:Nat))) J (by rw[hvm,hvl]<;>rfl)<|gx J<|lp (X:=List Nat×Nat×Nat×Nat) (fun⟨ws,k,bo,c⟩=>[(124, .d (vI (k:Nat))),(17, .d (.v (.int .u64 (bo:Nat)))),(18, .d (.v (.int .u64 (c:Nat))))]) (fun⟨ws,k,bo,c⟩=>[(41,some (.b 261 1 (ws.map dU) true))]) (fun⟨ws,k,bo,c⟩=>ws.length=(dg a).length+1/\aO ws/\k<=n+2/\bo<=1/\c<4294967296/\dv ws<4294967296^(i+n+3)/\dv ws+g*(dv (vs.take k)*4294967296^i)=dv us+(bo+c)*4294967296^(i+k)) (fun⟨ws,k,bo,c⟩=>n+2-k) ⟨us,0,0,0⟩ J ⟨hul,huo,bJ _,bJ _,by decide,hM,by simp[dv]⟩ (fun _=>J) (fun⟨ws,k,bo,c⟩ hk=>?_)
   try dsimp only at hk⊢
   obtain⟨hwl,hwo,hk2,hbo,hc4,hwM,hw⟩:=hk;refine br J J J (fun hc125=>?_) (fun hc125=>?_)
   .
    have hvk:=hvo.get k;have hwg:=hwo.get (i+k);have hgd:g*vs.getD k 0<=4294967295*4294967295:=nY (by omega) (by omega);obtain⟨c1,hc1⟩: ∃c1,c1=c+g*vs.getD k 0:=⟨_,rfl⟩;have hc1m:c1%4294967296<4294967296:=cJ _ (by decide);obtain⟨hx1,hx2,hx3⟩:=EU (ws.getD (i+k) 0) (c1%4294967296) bo hwg hc1m hbo;obtain⟨xx,hxx⟩: ∃x,x=oq (ws.getD (i+k) 0) (c1%4294967296) bo:=⟨_,rfl⟩;rw[<-hxx] at hx1 hx2 hx3;have hwm:=bv ws;refine lb (fu:=⟨11⟩) (hv:=by simp only[aj];exact⟨by omega,⟨(vm _ _),(tF hgB hvk)⟩⟩) _ J (dm) J<|ah 133 (.d (.v (.int .u64 (g*vs.getD k 0:Nat)))) J (by rw[fL])<|gx (fu:=⟨1⟩) J<|ah 134 (.d (.v (.int .u64 (c1:Nat)))) J (by show FX.d (.v (.int _ _))= .d (.v (.int _ _));congr 3;omega)<|gx J<|lb (fu:=⟨3⟩) _ J (b9 (k:=i+k)) J<|ah 143 (.d (.v (.int .u64 (c1%4294967296:Nat)))) J (congrArg (fun z:Nat=>FX.d (.v (.int .u64 (z:Int)))) (OH c1 (by omega)))<|gx (fu:=⟨0⟩) J<|sd (fu:=⟨1⟩) (IntKind.u64.wrap (((ws.getD (i+k) 0:Nat):Int)-((c1%4294967296:Nat):Int))) J J J<|sd (fu:=⟨11⟩) ((xx:Nat):Int) J (by rw[hxx];exact sub2 _ _ _ hwg hc1m hbo) J<|ah 152 (.d (dU (xx%4294967296))) J (by show FX.d (.v (.int _ _))= .d (.v (.int _ _));congr 3)<|gx J<|sb (fu:=⟨6⟩) (hv:=by simp only[aj];exact(by decide)) _ ((ws.set (i+k) (xx%4294967296)).map dU) J (b9 (k:=i+k)) J (by(rw[show((i:Int)+k).toNat=i+k by omega,<-fm])<;>rfl) J<|ah 155 (.d (.v (.int .u64 (xx/9223372036854775808:Nat)))) J (by rw[y4])<|gx (fu:=⟨6⟩) (hv:=by simp only[aj];exact(by decide)) J<|ah 157 (.d (.v (.int .u64 (c1/4294967296:Nat)))) J (by rw[kn])<|gx J<|at_ ⟨ws.set (i+k) (xx%4294967296),k+1,xx/9223372036854775808,c1/4294967296⟩ (by dsimp only;exact⟨⟨by simpa using hwl,hwo.set _ (cJ _ (by decide)),by omega,hx2,by omega,ye hwo (cJ _ (by decide)) hwM,QI (by omega) hw hc1 hx1⟩,(by omega)⟩)
   .
    obtain rfl:k=n+2:=by omega
    rw[cW (by omega),<-hV] at hw;have hwg:=hwo.get (i+n+2);obtain⟨hx1,hx2,hx3⟩:=EU (ws.getD (i+n+2) 0) c bo hwg hc4 hbo;obtain⟨xx,hxx⟩: ∃x,x=oq (ws.getD (i+n+2) 0) c bo:=⟨_,rfl⟩;rw[<-hxx] at hx1 hx2 hx3;have hwm:=bv ws;obtain⟨ws2,hws2⟩: ∃z,z=ws.set (i+n+2) (xx%4294967296):=⟨_,rfl⟩;have hl2:=L0 (rP ws (i+n+2) (xx%4294967296) (by omega)) hw hx1;rw[<-rF,<-hws2] at hl2;have hM2:=ye (i:=i+n+2) (d:=xx%4294967296) hwo (cJ _ (by decide)) hwM;have ho2:=hwo.set (i+n+2) (d:=xx%4294967296) (cJ _ (by decide));have hn2:ws2.length=(dg a).length+1:=by rw[hws2,aY];exact hwl
    rw[<-hws2] at hM2 ho2;replace hl2:dv ws2+g*V=dv us+xx/9223372036854775808*4294967296^(i+n+3):=hl2;have hqi:=hq0 i (by omega);obtain⟨q2,hq2⟩: ∃z,z=qs.set i g:=⟨_,rfl⟩;have hq2l:q2.length=l:=by rw[hq2,aY];exact hql
    have hq2m:=bv q2;have hwm2:=bv ws2;refine lb (fu:=⟨2⟩) _ J (b9 (k:=i+n+2)) J<|sd (fu:=⟨1⟩) (IntKind.u64.wrap (((ws.getD (i+n+2) 0:Nat):Int)-((c:Nat):Int))) J J J<|sd (fu:=⟨11⟩) ((xx:Nat):Int) J (by rw[hxx];exact sub2 _ _ _ hwg hc4 hbo) J<|ah 175 (.d (dU (xx%4294967296))) J (by show FX.d (.v (.int _ _))= .d (.v (.int _ _));congr 3)<|gx J<|sb (fu:=⟨8⟩) _ (ws2.map dU) J (b9 (k:=i+n+2)) J (by(rw[hws2,show((i:Int)+((n+2:Nat):Int)).toNat=i+n+2 by omega,<-fm])<;>rfl) J<|ah 180 (.d (dU g)) J (by show FX.d (.v (.int _ _))= .d (.v (.int _ _));congr 3;omega)<|gx J<|sb (fu:=⟨7⟩) (hv:=by simp only[aj];exact(by decide)) _ (q2.map dU) J (dm) J (by rw[hq2,<-fm];rfl) J<|ah 183 (.d (.v (.int .u64 (xx/9223372036854775808:Nat)))) J (by rw[y4])<|gx J<|br J J J (fun hc184=>?_) (fun hc184=>?_)
    .
     have ht0:xx/9223372036854775808=0:=by omega
     rw[ht0,iV,eK] at hl2;exact at_ ⟨ws2,q2,i⟩ (by dsimp only;exact⟨⟨hn2,ho2,hq2l,by rw[hq2];exact hqo.set _ hgB,by omega,by rw[hq2];exact KB hq0,by rw[hq2];exact EK (by omega) hqi hinv hV hl2,by rw[<-hV];exact OQ hlo hl2⟩,(by omega)⟩)
    .
     have ht1:xx/9223372036854775808=1:=by omega
     rw[ht1,mV] at hl2;obtain⟨g',rfl⟩: ∃g',g=g'+1:=⟨g-1,by rcases cN g with h|h;(rw[h,iV] at hl2;omega);omega⟩;have hqs:q2.getD i 0=g'+1:=by rw[hq2];exact vf (by omega)
     refine lb (fu:=⟨0⟩) _ J (dm) J<|ah 188 (.d (dU (g'+1))) J (by first|rw[hqs]|(simp only[fU];rw[hqs]))<|gx (fu:=⟨0⟩) J<|sw ((g':Nat):Int) J (by omega) J<|sb (fu:=⟨12⟩) _ ((qs.set i g').map dU) J (dm) J (by simp only[fU,hq2,lT,List.set_set]<;>rfl) J<|ah 192 (.d (vI (n+2:Nat))) J (by rw[hvm,hvl]<;>rfl)<|gx J<|lp (X:=List Nat×Nat×Nat) (fun⟨wa,k,ca⟩=>[(193, .d (vI (k:Nat))),(18, .d (.v (.int .u64 (ca:Nat))))]) (fun⟨wa,k,ca⟩=>[(41,some (.b 261 1 (wa.map dU) true))]) (fun⟨wa,k,ca⟩=>wa.length=(dg a).length+1/\aO wa/\k<=n+2/\ca<=1/\dv wa<4294967296^(i+n+3)/\dv wa+ca*4294967296^(i+k)=dv ws2+dv (vs.take k)*4294967296^i) (fun⟨wa,k,ca⟩=>n+2-k) ⟨ws2,0,0⟩ J ⟨hn2,ho2,bJ _,bJ _,hM2,by simp[dv]⟩ (fun _=>J) (fun⟨wa,k,ca⟩ hk=>?_)
     try dsimp only at hk⊢
     obtain⟨hal2,hao,hk2,hac,haM,ha⟩:=hk;refine br J J J (fun hc194=>?_) (fun hc194=>?_)
     .
      have hvk:=hvo.get k;have hag:=hao.get (i+k);obtain⟨t,ht⟩: ∃t,t=ca+(wa.getD (i+k) 0+vs.getD k 0):=⟨_,rfl⟩;have ham:=bv wa;refine lb _ J (dm) J<|lb (fu:=⟨5⟩) _ J (b9 (k:=i+k)) J<|ah 209 (.d (.v (.int .u64 (t:Nat)))) J (by show FX.d (.v (.int _ _))= .d (.v (.int _ _));congr 3;omega)<|gx (fu:=⟨11⟩) J<|ah 215 (.d (dU (t%4294967296))) J (by show FX.d (.v (.int _ _))= .d (.v (.int _ _));congr 3)<|gx J<|sb (fu:=⟨5⟩) (hv:=by simp only[aj];exact(by decide)) _ ((wa.set (i+k) (t%4294967296)).map dU) J (b9 (k:=i+k)) J (by(rw[show((i:Int)+k).toNat=i+k by omega,<-fm])<;>rfl) J<|ah 218 (.d (.v (.int .u64 (t/4294967296:Nat)))) J (by rw[kn])<|gx J<|at_ ⟨wa.set (i+k) (t%4294967296),k+1,t/4294967296⟩ (by dsimp only;exact⟨⟨by simpa using hal2,hao.set _ (cJ _ (by decide)),by omega,by omega,ye hao (cJ _ (by decide)) haM,by rw[ht];exact L8 (by omega) ha⟩,(by omega)⟩)
     .
      obtain rfl:k=n+2:=by omega
      rw[cW (by omega),<-hV] at ha;have hag:=hao.get (i+n+2);have ham:=bv wa;have hl4:=XD (rP wa (i+n+2) ((wa.getD (i+n+2) 0+ca)%4294967296) (by omega)) ha;rw[<-rF] at hl4;have hM4:=ye (i:=i+n+2) (d:=(wa.getD (i+n+2) 0+ca)%4294967296) hao (cJ _ (by decide)) haM;obtain⟨hR1,hR2⟩:=TL hhi hl2 hl4 hM2 hM4 (by omega) (Nat.succ_pos _);refine lb (fu:=⟨2⟩) _ J (b9 (k:=i+n+2)) J<|ah 227 (.d (dU ca)) J (by show FX.d (.v (.int _ _))= .d (.v (.int _ _));congr 3;omega)<|gx (fu:=⟨0⟩) J<|aw (((wa.getD (i+n+2) 0+ca)%4294967296:Nat):Int) J (by rw[n4];omega) J<|sb _ ((wa.set (i+n+2) ((wa.getD (i+n+2) 0+ca)%4294967296)).map dU) J (b9 (k:=i+n+2)) J (by(rw[show((i:Int)+((n+2:Nat):Int)).toNat=i+n+2 by omega,<-fm])<;>rfl) J<|at_ ⟨wa.set (i+n+2) ((wa.getD (i+n+2) 0+ca)%4294967296),qs.set i g',i⟩ (by dsimp only;exact⟨⟨by simpa using hal2,hao.set _ (cJ _ (by decide)),by simpa using hql,hqo.set _ (by omega),by omega,KB hq0,EK (by omega) hqi hinv hV hR1,by rw[<-hV];exact hR2⟩,(by omega)⟩)
 .
  refine px 63 J<|px 41 J ?_;obtain rfl:j=0:=by omega
  obtain⟨e1,e2⟩:=Wg hps hvv hV0' hvB hinv hlt;refine gx J<|cl J (ol (ds:=qs)) J<|jx (fu:=⟨0⟩) 0 (n+2) _ J J J J (l5 _) (by omega) (by simp;omega) J<|ah 234 (.d (bg (us.take (n+2)))) J (by first|rfl|(show FX.d (.sl _)=FX.d (.sl _);simp))<|gx J<|cl J (WF (ds:=us.take (n+2)) (huo.take _) (by simp;omega) hs32) J<|rz J (by show DV.tp [bg _,dN _]= .tp [dN _,dN _];rw[gA hqo e1,e2])
def wl{a b i j:Nat}[h:BN a i][k:BN b j](hb:0<b)(hi:i<=1000000000:=by decide)(hj:j<=1000000000:=by decide):PF GB prog 211 [dN a,dN b] (.tp [dN (a/b),dN (a%b),vB true]):=by
 have hla:=bv (dg a);have hba:=eH (a:=a) hi;have hlb:=bv (dg b);have hbb:=eH (a:=b) hj;have hb0:(dg b).length≠0:=fun e=>by have:=tB e;omega
 have hcn:=u5 (a:=a) (b:=b);have hd0:=cP b 0;refine fn func211 J J ntmps211 J J (fun C=>?_);refine cl J (ki) J<|cl (fu:=⟨10⟩) J (ki) J<|ah 17 (.d (vI ((dg b).length:Nat))) J (by rw[hlb]<;>rfl)<|gx (fu:=⟨0⟩) J<|dq J (by show some (decide _)=some false;rw[decide_eq_false (by omega)]) J<|cl J (DO (a:=a) (b:=b) hi hj) J<|br (fu2:=⟨4⟩) J J J (fun hc19=>?_) (fun hc19=>?_)
 .
  refine cl J (La (ds:=dg a) (dH _)) J<|rz J (by have hlt:=hcn.1 (by omega);rw[iM hlt,gQ hlt,qz];rfl)
 .
  refine ah 28 (.d (vI ((dg b).length:Nat))) J (by rw[hlb]<;>rfl)<|gx J<|br J J J (fun hc26=>?_) (fun hc26=>?_)
  .
   have h1:(dg b).length=1:=by omega
   have e1:=rE h1;have hmd:=cJ a (show 0<(dg b).getD 0 0 by omega);refine ix _ J (b9 (k:=0) J (by omega)) J<|cl J (Or (a:=a) (d:=(dg b).getD 0 0) (by omega) (by omega) hi) J<|cl J (vk (a:=a%(dg b).getD 0 0) (by have:=cJ a (show 0<(dg b).getD 0 0 by omega);omega)) J<|rz J (by rw[e1];rfl)
  .
   refine cl J (Wn (a:=a) (b:=b) (by omega) (by omega) hi hj) J<|rz J J
def F'{a:Nat}(h:(dg a).length<=2:=by omega):a<18446744073709551616:=by
 have h1:=mA a;have h2:(4294967296:Nat)^(dg a).length<=4294967296^2:=bY (by decide) h;omega
def xC{a b i j:Nat}[h:BN a i][k:BN b j](hi:i<=1000000000:=by decide)(hj:j<=1000000000:=by decide):PF GB prog 199 [dN a,dN b] (dN (Nat.gcd a b)):=by
 obtain⟨m,hm⟩: ∃m,m=max i j:=⟨_,rfl⟩;have e0: ∀k',k'<=m->(2:Nat)^(6*k')<=2^(6*m):=fun k' h=>rh h;have ha9:a<2^(6*m):=bS h.h (e0 i (by omega));have hb9:b<2^(6*m):=bS k.h (e0 j (by omega));refine fn func199 J J ntmps199 J J (fun C=>?_);refine cl J (pb (a:=a) (i:=i) (by omega)) J<|cl J (pb (a:=b) (i:=j) (by omega)) J<|lp (fu:=⟨5⟩) (X:=Nat×Nat) (fun⟨A,B⟩=>[(0, .d (dN A)),(1, .d (dN B))]) (fun⟨A,B⟩=>[]) (fun⟨A,B⟩=>Nat.gcd A B=Nat.gcd a b/\A<2^(6*m)/\B<2^(6*m)) (fun⟨A,B⟩=>B) ⟨a,b⟩ J ⟨J,ha9,hb9⟩ (fun _=>J) (fun⟨A,B⟩ hk=>?_)
 try dsimp only at hk⊢
 obtain⟨hg,hA,hB⟩:=hk;haveI:BN A m:=⟨hA⟩;haveI:BN B m:=⟨hB⟩;have hlA:=bv (dg A);have hlB:=bv (dg B);have hbA:=eH (a:=A) (i:=m);have hbB:=eH (a:=B) (i:=m);refine ah 17 (.d (vI ((dg A).length:Nat))) J (by rw[hlA]<;>rfl)<|gx J<|cs (fu1:=⟨15⟩) (fu2:=⟨2⟩) 19 J J J (fun hg19=>?_) (fun hg19=>?_)
 .
  refine ah 25 (.d (vI ((dg B).length:Nat))) J (by rw[hlB]<;>rfl)<|gx J<|br J J J (fun hc26=>?_) (fun hc26=>?_)
  .
   exact rz J (by have hB0:B=0:=tB;rw[hB0,lX] at hg;rw[<-hg];rfl)
  .
   have hBp:0<B:=dM fun e=>hc26 (by rw[e,n8];rfl);refine cl J (wl (a:=A) (b:=B) (i:=m) (j:=m) hBp (by omega) (by omega)) J<|at_ ⟨B,A%B⟩ (by dsimp only;exact⟨⟨by rw[<-hg,fS B,<-rK,fS],hB,rX (cJ _ hBp) hB⟩,(cJ _ hBp)⟩)
 .
  refine ah 21 (.d (vI ((dg B).length:Nat))) J (by rw[hlB]<;>rfl)<|gx J<|br (fu1:=⟨8⟩) J J J (fun hc23=>?_) (fun hc23=>?_)
  .
   refine ah 25 (.d (vI ((dg B).length:Nat))) J (by rw[hlB]<;>rfl)<|gx J<|br J J J (fun hc26=>?_) (fun hc26=>?_)
   .
    exact rz J (by have hB0:B=0:=tB;rw[hB0,lX] at hg;rw[<-hg];rfl)
   .
    have hBp:0<B:=dM fun e=>hc26 (by rw[e,n8];rfl);refine cl J (wl (a:=A) (b:=B) (i:=m) (j:=m) hBp (by omega) (by omega)) J<|at_ ⟨B,A%B⟩ (by dsimp only;exact⟨⟨by rw[<-hg,fS B,<-rK,fS],hB,rX (cJ _ hBp) hB⟩,(cJ _ hBp)⟩)
  .
   have hA2:=F' (a:=A);have hB2:=F' (a:=B);refine cl J (uh (a:=A) hA2) J<|cl J (uh (a:=B) hB2) J<|lp (X:=Nat×Nat) (fun⟨u,v⟩=>[(8, .d (.v (.int .u64 (u:Nat)))),(10, .d (.v (.int .u64 (v:Nat))))]) (fun⟨u,v⟩=>[]) (fun⟨u,v⟩=>Nat.gcd u v=Nat.gcd a b/\u<18446744073709551616/\v<18446744073709551616) (fun⟨u,v⟩=>v) ⟨A,B⟩ J ⟨hg,hA2,hB2⟩ (fun _=>J) (fun⟨u,v⟩ hk=>?_)
   try dsimp only at hk⊢
   obtain⟨hg2,hu,hv⟩:=hk;refine br (fu1:=⟨8⟩) J J J (fun hc48=>?_) (fun hc48=>?_)
   .
    refine ah 52 (.d (.v (.int .u64 (u%v:Nat)))) J (by show FX.d (.v (.int _ _))= .d (.v (.int _ _));first|rfl|congr 3)<|gx J<|at_ ⟨v,u%v⟩ (by dsimp only;exact⟨⟨by rw[<-hg2,fS v,<-rK,fS],hv,rX (cJ _ (by omega)) hv⟩,(cJ _ (by omega))⟩)
   .
    obtain rfl:v=0:=by omega
    rw[lX] at hg2;refine cl J (vk (a:=u) hu) J<|rz J (by rw[hg2];rfl)

def C8{x:Nat}:bl x=0↔x=0:=by
 have:= @iE x 0;simp at this;omega
def tV{a:Nat}:0<(dg a).length↔0<a:=by
 have:= @lf a;omega
def eS(neg:Bool)(a:Nat):DV:= .ag [.v (.bool neg),dN a]
def xl(neg:Bool)(a:Nat):eI (zv neg a)= .ag [.v (.bool (neg&&decide (0<a))),dN a]:=by unfold eI;rw[i9,IF]
def Ok{n:Bool}{u:Nat}{b:Int}(h:n≠decide (b<0))(hle:b.natAbs<=u):zv n (u-b.natAbs)=zv n u+b:=by cases n<;>simp[zv] at* <;>omega
def Xr{n:Bool}{u:Nat}{b:Int}(h:n≠decide (b<0))(hle:u<=b.natAbs):zv (decide (b<0)) (b.natAbs-u)=zv n u+b:=by cases n<;>simp[zv] at* <;>(try rw[if_pos h])<;>(try rw[if_neg (by omega)])<;>omega
def EW{neg:Bool}{ds:List Nat}(hd:aO ds)(hl:ds.length<=1125899906842624):PF GB prog 130 [.ag [.v (.bool neg),bg ds]] (vB (decide (c6 ds/\(neg=true->0<ds.length)))):=by
 refine fn func130 J J ntmps130 J J (fun C=>?_);refine cl J (xt hd hl) J<|csd 6 J J J (fun hg6=>?_) (fun hg6=>?_)
 .
  refine jz 10 J J J (fun hg10=>?_) (fun hg10=>?_)
  .
   exact rz J (by unfold vB;congr 2;simp_all [iH])
  .
   exact rz J (by unfold vB;congr 2;simp_all [iH])
 .
  exact rz J (by unfold vB;congr 2;simp_all [iH])
def DD{n:Bool}{a i:Nat}[h:BN a i](hi:i<=1000000000:=by decide):PF GB prog 155 [eS n a] (vI (zv n a).sign):=by
 refine fn func155 J J ntmps155 J J (fun C=>?_);refine cl J (oe (a:=a) hi) J<|br J J J (fun hc3=>?_) (fun hc3=>?_)
 .
  exact rz J (by have:=C8.1 (Int.ofNat.inj hc3);subst this;cases n<;>rfl)
 .
  refine bb J J J (fun hc8=>?_) (fun hc8=>?_)
  .
   exact rz J (by subst hc8;rw[dK (by have:a≠0:=(fun e=>hc3 (by rw[e];rfl));simp[zv];omega)];rfl)
  .
   exact rz J (by subst hc8;rw[eY (by have:a≠0:=(fun e=>hc3 (by rw[e];rfl));simp[zv];omega)];rfl)
def CX{m:Int}(h0: -9223372036854775808<=m:=by omega)(h1:m<=9223372036854775807:=by omega):PF GB prog 150 [vI m] (eI m):=by
 refine fn (fu:=⟨8⟩) func150 J J ntmps150 J J (fun C=>?_);refine cu ((m%18446744073709551616:Int)) J (mr _) J<|br (fu1:=⟨2⟩) (fu2:=⟨0⟩) J J J (fun hc7=>?_) (fun hc7=>?_)
 .
  refine nu ((m.natAbs:Nat)) J (by rw[mr];omega) J<|cl J (vk (a:=m.natAbs)) J<|rz J J
 .
  refine ah 3 (.d (.v (.int .u64 (m.natAbs:Nat)))) J (by congr 3;omega)<|gx J<|cl J (vk (a:=m.natAbs)) J<|rz J J
def ID{n:Bool}{a:Nat}(h:a<4611686018427387904):PF GB prog 212 [eS n a] (.tp [vI (zv n a),vB true]):=by
 refine fn func212 J J ntmps212 J J (fun C=>?_);refine cl (fu:=⟨2⟩) J (uh (a:=a) (by omega)) J<|ic J J J<|jz 18 J J J (fun hg18=>?_) (fun hg18=>?_)
 .
  refine br (fu1:=⟨3⟩) J J J (fun hc12=>?_) (fun hc12=>?_)
  .
   refine nu (fu:=⟨0⟩) (((18446744073709551616-a)%18446744073709551616:Int)) J (by rw[mr];omega) J<|cu (zv n a) J (by subst hg18;rw[Dd];simp only[zv,if_true];omega) J<|rz J J
  .
   exact absurd (by omega) hc12
 .
  refine jz 32 J J J (fun hg32=>?_) (fun hg32=>?_)
  .
   refine br J J J (fun hc25=>?_) (fun hc25=>?_)
   .
    exact rz J (by subst hg18;rfl)
   .
    exact absurd (by omega) hc25
  .
   subst hg18;cases hg32
def tA{neg:Bool}{a i:Nat}[h:BN a i](hi:i<=1000000000:=by decide):PF GB prog 168 [eS neg a] (eI (zv neg a)):=by
 refine fn func168 J J ntmps168 J J (fun C=>?_);refine cl J (pb hi) J<|jz 9 J J J (fun hg9=>?_) (fun hg9=>?_)
 .
  exact rz J (by rw[xl];simp[hg9,tV,iH])
 .
  exact rz J (by rw[xl];simp[hg9,tV,iH])
def xQ{neg:Bool}{a:Nat}:PF GB prog 262 [.v (.bool neg),dN a] (eI (zv neg a)):=by
 refine fn func262 J J ntmps262 J J (fun C=>?_);refine jz 6 J J J (fun hg6=>?_) (fun hg6=>?_)
 .
  exact rz J (by rw[xl];simp[hg6,tV,iH])
 .
  exact rz J (by rw[xl];simp[hg6,tV,iH])
def T5{m:Int}{i:Nat}[h:BI m i](hi:i<=1000000000:=by decide):PF GB prog 216 [eI m] (eI (-m)):=by
 refine fn func216 J J ntmps216 J J (fun C=>?_);refine cl J (tA (neg:=!decide (m<0)) (a:=m.natAbs) hi) J<|rz J (by rw[UJ,im];rfl)
def y9{a b:Int}{i j:Nat}[h:BI a i][k:BI b j](hi:i<=1000000000:=by decide)(hj:j<=1000000000:=by decide):PF GB prog 248 [eI a,eI b] (eI (a*b)):=by
 refine fn func248 J J ntmps248 J J (fun C=>?_);refine cl J (sQ (a:=a.natAbs) (b:=b.natAbs) hi hj) J<|cl J xQ J<|rz J (by rw[show(!(decide (a<0)==decide (b<0)))=(decide (a<0) !=decide (b<0)) from J,GR,im,im];rfl)
def V9{n1:Bool}{u:Nat}{b:Int}{i j:Nat}[h:BN u i][k:BI b j](hi:i<=1000000000:=by decide)(hj:j<=1000000000:=by decide):PF GB prog 247 [eS n1 u,eI b] (eI (zv n1 u+b)):=by
 refine fn func247 J J ntmps247 J J (fun C=>?_);refine bb J J J (fun hc13=>?_) (fun hc13=>?_)
 .
  refine cl J (Xz (b:=b.natAbs) hi hj) J<|cl J xQ J<|rz J (by rw[TZ,show n1=decide (b<0) from by simpa using hc13,im];rfl)
 .
  refine cl J (Js (b:=b.natAbs) hi hj) J<|bd J J J (fun hc30=>?_) (fun hc30=>?_)
  .
   refine cl J xQ J<|rz J (by rw[Ok (by simpa using hc13) hc30];rfl)
  .
   refine cl J (Js (a:=b.natAbs) hj hi) J<|cl J xQ J<|rz J (by rw[Xr (by simpa using hc13) (by omega)];rfl)
def Nx{a b:Int}{i j:Nat}[h:BI a i][k:BI b j](hi:i<=1000000000:=by decide)(hj:j<=1000000000:=by decide):PF GB prog 247 [eI a,eI b] (eI (a+b)):=(V9 (n1:=decide (a<0)) (u:=a.natAbs) hi hj).to (by rw[im])
def dG(q:Rat):Prop:= ¬(q.num.natAbs<4611686018427387904/\q.den<4611686018427387904)
instance (q:Rat):Decidable (dG q):=inferInstanceAs (Decidable (¬_))
def bO(q:Rat):Int:=if dG q then 0 else q.num
def bH(q:Rat):Int:=if dG q then 0 else(q.den:Int)-1
def cO(q:Rat):DV:= .op (decide (dG q)) [.v (.bool (decide (q.num<0))),dN q.num.natAbs,dN q.den]
def eF(q:Rat):DV:= .ag [vI (bO q),vI (bH q),cO q]
abbrev OW {q:Rat} (h:decide (dG q)=true):dG q:=of_decide_eq_true h
abbrev nA {q:Rat} (h:decide (dG q)=false): ¬dG q:=of_decide_eq_false h
abbrev Xc {q:Rat} (h: ¬decide (dG q)=false):dG q:=by simpa using h
abbrev jC {q:Rat} (h: ¬decide (dG q)=true): ¬dG q:=by simpa using h
def jm{q:Rat}(h: ¬dG q):bO q=q.num:=if_neg h
def kx{q:Rat}(h: ¬dG q):bH q=(q.den:Int)-1:=if_neg h
def lD{q:Rat}(h: ¬dG q):q.num.natAbs<4611686018427387904:=(Decidable.not_not.1 h).1
def lr{q:Rat}(h: ¬dG q):q.den<4611686018427387904:=(Decidable.not_not.1 h).2
def Gf{q:Rat}(h:dG q):q≠0:=fun e=>by subst e;exact h ⟨by decide,by decide⟩
def nC{q:Rat}{m d:Int}{r:DV}(h: ¬dG q)(h1:q.num=m)(h2:(q.den:Int)-1=d)(e:r= .ag [vI m,vI d, .v (.pointer none)])(G:Gh)(y:Value)(k:Is G r y):Is G (eF q) y:=by
 subst e h1 h2;obtain⟨l,rfl,g⟩:=dt.1 k;obtain⟨y1,l1,rfl,k1,g1⟩:=bi.1 g;obtain⟨y2,l2,rfl,k2,g2⟩:=bi.1 g1;obtain⟨y3,l3,rfl,k3,g3⟩:=bi.1 g2;exact dt.2 ⟨_,J, .cons (by rw[jm h];exact k1) (.cons (by rw[kx h];exact k2) (.cons (pi.2 (.inl ⟨decide_eq_false h,aH.1 k3⟩)) g3))⟩
def GT{q:Rat}{n:Bool}{a d:Nat}{r:DV}(h:dG q)(h1:decide (q.num<0)=n)(h2:q.num.natAbs=a)(h3:q.den=d)(e:r= .ag [vI 0,vI 0, .pt [.v (.bool n),dN a,dN d]])(G:Gh)(y:Value)(k:Is G r y):Is G (eF q) y:=by
 subst e h1 h2 h3;obtain⟨l,rfl,g⟩:=dt.1 k;obtain⟨y1,l1,rfl,k1,g1⟩:=bi.1 g;obtain⟨y2,l2,rfl,k2,g2⟩:=bi.1 g1;obtain⟨y3,l3,rfl,k3,g3⟩:=bi.1 g2;exact dt.2 ⟨_,J, .cons (by unfold bO;rw[if_pos h];exact k1) (.cons (by unfold bH;rw[if_pos h];exact k2) (.cons (pi.2 (.inr ⟨decide_eq_true h,k3⟩)) g3))⟩
def sH(G:Gh)(y:Value)(k:Is G (.ag [vI 0,vI 0, .v (.pointer none)]) y):Is G (eF 0) y:=nC (fun h=>Gf h J) J J J G y k
def Ej{m:Int}(h:m.natAbs<4611686018427387904)(G:Gh)(y:Value)(k:Is G (.ag [vI m,vI 0, .v (.pointer none)]) y):Is G (eF (m:Rat)) y:=
 nC (fun k=>k ⟨by simpa using h,by rw[mL];decide⟩) (mS m) (by rw[mL];rfl) J G y k
def Bl{n:Bool}{a d:Nat}(hd:0<d):(mkRat (zv n a) d).num=zv n (a/Nat.gcd a d)/\(mkRat (zv n a) d).den=d/Nat.gcd a d:=by
 obtain⟨h1,h2⟩:=JI (m:=zv n a) hd;rw[i9] at h1 h2;exact⟨by rw[h1,NB (iJ _ _)],h2⟩
def KZ{n:Bool}{a d a' d':Nat}(hd:0<d)(ha:a'=a/Nat.gcd a d)(hd':d'=d/Nat.gcd a d)(h1:a'<4611686018427387904)(h2:d'<4611686018427387904)(G:Gh)(y:Value)(k:Is G (.ag [vI (zv n a'),vI ((d':Int)-1), .v (.pointer none)]) y):Is G (eF (mkRat (zv n a) d)) y:=by
 obtain⟨e1,e2⟩:=Bl (n:=n) (a:=a) hd;rw[<-ha] at e1;rw[<-hd'] at e2;exact nC (fun k=>k ⟨by rw[e1,i9];exact h1,by rw[e2];exact h2⟩) e1 (by rw[e2]) J G y k
def yC{n:Bool}{a d a' d':Nat}(hd:0<d)(ha:a'=a/Nat.gcd a d)(hd':d'=d/Nat.gcd a d)(h: ¬(a'<4611686018427387904/\d'<4611686018427387904))(G:Gh)(y:Value)(k:Is G (.ag [vI 0,vI 0, .pt [.v (.bool (decide (zv n a'<0))),dN (zv n a').natAbs,dN d']]) y):Is G (eF (mkRat (zv n a) d)) y:=by
 obtain⟨e1,e2⟩:=Bl (n:=n) (a:=a) hd;rw[<-ha] at e1;rw[<-hd'] at e2;exact GT (fun k=>h ⟨by rw[e1,i9] at k;exact k.1,by rw[e2] at k;exact k.2⟩) (by rw[e1]) (by rw[e1]) e2 J G y k
def M2{a d:Nat}(hd:0<d)(h: ¬(1:Int)<(bl (Nat.gcd a d):Nat)):Nat.gcd a d=1:=by
 have h1:Nat.gcd a d≠0:=fun e=>by rw[Nat.gcd_eq_zero_iff] at e;omega
 have h2:Nat.gcd a d<2^1:=iE.1 (by omega);omega
def ji{x:Nat}:(((bl x:Nat):Int)<=62)↔x<4611686018427387904:=WI
def PF.ofI{P:Program}{f:FuncId}{ds ds':List DV}{r:DV}(h:PF GB P f ds r)(k: ∀G vs,IsLs G ds' vs->IsLs G ds vs):PF GB P f ds' r:=fun G vs hg hv=>h G vs hg (k G vs hv)
def qE{n:Bool}{a d i j:Nat}[h:BN a i][k:BN d j](hi:i<=450000000:=by decide)(hj:j<=450000000:=by decide):PF GB prog 149 [eS n a,dN d] (eF (mkRat (zv n a) d)):=by
 refine fn func149 J J ntmps149 J J (fun C=>?_);refine cl J (oe (a:=d) (by omega)) J<|cs 13 J J J (fun hg13=>?_) (fun hg13=>?_)
 .
  exact gh rfl (by obtain rfl:=C8.1 (Int.ofNat.inj hg13);rw[Rat.mkRat_zero];exact sH)
 .
  have hd0:0<d:=by have:= @C8 d;omega
  have hg0:0<Nat.gcd a d:=jM _ hd0;refine cl J (DD (n:=n) (a:=a) (by omega)) J<|br J J J (fun hc17=>?_) (fun hc17=>?_)
  .
   exact gh J (by rw[gX.1 hc17,Rat.zero_mkRat];exact sH)
  .
   refine cl J (xC (a:=a) (b:=d) (by omega) (by omega)) J<|cl J (oe (a:=Nat.gcd a d) (i:=i+j) (by omega)) J<|br J J J (fun hc25=>?_) (fun hc25=>?_)
   .
    obtain⟨a',ea⟩: ∃a',a'=a/Nat.gcd a d:=⟨_,rfl⟩;obtain⟨d',ed⟩: ∃d',d'=d/Nat.gcd a d:=⟨_,rfl⟩;have hba:BN a' i:=ea▸inferInstance;have hbd:BN d' j:=ed▸inferInstance;refine cl (fu:=⟨2⟩) J (wl (a:=a) (b:=Nat.gcd a d) (j:=i+j) hg0 (by omega) (by omega)) J<|ah 31 (.d (dN a')) J (by rw[ea])<|gx J<|cl (fu:=⟨2⟩) J (wl (a:=d) (b:=Nat.gcd a d) (j:=i+j) hg0 (by omega) (by omega)) J<|ah 39 (.d (dN d')) J (by rw[ed])<|gx J<|cl J (oe (h:=hba) (by omega)) J<|cs 46 J J J (fun hg46=>?_) (fun hg46=>?_)
    .
     refine cl J (oe (h:=hbd) (by omega)) J<|br J J J (fun hc50=>?_) (fun hc50=>?_)
     .
      have hs2:=ji.1 hc50;refine cl J (ID (ji.1 hg46)) J<|cl J (uh (by have:=ji.1 hc50;omega)) J<|gh J (KZ hd0 ea ed (ji.1 hg46) (ji.1 hc50))
     .
      refine cl J (tA (neg:=n) (h:=hba) (by omega)) J<|cl J (pb (h:=hbd) (by omega)) J<|fz 71 J J<|gh J (yC hd0 ea ed (fun e=>hc50 (ji.2 e.2)))
    .
     refine cl J (tA (neg:=n) (h:=hba) (by omega)) J<|cl J (pb (h:=hbd) (by omega)) J<|fz 71 J J<|gh J (yC hd0 ea ed (fun e=>hg46 (ji.2 e.1)))
   .
    have hg1:=M2 hd0 hc25;have ea:a=a/Nat.gcd a d:=by rw[hg1,qX]
    have ed:d=d/Nat.gcd a d:=by rw[hg1,qX]
    have hba:=h;have hbd:=k;refine cl J (oe (h:=hba) (by omega)) J<|cs 46 J J J (fun hg46=>?_) (fun hg46=>?_)
    .
     refine cl J (oe (h:=hbd) (by omega)) J<|br J J J (fun hc50=>?_) (fun hc50=>?_)
     .
      have hs2:=ji.1 hc50;refine cl J (ID (ji.1 hg46)) J<|cl J (uh (by have:=ji.1 hc50;omega)) J<|gh J (KZ hd0 ea ed (ji.1 hg46) (ji.1 hc50))
     .
      refine cl J (tA (neg:=n) (h:=hba) (by omega)) J<|cl J (pb (h:=hbd) (by omega)) J<|fz 71 J J<|gh J (yC hd0 ea ed (fun e=>hc50 (ji.2 e.2)))
    .
     refine cl J (tA (neg:=n) (h:=hba) (by omega)) J<|cl J (pb (h:=hbd) (by omega)) J<|fz 71 J J<|gh J (yC hd0 ea ed (fun e=>hg46 (ji.2 e.1)))
def sr{q:Rat}:PF GB prog 132 [eF q] (vB (decide (q=0))):=by
 refine fn func132 J J ntmps132 J J (fun C=>?_);refine cs 6 J J J (fun hg6=>?_) (fun hg6=>?_)
 .
  exact rz J (by rw[jm (nA hg6)];show DV.v (.bool (decide _))= .v (.bool _);congr 2;exact decide_eq_decide.2 ⟨fun e=>iW.1 e,fun e=>by rw[e];rfl⟩)
 .
  exact rz J (by rw[decide_eq_false (Gf (Xc hg6))];rfl)
def um{m:Int}(h:m.natAbs<9223372036854775808:=by omega):PF GB prog 196 [vI m] (.v (.int .u64 (m.natAbs:Nat))):=by
 refine fn func196 J J ntmps196 J J (fun C=>?_);refine br J J J (fun hc4=>?_) (fun hc4=>?_)
 .
  exact rz J (by show DV.v (.int _ _)=_;congr 2;omega)
 .
  exact rz J (by show DV.v (.int _ _)=_;congr 2;omega)
def lq{q:Rat}{i:Nat}[h:BQ q i](hi:i<=900000000:=by decide):PF GB prog 198 [eF q] (dN q.den):=by
 refine fn func198 J J ntmps198 J J (fun C=>?_);refine br (v1:=fun hc5=>by simp only[aj];exact hc5) (fu2:=⟨6⟩) J J J (fun hc5=>?_) (fun hc5=>?_)
 .
  refine cl J (pb (a:=q.den) (by omega)) J<|rz J J
 .
  have hd:=q.den_nz;have hs:=lr (jC hc5);refine ah 13 (.d (vI ((q.den:Int)-1))) J (by rw[kx (jC hc5)])<|gx (fu:=⟨2⟩) J<|ah 15 (.d (.v (.int .u64 (q.den:Nat)))) J (by congr 3;omega)<|gx J<|cl J (vk (a:=q.den)) J<|rz J J
def ng{q:Rat}{i:Nat}[h:BQ q i](hi:i<=900000000:=by decide):PF GB prog 105 [eF q] (eI q.num):=by
 refine fn func105 J J ntmps105 J J (fun C=>?_);refine br (v1:=fun hc5=>by simp only[aj];exact hc5) (fu2:=⟨6⟩) J J J (fun hc5=>?_) (fun hc5=>?_)
 .
  refine cl J (tA (neg:=decide (q.num<0)) (a:=q.num.natAbs) (by omega)) J<|rz J (by rw[im];rfl)
 .
  have hs:=lD (jC hc5);refine ah 13 (.d (vI q.num)) J (by rw[jm (jC hc5)])<|gx J<|cl J (CX) J<|rz J J
def kA{q:Rat}{i:Nat}[h:BQ q i](hi:i<=900000000:=by decide):PF GB prog 156 [eF q] (eF (-q)):=by
 refine fn func156 J J ntmps156 J J (fun C=>?_);refine br (v1:=fun hc5=>by simp only[aj];exact hc5) (fu2:=⟨6⟩) J J J (fun hc5=>?_) (fun hc5=>?_)
 .
  refine cl (fu:=⟨6⟩) (hv:=by simp only[aj];exact hc5) J (T5 (m:=q.num) (by omega)) J<|vv J J<|gh J (GT (q:= -q) (fun k=>OW hc5 (by rw[kS,gV,nV] at k;exact k)) (by rw[kS]) (by rw[kS]) (nV q) J)
 .
  have hs:=lD (jC hc5);refine ah 21 (.d (vI q.num)) J (by rw[jm (jC hc5)])<|gx J<|gh J (nC (q:= -q) (fun k=>k (by rw[kS,gV,nV];exact⟨hs,lr (jC hc5)⟩)) (by rw[kS]) (by rw[nV,kx (jC hc5)]) J)
def ij{q:Rat}{i:Nat}[h:BQ q i](hi:i<=900000000:=by decide):PF GB prog 100 [eF q] (vI q.num.sign):=by
 refine fn func100 J J ntmps100 J J (fun C=>?_);refine br (v1:=fun hc3=>by simp only[aj];exact hc3) J J J (fun hc3=>?_) (fun hc3=>?_)
 .
  refine cl J (DD (n:=decide (q.num<0)) (a:=q.num.natAbs) (by omega)) J<|rz J (by rw[im];rfl)
 .
  have hs:=jm (jC hc3);refine br J J J (fun hc13=>?_) (fun hc13=>?_)
  .
   exact rz J (by rw[dK (by omega)];rfl)
  .
   refine br J J J (fun hc17=>?_) (fun hc17=>?_)
   .
    exact rz J (by rw[eY (by omega)];rfl)
   .
    exact rz J (by rw[show q.num=0 by omega];rfl)
def OV{a b:Nat}(h:b<=a):(dg b).length<=(dg a).length:=uM (fV h (mA a))
def Bz{a b ia ib:Nat}[ha:BN a ia][hb:BN b ib](hb0:0<b)(hi:ia<=500000000:=by decide)(hj:ib<=500000000:=by decide):PF GB prog 147 [dN a,dN b] (.tp [dN (a/b),dN (a%b)]):=by
 have hla:=bv (dg a);have hlb:=bv (dg b);have hba:=gP ha.h;have hbb:=gP hb.h;have hba':(dg a).length<=100000000:=by omega
 have hbb':(dg b).length<=100000000:=by omega
 have hlb1:1<=(dg b).length:=K7 (k:=0) (by rw[rJ];exact hb0);refine fn (fu:=⟨7⟩) func147 J J ntmps147 J J (fun C=>?_);refine mg (X:=Unit) (fun _=>[(0, .d (dN a)),(1, .d (dN b))]) (fun _=>[]) (fun _=>True) [0,1] [] rfl ?_ (fun _=>J) (fun _ hm=>?_)
 .
  refine gx J<|cl J (yB (a:=a) (ia:=ia) (by omega)) J<|bd (fu1:=⟨0⟩) J J J (fun hc18=>?_) (fun hc18=>?_)
  .
   refine ah 6 (.d (.v (.int .u64 (a:Nat)))) J (by rw[if_pos hc18])<|gx J<|cl J (yB (a:=b) (ia:=ib) (by omega)) J<|bd (fu1:=⟨0⟩) J J J (fun hc24=>?_) (fun hc24=>?_)
   .
    refine ah 8 (.d (.v (.int .u64 (b:Nat)))) J (by rw[if_pos hc24]) ?_;have hdl:=kK a b;have hml:=Nat.mod_le a b;refine gx (hv:=by simp only[aj];exact⟨(by omega),(by omega),(by omega)⟩) J<|cl (hv:=by simp only[aj];exact⟨(by omega),(by omega)⟩) J (nF (u:=a/b)) J<|cl J (nF (u:=a%b)) J<|rz J J
   .
    exact at_ () trivial
  .
   exact at_ () trivial
 .
  refine cl J (ua) J<|br J J J (fun hc36=>?_) (fun hc36=>?_)
  .
   have hab:=s4.1 hc36;refine su J J<|ap _ J J (l5 _) J<|gO 39 J<|rz J (by show DV.tp [_, .sl ([]++_)]= .tp [_,_];rw[iM hab,gQ hab,qz];rfl)
  .
   have hab:b<=a:=pS fun q=>hc36 (s4.2 q);have hlab:(dg b).length<=(dg a).length:=OV hab;refine br (fu1:=⟨4⟩) J J J (fun hc42=>?_) (fun hc42=>?_)
   .
    have hb1:b<4294967296:=by have:=mA b;rw[show(dg b).length=1 by omega] at this;omega
    have hbd:(dg b).getD 0 0=b:=rE;refine ah 44 (.d (vI ((dg a).length:Nat))) J (by rw[hla];rfl)<|gx J<|mk (fu:=⟨13⟩) ((List.replicate (dg a).length 0).map dU) J J (by rw[<-jd];rfl) J<|ah 47 (.d (vI ((dg a).length:Nat))) J (by rw[hla];rfl)<|gx J<|lp (X:=List Nat×Nat) (fun⟨W,k⟩=>[(0, .d (dN a)),(1, .d (dN b)),(10, .rw 45),(11, .d (dU (dv ((dg a).drop k)%b))),(12, .d (vI ((k:Nat)-1)))]) (fun⟨W,k⟩=>[(45,some (.b 261 1 (W.map dU) true))]) (fun⟨W,k⟩=>W.length=(dg a).length/\aO W/\k<=(dg a).length/\dv (W.drop k)=dv ((dg a).drop k)/b) (fun⟨W,k⟩=>k) ⟨List.replicate (dg a).length 0,(dg a).length⟩ J ⟨by simp, .replicate _,aM _,by simp[dv]⟩ (fun _=>J) (fun⟨W,k⟩ hk=>?_) (hF:=(by refine⟨J,J,J,kp J (by simp[dv,dU]),kp J (by simp[vI]),?_⟩;repeat (first|exact trivial|refine And.intro J ?_)))
    try dsimp only at hk⊢
    obtain⟨h1,h2,h3,h4⟩:=hk;have hlw:=bv W;refine br (fu1:=⟨0⟩) J J J (fun hc50=>?_) (fun hc50=>?_)
    .
     obtain⟨k,rfl⟩: ∃j,k=j+1:=⟨k-1,by omega⟩;have hsi:=SZ hb0 (by omega) h1 h4;have hrm:=cJ (dv ((dg a).drop (k+1))) hb0;have hdk:=cP a k;have hqd:(dv ((dg a).drop (k+1))%b*4294967296+(dg a).getD k 0)/b<4294967296:=by rw[gW hb0];have:=eX 4294967296 (show dv ((dg a).drop (k+1))%b+1<=b from hrm);omega
     refine ah 12 (.d (vI (k:Nat))) J (by show FX.d (.v (.int _ _))= .d (.v (.int _ _));congr 3;omega)<|gx J<|ix _ J (b9 (k:=k)) J<|ix _ J (b9 (k:=0) J (by omega)) J<|cl J (U6 (h:=dv ((dg a).drop (k+1))%b) (l:=(dg a).getD k 0) (y:=(dg b).getD 0 0) (by omega) hdk (by omega)) J<|sb (hv:=by simp only[aj];exact⟨by kernel_rfl,by omega⟩) _ ((W.set k ((dv ((dg a).drop (k+1))%b*4294967296+(dg a).getD k 0)/b)).map dU) J (b9 (k:=k)) J (by(rw[hbd,fU,<-fm])<;>rfl) J<|at_ ⟨W.set k ((dv ((dg a).drop (k+1))%b*4294967296+(dg a).getD k 0)/b),k⟩ (by dsimp only;exact⟨⟨by simpa using h1,h2.set _ hqd,by omega,hsi.1⟩,(by omega)⟩) (by refine⟨J,J,J,kp J (by rw[hsi.2,hbd]),kp J (by first|(simp[vI];done)|(simp[vI];omega)),?_⟩;repeat (first|exact trivial|refine And.intro J ?_))
    .
     refine fz 45 J J<|cl rfl (me (ds:=W)) rfl<|rf J J<|cl rfl (me (ds:=[dv ((dg a).drop k)%b]) (by simp)) rfl<|rz rfl (by show DV.tp [bg _,bg _]= .tp [_,_];obtain rfl:k=0:=(by omega);rw[fZ,fZ,cd] at h4;rw[fZ,cd];rw[gA h2 h4,gA (.cons (by have:=cJ a hb0;omega) .nil) (n:=a%b) (by simp[dv])])
   .
    refine cl J (SM (by omega) (by omega) hlb1 hlab) J<|rz J J
def K6(x y:Nat):Nat.gcd y (x%y)=Nat.gcd x y:=by rw[fS x y,rK y x,fS]
def MN{a b ia ib:Nat}[ha:BN a ia][hb:BN b ib](hi:ia<=240000000:=by decide)(hj:ib<=240000000:=by decide):PF GB prog 86 [dN a,dN b] (dN (Nat.gcd a b)):=by
 refine fn (fu:=⟨6⟩) func86 J J ntmps86 J J (fun C=>?_);refine mg (X:=Unit) (fun _=>[(0, .d (dN a)),(1, .d (dN b))]) (fun _=>[]) (fun _=>True) [0,1] [] rfl ?_ (fun _=>J) (fun _ hm=>?_)
 .
  refine gx J<|cl J (yB (a:=a) (ia:=ia) (by omega)) J<|bd (fu1:=⟨0⟩) J J J (fun hc16=>?_) (fun hc16=>?_)
  .
   refine ah 5 (.d (.v (.int .u64 (a:Nat)))) J (by rw[if_pos hc16])<|gx J<|cl J (yB (a:=b) (ia:=ib) (by omega)) J<|bd (fu1:=⟨0⟩) J J J (fun hc22=>?_) (fun hc22=>?_)
   .
    refine ah 7 (.d (.v (.int .u64 (b:Nat)))) J (by rw[if_pos hc22])<|gx J<|lp (X:=Nat×Nat) (fun⟨x,y⟩=>[(5, .d (.v (.int .u64 (x:Nat)))),(7, .d (.v (.int .u64 (y:Nat))))]) (fun⟨x,y⟩=>[]) (fun⟨x,y⟩=>x<18446744073709551616/\y<18446744073709551616/\Nat.gcd x y=Nat.gcd a b) (fun⟨x,y⟩=>y) ⟨a,b⟩ J ⟨hc16,hc22,J⟩ (fun _=>J) (fun⟨x,y⟩ hk=>?_)
    try dsimp only at hk⊢
    obtain⟨h1,h2,h3⟩:=hk;refine br (v1:=fun hc24=>by simp only[aj];exact⟨⟨(by omega),(by omega)⟩,by kernel_rfl⟩) J J J (fun hc24=>?_) (fun hc24=>?_)
    .
     exact at_ ⟨y,x%y⟩ (by dsimp only;exact⟨⟨h2,by have:=cJ x (show 0<y by omega);omega,by rw[K6,h3]⟩,(by exact cJ _ (by omega))⟩)
    .
     refine cl J (nF (u:=x) h1) J<|rz J (by show dN x=_;rw[<-h3,show y=0 by omega,lX])
   .
    exact at_ () trivial
  .
   exact at_ () trivial
 .
  refine lp (fu:=⟨5⟩) (X:=Nat×Nat) (fun⟨x,y⟩=>[(0, .d (dN x)),(1, .d (dN y))]) (fun⟨x,y⟩=>[]) (fun⟨x,y⟩=>x<2^(6*(ia+ib))/\y<2^(6*(ia+ib))/\Nat.gcd x y=Nat.gcd a b) (fun⟨x,y⟩=>y) ⟨a,b⟩ J ⟨(ha.mono (by omega)).h,(hb.mono (by omega)).h,J⟩ (fun _=>J) (fun⟨x,y⟩ hk=>?_)
  try dsimp only at hk⊢
  obtain⟨h1,h2,h3⟩:=hk;have hly:=bv (dg y);haveI hx':BN x (ia+ib):=⟨h1⟩;haveI hy':BN y (ia+ib):=⟨h2⟩;refine ah 32 (.d (vI ((dg y).length:Nat))) J (by rw[hly];rfl)<|gx J<|br J J J (fun hc33=>?_) (fun hc33=>?_)
  .
   have hy0:0<y:=dM fun q=>by subst q;rw[n8] at hc33;simp at hc33
   refine cl J (Bz (a:=x) (b:=y) (ia:=ia+ib) (ib:=ia+ib) hy0 (by omega) (by omega)) J<|at_ ⟨y,x%y⟩ (by dsimp only;exact⟨⟨h2,by have:=cJ x hy0;omega,by rw[K6,h3]⟩,(by exact cJ _ hy0)⟩)
  .
   have hy0:y=0:=lf.1 (by omega);have hlx:=gP h1;have hmx:=bv (dg x);refine su J J<|ap _ J J (l5 _) J<|gO 44 J<|rz J (by show DV.sl ([]++_)=_;rw[<-h3,hy0,lX];rfl)
def Kj(neg:Bool)(m:Nat):eI (zv neg m)= .ag [.v (.bool (neg&&decide (0<m))),dN m]:=by unfold eI;rw[i9,IF]
def Q8(z:Int):zv (!decide (z<0)) z.natAbs= -z:=by
 unfold zv;by_cases h:z<0<;>simp[h]<;>omega
def Pw(a b:Int):zv (!(decide (a<0)==decide (b<0))) (a.natAbs*b.natAbs)=a*b:=by
 have h:=GR (decide (a<0)) (decide (b<0)) a.natAbs b.natAbs;rw[im,im] at h;exact h
def jr{neg:Bool}{m:Nat}:PF GB prog 143 [.v (.bool neg),dN m] (eI (zv neg m)):=by
 have hl:=bv (dg m);have hz:= @lf m;refine fn func143 J J ntmps143 J J (fun C=>?_);refine jz 6 J J J (fun hg6=>?_) (fun hg6=>?_)
 .
  exact rz J (by rw[Kj,hg6];show DV.ag [.v (.bool _),_]= .ag [.v (.bool _),_];congr 4;rw[Bool.true_and];exact decide_eq_decide.2 (by omega))
 .
  exact rz J (by rw[Kj,hg6];rfl)
end Go.Sx
end
section
namespace Go.Sx
open Go
instance:DecidableEq ab:=fun x y=>decidable_of_iff (x.a=y.a/\x.b=y.b/\x.c=y.c) (by
 cases x;cases y;simp)
structure bm where
 lo:Rat
 hi:Rat
 nl:Bool
 nh:Bool
def bm.all:bm:=⟨0,0,true,true⟩
def bm.empty(v:bm):Bool:=!v.nl&&(!v.nh&&decide (0<=bG v.lo v.hi))
def bm.meet(v w:bm):bm:=
 ⟨if v.nl then w.lo else if w.nl then v.lo else if v.lo<w.lo then w.lo else v.lo,
  if v.nh then w.hi else if w.nh then v.hi else if w.hi<v.hi then w.hi else v.hi,v.nl&&w.nl,v.nh&&w.nh⟩
def bm.sample(v:bm):Rat:=if v.nl&&v.nh then 0 else if v.nl then v.hi-1 else if v.nh then v.lo+1 else(v.lo+v.hi)*mkRat 1 2
def ab.cutK(l m:ab):Rat:=m.nor.dot l.dir
def ab.cutC(l m:ab):Rat:=m.value l.base
def ab.cutV(l:ab)(v:bm)(m:ab):bm:=
 if Int.sign (l.cutK m).num=0 then v
 else if Int.sign (l.cutK m).num=1 then v.meet ⟨-(l.cutC m/l.cutK m),0,false,true⟩
 else v.meet ⟨0, -(l.cutC m/l.cutK m),true,false⟩
def ab.cutB(l:ab)(v:bm)(m:ab):Bool:=
 if Int.sign (l.cutK m).num=0 then decide (0<Int.sign (l.cutC m).num) else !(l.cutV v m).empty
structure aE where
 l:ab
 v:bm
abbrev bD:=List aE
def Lw(l:ab):bD->bm->Option bm
 |[],v=>some v
 |s::t,v=>if l.cutB v s.l then Lw l t (l.cutV v s.l) else none
def wc(c:bD)(l:ab):Option bm:=Lw l c bm.all
def JY(l:ab)(s:aE):Int:=Int.sign (l.value (s.l.at s.v.sample)).num
def IU(l:ab):bD->Int
 |[]=> -1
 |s::t=>if JY l s≠0 then JY l s else if s.l=l then 1 else IU l t
def Ue(c:bD)(l:ab):Int:=if(wc c l).isSome then 0 else IU l c
def aa.half(p:aa):Int:=
 if 0<Int.sign p.y.num\/(Int.sign p.y.num=0/\0<Int.sign p.x.num) then 1 else if Int.sign p.y.num<0\/Int.sign p.x.num<0 then 2 else 0
def ck(u v:aa):Int:=if u.half<v.half then-1 else if v.half<u.half then 1 else-(Int.sign (u.cross v).num)
def yj(l:ab):bD->bD
 |[]=>[]
 |s::t=>if s.l.cutB s.v l then⟨s.l,s.l.cutV s.v l⟩::yj l t else yj l t
def wH(p:Nat->Bool)(i j:Nat):Nat:=
 if h:i<j then(if p ((i+j)/2) then wH p ((i+j)/2+1) j else wH p i ((i+j)/2)) else i
termination_by j-i
def vD(c:bD)(l:ab)(i:Nat):Bool:=match c[i]? with
 |some s=>decide (ck s.l.dir l.dir<0)
 |none=>false
def SU(c:bD)(l:ab)(v:bm):bD:=
 c.take (wH (vD c l) 0 c.length)++⟨l,v⟩::c.drop (wH (vD c l) 0 c.length)
def fq(c:bD)(l:ab):bD:=match wc c l with
 |some v=>SU (yj l c) l v
 |none=>c
def eu(c:bD)(l:ab):Bool:=match wc c l with
 |some _=>true
 |none=>decide (0<Ue c l)
inductive Tr where
 |leaf (b:Bool)
 |node (l:ab) (x y:Tr)
def Tr.isLeaf:Tr->Bool
 | .leaf _=>true
 | .node .. =>false
def Tr.code:Tr->Bool
 | .leaf b=>b
 | .node .. =>false
def Tr.depth:Tr->Nat
 | .leaf _=>0
 | .node _ x y=>1+max x.depth y.depth
def Tr.size:Tr->Nat
 | .leaf _=>0
 | .node _ x y=>1+x.size+y.size
def Tr.joinQ(l:ab)(x y:Tr):Tr:=if x.isLeaf&&(y.isLeaf&&(x.code==y.code)) then x else .node l x y
def Tr.restrict:Tr->bD->Tr
 | .leaf b,_=> .leaf b
 | .node l x y,c=>if !eu c l.rev then x.restrict c else if !eu c l then y.restrict c else joinQ l (x.restrict (fq c l)) (y.restrict (fq c l.rev))
def Tr.parts:Tr->bD->List (Bool×bD)
 | .leaf b,c=>[(b,c)]
 | .node l x y,c=>(if eu c l then x.parts (fq c l) else [])++(if eu c l.rev then y.parts (fq c l.rev) else [])
def Tr.all(p:ab->Prop):Tr->Prop
 | .leaf _=>True
 | .node l x y=>p l/\x.all p/\y.all p
def Tr.good:Tr->Prop
 | .leaf _=>True
 | .node _ x y=> ¬(x.isLeaf=true/\y.isLeaf=true/\x.code=y.code)/\x.good/\y.good
structure NQ where
 l:ab
 a:Int
 b:Int
def xm(b:Bool):Int:=if b then-2 else-1
def Tr.num:Tr->Nat->Int
 | .leaf b,_=>xm b
 | .node ..,n=>n
def Tr.wr:Tr->Nat->List NQ
 | .leaf _,_=>[]
 | .node l x y,n=>⟨l,x.num (n+1),y.num (n+1+x.size)⟩::x.wr (n+1)++y.wr (n+1+x.size)
def uQ(l:ab)(p:aa):l.value p=(l.a:Rat)*p.x+(l.b:Rat)*p.y+(l.c:Rat):=rfl
def T9(l:ab)(p:aa):l.rev.value p= -l.value p:=by
 rw[uQ,uQ];have h1:((l.rev.a:Int):Rat)= -(l.a:Rat):=(A8 l.a).symm;have h2:((l.rev.b:Int):Rat)= -(l.b:Rat):=(A8 l.b).symm;have h3:((l.rev.c:Int):Rat)= -(l.c:Rat):=(A8 l.c).symm;rw[h1,h2,h3];grind
def yH(q p:aa)(e:Rat):aa:=⟨q.x+e*(p.x-q.x),q.y+e*(p.y-q.y)⟩
def eh(q u:aa)(e:Rat):aa:=⟨q.x+e*u.x,q.y+e*u.y⟩
def fw{a b:Rat}(ha:0<a)(hb:0<b):0<a*b:=Rat.mul_pos ha hb
def ql{a b:Rat}(ha:0<=a)(hb:0<=b):0<=a*b:=mX ha hb
def Lv(a:Rat):0<=a*a:=by
 by_cases h:0<=a
 .exact ql h h
 .have:=ql (a:= -a) (b:= -a) (by grind) (by grind)
  grind
def wX{s k:Rat}(hk:0<k):0<s*k↔0<s:=by
 constructor
 .intro h
  by_cases hs:0<s
  .exact hs
  .have:=ql (a:= -s) (b:=k) (by grind) (by grind)
   grind
 .intro h;exact fw h hk
def ab.Ne(l:ab):Prop:= ¬(l.a=0/\l.b=0)
def ab.ok.ne{l:ab}(h:l.ok):l.Ne:=h.1
def vR{l:ab}(h:l.Ne):0<l.nor.dot l.nor:=by
 show 0<(l.a:Rat)*l.a+(l.b:Rat)*l.b;have h1:=Lv (l.a:Rat);have h2:=Lv (l.b:Rat);by_cases ha:l.a=0
 .have hb:l.b≠0:=fun hb=>h ⟨ha,hb⟩
  have hb':(l.b:Rat)≠0:=fun e=>hb (mJ.1 e);have:(l.b:Rat)*l.b≠0:=by grind
  grind
 .have ha':(l.a:Rat)≠0:=fun e=>ha (mJ.1 e)
  have:(l.a:Rat)*l.a≠0:=by grind
  grind
def EA{l:ab}(h:l.Ne): ∃q:Rat,l.nor.dot l.nor*q= -(l.c:Rat)/\l.base=⟨(l.a:Rat)*q,(l.b:Rat)*q⟩:=by
 refine⟨-(l.c:Rat)/l.nor.dot l.nor,?_,J⟩;have:=vR h;grind
def F4(l m:ab)(t:Rat):m.value (l.at t)=l.cutC m+t*l.cutK m:=by
 simp only[ab.cutC,ab.cutK,uQ,ab.at,aa.add,aa.scale,ab.dir,ab.nor,aa.dot];grind
def Nf{l:ab}(h:l.Ne){p:aa}(hp:l.value p=0): ∃t,p=l.at t:=by
 obtain⟨q,h1,h2⟩:=EA h;have hn:=vR h;obtain⟨x,y⟩:=p;rw[uQ] at hp;simp only[ab.nor,aa.dot] at h1 hn;refine⟨((l.b:Rat)*x-(l.a:Rat)*y)/((l.a:Rat)*l.a+(l.b:Rat)*l.b),?_⟩;generalize ht:((l.b:Rat)*x-(l.a:Rat)*y)/((l.a:Rat)*l.a+(l.b:Rat)*l.b)=t;have ht':((l.a:Rat)*l.a+(l.b:Rat)*l.b)*t=(l.b:Rat)*x-(l.a:Rat)*y:=by grind
 simp only[ab.at,h2,aa.add,aa.scale,ab.dir,aa.mk.injEq];generalize (l.a:Rat)=a at*;generalize (l.b:Rat)=b at*;generalize (l.c:Rat)=c at*;have e1:(a*a+b*b)*(x-(a*q+b*t))=0:=by grind
 have e2:(a*a+b*b)*(y-(b*q+ -a*t))=0:=by grind
 constructor<;>grind
def bm.has(v:bm)(t:Rat):Prop:=(v.nl=true\/v.lo<=t)/\(v.nh=true\/t<=v.hi)
def bm.ins(v:bm)(t:Rat):Prop:=(v.nl=true\/v.lo<t)/\(v.nh=true\/t<v.hi)
def bm.Pos(v:bm):Prop:=v.nl=true\/v.nh=true\/v.lo<v.hi
def UK(a b:Rat):0<=bG a b↔b<=a:=by
 unfold bG;split
 .constructor
  .intro h;exact absurd h (by decide)
  .intro h;grind
 .split
  .constructor
   .intro _;grind
   .intro _;decide
  .constructor
   .intro _;grind
   .intro _;decide
def uu(k:Rat):Int.sign k.num=0↔k=0:=by rw[gX,iW]
def zq(k:Rat):0<k.num↔0<k:=by
 have h1:0<=k.num↔0<=k:=Rat.num_nonneg;have h2:k.num=0↔k=0:=iW;constructor
 .intro h
  have a:=h1.1 (by omega);have b:k≠0:=fun e=>by have:=h2.2 e;omega
  grind
 .intro h
  have a:=h1.2 (by grind);have b:k.num≠0:=fun e=>by have:=h2.1 e;grind
  omega
def T7(k:Rat):Int.sign k.num=1↔0<k:=by rw[Int.sign_eq_one_iff_pos,zq]
def Ak(k:Rat):0<Int.sign k.num↔0<k:=by
 rw[<-T7];rcases nQ k.num 0 with h|h|h
 .rw[dK h];decide
 .rw[h];decide
 .rw[eY h];decide
def zp(k:Rat):Int.sign k.num<0↔k<0:=by
 have h1:=uu k;have h2:=Ak k;constructor
 .intro h
  by_cases hk:0<k
  .have:=h2.2 hk;omega
  .by_cases h0:k=0
   .have:=h1.2 h0;omega
   .grind
 .intro h
  have a1: ¬Int.sign k.num=0:=fun e=>by have:=h1.1 e;grind
  have a2: ¬0<Int.sign k.num:=fun e=>by have:=h2.1 e;grind
  omega
def Wo(k:Rat):k=0\/0<k\/k<0:=by grind
def mj(c:bD)(p:aa):Prop:= ∀s∈c,0<s.l.value p
def WC(c:bD)(p:aa):Prop:= ∀s∈c,0<=s.l.value p
structure FO (c:bD):Prop where
 ne: ∃p,mj c p
 ok: ∀s∈c,s.l.ok
 edge: ∀s∈c,s.v.Pos/\ ∀t,s.v.has t↔WC c (s.l.at t)
def rS{a b c x y z:Nat}(h1:x*b=a*y)(h2:x*c=a*z)(g:Nat.gcd (Nat.gcd a b) c=1):a∣x:=by
 have e:x=Nat.gcd (Nat.gcd (x*a) (x*b)) (x*c):=by
  rw[Nat.gcd_mul_left,Nat.gcd_mul_left,g,kR]
 rw[e];exact Nat.dvd_gcd (Nat.dvd_gcd (Nat.dvd_mul_left ..) (h1▸Nat.dvd_mul_right ..)) (h2▸Nat.dvd_mul_right ..)
def V6{a b c x y z:Int}(h1:a*y=b*x)(h2:a*z=c*x)(h3:b*z=c*y)
  (g1:Nat.gcd (Nat.gcd a.natAbs b.natAbs) c.natAbs=1)(g2:Nat.gcd (Nat.gcd x.natAbs y.natAbs) z.natAbs=1):
  (a=x/\b=y/\c=z)\/(a= -x/\b= -y/\c= -z):=by
 have n1:a.natAbs*y.natAbs=b.natAbs*x.natAbs:=by rw[<-dV,<-dV,h1]
 have n2:a.natAbs*z.natAbs=c.natAbs*x.natAbs:=by rw[<-dV,<-dV,h2]
 have n3:b.natAbs*z.natAbs=c.natAbs*y.natAbs:=by rw[<-dV,<-dV,h3]
 generalize ha:a.natAbs=A at*;generalize hb:b.natAbs=B at*;generalize hc:c.natAbs=C at*;generalize hx:x.natAbs=X at*;generalize hy:y.natAbs=Y at*;generalize hz:z.natAbs=Z at*;have gB:Nat.gcd (Nat.gcd B A) C=1:=by rw[fS B A];exact g1
 have gC:Nat.gcd (Nat.gcd C A) B=1:=by rw[Nat.gcd_assoc,fS];exact g1
 have gY:Nat.gcd (Nat.gcd Y X) Z=1:=by rw[fS Y X];exact g2
 have gZ:Nat.gcd (Nat.gcd Z X) Y=1:=by rw[Nat.gcd_assoc,fS];exact g2
 have e1:A=X:=Nat.dvd_antisymm (rS (x:=X) (y:=Y) (z:=Z) (by grind) (by grind) g1) (rS (x:=A) (y:=B) (z:=C) (by grind) (by grind) g2);have e2:B=Y:=Nat.dvd_antisymm (rS (x:=Y) (y:=X) (z:=Z) (by grind) (by grind) gB) (rS (x:=B) (y:=A) (z:=C) (by grind) (by grind) gY);have e3:C=Z:=Nat.dvd_antisymm (rS (x:=Z) (y:=X) (z:=Y) (by grind) (by grind) gC) (rS (x:=C) (y:=A) (z:=B) (by grind) (by grind) gZ);have s1:a=x\/a= -x:=by omega
 have s2:b=y\/b= -y:=by omega
 have s3:c=z\/c= -z:=by omega
 clear ha hb hc hx hy hz n1 n2 n3 g1 g2 gB gC gY gZ e1 e2 e3;have z1:= @oW x y;have z2:= @oW x z;have z3:= @oW y z;rcases s1 with rfl|rfl<;>rcases s2 with rfl|rfl<;>rcases s3 with rfl|rfl<;>grind
def Rv{l m:ab}(hl:l.ok)(hm:m.ok)(h: ∀t,l.value (m.at t)=0):l=m\/l=m.rev:=by
 have h0:=h 0;have h1:=h 1;rw[F4] at h0 h1;have hC:m.cutC l=0:=by grind
 have hK:m.cutK l=0:=by grind
 obtain⟨q,q1,q2⟩:=EA hm.ne;have hn:=vR hm.ne;unfold ab.cutC at hC;rw[q2,uQ] at hC;unfold ab.cutK at hK;simp only[ab.nor,ab.dir,aa.dot] at hK q1 hn hC;obtain⟨a,b,c⟩:=l;obtain⟨x,y,z⟩:=m;simp only at*;have e1:a*y=b*x:=by
  have:((a*y:Int):Rat)=((b*x:Int):Rat):=by rw[dT,dT];grind
  exact mM.1 this
 have e2:a*z=c*x:=by
  have:((a*z:Int):Rat)=((c*x:Int):Rat):=by rw[dT,dT];grind
  exact mM.1 this
 have e3:b*z=c*y:=by
  have:((b*z:Int):Rat)=((c*y:Int):Rat):=by rw[dT,dT];grind
  exact mM.1 this
 rcases V6 e1 e2 e3 hl.2 hm.2 with⟨rfl,rfl,rfl⟩|⟨rfl,rfl,rfl⟩
 .exact .inl J
 .exact .inr J
def ab.ok.rev{l:ab}(h:l.ok):l.rev.ok:=by
 obtain⟨h1,h2⟩:=h;refine⟨?_,?_⟩
 .simp only[ab.rev];omega
 .simp only[ab.rev,gV];exact h2
inductive Yt (c:bD) (l:ab):Prop
 |left (h1:eu c l.rev=false) (h: ∀p,mj c p->0<l.value p)
 |right (h1:eu c l.rev=true) (h2:eu c l=false) (h: ∀p,mj c p->l.value p<0)
 |both (h1:eu c l.rev=true) (h2:eu c l=true) (g1:FO (fq c l)) (g2:FO (fq c l.rev))
   (e1: ∀p,mj (fq c l) p↔mj c p/\0<l.value p) (e2: ∀p,mj (fq c l.rev) p↔mj c p/\l.value p<0)
def GU:List ab->bD->Option bD
 |[],c=>some c
 |l::t,c=>if eu c l then GU t (fq c l) else none
def tv(l:ab):List ab->bm->Option bm
 |[],v=>some v
 |m::t,v=>if m=l then tv l t v else if l.cutB v m then tv l t (l.cutV v m) else none
def QS(c:List ab)(p:aa):Prop:= ∀m∈c,0<m.value p
def By(c:List ab):Bool:=c.isEmpty||c.any (fun l=>(tv l c bm.all).isSome)
def A5(out:List ab)(l:ab):Nat:=(out.takeWhile (fun x=>decide (ck x.dir l.dir<0))).length
def R1(out:List ab)(l:ab):List ab:=if out[A5 out l]? =some l then out else out.take (A5 out l)++l::out.drop (A5 out l)
def zP(c:List ab):List ab->List ab->List ab
 |[],out=>out
 |l::t,out=>zP c t (if(tv l c bm.all).isSome then R1 out l else out)
def mF(c:List ab):List ab:=zP c c []
def vN(c:List ab)(l:ab):Int:=if By (c++[l])&&By (c++[l.rev]) then 0 else if By (c++[l]) then 1 else-1
def Tr.restrictL:Tr->List ab->Tr
 | .leaf b,_=> .leaf b
 | .node l x y,c=>if vN c l=1 then x.restrictL c else if vN c l= -1 then y.restrictL c else joinQ l (x.restrictL (mF (c++[l]))) (y.restrictL (mF (c++[l.rev])))
end Go.Sx
end
section
namespace Go.Sx
open Go Go.Proofs Tryz
variable {GB:Gh}
structure xP where
 lo:RV
 hi:RV
 nl:Bool
 nh:Bool
def xP.v(z:xP):Value:= .agg ⟨[.int .i64 z.lo.n, .int .i64 z.lo.d, .pointer z.lo.p, .int .i64 z.hi.n, .int .i64 z.hi.d, .pointer z.hi.p, .bool z.nl, .bool z.nh]⟩
section
variable {P:Program} {C:az} {n:Nat} {fr:Fr} {own own' own1:List av} {G:Gh} {Φ:Act->World->Prop}
variable {dst:Option Nat} {t t' ty':TypeId} {pos:String} {af:Array Edge} {gd:Option (Nat×Bool)} {x y:Operand} {e s by_:Nat}
end
structure Nq (k:Nat) (G:Gh) (z:xP) (v:bm):Prop where
 lo:rj k G z.lo v.lo
 hi:rj k G z.hi v.hi
 nl:z.nl=v.nl
 nh:z.nh=v.nh
def E4:List Int->Int
 |[]=>0
 |x::t=>if x≠0 then x else E4 t
def Yy(l m:ab):Int:=E4 [bG l.a m.a,bG l.b m.b,bG l.c m.c]
structure vp where
 l:LV
 v:xP
def vp.val(z:vp):Value:= .agg ⟨[.int .i64 z.l.a.n, .int .i64 z.l.a.d, .pointer z.l.a.p, .int .i64 z.l.b.n, .int .i64 z.l.b.d, .pointer z.l.b.p, .int .i64 z.l.c.n, .int .i64 z.l.c.d, .pointer z.l.c.p, .int .i64 z.v.lo.n, .int .i64 z.v.lo.d, .pointer z.v.lo.p, .int .i64 z.v.hi.n, .int .i64 z.v.hi.d, .pointer z.v.hi.p, .bool z.v.nl, .bool z.v.nh]⟩
structure L5 (k:Nat) (G:Gh) (z:vp) (f:aE):Prop where
 l:Db k G z.l f.l
 v:Nq (25*k+6) G z.v f.v
inductive om {α β:Type} (R:α->β->Prop):List α->List β->Prop
 |nil:om R [] []
 |cons {a b us bs} (h:R a b) (t:om R us bs):om R (a::us) (b::bs)
structure M1 (k:Nat) (G:Gh) (x:SV) (c:bD):Prop where
 ex: ∃fs:List vp,ee G 17 x (fs.map vp.val)/\om (L5 k G) fs c

section
variable {P:Program} {C:az} {n:Nat} {fr:Fr} {own own':List av} {G:Gh} {Φ:Act->World->Prop}
variable {dst:Option Nat} {t t' ty':TypeId} {pos:String} {af:Array Edge} {gd:Option (Nat×Bool)} {x y:Operand} {e s by_:Nat}
end

section
variable {P:Program} {C:az} {n:Nat} {fr:Fr} {own own':List av} {G:Gh} {Φ:Act->World->Prop}
variable {dst:Option Nat} {t t' ty':TypeId} {pos:String} {af:Array Edge} {gd:Option (Nat×Bool)} {x y:Operand} {e s by_:Nat}
end

def zf(k:Nat)(G:Gh):Tr->Option Addr->Prop
 | .leaf b,p=> ∃n,p=some ⟨n,0,none⟩/\G n=some [.int .i64 0, .int .i64 0, .pointer none, .int .i64 0, .int .i64 0, .pointer none, .int .i64 0, .int .i64 0, .pointer none, .pointer none, .pointer none, .bool b]
 | .node l x y,p=> ∃(n:Nat) (z:LV) (q r:Option Addr),p=some ⟨n,0,none⟩/\G n=some [.int .i64 z.a.n, .int .i64 z.a.d, .pointer z.a.p, .int .i64 z.b.n, .int .i64 z.b.d, .pointer z.b.p, .int .i64 z.c.n, .int .i64 z.c.d, .pointer z.c.p, .pointer q, .pointer r, .bool false]/\Db k G z l/\zf k G x q/\zf k G y r
structure ND where
 a:IV
 b:IV
 c:IV
 l:Int
 r:Int
def ND.val(z:ND):Value:= .agg ⟨[.bool z.a.neg, .slice z.a.a.a z.a.a.n z.a.a.c, .bool z.b.neg, .slice z.b.a.a z.b.a.n z.b.a.c, .bool z.c.neg, .slice z.c.a.a z.c.a.n z.c.a.c, .int .i64 z.l, .int .i64 z.r]⟩
structure QN (k:Nat) (G:Gh) (z:ND) (n:NQ):Prop where
 a:qO k G z.a n.l.a
 b:qO k G z.b n.l.b
 c:qO k G z.c n.l.c
 l:z.l=n.a
 r:z.r=n.b
structure aFK (k:Nat) (G:Gh) (x:SV) (ns:List NQ):Prop where
 ex: ∃zs:List ND,ee G 8 x (zs.map ND.val)/\om (QN k G) zs ns
def aEJ(n i:Nat):List Value:=(List.range n).map fun j=> .bool (decide (j<i))

def YO(ob wb:Nat):Value:= .func (.func 74) #[] #[.pointer (some ⟨ob,0,none⟩), .pointer (some ⟨wb,0,none⟩)]
structure vn where
 x:SV
 p:Option Addr
def vn.val(z:vn):Value:= .agg ⟨[.slice z.x.a z.x.n z.x.c, .pointer z.p]⟩
structure O2 (k:Nat) (G:Gh) (z:vn) (b:Bool×bD):Prop where
 c:M1 k G z.x b.2
 t:zf k G (.leaf b.1) z.p
structure Zz (k:Nat) (G:Gh) (w:SV) (ps:List (Bool×bD)):Prop where
 ex: ∃zs:List vn,ee G 2 w (zs.map vn.val)/\om (O2 k G) zs ps
structure LI where
 a:IV
 b:IV
 c:IV
def LI.val(z:LI):Value:= .agg ⟨[.bool z.a.neg, .slice z.a.a.a z.a.a.n z.a.a.c, .bool z.b.neg, .slice z.b.a.a z.b.a.n z.b.a.c, .bool z.c.neg, .slice z.c.a.a z.c.a.n z.c.a.c]⟩
structure XB (k:Nat) (G:Gh) (z:LI) (l:ab):Prop where
 a:qO k G z.a l.a
 b:qO k G z.b l.b
 c:qO k G z.c l.c
structure aEE (k:Nat) (G:Gh) (x:SV) (ls:List ab):Prop where
 ex: ∃zs:List LI,ee G 6 x (zs.map LI.val)/\om (XB k G) zs ls
structure aEC (k:Nat) (G:Gh) (x:SV) (ls:List ab):Prop where
 ex: ∃zs:List LV,ee G 9 x (zs.map LV.v)/\om (Db k G) zs ls
def qi{a b:Int}(h:a=b):eI a=eI b:=by rw[h]
def zO(z:Int):eQ (z:Rat)= .ag [.v (.bool (decide (z<0))),dN z.natAbs, .sl []]:=by unfold eQ;rw[mS,mL];rfl
def wW{a:Rat}(h:a.den=1):((a.num:Int):Rat)=a:=Rat.ext (mS _) (by rw[mL,h])
def NW{a b:Rat}(ha:a.den=1)(hb:b.den=1):a+b=((a.num+b.num:Int):Rat):=by
 rw[qV,wW ha,wW hb]
def O'{a b:Rat}(ha:a.den=1)(hb:b.den=1):a*b=((a.num*b.num:Int):Rat):=by
 rw[dT,wW ha,wW hb]
def tx(n:Nat)(h:0<n):(if n=1 then [] else(dg n).map dU).length=0↔n=1:=by
 by_cases q:n=1
 .simp[q]
 .rw[if_neg q,aZ,lf];omega
def Lz{n:Nat}(h:n≠1):dD n=dN n:=by unfold dD;rw[if_neg h];rfl
def AT{g:Nat}:(fA g 1=0)↔g=1:=by
 unfold fA;constructor
 .intro h;split at h
  .exact absurd h (by decide)
  .split at h
   .assumption
   .exact absurd h (by decide)
 .rintro rfl;rfl
def Du{x:Int}{d:Nat}(hd:0<d):zv (decide (x<0)) (x.natAbs/Nat.gcd x.natAbs d)=(mkRat x d).num:=by
 rw[Rat.num_mkRat,if_neg (by omega),fS];have hg:0<Nat.gcd d x.natAbs:=iN _ hd;obtain⟨c,hc⟩:Nat.gcd d x.natAbs∣x.natAbs:=jX _ _;generalize Nat.gcd d x.natAbs=g at*;rw[hc,oL _ hg];unfold zv;by_cases q:x<0
 .rw[if_pos (by simpa using q),show x=(g:Int)*(-(c:Int)) by rw[Int.mul_neg,<-fL];omega,Int.mul_ediv_cancel_left _ (by omega)]
 .rw[if_neg (by simpa using q),show x=(g:Int)*(c:Int) by rw[<-fL];omega,Int.mul_ediv_cancel_left _ (by omega)]
def Ji{x:Int}{d:Nat}(hd:0<d):d/Nat.gcd x.natAbs d=(mkRat x d).den:=by
 rw[Rat.den_mkRat,if_neg (by omega),fS]
def Ow{x:Int}{d:Nat}(hd:0<d)(h:Nat.gcd x.natAbs d=1):(mkRat x d).num=x/\(mkRat x d).den=d:=by
 rw[<-Du hd,<-Ji hd,h,qX,qX];exact⟨im x,J⟩
instance BI.zv (neg:Bool) (m i:Nat) [h:BN m i]:BI (zv neg m) i:=⟨by rw[i9];exact h.h⟩
section
variable {GB:Gh} {C:az} {n:Nat} {Q0:Exit->Act->World->Prop} {fr fr':ao} {own own':aA} {cf cf':Cf} {vc:List Prop}
def E7(fr:ao)(cf:Cf):Option Int:=match bE fr cf with
 |some ⟨_, .convert t t' x,_,_,_,_⟩=>match co tt t,co tt t' with
  |some ⟨.int .i64,_,_,_⟩,some ⟨.int .u64,_,_,_⟩=>match aB (aP fr cf) x with
   |some (.d (.v (.int .i64 p)))=>some p
   |_=>none
  |_,_=>none
 |_=>none
def RM[fu:Fu]{p:Int}(q:Int)(h:E7 fr cf=some p)(e:p%18446744073709551616=q)(hgo:bP tt n fu.n fr own cf (.d (.v (.int .u64 q))) [] []=⟨vc,fr',own',cf'⟩)(k:ak prog GB C n Q0 fr' own' cf')
  (hv:aj vc:=by first|exact trivial|(simp only[aj];omega)):ak prog GB C n Q0 fr own cf:=by
 unfold E7 at h;split at h<;>try (cases h;done)
 rename_i hh;split at h<;>try (cases h;done)
 rename_i hT hT';split at h<;>cases h;rename_i hx;have:=sN (dz _ _ hT) J;have:=sN (dz _ _ hT') J;refine us hh (.x1 hx fun ρ G ov a w y _ r h1 h2=>?_) hgo hv k;rw[ce] at h2;subst h2;refine⟨_,ce.2 J,?_⟩;rw[<-e,<-mr];exact xJ h1
def Iy(fr:ao)(cf:Cf):Option Int:=match bE fr cf with
 |some ⟨_, .unOp .neg _ x,_,_,_,_⟩=>match aB (aP fr cf) x with
  |some (.d (.v (.int .u64 p)))=>some p
  |_=>none
 |_=>none
def WL[fu:Fu]{p:Int}(q:Int)(h:Iy fr cf=some p)(e:(0-p)%18446744073709551616=q)(hgo:bP tt n fu.n fr own cf (.d (.v (.int .u64 q))) [] []=⟨vc,fr',own',cf'⟩)(k:ak prog GB C n Q0 fr' own' cf')
  (hv:autoParam (aj vc) RM._auto_1):ak prog GB C n Q0 fr own cf:=by
 unfold Iy at h;split at h<;>try (cases h;done)
 rename_i hh;split at h<;>cases h;rename_i hx;refine us hh (.x1 hx fun ρ G ov a w y _ r h1 h2=>?_) hgo hv k;rw[ce] at h2;subst h2;refine⟨_,ce.2 J,?_⟩;rw[<-e,<-mr];exact Bd h1
end
def Dq{n:Int}(h0: -4611686018427387904<=n:=by omega)(h1:n<=4611686018427387904:=by omega):PF GB prog 108 [.v (.int .i64 n)] (eI n):=by
 refine fn func108 J J ntmps108 J J (fun C=>?_);refine br (fu1:=⟨3⟩) (fu2:=⟨6⟩) J J J (fun hc4=>?_) (fun hc4=>?_)
 .
  refine RM (fu:=⟨0⟩) (18446744073709551616+n) J (by omega) J<|WL (n.natAbs:Nat) J (by omega) J<|cl J (nF (u:=n.natAbs)) J<|cl J jr J<|rz J (qi (by unfold zv;rw[if_pos J];omega))
 .
  refine ah 11 (.d (.v (.int .u64 (n.natAbs:Nat)))) J (by show FX.d (.v (.int _ _))= .d (.v (.int _ _));congr 3;omega)<|gx J<|cl J (nF (u:=n.natAbs)) J<|cl J jr J<|rz J (qi (by unfold zv;rw[if_neg (by decide)];omega))
def Xm{z:Int}:PF GB prog 109 [eI z] (vI z.sign):=by
 have hl:=bv (dg z.natAbs);have hz:= @lf z.natAbs;refine fn func109 J J ntmps109 J J (fun C=>?_);refine br J J J (fun hc6=>?_) (fun hc6=>?_)
 .
  exact rz J (by show DV.v (.int _ 0)=DV.v (.int _ _);rw[show z=0 by omega];rfl)
 .
  refine bd J J J (fun hc8=>?_) (fun hc8=>?_)
  .
   exact rz J (by show DV.v (.int _ (-1))=DV.v (.int _ _);rw[dK (by omega)])
  .
   exact rz J (by show DV.v (.int _ 1)=DV.v (.int _ _);rw[eY (by omega)])
def LT{z:Int}:PF GB prog 227 [eI z] (eI (-z)):=by
 refine fn func227 J J ntmps227 J J (fun C=>?_);refine cl J jr J<|rz J (qi (Q8 z))
def W8{a b:Int}(h:decide (a<0)=decide (b<0)):zv (decide (a<0)) (a.natAbs+b.natAbs)=a+b:=by
 unfold zv;have h':a<0↔b<0:=by simpa using h
 by_cases q:a<0
 .have:=h'.1 q
  simp[q];omega
 .have: ¬b<0:=fun w=>q (h'.2 w)
  simp[q];omega
def VT{a b:Int}(h: ¬decide (a<0)=decide (b<0))(k:a.natAbs<b.natAbs):zv (decide (b<0)) (b.natAbs-a.natAbs)=a+b:=by
 unfold zv;have h': ¬(a<0↔b<0):=by simpa using h
 by_cases q:b<0
 .have: ¬a<0:=fun w=>h' ⟨fun _=>q,fun _=>w⟩
  simp[q];omega
 .have:a<0:=Int.not_le.1 fun w=>h' ⟨fun e=>by omega,fun e=>absurd e q⟩
  simp[q];omega
def Nr{a b:Int}(h: ¬decide (a<0)=decide (b<0))(k:b.natAbs<=a.natAbs):zv (decide (a<0)) (a.natAbs-b.natAbs)=a+b:=by
 unfold zv;have h': ¬(a<0↔b<0):=by simpa using h
 by_cases q:a<0
 .have: ¬b<0:=fun w=>h' ⟨fun _=>w,fun _=>q⟩
  simp[q];omega
 .have:b<0:=Int.not_le.1 fun w=>h' ⟨fun e=>absurd e q,fun e=>by omega⟩
  simp[q];omega
def Az{a b:Int}{i j:Nat}[ha:BI a i][hb:BI b j](hi:i<=400000000:=by decide)(hj:j<=400000000:=by decide):PF GB prog 179 [eI a,eI b] (eI (a+b)):=by
 have hba:=gP ha.h;have hbb:=gP hb.h;refine fn (fu:=⟨15⟩) func179 J J ntmps179 J J (fun C=>?_);refine ah 9 (.d (.v (.bool (decide (decide (a<0)=decide (b<0)))))) J (by congr 2)<|gx J<|bd J J J (fun hc9=>?_) (fun hc9=>?_)
 .
  refine cl J (RI (by omega) (by omega)) J<|cl J jr J<|rz J (qi (W8 hc9))
 .
  refine cl J (ua) J<|br J J J (fun hc23=>?_) (fun hc23=>?_)
  .
   refine cl J (zG (by have:=s4.1 hc23;omega) (by omega)) J<|cl J jr J<|rz J (qi (VT hc9 (s4.1 hc23)))
  .
   refine cl J (zG (pS fun q=>hc23 (s4.2 q)) (by omega)) J<|cl J jr J<|rz J (qi (Nr hc9 (pS fun q=>hc23 (s4.2 q))))
def rx{a b:Int}{i j:Nat}[ha:BI a i][hb:BI b j](hi:i<=400000000:=by decide)(hj:j<=400000000:=by decide):PF GB prog 177 [eI a,eI b] (eI (a*b)):=by
 refine fn func177 J J ntmps177 J J (fun C=>?_);refine cl J (rm (by omega) (by omega)) J<|cl J jr J<|rz J (qi (Pw a b))
def jw{q:Rat}:PF GB prog 97 [eQ q] (dN q.den):=by
 refine fn func97 J J ntmps97 J J (fun C=>?_);refine br J J J (fun hc6=>?_) (fun hc6=>?_)
 .
  refine cl J Co J<|rz J (by rw[(tx q.den (jh q)).1 (by omega)];rfl)
 .
  exact rz J (by exact Lz (fun e=>hc6 (by exact congrArg Int.ofNat ((tx q.den (jh q)).2 e))))
def FR{n k:Nat}[h:BN n k](hk:k<=500000000:=by omega):(dg n).length<=200000000:=by have:=gP h.h;omega
def rO{x:Int}{d i j:Nat}[hx:BI x i][hd:BN d j](hd0:0<d)(hi:i<=200000000:=by decide)(hj:j<=200000000:=by decide):PF GB prog 154 [eI x,dN d] (eQ (mkRat x d)):=by
 obtain⟨q,hq⟩: ∃q,q=mkRat x d:=⟨_,rfl⟩;obtain⟨g,hg⟩: ∃g,g=Nat.gcd x.natAbs d:=⟨_,rfl⟩;have hg0:0<g:=hg▸jM _ hd0;haveI hgB:BN g (i+j):=hg▸inferInstance;have hg1:(dg g).length<=200000000:=FR (k:=i+j);have ho1:(dg 1).length<=200000000:=by rw[yK];decide
 haveI hqB:BQ q (i+j):=hq▸pq hd0 (bS hx.h (bY (by decide) (by omega))) (bS hd.h (bY (by decide) (by omega)));refine fn func154 J J ntmps154 J J (fun C=>?_);refine cl (fu:=⟨0⟩) J (MN (by omega) (by omega)) J<|ah 11 (.d (dN g)) J (by rw[hg])<|gx (fu:=⟨4⟩) J<|mg (fu:=⟨1⟩) (X:=Unit) (fun _=>[(1, .d (dN q.den)),(2, .ov 2 0),(4, .ov 4 0)]) (fun _=>[(4,some (.o 68 [.ff, .nl, .nl] true)),(2,some (.o 66 [.d (.v (.bool (decide (q.num<0)))), .d (dN q.num.natAbs)] true))]) (fun _=>True) [1,2,4] [4,2] rfl ?_ (fun _=>J) (fun _ hm=>?_)
 .
  refine gx J<|cl J Co J<|cl J (ua hg1 ho1) J<|br J J J (fun hc15=>?_) (fun hc15=>?_)
  .
   refine cl J (Bz hg0 (by omega) (by omega)) J<|cl (fu:=⟨0⟩) J jr J<|ah 26 (.d (eI q.num)) J (by show FX.d (eI (zv _ _))=_;rw[hg,Du hd0,hq])<|gx J<|cl (fu:=⟨2⟩) J (Bz hg0 (by omega) (by omega)) J<|ah 31 (.d (dN q.den)) J (by rw[hg,Ji hd0,hq])<|gx J<|at_ () trivial
  .
   have hm:=Ow (x:=x) hd0 (by rw[<-hg];exact AT.1 (Decidable.not_not.1 hc15));rw[<-hq] at hm;refine ah 1 (.d (dN q.den)) J (by rw[hm.2])<|at_ () trivial (hO:=⟨J,by rw[hm.1];rfl,trivial⟩)
 .
  refine mg (X:=Unit) (fun _=>[(1, .d (dD q.den)),(2, .ov 2 0),(4, .ov 4 0)]) (fun _=>[(4,some (.o 68 [.ff, .nl, .nl] true)),(2,some (.o 66 [.d (.v (.bool (decide (q.num<0)))), .d (dN q.num.natAbs)] true))]) (fun _=>True) [1,2,4] [4,2] rfl ?_ (fun _=>J) (fun _ hm=>?_)
  .
   refine gx J<|cl J Co J<|cl J (ua (FR (k:=i+j)) ho1) J<|br J J J (fun hc36=>?_) (fun hc36=>?_)
   .
    refine Qa 1 J<|ah 1 (.d (dD q.den)) J (by rw[AT.1 hc36];rfl)<|at_ () trivial
   .
    refine ah 1 (.d (dD q.den)) J (by rw[Lz (fun e=>hc36 (AT.2 e))])<|at_ () trivial
  .
   exact rz J (by rw[<-hq];rfl)
end Go.Sx
end
