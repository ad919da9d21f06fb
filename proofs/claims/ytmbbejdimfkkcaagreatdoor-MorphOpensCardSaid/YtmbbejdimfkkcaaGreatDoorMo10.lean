import Derived.Test.YtmbbejdimfkkcaaGreatDoorMo9
set_option linter.all false
set_option maxHeartbeats 8000000
set_option maxRecDepth 100000
section
namespace Go.Sx
open Go Go.Proofs Tryz
variable {GB:Gh}
def YM(c:Nat)(h:c<18446744073709551616):(BitVec.ofInt 64 (c:Int) &&& BitVec.ofInt 64 4294967295).toNat=c%4294967296:=by
 rw[BitVec.toNat_and,BitVec.ofInt_natCast,BitVec.toNat_ofNat,kY we,show(BitVec.ofInt 64 4294967295).toNat=2^32-1 from J,Nat.and_two_pow_sub_one_eq_mod]
structure YI (a b n s l:Nat):Prop where
 hn:(dg b).length=n+2
 hs:s=32-bl ((dg b).getD (n+1) 0)
 hb:bl ((dg b).getD (n+1) 0)<=32
 s32:s<32
 vl:(dg (b*2^s)).length=n+2
 v2:b*2^s<4294967296^(n+2)
 al:(dg a).length=n+1+l
 u0:(dg a).length<=(dg (a*2^s)).length
 u1:a*2^s<4294967296^((dg a).length+1)
 u3:a*2^s<b*2^s*4294967296^l
 bp:0<b
def aBD{a b:Nat}(hb2:2<=(dg b).length)(hle:b<=a): ∃n s l,YI a b n s l:=by
 have hoa:=gD a;have hob:=gD b;have hna:=(gh a).2.2;have hnb:=(gh b).2.2;have ea:=dm a;have eb:=dm b;obtain⟨n,hn⟩: ∃n,(dg b).length=n+2:=⟨(dg b).length-2,we⟩;have hbp:0<b:=iM fun h=>by subst h;rw[xd] at hb2;simp at hb2
 have hnm:(dg b).length<=(dg a).length:=by
  rcases jS (dg a).length (dg b).length with h|h
  .have:=Ak hoa hnb h
   omega
  .exact h
 have htp:=T6 hnb (n+1) hn;have htl:=hob.get (n+1);have hbv:=aLA hob (n+1) hn;have hbt:=HW hob (n+1);obtain⟨s,hs⟩: ∃s,s=32-bl ((dg b).getD (n+1) 0):=⟨_,rfl⟩;obtain⟨hs32,hs1,hs2⟩:=ava htp htl hs;have hpn:0<4294967296^(n+1):=gU oma;have hps:0<2^s:=gU oma;rw[eb] at hbv;have hV1:2147483648*4294967296^(n+1)<=b*2^s:=by
  refine cX (bW _ hs1) ?_;rw[cR,cW (2^s),<-cR];exact bW _ we
 have hV2:b*2^s<4294967296^(n+2):=by
  refine cS (nW (k:=2^s) (m:=((dg b).getD (n+1) 0+1)*4294967296^(n+1)) (by rw[dS,mN];omega) hps) ?_;rw[cR,cW (4294967296^(n+1)),<-cR,yt (n+1),cW _ 4294967296];exact bW _ hs2
 have hVl:(dg (b*2^s)).length=n+2:=aJu (by show 4294967296^(n+1)<=_;omega) hV2 we;have hal:=m6 hoa;rw[ea] at hal;have hU2:a*2^s<4294967296^((dg a).length+1):=by
  rw[yt];exact pZ hal (cS (Nat.pow_lt_pow_right oma hs32) oma)
 have hUl0:(dg a).length<=(dg (a*2^s)).length:=by
  have hane:dg a≠[]:=fun h=>by
   have:=congrArg List.length h;simp only[eX] at this;omega
  have h1:=Ae hna hane;have h2:=m6 (gh (a*2^s)).2.1;rw[(gh _).1] at h2;rw[ea] at h1;have h3:a<=a*2^s:=nZ _ hps;have h4:=(oR (a:=4294967296) oma).1 (dR (cX h1 h3) h2);omega
 have hU3:a*2^s<b*2^s*4294967296^((dg a).length-n-1):=by
  have h1:4294967296^(n+1)*4294967296^((dg a).length-n-1)=4294967296^(dg a).length:=by rw[<-fY,show n+1+((dg a).length-n-1)=(dg a).length by omega]
  refine cS (nW hal hps) (cX (fV _ (bR oma (show s<=31 by omega))) ?_);rw[<-h1,cW,<-cR];exact bW _ hV1
 exact⟨n,s,(dg a).length-n-1,hn,hs,pn.2 htl,hs32,hVl,hV2,we,hUl0,hU2,hU3,hbp⟩
section
variable {GB:Gh} {C:aH} {n:Nat} {Q0:Exit->Act->World->Prop} {fr fr':aF} {own own':bh} {cf cf':Cf} {vc:List Prop}
def TU(fr:aF)(cf:Cf):Option (Int×Int):=match di fr cf with
 |some ⟨_, .binOp .add _ x y _,_,_,_,_⟩=>match bt (ck fr cf) x,bt (ck fr cf) y with
  |some (.d (.v (.int .u32 p))),some (.d (.v (.int .u32 q)))=>some (p,q)
  |_,_=>none
 |_=>none
def aw[fu:Fu]{p q:Int}(u:Int)(h:TU fr cf=some (p,q))(e:IntKind.u32.wrap (p+q)=u)(hgo:c6 tt n fu.n fr own cf (.d (.v (.int .u32 u))) [] []=⟨vc,fr',own',cf'⟩)(k:av prog GB C n Q0 fr' own' cf')
  (hv:autoParam (ak vc) cL._auto_1):av prog GB C n Q0 fr own cf:=by
 unfold TU at h;split at h<;>try (cases h;done)
 rename_i hh;split at h<;>cases h;rename_i h1 h2;subst e;exact us hh (.yd fun ρ G ov a w r=>by
  obtain⟨y1,h3,h4⟩:=r.ev h1;obtain⟨y2,h5,h6⟩:=r.ev h2;rw[dl] at h4 h6;subst h4 h6;exact⟨_,dl.2 J,mf h3 h5 fun w=>J⟩) hgo hv k
end
def YT{U m:Nat}(h:U<4294967296^m):dv ((dg U++[0,0]).take m)=U:=by
 have h1:dv (dg U++[0,0])=U:=by rw[show([0,0]:List Nat)=List.replicate 2 0 from J,aAD,dm]
 have h2:=yk (dg U++[0,0]) m;rw[C6 (by rw[h1];exact h),h1] at h2;omega
def ZW{a k ia:Nat}{vs:List Nat}[h:BN a ia](hv:vs=dg (a*2^k))(hk:k<32)(h0:0<(dg a).length)(hi:ia<=1000000000):PR GB prog 288 [dN a, .v (.int .u64 (k:Nat))] 1 245 (vs.map dU):=by
 subst hv;exact Or hk h0 hi
def aEg{us vs:List Nat}{n i T S:Nat}(huo:bH us)(hvo:bH vs)(hvB:dv vs<4294967296^(n+2))(hv0:0<dv vs)(hvh:dv vs=(T*4294967296+S)*4294967296^n+dv (vs.take n))(hlt:dv us<dv vs*4294967296^(i+1)):
  ∃f p V w:Nat,f=us.getD (i+n+2) 0*4294967296+us.getD (i+n+1) 0/\V=dv vs*4294967296^i/\0<V/\dv us<V*4294967296/\(f*4294967296+us.getD (i+n) 0)*p<=dv us/\dv us<(f*4294967296+us.getD (i+n) 0+1)*p/\V=(T*4294967296+S)*p+w/\w<p/\dv us<4294967296^(i+n+3):=by
 have hpi:0<4294967296^i:=gU oma;obtain⟨p,hp⟩: ∃p,p=4294967296^(i+n):=⟨_,rfl⟩;have hM:dv us<4294967296^(i+n+3):=by
  refine cS hlt ?_;rw[show i+n+3=(n+2)+(i+1) by omega,fY 4294967296 (n+2) (i+1)];exact bW _ (gS hvB)
 have huh:=aLj huo (i+n) hM;have hu0:=HW huo (i+n);rw[<-hp] at huh hu0;refine⟨_,p,_,dv (vs.take n)*4294967296^i,J,J,jR hv0 hpi,by rw[cR,<-yt];exact hlt,we,by rw[dS _ 1,mN];omega,?_,?_,hM⟩
 .rw[hvh,dS,hp,fY,cW (4294967296^i),cR]
 .rw[hp,fY,cW]
  exact Nat.mul_lt_mul_of_pos_left (HW hvo n) hpi
def X1{ws vs:List Nat}{u g i k bo c c1 xx:Nat}(hl:i+k<ws.length)(hw:dv ws+g*(dv (vs.take k)*4294967296^i)=u+(bo+c)*4294967296^(i+k))(hc1:c1=c+g*vs.getD k 0)(hx1:xx%4294967296+(c1%4294967296+bo)=ws.getD (i+k) 0+xx/9223372036854775808*4294967296):
  dv (ws.set (i+k) (xx%4294967296))+g*(dv (vs.take (k+1))*4294967296^i)=u+(xx/9223372036854775808+c1/4294967296)*4294967296^(i+(k+1)):=by
 rw[pB,dS (dv (vs.take k)),<-lT i k 1,yt,show 4294967296^k*vs.getD k 0*4294967296^i=vs.getD k 0*4294967296^(i+k) by rw[fY,cW (4294967296^k),cR,cW (4294967296^k)],fW,<-cR g (vs.getD k 0)];exact aED (zc ws (i+k) _ hl) hw hc1 hx1
def aDM{wa vs:List Nat}{u i k ca:Nat}(hl:i+k<wa.length)(ha:dv wa+ca*4294967296^(i+k)=u+dv (vs.take k)*4294967296^i):
  dv (wa.set (i+k) ((ca+(wa.getD (i+k) 0+vs.getD k 0))%4294967296))+(ca+(wa.getD (i+k) 0+vs.getD k 0))/4294967296*4294967296^(i+(k+1))=u+dv (vs.take (k+1))*4294967296^i:=by
 rw[pB,dS (dv (vs.take k)),<-lT i k 1,yt,show 4294967296^k*vs.getD k 0*4294967296^i=vs.getD k 0*4294967296^(i+k) by rw[fY,cW (4294967296^k),cR,cW (4294967296^k)]];exact aF0 (zc wa (i+k) _ hl) ha
def aBh{a b s n:Nat}{us vs qs:List Nat}(hp:0<2^s)(hvv:dv vs=b*2^s)(hv0:0<dv vs)(hvB:dv vs<4294967296^(n+2))(hinv:a*2^s=dv us+dv vs*dv qs)(hlt:dv us<dv vs*4294967296^0):dv qs=a/b/\dv (us.take (n+2))/2^s=a%b:=by
 rw[uW,jT] at hlt;have hut:dv (us.take (n+2))=dv us:=by
  have h0:=yk us (n+2);rw[C6 we] at h0;omega
 refine⟨?_,?_⟩
 .rw[<-Nat.mul_div_mul_right _ _ hp,hinv,<-hvv,qX _ _ hv0,mM hlt,fX]
 .have:dv us=a%b*2^s:=by rw[<-Nat.mul_mod_mul_right,hinv,<-hvv,qU,kY hlt]
  rw[hut,this,Nat.mul_div_cancel _ hp]
def aK4{qs:List Nat}{i l d:Nat}(hl:i<qs.length)(h:qs.getD i 0=0):dv (qs.set i d)=dv qs+4294967296^i*d:=by
 have:=zc qs i d hl;rw[h] at this;simpa using this
def V4{a s i R d V u v:Nat}{qs:List Nat}(hl:i<qs.length)(h0:qs.getD i 0=0)(hinv:a*2^s=u+v*dv qs)(hV:V=v*4294967296^i)(h:R+d*V=u):a*2^s=R+v*dv (qs.set i d):=by
 rw[hinv,<-h,aK4 (l:=0) hl h0,fW,<-cR,<-hV,cW d];omega
def UN{qs:List Nat}{i d:Nat}(hq: ∀j,j<i+1->qs.getD j 0=0): ∀j,j<i->(qs.set i d).getD j 0=0:=fun j h=>by
 rw[getD_set_ne];exact hq j we
theorem omA{p:Prop}(h:p:=by show FX.d (.v (.int _ _))= .d (.v (.int _ _));first|rfl|congr 3):p:=h
theorem okp{p:Prop}(h:p:=by first|omega|(have hd:=Ig hUlt hVle hfg;rcases gX g with e|e;(rw[e,kL] at hd;omega);omega)):p:=h
def aIg{a b ia ib:Nat}[h:BN a ia][k:BN b ib](h2:2<=(dg b).length)(hle:b<=a)(hi:ia<=1000000000:=by decide)(hj:ib<=1000000000:=by decide):PF GB prog 273 [dN a,dN b] (.tp [dN (a/b),dN (a%b)]):=by
 have hla:=b8 (dg a);have hba:=ju (a:=a) hi;have hlb:=b8 (dg b);have hbb:=ju (a:=b) hj;obtain⟨n,s,l,P⟩:=aBD h2 hle;have hn:=P.hn;have hs:=P.hs;have hsb:=P.hb;have hs32:=P.s32;have hal:=P.al;have hu0:=P.u0;have hu9:=CF (a:=a*2^s) (k:=(dg a).length+1) P.u1;have htl:=eh b (n+1);obtain⟨vs,hvs⟩: ∃vs,vs=dg (b*2^s):=⟨_,rfl⟩;have hvl:vs.length=n+2:=by rw[hvs];exact P.vl
 have hvv:dv vs=b*2^s:=by rw[hvs,dm]
 have hvo:bH vs:=by rw[hvs];exact gD _
 have hvn:fA vs:=by rw[hvs];exact(gh _).2.2
 have hvm:=b8 vs;obtain⟨us0,hus0⟩: ∃us0,us0=(dg (a*2^s)++[0,0]).take ((dg a).length+1):=⟨_,rfl⟩;have husv:dv us0=a*2^s:=by rw[hus0];exact YT P.u1
 have huso:bH us0:=by rw[hus0];exact((gD _).append (.replicate 2)).take _
 have husl:us0.length=(dg a).length+1:=by rw[hus0];simp;omega
 have hps:0<2^s:=gU oma;have hbp:=P.bp;have hV0':0<dv vs:=by rw[hvv];exact jR hbp hps
 have hvB:dv vs<4294967296^(n+2):=by rw[hvv];exact P.v2
 obtain⟨T,hT⟩: ∃T,T=vs.getD (n+1) 0:=⟨_,rfl⟩;obtain⟨S,hS⟩: ∃S,S=vs.getD n 0:=⟨_,rfl⟩;have hTB:T<4294967296:=by rw[hT];exact hvo.get _
 have hSB:S<4294967296:=by rw[hS];exact hvo.get _
 have hT0:0<T:=by rw[hT];exact T6 hvn (n+1) hvl
 have hvh:=aK2 hvo n hvB;rw[<-hT,<-hS] at hvh;refine fn (fu:=⟨12⟩) func273 J J ntmps273 J J (fun C=>?_);refine aj 27 (.d (vI ((dg b).length:Nat))) J omS<|gx J<|ix _ J (cP (k:=n+1)) J<|cl (fu:=⟨1⟩) J (Mf htl) J<|aj 32 (.d (.v (.int .u64 (s:Nat)))) J (omi we)<|gx J<|cr J (Or (a:=a) (k:=s) hs32 we hi) J<|rf J J<|ap (fu:=⟨2⟩) _ J J (F3 J) J<|aj 39 (.d (vI ((dg a).length:Nat))) J omv<|gx (fu:=⟨1⟩) J<|aj 40 (.d (vI ((dg a).length+1:Nat))) J omk<|gx (fu:=⟨0⟩) J<|S7 (us0.map dU) ((dg a).length+1) J J omq (by rw[hus0,iT,aL];rfl) J<|cr (fu:=⟨7⟩) J (ZW (a:=b) (k:=s) (vs:=vs) hvs hs32 we hj) J<|aj 46 (.d (vI (n+2:Nat))) J (by rw[hvm,hvl]<;>rfl)<|gx J<|lb (fu:=⟨1⟩) _ J (cP (k:=n+1)) J<|aj 52 (.d (.v (.int .u64 (T:Nat)))) J (by show FX.d (.v (.int _ _))= .d (.v (.int _ _));rw[hT])<|gx J<|lb (fu:=⟨1⟩) _ J (cP (k:=n)) J<|aj 58 (.d (.v (.int .u64 (S:Nat)))) J (by show FX.d (.v (.int _ _))= .d (.v (.int _ _));rw[hS])<|gx (fu:=⟨8⟩) J<|aj 60 (.d (vI ((dg a).length+1:Nat))) J (by rw[b8,husl]<;>rfl)<|gx (fu:=⟨2⟩) J<|aj 62 (.d (vI (l:Nat))) J (omi we)<|gx J<|mk (fu:=⟨11⟩) ((List.replicate l 0).map dU) J J omH J<|aj 65 (.d (vI (l:Nat))) J (by rw[b8,aM]<;>rfl)<|gx J<|lp (X:=List Nat×List Nat×Nat) (fun⟨us,qs,j⟩=>[(13, .d (vI ((j:Nat)-1)))]) (fun⟨us,qs,j⟩=>[(63,some (.b 245 1 (qs.map dU) true)),(41,some (.b 245 1 (us.map dU) true))]) (fun⟨us,qs,j⟩=>us.length=(dg a).length+1/\bH us/\qs.length=l/\bH qs/\j<=l/\(∀i,i<j->qs.getD i 0=0)/\a*2^s=dv us+dv vs*dv qs/\dv us<dv vs*4294967296^j) (fun⟨us,qs,j⟩=>j) ⟨us0,List.replicate l 0,l⟩ J ⟨husl,huso,omc, .replicate _,bV _,fun i _=>EH _ _,by simp only[Ar];omega,by rw[husv,hvv];exact P.u3⟩ (fun _=>J) (fun⟨us,qs,j⟩ hk=>?_)
 try dsimp only at hk⊢
 obtain⟨hul,huo,hql,hqo,hjl,hq0,hinv,hlt⟩:=hk;refine br (fu1:=⟨0⟩) (fu2:=⟨0⟩) J J J (fun hc68=>?_) (fun hc68=>?_)
 .
  obtain⟨i,rfl⟩: ∃i,j=i+1:=⟨j-1,we⟩;refine aj 13 (.d (vI (i:Nat))) J (omi we) ?_;obtain⟨f,p,V,v0,hf,hV,hVp0,hltV,hUle,hUlt,hVp,hv0,hM⟩:=aEg (n:=n) (i:=i) huo hvo hvB hV0' hvh hlt;have hVle:(T*4294967296+S)*p<=V:=by rw[hVp];exact nT _ _
  have hfT:f<=T*4294967296+S:=aMW hUle hVp hv0 hltV;have hg0:=huo.get (i+n);have hg1:=huo.get (i+n+1);have hg2:=huo.get (i+n+2);have hum:=b8 us;have hqm:=b8 qs;refine gx J<|lb (fu:=⟨2⟩) (hv:=by simp only[ak];exact⟨we,oma⟩) _ J (cP (k:=i+n+2)) J<|aj 78 (.d (.v (.int .u64 (us.getD (i+n+2) 0*4294967296:Nat)))) J omt<|gx J<|lb (fu:=⟨2⟩) _ J (cP (k:=i+n+1)) J<|aj 87 (.d (.v (.int .u64 (f:Nat)))) J (congrArg (fun z:Nat=>FX.d (.v (.int .u64 (z:Int)))) ((congrArg BitVec.toNat (BitVec.or_comm ..)).trans ((rg 64 (us.getD (i+n+1) 0) (us.getD (i+n+2) 0) 32 hg1 omw).trans (by show _+_*4294967296=_;omega))))<|gx (fu:=⟨8⟩) (hv:=by simp only[ak];exact⟨omd,we⟩) J<|aj 90 (.d (.v (.int .u64 (f/T:Nat)))) J omA<|gx (fu:=⟨3⟩) J<|aj 93 (.d (.v (.int .u64 (f%T:Nat)))) J omA<|gx (fu:=⟨5⟩) J<|mg (fu:=⟨11⟩) (X:=Nat) (fun g=>[(15, .d (.v (.int .u64 (g:Nat))))]) (fun g=>[]) (fun g=>g<4294967296/\dv us<(g+1)*V/\g*V<dv us+V) [15,16] [] rfl ?_ (fun _=>J) (fun g ⟨hgB,hlo,hhi⟩=>?_)
  .
   refine gx J<|lp (fu:=⟨5⟩) (hv:=fun _ _=>by simp only[ak];exact oma) (X:=Nat×Nat) (fun⟨g,r⟩=>[(15, .d (.v (.int .u64 (g:Nat)))),(16, .d (.v (.int .u64 (r:Nat))))]) (fun⟨g,r⟩=>[]) (fun⟨g,r⟩=>f=g*T+r/\r<4294967296/\dv us<(g+1)*V) (fun⟨g,r⟩=>g) ⟨f/T,f%T⟩ J ⟨(Nat.div_add_mod' ..).symm,uV (dW _ hT0) hTB,aEU hUlt hg0 hVle hT0⟩ (fun _=>J) (fun⟨g,r⟩ hk=>?_)
   try dsimp only at hk⊢
   obtain⟨hfg,hrB,hlo⟩:=hk;have hgT:g*1<=g*T:=fV _ hT0;refine aj 95 (.d (.v (.int .u64 (g/4294967296:Nat)))) rfl oku<|gx rfl<|cs (fu1:=⟨26⟩) (v1:=fun hg97=>by simp only[ak];exact okp) (fu2:=⟨3⟩) (v2:=fun hg97=>by simp only[ak];exact⟨(Cw _ _),(DJ (show g<4294967296 by omega) hSB)⟩) 97 J J J (fun hg97=>?_) (fun hg97=>?_)
   .
    have hgB4:4294967296<=g:=by omega
    have hdec:dv us<g*V:=cS hltV (by rw[cW];exact bW _ hgB4);obtain⟨g',rfl⟩: ∃g',g=g'+1:=⟨g-1,by rcases gX g with h|h;(rw[h,kL] at hdec;omega);omega⟩;have hfg':f=g'*T+(r+T):=by rw[hfg,dS,mN];omega
    refine aj 115 (.d (.v (.int .u64 (g':Nat)))) J (omi we)<|gx (fu:=⟨8⟩) J<|aj 118 (.d (.v (.int .u64 (r+T:Nat)))) J omA<|gx (fu:=⟨7⟩) (hv:=by simp only[ak];exact oma) J<|aj 120 (.d (.v (.int .u64 ((r+T)/4294967296:Nat)))) J oku<|gx J<|br J J J (fun hc121=>?_) (fun hc121=>?_)
    .
     have hgB3:g'<4294967296:=by rcases jS g' 4294967296 with h|h;(exact h);(have:=bW T h;omega)
     have hgS3:g'*S<=(r+T)*4294967296+us.getD (i+n) 0:=by have h1:=fZ (gS hgB3) (gS hSB);omega
     exact at_ g' ⟨hgB3,hdec,K0 hUle hVp hv0 hT0 hfg' hgB3 hgS3⟩
    .
     exact at_ ⟨g',r+T⟩ (by dsimp only;exact⟨⟨hfg',we,hdec⟩,we⟩)
   .
    have hgB:g<4294967296:=by omega
    have hgS:g*S<4294967296*4294967296:=pZ hgB hSB;refine aj 100 (.d (.v (.int .u64 (g*S:Nat)))) rfl (by rw[jJ])<|gx (fu:=⟨2⟩) (hv:=by simp only[ak];exact oma) rfl<|aj 102 (.d (.v (.int .u64 (r*4294967296:Nat)))) rfl (by show FX.d (.v (.int _ _))= .d (.v (.int _ _));rw[q9 _ 32 oma omG rfl])<|gx rfl<|lb (fu:=⟨2⟩) _ rfl (cP (k:=i+n)) rfl<|aj 111 (.d (.v (.int .u64 (r*4294967296+us.getD (i+n) 0:Nat)))) rfl (congrArg (fun z:Nat=>FX.d (.v (.int .u64 (z:Int)))) ((congrArg BitVec.toNat (BitVec.or_comm ..)).trans ((rg 64 (us.getD (i+n) 0) (r) 32 hg0 omw).trans (by show _+_*4294967296=_;omega))))<|gx rfl<|br (fu1:=⟨7⟩) (v1:=fun hc113=>by simp only[ak];exact okp) rfl rfl rfl (fun hc113=>?_) (fun hc113=>?_)
    .
     have hdec:dv us<g*V:=Ig hUlt hVle hfg;obtain⟨g',rfl⟩: ∃g',g=g'+1:=⟨g-1,by rcases gX g with h|h;(rw[h,kL] at hdec;omega);omega⟩;have hfg':f=g'*T+(r+T):=by rw[hfg,dS,mN];omega
     refine aj 115 (.d (.v (.int .u64 (g':Nat)))) J (omi we)<|gx (fu:=⟨8⟩) J<|aj 118 (.d (.v (.int .u64 (r+T:Nat)))) J omA<|gx (fu:=⟨7⟩) (hv:=by simp only[ak];exact oma) J<|aj 120 (.d (.v (.int .u64 ((r+T)/4294967296:Nat)))) J oku<|gx J<|br J J J (fun hc121=>?_) (fun hc121=>?_)
     .
      have hgB3:g'<4294967296:=by rcases jS g' 4294967296 with h|h;(exact h);(have:=bW T h;omega)
      have hgS3:g'*S<=(r+T)*4294967296+us.getD (i+n) 0:=by have h1:=fZ (gS hgB3) (gS hSB);omega
      exact at_ g' ⟨hgB3,hdec,K0 hUle hVp hv0 hT0 hfg' hgB3 hgS3⟩
     .
      exact at_ ⟨g',r+T⟩ (by dsimp only;exact⟨⟨hfg',we,hdec⟩,we⟩)
    .
     exact at_ g ⟨hgB,hlo,K0 hUle hVp hv0 hT0 hfg hgB we⟩
  .
   refine aj 123 (.d (vI (n+2:Nat))) J (by rw[hvm,hvl]<;>rfl)<|gx J<|lp (X:=List Nat×Nat×Nat×Nat) (fun⟨ws,k,bo,c⟩=>[(124, .d (vI (k:Nat))),(17, .d (.v (.int .u64 (bo:Nat)))),(18, .d (.v (.int .u64 (c:Nat))))]) (fun⟨ws,k,bo,c⟩=>[(41,some (.b 245 1 (ws.map dU) true))]) (fun⟨ws,k,bo,c⟩=>ws.length=(dg a).length+1/\bH ws/\k<=n+2/\bo<=1/\c<4294967296/\dv ws<4294967296^(i+n+3)/\dv ws+g*(dv (vs.take k)*4294967296^i)=dv us+(bo+c)*4294967296^(i+k)) (fun⟨ws,k,bo,c⟩=>n+2-k) ⟨us,0,0,0⟩ J ⟨hul,huo,aN _,aN _,oma,hM,by simp[dv]⟩ (fun _=>J) (fun⟨ws,k,bo,c⟩ hk=>?_)
   try dsimp only at hk⊢
   obtain⟨hwl,hwo,hk2,hbo,hc4,hwM,hw⟩:=hk;refine br J J J (fun hc125=>?_) (fun hc125=>?_)
   .
    have hvk:=hvo.get k;have hwg:=hwo.get (i+k);have hgd:g*vs.getD k 0<=4294967295*4294967295:=fZ we we;obtain⟨c1,hc1⟩: ∃c1,c1=c+g*vs.getD k 0:=⟨_,rfl⟩;have hc1m:c1%4294967296<4294967296:=dW _ oma;obtain⟨hx1,hx2,hx3⟩:=Rj (ws.getD (i+k) 0) (c1%4294967296) bo hwg hc1m hbo;obtain⟨xx,hxx⟩: ∃x,x=vd (ws.getD (i+k) 0) (c1%4294967296) bo:=⟨_,rfl⟩;rw[<-hxx] at hx1 hx2 hx3;have hwm:=b8 ws;refine lb (fu:=⟨11⟩) (hv:=by simp only[ak];exact⟨we,⟨(Cw _ _),(DJ hgB hvk)⟩⟩) _ J (fg) J<|aj 133 (.d (.v (.int .u64 (g*vs.getD k 0:Nat)))) J (by rw[jJ])<|gx (fu:=⟨1⟩) J<|aj 134 (.d (.v (.int .u64 (c1:Nat)))) J (omi we)<|gx J<|lb (fu:=⟨3⟩) _ J (cP (k:=i+k)) J<|aj 143 (.d (.v (.int .u64 (c1%4294967296:Nat)))) J (congrArg (fun z:Nat=>FX.d (.v (.int .u64 (z:Int)))) (YM c1 we))<|gx (fu:=⟨0⟩) J<|sd (fu:=⟨1⟩) (IntKind.u64.wrap (((ws.getD (i+k) 0:Nat):Int)-((c1%4294967296:Nat):Int))) J J J<|sd (fu:=⟨11⟩) ((xx:Nat):Int) J (by rw[hxx];exact EY _ _ _ hwg hc1m hbo) J<|aj 152 (.d (dU (xx%4294967296))) J omk<|gx J<|sb (fu:=⟨6⟩) (hv:=by simp only[ak];exact oma) _ ((ws.set (i+k) (xx%4294967296)).map dU) J (cP (k:=i+k)) J (by(rw[show((i:Int)+k).toNat=i+k by omega,<-j0])<;>rfl) J<|aj 155 (.d (.v (.int .u64 (xx/9223372036854775808:Nat)))) J (by rw[Me])<|gx (fu:=⟨6⟩) (hv:=by simp only[ak];exact oma) J<|aj 157 (.d (.v (.int .u64 (c1/4294967296:Nat)))) J oku<|gx J<|at_ ⟨ws.set (i+k) (xx%4294967296),k+1,xx/9223372036854775808,c1/4294967296⟩ (by dsimp only;exact⟨⟨by simpa using hwl,hwo.set _ (dW _ oma),we,hx2,we,D2 hwo (dW _ oma) hwM,X1 we hw hc1 hx1⟩,we⟩)
   .
    obtain rfl:k=n+2:=by omega
    rw[bM we,<-hV] at hw;have hwg:=hwo.get (i+n+2);obtain⟨hx1,hx2,hx3⟩:=Rj (ws.getD (i+n+2) 0) c bo hwg hc4 hbo;obtain⟨xx,hxx⟩: ∃x,x=vd (ws.getD (i+n+2) 0) c bo:=⟨_,rfl⟩;rw[<-hxx] at hx1 hx2 hx3;have hwm:=b8 ws;obtain⟨ws2,hws2⟩: ∃z,z=ws.set (i+n+2) (xx%4294967296):=⟨_,rfl⟩;have hl2:=aD3 (zc ws (i+n+2) (xx%4294967296) we) hw hx1;rw[<-yt,<-hws2] at hl2;have hM2:=D2 (i:=i+n+2) (d:=xx%4294967296) hwo (dW _ oma) hwM;have ho2:=hwo.set (i+n+2) (d:=xx%4294967296) (dW _ oma);have hn2:ws2.length=(dg a).length+1:=by rw[hws2,bJ];exact hwl
    rw[<-hws2] at hM2 ho2;replace hl2:dv ws2+g*V=dv us+xx/9223372036854775808*4294967296^(i+n+3):=hl2;have hqi:=hq0 i we;obtain⟨q2,hq2⟩: ∃z,z=qs.set i g:=⟨_,rfl⟩;have hq2l:q2.length=l:=by rw[hq2,bJ];exact hql
    have hq2m:=b8 q2;have hwm2:=b8 ws2;refine lb (fu:=⟨2⟩) _ J (cP (k:=i+n+2)) J<|sd (fu:=⟨1⟩) (IntKind.u64.wrap (((ws.getD (i+n+2) 0:Nat):Int)-((c:Nat):Int))) J J J<|sd (fu:=⟨11⟩) ((xx:Nat):Int) J (by rw[hxx];exact EY _ _ _ hwg hc4 hbo) J<|aj 175 (.d (dU (xx%4294967296))) J omk<|gx J<|sb (fu:=⟨8⟩) _ (ws2.map dU) J (cP (k:=i+n+2)) J (by(rw[hws2,show((i:Int)+((n+2:Nat):Int)).toNat=i+n+2 by omega,<-j0])<;>rfl) J<|aj 180 (.d (dU g)) J (omi we)<|gx J<|sb (fu:=⟨7⟩) (hv:=by simp only[ak];exact oma) _ (q2.map dU) J (fg) J (by rw[hq2,<-j0];rfl) J<|aj 183 (.d (.v (.int .u64 (xx/9223372036854775808:Nat)))) J (by rw[Me])<|gx J<|br J J J (fun hc184=>?_) (fun hc184=>?_)
    .
     have ht0:xx/9223372036854775808=0:=by omega
     rw[ht0,kL,gV] at hl2;exact at_ ⟨ws2,q2,i⟩ (by dsimp only;exact⟨⟨hn2,ho2,hq2l,by rw[hq2];exact hqo.set _ hgB,we,by rw[hq2];exact UN hq0,by rw[hq2];exact V4 we hqi hinv hV hl2,by rw[<-hV];exact Za hlo hl2⟩,we⟩)
    .
     have ht1:xx/9223372036854775808=1:=by omega
     rw[ht1,mN] at hl2;obtain⟨g',rfl⟩: ∃g',g=g'+1:=⟨g-1,by rcases gX g with h|h;(rw[h,kL] at hl2;omega);omega⟩;have hqs:q2.getD i 0=g'+1:=by rw[hq2];exact CE we
     refine lb (fu:=⟨0⟩) _ J (fg) J<|aj 188 (.d (dU (g'+1))) J (by first|rw[hqs]|(simp only[cK];rw[hqs]))<|gx (fu:=⟨0⟩) J<|sw ((g':Nat):Int) J we J<|sb (fu:=⟨12⟩) _ ((qs.set i g').map dU) J (fg) J (by simp only[cK,hq2,kK,List.set_set]<;>rfl) J<|aj 192 (.d (vI (n+2:Nat))) J (by rw[hvm,hvl]<;>rfl)<|gx J<|lp (X:=List Nat×Nat×Nat) (fun⟨wa,k,ca⟩=>[(193, .d (vI (k:Nat))),(18, .d (.v (.int .u64 (ca:Nat))))]) (fun⟨wa,k,ca⟩=>[(41,some (.b 245 1 (wa.map dU) true))]) (fun⟨wa,k,ca⟩=>wa.length=(dg a).length+1/\bH wa/\k<=n+2/\ca<=1/\dv wa<4294967296^(i+n+3)/\dv wa+ca*4294967296^(i+k)=dv ws2+dv (vs.take k)*4294967296^i) (fun⟨wa,k,ca⟩=>n+2-k) ⟨ws2,0,0⟩ J ⟨hn2,ho2,aN _,aN _,hM2,by simp[dv]⟩ (fun _=>J) (fun⟨wa,k,ca⟩ hk=>?_)
     try dsimp only at hk⊢
     obtain⟨hal2,hao,hk2,hac,haM,ha⟩:=hk;refine br J J J (fun hc194=>?_) (fun hc194=>?_)
     .
      have hvk:=hvo.get k;have hag:=hao.get (i+k);obtain⟨t,ht⟩: ∃t,t=ca+(wa.getD (i+k) 0+vs.getD k 0):=⟨_,rfl⟩;have ham:=b8 wa;refine lb _ J (fg) J<|lb (fu:=⟨5⟩) _ J (cP (k:=i+k)) J<|aj 209 (.d (.v (.int .u64 (t:Nat)))) J (omi we)<|gx (fu:=⟨11⟩) J<|aj 215 (.d (dU (t%4294967296))) J omk<|gx J<|sb (fu:=⟨5⟩) (hv:=by simp only[ak];exact oma) _ ((wa.set (i+k) (t%4294967296)).map dU) J (cP (k:=i+k)) J (by(rw[show((i:Int)+k).toNat=i+k by omega,<-j0])<;>rfl) J<|aj 218 (.d (.v (.int .u64 (t/4294967296:Nat)))) J oku<|gx J<|at_ ⟨wa.set (i+k) (t%4294967296),k+1,t/4294967296⟩ (by dsimp only;exact⟨⟨by simpa using hal2,hao.set _ (dW _ oma),we,we,D2 hao (dW _ oma) haM,by rw[ht];exact aDM we ha⟩,we⟩)
     .
      obtain rfl:k=n+2:=by omega
      rw[bM we,<-hV] at ha;have hag:=hao.get (i+n+2);have ham:=b8 wa;have hl4:=aDK (zc wa (i+n+2) ((wa.getD (i+n+2) 0+ca)%4294967296) we) ha;rw[<-yt] at hl4;have hM4:=D2 (i:=i+n+2) (d:=(wa.getD (i+n+2) 0+ca)%4294967296) hao (dW _ oma) haM;obtain⟨hR1,hR2⟩:=aEy hhi hl2 hl4 hM2 hM4 we (Nat.succ_pos _);refine lb (fu:=⟨2⟩) _ J (cP (k:=i+n+2)) J<|aj 227 (.d (dU ca)) J (omi we)<|gx (fu:=⟨0⟩) J<|aw (((wa.getD (i+n+2) 0+ca)%4294967296:Nat):Int) J (by rw[vi];omega) J<|sb _ ((wa.set (i+n+2) ((wa.getD (i+n+2) 0+ca)%4294967296)).map dU) J (cP (k:=i+n+2)) J (by(rw[show((i:Int)+((n+2:Nat):Int)).toNat=i+n+2 by omega,<-j0])<;>rfl) J<|at_ ⟨wa.set (i+n+2) ((wa.getD (i+n+2) 0+ca)%4294967296),qs.set i g',i⟩ (by dsimp only;exact⟨⟨by simpa using hal2,hao.set _ (dW _ oma),by simpa using hql,hqo.set _ we,we,UN hq0,V4 we hqi hinv hV hR1,by rw[<-hV];exact hR2⟩,we⟩)
 .
  refine nj 63 J<|nj 41 J ?_;obtain rfl:j=0:=by omega
  obtain⟨e1,e2⟩:=aBh hps hvv hV0' hvB hinv hlt;refine gx J<|cl J (t7 (ds:=qs)) J<|kp (fu:=⟨0⟩) 0 (n+2) _ J J J J (tC _) we omq J<|aj 234 (.d (d6 (us.take (n+2)))) J (by first|rfl|(show FX.d (.sl _)=FX.d (.sl _);simp))<|gx J<|cl J (aLx (ds:=us.take (n+2)) (huo.take _) omq hs32) J<|rz J (by show DV.tp [d6 _,dN _]= .tp [dN _,dN _];rw[mh hqo e1,e2])
def Ft{a b i j:Nat}[h:BN a i][k:BN b j](hb:0<b)(hi:i<=1000000000:=by decide)(hj:j<=1000000000:=by decide):PF GB prog 242 [dN a,dN b] (.tp [dN (a/b),dN (a%b),vB true]):=by
 have hla:=b8 (dg a);have hba:=ju (a:=a) hi;have hlb:=b8 (dg b);have hbb:=ju (a:=b) hj;have hb0:(dg b).length≠0:=fun e=>by have:=CT e;omega
 have hcn:=Do (a:=a) (b:=b);have hd0:=eh b 0;refine fn func242 J J ntmps242 J J (fun C=>?_);refine cl J (p8) J<|cl (fu:=⟨10⟩) J (p8) J<|aj 17 (.d (vI ((dg b).length:Nat))) J omS<|gx (fu:=⟨0⟩) J<|cv J (omh we) J<|cl J (Qv (a:=a) (b:=b) hi hj) J<|br (fu2:=⟨4⟩) J J J (fun hc19=>?_) (fun hc19=>?_)
 .
  refine cl J (R9 (ds:=dg a) (gD _)) J<|rz J (by have hlt:=hcn.1 we;rw[mM hlt,kY hlt,mH];rfl)
 .
  refine aj 28 (.d (vI ((dg b).length:Nat))) J omS<|gx J<|br J J J (fun hc26=>?_) (fun hc26=>?_)
  .
   have h1:(dg b).length=1:=by omega
   have e1:=xq h1;have hmd:=dW a (show 0<(dg b).getD 0 0 by omega);refine ix _ J (cP (k:=0) J we) J<|cl J (Xo (a:=a) (d:=(dg b).getD 0 0) we we hi) J<|cl J (DQ (a:=a%(dg b).getD 0 0) (by have:=dW a (show 0<(dg b).getD 0 0 by omega);omega)) J<|rz J (by rw[e1];rfl)
  .
   refine cl J (aIg (a:=a) (b:=b) we we hi hj) J<|rz J J
def Ra{a:Nat}(h:(dg a).length<=2:=by omega):a<18446744073709551616:=by
 have h1:=s7 a;have h2:(4294967296:Nat)^(dg a).length<=4294967296^2:=bR oma h;omega
theorem okC{p:Prop}(h:p:=by dsimp only;exact⟨⟨by rw[<-hg,jL B,<-uM,jL],hB,uV (dW _ hBp) hB⟩,(dW _ hBp)⟩):p:=h
theorem ozp{p:Prop}(h:p:=by have hB0:B=0:=CT;rw[hB0,nM] at hg;rw[<-hg];rfl):p:=h
def LY{a b i j:Nat}[h:BN a i][k:BN b j](hi:i<=1000000000:=by decide)(hj:j<=1000000000:=by decide):PF GB prog 227 [dN a,dN b] (dN (Nat.gcd a b)):=by
 obtain⟨m,hm⟩: ∃m,m=max i j:=⟨_,rfl⟩;have e0: ∀k',k'<=m->(2:Nat)^k'<=2^m:=fun k' h=>bR oma h;have ha9:a<2^m:=cS h.h (e0 i we);have hb9:b<2^m:=cS k.h (e0 j we);refine fn func227 J J ntmps227 J J (fun C=>?_);refine cl J (w9 (a:=a) (i:=i) we) J<|cl J (w9 (a:=b) (i:=j) we) J<|lp (fu:=⟨5⟩) (X:=Nat×Nat) (fun⟨A,B⟩=>[(0, .d (dN A)),(1, .d (dN B))]) (fun⟨A,B⟩=>[]) (fun⟨A,B⟩=>Nat.gcd A B=Nat.gcd a b/\A<2^m/\B<2^m) (fun⟨A,B⟩=>B) ⟨a,b⟩ J ⟨J,ha9,hb9⟩ (fun _=>J) (fun⟨A,B⟩ hk=>?_)
 try dsimp only at hk⊢
 obtain⟨hg,hA,hB⟩:=hk;haveI:BN A m:=⟨hA⟩;haveI:BN B m:=⟨hB⟩;have hlA:=b8 (dg A);have hlB:=b8 (dg B);have hbA:=ju (a:=A) (i:=m);have hbB:=ju (a:=B) (i:=m);refine aj 17 (.d (vI ((dg A).length:Nat))) J (by rw[hlA]<;>rfl)<|gx J<|cs (fu1:=⟨15⟩) (fu2:=⟨2⟩) 19 J J J (fun hg19=>?_) (fun hg19=>?_)
 .
  refine aj 25 (.d (vI ((dg B).length:Nat))) J (by rw[hlB]<;>rfl)<|gx J<|br J J J (fun hc26=>?_) (fun hc26=>?_)
  .
   exact rz J ozp
  .
   have hBp:0<B:=iM fun e=>hc26 (by rw[e,xd];rfl);refine cl J (Ft (a:=A) (b:=B) (i:=m) (j:=m) hBp we we) J<|at_ ⟨B,A%B⟩ okC
 .
  refine aj 21 (.d (vI ((dg B).length:Nat))) J (by rw[hlB]<;>rfl)<|gx J<|br (fu1:=⟨8⟩) J J J (fun hc23=>?_) (fun hc23=>?_)
  .
   refine aj 25 (.d (vI ((dg B).length:Nat))) J (by rw[hlB]<;>rfl)<|gx J<|br J J J (fun hc26=>?_) (fun hc26=>?_)
   .
    exact rz J ozp
   .
    have hBp:0<B:=iM fun e=>hc26 (by rw[e,xd];rfl);refine cl J (Ft (a:=A) (b:=B) (i:=m) (j:=m) hBp we we) J<|at_ ⟨B,A%B⟩ okC
  .
   have hA2:=Ra (a:=A);have hB2:=Ra (a:=B);refine cl J (DF (a:=A) hA2) J<|cl J (DF (a:=B) hB2) J<|lp (X:=Nat×Nat) (fun⟨u,v⟩=>[(8, .d (.v (.int .u64 (u:Nat)))),(10, .d (.v (.int .u64 (v:Nat))))]) (fun⟨u,v⟩=>[]) (fun⟨u,v⟩=>Nat.gcd u v=Nat.gcd a b/\u<18446744073709551616/\v<18446744073709551616) (fun⟨u,v⟩=>v) ⟨A,B⟩ J ⟨hg,hA2,hB2⟩ (fun _=>J) (fun⟨u,v⟩ hk=>?_)
   try dsimp only at hk⊢
   obtain⟨hg2,hu,hv⟩:=hk;refine br (fu1:=⟨8⟩) J J J (fun hc48=>?_) (fun hc48=>?_)
   .
    refine aj 52 (.d (.v (.int .u64 (u%v:Nat)))) J omA<|gx J<|at_ ⟨v,u%v⟩ (by dsimp only;exact⟨⟨by rw[<-hg2,jL v,<-uM,jL],hv,uV (dW _ we) hv⟩,(dW _ we)⟩)
   .
    obtain rfl:v=0:=by omega
    rw[nM] at hg2;refine cl J (DQ (a:=u) hu) J<|rz J (by rw[hg2];rfl)

def Lb{x:Nat}:bl x=0↔x=0:=by
 have:= @pn x 0;simp at this;omega
def vH{a:Nat}:0<(dg a).length↔0<a:=by
 have:= @wv a;omega
def eS(neg:Bool)(a:Nat):DV:= .ag [.v (.bool neg),dN a]
def D3(neg:Bool)(a:Nat):eI (zv neg a)= .ag [.v (.bool (neg&&decide (0<a))),dN a]:=by unfold eI;rw[tn,VX]
def aFc{n:Bool}{u:Nat}{b:Int}(h:n≠decide (b<0))(hle:b.natAbs<=u):zv n (u-b.natAbs)=zv n u+b:=by cases n<;>simp[zv] at* <;>omega
def Y'{n:Bool}{u:Nat}{b:Int}(h:n≠decide (b<0))(hle:u<=b.natAbs):zv (decide (b<0)) (b.natAbs-u)=zv n u+b:=by cases n<;>simp[zv] at* <;>(try rw[if_pos h])<;>(try rw[if_neg we])<;>omega
theorem okK{p:Prop}(h:p:=by unfold vB;congr 2;simp_all [fy]):p:=h
def azn{neg:Bool}{ds:List Nat}(hd:bH ds)(hl:ds.length<=1125899906842624):PF GB prog 215 [.ag [.v (.bool neg),d6 ds]] (vB (decide (fA ds/\(neg=true->0<ds.length)))):=by
 refine fn func215 J J ntmps215 J J (fun C=>?_);refine cl J (R8 hd hl) J<|csd 6 J J J (fun hg6=>?_) (fun hg6=>?_)
 .
  refine ja 10 J J J (fun hg10=>?_) (fun hg10=>?_)
  .
   exact rz J okK
  .
   exact rz J okK
 .
  exact rz J okK
theorem ozh{p:Prop}(h:p:=by have:a≠0:=(fun e=>hc3 (by rw[e];rfl));simp[zv];omega):p:=h
def TJ{n:Bool}{a i:Nat}[h:BN a i](hi:i<=1000000000:=by decide):PF GB prog 229 [eS n a] (vI (zv n a).sign):=by
 refine fn func229 J J ntmps229 J J (fun C=>?_);refine cl J (vW (a:=a) hi) J<|br J J J (fun hc3=>?_) (fun hc3=>?_)
 .
  exact rz J (by have:=Lb.1 (Int.ofNat.inj hc3);subst this;cases n<;>rfl)
 .
  refine bb J J J (fun hc8=>?_) (fun hc8=>?_)
  .
   exact rz J (by subst hc8;rw[fQ ozh];rfl)
  .
   exact rz J (by subst hc8;rw[gQ ozh];rfl)
def LW{m:Int}(h0: -9223372036854775808<=m:=by omega)(h1:m<=9223372036854775807:=by omega):PF GB prog 223 [vI m] (eI m):=by
 refine fn (fu:=⟨8⟩) func223 J J ntmps223 J J (fun C=>?_);refine cu ((m%18446744073709551616:Int)) J (sI _) J<|br (fu1:=⟨2⟩) (fu2:=⟨0⟩) J J J (fun hc7=>?_) (fun hc7=>?_)
 .
  refine nu ((m.natAbs:Nat)) J (by rw[sI];omega) J<|cl J (DQ (a:=m.natAbs)) J<|rz J J
 .
  refine aj 3 (.d (.v (.int .u64 (m.natAbs:Nat)))) J omI<|gx J<|cl J (DQ (a:=m.natAbs)) J<|rz J J
def SY{n:Bool}{a:Nat}(h:a<4611686018427387904):PF GB prog 243 [eS n a] (.tp [vI (zv n a),vB true]):=by
 refine fn func243 J J ntmps243 J J (fun C=>?_);refine cl (fu:=⟨2⟩) J (DF (a:=a) we) J<|d7 J J J<|ja 18 J J J (fun hg18=>?_) (fun hg18=>?_)
 .
  refine br (fu1:=⟨3⟩) J J J (fun hc12=>?_) (fun hc12=>?_)
  .
   refine nu (fu:=⟨0⟩) (((18446744073709551616-a)%18446744073709551616:Int)) J (by rw[sI];omega) J<|cu (zv n a) J (by subst hg18;rw[KI];simp only[zv,if_true];omega) J<|rz J J
  .
   exact absurd we hc12
 .
  refine ja 32 J J J (fun hg32=>?_) (fun hg32=>?_)
  .
   refine br J J J (fun hc25=>?_) (fun hc25=>?_)
   .
    exact rz J (by subst hg18;rfl)
   .
    exact absurd we hc25
  .
   subst hg18;cases hg32
def A3{neg:Bool}{a i:Nat}[h:BN a i](hi:i<=1000000000:=by decide):PF GB prog 222 [eS neg a] (eI (zv neg a)):=by
 refine fn func222 J J ntmps222 J J (fun C=>?_);refine cl J (w9 hi) J<|ja 9 J J J (fun hg9=>?_) (fun hg9=>?_)
 .
  exact rz J (by rw[D3];simp[hg9,vH,fy])
 .
  exact rz J (by rw[D3];simp[hg9,vH,fy])
def Eo{neg:Bool}{a:Nat}:PF GB prog 236 [.v (.bool neg),dN a] (eI (zv neg a)):=by
 refine fn func236 J J ntmps236 J J (fun C=>?_);refine ja 6 J J J (fun hg6=>?_) (fun hg6=>?_)
 .
  exact rz J (by rw[D3];simp[hg6,vH,fy])
 .
  exact rz J (by rw[D3];simp[hg6,vH,fy])
def aI9{m:Int}{i:Nat}[h:BI m i](hi:i<=1000000000:=by decide):PF GB prog 188 [eI m] (eI (-m)):=by
 refine fn func188 J J ntmps188 J J (fun C=>?_);refine cl J (A3 (neg:=!decide (m<0)) (a:=m.natAbs) hi) J<|rz J (by rw[X6,mp];rfl)
def Ke{a b:Int}{i j:Nat}[h:BI a i][k:BI b j](hi:i<=1000000000:=by decide)(hj:j<=1000000000:=by decide):PF GB prog 183 [eI a,eI b] (eI (a*b)):=by
 refine fn func183 J J ntmps183 J J (fun C=>?_);refine cl J (A6 (a:=a.natAbs) (b:=b.natAbs) hi hj) J<|cl J Eo J<|rz J (by rw[show(!(decide (a<0)==decide (b<0)))=(decide (a<0) !=decide (b<0)) from J,Po,mp,mp];rfl)
theorem okr{p:Prop}(h:p:=by simpa using hc13):p:=h
def YH{n1:Bool}{u:Nat}{b:Int}{i j:Nat}[h:BN u i][k:BI b j](hi:i<=1000000000:=by decide)(hj:j<=1000000000:=by decide):PF GB prog 182 [eS n1 u,eI b] (eI (zv n1 u+b)):=by
 refine fn func182 J J ntmps182 J J (fun C=>?_);refine bb J J J (fun hc13=>?_) (fun hc13=>?_)
 .
  refine cl J (X4 (b:=b.natAbs) hi hj) J<|cl J Eo J<|rz J (by rw[aq4,show n1=decide (b<0) from by simpa using hc13,mp];rfl)
 .
  refine cl J (S0 (b:=b.natAbs) hi hj) J<|bd J J J (fun hc30=>?_) (fun hc30=>?_)
  .
   refine cl J Eo J<|rz J (by rw[aFc okr hc30];rfl)
  .
   refine cl J (S0 (a:=b.natAbs) hj hi) J<|cl J Eo J<|rz J (by rw[Y' okr we];rfl)
def aJr{a b:Int}{i j:Nat}[h:BI a i][k:BI b j](hi:i<=1000000000:=by decide)(hj:j<=1000000000:=by decide):PF GB prog 182 [eI a,eI b] (eI (a+b)):=(YH (n1:=decide (a<0)) (u:=a.natAbs) hi hj).to (by rw[mp])
def gI(q:Rat):Prop:= ¬(q.num.natAbs<4611686018427387904/\q.den<4611686018427387904)
instance (q:Rat):Decidable (gI q):=inferInstanceAs (Decidable (¬_))
def dP(q:Rat):Int:=if gI q then 0 else q.num
def dO(q:Rat):Int:=if gI q then 0 else(q.den:Int)-1
def dC(q:Rat):DV:= .op (decide (gI q)) [.v (.bool (decide (q.num<0))),dN q.num.natAbs,dN q.den]
def eF(q:Rat):DV:= .ag [vI (dP q),vI (dO q),dC q]
abbrev bgT {q:Rat} (h:decide (gI q)=true):gI q:=of_decide_eq_true h
abbrev uk {q:Rat} (h:decide (gI q)=false): ¬gI q:=of_decide_eq_false h
abbrev Yr {q:Rat} (h: ¬decide (gI q)=false):gI q:=by simpa using h
abbrev oH {q:Rat} (h: ¬decide (gI q)=true): ¬gI q:=by simpa using h
def ou{q:Rat}(h: ¬gI q):dP q=q.num:=if_neg h
def qh{q:Rat}(h: ¬gI q):dO q=(q.den:Int)-1:=if_neg h
def qF{q:Rat}(h: ¬gI q):q.num.natAbs<4611686018427387904:=(Decidable.not_not.1 h).1
def rj{q:Rat}(h: ¬gI q):q.den<4611686018427387904:=(Decidable.not_not.1 h).2
def KC{q:Rat}(h:gI q):q≠0:=fun e=>by subst e;exact h ⟨oma,oma⟩
def ut{q:Rat}{m d:Int}{r:DV}(h: ¬gI q)(h1:q.num=m)(h2:(q.den:Int)-1=d)(e:r= .ag [vI m,vI d, .v (.pointer none)])(G:Gh)(y:Value)(k:Is G r y):Is G (eF q) y:=by
 subst e h1 h2;obtain⟨l,rfl,g⟩:=eH.1 k;obtain⟨y1,l1,rfl,k1,g1⟩:=bA.1 g;obtain⟨y2,l2,rfl,k2,g2⟩:=bA.1 g1;obtain⟨y3,l3,rfl,k3,g3⟩:=bA.1 g2;exact eH.2 ⟨_,J, .cons (by rw[ou h];exact k1) (.cons (by rw[qh h];exact k2) (.cons (ug.2 (.inl ⟨decide_eq_false h,aP.1 k3⟩)) g3))⟩
def SJ{q:Rat}{n:Bool}{a d:Nat}{r:DV}(h:gI q)(h1:decide (q.num<0)=n)(h2:q.num.natAbs=a)(h3:q.den=d)(e:r= .ag [vI 0,vI 0, .pt [.v (.bool n),dN a,dN d]])(G:Gh)(y:Value)(k:Is G r y):Is G (eF q) y:=by
 subst e h1 h2 h3;obtain⟨l,rfl,g⟩:=eH.1 k;obtain⟨y1,l1,rfl,k1,g1⟩:=bA.1 g;obtain⟨y2,l2,rfl,k2,g2⟩:=bA.1 g1;obtain⟨y3,l3,rfl,k3,g3⟩:=bA.1 g2;exact eH.2 ⟨_,J, .cons (by unfold dP;rw[if_pos h];exact k1) (.cons (by unfold dO;rw[if_pos h];exact k2) (.cons (ug.2 (.inr ⟨decide_eq_true h,k3⟩)) g3))⟩
def FN(G:Gh)(y:Value)(k:Is G (.ag [vI 0,vI 0, .v (.pointer none)]) y):Is G (eF 0) y:=ut (fun h=>KC h J) J J J G y k
def Oe{m:Int}(h:m.natAbs<4611686018427387904)(G:Gh)(y:Value)(k:Is G (.ag [vI m,vI 0, .v (.pointer none)]) y):Is G (eF (m:Rat)) y:=
 ut (fun k=>k ⟨by simpa using h,by rw[lM];decide⟩) (lL m) (by rw[lM];rfl) J G y k
def RG{n:Bool}{a d:Nat}(hd:0<d):(mkRat (zv n a) d).num=zv n (a/Nat.gcd a d)/\(mkRat (zv n a) d).den=d/Nat.gcd a d:=by
 obtain⟨h1,h2⟩:=RB (m:=zv n a) hd;rw[tn] at h1 h2;exact⟨by rw[h1,aGS (lK _ _)],h2⟩
def PU{n:Bool}{a d a' d':Nat}(hd:0<d)(ha:a'=a/Nat.gcd a d)(hd':d'=d/Nat.gcd a d)(h1:a'<4611686018427387904)(h2:d'<4611686018427387904)(G:Gh)(y:Value)(k:Is G (.ag [vI (zv n a'),vI ((d':Int)-1), .v (.pointer none)]) y):Is G (eF (mkRat (zv n a) d)) y:=by
 obtain⟨e1,e2⟩:=RG (n:=n) (a:=a) hd;rw[<-ha] at e1;rw[<-hd'] at e2;exact ut (fun k=>k ⟨by rw[e1,tn];exact h1,by rw[e2];exact h2⟩) e1 (by rw[e2]) J G y k
def HJ{n:Bool}{a d a' d':Nat}(hd:0<d)(ha:a'=a/Nat.gcd a d)(hd':d'=d/Nat.gcd a d)(h: ¬(a'<4611686018427387904/\d'<4611686018427387904))(G:Gh)(y:Value)(k:Is G (.ag [vI 0,vI 0, .pt [.v (.bool (decide (zv n a'<0))),dN (zv n a').natAbs,dN d']]) y):Is G (eF (mkRat (zv n a) d)) y:=by
 obtain⟨e1,e2⟩:=RG (n:=n) (a:=a) hd;rw[<-ha] at e1;rw[<-hd'] at e2;exact SJ (fun k=>h ⟨by rw[e1,tn] at k;exact k.1,by rw[e2] at k;exact k.2⟩) (by rw[e1]) (by rw[e1]) e2 J G y k
def aNe{a d:Nat}(hd:0<d)(h: ¬(1:Int)<(bl (Nat.gcd a d):Nat)):Nat.gcd a d=1:=by
 have h1:Nat.gcd a d≠0:=fun e=>by rw[Nat.gcd_eq_zero_iff] at e;omega
 have h2:Nat.gcd a d<2^1:=pn.1 we;omega
def oy{x:Nat}:(((bl x:Nat):Int)<=62)↔x<4611686018427387904:=WW
def PF.ofI{P:Program}{f:FuncId}{ds ds':List DV}{r:DV}(h:PF GB P f ds r)(k: ∀G vs,IsLs G ds' vs->IsLs G ds vs):PF GB P f ds' r:=fun G vs hg hv=>h G vs hg (k G vs hv)
def xi{n:Bool}{a d i j:Nat}[h:BN a i][k:BN d j](hi:i<=450000000:=by decide)(hj:j<=450000000:=by decide):PF GB prog 185 [eS n a,dN d] (eF (mkRat (zv n a) d)):=by
 refine fn func185 J J ntmps185 J J (fun C=>?_);refine cl J (vW (a:=d) we) J<|cs 13 J J J (fun hg13=>?_) (fun hg13=>?_)
 .
  exact kg rfl (by obtain rfl:=Lb.1 (Int.ofNat.inj hg13);rw[Rat.mkRat_zero];exact FN)
 .
  have hd0:0<d:=by have:= @Lb d;omega
  have hg0:0<Nat.gcd a d:=rJ _ hd0;refine cl J (TJ (n:=n) (a:=a) we) J<|br J J J (fun hc17=>?_) (fun hc17=>?_)
  .
   exact kg J (by rw[iV.1 hc17,Rat.zero_mkRat];exact FN)
  .
   refine cl J (LY (a:=a) (b:=d) we we) J<|cl J (vW (a:=Nat.gcd a d) (i:=i+j) we) J<|br J J J (fun hc25=>?_) (fun hc25=>?_)
   .
    obtain⟨a',ea⟩: ∃a',a'=a/Nat.gcd a d:=⟨_,rfl⟩;obtain⟨d',ed⟩: ∃d',d'=d/Nat.gcd a d:=⟨_,rfl⟩;have hba:BN a' i:=ea▸inferInstance;have hbd:BN d' j:=ed▸inferInstance;refine cl (fu:=⟨2⟩) J (Ft (a:=a) (b:=Nat.gcd a d) (j:=i+j) hg0 we we) J<|aj 31 (.d (dN a')) J (by rw[ea])<|gx J<|cl (fu:=⟨2⟩) J (Ft (a:=d) (b:=Nat.gcd a d) (j:=i+j) hg0 we we) J<|aj 39 (.d (dN d')) J (by rw[ed])<|gx J<|cl J (vW (h:=hba) we) J<|cs 46 J J J (fun hg46=>?_) (fun hg46=>?_)
    .
     refine cl J (vW (h:=hbd) we) J<|br J J J (fun hc50=>?_) (fun hc50=>?_)
     .
      have hs2:=oy.1 hc50;refine cl J (SY (oy.1 hg46)) J<|cl J (DF (by have:=oy.1 hc50;omega)) J<|kg J (PU hd0 ea ed (oy.1 hg46) (oy.1 hc50))
     .
      refine cl J (A3 (neg:=n) (h:=hba) we) J<|cl J (w9 (h:=hbd) we) J<|fz 71 J J<|kg J (HJ hd0 ea ed (fun e=>hc50 (oy.2 e.2)))
    .
     refine cl J (A3 (neg:=n) (h:=hba) we) J<|cl J (w9 (h:=hbd) we) J<|fz 71 J J<|kg J (HJ hd0 ea ed (fun e=>hg46 (oy.2 e.1)))
   .
    have hg1:=aNe hd0 hc25;have ea:a=a/Nat.gcd a d:=by rw[hg1,uN]
    have ed:d=d/Nat.gcd a d:=by rw[hg1,uN]
    have hba:=h;have hbd:=k;refine cl J (vW (h:=hba) we) J<|cs 46 J J J (fun hg46=>?_) (fun hg46=>?_)
    .
     refine cl J (vW (h:=hbd) we) J<|br J J J (fun hc50=>?_) (fun hc50=>?_)
     .
      have hs2:=oy.1 hc50;refine cl J (SY (oy.1 hg46)) J<|cl J (DF (by have:=oy.1 hc50;omega)) J<|kg J (PU hd0 ea ed (oy.1 hg46) (oy.1 hc50))
     .
      refine cl J (A3 (neg:=n) (h:=hba) we) J<|cl J (w9 (h:=hbd) we) J<|fz 71 J J<|kg J (HJ hd0 ea ed (fun e=>hc50 (oy.2 e.2)))
    .
     refine cl J (A3 (neg:=n) (h:=hba) we) J<|cl J (w9 (h:=hbd) we) J<|fz 71 J J<|kg J (HJ hd0 ea ed (fun e=>hg46 (oy.2 e.1)))
theorem oko{p:Prop}(h:p:=by rw[mp,show mkRat m 1=(m:Rat) from tV ..];rfl):p:=h
def KD{m:Int}{i:Nat}[h:BI m i](hi:i<=400000000:=by decide):PF GB prog 216 [eI m] (eF (m:Rat)):=by
 refine fn func216 J J ntmps216 J J (fun C=>?_);refine rf (fu:=⟨0⟩) J J<|aj 4 (.d (dN 1)) J okL<|gx J<|cl J (xi (n:=decide (m<0)) (a:=m.natAbs) (d:=1) we) J<|rz J oko
def Dj{q:Rat}:PF GB prog 168 [eF q] (vB (decide (q=0))):=by
 refine fn func168 J J ntmps168 J J (fun C=>?_);refine cs 6 J J J (fun hg6=>?_) (fun hg6=>?_)
 .
  exact rz J (by rw[ou (uk hg6)];show DV.v (.bool (decide _))= .v (.bool _);congr 2;exact decide_eq_decide.2 ⟨fun e=>mT.1 e,fun e=>by rw[e];rfl⟩)
 .
  exact rz J (by rw[decide_eq_false (KC (Yr hg6))];rfl)
def B8{m:Int}(h:m.natAbs<9223372036854775808:=by omega):PF GB prog 226 [vI m] (.v (.int .u64 (m.natAbs:Nat))):=by
 refine fn func226 J J ntmps226 J J (fun C=>?_);refine br J J J (fun hc4=>?_) (fun hc4=>?_)
 .
  exact rz J (by show DV.v (.int _ _)=_;congr 2;omega)
 .
  exact rz J (by show DV.v (.int _ _)=_;congr 2;omega)
def tv{q:Rat}{i:Nat}[h:BQ q i](hi:i<=900000000:=by decide):PF GB prog 184 [eF q] (dN q.den):=by
 refine fn func184 J J ntmps184 J J (fun C=>?_);refine br (v1:=fun hc5=>by simp only[ak];exact hc5) (fu2:=⟨6⟩) J J J (fun hc5=>?_) (fun hc5=>?_)
 .
  refine cl J (w9 (a:=q.den) we) J<|rz J J
 .
  have hd:=q.den_nz;have hs:=rj (oH hc5);refine aj 13 (.d (vI ((q.den:Int)-1))) J (by rw[qh (oH hc5)])<|gx (fu:=⟨2⟩) J<|aj 15 (.d (.v (.int .u64 (q.den:Nat)))) J omI<|gx J<|cl J (DQ (a:=q.den)) J<|rz J J
def uF{q:Rat}{i:Nat}[h:BQ q i](hi:i<=900000000:=by decide):PF GB prog 164 [eF q] (eI q.num):=by
 refine fn func164 J J ntmps164 J J (fun C=>?_);refine br (v1:=fun hc5=>by simp only[ak];exact hc5) (fu2:=⟨6⟩) J J J (fun hc5=>?_) (fun hc5=>?_)
 .
  refine cl J (A3 (neg:=decide (q.num<0)) (a:=q.num.natAbs) we) J<|rz J (by rw[mp];rfl)
 .
  have hs:=qF (oH hc5);refine aj 13 (.d (vI q.num)) J (by rw[ou (oH hc5)])<|gx J<|cl J (LW) J<|rz J J
def qg{q:Rat}{i:Nat}[h:BQ q i](hi:i<=900000000:=by decide):PF GB prog 122 [eF q] (eF (-q)):=by
 refine fn func122 J J ntmps122 J J (fun C=>?_);refine br (v1:=fun hc5=>by simp only[ak];exact hc5) (fu2:=⟨6⟩) J J J (fun hc5=>?_) (fun hc5=>?_)
 .
  refine cl (fu:=⟨6⟩) (hv:=by simp only[ak];exact hc5) J (aI9 (m:=q.num) we) J<|GY J J<|kg J (SJ (q:= -q) (fun k=>bgT hc5 (by rw[oW,kQ,tU] at k;exact k)) (by rw[oW]) (by rw[oW]) (tU q) J)
 .
  have hs:=qF (oH hc5);refine aj 21 (.d (vI q.num)) J (by rw[ou (oH hc5)])<|gx J<|kg J (ut (q:= -q) (fun k=>k (by rw[oW,kQ,tU];exact⟨hs,rj (oH hc5)⟩)) (by rw[oW]) (by rw[tU,qh (oH hc5)]) J)
def nv{q:Rat}{i:Nat}[h:BQ q i](hi:i<=900000000:=by decide):PF GB prog 174 [eF q] (vI q.num.sign):=by
 refine fn func174 J J ntmps174 J J (fun C=>?_);refine br (v1:=fun hc3=>by simp only[ak];exact hc3) J J J (fun hc3=>?_) (fun hc3=>?_)
 .
  refine cl J (TJ (n:=decide (q.num<0)) (a:=q.num.natAbs) we) J<|rz J (by rw[mp];rfl)
 .
  have hs:=ou (oH hc3);refine br J J J (fun hc13=>?_) (fun hc13=>?_)
  .
   exact rz J (by rw[fQ we];rfl)
  .
   refine br J J J (fun hc17=>?_) (fun hc17=>?_)
   .
    exact rz J (by rw[gQ we];rfl)
   .
    exact rz J (by rw[show q.num=0 by omega];rfl)
def art{a b:Nat}(h:b<=a):(dg b).length<=(dg a).length:=CF (dR h (s7 a))
def BF{a b ia ib:Nat}[ha:BN a ia][hb:BN b ib](hb0:0<b)(hi:ia<=500000000:=by decide)(hj:ib<=500000000:=by decide):PF GB prog 148 [dN a,dN b] (.tp [dN (a/b),dN (a%b)]):=by
 have hla:=b8 (dg a);have hlb:=b8 (dg b);have hba:=kA ha.h;have hbb:=kA hb.h;have hba':(dg a).length<=20000000:=by omega
 have hbb':(dg b).length<=20000000:=by omega
 have hlb1:1<=(dg b).length:=Rf (k:=0) (by rw[uW];exact hb0);refine fn (fu:=⟨7⟩) func148 J J ntmps148 J J (fun C=>?_);refine mg (X:=Unit) (fun _=>[(0, .d (dN a)),(1, .d (dN b))]) (fun _=>[]) (fun _=>True) [0,1] [] rfl ?_ (fun _=>J) (fun _ hm=>?_)
 .
  refine gx J<|cl J (FF (a:=a) (ia:=ia) we) J<|bd (fu1:=⟨0⟩) J J J (fun hc18=>?_) (fun hc18=>?_)
  .
   refine aj 6 (.d (.v (.int .u64 (a:Nat)))) J (by rw[if_pos hc18])<|gx J<|cl J (FF (a:=b) (ia:=ib) we) J<|bd (fu1:=⟨0⟩) J J J (fun hc24=>?_) (fun hc24=>?_)
   .
    refine aj 8 (.d (.v (.int .u64 (b:Nat)))) J (by rw[if_pos hc24]) ?_;have hdl:=nK a b;have hml:=Nat.mod_le a b;refine gx (hv:=by simp only[ak];exact⟨we,we,we⟩) J<|cl (hv:=by simp only[ak];exact⟨we,we⟩) J (vZ (u:=a/b)) J<|cl J (vZ (u:=a%b)) J<|rz J J
   .
    exact at_ () trivial
  .
   exact at_ () trivial
 .
  refine cl J (BJ) J<|br J J J (fun hc36=>?_) (fun hc36=>?_)
  .
   have hab:=AV.1 hc36;refine oG J J<|ap _ J J (tC _) J<|gw 39 J<|rz J (by show DV.tp [_, .sl ([]++_)]= .tp [_,_];rw[mM hab,kY hab,mH];rfl)
  .
   have hab:b<=a:=tJ fun q=>hc36 (AV.2 q);have hlab:(dg b).length<=(dg a).length:=art hab;refine br (fu1:=⟨4⟩) J J J (fun hc42=>?_) (fun hc42=>?_)
   .
    have hb1:b<4294967296:=by have:=s7 b;rw[show(dg b).length=1 by omega] at this;omega
    have hbd:(dg b).getD 0 0=b:=xq;refine aj 44 (.d (vI ((dg a).length:Nat))) J omT<|gx J<|mk (fu:=⟨13⟩) ((List.replicate (dg a).length 0).map dU) J J omH J<|aj 47 (.d (vI ((dg a).length:Nat))) J omT<|gx J<|lp (X:=List Nat×Nat) (fun⟨W,k⟩=>[(0, .d (dN a)),(1, .d (dN b)),(10, .rw 45),(11, .d (dU (dv ((dg a).drop k)%b))),(12, .d (vI ((k:Nat)-1)))]) (fun⟨W,k⟩=>[(45,some (.b 245 1 (W.map dU) true))]) (fun⟨W,k⟩=>W.length=(dg a).length/\bH W/\k<=(dg a).length/\dv (W.drop k)=dv ((dg a).drop k)/b) (fun⟨W,k⟩=>k) ⟨List.replicate (dg a).length 0,(dg a).length⟩ J ⟨omc, .replicate _,bV _,by simp[dv]⟩ (fun _=>J) (fun⟨W,k⟩ hk=>?_) (hF:=(by refine⟨J,J,J,qq J (by simp[dv,dU]),qq J (by simp[vI]),?_⟩;repeat (first|exact trivial|refine And.intro J ?_)))
    try dsimp only at hk⊢
    obtain⟨h1,h2,h3,h4⟩:=hk;have hlw:=b8 W;refine br (fu1:=⟨0⟩) J J J (fun hc50=>?_) (fun hc50=>?_)
    .
     obtain⟨k,rfl⟩: ∃j,k=j+1:=⟨k-1,we⟩;have hsi:=Wc hb0 we h1 h4;have hrm:=dW (dv ((dg a).drop (k+1))) hb0;have hdk:=eh a k;have hqd:(dv ((dg a).drop (k+1))%b*4294967296+(dg a).getD k 0)/b<4294967296:=by rw[kS hb0];have:=fV 4294967296 (show dv ((dg a).drop (k+1))%b+1<=b from hrm);omega
     refine aj 12 (.d (vI (k:Nat))) J (omi we)<|gx J<|ix _ J (cP (k:=k)) J<|ix _ J (cP (k:=0) J we) J<|cl J (aGi (h:=dv ((dg a).drop (k+1))%b) (l:=(dg a).getD k 0) (y:=(dg b).getD 0 0) we hdk we) J<|sb (hv:=by simp only[ak];exact⟨omd,we⟩) _ ((W.set k ((dv ((dg a).drop (k+1))%b*4294967296+(dg a).getD k 0)/b)).map dU) J (cP (k:=k)) J (by(rw[hbd,cK,<-j0])<;>rfl) J<|at_ ⟨W.set k ((dv ((dg a).drop (k+1))%b*4294967296+(dg a).getD k 0)/b),k⟩ (by dsimp only;exact⟨⟨by simpa using h1,h2.set _ hqd,we,hsi.1⟩,we⟩) (by refine⟨J,J,J,qq J (by rw[hsi.2,hbd]),qq J (by first|(simp[vI];done)|(simp[vI];omega)),?_⟩;repeat (first|exact trivial|refine And.intro J ?_))
    .
     refine fz 45 J J<|cl rfl (sC (ds:=W)) rfl<|rf J J<|cl rfl (sC (ds:=[dv ((dg a).drop k)%b]) omc) rfl<|rz rfl (by show DV.tp [d6 _,d6 _]= .tp [_,_];obtain rfl:k=0:=we;rw[iS,iS,dm] at h4;rw[iS,dm];rw[mh h2 h4,mh (.cons (by have:=dW a hb0;omega) .nil) (n:=a%b) (by simp[dv])])
   .
    refine cl J (aGM we we hlb1 hlab) J<|rz J J
def Nl(x y:Nat):Nat.gcd y (x%y)=Nat.gcd x y:=by rw[jL x y,uM y x,jL]
def CU{a b ia ib:Nat}[ha:BN a ia][hb:BN b ib](hi:ia<=240000000:=by decide)(hj:ib<=240000000:=by decide):PF GB prog 147 [dN a,dN b] (dN (Nat.gcd a b)):=by
 refine fn (fu:=⟨6⟩) func147 J J ntmps147 J J (fun C=>?_);refine mg (X:=Unit) (fun _=>[(0, .d (dN a)),(1, .d (dN b))]) (fun _=>[]) (fun _=>True) [0,1] [] rfl ?_ (fun _=>J) (fun _ hm=>?_)
 .
  refine gx J<|cl J (FF (a:=a) (ia:=ia) we) J<|bd (fu1:=⟨0⟩) J J J (fun hc16=>?_) (fun hc16=>?_)
  .
   refine aj 5 (.d (.v (.int .u64 (a:Nat)))) J (by rw[if_pos hc16])<|gx J<|cl J (FF (a:=b) (ia:=ib) we) J<|bd (fu1:=⟨0⟩) J J J (fun hc22=>?_) (fun hc22=>?_)
   .
    refine aj 7 (.d (.v (.int .u64 (b:Nat)))) J (by rw[if_pos hc22])<|gx J<|lp (X:=Nat×Nat) (fun⟨x,y⟩=>[(5, .d (.v (.int .u64 (x:Nat)))),(7, .d (.v (.int .u64 (y:Nat))))]) (fun⟨x,y⟩=>[]) (fun⟨x,y⟩=>x<18446744073709551616/\y<18446744073709551616/\Nat.gcd x y=Nat.gcd a b) (fun⟨x,y⟩=>y) ⟨a,b⟩ J ⟨hc16,hc22,J⟩ (fun _=>J) (fun⟨x,y⟩ hk=>?_)
    try dsimp only at hk⊢
    obtain⟨h1,h2,h3⟩:=hk;refine br (v1:=fun hc24=>by simp only[ak];exact⟨⟨we,we⟩,omd⟩) J J J (fun hc24=>?_) (fun hc24=>?_)
    .
     exact at_ ⟨y,x%y⟩ (by dsimp only;exact⟨⟨h2,by have:=dW x (show 0<y by omega);omega,by rw[Nl,h3]⟩,(by exact dW _ we)⟩)
    .
     refine cl J (vZ (u:=x) h1) J<|rz J (by show dN x=_;rw[<-h3,show y=0 by omega,nM])
   .
    exact at_ () trivial
  .
   exact at_ () trivial
 .
  refine lp (fu:=⟨5⟩) (X:=Nat×Nat) (fun⟨x,y⟩=>[(0, .d (dN x)),(1, .d (dN y))]) (fun⟨x,y⟩=>[]) (fun⟨x,y⟩=>x<2^(ia+ib)/\y<2^(ia+ib)/\Nat.gcd x y=Nat.gcd a b) (fun⟨x,y⟩=>y) ⟨a,b⟩ J ⟨(ha.mono we).h,(hb.mono we).h,J⟩ (fun _=>J) (fun⟨x,y⟩ hk=>?_)
  try dsimp only at hk⊢
  obtain⟨h1,h2,h3⟩:=hk;have hly:=b8 (dg y);haveI hx':BN x (ia+ib):=⟨h1⟩;haveI hy':BN y (ia+ib):=⟨h2⟩;refine aj 32 (.d (vI ((dg y).length:Nat))) J (by rw[hly];rfl)<|gx J<|br J J J (fun hc33=>?_) (fun hc33=>?_)
  .
   have hy0:0<y:=iM fun q=>by subst q;rw[xd] at hc33;simp at hc33
   refine cl J (BF (a:=x) (b:=y) (ia:=ia+ib) (ib:=ia+ib) hy0 we we) J<|at_ ⟨y,x%y⟩ (by dsimp only;exact⟨⟨h2,by have:=dW x hy0;omega,by rw[Nl,h3]⟩,(by exact dW _ hy0)⟩)
  .
   have hy0:y=0:=wv.1 we;have hlx:=kA h1;have hmx:=b8 (dg x);refine oG J J<|ap _ J J (tC _) J<|gw 44 J<|rz J (by show DV.sl ([]++_)=_;rw[<-h3,hy0,nM];rfl)
def Pb(neg:Bool)(m:Nat):eI (zv neg m)= .ag [.v (.bool (neg&&decide (0<m))),dN m]:=by unfold eI;rw[tn,VX]
def Zv(z:Int):zv (!decide (z<0)) z.natAbs= -z:=by
 unfold zv;by_cases h:z<0<;>simp[h]<;>omega
def aGu(a b:Int):zv (!(decide (a<0)==decide (b<0))) (a.natAbs*b.natAbs)=a*b:=by
 have h:=Po (decide (a<0)) (decide (b<0)) a.natAbs b.natAbs;rw[mp,mp] at h;exact h
def kG{neg:Bool}{m:Nat}:PF GB prog 89 [.v (.bool neg),dN m] (eI (zv neg m)):=by
 have hl:=b8 (dg m);have hz:= @wv m;refine fn func89 J J ntmps89 J J (fun C=>?_);refine ja 6 J J J (fun hg6=>?_) (fun hg6=>?_)
 .
  exact rz J (by rw[Pb,hg6];show DV.ag [.v (.bool _),_]= .ag [.v (.bool _),_];congr 4;rw[pS];exact decide_eq_decide.2 we)
 .
  exact rz J (by rw[Pb,hg6];rfl)
structure KU where
 lo:RV
 hi:RV
 nl:Bool
 nh:Bool
def KU.v(z:KU):Value:= .agg ⟨[.int .i64 z.lo.n, .int .i64 z.lo.d, .pointer z.lo.p, .int .i64 z.hi.n, .int .i64 z.hi.d, .pointer z.hi.p, .bool z.nl, .bool z.nh]⟩
section
variable {P:Program} {C:aH} {n:Nat} {fr:Fr} {own own' own1:List aA} {G:Gh} {Φ:Act->World->Prop}
variable {dst:Option Nat} {t t' ty':TypeId} {pos:String} {af:Array Edge} {gd:Option (Nat×Bool)} {x y:Operand} {e s by_:Nat}
end

structure QO where
 l:LV
 v:KU
def QO.val(z:QO):Value:= .agg ⟨[.int .i64 z.l.a.n, .int .i64 z.l.a.d, .pointer z.l.a.p, .int .i64 z.l.b.n, .int .i64 z.l.b.d, .pointer z.l.b.p, .int .i64 z.l.c.n, .int .i64 z.l.c.d, .pointer z.l.c.p, .int .i64 z.v.lo.n, .int .i64 z.v.lo.d, .pointer z.v.lo.p, .int .i64 z.v.hi.n, .int .i64 z.v.hi.d, .pointer z.v.hi.p, .bool z.v.nl, .bool z.v.nh]⟩
inductive iB {α β:Type} (R:α->β->Prop):List α->List β->Prop
 |nil:iB R [] []
 |cons {a b us bs} (h:R a b) (t:iB R us bs):iB R (a::us) (b::bs)
def iB.len{α β:Type}{R:α->β->Prop}{us:List α}{bs:List β}(h:iB R us bs):us.length=bs.length:=by
 induction h with
 |nil=>rfl
 |cons _ _ ih=>simp[ih]
def iB.imp{α β:Type}{R S:α->β->Prop}{us:List α}{bs:List β}(h:iB R us bs)(k: ∀a b,R a b->S a b):iB S us bs:=by
 induction h with
 |nil=>exact .nil
 |cons h _ ih=>exact .cons (k _ _ h) ih
def iB.get{α β:Type}{R:α->β->Prop}{us:List α}{bs:List β}(h:iB R us bs){i:Nat}{b:β}(hi:bs[i]? =some b): ∃a,us[i]? =some a/\R a b:=by
 induction h generalizing i with
 |nil=>simp at hi
 | @cons a b' us bs h t ih=>
  cases i with
  |zero=>simp at hi;subst hi;exact⟨a,J,h⟩
  |succ i=>simpa using ih (i:=i) omU
def iB.app{α β:Type}{R:α->β->Prop}{us us':List α}{bs bs':List β}(h:iB R us bs)(k:iB R us' bs'):iB R (us++us') (bs++bs'):=by
 induction h with
 |nil=>exact k
 |cons h _ ih=>exact .cons h ih

section
variable {P:Program} {C:aH} {n:Nat} {fr:Fr} {own own':List aA} {G:Gh} {Φ:Act->World->Prop}
variable {dst:Option Nat} {t t' ty':TypeId} {pos:String} {af:Array Edge} {gd:Option (Nat×Bool)} {x y:Operand} {e s by_:Nat}
def azS{o1 o2:aA}{rest:List aA}(h:o1.b≠o2.b->St C n fr (o1::o2::rest) G Φ):St C n fr (o1::o2::rest) G Φ:=
 fun a w rl=>h ((cZ.1 rl.h.nd).1 _ aQ) a w rl
def D8[hT:cE P t e s by_]{k:IntKind}{b off len cap:Nat}{l:Int}(hx:aE fr x=some (.slice (some ⟨b,off,none⟩) len cap))(hy:aE fr y=some (.int k l))(h0:0<=l:=by omega)(h1:l<=len:=by omega)(h2:l<cap:=by omega):
  Yd P C fr own G ⟨dst, .slice t x (some y) none none,ty',pos,af,gd⟩ (.slice (some ⟨b,off+l.toNat*s,none⟩) (len-l.toNat) (cap-l.toNat)):=by
 have h:=Lo (P:=P) (C:=C) (own:=own) (G:=G) (t:=t) (dst:=dst) (ty':=ty') (pos:=pos) (af:=af) (gd:=gd) (by_:=by_) hx hy h0 h1;unfold nP at h;rw[if_neg we] at h;simpa[si] using h
end

section
variable {P:Program} {C:aH} {n:Nat} {fr:Fr} {own own':List aA} {G:Gh} {Φ:Act->World->Prop}
variable {dst:Option Nat} {t t' ty':TypeId} {pos:String} {af:Array Edge} {gd:Option (Nat×Bool)} {x y:Operand} {e s by_:Nat}
end


structure ND where
 a:IV
 b:IV
 c:IV
 l:Int
 r:Int
def ND.val(z:ND):Value:= .agg ⟨[.bool z.a.neg, .slice z.a.a.a z.a.a.n z.a.a.c, .bool z.b.neg, .slice z.b.a.a z.b.a.n z.b.a.c, .bool z.c.neg, .slice z.c.a.a z.c.a.n z.c.a.c, .int .i64 z.l, .int .i64 z.r]⟩
structure r8 (k:Nat) (G:Gh) (z:ND) (n:NQ):Prop where
 a:qC k G z.a n.l.a
 b:qC k G z.b n.l.b
 c:qC k G z.c n.l.c
 l:z.l=n.a
 r:z.r=n.b
def r8.up{k:Nat}{A G:Gh}{z:ND}{n:NQ}(h:r8 k A z n)[GL A G]:r8 k G z n:=⟨h.a.up,h.b.up,h.c.up,h.l,h.r⟩
structure aMS (k:Nat) (G:Gh) (x:SV) (ns:List NQ):Prop where
 ex: ∃zs:List ND,gt G 8 x (zs.map ND.val)/\iB (r8 k G) zs ns

def ND.len8(zs:List ND): ∀v∈zs.map ND.val,(aO v).length=8:=fun v hv=>by
 obtain⟨f,_,rfl⟩:=aU.1 hv;rfl
def ND.flat(zs:List ND): ∀v∈zs.map ND.val,∀c∈aO v,Sx.flat c=true:=fun v hv c hc=>by
 obtain⟨f,_,rfl⟩:=aU.1 hv;simp only[ND.val,aO,aW,dK,or_false] at hc;rcases hc with rfl|rfl|rfl|rfl|rfl|rfl|rfl|rfl<;>rfl
def iB.set{α β:Type}{R:α->β->Prop}{us:List α}{bs:List β}(h:iB R us bs){a:α}{b:β}(hr:R a b)(i:Nat):iB R (us.set i a) (bs.set i b):=by
 induction h generalizing i with
 |nil=>simp;exact .nil
 |cons h t ih=>
  cases i with
  |zero=>exact .cons hr t
  |succ i=>exact .cons h (ih i)
def Tx(zs:List ND)(rest:List Value)(i j:Nat)(x:Value)(z:ND)(hi:i<zs.length)(hj:j<8)(hz:aO z.val=(aO (zs[i]).val).set j x):
  (aI (zs.map ND.val)++rest).set (i*8+j) x=aI ((zs.set i z).map ND.val)++rest:=by
 have hi':i<(zs.map ND.val).length:=by simpa using hi
 rw[Th hj _ i hi' (ND.len8 zs),qV,<-hz,kK,List.set_eq_take_append_cons_drop,if_pos hi',pq];have e:aI (z.val::(zs.map ND.val).drop (i+1))=aO z.val++aI ((zs.map ND.val).drop (i+1)):=by simp[aI]
 rw[e];simp[dT]
def pk(ob wb:Nat):Value:= .func (.func 105) #[] #[.pointer (some ⟨ob,0,none⟩), .pointer (some ⟨wb,0,none⟩)]
structure Qa where
 x:SV
 p:Option Addr
def Qa.val(z:Qa):Value:= .agg ⟨[.slice z.x.a z.x.n z.x.c, .pointer z.p]⟩
structure LI where
 a:IV
 b:IV
 c:IV
def LI.val(z:LI):Value:= .agg ⟨[.bool z.a.neg, .slice z.a.a.a z.a.a.n z.a.a.c, .bool z.b.neg, .slice z.b.a.a z.b.a.n z.b.a.c, .bool z.c.neg, .slice z.c.a.a z.c.a.n z.c.a.c]⟩
def Ab{a b:Int}(h:a=b):eI a=eI b:=by rw[h]
def HP(z:Int):eQ (z:Rat)= .ag [.v (.bool (decide (z<0))),dN z.natAbs, .sl []]:=by unfold eQ;rw[lL,lM];rfl
def EJ{a:Rat}(h:a.den=1):((a.num:Int):Rat)=a:=Rat.ext (lL _) (by rw[lM,h])
def aBL{a b:Rat}(ha:a.den=1)(hb:b.den=1):a+b=((a.num+b.num:Int):Rat):=by
 rw[lS,EJ ha,EJ hb]
def Xa{a b:Rat}(ha:a.den=1)(hb:b.den=1):a*b=((a.num*b.num:Int):Rat):=by
 rw[bS,EJ ha,EJ hb]
def AT(n:Nat)(h:0<n):(if n=1 then [] else(dg n).map dU).length=0↔n=1:=by
 by_cases q:n=1
 .simp[q]
 .rw[if_neg q,aX,wv];omega
def Pq{n:Nat}(h:n≠1):dD n=dN n:=by unfold dD;rw[if_neg h];rfl
def M8{g:Nat}:(jk g 1=0)↔g=1:=by
 unfold jk;constructor
 .intro h;split at h
  .exact absurd h oma
  .split at h
   .assumption
   .exact absurd h oma
 .rintro rfl;rfl
def P2{x:Int}{d:Nat}(hd:0<d):zv (decide (x<0)) (x.natAbs/Nat.gcd x.natAbs d)=(mkRat x d).num:=by
 rw[Rat.num_mkRat,if_neg we,jL];have hg:0<Nat.gcd d x.natAbs:=nJ _ hd;obtain⟨c,hc⟩:Nat.gcd d x.natAbs∣x.natAbs:=mK _ _;generalize Nat.gcd d x.natAbs=g at*;rw[hc,rN _ hg];unfold zv;by_cases q:x<0
 .rw[if_pos (by simpa using q),show x=(g:Int)*(-(c:Int)) by rw[tY,<-jJ];omega,Int.mul_ediv_cancel_left _ we]
 .rw[if_neg (by simpa using q),show x=(g:Int)*(c:Int) by rw[<-jJ];omega,Int.mul_ediv_cancel_left _ we]
def TC{x:Int}{d:Nat}(hd:0<d):d/Nat.gcd x.natAbs d=(mkRat x d).den:=by
 rw[Rat.den_mkRat,if_neg we,jL]
def XI{x:Int}{d:Nat}(hd:0<d)(h:Nat.gcd x.natAbs d=1):(mkRat x d).num=x/\(mkRat x d).den=d:=by
 rw[<-P2 hd,<-TC hd,h,uN,uN];exact⟨mp x,J⟩
instance BI.zv (neg:Bool) (m i:Nat) [h:BN m i]:BI (zv neg m) i:=⟨by rw[tn];exact h.h⟩
section
variable {GB:Gh} {C:aH} {n:Nat} {Q0:Exit->Act->World->Prop} {fr fr':aF} {own own':bh} {cf cf':Cf} {vc:List Prop}
def Ua(fr:aF)(cf:Cf):Option Int:=match di fr cf with
 |some ⟨_, .convert t t' x,_,_,_,_⟩=>match eo tt t,eo tt t' with
  |some ⟨.int .i64,_,_,_⟩,some ⟨.int .u64,_,_,_⟩=>match bt (ck fr cf) x with
   |some (.d (.v (.int .i64 p)))=>some p
   |_=>none
  |_,_=>none
 |_=>none
def cvw[fu:Fu]{p:Int}(q:Int)(h:Ua fr cf=some p)(e:p%18446744073709551616=q)(hgo:c6 tt n fu.n fr own cf (.d (.v (.int .u64 q))) [] []=⟨vc,fr',own',cf'⟩)(k:av prog GB C n Q0 fr' own' cf')
  (hv:ak vc:=by first|exact trivial|(simp only[ak];omega)):av prog GB C n Q0 fr own cf:=by
 unfold Ua at h;split at h<;>try (cases h;done)
 rename_i hh;split at h<;>try (cases h;done)
 rename_i hT hT';split at h<;>cases h;rename_i hx;have:=AG (fi _ _ hT) J;have:=AG (fi _ _ hT') J;refine us hh (.x1 hx fun ρ G ov a w y _ r h1 h2=>?_) hgo hv k;rw[dl] at h2;subst h2;refine⟨_,dl.2 J,?_⟩;rw[<-e,<-sI];exact F2 h1
def S4(fr:aF)(cf:Cf):Option Int:=match di fr cf with
 |some ⟨_, .unOp .neg _ x,_,_,_,_⟩=>match bt (ck fr cf) x with
  |some (.d (.v (.int .u64 p)))=>some p
  |_=>none
 |_=>none
def ngw[fu:Fu]{p:Int}(q:Int)(h:S4 fr cf=some p)(e:(0-p)%18446744073709551616=q)(hgo:c6 tt n fu.n fr own cf (.d (.v (.int .u64 q))) [] []=⟨vc,fr',own',cf'⟩)(k:av prog GB C n Q0 fr' own' cf')
  (hv:autoParam (ak vc) cvw._auto_1):av prog GB C n Q0 fr own cf:=by
 unfold S4 at h;split at h<;>try (cases h;done)
 rename_i hh;split at h<;>cases h;rename_i hx;refine us hh (.x1 hx fun ρ G ov a w y _ r h1 h2=>?_) hgo hv k;rw[dl] at h2;subst h2;refine⟨_,dl.2 J,?_⟩;rw[<-e,<-sI];exact LJ h1
end
def aK1{n:Int}(h0: -4611686018427387904<=n)(h1:n<=4611686018427387904):PF GB prog 52 [.v (.int .i64 n)] (eI n):=by
 refine fn func52 J J ntmps52 J J (fun C=>?_);refine br (fu1:=⟨3⟩) (fu2:=⟨6⟩) J J J (fun hc4=>?_) (fun hc4=>?_)
 .
  refine cvw (fu:=⟨0⟩) (18446744073709551616+n) J we J<|ngw (n.natAbs:Nat) J we J<|cl J (vZ (u:=n.natAbs)) J<|cl J kG J<|rz J (Ab (by unfold zv;rw[if_pos J];omega))
 .
  refine aj 11 (.d (.v (.int .u64 (n.natAbs:Nat)))) J (omi we)<|gx J<|cl J (vZ (u:=n.natAbs)) J<|cl J kG J<|rz J (Ab (by unfold zv;rw[if_neg oma];omega))
def BS{z:Int}:PF GB prog 128 [eI z] (vI z.sign):=by
 have hl:=b8 (dg z.natAbs);have hz:= @wv z.natAbs;refine fn func128 J J ntmps128 J J (fun C=>?_);refine br J J J (fun hc6=>?_) (fun hc6=>?_)
 .
  exact rz J okP
 .
  refine bd J J J (fun hc8=>?_) (fun hc8=>?_)
  .
   exact rz J ozk
  .
   exact rz J ozo
def B9{z:Int}:PF GB prog 140 [eI z] (eI (-z)):=by
 refine fn func140 J J ntmps140 J J (fun C=>?_);refine cl J kG J<|rz J (Ab (Zv z))
def Xd{a b:Int}(h:decide (a<0)=decide (b<0)):zv (decide (a<0)) (a.natAbs+b.natAbs)=a+b:=by
 unfold zv;have h':a<0↔b<0:=by simpa using h
 by_cases q:a<0
 .have:=h'.1 q
  simp[q];omega
 .have: ¬b<0:=fun w=>q (h'.2 w)
  simp[q];omega
def aFa{a b:Int}(h: ¬decide (a<0)=decide (b<0))(k:a.natAbs<b.natAbs):zv (decide (b<0)) (b.natAbs-a.natAbs)=a+b:=by
 unfold zv;have h': ¬(a<0↔b<0):=by simpa using h
 by_cases q:b<0
 .have: ¬a<0:=fun w=>h' ⟨fun _=>q,fun _=>w⟩
  simp[q];omega
 .have:a<0:=Int.not_le.1 fun w=>h' ⟨fun e=>by omega,fun e=>absurd e q⟩
  simp[q];omega
def aE5{a b:Int}(h: ¬decide (a<0)=decide (b<0))(k:b.natAbs<=a.natAbs):zv (decide (a<0)) (a.natAbs-b.natAbs)=a+b:=by
 unfold zv;have h': ¬(a<0↔b<0):=by simpa using h
 by_cases q:a<0
 .have: ¬b<0:=fun w=>h' ⟨fun _=>w,fun _=>q⟩
  simp[q];omega
 .have:b<0:=Int.not_le.1 fun w=>h' ⟨fun e=>absurd e q,fun e=>by omega⟩
  simp[q];omega
def FE{a b:Int}{i j:Nat}[ha:BI a i][hb:BI b j](hi:i<=400000000:=by decide)(hj:j<=400000000:=by decide):PF GB prog 95 [eI a,eI b] (eI (a+b)):=by
 have hba:=kA ha.h;have hbb:=kA hb.h;refine fn (fu:=⟨15⟩) func95 J J ntmps95 J J (fun C=>?_);refine aj 9 (.d (.v (.bool (decide (decide (a<0)=decide (b<0)))))) J (by congr 2)<|gx J<|bd J J J (fun hc9=>?_) (fun hc9=>?_)
 .
  refine cl J (aL1 we we) J<|cl J kG J<|rz J (Ab (Xd hc9))
 .
  refine cl J (BJ) J<|br J J J (fun hc23=>?_) (fun hc23=>?_)
  .
   refine cl J (H' (by have:=AV.1 hc23;omega) we) J<|cl J kG J<|rz J (Ab (aFa hc9 (AV.1 hc23)))
  .
   refine cl J (H' (tJ fun q=>hc23 (AV.2 q)) we) J<|cl J kG J<|rz J (Ab (aE5 hc9 (tJ fun q=>hc23 (AV.2 q))))
def vt{a b:Int}{i j:Nat}[ha:BI a i][hb:BI b j](hi:i<=400000000:=by decide)(hj:j<=400000000:=by decide):PF GB prog 97 [eI a,eI b] (eI (a*b)):=by
 refine fn func97 J J ntmps97 J J (fun C=>?_);refine cl J (qi we we) J<|cl J kG J<|rz J (Ab (aGu a b))
def JN{a b:Int}{i j:Nat}[ha:BI a i][hb:BI b j](hi:i<=400000000:=by decide)(hj:j<=400000000:=by decide):PF GB prog 196 [eI a,eI b] (vI (a-b).sign):=by
 refine fn func196 J J ntmps196 J J (fun C=>?_);refine cl J B9 J<|cl J (FE we we) J<|cl J BS J<|rz J (by rw[Int.sub_eq_add_neg];rfl)
def jx{q:Rat}:PF GB prog 88 [eQ q] (dN q.den):=by
 refine fn func88 J J ntmps88 J J (fun C=>?_);refine br J J J (fun hc6=>?_) (fun hc6=>?_)
 .
  refine cl J HY J<|rz J (by rw[(AT q.den (mG q)).1 we];rfl)
 .
  exact rz J (by exact Pq (fun e=>hc6 (by exact congrArg Int.ofNat ((AT q.den (mG q)).2 e))))
def Oh{n k:Nat}[h:BN n k](hk:k<=500000000:=by omega):(dg n).length<=100000000:=by have:=kA h.h;omega
def Ay{x:Int}{d i j:Nat}[hx:BI x i][hd:BN d j](hd0:0<d)(hi:i<=200000000:=by decide)(hj:j<=200000000:=by decide):PF GB prog 96 [eI x,dN d] (eQ (mkRat x d)):=by
 obtain⟨q,hq⟩: ∃q,q=mkRat x d:=⟨_,rfl⟩;obtain⟨g,hg⟩: ∃g,g=Nat.gcd x.natAbs d:=⟨_,rfl⟩;have hg0:0<g:=hg▸rJ _ hd0;haveI hgB:BN g (i+j):=hg▸inferInstance;have hg1:(dg g).length<=100000000:=Oh (k:=i+j);have ho1:(dg 1).length<=100000000:=by rw[DR];decide
 haveI hqB:BQ q (i+j):=hq▸Df hd0 (cS hx.h (bR oma we)) (cS hd.h (bR oma we));refine fn func96 J J ntmps96 J J (fun C=>?_);refine cl (fu:=⟨0⟩) J (CU we we) J<|aj 11 (.d (dN g)) J (by rw[hg])<|gx (fu:=⟨4⟩) J<|mg (fu:=⟨1⟩) (X:=Unit) (fun _=>[(1, .d (dN q.den)),(2, .ov 2 0),(4, .ov 4 0)]) (fun _=>[(4,some (.o 61 [.ff, .nl, .nl] true)),(2,some (.o 52 [.d (.v (.bool (decide (q.num<0)))), .d (dN q.num.natAbs)] true))]) (fun _=>True) [1,2,4] [4,2] rfl ?_ (fun _=>J) (fun _ hm=>?_)
 .
  refine gx J<|cl J HY J<|cl J (BJ hg1 ho1) J<|br J J J (fun hc15=>?_) (fun hc15=>?_)
  .
   refine cl J (BF hg0 we we) J<|cl (fu:=⟨0⟩) J kG J<|aj 26 (.d (eI q.num)) J (by show FX.d (eI (zv _ _))=_;rw[hg,P2 hd0,hq])<|gx J<|cl (fu:=⟨2⟩) J (BF hg0 we we) J<|aj 31 (.d (dN q.den)) J (by rw[hg,TC hd0,hq])<|gx J<|at_ () trivial
  .
   have hm:=XI (x:=x) hd0 (by rw[<-hg];exact M8.1 (Decidable.not_not.1 hc15));rw[<-hq] at hm;refine aj 1 (.d (dN q.den)) J (by rw[hm.2])<|at_ () trivial (hO:=⟨J,by rw[hm.1];rfl,trivial⟩)
 .
  refine mg (X:=Unit) (fun _=>[(1, .d (dD q.den)),(2, .ov 2 0),(4, .ov 4 0)]) (fun _=>[(4,some (.o 61 [.ff, .nl, .nl] true)),(2,some (.o 52 [.d (.v (.bool (decide (q.num<0)))), .d (dN q.num.natAbs)] true))]) (fun _=>True) [1,2,4] [4,2] rfl ?_ (fun _=>J) (fun _ hm=>?_)
  .
   refine gx J<|cl J HY J<|cl J (BJ (Oh (k:=i+j)) ho1) J<|br J J J (fun hc36=>?_) (fun hc36=>?_)
   .
    refine nlD 1 J<|aj 1 (.d (dD q.den)) J (by rw[M8.1 hc36];rfl)<|at_ () trivial
   .
    refine aj 1 (.d (dD q.den)) J (by rw[Pq (fun e=>hc36 (M8.2 e))])<|at_ () trivial
  .
   exact rz J (by rw[<-hq];rfl)
def Rg(a:Rat):mkRat a.num a.den=a:=by simp[sW]
def V2{a b:Rat}(h:b≠0):a/b=mkRat (a.num*zv (decide (b.num<0)) b.den) (a.den*b.num.natAbs):=by
 rw[nR];have ha:(a.num:Rat)/(a.den:Rat)=a:=by rw[<-nR,Rg]
 have hb:(b.num:Rat)/(b.den:Rat)=b:=by rw[<-nR,Rg]
 have h1:(a.den:Rat)≠0:=by have:=a.den_nz;exact_mod_cast this
 have h2:(b.den:Rat)≠0:=by have:=b.den_nz;exact_mod_cast this
 have h3:(b.num:Rat)≠0:=by
  intro e;rw[e] at hb;apply h;rw[<-hb];grind
 rw[bS,Rat.natCast_mul];by_cases q:b.num<0
 .have e1:((zv (decide (b.num<0)) b.den:Int):Rat)= -(b.den:Rat):=by
   unfold zv;rw[if_pos (by simpa using q),gW];rfl
  have e2:((b.num.natAbs:Nat):Rat)= -(b.num:Rat):=by
   have:((b.num.natAbs:Nat):Int)= -b.num:=by omega
   rw[<-gW,<-this];rfl
  rw[e1,e2];generalize (a.num:Rat)=an at*;generalize (a.den:Rat)=ad at*;generalize (b.num:Rat)=bn at*;generalize (b.den:Rat)=bd at*;subst ha hb;grind
 .have e1:((zv (decide (b.num<0)) b.den:Int):Rat)=(b.den:Rat):=by
   unfold zv;rw[if_neg (by simpa using q)];rfl
  have e2:((b.num.natAbs:Nat):Rat)=(b.num:Rat):=by
   have:((b.num.natAbs:Nat):Int)=b.num:=by omega
   rw[<-this];rfl
  rw[e1,e2];generalize (a.num:Rat)=an at*;generalize (a.den:Rat)=ad at*;generalize (b.num:Rat)=bn at*;generalize (b.den:Rat)=bd at*;subst ha hb;grind
def auQ{q:Rat}{n:Int}{d:Nat}(hd:0<d)(h:q*(d:Rat)=(n:Rat)):q.num.natAbs<=n.natAbs/\q.den<=d:=by
 have e:q=mkRat n d:=by
  rw[nR];have:(d:Rat)≠0:=by exact_mod_cast (by omega:d≠0)
  rw[<-h];grind
 rw[e,Rat.num_mkRat,Rat.den_mkRat,if_neg we,if_neg we];exact⟨oJ n (d.gcd n.natAbs:Nat),nK ..⟩
theorem BQ.of_frac{q:Rat}{n:Int}{d i:Nat}(hd:0<d)(h:q*(d:Rat)=(n:Rat))(hn:n.natAbs<2^i)(hdi:d<2^i):BQ q i:=by
 have:=auQ hd h;exact⟨we,we⟩
def UC{b:Rat}(h:b≠0):0<b.num.natAbs:=by
 have:b.num≠0:=fun e=>h (mT.1 e);omega
instance BQ.over (a b:Rat) (i j:Nat) [ha:BQ a i] [hb:BQ b j]:BQ (a/b) (i+j):=by
 by_cases h:b=0
 .subst h
  rw[Rat.div_def,Rat.inv_zero,Rat.mul_zero];have h2:=ha.hd;have h3:0<a.den:=mG a;have h4:2^i*1<=2^i*2^j:=fV _ (gU oma);rw[<-fY] at h4;exact⟨by show 0<_;omega,by show 1<_;omega⟩
 .rw[V2 h]
  have hb0:=UC h;refine Df (jR (mG a) hb0) ?_ (lI ha.hd hb.hn);rw[fU,tn];exact lI ha.hn hb.hd
def jh{n:Int}(h0: -4611686018427387904<=n:=by decide)(h1:n<=4611686018427387904:=by decide):PF GB prog 24 [.v (.int .i64 n)] (eQ (n:Rat)):=by
 refine fn func24 J J ntmps24 J J (fun C=>?_);refine cl J (aK1 we we) J<|rz J (by rw[HP];rfl)
def n5{q:Rat}:PF GB prog 99 [eQ q] (vI q.num.sign):=by
 refine fn func99 J J ntmps99 J J (fun C=>?_);refine cl J BS J<|rz J J
def pz{q:Rat}:PF GB prog 85 [eQ q] (eQ (-q)):=by
 refine fn func85 J J ntmps85 J J (fun C=>?_);refine cl J B9 J<|rz J (by unfold eQ;rw[oW,tU];rfl)
def ik{a b:Rat}{i j:Nat}[ha:BQ a i][hb:BQ b j](hi:i<=20000000:=by decide)(hj:j<=20000000:=by decide):PF GB prog 51 [eQ a,eQ b] (eQ (a*b)):=by
 have had:=mG a;have hbd:=mG b;have hdp:=jR had hbd;have e1:=AT a.den had;have e2:=AT b.den hbd;refine fn func51 J J ntmps51 J J (fun C=>?_);refine cs 9 J J J (fun hg9=>?_) (fun hg9=>?_)
 .
  refine br J J J (fun hc14=>?_) (fun hc14=>?_)
  .
   refine cl J (vt (a:=a.num) (b:=b.num) we we) J<|rz J (by rw[Xa (e1.1 we) (e2.1 we),HP];rfl)
  .
   refine cl J (vt (a:=a.num) (b:=b.num) we we) J<|cl J jx J<|cl J jx J<|cl J (qi we we) J<|cl J (Ay hdp we we) J<|rz J (by rw[CA];rfl)
 .
  refine cl J (vt (a:=a.num) (b:=b.num) we we) J<|cl J jx J<|cl J jx J<|cl J (qi we we) J<|cl J (Ay hdp we we) J<|rz J (by rw[CA];rfl)
def m8{a b:Rat}{i j:Nat}[ha:BQ a i][hb:BQ b j](hi:i<=20000000:=by decide)(hj:j<=20000000:=by decide):PF GB prog 50 [eQ a,eQ b] (eQ (a+b)):=by
 have had:=mG a;have hbd:=mG b;have hdp:=jR had hbd;have e1:=AT a.den had;have e2:=AT b.den hbd;refine fn func50 J J ntmps50 J J (fun C=>?_);refine cs 9 J J J (fun hg9=>?_) (fun hg9=>?_)
 .
  refine br J J J (fun hc14=>?_) (fun hc14=>?_)
  .
   refine cl J (FE we we) J<|rz J (by rw[aBL (e1.1 we) (e2.1 we),HP];rfl)
  .
   refine cl J jx J<|cl J kG J<|cl J (vt (a:=a.num) (b:=zv false b.den) we we) J<|cl J jx J<|cl J kG J<|cl J (vt (a:=b.num) (b:=zv false a.den) we we) J<|cl J (FE we we) J<|cl J jx J<|cl J jx J<|cl J (qi we we) J<|cl J (Ay hdp we we) J<|rz J (by rw[B4];rfl)
 .
  refine cl J jx J<|cl J kG J<|cl J (vt (a:=a.num) (b:=zv false b.den) we we) J<|cl J jx J<|cl J kG J<|cl J (vt (a:=b.num) (b:=zv false a.den) we we) J<|cl J (FE we we) J<|cl J jx J<|cl J jx J<|cl J (qi we we) J<|cl J (Ay hdp we we) J<|rz J (by rw[B4];rfl)
def sr{a b:Rat}{i j:Nat}[ha:BQ a i][hb:BQ b j](hi:i<=20000000:=by decide)(hj:j<=20000000:=by decide):PF GB prog 156 [eQ a,eQ b] (eQ (a-b)):=by
 refine fn func156 J J ntmps156 J J (fun C=>?_);refine cl J (pz (q:=b)) J<|cl J (m8 (a:=a) (b:= -b) hi hj) J<|rz J (by rw[Rat.sub_eq_add_neg];rfl)
def zr{a b:Rat}{i j:Nat}[ha:BQ a i][hb:BQ b j](hb0:b≠0)(hi:i<=20000000:=by decide)(hj:j<=20000000:=by decide):PF GB prog 133 [eQ a,eQ b] (eQ (a/b)):=by
 have hbp:=UC hb0;have hdp:=jR (mG a) hbp;refine fn func133 J J ntmps133 J J (fun C=>?_);refine cl J jx J<|cl J kG J<|cl J (vt (a:=a.num) (b:=zv (decide (b.num<0)) b.den) we we) J<|cl J jx J<|cl J (qi (a:=a.den) (b:=b.num.natAbs) we we) J<|cl J (Ay (x:=a.num*zv (decide (b.num<0)) b.den) (d:=a.den*b.num.natAbs) hdp we we) J<|rz J (by rw[V2 hb0];rfl)
def lm{a b:Rat}{i j:Nat}[ha:BQ a i][hb:BQ b j](hi:i<=20000000:=by decide)(hj:j<=20000000:=by decide):PF GB prog 144 [eQ a,eQ b] (vI (bE a b)):=by
 refine fn func144 J J ntmps144 J J (fun C=>?_);refine cl J (sr hi hj) J<|cl J n5 J<|rz J (by show vI _=vI _;rw[Hu])
def aJ2:((2:Int):Rat)≠0:=by decide
instance BI.two:BI 2 2:=⟨oma⟩
def MX{a:Rat}{i:Nat}[ha:BQ a i](hi:i<=20000000:=by decide):PF GB prog 258 [eQ a] (eQ (a/2)):=by
 refine fn func258 J J ntmps258 J J (fun C=>?_);refine cl J (jh (n:=2)) J<|cl J (zr (a:=a) (b:=((2:Int):Rat)) aJ2 hi oma) J<|rz J J
def Gf{a b:Rat}{i j:Nat}[ha:BQ a i][hb:BQ b j](hi:i<=2000000:=by decide)(hj:j<=2000000:=by decide):PF GB prog 195 [eQ a,eQ b] (eQ ((a+b)/2)):=by
 refine fn func195 J J ntmps195 J J (fun C=>?_);refine cl J (m8 we we) J<|cl J (MX (a:=a+b) we) J<|rz J J
end Go.Sx
end
