import Derived.Test.YtjpdfobnjmflkaaGreatDoorMk9
set_option linter.all false
set_option maxHeartbeats 8000000
set_option maxRecDepth 100000
section
namespace Go.Sx
open Go Go.Proofs Tryz
variable {GB G:Gh}{C:aF}{n neg n1:Bool}{Q0:Exit->Act->World->Prop}{fr:Fr}{fr':aC}{own' own1 rest:List aA}{cf cf':Cf}{vc:List Prop}{q:Rat}{U k ia i T S u g ca s d j a' d' ib e by_ off cap:Nat}{m z:Int}{vs ws wa qs ds:List Nat}{P:Program}{Φ:Act->World->Prop}{dst:Option Nat}{t t' ty':TypeId}{pos:String}{af:Array Edge}{y:Operand}{α β:Type}
def aFd(c:Nat)(h:c<18446744073709551616):(BitVec.ofInt 64 (c:Int) &&& BitVec.ofInt 64 4294967295).toNat=c%4294967296:=by
 rw[BitVec.toNat_and,BitVec.ofInt_natCast,BitVec.toNat_ofNat,kZ (by omega),show(BitVec.ofInt 64 4294967295).toNat=2^32-1 from J,Nat.and_two_pow_sub_one_eq_mod]
structure aIX (a b n s l:Nat):Prop where
 hn:(dg b).length=n+2
 hs:s=32-bl ((dg b).getD (n+1) 0)
 hb:bl ((dg b).getD (n+1) 0)<=32
 s32:s<32
 vl:(dg (b*2^s)).length=n+2
 v2:b*2^s<4294967296^(n+2)
 al:(dg a).length=n+1+l
 u0:(dg a).length<=(dg (a*2^s)).length
 u1:a*2^s<4294967296^((dg a).length+1)
 u3:a*2^s<b*2^s*4294967296^l
 bp:0<b
def T7{a b:Nat}(hb2:2<=(dg b).length)(hle:b<=a): ∃n s l,aIX a b n s l:=by
 have hoa:=gi a;have hob:=gi b;have hna:=(fI a).2.2;have hnb:=(fI b).2.2;have ea:=c8 a;have eb:=c8 b;obtain⟨n,hn⟩: ∃n,(dg b).length=n+2:=⟨(dg b).length-2,by omega⟩;have hbp:0<b:=iV fun h=>by subst h;rw[vh] at hb2;simp at hb2
 have hnm:(dg b).length<=(dg a).length:=by
  rcases jK (dg a).length (dg b).length with h|h
  .have:=yg hoa hnb h
   omega
  .exact h
 have htp:=NV hnb (n+1) hn;have htl:=hob.get (n+1);have hbv:=WX hob (n+1) hn;have hbt:=EZ hob (n+1);obtain⟨s,hs⟩: ∃s,s=32-bl ((dg b).getD (n+1) 0):=⟨_,rfl⟩;obtain⟨hs32,hs1,hs2⟩:=Vn htp htl hs;have hpn:0<4294967296^(n+1):=gQ (by decide);have hps:0<2^s:=gQ (by decide);rw[eb] at hbv;have hV1:2147483648*4294967296^(n+1)<=b*2^s:=by
  refine cN (bS _ hs1) ?_;rw[cW,cK (2^s),<-cW];exact bS _ (by omega)
 have hV2:b*2^s<4294967296^(n+2):=by
  refine cM (nX (k:=2^s) (m:=((dg b).getD (n+1) 0+1)*4294967296^(n+1)) (by rw[dY,nJ];omega) hps) ?_;rw[cW,cK (4294967296^(n+1)),<-cW,wF (n+1),cK _ 4294967296];exact bS _ hs2
 have hVl:(dg (b*2^s)).length=n+2:=V5 (by show 4294967296^(n+1)<=_;omega) hV2 (by omega);have hal:=l7 hoa;rw[ea] at hal;have hU2:a*2^s<4294967296^((dg a).length+1):=by
  rw[wF];exact oR hal (cM (Nat.pow_lt_pow_right (by decide) hs32) (by decide))
 have hUl0:(dg a).length<=(dg (a*2^s)).length:=by
  have hane:dg a≠[]:=fun h=>by
   have:=congrArg List.length h;simp only[eY] at this;omega
  have h1:=wJ hna hane;have h2:=l7 (fI (a*2^s)).2.1;rw[(fI _).1] at h2;rw[ea] at h1;have h3:a<=a*2^s:=mU _ hps;have h4:=(oJ (a:=4294967296) (by decide)).1 (dR (cN h1 h3) h2);omega
 have hU3:a*2^s<b*2^s*4294967296^((dg a).length-n-1):=by
  have h1:4294967296^(n+1)*4294967296^((dg a).length-n-1)=4294967296^(dg a).length:=by rw[<-fZ,show n+1+((dg a).length-n-1)=(dg a).length by omega]
  refine cM (nX hal hps) (cN (fR _ (bY (by decide) (show s<=31 by omega))) ?_);rw[<-h1,cK,<-cW];exact bS _ hV1
 exact⟨n,s,(dg a).length-n-1,hn,hs,nH.2 htl,hs32,hVl,hV2,by omega,hUl0,hU2,hU3,hbp⟩
section
variable {n:Nat}{fr:aC}{own own':aI}
def Rb(fr:aC)(cf:Cf):Option (Int×Int):=match cI fr cf with
 |some ⟨_, .binOp .add _ x y _,_,_,_,_⟩=>match bh (b9 fr cf) x,bh (b9 fr cf) y with
  |some (.d (.v (.int .u32 p))),some (.d (.v (.int .u32 q)))=>some (p,q)
  |_,_=>none
 |_=>none
def aw[fu:Fu]{p q:Int}(u:Int)(h:Rb fr cf=some (p,q))(e:IntKind.u32.wrap (p+q)=u)(hgo:cH tt n fu.n fr own cf (.d (.v (.int .u32 u))) [] []=⟨vc,fr',own',cf'⟩)(k:av prog GB C n Q0 fr' own' cf')
  (hv:autoParam (ak vc) cL._auto_1):av prog GB C n Q0 fr own cf:=by
 unfold Rb at h;split at h<;>try (cases h;done)
 rename_i hh;split at h<;>cases h;rename_i h1 h2;subst e;exact us hh (.yd fun ρ G ov a w r=>by
  obtain⟨y1,h3,h4⟩:=r.ev h1;obtain⟨y2,h5,h6⟩:=r.ev h2;rw[c7] at h4 h6;subst h4 h6;exact⟨_,c7.2 J,lh h3 h5 fun w=>J⟩) hgo hv k
end
def azx{m:Nat}(h:U<4294967296^m):dv ((dg U++[0,0]).take m)=U:=by
 have h1:dv (dg U++[0,0])=U:=by rw[show([0,0]:List Nat)=List.replicate 2 0 from J,ayh,c8]
 have h2:=wK (dg U++[0,0]) m;rw[Ai (by rw[h1];exact h),h1] at h2;omega
def Wy{a:Nat}[h:BN a ia](hv:vs=dg (a*2^k))(hk:k<32)(h0:0<(dg a).length)(hi:ia<=1000000000):PR GB prog 325 [dN a, .v (.int .u64 (k:Nat))] 1 208 (vs.map dU):=by
 subst hv;exact NN hk h0 hi
def aCE{us:List Nat}{n:Nat}(huo:bD us)(hvo:bD vs)(hvB:dv vs<4294967296^(n+2))(hv0:0<dv vs)(hvh:dv vs=(T*4294967296+S)*4294967296^n+dv (vs.take n))(hlt:dv us<dv vs*4294967296^(i+1)):
  ∃f p V w:Nat,f=us.getD (i+n+2) 0*4294967296+us.getD (i+n+1) 0/\V=dv vs*4294967296^i/\0<V/\dv us<V*4294967296/\(f*4294967296+us.getD (i+n) 0)*p<=dv us/\dv us<(f*4294967296+us.getD (i+n) 0+1)*p/\V=(T*4294967296+S)*p+w/\w<p/\dv us<4294967296^(i+n+3):=by
 have hpi:0<4294967296^i:=gQ (by decide);obtain⟨p,hp⟩: ∃p,p=4294967296^(i+n):=⟨_,rfl⟩;have hM:dv us<4294967296^(i+n+3):=by
  refine cM hlt ?_;rw[show i+n+3=(n+2)+(i+1) by omega,fZ 4294967296 (n+2) (i+1)];exact bS _ (gK hvB)
 have huh:=aIr huo (i+n) hM;have hu0:=EZ huo (i+n);rw[<-hp] at huh hu0;refine⟨_,p,_,dv (vs.take n)*4294967296^i,J,J,jJ hv0 hpi,by rw[cW,<-wF];exact hlt,by omega,by rw[dY _ 1,nJ];omega,?_,?_,hM⟩
 .rw[hvh,dY,hp,fZ,cK (4294967296^i),cW]
 .rw[hp,fZ,cK]
  exact Nat.mul_lt_mul_of_pos_left (EZ hvo n) hpi
def UM{bo c c1 xx:Nat}(hl:i+k<ws.length)(hw:dv ws+g*(dv (vs.take k)*4294967296^i)=u+(bo+c)*4294967296^(i+k))(hc1:c1=c+g*vs.getD k 0)(hx1:xx%4294967296+(c1%4294967296+bo)=ws.getD (i+k) 0+xx/9223372036854775808*4294967296):
  dv (ws.set (i+k) (xx%4294967296))+g*(dv (vs.take (k+1))*4294967296^i)=u+(xx/9223372036854775808+c1/4294967296)*4294967296^(i+(k+1)):=by
 rw[n4,dY (dv (vs.take k)),<-lX i k 1,wF,show 4294967296^k*vs.getD k 0*4294967296^i=vs.getD k 0*4294967296^(i+k) by rw[fZ,cK (4294967296^k),cW,cK (4294967296^k)],fQ,<-cW g (vs.getD k 0)];exact aBp (vS ws (i+k) _ hl) hw hc1 hx1
def Ty(hl:i+k<wa.length)(ha:dv wa+ca*4294967296^(i+k)=u+dv (vs.take k)*4294967296^i):
  dv (wa.set (i+k) ((ca+(wa.getD (i+k) 0+vs.getD k 0))%4294967296))+(ca+(wa.getD (i+k) 0+vs.getD k 0))/4294967296*4294967296^(i+(k+1))=u+dv (vs.take (k+1))*4294967296^i:=by
 rw[n4,dY (dv (vs.take k)),<-lX i k 1,wF,show 4294967296^k*vs.getD k 0*4294967296^i=vs.getD k 0*4294967296^(i+k) by rw[fZ,cK (4294967296^k),cW,cK (4294967296^k)]];exact Zr (vS wa (i+k) _ hl) ha
def Wg{a b n:Nat}{us:List Nat}(hp:0<2^s)(hvv:dv vs=b*2^s)(hv0:0<dv vs)(hvB:dv vs<4294967296^(n+2))(hinv:a*2^s=dv us+dv vs*dv qs)(hlt:dv us<dv vs*4294967296^0):dv qs=a/b/\dv (us.take (n+2))/2^s=a%b:=by
 rw[tL,jX] at hlt;have hut:dv (us.take (n+2))=dv us:=by
  have h0:=wK us (n+2);rw[Ai (by omega)] at h0;omega
 refine⟨?_,?_⟩
 .rw[<-Nat.mul_div_mul_right _ _ hp,hinv,<-hvv,pU _ _ hv0,mW hlt,eJ]
 .have:dv us=a%b*2^s:=by rw[<-Nat.mul_mod_mul_right,hinv,<-hvv,qZ,kZ hlt]
  rw[hut,this,Nat.mul_div_cancel _ hp]
def Wc{l:Nat}(hl:i<qs.length)(h:qs.getD i 0=0):dv (qs.set i d)=dv qs+4294967296^i*d:=by
 have:=vS qs i d hl;rw[h] at this;simpa using this
def Pj{a R V v:Nat}(hl:i<qs.length)(h0:qs.getD i 0=0)(hinv:a*2^s=u+v*dv qs)(hV:V=v*4294967296^i)(h:R+d*V=u):a*2^s=R+v*dv (qs.set i d):=by
 rw[hinv,<-h,Wc (l:=0) hl h0,fQ,<-cW,<-hV,cK d];omega
def K1(hq: ∀j,j<i+1->qs.getD j 0=0): ∀j,j<i->(qs.set i d).getD j 0=0:=fun j h=>by
 rw[getD_set_ne];exact hq j (by omega)
def ZX{a b ia ib:Nat}[h:BN a ia][k:BN b ib](h2:2<=(dg b).length)(hle:b<=a)(hi:ia<=1000000000:=by decide)(hj:ib<=1000000000:=by decide):PF GB prog 305 [dN a,dN b] (.tp [dN (a/b),dN (a%b)]):=by
 have hla:=bO (dg a);have hba:=i5 (a:=a) hi;have hlb:=bO (dg b);have hbb:=i5 (a:=b) hj;obtain⟨n,s,l,P⟩:=T7 h2 hle;have hn:=P.hn;have hs:=P.hs;have hsb:=P.hb;have hs32:=P.s32;have hal:=P.al;have hu0:=P.u0;have hu9:=AT (a:=a*2^s) (k:=(dg a).length+1) P.u1;have htl:=dG b (n+1);obtain⟨vs,hvs⟩: ∃vs,vs=dg (b*2^s):=⟨_,rfl⟩;have hvl:vs.length=n+2:=by rw[hvs];exact P.vl
 have hvv:dv vs=b*2^s:=by rw[hvs,c8]
 have hvo:bD vs:=by rw[hvs];exact gi _
 have hvn:e7 vs:=by rw[hvs];exact(fI _).2.2
 have hvm:=bO vs;obtain⟨us0,hus0⟩: ∃us0,us0=(dg (a*2^s)++[0,0]).take ((dg a).length+1):=⟨_,rfl⟩;have husv:dv us0=a*2^s:=by rw[hus0];exact azx P.u1
 have huso:bD us0:=by rw[hus0];exact((gi _).append (.replicate 2)).take _
 have husl:us0.length=(dg a).length+1:=by rw[hus0];simp;omega
 have hps:0<2^s:=gQ (by decide);have hbp:=P.bp;have hV0':0<dv vs:=by rw[hvv];exact jJ hbp hps
 have hvB:dv vs<4294967296^(n+2):=by rw[hvv];exact P.v2
 obtain⟨T,hT⟩: ∃T,T=vs.getD (n+1) 0:=⟨_,rfl⟩;obtain⟨S,hS⟩: ∃S,S=vs.getD n 0:=⟨_,rfl⟩;have hTB:T<4294967296:=by rw[hT];exact hvo.get _
 have hSB:S<4294967296:=by rw[hS];exact hvo.get _
 have hT0:0<T:=by rw[hT];exact NV hvn (n+1) hvl
 have hvh:=aIJ hvo n hvB;rw[<-hT,<-hS] at hvh;refine fn (fu:=⟨12⟩) func305 J J ntmps305 J J (fun C=>?_);refine aj 27 (.d (vI ((dg b).length:Nat))) J (by rw[hlb]<;>rfl)<|gx J<|ix _ J (cD (k:=n+1)) J<|cl (fu:=⟨1⟩) J (HB htl) J<|aj 32 (.d (.v (.int .u64 (s:Nat)))) J (by show FX.d (.v (.int _ _))= .d (.v (.int _ _));congr 3;omega)<|gx J<|cr J (NN (a:=a) (k:=s) hs32 (by omega) hi) J<|rf J J<|ap (fu:=⟨2⟩) _ J J (E9 J) J<|aj 39 (.d (vI ((dg a).length:Nat))) J (by rw[hla]<;>rfl)<|gx (fu:=⟨1⟩) J<|aj 40 (.d (vI ((dg a).length+1:Nat))) J (by show FX.d (.v (.int _ _))= .d (.v (.int _ _));congr 3)<|gx (fu:=⟨0⟩) J<|ML (us0.map dU) ((dg a).length+1) J J (by simp;omega) (by rw[hus0,iU,aL];rfl) J<|cr (fu:=⟨7⟩) J (Wy (a:=b) (k:=s) (vs:=vs) hvs hs32 (by omega) hj) J<|aj 46 (.d (vI (n+2:Nat))) J (by rw[hvm,hvl]<;>rfl)<|gx J<|lb (fu:=⟨1⟩) _ J (cD (k:=n+1)) J<|aj 52 (.d (.v (.int .u64 (T:Nat)))) J (by show FX.d (.v (.int _ _))= .d (.v (.int _ _));rw[hT])<|gx J<|lb (fu:=⟨1⟩) _ J (cD (k:=n)) J<|aj 58 (.d (.v (.int .u64 (S:Nat)))) J (by show FX.d (.v (.int _ _))= .d (.v (.int _ _));rw[hS])<|gx (fu:=⟨8⟩) J<|aj 60 (.d (vI ((dg a).length+1:Nat))) J (by rw[bO,husl]<;>rfl)<|gx (fu:=⟨2⟩) J<|aj 62 (.d (vI (l:Nat))) J (by show FX.d (.v (.int _ _))= .d (.v (.int _ _));congr 3;omega)<|gx J<|mk (fu:=⟨11⟩) ((List.replicate l 0).map dU) J J (by rw[<-m6];rfl) J<|aj 65 (.d (vI (l:Nat))) J (by rw[bO,aS]<;>rfl)<|gx J<|lp (X:=List Nat×List Nat×Nat) (fun⟨us,qs,j⟩=>[(13, .d (vI ((j:Nat)-1)))]) (fun⟨us,qs,j⟩=>[(63,some (.b 208 1 (qs.map dU) true)),(41,some (.b 208 1 (us.map dU) true))]) (fun⟨us,qs,j⟩=>us.length=(dg a).length+1/\bD us/\qs.length=l/\bD qs/\j<=l/\(∀i,i<j->qs.getD i 0=0)/\a*2^s=dv us+dv vs*dv qs/\dv us<dv vs*4294967296^j) (fun⟨us,qs,j⟩=>j) ⟨us0,List.replicate l 0,l⟩ J ⟨husl,huso,by simp, .replicate _,bW _,fun i _=>Dt _ _,by simp only[wM];omega,by rw[husv,hvv];exact P.u3⟩ (fun _=>J) (fun⟨us,qs,j⟩ hk=>?_)
 try dsimp only at hk⊢
 obtain⟨hul,huo,hql,hqo,hjl,hq0,hinv,hlt⟩:=hk;refine br (fu1:=⟨0⟩) (fu2:=⟨0⟩) J J J (fun hc68=>?_) (fun hc68=>?_)
 .
  obtain⟨i,rfl⟩: ∃i,j=i+1:=⟨j-1,by omega⟩;refine aj 13 (.d (vI (i:Nat))) J (by show FX.d (.v (.int _ _))= .d (.v (.int _ _));congr 3;omega) ?_;obtain⟨f,p,V,v0,hf,hV,hVp0,hltV,hUle,hUlt,hVp,hv0,hM⟩:=aCE (n:=n) (i:=i) huo hvo hvB hV0' hvh hlt;have hVle:(T*4294967296+S)*p<=V:=by rw[hVp];exact oU _ _
  have hfT:f<=T*4294967296+S:=aKe hUle hVp hv0 hltV;have hg0:=huo.get (i+n);have hg1:=huo.get (i+n+1);have hg2:=huo.get (i+n+2);have hum:=bO us;have hqm:=bO qs;refine gx J<|lb (fu:=⟨2⟩) (hv:=by simp only[ak];exact⟨by omega,(by decide)⟩) _ J (cD (k:=i+n+2)) J<|aj 78 (.d (.v (.int .u64 (us.getD (i+n+2) 0*4294967296:Nat)))) J (by show FX.d (.v (.int _ _))= .d (.v (.int _ _));rw[po _ 32 (by decide) (by show _*4294967296<_;omega) J])<|gx J<|lb (fu:=⟨2⟩) _ J (cD (k:=i+n+1)) J<|aj 87 (.d (.v (.int .u64 (f:Nat)))) J (congrArg (fun z:Nat=>FX.d (.v (.int .u64 (z:Int)))) ((congrArg BitVec.toNat (BitVec.or_comm ..)).trans ((pE 64 (us.getD (i+n+1) 0) (us.getD (i+n+2) 0) 32 hg1 (by show _+_*4294967296<18446744073709551616;omega)).trans (by show _+_*4294967296=_;omega))))<|gx (fu:=⟨8⟩) (hv:=by simp only[ak];exact⟨by kernel_rfl,by omega⟩) J<|aj 90 (.d (.v (.int .u64 (f/T:Nat)))) J (by show FX.d (.v (.int _ _))= .d (.v (.int _ _));first|rfl|congr 3)<|gx (fu:=⟨3⟩) J<|aj 93 (.d (.v (.int .u64 (f%T:Nat)))) J (by show FX.d (.v (.int _ _))= .d (.v (.int _ _));first|rfl|congr 3)<|gx (fu:=⟨5⟩) J<|mg (fu:=⟨11⟩) (X:=Nat) (fun g=>[(15, .d (.v (.int .u64 (g:Nat))))]) (fun g=>[]) (fun g=>g<4294967296/\dv us<(g+1)*V/\g*V<dv us+V) [15,16] [] rfl ?_ (fun _=>J) (fun g ⟨hgB,hlo,hhi⟩=>?_)
  .
   refine gx J<|lp (fu:=⟨5⟩) (hv:=fun _ _=>by simp only[ak];exact(by decide)) (X:=Nat×Nat) (fun⟨g,r⟩=>[(15, .d (.v (.int .u64 (g:Nat)))),(16, .d (.v (.int .u64 (r:Nat))))]) (fun⟨g,r⟩=>[]) (fun⟨g,r⟩=>f=g*T+r/\r<4294967296/\dv us<(g+1)*V) (fun⟨g,r⟩=>g) ⟨f/T,f%T⟩ J ⟨(Nat.div_add_mod' ..).symm,tU (dK _ hT0) hTB,SZ hUlt hg0 hVle hT0⟩ (fun _=>J) (fun⟨g,r⟩ hk=>?_)
   try dsimp only at hk⊢
   obtain⟨hfg,hrB,hlo⟩:=hk;have hgT:g*1<=g*T:=fR _ hT0;refine aj 95 (.d (.v (.int .u64 (g/4294967296:Nat)))) rfl (by rw[oB])<|gx rfl<|cs (fu1:=⟨26⟩) (v1:=fun hg97=>by simp only[ak];exact(by first|omega|(have hd:=H6 hUlt hVle hfg;rcases fT g with e|e;(rw[e,kK] at hd;omega);omega))) (fu2:=⟨3⟩) (v2:=fun hg97=>by simp only[ak];exact⟨(Bv _ _),(z8 (show g<4294967296 by omega) hSB)⟩) 97 J J J (fun hg97=>?_) (fun hg97=>?_)
   .
    have hgB4:4294967296<=g:=by omega
    have hdec:dv us<g*V:=cM hltV (by rw[cK];exact bS _ hgB4);obtain⟨g',rfl⟩: ∃g',g=g'+1:=⟨g-1,by rcases fT g with h|h;(rw[h,kK] at hdec;omega);omega⟩;have hfg':f=g'*T+(r+T):=by rw[hfg,dY,nJ];omega
    refine aj 115 (.d (.v (.int .u64 (g':Nat)))) J (by show FX.d (.v (.int _ _))= .d (.v (.int _ _));congr 3;omega)<|gx (fu:=⟨8⟩) J<|aj 118 (.d (.v (.int .u64 (r+T:Nat)))) J (by show FX.d (.v (.int _ _))= .d (.v (.int _ _));first|rfl|congr 3)<|gx (fu:=⟨7⟩) (hv:=by simp only[ak];exact(by decide)) J<|aj 120 (.d (.v (.int .u64 ((r+T)/4294967296:Nat)))) J (by rw[oB])<|gx J<|br J J J (fun hc121=>?_) (fun hc121=>?_)
    .
     have hgB3:g'<4294967296:=by rcases jK g' 4294967296 with h|h;(exact h);(have:=bS T h;omega)
     have hgS3:g'*S<=(r+T)*4294967296+us.getD (i+n) 0:=by have h1:=gL (gK hgB3) (gK hSB);omega
     exact at_ g' ⟨hgB3,hdec,Hg hUle hVp hv0 hT0 hfg' hgB3 hgS3⟩
    .
     exact at_ ⟨g',r+T⟩ (by dsimp only;exact⟨⟨hfg',by omega,hdec⟩,(by omega)⟩)
   .
    have hgB:g<4294967296:=by omega
    have hgS:g*S<4294967296*4294967296:=oR hgB hSB;refine aj 100 (.d (.v (.int .u64 (g*S:Nat)))) rfl (by rw[iL])<|gx (fu:=⟨2⟩) (hv:=by simp only[ak];exact(by decide)) rfl<|aj 102 (.d (.v (.int .u64 (r*4294967296:Nat)))) rfl (by show FX.d (.v (.int _ _))= .d (.v (.int _ _));rw[po _ 32 (by decide) (by show _*4294967296<_;omega) rfl])<|gx rfl<|lb (fu:=⟨2⟩) _ rfl (cD (k:=i+n)) rfl<|aj 111 (.d (.v (.int .u64 (r*4294967296+us.getD (i+n) 0:Nat)))) rfl (congrArg (fun z:Nat=>FX.d (.v (.int .u64 (z:Int)))) ((congrArg BitVec.toNat (BitVec.or_comm ..)).trans ((pE 64 (us.getD (i+n) 0) (r) 32 hg0 (by show _+_*4294967296<18446744073709551616;omega)).trans (by show _+_*4294967296=_;omega))))<|gx rfl<|br (fu1:=⟨7⟩) (v1:=fun hc113=>by simp only[ak];exact(by first|omega|(have hd:=H6 hUlt hVle hfg;rcases fT g with e|e;(rw[e,kK] at hd;omega);omega))) rfl rfl rfl (fun hc113=>?_) (fun hc113=>?_)
    .
     have hdec:dv us<g*V:=H6 hUlt hVle hfg;obtain⟨g',rfl⟩: ∃g',g=g'+1:=⟨g-1,by rcases fT g with h|h;(rw[h,kK] at hdec;omega);omega⟩;have hfg':f=g'*T+(r+T):=by rw[hfg,dY,nJ];omega
     refine aj 115 (.d (.v (.int .u64 (g':Nat)))) J (by show FX.d (.v (.int _ _))= .d (.v (.int _ _));congr 3;omega)<|gx (fu:=⟨8⟩) J<|aj 118 (.d (.v (.int .u64 (r+T:Nat)))) J (by show FX.d (.v (.int _ _))= .d (.v (.int _ _));first|rfl|congr 3)<|gx (fu:=⟨7⟩) (hv:=by simp only[ak];exact(by decide)) J<|aj 120 (.d (.v (.int .u64 ((r+T)/4294967296:Nat)))) J (by rw[oB])<|gx J<|br J J J (fun hc121=>?_) (fun hc121=>?_)
     .
      have hgB3:g'<4294967296:=by rcases jK g' 4294967296 with h|h;(exact h);(have:=bS T h;omega)
      have hgS3:g'*S<=(r+T)*4294967296+us.getD (i+n) 0:=by have h1:=gL (gK hgB3) (gK hSB);omega
      exact at_ g' ⟨hgB3,hdec,Hg hUle hVp hv0 hT0 hfg' hgB3 hgS3⟩
     .
      exact at_ ⟨g',r+T⟩ (by dsimp only;exact⟨⟨hfg',by omega,hdec⟩,(by omega)⟩)
    .
     exact at_ g ⟨hgB,hlo,Hg hUle hVp hv0 hT0 hfg hgB (by omega)⟩
  .
   refine aj 123 (.d (vI (n+2:Nat))) J (by rw[hvm,hvl]<;>rfl)<|gx J<|lp (X:=List Nat×Nat×Nat×Nat) (fun⟨ws,k,bo,c⟩=>[(124, .d (vI (k:Nat))),(17, .d (.v (.int .u64 (bo:Nat)))),(18, .d (.v (.int .u64 (c:Nat))))]) (fun⟨ws,k,bo,c⟩=>[(41,some (.b 208 1 (ws.map dU) true))]) (fun⟨ws,k,bo,c⟩=>ws.length=(dg a).length+1/\bD ws/\k<=n+2/\bo<=1/\c<4294967296/\dv ws<4294967296^(i+n+3)/\dv ws+g*(dv (vs.take k)*4294967296^i)=dv us+(bo+c)*4294967296^(i+k)) (fun⟨ws,k,bo,c⟩=>n+2-k) ⟨us,0,0,0⟩ J ⟨hul,huo,aM _,aM _,by decide,hM,by simp[dv]⟩ (fun _=>J) (fun⟨ws,k,bo,c⟩ hk=>?_)
   try dsimp only at hk⊢
   obtain⟨hwl,hwo,hk2,hbo,hc4,hwM,hw⟩:=hk;refine br J J J (fun hc125=>?_) (fun hc125=>?_)
   .
    have hvk:=hvo.get k;have hwg:=hwo.get (i+k);have hgd:g*vs.getD k 0<=4294967295*4294967295:=gL (by omega) (by omega);obtain⟨c1,hc1⟩: ∃c1,c1=c+g*vs.getD k 0:=⟨_,rfl⟩;have hc1m:c1%4294967296<4294967296:=dK _ (by decide);obtain⟨hx1,hx2,hx3⟩:=Sm (ws.getD (i+k) 0) (c1%4294967296) bo hwg hc1m hbo;obtain⟨xx,hxx⟩: ∃x,x=tE (ws.getD (i+k) 0) (c1%4294967296) bo:=⟨_,rfl⟩;rw[<-hxx] at hx1 hx2 hx3;have hwm:=bO ws;refine lb (fu:=⟨11⟩) (hv:=by simp only[ak];exact⟨by omega,⟨(Bv _ _),(z8 hgB hvk)⟩⟩) _ J (ek) J<|aj 133 (.d (.v (.int .u64 (g*vs.getD k 0:Nat)))) J (by rw[iL])<|gx (fu:=⟨1⟩) J<|aj 134 (.d (.v (.int .u64 (c1:Nat)))) J (by show FX.d (.v (.int _ _))= .d (.v (.int _ _));congr 3;omega)<|gx J<|lb (fu:=⟨3⟩) _ J (cD (k:=i+k)) J<|aj 143 (.d (.v (.int .u64 (c1%4294967296:Nat)))) J (congrArg (fun z:Nat=>FX.d (.v (.int .u64 (z:Int)))) (aFd c1 (by omega)))<|gx (fu:=⟨0⟩) J<|sd (fu:=⟨1⟩) (IntKind.u64.wrap (((ws.getD (i+k) 0:Nat):Int)-((c1%4294967296:Nat):Int))) J J J<|sd (fu:=⟨11⟩) ((xx:Nat):Int) J (by rw[hxx];exact CU _ _ _ hwg hc1m hbo) J<|aj 152 (.d (dU (xx%4294967296))) J (by show FX.d (.v (.int _ _))= .d (.v (.int _ _));congr 3)<|gx J<|sb (fu:=⟨6⟩) (hv:=by simp only[ak];exact(by decide)) _ ((ws.set (i+k) (xx%4294967296)).map dU) J (cD (k:=i+k)) J (by(rw[show((i:Int)+k).toNat=i+k by omega,<-jt])<;>rfl) J<|aj 155 (.d (.v (.int .u64 (xx/9223372036854775808:Nat)))) J (by rw[F1])<|gx (fu:=⟨6⟩) (hv:=by simp only[ak];exact(by decide)) J<|aj 157 (.d (.v (.int .u64 (c1/4294967296:Nat)))) J (by rw[oB])<|gx J<|at_ ⟨ws.set (i+k) (xx%4294967296),k+1,xx/9223372036854775808,c1/4294967296⟩ (by dsimp only;exact⟨⟨by simpa using hwl,hwo.set _ (dK _ (by decide)),by omega,hx2,by omega,DA hwo (dK _ (by decide)) hwM,UM (by omega) hw hc1 hx1⟩,(by omega)⟩)
   .
    obtain rfl:k=n+2:=by omega
    rw[cX (by omega),<-hV] at hw;have hwg:=hwo.get (i+n+2);obtain⟨hx1,hx2,hx3⟩:=Sm (ws.getD (i+n+2) 0) c bo hwg hc4 hbo;obtain⟨xx,hxx⟩: ∃x,x=tE (ws.getD (i+n+2) 0) c bo:=⟨_,rfl⟩;rw[<-hxx] at hx1 hx2 hx3;have hwm:=bO ws;obtain⟨ws2,hws2⟩: ∃z,z=ws.set (i+n+2) (xx%4294967296):=⟨_,rfl⟩;have hl2:=aDt (vS ws (i+n+2) (xx%4294967296) (by omega)) hw hx1;rw[<-wF,<-hws2] at hl2;have hM2:=DA (i:=i+n+2) (d:=xx%4294967296) hwo (dK _ (by decide)) hwM;have ho2:=hwo.set (i+n+2) (d:=xx%4294967296) (dK _ (by decide));have hn2:ws2.length=(dg a).length+1:=by rw[hws2,bQ];exact hwl
    rw[<-hws2] at hM2 ho2;replace hl2:dv ws2+g*V=dv us+xx/9223372036854775808*4294967296^(i+n+3):=hl2;have hqi:=hq0 i (by omega);obtain⟨q2,hq2⟩: ∃z,z=qs.set i g:=⟨_,rfl⟩;have hq2l:q2.length=l:=by rw[hq2,bQ];exact hql
    have hq2m:=bO q2;have hwm2:=bO ws2;refine lb (fu:=⟨2⟩) _ J (cD (k:=i+n+2)) J<|sd (fu:=⟨1⟩) (IntKind.u64.wrap (((ws.getD (i+n+2) 0:Nat):Int)-((c:Nat):Int))) J J J<|sd (fu:=⟨11⟩) ((xx:Nat):Int) J (by rw[hxx];exact CU _ _ _ hwg hc4 hbo) J<|aj 175 (.d (dU (xx%4294967296))) J (by show FX.d (.v (.int _ _))= .d (.v (.int _ _));congr 3)<|gx J<|sb (fu:=⟨8⟩) _ (ws2.map dU) J (cD (k:=i+n+2)) J (by(rw[hws2,show((i:Int)+((n+2:Nat):Int)).toNat=i+n+2 by omega,<-jt])<;>rfl) J<|aj 180 (.d (dU g)) J (by show FX.d (.v (.int _ _))= .d (.v (.int _ _));congr 3;omega)<|gx J<|sb (fu:=⟨7⟩) (hv:=by simp only[ak];exact(by decide)) _ (q2.map dU) J (ek) J (by rw[hq2,<-jt];rfl) J<|aj 183 (.d (.v (.int .u64 (xx/9223372036854775808:Nat)))) J (by rw[F1])<|gx J<|br J J J (fun hc184=>?_) (fun hc184=>?_)
    .
     have ht0:xx/9223372036854775808=0:=by omega
     rw[ht0,kK,gJ] at hl2;exact at_ ⟨ws2,q2,i⟩ (by dsimp only;exact⟨⟨hn2,ho2,hq2l,by rw[hq2];exact hqo.set _ hgB,by omega,by rw[hq2];exact K1 hq0,by rw[hq2];exact Pj (by omega) hqi hinv hV hl2,by rw[<-hV];exact aDK hlo hl2⟩,(by omega)⟩)
    .
     have ht1:xx/9223372036854775808=1:=by omega
     rw[ht1,nJ] at hl2;obtain⟨g',rfl⟩: ∃g',g=g'+1:=⟨g-1,by rcases fT g with h|h;(rw[h,kK] at hl2;omega);omega⟩;have hqs:q2.getD i 0=g'+1:=by rw[hq2];exact AC (by omega)
     refine lb (fu:=⟨0⟩) _ J (ek) J<|aj 188 (.d (dU (g'+1))) J (by first|rw[hqs]|(simp only[bM];rw[hqs]))<|gx (fu:=⟨0⟩) J<|sw ((g':Nat):Int) J (by omega) J<|sb (fu:=⟨12⟩) _ ((qs.set i g').map dU) J (ek) J (by simp only[bM,hq2,jW,List.set_set]<;>rfl) J<|aj 192 (.d (vI (n+2:Nat))) J (by rw[hvm,hvl]<;>rfl)<|gx J<|lp (X:=List Nat×Nat×Nat) (fun⟨wa,k,ca⟩=>[(193, .d (vI (k:Nat))),(18, .d (.v (.int .u64 (ca:Nat))))]) (fun⟨wa,k,ca⟩=>[(41,some (.b 208 1 (wa.map dU) true))]) (fun⟨wa,k,ca⟩=>wa.length=(dg a).length+1/\bD wa/\k<=n+2/\ca<=1/\dv wa<4294967296^(i+n+3)/\dv wa+ca*4294967296^(i+k)=dv ws2+dv (vs.take k)*4294967296^i) (fun⟨wa,k,ca⟩=>n+2-k) ⟨ws2,0,0⟩ J ⟨hn2,ho2,aM _,aM _,hM2,by simp[dv]⟩ (fun _=>J) (fun⟨wa,k,ca⟩ hk=>?_)
     try dsimp only at hk⊢
     obtain⟨hal2,hao,hk2,hac,haM,ha⟩:=hk;refine br J J J (fun hc194=>?_) (fun hc194=>?_)
     .
      have hvk:=hvo.get k;have hag:=hao.get (i+k);obtain⟨t,ht⟩: ∃t,t=ca+(wa.getD (i+k) 0+vs.getD k 0):=⟨_,rfl⟩;have ham:=bO wa;refine lb _ J (ek) J<|lb (fu:=⟨5⟩) _ J (cD (k:=i+k)) J<|aj 209 (.d (.v (.int .u64 (t:Nat)))) J (by show FX.d (.v (.int _ _))= .d (.v (.int _ _));congr 3;omega)<|gx (fu:=⟨11⟩) J<|aj 215 (.d (dU (t%4294967296))) J (by show FX.d (.v (.int _ _))= .d (.v (.int _ _));congr 3)<|gx J<|sb (fu:=⟨5⟩) (hv:=by simp only[ak];exact(by decide)) _ ((wa.set (i+k) (t%4294967296)).map dU) J (cD (k:=i+k)) J (by(rw[show((i:Int)+k).toNat=i+k by omega,<-jt])<;>rfl) J<|aj 218 (.d (.v (.int .u64 (t/4294967296:Nat)))) J (by rw[oB])<|gx J<|at_ ⟨wa.set (i+k) (t%4294967296),k+1,t/4294967296⟩ (by dsimp only;exact⟨⟨by simpa using hal2,hao.set _ (dK _ (by decide)),by omega,by omega,DA hao (dK _ (by decide)) haM,by rw[ht];exact Ty (by omega) ha⟩,(by omega)⟩)
     .
      obtain rfl:k=n+2:=by omega
      rw[cX (by omega),<-hV] at ha;have hag:=hao.get (i+n+2);have ham:=bO wa;have hl4:=Xo (vS wa (i+n+2) ((wa.getD (i+n+2) 0+ca)%4294967296) (by omega)) ha;rw[<-wF] at hl4;have hM4:=DA (i:=i+n+2) (d:=(wa.getD (i+n+2) 0+ca)%4294967296) hao (dK _ (by decide)) haM;obtain⟨hR1,hR2⟩:=aBB hhi hl2 hl4 hM2 hM4 (by omega) (Nat.succ_pos _);refine lb (fu:=⟨2⟩) _ J (cD (k:=i+n+2)) J<|aj 227 (.d (dU ca)) J (by show FX.d (.v (.int _ _))= .d (.v (.int _ _));congr 3;omega)<|gx (fu:=⟨0⟩) J<|aw (((wa.getD (i+n+2) 0+ca)%4294967296:Nat):Int) J (by rw[so];omega) J<|sb _ ((wa.set (i+n+2) ((wa.getD (i+n+2) 0+ca)%4294967296)).map dU) J (cD (k:=i+n+2)) J (by(rw[show((i:Int)+((n+2:Nat):Int)).toNat=i+n+2 by omega,<-jt])<;>rfl) J<|at_ ⟨wa.set (i+n+2) ((wa.getD (i+n+2) 0+ca)%4294967296),qs.set i g',i⟩ (by dsimp only;exact⟨⟨by simpa using hal2,hao.set _ (dK _ (by decide)),by simpa using hql,hqo.set _ (by omega),by omega,K1 hq0,Pj (by omega) hqi hinv hV hR1,by rw[<-hV];exact hR2⟩,(by omega)⟩)
 .
  refine nC 63 J<|nC 41 J ?_;obtain rfl:j=0:=by omega
  obtain⟨e1,e2⟩:=Wg hps hvv hV0' hvB hinv hlt;refine gx J<|cl J (sF (ds:=qs)) J<|kn (fu:=⟨0⟩) 0 (n+2) _ J J J J (rE _) (by omega) (by simp;omega) J<|aj 234 (.d (dk (us.take (n+2)))) J (by first|rfl|(show FX.d (.sl _)=FX.d (.sl _);simp))<|gx J<|cl J (aJa (ds:=us.take (n+2)) (huo.take _) (by simp;omega) hs32) J<|rz J (by show DV.tp [dk _,dN _]= .tp [dN _,dN _];rw[kC hqo e1,e2])
def D7{a b:Nat}[h:BN a i][k:BN b j](hb:0<b)(hi:i<=1000000000:=by decide)(hj:j<=1000000000:=by decide):PF GB prog 275 [dN a,dN b] (.tp [dN (a/b),dN (a%b),vB true]):=by
 have hla:=bO (dg a);have hba:=i5 (a:=a) hi;have hlb:=bO (dg b);have hbb:=i5 (a:=b) hj;have hb0:(dg b).length≠0:=fun e=>by have:=AL e;omega
 have hcn:=AU (a:=a) (b:=b);have hd0:=dG b 0;refine fn func275 J J ntmps275 J J (fun C=>?_);refine cl J (oG) J<|cl (fu:=⟨10⟩) J (oG) J<|aj 17 (.d (vI ((dg b).length:Nat))) J (by rw[hlb]<;>rfl)<|gx (fu:=⟨0⟩) J<|cC J (by show some (decide _)=some false;rw[decide_eq_false (by omega)]) J<|cl J (RG (a:=a) (b:=b) hi hj) J<|br (fu2:=⟨4⟩) J J J (fun hc19=>?_) (fun hc19=>?_)
 .
  refine cl J (RA (ds:=dg a) (gi _)) J<|rz J (by have hlt:=hcn.1 (by omega);rw[mW hlt,kZ hlt,l9];rfl)
 .
  refine aj 28 (.d (vI ((dg b).length:Nat))) J (by rw[hlb]<;>rfl)<|gx J<|br J J J (fun hc26=>?_) (fun hc26=>?_)
  .
   have h1:(dg b).length=1:=by omega
   have e1:=vt h1;have hmd:=dK a (show 0<(dg b).getD 0 0 by omega);refine ix _ J (cD (k:=0) J (by omega)) J<|cl J (aBj (a:=a) (d:=(dg b).getD 0 0) (by omega) (by omega) hi) J<|cl J (zq (a:=a%(dg b).getD 0 0) (by have:=dK a (show 0<(dg b).getD 0 0 by omega);omega)) J<|rz J (by rw[e1];rfl)
  .
   refine cl J (ZX (a:=a) (b:=b) (by omega) (by omega) hi hj) J<|rz J J
def LQ{a:Nat}(h:(dg a).length<=2:=by omega):a<18446744073709551616:=by
 have h1:=r4 a;have h2:(4294967296:Nat)^(dg a).length<=4294967296^2:=bY (by decide) h;omega
def Hv{a b:Nat}[h:BN a i][k:BN b j](hi:i<=1000000000:=by decide)(hj:j<=1000000000:=by decide):PF GB prog 249 [dN a,dN b] (dN (Nat.gcd a b)):=by
 obtain⟨m,hm⟩: ∃m,m=max i j:=⟨_,rfl⟩;have e0: ∀k',k'<=m->(2:Nat)^k'<=2^m:=fun k' h=>bY (by decide) h;have ha9:a<2^m:=cM h.h (e0 i (by omega));have hb9:b<2^m:=cM k.h (e0 j (by omega));refine fn func249 J J ntmps249 J J (fun C=>?_);refine cl J (uS (a:=a) (i:=i) (by omega)) J<|cl J (uS (a:=b) (i:=j) (by omega)) J<|lp (fu:=⟨5⟩) (X:=Nat×Nat) (fun⟨A,B⟩=>[(0, .d (dN A)),(1, .d (dN B))]) (fun⟨A,B⟩=>[]) (fun⟨A,B⟩=>Nat.gcd A B=Nat.gcd a b/\A<2^m/\B<2^m) (fun⟨A,B⟩=>B) ⟨a,b⟩ J ⟨J,ha9,hb9⟩ (fun _=>J) (fun⟨A,B⟩ hk=>?_)
 try dsimp only at hk⊢
 obtain⟨hg,hA,hB⟩:=hk;haveI:BN A m:=⟨hA⟩;haveI:BN B m:=⟨hB⟩;have hlA:=bO (dg A);have hlB:=bO (dg B);have hbA:=i5 (a:=A) (i:=m);have hbB:=i5 (a:=B) (i:=m);refine aj 17 (.d (vI ((dg A).length:Nat))) J (by rw[hlA]<;>rfl)<|gx J<|cs (fu1:=⟨15⟩) (fu2:=⟨2⟩) 19 J J J (fun hg19=>?_) (fun hg19=>?_)
 .
  refine aj 25 (.d (vI ((dg B).length:Nat))) J (by rw[hlB]<;>rfl)<|gx J<|br J J J (fun hc26=>?_) (fun hc26=>?_)
  .
   exact rz J (by have hB0:B=0:=AL;rw[hB0,nT] at hg;rw[<-hg];rfl)
  .
   have hBp:0<B:=iV fun e=>hc26 (by rw[e,vh];rfl);refine cl J (D7 (a:=A) (b:=B) (i:=m) (j:=m) hBp (by omega) (by omega)) J<|at_ ⟨B,A%B⟩ (by dsimp only;exact⟨⟨by rw[<-hg,jV B,<-uQ,jV],hB,tU (dK _ hBp) hB⟩,(dK _ hBp)⟩)
 .
  refine aj 21 (.d (vI ((dg B).length:Nat))) J (by rw[hlB]<;>rfl)<|gx J<|br (fu1:=⟨8⟩) J J J (fun hc23=>?_) (fun hc23=>?_)
  .
   refine aj 25 (.d (vI ((dg B).length:Nat))) J (by rw[hlB]<;>rfl)<|gx J<|br J J J (fun hc26=>?_) (fun hc26=>?_)
   .
    exact rz J (by have hB0:B=0:=AL;rw[hB0,nT] at hg;rw[<-hg];rfl)
   .
    have hBp:0<B:=iV fun e=>hc26 (by rw[e,vh];rfl);refine cl J (D7 (a:=A) (b:=B) (i:=m) (j:=m) hBp (by omega) (by omega)) J<|at_ ⟨B,A%B⟩ (by dsimp only;exact⟨⟨by rw[<-hg,jV B,<-uQ,jV],hB,tU (dK _ hBp) hB⟩,(dK _ hBp)⟩)
  .
   have hA2:=LQ (a:=A);have hB2:=LQ (a:=B);refine cl J (Aq (a:=A) hA2) J<|cl J (Aq (a:=B) hB2) J<|lp (X:=Nat×Nat) (fun⟨u,v⟩=>[(8, .d (.v (.int .u64 (u:Nat)))),(10, .d (.v (.int .u64 (v:Nat))))]) (fun⟨u,v⟩=>[]) (fun⟨u,v⟩=>Nat.gcd u v=Nat.gcd a b/\u<18446744073709551616/\v<18446744073709551616) (fun⟨u,v⟩=>v) ⟨A,B⟩ J ⟨hg,hA2,hB2⟩ (fun _=>J) (fun⟨u,v⟩ hk=>?_)
   try dsimp only at hk⊢
   obtain⟨hg2,hu,hv⟩:=hk;refine br (fu1:=⟨8⟩) J J J (fun hc48=>?_) (fun hc48=>?_)
   .
    refine aj 52 (.d (.v (.int .u64 (u%v:Nat)))) J (by show FX.d (.v (.int _ _))= .d (.v (.int _ _));first|rfl|congr 3)<|gx J<|at_ ⟨v,u%v⟩ (by dsimp only;exact⟨⟨by rw[<-hg2,jV v,<-uQ,jV],hv,tU (dK _ (by omega)) hv⟩,(dK _ (by omega))⟩)
   .
    obtain rfl:v=0:=by omega
    rw[nT] at hg2;refine cl J (zq (a:=u) hu) J<|rz J (by rw[hg2];rfl)

def FM{x:Nat}:bl x=0↔x=0:=by
 have:= @nH x 0;simp at this;omega
def ux{a:Nat}:0<(dg a).length↔0<a:=by
 have:= @vq a;omega
def eS(neg:Bool)(a:Nat):DV:= .ag [.v (.bool neg),dN a]
def ER(neg:Bool)(a:Nat):eI (zv neg a)= .ag [.v (.bool (neg&&decide (0<a))),dN a]:=by unfold eI;rw[q8,KM]
def aC9{b:Int}(h:n≠decide (b<0))(hle:b.natAbs<=u):zv n (u-b.natAbs)=zv n u+b:=by cases n<;>simp[zv] at* <;>omega
def aCX{b:Int}(h:n≠decide (b<0))(hle:u<=b.natAbs):zv (decide (b<0)) (b.natAbs-u)=zv n u+b:=by cases n<;>simp[zv] at* <;>(try rw[if_pos h])<;>(try rw[if_neg (by omega)])<;>omega
def S1(hd:bD ds)(hl:ds.length<=1125899906842624):PF GB prog 180 [.ag [.v (.bool neg),dk ds]] (vB (decide (e7 ds/\(neg=true->0<ds.length)))):=by
 refine fn func180 J J ntmps180 J J (fun C=>?_);refine cl J (Kg hd hl) J<|csd 6 J J J (fun hg6=>?_) (fun hg6=>?_)
 .
  refine iF 10 J J J (fun hg10=>?_) (fun hg10=>?_)
  .
   exact rz J (by unfold vB;congr 2;simp_all [eG])
  .
   exact rz J (by unfold vB;congr 2;simp_all [eG])
 .
  exact rz J (by unfold vB;congr 2;simp_all [eG])
def Ri{a:Nat}[h:BN a i](hi:i<=1000000000:=by decide):PF GB prog 263 [eS n a] (vI (zv n a).sign):=by
 refine fn func263 J J ntmps263 J J (fun C=>?_);refine cl J (vd (a:=a) hi) J<|br J J J (fun hc3=>?_) (fun hc3=>?_)
 .
  exact rz J (by have:=FM.1 (Int.ofNat.inj hc3);subst this;cases n<;>rfl)
 .
  refine bb J J J (fun hc8=>?_) (fun hc8=>?_)
  .
   exact rz J (by subst hc8;rw[eX (by have:a≠0:=(fun e=>hc3 (by rw[e];rfl));simp[zv];omega)];rfl)
  .
   exact rz J (by subst hc8;rw[fU (by have:a≠0:=(fun e=>hc3 (by rw[e];rfl));simp[zv];omega)];rfl)
def IG(h0: -9223372036854775808<=m:=by omega)(h1:m<=9223372036854775807:=by omega):PF GB prog 251 [vI m] (eI m):=by
 refine fn (fu:=⟨8⟩) func251 J J ntmps251 J J (fun C=>?_);refine cu ((m%18446744073709551616:Int)) J (qz _) J<|br (fu1:=⟨2⟩) (fu2:=⟨0⟩) J J J (fun hc7=>?_) (fun hc7=>?_)
 .
  refine nu ((m.natAbs:Nat)) J (by rw[qz];omega) J<|cl J (zq (a:=m.natAbs)) J<|rz J J
 .
  refine aj 3 (.d (.v (.int .u64 (m.natAbs:Nat)))) J (by congr 3;omega)<|gx J<|cl J (zq (a:=m.natAbs)) J<|rz J J
def N9{a:Nat}(h:a<4611686018427387904):PF GB prog 276 [eS n a] (.tp [vI (zv n a),vB true]):=by
 refine fn func276 J J ntmps276 J J (fun C=>?_);refine cl (fu:=⟨2⟩) J (Aq (a:=a) (by omega)) J<|dP J J J<|iF 18 J J J (fun hg18=>?_) (fun hg18=>?_)
 .
  refine br (fu1:=⟨3⟩) J J J (fun hc12=>?_) (fun hc12=>?_)
  .
   refine nu (fu:=⟨0⟩) (((18446744073709551616-a)%18446744073709551616:Int)) J (by rw[qz];omega) J<|cu (zv n a) J (by subst hg18;rw[FQ];simp only[zv,if_true];omega) J<|rz J J
  .
   exact absurd (by omega) hc12
 .
  refine iF 32 J J J (fun hg32=>?_) (fun hg32=>?_)
  .
   refine br J J J (fun hc25=>?_) (fun hc25=>?_)
   .
    exact rz J (by subst hg18;rfl)
   .
    exact absurd (by omega) hc25
  .
   subst hg18;cases hg32
def xp{a:Nat}[h:BN a i](hi:i<=1000000000:=by decide):PF GB prog 271 [eS neg a] (eI (zv neg a)):=by
 refine fn func271 J J ntmps271 J J (fun C=>?_);refine cl J (uS hi) J<|iF 9 J J J (fun hg9=>?_) (fun hg9=>?_)
 .
  exact rz J (by rw[ER];simp[hg9,ux,eG])
 .
  exact rz J (by rw[ER];simp[hg9,ux,eG])
def DU{a:Nat}:PF GB prog 268 [.v (.bool neg),dN a] (eI (zv neg a)):=by
 refine fn func268 J J ntmps268 J J (fun C=>?_);refine iF 6 J J J (fun hg6=>?_) (fun hg6=>?_)
 .
  exact rz J (by rw[ER];simp[hg6,ux,eG])
 .
  exact rz J (by rw[ER];simp[hg6,ux,eG])
def aGo[h:BI m i](hi:i<=1000000000:=by decide):PF GB prog 216 [eI m] (eI (-m)):=by
 refine fn func216 J J ntmps216 J J (fun C=>?_);refine cl J (xp (neg:=!decide (m<0)) (a:=m.natAbs) hi) J<|rz J (by rw[aFY,lC];rfl)
def Gg{a b:Int}[h:BI a i][k:BI b j](hi:i<=1000000000:=by decide)(hj:j<=1000000000:=by decide):PF GB prog 210 [eI a,eI b] (eI (a*b)):=by
 refine fn func210 J J ntmps210 J J (fun C=>?_);refine cl J (xV (a:=a.natAbs) (b:=b.natAbs) hi hj) J<|cl J DU J<|rz J (by rw[show(!(decide (a<0)==decide (b<0)))=(decide (a<0) !=decide (b<0)) from J,Pr,lC,lC];rfl)
def Yr{b:Int}[h:BN u i][k:BI b j](hi:i<=1000000000:=by decide)(hj:j<=1000000000:=by decide):PF GB prog 209 [eS n1 u,eI b] (eI (zv n1 u+b)):=by
 refine fn func209 J J ntmps209 J J (fun C=>?_);refine bb J J J (fun hc13=>?_) (fun hc13=>?_)
 .
  refine cl J (Z2 (b:=b.natAbs) hi hj) J<|cl J DU J<|rz J (by rw[VY,show n1=decide (b<0) from by simpa using hc13,lC];rfl)
 .
  refine cl J (P0 (b:=b.natAbs) hi hj) J<|bd J J J (fun hc30=>?_) (fun hc30=>?_)
  .
   refine cl J DU J<|rz J (by rw[aC9 (by simpa using hc13) hc30];rfl)
  .
   refine cl J (P0 (a:=b.natAbs) hj hi) J<|cl J DU J<|rz J (by rw[aCX (by simpa using hc13) (by omega)];rfl)
def Uk{a b:Int}[h:BI a i][k:BI b j](hi:i<=1000000000:=by decide)(hj:j<=1000000000:=by decide):PF GB prog 209 [eI a,eI b] (eI (a+b)):=(Yr (n1:=decide (a<0)) (u:=a.natAbs) hi hj).to (by rw[lC])
def gm(q:Rat):Prop:= ¬(q.num.natAbs<4611686018427387904/\q.den<4611686018427387904)
instance (q:Rat):Decidable (gm q):=inferInstanceAs (Decidable (¬_))
def du(q:Rat):Int:=if gm q then 0 else q.num
def dt(q:Rat):Int:=if gm q then 0 else(q.den:Int)-1
def di(q:Rat):DV:= .op (decide (gm q)) [.v (.bool (decide (q.num<0))),dN q.num.natAbs,dN q.den]
def eF(q:Rat):DV:= .ag [vI (du q),vI (dt q),di q]
abbrev VH {q:Rat} (h:decide (gm q)=true):gm q:=of_decide_eq_true h
abbrev s8 {q:Rat} (h:decide (gm q)=false): ¬gm q:=of_decide_eq_false h
abbrev Y2 {q:Rat} (h: ¬decide (gm q)=false):gm q:=by simpa using h
abbrev n5 {q:Rat} (h: ¬decide (gm q)=true): ¬gm q:=by simpa using h
def mC(h: ¬gm q):du q=q.num:=if_neg h
def oE(h: ¬gm q):dt q=(q.den:Int)-1:=if_neg h
def qg(h: ¬gm q):q.num.natAbs<4611686018427387904:=(Decidable.not_not.1 h).1
def p9(h: ¬gm q):q.den<4611686018427387904:=(Decidable.not_not.1 h).2
def I4(h:gm q):q≠0:=fun e=>by subst e;exact h ⟨by decide,by decide⟩
def tj{d:Int}{r:DV}(h: ¬gm q)(h1:q.num=m)(h2:(q.den:Int)-1=d)(e:r= .ag [vI m,vI d, .v (.pointer none)])(G:Gh)(y:Value)(k:Is G r y):Is G (eF q) y:=by
 subst e h1 h2;obtain⟨l,rfl,g⟩:=en.1 k;obtain⟨y1,l1,rfl,k1,g1⟩:=bi.1 g;obtain⟨y2,l2,rfl,k2,g2⟩:=bi.1 g1;obtain⟨y3,l3,rfl,k3,g3⟩:=bi.1 g2;exact en.2 ⟨_,J, .cons (by rw[mC h];exact k1) (.cons (by rw[oE h];exact k2) (.cons (sE.2 (.inl ⟨decide_eq_false h,aH.1 k3⟩)) g3))⟩
def M3{a:Nat}{r:DV}(h:gm q)(h1:decide (q.num<0)=n)(h2:q.num.natAbs=a)(h3:q.den=d)(e:r= .ag [vI 0,vI 0, .pt [.v (.bool n),dN a,dN d]])(G:Gh)(y:Value)(k:Is G r y):Is G (eF q) y:=by
 subst e h1 h2 h3;obtain⟨l,rfl,g⟩:=en.1 k;obtain⟨y1,l1,rfl,k1,g1⟩:=bi.1 g;obtain⟨y2,l2,rfl,k2,g2⟩:=bi.1 g1;obtain⟨y3,l3,rfl,k3,g3⟩:=bi.1 g2;exact en.2 ⟨_,J, .cons (by unfold du;rw[if_pos h];exact k1) (.cons (by unfold dt;rw[if_pos h];exact k2) (.cons (sE.2 (.inr ⟨decide_eq_true h,k3⟩)) g3))⟩
def Dc(G:Gh)(y:Value)(k:Is G (.ag [vI 0,vI 0, .v (.pointer none)]) y):Is G (eF 0) y:=tj (fun h=>I4 h J) J J J G y k
def RD(h:m.natAbs<4611686018427387904)(G:Gh)(y:Value)(k:Is G (.ag [vI m,vI 0, .v (.pointer none)]) y):Is G (eF (m:Rat)) y:=
 tj (fun k=>k ⟨by simpa using h,by rw[nQ];decide⟩) (mN m) (by rw[nQ];rfl) J G y k
def Ky{a:Nat}(hd:0<d):(mkRat (zv n a) d).num=zv n (a/Nat.gcd a d)/\(mkRat (zv n a) d).den=d/Nat.gcd a d:=by
 obtain⟨h1,h2⟩:=Rl (m:=zv n a) hd;rw[q8] at h1 h2;exact⟨by rw[h1,U7 (kS _ _)],h2⟩
def Ms{a:Nat}(hd:0<d)(ha:a'=a/Nat.gcd a d)(hd':d'=d/Nat.gcd a d)(h1:a'<4611686018427387904)(h2:d'<4611686018427387904)(G:Gh)(y:Value)(k:Is G (.ag [vI (zv n a'),vI ((d':Int)-1), .v (.pointer none)]) y):Is G (eF (mkRat (zv n a) d)) y:=by
 obtain⟨e1,e2⟩:=Ky (n:=n) (a:=a) hd;rw[<-ha] at e1;rw[<-hd'] at e2;exact tj (fun k=>k ⟨by rw[e1,q8];exact h1,by rw[e2];exact h2⟩) e1 (by rw[e2]) J G y k
def DS{a:Nat}(hd:0<d)(ha:a'=a/Nat.gcd a d)(hd':d'=d/Nat.gcd a d)(h: ¬(a'<4611686018427387904/\d'<4611686018427387904))(G:Gh)(y:Value)(k:Is G (.ag [vI 0,vI 0, .pt [.v (.bool (decide (zv n a'<0))),dN (zv n a').natAbs,dN d']]) y):Is G (eF (mkRat (zv n a) d)) y:=by
 obtain⟨e1,e2⟩:=Ky (n:=n) (a:=a) hd;rw[<-ha] at e1;rw[<-hd'] at e2;exact M3 (fun k=>h ⟨by rw[e1,q8] at k;exact k.1,by rw[e2] at k;exact k.2⟩) (by rw[e1]) (by rw[e1]) e2 J G y k
def aKg{a:Nat}(hd:0<d)(h: ¬(1:Int)<(bl (Nat.gcd a d):Nat)):Nat.gcd a d=1:=by
 have h1:Nat.gcd a d≠0:=fun e=>by rw[Nat.gcd_eq_zero_iff] at e;omega
 have h2:Nat.gcd a d<2^1:=nH.1 (by omega);omega
def mP{x:Nat}:(((bl x:Nat):Int)<=62)↔x<4611686018427387904:=YN
def PF.ofI{f:FuncId}{ds ds':List DV}{r:DV}(h:PF GB P f ds r)(k: ∀G vs,IsLs G ds' vs->IsLs G ds vs):PF GB P f ds' r:=fun G vs hg hv=>h G vs hg (k G vs hv)
def uX{a:Nat}[h:BN a i][k:BN d j](hi:i<=450000000:=by decide)(hj:j<=450000000:=by decide):PF GB prog 213 [eS n a,dN d] (eF (mkRat (zv n a) d)):=by
 refine fn func213 J J ntmps213 J J (fun C=>?_);refine cl J (vd (a:=d) (by omega)) J<|cs 13 J J J (fun hg13=>?_) (fun hg13=>?_)
 .
  exact jk rfl (by obtain rfl:=FM.1 (Int.ofNat.inj hg13);rw[Rat.mkRat_zero];exact Dc)
 .
  have hd0:0<d:=by have:= @FM d;omega
  have hg0:0<Nat.gcd a d:=qR _ hd0;refine cl J (Ri (n:=n) (a:=a) (by omega)) J<|br J J J (fun hc17=>?_) (fun hc17=>?_)
  .
   exact jk J (by rw[gR.1 hc17,Rat.zero_mkRat];exact Dc)
  .
   refine cl J (Hv (a:=a) (b:=d) (by omega) (by omega)) J<|cl J (vd (a:=Nat.gcd a d) (i:=i+j) (by omega)) J<|br J J J (fun hc25=>?_) (fun hc25=>?_)
   .
    obtain⟨a',ea⟩: ∃a',a'=a/Nat.gcd a d:=⟨_,rfl⟩;obtain⟨d',ed⟩: ∃d',d'=d/Nat.gcd a d:=⟨_,rfl⟩;have hba:BN a' i:=ea▸inferInstance;have hbd:BN d' j:=ed▸inferInstance;refine cl (fu:=⟨2⟩) J (D7 (a:=a) (b:=Nat.gcd a d) (j:=i+j) hg0 (by omega) (by omega)) J<|aj 31 (.d (dN a')) J (by rw[ea])<|gx J<|cl (fu:=⟨2⟩) J (D7 (a:=d) (b:=Nat.gcd a d) (j:=i+j) hg0 (by omega) (by omega)) J<|aj 39 (.d (dN d')) J (by rw[ed])<|gx J<|cl J (vd (h:=hba) (by omega)) J<|cs 46 J J J (fun hg46=>?_) (fun hg46=>?_)
    .
     refine cl J (vd (h:=hbd) (by omega)) J<|br J J J (fun hc50=>?_) (fun hc50=>?_)
     .
      have hs2:=mP.1 hc50;refine cl J (N9 (mP.1 hg46)) J<|cl J (Aq (by have:=mP.1 hc50;omega)) J<|jk J (Ms hd0 ea ed (mP.1 hg46) (mP.1 hc50))
     .
      refine cl J (xp (neg:=n) (h:=hba) (by omega)) J<|cl J (uS (h:=hbd) (by omega)) J<|fz 71 J J<|jk J (DS hd0 ea ed (fun e=>hc50 (mP.2 e.2)))
    .
     refine cl J (xp (neg:=n) (h:=hba) (by omega)) J<|cl J (uS (h:=hbd) (by omega)) J<|fz 71 J J<|jk J (DS hd0 ea ed (fun e=>hg46 (mP.2 e.1)))
   .
    have hg1:=aKg hd0 hc25;have ea:a=a/Nat.gcd a d:=by rw[hg1,uZ]
    have ed:d=d/Nat.gcd a d:=by rw[hg1,uZ]
    have hba:=h;have hbd:=k;refine cl J (vd (h:=hba) (by omega)) J<|cs 46 J J J (fun hg46=>?_) (fun hg46=>?_)
    .
     refine cl J (vd (h:=hbd) (by omega)) J<|br J J J (fun hc50=>?_) (fun hc50=>?_)
     .
      have hs2:=mP.1 hc50;refine cl J (N9 (mP.1 hg46)) J<|cl J (Aq (by have:=mP.1 hc50;omega)) J<|jk J (Ms hd0 ea ed (mP.1 hg46) (mP.1 hc50))
     .
      refine cl J (xp (neg:=n) (h:=hba) (by omega)) J<|cl J (uS (h:=hbd) (by omega)) J<|fz 71 J J<|jk J (DS hd0 ea ed (fun e=>hc50 (mP.2 e.2)))
    .
     refine cl J (xp (neg:=n) (h:=hba) (by omega)) J<|cl J (uS (h:=hbd) (by omega)) J<|fz 71 J J<|jk J (DS hd0 ea ed (fun e=>hg46 (mP.2 e.1)))
def Hm[h:BI m i](hi:i<=400000000:=by decide):PF GB prog 181 [eI m] (eF (m:Rat)):=by
 refine fn func181 J J ntmps181 J J (fun C=>?_);refine rf (fu:=⟨0⟩) J J<|aj 4 (.d (dN 1)) J (by unfold dN;rw[Ak];rfl)<|gx J<|cl J (uX (n:=decide (m<0)) (a:=m.natAbs) (d:=1) (by omega)) J<|rz J (by rw[lC,show mkRat m 1=(m:Rat) from sS ..];rfl)
def z7:PF GB prog 182 [eF q] (vB (decide (q=0))):=by
 refine fn func182 J J ntmps182 J J (fun C=>?_);refine cs 6 J J J (fun hg6=>?_) (fun hg6=>?_)
 .
  exact rz J (by rw[mC (s8 hg6)];show DV.v (.bool (decide _))= .v (.bool _);congr 2;exact decide_eq_decide.2 ⟨fun e=>mX.1 e,fun e=>by rw[e];rfl⟩)
 .
  exact rz J (by rw[decide_eq_false (I4 (Y2 hg6))];rfl)
def BO(h:m.natAbs<9223372036854775808:=by omega):PF GB prog 248 [vI m] (.v (.int .u64 (m.natAbs:Nat))):=by
 refine fn func248 J J ntmps248 J J (fun C=>?_);refine br J J J (fun hc4=>?_) (fun hc4=>?_)
 .
  exact rz J (by show DV.v (.int _ _)=_;congr 2;omega)
 .
  exact rz J (by show DV.v (.int _ _)=_;congr 2;omega)
def q7[h:BQ q i](hi:i<=900000000:=by decide):PF GB prog 212 [eF q] (dN q.den):=by
 refine fn func212 J J ntmps212 J J (fun C=>?_);refine br (v1:=fun hc5=>by simp only[ak];exact hc5) (fu2:=⟨6⟩) J J J (fun hc5=>?_) (fun hc5=>?_)
 .
  refine cl J (uS (a:=q.den) (by omega)) J<|rz J J
 .
  have hd:=q.den_nz;have hs:=p9 (n5 hc5);refine aj 13 (.d (vI ((q.den:Int)-1))) J (by rw[oE (n5 hc5)])<|gx (fu:=⟨2⟩) J<|aj 15 (.d (.v (.int .u64 (q.den:Nat)))) J (by congr 3;omega)<|gx J<|cl J (zq (a:=q.den)) J<|rz J J
def sI[h:BQ q i](hi:i<=900000000:=by decide):PF GB prog 211 [eF q] (eI q.num):=by
 refine fn func211 J J ntmps211 J J (fun C=>?_);refine br (v1:=fun hc5=>by simp only[ak];exact hc5) (fu2:=⟨6⟩) J J J (fun hc5=>?_) (fun hc5=>?_)
 .
  refine cl J (xp (neg:=decide (q.num<0)) (a:=q.num.natAbs) (by omega)) J<|rz J (by rw[lC];rfl)
 .
  have hs:=qg (n5 hc5);refine aj 13 (.d (vI q.num)) J (by rw[mC (n5 hc5)])<|gx J<|cl J (IG) J<|rz J J
def qC[h:BQ q i](hi:i<=900000000:=by decide):PF GB prog 133 [eF q] (eF (-q)):=by
 refine fn func133 J J ntmps133 J J (fun C=>?_);refine br (v1:=fun hc5=>by simp only[ak];exact hc5) (fu2:=⟨6⟩) J J J (fun hc5=>?_) (fun hc5=>?_)
 .
  refine cl (fu:=⟨6⟩) (hv:=by simp only[ak];exact hc5) J (aGo (m:=q.num) (by omega)) J<|L2 J J<|jk J (M3 (q:= -q) (fun k=>VH hc5 (by rw[oZ,jT,sN] at k;exact k)) (by rw[oZ]) (by rw[oZ]) (sN q) J)
 .
  have hs:=qg (n5 hc5);refine aj 21 (.d (vI q.num)) J (by rw[mC (n5 hc5)])<|gx J<|jk J (tj (q:= -q) (fun k=>k (by rw[oZ,jT,sN];exact⟨hs,p9 (n5 hc5)⟩)) (by rw[oZ]) (by rw[sN,oE (n5 hc5)]) J)
def mi[h:BQ q i](hi:i<=900000000:=by decide):PF GB prog 203 [eF q] (vI q.num.sign):=by
 refine fn func203 J J ntmps203 J J (fun C=>?_);refine br (v1:=fun hc3=>by simp only[ak];exact hc3) J J J (fun hc3=>?_) (fun hc3=>?_)
 .
  refine cl J (Ri (n:=decide (q.num<0)) (a:=q.num.natAbs) (by omega)) J<|rz J (by rw[lC];rfl)
 .
  have hs:=mC (n5 hc3);refine br J J J (fun hc13=>?_) (fun hc13=>?_)
  .
   exact rz J (by rw[eX (by omega)];rfl)
  .
   refine br J J J (fun hc17=>?_) (fun hc17=>?_)
   .
    exact rz J (by rw[fU (by omega)];rfl)
   .
    exact rz J (by rw[show q.num=0 by omega];rfl)
def aqk{a b:Nat}(h:b<=a):(dg b).length<=(dg a).length:=AT (dR h (r4 a))
def y9{a b:Nat}[ha:BN a ia][hb:BN b ib](hb0:0<b)(hi:ia<=500000000:=by decide)(hj:ib<=500000000:=by decide):PF GB prog 114 [dN a,dN b] (.tp [dN (a/b),dN (a%b)]):=by
 have hla:=bO (dg a);have hlb:=bO (dg b);have hba:=jC ha.h;have hbb:=jC hb.h;have hba':(dg a).length<=20000000:=by omega
 have hbb':(dg b).length<=20000000:=by omega
 have hlb1:1<=(dg b).length:=LL (k:=0) (by rw[tL];exact hb0);refine fn (fu:=⟨7⟩) func114 J J ntmps114 J J (fun C=>?_);refine mg (X:=Unit) (fun _=>[(0, .d (dN a)),(1, .d (dN b))]) (fun _=>[]) (fun _=>True) [0,1] [] rfl ?_ (fun _=>J) (fun _ hm=>?_)
 .
  refine gx J<|cl J (CX (a:=a) (ia:=ia) (by omega)) J<|bd (fu1:=⟨0⟩) J J J (fun hc18=>?_) (fun hc18=>?_)
  .
   refine aj 6 (.d (.v (.int .u64 (a:Nat)))) J (by rw[if_pos hc18])<|gx J<|cl J (CX (a:=b) (ia:=ib) (by omega)) J<|bd (fu1:=⟨0⟩) J J J (fun hc24=>?_) (fun hc24=>?_)
   .
    refine aj 8 (.d (.v (.int .u64 (b:Nat)))) J (by rw[if_pos hc24]) ?_;have hdl:=mM a b;have hml:=Nat.mod_le a b;refine gx (hv:=by simp only[ak];exact⟨(by omega),(by omega),(by omega)⟩) J<|cl (hv:=by simp only[ak];exact⟨(by omega),(by omega)⟩) J (sO (u:=a/b)) J<|cl J (sO (u:=a%b)) J<|rz J J
   .
    exact at_ () trivial
  .
   exact at_ () trivial
 .
  refine cl J (yv) J<|br J J J (fun hc36=>?_) (fun hc36=>?_)
  .
   have hab:=yi.1 hc36;refine pI J J<|ap _ J J (rE _) J<|gp 39 J<|rz J (by show DV.tp [_, .sl ([]++_)]= .tp [_,_];rw[mW hab,kZ hab,l9];rfl)
  .
   have hab:b<=a:=sU fun q=>hc36 (yi.2 q);have hlab:(dg b).length<=(dg a).length:=aqk hab;refine br (fu1:=⟨4⟩) J J J (fun hc42=>?_) (fun hc42=>?_)
   .
    have hb1:b<4294967296:=by have:=r4 b;rw[show(dg b).length=1 by omega] at this;omega
    have hbd:(dg b).getD 0 0=b:=vt;refine aj 44 (.d (vI ((dg a).length:Nat))) J (by rw[hla];rfl)<|gx J<|mk (fu:=⟨13⟩) ((List.replicate (dg a).length 0).map dU) J J (by rw[<-m6];rfl) J<|aj 47 (.d (vI ((dg a).length:Nat))) J (by rw[hla];rfl)<|gx J<|lp (X:=List Nat×Nat) (fun⟨W,k⟩=>[(0, .d (dN a)),(1, .d (dN b)),(10, .rw 45),(11, .d (dU (dv ((dg a).drop k)%b))),(12, .d (vI ((k:Nat)-1)))]) (fun⟨W,k⟩=>[(45,some (.b 208 1 (W.map dU) true))]) (fun⟨W,k⟩=>W.length=(dg a).length/\bD W/\k<=(dg a).length/\dv (W.drop k)=dv ((dg a).drop k)/b) (fun⟨W,k⟩=>k) ⟨List.replicate (dg a).length 0,(dg a).length⟩ J ⟨by simp, .replicate _,bW _,by simp[dv]⟩ (fun _=>J) (fun⟨W,k⟩ hk=>?_) (hF:=(by refine⟨J,J,J,oO J (by simp[dv,dU]),oO J (by simp[vI]),?_⟩;repeat (first|exact trivial|refine And.intro J ?_)))
    try dsimp only at hk⊢
    obtain⟨h1,h2,h3,h4⟩:=hk;have hlw:=bO W;refine br (fu1:=⟨0⟩) J J J (fun hc50=>?_) (fun hc50=>?_)
    .
     obtain⟨k,rfl⟩: ∃j,k=j+1:=⟨k-1,by omega⟩;have hsi:=XU hb0 (by omega) h1 h4;have hrm:=dK (dv ((dg a).drop (k+1))) hb0;have hdk:=dG a k;have hqd:(dv ((dg a).drop (k+1))%b*4294967296+(dg a).getD k 0)/b<4294967296:=by rw[kJ hb0];have:=fR 4294967296 (show dv ((dg a).drop (k+1))%b+1<=b from hrm);omega
     refine aj 12 (.d (vI (k:Nat))) J (by show FX.d (.v (.int _ _))= .d (.v (.int _ _));congr 3;omega)<|gx J<|ix _ J (cD (k:=k)) J<|ix _ J (cD (k:=0) J (by omega)) J<|cl J (Zb (h:=dv ((dg a).drop (k+1))%b) (l:=(dg a).getD k 0) (y:=(dg b).getD 0 0) (by omega) hdk (by omega)) J<|sb (hv:=by simp only[ak];exact⟨by kernel_rfl,by omega⟩) _ ((W.set k ((dv ((dg a).drop (k+1))%b*4294967296+(dg a).getD k 0)/b)).map dU) J (cD (k:=k)) J (by(rw[hbd,bM,<-jt])<;>rfl) J<|at_ ⟨W.set k ((dv ((dg a).drop (k+1))%b*4294967296+(dg a).getD k 0)/b),k⟩ (by dsimp only;exact⟨⟨by simpa using h1,h2.set _ hqd,by omega,hsi.1⟩,(by omega)⟩) (by refine⟨J,J,J,oO J (by rw[hsi.2,hbd]),oO J (by first|(simp[vI];done)|(simp[vI];omega)),?_⟩;repeat (first|exact trivial|refine And.intro J ?_))
    .
     refine fz 45 J J<|cl rfl (qI (ds:=W)) rfl<|rf J J<|cl rfl (qI (ds:=[dv ((dg a).drop k)%b]) (by simp)) rfl<|rz rfl (by show DV.tp [dk _,dk _]= .tp [_,_];obtain rfl:k=0:=(by omega);rw[iX,iX,c8] at h4;rw[iX,c8];rw[kC h2 h4,kC (.cons (by have:=dK a hb0;omega) .nil) (n:=a%b) (by simp[dv])])
   .
    refine cl J (aGQ (by omega) (by omega) hlb1 hlab) J<|rz J J
def RC(x y:Nat):Nat.gcd y (x%y)=Nat.gcd x y:=by rw[jV x y,uQ y x,jV]
def Ad{a b:Nat}[ha:BN a ia][hb:BN b ib](hi:ia<=240000000:=by decide)(hj:ib<=240000000:=by decide):PF GB prog 111 [dN a,dN b] (dN (Nat.gcd a b)):=by
 refine fn (fu:=⟨6⟩) func111 J J ntmps111 J J (fun C=>?_);refine mg (X:=Unit) (fun _=>[(0, .d (dN a)),(1, .d (dN b))]) (fun _=>[]) (fun _=>True) [0,1] [] rfl ?_ (fun _=>J) (fun _ hm=>?_)
 .
  refine gx J<|cl J (CX (a:=a) (ia:=ia) (by omega)) J<|bd (fu1:=⟨0⟩) J J J (fun hc16=>?_) (fun hc16=>?_)
  .
   refine aj 5 (.d (.v (.int .u64 (a:Nat)))) J (by rw[if_pos hc16])<|gx J<|cl J (CX (a:=b) (ia:=ib) (by omega)) J<|bd (fu1:=⟨0⟩) J J J (fun hc22=>?_) (fun hc22=>?_)
   .
    refine aj 7 (.d (.v (.int .u64 (b:Nat)))) J (by rw[if_pos hc22])<|gx J<|lp (X:=Nat×Nat) (fun⟨x,y⟩=>[(5, .d (.v (.int .u64 (x:Nat)))),(7, .d (.v (.int .u64 (y:Nat))))]) (fun⟨x,y⟩=>[]) (fun⟨x,y⟩=>x<18446744073709551616/\y<18446744073709551616/\Nat.gcd x y=Nat.gcd a b) (fun⟨x,y⟩=>y) ⟨a,b⟩ J ⟨hc16,hc22,J⟩ (fun _=>J) (fun⟨x,y⟩ hk=>?_)
    try dsimp only at hk⊢
    obtain⟨h1,h2,h3⟩:=hk;refine br (v1:=fun hc24=>by simp only[ak];exact⟨⟨(by omega),(by omega)⟩,by kernel_rfl⟩) J J J (fun hc24=>?_) (fun hc24=>?_)
    .
     exact at_ ⟨y,x%y⟩ (by dsimp only;exact⟨⟨h2,by have:=dK x (show 0<y by omega);omega,by rw[RC,h3]⟩,(by exact dK _ (by omega))⟩)
    .
     refine cl J (sO (u:=x) h1) J<|rz J (by show dN x=_;rw[<-h3,show y=0 by omega,nT])
   .
    exact at_ () trivial
  .
   exact at_ () trivial
 .
  refine lp (fu:=⟨5⟩) (X:=Nat×Nat) (fun⟨x,y⟩=>[(0, .d (dN x)),(1, .d (dN y))]) (fun⟨x,y⟩=>[]) (fun⟨x,y⟩=>x<2^(ia+ib)/\y<2^(ia+ib)/\Nat.gcd x y=Nat.gcd a b) (fun⟨x,y⟩=>y) ⟨a,b⟩ J ⟨(ha.mono (by omega)).h,(hb.mono (by omega)).h,J⟩ (fun _=>J) (fun⟨x,y⟩ hk=>?_)
  try dsimp only at hk⊢
  obtain⟨h1,h2,h3⟩:=hk;have hly:=bO (dg y);haveI hx':BN x (ia+ib):=⟨h1⟩;haveI hy':BN y (ia+ib):=⟨h2⟩;refine aj 32 (.d (vI ((dg y).length:Nat))) J (by rw[hly];rfl)<|gx J<|br J J J (fun hc33=>?_) (fun hc33=>?_)
  .
   have hy0:0<y:=iV fun q=>by subst q;rw[vh] at hc33;simp at hc33
   refine cl J (y9 (a:=x) (b:=y) (ia:=ia+ib) (ib:=ia+ib) hy0 (by omega) (by omega)) J<|at_ ⟨y,x%y⟩ (by dsimp only;exact⟨⟨h2,by have:=dK x hy0;omega,by rw[RC,h3]⟩,(by exact dK _ hy0)⟩)
  .
   have hy0:y=0:=vq.1 (by omega);have hlx:=jC h1;have hmx:=bO (dg x);refine pI J J<|ap _ J J (rE _) J<|gp 44 J<|rz J (by show DV.sl ([]++_)=_;rw[<-h3,hy0,nT];rfl)
def LZ(neg:Bool)(m:Nat):eI (zv neg m)= .ag [.v (.bool (neg&&decide (0<m))),dN m]:=by unfold eI;rw[q8,KM]
def aF4(z:Int):zv (!decide (z<0)) z.natAbs= -z:=by
 unfold zv;by_cases h:z<0<;>simp[h]<;>omega
def S5(a b:Int):zv (!(decide (a<0)==decide (b<0))) (a.natAbs*b.natAbs)=a*b:=by
 have h:=Pr (decide (a<0)) (decide (b<0)) a.natAbs b.natAbs;rw[lC,lC] at h;exact h
def jF{m:Nat}:PF GB prog 115 [.v (.bool neg),dN m] (eI (zv neg m)):=by
 have hl:=bO (dg m);have hz:= @vq m;refine fn func115 J J ntmps115 J J (fun C=>?_);refine iF 6 J J J (fun hg6=>?_) (fun hg6=>?_)
 .
  exact rz J (by rw[LZ,hg6];show DV.ag [.v (.bool _),_]= .ag [.v (.bool _),_];congr 4;rw[sT];exact decide_eq_decide.2 (by omega))
 .
  exact rz J (by rw[LZ,hg6];rfl)
structure Jd where
 lo:RV
 hi:RV
 nl:Bool
 nh:Bool
def Jd.v(z:Jd):Value:= .agg ⟨[.int .i64 z.lo.n, .int .i64 z.lo.d, .pointer z.lo.p, .int .i64 z.hi.n, .int .i64 z.hi.d, .pointer z.hi.p, .bool z.nl, .bool z.nh]⟩
section
variable {n:Nat}{own:List aA}
variable {gd:Option (Nat×Bool)}{x:Operand}
end

structure Nk where
 l:LV
 v:Jd
def Nk.val(z:Nk):Value:= .agg ⟨[.int .i64 z.l.a.n, .int .i64 z.l.a.d, .pointer z.l.a.p, .int .i64 z.l.b.n, .int .i64 z.l.b.d, .pointer z.l.b.p, .int .i64 z.l.c.n, .int .i64 z.l.c.d, .pointer z.l.c.p, .int .i64 z.v.lo.n, .int .i64 z.v.lo.d, .pointer z.v.lo.p, .int .i64 z.v.hi.n, .int .i64 z.v.hi.d, .pointer z.v.hi.p, .bool z.v.nl, .bool z.v.nh]⟩
inductive gz {α β:Type} (R:α->β->Prop):List α->List β->Prop
 |nil:gz R [] []
 |cons {a b us bs} (h:R a b) (t:gz R us bs):gz R (a::us) (b::bs)
def gz.len{R:α->β->Prop}{us:List α}{bs:List β}(h:gz R us bs):us.length=bs.length:=by
 induction h with
 |nil=>rfl
 |cons _ _ ih=>simp[ih]
def gz.imp{R S:α->β->Prop}{us:List α}{bs:List β}(h:gz R us bs)(k: ∀a b,R a b->S a b):gz S us bs:=by
 induction h with
 |nil=>exact .nil
 |cons h _ ih=>exact .cons (k _ _ h) ih
def gz.get{R:α->β->Prop}{us:List α}{bs:List β}(h:gz R us bs){b:β}(hi:bs[i]? =some b): ∃a,us[i]? =some a/\R a b:=by
 induction h generalizing i with
 |nil=>simp at hi
 | @cons a b' us bs h t ih=>
  cases i with
  |zero=>simp at hi;subst hi;exact⟨a,J,h⟩
  |succ i=>simpa using ih (i:=i) (by simpa using hi)
def gz.app{R:α->β->Prop}{us us':List α}{bs bs':List β}(h:gz R us bs)(k:gz R us' bs'):gz R (us++us') (bs++bs'):=by
 induction h with
 |nil=>exact k
 |cons h _ ih=>exact .cons h ih

section
variable {n:Nat}{own:List aA}
variable {gd:Option (Nat×Bool)}{x:Operand}
def WK{o1 o2:aA}(h:o1.b≠o2.b->St C n fr (o1::o2::rest) G Φ):St C n fr (o1::o2::rest) G Φ:=
 fun a w rl=>h ((bL.1 rl.h.nd).1 _ aQ) a w rl
def B8[hT:cw P t e s by_]{k:IntKind}{b len:Nat}{l:Int}(hx:aB fr x=some (.slice (some ⟨b,off,none⟩) len cap))(hy:aB fr y=some (.int k l))(h0:0<=l:=by omega)(h1:l<=len:=by omega)(h2:l<cap:=by omega):
  Yd P C fr own G ⟨dst, .slice t x (some y) none none,ty',pos,af,gd⟩ (.slice (some ⟨b,off+l.toNat*s,none⟩) (len-l.toNat) (cap-l.toNat)):=by
 have h:=IP (P:=P) (C:=C) (own:=own) (G:=G) (t:=t) (dst:=dst) (ty':=ty') (pos:=pos) (af:=af) (gd:=gd) (by_:=by_) hx hy h0 h1;unfold mI at h;rw[if_neg (by omega)] at h;simpa[rG] using h
end

section
variable {n:Nat}{own:List aA}
variable {gd:Option (Nat×Bool)}{x:Operand}
end


structure ND where
 a:IV
 b:IV
 c:IV
 l:Int
 r:Int
def ND.val(z:ND):Value:= .agg ⟨[.bool z.a.neg, .slice z.a.a.a z.a.a.n z.a.a.c, .bool z.b.neg, .slice z.b.a.a z.b.a.n z.b.a.c, .bool z.c.neg, .slice z.c.a.a z.c.a.n z.c.a.c, .int .i64 z.l, .int .i64 z.r]⟩
structure rk (k:Nat) (G:Gh) (z:ND) (n:NQ):Prop where
 a:pH k G z.a n.l.a
 b:pH k G z.b n.l.b
 c:pH k G z.c n.l.c
 l:z.l=n.a
 r:z.r=n.b
def rk.up{k:Nat}{A G:Gh}{z:ND}{n:NQ}(h:rk k A z n)[GL A G]:rk k G z n:=⟨h.a.up,h.b.up,h.c.up,h.l,h.r⟩
structure aJ4 (k:Nat) (G:Gh) (x:SV) (ns:List NQ):Prop where
 ex: ∃zs:List ND,gg G 8 x (zs.map ND.val)/\gz (rk k G) zs ns

def ND.len8(zs:List ND): ∀v∈zs.map ND.val,(aG v).length=8:=fun v hv=>by
 obtain⟨f,_,rfl⟩:=aT.1 hv;rfl
def ND.flat(zs:List ND): ∀v∈zs.map ND.val,∀c∈aG v,Sx.flat c=true:=fun v hv c hc=>by
 obtain⟨f,_,rfl⟩:=aT.1 hv;simp only[ND.val,aG,aW,fK,or_false] at hc;rcases hc with rfl|rfl|rfl|rfl|rfl|rfl|rfl|rfl<;>rfl
def gz.set{α β:Type}{R:α->β->Prop}{us:List α}{bs:List β}(h:gz R us bs){a:α}{b:β}(hr:R a b)(i:Nat):gz R (us.set i a) (bs.set i b):=by
 induction h generalizing i with
 |nil=>simp;exact .nil
 |cons h t ih=>
  cases i with
  |zero=>exact .cons hr t
  |succ i=>exact .cons h (ih i)
def Om(zs:List ND)(rest:List Value)(i j:Nat)(x:Value)(z:ND)(hi:i<zs.length)(hj:j<8)(hz:aG z.val=(aG (zs[i]).val).set j x):
  (aE (zs.map ND.val)++rest).set (i*8+j) x=aE ((zs.set i z).map ND.val)++rest:=by
 have hi':i<(zs.map ND.val).length:=by simpa using hi
 rw[LF hj _ i hi' (ND.len8 zs),pS,<-hz,jW,List.set_eq_take_append_cons_drop,if_pos hi',n7];have e:aE (z.val::(zs.map ND.val).drop (i+1))=aG z.val++aE ((zs.map ND.val).drop (i+1)):=by simp[aE]
 rw[e];simp[dV]
def nA(ob wb:Nat):Value:= .func (.func 162) #[] #[.pointer (some ⟨ob,0,none⟩), .pointer (some ⟨wb,0,none⟩)]
structure Mf where
 x:SV
 p:Option Addr
def Mf.val(z:Mf):Value:= .agg ⟨[.slice z.x.a z.x.n z.x.c, .pointer z.p]⟩
structure LI where
 a:IV
 b:IV
 c:IV
def LI.val(z:LI):Value:= .agg ⟨[.bool z.a.neg, .slice z.a.a.a z.a.a.n z.a.a.c, .bool z.b.neg, .slice z.b.a.a z.b.a.n z.b.a.c, .bool z.c.neg, .slice z.c.a.a z.c.a.n z.c.a.c]⟩
def vv{a b:Int}(h:a=b):eI a=eI b:=by rw[h]
def DM(z:Int):eQ (z:Rat)= .ag [.v (.bool (decide (z<0))),dN z.natAbs, .sl []]:=by unfold eQ;rw[mN,nQ];rfl
def DT{a:Rat}(h:a.den=1):((a.num:Int):Rat)=a:=Rat.ext (mN _) (by rw[nQ,h])
def SY{a b:Rat}(ha:a.den=1)(hb:b.den=1):a+b=((a.num+b.num:Int):Rat):=by
 rw[lV,DT ha,DT hb]
def WB{a b:Rat}(ha:a.den=1)(hb:b.den=1):a*b=((a.num*b.num:Int):Rat):=by
 rw[cZ,DT ha,DT hb]
def yt(n:Nat)(h:0<n):(if n=1 then [] else(dg n).map dU).length=0↔n=1:=by
 by_cases q:n=1
 .simp[q]
 .rw[if_neg q,aX,vq];omega
def Pd{n:Nat}(h:n≠1):dD n=dN n:=by unfold dD;rw[if_neg h];rfl
def JE:(iE g 1=0)↔g=1:=by
 unfold iE;constructor
 .intro h;split at h
  .exact absurd h (by decide)
  .split at h
   .assumption
   .exact absurd h (by decide)
 .rintro rfl;rfl
def Pw{x:Int}(hd:0<d):zv (decide (x<0)) (x.natAbs/Nat.gcd x.natAbs d)=(mkRat x d).num:=by
 rw[Rat.num_mkRat,if_neg (by omega),jV];have hg:0<Nat.gcd d x.natAbs:=mS _ hd;obtain⟨c,hc⟩:Nat.gcd d x.natAbs∣x.natAbs:=lN _ _;generalize Nat.gcd d x.natAbs=g at*;rw[hc,rU _ hg];unfold zv;by_cases q:x<0
 .rw[if_pos (by simpa using q),show x=(g:Int)*(-(c:Int)) by rw[Int.mul_neg,<-iL];omega,Int.mul_ediv_cancel_left _ (by omega)]
 .rw[if_neg (by simpa using q),show x=(g:Int)*(c:Int) by rw[<-iL];omega,Int.mul_ediv_cancel_left _ (by omega)]
def Lj{x:Int}(hd:0<d):d/Nat.gcd x.natAbs d=(mkRat x d).den:=by
 rw[Rat.den_mkRat,if_neg (by omega),jV]
def aGl{x:Int}(hd:0<d)(h:Nat.gcd x.natAbs d=1):(mkRat x d).num=x/\(mkRat x d).den=d:=by
 rw[<-Pw hd,<-Lj hd,h,uZ,uZ];exact⟨lC x,J⟩
instance BI.zv (neg:Bool) (m i:Nat) [h:BN m i]:BI (zv neg m) i:=⟨by rw[q8];exact h.h⟩
section
variable {n:Nat}{fr:aC}{own own':aI}
def Pa(fr:aC)(cf:Cf):Option Int:=match cI fr cf with
 |some ⟨_, .convert t t' x,_,_,_,_⟩=>match dO tt t,dO tt t' with
  |some ⟨.int .i64,_,_,_⟩,some ⟨.int .u64,_,_,_⟩=>match bh (b9 fr cf) x with
   |some (.d (.v (.int .i64 p)))=>some p
   |_=>none
  |_,_=>none
 |_=>none
def cvw[fu:Fu]{p:Int}(q:Int)(h:Pa fr cf=some p)(e:p%18446744073709551616=q)(hgo:cH tt n fu.n fr own cf (.d (.v (.int .u64 q))) [] []=⟨vc,fr',own',cf'⟩)(k:av prog GB C n Q0 fr' own' cf')
  (hv:ak vc:=by first|exact trivial|(simp only[ak];omega)):av prog GB C n Q0 fr own cf:=by
 unfold Pa at h;split at h<;>try (cases h;done)
 rename_i hh;split at h<;>try (cases h;done)
 rename_i hT hT';split at h<;>cases h;rename_i hx;have:=x8 (et _ _ hT) J;have:=x8 (et _ _ hT') J;refine us hh (.x1 hx fun ρ G ov a w y _ r h1 h2=>?_) hgo hv k;rw[c7] at h2;subst h2;refine⟨_,c7.2 J,?_⟩;rw[<-e,<-qz];exact Cu h1
def Lg(fr:aC)(cf:Cf):Option Int:=match cI fr cf with
 |some ⟨_, .unOp .neg _ x,_,_,_,_⟩=>match bh (b9 fr cf) x with
  |some (.d (.v (.int .u64 p)))=>some p
  |_=>none
 |_=>none
def V8[fu:Fu]{p:Int}(q:Int)(h:Lg fr cf=some p)(e:(0-p)%18446744073709551616=q)(hgo:cH tt n fu.n fr own cf (.d (.v (.int .u64 q))) [] []=⟨vc,fr',own',cf'⟩)(k:av prog GB C n Q0 fr' own' cf')
  (hv:autoParam (ak vc) cvw._auto_1):av prog GB C n Q0 fr own cf:=by
 unfold Lg at h;split at h<;>try (cases h;done)
 rename_i hh;split at h<;>cases h;rename_i hx;refine us hh (.x1 hx fun ρ G ov a w y _ r h1 h2=>?_) hgo hv k;rw[c7] at h2;subst h2;refine⟨_,c7.2 J,?_⟩;rw[<-e,<-qz];exact Ge h1
end
def So{n:Int}(h0: -4611686018427387904<=n:=by omega)(h1:n<=4611686018427387904:=by omega):PF GB prog 53 [.v (.int .i64 n)] (eI n):=by
 refine fn func53 J J ntmps53 J J (fun C=>?_);refine br (fu1:=⟨3⟩) (fu2:=⟨6⟩) J J J (fun hc4=>?_) (fun hc4=>?_)
 .
  refine cvw (fu:=⟨0⟩) (18446744073709551616+n) J (by omega) J<|V8 (n.natAbs:Nat) J (by omega) J<|cl J (sO (u:=n.natAbs)) J<|cl J jF J<|rz J (vv (by unfold zv;rw[if_pos J];omega))
 .
  refine aj 11 (.d (.v (.int .u64 (n.natAbs:Nat)))) J (by show FX.d (.v (.int _ _))= .d (.v (.int _ _));congr 3;omega)<|gx J<|cl J (sO (u:=n.natAbs)) J<|cl J jF J<|rz J (vv (by unfold zv;rw[if_neg (by decide)];omega))
def wZ:PF GB prog 117 [eI z] (vI z.sign):=by
 have hl:=bO (dg z.natAbs);have hz:= @vq z.natAbs;refine fn func117 J J ntmps117 J J (fun C=>?_);refine br J J J (fun hc6=>?_) (fun hc6=>?_)
 .
  exact rz J (by show DV.v (.int _ 0)=DV.v (.int _ _);rw[show z=0 by omega];rfl)
 .
  refine bd J J J (fun hc8=>?_) (fun hc8=>?_)
  .
   exact rz J (by show DV.v (.int _ (-1))=DV.v (.int _ _);rw[eX (by omega)])
  .
   exact rz J (by show DV.v (.int _ 1)=DV.v (.int _ _);rw[fU (by omega)])
def BE:PF GB prog 57 [eI z] (eI (-z)):=by
 refine fn func57 J J ntmps57 J J (fun C=>?_);refine cl J jF J<|rz J (vv (aF4 z))
def Wk{a b:Int}(h:decide (a<0)=decide (b<0)):zv (decide (a<0)) (a.natAbs+b.natAbs)=a+b:=by
 unfold zv;have h':a<0↔b<0:=by simpa using h
 by_cases q:a<0
 .have:=h'.1 q
  simp[q];omega
 .have: ¬b<0:=fun w=>q (h'.2 w)
  simp[q];omega
def TY{a b:Int}(h: ¬decide (a<0)=decide (b<0))(k:a.natAbs<b.natAbs):zv (decide (b<0)) (b.natAbs-a.natAbs)=a+b:=by
 unfold zv;have h': ¬(a<0↔b<0):=by simpa using h
 by_cases q:b<0
 .have: ¬a<0:=fun w=>h' ⟨fun _=>q,fun _=>w⟩
  simp[q];omega
 .have:a<0:=Int.not_le.1 fun w=>h' ⟨fun e=>by omega,fun e=>absurd e q⟩
  simp[q];omega
def aBO{a b:Int}(h: ¬decide (a<0)=decide (b<0))(k:b.natAbs<=a.natAbs):zv (decide (a<0)) (a.natAbs-b.natAbs)=a+b:=by
 unfold zv;have h': ¬(a<0↔b<0):=by simpa using h
 by_cases q:a<0
 .have: ¬b<0:=fun w=>h' ⟨fun _=>w,fun _=>q⟩
  simp[q];omega
 .have:b<0:=Int.not_le.1 fun w=>h' ⟨fun e=>absurd e q,fun e=>by omega⟩
  simp[q];omega
def Cl{a b:Int}[ha:BI a i][hb:BI b j](hi:i<=400000000:=by decide)(hj:j<=400000000:=by decide):PF GB prog 156 [eI a,eI b] (eI (a+b)):=by
 have hba:=jC ha.h;have hbb:=jC hb.h;refine fn (fu:=⟨15⟩) func156 J J ntmps156 J J (fun C=>?_);refine aj 9 (.d (.v (.bool (decide (decide (a<0)=decide (b<0)))))) J (by congr 2)<|gx J<|bd J J J (fun hc9=>?_) (fun hc9=>?_)
 .
  refine cl J (XD (by omega) (by omega)) J<|cl J jF J<|rz J (vv (Wk hc9))
 .
  refine cl J (yv) J<|br J J J (fun hc23=>?_) (fun hc23=>?_)
  .
   refine cl J (FI (by have:=yi.1 hc23;omega) (by omega)) J<|cl J jF J<|rz J (vv (TY hc9 (yi.1 hc23)))
  .
   refine cl J (FI (sU fun q=>hc23 (yi.2 q)) (by omega)) J<|cl J jF J<|rz J (vv (aBO hc9 (sU fun q=>hc23 (yi.2 q))))
def uk{a b:Int}[ha:BI a i][hb:BI b j](hi:i<=400000000:=by decide)(hj:j<=400000000:=by decide):PF GB prog 157 [eI a,eI b] (eI (a*b)):=by
 refine fn func157 J J ntmps157 J J (fun C=>?_);refine cl J (pc (by omega) (by omega)) J<|cl J jF J<|rz J (vv (S5 a b))
def Ii{a b:Int}[ha:BI a i][hb:BI b j](hi:i<=400000000:=by decide)(hj:j<=400000000:=by decide):PF GB prog 142 [eI a,eI b] (vI (a-b).sign):=by
 refine fn func142 J J ntmps142 J J (fun C=>?_);refine cl J BE J<|cl J (Cl (by omega) (by omega)) J<|cl J wZ J<|rz J (by rw[Int.sub_eq_add_neg];rfl)
def je:PF GB prog 145 [eQ q] (dN q.den):=by
 refine fn func145 J J ntmps145 J J (fun C=>?_);refine br J J J (fun hc6=>?_) (fun hc6=>?_)
 .
  refine cl J D4 J<|rz J (by rw[(yt q.den (l5 q)).1 (by omega)];rfl)
 .
  exact rz J (by exact Pd (fun e=>hc6 (by exact congrArg Int.ofNat ((yt q.den (l5 q)).2 e))))
def Sf{n:Nat}[h:BN n k](hk:k<=500000000:=by omega):(dg n).length<=100000000:=by have:=jC h.h;omega
def wh{x:Int}[hx:BI x i][hd:BN d j](hd0:0<d)(hi:i<=200000000:=by decide)(hj:j<=200000000:=by decide):PF GB prog 52 [eI x,dN d] (eQ (mkRat x d)):=by
 obtain⟨q,hq⟩: ∃q,q=mkRat x d:=⟨_,rfl⟩;obtain⟨g,hg⟩: ∃g,g=Nat.gcd x.natAbs d:=⟨_,rfl⟩;have hg0:0<g:=hg▸qR _ hd0;haveI hgB:BN g (i+j):=hg▸inferInstance;have hg1:(dg g).length<=100000000:=Sf (k:=i+j);have ho1:(dg 1).length<=100000000:=by rw[Ak];decide
 haveI hqB:BQ q (i+j):=hq▸Aa hd0 (cM hx.h (bY (by decide) (by omega))) (cM hd.h (bY (by decide) (by omega)));refine fn func52 J J ntmps52 J J (fun C=>?_);refine cl (fu:=⟨0⟩) J (Ad (by omega) (by omega)) J<|aj 11 (.d (dN g)) J (by rw[hg])<|gx (fu:=⟨4⟩) J<|mg (fu:=⟨1⟩) (X:=Unit) (fun _=>[(1, .d (dN q.den)),(2, .ov 2 0),(4, .ov 4 0)]) (fun _=>[(4,some (.o 50 [.ff, .nl, .nl] true)),(2,some (.o 48 [.d (.v (.bool (decide (q.num<0)))), .d (dN q.num.natAbs)] true))]) (fun _=>True) [1,2,4] [4,2] rfl ?_ (fun _=>J) (fun _ hm=>?_)
 .
  refine gx J<|cl J D4 J<|cl J (yv hg1 ho1) J<|br J J J (fun hc15=>?_) (fun hc15=>?_)
  .
   refine cl J (y9 hg0 (by omega) (by omega)) J<|cl (fu:=⟨0⟩) J jF J<|aj 26 (.d (eI q.num)) J (by show FX.d (eI (zv _ _))=_;rw[hg,Pw hd0,hq])<|gx J<|cl (fu:=⟨2⟩) J (y9 hg0 (by omega) (by omega)) J<|aj 31 (.d (dN q.den)) J (by rw[hg,Lj hd0,hq])<|gx J<|at_ () trivial
  .
   have hm:=aGl (x:=x) hd0 (by rw[<-hg];exact JE.1 (Decidable.not_not.1 hc15));rw[<-hq] at hm;refine aj 1 (.d (dN q.den)) J (by rw[hm.2])<|at_ () trivial (hO:=⟨J,by rw[hm.1];rfl,trivial⟩)
 .
  refine mg (X:=Unit) (fun _=>[(1, .d (dD q.den)),(2, .ov 2 0),(4, .ov 4 0)]) (fun _=>[(4,some (.o 50 [.ff, .nl, .nl] true)),(2,some (.o 48 [.d (.v (.bool (decide (q.num<0)))), .d (dN q.num.natAbs)] true))]) (fun _=>True) [1,2,4] [4,2] rfl ?_ (fun _=>J) (fun _ hm=>?_)
  .
   refine gx J<|cl J D4 J<|cl J (yv (Sf (k:=i+j)) ho1) J<|br J J J (fun hc36=>?_) (fun hc36=>?_)
   .
    refine Wz 1 J<|aj 1 (.d (dD q.den)) J (by rw[JE.1 hc36];rfl)<|at_ () trivial
   .
    refine aj 1 (.d (dD q.den)) J (by rw[Pd (fun e=>hc36 (JE.2 e))])<|at_ () trivial
  .
   exact rz J (by rw[<-hq];rfl)
def LY(a:Rat):mkRat a.num a.den=a:=by simp[rM]
def Mq{a b:Rat}(h:b≠0):a/b=mkRat (a.num*zv (decide (b.num<0)) b.den) (a.den*b.num.natAbs):=by
 rw[nV];have ha:(a.num:Rat)/(a.den:Rat)=a:=by rw[<-nV,LY]
 have hb:(b.num:Rat)/(b.den:Rat)=b:=by rw[<-nV,LY]
 have h1:(a.den:Rat)≠0:=by have:=a.den_nz;exact_mod_cast this
 have h2:(b.den:Rat)≠0:=by have:=b.den_nz;exact_mod_cast this
 have h3:(b.num:Rat)≠0:=by
  intro e;rw[e] at hb;apply h;rw[<-hb];grind
 rw[cZ,Rat.natCast_mul];by_cases q:b.num<0
 .have e1:((zv (decide (b.num<0)) b.den:Int):Rat)= -(b.den:Rat):=by
   unfold zv;rw[if_pos (by simpa using q),jY];rfl
  have e2:((b.num.natAbs:Nat):Rat)= -(b.num:Rat):=by
   have:((b.num.natAbs:Nat):Int)= -b.num:=by omega
   rw[<-jY,<-this];rfl
  rw[e1,e2];generalize (a.num:Rat)=an at*;generalize (a.den:Rat)=ad at*;generalize (b.num:Rat)=bn at*;generalize (b.den:Rat)=bd at*;subst ha hb;grind
 .have e1:((zv (decide (b.num<0)) b.den:Int):Rat)=(b.den:Rat):=by
   unfold zv;rw[if_neg (by simpa using q)];rfl
  have e2:((b.num.natAbs:Nat):Rat)=(b.num:Rat):=by
   have:((b.num.natAbs:Nat):Int)=b.num:=by omega
   rw[<-this];rfl
  rw[e1,e2];generalize (a.num:Rat)=an at*;generalize (a.den:Rat)=ad at*;generalize (b.num:Rat)=bn at*;generalize (b.den:Rat)=bd at*;subst ha hb;grind
def ast{n:Int}(hd:0<d)(h:q*(d:Rat)=(n:Rat)):q.num.natAbs<=n.natAbs/\q.den<=d:=by
 have e:q=mkRat n d:=by
  rw[nV];have:(d:Rat)≠0:=by exact_mod_cast (by omega:d≠0)
  rw[<-h];grind
 rw[e,Rat.num_mkRat,Rat.den_mkRat,if_neg (by omega),if_neg (by omega)];exact⟨nN n (d.gcd n.natAbs:Nat),mM ..⟩
theorem BQ.of_frac{n:Int}(hd:0<d)(h:q*(d:Rat)=(n:Rat))(hn:n.natAbs<2^i)(hdi:d<2^i):BQ q i:=by
 have:=ast hd h;exact⟨by omega,by omega⟩
def PH{b:Rat}(h:b≠0):0<b.num.natAbs:=by
 have:b.num≠0:=fun e=>h (mX.1 e);omega
instance BQ.over (a b:Rat) (i j:Nat) [ha:BQ a i] [hb:BQ b j]:BQ (a/b) (i+j):=by
 by_cases h:b=0
 .subst h
  rw[Rat.div_def,Rat.inv_zero,Rat.mul_zero];have h2:=ha.hd;have h3:0<a.den:=l5 a;have h4:2^i*1<=2^i*2^j:=fR _ (gQ (by decide));rw[<-fZ] at h4;exact⟨by show 0<_;omega,by show 1<_;omega⟩
 .rw[Mq h]
  have hb0:=PH h;refine Aa (jJ (l5 a) hb0) ?_ (mn ha.hd hb.hn);rw[fV,q8];exact mn ha.hn hb.hd
def iD{n:Int}(h0: -4611686018427387904<=n:=by decide)(h1:n<=4611686018427387904:=by decide):PF GB prog 32 [.v (.int .i64 n)] (eQ (n:Rat)):=by
 refine fn func32 J J ntmps32 J J (fun C=>?_);refine cl J (So) J<|rz J (by rw[DM];rfl)
def mE:PF GB prog 55 [eQ q] (vI q.num.sign):=by
 refine fn func55 J J ntmps55 J J (fun C=>?_);refine cl J wZ J<|rz J J
def nE:PF GB prog 110 [eQ q] (eQ (-q)):=by
 refine fn func110 J J ntmps110 J J (fun C=>?_);refine cl J BE J<|rz J (by unfold eQ;rw[oZ,sN];rfl)
def gr{a b:Rat}[ha:BQ a i][hb:BQ b j](hi:i<=20000000:=by decide)(hj:j<=20000000:=by decide):PF GB prog 82 [eQ a,eQ b] (eQ (a*b)):=by
 have had:=l5 a;have hbd:=l5 b;have hdp:=jJ had hbd;have e1:=yt a.den had;have e2:=yt b.den hbd;refine fn func82 J J ntmps82 J J (fun C=>?_);refine cs 9 J J J (fun hg9=>?_) (fun hg9=>?_)
 .
  refine br J J J (fun hc14=>?_) (fun hc14=>?_)
  .
   refine cl J (uk (a:=a.num) (b:=b.num) (by omega) (by omega)) J<|rz J (by rw[WB (e1.1 (by omega)) (e2.1 (by omega)),DM];rfl)
  .
   refine cl J (uk (a:=a.num) (b:=b.num) (by omega) (by omega)) J<|cl J je J<|cl J je J<|cl J (pc (by omega) (by omega)) J<|cl J (wh hdp (by omega) (by omega)) J<|rz J (by rw[A1];rfl)
 .
  refine cl J (uk (a:=a.num) (b:=b.num) (by omega) (by omega)) J<|cl J je J<|cl J je J<|cl J (pc (by omega) (by omega)) J<|cl J (wh hdp (by omega) (by omega)) J<|rz J (by rw[A1];rfl)
def ml{a b:Rat}[ha:BQ a i][hb:BQ b j](hi:i<=20000000:=by decide)(hj:j<=20000000:=by decide):PF GB prog 81 [eQ a,eQ b] (eQ (a+b)):=by
 have had:=l5 a;have hbd:=l5 b;have hdp:=jJ had hbd;have e1:=yt a.den had;have e2:=yt b.den hbd;refine fn func81 J J ntmps81 J J (fun C=>?_);refine cs 9 J J J (fun hg9=>?_) (fun hg9=>?_)
 .
  refine br J J J (fun hc14=>?_) (fun hc14=>?_)
  .
   refine cl J (Cl (by omega) (by omega)) J<|rz J (by rw[SY (e1.1 (by omega)) (e2.1 (by omega)),DM];rfl)
  .
   refine cl J je J<|cl J jF J<|cl J (uk (a:=a.num) (b:=zv false b.den) (by omega) (by omega)) J<|cl J je J<|cl J jF J<|cl J (uk (a:=b.num) (b:=zv false a.den) (by omega) (by omega)) J<|cl J (Cl (by omega) (by omega)) J<|cl J je J<|cl J je J<|cl J (pc (by omega) (by omega)) J<|cl J (wh hdp (by omega) (by omega)) J<|rz J (by rw[BB];rfl)
 .
  refine cl J je J<|cl J jF J<|cl J (uk (a:=a.num) (b:=zv false b.den) (by omega) (by omega)) J<|cl J je J<|cl J jF J<|cl J (uk (a:=b.num) (b:=zv false a.den) (by omega) (by omega)) J<|cl J (Cl (by omega) (by omega)) J<|cl J je J<|cl J je J<|cl J (pc (by omega) (by omega)) J<|cl J (wh hdp (by omega) (by omega)) J<|rz J (by rw[BB];rfl)
def qO{a b:Rat}[ha:BQ a i][hb:BQ b j](hi:i<=20000000:=by decide)(hj:j<=20000000:=by decide):PF GB prog 217 [eQ a,eQ b] (eQ (a-b)):=by
 refine fn func217 J J ntmps217 J J (fun C=>?_);refine cl J (nE (q:=b)) J<|cl J (ml (a:=a) (b:= -b) hi hj) J<|rz J (by rw[Rat.sub_eq_add_neg];rfl)
def wD{a b:Rat}[ha:BQ a i][hb:BQ b j](hb0:b≠0)(hi:i<=20000000:=by decide)(hj:j<=20000000:=by decide):PF GB prog 172 [eQ a,eQ b] (eQ (a/b)):=by
 have hbp:=PH hb0;have hdp:=jJ (l5 a) hbp;refine fn func172 J J ntmps172 J J (fun C=>?_);refine cl J je J<|cl J jF J<|cl J (uk (a:=a.num) (b:=zv (decide (b.num<0)) b.den) (by omega) (by omega)) J<|cl J je J<|cl J (pc (a:=a.den) (b:=b.num.natAbs) (by omega) (by omega)) J<|cl J (wh (x:=a.num*zv (decide (b.num<0)) b.den) (d:=a.den*b.num.natAbs) hdp (by omega) (by omega)) J<|rz J (by rw[Mq hb0];rfl)
def ki{a b:Rat}[ha:BQ a i][hb:BQ b j](hi:i<=20000000:=by decide)(hj:j<=20000000:=by decide):PF GB prog 140 [eQ a,eQ b] (vI (bw a b)):=by
 refine fn func140 J J ntmps140 J J (fun C=>?_);refine cl J (qO hi hj) J<|cl J mE J<|rz J (by show vI _=vI _;rw[DK])
def aGB:((2:Int):Rat)≠0:=by decide
instance BI.two:BI 2 2:=⟨by decide⟩
def Jf{a:Rat}[ha:BQ a i](hi:i<=20000000:=by decide):PF GB prog 294 [eQ a] (eQ (a/2)):=by
 refine fn func294 J J ntmps294 J J (fun C=>?_);refine cl J (iD (n:=2)) J<|cl J (wD (a:=a) (b:=((2:Int):Rat)) aGB hi (by decide)) J<|rz J J
def D6{a b:Rat}[ha:BQ a i][hb:BQ b j](hi:i<=2000000:=by decide)(hj:j<=2000000:=by decide):PF GB prog 239 [eQ a,eQ b] (eQ ((a+b)/2)):=by
 refine fn func239 J J ntmps239 J J (fun C=>?_);refine cl J (ml (by omega) (by omega)) J<|cl J (Jf (a:=a+b) (by omega)) J<|rz J J
end Go.Sx
end
