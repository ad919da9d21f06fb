import Derived.Test.YtmdgdhokaffbkaaGreatDoorTf9
set_option linter.all false
set_option maxHeartbeats 8000000
set_option maxRecDepth 100000
section
namespace Go.Sx
open Go Go.Proofs Tryz
variable {GB:Gh}{A W ds vs ws wa qs:List Nat}{k i x a ia U T S u ca s d j a' d' ib:Nat}{n neg n1:Bool}{p m b:Int}{q:Rat}{r:DV}
def Wa(hk:k<32)(hl:i+1<W.length)(hx:x=A.getD i 0)(h:dv (W.take (i+1))=dv (A.take i)*2^k):dv (((W.set i (W.getD i 0+x*2^k%4294967296)).set (i+1) (x*2^k/4294967296)).take (i+1+1))=dv (A.take (i+1))*2^k:=by
 have:=Lo (A:=A) (W:=W) (k:=k) (q:=0) (s:=k) (i:=i) (x:=x) pb pb pb hx (by rw[eX];exact h);simpa only[eX] using this
def ZD{n:Nat}(hn:n=(dg a).length)(hl:W.length=n)(h:dv (W.take n)=(a/2^k)%4294967296^n):dv W=a/2^k:=by
 rw[jl] at h;have h1:=qd a;have h2:=lL a (2^k);rw[h,gQ (by rw[hn];omega)]
def VJ(h:k<32):(k:Int).tdiv 32=0:=Int.tdiv_eq_zero_of_lt pb pb
def Pj[h:BN a ia](hk:k<32)(h0:0<(dg a).length)(hi:ia<=1000000000:=by decide):PR GB prog 294 [dN a, .v (.int .u64 (k:Nat))] 1 225 ((dg (a*2^k)).map dU):=by
 have hla:=bC (dg a);have hba:=gP (a:=a) hi;refine xC (fu:=⟨8⟩) func294 J J ntmps294 J J (fun C hmb=>?_);refine cl (fu:=⟨2⟩) J (ni (a:=a)) J<|ah 14 (.d (.v (.int .u64 (k:Nat)))) J (ome pb)<|gx (fu:=⟨9⟩) J<|ah 16 (.d (vI ((dg a).length:Nat))) J omo<|gx (fu:=⟨0⟩) J<|bG (fu:=⟨10⟩) J (omd pb) J<|ah 20 (.d (vI (0:Nat))) J (by show FX.d (.v (.int _ _))= .d (.v (.int _ _));congr 3;have:=VJ hk;omega)<|gx (fu:=⟨2⟩) J<|ah 22 (.d (.v (.int .u64 (k:Nat)))) J (ome pb)<|gx (fu:=⟨8⟩) J<|ah 24 (.d (vI ((dg a).length:Nat))) J omo<|gx (fu:=⟨3⟩) J<|ah 27 (.d (vI ((dg a).length+1:Nat))) J omg<|gx J<|mk (fu:=⟨8⟩) ((List.replicate ((dg a).length+1) 0).map dU) J J omz J<|ah 30 (.d (vI ((dg a).length:Nat))) J omo<|gx J<|lp (X:=List Nat×Nat) (fun⟨W,i⟩=>[(0, .d (dN a)),(1, .d (.v (.int .u64 (k:Nat)))),(5, .d (vI (0:Nat))),(6, .d (.v (.int .u64 (k:Nat)))),(7, .rw 28),(29, .d (dN a)),(30, .d (vI ((dg a).length:Nat))),(31, .d (vI (i:Nat)))]) (fun⟨W,i⟩=>[(28,some (.b 225 1 (W.map dU) true))]) (fun⟨W,i⟩=>W.length=(dg a).length+1/\bt W/\i<=(dg a).length/\dv (W.take (i+1))=dv ((dg a).take i)*2^k/\W.getD i 0<2^k) (fun⟨W,i⟩=>(dg a).length-i) ⟨List.replicate ((dg a).length+1) 0,0⟩ J ⟨v8, .replicate _,pb,by rw[pR,uY];simp[dv],by rw[BS];exact gV v6⟩ (fun _=>J) (fun⟨W,i⟩ hk=>?_)
 try dsimp only at hk⊢
 obtain⟨h1,h2,h3,h4,h5⟩:=hk;have hlw:=bC W;have hda:=dk a i;have hpp:2^k<=2^31:=bU v6 pb;refine br J J J (fun hc32=>?_) (fun hc32=>?_)
 .
  refine ix (fu:=⟨11⟩) (hv:=by simp only[aj];exact⟨pb,pb⟩) _ J (dG) J<|?_;have hhi:=O0 hda hk;have hfit0:=JC hda hk;have hor:=JP (x:=(dg a).getD i 0) h5 hk;have hfit:W.getD i 0+(dg a).getD i 0*2^k%4294967296<4294967296:=by rw[<-hor];exact BitVec.isLt _
  have hlp:=FS ((dg a).getD i 0) k;refine ah 39 (.d (.v (.int .u64 ((dg a).getD i 0*2^k:Nat)))) J (by show FX.d (.v (.int _ _))= .d (.v (.int _ _));rw[oC _ k pb hfit0]) ?_;obtain⟨t,ht⟩: ∃t,t=(dg a).getD i 0*2^k:=⟨_,rfl⟩;simp only[<-ht] at hhi hfit0 hor hfit hlp;rw[<-ht];refine gx (fu:=⟨9⟩) J<|ah 43 (.d (vI (i:Nat))) J omg<|gx J<|lb (fu:=⟨2⟩) _ J (dG) J<|ah 47 (.d (dU (t%4294967296))) J omg<|gx (fu:=⟨1⟩) J<|ah 48 _ J (congrArg (fun z:Nat=>FX.d (.v (.int .u32 (z:Int)))) hor)<|gx J<|sb (fu:=⟨7⟩) _ ((W.set i (W.getD i 0+t%4294967296)).map dU) J (dG) J (by simp only[dQ,jY]<;>rfl) J<|ah 53 (.d (vI (i:Nat))) J omg<|gx (fu:=⟨1⟩) J<|ah 54 (.d (vI (i+1:Nat))) J omg<|gx (fu:=⟨2⟩) (hv:=by simp only[aj];exact v6) J<|ah 56 (.d (.v (.int .u64 (t/4294967296:Nat)))) J okq<|gx (fu:=⟨1⟩) J<|ah 57 (.d (dU (t/4294967296))) J (ome pb)<|gx J<|sb _ (((W.set i (W.getD i 0+t%4294967296)).set (i+1) (t/4294967296)).map dU) J (dG okY) J (by simp only[dQ,jY]<;>rfl) J<|at_ ⟨(W.set i (W.getD i 0+t%4294967296)).set (i+1) (t/4294967296),i+1⟩ (by dsimp only;exact⟨⟨by simpa using h1,(h2.set _ hfit).set _ pb,pb,by have q:=Wa (x:=(dg a).getD i 0) hk pb J h4;rw[<-ht] at q;exact q,by rw[y6 omk];exact hhi⟩,pb⟩)
 .
  obtain rfl:i=(dg a).length:=by omega
  refine cq _ J (Ru (ds:=W) pb) J J<|?_;exact ze J J J (by rw[<-B6 h2];have:=h4;rw[jl,jl,cG] at this;rw[this])
def YE(hd:bt ds)(hl:ds.length<=100000000)(hk:k<32):PF GB prog 295 [dt ds, .v (.int .u64 (k:Nat))] (dN (dv ds/2^k)):=by
 obtain⟨a,ha⟩: ∃a,a=dv ds:=⟨_,rfl⟩;rw[<-ha];have hla:=bC (dg a);have hba:(dg a).length<=100000000:=by rw[ha,B6 hd];have:=VU ds;omega
 refine fn func295 J J ntmps295 J J (fun C=>?_);refine cl (fu:=⟨0⟩) J (qy (ds:=ds)) J<|ah 11 (.d (dN a)) J (by rw[jF hd ha.symm])<|gx (fu:=⟨8⟩) J<|ah 13 (.d (.v (.int .u64 (0:Nat)))) J (ome pb)<|gx (fu:=⟨2⟩) J<|ah 15 (.d (vI ((dg a).length:Nat))) J omo<|gx J<|br (fu2:=⟨7⟩) J J J (fun hc17=>?_) (fun hc17=>?_)
 .
  exact rz J (by rw[xd (a:=a),Nat.zero_div,kr];rfl)
 .
  refine ah 20 (.d (vI (0:Nat))) J (ome pb)<|gx (fu:=⟨2⟩) J<|ah 22 (.d (.v (.int .u64 (k:Nat)))) J (ome pb)<|gx (fu:=⟨8⟩) J<|ah 24 (.d (vI ((dg a).length:Nat))) J omo<|gx (fu:=⟨2⟩) J<|ah 26 (.d (vI ((dg a).length:Nat))) J omg<|gx J<|mk (fu:=⟨8⟩) ((List.replicate (dg a).length 0).map dU) J J omz J<|ah 29 (.d (vI ((dg a).length:Nat))) J (by rw[bC,aY]<;>rfl)<|gx J<|lp (X:=List Nat×Nat) (fun⟨W,i⟩=>[(0, .d (dN a)),(5, .d (vI (0:Nat))),(6, .d (.v (.int .u64 (k:Nat)))),(7, .rw 27),(29, .d (vI ((dg a).length:Nat))),(30, .d (vI (i:Nat)))]) (fun⟨W,i⟩=>[(27,some (.b 225 1 (W.map dU) true))]) (fun⟨W,i⟩=>W.length=(dg a).length/\bt W/\i<=(dg a).length/\dv (W.take i)=(a/2^k)%4294967296^i) (fun⟨W,i⟩=>(dg a).length-i) ⟨List.replicate (dg a).length 0,0⟩ J ⟨v8, .replicate _,pb,by simp[dv,Nat.mod_one]⟩ (fun _=>J) (fun⟨W,i⟩ hk=>?_)
  try dsimp only at hk⊢
  obtain⟨h1,h2,h3,h4⟩:=hk;have hlw:=bC W;have hda:=dk a i;have hdb:=dk a (i+1);refine br (fu1:=⟨16⟩) J J J (fun hc31=>?_) (fun hc31=>?_)
  .
   refine ah 36 (.d (vI (i:Nat))) J omg<|gx J<|ix (fu:=⟨6⟩) _ J (dG) J<|mg (fu:=⟨6⟩) (hv:=fun _ _=>by simp only[aj];exact pb) (X:=Unit) (fun _=>[(0, .d (dN a)),(5, .d (vI (0:Nat))),(6, .d (.v (.int .u64 (k:Nat)))),(7, .rw 27),(29, .d (vI ((dg a).length:Nat))),(30, .d (vI (i:Nat))),(8, .d (vI (i:Nat))),(9, .d (.v (.int .u64 ((dg a).getD i 0+(dg a).getD (i+1) 0*4294967296:Nat))))]) (fun _=>[(27,some (.b 225 1 (W.map dU) true))]) (fun _=>True) [0,5,6,7,29,30,8,9] [27] rfl ?_ (fun _=>J) (fun _ _=>?_)
   .
    refine gx (fu:=⟨5⟩) J<|ah 42 (.d (vI (i:Nat))) J omg<|gx (fu:=⟨1⟩) J<|ah 43 (.d (vI (i+1:Nat))) J omg<|gx (fu:=⟨2⟩) J<|ah 45 (.d (vI ((dg a).length:Nat))) J omo<|gx J<|br (fu1:=⟨6⟩) J J J (fun hc46=>?_) (fun hc46=>?_)
    .
     refine ah 51 (.d (vI (i:Nat))) J omg<|gx (fu:=⟨1⟩) J<|ah 52 (.d (vI (i+1:Nat))) J omg<|gx J<|ix (fu:=⟨3⟩) (hv:=by simp only[aj];exact⟨pb,v6⟩) _ J (cp (k:=i+1)) J<|ah 56 (.d (.v (.int .u64 ((dg a).getD (i+1) 0*4294967296:Nat)))) J omn<|gx (fu:=⟨1⟩) J<|ah 57 _ J (congrArg (fun z:Nat=>FX.d (.v (.int .u64 (z:Int)))) (oE 64 ((dg a).getD i 0) ((dg a).getD (i+1) 0) 32 hda omp))<|gx J<|at_ () trivial
    .
     refine ah 9 (.d (.v (.int .u64 ((dg a).getD i 0+(dg a).getD (i+1) 0*4294967296:Nat)))) J (by rw[oF (by omega:(dg a).length<=i+1),kK,gW])<|at_ () trivial
   .
    refine ah 62 (.d (.v (.int .u64 (((dg a).getD i 0+(dg a).getD (i+1) 0*4294967296)/2^k:Nat)))) J (by show FX.d (.v (.int _ _))= .d (.v (.int _ _));rw[Ij _ k])<|gx (fu:=⟨1⟩) J<|?_;obtain⟨w,hw⟩: ∃w,w=((dg a).getD i 0+(dg a).getD (i+1) 0*4294967296)/2^k%4294967296:=⟨_,rfl⟩;have hw1:w<4294967296:=hw▸cR _ v6;refine ah 63 (.d (dU w)) J (by show FX.d (.v (.int _ _))= .d (.v (.int _ _));congr 3;rw[hw];rfl)<|gx J<|sb _ ((W.set i w).map dU) J (dG) J okf J<|at_ ⟨W.set i w,i+1⟩ (by dsimp only;exact⟨⟨by simpa using h1,h2.set _ pb,pb,by rw[t6,h4];exact(In hk (by have:=AR (fB a) i;rwa [cG] at this) hw).symm⟩,pb⟩)
  .
   refine fz 27 J J<|cl rfl (qy (ds:=W)) rfl<|rz rfl (jF h2 (by obtain rfl:i=(dg a).length:=pb;exact ZD rfl h1 h4))
def YM(c:Nat)(h:c<18446744073709551616):(BitVec.ofInt 64 (c:Int) &&& BitVec.ofInt 64 4294967295).toNat=c%4294967296:=by
 rw[BitVec.toNat_and,BitVec.ofInt_natCast,BitVec.toNat_ofNat,gQ pb,show(BitVec.ofInt 64 4294967295).toNat=2^32-1 from J,Nat.and_two_pow_sub_one_eq_mod]
structure YB (a b n s l:Nat):Prop where
 hn:(dg b).length=n+2
 hs:s=32-bl ((dg b).getD (n+1) 0)
 hb:bl ((dg b).getD (n+1) 0)<=32
 s32:s<32
 vl:(dg (b*2^s)).length=n+2
 v2:b*2^s<4294967296^(n+2)
 al:(dg a).length=n+1+l
 u0:(dg a).length<=(dg (a*2^s)).length
 u1:a*2^s<4294967296^((dg a).length+1)
 u3:a*2^s<b*2^s*4294967296^l
 bp:0<b
def Wo{a b:Nat}(hb2:2<=(dg b).length)(hle:b<=a): ∃n s l,YB a b n s l:=by
 have hoa:=fB a;have hob:=fB b;have hna:=(f6 a).2.2;have hnb:=(f6 b).2.2;have ea:=cG a;have eb:=cG b;obtain⟨n,hn⟩: ∃n,(dg b).length=n+2:=⟨(dg b).length-2,pb⟩;have hbp:0<b:=iV fun h=>by subst h;rw[sv] at hb2;simp at hb2
 have hnm:(dg b).length<=(dg a).length:=by
  rcases iY (dg a).length (dg b).length with h|h
  .have:=vx hoa hnb h
   omega
  .exact h
 have htp:=NT hnb (n+1) hn;have htl:=hob.get (n+1);have hbv:=RI hob (n+1) hn;have hbt:=Cg hob (n+1);obtain⟨s,hs⟩: ∃s,s=32-bl ((dg b).getD (n+1) 0):=⟨_,rfl⟩;obtain⟨hs32,hs1,hs2⟩:=UQ htp htl hs;have hpn:0<4294967296^(n+1):=gV v6;have hps:0<2^s:=gV v6;rw[eb] at hbv;have hV1:2147483648*4294967296^(n+1)<=b*2^s:=by
  refine cJ (bX _ hs1) ?_;rw[cX,bM (2^s),<-cX];exact bX _ pb
 have hV2:b*2^s<4294967296^(n+2):=by
  refine dJ (mZ (k:=2^s) (m:=((dg b).getD (n+1) 0+1)*4294967296^(n+1)) (by rw[cN,mS];omega) hps) ?_;rw[cX,bM (4294967296^(n+1)),<-cX,uB (n+1),bM _ 4294967296];exact bX _ hs2
 have hVl:(dg (b*2^s)).length=n+2:=Xg (by show 4294967296^(n+1)<=_;omega) hV2 pb;have hal:=lu hoa;rw[ea] at hal;have hU2:a*2^s<4294967296^((dg a).length+1):=by
  rw[uB];exact nL hal (dJ (sZ v6 hs32) v6)
 have hUl0:(dg a).length<=(dg (a*2^s)).length:=by
  have hane:dg a≠[]:=fun h=>by
   have:=congrArg List.length h;simp only[iQ] at this;omega
  have h1:=um hna hane;have h2:=lu (f6 (a*2^s)).2.1;rw[(f6 _).1] at h2;rw[ea] at h1;have h3:a<=a*2^s:=qU _ hps;have h4:=(nK (a:=4294967296) v6).1 (gX (cJ h1 h3) h2);omega
 have hU3:a*2^s<b*2^s*4294967296^((dg a).length-n-1):=by
  have h1:4294967296^(n+1)*4294967296^((dg a).length-n-1)=4294967296^(dg a).length:=by rw[<-fW,show n+1+((dg a).length-n-1)=(dg a).length by omega]
  refine dJ (mZ hal hps) (cJ (dY _ (bU v6 (show s<=31 by omega))) ?_);rw[<-h1,bM,<-cX];exact bX _ hV1
 exact⟨n,s,(dg a).length-n-1,hn,hs,mB.2 htl,hs32,hVl,hV2,pb,hUl0,hU2,hU3,hbp⟩
section
variable {C:aD}{n:Nat}{Q0:Exit->Act->World->Prop}{fr fr':aA}{own own':aF}{cf cf':Cf}{vc:List Prop}
def IS(fr:aA)(cf:Cf):Option (Int×Int):=match cO fr cf with
 |some ⟨_, .binOp .add _ x y _,_,_,_,_⟩=>match ba (bH fr cf) x,ba (bH fr cf) y with
  |some (.d (.v (.int .u32 p))),some (.d (.v (.int .u32 q)))=>some (p,q)
  |_,_=>none
 |_=>none
def aw[fu:Fu]{q:Int}(u:Int)(h:IS fr cf=some (p,q))(e:IntKind.u32.wrap (p+q)=u)(hgo:cv tt n fu.n fr own cf (.d (.v (.int .u32 u))) [] []=⟨vc,fr',own',cf'⟩)(k:ao prog GB C n Q0 fr' own' cf')
  (hv:autoParam (aj vc) cL._auto_1):ao prog GB C n Q0 fr own cf:=by
 unfold IS at h;split at h<;>try (cases h;done)
 rename_i hh;split at h<;>cases h;rename_i h1 h2;subst e;exact us hh (.yd fun ρ G ov a w r=>by
  obtain⟨y1,h3,h4⟩:=r.ev h1;obtain⟨y2,h5,h6⟩:=r.ev h2;rw[cC] at h4 h6;subst h4 h6;exact⟨_,cC.2 J,jC h3 h5 fun w=>J⟩) hgo hv k
end
def awd{m:Nat}(h:U<4294967296^m):dv ((dg U++[0,0]).take m)=U:=by
 have h1:dv (dg U++[0,0])=U:=by rw[show([0,0]:List Nat)=List.replicate 2 0 from J,Q8,cG]
 have h2:=uM (dg U++[0,0]) m;rw[zf (by rw[h1];exact h),h1] at h2;omega
def UG[h:BN a ia](hv:vs=dg (a*2^k))(hk:k<32)(h0:0<(dg a).length)(hi:ia<=1000000000):PR GB prog 294 [dN a, .v (.int .u64 (k:Nat))] 1 225 (vs.map dU):=by
 subst hv;exact Pj hk h0 hi
def QC{us:List Nat}{n:Nat}(huo:bt us)(hvo:bt vs)(hvB:dv vs<4294967296^(n+2))(hv0:0<dv vs)(hvh:dv vs=(T*4294967296+S)*4294967296^n+dv (vs.take n))(hlt:dv us<dv vs*4294967296^(i+1)):
  ∃f p V w:Nat,f=us.getD (i+n+2) 0*4294967296+us.getD (i+n+1) 0/\V=dv vs*4294967296^i/\0<V/\dv us<V*4294967296/\(f*4294967296+us.getD (i+n) 0)*p<=dv us/\dv us<(f*4294967296+us.getD (i+n) 0+1)*p/\V=(T*4294967296+S)*p+w/\w<p/\dv us<4294967296^(i+n+3):=by
 have hpi:0<4294967296^i:=gV v6;obtain⟨p,hp⟩: ∃p,p=4294967296^(i+n):=⟨_,rfl⟩;have hM:dv us<4294967296^(i+n+3):=by
  refine dJ hlt ?_;rw[show i+n+3=(n+2)+(i+1) by omega,fW 4294967296 (n+2) (i+1)];exact bX _ (lW hvB)
 have huh:=W5 huo (i+n) hM;have hu0:=Cg huo (i+n);rw[<-hp] at huh hu0;refine⟨_,p,_,dv (vs.take n)*4294967296^i,J,J,jJ hv0 hpi,by rw[cX,<-uB];exact hlt,pb,by rw[cN _ 1,mS];omega,?_,?_,hM⟩
 .rw[hvh,cN,hp,fW,bM (4294967296^i),cX]
 .rw[hp,fW,bM]
  exact Nat.mul_lt_mul_of_pos_left (Cg hvo n) hpi
def VH{g bo c c1 xx:Nat}(hl:i+k<ws.length)(hw:dv ws+g*(dv (vs.take k)*4294967296^i)=u+(bo+c)*4294967296^(i+k))(hc1:c1=c+g*vs.getD k 0)(hx1:xx%4294967296+(c1%4294967296+bo)=ws.getD (i+k) 0+xx/9223372036854775808*4294967296):
  dv (ws.set (i+k) (xx%4294967296))+g*(dv (vs.take (k+1))*4294967296^i)=u+(xx/9223372036854775808+c1/4294967296)*4294967296^(i+(k+1)):=by
 rw[mv,cN (dv (vs.take k)),<-kX i k 1,uB,show 4294967296^k*vs.getD k 0*4294967296^i=vs.getD k 0*4294967296^(i+k) by rw[fW,bM (4294967296^k),cX,bM (4294967296^k)],eJ,<-cX g (vs.getD k 0)];exact VY (tU ws (i+k) _ hl) hw hc1 hx1
def WM(hl:i+k<wa.length)(ha:dv wa+ca*4294967296^(i+k)=u+dv (vs.take k)*4294967296^i):
  dv (wa.set (i+k) ((ca+(wa.getD (i+k) 0+vs.getD k 0))%4294967296))+(ca+(wa.getD (i+k) 0+vs.getD k 0))/4294967296*4294967296^(i+(k+1))=u+dv (vs.take (k+1))*4294967296^i:=by
 rw[mv,cN (dv (vs.take k)),<-kX i k 1,uB,show 4294967296^k*vs.getD k 0*4294967296^i=vs.getD k 0*4294967296^(i+k) by rw[fW,bM (4294967296^k),cX,bM (4294967296^k)]];exact Zm (tU wa (i+k) _ hl) ha
def P5{b n:Nat}{us:List Nat}(hp:0<2^s)(hvv:dv vs=b*2^s)(hv0:0<dv vs)(hvB:dv vs<4294967296^(n+2))(hinv:a*2^s=dv us+dv vs*dv qs)(hlt:dv us<dv vs*4294967296^0):dv qs=a/b/\dv (us.take (n+2))/2^s=a%b:=by
 rw[sM,kY] at hlt;have hut:dv (us.take (n+2))=dv us:=by
  have h0:=uM us (n+2);rw[zf pb] at h0;omega
 refine⟨?_,?_⟩
 .rw[<-Nat.mul_div_mul_right _ _ hp,hinv,<-hvv,pX _ _ hv0,lV hlt,eX]
 .have:dv us=a%b*2^s:=by rw[<-Nat.mul_mod_mul_right,hinv,<-hvv,pU,gQ hlt]
  rw[hut,this,Nat.mul_div_cancel _ hp]
def S4{l:Nat}(hl:i<qs.length)(h:qs.getD i 0=0):dv (qs.set i d)=dv qs+4294967296^i*d:=by
 have:=tU qs i d hl;rw[h] at this;simpa using this
def MG{R V v:Nat}(hl:i<qs.length)(h0:qs.getD i 0=0)(hinv:a*2^s=u+v*dv qs)(hV:V=v*4294967296^i)(h:R+d*V=u):a*2^s=R+v*dv (qs.set i d):=by
 rw[hinv,<-h,S4 (l:=0) hl h0,eJ,<-cX,<-hV,bM d];omega
def K9(hq: ∀j,j<i+1->qs.getD j 0=0): ∀j,j<i->(qs.set i d).getD j 0=0:=fun j h=>by
 rw[getD_set_ne];exact hq j pb
theorem omq{p:Prop}(h:p:=by show FX.d (.v (.int _ _))= .d (.v (.int _ _));first|rfl|congr 3):p:=h
theorem okl{p:Prop}(h:p:=by first|omega|(have hd:=Dp hUlt hVle hfg;rcases fJ g with e|e;(rw[e,kK] at hd;omega);omega)):p:=h
def Up{a b ia ib:Nat}[h:BN a ia][k:BN b ib](h2:2<=(dg b).length)(hle:b<=a)(hi:ia<=1000000000:=by decide)(hj:ib<=1000000000:=by decide):PF GB prog 253 [dN a,dN b] (.tp [dN (a/b),dN (a%b)]):=by
 have hla:=bC (dg a);have hba:=gP (a:=a) hi;have hlb:=bC (dg b);have hbb:=gP (a:=b) hj;obtain⟨n,s,l,P⟩:=Wo h2 hle;have hn:=P.hn;have hs:=P.hs;have hsb:=P.hb;have hs32:=P.s32;have hal:=P.al;have hu0:=P.u0;have hu9:=wY (a:=a*2^s) (k:=(dg a).length+1) P.u1;have htl:=dk b (n+1);obtain⟨vs,hvs⟩: ∃vs,vs=dg (b*2^s):=⟨_,rfl⟩;have hvl:vs.length=n+2:=by rw[hvs];exact P.vl
 have hvv:dv vs=b*2^s:=by rw[hvs,cG]
 have hvo:bt vs:=by rw[hvs];exact fB _
 have hvn:fk vs:=by rw[hvs];exact(f6 _).2.2
 have hvm:=bC vs;obtain⟨us0,hus0⟩: ∃us0,us0=(dg (a*2^s)++[0,0]).take ((dg a).length+1):=⟨_,rfl⟩;have husv:dv us0=a*2^s:=by rw[hus0];exact awd P.u1
 have huso:bt us0:=by rw[hus0];exact((fB _).append (.replicate 2)).take _
 have husl:us0.length=(dg a).length+1:=by rw[hus0];simp;omega
 have hps:0<2^s:=gV v6;have hbp:=P.bp;have hV0':0<dv vs:=by rw[hvv];exact jJ hbp hps
 have hvB:dv vs<4294967296^(n+2):=by rw[hvv];exact P.v2
 obtain⟨T,hT⟩: ∃T,T=vs.getD (n+1) 0:=⟨_,rfl⟩;obtain⟨S,hS⟩: ∃S,S=vs.getD n 0:=⟨_,rfl⟩;have hTB:T<4294967296:=by rw[hT];exact hvo.get _
 have hSB:S<4294967296:=by rw[hS];exact hvo.get _
 have hT0:0<T:=by rw[hT];exact NT hvn (n+1) hvl
 have hvh:=XX hvo n hvB;rw[<-hT,<-hS] at hvh;refine fn (fu:=⟨12⟩) func253 J J ntmps253 J J (fun C=>?_);refine ah 27 (.d (vI ((dg b).length:Nat))) J omM<|gx J<|ix _ J (cp (k:=n+1)) J<|cl (fu:=⟨1⟩) J (Hm htl) J<|ah 32 (.d (.v (.int .u64 (s:Nat)))) J (ome pb)<|gx J<|cr J (Pj (a:=a) (k:=s) hs32 pb hi) J<|rf J J<|ap (fu:=⟨2⟩) _ J J (Co J) J<|ah 39 (.d (vI ((dg a).length:Nat))) J omo<|gx (fu:=⟨1⟩) J<|ah 40 (.d (vI ((dg a).length+1:Nat))) J omg<|gx (fu:=⟨0⟩) J<|NS (us0.map dU) ((dg a).length+1) J J omk (by rw[hus0,gT,bQ];rfl) J<|cr (fu:=⟨7⟩) J (UG (a:=b) (k:=s) (vs:=vs) hvs hs32 pb hj) J<|ah 46 (.d (vI (n+2:Nat))) J (by rw[hvm,hvl]<;>rfl)<|gx J<|lb (fu:=⟨1⟩) _ J (cp (k:=n+1)) J<|ah 52 (.d (.v (.int .u64 (T:Nat)))) J (by show FX.d (.v (.int _ _))= .d (.v (.int _ _));rw[hT])<|gx J<|lb (fu:=⟨1⟩) _ J (cp (k:=n)) J<|ah 58 (.d (.v (.int .u64 (S:Nat)))) J (by show FX.d (.v (.int _ _))= .d (.v (.int _ _));rw[hS])<|gx (fu:=⟨8⟩) J<|ah 60 (.d (vI ((dg a).length+1:Nat))) J (by rw[bC,husl]<;>rfl)<|gx (fu:=⟨2⟩) J<|ah 62 (.d (vI (l:Nat))) J (ome pb)<|gx J<|mk (fu:=⟨11⟩) ((List.replicate l 0).map dU) J J omz J<|ah 65 (.d (vI (l:Nat))) J (by rw[bC,aY]<;>rfl)<|gx J<|lp (X:=List Nat×List Nat×Nat) (fun⟨us,qs,j⟩=>[(13, .d (vI ((j:Nat)-1)))]) (fun⟨us,qs,j⟩=>[(63,some (.b 225 1 (qs.map dU) true)),(41,some (.b 225 1 (us.map dU) true))]) (fun⟨us,qs,j⟩=>us.length=(dg a).length+1/\bt us/\qs.length=l/\bt qs/\j<=l/\(∀i,i<j->qs.getD i 0=0)/\a*2^s=dv us+dv vs*dv qs/\dv us<dv vs*4294967296^j) (fun⟨us,qs,j⟩=>j) ⟨us0,List.replicate l 0,l⟩ J ⟨husl,huso,v8, .replicate _,bZ _,fun i _=>BS _ _,by simp only[uY];omega,by rw[husv,hvv];exact P.u3⟩ (fun _=>J) (fun⟨us,qs,j⟩ hk=>?_)
 try dsimp only at hk⊢
 obtain⟨hul,huo,hql,hqo,hjl,hq0,hinv,hlt⟩:=hk;refine br (fu1:=⟨0⟩) (fu2:=⟨0⟩) J J J (fun hc68=>?_) (fun hc68=>?_)
 .
  obtain⟨i,rfl⟩: ∃i,j=i+1:=⟨j-1,pb⟩;refine ah 13 (.d (vI (i:Nat))) J (ome pb) ?_;obtain⟨f,p,V,v0,hf,hV,hVp0,hltV,hUle,hUlt,hVp,hv0,hM⟩:=QC (n:=n) (i:=i) huo hvo hvB hV0' hvh hlt;have hVle:(T*4294967296+S)*p<=V:=by rw[hVp];exact mJ _ _
  have hfT:f<=T*4294967296+S:=aHl hUle hVp hv0 hltV;have hg0:=huo.get (i+n);have hg1:=huo.get (i+n+1);have hg2:=huo.get (i+n+2);have hum:=bC us;have hqm:=bC qs;refine gx J<|lb (fu:=⟨2⟩) (hv:=by simp only[aj];exact⟨pb,v6⟩) _ J (cp (k:=i+n+2)) J<|ah 78 (.d (.v (.int .u64 (us.getD (i+n+2) 0*4294967296:Nat)))) J omn<|gx J<|lb (fu:=⟨2⟩) _ J (cp (k:=i+n+1)) J<|ah 87 (.d (.v (.int .u64 (f:Nat)))) J (congrArg (fun z:Nat=>FX.d (.v (.int .u64 (z:Int)))) ((congrArg BitVec.toNat (BitVec.or_comm ..)).trans ((oE 64 (us.getD (i+n+1) 0) (us.getD (i+n+2) 0) 32 hg1 omp).trans (by show _+_*4294967296=_;omega))))<|gx (fu:=⟨8⟩) (hv:=by simp only[aj];exact⟨we,pb⟩) J<|ah 90 (.d (.v (.int .u64 (f/T:Nat)))) J omq<|gx (fu:=⟨3⟩) J<|ah 93 (.d (.v (.int .u64 (f%T:Nat)))) J omq<|gx (fu:=⟨5⟩) J<|mg (fu:=⟨11⟩) (X:=Nat) (fun g=>[(15, .d (.v (.int .u64 (g:Nat))))]) (fun g=>[]) (fun g=>g<4294967296/\dv us<(g+1)*V/\g*V<dv us+V) [15,16] [] rfl ?_ (fun _=>J) (fun g ⟨hgB,hlo,hhi⟩=>?_)
  .
   refine gx J<|lp (fu:=⟨5⟩) (hv:=fun _ _=>by simp only[aj];exact v6) (X:=Nat×Nat) (fun⟨g,r⟩=>[(15, .d (.v (.int .u64 (g:Nat)))),(16, .d (.v (.int .u64 (r:Nat))))]) (fun⟨g,r⟩=>[]) (fun⟨g,r⟩=>f=g*T+r/\r<4294967296/\dv us<(g+1)*V) (fun⟨g,r⟩=>g) ⟨f/T,f%T⟩ J ⟨(Nat.div_add_mod' ..).symm,sL (cR _ hT0) hTB,Vs hUlt hg0 hVle hT0⟩ (fun _=>J) (fun⟨g,r⟩ hk=>?_)
   try dsimp only at hk⊢
   obtain⟨hfg,hrB,hlo⟩:=hk;have hgT:g*1<=g*T:=dY _ hT0;refine ah 95 (.d (.v (.int .u64 (g/4294967296:Nat)))) rfl okq<|gx rfl<|cs (fu1:=⟨26⟩) (v1:=fun hg97=>by simp only[aj];exact okl) (fu2:=⟨3⟩) (v2:=fun hg97=>by simp only[aj];exact⟨(x7 _ _),(yx (show g<4294967296 by omega) hSB)⟩) 97 J J J (fun hg97=>?_) (fun hg97=>?_)
   .
    have hgB4:4294967296<=g:=by omega
    have hdec:dv us<g*V:=dJ hltV (by rw[bM];exact bX _ hgB4);obtain⟨g',rfl⟩: ∃g',g=g'+1:=⟨g-1,by rcases fJ g with h|h;(rw[h,kK] at hdec;omega);omega⟩;have hfg':f=g'*T+(r+T):=by rw[hfg,cN,mS];omega
    refine ah 115 (.d (.v (.int .u64 (g':Nat)))) J (ome pb)<|gx (fu:=⟨8⟩) J<|ah 118 (.d (.v (.int .u64 (r+T:Nat)))) J omq<|gx (fu:=⟨7⟩) (hv:=by simp only[aj];exact v6) J<|ah 120 (.d (.v (.int .u64 ((r+T)/4294967296:Nat)))) J okq<|gx J<|br J J J (fun hc121=>?_) (fun hc121=>?_)
    .
     have hgB3:g'<4294967296:=by rcases iY g' 4294967296 with h|h;(exact h);(have:=bX T h;omega)
     have hgS3:g'*S<=(r+T)*4294967296+us.getD (i+n) 0:=by have h1:=iK (lW hgB3) (lW hSB);omega
     exact at_ g' ⟨hgB3,hdec,En hUle hVp hv0 hT0 hfg' hgB3 hgS3⟩
    .
     exact at_ ⟨g',r+T⟩ (by dsimp only;exact⟨⟨hfg',pb,hdec⟩,pb⟩)
   .
    have hgB:g<4294967296:=by omega
    have hgS:g*S<4294967296*4294967296:=nL hgB hSB;refine ah 100 (.d (.v (.int .u64 (g*S:Nat)))) rfl (by rw[gM])<|gx (fu:=⟨2⟩) (hv:=by simp only[aj];exact v6) rfl<|ah 102 (.d (.v (.int .u64 (r*4294967296:Nat)))) rfl (by show FX.d (.v (.int _ _))= .d (.v (.int _ _));rw[oC _ 32 v6 omw rfl])<|gx rfl<|lb (fu:=⟨2⟩) _ rfl (cp (k:=i+n)) rfl<|ah 111 (.d (.v (.int .u64 (r*4294967296+us.getD (i+n) 0:Nat)))) rfl (congrArg (fun z:Nat=>FX.d (.v (.int .u64 (z:Int)))) ((congrArg BitVec.toNat (BitVec.or_comm ..)).trans ((oE 64 (us.getD (i+n) 0) (r) 32 hg0 omp).trans (by show _+_*4294967296=_;omega))))<|gx rfl<|br (fu1:=⟨7⟩) (v1:=fun hc113=>by simp only[aj];exact okl) rfl rfl rfl (fun hc113=>?_) (fun hc113=>?_)
    .
     have hdec:dv us<g*V:=Dp hUlt hVle hfg;obtain⟨g',rfl⟩: ∃g',g=g'+1:=⟨g-1,by rcases fJ g with h|h;(rw[h,kK] at hdec;omega);omega⟩;have hfg':f=g'*T+(r+T):=by rw[hfg,cN,mS];omega
     refine ah 115 (.d (.v (.int .u64 (g':Nat)))) J (ome pb)<|gx (fu:=⟨8⟩) J<|ah 118 (.d (.v (.int .u64 (r+T:Nat)))) J omq<|gx (fu:=⟨7⟩) (hv:=by simp only[aj];exact v6) J<|ah 120 (.d (.v (.int .u64 ((r+T)/4294967296:Nat)))) J okq<|gx J<|br J J J (fun hc121=>?_) (fun hc121=>?_)
     .
      have hgB3:g'<4294967296:=by rcases iY g' 4294967296 with h|h;(exact h);(have:=bX T h;omega)
      have hgS3:g'*S<=(r+T)*4294967296+us.getD (i+n) 0:=by have h1:=iK (lW hgB3) (lW hSB);omega
      exact at_ g' ⟨hgB3,hdec,En hUle hVp hv0 hT0 hfg' hgB3 hgS3⟩
     .
      exact at_ ⟨g',r+T⟩ (by dsimp only;exact⟨⟨hfg',pb,hdec⟩,pb⟩)
    .
     exact at_ g ⟨hgB,hlo,En hUle hVp hv0 hT0 hfg hgB pb⟩
  .
   refine ah 123 (.d (vI (n+2:Nat))) J (by rw[hvm,hvl]<;>rfl)<|gx J<|lp (X:=List Nat×Nat×Nat×Nat) (fun⟨ws,k,bo,c⟩=>[(124, .d (vI (k:Nat))),(17, .d (.v (.int .u64 (bo:Nat)))),(18, .d (.v (.int .u64 (c:Nat))))]) (fun⟨ws,k,bo,c⟩=>[(41,some (.b 225 1 (ws.map dU) true))]) (fun⟨ws,k,bo,c⟩=>ws.length=(dg a).length+1/\bt ws/\k<=n+2/\bo<=1/\c<4294967296/\dv ws<4294967296^(i+n+3)/\dv ws+g*(dv (vs.take k)*4294967296^i)=dv us+(bo+c)*4294967296^(i+k)) (fun⟨ws,k,bo,c⟩=>n+2-k) ⟨us,0,0,0⟩ J ⟨hul,huo,aL _,aL _,v6,hM,by simp[dv]⟩ (fun _=>J) (fun⟨ws,k,bo,c⟩ hk=>?_)
   try dsimp only at hk⊢
   obtain⟨hwl,hwo,hk2,hbo,hc4,hwM,hw⟩:=hk;refine br J J J (fun hc125=>?_) (fun hc125=>?_)
   .
    have hvk:=hvo.get k;have hwg:=hwo.get (i+k);have hgd:g*vs.getD k 0<=4294967295*4294967295:=iK pb pb;obtain⟨c1,hc1⟩: ∃c1,c1=c+g*vs.getD k 0:=⟨_,rfl⟩;have hc1m:c1%4294967296<4294967296:=cR _ v6;obtain⟨hx1,hx2,hx3⟩:=Kr (ws.getD (i+k) 0) (c1%4294967296) bo hwg hc1m hbo;obtain⟨xx,hxx⟩: ∃x,x=rm (ws.getD (i+k) 0) (c1%4294967296) bo:=⟨_,rfl⟩;rw[<-hxx] at hx1 hx2 hx3;have hwm:=bC ws;refine lb (fu:=⟨11⟩) (hv:=by simp only[aj];exact⟨pb,⟨(x7 _ _),(yx hgB hvk)⟩⟩) _ J (dG) J<|ah 133 (.d (.v (.int .u64 (g*vs.getD k 0:Nat)))) J (by rw[gM])<|gx (fu:=⟨1⟩) J<|ah 134 (.d (.v (.int .u64 (c1:Nat)))) J (ome pb)<|gx J<|lb (fu:=⟨3⟩) _ J (cp (k:=i+k)) J<|ah 143 (.d (.v (.int .u64 (c1%4294967296:Nat)))) J (congrArg (fun z:Nat=>FX.d (.v (.int .u64 (z:Int)))) (YM c1 pb))<|gx (fu:=⟨0⟩) J<|sd (fu:=⟨1⟩) (IntKind.u64.wrap (((ws.getD (i+k) 0:Nat):Int)-((c1%4294967296:Nat):Int))) J J J<|sd (fu:=⟨11⟩) ((xx:Nat):Int) J (by rw[hxx];exact sub2 _ _ _ hwg hc1m hbo) J<|ah 152 (.d (dU (xx%4294967296))) J omg<|gx J<|sb (fu:=⟨6⟩) (hv:=by simp only[aj];exact v6) _ ((ws.set (i+k) (xx%4294967296)).map dU) J (cp (k:=i+k)) J (by(rw[show((i:Int)+k).toNat=i+k by omega,<-iw])<;>rfl) J<|ah 155 (.d (.v (.int .u64 (xx/9223372036854775808:Nat)))) J (by rw[FY])<|gx (fu:=⟨6⟩) (hv:=by simp only[aj];exact v6) J<|ah 157 (.d (.v (.int .u64 (c1/4294967296:Nat)))) J okq<|gx J<|at_ ⟨ws.set (i+k) (xx%4294967296),k+1,xx/9223372036854775808,c1/4294967296⟩ (by dsimp only;exact⟨⟨by simpa using hwl,hwo.set _ (cR _ v6),pb,hx2,pb,Bs hwo (cR _ v6) hwM,VH pb hw hc1 hx1⟩,pb⟩)
   .
    obtain rfl:k=n+2:=by omega
    rw[bK pb,<-hV] at hw;have hwg:=hwo.get (i+n+2);obtain⟨hx1,hx2,hx3⟩:=Kr (ws.getD (i+n+2) 0) c bo hwg hc4 hbo;obtain⟨xx,hxx⟩: ∃x,x=rm (ws.getD (i+n+2) 0) c bo:=⟨_,rfl⟩;rw[<-hxx] at hx1 hx2 hx3;have hwm:=bC ws;obtain⟨ws2,hws2⟩: ∃z,z=ws.set (i+n+2) (xx%4294967296):=⟨_,rfl⟩;have hl2:=RE (tU ws (i+n+2) (xx%4294967296) pb) hw hx1;rw[<-uB,<-hws2] at hl2;have hM2:=Bs (i:=i+n+2) (d:=xx%4294967296) hwo (cR _ v6) hwM;have ho2:=hwo.set (i+n+2) (d:=xx%4294967296) (cR _ v6);have hn2:ws2.length=(dg a).length+1:=by rw[hws2,aM];exact hwl
    rw[<-hws2] at hM2 ho2;replace hl2:dv ws2+g*V=dv us+xx/9223372036854775808*4294967296^(i+n+3):=hl2;have hqi:=hq0 i pb;obtain⟨q2,hq2⟩: ∃z,z=qs.set i g:=⟨_,rfl⟩;have hq2l:q2.length=l:=by rw[hq2,aM];exact hql
    have hq2m:=bC q2;have hwm2:=bC ws2;refine lb (fu:=⟨2⟩) _ J (cp (k:=i+n+2)) J<|sd (fu:=⟨1⟩) (IntKind.u64.wrap (((ws.getD (i+n+2) 0:Nat):Int)-((c:Nat):Int))) J J J<|sd (fu:=⟨11⟩) ((xx:Nat):Int) J (by rw[hxx];exact sub2 _ _ _ hwg hc4 hbo) J<|ah 175 (.d (dU (xx%4294967296))) J omg<|gx J<|sb (fu:=⟨8⟩) _ (ws2.map dU) J (cp (k:=i+n+2)) J (by(rw[hws2,show((i:Int)+((n+2:Nat):Int)).toNat=i+n+2 by omega,<-iw])<;>rfl) J<|ah 180 (.d (dU g)) J (ome pb)<|gx J<|sb (fu:=⟨7⟩) (hv:=by simp only[aj];exact v6) _ (q2.map dU) J (dG) J (by rw[hq2,<-iw];rfl) J<|ah 183 (.d (.v (.int .u64 (xx/9223372036854775808:Nat)))) J (by rw[FY])<|gx J<|br J J J (fun hc184=>?_) (fun hc184=>?_)
    .
     have ht0:xx/9223372036854775808=0:=by omega
     rw[ht0,kK,gW] at hl2;exact at_ ⟨ws2,q2,i⟩ (by dsimp only;exact⟨⟨hn2,ho2,hq2l,by rw[hq2];exact hqo.set _ hgB,pb,by rw[hq2];exact K9 hq0,by rw[hq2];exact MG pb hqi hinv hV hl2,by rw[<-hV];exact V2 hlo hl2⟩,pb⟩)
    .
     have ht1:xx/9223372036854775808=1:=by omega
     rw[ht1,mS] at hl2;obtain⟨g',rfl⟩: ∃g',g=g'+1:=⟨g-1,by rcases fJ g with h|h;(rw[h,kK] at hl2;omega);omega⟩;have hqs:q2.getD i 0=g'+1:=by rw[hq2];exact y6 pb
     refine lb (fu:=⟨0⟩) _ J (dG) J<|ah 188 (.d (dU (g'+1))) J (by first|rw[hqs]|(simp only[dQ];rw[hqs]))<|gx (fu:=⟨0⟩) J<|sw ((g':Nat):Int) J pb J<|sb (fu:=⟨12⟩) _ ((qs.set i g').map dU) J (dG) J (by simp only[dQ,hq2,jY,List.set_set]<;>rfl) J<|ah 192 (.d (vI (n+2:Nat))) J (by rw[hvm,hvl]<;>rfl)<|gx J<|lp (X:=List Nat×Nat×Nat) (fun⟨wa,k,ca⟩=>[(193, .d (vI (k:Nat))),(18, .d (.v (.int .u64 (ca:Nat))))]) (fun⟨wa,k,ca⟩=>[(41,some (.b 225 1 (wa.map dU) true))]) (fun⟨wa,k,ca⟩=>wa.length=(dg a).length+1/\bt wa/\k<=n+2/\ca<=1/\dv wa<4294967296^(i+n+3)/\dv wa+ca*4294967296^(i+k)=dv ws2+dv (vs.take k)*4294967296^i) (fun⟨wa,k,ca⟩=>n+2-k) ⟨ws2,0,0⟩ J ⟨hn2,ho2,aL _,aL _,hM2,by simp[dv]⟩ (fun _=>J) (fun⟨wa,k,ca⟩ hk=>?_)
     try dsimp only at hk⊢
     obtain⟨hal2,hao,hk2,hac,haM,ha⟩:=hk;refine br J J J (fun hc194=>?_) (fun hc194=>?_)
     .
      have hvk:=hvo.get k;have hag:=hao.get (i+k);obtain⟨t,ht⟩: ∃t,t=ca+(wa.getD (i+k) 0+vs.getD k 0):=⟨_,rfl⟩;have ham:=bC wa;refine lb _ J (dG) J<|lb (fu:=⟨5⟩) _ J (cp (k:=i+k)) J<|ah 209 (.d (.v (.int .u64 (t:Nat)))) J (ome pb)<|gx (fu:=⟨11⟩) J<|ah 215 (.d (dU (t%4294967296))) J omg<|gx J<|sb (fu:=⟨5⟩) (hv:=by simp only[aj];exact v6) _ ((wa.set (i+k) (t%4294967296)).map dU) J (cp (k:=i+k)) J (by(rw[show((i:Int)+k).toNat=i+k by omega,<-iw])<;>rfl) J<|ah 218 (.d (.v (.int .u64 (t/4294967296:Nat)))) J okq<|gx J<|at_ ⟨wa.set (i+k) (t%4294967296),k+1,t/4294967296⟩ (by dsimp only;exact⟨⟨by simpa using hal2,hao.set _ (cR _ v6),pb,pb,Bs hao (cR _ v6) haM,by rw[ht];exact WM pb ha⟩,pb⟩)
     .
      obtain rfl:k=n+2:=by omega
      rw[bK pb,<-hV] at ha;have hag:=hao.get (i+n+2);have ham:=bC wa;have hl4:=RO (tU wa (i+n+2) ((wa.getD (i+n+2) 0+ca)%4294967296) pb) ha;rw[<-uB] at hl4;have hM4:=Bs (i:=i+n+2) (d:=(wa.getD (i+n+2) 0+ca)%4294967296) hao (cR _ v6) haM;obtain⟨hR1,hR2⟩:=T0 hhi hl2 hl4 hM2 hM4 pb (Nat.succ_pos _);refine lb (fu:=⟨2⟩) _ J (cp (k:=i+n+2)) J<|ah 227 (.d (dU ca)) J (ome pb)<|gx (fu:=⟨0⟩) J<|aw (((wa.getD (i+n+2) 0+ca)%4294967296:Nat):Int) J (by rw[rk];omega) J<|sb _ ((wa.set (i+n+2) ((wa.getD (i+n+2) 0+ca)%4294967296)).map dU) J (cp (k:=i+n+2)) J (by(rw[show((i:Int)+((n+2:Nat):Int)).toNat=i+n+2 by omega,<-iw])<;>rfl) J<|at_ ⟨wa.set (i+n+2) ((wa.getD (i+n+2) 0+ca)%4294967296),qs.set i g',i⟩ (by dsimp only;exact⟨⟨by simpa using hal2,hao.set _ (cR _ v6),by simpa using hql,hqo.set _ pb,pb,K9 hq0,MG pb hqi hinv hV hR1,by rw[<-hV];exact hR2⟩,pb⟩)
 .
  refine lm 63 J<|lm 41 J ?_;obtain rfl:j=0:=by omega
  obtain⟨e1,e2⟩:=P5 hps hvv hV0' hvB hinv hlt;refine gx J<|cl J (qy (ds:=qs)) J<|js (fu:=⟨0⟩) 0 (n+2) _ J J J J (pn _) pb omk J<|ah 234 (.d (dt (us.take (n+2)))) J (by first|rfl|(show FX.d (.sl _)=FX.d (.sl _);simp))<|gx J<|cl J (YE (ds:=us.take (n+2)) (huo.take _) omk hs32) J<|rz J (by show DV.tp [dt _,dN _]= .tp [dN _,dN _];rw[jF hqo e1,e2])
def AP{b:Nat}[h:BN a i][k:BN b j](hb:0<b)(hi:i<=1000000000:=by decide)(hj:j<=1000000000:=by decide):PF GB prog 190 [dN a,dN b] (.tp [dN (a/b),dN (a%b),vB true]):=by
 have hla:=bC (dg a);have hba:=gP (a:=a) hi;have hlb:=bC (dg b);have hbb:=gP (a:=b) hj;have hb0:(dg b).length≠0:=fun e=>by have:=xd e;omega
 have hcn:=yl (a:=a) (b:=b);have hd0:=dk b 0;refine fn func190 J J ntmps190 J J (fun C=>?_);refine cl J (ni) J<|cl (fu:=⟨10⟩) J (ni) J<|ah 17 (.d (vI ((dg b).length:Nat))) J omM<|gx (fu:=⟨0⟩) J<|bG J (omd pb) J<|cl J (Mk (a:=a) (b:=b) hi hj) J<|br (fu2:=⟨4⟩) J J J (fun hc19=>?_) (fun hc19=>?_)
 .
  refine cl J (Ns (ds:=dg a) (fB _)) J<|rz J (by have hlt:=hcn.1 pb;rw[lV hlt,gQ hlt,kr];rfl)
 .
  refine ah 28 (.d (vI ((dg b).length:Nat))) J omM<|gx J<|br J J J (fun hc26=>?_) (fun hc26=>?_)
  .
   have h1:(dg b).length=1:=by omega
   have e1:=uP h1;have hmd:=cR a (show 0<(dg b).getD 0 0 by omega);refine ix _ J (cp (k:=0) J pb) J<|cl J (Rs (a:=a) (d:=(dg b).getD 0 0) pb pb hi) J<|cl J (xP (a:=a%(dg b).getD 0 0) (by have:=cR a (show 0<(dg b).getD 0 0 by omega);omega)) J<|rz J (by rw[e1];rfl)
  .
   refine cl J (Up (a:=a) (b:=b) pb pb hi hj) J<|rz J J
def KY(h:(dg a).length<=2:=by omega):a<18446744073709551616:=by
 have h1:=qd a;have h2:(4294967296:Nat)^(dg a).length<=4294967296^2:=bU v6 h;omega
theorem okz{p:Prop}(h:p:=by dsimp only;exact⟨⟨by rw[<-hg,iU B,<-tJ,iU],hB,sL (cR _ hBp) hB⟩,(cR _ hBp)⟩):p:=h
theorem ozn{p:Prop}(h:p:=by have hB0:B=0:=xd;rw[hB0,mW] at hg;rw[<-hg];rfl):p:=h
def Fd{b:Nat}[h:BN a i][k:BN b j](hi:i<=1000000000:=by decide)(hj:j<=1000000000:=by decide):PF GB prog 189 [dN a,dN b] (dN (Nat.gcd a b)):=by
 obtain⟨m,hm⟩: ∃m,m=max i j:=⟨_,rfl⟩;have e0: ∀k',k'<=m->(2:Nat)^k'<=2^m:=fun k' h=>bU v6 h;have ha9:a<2^m:=dJ h.h (e0 i pb);have hb9:b<2^m:=dJ k.h (e0 j pb);refine fn func189 J J ntmps189 J J (fun C=>?_);refine cl J (rA (a:=a) (i:=i) pb) J<|cl J (rA (a:=b) (i:=j) pb) J<|lp (fu:=⟨5⟩) (X:=Nat×Nat) (fun⟨A,B⟩=>[(0, .d (dN A)),(1, .d (dN B))]) (fun⟨A,B⟩=>[]) (fun⟨A,B⟩=>Nat.gcd A B=Nat.gcd a b/\A<2^m/\B<2^m) (fun⟨A,B⟩=>B) ⟨a,b⟩ J ⟨J,ha9,hb9⟩ (fun _=>J) (fun⟨A,B⟩ hk=>?_)
 try dsimp only at hk⊢
 obtain⟨hg,hA,hB⟩:=hk;haveI:BN A m:=⟨hA⟩;haveI:BN B m:=⟨hB⟩;have hlA:=bC (dg A);have hlB:=bC (dg B);have hbA:=gP (a:=A) (i:=m);have hbB:=gP (a:=B) (i:=m);refine ah 17 (.d (vI ((dg A).length:Nat))) J (by rw[hlA]<;>rfl)<|gx J<|cs (fu1:=⟨15⟩) (fu2:=⟨2⟩) 19 J J J (fun hg19=>?_) (fun hg19=>?_)
 .
  refine ah 25 (.d (vI ((dg B).length:Nat))) J (by rw[hlB]<;>rfl)<|gx J<|br J J J (fun hc26=>?_) (fun hc26=>?_)
  .
   exact rz J ozn
  .
   have hBp:0<B:=iV fun e=>hc26 (by rw[e,sv];rfl);refine cl J (AP (a:=A) (b:=B) (i:=m) (j:=m) hBp pb pb) J<|at_ ⟨B,A%B⟩ okz
 .
  refine ah 21 (.d (vI ((dg B).length:Nat))) J (by rw[hlB]<;>rfl)<|gx J<|br (fu1:=⟨8⟩) J J J (fun hc23=>?_) (fun hc23=>?_)
  .
   refine ah 25 (.d (vI ((dg B).length:Nat))) J (by rw[hlB]<;>rfl)<|gx J<|br J J J (fun hc26=>?_) (fun hc26=>?_)
   .
    exact rz J ozn
   .
    have hBp:0<B:=iV fun e=>hc26 (by rw[e,sv];rfl);refine cl J (AP (a:=A) (b:=B) (i:=m) (j:=m) hBp pb pb) J<|at_ ⟨B,A%B⟩ okz
  .
   have hA2:=KY (a:=A);have hB2:=KY (a:=B);refine cl J (ym (a:=A) hA2) J<|cl J (ym (a:=B) hB2) J<|lp (X:=Nat×Nat) (fun⟨u,v⟩=>[(8, .d (.v (.int .u64 (u:Nat)))),(10, .d (.v (.int .u64 (v:Nat))))]) (fun⟨u,v⟩=>[]) (fun⟨u,v⟩=>Nat.gcd u v=Nat.gcd a b/\u<18446744073709551616/\v<18446744073709551616) (fun⟨u,v⟩=>v) ⟨A,B⟩ J ⟨hg,hA2,hB2⟩ (fun _=>J) (fun⟨u,v⟩ hk=>?_)
   try dsimp only at hk⊢
   obtain⟨hg2,hu,hv⟩:=hk;refine br (fu1:=⟨8⟩) J J J (fun hc48=>?_) (fun hc48=>?_)
   .
    refine ah 52 (.d (.v (.int .u64 (u%v:Nat)))) J omq<|gx J<|at_ ⟨v,u%v⟩ (by dsimp only;exact⟨⟨by rw[<-hg2,iU v,<-tJ,iU],hv,sL (cR _ pb) hv⟩,(cR _ pb)⟩)
   .
    obtain rfl:v=0:=by omega
    rw[mW] at hg2;refine cl J (xP (a:=u) hu) J<|rz J (by rw[hg2];rfl)

def Fz{x:Nat}:bl x=0↔x=0:=by
 have:= @mB x 0;simp at this;omega
def xu:0<(dg a).length↔0<a:=by
 have:= @sj a;omega
def eS(neg:Bool)(a:Nat):DV:= .ag [.v (.bool neg),dN a]
def CM(neg:Bool)(a:Nat):eI (zv neg a)= .ag [.v (.bool (neg&&decide (0<a))),dN a]:=by unfold eI;rw[pI,O']
def Zc(h:n≠decide (b<0))(hle:b.natAbs<=u):zv n (u-b.natAbs)=zv n u+b:=by cases n<;>simp[zv] at* <;>omega
def Qz(h:n≠decide (b<0))(hle:u<=b.natAbs):zv (decide (b<0)) (b.natAbs-u)=zv n u+b:=by cases n<;>simp[zv] at* <;>(try rw[if_pos h])<;>(try rw[if_neg pb])<;>omega
theorem okI{p:Prop}(h:p:=by unfold vB;congr 2;simp_all [ic]):p:=h
def WR(hd:bt ds)(hl:ds.length<=1125899906842624):PF GB prog 264 [.ag [.v (.bool neg),dt ds]] (vB (decide (fk ds/\(neg=true->0<ds.length)))):=by
 refine fn func264 J J ntmps264 J J (fun C=>?_);refine cl J (Oa hd hl) J<|csd 6 J J J (fun hg6=>?_) (fun hg6=>?_)
 .
  refine ja 10 J J J (fun hg10=>?_) (fun hg10=>?_)
  .
   exact rz J okI
  .
   exact rz J okI
 .
  exact rz J okI
theorem ozb{p:Prop}(h:p:=by have:a≠0:=(fun e=>hc3 (by rw[e];rfl));simp[zv];omega):p:=h
def OH[h:BN a i](hi:i<=1000000000:=by decide):PF GB prog 188 [eS n a] (vI (zv n a).sign):=by
 refine fn func188 J J ntmps188 J J (fun C=>?_);refine cl J (rH (a:=a) hi) J<|br J J J (fun hc3=>?_) (fun hc3=>?_)
 .
  exact rz J (by have:=Fz.1 (Int.ofNat.inj hc3);subst this;cases n<;>rfl)
 .
  refine bb J J J (fun hc8=>?_) (fun hc8=>?_)
  .
   exact rz J (by subst hc8;rw[dT ozb];rfl)
  .
   exact rz J (by subst hc8;rw[fX ozb];rfl)
def EJ(h0: -9223372036854775808<=m:=by omega)(h1:m<=9223372036854775807:=by omega):PF GB prog 177 [vI m] (eI m):=by
 refine fn (fu:=⟨8⟩) func177 J J ntmps177 J J (fun C=>?_);refine cu ((m%18446744073709551616:Int)) J (pq _) J<|br (fu1:=⟨2⟩) (fu2:=⟨0⟩) J J J (fun hc7=>?_) (fun hc7=>?_)
 .
  refine nu ((m.natAbs:Nat)) J (by rw[pq];omega) J<|cl J (xP (a:=m.natAbs)) J<|rz J J
 .
  refine ah 3 (.d (.v (.int .u64 (m.natAbs:Nat)))) J omT<|gx J<|cl J (xP (a:=m.natAbs)) J<|rz J J
def JK(h:a<4611686018427387904):PF GB prog 191 [eS n a] (.tp [vI (zv n a),vB true]):=by
 refine fn func191 J J ntmps191 J J (fun C=>?_);refine cl (fu:=⟨2⟩) J (ym (a:=a) pb) J<|cj J J J<|ja 18 J J J (fun hg18=>?_) (fun hg18=>?_)
 .
  refine br (fu1:=⟨3⟩) J J J (fun hc12=>?_) (fun hc12=>?_)
  .
   refine nu (fu:=⟨0⟩) (((18446744073709551616-a)%18446744073709551616:Int)) J (by rw[pq];omega) J<|cu (zv n a) J (by subst hg18;rw[Hq];simp only[zv,if_true];omega) J<|rz J J
  .
   exact absurd pb hc12
 .
  refine ja 32 J J J (fun hg32=>?_) (fun hg32=>?_)
  .
   refine br J J J (fun hc25=>?_) (fun hc25=>?_)
   .
    exact rz J (by subst hg18;rfl)
   .
    exact absurd pb hc25
  .
   subst hg18;cases hg32
def uU[h:BN a i](hi:i<=1000000000:=by decide):PF GB prog 184 [eS neg a] (eI (zv neg a)):=by
 refine fn func184 J J ntmps184 J J (fun C=>?_);refine cl J (rA hi) J<|ja 9 J J J (fun hg9=>?_) (fun hg9=>?_)
 .
  exact rz J (by rw[CM];simp[hg9,xu,ic])
 .
  exact rz J (by rw[CM];simp[hg9,xu,ic])
def De:PF GB prog 181 [.v (.bool neg),dN a] (eI (zv neg a)):=by
 refine fn func181 J J ntmps181 J J (fun C=>?_);refine ja 6 J J J (fun hg6=>?_) (fun hg6=>?_)
 .
  exact rz J (by rw[CM];simp[hg6,xu,ic])
 .
  exact rz J (by rw[CM];simp[hg6,xu,ic])
def VK[h:BI m i](hi:i<=1000000000:=by decide):PF GB prog 279 [eI m] (eI (-m)):=by
 refine fn func279 J J ntmps279 J J (fun C=>?_);refine cl J (uU (neg:=!decide (m<0)) (a:=m.natAbs) hi) J<|rz J (by rw[Uy,ku];rfl)
def Dj{a:Int}[h:BI a i][k:BI b j](hi:i<=1000000000:=by decide)(hj:j<=1000000000:=by decide):PF GB prog 109 [eI a,eI b] (eI (a*b)):=by
 refine fn func109 J J ntmps109 J J (fun C=>?_);refine cl J (wn (a:=a.natAbs) (b:=b.natAbs) hi hj) J<|cl J De J<|rz J (by rw[show(!(decide (a<0)==decide (b<0)))=(decide (a<0) !=decide (b<0)) from J,Lx,ku,ku];rfl)
theorem oko{p:Prop}(h:p:=by simpa using hc13):p:=h
def Vw[h:BN u i][k:BI b j](hi:i<=1000000000:=by decide)(hj:j<=1000000000:=by decide):PF GB prog 108 [eS n1 u,eI b] (eI (zv n1 u+b)):=by
 refine fn func108 J J ntmps108 J J (fun C=>?_);refine bb J J J (fun hc13=>?_) (fun hc13=>?_)
 .
  refine cl J (S7 (b:=b.natAbs) hi hj) J<|cl J De J<|rz J (by rw[T',show n1=decide (b<0) from by simpa using hc13,ku];rfl)
 .
  refine cl J (MO (b:=b.natAbs) hi hj) J<|bd J J J (fun hc30=>?_) (fun hc30=>?_)
  .
   refine cl J De J<|rz J (by rw[Zc oko hc30];rfl)
  .
   refine cl J (MO (a:=b.natAbs) hj hi) J<|cl J De J<|rz J (by rw[Qz oko pb];rfl)
def UJ{a:Int}[h:BI a i][k:BI b j](hi:i<=1000000000:=by decide)(hj:j<=1000000000:=by decide):PF GB prog 108 [eI a,eI b] (eI (a+b)):=(Vw (n1:=decide (a<0)) (u:=a.natAbs) hi hj).to (by rw[ku])
def jb(q:Rat):Prop:= ¬(q.num.natAbs<4611686018427387904/\q.den<4611686018427387904)
instance (q:Rat):Decidable (jb q):=inferInstanceAs (Decidable (¬_))
def cF(q:Rat):Int:=if jb q then 0 else q.num
def cD(q:Rat):Int:=if jb q then 0 else(q.den:Int)-1
def cI(q:Rat):DV:= .op (decide (jb q)) [.v (.bool (decide (q.num<0))),dN q.num.natAbs,dN q.den]
def eF(q:Rat):DV:= .ag [vI (cF q),vI (cD q),cI q]
abbrev RH {q:Rat} (h:decide (jb q)=true):jb q:=of_decide_eq_true h
abbrev qg {q:Rat} (h:decide (jb q)=false): ¬jb q:=of_decide_eq_false h
abbrev aHh {q:Rat} (h: ¬decide (jb q)=false):jb q:=by simpa using h
abbrev mP {q:Rat} (h: ¬decide (jb q)=true): ¬jb q:=by simpa using h
def ma(h: ¬jb q):cF q=q.num:=if_neg h
def nI(h: ¬jb q):cD q=(q.den:Int)-1:=if_neg h
def od(h: ¬jb q):q.num.natAbs<4611686018427387904:=(Decidable.not_not.1 h).1
def n5(h: ¬jb q):q.den<4611686018427387904:=(Decidable.not_not.1 h).2
def Gw(h:jb q):q≠0:=fun e=>by subst e;exact h ⟨v6,v6⟩
def qi{d:Int}(h: ¬jb q)(h1:q.num=m)(h2:(q.den:Int)-1=d)(e:r= .ag [vI m,vI d, .v (.pointer none)])(G:Gh)(y:Value)(k:Is G r y):Is G (eF q) y:=by
 subst e h1 h2;obtain⟨l,rfl,g⟩:=eO.1 k;obtain⟨y1,l1,rfl,k1,g1⟩:=bE.1 g;obtain⟨y2,l2,rfl,k2,g2⟩:=bE.1 g1;obtain⟨y3,l3,rfl,k3,g3⟩:=bE.1 g2;exact eO.2 ⟨_,J, .cons (by rw[ma h];exact k1) (.cons (by rw[nI h];exact k2) (.cons (ur.2 (.inl ⟨decide_eq_false h,bh.1 k3⟩)) g3))⟩
def Nf(h:jb q)(h1:decide (q.num<0)=n)(h2:q.num.natAbs=a)(h3:q.den=d)(e:r= .ag [vI 0,vI 0, .pt [.v (.bool n),dN a,dN d]])(G:Gh)(y:Value)(k:Is G r y):Is G (eF q) y:=by
 subst e h1 h2 h3;obtain⟨l,rfl,g⟩:=eO.1 k;obtain⟨y1,l1,rfl,k1,g1⟩:=bE.1 g;obtain⟨y2,l2,rfl,k2,g2⟩:=bE.1 g1;obtain⟨y3,l3,rfl,k3,g3⟩:=bE.1 g2;exact eO.2 ⟨_,J, .cons (by unfold cF;rw[if_pos h];exact k1) (.cons (by unfold cD;rw[if_pos h];exact k2) (.cons (ur.2 (.inr ⟨decide_eq_true h,k3⟩)) g3))⟩
def ya(G:Gh)(y:Value)(k:Is G (.ag [vI 0,vI 0, .v (.pointer none)]) y):Is G (eF 0) y:=qi (fun h=>Gw h J) J J J G y k
def Ma(h:m.natAbs<4611686018427387904)(G:Gh)(y:Value)(k:Is G (.ag [vI m,vI 0, .v (.pointer none)]) y):Is G (eF (m:Rat)) y:=
 qi (fun k=>k ⟨by simpa using h,by rw[qJ];decide⟩) (qX m) (by rw[qJ];rfl) J G y k
def JJ(hd:0<d):(mkRat (zv n a) d).num=zv n (a/Nat.gcd a d)/\(mkRat (zv n a) d).den=d/Nat.gcd a d:=by
 obtain⟨h1,h2⟩:=Iy (m:=zv n a) hd;rw[pI] at h1 h2;exact⟨by rw[h1,Q4 (mK _ _)],h2⟩
def Pp(hd:0<d)(ha:a'=a/Nat.gcd a d)(hd':d'=d/Nat.gcd a d)(h1:a'<4611686018427387904)(h2:d'<4611686018427387904)(G:Gh)(y:Value)(k:Is G (.ag [vI (zv n a'),vI ((d':Int)-1), .v (.pointer none)]) y):Is G (eF (mkRat (zv n a) d)) y:=by
 obtain⟨e1,e2⟩:=JJ (n:=n) (a:=a) hd;rw[<-ha] at e1;rw[<-hd'] at e2;exact qi (fun k=>k ⟨by rw[e1,pI];exact h1,by rw[e2];exact h2⟩) e1 (by rw[e2]) J G y k
def C4(hd:0<d)(ha:a'=a/Nat.gcd a d)(hd':d'=d/Nat.gcd a d)(h: ¬(a'<4611686018427387904/\d'<4611686018427387904))(G:Gh)(y:Value)(k:Is G (.ag [vI 0,vI 0, .pt [.v (.bool (decide (zv n a'<0))),dN (zv n a').natAbs,dN d']]) y):Is G (eF (mkRat (zv n a) d)) y:=by
 obtain⟨e1,e2⟩:=JJ (n:=n) (a:=a) hd;rw[<-ha] at e1;rw[<-hd'] at e2;exact Nf (fun k=>h ⟨by rw[e1,pI] at k;exact k.1,by rw[e2] at k;exact k.2⟩) (by rw[e1]) (by rw[e1]) e2 J G y k
def Ux(hd:0<d)(h: ¬(1:Int)<(bl (Nat.gcd a d):Nat)):Nat.gcd a d=1:=by
 have h1:Nat.gcd a d≠0:=fun e=>by rw[Nat.gcd_eq_zero_iff] at e;omega
 have h2:Nat.gcd a d<2^1:=mB.1 pb;omega
def lP:(((bl x:Nat):Int)<=62)↔x<4611686018427387904:=TU
def PF.ofI{P:Program}{f:FuncId}{ds ds':List DV}(h:PF GB P f ds r)(k: ∀G vs,IsLs G ds' vs->IsLs G ds vs):PF GB P f ds' r:=fun G vs hg hv=>h G vs hg (k G vs hv)
def rD[h:BN a i][k:BN d j](hi:i<=450000000:=by decide)(hj:j<=450000000:=by decide):PF GB prog 112 [eS n a,dN d] (eF (mkRat (zv n a) d)):=by
 refine fn func112 J J ntmps112 J J (fun C=>?_);refine cl J (rH (a:=d) pb) J<|cs 13 J J J (fun hg13=>?_) (fun hg13=>?_)
 .
  exact iB rfl (by obtain rfl:=Fz.1 (Int.ofNat.inj hg13);rw[Rat.mkRat_zero];exact ya)
 .
  have hd0:0<d:=by have:= @Fz d;omega
  have hg0:0<Nat.gcd a d:=pL _ hd0;refine cl J (OH (n:=n) (a:=a) pb) J<|br J J J (fun hc17=>?_) (fun hc17=>?_)
  .
   exact iB J (by rw[iS.1 hc17,Rat.zero_mkRat];exact ya)
  .
   refine cl J (Fd (a:=a) (b:=d) pb pb) J<|cl J (rH (a:=Nat.gcd a d) (i:=i+j) pb) J<|br J J J (fun hc25=>?_) (fun hc25=>?_)
   .
    obtain⟨a',ea⟩: ∃a',a'=a/Nat.gcd a d:=⟨_,rfl⟩;obtain⟨d',ed⟩: ∃d',d'=d/Nat.gcd a d:=⟨_,rfl⟩;have hba:BN a' i:=ea▸inferInstance;have hbd:BN d' j:=ed▸inferInstance;refine cl (fu:=⟨2⟩) J (AP (a:=a) (b:=Nat.gcd a d) (j:=i+j) hg0 pb pb) J<|ah 31 (.d (dN a')) J (by rw[ea])<|gx J<|cl (fu:=⟨2⟩) J (AP (a:=d) (b:=Nat.gcd a d) (j:=i+j) hg0 pb pb) J<|ah 39 (.d (dN d')) J (by rw[ed])<|gx J<|cl J (rH (h:=hba) pb) J<|cs 46 J J J (fun hg46=>?_) (fun hg46=>?_)
    .
     refine cl J (rH (h:=hbd) pb) J<|br J J J (fun hc50=>?_) (fun hc50=>?_)
     .
      have hs2:=lP.1 hc50;refine cl J (JK (lP.1 hg46)) J<|cl J (ym (by have:=lP.1 hc50;omega)) J<|iB J (Pp hd0 ea ed (lP.1 hg46) (lP.1 hc50))
     .
      refine cl J (uU (neg:=n) (h:=hba) pb) J<|cl J (rA (h:=hbd) pb) J<|fz 71 J J<|iB J (C4 hd0 ea ed (fun e=>hc50 (lP.2 e.2)))
    .
     refine cl J (uU (neg:=n) (h:=hba) pb) J<|cl J (rA (h:=hbd) pb) J<|fz 71 J J<|iB J (C4 hd0 ea ed (fun e=>hg46 (lP.2 e.1)))
   .
    have hg1:=Ux hd0 hc25;have ea:a=a/Nat.gcd a d:=by rw[hg1,tK]
    have ed:d=d/Nat.gcd a d:=by rw[hg1,tK]
    have hba:=h;have hbd:=k;refine cl J (rH (h:=hba) pb) J<|cs 46 J J J (fun hg46=>?_) (fun hg46=>?_)
    .
     refine cl J (rH (h:=hbd) pb) J<|br J J J (fun hc50=>?_) (fun hc50=>?_)
     .
      have hs2:=lP.1 hc50;refine cl J (JK (lP.1 hg46)) J<|cl J (ym (by have:=lP.1 hc50;omega)) J<|iB J (Pp hd0 ea ed (lP.1 hg46) (lP.1 hc50))
     .
      refine cl J (uU (neg:=n) (h:=hba) pb) J<|cl J (rA (h:=hbd) pb) J<|fz 71 J J<|iB J (C4 hd0 ea ed (fun e=>hc50 (lP.2 e.2)))
    .
     refine cl J (uU (neg:=n) (h:=hba) pb) J<|cl J (rA (h:=hbd) pb) J<|fz 71 J J<|iB J (C4 hd0 ea ed (fun e=>hg46 (lP.2 e.1)))
theorem okk{p:Prop}(h:p:=by rw[ku,show mkRat m 1=(m:Rat) from rS ..];rfl):p:=h
def DE[h:BI m i](hi:i<=400000000:=by decide):PF GB prog 265 [eI m] (eF (m:Rat)):=by
 refine fn func265 J J ntmps265 J J (fun C=>?_);refine rf (fu:=⟨0⟩) J J<|ah 4 (.d (dN 1)) J okJ<|gx J<|cl J (rD (n:=decide (m<0)) (a:=m.natAbs) (d:=1) pb) J<|rz J okk
def Gc:PF GB prog 266 [eF q] (vB (decide (q=0))):=by
 refine fn func266 J J ntmps266 J J (fun C=>?_);refine cs 6 J J J (fun hg6=>?_) (fun hg6=>?_)
 .
  exact rz J (by rw[ma (qg hg6)];show DV.v (.bool (decide _))= .v (.bool _);congr 2;exact decide_eq_decide.2 ⟨fun e=>lM.1 e,fun e=>by rw[e];rfl⟩)
 .
  exact rz J (by rw[decide_eq_false (Gw (aHh hg6))];rfl)
def x9(h:m.natAbs<9223372036854775808:=by omega):PF GB prog 179 [vI m] (.v (.int .u64 (m.natAbs:Nat))):=by
 refine fn func179 J J ntmps179 J J (fun C=>?_);refine br J J J (fun hc4=>?_) (fun hc4=>?_)
 .
  exact rz J (by show DV.v (.int _ _)=_;congr 2;omega)
 .
  exact rz J (by show DV.v (.int _ _)=_;congr 2;omega)
def ou[h:BQ q i](hi:i<=900000000:=by decide):PF GB prog 111 [eF q] (dN q.den):=by
 refine fn func111 J J ntmps111 J J (fun C=>?_);refine br (v1:=fun hc5=>by simp only[aj];exact hc5) (fu2:=⟨6⟩) J J J (fun hc5=>?_) (fun hc5=>?_)
 .
  refine cl J (rA (a:=q.den) pb) J<|rz J J
 .
  have hd:=q.den_nz;have hs:=n5 (mP hc5);refine ah 13 (.d (vI ((q.den:Int)-1))) J (by rw[nI (mP hc5)])<|gx (fu:=⟨2⟩) J<|ah 15 (.d (.v (.int .u64 (q.den:Nat)))) J omT<|gx J<|cl J (xP (a:=q.den)) J<|rz J J
def uI[h:BQ q i](hi:i<=900000000:=by decide):PF GB prog 110 [eF q] (eI q.num):=by
 refine fn func110 J J ntmps110 J J (fun C=>?_);refine br (v1:=fun hc5=>by simp only[aj];exact hc5) (fu2:=⟨6⟩) J J J (fun hc5=>?_) (fun hc5=>?_)
 .
  refine cl J (uU (neg:=decide (q.num<0)) (a:=q.num.natAbs) pb) J<|rz J (by rw[ku];rfl)
 .
  have hs:=od (mP hc5);refine ah 13 (.d (vI q.num)) J (by rw[ma (mP hc5)])<|gx J<|cl J (EJ) J<|rz J J
def rx[h:BQ q i](hi:i<=900000000:=by decide):PF GB prog 222 [eF q] (eF (-q)):=by
 refine fn func222 J J ntmps222 J J (fun C=>?_);refine br (v1:=fun hc5=>by simp only[aj];exact hc5) (fu2:=⟨6⟩) J J J (fun hc5=>?_) (fun hc5=>?_)
 .
  refine cl (fu:=⟨6⟩) (hv:=by simp only[aj];exact hc5) J (VK (m:=q.num) pb) J<|CX J J<|iB J (Nf (q:= -q) (fun k=>RH hc5 (by rw[mM,iJ,sQ] at k;exact k)) (by rw[mM]) (by rw[mM]) (sQ q) J)
 .
  have hs:=od (mP hc5);refine ah 21 (.d (vI q.num)) J (by rw[ma (mP hc5)])<|gx J<|iB J (qi (q:= -q) (fun k=>k (by rw[mM,iJ,sQ];exact⟨hs,n5 (mP hc5)⟩)) (by rw[mM]) (by rw[sQ,nI (mP hc5)]) J)
def mz[h:BQ q i](hi:i<=900000000:=by decide):PF GB prog 176 [eF q] (vI q.num.sign):=by
 refine fn func176 J J ntmps176 J J (fun C=>?_);refine br (v1:=fun hc3=>by simp only[aj];exact hc3) J J J (fun hc3=>?_) (fun hc3=>?_)
 .
  refine cl J (OH (n:=decide (q.num<0)) (a:=q.num.natAbs) pb) J<|rz J (by rw[ku];rfl)
 .
  have hs:=ma (mP hc3);refine br J J J (fun hc13=>?_) (fun hc13=>?_)
  .
   exact rz J (by rw[dT pb];rfl)
  .
   refine br J J J (fun hc17=>?_) (fun hc17=>?_)
   .
    exact rz J (by rw[fX pb];rfl)
   .
    exact rz J (by rw[show q.num=0 by omega];rfl)
def Zi{b:Nat}(h:b<=a):(dg b).length<=(dg a).length:=wY (gX h (qd a))
def uT{b:Nat}[ha:BN a ia][hb:BN b ib](hb0:0<b)(hi:ia<=500000000:=by decide)(hj:ib<=500000000:=by decide):PF GB prog 126 [dN a,dN b] (.tp [dN (a/b),dN (a%b)]):=by
 have hla:=bC (dg a);have hlb:=bC (dg b);have hba:=k9 ha.h;have hbb:=k9 hb.h;have hba':(dg a).length<=20000000:=by omega
 have hbb':(dg b).length<=20000000:=by omega
 have hlb1:1<=(dg b).length:=LT (k:=0) (by rw[sM];exact hb0);refine fn (fu:=⟨7⟩) func126 J J ntmps126 J J (fun C=>?_);refine mg (X:=Unit) (fun _=>[(0, .d (dN a)),(1, .d (dN b))]) (fun _=>[]) (fun _=>True) [0,1] [] rfl ?_ (fun _=>J) (fun _ hm=>?_)
 .
  refine gx J<|cl J (AZ (a:=a) (ia:=ia) pb) J<|bd (fu1:=⟨0⟩) J J J (fun hc18=>?_) (fun hc18=>?_)
  .
   refine ah 6 (.d (.v (.int .u64 (a:Nat)))) J (by rw[if_pos hc18])<|gx J<|cl J (AZ (a:=b) (ia:=ib) pb) J<|bd (fu1:=⟨0⟩) J J J (fun hc24=>?_) (fun hc24=>?_)
   .
    refine ah 8 (.d (.v (.int .u64 (b:Nat)))) J (by rw[if_pos hc24]) ?_;have hdl:=lL a b;have hml:=Nat.mod_le a b;refine gx (hv:=by simp only[aj];exact⟨pb,pb,pb⟩) J<|cl (hv:=by simp only[aj];exact⟨pb,pb⟩) J (qo (u:=a/b)) J<|cl J (qo (u:=a%b)) J<|rz J J
   .
    exact at_ () trivial
  .
   exact at_ () trivial
 .
  refine cl J (xj) J<|br J J J (fun hc36=>?_) (fun hc36=>?_)
  .
   have hab:=wb.1 hc36;refine nD J J<|ap _ J J (pn _) J<|fD 39 J<|rz J (by show DV.tp [_, .sl ([]++_)]= .tp [_,_];rw[lV hab,gQ hab,kr];rfl)
  .
   have hab:b<=a:=rT fun q=>hc36 (wb.2 q);have hlab:(dg b).length<=(dg a).length:=Zi hab;refine br (fu1:=⟨4⟩) J J J (fun hc42=>?_) (fun hc42=>?_)
   .
    have hb1:b<4294967296:=by have:=qd b;rw[show(dg b).length=1 by omega] at this;omega
    have hbd:(dg b).getD 0 0=b:=uP;refine ah 44 (.d (vI ((dg a).length:Nat))) J omP<|gx J<|mk (fu:=⟨13⟩) ((List.replicate (dg a).length 0).map dU) J J omz J<|ah 47 (.d (vI ((dg a).length:Nat))) J omP<|gx J<|lp (X:=List Nat×Nat) (fun⟨W,k⟩=>[(0, .d (dN a)),(1, .d (dN b)),(10, .rw 45),(11, .d (dU (dv ((dg a).drop k)%b))),(12, .d (vI ((k:Nat)-1)))]) (fun⟨W,k⟩=>[(45,some (.b 225 1 (W.map dU) true))]) (fun⟨W,k⟩=>W.length=(dg a).length/\bt W/\k<=(dg a).length/\dv (W.drop k)=dv ((dg a).drop k)/b) (fun⟨W,k⟩=>k) ⟨List.replicate (dg a).length 0,(dg a).length⟩ J ⟨v8, .replicate _,bZ _,by simp[dv]⟩ (fun _=>J) (fun⟨W,k⟩ hk=>?_) (hF:=(by refine⟨J,J,J,nv J (by simp[dv,dU]),nv J (by simp[vI]),?_⟩;repeat (first|exact trivial|refine And.intro J ?_)))
    try dsimp only at hk⊢
    obtain⟨h1,h2,h3,h4⟩:=hk;have hlw:=bC W;refine br (fu1:=⟨0⟩) J J J (fun hc50=>?_) (fun hc50=>?_)
    .
     obtain⟨k,rfl⟩: ∃j,k=j+1:=⟨k-1,pb⟩;have hsi:=Wb hb0 pb h1 h4;have hrm:=cR (dv ((dg a).drop (k+1))) hb0;have hdk:=dk a k;have hqd:(dv ((dg a).drop (k+1))%b*4294967296+(dg a).getD k 0)/b<4294967296:=by rw[jV hb0];have:=dY 4294967296 (show dv ((dg a).drop (k+1))%b+1<=b from hrm);omega
     refine ah 12 (.d (vI (k:Nat))) J (ome pb)<|gx J<|ix _ J (cp (k:=k)) J<|ix _ J (cp (k:=0) J pb) J<|cl J (azm (h:=dv ((dg a).drop (k+1))%b) (l:=(dg a).getD k 0) (y:=(dg b).getD 0 0) pb hdk pb) J<|sb (hv:=by simp only[aj];exact⟨we,pb⟩) _ ((W.set k ((dv ((dg a).drop (k+1))%b*4294967296+(dg a).getD k 0)/b)).map dU) J (cp (k:=k)) J (by(rw[hbd,dQ,<-iw])<;>rfl) J<|at_ ⟨W.set k ((dv ((dg a).drop (k+1))%b*4294967296+(dg a).getD k 0)/b),k⟩ (by dsimp only;exact⟨⟨by simpa using h1,h2.set _ hqd,pb,hsi.1⟩,pb⟩) (by refine⟨J,J,J,nv J (by rw[hsi.2,hbd]),nv J (by first|(simp[vI];done)|(simp[vI];omega)),?_⟩;repeat (first|exact trivial|refine And.intro J ?_))
    .
     refine fz 45 J J<|cl rfl (pp (ds:=W)) rfl<|rf J J<|cl rfl (pp (ds:=[dv ((dg a).drop k)%b]) v8) rfl<|rz rfl (by show DV.tp [dt _,dt _]= .tp [_,_];obtain rfl:k=0:=pb;rw[fM,fM,cG] at h4;rw[fM,cG];rw[jF h2 h4,jF (.cons (by have:=cR a hb0;omega) .nil) (n:=a%b) (by simp[dv])])
   .
    refine cl J (VQ pb pb hlb1 hlab) J<|rz J J
def NB(x y:Nat):Nat.gcd y (x%y)=Nat.gcd x y:=by rw[iU x y,tJ y x,iU]
def HB{b:Nat}[ha:BN a ia][hb:BN b ib](hi:ia<=240000000:=by decide)(hj:ib<=240000000:=by decide):PF GB prog 124 [dN a,dN b] (dN (Nat.gcd a b)):=by
 refine fn (fu:=⟨6⟩) func124 J J ntmps124 J J (fun C=>?_);refine mg (X:=Unit) (fun _=>[(0, .d (dN a)),(1, .d (dN b))]) (fun _=>[]) (fun _=>True) [0,1] [] rfl ?_ (fun _=>J) (fun _ hm=>?_)
 .
  refine gx J<|cl J (AZ (a:=a) (ia:=ia) pb) J<|bd (fu1:=⟨0⟩) J J J (fun hc16=>?_) (fun hc16=>?_)
  .
   refine ah 5 (.d (.v (.int .u64 (a:Nat)))) J (by rw[if_pos hc16])<|gx J<|cl J (AZ (a:=b) (ia:=ib) pb) J<|bd (fu1:=⟨0⟩) J J J (fun hc22=>?_) (fun hc22=>?_)
   .
    refine ah 7 (.d (.v (.int .u64 (b:Nat)))) J (by rw[if_pos hc22])<|gx J<|lp (X:=Nat×Nat) (fun⟨x,y⟩=>[(5, .d (.v (.int .u64 (x:Nat)))),(7, .d (.v (.int .u64 (y:Nat))))]) (fun⟨x,y⟩=>[]) (fun⟨x,y⟩=>x<18446744073709551616/\y<18446744073709551616/\Nat.gcd x y=Nat.gcd a b) (fun⟨x,y⟩=>y) ⟨a,b⟩ J ⟨hc16,hc22,J⟩ (fun _=>J) (fun⟨x,y⟩ hk=>?_)
    try dsimp only at hk⊢
    obtain⟨h1,h2,h3⟩:=hk;refine br (v1:=fun hc24=>by simp only[aj];exact⟨⟨pb,pb⟩,we⟩) J J J (fun hc24=>?_) (fun hc24=>?_)
    .
     exact at_ ⟨y,x%y⟩ (by dsimp only;exact⟨⟨h2,by have:=cR x (show 0<y by omega);omega,by rw[NB,h3]⟩,(by exact cR _ pb)⟩)
    .
     refine cl J (qo (u:=x) h1) J<|rz J (by show dN x=_;rw[<-h3,show y=0 by omega,mW])
   .
    exact at_ () trivial
  .
   exact at_ () trivial
 .
  refine lp (fu:=⟨5⟩) (X:=Nat×Nat) (fun⟨x,y⟩=>[(0, .d (dN x)),(1, .d (dN y))]) (fun⟨x,y⟩=>[]) (fun⟨x,y⟩=>x<2^(ia+ib)/\y<2^(ia+ib)/\Nat.gcd x y=Nat.gcd a b) (fun⟨x,y⟩=>y) ⟨a,b⟩ J ⟨(ha.mono pb).h,(hb.mono pb).h,J⟩ (fun _=>J) (fun⟨x,y⟩ hk=>?_)
  try dsimp only at hk⊢
  obtain⟨h1,h2,h3⟩:=hk;have hly:=bC (dg y);haveI hx':BN x (ia+ib):=⟨h1⟩;haveI hy':BN y (ia+ib):=⟨h2⟩;refine ah 32 (.d (vI ((dg y).length:Nat))) J (by rw[hly];rfl)<|gx J<|br J J J (fun hc33=>?_) (fun hc33=>?_)
  .
   have hy0:0<y:=iV fun q=>by subst q;rw[sv] at hc33;simp at hc33
   refine cl J (uT (a:=x) (b:=y) (ia:=ia+ib) (ib:=ia+ib) hy0 pb pb) J<|at_ ⟨y,x%y⟩ (by dsimp only;exact⟨⟨h2,by have:=cR x hy0;omega,by rw[NB,h3]⟩,(by exact cR _ hy0)⟩)
  .
   have hy0:y=0:=sj.1 pb;have hlx:=k9 h1;have hmx:=bC (dg x);refine nD J J<|ap _ J J (pn _) J<|fD 44 J<|rz J (by show DV.sl ([]++_)=_;rw[<-h3,hy0,mW];rfl)
def JI(neg:Bool)(m:Nat):eI (zv neg m)= .ag [.v (.bool (neg&&decide (0<m))),dN m]:=by unfold eI;rw[pI,O']
def Zs(z:Int):zv (!decide (z<0)) z.natAbs= -z:=by
 unfold zv;by_cases h:z<0<;>simp[h]<;>omega
def S3(a b:Int):zv (!(decide (a<0)==decide (b<0))) (a.natAbs*b.natAbs)=a*b:=by
 have h:=Lx (decide (a<0)) (decide (b<0)) a.natAbs b.natAbs;rw[ku,ku] at h;exact h
def jr{m:Nat}:PF GB prog 56 [.v (.bool neg),dN m] (eI (zv neg m)):=by
 have hl:=bC (dg m);have hz:= @sj m;refine fn func56 J J ntmps56 J J (fun C=>?_);refine ja 6 J J J (fun hg6=>?_) (fun hg6=>?_)
 .
  exact rz J (by rw[JI,hg6];show DV.ag [.v (.bool _),_]= .ag [.v (.bool _),_];congr 4;rw[Bool.true_and];exact decide_eq_decide.2 pb)
 .
  exact rz J (by rw[JI,hg6];rfl)
end Go.Sx
end
section
namespace Go.Sx
open Go
instance:DecidableEq aa:=fun x y=>decidable_of_iff (x.a=y.a/\x.b=y.b/\x.c=y.c) (by
 cases x;cases y;simp)
structure ak where
 lo:Rat
 hi:Rat
 nl:Bool
 nh:Bool
def ak.all:ak:=⟨0,0,true,true⟩
def ak.empty(v:ak):Bool:=!v.nl&&(!v.nh&&decide (0<=bm v.lo v.hi))
def ak.meet(v w:ak):ak:=
 ⟨if v.nl then w.lo else if w.nl then v.lo else if v.lo<w.lo then w.lo else v.lo,
  if v.nh then w.hi else if w.nh then v.hi else if w.hi<v.hi then w.hi else v.hi,v.nl&&w.nl,v.nh&&w.nh⟩
def ak.sample(v:ak):Rat:=if v.nl&&v.nh then 0 else if v.nl then v.hi-1 else if v.nh then v.lo+1 else(v.lo+v.hi)*mkRat 1 2
def aa.cutK(l m:aa):Rat:=m.nor.dot l.dir
def aa.cutC(l m:aa):Rat:=m.value l.base
def aa.cutV(l:aa)(v:ak)(m:aa):ak:=
 if Int.sign (l.cutK m).num=0 then v
 else if Int.sign (l.cutK m).num=1 then v.meet ⟨-(l.cutC m/l.cutK m),0,false,true⟩
 else v.meet ⟨0, -(l.cutC m/l.cutK m),true,false⟩
def aa.cutB(l:aa)(v:ak)(m:aa):Bool:=
 if Int.sign (l.cutK m).num=0 then decide (0<Int.sign (l.cutC m).num) else !(l.cutV v m).empty
structure bi where
 l:aa
 v:ak
abbrev az:=List bi
def lz(l:aa):az->ak->Option ak
 |[],v=>some v
 |s::t,v=>if l.cutB v s.l then lz l t (l.cutV v s.l) else none
def jP(c:az)(l:aa):Option ak:=lz l c ak.all
def mO(l:aa)(s:bi):Int:=Int.sign (l.value (s.l.at s.v.sample)).num
def mI(l:aa):az->Int
 |[]=> -1
 |s::t=>if mO l s≠0 then mO l s else if s.l=l then 1 else mI l t
def tL(c:az)(l:aa):Int:=if(jP c l).isSome then 0 else mI l c
def ab.half(p:ab):Int:=
 if 0<Int.sign p.y.num\/(Int.sign p.y.num=0/\0<Int.sign p.x.num) then 1 else if Int.sign p.y.num<0\/Int.sign p.x.num<0 then 2 else 0
def fq(u v:ab):Int:=if u.half<v.half then-1 else if v.half<u.half then 1 else-(Int.sign (u.cross v).num)
def dO(l:aa):az->az
 |[]=>[]
 |s::t=>if s.l.cutB s.v l then⟨s.l,s.l.cutV s.v l⟩::dO l t else dO l t
def fG(p:Nat->Bool)(i j:Nat):Nat:=
 if h:i<j then(if p ((i+j)/2) then fG p ((i+j)/2+1) j else fG p i ((i+j)/2)) else i
termination_by j-i
def iI(c:az)(l:aa)(i:Nat):Bool:=match c[i]? with
 |some s=>decide (fq s.l.dir l.dir<0)
 |none=>false
def kG(c:az)(l:aa)(v:ak):az:=
 c.take (fG (iI c l) 0 c.length)++⟨l,v⟩::c.drop (fG (iI c l) 0 c.length)
def b4(c:az)(l:aa):az:=match jP c l with
 |some v=>kG (dO l c) l v
 |none=>c
def c6(c:az)(l:aa):Bool:=match jP c l with
 |some _=>true
 |none=>decide (0<tL c l)
def Ba(p:Nat->Bool): ∀(d i j:Nat),j-i<=d->i<=j->i<=fG p i j/\fG p i j<=j
 |0,i,j,h,hij=>by
  rw[fG,dif_neg pb];omega
 |d+1,i,j,h,hij=>by
  rw[fG];split
  .split
   .have:=Ba p d ((i+j)/2+1) j pb pb;omega
   .have:=Ba p d i ((i+j)/2) pb pb;omega
  .omega
def OV(l:aa): ∀c:az,(dO l c).length<=c.length
 |[]=>bZ _
 |s::t=>by
  have:=OV l t;unfold dO;split<;>simp<;>omega
def Sb(c:az)(l:aa)(v:ak):(kG c l v).length=c.length+1:=by
 have:=(Ba (iI c l) c.length 0 c.length pb pb).2;simp[kG];omega
def vo(c:az)(l:aa):(b4 c l).length<=c.length+1:=by
 unfold b4;split
 .rw[Sb];have:=OV l c;omega
 .omega
inductive Tr where
 |leaf (b:Bool)
 |node (l:aa) (x y:Tr)
def Tr.isLeaf:Tr->Bool
 | .leaf _=>true
 | .node .. =>false
def Tr.code:Tr->Bool
 | .leaf b=>b
 | .node .. =>false
def Tr.depth:Tr->Nat
 | .leaf _=>0
 | .node _ x y=>1+max x.depth y.depth
def Tr.size:Tr->Nat
 | .leaf _=>0
 | .node _ x y=>1+x.size+y.size
def Tr.joinQ(l:aa)(x y:Tr):Tr:=if x.isLeaf&&(y.isLeaf&&(x.code==y.code)) then x else .node l x y
def Tr.restrict:Tr->az->Tr
 | .leaf b,_=> .leaf b
 | .node l x y,c=>if !c6 c l.rev then x.restrict c else if !c6 c l then y.restrict c else joinQ l (x.restrict (b4 c l)) (y.restrict (b4 c l.rev))
def Tr.parts:Tr->az->List (Bool×az)
 | .leaf b,c=>[(b,c)]
 | .node l x y,c=>(if c6 c l then x.parts (b4 c l) else [])++(if c6 c l.rev then y.parts (b4 c l.rev) else [])
def Tr.all(p:aa->Prop):Tr->Prop
 | .leaf _=>True
 | .node l x y=>p l/\x.all p/\y.all p
structure NQ where
 l:aa
 a:Int
 b:Int
def V6(b:Bool):Int:=if b then-2 else-1
def Tr.num:Tr->Nat->Int
 | .leaf b,_=>V6 b
 | .node ..,n=>n
def Tr.wr:Tr->Nat->List NQ
 | .leaf _,_=>[]
 | .node l x y,n=>⟨l,x.num (n+1),y.num (n+1+x.size)⟩::x.wr (n+1)++y.wr (n+1+x.size)
def Tr.wr_len: ∀(t:Tr) (n:Nat),(t.wr n).length=t.size
 | .leaf _,n=>rfl
 | .node l x y,n=>by
  have h1:=Tr.wr_len x (n+1);have h2:=Tr.wr_len y (n+1+x.size);simp[Tr.wr,Tr.size,h1,h2];omega
def Tr.joinQ_cases(l:aa)(x y:Tr):(Tr.joinQ l x y=x/\x.isLeaf=true)\/(Tr.joinQ l x y= .node l x y/\ ¬(x.isLeaf=true/\y.isLeaf=true/\x.code=y.code)):=by
 unfold Tr.joinQ;split
 .rename_i h
  simp at h;exact .inl ⟨J,h.1⟩
 .rename_i h
  simp at h;exact .inr ⟨J,fun⟨a,b,c⟩=>h a b c⟩
def Tr.restrict_depth: ∀(t:Tr) (c:az),(t.restrict c).depth<=t.depth
 | .leaf b,c=>bZ _
 | .node l x y,c=>by
  unfold Tr.restrict;split
  .have:=x.restrict_depth c;simp only[Tr.depth];omega
  .split
   .have:=y.restrict_depth c;simp only[Tr.depth];omega
   .have h1:=x.restrict_depth (b4 c l)
    have h2:=y.restrict_depth (b4 c l.rev);rcases Tr.joinQ_cases l (x.restrict (b4 c l)) (y.restrict (b4 c l.rev)) with⟨h,_⟩|⟨h,_⟩
    .rw[h];simp only[Tr.depth];omega
    .rw[h];simp only[Tr.depth];omega
def Tr.restrict_all(p:aa->Prop): ∀(t:Tr) (c:az),t.all p->(t.restrict c).all p
 | .leaf b,c,_=>trivial
 | .node l x y,c,h=>by
  obtain⟨h0,h1,h2⟩:=h;unfold Tr.restrict;split
  .exact x.restrict_all p c h1
  .split
   .exact y.restrict_all p c h2
   .rcases Tr.joinQ_cases l (x.restrict (b4 c l)) (y.restrict (b4 c l.rev)) with⟨h,_⟩|⟨h,_⟩
    .rw[h];exact x.restrict_all p _ h1
    .rw[h];exact⟨h0,x.restrict_all p _ h1,y.restrict_all p _ h2⟩
end Go.Sx
end
