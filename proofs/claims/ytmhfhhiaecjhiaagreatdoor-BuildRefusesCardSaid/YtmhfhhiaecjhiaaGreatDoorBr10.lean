import Derived.Test.YtmhfhhiaecjhiaaGreatDoorBr9
set_option linter.all false
set_option maxHeartbeats 8000000
set_option maxRecDepth 100000
section
namespace Go.Sx
open Go Go.Proofs Tryz
variable {GB:Gh}
def Yi{A W:List Nat}{k i x:Nat}(hk:k<32)(hl:i+1<W.length)(hx:x=A.getD i 0)(h:dv (W.take (i+1))=dv (A.take i)*2^k):dv (((W.set i (W.getD i 0+x*2^k%4294967296)).set (i+1) (x*2^k/4294967296)).take (i+1+1))=dv (A.take (i+1))*2^k:=by
 have:=Qi (A:=A) (W:=W) (k:=k) (q:=0) (s:=k) (i:=i) (x:=x) (by omega) (by omega) (by omega) hx (by rw[dL];exact h);simpa only[dL] using this
def Z6{a k n:Nat}{W:List Nat}(hn:n=(dg a).length)(hl:W.length=n)(h:dv (W.take n)=(a/2^k)%4294967296^n):dv W=a/2^k:=by
 rw[jj] at h;have h1:=qn a;have h2:=lU a (2^k);rw[h,jQ (by rw[hn];omega)]
def aEB{k:Nat}(h:k<32):(k:Int).tdiv 32=0:=Int.tdiv_eq_zero_of_lt (by omega) (by omega)
def Mk{a k ia:Nat}[h:BN a ia](hk:k<32)(h0:0<(dg a).length)(hi:ia<=1000000000:=by decide):PR GB prog 259 [dN a, .v (.int .u64 (k:Nat))] 1 261 ((dg (a*2^k)).map dU):=by
 have hla:=bP (dg a);have hba:=hH (a:=a) hi;refine fnR (fu:=⟨8⟩) func259 J J ntmps259 J J (fun C hmb=>?_);refine cl (fu:=⟨2⟩) J (nq (a:=a)) J<|ah 14 (.d (.v (.int .u64 (k:Nat)))) J (by show FX.d (.v (.int _ _))= .d (.v (.int _ _));congr 3;omega)<|gx (fu:=⟨9⟩) J<|ah 16 (.d (vI ((dg a).length:Nat))) J (by rw[hla]<;>rfl)<|gx (fu:=⟨0⟩) J<|b9 (fu:=⟨10⟩) J (by show some (decide _)=some false;rw[decide_eq_false (by omega)]) J<|ah 20 (.d (vI (0:Nat))) J (by show FX.d (.v (.int _ _))= .d (.v (.int _ _));congr 3;have:=aEB hk;omega)<|gx (fu:=⟨2⟩) J<|ah 22 (.d (.v (.int .u64 (k:Nat)))) J (by show FX.d (.v (.int _ _))= .d (.v (.int _ _));congr 3;omega)<|gx (fu:=⟨8⟩) J<|ah 24 (.d (vI ((dg a).length:Nat))) J (by rw[hla]<;>rfl)<|gx (fu:=⟨3⟩) J<|ah 27 (.d (vI ((dg a).length+1:Nat))) J (by show FX.d (.v (.int _ _))= .d (.v (.int _ _));congr 3)<|gx J<|mk (fu:=⟨8⟩) ((List.replicate ((dg a).length+1) 0).map dU) J J (by rw[<-ma];rfl) J<|ah 30 (.d (vI ((dg a).length:Nat))) J (by rw[hla]<;>rfl)<|gx J<|lp (X:=List Nat×Nat) (fun⟨W,i⟩=>[(0, .d (dN a)),(1, .d (.v (.int .u64 (k:Nat)))),(5, .d (vI (0:Nat))),(6, .d (.v (.int .u64 (k:Nat)))),(7, .rw 28),(29, .d (dN a)),(30, .d (vI ((dg a).length:Nat))),(31, .d (vI (i:Nat)))]) (fun⟨W,i⟩=>[(28,some (.b 261 1 (W.map dU) true))]) (fun⟨W,i⟩=>W.length=(dg a).length+1/\bt W/\i<=(dg a).length/\dv (W.take (i+1))=dv ((dg a).take i)*2^k/\W.getD i 0<2^k) (fun⟨W,i⟩=>(dg a).length-i) ⟨List.replicate ((dg a).length+1) 0,0⟩ J ⟨by simp, .replicate _,by omega,by rw[pN,vq];simp[dv],by rw[BC];exact gN (by decide)⟩ (fun _=>J) (fun⟨W,i⟩ hk=>?_)
 try dsimp only at hk⊢
 obtain⟨h1,h2,h3,h4,h5⟩:=hk;have hlw:=bP W;have hda:=dE a i;have hpp:2^k<=2^31:=bU (by decide) (by omega);refine br J J J (fun hc32=>?_) (fun hc32=>?_)
 .
  refine ix (fu:=⟨11⟩) (hv:=by simp only[aj];exact⟨by omega,(by omega)⟩) _ J (d6) J<|?_;have hhi:=Kj hda hk;have hfit0:=KV hda hk;have hor:=LU (x:=(dg a).getD i 0) h5 hk;have hfit:W.getD i 0+(dg a).getD i 0*2^k%4294967296<4294967296:=by rw[<-hor];exact BitVec.isLt _
  have hlp:=Gi ((dg a).getD i 0) k;refine ah 39 (.d (.v (.int .u64 ((dg a).getD i 0*2^k:Nat)))) J (by show FX.d (.v (.int _ _))= .d (.v (.int _ _));rw[o4 _ k (by omega) hfit0]) ?_;obtain⟨t,ht⟩: ∃t,t=(dg a).getD i 0*2^k:=⟨_,rfl⟩;simp only[<-ht] at hhi hfit0 hor hfit hlp;rw[<-ht];refine gx (fu:=⟨9⟩) J<|ah 43 (.d (vI (i:Nat))) J (by show FX.d (.v (.int _ _))= .d (.v (.int _ _));congr 3)<|gx J<|lb (fu:=⟨2⟩) _ J (d6) J<|ah 47 (.d (dU (t%4294967296))) J (by show FX.d (.v (.int _ _))= .d (.v (.int _ _));congr 3)<|gx (fu:=⟨1⟩) J<|ah 48 _ J (congrArg (fun z:Nat=>FX.d (.v (.int .u32 (z:Int)))) hor)<|gx J<|sb (fu:=⟨7⟩) _ ((W.set i (W.getD i 0+t%4294967296)).map dU) J (d6) J (by simp only[eY,oX]<;>rfl) J<|ah 53 (.d (vI (i:Nat))) J (by show FX.d (.v (.int _ _))= .d (.v (.int _ _));congr 3)<|gx (fu:=⟨1⟩) J<|ah 54 (.d (vI (i+1:Nat))) J (by show FX.d (.v (.int _ _))= .d (.v (.int _ _));congr 3)<|gx (fu:=⟨2⟩) (hv:=by simp only[aj];exact(by decide)) J<|ah 56 (.d (.v (.int .u64 (t/4294967296:Nat)))) J (by rw[nF])<|gx (fu:=⟨1⟩) J<|ah 57 (.d (dU (t/4294967296))) J (by show FX.d (.v (.int _ _))= .d (.v (.int _ _));congr 3;omega)<|gx J<|sb _ (((W.set i (W.getD i 0+t%4294967296)).set (i+1) (t/4294967296)).map dU) J (d6 (by rw[aR];omega)) J (by simp only[eY,oX]<;>rfl) J<|at_ ⟨(W.set i (W.getD i 0+t%4294967296)).set (i+1) (t/4294967296),i+1⟩ (by dsimp only;exact⟨⟨by simpa using h1,(h2.set _ hfit).set _ (by omega),by omega,by have q:=Yi (x:=(dg a).getD i 0) hk (by omega) J h4;rw[<-ht] at q;exact q,by rw[yN (by simp;omega)];exact hhi⟩,(by omega)⟩)
 .
  obtain rfl:i=(dg a).length:=by omega
  refine cq _ J (ay1 (ds:=W) (by omega)) J J<|?_;exact Xs J J J (by rw[<-AP h2];have:=h4;rw[jj,jj,cH] at this;rw[this])
def aGk{ds:List Nat}{k:Nat}(hd:bt ds)(hl:ds.length<=200000000)(hk:k<32):PF GB prog 260 [bE ds, .v (.int .u64 (k:Nat))] (dN (dv ds/2^k)):=by
 obtain⟨a,ha⟩: ∃a,a=dv ds:=⟨_,rfl⟩;rw[<-ha];have hla:=bP (dg a);have hba:(dg a).length<=200000000:=by rw[ha,AP hd];have:=asA ds;omega
 refine fn func260 J J ntmps260 J J (fun C=>?_);refine cl (fu:=⟨0⟩) J (q8 (ds:=ds)) J<|ah 11 (.d (dN a)) J (by rw[jG hd ha.symm])<|gx (fu:=⟨8⟩) J<|ah 13 (.d (.v (.int .u64 (0:Nat)))) J (by show FX.d (.v (.int _ _))= .d (.v (.int _ _));congr 3;omega)<|gx (fu:=⟨2⟩) J<|ah 15 (.d (vI ((dg a).length:Nat))) J (by rw[hla]<;>rfl)<|gx J<|br (fu2:=⟨7⟩) J J J (fun hc17=>?_) (fun hc17=>?_)
 .
  exact rz J (by rw[xK (a:=a),Nat.zero_div,uc];rfl)
 .
  refine ah 20 (.d (vI (0:Nat))) J (by show FX.d (.v (.int _ _))= .d (.v (.int _ _));congr 3;omega)<|gx (fu:=⟨2⟩) J<|ah 22 (.d (.v (.int .u64 (k:Nat)))) J (by show FX.d (.v (.int _ _))= .d (.v (.int _ _));congr 3;omega)<|gx (fu:=⟨8⟩) J<|ah 24 (.d (vI ((dg a).length:Nat))) J (by rw[hla]<;>rfl)<|gx (fu:=⟨2⟩) J<|ah 26 (.d (vI ((dg a).length:Nat))) J (by show FX.d (.v (.int _ _))= .d (.v (.int _ _));congr 3)<|gx J<|mk (fu:=⟨8⟩) ((List.replicate (dg a).length 0).map dU) J J (by rw[<-ma];rfl) J<|ah 29 (.d (vI ((dg a).length:Nat))) J (by rw[bP,aW]<;>rfl)<|gx J<|lp (X:=List Nat×Nat) (fun⟨W,i⟩=>[(0, .d (dN a)),(5, .d (vI (0:Nat))),(6, .d (.v (.int .u64 (k:Nat)))),(7, .rw 27),(29, .d (vI ((dg a).length:Nat))),(30, .d (vI (i:Nat)))]) (fun⟨W,i⟩=>[(27,some (.b 261 1 (W.map dU) true))]) (fun⟨W,i⟩=>W.length=(dg a).length/\bt W/\i<=(dg a).length/\dv (W.take i)=(a/2^k)%4294967296^i) (fun⟨W,i⟩=>(dg a).length-i) ⟨List.replicate (dg a).length 0,0⟩ J ⟨by simp, .replicate _,by omega,by simp[dv,Nat.mod_one]⟩ (fun _=>J) (fun⟨W,i⟩ hk=>?_)
  try dsimp only at hk⊢
  obtain⟨h1,h2,h3,h4⟩:=hk;have hlw:=bP W;have hda:=dE a i;have hdb:=dE a (i+1);refine br (fu1:=⟨16⟩) J J J (fun hc31=>?_) (fun hc31=>?_)
  .
   refine ah 36 (.d (vI (i:Nat))) J (by show FX.d (.v (.int _ _))= .d (.v (.int _ _));congr 3)<|gx J<|ix (fu:=⟨6⟩) _ J (d6) J<|mg (fu:=⟨6⟩) (hv:=fun _ _=>by simp only[aj];exact(by omega)) (X:=Unit) (fun _=>[(0, .d (dN a)),(5, .d (vI (0:Nat))),(6, .d (.v (.int .u64 (k:Nat)))),(7, .rw 27),(29, .d (vI ((dg a).length:Nat))),(30, .d (vI (i:Nat))),(8, .d (vI (i:Nat))),(9, .d (.v (.int .u64 ((dg a).getD i 0+(dg a).getD (i+1) 0*4294967296:Nat))))]) (fun _=>[(27,some (.b 261 1 (W.map dU) true))]) (fun _=>True) [0,5,6,7,29,30,8,9] [27] rfl ?_ (fun _=>J) (fun _ _=>?_)
   .
    refine gx (fu:=⟨5⟩) J<|ah 42 (.d (vI (i:Nat))) J (by show FX.d (.v (.int _ _))= .d (.v (.int _ _));congr 3)<|gx (fu:=⟨1⟩) J<|ah 43 (.d (vI (i+1:Nat))) J (by show FX.d (.v (.int _ _))= .d (.v (.int _ _));congr 3)<|gx (fu:=⟨2⟩) J<|ah 45 (.d (vI ((dg a).length:Nat))) J (by rw[hla]<;>rfl)<|gx J<|br (fu1:=⟨6⟩) J J J (fun hc46=>?_) (fun hc46=>?_)
    .
     refine ah 51 (.d (vI (i:Nat))) J (by show FX.d (.v (.int _ _))= .d (.v (.int _ _));congr 3)<|gx (fu:=⟨1⟩) J<|ah 52 (.d (vI (i+1:Nat))) J (by show FX.d (.v (.int _ _))= .d (.v (.int _ _));congr 3)<|gx J<|ix (fu:=⟨3⟩) (hv:=by simp only[aj];exact⟨by omega,(by decide)⟩) _ J (cF (k:=i+1)) J<|ah 56 (.d (.v (.int .u64 ((dg a).getD (i+1) 0*4294967296:Nat)))) J (by show FX.d (.v (.int _ _))= .d (.v (.int _ _));rw[o4 _ 32 (by decide) (by show _*4294967296<_;omega) J])<|gx (fu:=⟨1⟩) J<|ah 57 _ J (congrArg (fun z:Nat=>FX.d (.v (.int .u64 (z:Int)))) (oD 64 ((dg a).getD i 0) ((dg a).getD (i+1) 0) 32 hda (by show _+_*4294967296<18446744073709551616;omega)))<|gx J<|at_ () trivial
    .
     refine ah 9 (.d (.v (.int .u64 ((dg a).getD i 0+(dg a).getD (i+1) 0*4294967296:Nat)))) J (by rw[o8 (by omega:(dg a).length<=i+1),jK,gV])<|at_ () trivial
   .
    refine ah 62 (.d (.v (.int .u64 (((dg a).getD i 0+(dg a).getD (i+1) 0*4294967296)/2^k:Nat)))) J (by show FX.d (.v (.int _ _))= .d (.v (.int _ _));rw[PJ _ k])<|gx (fu:=⟨1⟩) J<|?_;obtain⟨w,hw⟩: ∃w,w=((dg a).getD i 0+(dg a).getD (i+1) 0*4294967296)/2^k%4294967296:=⟨_,rfl⟩;have hw1:w<4294967296:=hw▸dQ _ (by decide);refine ah 63 (.d (dU w)) J (by show FX.d (.v (.int _ _))= .d (.v (.int _ _));congr 3;rw[hw];rfl)<|gx J<|sb _ ((W.set i w).map dU) J (d6) J (by rw[<-iC];rfl) J<|at_ ⟨W.set i w,i+1⟩ (by dsimp only;exact⟨⟨by simpa using h1,h2.set _ (by omega),by omega,by rw[uD,h4];exact(O' hk (by have:=Cs (fk a) i;rwa [cH] at this) hw).symm⟩,(by omega)⟩)
  .
   refine fz 27 J J<|cl rfl (q8 (ds:=W)) rfl<|rz rfl (jG h2 (by obtain rfl:i=(dg a).length:=(by omega);exact Z6 rfl h1 h4))
def Zs(c:Nat)(h:c<18446744073709551616):(BitVec.ofInt 64 (c:Int) &&& BitVec.ofInt 64 4294967295).toNat=c%4294967296:=by
 rw[BitVec.toNat_and,BitVec.ofInt_natCast,BitVec.toNat_ofNat,jQ (by omega),show(BitVec.ofInt 64 4294967295).toNat=2^32-1 from J,Nat.and_two_pow_sub_one_eq_mod]
structure VT (a b n s l:Nat):Prop where
 hn:(dg b).length=n+2
 hs:s=32-bl ((dg b).getD (n+1) 0)
 hb:bl ((dg b).getD (n+1) 0)<=32
 s32:s<32
 vl:(dg (b*2^s)).length=n+2
 v2:b*2^s<4294967296^(n+2)
 al:(dg a).length=n+1+l
 u0:(dg a).length<=(dg (a*2^s)).length
 u1:a*2^s<4294967296^((dg a).length+1)
 u3:a*2^s<b*2^s*4294967296^l
 bp:0<b
def awU{a b:Nat}(hb2:2<=(dg b).length)(hle:b<=a): ∃n s l,VT a b n s l:=by
 have hoa:=fk a;have hob:=fk b;have hna:=(ey a).2.2;have hnb:=(ey b).2.2;have ea:=cH a;have eb:=cH b;obtain⟨n,hn⟩: ∃n,(dg b).length=n+2:=⟨(dg b).length-2,by omega⟩;have hbp:0<b:=eK fun h=>by subst h;rw[qc] at hb2;simp at hb2
 have hnm:(dg b).length<=(dg a).length:=by
  rcases fW (dg a).length (dg b).length with h|h
  .have:=wC hoa hnb h
   omega
  .exact h
 have htp:=La hnb (n+1) hn;have htl:=hob.get (n+1);have hbv:=UT hob (n+1) hn;have hbt:=BJ hob (n+1);obtain⟨s,hs⟩: ∃s,s=32-bl ((dg b).getD (n+1) 0):=⟨_,rfl⟩;obtain⟨hs32,hs1,hs2⟩:=RJ htp htl hs;have hpn:0<4294967296^(n+1):=gN (by decide);have hps:0<2^s:=gN (by decide);rw[eb] at hbv;have hV1:2147483648*4294967296^(n+1)<=b*2^s:=by
  refine dJ (bV _ hs1) ?_;rw[bR,bT (2^s),<-bR];exact bV _ (by omega)
 have hV2:b*2^s<4294967296^(n+2):=by
  refine bM (lR (k:=2^s) (m:=((dg b).getD (n+1) 0+1)*4294967296^(n+1)) (by rw[dZ,lL];omega) hps) ?_;rw[bR,bT (4294967296^(n+1)),<-bR,vj (n+1),bT _ 4294967296];exact bV _ hs2
 have hVl:(dg (b*2^s)).length=n+2:=WO (by show 4294967296^(n+1)<=_;omega) hV2 (by omega);have hal:=ka hoa;rw[ea] at hal;have hU2:a*2^s<4294967296^((dg a).length+1):=by
  rw[vj];exact rS hal (bM (Nat.pow_lt_pow_right (by decide) hs32) (by decide))
 have hUl0:(dg a).length<=(dg (a*2^s)).length:=by
  have hane:dg a≠[]:=fun h=>by
   have:=congrArg List.length h;simp only[kS] at this;omega
  have h1:=ul hna hane;have h2:=ka (ey (a*2^s)).2.1;rw[(ey _).1] at h2;rw[ea] at h1;have h3:a<=a*2^s:=qS _ hps;have h4:=(nQ (a:=4294967296) (by decide)).1 (gW (dJ h1 h3) h2);omega
 have hU3:a*2^s<b*2^s*4294967296^((dg a).length-n-1):=by
  have h1:4294967296^(n+1)*4294967296^((dg a).length-n-1)=4294967296^(dg a).length:=by rw[<-gM,show n+1+((dg a).length-n-1)=(dg a).length by omega]
  refine bM (lR hal hps) (dJ (fR _ (bU (by decide) (show s<=31 by omega))) ?_);rw[<-h1,bT,<-bR];exact bV _ hV1
 exact⟨n,s,(dg a).length-n-1,hn,hs,ld.2 htl,hs32,hVl,hV2,by omega,hUl0,hU2,hU3,hbp⟩
section
variable {GB:Gh} {C:aC} {n:Nat} {Q0:Exit->Act->World->Prop} {fr fr':av} {own own':aF} {cf cf':Cf} {vc:List Prop}
def JF(fr:av)(cf:Cf):Option (Int×Int):=match b8 fr cf with
 |some ⟨_, .binOp .add _ x y _,_,_,_,_⟩=>match aI (bw fr cf) x,aI (bw fr cf) y with
  |some (.d (.v (.int .u32 p))),some (.d (.v (.int .u32 q)))=>some (p,q)
  |_,_=>none
 |_=>none
def aw[fu:Fu]{p q:Int}(u:Int)(h:JF fr cf=some (p,q))(e:IntKind.u32.wrap (p+q)=u)(hgo:cv tt n fu.n fr own cf (.d (.v (.int .u32 u))) [] []=⟨vc,fr',own',cf'⟩)(k:ak prog GB C n Q0 fr' own' cf')
  (hv:autoParam (aj vc) cL._auto_1):ak prog GB C n Q0 fr own cf:=by
 unfold JF at h;split at h<;>try (cases h;done)
 rename_i hh;split at h<;>cases h;rename_i h1 h2;subst e;exact us hh (.yd fun ρ G ov a w r=>by
  obtain⟨y1,h3,h4⟩:=r.ev h1;obtain⟨y2,h5,h6⟩:=r.ev h2;rw[c8] at h4 h6;subst h4 h6;exact⟨_,c8.2 J,j0 h3 h5 fun w=>J⟩) hgo hv k
end
def SC{U m:Nat}(h:U<4294967296^m):dv ((dg U++[0,0]).take m)=U:=by
 have h1:dv (dg U++[0,0])=U:=by rw[show([0,0]:List Nat)=List.replicate 2 0 from J,Sk,cH]
 have h2:=uu (dg U++[0,0]) m;rw[yW (by rw[h1];exact h),h1] at h2;omega
def Tj{a k ia:Nat}{vs:List Nat}[h:BN a ia](hv:vs=dg (a*2^k))(hk:k<32)(h0:0<(dg a).length)(hi:ia<=1000000000):PR GB prog 259 [dN a, .v (.int .u64 (k:Nat))] 1 261 (vs.map dU):=by
 subst hv;exact Mk hk h0 hi
def azi{us vs:List Nat}{n i T S:Nat}(huo:bt us)(hvo:bt vs)(hvB:dv vs<4294967296^(n+2))(hv0:0<dv vs)(hvh:dv vs=(T*4294967296+S)*4294967296^n+dv (vs.take n))(hlt:dv us<dv vs*4294967296^(i+1)):
  ∃f p V w:Nat,f=us.getD (i+n+2) 0*4294967296+us.getD (i+n+1) 0/\V=dv vs*4294967296^i/\0<V/\dv us<V*4294967296/\(f*4294967296+us.getD (i+n) 0)*p<=dv us/\dv us<(f*4294967296+us.getD (i+n) 0+1)*p/\V=(T*4294967296+S)*p+w/\w<p/\dv us<4294967296^(i+n+3):=by
 have hpi:0<4294967296^i:=gN (by decide);obtain⟨p,hp⟩: ∃p,p=4294967296^(i+n):=⟨_,rfl⟩;have hM:dv us<4294967296^(i+n+3):=by
  refine bM hlt ?_;rw[show i+n+3=(n+2)+(i+1) by omega,gM 4294967296 (n+2) (i+1)];exact bV _ (oQ hvB)
 have huh:=Yg huo (i+n) hM;have hu0:=BJ huo (i+n);rw[<-hp] at huh hu0;refine⟨_,p,_,dv (vs.take n)*4294967296^i,J,J,iV hv0 hpi,by rw[bR,<-vj];exact hlt,by omega,by rw[dZ _ 1,lL];omega,?_,?_,hM⟩
 .rw[hvh,dZ,hp,gM,bT (4294967296^i),bR]
 .rw[hp,gM,bT]
  exact Nat.mul_lt_mul_of_pos_left (BJ hvo n) hpi
def ayV{ws vs:List Nat}{u g i k bo c c1 xx:Nat}(hl:i+k<ws.length)(hw:dv ws+g*(dv (vs.take k)*4294967296^i)=u+(bo+c)*4294967296^(i+k))(hc1:c1=c+g*vs.getD k 0)(hx1:xx%4294967296+(c1%4294967296+bo)=ws.getD (i+k) 0+xx/9223372036854775808*4294967296):
  dv (ws.set (i+k) (xx%4294967296))+g*(dv (vs.take (k+1))*4294967296^i)=u+(xx/9223372036854775808+c1/4294967296)*4294967296^(i+(k+1)):=by
 rw[ml,dZ (dv (vs.take k)),<-lK i k 1,vj,show 4294967296^k*vs.getD k 0*4294967296^i=vs.getD k 0*4294967296^(i+k) by rw[gM,bT (4294967296^k),bR,bT (4294967296^k)],dK,<-bR g (vs.getD k 0)];exact YF (uU ws (i+k) _ hl) hw hc1 hx1
def azo{wa vs:List Nat}{u i k ca:Nat}(hl:i+k<wa.length)(ha:dv wa+ca*4294967296^(i+k)=u+dv (vs.take k)*4294967296^i):
  dv (wa.set (i+k) ((ca+(wa.getD (i+k) 0+vs.getD k 0))%4294967296))+(ca+(wa.getD (i+k) 0+vs.getD k 0))/4294967296*4294967296^(i+(k+1))=u+dv (vs.take (k+1))*4294967296^i:=by
 rw[ml,dZ (dv (vs.take k)),<-lK i k 1,vj,show 4294967296^k*vs.getD k 0*4294967296^i=vs.getD k 0*4294967296^(i+k) by rw[gM,bT (4294967296^k),bR,bT (4294967296^k)]];exact aA0 (uU wa (i+k) _ hl) ha
def awW{a b s n:Nat}{us vs qs:List Nat}(hp:0<2^s)(hvv:dv vs=b*2^s)(hv0:0<dv vs)(hvB:dv vs<4294967296^(n+2))(hinv:a*2^s=dv us+dv vs*dv qs)(hlt:dv us<dv vs*4294967296^0):dv qs=a/b/\dv (us.take (n+2))/2^s=a%b:=by
 rw[tZ,lM] at hlt;have hut:dv (us.take (n+2))=dv us:=by
  have h0:=uu us (n+2);rw[yW (by omega)] at h0;omega
 refine⟨?_,?_⟩
 .rw[<-Nat.mul_div_mul_right _ _ hp,hinv,<-hvv,pX _ _ hv0,lX hlt,dL]
 .have:dv us=a%b*2^s:=by rw[<-Nat.mul_mod_mul_right,hinv,<-hvv,pR,jQ hlt]
  rw[hut,this,Nat.mul_div_cancel _ hp]
def Te{qs:List Nat}{i l d:Nat}(hl:i<qs.length)(h:qs.getD i 0=0):dv (qs.set i d)=dv qs+4294967296^i*d:=by
 have:=uU qs i d hl;rw[h] at this;simpa using this
def Nr{a s i R d V u v:Nat}{qs:List Nat}(hl:i<qs.length)(h0:qs.getD i 0=0)(hinv:a*2^s=u+v*dv qs)(hV:V=v*4294967296^i)(h:R+d*V=u):a*2^s=R+v*dv (qs.set i d):=by
 rw[hinv,<-h,Te (l:=0) hl h0,dK,<-bR,<-hV,bT d];omega
def OO{qs:List Nat}{i d:Nat}(hq: ∀j,j<i+1->qs.getD j 0=0): ∀j,j<i->(qs.set i d).getD j 0=0:=fun j h=>by
 rw[getD_set_ne];exact hq j (by omega)
def aEt{a b ia ib:Nat}[h:BN a ia][k:BN b ib](h2:2<=(dg b).length)(hle:b<=a)(hi:ia<=1000000000:=by decide)(hj:ib<=1000000000:=by decide):PF GB prog 243 [dN a,dN b] (.tp [dN (a/b),dN (a%b)]):=by
 have hla:=bP (dg a);have hba:=hH (a:=a) hi;have hlb:=bP (dg b);have hbb:=hH (a:=b) hj;obtain⟨n,s,l,P⟩:=awU h2 hle;have hn:=P.hn;have hs:=P.hs;have hsb:=P.hb;have hs32:=P.s32;have hal:=P.al;have hu0:=P.u0;have hu9:=zP (a:=a*2^s) (k:=(dg a).length+1) P.u1;have htl:=dE b (n+1);obtain⟨vs,hvs⟩: ∃vs,vs=dg (b*2^s):=⟨_,rfl⟩;have hvl:vs.length=n+2:=by rw[hvs];exact P.vl
 have hvv:dv vs=b*2^s:=by rw[hvs,cH]
 have hvo:bt vs:=by rw[hvs];exact fk _
 have hvn:dl vs:=by rw[hvs];exact(ey _).2.2
 have hvm:=bP vs;obtain⟨us0,hus0⟩: ∃us0,us0=(dg (a*2^s)++[0,0]).take ((dg a).length+1):=⟨_,rfl⟩;have husv:dv us0=a*2^s:=by rw[hus0];exact SC P.u1
 have huso:bt us0:=by rw[hus0];exact((fk _).append (.replicate 2)).take _
 have husl:us0.length=(dg a).length+1:=by rw[hus0];simp;omega
 have hps:0<2^s:=gN (by decide);have hbp:=P.bp;have hV0':0<dv vs:=by rw[hvv];exact iV hbp hps
 have hvB:dv vs<4294967296^(n+2):=by rw[hvv];exact P.v2
 obtain⟨T,hT⟩: ∃T,T=vs.getD (n+1) 0:=⟨_,rfl⟩;obtain⟨S,hS⟩: ∃S,S=vs.getD n 0:=⟨_,rfl⟩;have hTB:T<4294967296:=by rw[hT];exact hvo.get _
 have hSB:S<4294967296:=by rw[hS];exact hvo.get _
 have hT0:0<T:=by rw[hT];exact La hvn (n+1) hvl
 have hvh:=Xc hvo n hvB;rw[<-hT,<-hS] at hvh;refine fn (fu:=⟨12⟩) func243 J J ntmps243 J J (fun C=>?_);refine ah 27 (.d (vI ((dg b).length:Nat))) J (by rw[hlb]<;>rfl)<|gx J<|ix _ J (cF (k:=n+1)) J<|cl (fu:=⟨1⟩) J (Ie htl) J<|ah 32 (.d (.v (.int .u64 (s:Nat)))) J (by show FX.d (.v (.int _ _))= .d (.v (.int _ _));congr 3;omega)<|gx J<|cr J (Mk (a:=a) (k:=s) hs32 (by omega) hi) J<|rf J J<|ap (fu:=⟨2⟩) _ J J (Ar J) J<|ah 39 (.d (vI ((dg a).length:Nat))) J (by rw[hla]<;>rfl)<|gx (fu:=⟨1⟩) J<|ah 40 (.d (vI ((dg a).length+1:Nat))) J (by show FX.d (.v (.int _ _))= .d (.v (.int _ _));congr 3)<|gx (fu:=⟨0⟩) J<|Ma (us0.map dU) ((dg a).length+1) J J (by simp;omega) (by rw[hus0,kX,cY];rfl) J<|cr (fu:=⟨7⟩) J (Tj (a:=b) (k:=s) (vs:=vs) hvs hs32 (by omega) hj) J<|ah 46 (.d (vI (n+2:Nat))) J (by rw[hvm,hvl]<;>rfl)<|gx J<|lb (fu:=⟨1⟩) _ J (cF (k:=n+1)) J<|ah 52 (.d (.v (.int .u64 (T:Nat)))) J (by show FX.d (.v (.int _ _))= .d (.v (.int _ _));rw[hT])<|gx J<|lb (fu:=⟨1⟩) _ J (cF (k:=n)) J<|ah 58 (.d (.v (.int .u64 (S:Nat)))) J (by show FX.d (.v (.int _ _))= .d (.v (.int _ _));rw[hS])<|gx (fu:=⟨8⟩) J<|ah 60 (.d (vI ((dg a).length+1:Nat))) J (by rw[bP,husl]<;>rfl)<|gx (fu:=⟨2⟩) J<|ah 62 (.d (vI (l:Nat))) J (by show FX.d (.v (.int _ _))= .d (.v (.int _ _));congr 3;omega)<|gx J<|mk (fu:=⟨11⟩) ((List.replicate l 0).map dU) J J (by rw[<-ma];rfl) J<|ah 65 (.d (vI (l:Nat))) J (by rw[bP,aW]<;>rfl)<|gx J<|lp (X:=List Nat×List Nat×Nat) (fun⟨us,qs,j⟩=>[(13, .d (vI ((j:Nat)-1)))]) (fun⟨us,qs,j⟩=>[(63,some (.b 261 1 (qs.map dU) true)),(41,some (.b 261 1 (us.map dU) true))]) (fun⟨us,qs,j⟩=>us.length=(dg a).length+1/\bt us/\qs.length=l/\bt qs/\j<=l/\(∀i,i<j->qs.getD i 0=0)/\a*2^s=dv us+dv vs*dv qs/\dv us<dv vs*4294967296^j) (fun⟨us,qs,j⟩=>j) ⟨us0,List.replicate l 0,l⟩ J ⟨husl,huso,by simp, .replicate _,bQ _,fun i _=>BC _ _,by simp only[vq];omega,by rw[husv,hvv];exact P.u3⟩ (fun _=>J) (fun⟨us,qs,j⟩ hk=>?_)
 try dsimp only at hk⊢
 obtain⟨hul,huo,hql,hqo,hjl,hq0,hinv,hlt⟩:=hk;refine br (fu1:=⟨0⟩) (fu2:=⟨0⟩) J J J (fun hc68=>?_) (fun hc68=>?_)
 .
  obtain⟨i,rfl⟩: ∃i,j=i+1:=⟨j-1,by omega⟩;refine ah 13 (.d (vI (i:Nat))) J (by show FX.d (.v (.int _ _))= .d (.v (.int _ _));congr 3;omega) ?_;obtain⟨f,p,V,v0,hf,hV,hVp0,hltV,hUle,hUlt,hVp,hv0,hM⟩:=azi (n:=n) (i:=i) huo hvo hvB hV0' hvh hlt;have hVle:(T*4294967296+S)*p<=V:=by rw[hVp];exact pT _ _
  have hfT:f<=T*4294967296+S:=TC hUle hVp hv0 hltV;have hg0:=huo.get (i+n);have hg1:=huo.get (i+n+1);have hg2:=huo.get (i+n+2);have hum:=bP us;have hqm:=bP qs;refine gx J<|lb (fu:=⟨2⟩) (hv:=by simp only[aj];exact⟨by omega,(by decide)⟩) _ J (cF (k:=i+n+2)) J<|ah 78 (.d (.v (.int .u64 (us.getD (i+n+2) 0*4294967296:Nat)))) J (by show FX.d (.v (.int _ _))= .d (.v (.int _ _));rw[o4 _ 32 (by decide) (by show _*4294967296<_;omega) J])<|gx J<|lb (fu:=⟨2⟩) _ J (cF (k:=i+n+1)) J<|ah 87 (.d (.v (.int .u64 (f:Nat)))) J (congrArg (fun z:Nat=>FX.d (.v (.int .u64 (z:Int)))) ((congrArg BitVec.toNat (BitVec.or_comm ..)).trans ((oD 64 (us.getD (i+n+1) 0) (us.getD (i+n+2) 0) 32 hg1 (by show _+_*4294967296<18446744073709551616;omega)).trans (by show _+_*4294967296=_;omega))))<|gx (fu:=⟨8⟩) (hv:=by simp only[aj];exact⟨by kernel_rfl,by omega⟩) J<|ah 90 (.d (.v (.int .u64 (f/T:Nat)))) J (by show FX.d (.v (.int _ _))= .d (.v (.int _ _));first|rfl|congr 3)<|gx (fu:=⟨3⟩) J<|ah 93 (.d (.v (.int .u64 (f%T:Nat)))) J (by show FX.d (.v (.int _ _))= .d (.v (.int _ _));first|rfl|congr 3)<|gx (fu:=⟨5⟩) J<|mg (fu:=⟨11⟩) (X:=Nat) (fun g=>[(15, .d (.v (.int .u64 (g:Nat))))]) (fun g=>[]) (fun g=>g<4294967296/\dv us<(g+1)*V/\g*V<dv us+V) [15,16] [] rfl ?_ (fun _=>J) (fun g ⟨hgB,hlo,hhi⟩=>?_)
  .
   refine gx J<|lp (fu:=⟨5⟩) (hv:=fun _ _=>by simp only[aj];exact(by decide)) (X:=Nat×Nat) (fun⟨g,r⟩=>[(15, .d (.v (.int .u64 (g:Nat)))),(16, .d (.v (.int .u64 (r:Nat))))]) (fun⟨g,r⟩=>[]) (fun⟨g,r⟩=>f=g*T+r/\r<4294967296/\dv us<(g+1)*V) (fun⟨g,r⟩=>g) ⟨f/T,f%T⟩ J ⟨(Nat.div_add_mod' ..).symm,tQ (dQ _ hT0) hTB,VL hUlt hg0 hVle hT0⟩ (fun _=>J) (fun⟨g,r⟩ hk=>?_)
   try dsimp only at hk⊢
   obtain⟨hfg,hrB,hlo⟩:=hk;have hgT:g*1<=g*T:=fR _ hT0;refine ah 95 (.d (.v (.int .u64 (g/4294967296:Nat)))) rfl (by rw[nF])<|gx rfl<|cs (fu1:=⟨26⟩) (v1:=fun hg97=>by simp only[aj];exact(by first|omega|(have hd:=FR hUlt hVle hfg;rcases fU g with e|e;(rw[e,jK] at hd;omega);omega))) (fu2:=⟨3⟩) (v2:=fun hg97=>by simp only[aj];exact⟨(zA _ _),(xN (show g<4294967296 by omega) hSB)⟩) 97 J J J (fun hg97=>?_) (fun hg97=>?_)
   .
    have hgB4:4294967296<=g:=by omega
    have hdec:dv us<g*V:=bM hltV (by rw[bT];exact bV _ hgB4);obtain⟨g',rfl⟩: ∃g',g=g'+1:=⟨g-1,by rcases fU g with h|h;(rw[h,jK] at hdec;omega);omega⟩;have hfg':f=g'*T+(r+T):=by rw[hfg,dZ,lL];omega
    refine ah 115 (.d (.v (.int .u64 (g':Nat)))) J (by show FX.d (.v (.int _ _))= .d (.v (.int _ _));congr 3;omega)<|gx (fu:=⟨8⟩) J<|ah 118 (.d (.v (.int .u64 (r+T:Nat)))) J (by show FX.d (.v (.int _ _))= .d (.v (.int _ _));first|rfl|congr 3)<|gx (fu:=⟨7⟩) (hv:=by simp only[aj];exact(by decide)) J<|ah 120 (.d (.v (.int .u64 ((r+T)/4294967296:Nat)))) J (by rw[nF])<|gx J<|br J J J (fun hc121=>?_) (fun hc121=>?_)
    .
     have hgB3:g'<4294967296:=by rcases fW g' 4294967296 with h|h;(exact h);(have:=bV T h;omega)
     have hgS3:g'*S<=(r+T)*4294967296+us.getD (i+n) 0:=by have h1:=kW (oQ hgB3) (oQ hSB);omega
     exact at_ g' ⟨hgB3,hdec,Gb hUle hVp hv0 hT0 hfg' hgB3 hgS3⟩
    .
     exact at_ ⟨g',r+T⟩ (by dsimp only;exact⟨⟨hfg',by omega,hdec⟩,(by omega)⟩)
   .
    have hgB:g<4294967296:=by omega
    have hgS:g*S<4294967296*4294967296:=rS hgB hSB;refine ah 100 (.d (.v (.int .u64 (g*S:Nat)))) rfl (by rw[iJ])<|gx (fu:=⟨2⟩) (hv:=by simp only[aj];exact(by decide)) rfl<|ah 102 (.d (.v (.int .u64 (r*4294967296:Nat)))) rfl (by show FX.d (.v (.int _ _))= .d (.v (.int _ _));rw[o4 _ 32 (by decide) (by show _*4294967296<_;omega) rfl])<|gx rfl<|lb (fu:=⟨2⟩) _ rfl (cF (k:=i+n)) rfl<|ah 111 (.d (.v (.int .u64 (r*4294967296+us.getD (i+n) 0:Nat)))) rfl (congrArg (fun z:Nat=>FX.d (.v (.int .u64 (z:Int)))) ((congrArg BitVec.toNat (BitVec.or_comm ..)).trans ((oD 64 (us.getD (i+n) 0) (r) 32 hg0 (by show _+_*4294967296<18446744073709551616;omega)).trans (by show _+_*4294967296=_;omega))))<|gx rfl<|br (fu1:=⟨7⟩) (v1:=fun hc113=>by simp only[aj];exact(by first|omega|(have hd:=FR hUlt hVle hfg;rcases fU g with e|e;(rw[e,jK] at hd;omega);omega))) rfl rfl rfl (fun hc113=>?_) (fun hc113=>?_)
    .
     have hdec:dv us<g*V:=FR hUlt hVle hfg;obtain⟨g',rfl⟩: ∃g',g=g'+1:=⟨g-1,by rcases fU g with h|h;(rw[h,jK] at hdec;omega);omega⟩;have hfg':f=g'*T+(r+T):=by rw[hfg,dZ,lL];omega
     refine ah 115 (.d (.v (.int .u64 (g':Nat)))) J (by show FX.d (.v (.int _ _))= .d (.v (.int _ _));congr 3;omega)<|gx (fu:=⟨8⟩) J<|ah 118 (.d (.v (.int .u64 (r+T:Nat)))) J (by show FX.d (.v (.int _ _))= .d (.v (.int _ _));first|rfl|congr 3)<|gx (fu:=⟨7⟩) (hv:=by simp only[aj];exact(by decide)) J<|ah 120 (.d (.v (.int .u64 ((r+T)/4294967296:Nat)))) J (by rw[nF])<|gx J<|br J J J (fun hc121=>?_) (fun hc121=>?_)
     .
      have hgB3:g'<4294967296:=by rcases fW g' 4294967296 with h|h;(exact h);(have:=bV T h;omega)
      have hgS3:g'*S<=(r+T)*4294967296+us.getD (i+n) 0:=by have h1:=kW (oQ hgB3) (oQ hSB);omega
      exact at_ g' ⟨hgB3,hdec,Gb hUle hVp hv0 hT0 hfg' hgB3 hgS3⟩
     .
      exact at_ ⟨g',r+T⟩ (by dsimp only;exact⟨⟨hfg',by omega,hdec⟩,(by omega)⟩)
    .
     exact at_ g ⟨hgB,hlo,Gb hUle hVp hv0 hT0 hfg hgB (by omega)⟩
  .
   refine ah 123 (.d (vI (n+2:Nat))) J (by rw[hvm,hvl]<;>rfl)<|gx J<|lp (X:=List Nat×Nat×Nat×Nat) (fun⟨ws,k,bo,c⟩=>[(124, .d (vI (k:Nat))),(17, .d (.v (.int .u64 (bo:Nat)))),(18, .d (.v (.int .u64 (c:Nat))))]) (fun⟨ws,k,bo,c⟩=>[(41,some (.b 261 1 (ws.map dU) true))]) (fun⟨ws,k,bo,c⟩=>ws.length=(dg a).length+1/\bt ws/\k<=n+2/\bo<=1/\c<4294967296/\dv ws<4294967296^(i+n+3)/\dv ws+g*(dv (vs.take k)*4294967296^i)=dv us+(bo+c)*4294967296^(i+k)) (fun⟨ws,k,bo,c⟩=>n+2-k) ⟨us,0,0,0⟩ J ⟨hul,huo,aN _,aN _,by decide,hM,by simp[dv]⟩ (fun _=>J) (fun⟨ws,k,bo,c⟩ hk=>?_)
   try dsimp only at hk⊢
   obtain⟨hwl,hwo,hk2,hbo,hc4,hwM,hw⟩:=hk;refine br J J J (fun hc125=>?_) (fun hc125=>?_)
   .
    have hvk:=hvo.get k;have hwg:=hwo.get (i+k);have hgd:g*vs.getD k 0<=4294967295*4294967295:=kW (by omega) (by omega);obtain⟨c1,hc1⟩: ∃c1,c1=c+g*vs.getD k 0:=⟨_,rfl⟩;have hc1m:c1%4294967296<4294967296:=dQ _ (by decide);obtain⟨hx1,hx2,hx3⟩:=KQ (ws.getD (i+k) 0) (c1%4294967296) bo hwg hc1m hbo;obtain⟨xx,hxx⟩: ∃x,x=r7 (ws.getD (i+k) 0) (c1%4294967296) bo:=⟨_,rfl⟩;rw[<-hxx] at hx1 hx2 hx3;have hwm:=bP ws;refine lb (fu:=⟨11⟩) (hv:=by simp only[aj];exact⟨by omega,⟨(zA _ _),(xN hgB hvk)⟩⟩) _ J (d6) J<|ah 133 (.d (.v (.int .u64 (g*vs.getD k 0:Nat)))) J (by rw[iJ])<|gx (fu:=⟨1⟩) J<|ah 134 (.d (.v (.int .u64 (c1:Nat)))) J (by show FX.d (.v (.int _ _))= .d (.v (.int _ _));congr 3;omega)<|gx J<|lb (fu:=⟨3⟩) _ J (cF (k:=i+k)) J<|ah 143 (.d (.v (.int .u64 (c1%4294967296:Nat)))) J (congrArg (fun z:Nat=>FX.d (.v (.int .u64 (z:Int)))) (Zs c1 (by omega)))<|gx (fu:=⟨0⟩) J<|sd (fu:=⟨1⟩) (IntKind.u64.wrap (((ws.getD (i+k) 0:Nat):Int)-((c1%4294967296:Nat):Int))) J J J<|sd (fu:=⟨11⟩) ((xx:Nat):Int) J (by rw[hxx];exact sub2 _ _ _ hwg hc1m hbo) J<|ah 152 (.d (dU (xx%4294967296))) J (by show FX.d (.v (.int _ _))= .d (.v (.int _ _));congr 3)<|gx J<|sb (fu:=⟨6⟩) (hv:=by simp only[aj];exact(by decide)) _ ((ws.set (i+k) (xx%4294967296)).map dU) J (cF (k:=i+k)) J (by(rw[show((i:Int)+k).toNat=i+k by omega,<-iC])<;>rfl) J<|ah 155 (.d (.v (.int .u64 (xx/9223372036854775808:Nat)))) J (by rw[EB])<|gx (fu:=⟨6⟩) (hv:=by simp only[aj];exact(by decide)) J<|ah 157 (.d (.v (.int .u64 (c1/4294967296:Nat)))) J (by rw[nF])<|gx J<|at_ ⟨ws.set (i+k) (xx%4294967296),k+1,xx/9223372036854775808,c1/4294967296⟩ (by dsimp only;exact⟨⟨by simpa using hwl,hwo.set _ (dQ _ (by decide)),by omega,hx2,by omega,Bb hwo (dQ _ (by decide)) hwM,ayV (by omega) hw hc1 hx1⟩,(by omega)⟩)
   .
    obtain rfl:k=n+2:=by omega
    rw[cR (by omega),<-hV] at hw;have hwg:=hwo.get (i+n+2);obtain⟨hx1,hx2,hx3⟩:=KQ (ws.getD (i+n+2) 0) c bo hwg hc4 hbo;obtain⟨xx,hxx⟩: ∃x,x=r7 (ws.getD (i+n+2) 0) c bo:=⟨_,rfl⟩;rw[<-hxx] at hx1 hx2 hx3;have hwm:=bP ws;obtain⟨ws2,hws2⟩: ∃z,z=ws.set (i+n+2) (xx%4294967296):=⟨_,rfl⟩;have hl2:=Uu (uU ws (i+n+2) (xx%4294967296) (by omega)) hw hx1;rw[<-vj,<-hws2] at hl2;have hM2:=Bb (i:=i+n+2) (d:=xx%4294967296) hwo (dQ _ (by decide)) hwM;have ho2:=hwo.set (i+n+2) (d:=xx%4294967296) (dQ _ (by decide));have hn2:ws2.length=(dg a).length+1:=by rw[hws2,aR];exact hwl
    rw[<-hws2] at hM2 ho2;replace hl2:dv ws2+g*V=dv us+xx/9223372036854775808*4294967296^(i+n+3):=hl2;have hqi:=hq0 i (by omega);obtain⟨q2,hq2⟩: ∃z,z=qs.set i g:=⟨_,rfl⟩;have hq2l:q2.length=l:=by rw[hq2,aR];exact hql
    have hq2m:=bP q2;have hwm2:=bP ws2;refine lb (fu:=⟨2⟩) _ J (cF (k:=i+n+2)) J<|sd (fu:=⟨1⟩) (IntKind.u64.wrap (((ws.getD (i+n+2) 0:Nat):Int)-((c:Nat):Int))) J J J<|sd (fu:=⟨11⟩) ((xx:Nat):Int) J (by rw[hxx];exact sub2 _ _ _ hwg hc4 hbo) J<|ah 175 (.d (dU (xx%4294967296))) J (by show FX.d (.v (.int _ _))= .d (.v (.int _ _));congr 3)<|gx J<|sb (fu:=⟨8⟩) _ (ws2.map dU) J (cF (k:=i+n+2)) J (by(rw[hws2,show((i:Int)+((n+2:Nat):Int)).toNat=i+n+2 by omega,<-iC])<;>rfl) J<|ah 180 (.d (dU g)) J (by show FX.d (.v (.int _ _))= .d (.v (.int _ _));congr 3;omega)<|gx J<|sb (fu:=⟨7⟩) (hv:=by simp only[aj];exact(by decide)) _ (q2.map dU) J (d6) J (by rw[hq2,<-iC];rfl) J<|ah 183 (.d (.v (.int .u64 (xx/9223372036854775808:Nat)))) J (by rw[EB])<|gx J<|br J J J (fun hc184=>?_) (fun hc184=>?_)
    .
     have ht0:xx/9223372036854775808=0:=by omega
     rw[ht0,jK,gV] at hl2;exact at_ ⟨ws2,q2,i⟩ (by dsimp only;exact⟨⟨hn2,ho2,hq2l,by rw[hq2];exact hqo.set _ hgB,by omega,by rw[hq2];exact OO hq0,by rw[hq2];exact Nr (by omega) hqi hinv hV hl2,by rw[<-hV];exact Sn hlo hl2⟩,(by omega)⟩)
    .
     have ht1:xx/9223372036854775808=1:=by omega
     rw[ht1,lL] at hl2;obtain⟨g',rfl⟩: ∃g',g=g'+1:=⟨g-1,by rcases fU g with h|h;(rw[h,jK] at hl2;omega);omega⟩;have hqs:q2.getD i 0=g'+1:=by rw[hq2];exact yN (by omega)
     refine lb (fu:=⟨0⟩) _ J (d6) J<|ah 188 (.d (dU (g'+1))) J (by first|rw[hqs]|(simp only[eY];rw[hqs]))<|gx (fu:=⟨0⟩) J<|sw ((g':Nat):Int) J (by omega) J<|sb (fu:=⟨12⟩) _ ((qs.set i g').map dU) J (d6) J (by simp only[eY,hq2,oX,List.set_set]<;>rfl) J<|ah 192 (.d (vI (n+2:Nat))) J (by rw[hvm,hvl]<;>rfl)<|gx J<|lp (X:=List Nat×Nat×Nat) (fun⟨wa,k,ca⟩=>[(193, .d (vI (k:Nat))),(18, .d (.v (.int .u64 (ca:Nat))))]) (fun⟨wa,k,ca⟩=>[(41,some (.b 261 1 (wa.map dU) true))]) (fun⟨wa,k,ca⟩=>wa.length=(dg a).length+1/\bt wa/\k<=n+2/\ca<=1/\dv wa<4294967296^(i+n+3)/\dv wa+ca*4294967296^(i+k)=dv ws2+dv (vs.take k)*4294967296^i) (fun⟨wa,k,ca⟩=>n+2-k) ⟨ws2,0,0⟩ J ⟨hn2,ho2,aN _,aN _,hM2,by simp[dv]⟩ (fun _=>J) (fun⟨wa,k,ca⟩ hk=>?_)
     try dsimp only at hk⊢
     obtain⟨hal2,hao,hk2,hac,haM,ha⟩:=hk;refine br J J J (fun hc194=>?_) (fun hc194=>?_)
     .
      have hvk:=hvo.get k;have hag:=hao.get (i+k);obtain⟨t,ht⟩: ∃t,t=ca+(wa.getD (i+k) 0+vs.getD k 0):=⟨_,rfl⟩;have ham:=bP wa;refine lb _ J (d6) J<|lb (fu:=⟨5⟩) _ J (cF (k:=i+k)) J<|ah 209 (.d (.v (.int .u64 (t:Nat)))) J (by show FX.d (.v (.int _ _))= .d (.v (.int _ _));congr 3;omega)<|gx (fu:=⟨11⟩) J<|ah 215 (.d (dU (t%4294967296))) J (by show FX.d (.v (.int _ _))= .d (.v (.int _ _));congr 3)<|gx J<|sb (fu:=⟨5⟩) (hv:=by simp only[aj];exact(by decide)) _ ((wa.set (i+k) (t%4294967296)).map dU) J (cF (k:=i+k)) J (by(rw[show((i:Int)+k).toNat=i+k by omega,<-iC])<;>rfl) J<|ah 218 (.d (.v (.int .u64 (t/4294967296:Nat)))) J (by rw[nF])<|gx J<|at_ ⟨wa.set (i+k) (t%4294967296),k+1,t/4294967296⟩ (by dsimp only;exact⟨⟨by simpa using hal2,hao.set _ (dQ _ (by decide)),by omega,by omega,Bb hao (dQ _ (by decide)) haM,by rw[ht];exact azo (by omega) ha⟩,(by omega)⟩)
     .
      obtain rfl:k=n+2:=by omega
      rw[cR (by omega),<-hV] at ha;have hag:=hao.get (i+n+2);have ham:=bP wa;have hl4:=ZI (uU wa (i+n+2) ((wa.getD (i+n+2) 0+ca)%4294967296) (by omega)) ha;rw[<-vj] at hl4;have hM4:=Bb (i:=i+n+2) (d:=(wa.getD (i+n+2) 0+ca)%4294967296) hao (dQ _ (by decide)) haM;obtain⟨hR1,hR2⟩:=Xg hhi hl2 hl4 hM2 hM4 (by omega) (Nat.succ_pos _);refine lb (fu:=⟨2⟩) _ J (cF (k:=i+n+2)) J<|ah 227 (.d (dU ca)) J (by show FX.d (.v (.int _ _))= .d (.v (.int _ _));congr 3;omega)<|gx (fu:=⟨0⟩) J<|aw (((wa.getD (i+n+2) 0+ca)%4294967296:Nat):Int) J (by rw[ry];omega) J<|sb _ ((wa.set (i+n+2) ((wa.getD (i+n+2) 0+ca)%4294967296)).map dU) J (cF (k:=i+n+2)) J (by(rw[show((i:Int)+((n+2:Nat):Int)).toNat=i+n+2 by omega,<-iC])<;>rfl) J<|at_ ⟨wa.set (i+n+2) ((wa.getD (i+n+2) 0+ca)%4294967296),qs.set i g',i⟩ (by dsimp only;exact⟨⟨by simpa using hal2,hao.set _ (dQ _ (by decide)),by simpa using hql,hqo.set _ (by omega),by omega,OO hq0,Nr (by omega) hqi hinv hV hR1,by rw[<-hV];exact hR2⟩,(by omega)⟩)
 .
  refine mr 63 J<|mr 41 J ?_;obtain rfl:j=0:=by omega
  obtain⟨e1,e2⟩:=awW hps hvv hV0' hvB hinv hlt;refine gx J<|cl J (q8 (ds:=qs)) J<|py (fu:=⟨0⟩) 0 (n+2) _ J J J J (qp _) (by omega) (by simp;omega) J<|ah 234 (.d (bE (us.take (n+2)))) J (by first|rfl|(show FX.d (.sl _)=FX.d (.sl _);simp))<|gx J<|cl J (aGk (ds:=us.take (n+2)) (huo.take _) (by simp;omega) hs32) J<|rz J (by show DV.tp [bE _,dN _]= .tp [dN _,dN _];rw[jG hqo e1,e2])
def Cg{a b i j:Nat}[h:BN a i][k:BN b j](hb:0<b)(hi:i<=1000000000:=by decide)(hj:j<=1000000000:=by decide):PF GB prog 211 [dN a,dN b] (.tp [dN (a/b),dN (a%b),vB true]):=by
 have hla:=bP (dg a);have hba:=hH (a:=a) hi;have hlb:=bP (dg b);have hbb:=hH (a:=b) hj;have hb0:(dg b).length≠0:=fun e=>by have:=xK e;omega
 have hcn:=yS (a:=a) (b:=b);have hd0:=dE b 0;refine fn func211 J J ntmps211 J J (fun C=>?_);refine cl J (nq) J<|cl (fu:=⟨10⟩) J (nq) J<|ah 17 (.d (vI ((dg b).length:Nat))) J (by rw[hlb]<;>rfl)<|gx (fu:=⟨0⟩) J<|b9 J (by show some (decide _)=some false;rw[decide_eq_false (by omega)]) J<|cl J (Mr (a:=a) (b:=b) hi hj) J<|br (fu2:=⟨4⟩) J J J (fun hc19=>?_) (fun hc19=>?_)
 .
  refine cl J (Lz (ds:=dg a) (fk _)) J<|rz J (by have hlt:=hcn.1 (by omega);rw[lX hlt,jQ hlt,uc];rfl)
 .
  refine ah 28 (.d (vI ((dg b).length:Nat))) J (by rw[hlb]<;>rfl)<|gx J<|br J J J (fun hc26=>?_) (fun hc26=>?_)
  .
   have h1:(dg b).length=1:=by omega
   have e1:=t6 h1;have hmd:=dQ a (show 0<(dg b).getD 0 0 by omega);refine ix _ J (cF (k:=0) J (by omega)) J<|cl J (azO (a:=a) (d:=(dg b).getD 0 0) (by omega) (by omega) hi) J<|cl J (yh (a:=a%(dg b).getD 0 0) (by have:=dQ a (show 0<(dg b).getD 0 0 by omega);omega)) J<|rz J (by rw[e1];rfl)
  .
   refine cl J (aEt (a:=a) (b:=b) (by omega) (by omega) hi hj) J<|rz J J
def KU{a:Nat}(h:(dg a).length<=2:=by omega):a<18446744073709551616:=by
 have h1:=qn a;have h2:(4294967296:Nat)^(dg a).length<=4294967296^2:=bU (by decide) h;omega
def A7{a b i j:Nat}[h:BN a i][k:BN b j](hi:i<=1000000000:=by decide)(hj:j<=1000000000:=by decide):PF GB prog 199 [dN a,dN b] (dN (Nat.gcd a b)):=by
 obtain⟨m,hm⟩: ∃m,m=max i j:=⟨_,rfl⟩;have e0: ∀k',k'<=m->(2:Nat)^(6*k')<=2^(6*m):=fun k' h=>uI h;have ha9:a<2^(6*m):=bM h.h (e0 i (by omega));have hb9:b<2^(6*m):=bM k.h (e0 j (by omega));refine fn func199 J J ntmps199 J J (fun C=>?_);refine cl J (tw (a:=a) (i:=i) (by omega)) J<|cl J (tw (a:=b) (i:=j) (by omega)) J<|lp (fu:=⟨5⟩) (X:=Nat×Nat) (fun⟨A,B⟩=>[(0, .d (dN A)),(1, .d (dN B))]) (fun⟨A,B⟩=>[]) (fun⟨A,B⟩=>Nat.gcd A B=Nat.gcd a b/\A<2^(6*m)/\B<2^(6*m)) (fun⟨A,B⟩=>B) ⟨a,b⟩ J ⟨J,ha9,hb9⟩ (fun _=>J) (fun⟨A,B⟩ hk=>?_)
 try dsimp only at hk⊢
 obtain⟨hg,hA,hB⟩:=hk;haveI:BN A m:=⟨hA⟩;haveI:BN B m:=⟨hB⟩;have hlA:=bP (dg A);have hlB:=bP (dg B);have hbA:=hH (a:=A) (i:=m);have hbB:=hH (a:=B) (i:=m);refine ah 17 (.d (vI ((dg A).length:Nat))) J (by rw[hlA]<;>rfl)<|gx J<|cs (fu1:=⟨15⟩) (fu2:=⟨2⟩) 19 J J J (fun hg19=>?_) (fun hg19=>?_)
 .
  refine ah 25 (.d (vI ((dg B).length:Nat))) J (by rw[hlB]<;>rfl)<|gx J<|br J J J (fun hc26=>?_) (fun hc26=>?_)
  .
   exact rz J (by have hB0:B=0:=xK;rw[hB0,mY] at hg;rw[<-hg];rfl)
  .
   have hBp:0<B:=eK fun e=>hc26 (by rw[e,qc];rfl);refine cl J (Cg (a:=A) (b:=B) (i:=m) (j:=m) hBp (by omega) (by omega)) J<|at_ ⟨B,A%B⟩ (by dsimp only;exact⟨⟨by rw[<-hg,iT B,<-tJ,iT],hB,tQ (dQ _ hBp) hB⟩,(dQ _ hBp)⟩)
 .
  refine ah 21 (.d (vI ((dg B).length:Nat))) J (by rw[hlB]<;>rfl)<|gx J<|br (fu1:=⟨8⟩) J J J (fun hc23=>?_) (fun hc23=>?_)
  .
   refine ah 25 (.d (vI ((dg B).length:Nat))) J (by rw[hlB]<;>rfl)<|gx J<|br J J J (fun hc26=>?_) (fun hc26=>?_)
   .
    exact rz J (by have hB0:B=0:=xK;rw[hB0,mY] at hg;rw[<-hg];rfl)
   .
    have hBp:0<B:=eK fun e=>hc26 (by rw[e,qc];rfl);refine cl J (Cg (a:=A) (b:=B) (i:=m) (j:=m) hBp (by omega) (by omega)) J<|at_ ⟨B,A%B⟩ (by dsimp only;exact⟨⟨by rw[<-hg,iT B,<-tJ,iT],hB,tQ (dQ _ hBp) hB⟩,(dQ _ hBp)⟩)
  .
   have hA2:=KU (a:=A);have hB2:=KU (a:=B);refine cl J (xI (a:=A) hA2) J<|cl J (xI (a:=B) hB2) J<|lp (X:=Nat×Nat) (fun⟨u,v⟩=>[(8, .d (.v (.int .u64 (u:Nat)))),(10, .d (.v (.int .u64 (v:Nat))))]) (fun⟨u,v⟩=>[]) (fun⟨u,v⟩=>Nat.gcd u v=Nat.gcd a b/\u<18446744073709551616/\v<18446744073709551616) (fun⟨u,v⟩=>v) ⟨A,B⟩ J ⟨hg,hA2,hB2⟩ (fun _=>J) (fun⟨u,v⟩ hk=>?_)
   try dsimp only at hk⊢
   obtain⟨hg2,hu,hv⟩:=hk;refine br (fu1:=⟨8⟩) J J J (fun hc48=>?_) (fun hc48=>?_)
   .
    refine ah 52 (.d (.v (.int .u64 (u%v:Nat)))) J (by show FX.d (.v (.int _ _))= .d (.v (.int _ _));first|rfl|congr 3)<|gx J<|at_ ⟨v,u%v⟩ (by dsimp only;exact⟨⟨by rw[<-hg2,iT v,<-tJ,iT],hv,tQ (dQ _ (by omega)) hv⟩,(dQ _ (by omega))⟩)
   .
    obtain rfl:v=0:=by omega
    rw[mY] at hg2;refine cl J (yh (a:=u) hu) J<|rz J (by rw[hg2];rfl)

def FL{x:Nat}:bl x=0↔x=0:=by
 have:= @ld x 0;simp at this;omega
def tI{a:Nat}:0<(dg a).length↔0<a:=by
 have:= @oI a;omega
def eS(neg:Bool)(a:Nat):DV:= .ag [.v (.bool neg),dN a]
def Cn(neg:Bool)(a:Nat):eI (zv neg a)= .ag [.v (.bool (neg&&decide (0<a))),dN a]:=by unfold eI;rw[kI,Jt]
def RO{n:Bool}{u:Nat}{b:Int}(h:n≠decide (b<0))(hle:b.natAbs<=u):zv n (u-b.natAbs)=zv n u+b:=by cases n<;>simp[zv] at* <;>omega
def Y0{n:Bool}{u:Nat}{b:Int}(h:n≠decide (b<0))(hle:u<=b.natAbs):zv (decide (b<0)) (b.natAbs-u)=zv n u+b:=by cases n<;>simp[zv] at* <;>(try rw[if_pos h])<;>(try rw[if_neg (by omega)])<;>omega
def Om{neg:Bool}{ds:List Nat}(hd:bt ds)(hl:ds.length<=1125899906842624):PF GB prog 130 [.ag [.v (.bool neg),bE ds]] (vB (decide (dl ds/\(neg=true->0<ds.length)))):=by
 refine fn func130 J J ntmps130 J J (fun C=>?_);refine cl J (AH hd hl) J<|csd 6 J J J (fun hg6=>?_) (fun hg6=>?_)
 .
  refine mh 10 J J J (fun hg10=>?_) (fun hg10=>?_)
  .
   exact rz J (by unfold vB;congr 2;simp_all [gm])
  .
   exact rz J (by unfold vB;congr 2;simp_all [gm])
 .
  exact rz J (by unfold vB;congr 2;simp_all [gm])
def Mv{n:Bool}{a i:Nat}[h:BN a i](hi:i<=1000000000:=by decide):PF GB prog 155 [eS n a] (vI (zv n a).sign):=by
 refine fn func155 J J ntmps155 J J (fun C=>?_);refine cl J (r5 (a:=a) hi) J<|br J J J (fun hc3=>?_) (fun hc3=>?_)
 .
  exact rz J (by have:=FL.1 (Int.ofNat.inj hc3);subst this;cases n<;>rfl)
 .
  refine bb J J J (fun hc8=>?_) (fun hc8=>?_)
  .
   exact rz J (by subst hc8;rw[fT (by have:a≠0:=(fun e=>hc3 (by rw[e];rfl));simp[zv];omega)];rfl)
  .
   exact rz J (by subst hc8;rw[gS (by have:a≠0:=(fun e=>hc3 (by rw[e];rfl));simp[zv];omega)];rfl)
def HM{m:Int}(h0: -9223372036854775808<=m:=by omega)(h1:m<=9223372036854775807:=by omega):PF GB prog 150 [vI m] (eI m):=by
 refine fn (fu:=⟨8⟩) func150 J J ntmps150 J J (fun C=>?_);refine cu ((m%18446744073709551616:Int)) J (pG _) J<|br (fu1:=⟨2⟩) (fu2:=⟨0⟩) J J J (fun hc7=>?_) (fun hc7=>?_)
 .
  refine nu ((m.natAbs:Nat)) J (by rw[pG];omega) J<|cl J (yh (a:=m.natAbs)) J<|rz J J
 .
  refine ah 3 (.d (.v (.int .u64 (m.natAbs:Nat)))) J (by congr 3;omega)<|gx J<|cl J (yh (a:=m.natAbs)) J<|rz J J
def P9{n:Bool}{a:Nat}(h:a<4611686018427387904):PF GB prog 212 [eS n a] (.tp [vI (zv n a),vB true]):=by
 refine fn func212 J J ntmps212 J J (fun C=>?_);refine cl (fu:=⟨2⟩) J (xI (a:=a) (by omega)) J<|dh J J J<|mh 18 J J J (fun hg18=>?_) (fun hg18=>?_)
 .
  refine br (fu1:=⟨3⟩) J J J (fun hc12=>?_) (fun hc12=>?_)
  .
   refine nu (fu:=⟨0⟩) (((18446744073709551616-a)%18446744073709551616:Int)) J (by rw[pG];omega) J<|cu (zv n a) J (by subst hg18;rw[Ib];simp only[zv,if_true];omega) J<|rz J J
  .
   exact absurd (by omega) hc12
 .
  refine mh 32 J J J (fun hg32=>?_) (fun hg32=>?_)
  .
   refine br J J J (fun hc25=>?_) (fun hc25=>?_)
   .
    exact rz J (by subst hg18;rfl)
   .
    exact absurd (by omega) hc25
  .
   subst hg18;cases hg32
def wZ{neg:Bool}{a i:Nat}[h:BN a i](hi:i<=1000000000:=by decide):PF GB prog 168 [eS neg a] (eI (zv neg a)):=by
 refine fn func168 J J ntmps168 J J (fun C=>?_);refine cl J (tw hi) J<|mh 9 J J J (fun hg9=>?_) (fun hg9=>?_)
 .
  exact rz J (by rw[Cn];simp[hg9,tI,gm])
 .
  exact rz J (by rw[Cn];simp[hg9,tI,gm])
def Cx{neg:Bool}{a:Nat}:PF GB prog 262 [.v (.bool neg),dN a] (eI (zv neg a)):=by
 refine fn func262 J J ntmps262 J J (fun C=>?_);refine mh 6 J J J (fun hg6=>?_) (fun hg6=>?_)
 .
  exact rz J (by rw[Cn];simp[hg6,tI,gm])
 .
  exact rz J (by rw[Cn];simp[hg6,tI,gm])
def Wc{m:Int}{i:Nat}[h:BI m i](hi:i<=1000000000:=by decide):PF GB prog 216 [eI m] (eI (-m)):=by
 refine fn func216 J J ntmps216 J J (fun C=>?_);refine cl J (wZ (neg:=!decide (m<0)) (a:=m.natAbs) hi) J<|rz J (by rw[aEm,jB];rfl)
def FJ{a b:Int}{i j:Nat}[h:BI a i][k:BI b j](hi:i<=1000000000:=by decide)(hj:j<=1000000000:=by decide):PF GB prog 248 [eI a,eI b] (eI (a*b)):=by
 refine fn func248 J J ntmps248 J J (fun C=>?_);refine cl J (vL (a:=a.natAbs) (b:=b.natAbs) hi hj) J<|cl J Cx J<|rz J (by rw[show(!(decide (a<0)==decide (b<0)))=(decide (a<0) !=decide (b<0)) from J,J1,jB,jB];rfl)
def aze{n1:Bool}{u:Nat}{b:Int}{i j:Nat}[h:BN u i][k:BI b j](hi:i<=1000000000:=by decide)(hj:j<=1000000000:=by decide):PF GB prog 247 [eS n1 u,eI b] (eI (zv n1 u+b)):=by
 refine fn func247 J J ntmps247 J J (fun C=>?_);refine bb J J J (fun hc13=>?_) (fun hc13=>?_)
 .
  refine cl J (Zg (b:=b.natAbs) hi hj) J<|cl J Cx J<|rz J (by rw[Z0,show n1=decide (b<0) from by simpa using hc13,jB];rfl)
 .
  refine cl J (OR (b:=b.natAbs) hi hj) J<|bd J J J (fun hc30=>?_) (fun hc30=>?_)
  .
   refine cl J Cx J<|rz J (by rw[RO (by simpa using hc13) hc30];rfl)
  .
   refine cl J (OR (a:=b.natAbs) hj hi) J<|cl J Cx J<|rz J (by rw[Y0 (by simpa using hc13) (by omega)];rfl)
def TP{a b:Int}{i j:Nat}[h:BI a i][k:BI b j](hi:i<=1000000000:=by decide)(hj:j<=1000000000:=by decide):PF GB prog 247 [eI a,eI b] (eI (a+b)):=(aze (n1:=decide (a<0)) (u:=a.natAbs) hi hj).to (by rw[jB])
def fG(q:Rat):Prop:= ¬(q.num.natAbs<4611686018427387904/\q.den<4611686018427387904)
instance (q:Rat):Decidable (fG q):=inferInstanceAs (Decidable (¬_))
def cc(q:Rat):Int:=if fG q then 0 else q.num
def cb(q:Rat):Int:=if fG q then 0 else(q.den:Int)-1
def dC(q:Rat):DV:= .op (decide (fG q)) [.v (.bool (decide (q.num<0))),dN q.num.natAbs,dN q.den]
def eF(q:Rat):DV:= .ag [vI (cc q),vI (cb q),dC q]
abbrev bgT {q:Rat} (h:decide (fG q)=true):fG q:=of_decide_eq_true h
abbrev rx {q:Rat} (h:decide (fG q)=false): ¬fG q:=of_decide_eq_false h
abbrev Vi {q:Rat} (h: ¬decide (fG q)=false):fG q:=by simpa using h
abbrev mv {q:Rat} (h: ¬decide (fG q)=true): ¬fG q:=by simpa using h
def l8{q:Rat}(h: ¬fG q):cc q=q.num:=if_neg h
def nv{q:Rat}(h: ¬fG q):cb q=(q.den:Int)-1:=if_neg h
def o7{q:Rat}(h: ¬fG q):q.num.natAbs<4611686018427387904:=(Decidable.not_not.1 h).1
def pc{q:Rat}(h: ¬fG q):q.den<4611686018427387904:=(Decidable.not_not.1 h).2
def FC{q:Rat}(h:fG q):q≠0:=fun e=>by subst e;exact h ⟨by decide,by decide⟩
def qC{q:Rat}{m d:Int}{r:DV}(h: ¬fG q)(h1:q.num=m)(h2:(q.den:Int)-1=d)(e:r= .ag [vI m,vI d, .v (.pointer none)])(G:Gh)(y:Value)(k:Is G r y):Is G (eF q) y:=by
 subst e h1 h2;obtain⟨l,rfl,g⟩:=dm.1 k;obtain⟨y1,l1,rfl,k1,g1⟩:=bm.1 g;obtain⟨y2,l2,rfl,k2,g2⟩:=bm.1 g1;obtain⟨y3,l3,rfl,k3,g3⟩:=bm.1 g2;exact dm.2 ⟨_,J, .cons (by rw[l8 h];exact k1) (.cons (by rw[nv h];exact k2) (.cons (tA.2 (.inl ⟨decide_eq_false h,aP.1 k3⟩)) g3))⟩
def Oa{q:Rat}{n:Bool}{a d:Nat}{r:DV}(h:fG q)(h1:decide (q.num<0)=n)(h2:q.num.natAbs=a)(h3:q.den=d)(e:r= .ag [vI 0,vI 0, .pt [.v (.bool n),dN a,dN d]])(G:Gh)(y:Value)(k:Is G r y):Is G (eF q) y:=by
 subst e h1 h2 h3;obtain⟨l,rfl,g⟩:=dm.1 k;obtain⟨y1,l1,rfl,k1,g1⟩:=bm.1 g;obtain⟨y2,l2,rfl,k2,g2⟩:=bm.1 g1;obtain⟨y3,l3,rfl,k3,g3⟩:=bm.1 g2;exact dm.2 ⟨_,J, .cons (by unfold cc;rw[if_pos h];exact k1) (.cons (by unfold cb;rw[if_pos h];exact k2) (.cons (tA.2 (.inr ⟨decide_eq_true h,k3⟩)) g3))⟩
def vt(G:Gh)(y:Value)(k:Is G (.ag [vI 0,vI 0, .v (.pointer none)]) y):Is G (eF 0) y:=qC (fun h=>FC h J) J J J G y k
def LM{m:Int}(h:m.natAbs<4611686018427387904)(G:Gh)(y:Value)(k:Is G (.ag [vI m,vI 0, .v (.pointer none)]) y):Is G (eF (m:Rat)) y:=
 qC (fun k=>k ⟨by simpa using h,by rw[oW];decide⟩) (oV m) (by rw[oW];rfl) J G y k
def Fq{n:Bool}{a d:Nat}(hd:0<d):(mkRat (zv n a) d).num=zv n (a/Nat.gcd a d)/\(mkRat (zv n a) d).den=d/Nat.gcd a d:=by
 obtain⟨h1,h2⟩:=N6 (m:=zv n a) hd;rw[kI] at h1 h2;exact⟨by rw[h1,Rz (iW _ _)],h2⟩
def Lw{n:Bool}{a d a' d':Nat}(hd:0<d)(ha:a'=a/Nat.gcd a d)(hd':d'=d/Nat.gcd a d)(h1:a'<4611686018427387904)(h2:d'<4611686018427387904)(G:Gh)(y:Value)(k:Is G (.ag [vI (zv n a'),vI ((d':Int)-1), .v (.pointer none)]) y):Is G (eF (mkRat (zv n a) d)) y:=by
 obtain⟨e1,e2⟩:=Fq (n:=n) (a:=a) hd;rw[<-ha] at e1;rw[<-hd'] at e2;exact qC (fun k=>k ⟨by rw[e1,kI];exact h1,by rw[e2];exact h2⟩) e1 (by rw[e2]) J G y k
def Co{n:Bool}{a d a' d':Nat}(hd:0<d)(ha:a'=a/Nat.gcd a d)(hd':d'=d/Nat.gcd a d)(h: ¬(a'<4611686018427387904/\d'<4611686018427387904))(G:Gh)(y:Value)(k:Is G (.ag [vI 0,vI 0, .pt [.v (.bool (decide (zv n a'<0))),dN (zv n a').natAbs,dN d']]) y):Is G (eF (mkRat (zv n a) d)) y:=by
 obtain⟨e1,e2⟩:=Fq (n:=n) (a:=a) hd;rw[<-ha] at e1;rw[<-hd'] at e2;exact Oa (fun k=>h ⟨by rw[e1,kI] at k;exact k.1,by rw[e2] at k;exact k.2⟩) (by rw[e1]) (by rw[e1]) e2 J G y k
def Vc{a d:Nat}(hd:0<d)(h: ¬(1:Int)<(bl (Nat.gcd a d):Nat)):Nat.gcd a d=1:=by
 have h1:Nat.gcd a d≠0:=fun e=>by rw[Nat.gcd_eq_zero_iff] at e;omega
 have h2:Nat.gcd a d<2^1:=ld.1 (by omega);omega
def lG{x:Nat}:(((bl x:Nat):Int)<=62)↔x<4611686018427387904:=UO
def PF.ofI{P:Program}{f:FuncId}{ds ds':List DV}{r:DV}(h:PF GB P f ds r)(k: ∀G vs,IsLs G ds' vs->IsLs G ds vs):PF GB P f ds' r:=fun G vs hg hv=>h G vs hg (k G vs hv)
def td{n:Bool}{a d i j:Nat}[h:BN a i][k:BN d j](hi:i<=450000000:=by decide)(hj:j<=450000000:=by decide):PF GB prog 149 [eS n a,dN d] (eF (mkRat (zv n a) d)):=by
 refine fn func149 J J ntmps149 J J (fun C=>?_);refine cl J (r5 (a:=d) (by omega)) J<|cs 13 J J J (fun hg13=>?_) (fun hg13=>?_)
 .
  exact iv rfl (by obtain rfl:=FL.1 (Int.ofNat.inj hg13);rw[Rat.mkRat_zero];exact vt)
 .
  have hd0:0<d:=by have:= @FL d;omega
  have hg0:0<Nat.gcd a d:=nX _ hd0;refine cl J (Mv (n:=n) (a:=a) (by omega)) J<|br J J J (fun hc17=>?_) (fun hc17=>?_)
  .
   exact iv J (by rw[pS.1 hc17,Rat.zero_mkRat];exact vt)
  .
   refine cl J (A7 (a:=a) (b:=d) (by omega) (by omega)) J<|cl J (r5 (a:=Nat.gcd a d) (i:=i+j) (by omega)) J<|br J J J (fun hc25=>?_) (fun hc25=>?_)
   .
    obtain⟨a',ea⟩: ∃a',a'=a/Nat.gcd a d:=⟨_,rfl⟩;obtain⟨d',ed⟩: ∃d',d'=d/Nat.gcd a d:=⟨_,rfl⟩;have hba:BN a' i:=ea▸inferInstance;have hbd:BN d' j:=ed▸inferInstance;refine cl (fu:=⟨2⟩) J (Cg (a:=a) (b:=Nat.gcd a d) (j:=i+j) hg0 (by omega) (by omega)) J<|ah 31 (.d (dN a')) J (by rw[ea])<|gx J<|cl (fu:=⟨2⟩) J (Cg (a:=d) (b:=Nat.gcd a d) (j:=i+j) hg0 (by omega) (by omega)) J<|ah 39 (.d (dN d')) J (by rw[ed])<|gx J<|cl J (r5 (h:=hba) (by omega)) J<|cs 46 J J J (fun hg46=>?_) (fun hg46=>?_)
    .
     refine cl J (r5 (h:=hbd) (by omega)) J<|br J J J (fun hc50=>?_) (fun hc50=>?_)
     .
      have hs2:=lG.1 hc50;refine cl J (P9 (lG.1 hg46)) J<|cl J (xI (by have:=lG.1 hc50;omega)) J<|iv J (Lw hd0 ea ed (lG.1 hg46) (lG.1 hc50))
     .
      refine cl J (wZ (neg:=n) (h:=hba) (by omega)) J<|cl J (tw (h:=hbd) (by omega)) J<|fz 71 J J<|iv J (Co hd0 ea ed (fun e=>hc50 (lG.2 e.2)))
    .
     refine cl J (wZ (neg:=n) (h:=hba) (by omega)) J<|cl J (tw (h:=hbd) (by omega)) J<|fz 71 J J<|iv J (Co hd0 ea ed (fun e=>hg46 (lG.2 e.1)))
   .
    have hg1:=Vc hd0 hc25;have ea:a=a/Nat.gcd a d:=by rw[hg1,sJ]
    have ed:d=d/Nat.gcd a d:=by rw[hg1,sJ]
    have hba:=h;have hbd:=k;refine cl J (r5 (h:=hba) (by omega)) J<|cs 46 J J J (fun hg46=>?_) (fun hg46=>?_)
    .
     refine cl J (r5 (h:=hbd) (by omega)) J<|br J J J (fun hc50=>?_) (fun hc50=>?_)
     .
      have hs2:=lG.1 hc50;refine cl J (P9 (lG.1 hg46)) J<|cl J (xI (by have:=lG.1 hc50;omega)) J<|iv J (Lw hd0 ea ed (lG.1 hg46) (lG.1 hc50))
     .
      refine cl J (wZ (neg:=n) (h:=hba) (by omega)) J<|cl J (tw (h:=hbd) (by omega)) J<|fz 71 J J<|iv J (Co hd0 ea ed (fun e=>hc50 (lG.2 e.2)))
    .
     refine cl J (wZ (neg:=n) (h:=hba) (by omega)) J<|cl J (tw (h:=hbd) (by omega)) J<|fz 71 J J<|iv J (Co hd0 ea ed (fun e=>hg46 (lG.2 e.1)))
def rO{m:Int}{i:Nat}[h:BI m i](hi:i<=400000000:=by decide):PF GB prog 131 [eI m] (eF (m:Rat)):=by
 refine fn func131 J J ntmps131 J J (fun C=>?_);refine rf (fu:=⟨0⟩) J J<|ah 4 (.d (dN 1)) J (by unfold dN;rw[yO];rfl)<|gx J<|cl J (td (n:=decide (m<0)) (a:=m.natAbs) (d:=1) (by omega)) J<|rz J (by rw[jB,show mkRat m 1=(m:Rat) from rN ..];rfl)
def qv{q:Rat}:PF GB prog 132 [eF q] (vB (decide (q=0))):=by
 refine fn func132 J J ntmps132 J J (fun C=>?_);refine cs 6 J J J (fun hg6=>?_) (fun hg6=>?_)
 .
  exact rz J (by rw[l8 (rx hg6)];show DV.v (.bool (decide _))= .v (.bool _);congr 2;exact decide_eq_decide.2 ⟨fun e=>lT.1 e,fun e=>by rw[e];rfl⟩)
 .
  exact rz J (by rw[decide_eq_false (FC (Vi hg6))];rfl)
def xR{m:Int}(h:m.natAbs<9223372036854775808:=by omega):PF GB prog 196 [vI m] (.v (.int .u64 (m.natAbs:Nat))):=by
 refine fn func196 J J ntmps196 J J (fun C=>?_);refine br J J J (fun hc4=>?_) (fun hc4=>?_)
 .
  exact rz J (by show DV.v (.int _ _)=_;congr 2;omega)
 .
  exact rz J (by show DV.v (.int _ _)=_;congr 2;omega)
def pP{q:Rat}{i:Nat}[h:BQ q i](hi:i<=900000000:=by decide):PF GB prog 198 [eF q] (dN q.den):=by
 refine fn func198 J J ntmps198 J J (fun C=>?_);refine br (v1:=fun hc5=>by simp only[aj];exact hc5) (fu2:=⟨6⟩) J J J (fun hc5=>?_) (fun hc5=>?_)
 .
  refine cl J (tw (a:=q.den) (by omega)) J<|rz J J
 .
  have hd:=q.den_nz;have hs:=pc (mv hc5);refine ah 13 (.d (vI ((q.den:Int)-1))) J (by rw[nv (mv hc5)])<|gx (fu:=⟨2⟩) J<|ah 15 (.d (.v (.int .u64 (q.den:Nat)))) J (by congr 3;omega)<|gx J<|cl J (yh (a:=q.den)) J<|rz J J
def qG{q:Rat}{i:Nat}[h:BQ q i](hi:i<=900000000:=by decide):PF GB prog 105 [eF q] (eI q.num):=by
 refine fn func105 J J ntmps105 J J (fun C=>?_);refine br (v1:=fun hc5=>by simp only[aj];exact hc5) (fu2:=⟨6⟩) J J J (fun hc5=>?_) (fun hc5=>?_)
 .
  refine cl J (wZ (neg:=decide (q.num<0)) (a:=q.num.natAbs) (by omega)) J<|rz J (by rw[jB];rfl)
 .
  have hs:=o7 (mv hc5);refine ah 13 (.d (vI q.num)) J (by rw[l8 (mv hc5)])<|gx J<|cl J (HM) J<|rz J J
def nA{q:Rat}{i:Nat}[h:BQ q i](hi:i<=900000000:=by decide):PF GB prog 156 [eF q] (eF (-q)):=by
 refine fn func156 J J ntmps156 J J (fun C=>?_);refine br (v1:=fun hc5=>by simp only[aj];exact hc5) (fu2:=⟨6⟩) J J J (fun hc5=>?_) (fun hc5=>?_)
 .
  refine cl (fu:=⟨6⟩) (hv:=by simp only[aj];exact hc5) J (Wc (m:=q.num) (by omega)) J<|zo J J<|iv J (Oa (q:= -q) (fun k=>bgT hc5 (by rw[nL,jN,sX] at k;exact k)) (by rw[nL]) (by rw[nL]) (sX q) J)
 .
  have hs:=o7 (mv hc5);refine ah 21 (.d (vI q.num)) J (by rw[l8 (mv hc5)])<|gx J<|iv J (qC (q:= -q) (fun k=>k (by rw[nL,jN,sX];exact⟨hs,pc (mv hc5)⟩)) (by rw[nL]) (by rw[sX,nv (mv hc5)]) J)
def mE{q:Rat}{i:Nat}[h:BQ q i](hi:i<=900000000:=by decide):PF GB prog 100 [eF q] (vI q.num.sign):=by
 refine fn func100 J J ntmps100 J J (fun C=>?_);refine br (v1:=fun hc3=>by simp only[aj];exact hc3) J J J (fun hc3=>?_) (fun hc3=>?_)
 .
  refine cl J (Mv (n:=decide (q.num<0)) (a:=q.num.natAbs) (by omega)) J<|rz J (by rw[jB];rfl)
 .
  have hs:=l8 (mv hc3);refine br J J J (fun hc13=>?_) (fun hc13=>?_)
  .
   exact rz J (by rw[fT (by omega)];rfl)
  .
   refine br J J J (fun hc17=>?_) (fun hc17=>?_)
   .
    exact rz J (by rw[gS (by omega)];rfl)
   .
    exact rz J (by rw[show q.num=0 by omega];rfl)
def aou{a b:Nat}(h:b<=a):(dg b).length<=(dg a).length:=zP (gW h (qn a))
def FP{a b ia ib:Nat}[ha:BN a ia][hb:BN b ib](hb0:0<b)(hi:ia<=500000000:=by decide)(hj:ib<=500000000:=by decide):PF GB prog 147 [dN a,dN b] (.tp [dN (a/b),dN (a%b)]):=by
 have hla:=bP (dg a);have hlb:=bP (dg b);have hba:=i6 ha.h;have hbb:=i6 hb.h;have hba':(dg a).length<=100000000:=by omega
 have hbb':(dg b).length<=100000000:=by omega
 have hlb1:1<=(dg b).length:=Qv (k:=0) (by rw[tZ];exact hb0);refine fn (fu:=⟨7⟩) func147 J J ntmps147 J J (fun C=>?_);refine mg (X:=Unit) (fun _=>[(0, .d (dN a)),(1, .d (dN b))]) (fun _=>[]) (fun _=>True) [0,1] [] rfl ?_ (fun _=>J) (fun _ hm=>?_)
 .
  refine gx J<|cl J (Ah (a:=a) (ia:=ia) (by omega)) J<|bd (fu1:=⟨0⟩) J J J (fun hc18=>?_) (fun hc18=>?_)
  .
   refine ah 6 (.d (.v (.int .u64 (a:Nat)))) J (by rw[if_pos hc18])<|gx J<|cl J (Ah (a:=b) (ia:=ib) (by omega)) J<|bd (fu1:=⟨0⟩) J J J (fun hc24=>?_) (fun hc24=>?_)
   .
    refine ah 8 (.d (.v (.int .u64 (b:Nat)))) J (by rw[if_pos hc24]) ?_;have hdl:=lU a b;have hml:=Nat.mod_le a b;refine gx (hv:=by simp only[aj];exact⟨(by omega),(by omega),(by omega)⟩) J<|cl (hv:=by simp only[aj];exact⟨(by omega),(by omega)⟩) J (s8 (u:=a/b)) J<|cl J (s8 (u:=a%b)) J<|rz J J
   .
    exact at_ () trivial
  .
   exact at_ () trivial
 .
  refine cl J (xd) J<|br J J J (fun hc36=>?_) (fun hc36=>?_)
  .
   have hab:=xh.1 hc36;refine uh J J<|ap _ J J (qp _) J<|ke 39 J<|rz J (by show DV.tp [_, .sl ([]++_)]= .tp [_,_];rw[lX hab,jQ hab,uc];rfl)
  .
   have hab:b<=a:=rL fun q=>hc36 (xh.2 q);have hlab:(dg b).length<=(dg a).length:=aou hab;refine br (fu1:=⟨4⟩) J J J (fun hc42=>?_) (fun hc42=>?_)
   .
    have hb1:b<4294967296:=by have:=qn b;rw[show(dg b).length=1 by omega] at this;omega
    have hbd:(dg b).getD 0 0=b:=t6;refine ah 44 (.d (vI ((dg a).length:Nat))) J (by rw[hla];rfl)<|gx J<|mk (fu:=⟨13⟩) ((List.replicate (dg a).length 0).map dU) J J (by rw[<-ma];rfl) J<|ah 47 (.d (vI ((dg a).length:Nat))) J (by rw[hla];rfl)<|gx J<|lp (X:=List Nat×Nat) (fun⟨W,k⟩=>[(0, .d (dN a)),(1, .d (dN b)),(10, .rw 45),(11, .d (dU (dv ((dg a).drop k)%b))),(12, .d (vI ((k:Nat)-1)))]) (fun⟨W,k⟩=>[(45,some (.b 261 1 (W.map dU) true))]) (fun⟨W,k⟩=>W.length=(dg a).length/\bt W/\k<=(dg a).length/\dv (W.drop k)=dv ((dg a).drop k)/b) (fun⟨W,k⟩=>k) ⟨List.replicate (dg a).length 0,(dg a).length⟩ J ⟨by simp, .replicate _,bQ _,by simp[dv]⟩ (fun _=>J) (fun⟨W,k⟩ hk=>?_) (hF:=(by refine⟨J,J,J,nG J (by simp[dv,dU]),nG J (by simp[vI]),?_⟩;repeat (first|exact trivial|refine And.intro J ?_)))
    try dsimp only at hk⊢
    obtain⟨h1,h2,h3,h4⟩:=hk;have hlw:=bP W;refine br (fu1:=⟨0⟩) J J J (fun hc50=>?_) (fun hc50=>?_)
    .
     obtain⟨k,rfl⟩: ∃j,k=j+1:=⟨k-1,by omega⟩;have hsi:=Ti hb0 (by omega) h1 h4;have hrm:=dQ (dv ((dg a).drop (k+1))) hb0;have hdk:=dE a k;have hqd:(dv ((dg a).drop (k+1))%b*4294967296+(dg a).getD k 0)/b<4294967296:=by rw[jJ hb0];have:=fR 4294967296 (show dv ((dg a).drop (k+1))%b+1<=b from hrm);omega
     refine ah 12 (.d (vI (k:Nat))) J (by show FX.d (.v (.int _ _))= .d (.v (.int _ _));congr 3;omega)<|gx J<|ix _ J (cF (k:=k)) J<|ix _ J (cF (k:=0) J (by omega)) J<|cl J (WL (h:=dv ((dg a).drop (k+1))%b) (l:=(dg a).getD k 0) (y:=(dg b).getD 0 0) (by omega) hdk (by omega)) J<|sb (hv:=by simp only[aj];exact⟨by kernel_rfl,by omega⟩) _ ((W.set k ((dv ((dg a).drop (k+1))%b*4294967296+(dg a).getD k 0)/b)).map dU) J (cF (k:=k)) J (by(rw[hbd,eY,<-iC])<;>rfl) J<|at_ ⟨W.set k ((dv ((dg a).drop (k+1))%b*4294967296+(dg a).getD k 0)/b),k⟩ (by dsimp only;exact⟨⟨by simpa using h1,h2.set _ hqd,by omega,hsi.1⟩,(by omega)⟩) (by refine⟨J,J,J,nG J (by rw[hsi.2,hbd]),nG J (by first|(simp[vI];done)|(simp[vI];omega)),?_⟩;repeat (first|exact trivial|refine And.intro J ?_))
    .
     refine fz 45 J J<|cl rfl (qi (ds:=W)) rfl<|rf J J<|cl rfl (qi (ds:=[dv ((dg a).drop k)%b]) (by simp)) rfl<|rz rfl (by show DV.tp [bE _,bE _]= .tp [_,_];obtain rfl:k=0:=(by omega);rw[gT,gT,cH] at h4;rw[gT,cH];rw[jG h2 h4,jG (.cons (by have:=dQ a hb0;omega) .nil) (n:=a%b) (by simp[dv])])
   .
    refine cl J (RB (by omega) (by omega) hlb1 hlab) J<|rz J J
def Qp(x y:Nat):Nat.gcd y (x%y)=Nat.gcd x y:=by rw[iT x y,tJ y x,iT]
def F3{a b ia ib:Nat}[ha:BN a ia][hb:BN b ib](hi:ia<=240000000:=by decide)(hj:ib<=240000000:=by decide):PF GB prog 86 [dN a,dN b] (dN (Nat.gcd a b)):=by
 refine fn (fu:=⟨6⟩) func86 J J ntmps86 J J (fun C=>?_);refine mg (X:=Unit) (fun _=>[(0, .d (dN a)),(1, .d (dN b))]) (fun _=>[]) (fun _=>True) [0,1] [] rfl ?_ (fun _=>J) (fun _ hm=>?_)
 .
  refine gx J<|cl J (Ah (a:=a) (ia:=ia) (by omega)) J<|bd (fu1:=⟨0⟩) J J J (fun hc16=>?_) (fun hc16=>?_)
  .
   refine ah 5 (.d (.v (.int .u64 (a:Nat)))) J (by rw[if_pos hc16])<|gx J<|cl J (Ah (a:=b) (ia:=ib) (by omega)) J<|bd (fu1:=⟨0⟩) J J J (fun hc22=>?_) (fun hc22=>?_)
   .
    refine ah 7 (.d (.v (.int .u64 (b:Nat)))) J (by rw[if_pos hc22])<|gx J<|lp (X:=Nat×Nat) (fun⟨x,y⟩=>[(5, .d (.v (.int .u64 (x:Nat)))),(7, .d (.v (.int .u64 (y:Nat))))]) (fun⟨x,y⟩=>[]) (fun⟨x,y⟩=>x<18446744073709551616/\y<18446744073709551616/\Nat.gcd x y=Nat.gcd a b) (fun⟨x,y⟩=>y) ⟨a,b⟩ J ⟨hc16,hc22,J⟩ (fun _=>J) (fun⟨x,y⟩ hk=>?_)
    try dsimp only at hk⊢
    obtain⟨h1,h2,h3⟩:=hk;refine br (v1:=fun hc24=>by simp only[aj];exact⟨⟨(by omega),(by omega)⟩,by kernel_rfl⟩) J J J (fun hc24=>?_) (fun hc24=>?_)
    .
     exact at_ ⟨y,x%y⟩ (by dsimp only;exact⟨⟨h2,by have:=dQ x (show 0<y by omega);omega,by rw[Qp,h3]⟩,(by exact dQ _ (by omega))⟩)
    .
     refine cl J (s8 (u:=x) h1) J<|rz J (by show dN x=_;rw[<-h3,show y=0 by omega,mY])
   .
    exact at_ () trivial
  .
   exact at_ () trivial
 .
  refine lp (fu:=⟨5⟩) (X:=Nat×Nat) (fun⟨x,y⟩=>[(0, .d (dN x)),(1, .d (dN y))]) (fun⟨x,y⟩=>[]) (fun⟨x,y⟩=>x<2^(6*(ia+ib))/\y<2^(6*(ia+ib))/\Nat.gcd x y=Nat.gcd a b) (fun⟨x,y⟩=>y) ⟨a,b⟩ J ⟨(ha.mono (by omega)).h,(hb.mono (by omega)).h,J⟩ (fun _=>J) (fun⟨x,y⟩ hk=>?_)
  try dsimp only at hk⊢
  obtain⟨h1,h2,h3⟩:=hk;have hly:=bP (dg y);haveI hx':BN x (ia+ib):=⟨h1⟩;haveI hy':BN y (ia+ib):=⟨h2⟩;refine ah 32 (.d (vI ((dg y).length:Nat))) J (by rw[hly];rfl)<|gx J<|br J J J (fun hc33=>?_) (fun hc33=>?_)
  .
   have hy0:0<y:=eK fun q=>by subst q;rw[qc] at hc33;simp at hc33
   refine cl J (FP (a:=x) (b:=y) (ia:=ia+ib) (ib:=ia+ib) hy0 (by omega) (by omega)) J<|at_ ⟨y,x%y⟩ (by dsimp only;exact⟨⟨h2,by have:=dQ x hy0;omega,by rw[Qp,h3]⟩,(by exact dQ _ hy0)⟩)
  .
   have hy0:y=0:=oI.1 (by omega);have hlx:=i6 h1;have hmx:=bP (dg x);refine uh J J<|ap _ J J (qp _) J<|ke 44 J<|rz J (by show DV.sl ([]++_)=_;rw[<-h3,hy0,mY];rfl)
def NR(neg:Bool)(m:Nat):eI (zv neg m)= .ag [.v (.bool (neg&&decide (0<m))),dN m]:=by unfold eI;rw[kI,Jt]
def UA(z:Int):zv (!decide (z<0)) z.natAbs= -z:=by
 unfold zv;by_cases h:z<0<;>simp[h]<;>omega
def Tw(a b:Int):zv (!(decide (a<0)==decide (b<0))) (a.natAbs*b.natAbs)=a*b:=by
 have h:=J1 (decide (a<0)) (decide (b<0)) a.natAbs b.natAbs;rw[jB,jB] at h;exact h
def mG{neg:Bool}{m:Nat}:PF GB prog 143 [.v (.bool neg),dN m] (eI (zv neg m)):=by
 have hl:=bP (dg m);have hz:= @oI m;refine fn func143 J J ntmps143 J J (fun C=>?_);refine mh 6 J J J (fun hg6=>?_) (fun hg6=>?_)
 .
  exact rz J (by rw[NR,hg6];show DV.ag [.v (.bool _),_]= .ag [.v (.bool _),_];congr 4;rw[Bool.true_and];exact decide_eq_decide.2 (by omega))
 .
  exact rz J (by rw[NR,hg6];rfl)
end Go.Sx
end
section
namespace Go.Sx
open Go
instance:DecidableEq ab:=fun x y=>decidable_of_iff (x.a=y.a/\x.b=y.b/\x.c=y.c) (by
 cases x;cases y;simp)
structure ao where
 lo:Rat
 hi:Rat
 nl:Bool
 nh:Bool
def ao.all:ao:=⟨0,0,true,true⟩
def ao.empty(v:ao):Bool:=!v.nl&&(!v.nh&&decide (0<=ce v.lo v.hi))
def ao.meet(v w:ao):ao:=
 ⟨if v.nl then w.lo else if w.nl then v.lo else if v.lo<w.lo then w.lo else v.lo,
  if v.nh then w.hi else if w.nh then v.hi else if w.hi<v.hi then w.hi else v.hi,v.nl&&w.nl,v.nh&&w.nh⟩
def ao.sample(v:ao):Rat:=if v.nl&&v.nh then 0 else if v.nl then v.hi-1 else if v.nh then v.lo+1 else(v.lo+v.hi)*mkRat 1 2
def ab.cutK(l m:ab):Rat:=m.nor.dot l.dir
def ab.cutC(l m:ab):Rat:=m.value l.base
def ab.cutV(l:ab)(v:ao)(m:ab):ao:=
 if Int.sign (l.cutK m).num=0 then v
 else if Int.sign (l.cutK m).num=1 then v.meet ⟨-(l.cutC m/l.cutK m),0,false,true⟩
 else v.meet ⟨0, -(l.cutC m/l.cutK m),true,false⟩
def ab.cutB(l:ab)(v:ao)(m:ab):Bool:=
 if Int.sign (l.cutK m).num=0 then decide (0<Int.sign (l.cutC m).num) else !(l.cutV v m).empty
structure aH where
 l:ab
 v:ao
abbrev aA:=List aH
def mc(l:ab):aA->ao->Option ao
 |[],v=>some v
 |s::t,v=>if l.cutB v s.l then mc l t (l.cutV v s.l) else none
def jm(c:aA)(l:ab):Option ao:=mc l c ao.all
def mp(l:ab)(s:aH):Int:=Int.sign (l.value (s.l.at s.v.sample)).num
def nf(l:ab):aA->Int
 |[]=> -1
 |s::t=>if mp l s≠0 then mp l s else if s.l=l then 1 else nf l t
def u6(c:aA)(l:ab):Int:=if(jm c l).isSome then 0 else nf l c
def aa.half(p:aa):Int:=
 if 0<Int.sign p.y.num\/(Int.sign p.y.num=0/\0<Int.sign p.x.num) then 1 else if Int.sign p.y.num<0\/Int.sign p.x.num<0 then 2 else 0
def fm(u v:aa):Int:=if u.half<v.half then-1 else if v.half<u.half then 1 else-(Int.sign (u.cross v).num)
def d7(l:ab):aA->aA
 |[]=>[]
 |s::t=>if s.l.cutB s.v l then⟨s.l,s.l.cutV s.v l⟩::d7 l t else d7 l t
def fy(p:Nat->Bool)(i j:Nat):Nat:=
 if h:i<j then(if p ((i+j)/2) then fy p ((i+j)/2+1) j else fy p i ((i+j)/2)) else i
termination_by j-i
def gI(c:aA)(l:ab)(i:Nat):Bool:=match c[i]? with
 |some s=>decide (fm s.l.dir l.dir<0)
 |none=>false
def kG(c:aA)(l:ab)(v:ao):aA:=
 c.take (fy (gI c l) 0 c.length)++⟨l,v⟩::c.drop (fy (gI c l) 0 c.length)
def bO(c:aA)(l:ab):aA:=match jm c l with
 |some v=>kG (d7 l c) l v
 |none=>c
def co(c:aA)(l:ab):Bool:=match jm c l with
 |some _=>true
 |none=>decide (0<u6 c l)
def B7(p:Nat->Bool): ∀(d i j:Nat),j-i<=d->i<=j->i<=fy p i j/\fy p i j<=j
 |0,i,j,h,hij=>by
  rw[fy,dif_neg (by omega)];omega
 |d+1,i,j,h,hij=>by
  rw[fy];split
  .split
   .have:=B7 p d ((i+j)/2+1) j (by omega) (by omega);omega
   .have:=B7 p d i ((i+j)/2) (by omega) (by omega);omega
  .omega
def IF(l:ab): ∀c:aA,(d7 l c).length<=c.length
 |[]=>bQ _
 |s::t=>by
  have:=IF l t;unfold d7;split<;>simp<;>omega
def Ym(c:aA)(l:ab)(v:ao):(kG c l v).length=c.length+1:=by
 have:=(B7 (gI c l) c.length 0 c.length (by omega) (by omega)).2;simp[kG];omega
def yi(c:aA)(l:ab):(bO c l).length<=c.length+1:=by
 unfold bO;split
 .rw[Ym];have:=IF l c;omega
 .omega
inductive Tr where
 |leaf (b:Bool)
 |node (l:ab) (x y:Tr)
def Tr.isLeaf:Tr->Bool
 | .leaf _=>true
 | .node .. =>false
def Tr.code:Tr->Bool
 | .leaf b=>b
 | .node .. =>false
def Tr.depth:Tr->Nat
 | .leaf _=>0
 | .node _ x y=>1+max x.depth y.depth
def Tr.size:Tr->Nat
 | .leaf _=>0
 | .node _ x y=>1+x.size+y.size
def Tr.joinQ(l:ab)(x y:Tr):Tr:=if x.isLeaf&&(y.isLeaf&&(x.code==y.code)) then x else .node l x y
def Tr.restrict:Tr->aA->Tr
 | .leaf b,_=> .leaf b
 | .node l x y,c=>if !co c l.rev then x.restrict c else if !co c l then y.restrict c else joinQ l (x.restrict (bO c l)) (y.restrict (bO c l.rev))
def Tr.parts:Tr->aA->List (Bool×aA)
 | .leaf b,c=>[(b,c)]
 | .node l x y,c=>(if co c l then x.parts (bO c l) else [])++(if co c l.rev then y.parts (bO c l.rev) else [])
def Tr.all(p:ab->Prop):Tr->Prop
 | .leaf _=>True
 | .node l x y=>p l/\x.all p/\y.all p
def Tr.good:Tr->Prop
 | .leaf _=>True
 | .node _ x y=> ¬(x.isLeaf=true/\y.isLeaf=true/\x.code=y.code)/\x.good/\y.good
structure NQ where
 l:ab
 a:Int
 b:Int
def AO(b:Bool):Int:=if b then-2 else-1
def Tr.num:Tr->Nat->Int
 | .leaf b,_=>AO b
 | .node ..,n=>n
def Tr.wr:Tr->Nat->List NQ
 | .leaf _,_=>[]
 | .node l x y,n=>⟨l,x.num (n+1),y.num (n+1+x.size)⟩::x.wr (n+1)++y.wr (n+1+x.size)
def Tr.wr_len: ∀(t:Tr) (n:Nat),(t.wr n).length=t.size
 | .leaf _,n=>rfl
 | .node l x y,n=>by
  have h1:=Tr.wr_len x (n+1);have h2:=Tr.wr_len y (n+1+x.size);simp[Tr.wr,Tr.size,h1,h2];omega
def Tr.joinQ_cases(l:ab)(x y:Tr):(Tr.joinQ l x y=x/\x.isLeaf=true)\/(Tr.joinQ l x y= .node l x y/\ ¬(x.isLeaf=true/\y.isLeaf=true/\x.code=y.code)):=by
 unfold Tr.joinQ;split
 .rename_i h
  simp at h;exact .inl ⟨J,h.1⟩
 .rename_i h
  simp at h;exact .inr ⟨J,fun⟨a,b,c⟩=>h a b c⟩
def Tr.restrict_depth: ∀(t:Tr) (c:aA),(t.restrict c).depth<=t.depth
 | .leaf b,c=>bQ _
 | .node l x y,c=>by
  unfold Tr.restrict;split
  .have:=x.restrict_depth c;simp only[Tr.depth];omega
  .split
   .have:=y.restrict_depth c;simp only[Tr.depth];omega
   .have h1:=x.restrict_depth (bO c l)
    have h2:=y.restrict_depth (bO c l.rev);rcases Tr.joinQ_cases l (x.restrict (bO c l)) (y.restrict (bO c l.rev)) with⟨h,_⟩|⟨h,_⟩
    .rw[h];simp only[Tr.depth];omega
    .rw[h];simp only[Tr.depth];omega
def Tr.restrict_all(p:ab->Prop): ∀(t:Tr) (c:aA),t.all p->(t.restrict c).all p
 | .leaf b,c,_=>trivial
 | .node l x y,c,h=>by
  obtain⟨h0,h1,h2⟩:=h;unfold Tr.restrict;split
  .exact x.restrict_all p c h1
  .split
   .exact y.restrict_all p c h2
   .rcases Tr.joinQ_cases l (x.restrict (bO c l)) (y.restrict (bO c l.rev)) with⟨h,_⟩|⟨h,_⟩
    .rw[h];exact x.restrict_all p _ h1
    .rw[h];exact⟨h0,x.restrict_all p _ h1,y.restrict_all p _ h2⟩
end Go.Sx
end
