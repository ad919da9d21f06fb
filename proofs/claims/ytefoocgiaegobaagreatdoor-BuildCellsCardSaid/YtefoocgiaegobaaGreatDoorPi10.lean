import Derived.Test.YtefoocgiaegobaaGreatDoorPi9
set_option linter.all false
set_option maxHeartbeats 2000000
set_option maxRecDepth 100000
section
namespace Go.Sx
open Go Go.Proofs Tryz
def ash(p k a1 a2 E:Nat)(hk:k<32)(h1:a1<4294967296)(hp:p=2^k):(a1+4294967296*(a2+4294967296*E))/p=(a1+a2*4294967296)/p%4294967296+4294967296*((a2+4294967296*E)/p):=by
 subst hp;have hp0:0<(2:Nat)^k:=fV (by omega);have hB:4294967296=2^(32-k)*2^k:=by rw[<-fT,show 32-k+k=32 by omega]
 -- the quotient and the rest of the quotient by the base
 have hq:(a1+4294967296*(a2+4294967296*E))/2^k/4294967296=(a2+4294967296*E)/2^k:=by
  rw[mR,cX (2^k),<-mR,mV _ _ (by decide),jM h1,dT]
 have hr:(a1+4294967296*(a2+4294967296*E))/2^k%4294967296=(a1+a2*4294967296)/2^k%4294967296:=by
  have e1:a1+4294967296*(a2+4294967296*E)=(a1+a2*4294967296)+2^k*(2^(32-k)*(4294967296*E)):=by
   rw[<-cJ (2^k),cX (2^k) (2^(32-k)),<-hB];omega
  rw[e1,mV _ _ hp0];rw[show 2^(32-k)*(4294967296*E)=4294967296*(2^(32-k)*E) by rw[lW]];rw[nY]
 have h:=Nat.mod_add_div ((a1+4294967296*(a2+4294967296*E))/2^k) 4294967296;rw[hq,hr] at h;exact h.symm
def K3(a:List Nat)(i:Nat):dv (a.drop i)=a.getD i 0+4294967296*dv (a.drop (i+1)):=by
 by_cases h:i<a.length
 ·rw[aM h,aK,aX h];rfl
 ·rw[gN (by omega),gN (by omega),Be (by omega)];rfl
def Xs{a:List Nat}(ha:bm a)(k i:Nat)(hk:k<32):dv (a.drop i)/2^k=(a.getD i 0+a.getD (i+1) 0*4294967296)/2^k%4294967296+4294967296*(dv (a.drop (i+1))/2^k):=by
 rw[K3 a i,K3 a (i+1)];exact ash _ k _ _ _ hk (ha.get i) J
def aA8{A G:Gh}{x:SV}{ds:List Nat}{k kk:Nat}(hx:cx A x ds)[GL A G](hk32:k<32)(hk:dv ds/2^k<2^kk)(hb:ds.length<=1125899906842):
  Fn prog 390 [x.v, .int .u64 (k:Int)] G (fun v G'=> ∃z:SV,v=z.v/\fG kk G' z (dv ds/2^k)):=by
 have htl:=ni ds;have hcall:=fun G1 (_:GL A G1)=>jk (G:=G1) hx (by omega);have hxt:=hx.trim;rw[<-jG ds] at hk⊢;generalize trimD ds=a at*;have hok:=hxt.ok;refine Fn.intro func390 J J ntmps390 J ?_;intro C _ _;refine sR<|sa J J<|zE<|sR<|sm J J<|?_;refine sc (zC J J (hcall _ inferInstance) J ?_);rintro _ G1 _ rfl;refine sa J J<|zE<|bu<|sR<|sm J J<|sy (xm J J (by omega) (by omega) (by decide)) J<|sm J J<|c7 J J<|sy (gz J) J<|?_;rw[show(k:Int)/32=0 by omega];refine sy (uZ J J) J<|zE<|?_;refine gg J (fun hc=>?_) (fun hc=>?_) -- slot 17
 ·refine sR<|sa J J<|zE<|di<|?_
  have:a=[]:=bL (by omega);subst this;refine zD (.tmp J .nil) ⟨⟨none,0,0⟩,J,?_⟩;have e0:dv []/2^k=0:=by simp[dv]
  rw[e0];exact⟨by unfold dg;exact .nil _,fV (by omega)⟩
 refine zK<|sR<|sm J J<|sy (xm J J (by omega) (by omega) (by decide)) J<|sy (Oy J) J<|sm J J<|sy (xe J J (by omega) (by decide)) J<|?_;rw[show(k:Int)/32=0 by omega,show(k:Int)%32=k by omega];refine sa J J<|sa J J<|zE<|sR<|sm J J<|c7 J J<|sm J J<|sy (jP J J) J<|?_;refine sc (r5 J J (by omega) (by omega) (by omega) (by rfl) J ?_);intro b2;rw[um,show((a.length:Int)-0).toNat=a.length by omega];refine sa J J<|zE<|bu<|sR<|sm J J<|c7 J J<|sm J J<|zE<|d6<|?_;refine l6 (X:=OX) (fun q=>[(30, .int .i64 q.i),(29, .int .i64 a.length),(0, .slice x.a a.length x.c),(5, .int .i64 0),(7, .slice (some ⟨b2,0,none⟩) a.length a.length),(6, .int .u64 k)])
  (fun q=>[⟨b2,q.ws.map dI,366,true⟩])
  (fun q _=>q.i<=a.length/\q.ws.length=a.length/\bm q.ws/\dv a/2^k=dv (q.ws.take q.i)+4294967296^q.i*(dv (a.drop q.i)/2^k)) (fun q=>a.length-q.i) ⟨List.replicate a.length 0,0⟩
  ⟨bU _,by simp, .replicate _,by simp[dv]⟩ (.cons J (.cons J (.cons J (.cons J (.cons J (.cons J .nil)))))) J ?_
 rintro ⟨ws,i⟩ Gy _ ⟨hia,hwl,hwo,hinv⟩;simp only[] at hia hwl hwo hinv⊢;refine sR<|sy (jf J J) J<|zE<|bu<|?_;refine lO J (fun hc=>?_) (fun hc=>?_) -- slot 31
 ·have hin:i=a.length:=by omega
  refine jm<|eG<|eG<|jx<|sR<|sm J J<|?_;refine pO b2 (.hd ..) (fun G3 _ hgb=>?_);have hD:cx G3 ⟨some ⟨b2,0,none⟩,a.length,a.length⟩ ws:= .of_block hwo hgb.h hwl.symm (aN _) (by rw[bZ (by simp)]);have hdv:dv a/2^k=dv ws:=by
   rw[hinv,hin,bZ (by omega),jZ];simp[dv]
  refine sc (zC J J (jk hD (by omega)) J ?_);rintro _ G4 _ rfl;refine sa J J<|zE<|di<|?_;refine zD (.tmp J .nil) ⟨⟨some ⟨b2,0,none⟩,(trimD ws).length,a.length⟩,J,?_⟩;have h3:=hD.trim.up (G:=G4);rw[hdv] at hk⊢;exact⟨by rw[pI hwo];exact h3,hk⟩
 have hia':i<a.length:=by omega
 have hga:=hok.get i;have hga2:=hok.get (i+1);refine zK<|bu<|d6<|sR<|sm J J<|sa J J<|zE<|sR<|sm J J<|sm J J<|sm J J<|sy (d5 J J) J<|?_;refine sy (iB (z:=⟨x.a,a.length,x.c⟩) hxt J J (by omega) (by show((i:Int)+0)<(a.length:Nat);omega)) J<|?_;rw[show((i:Int)+0).toNat=i by omega];refine sy (iv hxt J (by omega)) J<|sy (gz J) J<|sa J J<|zE<|?_;refine yF Unit (fun _=>[(30, .int .i64 i),(8, .int .i64 i),(29, .int .i64 a.length),(0, .slice x.a a.length x.c),(5, .int .i64 0),(7, .slice (some ⟨b2,0,none⟩) a.length a.length),(6, .int .u64 k),(9, .int .u64 ((a.getD i 0+a.getD (i+1) 0*2^32:Nat):Int))]) (fun _=>[⟨b2,ws.map dI,366,true⟩]) (fun _ _=>True) ?_ ?_
 ·refine sR<|sm J J<|sm J J<|sy (d5 J J) J<|sy (d5 J J) J<|sm J J<|c7 J J<|sy (jf J J) J<|?_
  refine zE<|?_;refine gg J (fun hc2=>?_) (fun hc2=>?_) -- slot 46
  ·refine d4<|sm J J<|sm J J<|sm J J<|sm J J<|sy (d5 J J) J<|sy (d5 J J) J<|sy (iB (z:=⟨x.a,a.length,x.c⟩) hxt J J (by omega) (by show((i:Int)+0+1)<(a.length:Nat);omega)) J<|?_
   rw[show((i:Int)+0+1).toNat=i+1 by omega];refine sy (iv hxt J (by omega)) J<|sy (gz J) J<|sy (vK J J (by decide)) J<|?_;rw[qO (a.getD (i+1) 0) 32 (by decide) (by omega) J];refine sy (iC J J (LO (a.getD i 0) (a.getD (i+1) 0) 32 (by omega) (by omega))) J<|sa J J<|zE<|?_;exact qi () trivial (.cons J (.cons J (.cons J (.cons J (.cons J (.cons J (.cons J (.cons J .nil)))))))) J
  refine zK<|?_;have h0:a.getD (i+1) 0=0:=Be (by omega);exact qi () trivial (.cons J (.cons J (.cons J (.cons J (.cons J (.cons J (.cons J (.cons (by rw[h0,kU,eY];rfl) .nil)))))))) J
 rintro _ Gz _ _;refine d4<|sm J J<|sm J J<|sm J J<|sm J J<|sy (mn J J (by omega)) J<|?_;rw[th _ k (by omega) (bQ k)];refine sy (ki J) J<|sy (fA J J (by omega) (by omega)) J<|?_;rw[bQ];refine sc (lw (d:=(a.getD i 0+a.getD (i+1) 0*2^32)/2^k%4294967296) J J (by rw[oW];rfl) (.hd ..) (by omega) J ?_);refine zE<|d4<|sy (d5 J J) J<|sm J J<|zE<|?_;refine jt ⟨ws.set i ((a.getD i 0+a.getD (i+1) 0*2^32)/2^k%4294967296),i+1⟩ ⟨by show i+1<=_;omega,by simp[hwl],hwo.set _ (dX _ (by decide)),?_⟩ (by show a.length-(i+1)<a.length-i;omega) (.cons J (.cons J (.cons J (.cons J (.cons J (.cons J .nil)))))) J;show dv a/2^k=dv ((ws.set i ((a.getD i 0+a.getD (i+1) 0*2^32)/2^k%4294967296)).take (i+1))+4294967296^(i+1)*(dv (a.drop (i+1))/2^k);rw[hinv,qf (by omega),Xs hok k i hk32,u9 i,dV,cJ,kZ]
def aDg{V n:Nat}(h1:4294967296^(n-1)<=V)(h2:V<4294967296^n)(hn:0<n):(dg V).length=n:=by
 obtain⟨e,hk,hr⟩:=eo V;have hne:dg V≠[]:=fun h=>by
  rw[h] at e;have:0<4294967296^(n-1):=fV (by decide);simp[dv] at e;omega
 have h3:=qI hr hne;have h4:=ju hk;rw[e] at h3 h4;have h5:=(nN (a:=4294967296) (by decide)).1 (gJ h3 h2);have h6:=(nN (a:=4294967296) (by decide)).1 (gJ h1 h4);omega
def avo{t s:Nat}(h0:0<t)(ht:t<4294967296)(hs:s=32-bl t):s<32/\2147483648<=t*2^s/\(t+1)*2^s<=4294967296:=by
 have h1:bl t<=32:=ou.2 ht;have h2:bl t≠0:=fun h=>by
  have:=AQ t;rw[h] at this;omega
 have h3:=AQ t;have h4: ¬t<2^(bl t-1):=fun h=>by
  have:=ou.2 h;omega
 have e1:2^(bl t-1)*2^s=2147483648:=by rw[<-fT,show bl t-1+s=31 by omega]
 have e2:2^bl t*2^s=4294967296:=by rw[<-fT,show bl t+s=32 by omega]
 refine⟨by omega,?_,?_⟩
 ·rw[<-e1];exact bT _ (by omega)
 ·rw[<-e2];exact bT _ h3
def aGr{us:List Nat}(h:bm us)(i:Nat)(hd:us.length=i+1):dv us=us.getD i 0*4294967296^i+dv (us.take i):=by
 have h0:dv (us.drop (i+1))=0:=by rw[gN (by omega)];rfl
 rw[xp us i,yi us i,h0,kX,cX];rfl
def Lb{b:List Nat}(h:eh b)(i:Nat)(hi:b.length=i+1):0<b.getD i 0:=by
 rcases fX (b.getD i 0) with h0|h0
 ·exfalso
  apply h;rw[List.getLast?_eq_getElem?,hi,show i+1-1=i from J];rw[List.getD,aX (by omega)] at h0;rw[aX (by omega)];simpa using h0
 ·exact h0
def TW(a:List Nat)(k:Nat):dv (a++List.replicate k 0)=dv a:=by rw[xb,xG];simp
structure YE where
 us:List Nat
 qs:List Nat
 j:Nat
structure Us where
 g:Nat
 r:Nat
structure OV where
 ws:List Nat
 k:Nat
 bo:Nat
 c:Nat
def Y4{P:Program}{t:TypeId}(c:Nat)(h:c<18446744073709551616)(w:World):(binOp .and t (.int .u64 (c:Int)) (.int .u64 4294967295)).run P w= .ok (.int .u64 ((c%4294967296:Nat):Int)) w:=by
 have h1:(BitVec.ofInt 64 (c:Int) &&& BitVec.ofInt 64 4294967295).toNat=c%4294967296:=by
  rw[BitVec.toNat_and,BitVec.ofInt_natCast,BitVec.toNat_ofNat,fW (by omega),show(BitVec.ofInt 64 4294967295).toNat=2^32-1 from J,Nat.and_two_pow_sub_one_eq_mod]
 have h2:IntKind.u64.wrap ((c%4294967296:Nat):Int)=((c%4294967296:Nat):Int):=by rw[nv];omega
 simp only[binOp];show(Op.intBits .and .u64 (c:Int) 4294967295).run P w=_;unfold Op.intBits;show(pure (Value.int .u64 (IntKind.u64.wrap ((BitVec.ofInt 64 (c:Int) &&& BitVec.ofInt 64 4294967295).toNat:Int))):Sem Value).run P w=_;rw[h1,h2,run_pure]
def sO(u m bo:Nat):Nat:=if m+bo<=u then u-(m+bo) else u+18446744073709551616-(m+bo)
def sub2(u m bo:Nat)(hu:u<4294967296)(hm:m<4294967296)(hb:bo<=1):IntKind.u64.wrap (IntKind.u64.wrap ((u:Int)-(m:Int))-(bo:Int))=((sO u m bo:Nat):Int):=by
 rw[nv,nv];unfold sO;split<;>omega
def Ob(u m bo:Nat)(hu:u<4294967296)(hm:m<4294967296)(hb:bo<=1):sO u m bo%4294967296+(m+bo)=u+sO u m bo/9223372036854775808*4294967296/\sO u m bo/9223372036854775808<=1/\sO u m bo<18446744073709551616:=by
 unfold sO;split<;>omega
def Ym{A B G:Gh}{x y:SV}{a b:List Nat}{k1 k2:Nat}(hx:cx A x a)(hy:cx B y b)[GL A G][GL B G](hna:eh a)(hnb:eh b)(hb2:2<=b.length)(hle:dv b<=dv a)
  (hq:dv a/dv b<2^k1)(hr:dv a%dv b<2^k2)(hl:a.length<=112589990684):
  Fn prog 369 [x.v,y.v] G (fun v G'=> ∃z r:SV,v= .tuple #[z.v,r.v]/\fG k1 G' z (dv a/dv b)/\fG k2 G' r (dv a%dv b)):=by
 have hxl:=hx.len;have hyl:=hy.len;obtain⟨n,hn⟩: ∃n,b.length=n+2:=⟨b.length-2,by omega⟩;have hbp:0<dv b:=iV fun h=>by
  rw[Wm hnb] at h;rw[h] at hn;simp at hn
 have hnm:b.length<=a.length:=by
  rcases jX a.length b.length with h|h
  ·have:=ta hx.ok hnb h
   omega
  ·exact h
 have htp:=Lb hnb (n+1) hn;have htl:=hy.ok.get (n+1);have hbv:=aGr hy.ok (n+1) hn;have hbt:=CN hy.ok (n+1);obtain⟨s,hs⟩: ∃s,s=32-bl (b.getD (n+1) 0):=⟨_,rfl⟩;obtain⟨hs32,hs1,hs2⟩:=avo htp htl hs;have hble:bl (b.getD (n+1) 0)<=32:=ou.2 htl;have hpn:0<4294967296^(n+1):=fV (by decide);have hps:0<2^s:=fV (by decide);have hV1:2147483648*4294967296^(n+1)<=dv b*2^s:=by
  refine cM (bT _ hs1) ?_;rw[cJ,cX (2^s),<-cJ];exact bT _ (by omega)
 have hV2:dv b*2^s<4294967296^(n+2):=by
  refine dJ (lZ (k:=2^s) (m:=(b.getD (n+1) 0+1)*4294967296^(n+1)) (by rw[cR,mS];omega) hps) ?_;rw[cJ,cX (4294967296^(n+1)),<-cJ,u9 (n+1),cX _ 4294967296];exact bT _ hs2
 have hVl:(dg (dv b*2^s)).length=n+2:=aDg (by show 4294967296^(n+1)<=_;omega) hV2 (by omega);have hal:=ju hx.ok;have hU2:dv a*2^s<4294967296^(a.length+1):=by
  rw[u9];exact nQ hal (dJ (Nat.pow_lt_pow_right (by decide) hs32) (by decide))
 have hUl1:(dg (dv a*2^s)).length<=a.length+1:=by
  have h1:=RH (eo (dv a*2^s)).2.2 (k:=32*(a.length+1)) (by rw[(eo _).1,pK];exact hU2);omega
 have hUl0:a.length<=(dg (dv a*2^s)).length:=by
  have hane:a≠[]:=fun h=>by
   have:=congrArg List.length h;simp only[jQ] at this;omega
  have h1:=qI hna hane;have h2:=ju (eo (dv a*2^s)).2.1;rw[(eo _).1] at h2;have h3:dv a<=dv a*2^s:=Nat.le_mul_of_pos_right _ hps;have h4:=(nN (a:=4294967296) (by decide)).1 (gJ (cM h1 h3) h2);omega
 have hU3:dv a*2^s<dv b*2^s*4294967296^(a.length-n-1):=by
  have h1:4294967296^(n+1)*4294967296^(a.length-n-1)=4294967296^a.length:=by rw[<-fT,show n+1+(a.length-n-1)=a.length by omega]
  refine dJ (lZ hal hps) (cM (fL _ (bR (by decide) (show s<=31 by omega))) ?_);rw[<-h1,cX,<-cJ];exact bT _ hV1
 have hta:=OZ hna;have htb:=OZ hnb;refine Fn.intro func369 J J ntmps369 J ?_;intro C _ _;refine sR<|sa J J<|sa J J<|zE<|YU<|sR<|sm J J<|sm J J<|c7 J J<|sy (jP J J) J<|?_;refine sy (iB hy J J (by omega) (by omega)) J<|?_;rw[show((y.n:Int)-1).toNat=n+1 by omega];refine sy (iv hy J (by omega)) J<|?_;refine sc (zC J J (Ih htl) J ?_);rintro _ G1 _ rfl;refine sy (gz J) J<|?_;rw[show(32-(bl (b.getD (n+1) 0):Int))=(s:Int) by omega];refine sa J J<|zE<|sR<|sm J J<|sm J J<|?_;refine sc (zC J J (Jk (kk:=32*(a.length+1)) hx hs32 (by rw[pK];exact hU2) (by omega)) J ?_);rintro _ G2 _ ⟨u,rfl,hu,huc⟩;have hul:=hu.len;rw[hta] at huc;refine sc (FC (by rfl) (by rfl) (by rfl) (by rfl) J ?_);intro b3;refine sc (zS (z:= .int .u32 0) (m:=2) J J (Na hu.d) (xI inferInstance J) (by omega) (by decide) (by omega) J ?_);intro b4 cap h1;have ecs:(dg (dv a*2^s)).map dI++[Value.int .u32 0, .int .u32 0]++cO (.int .u32 0) (cap-(u.n+2))=(dg (dv a*2^s)++List.replicate (cap-u.n) 0).map dI:=by
  rw[um,show cap-u.n=(cap-(u.n+2))+1+1 by omega,jK,jK];simp[dI]
 rw[ecs];clear ecs;have hus:dv (dg (dv a*2^s)++List.replicate (cap-u.n) 0)=dv a*2^s:=by rw[TW,(eo _).1]
 have huo:bm (dg (dv a*2^s)++List.replicate (cap-u.n) 0):=(eo _).2.1.append (.replicate _);have hulen:(dg (dv a*2^s)++List.replicate (cap-u.n) 0).length=cap:=by simp;omega
 generalize dg (dv a*2^s)++List.replicate (cap-u.n) 0=us0 at hus huo hulen⊢;refine sm J J<|c7 J J<|sy (d5 J J) J<|sy (x4 J J (by omega) (by omega)) J<|sa J J<|zE<|sR<|sm J J<|?_;refine sm J J<|?_;refine sc (zC J J (Jk (kk:=32*(n+2)) hy hs32 (by rw[pK];exact hV2) (by omega)) J ?_);rintro _ G4 _ ⟨v,rfl,hv,_⟩;have hvl:=hv.len;obtain⟨hvv,hvo,hvn⟩:=eo (dv b*2^s);replace hv:=hv.d;rw[hVl] at hvl;generalize hvs:dg (dv b*2^s)=vs at*;refine sa J J<|zE<|sR<|sm J J<|c7 J J<|sa J J<|zE<|bu<|dr (fun _=>false) [(0,true),(1,true),(2,true),(3,true),(4,true),(5,true),(6,true),(7,true),(8,true),(9,true),(10,true),(11,true),(12,true),(13,true)] follows (by kernel_rfl)<|?_;refine dM J J J<|dM J J J<|dy J (fun _=>jP J J (by omega) (by omega)) J J<|dy J (fun _=>iB hv J J (by omega) (by omega)) J J<|?_;rw[show((v.n:Int)-1).toNat=n+1 by omega];have hvt:=hvo.get (n+1);have hv2:=hvo.get n;refine dy J (fun _=>iv hv J (by omega)) J J<|dy J (fun _=>gz J (by omega) (by omega)) J J<|dM J J J<|dM J J J<|?_;refine dy J (fun _=>jP J J (by omega) (by omega)) J J<|dy J (fun _=>iB hv J J (by omega) (by omega)) J J<|?_;rw[show((v.n:Int)-2).toNat=n by omega];refine dy J (fun _=>iv hv J (by omega)) J J<|?_;refine dy J (fun _=>gz J (by omega) (by omega)) J J<|dA J J J<|dA J J J<|dn<|sR<|sm J J<|?_;refine c7 J J<|sm J J<|sy (jP J J) J<|?_;obtain⟨l,hlq⟩: ∃l,a.length=n+1+l:=⟨a.length-n-1,by omega⟩;rw[show a.length-n-1=l by omega] at hU3;rw[show(((x.n:Int)+1).toNat:Int)-v.n=(l:Nat) by omega,show((x.n:Int)+1).toNat=a.length+1 by omega]
 refine sc (r5 J J (by omega) (by omega) (by omega) (by rfl) J ?_);intro b5;rw[um,bQ];refine J9 [_,_] (.cons_cons _ (.cons_cons _ (.cons _ .slnil))) ?_;refine sa J J<|zE<|bu<|SA<|bu<|sR<|sm J J<|c7 J J<|sy (jP J J) J<|sa J J<|zE<|d6<|?_;refine l6 (X:=YE) (fun q=>[(13, .int .i64 ((q.j:Int)-1)),(7, .slice (some ⟨b4,0,none⟩) (a.length+1) cap),(9, .int .i64 v.n),(10, .int .u64 (vs.getD (n+1) 0:Nat)),(11, .int .u64 (vs.getD n 0:Nat)),(8, .slice v.a v.n v.c),(12, .slice (some ⟨b5,0,none⟩) l l),(6, .int .u64 s)])
  (fun q=>[⟨b5,q.qs.map dI,366,true⟩,⟨b4,q.us.map dI,366,true⟩])
  (fun q _=>q.us.length=cap/\bm q.us/\q.qs.length=l/\bm q.qs/\q.j<=l/\(∀i,i<q.j->q.qs.getD i 0=0)/\dv a*2^s=dv q.us+dv vs*dv q.qs/\dv q.us<dv vs*4294967296^q.j) (fun q=>q.j) ⟨us0,List.replicate l 0,l⟩
  ⟨hulen,huo,by simp, .replicate _,aN _,fun i _=>by simp[List.getD,List.getElem?_replicate];split<;>rfl,by simp only[xG];omega,by simp only[hus,hvv];exact hU3⟩ (.cons J (.cons J (.cons J (.cons J (.cons J (.cons J (.cons J (.cons J .nil)))))))) J ?_
 rintro ⟨us,qs,j⟩ Gx _ ⟨hul2,huo2,hql,hqo,hjl,hq0,hinv,hlt⟩;simp only[] at hul2 huo2 hql hqo hjl hq0 hinv hlt⊢;refine bu<|sR<|sm J J<|sy (uZ J J) J<|zE<|?_;refine lO J (fun hc=>?_) (fun hc=>?_) -- slot 68
 ·have hj0:j=0:=by omega
  subst hj0;refine jm<|eG<|eG<|jx<|bu<|?_;refine pO b5 (.hd ..) (fun G5 _ hgb5=>?_);refine pO b4 (.hd ..) (fun G6 _ hgb4=>?_);refine dr (fun _=>false) [(0,true),(2,true),(3,true),(4,true),(5,true),(1,false),(6,false),(7,true),(8,true)] follows (by kernel_rfl)<|?_;have hDq:cx G6 ⟨some ⟨b5,0,none⟩,l,l⟩ qs:= .of_block hqo (hgb5.up (G:=G6)) hql.symm (aN _) (by rw[bZ (by simp)]);have hut:dv (us.take (n+2))=dv us:=by
   have h0:=xp us (n+2);rw[Dy (by rw[rS,iL,hvv] at hlt;omega)] at h0;omega
  have hDu:cx G6 ⟨some ⟨b4,0,none⟩,n+2,cap⟩ (us.take (n+2)):= .of_block (huo2.take _) hgb4.h (by simp;omega) (by omega) (by rw[lX,cK,gV (by omega)]);have hV0:0<dv vs:=by rw[hvv];exact jT hbp hps
  rw[rS,iL] at hlt;have hdq:dv a/dv b=dv qs:=by
   rw[<-Nat.mul_div_mul_right _ _ hps,hinv,<-hvv,mV _ _ hV0,jM hlt,dT]
  have hdr:dv a%dv b=dv (us.take (n+2))/2^s:=by
   have:dv us=dv a%dv b*2^s:=by
    rw[<-sZ,hinv,<-hvv,nY,fW hlt]
   rw[hut,this,Nat.mul_div_cancel _ hps]
  refine dM J J J<|dM J J J<|dM J J J<|dy J (fun _=>x4 J J (by omega) (by omega)) J J<|?_;rw[show(v.n:Int).toNat=n+2 by omega];refine dM J J J<|?_;refine dc J J (zC J J (jk hDq (by omega)) J ?_);rintro _ G7 _ rfl;refine mG<|?_;refine dc J J (zC J J (aA8 (kk:=k2) hDu hs32 (by rw[<-hdr];exact hr) (by simp;omega)) J ?_);rintro _ G8 _ ⟨r,rfl,hr8⟩;refine mG<|dA J J J<|dA J J J<|dn<|di<|?_;refine zD (.tmp J (.tmp J .nil)) ⟨⟨some ⟨b5,0,none⟩,(trimD qs).length,l⟩,r,J,?_,?_⟩
  ·rw[hdq]
   refine⟨?_,by rw[<-hdq];exact hq⟩;rw[pI hqo];exact hDq.trim.up
  ·rw[hdr];exact hr8
 obtain⟨i,rfl⟩: ∃i,j=i+1:=⟨j-1,by omega⟩;rw[show(((i+1:Nat):Int)-1)=i by omega];have hpi:0<4294967296^i:=fV (by decide)
 -- the digits that the guess looks at
 obtain⟨p,hp⟩: ∃p,p=4294967296^(i+n):=⟨_,rfl⟩;obtain⟨V,hV⟩: ∃V,V=dv vs*4294967296^i:=⟨_,rfl⟩;have hvB:dv vs<4294967296^(n+2):=by rw[hvv];exact hV2
 have hvh:=YQ hvo n hvB;have hltV:dv us<V*4294967296:=by rw[hV,cJ,<-u9];exact hlt
 have hV0:0<V:=by rw[hV];exact jT (by rw[hvv];exact jT hbp hps) hpi
 have hT0:0<vs.getD (n+1) 0:=Lb hvn (n+1) hVl;have hVp:V=(vs.getD (n+1) 0*4294967296+vs.getD n 0)*p+dv (vs.take n)*4294967296^i:=by
  rw[hV,hvh,cR,hp,fT,cX (4294967296^i),cJ]
 have hv0:dv (vs.take n)*4294967296^i<p:=by
  rw[hp,fT,cX];exact Nat.mul_lt_mul_of_pos_left (CN hvo n) hpi
 have hM:dv us<4294967296^(i+n+3):=by
  refine dJ hlt ?_;rw[show i+n+3=(n+2)+(i+1) by omega,fT 4294967296 (n+2) (i+1)];exact bT _ (oT hvB)
 have huh:=Vc huo2 (i+n) hM;rw[<-hp] at huh;have hu0:=CN huo2 (i+n);rw[<-hp] at hu0;have hg0:=huo2.get (i+n);have hg1:=huo2.get (i+n+1);have hg2:=huo2.get (i+n+2);refine zK<|bu<|d6<|bu<|dr (fun _=>false) [(0,true),(1,true),(2,true),(3,true),(4,true),(5,true),(6,true),(7,true),(8,true),(9,true),(10,true),(11,true),(12,true),(13,true),(14,true),(15,true),(16,true),(17,true)] follows (by kernel_rfl)<|?_;refine dM J J J<|dM J J J<|dM J J J<|dy J (fun _=>d5 J J (by omega) (by omega)) J J<|?_;refine dy J (fun _=>fA J J (by omega) (by omega)) J J<|?_;rw[show((i:Int)+(v.n:Int)).toNat=i+n+2 by omega];refine dy J (fun _=>qt J (by omega)) J J<|dy J (fun _=>gz J (by omega) (by omega)) J J<|dy J (fun _=>vK J J (by decide)) J J<|?_;rw[qO (us.getD (i+n+2) 0) 32 (by decide) (by omega) J];refine dM J J J<|dM J J J<|dM J J J<|dy J (fun _=>d5 J J (by omega) (by omega)) J J<|?_;refine dy J (fun _=>jP J J (by omega) (by omega)) J J<|dy J (fun _=>fA J J (by omega) (by omega)) J J<|?_;rw[show((i:Int)+(v.n:Int)-1).toNat=i+n+1 by omega];refine dy J (fun _=>qt J (by omega)) J J<|?_;refine dy J (fun _=>gz J (by omega) (by omega)) J J<|dy J (fun _=>iC J J (IY (us.getD (i+n+1) 0) (us.getD (i+n+2) 0) 32 (by omega) (by omega))) J J<|dA J J J<|dn<|bu<|?_;obtain⟨f,hf⟩: ∃f,f=us.getD (i+n+2) 0*4294967296+us.getD (i+n+1) 0:=⟨_,rfl⟩;rw[show us.getD (i+n+1) 0+us.getD (i+n+2) 0*2^32=f by omega];rw[<-hf] at huh;have hfB:f<18446744073709551616:=by omega
 refine dr (fun _=>false) [(0,true),(1,true),(2,true),(3,true),(4,true),(5,true),(6,true),(7,true)] follows (by kernel_rfl)<|?_;refine dM J J J<|dM J J J<|dy J (fun _=>xm J J (by omega) (by omega) (by omega)) J J<|dM J J J<|dM J J J<|?_;refine dy J (fun _=>xe J J (by omega) (by omega)) J J<|dA J J J<|dA J J J<|dn<|?_;rw[show((f:Int)/((vs.getD (n+1) 0:Nat):Int))=((f/vs.getD (n+1) 0:Nat):Int) by rfl,show((f:Int)%((vs.getD (n+1) 0:Nat):Int))=((f%vs.getD (n+1) 0:Nat):Int) by rfl]
 -- GUESS
 have hUle:(f*4294967296+us.getD (i+n) 0)*p<=dv us:=by omega
 have hUlt:dv us<(f*4294967296+us.getD (i+n) 0+1)*p:=by rw[cR _ 1,mS];omega
 have hVle:(vs.getD (n+1) 0*4294967296+vs.getD n 0)*p<=V:=by rw[hVp];exact pL _ _
 have hfT:f<=vs.getD (n+1) 0*4294967296+vs.getD n 0:=VS hUle hVp hv0 hltV;refine yF Nat (fun g=>[(15, .int .u64 (g:Nat)),(13, .int .i64 i),(7, .slice (some ⟨b4,0,none⟩) (a.length+1) cap),(9, .int .i64 v.n),(10, .int .u64 (vs.getD (n+1) 0:Nat)),(11, .int .u64 (vs.getD n 0:Nat)),(8, .slice v.a v.n v.c),(12, .slice (some ⟨b5,0,none⟩) l l),(6, .int .u64 s)]) (fun _=>[⟨b5,qs.map dI,366,true⟩,⟨b4,us.map dI,366,true⟩]) (fun g _=>g<4294967296/\dv us<(g+1)*V/\g*V<dv us+V) ?_ ?_
 ·refine d6<|?_
  refine l6 (X:=Us) (fun q=>[(15, .int .u64 q.g),(16, .int .u64 q.r),(13, .int .i64 i),(7, .slice (some ⟨b4,0,none⟩) (a.length+1) cap),(9, .int .i64 v.n),(10, .int .u64 (vs.getD (n+1) 0:Nat)),(11, .int .u64 (vs.getD n 0:Nat)),(8, .slice v.a v.n v.c),(12, .slice (some ⟨b5,0,none⟩) l l),(6, .int .u64 s)]) (fun _=>[⟨b5,qs.map dI,366,true⟩,⟨b4,us.map dI,366,true⟩]) (fun q _=>f=q.g*vs.getD (n+1) 0+q.r/\q.r<4294967296/\dv us<(q.g+1)*V) (fun q=>q.g) ⟨f/vs.getD (n+1) 0,f%vs.getD (n+1) 0⟩
   ⟨(Nat.div_add_mod' ..).symm,pT (dX _ hT0) hvt,Vg hUlt hg0 hVle hT0⟩ (.cons J (.cons J (.cons J (.cons J (.cons J (.cons J (.cons J (.cons J (.cons J (.cons J .nil)))))))))) J ?_
  rintro ⟨g,r⟩ Gy _ ⟨hfg,hrB,hlo⟩;simp only[] at hfg hrB hlo⊢;have hgT:g*1<=g*vs.getD (n+1) 0:=fL _ hT0;refine bu<|sR<|sm J J<|sy (mn J J (by decide)) J<|?_;rw[th g 32 (by decide) J];refine sy (uB J J) J<|sm J J<|?_;refine nP 97 J (fun hg=>?_) (fun hg=>?_)
  ·have hgB:4294967296<=g:=by omega
   have hdec:dv us<g*V:=dJ hltV (by rw[cX];exact bT _ hgB);refine ss J J J J<|ss J J J J<|ss J J J J<|ss J J J J<|ss J J J J<|ss J J J J<|ss J J J J<|ss J J J J<|ss J J J J<|?_;refine ss J J J J<|ss J J J J<|ss J J J J<|ss J J J J<|ss J J J J<|ss J J J J<|sy (rF J J) J<|zE<|oA J<|?_;refine zK<|d6<|?_;obtain⟨g',rfl⟩: ∃g',g=g'+1:=⟨g-1,by rcases fX g with h|h;(rw[h,kU] at hdec;omega);omega⟩;refine sR<|sm J J<|sy (LJ J J (by omega) (by omega)) J<|sa J J<|zE<|sR<|sm J J<|sm J J<|sy (qE J J) J<|?_;refine sa J J<|zE<|sR<|sm J J<|sy (mn J J (by decide)) J<|?_;rw[show((g'+1:Nat):Int)-1=(g':Nat) by omega,show((r:Int)+((vs.getD (n+1) 0:Nat):Int))=((r+vs.getD (n+1) 0:Nat):Int) from J,th (r+vs.getD (n+1) 0) 32 (by decide) J];have hfg':f=g'*vs.getD (n+1) 0+(r+vs.getD (n+1) 0):=by rw[hfg,cR,mS];omega
   refine sy (uB J J) J<|zE<|?_;refine gg J (fun hc3=>?_) (fun hc3=>?_) -- slot 121
   ·have hr3:4294967296<=r+vs.getD (n+1) 0:=by omega
    have hgB:g'<4294967296:=by
     rcases jX g' 4294967296 with h|h
     ·exact h
     ·have:=bT (vs.getD (n+1) 0) h
      omega
    have hgS:g'*vs.getD n 0<=(r+vs.getD (n+1) 0)*4294967296+us.getD (i+n) 0:=by
     have h1:=jN (oT hgB) (oT hv2);omega
    refine jm<|KK J<|eG<|jx<|?_;exact qi g' ⟨hgB,hdec,IH hUle hVp hv0 hT0 hfg' hgB hgS⟩ (.cons J (.cons J (.cons J (.cons J (.cons J (.cons J (.cons J (.cons J (.cons J .nil))))))))) J
   refine zK<|?_;exact jt ⟨g',r+vs.getD (n+1) 0⟩ ⟨hfg',by show r+vs.getD (n+1) 0<_;omega,hdec⟩ (by show g'<g'+1;omega) (.cons J (.cons J (.cons J (.cons J (.cons J (.cons J (.cons J (.cons J (.cons J (.cons J .nil)))))))))) J
  have hgB:g<4294967296:=by omega
  have hgS:g*vs.getD n 0<4294967296*4294967296:=nQ hgB hv2;have e2:(g:Int)*((vs.getD n 0:Nat):Int)=((g*vs.getD n 0:Nat):Int):=J;refine bO J J (fI J) J<|bO J J (fI J) J<|bO J J (Ig J J (by rw[e2];omega) (by rw[e2];omega)) J<|bO J J (fI J) J<|bO J J (vK J J (by decide)) J<|?_;rw[qO r 32 (by decide) (by omega) J];refine bO J J (fI J) J<|bO J J (fI J) J<|bO J J (fI J) J<|bO J J (d5 J J) J<|bO J J (jP J J) J<|?_;refine bO J J (fA J J (by omega) (by omega)) J<|?_;rw[show((i:Int)+(v.n:Int)-2).toNat=i+n by omega];refine bO J J (qt J (by omega)) J<|bO J J (gz J) J<|bO J J (iC J J (IY (us.getD (i+n) 0) r 32 (by omega) (by omega))) J<|?_;refine bO J J (sE J J) J<|sy (lG J J) J<|zE<|?_;rw[e2];refine lO J (fun hc2=>?_) (fun hc2=>?_) -- slot 113
  ·refine jm<|eG<|eG<|jx<|?_
   exact qi g ⟨hgB,hlo,IH hUle hVp hv0 hT0 hfg hgB (by omega)⟩ (.cons J (.cons J (.cons J (.cons J (.cons J (.cons J (.cons J (.cons J (.cons J .nil))))))))) J
  have hdec:dv us<g*V:=YP hUlt hVle hfg (by omega);refine zK<|d6<|?_;obtain⟨g',rfl⟩: ∃g',g=g'+1:=⟨g-1,by rcases fX g with h|h;(rw[h,kU] at hdec;omega);omega⟩;refine sR<|sm J J<|sy (LJ J J (by omega) (by omega)) J<|sa J J<|zE<|sR<|sm J J<|sm J J<|sy (qE J J) J<|?_;refine sa J J<|zE<|sR<|sm J J<|sy (mn J J (by decide)) J<|?_;rw[show((g'+1:Nat):Int)-1=(g':Nat) by omega,show((r:Int)+((vs.getD (n+1) 0:Nat):Int))=((r+vs.getD (n+1) 0:Nat):Int) from J,th (r+vs.getD (n+1) 0) 32 (by decide) J];have hfg':f=g'*vs.getD (n+1) 0+(r+vs.getD (n+1) 0):=by rw[hfg,cR,mS];omega
  refine sy (uB J J) J<|zE<|?_;refine gg J (fun hc3=>?_) (fun hc3=>?_) -- slot 121
  ·have hr3:4294967296<=r+vs.getD (n+1) 0:=by omega
   have hgB:g'<4294967296:=by
    rcases jX g' 4294967296 with h|h
    ·exact h
    ·have:=bT (vs.getD (n+1) 0) h
     omega
   have hgS:g'*vs.getD n 0<=(r+vs.getD (n+1) 0)*4294967296+us.getD (i+n) 0:=by
    have h1:=jN (oT hgB) (oT hv2);omega
   refine jm<|KK J<|eG<|jx<|?_;exact qi g' ⟨hgB,hdec,IH hUle hVp hv0 hT0 hfg' hgB hgS⟩ (.cons J (.cons J (.cons J (.cons J (.cons J (.cons J (.cons J (.cons J (.cons J .nil))))))))) J
  refine zK<|?_;exact jt ⟨g',r+vs.getD (n+1) 0⟩ ⟨hfg',by show r+vs.getD (n+1) 0<_;omega,hdec⟩ (by show g'<g'+1;omega) (.cons J (.cons J (.cons J (.cons J (.cons J (.cons J (.cons J (.cons J (.cons J (.cons J .nil)))))))))) J
 rintro g Gz _ ⟨hgB,hlo,hhi⟩
 -- SUB
 refine sR<|sa J J<|sa J J<|zE<|bu<|sR<|sm J J<|c7 J J<|sm J J<|zE<|d6<|?_;refine l6 (X:=OV) (fun q=>[(18, .int .u64 q.c),(17, .int .u64 q.bo),(124, .int .i64 q.k),(123, .int .i64 v.n),(122, .slice v.a v.n v.c),(15, .int .u64 (g:Nat)),(13, .int .i64 i),(7, .slice (some ⟨b4,0,none⟩) (a.length+1) cap),(9, .int .i64 v.n),(10, .int .u64 (vs.getD (n+1) 0:Nat)),(11, .int .u64 (vs.getD n 0:Nat)),(8, .slice v.a v.n v.c),(12, .slice (some ⟨b5,0,none⟩) l l),(6, .int .u64 s)]) (fun q=>[⟨b5,qs.map dI,366,true⟩,⟨b4,q.ws.map dI,366,true⟩])
  (fun q _=>q.ws.length=cap/\bm q.ws/\q.k<=n+2/\q.bo<=1/\q.c<4294967296/\dv q.ws<4294967296^(i+n+3)/\dv q.ws+g*(dv (vs.take q.k)*4294967296^i)=dv us+(q.bo+q.c)*4294967296^(i+q.k)) (fun q=>n+2-q.k) ⟨us,0,0,0⟩
  ⟨hul2,huo2,bU _,bU _,by show(0:Nat)<4294967296;decide,hM,by simp[dv]⟩ (.cons J (.cons J (.cons J (.cons J (.cons J (.cons J (.cons J (.cons J (.cons J (.cons J (.cons J (.cons J (.cons J (.cons J .nil)))))))))))))) J ?_
 rintro ⟨ws,k,bo,c⟩ Gy _ ⟨hwl,hwo,hk,hbo,hc4,hwM,hw⟩;simp only[] at hwl hwo hk hbo hc4 hwM hw⊢;refine sR<|sy (jf J J) J<|zE<|bu<|?_;refine lO J (fun hkc=>?_) (fun hkc=>?_) -- slot 125
 ·have hkn:k=n+2:=by omega
  subst hkn;rw[bZ (by omega),<-hV] at hw;refine jm<|eG<|eG<|jx<|sR<|sm J J<|sm J J<|sm J J<|sy (d5 J J) J<|sy (fA J J (by omega) (by omega)) J<|?_;rw[show((i:Int)+(v.n:Int)).toNat=i+n+2 by omega];have hwg:=hwo.get (i+n+2);refine sy (qt J (by omega)) J<|sy (gz J) J<|sm J J<|sy (vm J J) J<|sm J J<|sy (vm J J) J<|?_;rw[sub2 _ _ _ hwg hc4 hbo];obtain⟨hx1,hx2,hx3⟩:=Ob (ws.getD (i+n+2) 0) c bo hwg hc4 hbo;generalize sO (ws.getD (i+n+2) 0) c bo=xx at hx1 hx2 hx3⊢;refine sa J J<|zE<|sR<|sm J J<|sm J J<|sm J J<|sy (d5 J J) J<|sm J J<|sy (ki J) J<|sy (fA J J (by omega) (by omega)) J<|?_;rw[show((i:Int)+(v.n:Int)).toNat=i+n+2 by omega];refine sc (lw (d:=xx%4294967296) J J (by rw[oW];rfl) (.tl _ _ _ _ _ _ _ _ (.hd ..)) (by omega) J ?_);have hs2:=px ws (i+n+2) (xx%4294967296) (by omega);have hl2:=Vx hs2 hw hx1;rw[<-u9] at hl2;have hM2:=B8 (i:=i+n+2) (d:=xx%4294967296) hwo (dX _ (by decide)) hwM (by omega);have ho2:=hwo.set (i+n+2) (d:=xx%4294967296) (dX _ (by decide));have hn2:(ws.set (i+n+2) (xx%4294967296)).length=cap:=by rw[aT];exact hwl
  generalize ws.set (i+n+2) (xx%4294967296)=ws2 at hl2 hM2 ho2 hn2⊢;replace hl2:dv ws2+g*V=dv us+xx/9223372036854775808*4294967296^(i+n+3):=hl2;have hqset: ∀d,dv (qs.set i d)=dv qs+4294967296^i*d:=fun d=>by
   have:=px qs i d (by omega);rw[hq0 i (by omega)] at this;simpa using this
  have hqz: ∀d i',i'<i->(qs.set i d).getD i' 0=0:=fun d i' h=>by
   have:=hq0 i' (by omega);simpa[List.getD,nR,show¬i=i' by omega] using this
  have hinv2: ∀d R,R+d*V=dv us->dv a*2^s=R+dv vs*dv (qs.set i d):=fun d R h=>by
   rw[hinv,<-h,hqset,dV,<-cJ,<-hV,cX d];omega
  refine zE<|sR<|sm J J<|sm J J<|sm J J<|sy (ki J) J<|sy (fA J J (by omega) (by omega)) J<|?_;rw[bQ];refine sc (lw (d:=g) J J (Qw g hgB) (.hd ..) (by omega) J ?_);refine zE<|bu<|sR<|sm J J<|sy (mn J J (by decide)) J<|?_;rw[th xx 63 (by decide) J];refine sy (iD J J) J<|zE<|?_;refine gg J (fun ht=>?_) (fun ht=>?_) -- slot 184
  ·have ht0:xx/2^63=0:=by omega
   rw[show xx/9223372036854775808=xx/2^63 from J,ht0,kU,eY] at hl2;refine jm<|eG<|jx<|d4<|sm J J<|sy (jP J J) J<|sa J J<|zE<|?_;exact jt ⟨ws2,qs.set i g,i⟩ ⟨hn2,ho2,by simpa using hql,hqo.set _ hgB,by show i<=l;omega,hqz g,hinv2 g _ hl2,by show dv ws2<_;rw[<-hV];exact aBY hlo hl2⟩ (by show i<i+1;omega) (.cons J (.cons J (.cons J (.cons J (.cons J (.cons J (.cons J (.cons J .nil)))))))) J
  have ht1:xx/9223372036854775808=1:=by
   have:xx/9223372036854775808≠0:=fun h=>ht (by rw[show xx/2^63=xx/9223372036854775808 from J,h];rfl);omega
  rw[ht1,mS] at hl2;obtain⟨g',rfl⟩: ∃g',g=g'+1:=⟨g-1,by rcases fX g with h|h;(rw[h,kU] at hl2;omega);omega⟩;refine zK<|sR<|sm J J<|sm J J<|sy (fA J J (by omega) (by omega)) J<|?_;rw[bQ];refine sy (qt J (by simp;omega)) J<|?_;rw[show(qs.set i (g'+1)).getD i 0=g'+1 by simp[List.getD,nR,show i<qs.length by omega]];refine sy (vm J J) J<|sy (fA J J (by omega) (by omega)) J<|?_;rw[bQ];refine sc (lw (d:=g') J J (by rw[qh];omega) (.hd ..) (by simp;omega) J ?_);rw[List.set_set];refine zE<|sR<|sa J J<|zE<|bu<|sR<|sm J J<|c7 J J<|sm J J<|zE<|d6<|?_;refine l6 (X:=OV) (fun q=>[(18, .int .u64 q.c),(193, .int .i64 q.k),(192, .int .i64 v.n),(191, .slice v.a v.n v.c),(13, .int .i64 i),(7, .slice (some ⟨b4,0,none⟩) (a.length+1) cap),(9, .int .i64 v.n),(10, .int .u64 (vs.getD (n+1) 0:Nat)),(11, .int .u64 (vs.getD n 0:Nat)),(8, .slice v.a v.n v.c),(12, .slice (some ⟨b5,0,none⟩) l l),(6, .int .u64 s)]) (fun q=>[⟨b5,(qs.set i g').map dI,366,true⟩,⟨b4,q.ws.map dI,366,true⟩])
   (fun q _=>q.ws.length=cap/\bm q.ws/\q.k<=n+2/\q.c<=1/\dv q.ws<4294967296^(i+n+3)/\dv q.ws+q.c*4294967296^(i+q.k)=dv ws2+dv (vs.take q.k)*4294967296^i) (fun q=>n+2-q.k) ⟨ws2,0,0,0⟩
   ⟨hn2,ho2,bU _,bU _,hM2,by simp[dv]⟩ (.cons J (.cons J (.cons J (.cons J (.cons J (.cons J (.cons J (.cons J (.cons J (.cons J (.cons J (.cons J .nil)))))))))))) J ?_
  rintro ⟨wa,k,_,ca⟩ Gz _ ⟨hal2,hao,hak,hac,haM,ha⟩;simp only[] at hal2 hao hak hac haM ha⊢;refine sR<|sy (jf J J) J<|zE<|bu<|?_;refine lO J (fun hkd=>?_) (fun hkd=>?_) -- slot 194
  ·have hkn:k=n+2:=by omega
   subst hkn;rw[bZ (by omega),<-hV] at ha;have hag:=hao.get (i+n+2);refine jm<|eG<|eG<|jx<|d4<|sm J J<|sm J J<|sm J J<|sy (d5 J J) J<|sy (fA J J (by omega) (by omega)) J<|?_;rw[show((i:Int)+(v.n:Int)).toNat=i+n+2 by omega];refine sy (qt J (by omega)) J<|sm J J<|sy (ki J) J<|sy (Vs J J) J<|sy (fA J J (by omega) (by omega)) J<|?_;rw[show((i:Int)+(v.n:Int)).toNat=i+n+2 by omega];refine sc (lw (d:=(wa.getD (i+n+2) 0+ca)%4294967296) J J (by rw[qh];omega) (.tl _ _ _ _ _ _ _ _ (.hd ..)) (by omega) J ?_);have hs4:=px wa (i+n+2) ((wa.getD (i+n+2) 0+ca)%4294967296) (by omega);have hl4:=VL hs4 ha;rw[<-u9] at hl4;have hM4:=B8 (i:=i+n+2) (d:=(wa.getD (i+n+2) 0+ca)%4294967296) hao (dX _ (by decide)) haM (by omega);obtain⟨hR1,hR2⟩:=Sv hhi hl2 hl4 hM2 hM4 (by omega) (Nat.succ_pos _);refine zE<|d4<|sm J J<|sy (jP J J) J<|sa J J<|zE<|?_;exact jt ⟨wa.set (i+n+2) ((wa.getD (i+n+2) 0+ca)%4294967296),qs.set i g',i⟩ ⟨by simpa using hal2,hao.set _ (dX _ (by decide)),by simpa using hql,hqo.set _ (by omega),by show i<=l;omega,hqz g',hinv2 g' _ hR1,by show dv _<_;rw[<-hV];exact hR2⟩ (by show i<i+1;omega) (.cons J (.cons J (.cons J (.cons J (.cons J (.cons J (.cons J (.cons J .nil)))))))) J
  have hvk:=hvo.get k;have hag:=hao.get (i+k);refine zK<|bu<|d6<|sR<|sm J J<|sy (iB hv J J (by omega) (by omega)) J<|?_;rw[bQ];refine sy (iv hv J (by omega)) J<|sa J J<|sa J J<|zE<|bu<|?_;refine d4<|sm J J<|sm J J<|sm J J<|sm J J<|sy (d5 J J) J<|sy (fA J J (by omega) (by omega)) J<|?_;rw[show((i:Int)+(k:Int)).toNat=i+k by omega];refine sy (qt J (by omega)) J<|sy (gz J) J<|sm J J<|sy (gz J) J<|sy (qE J J) J<|sy (qE J J) J<|?_;rw[show(ca:Int)+(((wa.getD (i+k) 0:Nat):Int)+((vs.getD k 0:Nat):Int))=((ca+(wa.getD (i+k) 0+vs.getD k 0):Nat):Int) from J];refine sa J J<|zE<|sR<|sm J J<|sm J J<|sm J J<|sy (d5 J J) J<|sm J J<|sy (ki J) J<|sy (fA J J (by omega) (by omega)) J<|?_;rw[show((i:Int)+(k:Int)).toNat=i+k by omega];refine sc (lw (d:=(ca+(wa.getD (i+k) 0+vs.getD k 0))%4294967296) J J (by rw[oW];rfl) (.tl _ _ _ _ _ _ _ _ (.hd ..)) (by omega) J ?_);refine zE<|d4<|sm J J<|sy (mn J J (by decide)) J<|?_;rw[th (ca+(wa.getD (i+k) 0+vs.getD k 0)) 32 (by decide) J];refine sa J J<|zE<|d4<|sy (d5 J J) J<|sm J J<|zE<|?_;refine jt ⟨wa.set (i+k) ((ca+(wa.getD (i+k) 0+vs.getD k 0))%4294967296),k+1,0,(ca+(wa.getD (i+k) 0+vs.getD k 0))/2^32⟩ ⟨by simpa using hal2,hao.set _ (dX _ (by decide)),by show k+1<=_;omega,by show(ca+(wa.getD (i+k) 0+vs.getD k 0))/4294967296<=1;omega,B8 hao (dX _ (by decide)) haM (by omega),?_⟩ (by show n+2-(k+1)<n+2-k;omega) (.cons J (.cons J (.cons J (.cons J (.cons J (.cons J (.cons J (.cons J (.cons J (.cons J (.cons J (.cons J .nil)))))))))))) J;show dv (wa.set (i+k) ((ca+(wa.getD (i+k) 0+vs.getD k 0))%4294967296))+((ca+(wa.getD (i+k) 0+vs.getD k 0))/4294967296)*4294967296^(i+k+1)=dv ws2+dv (vs.take (k+1))*4294967296^i
  rw[jl,cR (dv (vs.take k)),u9,show 4294967296^k*vs.getD k 0*4294967296^i=vs.getD k 0*4294967296^(i+k) by rw[fT,cX (4294967296^k),cJ,cX (4294967296^k)]];exact aAn (px wa (i+k) _ (by omega)) ha
 have hvk:=hvo.get k;have hwg:=hwo.get (i+k);refine zK<|bu<|d6<|sR<|sm J J<|sy (iB hv J J (by omega) (by omega)) J<|?_;rw[bQ];refine sy (iv hv J (by omega)) J<|sa J J<|sa J J<|zE<|bu<|?_;have hgd:g*vs.getD k 0<=4294967295*4294967295:=jN (by omega) (by omega);have e3:(g:Int)*((vs.getD k 0:Nat):Int)=((g*vs.getD k 0:Nat):Int):=J;refine d4<|sm J J<|sm J J<|sm J J<|sy (gz J) J<|sy (Ig J J (by rw[e3];omega) (by rw[e3];omega)) J<|?_;rw[e3];refine sy (qE J J) J<|?_;rw[show(c:Int)+((g*vs.getD k 0:Nat):Int)=((c+g*vs.getD k 0:Nat):Int) from J];obtain⟨c1,hc1⟩: ∃c1,c1=c+g*vs.getD k 0:=⟨_,rfl⟩;rw[<-hc1];have hc1m:c1%4294967296<4294967296:=dX _ (by decide);refine sa J J<|zE<|sR<|sm J J<|sm J J<|sm J J<|sy (d5 J J) J<|sy (fA J J (by omega) (by omega)) J<|?_;rw[show((i:Int)+(k:Int)).toNat=i+k by omega];refine sy (qt J (by omega)) J<|sy (gz J) J<|sm J J<|sy (iC J J (Y4 c1 (by omega))) J<|sy (vm J J) J<|sm J J<|sy (vm J J) J<|?_;rw[sub2 _ _ _ hwg hc1m hbo];obtain⟨hx1,hx2,hx3⟩:=Ob (ws.getD (i+k) 0) (c1%4294967296) bo hwg hc1m hbo;generalize sO (ws.getD (i+k) 0) (c1%4294967296) bo=xx at hx1 hx2 hx3⊢;refine sa J J<|?_;refine zE<|sR<|sm J J<|sm J J<|sm J J<|sy (d5 J J) J<|sm J J<|sy (ki J) J<|sy (fA J J (by omega) (by omega)) J<|?_;rw[show((i:Int)+(k:Int)).toNat=i+k by omega];refine sc (lw (d:=xx%4294967296) J J (by rw[oW];rfl) (.tl _ _ _ _ _ _ _ _ (.hd ..)) (by omega) J ?_);refine zE<|sR<|sm J J<|sy (mn J J (by decide)) J<|?_;rw[th xx 63 (by decide) J];refine sa J J<|zE<|d4<|sm J J<|sy (mn J J (by decide)) J<|?_
 rw[th c1 32 (by decide) J];refine sa J J<|?_;refine zE<|d4<|sy (d5 J J) J<|sm J J<|zE<|?_;refine jt ⟨ws.set (i+k) (xx%4294967296),k+1,xx/2^63,c1/2^32⟩ ⟨by simpa using hwl,hwo.set _ (dX _ (by decide)),by show k+1<=_;omega,hx2,by show c1/4294967296<_;omega,B8 hwo (dX _ (by decide)) hwM (by omega),?_⟩ (by show n+2-(k+1)<n+2-k;omega) (.cons J (.cons J (.cons J (.cons J (.cons J (.cons J (.cons J (.cons J (.cons J (.cons J (.cons J (.cons J (.cons J (.cons J .nil)))))))))))))) J;show dv (ws.set (i+k) (xx%4294967296))+g*(dv (vs.take (k+1))*4294967296^i)=dv us+(xx/9223372036854775808+c1/4294967296)*4294967296^(i+k+1);rw[jl,cR (dv (vs.take k)),u9,show 4294967296^k*vs.getD k 0*4294967296^i=vs.getD k 0*4294967296^(i+k) by rw[fT,cX (4294967296^k),cJ,cX (4294967296^k)],dV,<-cJ g (vs.getD k 0)];exact UN (px ws (i+k) _ (by omega)) hw hc1 hx1
def GY{A B G:Gh}{x y:SV}{a b:List Nat}{k1 k2:Nat}(hx:cx A x a)(hy:cx B y b)[GL A G][GL B G](hb0:0<dv b)
  (hq:dv a/dv b<2^k1)(hr:dv a%dv b<2^k2)(hl:a.length<=112589990684)(hl2:b.length<=112589990684):
  Fn prog 313 [x.v,y.v] G (fun v G'=> ∃z r:SV,v= .tuple #[z.v,r.v, .bool true]/\fG k1 G' z (dv a/dv b)/\fG k2 G' r (dv a%dv b)):=by
 have hla:=ni a;have hlb:=ni b;have hca:=fun G1 (_:GL A G1)=>jk (G:=G1) hx (by omega);have hcb:=fun G1 (_:GL B G1)=>jk (G:=G1) hy (by omega);have hxt:=hx.trim;have hyt:=hy.trim;have hna:=eh.trimD a;have hnb:=eh.trimD b;rw[<-jG a,<-jG b] at hq hr⊢;rw[<-jG b] at hb0;generalize trimD a=a' at*;generalize trimD b=b' at*;refine Fn.intro func313 J J ntmps313 J ?_;intro C _ _;refine sR<|sa J J<|sa J J<|sa J J<|zE<|sR<|sm J J<|?_;refine sc (zC J J (hca _ inferInstance) J ?_);rintro _ G1 _ rfl;refine sm J J<|?_;refine sc (zC J J (hcb _ inferInstance) J ?_);rintro _ G2 _ rfl;refine sa J J<|sa J J<|zE<|bu<|d6<|sR<|sm J J<|c7 J J<|sy (iD J J) J<|sa J J<|zE<|?_;refine gg J (fun hc=>?_) (fun hc=>?_) -- slot 15
 ·exfalso
  have:b'=[]:=bL (by omega);rw[this] at hb0;exact absurd hb0 (by simp[dv])
 refine sR<|sm J J<|sm J J<|?_;refine sc (zC J J (JG hxt hyt (by omega) (by omega)) J ?_);rintro _ G3 _ rfl;refine sy (jf J J) J<|sa J J<|zE<|?_;refine gg J (fun hc2=>?_) (fun hc2=>?_) -- slot 19
 ·have hlt:dv a'<dv b':=by
   unfold gw at hc2;split at hc2
   ·assumption
   ·split at hc2<;>omega
  refine sR<|sm J J<|?_;refine sc (zC J J (RI hxt (by omega)) J ?_);rintro _ G4 _ ⟨z,rfl,hz⟩;refine sa J J<|sa J J<|sa J J<|zE<|di<|?_;refine zD (.tmp J (.tmp J (.tmp J .nil))) ⟨⟨none,0,0⟩,z,J,?_,?_⟩
  ·rw[jM hlt]
   exact⟨by unfold dg;exact .nil _,fV (by decide)⟩
  ·rw[fW hlt] at hr⊢
   exact⟨by rw[yc hxt.ok hna];exact hz,hr⟩
 have hle:dv b'<=dv a':=by
  unfold gw at hc2;split at hc2
  ·omega
  ·omega
 refine sR<|sm J J<|c7 J J<|sy (iD J J) J<|sa J J<|zE<|?_;refine gg J (fun hc3=>?_) (fun hc3=>?_) -- slot 26
 ·have hb1:b'.length=1:=by omega
  obtain⟨d,rfl⟩:=List.length_eq_one_iff.1 hb1;have hdv:dv [d]=d:=by simp[dv]
  have hdB:=hyt.ok.head;rw[hdv] at hb0 hq hr⊢;refine sR<|sm J J<|sm J J<|sy (iB (z:=⟨y.a,1,y.c⟩) hyt J J (by omega) (by show(0:Int)<((1:Nat):Int);omega)) J<|sy (iv (i:=0) hyt J (by simp)) J<|?_;rw[show [d].getD 0 0=d from J];refine sc (zC J J (XM (x:=⟨x.a,a'.length,x.c⟩) hxt hb0 hdB hq (by omega)) J ?_);rintro _ G5 _ ⟨z,rfl,hz⟩;have hmB:dv a'%d<4294967296:=pT (dX _ hb0) hdB;refine sm J J<|sx J J J<|sx J J J<|sa J J<|sa J J<|zE<|sR<|sm J J<|sm J J<|sy (gz J) J<|?_;refine sc (zC J J (I3 (by omega)) J ?_);rintro _ G6 _ ⟨r,rfl,hr6⟩;refine sa J J<|sa J J<|sa J J<|zE<|di<|?_;exact zD (.tmp J (.tmp J (.tmp J .nil))) ⟨z,r,J,hz.up,hr6.mono hr⟩
 have hb2:2<=b'.length:=by omega
 refine zK<|sR<|sm J J<|sm J J<|?_;refine sc (zC J J (Ym (x:=⟨x.a,a'.length,x.c⟩) (y:=⟨y.a,b'.length,y.c⟩) hxt hyt hna hnb hb2 hle hq hr (by omega)) J ?_);rintro _ G7 _ ⟨z,r,rfl,hz,hr7⟩;refine sm J J<|sx J J J<|sx J J J<|sa J J<|sa J J<|zE<|sR<|sm J J<|sm J J<|sa J J<|sa J J<|sa J J<|zE<|?_;refine di<|?_;exact zD (.tmp J (.tmp J (.tmp J .nil))) ⟨z,r,J,hz,hr7⟩
def l9{u k:Nat}(h:u<2^k):32*(dg u).length<=k+31:=RH (eo u).2.2 (by rw[(eo u).1];exact h)
def fG.dvl{k:Nat}{G:Gh}{x:SV}{v:Nat}(_:fG k G x v):dv (dg v)=v:=(eo v).1
structure aCX where
 a:SV
 b:SV
 u:Nat
 v:Nat
def aAi{A B G:Gh}{x y:SV}{a b:List Nat}{k k0:Nat}(hx:cx A x a)(hy:cx B y b)[GL A G][GL B G](ha:dv a<2^k0)(hb:dv b<2^k0)(hk0:k0<=1099511627776)
  (hg0:Nat.gcd (dv a) (dv b)<2^k)(hl:a.length<=112589990684)(hl2:b.length<=112589990684):
  Fn prog 312 [x.v,y.v] G (fun v G'=> ∃z:SV,v=z.v/\fG k G' z (Nat.gcd (dv a) (dv b))):=by
 refine Fn.intro func312 J J ntmps312 J ?_;intro C _ _;refine sR<|sa J J<|zE<|sR<|sm J J<|?_;refine sc (zC J J (Gq hx ha (by omega)) J ?_);rintro _ G1 _ ⟨x1,rfl,hx1⟩;refine sm J J<|?_;refine sc (zC J J (Gq hy hb (by omega)) J ?_);rintro _ G2 _ ⟨y1,rfl,hy1⟩;generalize dv a=ua at*;generalize dv b=ub at*;refine sa J J<|sa J J<|zE<|bu<|d6<|?_;refine l6 (X:=aCX) (fun q=>[(0, .slice q.a.a q.a.n q.a.c),(1, .slice q.b.a q.b.n q.b.c)]) (fun _=>[]) (fun q G=>fG k0 G q.a q.u/\fG k0 G q.b q.v/\Nat.gcd q.u q.v=Nat.gcd ua ub) (fun q=>q.v) ⟨x1,y1,ua,ub⟩
  ⟨hx1.up,hy1,J⟩ (.cons J (.cons J .nil)) J ?_
 rintro ⟨p,q,u,v⟩ Gx _ ⟨hp,hq,hgc⟩;simp only[] at hp hq hgc⊢;have hpl:=hp.len;have hql:=hq.len;have hpb:=l9 hp.lt;have hqb:=l9 hq.lt;refine bu<|sR<|sm J J<|c7 J J<|sy (sE J J) J<|sm J J<|?_;refine nP 19 J (fun hg=>?_) (fun hg=>?_)
 ·refine ss J J J J<|ss J J J J<|ss J J J J<|sy (rF J J) J<|zE<|oA J<|zK<|d6<|bu<|sR<|sm J J<|?_
  refine c7 J J<|sy (iD J J) J<|zE<|?_;refine gg J (fun hc1=>?_) (fun hc1=>?_) -- slot 26
  ·refine sR<|sm J J<|sa J J<|zE<|di<|?_
   have hv0:v=0:=by
    have:dg v=[]:=bL (by omega);have h2:=hq.dvl;rw[this] at h2;exact h2.symm
   have hue:u=Nat.gcd ua ub:=by rw[<-hgc,hv0,nJ]
   exact zD (.tmp J .nil) ⟨p,J,by rw[<-hue] at hg0⊢;exact hp.mono hg0⟩
  have hv0:0<v:=iV fun h=>by
   have h1:dg v=[]:=by rw[h];unfold dg;rfl
   rw[h1] at hql;simp only[jQ] at hql;omega
  have hm:=dX u hv0;refine zK<|sR<|sm J J<|sm J J<|?_;refine sc (zC J J (GY (k1:=k0) (k2:=k0) hp.d hq.d (by rw[hq.dvl];exact hv0) (by rw[hp.dvl];exact gJ (kR _ _) hp.lt) (by rw[hp.dvl,hq.dvl];exact pT hm hq.lt) (by omega) (by omega)) J ?_);rintro _ G3 _ ⟨z,r,rfl,hz,hr⟩;rw[hp.dvl,hq.dvl] at hr;refine sm J J<|sx J J J<|sx J J J<|sx J J J<|sa J J<|sa J J<|sa J J<|zE<|d4<|sm J J<|sm J J<|sa J J<|sa J J<|?_;refine zE<|?_;exact jt ⟨q,r,v,u%v⟩ ⟨hq.up,hr,by show Nat.gcd v (u%v)=_;rw[<-hgc,jV u,tW v u,jV]⟩ hm (.cons J (.cons J .nil)) J
 refine bO J J (fI J) J<|bO J J (nG J) J<|bO J J (sE J J) J<|sy (lG J J) J<|zE<|?_;refine lO J (fun hc=>?_) (fun hc=>?_) -- slot 23
 ·have small: ∀{w:Nat},(dg w).length<=2->w<18446744073709551616:=fun{w} h=>by
   have h1:=ju (eo w).2.1;rw[(eo w).1] at h1;exact dJ h1 (cM (bR (by decide) h) (by decide))
  have hu64:u<18446744073709551616:=small (by omega);have hv64:v<18446744073709551616:=small (by omega);refine jm<|eG<|eG<|jx<|sR<|sm J J<|?_;refine sc (zC J J (HT hp.d (by omega)) J ?_);rintro _ G4 _ rfl;rw[hp.dvl,if_pos hu64];refine sm J J<|sx J J J<|sx J J J<|sa J J<|sa J J<|zE<|sR<|sm J J<|?_;refine sc (zC J J (HT hq.d (by omega)) J ?_);rintro _ G5 _ rfl;rw[hq.dvl,if_pos hv64];refine sm J J<|sx J J J<|sx J J J<|sa J J<|sa J J<|zE<|bu<|d6<|?_;refine l6 (X:=Nat×Nat) (fun q=>[(8, .int .u64 (q.1:Nat)),(10, .int .u64 (q.2:Nat))]) (fun _=>[]) (fun q _=>q.1<18446744073709551616/\q.2<18446744073709551616/\Nat.gcd q.1 q.2=Nat.gcd ua ub) (fun q=>q.2) (u,v)
   ⟨hu64,hv64,hgc⟩ (.cons J (.cons J .nil)) J ?_
  rintro ⟨u1,v1⟩ Gy _ ⟨hu1,hv1,hgc1⟩;simp only[] at hu1 hv1 hgc1⊢;refine bu<|sR<|sm J J<|sy (uB J J) J<|zE<|?_;refine lO J (fun hc5=>?_) (fun hc5=>?_) -- slot 48
  ·refine jm<|eG<|eG<|jx<|sR<|sm J J<|?_
   refine sc (zC J J (I3 hu1) J ?_);rintro _ G6 _ ⟨z,rfl,hz⟩;refine sa J J<|zE<|di<|?_;have hv0:v1=0:=by omega
   have hue:u1=Nat.gcd ua ub:=by rw[<-hgc1,hv0,nJ]
   exact zD (.tmp J .nil) ⟨z,J,by rw[<-hue] at hg0⊢;exact hz.mono hg0⟩
  have hv0:0<v1:=by omega
  refine zK<|d6<|dr (fun _=>false) [(0,true),(1,true),(2,true),(3,true),(4,true),(5,true)] follows (by kernel_rfl)<|dM J J J<|dM J J J<|?_;refine dM J J J<|dy J (fun _=>xe J J (by omega) (by omega)) J J<|dA J J J<|dA J J J<|dn<|?_;exact jt (v1,u1%v1) ⟨hv1,pT (dX _ hv0) hv1,by show Nat.gcd v1 (u1%v1)=_;rw[<-hgc1,jV u1,tW v1 u1,jV]⟩ (by show u1%v1<v1;exact dX _ hv0) (.cons J (.cons J .nil)) J
 refine zK<|d6<|bu<|sR<|sm J J<|?_;refine c7 J J<|sy (iD J J) J<|zE<|?_;refine gg J (fun hc1=>?_) (fun hc1=>?_) -- slot 26
 ·refine sR<|sm J J<|sa J J<|zE<|di<|?_
  have hv0:v=0:=by
   have:dg v=[]:=bL (by omega);have h2:=hq.dvl;rw[this] at h2;exact h2.symm
  have hue:u=Nat.gcd ua ub:=by rw[<-hgc,hv0,nJ]
  exact zD (.tmp J .nil) ⟨p,J,by rw[<-hue] at hg0⊢;exact hp.mono hg0⟩
 have hv0:0<v:=iV fun h=>by
  have h1:dg v=[]:=by rw[h];unfold dg;rfl
  rw[h1] at hql;simp only[jQ] at hql;omega
 have hm:=dX u hv0;refine zK<|sR<|sm J J<|sm J J<|?_;refine sc (zC J J (GY (k1:=k0) (k2:=k0) hp.d hq.d (by rw[hq.dvl];exact hv0) (by rw[hp.dvl];exact gJ (kR _ _) hp.lt) (by rw[hp.dvl,hq.dvl];exact pT hm hq.lt) (by omega) (by omega)) J ?_);rintro _ G3 _ ⟨z,r,rfl,hz,hr⟩;rw[hp.dvl,hq.dvl] at hr;refine sm J J<|sx J J J<|sx J J J<|sx J J J<|sa J J<|sa J J<|sa J J<|zE<|d4<|sm J J<|sm J J<|sa J J<|sa J J<|?_;refine zE<|?_;exact jt ⟨q,r,v,u%v⟩ ⟨hq.up,hr,by show Nat.gcd v (u%v)=_;rw[<-hgc,jV u,tW v u,jV]⟩ hm (.cons J (.cons J .nil)) J
structure IV where
 neg:Bool
 a:SV
def IV.v(z:IV):Value:= .agg ⟨[.bool z.neg, .slice z.a.a z.a.n z.a.c]⟩
def zv(neg:Bool)(u:Nat):Int:=if neg then-(u:Int) else u
def qb(neg:Bool)(u:Nat):(zv neg u).natAbs=u:=by cases neg<;>simp[zv]
def Yt(neg:Bool)(u:Nat):zv (!neg) u= -zv neg u:=by cases neg<;>simp[zv]
def Jt(n m:Bool)(u w:Nat):zv (n !=m) (u*w)=zv n u*zv m w:=by cases n<;>cases m<;>simp[zv,Int.neg_mul,Int.mul_neg]
def OL(neg:Bool)(u:Nat):decide (zv neg u<0)=(neg&&decide (0<u)):=by
 cases neg<;>simp[zv]
def lx(m:Int):zv (decide (m<0)) m.natAbs=m:=by
 unfold zv;by_cases h:m<0<;>simp[h]<;>omega
structure l8 (k:Nat) (G:Gh) (z:IV) (m:Int):Prop where
 neg:z.neg=decide (m<0)
 abs:fG k G z.a m.natAbs
def l8.up{k:Nat}{A G:Gh}{z:IV}{m:Int}(h:l8 k A z m)[GL A G]:l8 k G z m:=⟨h.neg,h.abs.up⟩
def SI(n:Bool)(u w:Nat):zv n (u+w)=zv n u+zv n w:=by cases n<;>simp[zv]<;>omega
def Fo(p:Int):IntKind.i64.wrap p=(p+9223372036854775808)%18446744073709551616-9223372036854775808:=by
 have e:IntKind.i64.wrap p=if(true&&decide (p%2^64>=2^(64-1)))=true then p%2^64-2^64 else p%2^64:=J
 rw[e,show(2:Int)^64=18446744073709551616 by decide,show(2:Int)^(64-1)=9223372036854775808 by decide,Bool.true_and];by_cases h:p%18446744073709551616>=9223372036854775808
 ·rw[decide_eq_true h,if_pos J];omega
 ·rw[decide_eq_false h,if_neg (by decide)];omega
structure RV where
 n:Int
 d:Int
 p:Option Addr
def RV.v(z:RV):Value:= .agg ⟨[.int .i64 z.n, .int .i64 z.d, .pointer z.p]⟩
structure Yu (z:RV) (q:Rat):Prop where
 p:z.p=none
 n:z.n=q.num
 d:z.d=(q.den:Int)-1
 b1:q.num.natAbs<4611686018427387904
 b2:q.den<4611686018427387904
structure W8 (k:Nat) (G:Gh) (z:RV) (q:Rat):Prop where
 n:z.n=0
 d:z.d=0
 ex: ∃(b:Nat) (x:IV) (y:SV),z.p=some ⟨b,0,none⟩/\G b=some [.bool x.neg, .slice x.a.a x.a.n x.a.c, .slice y.a y.n y.c]/\l8 k G x q.num/\fG k G y q.den
 no: ¬(q.num.natAbs<4611686018427387904/\q.den<4611686018427387904)
def vz(k:Nat)(G:Gh)(z:RV)(q:Rat):Prop:=q.num.natAbs<2^k/\q.den<2^k/\(Yu z q\/W8 k G z q)
def VP{neg:Bool}{u g:Nat}(h:g∣u):zv neg (u/g)=zv neg u/(g:Int):=by
 cases neg
 ·simp[zv]
 ·simp only[zv,if_true]
  rw[Int.neg_ediv_of_dvd (rK.2 h),pS]
def Jh{m:Int}{e:Nat}(he:0<e):(mkRat m e).num=m/((Nat.gcd m.natAbs e:Nat):Int)/\(mkRat m e).den=e/Nat.gcd m.natAbs e:=by
 rw[Rat.num_mkRat,Rat.den_mkRat,if_neg (by omega),if_neg (by omega),jV];exact⟨J,J⟩
def aBG{x:Nat}:(((bl x:Nat):Int)<=62)↔x<4611686018427387904:=by
 have:bl x<=62↔x<2^62:=ou;omega
structure aGB where
 x:SV
 y:SV
 ds:List Nat
 es:List Nat

def aop{G:Gh}{x y:Nat}(hx:x<18446744073709551616)(hy:y<18446744073709551616):Fn prog 359 [.int .u64 (x:Nat), .int .u64 (y:Nat)] G (fun v _=>v= .tuple #[.int .u64 ((x*y/18446744073709551616:Nat):Int), .int .u64 ((x*y%18446744073709551616:Nat):Int)]):=
 Fn.of_calls (G:=G) (J1 func359 J J) (fun w=>Tryz.bits_Mul64 x y hx hy w)
def P1(a b:Int):a*b=if(a<0)↔(b<0) then((a.natAbs*b.natAbs:Nat):Int) else-((a.natAbs*b.natAbs:Nat):Int):=by
 rcases(by omega:a<0\/0<=a) with h|h<;>rcases(by omega:b<0\/0<=b) with h2|h2
 ·rw[if_pos (by simp[h,h2]),jW,lY (pR h),lY (pR h2),Int.neg_mul_neg]
 ·rw[if_neg (by simp[h];omega),jW,lY (pR h),nS h2,Int.neg_mul,Int.neg_neg]
 ·rw[if_neg (by simp[h2];omega),jW,nS h,lY (pR h2),Int.mul_neg,Int.neg_neg]
 ·rw[if_pos (by constructor<;>intro<;>omega),jW,nS h,nS h2]
def YY{p:Int}(h:p.natAbs<9223372036854775808):IntKind.i64.wrap p=p:=by rw[Fo];omega

def Wf{n:Int}{d:Nat}(h:n<0):mkRat (-(d:Int)) n.natAbs=Rat.divInt (d:Int) n:=by
 rw[<-Rat.divInt_ofNat,lY (pR h),Rat.neg_divInt_neg]
def Mg{q:Rat}(h:q.num<0):(q⁻¹).num= -(q.den:Int)/\(q⁻¹).den=q.num.natAbs:=by
 rw[Rat.num_inv,Rat.den_inv,if_neg (by omega),fQ h];omega
def I6{q:Rat}(h:0<q.num):(q⁻¹).num=(q.den:Int)/\(q⁻¹).den=q.num.natAbs:=by
 rw[Rat.num_inv,Rat.den_inv,if_neg (by omega),fR h];omega
def CE{q:Rat}(h:q.den=1):q=(q.num:Int):=by
 conv=>lhs;rw[<-Rat.mkRat_self q,h,sV]
def cg(a b:Rat):Int:=if a<b then-1 else if b<a then 1 else 0
def Ht(a b:Rat):(a-b).num<0↔a<b:=by
 rw[<-Rat.not_le,Rat.le_iff_sub_nonneg,<-tV];omega
def L5(a b:Rat):0<(a-b).num↔b<a:=by
 have h:=Ht b a;have h2:(b-a).num= -(a-b).num:=by rw[<-mL,Rat.neg_sub]
 rw[h2] at h;rw[<-h];omega
def Cd(a b:Rat):Int.sign (a-b).num=cg a b:=by
 unfold cg;split
 ·rename_i h;exact fQ ((Ht a b).2 h)
 ·rename_i h
  split
  ·rename_i h2;exact fR ((L5 a b).2 h2)
  ·rename_i h2
   rw[<-Ht] at h;rw[<-L5] at h2;rw[show(a-b).num=0 by omega];rfl
def Oe{a b:Rat}(h:a.den=b.den):a<b↔a.num<b.num:=by
 rw[Rat.lt_iff,h];have:(0:Int)<b.den:=by have:=b.den_pos;omega
 exact⟨fun h2=>Int.lt_of_mul_lt_mul_right h2 (pR this),fun h2=>Int.mul_lt_mul_of_pos_right h2 this⟩
def vJ(a b:Rat):cg a b=0↔a=b:=by
 unfold cg;constructor
 ·intro h
  split at h
  ·omega
  ·rename_i h1
   split at h
   ·omega
   ·rename_i h2
    exact Rat.le_antisymm (rJ.1 h2) (rJ.1 h1)
 ·intro h
  subst h;rw[if_neg (rJ.2 gT),if_neg (rJ.2 gT)]
def N6(a b:Rat):0<cg a b↔b<a:=by
 unfold cg;constructor
 ·intro h
  split at h
  ·omega
  ·split at h
   ·assumption
   ·omega
 ·intro h
  rw[if_neg (fun h2=>rJ.2 (dS h) h2),if_pos h];decide
def Jy(a b:Rat):cg a b<0↔a<b:=by
 unfold cg;constructor
 ·intro h
  split at h
  ·assumption
  ·split at h<;>omega
 ·intro h
  rw[if_pos h];decide
def rgcd(a b:Rat):Rat:=mkRat ((Nat.gcd (a.num.natAbs*b.den) (b.num.natAbs*a.den):Nat):Int) (a.den*b.den)
def wn(a b:Int):rgcd a b=((Nat.gcd a.natAbs b.natAbs:Nat):Int):=by
 unfold rgcd;show mkRat ((Nat.gcd (a.natAbs*1) (b.natAbs*1):Nat):Int) (1*1)=_;rw[iL,iL,iL,sV]
def U8{a b m:Nat}(ha:a<m)(hb:b<m):Nat.gcd a b<m:=by
 rcases fX a with h|h
 ·rw[h,Nat.gcd_zero_left];exact hb
 ·exact gJ (Nat.gcd_le_left _ h) ha
structure LV where
 a:RV
 b:RV
 c:RV
def LV.v(z:LV):Value:= .agg ⟨[.int .i64 z.a.n, .int .i64 z.a.d, .pointer z.a.p, .int .i64 z.b.n, .int .i64 z.b.d, .pointer z.b.p, .int .i64 z.c.n, .int .i64 z.c.d, .pointer z.c.p]⟩
structure aa where
 a:Int
 b:Int
 c:Int
structure ED (k:Nat) (G:Gh) (z:LV) (l:aa):Prop where
 a:vz k G z.a (l.a:Rat)
 b:vz k G z.b (l.b:Rat)
 c:vz k G z.c (l.c:Rat)
def aa.ok(l:aa):Prop:= ¬(l.a=0/\l.b=0)/\Nat.gcd (Nat.gcd l.a.natAbs l.b.natAbs) l.c.natAbs=1
def okI(neg:Bool)(ds:List Nat):Prop:=eh ds/\(neg=true->ds≠[])
structure PV where
 x:RV
 y:RV
def PV.v(z:PV):Value:= .agg ⟨[.int .i64 z.x.n, .int .i64 z.x.d, .pointer z.x.p, .int .i64 z.y.n, .int .i64 z.y.d, .pointer z.y.p]⟩
structure ab where
 x:Rat
 y:Rat
structure IsP (k:Nat) (G:Gh) (z:PV) (p:ab):Prop where
 x:vz k G z.x p.x
 y:vz k G z.y p.y
def Ij(a:Int): -(a:Rat)=((-a:Int):Rat):=rfl
def aa.rev(l:aa):aa:=⟨-l.a, -l.b, -l.c⟩
def aa.nor(l:aa):ab:=⟨l.a,l.b⟩
def aa.dir(l:aa):ab:=⟨l.b, -(l.a:Rat)⟩
def ab.dot(p q:ab):Rat:=p.x*q.x+p.y*q.y
def ab.cross(p q:ab):Rat:=p.x*q.y-p.y*q.x
def ab.scale(p:ab)(c:Rat):ab:=⟨p.x*c,p.y*c⟩
def ab.add(p q:ab):ab:=⟨p.x+q.x,p.y+q.y⟩
def aa.value(l:aa)(p:ab):Rat:=l.nor.dot p+(l.c:Rat)
def aa.base(l:aa):ab:=l.nor.scale (-(l.c:Rat)/l.nor.dot l.nor)
def aa.at(l:aa)(t:Rat):ab:=l.base.add (l.dir.scale t)
end Go.Sx
end
section
namespace Go.Sx
open Go
def dU(d:Nat):DV:= .v (.int .u32 (d:Int))
def f5(ds:List Nat):DV:= .sl (ds.map dU)
def dN(n:Nat):DV:= .sl ((dg n).map dU)
def dD(n:Nat):DV:= .sl (if n=1 then [] else(dg n).map dU)
def eI(m:Int):DV:= .ag [.v (.bool (decide (m<0))),dN m.natAbs]
def eQ(q:Rat):DV:= .ag [.v (.bool (decide (q.num<0))),dN q.num.natAbs,dD q.den]
def eP(p:ab):DV:= .ag [.v (.bool (decide (p.x.num<0))),dN p.x.num.natAbs,dD p.x.den, .v (.bool (decide (p.y.num<0))),dN p.y.num.natAbs,dD p.y.den]
def eL(l:aa):DV:= .ag [.v (.bool (decide (l.a<0))),dN l.a.natAbs, .v (.bool (decide (l.b<0))),dN l.b.natAbs, .v (.bool (decide (l.c<0))),dN l.c.natAbs]
def eR(q:Rat):DV:= .ag [.v (.bool (decide (q.num<0))),dN q.num.natAbs,dN q.den]
def oo(p:ab):DV:= .ag [.v (.bool (decide (p.x.num<0))),dN p.x.num.natAbs,dN p.x.den, .v (.bool (decide (p.y.num<0))),dN p.y.num.natAbs,dN p.y.den]
def vI(n:Int):DV:= .v (.int .i64 n)
def vB(b:Bool):DV:= .v (.bool b)
def WA(n:Nat):dN n=f5 (dg n):=rfl
def aHh{ds:List Nat}(h:bm ds):f5 (trimD ds)=dN (dv ds):=by unfold f5 dN;rw[pI h]
def VU{ds:List Nat}{i:Nat}(h:i<ds.length):(ds.map dU)[i]? =some (dU (ds.getD i 0)):=by
 rw[fS,aX h,aK,aX h];rfl
def mE{ds:List Nat}{i:Nat}(h:i<ds.length):(ds.map dU)[(i:Int).toNat]? =some (dU (ds.getD i 0)):=by rw[bQ];exact VU h
def ue(ds:List Nat)(i d:Nat):(ds.map dU).set i (.v (.int .u32 (d:Int)))=(ds.set i d).map dU:=by rw[oR];rfl
def vC(n:Nat):List.replicate n (DV.v (.int .u32 0))=(List.replicate n 0).map dU:=by rw[List.map_replicate];rfl
def vq(ds:List Nat):ew 1 (ds.map dU):=fun d hd=>by
 obtain⟨n,_,rfl⟩:=bJ.1 hd;exact⟨rfl,rfl⟩
def ip(n:Nat)(i:Nat):(dg n).getD i 0<4294967296:=(eo n).2.1.get i
def wP:dg 0=[]:=by rw[dg,dif_pos J]
def zq:dg 1=[1]:=by rw[dg,dif_neg (by decide)];simp[wP]
def wv{n:Nat}:(dg n).length=0↔n=0:=by
 constructor
 ·intro h
  have:=(eo n).1;rw[bL h] at this;exact this.symm
 ·rintro rfl;rw[wP];rfl
def vh:dN 0= .sl []:=by unfold dN;rw[wP];rfl
def Bw{G:Gh}: ∀{ds:List Nat} {es:List Value},IsLs G (ds.map dU) es↔es=ds.map dI
 |[],es=>cG
 |d::t,es=>by
  rw[bS,aP];constructor
  ·rintro ⟨y,n,rfl,h1,h2⟩
   rw[aF.1 h1,Bw.1 h2];rfl
  ·rintro rfl
   exact⟨_,_,J,aF.2 J,Bw.2 J⟩
def NB{G:Gh}{ds:List Nat}{v:Value}:Is G (f5 ds) v↔ ∃x:SV,v= .slice x.a x.n x.c/\eB G 1 x (ds.map dI):=by
 unfold f5;rw[ij];constructor
 ·rintro ⟨s,x,es,rfl,h1,h2⟩
  have:=Bw.1 h2;subst this;refine⟨x,J,?_⟩;rcases yM (s:=1) h1 h2 (vq ds) with h|h
  ·rw[h] at h1⊢
   exact⟨h1.len,h1.cap, .inl J⟩
  ·subst h;exact h1
 ·rintro ⟨x,rfl,h⟩
  exact⟨1,x,_,J,h,Bw.2 J⟩
def HH{G:Gh}{n k:Nat}{v:Value}(hk:n<2^k):Is G (dN n) v↔ ∃x:SV,v= .slice x.a x.n x.c/\fG k G x n:=by
 rw[WA,NB];constructor
 ·rintro ⟨x,rfl,h⟩
  exact⟨x,J,⟨(eo n).2.1,h⟩,hk⟩
 ·rintro ⟨x,rfl,h⟩
  exact⟨x,J,h.d.sl⟩
def gq{ds:List Nat}{i:Int}{k:Nat}(hi:i=k)(h:k<ds.length):(ds.map dU)[i.toNat]? =some (dU (ds.getD k 0)):=by subst hi;exact mE h
class BN (n:Nat) (k:outParam Nat):Prop where h:n<2^k
class BI (m:Int) (k:outParam Nat):Prop where h:m.natAbs<2^k
class BQ (q:Rat) (k:outParam Nat):Prop where
 hn:q.num.natAbs<2^k
 hd:q.den<2^k
theorem BN.mono{n k k':Nat}(h:BN n k)(hk:k<=k'):BN n k':=⟨dJ h.h (bR (by decide) hk)⟩
def pf{a b i j:Nat}(h:a<2^i)(k:b<2^j):a*b<2^(i+j):=by rw[fT];exact nQ h k
def DI{a b i j:Nat}(h:a<2^i)(k:b<2^j):a+b<2^(i+j+1):=by
 have h1:2^i<=2^(i+j):=bR (by decide) (by omega);have h2:2^j<=2^(i+j):=bR (by decide) (by omega);rw[gX];omega
instance BN.mul (a b i j:Nat) [h:BN a i] [k:BN b j]:BN (a*b) (i+j):=⟨pf h.h k.h⟩
instance BN.add (a b i j:Nat) [h:BN a i] [k:BN b j]:BN (a+b) (i+j+1):=⟨DI h.h k.h⟩
instance BN.sub (a b i:Nat) [h:BN a i]:BN (a-b) i:=⟨by have:=h.h;omega⟩
instance BN.div (a b i:Nat) [h:BN a i]:BN (a/b) i:=⟨gJ (kR _ _) h.h⟩
instance BN.abs (m:Int) (i:Nat) [h:BI m i]:BN m.natAbs i:=⟨h.h⟩
instance BN.den (q:Rat) (i:Nat) [h:BQ q i]:BN q.den i:=⟨h.hd⟩
def Gk{a b i j:Nat}(h:a<2^i)(k:b<2^j):Nat.gcd a b<2^(i+j):=by
 have h1:2^i<=2^(i+j):=bR (by decide) (by omega);have h2:2^j<=2^(i+j):=bR (by decide) (by omega);rcases fX a with h0|h0
 ·subst h0;rw[Nat.gcd_zero_left];omega
 ·have:=Nat.gcd_le_left b h0;omega
instance BN.gcd (a b i j:Nat) [h:BN a i] [k:BN b j]:BN (Nat.gcd a b) (i+j):=⟨Gk h.h k.h⟩
instance BN.one:BN 1 1:=⟨by decide⟩
instance BN.zero:BN 0 0:=⟨by decide⟩
instance BI.mul (a b:Int) (i j:Nat) [h:BI a i] [k:BI b j]:BI (a*b) (i+j):=⟨by rw[iT];exact pf h.h k.h⟩
instance BI.add (a b:Int) (i j:Nat) [h:BI a i] [k:BI b j]:BI (a+b) (i+j+1):=⟨gJ (Int.natAbs_add_le a b) (DI h.h k.h)⟩
instance BI.sub (a b:Int) (i j:Nat) [h:BI a i] [k:BI b j]:BI (a-b) (i+j+1):=⟨gJ (Int.natAbs_sub_le a b) (DI h.h k.h)⟩
instance BI.neg (a:Int) (i:Nat) [h:BI a i]:BI (-a) i:=⟨by rw[iR];exact h.h⟩
instance BI.num (q:Rat) (i:Nat) [h:BQ q i]:BI q.num i:=⟨h.hn⟩
instance BI.nat (n:Nat) (i:Nat) [h:BN n i]:BI (n:Int) i:=⟨by rw[kQ];exact h.h⟩
def mz(q:Rat):0<q.den:=iV q.den_nz
theorem vU{m:Int}{d i:Nat}(hd:0<d)(h:m.natAbs<2^i)(k:d<2^i):BQ (mkRat m d) i:=by
 refine⟨?_,?_⟩
 ·rw[Rat.num_mkRat,if_neg (by omega)]
  have:=nU m (d.gcd m.natAbs:Nat);omega
 ·rw[Rat.den_mkRat,if_neg (by omega)]
  have:=kR d (d.gcd m.natAbs);omega
theorem BQ.mono{q:Rat}{k k':Nat}(h:BQ q k)(hk:k<=k'):BQ q k':=⟨dJ h.hn (bR (by decide) hk),dJ h.hd (bR (by decide) hk)⟩
def zR(p q:Rat):p*q=mkRat (p.num*q.num) (p.den*q.den):=by rw[Rat.mul_def,Rat.normalize_eq_mkRat]
def zi(p q:Rat):p+q=mkRat (p.num*q.den+q.num*p.den) (p.den*q.den):=by rw[Rat.add_def,Rat.normalize_eq_mkRat]
instance BQ.mul (p q:Rat) (i j:Nat) [h:BQ p i] [k:BQ q j]:BQ (p*q) (i+j):=by
 rw[zR];exact vU (jT (mz p) (mz q)) (BI.mul p.num q.num i j).h (pf h.hd k.hd)
instance BQ.add (p q:Rat) (i j:Nat) [h:BQ p i] [k:BQ q j]:BQ (p+q) (i+j+1):=by
 rw[zi];refine vU (jT (mz p) (mz q)) ?_ ?_
 ·have h1:=pf h.hn k.hd
  have h2:=pf k.hn h.hd;have h3:(p.num*q.den+q.num*p.den).natAbs<=(p.num*q.den).natAbs+(q.num*p.den).natAbs:=Int.natAbs_add_le ..;rw[iT,iT,kQ,kQ] at h3;rw[kX j i] at h2;rw[gX];omega
 ·have h1:=pf h.hd k.hd
  rw[gX];omega
instance BQ.neg (p:Rat) (i:Nat) [h:BQ p i]:BQ (-p) i:=⟨by rw[mL,iR];exact h.hn,by rw[pV];exact h.hd⟩
instance BQ.sub (p q:Rat) (i j:Nat) [h:BQ p i] [k:BQ q j]:BQ (p-q) (i+j+1):=by
 rw[Rat.sub_eq_add_neg];exact BQ.add p (-q) i j
instance BQ.ofInt (m:Int) (i:Nat) [h:BI m i]:BQ (m:Rat) (i+1):=by
 refine⟨?_,?_⟩
 ·rw[sL];have:=h.h;rw[gX];omega
 ·rw[qL];have:0<2^i:=fV (by decide);rw[gX];omega
end Go.Sx
end
section
namespace Go.Sx
open Go Go.Proofs Tryz
variable {GB:Gh}
def CP(p q:Int):Nat:=(BitVec.ofInt 32 p &&& BitVec.ofInt 32 q).toNat
def HJ(p q:Int):Nat:=(BitVec.ofInt 32 p ||| BitVec.ofInt 32 q).toNat
def Aq(p q:Int):Nat:=(BitVec.ofInt 32 p^^^BitVec.ofInt 32 q).toNat
def UW{ds:List Nat}{n:Nat}(h:0<n/\n<=ds.length)(hz:ds.getD (n-1) 0=0):trimD (ds.take n)=trimD (ds.take (n-1)):=by
 obtain⟨m,rfl⟩: ∃m,n=m+1:=⟨n-1,by omega⟩;rw[fJ (by omega),nX];rw[nX,aK,aX (by omega)] at hz;simp only[jS] at hz;rw[hz,Ox]
def UQ{ds:List Nat}{n:Nat}(h:n<=ds.length)(hz:0<n->ds.getD (n-1) 0≠0):trimD (ds.take n)=ds.take n:=by
 rcases fX n with h0|h0
 ·subst h0;simp[trimD]
 ·obtain⟨m,rfl⟩: ∃m,n=m+1:=⟨n-1,by omega⟩
  have hz:=hz h0;rw[fJ (by omega)];rw[nX,aK,aX (by omega)] at hz;exact Fd (by simpa using hz)
def UF{x y c:Nat}(hx:x<4294967296)(hy:y<4294967296)(hc:c<=1):PF GB prog 376 [.v (.int .u32 (x:Int)), .v (.int .u32 (y:Int)), .v (.int .u32 (c:Int))] (.tp [.v (.int .u32 (((x+y+c)%4294967296:Nat):Int)), .v (.int .u32 (((x+y+c)/4294967296:Nat):Int))]):=by
 refine fn (hv:=by simp only[ah];exact⟨⟨⟨⟨⟨by omega,by omega⟩,by omega⟩,by omega⟩,by omega⟩,(by decide)⟩) func376 J J ntmps376 J J (fun C=>?_);exact rz J (by
  have e1:((x:Int)+y+c)%4294967296=(((x+y+c)%4294967296:Nat):Int):=by omega
  have e2:((x:Int)+y+c).fdiv (2^min (32:Int).toNat IntKind.u64.bits)%4294967296=(((x+y+c)/4294967296:Nat):Int):=by
   rw[show(2:Int)^min (32:Int).toNat IntKind.u64.bits=((4294967296:Nat):Int) from J,iX _ (by decide)];omega
  show DV.tp [.v (.int _ _), .v (.int _ _)]=_;rw[e1,e2])
def Gi(n:Nat)(h:n<4294967296):(BitVec.ofInt 32 (n:Int)).msb=decide (2147483648<=n):=by
 rw[show BitVec.ofInt 32 (n:Int)=BitVec.ofNat 32 n from BitVec.ofInt_natCast ..];rw[BitVec.msb_eq_decide,BitVec.toNat_ofNat,fW (by simpa using h)]
def Sc(b:BitVec 32):b.toNat/2147483648=if b.msb then 1 else 0:=by
 have:=b.isLt;rw[BitVec.msb_eq_decide];simp only[decide_eq_true_eq,Nat.reduceSub,Nat.reducePow] at*;split<;>omega
def UR(b:BitVec 32):BitVec.ofInt 32 (b.toNat:Int)=b:=by rw[BitVec.ofInt_natCast,BitVec.ofNat_toNat,BitVec.setWidth_eq]
def arR{x y c:Nat}(hx:x<4294967296)(hy:y<4294967296)(hc:c<=1):
  ((HJ (CP (Aq IntKind.u32.max x:Nat) y:Nat) (CP (Aq IntKind.u32.max (Aq x y:Nat):Nat) (IntKind.u32.wrap (IntKind.u32.wrap ((x:Int)-y)-c)):Nat):Nat):Int).fdiv (2^min (31:Int).toNat IntKind.u32.bits)=(((if x<y+c then 1 else 0):Nat):Int):=by
 rw[show((2:Int)^min (31:Int).toNat IntKind.u32.bits)=((2147483648:Nat):Int) from J,iX _ (by decide),<-pS];congr 1;have hd: ∃d:Nat,d<4294967296/\IntKind.u32.wrap (IntKind.u32.wrap ((x:Int)-y)-c)=(d:Int)/\((x>=y+c/\d=x-(y+c))\/(x<y+c/\d=x+4294967296-(y+c))):=by
  rw[qh,qh];refine⟨((((x:Int)-y)%4294967296-c)%4294967296).toNat,by omega,by omega,by omega⟩
 obtain⟨d,hd1,hd2,hd3⟩:=hd;rw[hd2];unfold HJ CP Aq;simp only[UR];rw[Sc];simp only[BitVec.msb_or,BitVec.msb_and,BitVec.msb_xor,Gi x hx,Gi y hy,Gi d hd1];have h1:(BitVec.ofInt 32 IntKind.u32.max).msb=true:=by decide
 rw[h1];rcases jX x 2147483648 with a|a<;>rcases jX y 2147483648 with b|b<;>rcases jX d 2147483648 with e|e<;>
  simp[Nat.not_le.2, *]<;>(first|omega|(split<;>omega))
def Ut{x y c:Nat}(hx:x<4294967296)(hy:y<4294967296)(hc:c<=1):IntKind.u32.wrap (IntKind.u32.wrap ((x:Int)-y)-c)=(((if x<y+c then x+4294967296-(y+c) else x-(y+c)):Nat):Int):=by
 rw[qh,qh];split<;>omega
def aBg{x y c:Nat}(hx:x<4294967296)(hy:y<4294967296)(hc:c<=1):PF GB prog 377 [.v (.int .u32 (x:Int)), .v (.int .u32 (y:Int)), .v (.int .u32 (c:Int))] (.tp [.v (.int .u32 (((if x<y+c then x+4294967296-(y+c) else x-(y+c)):Nat):Int)), .v (.int .u32 (((if x<y+c then 1 else 0):Nat):Int))]):=by
 refine fn (fu:=⟨10⟩) func377 J J ntmps377 J J (fun C=>?_);refine sw (fu:=⟨1⟩) _ J (qh _).symm J<|sw (fu:=⟨6⟩) _ J (qh _).symm J<|nt (fu:=⟨4⟩) _ J J J<|xr (fu:=⟨0⟩) _ J J J<|nt _ J J J<|?_;exact rz J (by have h1:=arR hx hy hc;unfold HJ CP Aq at h1;show DV.tp [.v (.int _ _), .v (.int _ _)]=_;rw[h1,Ut hx hy hc])
def tg{ds:List Nat}(hl:ds.length<=1125899906842624):PF GB prog 248 [f5 ds] (f5 (trimD ds)):=by
 refine fn func248 J J ntmps248 J J (fun C=>?_);refine lp (X:=Nat) (fun n=>[(0, .d (f5 ds)),(3, .d (vI (n:Nat)))]) (fun n=>[]) (fun n=>n<=ds.length/\trimD ds=trimD (ds.take n)) (fun n=>n) ds.length J ⟨aN _,by rw[fY]⟩ (fun _=>J) (fun n hk=>?_);obtain⟨h1,h2⟩:=hk;refine cs 8 J J J (fun hg8=>?_) (fun hg8=>?_)
 .
  refine ix _ J (gq (k:=n-1) (by omega) (by omega)) J<|?_;refine br J J J (fun hc15=>?_) (fun hc15=>?_)
  .
   have hz:ds.getD (n-1) 0=0:=by omega
   exact at_ (n-1) ⟨⟨by omega,by rw[h2,UW (by omega) hz]⟩,(by omega)⟩
  .
   refine vS 0 n _ J J J J (vq _) (by omega) (by simp;omega) J<|?_;exact rz J (by have:=UQ h1 (fun _ h=>hc15 (by omega));rw[<-h2] at this;show DV.sl _=_;simp[f5,this])
 .
  refine vS 0 n _ J J J J (vq _) (by omega) (by simp;omega) J<|?_;exact rz rfl (by obtain rfl:n=0:=(by omega);show DV.sl _=_;simp[f5,h2,trimD])
end Go.Sx
end
