import Derived.Test.YtpiknjeceobbfaaGreatDoorMw8
set_option linter.all false
set_option maxHeartbeats 2000000
set_option maxRecDepth 100000
section
namespace Go.Sx
open Go Go.Proofs Tryz
def I'(p k a1 a2 E:Nat)(hk:k<32)(h1:a1<4294967296)(hp:p=2^k):(a1+4294967296*(a2+4294967296*E))/p=(a1+a2*4294967296)/p%4294967296+4294967296*((a2+4294967296*E)/p):=by
 subst hp;have hp0:0<(2:Nat)^k:=fN (by omega);have hB:4294967296=2^(32-k)*2^k:=by rw[<-gX,show 32-k+k=32 by omega]
 -- the quotient and the rest of the quotient by the base
 have hq:(a1+4294967296*(a2+4294967296*E))/2^k/4294967296=(a2+4294967296*E)/2^k:=by
  rw[Nat.div_div_eq_div_mul,bY (2^k),<-Nat.div_div_eq_div_mul,mS _ _ (by decide),lZ h1,cY]
 have hr:(a1+4294967296*(a2+4294967296*E))/2^k%4294967296=(a1+a2*4294967296)/2^k%4294967296:=by
  have e1:a1+4294967296*(a2+4294967296*E)=(a1+a2*4294967296)+2^k*(2^(32-k)*(4294967296*E)):=by
   rw[<-bV (2^k),bY (2^k) (2^(32-k)),<-hB];omega
  rw[e1,mS _ _ hp0];rw[show 2^(32-k)*(4294967296*E)=4294967296*(2^(32-k)*E) by rw[Nat.mul_left_comm]];rw[Nat.add_mul_mod_self_left]
 have h:=Nat.mod_add_div ((a1+4294967296*(a2+4294967296*E))/2^k) 4294967296;rw[hq,hr] at h;exact h.symm
def Aa(a:List Nat)(i:Nat):dv (a.drop i)=a.getD i 0+4294967296*dv (a.drop (i+1)):=by
 by_cases h:i<a.length
 ·rw[bL h,aV,aX h];rfl
 ·rw[fJ (by omega),fJ (by omega),su (by omega)];rfl
def Gd{a:List Nat}(ha:bj a)(k i:Nat)(hk:k<32):dv (a.drop i)/2^k=(a.getD i 0+a.getD (i+1) 0*4294967296)/2^k%4294967296+4294967296*(dv (a.drop (i+1))/2^k):=by
 rw[Aa a i,Aa a (i+1)];exact I' _ k _ _ _ hk (ha.get i) J
def IY{A G:Gh}{x:SV}{ds:List Nat}{k kk:Nat}(hx:bu A x ds)[GL A G](hk32:k<32)(hk:dv ds/2^k<2^kk)(hb:ds.length<=1125899906842):
  Fn prog 241 [x.v, .int .u64 (k:Int)] G (fun v G'=> ∃z:SV,v=z.v/\dt kk G' z (dv ds/2^k)):=by
 have htl:=ib ds;have hcall:=fun G1 (_:GL A G1)=>et (G:=G1) hx (by omega);have hxt:=hx.trim;rw[<-fh ds] at hk⊢;generalize trimD ds=a at*;have hok:=hxt.ok;refine Fn.intro func241 J J ntmps241 J ?_;intro C _ _;refine sR<|sa J J<|zE<|sR<|sm J J<|?_;refine sc (zC J J (hcall _ inferInstance) J ?_);rintro _ G1 _ rfl;refine sa J J<|zE<|bm<|sR<|sm J J<|sy (oo J J (by omega) (by omega) (by decide)) J<|sm J J<|bO J J<|sy (dC J) J<|?_;rw[show(k:Int)/32=0 by omega];refine sy (qc J J) J<|zE<|?_;refine er J (fun hc=>?_) (fun hc=>?_) -- slot 17
 ·refine sR<|sa J J<|zE<|c7<|?_
  have:a=[]:=bK (by omega);subst this;refine zD (.tmp J .nil) ⟨⟨none,0,0⟩,J,?_⟩;have e0:dv []/2^k=0:=by simp[dv]
  rw[e0];exact⟨by unfold dg;exact .nil _,fN (by omega)⟩
 refine zK<|sR<|sm J J<|sy (oo J J (by omega) (by omega) (by decide)) J<|sy (CT J) J<|sm J J<|sy (oC J J (by omega) (by decide)) J<|?_;rw[show(k:Int)/32=0 by omega,show(k:Int)%32=k by omega];refine sa J J<|sa J J<|zE<|sR<|sm J J<|bO J J<|sm J J<|sy (fe J J) J<|?_;refine sc (ma J J (by omega) (by omega) (by omega) (by rfl) J ?_);intro b2;rw[lz,show((a.length:Int)-0).toNat=a.length by omega];refine sa J J<|zE<|bm<|sR<|sm J J<|bO J J<|sm J J<|zE<|c6<|?_;refine gh (X:=Bo) (fun q=>[(30, .int .i64 q.i),(29, .int .i64 a.length),(0, .slice x.a a.length x.c),(5, .int .i64 0),(7, .slice (some ⟨b2,0,none⟩) a.length a.length),(6, .int .u64 k)])
  (fun q=>[⟨b2,q.ws.map dI,206,true⟩])
  (fun q _=>q.i<=a.length/\q.ws.length=a.length/\bj q.ws/\dv a/2^k=dv (q.ws.take q.i)+4294967296^q.i*(dv (a.drop q.i)/2^k)) (fun q=>a.length-q.i) ⟨List.replicate a.length 0,0⟩
  ⟨bS _,by simp, .replicate _,by simp[dv]⟩ (.cons J (.cons J (.cons J (.cons J (.cons J (.cons J .nil)))))) J ?_
 rintro ⟨ws,i⟩ Gy _ ⟨hia,hwl,hwo,hinv⟩;simp only[] at hia hwl hwo hinv⊢;refine sR<|sy (fB J J) J<|zE<|bm<|?_;refine f9 J (fun hc=>?_) (fun hc=>?_) -- slot 31
 ·have hin:i=a.length:=by omega
  refine eH<|cO<|cO<|e8<|sR<|sm J J<|?_;refine j0 b2 (.hd ..) (fun G3 _ hgb=>?_);have hD:bu G3 ⟨some ⟨b2,0,none⟩,a.length,a.length⟩ ws:= .of_block hwo hgb.h hwl.symm (bZ _) (by rw[aT (by simp)]);have hdv:dv a/2^k=dv ws:=by
   rw[hinv,hin,aT (by omega),iR];simp[dv]
  refine sc (zC J J (et hD (by omega)) J ?_);rintro _ G4 _ rfl;refine sa J J<|zE<|c7<|?_;refine zD (.tmp J .nil) ⟨⟨some ⟨b2,0,none⟩,(trimD ws).length,a.length⟩,J,?_⟩;have h3:=hD.trim.up (G:=G4);rw[hdv] at hk⊢;exact⟨by rw[jv hwo];exact h3,hk⟩
 have hia':i<a.length:=by omega
 have hga:=hok.get i;have hga2:=hok.get (i+1);refine zK<|bm<|c6<|sR<|sm J J<|sa J J<|zE<|sR<|sm J J<|sm J J<|sm J J<|sy (cP J J) J<|?_;refine sy (dP (z:=⟨x.a,a.length,x.c⟩) hxt J J (by omega) (by show((i:Int)+0)<(a.length:Nat);omega)) J<|?_;rw[show((i:Int)+0).toNat=i by omega];refine sy (dH hxt J (by omega)) J<|sy (dC J) J<|sa J J<|zE<|?_;refine pT Unit (fun _=>[(30, .int .i64 i),(8, .int .i64 i),(29, .int .i64 a.length),(0, .slice x.a a.length x.c),(5, .int .i64 0),(7, .slice (some ⟨b2,0,none⟩) a.length a.length),(6, .int .u64 k),(9, .int .u64 ((a.getD i 0+a.getD (i+1) 0*2^32:Nat):Int))]) (fun _=>[⟨b2,ws.map dI,206,true⟩]) (fun _ _=>True) ?_ ?_
 ·refine sR<|sm J J<|sm J J<|sy (cP J J) J<|sy (cP J J) J<|sm J J<|bO J J<|sy (fB J J) J<|?_
  refine zE<|?_;refine er J (fun hc2=>?_) (fun hc2=>?_) -- slot 46
  ·refine cv<|sm J J<|sm J J<|sm J J<|sm J J<|sy (cP J J) J<|sy (cP J J) J<|sy (dP (z:=⟨x.a,a.length,x.c⟩) hxt J J (by omega) (by show((i:Int)+0+1)<(a.length:Nat);omega)) J<|?_
   rw[show((i:Int)+0+1).toNat=i+1 by omega];refine sy (dH hxt J (by omega)) J<|sy (dC J) J<|sy (nn J J (by decide)) J<|?_;rw[pY (a.getD (i+1) 0) 32 (by decide) (by omega) J];refine sy (en J J (DS (a.getD i 0) (a.getD (i+1) 0) 32 (by omega) (by omega))) J<|sa J J<|zE<|?_;exact jw () trivial (.cons J (.cons J (.cons J (.cons J (.cons J (.cons J (.cons J (.cons J .nil)))))))) J
  refine zK<|?_;have h0:a.getD (i+1) 0=0:=su (by omega);exact jw () trivial (.cons J (.cons J (.cons J (.cons J (.cons J (.cons J (.cons J (.cons (by rw[h0,jX,dQ];rfl) .nil)))))))) J
 rintro _ Gz _ _;refine cv<|sm J J<|sm J J<|sm J J<|sm J J<|sy (gq J J (by omega)) J<|?_;rw[lP _ k (by omega) (bJ k)];refine sy (fq J) J<|sy (dF J J (by omega) (by omega)) J<|?_;rw[bJ];refine sc (gl (d:=(a.getD i 0+a.getD (i+1) 0*2^32)/2^k%4294967296) J J (by rw[lX];rfl) (.hd ..) (by omega) J ?_);refine zE<|cv<|sy (cP J J) J<|sm J J<|zE<|?_;refine eG ⟨ws.set i ((a.getD i 0+a.getD (i+1) 0*2^32)/2^k%4294967296),i+1⟩ ⟨by show i+1<=_;omega,by simp[hwl],hwo.set _ (cM _ (by decide)),?_⟩ (by show a.length-(i+1)<a.length-i;omega) (.cons J (.cons J (.cons J (.cons J (.cons J (.cons J .nil)))))) J;show dv a/2^k=dv ((ws.set i ((a.getD i 0+a.getD (i+1) 0*2^32)/2^k%4294967296)).take (i+1))+4294967296^(i+1)*(dv (a.drop (i+1))/2^k);rw[hinv,qz (by omega),Gd hok k i hk32,lu i,cZ,bV,kZ]
def Lz{V n:Nat}(h1:4294967296^(n-1)<=V)(h2:V<4294967296^n)(hn:0<n):(dg V).length=n:=by
 obtain⟨e,hk,hr⟩:=dB V;have hne:dg V≠[]:=fun h=>by
  rw[h] at e;have:0<4294967296^(n-1):=fN (by decide);simp[dv] at e;omega
 have h3:=nD hr hne;have h4:=iv hk;rw[e] at h3 h4;have h5:=(jW (a:=4294967296) (by decide)).1 (eX h3 h2);have h6:=(jW (a:=4294967296) (by decide)).1 (eX h1 h4);omega
def H5{t s:Nat}(h0:0<t)(ht:t<4294967296)(hs:s=32-bl t):s<32/\2147483648<=t*2^s/\(t+1)*2^s<=4294967296:=by
 have h1:bl t<=32:=jc.2 ht;have h2:bl t≠0:=fun h=>by
  have:=r8 t;rw[h] at this;omega
 have h3:=r8 t;have h4: ¬t<2^(bl t-1):=fun h=>by
  have:=jc.2 h;omega
 have e1:2^(bl t-1)*2^s=2147483648:=by rw[<-gX,show bl t-1+s=31 by omega]
 have e2:2^bl t*2^s=4294967296:=by rw[<-gX,show bl t+s=32 by omega]
 refine⟨by omega,?_,?_⟩
 ·rw[<-e1];exact aM _ (by omega)
 ·rw[<-e2];exact aM _ h3
def ET{us:List Nat}(h:bj us)(i:Nat)(hd:us.length=i+1):dv us=us.getD i 0*4294967296^i+dv (us.take i):=by
 have h0:dv (us.drop (i+1))=0:=by rw[fJ (by omega)];rfl
 rw[o5 us i,n7 us i,h0,mJ,bY];rfl
def BX{b:List Nat}(h:cG b)(i:Nat)(hi:b.length=i+1):0<b.getD i 0:=by
 rcases dJ (b.getD i 0) with h0|h0
 ·exfalso
  apply h;rw[List.getLast?_eq_getElem?,hi,show i+1-1=i from J];rw[List.getD,aX (by omega)] at h0;rw[aX (by omega)];simpa using h0
 ·exact h0
def GJ(a:List Nat)(k:Nat):dv (a++List.replicate k 0)=dv a:=by rw[oR,ry];simp
structure FR where
 us:List Nat
 qs:List Nat
 j:Nat
structure I0 where
 g:Nat
 r:Nat
structure Dh where
 ws:List Nat
 k:Nat
 bo:Nat
 c:Nat
def Jg{P:Program}{t:TypeId}(c:Nat)(h:c<18446744073709551616)(w:World):(binOp .and t (.int .u64 (c:Int)) (.int .u64 4294967295)).run P w= .ok (.int .u64 ((c%4294967296:Nat):Int)) w:=by
 have h1:(BitVec.ofInt 64 (c:Int) &&& BitVec.ofInt 64 4294967295).toNat=c%4294967296:=by
  rw[BitVec.toNat_and,BitVec.ofInt_natCast,BitVec.toNat_ofNat,eY (by omega),show(BitVec.ofInt 64 4294967295).toNat=2^32-1 from J,Nat.and_two_pow_sub_one_eq_mod]
 have h2:IntKind.u64.wrap ((c%4294967296:Nat):Int)=((c%4294967296:Nat):Int):=by rw[ip];omega
 simp only[binOp];show(Op.intBits .and .u64 (c:Int) 4294967295).run P w=_;unfold Op.intBits;show(pure (Value.int .u64 (IntKind.u64.wrap ((BitVec.ofInt 64 (c:Int) &&& BitVec.ofInt 64 4294967295).toNat:Int))):Sem Value).run P w=_;rw[h1,h2,run_pure]
def ll(u m bo:Nat):Nat:=if m+bo<=u then u-(m+bo) else u+18446744073709551616-(m+bo)
def sub2(u m bo:Nat)(hu:u<4294967296)(hm:m<4294967296)(hb:bo<=1):IntKind.u64.wrap (IntKind.u64.wrap ((u:Int)-(m:Int))-(bo:Int))=((ll u m bo:Nat):Int):=by
 rw[ip,ip];unfold ll;split<;>omega
def CL(u m bo:Nat)(hu:u<4294967296)(hm:m<4294967296)(hb:bo<=1):ll u m bo%4294967296+(m+bo)=u+ll u m bo/9223372036854775808*4294967296/\ll u m bo/9223372036854775808<=1/\ll u m bo<18446744073709551616:=by
 unfold ll;split<;>omega
def GC{A B G:Gh}{x y:SV}{a b:List Nat}{k1 k2:Nat}(hx:bu A x a)(hy:bu B y b)[GL A G][GL B G](hna:cG a)(hnb:cG b)(hb2:2<=b.length)(hle:dv b<=dv a)
  (hq:dv a/dv b<2^k1)(hr:dv a%dv b<2^k2)(hl:a.length<=112589990684):
  Fn prog 218 [x.v,y.v] G (fun v G'=> ∃z r:SV,v= .tuple #[z.v,r.v]/\dt k1 G' z (dv a/dv b)/\dt k2 G' r (dv a%dv b)):=by
 have hxl:=hx.len;have hyl:=hy.len;obtain⟨n,hn⟩: ∃n,b.length=n+2:=⟨b.length-2,by omega⟩;have hbp:0<dv b:=iQ fun h=>by
  rw[HB hnb] at h;rw[h] at hn;simp at hn
 have hnm:b.length<=a.length:=by
  rcases iX a.length b.length with h|h
  ·have:=oH hx.ok hnb h
   omega
  ·exact h
 have htp:=BX hnb (n+1) hn;have htl:=hy.ok.get (n+1);have hbv:=ET hy.ok (n+1) hn;have hbt:=rW hy.ok (n+1);obtain⟨s,hs⟩: ∃s,s=32-bl (b.getD (n+1) 0):=⟨_,rfl⟩;obtain⟨hs32,hs1,hs2⟩:=H5 htp htl hs;have hble:bl (b.getD (n+1) 0)<=32:=jc.2 htl;have hpn:0<4294967296^(n+1):=fN (by decide);have hps:0<2^s:=fN (by decide);have hV1:2147483648*4294967296^(n+1)<=dv b*2^s:=by
  refine dS (aM _ hs1) ?_;rw[bV,bY (2^s),<-bV];exact aM _ (by omega)
 have hV2:dv b*2^s<4294967296^(n+2):=by
  refine cN (kV (k:=2^s) (m:=(b.getD (n+1) 0+1)*4294967296^(n+1)) (by rw[cJ,kT];omega) hps) ?_;rw[bV,bY (4294967296^(n+1)),<-bV,lu (n+1),bY _ 4294967296];exact aM _ hs2
 have hVl:(dg (dv b*2^s)).length=n+2:=Lz (by show 4294967296^(n+1)<=_;omega) hV2 (by omega);have hal:=iv hx.ok;have hU2:dv a*2^s<4294967296^(a.length+1):=by
  rw[lu];exact Nat.mul_lt_mul'' hal (cN (Nat.pow_lt_pow_right (by decide) hs32) (by decide))
 have hUl1:(dg (dv a*2^s)).length<=a.length+1:=by
  have h1:=AL (dB (dv a*2^s)).2.2 (k:=32*(a.length+1)) (by rw[(dB _).1,mU];exact hU2);omega
 have hUl0:a.length<=(dg (dv a*2^s)).length:=by
  have hane:a≠[]:=fun h=>by
   have:=congrArg List.length h;simp only[gM] at this;omega
  have h1:=nD hna hane;have h2:=iv (dB (dv a*2^s)).2.1;rw[(dB _).1] at h2;have h3:dv a<=dv a*2^s:=Nat.le_mul_of_pos_right _ hps;have h4:=(jW (a:=4294967296) (by decide)).1 (eX (dS h1 h3) h2);omega
 have hU3:dv a*2^s<dv b*2^s*4294967296^(a.length-n-1):=by
  have h1:4294967296^(n+1)*4294967296^(a.length-n-1)=4294967296^a.length:=by rw[<-gX,show n+1+(a.length-n-1)=a.length by omega]
  refine cN (kV hal hps) (dS (eK _ (bW (by decide) (show s<=31 by omega))) ?_);rw[<-h1,bY,<-bV];exact aM _ hV1
 have hta:=CG hna;have htb:=CG hnb;refine Fn.intro func218 J J ntmps218 J ?_;intro C _ _;refine sR<|sa J J<|sa J J<|zE<|IG<|sR<|sm J J<|sm J J<|bO J J<|sy (fe J J) J<|?_;refine sy (dP hy J J (by omega) (by omega)) J<|?_;rw[show((y.n:Int)-1).toNat=n+1 by omega];refine sy (dH hy J (by omega)) J<|?_;refine sc (zC J J (z6 htl) J ?_);rintro _ G1 _ rfl;refine sy (dC J) J<|?_;rw[show(32-(bl (b.getD (n+1) 0):Int))=(s:Int) by omega];refine sa J J<|zE<|sR<|sm J J<|sm J J<|?_;refine sc (zC J J (BF (kk:=32*(a.length+1)) hx hs32 (by rw[mU];exact hU2) (by omega)) J ?_);rintro _ G2 _ ⟨u,rfl,hu,huc⟩;have hul:=hu.len;rw[hta] at huc;refine sc (tu (by rfl) (by rfl) (by rfl) (by rfl) J ?_);intro b3;refine sc (tv (z:= .int .u32 0) (m:=2) J J (DB hu.d) (Ag inferInstance J) (by omega) (by decide) (by omega) J ?_);intro b4 cap h1;have ecs:(dg (dv a*2^s)).map dI++[Value.int .u32 0, .int .u32 0]++cI (.int .u32 0) (cap-(u.n+2))=(dg (dv a*2^s)++List.replicate (cap-u.n) 0).map dI:=by
  rw[lz,show cap-u.n=(cap-(u.n+2))+1+1 by omega,eJ,eJ];simp[dI]
 rw[ecs];clear ecs;have hus:dv (dg (dv a*2^s)++List.replicate (cap-u.n) 0)=dv a*2^s:=by rw[GJ,(dB _).1]
 have huo:bj (dg (dv a*2^s)++List.replicate (cap-u.n) 0):=(dB _).2.1.append (.replicate _);have hulen:(dg (dv a*2^s)++List.replicate (cap-u.n) 0).length=cap:=by simp;omega
 generalize dg (dv a*2^s)++List.replicate (cap-u.n) 0=us0 at hus huo hulen⊢;refine sm J J<|bO J J<|sy (cP J J) J<|sy (pH J J (by omega) (by omega)) J<|sa J J<|zE<|sR<|sm J J<|?_;refine sm J J<|?_;refine sc (zC J J (BF (kk:=32*(n+2)) hy hs32 (by rw[mU];exact hV2) (by omega)) J ?_);rintro _ G4 _ ⟨v,rfl,hv,_⟩;have hvl:=hv.len;obtain⟨hvv,hvo,hvn⟩:=dB (dv b*2^s);replace hv:=hv.d;rw[hVl] at hvl;generalize hvs:dg (dv b*2^s)=vs at*;refine sa J J<|zE<|sR<|sm J J<|bO J J<|sa J J<|zE<|bm<|dr (fun _=>false) [(0,true),(1,true),(2,true),(3,true),(4,true),(5,true),(6,true),(7,true),(8,true),(9,true),(10,true),(11,true),(12,true),(13,true)] follows (by kernel_rfl)<|?_;refine dM J J J<|dM J J J<|dy J (fun _=>fe J J (by omega) (by omega)) J J<|dy J (fun _=>dP hv J J (by omega) (by omega)) J J<|?_;rw[show((v.n:Int)-1).toNat=n+1 by omega];have hvt:=hvo.get (n+1);have hv2:=hvo.get n;refine dy J (fun _=>dH hv J (by omega)) J J<|dy J (fun _=>dC J (by omega) (by omega)) J J<|dM J J J<|dM J J J<|?_;refine dy J (fun _=>fe J J (by omega) (by omega)) J J<|dy J (fun _=>dP hv J J (by omega) (by omega)) J J<|?_;rw[show((v.n:Int)-2).toNat=n by omega];refine dy J (fun _=>dH hv J (by omega)) J J<|?_;refine dy J (fun _=>dC J (by omega) (by omega)) J J<|dA J J J<|dA J J J<|dn<|sR<|sm J J<|?_;refine bO J J<|sm J J<|sy (fe J J) J<|?_;obtain⟨l,hlq⟩: ∃l,a.length=n+1+l:=⟨a.length-n-1,by omega⟩;rw[show a.length-n-1=l by omega] at hU3;rw[show(((x.n:Int)+1).toNat:Int)-v.n=(l:Nat) by omega,show((x.n:Int)+1).toNat=a.length+1 by omega]
 refine sc (ma J J (by omega) (by omega) (by omega) (by rfl) J ?_);intro b5;rw[lz,bJ];refine GA [_,_] (.cons_cons _ (.cons_cons _ (.cons _ .slnil))) ?_;refine sa J J<|zE<|bm<|GS<|bm<|sR<|sm J J<|bO J J<|sy (fe J J) J<|sa J J<|zE<|c6<|?_;refine gh (X:=FR) (fun q=>[(13, .int .i64 ((q.j:Int)-1)),(7, .slice (some ⟨b4,0,none⟩) (a.length+1) cap),(9, .int .i64 v.n),(10, .int .u64 (vs.getD (n+1) 0:Nat)),(11, .int .u64 (vs.getD n 0:Nat)),(8, .slice v.a v.n v.c),(12, .slice (some ⟨b5,0,none⟩) l l),(6, .int .u64 s)])
  (fun q=>[⟨b5,q.qs.map dI,206,true⟩,⟨b4,q.us.map dI,206,true⟩])
  (fun q _=>q.us.length=cap/\bj q.us/\q.qs.length=l/\bj q.qs/\q.j<=l/\(∀i,i<q.j->q.qs.getD i 0=0)/\dv a*2^s=dv q.us+dv vs*dv q.qs/\dv q.us<dv vs*4294967296^q.j) (fun q=>q.j) ⟨us0,List.replicate l 0,l⟩
  ⟨hulen,huo,by simp, .replicate _,bZ _,fun i _=>by simp[List.getD,List.getElem?_replicate];split<;>rfl,by simp only[ry];omega,by simp only[hus,hvv];exact hU3⟩ (.cons J (.cons J (.cons J (.cons J (.cons J (.cons J (.cons J (.cons J .nil)))))))) J ?_
 rintro ⟨us,qs,j⟩ Gx _ ⟨hul2,huo2,hql,hqo,hjl,hq0,hinv,hlt⟩;simp only[] at hul2 huo2 hql hqo hjl hq0 hinv hlt⊢;refine bm<|sR<|sm J J<|sy (qc J J) J<|zE<|?_;refine f9 J (fun hc=>?_) (fun hc=>?_) -- slot 68
 ·have hj0:j=0:=by omega
  subst hj0;refine eH<|cO<|cO<|e8<|bm<|?_;refine j0 b5 (.hd ..) (fun G5 _ hgb5=>?_);refine j0 b4 (.hd ..) (fun G6 _ hgb4=>?_);refine dr (fun _=>false) [(0,true),(2,true),(3,true),(4,true),(5,true),(1,false),(6,false),(7,true),(8,true)] follows (by kernel_rfl)<|?_;have hDq:bu G6 ⟨some ⟨b5,0,none⟩,l,l⟩ qs:= .of_block hqo (hgb5.up (G:=G6)) hql.symm (bZ _) (by rw[aT (by simp)]);have hut:dv (us.take (n+2))=dv us:=by
   have h0:=o5 us (n+2);rw[rj (by rw[Nat.pow_zero,iT,hvv] at hlt;omega)] at h0;omega
  have hDu:bu G6 ⟨some ⟨b4,0,none⟩,n+2,cap⟩ (us.take (n+2)):= .of_block (huo2.take _) hgb4.h (by simp;omega) (by omega) (by rw[List.map_take,bR,dT (by omega)]);have hV0:0<dv vs:=by rw[hvv];exact iV hbp hps
  rw[Nat.pow_zero,iT] at hlt;have hdq:dv a/dv b=dv qs:=by
   rw[<-Nat.mul_div_mul_right _ _ hps,hinv,<-hvv,mS _ _ hV0,lZ hlt,cY]
  have hdr:dv a%dv b=dv (us.take (n+2))/2^s:=by
   have:dv us=dv a%dv b*2^s:=by
    rw[<-Nat.mul_mod_mul_right,hinv,<-hvv,Nat.add_mul_mod_self_left,eY hlt]
   rw[hut,this,Nat.mul_div_cancel _ hps]
  refine dM J J J<|dM J J J<|dM J J J<|dy J (fun _=>pH J J (by omega) (by omega)) J J<|?_;rw[show(v.n:Int).toNat=n+2 by omega];refine dM J J J<|?_;refine dc J J (zC J J (et hDq (by omega)) J ?_);rintro _ G7 _ rfl;refine Dq<|?_;refine dc J J (zC J J (IY (kk:=k2) hDu hs32 (by rw[<-hdr];exact hr) (by simp;omega)) J ?_);rintro _ G8 _ ⟨r,rfl,hr8⟩;refine Dq<|dA J J J<|dA J J J<|dn<|c7<|?_;refine zD (.tmp J (.tmp J .nil)) ⟨⟨some ⟨b5,0,none⟩,(trimD qs).length,l⟩,r,J,?_,?_⟩
  ·rw[hdq]
   refine⟨?_,by rw[<-hdq];exact hq⟩;rw[jv hqo];exact hDq.trim.up
  ·rw[hdr];exact hr8
 obtain⟨i,rfl⟩: ∃i,j=i+1:=⟨j-1,by omega⟩;rw[show(((i+1:Nat):Int)-1)=i by omega];have hpi:0<4294967296^i:=fN (by decide)
 -- the digits that the guess looks at
 obtain⟨p,hp⟩: ∃p,p=4294967296^(i+n):=⟨_,rfl⟩;obtain⟨V,hV⟩: ∃V,V=dv vs*4294967296^i:=⟨_,rfl⟩;have hvB:dv vs<4294967296^(n+2):=by rw[hvv];exact hV2
 have hvh:=JH hvo n hvB;have hltV:dv us<V*4294967296:=by rw[hV,bV,<-lu];exact hlt
 have hV0:0<V:=by rw[hV];exact iV (by rw[hvv];exact iV hbp hps) hpi
 have hT0:0<vs.getD (n+1) 0:=BX hvn (n+1) hVl;have hVp:V=(vs.getD (n+1) 0*4294967296+vs.getD n 0)*p+dv (vs.take n)*4294967296^i:=by
  rw[hV,hvh,cJ,hp,gX,bY (4294967296^i),bV]
 have hv0:dv (vs.take n)*4294967296^i<p:=by
  rw[hp,gX,bY];exact Nat.mul_lt_mul_of_pos_left (rW hvo n) hpi
 have hM:dv us<4294967296^(i+n+3):=by
  refine cN hlt ?_;rw[show i+n+3=(n+2)+(i+1) by omega,gX 4294967296 (n+2) (i+1)];exact aM _ (kL hvB)
 have huh:=GT huo2 (i+n) hM;rw[<-hp] at huh;have hu0:=rW huo2 (i+n);rw[<-hp] at hu0;have hg0:=huo2.get (i+n);have hg1:=huo2.get (i+n+1);have hg2:=huo2.get (i+n+2);refine zK<|bm<|c6<|bm<|dr (fun _=>false) [(0,true),(1,true),(2,true),(3,true),(4,true),(5,true),(6,true),(7,true),(8,true),(9,true),(10,true),(11,true),(12,true),(13,true),(14,true),(15,true),(16,true),(17,true)] follows (by kernel_rfl)<|?_;refine dM J J J<|dM J J J<|dM J J J<|dy J (fun _=>cP J J (by omega) (by omega)) J J<|?_;refine dy J (fun _=>dF J J (by omega) (by omega)) J J<|?_;rw[show((i:Int)+(v.n:Int)).toNat=i+n+2 by omega];refine dy J (fun _=>jG J (by omega)) J J<|dy J (fun _=>dC J (by omega) (by omega)) J J<|dy J (fun _=>nn J J (by decide)) J J<|?_;rw[pY (us.getD (i+n+2) 0) 32 (by decide) (by omega) J];refine dM J J J<|dM J J J<|dM J J J<|dy J (fun _=>cP J J (by omega) (by omega)) J J<|?_;refine dy J (fun _=>fe J J (by omega) (by omega)) J J<|dy J (fun _=>dF J J (by omega) (by omega)) J J<|?_;rw[show((i:Int)+(v.n:Int)-1).toNat=i+n+1 by omega];refine dy J (fun _=>jG J (by omega)) J J<|?_;refine dy J (fun _=>dC J (by omega) (by omega)) J J<|dy J (fun _=>en J J (tD (us.getD (i+n+1) 0) (us.getD (i+n+2) 0) 32 (by omega) (by omega))) J J<|dA J J J<|dn<|bm<|?_;obtain⟨f,hf⟩: ∃f,f=us.getD (i+n+2) 0*4294967296+us.getD (i+n+1) 0:=⟨_,rfl⟩;rw[show us.getD (i+n+1) 0+us.getD (i+n+2) 0*2^32=f by omega];rw[<-hf] at huh;have hfB:f<18446744073709551616:=by omega
 refine dr (fun _=>false) [(0,true),(1,true),(2,true),(3,true),(4,true),(5,true),(6,true),(7,true)] follows (by kernel_rfl)<|?_;refine dM J J J<|dM J J J<|dy J (fun _=>oo J J (by omega) (by omega) (by omega)) J J<|dM J J J<|dM J J J<|?_;refine dy J (fun _=>oC J J (by omega) (by omega)) J J<|dA J J J<|dA J J J<|dn<|?_;rw[show((f:Int)/((vs.getD (n+1) 0:Nat):Int))=((f/vs.getD (n+1) 0:Nat):Int) by rfl,show((f:Int)%((vs.getD (n+1) 0:Nat):Int))=((f%vs.getD (n+1) 0:Nat):Int) by rfl]
 -- GUESS
 have hUle:(f*4294967296+us.getD (i+n) 0)*p<=dv us:=by omega
 have hUlt:dv us<(f*4294967296+us.getD (i+n) 0+1)*p:=by rw[cJ _ 1,kT];omega
 have hVle:(vs.getD (n+1) 0*4294967296+vs.getD n 0)*p<=V:=by rw[hVp];exact lJ _ _
 have hfT:f<=vs.getD (n+1) 0*4294967296+vs.getD n 0:=Jq hUle hVp hv0 hltV;refine pT Nat (fun g=>[(15, .int .u64 (g:Nat)),(13, .int .i64 i),(7, .slice (some ⟨b4,0,none⟩) (a.length+1) cap),(9, .int .i64 v.n),(10, .int .u64 (vs.getD (n+1) 0:Nat)),(11, .int .u64 (vs.getD n 0:Nat)),(8, .slice v.a v.n v.c),(12, .slice (some ⟨b5,0,none⟩) l l),(6, .int .u64 s)]) (fun _=>[⟨b5,qs.map dI,206,true⟩,⟨b4,us.map dI,206,true⟩]) (fun g _=>g<4294967296/\dv us<(g+1)*V/\g*V<dv us+V) ?_ ?_
 ·refine c6<|?_
  refine gh (X:=I0) (fun q=>[(15, .int .u64 q.g),(16, .int .u64 q.r),(13, .int .i64 i),(7, .slice (some ⟨b4,0,none⟩) (a.length+1) cap),(9, .int .i64 v.n),(10, .int .u64 (vs.getD (n+1) 0:Nat)),(11, .int .u64 (vs.getD n 0:Nat)),(8, .slice v.a v.n v.c),(12, .slice (some ⟨b5,0,none⟩) l l),(6, .int .u64 s)]) (fun _=>[⟨b5,qs.map dI,206,true⟩,⟨b4,us.map dI,206,true⟩]) (fun q _=>f=q.g*vs.getD (n+1) 0+q.r/\q.r<4294967296/\dv us<(q.g+1)*V) (fun q=>q.g) ⟨f/vs.getD (n+1) 0,f%vs.getD (n+1) 0⟩
   ⟨(Nat.div_add_mod' ..).symm,kN (cM _ hT0) hvt,Ml hUlt hg0 hVle hT0⟩ (.cons J (.cons J (.cons J (.cons J (.cons J (.cons J (.cons J (.cons J (.cons J (.cons J .nil)))))))))) J ?_
  rintro ⟨g,r⟩ Gy _ ⟨hfg,hrB,hlo⟩;simp only[] at hfg hrB hlo⊢;have hgT:g*1<=g*vs.getD (n+1) 0:=eK _ hT0;refine bm<|sR<|sm J J<|sy (gq J J (by decide)) J<|?_;rw[lP g 32 (by decide) J];refine sy (nO J J) J<|sm J J<|?_;refine q9 97 J (fun hg=>?_) (fun hg=>?_)
  ·have hgB:4294967296<=g:=by omega
   have hdec:dv us<g*V:=cN hltV (by rw[bY];exact aM _ hgB);refine ss J J J J<|ss J J J J<|ss J J J J<|ss J J J J<|ss J J J J<|ss J J J J<|ss J J J J<|ss J J J J<|ss J J J J<|?_;refine ss J J J J<|ss J J J J<|ss J J J J<|ss J J J J<|ss J J J J<|ss J J J J<|sy (qg J J) J<|zE<|xz J<|?_;refine zK<|c6<|?_;obtain⟨g',rfl⟩: ∃g',g=g'+1:=⟨g-1,by rcases dJ g with h|h;(rw[h,jX] at hdec;omega);omega⟩;refine sR<|sm J J<|sy (C4 J J (by omega) (by omega)) J<|sa J J<|zE<|sR<|sm J J<|sm J J<|sy (km J J) J<|?_;refine sa J J<|zE<|sR<|sm J J<|sy (gq J J (by decide)) J<|?_;rw[show((g'+1:Nat):Int)-1=(g':Nat) by omega,show((r:Int)+((vs.getD (n+1) 0:Nat):Int))=((r+vs.getD (n+1) 0:Nat):Int) from J,lP (r+vs.getD (n+1) 0) 32 (by decide) J];have hfg':f=g'*vs.getD (n+1) 0+(r+vs.getD (n+1) 0):=by rw[hfg,cJ,kT];omega
   refine sy (nO J J) J<|zE<|?_;refine er J (fun hc3=>?_) (fun hc3=>?_) -- slot 121
   ·have hr3:4294967296<=r+vs.getD (n+1) 0:=by omega
    have hgB:g'<4294967296:=by
     rcases iX g' 4294967296 with h|h
     ·exact h
     ·have:=aM (vs.getD (n+1) 0) h
      omega
    have hgS:g'*vs.getD n 0<=(r+vs.getD (n+1) 0)*4294967296+us.getD (i+n) 0:=by
     have h1:=kU (kL hgB) (kL hv2);omega
    refine eH<|A8 J<|cO<|e8<|?_;exact jw g' ⟨hgB,hdec,vd hUle hVp hv0 hT0 hfg' hgB hgS⟩ (.cons J (.cons J (.cons J (.cons J (.cons J (.cons J (.cons J (.cons J (.cons J .nil))))))))) J
   refine zK<|?_;exact eG ⟨g',r+vs.getD (n+1) 0⟩ ⟨hfg',by show r+vs.getD (n+1) 0<_;omega,hdec⟩ (by show g'<g'+1;omega) (.cons J (.cons J (.cons J (.cons J (.cons J (.cons J (.cons J (.cons J (.cons J (.cons J .nil)))))))))) J
  have hgB:g<4294967296:=by omega
  have hgS:g*vs.getD n 0<4294967296*4294967296:=Nat.mul_lt_mul'' hgB hv2;have e2:(g:Int)*((vs.getD n 0:Nat):Int)=((g*vs.getD n 0:Nat):Int):=J;refine dm J J (ie J) J<|dm J J (ie J) J<|dm J J (vg J J (by rw[e2];omega) (by rw[e2];omega)) J<|dm J J (ie J) J<|dm J J (nn J J (by decide)) J<|?_;rw[pY r 32 (by decide) (by omega) J];refine dm J J (ie J) J<|dm J J (ie J) J<|dm J J (ie J) J<|dm J J (cP J J) J<|dm J J (fe J J) J<|?_;refine dm J J (dF J J (by omega) (by omega)) J<|?_;rw[show((i:Int)+(v.n:Int)-2).toNat=i+n by omega];refine dm J J (jG J (by omega)) J<|dm J J (dC J) J<|dm J J (en J J (tD (us.getD (i+n) 0) r 32 (by omega) (by omega))) J<|?_;refine dm J J (nq J J) J<|sy (qo J J) J<|zE<|?_;rw[e2];refine f9 J (fun hc2=>?_) (fun hc2=>?_) -- slot 113
  ·refine eH<|cO<|cO<|e8<|?_
   exact jw g ⟨hgB,hlo,vd hUle hVp hv0 hT0 hfg hgB (by omega)⟩ (.cons J (.cons J (.cons J (.cons J (.cons J (.cons J (.cons J (.cons J (.cons J .nil))))))))) J
  have hdec:dv us<g*V:=IL hUlt hVle hfg (by omega);refine zK<|c6<|?_;obtain⟨g',rfl⟩: ∃g',g=g'+1:=⟨g-1,by rcases dJ g with h|h;(rw[h,jX] at hdec;omega);omega⟩;refine sR<|sm J J<|sy (C4 J J (by omega) (by omega)) J<|sa J J<|zE<|sR<|sm J J<|sm J J<|sy (km J J) J<|?_;refine sa J J<|zE<|sR<|sm J J<|sy (gq J J (by decide)) J<|?_;rw[show((g'+1:Nat):Int)-1=(g':Nat) by omega,show((r:Int)+((vs.getD (n+1) 0:Nat):Int))=((r+vs.getD (n+1) 0:Nat):Int) from J,lP (r+vs.getD (n+1) 0) 32 (by decide) J];have hfg':f=g'*vs.getD (n+1) 0+(r+vs.getD (n+1) 0):=by rw[hfg,cJ,kT];omega
  refine sy (nO J J) J<|zE<|?_;refine er J (fun hc3=>?_) (fun hc3=>?_) -- slot 121
  ·have hr3:4294967296<=r+vs.getD (n+1) 0:=by omega
   have hgB:g'<4294967296:=by
    rcases iX g' 4294967296 with h|h
    ·exact h
    ·have:=aM (vs.getD (n+1) 0) h
     omega
   have hgS:g'*vs.getD n 0<=(r+vs.getD (n+1) 0)*4294967296+us.getD (i+n) 0:=by
    have h1:=kU (kL hgB) (kL hv2);omega
   refine eH<|A8 J<|cO<|e8<|?_;exact jw g' ⟨hgB,hdec,vd hUle hVp hv0 hT0 hfg' hgB hgS⟩ (.cons J (.cons J (.cons J (.cons J (.cons J (.cons J (.cons J (.cons J (.cons J .nil))))))))) J
  refine zK<|?_;exact eG ⟨g',r+vs.getD (n+1) 0⟩ ⟨hfg',by show r+vs.getD (n+1) 0<_;omega,hdec⟩ (by show g'<g'+1;omega) (.cons J (.cons J (.cons J (.cons J (.cons J (.cons J (.cons J (.cons J (.cons J (.cons J .nil)))))))))) J
 rintro g Gz _ ⟨hgB,hlo,hhi⟩
 -- SUB
 refine sR<|sa J J<|sa J J<|zE<|bm<|sR<|sm J J<|bO J J<|sm J J<|zE<|c6<|?_;refine gh (X:=Dh) (fun q=>[(18, .int .u64 q.c),(17, .int .u64 q.bo),(124, .int .i64 q.k),(123, .int .i64 v.n),(122, .slice v.a v.n v.c),(15, .int .u64 (g:Nat)),(13, .int .i64 i),(7, .slice (some ⟨b4,0,none⟩) (a.length+1) cap),(9, .int .i64 v.n),(10, .int .u64 (vs.getD (n+1) 0:Nat)),(11, .int .u64 (vs.getD n 0:Nat)),(8, .slice v.a v.n v.c),(12, .slice (some ⟨b5,0,none⟩) l l),(6, .int .u64 s)]) (fun q=>[⟨b5,qs.map dI,206,true⟩,⟨b4,q.ws.map dI,206,true⟩])
  (fun q _=>q.ws.length=cap/\bj q.ws/\q.k<=n+2/\q.bo<=1/\q.c<4294967296/\dv q.ws<4294967296^(i+n+3)/\dv q.ws+g*(dv (vs.take q.k)*4294967296^i)=dv us+(q.bo+q.c)*4294967296^(i+q.k)) (fun q=>n+2-q.k) ⟨us,0,0,0⟩
  ⟨hul2,huo2,bS _,bS _,by show(0:Nat)<4294967296;decide,hM,by simp[dv]⟩ (.cons J (.cons J (.cons J (.cons J (.cons J (.cons J (.cons J (.cons J (.cons J (.cons J (.cons J (.cons J (.cons J (.cons J .nil)))))))))))))) J ?_
 rintro ⟨ws,k,bo,c⟩ Gy _ ⟨hwl,hwo,hk,hbo,hc4,hwM,hw⟩;simp only[] at hwl hwo hk hbo hc4 hwM hw⊢;refine sR<|sy (fB J J) J<|zE<|bm<|?_;refine f9 J (fun hkc=>?_) (fun hkc=>?_) -- slot 125
 ·have hkn:k=n+2:=by omega
  subst hkn;rw[aT (by omega),<-hV] at hw;refine eH<|cO<|cO<|e8<|sR<|sm J J<|sm J J<|sm J J<|sy (cP J J) J<|sy (dF J J (by omega) (by omega)) J<|?_;rw[show((i:Int)+(v.n:Int)).toNat=i+n+2 by omega];have hwg:=hwo.get (i+n+2);refine sy (jG J (by omega)) J<|sy (dC J) J<|sm J J<|sy (ow J J) J<|sm J J<|sy (ow J J) J<|?_;rw[sub2 _ _ _ hwg hc4 hbo];obtain⟨hx1,hx2,hx3⟩:=CL (ws.getD (i+n+2) 0) c bo hwg hc4 hbo;generalize ll (ws.getD (i+n+2) 0) c bo=xx at hx1 hx2 hx3⊢;refine sa J J<|zE<|sR<|sm J J<|sm J J<|sm J J<|sy (cP J J) J<|sm J J<|sy (fq J) J<|sy (dF J J (by omega) (by omega)) J<|?_;rw[show((i:Int)+(v.n:Int)).toNat=i+n+2 by omega];refine sc (gl (d:=xx%4294967296) J J (by rw[lX];rfl) (.tl _ _ _ _ _ _ _ _ (.hd ..)) (by omega) J ?_);have hs2:=kw ws (i+n+2) (xx%4294967296) (by omega);have hl2:=EU hs2 hw hx1;rw[<-lu] at hl2;have hM2:=qM (i:=i+n+2) (d:=xx%4294967296) hwo (cM _ (by decide)) hwM (by omega);have ho2:=hwo.set (i+n+2) (d:=xx%4294967296) (cM _ (by decide));have hn2:(ws.set (i+n+2) (xx%4294967296)).length=cap:=by rw[aY];exact hwl
  generalize ws.set (i+n+2) (xx%4294967296)=ws2 at hl2 hM2 ho2 hn2⊢;replace hl2:dv ws2+g*V=dv us+xx/9223372036854775808*4294967296^(i+n+3):=hl2;have hqset: ∀d,dv (qs.set i d)=dv qs+4294967296^i*d:=fun d=>by
   have:=kw qs i d (by omega);rw[hq0 i (by omega)] at this;simpa using this
  have hqz: ∀d i',i'<i->(qs.set i d).getD i' 0=0:=fun d i' h=>by
   have:=hq0 i' (by omega);simpa[List.getD,kK,show¬i=i' by omega] using this
  have hinv2: ∀d R,R+d*V=dv us->dv a*2^s=R+dv vs*dv (qs.set i d):=fun d R h=>by
   rw[hinv,<-h,hqset,cZ,<-bV,<-hV,bY d];omega
  refine zE<|sR<|sm J J<|sm J J<|sm J J<|sy (fq J) J<|sy (dF J J (by omega) (by omega)) J<|?_;rw[bJ];refine sc (gl (d:=g) J J (zo g hgB) (.hd ..) (by omega) J ?_);refine zE<|bm<|sR<|sm J J<|sy (gq J J (by decide)) J<|?_;rw[lP xx 63 (by decide) J];refine sy (kl J J) J<|zE<|?_;refine er J (fun ht=>?_) (fun ht=>?_) -- slot 184
  ·have ht0:xx/2^63=0:=by omega
   rw[show xx/9223372036854775808=xx/2^63 from J,ht0,jX,dQ] at hl2;refine eH<|cO<|e8<|cv<|sm J J<|sy (fe J J) J<|sa J J<|zE<|?_;exact eG ⟨ws2,qs.set i g,i⟩ ⟨hn2,ho2,by simpa using hql,hqo.set _ hgB,by show i<=l;omega,hqz g,hinv2 g _ hl2,by show dv ws2<_;rw[<-hV];exact Jz hlo hl2⟩ (by show i<i+1;omega) (.cons J (.cons J (.cons J (.cons J (.cons J (.cons J (.cons J (.cons J .nil)))))))) J
  have ht1:xx/9223372036854775808=1:=by
   have:xx/9223372036854775808≠0:=fun h=>ht (by rw[show xx/2^63=xx/9223372036854775808 from J,h];rfl);omega
  rw[ht1,kT] at hl2;obtain⟨g',rfl⟩: ∃g',g=g'+1:=⟨g-1,by rcases dJ g with h|h;(rw[h,jX] at hl2;omega);omega⟩;refine zK<|sR<|sm J J<|sm J J<|sy (dF J J (by omega) (by omega)) J<|?_;rw[bJ];refine sy (jG J (by simp;omega)) J<|?_;rw[show(qs.set i (g'+1)).getD i 0=g'+1 by simp[List.getD,kK,show i<qs.length by omega]];refine sy (ow J J) J<|sy (dF J J (by omega) (by omega)) J<|?_;rw[bJ];refine sc (gl (d:=g') J J (by rw[s8];omega) (.hd ..) (by simp;omega) J ?_);rw[List.set_set];refine zE<|sR<|sa J J<|zE<|bm<|sR<|sm J J<|bO J J<|sm J J<|zE<|c6<|?_;refine gh (X:=Dh) (fun q=>[(18, .int .u64 q.c),(193, .int .i64 q.k),(192, .int .i64 v.n),(191, .slice v.a v.n v.c),(13, .int .i64 i),(7, .slice (some ⟨b4,0,none⟩) (a.length+1) cap),(9, .int .i64 v.n),(10, .int .u64 (vs.getD (n+1) 0:Nat)),(11, .int .u64 (vs.getD n 0:Nat)),(8, .slice v.a v.n v.c),(12, .slice (some ⟨b5,0,none⟩) l l),(6, .int .u64 s)]) (fun q=>[⟨b5,(qs.set i g').map dI,206,true⟩,⟨b4,q.ws.map dI,206,true⟩])
   (fun q _=>q.ws.length=cap/\bj q.ws/\q.k<=n+2/\q.c<=1/\dv q.ws<4294967296^(i+n+3)/\dv q.ws+q.c*4294967296^(i+q.k)=dv ws2+dv (vs.take q.k)*4294967296^i) (fun q=>n+2-q.k) ⟨ws2,0,0,0⟩
   ⟨hn2,ho2,bS _,bS _,hM2,by simp[dv]⟩ (.cons J (.cons J (.cons J (.cons J (.cons J (.cons J (.cons J (.cons J (.cons J (.cons J (.cons J (.cons J .nil)))))))))))) J ?_
  rintro ⟨wa,k,_,ca⟩ Gz _ ⟨hal2,hao,hak,hac,haM,ha⟩;simp only[] at hal2 hao hak hac haM ha⊢;refine sR<|sy (fB J J) J<|zE<|bm<|?_;refine f9 J (fun hkd=>?_) (fun hkd=>?_) -- slot 194
  ·have hkn:k=n+2:=by omega
   subst hkn;rw[aT (by omega),<-hV] at ha;have hag:=hao.get (i+n+2);refine eH<|cO<|cO<|e8<|cv<|sm J J<|sm J J<|sm J J<|sy (cP J J) J<|sy (dF J J (by omega) (by omega)) J<|?_;rw[show((i:Int)+(v.n:Int)).toNat=i+n+2 by omega];refine sy (jG J (by omega)) J<|sm J J<|sy (fq J) J<|sy (KW J J) J<|sy (dF J J (by omega) (by omega)) J<|?_;rw[show((i:Int)+(v.n:Int)).toNat=i+n+2 by omega];refine sc (gl (d:=(wa.getD (i+n+2) 0+ca)%4294967296) J J (by rw[s8];omega) (.tl _ _ _ _ _ _ _ _ (.hd ..)) (by omega) J ?_);have hs4:=kw wa (i+n+2) ((wa.getD (i+n+2) 0+ca)%4294967296) (by omega);have hl4:=Gt hs4 ha;rw[<-lu] at hl4;have hM4:=qM (i:=i+n+2) (d:=(wa.getD (i+n+2) 0+ca)%4294967296) hao (cM _ (by decide)) haM (by omega);obtain⟨hR1,hR2⟩:=FM hhi hl2 hl4 hM2 hM4 (by omega) (Nat.succ_pos _);refine zE<|cv<|sm J J<|sy (fe J J) J<|sa J J<|zE<|?_;exact eG ⟨wa.set (i+n+2) ((wa.getD (i+n+2) 0+ca)%4294967296),qs.set i g',i⟩ ⟨by simpa using hal2,hao.set _ (cM _ (by decide)),by simpa using hql,hqo.set _ (by omega),by show i<=l;omega,hqz g',hinv2 g' _ hR1,by show dv _<_;rw[<-hV];exact hR2⟩ (by show i<i+1;omega) (.cons J (.cons J (.cons J (.cons J (.cons J (.cons J (.cons J (.cons J .nil)))))))) J
  have hvk:=hvo.get k;have hag:=hao.get (i+k);refine zK<|bm<|c6<|sR<|sm J J<|sy (dP hv J J (by omega) (by omega)) J<|?_;rw[bJ];refine sy (dH hv J (by omega)) J<|sa J J<|sa J J<|zE<|bm<|?_;refine cv<|sm J J<|sm J J<|sm J J<|sm J J<|sy (cP J J) J<|sy (dF J J (by omega) (by omega)) J<|?_;rw[show((i:Int)+(k:Int)).toNat=i+k by omega];refine sy (jG J (by omega)) J<|sy (dC J) J<|sm J J<|sy (dC J) J<|sy (km J J) J<|sy (km J J) J<|?_;rw[show(ca:Int)+(((wa.getD (i+k) 0:Nat):Int)+((vs.getD k 0:Nat):Int))=((ca+(wa.getD (i+k) 0+vs.getD k 0):Nat):Int) from J];refine sa J J<|zE<|sR<|sm J J<|sm J J<|sm J J<|sy (cP J J) J<|sm J J<|sy (fq J) J<|sy (dF J J (by omega) (by omega)) J<|?_;rw[show((i:Int)+(k:Int)).toNat=i+k by omega];refine sc (gl (d:=(ca+(wa.getD (i+k) 0+vs.getD k 0))%4294967296) J J (by rw[lX];rfl) (.tl _ _ _ _ _ _ _ _ (.hd ..)) (by omega) J ?_);refine zE<|cv<|sm J J<|sy (gq J J (by decide)) J<|?_;rw[lP (ca+(wa.getD (i+k) 0+vs.getD k 0)) 32 (by decide) J];refine sa J J<|zE<|cv<|sy (cP J J) J<|sm J J<|zE<|?_;refine eG ⟨wa.set (i+k) ((ca+(wa.getD (i+k) 0+vs.getD k 0))%4294967296),k+1,0,(ca+(wa.getD (i+k) 0+vs.getD k 0))/2^32⟩ ⟨by simpa using hal2,hao.set _ (cM _ (by decide)),by show k+1<=_;omega,by show(ca+(wa.getD (i+k) 0+vs.getD k 0))/4294967296<=1;omega,qM hao (cM _ (by decide)) haM (by omega),?_⟩ (by show n+2-(k+1)<n+2-k;omega) (.cons J (.cons J (.cons J (.cons J (.cons J (.cons J (.cons J (.cons J (.cons J (.cons J (.cons J (.cons J .nil)))))))))))) J;show dv (wa.set (i+k) ((ca+(wa.getD (i+k) 0+vs.getD k 0))%4294967296))+((ca+(wa.getD (i+k) 0+vs.getD k 0))/4294967296)*4294967296^(i+k+1)=dv ws2+dv (vs.take (k+1))*4294967296^i
  rw[ig,cJ (dv (vs.take k)),lu,show 4294967296^k*vs.getD k 0*4294967296^i=vs.getD k 0*4294967296^(i+k) by rw[gX,bY (4294967296^k),bV,bY (4294967296^k)]];exact Ix (kw wa (i+k) _ (by omega)) ha
 have hvk:=hvo.get k;have hwg:=hwo.get (i+k);refine zK<|bm<|c6<|sR<|sm J J<|sy (dP hv J J (by omega) (by omega)) J<|?_;rw[bJ];refine sy (dH hv J (by omega)) J<|sa J J<|sa J J<|zE<|bm<|?_;have hgd:g*vs.getD k 0<=4294967295*4294967295:=kU (by omega) (by omega);have e3:(g:Int)*((vs.getD k 0:Nat):Int)=((g*vs.getD k 0:Nat):Int):=J;refine cv<|sm J J<|sm J J<|sm J J<|sy (dC J) J<|sy (vg J J (by rw[e3];omega) (by rw[e3];omega)) J<|?_;rw[e3];refine sy (km J J) J<|?_;rw[show(c:Int)+((g*vs.getD k 0:Nat):Int)=((c+g*vs.getD k 0:Nat):Int) from J];obtain⟨c1,hc1⟩: ∃c1,c1=c+g*vs.getD k 0:=⟨_,rfl⟩;rw[<-hc1];have hc1m:c1%4294967296<4294967296:=cM _ (by decide);refine sa J J<|zE<|sR<|sm J J<|sm J J<|sm J J<|sy (cP J J) J<|sy (dF J J (by omega) (by omega)) J<|?_;rw[show((i:Int)+(k:Int)).toNat=i+k by omega];refine sy (jG J (by omega)) J<|sy (dC J) J<|sm J J<|sy (en J J (Jg c1 (by omega))) J<|sy (ow J J) J<|sm J J<|sy (ow J J) J<|?_;rw[sub2 _ _ _ hwg hc1m hbo];obtain⟨hx1,hx2,hx3⟩:=CL (ws.getD (i+k) 0) (c1%4294967296) bo hwg hc1m hbo;generalize ll (ws.getD (i+k) 0) (c1%4294967296) bo=xx at hx1 hx2 hx3⊢;refine sa J J<|?_;refine zE<|sR<|sm J J<|sm J J<|sm J J<|sy (cP J J) J<|sm J J<|sy (fq J) J<|sy (dF J J (by omega) (by omega)) J<|?_;rw[show((i:Int)+(k:Int)).toNat=i+k by omega];refine sc (gl (d:=xx%4294967296) J J (by rw[lX];rfl) (.tl _ _ _ _ _ _ _ _ (.hd ..)) (by omega) J ?_);refine zE<|sR<|sm J J<|sy (gq J J (by decide)) J<|?_;rw[lP xx 63 (by decide) J];refine sa J J<|zE<|cv<|sm J J<|sy (gq J J (by decide)) J<|?_
 rw[lP c1 32 (by decide) J];refine sa J J<|?_;refine zE<|cv<|sy (cP J J) J<|sm J J<|zE<|?_;refine eG ⟨ws.set (i+k) (xx%4294967296),k+1,xx/2^63,c1/2^32⟩ ⟨by simpa using hwl,hwo.set _ (cM _ (by decide)),by show k+1<=_;omega,hx2,by show c1/4294967296<_;omega,qM hwo (cM _ (by decide)) hwM (by omega),?_⟩ (by show n+2-(k+1)<n+2-k;omega) (.cons J (.cons J (.cons J (.cons J (.cons J (.cons J (.cons J (.cons J (.cons J (.cons J (.cons J (.cons J (.cons J (.cons J .nil)))))))))))))) J;show dv (ws.set (i+k) (xx%4294967296))+g*(dv (vs.take (k+1))*4294967296^i)=dv us+(xx/9223372036854775808+c1/4294967296)*4294967296^(i+k+1);rw[ig,cJ (dv (vs.take k)),lu,show 4294967296^k*vs.getD k 0*4294967296^i=vs.getD k 0*4294967296^(i+k) by rw[gX,bY (4294967296^k),bV,bY (4294967296^k)],cZ,<-bV g (vs.getD k 0)];exact H2 (kw ws (i+k) _ (by omega)) hw hc1 hx1
def t7{A B G:Gh}{x y:SV}{a b:List Nat}{k1 k2:Nat}(hx:bu A x a)(hy:bu B y b)[GL A G][GL B G](hb0:0<dv b)
  (hq:dv a/dv b<2^k1)(hr:dv a%dv b<2^k2)(hl:a.length<=112589990684)(hl2:b.length<=112589990684):
  Fn prog 173 [x.v,y.v] G (fun v G'=> ∃z r:SV,v= .tuple #[z.v,r.v, .bool true]/\dt k1 G' z (dv a/dv b)/\dt k2 G' r (dv a%dv b)):=by
 have hla:=ib a;have hlb:=ib b;have hca:=fun G1 (_:GL A G1)=>et (G:=G1) hx (by omega);have hcb:=fun G1 (_:GL B G1)=>et (G:=G1) hy (by omega);have hxt:=hx.trim;have hyt:=hy.trim;have hna:=cG.trimD a;have hnb:=cG.trimD b;rw[<-fh a,<-fh b] at hq hr⊢;rw[<-fh b] at hb0;generalize trimD a=a' at*;generalize trimD b=b' at*;refine Fn.intro func173 J J ntmps173 J ?_;intro C _ _;refine sR<|sa J J<|sa J J<|sa J J<|zE<|sR<|sm J J<|?_;refine sc (zC J J (hca _ inferInstance) J ?_);rintro _ G1 _ rfl;refine sm J J<|?_;refine sc (zC J J (hcb _ inferInstance) J ?_);rintro _ G2 _ rfl;refine sa J J<|sa J J<|zE<|bm<|c6<|sR<|sm J J<|bO J J<|sy (kl J J) J<|sa J J<|zE<|?_;refine er J (fun hc=>?_) (fun hc=>?_) -- slot 15
 ·exfalso
  have:b'=[]:=bK (by omega);rw[this] at hb0;exact absurd hb0 (by simp[dv])
 refine sR<|sm J J<|sm J J<|?_;refine sc (zC J J (Br hxt hyt (by omega) (by omega)) J ?_);rintro _ G3 _ rfl;refine sy (fB J J) J<|sa J J<|zE<|?_;refine er J (fun hc2=>?_) (fun hc2=>?_) -- slot 19
 ·have hlt:dv a'<dv b':=by
   unfold j9 at hc2;split at hc2
   ·assumption
   ·split at hc2<;>omega
  refine sR<|sm J J<|?_;refine sc (zC J J (Be hxt (by omega)) J ?_);rintro _ G4 _ ⟨z,rfl,hz⟩;refine sa J J<|sa J J<|sa J J<|zE<|c7<|?_;refine zD (.tmp J (.tmp J (.tmp J .nil))) ⟨⟨none,0,0⟩,z,J,?_,?_⟩
  ·rw[lZ hlt]
   exact⟨by unfold dg;exact .nil _,fN (by decide)⟩
  ·rw[eY hlt] at hr⊢
   exact⟨by rw[AF hxt.ok hna];exact hz,hr⟩
 have hle:dv b'<=dv a':=by
  unfold j9 at hc2;split at hc2
  ·omega
  ·omega
 refine sR<|sm J J<|bO J J<|sy (kl J J) J<|sa J J<|zE<|?_;refine er J (fun hc3=>?_) (fun hc3=>?_) -- slot 26
 ·have hb1:b'.length=1:=by omega
  obtain⟨d,rfl⟩:=List.length_eq_one_iff.1 hb1;have hdv:dv [d]=d:=by simp[dv]
  have hdB:=hyt.ok.head;rw[hdv] at hb0 hq hr⊢;refine sR<|sm J J<|sm J J<|sy (dP (z:=⟨y.a,1,y.c⟩) hyt J J (by omega) (by show(0:Int)<((1:Nat):Int);omega)) J<|sy (dH (i:=0) hyt J (by simp)) J<|?_;rw[show [d].getD 0 0=d from J];refine sc (zC J J (IK (x:=⟨x.a,a'.length,x.c⟩) hxt hb0 hdB hq (by omega)) J ?_);rintro _ G5 _ ⟨z,rfl,hz⟩;have hmB:dv a'%d<4294967296:=kN (cM _ hb0) hdB;refine sm J J<|sx J J J<|sx J J J<|sa J J<|sa J J<|zE<|sR<|sm J J<|sm J J<|sy (dC J) J<|?_;refine sc (zC J J (tj (by omega)) J ?_);rintro _ G6 _ ⟨r,rfl,hr6⟩;refine sa J J<|sa J J<|sa J J<|zE<|c7<|?_;exact zD (.tmp J (.tmp J (.tmp J .nil))) ⟨z,r,J,hz.up,hr6.mono hr⟩
 have hb2:2<=b'.length:=by omega
 refine zK<|sR<|sm J J<|sm J J<|?_;refine sc (zC J J (GC (x:=⟨x.a,a'.length,x.c⟩) (y:=⟨y.a,b'.length,y.c⟩) hxt hyt hna hnb hb2 hle hq hr (by omega)) J ?_);rintro _ G7 _ ⟨z,r,rfl,hz,hr7⟩;refine sm J J<|sx J J J<|sx J J J<|sa J J<|sa J J<|zE<|sR<|sm J J<|sm J J<|sa J J<|sa J J<|sa J J<|zE<|?_;refine c7<|?_;exact zD (.tmp J (.tmp J (.tmp J .nil))) ⟨z,r,J,hz,hr7⟩
def rX{u k:Nat}(h:u<2^k):32*(dg u).length<=k+31:=AL (dB u).2.2 (by rw[(dB u).1];exact h)
def dt.dvl{k:Nat}{G:Gh}{x:SV}{v:Nat}(_:dt k G x v):dv (dg v)=v:=(dB v).1
structure Gm where
 a:SV
 b:SV
 u:Nat
 v:Nat
def Ms{A B G:Gh}{x y:SV}{a b:List Nat}{k k0:Nat}(hx:bu A x a)(hy:bu B y b)[GL A G][GL B G](ha:dv a<2^k0)(hb:dv b<2^k0)(hk0:k0<=1099511627776)
  (hg0:Nat.gcd (dv a) (dv b)<2^k)(hl:a.length<=112589990684)(hl2:b.length<=112589990684):
  Fn prog 172 [x.v,y.v] G (fun v G'=> ∃z:SV,v=z.v/\dt k G' z (Nat.gcd (dv a) (dv b))):=by
 refine Fn.intro func172 J J ntmps172 J ?_;intro C _ _;refine sR<|sa J J<|zE<|sR<|sm J J<|?_;refine sc (zC J J (uN hx ha (by omega)) J ?_);rintro _ G1 _ ⟨x1,rfl,hx1⟩;refine sm J J<|?_;refine sc (zC J J (uN hy hb (by omega)) J ?_);rintro _ G2 _ ⟨y1,rfl,hy1⟩;generalize dv a=ua at*;generalize dv b=ub at*;refine sa J J<|sa J J<|zE<|bm<|c6<|?_;refine gh (X:=Gm) (fun q=>[(0, .slice q.a.a q.a.n q.a.c),(1, .slice q.b.a q.b.n q.b.c)]) (fun _=>[]) (fun q G=>dt k0 G q.a q.u/\dt k0 G q.b q.v/\Nat.gcd q.u q.v=Nat.gcd ua ub) (fun q=>q.v) ⟨x1,y1,ua,ub⟩
  ⟨hx1.up,hy1,J⟩ (.cons J (.cons J .nil)) J ?_
 rintro ⟨p,q,u,v⟩ Gx _ ⟨hp,hq,hgc⟩;simp only[] at hp hq hgc⊢;have hpl:=hp.len;have hql:=hq.len;have hpb:=rX hp.lt;have hqb:=rX hq.lt;refine bm<|sR<|sm J J<|bO J J<|sy (nq J J) J<|sm J J<|?_;refine q9 19 J (fun hg=>?_) (fun hg=>?_)
 ·refine ss J J J J<|ss J J J J<|ss J J J J<|sy (qg J J) J<|zE<|xz J<|zK<|c6<|bm<|sR<|sm J J<|?_
  refine bO J J<|sy (kl J J) J<|zE<|?_;refine er J (fun hc1=>?_) (fun hc1=>?_) -- slot 26
  ·refine sR<|sm J J<|sa J J<|zE<|c7<|?_
   have hv0:v=0:=by
    have:dg v=[]:=bK (by omega);have h2:=hq.dvl;rw[this] at h2;exact h2.symm
   have hue:u=Nat.gcd ua ub:=by rw[<-hgc,hv0,lS]
   exact zD (.tmp J .nil) ⟨p,J,by rw[<-hue] at hg0⊢;exact hp.mono hg0⟩
  have hv0:0<v:=iQ fun h=>by
   have h1:dg v=[]:=by rw[h];unfold dg;rfl
   rw[h1] at hql;simp only[gM] at hql;omega
  have hm:=cM u hv0;refine zK<|sR<|sm J J<|sm J J<|?_;refine sc (zC J J (t7 (k1:=k0) (k2:=k0) hp.d hq.d (by rw[hq.dvl];exact hv0) (by rw[hp.dvl];exact eX (iW _ _) hp.lt) (by rw[hp.dvl,hq.dvl];exact kN hm hq.lt) (by omega) (by omega)) J ?_);rintro _ G3 _ ⟨z,r,rfl,hz,hr⟩;rw[hp.dvl,hq.dvl] at hr;refine sm J J<|sx J J J<|sx J J J<|sx J J J<|sa J J<|sa J J<|sa J J<|zE<|cv<|sm J J<|sm J J<|sa J J<|sa J J<|?_;refine zE<|?_;exact eG ⟨q,r,v,u%v⟩ ⟨hq.up,hr,by show Nat.gcd v (u%v)=_;rw[<-hgc,gV u,Nat.gcd_rec v u,gV]⟩ hm (.cons J (.cons J .nil)) J
 refine dm J J (ie J) J<|dm J J (my J) J<|dm J J (nq J J) J<|sy (qo J J) J<|zE<|?_;refine f9 J (fun hc=>?_) (fun hc=>?_) -- slot 23
 ·have small: ∀{w:Nat},(dg w).length<=2->w<18446744073709551616:=fun{w} h=>by
   have h1:=iv (dB w).2.1;rw[(dB w).1] at h1;exact cN h1 (dS (bW (by decide) h) (by decide))
  have hu64:u<18446744073709551616:=small (by omega);have hv64:v<18446744073709551616:=small (by omega);refine eH<|cO<|cO<|e8<|sR<|sm J J<|?_;refine sc (zC J J (wQ hp.d (by omega)) J ?_);rintro _ G4 _ rfl;rw[hp.dvl,if_pos hu64];refine sm J J<|sx J J J<|sx J J J<|sa J J<|sa J J<|zE<|sR<|sm J J<|?_;refine sc (zC J J (wQ hq.d (by omega)) J ?_);rintro _ G5 _ rfl;rw[hq.dvl,if_pos hv64];refine sm J J<|sx J J J<|sx J J J<|sa J J<|sa J J<|zE<|bm<|c6<|?_;refine gh (X:=Nat×Nat) (fun q=>[(8, .int .u64 (q.1:Nat)),(10, .int .u64 (q.2:Nat))]) (fun _=>[]) (fun q _=>q.1<18446744073709551616/\q.2<18446744073709551616/\Nat.gcd q.1 q.2=Nat.gcd ua ub) (fun q=>q.2) (u,v)
   ⟨hu64,hv64,hgc⟩ (.cons J (.cons J .nil)) J ?_
  rintro ⟨u1,v1⟩ Gy _ ⟨hu1,hv1,hgc1⟩;simp only[] at hu1 hv1 hgc1⊢;refine bm<|sR<|sm J J<|sy (nO J J) J<|zE<|?_;refine f9 J (fun hc5=>?_) (fun hc5=>?_) -- slot 48
  ·refine eH<|cO<|cO<|e8<|sR<|sm J J<|?_
   refine sc (zC J J (tj hu1) J ?_);rintro _ G6 _ ⟨z,rfl,hz⟩;refine sa J J<|zE<|c7<|?_;have hv0:v1=0:=by omega
   have hue:u1=Nat.gcd ua ub:=by rw[<-hgc1,hv0,lS]
   exact zD (.tmp J .nil) ⟨z,J,by rw[<-hue] at hg0⊢;exact hz.mono hg0⟩
  have hv0:0<v1:=by omega
  refine zK<|c6<|dr (fun _=>false) [(0,true),(1,true),(2,true),(3,true),(4,true),(5,true)] follows (by kernel_rfl)<|dM J J J<|dM J J J<|?_;refine dM J J J<|dy J (fun _=>oC J J (by omega) (by omega)) J J<|dA J J J<|dA J J J<|dn<|?_;exact eG (v1,u1%v1) ⟨hv1,kN (cM _ hv0) hv1,by show Nat.gcd v1 (u1%v1)=_;rw[<-hgc1,gV u1,Nat.gcd_rec v1 u1,gV]⟩ (by show u1%v1<v1;exact cM _ hv0) (.cons J (.cons J .nil)) J
 refine zK<|c6<|bm<|sR<|sm J J<|?_;refine bO J J<|sy (kl J J) J<|zE<|?_;refine er J (fun hc1=>?_) (fun hc1=>?_) -- slot 26
 ·refine sR<|sm J J<|sa J J<|zE<|c7<|?_
  have hv0:v=0:=by
   have:dg v=[]:=bK (by omega);have h2:=hq.dvl;rw[this] at h2;exact h2.symm
  have hue:u=Nat.gcd ua ub:=by rw[<-hgc,hv0,lS]
  exact zD (.tmp J .nil) ⟨p,J,by rw[<-hue] at hg0⊢;exact hp.mono hg0⟩
 have hv0:0<v:=iQ fun h=>by
  have h1:dg v=[]:=by rw[h];unfold dg;rfl
  rw[h1] at hql;simp only[gM] at hql;omega
 have hm:=cM u hv0;refine zK<|sR<|sm J J<|sm J J<|?_;refine sc (zC J J (t7 (k1:=k0) (k2:=k0) hp.d hq.d (by rw[hq.dvl];exact hv0) (by rw[hp.dvl];exact eX (iW _ _) hp.lt) (by rw[hp.dvl,hq.dvl];exact kN hm hq.lt) (by omega) (by omega)) J ?_);rintro _ G3 _ ⟨z,r,rfl,hz,hr⟩;rw[hp.dvl,hq.dvl] at hr;refine sm J J<|sx J J J<|sx J J J<|sx J J J<|sa J J<|sa J J<|sa J J<|zE<|cv<|sm J J<|sm J J<|sa J J<|sa J J<|?_;refine zE<|?_;exact eG ⟨q,r,v,u%v⟩ ⟨hq.up,hr,by show Nat.gcd v (u%v)=_;rw[<-hgc,gV u,Nat.gcd_rec v u,gV]⟩ hm (.cons J (.cons J .nil)) J
structure IV where
 neg:Bool
 a:SV
def IV.v(z:IV):Value:= .agg ⟨[.bool z.neg, .slice z.a.a z.a.n z.a.c]⟩
def zv(neg:Bool)(u:Nat):Int:=if neg then-(u:Int) else u
def ki(neg:Bool)(u:Nat):(zv neg u).natAbs=u:=by cases neg<;>simp[zv]
def Kv(neg:Bool)(u:Nat):zv (!neg) u= -zv neg u:=by cases neg<;>simp[zv]
def FI(n m:Bool)(u w:Nat):zv (n !=m) (u*w)=zv n u*zv m w:=by cases n<;>cases m<;>simp[zv,Int.neg_mul,Int.mul_neg]
def CM(neg:Bool)(u:Nat):decide (zv neg u<0)=(neg&&decide (0<u)):=by
 cases neg<;>simp[zv]
def jd(m:Int):zv (decide (m<0)) m.natAbs=m:=by
 unfold zv;by_cases h:m<0<;>simp[h]<;>omega
structure nt (k:Nat) (G:Gh) (z:IV) (m:Int):Prop where
 neg:z.neg=decide (m<0)
 abs:dt k G z.a m.natAbs
def Mn(n:Bool)(u w:Nat):zv n (u+w)=zv n u+zv n w:=by cases n<;>simp[zv]<;>omega
def CE(p:Int):IntKind.i64.wrap p=(p+9223372036854775808)%18446744073709551616-9223372036854775808:=by
 have e:IntKind.i64.wrap p=if(true&&decide (p%2^64>=2^(64-1)))=true then p%2^64-2^64 else p%2^64:=J
 rw[e,show(2:Int)^64=18446744073709551616 by decide,show(2:Int)^(64-1)=9223372036854775808 by decide,Bool.true_and];by_cases h:p%18446744073709551616>=9223372036854775808
 ·rw[decide_eq_true h,if_pos J];omega
 ·rw[decide_eq_false h,if_neg (by decide)];omega
structure RV where
 n:Int
 d:Int
 p:Option Addr
def RV.v(z:RV):Value:= .agg ⟨[.int .i64 z.n, .int .i64 z.d, .pointer z.p]⟩
structure HE (z:RV) (q:Rat):Prop where
 p:z.p=none
 n:z.n=q.num
 d:z.d=(q.den:Int)-1
 b1:q.num.natAbs<4611686018427387904
 b2:q.den<4611686018427387904
structure IX (k:Nat) (G:Gh) (z:RV) (q:Rat):Prop where
 n:z.n=0
 d:z.d=0
 ex: ∃(b:Nat) (x:IV) (y:SV),z.p=some ⟨b,0,none⟩/\G b=some [.bool x.neg, .slice x.a.a x.a.n x.a.c, .slice y.a y.n y.c]/\nt k G x q.num/\dt k G y q.den
 no: ¬(q.num.natAbs<4611686018427387904/\q.den<4611686018427387904)
def nC(k:Nat)(G:Gh)(z:RV)(q:Rat):Prop:=q.num.natAbs<2^k/\q.den<2^k/\(HE z q\/IX k G z q)
def GI{neg:Bool}{u g:Nat}(h:g∣u):zv neg (u/g)=zv neg u/(g:Int):=by
 cases neg
 ·simp[zv]
 ·simp only[zv,if_true]
  rw[Int.neg_ediv_of_dvd (lM.2 h),Int.natCast_ediv]
def AY{m:Int}{e:Nat}(he:0<e):(mkRat m e).num=m/((Nat.gcd m.natAbs e:Nat):Int)/\(mkRat m e).den=e/Nat.gcd m.natAbs e:=by
 rw[Rat.num_mkRat,Rat.den_mkRat,if_neg (by omega),if_neg (by omega),gV];exact⟨J,J⟩
def Mm{x:Nat}:(((bl x:Nat):Int)<=62)↔x<4611686018427387904:=by
 have:bl x<=62↔x<2^62:=jc;omega
structure P2 where
 x:SV
 y:SV
 ds:List Nat
 es:List Nat

def L3{G:Gh}{x y:Nat}(hx:x<18446744073709551616)(hy:y<18446744073709551616):Fn prog 250 [.int .u64 (x:Nat), .int .u64 (y:Nat)] G (fun v _=>v= .tuple #[.int .u64 ((x*y/18446744073709551616:Nat):Int), .int .u64 ((x*y%18446744073709551616:Nat):Int)]):=
 Fn.of_calls (G:=G) (AG func250 J J) (fun w=>Tryz.bits_Mul64 x y hx hy w)
def Ci(a b:Int):a*b=if(a<0)↔(b<0) then((a.natAbs*b.natAbs:Nat):Int) else-((a.natAbs*b.natAbs:Nat):Int):=by
 rcases(by omega:a<0\/0<=a) with h|h<;>rcases(by omega:b<0\/0<=b) with h2|h2
 ·rw[if_pos (by simp[h,h2]),kQ,gS (lQ h),gS (lQ h2),Int.neg_mul_neg]
 ·rw[if_neg (by simp[h];omega),kQ,gS (lQ h),jJ h2,Int.neg_mul,Int.neg_neg]
 ·rw[if_neg (by simp[h2];omega),kQ,jJ h,gS (lQ h2),Int.mul_neg,Int.neg_neg]
 ·rw[if_pos (by constructor<;>intro<;>omega),kQ,jJ h,jJ h2]
def Ls{p:Int}(h:p.natAbs<9223372036854775808):IntKind.i64.wrap p=p:=by rw[CE];omega

def GO{n:Int}{d:Nat}(h:n<0):mkRat (-(d:Int)) n.natAbs=Rat.divInt (d:Int) n:=by
 rw[<-Rat.divInt_ofNat,gS (lQ h),Rat.neg_divInt_neg]
def CH{q:Rat}(h:q.num<0):(q⁻¹).num= -(q.den:Int)/\(q⁻¹).den=q.num.natAbs:=by
 rw[Rat.num_inv,Rat.den_inv,if_neg (by omega),fS h];omega
def Ez{q:Rat}(h:0<q.num):(q⁻¹).num=(q.den:Int)/\(q⁻¹).den=q.num.natAbs:=by
 rw[Rat.num_inv,Rat.den_inv,if_neg (by omega),gL h];omega
def rY{q:Rat}(h:q.den=1):q=(q.num:Int):=by
 conv=>lhs;rw[<-Rat.mkRat_self q,h,Rat.mkRat_one]
def bw(a b:Rat):Int:=if a<b then-1 else if b<a then 1 else 0
def te(a b:Rat):(a-b).num<0↔a<b:=by
 rw[<-Rat.not_le,Rat.le_iff_sub_nonneg,<-Rat.num_nonneg];omega
def Av(a b:Rat):0<(a-b).num↔b<a:=by
 have h:=te b a;have h2:(b-a).num= -(a-b).num:=by rw[<-jK,Rat.neg_sub]
 rw[h2] at h;rw[<-h];omega
def w5(a b:Rat):Int.sign (a-b).num=bw a b:=by
 unfold bw;split
 ·rename_i h;exact fS ((te a b).2 h)
 ·rename_i h
  split
  ·rename_i h2;exact gL ((Av a b).2 h2)
  ·rename_i h2
   rw[<-te] at h;rw[<-Av] at h2;rw[show(a-b).num=0 by omega];rfl
def Ab{a b:Rat}(h:a.den=b.den):a<b↔a.num<b.num:=by
 rw[Rat.lt_iff,h];have:(0:Int)<b.den:=by have:=b.den_pos;omega
 exact⟨fun h2=>Int.lt_of_mul_lt_mul_right h2 (lQ this),fun h2=>Int.mul_lt_mul_of_pos_right h2 this⟩
def Je(a b:Rat):bw a b=0↔a=b:=by
 unfold bw;constructor
 ·intro h
  split at h
  ·omega
  ·rename_i h1
   split at h
   ·omega
   ·rename_i h2
    exact Rat.le_antisymm (Rat.not_lt.1 h2) (Rat.not_lt.1 h1)
 ·intro h
  subst h;rw[if_neg (Rat.not_lt.2 Rat.le_refl),if_neg (Rat.not_lt.2 Rat.le_refl)]
def Ew(a b:Rat):bw a b<0↔a<b:=by
 unfold bw;constructor
 ·intro h
  split at h
  ·assumption
  ·split at h<;>omega
 ·intro h
  rw[if_pos h];decide
def rgcd(a b:Rat):Rat:=mkRat ((Nat.gcd (a.num.natAbs*b.den) (b.num.natAbs*a.den):Nat):Int) (a.den*b.den)
def tY(a b:Int):rgcd a b=((Nat.gcd a.natAbs b.natAbs:Nat):Int):=by
 unfold rgcd;show mkRat ((Nat.gcd (a.natAbs*1) (b.natAbs*1):Nat):Int) (1*1)=_;rw[iT,iT,iT,Rat.mkRat_one]
def Fa{a b m:Nat}(ha:a<m)(hb:b<m):Nat.gcd a b<m:=by
 rcases dJ a with h|h
 ·rw[h,Nat.gcd_zero_left];exact hb
 ·exact eX (Nat.gcd_le_left _ h) ha
structure LV where
 a:RV
 b:RV
 c:RV
def LV.v(z:LV):Value:= .agg ⟨[.int .i64 z.a.n, .int .i64 z.a.d, .pointer z.a.p, .int .i64 z.b.n, .int .i64 z.b.d, .pointer z.b.p, .int .i64 z.c.n, .int .i64 z.c.d, .pointer z.c.p]⟩
structure ab where
 a:Int
 b:Int
 c:Int
structure ux (k:Nat) (G:Gh) (z:LV) (l:ab):Prop where
 a:nC k G z.a (l.a:Rat)
 b:nC k G z.b (l.b:Rat)
 c:nC k G z.c (l.c:Rat)
def ab.ok(l:ab):Prop:= ¬(l.a=0/\l.b=0)/\Nat.gcd (Nat.gcd l.a.natAbs l.b.natAbs) l.c.natAbs=1
def NB(neg:Bool)(ds:List Nat):Prop:=cG ds/\(neg=true->ds≠[])
structure PV where
 x:RV
 y:RV
def PV.v(z:PV):Value:= .agg ⟨[.int .i64 z.x.n, .int .i64 z.x.d, .pointer z.x.p, .int .i64 z.y.n, .int .i64 z.y.d, .pointer z.y.p]⟩
structure aa where
 x:Rat
 y:Rat
structure On (k:Nat) (G:Gh) (z:PV) (p:aa):Prop where
 x:nC k G z.x p.x
 y:nC k G z.y p.y
def u6(a:Int): -(a:Rat)=((-a:Int):Rat):=rfl
def ab.rev(l:ab):ab:=⟨-l.a, -l.b, -l.c⟩
def ab.nor(l:ab):aa:=⟨l.a,l.b⟩
def ab.dir(l:ab):aa:=⟨l.b, -(l.a:Rat)⟩
def aa.dot(p q:aa):Rat:=p.x*q.x+p.y*q.y
def aa.cross(p q:aa):Rat:=p.x*q.y-p.y*q.x
def aa.scale(p:aa)(c:Rat):aa:=⟨p.x*c,p.y*c⟩
def aa.add(p q:aa):aa:=⟨p.x+q.x,p.y+q.y⟩
def ab.value(l:ab)(p:aa):Rat:=l.nor.dot p+(l.c:Rat)
def ab.base(l:ab):aa:=l.nor.scale (-(l.c:Rat)/l.nor.dot l.nor)
def ab.at(l:ab)(t:Rat):aa:=l.base.add (l.dir.scale t)
end Go.Sx
end
section
namespace Go.Sx
open Go
def dU(d:Nat):DV:= .v (.int .u32 (d:Int))
def d8(ds:List Nat):DV:= .sl (ds.map dU)
def dN(n:Nat):DV:= .sl ((dg n).map dU)
def dD(n:Nat):DV:= .sl (if n=1 then [] else(dg n).map dU)
def eI(m:Int):DV:= .ag [.v (.bool (decide (m<0))),dN m.natAbs]
def eQ(q:Rat):DV:= .ag [.v (.bool (decide (q.num<0))),dN q.num.natAbs,dD q.den]
def eP(p:aa):DV:= .ag [.v (.bool (decide (p.x.num<0))),dN p.x.num.natAbs,dD p.x.den, .v (.bool (decide (p.y.num<0))),dN p.y.num.natAbs,dD p.y.den]
def eL(l:ab):DV:= .ag [.v (.bool (decide (l.a<0))),dN l.a.natAbs, .v (.bool (decide (l.b<0))),dN l.b.natAbs, .v (.bool (decide (l.c<0))),dN l.c.natAbs]
def eR(q:Rat):DV:= .ag [.v (.bool (decide (q.num<0))),dN q.num.natAbs,dN q.den]
def gn(p:aa):DV:= .ag [.v (.bool (decide (p.x.num<0))),dN p.x.num.natAbs,dN p.x.den, .v (.bool (decide (p.y.num<0))),dN p.y.num.natAbs,dN p.y.den]
def vI(n:Int):DV:= .v (.int .i64 n)
def vB(b:Bool):DV:= .v (.bool b)
def Kl(n:Nat):dN n=d8 (dg n):=rfl
def Fw{ds:List Nat}(h:bj ds):d8 (trimD ds)=dN (dv ds):=by unfold d8 dN;rw[jv h]
def Lk{ds:List Nat}{i:Nat}(h:i<ds.length):(ds.map dU)[i]? =some (dU (ds.getD i 0)):=by
 rw[fZ,aX h,aV,aX h];rfl
def K3{ds:List Nat}{i:Nat}(h:i<ds.length):(ds.map dU)[(i:Int).toNat]? =some (dU (ds.getD i 0)):=by rw[bJ];exact Lk h
def sG(ds:List Nat):eh 1 (ds.map dU):=fun d hd=>by
 obtain⟨n,_,rfl⟩:=cX.1 hd;exact⟨rfl,rfl⟩
def Cb:dg 0=[]:=by rw[dg,dif_pos J]
def wx:dg 1=[1]:=by rw[dg,dif_neg (by decide)];simp[Cb]
def sS{n:Nat}:(dg n).length=0↔n=0:=by
 constructor
 ·intro h
  have:=(dB n).1;rw[bK h] at this;exact this.symm
 ·rintro rfl;rw[Cb];rfl
def s4{G:Gh}: ∀{ds:List Nat} {es:List Value},IsLs G (ds.map dU) es↔es=ds.map dI
 |[],es=>b9
 |d::t,es=>by
  rw[bN,bz];constructor
  ·rintro ⟨y,n,rfl,h1,h2⟩
   rw[bh.1 h1,s4.1 h2];rfl
  ·rintro rfl
   exact⟨_,_,J,bh.2 J,s4.2 J⟩
def Bv{G:Gh}{ds:List Nat}{v:Value}:Is G (d8 ds) v↔ ∃x:SV,v= .slice x.a x.n x.c/\di G 1 x (ds.map dI):=by
 unfold d8;rw[f8];constructor
 ·rintro ⟨s,x,es,rfl,h1,h2⟩
  have:=s4.1 h2;subst this;refine⟨x,J,?_⟩;rcases rg (s:=1) h1 h2 (sG ds) with h|h
  ·rw[h] at h1⊢
   exact⟨h1.len,h1.cap, .inl J⟩
  ·subst h;exact h1
 ·rintro ⟨x,rfl,h⟩
  exact⟨1,x,_,J,h,s4.2 J⟩
def HX{G:Gh}{n k:Nat}{v:Value}(hk:n<2^k):Is G (dN n) v↔ ∃x:SV,v= .slice x.a x.n x.c/\dt k G x n:=by
 rw[Kl,Bv];constructor
 ·rintro ⟨x,rfl,h⟩
  exact⟨x,J,⟨(dB n).2.1,h⟩,hk⟩
 ·rintro ⟨x,rfl,h⟩
  exact⟨x,J,h.d.sl⟩
def L4{ds:List Nat}{i:Int}{k:Nat}(hi:i=k)(h:k<ds.length):(ds.map dU)[i.toNat]? =some (dU (ds.getD k 0)):=by subst hi;exact K3 h
class BN (n:Nat) (k:outParam Nat):Prop where h:n<2^k
class BI (m:Int) (k:outParam Nat):Prop where h:m.natAbs<2^k
class BQ (q:Rat) (k:outParam Nat):Prop where
 hn:q.num.natAbs<2^k
 hd:q.den<2^k
def je{a b i j:Nat}(h:a<2^i)(k:b<2^j):a*b<2^(i+j):=by rw[gX];exact Nat.mul_lt_mul'' h k
def qI{a b i j:Nat}(h:a<2^i)(k:b<2^j):a+b<2^(i+j+1):=by
 have h1:2^i<=2^(i+j):=bW (by decide) (by omega);have h2:2^j<=2^(i+j):=bW (by decide) (by omega);rw[fX];omega
instance BN.mul (a b i j:Nat) [h:BN a i] [k:BN b j]:BN (a*b) (i+j):=⟨je h.h k.h⟩
instance BN.add (a b i j:Nat) [h:BN a i] [k:BN b j]:BN (a+b) (i+j+1):=⟨qI h.h k.h⟩
instance BN.sub (a b i:Nat) [h:BN a i]:BN (a-b) i:=⟨by have:=h.h;omega⟩
instance BN.div (a b i:Nat) [h:BN a i]:BN (a/b) i:=⟨eX (iW _ _) h.h⟩
instance BN.abs (m:Int) (i:Nat) [h:BI m i]:BN m.natAbs i:=⟨h.h⟩
instance BN.den (q:Rat) (i:Nat) [h:BQ q i]:BN q.den i:=⟨h.hd⟩
def ur{a b i j:Nat}(h:a<2^i)(k:b<2^j):Nat.gcd a b<2^(i+j):=by
 have h1:2^i<=2^(i+j):=bW (by decide) (by omega);have h2:2^j<=2^(i+j):=bW (by decide) (by omega);rcases dJ a with h0|h0
 ·subst h0;rw[Nat.gcd_zero_left];omega
 ·have:=Nat.gcd_le_left b h0;omega
instance BN.gcd (a b i j:Nat) [h:BN a i] [k:BN b j]:BN (Nat.gcd a b) (i+j):=⟨ur h.h k.h⟩
instance BN.one:BN 1 1:=⟨by decide⟩
instance BN.zero:BN 0 0:=⟨by decide⟩
instance BI.mul (a b:Int) (i j:Nat) [h:BI a i] [k:BI b j]:BI (a*b) (i+j):=⟨by rw[fV];exact je h.h k.h⟩
instance BI.add (a b:Int) (i j:Nat) [h:BI a i] [k:BI b j]:BI (a+b) (i+j+1):=⟨eX (Int.natAbs_add_le a b) (qI h.h k.h)⟩
instance BI.sub (a b:Int) (i j:Nat) [h:BI a i] [k:BI b j]:BI (a-b) (i+j+1):=⟨eX (Int.natAbs_sub_le a b) (qI h.h k.h)⟩
instance BI.neg (a:Int) (i:Nat) [h:BI a i]:BI (-a) i:=⟨by rw[fW];exact h.h⟩
instance BI.num (q:Rat) (i:Nat) [h:BQ q i]:BI q.num i:=⟨h.hn⟩
instance BI.nat (n:Nat) (i:Nat) [h:BN n i]:BI (n:Int) i:=⟨by rw[iZ];exact h.h⟩
def kh(q:Rat):0<q.den:=iQ q.den_nz
theorem sZ{m:Int}{d i:Nat}(hd:0<d)(h:m.natAbs<2^i)(k:d<2^i):BQ (mkRat m d) i:=by
 refine⟨?_,?_⟩
 ·rw[Rat.num_mkRat,if_neg (by omega)]
  have:=iM m (d.gcd m.natAbs:Nat);omega
 ·rw[Rat.den_mkRat,if_neg (by omega)]
  have:=iW d (d.gcd m.natAbs);omega
theorem BQ.mono{q:Rat}{k k':Nat}(h:BQ q k)(hk:k<=k'):BQ q k':=⟨cN h.hn (bW (by decide) hk),cN h.hd (bW (by decide) hk)⟩
def uF(p q:Rat):p*q=mkRat (p.num*q.num) (p.den*q.den):=by rw[Rat.mul_def,Rat.normalize_eq_mkRat]
def tr(p q:Rat):p+q=mkRat (p.num*q.den+q.num*p.den) (p.den*q.den):=by rw[Rat.add_def,Rat.normalize_eq_mkRat]
instance BQ.mul (p q:Rat) (i j:Nat) [h:BQ p i] [k:BQ q j]:BQ (p*q) (i+j):=by
 rw[uF];exact sZ (iV (kh p) (kh q)) (BI.mul p.num q.num i j).h (je h.hd k.hd)
instance BQ.add (p q:Rat) (i j:Nat) [h:BQ p i] [k:BQ q j]:BQ (p+q) (i+j+1):=by
 rw[tr];refine sZ (iV (kh p) (kh q)) ?_ ?_
 ·have h1:=je h.hn k.hd
  have h2:=je k.hn h.hd;have h3:(p.num*q.den+q.num*p.den).natAbs<=(p.num*q.den).natAbs+(q.num*p.den).natAbs:=Int.natAbs_add_le ..;rw[fV,fV,iZ,iZ] at h3;rw[mJ j i] at h2;rw[fX];omega
 ·have h1:=je h.hd k.hd
  rw[fX];omega
instance BQ.neg (p:Rat) (i:Nat) [h:BQ p i]:BQ (-p) i:=⟨by rw[jK,fW];exact h.hn,by rw[lN];exact h.hd⟩
instance BQ.sub (p q:Rat) (i j:Nat) [h:BQ p i] [k:BQ q j]:BQ (p-q) (i+j+1):=by
 rw[Rat.sub_eq_add_neg];exact BQ.add p (-q) i j
instance BQ.ofInt (m:Int) (i:Nat) [h:BI m i]:BQ (m:Rat) (i+1):=by
 refine⟨?_,?_⟩
 ·rw[Rat.num_intCast];have:=h.h;rw[fX];omega
 ·rw[mM];have:0<2^i:=fN (by decide);rw[fX];omega
end Go.Sx
end
section
namespace Go.Sx
open Go Go.Proofs Tryz
variable {GB:Gh}
def ON(p q:Int):Nat:=(BitVec.ofInt 32 p &&& BitVec.ofInt 32 q).toNat
def NZ(p q:Int):Nat:=(BitVec.ofInt 32 p ||| BitVec.ofInt 32 q).toNat
def OU(p q:Int):Nat:=(BitVec.ofInt 32 p^^^BitVec.ofInt 32 q).toNat
def Ho{ds:List Nat}{n:Nat}(h:0<n/\n<=ds.length)(hz:ds.getD (n-1) 0=0):trimD (ds.take n)=trimD (ds.take (n-1)):=by
 obtain⟨m,rfl⟩: ∃m,n=m+1:=⟨n-1,by omega⟩;rw[dZ (by omega),iL];rw[iL,aV,aX (by omega)] at hz;simp only[hZ] at hz;rw[hz,EC]
def IT{ds:List Nat}{n:Nat}(h:n<=ds.length)(hz:0<n->ds.getD (n-1) 0≠0):trimD (ds.take n)=ds.take n:=by
 rcases dJ n with h0|h0
 ·subst h0;simp[trimD]
 ·obtain⟨m,rfl⟩: ∃m,n=m+1:=⟨n-1,by omega⟩
  have hz:=hz h0;rw[dZ (by omega)];rw[iL,aV,aX (by omega)] at hz;exact tV (by simpa using hz)
def Kd{ds:List Nat}(hl:ds.length<=1125899906842624):PF GB prog 134 [d8 ds] (d8 (trimD ds)):=by
 refine fn func134 J J ntmps134 J J (fun C=>?_);refine lp (X:=Nat) (fun n=>[(0, .d (d8 ds)),(3, .d (vI (n:Nat)))]) (fun n=>[]) (fun n=>n<=ds.length/\trimD ds=trimD (ds.take n)) (fun n=>n) ds.length J ⟨bZ _,by rw[dX]⟩ (fun _=>J) (fun n hk=>?_);obtain⟨h1,h2⟩:=hk;refine cs 8 J J J (fun hg8=>?_) (fun hg8=>?_)
 .
  refine ix _ J (L4 (k:=n-1) (by omega) (by omega)) J<|?_;refine br J J J (fun hc15=>?_) (fun hc15=>?_)
  .
   have hz:ds.getD (n-1) 0=0:=by omega
   exact at_ (n-1) ⟨⟨by omega,by rw[h2,Ho (by omega) hz]⟩,(by omega)⟩
  .
   refine Ei 0 n _ J J J J (sG _) (by omega) (by simp;omega) J<|?_;exact rz J (by have:=IT h1 (fun _ h=>hc15 (by omega));rw[<-h2] at this;show DV.sl _=_;simp[d8,this])
 .
  refine Ei 0 n _ J J J J (sG _) (by omega) (by simp;omega) J<|?_;exact rz rfl (by obtain rfl:n=0:=(by omega);show DV.sl _=_;simp[d8,h2,trimD])
def dz(a:Nat):dv (dg a)=a:=(dB a).1
def D8(ds:List Nat):(ds.map dU).length=ds.length:=aZ ..
def JC{ds:List Nat}{n:Nat}(h:bj ds)(e:dv ds=n):d8 (trimD ds)=dN n:=by rw[Fw h,e]
def GU(u:Nat):dv [u%4294967296,u/4294967296]=u:=by simp only[dv];omega
def LJ{u:Nat}(h:u<18446744073709551616):bj [u%4294967296,u/4294967296]:= .cons (by omega) (.cons (by omega) .nil)
def ID(u:Nat):(u:Int).fdiv (2^min (32:Int).toNat IntKind.u64.bits)=((u/4294967296:Nat):Int):=by
 rw[show(2:Int)^min (32:Int).toNat IntKind.u64.bits=((4294967296:Nat):Int) from J,fR _ (by decide)];rfl
def Eo{u:Nat}(hu:u<18446744073709551616):PF GB prog 86 [.v (.int .u64 (u:Int))] (dN u):=by
 refine fn (fu:=⟨11⟩) (hv:=by simp only[ah];exact(by decide)) func86 J J ntmps86 J J (fun C=>?_);refine aF 6 (.d (.v (.int .u64 (u/4294967296:Nat)))) J (by rw[ID]) ?_;refine gx J<|rf (fu:=⟨0⟩) J J<|?_;refine aF 8 (.d (d8 [u%4294967296,u/4294967296])) J (by show FX.d (.sl [.v (.int _ _), .v (.int _ _)])= .d (.sl [.v (.int _ _), .v (.int _ _)]);congr 6;omega) ?_;refine gx J<|cl J (Kd (ds:=[u%4294967296,u/4294967296]) (by simp)) J<|?_;exact rz J (JC (LJ hu) (GU u))
def JP:PF GB prog 132 [] (dN 1):=by
 refine fn func132 J J ntmps132 J J (fun C=>?_);refine rf J J<|?_;exact rz J (by unfold dN;rw[wx];rfl)
def getD_set_ne{W:List Nat}{i j d:Nat}(h:i≠j):(W.set i d).getD j 0=W.getD j 0:=by
 rw[aV,aV,List.getElem?_set_ne h]
def NW(a:Nat):DV:= .tp [.v (.int .u64 ((if a<18446744073709551616 then a else 0:Nat):Int)),vB (decide (a<18446744073709551616))]
def D6{G:Gh}{ds:List Nat}{v:Value}(hd:bj ds)(h:Is G (d8 ds) v): ∃x:SV,v=x.v/\bu G x ds:=by
 obtain⟨x,rfl,h1⟩:=Bv.1 h;exact⟨x,J,hd,h1⟩
def dt.is{G:Gh}{k n:Nat}{z:SV}(h:dt k G z n):Is G (dN n) z.v:=(HX h.lt).2 ⟨z,J,h⟩
def qt{G:Gh}{ds:List Nat}{vs:List Value}(hd:bj ds)(h:IsLs G [d8 ds] vs): ∃x:SV,vs=[x.v]/\bu G x ds:=by
 obtain⟨v,m,rfl,h1,h2⟩:=bz.1 h
 cases b9.1 h2
 obtain⟨x,rfl,h3⟩:=D6 hd h1;exact⟨x,J,h3⟩
def pJ{G:Gh}{a b:Nat}{vs:List Value}(h:IsLs G [dN a,dN b] vs): ∃x y:SV,vs=[x.v,y.v]/\bu G x (dg a)/\bu G y (dg b):=by
 obtain⟨v,m,rfl,h1,h2⟩:=bz.1 h;obtain⟨y,rfl,h4⟩:=qt (dB b).2.1 h2;obtain⟨x,rfl,h3⟩:=D6 (dB a).2.1 h1;exact⟨x,y,J,h3,h4⟩
section
variable {GB:Gh} {a b i j:Nat}
def gv[h:BN a i](hi:i<=1000000000):(dg a).length<=31250001:=by have:=rX h.h;omega
def xb{ds:List Nat}(hd:bj ds)(hl:ds.length<=1125899906842624):PF GB prog 243 [d8 ds] (vB (decide (cG ds))):=fun G vs _ hv=>by
 obtain⟨x,rfl,hx⟩:=qt hd hv;exact(FB hx hl).mono fun v G' _ h=>bh.2 h
def l4[h:BN a i](hi:i<=1000000000:=by decide):PF GB prog 171 [dN a] (vI (bl a:Nat)):=fun G vs _ hv=>by
 obtain⟨x,rfl,hx⟩:=qt (dB a).2.1 hv;have:=gv (a:=a) hi;exact(KK hx (by omega)).mono fun v G' _ h=>bh.2 (by rw[h,dz])
def ot[h:BN a i](hi:i<=1000000000:=by decide):PF GB prog 176 [dN a] (dN a):=fun G vs _ hv=>by
 obtain⟨x,rfl,hx⟩:=qt (dB a).2.1 hv;have:=gv (a:=a) hi;refine(uN (k:=i) hx (by rw[dz];exact h.h) (by omega)).mono fun v G' _ h=>?_;obtain⟨z,rfl,h⟩:=h;rw[dz] at h;exact h.is
def wg(h:a<18446744073709551616):PF GB prog 177 [.v (.int .u64 (a:Nat))] (dN a):=fun G vs _ hv=>by
 obtain⟨v,m,rfl,h1,h2⟩:=bz.1 hv
 cases b9.1 h2
 rw[bh.1 h1];refine(tj h).mono fun v G' _ h=>?_;obtain⟨z,rfl,h⟩:=h;exact h.is
def uz(h:a<18446744073709551616):PF GB prog 175 [dN a] (.tp [.v (.int .u64 (a:Nat)),vB true]):=fun G vs _ hv=>by
 obtain⟨x,rfl,hx⟩:=qt (dB a).2.1 hv;have:BN a 64:=⟨h⟩;have:=gv (a:=a) (i:=64) (by decide);refine(wQ hx (by omega)).mono fun v G' _ e=>?_;rw[dz,if_pos h,decide_eq_true h] at e;subst e;exact jA.2 ⟨_,J, .cons (bh.2 J) (.cons (bh.2 J) .nil)⟩
def JA[h:BN a i][k:BN b j](hi:i<=1000000000:=by decide)(hj:j<=1000000000:=by decide):PF GB prog 252 [dN a,dN b] (dN (a+b)):=fun G vs _ hv=>by
 obtain⟨x,y,rfl,hx,hy⟩:=pJ hv;have:=gv (a:=a) hi;have:=gv (a:=b) hj;refine(J9 (kk:=i+j+1) hx hy (by rw[dz,dz];exact qI h.h k.h) (by omega) (by omega)).mono fun v G' _ h=>?_;obtain⟨z,rfl,h⟩:=h;rw[dz,dz] at h;exact h.is
def DT[h:BN a i][k:BN b j](hi:i<=1000000000:=by decide)(hj:j<=1000000000:=by decide):PF GB prog 253 [dN a,dN b] (.tp [dN (a-b),vB (decide (b<=a))]):=fun G vs _ hv=>by
 obtain⟨x,y,rfl,hx,hy⟩:=pJ hv;have:=gv (a:=a) hi;have:=gv (a:=b) hj;refine(Mh (kk:=i) hx hy (by rw[dz];exact h.h) (by omega) (by omega)).mono fun v G' _ h=>?_;obtain⟨z,rfl,h⟩:=h;rw[dz,dz] at h⊢;exact jA.2 ⟨_,J, .cons h.is (.cons (bh.2 J) .nil)⟩
def o9[h:BN a i][k:BN b j](hi:i<=1000000000:=by decide)(hj:j<=1000000000:=by decide):PF GB prog 238 [dN a,dN b] (dN (a*b)):=fun G vs _ hv=>by
 obtain⟨x,y,rfl,hx,hy⟩:=pJ hv;have:=gv (a:=a) hi;have:=gv (a:=b) hj;refine(Kk (kk:=i+j) hx hy (by rw[dz,dz];exact je h.h k.h) (by omega) (by omega)).mono fun v G' _ h=>?_;obtain⟨z,rfl,h⟩:=h;rw[dz,dz] at h;exact h.is
def AV[h:BN a i][k:BN b j](hb:0<b)(hi:i<=1000000000:=by decide)(hj:j<=1000000000:=by decide):PF GB prog 173 [dN a,dN b] (.tp [dN (a/b),dN (a%b),vB true]):=fun G vs _ hv=>by
 obtain⟨x,y,rfl,hx,hy⟩:=pJ hv;have:=gv (a:=a) hi;have:=gv (a:=b) hj;refine(t7 (k1:=i) (k2:=j) hx hy (by rw[dz];exact hb) (by rw[dz,dz];exact eX (iW _ _) h.h) (by rw[dz,dz];exact kN (cM _ hb) k.h) (by omega) (by omega)).mono fun v G' _ h=>?_;obtain⟨z,r,rfl,h,h'⟩:=h;rw[dz,dz] at h h';exact jA.2 ⟨_,J, .cons h.is (.cons h'.is (.cons (bh.2 J) .nil))⟩
def uv[h:BN a i][k:BN b j](hi:i<=1000000000:=by decide)(hj:j<=1000000000:=by decide):PF GB prog 172 [dN a,dN b] (dN (Nat.gcd a b)):=fun G vs _ hv=>by
 obtain⟨x,y,rfl,hx,hy⟩:=pJ hv;have:=gv (a:=a) hi;have:=gv (a:=b) hj;have e: ∀k',k'<=i+j->(2:Nat)^k'<=2^(i+j):=fun k' h=>bW (by decide) h;have:=e i (by omega);have:=e j (by omega);have:=h.h;have:=k.h;refine(Ms (k:=i+j) (k0:=i+j) hx hy (by rw[dz];omega) (by rw[dz];omega) (by omega) (by rw[dz,dz];exact ur h.h k.h) (by omega) (by omega)).mono fun v G' _ h=>?_;obtain⟨z,rfl,h⟩:=h;rw[dz,dz] at h;exact h.is
end
section
variable {GB:Gh} {C:au} {n:Nat} {Q0:Exit->Act->World->Prop} {fr fr' fr1 fr2:ak} {own own' own1 own2:aw} {cf cf' cf1 cf2:Cf} {vc vc1 vc2:List Prop}
def fA{fb:Func}{e:Exit}{ds:List DV}{rv:DV}(hr:ku tt fr own fb.results.toList=some ds)(hd: ∀G y,Is G (jj ds) y->Is G rv y)(he:p8 e=true:=by rfl):aj prog GB C n (fg C prog fb (fk C (fun v G'=>Is G' rv v))) fr own (.ex e []):=by
 refine⟨fun ρ G ov a w r=>?_⟩;obtain⟨vs,h1,h2⟩:=qQ r hr;have hk:Is G rv (d5 vs):=hd _ _ (r4 h2)
 cases e with
 |ret=>exact zD (C:=C) (n:=n) (fr:=cj a) (own:=ov) (G:=G) (K:=fun v G'=>Is G' rv v) h1 hk a w ⟨r.h,r.sz,ck a,r.df⟩
 |normal=>exact ui (C:=C) (n:=n) (fr:=cj a) (own:=ov) (G:=G) (K:=fun v G'=>Is G' rv v) h1 hk a w ⟨r.h,r.sz,ck a,r.df⟩
 |_=>cases he
def CN(fr:ak)(cf:Cf):Option (Int×IntKind):=match bt fr cf with
 |some ⟨_, .convert t t' x,_,_,_,_⟩=>match b6 tt t,b6 tt t',az (aH fr cf) x with
  |some ⟨.int k,_,_,_⟩,some ⟨.int k',_,_,_⟩,some (.d (.v (.int j p)))=>bif kq k j then some (p,k') else none
  |_,_,_=>none
 |_=>none
def cu[fu:Fu]{p:Int}{k':IntKind}(u:Int)(h:CN fr cf=some (p,k'))(e:k'.wrap p=u)(hgo:b7 tt n fu.n fr own cf (.d (.v (.int k' u))) [] []=⟨vc,fr',own',cf'⟩)(k:aj prog GB C n Q0 fr' own' cf')
  (hv:ah vc:=by first|exact trivial|(simp only[ah];kernel_rfl)|(simp only[ah];omega)):aj prog GB C n Q0 fr own cf:=by
 unfold CN at h;split at h<;>try (cases h;done)
 rename_i hh;split at h<;>try (cases h;done)
 rename_i k0 _ _ _ k1 _ _ _ j p0 hT hT' hx
 cases hk:kq k0 j with
 |false=>rw[hk] at h;cases h
 |true=>
  rw[hk,cond_true] at h;cases h;cases sE hk;have:=n4 (c' _ _ hT) J;have:=n4 (c' _ _ hT') J;subst e;refine us hh (.x1 hx fun ρ G ov a w y _ r h1 h2=>?_) hgo hv k;rw[co] at h2;subst h2;exact⟨_,co.2 J,qP h1⟩
def AM(fr:ak)(cf:Cf):Option (Int×IntKind):=match bt fr cf with
 |some ⟨_, .unOp .neg _ x,_,_,_,_⟩=>match az (aH fr cf) x with
  |some (.d (.v (.int j p)))=>some (p,j)
  |_=>none
 |_=>none
def nu[fu:Fu]{p:Int}{k':IntKind}(u:Int)(h:AM fr cf=some (p,k'))(e:k'.wrap (0-p)=u)(hgo:b7 tt n fu.n fr own cf (.d (.v (.int k' u))) [] []=⟨vc,fr',own',cf'⟩)(k:aj prog GB C n Q0 fr' own' cf')
  (hv:ah vc:=by first|exact trivial|(simp only[ah];kernel_rfl)|(simp only[ah];omega)):aj prog GB C n Q0 fr own cf:=by
 unfold AM at h;split at h<;>try (cases h;done)
 rename_i hh;split at h<;>cases h;rename_i hx;subst e;exact us hh (.x1 hx fun ρ G ov a w y _ r h1 h2=>by
  rw[co] at h2;subst h2;exact⟨_,co.2 J,uu h1⟩) hgo hv k
end
end Go.Sx
end
