import Derived.Test.YtidmgdlbilojcaaGreatDoorMa3
set_option linter.all false
set_option maxHeartbeats 2000000
set_option maxRecDepth 100000
section
namespace Go.Sx
open Go Go.Proofs Tryz
def R7{V n:Nat}(h1:4294967296^(n-1)<=V)(h2:V<4294967296^n)(hn:0<n):(dg V).length=n:=by
 obtain⟨e,hk,hr⟩:=eo V;have hne:dg V≠[]:=fun h=>by
  rw[h] at e;have:0<4294967296^(n-1):=fZ (by decide);simp[dv] at e;omega
 have h3:=r4 hr hne;have h4:=jx hk;rw[e] at h3 h4;have h5:=(nS (a:=4294967296) (by decide)).1 (fJ h3 h2);have h6:=(nS (a:=4294967296) (by decide)).1 (fJ h1 h4);omega
def SZ{t s:Nat}(h0:0<t)(ht:t<4294967296)(hs:s=32-bl t):s<32/\2147483648<=t*2^s/\(t+1)*2^s<=4294967296:=by
 have h1:bl t<=32:=oo.2 ht;have h2:bl t≠0:=fun h=>by
  have:=BJ t;rw[h] at this;omega
 have h3:=BJ t;have h4: ¬t<2^(bl t-1):=fun h=>by
  have:=oo.2 h;omega
 have e1:2^(bl t-1)*2^s=2147483648:=by rw[<-eJ,show bl t-1+s=31 by omega]
 have e2:2^bl t*2^s=4294967296:=by rw[<-eJ,show bl t+s=32 by omega]
 refine⟨by omega,?_,?_⟩
 ·rw[<-e1];exact bK _ (by omega)
 ·rw[<-e2];exact bK _ h3
def aHM{us:List Nat}(h:bp us)(i:Nat)(hd:us.length=i+1):dv us=us.getD i 0*4294967296^i+dv (us.take i):=by
 have h0:dv (us.drop (i+1))=0:=by rw[fL (by omega)];rfl
 rw[yK us i,xF us i,h0,jY,cZ];rfl
def PA{b:List Nat}(h:d4 b)(i:Nat)(hi:b.length=i+1):0<b.getD i 0:=by
 rcases fR (b.getD i 0) with h0|h0
 ·exfalso
  apply h;rw[lW,hi,show i+1-1=i from J];rw[List.getD,aZ (by omega)] at h0;rw[aZ (by omega)];simpa using h0
 ·exact h0
def ayp(a:List Nat)(k:Nat):dv (a++List.replicate k 0)=dv a:=by rw[yE,xD];simp
structure W9 where
 us:List Nat
 qs:List Nat
 j:Nat
structure Yp where
 g:Nat
 r:Nat
structure Oz where
 ws:List Nat
 k:Nat
 bo:Nat
 c:Nat
def UP{P:Program}{t:TypeId}(c:Nat)(h:c<18446744073709551616)(w:World):(binOp .and t (.int .u64 (c:Int)) (.int .u64 4294967295)).run P w= .ok (.int .u64 ((c%4294967296:Nat):Int)) w:=by
 have h1:(BitVec.ofInt 64 (c:Int) &&& BitVec.ofInt 64 4294967295).toNat=c%4294967296:=by
  rw[BitVec.toNat_and,BitVec.ofInt_natCast,BitVec.toNat_ofNat,fW (by omega),show(BitVec.ofInt 64 4294967295).toNat=2^32-1 from J,Nat.and_two_pow_sub_one_eq_mod]
 have h2:IntKind.u64.wrap ((c%4294967296:Nat):Int)=((c%4294967296:Nat):Int):=by rw[nE];omega
 simp only[binOp];show(Op.intBits .and .u64 (c:Int) 4294967295).run P w=_;unfold Op.intBits;show(pure (Value.int .u64 (IntKind.u64.wrap ((BitVec.ofInt 64 (c:Int) &&& BitVec.ofInt 64 4294967295).toNat:Int))):Sem Value).run P w=_;rw[h1,h2,run_pure]
def ta(u m bo:Nat):Nat:=if m+bo<=u then u-(m+bo) else u+18446744073709551616-(m+bo)
def DX(u m bo:Nat)(hu:u<4294967296)(hm:m<4294967296)(hb:bo<=1):IntKind.u64.wrap (IntKind.u64.wrap ((u:Int)-(m:Int))-(bo:Int))=((ta u m bo:Nat):Int):=by
 rw[nE,nE];unfold ta;split<;>omega
def Nj(u m bo:Nat)(hu:u<4294967296)(hm:m<4294967296)(hb:bo<=1):ta u m bo%4294967296+(m+bo)=u+ta u m bo/9223372036854775808*4294967296/\ta u m bo/9223372036854775808<=1/\ta u m bo<18446744073709551616:=by
 unfold ta;split<;>omega
def axQ{A B G:Gh}{x y:SV}{a b:List Nat}{k1 k2:Nat}(hx:cj A x a)(hy:cj B y b)[GL A G][GL B G](hna:d4 a)(hnb:d4 b)(hb2:2<=b.length)(hle:dv b<=dv a)
  (hq:dv a/dv b<2^k1)(hr:dv a%dv b<2^k2)(hl:a.length<=112589990684):
  Fn prog 252 [x.v,y.v] G (fun v G'=> ∃z r:SV,v= .tuple #[z.v,r.v]/\fP k1 G' z (dv a/dv b)/\fP k2 G' r (dv a%dv b)):=by
 have hxl:=hx.len;have hyl:=hy.len;obtain⟨n,hn⟩: ∃n,b.length=n+2:=⟨b.length-2,by omega⟩;have hbp:0<dv b:=iM fun h=>by
  rw[Vu hnb] at h;rw[h] at hn;simp at hn
 have hnm:b.length<=a.length:=by
  rcases iR a.length b.length with h|h
  ·have:=tE hx.ok hnb h
   omega
  ·exact h
 have htp:=PA hnb (n+1) hn;have htl:=hy.ok.get (n+1);have hbv:=aHM hy.ok (n+1) hn;have hbt:=Eb hy.ok (n+1);obtain⟨s,hs⟩: ∃s,s=32-bl (b.getD (n+1) 0):=⟨_,rfl⟩;obtain⟨hs32,hs1,hs2⟩:=SZ htp htl hs;have hble:bl (b.getD (n+1) 0)<=32:=oo.2 htl;have hpn:0<4294967296^(n+1):=fZ (by decide);have hps:0<2^s:=fZ (by decide);have hV1:2147483648*4294967296^(n+1)<=dv b*2^s:=by
  refine cY (bK _ hs1) ?_;rw[cX,cZ (2^s),<-cX];exact bK _ (by omega)
 have hV2:dv b*2^s<4294967296^(n+2):=by
  refine dJ (kN (k:=2^s) (m:=(b.getD (n+1) 0+1)*4294967296^(n+1)) (by rw[cS,lM];omega) hps) ?_;rw[cX,cZ (4294967296^(n+1)),<-cX,uG (n+1),cZ _ 4294967296];exact bK _ hs2
 have hVl:(dg (dv b*2^s)).length=n+2:=R7 (by show 4294967296^(n+1)<=_;omega) hV2 (by omega);have hal:=jx hx.ok;have hU2:dv a*2^s<4294967296^(a.length+1):=by
  rw[uG];exact oX hal (dJ (sK (by decide) hs32) (by decide))
 have hUl1:(dg (dv a*2^s)).length<=a.length+1:=by
  have h1:=RT (eo (dv a*2^s)).2.2 (k:=32*(a.length+1)) (by rw[(eo _).1,pT];exact hU2);omega
 have hUl0:a.length<=(dg (dv a*2^s)).length:=by
  have hane:a≠[]:=fun h=>by
   have:=congrArg List.length h;simp only[fX] at this;omega
  have h1:=r4 hna hane;have h2:=jx (eo (dv a*2^s)).2.1;rw[(eo _).1] at h2;have h3:dv a<=dv a*2^s:=rK _ hps;have h4:=(nS (a:=4294967296) (by decide)).1 (fJ (cY h1 h3) h2);omega
 have hU3:dv a*2^s<dv b*2^s*4294967296^(a.length-n-1):=by
  have h1:4294967296^(n+1)*4294967296^(a.length-n-1)=4294967296^a.length:=by rw[<-eJ,show n+1+(a.length-n-1)=a.length by omega]
  refine dJ (kN hal hps) (cY (dS _ (bY (by decide) (show s<=31 by omega))) ?_);rw[<-h1,cZ,<-cX];exact bK _ hV1
 have hta:=Rd hna;have htb:=Rd hnb;refine Fn.intro func252 J J ntmps252 J ?_;intro C _ _;refine sR<|sa J J<|sa J J<|zE<|TN<|sR<|sm J J<|sm J J<|cE J J<|sy (jD J J) J<|?_;refine sy (iB hy J J (by omega) (by omega)) J<|?_;rw[show((y.n:Int)-1).toNat=n+1 by omega];refine sy (ir hy J (by omega)) J<|?_;refine sc (zC J J (EW htl) J ?_);rintro _ G1 _ rfl;refine sy (gA J) J<|?_;rw[show(32-(bl (b.getD (n+1) 0):Int))=(s:Int) by omega];refine sa J J<|zE<|sR<|sm J J<|sm J J<|?_;refine sc (zC J J (Kg (kk:=32*(a.length+1)) hx hs32 (by rw[pT];exact hU2) (by omega)) J ?_);rintro _ G2 _ ⟨u,rfl,hu,huc⟩;have hul:=hu.len;rw[hta] at huc;refine sc (Bv (by rfl) (by rfl) (by rfl) (by rfl) J ?_);intro b3;refine sc (yT (z:= .int .u32 0) (m:=2) J J (Rq hu.d) (wj inferInstance J) (by omega) (by decide) (by omega) J ?_);intro b4 cap h1;have ecs:(dg (dv a*2^s)).map dI++[Value.int .u32 0, .int .u32 0]++de (.int .u32 0) (cap-(u.n+2))=(dg (dv a*2^s)++List.replicate (cap-u.n) 0).map dI:=by
  rw[vo,show cap-u.n=(cap-(u.n+2))+1+1 by omega,mV,mV];simp[dI]
 rw[ecs];clear ecs;have hus:dv (dg (dv a*2^s)++List.replicate (cap-u.n) 0)=dv a*2^s:=by rw[ayp,(eo _).1]
 have huo:bp (dg (dv a*2^s)++List.replicate (cap-u.n) 0):=(eo _).2.1.append (.replicate _);have hulen:(dg (dv a*2^s)++List.replicate (cap-u.n) 0).length=cap:=by simp;omega
 generalize dg (dv a*2^s)++List.replicate (cap-u.n) 0=us0 at hus huo hulen⊢;refine sm J J<|cE J J<|sy (dC J J) J<|sy (xh J J (by omega) (by omega)) J<|sa J J<|zE<|sR<|sm J J<|?_;refine sm J J<|?_;refine sc (zC J J (Kg (kk:=32*(n+2)) hy hs32 (by rw[pT];exact hV2) (by omega)) J ?_);rintro _ G4 _ ⟨v,rfl,hv,_⟩;have hvl:=hv.len;obtain⟨hvv,hvo,hvn⟩:=eo (dv b*2^s);replace hv:=hv.d;rw[hVl] at hvl;generalize hvs:dg (dv b*2^s)=vs at*;refine sa J J<|zE<|sR<|sm J J<|cE J J<|sa J J<|zE<|bt<|dr (fun _=>false) [(0,true),(1,true),(2,true),(3,true),(4,true),(5,true),(6,true),(7,true),(8,true),(9,true),(10,true),(11,true),(12,true),(13,true)] follows (by kernel_rfl)<|?_;refine dM J J J<|dM J J J<|dy J (fun _=>jD J J (by omega) (by omega)) J J<|dy J (fun _=>iB hv J J (by omega) (by omega)) J J<|?_;rw[show((v.n:Int)-1).toNat=n+1 by omega];have hvt:=hvo.get (n+1);have hv2:=hvo.get n;refine dy J (fun _=>ir hv J (by omega)) J J<|dy J (fun _=>gA J (by omega) (by omega)) J J<|dM J J J<|dM J J J<|?_;refine dy J (fun _=>jD J J (by omega) (by omega)) J J<|dy J (fun _=>iB hv J J (by omega) (by omega)) J J<|?_;rw[show((v.n:Int)-2).toNat=n by omega];refine dy J (fun _=>ir hv J (by omega)) J J<|?_;refine dy J (fun _=>gA J (by omega) (by omega)) J J<|dA J J J<|dA J J J<|dn<|sR<|sm J J<|?_;refine cE J J<|sm J J<|sy (jD J J) J<|?_;obtain⟨l,hlq⟩: ∃l,a.length=n+1+l:=⟨a.length-n-1,by omega⟩;rw[show a.length-n-1=l by omega] at hU3;rw[show(((x.n:Int)+1).toNat:Int)-v.n=(l:Nat) by omega,show((x.n:Int)+1).toNat=a.length+1 by omega]
 refine sc (sH J J (by omega) (by omega) (by omega) (by rfl) J ?_);intro b5;rw[vo,aM];refine I6 [_,_] (.cons_cons _ (.cons_cons _ (.cons _ .slnil))) ?_;refine sa J J<|zE<|bt<|T6<|bt<|sR<|sm J J<|cE J J<|sy (jD J J) J<|sa J J<|zE<|dE<|?_;refine lx (X:=W9) (fun q=>[(13, .int .i64 ((q.j:Int)-1)),(7, .slice (some ⟨b4,0,none⟩) (a.length+1) cap),(9, .int .i64 v.n),(10, .int .u64 (vs.getD (n+1) 0:Nat)),(11, .int .u64 (vs.getD n 0:Nat)),(8, .slice v.a v.n v.c),(12, .slice (some ⟨b5,0,none⟩) l l),(6, .int .u64 s)])
  (fun q=>[⟨b5,q.qs.map dI,215,true⟩,⟨b4,q.us.map dI,215,true⟩])
  (fun q _=>q.us.length=cap/\bp q.us/\q.qs.length=l/\bp q.qs/\q.j<=l/\(∀i,i<q.j->q.qs.getD i 0=0)/\dv a*2^s=dv q.us+dv vs*dv q.qs/\dv q.us<dv vs*4294967296^q.j) (fun q=>q.j) ⟨us0,List.replicate l 0,l⟩
  ⟨hulen,huo,by simp, .replicate _,aN _,fun i _=>by simp[List.getD,List.getElem?_replicate];split<;>rfl,by simp only[xD];omega,by simp only[hus,hvv];exact hU3⟩ (.cons J (.cons J (.cons J (.cons J (.cons J (.cons J (.cons J (.cons J .nil)))))))) J ?_
 rintro ⟨us,qs,j⟩ Gx _ ⟨hul2,huo2,hql,hqo,hjl,hq0,hinv,hlt⟩;simp only[] at hul2 huo2 hql hqo hjl hq0 hinv hlt⊢;refine bt<|sR<|sm J J<|sy (uX J J) J<|zE<|?_;refine ly J (fun hc=>?_) (fun hc=>?_) -- slot 68
 ·have hj0:j=0:=by omega
  subst hj0;refine jm<|d6<|d6<|ji<|bt<|?_;refine qk b5 (.hd ..) (fun G5 _ hgb5=>?_);refine qk b4 (.hd ..) (fun G6 _ hgb4=>?_);refine dr (fun _=>false) [(0,true),(2,true),(3,true),(4,true),(5,true),(1,false),(6,false),(7,true),(8,true)] follows (by kernel_rfl)<|?_;have hDq:cj G6 ⟨some ⟨b5,0,none⟩,l,l⟩ qs:= .of_block hqo (hgb5.up (G:=G6)) hql.symm (aN _) (by rw[aT (by simp)]);have hut:dv (us.take (n+2))=dv us:=by
   have h0:=yK us (n+2);rw[CQ (by rw[rU,iX,hvv] at hlt;omega)] at h0;omega
  have hDu:cj G6 ⟨some ⟨b4,0,none⟩,n+2,cap⟩ (us.take (n+2)):= .of_block (huo2.take _) hgb4.h (by simp;omega) (by omega) (by rw[gN,cR,iY (by omega)]);have hV0:0<dv vs:=by rw[hvv];exact iJ hbp hps
  rw[rU,iX] at hlt;have hdq:dv a/dv b=dv qs:=by
   rw[<-Nat.mul_div_mul_right _ _ hps,hinv,<-hvv,mQ _ _ hV0,kZ hlt,dT]
  have hdr:dv a%dv b=dv (us.take (n+2))/2^s:=by
   have:dv us=dv a%dv b*2^s:=by
    rw[<-rM,hinv,<-hvv,nJ,fW hlt]
   rw[hut,this,Nat.mul_div_cancel _ hps]
  refine dM J J J<|dM J J J<|dM J J J<|dy J (fun _=>xh J J (by omega) (by omega)) J J<|?_;rw[show(v.n:Int).toNat=n+2 by omega];refine dM J J J<|?_;refine dc J J (zC J J (jk hDq (by omega)) J ?_);rintro _ G7 _ rfl;refine l5<|?_;refine dc J J (zC J J (aDa (kk:=k2) hDu hs32 (by rw[<-hdr];exact hr) (by simp;omega)) J ?_);rintro _ G8 _ ⟨r,rfl,hr8⟩;refine l5<|dA J J J<|dA J J J<|dn<|cH<|?_;refine zD (.tmp J (.tmp J .nil)) ⟨⟨some ⟨b5,0,none⟩,(trimD qs).length,l⟩,r,J,?_,?_⟩
  ·rw[hdq]
   refine⟨?_,by rw[<-hdq];exact hq⟩;rw[pf hqo];exact hDq.trim.up
  ·rw[hdr];exact hr8
 obtain⟨i,rfl⟩: ∃i,j=i+1:=⟨j-1,by omega⟩;rw[show(((i+1:Nat):Int)-1)=i by omega];have hpi:0<4294967296^i:=fZ (by decide)
 -- the digits that the guess looks at
 obtain⟨p,hp⟩: ∃p,p=4294967296^(i+n):=⟨_,rfl⟩;obtain⟨V,hV⟩: ∃V,V=dv vs*4294967296^i:=⟨_,rfl⟩;have hvB:dv vs<4294967296^(n+2):=by rw[hvv];exact hV2
 have hvh:=aHH hvo n hvB;have hltV:dv us<V*4294967296:=by rw[hV,cX,<-uG];exact hlt
 have hV0:0<V:=by rw[hV];exact iJ (by rw[hvv];exact iJ hbp hps) hpi
 have hT0:0<vs.getD (n+1) 0:=PA hvn (n+1) hVl;have hVp:V=(vs.getD (n+1) 0*4294967296+vs.getD n 0)*p+dv (vs.take n)*4294967296^i:=by
  rw[hV,hvh,cS,hp,eJ,cZ (4294967296^i),cX]
 have hv0:dv (vs.take n)*4294967296^i<p:=by
  rw[hp,eJ,cZ];exact Nat.mul_lt_mul_of_pos_left (Eb hvo n) hpi
 have hM:dv us<4294967296^(i+n+3):=by
  refine dJ hlt ?_;rw[show i+n+3=(n+2)+(i+1) by omega,eJ 4294967296 (n+2) (i+1)];exact bK _ (lL hvB)
 have huh:=Tg huo2 (i+n) hM;rw[<-hp] at huh;have hu0:=Eb huo2 (i+n);rw[<-hp] at hu0;have hg0:=huo2.get (i+n);have hg1:=huo2.get (i+n+1);have hg2:=huo2.get (i+n+2);refine zK<|bt<|dE<|bt<|dr (fun _=>false) [(0,true),(1,true),(2,true),(3,true),(4,true),(5,true),(6,true),(7,true),(8,true),(9,true),(10,true),(11,true),(12,true),(13,true),(14,true),(15,true),(16,true),(17,true)] follows (by kernel_rfl)<|?_;refine dM J J J<|dM J J J<|dM J J J<|dy J (fun _=>dC J J (by omega) (by omega)) J J<|?_;refine dy J (fun _=>fq J J (by omega) (by omega)) J J<|?_;rw[show((i:Int)+(v.n:Int)).toNat=i+n+2 by omega];refine dy J (fun _=>rO J (by omega)) J J<|dy J (fun _=>gA J (by omega) (by omega)) J J<|dy J (fun _=>vY J J (by decide)) J J<|?_;rw[sj (us.getD (i+n+2) 0) 32 (by decide) (by omega) J];refine dM J J J<|dM J J J<|dM J J J<|dy J (fun _=>dC J J (by omega) (by omega)) J J<|?_;refine dy J (fun _=>jD J J (by omega) (by omega)) J J<|dy J (fun _=>fq J J (by omega) (by omega)) J J<|?_;rw[show((i:Int)+(v.n:Int)-1).toNat=i+n+1 by omega];refine dy J (fun _=>rO J (by omega)) J J<|?_;refine dy J (fun _=>gA J (by omega) (by omega)) J J<|dy J (fun _=>iF J J (Ih (us.getD (i+n+1) 0) (us.getD (i+n+2) 0) 32 (by omega) (by omega))) J J<|dA J J J<|dn<|bt<|?_;obtain⟨f,hf⟩: ∃f,f=us.getD (i+n+2) 0*4294967296+us.getD (i+n+1) 0:=⟨_,rfl⟩;rw[show us.getD (i+n+1) 0+us.getD (i+n+2) 0*2^32=f by omega];rw[<-hf] at huh;have hfB:f<18446744073709551616:=by omega
 refine dr (fun _=>false) [(0,true),(1,true),(2,true),(3,true),(4,true),(5,true),(6,true),(7,true)] follows (by kernel_rfl)<|?_;refine dM J J J<|dM J J J<|dy J (fun _=>yo J J (by omega) (by omega) (by omega)) J J<|dM J J J<|dM J J J<|?_;refine dy J (fun _=>yI J J (by omega) (by omega)) J J<|dA J J J<|dA J J J<|dn<|?_;rw[show((f:Int)/((vs.getD (n+1) 0:Nat):Int))=((f/vs.getD (n+1) 0:Nat):Int) by rfl,show((f:Int)%((vs.getD (n+1) 0:Nat):Int))=((f%vs.getD (n+1) 0:Nat):Int) by rfl]
 -- GUESS
 have hUle:(f*4294967296+us.getD (i+n) 0)*p<=dv us:=by omega
 have hUlt:dv us<(f*4294967296+us.getD (i+n) 0+1)*p:=by rw[cS _ 1,lM];omega
 have hVle:(vs.getD (n+1) 0*4294967296+vs.getD n 0)*p<=V:=by rw[hVp];exact mT _ _
 have hfT:f<=vs.getD (n+1) 0*4294967296+vs.getD n 0:=aJR hUle hVp hv0 hltV;refine zi Nat (fun g=>[(15, .int .u64 (g:Nat)),(13, .int .i64 i),(7, .slice (some ⟨b4,0,none⟩) (a.length+1) cap),(9, .int .i64 v.n),(10, .int .u64 (vs.getD (n+1) 0:Nat)),(11, .int .u64 (vs.getD n 0:Nat)),(8, .slice v.a v.n v.c),(12, .slice (some ⟨b5,0,none⟩) l l),(6, .int .u64 s)]) (fun _=>[⟨b5,qs.map dI,215,true⟩,⟨b4,us.map dI,215,true⟩]) (fun g _=>g<4294967296/\dv us<(g+1)*V/\g*V<dv us+V) ?_ ?_
 ·refine dE<|?_
  refine lx (X:=Yp) (fun q=>[(15, .int .u64 q.g),(16, .int .u64 q.r),(13, .int .i64 i),(7, .slice (some ⟨b4,0,none⟩) (a.length+1) cap),(9, .int .i64 v.n),(10, .int .u64 (vs.getD (n+1) 0:Nat)),(11, .int .u64 (vs.getD n 0:Nat)),(8, .slice v.a v.n v.c),(12, .slice (some ⟨b5,0,none⟩) l l),(6, .int .u64 s)]) (fun _=>[⟨b5,qs.map dI,215,true⟩,⟨b4,us.map dI,215,true⟩]) (fun q _=>f=q.g*vs.getD (n+1) 0+q.r/\q.r<4294967296/\dv us<(q.g+1)*V) (fun q=>q.g) ⟨f/vs.getD (n+1) 0,f%vs.getD (n+1) 0⟩
   ⟨(Nat.div_add_mod' ..).symm,pN (dQ _ hT0) hvt,aCD hUlt hg0 hVle hT0⟩ (.cons J (.cons J (.cons J (.cons J (.cons J (.cons J (.cons J (.cons J (.cons J (.cons J .nil)))))))))) J ?_
  rintro ⟨g,r⟩ Gy _ ⟨hfg,hrB,hlo⟩;simp only[] at hfg hrB hlo⊢;have hgT:g*1<=g*vs.getD (n+1) 0:=dS _ hT0;refine bt<|sR<|sm J J<|sy (my J J (by decide)) J<|?_;rw[s5 g 32 (by decide) J];refine sy (u9 J J) J<|sm J J<|?_;refine oh 97 J (fun hg=>?_) (fun hg=>?_)
  ·have hgB:4294967296<=g:=by omega
   have hdec:dv us<g*V:=dJ hltV (by rw[cZ];exact bK _ hgB);refine ss J J J J<|ss J J J J<|ss J J J J<|ss J J J J<|ss J J J J<|ss J J J J<|ss J J J J<|ss J J J J<|ss J J J J<|?_;refine ss J J J J<|ss J J J J<|ss J J J J<|ss J J J J<|ss J J J J<|ss J J J J<|sy (r8 J J) J<|zE<|n7 J<|?_;refine zK<|dE<|?_;obtain⟨g',rfl⟩: ∃g',g=g'+1:=⟨g-1,by rcases fR g with h|h;(rw[h,kY] at hdec;omega);omega⟩;refine sR<|sm J J<|sy (N0 J J (by omega) (by omega)) J<|sa J J<|zE<|sR<|sm J J<|sm J J<|sy (rj J J) J<|?_;refine sa J J<|zE<|sR<|sm J J<|sy (my J J (by decide)) J<|?_;rw[show((g'+1:Nat):Int)-1=(g':Nat) by omega,show((r:Int)+((vs.getD (n+1) 0:Nat):Int))=((r+vs.getD (n+1) 0:Nat):Int) from J,s5 (r+vs.getD (n+1) 0) 32 (by decide) J];have hfg':f=g'*vs.getD (n+1) 0+(r+vs.getD (n+1) 0):=by rw[hfg,cS,lM];omega
   refine sy (u9 J J) J<|zE<|?_;refine gm J (fun hc3=>?_) (fun hc3=>?_) -- slot 121
   ·have hr3:4294967296<=r+vs.getD (n+1) 0:=by omega
    have hgB:g'<4294967296:=by
     rcases iR g' 4294967296 with h|h
     ·exact h
     ·have:=bK (vs.getD (n+1) 0) h
      omega
    have hgS:g'*vs.getD n 0<=(r+vs.getD (n+1) 0)*4294967296+us.getD (i+n) 0:=by
     have h1:=gW (lL hgB) (lL hv2);omega
    refine jm<|K9 J<|d6<|ji<|?_;exact qB g' ⟨hgB,hdec,GY hUle hVp hv0 hT0 hfg' hgB hgS⟩ (.cons J (.cons J (.cons J (.cons J (.cons J (.cons J (.cons J (.cons J (.cons J .nil))))))))) J
   refine zK<|?_;exact jd ⟨g',r+vs.getD (n+1) 0⟩ ⟨hfg',by show r+vs.getD (n+1) 0<_;omega,hdec⟩ (by show g'<g'+1;omega) (.cons J (.cons J (.cons J (.cons J (.cons J (.cons J (.cons J (.cons J (.cons J (.cons J .nil)))))))))) J
  have hgB:g<4294967296:=by omega
  have hgS:g*vs.getD n 0<4294967296*4294967296:=oX hgB hv2;have e2:(g:Int)*((vs.getD n 0:Nat):Int)=((g*vs.getD n 0:Nat):Int):=J;refine bG J J (f6 J) J<|bG J J (f6 J) J<|bG J J (ED J J (by rw[e2];omega) (by rw[e2];omega)) J<|bG J J (f6 J) J<|bG J J (vY J J (by decide)) J<|?_;rw[sj r 32 (by decide) (by omega) J];refine bG J J (f6 J) J<|bG J J (f6 J) J<|bG J J (f6 J) J<|bG J J (dC J J) J<|bG J J (jD J J) J<|?_;refine bG J J (fq J J (by omega) (by omega)) J<|?_;rw[show((i:Int)+(v.n:Int)-2).toNat=i+n by omega];refine bG J J (rO J (by omega)) J<|bG J J (gA J) J<|bG J J (iF J J (Ih (us.getD (i+n) 0) r 32 (by omega) (by omega))) J<|?_;refine bG J J (ru J J) J<|sy (l8 J J) J<|zE<|?_;rw[e2];refine ly J (fun hc2=>?_) (fun hc2=>?_) -- slot 113
  ·refine jm<|d6<|d6<|ji<|?_
   exact qB g ⟨hgB,hlo,GY hUle hVp hv0 hT0 hfg hgB (by omega)⟩ (.cons J (.cons J (.cons J (.cons J (.cons J (.cons J (.cons J (.cons J (.cons J .nil))))))))) J
  have hdec:dv us<g*V:=aF6 hUlt hVle hfg (by omega);refine zK<|dE<|?_;obtain⟨g',rfl⟩: ∃g',g=g'+1:=⟨g-1,by rcases fR g with h|h;(rw[h,kY] at hdec;omega);omega⟩;refine sR<|sm J J<|sy (N0 J J (by omega) (by omega)) J<|sa J J<|zE<|sR<|sm J J<|sm J J<|sy (rj J J) J<|?_;refine sa J J<|zE<|sR<|sm J J<|sy (my J J (by decide)) J<|?_;rw[show((g'+1:Nat):Int)-1=(g':Nat) by omega,show((r:Int)+((vs.getD (n+1) 0:Nat):Int))=((r+vs.getD (n+1) 0:Nat):Int) from J,s5 (r+vs.getD (n+1) 0) 32 (by decide) J];have hfg':f=g'*vs.getD (n+1) 0+(r+vs.getD (n+1) 0):=by rw[hfg,cS,lM];omega
  refine sy (u9 J J) J<|zE<|?_;refine gm J (fun hc3=>?_) (fun hc3=>?_) -- slot 121
  ·have hr3:4294967296<=r+vs.getD (n+1) 0:=by omega
   have hgB:g'<4294967296:=by
    rcases iR g' 4294967296 with h|h
    ·exact h
    ·have:=bK (vs.getD (n+1) 0) h
     omega
   have hgS:g'*vs.getD n 0<=(r+vs.getD (n+1) 0)*4294967296+us.getD (i+n) 0:=by
    have h1:=gW (lL hgB) (lL hv2);omega
   refine jm<|K9 J<|d6<|ji<|?_;exact qB g' ⟨hgB,hdec,GY hUle hVp hv0 hT0 hfg' hgB hgS⟩ (.cons J (.cons J (.cons J (.cons J (.cons J (.cons J (.cons J (.cons J (.cons J .nil))))))))) J
  refine zK<|?_;exact jd ⟨g',r+vs.getD (n+1) 0⟩ ⟨hfg',by show r+vs.getD (n+1) 0<_;omega,hdec⟩ (by show g'<g'+1;omega) (.cons J (.cons J (.cons J (.cons J (.cons J (.cons J (.cons J (.cons J (.cons J (.cons J .nil)))))))))) J
 rintro g Gz _ ⟨hgB,hlo,hhi⟩
 -- SUB
 refine sR<|sa J J<|sa J J<|zE<|bt<|sR<|sm J J<|cE J J<|sm J J<|zE<|dE<|?_;refine lx (X:=Oz) (fun q=>[(18, .int .u64 q.c),(17, .int .u64 q.bo),(124, .int .i64 q.k),(123, .int .i64 v.n),(122, .slice v.a v.n v.c),(15, .int .u64 (g:Nat)),(13, .int .i64 i),(7, .slice (some ⟨b4,0,none⟩) (a.length+1) cap),(9, .int .i64 v.n),(10, .int .u64 (vs.getD (n+1) 0:Nat)),(11, .int .u64 (vs.getD n 0:Nat)),(8, .slice v.a v.n v.c),(12, .slice (some ⟨b5,0,none⟩) l l),(6, .int .u64 s)]) (fun q=>[⟨b5,qs.map dI,215,true⟩,⟨b4,q.ws.map dI,215,true⟩])
  (fun q _=>q.ws.length=cap/\bp q.ws/\q.k<=n+2/\q.bo<=1/\q.c<4294967296/\dv q.ws<4294967296^(i+n+3)/\dv q.ws+g*(dv (vs.take q.k)*4294967296^i)=dv us+(q.bo+q.c)*4294967296^(i+q.k)) (fun q=>n+2-q.k) ⟨us,0,0,0⟩
  ⟨hul2,huo2,bJ _,bJ _,by show(0:Nat)<4294967296;decide,hM,by simp[dv]⟩ (.cons J (.cons J (.cons J (.cons J (.cons J (.cons J (.cons J (.cons J (.cons J (.cons J (.cons J (.cons J (.cons J (.cons J .nil)))))))))))))) J ?_
 rintro ⟨ws,k,bo,c⟩ Gy _ ⟨hwl,hwo,hk,hbo,hc4,hwM,hw⟩;simp only[] at hwl hwo hk hbo hc4 hwM hw⊢;refine sR<|sy (jh J J) J<|zE<|bt<|?_;refine ly J (fun hkc=>?_) (fun hkc=>?_) -- slot 125
 ·have hkn:k=n+2:=by omega
  subst hkn;rw[aT (by omega),<-hV] at hw;refine jm<|d6<|d6<|ji<|sR<|sm J J<|sm J J<|sm J J<|sy (dC J J) J<|sy (fq J J (by omega) (by omega)) J<|?_;rw[show((i:Int)+(v.n:Int)).toNat=i+n+2 by omega];have hwg:=hwo.get (i+n+2);refine sy (rO J (by omega)) J<|sy (gA J) J<|sm J J<|sy (vL J J) J<|sm J J<|sy (vL J J) J<|?_;rw[DX _ _ _ hwg hc4 hbo];obtain⟨hx1,hx2,hx3⟩:=Nj (ws.getD (i+n+2) 0) c bo hwg hc4 hbo;generalize ta (ws.getD (i+n+2) 0) c bo=xx at hx1 hx2 hx3⊢;refine sa J J<|zE<|sR<|sm J J<|sm J J<|sm J J<|sy (dC J J) J<|sm J J<|sy (ld J) J<|sy (fq J J (by omega) (by omega)) J<|?_;rw[show((i:Int)+(v.n:Int)).toNat=i+n+2 by omega];refine sc (mc (d:=xx%4294967296) J J (by rw[oZ];rfl) (.tl _ _ _ _ _ _ _ _ (.hd ..)) (by omega) J ?_);have hs2:=qA ws (i+n+2) (xx%4294967296) (by omega);have hl2:=XI hs2 hw hx1;rw[<-uG] at hl2;have hM2:=D5 (i:=i+n+2) (d:=xx%4294967296) hwo (dQ _ (by decide)) hwM (by omega);have ho2:=hwo.set (i+n+2) (d:=xx%4294967296) (dQ _ (by decide));have hn2:(ws.set (i+n+2) (xx%4294967296)).length=cap:=by rw[bQ];exact hwl
  generalize ws.set (i+n+2) (xx%4294967296)=ws2 at hl2 hM2 ho2 hn2⊢;replace hl2:dv ws2+g*V=dv us+xx/9223372036854775808*4294967296^(i+n+3):=hl2;have hqset: ∀d,dv (qs.set i d)=dv qs+4294967296^i*d:=fun d=>by
   have:=qA qs i d (by omega);rw[hq0 i (by omega)] at this;simpa using this
  have hqz: ∀d i',i'<i->(qs.set i d).getD i' 0=0:=fun d i' h=>by
   have:=hq0 i' (by omega);simpa[List.getD,mJ,show¬i=i' by omega] using this
  have hinv2: ∀d R,R+d*V=dv us->dv a*2^s=R+dv vs*dv (qs.set i d):=fun d R h=>by
   rw[hinv,<-h,hqset,dK,<-cX,<-hV,cZ d];omega
  refine zE<|sR<|sm J J<|sm J J<|sm J J<|sy (ld J) J<|sy (fq J J (by omega) (by omega)) J<|?_;rw[aM];refine sc (mc (d:=g) J J (Mp g hgB) (.hd ..) (by omega) J ?_);refine zE<|bt<|sR<|sm J J<|sy (my J J (by decide)) J<|?_;rw[s5 xx 63 (by decide) J];refine sy (iO J J) J<|zE<|?_;refine gm J (fun ht=>?_) (fun ht=>?_) -- slot 184
  ·have ht0:xx/2^63=0:=by omega
   rw[show xx/9223372036854775808=xx/2^63 from J,ht0,kY,eY] at hl2;refine jm<|d6<|ji<|dB<|sm J J<|sy (jD J J) J<|sa J J<|zE<|?_;exact jd ⟨ws2,qs.set i g,i⟩ ⟨hn2,ho2,by simpa using hql,hqo.set _ hgB,by show i<=l;omega,hqz g,hinv2 g _ hl2,by show dv ws2<_;rw[<-hV];exact aBU hlo hl2⟩ (by show i<i+1;omega) (.cons J (.cons J (.cons J (.cons J (.cons J (.cons J (.cons J (.cons J .nil)))))))) J
  have ht1:xx/9223372036854775808=1:=by
   have:xx/9223372036854775808≠0:=fun h=>ht (by rw[show xx/2^63=xx/9223372036854775808 from J,h];rfl);omega
  rw[ht1,lM] at hl2;obtain⟨g',rfl⟩: ∃g',g=g'+1:=⟨g-1,by rcases fR g with h|h;(rw[h,kY] at hl2;omega);omega⟩;refine zK<|sR<|sm J J<|sm J J<|sy (fq J J (by omega) (by omega)) J<|?_;rw[aM];refine sy (rO J (by simp;omega)) J<|?_;rw[show(qs.set i (g'+1)).getD i 0=g'+1 by simp[List.getD,mJ,show i<qs.length by omega]];refine sy (vL J J) J<|sy (fq J J (by omega) (by omega)) J<|?_;rw[aM];refine sc (mc (d:=g') J J (by rw[qz];omega) (.hd ..) (by simp;omega) J ?_);rw[List.set_set];refine zE<|sR<|sa J J<|zE<|bt<|sR<|sm J J<|cE J J<|sm J J<|zE<|dE<|?_;refine lx (X:=Oz) (fun q=>[(18, .int .u64 q.c),(193, .int .i64 q.k),(192, .int .i64 v.n),(191, .slice v.a v.n v.c),(13, .int .i64 i),(7, .slice (some ⟨b4,0,none⟩) (a.length+1) cap),(9, .int .i64 v.n),(10, .int .u64 (vs.getD (n+1) 0:Nat)),(11, .int .u64 (vs.getD n 0:Nat)),(8, .slice v.a v.n v.c),(12, .slice (some ⟨b5,0,none⟩) l l),(6, .int .u64 s)]) (fun q=>[⟨b5,(qs.set i g').map dI,215,true⟩,⟨b4,q.ws.map dI,215,true⟩])
   (fun q _=>q.ws.length=cap/\bp q.ws/\q.k<=n+2/\q.c<=1/\dv q.ws<4294967296^(i+n+3)/\dv q.ws+q.c*4294967296^(i+q.k)=dv ws2+dv (vs.take q.k)*4294967296^i) (fun q=>n+2-q.k) ⟨ws2,0,0,0⟩
   ⟨hn2,ho2,bJ _,bJ _,hM2,by simp[dv]⟩ (.cons J (.cons J (.cons J (.cons J (.cons J (.cons J (.cons J (.cons J (.cons J (.cons J (.cons J (.cons J .nil)))))))))))) J ?_
  rintro ⟨wa,k,_,ca⟩ Gz _ ⟨hal2,hao,hak,hac,haM,ha⟩;simp only[] at hal2 hao hak hac haM ha⊢;refine sR<|sy (jh J J) J<|zE<|bt<|?_;refine ly J (fun hkd=>?_) (fun hkd=>?_) -- slot 194
  ·have hkn:k=n+2:=by omega
   subst hkn;rw[aT (by omega),<-hV] at ha;have hag:=hao.get (i+n+2);refine jm<|d6<|d6<|ji<|dB<|sm J J<|sm J J<|sm J J<|sy (dC J J) J<|sy (fq J J (by omega) (by omega)) J<|?_;rw[show((i:Int)+(v.n:Int)).toNat=i+n+2 by omega];refine sy (rO J (by omega)) J<|sm J J<|sy (ld J) J<|sy (YV J J) J<|sy (fq J J (by omega) (by omega)) J<|?_;rw[show((i:Int)+(v.n:Int)).toNat=i+n+2 by omega];refine sc (mc (d:=(wa.getD (i+n+2) 0+ca)%4294967296) J J (by rw[qz];omega) (.tl _ _ _ _ _ _ _ _ (.hd ..)) (by omega) J ?_);have hs4:=qA wa (i+n+2) ((wa.getD (i+n+2) 0+ca)%4294967296) (by omega);have hl4:=aDB hs4 ha;rw[<-uG] at hl4;have hM4:=D5 (i:=i+n+2) (d:=(wa.getD (i+n+2) 0+ca)%4294967296) hao (dQ _ (by decide)) haM (by omega);obtain⟨hR1,hR2⟩:=Y1 hhi hl2 hl4 hM2 hM4 (by omega) (Nat.succ_pos _);refine zE<|dB<|sm J J<|sy (jD J J) J<|sa J J<|zE<|?_;exact jd ⟨wa.set (i+n+2) ((wa.getD (i+n+2) 0+ca)%4294967296),qs.set i g',i⟩ ⟨by simpa using hal2,hao.set _ (dQ _ (by decide)),by simpa using hql,hqo.set _ (by omega),by show i<=l;omega,hqz g',hinv2 g' _ hR1,by show dv _<_;rw[<-hV];exact hR2⟩ (by show i<i+1;omega) (.cons J (.cons J (.cons J (.cons J (.cons J (.cons J (.cons J (.cons J .nil)))))))) J
  have hvk:=hvo.get k;have hag:=hao.get (i+k);refine zK<|bt<|dE<|sR<|sm J J<|sy (iB hv J J (by omega) (by omega)) J<|?_;rw[aM];refine sy (ir hv J (by omega)) J<|sa J J<|sa J J<|zE<|bt<|?_;refine dB<|sm J J<|sm J J<|sm J J<|sm J J<|sy (dC J J) J<|sy (fq J J (by omega) (by omega)) J<|?_;rw[show((i:Int)+(k:Int)).toNat=i+k by omega];refine sy (rO J (by omega)) J<|sy (gA J) J<|sm J J<|sy (gA J) J<|sy (rj J J) J<|sy (rj J J) J<|?_;rw[show(ca:Int)+(((wa.getD (i+k) 0:Nat):Int)+((vs.getD k 0:Nat):Int))=((ca+(wa.getD (i+k) 0+vs.getD k 0):Nat):Int) from J];refine sa J J<|zE<|sR<|sm J J<|sm J J<|sm J J<|sy (dC J J) J<|sm J J<|sy (ld J) J<|sy (fq J J (by omega) (by omega)) J<|?_;rw[show((i:Int)+(k:Int)).toNat=i+k by omega];refine sc (mc (d:=(ca+(wa.getD (i+k) 0+vs.getD k 0))%4294967296) J J (by rw[oZ];rfl) (.tl _ _ _ _ _ _ _ _ (.hd ..)) (by omega) J ?_);refine zE<|dB<|sm J J<|sy (my J J (by decide)) J<|?_;rw[s5 (ca+(wa.getD (i+k) 0+vs.getD k 0)) 32 (by decide) J];refine sa J J<|zE<|dB<|sy (dC J J) J<|sm J J<|zE<|?_;refine jd ⟨wa.set (i+k) ((ca+(wa.getD (i+k) 0+vs.getD k 0))%4294967296),k+1,0,(ca+(wa.getD (i+k) 0+vs.getD k 0))/2^32⟩ ⟨by simpa using hal2,hao.set _ (dQ _ (by decide)),by show k+1<=_;omega,by show(ca+(wa.getD (i+k) 0+vs.getD k 0))/4294967296<=1;omega,D5 hao (dQ _ (by decide)) haM (by omega),?_⟩ (by show n+2-(k+1)<n+2-k;omega) (.cons J (.cons J (.cons J (.cons J (.cons J (.cons J (.cons J (.cons J (.cons J (.cons J (.cons J (.cons J .nil)))))))))))) J;show dv (wa.set (i+k) ((ca+(wa.getD (i+k) 0+vs.getD k 0))%4294967296))+((ca+(wa.getD (i+k) 0+vs.getD k 0))/4294967296)*4294967296^(i+k+1)=dv ws2+dv (vs.take (k+1))*4294967296^i
  rw[jg,cS (dv (vs.take k)),uG,show 4294967296^k*vs.getD k 0*4294967296^i=vs.getD k 0*4294967296^(i+k) by rw[eJ,cZ (4294967296^k),cX,cZ (4294967296^k)]];exact aCo (qA wa (i+k) _ (by omega)) ha
 have hvk:=hvo.get k;have hwg:=hwo.get (i+k);refine zK<|bt<|dE<|sR<|sm J J<|sy (iB hv J J (by omega) (by omega)) J<|?_;rw[aM];refine sy (ir hv J (by omega)) J<|sa J J<|sa J J<|zE<|bt<|?_;have hgd:g*vs.getD k 0<=4294967295*4294967295:=gW (by omega) (by omega);have e3:(g:Int)*((vs.getD k 0:Nat):Int)=((g*vs.getD k 0:Nat):Int):=J;refine dB<|sm J J<|sm J J<|sm J J<|sy (gA J) J<|sy (ED J J (by rw[e3];omega) (by rw[e3];omega)) J<|?_;rw[e3];refine sy (rj J J) J<|?_;rw[show(c:Int)+((g*vs.getD k 0:Nat):Int)=((c+g*vs.getD k 0:Nat):Int) from J];obtain⟨c1,hc1⟩: ∃c1,c1=c+g*vs.getD k 0:=⟨_,rfl⟩;rw[<-hc1];have hc1m:c1%4294967296<4294967296:=dQ _ (by decide);refine sa J J<|zE<|sR<|sm J J<|sm J J<|sm J J<|sy (dC J J) J<|sy (fq J J (by omega) (by omega)) J<|?_;rw[show((i:Int)+(k:Int)).toNat=i+k by omega];refine sy (rO J (by omega)) J<|sy (gA J) J<|sm J J<|sy (iF J J (UP c1 (by omega))) J<|sy (vL J J) J<|sm J J<|sy (vL J J) J<|?_;rw[DX _ _ _ hwg hc1m hbo];obtain⟨hx1,hx2,hx3⟩:=Nj (ws.getD (i+k) 0) (c1%4294967296) bo hwg hc1m hbo;generalize ta (ws.getD (i+k) 0) (c1%4294967296) bo=xx at hx1 hx2 hx3⊢;refine sa J J<|?_;refine zE<|sR<|sm J J<|sm J J<|sm J J<|sy (dC J J) J<|sm J J<|sy (ld J) J<|sy (fq J J (by omega) (by omega)) J<|?_;rw[show((i:Int)+(k:Int)).toNat=i+k by omega];refine sc (mc (d:=xx%4294967296) J J (by rw[oZ];rfl) (.tl _ _ _ _ _ _ _ _ (.hd ..)) (by omega) J ?_);refine zE<|sR<|sm J J<|sy (my J J (by decide)) J<|?_;rw[s5 xx 63 (by decide) J];refine sa J J<|zE<|dB<|sm J J<|sy (my J J (by decide)) J<|?_
 rw[s5 c1 32 (by decide) J];refine sa J J<|?_;refine zE<|dB<|sy (dC J J) J<|sm J J<|zE<|?_;refine jd ⟨ws.set (i+k) (xx%4294967296),k+1,xx/2^63,c1/2^32⟩ ⟨by simpa using hwl,hwo.set _ (dQ _ (by decide)),by show k+1<=_;omega,hx2,by show c1/4294967296<_;omega,D5 hwo (dQ _ (by decide)) hwM (by omega),?_⟩ (by show n+2-(k+1)<n+2-k;omega) (.cons J (.cons J (.cons J (.cons J (.cons J (.cons J (.cons J (.cons J (.cons J (.cons J (.cons J (.cons J (.cons J (.cons J .nil)))))))))))))) J;show dv (ws.set (i+k) (xx%4294967296))+g*(dv (vs.take (k+1))*4294967296^i)=dv us+(xx/9223372036854775808+c1/4294967296)*4294967296^(i+k+1);rw[jg,cS (dv (vs.take k)),uG,show 4294967296^k*vs.getD k 0*4294967296^i=vs.getD k 0*4294967296^(i+k) by rw[eJ,cZ (4294967296^k),cX,cZ (4294967296^k)],dK,<-cX g (vs.getD k 0)];exact aBR (qA ws (i+k) _ (by omega)) hw hc1 hx1
def H7{A B G:Gh}{x y:SV}{a b:List Nat}{k1 k2:Nat}(hx:cj A x a)(hy:cj B y b)[GL A G][GL B G](hb0:0<dv b)
  (hq:dv a/dv b<2^k1)(hr:dv a%dv b<2^k2)(hl:a.length<=112589990684)(hl2:b.length<=112589990684):
  Fn prog 202 [x.v,y.v] G (fun v G'=> ∃z r:SV,v= .tuple #[z.v,r.v, .bool true]/\fP k1 G' z (dv a/dv b)/\fP k2 G' r (dv a%dv b)):=by
 have hla:=nv a;have hlb:=nv b;have hca:=fun G1 (_:GL A G1)=>jk (G:=G1) hx (by omega);have hcb:=fun G1 (_:GL B G1)=>jk (G:=G1) hy (by omega);have hxt:=hx.trim;have hyt:=hy.trim;have hna:=d4.trimD a;have hnb:=d4.trimD b;rw[<-kh a,<-kh b] at hq hr⊢;rw[<-kh b] at hb0;generalize trimD a=a' at*;generalize trimD b=b' at*;refine Fn.intro func202 J J ntmps202 J ?_;intro C _ _;refine sR<|sa J J<|sa J J<|sa J J<|zE<|sR<|sm J J<|?_;refine sc (zC J J (hca _ inferInstance) J ?_);rintro _ G1 _ rfl;refine sm J J<|?_;refine sc (zC J J (hcb _ inferInstance) J ?_);rintro _ G2 _ rfl;refine sa J J<|sa J J<|zE<|bt<|dE<|sR<|sm J J<|cE J J<|sy (iO J J) J<|sa J J<|zE<|?_;refine gm J (fun hc=>?_) (fun hc=>?_) -- slot 15
 ·exfalso
  have:b'=[]:=bS (by omega);rw[this] at hb0;exact absurd hb0 (by simp[dv])
 refine sR<|sm J J<|sm J J<|?_;refine sc (zC J J (Nh hxt hyt (by omega) (by omega)) J ?_);rintro _ G3 _ rfl;refine sy (jh J J) J<|sa J J<|zE<|?_;refine gm J (fun hc2=>?_) (fun hc2=>?_) -- slot 19
 ·have hlt:dv a'<dv b':=by
   unfold gy at hc2;split at hc2
   ·assumption
   ·split at hc2<;>omega
  refine sR<|sm J J<|?_;refine sc (zC J J (JZ hxt (by omega)) J ?_);rintro _ G4 _ ⟨z,rfl,hz⟩;refine sa J J<|sa J J<|sa J J<|zE<|cH<|?_;refine zD (.tmp J (.tmp J (.tmp J .nil))) ⟨⟨none,0,0⟩,z,J,?_,?_⟩
  ·rw[kZ hlt]
   exact⟨by unfold dg;exact .nil _,fZ (by decide)⟩
  ·rw[fW hlt] at hr⊢
   exact⟨by rw[xY hxt.ok hna];exact hz,hr⟩
 have hle:dv b'<=dv a':=by
  unfold gy at hc2;split at hc2
  ·omega
  ·omega
 refine sR<|sm J J<|cE J J<|sy (iO J J) J<|sa J J<|zE<|?_;refine gm J (fun hc3=>?_) (fun hc3=>?_) -- slot 26
 ·have hb1:b'.length=1:=by omega
  obtain⟨d,rfl⟩:=List.length_eq_one_iff.1 hb1;have hdv:dv [d]=d:=by simp[dv]
  have hdB:=hyt.ok.head;rw[hdv] at hb0 hq hr⊢;refine sR<|sm J J<|sm J J<|sy (iB (z:=⟨y.a,1,y.c⟩) hyt J J (by omega) (by show(0:Int)<((1:Nat):Int);omega)) J<|sy (ir (i:=0) hyt J (by simp)) J<|?_;rw[show [d].getD 0 0=d from J];refine sc (zC J J (Yo (x:=⟨x.a,a'.length,x.c⟩) hxt hb0 hdB hq (by omega)) J ?_);rintro _ G5 _ ⟨z,rfl,hz⟩;have hmB:dv a'%d<4294967296:=pN (dQ _ hb0) hdB;refine sm J J<|sx J J J<|sx J J J<|sa J J<|sa J J<|zE<|sR<|sm J J<|sm J J<|sy (gA J) J<|?_;refine sc (zC J J (E4 (by omega)) J ?_);rintro _ G6 _ ⟨r,rfl,hr6⟩;refine sa J J<|sa J J<|sa J J<|zE<|cH<|?_;exact zD (.tmp J (.tmp J (.tmp J .nil))) ⟨z,r,J,hz.up,hr6.mono hr⟩
 have hb2:2<=b'.length:=by omega
 refine zK<|sR<|sm J J<|sm J J<|?_;refine sc (zC J J (axQ (x:=⟨x.a,a'.length,x.c⟩) (y:=⟨y.a,b'.length,y.c⟩) hxt hyt hna hnb hb2 hle hq hr (by omega)) J ?_);rintro _ G7 _ ⟨z,r,rfl,hz,hr7⟩;refine sm J J<|sx J J J<|sx J J J<|sa J J<|sa J J<|zE<|sR<|sm J J<|sm J J<|sa J J<|sa J J<|sa J J<|zE<|?_;refine cH<|?_;exact zD (.tmp J (.tmp J (.tmp J .nil))) ⟨z,r,J,hz,hr7⟩
def lB{u k:Nat}(h:u<2^k):32*(dg u).length<=k+31:=RT (eo u).2.2 (by rw[(eo u).1];exact h)
def fP.dvl{k:Nat}{G:Gh}{x:SV}{v:Nat}(_:fP k G x v):dv (dg v)=v:=(eo v).1
structure WR where
 a:SV
 b:SV
 u:Nat
 v:Nat
def aBe{A B G:Gh}{x y:SV}{a b:List Nat}{k k0:Nat}(hx:cj A x a)(hy:cj B y b)[GL A G][GL B G](ha:dv a<2^k0)(hb:dv b<2^k0)(hk0:k0<=1099511627776)
  (hg0:Nat.gcd (dv a) (dv b)<2^k)(hl:a.length<=112589990684)(hl2:b.length<=112589990684):
  Fn prog 201 [x.v,y.v] G (fun v G'=> ∃z:SV,v=z.v/\fP k G' z (Nat.gcd (dv a) (dv b))):=by
 refine Fn.intro func201 J J ntmps201 J ?_;intro C _ _;refine sR<|sa J J<|zE<|sR<|sm J J<|?_;refine sc (zC J J (FE hx ha (by omega)) J ?_);rintro _ G1 _ ⟨x1,rfl,hx1⟩;refine sm J J<|?_;refine sc (zC J J (FE hy hb (by omega)) J ?_);rintro _ G2 _ ⟨y1,rfl,hy1⟩;generalize dv a=ua at*;generalize dv b=ub at*;refine sa J J<|sa J J<|zE<|bt<|dE<|?_;refine lx (X:=WR) (fun q=>[(0, .slice q.a.a q.a.n q.a.c),(1, .slice q.b.a q.b.n q.b.c)]) (fun _=>[]) (fun q G=>fP k0 G q.a q.u/\fP k0 G q.b q.v/\Nat.gcd q.u q.v=Nat.gcd ua ub) (fun q=>q.v) ⟨x1,y1,ua,ub⟩
  ⟨hx1.up,hy1,J⟩ (.cons J (.cons J .nil)) J ?_
 rintro ⟨p,q,u,v⟩ Gx _ ⟨hp,hq,hgc⟩;simp only[] at hp hq hgc⊢;have hpl:=hp.len;have hql:=hq.len;have hpb:=lB hp.lt;have hqb:=lB hq.lt;refine bt<|sR<|sm J J<|cE J J<|sy (ru J J) J<|sm J J<|?_;refine oh 19 J (fun hg=>?_) (fun hg=>?_)
 ·refine ss J J J J<|ss J J J J<|ss J J J J<|sy (r8 J J) J<|zE<|n7 J<|zK<|dE<|bt<|sR<|sm J J<|?_
  refine cE J J<|sy (iO J J) J<|zE<|?_;refine gm J (fun hc1=>?_) (fun hc1=>?_) -- slot 26
  ·refine sR<|sm J J<|sa J J<|zE<|cH<|?_
   have hv0:v=0:=by
    have:dg v=[]:=bS (by omega);have h2:=hq.dvl;rw[this] at h2;exact h2.symm
   have hue:u=Nat.gcd ua ub:=by rw[<-hgc,hv0,mM]
   exact zD (.tmp J .nil) ⟨p,J,by rw[<-hue] at hg0⊢;exact hp.mono hg0⟩
  have hv0:0<v:=iM fun h=>by
   have h1:dg v=[]:=by rw[h];unfold dg;rfl
   rw[h1] at hql;simp only[fX] at hql;omega
  have hm:=dQ u hv0;refine zK<|sR<|sm J J<|sm J J<|?_;refine sc (zC J J (H7 (k1:=k0) (k2:=k0) hp.d hq.d (by rw[hq.dvl];exact hv0) (by rw[hp.dvl];exact fJ (kR _ _) hp.lt) (by rw[hp.dvl,hq.dvl];exact pN hm hq.lt) (by omega) (by omega)) J ?_);rintro _ G3 _ ⟨z,r,rfl,hz,hr⟩;rw[hp.dvl,hq.dvl] at hr;refine sm J J<|sx J J J<|sx J J J<|sx J J J<|sa J J<|sa J J<|sa J J<|zE<|dB<|sm J J<|sm J J<|sa J J<|sa J J<|?_;refine zE<|?_;exact jd ⟨q,r,v,u%v⟩ ⟨hq.up,hr,by show Nat.gcd v (u%v)=_;rw[<-hgc,jZ u,tJ v u,jZ]⟩ hm (.cons J (.cons J .nil)) J
 refine bG J J (f6 J) J<|bG J J (pH J) J<|bG J J (ru J J) J<|sy (l8 J J) J<|zE<|?_;refine ly J (fun hc=>?_) (fun hc=>?_) -- slot 23
 ·have small: ∀{w:Nat},(dg w).length<=2->w<18446744073709551616:=fun{w} h=>by
   have h1:=jx (eo w).2.1;rw[(eo w).1] at h1;exact dJ h1 (cY (bY (by decide) h) (by decide))
  have hu64:u<18446744073709551616:=small (by omega);have hv64:v<18446744073709551616:=small (by omega);refine jm<|d6<|d6<|ji<|sR<|sm J J<|?_;refine sc (zC J J (Hm hp.d (by omega)) J ?_);rintro _ G4 _ rfl;rw[hp.dvl,if_pos hu64];refine sm J J<|sx J J J<|sx J J J<|sa J J<|sa J J<|zE<|sR<|sm J J<|?_;refine sc (zC J J (Hm hq.d (by omega)) J ?_);rintro _ G5 _ rfl;rw[hq.dvl,if_pos hv64];refine sm J J<|sx J J J<|sx J J J<|sa J J<|sa J J<|zE<|bt<|dE<|?_;refine lx (X:=Nat×Nat) (fun q=>[(8, .int .u64 (q.1:Nat)),(10, .int .u64 (q.2:Nat))]) (fun _=>[]) (fun q _=>q.1<18446744073709551616/\q.2<18446744073709551616/\Nat.gcd q.1 q.2=Nat.gcd ua ub) (fun q=>q.2) (u,v)
   ⟨hu64,hv64,hgc⟩ (.cons J (.cons J .nil)) J ?_
  rintro ⟨u1,v1⟩ Gy _ ⟨hu1,hv1,hgc1⟩;simp only[] at hu1 hv1 hgc1⊢;refine bt<|sR<|sm J J<|sy (u9 J J) J<|zE<|?_;refine ly J (fun hc5=>?_) (fun hc5=>?_) -- slot 48
  ·refine jm<|d6<|d6<|ji<|sR<|sm J J<|?_
   refine sc (zC J J (E4 hu1) J ?_);rintro _ G6 _ ⟨z,rfl,hz⟩;refine sa J J<|zE<|cH<|?_;have hv0:v1=0:=by omega
   have hue:u1=Nat.gcd ua ub:=by rw[<-hgc1,hv0,mM]
   exact zD (.tmp J .nil) ⟨z,J,by rw[<-hue] at hg0⊢;exact hz.mono hg0⟩
  have hv0:0<v1:=by omega
  refine zK<|dE<|dr (fun _=>false) [(0,true),(1,true),(2,true),(3,true),(4,true),(5,true)] follows (by kernel_rfl)<|dM J J J<|dM J J J<|?_;refine dM J J J<|dy J (fun _=>yI J J (by omega) (by omega)) J J<|dA J J J<|dA J J J<|dn<|?_;exact jd (v1,u1%v1) ⟨hv1,pN (dQ _ hv0) hv1,by show Nat.gcd v1 (u1%v1)=_;rw[<-hgc1,jZ u1,tJ v1 u1,jZ]⟩ (by show u1%v1<v1;exact dQ _ hv0) (.cons J (.cons J .nil)) J
 refine zK<|dE<|bt<|sR<|sm J J<|?_;refine cE J J<|sy (iO J J) J<|zE<|?_;refine gm J (fun hc1=>?_) (fun hc1=>?_) -- slot 26
 ·refine sR<|sm J J<|sa J J<|zE<|cH<|?_
  have hv0:v=0:=by
   have:dg v=[]:=bS (by omega);have h2:=hq.dvl;rw[this] at h2;exact h2.symm
  have hue:u=Nat.gcd ua ub:=by rw[<-hgc,hv0,mM]
  exact zD (.tmp J .nil) ⟨p,J,by rw[<-hue] at hg0⊢;exact hp.mono hg0⟩
 have hv0:0<v:=iM fun h=>by
  have h1:dg v=[]:=by rw[h];unfold dg;rfl
  rw[h1] at hql;simp only[fX] at hql;omega
 have hm:=dQ u hv0;refine zK<|sR<|sm J J<|sm J J<|?_;refine sc (zC J J (H7 (k1:=k0) (k2:=k0) hp.d hq.d (by rw[hq.dvl];exact hv0) (by rw[hp.dvl];exact fJ (kR _ _) hp.lt) (by rw[hp.dvl,hq.dvl];exact pN hm hq.lt) (by omega) (by omega)) J ?_);rintro _ G3 _ ⟨z,r,rfl,hz,hr⟩;rw[hp.dvl,hq.dvl] at hr;refine sm J J<|sx J J J<|sx J J J<|sx J J J<|sa J J<|sa J J<|sa J J<|zE<|dB<|sm J J<|sm J J<|sa J J<|sa J J<|?_;refine zE<|?_;exact jd ⟨q,r,v,u%v⟩ ⟨hq.up,hr,by show Nat.gcd v (u%v)=_;rw[<-hgc,jZ u,tJ v u,jZ]⟩ hm (.cons J (.cons J .nil)) J
structure IV where
 neg:Bool
 a:SV
def IV.v(z:IV):Value:= .agg ⟨[.bool z.neg, .slice z.a.a z.a.n z.a.c]⟩
def zv(neg:Bool)(u:Nat):Int:=if neg then-(u:Int) else u
def sB(neg:Bool)(u:Nat):(zv neg u).natAbs=u:=by cases neg<;>simp[zv]
def aGo(neg:Bool)(u:Nat):zv (!neg) u= -zv neg u:=by cases neg<;>simp[zv]
def J5(n m:Bool)(u w:Nat):zv (n !=m) (u*w)=zv n u*zv m w:=by cases n<;>cases m<;>simp[zv,Int.neg_mul,sV]
def LY(neg:Bool)(u:Nat):decide (zv neg u<0)=(neg&&decide (0<u)):=by
 cases neg<;>simp[zv]
def mD(m:Int):zv (decide (m<0)) m.natAbs=m:=by
 unfold zv;by_cases h:m<0<;>simp[h]<;>omega
structure mr (k:Nat) (G:Gh) (z:IV) (m:Int):Prop where
 neg:z.neg=decide (m<0)
 abs:fP k G z.a m.natAbs
def mr.up{k:Nat}{A G:Gh}{z:IV}{m:Int}(h:mr k A z m)[GL A G]:mr k G z m:=⟨h.neg,h.abs.up⟩
def UV(n:Bool)(u w:Nat):zv n (u+w)=zv n u+zv n w:=by cases n<;>simp[zv]<;>omega
def Gk(p:Int):IntKind.i64.wrap p=(p+9223372036854775808)%18446744073709551616-9223372036854775808:=by
 have e:IntKind.i64.wrap p=if(true&&decide (p%2^64>=2^(64-1)))=true then p%2^64-2^64 else p%2^64:=J
 rw[e,show(2:Int)^64=18446744073709551616 by decide,show(2:Int)^(64-1)=9223372036854775808 by decide,Bool.true_and];by_cases h:p%18446744073709551616>=9223372036854775808
 ·rw[decide_eq_true h,if_pos J];omega
 ·rw[decide_eq_false h,if_neg (by decide)];omega
structure RV where
 n:Int
 d:Int
 p:Option Addr
def RV.v(z:RV):Value:= .agg ⟨[.int .i64 z.n, .int .i64 z.d, .pointer z.p]⟩
structure aD7 (z:RV) (q:Rat):Prop where
 p:z.p=none
 n:z.n=q.num
 d:z.d=(q.den:Int)-1
 b1:q.num.natAbs<4611686018427387904
 b2:q.den<4611686018427387904
structure WB (k:Nat) (G:Gh) (z:RV) (q:Rat):Prop where
 n:z.n=0
 d:z.d=0
 ex: ∃(b:Nat) (x:IV) (y:SV),z.p=some ⟨b,0,none⟩/\G b=some [.bool x.neg, .slice x.a.a x.a.n x.a.c, .slice y.a y.n y.c]/\mr k G x q.num/\fP k G y q.den
 no: ¬(q.num.natAbs<4611686018427387904/\q.den<4611686018427387904)
def vX(k:Nat)(G:Gh)(z:RV)(q:Rat):Prop:=q.num.natAbs<2^k/\q.den<2^k/\(aD7 z q\/WB k G z q)
def aEK{neg:Bool}{u g:Nat}(h:g∣u):zv neg (u/g)=zv neg u/(g:Int):=by
 cases neg
 ·simp[zv]
 ·simp only[zv,if_true]
  rw[Int.neg_ediv_of_dvd (rV.2 h),qZ]
def O'{m:Int}{e:Nat}(he:0<e):(mkRat m e).num=m/((Nat.gcd m.natAbs e:Nat):Int)/\(mkRat m e).den=e/Nat.gcd m.natAbs e:=by
 rw[Rat.num_mkRat,Rat.den_mkRat,if_neg (by omega),if_neg (by omega),jZ];exact⟨J,J⟩
def aCM{x:Nat}:(((bl x:Nat):Int)<=62)↔x<4611686018427387904:=by
 have:bl x<=62↔x<2^62:=oo;omega
structure aG2 where
 x:SV
 y:SV
 ds:List Nat
 es:List Nat

def XA{G:Gh}{x y:Nat}(hx:x<18446744073709551616)(hy:y<18446744073709551616):Fn prog 212 [.int .u64 (x:Nat), .int .u64 (y:Nat)] G (fun v _=>v= .tuple #[.int .u64 ((x*y/18446744073709551616:Nat):Int), .int .u64 ((x*y%18446744073709551616:Nat):Int)]):=
 Fn.of_calls (G:=G) (Kx func212 J J) (fun w=>Tryz.bits_Mul64 x y hx hy w)
def J4(a b:Int):a*b=if(a<0)↔(b<0) then((a.natAbs*b.natAbs:Nat):Int) else-((a.natAbs*b.natAbs:Nat):Int):=by
 rcases(by omega:a<0\/0<=a) with h|h<;>rcases(by omega:b<0\/0<=b) with h2|h2
 ·rw[if_pos (by simp[h,h2]),jX,lJ (qQ h),lJ (qQ h2),Int.neg_mul_neg]
 ·rw[if_neg (by simp[h];omega),jX,lJ (qQ h),nY h2,Int.neg_mul,Int.neg_neg]
 ·rw[if_neg (by simp[h2];omega),jX,nY h,lJ (qQ h2),sV,Int.neg_neg]
 ·rw[if_pos (by constructor<;>intro<;>omega),jX,nY h,nY h2]
def Xj{p:Int}(h:p.natAbs<9223372036854775808):IntKind.i64.wrap p=p:=by rw[Gk];omega

def amF{n:Int}{d:Nat}(h:n<0):mkRat (-(d:Int)) n.natAbs=Rat.divInt (d:Int) n:=by
 rw[<-Rat.divInt_ofNat,lJ (qQ h),Rat.neg_divInt_neg]
def Qx{q:Rat}(h:q.num<0):(q⁻¹).num= -(q.den:Int)/\(q⁻¹).den=q.num.natAbs:=by
 rw[Rat.num_inv,Rat.den_inv,if_neg (by omega),fM h];omega
def Kf{q:Rat}(h:0<q.num):(q⁻¹).num=(q.den:Int)/\(q⁻¹).den=q.num.natAbs:=by
 rw[Rat.num_inv,Rat.den_inv,if_neg (by omega),iZ h];omega
end Go.Sx
end
section
namespace Go.Sx
open Go
section
variable {P:Program} {ops:Array Oper} {Q:Exit->Act->World->Prop} {S:World->Prop} {fin:Nat->Bool} {k:Nat} {π₂:List (Nat×Bool)}
def M1(ops:Array Oper)(fin:Nat->Bool)(k:Nat)(π₂:List (Nat×Bool)):List (Nat×Bool)->Array Bool->Bool
 |[],listed=>(Region.ready .any ops listed==[k])&&qn ops fin π₂ (listed.setIfInBounds k true)
 |(i,true)::r,listed=>!(Nat.beq i k)&&yk ops fin listed i&&yk ops fin (listed.setIfInBounds k true) i&&M1 ops fin k π₂ r (listed.setIfInBounds i true)
 |(i,false)::r,listed=>!(Nat.beq i k)&&(Region.ready .any ops listed).all (fun j=>Nat.beq j i||Nat.beq j k)&&(Region.ready .any ops listed).contains i&&(Region.ready .any ops (listed.setIfInBounds k true)==[i])&&M1 ops fin k π₂ r (listed.setIfInBounds i true)
def Fy(P:Program)(ops:Array Oper)(Q:Exit->Act->World->Prop)(S:World->Prop)(fin:Nat->Bool)(k:Nat)(π₂:List (Nat×Bool)):List (Nat×Bool)->Act->World->Prop
 |[],a,w=>wpOp P ops Q k (fun a' w'=>(fin k=true\/S w')/\gp P ops Q S fin π₂ a' w') a w
 |(i,true)::r,a,w=> ∃o v,ops[i]? =some o/\S w/\YieldsIf P ops S o v a/\Fy P ops Q S fin k π₂ r (a.put o.dst v) w
 |(i,false)::r,a,w=>wpOp P ops Q i (fun a' w'=>(fin i=true\/S w')/\Fy P ops Q S fin k π₂ r a' w') a w/\
   wpOp P ops Q k (fun a' w'=>(fin k=true\/S w')/\gp P ops Q S fin ((i,false)::r++π₂) a' w') a w
end
section
variable {P:Program} {C:az} {n:Nat} {fr:Fr} {own own0:List ak} {G G0:Gh} {ops:Array Oper} {Q:Exit->Act->World->Prop} {fin:Nat->Bool} {k:Nat} {π π₂:List (Nat×Bool)}
def fF(d:Nat):Option Nat->Fr
 |none=>[]
 |some b=>[(d, .pointer (some ⟨b,0,none⟩))]
def fO(t:TypeId)(z:Value):Option Nat->List ak
 |none=>[]
 |some b=>[⟨b,aA z,t,true⟩]
def dwE(P:Program)(ops:Array Oper)(Q:Exit->Act->World->Prop)(S:World->Prop)(fin:Nat->Bool)(k:Nat)(π₂:List (Nat×Bool))(fl:Option Nat)(π:List (Nat×Bool)):Act->World->Prop:=
 match fl with
 |none=>Fy P ops Q S fin k π₂ π
 |some _=>gp P ops Q S fin (π++π₂)
end
end Go.Sx
end
section
namespace Go.Sx
open Go Go.Proofs
def D1{q:Rat}(h:q.den=1):q=(q.num:Int):=by
 conv=>lhs;rw[<-Rat.mkRat_self q,h,sX]
def bm(a b:Rat):Int:=if a<b then-1 else if b<a then 1 else 0
def IE(a b:Rat):(a-b).num<0↔a<b:=by
 rw[<-Rat.not_le,Rat.le_iff_sub_nonneg,<-Rat.num_nonneg];omega
def P8(a b:Rat):0<(a-b).num↔b<a:=by
 have h:=IE b a;have h2:(b-a).num= -(a-b).num:=by rw[<-oY,Rat.neg_sub]
 rw[h2] at h;rw[<-h];omega
def Ck(a b:Rat):Int.sign (a-b).num=bm a b:=by
 unfold bm;split
 ·rename_i h;exact fM ((IE a b).2 h)
 ·rename_i h
  split
  ·rename_i h2;exact iZ ((P8 a b).2 h2)
  ·rename_i h2
   rw[<-IE] at h;rw[<-P8] at h2;rw[show(a-b).num=0 by omega];rfl
def Kk{a b:Rat}(h:a.den=b.den):a<b↔a.num<b.num:=by
 rw[Rat.lt_iff,h];have:(0:Int)<b.den:=by have:=b.den_pos;omega
 exact⟨fun h2=>Int.lt_of_mul_lt_mul_right h2 (qQ this),fun h2=>Int.mul_lt_mul_of_pos_right h2 this⟩
def tw(a b:Rat):bm a b=0↔a=b:=by
 unfold bm;constructor
 ·intro h
  split at h
  ·omega
  ·rename_i h1
   split at h
   ·omega
   ·rename_i h2
    exact Rat.le_antisymm (Rat.not_lt.1 h2) (Rat.not_lt.1 h1)
 ·intro h
  subst h;rw[if_neg (Rat.not_lt.2 fU),if_neg (Rat.not_lt.2 fU)]
def LW(a b:Rat):0<bm a b↔b<a:=by
 unfold bm;constructor
 ·intro h
  split at h
  ·omega
  ·split at h
   ·assumption
   ·omega
 ·intro h
  rw[if_neg (fun h2=>Rat.not_lt.2 (cM h) h2),if_pos h];decide
def Qv(a b:Rat):bm a b<0↔a<b:=by
 unfold bm;constructor
 ·intro h
  split at h
  ·assumption
  ·split at h<;>omega
 ·intro h
  rw[if_pos h];decide
def rgcd(a b:Rat):Rat:=mkRat ((Nat.gcd (a.num.natAbs*b.den) (b.num.natAbs*a.den):Nat):Int) (a.den*b.den)
def zd(a b:Int):rgcd a b=((Nat.gcd a.natAbs b.natAbs:Nat):Int):=by
 unfold rgcd;show mkRat ((Nat.gcd (a.natAbs*1) (b.natAbs*1):Nat):Int) (1*1)=_;rw[iX,iX,iX,sX]
def WM{a b m:Nat}(ha:a<m)(hb:b<m):Nat.gcd a b<m:=by
 rcases fR a with h|h
 ·rw[h,Nat.gcd_zero_left];exact hb
 ·exact fJ (Nat.gcd_le_left _ h) ha
structure LV where
 a:RV
 b:RV
 c:RV
def LV.v(z:LV):Value:= .agg ⟨[.int .i64 z.a.n, .int .i64 z.a.d, .pointer z.a.p, .int .i64 z.b.n, .int .i64 z.b.d, .pointer z.b.p, .int .i64 z.c.n, .int .i64 z.c.d, .pointer z.c.p]⟩
structure aa where
 a:Int
 b:Int
 c:Int
structure Fi (k:Nat) (G:Gh) (z:LV) (l:aa):Prop where
 a:vX k G z.a (l.a:Rat)
 b:vX k G z.b (l.b:Rat)
 c:vX k G z.c (l.c:Rat)
def aa.ok(l:aa):Prop:= ¬(l.a=0/\l.b=0)/\Nat.gcd (Nat.gcd l.a.natAbs l.b.natAbs) l.c.natAbs=1
def okI(neg:Bool)(ds:List Nat):Prop:=d4 ds/\(neg=true->ds≠[])
structure PV where
 x:RV
 y:RV
def PV.v(z:PV):Value:= .agg ⟨[.int .i64 z.x.n, .int .i64 z.x.d, .pointer z.x.p, .int .i64 z.y.n, .int .i64 z.y.d, .pointer z.y.p]⟩
structure ab where
 x:Rat
 y:Rat
structure IsP (k:Nat) (G:Gh) (z:PV) (p:ab):Prop where
 x:vX k G z.x p.x
 y:vX k G z.y p.y
def GA(a:Int): -(a:Rat)=((-a:Int):Rat):=rfl
def aa.rev(l:aa):aa:=⟨-l.a, -l.b, -l.c⟩
def aa.nor(l:aa):ab:=⟨l.a,l.b⟩
def aa.dir(l:aa):ab:=⟨l.b, -(l.a:Rat)⟩
def ab.dot(p q:ab):Rat:=p.x*q.x+p.y*q.y
def ab.cross(p q:ab):Rat:=p.x*q.y-p.y*q.x
def ab.scale(p:ab)(c:Rat):ab:=⟨p.x*c,p.y*c⟩
def ab.add(p q:ab):ab:=⟨p.x+q.x,p.y+q.y⟩
def aa.value(l:aa)(p:ab):Rat:=l.nor.dot p+(l.c:Rat)
def aa.base(l:aa):ab:=l.nor.scale (-(l.c:Rat)/l.nor.dot l.nor)
def aa.at(l:aa)(t:Rat):ab:=l.base.add (l.dir.scale t)
end Go.Sx
end
section
namespace Go.Sx
open Go
instance:DecidableEq aa:=fun x y=>decidable_of_iff (x.a=y.a/\x.b=y.b/\x.c=y.c) (by
 cases x;cases y;simp)
structure ah where
 lo:Rat
 hi:Rat
 nl:Bool
 nh:Bool
def ah.all:ah:=⟨0,0,true,true⟩
def ah.empty(v:ah):Bool:=!v.nl&&(!v.nh&&decide (0<=bm v.lo v.hi))
def ah.meet(v w:ah):ah:=
 ⟨if v.nl then w.lo else if w.nl then v.lo else if v.lo<w.lo then w.lo else v.lo,
  if v.nh then w.hi else if w.nh then v.hi else if w.hi<v.hi then w.hi else v.hi,v.nl&&w.nl,v.nh&&w.nh⟩
def ah.sample(v:ah):Rat:=if v.nl&&v.nh then 0 else if v.nl then v.hi-1 else if v.nh then v.lo+1 else(v.lo+v.hi)*mkRat 1 2
def aa.cutK(l m:aa):Rat:=m.nor.dot l.dir
def aa.cutC(l m:aa):Rat:=m.value l.base
def aa.cutV(l:aa)(v:ah)(m:aa):ah:=
 if Int.sign (l.cutK m).num=0 then v
 else if Int.sign (l.cutK m).num=1 then v.meet ⟨-(l.cutC m/l.cutK m),0,false,true⟩
 else v.meet ⟨0, -(l.cutC m/l.cutK m),true,false⟩
def aa.cutB(l:aa)(v:ah)(m:aa):Bool:=
 if Int.sign (l.cutK m).num=0 then decide (0<Int.sign (l.cutC m).num) else !(l.cutV v m).empty
structure bj where
 l:aa
 v:ah
abbrev ao:=List bj
def nq(l:aa):ao->ah->Option ah
 |[],v=>some v
 |s::t,v=>if l.cutB v s.l then nq l t (l.cutV v s.l) else none
def jw(c:ao)(l:aa):Option ah:=nq l c ah.all
def oc(l:aa)(s:bj):Int:=Int.sign (l.value (s.l.at s.v.sample)).num
def oy(l:aa):ao->Int
 |[]=> -1
 |s::t=>if oc l s≠0 then oc l s else if s.l=l then 1 else oy l t
def vJ(c:ao)(l:aa):Int:=if(jw c l).isSome then 0 else oy l c
def ab.half(p:ab):Int:=
 if 0<Int.sign p.y.num\/(Int.sign p.y.num=0/\0<Int.sign p.x.num) then 1 else if Int.sign p.y.num<0\/Int.sign p.x.num<0 then 2 else 0
def fp(u v:ab):Int:=if u.half<v.half then-1 else if v.half<u.half then 1 else-(Int.sign (u.cross v).num)
def dq(l:aa):ao->ao
 |[]=>[]
 |s::t=>if s.l.cutB s.v l then⟨s.l,s.l.cutV s.v l⟩::dq l t else dq l t
def gg(p:Nat->Bool)(i j:Nat):Nat:=
 if h:i<j then(if p ((i+j)/2) then gg p ((i+j)/2+1) j else gg p i ((i+j)/2)) else i
termination_by j-i
def jb(c:ao)(l:aa)(i:Nat):Bool:=match c[i]? with
 |some s=>decide (fp s.l.dir l.dir<0)
 |none=>false
def j'(c:ao)(l:aa)(v:ah):ao:=
 c.take (gg (jb c l) 0 c.length)++⟨l,v⟩::c.drop (gg (jb c l) 0 c.length)
def bg(c:ao)(l:aa):ao:=match jw c l with
 |some v=>j' (dq l c) l v
 |none=>c
def bC(c:ao)(l:aa):Bool:=match jw c l with
 |some _=>true
 |none=>decide (0<vJ c l)
def D8(p:Nat->Bool): ∀(d i j:Nat),j-i<=d->i<=j->i<=gg p i j/\gg p i j<=j
 |0,i,j,h,hij=>by
  rw[gg,dif_neg (by omega)];omega
 |d+1,i,j,h,hij=>by
  rw[gg];split
  ·split
   ·have:=D8 p d ((i+j)/2+1) j (by omega) (by omega);omega
   ·have:=D8 p d i ((i+j)/2) (by omega) (by omega);omega
  ·omega
def P4(l:aa): ∀c:ao,(dq l c).length<=c.length
 |[]=>aN _
 |s::t=>by
  have:=P4 l t;unfold dq;split<;>simp<;>omega
def awZ(c:ao)(l:aa)(v:ah):(j' c l v).length=c.length+1:=by
 have:=(D8 (jb c l) c.length 0 c.length (by omega) (by omega)).2;simp[j'];omega
def vt(c:ao)(l:aa):(bg c l).length<=c.length+1:=by
 unfold bg;split
 ·rw[awZ];have:=P4 l c;omega
 ·omega
inductive Tr where
 |leaf (b:Bool)
 |node (l:aa) (x y:Tr)
def Tr.isLeaf:Tr->Bool
 | .leaf _=>true
 | .node .. =>false
def Tr.code:Tr->Bool
 | .leaf b=>b
 | .node .. =>false
def Tr.depth:Tr->Nat
 | .leaf _=>0
 | .node _ x y=>1+max x.depth y.depth
def Tr.size:Tr->Nat
 | .leaf _=>0
 | .node _ x y=>1+x.size+y.size
def Tr.joinQ(l:aa)(x y:Tr):Tr:=if x.isLeaf&&(y.isLeaf&&(x.code==y.code)) then x else .node l x y
def Tr.restrict:Tr->ao->Tr
 | .leaf b,_=> .leaf b
 | .node l x y,c=>if !bC c l.rev then x.restrict c else if !bC c l then y.restrict c else joinQ l (x.restrict (bg c l)) (y.restrict (bg c l.rev))
def Tr.parts:Tr->ao->List (Bool×ao)
 | .leaf b,c=>[(b,c)]
 | .node l x y,c=>(if bC c l then x.parts (bg c l) else [])++(if bC c l.rev then y.parts (bg c l.rev) else [])
def Tr.all(p:aa->Prop):Tr->Prop
 | .leaf _=>True
 | .node l x y=>p l/\x.all p/\y.all p
def Tr.good:Tr->Prop
 | .leaf _=>True
 | .node _ x y=> ¬(x.isLeaf=true/\y.isLeaf=true/\x.code=y.code)/\x.good/\y.good
structure NQ where
 l:aa
 a:Int
 b:Int
def r5(b:Bool):Int:=if b then-2 else-1
def Tr.num:Tr->Nat->Int
 | .leaf b,_=>r5 b
 | .node ..,n=>n
def Tr.wr:Tr->Nat->List NQ
 | .leaf _,_=>[]
 | .node l x y,n=>⟨l,x.num (n+1),y.num (n+1+x.size)⟩::x.wr (n+1)++y.wr (n+1+x.size)
def Tr.wr_len: ∀(t:Tr) (n:Nat),(t.wr n).length=t.size
 | .leaf _,n=>rfl
 | .node l x y,n=>by
  have h1:=Tr.wr_len x (n+1);have h2:=Tr.wr_len y (n+1+x.size);simp[Tr.wr,Tr.size,h1,h2];omega
def Tr.joinQ_cases(l:aa)(x y:Tr):(Tr.joinQ l x y=x/\x.isLeaf=true)\/(Tr.joinQ l x y= .node l x y/\ ¬(x.isLeaf=true/\y.isLeaf=true/\x.code=y.code)):=by
 unfold Tr.joinQ;split
 ·rename_i h
  simp at h;exact .inl ⟨J,h.1⟩
 ·rename_i h
  simp at h;exact .inr ⟨J,fun⟨a,b,c⟩=>h a b c⟩
def Tr.restrict_depth: ∀(t:Tr) (c:ao),(t.restrict c).depth<=t.depth
 | .leaf b,c=>aN _
 | .node l x y,c=>by
  unfold Tr.restrict;split
  ·have:=x.restrict_depth c;simp only[Tr.depth];omega
  ·split
   ·have:=y.restrict_depth c;simp only[Tr.depth];omega
   ·have h1:=x.restrict_depth (bg c l)
    have h2:=y.restrict_depth (bg c l.rev);rcases Tr.joinQ_cases l (x.restrict (bg c l)) (y.restrict (bg c l.rev)) with⟨h,_⟩|⟨h,_⟩
    ·rw[h];simp only[Tr.depth];omega
    ·rw[h];simp only[Tr.depth];omega
def Tr.restrict_all(p:aa->Prop): ∀(t:Tr) (c:ao),t.all p->(t.restrict c).all p
 | .leaf b,c,_=>trivial
 | .node l x y,c,h=>by
  obtain⟨h0,h1,h2⟩:=h;unfold Tr.restrict;split
  ·exact x.restrict_all p c h1
  ·split
   ·exact y.restrict_all p c h2
   ·rcases Tr.joinQ_cases l (x.restrict (bg c l)) (y.restrict (bg c l.rev)) with⟨h,_⟩|⟨h,_⟩
    ·rw[h];exact x.restrict_all p _ h1
    ·rw[h];exact⟨h0,x.restrict_all p _ h1,y.restrict_all p _ h2⟩
end Go.Sx
end
