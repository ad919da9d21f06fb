import Derived.Test.YtidmgdlbilojcaaGreatDoorMb3
set_option linter.all false
set_option maxHeartbeats 2000000
set_option maxRecDepth 100000
section
namespace Go.Sx
open Go Go.Proofs Tryz
def Yy{V n:Nat}(h1:4294967296^(n-1)<=V)(h2:V<4294967296^n)(hn:0<n):(dg V).length=n:=by
 obtain⟨e,hk,hr⟩:=eE V;have hne:dg V≠[]:=fun h=>by
  rw[h] at e;have:0<4294967296^(n-1):=fY (by decide);simp[dv] at e;omega
 have h3:=rx hr hne;have h4:=jB hk;rw[e] at h3 h4;have h5:=(oY (a:=4294967296) (by decide)).1 (fT h3 h2);have h6:=(oY (a:=4294967296) (by decide)).1 (fT h1 h4);omega
def awz{t s:Nat}(h0:0<t)(ht:t<4294967296)(hs:s=32-bl t):s<32/\2147483648<=t*2^s/\(t+1)*2^s<=4294967296:=by
 have h1:bl t<=32:=oy.2 ht;have h2:bl t≠0:=fun h=>by
  have:=DS t;rw[h] at this;omega
 have h3:=DS t;have h4: ¬t<2^(bl t-1):=fun h=>by
  have:=oy.2 h;omega
 have e1:2^(bl t-1)*2^s=2147483648:=by rw[<-fJ,show bl t-1+s=31 by omega]
 have e2:2^bl t*2^s=4294967296:=by rw[<-fJ,show bl t+s=32 by omega]
 refine⟨by omega,?_,?_⟩
 ·rw[<-e1];exact bW _ (by omega)
 ·rw[<-e2];exact bW _ h3
def Yc{us:List Nat}(h:bi us)(i:Nat)(hd:us.length=i+1):dv us=us.getD i 0*4294967296^i+dv (us.take i):=by
 have h0:dv (us.drop (i+1))=0:=by rw[fL (by omega)];rfl
 rw[y9 us i,Ak us i,h0,kZ,bN];rfl
def NZ{b:List Nat}(h:eh b)(i:Nat)(hi:b.length=i+1):0<b.getD i 0:=by
 rcases fX (b.getD i 0) with h0|h0
 ·exfalso
  apply h;rw[lS,hi,show i+1-1=i from J];rw[List.getD,aZ (by omega)] at h0;rw[aZ (by omega)];simpa using h0
 ·exact h0
def axE(a:List Nat)(k:Nat):dv (a++List.replicate k 0)=dv a:=by rw[zt,Ad];simp
structure aAM where
 us:List Nat
 qs:List Nat
 j:Nat
structure axQ where
 g:Nat
 r:Nat
structure Ty where
 ws:List Nat
 k:Nat
 bo:Nat
 c:Nat
def ays{P:Program}{t:TypeId}(c:Nat)(h:c<18446744073709551616)(w:World):(binOp .and t (.int .u64 (c:Int)) (.int .u64 4294967295)).run P w= .ok (.int .u64 ((c%4294967296:Nat):Int)) w:=by
 have h1:(BitVec.ofInt 64 (c:Int) &&& BitVec.ofInt 64 4294967295).toNat=c%4294967296:=by
  rw[BitVec.toNat_and,BitVec.ofInt_natCast,BitVec.toNat_ofNat,eX (by omega),show(BitVec.ofInt 64 4294967295).toNat=2^32-1 from J,Nat.and_two_pow_sub_one_eq_mod]
 have h2:IntKind.u64.wrap ((c%4294967296:Nat):Int)=((c%4294967296:Nat):Int):=by rw[n8];omega
 simp only[binOp];show(Op.intBits .and .u64 (c:Int) 4294967295).run P w=_;unfold Op.intBits;show(pure (Value.int .u64 (IntKind.u64.wrap ((BitVec.ofInt 64 (c:Int) &&& BitVec.ofInt 64 4294967295).toNat:Int))):Sem Value).run P w=_;rw[h1,h2,run_pure]
def td(u m bo:Nat):Nat:=if m+bo<=u then u-(m+bo) else u+18446744073709551616-(m+bo)
def DL(u m bo:Nat)(hu:u<4294967296)(hm:m<4294967296)(hb:bo<=1):IntKind.u64.wrap (IntKind.u64.wrap ((u:Int)-(m:Int))-(bo:Int))=((td u m bo:Nat):Int):=by
 rw[n8,n8];unfold td;split<;>omega
def Tt(u m bo:Nat)(hu:u<4294967296)(hm:m<4294967296)(hb:bo<=1):td u m bo%4294967296+(m+bo)=u+td u m bo/9223372036854775808*4294967296/\td u m bo/9223372036854775808<=1/\td u m bo<18446744073709551616:=by
 unfold td;split<;>omega
def ax8{A B G:Gh}{x y:SV}{a b:List Nat}{k1 k2:Nat}(hx:cp A x a)(hy:cp B y b)[GL A G][GL B G](hna:eh a)(hnb:eh b)(hb2:2<=b.length)(hle:dv b<=dv a)
  (hq:dv a/dv b<2^k1)(hr:dv a%dv b<2^k2)(hl:a.length<=112589990684):
  Fn prog 252 [x.v,y.v] G (fun v G'=> ∃z r:SV,v= .tuple #[z.v,r.v]/\fI k1 G' z (dv a/dv b)/\fI k2 G' r (dv a%dv b)):=by
 have hxl:=hx.len;have hyl:=hy.len;obtain⟨n,hn⟩: ∃n,b.length=n+2:=⟨b.length-2,by omega⟩;have hbp:0<dv b:=iS fun h=>by
  rw[awY hnb] at h;rw[h] at hn;simp at hn
 have hnm:b.length<=a.length:=by
  rcases iT a.length b.length with h|h
  ·have:=tM hx.ok hnb h
   omega
  ·exact h
 have htp:=NZ hnb (n+1) hn;have htl:=hy.ok.get (n+1);have hbv:=Yc hy.ok (n+1) hn;have hbt:=Ex hy.ok (n+1);obtain⟨s,hs⟩: ∃s,s=32-bl (b.getD (n+1) 0):=⟨_,rfl⟩;obtain⟨hs32,hs1,hs2⟩:=awz htp htl hs;have hble:bl (b.getD (n+1) 0)<=32:=oy.2 htl;have hpn:0<4294967296^(n+1):=fY (by decide);have hps:0<2^s:=fY (by decide);have hV1:2147483648*4294967296^(n+1)<=dv b*2^s:=by
  refine cR (bW _ hs1) ?_;rw[cX,bN (2^s),<-cX];exact bW _ (by omega)
 have hV2:dv b*2^s<4294967296^(n+2):=by
  refine dW (lK (k:=2^s) (m:=(b.getD (n+1) 0+1)*4294967296^(n+1)) (by rw[cS,oZ];omega) hps) ?_;rw[cX,bN (4294967296^(n+1)),<-cX,uz (n+1),bN _ 4294967296];exact bW _ hs2
 have hVl:(dg (dv b*2^s)).length=n+2:=Yy (by show 4294967296^(n+1)<=_;omega) hV2 (by omega);have hal:=jB hx.ok;have hU2:dv a*2^s<4294967296^(a.length+1):=by
  rw[uz];exact pX hal (dW (sY (by decide) hs32) (by decide))
 have hUl1:(dg (dv a*2^s)).length<=a.length+1:=by
  have h1:=TC (eE (dv a*2^s)).2.2 (k:=32*(a.length+1)) (by rw[(eE _).1,pN];exact hU2);omega
 have hUl0:a.length<=(dg (dv a*2^s)).length:=by
  have hane:a≠[]:=fun h=>by
   have:=congrArg List.length h;simp only[fU] at this;omega
  have h1:=rx hna hane;have h2:=jB (eE (dv a*2^s)).2.1;rw[(eE _).1] at h2;have h3:dv a<=dv a*2^s:=rJ _ hps;have h4:=(oY (a:=4294967296) (by decide)).1 (fT (cR h1 h3) h2);omega
 have hU3:dv a*2^s<dv b*2^s*4294967296^(a.length-n-1):=by
  have h1:4294967296^(n+1)*4294967296^(a.length-n-1)=4294967296^a.length:=by rw[<-fJ,show n+1+(a.length-n-1)=a.length by omega]
  refine dW (lK hal hps) (cR (fZ _ (bY (by decide) (show s<=31 by omega))) ?_);rw[<-h1,bN,<-cX];exact bW _ hV1
 have hta:=M7 hna;have htb:=M7 hnb;refine Fn.intro func252 J J ntmps252 J ?_;intro C _ _;refine sR<|sa J J<|sa J J<|zE<|Yn<|sR<|sm J J<|sm J J<|c7 J J<|sy (km J J) J<|?_;refine sy (ir hy J J (by omega) (by omega)) J<|?_;rw[show((y.n:Int)-1).toNat=n+1 by omega];refine sy (iA hy J (by omega)) J<|?_;refine sc (zC J J (KQ htl) J ?_);rintro _ G1 _ rfl;refine sy (gw J) J<|?_;rw[show(32-(bl (b.getD (n+1) 0):Int))=(s:Int) by omega];refine sa J J<|zE<|sR<|sm J J<|sm J J<|?_;refine sc (zC J J (QU (kk:=32*(a.length+1)) hx hs32 (by rw[pN];exact hU2) (by omega)) J ?_);rintro _ G2 _ ⟨u,rfl,hu,huc⟩;have hul:=hu.len;rw[hta] at huc;refine sc (Ik (by rfl) (by rfl) (by rfl) (by rfl) J ?_);intro b3;refine sc (CU (z:= .int .u32 0) (m:=2) J J (R6 hu.d) (AW inferInstance J) (by omega) (by decide) (by omega) J ?_);intro b4 cap h1;have ecs:(dg (dv a*2^s)).map dI++[Value.int .u32 0, .int .u32 0]++dm (.int .u32 0) (cap-(u.n+2))=(dg (dv a*2^s)++List.replicate (cap-u.n) 0).map dI:=by
  rw[uX,show cap-u.n=(cap-(u.n+2))+1+1 by omega,iN,iN];simp[dI]
 rw[ecs];clear ecs;have hus:dv (dg (dv a*2^s)++List.replicate (cap-u.n) 0)=dv a*2^s:=by rw[axE,(eE _).1]
 have huo:bi (dg (dv a*2^s)++List.replicate (cap-u.n) 0):=(eE _).2.1.append (.replicate _);have hulen:(dg (dv a*2^s)++List.replicate (cap-u.n) 0).length=cap:=by simp;omega
 generalize dg (dv a*2^s)++List.replicate (cap-u.n) 0=us0 at hus huo hulen⊢;refine sm J J<|c7 J J<|sy (d4 J J) J<|sy (z6 J J (by omega) (by omega)) J<|sa J J<|zE<|sR<|sm J J<|?_;refine sm J J<|?_;refine sc (zC J J (QU (kk:=32*(n+2)) hy hs32 (by rw[pN];exact hV2) (by omega)) J ?_);rintro _ G4 _ ⟨v,rfl,hv,_⟩;have hvl:=hv.len;obtain⟨hvv,hvo,hvn⟩:=eE (dv b*2^s);replace hv:=hv.d;rw[hVl] at hvl;generalize hvs:dg (dv b*2^s)=vs at*;refine sa J J<|zE<|sR<|sm J J<|c7 J J<|sa J J<|zE<|bu<|dr (fun _=>false) [(0,true),(1,true),(2,true),(3,true),(4,true),(5,true),(6,true),(7,true),(8,true),(9,true),(10,true),(11,true),(12,true),(13,true)] follows (by kernel_rfl)<|?_;refine dM J J J<|dM J J J<|dy J (fun _=>km J J (by omega) (by omega)) J J<|dy J (fun _=>ir hv J J (by omega) (by omega)) J J<|?_;rw[show((v.n:Int)-1).toNat=n+1 by omega];have hvt:=hvo.get (n+1);have hv2:=hvo.get n;refine dy J (fun _=>iA hv J (by omega)) J J<|dy J (fun _=>gw J (by omega) (by omega)) J J<|dM J J J<|dM J J J<|?_;refine dy J (fun _=>km J J (by omega) (by omega)) J J<|dy J (fun _=>ir hv J J (by omega) (by omega)) J J<|?_;rw[show((v.n:Int)-2).toNat=n by omega];refine dy J (fun _=>iA hv J (by omega)) J J<|?_;refine dy J (fun _=>gw J (by omega) (by omega)) J J<|dA J J J<|dA J J J<|dn<|sR<|sm J J<|?_;refine c7 J J<|sm J J<|sy (km J J) J<|?_;obtain⟨l,hlq⟩: ∃l,a.length=n+1+l:=⟨a.length-n-1,by omega⟩;rw[show a.length-n-1=l by omega] at hU3;rw[show(((x.n:Int)+1).toNat:Int)-v.n=(l:Nat) by omega,show((x.n:Int)+1).toNat=a.length+1 by omega]
 refine sc (t6 J J (by omega) (by omega) (by omega) (by rfl) J ?_);intro b5;rw[uX,bJ];refine aDk [_,_] (.cons_cons _ (.cons_cons _ (.cons _ .slnil))) ?_;refine sa J J<|zE<|bu<|W5<|bu<|sR<|sm J J<|c7 J J<|sy (km J J) J<|sa J J<|zE<|d7<|?_;refine mm (X:=aAM) (fun q=>[(13, .int .i64 ((q.j:Int)-1)),(7, .slice (some ⟨b4,0,none⟩) (a.length+1) cap),(9, .int .i64 v.n),(10, .int .u64 (vs.getD (n+1) 0:Nat)),(11, .int .u64 (vs.getD n 0:Nat)),(8, .slice v.a v.n v.c),(12, .slice (some ⟨b5,0,none⟩) l l),(6, .int .u64 s)])
  (fun q=>[⟨b5,q.qs.map dI,215,true⟩,⟨b4,q.us.map dI,215,true⟩])
  (fun q _=>q.us.length=cap/\bi q.us/\q.qs.length=l/\bi q.qs/\q.j<=l/\(∀i,i<q.j->q.qs.getD i 0=0)/\dv a*2^s=dv q.us+dv vs*dv q.qs/\dv q.us<dv vs*4294967296^q.j) (fun q=>q.j) ⟨us0,List.replicate l 0,l⟩
  ⟨hulen,huo,by simp, .replicate _,aN _,fun i _=>by simp[List.getD,List.getElem?_replicate];split<;>rfl,by simp only[Ad];omega,by simp only[hus,hvv];exact hU3⟩ (.cons J (.cons J (.cons J (.cons J (.cons J (.cons J (.cons J (.cons J .nil)))))))) J ?_
 rintro ⟨us,qs,j⟩ Gx _ ⟨hul2,huo2,hql,hqo,hjl,hq0,hinv,hlt⟩;simp only[] at hul2 huo2 hql hqo hjl hq0 hinv hlt⊢;refine bu<|sR<|sm J J<|sy (uU J J) J<|zE<|?_;refine mi J (fun hc=>?_) (fun hc=>?_) -- slot 68
 ·have hj0:j=0:=by omega
  subst hj0;refine jE<|eD<|eD<|jC<|bu<|?_;refine rG b5 (.hd ..) (fun G5 _ hgb5=>?_);refine rG b4 (.hd ..) (fun G6 _ hgb4=>?_);refine dr (fun _=>false) [(0,true),(2,true),(3,true),(4,true),(5,true),(1,false),(6,false),(7,true),(8,true)] follows (by kernel_rfl)<|?_;have hDq:cp G6 ⟨some ⟨b5,0,none⟩,l,l⟩ qs:= .of_block hqo (hgb5.up (G:=G6)) hql.symm (aN _) (by rw[aL (by simp)]);have hut:dv (us.take (n+2))=dv us:=by
   have h0:=y9 us (n+2);rw[ER (by rw[rU,iY,hvv] at hlt;omega)] at h0;omega
  have hDu:cp G6 ⟨some ⟨b4,0,none⟩,n+2,cap⟩ (us.take (n+2)):= .of_block (huo2.take _) hgb4.h (by simp;omega) (by omega) (by rw[gR,cW,gJ (by omega)]);have hV0:0<dv vs:=by rw[hvv];exact gU hbp hps
  rw[rU,iY] at hlt;have hdq:dv a/dv b=dv qs:=by
   rw[<-Nat.mul_div_mul_right _ _ hps,hinv,<-hvv,mK _ _ hV0,jM hlt,eK]
  have hdr:dv a%dv b=dv (us.take (n+2))/2^s:=by
   have:dv us=dv a%dv b*2^s:=by
    rw[<-rN,hinv,<-hvv,nL,eX hlt]
   rw[hut,this,Nat.mul_div_cancel _ hps]
  refine dM J J J<|dM J J J<|dM J J J<|dy J (fun _=>z6 J J (by omega) (by omega)) J J<|?_;rw[show(v.n:Int).toNat=n+2 by omega];refine dM J J J<|?_;refine dc J J (zC J J (je hDq (by omega)) J ?_);rintro _ G7 _ rfl;refine xd<|?_;refine dc J J (zC J J (aCP (kk:=k2) hDu hs32 (by rw[<-hdr];exact hr) (by simp;omega)) J ?_);rintro _ G8 _ ⟨r,rfl,hr8⟩;refine xd<|dA J J J<|dA J J J<|dn<|dq<|?_;refine zD (.tmp J (.tmp J .nil)) ⟨⟨some ⟨b5,0,none⟩,(trimD qs).length,l⟩,r,J,?_,?_⟩
  ·rw[hdq]
   refine⟨?_,by rw[<-hdq];exact hq⟩;rw[qe hqo];exact hDq.trim.up
  ·rw[hdr];exact hr8
 obtain⟨i,rfl⟩: ∃i,j=i+1:=⟨j-1,by omega⟩;rw[show(((i+1:Nat):Int)-1)=i by omega];have hpi:0<4294967296^i:=fY (by decide)
 -- the digits that the guess looks at
 obtain⟨p,hp⟩: ∃p,p=4294967296^(i+n):=⟨_,rfl⟩;obtain⟨V,hV⟩: ∃V,V=dv vs*4294967296^i:=⟨_,rfl⟩;have hvB:dv vs<4294967296^(n+2):=by rw[hvv];exact hV2
 have hvh:=T3 hvo n hvB;have hltV:dv us<V*4294967296:=by rw[hV,cX,<-uz];exact hlt
 have hV0:0<V:=by rw[hV];exact gU (by rw[hvv];exact gU hbp hps) hpi
 have hT0:0<vs.getD (n+1) 0:=NZ hvn (n+1) hVl;have hVp:V=(vs.getD (n+1) 0*4294967296+vs.getD n 0)*p+dv (vs.take n)*4294967296^i:=by
  rw[hV,hvh,cS,hp,fJ,bN (4294967296^i),cX]
 have hv0:dv (vs.take n)*4294967296^i<p:=by
  rw[hp,fJ,bN];exact Nat.mul_lt_mul_of_pos_left (Ex hvo n) hpi
 have hM:dv us<4294967296^(i+n+3):=by
  refine dW hlt ?_;rw[show i+n+3=(n+2)+(i+1) by omega,fJ 4294967296 (n+2) (i+1)];exact bW _ (mX hvB)
 have huh:=Ui huo2 (i+n) hM;rw[<-hp] at huh;have hu0:=Ex huo2 (i+n);rw[<-hp] at hu0;have hg0:=huo2.get (i+n);have hg1:=huo2.get (i+n+1);have hg2:=huo2.get (i+n+2);refine zK<|bu<|d7<|bu<|dr (fun _=>false) [(0,true),(1,true),(2,true),(3,true),(4,true),(5,true),(6,true),(7,true),(8,true),(9,true),(10,true),(11,true),(12,true),(13,true),(14,true),(15,true),(16,true),(17,true)] follows (by kernel_rfl)<|?_;refine dM J J J<|dM J J J<|dM J J J<|dy J (fun _=>d4 J J (by omega) (by omega)) J J<|?_;refine dy J (fun _=>f5 J J (by omega) (by omega)) J J<|?_;rw[show((i:Int)+(v.n:Int)).toNat=i+n+2 by omega];refine dy J (fun _=>ri J (by omega)) J J<|dy J (fun _=>gw J (by omega) (by omega)) J J<|dy J (fun _=>x8 J J (by decide)) J J<|?_;rw[sk (us.getD (i+n+2) 0) 32 (by decide) (by omega) J];refine dM J J J<|dM J J J<|dM J J J<|dy J (fun _=>d4 J J (by omega) (by omega)) J J<|?_;refine dy J (fun _=>km J J (by omega) (by omega)) J J<|dy J (fun _=>f5 J J (by omega) (by omega)) J J<|?_;rw[show((i:Int)+(v.n:Int)-1).toNat=i+n+1 by omega];refine dy J (fun _=>ri J (by omega)) J J<|?_;refine dy J (fun _=>gw J (by omega) (by omega)) J J<|dy J (fun _=>i4 J J (H0 (us.getD (i+n+1) 0) (us.getD (i+n+2) 0) 32 (by omega) (by omega))) J J<|dA J J J<|dn<|bu<|?_;obtain⟨f,hf⟩: ∃f,f=us.getD (i+n+2) 0*4294967296+us.getD (i+n+1) 0:=⟨_,rfl⟩;rw[show us.getD (i+n+1) 0+us.getD (i+n+2) 0*2^32=f by omega];rw[<-hf] at huh;have hfB:f<18446744073709551616:=by omega
 refine dr (fun _=>false) [(0,true),(1,true),(2,true),(3,true),(4,true),(5,true),(6,true),(7,true)] follows (by kernel_rfl)<|?_;refine dM J J J<|dM J J J<|dy J (fun _=>Al J J (by omega) (by omega) (by omega)) J J<|dM J J J<|dM J J J<|?_;refine dy J (fun _=>yg J J (by omega) (by omega)) J J<|dA J J J<|dA J J J<|dn<|?_;rw[show((f:Int)/((vs.getD (n+1) 0:Nat):Int))=((f/vs.getD (n+1) 0:Nat):Int) by rfl,show((f:Int)%((vs.getD (n+1) 0:Nat):Int))=((f%vs.getD (n+1) 0:Nat):Int) by rfl]
 -- GUESS
 have hUle:(f*4294967296+us.getD (i+n) 0)*p<=dv us:=by omega
 have hUlt:dv us<(f*4294967296+us.getD (i+n) 0+1)*p:=by rw[cS _ 1,oZ];omega
 have hVle:(vs.getD (n+1) 0*4294967296+vs.getD n 0)*p<=V:=by rw[hVp];exact nV _ _
 have hfT:f<=vs.getD (n+1) 0*4294967296+vs.getD n 0:=aJv hUle hVp hv0 hltV;refine CF Nat (fun g=>[(15, .int .u64 (g:Nat)),(13, .int .i64 i),(7, .slice (some ⟨b4,0,none⟩) (a.length+1) cap),(9, .int .i64 v.n),(10, .int .u64 (vs.getD (n+1) 0:Nat)),(11, .int .u64 (vs.getD n 0:Nat)),(8, .slice v.a v.n v.c),(12, .slice (some ⟨b5,0,none⟩) l l),(6, .int .u64 s)]) (fun _=>[⟨b5,qs.map dI,215,true⟩,⟨b4,us.map dI,215,true⟩]) (fun g _=>g<4294967296/\dv us<(g+1)*V/\g*V<dv us+V) ?_ ?_
 ·refine d7<|?_
  refine mm (X:=axQ) (fun q=>[(15, .int .u64 q.g),(16, .int .u64 q.r),(13, .int .i64 i),(7, .slice (some ⟨b4,0,none⟩) (a.length+1) cap),(9, .int .i64 v.n),(10, .int .u64 (vs.getD (n+1) 0:Nat)),(11, .int .u64 (vs.getD n 0:Nat)),(8, .slice v.a v.n v.c),(12, .slice (some ⟨b5,0,none⟩) l l),(6, .int .u64 s)]) (fun _=>[⟨b5,qs.map dI,215,true⟩,⟨b4,us.map dI,215,true⟩]) (fun q _=>f=q.g*vs.getD (n+1) 0+q.r/\q.r<4294967296/\dv us<(q.g+1)*V) (fun q=>q.g) ⟨f/vs.getD (n+1) 0,f%vs.getD (n+1) 0⟩
   ⟨(Nat.div_add_mod' ..).symm,qJ (dX _ hT0) hvt,TX hUlt hg0 hVle hT0⟩ (.cons J (.cons J (.cons J (.cons J (.cons J (.cons J (.cons J (.cons J (.cons J (.cons J .nil)))))))))) J ?_
  rintro ⟨g,r⟩ Gy _ ⟨hfg,hrB,hlo⟩;simp only[] at hfg hrB hlo⊢;have hgT:g*1<=g*vs.getD (n+1) 0:=fZ _ hT0;refine bu<|sR<|sm J J<|sy (mI J J (by decide)) J<|?_;rw[ti g 32 (by decide) J];refine sy (vq J J) J<|sm J J<|?_;refine oP 97 J (fun hg=>?_) (fun hg=>?_)
  ·have hgB:4294967296<=g:=by omega
   have hdec:dv us<g*V:=dW hltV (by rw[bN];exact bW _ hgB);refine ss J J J J<|ss J J J J<|ss J J J J<|ss J J J J<|ss J J J J<|ss J J J J<|ss J J J J<|ss J J J J<|ss J J J J<|?_;refine ss J J J J<|ss J J J J<|ss J J J J<|ss J J J J<|ss J J J J<|ss J J J J<|sy (rP J J) J<|zE<|r9 J<|?_;refine zK<|d7<|?_;obtain⟨g',rfl⟩: ∃g',g=g'+1:=⟨g-1,by rcases fX g with h|h;(rw[h,mQ] at hdec;omega);omega⟩;refine sR<|sm J J<|sy (O' J J (by omega) (by omega)) J<|sa J J<|zE<|sR<|sm J J<|sm J J<|sy (sB J J) J<|?_;refine sa J J<|zE<|sR<|sm J J<|sy (mI J J (by decide)) J<|?_;rw[show((g'+1:Nat):Int)-1=(g':Nat) by omega,show((r:Int)+((vs.getD (n+1) 0:Nat):Int))=((r+vs.getD (n+1) 0:Nat):Int) from J,ti (r+vs.getD (n+1) 0) 32 (by decide) J];have hfg':f=g'*vs.getD (n+1) 0+(r+vs.getD (n+1) 0):=by rw[hfg,cS,oZ];omega
   refine sy (vq J J) J<|zE<|?_;refine f8 J (fun hc3=>?_) (fun hc3=>?_) -- slot 121
   ·have hr3:4294967296<=r+vs.getD (n+1) 0:=by omega
    have hgB:g'<4294967296:=by
     rcases iT g' 4294967296 with h|h
     ·exact h
     ·have:=bW (vs.getD (n+1) 0) h
      omega
    have hgS:g'*vs.getD n 0<=(r+vs.getD (n+1) 0)*4294967296+us.getD (i+n) 0:=by
     have h1:=iW (mX hgB) (mX hv2);omega
    refine jE<|NW J<|eD<|jC<|?_;exact qy g' ⟨hgB,hdec,JA hUle hVp hv0 hT0 hfg' hgB hgS⟩ (.cons J (.cons J (.cons J (.cons J (.cons J (.cons J (.cons J (.cons J (.cons J .nil))))))))) J
   refine zK<|?_;exact jr ⟨g',r+vs.getD (n+1) 0⟩ ⟨hfg',by show r+vs.getD (n+1) 0<_;omega,hdec⟩ (by show g'<g'+1;omega) (.cons J (.cons J (.cons J (.cons J (.cons J (.cons J (.cons J (.cons J (.cons J (.cons J .nil)))))))))) J
  have hgB:g<4294967296:=by omega
  have hgS:g*vs.getD n 0<4294967296*4294967296:=pX hgB hv2;have e2:(g:Int)*((vs.getD n 0:Nat):Int)=((g*vs.getD n 0:Nat):Int):=J;refine bB J J (fG J) J<|bB J J (fG J) J<|bB J J (J8 J J (by rw[e2];omega) (by rw[e2];omega)) J<|bB J J (fG J) J<|bB J J (x8 J J (by decide)) J<|?_;rw[sk r 32 (by decide) (by omega) J];refine bB J J (fG J) J<|bB J J (fG J) J<|bB J J (fG J) J<|bB J J (d4 J J) J<|bB J J (km J J) J<|?_;refine bB J J (f5 J J (by omega) (by omega)) J<|?_;rw[show((i:Int)+(v.n:Int)-2).toNat=i+n by omega];refine bB J J (ri J (by omega)) J<|bB J J (gw J) J<|bB J J (i4 J J (H0 (us.getD (i+n) 0) r 32 (by omega) (by omega))) J<|?_;refine bB J J (te J J) J<|sy (mc J J) J<|zE<|?_;rw[e2];refine mi J (fun hc2=>?_) (fun hc2=>?_) -- slot 113
  ·refine jE<|eD<|eD<|jC<|?_
   exact qy g ⟨hgB,hlo,JA hUle hVp hv0 hT0 hfg hgB (by omega)⟩ (.cons J (.cons J (.cons J (.cons J (.cons J (.cons J (.cons J (.cons J (.cons J .nil))))))))) J
  have hdec:dv us<g*V:=V5 hUlt hVle hfg (by omega);refine zK<|d7<|?_;obtain⟨g',rfl⟩: ∃g',g=g'+1:=⟨g-1,by rcases fX g with h|h;(rw[h,mQ] at hdec;omega);omega⟩;refine sR<|sm J J<|sy (O' J J (by omega) (by omega)) J<|sa J J<|zE<|sR<|sm J J<|sm J J<|sy (sB J J) J<|?_;refine sa J J<|zE<|sR<|sm J J<|sy (mI J J (by decide)) J<|?_;rw[show((g'+1:Nat):Int)-1=(g':Nat) by omega,show((r:Int)+((vs.getD (n+1) 0:Nat):Int))=((r+vs.getD (n+1) 0:Nat):Int) from J,ti (r+vs.getD (n+1) 0) 32 (by decide) J];have hfg':f=g'*vs.getD (n+1) 0+(r+vs.getD (n+1) 0):=by rw[hfg,cS,oZ];omega
  refine sy (vq J J) J<|zE<|?_;refine f8 J (fun hc3=>?_) (fun hc3=>?_) -- slot 121
  ·have hr3:4294967296<=r+vs.getD (n+1) 0:=by omega
   have hgB:g'<4294967296:=by
    rcases iT g' 4294967296 with h|h
    ·exact h
    ·have:=bW (vs.getD (n+1) 0) h
     omega
   have hgS:g'*vs.getD n 0<=(r+vs.getD (n+1) 0)*4294967296+us.getD (i+n) 0:=by
    have h1:=iW (mX hgB) (mX hv2);omega
   refine jE<|NW J<|eD<|jC<|?_;exact qy g' ⟨hgB,hdec,JA hUle hVp hv0 hT0 hfg' hgB hgS⟩ (.cons J (.cons J (.cons J (.cons J (.cons J (.cons J (.cons J (.cons J (.cons J .nil))))))))) J
  refine zK<|?_;exact jr ⟨g',r+vs.getD (n+1) 0⟩ ⟨hfg',by show r+vs.getD (n+1) 0<_;omega,hdec⟩ (by show g'<g'+1;omega) (.cons J (.cons J (.cons J (.cons J (.cons J (.cons J (.cons J (.cons J (.cons J (.cons J .nil)))))))))) J
 rintro g Gz _ ⟨hgB,hlo,hhi⟩
 -- SUB
 refine sR<|sa J J<|sa J J<|zE<|bu<|sR<|sm J J<|c7 J J<|sm J J<|zE<|d7<|?_;refine mm (X:=Ty) (fun q=>[(18, .int .u64 q.c),(17, .int .u64 q.bo),(124, .int .i64 q.k),(123, .int .i64 v.n),(122, .slice v.a v.n v.c),(15, .int .u64 (g:Nat)),(13, .int .i64 i),(7, .slice (some ⟨b4,0,none⟩) (a.length+1) cap),(9, .int .i64 v.n),(10, .int .u64 (vs.getD (n+1) 0:Nat)),(11, .int .u64 (vs.getD n 0:Nat)),(8, .slice v.a v.n v.c),(12, .slice (some ⟨b5,0,none⟩) l l),(6, .int .u64 s)]) (fun q=>[⟨b5,qs.map dI,215,true⟩,⟨b4,q.ws.map dI,215,true⟩])
  (fun q _=>q.ws.length=cap/\bi q.ws/\q.k<=n+2/\q.bo<=1/\q.c<4294967296/\dv q.ws<4294967296^(i+n+3)/\dv q.ws+g*(dv (vs.take q.k)*4294967296^i)=dv us+(q.bo+q.c)*4294967296^(i+q.k)) (fun q=>n+2-q.k) ⟨us,0,0,0⟩
  ⟨hul2,huo2,bV _,bV _,by show(0:Nat)<4294967296;decide,hM,by simp[dv]⟩ (.cons J (.cons J (.cons J (.cons J (.cons J (.cons J (.cons J (.cons J (.cons J (.cons J (.cons J (.cons J (.cons J (.cons J .nil)))))))))))))) J ?_
 rintro ⟨ws,k,bo,c⟩ Gy _ ⟨hwl,hwo,hk,hbo,hc4,hwM,hw⟩;simp only[] at hwl hwo hk hbo hc4 hwM hw⊢;refine sR<|sy (jk J J) J<|zE<|bu<|?_;refine mi J (fun hkc=>?_) (fun hkc=>?_) -- slot 125
 ·have hkn:k=n+2:=by omega
  subst hkn;rw[aL (by omega),<-hV] at hw;refine jE<|eD<|eD<|jC<|sR<|sm J J<|sm J J<|sm J J<|sy (d4 J J) J<|sy (f5 J J (by omega) (by omega)) J<|?_;rw[show((i:Int)+(v.n:Int)).toNat=i+n+2 by omega];have hwg:=hwo.get (i+n+2);refine sy (ri J (by omega)) J<|sy (gw J) J<|sm J J<|sy (wq J J) J<|sm J J<|sy (wq J J) J<|?_;rw[DL _ _ _ hwg hc4 hbo];obtain⟨hx1,hx2,hx3⟩:=Tt (ws.getD (i+n+2) 0) c bo hwg hc4 hbo;generalize td (ws.getD (i+n+2) 0) c bo=xx at hx1 hx2 hx3⊢;refine sa J J<|zE<|sR<|sm J J<|sm J J<|sm J J<|sy (d4 J J) J<|sm J J<|sy (kP J) J<|sy (f5 J J (by omega) (by omega)) J<|?_;rw[show((i:Int)+(v.n:Int)).toNat=i+n+2 by omega];refine sc (mv (d:=xx%4294967296) J J (by rw[pZ];rfl) (.tl _ _ _ _ _ _ _ _ (.hd ..)) (by omega) J ?_);have hs2:=qx ws (i+n+2) (xx%4294967296) (by omega);have hl2:=Zv hs2 hw hx1;rw[<-uz] at hl2;have hM2:=Eh (i:=i+n+2) (d:=xx%4294967296) hwo (dX _ (by decide)) hwM (by omega);have ho2:=hwo.set (i+n+2) (d:=xx%4294967296) (dX _ (by decide));have hn2:(ws.set (i+n+2) (xx%4294967296)).length=cap:=by rw[aM];exact hwl
  generalize ws.set (i+n+2) (xx%4294967296)=ws2 at hl2 hM2 ho2 hn2⊢;replace hl2:dv ws2+g*V=dv us+xx/9223372036854775808*4294967296^(i+n+3):=hl2;have hqset: ∀d,dv (qs.set i d)=dv qs+4294967296^i*d:=fun d=>by
   have:=qx qs i d (by omega);rw[hq0 i (by omega)] at this;simpa using this
  have hqz: ∀d i',i'<i->(qs.set i d).getD i' 0=0:=fun d i' h=>by
   have:=hq0 i' (by omega);simpa[List.getD,mW,show¬i=i' by omega] using this
  have hinv2: ∀d R,R+d*V=dv us->dv a*2^s=R+dv vs*dv (qs.set i d):=fun d R h=>by
   rw[hinv,<-h,hqset,dY,<-cX,<-hV,bN d];omega
  refine zE<|sR<|sm J J<|sm J J<|sm J J<|sy (kP J) J<|sy (f5 J J (by omega) (by omega)) J<|?_;rw[bJ];refine sc (mv (d:=g) J J (Tw g hgB) (.hd ..) (by omega) J ?_);refine zE<|bu<|sR<|sm J J<|sy (mI J J (by decide)) J<|?_;rw[ti xx 63 (by decide) J];refine sy (iD J J) J<|zE<|?_;refine f8 J (fun ht=>?_) (fun ht=>?_) -- slot 184
  ·have ht0:xx/2^63=0:=by omega
   rw[show xx/9223372036854775808=xx/2^63 from J,ht0,mQ,fQ] at hl2;refine jE<|eD<|jC<|dO<|sm J J<|sy (km J J) J<|sa J J<|zE<|?_;exact jr ⟨ws2,qs.set i g,i⟩ ⟨hn2,ho2,by simpa using hql,hqo.set _ hgB,by show i<=l;omega,hqz g,hinv2 g _ hl2,by show dv ws2<_;rw[<-hV];exact YO hlo hl2⟩ (by show i<i+1;omega) (.cons J (.cons J (.cons J (.cons J (.cons J (.cons J (.cons J (.cons J .nil)))))))) J
  have ht1:xx/9223372036854775808=1:=by
   have:xx/9223372036854775808≠0:=fun h=>ht (by rw[show xx/2^63=xx/9223372036854775808 from J,h];rfl);omega
  rw[ht1,oZ] at hl2;obtain⟨g',rfl⟩: ∃g',g=g'+1:=⟨g-1,by rcases fX g with h|h;(rw[h,mQ] at hl2;omega);omega⟩;refine zK<|sR<|sm J J<|sm J J<|sy (f5 J J (by omega) (by omega)) J<|?_;rw[bJ];refine sy (ri J (by simp;omega)) J<|?_;rw[show(qs.set i (g'+1)).getD i 0=g'+1 by simp[List.getD,mW,show i<qs.length by omega]];refine sy (wq J J) J<|sy (f5 J J (by omega) (by omega)) J<|?_;rw[bJ];refine sc (mv (d:=g') J J (by rw[qo];omega) (.hd ..) (by simp;omega) J ?_);rw[List.set_set];refine zE<|sR<|sa J J<|zE<|bu<|sR<|sm J J<|c7 J J<|sm J J<|zE<|d7<|?_;refine mm (X:=Ty) (fun q=>[(18, .int .u64 q.c),(193, .int .i64 q.k),(192, .int .i64 v.n),(191, .slice v.a v.n v.c),(13, .int .i64 i),(7, .slice (some ⟨b4,0,none⟩) (a.length+1) cap),(9, .int .i64 v.n),(10, .int .u64 (vs.getD (n+1) 0:Nat)),(11, .int .u64 (vs.getD n 0:Nat)),(8, .slice v.a v.n v.c),(12, .slice (some ⟨b5,0,none⟩) l l),(6, .int .u64 s)]) (fun q=>[⟨b5,(qs.set i g').map dI,215,true⟩,⟨b4,q.ws.map dI,215,true⟩])
   (fun q _=>q.ws.length=cap/\bi q.ws/\q.k<=n+2/\q.c<=1/\dv q.ws<4294967296^(i+n+3)/\dv q.ws+q.c*4294967296^(i+q.k)=dv ws2+dv (vs.take q.k)*4294967296^i) (fun q=>n+2-q.k) ⟨ws2,0,0,0⟩
   ⟨hn2,ho2,bV _,bV _,hM2,by simp[dv]⟩ (.cons J (.cons J (.cons J (.cons J (.cons J (.cons J (.cons J (.cons J (.cons J (.cons J (.cons J (.cons J .nil)))))))))))) J ?_
  rintro ⟨wa,k,_,ca⟩ Gz _ ⟨hal2,hao,hak,hac,haM,ha⟩;simp only[] at hal2 hao hak hac haM ha⊢;refine sR<|sy (jk J J) J<|zE<|bu<|?_;refine mi J (fun hkd=>?_) (fun hkd=>?_) -- slot 194
  ·have hkn:k=n+2:=by omega
   subst hkn;rw[aL (by omega),<-hV] at ha;have hag:=hao.get (i+n+2);refine jE<|eD<|eD<|jC<|dO<|sm J J<|sm J J<|sm J J<|sy (d4 J J) J<|sy (f5 J J (by omega) (by omega)) J<|?_;rw[show((i:Int)+(v.n:Int)).toNat=i+n+2 by omega];refine sy (ri J (by omega)) J<|sm J J<|sy (kP J) J<|sy (YQ J J) J<|sy (f5 J J (by omega) (by omega)) J<|?_;rw[show((i:Int)+(v.n:Int)).toNat=i+n+2 by omega];refine sc (mv (d:=(wa.getD (i+n+2) 0+ca)%4294967296) J J (by rw[qo];omega) (.tl _ _ _ _ _ _ _ _ (.hd ..)) (by omega) J ?_);have hs4:=qx wa (i+n+2) ((wa.getD (i+n+2) 0+ca)%4294967296) (by omega);have hl4:=aCD hs4 ha;rw[<-uz] at hl4;have hM4:=Eh (i:=i+n+2) (d:=(wa.getD (i+n+2) 0+ca)%4294967296) hao (dX _ (by decide)) haM (by omega);obtain⟨hR1,hR2⟩:=aBc hhi hl2 hl4 hM2 hM4 (by omega) (Nat.succ_pos _);refine zE<|dO<|sm J J<|sy (km J J) J<|sa J J<|zE<|?_;exact jr ⟨wa.set (i+n+2) ((wa.getD (i+n+2) 0+ca)%4294967296),qs.set i g',i⟩ ⟨by simpa using hal2,hao.set _ (dX _ (by decide)),by simpa using hql,hqo.set _ (by omega),by show i<=l;omega,hqz g',hinv2 g' _ hR1,by show dv _<_;rw[<-hV];exact hR2⟩ (by show i<i+1;omega) (.cons J (.cons J (.cons J (.cons J (.cons J (.cons J (.cons J (.cons J .nil)))))))) J
  have hvk:=hvo.get k;have hag:=hao.get (i+k);refine zK<|bu<|d7<|sR<|sm J J<|sy (ir hv J J (by omega) (by omega)) J<|?_;rw[bJ];refine sy (iA hv J (by omega)) J<|sa J J<|sa J J<|zE<|bu<|?_;refine dO<|sm J J<|sm J J<|sm J J<|sm J J<|sy (d4 J J) J<|sy (f5 J J (by omega) (by omega)) J<|?_;rw[show((i:Int)+(k:Int)).toNat=i+k by omega];refine sy (ri J (by omega)) J<|sy (gw J) J<|sm J J<|sy (gw J) J<|sy (sB J J) J<|sy (sB J J) J<|?_;rw[show(ca:Int)+(((wa.getD (i+k) 0:Nat):Int)+((vs.getD k 0:Nat):Int))=((ca+(wa.getD (i+k) 0+vs.getD k 0):Nat):Int) from J];refine sa J J<|zE<|sR<|sm J J<|sm J J<|sm J J<|sy (d4 J J) J<|sm J J<|sy (kP J) J<|sy (f5 J J (by omega) (by omega)) J<|?_;rw[show((i:Int)+(k:Int)).toNat=i+k by omega];refine sc (mv (d:=(ca+(wa.getD (i+k) 0+vs.getD k 0))%4294967296) J J (by rw[pZ];rfl) (.tl _ _ _ _ _ _ _ _ (.hd ..)) (by omega) J ?_);refine zE<|dO<|sm J J<|sy (mI J J (by decide)) J<|?_;rw[ti (ca+(wa.getD (i+k) 0+vs.getD k 0)) 32 (by decide) J];refine sa J J<|zE<|dO<|sy (d4 J J) J<|sm J J<|zE<|?_;refine jr ⟨wa.set (i+k) ((ca+(wa.getD (i+k) 0+vs.getD k 0))%4294967296),k+1,0,(ca+(wa.getD (i+k) 0+vs.getD k 0))/2^32⟩ ⟨by simpa using hal2,hao.set _ (dX _ (by decide)),by show k+1<=_;omega,by show(ca+(wa.getD (i+k) 0+vs.getD k 0))/4294967296<=1;omega,Eh hao (dX _ (by decide)) haM (by omega),?_⟩ (by show n+2-(k+1)<n+2-k;omega) (.cons J (.cons J (.cons J (.cons J (.cons J (.cons J (.cons J (.cons J (.cons J (.cons J (.cons J (.cons J .nil)))))))))))) J;show dv (wa.set (i+k) ((ca+(wa.getD (i+k) 0+vs.getD k 0))%4294967296))+((ca+(wa.getD (i+k) 0+vs.getD k 0))/4294967296)*4294967296^(i+k+1)=dv ws2+dv (vs.take (k+1))*4294967296^i
  rw[jf,cS (dv (vs.take k)),uz,show 4294967296^k*vs.getD k 0*4294967296^i=vs.getD k 0*4294967296^(i+k) by rw[fJ,bN (4294967296^k),cX,bN (4294967296^k)]];exact aAY (qx wa (i+k) _ (by omega)) ha
 have hvk:=hvo.get k;have hwg:=hwo.get (i+k);refine zK<|bu<|d7<|sR<|sm J J<|sy (ir hv J J (by omega) (by omega)) J<|?_;rw[bJ];refine sy (iA hv J (by omega)) J<|sa J J<|sa J J<|zE<|bu<|?_;have hgd:g*vs.getD k 0<=4294967295*4294967295:=iW (by omega) (by omega);have e3:(g:Int)*((vs.getD k 0:Nat):Int)=((g*vs.getD k 0:Nat):Int):=J;refine dO<|sm J J<|sm J J<|sm J J<|sy (gw J) J<|sy (J8 J J (by rw[e3];omega) (by rw[e3];omega)) J<|?_;rw[e3];refine sy (sB J J) J<|?_;rw[show(c:Int)+((g*vs.getD k 0:Nat):Int)=((c+g*vs.getD k 0:Nat):Int) from J];obtain⟨c1,hc1⟩: ∃c1,c1=c+g*vs.getD k 0:=⟨_,rfl⟩;rw[<-hc1];have hc1m:c1%4294967296<4294967296:=dX _ (by decide);refine sa J J<|zE<|sR<|sm J J<|sm J J<|sm J J<|sy (d4 J J) J<|sy (f5 J J (by omega) (by omega)) J<|?_;rw[show((i:Int)+(k:Int)).toNat=i+k by omega];refine sy (ri J (by omega)) J<|sy (gw J) J<|sm J J<|sy (i4 J J (ays c1 (by omega))) J<|sy (wq J J) J<|sm J J<|sy (wq J J) J<|?_;rw[DL _ _ _ hwg hc1m hbo];obtain⟨hx1,hx2,hx3⟩:=Tt (ws.getD (i+k) 0) (c1%4294967296) bo hwg hc1m hbo;generalize td (ws.getD (i+k) 0) (c1%4294967296) bo=xx at hx1 hx2 hx3⊢;refine sa J J<|?_;refine zE<|sR<|sm J J<|sm J J<|sm J J<|sy (d4 J J) J<|sm J J<|sy (kP J) J<|sy (f5 J J (by omega) (by omega)) J<|?_;rw[show((i:Int)+(k:Int)).toNat=i+k by omega];refine sc (mv (d:=xx%4294967296) J J (by rw[pZ];rfl) (.tl _ _ _ _ _ _ _ _ (.hd ..)) (by omega) J ?_);refine zE<|sR<|sm J J<|sy (mI J J (by decide)) J<|?_;rw[ti xx 63 (by decide) J];refine sa J J<|zE<|dO<|sm J J<|sy (mI J J (by decide)) J<|?_
 rw[ti c1 32 (by decide) J];refine sa J J<|?_;refine zE<|dO<|sy (d4 J J) J<|sm J J<|zE<|?_;refine jr ⟨ws.set (i+k) (xx%4294967296),k+1,xx/2^63,c1/2^32⟩ ⟨by simpa using hwl,hwo.set _ (dX _ (by decide)),by show k+1<=_;omega,hx2,by show c1/4294967296<_;omega,Eh hwo (dX _ (by decide)) hwM (by omega),?_⟩ (by show n+2-(k+1)<n+2-k;omega) (.cons J (.cons J (.cons J (.cons J (.cons J (.cons J (.cons J (.cons J (.cons J (.cons J (.cons J (.cons J (.cons J (.cons J .nil)))))))))))))) J;show dv (ws.set (i+k) (xx%4294967296))+g*(dv (vs.take (k+1))*4294967296^i)=dv us+(xx/9223372036854775808+c1/4294967296)*4294967296^(i+k+1);rw[jf,cS (dv (vs.take k)),uz,show 4294967296^k*vs.getD k 0*4294967296^i=vs.getD k 0*4294967296^(i+k) by rw[fJ,bN (4294967296^k),cX,bN (4294967296^k)],dY,<-cX g (vs.getD k 0)];exact ZN (qx ws (i+k) _ (by omega)) hw hc1 hx1
def Iw{A B G:Gh}{x y:SV}{a b:List Nat}{k1 k2:Nat}(hx:cp A x a)(hy:cp B y b)[GL A G][GL B G](hb0:0<dv b)
  (hq:dv a/dv b<2^k1)(hr:dv a%dv b<2^k2)(hl:a.length<=112589990684)(hl2:b.length<=112589990684):
  Fn prog 202 [x.v,y.v] G (fun v G'=> ∃z r:SV,v= .tuple #[z.v,r.v, .bool true]/\fI k1 G' z (dv a/dv b)/\fI k2 G' r (dv a%dv b)):=by
 have hla:=nG a;have hlb:=nG b;have hca:=fun G1 (_:GL A G1)=>je (G:=G1) hx (by omega);have hcb:=fun G1 (_:GL B G1)=>je (G:=G1) hy (by omega);have hxt:=hx.trim;have hyt:=hy.trim;have hna:=eh.trimD a;have hnb:=eh.trimD b;rw[<-ke a,<-ke b] at hq hr⊢;rw[<-ke b] at hb0;generalize trimD a=a' at*;generalize trimD b=b' at*;refine Fn.intro func202 J J ntmps202 J ?_;intro C _ _;refine sR<|sa J J<|sa J J<|sa J J<|zE<|sR<|sm J J<|?_;refine sc (zC J J (hca _ inferInstance) J ?_);rintro _ G1 _ rfl;refine sm J J<|?_;refine sc (zC J J (hcb _ inferInstance) J ?_);rintro _ G2 _ rfl;refine sa J J<|sa J J<|zE<|bu<|d7<|sR<|sm J J<|c7 J J<|sy (iD J J) J<|sa J J<|zE<|?_;refine f8 J (fun hc=>?_) (fun hc=>?_) -- slot 15
 ·exfalso
  have:b'=[]:=bU (by omega);rw[this] at hb0;exact absurd hb0 (by simp[dv])
 refine sR<|sm J J<|sm J J<|?_;refine sc (zC J J (SO hxt hyt (by omega) (by omega)) J ?_);rintro _ G3 _ rfl;refine sy (jk J J) J<|sa J J<|zE<|?_;refine f8 J (fun hc2=>?_) (fun hc2=>?_) -- slot 19
 ·have hlt:dv a'<dv b':=by
   unfold gz at hc2;split at hc2
   ·assumption
   ·split at hc2<;>omega
  refine sR<|sm J J<|?_;refine sc (zC J J (N2 hxt (by omega)) J ?_);rintro _ G4 _ ⟨z,rfl,hz⟩;refine sa J J<|sa J J<|sa J J<|zE<|dq<|?_;refine zD (.tmp J (.tmp J (.tmp J .nil))) ⟨⟨none,0,0⟩,z,J,?_,?_⟩
  ·rw[jM hlt]
   exact⟨by unfold dg;exact .nil _,fY (by decide)⟩
  ·rw[eX hlt] at hr⊢
   exact⟨by rw[z8 hxt.ok hna];exact hz,hr⟩
 have hle:dv b'<=dv a':=by
  unfold gz at hc2;split at hc2
  ·omega
  ·omega
 refine sR<|sm J J<|c7 J J<|sy (iD J J) J<|sa J J<|zE<|?_;refine f8 J (fun hc3=>?_) (fun hc3=>?_) -- slot 26
 ·have hb1:b'.length=1:=by omega
  obtain⟨d,rfl⟩:=List.length_eq_one_iff.1 hb1;have hdv:dv [d]=d:=by simp[dv]
  have hdB:=hyt.ok.head;rw[hdv] at hb0 hq hr⊢;refine sR<|sm J J<|sm J J<|sy (ir (z:=⟨y.a,1,y.c⟩) hyt J J (by omega) (by show(0:Int)<((1:Nat):Int);omega)) J<|sy (iA (i:=0) hyt J (by simp)) J<|?_;rw[show [d].getD 0 0=d from J];refine sc (zC J J (atz (x:=⟨x.a,a'.length,x.c⟩) hxt hb0 hdB hq (by omega)) J ?_);rintro _ G5 _ ⟨z,rfl,hz⟩;have hmB:dv a'%d<4294967296:=qJ (dX _ hb0) hdB;refine sm J J<|sx J J J<|sx J J J<|sa J J<|sa J J<|zE<|sR<|sm J J<|sm J J<|sy (gw J) J<|?_;refine sc (zC J J (JZ (by omega)) J ?_);rintro _ G6 _ ⟨r,rfl,hr6⟩;refine sa J J<|sa J J<|sa J J<|zE<|dq<|?_;exact zD (.tmp J (.tmp J (.tmp J .nil))) ⟨z,r,J,hz.up,hr6.mono hr⟩
 have hb2:2<=b'.length:=by omega
 refine zK<|sR<|sm J J<|sm J J<|?_;refine sc (zC J J (ax8 (x:=⟨x.a,a'.length,x.c⟩) (y:=⟨y.a,b'.length,y.c⟩) hxt hyt hna hnb hb2 hle hq hr (by omega)) J ?_);rintro _ G7 _ ⟨z,r,rfl,hz,hr7⟩;refine sm J J<|sx J J J<|sx J J J<|sa J J<|sa J J<|zE<|sR<|sm J J<|sm J J<|sa J J<|sa J J<|sa J J<|zE<|?_;refine dq<|?_;exact zD (.tmp J (.tmp J (.tmp J .nil))) ⟨z,r,J,hz,hr7⟩
def lw{u k:Nat}(h:u<2^k):32*(dg u).length<=k+31:=TC (eE u).2.2 (by rw[(eE u).1];exact h)
def fI.dvl{k:Nat}{G:Gh}{x:SV}{v:Nat}(_:fI k G x v):dv (dg v)=v:=(eE v).1
structure Uv where
 a:SV
 b:SV
 u:Nat
 v:Nat
def aB4{A B G:Gh}{x y:SV}{a b:List Nat}{k k0:Nat}(hx:cp A x a)(hy:cp B y b)[GL A G][GL B G](ha:dv a<2^k0)(hb:dv b<2^k0)(hk0:k0<=1099511627776)
  (hg0:Nat.gcd (dv a) (dv b)<2^k)(hl:a.length<=112589990684)(hl2:b.length<=112589990684):
  Fn prog 201 [x.v,y.v] G (fun v G'=> ∃z:SV,v=z.v/\fI k G' z (Nat.gcd (dv a) (dv b))):=by
 refine Fn.intro func201 J J ntmps201 J ?_;intro C _ _;refine sR<|sa J J<|zE<|sR<|sm J J<|?_;refine sc (zC J J (Io hx ha (by omega)) J ?_);rintro _ G1 _ ⟨x1,rfl,hx1⟩;refine sm J J<|?_;refine sc (zC J J (Io hy hb (by omega)) J ?_);rintro _ G2 _ ⟨y1,rfl,hy1⟩;generalize dv a=ua at*;generalize dv b=ub at*;refine sa J J<|sa J J<|zE<|bu<|d7<|?_;refine mm (X:=Uv) (fun q=>[(0, .slice q.a.a q.a.n q.a.c),(1, .slice q.b.a q.b.n q.b.c)]) (fun _=>[]) (fun q G=>fI k0 G q.a q.u/\fI k0 G q.b q.v/\Nat.gcd q.u q.v=Nat.gcd ua ub) (fun q=>q.v) ⟨x1,y1,ua,ub⟩
  ⟨hx1.up,hy1,J⟩ (.cons J (.cons J .nil)) J ?_
 rintro ⟨p,q,u,v⟩ Gx _ ⟨hp,hq,hgc⟩;simp only[] at hp hq hgc⊢;have hpl:=hp.len;have hql:=hq.len;have hpb:=lw hp.lt;have hqb:=lw hq.lt;refine bu<|sR<|sm J J<|c7 J J<|sy (te J J) J<|sm J J<|?_;refine oP 19 J (fun hg=>?_) (fun hg=>?_)
 ·refine ss J J J J<|ss J J J J<|ss J J J J<|sy (rP J J) J<|zE<|r9 J<|zK<|d7<|bu<|sR<|sm J J<|?_
  refine c7 J J<|sy (iD J J) J<|zE<|?_;refine f8 J (fun hc1=>?_) (fun hc1=>?_) -- slot 26
  ·refine sR<|sm J J<|sa J J<|zE<|dq<|?_
   have hv0:v=0:=by
    have:dg v=[]:=bU (by omega);have h2:=hq.dvl;rw[this] at h2;exact h2.symm
   have hue:u=Nat.gcd ua ub:=by rw[<-hgc,hv0,nT]
   exact zD (.tmp J .nil) ⟨p,J,by rw[<-hue] at hg0⊢;exact hp.mono hg0⟩
  have hv0:0<v:=iS fun h=>by
   have h1:dg v=[]:=by rw[h];unfold dg;rfl
   rw[h1] at hql;simp only[fU] at hql;omega
  have hm:=dX u hv0;refine zK<|sR<|sm J J<|sm J J<|?_;refine sc (zC J J (Iw (k1:=k0) (k2:=k0) hp.d hq.d (by rw[hq.dvl];exact hv0) (by rw[hp.dvl];exact fT (kM _ _) hp.lt) (by rw[hp.dvl,hq.dvl];exact qJ hm hq.lt) (by omega) (by omega)) J ?_);rintro _ G3 _ ⟨z,r,rfl,hz,hr⟩;rw[hp.dvl,hq.dvl] at hr;refine sm J J<|sx J J J<|sx J J J<|sx J J J<|sa J J<|sa J J<|sa J J<|zE<|dO<|sm J J<|sm J J<|sa J J<|sa J J<|?_;refine zE<|?_;exact jr ⟨q,r,v,u%v⟩ ⟨hq.up,hr,by show Nat.gcd v (u%v)=_;rw[<-hgc,jQ u,tV v u,jQ]⟩ hm (.cons J (.cons J .nil)) J
 refine bB J J (fG J) J<|bB J J (oE J) J<|bB J J (te J J) J<|sy (mc J J) J<|zE<|?_;refine mi J (fun hc=>?_) (fun hc=>?_) -- slot 23
 ·have small: ∀{w:Nat},(dg w).length<=2->w<18446744073709551616:=fun{w} h=>by
   have h1:=jB (eE w).2.1;rw[(eE w).1] at h1;exact dW h1 (cR (bY (by decide) h) (by decide))
  have hu64:u<18446744073709551616:=small (by omega);have hv64:v<18446744073709551616:=small (by omega);refine jE<|eD<|eD<|jC<|sR<|sm J J<|?_;refine sc (zC J J (K2 hp.d (by omega)) J ?_);rintro _ G4 _ rfl;rw[hp.dvl,if_pos hu64];refine sm J J<|sx J J J<|sx J J J<|sa J J<|sa J J<|zE<|sR<|sm J J<|?_;refine sc (zC J J (K2 hq.d (by omega)) J ?_);rintro _ G5 _ rfl;rw[hq.dvl,if_pos hv64];refine sm J J<|sx J J J<|sx J J J<|sa J J<|sa J J<|zE<|bu<|d7<|?_;refine mm (X:=Nat×Nat) (fun q=>[(8, .int .u64 (q.1:Nat)),(10, .int .u64 (q.2:Nat))]) (fun _=>[]) (fun q _=>q.1<18446744073709551616/\q.2<18446744073709551616/\Nat.gcd q.1 q.2=Nat.gcd ua ub) (fun q=>q.2) (u,v)
   ⟨hu64,hv64,hgc⟩ (.cons J (.cons J .nil)) J ?_
  rintro ⟨u1,v1⟩ Gy _ ⟨hu1,hv1,hgc1⟩;simp only[] at hu1 hv1 hgc1⊢;refine bu<|sR<|sm J J<|sy (vq J J) J<|zE<|?_;refine mi J (fun hc5=>?_) (fun hc5=>?_) -- slot 48
  ·refine jE<|eD<|eD<|jC<|sR<|sm J J<|?_
   refine sc (zC J J (JZ hu1) J ?_);rintro _ G6 _ ⟨z,rfl,hz⟩;refine sa J J<|zE<|dq<|?_;have hv0:v1=0:=by omega
   have hue:u1=Nat.gcd ua ub:=by rw[<-hgc1,hv0,nT]
   exact zD (.tmp J .nil) ⟨z,J,by rw[<-hue] at hg0⊢;exact hz.mono hg0⟩
  have hv0:0<v1:=by omega
  refine zK<|d7<|dr (fun _=>false) [(0,true),(1,true),(2,true),(3,true),(4,true),(5,true)] follows (by kernel_rfl)<|dM J J J<|dM J J J<|?_;refine dM J J J<|dy J (fun _=>yg J J (by omega) (by omega)) J J<|dA J J J<|dA J J J<|dn<|?_;exact jr (v1,u1%v1) ⟨hv1,qJ (dX _ hv0) hv1,by show Nat.gcd v1 (u1%v1)=_;rw[<-hgc1,jQ u1,tV v1 u1,jQ]⟩ (by show u1%v1<v1;exact dX _ hv0) (.cons J (.cons J .nil)) J
 refine zK<|d7<|bu<|sR<|sm J J<|?_;refine c7 J J<|sy (iD J J) J<|zE<|?_;refine f8 J (fun hc1=>?_) (fun hc1=>?_) -- slot 26
 ·refine sR<|sm J J<|sa J J<|zE<|dq<|?_
  have hv0:v=0:=by
   have:dg v=[]:=bU (by omega);have h2:=hq.dvl;rw[this] at h2;exact h2.symm
  have hue:u=Nat.gcd ua ub:=by rw[<-hgc,hv0,nT]
  exact zD (.tmp J .nil) ⟨p,J,by rw[<-hue] at hg0⊢;exact hp.mono hg0⟩
 have hv0:0<v:=iS fun h=>by
  have h1:dg v=[]:=by rw[h];unfold dg;rfl
  rw[h1] at hql;simp only[fU] at hql;omega
 have hm:=dX u hv0;refine zK<|sR<|sm J J<|sm J J<|?_;refine sc (zC J J (Iw (k1:=k0) (k2:=k0) hp.d hq.d (by rw[hq.dvl];exact hv0) (by rw[hp.dvl];exact fT (kM _ _) hp.lt) (by rw[hp.dvl,hq.dvl];exact qJ hm hq.lt) (by omega) (by omega)) J ?_);rintro _ G3 _ ⟨z,r,rfl,hz,hr⟩;rw[hp.dvl,hq.dvl] at hr;refine sm J J<|sx J J J<|sx J J J<|sx J J J<|sa J J<|sa J J<|sa J J<|zE<|dO<|sm J J<|sm J J<|sa J J<|sa J J<|?_;refine zE<|?_;exact jr ⟨q,r,v,u%v⟩ ⟨hq.up,hr,by show Nat.gcd v (u%v)=_;rw[<-hgc,jQ u,tV v u,jQ]⟩ hm (.cons J (.cons J .nil)) J
structure IV where
 neg:Bool
 a:SV
def IV.v(z:IV):Value:= .agg ⟨[.bool z.neg, .slice z.a.a z.a.n z.a.c]⟩
def zv(neg:Bool)(u:Nat):Int:=if neg then-(u:Int) else u
def rI(neg:Bool)(u:Nat):(zv neg u).natAbs=u:=by cases neg<;>simp[zv]
def Wl(neg:Bool)(u:Nat):zv (!neg) u= -zv neg u:=by cases neg<;>simp[zv]
def L0(n m:Bool)(u w:Nat):zv (n !=m) (u*w)=zv n u*zv m w:=by cases n<;>cases m<;>simp[zv,Int.neg_mul,sU]
def Pq(neg:Bool)(u:Nat):decide (zv neg u<0)=(neg&&decide (0<u)):=by
 cases neg<;>simp[zv]
def lP(m:Int):zv (decide (m<0)) m.natAbs=m:=by
 unfold zv;by_cases h:m<0<;>simp[h]<;>omega
structure xf (k:Nat) (G:Gh) (z:IV) (m:Int):Prop where
 neg:z.neg=decide (m<0)
 abs:fI k G z.a m.natAbs
def ao6(n:Bool)(u w:Nat):zv n (u+w)=zv n u+zv n w:=by cases n<;>simp[zv]<;>omega
def KM(p:Int):IntKind.i64.wrap p=(p+9223372036854775808)%18446744073709551616-9223372036854775808:=by
 have e:IntKind.i64.wrap p=if(true&&decide (p%2^64>=2^(64-1)))=true then p%2^64-2^64 else p%2^64:=J
 rw[e,show(2:Int)^64=18446744073709551616 by decide,show(2:Int)^(64-1)=9223372036854775808 by decide,Bool.true_and];by_cases h:p%18446744073709551616>=9223372036854775808
 ·rw[decide_eq_true h,if_pos J];omega
 ·rw[decide_eq_false h,if_neg (by decide)];omega
structure RV where
 n:Int
 d:Int
 p:Option Addr
def RV.v(z:RV):Value:= .agg ⟨[.int .i64 z.n, .int .i64 z.d, .pointer z.p]⟩
structure Z7 (z:RV) (q:Rat):Prop where
 p:z.p=none
 n:z.n=q.num
 d:z.d=(q.den:Int)-1
 b1:q.num.natAbs<4611686018427387904
 b2:q.den<4611686018427387904
structure aJz (k:Nat) (G:Gh) (z:RV) (q:Rat):Prop where
 n:z.n=0
 d:z.d=0
 ex: ∃(b:Nat) (x:IV) (y:SV),z.p=some ⟨b,0,none⟩/\G b=some [.bool x.neg, .slice x.a.a x.a.n x.a.c, .slice y.a y.n y.c]/\xf k G x q.num/\fI k G y q.den
 no: ¬(q.num.natAbs<4611686018427387904/\q.den<4611686018427387904)
def xu(k:Nat)(G:Gh)(z:RV)(q:Rat):Prop:=q.num.natAbs<2^k/\q.den<2^k/\(Z7 z q\/aJz k G z q)
def Wz{neg:Bool}{u g:Nat}(h:g∣u):zv neg (u/g)=zv neg u/(g:Int):=by
 cases neg
 ·simp[zv]
 ·simp only[zv,if_true]
  rw[Int.neg_ediv_of_dvd (rK.2 h),qV]
def MR{m:Int}{e:Nat}(he:0<e):(mkRat m e).num=m/((Nat.gcd m.natAbs e:Nat):Int)/\(mkRat m e).den=e/Nat.gcd m.natAbs e:=by
 rw[Rat.num_mkRat,Rat.den_mkRat,if_neg (by omega),if_neg (by omega),jQ];exact⟨J,J⟩
def aBb{x:Nat}:(((bl x:Nat):Int)<=62)↔x<4611686018427387904:=by
 have:bl x<=62↔x<2^62:=oy;omega
structure aHT where
 x:SV
 y:SV
 ds:List Nat
 es:List Nat

def TV{G:Gh}{x y:Nat}(hx:x<18446744073709551616)(hy:y<18446744073709551616):Fn prog 212 [.int .u64 (x:Nat), .int .u64 (y:Nat)] G (fun v _=>v= .tuple #[.int .u64 ((x*y/18446744073709551616:Nat):Int), .int .u64 ((x*y%18446744073709551616:Nat):Int)]):=
 Fn.of_calls (G:=G) (L6 func212 J J) (fun w=>Tryz.bits_Mul64 x y hx hy w)
def LZ(a b:Int):a*b=if(a<0)↔(b<0) then((a.natAbs*b.natAbs:Nat):Int) else-((a.natAbs*b.natAbs:Nat):Int):=by
 rcases(by omega:a<0\/0<=a) with h|h<;>rcases(by omega:b<0\/0<=b) with h2|h2
 ·rw[if_pos (by simp[h,h2]),jX,lY (qK h),lY (qK h2),Int.neg_mul_neg]
 ·rw[if_neg (by simp[h];omega),jX,lY (qK h),oX h2,Int.neg_mul,Int.neg_neg]
 ·rw[if_neg (by simp[h2];omega),jX,oX h,lY (qK h2),sU,Int.neg_neg]
 ·rw[if_pos (by constructor<;>intro<;>omega),jX,oX h,oX h2]
def ZZ{p:Int}(h:p.natAbs<9223372036854775808):IntKind.i64.wrap p=p:=by rw[KM];omega

def amB{n:Int}{d:Nat}(h:n<0):mkRat (-(d:Int)) n.natAbs=Rat.divInt (d:Int) n:=by
 rw[<-Rat.divInt_ofNat,lY (qK h),Rat.neg_divInt_neg]
def SE{q:Rat}(h:q.num<0):(q⁻¹).num= -(q.den:Int)/\(q⁻¹).den=q.num.natAbs:=by
 rw[Rat.num_inv,Rat.den_inv,if_neg (by omega),fK h];omega
def MT{q:Rat}(h:0<q.num):(q⁻¹).num=(q.den:Int)/\(q⁻¹).den=q.num.natAbs:=by
 rw[Rat.num_inv,Rat.den_inv,if_neg (by omega),fW h];omega
end Go.Sx
end
section
namespace Go.Sx
open Go
section
variable {P:Program} {ops:Array Oper} {Q:Exit->Act->World->Prop} {S:World->Prop} {fin:Nat->Bool} {k:Nat} {π₂:List (Nat×Bool)}
def My(ops:Array Oper)(fin:Nat->Bool)(k:Nat)(π₂:List (Nat×Bool)):List (Nat×Bool)->Array Bool->Bool
 |[],listed=>(Region.ready .any ops listed==[k])&&rg ops fin π₂ (listed.setIfInBounds k true)
 |(i,true)::r,listed=>!(Nat.beq i k)&&yk ops fin listed i&&yk ops fin (listed.setIfInBounds k true) i&&My ops fin k π₂ r (listed.setIfInBounds i true)
 |(i,false)::r,listed=>!(Nat.beq i k)&&(Region.ready .any ops listed).all (fun j=>Nat.beq j i||Nat.beq j k)&&(Region.ready .any ops listed).contains i&&(Region.ready .any ops (listed.setIfInBounds k true)==[i])&&My ops fin k π₂ r (listed.setIfInBounds i true)
def J7(P:Program)(ops:Array Oper)(Q:Exit->Act->World->Prop)(S:World->Prop)(fin:Nat->Bool)(k:Nat)(π₂:List (Nat×Bool)):List (Nat×Bool)->Act->World->Prop
 |[],a,w=>wpOp P ops Q k (fun a' w'=>(fin k=true\/S w')/\gh P ops Q S fin π₂ a' w') a w
 |(i,true)::r,a,w=> ∃o v,ops[i]? =some o/\S w/\YieldsIf P ops S o v a/\J7 P ops Q S fin k π₂ r (a.put o.dst v) w
 |(i,false)::r,a,w=>wpOp P ops Q i (fun a' w'=>(fin i=true\/S w')/\J7 P ops Q S fin k π₂ r a' w') a w/\
   wpOp P ops Q k (fun a' w'=>(fin k=true\/S w')/\gh P ops Q S fin ((i,false)::r++π₂) a' w') a w
end
section
variable {P:Program} {C:aB} {n:Nat} {fr:Fr} {own own0:List av} {G G0:Gh} {ops:Array Oper} {Q:Exit->Act->World->Prop} {fin:Nat->Bool} {k:Nat} {π π₂:List (Nat×Bool)}
def fF(d:Nat):Option Nat->Fr
 |none=>[]
 |some b=>[(d, .pointer (some ⟨b,0,none⟩))]
def fO(t:TypeId)(z:Value):Option Nat->List av
 |none=>[]
 |some b=>[⟨b,aD z,t,true⟩]
def dwE(P:Program)(ops:Array Oper)(Q:Exit->Act->World->Prop)(S:World->Prop)(fin:Nat->Bool)(k:Nat)(π₂:List (Nat×Bool))(fl:Option Nat)(π:List (Nat×Bool)):Act->World->Prop:=
 match fl with
 |none=>J7 P ops Q S fin k π₂ π
 |some _=>gh P ops Q S fin (π++π₂)
end
end Go.Sx
end
section
namespace Go.Sx
open Go Go.Proofs
def E6{q:Rat}(h:q.den=1):q=(q.num:Int):=by
 conv=>lhs;rw[<-tJ q,h,sK]
def bg(a b:Rat):Int:=if a<b then-1 else if b<a then 1 else 0
def GV(a b:Rat):(a-b).num<0↔a<b:=by
 rw[<-Rat.not_le,Rat.le_iff_sub_nonneg,<-Rat.num_nonneg];omega
def Tz(a b:Rat):0<(a-b).num↔b<a:=by
 have h:=GV b a;have h2:(b-a).num= -(a-b).num:=by rw[<-nJ,Rat.neg_sub]
 rw[h2] at h;rw[<-h];omega
def Et(a b:Rat):Int.sign (a-b).num=bg a b:=by
 unfold bg;split
 ·rename_i h;exact fK ((GV a b).2 h)
 ·rename_i h
  split
  ·rename_i h2;exact fW ((Tz a b).2 h2)
  ·rename_i h2
   rw[<-GV] at h;rw[<-Tz] at h2;rw[show(a-b).num=0 by omega];rfl
def OC{a b:Rat}(h:a.den=b.den):a<b↔a.num<b.num:=by
 rw[Rat.lt_iff,h];have:(0:Int)<b.den:=by have:=b.den_pos;omega
 exact⟨fun h2=>Int.lt_of_mul_lt_mul_right h2 (qK this),fun h2=>Int.mul_lt_mul_of_pos_right h2 this⟩
def tC(a b:Rat):bg a b=0↔a=b:=by
 unfold bg;constructor
 ·intro h
  split at h
  ·omega
  ·rename_i h1
   split at h
   ·omega
   ·rename_i h2
    exact Rat.le_antisymm (Rat.not_lt.1 h2) (Rat.not_lt.1 h1)
 ·intro h
  subst h;rw[if_neg (Rat.not_lt.2 dR),if_neg (Rat.not_lt.2 dR)]
def Ly(a b:Rat):0<bg a b↔b<a:=by
 unfold bg;constructor
 ·intro h
  split at h
  ·omega
  ·split at h
   ·assumption
   ·omega
 ·intro h
  rw[if_neg (fun h2=>Rat.not_lt.2 (dQ h) h2),if_pos h];decide
def SL(a b:Rat):bg a b<0↔a<b:=by
 unfold bg;constructor
 ·intro h
  split at h
  ·assumption
  ·split at h<;>omega
 ·intro h
  rw[if_pos h];decide
def rgcd(a b:Rat):Rat:=mkRat ((Nat.gcd (a.num.natAbs*b.den) (b.num.natAbs*a.den):Nat):Int) (a.den*b.den)
def CG(a b:Int):rgcd a b=((Nat.gcd a.natAbs b.natAbs:Nat):Int):=by
 unfold rgcd;show mkRat ((Nat.gcd (a.natAbs*1) (b.natAbs*1):Nat):Int) (1*1)=_;rw[iY,iY,iY,sK]
def Wt{a b m:Nat}(ha:a<m)(hb:b<m):Nat.gcd a b<m:=by
 rcases fX a with h|h
 ·rw[h,Nat.gcd_zero_left];exact hb
 ·exact fT (Nat.gcd_le_left _ h) ha
structure LV where
 a:RV
 b:RV
 c:RV
def LV.v(z:LV):Value:= .agg ⟨[.int .i64 z.a.n, .int .i64 z.a.d, .pointer z.a.p, .int .i64 z.b.n, .int .i64 z.b.d, .pointer z.b.p, .int .i64 z.c.n, .int .i64 z.c.d, .pointer z.c.p]⟩
structure aa where
 a:Int
 b:Int
 c:Int
structure I4 (k:Nat) (G:Gh) (z:LV) (l:aa):Prop where
 a:xu k G z.a (l.a:Rat)
 b:xu k G z.b (l.b:Rat)
 c:xu k G z.c (l.c:Rat)
def aa.ok(l:aa):Prop:= ¬(l.a=0/\l.b=0)/\Nat.gcd (Nat.gcd l.a.natAbs l.b.natAbs) l.c.natAbs=1
def okI(neg:Bool)(ds:List Nat):Prop:=eh ds/\(neg=true->ds≠[])
structure PV where
 x:RV
 y:RV
def PV.v(z:PV):Value:= .agg ⟨[.int .i64 z.x.n, .int .i64 z.x.d, .pointer z.x.p, .int .i64 z.y.n, .int .i64 z.y.d, .pointer z.y.p]⟩
structure ab where
 x:Rat
 y:Rat
structure IsP (k:Nat) (G:Gh) (z:PV) (p:ab):Prop where
 x:xu k G z.x p.x
 y:xu k G z.y p.y
def JB(a:Int): -(a:Rat)=((-a:Int):Rat):=rfl
def aa.rev(l:aa):aa:=⟨-l.a, -l.b, -l.c⟩
def aa.nor(l:aa):ab:=⟨l.a,l.b⟩
def aa.dir(l:aa):ab:=⟨l.b, -(l.a:Rat)⟩
def ab.dot(p q:ab):Rat:=p.x*q.x+p.y*q.y
def ab.cross(p q:ab):Rat:=p.x*q.y-p.y*q.x
def ab.scale(p:ab)(c:Rat):ab:=⟨p.x*c,p.y*c⟩
def ab.add(p q:ab):ab:=⟨p.x+q.x,p.y+q.y⟩
def aa.value(l:aa)(p:ab):Rat:=l.nor.dot p+(l.c:Rat)
def aa.base(l:aa):ab:=l.nor.scale (-(l.c:Rat)/l.nor.dot l.nor)
def aa.at(l:aa)(t:Rat):ab:=l.base.add (l.dir.scale t)
end Go.Sx
end
section
namespace Go.Sx
open Go
instance:DecidableEq aa:=fun x y=>decidable_of_iff (x.a=y.a/\x.b=y.b/\x.c=y.c) (by
 cases x;cases y;simp)
structure ah where
 lo:Rat
 hi:Rat
 nl:Bool
 nh:Bool
def ah.all:ah:=⟨0,0,true,true⟩
def ah.empty(v:ah):Bool:=!v.nl&&(!v.nh&&decide (0<=bg v.lo v.hi))
def ah.meet(v w:ah):ah:=
 ⟨if v.nl then w.lo else if w.nl then v.lo else if v.lo<w.lo then w.lo else v.lo,
  if v.nh then w.hi else if w.nh then v.hi else if w.hi<v.hi then w.hi else v.hi,v.nl&&w.nl,v.nh&&w.nh⟩
def ah.sample(v:ah):Rat:=if v.nl&&v.nh then 0 else if v.nl then v.hi-1 else if v.nh then v.lo+1 else(v.lo+v.hi)*mkRat 1 2
def aa.cutK(l m:aa):Rat:=m.nor.dot l.dir
def aa.cutC(l m:aa):Rat:=m.value l.base
def aa.cutV(l:aa)(v:ah)(m:aa):ah:=
 if Int.sign (l.cutK m).num=0 then v
 else if Int.sign (l.cutK m).num=1 then v.meet ⟨-(l.cutC m/l.cutK m),0,false,true⟩
 else v.meet ⟨0, -(l.cutC m/l.cutK m),true,false⟩
def aa.cutB(l:aa)(v:ah)(m:aa):Bool:=
 if Int.sign (l.cutK m).num=0 then decide (0<Int.sign (l.cutC m).num) else !(l.cutV v m).empty
structure ba where
 l:aa
 v:ah
abbrev aw:=List ba
def oe(l:aa):aw->ah->Option ah
 |[],v=>some v
 |s::t,v=>if l.cutB v s.l then oe l t (l.cutV v s.l) else none
def lC(c:aw)(l:aa):Option ah:=oe l c ah.all
def oF(l:aa)(s:ba):Int:=Int.sign (l.value (s.l.at s.v.sample)).num
def oD(l:aa):aw->Int
 |[]=> -1
 |s::t=>if oF l s≠0 then oF l s else if s.l=l then 1 else oD l t
def xv(c:aw)(l:aa):Int:=if(lC c l).isSome then 0 else oD l c
def ab.half(p:ab):Int:=
 if 0<Int.sign p.y.num\/(Int.sign p.y.num=0/\0<Int.sign p.x.num) then 1 else if Int.sign p.y.num<0\/Int.sign p.x.num<0 then 2 else 0
def co(u v:ab):Int:=if u.half<v.half then-1 else if v.half<u.half then 1 else-(Int.sign (u.cross v).num)
def ew(l:aa):aw->aw
 |[]=>[]
 |s::t=>if s.l.cutB s.v l then⟨s.l,s.l.cutV s.v l⟩::ew l t else ew l t
def gr(p:Nat->Bool)(i j:Nat):Nat:=
 if h:i<j then(if p ((i+j)/2) then gr p ((i+j)/2+1) j else gr p i ((i+j)/2)) else i
termination_by j-i
def jt(c:aw)(l:aa)(i:Nat):Bool:=match c[i]? with
 |some s=>decide (co s.l.dir l.dir<0)
 |none=>false
def ni(c:aw)(l:aa)(v:ah):aw:=
 c.take (gr (jt c l) 0 c.length)++⟨l,v⟩::c.drop (gr (jt c l) 0 c.length)
def cj(c:aw)(l:aa):aw:=match lC c l with
 |some v=>ni (ew l c) l v
 |none=>c
def dh(c:aw)(l:aa):Bool:=match lC c l with
 |some _=>true
 |none=>decide (0<xv c l)
def DK(p:Nat->Bool): ∀(d i j:Nat),j-i<=d->i<=j->i<=gr p i j/\gr p i j<=j
 |0,i,j,h,hij=>by
  rw[gr,dif_neg (by omega)];omega
 |d+1,i,j,h,hij=>by
  rw[gr];split
  ·split
   ·have:=DK p d ((i+j)/2+1) j (by omega) (by omega);omega
   ·have:=DK p d i ((i+j)/2) (by omega) (by omega);omega
  ·omega
def Nx(l:aa): ∀c:aw,(ew l c).length<=c.length
 |[]=>aN _
 |s::t=>by
  have:=Nx l t;unfold ew;split<;>simp<;>omega
def azc(c:aw)(l:aa)(v:ah):(ni c l v).length=c.length+1:=by
 have:=(DK (jt c l) c.length 0 c.length (by omega) (by omega)).2;simp[ni];omega
def DD(c:aw)(l:aa):(cj c l).length<=c.length+1:=by
 unfold cj;split
 ·rw[azc];have:=Nx l c;omega
 ·omega
inductive Tr where
 |leaf (b:Bool)
 |node (l:aa) (x y:Tr)
def Tr.isLeaf:Tr->Bool
 | .leaf _=>true
 | .node .. =>false
def Tr.code:Tr->Bool
 | .leaf b=>b
 | .node .. =>false
def Tr.depth:Tr->Nat
 | .leaf _=>0
 | .node _ x y=>1+max x.depth y.depth
def Tr.size:Tr->Nat
 | .leaf _=>0
 | .node _ x y=>1+x.size+y.size
def Tr.joinQ(l:aa)(x y:Tr):Tr:=if x.isLeaf&&(y.isLeaf&&(x.code==y.code)) then x else .node l x y
def Tr.restrict:Tr->aw->Tr
 | .leaf b,_=> .leaf b
 | .node l x y,c=>if !dh c l.rev then x.restrict c else if !dh c l then y.restrict c else joinQ l (x.restrict (cj c l)) (y.restrict (cj c l.rev))
def Tr.parts:Tr->aw->List (Bool×aw)
 | .leaf b,c=>[(b,c)]
 | .node l x y,c=>(if dh c l then x.parts (cj c l) else [])++(if dh c l.rev then y.parts (cj c l.rev) else [])
def Tr.all(p:aa->Prop):Tr->Prop
 | .leaf _=>True
 | .node l x y=>p l/\x.all p/\y.all p
def Tr.good:Tr->Prop
 | .leaf _=>True
 | .node _ x y=> ¬(x.isLeaf=true/\y.isLeaf=true/\x.code=y.code)/\x.good/\y.good
structure NQ where
 l:aa
 a:Int
 b:Int
def rA(b:Bool):Int:=if b then-2 else-1
def Tr.num:Tr->Nat->Int
 | .leaf b,_=>rA b
 | .node ..,n=>n
def Tr.wr:Tr->Nat->List NQ
 | .leaf _,_=>[]
 | .node l x y,n=>⟨l,x.num (n+1),y.num (n+1+x.size)⟩::x.wr (n+1)++y.wr (n+1+x.size)
def Tr.wr_len: ∀(t:Tr) (n:Nat),(t.wr n).length=t.size
 | .leaf _,n=>rfl
 | .node l x y,n=>by
  have h1:=Tr.wr_len x (n+1);have h2:=Tr.wr_len y (n+1+x.size);simp[Tr.wr,Tr.size,h1,h2];omega
def Tr.joinQ_cases(l:aa)(x y:Tr):(Tr.joinQ l x y=x/\x.isLeaf=true)\/(Tr.joinQ l x y= .node l x y/\ ¬(x.isLeaf=true/\y.isLeaf=true/\x.code=y.code)):=by
 unfold Tr.joinQ;split
 ·rename_i h
  simp at h;exact .inl ⟨J,h.1⟩
 ·rename_i h
  simp at h;exact .inr ⟨J,fun⟨a,b,c⟩=>h a b c⟩
def Tr.restrict_depth: ∀(t:Tr) (c:aw),(t.restrict c).depth<=t.depth
 | .leaf b,c=>aN _
 | .node l x y,c=>by
  unfold Tr.restrict;split
  ·have:=x.restrict_depth c;simp only[Tr.depth];omega
  ·split
   ·have:=y.restrict_depth c;simp only[Tr.depth];omega
   ·have h1:=x.restrict_depth (cj c l)
    have h2:=y.restrict_depth (cj c l.rev);rcases Tr.joinQ_cases l (x.restrict (cj c l)) (y.restrict (cj c l.rev)) with⟨h,_⟩|⟨h,_⟩
    ·rw[h];simp only[Tr.depth];omega
    ·rw[h];simp only[Tr.depth];omega
def Tr.restrict_all(p:aa->Prop): ∀(t:Tr) (c:aw),t.all p->(t.restrict c).all p
 | .leaf b,c,_=>trivial
 | .node l x y,c,h=>by
  obtain⟨h0,h1,h2⟩:=h;unfold Tr.restrict;split
  ·exact x.restrict_all p c h1
  ·split
   ·exact y.restrict_all p c h2
   ·rcases Tr.joinQ_cases l (x.restrict (cj c l)) (y.restrict (cj c l.rev)) with⟨h,_⟩|⟨h,_⟩
    ·rw[h];exact x.restrict_all p _ h1
    ·rw[h];exact⟨h0,x.restrict_all p _ h1,y.restrict_all p _ h2⟩
end Go.Sx
end
