import Derived.Test.YtnnpcjkdmmjknaaGreatDoorMg3
set_option linter.all false
set_option maxHeartbeats 2000000
set_option maxRecDepth 100000
section
namespace Go.Sx
open Go Go.Proofs Tryz
variable {V s k1 k2 k0 e:Nat}{A B G:Gh}{x y:SV}{q:Rat}
def WO{n:Nat}(h1:4294967296^(n-1)<=V)(h2:V<4294967296^n)(hn:0<n):(dg V).length=n:=by
 obtain⟨e,hk,hr⟩:=eg V;have hne:dg V≠[]:=fun h=>by
  rw[h] at e;have:0<4294967296^(n-1):=fX (by decide);simp[dv] at e;omega
 have h3:=sk hr hne;have h4:=jA hk;rw[e] at h3 h4;have h5:=(oW (a:=4294967296) (by decide)).1 (eK h3 h2);have h6:=(oW (a:=4294967296) (by decide)).1 (eK h1 h4);omega
def auB{t:Nat}(h0:0<t)(ht:t<4294967296)(hs:s=32-bl t):s<32/\2147483648<=t*2^s/\(t+1)*2^s<=4294967296:=by
 have h1:bl t<=32:=pi.2 ht;have h2:bl t≠0:=fun h=>by
  have:=E0 t;rw[h] at this;omega
 have h3:=E0 t;have h4: ¬t<2^(bl t-1):=fun h=>by
  have:=pi.2 h;omega
 have e1:2^(bl t-1)*2^s=2147483648:=by rw[<-eY,show bl t-1+s=31 by omega]
 have e2:2^bl t*2^s=4294967296:=by rw[<-eY,show bl t+s=32 by omega]
 refine⟨by omega,?_,?_⟩
 .rw[<-e1];exact bL _ (by omega)
 .rw[<-e2];exact bL _ h3
def Zd{us:List Nat}(h:bB us)(i:Nat)(hd:us.length=i+1):dv us=us.getD i 0*4294967296^i+dv (us.take i):=by
 have h0:dv (us.drop (i+1))=0:=by rw[iV (by omega)];rfl
 rw[z7 us i,zk us i,h0,kR,cK];rfl
def QC{b:List Nat}(h:dC b)(i:Nat)(hi:b.length=i+1):0<b.getD i 0:=by
 rcases gU (b.getD i 0) with h0|h0
 .exfalso
  apply h;rw[nM,hi,show i+1-1=i from J];rw[List.getD,aZ (by omega)] at h0;rw[aZ (by omega)];simpa using h0
 .exact h0
def ax2(a:List Nat)(k:Nat):dv (a++List.replicate k 0)=dv a:=by rw[Ax,xZ];simp
structure aDW where
 us:List Nat
 qs:List Nat
 j:Nat
structure azl where
 g:Nat
 r:Nat
structure SQ where
 ws:List Nat
 k:Nat
 bo:Nat
 c:Nat
def axV{P:Program}{t:TypeId}(c:Nat)(h:c<18446744073709551616)(w:World):(binOp .and t (.int .u64 (c:Int)) (.int .u64 4294967295)).run P w= .ok (.int .u64 ((c%4294967296:Nat):Int)) w:=by
 have h1:(BitVec.ofInt 64 (c:Int) &&& BitVec.ofInt 64 4294967295).toNat=c%4294967296:=by
  rw[BitVec.toNat_and,BitVec.ofInt_natCast,BitVec.toNat_ofNat,gS (by omega),show(BitVec.ofInt 64 4294967295).toNat=2^32-1 from J,Nat.and_two_pow_sub_one_eq_mod]
 have h2:IntKind.u64.wrap ((c%4294967296:Nat):Int)=((c%4294967296:Nat):Int):=by rw[od];omega
 simp only[binOp];show(Op.intBits .and .u64 (c:Int) 4294967295).run P w=_;unfold Op.intBits;show(pure (Value.int .u64 (IntKind.u64.wrap ((BitVec.ofInt 64 (c:Int) &&& BitVec.ofInt 64 4294967295).toNat:Int))):Sem Value).run P w=_;rw[h1,h2,run_pure]
def ut(u m bo:Nat):Nat:=if m+bo<=u then u-(m+bo) else u+18446744073709551616-(m+bo)
def EQ(u m bo:Nat)(hu:u<4294967296)(hm:m<4294967296)(hb:bo<=1):IntKind.u64.wrap (IntKind.u64.wrap ((u:Int)-(m:Int))-(bo:Int))=((ut u m bo:Nat):Int):=by
 rw[od,od];unfold ut;split<;>omega
def Me(u m bo:Nat)(hu:u<4294967296)(hm:m<4294967296)(hb:bo<=1):ut u m bo%4294967296+(m+bo)=u+ut u m bo/9223372036854775808*4294967296/\ut u m bo/9223372036854775808<=1/\ut u m bo<18446744073709551616:=by
 unfold ut;split<;>omega
def Xk{A B G:Gh}{x y:SV}{a b:List Nat}{k1 k2:Nat}(hx:cj A x a)(hy:cj B y b)[GL A G][GL B G](hna:dC a)(hnb:dC b)(hb2:2<=b.length)(hle:dv b<=dv a)
  (hq:dv a/dv b<2^k1)(hr:dv a%dv b<2^k2)(hl:a.length<=112589990684):
  Fn prog 304 [x.v,y.v] G (fun v G'=> ∃z r:SV,v= .tuple #[z.v,r.v]/\gg k1 G' z (dv a/dv b)/\gg k2 G' r (dv a%dv b)):=by
 have hxl:=hx.len;have hyl:=hy.len;obtain⟨n,hn⟩: ∃n,b.length=n+2:=⟨b.length-2,by omega⟩;have hbp:0<dv b:=iK fun h=>by
  rw[azw hnb] at h;rw[h] at hn;simp at hn
 have hnm:b.length<=a.length:=by
  rcases jK a.length b.length with h|h
  .have:=ud hx.ok hnb h
   omega
  .exact h
 have htp:=QC hnb (n+1) hn;have htl:=hy.ok.get (n+1);have hbv:=Zd hy.ok (n+1) hn;have hbt:=Dy hy.ok (n+1);obtain⟨s,hs⟩: ∃s,s=32-bl (b.getD (n+1) 0):=⟨_,rfl⟩;obtain⟨hs32,hs1,hs2⟩:=auB htp htl hs;have hble:bl (b.getD (n+1) 0)<=32:=pi.2 htl;have hpn:0<4294967296^(n+1):=fX (by decide);have hps:0<2^s:=fX (by decide);have hV1:2147483648*4294967296^(n+1)<=dv b*2^s:=by
  refine cS (bL _ hs1) ?_;rw[cJ,cK (2^s),<-cJ];exact bL _ (by omega)
 have hV2:dv b*2^s<4294967296^(n+2):=by
  refine dZ (lU (k:=2^s) (m:=(b.getD (n+1) 0+1)*4294967296^(n+1)) (by rw[dJ,nX];omega) hps) ?_;rw[cJ,cK (4294967296^(n+1)),<-cJ,uM (n+1),cK _ 4294967296];exact bL _ hs2
 have hVl:(dg (dv b*2^s)).length=n+2:=WO (by show 4294967296^(n+1)<=_;omega) hV2 (by omega);have hal:=jA hx.ok;have hU2:dv a*2^s<4294967296^(a.length+1):=by
  rw[uM];exact pQ hal (dZ (Nat.pow_lt_pow_right (by decide) hs32) (by decide))
 have hUl1:(dg (dv a*2^s)).length<=a.length+1:=by
  have h1:=Po (eg (dv a*2^s)).2.2 (k:=32*(a.length+1)) (by rw[(eg _).1,qK];exact hU2);omega
 have hUl0:a.length<=(dg (dv a*2^s)).length:=by
  have hane:a≠[]:=fun h=>by
   have:=congrArg List.length h;simp only[eX] at this;omega
  have h1:=sk hna hane;have h2:=jA (eg (dv a*2^s)).2.1;rw[(eg _).1] at h2;have h3:dv a<=dv a*2^s:=mR _ hps;have h4:=(oW (a:=4294967296) (by decide)).1 (eK (cS h1 h3) h2);omega
 have hU3:dv a*2^s<dv b*2^s*4294967296^(a.length-n-1):=by
  have h1:4294967296^(n+1)*4294967296^(a.length-n-1)=4294967296^a.length:=by rw[<-eY,show n+1+(a.length-n-1)=a.length by omega]
  refine dZ (lU hal hps) (cS (fL _ (bR (by decide) (show s<=31 by omega))) ?_);rw[<-h1,cK,<-cJ];exact bL _ hV1
 have hta:=Rt hna;have htb:=Rt hnb;refine Fn.intro func304 J J ntmps304 J ?_;intro C _ _;refine sR<|sa J J<|sa J J<|zE<|azn<|sR<|sm J J<|sm J J<|cB J J<|sy (jy J J) J<|?_;refine sy (iH hy J J) J<|?_;rw[show((y.n:Int)-1).toNat=n+1 by omega];refine sy (i0 hy J) J<|?_;refine sc (zC J J (GO htl) J ?_);rintro _ G1 _ rfl;refine sy (gE J) J<|?_;rw[show(32-(bl (b.getD (n+1) 0):Int))=(s:Int) by omega];refine sa J J<|zE<|sR<|sm J J<|sm J J<|?_;refine sc (zC J J (QP (kk:=32*(a.length+1)) hx hs32 (by rw[qK];exact hU2)) J ?_);rintro _ G2 _ ⟨u,rfl,hu,huc⟩;have hul:=hu.len;rw[hta] at huc;refine sc (DB (by rfl) (by rfl) (by rfl) (by rfl) J ?_);intro b3;refine sc (A5 (z:= .int .u32 0) (m:=2) J J (Tc hu.d) (xk inferInstance J) (by omega) (by decide) (by omega) J ?_);intro b4 cap h1;have ecs:(dg (dv a*2^s)).map dI++[Value.int .u32 0, .int .u32 0]++de (.int .u32 0) (cap-(u.n+2))=(dg (dv a*2^s)++List.replicate (cap-u.n) 0).map dI:=by
  rw[wc,show cap-u.n=(cap-(u.n+2))+1+1 by omega,mN,mN];simp[dI]
 rw[ecs];clear ecs;have hus:dv (dg (dv a*2^s)++List.replicate (cap-u.n) 0)=dv a*2^s:=by rw[ax2,(eg _).1]
 have huo:bB (dg (dv a*2^s)++List.replicate (cap-u.n) 0):=(eg _).2.1.append (.replicate _);have hulen:(dg (dv a*2^s)++List.replicate (cap-u.n) 0).length=cap:=by simp;omega
 generalize dg (dv a*2^s)++List.replicate (cap-u.n) 0=us0 at hus huo hulen⊢;refine sm J J<|cB J J<|sy (dt J J) J<|sy (yg J J) J<|sa J J<|zE<|sR<|sm J J<|?_;refine sm J J<|?_;refine sc (zC J J (QP (kk:=32*(n+2)) hy hs32 (by rw[qK];exact hV2)) J ?_);rintro _ G4 _ ⟨v,rfl,hv,_⟩;have hvl:=hv.len;obtain⟨hvv,hvo,hvn⟩:=eg (dv b*2^s);replace hv:=hv.d;rw[hVl] at hvl;generalize hvs:dg (dv b*2^s)=vs at*;refine sa J J<|zE<|sR<|sm J J<|cB J J<|sa J J<|zE<|bi<|dr (fun _=>false) [(0,true),(1,true),(2,true),(3,true),(4,true),(5,true),(6,true),(7,true),(8,true),(9,true),(10,true),(11,true),(12,true),(13,true)] follows (by kernel_rfl)<|?_;refine dM J J J<|dM J J J<|dy J (fun _=>jy J J (by omega) (by omega)) J J<|dy J (fun _=>iH hv J J) J J<|?_;rw[show((v.n:Int)-1).toNat=n+1 by omega];have hvt:=hvo.get (n+1);have hv2:=hvo.get n;refine dy J (fun _=>i0 hv J) J J<|dy J (fun _=>gE J (by omega) (by omega)) J J<|dM J J J<|dM J J J<|?_;refine dy J (fun _=>jy J J (by omega) (by omega)) J J<|dy J (fun _=>iH hv J J) J J<|?_;rw[show((v.n:Int)-2).toNat=n by omega];refine dy J (fun _=>i0 hv J) J J<|?_;refine dy J (fun _=>gE J (by omega) (by omega)) J J<|dA J J J<|dA J J J<|dn<|sR<|sm J J<|?_;refine cB J J<|sm J J<|sy (jy J J) J<|?_;obtain⟨l,hlq⟩: ∃l,a.length=n+1+l:=⟨a.length-n-1,by omega⟩;rw[show a.length-n-1=l by omega] at hU3;rw[show(((x.n:Int)+1).toNat:Int)-v.n=(l:Nat) by omega,show((x.n:Int)+1).toNat=a.length+1 by omega]
 refine sc (s9 J J (by omega) (by omega) (by omega) (by rfl) J ?_);intro b5;rw[wc,aR];refine F8 [_,_] (.cons_cons _ (.cons_cons _ (.cons _ .slnil))) ?_;refine sa J J<|zE<|bi<|Uy<|bi<|sR<|sm J J<|cB J J<|sy (jy J J) J<|sa J J<|zE<|du<|?_;refine lx (X:=aDW) (fun q=>[(13, .int .i64 ((q.j:Int)-1)),(7, .slice (some ⟨b4,0,none⟩) (a.length+1) cap),(9, .int .i64 v.n),(10, .int .u64 (vs.getD (n+1) 0:Nat)),(11, .int .u64 (vs.getD n 0:Nat)),(8, .slice v.a v.n v.c),(12, .slice (some ⟨b5,0,none⟩) l l),(6, .int .u64 s)])
  (fun q=>[⟨b5,q.qs.map dI,268,true⟩,⟨b4,q.us.map dI,268,true⟩])
  (fun q _=>q.us.length=cap/\bB q.us/\q.qs.length=l/\bB q.qs/\q.j<=l/\(∀i,i<q.j->q.qs.getD i 0=0)/\dv a*2^s=dv q.us+dv vs*dv q.qs/\dv q.us<dv vs*4294967296^q.j) (fun q=>q.j) ⟨us0,List.replicate l 0,l⟩
  ⟨hulen,huo,by simp, .replicate _,bX _,fun i _=>by simp[List.getD,List.getElem?_replicate];split<;>rfl,by simp only[xZ];omega,by simp only[hus,hvv];exact hU3⟩ (.cons J (.cons J (.cons J (.cons J (.cons J (.cons J (.cons J (.cons J .nil)))))))) J ?_
 rintro ⟨us,qs,j⟩ Gx _ ⟨hul2,huo2,hql,hqo,hjl,hq0,hinv,hlt⟩;simp only[] at hul2 huo2 hql hqo hjl hq0 hinv hlt⊢;refine bi<|sR<|sm J J<|sy (qi J J) J<|zE<|?_;refine lB J (fun hc=>?_) (fun hc=>?_) -- slot 68
 .have hj0:j=0:=by omega
  subst hj0;refine jl<|dP<|dP<|jg<|bi<|?_;refine nH b5 (.hd ..) (fun G5 _ hgb5=>?_);refine nH b4 (.hd ..) (fun G6 _ hgb4=>?_);refine dr (fun _=>false) [(0,true),(2,true),(3,true),(4,true),(5,true),(1,false),(6,false),(7,true),(8,true)] follows (by kernel_rfl)<|?_;have hDq:cj G6 ⟨some ⟨b5,0,none⟩,l,l⟩ qs:= .of_block hqo (hgb5.up (G:=G6)) hql.symm (bX _) (by rw[aM (by simp)]);have hut:dv (us.take (n+2))=dv us:=by
   have h0:=z7 us (n+2);rw[CX (by rw[sK,fV,hvv] at hlt;omega)] at h0;omega
  have hDu:cj G6 ⟨some ⟨b4,0,none⟩,n+2,cap⟩ (us.take (n+2)):= .of_block (huo2.take _) hgb4.h (by simp;omega) (by omega) (by rw[iL,cR,iN (by omega)]);have hV0:0<dv vs:=by rw[hvv];exact jW hbp hps
  rw[sK,fV] at hlt;have hdq:dv a/dv b=dv qs:=by
   rw[<-Nat.mul_div_mul_right _ _ hps,hinv,<-hvv,mY _ _ hV0,kU hlt,eJ]
  have hdr:dv a%dv b=dv (us.take (n+2))/2^s:=by
   have:dv us=dv a%dv b*2^s:=by
    rw[<-sS,hinv,<-hvv,nN,gS hlt]
   rw[hut,this,Nat.mul_div_cancel _ hps]
  refine dM J J J<|dM J J J<|dM J J J<|dy J (fun _=>yg J J) J J<|?_;rw[show(v.n:Int).toNat=n+2 by omega];refine dM J J J<|?_;refine dc J J (zC J J (jp hDq) J ?_);rintro _ G7 _ rfl;refine kP<|?_;refine dc J J (zC J J (aDP (kk:=k2) hDu hs32 (by rw[<-hdr];exact hr) (by simp;omega)) J ?_);rintro _ G8 _ ⟨r,rfl,hr8⟩;refine kP<|dA J J J<|dA J J J<|dn<|cg<|?_;refine zD (.tmp J (.tmp J .nil)) ⟨⟨some ⟨b5,0,none⟩,(trimD qs).length,l⟩,r,J,?_,?_⟩
  .rw[hdq]
   refine⟨?_,by rw[<-hdq];exact hq⟩;rw[qk hqo];exact hDq.trim.up
  .rw[hdr];exact hr8
 obtain⟨i,rfl⟩: ∃i,j=i+1:=⟨j-1,by omega⟩;rw[show(((i+1:Nat):Int)-1)=i by omega];have hpi:0<4294967296^i:=fX (by decide)
 -- the digits that the guess looks at
 obtain⟨p,hp⟩: ∃p,p=4294967296^(i+n):=⟨_,rfl⟩;obtain⟨V,hV⟩: ∃V,V=dv vs*4294967296^i:=⟨_,rfl⟩;have hvB:dv vs<4294967296^(n+2):=by rw[hvv];exact hV2
 have hvh:=TG hvo n hvB;have hltV:dv us<V*4294967296:=by rw[hV,cJ,<-uM];exact hlt
 have hV0:0<V:=by rw[hV];exact jW (by rw[hvv];exact jW hbp hps) hpi
 have hT0:0<vs.getD (n+1) 0:=QC hvn (n+1) hVl;have hVp:V=(vs.getD (n+1) 0*4294967296+vs.getD n 0)*p+dv (vs.take n)*4294967296^i:=by
  rw[hV,hvh,dJ,hp,eY,cK (4294967296^i),cJ]
 have hv0:dv (vs.take n)*4294967296^i<p:=by
  rw[hp,eY,cK];exact Nat.mul_lt_mul_of_pos_left (Dy hvo n) hpi
 have hM:dv us<4294967296^(i+n+3):=by
  refine dZ hlt ?_;rw[show i+n+3=(n+2)+(i+1) by omega,eY 4294967296 (n+2) (i+1)];exact bL _ (gR hvB)
 have huh:=aIe huo2 (i+n) hM;rw[<-hp] at huh;have hu0:=Dy huo2 (i+n);rw[<-hp] at hu0;have hg0:=huo2.get (i+n);have hg1:=huo2.get (i+n+1);have hg2:=huo2.get (i+n+2);refine zK<|bi<|du<|bi<|dr (fun _=>false) [(0,true),(1,true),(2,true),(3,true),(4,true),(5,true),(6,true),(7,true),(8,true),(9,true),(10,true),(11,true),(12,true),(13,true),(14,true),(15,true),(16,true),(17,true)] follows (by kernel_rfl)<|?_;refine dM J J J<|dM J J J<|dM J J J<|dy J (fun _=>dt J J (by omega) (by omega)) J J<|?_;refine dy J (fun _=>dO J J) J J<|?_;rw[show((i:Int)+(v.n:Int)).toNat=i+n+2 by omega];refine dy J (fun _=>te J) J J<|dy J (fun _=>gE J (by omega) (by omega)) J J<|dy J (fun _=>xe J J) J J<|?_;rw[sP (us.getD (i+n+2) 0) 32 (by decide) (by omega) J];refine dM J J J<|dM J J J<|dM J J J<|dy J (fun _=>dt J J (by omega) (by omega)) J J<|?_;refine dy J (fun _=>jy J J (by omega) (by omega)) J J<|dy J (fun _=>dO J J) J J<|?_;rw[show((i:Int)+(v.n:Int)-1).toNat=i+n+1 by omega];refine dy J (fun _=>te J) J J<|?_;refine dy J (fun _=>gE J (by omega) (by omega)) J J<|dy J (fun _=>jc J J (KE (us.getD (i+n+1) 0) (us.getD (i+n+2) 0) 32 (by omega) (by omega))) J J<|dA J J J<|dn<|bi<|?_;obtain⟨f,hf⟩: ∃f,f=us.getD (i+n+2) 0*4294967296+us.getD (i+n+1) 0:=⟨_,rfl⟩;rw[show us.getD (i+n+1) 0+us.getD (i+n+2) 0*2^32=f by omega];rw[<-hf] at huh;have hfB:f<18446744073709551616:=by omega
 refine dr (fun _=>false) [(0,true),(1,true),(2,true),(3,true),(4,true),(5,true),(6,true),(7,true)] follows (by kernel_rfl)<|?_;refine dM J J J<|dM J J J<|dy J (fun _=>AA J J) J J<|dM J J J<|dM J J J<|?_;refine dy J (fun _=>yw J J) J J<|dA J J J<|dA J J J<|dn<|?_;rw[show((f:Int)/((vs.getD (n+1) 0:Nat):Int))=((f/vs.getD (n+1) 0:Nat):Int) by rfl,show((f:Int)%((vs.getD (n+1) 0:Nat):Int))=((f%vs.getD (n+1) 0:Nat):Int) by rfl]
 -- GUESS
 have hUle:(f*4294967296+us.getD (i+n) 0)*p<=dv us:=by omega
 have hUlt:dv us<(f*4294967296+us.getD (i+n) 0+1)*p:=by rw[dJ _ 1,nX];omega
 have hVle:(vs.getD (n+1) 0*4294967296+vs.getD n 0)*p<=V:=by rw[hVp];exact oN _ _
 have hfT:f<=vs.getD (n+1) 0*4294967296+vs.getD n 0:=aJU hUle hVp hv0 hltV;refine B8 Nat (fun g=>[(15, .int .u64 (g:Nat)),(13, .int .i64 i),(7, .slice (some ⟨b4,0,none⟩) (a.length+1) cap),(9, .int .i64 v.n),(10, .int .u64 (vs.getD (n+1) 0:Nat)),(11, .int .u64 (vs.getD n 0:Nat)),(8, .slice v.a v.n v.c),(12, .slice (some ⟨b5,0,none⟩) l l),(6, .int .u64 s)]) (fun _=>[⟨b5,qs.map dI,268,true⟩,⟨b4,us.map dI,268,true⟩]) (fun g _=>g<4294967296/\dv us<(g+1)*V/\g*V<dv us+V) ?_ ?_
 .refine du<|?_
  refine lx (X:=azl) (fun q=>[(15, .int .u64 q.g),(16, .int .u64 q.r),(13, .int .i64 i),(7, .slice (some ⟨b4,0,none⟩) (a.length+1) cap),(9, .int .i64 v.n),(10, .int .u64 (vs.getD (n+1) 0:Nat)),(11, .int .u64 (vs.getD n 0:Nat)),(8, .slice v.a v.n v.c),(12, .slice (some ⟨b5,0,none⟩) l l),(6, .int .u64 s)]) (fun _=>[⟨b5,qs.map dI,268,true⟩,⟨b4,us.map dI,268,true⟩]) (fun q _=>f=q.g*vs.getD (n+1) 0+q.r/\q.r<4294967296/\dv us<(q.g+1)*V) (fun q=>q.g) ⟨f/vs.getD (n+1) 0,f%vs.getD (n+1) 0⟩
   ⟨(Nat.div_add_mod' ..).symm,qU (dV _ hT0) hvt,Y8 hUlt hg0 hVle hT0⟩ (.cons J (.cons J (.cons J (.cons J (.cons J (.cons J (.cons J (.cons J (.cons J (.cons J .nil)))))))))) J ?_
  rintro ⟨g,r⟩ Gy _ ⟨hfg,hrB,hlo⟩;simp only[] at hfg hrB hlo⊢;have hgT:g*1<=g*vs.getD (n+1) 0:=fL _ hT0;refine bi<|sR<|sm J J<|sy (m7 J J) J<|?_;rw[uD g 32 (by decide) J];refine sy (vP J J) J<|sm J J<|?_;refine iD 97 J (fun hg=>?_) (fun hg=>?_)
  .have hgB:4294967296<=g:=by omega
   have hdec:dv us<g*V:=dZ hltV (by rw[cK];exact bL _ hgB);refine ss J J J J<|ss J J J J<|ss J J J J<|ss J J J J<|ss J J J J<|ss J J J J<|ss J J J J<|ss J J J J<|ss J J J J<|?_;refine ss J J J J<|ss J J J J<|ss J J J J<|ss J J J J<|ss J J J J<|ss J J J J<|sy (m5 J J) J<|zE<|js J<|?_;refine zK<|du<|?_;obtain⟨g',rfl⟩: ∃g',g=g'+1:=⟨g-1,by rcases gU g with h|h;(rw[h,lJ] at hdec;omega);omega⟩;refine sR<|sm J J<|sy (K2 J J) J<|sa J J<|zE<|sR<|sm J J<|sm J J<|sy (rH J J) J<|?_;refine sa J J<|zE<|sR<|sm J J<|sy (m7 J J) J<|?_;rw[show((g'+1:Nat):Int)-1=(g':Nat) by omega,show((r:Int)+((vs.getD (n+1) 0:Nat):Int))=((r+vs.getD (n+1) 0:Nat):Int) from J,uD (r+vs.getD (n+1) 0) 32 (by decide) J];have hfg':f=g'*vs.getD (n+1) 0+(r+vs.getD (n+1) 0):=by rw[hfg,dJ,nX];omega
   refine sy (vP J J) J<|zE<|?_;refine fq J (fun hc3=>?_) (fun hc3=>?_) -- slot 121
   .have hr3:4294967296<=r+vs.getD (n+1) 0:=by omega
    have hgB:g'<4294967296:=by
     rcases jK g' 4294967296 with h|h
     .exact h
     .have:=bL (vs.getD (n+1) 0) h
      omega
    have hgS:g'*vs.getD n 0<=(r+vs.getD (n+1) 0)*4294967296+us.getD (i+n) 0:=by
     have h1:=gX (gR hgB) (gR hv2);omega
    refine jl<|PX J<|dP<|jg<|?_;exact qP g' ⟨hgB,hdec,HP hUle hVp hv0 hT0 hfg' hgB hgS⟩ (.cons J (.cons J (.cons J (.cons J (.cons J (.cons J (.cons J (.cons J (.cons J .nil))))))))) J
   refine zK<|?_;exact i7 ⟨g',r+vs.getD (n+1) 0⟩ ⟨hfg',by show r+vs.getD (n+1) 0<_;omega,hdec⟩ (by show g'<g'+1;omega) (.cons J (.cons J (.cons J (.cons J (.cons J (.cons J (.cons J (.cons J (.cons J (.cons J .nil)))))))))) J
  have hgB:g<4294967296:=by omega
  have hgS:g*vs.getD n 0<4294967296*4294967296:=pQ hgB hv2;have e2:(g:Int)*((vs.getD n 0:Nat):Int)=((g*vs.getD n 0:Nat):Int):=J;refine aO J J (c8 J) J<|aO J J (c8 J) J<|aO J J (Ka J J (by rw[e2];omega) (by rw[e2];omega)) J<|aO J J (c8 J) J<|aO J J (xe J J) J<|?_;rw[sP r 32 (by decide) (by omega) J];refine aO J J (c8 J) J<|aO J J (c8 J) J<|aO J J (c8 J) J<|aO J J (dt J J) J<|aO J J (jy J J) J<|?_;refine aO J J (dO J J) J<|?_;rw[show((i:Int)+(v.n:Int)-2).toNat=i+n by omega];refine aO J J (te J) J<|aO J J (gE J) J<|aO J J (jc J J (KE (us.getD (i+n) 0) r 32 (by omega) (by omega))) J<|?_;refine aO J J (q7 J J) J<|sy (gm J J) J<|zE<|?_;rw[e2];refine lB J (fun hc2=>?_) (fun hc2=>?_) -- slot 113
  .refine jl<|dP<|dP<|jg<|?_
   exact qP g ⟨hgB,hlo,HP hUle hVp hv0 hT0 hfg hgB (by omega)⟩ (.cons J (.cons J (.cons J (.cons J (.cons J (.cons J (.cons J (.cons J (.cons J .nil))))))))) J
  have hdec:dv us<g*V:=aGg hUlt hVle hfg (by omega);refine zK<|du<|?_;obtain⟨g',rfl⟩: ∃g',g=g'+1:=⟨g-1,by rcases gU g with h|h;(rw[h,lJ] at hdec;omega);omega⟩;refine sR<|sm J J<|sy (K2 J J) J<|sa J J<|zE<|sR<|sm J J<|sm J J<|sy (rH J J) J<|?_;refine sa J J<|zE<|sR<|sm J J<|sy (m7 J J) J<|?_;rw[show((g'+1:Nat):Int)-1=(g':Nat) by omega,show((r:Int)+((vs.getD (n+1) 0:Nat):Int))=((r+vs.getD (n+1) 0:Nat):Int) from J,uD (r+vs.getD (n+1) 0) 32 (by decide) J];have hfg':f=g'*vs.getD (n+1) 0+(r+vs.getD (n+1) 0):=by rw[hfg,dJ,nX];omega
  refine sy (vP J J) J<|zE<|?_;refine fq J (fun hc3=>?_) (fun hc3=>?_) -- slot 121
  .have hr3:4294967296<=r+vs.getD (n+1) 0:=by omega
   have hgB:g'<4294967296:=by
    rcases jK g' 4294967296 with h|h
    .exact h
    .have:=bL (vs.getD (n+1) 0) h
     omega
   have hgS:g'*vs.getD n 0<=(r+vs.getD (n+1) 0)*4294967296+us.getD (i+n) 0:=by
    have h1:=gX (gR hgB) (gR hv2);omega
   refine jl<|PX J<|dP<|jg<|?_;exact qP g' ⟨hgB,hdec,HP hUle hVp hv0 hT0 hfg' hgB hgS⟩ (.cons J (.cons J (.cons J (.cons J (.cons J (.cons J (.cons J (.cons J (.cons J .nil))))))))) J
  refine zK<|?_;exact i7 ⟨g',r+vs.getD (n+1) 0⟩ ⟨hfg',by show r+vs.getD (n+1) 0<_;omega,hdec⟩ (by show g'<g'+1;omega) (.cons J (.cons J (.cons J (.cons J (.cons J (.cons J (.cons J (.cons J (.cons J (.cons J .nil)))))))))) J
 rintro g Gz _ ⟨hgB,hlo,hhi⟩
 -- SUB
 refine sR<|sa J J<|sa J J<|zE<|bi<|sR<|sm J J<|cB J J<|sm J J<|zE<|du<|?_;refine lx (X:=SQ) (fun q=>[(18, .int .u64 q.c),(17, .int .u64 q.bo),(124, .int .i64 q.k),(123, .int .i64 v.n),(122, .slice v.a v.n v.c),(15, .int .u64 (g:Nat)),(13, .int .i64 i),(7, .slice (some ⟨b4,0,none⟩) (a.length+1) cap),(9, .int .i64 v.n),(10, .int .u64 (vs.getD (n+1) 0:Nat)),(11, .int .u64 (vs.getD n 0:Nat)),(8, .slice v.a v.n v.c),(12, .slice (some ⟨b5,0,none⟩) l l),(6, .int .u64 s)]) (fun q=>[⟨b5,qs.map dI,268,true⟩,⟨b4,q.ws.map dI,268,true⟩])
  (fun q _=>q.ws.length=cap/\bB q.ws/\q.k<=n+2/\q.bo<=1/\q.c<4294967296/\dv q.ws<4294967296^(i+n+3)/\dv q.ws+g*(dv (vs.take q.k)*4294967296^i)=dv us+(q.bo+q.c)*4294967296^(i+q.k)) (fun q=>n+2-q.k) ⟨us,0,0,0⟩
  ⟨hul2,huo2,bZ _,bZ _,by show(0:Nat)<4294967296;decide,hM,by simp[dv]⟩ (.cons J (.cons J (.cons J (.cons J (.cons J (.cons J (.cons J (.cons J (.cons J (.cons J (.cons J (.cons J (.cons J (.cons J .nil)))))))))))))) J ?_
 rintro ⟨ws,k,bo,c⟩ Gy _ ⟨hwl,hwo,hk,hbo,hc4,hwM,hw⟩;simp only[] at hwl hwo hk hbo hc4 hwM hw⊢;refine sR<|sy (gG J J) J<|zE<|bi<|?_;refine lB J (fun hkc=>?_) (fun hkc=>?_) -- slot 125
 .have hkn:k=n+2:=by omega
  subst hkn;rw[aM (by omega),<-hV] at hw;refine jl<|dP<|dP<|jg<|sR<|sm J J<|sm J J<|sm J J<|sy (dt J J) J<|sy (dO J J) J<|?_;rw[show((i:Int)+(v.n:Int)).toNat=i+n+2 by omega];have hwg:=hwo.get (i+n+2);refine sy (te J) J<|sy (gE J) J<|sm J J<|sy (wP J J) J<|sm J J<|sy (wP J J) J<|?_;rw[EQ _ _ _ hwg hc4 hbo];obtain⟨hx1,hx2,hx3⟩:=Me (ws.getD (i+n+2) 0) c bo hwg hc4 hbo;generalize ut (ws.getD (i+n+2) 0) c bo=xx at hx1 hx2 hx3⊢;refine sa J J<|zE<|sR<|sm J J<|sm J J<|sm J J<|sy (dt J J) J<|sm J J<|sy (ly J) J<|sy (dO J J) J<|?_;rw[show((i:Int)+(v.n:Int)).toNat=i+n+2 by omega];refine sc (mr (d:=xx%4294967296) J J (by rw[oM];rfl) (.tl _ _ _ _ _ _ _ _ (.hd ..)) (by omega) J ?_);have hs2:=rC ws (i+n+2) (xx%4294967296) (by omega);have hl2:=W6 hs2 hw hx1;rw[<-uM] at hl2;have hM2:=D9 (i:=i+n+2) (d:=xx%4294967296) hwo (dV _ (by decide)) hwM;have ho2:=hwo.set (i+n+2) (d:=xx%4294967296) (dV _ (by decide));have hn2:(ws.set (i+n+2) (xx%4294967296)).length=cap:=by rw[bY];exact hwl
  generalize ws.set (i+n+2) (xx%4294967296)=ws2 at hl2 hM2 ho2 hn2⊢;replace hl2:dv ws2+g*V=dv us+xx/9223372036854775808*4294967296^(i+n+3):=hl2;have hqset: ∀d,dv (qs.set i d)=dv qs+4294967296^i*d:=fun d=>by
   have:=rC qs i d (by omega);rw[hq0 i (by omega)] at this;simpa using this
  have hqz: ∀d i',i'<i->(qs.set i d).getD i' 0=0:=fun d i' h=>by
   have:=hq0 i' (by omega);simpa[List.getD,mS,show¬i=i' by omega] using this
  have hinv2: ∀d R,R+d*V=dv us->dv a*2^s=R+dv vs*dv (qs.set i d):=fun d R h=>by
   rw[hinv,<-h,hqset,dS,<-cJ,<-hV,cK d];omega
  refine zE<|sR<|sm J J<|sm J J<|sm J J<|sy (ly J) J<|sy (dO J J) J<|?_;rw[aR];refine sc (mr (d:=g) J J (Td g hgB) (.hd ..) (by omega) J ?_);refine zE<|bi<|sR<|sm J J<|sy (m7 J J) J<|?_;rw[uD xx 63 (by decide) J];refine sy (fk J J) J<|zE<|?_;refine fq J (fun ht=>?_) (fun ht=>?_) -- slot 184
  .have ht0:xx/2^63=0:=by omega
   rw[show xx/9223372036854775808=xx/2^63 from J,ht0,lJ,fK] at hl2;refine jl<|dP<|jg<|dl<|sm J J<|sy (jy J J) J<|sa J J<|zE<|?_;exact i7 ⟨ws2,qs.set i g,i⟩ ⟨hn2,ho2,by simpa using hql,hqo.set _ hgB,by show i<=l;omega,hqz g,hinv2 g _ hl2,by show dv ws2<_;rw[<-hV];exact VE hlo hl2⟩ (by show i<i+1;omega) (.cons J (.cons J (.cons J (.cons J (.cons J (.cons J (.cons J (.cons J .nil)))))))) J
  have ht1:xx/9223372036854775808=1:=by
   have:xx/9223372036854775808≠0:=fun h=>ht (by rw[show xx/2^63=xx/9223372036854775808 from J,h];rfl);omega
  rw[ht1,nX] at hl2;obtain⟨g',rfl⟩: ∃g',g=g'+1:=⟨g-1,by rcases gU g with h|h;(rw[h,lJ] at hl2;omega);omega⟩;refine zK<|sR<|sm J J<|sm J J<|sy (dO J J) J<|?_;rw[aR];refine sy (te J (by simp;omega)) J<|?_;rw[show(qs.set i (g'+1)).getD i 0=g'+1 by simp[List.getD,mS,show i<qs.length by omega]];refine sy (wP J J) J<|sy (dO J J) J<|?_;rw[aR];refine sc (mr (d:=g') J J (by rw[qC];omega) (.hd ..) (by simp;omega) J ?_);rw[List.set_set];refine zE<|sR<|sa J J<|zE<|bi<|sR<|sm J J<|cB J J<|sm J J<|zE<|du<|?_;refine lx (X:=SQ) (fun q=>[(18, .int .u64 q.c),(193, .int .i64 q.k),(192, .int .i64 v.n),(191, .slice v.a v.n v.c),(13, .int .i64 i),(7, .slice (some ⟨b4,0,none⟩) (a.length+1) cap),(9, .int .i64 v.n),(10, .int .u64 (vs.getD (n+1) 0:Nat)),(11, .int .u64 (vs.getD n 0:Nat)),(8, .slice v.a v.n v.c),(12, .slice (some ⟨b5,0,none⟩) l l),(6, .int .u64 s)]) (fun q=>[⟨b5,(qs.set i g').map dI,268,true⟩,⟨b4,q.ws.map dI,268,true⟩])
   (fun q _=>q.ws.length=cap/\bB q.ws/\q.k<=n+2/\q.c<=1/\dv q.ws<4294967296^(i+n+3)/\dv q.ws+q.c*4294967296^(i+q.k)=dv ws2+dv (vs.take q.k)*4294967296^i) (fun q=>n+2-q.k) ⟨ws2,0,0,0⟩
   ⟨hn2,ho2,bZ _,bZ _,hM2,by simp[dv]⟩ (.cons J (.cons J (.cons J (.cons J (.cons J (.cons J (.cons J (.cons J (.cons J (.cons J (.cons J (.cons J .nil)))))))))))) J ?_
  rintro ⟨wa,k,_,ca⟩ Gz _ ⟨hal2,hao,hak,hac,haM,ha⟩;simp only[] at hal2 hao hak hac haM ha⊢;refine sR<|sy (gG J J) J<|zE<|bi<|?_;refine lB J (fun hkd=>?_) (fun hkd=>?_) -- slot 194
  .have hkn:k=n+2:=by omega
   subst hkn;rw[aM (by omega),<-hV] at ha;have hag:=hao.get (i+n+2);refine jl<|dP<|dP<|jg<|dl<|sm J J<|sm J J<|sm J J<|sy (dt J J) J<|sy (dO J J) J<|?_;rw[show((i:Int)+(v.n:Int)).toNat=i+n+2 by omega];refine sy (te J) J<|sm J J<|sy (ly J) J<|sy (Wh J J) J<|sy (dO J J) J<|?_;rw[show((i:Int)+(v.n:Int)).toNat=i+n+2 by omega];refine sc (mr (d:=(wa.getD (i+n+2) 0+ca)%4294967296) J J (by rw[qC];omega) (.tl _ _ _ _ _ _ _ _ (.hd ..)) (by omega) J ?_);have hs4:=rC wa (i+n+2) ((wa.getD (i+n+2) 0+ca)%4294967296) (by omega);have hl4:=WJ hs4 ha;rw[<-uM] at hl4;have hM4:=D9 (i:=i+n+2) (d:=(wa.getD (i+n+2) 0+ca)%4294967296) hao (dV _ (by decide)) haM;obtain⟨hR1,hR2⟩:=ZK hhi hl2 hl4 hM2 hM4 (by omega) (Nat.succ_pos _);refine zE<|dl<|sm J J<|sy (jy J J) J<|sa J J<|zE<|?_;exact i7 ⟨wa.set (i+n+2) ((wa.getD (i+n+2) 0+ca)%4294967296),qs.set i g',i⟩ ⟨by simpa using hal2,hao.set _ (dV _ (by decide)),by simpa using hql,hqo.set _ (by omega),by show i<=l;omega,hqz g',hinv2 g' _ hR1,by show dv _<_;rw[<-hV];exact hR2⟩ (by show i<i+1;omega) (.cons J (.cons J (.cons J (.cons J (.cons J (.cons J (.cons J (.cons J .nil)))))))) J
  have hvk:=hvo.get k;have hag:=hao.get (i+k);refine zK<|bi<|du<|sR<|sm J J<|sy (iH hv J J) J<|?_;rw[aR];refine sy (i0 hv J) J<|sa J J<|sa J J<|zE<|bi<|?_;refine dl<|sm J J<|sm J J<|sm J J<|sm J J<|sy (dt J J) J<|sy (dO J J) J<|?_;rw[show((i:Int)+(k:Int)).toNat=i+k by omega];refine sy (te J) J<|sy (gE J) J<|sm J J<|sy (gE J) J<|sy (rH J J) J<|sy (rH J J) J<|?_;rw[show(ca:Int)+(((wa.getD (i+k) 0:Nat):Int)+((vs.getD k 0:Nat):Int))=((ca+(wa.getD (i+k) 0+vs.getD k 0):Nat):Int) from J];refine sa J J<|zE<|sR<|sm J J<|sm J J<|sm J J<|sy (dt J J) J<|sm J J<|sy (ly J) J<|sy (dO J J) J<|?_;rw[show((i:Int)+(k:Int)).toNat=i+k by omega];refine sc (mr (d:=(ca+(wa.getD (i+k) 0+vs.getD k 0))%4294967296) J J (by rw[oM];rfl) (.tl _ _ _ _ _ _ _ _ (.hd ..)) (by omega) J ?_);refine zE<|dl<|sm J J<|sy (m7 J J) J<|?_;rw[uD (ca+(wa.getD (i+k) 0+vs.getD k 0)) 32 (by decide) J];refine sa J J<|zE<|dl<|sy (dt J J) J<|sm J J<|zE<|?_;refine i7 ⟨wa.set (i+k) ((ca+(wa.getD (i+k) 0+vs.getD k 0))%4294967296),k+1,0,(ca+(wa.getD (i+k) 0+vs.getD k 0))/2^32⟩ ⟨by simpa using hal2,hao.set _ (dV _ (by decide)),by show k+1<=_;omega,by show(ca+(wa.getD (i+k) 0+vs.getD k 0))/4294967296<=1;omega,D9 hao (dV _ (by decide)) haM,?_⟩ (by show n+2-(k+1)<n+2-k;omega) (.cons J (.cons J (.cons J (.cons J (.cons J (.cons J (.cons J (.cons J (.cons J (.cons J (.cons J (.cons J .nil)))))))))))) J;show dv (wa.set (i+k) ((ca+(wa.getD (i+k) 0+vs.getD k 0))%4294967296))+((ca+(wa.getD (i+k) 0+vs.getD k 0))/4294967296)*4294967296^(i+k+1)=dv ws2+dv (vs.take (k+1))*4294967296^i
  rw[ju,dJ (dv (vs.take k)),uM,show 4294967296^k*vs.getD k 0*4294967296^i=vs.getD k 0*4294967296^(i+k) by rw[eY,cK (4294967296^k),cJ,cK (4294967296^k)]];exact X3 (rC wa (i+k) _ (by omega)) ha
 have hvk:=hvo.get k;have hwg:=hwo.get (i+k);refine zK<|bi<|du<|sR<|sm J J<|sy (iH hv J J) J<|?_;rw[aR];refine sy (i0 hv J) J<|sa J J<|sa J J<|zE<|bi<|?_;have hgd:g*vs.getD k 0<=4294967295*4294967295:=gX (by omega) (by omega);have e3:(g:Int)*((vs.getD k 0:Nat):Int)=((g*vs.getD k 0:Nat):Int):=J;refine dl<|sm J J<|sm J J<|sm J J<|sy (gE J) J<|sy (Ka J J (by rw[e3];omega) (by rw[e3];omega)) J<|?_;rw[e3];refine sy (rH J J) J<|?_;rw[show(c:Int)+((g*vs.getD k 0:Nat):Int)=((c+g*vs.getD k 0:Nat):Int) from J];obtain⟨c1,hc1⟩: ∃c1,c1=c+g*vs.getD k 0:=⟨_,rfl⟩;rw[<-hc1];have hc1m:c1%4294967296<4294967296:=dV _ (by decide);refine sa J J<|zE<|sR<|sm J J<|sm J J<|sm J J<|sy (dt J J) J<|sy (dO J J) J<|?_;rw[show((i:Int)+(k:Int)).toNat=i+k by omega];refine sy (te J) J<|sy (gE J) J<|sm J J<|sy (jc J J (axV c1 (by omega))) J<|sy (wP J J) J<|sm J J<|sy (wP J J) J<|?_;rw[EQ _ _ _ hwg hc1m hbo];obtain⟨hx1,hx2,hx3⟩:=Me (ws.getD (i+k) 0) (c1%4294967296) bo hwg hc1m hbo;generalize ut (ws.getD (i+k) 0) (c1%4294967296) bo=xx at hx1 hx2 hx3⊢;refine sa J J<|?_;refine zE<|sR<|sm J J<|sm J J<|sm J J<|sy (dt J J) J<|sm J J<|sy (ly J) J<|sy (dO J J) J<|?_;rw[show((i:Int)+(k:Int)).toNat=i+k by omega];refine sc (mr (d:=xx%4294967296) J J (by rw[oM];rfl) (.tl _ _ _ _ _ _ _ _ (.hd ..)) (by omega) J ?_);refine zE<|sR<|sm J J<|sy (m7 J J) J<|?_;rw[uD xx 63 (by decide) J];refine sa J J<|zE<|dl<|sm J J<|sy (m7 J J) J<|?_
 rw[uD c1 32 (by decide) J];refine sa J J<|?_;refine zE<|dl<|sy (dt J J) J<|sm J J<|zE<|?_;refine i7 ⟨ws.set (i+k) (xx%4294967296),k+1,xx/2^63,c1/2^32⟩ ⟨by simpa using hwl,hwo.set _ (dV _ (by decide)),by show k+1<=_;omega,hx2,by show c1/4294967296<_;omega,D9 hwo (dV _ (by decide)) hwM,?_⟩ (by show n+2-(k+1)<n+2-k;omega) (.cons J (.cons J (.cons J (.cons J (.cons J (.cons J (.cons J (.cons J (.cons J (.cons J (.cons J (.cons J (.cons J (.cons J .nil)))))))))))))) J;show dv (ws.set (i+k) (xx%4294967296))+g*(dv (vs.take (k+1))*4294967296^i)=dv us+(xx/9223372036854775808+c1/4294967296)*4294967296^(i+k+1);rw[ju,dJ (dv (vs.take k)),uM,show 4294967296^k*vs.getD k 0*4294967296^i=vs.getD k 0*4294967296^(i+k) by rw[eY,cK (4294967296^k),cJ,cK (4294967296^k)],dS,<-cJ g (vs.getD k 0)];exact Ys (rC ws (i+k) _ (by omega)) hw hc1 hx1
def F0{a b:List Nat}(hx:cj A x a)(hy:cj B y b)[GL A G][GL B G](hb0:0<dv b)
  (hq:dv a/dv b<2^k1)(hr:dv a%dv b<2^k2)(hl:a.length<=112589990684:=by omega)(hl2:b.length<=112589990684:=by omega):
  Fn prog 241 [x.v,y.v] G (fun v G'=> ∃z r:SV,v= .tuple #[z.v,r.v, .bool true]/\gg k1 G' z (dv a/dv b)/\gg k2 G' r (dv a%dv b)):=by
 have hla:=oe a;have hlb:=oe b;have hca:=fun G1 (_:GL A G1)=>jp (G:=G1) hx;have hcb:=fun G1 (_:GL B G1)=>jp (G:=G1) hy;have hxt:=hx.trim;have hyt:=hy.trim;have hna:=dC.trimD a;have hnb:=dC.trimD b;rw[<-kt a,<-kt b] at hq hr⊢;rw[<-kt b] at hb0;generalize trimD a=a' at*;generalize trimD b=b' at*;refine Fn.intro func241 J J ntmps241 J ?_;intro C _ _;refine sR<|sa J J<|sa J J<|sa J J<|zE<|sR<|sm J J<|?_;refine sc (zC J J (hca _ inferInstance) J ?_);rintro _ G1 _ rfl;refine sm J J<|?_;refine sc (zC J J (hcb _ inferInstance) J ?_);rintro _ G2 _ rfl;refine sa J J<|sa J J<|zE<|bi<|du<|sR<|sm J J<|cB J J<|sy (fk J J) J<|sa J J<|zE<|?_;refine fq J (fun hc=>?_) (fun hc=>?_) -- slot 15
 .exfalso
  have:b'=[]:=bM (by omega);rw[this] at hb0;exact absurd hb0 (by simp[dv])
 refine sR<|sm J J<|sm J J<|?_;refine sc (zC J J (LR hxt hyt) J ?_);rintro _ G3 _ rfl;refine sy (gG J J) J<|sa J J<|zE<|?_;refine fq J (fun hc2=>?_) (fun hc2=>?_) -- slot 19
 .have hlt:dv a'<dv b':=by
   unfold gk at hc2;split at hc2
   .assumption
   .split at hc2<;>omega
  refine sR<|sm J J<|?_;refine sc (zC J J (Nt hxt) J ?_);rintro _ G4 _ ⟨z,rfl,hz⟩;refine sa J J<|sa J J<|sa J J<|zE<|cg<|?_;refine zD (.tmp J (.tmp J (.tmp J .nil))) ⟨⟨none,0,0⟩,z,J,?_,?_⟩
  .rw[kU hlt]
   exact⟨by unfold dg;exact .nil _,fX (by decide)⟩
  .rw[gS hlt] at hr⊢
   exact⟨by rw[z8 hxt.ok hna];exact hz,hr⟩
 have hle:dv b'<=dv a':=by
  unfold gk at hc2;split at hc2
  .omega
  .omega
 refine sR<|sm J J<|cB J J<|sy (fk J J) J<|sa J J<|zE<|?_;refine fq J (fun hc3=>?_) (fun hc3=>?_) -- slot 26
 .have hb1:b'.length=1:=by omega
  obtain⟨d,rfl⟩:=List.length_eq_one_iff.1 hb1;have hdv:dv [d]=d:=by simp[dv]
  have hdB:=hyt.ok.head;rw[hdv] at hb0 hq hr⊢;refine sR<|sm J J<|sm J J<|sy (iH (z:=⟨y.a,1,y.c⟩) hyt J J (by omega) (by show(0:Int)<((1:Nat):Int);omega)) J<|sy (i0 (i:=0) hyt J (by simp)) J<|?_;rw[show [d].getD 0 0=d from J];refine sc (zC J J (auR (x:=⟨x.a,a'.length,x.c⟩) hxt hb0 hdB hq (by omega)) J ?_);rintro _ G5 _ ⟨z,rfl,hz⟩;have hmB:dv a'%d<4294967296:=qU (dV _ hb0) hdB;refine sm J J<|sx J J J<|sx J J J<|sa J J<|sa J J<|zE<|sR<|sm J J<|sm J J<|sy (gE J) J<|?_;refine sc (zC J J (IG (by omega)) J ?_);rintro _ G6 _ ⟨r,rfl,hr6⟩;refine sa J J<|sa J J<|sa J J<|zE<|cg<|?_;exact zD (.tmp J (.tmp J (.tmp J .nil))) ⟨z,r,J,hz.up,hr6.mono hr⟩
 have hb2:2<=b'.length:=by omega
 refine zK<|sR<|sm J J<|sm J J<|?_;refine sc (zC J J (Xk (x:=⟨x.a,a'.length,x.c⟩) (y:=⟨y.a,b'.length,y.c⟩) hxt hyt hna hnb hb2 hle hq hr (by omega)) J ?_);rintro _ G7 _ ⟨z,r,rfl,hz,hr7⟩;refine sm J J<|sx J J J<|sx J J J<|sa J J<|sa J J<|zE<|sR<|sm J J<|sm J J<|sa J J<|sa J J<|sa J J<|zE<|?_;refine cg<|?_;exact zD (.tmp J (.tmp J (.tmp J .nil))) ⟨z,r,J,hz,hr7⟩
def lc{u k:Nat}(h:u<2^k):32*(dg u).length<=k+31:=Po (eg u).2.2 (by rw[(eg u).1];exact h)
def gg.dvl{k:Nat}{v:Nat}(_:gg k G x v):dv (dg v)=v:=(eg v).1
structure Tz where
 a:SV
 b:SV
 u:Nat
 v:Nat
def WS{a b:List Nat}{k:Nat}(hx:cj A x a)(hy:cj B y b)[GL A G][GL B G](ha:dv a<2^k0)(hb:dv b<2^k0)(hk0:k0<=1099511627776)
  (hg0:Nat.gcd (dv a) (dv b)<2^k)(hl:a.length<=112589990684)(hl2:b.length<=112589990684):
  Fn prog 240 [x.v,y.v] G (fun v G'=> ∃z:SV,v=z.v/\gg k G' z (Nat.gcd (dv a) (dv b))):=by
 refine Fn.intro func240 J J ntmps240 J ?_;intro C _ _;refine sR<|sa J J<|zE<|sR<|sm J J<|?_;refine sc (zC J J (Kr hx ha) J ?_);rintro _ G1 _ ⟨x1,rfl,hx1⟩;refine sm J J<|?_;refine sc (zC J J (Kr hy hb) J ?_);rintro _ G2 _ ⟨y1,rfl,hy1⟩;generalize dv a=ua at*;generalize dv b=ub at*;refine sa J J<|sa J J<|zE<|bi<|du<|?_;refine lx (X:=Tz) (fun q=>[(0, .slice q.a.a q.a.n q.a.c),(1, .slice q.b.a q.b.n q.b.c)]) (fun _=>[]) (fun q G=>gg k0 G q.a q.u/\gg k0 G q.b q.v/\Nat.gcd q.u q.v=Nat.gcd ua ub) (fun q=>q.v) ⟨x1,y1,ua,ub⟩
  ⟨hx1.up,hy1,J⟩ (.cons J (.cons J .nil)) J ?_
 rintro ⟨p,q,u,v⟩ Gx _ ⟨hp,hq,hgc⟩;simp only[] at hp hq hgc⊢;have hpl:=hp.len;have hql:=hq.len;have hpb:=lc hp.lt;have hqb:=lc hq.lt;refine bi<|sR<|sm J J<|cB J J<|sy (q7 J J) J<|sm J J<|?_;refine iD 19 J (fun hg=>?_) (fun hg=>?_)
 .refine ss J J J J<|ss J J J J<|ss J J J J<|sy (m5 J J) J<|zE<|js J<|zK<|du<|bi<|sR<|sm J J<|?_
  refine cB J J<|sy (fk J J) J<|zE<|?_;refine fq J (fun hc1=>?_) (fun hc1=>?_) -- slot 26
  .refine sR<|sm J J<|sa J J<|zE<|cg<|?_
   have hv0:v=0:=by
    have:dg v=[]:=bM (by omega);have h2:=hq.dvl;rw[this] at h2;exact h2.symm
   have hue:u=Nat.gcd ua ub:=by rw[<-hgc,hv0,nW]
   exact zD (.tmp J .nil) ⟨p,J,by rw[<-hue] at hg0⊢;exact hp.mono hg0⟩
  have hv0:0<v:=iK fun h=>by
   have h1:dg v=[]:=by rw[h];unfold dg;rfl
   rw[h1] at hql;simp only[eX] at hql;omega
  have hm:=dV u hv0;refine zK<|sR<|sm J J<|sm J J<|?_;refine sc (zC J J (F0 (k1:=k0) (k2:=k0) hp.d hq.d (by rw[hq.dvl];exact hv0) (by rw[hp.dvl];exact eK (lK _ _) hp.lt) (by rw[hp.dvl,hq.dvl];exact qU hm hq.lt)) J ?_);rintro _ G3 _ ⟨z,r,rfl,hz,hr⟩;rw[hp.dvl,hq.dvl] at hr;refine sm J J<|sx J J J<|sx J J J<|sx J J J<|sa J J<|sa J J<|sa J J<|zE<|dl<|sm J J<|sm J J<|sa J J<|sa J J<|?_;refine zE<|?_;exact i7 ⟨q,r,v,u%v⟩ ⟨hq.up,hr,by show Nat.gcd v (u%v)=_;rw[<-hgc,jY u,tT v u,jY]⟩ hm (.cons J (.cons J .nil)) J
 refine aO J J (c8 J) J<|aO J J (my J) J<|aO J J (q7 J J) J<|sy (gm J J) J<|zE<|?_;refine lB J (fun hc=>?_) (fun hc=>?_) -- slot 23
 .have small: ∀{w:Nat},(dg w).length<=2->w<18446744073709551616:=fun{w} h=>by
   have h1:=jA (eg w).2.1;rw[(eg w).1] at h1;exact dZ h1 (cS (bR (by decide) h) (by decide))
  have hu64:u<18446744073709551616:=small (by omega);have hv64:v<18446744073709551616:=small (by omega);refine jl<|dP<|dP<|jg<|sR<|sm J J<|?_;refine sc (zC J J (Kb hp.d) J ?_);rintro _ G4 _ rfl;rw[hp.dvl,if_pos hu64];refine sm J J<|sx J J J<|sx J J J<|sa J J<|sa J J<|zE<|sR<|sm J J<|?_;refine sc (zC J J (Kb hq.d) J ?_);rintro _ G5 _ rfl;rw[hq.dvl,if_pos hv64];refine sm J J<|sx J J J<|sx J J J<|sa J J<|sa J J<|zE<|bi<|du<|?_;refine lx (X:=Nat×Nat) (fun q=>[(8, .int .u64 (q.1:Nat)),(10, .int .u64 (q.2:Nat))]) (fun _=>[]) (fun q _=>q.1<18446744073709551616/\q.2<18446744073709551616/\Nat.gcd q.1 q.2=Nat.gcd ua ub) (fun q=>q.2) (u,v)
   ⟨hu64,hv64,hgc⟩ (.cons J (.cons J .nil)) J ?_
  rintro ⟨u1,v1⟩ Gy _ ⟨hu1,hv1,hgc1⟩;simp only[] at hu1 hv1 hgc1⊢;refine bi<|sR<|sm J J<|sy (vP J J) J<|zE<|?_;refine lB J (fun hc5=>?_) (fun hc5=>?_) -- slot 48
  .refine jl<|dP<|dP<|jg<|sR<|sm J J<|?_
   refine sc (zC J J (IG hu1) J ?_);rintro _ G6 _ ⟨z,rfl,hz⟩;refine sa J J<|zE<|cg<|?_;have hv0:v1=0:=by omega
   have hue:u1=Nat.gcd ua ub:=by rw[<-hgc1,hv0,nW]
   exact zD (.tmp J .nil) ⟨z,J,by rw[<-hue] at hg0⊢;exact hz.mono hg0⟩
  have hv0:0<v1:=by omega
  refine zK<|du<|dr (fun _=>false) [(0,true),(1,true),(2,true),(3,true),(4,true),(5,true)] follows (by kernel_rfl)<|dM J J J<|dM J J J<|?_;refine dM J J J<|dy J (fun _=>yw J J) J J<|dA J J J<|dA J J J<|dn<|?_;exact i7 (v1,u1%v1) ⟨hv1,qU (dV _ hv0) hv1,by show Nat.gcd v1 (u1%v1)=_;rw[<-hgc1,jY u1,tT v1 u1,jY]⟩ (by show u1%v1<v1;exact dV _ hv0) (.cons J (.cons J .nil)) J
 refine zK<|du<|bi<|sR<|sm J J<|?_;refine cB J J<|sy (fk J J) J<|zE<|?_;refine fq J (fun hc1=>?_) (fun hc1=>?_) -- slot 26
 .refine sR<|sm J J<|sa J J<|zE<|cg<|?_
  have hv0:v=0:=by
   have:dg v=[]:=bM (by omega);have h2:=hq.dvl;rw[this] at h2;exact h2.symm
  have hue:u=Nat.gcd ua ub:=by rw[<-hgc,hv0,nW]
  exact zD (.tmp J .nil) ⟨p,J,by rw[<-hue] at hg0⊢;exact hp.mono hg0⟩
 have hv0:0<v:=iK fun h=>by
  have h1:dg v=[]:=by rw[h];unfold dg;rfl
  rw[h1] at hql;simp only[eX] at hql;omega
 have hm:=dV u hv0;refine zK<|sR<|sm J J<|sm J J<|?_;refine sc (zC J J (F0 (k1:=k0) (k2:=k0) hp.d hq.d (by rw[hq.dvl];exact hv0) (by rw[hp.dvl];exact eK (lK _ _) hp.lt) (by rw[hp.dvl,hq.dvl];exact qU hm hq.lt)) J ?_);rintro _ G3 _ ⟨z,r,rfl,hz,hr⟩;rw[hp.dvl,hq.dvl] at hr;refine sm J J<|sx J J J<|sx J J J<|sx J J J<|sa J J<|sa J J<|sa J J<|zE<|dl<|sm J J<|sm J J<|sa J J<|sa J J<|?_;refine zE<|?_;exact i7 ⟨q,r,v,u%v⟩ ⟨hq.up,hr,by show Nat.gcd v (u%v)=_;rw[<-hgc,jY u,tT v u,jY]⟩ hm (.cons J (.cons J .nil)) J
structure IV where
 neg:Bool
 a:SV
def IV.v(z:IV):Value:= .agg ⟨[.bool z.neg, .slice z.a.a z.a.n z.a.c]⟩
def zv(neg:Bool)(u:Nat):Int:=if neg then-(u:Int) else u
def sA(neg:Bool)(u:Nat):(zv neg u).natAbs=u:=by cases neg<;>simp[zv]
def aGX(neg:Bool)(u:Nat):zv (!neg) u= -zv neg u:=by cases neg<;>simp[zv]
def Pa(n m:Bool)(u w:Nat):zv (n !=m) (u*w)=zv n u*zv m w:=by cases n<;>cases m<;>simp[zv,Int.neg_mul,Int.mul_neg]
def LZ(neg:Bool)(u:Nat):decide (zv neg u<0)=(neg&&decide (0<u)):=by
 cases neg<;>simp[zv]
def mo(m:Int):zv (decide (m<0)) m.natAbs=m:=by
 unfold zv;by_cases h:m<0<;>simp[h]<;>omega
structure rh (k:Nat) (G:Gh) (z:IV) (m:Int):Prop where
 neg:z.neg=decide (m<0)
 abs:gg k G z.a m.natAbs
def rh.up{k:Nat}{A G:Gh}{z:IV}{m:Int}(h:rh k A z m)[GL A G]:rh k G z m:=⟨h.neg,h.abs.up⟩
def Xf(n:Bool)(u w:Nat):zv n (u+w)=zv n u+zv n w:=by cases n<;>simp[zv]<;>omega
def JM(p:Int):IntKind.i64.wrap p=(p+9223372036854775808)%18446744073709551616-9223372036854775808:=by
 have e:IntKind.i64.wrap p=if(true&&decide (p%2^64>=2^(64-1)))=true then p%2^64-2^64 else p%2^64:=J
 rw[e,show(2:Int)^64=18446744073709551616 by decide,show(2:Int)^(64-1)=9223372036854775808 by decide,pN];by_cases h:p%18446744073709551616>=9223372036854775808
 .rw[decide_eq_true h,if_pos J];omega
 .rw[decide_eq_false h,if_neg (by decide)];omega
structure RV where
 n:Int
 d:Int
 p:Option Addr
def RV.v(z:RV):Value:= .agg ⟨[.int .i64 z.n, .int .i64 z.d, .pointer z.p]⟩
def aF6{neg:Bool}{u g:Nat}(h:g∣u):zv neg (u/g)=zv neg u/(g:Int):=by
 cases neg
 .simp[zv]
 .simp only[zv,if_true]
  rw[Int.neg_ediv_of_dvd (rM.2 h),qR]
def Qj{m:Int}(he:0<e):(mkRat m e).num=m/((Nat.gcd m.natAbs e:Nat):Int)/\(mkRat m e).den=e/Nat.gcd m.natAbs e:=by
 rw[Rat.num_mkRat,Rat.den_mkRat,if_neg (by omega),if_neg (by omega),jY];exact⟨J,J⟩
def aD5{x:Nat}:(((bl x:Nat):Int)<=62)↔x<4611686018427387904:=by
 have:bl x<=62↔x<2^62:=pi;omega

def XL{x y:Nat}(hx:x<18446744073709551616)(hy:y<18446744073709551616):Fn prog 229 [.int .u64 (x:Nat), .int .u64 (y:Nat)] G (fun v _=>v= .tuple #[.int .u64 ((x*y/18446744073709551616:Nat):Int), .int .u64 ((x*y%18446744073709551616:Nat):Int)]):=
 Fn.of_calls (G:=G) (Rx func229 J J) (fun w=>Tryz.bits_Mul64 x y hx hy w)
def Rg(a b:Int):a*b=if(a<0)↔(b<0) then((a.natAbs*b.natAbs:Nat):Int) else-((a.natAbs*b.natAbs:Nat):Int):=by
 rcases(by omega:a<0\/0<=a) with h|h<;>rcases(by omega:b<0\/0<=b) with h2|h2
 .rw[if_pos (by simp[h,h2]),jU,lS (qT h),lS (qT h2),Int.neg_mul_neg]
 .rw[if_neg (by simp[h];omega),jU,lS (qT h),oJ h2,Int.neg_mul,Int.neg_neg]
 .rw[if_neg (by simp[h2];omega),jU,oJ h,lS (qT h2),Int.mul_neg,Int.neg_neg]
 .rw[if_pos (by constructor<;>intro<;>omega),jU,oJ h,oJ h2]
def awZ{p:Int}(h:p.natAbs<9223372036854775808):IntKind.i64.wrap p=p:=by rw[JM];omega

def Yp{n:Int}{d:Nat}(h:n<0):mkRat (-(d:Int)) n.natAbs=Rat.divInt (d:Int) n:=by
 rw[<-Rat.divInt_ofNat,lS (qT h),Rat.neg_divInt_neg]
def Qw(h:q.num<0):(q⁻¹).num= -(q.den:Int)/\(q⁻¹).den=q.num.natAbs:=by
 rw[Rat.num_inv,Rat.den_inv,if_neg (by omega),fZ h];omega
def Sj(h:0<q.num):(q⁻¹).num=(q.den:Int)/\(q⁻¹).den=q.num.natAbs:=by
 rw[Rat.num_inv,Rat.den_inv,if_neg (by omega),fS h];omega
end Go.Sx
end
section
namespace Go.Sx
open Go
variable {P:Program}{ops:Array Oper}{Q:Exit->Act->World->Prop}{fin:Nat->Bool}{k n:Nat}{π₂ π:List (Nat×Bool)}
section
variable {S:World->Prop}
end
section
variable {C:aD}{fr:Fr}{own own0:List av}{G G0:Gh}
def fF(d:Nat):Option Nat->Fr
 |none=>[]
 |some b=>[(d, .pointer (some ⟨b,0,none⟩))]
def fO(t:TypeId)(z:Value):Option Nat->List av
 |none=>[]
 |some b=>[⟨b,aE z,t,true⟩]
end
end Go.Sx
end
section
namespace Go.Sx
open Go Go.Proofs
def DW{q:Rat}(h:q.den=1:=by omega):q=(q.num:Int):=by
 conv=>lhs;rw[<-sV q,h,sN]
def bA(a b:Rat):Int:=if a<b then-1 else if b<a then 1 else 0
def KM(a b:Rat):(a-b).num<0↔a<b:=by
 rw[<-Rat.not_le,Rat.le_iff_sub_nonneg,<-sW];omega
def Ti(a b:Rat):0<(a-b).num↔b<a:=by
 have h:=KM b a;have h2:(b-a).num= -(a-b).num:=by rw[<-oK,Rat.neg_sub]
 rw[h2] at h;rw[<-h];omega
def Dz(a b:Rat):Int.sign (a-b).num=bA a b:=by
 unfold bA;split
 .rename_i h;exact fZ ((KM a b).2 h)
 .rename_i h
  split
  .rename_i h2;exact fS ((Ti a b).2 h2)
  .rename_i h2
   rw[<-KM] at h;rw[<-Ti] at h2;rw[show(a-b).num=0 by omega];rfl
def OZ{a b:Rat}(h:a.den=b.den:=by omega):a<b↔a.num<b.num:=by
 rw[Rat.lt_iff,h];have:(0:Int)<b.den:=by have:=b.den_pos;omega
 exact⟨fun h2=>Int.lt_of_mul_lt_mul_right h2 (qT this),fun h2=>Int.mul_lt_mul_of_pos_right h2 this⟩
def vx(a b:Rat):bA a b=0↔a=b:=by
 unfold bA;constructor
 .intro h
  split at h
  .omega
  .rename_i h1
   split at h
   .omega
   .rename_i h2
    exact Rat.le_antisymm (Rat.not_lt.1 h2) (Rat.not_lt.1 h1)
 .intro h
  subst h;rw[if_neg (Rat.not_lt.2 iS),if_neg (Rat.not_lt.2 iS)]
def PT(a b:Rat):0<bA a b↔b<a:=by
 unfold bA;constructor
 .intro h
  split at h
  .omega
  .split at h
   .assumption
   .omega
 .intro h
  rw[if_neg (fun h2=>Rat.not_lt.2 (cM h) h2),if_pos h];decide
def QA(a b:Rat):bA a b<0↔a<b:=by
 unfold bA;constructor
 .intro h
  split at h
  .assumption
  .split at h<;>omega
 .intro h
  rw[if_pos h];decide
def rgcd(a b:Rat):Rat:=mkRat ((Nat.gcd (a.num.natAbs*b.den) (b.num.natAbs*a.den):Nat):Int) (a.den*b.den)
def Cg(a b:Int):rgcd a b=((Nat.gcd a.natAbs b.natAbs:Nat):Int):=by
 unfold rgcd;show mkRat ((Nat.gcd (a.natAbs*1) (b.natAbs*1):Nat):Int) (1*1)=_;rw[fV,fV,fV,sN]
def FP{a b m:Nat}(ha:a<m)(hb:b<m):Nat.gcd a b<m:=by
 rcases gU a with h|h
 .rw[h,Nat.gcd_zero_left];exact hb
 .exact eK (Nat.gcd_le_left _ h) ha
structure LV where
 a:RV
 b:RV
 c:RV
def LV.v(z:LV):Value:= .agg ⟨[.int .i64 z.a.n, .int .i64 z.a.d, .pointer z.a.p, .int .i64 z.b.n, .int .i64 z.b.d, .pointer z.b.p, .int .i64 z.c.n, .int .i64 z.c.d, .pointer z.c.p]⟩
structure aa where
 a:Int
 b:Int
 c:Int
def aa.ok(l:aa):Prop:= ¬(l.a=0/\l.b=0)/\Nat.gcd (Nat.gcd l.a.natAbs l.b.natAbs) l.c.natAbs=1
structure PV where
 x:RV
 y:RV
def PV.v(z:PV):Value:= .agg ⟨[.int .i64 z.x.n, .int .i64 z.x.d, .pointer z.x.p, .int .i64 z.y.n, .int .i64 z.y.d, .pointer z.y.p]⟩
structure ah where
 x:Rat
 y:Rat
def F7(a:Int): -(a:Rat)=((-a:Int):Rat):=rfl
def aa.rev(l:aa):aa:=⟨-l.a, -l.b, -l.c⟩
def aa.nor(l:aa):ah:=⟨l.a,l.b⟩
def aa.dir(l:aa):ah:=⟨l.b, -(l.a:Rat)⟩
def ah.dot(p q:ah):Rat:=p.x*q.x+p.y*q.y
def ah.cross(p q:ah):Rat:=p.x*q.y-p.y*q.x
def ah.scale(p:ah)(c:Rat):ah:=⟨p.x*c,p.y*c⟩
def ah.add(p q:ah):ah:=⟨p.x+q.x,p.y+q.y⟩
def aa.value(l:aa)(p:ah):Rat:=l.nor.dot p+(l.c:Rat)
def aa.base(l:aa):ah:=l.nor.scale (-(l.c:Rat)/l.nor.dot l.nor)
def aa.at(l:aa)(t:Rat):ah:=l.base.add (l.dir.scale t)
end Go.Sx
end
section
namespace Go.Sx
open Go
instance:DecidableEq aa:=fun x y=>decidable_of_iff (x.a=y.a/\x.b=y.b/\x.c=y.c) (by
 cases x;cases y;simp)
structure ao where
 lo:Rat
 hi:Rat
 nl:Bool
 nh:Bool
def ao.all:ao:=⟨0,0,true,true⟩
def ao.empty(v:ao):Bool:=!v.nl&&(!v.nh&&decide (0<=bA v.lo v.hi))
def ao.meet(v w:ao):ao:=
 ⟨if v.nl then w.lo else if w.nl then v.lo else if v.lo<w.lo then w.lo else v.lo,
  if v.nh then w.hi else if w.nh then v.hi else if w.hi<v.hi then w.hi else v.hi,v.nl&&w.nl,v.nh&&w.nh⟩
def ao.sample(v:ao):Rat:=if v.nl&&v.nh then 0 else if v.nl then v.hi-1 else if v.nh then v.lo+1 else(v.lo+v.hi)*mkRat 1 2
def aa.cutK(l m:aa):Rat:=m.nor.dot l.dir
def aa.cutC(l m:aa):Rat:=m.value l.base
def aa.cutV(l:aa)(v:ao)(m:aa):ao:=
 if Int.sign (l.cutK m).num=0 then v
 else if Int.sign (l.cutK m).num=1 then v.meet ⟨-(l.cutC m/l.cutK m),0,false,true⟩
 else v.meet ⟨0, -(l.cutC m/l.cutK m),true,false⟩
def aa.cutB(l:aa)(v:ao)(m:aa):Bool:=
 if Int.sign (l.cutK m).num=0 then decide (0<Int.sign (l.cutC m).num) else !(l.cutV v m).empty
structure bz where
 l:aa
 v:ao
abbrev ar:=List bz
def ot(l:aa):ar->ao->Option ao
 |[],v=>some v
 |s::t,v=>if l.cutB v s.l then ot l t (l.cutV v s.l) else none
def kw(c:ar)(l:aa):Option ao:=ot l c ao.all
def ou(l:aa)(s:bz):Int:=Int.sign (l.value (s.l.at s.v.sample)).num
def oI(l:aa):ar->Int
 |[]=> -1
 |s::t=>if ou l s≠0 then ou l s else if s.l=l then 1 else oI l t
def wD(c:ar)(l:aa):Int:=if(kw c l).isSome then 0 else oI l c
def ah.half(p:ah):Int:=
 if 0<Int.sign p.y.num\/(Int.sign p.y.num=0/\0<Int.sign p.x.num) then 1 else if Int.sign p.y.num<0\/Int.sign p.x.num<0 then 2 else 0
def gi(u v:ah):Int:=if u.half<v.half then-1 else if v.half<u.half then 1 else-(Int.sign (u.cross v).num)
def d6(l:aa):ar->ar
 |[]=>[]
 |s::t=>if s.l.cutB s.v l then⟨s.l,s.l.cutV s.v l⟩::d6 l t else d6 l t
def f8(p:Nat->Bool)(i j:Nat):Nat:=
 if h:i<j then(if p ((i+j)/2) then f8 p ((i+j)/2+1) j else f8 p i ((i+j)/2)) else i
termination_by j-i
def ji(c:ar)(l:aa)(i:Nat):Bool:=match c[i]? with
 |some s=>decide (gi s.l.dir l.dir<0)
 |none=>false
def l5(c:ar)(l:aa)(v:ao):ar:=
 c.take (f8 (ji c l) 0 c.length)++⟨l,v⟩::c.drop (f8 (ji c l) 0 c.length)
def bC(c:ar)(l:aa):ar:=match kw c l with
 |some v=>l5 (d6 l c) l v
 |none=>c
def co(c:ar)(l:aa):Bool:=match kw c l with
 |some _=>true
 |none=>decide (0<wD c l)
def DP(p:Nat->Bool): ∀(d i j:Nat),j-i<=d->i<=j->i<=f8 p i j/\f8 p i j<=j
 |0,i,j,h,hij=>by
  rw[f8,dif_neg (by omega)];omega
 |d+1,i,j,h,hij=>by
  rw[f8];split
  .split
   .have:=DP p d ((i+j)/2+1) j (by omega) (by omega);omega
   .have:=DP p d i ((i+j)/2) (by omega) (by omega);omega
  .omega
def M1(l:aa): ∀c:ar,(d6 l c).length<=c.length
 |[]=>bX _
 |s::t=>by
  have:=M1 l t;unfold d6;split<;>simp<;>omega
def azN(c:ar)(l:aa)(v:ao):(l5 c l v).length=c.length+1:=by
 have:=(DP (ji c l) c.length 0 c.length (by omega) (by omega)).2;simp[l5];omega
def tq(c:ar)(l:aa):(bC c l).length<=c.length+1:=by
 unfold bC;split
 .rw[azN];have:=M1 l c;omega
 .omega
inductive Tr where
 |leaf (b:Bool)
 |node (l:aa) (x y:Tr)
def Tr.isLeaf:Tr->Bool
 | .leaf _=>true
 | .node .. =>false
def Tr.code:Tr->Bool
 | .leaf b=>b
 | .node .. =>false
def Tr.depth:Tr->Nat
 | .leaf _=>0
 | .node _ x y=>1+max x.depth y.depth
def Tr.size:Tr->Nat
 | .leaf _=>0
 | .node _ x y=>1+x.size+y.size
def Tr.joinQ(l:aa)(x y:Tr):Tr:=if x.isLeaf&&(y.isLeaf&&(x.code==y.code)) then x else .node l x y
def Tr.restrict:Tr->ar->Tr
 | .leaf b,_=> .leaf b
 | .node l x y,c=>if !co c l.rev then x.restrict c else if !co c l then y.restrict c else joinQ l (x.restrict (bC c l)) (y.restrict (bC c l.rev))
def Tr.parts:Tr->ar->List (Bool×ar)
 | .leaf b,c=>[(b,c)]
 | .node l x y,c=>(if co c l then x.parts (bC c l) else [])++(if co c l.rev then y.parts (bC c l.rev) else [])
def Tr.all(p:aa->Prop):Tr->Prop
 | .leaf _=>True
 | .node l x y=>p l/\x.all p/\y.all p
structure NQ where
 l:aa
 a:Int
 b:Int
def rE(b:Bool):Int:=if b then-2 else-1
def Tr.num:Tr->Nat->Int
 | .leaf b,_=>rE b
 | .node ..,n=>n
def Tr.wr:Tr->Nat->List NQ
 | .leaf _,_=>[]
 | .node l x y,n=>⟨l,x.num (n+1),y.num (n+1+x.size)⟩::x.wr (n+1)++y.wr (n+1+x.size)
def Tr.wr_len: ∀(t:Tr) (n:Nat),(t.wr n).length=t.size
 | .leaf _,n=>rfl
 | .node l x y,n=>by
  have h1:=Tr.wr_len x (n+1);have h2:=Tr.wr_len y (n+1+x.size);simp[Tr.wr,Tr.size,h1,h2];omega
def Tr.joinQ_cases(l:aa)(x y:Tr):(Tr.joinQ l x y=x/\x.isLeaf=true)\/(Tr.joinQ l x y= .node l x y/\ ¬(x.isLeaf=true/\y.isLeaf=true/\x.code=y.code)):=by
 unfold Tr.joinQ;split
 .rename_i h
  simp at h;exact .inl ⟨J,h.1⟩
 .rename_i h
  simp at h;exact .inr ⟨J,fun⟨a,b,c⟩=>h a b c⟩
def Tr.restrict_depth: ∀(t:Tr) (c:ar),(t.restrict c).depth<=t.depth
 | .leaf b,c=>bX _
 | .node l x y,c=>by
  unfold Tr.restrict;split
  .have:=x.restrict_depth c;simp only[Tr.depth];omega
  .split
   .have:=y.restrict_depth c;simp only[Tr.depth];omega
   .have h1:=x.restrict_depth (bC c l)
    have h2:=y.restrict_depth (bC c l.rev);rcases Tr.joinQ_cases l (x.restrict (bC c l)) (y.restrict (bC c l.rev)) with⟨h,_⟩|⟨h,_⟩
    .rw[h];simp only[Tr.depth];omega
    .rw[h];simp only[Tr.depth];omega
def Tr.restrict_all(p:aa->Prop): ∀(t:Tr) (c:ar),t.all p->(t.restrict c).all p
 | .leaf b,c,_=>trivial
 | .node l x y,c,h=>by
  obtain⟨h0,h1,h2⟩:=h;unfold Tr.restrict;split
  .exact x.restrict_all p c h1
  .split
   .exact y.restrict_all p c h2
   .rcases Tr.joinQ_cases l (x.restrict (bC c l)) (y.restrict (bC c l.rev)) with⟨h,_⟩|⟨h,_⟩
    .rw[h];exact x.restrict_all p _ h1
    .rw[h];exact⟨h0,x.restrict_all p _ h1,y.restrict_all p _ h2⟩
end Go.Sx
end
