/- Part 4 of a proof. -/
import Derived.Test.YtfccecinjmbfhaaGreatDoorMb3
set_option linter.unusedSimpArgs false
set_option maxHeartbeats 2000000
set_option maxRecDepth 100000
set_option linter.unusedVariables false
section
namespace Go.Sx
open Go Go.Proofs Tryz
theorem aCa{V n:Nat}(h1:4294967296^(n-1)≤V)(h2:V<4294967296^n)(hn:0<n):(dg V).length=n:=by
 obtain⟨e,hk,hr⟩:=aaE V
 have hne:dg V≠[]:=fun h=>by
  rw[h] at e
  have:0<4294967296^(n-1):=dJ (by decide)
  simp[dv] at e;omega
 have h3:=afO hr hne
 have h4:=aee hk
 rw[e] at h3 h4
 have h5:=(mW (a:=4294967296) (by decide)).1 (fX h3 h2)
 have h6:=(mW (a:=4294967296) (by decide)).1 (fX h1 h4)
 omega
theorem auk{t s:Nat}(h0:0<t)(ht:t<4294967296)(hs:s=32-bl t):s<32∧2147483648≤t*2^s∧(t+1)*2^s≤4294967296:=by
 have h1:bl t≤32:=ahq.2 ht
 have h2:bl t≠0:=fun h=>by
  have:=avJ t
  rw[h] at this;omega
 have h3:=avJ t
 have h4: ¬t<2^(bl t-1):=fun h=>by
  have:=ahq.2 h
  omega
 have e1:2^(bl t-1)*2^s=2147483648:=by rw[←eK,show bl t-1+s=31 by omega]
 have e2:2^bl t*2^s=4294967296:=by rw[←eK,show bl t+s=32 by omega]
 refine⟨by omega,?_,?_⟩
 ·rw[←e1];exact bV _ (by omega)
 ·rw[←e2];exact bV _ h3
theorem aEe{us:List Nat}(h:DOk us)(i:Nat)(hd:us.length=i+1):dv us=us.getD i 0*4294967296^i+dv (us.take i):=by
 have h0:dv (us.drop (i+1))=0:=by rw[dW (by omega)];rfl
 rw[aeh us i,afv us i,h0,jX,bT];rfl
theorem at6{b:List Nat}(h:Nrm b)(i:Nat)(hi:b.length=i+1):0<b.getD i 0:=by
 rcases fQ (b.getD i 0) with h0|h0
 ·exfalso
  apply h
  rw[kV,hi,show i+1-1=i from rfl]
  rw[List.getD,aQ (by omega)] at h0
  rw[aQ (by omega)]
  simpa using h0
 ·exact h0
theorem au3(a:List Nat)(k:Nat):dv (a++List.replicate k 0)=dv a:=by rw[ad5,acs];simp
structure azN where
 us:List Nat
 qs:List Nat
 j:Nat
structure auX where
 g:Nat
 r:Nat
structure aBH where
 ws:List Nat
 k:Nat
 bo:Nat
 c:Nat
theorem avj{P:Program}{t:TypeId}(c:Nat)(h:c<18446744073709551616)(w:World):(binOp .and t (.int .u64 (c:Int)) (.int .u64 4294967295)).run P w= .ok (.int .u64 ((c%4294967296:Nat):Int)) w:=by
 have h1:(BitVec.ofInt 64 (c:Int) &&& BitVec.ofInt 64 4294967295).toNat=c%4294967296:=by
  rw[BitVec.toNat_and,BitVec.ofInt_natCast,BitVec.toNat_ofNat,fK (by omega),show(BitVec.ofInt 64 4294967295).toNat=2^32-1 from rfl,Nat.and_two_pow_sub_one_eq_mod]
 have h2:IntKind.u64.wrap ((c%4294967296:Nat):Int)=((c%4294967296:Nat):Int):=by rw[abQ];omega
 simp only[binOp]
 show(Op.intBits .and .u64 (c:Int) 4294967295).run P w=_
 unfold Op.intBits
 show(pure (Value.int .u64 (IntKind.u64.wrap ((BitVec.ofInt 64 (c:Int) &&& BitVec.ofInt 64 4294967295).toNat:Int))):Sem Value).run P w=_
 rw[h1,h2,aap]
def msx(u m bo:Nat):Nat:=if m+bo≤u then u-(m+bo) else u+18446744073709551616-(m+bo)
theorem aDw(u m bo:Nat)(hu:u<4294967296)(hm:m<4294967296)(hb:bo≤1):IntKind.u64.wrap (IntKind.u64.wrap ((u:Int)-(m:Int))-(bo:Int))=((msx u m bo:Nat):Int):=by
 rw[abQ,abQ]
 unfold msx
 split<;>omega
theorem aoO(u m bo:Nat)(hu:u<4294967296)(hm:m<4294967296)(hb:bo≤1):msx u m bo%4294967296+(m+bo)=u+msx u m bo/9223372036854775808*4294967296∧msx u m bo/9223372036854775808≤1∧msx u m bo<18446744073709551616:=by
 unfold msx
 split<;>omega
theorem auz{A B G:Gh}{x y:SV}{a b:List Nat}{k1 k2:Nat}(hx:IsD A x a)(hy:IsD B y b)[GL A G][GL B G](hna:Nrm a)(hnb:Nrm b)(hb2:2≤b.length)(hle:dv b≤dv a)
  (hq:dv a/dv b<2^k1)(hr:dv a%dv b<2^k2)(hl:a.length≤112589990684):
  Fn prog 259 [x.v,y.v] G (fun v G'=> ∃z r:SV,v= .tuple #[z.v,r.v]∧IsN k1 G' z (dv a/dv b)∧IsN k2 G' r (dv a%dv b)):=by
 have hxl:=hx.len
 have hyl:=hy.len
 obtain⟨n,hn⟩: ∃n,b.length=n+2:=⟨b.length-2,by omega⟩
 have hbp:0<dv b:=iQ fun h=>by
  rw[au2 hnb] at h
  rw[h] at hn;simp at hn
 have hnm:b.length≤a.length:=by
  rcases gN a.length b.length with h|h
  ·have:=acv hx.ok hnb h
   omega
  ·exact h
 have htp:=at6 hnb (n+1) hn
 have htl:=hy.ok.get (n+1)
 have hbv:=aEe hy.ok (n+1) hn
 have hbt:=afz hy.ok (n+1)
 obtain⟨s,hs⟩: ∃s,s=32-bl (b.getD (n+1) 0):=⟨_,rfl⟩
 obtain⟨hs32,hs1,hs2⟩:=auk htp htl hs
 have hble:bl (b.getD (n+1) 0)≤32:=ahq.2 htl
 have hpn:0<4294967296^(n+1):=dJ (by decide)
 have hps:0<2^s:=dJ (by decide)
 have hV1:2147483648*4294967296^(n+1)≤dv b*2^s:=by
  refine cJ (bV _ hs1) ?_
  rw[bR,bT (2^s),←bR]
  exact bV _ (by omega)
 have hV2:dv b*2^s<4294967296^(n+2):=by
  refine cM (jM (k:=2^s) (m:=(b.getD (n+1) 0+1)*4294967296^(n+1)) (by rw[cY,nV];omega) hps) ?_
  rw[bR,bT (4294967296^(n+1)),←bR,axy (n+1),bT _ 4294967296]
  exact bV _ hs2
 have hVl:(dg (dv b*2^s)).length=n+2:=aCa (by show 4294967296^(n+1)≤_;omega) hV2 (by omega)
 have hal:=aee hx.ok
 have hU2:dv a*2^s<4294967296^(a.length+1):=by
  rw[axy]
  exact nQ hal (cM (Nat.pow_lt_pow_right (by decide) hs32) (by decide))
 have hUl1:(dg (dv a*2^s)).length≤a.length+1:=by
  have h1:=aum (aaE (dv a*2^s)).2.2 (k:=32*(a.length+1)) (by rw[(aaE _).1,oY];exact hU2)
  omega
 have hUl0:a.length≤(dg (dv a*2^s)).length:=by
  have hane:a≠[]:=fun h=>by
   have:=congrArg List.length h
   simp only[fY] at this;omega
  have h1:=afO hna hane
  have h2:=aee (aaE (dv a*2^s)).2.1
  rw[(aaE _).1] at h2
  have h3:dv a≤dv a*2^s:=mM _ hps
  have h4:=(mW (a:=4294967296) (by decide)).1 (fX (cJ h1 h3) h2)
  omega
 have hU3:dv a*2^s<dv b*2^s*4294967296^(a.length-n-1):=by
  have h1:4294967296^(n+1)*4294967296^(a.length-n-1)=4294967296^a.length:=by rw[←eK,show n+1+(a.length-n-1)=a.length by omega]
  refine cM (jM hal hps) (cJ (dY _ (bK (by decide) (show s≤31 by omega))) ?_)
  rw[←h1,bT,←bR]
  exact bV _ hV1
 have hta:=amR hna
 have htb:=amR hnb
 refine Fn.intro func259 J J ntmps259 rfl ?_
 intro C _ _
 refine sR<|sa J J<|sa J J<|zE<|av6<|sR<|sm J J<|sm J J<|ac9 J J<|sy (aa8 J J) rfl<|?_
 refine sy (abR hy J J (by omega) (by omega)) rfl<|?_
 rw[show((y.n:Int)-1).toNat=n+1 by omega]
 refine sy (abS hy rfl (by omega)) rfl<|?_
 refine sc (zC J J (aiK htl) rfl ?_)
 rintro _ G1 _ rfl
 refine sy (aaL rfl) rfl<|?_
 rw[show(32-(bl (b.getD (n+1) 0):Int))=(s:Int) by omega]
 refine sa J J<|zE<|sR<|sm J J<|sm J J<|?_
 refine sc (zC J J (ar8 (kk:=32*(a.length+1)) hx hs32 (by rw[oY];exact hU2) (by omega)) rfl ?_)
 rintro _ G2 _ ⟨u,rfl,hu,huc⟩
 have hul:=hu.len
 rw[hta] at huc
 refine sc (ak2 (by rfl) (by rfl) (by rfl) (by rfl) rfl ?_)
 intro b3
 refine sc (acX (z:= .int .u32 0) (m:=2) J J (aBb hu.d) (ajB inferInstance rfl) (by omega) (by decide) (by omega) rfl ?_)
 intro b4 cap h1
 have ecs:(dg (dv a*2^s)).map dI++[Value.int .u32 0, .int .u32 0]++abC (.int .u32 0) (cap-(u.n+2))=(dg (dv a*2^s)++List.replicate (cap-u.n) 0).map dI:=by
  rw[adK,show cap-u.n=(cap-(u.n+2))+1+1 by omega,lZ,lZ]
  simp[dI]
 rw[ecs]
 clear ecs
 have hus:dv (dg (dv a*2^s)++List.replicate (cap-u.n) 0)=dv a*2^s:=by rw[au3,(aaE _).1]
 have huo:DOk (dg (dv a*2^s)++List.replicate (cap-u.n) 0):=(aaE _).2.1.append (.replicate _)
 have hulen:(dg (dv a*2^s)++List.replicate (cap-u.n) 0).length=cap:=by simp;omega
 generalize dg (dv a*2^s)++List.replicate (cap-u.n) 0=us0 at hus huo hulen⊢
 refine sm J J<|ac9 J J<|sy (aar J J) rfl<|sy (adE J J (by omega) (by omega)) rfl<|sa J J<|zE<|sR<|sm J J<|?_
 refine sm J J<|?_
 refine sc (zC J J (ar8 (kk:=32*(n+2)) hy hs32 (by rw[oY];exact hV2) (by omega)) rfl ?_)
 rintro _ G4 _ ⟨v,rfl,hv,_⟩
 have hvl:=hv.len
 obtain⟨hvv,hvo,hvn⟩:=aaE (dv b*2^s)
 replace hv:=hv.d
 rw[hVl] at hvl
 generalize hvs:dg (dv b*2^s)=vs at*
 refine sa J J<|zE<|sR<|sm J J<|ac9 J J<|sa J J<|zE<|aaj<|dr (fun _=>false) [(0,true),(1,true),(2,true),(3,true),(4,true),(5,true),(6,true),(7,true),(8,true),(9,true),(10,true),(11,true),(12,true),(13,true)] follows (by kernel_rfl)<|?_
 refine dM J J J<|dM J J J<|dy rfl (fun _=>aa8 J J (by omega) (by omega)) J J<|dy rfl (fun _=>abR hv J J (by omega) (by omega)) J J<|?_
 rw[show((v.n:Int)-1).toNat=n+1 by omega]
 have hvt:=hvo.get (n+1)
 have hv2:=hvo.get n
 refine dy rfl (fun _=>abS hv rfl (by omega)) J J<|dy rfl (fun _=>aaL rfl (by omega) (by omega)) J J<|dM J J J<|dM J J J<|?_
 refine dy rfl (fun _=>aa8 J J (by omega) (by omega)) J J<|dy rfl (fun _=>abR hv J J (by omega) (by omega)) J J<|?_
 rw[show((v.n:Int)-2).toNat=n by omega]
 refine dy rfl (fun _=>abS hv rfl (by omega)) J J<|?_
 refine dy rfl (fun _=>aaL rfl (by omega) (by omega)) J J<|dA J J J<|dA J J J<|dn<|sR<|sm J J<|?_
 refine ac9 J J<|sm J J<|sy (aa8 J J) rfl<|?_
 obtain⟨l,hlq⟩: ∃l,a.length=n+1+l:=⟨a.length-n-1,by omega⟩
 rw[show a.length-n-1=l by omega] at hU3
 rw[show(((x.n:Int)+1).toNat:Int)-v.n=(l:Nat) by omega,show((x.n:Int)+1).toNat=a.length+1 by omega]
 refine sc (aes J J (by omega) (by omega) (by omega) (by rfl) rfl ?_)
 intro b5
 rw[adK,bZ]
 refine ays [_,_] (.cons_cons _ (.cons_cons _ (.cons _ .slnil))) ?_
 refine sa J J<|zE<|aaj<|auM<|aaj<|sR<|sm J J<|ac9 J J<|sy (aa8 J J) rfl<|sa J J<|zE<|aat<|?_
 refine ab8 (X:=azN) (fun q=>[(13, .int .i64 ((q.j:Int)-1)),(7, .slice (some ⟨b4,0,none⟩) (a.length+1) cap),(9, .int .i64 v.n),(10, .int .u64 (vs.getD (n+1) 0:Nat)),(11, .int .u64 (vs.getD n 0:Nat)),(8, .slice v.a v.n v.c),(12, .slice (some ⟨b5,0,none⟩) l l),(6, .int .u64 s)])
  (fun q=>[⟨b5,q.qs.map dI,256,true⟩,⟨b4,q.us.map dI,256,true⟩])
  (fun q _=>q.us.length=cap∧DOk q.us∧q.qs.length=l∧DOk q.qs∧q.j≤l∧(∀i,i<q.j→q.qs.getD i 0=0)∧dv a*2^s=dv q.us+dv vs*dv q.qs∧dv q.us<dv vs*4294967296^q.j) (fun q=>q.j) ⟨us0,List.replicate l 0,l⟩
  ⟨hulen,huo,by simp, .replicate _,aL _,fun i _=>by simp[List.getD,List.getElem?_replicate];split<;>rfl,by simp only[acs];omega,by simp only[hus,hvv];exact hU3⟩ (.cons rfl (.cons rfl (.cons rfl (.cons rfl (.cons rfl (.cons rfl (.cons rfl (.cons rfl .nil)))))))) rfl ?_
 rintro ⟨us,qs,j⟩ Gx _ ⟨hul2,huo2,hql,hqo,hjl,hq0,hinv,hlt⟩
 simp only[] at hul2 huo2 hql hqo hjl hq0 hinv hlt⊢
 refine aaj<|sR<|sm J J<|sy (ahE J J) rfl<|zE<|?_
 refine abv rfl (fun hc=>?_) (fun hc=>?_) -- slot 68
 ·have hj0:j=0:=by omega
  subst hj0
  refine aby<|abK<|abK<|aas<|aaj<|?_
  refine acb b5 (.hd ..) (fun G5 _ hgb5=>?_)
  refine acb b4 (.hd ..) (fun G6 _ hgb4=>?_)
  refine dr (fun _=>false) [(0,true),(2,true),(3,true),(4,true),(5,true),(1,false),(6,false),(7,true),(8,true)] follows (by kernel_rfl)<|?_
  have hDq:IsD G6 ⟨some ⟨b5,0,none⟩,l,l⟩ qs:= .of_block hqo (hgb5.up (G:=G6)) hql.symm (aL _) (by rw[aV (by simp)])
  have hut:dv (us.take (n+2))=dv us:=by
   have h0:=aeh us (n+2)
   rw[ahY (by rw[pL,gR,hvv] at hlt;omega)] at h0
   omega
  have hDu:IsD G6 ⟨some ⟨b4,0,none⟩,n+2,cap⟩ (us.take (n+2)):= .of_block (huo2.take _) hgb4.h (by simp;omega) (by omega) (by rw[gX,cK,gT (by omega)])
  have hV0:0<dv vs:=by rw[hvv];exact jK hbp hps
  rw[pL,gR] at hlt
  have hdq:dv a/dv b=dv qs:=by
   rw[←Nat.mul_div_mul_right _ _ hps,hinv,←hvv,kM _ _ hV0,jZ hlt,eY]
  have hdr:dv a%dv b=dv (us.take (n+2))/2^s:=by
   have:dv us=dv a%dv b*2^s:=by
    rw[←qY,hinv,←hvv,lN,fK hlt]
   rw[hut,this,Nat.mul_div_cancel _ hps]
  refine dM J J J<|dM J J J<|dM J J J<|dy rfl (fun _=>adE J J (by omega) (by omega)) J J<|?_
  rw[show(v.n:Int).toNat=n+2 by omega]
  refine dM J J J<|?_
  refine dc J J (zC J J (aa0 hDq (by omega)) rfl ?_)
  rintro _ G7 _ rfl
  refine az8<|?_
  refine dc J J (zC J J (ayF (kk:=k2) hDu hs32 (by rw[←hdr];exact hr) (by simp;omega)) rfl ?_)
  rintro _ G8 _ ⟨r,rfl,hr8⟩
  refine az8<|dA J J J<|dA J J J<|dn<|aaK<|?_
  refine zD (.tmp rfl (.tmp rfl .nil)) ⟨⟨some ⟨b5,0,none⟩,(trimD qs).length,l⟩,r,rfl,?_,?_⟩
  ·rw[hdq]
   refine⟨?_,by rw[←hdq];exact hq⟩
   rw[ada hqo]
   exact hDq.trim.up
  ·rw[hdr];exact hr8
 obtain⟨i,rfl⟩: ∃i,j=i+1:=⟨j-1,by omega⟩
 rw[show(((i+1:Nat):Int)-1)=i by omega]
 have hpi:0<4294967296^i:=dJ (by decide)
 -- the digits that the guess looks at
 obtain⟨p,hp⟩: ∃p,p=4294967296^(i+n):=⟨_,rfl⟩
 obtain⟨V,hV⟩: ∃V,V=dv vs*4294967296^i:=⟨_,rfl⟩
 have hvB:dv vs<4294967296^(n+2):=by rw[hvv];exact hV2
 have hvh:=aED hvo n hvB
 have hltV:dv us<V*4294967296:=by rw[hV,bR,←axy];exact hlt
 have hV0:0<V:=by rw[hV];exact jK (by rw[hvv];exact jK hbp hps) hpi
 have hT0:0<vs.getD (n+1) 0:=at6 hvn (n+1) hVl
 have hVp:V=(vs.getD (n+1) 0*4294967296+vs.getD n 0)*p+dv (vs.take n)*4294967296^i:=by
  rw[hV,hvh,cY,hp,eK,bT (4294967296^i),bR]
 have hv0:dv (vs.take n)*4294967296^i<p:=by
  rw[hp,eK,bT]
  exact Nat.mul_lt_mul_of_pos_left (afz hvo n) hpi
 have hM:dv us<4294967296^(i+n+3):=by
  refine cM hlt ?_
  rw[show i+n+3=(n+2)+(i+1) by omega,eK 4294967296 (n+2) (i+1)]
  exact bV _ (nY hvB)
 have huh:=aEt huo2 (i+n) hM
 rw[←hp] at huh
 have hu0:=afz huo2 (i+n)
 rw[←hp] at hu0
 have hg0:=huo2.get (i+n)
 have hg1:=huo2.get (i+n+1)
 have hg2:=huo2.get (i+n+2)
 refine zK<|aaj<|aat<|aaj<|dr (fun _=>false) [(0,true),(1,true),(2,true),(3,true),(4,true),(5,true),(6,true),(7,true),(8,true),(9,true),(10,true),(11,true),(12,true),(13,true),(14,true),(15,true),(16,true),(17,true)] follows (by kernel_rfl)<|?_
 refine dM J J J<|dM J J J<|dM J J J<|dy rfl (fun _=>aar J J (by omega) (by omega)) J J<|?_
 refine dy rfl (fun _=>abh J J (by omega) (by omega)) J J<|?_
 rw[show((i:Int)+(v.n:Int)).toNat=i+n+2 by omega]
 refine dy rfl (fun _=>afL rfl (by omega)) J J<|dy rfl (fun _=>aaL rfl (by omega) (by omega)) J J<|dy rfl (fun _=>aiD J J (by decide)) J J<|?_
 rw[adU (us.getD (i+n+2) 0) 32 (by decide) (by omega) rfl]
 refine dM J J J<|dM J J J<|dM J J J<|dy rfl (fun _=>aar J J (by omega) (by omega)) J J<|?_
 refine dy rfl (fun _=>aa8 J J (by omega) (by omega)) J J<|dy rfl (fun _=>abh J J (by omega) (by omega)) J J<|?_
 rw[show((i:Int)+(v.n:Int)-1).toNat=i+n+1 by omega]
 refine dy rfl (fun _=>afL rfl (by omega)) J J<|?_
 refine dy rfl (fun _=>aaL rfl (by omega) (by omega)) J J<|dy rfl (fun _=>abX J J (aoc (us.getD (i+n+1) 0) (us.getD (i+n+2) 0) 32 (by omega) (by omega))) J J<|dA J J J<|dn<|aaj<|?_
 obtain⟨f,hf⟩: ∃f,f=us.getD (i+n+2) 0*4294967296+us.getD (i+n+1) 0:=⟨_,rfl⟩
 rw[show us.getD (i+n+1) 0+us.getD (i+n+2) 0*2^32=f by omega]
 rw[←hf] at huh
 have hfB:f<18446744073709551616:=by omega
 refine dr (fun _=>false) [(0,true),(1,true),(2,true),(3,true),(4,true),(5,true),(6,true),(7,true)] follows (by kernel_rfl)<|?_
 refine dM J J J<|dM J J J<|dy rfl (fun _=>ahr J J (by omega) (by omega) (by omega)) J J<|dM J J J<|dM J J J<|?_
 refine dy rfl (fun _=>ahk J J (by omega) (by omega)) J J<|dA J J J<|dA J J J<|dn<|?_
 rw[show((f:Int)/((vs.getD (n+1) 0:Nat):Int))=((f/vs.getD (n+1) 0:Nat):Int) by rfl,show((f:Int)%((vs.getD (n+1) 0:Nat):Int))=((f%vs.getD (n+1) 0:Nat):Int) by rfl]
 -- GUESS
 have hUle:(f*4294967296+us.getD (i+n) 0)*p≤dv us:=by omega
 have hUlt:dv us<(f*4294967296+us.getD (i+n) 0+1)*p:=by rw[cY _ 1,nV];omega
 have hVle:(vs.getD (n+1) 0*4294967296+vs.getD n 0)*p≤V:=by rw[hVp];exact lW _ _
 have hfT:f≤vs.getD (n+1) 0*4294967296+vs.getD n 0:=aFY hUle hVp hv0 hltV
 refine amB Nat (fun g=>[(15, .int .u64 (g:Nat)),(13, .int .i64 i),(7, .slice (some ⟨b4,0,none⟩) (a.length+1) cap),(9, .int .i64 v.n),(10, .int .u64 (vs.getD (n+1) 0:Nat)),(11, .int .u64 (vs.getD n 0:Nat)),(8, .slice v.a v.n v.c),(12, .slice (some ⟨b5,0,none⟩) l l),(6, .int .u64 s)]) (fun _=>[⟨b5,qs.map dI,256,true⟩,⟨b4,us.map dI,256,true⟩]) (fun g _=>g<4294967296∧dv us<(g+1)*V∧g*V<dv us+V) ?_ ?_
 ·refine aat<|?_
  refine ab8 (X:=auX) (fun q=>[(15, .int .u64 q.g),(16, .int .u64 q.r),(13, .int .i64 i),(7, .slice (some ⟨b4,0,none⟩) (a.length+1) cap),(9, .int .i64 v.n),(10, .int .u64 (vs.getD (n+1) 0:Nat)),(11, .int .u64 (vs.getD n 0:Nat)),(8, .slice v.a v.n v.c),(12, .slice (some ⟨b5,0,none⟩) l l),(6, .int .u64 s)]) (fun _=>[⟨b5,qs.map dI,256,true⟩,⟨b4,us.map dI,256,true⟩]) (fun q _=>f=q.g*vs.getD (n+1) 0+q.r∧q.r<4294967296∧dv us<(q.g+1)*V) (fun q=>q.g) ⟨f/vs.getD (n+1) 0,f%vs.getD (n+1) 0⟩
   ⟨(Nat.div_add_mod' ..).symm,oT (cS _ hT0) hvt,azS hUlt hg0 hVle hT0⟩ (.cons rfl (.cons rfl (.cons rfl (.cons rfl (.cons rfl (.cons rfl (.cons rfl (.cons rfl (.cons rfl (.cons rfl .nil)))))))))) rfl ?_
  rintro ⟨g,r⟩ Gy _ ⟨hfg,hrB,hlo⟩
  simp only[] at hfg hrB hlo⊢
  have hgT:g*1≤g*vs.getD (n+1) 0:=dY _ hT0
  refine aaj<|sR<|sm J J<|sy (ads J J (by decide)) rfl<|?_
  rw[aeq g 32 (by decide) rfl]
  refine sy (ahI J J) rfl<|sm J J<|?_
  refine ab1 97 rfl (fun hg=>?_) (fun hg=>?_)
  ·have hgB:4294967296≤g:=by omega
   have hdec:dv us<g*V:=cM hltV (by rw[bT];exact bV _ hgB)
   refine ss J J J J<|ss J J J J<|ss J J J J<|ss J J J J<|ss J J J J<|ss J J J J<|ss J J J J<|ss J J J J<|ss J J J J<|?_
   refine ss J J J J<|ss J J J J<|ss J J J J<|ss J J J J<|ss J J J J<|ss J J J J<|sy (acW J J) rfl<|zE<|acU rfl<|?_
   refine zK<|aat<|?_
   obtain⟨g',rfl⟩: ∃g',g=g'+1:=⟨g-1,by rcases fQ g with h|h;(rw[h,kS] at hdec;omega);omega⟩
   refine sR<|sm J J<|sy (atx J J (by omega) (by omega)) rfl<|sa J J<|zE<|sR<|sm J J<|sm J J<|sy (adZ J J) rfl<|?_
   refine sa J J<|zE<|sR<|sm J J<|sy (ads J J (by decide)) rfl<|?_
   rw[show((g'+1:Nat):Int)-1=(g':Nat) by omega,show((r:Int)+((vs.getD (n+1) 0:Nat):Int))=((r+vs.getD (n+1) 0:Nat):Int) from rfl,aeq (r+vs.getD (n+1) 0) 32 (by decide) rfl]
   have hfg':f=g'*vs.getD (n+1) 0+(r+vs.getD (n+1) 0):=by rw[hfg,cY,nV];omega
   refine sy (ahI J J) rfl<|zE<|?_
   refine aaG rfl (fun hc3=>?_) (fun hc3=>?_) -- slot 121
   ·have hr3:4294967296≤r+vs.getD (n+1) 0:=by omega
    have hgB:g'<4294967296:=by
     rcases gN g' 4294967296 with h|h
     ·exact h
     ·have:=bV (vs.getD (n+1) 0) h
      omega
    have hgS:g'*vs.getD n 0≤(r+vs.getD (n+1) 0)*4294967296+us.getD (i+n) 0:=by
     have h1:=jU (nY hgB) (nY hv2)
     omega
    refine aby<|af4 rfl<|abK<|aas<|?_
    exact aiN g' ⟨hgB,hdec,ayD hUle hVp hv0 hT0 hfg' hgB hgS⟩ (.cons rfl (.cons rfl (.cons rfl (.cons rfl (.cons rfl (.cons rfl (.cons rfl (.cons rfl (.cons rfl .nil))))))))) rfl
   refine zK<|?_
   exact aa3 ⟨g',r+vs.getD (n+1) 0⟩ ⟨hfg',by show r+vs.getD (n+1) 0<_;omega,hdec⟩ (by show g'<g'+1;omega) (.cons rfl (.cons rfl (.cons rfl (.cons rfl (.cons rfl (.cons rfl (.cons rfl (.cons rfl (.cons rfl (.cons rfl .nil)))))))))) rfl
  have hgB:g<4294967296:=by omega
  have hgS:g*vs.getD n 0<4294967296*4294967296:=nQ hgB hv2
  have e2:(g:Int)*((vs.getD n 0:Nat):Int)=((g*vs.getD n 0:Nat):Int):=rfl
  refine syg J J (aaR rfl) rfl<|syg J J (aaR rfl) rfl<|syg J J (aot J J (by rw[e2];omega) (by rw[e2];omega)) rfl<|syg J J (aaR rfl) rfl<|syg J J (aiD J J (by decide)) rfl<|?_
  rw[adU r 32 (by decide) (by omega) rfl]
  refine syg J J (aaR rfl) rfl<|syg J J (aaR rfl) rfl<|syg J J (aaR rfl) rfl<|syg J J (aar J J) rfl<|syg J J (aa8 J J) rfl<|?_
  refine syg J J (abh J J (by omega) (by omega)) rfl<|?_
  rw[show((i:Int)+(v.n:Int)-2).toNat=i+n by omega]
  refine syg J J (afL rfl (by omega)) rfl<|syg J J (aaL rfl) rfl<|syg J J (abX J J (aoc (us.getD (i+n) 0) r 32 (by omega) (by omega))) rfl<|?_
  refine syg J J (agE J J) rfl<|sy (abr J J) rfl<|zE<|?_
  rw[e2]
  refine abv rfl (fun hc2=>?_) (fun hc2=>?_) -- slot 113
  ·refine aby<|abK<|abK<|aas<|?_
   exact aiN g ⟨hgB,hlo,ayD hUle hVp hv0 hT0 hfg hgB (by omega)⟩ (.cons rfl (.cons rfl (.cons rfl (.cons rfl (.cons rfl (.cons rfl (.cons rfl (.cons rfl (.cons rfl .nil))))))))) rfl
  have hdec:dv us<g*V:=aCT hUlt hVle hfg (by omega)
  refine zK<|aat<|?_
  obtain⟨g',rfl⟩: ∃g',g=g'+1:=⟨g-1,by rcases fQ g with h|h;(rw[h,kS] at hdec;omega);omega⟩
  refine sR<|sm J J<|sy (atx J J (by omega) (by omega)) rfl<|sa J J<|zE<|sR<|sm J J<|sm J J<|sy (adZ J J) rfl<|?_
  refine sa J J<|zE<|sR<|sm J J<|sy (ads J J (by decide)) rfl<|?_
  rw[show((g'+1:Nat):Int)-1=(g':Nat) by omega,show((r:Int)+((vs.getD (n+1) 0:Nat):Int))=((r+vs.getD (n+1) 0:Nat):Int) from rfl,aeq (r+vs.getD (n+1) 0) 32 (by decide) rfl]
  have hfg':f=g'*vs.getD (n+1) 0+(r+vs.getD (n+1) 0):=by rw[hfg,cY,nV];omega
  refine sy (ahI J J) rfl<|zE<|?_
  refine aaG rfl (fun hc3=>?_) (fun hc3=>?_) -- slot 121
  ·have hr3:4294967296≤r+vs.getD (n+1) 0:=by omega
   have hgB:g'<4294967296:=by
    rcases gN g' 4294967296 with h|h
    ·exact h
    ·have:=bV (vs.getD (n+1) 0) h
     omega
   have hgS:g'*vs.getD n 0≤(r+vs.getD (n+1) 0)*4294967296+us.getD (i+n) 0:=by
    have h1:=jU (nY hgB) (nY hv2)
    omega
   refine aby<|af4 rfl<|abK<|aas<|?_
   exact aiN g' ⟨hgB,hdec,ayD hUle hVp hv0 hT0 hfg' hgB hgS⟩ (.cons rfl (.cons rfl (.cons rfl (.cons rfl (.cons rfl (.cons rfl (.cons rfl (.cons rfl (.cons rfl .nil))))))))) rfl
  refine zK<|?_
  exact aa3 ⟨g',r+vs.getD (n+1) 0⟩ ⟨hfg',by show r+vs.getD (n+1) 0<_;omega,hdec⟩ (by show g'<g'+1;omega) (.cons rfl (.cons rfl (.cons rfl (.cons rfl (.cons rfl (.cons rfl (.cons rfl (.cons rfl (.cons rfl (.cons rfl .nil)))))))))) rfl
 rintro g Gz _ ⟨hgB,hlo,hhi⟩
 -- SUB
 refine sR<|sa J J<|sa J J<|zE<|aaj<|sR<|sm J J<|ac9 J J<|sm J J<|zE<|aat<|?_
 refine ab8 (X:=aBH) (fun q=>[(18, .int .u64 q.c),(17, .int .u64 q.bo),(124, .int .i64 q.k),(123, .int .i64 v.n),(122, .slice v.a v.n v.c),(15, .int .u64 (g:Nat)),(13, .int .i64 i),(7, .slice (some ⟨b4,0,none⟩) (a.length+1) cap),(9, .int .i64 v.n),(10, .int .u64 (vs.getD (n+1) 0:Nat)),(11, .int .u64 (vs.getD n 0:Nat)),(8, .slice v.a v.n v.c),(12, .slice (some ⟨b5,0,none⟩) l l),(6, .int .u64 s)]) (fun q=>[⟨b5,qs.map dI,256,true⟩,⟨b4,q.ws.map dI,256,true⟩])
  (fun q _=>q.ws.length=cap∧DOk q.ws∧q.k≤n+2∧q.bo≤1∧q.c<4294967296∧dv q.ws<4294967296^(i+n+3)∧dv q.ws+g*(dv (vs.take q.k)*4294967296^i)=dv us+(q.bo+q.c)*4294967296^(i+q.k)) (fun q=>n+2-q.k) ⟨us,0,0,0⟩
  ⟨hul2,huo2,aR _,aR _,by show(0:Nat)<4294967296;decide,hM,by simp[dv]⟩ (.cons rfl (.cons rfl (.cons rfl (.cons rfl (.cons rfl (.cons rfl (.cons rfl (.cons rfl (.cons rfl (.cons rfl (.cons rfl (.cons rfl (.cons rfl (.cons rfl .nil)))))))))))))) rfl ?_
 rintro ⟨ws,k,bo,c⟩ Gy _ ⟨hwl,hwo,hk,hbo,hc4,hwM,hw⟩
 simp only[] at hwl hwo hk hbo hc4 hwM hw⊢
 refine sR<|sy (ach J J) rfl<|zE<|aaj<|?_
 refine abv rfl (fun hkc=>?_) (fun hkc=>?_) -- slot 125
 ·have hkn:k=n+2:=by omega
  subst hkn
  rw[aV (by omega),←hV] at hw
  refine aby<|abK<|abK<|aas<|sR<|sm J J<|sm J J<|sm J J<|sy (aar J J) rfl<|sy (abh J J (by omega) (by omega)) rfl<|?_
  rw[show((i:Int)+(v.n:Int)).toNat=i+n+2 by omega]
  have hwg:=hwo.get (i+n+2)
  refine sy (afL rfl (by omega)) rfl<|sy (aaL rfl) rfl<|sm J J<|sy (afU J J) rfl<|sm J J<|sy (afU J J) rfl<|?_
  rw[aDw _ _ _ hwg hc4 hbo]
  obtain⟨hx1,hx2,hx3⟩:=aoO (ws.getD (i+n+2) 0) c bo hwg hc4 hbo
  generalize msx (ws.getD (i+n+2) 0) c bo=xx at hx1 hx2 hx3⊢
  refine sa J J<|zE<|sR<|sm J J<|sm J J<|sm J J<|sy (aar J J) rfl<|sm J J<|sy (abf rfl) rfl<|sy (abh J J (by omega) (by omega)) rfl<|?_
  rw[show((i:Int)+(v.n:Int)).toNat=i+n+2 by omega]
  refine sc (aa6 (d:=xx%4294967296) J J (by rw[mN];rfl) (.tl _ _ _ _ _ _ _ _ (.hd ..)) (by omega) rfl ?_)
  have hs2:=ae9 ws (i+n+2) (xx%4294967296) (by omega)
  have hl2:=ayL hs2 hw hx1
  rw[←axy] at hl2
  have hM2:=agH (i:=i+n+2) (d:=xx%4294967296) hwo (cS _ (by decide)) hwM (by omega)
  have ho2:=hwo.set (i+n+2) (d:=xx%4294967296) (cS _ (by decide))
  have hn2:(ws.set (i+n+2) (xx%4294967296)).length=cap:=by rw[bX];exact hwl
  generalize ws.set (i+n+2) (xx%4294967296)=ws2 at hl2 hM2 ho2 hn2⊢
  replace hl2:dv ws2+g*V=dv us+xx/9223372036854775808*4294967296^(i+n+3):=hl2
  have hqset: ∀d,dv (qs.set i d)=dv qs+4294967296^i*d:=fun d=>by
   have:=ae9 qs i d (by omega)
   rw[hq0 i (by omega)] at this
   simpa using this
  have hqz: ∀d i',i'<i→(qs.set i d).getD i' 0=0:=fun d i' h=>by
   have:=hq0 i' (by omega)
   simpa[List.getD,oX,show¬i=i' by omega] using this
  have hinv2: ∀d R,R+d*V=dv us→dv a*2^s=R+dv vs*dv (qs.set i d):=fun d R h=>by
   rw[hinv,←h,hqset,dQ,←bR,←hV,bT d];omega
  refine zE<|sR<|sm J J<|sm J J<|sm J J<|sy (abf rfl) rfl<|sy (abh J J (by omega) (by omega)) rfl<|?_
  rw[bZ]
  refine sc (aa6 (d:=g) J J (axB g hgB) (.hd ..) (by omega) rfl ?_)
  refine zE<|aaj<|sR<|sm J J<|sy (ads J J (by decide)) rfl<|?_
  rw[aeq xx 63 (by decide) rfl]
  refine sy (abV J J) rfl<|zE<|?_
  refine aaG rfl (fun ht=>?_) (fun ht=>?_) -- slot 184
  ·have ht0:xx/2^63=0:=by omega
   rw[show xx/9223372036854775808=xx/2^63 from rfl,ht0,kS,dT] at hl2
   refine aby<|abK<|aas<|aal<|sm J J<|sy (aa8 J J) rfl<|sa J J<|zE<|?_
   exact aa3 ⟨ws2,qs.set i g,i⟩ ⟨hn2,ho2,by simpa using hql,hqo.set _ hgB,by show i≤l;omega,hqz g,hinv2 g _ hl2,by show dv ws2<_;rw[←hV];exact azU hlo hl2⟩ (by show i<i+1;omega) (.cons rfl (.cons rfl (.cons rfl (.cons rfl (.cons rfl (.cons rfl (.cons rfl (.cons rfl .nil)))))))) rfl
  have ht1:xx/9223372036854775808=1:=by
   have:xx/9223372036854775808≠0:=fun h=>ht (by rw[show xx/2^63=xx/9223372036854775808 from rfl,h];rfl)
   omega
  rw[ht1,nV] at hl2
  obtain⟨g',rfl⟩: ∃g',g=g'+1:=⟨g-1,by rcases fQ g with h|h;(rw[h,kS] at hl2;omega);omega⟩
  refine zK<|sR<|sm J J<|sm J J<|sy (abh J J (by omega) (by omega)) rfl<|?_
  rw[bZ]
  refine sy (afL rfl (by simp;omega)) rfl<|?_
  rw[show(qs.set i (g'+1)).getD i 0=g'+1 by simp[List.getD,oX,show i<qs.length by omega]]
  refine sy (afU J J) rfl<|sy (abh J J (by omega) (by omega)) rfl<|?_
  rw[bZ]
  refine sc (aa6 (d:=g') J J (by rw[acy];omega) (.hd ..) (by simp;omega) rfl ?_)
  rw[List.set_set]
  refine zE<|sR<|sa J J<|zE<|aaj<|sR<|sm J J<|ac9 J J<|sm J J<|zE<|aat<|?_
  refine ab8 (X:=aBH) (fun q=>[(18, .int .u64 q.c),(193, .int .i64 q.k),(192, .int .i64 v.n),(191, .slice v.a v.n v.c),(13, .int .i64 i),(7, .slice (some ⟨b4,0,none⟩) (a.length+1) cap),(9, .int .i64 v.n),(10, .int .u64 (vs.getD (n+1) 0:Nat)),(11, .int .u64 (vs.getD n 0:Nat)),(8, .slice v.a v.n v.c),(12, .slice (some ⟨b5,0,none⟩) l l),(6, .int .u64 s)]) (fun q=>[⟨b5,(qs.set i g').map dI,256,true⟩,⟨b4,q.ws.map dI,256,true⟩])
   (fun q _=>q.ws.length=cap∧DOk q.ws∧q.k≤n+2∧q.c≤1∧dv q.ws<4294967296^(i+n+3)∧dv q.ws+q.c*4294967296^(i+q.k)=dv ws2+dv (vs.take q.k)*4294967296^i) (fun q=>n+2-q.k) ⟨ws2,0,0,0⟩
   ⟨hn2,ho2,aR _,aR _,hM2,by simp[dv]⟩ (.cons rfl (.cons rfl (.cons rfl (.cons rfl (.cons rfl (.cons rfl (.cons rfl (.cons rfl (.cons rfl (.cons rfl (.cons rfl (.cons rfl .nil)))))))))))) rfl ?_
  rintro ⟨wa,k,_,ca⟩ Gz _ ⟨hal2,hao,hak,hac,haM,ha⟩
  simp only[] at hal2 hao hak hac haM ha⊢
  refine sR<|sy (ach J J) rfl<|zE<|aaj<|?_
  refine abv rfl (fun hkd=>?_) (fun hkd=>?_) -- slot 194
  ·have hkn:k=n+2:=by omega
   subst hkn
   rw[aV (by omega),←hV] at ha
   have hag:=hao.get (i+n+2)
   refine aby<|abK<|abK<|aas<|aal<|sm J J<|sm J J<|sm J J<|sy (aar J J) rfl<|sy (abh J J (by omega) (by omega)) rfl<|?_
   rw[show((i:Int)+(v.n:Int)).toNat=i+n+2 by omega]
   refine sy (afL rfl (by omega)) rfl<|sm J J<|sy (abf rfl) rfl<|sy (aAB J J) rfl<|sy (abh J J (by omega) (by omega)) rfl<|?_
   rw[show((i:Int)+(v.n:Int)).toNat=i+n+2 by omega]
   refine sc (aa6 (d:=(wa.getD (i+n+2) 0+ca)%4294967296) J J (by rw[acy];omega) (.tl _ _ _ _ _ _ _ _ (.hd ..)) (by omega) rfl ?_)
   have hs4:=ae9 wa (i+n+2) ((wa.getD (i+n+2) 0+ca)%4294967296) (by omega)
   have hl4:=ayH hs4 ha
   rw[←axy] at hl4
   have hM4:=agH (i:=i+n+2) (d:=(wa.getD (i+n+2) 0+ca)%4294967296) hao (cS _ (by decide)) haM (by omega)
   obtain⟨hR1,hR2⟩:=aAs hhi hl2 hl4 hM2 hM4 (by omega) (Nat.succ_pos _)
   refine zE<|aal<|sm J J<|sy (aa8 J J) rfl<|sa J J<|zE<|?_
   exact aa3 ⟨wa.set (i+n+2) ((wa.getD (i+n+2) 0+ca)%4294967296),qs.set i g',i⟩ ⟨by simpa using hal2,hao.set _ (cS _ (by decide)),by simpa using hql,hqo.set _ (by omega),by show i≤l;omega,hqz g',hinv2 g' _ hR1,by show dv _<_;rw[←hV];exact hR2⟩ (by show i<i+1;omega) (.cons rfl (.cons rfl (.cons rfl (.cons rfl (.cons rfl (.cons rfl (.cons rfl (.cons rfl .nil)))))))) rfl
  have hvk:=hvo.get k
  have hag:=hao.get (i+k)
  refine zK<|aaj<|aat<|sR<|sm J J<|sy (abR hv J J (by omega) (by omega)) rfl<|?_
  rw[bZ]
  refine sy (abS hv rfl (by omega)) rfl<|sa J J<|sa J J<|zE<|aaj<|?_
  refine aal<|sm J J<|sm J J<|sm J J<|sm J J<|sy (aar J J) rfl<|sy (abh J J (by omega) (by omega)) rfl<|?_
  rw[show((i:Int)+(k:Int)).toNat=i+k by omega]
  refine sy (afL rfl (by omega)) rfl<|sy (aaL rfl) rfl<|sm J J<|sy (aaL rfl) rfl<|sy (adZ J J) rfl<|sy (adZ J J) rfl<|?_
  rw[show(ca:Int)+(((wa.getD (i+k) 0:Nat):Int)+((vs.getD k 0:Nat):Int))=((ca+(wa.getD (i+k) 0+vs.getD k 0):Nat):Int) from rfl]
  refine sa J J<|zE<|sR<|sm J J<|sm J J<|sm J J<|sy (aar J J) rfl<|sm J J<|sy (abf rfl) rfl<|sy (abh J J (by omega) (by omega)) rfl<|?_
  rw[show((i:Int)+(k:Int)).toNat=i+k by omega]
  refine sc (aa6 (d:=(ca+(wa.getD (i+k) 0+vs.getD k 0))%4294967296) J J (by rw[mN];rfl) (.tl _ _ _ _ _ _ _ _ (.hd ..)) (by omega) rfl ?_)
  refine zE<|aal<|sm J J<|sy (ads J J (by decide)) rfl<|?_
  rw[aeq (ca+(wa.getD (i+k) 0+vs.getD k 0)) 32 (by decide) rfl]
  refine sa J J<|zE<|aal<|sy (aar J J) rfl<|sm J J<|zE<|?_
  refine aa3 ⟨wa.set (i+k) ((ca+(wa.getD (i+k) 0+vs.getD k 0))%4294967296),k+1,0,(ca+(wa.getD (i+k) 0+vs.getD k 0))/2^32⟩ ⟨by simpa using hal2,hao.set _ (cS _ (by decide)),by show k+1≤_;omega,by show(ca+(wa.getD (i+k) 0+vs.getD k 0))/4294967296≤1;omega,agH hao (cS _ (by decide)) haM (by omega),?_⟩ (by show n+2-(k+1)<n+2-k;omega) (.cons rfl (.cons rfl (.cons rfl (.cons rfl (.cons rfl (.cons rfl (.cons rfl (.cons rfl (.cons rfl (.cons rfl (.cons rfl (.cons rfl .nil)))))))))))) rfl
  show dv (wa.set (i+k) ((ca+(wa.getD (i+k) 0+vs.getD k 0))%4294967296))+((ca+(wa.getD (i+k) 0+vs.getD k 0))/4294967296)*4294967296^(i+k+1)=dv ws2+dv (vs.take (k+1))*4294967296^i
  rw[aax,cY (dv (vs.take k)),axy,show 4294967296^k*vs.getD k 0*4294967296^i=vs.getD k 0*4294967296^(i+k) by rw[eK,bT (4294967296^k),bR,bT (4294967296^k)]]
  exact aAk (ae9 wa (i+k) _ (by omega)) ha
 have hvk:=hvo.get k
 have hwg:=hwo.get (i+k)
 refine zK<|aaj<|aat<|sR<|sm J J<|sy (abR hv J J (by omega) (by omega)) rfl<|?_
 rw[bZ]
 refine sy (abS hv rfl (by omega)) rfl<|sa J J<|sa J J<|zE<|aaj<|?_
 have hgd:g*vs.getD k 0≤4294967295*4294967295:=jU (by omega) (by omega)
 have e3:(g:Int)*((vs.getD k 0:Nat):Int)=((g*vs.getD k 0:Nat):Int):=rfl
 refine aal<|sm J J<|sm J J<|sm J J<|sy (aaL rfl) rfl<|sy (aot J J (by rw[e3];omega) (by rw[e3];omega)) rfl<|?_
 rw[e3]
 refine sy (adZ J J) rfl<|?_
 rw[show(c:Int)+((g*vs.getD k 0:Nat):Int)=((c+g*vs.getD k 0:Nat):Int) from rfl]
 obtain⟨c1,hc1⟩: ∃c1,c1=c+g*vs.getD k 0:=⟨_,rfl⟩
 rw[←hc1]
 have hc1m:c1%4294967296<4294967296:=cS _ (by decide)
 refine sa J J<|zE<|sR<|sm J J<|sm J J<|sm J J<|sy (aar J J) rfl<|sy (abh J J (by omega) (by omega)) rfl<|?_
 rw[show((i:Int)+(k:Int)).toNat=i+k by omega]
 refine sy (afL rfl (by omega)) rfl<|sy (aaL rfl) rfl<|sm J J<|sy (abX J J (avj c1 (by omega))) rfl<|sy (afU J J) rfl<|sm J J<|sy (afU J J) rfl<|?_
 rw[aDw _ _ _ hwg hc1m hbo]
 obtain⟨hx1,hx2,hx3⟩:=aoO (ws.getD (i+k) 0) (c1%4294967296) bo hwg hc1m hbo
 generalize msx (ws.getD (i+k) 0) (c1%4294967296) bo=xx at hx1 hx2 hx3⊢
 refine sa J J<|?_
 refine zE<|sR<|sm J J<|sm J J<|sm J J<|sy (aar J J) rfl<|sm J J<|sy (abf rfl) rfl<|sy (abh J J (by omega) (by omega)) rfl<|?_
 rw[show((i:Int)+(k:Int)).toNat=i+k by omega]
 refine sc (aa6 (d:=xx%4294967296) J J (by rw[mN];rfl) (.tl _ _ _ _ _ _ _ _ (.hd ..)) (by omega) rfl ?_)
 refine zE<|sR<|sm J J<|sy (ads J J (by decide)) rfl<|?_
 rw[aeq xx 63 (by decide) rfl]
 refine sa J J<|zE<|aal<|sm J J<|sy (ads J J (by decide)) rfl<|?_
 rw[aeq c1 32 (by decide) rfl]
 refine sa J J<|?_
 refine zE<|aal<|sy (aar J J) rfl<|sm J J<|zE<|?_
 refine aa3 ⟨ws.set (i+k) (xx%4294967296),k+1,xx/2^63,c1/2^32⟩ ⟨by simpa using hwl,hwo.set _ (cS _ (by decide)),by show k+1≤_;omega,hx2,by show c1/4294967296<_;omega,agH hwo (cS _ (by decide)) hwM (by omega),?_⟩ (by show n+2-(k+1)<n+2-k;omega) (.cons rfl (.cons rfl (.cons rfl (.cons rfl (.cons rfl (.cons rfl (.cons rfl (.cons rfl (.cons rfl (.cons rfl (.cons rfl (.cons rfl (.cons rfl (.cons rfl .nil)))))))))))))) rfl
 show dv (ws.set (i+k) (xx%4294967296))+g*(dv (vs.take (k+1))*4294967296^i)=dv us+(xx/9223372036854775808+c1/4294967296)*4294967296^(i+k+1)
 rw[aax,cY (dv (vs.take k)),axy,show 4294967296^k*vs.getD k 0*4294967296^i=vs.getD k 0*4294967296^(i+k) by rw[eK,bT (4294967296^k),bR,bT (4294967296^k)],dQ,←bR g (vs.getD k 0)]
 exact azh (ae9 ws (i+k) _ (by omega)) hw hc1 hx1
theorem ahl{A B G:Gh}{x y:SV}{a b:List Nat}{k1 k2:Nat}(hx:IsD A x a)(hy:IsD B y b)[GL A G][GL B G](hb0:0<dv b)
  (hq:dv a/dv b<2^k1)(hr:dv a%dv b<2^k2)(hl:a.length≤112589990684)(hl2:b.length≤112589990684):
  Fn prog 207 [x.v,y.v] G (fun v G'=> ∃z r:SV,v= .tuple #[z.v,r.v, .bool true]∧IsN k1 G' z (dv a/dv b)∧IsN k2 G' r (dv a%dv b)):=by
 have hla:=abj a
 have hlb:=abj b
 have hca:=fun G1 (_:GL A G1)=>aa0 (G:=G1) hx (by omega)
 have hcb:=fun G1 (_:GL B G1)=>aa0 (G:=G1) hy (by omega)
 have hxt:=hx.trim
 have hyt:=hy.trim
 have hna:=Nrm.trimD a
 have hnb:=Nrm.trimD b
 rw[←aa7 a,←aa7 b] at hq hr⊢
 rw[←aa7 b] at hb0
 generalize trimD a=a' at*
 generalize trimD b=b' at*
 refine Fn.intro func207 J J ntmps207 rfl ?_
 intro C _ _
 refine sR<|sa J J<|sa J J<|sa J J<|zE<|sR<|sm J J<|?_
 refine sc (zC J J (hca _ inferInstance) rfl ?_)
 rintro _ G1 _ rfl
 refine sm J J<|?_
 refine sc (zC J J (hcb _ inferInstance) rfl ?_)
 rintro _ G2 _ rfl
 refine sa J J<|sa J J<|zE<|aaj<|aat<|sR<|sm J J<|ac9 J J<|sy (abV J J) rfl<|sa J J<|zE<|?_
 refine aaG rfl (fun hc=>?_) (fun hc=>?_) -- slot 15
 ·exfalso
  have:b'=[]:=bY (by omega)
  rw[this] at hb0
  exact absurd hb0 (by simp[dv])
 refine sR<|sm J J<|sm J J<|?_
 refine sc (zC J J (ase hxt hyt (by omega) (by omega)) rfl ?_)
 rintro _ G3 _ rfl
 refine sy (ach J J) rfl<|sa J J<|zE<|?_
 refine aaG rfl (fun hc2=>?_) (fun hc2=>?_) -- slot 19
 ·have hlt:dv a'<dv b':=by
   unfold aho at hc2
   split at hc2
   ·assumption
   ·split at hc2<;>omega
  refine sR<|sm J J<|?_
  refine sc (zC J J (am9 hxt (by omega)) rfl ?_)
  rintro _ G4 _ ⟨z,rfl,hz⟩
  refine sa J J<|sa J J<|sa J J<|zE<|aaK<|?_
  refine zD (.tmp rfl (.tmp rfl (.tmp rfl .nil))) ⟨⟨none,0,0⟩,z,rfl,?_,?_⟩
  ·rw[jZ hlt]
   exact⟨by unfold dg;exact .nil _,dJ (by decide)⟩
  ·rw[fK hlt] at hr⊢
   exact⟨by rw[aqp hxt.ok hna];exact hz,hr⟩
 have hle:dv b'≤dv a':=by
  unfold aho at hc2
  split at hc2
  ·omega
  ·omega
 refine sR<|sm J J<|ac9 J J<|sy (abV J J) rfl<|sa J J<|zE<|?_
 refine aaG rfl (fun hc3=>?_) (fun hc3=>?_) -- slot 26
 ·have hb1:b'.length=1:=by omega
  obtain⟨d,rfl⟩:=List.length_eq_one_iff.1 hb1
  have hdv:dv [d]=d:=by simp[dv]
  have hdB:=hyt.ok.head
  rw[hdv] at hb0 hq hr⊢
  refine sR<|sm J J<|sm J J<|sy (abR (z:=⟨y.a,1,y.c⟩) hyt J J (by omega) (by show(0:Int)<((1:Nat):Int);omega)) rfl<|sy (abS (i:=0) hyt rfl (by simp)) rfl<|?_
  rw[show [d].getD 0 0=d from rfl]
  refine sc (zC J J (ar0 (x:=⟨x.a,a'.length,x.c⟩) hxt hb0 hdB hq (by omega)) rfl ?_)
  rintro _ G5 _ ⟨z,rfl,hz⟩
  have hmB:dv a'%d<4294967296:=oT (cS _ hb0) hdB
  refine sm J J<|sx J J J<|sx J J J<|sa J J<|sa J J<|zE<|sR<|sm J J<|sm J J<|sy (aaL rfl) rfl<|?_
  refine sc (zC J J (afc (by omega)) rfl ?_)
  rintro _ G6 _ ⟨r,rfl,hr6⟩
  refine sa J J<|sa J J<|sa J J<|zE<|aaK<|?_
  exact zD (.tmp rfl (.tmp rfl (.tmp rfl .nil))) ⟨z,r,rfl,hz.up,hr6.mono hr⟩
 have hb2:2≤b'.length:=by omega
 refine zK<|sR<|sm J J<|sm J J<|?_
 refine sc (zC J J (auz (x:=⟨x.a,a'.length,x.c⟩) (y:=⟨y.a,b'.length,y.c⟩) hxt hyt hna hnb hb2 hle hq hr (by omega)) rfl ?_)
 rintro _ G7 _ ⟨z,r,rfl,hz,hr7⟩
 refine sm J J<|sx J J J<|sx J J J<|sa J J<|sa J J<|zE<|sR<|sm J J<|sm J J<|sa J J<|sa J J<|sa J J<|zE<|?_
 refine aaK<|?_
 exact zD (.tmp rfl (.tmp rfl (.tmp rfl .nil))) ⟨z,r,rfl,hz,hr7⟩
theorem aa1{u k:Nat}(h:u<2^k):32*(dg u).length≤k+31:=aum (aaE u).2.2 (by rw[(aaE u).1];exact h)
theorem IsN.dvl{k:Nat}{G:Gh}{x:SV}{v:Nat}(_:IsN k G x v):dv (dg v)=v:=(aaE v).1
structure aAL where
 a:SV
 b:SV
 u:Nat
 v:Nat
theorem aAi{A B G:Gh}{x y:SV}{a b:List Nat}{k k0:Nat}(hx:IsD A x a)(hy:IsD B y b)[GL A G][GL B G](ha:dv a<2^k0)(hb:dv b<2^k0)(hk0:k0≤1099511627776)
  (hg0:Nat.gcd (dv a) (dv b)<2^k)(hl:a.length≤112589990684)(hl2:b.length≤112589990684):
  Fn prog 206 [x.v,y.v] G (fun v G'=> ∃z:SV,v=z.v∧IsN k G' z (Nat.gcd (dv a) (dv b))):=by
 refine Fn.intro func206 J J ntmps206 rfl ?_
 intro C _ _
 refine sR<|sa J J<|zE<|sR<|sm J J<|?_
 refine sc (zC J J (ak9 hx ha (by omega)) rfl ?_)
 rintro _ G1 _ ⟨x1,rfl,hx1⟩
 refine sm J J<|?_
 refine sc (zC J J (ak9 hy hb (by omega)) rfl ?_)
 rintro _ G2 _ ⟨y1,rfl,hy1⟩
 generalize dv a=ua at*
 generalize dv b=ub at*
 refine sa J J<|sa J J<|zE<|aaj<|aat<|?_
 refine ab8 (X:=aAL) (fun q=>[(0, .slice q.a.a q.a.n q.a.c),(1, .slice q.b.a q.b.n q.b.c)]) (fun _=>[]) (fun q G=>IsN k0 G q.a q.u∧IsN k0 G q.b q.v∧Nat.gcd q.u q.v=Nat.gcd ua ub) (fun q=>q.v) ⟨x1,y1,ua,ub⟩
  ⟨hx1.up,hy1,rfl⟩ (.cons rfl (.cons rfl .nil)) rfl ?_
 rintro ⟨p,q,u,v⟩ Gx _ ⟨hp,hq,hgc⟩
 simp only[] at hp hq hgc⊢
 have hpl:=hp.len
 have hql:=hq.len
 have hpb:=aa1 hp.lt
 have hqb:=aa1 hq.lt
 refine aaj<|sR<|sm J J<|ac9 J J<|sy (agE J J) rfl<|sm J J<|?_
 refine ab1 19 rfl (fun hg=>?_) (fun hg=>?_)
 ·refine ss J J J J<|ss J J J J<|ss J J J J<|sy (acW J J) rfl<|zE<|acU rfl<|zK<|aat<|aaj<|sR<|sm J J<|?_
  refine ac9 J J<|sy (abV J J) rfl<|zE<|?_
  refine aaG rfl (fun hc1=>?_) (fun hc1=>?_) -- slot 26
  ·refine sR<|sm J J<|sa J J<|zE<|aaK<|?_
   have hv0:v=0:=by
    have:dg v=[]:=bY (by omega)
    have h2:=hq.dvl
    rw[this] at h2
    exact h2.symm
   have hue:u=Nat.gcd ua ub:=by rw[←hgc,hv0,lR]
   exact zD (.tmp rfl .nil) ⟨p,rfl,by rw[←hue] at hg0⊢;exact hp.mono hg0⟩
  have hv0:0<v:=iQ fun h=>by
   have h1:dg v=[]:=by rw[h];unfold dg;rfl
   rw[h1] at hql
   simp only[fY] at hql
   omega
  have hm:=cS u hv0
  refine zK<|sR<|sm J J<|sm J J<|?_
  refine sc (zC J J (ahl (k1:=k0) (k2:=k0) hp.d hq.d (by rw[hq.dvl];exact hv0) (by rw[hp.dvl];exact fX (iV _ _) hp.lt) (by rw[hp.dvl,hq.dvl];exact oT hm hq.lt) (by omega) (by omega)) rfl ?_)
  rintro _ G3 _ ⟨z,r,rfl,hz,hr⟩
  rw[hp.dvl,hq.dvl] at hr
  refine sm J J<|sx J J J<|sx J J J<|sx J J J<|sa J J<|sa J J<|sa J J<|zE<|aal<|sm J J<|sm J J<|sa J J<|sa J J<|?_
  refine zE<|?_
  exact aa3 ⟨q,r,v,u%v⟩ ⟨hq.up,hr,by show Nat.gcd v (u%v)=_;rw[←hgc,iX u,rS v u,iX]⟩ hm (.cons rfl (.cons rfl .nil)) rfl
 refine syg J J (aaR rfl) rfl<|syg J J (aeM rfl) rfl<|syg J J (agE J J) rfl<|sy (abr J J) rfl<|zE<|?_
 refine abv rfl (fun hc=>?_) (fun hc=>?_) -- slot 23
 ·have small: ∀{w:Nat},(dg w).length≤2→w<18446744073709551616:=fun{w} h=>by
   have h1:=aee (aaE w).2.1
   rw[(aaE w).1] at h1
   exact cM h1 (cJ (bK (by decide) h) (by decide))
  have hu64:u<18446744073709551616:=small (by omega)
  have hv64:v<18446744073709551616:=small (by omega)
  refine aby<|abK<|abK<|aas<|sR<|sm J J<|?_
  refine sc (zC J J (alA hp.d (by omega)) rfl ?_)
  rintro _ G4 _ rfl
  rw[hp.dvl,if_pos hu64]
  refine sm J J<|sx J J J<|sx J J J<|sa J J<|sa J J<|zE<|sR<|sm J J<|?_
  refine sc (zC J J (alA hq.d (by omega)) rfl ?_)
  rintro _ G5 _ rfl
  rw[hq.dvl,if_pos hv64]
  refine sm J J<|sx J J J<|sx J J J<|sa J J<|sa J J<|zE<|aaj<|aat<|?_
  refine ab8 (X:=Nat×Nat) (fun q=>[(8, .int .u64 (q.1:Nat)),(10, .int .u64 (q.2:Nat))]) (fun _=>[]) (fun q _=>q.1<18446744073709551616∧q.2<18446744073709551616∧Nat.gcd q.1 q.2=Nat.gcd ua ub) (fun q=>q.2) (u,v)
   ⟨hu64,hv64,hgc⟩ (.cons rfl (.cons rfl .nil)) rfl ?_
  rintro ⟨u1,v1⟩ Gy _ ⟨hu1,hv1,hgc1⟩
  simp only[] at hu1 hv1 hgc1⊢
  refine aaj<|sR<|sm J J<|sy (ahI J J) rfl<|zE<|?_
  refine abv rfl (fun hc5=>?_) (fun hc5=>?_) -- slot 48
  ·refine aby<|abK<|abK<|aas<|sR<|sm J J<|?_
   refine sc (zC J J (afc hu1) rfl ?_)
   rintro _ G6 _ ⟨z,rfl,hz⟩
   refine sa J J<|zE<|aaK<|?_
   have hv0:v1=0:=by omega
   have hue:u1=Nat.gcd ua ub:=by rw[←hgc1,hv0,lR]
   exact zD (.tmp rfl .nil) ⟨z,rfl,by rw[←hue] at hg0⊢;exact hz.mono hg0⟩
  have hv0:0<v1:=by omega
  refine zK<|aat<|dr (fun _=>false) [(0,true),(1,true),(2,true),(3,true),(4,true),(5,true)] follows (by kernel_rfl)<|dM J J J<|dM J J J<|?_
  refine dM J J J<|dy rfl (fun _=>ahk J J (by omega) (by omega)) J J<|dA J J J<|dA J J J<|dn<|?_
  exact aa3 (v1,u1%v1) ⟨hv1,oT (cS _ hv0) hv1,by show Nat.gcd v1 (u1%v1)=_;rw[←hgc1,iX u1,rS v1 u1,iX]⟩ (by show u1%v1<v1;exact cS _ hv0) (.cons rfl (.cons rfl .nil)) rfl
 refine zK<|aat<|aaj<|sR<|sm J J<|?_
 refine ac9 J J<|sy (abV J J) rfl<|zE<|?_
 refine aaG rfl (fun hc1=>?_) (fun hc1=>?_) -- slot 26
 ·refine sR<|sm J J<|sa J J<|zE<|aaK<|?_
  have hv0:v=0:=by
   have:dg v=[]:=bY (by omega)
   have h2:=hq.dvl
   rw[this] at h2
   exact h2.symm
  have hue:u=Nat.gcd ua ub:=by rw[←hgc,hv0,lR]
  exact zD (.tmp rfl .nil) ⟨p,rfl,by rw[←hue] at hg0⊢;exact hp.mono hg0⟩
 have hv0:0<v:=iQ fun h=>by
  have h1:dg v=[]:=by rw[h];unfold dg;rfl
  rw[h1] at hql
  simp only[fY] at hql
  omega
 have hm:=cS u hv0
 refine zK<|sR<|sm J J<|sm J J<|?_
 refine sc (zC J J (ahl (k1:=k0) (k2:=k0) hp.d hq.d (by rw[hq.dvl];exact hv0) (by rw[hp.dvl];exact fX (iV _ _) hp.lt) (by rw[hp.dvl,hq.dvl];exact oT hm hq.lt) (by omega) (by omega)) rfl ?_)
 rintro _ G3 _ ⟨z,r,rfl,hz,hr⟩
 rw[hp.dvl,hq.dvl] at hr
 refine sm J J<|sx J J J<|sx J J J<|sx J J J<|sa J J<|sa J J<|sa J J<|zE<|aal<|sm J J<|sm J J<|sa J J<|sa J J<|?_
 refine zE<|?_
 exact aa3 ⟨q,r,v,u%v⟩ ⟨hq.up,hr,by show Nat.gcd v (u%v)=_;rw[←hgc,iX u,rS v u,iX]⟩ hm (.cons rfl (.cons rfl .nil)) rfl
structure IV where
 neg:Bool
 a:SV
def IV.v(z:IV):Value:= .agg ⟨[.bool z.neg, .slice z.a.a z.a.n z.a.c]⟩
def zv(neg:Bool)(u:Nat):Int:=if neg then-(u:Int) else u
theorem afM(neg:Bool)(u:Nat):(zv neg u).natAbs=u:=by cases neg<;>simp[zv]
theorem aBp(neg:Bool)(u:Nat):zv (!neg) u= -zv neg u:=by cases neg<;>simp[zv]
theorem axT(n m:Bool)(u w:Nat):zv (n !=m) (u*w)=zv n u*zv m w:=by cases n<;>cases m<;>simp[zv,Int.neg_mul,Int.mul_neg]
theorem amh(neg:Bool)(u:Nat):decide (zv neg u<0)=(neg&&decide (0<u)):=by
 cases neg<;>simp[zv]
theorem adA(m:Int):zv (decide (m<0)) m.natAbs=m:=by
 unfold zv
 by_cases h:m<0<;>simp[h]<;>omega
structure IsI (k:Nat) (G:Gh) (z:IV) (m:Int):Prop where
 neg:z.neg=decide (m<0)
 abs:IsN k G z.a m.natAbs
theorem aov(n:Bool)(u w:Nat):zv n (u+w)=zv n u+zv n w:=by cases n<;>simp[zv]<;>omega
theorem alC(p:Int):IntKind.i64.wrap p=(p+9223372036854775808)%18446744073709551616-9223372036854775808:=by
 have e:IntKind.i64.wrap p=if(true&&decide (p%2^64≥2^(64-1)))=true then p%2^64-2^64 else p%2^64:=rfl
 rw[e,show(2:Int)^64=18446744073709551616 by decide,show(2:Int)^(64-1)=9223372036854775808 by decide,Bool.true_and]
 by_cases h:p%18446744073709551616≥9223372036854775808
 ·rw[decide_eq_true h,if_pos rfl];omega
 ·rw[decide_eq_false h,if_neg (by decide)];omega
structure RV where
 n:Int
 d:Int
 p:Option Addr
def RV.v(z:RV):Value:= .agg ⟨[.int .i64 z.n, .int .i64 z.d, .pointer z.p]⟩
structure aCt (z:RV) (q:Rat):Prop where
 p:z.p=none
 n:z.n=q.num
 d:z.d=(q.den:Int)-1
 b1:q.num.natAbs<4611686018427387904
 b2:q.den<4611686018427387904
structure aF6 (k:Nat) (G:Gh) (z:RV) (q:Rat):Prop where
 n:z.n=0
 d:z.d=0
 ex: ∃(b:Nat) (x:IV) (y:SV),z.p=some ⟨b,0,none⟩∧G b=some [.bool x.neg, .slice x.a.a x.a.n x.a.c, .slice y.a y.n y.c]∧IsI k G x q.num∧IsN k G y q.den
 no: ¬(q.num.natAbs<4611686018427387904∧q.den<4611686018427387904)
def IsR(k:Nat)(G:Gh)(z:RV)(q:Rat):Prop:=q.num.natAbs<2^k∧q.den<2^k∧(aCt z q∨aF6 k G z q)
theorem aBL{neg:Bool}{u g:Nat}(h:g∣u):zv neg (u/g)=zv neg u/(g:Int):=by
 cases neg
 ·simp[zv]
 ·simp only[zv,if_true]
  rw[Int.neg_ediv_of_dvd (pS.2 h),oS]
theorem ark{m:Int}{e:Nat}(he:0<e):(mkRat m e).num=m/((Nat.gcd m.natAbs e:Nat):Int)∧(mkRat m e).den=e/Nat.gcd m.natAbs e:=by
 rw[Rat.num_mkRat,Rat.den_mkRat,if_neg (by omega),if_neg (by omega),iX]
 exact⟨rfl,rfl⟩
theorem azq{x:Nat}:(((bl x:Nat):Int)≤62)↔x<4611686018427387904:=by
 have:bl x≤62↔x<2^62:=ahq
 omega
structure aDG where
 x:SV
 y:SV
 ds:List Nat
 es:List Nat

theorem aop{G:Gh}{x y:Nat}(hx:x<18446744073709551616)(hy:y<18446744073709551616):Fn prog 211 [.int .u64 (x:Nat), .int .u64 (y:Nat)] G (fun v _=>v= .tuple #[.int .u64 ((x*y/18446744073709551616:Nat):Int), .int .u64 ((x*y%18446744073709551616:Nat):Int)]):=
 Fn.of_calls (G:=G) (ait func211 J J) (fun w=>Tryz.bits_Mul64 x y hx hy w)
theorem amG(a b:Int):a*b=if(a<0)↔(b<0) then((a.natAbs*b.natAbs:Nat):Int) else-((a.natAbs*b.natAbs:Nat):Int):=by
 rcases(by omega:a<0∨0≤a) with h|h<;>rcases(by omega:b<0∨0≤b) with h2|h2
 ·rw[if_pos (by simp[h,h2]),iK,kZ (oR h),kZ (oR h2),Int.neg_mul_neg]
 ·rw[if_neg (by simp[h];omega),iK,kZ (oR h),mX h2,Int.neg_mul,Int.neg_neg]
 ·rw[if_neg (by simp[h2];omega),iK,mX h,kZ (oR h2),Int.mul_neg,Int.neg_neg]
 ·rw[if_pos (by constructor<;>intro<;>omega),iK,mX h,mX h2]
theorem alV{p:Int}(h:p.natAbs<9223372036854775808):IntKind.i64.wrap p=p:=by rw[alC];omega

theorem ak0{n:Int}{d:Nat}(h:n<0):mkRat (-(d:Int)) n.natAbs=Rat.divInt (d:Int) n:=by
 rw[←Rat.divInt_ofNat,kZ (oR h),Rat.neg_divInt_neg]
theorem aiw{q:Rat}(h:q.num<0):(q⁻¹).num= -(q.den:Int)∧(q⁻¹).den=q.num.natAbs:=by
 rw[Rat.num_inv,Rat.den_inv,if_neg (by omega),fJ h]
 omega
theorem ajz{q:Rat}(h:0<q.num):(q⁻¹).num=(q.den:Int)∧(q⁻¹).den=q.num.natAbs:=by
 rw[Rat.num_inv,Rat.den_inv,if_neg (by omega),gK h]
 omega
end Go.Sx
end
section
namespace Go.Sx
open Go
section
variable {P:Program} {ops:Array Oper} {Q:Exit→Act→World→Prop} {S:World→Prop} {fin:Nat→Bool} {k:Nat} {π₂:List (Nat×Bool)}
def ape(ops:Array Oper)(fin:Nat→Bool)(k:Nat)(π₂:List (Nat×Bool)):List (Nat×Bool)→Array Bool→Bool
 |[],listed=>(Region.ready .any ops listed==[k])&&adp ops fin π₂ (listed.setIfInBounds k true)
 |(i,true)::r,listed=>!(Nat.beq i k)&&aki ops fin listed i&&aki ops fin (listed.setIfInBounds k true) i&&ape ops fin k π₂ r (listed.setIfInBounds i true)
 |(i,false)::r,listed=>!(Nat.beq i k)&&(Region.ready .any ops listed).all (fun j=>Nat.beq j i||Nat.beq j k)&&(Region.ready .any ops listed).contains i&&(Region.ready .any ops (listed.setIfInBounds k true)==[i])&&ape ops fin k π₂ r (listed.setIfInBounds i true)
def dwF(P:Program)(ops:Array Oper)(Q:Exit→Act→World→Prop)(S:World→Prop)(fin:Nat→Bool)(k:Nat)(π₂:List (Nat×Bool)):List (Nat×Bool)→Act→World→Prop
 |[],a,w=>wpOp P ops Q k (fun a' w'=>(fin k=true∨S w')∧dwL P ops Q S fin π₂ a' w') a w
 |(i,true)::r,a,w=> ∃o v,ops[i]? =some o∧S w∧YieldsIf P ops S o v a∧dwF P ops Q S fin k π₂ r (a.put o.dst v) w
 |(i,false)::r,a,w=>wpOp P ops Q i (fun a' w'=>(fin i=true∨S w')∧dwF P ops Q S fin k π₂ r a' w') a w∧
   wpOp P ops Q k (fun a' w'=>(fin k=true∨S w')∧dwL P ops Q S fin ((i,false)::r++π₂) a' w') a w
end
section
variable {P:Program} {C:Ctx} {n:Nat} {fr:Fr} {own own0:List Own} {G G0:Gh} {ops:Array Oper} {Q:Exit→Act→World→Prop} {fin:Nat→Bool} {k:Nat} {π π₂:List (Nat×Bool)}
def fF(d:Nat):Option Nat→Fr
 |none=>[]
 |some b=>[(d, .pointer (some ⟨b,0,none⟩))]
def fO(t:TypeId)(z:Value):Option Nat→List Own
 |none=>[]
 |some b=>[⟨b,aaf z,t,true⟩]
def dwE(P:Program)(ops:Array Oper)(Q:Exit→Act→World→Prop)(S:World→Prop)(fin:Nat→Bool)(k:Nat)(π₂:List (Nat×Bool))(fl:Option Nat)(π:List (Nat×Bool)):Act→World→Prop:=
 match fl with
 |none=>dwF P ops Q S fin k π₂ π
 |some _=>dwL P ops Q S fin (π++π₂)
end
end Go.Sx
end
section
namespace Go.Sx
open Go Go.Proofs
theorem akK{q:Rat}(h:q.den=1):q=(q.num:Int):=by
 conv=>lhs;rw[←Rat.mkRat_self q,h,qL]
def abc(a b:Rat):Int:=if a<b then-1 else if b<a then 1 else 0
theorem afY(a b:Rat):(a-b).num<0↔a<b:=by
 rw[←Rat.not_le,Rat.le_iff_sub_nonneg,←Rat.num_nonneg];omega
theorem ajw(a b:Rat):0<(a-b).num↔b<a:=by
 have h:=afY b a
 have h2:(b-a).num= -(a-b).num:=by rw[←nW,Rat.neg_sub]
 rw[h2] at h
 rw[←h];omega
theorem aih(a b:Rat):Int.sign (a-b).num=abc a b:=by
 unfold abc
 split
 ·rename_i h;exact fJ ((afY a b).2 h)
 ·rename_i h
  split
  ·rename_i h2;exact gK ((ajw a b).2 h2)
  ·rename_i h2
   rw[←afY] at h
   rw[←ajw] at h2
   rw[show(a-b).num=0 by omega];rfl
theorem arM{a b:Rat}(h:a.den=b.den):a<b↔a.num<b.num:=by
 rw[Rat.lt_iff,h]
 have:(0:Int)<b.den:=by have:=b.den_pos;omega
 exact⟨fun h2=>Int.lt_of_mul_lt_mul_right h2 (oR this),fun h2=>Int.mul_lt_mul_of_pos_right h2 this⟩
theorem aeA(a b:Rat):abc a b=0↔a=b:=by
 unfold abc
 constructor
 ·intro h
  split at h
  ·omega
  ·rename_i h1
   split at h
   ·omega
   ·rename_i h2
    exact Rat.le_antisymm (Rat.not_lt.1 h2) (Rat.not_lt.1 h1)
 ·intro h
  subst h
  rw[if_neg (Rat.not_lt.2 fR),if_neg (Rat.not_lt.2 fR)]
theorem aoU(a b:Rat):0<abc a b↔b<a:=by
 unfold abc
 constructor
 ·intro h
  split at h
  ·omega
  ·split at h
   ·assumption
   ·omega
 ·intro h
  rw[if_neg (fun h2=>Rat.not_lt.2 (dR h) h2),if_pos h];decide
theorem aoH(a b:Rat):abc a b<0↔a<b:=by
 unfold abc
 constructor
 ·intro h
  split at h
  ·assumption
  ·split at h<;>omega
 ·intro h
  rw[if_pos h];decide
def rgcd(a b:Rat):Rat:=mkRat ((Nat.gcd (a.num.natAbs*b.den) (b.num.natAbs*a.den):Nat):Int) (a.den*b.den)
theorem agG(a b:Int):rgcd a b=((Nat.gcd a.natAbs b.natAbs:Nat):Int):=by
 unfold rgcd
 show mkRat ((Nat.gcd (a.natAbs*1) (b.natAbs*1):Nat):Int) (1*1)=_
 rw[gR,gR,gR,qL]
theorem aDc{a b m:Nat}(ha:a<m)(hb:b<m):Nat.gcd a b<m:=by
 rcases fQ a with h|h
 ·rw[h,Nat.gcd_zero_left];exact hb
 ·exact fX (Nat.gcd_le_left _ h) ha
structure LV where
 a:RV
 b:RV
 c:RV
def LV.v(z:LV):Value:= .agg ⟨[.int .i64 z.a.n, .int .i64 z.a.d, .pointer z.a.p, .int .i64 z.b.n, .int .i64 z.b.d, .pointer z.b.p, .int .i64 z.c.n, .int .i64 z.c.d, .pointer z.c.p]⟩
structure LnQ where
 a:Int
 b:Int
 c:Int
structure IsL (k:Nat) (G:Gh) (z:LV) (l:LnQ):Prop where
 a:IsR k G z.a (l.a:Rat)
 b:IsR k G z.b (l.b:Rat)
 c:IsR k G z.c (l.c:Rat)
def LnQ.ok(l:LnQ):Prop:= ¬(l.a=0∧l.b=0)∧Nat.gcd (Nat.gcd l.a.natAbs l.b.natAbs) l.c.natAbs=1
def okI(neg:Bool)(ds:List Nat):Prop:=Nrm ds∧(neg=true→ds≠[])
structure PV where
 x:RV
 y:RV
def PV.v(z:PV):Value:= .agg ⟨[.int .i64 z.x.n, .int .i64 z.x.d, .pointer z.x.p, .int .i64 z.y.n, .int .i64 z.y.d, .pointer z.y.p]⟩
structure PtQ where
 x:Rat
 y:Rat
structure IsP (k:Nat) (G:Gh) (z:PV) (p:PtQ):Prop where
 x:IsR k G z.x p.x
 y:IsR k G z.y p.y
theorem af1(a:Int): -(a:Rat)=((-a:Int):Rat):=rfl
def LnQ.rev(l:LnQ):LnQ:=⟨-l.a, -l.b, -l.c⟩
def LnQ.nor(l:LnQ):PtQ:=⟨l.a,l.b⟩
def LnQ.dir(l:LnQ):PtQ:=⟨l.b, -(l.a:Rat)⟩
def PtQ.dot(p q:PtQ):Rat:=p.x*q.x+p.y*q.y
def PtQ.cross(p q:PtQ):Rat:=p.x*q.y-p.y*q.x
def PtQ.scale(p:PtQ)(c:Rat):PtQ:=⟨p.x*c,p.y*c⟩
def PtQ.add(p q:PtQ):PtQ:=⟨p.x+q.x,p.y+q.y⟩
def LnQ.value(l:LnQ)(p:PtQ):Rat:=l.nor.dot p+(l.c:Rat)
def LnQ.base(l:LnQ):PtQ:=l.nor.scale (-(l.c:Rat)/l.nor.dot l.nor)
def LnQ.at(l:LnQ)(t:Rat):PtQ:=l.base.add (l.dir.scale t)
end Go.Sx
end
section
namespace Go.Sx
open Go
instance:DecidableEq LnQ:=fun x y=>decidable_of_iff (x.a=y.a∧x.b=y.b∧x.c=y.c) (by
 cases x;cases y;simp)
structure IvQ where
 lo:Rat
 hi:Rat
 nl:Bool
 nh:Bool
def IvQ.all:IvQ:=⟨0,0,true,true⟩
def IvQ.empty(v:IvQ):Bool:=!v.nl&&(!v.nh&&decide (0≤abc v.lo v.hi))
def IvQ.meet(v w:IvQ):IvQ:=
 ⟨if v.nl then w.lo else if w.nl then v.lo else if v.lo<w.lo then w.lo else v.lo,
  if v.nh then w.hi else if w.nh then v.hi else if w.hi<v.hi then w.hi else v.hi,v.nl&&w.nl,v.nh&&w.nh⟩
def IvQ.sample(v:IvQ):Rat:=if v.nl&&v.nh then 0 else if v.nl then v.hi-1 else if v.nh then v.lo+1 else(v.lo+v.hi)*mkRat 1 2
def LnQ.cutK(l m:LnQ):Rat:=m.nor.dot l.dir
def LnQ.cutC(l m:LnQ):Rat:=m.value l.base
def LnQ.cutV(l:LnQ)(v:IvQ)(m:LnQ):IvQ:=
 if Int.sign (l.cutK m).num=0 then v
 else if Int.sign (l.cutK m).num=1 then v.meet ⟨-(l.cutC m/l.cutK m),0,false,true⟩
 else v.meet ⟨0, -(l.cutC m/l.cutK m),true,false⟩
def LnQ.cutB(l:LnQ)(v:IvQ)(m:LnQ):Bool:=
 if Int.sign (l.cutK m).num=0 then decide (0<Int.sign (l.cutC m).num) else !(l.cutV v m).empty
structure FrQ where
 l:LnQ
 v:IvQ
abbrev aag:=List FrQ
def agL(l:LnQ):aag→IvQ→Option IvQ
 |[],v=>some v
 |s::t,v=>if l.cutB v s.l then agL l t (l.cutV v s.l) else none
def aeW(c:aag)(l:LnQ):Option IvQ:=agL l c IvQ.all
def ael(l:LnQ)(s:FrQ):Int:=Int.sign (l.value (s.l.at s.v.sample)).num
def ad8(l:LnQ):aag→Int
 |[]=> -1
 |s::t=>if ael l s≠0 then ael l s else if s.l=l then 1 else ad8 l t
def aii(c:aag)(l:LnQ):Int:=if(aeW c l).isSome then 0 else ad8 l c
def PtQ.half(p:PtQ):Int:=
 if 0<Int.sign p.y.num∨(Int.sign p.y.num=0∧0<Int.sign p.x.num) then 1 else if Int.sign p.y.num<0∨Int.sign p.x.num<0 then 2 else 0
def aa5(u v:PtQ):Int:=if u.half<v.half then-1 else if v.half<u.half then 1 else-(Int.sign (u.cross v).num)
def abM(l:LnQ):aag→aag
 |[]=>[]
 |s::t=>if s.l.cutB s.v l then⟨s.l,s.l.cutV s.v l⟩::abM l t else abM l t
def bsq(p:Nat→Bool)(i j:Nat):Nat:=
 if h:i<j then(if p ((i+j)/2) then bsq p ((i+j)/2+1) j else bsq p i ((i+j)/2)) else i
termination_by j-i
def aeg(c:aag)(l:LnQ)(i:Nat):Bool:=match c[i]? with
 |some s=>decide (aa5 s.l.dir l.dir<0)
 |none=>false
def aoz(c:aag)(l:LnQ)(v:IvQ):aag:=
 c.take (bsq (aeg c l) 0 c.length)++⟨l,v⟩::c.drop (bsq (aeg c l) 0 c.length)
def aaN(c:aag)(l:LnQ):aag:=match aeW c l with
 |some v=>aoz (abM l c) l v
 |none=>c
def abo(c:aag)(l:LnQ):Bool:=match aeW c l with
 |some _=>true
 |none=>decide (0<aii c l)
theorem apv(p:Nat→Bool): ∀(d i j:Nat),j-i≤d→i≤j→i≤bsq p i j∧bsq p i j≤j
 |0,i,j,h,hij=>by
  rw[bsq,dif_neg (by omega)];omega
 |d+1,i,j,h,hij=>by
  rw[bsq]
  split
  ·split
   ·have:=apv p d ((i+j)/2+1) j (by omega) (by omega);omega
   ·have:=apv p d i ((i+j)/2) (by omega) (by omega);omega
  ·omega
theorem amM(l:LnQ): ∀c:aag,(abM l c).length≤c.length
 |[]=>aL _
 |s::t=>by
  have:=amM l t
  unfold abM
  split<;>simp<;>omega
theorem avC(c:aag)(l:LnQ)(v:IvQ):(aoz c l v).length=c.length+1:=by
 have:=(apv (aeg c l) c.length 0 c.length (by omega) (by omega)).2
 simp[aoz];omega
theorem ad3(c:aag)(l:LnQ):(aaN c l).length≤c.length+1:=by
 unfold aaN
 split
 ·rw[avC];have:=amM l c;omega
 ·omega
/-! ### trees -/
inductive Tr where
 |leaf (b:Bool)
 |node (l:LnQ) (x y:Tr)
def Tr.isLeaf:Tr→Bool
 | .leaf _=>true
 | .node .. =>false
def Tr.code:Tr→Bool
 | .leaf b=>b
 | .node .. =>false
def Tr.depth:Tr→Nat
 | .leaf _=>0
 | .node _ x y=>1+max x.depth y.depth
def Tr.size:Tr→Nat
 | .leaf _=>0
 | .node _ x y=>1+x.size+y.size
def Tr.joinQ(l:LnQ)(x y:Tr):Tr:=if x.isLeaf&&(y.isLeaf&&(x.code==y.code)) then x else .node l x y
def Tr.restrict:Tr→aag→Tr
 | .leaf b,_=> .leaf b
 | .node l x y,c=>if !abo c l.rev then x.restrict c else if !abo c l then y.restrict c else joinQ l (x.restrict (aaN c l)) (y.restrict (aaN c l.rev))
def Tr.parts:Tr→aag→List (Bool×aag)
 | .leaf b,c=>[(b,c)]
 | .node l x y,c=>(if abo c l then x.parts (aaN c l) else [])++(if abo c l.rev then y.parts (aaN c l.rev) else [])
def Tr.all(p:LnQ→Prop):Tr→Prop
 | .leaf _=>True
 | .node l x y=>p l∧x.all p∧y.all p
def Tr.good:Tr→Prop
 | .leaf _=>True
 | .node _ x y=> ¬(x.isLeaf=true∧y.isLeaf=true∧x.code=y.code)∧x.good∧y.good
structure NQ where
 l:LnQ
 a:Int
 b:Int
def acS(b:Bool):Int:=if b then-2 else-1
def Tr.num:Tr→Nat→Int
 | .leaf b,_=>acS b
 | .node ..,n=>n
def Tr.wr:Tr→Nat→List NQ
 | .leaf _,_=>[]
 | .node l x y,n=>⟨l,x.num (n+1),y.num (n+1+x.size)⟩::x.wr (n+1)++y.wr (n+1+x.size)
theorem Tr.wr_len: ∀(t:Tr) (n:Nat),(t.wr n).length=t.size
 | .leaf _,n=>rfl
 | .node l x y,n=>by
  have h1:=Tr.wr_len x (n+1)
  have h2:=Tr.wr_len y (n+1+x.size)
  simp[Tr.wr,Tr.size,h1,h2];omega
theorem Tr.size_lt: ∀t:Tr,t.size<2^t.depth
 | .leaf _=>by simp[Tr.size,Tr.depth]
 | .node l x y=>by
  have h1:=x.size_lt
  have h2:=y.size_lt
  have e1:2^x.depth≤2^max x.depth y.depth:=bK (by omega) (nS ..)
  have e2:2^y.depth≤2^max x.depth y.depth:=bK (by omega) (nZ ..)
  simp only[Tr.size,Tr.depth,jX 1 (max _ _),dV]
  omega
theorem Tr.joinQ_cases(l:LnQ)(x y:Tr):(Tr.joinQ l x y=x∧x.isLeaf=true)∨(Tr.joinQ l x y= .node l x y∧ ¬(x.isLeaf=true∧y.isLeaf=true∧x.code=y.code)):=by
 unfold Tr.joinQ
 split
 ·rename_i h
  simp at h
  exact .inl ⟨rfl,h.1⟩
 ·rename_i h
  simp at h
  exact .inr ⟨rfl,fun⟨a,b,c⟩=>h a b c⟩
theorem Tr.restrict_depth: ∀(t:Tr) (c:aag),(t.restrict c).depth≤t.depth
 | .leaf b,c=>aL _
 | .node l x y,c=>by
  unfold Tr.restrict
  split
  ·have:=x.restrict_depth c;simp only[Tr.depth];omega
  ·split
   ·have:=y.restrict_depth c;simp only[Tr.depth];omega
   ·have h1:=x.restrict_depth (aaN c l)
    have h2:=y.restrict_depth (aaN c l.rev)
    rcases Tr.joinQ_cases l (x.restrict (aaN c l)) (y.restrict (aaN c l.rev)) with⟨h,_⟩|⟨h,_⟩
    ·rw[h];simp only[Tr.depth];omega
    ·rw[h];simp only[Tr.depth];omega
theorem Tr.restrict_all(p:LnQ→Prop): ∀(t:Tr) (c:aag),t.all p→(t.restrict c).all p
 | .leaf b,c,_=>trivial
 | .node l x y,c,h=>by
  obtain⟨h0,h1,h2⟩:=h
  unfold Tr.restrict
  split
  ·exact x.restrict_all p c h1
  ·split
   ·exact y.restrict_all p c h2
   ·rcases Tr.joinQ_cases l (x.restrict (aaN c l)) (y.restrict (aaN c l.rev)) with⟨h,_⟩|⟨h,_⟩
    ·rw[h];exact x.restrict_all p _ h1
    ·rw[h];exact⟨h0,x.restrict_all p _ h1,y.restrict_all p _ h2⟩
end Go.Sx
end
