import Derived.Test.YtidmgdlbilojcaaGreatDoorTi8
set_option linter.unusedSimpArgs false
set_option maxHeartbeats 2000000
set_option maxRecDepth 100000
set_option linter.unusedVariables false
section
namespace Go.Sx
open Go Go.Proofs Tryz
theorem aE2{V n:Nat}(h1:4294967296^(n-1)≤V)(h2:V<4294967296^n)(hn:0<n):(dg V).length=n:=by
 obtain⟨e,hk,hr⟩:=aaD V
 have hne:dg V≠[]:=fun h=>by
  rw[h] at e
  have:0<4294967296^(n-1):=eX (by decide)
  simp[dv] at e;omega
 have h3:=af3 hr hne
 have h4:=aey hk
 rw[e] at h3 h4
 have h5:=(nM (a:=4294967296) (by decide)).1 (fS h3 h2)
 have h6:=(nM (a:=4294967296) (by decide)).1 (fS h1 h4)
 omega
theorem ath{t s:Nat}(h0:0<t)(ht:t<4294967296)(hs:s=32-bl t):s<32∧2147483648≤t*2^s∧(t+1)*2^s≤4294967296:=by
 have h1:bl t≤32:=ahx.2 ht
 have h2:bl t≠0:=fun h=>by
  have:=awO t
  rw[h] at this;omega
 have h3:=awO t
 have h4: ¬t<2^(bl t-1):=fun h=>by
  have:=ahx.2 h
  omega
 have e1:2^(bl t-1)*2^s=2147483648:=by rw[←fV,show bl t-1+s=31 by omega]
 have e2:2^bl t*2^s=4294967296:=by rw[←fV,show bl t+s=32 by omega]
 refine⟨by omega,?_,?_⟩
 ·rw[←e1];exact bW _ (by omega)
 ·rw[←e2];exact bW _ h3
theorem aGl{us:List Nat}(h:DOk us)(i:Nat)(hd:us.length=i+1):dv us=us.getD i 0*4294967296^i+dv (us.take i):=by
 have h0:dv (us.drop (i+1))=0:=by rw[fX (by omega)];rfl
 rw[aeA us i,afE us i,h0,kZ,bL];rfl
theorem aua{b:List Nat}(h:Nrm b)(i:Nat)(hi:b.length=i+1):0<b.getD i 0:=by
 rcases eK (b.getD i 0) with h0|h0
 ·exfalso
  apply h
  rw[lK,hi,show i+1-1=i from rfl]
  rw[List.getD,aQ (by omega)] at h0
  rw[aQ (by omega)]
  simpa using h0
 ·exact h0
theorem axA(a:List Nat)(k:Nat):dv (a++List.replicate k 0)=dv a:=by rw[aes,acI];simp
structure aBm where
 us:List Nat
 qs:List Nat
 j:Nat
structure aw6 where
 g:Nat
 r:Nat
structure aD9 where
 ws:List Nat
 k:Nat
 bo:Nat
 c:Nat
theorem ax8{P:Program}{t:TypeId}(c:Nat)(h:c<18446744073709551616)(w:World):(binOp .and t (.int .u64 (c:Int)) (.int .u64 4294967295)).run P w= .ok (.int .u64 ((c%4294967296:Nat):Int)) w:=by
 have h1:(BitVec.ofInt 64 (c:Int) &&& BitVec.ofInt 64 4294967295).toNat=c%4294967296:=by
  rw[BitVec.toNat_and,BitVec.ofInt_natCast,BitVec.toNat_ofNat,dV (by omega),show(BitVec.ofInt 64 4294967295).toNat=2^32-1 from rfl,Nat.and_two_pow_sub_one_eq_mod]
 have h2:IntKind.u64.wrap ((c%4294967296:Nat):Int)=((c%4294967296:Nat):Int):=by rw[ab6];omega
 simp only[binOp]
 show(Op.intBits .and .u64 (c:Int) 4294967295).run P w=_
 unfold Op.intBits
 show(pure (Value.int .u64 (IntKind.u64.wrap ((BitVec.ofInt 64 (c:Int) &&& BitVec.ofInt 64 4294967295).toNat:Int))):Sem Value).run P w=_
 rw[h1,h2,run_pure]
def msx(u m bo:Nat):Nat:=if m+bo≤u then u-(m+bo) else u+18446744073709551616-(m+bo)
theorem sub2(u m bo:Nat)(hu:u<4294967296)(hm:m<4294967296)(hb:bo≤1):IntKind.u64.wrap (IntKind.u64.wrap ((u:Int)-(m:Int))-(bo:Int))=((msx u m bo:Nat):Int):=by
 rw[ab6,ab6]
 unfold msx
 split<;>omega
theorem aq1(u m bo:Nat)(hu:u<4294967296)(hm:m<4294967296)(hb:bo≤1):msx u m bo%4294967296+(m+bo)=u+msx u m bo/9223372036854775808*4294967296∧msx u m bo/9223372036854775808≤1∧msx u m bo<18446744073709551616:=by
 unfold msx
 split<;>omega
theorem aw5{A B G:Gh}{x y:SV}{a b:List Nat}{k1 k2:Nat}(hx:IsD A x a)(hy:IsD B y b)[GL A G][GL B G](hna:Nrm a)(hnb:Nrm b)(hb2:2≤b.length)(hle:dv b≤dv a)
  (hq:dv a/dv b<2^k1)(hr:dv a%dv b<2^k2)(hl:a.length≤112589990684):
  Fn prog 252 [x.v,y.v] G (fun v G'=> ∃z r:SV,v= .tuple #[z.v,r.v]∧IsN k1 G' z (dv a/dv b)∧IsN k2 G' r (dv a%dv b)):=by
 have hxl:=hx.len
 have hyl:=hy.len
 obtain⟨n,hn⟩: ∃n,b.length=n+2:=⟨b.length-2,by omega⟩
 have hbp:0<dv b:=iJ fun h=>by
  rw[av7 hnb] at h
  rw[h] at hn;simp at hn
 have hnm:b.length≤a.length:=by
  rcases iZ a.length b.length with h|h
  ·have:=acW hx.ok hnb h
   omega
  ·exact h
 have htp:=aua hnb (n+1) hn
 have htl:=hy.ok.get (n+1)
 have hbv:=aGl hy.ok (n+1) hn
 have hbt:=afT hy.ok (n+1)
 obtain⟨s,hs⟩: ∃s,s=32-bl (b.getD (n+1) 0):=⟨_,rfl⟩
 obtain⟨hs32,hs1,hs2⟩:=ath htp htl hs
 have hble:bl (b.getD (n+1) 0)≤32:=ahx.2 htl
 have hpn:0<4294967296^(n+1):=eX (by decide)
 have hps:0<2^s:=eX (by decide)
 have hV1:2147483648*4294967296^(n+1)≤dv b*2^s:=by
  refine cR (bW _ hs1) ?_
  rw[bN,bL (2^s),←bN]
  exact bW _ (by omega)
 have hV2:dv b*2^s<4294967296^(n+2):=by
  refine dX (kR (k:=2^s) (m:=(b.getD (n+1) 0+1)*4294967296^(n+1)) (by rw[cS,oU];omega) hps) ?_
  rw[bN,bL (4294967296^(n+1)),←bN,azw (n+1),bL _ 4294967296]
  exact bW _ hs2
 have hVl:(dg (dv b*2^s)).length=n+2:=aE2 (by show 4294967296^(n+1)≤_;omega) hV2 (by omega)
 have hal:=aey hx.ok
 have hU2:dv a*2^s<4294967296^(a.length+1):=by
  rw[azw]
  exact oK hal (dX (Nat.pow_lt_pow_right (by decide) hs32) (by decide))
 have hUl1:(dg (dv a*2^s)).length≤a.length+1:=by
  have h1:=atd (aaD (dv a*2^s)).2.2 (k:=32*(a.length+1)) (by rw[(aaD _).1,pV];exact hU2)
  omega
 have hUl0:a.length≤(dg (dv a*2^s)).length:=by
  have hane:a≠[]:=fun h=>by
   have:=congrArg List.length h
   simp only[fU] at this;omega
  have h1:=af3 hna hane
  have h2:=aey (aaD (dv a*2^s)).2.1
  rw[(aaD _).1] at h2
  have h3:dv a≤dv a*2^s:=qN _ hps
  have h4:=(nM (a:=4294967296) (by decide)).1 (fS (cR h1 h3) h2)
  omega
 have hU3:dv a*2^s<dv b*2^s*4294967296^(a.length-n-1):=by
  have h1:4294967296^(n+1)*4294967296^(a.length-n-1)=4294967296^a.length:=by rw[←fV,show n+1+(a.length-n-1)=a.length by omega]
  refine dX (kR hal hps) (cR (eY _ (bT (by decide) (show s≤31 by omega))) ?_)
  rw[←h1,bL,←bN]
  exact bW _ hV1
 have hta:=anH hna
 have htb:=anH hnb
 refine Fn.intro func252 J J ntmps252 rfl ?_
 intro C _ _
 refine sR<|sa J J<|sa J J<|zE<|awq<|sR<|sm J J<|sm J J<|ads J J<|sy (aba J J) rfl<|?_
 refine sy (ab3 hy J J (by omega) (by omega)) rfl<|?_
 rw[show((y.n:Int)-1).toNat=n+1 by omega]
 refine sy (ab2 hy rfl (by omega)) rfl<|?_
 refine sc (zC J J (aj5 htl) rfl ?_)
 rintro _ G1 _ rfl
 refine sy (aaK rfl) rfl<|?_
 rw[show(32-(bl (b.getD (n+1) 0):Int))=(s:Int) by omega]
 refine sa J J<|zE<|sR<|sm J J<|sm J J<|?_
 refine sc (zC J J (au6 (kk:=32*(a.length+1)) hx hs32 (by rw[pV];exact hU2) (by omega)) rfl ?_)
 rintro _ G2 _ ⟨u,rfl,hu,huc⟩
 have hul:=hu.len
 rw[hta] at huc
 refine sc (alp (by rfl) (by rfl) (by rfl) (by rfl) rfl ?_)
 intro b3
 refine sc (adb (z:= .int .u32 0) (m:=2) J J (aEi hu.d) (aiV inferInstance rfl) (by omega) (by decide) (by omega) rfl ?_)
 intro b4 cap h1
 have ecs:(dg (dv a*2^s)).map dI++[Value.int .u32 0, .int .u32 0]++abo (.int .u32 0) (cap-(u.n+2))=(dg (dv a*2^s)++List.replicate (cap-u.n) 0).map dI:=by
  rw[ad3,show cap-u.n=(cap-(u.n+2))+1+1 by omega,iV,iV]
  simp[dI]
 rw[ecs]
 clear ecs
 have hus:dv (dg (dv a*2^s)++List.replicate (cap-u.n) 0)=dv a*2^s:=by rw[axA,(aaD _).1]
 have huo:DOk (dg (dv a*2^s)++List.replicate (cap-u.n) 0):=(aaD _).2.1.append (.replicate _)
 have hulen:(dg (dv a*2^s)++List.replicate (cap-u.n) 0).length=cap:=by simp;omega
 generalize dg (dv a*2^s)++List.replicate (cap-u.n) 0=us0 at hus huo hulen⊢
 refine sm J J<|ads J J<|sy (aas J J) rfl<|sy (ac6 J J (by omega) (by omega)) rfl<|sa J J<|zE<|sR<|sm J J<|?_
 refine sm J J<|?_
 refine sc (zC J J (au6 (kk:=32*(n+2)) hy hs32 (by rw[pV];exact hV2) (by omega)) rfl ?_)
 rintro _ G4 _ ⟨v,rfl,hv,_⟩
 have hvl:=hv.len
 obtain⟨hvv,hvo,hvn⟩:=aaD (dv b*2^s)
 replace hv:=hv.d
 rw[hVl] at hvl
 generalize hvs:dg (dv b*2^s)=vs at*
 refine sa J J<|zE<|sR<|sm J J<|ads J J<|sa J J<|zE<|aan<|dr (fun _=>false) [(0,true),(1,true),(2,true),(3,true),(4,true),(5,true),(6,true),(7,true),(8,true),(9,true),(10,true),(11,true),(12,true),(13,true)] follows (by kernel_rfl)<|?_
 refine dM J J J<|dM J J J<|dy rfl (fun _=>aba J J (by omega) (by omega)) J J<|dy rfl (fun _=>ab3 hv J J (by omega) (by omega)) J J<|?_
 rw[show((v.n:Int)-1).toNat=n+1 by omega]
 have hvt:=hvo.get (n+1)
 have hv2:=hvo.get n
 refine dy rfl (fun _=>ab2 hv rfl (by omega)) J J<|dy rfl (fun _=>aaK rfl (by omega) (by omega)) J J<|dM J J J<|dM J J J<|?_
 refine dy rfl (fun _=>aba J J (by omega) (by omega)) J J<|dy rfl (fun _=>ab3 hv J J (by omega) (by omega)) J J<|?_
 rw[show((v.n:Int)-2).toNat=n by omega]
 refine dy rfl (fun _=>ab2 hv rfl (by omega)) J J<|?_
 refine dy rfl (fun _=>aaK rfl (by omega) (by omega)) J J<|dA J J J<|dA J J J<|dn<|sR<|sm J J<|?_
 refine ads J J<|sm J J<|sy (aba J J) rfl<|?_
 obtain⟨l,hlq⟩: ∃l,a.length=n+1+l:=⟨a.length-n-1,by omega⟩
 rw[show a.length-n-1=l by omega] at hU3
 rw[show(((x.n:Int)+1).toNat:Int)-v.n=(l:Nat) by omega,show((x.n:Int)+1).toNat=a.length+1 by omega]
 refine sc (ae0 J J (by omega) (by omega) (by omega) (by rfl) rfl ?_)
 intro b5
 rw[ad3,bK]
 refine aAI [_,_] (.cons_cons _ (.cons_cons _ (.cons _ .slnil))) ?_
 refine sa J J<|zE<|aan<|awk<|aan<|sR<|sm J J<|ads J J<|sy (aba J J) rfl<|sa J J<|zE<|aat<|?_
 refine acm (X:=aBm) (fun q=>[(13, .int .i64 ((q.j:Int)-1)),(7, .slice (some ⟨b4,0,none⟩) (a.length+1) cap),(9, .int .i64 v.n),(10, .int .u64 (vs.getD (n+1) 0:Nat)),(11, .int .u64 (vs.getD n 0:Nat)),(8, .slice v.a v.n v.c),(12, .slice (some ⟨b5,0,none⟩) l l),(6, .int .u64 s)])
  (fun q=>[⟨b5,q.qs.map dI,215,true⟩,⟨b4,q.us.map dI,215,true⟩])
  (fun q _=>q.us.length=cap∧DOk q.us∧q.qs.length=l∧DOk q.qs∧q.j≤l∧(∀i,i<q.j→q.qs.getD i 0=0)∧dv a*2^s=dv q.us+dv vs*dv q.qs∧dv q.us<dv vs*4294967296^q.j) (fun q=>q.j) ⟨us0,List.replicate l 0,l⟩
  ⟨hulen,huo,by simp, .replicate _,aM _,fun i _=>by simp[List.getD,List.getElem?_replicate];split<;>rfl,by simp only[acI];omega,by simp only[hus,hvv];exact hU3⟩ (.cons rfl (.cons rfl (.cons rfl (.cons rfl (.cons rfl (.cons rfl (.cons rfl (.cons rfl .nil)))))))) rfl ?_
 rintro ⟨us,qs,j⟩ Gx _ ⟨hul2,huo2,hql,hqo,hjl,hq0,hinv,hlt⟩
 simp only[] at hul2 huo2 hql hqo hjl hq0 hinv hlt⊢
 refine aan<|sR<|sm J J<|sy (ahY J J) rfl<|zE<|?_
 refine abC rfl (fun hc=>?_) (fun hc=>?_) -- slot 68
 ·have hj0:j=0:=by omega
  subst hj0
  refine abI<|abY<|abY<|aau<|aan<|?_
  refine acr b5 (.hd ..) (fun G5 _ hgb5=>?_)
  refine acr b4 (.hd ..) (fun G6 _ hgb4=>?_)
  refine dr (fun _=>false) [(0,true),(2,true),(3,true),(4,true),(5,true),(1,false),(6,false),(7,true),(8,true)] follows (by kernel_rfl)<|?_
  have hDq:IsD G6 ⟨some ⟨b5,0,none⟩,l,l⟩ qs:= .of_block hqo (hgb5.up (G:=G6)) hql.symm (aM _) (by rw[aR (by simp)])
  have hut:dv (us.take (n+2))=dv us:=by
   have h0:=aeA us (n+2)
   rw[aix (by rw[rJ,gN,hvv] at hlt;omega)] at h0
   omega
  have hDu:IsD G6 ⟨some ⟨b4,0,none⟩,n+2,cap⟩ (us.take (n+2)):= .of_block (huo2.take _) hgb4.h (by simp;omega) (by omega) (by rw[gX,cJ,fM (by omega)])
  have hV0:0<dv vs:=by rw[hvv];exact iL hbp hps
  rw[rJ,gN] at hlt
  have hdq:dv a/dv b=dv qs:=by
   rw[←Nat.mul_div_mul_right _ _ hps,hinv,←hvv,lS _ _ hV0,jJ hlt,fQ]
  have hdr:dv a%dv b=dv (us.take (n+2))/2^s:=by
   have:dv us=dv a%dv b*2^s:=by
    rw[←rT,hinv,←hvv,nJ,dV hlt]
   rw[hut,this,Nat.mul_div_cancel _ hps]
  refine dM J J J<|dM J J J<|dM J J J<|dy rfl (fun _=>ac6 J J (by omega) (by omega)) J J<|?_
  rw[show(v.n:Int).toNat=n+2 by omega]
  refine dM J J J<|?_
  refine dc J J (zC J J (aa2 hDq (by omega)) rfl ?_)
  rintro _ G7 _ rfl
  refine aBD<|?_
  refine dc J J (zC J J (aBx (kk:=k2) hDu hs32 (by rw[←hdr];exact hr) (by simp;omega)) rfl ?_)
  rintro _ G8 _ ⟨r,rfl,hr8⟩
  refine aBD<|dA J J J<|dA J J J<|dn<|aaH<|?_
  refine zD (.tmp rfl (.tmp rfl .nil)) ⟨⟨some ⟨b5,0,none⟩,(trimD qs).length,l⟩,r,rfl,?_,?_⟩
  ·rw[hdq]
   refine⟨?_,by rw[←hdq];exact hq⟩
   rw[adv hqo]
   exact hDq.trim.up
  ·rw[hdr];exact hr8
 obtain⟨i,rfl⟩: ∃i,j=i+1:=⟨j-1,by omega⟩
 rw[show(((i+1:Nat):Int)-1)=i by omega]
 have hpi:0<4294967296^i:=eX (by decide)
 -- the digits that the guess looks at
 obtain⟨p,hp⟩: ∃p,p=4294967296^(i+n):=⟨_,rfl⟩
 obtain⟨V,hV⟩: ∃V,V=dv vs*4294967296^i:=⟨_,rfl⟩
 have hvB:dv vs<4294967296^(n+2):=by rw[hvv];exact hV2
 have hvh:=aGk hvo n hvB
 have hltV:dv us<V*4294967296:=by rw[hV,bN,←azw];exact hlt
 have hV0:0<V:=by rw[hV];exact iL (by rw[hvv];exact iL hbp hps) hpi
 have hT0:0<vs.getD (n+1) 0:=aua hvn (n+1) hVl
 have hVp:V=(vs.getD (n+1) 0*4294967296+vs.getD n 0)*p+dv (vs.take n)*4294967296^i:=by
  rw[hV,hvh,cS,hp,fV,bL (4294967296^i),bN]
 have hv0:dv (vs.take n)*4294967296^i<p:=by
  rw[hp,fV,bL]
  exact Nat.mul_lt_mul_of_pos_left (afT hvo n) hpi
 have hM:dv us<4294967296^(i+n+3):=by
  refine dX hlt ?_
  rw[show i+n+3=(n+2)+(i+1) by omega,fV 4294967296 (n+2) (i+1)]
  exact bW _ (oR hvB)
 have huh:=aF0 huo2 (i+n) hM
 rw[←hp] at huh
 have hu0:=afT huo2 (i+n)
 rw[←hp] at hu0
 have hg0:=huo2.get (i+n)
 have hg1:=huo2.get (i+n+1)
 have hg2:=huo2.get (i+n+2)
 refine zK<|aan<|aat<|aan<|dr (fun _=>false) [(0,true),(1,true),(2,true),(3,true),(4,true),(5,true),(6,true),(7,true),(8,true),(9,true),(10,true),(11,true),(12,true),(13,true),(14,true),(15,true),(16,true),(17,true)] follows (by kernel_rfl)<|?_
 refine dM J J J<|dM J J J<|dM J J J<|dy rfl (fun _=>aas J J (by omega) (by omega)) J J<|?_
 refine dy rfl (fun _=>abp J J (by omega) (by omega)) J J<|?_
 rw[show((i:Int)+(v.n:Int)).toNat=i+n+2 by omega]
 refine dy rfl (fun _=>af6 rfl (by omega)) J J<|dy rfl (fun _=>aaK rfl (by omega) (by omega)) J J<|dy rfl (fun _=>ajU J J (by decide)) J J<|?_
 rw[aeg (us.getD (i+n+2) 0) 32 (by decide) (by omega) rfl]
 refine dM J J J<|dM J J J<|dM J J J<|dy rfl (fun _=>aas J J (by omega) (by omega)) J J<|?_
 refine dy rfl (fun _=>aba J J (by omega) (by omega)) J J<|dy rfl (fun _=>abp J J (by omega) (by omega)) J J<|?_
 rw[show((i:Int)+(v.n:Int)-1).toNat=i+n+1 by omega]
 refine dy rfl (fun _=>af6 rfl (by omega)) J J<|?_
 refine dy rfl (fun _=>aaK rfl (by omega) (by omega)) J J<|dy rfl (fun _=>aca J J (apn (us.getD (i+n+1) 0) (us.getD (i+n+2) 0) 32 (by omega) (by omega))) J J<|dA J J J<|dn<|aan<|?_
 obtain⟨f,hf⟩: ∃f,f=us.getD (i+n+2) 0*4294967296+us.getD (i+n+1) 0:=⟨_,rfl⟩
 rw[show us.getD (i+n+1) 0+us.getD (i+n+2) 0*2^32=f by omega]
 rw[←hf] at huh
 have hfB:f<18446744073709551616:=by omega
 refine dr (fun _=>false) [(0,true),(1,true),(2,true),(3,true),(4,true),(5,true),(6,true),(7,true)] follows (by kernel_rfl)<|?_
 refine dM J J J<|dM J J J<|dy rfl (fun _=>ahA J J (by omega) (by omega) (by omega)) J J<|dM J J J<|dM J J J<|?_
 refine dy rfl (fun _=>ahB J J (by omega) (by omega)) J J<|dA J J J<|dA J J J<|dn<|?_
 rw[show((f:Int)/((vs.getD (n+1) 0:Nat):Int))=((f/vs.getD (n+1) 0:Nat):Int) by rfl,show((f:Int)%((vs.getD (n+1) 0:Nat):Int))=((f%vs.getD (n+1) 0:Nat):Int) by rfl]
 -- GUESS
 have hUle:(f*4294967296+us.getD (i+n) 0)*p≤dv us:=by omega
 have hUlt:dv us<(f*4294967296+us.getD (i+n) 0+1)*p:=by rw[cS _ 1,oU];omega
 have hVle:(vs.getD (n+1) 0*4294967296+vs.getD n 0)*p≤V:=by rw[hVp];exact mU _ _
 have hfT:f≤vs.getD (n+1) 0*4294967296+vs.getD n 0:=aH5 hUle hVp hv0 hltV
 refine ane Nat (fun g=>[(15, .int .u64 (g:Nat)),(13, .int .i64 i),(7, .slice (some ⟨b4,0,none⟩) (a.length+1) cap),(9, .int .i64 v.n),(10, .int .u64 (vs.getD (n+1) 0:Nat)),(11, .int .u64 (vs.getD n 0:Nat)),(8, .slice v.a v.n v.c),(12, .slice (some ⟨b5,0,none⟩) l l),(6, .int .u64 s)]) (fun _=>[⟨b5,qs.map dI,215,true⟩,⟨b4,us.map dI,215,true⟩]) (fun g _=>g<4294967296∧dv us<(g+1)*V∧g*V<dv us+V) ?_ ?_
 ·refine aat<|?_
  refine acm (X:=aw6) (fun q=>[(15, .int .u64 q.g),(16, .int .u64 q.r),(13, .int .i64 i),(7, .slice (some ⟨b4,0,none⟩) (a.length+1) cap),(9, .int .i64 v.n),(10, .int .u64 (vs.getD (n+1) 0:Nat)),(11, .int .u64 (vs.getD n 0:Nat)),(8, .slice v.a v.n v.c),(12, .slice (some ⟨b5,0,none⟩) l l),(6, .int .u64 s)]) (fun _=>[⟨b5,qs.map dI,215,true⟩,⟨b4,us.map dI,215,true⟩]) (fun q _=>f=q.g*vs.getD (n+1) 0+q.r∧q.r<4294967296∧dv us<(q.g+1)*V) (fun q=>q.g) ⟨f/vs.getD (n+1) 0,f%vs.getD (n+1) 0⟩
   ⟨(Nat.div_add_mod' ..).symm,pT (cY _ hT0) hvt,azO hUlt hg0 hVle hT0⟩ (.cons rfl (.cons rfl (.cons rfl (.cons rfl (.cons rfl (.cons rfl (.cons rfl (.cons rfl (.cons rfl (.cons rfl .nil)))))))))) rfl ?_
  rintro ⟨g,r⟩ Gy _ ⟨hfg,hrB,hlo⟩
  simp only[] at hfg hrB hlo⊢
  have hgT:g*1≤g*vs.getD (n+1) 0:=eY _ hT0
  refine aan<|sR<|sm J J<|sy (adJ J J (by decide)) rfl<|?_
  rw[aeX g 32 (by decide) rfl]
  refine sy (aia J J) rfl<|sm J J<|?_
  refine aci 97 rfl (fun hg=>?_) (fun hg=>?_)
  ·have hgB:4294967296≤g:=by omega
   have hdec:dv us<g*V:=dX hltV (by rw[bL];exact bW _ hgB)
   refine ss J J J J<|ss J J J J<|ss J J J J<|ss J J J J<|ss J J J J<|ss J J J J<|ss J J J J<|ss J J J J<|ss J J J J<|?_
   refine ss J J J J<|ss J J J J<|ss J J J J<|ss J J J J<|ss J J J J<|ss J J J J<|sy (ac9 J J) rfl<|zE<|adc rfl<|?_
   refine zK<|aat<|?_
   obtain⟨g',rfl⟩: ∃g',g=g'+1:=⟨g-1,by rcases eK g with h|h;(rw[h,lY] at hdec;omega);omega⟩
   refine sR<|sm J J<|sy (atF J J (by omega) (by omega)) rfl<|sa J J<|zE<|sR<|sm J J<|sm J J<|sy (aee J J) rfl<|?_
   refine sa J J<|zE<|sR<|sm J J<|sy (adJ J J (by decide)) rfl<|?_
   rw[show((g'+1:Nat):Int)-1=(g':Nat) by omega,show((r:Int)+((vs.getD (n+1) 0:Nat):Int))=((r+vs.getD (n+1) 0:Nat):Int) from rfl,aeX (r+vs.getD (n+1) 0) 32 (by decide) rfl]
   have hfg':f=g'*vs.getD (n+1) 0+(r+vs.getD (n+1) 0):=by rw[hfg,cS,oU];omega
   refine sy (aia J J) rfl<|zE<|?_
   refine aaE rfl (fun hc3=>?_) (fun hc3=>?_) -- slot 121
   ·have hr3:4294967296≤r+vs.getD (n+1) 0:=by omega
    have hgB:g'<4294967296:=by
     rcases iZ g' 4294967296 with h|h
     ·exact h
     ·have:=bW (vs.getD (n+1) 0) h
      omega
    have hgS:g'*vs.getD n 0≤(r+vs.getD (n+1) 0)*4294967296+us.getD (i+n) 0:=by
     have h1:=lR (oR hgB) (oR hv2)
     omega
    refine abI<|ag0 rfl<|abY<|aau<|?_
    exact ajZ g' ⟨hgB,hdec,aCm hUle hVp hv0 hT0 hfg' hgB hgS⟩ (.cons rfl (.cons rfl (.cons rfl (.cons rfl (.cons rfl (.cons rfl (.cons rfl (.cons rfl (.cons rfl .nil))))))))) rfl
   refine zK<|?_
   exact aa6 ⟨g',r+vs.getD (n+1) 0⟩ ⟨hfg',by show r+vs.getD (n+1) 0<_;omega,hdec⟩ (by show g'<g'+1;omega) (.cons rfl (.cons rfl (.cons rfl (.cons rfl (.cons rfl (.cons rfl (.cons rfl (.cons rfl (.cons rfl (.cons rfl .nil)))))))))) rfl
  have hgB:g<4294967296:=by omega
  have hgS:g*vs.getD n 0<4294967296*4294967296:=oK hgB hv2
  have e2:(g:Int)*((vs.getD n 0:Nat):Int)=((g*vs.getD n 0:Nat):Int):=rfl
  refine syg J J (aaQ rfl) rfl<|syg J J (aaQ rfl) rfl<|syg J J (aow J J (by rw[e2];omega) (by rw[e2];omega)) rfl<|syg J J (aaQ rfl) rfl<|syg J J (ajU J J (by decide)) rfl<|?_
  rw[aeg r 32 (by decide) (by omega) rfl]
  refine syg J J (aaQ rfl) rfl<|syg J J (aaQ rfl) rfl<|syg J J (aaQ rfl) rfl<|syg J J (aas J J) rfl<|syg J J (aba J J) rfl<|?_
  refine syg J J (abp J J (by omega) (by omega)) rfl<|?_
  rw[show((i:Int)+(v.n:Int)-2).toNat=i+n by omega]
  refine syg J J (af6 rfl (by omega)) rfl<|syg J J (aaK rfl) rfl<|syg J J (aca J J (apn (us.getD (i+n) 0) r 32 (by omega) (by omega))) rfl<|?_
  refine syg J J (ahc J J) rfl<|sy (abD J J) rfl<|zE<|?_
  rw[e2]
  refine abC rfl (fun hc2=>?_) (fun hc2=>?_) -- slot 113
  ·refine abI<|abY<|abY<|aau<|?_
   exact ajZ g ⟨hgB,hlo,aCm hUle hVp hv0 hT0 hfg hgB (by omega)⟩ (.cons rfl (.cons rfl (.cons rfl (.cons rfl (.cons rfl (.cons rfl (.cons rfl (.cons rfl (.cons rfl .nil))))))))) rfl
  have hdec:dv us<g*V:=aEq hUlt hVle hfg (by omega)
  refine zK<|aat<|?_
  obtain⟨g',rfl⟩: ∃g',g=g'+1:=⟨g-1,by rcases eK g with h|h;(rw[h,lY] at hdec;omega);omega⟩
  refine sR<|sm J J<|sy (atF J J (by omega) (by omega)) rfl<|sa J J<|zE<|sR<|sm J J<|sm J J<|sy (aee J J) rfl<|?_
  refine sa J J<|zE<|sR<|sm J J<|sy (adJ J J (by decide)) rfl<|?_
  rw[show((g'+1:Nat):Int)-1=(g':Nat) by omega,show((r:Int)+((vs.getD (n+1) 0:Nat):Int))=((r+vs.getD (n+1) 0:Nat):Int) from rfl,aeX (r+vs.getD (n+1) 0) 32 (by decide) rfl]
  have hfg':f=g'*vs.getD (n+1) 0+(r+vs.getD (n+1) 0):=by rw[hfg,cS,oU];omega
  refine sy (aia J J) rfl<|zE<|?_
  refine aaE rfl (fun hc3=>?_) (fun hc3=>?_) -- slot 121
  ·have hr3:4294967296≤r+vs.getD (n+1) 0:=by omega
   have hgB:g'<4294967296:=by
    rcases iZ g' 4294967296 with h|h
    ·exact h
    ·have:=bW (vs.getD (n+1) 0) h
     omega
   have hgS:g'*vs.getD n 0≤(r+vs.getD (n+1) 0)*4294967296+us.getD (i+n) 0:=by
    have h1:=lR (oR hgB) (oR hv2)
    omega
   refine abI<|ag0 rfl<|abY<|aau<|?_
   exact ajZ g' ⟨hgB,hdec,aCm hUle hVp hv0 hT0 hfg' hgB hgS⟩ (.cons rfl (.cons rfl (.cons rfl (.cons rfl (.cons rfl (.cons rfl (.cons rfl (.cons rfl (.cons rfl .nil))))))))) rfl
  refine zK<|?_
  exact aa6 ⟨g',r+vs.getD (n+1) 0⟩ ⟨hfg',by show r+vs.getD (n+1) 0<_;omega,hdec⟩ (by show g'<g'+1;omega) (.cons rfl (.cons rfl (.cons rfl (.cons rfl (.cons rfl (.cons rfl (.cons rfl (.cons rfl (.cons rfl (.cons rfl .nil)))))))))) rfl
 rintro g Gz _ ⟨hgB,hlo,hhi⟩
 -- SUB
 refine sR<|sa J J<|sa J J<|zE<|aan<|sR<|sm J J<|ads J J<|sm J J<|zE<|aat<|?_
 refine acm (X:=aD9) (fun q=>[(18, .int .u64 q.c),(17, .int .u64 q.bo),(124, .int .i64 q.k),(123, .int .i64 v.n),(122, .slice v.a v.n v.c),(15, .int .u64 (g:Nat)),(13, .int .i64 i),(7, .slice (some ⟨b4,0,none⟩) (a.length+1) cap),(9, .int .i64 v.n),(10, .int .u64 (vs.getD (n+1) 0:Nat)),(11, .int .u64 (vs.getD n 0:Nat)),(8, .slice v.a v.n v.c),(12, .slice (some ⟨b5,0,none⟩) l l),(6, .int .u64 s)]) (fun q=>[⟨b5,qs.map dI,215,true⟩,⟨b4,q.ws.map dI,215,true⟩])
  (fun q _=>q.ws.length=cap∧DOk q.ws∧q.k≤n+2∧q.bo≤1∧q.c<4294967296∧dv q.ws<4294967296^(i+n+3)∧dv q.ws+g*(dv (vs.take q.k)*4294967296^i)=dv us+(q.bo+q.c)*4294967296^(i+q.k)) (fun q=>n+2-q.k) ⟨us,0,0,0⟩
  ⟨hul2,huo2,bX _,bX _,by show(0:Nat)<4294967296;decide,hM,by simp[dv]⟩ (.cons rfl (.cons rfl (.cons rfl (.cons rfl (.cons rfl (.cons rfl (.cons rfl (.cons rfl (.cons rfl (.cons rfl (.cons rfl (.cons rfl (.cons rfl (.cons rfl .nil)))))))))))))) rfl ?_
 rintro ⟨ws,k,bo,c⟩ Gy _ ⟨hwl,hwo,hk,hbo,hc4,hwM,hw⟩
 simp only[] at hwl hwo hk hbo hc4 hwM hw⊢
 refine sR<|sy (acu J J) rfl<|zE<|aan<|?_
 refine abC rfl (fun hkc=>?_) (fun hkc=>?_) -- slot 125
 ·have hkn:k=n+2:=by omega
  subst hkn
  rw[aR (by omega),←hV] at hw
  refine abI<|abY<|abY<|aau<|sR<|sm J J<|sm J J<|sm J J<|sy (aas J J) rfl<|sy (abp J J (by omega) (by omega)) rfl<|?_
  rw[show((i:Int)+(v.n:Int)).toNat=i+n+2 by omega]
  have hwg:=hwo.get (i+n+2)
  refine sy (af6 rfl (by omega)) rfl<|sy (aaK rfl) rfl<|sm J J<|sy (agn J J) rfl<|sm J J<|sy (agn J J) rfl<|?_
  rw[sub2 _ _ _ hwg hc4 hbo]
  obtain⟨hx1,hx2,hx3⟩:=aq1 (ws.getD (i+n+2) 0) c bo hwg hc4 hbo
  generalize msx (ws.getD (i+n+2) 0) c bo=xx at hx1 hx2 hx3⊢
  refine sa J J<|zE<|sR<|sm J J<|sm J J<|sm J J<|sy (aas J J) rfl<|sm J J<|sy (abm rfl) rfl<|sy (abp J J (by omega) (by omega)) rfl<|?_
  rw[show((i:Int)+(v.n:Int)).toNat=i+n+2 by omega]
  refine sc (aa9 (d:=xx%4294967296) J J (by rw[oJ];rfl) (.tl _ _ _ _ _ _ _ _ (.hd ..)) (by omega) rfl ?_)
  have hs2:=afp ws (i+n+2) (xx%4294967296) (by omega)
  have hl2:=aAd hs2 hw hx1
  rw[←azw] at hl2
  have hM2:=ag6 (i:=i+n+2) (d:=xx%4294967296) hwo (cY _ (by decide)) hwM (by omega)
  have ho2:=hwo.set (i+n+2) (d:=xx%4294967296) (cY _ (by decide))
  have hn2:(ws.set (i+n+2) (xx%4294967296)).length=cap:=by rw[aN];exact hwl
  generalize ws.set (i+n+2) (xx%4294967296)=ws2 at hl2 hM2 ho2 hn2⊢
  replace hl2:dv ws2+g*V=dv us+xx/9223372036854775808*4294967296^(i+n+3):=hl2
  have hqset: ∀d,dv (qs.set i d)=dv qs+4294967296^i*d:=fun d=>by
   have:=afp qs i d (by omega)
   rw[hq0 i (by omega)] at this
   simpa using this
  have hqz: ∀d i',i'<i→(qs.set i d).getD i' 0=0:=fun d i' h=>by
   have:=hq0 i' (by omega)
   simpa[List.getD,pX,show¬i=i' by omega] using this
  have hinv2: ∀d R,R+d*V=dv us→dv a*2^s=R+dv vs*dv (qs.set i d):=fun d R h=>by
   rw[hinv,←h,hqset,dJ,←bN,←hV,bL d];omega
  refine zE<|sR<|sm J J<|sm J J<|sm J J<|sy (abm rfl) rfl<|sy (abp J J (by omega) (by omega)) rfl<|?_
  rw[bK]
  refine sc (aa9 (d:=g) J J (ay0 g hgB) (.hd ..) (by omega) rfl ?_)
  refine zE<|aan<|sR<|sm J J<|sy (adJ J J (by decide)) rfl<|?_
  rw[aeX xx 63 (by decide) rfl]
  refine sy (ab9 J J) rfl<|zE<|?_
  refine aaE rfl (fun ht=>?_) (fun ht=>?_) -- slot 184
  ·have ht0:xx/2^63=0:=by omega
   rw[show xx/9223372036854775808=xx/2^63 from rfl,ht0,lY,dY] at hl2
   refine abI<|abY<|aau<|aao<|sm J J<|sy (aba J J) rfl<|sa J J<|zE<|?_
   exact aa6 ⟨ws2,qs.set i g,i⟩ ⟨hn2,ho2,by simpa using hql,hqo.set _ hgB,by show i≤l;omega,hqz g,hinv2 g _ hl2,by show dv ws2<_;rw[←hV];exact aA4 hlo hl2⟩ (by show i<i+1;omega) (.cons rfl (.cons rfl (.cons rfl (.cons rfl (.cons rfl (.cons rfl (.cons rfl (.cons rfl .nil)))))))) rfl
  have ht1:xx/9223372036854775808=1:=by
   have:xx/9223372036854775808≠0:=fun h=>ht (by rw[show xx/2^63=xx/9223372036854775808 from rfl,h];rfl)
   omega
  rw[ht1,oU] at hl2
  obtain⟨g',rfl⟩: ∃g',g=g'+1:=⟨g-1,by rcases eK g with h|h;(rw[h,lY] at hl2;omega);omega⟩
  refine zK<|sR<|sm J J<|sm J J<|sy (abp J J (by omega) (by omega)) rfl<|?_
  rw[bK]
  refine sy (af6 rfl (by simp;omega)) rfl<|?_
  rw[show(qs.set i (g'+1)).getD i 0=g'+1 by simp[List.getD,pX,show i<qs.length by omega]]
  refine sy (agn J J) rfl<|sy (abp J J (by omega) (by omega)) rfl<|?_
  rw[bK]
  refine sc (aa9 (d:=g') J J (by rw[acQ];omega) (.hd ..) (by simp;omega) rfl ?_)
  rw[List.set_set]
  refine zE<|sR<|sa J J<|zE<|aan<|sR<|sm J J<|ads J J<|sm J J<|zE<|aat<|?_
  refine acm (X:=aD9) (fun q=>[(18, .int .u64 q.c),(193, .int .i64 q.k),(192, .int .i64 v.n),(191, .slice v.a v.n v.c),(13, .int .i64 i),(7, .slice (some ⟨b4,0,none⟩) (a.length+1) cap),(9, .int .i64 v.n),(10, .int .u64 (vs.getD (n+1) 0:Nat)),(11, .int .u64 (vs.getD n 0:Nat)),(8, .slice v.a v.n v.c),(12, .slice (some ⟨b5,0,none⟩) l l),(6, .int .u64 s)]) (fun q=>[⟨b5,(qs.set i g').map dI,215,true⟩,⟨b4,q.ws.map dI,215,true⟩])
   (fun q _=>q.ws.length=cap∧DOk q.ws∧q.k≤n+2∧q.c≤1∧dv q.ws<4294967296^(i+n+3)∧dv q.ws+q.c*4294967296^(i+q.k)=dv ws2+dv (vs.take q.k)*4294967296^i) (fun q=>n+2-q.k) ⟨ws2,0,0,0⟩
   ⟨hn2,ho2,bX _,bX _,hM2,by simp[dv]⟩ (.cons rfl (.cons rfl (.cons rfl (.cons rfl (.cons rfl (.cons rfl (.cons rfl (.cons rfl (.cons rfl (.cons rfl (.cons rfl (.cons rfl .nil)))))))))))) rfl ?_
  rintro ⟨wa,k,_,ca⟩ Gz _ ⟨hal2,hao,hak,hac,haM,ha⟩
  simp only[] at hal2 hao hak hac haM ha⊢
  refine sR<|sy (acu J J) rfl<|zE<|aan<|?_
  refine abC rfl (fun hkd=>?_) (fun hkd=>?_) -- slot 194
  ·have hkn:k=n+2:=by omega
   subst hkn
   rw[aR (by omega),←hV] at ha
   have hag:=hao.get (i+n+2)
   refine abI<|abY<|abY<|aau<|aao<|sm J J<|sm J J<|sm J J<|sy (aas J J) rfl<|sy (abp J J (by omega) (by omega)) rfl<|?_
   rw[show((i:Int)+(v.n:Int)).toNat=i+n+2 by omega]
   refine sy (af6 rfl (by omega)) rfl<|sm J J<|sy (abm rfl) rfl<|sy (aA8 J J) rfl<|sy (abp J J (by omega) (by omega)) rfl<|?_
   rw[show((i:Int)+(v.n:Int)).toNat=i+n+2 by omega]
   refine sc (aa9 (d:=(wa.getD (i+n+2) 0+ca)%4294967296) J J (by rw[acQ];omega) (.tl _ _ _ _ _ _ _ _ (.hd ..)) (by omega) rfl ?_)
   have hs4:=afp wa (i+n+2) ((wa.getD (i+n+2) 0+ca)%4294967296) (by omega)
   have hl4:=aBT hs4 ha
   rw[←azw] at hl4
   have hM4:=ag6 (i:=i+n+2) (d:=(wa.getD (i+n+2) 0+ca)%4294967296) hao (cY _ (by decide)) haM (by omega)
   obtain⟨hR1,hR2⟩:=aAz hhi hl2 hl4 hM2 hM4 (by omega) (Nat.succ_pos _)
   refine zE<|aao<|sm J J<|sy (aba J J) rfl<|sa J J<|zE<|?_
   exact aa6 ⟨wa.set (i+n+2) ((wa.getD (i+n+2) 0+ca)%4294967296),qs.set i g',i⟩ ⟨by simpa using hal2,hao.set _ (cY _ (by decide)),by simpa using hql,hqo.set _ (by omega),by show i≤l;omega,hqz g',hinv2 g' _ hR1,by show dv _<_;rw[←hV];exact hR2⟩ (by show i<i+1;omega) (.cons rfl (.cons rfl (.cons rfl (.cons rfl (.cons rfl (.cons rfl (.cons rfl (.cons rfl .nil)))))))) rfl
  have hvk:=hvo.get k
  have hag:=hao.get (i+k)
  refine zK<|aan<|aat<|sR<|sm J J<|sy (ab3 hv J J (by omega) (by omega)) rfl<|?_
  rw[bK]
  refine sy (ab2 hv rfl (by omega)) rfl<|sa J J<|sa J J<|zE<|aan<|?_
  refine aao<|sm J J<|sm J J<|sm J J<|sm J J<|sy (aas J J) rfl<|sy (abp J J (by omega) (by omega)) rfl<|?_
  rw[show((i:Int)+(k:Int)).toNat=i+k by omega]
  refine sy (af6 rfl (by omega)) rfl<|sy (aaK rfl) rfl<|sm J J<|sy (aaK rfl) rfl<|sy (aee J J) rfl<|sy (aee J J) rfl<|?_
  rw[show(ca:Int)+(((wa.getD (i+k) 0:Nat):Int)+((vs.getD k 0:Nat):Int))=((ca+(wa.getD (i+k) 0+vs.getD k 0):Nat):Int) from rfl]
  refine sa J J<|zE<|sR<|sm J J<|sm J J<|sm J J<|sy (aas J J) rfl<|sm J J<|sy (abm rfl) rfl<|sy (abp J J (by omega) (by omega)) rfl<|?_
  rw[show((i:Int)+(k:Int)).toNat=i+k by omega]
  refine sc (aa9 (d:=(ca+(wa.getD (i+k) 0+vs.getD k 0))%4294967296) J J (by rw[oJ];rfl) (.tl _ _ _ _ _ _ _ _ (.hd ..)) (by omega) rfl ?_)
  refine zE<|aao<|sm J J<|sy (adJ J J (by decide)) rfl<|?_
  rw[aeX (ca+(wa.getD (i+k) 0+vs.getD k 0)) 32 (by decide) rfl]
  refine sa J J<|zE<|aao<|sy (aas J J) rfl<|sm J J<|zE<|?_
  refine aa6 ⟨wa.set (i+k) ((ca+(wa.getD (i+k) 0+vs.getD k 0))%4294967296),k+1,0,(ca+(wa.getD (i+k) 0+vs.getD k 0))/2^32⟩ ⟨by simpa using hal2,hao.set _ (cY _ (by decide)),by show k+1≤_;omega,by show(ca+(wa.getD (i+k) 0+vs.getD k 0))/4294967296≤1;omega,ag6 hao (cY _ (by decide)) haM (by omega),?_⟩ (by show n+2-(k+1)<n+2-k;omega) (.cons rfl (.cons rfl (.cons rfl (.cons rfl (.cons rfl (.cons rfl (.cons rfl (.cons rfl (.cons rfl (.cons rfl (.cons rfl (.cons rfl .nil)))))))))))) rfl
  show dv (wa.set (i+k) ((ca+(wa.getD (i+k) 0+vs.getD k 0))%4294967296))+((ca+(wa.getD (i+k) 0+vs.getD k 0))/4294967296)*4294967296^(i+k+1)=dv ws2+dv (vs.take (k+1))*4294967296^i
  rw[aax,cS (dv (vs.take k)),azw,show 4294967296^k*vs.getD k 0*4294967296^i=vs.getD k 0*4294967296^(i+k) by rw[fV,bL (4294967296^k),bN,bL (4294967296^k)]]
  exact aAZ (afp wa (i+k) _ (by omega)) ha
 have hvk:=hvo.get k
 have hwg:=hwo.get (i+k)
 refine zK<|aan<|aat<|sR<|sm J J<|sy (ab3 hv J J (by omega) (by omega)) rfl<|?_
 rw[bK]
 refine sy (ab2 hv rfl (by omega)) rfl<|sa J J<|sa J J<|zE<|aan<|?_
 have hgd:g*vs.getD k 0≤4294967295*4294967295:=lR (by omega) (by omega)
 have e3:(g:Int)*((vs.getD k 0:Nat):Int)=((g*vs.getD k 0:Nat):Int):=rfl
 refine aao<|sm J J<|sm J J<|sm J J<|sy (aaK rfl) rfl<|sy (aow J J (by rw[e3];omega) (by rw[e3];omega)) rfl<|?_
 rw[e3]
 refine sy (aee J J) rfl<|?_
 rw[show(c:Int)+((g*vs.getD k 0:Nat):Int)=((c+g*vs.getD k 0:Nat):Int) from rfl]
 obtain⟨c1,hc1⟩: ∃c1,c1=c+g*vs.getD k 0:=⟨_,rfl⟩
 rw[←hc1]
 have hc1m:c1%4294967296<4294967296:=cY _ (by decide)
 refine sa J J<|zE<|sR<|sm J J<|sm J J<|sm J J<|sy (aas J J) rfl<|sy (abp J J (by omega) (by omega)) rfl<|?_
 rw[show((i:Int)+(k:Int)).toNat=i+k by omega]
 refine sy (af6 rfl (by omega)) rfl<|sy (aaK rfl) rfl<|sm J J<|sy (aca J J (ax8 c1 (by omega))) rfl<|sy (agn J J) rfl<|sm J J<|sy (agn J J) rfl<|?_
 rw[sub2 _ _ _ hwg hc1m hbo]
 obtain⟨hx1,hx2,hx3⟩:=aq1 (ws.getD (i+k) 0) (c1%4294967296) bo hwg hc1m hbo
 generalize msx (ws.getD (i+k) 0) (c1%4294967296) bo=xx at hx1 hx2 hx3⊢
 refine sa J J<|?_
 refine zE<|sR<|sm J J<|sm J J<|sm J J<|sy (aas J J) rfl<|sm J J<|sy (abm rfl) rfl<|sy (abp J J (by omega) (by omega)) rfl<|?_
 rw[show((i:Int)+(k:Int)).toNat=i+k by omega]
 refine sc (aa9 (d:=xx%4294967296) J J (by rw[oJ];rfl) (.tl _ _ _ _ _ _ _ _ (.hd ..)) (by omega) rfl ?_)
 refine zE<|sR<|sm J J<|sy (adJ J J (by decide)) rfl<|?_
 rw[aeX xx 63 (by decide) rfl]
 refine sa J J<|zE<|aao<|sm J J<|sy (adJ J J (by decide)) rfl<|?_
 rw[aeX c1 32 (by decide) rfl]
 refine sa J J<|?_
 refine zE<|aao<|sy (aas J J) rfl<|sm J J<|zE<|?_
 refine aa6 ⟨ws.set (i+k) (xx%4294967296),k+1,xx/2^63,c1/2^32⟩ ⟨by simpa using hwl,hwo.set _ (cY _ (by decide)),by show k+1≤_;omega,hx2,by show c1/4294967296<_;omega,ag6 hwo (cY _ (by decide)) hwM (by omega),?_⟩ (by show n+2-(k+1)<n+2-k;omega) (.cons rfl (.cons rfl (.cons rfl (.cons rfl (.cons rfl (.cons rfl (.cons rfl (.cons rfl (.cons rfl (.cons rfl (.cons rfl (.cons rfl (.cons rfl (.cons rfl .nil)))))))))))))) rfl
 show dv (ws.set (i+k) (xx%4294967296))+g*(dv (vs.take (k+1))*4294967296^i)=dv us+(xx/9223372036854775808+c1/4294967296)*4294967296^(i+k+1)
 rw[aax,cS (dv (vs.take k)),azw,show 4294967296^k*vs.getD k 0*4294967296^i=vs.getD k 0*4294967296^(i+k) by rw[fV,bL (4294967296^k),bN,bL (4294967296^k)],dJ,←bN g (vs.getD k 0)]
 exact azZ (afp ws (i+k) _ (by omega)) hw hc1 hx1
theorem ahP{A B G:Gh}{x y:SV}{a b:List Nat}{k1 k2:Nat}(hx:IsD A x a)(hy:IsD B y b)[GL A G][GL B G](hb0:0<dv b)
  (hq:dv a/dv b<2^k1)(hr:dv a%dv b<2^k2)(hl:a.length≤112589990684)(hl2:b.length≤112589990684):
  Fn prog 202 [x.v,y.v] G (fun v G'=> ∃z r:SV,v= .tuple #[z.v,r.v, .bool true]∧IsN k1 G' z (dv a/dv b)∧IsN k2 G' r (dv a%dv b)):=by
 have hla:=abw a
 have hlb:=abw b
 have hca:=fun G1 (_:GL A G1)=>aa2 (G:=G1) hx (by omega)
 have hcb:=fun G1 (_:GL B G1)=>aa2 (G:=G1) hy (by omega)
 have hxt:=hx.trim
 have hyt:=hy.trim
 have hna:=Nrm.trimD a
 have hnb:=Nrm.trimD b
 rw[←abb a,←abb b] at hq hr⊢
 rw[←abb b] at hb0
 generalize trimD a=a' at*
 generalize trimD b=b' at*
 refine Fn.intro func202 J J ntmps202 rfl ?_
 intro C _ _
 refine sR<|sa J J<|sa J J<|sa J J<|zE<|sR<|sm J J<|?_
 refine sc (zC J J (hca _ inferInstance) rfl ?_)
 rintro _ G1 _ rfl
 refine sm J J<|?_
 refine sc (zC J J (hcb _ inferInstance) rfl ?_)
 rintro _ G2 _ rfl
 refine sa J J<|sa J J<|zE<|aan<|aat<|sR<|sm J J<|ads J J<|sy (ab9 J J) rfl<|sa J J<|zE<|?_
 refine aaE rfl (fun hc=>?_) (fun hc=>?_) -- slot 15
 ·exfalso
  have:b'=[]:=bS (by omega)
  rw[this] at hb0
  exact absurd hb0 (by simp[dv])
 refine sR<|sm J J<|sm J J<|?_
 refine sc (zC J J (as3 hxt hyt (by omega) (by omega)) rfl ?_)
 rintro _ G3 _ rfl
 refine sy (acu J J) rfl<|sa J J<|zE<|?_
 refine aaE rfl (fun hc2=>?_) (fun hc2=>?_) -- slot 19
 ·have hlt:dv a'<dv b':=by
   unfold ahC at hc2
   split at hc2
   ·assumption
   ·split at hc2<;>omega
  refine sR<|sm J J<|?_
  refine sc (zC J J (amB hxt (by omega)) rfl ?_)
  rintro _ G4 _ ⟨z,rfl,hz⟩
  refine sa J J<|sa J J<|sa J J<|zE<|aaH<|?_
  refine zD (.tmp rfl (.tmp rfl (.tmp rfl .nil))) ⟨⟨none,0,0⟩,z,rfl,?_,?_⟩
  ·rw[jJ hlt]
   exact⟨by unfold dg;exact .nil _,eX (by decide)⟩
  ·rw[dV hlt] at hr⊢
   exact⟨by rw[arT hxt.ok hna];exact hz,hr⟩
 have hle:dv b'≤dv a':=by
  unfold ahC at hc2
  split at hc2
  ·omega
  ·omega
 refine sR<|sm J J<|ads J J<|sy (ab9 J J) rfl<|sa J J<|zE<|?_
 refine aaE rfl (fun hc3=>?_) (fun hc3=>?_) -- slot 26
 ·have hb1:b'.length=1:=by omega
  obtain⟨d,rfl⟩:=List.length_eq_one_iff.1 hb1
  have hdv:dv [d]=d:=by simp[dv]
  have hdB:=hyt.ok.head
  rw[hdv] at hb0 hq hr⊢
  refine sR<|sm J J<|sm J J<|sy (ab3 (z:=⟨y.a,1,y.c⟩) hyt J J (by omega) (by show(0:Int)<((1:Nat):Int);omega)) rfl<|sy (ab2 (i:=0) hyt rfl (by simp)) rfl<|?_
  rw[show [d].getD 0 0=d from rfl]
  refine sc (zC J J (asO (x:=⟨x.a,a'.length,x.c⟩) hxt hb0 hdB hq (by omega)) rfl ?_)
  rintro _ G5 _ ⟨z,rfl,hz⟩
  have hmB:dv a'%d<4294967296:=pT (cY _ hb0) hdB
  refine sm J J<|sx J J J<|sx J J J<|sa J J<|sa J J<|zE<|sR<|sm J J<|sm J J<|sy (aaK rfl) rfl<|?_
  refine sc (zC J J (afx (by omega)) rfl ?_)
  rintro _ G6 _ ⟨r,rfl,hr6⟩
  refine sa J J<|sa J J<|sa J J<|zE<|aaH<|?_
  exact zD (.tmp rfl (.tmp rfl (.tmp rfl .nil))) ⟨z,r,rfl,hz.up,hr6.mono hr⟩
 have hb2:2≤b'.length:=by omega
 refine zK<|sR<|sm J J<|sm J J<|?_
 refine sc (zC J J (aw5 (x:=⟨x.a,a'.length,x.c⟩) (y:=⟨y.a,b'.length,y.c⟩) hxt hyt hna hnb hb2 hle hq hr (by omega)) rfl ?_)
 rintro _ G7 _ ⟨z,r,rfl,hz,hr7⟩
 refine sm J J<|sx J J J<|sx J J J<|sa J J<|sa J J<|zE<|sR<|sm J J<|sm J J<|sa J J<|sa J J<|sa J J<|zE<|?_
 refine aaH<|?_
 exact zD (.tmp rfl (.tmp rfl (.tmp rfl .nil))) ⟨z,r,rfl,hz,hr7⟩
theorem aa8{u k:Nat}(h:u<2^k):32*(dg u).length≤k+31:=atd (aaD u).2.2 (by rw[(aaD u).1];exact h)
theorem IsN.dvl{k:Nat}{G:Gh}{x:SV}{v:Nat}(_:IsN k G x v):dv (dg v)=v:=(aaD v).1
structure aEl where
 a:SV
 b:SV
 u:Nat
 v:Nat
theorem aB7{A B G:Gh}{x y:SV}{a b:List Nat}{k k0:Nat}(hx:IsD A x a)(hy:IsD B y b)[GL A G][GL B G](ha:dv a<2^k0)(hb:dv b<2^k0)(hk0:k0≤1099511627776)
  (hg0:Nat.gcd (dv a) (dv b)<2^k)(hl:a.length≤112589990684)(hl2:b.length≤112589990684):
  Fn prog 201 [x.v,y.v] G (fun v G'=> ∃z:SV,v=z.v∧IsN k G' z (Nat.gcd (dv a) (dv b))):=by
 refine Fn.intro func201 J J ntmps201 rfl ?_
 intro C _ _
 refine sR<|sa J J<|zE<|sR<|sm J J<|?_
 refine sc (zC J J (amr hx ha (by omega)) rfl ?_)
 rintro _ G1 _ ⟨x1,rfl,hx1⟩
 refine sm J J<|?_
 refine sc (zC J J (amr hy hb (by omega)) rfl ?_)
 rintro _ G2 _ ⟨y1,rfl,hy1⟩
 generalize dv a=ua at*
 generalize dv b=ub at*
 refine sa J J<|sa J J<|zE<|aan<|aat<|?_
 refine acm (X:=aEl) (fun q=>[(0, .slice q.a.a q.a.n q.a.c),(1, .slice q.b.a q.b.n q.b.c)]) (fun _=>[]) (fun q G=>IsN k0 G q.a q.u∧IsN k0 G q.b q.v∧Nat.gcd q.u q.v=Nat.gcd ua ub) (fun q=>q.v) ⟨x1,y1,ua,ub⟩
  ⟨hx1.up,hy1,rfl⟩ (.cons rfl (.cons rfl .nil)) rfl ?_
 rintro ⟨p,q,u,v⟩ Gx _ ⟨hp,hq,hgc⟩
 simp only[] at hp hq hgc⊢
 have hpl:=hp.len
 have hql:=hq.len
 have hpb:=aa8 hp.lt
 have hqb:=aa8 hq.lt
 refine aan<|sR<|sm J J<|ads J J<|sy (ahc J J) rfl<|sm J J<|?_
 refine aci 19 rfl (fun hg=>?_) (fun hg=>?_)
 ·refine ss J J J J<|ss J J J J<|ss J J J J<|sy (ac9 J J) rfl<|zE<|adc rfl<|zK<|aat<|aan<|sR<|sm J J<|?_
  refine ads J J<|sy (ab9 J J) rfl<|zE<|?_
  refine aaE rfl (fun hc1=>?_) (fun hc1=>?_) -- slot 26
  ·refine sR<|sm J J<|sa J J<|zE<|aaH<|?_
   have hv0:v=0:=by
    have:dg v=[]:=bS (by omega)
    have h2:=hq.dvl
    rw[this] at h2
    exact h2.symm
   have hue:u=Nat.gcd ua ub:=by rw[←hgc,hv0,nQ]
   exact zD (.tmp rfl .nil) ⟨p,rfl,by rw[←hue] at hg0⊢;exact hp.mono hg0⟩
  have hv0:0<v:=iJ fun h=>by
   have h1:dg v=[]:=by rw[h];unfold dg;rfl
   rw[h1] at hql
   simp only[fU] at hql
   omega
  have hm:=cY u hv0
  refine zK<|sR<|sm J J<|sm J J<|?_
  refine sc (zC J J (ahP (k1:=k0) (k2:=k0) hp.d hq.d (by rw[hq.dvl];exact hv0) (by rw[hp.dvl];exact fS (iT _ _) hp.lt) (by rw[hp.dvl,hq.dvl];exact pT hm hq.lt) (by omega) (by omega)) rfl ?_)
  rintro _ G3 _ ⟨z,r,rfl,hz,hr⟩
  rw[hp.dvl,hq.dvl] at hr
  refine sm J J<|sx J J J<|sx J J J<|sx J J J<|sa J J<|sa J J<|sa J J<|zE<|aao<|sm J J<|sm J J<|sa J J<|sa J J<|?_
  refine zE<|?_
  exact aa6 ⟨q,r,v,u%v⟩ ⟨hq.up,hr,by show Nat.gcd v (u%v)=_;rw[←hgc,iY u,sM v u,iY]⟩ hm (.cons rfl (.cons rfl .nil)) rfl
 refine syg J J (aaQ rfl) rfl<|syg J J (aew rfl) rfl<|syg J J (ahc J J) rfl<|sy (abD J J) rfl<|zE<|?_
 refine abC rfl (fun hc=>?_) (fun hc=>?_) -- slot 23
 ·have small: ∀{w:Nat},(dg w).length≤2→w<18446744073709551616:=fun{w} h=>by
   have h1:=aey (aaD w).2.1
   rw[(aaD w).1] at h1
   exact dX h1 (cR (bT (by decide) h) (by decide))
  have hu64:u<18446744073709551616:=small (by omega)
  have hv64:v<18446744073709551616:=small (by omega)
  refine abI<|abY<|abY<|aau<|sR<|sm J J<|?_
  refine sc (zC J J (alD hp.d (by omega)) rfl ?_)
  rintro _ G4 _ rfl
  rw[hp.dvl,if_pos hu64]
  refine sm J J<|sx J J J<|sx J J J<|sa J J<|sa J J<|zE<|sR<|sm J J<|?_
  refine sc (zC J J (alD hq.d (by omega)) rfl ?_)
  rintro _ G5 _ rfl
  rw[hq.dvl,if_pos hv64]
  refine sm J J<|sx J J J<|sx J J J<|sa J J<|sa J J<|zE<|aan<|aat<|?_
  refine acm (X:=Nat×Nat) (fun q=>[(8, .int .u64 (q.1:Nat)),(10, .int .u64 (q.2:Nat))]) (fun _=>[]) (fun q _=>q.1<18446744073709551616∧q.2<18446744073709551616∧Nat.gcd q.1 q.2=Nat.gcd ua ub) (fun q=>q.2) (u,v)
   ⟨hu64,hv64,hgc⟩ (.cons rfl (.cons rfl .nil)) rfl ?_
  rintro ⟨u1,v1⟩ Gy _ ⟨hu1,hv1,hgc1⟩
  simp only[] at hu1 hv1 hgc1⊢
  refine aan<|sR<|sm J J<|sy (aia J J) rfl<|zE<|?_
  refine abC rfl (fun hc5=>?_) (fun hc5=>?_) -- slot 48
  ·refine abI<|abY<|abY<|aau<|sR<|sm J J<|?_
   refine sc (zC J J (afx hu1) rfl ?_)
   rintro _ G6 _ ⟨z,rfl,hz⟩
   refine sa J J<|zE<|aaH<|?_
   have hv0:v1=0:=by omega
   have hue:u1=Nat.gcd ua ub:=by rw[←hgc1,hv0,nQ]
   exact zD (.tmp rfl .nil) ⟨z,rfl,by rw[←hue] at hg0⊢;exact hz.mono hg0⟩
  have hv0:0<v1:=by omega
  refine zK<|aat<|dr (fun _=>false) [(0,true),(1,true),(2,true),(3,true),(4,true),(5,true)] follows (by kernel_rfl)<|dM J J J<|dM J J J<|?_
  refine dM J J J<|dy rfl (fun _=>ahB J J (by omega) (by omega)) J J<|dA J J J<|dA J J J<|dn<|?_
  exact aa6 (v1,u1%v1) ⟨hv1,pT (cY _ hv0) hv1,by show Nat.gcd v1 (u1%v1)=_;rw[←hgc1,iY u1,sM v1 u1,iY]⟩ (by show u1%v1<v1;exact cY _ hv0) (.cons rfl (.cons rfl .nil)) rfl
 refine zK<|aat<|aan<|sR<|sm J J<|?_
 refine ads J J<|sy (ab9 J J) rfl<|zE<|?_
 refine aaE rfl (fun hc1=>?_) (fun hc1=>?_) -- slot 26
 ·refine sR<|sm J J<|sa J J<|zE<|aaH<|?_
  have hv0:v=0:=by
   have:dg v=[]:=bS (by omega)
   have h2:=hq.dvl
   rw[this] at h2
   exact h2.symm
  have hue:u=Nat.gcd ua ub:=by rw[←hgc,hv0,nQ]
  exact zD (.tmp rfl .nil) ⟨p,rfl,by rw[←hue] at hg0⊢;exact hp.mono hg0⟩
 have hv0:0<v:=iJ fun h=>by
  have h1:dg v=[]:=by rw[h];unfold dg;rfl
  rw[h1] at hql
  simp only[fU] at hql
  omega
 have hm:=cY u hv0
 refine zK<|sR<|sm J J<|sm J J<|?_
 refine sc (zC J J (ahP (k1:=k0) (k2:=k0) hp.d hq.d (by rw[hq.dvl];exact hv0) (by rw[hp.dvl];exact fS (iT _ _) hp.lt) (by rw[hp.dvl,hq.dvl];exact pT hm hq.lt) (by omega) (by omega)) rfl ?_)
 rintro _ G3 _ ⟨z,r,rfl,hz,hr⟩
 rw[hp.dvl,hq.dvl] at hr
 refine sm J J<|sx J J J<|sx J J J<|sx J J J<|sa J J<|sa J J<|sa J J<|zE<|aao<|sm J J<|sm J J<|sa J J<|sa J J<|?_
 refine zE<|?_
 exact aa6 ⟨q,r,v,u%v⟩ ⟨hq.up,hr,by show Nat.gcd v (u%v)=_;rw[←hgc,iY u,sM v u,iY]⟩ hm (.cons rfl (.cons rfl .nil)) rfl
structure IV where
 neg:Bool
 a:SV
def IV.v(z:IV):Value:= .agg ⟨[.bool z.neg, .slice z.a.a z.a.n z.a.c]⟩
def zv(neg:Bool)(u:Nat):Int:=if neg then-(u:Int) else u
theorem af2(neg:Bool)(u:Nat):(zv neg u).natAbs=u:=by cases neg<;>simp[zv]
theorem aCW(neg:Bool)(u:Nat):zv (!neg) u= -zv neg u:=by cases neg<;>simp[zv]
theorem azL(n m:Bool)(u w:Nat):zv (n !=m) (u*w)=zv n u*zv m w:=by cases n<;>cases m<;>simp[zv,Int.neg_mul,Int.mul_neg]
theorem amS(neg:Bool)(u:Nat):decide (zv neg u<0)=(neg&&decide (0<u)):=by
 cases neg<;>simp[zv]
theorem adw(m:Int):zv (decide (m<0)) m.natAbs=m:=by
 unfold zv
 by_cases h:m<0<;>simp[h]<;>omega
structure IsI (k:Nat) (G:Gh) (z:IV) (m:Int):Prop where
 neg:z.neg=decide (m<0)
 abs:IsN k G z.a m.natAbs
theorem aoS(n:Bool)(u w:Nat):zv n (u+w)=zv n u+zv n w:=by cases n<;>simp[zv]<;>omega
theorem alN(p:Int):IntKind.i64.wrap p=(p+9223372036854775808)%18446744073709551616-9223372036854775808:=by
 have e:IntKind.i64.wrap p=if(true&&decide (p%2^64≥2^(64-1)))=true then p%2^64-2^64 else p%2^64:=rfl
 rw[e,show(2:Int)^64=18446744073709551616 by decide,show(2:Int)^(64-1)=9223372036854775808 by decide,Bool.true_and]
 by_cases h:p%18446744073709551616≥9223372036854775808
 ·rw[decide_eq_true h,if_pos rfl];omega
 ·rw[decide_eq_false h,if_neg (by decide)];omega
structure RV where
 n:Int
 d:Int
 p:Option Addr
def RV.v(z:RV):Value:= .agg ⟨[.int .i64 z.n, .int .i64 z.d, .pointer z.p]⟩
structure aEm (z:RV) (q:Rat):Prop where
 p:z.p=none
 n:z.n=q.num
 d:z.d=(q.den:Int)-1
 b1:q.num.natAbs<4611686018427387904
 b2:q.den<4611686018427387904
structure aIk (k:Nat) (G:Gh) (z:RV) (q:Rat):Prop where
 n:z.n=0
 d:z.d=0
 ex: ∃(b:Nat) (x:IV) (y:SV),z.p=some ⟨b,0,none⟩∧G b=some [.bool x.neg, .slice x.a.a x.a.n x.a.c, .slice y.a y.n y.c]∧IsI k G x q.num∧IsN k G y q.den
 no: ¬(q.num.natAbs<4611686018427387904∧q.den<4611686018427387904)
def IsR(k:Nat)(G:Gh)(z:RV)(q:Rat):Prop:=q.num.natAbs<2^k∧q.den<2^k∧(aEm z q∨aIk k G z q)
theorem aDt{neg:Bool}{u g:Nat}(h:g∣u):zv neg (u/g)=zv neg u/(g:Int):=by
 cases neg
 ·simp[zv]
 ·simp only[zv,if_true]
  rw[Int.neg_ediv_of_dvd (rQ.2 h),pS]
theorem aub{m:Int}{e:Nat}(he:0<e):(mkRat m e).num=m/((Nat.gcd m.natAbs e:Nat):Int)∧(mkRat m e).den=e/Nat.gcd m.natAbs e:=by
 rw[Rat.num_mkRat,Rat.den_mkRat,if_neg (by omega),if_neg (by omega),iY]
 exact⟨rfl,rfl⟩
theorem aAJ{x:Nat}:(((bl x:Nat):Int)≤62)↔x<4611686018427387904:=by
 have:bl x≤62↔x<2^62:=ahx
 omega
structure aGh where
 x:SV
 y:SV
 ds:List Nat
 es:List Nat

theorem ape{G:Gh}{x y:Nat}(hx:x<18446744073709551616)(hy:y<18446744073709551616):Fn prog 212 [.int .u64 (x:Nat), .int .u64 (y:Nat)] G (fun v _=>v= .tuple #[.int .u64 ((x*y/18446744073709551616:Nat):Int), .int .u64 ((x*y%18446744073709551616:Nat):Int)]):=
 Fn.of_calls (G:=G) (ajS func212 J J) (fun w=>Tryz.bits_Mul64 x y hx hy w)
theorem aoh(a b:Int):a*b=if(a<0)↔(b<0) then((a.natAbs*b.natAbs:Nat):Int) else-((a.natAbs*b.natAbs:Nat):Int):=by
 rcases(by omega:a<0∨0≤a) with h|h<;>rcases(by omega:b<0∨0≤b) with h2|h2
 ·rw[if_pos (by simp[h,h2]),iU,kN (pR h),kN (pR h2),Int.neg_mul_neg]
 ·rw[if_neg (by simp[h];omega),iU,kN (pR h),nU h2,Int.neg_mul,Int.neg_neg]
 ·rw[if_neg (by simp[h2];omega),iU,nU h,kN (pR h2),Int.mul_neg,Int.neg_neg]
 ·rw[if_pos (by constructor<;>intro<;>omega),iU,nU h,nU h2]
theorem anx{p:Int}(h:p.natAbs<9223372036854775808):IntKind.i64.wrap p=p:=by rw[alN];omega

theorem alU{n:Int}{d:Nat}(h:n<0):mkRat (-(d:Int)) n.natAbs=Rat.divInt (d:Int) n:=by
 rw[←Rat.divInt_ofNat,kN (pR h),Rat.neg_divInt_neg]
theorem aj2{q:Rat}(h:q.num<0):(q⁻¹).num= -(q.den:Int)∧(q⁻¹).den=q.num.natAbs:=by
 rw[Rat.num_inv,Rat.den_inv,if_neg (by omega),dT h]
 omega
theorem ajm{q:Rat}(h:0<q.num):(q⁻¹).num=(q.den:Int)∧(q⁻¹).den=q.num.natAbs:=by
 rw[Rat.num_inv,Rat.den_inv,if_neg (by omega),dS h]
 omega
theorem al3{q:Rat}(h:q.den=1):q=(q.num:Int):=by
 conv=>lhs;rw[←sL q,h,rN]
def abg(a b:Rat):Int:=if a<b then-1 else if b<a then 1 else 0
theorem aga(a b:Rat):(a-b).num<0↔a<b:=by
 rw[←Rat.not_le,Rat.le_iff_sub_nonneg,←Rat.num_nonneg];omega
theorem ai7(a b:Rat):0<(a-b).num↔b<a:=by
 have h:=aga b a
 have h2:(b-a).num= -(a-b).num:=by rw[←mK,Rat.neg_sub]
 rw[h2] at h
 rw[←h];omega
theorem air(a b:Rat):Int.sign (a-b).num=abg a b:=by
 unfold abg
 split
 ·rename_i h;exact dT ((aga a b).2 h)
 ·rename_i h
  split
  ·rename_i h2;exact dS ((ai7 a b).2 h2)
  ·rename_i h2
   rw[←aga] at h
   rw[←ai7] at h2
   rw[show(a-b).num=0 by omega];rfl
theorem atS{a b:Rat}(h:a.den=b.den):a<b↔a.num<b.num:=by
 rw[Rat.lt_iff,h]
 have:(0:Int)<b.den:=by have:=b.den_pos;omega
 exact⟨fun h2=>Int.lt_of_mul_lt_mul_right h2 (pR this),fun h2=>Int.mul_lt_mul_of_pos_right h2 this⟩
theorem aeR(a b:Rat):abg a b=0↔a=b:=by
 unfold abg
 constructor
 ·intro h
  split at h
  ·omega
  ·rename_i h1
   split at h
   ·omega
   ·rename_i h2
    exact Rat.le_antisymm (Rat.not_lt.1 h2) (Rat.not_lt.1 h1)
 ·intro h
  subst h
  rw[if_neg (Rat.not_lt.2 fW),if_neg (Rat.not_lt.2 fW)]
theorem arg(a b:Rat):0<abg a b↔b<a:=by
 unfold abg
 constructor
 ·intro h
  split at h
  ·omega
  ·split at h
   ·assumption
   ·omega
 ·intro h
  rw[if_neg (fun h2=>Rat.not_lt.2 (cM h) h2),if_pos h];decide
theorem apS(a b:Rat):abg a b<0↔a<b:=by
 unfold abg
 constructor
 ·intro h
  split at h
  ·assumption
  ·split at h<;>omega
 ·intro h
  rw[if_pos h];decide
def rgcd(a b:Rat):Rat:=mkRat ((Nat.gcd (a.num.natAbs*b.den) (b.num.natAbs*a.den):Nat):Int) (a.den*b.den)
theorem ahf(a b:Int):rgcd a b=((Nat.gcd a.natAbs b.natAbs:Nat):Int):=by
 unfold rgcd
 show mkRat ((Nat.gcd (a.natAbs*1) (b.natAbs*1):Nat):Int) (1*1)=_
 rw[gN,gN,gN,rN]
theorem aDF{a b m:Nat}(ha:a<m)(hb:b<m):Nat.gcd a b<m:=by
 rcases eK a with h|h
 ·rw[h,Nat.gcd_zero_left];exact hb
 ·exact fS (Nat.gcd_le_left _ h) ha
structure LV where
 a:RV
 b:RV
 c:RV
def LV.v(z:LV):Value:= .agg ⟨[.int .i64 z.a.n, .int .i64 z.a.d, .pointer z.a.p, .int .i64 z.b.n, .int .i64 z.b.d, .pointer z.b.p, .int .i64 z.c.n, .int .i64 z.c.d, .pointer z.c.p]⟩
structure LnQ where
 a:Int
 b:Int
 c:Int
structure IsL (k:Nat) (G:Gh) (z:LV) (l:LnQ):Prop where
 a:IsR k G z.a (l.a:Rat)
 b:IsR k G z.b (l.b:Rat)
 c:IsR k G z.c (l.c:Rat)
def LnQ.ok(l:LnQ):Prop:= ¬(l.a=0∧l.b=0)∧Nat.gcd (Nat.gcd l.a.natAbs l.b.natAbs) l.c.natAbs=1
def okI(neg:Bool)(ds:List Nat):Prop:=Nrm ds∧(neg=true→ds≠[])
structure PV where
 x:RV
 y:RV
def PV.v(z:PV):Value:= .agg ⟨[.int .i64 z.x.n, .int .i64 z.x.d, .pointer z.x.p, .int .i64 z.y.n, .int .i64 z.y.d, .pointer z.y.p]⟩
structure PtQ where
 x:Rat
 y:Rat
structure IsP (k:Nat) (G:Gh) (z:PV) (p:PtQ):Prop where
 x:IsR k G z.x p.x
 y:IsR k G z.y p.y
theorem agl(a:Int): -(a:Rat)=((-a:Int):Rat):=rfl
def LnQ.rev(l:LnQ):LnQ:=⟨-l.a, -l.b, -l.c⟩
def LnQ.nor(l:LnQ):PtQ:=⟨l.a,l.b⟩
def LnQ.dir(l:LnQ):PtQ:=⟨l.b, -(l.a:Rat)⟩
def PtQ.dot(p q:PtQ):Rat:=p.x*q.x+p.y*q.y
def PtQ.cross(p q:PtQ):Rat:=p.x*q.y-p.y*q.x
def PtQ.scale(p:PtQ)(c:Rat):PtQ:=⟨p.x*c,p.y*c⟩
def PtQ.add(p q:PtQ):PtQ:=⟨p.x+q.x,p.y+q.y⟩
def LnQ.value(l:LnQ)(p:PtQ):Rat:=l.nor.dot p+(l.c:Rat)
def LnQ.base(l:LnQ):PtQ:=l.nor.scale (-(l.c:Rat)/l.nor.dot l.nor)
def LnQ.at(l:LnQ)(t:Rat):PtQ:=l.base.add (l.dir.scale t)
end Go.Sx
end
section
namespace Go.Sx
open Go
def dU(d:Nat):DV:= .v (.int .u32 (d:Int))
def dLi(ds:List Nat):DV:= .sl (ds.map dU)
def dN(n:Nat):DV:= .sl ((dg n).map dU)
def dD(n:Nat):DV:= .sl (if n=1 then [] else(dg n).map dU)
def eI(m:Int):DV:= .ag [.v (.bool (decide (m<0))),dN m.natAbs]
def eQ(q:Rat):DV:= .ag [.v (.bool (decide (q.num<0))),dN q.num.natAbs,dD q.den]
def eP(p:PtQ):DV:= .ag [.v (.bool (decide (p.x.num<0))),dN p.x.num.natAbs,dD p.x.den, .v (.bool (decide (p.y.num<0))),dN p.y.num.natAbs,dD p.y.den]
def eL(l:LnQ):DV:= .ag [.v (.bool (decide (l.a<0))),dN l.a.natAbs, .v (.bool (decide (l.b<0))),dN l.b.natAbs, .v (.bool (decide (l.c<0))),dN l.c.natAbs]
def eR(q:Rat):DV:= .ag [.v (.bool (decide (q.num<0))),dN q.num.natAbs,dN q.den]
def ePt(p:PtQ):DV:= .ag [.v (.bool (decide (p.x.num<0))),dN p.x.num.natAbs,dN p.x.den, .v (.bool (decide (p.y.num<0))),dN p.y.num.natAbs,dN p.y.den]
def vI(n:Int):DV:= .v (.int .i64 n)
def vB(b:Bool):DV:= .v (.bool b)
theorem aCf(n:Nat):dN n=dLi (dg n):=rfl
theorem aFB{ds:List Nat}(h:DOk ds):dLi (trimD ds)=dN (dv ds):=by unfold dLi dN;rw[adv h]
theorem awY{ds:List Nat}{i:Nat}(h:i<ds.length):(ds.map dU)[i]? =some (dU (ds.getD i 0)):=by
 rw[cV,aQ h,aX,aQ h];rfl
theorem abG{ds:List Nat}{i:Nat}(h:i<ds.length):(ds.map dU)[(i:Int).toNat]? =some (dU (ds.getD i 0)):=by rw[bK];exact awY h
theorem ad5(ds:List Nat)(i d:Nat):(ds.map dU).set i (.v (.int .u32 (d:Int)))=(ds.set i d).map dU:=by rw[kQ];rfl
theorem aeW(n:Nat):List.replicate n (DV.v (.int .u32 0))=(List.replicate n 0).map dU:=by rw[List.map_replicate];rfl
theorem anS(ds:List Nat):adn 1 (ds.map dU):=fun d hd=>by
 obtain⟨n,_,rfl⟩:=bJ.1 hd;exact⟨rfl,rfl⟩
theorem adr(n:Nat)(i:Nat):(dg n).getD i 0<4294967296:=(aaD n).2.1.get i
theorem ahW:dg 0=[]:=by rw[dg,dif_pos rfl]
theorem an7:dg 1=[1]:=by rw[dg,dif_neg (by decide)];simp[ahW]
theorem acC{n:Nat}:(dg n).length=0↔n=0:=by
 constructor
 ·intro h
  have:=(aaD n).1
  rw[bS h] at this
  exact this.symm
 ·rintro rfl;rw[ahW];rfl
theorem adt:dN 0= .sl []:=by unfold dN;rw[ahW];rfl
theorem aiA{G:Gh}: ∀{ds:List Nat} {es:List Value},IsLs G (ds.map dU) es↔es=ds.map dI
 |[],es=>aaJ
 |d::t,es=>by
  rw[cK,aae]
  constructor
  ·rintro ⟨y,n,rfl,h1,h2⟩
   rw[aa4.1 h1,aiA.1 h2];rfl
  ·rintro rfl
   exact⟨_,_,rfl,aa4.2 rfl,aiA.2 rfl⟩
theorem aD2{G:Gh}{ds:List Nat}{v:Value}:Is G (dLi ds) v↔ ∃x:SV,v= .slice x.a x.n x.c∧afs G 1 x (ds.map dI):=by
 unfold dLi
 rw[adx]
 constructor
 ·rintro ⟨s,x,es,rfl,h1,h2⟩
  have:=aiA.1 h2
  subst this
  refine⟨x,rfl,?_⟩
  rcases afy (s:=1) h1 h2 (anS ds) with h|h
  ·rw[h] at h1⊢
   exact⟨h1.len,h1.cap, .inl rfl⟩
  ·subst h;exact h1
 ·rintro ⟨x,rfl,h⟩
  exact⟨1,x,_,rfl,h,aiA.2 rfl⟩
theorem aGK{G:Gh}{n k:Nat}{v:Value}(hk:n<2^k):Is G (dN n) v↔ ∃x:SV,v= .slice x.a x.n x.c∧IsN k G x n:=by
 rw[aCf,aD2]
 constructor
 ·rintro ⟨x,rfl,h⟩
  exact⟨x,rfl,⟨(aaD n).2.1,h⟩,hk⟩
 ·rintro ⟨x,rfl,h⟩
  exact⟨x,rfl,h.d.sl⟩
theorem aaA{ds:List Nat}{i:Int}{k:Nat}(hi:i=k)(h:k<ds.length):(ds.map dU)[i.toNat]? =some (dU (ds.getD k 0)):=by subst hi;exact abG h
class BN (n:Nat) (k:outParam Nat):Prop where h:n<2^k
class BI (m:Int) (k:outParam Nat):Prop where h:m.natAbs<2^k
class BQ (q:Rat) (k:outParam Nat):Prop where
 hn:q.num.natAbs<2^k
 hd:q.den<2^k
theorem BN.mono{n k k':Nat}(h:BN n k)(hk:k≤k'):BN n k':=⟨dX h.h (bT (by decide) hk)⟩
theorem abq{a b i j:Nat}(h:a<2^i)(k:b<2^j):a*b<2^(i+j):=by rw[fV];exact oK h k
theorem afI{a b i j:Nat}(h:a<2^i)(k:b<2^j):a+b<2^(i+j+1):=by
 have h1:2^i≤2^(i+j):=bT (by decide) (by omega)
 have h2:2^j≤2^(i+j):=bT (by decide) (by omega)
 rw[fZ];omega
instance BN.mul (a b i j:Nat) [h:BN a i] [k:BN b j]:BN (a*b) (i+j):=⟨abq h.h k.h⟩
instance BN.add (a b i j:Nat) [h:BN a i] [k:BN b j]:BN (a+b) (i+j+1):=⟨afI h.h k.h⟩
instance BN.sub (a b i:Nat) [h:BN a i]:BN (a-b) i:=⟨by have:=h.h;omega⟩
instance BN.div (a b i:Nat) [h:BN a i]:BN (a/b) i:=⟨fS (iT _ _) h.h⟩
instance BN.abs (m:Int) (i:Nat) [h:BI m i]:BN m.natAbs i:=⟨h.h⟩
instance BN.den (q:Rat) (i:Nat) [h:BQ q i]:BN q.den i:=⟨h.hd⟩
theorem aoY{a b i j:Nat}(h:a<2^i)(k:b<2^j):Nat.gcd a b<2^(i+j):=by
 have h1:2^i≤2^(i+j):=bT (by decide) (by omega)
 have h2:2^j≤2^(i+j):=bT (by decide) (by omega)
 rcases eK a with h0|h0
 ·subst h0;rw[Nat.gcd_zero_left];omega
 ·have:=Nat.gcd_le_left b h0;omega
instance BN.gcd (a b i j:Nat) [h:BN a i] [k:BN b j]:BN (Nat.gcd a b) (i+j):=⟨aoY h.h k.h⟩
instance BN.one:BN 1 1:=⟨by decide⟩
instance BN.zero:BN 0 0:=⟨by decide⟩
instance BI.mul (a b:Int) (i j:Nat) [h:BI a i] [k:BI b j]:BI (a*b) (i+j):=⟨by rw[jW];exact abq h.h k.h⟩
instance BI.add (a b:Int) (i j:Nat) [h:BI a i] [k:BI b j]:BI (a+b) (i+j+1):=⟨fS (Int.natAbs_add_le a b) (afI h.h k.h)⟩
instance BI.sub (a b:Int) (i j:Nat) [h:BI a i] [k:BI b j]:BI (a-b) (i+j+1):=⟨fS (Int.natAbs_sub_le a b) (afI h.h k.h)⟩
instance BI.neg (a:Int) (i:Nat) [h:BI a i]:BI (-a) i:=⟨by rw[jX];exact h.h⟩
instance BI.num (q:Rat) (i:Nat) [h:BQ q i]:BI q.num i:=⟨h.hn⟩
instance BI.nat (n:Nat) (i:Nat) [h:BN n i]:BI (n:Int) i:=⟨by rw[jZ];exact h.h⟩
theorem abO(q:Rat):0<q.den:=iJ q.den_nz
theorem ahk{m:Int}{d i:Nat}(hd:0<d)(h:m.natAbs<2^i)(k:d<2^i):BQ (mkRat m d) i:=by
 refine⟨?_,?_⟩
 ·rw[Rat.num_mkRat,if_neg (by omega)]
  have:=nK m (d.gcd m.natAbs:Nat)
  omega
 ·rw[Rat.den_mkRat,if_neg (by omega)]
  have:=iT d (d.gcd m.natAbs)
  omega
theorem BQ.mono{q:Rat}{k k':Nat}(h:BQ q k)(hk:k≤k'):BQ q k':=⟨dX h.hn (bT (by decide) hk),dX h.hd (bT (by decide) hk)⟩
theorem aeG(p q:Rat):p*q=mkRat (p.num*q.num) (p.den*q.den):=by rw[Rat.mul_def,Rat.normalize_eq_mkRat]
theorem aet(p q:Rat):p+q=mkRat (p.num*q.den+q.num*p.den) (p.den*q.den):=by rw[Rat.add_def,Rat.normalize_eq_mkRat]
instance BQ.mul (p q:Rat) (i j:Nat) [h:BQ p i] [k:BQ q j]:BQ (p*q) (i+j):=by
 rw[aeG]
 exact ahk (iL (abO p) (abO q)) (BI.mul p.num q.num i j).h (abq h.hd k.hd)
instance BQ.add (p q:Rat) (i j:Nat) [h:BQ p i] [k:BQ q j]:BQ (p+q) (i+j+1):=by
 rw[aet]
 refine ahk (iL (abO p) (abO q)) ?_ ?_
 ·have h1:=abq h.hn k.hd
  have h2:=abq k.hn h.hd
  have h3:(p.num*q.den+q.num*p.den).natAbs≤(p.num*q.den).natAbs+(q.num*p.den).natAbs:=Int.natAbs_add_le ..
  rw[jW,jW,jZ,jZ] at h3
  rw[kZ j i] at h2
  rw[fZ];omega
 ·have h1:=abq h.hd k.hd
  rw[fZ];omega
instance BQ.neg (p:Rat) (i:Nat) [h:BQ p i]:BQ (-p) i:=⟨by rw[mK,jX];exact h.hn,by rw[pW];exact h.hd⟩
instance BQ.sub (p q:Rat) (i j:Nat) [h:BQ p i] [k:BQ q j]:BQ (p-q) (i+j+1):=by
 rw[Rat.sub_eq_add_neg]
 exact BQ.add p (-q) i j
instance BQ.ofInt (m:Int) (i:Nat) [h:BI m i]:BQ (m:Rat) (i+1):=by
 refine⟨?_,?_⟩
 ·rw[qU];have:=h.h;rw[fZ];omega
 ·rw[qT];have:0<2^i:=eX (by decide);rw[fZ];omega
end Go.Sx
end
section
namespace Go.Sx
open Go Go.Proofs Tryz
variable {GB:Gh}
def aFt(p q:Int):Nat:=(BitVec.ofInt 32 p &&& BitVec.ofInt 32 q).toNat
def orN(p q:Int):Nat:=(BitVec.ofInt 32 p ||| BitVec.ofInt 32 q).toNat
def aD8(p q:Int):Nat:=(BitVec.ofInt 32 p^^^BitVec.ofInt 32 q).toNat
theorem asL{ds:List Nat}{n:Nat}(h:0<n∧n≤ds.length)(hz:ds.getD (n-1) 0=0):trimD (ds.take n)=trimD (ds.take (n-1)):=by
 obtain⟨m,rfl⟩: ∃m,n=m+1:=⟨n-1,by omega⟩
 rw[fR (by omega),kV]
 rw[kV,aX,aQ (by omega)] at hz
 simp only[lV] at hz
 rw[hz,ai4]
theorem avw{ds:List Nat}{n:Nat}(h:n≤ds.length)(hz:0<n→ds.getD (n-1) 0≠0):trimD (ds.take n)=ds.take n:=by
 rcases eK n with h0|h0
 ·subst h0;simp[trimD]
 ·obtain⟨m,rfl⟩: ∃m,n=m+1:=⟨n-1,by omega⟩
  have hz:=hz h0
  rw[fR (by omega)]
  rw[kV,aX,aQ (by omega)] at hz
  exact ahU (by simpa using hz)
theorem aBE{x y c:Nat}(hx:x<4294967296)(hy:y<4294967296)(hc:c≤1):PF GB prog 169 [.v (.int .u32 (x:Int)), .v (.int .u32 (y:Int)), .v (.int .u32 (c:Int))] (.tp [.v (.int .u32 (((x+y+c)%4294967296:Nat):Int)), .v (.int .u32 (((x+y+c)/4294967296:Nat):Int))]):=by
 refine fn (hv:=by simp only[aaj];exact⟨⟨⟨⟨⟨by omega,by omega⟩,by omega⟩,by omega⟩,by omega⟩,(by decide)⟩) func169 J J ntmps169 J J (fun C=>?_)
 exact rz rfl (by
  have e1:((x:Int)+y+c)%4294967296=(((x+y+c)%4294967296:Nat):Int):=by omega
  have e2:((x:Int)+y+c).fdiv (2^min (32:Int).toNat IntKind.u64.bits)%4294967296=(((x+y+c)/4294967296:Nat):Int):=by
   rw[show(2:Int)^min (32:Int).toNat IntKind.u64.bits=((4294967296:Nat):Int) from rfl,gV _ (by decide)]
   omega
  show DV.tp [.v (.int _ _), .v (.int _ _)]=_
  rw[e1,e2])
theorem ajI(n:Nat)(h:n<4294967296):(BitVec.ofInt 32 (n:Int)).msb=decide (2147483648≤n):=by
 rw[show BitVec.ofInt 32 (n:Int)=BitVec.ofNat 32 n from BitVec.ofInt_natCast ..]
 rw[BitVec.msb_eq_decide,BitVec.toNat_ofNat,dV (by simpa using h)]
theorem auZ(b:BitVec 32):b.toNat/2147483648=if b.msb then 1 else 0:=by
 have:=b.isLt
 rw[BitVec.msb_eq_decide]
 simp only[decide_eq_true_eq,Nat.reduceSub,Nat.reducePow] at*
 split<;>omega
theorem aj8(b:BitVec 32):BitVec.ofInt 32 (b.toNat:Int)=b:=by rw[BitVec.ofInt_natCast,BitVec.ofNat_toNat,BitVec.setWidth_eq]
theorem arB{x y c:Nat}(hx:x<4294967296)(hy:y<4294967296)(hc:c≤1):
  ((orN (aFt (aD8 IntKind.u32.max x:Nat) y:Nat) (aFt (aD8 IntKind.u32.max (aD8 x y:Nat):Nat) (IntKind.u32.wrap (IntKind.u32.wrap ((x:Int)-y)-c)):Nat):Nat):Int).fdiv (2^min (31:Int).toNat IntKind.u32.bits)=(((if x<y+c then 1 else 0):Nat):Int):=by
 rw[show((2:Int)^min (31:Int).toNat IntKind.u32.bits)=((2147483648:Nat):Int) from rfl,gV _ (by decide),←pS]
 congr 1
 have hd: ∃d:Nat,d<4294967296∧IntKind.u32.wrap (IntKind.u32.wrap ((x:Int)-y)-c)=(d:Int)∧((x≥y+c∧d=x-(y+c))∨(x<y+c∧d=x+4294967296-(y+c))):=by
  rw[acQ,acQ]
  refine⟨((((x:Int)-y)%4294967296-c)%4294967296).toNat,by omega,by omega,by omega⟩
 obtain⟨d,hd1,hd2,hd3⟩:=hd
 rw[hd2]
 unfold orN aFt aD8
 simp only[aj8]
 rw[auZ]
 simp only[BitVec.msb_or,BitVec.msb_and,BitVec.msb_xor,ajI x hx,ajI y hy,ajI d hd1]
 have h1:(BitVec.ofInt 32 IntKind.u32.max).msb=true:=by decide
 rw[h1]
 rcases iZ x 2147483648 with a|a<;>rcases iZ y 2147483648 with b|b<;>rcases iZ d 2147483648 with e|e<;>
  simp[Nat.not_le.2, *]<;>(first|omega|(split<;>omega))
theorem axZ{x y c:Nat}(hx:x<4294967296)(hy:y<4294967296)(hc:c≤1):IntKind.u32.wrap (IntKind.u32.wrap ((x:Int)-y)-c)=(((if x<y+c then x+4294967296-(y+c) else x-(y+c)):Nat):Int):=by
 rw[acQ,acQ]
 split<;>omega
theorem aAj{x y c:Nat}(hx:x<4294967296)(hy:y<4294967296)(hc:c≤1):PF GB prog 171 [.v (.int .u32 (x:Int)), .v (.int .u32 (y:Int)), .v (.int .u32 (c:Int))] (.tp [.v (.int .u32 (((if x<y+c then x+4294967296-(y+c) else x-(y+c)):Nat):Int)), .v (.int .u32 (((if x<y+c then 1 else 0):Nat):Int))]):=by
 refine fn (fu:=⟨10⟩) func171 J J ntmps171 J J (fun C=>?_)
 refine sw (fu:=⟨1⟩) _ rfl (acQ _).symm rfl<|sw (fu:=⟨6⟩) _ rfl (acQ _).symm rfl<|nt (fu:=⟨4⟩) _ J J J<|xr (fu:=⟨0⟩) _ J J J<|nt _ J J J<|?_
 exact rz rfl (by have h1:=arB hx hy hc;unfold orN aFt aD8 at h1;show DV.tp [.v (.int _ _), .v (.int _ _)]=_;rw[h1,axZ hx hy hc])
theorem af0{ds:List Nat}(hl:ds.length≤1125899906842624):PF GB prog 115 [dLi ds] (dLi (trimD ds)):=by
 refine fn func115 J J ntmps115 J J (fun C=>?_)
 refine lp (X:=Nat) (fun n=>[(0, .d (dLi ds)),(3, .d (vI (n:Nat)))]) (fun n=>[]) (fun n=>n≤ds.length∧trimD ds=trimD (ds.take n)) (fun n=>n) ds.length rfl ⟨aM _,by rw[fY]⟩ (fun _=>rfl) (fun n hk=>?_)
 obtain⟨h1,h2⟩:=hk
 refine cs 8 J J J (fun hg8=>?_) (fun hg8=>?_)
 ·
  refine ix _ rfl (aaA (k:=n-1) (by omega) (by omega)) rfl<|?_
  refine br J J J (fun hc15=>?_) (fun hc15=>?_)
  ·
   have hz:ds.getD (n-1) 0=0:=by omega
   exact at_ (n-1) ⟨⟨by omega,by rw[h2,asL (by omega) hz]⟩,(by omega)⟩
  ·
   refine sc' 0 n _ J J J J (anS _) (by omega) (by simp;omega) rfl<|?_
   exact rz rfl (by have:=avw h1 (fun _ h=>hc15 (by omega));rw[←h2] at this;show DV.sl _=_;simp[dLi,this])
 ·
  refine sc' 0 n _ J J J J (anS _) (by omega) (by simp;omega) rfl<|?_
  exact rz rfl (by obtain rfl:n=0:=(by omega);show DV.sl _=_;simp[dLi,h2,trimD])
theorem adp{a k:Nat}(h:a<2^k)(hk:k≤1000000000):(dg a).length≤100000000:=by have:=aa8 h;omega
theorem aaW(a:Nat):dv (dg a)=a:=(aaD a).1
theorem ae9(a:Nat):DOk (dg a):=(aaD a).2.1
theorem aaB(ds:List Nat):(ds.map dU).length=ds.length:=aK ..
theorem acw{ds:List Nat}{n:Nat}(h:ds.length≤n):ds.take n=ds:=aR h
theorem aea{ds:List Nat}{i:Nat}(h:ds.length≤i):ds.getD i 0=0:=by
 rw[aX,cN h];rfl
theorem ae6{ds:List Nat}{n:Nat}(h:DOk ds)(e:dv ds=n):dLi (trimD ds)=dN n:=by rw[aFB h,e]
theorem apr{a b:Nat}(h:a<b):ahC a b= -1:=by unfold ahC;rw[if_pos h]
theorem apa{a b:Nat}(h:b<a):ahC a b=1:=by unfold ahC;rw[if_neg (by omega),if_neg (by omega)]
theorem aBZ{a b:Nat}(h:a=b):ahC a b=0:=by unfold ahC;rw[if_neg (by omega),if_pos h]
theorem aum(m n:Nat):Int.sign ((m:Int)-n)=ahC m n:=by
 unfold ahC
 split
 ·exact dT (by omega)
 ·split
  ·rw[show(m:Int)-n=0 by omega];rfl
  ·exact dS (by omega)
theorem awx{a b:Nat}(h:(dg a).length≠(dg b).length):ahC (dg a).length (dg b).length=ahC a b:=by
 rcases Nat.lt_or_gt_of_ne h with h|h
 ·have:=acW (ae9 a) (aaD b).2.2 h
  rw[aaW,aaW] at this
  rw[apr h,apr this]
 ·have:=acW (ae9 b) (aaD a).2.2 h
  rw[aaW,aaW] at this
  rw[apa h,apa this]
theorem aoI{a b i:Nat}(hl:(dg a).length=(dg b).length)(hi:i<(dg a).length)(hs:(dg a).drop (i+1)=(dg b).drop (i+1)):
  ((dg a).getD i 0<(dg b).getD i 0→a<b)∧((dg b).getD i 0<(dg a).getD i 0→b<a)∧((dg a).getD i 0=(dg b).getD i 0→(dg a).drop i=(dg b).drop i):=by
 refine⟨fun h=>?_,fun h=>?_,fun h=>?_⟩
 ·have:=aqY (ae9 a) (ae9 b) i hi (by omega) hl hs h
  rwa [aaW,aaW] at this
 ·have:=aqY (ae9 b) (ae9 a) i (by omega) hi hl.symm hs.symm h
  rwa [aaW,aaW] at this
 ·rw[bQ hi,bQ (by omega:i<(dg b).length),hs]
  rw[aX,aX,aQ hi,aQ (by omega:i<(dg b).length)] at h
  simp only[lV] at h
  rw[h]
theorem aEK{z:Int}:PF GB prog 170 [vI z] (vI z.sign):=by
 refine fn func170 J J ntmps170 J J (fun C=>?_)
 refine br J J J (fun hc4=>?_) (fun hc4=>?_)
 ·
  exact rz rfl (by show DV.v (.int _ 1)=DV.v (.int _ _);rw[dS (by omega)])
 ·
  refine br J J J (fun hc6=>?_) (fun hc6=>?_)
  ·
   exact rz rfl (by show DV.v (.int _ (-1))=DV.v (.int _ _);rw[dT (by omega)])
  ·
   exact rz rfl (by show DV.v (.int _ 0)=DV.v (.int _ _);rw[show z=0 by omega];rfl)
theorem asi(u:Nat):dv [u%4294967296,u/4294967296]=u:=by simp only[dv];omega
theorem aE3{u:Nat}(h:u<18446744073709551616):DOk [u%4294967296,u/4294967296]:= .cons (by omega) (.cons (by omega) .nil)
theorem auq(u:Nat):(u:Int).fdiv (2^min (32:Int).toNat IntKind.u64.bits)=((u/4294967296:Nat):Int):=by
 rw[show(2:Int)^min (32:Int).toNat IntKind.u64.bits=((4294967296:Nat):Int) from rfl,gV _ (by decide)];rfl
theorem ah9{u:Nat}(hu:u<18446744073709551616):PF GB prog 114 [.v (.int .u64 (u:Int))] (dN u):=by
 refine fn (fu:=⟨11⟩) (hv:=by simp only[aaj];exact(by decide)) func114 J J ntmps114 J J (fun C=>?_)
 refine eqF 6 (.d (.v (.int .u64 (u/4294967296:Nat)))) rfl (by rw[auq]) ?_
 refine gx rfl<|rf (fu:=⟨0⟩) J J<|?_
 refine eqF 8 (.d (dLi [u%4294967296,u/4294967296])) rfl (by show FX.d (.sl [.v (.int _ _), .v (.int _ _)])= .d (.sl [.v (.int _ _), .v (.int _ _)]);congr 6;omega) ?_
 refine gx rfl<|cl rfl (af0 (ds:=[u%4294967296,u/4294967296]) (by simp)) rfl<|?_
 exact rz rfl (ae6 (aE3 hu) (asi u))
theorem aBO:PF GB prog 112 [] (dN 1):=by
 refine fn func112 J J ntmps112 J J (fun C=>?_)
 refine rf J J<|?_
 exact rz rfl (by unfold dN;rw[an7];rfl)
theorem asC{a b:Nat}(ha:(dg a).length≤100000000)(hb:(dg b).length≤100000000):PF GB prog 109 [dN a,dN b] (vI (ahC a b)):=by
 have hla:=aaB (dg a)
 have hlb:=aaB (dg b)
 refine fn func109 J J ntmps109 J J (fun C=>?_)
 refine br J J J (fun hc10=>?_) (fun hc10=>?_)
 ·
  refine cl rfl aEK rfl<|?_
  exact rz rfl (by show DV.v (.int _ _)=DV.v (.int _ _);rw[hla,hlb,aum,awx (by omega)])
 ·
  have hl:(dg a).length=(dg b).length:=by omega
  refine lp (X:=Nat) (fun k=>[(0, .d (dN a)),(1, .d (dN b)),(5, .d (vI ((k:Nat)-1)))]) (fun k=>[]) (fun k=>k≤(dg a).length∧(dg a).drop k=(dg b).drop k) (fun k=>k) (dg a).length rfl ⟨aM _,by rw[dR,hl,dR]⟩ (fun _=>rfl) (fun k hk=>?_)
  obtain⟨h1,h2⟩:=hk
  refine br J J J (fun hc21=>?_) (fun hc21=>?_)
  ·
   obtain⟨k,rfl⟩: ∃m,k=m+1:=⟨k-1,by omega⟩
   refine ix _ rfl (aaA (k:=k) (by omega) (by omega)) rfl<|ix _ rfl (aaA (k:=k) (by omega) (by omega)) rfl<|?_
   refine br J J J (fun hc32=>?_) (fun hc32=>?_)
   ·
    exact rz rfl (by show DV.v (.int _ 1)=DV.v (.int _ _);rw[apa ((aoI hl (by omega) h2).2.1 (by omega))])
   ·
    refine ix _ rfl (aaA (k:=k) (by omega) (by omega)) rfl<|ix _ rfl (aaA (k:=k) (by omega) (by omega)) rfl<|?_
    refine br J J J (fun hc41=>?_) (fun hc41=>?_)
    ·
     exact rz rfl (by show DV.v (.int _ (-1))=DV.v (.int _ _);rw[apr ((aoI hl (by omega) h2).1 (by omega))])
    ·
     exact at_ k ⟨⟨by omega,(aoI (i:=k) hl (by omega) h2).2.2 (by omega)⟩,(by omega)⟩
  ·
   exact rz rfl (by show DV.v (.int _ 0)=DV.v (.int _ _);rw[aBZ];obtain rfl:k=0:=(by omega);rw[iX,iX] at h2;rw[←aaW a,h2,aaW])
theorem aB4{A B W:List Nat}{i c:Nat}(hi:i<W.length)(h:dv (W.take i)+4294967296^i*c=dv (A.take i)+dv (B.take i)):
  dv ((W.set i ((A.getD i 0+B.getD i 0+c)%4294967296)).take (i+1))+4294967296^(i+1)*((A.getD i 0+B.getD i 0+c)/4294967296)=dv (A.take (i+1))+dv (B.take (i+1)):=by
 rw[abj hi,aax A,aax B,fZ,show A.getD i 0+B.getD i 0+c=c+A.getD i 0+B.getD i 0 by omega]
 exact apX h
theorem aAy{a b n:Nat}{W:List Nat}{c:Nat}(hn:n=max (dg a).length (dg b).length)(hl:W.length=n+1)(h:dv (W.take n)+4294967296^n*c=dv ((dg a).take n)+dv ((dg b).take n)):dv (W.set n c)=a+b:=by
 have e:=abj (ws:=W) (k:=n) (d:=c) (by omega)
 rw[acw (by rw[aN];omega)] at e
 rw[e,h,acw (by omega),acw (by omega),aaW,aaW]
theorem aFX{a b ia ib:Nat}[ha:BN a ia][hb:BN b ib](hi:ia≤1000000000:=by decide)(hj:ib≤1000000000:=by decide):PF GB prog 108 [dN a,dN b] (dN (a+b)):=by
 have hla:=aaB (dg a)
 have hlb:=aaB (dg b)
 have hba:=adp ha.h hi
 have hbb:=adp hb.h hj
 refine fn (fu:=⟨12⟩) func108 J J ntmps108 J J (fun C=>?_)
 obtain⟨n,hn⟩: ∃n,n=max (dg a).length (dg b).length:=⟨_,rfl⟩
 refine eqF 15 (.d (vI (n:Nat))) rfl (by show FX.d (.v (.int _ _))= .d (.v (.int _ _));congr 3;split<;>omega) ?_
 refine gx rfl<|mk ((List.replicate (n+1) 0).map dU) J J (by rw[←aeW];rfl) rfl<|?_
 refine lp (X:=List Nat×Nat×Nat) (fun⟨W,c,i⟩=>[(0, .d (dN a)),(1, .d (dN b)),(5, .d (vI (n:Nat))),(6, .rw 18),(7, .d (.v (.int .u32 (c:Nat)))),(8, .d (vI (i:Nat)))]) (fun⟨W,c,i⟩=>[(18,some (.b 215 1 (W.map dU) true))]) (fun⟨W,c,i⟩=>W.length=n+1∧DOk W∧c≤1∧i≤n∧dv (W.take i)+4294967296^i*c=dv ((dg a).take i)+dv ((dg b).take i)) (fun⟨W,c,i⟩=>n-i) ⟨List.replicate (n+1) 0,0,0⟩ rfl ⟨by simp, .replicate _,by omega,by omega,by simp[dv]⟩ (fun _=>rfl) (fun⟨W,c,i⟩ hk=>?_)
 dsimp only at hk⊢
 obtain⟨h1,h2,h3,h4,h5⟩:=hk
 have hlw:=aaB W
 have hda:=adr a i
 have hdb:=adr b i
 refine br (fu1:=⟨11⟩) J J J (fun hc21=>?_) (fun hc21=>?_)
 ·
  refine mg (fu:=⟨1⟩) (X:=Unit) (fun _=>[(0, .d (dN a)),(1, .d (dN b)),(5, .d (vI (n:Nat))),(6, .rw 18),(7, .d (.v (.int .u32 (c:Nat)))),(8, .d (vI (i:Nat))),(9, .d (dU ((dg a).getD i 0))),(10, .d (.v (.int .u32 0)))]) (fun _=>[(18,some (.b 215 1 (W.map dU) true))]) (fun _=>True) [0,1,5,6,7,8,9,10] [18] rfl ?_ (fun _=>rfl) (fun _ hm=>?_)
  ·
   refine gx rfl<|?_
   refine br J J J (fun hc27=>?_) (fun hc27=>?_)
   ·
    refine ix _ rfl (abG (by omega)) rfl<|?_
    exact at_ () trivial
   ·
    refine eqF 9 (.d (dU ((dg a).getD i 0))) rfl (by rw[aea (by omega)];rfl) ?_
    exact at_ () trivial
  ·
   refine mg (X:=Unit) (fun _=>[(0, .d (dN a)),(1, .d (dN b)),(5, .d (vI (n:Nat))),(6, .rw 18),(7, .d (.v (.int .u32 (c:Nat)))),(8, .d (vI (i:Nat))),(9, .d (dU ((dg a).getD i 0))),(10, .d (dU ((dg b).getD i 0)))]) (fun _=>[(18,some (.b 215 1 (W.map dU) true))]) (fun _=>True) [0,1,5,6,7,8,9,10] [18] rfl ?_ (fun _=>rfl) (fun _ hm=>?_)
   ·
    refine gx rfl<|?_
    refine br J J J (fun hc35=>?_) (fun hc35=>?_)
    ·
     refine ix _ rfl (abG (by omega)) rfl<|?_
     exact at_ () trivial
    ·
     refine eqF 10 (.d (dU ((dg b).getD i 0))) rfl (by rw[aea (by omega)];rfl) ?_
     exact at_ () trivial
   ·
    refine cl rfl (aBE (by omega) (by omega) (by omega)) rfl<|sb _ ((W.set i (((dg a).getD i 0+(dg b).getD i 0+c)%4294967296)).map dU) rfl (abG (by omega)) rfl (by rw[←ad5];rfl) rfl<|?_
    exact at_ ⟨W.set i (((dg a).getD i 0+(dg b).getD i 0+c)%4294967296),((dg a).getD i 0+(dg b).getD i 0+c)/4294967296,i+1⟩ (by dsimp only;exact⟨⟨by simpa using h1,h2.set _ (by omega),by omega,by omega,aB4 (by omega) h5⟩,(by omega)⟩)
 ·
  obtain rfl:i=n:=by omega
  refine sb _ ((W.set i c).map dU) rfl (abG (by omega)) rfl (by rw[←ad5];rfl) rfl<|fz 18 J J<|cl rfl (af0 (ds:=W.set i c) (by simp;omega)) rfl<|?_
  exact rz rfl (ae6 (h2.set _ (by omega)) (aAy hn h1 h5))
theorem axV{A B W:List Nat}{i c d c2:Nat}(hA:DOk A)(hB:DOk B)(hi:i<W.length)(hc:c≤1)(h:dv (W.take i)+dv (B.take i)=dv (A.take i)+4294967296^i*c)
  (hd:d=if A.getD i 0<B.getD i 0+c then A.getD i 0+4294967296-(B.getD i 0+c) else A.getD i 0-(B.getD i 0+c))(hc2:c2=if A.getD i 0<B.getD i 0+c then 1 else 0):
  dv ((W.set i d).take (i+1))+dv (B.take (i+1))=dv (A.take (i+1))+4294967296^(i+1)*c2:=by
 have h1:=hA.get i
 have h2:=hB.get i
 rw[abj hi,aax A,aax B,fZ]
 split at hd
 ·rename_i q
  rw[if_pos q] at hc2
  subst hc2 hd
  rw[kZ (B.getD i 0) c]
  exact au2 h (by omega) (by omega)
 ·rename_i q
  rw[if_neg q] at hc2
  subst hc2 hd
  rw[kZ (B.getD i 0) c]
  exact ayp h (by omega)
theorem axJ{a b c:Nat}{W:List Nat}(hw:DOk W)(hl:W.length=(dg a).length)(hb:b≤a)(h:dv (W.take (dg a).length)+dv ((dg b).take (dg a).length)=dv ((dg a).take (dg a).length)+4294967296^(dg a).length*c):dv W=a-b:=by
 have hlb:(dg b).length≤(dg a).length:=by
  rcases iZ (dg a).length (dg b).length with q|q
  ·have:=acW (ae9 a) (aaD b).2.2 q
   rw[aaW,aaW] at this
   omega
  ·exact q
 rw[acw (by omega),acw hlb,acw (aM _),aaW,aaW] at h
 have h2:=aey hw
 rw[hl] at h2
 rcases eK c with q|q
 ·subst q;omega
 ·have:4294967296^(dg a).length*1≤4294967296^(dg a).length*c:=eY _ q
  omega
theorem as5{a b ia:Nat}[ha:BN a ia](hb:b≤a)(hi:ia≤1000000000:=by decide):PF GB prog 110 [dN a,dN b] (dN (a-b)):=by
 have hla:=aaB (dg a)
 have hlb:=aaB (dg b)
 have hba:=adp ha.h hi
 refine fn (fu:=⟨9⟩) func110 J J ntmps110 J J (fun C=>?_)
 refine eqF 10 (.d (vI ((dg a).length:Nat))) rfl (by rw[hla];rfl) ?_
 refine gx rfl<|mk (fu:=⟨13⟩) ((List.replicate (dg a).length 0).map dU) J J (by rw[←aeW];rfl) rfl<|?_
 refine eqF 13 (.d (vI ((dg a).length:Nat))) rfl (by rw[hla];rfl) ?_
 refine gx rfl<|?_
 refine lp (X:=List Nat×Nat×Nat) (fun⟨W,c,i⟩=>[(0, .d (dN a)),(1, .d (dN b)),(5, .rw 11),(6, .d (.v (.int .u32 (c:Nat)))),(13, .d (vI ((dg a).length:Nat))),(14, .d (vI (i:Nat)))]) (fun⟨W,c,i⟩=>[(11,some (.b 215 1 (W.map dU) true))]) (fun⟨W,c,i⟩=>W.length=(dg a).length∧DOk W∧c≤1∧i≤(dg a).length∧dv (W.take i)+dv ((dg b).take i)=dv ((dg a).take i)+4294967296^i*c) (fun⟨W,c,i⟩=>(dg a).length-i) ⟨List.replicate (dg a).length 0,0,0⟩ rfl ⟨by simp, .replicate _,by omega,by omega,by simp[dv]⟩ (fun _=>rfl) (fun⟨W,c,i⟩ hk=>?_)
 dsimp only at hk⊢
 obtain⟨h1,h2,h3,h4,h5⟩:=hk
 have hlw:=aaB W
 have hda:=adr a i
 have hdb:=adr b i
 refine br (fu1:=⟨16⟩) J J J (fun hc15=>?_) (fun hc15=>?_)
 ·
  refine mg (X:=Unit) (fun _=>[(0, .d (dN a)),(1, .d (dN b)),(5, .rw 11),(6, .d (.v (.int .u32 (c:Nat)))),(13, .d (vI ((dg a).length:Nat))),(14, .d (vI (i:Nat))),(7, .d (vI (i:Nat))),(8, .d (dU ((dg b).getD i 0)))]) (fun _=>[(11,some (.b 215 1 (W.map dU) true))]) (fun _=>True) [0,1,5,6,13,14,7,8] [11] rfl ?_ (fun _=>rfl) (fun _ hm=>?_)
  ·
   refine gx rfl<|?_
   refine br J J J (fun hc20=>?_) (fun hc20=>?_)
   ·
    refine ix _ rfl (abG (by omega)) rfl<|?_
    exact at_ () trivial
   ·
    refine eqF 8 (.d (dU ((dg b).getD i 0))) rfl (by rw[aea (by omega)];rfl) ?_
    exact at_ () trivial
  ·
   refine ix _ rfl (abG (by omega)) rfl<|cl rfl (aAj (by omega) (by omega) (by omega)) rfl<|sb _ ((W.set i (if(dg a).getD i 0<(dg b).getD i 0+c then(dg a).getD i 0+4294967296-((dg b).getD i 0+c) else(dg a).getD i 0-((dg b).getD i 0+c))).map dU) rfl (abG (by omega)) rfl (by rw[←ad5];rfl) rfl<|?_
   exact at_ ⟨W.set i (if(dg a).getD i 0<(dg b).getD i 0+c then(dg a).getD i 0+4294967296-((dg b).getD i 0+c) else(dg a).getD i 0-((dg b).getD i 0+c)),(if(dg a).getD i 0<(dg b).getD i 0+c then 1 else 0),i+1⟩ (by dsimp only;exact⟨⟨by simpa using h1,h2.set _ (by split<;>omega),by split<;>omega,by omega,axV (ae9 a) (ae9 b) (by omega) h3 h5 J J⟩,(by omega)⟩)
 ·
  obtain rfl:i=(dg a).length:=by omega
  refine fz 11 J J<|cl rfl (af0 (ds:=W) (by omega)) rfl<|?_
  exact rz rfl (ae6 h2 (axJ h2 h1 hb h5))
end Go.Sx
end
