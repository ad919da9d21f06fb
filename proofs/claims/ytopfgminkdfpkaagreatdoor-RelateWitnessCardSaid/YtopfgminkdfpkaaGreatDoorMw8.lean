/-
  Package nat: shift to the right. Package nat: long division. Package nat: DivMod, Gcd. Package integer. Package integer: Add, Normal, FromInt, Int64. Package integer: Normal, FromInt, Int64. Package frac: the numbers, reduce. Package frac: the simple functions. Package frac: words. Package frac: lowest, Int, Neg, Inv. Package frac: Mul, Inv, Quo, Half. Package frac: Inv, Quo, Half, Add, Sub. Package frac: Add, Sub. Package frac: Sub, Cmp, Equal, Min, Max. Package frac: Min, Max. Package frac: Gcd. Package geo: lines; LnOf. Package geo: points and lines. Package geo: values, bases, points on lines. Numbers as deep values; bounds. Reference: digits (over deep values).
-/
import Derived.Test.YtopfgminkdfpkaaGreatDoorMw7
set_option linter.unusedSimpArgs false
set_option maxHeartbeats 2000000
set_option maxRecDepth 100000
set_option linter.unusedVariables false
section
namespace Go.Sx
open Go Go.Proofs
theorem auO(p k a1 a2 E:Nat)(hk:k<32)(h1:a1<4294967296)(hp:p=2^k):(a1+4294967296*(a2+4294967296*E))/p=(a1+a2*4294967296)/p%4294967296+4294967296*((a2+4294967296*E)/p):=by
 subst hp
 have hp0:0<(2:Nat)^k:=Nat.pow_pos (by omega)
 have hB:4294967296=2^(32-k)*2^k:=by rw[←Nat.pow_add,show 32-k+k=32 by omega]
 -- the quotient and the rest of the quotient by the base
 have hq:(a1+4294967296*(a2+4294967296*E))/2^k/4294967296=(a2+4294967296*E)/2^k:=by
  rw[Nat.div_div_eq_div_mul,Nat.mul_comm (2^k),←Nat.div_div_eq_div_mul,Nat.add_mul_div_left _ _ (by decide),Nat.div_eq_of_lt h1,Nat.zero_add]
 have hr:(a1+4294967296*(a2+4294967296*E))/2^k%4294967296=(a1+a2*4294967296)/2^k%4294967296:=by
  have e1:a1+4294967296*(a2+4294967296*E)=(a1+a2*4294967296)+2^k*(2^(32-k)*(4294967296*E)):=by
   rw[←Nat.mul_assoc (2^k),Nat.mul_comm (2^k) (2^(32-k)),←hB]
   omega
  rw[e1,Nat.add_mul_div_left _ _ hp0]
  rw[show 2^(32-k)*(4294967296*E)=4294967296*(2^(32-k)*E) by rw[Nat.mul_left_comm]]
  rw[Nat.add_mul_mod_self_left]
 have h:=Nat.mod_add_div ((a1+4294967296*(a2+4294967296*E))/2^k) 4294967296
 rw[hq,hr] at h
 exact h.symm
theorem atW(a:List Nat)(i:Nat):dv (a.drop i)=a.getD i 0+4294967296*dv (a.drop (i+1)):=by
 by_cases h:i<a.length
 ·rw[List.drop_eq_getElem_cons h,List.getD_eq_getElem?_getD,List.getElem?_eq_getElem h];rfl
 ·rw[List.drop_of_length_le (by omega),List.drop_of_length_le (by omega),amp (by omega)];rfl
theorem ayb{a:List Nat}(ha:DOk a)(k i:Nat)(hk:k<32):dv (a.drop i)/2^k=(a.getD i 0+a.getD (i+1) 0*4294967296)/2^k%4294967296+4294967296*(dv (a.drop (i+1))/2^k):=by
 rw[atW a i,atW a (i+1)]
 exact auO _ k _ _ _ hk (ha.get i) rfl
theorem azB{A G:Gh}{x:SV}{ds:List Nat}{k kk:Nat}(hx:IsD A x ds)[GL A G](hk32:k<32)(hk:dv ds/2^k<2^kk)(hb:ds.length≤1125899906842):
  Fn Tryz.prog 302 [x.v, .int .u64 (k:Int)] G (fun v G'=> ∃z:SV,v=z.v∧IsN kk G' z (dv ds/2^k)):=by
 have htl:=abt ds
 have hcall:=fun G1 (_:GL A G1)=>aa2 (G:=G1) hx (by omega)
 have hxt:=hx.trim
 rw[←aa9 ds] at hk⊢
 generalize trimD ds=a at*
 have hok:=hxt.ok
 refine Fn.intro Tryz.func302 J J Tryz.ntmps302 rfl ?_
 intro C _ _
 refine sR<|sa J J<|zE<|sR<|sm J J<|?_
 refine sc (zC J J (hcall _ inferInstance) rfl ?_)
 rintro _ G1 _ rfl
 refine sa J J<|zE<|aaj<|sR<|sm J J<|sy (ahq J J (by omega) (by omega) (by decide)) rfl<|sm J J<|adj J J<|sy (aaN rfl) rfl<|?_
 rw[show(k:Int)/32=0 by omega]
 refine sy (ahR J J) rfl<|zE<|?_
 refine aaH rfl (fun hc=>?_) (fun hc=>?_) -- slot 17
 ·refine sR<|sa J J<|zE<|aaL<|?_
  have:a=[]:=List.eq_nil_of_length_eq_zero (by omega)
  subst this
  refine zD (.tmp rfl .nil) ⟨⟨none,0,0⟩,rfl,?_⟩
  have e0:dv []/2^k=0:=by simp[dv]
  rw[e0]
  exact⟨by unfold dg;exact .nil _,Nat.pow_pos (by omega)⟩
 refine zK<|sR<|sm J J<|sy (ahq J J (by omega) (by omega) (by decide)) rfl<|sy (aqS rfl) rfl<|sm J J<|sy (ahC J J (by omega) (by decide)) rfl<|?_
 rw[show(k:Int)/32=0 by omega,show(k:Int)%32=k by omega]
 refine sa J J<|sa J J<|zE<|sR<|sm J J<|adj J J<|sm J J<|sy (aa7 J J) rfl<|?_
 refine sc (aeQ J J (by omega) (by omega) (by omega) (by rfl) rfl ?_)
 intro b2
 rw[aee,show((a.length:Int)-0).toNat=a.length by omega]
 refine sa J J<|zE<|aaj<|sR<|sm J J<|adj J J<|sm J J<|zE<|aas<|?_
 refine abZ (X:=ap0) (fun q=>[(30, .int .i64 q.i),(29, .int .i64 a.length),(0, .slice x.a a.length x.c),(5, .int .i64 0),(7, .slice (some ⟨b2,0,none⟩) a.length a.length),(6, .int .u64 k)])
  (fun q=>[⟨b2,q.ws.map dI,262,true⟩])
  (fun q _=>q.i≤a.length∧q.ws.length=a.length∧DOk q.ws∧dv a/2^k=dv (q.ws.take q.i)+4294967296^q.i*(dv (a.drop q.i)/2^k)) (fun q=>a.length-q.i) ⟨List.replicate a.length 0,0⟩
  ⟨Nat.zero_le _,by simp, .replicate _,by simp[dv]⟩ (.cons rfl (.cons rfl (.cons rfl (.cons rfl (.cons rfl (.cons rfl .nil)))))) rfl ?_
 rintro ⟨ws,i⟩ Gy _ ⟨hia,hwl,hwo,hinv⟩
 simp only[] at hia hwl hwo hinv⊢
 refine sR<|sy (acj J J) rfl<|zE<|aaj<|?_
 refine abn rfl (fun hc=>?_) (fun hc=>?_) -- slot 31
 ·have hin:i=a.length:=by omega
  refine abu<|abI<|abI<|aar<|sR<|sm J J<|?_
  refine aci b2 (.hd ..) (fun G3 _ hgb=>?_)
  have hD:IsD G3 ⟨some ⟨b2,0,none⟩,a.length,a.length⟩ ws:= .of_block hwo hgb.h hwl.symm (Nat.le_refl _) (by rw[List.take_of_length_le (by simp)])
  have hdv:dv a/2^k=dv ws:=by
   rw[hinv,hin,List.take_of_length_le (by omega),List.drop_length]
   simp[dv]
  refine sc (zC J J (aa2 hD (by omega)) rfl ?_)
  rintro _ G4 _ rfl
  refine sa J J<|zE<|aaL<|?_
  refine zD (.tmp rfl .nil) ⟨⟨some ⟨b2,0,none⟩,(trimD ws).length,a.length⟩,rfl,?_⟩
  have h3:=hD.trim.up (G:=G4)
  rw[hdv] at hk⊢
  exact⟨by rw[adr hwo];exact h3,hk⟩
 have hia':i<a.length:=by omega
 have hga:=hok.get i
 have hga2:=hok.get (i+1)
 refine zK<|aaj<|aas<|sR<|sm J J<|sa J J<|zE<|sR<|sm J J<|sm J J<|sm J J<|sy (aaq J J) rfl<|?_
 refine sy (abU (z:=⟨x.a,a.length,x.c⟩) hxt J J (by omega) (by show((i:Int)+0)<(a.length:Nat);omega)) rfl<|?_
 rw[show((i:Int)+0).toNat=i by omega]
 refine sy (abX hxt rfl (by omega)) rfl<|sy (aaN rfl) rfl<|sa J J<|zE<|?_
 refine amL Unit (fun _=>[(30, .int .i64 i),(8, .int .i64 i),(29, .int .i64 a.length),(0, .slice x.a a.length x.c),(5, .int .i64 0),(7, .slice (some ⟨b2,0,none⟩) a.length a.length),(6, .int .u64 k),(9, .int .u64 ((a.getD i 0+a.getD (i+1) 0*2^32:Nat):Int))]) (fun _=>[⟨b2,ws.map dI,262,true⟩]) (fun _ _=>True) ?_ ?_
 ·refine sR<|sm J J<|sm J J<|sy (aaq J J) rfl<|sy (aaq J J) rfl<|sm J J<|adj J J<|sy (acj J J) rfl<|?_
  refine zE<|?_
  refine aaH rfl (fun hc2=>?_) (fun hc2=>?_) -- slot 46
  ·refine aam<|sm J J<|sm J J<|sm J J<|sm J J<|sy (aaq J J) rfl<|sy (aaq J J) rfl<|sy (abU (z:=⟨x.a,a.length,x.c⟩) hxt J J (by omega) (by show((i:Int)+0+1)<(a.length:Nat);omega)) rfl<|?_
   rw[show((i:Int)+0+1).toNat=i+1 by omega]
   refine sy (abX hxt rfl (by omega)) rfl<|sy (aaN rfl) rfl<|sy (aj3 J J (by decide)) rfl<|?_
   rw[aem (a.getD (i+1) 0) 32 (by decide) (by omega) rfl]
   refine sy (ab5 J J (ayr (a.getD i 0) (a.getD (i+1) 0) 32 (by omega) (by omega))) rfl<|sa J J<|zE<|?_
   exact ajy () trivial (.cons rfl (.cons rfl (.cons rfl (.cons rfl (.cons rfl (.cons rfl (.cons rfl (.cons rfl .nil)))))))) rfl
  refine zK<|?_
  have h0:a.getD (i+1) 0=0:=amp (by omega)
  exact ajy () trivial (.cons rfl (.cons rfl (.cons rfl (.cons rfl (.cons rfl (.cons rfl (.cons rfl (.cons (by rw[h0,Nat.zero_mul,Nat.add_zero];rfl) .nil)))))))) rfl
 rintro _ Gz _ _
 refine aam<|sm J J<|sm J J<|sm J J<|sm J J<|sy (adU J J (by omega)) rfl<|?_
 rw[aeX _ k (by omega) (Int.toNat_natCast k)]
 refine sy (abg rfl) rfl<|sy (abf J J (by omega) (by omega)) rfl<|?_
 rw[Int.toNat_natCast]
 refine sc (aa8 (d:=(a.getD i 0+a.getD (i+1) 0*2^32)/2^k%4294967296) J J (by rw[Int.natCast_emod];rfl) (.hd ..) (by omega) rfl ?_)
 refine zE<|aam<|sy (aaq J J) rfl<|sm J J<|zE<|?_
 refine aaX ⟨ws.set i ((a.getD i 0+a.getD (i+1) 0*2^32)/2^k%4294967296),i+1⟩ ⟨by show i+1≤_;omega,by simp[hwl],hwo.set _ (Nat.mod_lt _ (by decide)),?_⟩ (by show a.length-(i+1)<a.length-i;omega) (.cons rfl (.cons rfl (.cons rfl (.cons rfl (.cons rfl (.cons rfl .nil)))))) rfl
 show dv a/2^k=dv ((ws.set i ((a.getD i 0+a.getD (i+1) 0*2^32)/2^k%4294967296)).take (i+1))+4294967296^(i+1)*(dv (a.drop (i+1))/2^k)
 rw[hinv,abe (by omega),ayb hok k i hk32,ayz i,Nat.mul_add,Nat.mul_assoc,Nat.add_assoc]
theorem aD9{V n:Nat}(h1:4294967296^(n-1)≤V)(h2:V<4294967296^n)(hn:0<n):(dg V).length=n:=by
 obtain⟨e,hk,hr⟩:=aaG V
 have hne:dg V≠[]:=fun h=>by
  rw[h] at e
  have:0<4294967296^(n-1):=Nat.pow_pos (by decide)
  simp[dv] at e;omega
 have h3:=agf hr hne
 have h4:=aeK hk
 rw[e] at h3 h4
 have h5:=(Nat.pow_lt_pow_iff_right (a:=4294967296) (by decide)).1 (Nat.lt_of_le_of_lt h3 h2)
 have h6:=(Nat.pow_lt_pow_iff_right (a:=4294967296) (by decide)).1 (Nat.lt_of_le_of_lt h1 h4)
 omega
theorem asm{t s:Nat}(h0:0<t)(ht:t<4294967296)(hs:s=32-bl t):s<32∧2147483648≤t*2^s∧(t+1)*2^s≤4294967296:=by
 have h1:bl t≤32:=ahv.2 ht
 have h2:bl t≠0:=fun h=>by
  have:=awx t
  rw[h] at this;omega
 have h3:=awx t
 have h4: ¬t<2^(bl t-1):=fun h=>by
  have:=ahv.2 h
  omega
 have e1:2^(bl t-1)*2^s=2147483648:=by rw[←Nat.pow_add,show bl t-1+s=31 by omega]
 have e2:2^bl t*2^s=4294967296:=by rw[←Nat.pow_add,show bl t+s=32 by omega]
 refine⟨by omega,?_,?_⟩
 ·rw[←e1];exact Nat.mul_le_mul_right _ (by omega)
 ·rw[←e2];exact Nat.mul_le_mul_right _ h3
theorem aEY{us:List Nat}(h:DOk us)(i:Nat)(hd:us.length=i+1):dv us=us.getD i 0*4294967296^i+dv (us.take i):=by
 have h0:dv (us.drop (i+1))=0:=by rw[List.drop_of_length_le (by omega)];rfl
 rw[aeE us i,afL us i,h0,Nat.add_comm,Nat.mul_comm];rfl
theorem avp{b:List Nat}(h:Nrm b)(i:Nat)(hi:b.length=i+1):0<b.getD i 0:=by
 rcases Nat.eq_zero_or_pos (b.getD i 0) with h0|h0
 ·exfalso
  apply h
  rw[List.getLast?_eq_getElem?,hi,show i+1-1=i from rfl]
  rw[List.getD,List.getElem?_eq_getElem (by omega)] at h0
  rw[List.getElem?_eq_getElem (by omega)]
  simpa using h0
 ·exact h0
theorem axP(a:List Nat)(k:Nat):dv (a++List.replicate k 0)=dv a:=by rw[aeH,acB];simp
structure aAG where
 us:List Nat
 qs:List Nat
 j:Nat
structure axl where
 g:Nat
 r:Nat
structure aDV where
 ws:List Nat
 k:Nat
 bo:Nat
 c:Nat
theorem axJ{P:Program}{t:TypeId}(c:Nat)(h:c<18446744073709551616)(w:World):(binOp .and t (.int .u64 (c:Int)) (.int .u64 4294967295)).run P w= .ok (.int .u64 ((c%4294967296:Nat):Int)) w:=by
 have h1:(BitVec.ofInt 64 (c:Int) &&& BitVec.ofInt 64 4294967295).toNat=c%4294967296:=by
  rw[BitVec.toNat_and,BitVec.ofInt_natCast,BitVec.toNat_ofNat,Nat.mod_eq_of_lt (by omega),show(BitVec.ofInt 64 4294967295).toNat=2^32-1 from rfl,Nat.and_two_pow_sub_one_eq_mod]
 have h2:IntKind.u64.wrap ((c%4294967296:Nat):Int)=((c%4294967296:Nat):Int):=by rw[abV];omega
 simp only[binOp]
 show(Op.intBits .and .u64 (c:Int) 4294967295).run P w=_
 unfold Op.intBits
 show(pure (Value.int .u64 (IntKind.u64.wrap ((BitVec.ofInt 64 (c:Int) &&& BitVec.ofInt 64 4294967295).toNat:Int))):Sem Value).run P w=_
 rw[h1,h2,aao]
def msx(u m bo:Nat):Nat:=if m+bo≤u then u-(m+bo) else u+18446744073709551616-(m+bo)
theorem sub2(u m bo:Nat)(hu:u<4294967296)(hm:m<4294967296)(hb:bo≤1):IntKind.u64.wrap (IntKind.u64.wrap ((u:Int)-(m:Int))-(bo:Int))=((msx u m bo:Nat):Int):=by
 rw[abV,abV]
 unfold msx
 split<;>omega
theorem apF(u m bo:Nat)(hu:u<4294967296)(hm:m<4294967296)(hb:bo≤1):msx u m bo%4294967296+(m+bo)=u+msx u m bo/9223372036854775808*4294967296∧msx u m bo/9223372036854775808≤1∧msx u m bo<18446744073709551616:=by
 unfold msx
 split<;>omega
theorem awY{A B G:Gh}{x y:SV}{a b:List Nat}{k1 k2:Nat}(hx:IsD A x a)(hy:IsD B y b)[GL A G][GL B G](hna:Nrm a)(hnb:Nrm b)(hb2:2≤b.length)(hle:dv b≤dv a)
  (hq:dv a/dv b<2^k1)(hr:dv a%dv b<2^k2)(hl:a.length≤112589990684):
  Fn Tryz.prog 276 [x.v,y.v] G (fun v G'=> ∃z r:SV,v= .tuple #[z.v,r.v]∧IsN k1 G' z (dv a/dv b)∧IsN k2 G' r (dv a%dv b)):=by
 have hxl:=hx.len
 have hyl:=hy.len
 obtain⟨n,hn⟩: ∃n,b.length=n+2:=⟨b.length-2,by omega⟩
 have hbp:0<dv b:=Nat.pos_of_ne_zero fun h=>by
  rw[axD hnb] at h
  rw[h] at hn;simp at hn
 have hnm:b.length≤a.length:=by
  rcases Nat.lt_or_ge a.length b.length with h|h
  ·have:=acH hx.ok hnb h
   omega
  ·exact h
 have htp:=avp hnb (n+1) hn
 have htl:=hy.ok.get (n+1)
 have hbv:=aEY hy.ok (n+1) hn
 have hbt:=afH hy.ok (n+1)
 obtain⟨s,hs⟩: ∃s,s=32-bl (b.getD (n+1) 0):=⟨_,rfl⟩
 obtain⟨hs32,hs1,hs2⟩:=asm htp htl hs
 have hble:bl (b.getD (n+1) 0)≤32:=ahv.2 htl
 have hpn:0<4294967296^(n+1):=Nat.pow_pos (by decide)
 have hps:0<2^s:=Nat.pow_pos (by decide)
 have hV1:2147483648*4294967296^(n+1)≤dv b*2^s:=by
  refine Nat.le_trans (Nat.mul_le_mul_right _ hs1) ?_
  rw[Nat.mul_assoc,Nat.mul_comm (2^s),←Nat.mul_assoc]
  exact Nat.mul_le_mul_right _ (by omega)
 have hV2:dv b*2^s<4294967296^(n+2):=by
  refine Nat.lt_of_lt_of_le (Nat.mul_lt_mul_of_pos_right (k:=2^s) (m:=(b.getD (n+1) 0+1)*4294967296^(n+1)) (by rw[Nat.add_mul,Nat.one_mul];omega) hps) ?_
  rw[Nat.mul_assoc,Nat.mul_comm (4294967296^(n+1)),←Nat.mul_assoc,ayz (n+1),Nat.mul_comm _ 4294967296]
  exact Nat.mul_le_mul_right _ hs2
 have hVl:(dg (dv b*2^s)).length=n+2:=aD9 (by show 4294967296^(n+1)≤_;omega) hV2 (by omega)
 have hal:=aeK hx.ok
 have hU2:dv a*2^s<4294967296^(a.length+1):=by
  rw[ayz]
  exact Nat.mul_lt_mul'' hal (Nat.lt_of_lt_of_le (Nat.pow_lt_pow_right (by decide) hs32) (by decide))
 have hUl1:(dg (dv a*2^s)).length≤a.length+1:=by
  have h1:=atK (aaG (dv a*2^s)).2.2 (k:=32*(a.length+1)) (by rw[(aaG _).1,Nat.pow_mul];exact hU2)
  omega
 have hUl0:a.length≤(dg (dv a*2^s)).length:=by
  have hane:a≠[]:=fun h=>by
   have:=congrArg List.length h
   simp only[List.length_nil] at this;omega
  have h1:=agf hna hane
  have h2:=aeK (aaG (dv a*2^s)).2.1
  rw[(aaG _).1] at h2
  have h3:dv a≤dv a*2^s:=Nat.le_mul_of_pos_right _ hps
  have h4:=(Nat.pow_lt_pow_iff_right (a:=4294967296) (by decide)).1 (Nat.lt_of_le_of_lt (Nat.le_trans h1 h3) h2)
  omega
 have hU3:dv a*2^s<dv b*2^s*4294967296^(a.length-n-1):=by
  have h1:4294967296^(n+1)*4294967296^(a.length-n-1)=4294967296^a.length:=by rw[←Nat.pow_add,show n+1+(a.length-n-1)=a.length by omega]
  refine Nat.lt_of_lt_of_le (Nat.mul_lt_mul_of_pos_right hal hps) (Nat.le_trans (Nat.mul_le_mul_left _ (Nat.pow_le_pow_right (by decide) (show s≤31 by omega))) ?_)
  rw[←h1,Nat.mul_comm,←Nat.mul_assoc]
  exact Nat.mul_le_mul_right _ hV1
 have hta:=aok hna
 have htb:=aok hnb
 refine Fn.intro Tryz.func276 J J Tryz.ntmps276 rfl ?_
 intro C _ _
 refine sR<|sa J J<|sa J J<|zE<|awH<|sR<|sm J J<|sm J J<|adj J J<|sy (aa7 J J) rfl<|?_
 refine sy (abU hy J J (by omega) (by omega)) rfl<|?_
 rw[show((y.n:Int)-1).toNat=n+1 by omega]
 refine sy (abX hy rfl (by omega)) rfl<|?_
 refine sc (zC J J (ajB htl) rfl ?_)
 rintro _ G1 _ rfl
 refine sy (aaN rfl) rfl<|?_
 rw[show(32-(bl (b.getD (n+1) 0):Int))=(s:Int) by omega]
 refine sa J J<|zE<|sR<|sm J J<|sm J J<|?_
 refine sc (zC J J (avq (kk:=32*(a.length+1)) hx hs32 (by rw[Nat.pow_mul];exact hU2) (by omega)) rfl ?_)
 rintro _ G2 _ ⟨u,rfl,hu,huc⟩
 have hul:=hu.len
 rw[hta] at huc
 refine sc (air (by rfl) (by rfl) (by rfl) (by rfl) rfl ?_)
 intro b3
 refine sc (ac8 (z:= .int .u32 0) (m:=2) J J (aEa hu.d) (ahE inferInstance rfl) (by omega) (by decide) (by omega) rfl ?_)
 intro b4 cap h1
 have ecs:(dg (dv a*2^s)).map dI++[Value.int .u32 0, .int .u32 0]++abk (.int .u32 0) (cap-(u.n+2))=(dg (dv a*2^s)++List.replicate (cap-u.n) 0).map dI:=by
  rw[aee,show cap-u.n=(cap-(u.n+2))+1+1 by omega,List.replicate_succ,List.replicate_succ]
  simp[dI]
 rw[ecs]
 clear ecs
 have hus:dv (dg (dv a*2^s)++List.replicate (cap-u.n) 0)=dv a*2^s:=by rw[axP,(aaG _).1]
 have huo:DOk (dg (dv a*2^s)++List.replicate (cap-u.n) 0):=(aaG _).2.1.append (.replicate _)
 have hulen:(dg (dv a*2^s)++List.replicate (cap-u.n) 0).length=cap:=by simp;omega
 generalize dg (dv a*2^s)++List.replicate (cap-u.n) 0=us0 at hus huo hulen⊢
 refine sm J J<|adj J J<|sy (aaq J J) rfl<|sy (ac0 J J (by omega) (by omega)) rfl<|sa J J<|zE<|sR<|sm J J<|?_
 refine sm J J<|?_
 refine sc (zC J J (avq (kk:=32*(n+2)) hy hs32 (by rw[Nat.pow_mul];exact hV2) (by omega)) rfl ?_)
 rintro _ G4 _ ⟨v,rfl,hv,_⟩
 have hvl:=hv.len
 obtain⟨hvv,hvo,hvn⟩:=aaG (dv b*2^s)
 replace hv:=hv.d
 rw[hVl] at hvl
 generalize hvs:dg (dv b*2^s)=vs at*
 refine sa J J<|zE<|sR<|sm J J<|adj J J<|sa J J<|zE<|aaj<|dr (fun _=>false) [(0,true),(1,true),(2,true),(3,true),(4,true),(5,true),(6,true),(7,true),(8,true),(9,true),(10,true),(11,true),(12,true),(13,true)] follows (by kernel_rfl)<|?_
 refine dM J J J<|dM J J J<|dy rfl (fun _=>aa7 J J (by omega) (by omega)) J J<|dy rfl (fun _=>abU hv J J (by omega) (by omega)) J J<|?_
 rw[show((v.n:Int)-1).toNat=n+1 by omega]
 have hvt:=hvo.get (n+1)
 have hv2:=hvo.get n
 refine dy rfl (fun _=>abX hv rfl (by omega)) J J<|dy rfl (fun _=>aaN rfl (by omega) (by omega)) J J<|dM J J J<|dM J J J<|?_
 refine dy rfl (fun _=>aa7 J J (by omega) (by omega)) J J<|dy rfl (fun _=>abU hv J J (by omega) (by omega)) J J<|?_
 rw[show((v.n:Int)-2).toNat=n by omega]
 refine dy rfl (fun _=>abX hv rfl (by omega)) J J<|?_
 refine dy rfl (fun _=>aaN rfl (by omega) (by omega)) J J<|dA J J J<|dA J J J<|dn<|sR<|sm J J<|?_
 refine adj J J<|sm J J<|sy (aa7 J J) rfl<|?_
 obtain⟨l,hlq⟩: ∃l,a.length=n+1+l:=⟨a.length-n-1,by omega⟩
 rw[show a.length-n-1=l by omega] at hU3
 rw[show(((x.n:Int)+1).toNat:Int)-v.n=(l:Nat) by omega,show((x.n:Int)+1).toNat=a.length+1 by omega]
 refine sc (aeQ J J (by omega) (by omega) (by omega) (by rfl) rfl ?_)
 intro b5
 rw[aee,Int.toNat_natCast]
 refine asd [_,_] (.cons_cons _ (.cons_cons _ (.cons _ .slnil))) ?_
 refine sa J J<|zE<|aaj<|axx<|aaj<|sR<|sm J J<|adj J J<|sy (aa7 J J) rfl<|sa J J<|zE<|aas<|?_
 refine abZ (X:=aAG) (fun q=>[(13, .int .i64 ((q.j:Int)-1)),(7, .slice (some ⟨b4,0,none⟩) (a.length+1) cap),(9, .int .i64 v.n),(10, .int .u64 (vs.getD (n+1) 0:Nat)),(11, .int .u64 (vs.getD n 0:Nat)),(8, .slice v.a v.n v.c),(12, .slice (some ⟨b5,0,none⟩) l l),(6, .int .u64 s)])
  (fun q=>[⟨b5,q.qs.map dI,262,true⟩,⟨b4,q.us.map dI,262,true⟩])
  (fun q _=>q.us.length=cap∧DOk q.us∧q.qs.length=l∧DOk q.qs∧q.j≤l∧(∀i,i<q.j→q.qs.getD i 0=0)∧dv a*2^s=dv q.us+dv vs*dv q.qs∧dv q.us<dv vs*4294967296^q.j) (fun q=>q.j) ⟨us0,List.replicate l 0,l⟩
  ⟨hulen,huo,by simp, .replicate _,Nat.le_refl _,fun i _=>by simp[List.getD,List.getElem?_replicate];split<;>rfl,by simp only[acB];omega,by simp only[hus,hvv];exact hU3⟩ (.cons rfl (.cons rfl (.cons rfl (.cons rfl (.cons rfl (.cons rfl (.cons rfl (.cons rfl .nil)))))))) rfl ?_
 rintro ⟨us,qs,j⟩ Gx _ ⟨hul2,huo2,hql,hqo,hjl,hq0,hinv,hlt⟩
 simp only[] at hul2 huo2 hql hqo hjl hq0 hinv hlt⊢
 refine aaj<|sR<|sm J J<|sy (ahR J J) rfl<|zE<|?_
 refine abn rfl (fun hc=>?_) (fun hc=>?_) -- slot 68
 ·have hj0:j=0:=by omega
  subst hj0
  refine abu<|abI<|abI<|aar<|aaj<|?_
  refine aci b5 (.hd ..) (fun G5 _ hgb5=>?_)
  refine aci b4 (.hd ..) (fun G6 _ hgb4=>?_)
  refine dr (fun _=>false) [(0,true),(2,true),(3,true),(4,true),(5,true),(1,false),(6,false),(7,true),(8,true)] follows (by kernel_rfl)<|?_
  have hDq:IsD G6 ⟨some ⟨b5,0,none⟩,l,l⟩ qs:= .of_block hqo (hgb5.up (G:=G6)) hql.symm (Nat.le_refl _) (by rw[List.take_of_length_le (by simp)])
  have hut:dv (us.take (n+2))=dv us:=by
   have h0:=aeE us (n+2)
   rw[aiw (by rw[Nat.pow_zero,Nat.mul_one,hvv] at hlt;omega)] at h0
   omega
  have hDu:IsD G6 ⟨some ⟨b4,0,none⟩,n+2,cap⟩ (us.take (n+2)):= .of_block (huo2.take _) hgb4.h (by simp;omega) (by omega) (by rw[List.map_take,List.length_take,Nat.min_eq_left (by omega)])
  have hV0:0<dv vs:=by rw[hvv];exact Nat.mul_pos hbp hps
  rw[Nat.pow_zero,Nat.mul_one] at hlt
  have hdq:dv a/dv b=dv qs:=by
   rw[←Nat.mul_div_mul_right _ _ hps,hinv,←hvv,Nat.add_mul_div_left _ _ hV0,Nat.div_eq_of_lt hlt,Nat.zero_add]
  have hdr:dv a%dv b=dv (us.take (n+2))/2^s:=by
   have:dv us=dv a%dv b*2^s:=by
    rw[←Nat.mul_mod_mul_right,hinv,←hvv,Nat.add_mul_mod_self_left,Nat.mod_eq_of_lt hlt]
   rw[hut,this,Nat.mul_div_cancel _ hps]
  refine dM J J J<|dM J J J<|dM J J J<|dy rfl (fun _=>ac0 J J (by omega) (by omega)) J J<|?_
  rw[show(v.n:Int).toNat=n+2 by omega]
  refine dM J J J<|?_
  refine dc J J (zC J J (aa2 hDq (by omega)) rfl ?_)
  rintro _ G7 _ rfl
  refine av6<|?_
  refine dc J J (zC J J (azB (kk:=k2) hDu hs32 (by rw[←hdr];exact hr) (by simp;omega)) rfl ?_)
  rintro _ G8 _ ⟨r,rfl,hr8⟩
  refine av6<|dA J J J<|dA J J J<|dn<|aaL<|?_
  refine zD (.tmp rfl (.tmp rfl .nil)) ⟨⟨some ⟨b5,0,none⟩,(trimD qs).length,l⟩,r,rfl,?_,?_⟩
  ·rw[hdq]
   refine⟨?_,by rw[←hdq];exact hq⟩
   rw[adr hqo]
   exact hDq.trim.up
  ·rw[hdr];exact hr8
 obtain⟨i,rfl⟩: ∃i,j=i+1:=⟨j-1,by omega⟩
 rw[show(((i+1:Nat):Int)-1)=i by omega]
 have hpi:0<4294967296^i:=Nat.pow_pos (by decide)
 -- the digits that the guess looks at
 obtain⟨p,hp⟩: ∃p,p=4294967296^(i+n):=⟨_,rfl⟩
 obtain⟨V,hV⟩: ∃V,V=dv vs*4294967296^i:=⟨_,rfl⟩
 have hvB:dv vs<4294967296^(n+2):=by rw[hvv];exact hV2
 have hvh:=aF5 hvo n hvB
 have hltV:dv us<V*4294967296:=by rw[hV,Nat.mul_assoc,←ayz];exact hlt
 have hV0:0<V:=by rw[hV];exact Nat.mul_pos (by rw[hvv];exact Nat.mul_pos hbp hps) hpi
 have hT0:0<vs.getD (n+1) 0:=avp hvn (n+1) hVl
 have hVp:V=(vs.getD (n+1) 0*4294967296+vs.getD n 0)*p+dv (vs.take n)*4294967296^i:=by
  rw[hV,hvh,Nat.add_mul,hp,Nat.pow_add,Nat.mul_comm (4294967296^i),Nat.mul_assoc]
 have hv0:dv (vs.take n)*4294967296^i<p:=by
  rw[hp,Nat.pow_add,Nat.mul_comm]
  exact Nat.mul_lt_mul_of_pos_left (afH hvo n) hpi
 have hM:dv us<4294967296^(i+n+3):=by
  refine Nat.lt_of_lt_of_le hlt ?_
  rw[show i+n+3=(n+2)+(i+1) by omega,Nat.pow_add 4294967296 (n+2) (i+1)]
  exact Nat.mul_le_mul_right _ (Nat.le_of_lt hvB)
 have huh:=aFo huo2 (i+n) hM
 rw[←hp] at huh
 have hu0:=afH huo2 (i+n)
 rw[←hp] at hu0
 have hg0:=huo2.get (i+n)
 have hg1:=huo2.get (i+n+1)
 have hg2:=huo2.get (i+n+2)
 refine zK<|aaj<|aas<|aaj<|dr (fun _=>false) [(0,true),(1,true),(2,true),(3,true),(4,true),(5,true),(6,true),(7,true),(8,true),(9,true),(10,true),(11,true),(12,true),(13,true),(14,true),(15,true),(16,true),(17,true)] follows (by kernel_rfl)<|?_
 refine dM J J J<|dM J J J<|dM J J J<|dy rfl (fun _=>aaq J J (by omega) (by omega)) J J<|?_
 refine dy rfl (fun _=>abf J J (by omega) (by omega)) J J<|?_
 rw[show((i:Int)+(v.n:Int)).toNat=i+n+2 by omega]
 refine dy rfl (fun _=>af9 rfl (by omega)) J J<|dy rfl (fun _=>aaN rfl (by omega) (by omega)) J J<|dy rfl (fun _=>aj3 J J (by decide)) J J<|?_
 rw[aem (us.getD (i+n+2) 0) 32 (by decide) (by omega) rfl]
 refine dM J J J<|dM J J J<|dM J J J<|dy rfl (fun _=>aaq J J (by omega) (by omega)) J J<|?_
 refine dy rfl (fun _=>aa7 J J (by omega) (by omega)) J J<|dy rfl (fun _=>abf J J (by omega) (by omega)) J J<|?_
 rw[show((i:Int)+(v.n:Int)-1).toNat=i+n+1 by omega]
 refine dy rfl (fun _=>af9 rfl (by omega)) J J<|?_
 refine dy rfl (fun _=>aaN rfl (by omega) (by omega)) J J<|dy rfl (fun _=>ab5 J J (aoV (us.getD (i+n+1) 0) (us.getD (i+n+2) 0) 32 (by omega) (by omega))) J J<|dA J J J<|dn<|aaj<|?_
 obtain⟨f,hf⟩: ∃f,f=us.getD (i+n+2) 0*4294967296+us.getD (i+n+1) 0:=⟨_,rfl⟩
 rw[show us.getD (i+n+1) 0+us.getD (i+n+2) 0*2^32=f by omega]
 rw[←hf] at huh
 have hfB:f<18446744073709551616:=by omega
 refine dr (fun _=>false) [(0,true),(1,true),(2,true),(3,true),(4,true),(5,true),(6,true),(7,true)] follows (by kernel_rfl)<|?_
 refine dM J J J<|dM J J J<|dy rfl (fun _=>ahq J J (by omega) (by omega) (by omega)) J J<|dM J J J<|dM J J J<|?_
 refine dy rfl (fun _=>ahC J J (by omega) (by omega)) J J<|dA J J J<|dA J J J<|dn<|?_
 rw[show((f:Int)/((vs.getD (n+1) 0:Nat):Int))=((f/vs.getD (n+1) 0:Nat):Int) by rfl,show((f:Int)%((vs.getD (n+1) 0:Nat):Int))=((f%vs.getD (n+1) 0:Nat):Int) by rfl]
 -- GUESS
 have hUle:(f*4294967296+us.getD (i+n) 0)*p≤dv us:=by omega
 have hUlt:dv us<(f*4294967296+us.getD (i+n) 0+1)*p:=by rw[Nat.add_mul _ 1,Nat.one_mul];omega
 have hVle:(vs.getD (n+1) 0*4294967296+vs.getD n 0)*p≤V:=by rw[hVp];exact Nat.le_add_right _ _
 have hfT:f≤vs.getD (n+1) 0*4294967296+vs.getD n 0:=aHi hUle hVp hv0 hltV
 refine amL Nat (fun g=>[(15, .int .u64 (g:Nat)),(13, .int .i64 i),(7, .slice (some ⟨b4,0,none⟩) (a.length+1) cap),(9, .int .i64 v.n),(10, .int .u64 (vs.getD (n+1) 0:Nat)),(11, .int .u64 (vs.getD n 0:Nat)),(8, .slice v.a v.n v.c),(12, .slice (some ⟨b5,0,none⟩) l l),(6, .int .u64 s)]) (fun _=>[⟨b5,qs.map dI,262,true⟩,⟨b4,us.map dI,262,true⟩]) (fun g _=>g<4294967296∧dv us<(g+1)*V∧g*V<dv us+V) ?_ ?_
 ·refine aas<|?_
  refine abZ (X:=axl) (fun q=>[(15, .int .u64 q.g),(16, .int .u64 q.r),(13, .int .i64 i),(7, .slice (some ⟨b4,0,none⟩) (a.length+1) cap),(9, .int .i64 v.n),(10, .int .u64 (vs.getD (n+1) 0:Nat)),(11, .int .u64 (vs.getD n 0:Nat)),(8, .slice v.a v.n v.c),(12, .slice (some ⟨b5,0,none⟩) l l),(6, .int .u64 s)]) (fun _=>[⟨b5,qs.map dI,262,true⟩,⟨b4,us.map dI,262,true⟩]) (fun q _=>f=q.g*vs.getD (n+1) 0+q.r∧q.r<4294967296∧dv us<(q.g+1)*V) (fun q=>q.g) ⟨f/vs.getD (n+1) 0,f%vs.getD (n+1) 0⟩
   ⟨(Nat.div_add_mod' ..).symm,Nat.lt_trans (Nat.mod_lt _ hT0) hvt,aBF hUlt hg0 hVle hT0⟩ (.cons rfl (.cons rfl (.cons rfl (.cons rfl (.cons rfl (.cons rfl (.cons rfl (.cons rfl (.cons rfl (.cons rfl .nil)))))))))) rfl ?_
  rintro ⟨g,r⟩ Gy _ ⟨hfg,hrB,hlo⟩
  simp only[] at hfg hrB hlo⊢
  have hgT:g*1≤g*vs.getD (n+1) 0:=Nat.mul_le_mul_left _ hT0
  refine aaj<|sR<|sm J J<|sy (adU J J (by decide)) rfl<|?_
  rw[aeX g 32 (by decide) rfl]
  refine sy (ahX J J) rfl<|sm J J<|?_
  refine ab7 97 rfl (fun hg=>?_) (fun hg=>?_)
  ·have hgB:4294967296≤g:=by omega
   have hdec:dv us<g*V:=Nat.lt_of_lt_of_le hltV (by rw[Nat.mul_comm];exact Nat.mul_le_mul_right _ hgB)
   refine ss J J J J<|ss J J J J<|ss J J J J<|ss J J J J<|ss J J J J<|ss J J J J<|ss J J J J<|ss J J J J<|ss J J J J<|?_
   refine ss J J J J<|ss J J J J<|ss J J J J<|ss J J J J<|ss J J J J<|ss J J J J<|sy (ac6 J J) rfl<|zE<|acr rfl<|?_
   refine zK<|aas<|?_
   obtain⟨g',rfl⟩: ∃g',g=g'+1:=⟨g-1,by rcases Nat.eq_zero_or_pos g with h|h;(rw[h,Nat.zero_mul] at hdec;omega);omega⟩
   refine sR<|sm J J<|sy (ath J J (by omega) (by omega)) rfl<|sa J J<|zE<|sR<|sm J J<|sm J J<|sy (aep J J) rfl<|?_
   refine sa J J<|zE<|sR<|sm J J<|sy (adU J J (by decide)) rfl<|?_
   rw[show((g'+1:Nat):Int)-1=(g':Nat) by omega,show((r:Int)+((vs.getD (n+1) 0:Nat):Int))=((r+vs.getD (n+1) 0:Nat):Int) from rfl,aeX (r+vs.getD (n+1) 0) 32 (by decide) rfl]
   have hfg':f=g'*vs.getD (n+1) 0+(r+vs.getD (n+1) 0):=by rw[hfg,Nat.add_mul,Nat.one_mul];omega
   refine sy (ahX J J) rfl<|zE<|?_
   refine aaH rfl (fun hc3=>?_) (fun hc3=>?_) -- slot 121
   ·have hr3:4294967296≤r+vs.getD (n+1) 0:=by omega
    have hgB:g'<4294967296:=by
     rcases Nat.lt_or_ge g' 4294967296 with h|h
     ·exact h
     ·have:=Nat.mul_le_mul_right (vs.getD (n+1) 0) h
      omega
    have hgS:g'*vs.getD n 0≤(r+vs.getD (n+1) 0)*4294967296+us.getD (i+n) 0:=by
     have h1:=Nat.mul_le_mul (Nat.le_of_lt hgB) (Nat.le_of_lt hv2)
     omega
    refine abu<|ahh rfl<|abI<|aar<|?_
    exact ajy g' ⟨hgB,hdec,aA1 hUle hVp hv0 hT0 hfg' hgB hgS⟩ (.cons rfl (.cons rfl (.cons rfl (.cons rfl (.cons rfl (.cons rfl (.cons rfl (.cons rfl (.cons rfl .nil))))))))) rfl
   refine zK<|?_
   exact aaX ⟨g',r+vs.getD (n+1) 0⟩ ⟨hfg',by show r+vs.getD (n+1) 0<_;omega,hdec⟩ (by show g'<g'+1;omega) (.cons rfl (.cons rfl (.cons rfl (.cons rfl (.cons rfl (.cons rfl (.cons rfl (.cons rfl (.cons rfl (.cons rfl .nil)))))))))) rfl
  have hgB:g<4294967296:=by omega
  have hgS:g*vs.getD n 0<4294967296*4294967296:=Nat.mul_lt_mul'' hgB hv2
  have e2:(g:Int)*((vs.getD n 0:Nat):Int)=((g*vs.getD n 0:Nat):Int):=rfl
  refine syg J J (aaS rfl) rfl<|syg J J (aaS rfl) rfl<|syg J J (aoK J J (by rw[e2];omega) (by rw[e2];omega)) rfl<|syg J J (aaS rfl) rfl<|syg J J (aj3 J J (by decide)) rfl<|?_
  rw[aem r 32 (by decide) (by omega) rfl]
  refine syg J J (aaS rfl) rfl<|syg J J (aaS rfl) rfl<|syg J J (aaS rfl) rfl<|syg J J (aaq J J) rfl<|syg J J (aa7 J J) rfl<|?_
  refine syg J J (abf J J (by omega) (by omega)) rfl<|?_
  rw[show((i:Int)+(v.n:Int)-2).toNat=i+n by omega]
  refine syg J J (af9 rfl (by omega)) rfl<|syg J J (aaN rfl) rfl<|syg J J (ab5 J J (aoV (us.getD (i+n) 0) r 32 (by omega) (by omega))) rfl<|?_
  refine syg J J (af8 J J) rfl<|sy (abx J J) rfl<|zE<|?_
  rw[e2]
  refine abn rfl (fun hc2=>?_) (fun hc2=>?_) -- slot 113
  ·refine abu<|abI<|abI<|aar<|?_
   exact ajy g ⟨hgB,hlo,aA1 hUle hVp hv0 hT0 hfg hgB (by omega)⟩ (.cons rfl (.cons rfl (.cons rfl (.cons rfl (.cons rfl (.cons rfl (.cons rfl (.cons rfl (.cons rfl .nil))))))))) rfl
  have hdec:dv us<g*V:=aB6 hUlt hVle hfg (by omega)
  refine zK<|aas<|?_
  obtain⟨g',rfl⟩: ∃g',g=g'+1:=⟨g-1,by rcases Nat.eq_zero_or_pos g with h|h;(rw[h,Nat.zero_mul] at hdec;omega);omega⟩
  refine sR<|sm J J<|sy (ath J J (by omega) (by omega)) rfl<|sa J J<|zE<|sR<|sm J J<|sm J J<|sy (aep J J) rfl<|?_
  refine sa J J<|zE<|sR<|sm J J<|sy (adU J J (by decide)) rfl<|?_
  rw[show((g'+1:Nat):Int)-1=(g':Nat) by omega,show((r:Int)+((vs.getD (n+1) 0:Nat):Int))=((r+vs.getD (n+1) 0:Nat):Int) from rfl,aeX (r+vs.getD (n+1) 0) 32 (by decide) rfl]
  have hfg':f=g'*vs.getD (n+1) 0+(r+vs.getD (n+1) 0):=by rw[hfg,Nat.add_mul,Nat.one_mul];omega
  refine sy (ahX J J) rfl<|zE<|?_
  refine aaH rfl (fun hc3=>?_) (fun hc3=>?_) -- slot 121
  ·have hr3:4294967296≤r+vs.getD (n+1) 0:=by omega
   have hgB:g'<4294967296:=by
    rcases Nat.lt_or_ge g' 4294967296 with h|h
    ·exact h
    ·have:=Nat.mul_le_mul_right (vs.getD (n+1) 0) h
     omega
   have hgS:g'*vs.getD n 0≤(r+vs.getD (n+1) 0)*4294967296+us.getD (i+n) 0:=by
    have h1:=Nat.mul_le_mul (Nat.le_of_lt hgB) (Nat.le_of_lt hv2)
    omega
   refine abu<|ahh rfl<|abI<|aar<|?_
   exact ajy g' ⟨hgB,hdec,aA1 hUle hVp hv0 hT0 hfg' hgB hgS⟩ (.cons rfl (.cons rfl (.cons rfl (.cons rfl (.cons rfl (.cons rfl (.cons rfl (.cons rfl (.cons rfl .nil))))))))) rfl
  refine zK<|?_
  exact aaX ⟨g',r+vs.getD (n+1) 0⟩ ⟨hfg',by show r+vs.getD (n+1) 0<_;omega,hdec⟩ (by show g'<g'+1;omega) (.cons rfl (.cons rfl (.cons rfl (.cons rfl (.cons rfl (.cons rfl (.cons rfl (.cons rfl (.cons rfl (.cons rfl .nil)))))))))) rfl
 rintro g Gz _ ⟨hgB,hlo,hhi⟩
 -- SUB
 refine sR<|sa J J<|sa J J<|zE<|aaj<|sR<|sm J J<|adj J J<|sm J J<|zE<|aas<|?_
 refine abZ (X:=aDV) (fun q=>[(18, .int .u64 q.c),(17, .int .u64 q.bo),(124, .int .i64 q.k),(123, .int .i64 v.n),(122, .slice v.a v.n v.c),(15, .int .u64 (g:Nat)),(13, .int .i64 i),(7, .slice (some ⟨b4,0,none⟩) (a.length+1) cap),(9, .int .i64 v.n),(10, .int .u64 (vs.getD (n+1) 0:Nat)),(11, .int .u64 (vs.getD n 0:Nat)),(8, .slice v.a v.n v.c),(12, .slice (some ⟨b5,0,none⟩) l l),(6, .int .u64 s)]) (fun q=>[⟨b5,qs.map dI,262,true⟩,⟨b4,q.ws.map dI,262,true⟩])
  (fun q _=>q.ws.length=cap∧DOk q.ws∧q.k≤n+2∧q.bo≤1∧q.c<4294967296∧dv q.ws<4294967296^(i+n+3)∧dv q.ws+g*(dv (vs.take q.k)*4294967296^i)=dv us+(q.bo+q.c)*4294967296^(i+q.k)) (fun q=>n+2-q.k) ⟨us,0,0,0⟩
  ⟨hul2,huo2,Nat.zero_le _,Nat.zero_le _,by show(0:Nat)<4294967296;decide,hM,by simp[dv]⟩ (.cons rfl (.cons rfl (.cons rfl (.cons rfl (.cons rfl (.cons rfl (.cons rfl (.cons rfl (.cons rfl (.cons rfl (.cons rfl (.cons rfl (.cons rfl (.cons rfl .nil)))))))))))))) rfl ?_
 rintro ⟨ws,k,bo,c⟩ Gy _ ⟨hwl,hwo,hk,hbo,hc4,hwM,hw⟩
 simp only[] at hwl hwo hk hbo hc4 hwM hw⊢
 refine sR<|sy (acj J J) rfl<|zE<|aaj<|?_
 refine abn rfl (fun hkc=>?_) (fun hkc=>?_) -- slot 125
 ·have hkn:k=n+2:=by omega
  subst hkn
  rw[List.take_of_length_le (by omega),←hV] at hw
  refine abu<|abI<|abI<|aar<|sR<|sm J J<|sm J J<|sm J J<|sy (aaq J J) rfl<|sy (abf J J (by omega) (by omega)) rfl<|?_
  rw[show((i:Int)+(v.n:Int)).toNat=i+n+2 by omega]
  have hwg:=hwo.get (i+n+2)
  refine sy (af9 rfl (by omega)) rfl<|sy (aaN rfl) rfl<|sm J J<|sy (agl J J) rfl<|sm J J<|sy (agl J J) rfl<|?_
  rw[sub2 _ _ _ hwg hc4 hbo]
  obtain⟨hx1,hx2,hx3⟩:=apF (ws.getD (i+n+2) 0) c bo hwg hc4 hbo
  generalize msx (ws.getD (i+n+2) 0) c bo=xx at hx1 hx2 hx3⊢
  refine sa J J<|zE<|sR<|sm J J<|sm J J<|sm J J<|sy (aaq J J) rfl<|sm J J<|sy (abg rfl) rfl<|sy (abf J J (by omega) (by omega)) rfl<|?_
  rw[show((i:Int)+(v.n:Int)).toNat=i+n+2 by omega]
  refine sc (aa8 (d:=xx%4294967296) J J (by rw[Int.natCast_emod];rfl) (.tl _ _ _ _ _ _ _ _ (.hd ..)) (by omega) rfl ?_)
  have hs2:=afz ws (i+n+2) (xx%4294967296) (by omega)
  have hl2:=aBn hs2 hw hx1
  rw[←ayz] at hl2
  have hM2:=ahc (i:=i+n+2) (d:=xx%4294967296) hwo (Nat.mod_lt _ (by decide)) hwM (by omega)
  have ho2:=hwo.set (i+n+2) (d:=xx%4294967296) (Nat.mod_lt _ (by decide))
  have hn2:(ws.set (i+n+2) (xx%4294967296)).length=cap:=by rw[List.length_set];exact hwl
  generalize ws.set (i+n+2) (xx%4294967296)=ws2 at hl2 hM2 ho2 hn2⊢
  replace hl2:dv ws2+g*V=dv us+xx/9223372036854775808*4294967296^(i+n+3):=hl2
  have hqset: ∀d,dv (qs.set i d)=dv qs+4294967296^i*d:=fun d=>by
   have:=afz qs i d (by omega)
   rw[hq0 i (by omega)] at this
   simpa using this
  have hqz: ∀d i',i'<i→(qs.set i d).getD i' 0=0:=fun d i' h=>by
   have:=hq0 i' (by omega)
   simpa[List.getD,List.getElem?_set,show¬i=i' by omega] using this
  have hinv2: ∀d R,R+d*V=dv us→dv a*2^s=R+dv vs*dv (qs.set i d):=fun d R h=>by
   rw[hinv,←h,hqset,Nat.mul_add,←Nat.mul_assoc,←hV,Nat.mul_comm d];omega
  refine zE<|sR<|sm J J<|sm J J<|sm J J<|sy (abg rfl) rfl<|sy (abf J J (by omega) (by omega)) rfl<|?_
  rw[Int.toNat_natCast]
  refine sc (aa8 (d:=g) J J (ayU g hgB) (.hd ..) (by omega) rfl ?_)
  refine zE<|aaj<|sR<|sm J J<|sy (adU J J (by decide)) rfl<|?_
  rw[aeX xx 63 (by decide) rfl]
  refine sy (ab3 J J) rfl<|zE<|?_
  refine aaH rfl (fun ht=>?_) (fun ht=>?_) -- slot 184
  ·have ht0:xx/2^63=0:=by omega
   rw[show xx/9223372036854775808=xx/2^63 from rfl,ht0,Nat.zero_mul,Nat.add_zero] at hl2
   refine abu<|abI<|aar<|aam<|sm J J<|sy (aa7 J J) rfl<|sa J J<|zE<|?_
   exact aaX ⟨ws2,qs.set i g,i⟩ ⟨hn2,ho2,by simpa using hql,hqo.set _ hgB,by show i≤l;omega,hqz g,hinv2 g _ hl2,by show dv ws2<_;rw[←hV];exact aBy hlo hl2⟩ (by show i<i+1;omega) (.cons rfl (.cons rfl (.cons rfl (.cons rfl (.cons rfl (.cons rfl (.cons rfl (.cons rfl .nil)))))))) rfl
  have ht1:xx/9223372036854775808=1:=by
   have:xx/9223372036854775808≠0:=fun h=>ht (by rw[show xx/2^63=xx/9223372036854775808 from rfl,h];rfl)
   omega
  rw[ht1,Nat.one_mul] at hl2
  obtain⟨g',rfl⟩: ∃g',g=g'+1:=⟨g-1,by rcases Nat.eq_zero_or_pos g with h|h;(rw[h,Nat.zero_mul] at hl2;omega);omega⟩
  refine zK<|sR<|sm J J<|sm J J<|sy (abf J J (by omega) (by omega)) rfl<|?_
  rw[Int.toNat_natCast]
  refine sy (af9 rfl (by simp;omega)) rfl<|?_
  rw[show(qs.set i (g'+1)).getD i 0=g'+1 by simp[List.getD,List.getElem?_set,show i<qs.length by omega]]
  refine sy (agl J J) rfl<|sy (abf J J (by omega) (by omega)) rfl<|?_
  rw[Int.toNat_natCast]
  refine sc (aa8 (d:=g') J J (by rw[acL];omega) (.hd ..) (by simp;omega) rfl ?_)
  rw[List.set_set]
  refine zE<|sR<|sa J J<|zE<|aaj<|sR<|sm J J<|adj J J<|sm J J<|zE<|aas<|?_
  refine abZ (X:=aDV) (fun q=>[(18, .int .u64 q.c),(193, .int .i64 q.k),(192, .int .i64 v.n),(191, .slice v.a v.n v.c),(13, .int .i64 i),(7, .slice (some ⟨b4,0,none⟩) (a.length+1) cap),(9, .int .i64 v.n),(10, .int .u64 (vs.getD (n+1) 0:Nat)),(11, .int .u64 (vs.getD n 0:Nat)),(8, .slice v.a v.n v.c),(12, .slice (some ⟨b5,0,none⟩) l l),(6, .int .u64 s)]) (fun q=>[⟨b5,(qs.set i g').map dI,262,true⟩,⟨b4,q.ws.map dI,262,true⟩])
   (fun q _=>q.ws.length=cap∧DOk q.ws∧q.k≤n+2∧q.c≤1∧dv q.ws<4294967296^(i+n+3)∧dv q.ws+q.c*4294967296^(i+q.k)=dv ws2+dv (vs.take q.k)*4294967296^i) (fun q=>n+2-q.k) ⟨ws2,0,0,0⟩
   ⟨hn2,ho2,Nat.zero_le _,Nat.zero_le _,hM2,by simp[dv]⟩ (.cons rfl (.cons rfl (.cons rfl (.cons rfl (.cons rfl (.cons rfl (.cons rfl (.cons rfl (.cons rfl (.cons rfl (.cons rfl (.cons rfl .nil)))))))))))) rfl ?_
  rintro ⟨wa,k,_,ca⟩ Gz _ ⟨hal2,hao,hak,hac,haM,ha⟩
  simp only[] at hal2 hao hak hac haM ha⊢
  refine sR<|sy (acj J J) rfl<|zE<|aaj<|?_
  refine abn rfl (fun hkd=>?_) (fun hkd=>?_) -- slot 194
  ·have hkn:k=n+2:=by omega
   subst hkn
   rw[List.take_of_length_le (by omega),←hV] at ha
   have hag:=hao.get (i+n+2)
   refine abu<|abI<|abI<|aar<|aam<|sm J J<|sm J J<|sm J J<|sy (aaq J J) rfl<|sy (abf J J (by omega) (by omega)) rfl<|?_
   rw[show((i:Int)+(v.n:Int)).toNat=i+n+2 by omega]
   refine sy (af9 rfl (by omega)) rfl<|sm J J<|sy (abg rfl) rfl<|sy (az0 J J) rfl<|sy (abf J J (by omega) (by omega)) rfl<|?_
   rw[show((i:Int)+(v.n:Int)).toNat=i+n+2 by omega]
   refine sc (aa8 (d:=(wa.getD (i+n+2) 0+ca)%4294967296) J J (by rw[acL];omega) (.tl _ _ _ _ _ _ _ _ (.hd ..)) (by omega) rfl ?_)
   have hs4:=afz wa (i+n+2) ((wa.getD (i+n+2) 0+ca)%4294967296) (by omega)
   have hl4:=aAJ hs4 ha
   rw[←ayz] at hl4
   have hM4:=ahc (i:=i+n+2) (d:=(wa.getD (i+n+2) 0+ca)%4294967296) hao (Nat.mod_lt _ (by decide)) haM (by omega)
   obtain⟨hR1,hR2⟩:=azR hhi hl2 hl4 hM2 hM4 (by omega) (Nat.succ_pos _)
   refine zE<|aam<|sm J J<|sy (aa7 J J) rfl<|sa J J<|zE<|?_
   exact aaX ⟨wa.set (i+n+2) ((wa.getD (i+n+2) 0+ca)%4294967296),qs.set i g',i⟩ ⟨by simpa using hal2,hao.set _ (Nat.mod_lt _ (by decide)),by simpa using hql,hqo.set _ (by omega),by show i≤l;omega,hqz g',hinv2 g' _ hR1,by show dv _<_;rw[←hV];exact hR2⟩ (by show i<i+1;omega) (.cons rfl (.cons rfl (.cons rfl (.cons rfl (.cons rfl (.cons rfl (.cons rfl (.cons rfl .nil)))))))) rfl
  have hvk:=hvo.get k
  have hag:=hao.get (i+k)
  refine zK<|aaj<|aas<|sR<|sm J J<|sy (abU hv J J (by omega) (by omega)) rfl<|?_
  rw[Int.toNat_natCast]
  refine sy (abX hv rfl (by omega)) rfl<|sa J J<|sa J J<|zE<|aaj<|?_
  refine aam<|sm J J<|sm J J<|sm J J<|sm J J<|sy (aaq J J) rfl<|sy (abf J J (by omega) (by omega)) rfl<|?_
  rw[show((i:Int)+(k:Int)).toNat=i+k by omega]
  refine sy (af9 rfl (by omega)) rfl<|sy (aaN rfl) rfl<|sm J J<|sy (aaN rfl) rfl<|sy (aep J J) rfl<|sy (aep J J) rfl<|?_
  rw[show(ca:Int)+(((wa.getD (i+k) 0:Nat):Int)+((vs.getD k 0:Nat):Int))=((ca+(wa.getD (i+k) 0+vs.getD k 0):Nat):Int) from rfl]
  refine sa J J<|zE<|sR<|sm J J<|sm J J<|sm J J<|sy (aaq J J) rfl<|sm J J<|sy (abg rfl) rfl<|sy (abf J J (by omega) (by omega)) rfl<|?_
  rw[show((i:Int)+(k:Int)).toNat=i+k by omega]
  refine sc (aa8 (d:=(ca+(wa.getD (i+k) 0+vs.getD k 0))%4294967296) J J (by rw[Int.natCast_emod];rfl) (.tl _ _ _ _ _ _ _ _ (.hd ..)) (by omega) rfl ?_)
  refine zE<|aam<|sm J J<|sy (adU J J (by decide)) rfl<|?_
  rw[aeX (ca+(wa.getD (i+k) 0+vs.getD k 0)) 32 (by decide) rfl]
  refine sa J J<|zE<|aam<|sy (aaq J J) rfl<|sm J J<|zE<|?_
  refine aaX ⟨wa.set (i+k) ((ca+(wa.getD (i+k) 0+vs.getD k 0))%4294967296),k+1,0,(ca+(wa.getD (i+k) 0+vs.getD k 0))/2^32⟩ ⟨by simpa using hal2,hao.set _ (Nat.mod_lt _ (by decide)),by show k+1≤_;omega,by show(ca+(wa.getD (i+k) 0+vs.getD k 0))/4294967296≤1;omega,ahc hao (Nat.mod_lt _ (by decide)) haM (by omega),?_⟩ (by show n+2-(k+1)<n+2-k;omega) (.cons rfl (.cons rfl (.cons rfl (.cons rfl (.cons rfl (.cons rfl (.cons rfl (.cons rfl (.cons rfl (.cons rfl (.cons rfl (.cons rfl .nil)))))))))))) rfl
  show dv (wa.set (i+k) ((ca+(wa.getD (i+k) 0+vs.getD k 0))%4294967296))+((ca+(wa.getD (i+k) 0+vs.getD k 0))/4294967296)*4294967296^(i+k+1)=dv ws2+dv (vs.take (k+1))*4294967296^i
  rw[aax,Nat.add_mul (dv (vs.take k)),ayz,show 4294967296^k*vs.getD k 0*4294967296^i=vs.getD k 0*4294967296^(i+k) by rw[Nat.pow_add,Nat.mul_comm (4294967296^k),Nat.mul_assoc,Nat.mul_comm (4294967296^k)]]
  exact aAM (afz wa (i+k) _ (by omega)) ha
 have hvk:=hvo.get k
 have hwg:=hwo.get (i+k)
 refine zK<|aaj<|aas<|sR<|sm J J<|sy (abU hv J J (by omega) (by omega)) rfl<|?_
 rw[Int.toNat_natCast]
 refine sy (abX hv rfl (by omega)) rfl<|sa J J<|sa J J<|zE<|aaj<|?_
 have hgd:g*vs.getD k 0≤4294967295*4294967295:=Nat.mul_le_mul (by omega) (by omega)
 have e3:(g:Int)*((vs.getD k 0:Nat):Int)=((g*vs.getD k 0:Nat):Int):=rfl
 refine aam<|sm J J<|sm J J<|sm J J<|sy (aaN rfl) rfl<|sy (aoK J J (by rw[e3];omega) (by rw[e3];omega)) rfl<|?_
 rw[e3]
 refine sy (aep J J) rfl<|?_
 rw[show(c:Int)+((g*vs.getD k 0:Nat):Int)=((c+g*vs.getD k 0:Nat):Int) from rfl]
 obtain⟨c1,hc1⟩: ∃c1,c1=c+g*vs.getD k 0:=⟨_,rfl⟩
 rw[←hc1]
 have hc1m:c1%4294967296<4294967296:=Nat.mod_lt _ (by decide)
 refine sa J J<|zE<|sR<|sm J J<|sm J J<|sm J J<|sy (aaq J J) rfl<|sy (abf J J (by omega) (by omega)) rfl<|?_
 rw[show((i:Int)+(k:Int)).toNat=i+k by omega]
 refine sy (af9 rfl (by omega)) rfl<|sy (aaN rfl) rfl<|sm J J<|sy (ab5 J J (axJ c1 (by omega))) rfl<|sy (agl J J) rfl<|sm J J<|sy (agl J J) rfl<|?_
 rw[sub2 _ _ _ hwg hc1m hbo]
 obtain⟨hx1,hx2,hx3⟩:=apF (ws.getD (i+k) 0) (c1%4294967296) bo hwg hc1m hbo
 generalize msx (ws.getD (i+k) 0) (c1%4294967296) bo=xx at hx1 hx2 hx3⊢
 refine sa J J<|?_
 refine zE<|sR<|sm J J<|sm J J<|sm J J<|sy (aaq J J) rfl<|sm J J<|sy (abg rfl) rfl<|sy (abf J J (by omega) (by omega)) rfl<|?_
 rw[show((i:Int)+(k:Int)).toNat=i+k by omega]
 refine sc (aa8 (d:=xx%4294967296) J J (by rw[Int.natCast_emod];rfl) (.tl _ _ _ _ _ _ _ _ (.hd ..)) (by omega) rfl ?_)
 refine zE<|sR<|sm J J<|sy (adU J J (by decide)) rfl<|?_
 rw[aeX xx 63 (by decide) rfl]
 refine sa J J<|zE<|aam<|sm J J<|sy (adU J J (by decide)) rfl<|?_
 rw[aeX c1 32 (by decide) rfl]
 refine sa J J<|?_
 refine zE<|aam<|sy (aaq J J) rfl<|sm J J<|zE<|?_
 refine aaX ⟨ws.set (i+k) (xx%4294967296),k+1,xx/2^63,c1/2^32⟩ ⟨by simpa using hwl,hwo.set _ (Nat.mod_lt _ (by decide)),by show k+1≤_;omega,hx2,by show c1/4294967296<_;omega,ahc hwo (Nat.mod_lt _ (by decide)) hwM (by omega),?_⟩ (by show n+2-(k+1)<n+2-k;omega) (.cons rfl (.cons rfl (.cons rfl (.cons rfl (.cons rfl (.cons rfl (.cons rfl (.cons rfl (.cons rfl (.cons rfl (.cons rfl (.cons rfl (.cons rfl (.cons rfl .nil)))))))))))))) rfl
 show dv (ws.set (i+k) (xx%4294967296))+g*(dv (vs.take (k+1))*4294967296^i)=dv us+(xx/9223372036854775808+c1/4294967296)*4294967296^(i+k+1)
 rw[aax,Nat.add_mul (dv (vs.take k)),ayz,show 4294967296^k*vs.getD k 0*4294967296^i=vs.getD k 0*4294967296^(i+k) by rw[Nat.pow_add,Nat.mul_comm (4294967296^k),Nat.mul_assoc,Nat.mul_comm (4294967296^k)],Nat.mul_add,←Nat.mul_assoc g (vs.getD k 0)]
 exact aBj (afz ws (i+k) _ (by omega)) hw hc1 hx1
theorem ahL{A B G:Gh}{x y:SV}{a b:List Nat}{k1 k2:Nat}(hx:IsD A x a)(hy:IsD B y b)[GL A G][GL B G](hb0:0<dv b)
  (hq:dv a/dv b<2^k1)(hr:dv a%dv b<2^k2)(hl:a.length≤112589990684)(hl2:b.length≤112589990684):
  Fn Tryz.prog 233 [x.v,y.v] G (fun v G'=> ∃z r:SV,v= .tuple #[z.v,r.v, .bool true]∧IsN k1 G' z (dv a/dv b)∧IsN k2 G' r (dv a%dv b)):=by
 have hla:=abt a
 have hlb:=abt b
 have hca:=fun G1 (_:GL A G1)=>aa2 (G:=G1) hx (by omega)
 have hcb:=fun G1 (_:GL B G1)=>aa2 (G:=G1) hy (by omega)
 have hxt:=hx.trim
 have hyt:=hy.trim
 have hna:=Nrm.trimD a
 have hnb:=Nrm.trimD b
 rw[←aa9 a,←aa9 b] at hq hr⊢
 rw[←aa9 b] at hb0
 generalize trimD a=a' at*
 generalize trimD b=b' at*
 refine Fn.intro Tryz.func233 J J Tryz.ntmps233 rfl ?_
 intro C _ _
 refine sR<|sa J J<|sa J J<|sa J J<|zE<|sR<|sm J J<|?_
 refine sc (zC J J (hca _ inferInstance) rfl ?_)
 rintro _ G1 _ rfl
 refine sm J J<|?_
 refine sc (zC J J (hcb _ inferInstance) rfl ?_)
 rintro _ G2 _ rfl
 refine sa J J<|sa J J<|zE<|aaj<|aas<|sR<|sm J J<|adj J J<|sy (ab3 J J) rfl<|sa J J<|zE<|?_
 refine aaH rfl (fun hc=>?_) (fun hc=>?_) -- slot 15
 ·exfalso
  have:b'=[]:=List.eq_nil_of_length_eq_zero (by omega)
  rw[this] at hb0
  exact absurd hb0 (by simp[dv])
 refine sR<|sm J J<|sm J J<|?_
 refine sc (zC J J (asb hxt hyt (by omega) (by omega)) rfl ?_)
 rintro _ G3 _ rfl
 refine sy (acj J J) rfl<|sa J J<|zE<|?_
 refine aaH rfl (fun hc2=>?_) (fun hc2=>?_) -- slot 19
 ·have hlt:dv a'<dv b':=by
   unfold ahF at hc2
   split at hc2
   ·assumption
   ·split at hc2<;>omega
  refine sR<|sm J J<|?_
  refine sc (zC J J (am2 hxt (by omega)) rfl ?_)
  rintro _ G4 _ ⟨z,rfl,hz⟩
  refine sa J J<|sa J J<|sa J J<|zE<|aaL<|?_
  refine zD (.tmp rfl (.tmp rfl (.tmp rfl .nil))) ⟨⟨none,0,0⟩,z,rfl,?_,?_⟩
  ·rw[Nat.div_eq_of_lt hlt]
   exact⟨by unfold dg;exact .nil _,Nat.pow_pos (by decide)⟩
  ·rw[Nat.mod_eq_of_lt hlt] at hr⊢
   exact⟨by rw[arS hxt.ok hna];exact hz,hr⟩
 have hle:dv b'≤dv a':=by
  unfold ahF at hc2
  split at hc2
  ·omega
  ·omega
 refine sR<|sm J J<|adj J J<|sy (ab3 J J) rfl<|sa J J<|zE<|?_
 refine aaH rfl (fun hc3=>?_) (fun hc3=>?_) -- slot 26
 ·have hb1:b'.length=1:=by omega
  obtain⟨d,rfl⟩:=List.length_eq_one_iff.1 hb1
  have hdv:dv [d]=d:=by simp[dv]
  have hdB:=hyt.ok.head
  rw[hdv] at hb0 hq hr⊢
  refine sR<|sm J J<|sm J J<|sy (abU (z:=⟨y.a,1,y.c⟩) hyt J J (by omega) (by show(0:Int)<((1:Nat):Int);omega)) rfl<|sy (abX (i:=0) hyt rfl (by simp)) rfl<|?_
  rw[show [d].getD 0 0=d from rfl]
  refine sc (zC J J (asi (x:=⟨x.a,a'.length,x.c⟩) hxt hb0 hdB hq (by omega)) rfl ?_)
  rintro _ G5 _ ⟨z,rfl,hz⟩
  have hmB:dv a'%d<4294967296:=Nat.lt_trans (Nat.mod_lt _ hb0) hdB
  refine sm J J<|sx J J J<|sx J J J<|sa J J<|sa J J<|zE<|sR<|sm J J<|sm J J<|sy (aaN rfl) rfl<|?_
  refine sc (zC J J (afr (by omega)) rfl ?_)
  rintro _ G6 _ ⟨r,rfl,hr6⟩
  refine sa J J<|sa J J<|sa J J<|zE<|aaL<|?_
  exact zD (.tmp rfl (.tmp rfl (.tmp rfl .nil))) ⟨z,r,rfl,hz.up,hr6.mono hr⟩
 have hb2:2≤b'.length:=by omega
 refine zK<|sR<|sm J J<|sm J J<|?_
 refine sc (zC J J (awY (x:=⟨x.a,a'.length,x.c⟩) (y:=⟨y.a,b'.length,y.c⟩) hxt hyt hna hnb hb2 hle hq hr (by omega)) rfl ?_)
 rintro _ G7 _ ⟨z,r,rfl,hz,hr7⟩
 refine sm J J<|sx J J J<|sx J J J<|sa J J<|sa J J<|zE<|sR<|sm J J<|sm J J<|sa J J<|sa J J<|sa J J<|zE<|?_
 refine aaL<|?_
 exact zD (.tmp rfl (.tmp rfl (.tmp rfl .nil))) ⟨z,r,rfl,hz,hr7⟩
theorem aa4{u k:Nat}(h:u<2^k):32*(dg u).length≤k+31:=atK (aaG u).2.2 (by rw[(aaG u).1];exact h)
theorem IsN.dvl{k:Nat}{G:Gh}{x:SV}{v:Nat}(_:IsN k G x v):dv (dg v)=v:=(aaG v).1
structure aCE where
 a:SV
 b:SV
 u:Nat
 v:Nat
theorem aAx{A B G:Gh}{x y:SV}{a b:List Nat}{k k0:Nat}(hx:IsD A x a)(hy:IsD B y b)[GL A G][GL B G](ha:dv a<2^k0)(hb:dv b<2^k0)(hk0:k0≤1099511627776)
  (hg0:Nat.gcd (dv a) (dv b)<2^k)(hl:a.length≤112589990684)(hl2:b.length≤112589990684):
  Fn Tryz.prog 232 [x.v,y.v] G (fun v G'=> ∃z:SV,v=z.v∧IsN k G' z (Nat.gcd (dv a) (dv b))):=by
 refine Fn.intro Tryz.func232 J J Tryz.ntmps232 rfl ?_
 intro C _ _
 refine sR<|sa J J<|zE<|sR<|sm J J<|?_
 refine sc (zC J J (amc hx ha (by omega)) rfl ?_)
 rintro _ G1 _ ⟨x1,rfl,hx1⟩
 refine sm J J<|?_
 refine sc (zC J J (amc hy hb (by omega)) rfl ?_)
 rintro _ G2 _ ⟨y1,rfl,hy1⟩
 generalize dv a=ua at*
 generalize dv b=ub at*
 refine sa J J<|sa J J<|zE<|aaj<|aas<|?_
 refine abZ (X:=aCE) (fun q=>[(0, .slice q.a.a q.a.n q.a.c),(1, .slice q.b.a q.b.n q.b.c)]) (fun _=>[]) (fun q G=>IsN k0 G q.a q.u∧IsN k0 G q.b q.v∧Nat.gcd q.u q.v=Nat.gcd ua ub) (fun q=>q.v) ⟨x1,y1,ua,ub⟩
  ⟨hx1.up,hy1,rfl⟩ (.cons rfl (.cons rfl .nil)) rfl ?_
 rintro ⟨p,q,u,v⟩ Gx _ ⟨hp,hq,hgc⟩
 simp only[] at hp hq hgc⊢
 have hpl:=hp.len
 have hql:=hq.len
 have hpb:=aa4 hp.lt
 have hqb:=aa4 hq.lt
 refine aaj<|sR<|sm J J<|adj J J<|sy (af8 J J) rfl<|sm J J<|?_
 refine ab7 19 rfl (fun hg=>?_) (fun hg=>?_)
 ·refine ss J J J J<|ss J J J J<|ss J J J J<|sy (ac6 J J) rfl<|zE<|acr rfl<|zK<|aas<|aaj<|sR<|sm J J<|?_
  refine adj J J<|sy (ab3 J J) rfl<|zE<|?_
  refine aaH rfl (fun hc1=>?_) (fun hc1=>?_) -- slot 26
  ·refine sR<|sm J J<|sa J J<|zE<|aaL<|?_
   have hv0:v=0:=by
    have:dg v=[]:=List.eq_nil_of_length_eq_zero (by omega)
    have h2:=hq.dvl
    rw[this] at h2
    exact h2.symm
   have hue:u=Nat.gcd ua ub:=by rw[←hgc,hv0,Nat.gcd_zero_right]
   exact zD (.tmp rfl .nil) ⟨p,rfl,by rw[←hue] at hg0⊢;exact hp.mono hg0⟩
  have hv0:0<v:=Nat.pos_of_ne_zero fun h=>by
   have h1:dg v=[]:=by rw[h];unfold dg;rfl
   rw[h1] at hql
   simp only[List.length_nil] at hql
   omega
  have hm:=Nat.mod_lt u hv0
  refine zK<|sR<|sm J J<|sm J J<|?_
  refine sc (zC J J (ahL (k1:=k0) (k2:=k0) hp.d hq.d (by rw[hq.dvl];exact hv0) (by rw[hp.dvl];exact Nat.lt_of_le_of_lt (Nat.div_le_self _ _) hp.lt) (by rw[hp.dvl,hq.dvl];exact Nat.lt_trans hm hq.lt) (by omega) (by omega)) rfl ?_)
  rintro _ G3 _ ⟨z,r,rfl,hz,hr⟩
  rw[hp.dvl,hq.dvl] at hr
  refine sm J J<|sx J J J<|sx J J J<|sx J J J<|sa J J<|sa J J<|sa J J<|zE<|aam<|sm J J<|sm J J<|sa J J<|sa J J<|?_
  refine zE<|?_
  exact aaX ⟨q,r,v,u%v⟩ ⟨hq.up,hr,by show Nat.gcd v (u%v)=_;rw[←hgc,Nat.gcd_comm u,Nat.gcd_rec v u,Nat.gcd_comm]⟩ hm (.cons rfl (.cons rfl .nil)) rfl
 refine syg J J (aaS rfl) rfl<|syg J J (afd rfl) rfl<|syg J J (af8 J J) rfl<|sy (abx J J) rfl<|zE<|?_
 refine abn rfl (fun hc=>?_) (fun hc=>?_) -- slot 23
 ·have small: ∀{w:Nat},(dg w).length≤2→w<18446744073709551616:=fun{w} h=>by
   have h1:=aeK (aaG w).2.1
   rw[(aaG w).1] at h1
   exact Nat.lt_of_lt_of_le h1 (Nat.le_trans (Nat.pow_le_pow_right (by decide) h) (by decide))
  have hu64:u<18446744073709551616:=small (by omega)
  have hv64:v<18446744073709551616:=small (by omega)
  refine abu<|abI<|abI<|aar<|sR<|sm J J<|?_
  refine sc (zC J J (alx hp.d (by omega)) rfl ?_)
  rintro _ G4 _ rfl
  rw[hp.dvl,if_pos hu64]
  refine sm J J<|sx J J J<|sx J J J<|sa J J<|sa J J<|zE<|sR<|sm J J<|?_
  refine sc (zC J J (alx hq.d (by omega)) rfl ?_)
  rintro _ G5 _ rfl
  rw[hq.dvl,if_pos hv64]
  refine sm J J<|sx J J J<|sx J J J<|sa J J<|sa J J<|zE<|aaj<|aas<|?_
  refine abZ (X:=Nat×Nat) (fun q=>[(8, .int .u64 (q.1:Nat)),(10, .int .u64 (q.2:Nat))]) (fun _=>[]) (fun q _=>q.1<18446744073709551616∧q.2<18446744073709551616∧Nat.gcd q.1 q.2=Nat.gcd ua ub) (fun q=>q.2) (u,v)
   ⟨hu64,hv64,hgc⟩ (.cons rfl (.cons rfl .nil)) rfl ?_
  rintro ⟨u1,v1⟩ Gy _ ⟨hu1,hv1,hgc1⟩
  simp only[] at hu1 hv1 hgc1⊢
  refine aaj<|sR<|sm J J<|sy (ahX J J) rfl<|zE<|?_
  refine abn rfl (fun hc5=>?_) (fun hc5=>?_) -- slot 48
  ·refine abu<|abI<|abI<|aar<|sR<|sm J J<|?_
   refine sc (zC J J (afr hu1) rfl ?_)
   rintro _ G6 _ ⟨z,rfl,hz⟩
   refine sa J J<|zE<|aaL<|?_
   have hv0:v1=0:=by omega
   have hue:u1=Nat.gcd ua ub:=by rw[←hgc1,hv0,Nat.gcd_zero_right]
   exact zD (.tmp rfl .nil) ⟨z,rfl,by rw[←hue] at hg0⊢;exact hz.mono hg0⟩
  have hv0:0<v1:=by omega
  refine zK<|aas<|dr (fun _=>false) [(0,true),(1,true),(2,true),(3,true),(4,true),(5,true)] follows (by kernel_rfl)<|dM J J J<|dM J J J<|?_
  refine dM J J J<|dy rfl (fun _=>ahC J J (by omega) (by omega)) J J<|dA J J J<|dA J J J<|dn<|?_
  exact aaX (v1,u1%v1) ⟨hv1,Nat.lt_trans (Nat.mod_lt _ hv0) hv1,by show Nat.gcd v1 (u1%v1)=_;rw[←hgc1,Nat.gcd_comm u1,Nat.gcd_rec v1 u1,Nat.gcd_comm]⟩ (by show u1%v1<v1;exact Nat.mod_lt _ hv0) (.cons rfl (.cons rfl .nil)) rfl
 refine zK<|aas<|aaj<|sR<|sm J J<|?_
 refine adj J J<|sy (ab3 J J) rfl<|zE<|?_
 refine aaH rfl (fun hc1=>?_) (fun hc1=>?_) -- slot 26
 ·refine sR<|sm J J<|sa J J<|zE<|aaL<|?_
  have hv0:v=0:=by
   have:dg v=[]:=List.eq_nil_of_length_eq_zero (by omega)
   have h2:=hq.dvl
   rw[this] at h2
   exact h2.symm
  have hue:u=Nat.gcd ua ub:=by rw[←hgc,hv0,Nat.gcd_zero_right]
  exact zD (.tmp rfl .nil) ⟨p,rfl,by rw[←hue] at hg0⊢;exact hp.mono hg0⟩
 have hv0:0<v:=Nat.pos_of_ne_zero fun h=>by
  have h1:dg v=[]:=by rw[h];unfold dg;rfl
  rw[h1] at hql
  simp only[List.length_nil] at hql
  omega
 have hm:=Nat.mod_lt u hv0
 refine zK<|sR<|sm J J<|sm J J<|?_
 refine sc (zC J J (ahL (k1:=k0) (k2:=k0) hp.d hq.d (by rw[hq.dvl];exact hv0) (by rw[hp.dvl];exact Nat.lt_of_le_of_lt (Nat.div_le_self _ _) hp.lt) (by rw[hp.dvl,hq.dvl];exact Nat.lt_trans hm hq.lt) (by omega) (by omega)) rfl ?_)
 rintro _ G3 _ ⟨z,r,rfl,hz,hr⟩
 rw[hp.dvl,hq.dvl] at hr
 refine sm J J<|sx J J J<|sx J J J<|sx J J J<|sa J J<|sa J J<|sa J J<|zE<|aam<|sm J J<|sm J J<|sa J J<|sa J J<|?_
 refine zE<|?_
 exact aaX ⟨q,r,v,u%v⟩ ⟨hq.up,hr,by show Nat.gcd v (u%v)=_;rw[←hgc,Nat.gcd_comm u,Nat.gcd_rec v u,Nat.gcd_comm]⟩ hm (.cons rfl (.cons rfl .nil)) rfl
structure IV where
 neg:Bool
 a:SV
def IV.v(z:IV):Value:= .agg ⟨[.bool z.neg, .slice z.a.a z.a.n z.a.c]⟩
def zv(neg:Bool)(u:Nat):Int:=if neg then-(u:Int) else u
theorem aeD(neg:Bool)(u:Nat):(zv neg u).natAbs=u:=by cases neg<;>simp[zv]
theorem aDT(neg:Bool)(u:Nat):zv (!neg) u= -zv neg u:=by cases neg<;>simp[zv]
theorem ay7(n m:Bool)(u w:Nat):zv (n !=m) (u*w)=zv n u*zv m w:=by cases n<;>cases m<;>simp[zv,Int.neg_mul,Int.mul_neg]
theorem am1(neg:Bool)(u:Nat):decide (zv neg u<0)=(neg&&decide (0<u)):=by
 cases neg<;>simp[zv]
theorem adQ(m:Int):zv (decide (m<0)) m.natAbs=m:=by
 unfold zv
 by_cases h:m<0<;>simp[h]<;>omega
structure IsI (k:Nat) (G:Gh) (z:IV) (m:Int):Prop where
 neg:z.neg=decide (m<0)
 abs:IsN k G z.a m.natAbs
theorem ao0(n:Bool)(u w:Nat):zv n (u+w)=zv n u+zv n w:=by cases n<;>simp[zv]<;>omega
theorem aml(p:Int):IntKind.i64.wrap p=(p+9223372036854775808)%18446744073709551616-9223372036854775808:=by
 have e:IntKind.i64.wrap p=if(true&&decide (p%2^64≥2^(64-1)))=true then p%2^64-2^64 else p%2^64:=rfl
 rw[e,show(2:Int)^64=18446744073709551616 by decide,show(2:Int)^(64-1)=9223372036854775808 by decide,Bool.true_and]
 by_cases h:p%18446744073709551616≥9223372036854775808
 ·rw[decide_eq_true h,if_pos rfl];omega
 ·rw[decide_eq_false h,if_neg (by decide)];omega
structure RV where
 n:Int
 d:Int
 p:Option Addr
def RV.v(z:RV):Value:= .agg ⟨[.int .i64 z.n, .int .i64 z.d, .pointer z.p]⟩
structure aCv (z:RV) (q:Rat):Prop where
 p:z.p=none
 n:z.n=q.num
 d:z.d=(q.den:Int)-1
 b1:q.num.natAbs<4611686018427387904
 b2:q.den<4611686018427387904
structure aHe (k:Nat) (G:Gh) (z:RV) (q:Rat):Prop where
 n:z.n=0
 d:z.d=0
 ex: ∃(b:Nat) (x:IV) (y:SV),z.p=some ⟨b,0,none⟩∧G b=some [.bool x.neg, .slice x.a.a x.a.n x.a.c, .slice y.a y.n y.c]∧IsI k G x q.num∧IsN k G y q.den
 no: ¬(q.num.natAbs<4611686018427387904∧q.den<4611686018427387904)
def IsR(k:Nat)(G:Gh)(z:RV)(q:Rat):Prop:=q.num.natAbs<2^k∧q.den<2^k∧(aCv z q∨aHe k G z q)
theorem aEg{neg:Bool}{u g:Nat}(h:g∣u):zv neg (u/g)=zv neg u/(g:Int):=by
 cases neg
 ·simp[zv]
 ·simp only[zv,if_true]
  rw[Int.neg_ediv_of_dvd (Int.natCast_dvd_natCast.2 h),Int.natCast_ediv]
theorem asw{m:Int}{e:Nat}(he:0<e):(mkRat m e).num=m/((Nat.gcd m.natAbs e:Nat):Int)∧(mkRat m e).den=e/Nat.gcd m.natAbs e:=by
 rw[Rat.num_mkRat,Rat.den_mkRat,if_neg (by omega),if_neg (by omega),Nat.gcd_comm]
 exact⟨rfl,rfl⟩
theorem azD{x:Nat}:(((bl x:Nat):Int)≤62)↔x<4611686018427387904:=by
 have:bl x≤62↔x<2^62:=ahv
 omega
structure aF6 where
 x:SV
 y:SV
 ds:List Nat
 es:List Nat

theorem aoM{G:Gh}{x y:Nat}(hx:x<18446744073709551616)(hy:y<18446744073709551616):Fn Tryz.prog 265 [.int .u64 (x:Nat), .int .u64 (y:Nat)] G (fun v _=>v= .tuple #[.int .u64 ((x*y/18446744073709551616:Nat):Int), .int .u64 ((x*y%18446744073709551616:Nat):Int)]):=
 Fn.of_calls (G:=G) (aj4 Tryz.func265 J J) (fun w=>Tryz.bits_Mul64 x y hx hy w)
theorem ane(a b:Int):a*b=if(a<0)↔(b<0) then((a.natAbs*b.natAbs:Nat):Int) else-((a.natAbs*b.natAbs:Nat):Int):=by
 rcases(by omega:a<0∨0≤a) with h|h<;>rcases(by omega:b<0∨0≤b) with h2|h2
 ·rw[if_pos (by simp[h,h2]),Int.natCast_mul,Int.ofNat_natAbs_of_nonpos (Int.le_of_lt h),Int.ofNat_natAbs_of_nonpos (Int.le_of_lt h2),Int.neg_mul_neg]
 ·rw[if_neg (by simp[h];omega),Int.natCast_mul,Int.ofNat_natAbs_of_nonpos (Int.le_of_lt h),Int.natAbs_of_nonneg h2,Int.neg_mul,Int.neg_neg]
 ·rw[if_neg (by simp[h2];omega),Int.natCast_mul,Int.natAbs_of_nonneg h,Int.ofNat_natAbs_of_nonpos (Int.le_of_lt h2),Int.mul_neg,Int.neg_neg]
 ·rw[if_pos (by constructor<;>intro<;>omega),Int.natCast_mul,Int.natAbs_of_nonneg h,Int.natAbs_of_nonneg h2]
theorem as2{p:Int}(h:p.natAbs<9223372036854775808):IntKind.i64.wrap p=p:=by rw[aml];omega

theorem alX{n:Int}{d:Nat}(h:n<0):mkRat (-(d:Int)) n.natAbs=Rat.divInt (d:Int) n:=by
 rw[←Rat.divInt_ofNat,Int.ofNat_natAbs_of_nonpos (Int.le_of_lt h),Rat.neg_divInt_neg]
theorem ajE{q:Rat}(h:q.num<0):(q⁻¹).num= -(q.den:Int)∧(q⁻¹).den=q.num.natAbs:=by
 rw[Rat.num_inv,Rat.den_inv,if_neg (by omega),Int.sign_eq_neg_one_of_neg h]
 omega
theorem aj0{q:Rat}(h:0<q.num):(q⁻¹).num=(q.den:Int)∧(q⁻¹).den=q.num.natAbs:=by
 rw[Rat.num_inv,Rat.den_inv,if_neg (by omega),Int.sign_eq_one_of_pos h]
 omega
theorem al3{q:Rat}(h:q.den=1):q=(q.num:Int):=by
 conv=>lhs;rw[←Rat.mkRat_self q,h,Rat.mkRat_one]
def aa1(a b:Rat):Int:=if a<b then-1 else if b<a then 1 else 0
theorem agi(a b:Rat):(a-b).num<0↔a<b:=by
 rw[←Rat.not_le,Rat.le_iff_sub_nonneg,←Rat.num_nonneg];omega
theorem ajV(a b:Rat):0<(a-b).num↔b<a:=by
 have h:=agi b a
 have h2:(b-a).num= -(a-b).num:=by rw[←Rat.neg_num,Rat.neg_sub]
 rw[h2] at h
 rw[←h];omega
theorem aiB(a b:Rat):Int.sign (a-b).num=aa1 a b:=by
 unfold aa1
 split
 ·rename_i h;exact Int.sign_eq_neg_one_of_neg ((agi a b).2 h)
 ·rename_i h
  split
  ·rename_i h2;exact Int.sign_eq_one_of_pos ((ajV a b).2 h2)
  ·rename_i h2
   rw[←agi] at h
   rw[←ajV] at h2
   rw[show(a-b).num=0 by omega];rfl
theorem auT{a b:Rat}(h:a.den=b.den):a<b↔a.num<b.num:=by
 rw[Rat.lt_iff,h]
 have:(0:Int)<b.den:=by have:=b.den_pos;omega
 exact⟨fun h2=>Int.lt_of_mul_lt_mul_right h2 (Int.le_of_lt this),fun h2=>Int.mul_lt_mul_of_pos_right h2 this⟩
theorem ae8(a b:Rat):aa1 a b=0↔a=b:=by
 unfold aa1
 constructor
 ·intro h
  split at h
  ·omega
  ·rename_i h1
   split at h
   ·omega
   ·rename_i h2
    exact Rat.le_antisymm (Rat.not_lt.1 h2) (Rat.not_lt.1 h1)
 ·intro h
  subst h
  rw[if_neg (Rat.not_lt.2 Rat.le_refl),if_neg (Rat.not_lt.2 Rat.le_refl)]
theorem arg(a b:Rat):0<aa1 a b↔b<a:=by
 unfold aa1
 constructor
 ·intro h
  split at h
  ·omega
  ·split at h
   ·assumption
   ·omega
 ·intro h
  rw[if_neg (fun h2=>Rat.not_lt.2 (Rat.le_of_lt h) h2),if_pos h];decide
theorem ap9(a b:Rat):aa1 a b<0↔a<b:=by
 unfold aa1
 constructor
 ·intro h
  split at h
  ·assumption
  ·split at h<;>omega
 ·intro h
  rw[if_pos h];decide
def rgcd(a b:Rat):Rat:=mkRat ((Nat.gcd (a.num.natAbs*b.den) (b.num.natAbs*a.den):Nat):Int) (a.den*b.den)
theorem agv(a b:Int):rgcd a b=((Nat.gcd a.natAbs b.natAbs:Nat):Int):=by
 unfold rgcd
 show mkRat ((Nat.gcd (a.natAbs*1) (b.natAbs*1):Nat):Int) (1*1)=_
 rw[Nat.mul_one,Nat.mul_one,Nat.mul_one,Rat.mkRat_one]
theorem aCg{a b m:Nat}(ha:a<m)(hb:b<m):Nat.gcd a b<m:=by
 rcases Nat.eq_zero_or_pos a with h|h
 ·rw[h,Nat.gcd_zero_left];exact hb
 ·exact Nat.lt_of_le_of_lt (Nat.gcd_le_left _ h) ha
structure LV where
 a:RV
 b:RV
 c:RV
def LV.v(z:LV):Value:= .agg ⟨[.int .i64 z.a.n, .int .i64 z.a.d, .pointer z.a.p, .int .i64 z.b.n, .int .i64 z.b.d, .pointer z.b.p, .int .i64 z.c.n, .int .i64 z.c.d, .pointer z.c.p]⟩
structure LnQ where
 a:Int
 b:Int
 c:Int
structure IsL (k:Nat) (G:Gh) (z:LV) (l:LnQ):Prop where
 a:IsR k G z.a (l.a:Rat)
 b:IsR k G z.b (l.b:Rat)
 c:IsR k G z.c (l.c:Rat)
def LnQ.ok(l:LnQ):Prop:= ¬(l.a=0∧l.b=0)∧Nat.gcd (Nat.gcd l.a.natAbs l.b.natAbs) l.c.natAbs=1
def okI(neg:Bool)(ds:List Nat):Prop:=Nrm ds∧(neg=true→ds≠[])
structure PV where
 x:RV
 y:RV
def PV.v(z:PV):Value:= .agg ⟨[.int .i64 z.x.n, .int .i64 z.x.d, .pointer z.x.p, .int .i64 z.y.n, .int .i64 z.y.d, .pointer z.y.p]⟩
structure PtQ where
 x:Rat
 y:Rat
structure IsP (k:Nat) (G:Gh) (z:PV) (p:PtQ):Prop where
 x:IsR k G z.x p.x
 y:IsR k G z.y p.y
theorem agk(a:Int): -(a:Rat)=((-a:Int):Rat):=rfl
def LnQ.rev(l:LnQ):LnQ:=⟨-l.a, -l.b, -l.c⟩
def LnQ.nor(l:LnQ):PtQ:=⟨l.a,l.b⟩
def LnQ.dir(l:LnQ):PtQ:=⟨l.b, -(l.a:Rat)⟩
def PtQ.dot(p q:PtQ):Rat:=p.x*q.x+p.y*q.y
def PtQ.cross(p q:PtQ):Rat:=p.x*q.y-p.y*q.x
def PtQ.scale(p:PtQ)(c:Rat):PtQ:=⟨p.x*c,p.y*c⟩
def PtQ.add(p q:PtQ):PtQ:=⟨p.x+q.x,p.y+q.y⟩
def LnQ.value(l:LnQ)(p:PtQ):Rat:=l.nor.dot p+(l.c:Rat)
def LnQ.base(l:LnQ):PtQ:=l.nor.scale (-(l.c:Rat)/l.nor.dot l.nor)
def LnQ.at(l:LnQ)(t:Rat):PtQ:=l.base.add (l.dir.scale t)
end Go.Sx
end
section
namespace Go.Sx
open Go
def dU(d:Nat):DV:= .v (.int .u32 (d:Int))
def dLi(ds:List Nat):DV:= .sl (ds.map dU)
def dN(n:Nat):DV:= .sl ((dg n).map dU)
def dD(n:Nat):DV:= .sl (if n=1 then [] else(dg n).map dU)
def eI(m:Int):DV:= .ag [.v (.bool (decide (m<0))),dN m.natAbs]
def eQ(q:Rat):DV:= .ag [.v (.bool (decide (q.num<0))),dN q.num.natAbs,dD q.den]
def eP(p:PtQ):DV:= .ag [.v (.bool (decide (p.x.num<0))),dN p.x.num.natAbs,dD p.x.den, .v (.bool (decide (p.y.num<0))),dN p.y.num.natAbs,dD p.y.den]
def eL(l:LnQ):DV:= .ag [.v (.bool (decide (l.a<0))),dN l.a.natAbs, .v (.bool (decide (l.b<0))),dN l.b.natAbs, .v (.bool (decide (l.c<0))),dN l.c.natAbs]
def eR(q:Rat):DV:= .ag [.v (.bool (decide (q.num<0))),dN q.num.natAbs,dN q.den]
def ePt(p:PtQ):DV:= .ag [.v (.bool (decide (p.x.num<0))),dN p.x.num.natAbs,dN p.x.den, .v (.bool (decide (p.y.num<0))),dN p.y.num.natAbs,dN p.y.den]
def vI(n:Int):DV:= .v (.int .i64 n)
def vB(b:Bool):DV:= .v (.bool b)
theorem azv(n:Nat):dN n=dLi (dg n):=rfl
theorem aFf{ds:List Nat}(h:DOk ds):dLi (trimD ds)=dN (dv ds):=by unfold dLi dN;rw[adr h]
theorem av0{ds:List Nat}{i:Nat}(h:i<ds.length):(ds.map dU)[i]? =some (dU (ds.getD i 0)):=by
 rw[List.getElem?_map,List.getElem?_eq_getElem h,List.getD_eq_getElem?_getD,List.getElem?_eq_getElem h];rfl
theorem abd{ds:List Nat}{i:Nat}(h:i<ds.length):(ds.map dU)[(i:Int).toNat]? =some (dU (ds.getD i 0)):=by rw[Int.toNat_natCast];exact av0 h
theorem aef(ds:List Nat)(i d:Nat):(ds.map dU).set i (.v (.int .u32 (d:Int)))=(ds.set i d).map dU:=by rw[List.map_set];rfl
theorem aeU(n:Nat):List.replicate n (DV.v (.int .u32 0))=(List.replicate n 0).map dU:=by rw[List.map_replicate];rfl
theorem an8(ds:List Nat):adx 1 (ds.map dU):=fun d hd=>by
 obtain⟨n,_,rfl⟩:=List.mem_map.1 hd;exact⟨rfl,rfl⟩
theorem adt(n:Nat)(i:Nat):(dg n).getD i 0<4294967296:=(aaG n).2.1.get i
theorem agj:dg 0=[]:=by rw[dg,dif_pos rfl]
theorem aor:dg 1=[1]:=by rw[dg,dif_neg (by decide)];simp[agj]
theorem ab2{n:Nat}:(dg n).length=0↔n=0:=by
 constructor
 ·intro h
  have:=(aaG n).1
  rw[List.eq_nil_of_length_eq_zero h] at this
  exact this.symm
 ·rintro rfl;rw[agj];rfl
theorem adv:dN 0= .sl []:=by unfold dN;rw[agj];rfl
/-! ### bridges -/
theorem aiv{G:Gh}: ∀{ds:List Nat} {es:List Value},IsLs G (ds.map dU) es↔es=ds.map dI
 |[],es=>aaJ
 |d::t,es=>by
  rw[List.map_cons,aab]
  constructor
  ·rintro ⟨y,n,rfl,h1,h2⟩
   rw[aaV.1 h1,aiv.1 h2];rfl
  ·rintro rfl
   exact⟨_,_,rfl,aaV.2 rfl,aiv.2 rfl⟩
theorem aDI{G:Gh}{ds:List Nat}{v:Value}:Is G (dLi ds) v↔ ∃x:SV,v= .slice x.a x.n x.c∧afq G 1 x (ds.map dI):=by
 unfold dLi
 rw[ad4]
 constructor
 ·rintro ⟨s,x,es,rfl,h1,h2⟩
  have:=aiv.1 h2
  subst this
  refine⟨x,rfl,?_⟩
  rcases afn (s:=1) h1 h2 (an8 ds) with h|h
  ·rw[h] at h1⊢
   exact⟨h1.len,h1.cap, .inl rfl⟩
  ·subst h;exact h1
 ·rintro ⟨x,rfl,h⟩
  exact⟨1,x,_,rfl,h,aiv.2 rfl⟩
theorem aFN{G:Gh}{n k:Nat}{v:Value}(hk:n<2^k):Is G (dN n) v↔ ∃x:SV,v= .slice x.a x.n x.c∧IsN k G x n:=by
 rw[azv,aDI]
 constructor
 ·rintro ⟨x,rfl,h⟩
  exact⟨x,rfl,⟨(aaG n).2.1,h⟩,hk⟩
 ·rintro ⟨x,rfl,h⟩
  exact⟨x,rfl,h.d.sl⟩
/-! ### spelled otherwise -/
theorem aaC{ds:List Nat}{i:Int}{k:Nat}(hi:i=k)(h:k<ds.length):(ds.map dU)[i.toNat]? =some (dU (ds.getD k 0)):=by subst hi;exact abd h
/-! ### bounds -/
class BN (n:Nat) (k:outParam Nat):Prop where h:n<2^k
class BI (m:Int) (k:outParam Nat):Prop where h:m.natAbs<2^k
class BQ (q:Rat) (k:outParam Nat):Prop where
 hn:q.num.natAbs<2^k
 hd:q.den<2^k
theorem BN.mono{n k k':Nat}(h:BN n k)(hk:k≤k'):BN n k':=⟨Nat.lt_of_lt_of_le h.h (Nat.pow_le_pow_right (by decide) hk)⟩
theorem abl{a b i j:Nat}(h:a<2^i)(k:b<2^j):a*b<2^(i+j):=by rw[Nat.pow_add];exact Nat.mul_lt_mul'' h k
theorem afC{a b i j:Nat}(h:a<2^i)(k:b<2^j):a+b<2^(i+j+1):=by
 have h1:2^i≤2^(i+j):=Nat.pow_le_pow_right (by decide) (by omega)
 have h2:2^j≤2^(i+j):=Nat.pow_le_pow_right (by decide) (by omega)
 rw[Nat.pow_succ];omega
instance BN.mul (a b i j:Nat) [h:BN a i] [k:BN b j]:BN (a*b) (i+j):=⟨abl h.h k.h⟩
instance BN.add (a b i j:Nat) [h:BN a i] [k:BN b j]:BN (a+b) (i+j+1):=⟨afC h.h k.h⟩
instance BN.sub (a b i:Nat) [h:BN a i]:BN (a-b) i:=⟨by have:=h.h;omega⟩
instance BN.div (a b i:Nat) [h:BN a i]:BN (a/b) i:=⟨Nat.lt_of_le_of_lt (Nat.div_le_self _ _) h.h⟩
instance BN.abs (m:Int) (i:Nat) [h:BI m i]:BN m.natAbs i:=⟨h.h⟩
instance BN.den (q:Rat) (i:Nat) [h:BQ q i]:BN q.den i:=⟨h.hd⟩
theorem apg{a b i j:Nat}(h:a<2^i)(k:b<2^j):Nat.gcd a b<2^(i+j):=by
 have h1:2^i≤2^(i+j):=Nat.pow_le_pow_right (by decide) (by omega)
 have h2:2^j≤2^(i+j):=Nat.pow_le_pow_right (by decide) (by omega)
 rcases Nat.eq_zero_or_pos a with h0|h0
 ·subst h0;rw[Nat.gcd_zero_left];omega
 ·have:=Nat.gcd_le_left b h0;omega
instance BN.gcd (a b i j:Nat) [h:BN a i] [k:BN b j]:BN (Nat.gcd a b) (i+j):=⟨apg h.h k.h⟩
instance BN.one:BN 1 1:=⟨by decide⟩
instance BN.zero:BN 0 0:=⟨by decide⟩
instance BI.mul (a b:Int) (i j:Nat) [h:BI a i] [k:BI b j]:BI (a*b) (i+j):=⟨by rw[Int.natAbs_mul];exact abl h.h k.h⟩
instance BI.add (a b:Int) (i j:Nat) [h:BI a i] [k:BI b j]:BI (a+b) (i+j+1):=⟨Nat.lt_of_le_of_lt (Int.natAbs_add_le a b) (afC h.h k.h)⟩
instance BI.sub (a b:Int) (i j:Nat) [h:BI a i] [k:BI b j]:BI (a-b) (i+j+1):=⟨Nat.lt_of_le_of_lt (Int.natAbs_sub_le a b) (afC h.h k.h)⟩
instance BI.neg (a:Int) (i:Nat) [h:BI a i]:BI (-a) i:=⟨by rw[Int.natAbs_neg];exact h.h⟩
instance BI.num (q:Rat) (i:Nat) [h:BQ q i]:BI q.num i:=⟨h.hn⟩
instance BI.nat (n:Nat) (i:Nat) [h:BN n i]:BI (n:Int) i:=⟨by rw[Int.natAbs_natCast];exact h.h⟩
theorem abH(q:Rat):0<q.den:=Nat.pos_of_ne_zero q.den_nz
theorem agw{m:Int}{d i:Nat}(hd:0<d)(h:m.natAbs<2^i)(k:d<2^i):BQ (mkRat m d) i:=by
 refine⟨?_,?_⟩
 ·rw[Rat.num_mkRat,if_neg (by omega)]
  have:=Int.natAbs_ediv_le_natAbs m (d.gcd m.natAbs:Nat)
  omega
 ·rw[Rat.den_mkRat,if_neg (by omega)]
  have:=Nat.div_le_self d (d.gcd m.natAbs)
  omega
theorem BQ.mono{q:Rat}{k k':Nat}(h:BQ q k)(hk:k≤k'):BQ q k':=⟨Nat.lt_of_lt_of_le h.hn (Nat.pow_le_pow_right (by decide) hk),Nat.lt_of_lt_of_le h.hd (Nat.pow_le_pow_right (by decide) hk)⟩
theorem aeu(p q:Rat):p*q=mkRat (p.num*q.num) (p.den*q.den):=by rw[Rat.mul_def,Rat.normalize_eq_mkRat]
theorem aev(p q:Rat):p+q=mkRat (p.num*q.den+q.num*p.den) (p.den*q.den):=by rw[Rat.add_def,Rat.normalize_eq_mkRat]
instance BQ.mul (p q:Rat) (i j:Nat) [h:BQ p i] [k:BQ q j]:BQ (p*q) (i+j):=by
 rw[aeu]
 exact agw (Nat.mul_pos (abH p) (abH q)) (BI.mul p.num q.num i j).h (abl h.hd k.hd)
instance BQ.add (p q:Rat) (i j:Nat) [h:BQ p i] [k:BQ q j]:BQ (p+q) (i+j+1):=by
 rw[aev]
 refine agw (Nat.mul_pos (abH p) (abH q)) ?_ ?_
 ·have h1:=abl h.hn k.hd
  have h2:=abl k.hn h.hd
  have h3:(p.num*q.den+q.num*p.den).natAbs≤(p.num*q.den).natAbs+(q.num*p.den).natAbs:=Int.natAbs_add_le ..
  rw[Int.natAbs_mul,Int.natAbs_mul,Int.natAbs_natCast,Int.natAbs_natCast] at h3
  rw[Nat.add_comm j i] at h2
  rw[Nat.pow_succ];omega
 ·have h1:=abl h.hd k.hd
  rw[Nat.pow_succ];omega
instance BQ.neg (p:Rat) (i:Nat) [h:BQ p i]:BQ (-p) i:=⟨by rw[Rat.neg_num,Int.natAbs_neg];exact h.hn,by rw[Rat.neg_den];exact h.hd⟩
instance BQ.sub (p q:Rat) (i j:Nat) [h:BQ p i] [k:BQ q j]:BQ (p-q) (i+j+1):=by
 rw[Rat.sub_eq_add_neg]
 exact BQ.add p (-q) i j
instance BQ.ofInt (m:Int) (i:Nat) [h:BI m i]:BQ (m:Rat) (i+1):=by
 refine⟨?_,?_⟩
 ·rw[Rat.num_intCast];have:=h.h;rw[Nat.pow_succ];omega
 ·rw[Rat.den_intCast];have:0<2^i:=Nat.pow_pos (by decide);rw[Nat.pow_succ];omega
end Go.Sx
end
section
namespace Go.Sx
open Go Go.Proofs
variable {GB:Gh}
def aEw(p q:Int):Nat:=(BitVec.ofInt 32 p &&& BitVec.ofInt 32 q).toNat
def orN(p q:Int):Nat:=(BitVec.ofInt 32 p ||| BitVec.ofInt 32 q).toNat
def aDZ(p q:Int):Nat:=(BitVec.ofInt 32 p^^^BitVec.ofInt 32 q).toNat
theorem aug{ds:List Nat}{n:Nat}(h:0<n∧n≤ds.length)(hz:ds.getD (n-1) 0=0):trimD (ds.take n)=trimD (ds.take (n-1)):=by
 obtain⟨m,rfl⟩: ∃m,n=m+1:=⟨n-1,by omega⟩
 rw[List.take_succ_eq_append_getElem (by omega),Nat.add_sub_cancel]
 rw[Nat.add_sub_cancel,List.getD_eq_getElem?_getD,List.getElem?_eq_getElem (by omega)] at hz
 simp only[Option.getD_some] at hz
 rw[hz,ajx]
theorem avi{ds:List Nat}{n:Nat}(h:n≤ds.length)(hz:0<n→ds.getD (n-1) 0≠0):trimD (ds.take n)=ds.take n:=by
 rcases Nat.eq_zero_or_pos n with h0|h0
 ·subst h0;simp[trimD]
 ·obtain⟨m,rfl⟩: ∃m,n=m+1:=⟨n-1,by omega⟩
  have hz:=hz h0
  rw[List.take_succ_eq_append_getElem (by omega)]
  rw[Nat.add_sub_cancel,List.getD_eq_getElem?_getD,List.getElem?_eq_getElem (by omega)] at hz
  exact ahO (by simpa using hz)
theorem aBh{x y c:Nat}(hx:x<4294967296)(hy:y<4294967296)(hc:c≤1):PF GB Tryz.prog 257 [.v (.int .u32 (x:Int)), .v (.int .u32 (y:Int)), .v (.int .u32 (c:Int))] (.tp [.v (.int .u32 (((x+y+c)%4294967296:Nat):Int)), .v (.int .u32 (((x+y+c)/4294967296:Nat):Int))]):=by
 refine fn (hv:=by simp only[aai];exact⟨⟨⟨⟨⟨by omega,by omega⟩,by omega⟩,by omega⟩,by omega⟩,(by decide)⟩) Tryz.func257 J J Tryz.ntmps257 J J (fun C=>?_)
 exact rz rfl (by
  have e1:((x:Int)+y+c)%4294967296=(((x+y+c)%4294967296:Nat):Int):=by omega
  have e2:((x:Int)+y+c).fdiv (2^min (32:Int).toNat IntKind.u64.bits)%4294967296=(((x+y+c)/4294967296:Nat):Int):=by
   rw[show(2:Int)^min (32:Int).toNat IntKind.u64.bits=((4294967296:Nat):Int) from rfl,Int.fdiv_eq_ediv_of_nonneg _ (by decide)]
   omega
  show DV.tp [.v (.int _ _), .v (.int _ _)]=_
  rw[e1,e2])
theorem ai4(n:Nat)(h:n<4294967296):(BitVec.ofInt 32 (n:Int)).msb=decide (2147483648≤n):=by
 rw[show BitVec.ofInt 32 (n:Int)=BitVec.ofNat 32 n from BitVec.ofInt_natCast ..]
 rw[BitVec.msb_eq_decide,BitVec.toNat_ofNat,Nat.mod_eq_of_lt (by simpa using h)]
theorem atl(b:BitVec 32):b.toNat/2147483648=if b.msb then 1 else 0:=by
 have:=b.isLt
 rw[BitVec.msb_eq_decide]
 simp only[decide_eq_true_eq,Nat.reduceSub,Nat.reducePow] at*
 split<;>omega
theorem akt(b:BitVec 32):BitVec.ofInt 32 (b.toNat:Int)=b:=by rw[BitVec.ofInt_natCast,BitVec.ofNat_toNat,BitVec.setWidth_eq]
theorem ark{x y c:Nat}(hx:x<4294967296)(hy:y<4294967296)(hc:c≤1):
  ((orN (aEw (aDZ IntKind.u32.max x:Nat) y:Nat) (aEw (aDZ IntKind.u32.max (aDZ x y:Nat):Nat) (IntKind.u32.wrap (IntKind.u32.wrap ((x:Int)-y)-c)):Nat):Nat):Int).fdiv (2^min (31:Int).toNat IntKind.u32.bits)=(((if x<y+c then 1 else 0):Nat):Int):=by
 rw[show((2:Int)^min (31:Int).toNat IntKind.u32.bits)=((2147483648:Nat):Int) from rfl,Int.fdiv_eq_ediv_of_nonneg _ (by decide),←Int.natCast_ediv]
 congr 1
 have hd: ∃d:Nat,d<4294967296∧IntKind.u32.wrap (IntKind.u32.wrap ((x:Int)-y)-c)=(d:Int)∧((x≥y+c∧d=x-(y+c))∨(x<y+c∧d=x+4294967296-(y+c))):=by
  rw[acL,acL]
  refine⟨((((x:Int)-y)%4294967296-c)%4294967296).toNat,by omega,by omega,by omega⟩
 obtain⟨d,hd1,hd2,hd3⟩:=hd
 rw[hd2]
 unfold orN aEw aDZ
 simp only[akt]
 rw[atl]
 simp only[BitVec.msb_or,BitVec.msb_and,BitVec.msb_xor,ai4 x hx,ai4 y hy,ai4 d hd1]
 have h1:(BitVec.ofInt 32 IntKind.u32.max).msb=true:=by decide
 rw[h1]
 rcases Nat.lt_or_ge x 2147483648 with a|a<;>rcases Nat.lt_or_ge y 2147483648 with b|b<;>rcases Nat.lt_or_ge d 2147483648 with e|e<;>
  simp[Nat.not_le.2, *]<;>(first|omega|(split<;>omega))
theorem axV{x y c:Nat}(hx:x<4294967296)(hy:y<4294967296)(hc:c≤1):IntKind.u32.wrap (IntKind.u32.wrap ((x:Int)-y)-c)=(((if x<y+c then x+4294967296-(y+c) else x-(y+c)):Nat):Int):=by
 rw[acL,acL]
 split<;>omega
theorem aAW{x y c:Nat}(hx:x<4294967296)(hy:y<4294967296)(hc:c≤1):PF GB Tryz.prog 258 [.v (.int .u32 (x:Int)), .v (.int .u32 (y:Int)), .v (.int .u32 (c:Int))] (.tp [.v (.int .u32 (((if x<y+c then x+4294967296-(y+c) else x-(y+c)):Nat):Int)), .v (.int .u32 (((if x<y+c then 1 else 0):Nat):Int))]):=by
 refine fn (fu:=⟨10⟩) Tryz.func258 J J Tryz.ntmps258 J J (fun C=>?_)
 refine sw (fu:=⟨1⟩) _ rfl (acL _).symm rfl<|sw (fu:=⟨6⟩) _ rfl (acL _).symm rfl<|nt (fu:=⟨4⟩) _ J J J<|xr (fu:=⟨0⟩) _ J J J<|nt _ J J J<|?_
 exact rz rfl (by have h1:=ark hx hy hc;unfold orN aEw aDZ at h1;show DV.tp [.v (.int _ _), .v (.int _ _)]=_;rw[h1,axV hx hy hc])
theorem agc{ds:List Nat}(hl:ds.length≤1125899906842624):PF GB Tryz.prog 196 [dLi ds] (dLi (trimD ds)):=by
 refine fn Tryz.func196 J J Tryz.ntmps196 J J (fun C=>?_)
 refine lp (X:=Nat) (fun n=>[(0, .d (dLi ds)),(3, .d (vI (n:Nat)))]) (fun n=>[]) (fun n=>n≤ds.length∧trimD ds=trimD (ds.take n)) (fun n=>n) ds.length rfl ⟨Nat.le_refl _,by rw[List.take_length]⟩ (fun _=>rfl) (fun n hk=>?_)
 obtain⟨h1,h2⟩:=hk
 refine cs 8 J J J (fun hg8=>?_) (fun hg8=>?_)
 ·
  refine ix _ rfl (aaC (k:=n-1) (by omega) (by omega)) rfl<|?_
  refine br J J J (fun hc15=>?_) (fun hc15=>?_)
  ·
   have hz:ds.getD (n-1) 0=0:=by omega
   exact at_ (n-1) ⟨⟨by omega,by rw[h2,aug (by omega) hz]⟩,(by omega)⟩
  ·
   refine sc' 0 n _ J J J J (an8 _) (by omega) (by simp;omega) rfl<|?_
   exact rz rfl (by have:=avi h1 (fun _ h=>hc15 (by omega));rw[←h2] at this;show DV.sl _=_;simp[dLi,this])
 ·
  refine sc' 0 n _ J J J J (an8 _) (by omega) (by simp;omega) rfl<|?_
  exact rz rfl (by obtain rfl:n=0:=(by omega);show DV.sl _=_;simp[dLi,h2,trimD])
end Go.Sx
end
