import Derived.Test.YtidmgdlbilojcaaGreatDoorMc8
set_option linter.unusedSimpArgs false
set_option maxHeartbeats 2000000
set_option maxRecDepth 100000
set_option linter.unusedVariables false
section
namespace Go.Sx
open Go Go.Proofs Tryz
structure aAr where
 ws:List Nat
 i:Nat
structure aAn where
 ws:List Nat
 k:Nat
 c:Nat
theorem aGC{x y w c:Nat}(hx:x<4294967296)(hy:y<4294967296)(hw:w<4294967296)(hc:c<4294967296):c+x*y+w<18446744073709551616:=by
 have:x*y≤4294967295*4294967295:=iJ (by omega) (by omega)
 omega
theorem ahc{ws:List Nat}{i j d:Nat}(h:i≠j):(ws.set i d).getD j 0=ws.getD j 0:=by
 rw[aX,aX,List.getElem?_set_ne h]
theorem aBX{A B G:Gh}{x y:SV}{ds es:List Nat}{kk:Nat}(hx:IsD A x ds)(hy:IsD B y es)[GL A G][GL B G](hk:dv ds*dv es<2^kk)(hb:ds.length≤562949953421)(hb2:es.length≤562949953421):
  Fn prog 161 [x.v,y.v] G (fun v G'=> ∃z:SV,v=z.v∧IsN kk G' z (dv ds*dv es)):=by
 have htl:=abp ds
 have htl2:=abp es
 have hcall:=fun G1 (_:GL A G1)=>aa1 (G:=G1) hx (by omega)
 have hcall2:=fun G1 (_:GL B G1)=>aa1 (G:=G1) hy (by omega)
 have hxt:=hx.trim
 have hyt:=hy.trim
 rw[←aa7 ds,←aa7 es] at hk⊢
 generalize trimD ds=a at*
 generalize trimD es=b at*
 have hok:=hxt.ok
 have hok2:=hyt.ok
 refine Fn.intro func161 J J ntmps161 rfl ?_
 intro C _ _
 refine sR<|sa J J<|zE<|sR<|sm J J<|?_
 refine sc (zC J J (hcall _ inferInstance) rfl ?_)
 rintro _ G1 _ rfl
 refine sm J J<|?_
 refine sc (zC J J (hcall2 _ inferInstance) rfl ?_)
 rintro _ G2 _ rfl
 refine sa J J<|sa J J<|zE<|sR<|sm J J<|adn J J<|sm J J<|adn J J<|sy (aar J J) rfl<|?_
 refine sc (aeN J J (by omega) (by omega) (by omega) (by rfl) rfl ?_)
 intro b3
 rw[ad5,show((a.length:Int)+(b.length:Int)).toNat=a.length+b.length by omega]
 refine sa J J<|zE<|aak<|sR<|sm J J<|adn J J<|sm J J<|zE<|aat<|?_
 refine acg (X:=aAr) (fun q=>[(23, .int .i64 q.i),(22, .int .i64 a.length),(21, .slice x.a a.length x.c),(1, .slice y.a b.length y.c),(5, .slice (some ⟨b3,0,none⟩) (a.length+b.length) (a.length+b.length))])
  (fun q=>[⟨b3,q.ws.map dI,215,true⟩])
  (fun q _=>q.i≤a.length∧q.ws.length=a.length+b.length∧DOk q.ws∧(∀j,q.i+b.length≤j→q.ws.getD j 0=0)∧dv q.ws=dv (a.take q.i)*dv b) (fun q=>a.length-q.i) ⟨List.replicate (a.length+b.length) 0,0⟩
  ⟨bX _,by simp, .replicate _,fun j _=>alu _ _,by simp[dv,acy]⟩ (.cons rfl (.cons rfl (.cons rfl (.cons rfl (.cons rfl .nil))))) rfl ?_
 rintro ⟨ws,i⟩ Gy _ ⟨hia,hwl,hwo,hz,hinv⟩
 simp only[] at hia hwl hwo hz hinv⊢
 refine sR<|sy (acp J J) rfl<|zE<|aak<|?_
 refine abx rfl (fun hc=>?_) (fun hc=>?_) -- slot 24
 ·have hin:i=a.length:=by omega
  refine abC<|abO<|abO<|aau<|sR<|sm J J<|?_
  refine aci b3 (.hd ..) (fun G3 _ hgb=>?_)
  have hD:IsD G3 ⟨some ⟨b3,0,none⟩,a.length+b.length,a.length+b.length⟩ ws:= .of_block hwo hgb.h hwl.symm (aM _) (by rw[aW (by simp)])
  have hdv:dv ws=dv a*dv b:=by rw[hinv,hin,aW (aM _)]
  refine sc (zC J J (aa1 hD (by omega)) rfl ?_)
  rintro _ G4 _ rfl
  refine sa J J<|zE<|aaH<|?_
  refine zD (.tmp rfl .nil) ⟨⟨some ⟨b3,0,none⟩,(trimD ws).length,a.length+b.length⟩,rfl,?_⟩
  have h3:=hD.trim.up (G:=G4)
  rw[←hdv] at hk⊢
  exact⟨by rw[ado hwo];exact h3,hk⟩
 have hia':i<a.length:=by omega
 have hga:=hok.get i
 refine zK<|aak<|aat<|sR<|sm J J<|sy (abW (z:=⟨x.a,a.length,x.c⟩) hxt J J (by omega) (by show(i:Int)<(a.length:Nat);omega)) rfl<|sy (abT hxt rfl (by omega)) rfl<|sa J J<|sa J J<|zE<|aak<|?_
 rw[bZ]
 refine aam<|sa J J<|zE<|aak<|sR<|sm J J<|adn J J<|sm J J<|zE<|aat<|?_
 refine acg (X:=aAn) (fun q=>[(30, .int .i64 q.k),(29, .int .i64 b.length),(28, .slice y.a b.length y.c),(8, .int .u64 q.c),(7, .int .u32 ((a.getD i 0:Nat):Int)),(5, .slice (some ⟨b3,0,none⟩) (a.length+b.length) (a.length+b.length)),(6, .int .i64 i),(23, .int .i64 i),(22, .int .i64 a.length),(21, .slice x.a a.length x.c),(1, .slice y.a b.length y.c)])
  (fun q=>[⟨b3,q.ws.map dI,215,true⟩])
  (fun q _=>q.k≤b.length∧q.ws.length=a.length+b.length∧DOk q.ws∧q.c<4294967296∧(∀j,i+b.length≤j→q.ws.getD j 0=0)∧dv q.ws+4294967296^(i+q.k)*q.c=dv (a.take i)*dv b+4294967296^i*(a.getD i 0*dv (b.take q.k))) (fun q=>b.length-q.k) ⟨ws,0,0⟩
  ⟨bX _,hwl,hwo,Nat.zero_lt_succ _,hz,by simp[dv,hinv]⟩ (.cons rfl (.cons rfl (.cons rfl (.cons rfl (.cons rfl (.cons rfl (.cons rfl (.cons rfl (.cons rfl (.cons rfl (.cons rfl .nil))))))))))) rfl ?_
 clear hz hwl hwo hinv ws
 rintro ⟨ws,k,c⟩ Gz _ ⟨hkb,hwl,hwo,hcc,hz,hinv⟩
 simp only[] at hkb hwl hwo hcc hz hinv⊢
 refine sR<|sy (acp J J) rfl<|zE<|aak<|?_
 refine abx rfl (fun hc2=>?_) (fun hc2=>?_) -- slot 31
 ·have hkn:k=b.length:=by omega
  have e1:((i:Int)+(b.length:Int)).toNat=i+b.length:=by omega
  refine abC<|abO<|abO<|aau<|aam<|sm J J<|sm J J<|sm J J<|adn J J<|sy (aar J J) rfl<|sm J J<|sy (abh rfl) rfl<|?_
  refine sy (abj J J (by omega) (by omega)) rfl<|?_
  rw[e1]
  refine sc (aa5 (d:=c) J J (by omega) (.hd ..) (by omega) rfl ?_)
  refine zE<|aam<|sy (aar J J) rfl<|sm J J<|zE<|?_
  refine aa4 ⟨ws.set (i+b.length) c,i+1⟩ ⟨by show i+1≤_;omega,by simp[hwl],hwo.set _ hcc,fun j hj=>?_,?_⟩ (by show a.length-(i+1)<a.length-i;omega) (.cons rfl (.cons rfl (.cons rfl (.cons rfl (.cons rfl .nil))))) rfl
  ·have hj':i+1+b.length≤j:=hj
   show(ws.set (i+b.length) c).getD j 0=0
   rw[ahc (by omega)];exact hz j (by omega)
  ·show dv (ws.set (i+b.length) c)=dv (a.take (i+1))*dv b
   have h1:=afb ws (i+b.length) c (by omega)
   rw[hz (i+b.length) (aM _),pK,fQ] at h1
   rw[h1,←hkn,hinv,hkn,aW (aM _),aaw,cS,bM]
 have hkb':k<b.length:=by omega
 have hgb:=hok2.get k
 have hgw:=hwo.get (i+k)
 have hm:=aGC hga hgb hgw hcc
 have e1:((i:Int)+(k:Int)).toNat=i+k:=by omega
 have e2:((a.getD i 0:Nat):Int)*((b.getD k 0:Nat):Int)=((a.getD i 0*b.getD k 0:Nat):Int):=by rw[jQ]
 refine zK<|aak<|aat<|sR<|sm J J<|sy (abW (z:=⟨y.a,b.length,y.c⟩) hyt J J (by omega) (by show(k:Int)<(b.length:Nat);omega)) rfl<|sy (abT hyt rfl (by omega)) rfl<|sa J J<|sa J J<|zE<|aak<|?_
 rw[bZ]
 refine aam<|sm J J<|sm J J<|sy (aaK rfl) rfl<|sm J J<|sy (aaK rfl) rfl<|sy (ape J J (by rw[e2];omega) (by rw[e2];omega)) rfl<|?_
 rw[e2]
 refine sm J J<|sm J J<|sm J J<|sy (aar J J) rfl<|sy (abj J J (by omega) (by omega)) rfl<|?_
 rw[e1]
 refine sy (afZ rfl (by omega)) rfl<|sy (aaK rfl) rfl<|?_
 refine sy (aef J J) rfl<|sy (aef J J) rfl<|sa J J<|zE<|sR<|sm J J<|sm J J<|sm J J<|?_
 rw[show(c:Int)+(((a.getD i 0*b.getD k 0:Nat):Int)+((ws.getD (i+k) 0:Nat):Int))=((c+a.getD i 0*b.getD k 0+ws.getD (i+k) 0:Nat):Int) by omega]
 generalize hcc2:c+a.getD i 0*b.getD k 0+ws.getD (i+k) 0=cc
 rw[hcc2] at hm
 refine sy (aar J J) rfl<|sm J J<|sy (abh rfl) rfl<|sy (abj J J (by omega) (by omega)) rfl<|?_
 rw[e1]
 refine sc (aa5 (d:=cc%4294967296) J J (by omega) (.hd ..) (by omega) rfl ?_)
 refine zE<|aam<|sm J J<|sy (adC J J (by decide)) rfl<|sa J J<|zE<|aam<|sy (aar J J) rfl<|sm J J<|zE<|?_
 rw[aC9]
 refine aa4 ⟨ws.set (i+k) (cc%4294967296),k+1,cc/4294967296⟩ ⟨by show k+1≤_;omega,by simp[hwl],hwo.set _ (by omega),by show cc/4294967296<_;omega,fun j hj=>?_,?_⟩ (by show b.length-(k+1)<b.length-k;omega) (.cons rfl (.cons rfl (.cons rfl (.cons rfl (.cons rfl (.cons rfl (.cons rfl (.cons rfl (.cons rfl (.cons rfl (.cons rfl .nil))))))))))) rfl
 ·show(ws.set (i+k) (cc%4294967296)).getD j 0=0
  rw[ahc (by omega)];exact hz j hj
 ·show dv (ws.set (i+k) (cc%4294967296))+4294967296^(i+(k+1))*(cc/4294967296)=dv (a.take i)*dv b+4294967296^i*(a.getD i 0*dv (b.take (k+1)))
  have h1:=afb ws (i+k) (cc%4294967296) (by omega)
  rw[←hcc2] at h1⊢
  have h2:=aqP h1 hinv
  rw[←jR,fX,h2,aaw,dY,dY,eX]
  have:4294967296^i*(a.getD i 0*(4294967296^k*b.getD k 0))=4294967296^i*4294967296^k*(a.getD i 0*b.getD k 0):=by
   rw[kM (a.getD i 0),←bM]
  rw[this,jR]
theorem apd{P:Program}{t:TypeId}(a b k:Nat)(ha:a<2^k)(h:a+b*2^k<18446744073709551616)(w:World):(binOp .or t (.int .u64 ((b*2^k:Nat):Int)) (.int .u64 (a:Int))).run P w= .ok (.int .u64 ((a+b*2^k:Nat):Int)) w:=by
 have h1:(BitVec.ofInt 64 ((b*2^k:Nat):Int) ||| BitVec.ofInt 64 (a:Int)).toNat=a+b*2^k:=by
  rw[BitVec.toNat_or,BitVec.ofInt_natCast,BitVec.ofInt_natCast,BitVec.toNat_ofNat,BitVec.toNat_ofNat,fJ (by omega),fJ (by omega)]
  rw[←lW,←lR ha,lW]
  omega
 have h2:IntKind.u64.wrap ((a+b*2^k:Nat):Int)=((a+b*2^k:Nat):Int):=by rw[abQ];omega
 simp only[binOp]
 show(Op.intBits .or .u64 ((b*2^k:Nat):Int) (a:Int)).run P w=_
 unfold Op.intBits
 show(pure (Value.int .u64 (IntKind.u64.wrap ((BitVec.ofInt 64 ((b*2^k:Nat):Int) ||| BitVec.ofInt 64 (a:Int)).toNat:Int))):Sem Value).run P w=_
 rw[h1,h2,run_pure]
theorem axD{P:Program}{t:TypeId}(a b k:Nat)(ha:a<2^k)(h:a+b*2^k<4294967296)(w:World):(binOp .or t (.int .u32 (a:Int)) (.int .u32 ((b*2^k:Nat):Int))).run P w= .ok (.int .u32 ((a+b*2^k:Nat):Int)) w:=by
 have h1:(BitVec.ofInt 32 (a:Int) ||| BitVec.ofInt 32 ((b*2^k:Nat):Int)).toNat=a+b*2^k:=by
  rw[BitVec.toNat_or,BitVec.ofInt_natCast,BitVec.ofInt_natCast,BitVec.toNat_ofNat,BitVec.toNat_ofNat,fJ (by omega),fJ (by omega)]
  rw[←lW,Nat.or_comm,←lR ha,lW]
  omega
 have h2:IntKind.u32.wrap ((a+b*2^k:Nat):Int)=((a+b*2^k:Nat):Int):=by rw[acL];omega
 simp only[binOp]
 show(Op.intBits .or .u32 (a:Int) ((b*2^k:Nat):Int)).run P w=_
 unfold Op.intBits
 show(pure (Value.int .u32 (IntKind.u32.wrap ((BitVec.ofInt 32 (a:Int) ||| BitVec.ofInt 32 ((b*2^k:Nat):Int)).toNat:Int))):Sem Value).run P w=_
 rw[h1,h2,run_pure]
theorem aeh(d k:Nat)(hk:k<64)(h:d*2^k<18446744073709551616){q:Int}(hq:q.toNat=k):IntKind.u64.wrap ((d:Int)*2^min q.toNat IntKind.u64.bits)=((d*2^k:Nat):Int):=by
 rw[hq,iZ (by show k≤64;omega),abQ]
 have e2:(d:Int)*2^k=((d*2^k:Nat):Int):=by push_cast;rfl
 rw[e2];omega
theorem aeM(d k:Nat)(hk:k<64){q:Int}(hq:q.toNat=k):(d:Int).fdiv (2^min q.toNat IntKind.u64.bits)=((d/2^k:Nat):Int):=by
 rw[hq,iZ (by show k≤64;omega),gK _ (pU (Int.pow_pos (by decide)))]
 push_cast;rfl
theorem azr(q:Nat)(h:q<4294967296):(q:Int)%4294967296=q:=by omega
structure awR where
 ws:List Nat
 k:Nat
 r:Nat
theorem auT{A G:Gh}{x:SV}{a:List Nat}{d kk:Nat}(hx:IsD A x a)[GL A G](hd0:0<d)(hd:d<4294967296)(hk:dv a/d<2^kk)(hb:a.length≤1125899906842):
  Fn prog 251 [x.v, .int .u32 (d:Int)] G (fun v G'=> ∃z:SV,v= .tuple #[z.v, .int .u32 ((dv a%d:Nat):Int)]∧IsN kk G' z (dv a/d)):=by
 have hlen:=hx.len
 refine Fn.intro func251 J J ntmps251 rfl ?_
 intro C _ _
 refine sR<|sa J J<|sa J J<|zE<|sR<|sm J J<|adn J J<|?_
 refine sc (aeN J J (by omega) (by omega) (by omega) (by rfl) rfl ?_)
 intro b1
 rw[ad5,show(x.n:Int).toNat=a.length by omega]
 refine sa J J<|zE<|sR<|sa J J<|zE<|aak<|sR<|sm J J<|adn J J<|sy (aa8 J J) rfl<|?_
 refine sa J J<|zE<|aat<|?_
 refine acg (X:=awR) (fun q=>[(8, .int .i64 (q.k-1)),(7, .int .u64 q.r),(0, .slice x.a x.n x.c),(6, .slice (some ⟨b1,0,none⟩) a.length a.length),(1, .int .u32 d)])
  (fun q=>[⟨b1,q.ws.map dI,215,true⟩])
  (fun q _=>q.k≤a.length∧q.ws.length=a.length∧DOk q.ws∧q.r<d∧dv (a.drop q.k)=d*dv (q.ws.drop q.k)+q.r) (fun q=>q.k) ⟨List.replicate a.length 0,a.length,0⟩
  ⟨aM _,by simp, .replicate _,hd0,by simp[dv]⟩ (.cons (by rw[hlen];rfl) (.cons rfl (.cons rfl (.cons rfl (.cons rfl .nil))))) rfl ?_
 rintro ⟨ws,k,r⟩ Gy _ ⟨hka,hwl,hwo,hr,hinv⟩
 simp only[] at hka hwl hwo hr hinv⊢
 refine aak<|sR<|sm J J<|sy (ah6 J J) rfl<|zE<|?_
 refine abx rfl (fun hc=>?_) (fun hc=>?_) -- slot 17
 ·have hk0:k=0:=by omega
  refine abC<|abO<|abO<|aau<|sR<|sm J J<|?_
  refine aci b1 (.hd ..) (fun G1 _ hgb=>?_)
  have hD:IsD G1 ⟨some ⟨b1,0,none⟩,a.length,a.length⟩ ws:= .of_block hwo hgb.h hwl.symm (aM _) (by rw[aW (by simp)])
  subst hk0
  simp only[gT] at hinv
  have hdv:dv a/d=dv ws:=by rw[hinv,Nat.mul_add_div hd0,jL hr,fQ]
  have hdm:dv a%d=r:=by rw[hinv,Nat.mul_add_mod,fJ hr]
  refine sc (zC J J (aa1 hD (by omega)) rfl ?_)
  rintro _ G2 _ rfl
  refine sm J J<|sy (abh rfl) rfl<|sa J J<|sa J J<|zE<|aaH<|?_
  refine zD (.tmp rfl (.tmp rfl .nil)) ⟨⟨some ⟨b1,0,none⟩,(trimD ws).length,a.length⟩,?_,?_⟩
  ·rw[hdm,show(r:Int)%4294967296=r by omega];rfl
  have h3:=hD.trim.up (G:=G2)
  exact⟨by rw[hdv,ado hwo];exact h3,hk⟩
 have hk1:0<k:=by omega
 have hkt:((k:Int)-1).toNat=k-1:=by omega
 have hga:=hx.ok.get (k-1)
 have hv:a.getD (k-1) 0+r*2^32<d*4294967296:=by
  have:(r+1)*4294967296≤d*4294967296:=bK _ hr
  rw[cS] at this
  omega
 have hv2:a.getD (k-1) 0+r*2^32<18446744073709551616:=by omega
 refine zK<|aak<|aat<|sR<|sm J J<|sy (ai8 J J (by decide)) rfl<|sm J J<|sm J J<|sy (abW hx J J (by omega) (by omega)) rfl<|?_
 rw[aeh r 32 (by decide) (by omega) rfl]
 refine sy (abT hx rfl (by omega)) rfl<|sy (aaK rfl (by omega) (by rw[hkt];omega)) rfl<|?_
 rw[hkt]
 refine sy (ab7 J J (apd (a.getD (k-1) 0) r 32 (by omega) hv2)) rfl<|?_
 generalize hvv:a.getD (k-1) 0+r*2^32=vv at*
 have hq:vv/d<4294967296:=Nat.div_lt_of_lt_mul hv
 have hrr:=dX vv hd0
 refine sa J J<|zE<|sR<|sm J J<|sm J J<|sm J J<|sm J J<|?_
 refine sy (aaK rfl) rfl<|sy (ahD J J (by omega) (by omega) (by omega)) rfl<|sy (abh rfl) rfl<|sy (abj J J (by omega) (by omega)) rfl<|?_
 rw[hkt]
 have e1:(vv:Int)/(d:Int)%4294967296=((vv/d:Nat):Int):=by
  have e0:(vv:Int)/(d:Int)=((vv/d:Nat):Int):=(pT vv d).symm
  rw[e0];exact azr _ hq
 refine sc (aa5 (d:=vv/d) J J e1 (.hd ..) (by omega) rfl ?_)
 refine zE<|aam<|sm J J<|sm J J<|sy (aaK rfl) rfl<|sy (ahn J J (by omega) (by omega)) rfl<|sa J J<|zE<|aam<|sm J J<|?_
 refine sy (aa8 J J) rfl<|sa J J<|zE<|?_
 refine aa4 ⟨ws.set (k-1) (vv/d),k-1,vv%d⟩ ⟨by show k-1≤_;omega,by simp[hwl],hwo.set _ hq,hrr,?_⟩ (by show k-1<k;omega) (.cons (by rw[show((k-1:Nat):Int)=(k:Int)-1 by omega];rfl) (.cons (by rw[oQ];rfl) (.cons rfl (.cons rfl (.cons rfl .nil))))) rfl
 show dv (a.drop (k-1))=d*dv ((ws.set (k-1) (vv/d)).drop (k-1))+vv%d
 have hk2:k-1+1=k:=by omega
 rw[bQ (by omega:k-1<a.length),bQ (by simp;omega:k-1<(ws.set (k-1) (vv/d)).length),hk2,List.getElem_set_self,sW (by omega)]
 have e3:a[k-1]'(by omega)=a.getD (k-1) 0:=by rw[aX,aQ (by omega)];rfl
 simp only[dv,e3,hinv]
 have h1:=qX vv d
 have h2:d*(vv/d+4294967296*dv (ws.drop k))=d*(vv/d)+4294967296*(d*dv (ws.drop k)):=by rw[dY,kM]
 rw[h2,dY]
 omega
section
variable {P:Program} {C:Ctx} {n:Nat} {fr:Fr} {own:List Own} {G:Gh} {dst:Option Nat} {t t1 t2 ty':TypeId} {pos:String} {af:Array Edge} {gd:Option (Nat×Bool)} {x y:Operand}
theorem aDi{k:IntKind}{p q:Int}(hx:opv fr x=some (.int k p))(hy:opv fr y=some (.int k q)):
  Yd P C fr own G ⟨dst, .call ⟨.builtin .min, #[x,y], #[t1,t2]⟩,ty',pos,af,gd⟩ (.int k (if q<p then q else p)):=by
 intro a w hf hh
 simp only[execOp,resolve,gM,cZ,jS,aac hf hx,aac hf hy]
 have h1:(Builtin.min_ #[t1,t2] ty' #[.int k p, .int k q]).run P w= .ok (.int k (if q<p then q else p)) w:=by
  simp[Builtin.min_,Builtin.min2,run_pure]
 exact aal h1
end
structure aqF where
 ws:List Nat
 i:Nat
theorem auz{A G:Gh}{x:SV}{ds:List Nat}{k kk:Nat}(hx:IsD A x ds)[GL A G](hk32:k<32)(hk:dv ds*2^k<2^kk)(hb:ds.length≤1125899906842):
  Fn prog 293 [x.v, .int .u64 (k:Int)] G (fun v G'=> ∃z:SV,v=z.v∧IsN kk G' z (dv ds*2^k)∧z.c≤(trimD ds).length+1):=by
 have htl:=abp ds
 have hcall:=fun G1 (_:GL A G1)=>aa1 (G:=G1) hx (by omega)
 have hxt:=hx.trim
 rw[←aa7 ds] at hk⊢
 generalize trimD ds=a at*
 have hok:=hxt.ok
 refine Fn.intro func293 J J ntmps293 rfl ?_
 intro C _ _
 refine sR<|sa J J<|zE<|sR<|sm J J<|?_
 refine sc (zC J J (hcall _ inferInstance) rfl ?_)
 rintro _ G1 _ rfl
 refine sm J J<|sy (aDi J J) rfl<|?_
 rw[if_neg (by omega: ¬(1048576:Int)<(k:Int))]
 refine sa J J<|sa J J<|zE<|aak<|sR<|sm J J<|adn J J<|sy (abZ J J) rfl<|zE<|?_
 refine aaD rfl (fun hc=>?_) (fun hc=>?_) -- slot 17
 ·refine sR<|sa J J<|zE<|aaH<|?_
  have:a=[]:=bR (by omega)
  subst this
  refine zD (.tmp rfl .nil) ⟨⟨none,0,0⟩,rfl,?_⟩
  have e0:dv []*2^k=0:=by simp[dv]
  rw[e0]
  exact⟨⟨by unfold dg;exact .nil _,eK (by omega)⟩,bX _⟩
 refine zK<|sR<|sm J J<|sy (ahD J J (by omega) (by omega) (by decide)) rfl<|sy (aqy rfl) rfl<|sm J J<|sy (ahn J J (by omega) (by decide)) rfl<|?_
 rw[show(k:Int)/32=0 by omega,show(k:Int)%32=k by omega]
 refine sa J J<|sa J J<|zE<|sR<|sm J J<|adn J J<|sm J J<|sy (aar J J) rfl<|sy (aar J J) rfl<|?_
 refine sc (aeN J J (by omega) (by omega) (by omega) (by rfl) rfl ?_)
 intro b2
 rw[ad5,show((a.length:Int)+0+1).toNat=a.length+1 by omega]
 refine sa J J<|zE<|aak<|sR<|sm J J<|adn J J<|sm J J<|zE<|aat<|?_
 refine acg (X:=aqF) (fun q=>[(31, .int .i64 q.i),(30, .int .i64 a.length),(29, .slice x.a a.length x.c),(6, .int .u64 k),(7, .slice (some ⟨b2,0,none⟩) (a.length+1) (a.length+1)),(5, .int .i64 0)])
  (fun q=>[⟨b2,q.ws.map dI,215,true⟩])
  (fun q _=>q.i≤a.length∧q.ws.length=a.length+1∧DOk q.ws∧(∀j,q.i<j→q.ws.getD j 0=0)∧q.ws.getD q.i 0<2^k∧dv q.ws=dv (a.take q.i)*2^k) (fun q=>a.length-q.i) ⟨List.replicate (a.length+1) 0,0⟩
  ⟨bX _,by simp, .replicate _,fun j _=>alu _ _,by rw[alu];exact eK (by omega),by simp[dv,acy]⟩ (.cons rfl (.cons rfl (.cons rfl (.cons rfl (.cons rfl (.cons rfl .nil)))))) rfl ?_
 rintro ⟨ws,i⟩ Gy _ ⟨hia,hwl,hwo,hz,hwi,hinv⟩
 simp only[] at hia hwl hwo hz hwi hinv⊢
 refine sR<|sy (acp J J) rfl<|zE<|aak<|?_
 refine abx rfl (fun hc=>?_) (fun hc=>?_) -- slot 32
 ·have hin:i=a.length:=by omega
  refine abC<|abO<|abO<|aau<|sR<|sm J J<|?_
  refine aci b2 (.hd ..) (fun G3 _ hgb=>?_)
  have hD:IsD G3 ⟨some ⟨b2,0,none⟩,a.length+1,a.length+1⟩ ws:= .of_block hwo hgb.h hwl.symm (aM _) (by rw[aW (by simp)])
  have hdv:dv a*2^k=dv ws:=by rw[hinv,hin,aW (aM _)]
  refine sc (zC J J (aa1 hD (by omega)) rfl ?_)
  rintro _ G4 _ rfl
  refine sa J J<|zE<|aaH<|?_
  refine zD (.tmp rfl .nil) ⟨⟨some ⟨b2,0,none⟩,(trimD ws).length,a.length+1⟩,rfl,?_⟩
  have h3:=hD.trim.up (G:=G4)
  rw[hdv] at hk⊢
  exact⟨⟨by rw[ado hwo];exact h3,hk⟩,aM _⟩
 have hia':i<a.length:=by omega
 have hga:=hok.get i
 have hp32:(2:Nat)^k≤2^31:=bV (by omega) (by omega)
 have hp0:0<(2:Nat)^k:=eK (by omega)
 have hvb:a.getD i 0*2^k<4294967296*2^k:=kU hga hp0
 have hv64:a.getD i 0*2^k<18446744073709551616:=by omega
 refine zK<|aak<|aat<|sR<|sm J J<|sy (abW (z:=⟨x.a,a.length,x.c⟩) hxt J J (by omega) (by show(i:Int)<(a.length:Nat);omega)) rfl<|sy (abT hxt rfl (by omega)) rfl<|sa J J<|sa J J<|zE<|aak<|?_
 rw[bZ]
 refine aam<|sm J J<|sy (aaK rfl) rfl<|sm J J<|sy (ai8 J J (by omega)) rfl<|?_
 rw[aeh (a.getD i 0) k (by omega) hv64 (bZ k)]
 -- the low digit is a multiple of 2^k
 have hlow:a.getD i 0*2^k%4294967296=a.getD i 0%2^(32-k)*2^k:=by
  have:4294967296=2^(32-k)*2^k:=by rw[←eX,show 32-k+k=32 by omega]
  rw[this,rV]
 have hlt:a.getD i 0*2^k%4294967296<4294967296:=dX _ (by decide)
 have hsum:ws.getD i 0+a.getD i 0%2^(32-k)*2^k<4294967296:=by
  have h1:a.getD i 0%2^(32-k)<2^(32-k):=dX _ (eK (by omega))
  have h2:(a.getD i 0%2^(32-k)+1)*2^k≤2^(32-k)*2^k:=bK _ h1
  rw[←eX,show 32-k+k=32 by omega,cS] at h2
  omega
 refine sa J J<|zE<|sR<|sm J J<|?_
 refine sm J J<|sm J J<|sy (aar J J) rfl<|sy (abj J J (by omega) (by omega)) rfl<|?_
 rw[show((i:Int)+0).toNat=i by omega]
 refine sy (afZ rfl (by omega)) rfl<|sm J J<|sy (abh rfl) rfl<|?_
 rw[show((a.getD i 0*2^k:Nat):Int)%4294967296=((a.getD i 0%2^(32-k)*2^k:Nat):Int) by rw[←hlow];rfl]
 refine sy (ab7 J J (axD (ws.getD i 0) (a.getD i 0%2^(32-k)) k hwi hsum)) rfl<|sy (abj J J (by omega) (by omega)) rfl<|?_
 rw[show((i:Int)+0).toNat=i by omega]
 refine sc (aa5 (d:=ws.getD i 0+a.getD i 0%2^(32-k)*2^k) J J J (.hd ..) (by omega) rfl ?_)
 refine zE<|aam<|sm J J<|sm J J<|sm J J<|sy (aar J J) rfl<|sy (aar J J) rfl<|sm J J<|sy (adC J J (by decide)) rfl<|?_
 rw[aC9]
 have hhi:a.getD i 0*2^k/4294967296<2^k:=Nat.div_lt_of_lt_mul hvb
 refine sy (abh rfl) rfl<|sy (abj J J (by omega) (by omega)) rfl<|?_
 rw[show((i:Int)+0+1).toNat=i+1 by omega]
 refine sc (aa5 (d:=a.getD i 0*2^k/4294967296) J J (by omega) (.hd ..) (by simp;omega) rfl ?_)
 refine zE<|aam<|sy (aar J J) rfl<|sm J J<|zE<|?_
 refine aa4 ⟨(ws.set i (ws.getD i 0+a.getD i 0%2^(32-k)*2^k)).set (i+1) (a.getD i 0*2^k/4294967296),i+1⟩ ⟨by show i+1≤_;omega,by simp[hwl],(hwo.set _ hsum).set _ (by omega),fun j hj=>?_,?_,?_⟩ (by show a.length-(i+1)<a.length-i;omega) (.cons rfl (.cons rfl (.cons rfl (.cons rfl (.cons rfl (.cons rfl .nil)))))) rfl
 ·have hj':i+1<j:=hj
  show((ws.set i _).set (i+1) _).getD j 0=0
  rw[ahc (by omega),ahc (by omega)];exact hz j (by omega)
 ·show((ws.set i _).set (i+1) (a.getD i 0*2^k/4294967296)).getD (i+1) 0<2^k
  rw[aX,oT (by simp;omega)]
  exact hhi
 ·show dv ((ws.set i (ws.getD i 0+a.getD i 0%2^(32-k)*2^k)).set (i+1) (a.getD i 0*2^k/4294967296))=dv (a.take (i+1))*2^k
  have h1:=afb (ws.set i (ws.getD i 0+a.getD i 0%2^(32-k)*2^k)) (i+1) (a.getD i 0*2^k/4294967296) (by simp;omega)
  rw[ahc (by omega),hz (i+1) (by omega),pK,fQ] at h1
  have h2:=afb ws i (ws.getD i 0+a.getD i 0%2^(32-k)*2^k) (by omega)
  rw[dY] at h2
  rw[h1,aaw,cS,←hinv,bM,ajL (4294967296^i) (a.getD i 0*2^k),←hlow] at*
  rw[fX]
  omega
end Go.Sx
end
section
namespace Go.Sx
theorem ay6(i:Nat):(4294967296:Nat)^(i+1)=4294967296^i*4294967296:=fX ..
theorem aAQ{U p V T S first third:Nat}(hU:U<(first*4294967296+third+1)*p)(h3:third<4294967296)(hV:(T*4294967296+S)*p≤V)(hT:0<T):
  U<(first/T+1)*V:=by
 have h1:first+1≤(first/T+1)*T:=by
  have:=Nat.lt_mul_div_succ first hT
  rw[bL];omega
 calc U<(first*4294967296+third+1)*p:=hU
  _≤((first+1)*4294967296)*p:=bK _ (by omega)
  _≤(((first/T+1)*T)*4294967296)*p:=bK _ (bK _ h1)
  _=(first/T+1)*((T*4294967296)*p):=by rw[bM (first/T+1),bM (first/T+1)]
  _≤(first/T+1)*V:=dS _ (cW (bK _ (mV _ _)) hV)
theorem aIx{U p V T S first third v0:Nat}(hU:(first*4294967296+third)*p≤U)(hV:V=(T*4294967296+S)*p+v0)(hv:v0<p)(hlt:U<V*4294967296):first≤T*4294967296+S:=by
 rcases iY (T*4294967296+S) first with h|h
 ·exfalso
  have h1:(T*4294967296+S+1)*p≤first*p:=bK p h
  rw[cS _ 1,nJ] at h1
  rw[cS,qY] at hU
  have:0≤third*p:=bX _
  omega
 ·exact h
theorem aDZ{U p V T S first third g r:Nat}(hU:U<(first*4294967296+third+1)*p)(hV:(T*4294967296+S)*p≤V)(hg:first=g*T+r)(hc:r*4294967296+third<g*S):U<g*V:=by
 refine dW hU (cW (bK p (m:=g*(T*4294967296+S)) ?_) ?_)
 ·rw[dY,←bM,hg,cS];omega
 ·rw[bM];exact dS _ hV
theorem aAI{U p V T S first third g r v0:Nat}(hU:(first*4294967296+third)*p≤U)(hV:V=(T*4294967296+S)*p+v0)(hv:v0<p)(hT:0<T)(hg:first=g*T+r)(hgB:g<4294967296)(hc:g*S≤r*4294967296+third):g*V<U+V:=by
 have h1:g*((T*4294967296+S)*p)≤U:=by
  rw[←bM]
  refine cW (bK p ?_) hU
  rw[dY,←bM,hg,cS];omega
 have h2:g*v0≤4294967295*v0:=bK _ (by omega)
 have h3:4294967296*p≤V:=by
  rw[hV]
  refine cW (bK p ?_) (mV _ _)
  omega
 have h4:g*V=g*((T*4294967296+S)*p)+g*v0:=by rw[←dY,←hV]
 omega
theorem aAh{U V R g:Nat}(h:U<(g+1)*V)(hr:R+g*V=U):R<V:=by
 rw[cS,nJ] at h
 omega
theorem aBZ{U V R R' g w M:Nat}(h2:g*V<U+V)(hr:R+g*V=U+M)(hb:R'+w*M=R+V)(hR:R<M)(hR':R'<M)(hw:w≤1)(hg:0<g):R'+(g-1)*V=U∧R'<V:=by
 have hgv:g*V=(g-1)*V+V:=by
  conv=>lhs;rw[show g=(g-1)+1 by omega,cS,nJ]
 have:w=1:=by
  rcases iY w 1 with h|h
  ·have:w=0:=by omega
   subst this
   omega
  ·omega
 subst this
 omega
theorem afN(us:List Nat)(i:Nat):dv (us.drop i)=us.getD i 0+4294967296*dv (us.drop (i+1)):=by
 rcases iY i us.length with h|h
 ·rw[bQ h];simp[dv,List.getD,aQ h]
 ·rw[fS h,fS (by omega)]
  simp[dv,dJ h,List.getD]
theorem aeq(us:List Nat)(i:Nat):dv us=dv (us.take i)+4294967296^i*dv (us.drop i):=by
 rcases iY us.length i with h|h
 ·rw[aW (by omega),fS (by omega)];simp[dv]
 ·exact aiB us i h
theorem afA{us:List Nat}(h:DOk us)(i:Nat):dv (us.take i)<4294967296^i:=by
 refine dW (aej (h.take i)) (bV (by decide) ?_)
 simp[cR];omega
theorem aiz{us:List Nat}{i:Nat}(hd:dv us<4294967296^i):dv (us.drop i)=0:=by
 have h:=aeq us i
 rcases fT (dv (us.drop i)) with h0|h0
 ·exact h0
 ·have:=dS (4294967296^i) h0
  omega
theorem aBf{W W' U E p u x bo b c c1 g d:Nat}(hs:W'+p*u=W+p*x)(hw:W+E=U+(bo+c)*p)(hc:c1=c+g*d)(hx:x+(c1%4294967296+bo)=u+b*4294967296):
  W'+(E+g*d*p)=U+(b+c1/4294967296)*(p*4294967296):=by
 have h1:=congrArg (p* ·) hx
 simp only[dY] at h1
 have h2:p*c1=p*(c1%4294967296)+p*(c1/4294967296)*4294967296:=by
  rw[bM,←dY,Nat.mod_add_div']
 have h3:p*c1=p*c+p*(g*d):=by rw[hc,dY]
 rw[cS,bL bo,bL c] at hw
 rw[bL (g*d),cS,←bM b,←bM (c1/4294967296),bL b,bL (c1/4294967296)]
 rw[←bM] at h1
 omega
theorem aAy{W W' U E p u x bo b c:Nat}(hs:W'+p*u=W+p*x)(hw:W+E=U+(bo+c)*p)(hx:x+(c+bo)=u+b*4294967296):W'+E=U+b*(p*4294967296):=by
 have h1:=congrArg (p* ·) hx
 simp only[dY] at h1
 rw[cS,bL bo,bL c] at hw
 rw[←bM b,bL b]
 rw[←bM] at h1
 omega
theorem aAO{W W' R E p u d c:Nat}(hs:W'+p*u=W+p*((c+(u+d))%4294967296))(hw:W+c*p=R+E):W'+(c+(u+d))/4294967296*(p*4294967296)=R+(E+d*p):=by
 have h2:p*(c+(u+d))=p*((c+(u+d))%4294967296)+p*((c+(u+d))/4294967296)*4294967296:=by
  rw[bM,←dY,Nat.mod_add_div']
 rw[dY p c,dY p u] at h2
 rw[bL c] at hw
 rw[bL d,←bM,bL _ p]
 omega
theorem azJ{W W' R p u c:Nat}(hs:W'+p*u=W+p*((u+c)%4294967296))(hw:W+c*p=R):W'+(u+c)/4294967296*(p*4294967296)=R:=by
 have h2:p*(u+c)=p*((u+c)%4294967296)+p*((u+c)/4294967296)*4294967296:=by
  rw[bM,←dY,Nat.mod_add_div']
 rw[dY p u] at h2
 rw[bL c] at hw
 rw[←bM,bL _ p]
 omega
theorem aGL{us:List Nat}(h:DOk us)(i:Nat)(hd:dv us<4294967296^(i+3)):
  dv us=((us.getD (i+2) 0*4294967296+us.getD (i+1) 0)*4294967296+us.getD i 0)*4294967296^i+dv (us.take i):=by
 have h0:=aiz hd
 rw[aeq us i,afN us i,afN us (i+1),afN us (i+2),h0,jU,bL]
 congr 2
 omega
theorem aFM{us:List Nat}(h:DOk us)(i:Nat)(hd:dv us<4294967296^(i+2)):
  dv us=(us.getD (i+1) 0*4294967296+us.getD i 0)*4294967296^i+dv (us.take i):=by
 have h0:=aiz hd
 rw[aeq us i,afN us i,afN us (i+1),h0,jU,bL]
 congr 2
 omega
theorem agF{us:List Nat}{k i d:Nat}(h:DOk us)(hd:d<4294967296)(hk:dv us<4294967296^k)(hi:i<k):dv (us.set i d)<4294967296^k:=by
 rw[aeq _ k,List.drop_set,if_pos hi,aiz hk,pK,fQ]
 exact afA (h.set i hd) k
end Go.Sx
end
section
namespace Go.Sx
open Go Go.Proofs Tryz
theorem avP(p k a1 a2 E:Nat)(hk:k<32)(h1:a1<4294967296)(hp:p=2^k):(a1+4294967296*(a2+4294967296*E))/p=(a1+a2*4294967296)/p%4294967296+4294967296*((a2+4294967296*E)/p):=by
 subst hp
 have hp0:0<(2:Nat)^k:=eK (by omega)
 have hB:4294967296=2^(32-k)*2^k:=by rw[←eX,show 32-k+k=32 by omega]
 -- the quotient and the rest of the quotient by the base
 have hq:(a1+4294967296*(a2+4294967296*E))/2^k/4294967296=(a2+4294967296*E)/2^k:=by
  rw[mJ,bL (2^k),←mJ,lS _ _ (by decide),jL h1,eJ]
 have hr:(a1+4294967296*(a2+4294967296*E))/2^k%4294967296=(a1+a2*4294967296)/2^k%4294967296:=by
  have e1:a1+4294967296*(a2+4294967296*E)=(a1+a2*4294967296)+2^k*(2^(32-k)*(4294967296*E)):=by
   rw[←bM (2^k),bL (2^k) (2^(32-k)),←hB]
   omega
  rw[e1,lS _ _ hp0]
  rw[show 2^(32-k)*(4294967296*E)=4294967296*(2^(32-k)*E) by rw[kM]]
  rw[mL]
 have h:=Nat.mod_add_div ((a1+4294967296*(a2+4294967296*E))/2^k) 4294967296
 rw[hq,hr] at h
 exact h.symm
theorem atb(a:List Nat)(i:Nat):dv (a.drop i)=a.getD i 0+4294967296*dv (a.drop (i+1)):=by
 by_cases h:i<a.length
 ·rw[bQ h,aX,aQ h];rfl
 ·rw[fS (by omega),fS (by omega),alz (by omega)];rfl
theorem av7{a:List Nat}(ha:DOk a)(k i:Nat)(hk:k<32):dv (a.drop i)/2^k=(a.getD i 0+a.getD (i+1) 0*4294967296)/2^k%4294967296+4294967296*(dv (a.drop (i+1))/2^k):=by
 rw[atb a i,atb a (i+1)]
 exact avP _ k _ _ _ hk (ha.get i) rfl
theorem az7{A G:Gh}{x:SV}{ds:List Nat}{k kk:Nat}(hx:IsD A x ds)[GL A G](hk32:k<32)(hk:dv ds/2^k<2^kk)(hb:ds.length≤1125899906842):
  Fn prog 294 [x.v, .int .u64 (k:Int)] G (fun v G'=> ∃z:SV,v=z.v∧IsN kk G' z (dv ds/2^k)):=by
 have htl:=abp ds
 have hcall:=fun G1 (_:GL A G1)=>aa1 (G:=G1) hx (by omega)
 have hxt:=hx.trim
 rw[←aa7 ds] at hk⊢
 generalize trimD ds=a at*
 have hok:=hxt.ok
 refine Fn.intro func294 J J ntmps294 rfl ?_
 intro C _ _
 refine sR<|sa J J<|zE<|sR<|sm J J<|?_
 refine sc (zC J J (hcall _ inferInstance) rfl ?_)
 rintro _ G1 _ rfl
 refine sa J J<|zE<|aak<|sR<|sm J J<|sy (ahD J J (by omega) (by omega) (by decide)) rfl<|sm J J<|adn J J<|sy (aaK rfl) rfl<|?_
 rw[show(k:Int)/32=0 by omega]
 refine sy (ah6 J J) rfl<|zE<|?_
 refine aaD rfl (fun hc=>?_) (fun hc=>?_) -- slot 17
 ·refine sR<|sa J J<|zE<|aaH<|?_
  have:a=[]:=bR (by omega)
  subst this
  refine zD (.tmp rfl .nil) ⟨⟨none,0,0⟩,rfl,?_⟩
  have e0:dv []/2^k=0:=by simp[dv]
  rw[e0]
  exact⟨by unfold dg;exact .nil _,eK (by omega)⟩
 refine zK<|sR<|sm J J<|sy (ahD J J (by omega) (by omega) (by decide)) rfl<|sy (aqy rfl) rfl<|sm J J<|sy (ahn J J (by omega) (by decide)) rfl<|?_
 rw[show(k:Int)/32=0 by omega,show(k:Int)%32=k by omega]
 refine sa J J<|sa J J<|zE<|sR<|sm J J<|adn J J<|sm J J<|sy (aa8 J J) rfl<|?_
 refine sc (aeN J J (by omega) (by omega) (by omega) (by rfl) rfl ?_)
 intro b2
 rw[ad5,show((a.length:Int)-0).toNat=a.length by omega]
 refine sa J J<|zE<|aak<|sR<|sm J J<|adn J J<|sm J J<|zE<|aat<|?_
 refine acg (X:=aqF) (fun q=>[(30, .int .i64 q.i),(29, .int .i64 a.length),(0, .slice x.a a.length x.c),(5, .int .i64 0),(7, .slice (some ⟨b2,0,none⟩) a.length a.length),(6, .int .u64 k)])
  (fun q=>[⟨b2,q.ws.map dI,215,true⟩])
  (fun q _=>q.i≤a.length∧q.ws.length=a.length∧DOk q.ws∧dv a/2^k=dv (q.ws.take q.i)+4294967296^q.i*(dv (a.drop q.i)/2^k)) (fun q=>a.length-q.i) ⟨List.replicate a.length 0,0⟩
  ⟨bX _,by simp, .replicate _,by simp[dv]⟩ (.cons rfl (.cons rfl (.cons rfl (.cons rfl (.cons rfl (.cons rfl .nil)))))) rfl ?_
 rintro ⟨ws,i⟩ Gy _ ⟨hia,hwl,hwo,hinv⟩
 simp only[] at hia hwl hwo hinv⊢
 refine sR<|sy (acp J J) rfl<|zE<|aak<|?_
 refine abx rfl (fun hc=>?_) (fun hc=>?_) -- slot 31
 ·have hin:i=a.length:=by omega
  refine abC<|abO<|abO<|aau<|sR<|sm J J<|?_
  refine aci b2 (.hd ..) (fun G3 _ hgb=>?_)
  have hD:IsD G3 ⟨some ⟨b2,0,none⟩,a.length,a.length⟩ ws:= .of_block hwo hgb.h hwl.symm (aM _) (by rw[aW (by simp)])
  have hdv:dv a/2^k=dv ws:=by
   rw[hinv,hin,aW (by omega),fV]
   simp[dv]
  refine sc (zC J J (aa1 hD (by omega)) rfl ?_)
  rintro _ G4 _ rfl
  refine sa J J<|zE<|aaH<|?_
  refine zD (.tmp rfl .nil) ⟨⟨some ⟨b2,0,none⟩,(trimD ws).length,a.length⟩,rfl,?_⟩
  have h3:=hD.trim.up (G:=G4)
  rw[hdv] at hk⊢
  exact⟨by rw[ado hwo];exact h3,hk⟩
 have hia':i<a.length:=by omega
 have hga:=hok.get i
 have hga2:=hok.get (i+1)
 refine zK<|aak<|aat<|sR<|sm J J<|sa J J<|zE<|sR<|sm J J<|sm J J<|sm J J<|sy (aar J J) rfl<|?_
 refine sy (abW (z:=⟨x.a,a.length,x.c⟩) hxt J J (by omega) (by show((i:Int)+0)<(a.length:Nat);omega)) rfl<|?_
 rw[show((i:Int)+0).toNat=i by omega]
 refine sy (abT hxt rfl (by omega)) rfl<|sy (aaK rfl) rfl<|sa J J<|zE<|?_
 refine am9 Unit (fun _=>[(30, .int .i64 i),(8, .int .i64 i),(29, .int .i64 a.length),(0, .slice x.a a.length x.c),(5, .int .i64 0),(7, .slice (some ⟨b2,0,none⟩) a.length a.length),(6, .int .u64 k),(9, .int .u64 ((a.getD i 0+a.getD (i+1) 0*2^32:Nat):Int))]) (fun _=>[⟨b2,ws.map dI,215,true⟩]) (fun _ _=>True) ?_ ?_
 ·refine sR<|sm J J<|sm J J<|sy (aar J J) rfl<|sy (aar J J) rfl<|sm J J<|adn J J<|sy (acp J J) rfl<|?_
  refine zE<|?_
  refine aaD rfl (fun hc2=>?_) (fun hc2=>?_) -- slot 46
  ·refine aam<|sm J J<|sm J J<|sm J J<|sm J J<|sy (aar J J) rfl<|sy (aar J J) rfl<|sy (abW (z:=⟨x.a,a.length,x.c⟩) hxt J J (by omega) (by show((i:Int)+0+1)<(a.length:Nat);omega)) rfl<|?_
   rw[show((i:Int)+0+1).toNat=i+1 by omega]
   refine sy (abT hxt rfl (by omega)) rfl<|sy (aaK rfl) rfl<|sy (ai8 J J (by decide)) rfl<|?_
   rw[aeh (a.getD (i+1) 0) 32 (by decide) (by omega) rfl]
   refine sy (ab7 J J (ay3 (a.getD i 0) (a.getD (i+1) 0) 32 (by omega) (by omega))) rfl<|sa J J<|zE<|?_
   exact ajM () trivial (.cons rfl (.cons rfl (.cons rfl (.cons rfl (.cons rfl (.cons rfl (.cons rfl (.cons rfl .nil)))))))) rfl
  refine zK<|?_
  have h0:a.getD (i+1) 0=0:=alz (by omega)
  exact ajM () trivial (.cons rfl (.cons rfl (.cons rfl (.cons rfl (.cons rfl (.cons rfl (.cons rfl (.cons (by rw[h0,lY,fQ];rfl) .nil)))))))) rfl
 rintro _ Gz _ _
 refine aam<|sm J J<|sm J J<|sm J J<|sm J J<|sy (adC J J (by omega)) rfl<|?_
 rw[aeM _ k (by omega) (bZ k)]
 refine sy (abh rfl) rfl<|sy (abj J J (by omega) (by omega)) rfl<|?_
 rw[bZ]
 refine sc (aa5 (d:=(a.getD i 0+a.getD (i+1) 0*2^32)/2^k%4294967296) J J (by rw[oQ];rfl) (.hd ..) (by omega) rfl ?_)
 refine zE<|aam<|sy (aar J J) rfl<|sm J J<|zE<|?_
 refine aa4 ⟨ws.set i ((a.getD i 0+a.getD (i+1) 0*2^32)/2^k%4294967296),i+1⟩ ⟨by show i+1≤_;omega,by simp[hwl],hwo.set _ (dX _ (by decide)),?_⟩ (by show a.length-(i+1)<a.length-i;omega) (.cons rfl (.cons rfl (.cons rfl (.cons rfl (.cons rfl (.cons rfl .nil)))))) rfl
 show dv a/2^k=dv ((ws.set i ((a.getD i 0+a.getD (i+1) 0*2^32)/2^k%4294967296)).take (i+1))+4294967296^(i+1)*(dv (a.drop (i+1))/2^k)
 rw[hinv,abf (by omega),av7 hok k i hk32,ay6 i,dY,bM,jR]
theorem aDv{V n:Nat}(h1:4294967296^(n-1)≤V)(h2:V<4294967296^n)(hn:0<n):(dg V).length=n:=by
 obtain⟨e,hk,hr⟩:=aaC V
 have hne:dg V≠[]:=fun h=>by
  rw[h] at e
  have:0<4294967296^(n-1):=eK (by decide)
  simp[dv] at e;omega
 have h3:=af0 hr hne
 have h4:=aej hk
 rw[e] at h3 h4
 have h5:=(nU (a:=4294967296) (by decide)).1 (eY h3 h2)
 have h6:=(nU (a:=4294967296) (by decide)).1 (eY h1 h4)
 omega
theorem aui{t s:Nat}(h0:0<t)(ht:t<4294967296)(hs:s=32-bl t):s<32∧2147483648≤t*2^s∧(t+1)*2^s≤4294967296:=by
 have h1:bl t≤32:=aht.2 ht
 have h2:bl t≠0:=fun h=>by
  have:=axf t
  rw[h] at this;omega
 have h3:=axf t
 have h4: ¬t<2^(bl t-1):=fun h=>by
  have:=aht.2 h
  omega
 have e1:2^(bl t-1)*2^s=2147483648:=by rw[←eX,show bl t-1+s=31 by omega]
 have e2:2^bl t*2^s=4294967296:=by rw[←eX,show bl t+s=32 by omega]
 refine⟨by omega,?_,?_⟩
 ·rw[←e1];exact bK _ (by omega)
 ·rw[←e2];exact bK _ h3
theorem aGr{us:List Nat}(h:DOk us)(i:Nat)(hd:us.length=i+1):dv us=us.getD i 0*4294967296^i+dv (us.take i):=by
 have h0:dv (us.drop (i+1))=0:=by rw[fS (by omega)];rfl
 rw[aeq us i,afN us i,h0,jU,bL];rfl
theorem atl{b:List Nat}(h:Nrm b)(i:Nat)(hi:b.length=i+1):0<b.getD i 0:=by
 rcases fT (b.getD i 0) with h0|h0
 ·exfalso
  apply h
  rw[lX,hi,show i+1-1=i from rfl]
  rw[List.getD,aQ (by omega)] at h0
  rw[aQ (by omega)]
  simpa using h0
 ·exact h0
theorem ax5(a:List Nat)(k:Nat):dv (a++List.replicate k 0)=dv a:=by rw[aeA,acy];simp
structure aBc where
 us:List Nat
 qs:List Nat
 j:Nat
structure axP where
 g:Nat
 r:Nat
structure aEP where
 ws:List Nat
 k:Nat
 bo:Nat
 c:Nat
theorem av5{P:Program}{t:TypeId}(c:Nat)(h:c<18446744073709551616)(w:World):(binOp .and t (.int .u64 (c:Int)) (.int .u64 4294967295)).run P w= .ok (.int .u64 ((c%4294967296:Nat):Int)) w:=by
 have h1:(BitVec.ofInt 64 (c:Int) &&& BitVec.ofInt 64 4294967295).toNat=c%4294967296:=by
  rw[BitVec.toNat_and,BitVec.ofInt_natCast,BitVec.toNat_ofNat,fJ (by omega),show(BitVec.ofInt 64 4294967295).toNat=2^32-1 from rfl,Nat.and_two_pow_sub_one_eq_mod]
 have h2:IntKind.u64.wrap ((c%4294967296:Nat):Int)=((c%4294967296:Nat):Int):=by rw[abQ];omega
 simp only[binOp]
 show(Op.intBits .and .u64 (c:Int) 4294967295).run P w=_
 unfold Op.intBits
 show(pure (Value.int .u64 (IntKind.u64.wrap ((BitVec.ofInt 64 (c:Int) &&& BitVec.ofInt 64 4294967295).toNat:Int))):Sem Value).run P w=_
 rw[h1,h2,run_pure]
def msx(u m bo:Nat):Nat:=if m+bo≤u then u-(m+bo) else u+18446744073709551616-(m+bo)
theorem sub2(u m bo:Nat)(hu:u<4294967296)(hm:m<4294967296)(hb:bo≤1):IntKind.u64.wrap (IntKind.u64.wrap ((u:Int)-(m:Int))-(bo:Int))=((msx u m bo:Nat):Int):=by
 rw[abQ,abQ]
 unfold msx
 split<;>omega
theorem apv(u m bo:Nat)(hu:u<4294967296)(hm:m<4294967296)(hb:bo≤1):msx u m bo%4294967296+(m+bo)=u+msx u m bo/9223372036854775808*4294967296∧msx u m bo/9223372036854775808≤1∧msx u m bo<18446744073709551616:=by
 unfold msx
 split<;>omega
theorem axX{A B G:Gh}{x y:SV}{a b:List Nat}{k1 k2:Nat}(hx:IsD A x a)(hy:IsD B y b)[GL A G][GL B G](hna:Nrm a)(hnb:Nrm b)(hb2:2≤b.length)(hle:dv b≤dv a)
  (hq:dv a/dv b<2^k1)(hr:dv a%dv b<2^k2)(hl:a.length≤112589990684):
  Fn prog 252 [x.v,y.v] G (fun v G'=> ∃z r:SV,v= .tuple #[z.v,r.v]∧IsN k1 G' z (dv a/dv b)∧IsN k2 G' r (dv a%dv b)):=by
 have hxl:=hx.len
 have hyl:=hy.len
 obtain⟨n,hn⟩: ∃n,b.length=n+2:=⟨b.length-2,by omega⟩
 have hbp:0<dv b:=iR fun h=>by
  rw[ax4 hnb] at h
  rw[h] at hn;simp at hn
 have hnm:b.length≤a.length:=by
  rcases iY a.length b.length with h|h
  ·have:=acK hx.ok hnb h
   omega
  ·exact h
 have htp:=atl hnb (n+1) hn
 have htl:=hy.ok.get (n+1)
 have hbv:=aGr hy.ok (n+1) hn
 have hbt:=afA hy.ok (n+1)
 obtain⟨s,hs⟩: ∃s,s=32-bl (b.getD (n+1) 0):=⟨_,rfl⟩
 obtain⟨hs32,hs1,hs2⟩:=aui htp htl hs
 have hble:bl (b.getD (n+1) 0)≤32:=aht.2 htl
 have hpn:0<4294967296^(n+1):=eK (by decide)
 have hps:0<2^s:=eK (by decide)
 have hV1:2147483648*4294967296^(n+1)≤dv b*2^s:=by
  refine cW (bK _ hs1) ?_
  rw[bM,bL (2^s),←bM]
  exact bK _ (by omega)
 have hV2:dv b*2^s<4294967296^(n+2):=by
  refine dW (kU (k:=2^s) (m:=(b.getD (n+1) 0+1)*4294967296^(n+1)) (by rw[cS,nJ];omega) hps) ?_
  rw[bM,bL (4294967296^(n+1)),←bM,ay6 (n+1),bL _ 4294967296]
  exact bK _ hs2
 have hVl:(dg (dv b*2^s)).length=n+2:=aDv (by show 4294967296^(n+1)≤_;omega) hV2 (by omega)
 have hal:=aej hx.ok
 have hU2:dv a*2^s<4294967296^(a.length+1):=by
  rw[ay6]
  exact oZ hal (dW (rN (by decide) hs32) (by decide))
 have hUl1:(dg (dv a*2^s)).length≤a.length+1:=by
  have h1:=atz (aaC (dv a*2^s)).2.2 (k:=32*(a.length+1)) (by rw[(aaC _).1,pX];exact hU2)
  omega
 have hUl0:a.length≤(dg (dv a*2^s)).length:=by
  have hane:a≠[]:=fun h=>by
   have:=congrArg List.length h
   simp only[gX] at this;omega
  have h1:=af0 hna hane
  have h2:=aej (aaC (dv a*2^s)).2.1
  rw[(aaC _).1] at h2
  have h3:dv a≤dv a*2^s:=qU _ hps
  have h4:=(nU (a:=4294967296) (by decide)).1 (eY (cW h1 h3) h2)
  omega
 have hU3:dv a*2^s<dv b*2^s*4294967296^(a.length-n-1):=by
  have h1:4294967296^(n+1)*4294967296^(a.length-n-1)=4294967296^a.length:=by rw[←eX,show n+1+(a.length-n-1)=a.length by omega]
  refine dW (kU hal hps) (cW (dS _ (bV (by decide) (show s≤31 by omega))) ?_)
  rw[←h1,bL,←bM]
  exact bK _ hV1
 have hta:=amI hna
 have htb:=amI hnb
 refine Fn.intro func252 J J ntmps252 rfl ?_
 intro C _ _
 refine sR<|sa J J<|sa J J<|zE<|awa<|sR<|sm J J<|sm J J<|adn J J<|sy (aa8 J J) rfl<|?_
 refine sy (abW hy J J (by omega) (by omega)) rfl<|?_
 rw[show((y.n:Int)-1).toNat=n+1 by omega]
 refine sy (abT hy rfl (by omega)) rfl<|?_
 refine sc (zC J J (aiV htl) rfl ?_)
 rintro _ G1 _ rfl
 refine sy (aaK rfl) rfl<|?_
 rw[show(32-(bl (b.getD (n+1) 0):Int))=(s:Int) by omega]
 refine sa J J<|zE<|sR<|sm J J<|sm J J<|?_
 refine sc (zC J J (auz (kk:=32*(a.length+1)) hx hs32 (by rw[pX];exact hU2) (by omega)) rfl ?_)
 rintro _ G2 _ ⟨u,rfl,hu,huc⟩
 have hul:=hu.len
 rw[hta] at huc
 refine sc (alL (by rfl) (by rfl) (by rfl) (by rfl) rfl ?_)
 intro b3
 refine sc (ac5 (z:= .int .u32 0) (m:=2) J J (aEp hu.d) (aiX inferInstance rfl) (by omega) (by decide) (by omega) rfl ?_)
 intro b4 cap h1
 have ecs:(dg (dv a*2^s)).map dI++[Value.int .u32 0, .int .u32 0]++abH (.int .u32 0) (cap-(u.n+2))=(dg (dv a*2^s)++List.replicate (cap-u.n) 0).map dI:=by
  rw[ad5,show cap-u.n=(cap-(u.n+2))+1+1 by omega,mX,mX]
  simp[dI]
 rw[ecs]
 clear ecs
 have hus:dv (dg (dv a*2^s)++List.replicate (cap-u.n) 0)=dv a*2^s:=by rw[ax5,(aaC _).1]
 have huo:DOk (dg (dv a*2^s)++List.replicate (cap-u.n) 0):=(aaC _).2.1.append (.replicate _)
 have hulen:(dg (dv a*2^s)++List.replicate (cap-u.n) 0).length=cap:=by simp;omega
 generalize dg (dv a*2^s)++List.replicate (cap-u.n) 0=us0 at hus huo hulen⊢
 refine sm J J<|adn J J<|sy (aar J J) rfl<|sy (adJ J J (by omega) (by omega)) rfl<|sa J J<|zE<|sR<|sm J J<|?_
 refine sm J J<|?_
 refine sc (zC J J (auz (kk:=32*(n+2)) hy hs32 (by rw[pX];exact hV2) (by omega)) rfl ?_)
 rintro _ G4 _ ⟨v,rfl,hv,_⟩
 have hvl:=hv.len
 obtain⟨hvv,hvo,hvn⟩:=aaC (dv b*2^s)
 replace hv:=hv.d
 rw[hVl] at hvl
 generalize hvs:dg (dv b*2^s)=vs at*
 refine sa J J<|zE<|sR<|sm J J<|adn J J<|sa J J<|zE<|aak<|dr (fun _=>false) [(0,true),(1,true),(2,true),(3,true),(4,true),(5,true),(6,true),(7,true),(8,true),(9,true),(10,true),(11,true),(12,true),(13,true)] follows (by kernel_rfl)<|?_
 refine dM J J J<|dM J J J<|dy rfl (fun _=>aa8 J J (by omega) (by omega)) J J<|dy rfl (fun _=>abW hv J J (by omega) (by omega)) J J<|?_
 rw[show((v.n:Int)-1).toNat=n+1 by omega]
 have hvt:=hvo.get (n+1)
 have hv2:=hvo.get n
 refine dy rfl (fun _=>abT hv rfl (by omega)) J J<|dy rfl (fun _=>aaK rfl (by omega) (by omega)) J J<|dM J J J<|dM J J J<|?_
 refine dy rfl (fun _=>aa8 J J (by omega) (by omega)) J J<|dy rfl (fun _=>abW hv J J (by omega) (by omega)) J J<|?_
 rw[show((v.n:Int)-2).toNat=n by omega]
 refine dy rfl (fun _=>abT hv rfl (by omega)) J J<|?_
 refine dy rfl (fun _=>aaK rfl (by omega) (by omega)) J J<|dA J J J<|dA J J J<|dn<|sR<|sm J J<|?_
 refine adn J J<|sm J J<|sy (aa8 J J) rfl<|?_
 obtain⟨l,hlq⟩: ∃l,a.length=n+1+l:=⟨a.length-n-1,by omega⟩
 rw[show a.length-n-1=l by omega] at hU3
 rw[show(((x.n:Int)+1).toNat:Int)-v.n=(l:Nat) by omega,show((x.n:Int)+1).toNat=a.length+1 by omega]
 refine sc (aeN J J (by omega) (by omega) (by omega) (by rfl) rfl ?_)
 intro b5
 rw[ad5,bZ]
 refine azW [_,_] (.cons_cons _ (.cons_cons _ (.cons _ .slnil))) ?_
 refine sa J J<|zE<|aak<|awx<|aak<|sR<|sm J J<|adn J J<|sy (aa8 J J) rfl<|sa J J<|zE<|aat<|?_
 refine acg (X:=aBc) (fun q=>[(13, .int .i64 ((q.j:Int)-1)),(7, .slice (some ⟨b4,0,none⟩) (a.length+1) cap),(9, .int .i64 v.n),(10, .int .u64 (vs.getD (n+1) 0:Nat)),(11, .int .u64 (vs.getD n 0:Nat)),(8, .slice v.a v.n v.c),(12, .slice (some ⟨b5,0,none⟩) l l),(6, .int .u64 s)])
  (fun q=>[⟨b5,q.qs.map dI,215,true⟩,⟨b4,q.us.map dI,215,true⟩])
  (fun q _=>q.us.length=cap∧DOk q.us∧q.qs.length=l∧DOk q.qs∧q.j≤l∧(∀i,i<q.j→q.qs.getD i 0=0)∧dv a*2^s=dv q.us+dv vs*dv q.qs∧dv q.us<dv vs*4294967296^q.j) (fun q=>q.j) ⟨us0,List.replicate l 0,l⟩
  ⟨hulen,huo,by simp, .replicate _,aM _,fun i _=>by simp[List.getD,List.getElem?_replicate];split<;>rfl,by simp only[acy];omega,by simp only[hus,hvv];exact hU3⟩ (.cons rfl (.cons rfl (.cons rfl (.cons rfl (.cons rfl (.cons rfl (.cons rfl (.cons rfl .nil)))))))) rfl ?_
 rintro ⟨us,qs,j⟩ Gx _ ⟨hul2,huo2,hql,hqo,hjl,hq0,hinv,hlt⟩
 simp only[] at hul2 huo2 hql hqo hjl hq0 hinv hlt⊢
 refine aak<|sR<|sm J J<|sy (ah6 J J) rfl<|zE<|?_
 refine abx rfl (fun hc=>?_) (fun hc=>?_) -- slot 68
 ·have hj0:j=0:=by omega
  subst hj0
  refine abC<|abO<|abO<|aau<|aak<|?_
  refine aci b5 (.hd ..) (fun G5 _ hgb5=>?_)
  refine aci b4 (.hd ..) (fun G6 _ hgb4=>?_)
  refine dr (fun _=>false) [(0,true),(2,true),(3,true),(4,true),(5,true),(1,false),(6,false),(7,true),(8,true)] follows (by kernel_rfl)<|?_
  have hDq:IsD G6 ⟨some ⟨b5,0,none⟩,l,l⟩ qs:= .of_block hqo (hgb5.up (G:=G6)) hql.symm (aM _) (by rw[aW (by simp)])
  have hut:dv (us.take (n+2))=dv us:=by
   have h0:=aeq us (n+2)
   rw[aiz (by rw[qL,iK,hvv] at hlt;omega)] at h0
   omega
  have hDu:IsD G6 ⟨some ⟨b4,0,none⟩,n+2,cap⟩ (us.take (n+2)):= .of_block (huo2.take _) hgb4.h (by simp;omega) (by omega) (by rw[gW,cR,iZ (by omega)])
  have hV0:0<dv vs:=by rw[hvv];exact gS hbp hps
  rw[qL,iK] at hlt
  have hdq:dv a/dv b=dv qs:=by
   rw[←Nat.mul_div_mul_right _ _ hps,hinv,←hvv,lS _ _ hV0,jL hlt,eJ]
  have hdr:dv a%dv b=dv (us.take (n+2))/2^s:=by
   have:dv us=dv a%dv b*2^s:=by
    rw[←rV,hinv,←hvv,mL,fJ hlt]
   rw[hut,this,Nat.mul_div_cancel _ hps]
  refine dM J J J<|dM J J J<|dM J J J<|dy rfl (fun _=>adJ J J (by omega) (by omega)) J J<|?_
  rw[show(v.n:Int).toNat=n+2 by omega]
  refine dM J J J<|?_
  refine dc J J (zC J J (aa1 hDq (by omega)) rfl ?_)
  rintro _ G7 _ rfl
  refine aBY<|?_
  refine dc J J (zC J J (az7 (kk:=k2) hDu hs32 (by rw[←hdr];exact hr) (by simp;omega)) rfl ?_)
  rintro _ G8 _ ⟨r,rfl,hr8⟩
  refine aBY<|dA J J J<|dA J J J<|dn<|aaH<|?_
  refine zD (.tmp rfl (.tmp rfl .nil)) ⟨⟨some ⟨b5,0,none⟩,(trimD qs).length,l⟩,r,rfl,?_,?_⟩
  ·rw[hdq]
   refine⟨?_,by rw[←hdq];exact hq⟩
   rw[ado hqo]
   exact hDq.trim.up
  ·rw[hdr];exact hr8
 obtain⟨i,rfl⟩: ∃i,j=i+1:=⟨j-1,by omega⟩
 rw[show(((i+1:Nat):Int)-1)=i by omega]
 have hpi:0<4294967296^i:=eK (by decide)
 -- the digits that the guess looks at
 obtain⟨p,hp⟩: ∃p,p=4294967296^(i+n):=⟨_,rfl⟩
 obtain⟨V,hV⟩: ∃V,V=dv vs*4294967296^i:=⟨_,rfl⟩
 have hvB:dv vs<4294967296^(n+2):=by rw[hvv];exact hV2
 have hvh:=aFM hvo n hvB
 have hltV:dv us<V*4294967296:=by rw[hV,bM,←ay6];exact hlt
 have hV0:0<V:=by rw[hV];exact gS (by rw[hvv];exact gS hbp hps) hpi
 have hT0:0<vs.getD (n+1) 0:=atl hvn (n+1) hVl
 have hVp:V=(vs.getD (n+1) 0*4294967296+vs.getD n 0)*p+dv (vs.take n)*4294967296^i:=by
  rw[hV,hvh,cS,hp,eX,bL (4294967296^i),bM]
 have hv0:dv (vs.take n)*4294967296^i<p:=by
  rw[hp,eX,bL]
  exact Nat.mul_lt_mul_of_pos_left (afA hvo n) hpi
 have hM:dv us<4294967296^(i+n+3):=by
  refine dW hlt ?_
  rw[show i+n+3=(n+2)+(i+1) by omega,eX 4294967296 (n+2) (i+1)]
  exact bK _ (lU hvB)
 have huh:=aGL huo2 (i+n) hM
 rw[←hp] at huh
 have hu0:=afA huo2 (i+n)
 rw[←hp] at hu0
 have hg0:=huo2.get (i+n)
 have hg1:=huo2.get (i+n+1)
 have hg2:=huo2.get (i+n+2)
 refine zK<|aak<|aat<|aak<|dr (fun _=>false) [(0,true),(1,true),(2,true),(3,true),(4,true),(5,true),(6,true),(7,true),(8,true),(9,true),(10,true),(11,true),(12,true),(13,true),(14,true),(15,true),(16,true),(17,true)] follows (by kernel_rfl)<|?_
 refine dM J J J<|dM J J J<|dM J J J<|dy rfl (fun _=>aar J J (by omega) (by omega)) J J<|?_
 refine dy rfl (fun _=>abj J J (by omega) (by omega)) J J<|?_
 rw[show((i:Int)+(v.n:Int)).toNat=i+n+2 by omega]
 refine dy rfl (fun _=>afZ rfl (by omega)) J J<|dy rfl (fun _=>aaK rfl (by omega) (by omega)) J J<|dy rfl (fun _=>ai8 J J (by decide)) J J<|?_
 rw[aeh (us.getD (i+n+2) 0) 32 (by decide) (by omega) rfl]
 refine dM J J J<|dM J J J<|dM J J J<|dy rfl (fun _=>aar J J (by omega) (by omega)) J J<|?_
 refine dy rfl (fun _=>aa8 J J (by omega) (by omega)) J J<|dy rfl (fun _=>abj J J (by omega) (by omega)) J J<|?_
 rw[show((i:Int)+(v.n:Int)-1).toNat=i+n+1 by omega]
 refine dy rfl (fun _=>afZ rfl (by omega)) J J<|?_
 refine dy rfl (fun _=>aaK rfl (by omega) (by omega)) J J<|dy rfl (fun _=>ab7 J J (apd (us.getD (i+n+1) 0) (us.getD (i+n+2) 0) 32 (by omega) (by omega))) J J<|dA J J J<|dn<|aak<|?_
 obtain⟨f,hf⟩: ∃f,f=us.getD (i+n+2) 0*4294967296+us.getD (i+n+1) 0:=⟨_,rfl⟩
 rw[show us.getD (i+n+1) 0+us.getD (i+n+2) 0*2^32=f by omega]
 rw[←hf] at huh
 have hfB:f<18446744073709551616:=by omega
 refine dr (fun _=>false) [(0,true),(1,true),(2,true),(3,true),(4,true),(5,true),(6,true),(7,true)] follows (by kernel_rfl)<|?_
 refine dM J J J<|dM J J J<|dy rfl (fun _=>ahD J J (by omega) (by omega) (by omega)) J J<|dM J J J<|dM J J J<|?_
 refine dy rfl (fun _=>ahn J J (by omega) (by omega)) J J<|dA J J J<|dA J J J<|dn<|?_
 rw[show((f:Int)/((vs.getD (n+1) 0:Nat):Int))=((f/vs.getD (n+1) 0:Nat):Int) by rfl,show((f:Int)%((vs.getD (n+1) 0:Nat):Int))=((f%vs.getD (n+1) 0:Nat):Int) by rfl]
 -- GUESS
 have hUle:(f*4294967296+us.getD (i+n) 0)*p≤dv us:=by omega
 have hUlt:dv us<(f*4294967296+us.getD (i+n) 0+1)*p:=by rw[cS _ 1,nJ];omega
 have hVle:(vs.getD (n+1) 0*4294967296+vs.getD n 0)*p≤V:=by rw[hVp];exact mV _ _
 have hfT:f≤vs.getD (n+1) 0*4294967296+vs.getD n 0:=aIx hUle hVp hv0 hltV
 refine am9 Nat (fun g=>[(15, .int .u64 (g:Nat)),(13, .int .i64 i),(7, .slice (some ⟨b4,0,none⟩) (a.length+1) cap),(9, .int .i64 v.n),(10, .int .u64 (vs.getD (n+1) 0:Nat)),(11, .int .u64 (vs.getD n 0:Nat)),(8, .slice v.a v.n v.c),(12, .slice (some ⟨b5,0,none⟩) l l),(6, .int .u64 s)]) (fun _=>[⟨b5,qs.map dI,215,true⟩,⟨b4,us.map dI,215,true⟩]) (fun g _=>g<4294967296∧dv us<(g+1)*V∧g*V<dv us+V) ?_ ?_
 ·refine aat<|?_
  refine acg (X:=axP) (fun q=>[(15, .int .u64 q.g),(16, .int .u64 q.r),(13, .int .i64 i),(7, .slice (some ⟨b4,0,none⟩) (a.length+1) cap),(9, .int .i64 v.n),(10, .int .u64 (vs.getD (n+1) 0:Nat)),(11, .int .u64 (vs.getD n 0:Nat)),(8, .slice v.a v.n v.c),(12, .slice (some ⟨b5,0,none⟩) l l),(6, .int .u64 s)]) (fun _=>[⟨b5,qs.map dI,215,true⟩,⟨b4,us.map dI,215,true⟩]) (fun q _=>f=q.g*vs.getD (n+1) 0+q.r∧q.r<4294967296∧dv us<(q.g+1)*V) (fun q=>q.g) ⟨f/vs.getD (n+1) 0,f%vs.getD (n+1) 0⟩
   ⟨(Nat.div_add_mod' ..).symm,pY (dX _ hT0) hvt,aAQ hUlt hg0 hVle hT0⟩ (.cons rfl (.cons rfl (.cons rfl (.cons rfl (.cons rfl (.cons rfl (.cons rfl (.cons rfl (.cons rfl (.cons rfl .nil)))))))))) rfl ?_
  rintro ⟨g,r⟩ Gy _ ⟨hfg,hrB,hlo⟩
  simp only[] at hfg hrB hlo⊢
  have hgT:g*1≤g*vs.getD (n+1) 0:=dS _ hT0
  refine aak<|sR<|sm J J<|sy (adC J J (by decide)) rfl<|?_
  rw[aeM g 32 (by decide) rfl]
  refine sy (ahW J J) rfl<|sm J J<|?_
  refine acb 97 rfl (fun hg=>?_) (fun hg=>?_)
  ·have hgB:4294967296≤g:=by omega
   have hdec:dv us<g*V:=dW hltV (by rw[bL];exact bK _ hgB)
   refine ss J J J J<|ss J J J J<|ss J J J J<|ss J J J J<|ss J J J J<|ss J J J J<|ss J J J J<|ss J J J J<|ss J J J J<|?_
   refine ss J J J J<|ss J J J J<|ss J J J J<|ss J J J J<|ss J J J J<|ss J J J J<|sy (adb J J) rfl<|zE<|ac8 rfl<|?_
   refine zK<|aat<|?_
   obtain⟨g',rfl⟩: ∃g',g=g'+1:=⟨g-1,by rcases fT g with h|h;(rw[h,lY] at hdec;omega);omega⟩
   refine sR<|sm J J<|sy (atG J J (by omega) (by omega)) rfl<|sa J J<|zE<|sR<|sm J J<|sm J J<|sy (aef J J) rfl<|?_
   refine sa J J<|zE<|sR<|sm J J<|sy (adC J J (by decide)) rfl<|?_
   rw[show((g'+1:Nat):Int)-1=(g':Nat) by omega,show((r:Int)+((vs.getD (n+1) 0:Nat):Int))=((r+vs.getD (n+1) 0:Nat):Int) from rfl,aeM (r+vs.getD (n+1) 0) 32 (by decide) rfl]
   have hfg':f=g'*vs.getD (n+1) 0+(r+vs.getD (n+1) 0):=by rw[hfg,cS,nJ];omega
   refine sy (ahW J J) rfl<|zE<|?_
   refine aaD rfl (fun hc3=>?_) (fun hc3=>?_) -- slot 121
   ·have hr3:4294967296≤r+vs.getD (n+1) 0:=by omega
    have hgB:g'<4294967296:=by
     rcases iY g' 4294967296 with h|h
     ·exact h
     ·have:=bK (vs.getD (n+1) 0) h
      omega
    have hgS:g'*vs.getD n 0≤(r+vs.getD (n+1) 0)*4294967296+us.getD (i+n) 0:=by
     have h1:=iJ (lU hgB) (lU hv2)
     omega
    refine abC<|ahe rfl<|abO<|aau<|?_
    exact ajM g' ⟨hgB,hdec,aAI hUle hVp hv0 hT0 hfg' hgB hgS⟩ (.cons rfl (.cons rfl (.cons rfl (.cons rfl (.cons rfl (.cons rfl (.cons rfl (.cons rfl (.cons rfl .nil))))))))) rfl
   refine zK<|?_
   exact aa4 ⟨g',r+vs.getD (n+1) 0⟩ ⟨hfg',by show r+vs.getD (n+1) 0<_;omega,hdec⟩ (by show g'<g'+1;omega) (.cons rfl (.cons rfl (.cons rfl (.cons rfl (.cons rfl (.cons rfl (.cons rfl (.cons rfl (.cons rfl (.cons rfl .nil)))))))))) rfl
  have hgB:g<4294967296:=by omega
  have hgS:g*vs.getD n 0<4294967296*4294967296:=oZ hgB hv2
  have e2:(g:Int)*((vs.getD n 0:Nat):Int)=((g*vs.getD n 0:Nat):Int):=rfl
  refine syg J J (aaP rfl) rfl<|syg J J (aaP rfl) rfl<|syg J J (ape J J (by rw[e2];omega) (by rw[e2];omega)) rfl<|syg J J (aaP rfl) rfl<|syg J J (ai8 J J (by decide)) rfl<|?_
  rw[aeh r 32 (by decide) (by omega) rfl]
  refine syg J J (aaP rfl) rfl<|syg J J (aaP rfl) rfl<|syg J J (aaP rfl) rfl<|syg J J (aar J J) rfl<|syg J J (aa8 J J) rfl<|?_
  refine syg J J (abj J J (by omega) (by omega)) rfl<|?_
  rw[show((i:Int)+(v.n:Int)-2).toNat=i+n by omega]
  refine syg J J (afZ rfl (by omega)) rfl<|syg J J (aaK rfl) rfl<|syg J J (ab7 J J (apd (us.getD (i+n) 0) r 32 (by omega) (by omega))) rfl<|?_
  refine syg J J (agL J J) rfl<|sy (aby J J) rfl<|zE<|?_
  rw[e2]
  refine abx rfl (fun hc2=>?_) (fun hc2=>?_) -- slot 113
  ·refine abC<|abO<|abO<|aau<|?_
   exact ajM g ⟨hgB,hlo,aAI hUle hVp hv0 hT0 hfg hgB (by omega)⟩ (.cons rfl (.cons rfl (.cons rfl (.cons rfl (.cons rfl (.cons rfl (.cons rfl (.cons rfl (.cons rfl .nil))))))))) rfl
  have hdec:dv us<g*V:=aDZ hUlt hVle hfg (by omega)
  refine zK<|aat<|?_
  obtain⟨g',rfl⟩: ∃g',g=g'+1:=⟨g-1,by rcases fT g with h|h;(rw[h,lY] at hdec;omega);omega⟩
  refine sR<|sm J J<|sy (atG J J (by omega) (by omega)) rfl<|sa J J<|zE<|sR<|sm J J<|sm J J<|sy (aef J J) rfl<|?_
  refine sa J J<|zE<|sR<|sm J J<|sy (adC J J (by decide)) rfl<|?_
  rw[show((g'+1:Nat):Int)-1=(g':Nat) by omega,show((r:Int)+((vs.getD (n+1) 0:Nat):Int))=((r+vs.getD (n+1) 0:Nat):Int) from rfl,aeM (r+vs.getD (n+1) 0) 32 (by decide) rfl]
  have hfg':f=g'*vs.getD (n+1) 0+(r+vs.getD (n+1) 0):=by rw[hfg,cS,nJ];omega
  refine sy (ahW J J) rfl<|zE<|?_
  refine aaD rfl (fun hc3=>?_) (fun hc3=>?_) -- slot 121
  ·have hr3:4294967296≤r+vs.getD (n+1) 0:=by omega
   have hgB:g'<4294967296:=by
    rcases iY g' 4294967296 with h|h
    ·exact h
    ·have:=bK (vs.getD (n+1) 0) h
     omega
   have hgS:g'*vs.getD n 0≤(r+vs.getD (n+1) 0)*4294967296+us.getD (i+n) 0:=by
    have h1:=iJ (lU hgB) (lU hv2)
    omega
   refine abC<|ahe rfl<|abO<|aau<|?_
   exact ajM g' ⟨hgB,hdec,aAI hUle hVp hv0 hT0 hfg' hgB hgS⟩ (.cons rfl (.cons rfl (.cons rfl (.cons rfl (.cons rfl (.cons rfl (.cons rfl (.cons rfl (.cons rfl .nil))))))))) rfl
  refine zK<|?_
  exact aa4 ⟨g',r+vs.getD (n+1) 0⟩ ⟨hfg',by show r+vs.getD (n+1) 0<_;omega,hdec⟩ (by show g'<g'+1;omega) (.cons rfl (.cons rfl (.cons rfl (.cons rfl (.cons rfl (.cons rfl (.cons rfl (.cons rfl (.cons rfl (.cons rfl .nil)))))))))) rfl
 rintro g Gz _ ⟨hgB,hlo,hhi⟩
 -- SUB
 refine sR<|sa J J<|sa J J<|zE<|aak<|sR<|sm J J<|adn J J<|sm J J<|zE<|aat<|?_
 refine acg (X:=aEP) (fun q=>[(18, .int .u64 q.c),(17, .int .u64 q.bo),(124, .int .i64 q.k),(123, .int .i64 v.n),(122, .slice v.a v.n v.c),(15, .int .u64 (g:Nat)),(13, .int .i64 i),(7, .slice (some ⟨b4,0,none⟩) (a.length+1) cap),(9, .int .i64 v.n),(10, .int .u64 (vs.getD (n+1) 0:Nat)),(11, .int .u64 (vs.getD n 0:Nat)),(8, .slice v.a v.n v.c),(12, .slice (some ⟨b5,0,none⟩) l l),(6, .int .u64 s)]) (fun q=>[⟨b5,qs.map dI,215,true⟩,⟨b4,q.ws.map dI,215,true⟩])
  (fun q _=>q.ws.length=cap∧DOk q.ws∧q.k≤n+2∧q.bo≤1∧q.c<4294967296∧dv q.ws<4294967296^(i+n+3)∧dv q.ws+g*(dv (vs.take q.k)*4294967296^i)=dv us+(q.bo+q.c)*4294967296^(i+q.k)) (fun q=>n+2-q.k) ⟨us,0,0,0⟩
  ⟨hul2,huo2,bX _,bX _,by show(0:Nat)<4294967296;decide,hM,by simp[dv]⟩ (.cons rfl (.cons rfl (.cons rfl (.cons rfl (.cons rfl (.cons rfl (.cons rfl (.cons rfl (.cons rfl (.cons rfl (.cons rfl (.cons rfl (.cons rfl (.cons rfl .nil)))))))))))))) rfl ?_
 rintro ⟨ws,k,bo,c⟩ Gy _ ⟨hwl,hwo,hk,hbo,hc4,hwM,hw⟩
 simp only[] at hwl hwo hk hbo hc4 hwM hw⊢
 refine sR<|sy (acp J J) rfl<|zE<|aak<|?_
 refine abx rfl (fun hkc=>?_) (fun hkc=>?_) -- slot 125
 ·have hkn:k=n+2:=by omega
  subst hkn
  rw[aW (by omega),←hV] at hw
  refine abC<|abO<|abO<|aau<|sR<|sm J J<|sm J J<|sm J J<|sy (aar J J) rfl<|sy (abj J J (by omega) (by omega)) rfl<|?_
  rw[show((i:Int)+(v.n:Int)).toNat=i+n+2 by omega]
  have hwg:=hwo.get (i+n+2)
  refine sy (afZ rfl (by omega)) rfl<|sy (aaK rfl) rfl<|sm J J<|sy (af8 J J) rfl<|sm J J<|sy (af8 J J) rfl<|?_
  rw[sub2 _ _ _ hwg hc4 hbo]
  obtain⟨hx1,hx2,hx3⟩:=apv (ws.getD (i+n+2) 0) c bo hwg hc4 hbo
  generalize msx (ws.getD (i+n+2) 0) c bo=xx at hx1 hx2 hx3⊢
  refine sa J J<|zE<|sR<|sm J J<|sm J J<|sm J J<|sy (aar J J) rfl<|sm J J<|sy (abh rfl) rfl<|sy (abj J J (by omega) (by omega)) rfl<|?_
  rw[show((i:Int)+(v.n:Int)).toNat=i+n+2 by omega]
  refine sc (aa5 (d:=xx%4294967296) J J (by rw[oQ];rfl) (.tl _ _ _ _ _ _ _ _ (.hd ..)) (by omega) rfl ?_)
  have hs2:=afb ws (i+n+2) (xx%4294967296) (by omega)
  have hl2:=aAy hs2 hw hx1
  rw[←ay6] at hl2
  have hM2:=agF (i:=i+n+2) (d:=xx%4294967296) hwo (dX _ (by decide)) hwM (by omega)
  have ho2:=hwo.set (i+n+2) (d:=xx%4294967296) (dX _ (by decide))
  have hn2:(ws.set (i+n+2) (xx%4294967296)).length=cap:=by rw[aN];exact hwl
  generalize ws.set (i+n+2) (xx%4294967296)=ws2 at hl2 hM2 ho2 hn2⊢
  replace hl2:dv ws2+g*V=dv us+xx/9223372036854775808*4294967296^(i+n+3):=hl2
  have hqset: ∀d,dv (qs.set i d)=dv qs+4294967296^i*d:=fun d=>by
   have:=afb qs i d (by omega)
   rw[hq0 i (by omega)] at this
   simpa using this
  have hqz: ∀d i',i'<i→(qs.set i d).getD i' 0=0:=fun d i' h=>by
   have:=hq0 i' (by omega)
   simpa[List.getD,lM,show¬i=i' by omega] using this
  have hinv2: ∀d R,R+d*V=dv us→dv a*2^s=R+dv vs*dv (qs.set i d):=fun d R h=>by
   rw[hinv,←h,hqset,dY,←bM,←hV,bL d];omega
  refine zE<|sR<|sm J J<|sm J J<|sm J J<|sy (abh rfl) rfl<|sy (abj J J (by omega) (by omega)) rfl<|?_
  rw[bZ]
  refine sc (aa5 (d:=g) J J (azr g hgB) (.hd ..) (by omega) rfl ?_)
  refine zE<|aak<|sR<|sm J J<|sy (adC J J (by decide)) rfl<|?_
  rw[aeM xx 63 (by decide) rfl]
  refine sy (abZ J J) rfl<|zE<|?_
  refine aaD rfl (fun ht=>?_) (fun ht=>?_) -- slot 184
  ·have ht0:xx/2^63=0:=by omega
   rw[show xx/9223372036854775808=xx/2^63 from rfl,ht0,lY,fQ] at hl2
   refine abC<|abO<|aau<|aam<|sm J J<|sy (aa8 J J) rfl<|sa J J<|zE<|?_
   exact aa4 ⟨ws2,qs.set i g,i⟩ ⟨hn2,ho2,by simpa using hql,hqo.set _ hgB,by show i≤l;omega,hqz g,hinv2 g _ hl2,by show dv ws2<_;rw[←hV];exact aAh hlo hl2⟩ (by show i<i+1;omega) (.cons rfl (.cons rfl (.cons rfl (.cons rfl (.cons rfl (.cons rfl (.cons rfl (.cons rfl .nil)))))))) rfl
  have ht1:xx/9223372036854775808=1:=by
   have:xx/9223372036854775808≠0:=fun h=>ht (by rw[show xx/2^63=xx/9223372036854775808 from rfl,h];rfl)
   omega
  rw[ht1,nJ] at hl2
  obtain⟨g',rfl⟩: ∃g',g=g'+1:=⟨g-1,by rcases fT g with h|h;(rw[h,lY] at hl2;omega);omega⟩
  refine zK<|sR<|sm J J<|sm J J<|sy (abj J J (by omega) (by omega)) rfl<|?_
  rw[bZ]
  refine sy (afZ rfl (by simp;omega)) rfl<|?_
  rw[show(qs.set i (g'+1)).getD i 0=g'+1 by simp[List.getD,lM,show i<qs.length by omega]]
  refine sy (af8 J J) rfl<|sy (abj J J (by omega) (by omega)) rfl<|?_
  rw[bZ]
  refine sc (aa5 (d:=g') J J (by rw[acL];omega) (.hd ..) (by simp;omega) rfl ?_)
  rw[List.set_set]
  refine zE<|sR<|sa J J<|zE<|aak<|sR<|sm J J<|adn J J<|sm J J<|zE<|aat<|?_
  refine acg (X:=aEP) (fun q=>[(18, .int .u64 q.c),(193, .int .i64 q.k),(192, .int .i64 v.n),(191, .slice v.a v.n v.c),(13, .int .i64 i),(7, .slice (some ⟨b4,0,none⟩) (a.length+1) cap),(9, .int .i64 v.n),(10, .int .u64 (vs.getD (n+1) 0:Nat)),(11, .int .u64 (vs.getD n 0:Nat)),(8, .slice v.a v.n v.c),(12, .slice (some ⟨b5,0,none⟩) l l),(6, .int .u64 s)]) (fun q=>[⟨b5,(qs.set i g').map dI,215,true⟩,⟨b4,q.ws.map dI,215,true⟩])
   (fun q _=>q.ws.length=cap∧DOk q.ws∧q.k≤n+2∧q.c≤1∧dv q.ws<4294967296^(i+n+3)∧dv q.ws+q.c*4294967296^(i+q.k)=dv ws2+dv (vs.take q.k)*4294967296^i) (fun q=>n+2-q.k) ⟨ws2,0,0,0⟩
   ⟨hn2,ho2,bX _,bX _,hM2,by simp[dv]⟩ (.cons rfl (.cons rfl (.cons rfl (.cons rfl (.cons rfl (.cons rfl (.cons rfl (.cons rfl (.cons rfl (.cons rfl (.cons rfl (.cons rfl .nil)))))))))))) rfl ?_
  rintro ⟨wa,k,_,ca⟩ Gz _ ⟨hal2,hao,hak,hac,haM,ha⟩
  simp only[] at hal2 hao hak hac haM ha⊢
  refine sR<|sy (acp J J) rfl<|zE<|aak<|?_
  refine abx rfl (fun hkd=>?_) (fun hkd=>?_) -- slot 194
  ·have hkn:k=n+2:=by omega
   subst hkn
   rw[aW (by omega),←hV] at ha
   have hag:=hao.get (i+n+2)
   refine abC<|abO<|abO<|aau<|aam<|sm J J<|sm J J<|sm J J<|sy (aar J J) rfl<|sy (abj J J (by omega) (by omega)) rfl<|?_
   rw[show((i:Int)+(v.n:Int)).toNat=i+n+2 by omega]
   refine sy (afZ rfl (by omega)) rfl<|sm J J<|sy (abh rfl) rfl<|sy (aAT J J) rfl<|sy (abj J J (by omega) (by omega)) rfl<|?_
   rw[show((i:Int)+(v.n:Int)).toNat=i+n+2 by omega]
   refine sc (aa5 (d:=(wa.getD (i+n+2) 0+ca)%4294967296) J J (by rw[acL];omega) (.tl _ _ _ _ _ _ _ _ (.hd ..)) (by omega) rfl ?_)
   have hs4:=afb wa (i+n+2) ((wa.getD (i+n+2) 0+ca)%4294967296) (by omega)
   have hl4:=azJ hs4 ha
   rw[←ay6] at hl4
   have hM4:=agF (i:=i+n+2) (d:=(wa.getD (i+n+2) 0+ca)%4294967296) hao (dX _ (by decide)) haM (by omega)
   obtain⟨hR1,hR2⟩:=aBZ hhi hl2 hl4 hM2 hM4 (by omega) (Nat.succ_pos _)
   refine zE<|aam<|sm J J<|sy (aa8 J J) rfl<|sa J J<|zE<|?_
   exact aa4 ⟨wa.set (i+n+2) ((wa.getD (i+n+2) 0+ca)%4294967296),qs.set i g',i⟩ ⟨by simpa using hal2,hao.set _ (dX _ (by decide)),by simpa using hql,hqo.set _ (by omega),by show i≤l;omega,hqz g',hinv2 g' _ hR1,by show dv _<_;rw[←hV];exact hR2⟩ (by show i<i+1;omega) (.cons rfl (.cons rfl (.cons rfl (.cons rfl (.cons rfl (.cons rfl (.cons rfl (.cons rfl .nil)))))))) rfl
  have hvk:=hvo.get k
  have hag:=hao.get (i+k)
  refine zK<|aak<|aat<|sR<|sm J J<|sy (abW hv J J (by omega) (by omega)) rfl<|?_
  rw[bZ]
  refine sy (abT hv rfl (by omega)) rfl<|sa J J<|sa J J<|zE<|aak<|?_
  refine aam<|sm J J<|sm J J<|sm J J<|sm J J<|sy (aar J J) rfl<|sy (abj J J (by omega) (by omega)) rfl<|?_
  rw[show((i:Int)+(k:Int)).toNat=i+k by omega]
  refine sy (afZ rfl (by omega)) rfl<|sy (aaK rfl) rfl<|sm J J<|sy (aaK rfl) rfl<|sy (aef J J) rfl<|sy (aef J J) rfl<|?_
  rw[show(ca:Int)+(((wa.getD (i+k) 0:Nat):Int)+((vs.getD k 0:Nat):Int))=((ca+(wa.getD (i+k) 0+vs.getD k 0):Nat):Int) from rfl]
  refine sa J J<|zE<|sR<|sm J J<|sm J J<|sm J J<|sy (aar J J) rfl<|sm J J<|sy (abh rfl) rfl<|sy (abj J J (by omega) (by omega)) rfl<|?_
  rw[show((i:Int)+(k:Int)).toNat=i+k by omega]
  refine sc (aa5 (d:=(ca+(wa.getD (i+k) 0+vs.getD k 0))%4294967296) J J (by rw[oQ];rfl) (.tl _ _ _ _ _ _ _ _ (.hd ..)) (by omega) rfl ?_)
  refine zE<|aam<|sm J J<|sy (adC J J (by decide)) rfl<|?_
  rw[aeM (ca+(wa.getD (i+k) 0+vs.getD k 0)) 32 (by decide) rfl]
  refine sa J J<|zE<|aam<|sy (aar J J) rfl<|sm J J<|zE<|?_
  refine aa4 ⟨wa.set (i+k) ((ca+(wa.getD (i+k) 0+vs.getD k 0))%4294967296),k+1,0,(ca+(wa.getD (i+k) 0+vs.getD k 0))/2^32⟩ ⟨by simpa using hal2,hao.set _ (dX _ (by decide)),by show k+1≤_;omega,by show(ca+(wa.getD (i+k) 0+vs.getD k 0))/4294967296≤1;omega,agF hao (dX _ (by decide)) haM (by omega),?_⟩ (by show n+2-(k+1)<n+2-k;omega) (.cons rfl (.cons rfl (.cons rfl (.cons rfl (.cons rfl (.cons rfl (.cons rfl (.cons rfl (.cons rfl (.cons rfl (.cons rfl (.cons rfl .nil)))))))))))) rfl
  show dv (wa.set (i+k) ((ca+(wa.getD (i+k) 0+vs.getD k 0))%4294967296))+((ca+(wa.getD (i+k) 0+vs.getD k 0))/4294967296)*4294967296^(i+k+1)=dv ws2+dv (vs.take (k+1))*4294967296^i
  rw[aaw,cS (dv (vs.take k)),ay6,show 4294967296^k*vs.getD k 0*4294967296^i=vs.getD k 0*4294967296^(i+k) by rw[eX,bL (4294967296^k),bM,bL (4294967296^k)]]
  exact aAO (afb wa (i+k) _ (by omega)) ha
 have hvk:=hvo.get k
 have hwg:=hwo.get (i+k)
 refine zK<|aak<|aat<|sR<|sm J J<|sy (abW hv J J (by omega) (by omega)) rfl<|?_
 rw[bZ]
 refine sy (abT hv rfl (by omega)) rfl<|sa J J<|sa J J<|zE<|aak<|?_
 have hgd:g*vs.getD k 0≤4294967295*4294967295:=iJ (by omega) (by omega)
 have e3:(g:Int)*((vs.getD k 0:Nat):Int)=((g*vs.getD k 0:Nat):Int):=rfl
 refine aam<|sm J J<|sm J J<|sm J J<|sy (aaK rfl) rfl<|sy (ape J J (by rw[e3];omega) (by rw[e3];omega)) rfl<|?_
 rw[e3]
 refine sy (aef J J) rfl<|?_
 rw[show(c:Int)+((g*vs.getD k 0:Nat):Int)=((c+g*vs.getD k 0:Nat):Int) from rfl]
 obtain⟨c1,hc1⟩: ∃c1,c1=c+g*vs.getD k 0:=⟨_,rfl⟩
 rw[←hc1]
 have hc1m:c1%4294967296<4294967296:=dX _ (by decide)
 refine sa J J<|zE<|sR<|sm J J<|sm J J<|sm J J<|sy (aar J J) rfl<|sy (abj J J (by omega) (by omega)) rfl<|?_
 rw[show((i:Int)+(k:Int)).toNat=i+k by omega]
 refine sy (afZ rfl (by omega)) rfl<|sy (aaK rfl) rfl<|sm J J<|sy (ab7 J J (av5 c1 (by omega))) rfl<|sy (af8 J J) rfl<|sm J J<|sy (af8 J J) rfl<|?_
 rw[sub2 _ _ _ hwg hc1m hbo]
 obtain⟨hx1,hx2,hx3⟩:=apv (ws.getD (i+k) 0) (c1%4294967296) bo hwg hc1m hbo
 generalize msx (ws.getD (i+k) 0) (c1%4294967296) bo=xx at hx1 hx2 hx3⊢
 refine sa J J<|?_
 refine zE<|sR<|sm J J<|sm J J<|sm J J<|sy (aar J J) rfl<|sm J J<|sy (abh rfl) rfl<|sy (abj J J (by omega) (by omega)) rfl<|?_
 rw[show((i:Int)+(k:Int)).toNat=i+k by omega]
 refine sc (aa5 (d:=xx%4294967296) J J (by rw[oQ];rfl) (.tl _ _ _ _ _ _ _ _ (.hd ..)) (by omega) rfl ?_)
 refine zE<|sR<|sm J J<|sy (adC J J (by decide)) rfl<|?_
 rw[aeM xx 63 (by decide) rfl]
 refine sa J J<|zE<|aam<|sm J J<|sy (adC J J (by decide)) rfl<|?_
 rw[aeM c1 32 (by decide) rfl]
 refine sa J J<|?_
 refine zE<|aam<|sy (aar J J) rfl<|sm J J<|zE<|?_
 refine aa4 ⟨ws.set (i+k) (xx%4294967296),k+1,xx/2^63,c1/2^32⟩ ⟨by simpa using hwl,hwo.set _ (dX _ (by decide)),by show k+1≤_;omega,hx2,by show c1/4294967296<_;omega,agF hwo (dX _ (by decide)) hwM (by omega),?_⟩ (by show n+2-(k+1)<n+2-k;omega) (.cons rfl (.cons rfl (.cons rfl (.cons rfl (.cons rfl (.cons rfl (.cons rfl (.cons rfl (.cons rfl (.cons rfl (.cons rfl (.cons rfl (.cons rfl (.cons rfl .nil)))))))))))))) rfl
 show dv (ws.set (i+k) (xx%4294967296))+g*(dv (vs.take (k+1))*4294967296^i)=dv us+(xx/9223372036854775808+c1/4294967296)*4294967296^(i+k+1)
 rw[aaw,cS (dv (vs.take k)),ay6,show 4294967296^k*vs.getD k 0*4294967296^i=vs.getD k 0*4294967296^(i+k) by rw[eX,bL (4294967296^k),bM,bL (4294967296^k)],dY,←bM g (vs.getD k 0)]
 exact aBf (afb ws (i+k) _ (by omega)) hw hc1 hx1
theorem ahU{A B G:Gh}{x y:SV}{a b:List Nat}{k1 k2:Nat}(hx:IsD A x a)(hy:IsD B y b)[GL A G][GL B G](hb0:0<dv b)
  (hq:dv a/dv b<2^k1)(hr:dv a%dv b<2^k2)(hl:a.length≤112589990684)(hl2:b.length≤112589990684):
  Fn prog 202 [x.v,y.v] G (fun v G'=> ∃z r:SV,v= .tuple #[z.v,r.v, .bool true]∧IsN k1 G' z (dv a/dv b)∧IsN k2 G' r (dv a%dv b)):=by
 have hla:=abp a
 have hlb:=abp b
 have hca:=fun G1 (_:GL A G1)=>aa1 (G:=G1) hx (by omega)
 have hcb:=fun G1 (_:GL B G1)=>aa1 (G:=G1) hy (by omega)
 have hxt:=hx.trim
 have hyt:=hy.trim
 have hna:=Nrm.trimD a
 have hnb:=Nrm.trimD b
 rw[←aa7 a,←aa7 b] at hq hr⊢
 rw[←aa7 b] at hb0
 generalize trimD a=a' at*
 generalize trimD b=b' at*
 refine Fn.intro func202 J J ntmps202 rfl ?_
 intro C _ _
 refine sR<|sa J J<|sa J J<|sa J J<|zE<|sR<|sm J J<|?_
 refine sc (zC J J (hca _ inferInstance) rfl ?_)
 rintro _ G1 _ rfl
 refine sm J J<|?_
 refine sc (zC J J (hcb _ inferInstance) rfl ?_)
 rintro _ G2 _ rfl
 refine sa J J<|sa J J<|zE<|aak<|aat<|sR<|sm J J<|adn J J<|sy (abZ J J) rfl<|sa J J<|zE<|?_
 refine aaD rfl (fun hc=>?_) (fun hc=>?_) -- slot 15
 ·exfalso
  have:b'=[]:=bR (by omega)
  rw[this] at hb0
  exact absurd hb0 (by simp[dv])
 refine sR<|sm J J<|sm J J<|?_
 refine sc (zC J J (avy hxt hyt (by omega) (by omega)) rfl ?_)
 rintro _ G3 _ rfl
 refine sy (acp J J) rfl<|sa J J<|zE<|?_
 refine aaD rfl (fun hc2=>?_) (fun hc2=>?_) -- slot 19
 ·have hlt:dv a'<dv b':=by
   unfold ahi at hc2
   split at hc2
   ·assumption
   ·split at hc2<;>omega
  refine sR<|sm J J<|?_
  refine sc (zC J J (amP hxt (by omega)) rfl ?_)
  rintro _ G4 _ ⟨z,rfl,hz⟩
  refine sa J J<|sa J J<|sa J J<|zE<|aaH<|?_
  refine zD (.tmp rfl (.tmp rfl (.tmp rfl .nil))) ⟨⟨none,0,0⟩,z,rfl,?_,?_⟩
  ·rw[jL hlt]
   exact⟨by unfold dg;exact .nil _,eK (by decide)⟩
  ·rw[fJ hlt] at hr⊢
   exact⟨by rw[arM hxt.ok hna];exact hz,hr⟩
 have hle:dv b'≤dv a':=by
  unfold ahi at hc2
  split at hc2
  ·omega
  ·omega
 refine sR<|sm J J<|adn J J<|sy (abZ J J) rfl<|sa J J<|zE<|?_
 refine aaD rfl (fun hc3=>?_) (fun hc3=>?_) -- slot 26
 ·have hb1:b'.length=1:=by omega
  obtain⟨d,rfl⟩:=List.length_eq_one_iff.1 hb1
  have hdv:dv [d]=d:=by simp[dv]
  have hdB:=hyt.ok.head
  rw[hdv] at hb0 hq hr⊢
  refine sR<|sm J J<|sm J J<|sy (abW (z:=⟨y.a,1,y.c⟩) hyt J J (by omega) (by show(0:Int)<((1:Nat):Int);omega)) rfl<|sy (abT (i:=0) hyt rfl (by simp)) rfl<|?_
  rw[show [d].getD 0 0=d from rfl]
  refine sc (zC J J (auT (x:=⟨x.a,a'.length,x.c⟩) hxt hb0 hdB hq (by omega)) rfl ?_)
  rintro _ G5 _ ⟨z,rfl,hz⟩
  have hmB:dv a'%d<4294967296:=pY (dX _ hb0) hdB
  refine sm J J<|sx J J J<|sx J J J<|sa J J<|sa J J<|zE<|sR<|sm J J<|sm J J<|sy (aaK rfl) rfl<|?_
  refine sc (zC J J (afv (by omega)) rfl ?_)
  rintro _ G6 _ ⟨r,rfl,hr6⟩
  refine sa J J<|sa J J<|sa J J<|zE<|aaH<|?_
  exact zD (.tmp rfl (.tmp rfl (.tmp rfl .nil))) ⟨z,r,rfl,hz.up,hr6.mono hr⟩
 have hb2:2≤b'.length:=by omega
 refine zK<|sR<|sm J J<|sm J J<|?_
 refine sc (zC J J (axX (x:=⟨x.a,a'.length,x.c⟩) (y:=⟨y.a,b'.length,y.c⟩) hxt hyt hna hnb hb2 hle hq hr (by omega)) rfl ?_)
 rintro _ G7 _ ⟨z,r,rfl,hz,hr7⟩
 refine sm J J<|sx J J J<|sx J J J<|sa J J<|sa J J<|zE<|sR<|sm J J<|sm J J<|sa J J<|sa J J<|sa J J<|zE<|?_
 refine aaH<|?_
 exact zD (.tmp rfl (.tmp rfl (.tmp rfl .nil))) ⟨z,r,rfl,hz,hr7⟩
theorem aa2{u k:Nat}(h:u<2^k):32*(dg u).length≤k+31:=atz (aaC u).2.2 (by rw[(aaC u).1];exact h)
theorem IsN.dvl{k:Nat}{G:Gh}{x:SV}{v:Nat}(_:IsN k G x v):dv (dg v)=v:=(aaC v).1
structure aEV where
 a:SV
 b:SV
 u:Nat
 v:Nat
theorem aAB{A B G:Gh}{x y:SV}{a b:List Nat}{k k0:Nat}(hx:IsD A x a)(hy:IsD B y b)[GL A G][GL B G](ha:dv a<2^k0)(hb:dv b<2^k0)(hk0:k0≤1099511627776)
  (hg0:Nat.gcd (dv a) (dv b)<2^k)(hl:a.length≤112589990684)(hl2:b.length≤112589990684):
  Fn prog 201 [x.v,y.v] G (fun v G'=> ∃z:SV,v=z.v∧IsN k G' z (Nat.gcd (dv a) (dv b))):=by
 refine Fn.intro func201 J J ntmps201 rfl ?_
 intro C _ _
 refine sR<|sa J J<|zE<|sR<|sm J J<|?_
 refine sc (zC J J (alO hx ha (by omega)) rfl ?_)
 rintro _ G1 _ ⟨x1,rfl,hx1⟩
 refine sm J J<|?_
 refine sc (zC J J (alO hy hb (by omega)) rfl ?_)
 rintro _ G2 _ ⟨y1,rfl,hy1⟩
 generalize dv a=ua at*
 generalize dv b=ub at*
 refine sa J J<|sa J J<|zE<|aak<|aat<|?_
 refine acg (X:=aEV) (fun q=>[(0, .slice q.a.a q.a.n q.a.c),(1, .slice q.b.a q.b.n q.b.c)]) (fun _=>[]) (fun q G=>IsN k0 G q.a q.u∧IsN k0 G q.b q.v∧Nat.gcd q.u q.v=Nat.gcd ua ub) (fun q=>q.v) ⟨x1,y1,ua,ub⟩
  ⟨hx1.up,hy1,rfl⟩ (.cons rfl (.cons rfl .nil)) rfl ?_
 rintro ⟨p,q,u,v⟩ Gx _ ⟨hp,hq,hgc⟩
 simp only[] at hp hq hgc⊢
 have hpl:=hp.len
 have hql:=hq.len
 have hpb:=aa2 hp.lt
 have hqb:=aa2 hq.lt
 refine aak<|sR<|sm J J<|adn J J<|sy (agL J J) rfl<|sm J J<|?_
 refine acb 19 rfl (fun hg=>?_) (fun hg=>?_)
 ·refine ss J J J J<|ss J J J J<|ss J J J J<|sy (adb J J) rfl<|zE<|ac8 rfl<|zK<|aat<|aak<|sR<|sm J J<|?_
  refine adn J J<|sy (abZ J J) rfl<|zE<|?_
  refine aaD rfl (fun hc1=>?_) (fun hc1=>?_) -- slot 26
  ·refine sR<|sm J J<|sa J J<|zE<|aaH<|?_
   have hv0:v=0:=by
    have:dg v=[]:=bR (by omega)
    have h2:=hq.dvl
    rw[this] at h2
    exact h2.symm
   have hue:u=Nat.gcd ua ub:=by rw[←hgc,hv0,mT]
   exact zD (.tmp rfl .nil) ⟨p,rfl,by rw[←hue] at hg0⊢;exact hp.mono hg0⟩
  have hv0:0<v:=iR fun h=>by
   have h1:dg v=[]:=by rw[h];unfold dg;rfl
   rw[h1] at hql
   simp only[gX] at hql
   omega
  have hm:=dX u hv0
  refine zK<|sR<|sm J J<|sm J J<|?_
  refine sc (zC J J (ahU (k1:=k0) (k2:=k0) hp.d hq.d (by rw[hq.dvl];exact hv0) (by rw[hp.dvl];exact eY (kK _ _) hp.lt) (by rw[hp.dvl,hq.dvl];exact pY hm hq.lt) (by omega) (by omega)) rfl ?_)
  rintro _ G3 _ ⟨z,r,rfl,hz,hr⟩
  rw[hp.dvl,hq.dvl] at hr
  refine sm J J<|sx J J J<|sx J J J<|sx J J J<|sa J J<|sa J J<|sa J J<|zE<|aam<|sm J J<|sm J J<|sa J J<|sa J J<|?_
  refine zE<|?_
  exact aa4 ⟨q,r,v,u%v⟩ ⟨hq.up,hr,by show Nat.gcd v (u%v)=_;rw[←hgc,iN u,sS v u,iN]⟩ hm (.cons rfl (.cons rfl .nil)) rfl
 refine syg J J (aaP rfl) rfl<|syg J J (aeZ rfl) rfl<|syg J J (agL J J) rfl<|sy (aby J J) rfl<|zE<|?_
 refine abx rfl (fun hc=>?_) (fun hc=>?_) -- slot 23
 ·have small: ∀{w:Nat},(dg w).length≤2→w<18446744073709551616:=fun{w} h=>by
   have h1:=aej (aaC w).2.1
   rw[(aaC w).1] at h1
   exact dW h1 (cW (bV (by decide) h) (by decide))
  have hu64:u<18446744073709551616:=small (by omega)
  have hv64:v<18446744073709551616:=small (by omega)
  refine abC<|abO<|abO<|aau<|sR<|sm J J<|?_
  refine sc (zC J J (ala hp.d (by omega)) rfl ?_)
  rintro _ G4 _ rfl
  rw[hp.dvl,if_pos hu64]
  refine sm J J<|sx J J J<|sx J J J<|sa J J<|sa J J<|zE<|sR<|sm J J<|?_
  refine sc (zC J J (ala hq.d (by omega)) rfl ?_)
  rintro _ G5 _ rfl
  rw[hq.dvl,if_pos hv64]
  refine sm J J<|sx J J J<|sx J J J<|sa J J<|sa J J<|zE<|aak<|aat<|?_
  refine acg (X:=Nat×Nat) (fun q=>[(8, .int .u64 (q.1:Nat)),(10, .int .u64 (q.2:Nat))]) (fun _=>[]) (fun q _=>q.1<18446744073709551616∧q.2<18446744073709551616∧Nat.gcd q.1 q.2=Nat.gcd ua ub) (fun q=>q.2) (u,v)
   ⟨hu64,hv64,hgc⟩ (.cons rfl (.cons rfl .nil)) rfl ?_
  rintro ⟨u1,v1⟩ Gy _ ⟨hu1,hv1,hgc1⟩
  simp only[] at hu1 hv1 hgc1⊢
  refine aak<|sR<|sm J J<|sy (ahW J J) rfl<|zE<|?_
  refine abx rfl (fun hc5=>?_) (fun hc5=>?_) -- slot 48
  ·refine abC<|abO<|abO<|aau<|sR<|sm J J<|?_
   refine sc (zC J J (afv hu1) rfl ?_)
   rintro _ G6 _ ⟨z,rfl,hz⟩
   refine sa J J<|zE<|aaH<|?_
   have hv0:v1=0:=by omega
   have hue:u1=Nat.gcd ua ub:=by rw[←hgc1,hv0,mT]
   exact zD (.tmp rfl .nil) ⟨z,rfl,by rw[←hue] at hg0⊢;exact hz.mono hg0⟩
  have hv0:0<v1:=by omega
  refine zK<|aat<|dr (fun _=>false) [(0,true),(1,true),(2,true),(3,true),(4,true),(5,true)] follows (by kernel_rfl)<|dM J J J<|dM J J J<|?_
  refine dM J J J<|dy rfl (fun _=>ahn J J (by omega) (by omega)) J J<|dA J J J<|dA J J J<|dn<|?_
  exact aa4 (v1,u1%v1) ⟨hv1,pY (dX _ hv0) hv1,by show Nat.gcd v1 (u1%v1)=_;rw[←hgc1,iN u1,sS v1 u1,iN]⟩ (by show u1%v1<v1;exact dX _ hv0) (.cons rfl (.cons rfl .nil)) rfl
 refine zK<|aat<|aak<|sR<|sm J J<|?_
 refine adn J J<|sy (abZ J J) rfl<|zE<|?_
 refine aaD rfl (fun hc1=>?_) (fun hc1=>?_) -- slot 26
 ·refine sR<|sm J J<|sa J J<|zE<|aaH<|?_
  have hv0:v=0:=by
   have:dg v=[]:=bR (by omega)
   have h2:=hq.dvl
   rw[this] at h2
   exact h2.symm
  have hue:u=Nat.gcd ua ub:=by rw[←hgc,hv0,mT]
  exact zD (.tmp rfl .nil) ⟨p,rfl,by rw[←hue] at hg0⊢;exact hp.mono hg0⟩
 have hv0:0<v:=iR fun h=>by
  have h1:dg v=[]:=by rw[h];unfold dg;rfl
  rw[h1] at hql
  simp only[gX] at hql
  omega
 have hm:=dX u hv0
 refine zK<|sR<|sm J J<|sm J J<|?_
 refine sc (zC J J (ahU (k1:=k0) (k2:=k0) hp.d hq.d (by rw[hq.dvl];exact hv0) (by rw[hp.dvl];exact eY (kK _ _) hp.lt) (by rw[hp.dvl,hq.dvl];exact pY hm hq.lt) (by omega) (by omega)) rfl ?_)
 rintro _ G3 _ ⟨z,r,rfl,hz,hr⟩
 rw[hp.dvl,hq.dvl] at hr
 refine sm J J<|sx J J J<|sx J J J<|sx J J J<|sa J J<|sa J J<|sa J J<|zE<|aam<|sm J J<|sm J J<|sa J J<|sa J J<|?_
 refine zE<|?_
 exact aa4 ⟨q,r,v,u%v⟩ ⟨hq.up,hr,by show Nat.gcd v (u%v)=_;rw[←hgc,iN u,sS v u,iN]⟩ hm (.cons rfl (.cons rfl .nil)) rfl
structure IV where
 neg:Bool
 a:SV
def IV.v(z:IV):Value:= .agg ⟨[.bool z.neg, .slice z.a.a z.a.n z.a.c]⟩
def zv(neg:Bool)(u:Nat):Int:=if neg then-(u:Int) else u
theorem afY(neg:Bool)(u:Nat):(zv neg u).natAbs=u:=by cases neg<;>simp[zv]
theorem aDn(neg:Bool)(u:Nat):zv (!neg) u= -zv neg u:=by cases neg<;>simp[zv]
theorem ayz(n m:Bool)(u w:Nat):zv (n !=m) (u*w)=zv n u*zv m w:=by cases n<;>cases m<;>simp[zv,Int.neg_mul,sQ]
theorem anF(neg:Bool)(u:Nat):decide (zv neg u<0)=(neg&&decide (0<u)):=by
 cases neg<;>simp[zv]
theorem adF(m:Int):zv (decide (m<0)) m.natAbs=m:=by
 unfold zv
 by_cases h:m<0<;>simp[h]<;>omega
structure IsI (k:Nat) (G:Gh) (z:IV) (m:Int):Prop where
 neg:z.neg=decide (m<0)
 abs:IsN k G z.a m.natAbs
theorem aoC(n:Bool)(u w:Nat):zv n (u+w)=zv n u+zv n w:=by cases n<;>simp[zv]<;>omega
theorem al2(p:Int):IntKind.i64.wrap p=(p+9223372036854775808)%18446744073709551616-9223372036854775808:=by
 have e:IntKind.i64.wrap p=if(true&&decide (p%2^64≥2^(64-1)))=true then p%2^64-2^64 else p%2^64:=rfl
 rw[e,show(2:Int)^64=18446744073709551616 by decide,show(2:Int)^(64-1)=9223372036854775808 by decide,Bool.true_and]
 by_cases h:p%18446744073709551616≥9223372036854775808
 ·rw[decide_eq_true h,if_pos rfl];omega
 ·rw[decide_eq_false h,if_neg (by decide)];omega
structure RV where
 n:Int
 d:Int
 p:Option Addr
def RV.v(z:RV):Value:= .agg ⟨[.int .i64 z.n, .int .i64 z.d, .pointer z.p]⟩
structure aCD (z:RV) (q:Rat):Prop where
 p:z.p=none
 n:z.n=q.num
 d:z.d=(q.den:Int)-1
 b1:q.num.natAbs<4611686018427387904
 b2:q.den<4611686018427387904
structure aIt (k:Nat) (G:Gh) (z:RV) (q:Rat):Prop where
 n:z.n=0
 d:z.d=0
 ex: ∃(b:Nat) (x:IV) (y:SV),z.p=some ⟨b,0,none⟩∧G b=some [.bool x.neg, .slice x.a.a x.a.n x.a.c, .slice y.a y.n y.c]∧IsI k G x q.num∧IsN k G y q.den
 no: ¬(q.num.natAbs<4611686018427387904∧q.den<4611686018427387904)
def IsR(k:Nat)(G:Gh)(z:RV)(q:Rat):Prop:=q.num.natAbs<2^k∧q.den<2^k∧(aCD z q∨aIt k G z q)
theorem aC2{neg:Bool}{u g:Nat}(h:g∣u):zv neg (u/g)=zv neg u/(g:Int):=by
 cases neg
 ·simp[zv]
 ·simp only[zv,if_true]
  rw[Int.neg_ediv_of_dvd (qT.2 h),pT]
theorem ate{m:Int}{e:Nat}(he:0<e):(mkRat m e).num=m/((Nat.gcd m.natAbs e:Nat):Int)∧(mkRat m e).den=e/Nat.gcd m.natAbs e:=by
 rw[Rat.num_mkRat,Rat.den_mkRat,if_neg (by omega),if_neg (by omega),iN]
 exact⟨rfl,rfl⟩
theorem az8{x:Nat}:(((bl x:Nat):Int)≤62)↔x<4611686018427387904:=by
 have:bl x≤62↔x<2^62:=aht
 omega
structure aGq where
 x:SV
 y:SV
 ds:List Nat
 es:List Nat

end Go.Sx
end
