/- Part 3 of a proof. -/
import Derived.Test.YtfccecinjmbfhaaGreatDoorMb2
import Derived.Scope
set_option linter.unusedSimpArgs false
set_option maxHeartbeats 1000000
set_option maxRecDepth 100000
set_option linter.unusedVariables false
section
namespace Go.Sx
open Go Go.Proofs Tryz
/-! ### the number of binary digits -/
def bl(x:Nat):Nat:=if x=0 then 0 else Nat.log2 x+1
theorem avJ(x:Nat):x<2^bl x:=by
 unfold bl
 split
 ·rename_i h;subst h;decide
 ·exact Nat.lt_log2_self
theorem ahq{x k:Nat}:bl x≤k↔x<2^k:=by
 constructor
 ·intro h;exact cM (avJ x) (bK (by omega) h)
 ·intro h
  unfold bl
  split
  ·omega
  ·rename_i h0
   have:=(Nat.log2_lt h0).2 h
   omega
theorem ayZ{x:Nat}(h:x≠0):bl x=1+bl (x/2):=by
 have h1: ∀k,bl x≤k+1↔bl (x/2)≤k:=fun k=>by
  rw[ahq,ahq,dV];omega
 have h2:bl x≠0:=fun e=>by
  have:=avJ x;rw[e] at this;simp at this;exact h this
 have h3:=(h1 (bl (x/2))).2 (aL _)
 have h4:=(h1 (bl x-1)).1 (by omega)
 omega
theorem ahD: ∀(f x:Nat),x<2^f→Lib.bitLenAux f x=bl x
 |0,x,h=>by
  have:x=0:=by simpa using h
  subst this;rfl
 |f+1,x,h=>by
  unfold Lib.bitLenAux
  split
  ·rename_i h0;subst h0;rfl
  ·rename_i h0
   rw[ahD f (x/2) (by rw[dV] at h;omega),ayZ h0]
theorem asE{x:Nat}(h:x<2^64):Lib.bitLen x=bl x:=ahD 64 x h
theorem avw{x k:Nat}(d:Nat)(h:x<2^k)(hd:d≠0):bl (x+2^k*d)=k+bl d:=by
 have h1: ∀j,bl (x+2^k*d)≤k+j↔bl d≤j:=fun j=>by
  rw[ahq,ahq,eK]
  constructor
  ·intro h'
   exact Nat.lt_of_mul_lt_mul_left (a:=2^k) (by omega)
  ·intro h'
   have:2^k*(d+1)≤2^k*2^j:=dY _ h'
   rw[dQ] at this
   omega
 have h2:k<bl (x+2^k*d):=by
  rcases gN k (bl (x+2^k*d)) with h'|h'
  ·exact h'
  ·have:=ahq.1 h'
   have h3:2^k*1≤2^k*d:=dY _ (by omega)
   omega
 have h3:=(h1 (bl d)).2 (aL _)
 have h4:=(h1 (bl (x+2^k*d)-k)).1 (by omega)
 omega
theorem aES{ds:List Nat}(h:DOk ds)(hn:Nrm ds)(hne:ds≠[]):bl (dv ds)=32*(ds.length-1)+bl (ds.getD (ds.length-1) 0):=by
 rcases qV ds with rfl|⟨l,d,rfl⟩
 ·exact absurd rfl hne
 ·rw[qW] at*
  have hd:d≠0:=fun e=>by subst e;simp[Nrm] at hn
  have hl:DOk l:=fun x hx=>h x (cX _ hx)
  have h1:=aee hl
  rw[ad5]
  have h2:(4294967296:Nat)^l.length=2^(32*l.length):=by rw[oY]
  rw[h2] at h1⊢
  have h3:dv [d]=d:=by simp[dv]
  rw[h3,avw d h1 hd]
  have h4:(l++[d]).length-1=l.length:=by simp
  rw[h4,aX,iS (aL _)]
  simp
theorem ait{P:Program}{f:FuncId}{fn:Func}{c:Code}(h:P.funcs[f]? =some fn)(hb:fn.body=some c)(hn:(fn.name== "runtime.NumGoroutine")=false):adN P f:=⟨fn,h,hn,by rw[hb];rfl⟩
theorem aiK{G:Gh}{x:Nat}(hx:x<4294967296):Fn prog 253 [.int .u32 (x:Int)] G (fun v _=>v= .int .i64 (32-(bl x:Int))):=by
 have h:=Fn.of_calls (G:=G) (ait func253 J J) (fun w=>Tryz.bits_LeadingZeros32 (x:Int) w (by omega) (by omega))
 rw[bZ,asE (oT hx (by decide))] at h
 exact h
/-! ### FromUint, Uint, Bits -/
theorem afc{G:Gh}{u:Nat}(hu:u<18446744073709551616):Fn prog 203 [.int .u64 (u:Int)] G (fun v G'=> ∃z:SV,v=z.v∧IsN 64 G' z u):=by
 refine Fn.intro func203 J J ntmps203 rfl ?_
 intro C _ _
 refine sR<|sa J J<|zE<|sR<|sm J J<|sy (abf rfl) rfl<|sm J J<|?_
 refine sy (ads J J (by decide)) rfl<|sy (abf rfl) rfl<|?_
 refine sc (ak2 (by rfl) (by rfl) (by rfl) (by rfl) rfl ?_)
 intro b1
 refine acb b1 (.hd ..) (fun G1 _ hgb=>?_)
 have h1:((u:Int)%4294967296)=((u%4294967296:Nat):Int):=by omega
 have h2:((u:Int).fdiv (2^min (32:Int).toNat IntKind.u64.bits)%4294967296)=((u/4294967296:Nat):Int):=by
  have:(2^min (32:Int).toNat IntKind.u64.bits:Int)=4294967296:=by decide
  rw[this,fT _ (by omega)]
  omega
 have hok:DOk [u%4294967296,u/4294967296]:= .cons (by omega) (.cons (by omega) .nil)
 have hd:IsD G1 ⟨some ⟨b1,0,none⟩,2,2⟩ [u%4294967296,u/4294967296]:= .of_block hok hgb.h rfl (aL _) (by rw[h1,h2];rfl)
 have hv:dv [u%4294967296,u/4294967296]=u:=by simp only[dv];omega
 refine sc (zC J J (aa0 hd (by simp)) rfl ?_)
 rintro _ G2 _ rfl
 refine sa J J<|zE<|aaK<|?_
 refine zD (.tmp rfl .nil) ⟨⟨some ⟨b1,0,none⟩,(trimD [u%4294967296,u/4294967296]).length,2⟩,rfl,?_⟩
 have:=hd.trim.up (G:=G2)
 rw[←ada hok,hv] at this
 exact⟨by rw[←ada hok,hv];exact this,cM hu (by decide)⟩
theorem axC{P:Program}{t:TypeId}(a b k:Nat)(ha:a<2^k)(h:a+b*2^k<18446744073709551616)(w:World):(binOp .or t (.int .u64 (a:Int)) (.int .u64 ((b*2^k:Nat):Int))).run P w= .ok (.int .u64 ((a+b*2^k:Nat):Int)) w:=by
 have h1:(BitVec.ofInt 64 (a:Int) ||| BitVec.ofInt 64 ((b*2^k:Nat):Int)).toNat=a+b*2^k:=by
  rw[BitVec.toNat_or,BitVec.ofInt_natCast,BitVec.ofInt_natCast,BitVec.toNat_ofNat,BitVec.toNat_ofNat,fK (by omega),fK (by omega)]
  rw[←kY,Nat.or_comm,←kL ha,kY]
  omega
 have h2:IntKind.u64.wrap ((a+b*2^k:Nat):Int)=((a+b*2^k:Nat):Int):=by rw[abQ];omega
 simp only[binOp]
 show(Op.intBits .or .u64 (a:Int) ((b*2^k:Nat):Int)).run P w=_
 unfold Op.intBits
 show(pure (Value.int .u64 (IntKind.u64.wrap ((BitVec.ofInt 64 (a:Int) ||| BitVec.ofInt 64 ((b*2^k:Nat):Int)).toNat:Int))):Sem Value).run P w=_
 rw[h1,h2,aap]
theorem alA{A G:Gh}{x:SV}{ds:List Nat}(hx:IsD A x ds)[GL A G](hb:ds.length≤1125899906842624):Fn prog 209 [x.v] G (fun v _=>v= .tuple #[.int .u64 ((if dv ds<18446744073709551616 then dv ds else 0:Nat):Int), .bool (decide (dv ds<18446744073709551616))]):=by
 have htl:=abj ds
 have hdv:=aa7 ds
 have hok:=hx.ok.trimD
 have hnr:=Nrm.trimD ds
 have hxt:=hx.trim
 have hcall:=fun G1 (_:GL A G1)=>aa0 (G:=G1) hx (by omega)
 generalize trimD ds=es at*
 have hlen:=hxt.len
 rw[←hdv]
 have hbig:(if dv es<18446744073709551616 then dv es else 0)=if es.length≤2 then dv es else 0:=by
  by_cases h2:es.length≤2
  ·have h3:=aee hok
   have h4:(4294967296:Nat)^es.length≤4294967296^2:=bK (by omega) h2
   rw[if_pos h2,if_pos (by omega)]
  ·have h3:=afO hnr (fun e=>by subst e;simp at h2)
   have h4:(4294967296:Nat)^2≤4294967296^(es.length-1):=bK (by omega) (by omega)
   rw[if_neg h2,if_neg (by omega)]
 have hbig2:decide (dv es<18446744073709551616)=decide (es.length≤2):=by
  rw[decide_eq_decide]
  by_cases h2:es.length≤2
  ·have h3:=aee hok
   have h4:(4294967296:Nat)^es.length≤4294967296^2:=bK (by omega) h2
   exact⟨fun _=>h2,fun _=>by omega⟩
  ·have h3:=afO hnr (fun e=>by subst e;simp at h2)
   have h4:(4294967296:Nat)^2≤4294967296^(es.length-1):=bK (by omega) (by omega)
   exact⟨fun _=>by omega,fun h=>absurd h h2⟩
 rw[hbig,hbig2]
 refine Fn.intro func209 J J ntmps209 rfl ?_
 intro C _ _
 refine sR<|sa J J<|sa J J<|zE<|sR<|sm J J<|?_
 refine sc (zC J J (hcall _ inferInstance) rfl ?_)
 rintro _ G1 _ rfl
 refine sa J J<|zE<|aaj<|sR<|sm J J<|ac9 J J<|sy (agE J J) rfl<|zE<|?_
 refine aaG rfl (fun hc=>?_) (fun hc=>?_) -- slot 11
 ·refine sR<|sa J J<|sa J J<|zE<|aaK<|?_
  refine zD (.tmp rfl (.tmp rfl .nil)) ?_
  have: ¬es.length≤2:=by omega
  simp[abP,this]
 have h2:es.length≤2:=by omega
 refine zK<|sR<|sa J J<|zE<|aaj<|sR<|sm J J<|ac9 J J<|sm J J<|zE<|aat<|?_
 refine ab8 (X:=Nat) (fun k=>[(14, .int .i64 k),(13, .int .i64 es.length),(12, .slice x.a es.length x.c),(4, .int .u64 ((dv (es.take k):Nat):Int))]) (fun _=>[]) (fun k _=>k≤es.length) (fun k=>es.length-k) 0 (aR _) (.cons rfl (.cons rfl (.cons rfl (.cons rfl .nil)))) rfl ?_
 rintro k Gx _ hk
 refine sR<|sy (ach J J) rfl<|zE<|aaj<|?_
 refine abv rfl (fun hc=>?_) (fun hc=>?_) -- slot 15
 ·refine aby<|abK<|abK<|aas<|sR<|sm J J<|sa J J<|sa J J<|zE<|aaK<|?_
  refine zD (.tmp rfl (.tmp rfl .nil)) ?_
  have hk':k=es.length:=by omega
  subst hk'
  simp[abP,h2]
 have hk':k<es.length:=by omega
 have hdk:=hok.get k
 have hdt:=aee (hok.take k)
 rw[cK,gT (by omega)] at hdt
 have hds:=aax es k
 have hd2:=aee (hok.take (k+1))
 rw[cK,gT (by omega)] at hd2
 have hp2:(4294967296:Nat)^(k+1)≤4294967296^2:=bK (by omega) (by omega)
 have hpk:(4294967296:Nat)^k=2^(32*k):=by rw[oY]
 refine zK<|aaj<|aat<|sR<|sm J J<|sy (abR (z:=⟨x.a,es.length,x.c⟩) hxt J J (by omega) (by show(k:Int)<(es.length:Nat);omega)) rfl<|sy (abS hxt rfl (by omega)) rfl<|sa J J<|sa J J<|zE<|aal<|?_
 refine sm J J<|sm J J<|sy (aaL rfl (by omega) (by rw[bZ];omega)) rfl<|sm J J<|sy (aqa J J (by omega) (by omega)) rfl<|?_
 have hsh:IntKind.u64.wrap (((es.getD (k:Int).toNat 0:Nat):Int)*2^min ((32:Int)*(k:Int)).toNat IntKind.u64.bits)=((es.getD k 0*2^(32*k):Nat):Int):=by
  have e1:((32:Int)*(k:Int)).toNat=32*k:=by omega
  rw[e1,bZ,gT (by show 32*k≤64;omega),abQ]
  have e2:((es.getD k 0:Nat):Int)*2^(32*k)=((es.getD k 0*2^(32*k):Nat):Int):=by push_cast;rfl
  rw[e2]
  have e3:es.getD k 0*2^(32*k)<18446744073709551616:=by rw[←hpk,bT];omega
  omega
 refine sy (aiD J J (by omega)) rfl<|?_
 rw[hsh]
 refine sy (abX J J (axC (dv (es.take k)) (es.getD k 0) (32*k) (by rw[←hpk];exact hdt) (by rw[←hpk,bT];omega))) rfl<|sa J J<|zE<|aal<|sy (aar J J) rfl<|sm J J<|zE<|?_
 refine aa3 (k+1) (by omega) (by omega) (.cons rfl (.cons rfl (.cons rfl (.cons ?_ .nil)))) rfl
 rw[hds,hpk,bT (2^(32*k))]
 rfl
theorem auS{A G:Gh}{x:SV}{ds:List Nat}(hx:IsD A x ds)[GL A G](hb:ds.length≤1125899906842624):Fn prog 204 [x.v] G (fun v _=>v= .int .i64 ((bl (dv ds):Nat):Int)):=by
 have htl:=abj ds
 have hdv:=aa7 ds
 have hok:=hx.ok.trimD
 have hnr:=Nrm.trimD ds
 have hxt:=hx.trim
 have hcall:=fun G1 (_:GL A G1)=>aa0 (G:=G1) hx (by omega)
 generalize trimD ds=es at*
 have hlen:=hxt.len
 rw[←hdv]
 refine Fn.intro func204 J J ntmps204 rfl ?_
 intro C _ _
 refine sR<|sa J J<|zE<|sR<|sm J J<|?_
 refine sc (zC J J (hcall _ inferInstance) rfl ?_)
 rintro _ G1 _ rfl
 refine sa J J<|zE<|aaj<|sR<|sm J J<|ac9 J J<|sy (abV J J) rfl<|zE<|?_
 refine aaG rfl (fun hc=>?_) (fun hc=>?_) -- slot 7
 ·refine sR<|sa J J<|zE<|aaK<|?_
  refine zD (.tmp rfl .nil) ?_
  have:es=[]:=bY (by omega)
  subst this
  rfl
 have hne:0<es.length:=by omega
 have hkt:((es.length:Int)-1).toNat=es.length-1:=by omega
 have hg:=hok.get (es.length-1)
 have hbl:bl (es.getD (es.length-1) 0)≤32:=ahq.2 (by omega)
 refine zK<|sR<|sm J J<|ac9 J J<|sy (aqa J J (by omega) (by omega)) rfl<|sm J J<|sm J J<|ac9 J J<|sy (aa8 J J) rfl<|?_
 refine sy (abR (z:=⟨x.a,es.length,x.c⟩) hxt J J (by omega) (by show _<((es.length:Nat):Int);omega)) rfl<|sy (abS hxt rfl (by omega)) rfl<|?_
 rw[hkt]
 refine sc (zC J J (aiK hg) rfl ?_)
 rintro _ G2 _ rfl
 refine sy (aa8 J J) rfl<|sa J J<|zE<|aaK<|?_
 refine zD (.tmp rfl .nil) ?_
 rw[aES hok hnr (fun e=>by subst e;simp at hne)]
 simp only[abP,Value.int.injEq,true_and]
 omega
def aho(a b:Nat):Int:=if a<b then-1 else if a=b then 0 else 1
theorem ase{A B G:Gh}{x y:SV}{ds es:List Nat}(hx:IsD A x ds)(hy:IsD B y es)[GL A G][GL B G](hb:ds.length≤1125899906842624)(hb2:es.length≤1125899906842624):
  Fn prog 257 [x.v,y.v] G (fun v _=>v= .int .i64 (aho (dv ds) (dv es))):=by
 have htl:=abj ds
 have htl2:=abj es
 have hcall:=fun G1 (_:GL A G1)=>aa0 (G:=G1) hx (by omega)
 have hcall2:=fun G1 (_:GL B G1)=>aa0 (G:=G1) hy (by omega)
 have hxt:=hx.trim
 have hyt:=hy.trim
 have hok:=hx.ok.trimD
 have hok2:=hy.ok.trimD
 have hnr:=Nrm.trimD ds
 have hnr2:=Nrm.trimD es
 rw[←aa7 ds,←aa7 es]
 generalize trimD ds=a at*
 generalize trimD es=b at*
 refine Fn.intro func257 J J ntmps257 rfl ?_
 intro C _ _
 refine sR<|sa J J<|zE<|sR<|sm J J<|?_
 refine sc (zC J J (hcall _ inferInstance) rfl ?_)
 rintro _ G1 _ rfl
 refine sm J J<|?_
 refine sc (zC J J (hcall2 _ inferInstance) rfl ?_)
 rintro _ G2 _ rfl
 refine sa J J<|sa J J<|zE<|aaj<|sR<|sm J J<|ac9 J J<|sm J J<|ac9 J J<|sy (ahI J J) rfl<|zE<|?_
 refine aaG rfl (fun hc=>?_) (fun hc=>?_) -- slot 14
 ·refine aaj<|sR<|sm J J<|ac9 J J<|sm J J<|ac9 J J<|sy (ach J J) rfl<|zE<|?_
  refine aaG rfl (fun hc2=>?_) (fun hc2=>?_) -- slot 19
  ·refine sR<|sa J J<|zE<|aaK<|?_
   refine zD (.tmp rfl .nil) ?_
   have:=acv hok hnr2 (by omega)
   simp[abP,aho,this]
  refine zK<|sR<|sa J J<|zE<|aaK<|?_
  refine zD (.tmp rfl .nil) ?_
  have:=acv hok2 hnr (by omega)
  have h1: ¬dv a<dv b:=by omega
  have h2: ¬dv a=dv b:=by omega
  simp[abP,aho,h1,h2]
 have hl:a.length=b.length:=by omega
 refine zK<|aaj<|sR<|sm J J<|ac9 J J<|sy (aa8 J J) rfl<|sa J J<|zE<|aat<|?_
 refine ab8 (X:=Nat) (fun k=>[(5, .int .i64 (k-1)),(0, .slice x.a a.length x.c),(1, .slice y.a b.length y.c)]) (fun _=>[]) (fun k _=>k≤a.length∧a.drop k=b.drop k) (fun k=>k) a.length ⟨aL _,by rw[dS,hl,dS]⟩ (.cons rfl (.cons rfl (.cons rfl .nil))) rfl ?_
 rintro k Gx _ ⟨hk,hd⟩
 refine aaj<|sR<|sm J J<|sy (ahE J J) rfl<|zE<|?_
 refine abv rfl (fun hc=>?_) (fun hc=>?_) -- slot 24
 ·refine aby<|abK<|abK<|aas<|sR<|sa J J<|zE<|aaK<|?_
  refine zD (.tmp rfl .nil) ?_
  have:k=0:=by omega
  subst this
  have hab:a=b:=by simpa using hd
  subst hab
  simp[abP,aho]
 have hk1:0<k:=by omega
 have hkt:((k:Int)-1).toNat=k-1:=by omega
 have hga:=hok.get (k-1)
 have hgb:=hok2.get (k-1)
 have hk2:k-1+1=k:=by omega
 refine zK<|aaj<|aat<|aat<|aaj<|dr (fun _=>false) [(0,true),(1,true),(2,true),(3,true),(4,true),(5,true),(6,true),(7,true),(8,true),(9,true)] follows (by kernel_rfl)<|?_
 refine dM J J J<|dM J J J<|dy rfl (fun _=>abR (z:=⟨x.a,a.length,x.c⟩) hxt J J (by omega) (by show _<((a.length:Nat):Int);omega)) J J<|dy rfl (fun _=>abS hxt rfl (by omega)) J J<|?_
 refine dM J J J<|dM J J J<|dy rfl (fun _=>abR (z:=⟨y.a,b.length,y.c⟩) hyt J J (by omega) (by show _<((b.length:Nat):Int);omega)) J J<|dy rfl (fun _=>abS hyt rfl (by omega)) J J<|?_
 refine dy rfl (fun _=>ach J J) J J<|dA J J J<|dn<|?_
 refine aaG rfl (fun hc2=>?_) (fun hc2=>?_) -- slot 27
 ·refine sR<|sa J J<|zE<|aaK<|?_
  refine zD (.tmp rfl .nil) ?_
  rw[hkt] at hc2
  have:=aqi hok hok2 (k-1) (by omega) (by omega) hl (by rw[hk2];exact hd) (by omega)
  simp[abP,aho,this]
 refine aaj<|dr (fun _=>false) [(0,true),(1,true),(2,true),(3,true),(4,true),(5,true),(6,true),(7,true),(8,true),(9,true)] follows (by kernel_rfl)<|dM J J J<|?_
 refine dM J J J<|dy rfl (fun _=>abR (z:=⟨x.a,a.length,x.c⟩) hxt J J (by omega) (by show _<((a.length:Nat):Int);omega)) J J<|dy rfl (fun _=>abS hxt rfl (by omega)) J J<|dM J J J<|?_
 refine dM J J J<|dy rfl (fun _=>abR (z:=⟨y.a,b.length,y.c⟩) hyt J J (by omega) (by show _<((b.length:Nat):Int);omega)) J J<|dy rfl (fun _=>abS hyt rfl (by omega)) J J<|dy rfl (fun _=>agE J J) J J<|?_
 refine dA J J J<|dn<|?_
 rw[hkt] at*
 refine aaG rfl (fun hc3=>?_) (fun hc3=>?_) -- slot 37
 ·refine sR<|sa J J<|zE<|aaK<|?_
  refine zD (.tmp rfl .nil) ?_
  have:=aqi hok2 hok (k-1) (by omega) (by omega) hl.symm (by rw[hk2];exact hd.symm) (by omega)
  have h1: ¬dv a<dv b:=by omega
  have h2: ¬dv a=dv b:=by omega
  simp[abP,aho,h1,h2]
 refine zK<|aal<|sm J J<|sy (aa8 J J) rfl<|sa J J<|zE<|?_
 refine aa3 (k-1) ⟨by omega,?_⟩ (by omega) (.cons (by rw[show((k-1:Nat):Int)=(k:Int)-1 by omega];rfl) (.cons rfl (.cons rfl .nil))) rfl
 have heq:a.getD (k-1) 0=b.getD (k-1) 0:=by omega
 rw[aX,aX,aQ (by omega),aQ (by omega)] at heq
 rw[bQ (by omega:k-1<a.length),bQ (by omega:k-1<b.length),hk2,hd]
 congr 1
theorem ak4{ds:List Nat}{k:Nat}(h:ds.length≤k):ds.getD k 0=0:=by
 rw[aX,dX h];rfl
theorem alO(n k:Nat):(List.replicate n 0).getD k 0=0:=by
 rw[aX]
 by_cases h:k<n
 ·simp[h]
 ·rw[dX (by simpa using h)];rfl
theorem aBn{a b c:Nat}(ha:a<4294967296)(hb:b<4294967296)(hc:c≤1):(c+a+b)/4294967296≤1:=by omega
structure aCj where
 ws:List Nat
 k:Nat
 c:Nat
theorem ayC{A B G:Gh}{x y:SV}{ds es:List Nat}{kk:Nat}(hx:IsD A x ds)(hy:IsD B y es)[GL A G][GL B G](hk:dv ds+dv es<2^kk)(hb:ds.length≤1125899906842)(hb2:es.length≤1125899906842):
  Fn prog 216 [x.v,y.v] G (fun v G'=> ∃z:SV,v=z.v∧IsN kk G' z (dv ds+dv es)):=by
 have hlen:=hx.len
 have hlen2:=hy.len
 refine Fn.intro func216 J J ntmps216 rfl ?_
 intro C _ _
 refine sR<|sa J J<|zE<|?_
 refine amB ((SV×List Nat)×(SV×List Nat)) (fun q=>[(0, .slice q.1.1.a q.1.1.n q.1.1.c),(1, .slice q.2.1.a q.2.1.n q.2.1.c)]) (fun _=>[])
  (fun q G=>IsD G q.1.1 q.1.2∧IsD G q.2.1 q.2.2∧dv q.1.2+dv q.2.2=dv ds+dv es∧q.2.2.length≤q.1.2.length∧q.1.2.length≤1125899906842) ?_ ?_
 ·refine sR<|sm J J<|ac9 J J<|sm J J<|ac9 J J<|sy (ach J J) rfl<|zE<|?_
  refine aaG rfl (fun hc=>?_) (fun hc=>?_) -- slot 13
  ·refine aal<|sm J J<|sm J J<|sa J J<|sa J J<|zE<|?_
   exact aiN ((y,es),(x,ds)) ⟨hy.up,hx.up,by simp;omega,by simp;omega,by simp;omega⟩ (.cons rfl (.cons rfl .nil)) rfl
  refine zK<|?_
  exact aiN ((x,ds),(y,es)) ⟨hx.up,hy.up,rfl,by simp;omega,by simp;omega⟩ (.cons rfl (.cons rfl .nil)) rfl
 rintro ⟨⟨x,a⟩,⟨y,b⟩⟩ Gx _ ⟨hx,hy,hsum,hle,hba⟩
 rw[←hsum] at hk⊢
 clear hlen hlen2 hsum
 have hlen:=hx.len
 have hlen2:=hy.len
 simp only[] at hx hy hle hba hlen hlen2 hk⊢
 refine sR<|sm J J<|ac9 J J<|sy (aar J J) rfl<|?_
 refine sc (aes J J (by omega) (by omega) (by omega) (by rfl) rfl ?_)
 intro b1
 rw[adK,show((x.n:Int)+1).toNat=a.length+1 by omega]
 refine sa J J<|zE<|sR<|sa J J<|zE<|aaj<|sR<|sm J J<|ac9 J J<|sm J J<|zE<|aat<|?_
 refine ab8 (X:=aCj) (fun q=>[(22, .int .i64 q.k),(21, .int .i64 x.n),(20, .slice x.a x.n x.c),(6, .int .u64 q.c),(0, .slice x.a x.n x.c),(1, .slice y.a y.n y.c),(5, .slice (some ⟨b1,0,none⟩) (a.length+1) (a.length+1))])
  (fun q=>[⟨b1,q.ws.map dI,256,true⟩])
  (fun q _=>q.k≤a.length∧q.ws.length=a.length+1∧DOk q.ws∧q.c≤1∧dv (q.ws.take q.k)+4294967296^q.k*q.c=dv (a.take q.k)+dv (b.take q.k)) (fun q=>a.length-q.k) ⟨List.replicate (a.length+1) 0,0,0⟩
  ⟨aR _,by simp, .replicate _,aR _,by simp[dv]⟩ (.cons rfl (.cons rfl (.cons rfl (.cons rfl (.cons rfl (.cons rfl (.cons rfl .nil))))))) rfl ?_
 rintro ⟨ws,k,c⟩ Gy _ ⟨hka,hwl,hwo,hc1,hinv⟩
 simp only[] at hka hwl hwo hc1 hinv⊢
 refine sR<|sy (ach J J) rfl<|zE<|aaj<|?_
 refine abv rfl (fun hc=>?_) (fun hc=>?_) -- slot 23
 ·have hkn:k=a.length:=by omega
  refine aby<|abK<|abK<|aas<|sR<|sm J J<|sm J J<|ac9 J J<|sm J J<|sy (abf rfl) rfl<|?_
  refine sy (abh J J (by omega) (by omega)) rfl<|?_
  refine sc (aa6 (d:=c) J J (by omega) (.hd ..) (by omega) rfl ?_)
  rw[show(x.n:Int).toNat=a.length by omega]
  refine zE<|sR<|sm J J<|?_
  refine acb b1 (.hd ..) (fun G1 _ hgb=>?_)
  have hwo2:DOk (ws.set a.length c):=hwo.set _ (by omega)
  have hD:IsD G1 ⟨some ⟨b1,0,none⟩,a.length+1,a.length+1⟩ (ws.set a.length c):= .of_block hwo2 hgb.h (by simp[hwl]) (aL _) (by rw[aV (by simp)])
  have hdv:dv (ws.set a.length c)=dv a+dv b:=by
   have h1:=abd (ws:=ws) (k:=a.length) (d:=c) (by omega)
   rw[aV (by simp;omega)] at h1
   rw[h1,←hkn,hinv,hkn,aV (aL _),aV hle]
  refine sc (zC J J (aa0 hD (by simp;omega)) rfl ?_)
  rintro _ G2 _ rfl
  refine sa J J<|zE<|aaK<|?_
  refine zD (.tmp rfl .nil) ⟨⟨some ⟨b1,0,none⟩,(trimD (ws.set a.length c)).length,a.length+1⟩,rfl,?_⟩
  have h3:=hD.trim.up (G:=G2)
  rw[←hdv] at hk⊢
  exact⟨by rw[ada hwo2];exact h3,hk⟩
 have hka':k<a.length:=by omega
 have hga:=hx.ok.get k
 have hgb:=hy.ok.get k
 refine zK<|aaj<|aat<|sR<|sm J J<|sy (abR hx J J (by omega) (by omega)) rfl<|sy (abS hx rfl (by omega)) rfl<|sa J J<|sa J J<|zE<|aaj<|?_
 refine aal<|sm J J<|sm J J<|sy (aaL rfl (by omega) (by rw[bZ];omega)) rfl<|sy (adZ J J (by omega) (by rw[bZ];omega)) rfl<|sa J J<|zE<|?_
 rw[bZ]
 refine amB Unit (fun _=>[(22, .int .i64 k),(7, .int .i64 k),(21, .int .i64 x.n),(20, .slice x.a x.n x.c),(6, .int .u64 ((c+a.getD k 0+b.getD k 0:Nat):Int)),(0, .slice x.a x.n x.c),(1, .slice y.a y.n y.c),(5, .slice (some ⟨b1,0,none⟩) (a.length+1) (a.length+1))]) (fun _=>[⟨b1,ws.map dI,256,true⟩]) (fun _ _=>True) ?_ ?_
 ·refine sR<|sm J J<|sm J J<|ac9 J J<|sy (ach J J) rfl<|zE<|?_
  refine aaG rfl (fun hc2=>?_) (fun hc2=>?_) -- slot 34
  ·refine aal<|sm J J<|sm J J<|sm J J<|sy (abR hy J J (by omega) (by omega)) rfl<|sy (abS hy rfl (by omega)) rfl<|sy (aaL rfl (by omega) (by rw[bZ];omega)) rfl<|?_
   rw[bZ]
   refine sy (adZ J J) rfl<|sa J J<|zE<|?_
   exact aiN () trivial (.cons rfl (.cons rfl (.cons rfl (.cons rfl (.cons (by rw[rX,rX];rfl) (.cons rfl (.cons rfl (.cons rfl .nil)))))))) rfl
  refine zK<|?_
  have h0:b.getD k 0=0:=ak4 (by omega)
  exact aiN () trivial (.cons rfl (.cons rfl (.cons rfl (.cons rfl (.cons (by rw[h0,dT,rX];rfl) (.cons rfl (.cons rfl (.cons rfl .nil)))))))) rfl
 rintro _ Gz _ _
 generalize hcc:c+a.getD k 0+b.getD k 0=cc
 have hcb:cc/4294967296≤1:=by rw[←hcc];exact aBn hga hgb hc1
 refine sR<|sm J J<|sm J J<|sm J J<|sy (abf rfl) rfl<|sy (abh J J (by omega) (by omega)) rfl<|?_
 rw[bZ]
 refine sc (aa6 (d:=cc%4294967296) J J (by omega) (.hd ..) (by omega) rfl ?_)
 refine zE<|aal<|sm J J<|sy (ads J J (by decide)) rfl<|sa J J<|zE<|aal<|sy (aar J J) rfl<|sm J J<|zE<|?_
 have hsh:((cc:Int).fdiv (2^min (32:Int).toNat IntKind.u64.bits))=((cc/4294967296:Nat):Int):=by
  have:(2^min (32:Int).toNat IntKind.u64.bits:Int)=4294967296:=by decide
  rw[this,fT _ (by omega)];rfl
 rw[hsh]
 refine aa3 ⟨ws.set k (cc%4294967296),k+1,cc/4294967296⟩ ⟨by show k+1≤_;omega,by simp[hwl],hwo.set _ (by omega),hcb,?_⟩ (by show a.length-(k+1)<a.length-k;omega) (.cons rfl (.cons rfl (.cons rfl (.cons rfl (.cons rfl (.cons rfl (.cons rfl .nil))))))) rfl
 show dv ((ws.set k (cc%4294967296)).take (k+1))+4294967296^(k+1)*(cc/4294967296)=dv (a.take (k+1))+dv (b.take (k+1))
 rw[abd (by omega),aax a,aax b,←hcc,dV]
 exact apq hinv
structure aCA where
 ws:List Nat
 k:Nat
 c:Nat
theorem aCD(p:Int)(h0:0≤p):p.fdiv (2^min (63:Int).toNat IntKind.u64.bits)=p/9223372036854775808:=by
 have:(2^min (63:Int).toNat IntKind.u64.bits:Int)=9223372036854775808:=by decide
 rw[this,fT _ (by omega)]
theorem aAN(p:Nat):((p:Int).fdiv (2^min (32:Int).toNat IntKind.u64.bits))=((p/4294967296:Nat):Int):=by
 have:(2^min (32:Int).toNat IntKind.u64.bits:Int)=4294967296:=by decide
 rw[this,fT _ (by omega)];rfl
theorem avm{A B G:Gh}{x y:SV}{a b:List Nat}{kk:Nat}(hx:IsD A x a)(hy:IsD B y b)[GL A G][GL B G](hle:b.length≤a.length)(hge:dv b≤dv a)(hk:dv a<2^kk)(hba:a.length≤1125899906842):
  Fn prog 260 [x.v,y.v] G (fun v G'=> ∃z:SV,v=z.v∧IsN kk G' z (dv a-dv b)):=by
 have hlen:=hx.len
 have hlen2:=hy.len
 refine Fn.intro func260 J J ntmps260 rfl ?_
 intro C _ _
 refine sR<|sa J J<|zE<|sR<|sm J J<|ac9 J J<|?_
 refine sc (aes J J (by omega) (by omega) (by omega) (by rfl) rfl ?_)
 intro b1
 rw[adK,show(x.n:Int).toNat=a.length by omega]
 refine sa J J<|zE<|sR<|sa J J<|zE<|aaj<|sR<|sm J J<|ac9 J J<|sm J J<|zE<|aat<|?_
 refine ab8 (X:=aCA) (fun q=>[(16, .int .i64 q.k),(15, .int .i64 x.n),(14, .slice x.a x.n x.c),(6, .int .u64 q.c),(1, .slice y.a y.n y.c),(5, .slice (some ⟨b1,0,none⟩) a.length a.length)])
  (fun q=>[⟨b1,q.ws.map dI,256,true⟩])
  (fun q _=>q.k≤a.length∧q.ws.length=a.length∧DOk q.ws∧q.c≤1∧dv (q.ws.take q.k)+dv (b.take q.k)=dv (a.take q.k)+4294967296^q.k*q.c) (fun q=>a.length-q.k) ⟨List.replicate a.length 0,0,0⟩
  ⟨aR _,by simp, .replicate _,aR _,by simp[dv]⟩ (.cons rfl (.cons rfl (.cons rfl (.cons rfl (.cons rfl (.cons rfl .nil)))))) rfl ?_
 rintro ⟨ws,k,c⟩ Gy _ ⟨hka,hwl,hwo,hc1,hinv⟩
 simp only[] at hka hwl hwo hc1 hinv⊢
 refine sR<|sy (ach J J) rfl<|zE<|aaj<|?_
 refine abv rfl (fun hc=>?_) (fun hc=>?_) -- slot 17
 ·have hkn:k=a.length:=by omega
  refine aby<|abK<|abK<|aas<|sR<|sm J J<|?_
  refine acb b1 (.hd ..) (fun G1 _ hgb=>?_)
  have hD:IsD G1 ⟨some ⟨b1,0,none⟩,a.length,a.length⟩ ws:= .of_block hwo hgb.h hwl.symm (aL _) (by rw[aV (by simp)])
  have hdv:dv ws=dv a-dv b:=by
   rw[hkn,aV (by omega),aV hle,aV (aL _)] at hinv
   have h2:=aee hwo
   rw[hwl] at h2
   rcases fQ c with h0|h0
   ·subst h0;omega
   ·have:c=1:=by omega
    subst this;omega
  refine sc (zC J J (aa0 hD (by omega)) rfl ?_)
  rintro _ G2 _ rfl
  refine sa J J<|zE<|aaK<|?_
  refine zD (.tmp rfl .nil) ⟨⟨some ⟨b1,0,none⟩,(trimD ws).length,a.length⟩,rfl,?_⟩
  have h3:=hD.trim.up (G:=G2)
  rw[←hdv]
  exact⟨by rw[ada hwo];exact h3,by omega⟩
 have hka':k<a.length:=by omega
 have hga:=hx.ok.get k
 have hgb:=hy.ok.get k
 refine zK<|aaj<|aat<|sR<|sm J J<|sy (abR hx J J (by omega) (by omega)) rfl<|sy (abS hx rfl (by omega)) rfl<|sa J J<|sa J J<|zE<|aaj<|?_
 rw[bZ]
 refine aal<|sm J J<|sa J J<|zE<|?_
 refine amB Unit (fun _=>[(16, .int .i64 k),(7, .int .i64 k),(15, .int .i64 x.n),(14, .slice x.a x.n x.c),(8, .int .u32 ((a.getD k 0:Nat):Int)),(9, .int .u64 ((c+b.getD k 0:Nat):Int)),(1, .slice y.a y.n y.c),(5, .slice (some ⟨b1,0,none⟩) a.length a.length)]) (fun _=>[⟨b1,ws.map dI,256,true⟩]) (fun _ _=>True) ?_ ?_
 ·refine sR<|sm J J<|sm J J<|ac9 J J<|sy (ach J J) rfl<|zE<|?_
  refine aaG rfl (fun hc2=>?_) (fun hc2=>?_) -- slot 25
  ·refine aal<|sm J J<|sm J J<|sm J J<|sy (abR hy J J (by omega) (by omega)) rfl<|sy (abS hy rfl (by omega)) rfl<|sy (aaL rfl (by omega) (by rw[bZ];omega)) rfl<|?_
   rw[bZ]
   refine sy (adZ J J) rfl<|sa J J<|zE<|?_
   exact aiN () trivial (.cons rfl (.cons rfl (.cons rfl (.cons rfl (.cons rfl (.cons (by rw[rX];rfl) (.cons rfl (.cons rfl .nil)))))))) rfl
  refine zK<|?_
  have h0:b.getD k 0=0:=ak4 (by omega)
  exact aiN () trivial (.cons rfl (.cons rfl (.cons rfl (.cons rfl (.cons rfl (.cons (by rw[h0,dT];rfl) (.cons rfl (.cons rfl .nil)))))))) rfl
 rintro _ Gz _ _
 generalize htt:c+b.getD k 0=tt
 have htb:tt≤4294967296:=by omega
 refine sR<|sm J J<|sy (aaL rfl) rfl<|sm J J<|sy (afU J J) rfl<|sa J J<|zE<|sR<|sm J J<|sm J J<|sm J J<|?_
 rw[abQ]
 refine sy (abf rfl) rfl<|sy (abh J J (by omega) (by omega)) rfl<|?_
 rw[bZ]
 by_cases hno:tt≤a.getD k 0
 ·refine sc (aa6 (d:=a.getD k 0-tt) J J (by omega) (.hd ..) (by omega) rfl ?_)
  refine zE<|aal<|sm J J<|sy (ads J J (by decide)) rfl<|sa J J<|zE<|aal<|sy (aar J J) rfl<|sm J J<|zE<|?_
  rw[aCD _ (by omega),show(((a.getD k 0:Nat):Int)-(tt:Int))%18446744073709551616/9223372036854775808=((0:Nat):Int) by omega]
  refine aa3 ⟨ws.set k (a.getD k 0-tt),k+1,0⟩ ⟨by show k+1≤_;omega,by simp[hwl],hwo.set _ (by omega),aR _,?_⟩ (by show a.length-(k+1)<a.length-k;omega) (.cons rfl (.cons rfl (.cons rfl (.cons rfl (.cons rfl (.cons rfl .nil)))))) rfl
  show dv ((ws.set k (a.getD k 0-tt)).take (k+1))+dv (b.take (k+1))=dv (a.take (k+1))+4294967296^(k+1)*0
  rw[abd (by omega),aax a,aax b,←htt,dV]
  exact aw4 hinv (by omega)
 ·refine sc (aa6 (d:=a.getD k 0+4294967296-tt) J J (by omega) (.hd ..) (by omega) rfl ?_)
  refine zE<|aal<|sm J J<|sy (ads J J (by decide)) rfl<|sa J J<|zE<|aal<|sy (aar J J) rfl<|sm J J<|zE<|?_
  rw[aCD _ (by omega),show(((a.getD k 0:Nat):Int)-(tt:Int))%18446744073709551616/9223372036854775808=((1:Nat):Int) by omega]
  refine aa3 ⟨ws.set k (a.getD k 0+4294967296-tt),k+1,1⟩ ⟨by show k+1≤_;omega,by simp[hwl],hwo.set _ (by omega),aL _,?_⟩ (by show a.length-(k+1)<a.length-k;omega) (.cons rfl (.cons rfl (.cons rfl (.cons rfl (.cons rfl (.cons rfl .nil)))))) rfl
  show dv ((ws.set k (a.getD k 0+4294967296-tt)).take (k+1))+dv (b.take (k+1))=dv (a.take (k+1))+4294967296^(k+1)*1
  rw[abd (by omega),aax a,aax b,←htt,dV]
  exact asu hinv (by omega) (by omega)
theorem azf{A B G:Gh}{x y:SV}{ds es:List Nat}{kk:Nat}(hx:IsD A x ds)(hy:IsD B y es)[GL A G][GL B G](hk:dv ds<2^kk)(hb:ds.length≤1125899906842)(hb2:es.length≤1125899906842):
  Fn prog 217 [x.v,y.v] G (fun v G'=> ∃z:SV,v= .tuple #[z.v, .bool (decide (dv es≤dv ds))]∧IsN kk G' z (dv ds-dv es)):=by
 refine Fn.intro func217 J J ntmps217 rfl ?_
 intro C _ _
 refine sR<|sa J J<|sa J J<|zE<|aaj<|sR<|sm J J<|sm J J<|?_
 refine sc (zC J J (ase hx hy (by omega) (by omega)) rfl ?_)
 rintro _ G1 _ rfl
 refine sy (ach J J) rfl<|zE<|?_
 refine aaG rfl (fun hc=>?_) (fun hc=>?_) -- slot 9
 ·have hlt:dv ds<dv es:=by
   unfold aho at hc
   split at hc
   ·assumption
   ·split at hc<;>omega
  refine sR<|sa J J<|sa J J<|zE<|aaK<|?_
  refine zD (.tmp rfl (.tmp rfl .nil)) ⟨⟨none,0,0⟩,?_,?_⟩
  ·have: ¬dv es≤dv ds:=by omega
   simp[abP,SV.v,this]
  ·rw[Nat.sub_eq_zero_of_le (by omega)]
   exact⟨by unfold dg;exact .nil _,dJ (by omega)⟩
 have hge:dv es≤dv ds:=by
  unfold aho at hc
  split at hc
  ·omega
  ·omega
 have htl:=abj ds
 have htl2:=abj es
 refine zK<|sR<|sm J J<|?_
 refine sc (zC J J (aa0 hx (by omega)) rfl ?_)
 rintro _ G2 _ rfl
 refine sm J J<|?_
 refine sc (zC J J (aa0 hy (by omega)) rfl ?_)
 rintro _ G3 _ rfl
 have hl:(trimD es).length≤(trimD ds).length:=by
  rcases gN (trimD ds).length (trimD es).length with h|h
  ·have:=acv hx.ok.trimD (Nrm.trimD es) h
   rw[aa7,aa7] at this;omega
  ·exact h
 refine sc (zC J J (avm (kk:=kk) hx.trim hy.trim hl (by rw[aa7,aa7];exact hge) (by rw[aa7];exact hk) (by omega)) rfl ?_)
 rintro _ G4 _ ⟨z,rfl,hz⟩
 refine sa J J<|sa J J<|zE<|aaK<|?_
 refine zD (.tmp rfl (.tmp rfl .nil)) ⟨z,by simp[abP,hge],?_⟩
 rw[aa7,aa7] at hz
 exact hz
structure ayz where
 ws:List Nat
 i:Nat
structure ay1 where
 ws:List Nat
 k:Nat
 c:Nat
theorem aDH{x y w c:Nat}(hx:x<4294967296)(hy:y<4294967296)(hw:w<4294967296)(hc:c<4294967296):c+x*y+w<18446744073709551616:=by
 have:x*y≤4294967295*4294967295:=jU (by omega) (by omega)
 omega
theorem agD{ws:List Nat}{i j d:Nat}(h:i≠j):(ws.set i d).getD j 0=ws.getD j 0:=by
 rw[aX,aX,List.getElem?_set_ne h]
theorem ay6{A B G:Gh}{x y:SV}{ds es:List Nat}{kk:Nat}(hx:IsD A x ds)(hy:IsD B y es)[GL A G][GL B G](hk:dv ds*dv es<2^kk)(hb:ds.length≤562949953421)(hb2:es.length≤562949953421):
  Fn prog 159 [x.v,y.v] G (fun v G'=> ∃z:SV,v=z.v∧IsN kk G' z (dv ds*dv es)):=by
 have htl:=abj ds
 have htl2:=abj es
 have hcall:=fun G1 (_:GL A G1)=>aa0 (G:=G1) hx (by omega)
 have hcall2:=fun G1 (_:GL B G1)=>aa0 (G:=G1) hy (by omega)
 have hxt:=hx.trim
 have hyt:=hy.trim
 rw[←aa7 ds,←aa7 es] at hk⊢
 generalize trimD ds=a at*
 generalize trimD es=b at*
 have hok:=hxt.ok
 have hok2:=hyt.ok
 refine Fn.intro func159 J J ntmps159 rfl ?_
 intro C _ _
 refine sR<|sa J J<|zE<|sR<|sm J J<|?_
 refine sc (zC J J (hcall _ inferInstance) rfl ?_)
 rintro _ G1 _ rfl
 refine sm J J<|?_
 refine sc (zC J J (hcall2 _ inferInstance) rfl ?_)
 rintro _ G2 _ rfl
 refine sa J J<|sa J J<|zE<|sR<|sm J J<|ac9 J J<|sm J J<|ac9 J J<|sy (aar J J) rfl<|?_
 refine sc (aes J J (by omega) (by omega) (by omega) (by rfl) rfl ?_)
 intro b3
 rw[adK,show((a.length:Int)+(b.length:Int)).toNat=a.length+b.length by omega]
 refine sa J J<|zE<|aaj<|sR<|sm J J<|ac9 J J<|sm J J<|zE<|aat<|?_
 refine ab8 (X:=ayz) (fun q=>[(23, .int .i64 q.i),(22, .int .i64 a.length),(21, .slice x.a a.length x.c),(1, .slice y.a b.length y.c),(5, .slice (some ⟨b3,0,none⟩) (a.length+b.length) (a.length+b.length))])
  (fun q=>[⟨b3,q.ws.map dI,256,true⟩])
  (fun q _=>q.i≤a.length∧q.ws.length=a.length+b.length∧DOk q.ws∧(∀j,q.i+b.length≤j→q.ws.getD j 0=0)∧dv q.ws=dv (a.take q.i)*dv b) (fun q=>a.length-q.i) ⟨List.replicate (a.length+b.length) 0,0⟩
  ⟨aR _,by simp, .replicate _,fun j _=>alO _ _,by simp[dv,acs]⟩ (.cons rfl (.cons rfl (.cons rfl (.cons rfl (.cons rfl .nil))))) rfl ?_
 rintro ⟨ws,i⟩ Gy _ ⟨hia,hwl,hwo,hz,hinv⟩
 simp only[] at hia hwl hwo hz hinv⊢
 refine sR<|sy (ach J J) rfl<|zE<|aaj<|?_
 refine abv rfl (fun hc=>?_) (fun hc=>?_) -- slot 24
 ·have hin:i=a.length:=by omega
  refine aby<|abK<|abK<|aas<|sR<|sm J J<|?_
  refine acb b3 (.hd ..) (fun G3 _ hgb=>?_)
  have hD:IsD G3 ⟨some ⟨b3,0,none⟩,a.length+b.length,a.length+b.length⟩ ws:= .of_block hwo hgb.h hwl.symm (aL _) (by rw[aV (by simp)])
  have hdv:dv ws=dv a*dv b:=by rw[hinv,hin,aV (aL _)]
  refine sc (zC J J (aa0 hD (by omega)) rfl ?_)
  rintro _ G4 _ rfl
  refine sa J J<|zE<|aaK<|?_
  refine zD (.tmp rfl .nil) ⟨⟨some ⟨b3,0,none⟩,(trimD ws).length,a.length+b.length⟩,rfl,?_⟩
  have h3:=hD.trim.up (G:=G4)
  rw[←hdv] at hk⊢
  exact⟨by rw[ada hwo];exact h3,hk⟩
 have hia':i<a.length:=by omega
 have hga:=hok.get i
 refine zK<|aaj<|aat<|sR<|sm J J<|sy (abR (z:=⟨x.a,a.length,x.c⟩) hxt J J (by omega) (by show(i:Int)<(a.length:Nat);omega)) rfl<|sy (abS hxt rfl (by omega)) rfl<|sa J J<|sa J J<|zE<|aaj<|?_
 rw[bZ]
 refine aal<|sa J J<|zE<|aaj<|sR<|sm J J<|ac9 J J<|sm J J<|zE<|aat<|?_
 refine ab8 (X:=ay1) (fun q=>[(30, .int .i64 q.k),(29, .int .i64 b.length),(28, .slice y.a b.length y.c),(8, .int .u64 q.c),(7, .int .u32 ((a.getD i 0:Nat):Int)),(5, .slice (some ⟨b3,0,none⟩) (a.length+b.length) (a.length+b.length)),(6, .int .i64 i),(23, .int .i64 i),(22, .int .i64 a.length),(21, .slice x.a a.length x.c),(1, .slice y.a b.length y.c)])
  (fun q=>[⟨b3,q.ws.map dI,256,true⟩])
  (fun q _=>q.k≤b.length∧q.ws.length=a.length+b.length∧DOk q.ws∧q.c<4294967296∧(∀j,i+b.length≤j→q.ws.getD j 0=0)∧dv q.ws+4294967296^(i+q.k)*q.c=dv (a.take i)*dv b+4294967296^i*(a.getD i 0*dv (b.take q.k))) (fun q=>b.length-q.k) ⟨ws,0,0⟩
  ⟨aR _,hwl,hwo,Nat.zero_lt_succ _,hz,by simp[dv,hinv]⟩ (.cons rfl (.cons rfl (.cons rfl (.cons rfl (.cons rfl (.cons rfl (.cons rfl (.cons rfl (.cons rfl (.cons rfl (.cons rfl .nil))))))))))) rfl ?_
 clear hz hwl hwo hinv ws
 rintro ⟨ws,k,c⟩ Gz _ ⟨hkb,hwl,hwo,hcc,hz,hinv⟩
 simp only[] at hkb hwl hwo hcc hz hinv⊢
 refine sR<|sy (ach J J) rfl<|zE<|aaj<|?_
 refine abv rfl (fun hc2=>?_) (fun hc2=>?_) -- slot 31
 ·have hkn:k=b.length:=by omega
  have e1:((i:Int)+(b.length:Int)).toNat=i+b.length:=by omega
  refine aby<|abK<|abK<|aas<|aal<|sm J J<|sm J J<|sm J J<|ac9 J J<|sy (aar J J) rfl<|sm J J<|sy (abf rfl) rfl<|?_
  refine sy (abh J J (by omega) (by omega)) rfl<|?_
  rw[e1]
  refine sc (aa6 (d:=c) J J (by omega) (.hd ..) (by omega) rfl ?_)
  refine zE<|aal<|sy (aar J J) rfl<|sm J J<|zE<|?_
  refine aa3 ⟨ws.set (i+b.length) c,i+1⟩ ⟨by show i+1≤_;omega,by simp[hwl],hwo.set _ hcc,fun j hj=>?_,?_⟩ (by show a.length-(i+1)<a.length-i;omega) (.cons rfl (.cons rfl (.cons rfl (.cons rfl (.cons rfl .nil))))) rfl
  ·have hj':i+1+b.length≤j:=hj
   show(ws.set (i+b.length) c).getD j 0=0
   rw[agD (by omega)];exact hz j (by omega)
  ·show dv (ws.set (i+b.length) c)=dv (a.take (i+1))*dv b
   have h1:=ae9 ws (i+b.length) c (by omega)
   rw[hz (i+b.length) (aL _),oU,dT] at h1
   rw[h1,←hkn,hinv,hkn,aV (aL _),aax,cY,bR]
 have hkb':k<b.length:=by omega
 have hgb:=hok2.get k
 have hgw:=hwo.get (i+k)
 have hm:=aDH hga hgb hgw hcc
 have e1:((i:Int)+(k:Int)).toNat=i+k:=by omega
 have e2:((a.getD i 0:Nat):Int)*((b.getD k 0:Nat):Int)=((a.getD i 0*b.getD k 0:Nat):Int):=by rw[iK]
 refine zK<|aaj<|aat<|sR<|sm J J<|sy (abR (z:=⟨y.a,b.length,y.c⟩) hyt J J (by omega) (by show(k:Int)<(b.length:Nat);omega)) rfl<|sy (abS hyt rfl (by omega)) rfl<|sa J J<|sa J J<|zE<|aaj<|?_
 rw[bZ]
 refine aal<|sm J J<|sm J J<|sy (aaL rfl) rfl<|sm J J<|sy (aaL rfl) rfl<|sy (aot J J (by rw[e2];omega) (by rw[e2];omega)) rfl<|?_
 rw[e2]
 refine sm J J<|sm J J<|sm J J<|sy (aar J J) rfl<|sy (abh J J (by omega) (by omega)) rfl<|?_
 rw[e1]
 refine sy (afL rfl (by omega)) rfl<|sy (aaL rfl) rfl<|?_
 refine sy (adZ J J) rfl<|sy (adZ J J) rfl<|sa J J<|zE<|sR<|sm J J<|sm J J<|sm J J<|?_
 rw[show(c:Int)+(((a.getD i 0*b.getD k 0:Nat):Int)+((ws.getD (i+k) 0:Nat):Int))=((c+a.getD i 0*b.getD k 0+ws.getD (i+k) 0:Nat):Int) by omega]
 generalize hcc2:c+a.getD i 0*b.getD k 0+ws.getD (i+k) 0=cc
 rw[hcc2] at hm
 refine sy (aar J J) rfl<|sm J J<|sy (abf rfl) rfl<|sy (abh J J (by omega) (by omega)) rfl<|?_
 rw[e1]
 refine sc (aa6 (d:=cc%4294967296) J J (by omega) (.hd ..) (by omega) rfl ?_)
 refine zE<|aal<|sm J J<|sy (ads J J (by decide)) rfl<|sa J J<|zE<|aal<|sy (aar J J) rfl<|sm J J<|zE<|?_
 rw[aAN]
 refine aa3 ⟨ws.set (i+k) (cc%4294967296),k+1,cc/4294967296⟩ ⟨by show k+1≤_;omega,by simp[hwl],hwo.set _ (by omega),by show cc/4294967296<_;omega,fun j hj=>?_,?_⟩ (by show b.length-(k+1)<b.length-k;omega) (.cons rfl (.cons rfl (.cons rfl (.cons rfl (.cons rfl (.cons rfl (.cons rfl (.cons rfl (.cons rfl (.cons rfl (.cons rfl .nil))))))))))) rfl
 ·show(ws.set (i+k) (cc%4294967296)).getD j 0=0
  rw[agD (by omega)];exact hz j hj
 ·show dv (ws.set (i+k) (cc%4294967296))+4294967296^(i+(k+1))*(cc/4294967296)=dv (a.take i)*dv b+4294967296^i*(a.getD i 0*dv (b.take (k+1)))
  have h1:=ae9 ws (i+k) (cc%4294967296) (by omega)
  rw[←hcc2] at h1⊢
  have h2:=ap1 h1 hinv
  rw[←iL,dV,h2,aax,dQ,dQ,eK]
  have:4294967296^i*(a.getD i 0*(4294967296^k*b.getD k 0))=4294967296^i*4294967296^k*(a.getD i 0*b.getD k 0):=by
   rw[kQ (a.getD i 0),←bR]
  rw[this,iL]
theorem aoc{P:Program}{t:TypeId}(a b k:Nat)(ha:a<2^k)(h:a+b*2^k<18446744073709551616)(w:World):(binOp .or t (.int .u64 ((b*2^k:Nat):Int)) (.int .u64 (a:Int))).run P w= .ok (.int .u64 ((a+b*2^k:Nat):Int)) w:=by
 have h1:(BitVec.ofInt 64 ((b*2^k:Nat):Int) ||| BitVec.ofInt 64 (a:Int)).toNat=a+b*2^k:=by
  rw[BitVec.toNat_or,BitVec.ofInt_natCast,BitVec.ofInt_natCast,BitVec.toNat_ofNat,BitVec.toNat_ofNat,fK (by omega),fK (by omega)]
  rw[←kY,←kL ha,kY]
  omega
 have h2:IntKind.u64.wrap ((a+b*2^k:Nat):Int)=((a+b*2^k:Nat):Int):=by rw[abQ];omega
 simp only[binOp]
 show(Op.intBits .or .u64 ((b*2^k:Nat):Int) (a:Int)).run P w=_
 unfold Op.intBits
 show(pure (Value.int .u64 (IntKind.u64.wrap ((BitVec.ofInt 64 ((b*2^k:Nat):Int) ||| BitVec.ofInt 64 (a:Int)).toNat:Int))):Sem Value).run P w=_
 rw[h1,h2,aap]
theorem av2{P:Program}{t:TypeId}(a b k:Nat)(ha:a<2^k)(h:a+b*2^k<4294967296)(w:World):(binOp .or t (.int .u32 (a:Int)) (.int .u32 ((b*2^k:Nat):Int))).run P w= .ok (.int .u32 ((a+b*2^k:Nat):Int)) w:=by
 have h1:(BitVec.ofInt 32 (a:Int) ||| BitVec.ofInt 32 ((b*2^k:Nat):Int)).toNat=a+b*2^k:=by
  rw[BitVec.toNat_or,BitVec.ofInt_natCast,BitVec.ofInt_natCast,BitVec.toNat_ofNat,BitVec.toNat_ofNat,fK (by omega),fK (by omega)]
  rw[←kY,Nat.or_comm,←kL ha,kY]
  omega
 have h2:IntKind.u32.wrap ((a+b*2^k:Nat):Int)=((a+b*2^k:Nat):Int):=by rw[acy];omega
 simp only[binOp]
 show(Op.intBits .or .u32 (a:Int) ((b*2^k:Nat):Int)).run P w=_
 unfold Op.intBits
 show(pure (Value.int .u32 (IntKind.u32.wrap ((BitVec.ofInt 32 (a:Int) ||| BitVec.ofInt 32 ((b*2^k:Nat):Int)).toNat:Int))):Sem Value).run P w=_
 rw[h1,h2,aap]
theorem adU(d k:Nat)(hk:k<64)(h:d*2^k<18446744073709551616){q:Int}(hq:q.toNat=k):IntKind.u64.wrap ((d:Int)*2^min q.toNat IntKind.u64.bits)=((d*2^k:Nat):Int):=by
 rw[hq,gT (by show k≤64;omega),abQ]
 have e2:(d:Int)*2^k=((d*2^k:Nat):Int):=by push_cast;rfl
 rw[e2];omega
theorem aeq(d k:Nat)(hk:k<64){q:Int}(hq:q.toNat=k):(d:Int).fdiv (2^min q.toNat IntKind.u64.bits)=((d/2^k:Nat):Int):=by
 rw[hq,gT (by show k≤64;omega),fT _ (oR (Int.pow_pos (by decide)))]
 push_cast;rfl
theorem axB(q:Nat)(h:q<4294967296):(q:Int)%4294967296=q:=by omega
structure awq where
 ws:List Nat
 k:Nat
 r:Nat
theorem ar0{A G:Gh}{x:SV}{a:List Nat}{d kk:Nat}(hx:IsD A x a)[GL A G](hd0:0<d)(hd:d<4294967296)(hk:dv a/d<2^kk)(hb:a.length≤1125899906842):
  Fn prog 258 [x.v, .int .u32 (d:Int)] G (fun v G'=> ∃z:SV,v= .tuple #[z.v, .int .u32 ((dv a%d:Nat):Int)]∧IsN kk G' z (dv a/d)):=by
 have hlen:=hx.len
 refine Fn.intro func258 J J ntmps258 rfl ?_
 intro C _ _
 refine sR<|sa J J<|sa J J<|zE<|sR<|sm J J<|ac9 J J<|?_
 refine sc (aes J J (by omega) (by omega) (by omega) (by rfl) rfl ?_)
 intro b1
 rw[adK,show(x.n:Int).toNat=a.length by omega]
 refine sa J J<|zE<|sR<|sa J J<|zE<|aaj<|sR<|sm J J<|ac9 J J<|sy (aa8 J J) rfl<|?_
 refine sa J J<|zE<|aat<|?_
 refine ab8 (X:=awq) (fun q=>[(8, .int .i64 (q.k-1)),(7, .int .u64 q.r),(0, .slice x.a x.n x.c),(6, .slice (some ⟨b1,0,none⟩) a.length a.length),(1, .int .u32 d)])
  (fun q=>[⟨b1,q.ws.map dI,256,true⟩])
  (fun q _=>q.k≤a.length∧q.ws.length=a.length∧DOk q.ws∧q.r<d∧dv (a.drop q.k)=d*dv (q.ws.drop q.k)+q.r) (fun q=>q.k) ⟨List.replicate a.length 0,a.length,0⟩
  ⟨aL _,by simp, .replicate _,hd0,by simp[dv]⟩ (.cons (by rw[hlen];rfl) (.cons rfl (.cons rfl (.cons rfl (.cons rfl .nil))))) rfl ?_
 rintro ⟨ws,k,r⟩ Gy _ ⟨hka,hwl,hwo,hr,hinv⟩
 simp only[] at hka hwl hwo hr hinv⊢
 refine aaj<|sR<|sm J J<|sy (ahE J J) rfl<|zE<|?_
 refine abv rfl (fun hc=>?_) (fun hc=>?_) -- slot 17
 ·have hk0:k=0:=by omega
  refine aby<|abK<|abK<|aas<|sR<|sm J J<|?_
  refine acb b1 (.hd ..) (fun G1 _ hgb=>?_)
  have hD:IsD G1 ⟨some ⟨b1,0,none⟩,a.length,a.length⟩ ws:= .of_block hwo hgb.h hwl.symm (aL _) (by rw[aV (by simp)])
  subst hk0
  simp only[hJ] at hinv
  have hdv:dv a/d=dv ws:=by rw[hinv,Nat.mul_add_div hd0,jZ hr,dT]
  have hdm:dv a%d=r:=by rw[hinv,Nat.mul_add_mod,fK hr]
  refine sc (zC J J (aa0 hD (by omega)) rfl ?_)
  rintro _ G2 _ rfl
  refine sm J J<|sy (abf rfl) rfl<|sa J J<|sa J J<|zE<|aaK<|?_
  refine zD (.tmp rfl (.tmp rfl .nil)) ⟨⟨some ⟨b1,0,none⟩,(trimD ws).length,a.length⟩,?_,?_⟩
  ·rw[hdm,show(r:Int)%4294967296=r by omega];rfl
  have h3:=hD.trim.up (G:=G2)
  exact⟨by rw[hdv,ada hwo];exact h3,hk⟩
 have hk1:0<k:=by omega
 have hkt:((k:Int)-1).toNat=k-1:=by omega
 have hga:=hx.ok.get (k-1)
 have hv:a.getD (k-1) 0+r*2^32<d*4294967296:=by
  have:(r+1)*4294967296≤d*4294967296:=bV _ hr
  rw[cY] at this
  omega
 have hv2:a.getD (k-1) 0+r*2^32<18446744073709551616:=by omega
 refine zK<|aaj<|aat<|sR<|sm J J<|sy (aiD J J (by decide)) rfl<|sm J J<|sm J J<|sy (abR hx J J (by omega) (by omega)) rfl<|?_
 rw[adU r 32 (by decide) (by omega) rfl]
 refine sy (abS hx rfl (by omega)) rfl<|sy (aaL rfl (by omega) (by rw[hkt];omega)) rfl<|?_
 rw[hkt]
 refine sy (abX J J (aoc (a.getD (k-1) 0) r 32 (by omega) hv2)) rfl<|?_
 generalize hvv:a.getD (k-1) 0+r*2^32=vv at*
 have hq:vv/d<4294967296:=Nat.div_lt_of_lt_mul hv
 have hrr:=cS vv hd0
 refine sa J J<|zE<|sR<|sm J J<|sm J J<|sm J J<|sm J J<|?_
 refine sy (aaL rfl) rfl<|sy (ahr J J (by omega) (by omega) (by omega)) rfl<|sy (abf rfl) rfl<|sy (abh J J (by omega) (by omega)) rfl<|?_
 rw[hkt]
 have e1:(vv:Int)/(d:Int)%4294967296=((vv/d:Nat):Int):=by
  have e0:(vv:Int)/(d:Int)=((vv/d:Nat):Int):=(oS vv d).symm
  rw[e0];exact axB _ hq
 refine sc (aa6 (d:=vv/d) J J e1 (.hd ..) (by omega) rfl ?_)
 refine zE<|aal<|sm J J<|sm J J<|sy (aaL rfl) rfl<|sy (ahk J J (by omega) (by omega)) rfl<|sa J J<|zE<|aal<|sm J J<|?_
 refine sy (aa8 J J) rfl<|sa J J<|zE<|?_
 refine aa3 ⟨ws.set (k-1) (vv/d),k-1,vv%d⟩ ⟨by show k-1≤_;omega,by simp[hwl],hwo.set _ hq,hrr,?_⟩ (by show k-1<k;omega) (.cons (by rw[show((k-1:Nat):Int)=(k:Int)-1 by omega];rfl) (.cons (by rw[mN];rfl) (.cons rfl (.cons rfl (.cons rfl .nil))))) rfl
 show dv (a.drop (k-1))=d*dv ((ws.set (k-1) (vv/d)).drop (k-1))+vv%d
 have hk2:k-1+1=k:=by omega
 rw[bQ (by omega:k-1<a.length),bQ (by simp;omega:k-1<(ws.set (k-1) (vv/d)).length),hk2,List.getElem_set_self,rV (by omega)]
 have e3:a[k-1]'(by omega)=a.getD (k-1) 0:=by rw[aX,aQ (by omega)];rfl
 simp only[dv,e3,hinv]
 have h1:=pJ vv d
 have h2:d*(vv/d+4294967296*dv (ws.drop k))=d*(vv/d)+4294967296*(d*dv (ws.drop k)):=by rw[dQ,kQ]
 rw[h2,dQ]
 omega
section
variable {P:Program} {C:Ctx} {n:Nat} {fr:Fr} {own:List Own} {G:Gh} {dst:Option Nat} {t t1 t2 ty':TypeId} {pos:String} {af:Array Edge} {gd:Option (Nat×Bool)} {x y:Operand}
theorem aAV{k:IntKind}{p q:Int}(hx:opv fr x=some (.int k p))(hy:opv fr y=some (.int k q)):
  Yd P C fr own G ⟨dst, .call ⟨.builtin .min, #[x,y], #[t1,t2]⟩,ty',pos,af,gd⟩ (.int k (if q<p then q else p)):=by
 intro a w hf hh
 simp only[execOp,resolve,gW,cZ,iN,aab hf hx,aab hf hy]
 have h1:(Builtin.min_ #[t1,t2] ty' #[.int k p, .int k q]).run P w= .ok (.int k (if q<p then q else p)) w:=by
  simp[Builtin.min_,Builtin.min2,aap]
 exact aam h1
end
structure apG where
 ws:List Nat
 i:Nat
theorem ar8{A G:Gh}{x:SV}{ds:List Nat}{k kk:Nat}(hx:IsD A x ds)[GL A G](hk32:k<32)(hk:dv ds*2^k<2^kk)(hb:ds.length≤1125899906842):
  Fn prog 294 [x.v, .int .u64 (k:Int)] G (fun v G'=> ∃z:SV,v=z.v∧IsN kk G' z (dv ds*2^k)∧z.c≤(trimD ds).length+1):=by
 have htl:=abj ds
 have hcall:=fun G1 (_:GL A G1)=>aa0 (G:=G1) hx (by omega)
 have hxt:=hx.trim
 rw[←aa7 ds] at hk⊢
 generalize trimD ds=a at*
 have hok:=hxt.ok
 refine Fn.intro func294 J J ntmps294 rfl ?_
 intro C _ _
 refine sR<|sa J J<|zE<|sR<|sm J J<|?_
 refine sc (zC J J (hcall _ inferInstance) rfl ?_)
 rintro _ G1 _ rfl
 refine sm J J<|sy (aAV J J) rfl<|?_
 rw[if_neg (by omega: ¬(1048576:Int)<(k:Int))]
 refine sa J J<|sa J J<|zE<|aaj<|sR<|sm J J<|ac9 J J<|sy (abV J J) rfl<|zE<|?_
 refine aaG rfl (fun hc=>?_) (fun hc=>?_) -- slot 17
 ·refine sR<|sa J J<|zE<|aaK<|?_
  have:a=[]:=bY (by omega)
  subst this
  refine zD (.tmp rfl .nil) ⟨⟨none,0,0⟩,rfl,?_⟩
  have e0:dv []*2^k=0:=by simp[dv]
  rw[e0]
  exact⟨⟨by unfold dg;exact .nil _,dJ (by omega)⟩,aR _⟩
 refine zK<|sR<|sm J J<|sy (ahr J J (by omega) (by omega) (by decide)) rfl<|sy (ao9 rfl) rfl<|sm J J<|sy (ahk J J (by omega) (by decide)) rfl<|?_
 rw[show(k:Int)/32=0 by omega,show(k:Int)%32=k by omega]
 refine sa J J<|sa J J<|zE<|sR<|sm J J<|ac9 J J<|sm J J<|sy (aar J J) rfl<|sy (aar J J) rfl<|?_
 refine sc (aes J J (by omega) (by omega) (by omega) (by rfl) rfl ?_)
 intro b2
 rw[adK,show((a.length:Int)+0+1).toNat=a.length+1 by omega]
 refine sa J J<|zE<|aaj<|sR<|sm J J<|ac9 J J<|sm J J<|zE<|aat<|?_
 refine ab8 (X:=apG) (fun q=>[(31, .int .i64 q.i),(30, .int .i64 a.length),(29, .slice x.a a.length x.c),(6, .int .u64 k),(7, .slice (some ⟨b2,0,none⟩) (a.length+1) (a.length+1)),(5, .int .i64 0)])
  (fun q=>[⟨b2,q.ws.map dI,256,true⟩])
  (fun q _=>q.i≤a.length∧q.ws.length=a.length+1∧DOk q.ws∧(∀j,q.i<j→q.ws.getD j 0=0)∧q.ws.getD q.i 0<2^k∧dv q.ws=dv (a.take q.i)*2^k) (fun q=>a.length-q.i) ⟨List.replicate (a.length+1) 0,0⟩
  ⟨aR _,by simp, .replicate _,fun j _=>alO _ _,by rw[alO];exact dJ (by omega),by simp[dv,acs]⟩ (.cons rfl (.cons rfl (.cons rfl (.cons rfl (.cons rfl (.cons rfl .nil)))))) rfl ?_
 rintro ⟨ws,i⟩ Gy _ ⟨hia,hwl,hwo,hz,hwi,hinv⟩
 simp only[] at hia hwl hwo hz hwi hinv⊢
 refine sR<|sy (ach J J) rfl<|zE<|aaj<|?_
 refine abv rfl (fun hc=>?_) (fun hc=>?_) -- slot 32
 ·have hin:i=a.length:=by omega
  refine aby<|abK<|abK<|aas<|sR<|sm J J<|?_
  refine acb b2 (.hd ..) (fun G3 _ hgb=>?_)
  have hD:IsD G3 ⟨some ⟨b2,0,none⟩,a.length+1,a.length+1⟩ ws:= .of_block hwo hgb.h hwl.symm (aL _) (by rw[aV (by simp)])
  have hdv:dv a*2^k=dv ws:=by rw[hinv,hin,aV (aL _)]
  refine sc (zC J J (aa0 hD (by omega)) rfl ?_)
  rintro _ G4 _ rfl
  refine sa J J<|zE<|aaK<|?_
  refine zD (.tmp rfl .nil) ⟨⟨some ⟨b2,0,none⟩,(trimD ws).length,a.length+1⟩,rfl,?_⟩
  have h3:=hD.trim.up (G:=G4)
  rw[hdv] at hk⊢
  exact⟨⟨by rw[ada hwo];exact h3,hk⟩,aL _⟩
 have hia':i<a.length:=by omega
 have hga:=hok.get i
 have hp32:(2:Nat)^k≤2^31:=bK (by omega) (by omega)
 have hp0:0<(2:Nat)^k:=dJ (by omega)
 have hvb:a.getD i 0*2^k<4294967296*2^k:=jM hga hp0
 have hv64:a.getD i 0*2^k<18446744073709551616:=by omega
 refine zK<|aaj<|aat<|sR<|sm J J<|sy (abR (z:=⟨x.a,a.length,x.c⟩) hxt J J (by omega) (by show(i:Int)<(a.length:Nat);omega)) rfl<|sy (abS hxt rfl (by omega)) rfl<|sa J J<|sa J J<|zE<|aaj<|?_
 rw[bZ]
 refine aal<|sm J J<|sy (aaL rfl) rfl<|sm J J<|sy (aiD J J (by omega)) rfl<|?_
 rw[adU (a.getD i 0) k (by omega) hv64 (bZ k)]
 -- the low digit is a multiple of 2^k
 have hlow:a.getD i 0*2^k%4294967296=a.getD i 0%2^(32-k)*2^k:=by
  have:4294967296=2^(32-k)*2^k:=by rw[←eK,show 32-k+k=32 by omega]
  rw[this,qY]
 have hlt:a.getD i 0*2^k%4294967296<4294967296:=cS _ (by decide)
 have hsum:ws.getD i 0+a.getD i 0%2^(32-k)*2^k<4294967296:=by
  have h1:a.getD i 0%2^(32-k)<2^(32-k):=cS _ (dJ (by omega))
  have h2:(a.getD i 0%2^(32-k)+1)*2^k≤2^(32-k)*2^k:=bV _ h1
  rw[←eK,show 32-k+k=32 by omega,cY] at h2
  omega
 refine sa J J<|zE<|sR<|sm J J<|?_
 refine sm J J<|sm J J<|sy (aar J J) rfl<|sy (abh J J (by omega) (by omega)) rfl<|?_
 rw[show((i:Int)+0).toNat=i by omega]
 refine sy (afL rfl (by omega)) rfl<|sm J J<|sy (abf rfl) rfl<|?_
 rw[show((a.getD i 0*2^k:Nat):Int)%4294967296=((a.getD i 0%2^(32-k)*2^k:Nat):Int) by rw[←hlow];rfl]
 refine sy (abX J J (av2 (ws.getD i 0) (a.getD i 0%2^(32-k)) k hwi hsum)) rfl<|sy (abh J J (by omega) (by omega)) rfl<|?_
 rw[show((i:Int)+0).toNat=i by omega]
 refine sc (aa6 (d:=ws.getD i 0+a.getD i 0%2^(32-k)*2^k) J J J (.hd ..) (by omega) rfl ?_)
 refine zE<|aal<|sm J J<|sm J J<|sm J J<|sy (aar J J) rfl<|sy (aar J J) rfl<|sm J J<|sy (ads J J (by decide)) rfl<|?_
 rw[aAN]
 have hhi:a.getD i 0*2^k/4294967296<2^k:=Nat.div_lt_of_lt_mul hvb
 refine sy (abf rfl) rfl<|sy (abh J J (by omega) (by omega)) rfl<|?_
 rw[show((i:Int)+0+1).toNat=i+1 by omega]
 refine sc (aa6 (d:=a.getD i 0*2^k/4294967296) J J (by omega) (.hd ..) (by simp;omega) rfl ?_)
 refine zE<|aal<|sy (aar J J) rfl<|sm J J<|zE<|?_
 refine aa3 ⟨(ws.set i (ws.getD i 0+a.getD i 0%2^(32-k)*2^k)).set (i+1) (a.getD i 0*2^k/4294967296),i+1⟩ ⟨by show i+1≤_;omega,by simp[hwl],(hwo.set _ hsum).set _ (by omega),fun j hj=>?_,?_,?_⟩ (by show a.length-(i+1)<a.length-i;omega) (.cons rfl (.cons rfl (.cons rfl (.cons rfl (.cons rfl (.cons rfl .nil)))))) rfl
 ·have hj':i+1<j:=hj
  show((ws.set i _).set (i+1) _).getD j 0=0
  rw[agD (by omega),agD (by omega)];exact hz j (by omega)
 ·show((ws.set i _).set (i+1) (a.getD i 0*2^k/4294967296)).getD (i+1) 0<2^k
  rw[aX,nU (by simp;omega)]
  exact hhi
 ·show dv ((ws.set i (ws.getD i 0+a.getD i 0%2^(32-k)*2^k)).set (i+1) (a.getD i 0*2^k/4294967296))=dv (a.take (i+1))*2^k
  have h1:=ae9 (ws.set i (ws.getD i 0+a.getD i 0%2^(32-k)*2^k)) (i+1) (a.getD i 0*2^k/4294967296) (by simp;omega)
  rw[agD (by omega),hz (i+1) (by omega),oU,dT] at h1
  have h2:=ae9 ws i (ws.getD i 0+a.getD i 0%2^(32-k)*2^k) (by omega)
  rw[dQ] at h2
  rw[h1,aax,cY,←hinv,bR,aiI (4294967296^i) (a.getD i 0*2^k),←hlow] at*
  rw[dV]
  omega
end Go.Sx
end
section
namespace Go.Sx
theorem axy(i:Nat):(4294967296:Nat)^(i+1)=4294967296^i*4294967296:=dV ..
theorem azS{U p V T S first third:Nat}(hU:U<(first*4294967296+third+1)*p)(h3:third<4294967296)(hV:(T*4294967296+S)*p≤V)(hT:0<T):
  U<(first/T+1)*V:=by
 have h1:first+1≤(first/T+1)*T:=by
  have:=Nat.lt_mul_div_succ first hT
  rw[bT];omega
 calc U<(first*4294967296+third+1)*p:=hU
  _≤((first+1)*4294967296)*p:=bV _ (by omega)
  _≤(((first/T+1)*T)*4294967296)*p:=bV _ (bV _ h1)
  _=(first/T+1)*((T*4294967296)*p):=by rw[bR (first/T+1),bR (first/T+1)]
  _≤(first/T+1)*V:=dY _ (cJ (bV _ (lW _ _)) hV)
theorem aFY{U p V T S first third v0:Nat}(hU:(first*4294967296+third)*p≤U)(hV:V=(T*4294967296+S)*p+v0)(hv:v0<p)(hlt:U<V*4294967296):first≤T*4294967296+S:=by
 rcases gN (T*4294967296+S) first with h|h
 ·exfalso
  have h1:(T*4294967296+S+1)*p≤first*p:=bV p h
  rw[cY _ 1,nV] at h1
  rw[cY,pR] at hU
  have:0≤third*p:=aR _
  omega
 ·exact h
theorem aCT{U p V T S first third g r:Nat}(hU:U<(first*4294967296+third+1)*p)(hV:(T*4294967296+S)*p≤V)(hg:first=g*T+r)(hc:r*4294967296+third<g*S):U<g*V:=by
 refine cM hU (cJ (bV p (m:=g*(T*4294967296+S)) ?_) ?_)
 ·rw[dQ,←bR,hg,cY];omega
 ·rw[bR];exact dY _ hV
theorem ayD{U p V T S first third g r v0:Nat}(hU:(first*4294967296+third)*p≤U)(hV:V=(T*4294967296+S)*p+v0)(hv:v0<p)(hT:0<T)(hg:first=g*T+r)(hgB:g<4294967296)(hc:g*S≤r*4294967296+third):g*V<U+V:=by
 have h1:g*((T*4294967296+S)*p)≤U:=by
  rw[←bR]
  refine cJ (bV p ?_) hU
  rw[dQ,←bR,hg,cY];omega
 have h2:g*v0≤4294967295*v0:=bV _ (by omega)
 have h3:4294967296*p≤V:=by
  rw[hV]
  refine cJ (bV p ?_) (lW _ _)
  omega
 have h4:g*V=g*((T*4294967296+S)*p)+g*v0:=by rw[←dQ,←hV]
 omega
theorem azU{U V R g:Nat}(h:U<(g+1)*V)(hr:R+g*V=U):R<V:=by
 rw[cY,nV] at h
 omega
theorem aAs{U V R R' g w M:Nat}(h2:g*V<U+V)(hr:R+g*V=U+M)(hb:R'+w*M=R+V)(hR:R<M)(hR':R'<M)(hw:w≤1)(hg:0<g):R'+(g-1)*V=U∧R'<V:=by
 have hgv:g*V=(g-1)*V+V:=by
  conv=>lhs;rw[show g=(g-1)+1 by omega,cY,nV]
 have:w=1:=by
  rcases gN w 1 with h|h
  ·have:w=0:=by omega
   subst this
   omega
  ·omega
 subst this
 omega
theorem afv(us:List Nat)(i:Nat):dv (us.drop i)=us.getD i 0+4294967296*dv (us.drop (i+1)):=by
 rcases gN i us.length with h|h
 ·rw[bQ h];simp[dv,List.getD,aQ h]
 ·rw[dW h,dW (by omega)]
  simp[dv,dX h,List.getD]
theorem aeh(us:List Nat)(i:Nat):dv us=dv (us.take i)+4294967296^i*dv (us.drop i):=by
 rcases gN us.length i with h|h
 ·rw[aV (by omega),dW (by omega)];simp[dv]
 ·exact ah7 us i h
theorem afz{us:List Nat}(h:DOk us)(i:Nat):dv (us.take i)<4294967296^i:=by
 refine cM (aee (h.take i)) (bK (by decide) ?_)
 simp[cK];omega
theorem ahY{us:List Nat}{i:Nat}(hd:dv us<4294967296^i):dv (us.drop i)=0:=by
 have h:=aeh us i
 rcases fQ (dv (us.drop i)) with h0|h0
 ·exact h0
 ·have:=dY (4294967296^i) h0
  omega
theorem azh{W W' U E p u x bo b c c1 g d:Nat}(hs:W'+p*u=W+p*x)(hw:W+E=U+(bo+c)*p)(hc:c1=c+g*d)(hx:x+(c1%4294967296+bo)=u+b*4294967296):
  W'+(E+g*d*p)=U+(b+c1/4294967296)*(p*4294967296):=by
 have h1:=congrArg (p* ·) hx
 simp only[dQ] at h1
 have h2:p*c1=p*(c1%4294967296)+p*(c1/4294967296)*4294967296:=by
  rw[bR,←dQ,Nat.mod_add_div']
 have h3:p*c1=p*c+p*(g*d):=by rw[hc,dQ]
 rw[cY,bT bo,bT c] at hw
 rw[bT (g*d),cY,←bR b,←bR (c1/4294967296),bT b,bT (c1/4294967296)]
 rw[←bR] at h1
 omega
theorem ayL{W W' U E p u x bo b c:Nat}(hs:W'+p*u=W+p*x)(hw:W+E=U+(bo+c)*p)(hx:x+(c+bo)=u+b*4294967296):W'+E=U+b*(p*4294967296):=by
 have h1:=congrArg (p* ·) hx
 simp only[dQ] at h1
 rw[cY,bT bo,bT c] at hw
 rw[←bR b,bT b]
 rw[←bR] at h1
 omega
theorem aAk{W W' R E p u d c:Nat}(hs:W'+p*u=W+p*((c+(u+d))%4294967296))(hw:W+c*p=R+E):W'+(c+(u+d))/4294967296*(p*4294967296)=R+(E+d*p):=by
 have h2:p*(c+(u+d))=p*((c+(u+d))%4294967296)+p*((c+(u+d))/4294967296)*4294967296:=by
  rw[bR,←dQ,Nat.mod_add_div']
 rw[dQ p c,dQ p u] at h2
 rw[bT c] at hw
 rw[bT d,←bR,bT _ p]
 omega
theorem ayH{W W' R p u c:Nat}(hs:W'+p*u=W+p*((u+c)%4294967296))(hw:W+c*p=R):W'+(u+c)/4294967296*(p*4294967296)=R:=by
 have h2:p*(u+c)=p*((u+c)%4294967296)+p*((u+c)/4294967296)*4294967296:=by
  rw[bR,←dQ,Nat.mod_add_div']
 rw[dQ p u] at h2
 rw[bT c] at hw
 rw[←bR,bT _ p]
 omega
theorem aEt{us:List Nat}(h:DOk us)(i:Nat)(hd:dv us<4294967296^(i+3)):
  dv us=((us.getD (i+2) 0*4294967296+us.getD (i+1) 0)*4294967296+us.getD i 0)*4294967296^i+dv (us.take i):=by
 have h0:=ahY hd
 rw[aeh us i,afv us i,afv us (i+1),afv us (i+2),h0,jX,bT]
 congr 2
 omega
theorem aED{us:List Nat}(h:DOk us)(i:Nat)(hd:dv us<4294967296^(i+2)):
  dv us=(us.getD (i+1) 0*4294967296+us.getD i 0)*4294967296^i+dv (us.take i):=by
 have h0:=ahY hd
 rw[aeh us i,afv us i,afv us (i+1),h0,jX,bT]
 congr 2
 omega
theorem agH{us:List Nat}{k i d:Nat}(h:DOk us)(hd:d<4294967296)(hk:dv us<4294967296^k)(hi:i<k):dv (us.set i d)<4294967296^k:=by
 rw[aeh _ k,List.drop_set,if_pos hi,ahY hk,oU,dT]
 exact afz (h.set i hd) k
end Go.Sx
end
section
namespace Go.Sx
open Go Go.Proofs Tryz
theorem asQ(p k a1 a2 E:Nat)(hk:k<32)(h1:a1<4294967296)(hp:p=2^k):(a1+4294967296*(a2+4294967296*E))/p=(a1+a2*4294967296)/p%4294967296+4294967296*((a2+4294967296*E)/p):=by
 subst hp
 have hp0:0<(2:Nat)^k:=dJ (by omega)
 have hB:4294967296=2^(32-k)*2^k:=by rw[←eK,show 32-k+k=32 by omega]
 -- the quotient and the rest of the quotient by the base
 have hq:(a1+4294967296*(a2+4294967296*E))/2^k/4294967296=(a2+4294967296*E)/2^k:=by
  rw[lJ,bT (2^k),←lJ,kM _ _ (by decide),jZ h1,eY]
 have hr:(a1+4294967296*(a2+4294967296*E))/2^k%4294967296=(a1+a2*4294967296)/2^k%4294967296:=by
  have e1:a1+4294967296*(a2+4294967296*E)=(a1+a2*4294967296)+2^k*(2^(32-k)*(4294967296*E)):=by
   rw[←bR (2^k),bT (2^k) (2^(32-k)),←hB]
   omega
  rw[e1,kM _ _ hp0]
  rw[show 2^(32-k)*(4294967296*E)=4294967296*(2^(32-k)*E) by rw[kQ]]
  rw[lN]
 have h:=Nat.mod_add_div ((a1+4294967296*(a2+4294967296*E))/2^k) 4294967296
 rw[hq,hr] at h
 exact h.symm
theorem arP(a:List Nat)(i:Nat):dv (a.drop i)=a.getD i 0+4294967296*dv (a.drop (i+1)):=by
 by_cases h:i<a.length
 ·rw[bQ h,aX,aQ h];rfl
 ·rw[dW (by omega),dW (by omega),ak4 (by omega)];rfl
theorem avR{a:List Nat}(ha:DOk a)(k i:Nat)(hk:k<32):dv (a.drop i)/2^k=(a.getD i 0+a.getD (i+1) 0*4294967296)/2^k%4294967296+4294967296*(dv (a.drop (i+1))/2^k):=by
 rw[arP a i,arP a (i+1)]
 exact asQ _ k _ _ _ hk (ha.get i) rfl
theorem ayF{A G:Gh}{x:SV}{ds:List Nat}{k kk:Nat}(hx:IsD A x ds)[GL A G](hk32:k<32)(hk:dv ds/2^k<2^kk)(hb:ds.length≤1125899906842):
  Fn prog 295 [x.v, .int .u64 (k:Int)] G (fun v G'=> ∃z:SV,v=z.v∧IsN kk G' z (dv ds/2^k)):=by
 have htl:=abj ds
 have hcall:=fun G1 (_:GL A G1)=>aa0 (G:=G1) hx (by omega)
 have hxt:=hx.trim
 rw[←aa7 ds] at hk⊢
 generalize trimD ds=a at*
 have hok:=hxt.ok
 refine Fn.intro func295 J J ntmps295 rfl ?_
 intro C _ _
 refine sR<|sa J J<|zE<|sR<|sm J J<|?_
 refine sc (zC J J (hcall _ inferInstance) rfl ?_)
 rintro _ G1 _ rfl
 refine sa J J<|zE<|aaj<|sR<|sm J J<|sy (ahr J J (by omega) (by omega) (by decide)) rfl<|sm J J<|ac9 J J<|sy (aaL rfl) rfl<|?_
 rw[show(k:Int)/32=0 by omega]
 refine sy (ahE J J) rfl<|zE<|?_
 refine aaG rfl (fun hc=>?_) (fun hc=>?_) -- slot 17
 ·refine sR<|sa J J<|zE<|aaK<|?_
  have:a=[]:=bY (by omega)
  subst this
  refine zD (.tmp rfl .nil) ⟨⟨none,0,0⟩,rfl,?_⟩
  have e0:dv []/2^k=0:=by simp[dv]
  rw[e0]
  exact⟨by unfold dg;exact .nil _,dJ (by omega)⟩
 refine zK<|sR<|sm J J<|sy (ahr J J (by omega) (by omega) (by decide)) rfl<|sy (ao9 rfl) rfl<|sm J J<|sy (ahk J J (by omega) (by decide)) rfl<|?_
 rw[show(k:Int)/32=0 by omega,show(k:Int)%32=k by omega]
 refine sa J J<|sa J J<|zE<|sR<|sm J J<|ac9 J J<|sm J J<|sy (aa8 J J) rfl<|?_
 refine sc (aes J J (by omega) (by omega) (by omega) (by rfl) rfl ?_)
 intro b2
 rw[adK,show((a.length:Int)-0).toNat=a.length by omega]
 refine sa J J<|zE<|aaj<|sR<|sm J J<|ac9 J J<|sm J J<|zE<|aat<|?_
 refine ab8 (X:=apG) (fun q=>[(30, .int .i64 q.i),(29, .int .i64 a.length),(0, .slice x.a a.length x.c),(5, .int .i64 0),(7, .slice (some ⟨b2,0,none⟩) a.length a.length),(6, .int .u64 k)])
  (fun q=>[⟨b2,q.ws.map dI,256,true⟩])
  (fun q _=>q.i≤a.length∧q.ws.length=a.length∧DOk q.ws∧dv a/2^k=dv (q.ws.take q.i)+4294967296^q.i*(dv (a.drop q.i)/2^k)) (fun q=>a.length-q.i) ⟨List.replicate a.length 0,0⟩
  ⟨aR _,by simp, .replicate _,by simp[dv]⟩ (.cons rfl (.cons rfl (.cons rfl (.cons rfl (.cons rfl (.cons rfl .nil)))))) rfl ?_
 rintro ⟨ws,i⟩ Gy _ ⟨hia,hwl,hwo,hinv⟩
 simp only[] at hia hwl hwo hinv⊢
 refine sR<|sy (ach J J) rfl<|zE<|aaj<|?_
 refine abv rfl (fun hc=>?_) (fun hc=>?_) -- slot 31
 ·have hin:i=a.length:=by omega
  refine aby<|abK<|abK<|aas<|sR<|sm J J<|?_
  refine acb b2 (.hd ..) (fun G3 _ hgb=>?_)
  have hD:IsD G3 ⟨some ⟨b2,0,none⟩,a.length,a.length⟩ ws:= .of_block hwo hgb.h hwl.symm (aL _) (by rw[aV (by simp)])
  have hdv:dv a/2^k=dv ws:=by
   rw[hinv,hin,aV (by omega),dS]
   simp[dv]
  refine sc (zC J J (aa0 hD (by omega)) rfl ?_)
  rintro _ G4 _ rfl
  refine sa J J<|zE<|aaK<|?_
  refine zD (.tmp rfl .nil) ⟨⟨some ⟨b2,0,none⟩,(trimD ws).length,a.length⟩,rfl,?_⟩
  have h3:=hD.trim.up (G:=G4)
  rw[hdv] at hk⊢
  exact⟨by rw[ada hwo];exact h3,hk⟩
 have hia':i<a.length:=by omega
 have hga:=hok.get i
 have hga2:=hok.get (i+1)
 refine zK<|aaj<|aat<|sR<|sm J J<|sa J J<|zE<|sR<|sm J J<|sm J J<|sm J J<|sy (aar J J) rfl<|?_
 refine sy (abR (z:=⟨x.a,a.length,x.c⟩) hxt J J (by omega) (by show((i:Int)+0)<(a.length:Nat);omega)) rfl<|?_
 rw[show((i:Int)+0).toNat=i by omega]
 refine sy (abS hxt rfl (by omega)) rfl<|sy (aaL rfl) rfl<|sa J J<|zE<|?_
 refine amB Unit (fun _=>[(30, .int .i64 i),(8, .int .i64 i),(29, .int .i64 a.length),(0, .slice x.a a.length x.c),(5, .int .i64 0),(7, .slice (some ⟨b2,0,none⟩) a.length a.length),(6, .int .u64 k),(9, .int .u64 ((a.getD i 0+a.getD (i+1) 0*2^32:Nat):Int))]) (fun _=>[⟨b2,ws.map dI,256,true⟩]) (fun _ _=>True) ?_ ?_
 ·refine sR<|sm J J<|sm J J<|sy (aar J J) rfl<|sy (aar J J) rfl<|sm J J<|ac9 J J<|sy (ach J J) rfl<|?_
  refine zE<|?_
  refine aaG rfl (fun hc2=>?_) (fun hc2=>?_) -- slot 46
  ·refine aal<|sm J J<|sm J J<|sm J J<|sm J J<|sy (aar J J) rfl<|sy (aar J J) rfl<|sy (abR (z:=⟨x.a,a.length,x.c⟩) hxt J J (by omega) (by show((i:Int)+0+1)<(a.length:Nat);omega)) rfl<|?_
   rw[show((i:Int)+0+1).toNat=i+1 by omega]
   refine sy (abS hxt rfl (by omega)) rfl<|sy (aaL rfl) rfl<|sy (aiD J J (by decide)) rfl<|?_
   rw[adU (a.getD (i+1) 0) 32 (by decide) (by omega) rfl]
   refine sy (abX J J (axC (a.getD i 0) (a.getD (i+1) 0) 32 (by omega) (by omega))) rfl<|sa J J<|zE<|?_
   exact aiN () trivial (.cons rfl (.cons rfl (.cons rfl (.cons rfl (.cons rfl (.cons rfl (.cons rfl (.cons rfl .nil)))))))) rfl
  refine zK<|?_
  have h0:a.getD (i+1) 0=0:=ak4 (by omega)
  exact aiN () trivial (.cons rfl (.cons rfl (.cons rfl (.cons rfl (.cons rfl (.cons rfl (.cons rfl (.cons (by rw[h0,kS,dT];rfl) .nil)))))))) rfl
 rintro _ Gz _ _
 refine aal<|sm J J<|sm J J<|sm J J<|sm J J<|sy (ads J J (by omega)) rfl<|?_
 rw[aeq _ k (by omega) (bZ k)]
 refine sy (abf rfl) rfl<|sy (abh J J (by omega) (by omega)) rfl<|?_
 rw[bZ]
 refine sc (aa6 (d:=(a.getD i 0+a.getD (i+1) 0*2^32)/2^k%4294967296) J J (by rw[mN];rfl) (.hd ..) (by omega) rfl ?_)
 refine zE<|aal<|sy (aar J J) rfl<|sm J J<|zE<|?_
 refine aa3 ⟨ws.set i ((a.getD i 0+a.getD (i+1) 0*2^32)/2^k%4294967296),i+1⟩ ⟨by show i+1≤_;omega,by simp[hwl],hwo.set _ (cS _ (by decide)),?_⟩ (by show a.length-(i+1)<a.length-i;omega) (.cons rfl (.cons rfl (.cons rfl (.cons rfl (.cons rfl (.cons rfl .nil)))))) rfl
 show dv a/2^k=dv ((ws.set i ((a.getD i 0+a.getD (i+1) 0*2^32)/2^k%4294967296)).take (i+1))+4294967296^(i+1)*(dv (a.drop (i+1))/2^k)
 rw[hinv,abd (by omega),avR hok k i hk32,axy i,dQ,bR,iL]
end Go.Sx
end
section
namespace Go.Sx
open Go
section
variable {P:Program} {C:Ctx} {n:Nat} {fr:Fr} {own:List Own} {G:Gh}
theorem av6{c:Code}{Q:Exit→Act→World→Prop}(h:St C n fr own G (c.wp P (Exit.noGoto Q))):St C n fr own G ((Code.scope c).wp P Q):=
 fun a w rl=>wp_scope_straight (h a w rl)
theorem auM{l:Nat}{Q:Exit→Act→World→Prop}(h:St C n fr own G (Q .normal)):St C n fr own G ((Code.label l).wp P Q):=
 fun a w rl=>wp_label (h a w rl)
def aun:Exit→Bool
 | .goto _=>false
 |_=>true
end
end Go.Sx
end
