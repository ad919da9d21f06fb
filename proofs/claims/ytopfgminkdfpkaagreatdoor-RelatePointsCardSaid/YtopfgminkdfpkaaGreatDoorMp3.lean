/- Part 3 of a proof. -/
import Derived.Test.YtopfgminkdfpkaaGreatDoorMp2
import Derived.Scope
set_option linter.unusedSimpArgs false
set_option maxHeartbeats 1000000
set_option maxRecDepth 100000
set_option linter.unusedVariables false
section
namespace Go.Sx
open Go Go.Proofs Tryz
/-! ### the number of binary digits -/
def bl(x:Nat):Nat:=if x=0 then 0 else Nat.log2 x+1
theorem av2(x:Nat):x<2^bl x:=by
 unfold bl
 split
 ·rename_i h;subst h;decide
 ·exact Nat.lt_log2_self
theorem ahH{x k:Nat}:bl x≤k↔x<2^k:=by
 constructor
 ·intro h;exact cM (av2 x) (bW (by omega) h)
 ·intro h
  unfold bl
  split
  ·omega
  ·rename_i h0
   have:=(Nat.log2_lt h0).2 h
   omega
theorem ayZ{x:Nat}(h:x≠0):bl x=1+bl (x/2):=by
 have h1: ∀k,bl x≤k+1↔bl (x/2)≤k:=fun k=>by
  rw[ahH,ahH,eX];omega
 have h2:bl x≠0:=fun e=>by
  have:=av2 x;rw[e] at this;simp at this;exact h this
 have h3:=(h1 (bl (x/2))).2 (bQ _)
 have h4:=(h1 (bl x-1)).1 (by omega)
 omega
theorem ahY: ∀(f x:Nat),x<2^f→Lib.bitLenAux f x=bl x
 |0,x,h=>by
  have:x=0:=by simpa using h
  subst this;rfl
 |f+1,x,h=>by
  unfold Lib.bitLenAux
  split
  ·rename_i h0;subst h0;rfl
  ·rename_i h0
   rw[ahY f (x/2) (by rw[eX] at h;omega),ayZ h0]
theorem at6{x:Nat}(h:x<2^64):Lib.bitLen x=bl x:=ahY 64 x h
theorem awQ{x k:Nat}(d:Nat)(h:x<2^k)(hd:d≠0):bl (x+2^k*d)=k+bl d:=by
 have h1: ∀j,bl (x+2^k*d)≤k+j↔bl d≤j:=fun j=>by
  rw[ahH,ahH,fV]
  constructor
  ·intro h'
   exact Nat.lt_of_mul_lt_mul_left (a:=2^k) (by omega)
  ·intro h'
   have:2^k*(d+1)≤2^k*2^j:=eM _ h'
   rw[cN] at this
   omega
 have h2:k<bl (x+2^k*d):=by
  rcases iZ k (bl (x+2^k*d)) with h'|h'
  ·exact h'
  ·have:=ahH.1 h'
   have h3:2^k*1≤2^k*d:=eM _ (by omega)
   omega
 have h3:=(h1 (bl d)).2 (bQ _)
 have h4:=(h1 (bl (x+2^k*d)-k)).1 (by omega)
 omega
theorem aEm{ds:List Nat}(h:DOk ds)(hn:Nrm ds)(hne:ds≠[]):bl (dv ds)=32*(ds.length-1)+bl (ds.getD (ds.length-1) 0):=by
 rcases mZ ds with rfl|⟨l,d,rfl⟩
 ·exact absurd rfl hne
 ·rw[mX] at*
  have hd:d≠0:=fun e=>by subst e;simp[Nrm] at hn
  have hl:DOk l:=fun x hx=>h x (bL _ hx)
  have h1:=aet hl
  rw[aep]
  have h2:(4294967296:Nat)^l.length=2^(32*l.length):=by rw[oU]
  rw[h2] at h1⊢
  have h3:dv [d]=d:=by simp[dv]
  rw[h3,awQ d h1 hd]
  have h4:(l++[d]).length-1=l.length:=by simp
  rw[h4,aK,fM (bQ _)]
  simp
theorem ajU{P:Program}{f:FuncId}{fn:Func}{c:Code}(h:P.funcs[f]? =some fn)(hb:fn.body=some c)(hn:(fn.name== "runtime.NumGoroutine")=false):adA P f:=⟨fn,h,hn,by rw[hb];rfl⟩
theorem ajD{G:Gh}{x:Nat}(hx:x<4294967296):Fn prog 272 [.int .u32 (x:Int)] G (fun v _=>v= .int .i64 (32-(bl x:Int))):=by
 have h:=Fn.of_calls (G:=G) (ajU func272 J J) (fun w=>Tryz.bits_LeadingZeros32 (x:Int) w (by omega) (by omega))
 rw[bX,at6 (oL hx (by decide))] at h
 exact h
/-! ### FromUint, Uint, Bits -/
theorem afo{G:Gh}{u:Nat}(hu:u<18446744073709551616):Fn prog 238 [.int .u64 (u:Int)] G (fun v G'=> ∃z:SV,v=z.v∧IsN 64 G' z u):=by
 refine Fn.intro func238 J J ntmps238 rfl ?_
 intro C _ _
 refine sR<|sa J J<|zE<|sR<|sm J J<|sy (abi rfl) rfl<|sm J J<|?_
 refine sy (adL J J (by decide)) rfl<|sy (abi rfl) rfl<|?_
 refine sc (aiv (by rfl) (by rfl) (by rfl) (by rfl) rfl ?_)
 intro b1
 refine aco b1 (.hd ..) (fun G1 _ hgb=>?_)
 have h1:((u:Int)%4294967296)=((u%4294967296:Nat):Int):=by omega
 have h2:((u:Int).fdiv (2^min (32:Int).toNat IntKind.u64.bits)%4294967296)=((u/4294967296:Nat):Int):=by
  have:(2^min (32:Int).toNat IntKind.u64.bits:Int)=4294967296:=by decide
  rw[this,gQ _ (by omega)]
  omega
 have hok:DOk [u%4294967296,u/4294967296]:= .cons (by omega) (.cons (by omega) .nil)
 have hd:IsD G1 ⟨some ⟨b1,0,none⟩,2,2⟩ [u%4294967296,u/4294967296]:= .of_block hok hgb.h rfl (bQ _) (by rw[h1,h2];rfl)
 have hv:dv [u%4294967296,u/4294967296]=u:=by simp only[dv];omega
 refine sc (zC J J (aa3 hd (by simp)) rfl ?_)
 rintro _ G2 _ rfl
 refine sa J J<|zE<|aaL<|?_
 refine zD (.tmp rfl .nil) ⟨⟨some ⟨b1,0,none⟩,(trimD [u%4294967296,u/4294967296]).length,2⟩,rfl,?_⟩
 have:=hd.trim.up (G:=G2)
 rw[←ado hok,hv] at this
 exact⟨by rw[←ado hok,hv];exact this,cM hu (by decide)⟩
theorem ayt{P:Program}{t:TypeId}(a b k:Nat)(ha:a<2^k)(h:a+b*2^k<18446744073709551616)(w:World):(binOp .or t (.int .u64 (a:Int)) (.int .u64 ((b*2^k:Nat):Int))).run P w= .ok (.int .u64 ((a+b*2^k:Nat):Int)) w:=by
 have h1:(BitVec.ofInt 64 (a:Int) ||| BitVec.ofInt 64 ((b*2^k:Nat):Int)).toNat=a+b*2^k:=by
  rw[BitVec.toNat_or,BitVec.ofInt_natCast,BitVec.ofInt_natCast,BitVec.toNat_ofNat,BitVec.toNat_ofNat,fZ (by omega),fZ (by omega)]
  rw[←kM,Nat.or_comm,←lQ ha,kM]
  omega
 have h2:IntKind.u64.wrap ((a+b*2^k:Nat):Int)=((a+b*2^k:Nat):Int):=by rw[ab1];omega
 simp only[binOp]
 show(Op.intBits .or .u64 (a:Int) ((b*2^k:Nat):Int)).run P w=_
 unfold Op.intBits
 show(pure (Value.int .u64 (IntKind.u64.wrap ((BitVec.ofInt 64 (a:Int) ||| BitVec.ofInt 64 ((b*2^k:Nat):Int)).toNat:Int))):Sem Value).run P w=_
 rw[h1,h2,aao]
theorem alq{A G:Gh}{x:SV}{ds:List Nat}(hx:IsD A x ds)[GL A G](hb:ds.length≤1125899906842624):Fn prog 235 [x.v] G (fun v _=>v= .tuple #[.int .u64 ((if dv ds<18446744073709551616 then dv ds else 0:Nat):Int), .bool (decide (dv ds<18446744073709551616))]):=by
 have htl:=abp ds
 have hdv:=abc ds
 have hok:=hx.ok.trimD
 have hnr:=Nrm.trimD ds
 have hxt:=hx.trim
 have hcall:=fun G1 (_:GL A G1)=>aa3 (G:=G1) hx (by omega)
 generalize trimD ds=es at*
 have hlen:=hxt.len
 rw[←hdv]
 have hbig:(if dv es<18446744073709551616 then dv es else 0)=if es.length≤2 then dv es else 0:=by
  by_cases h2:es.length≤2
  ·have h3:=aet hok
   have h4:(4294967296:Nat)^es.length≤4294967296^2:=bW (by omega) h2
   rw[if_pos h2,if_pos (by omega)]
  ·have h3:=af8 hnr (fun e=>by subst e;simp at h2)
   have h4:(4294967296:Nat)^2≤4294967296^(es.length-1):=bW (by omega) (by omega)
   rw[if_neg h2,if_neg (by omega)]
 have hbig2:decide (dv es<18446744073709551616)=decide (es.length≤2):=by
  rw[decide_eq_decide]
  by_cases h2:es.length≤2
  ·have h3:=aet hok
   have h4:(4294967296:Nat)^es.length≤4294967296^2:=bW (by omega) h2
   exact⟨fun _=>h2,fun _=>by omega⟩
  ·have h3:=af8 hnr (fun e=>by subst e;simp at h2)
   have h4:(4294967296:Nat)^2≤4294967296^(es.length-1):=bW (by omega) (by omega)
   exact⟨fun _=>by omega,fun h=>absurd h h2⟩
 rw[hbig,hbig2]
 refine Fn.intro func235 J J ntmps235 rfl ?_
 intro C _ _
 refine sR<|sa J J<|sa J J<|zE<|sR<|sm J J<|?_
 refine sc (zC J J (hcall _ inferInstance) rfl ?_)
 rintro _ G1 _ rfl
 refine sa J J<|zE<|aak<|sR<|sm J J<|adk J J<|sy (af2 J J) rfl<|zE<|?_
 refine aaI rfl (fun hc=>?_) (fun hc=>?_) -- slot 11
 ·refine sR<|sa J J<|sa J J<|zE<|aaL<|?_
  refine zD (.tmp rfl (.tmp rfl .nil)) ?_
  have: ¬es.length≤2:=by omega
  simp[abT,this]
 have h2:es.length≤2:=by omega
 refine zK<|sR<|sa J J<|zE<|aak<|sR<|sm J J<|adk J J<|sm J J<|zE<|aat<|?_
 refine ab9 (X:=Nat) (fun k=>[(14, .int .i64 k),(13, .int .i64 es.length),(12, .slice x.a es.length x.c),(4, .int .u64 ((dv (es.take k):Nat):Int))]) (fun _=>[]) (fun k _=>k≤es.length) (fun k=>es.length-k) 0 (bZ _) (.cons rfl (.cons rfl (.cons rfl (.cons rfl .nil)))) rfl ?_
 rintro k Gx _ hk
 refine sR<|sy (acl J J) rfl<|zE<|aak<|?_
 refine abo rfl (fun hc=>?_) (fun hc=>?_) -- slot 15
 ·refine abx<|abL<|abL<|aau<|sR<|sm J J<|sa J J<|sa J J<|zE<|aaL<|?_
  refine zD (.tmp rfl (.tmp rfl .nil)) ?_
  have hk':k=es.length:=by omega
  subst hk'
  simp[abT,h2]
 have hk':k<es.length:=by omega
 have hdk:=hok.get k
 have hdt:=aet (hok.take k)
 rw[cV,fT (by omega)] at hdt
 have hds:=aaz es k
 have hd2:=aet (hok.take (k+1))
 rw[cV,fT (by omega)] at hd2
 have hp2:(4294967296:Nat)^(k+1)≤4294967296^2:=bW (by omega) (by omega)
 have hpk:(4294967296:Nat)^k=2^(32*k):=by rw[oU]
 refine zK<|aak<|aat<|sR<|sm J J<|sy (ab2 (z:=⟨x.a,es.length,x.c⟩) hxt J J (by omega) (by show(k:Int)<(es.length:Nat);omega)) rfl<|sy (ab3 hxt rfl (by omega)) rfl<|sa J J<|sa J J<|zE<|aal<|?_
 refine sm J J<|sm J J<|sy (aaM rfl (by omega) (by rw[bX];omega)) rfl<|sm J J<|sy (aqc J J (by omega) (by omega)) rfl<|?_
 have hsh:IntKind.u64.wrap (((es.getD (k:Int).toNat 0:Nat):Int)*2^min ((32:Int)*(k:Int)).toNat IntKind.u64.bits)=((es.getD k 0*2^(32*k):Nat):Int):=by
  have e1:((32:Int)*(k:Int)).toNat=32*k:=by omega
  rw[e1,bX,fT (by show 32*k≤64;omega),ab1]
  have e2:((es.getD k 0:Nat):Int)*2^(32*k)=((es.getD k 0*2^(32*k):Nat):Int):=by push_cast;rfl
  rw[e2]
  have e3:es.getD k 0*2^(32*k)<18446744073709551616:=by rw[←hpk,bN];omega
  omega
 refine sy (ajZ J J (by omega)) rfl<|?_
 rw[hsh]
 refine sy (ab4 J J (ayt (dv (es.take k)) (es.getD k 0) (32*k) (by rw[←hpk];exact hdt) (by rw[←hpk,bN];omega))) rfl<|sa J J<|zE<|aal<|sy (aar J J) rfl<|sm J J<|zE<|?_
 refine aa0 (k+1) (by omega) (by omega) (.cons rfl (.cons rfl (.cons rfl (.cons ?_ .nil)))) rfl
 rw[hds,hpk,bN (2^(32*k))]
 rfl
theorem awx{A G:Gh}{x:SV}{ds:List Nat}(hx:IsD A x ds)[GL A G](hb:ds.length≤1125899906842624):Fn prog 231 [x.v] G (fun v _=>v= .int .i64 ((bl (dv ds):Nat):Int)):=by
 have htl:=abp ds
 have hdv:=abc ds
 have hok:=hx.ok.trimD
 have hnr:=Nrm.trimD ds
 have hxt:=hx.trim
 have hcall:=fun G1 (_:GL A G1)=>aa3 (G:=G1) hx (by omega)
 generalize trimD ds=es at*
 have hlen:=hxt.len
 rw[←hdv]
 refine Fn.intro func231 J J ntmps231 rfl ?_
 intro C _ _
 refine sR<|sa J J<|zE<|sR<|sm J J<|?_
 refine sc (zC J J (hcall _ inferInstance) rfl ?_)
 rintro _ G1 _ rfl
 refine sa J J<|zE<|aak<|sR<|sm J J<|adk J J<|sy (ab6 J J) rfl<|zE<|?_
 refine aaI rfl (fun hc=>?_) (fun hc=>?_) -- slot 7
 ·refine sR<|sa J J<|zE<|aaL<|?_
  refine zD (.tmp rfl .nil) ?_
  have:es=[]:=bS (by omega)
  subst this
  rfl
 have hne:0<es.length:=by omega
 have hkt:((es.length:Int)-1).toNat=es.length-1:=by omega
 have hg:=hok.get (es.length-1)
 have hbl:bl (es.getD (es.length-1) 0)≤32:=ahH.2 (by omega)
 refine zK<|sR<|sm J J<|adk J J<|sy (aqc J J (by omega) (by omega)) rfl<|sm J J<|sm J J<|adk J J<|sy (aa6 J J) rfl<|?_
 refine sy (ab2 (z:=⟨x.a,es.length,x.c⟩) hxt J J (by omega) (by show _<((es.length:Nat):Int);omega)) rfl<|sy (ab3 hxt rfl (by omega)) rfl<|?_
 rw[hkt]
 refine sc (zC J J (ajD hg) rfl ?_)
 rintro _ G2 _ rfl
 refine sy (aa6 J J) rfl<|sa J J<|zE<|aaL<|?_
 refine zD (.tmp rfl .nil) ?_
 rw[aEm hok hnr (fun e=>by subst e;simp at hne)]
 simp only[abT,Value.int.injEq,true_and]
 omega
def ahD(a b:Nat):Int:=if a<b then-1 else if a=b then 0 else 1
theorem auc{A B G:Gh}{x y:SV}{ds es:List Nat}(hx:IsD A x ds)(hy:IsD B y es)[GL A G][GL B G](hb:ds.length≤1125899906842624)(hb2:es.length≤1125899906842624):
  Fn prog 273 [x.v,y.v] G (fun v _=>v= .int .i64 (ahD (dv ds) (dv es))):=by
 have htl:=abp ds
 have htl2:=abp es
 have hcall:=fun G1 (_:GL A G1)=>aa3 (G:=G1) hx (by omega)
 have hcall2:=fun G1 (_:GL B G1)=>aa3 (G:=G1) hy (by omega)
 have hxt:=hx.trim
 have hyt:=hy.trim
 have hok:=hx.ok.trimD
 have hok2:=hy.ok.trimD
 have hnr:=Nrm.trimD ds
 have hnr2:=Nrm.trimD es
 rw[←abc ds,←abc es]
 generalize trimD ds=a at*
 generalize trimD es=b at*
 refine Fn.intro func273 J J ntmps273 rfl ?_
 intro C _ _
 refine sR<|sa J J<|zE<|sR<|sm J J<|?_
 refine sc (zC J J (hcall _ inferInstance) rfl ?_)
 rintro _ G1 _ rfl
 refine sm J J<|?_
 refine sc (zC J J (hcall2 _ inferInstance) rfl ?_)
 rintro _ G2 _ rfl
 refine sa J J<|sa J J<|zE<|aak<|sR<|sm J J<|adk J J<|sm J J<|adk J J<|sy (ahR J J) rfl<|zE<|?_
 refine aaI rfl (fun hc=>?_) (fun hc=>?_) -- slot 14
 ·refine aak<|sR<|sm J J<|adk J J<|sm J J<|adk J J<|sy (acl J J) rfl<|zE<|?_
  refine aaI rfl (fun hc2=>?_) (fun hc2=>?_) -- slot 19
  ·refine sR<|sa J J<|zE<|aaL<|?_
   refine zD (.tmp rfl .nil) ?_
   have:=acP hok hnr2 (by omega)
   simp[abT,ahD,this]
  refine zK<|sR<|sa J J<|zE<|aaL<|?_
  refine zD (.tmp rfl .nil) ?_
  have:=acP hok2 hnr (by omega)
  have h1: ¬dv a<dv b:=by omega
  have h2: ¬dv a=dv b:=by omega
  simp[abT,ahD,h1,h2]
 have hl:a.length=b.length:=by omega
 refine zK<|aak<|sR<|sm J J<|adk J J<|sy (aa6 J J) rfl<|sa J J<|zE<|aat<|?_
 refine ab9 (X:=Nat) (fun k=>[(5, .int .i64 (k-1)),(0, .slice x.a a.length x.c),(1, .slice y.a b.length y.c)]) (fun _=>[]) (fun k _=>k≤a.length∧a.drop k=b.drop k) (fun k=>k) a.length ⟨bQ _,by rw[dJ,hl,dJ]⟩ (.cons rfl (.cons rfl (.cons rfl .nil))) rfl ?_
 rintro k Gx _ ⟨hk,hd⟩
 refine aak<|sR<|sm J J<|sy (ahP J J) rfl<|zE<|?_
 refine abo rfl (fun hc=>?_) (fun hc=>?_) -- slot 24
 ·refine abx<|abL<|abL<|aau<|sR<|sa J J<|zE<|aaL<|?_
  refine zD (.tmp rfl .nil) ?_
  have:k=0:=by omega
  subst this
  have hab:a=b:=by simpa using hd
  subst hab
  simp[abT,ahD]
 have hk1:0<k:=by omega
 have hkt:((k:Int)-1).toNat=k-1:=by omega
 have hga:=hok.get (k-1)
 have hgb:=hok2.get (k-1)
 have hk2:k-1+1=k:=by omega
 refine zK<|aak<|aat<|aat<|aak<|dr (fun _=>false) [(0,true),(1,true),(2,true),(3,true),(4,true),(5,true),(6,true),(7,true),(8,true),(9,true)] follows (by kernel_rfl)<|?_
 refine dM J J J<|dM J J J<|dy rfl (fun _=>ab2 (z:=⟨x.a,a.length,x.c⟩) hxt J J (by omega) (by show _<((a.length:Nat):Int);omega)) J J<|dy rfl (fun _=>ab3 hxt rfl (by omega)) J J<|?_
 refine dM J J J<|dM J J J<|dy rfl (fun _=>ab2 (z:=⟨y.a,b.length,y.c⟩) hyt J J (by omega) (by show _<((b.length:Nat):Int);omega)) J J<|dy rfl (fun _=>ab3 hyt rfl (by omega)) J J<|?_
 refine dy rfl (fun _=>acl J J) J J<|dA J J J<|dn<|?_
 refine aaI rfl (fun hc2=>?_) (fun hc2=>?_) -- slot 27
 ·refine sR<|sa J J<|zE<|aaL<|?_
  refine zD (.tmp rfl .nil) ?_
  rw[hkt] at hc2
  have:=aqC hok hok2 (k-1) (by omega) (by omega) hl (by rw[hk2];exact hd) (by omega)
  simp[abT,ahD,this]
 refine aak<|dr (fun _=>false) [(0,true),(1,true),(2,true),(3,true),(4,true),(5,true),(6,true),(7,true),(8,true),(9,true)] follows (by kernel_rfl)<|dM J J J<|?_
 refine dM J J J<|dy rfl (fun _=>ab2 (z:=⟨x.a,a.length,x.c⟩) hxt J J (by omega) (by show _<((a.length:Nat):Int);omega)) J J<|dy rfl (fun _=>ab3 hxt rfl (by omega)) J J<|dM J J J<|?_
 refine dM J J J<|dy rfl (fun _=>ab2 (z:=⟨y.a,b.length,y.c⟩) hyt J J (by omega) (by show _<((b.length:Nat):Int);omega)) J J<|dy rfl (fun _=>ab3 hyt rfl (by omega)) J J<|dy rfl (fun _=>af2 J J) J J<|?_
 refine dA J J J<|dn<|?_
 rw[hkt] at*
 refine aaI rfl (fun hc3=>?_) (fun hc3=>?_) -- slot 37
 ·refine sR<|sa J J<|zE<|aaL<|?_
  refine zD (.tmp rfl .nil) ?_
  have:=aqC hok2 hok (k-1) (by omega) (by omega) hl.symm (by rw[hk2];exact hd.symm) (by omega)
  have h1: ¬dv a<dv b:=by omega
  have h2: ¬dv a=dv b:=by omega
  simp[abT,ahD,h1,h2]
 refine zK<|aal<|sm J J<|sy (aa6 J J) rfl<|sa J J<|zE<|?_
 refine aa0 (k-1) ⟨by omega,?_⟩ (by omega) (.cons (by rw[show((k-1:Nat):Int)=(k:Int)-1 by omega];rfl) (.cons rfl (.cons rfl .nil))) rfl
 have heq:a.getD (k-1) 0=b.getD (k-1) 0:=by omega
 rw[aK,aK,aZ (by omega),aZ (by omega)] at heq
 rw[aS (by omega:k-1<a.length),aS (by omega:k-1<b.length),hk2,hd]
 congr 1
theorem aly{ds:List Nat}{k:Nat}(h:ds.length≤k):ds.getD k 0=0:=by
 rw[aK,cR h];rfl
theorem al6(n k:Nat):(List.replicate n 0).getD k 0=0:=by
 rw[aK]
 by_cases h:k<n
 ·simp[h]
 ·rw[cR (by simpa using h)];rfl
theorem aCX{a b c:Nat}(ha:a<4294967296)(hb:b<4294967296)(hc:c≤1):(c+a+b)/4294967296≤1:=by omega
structure aBv where
 ws:List Nat
 k:Nat
 c:Nat
theorem azy{A B G:Gh}{x y:SV}{ds es:List Nat}{kk:Nat}(hx:IsD A x ds)(hy:IsD B y es)[GL A G][GL B G](hk:dv ds+dv es<2^kk)(hb:ds.length≤1125899906842)(hb2:es.length≤1125899906842):
  Fn prog 269 [x.v,y.v] G (fun v G'=> ∃z:SV,v=z.v∧IsN kk G' z (dv ds+dv es)):=by
 have hlen:=hx.len
 have hlen2:=hy.len
 refine Fn.intro func269 J J ntmps269 rfl ?_
 intro C _ _
 refine sR<|sa J J<|zE<|?_
 refine am9 ((SV×List Nat)×(SV×List Nat)) (fun q=>[(0, .slice q.1.1.a q.1.1.n q.1.1.c),(1, .slice q.2.1.a q.2.1.n q.2.1.c)]) (fun _=>[])
  (fun q G=>IsD G q.1.1 q.1.2∧IsD G q.2.1 q.2.2∧dv q.1.2+dv q.2.2=dv ds+dv es∧q.2.2.length≤q.1.2.length∧q.1.2.length≤1125899906842) ?_ ?_
 ·refine sR<|sm J J<|adk J J<|sm J J<|adk J J<|sy (acl J J) rfl<|zE<|?_
  refine aaI rfl (fun hc=>?_) (fun hc=>?_) -- slot 13
  ·refine aal<|sm J J<|sm J J<|sa J J<|sa J J<|zE<|?_
   exact ajX ((y,es),(x,ds)) ⟨hy.up,hx.up,by simp;omega,by simp;omega,by simp;omega⟩ (.cons rfl (.cons rfl .nil)) rfl
  refine zK<|?_
  exact ajX ((x,ds),(y,es)) ⟨hx.up,hy.up,rfl,by simp;omega,by simp;omega⟩ (.cons rfl (.cons rfl .nil)) rfl
 rintro ⟨⟨x,a⟩,⟨y,b⟩⟩ Gx _ ⟨hx,hy,hsum,hle,hba⟩
 rw[←hsum] at hk⊢
 clear hlen hlen2 hsum
 have hlen:=hx.len
 have hlen2:=hy.len
 simp only[] at hx hy hle hba hlen hlen2 hk⊢
 refine sR<|sm J J<|adk J J<|sy (aar J J) rfl<|?_
 refine sc (aeQ J J (by omega) (by omega) (by omega) (by rfl) rfl ?_)
 intro b1
 rw[aeb,show((x.n:Int)+1).toNat=a.length+1 by omega]
 refine sa J J<|zE<|sR<|sa J J<|zE<|aak<|sR<|sm J J<|adk J J<|sm J J<|zE<|aat<|?_
 refine ab9 (X:=aBv) (fun q=>[(22, .int .i64 q.k),(21, .int .i64 x.n),(20, .slice x.a x.n x.c),(6, .int .u64 q.c),(0, .slice x.a x.n x.c),(1, .slice y.a y.n y.c),(5, .slice (some ⟨b1,0,none⟩) (a.length+1) (a.length+1))])
  (fun q=>[⟨b1,q.ws.map dI,262,true⟩])
  (fun q _=>q.k≤a.length∧q.ws.length=a.length+1∧DOk q.ws∧q.c≤1∧dv (q.ws.take q.k)+4294967296^q.k*q.c=dv (a.take q.k)+dv (b.take q.k)) (fun q=>a.length-q.k) ⟨List.replicate (a.length+1) 0,0,0⟩
  ⟨bZ _,by simp, .replicate _,bZ _,by simp[dv]⟩ (.cons rfl (.cons rfl (.cons rfl (.cons rfl (.cons rfl (.cons rfl (.cons rfl .nil))))))) rfl ?_
 rintro ⟨ws,k,c⟩ Gy _ ⟨hka,hwl,hwo,hc1,hinv⟩
 simp only[] at hka hwl hwo hc1 hinv⊢
 refine sR<|sy (acl J J) rfl<|zE<|aak<|?_
 refine abo rfl (fun hc=>?_) (fun hc=>?_) -- slot 23
 ·have hkn:k=a.length:=by omega
  refine abx<|abL<|abL<|aau<|sR<|sm J J<|sm J J<|adk J J<|sm J J<|sy (abi rfl) rfl<|?_
  refine sy (abg J J (by omega) (by omega)) rfl<|?_
  refine sc (aa9 (d:=c) J J (by omega) (.hd ..) (by omega) rfl ?_)
  rw[show(x.n:Int).toNat=a.length by omega]
  refine zE<|sR<|sm J J<|?_
  refine aco b1 (.hd ..) (fun G1 _ hgb=>?_)
  have hwo2:DOk (ws.set a.length c):=hwo.set _ (by omega)
  have hD:IsD G1 ⟨some ⟨b1,0,none⟩,a.length+1,a.length+1⟩ (ws.set a.length c):= .of_block hwo2 hgb.h (by simp[hwl]) (bQ _) (by rw[aT (by simp)])
  have hdv:dv (ws.set a.length c)=dv a+dv b:=by
   have h1:=abh (ws:=ws) (k:=a.length) (d:=c) (by omega)
   rw[aT (by simp;omega)] at h1
   rw[h1,←hkn,hinv,hkn,aT (bQ _),aT hle]
  refine sc (zC J J (aa3 hD (by simp;omega)) rfl ?_)
  rintro _ G2 _ rfl
  refine sa J J<|zE<|aaL<|?_
  refine zD (.tmp rfl .nil) ⟨⟨some ⟨b1,0,none⟩,(trimD (ws.set a.length c)).length,a.length+1⟩,rfl,?_⟩
  have h3:=hD.trim.up (G:=G2)
  rw[←hdv] at hk⊢
  exact⟨by rw[ado hwo2];exact h3,hk⟩
 have hka':k<a.length:=by omega
 have hga:=hx.ok.get k
 have hgb:=hy.ok.get k
 refine zK<|aak<|aat<|sR<|sm J J<|sy (ab2 hx J J (by omega) (by omega)) rfl<|sy (ab3 hx rfl (by omega)) rfl<|sa J J<|sa J J<|zE<|aak<|?_
 refine aal<|sm J J<|sm J J<|sy (aaM rfl (by omega) (by rw[bX];omega)) rfl<|sy (aeh J J (by omega) (by rw[bX];omega)) rfl<|sa J J<|zE<|?_
 rw[bX]
 refine am9 Unit (fun _=>[(22, .int .i64 k),(7, .int .i64 k),(21, .int .i64 x.n),(20, .slice x.a x.n x.c),(6, .int .u64 ((c+a.getD k 0+b.getD k 0:Nat):Int)),(0, .slice x.a x.n x.c),(1, .slice y.a y.n y.c),(5, .slice (some ⟨b1,0,none⟩) (a.length+1) (a.length+1))]) (fun _=>[⟨b1,ws.map dI,262,true⟩]) (fun _ _=>True) ?_ ?_
 ·refine sR<|sm J J<|sm J J<|adk J J<|sy (acl J J) rfl<|zE<|?_
  refine aaI rfl (fun hc2=>?_) (fun hc2=>?_) -- slot 34
  ·refine aal<|sm J J<|sm J J<|sm J J<|sy (ab2 hy J J (by omega) (by omega)) rfl<|sy (ab3 hy rfl (by omega)) rfl<|sy (aaM rfl (by omega) (by rw[bX];omega)) rfl<|?_
   rw[bX]
   refine sy (aeh J J) rfl<|sa J J<|zE<|?_
   exact ajX () trivial (.cons rfl (.cons rfl (.cons rfl (.cons rfl (.cons (by rw[rU,rU];rfl) (.cons rfl (.cons rfl (.cons rfl .nil)))))))) rfl
  refine zK<|?_
  have h0:b.getD k 0=0:=aly (by omega)
  exact ajX () trivial (.cons rfl (.cons rfl (.cons rfl (.cons rfl (.cons (by rw[h0,dY,rU];rfl) (.cons rfl (.cons rfl (.cons rfl .nil)))))))) rfl
 rintro _ Gz _ _
 generalize hcc:c+a.getD k 0+b.getD k 0=cc
 have hcb:cc/4294967296≤1:=by rw[←hcc];exact aCX hga hgb hc1
 refine sR<|sm J J<|sm J J<|sm J J<|sy (abi rfl) rfl<|sy (abg J J (by omega) (by omega)) rfl<|?_
 rw[bX]
 refine sc (aa9 (d:=cc%4294967296) J J (by omega) (.hd ..) (by omega) rfl ?_)
 refine zE<|aal<|sm J J<|sy (adL J J (by decide)) rfl<|sa J J<|zE<|aal<|sy (aar J J) rfl<|sm J J<|zE<|?_
 have hsh:((cc:Int).fdiv (2^min (32:Int).toNat IntKind.u64.bits))=((cc/4294967296:Nat):Int):=by
  have:(2^min (32:Int).toNat IntKind.u64.bits:Int)=4294967296:=by decide
  rw[this,gQ _ (by omega)];rfl
 rw[hsh]
 refine aa0 ⟨ws.set k (cc%4294967296),k+1,cc/4294967296⟩ ⟨by show k+1≤_;omega,by simp[hwl],hwo.set _ (by omega),hcb,?_⟩ (by show a.length-(k+1)<a.length-k;omega) (.cons rfl (.cons rfl (.cons rfl (.cons rfl (.cons rfl (.cons rfl (.cons rfl .nil))))))) rfl
 show dv ((ws.set k (cc%4294967296)).take (k+1))+4294967296^(k+1)*(cc/4294967296)=dv (a.take (k+1))+dv (b.take (k+1))
 rw[abh (by omega),aaz a,aaz b,←hcc,eX]
 exact aqi hinv
structure aBj where
 ws:List Nat
 k:Nat
 c:Nat
theorem aCw(p:Int)(h0:0≤p):p.fdiv (2^min (63:Int).toNat IntKind.u64.bits)=p/9223372036854775808:=by
 have:(2^min (63:Int).toNat IntKind.u64.bits:Int)=9223372036854775808:=by decide
 rw[this,gQ _ (by omega)]
theorem aCY(p:Nat):((p:Int).fdiv (2^min (32:Int).toNat IntKind.u64.bits))=((p/4294967296:Nat):Int):=by
 have:(2^min (32:Int).toNat IntKind.u64.bits:Int)=4294967296:=by decide
 rw[this,gQ _ (by omega)];rfl
theorem aw9{A B G:Gh}{x y:SV}{a b:List Nat}{kk:Nat}(hx:IsD A x a)(hy:IsD B y b)[GL A G][GL B G](hle:b.length≤a.length)(hge:dv b≤dv a)(hk:dv a<2^kk)(hba:a.length≤1125899906842):
  Fn prog 300 [x.v,y.v] G (fun v G'=> ∃z:SV,v=z.v∧IsN kk G' z (dv a-dv b)):=by
 have hlen:=hx.len
 have hlen2:=hy.len
 refine Fn.intro func300 J J ntmps300 rfl ?_
 intro C _ _
 refine sR<|sa J J<|zE<|sR<|sm J J<|adk J J<|?_
 refine sc (aeQ J J (by omega) (by omega) (by omega) (by rfl) rfl ?_)
 intro b1
 rw[aeb,show(x.n:Int).toNat=a.length by omega]
 refine sa J J<|zE<|sR<|sa J J<|zE<|aak<|sR<|sm J J<|adk J J<|sm J J<|zE<|aat<|?_
 refine ab9 (X:=aBj) (fun q=>[(16, .int .i64 q.k),(15, .int .i64 x.n),(14, .slice x.a x.n x.c),(6, .int .u64 q.c),(1, .slice y.a y.n y.c),(5, .slice (some ⟨b1,0,none⟩) a.length a.length)])
  (fun q=>[⟨b1,q.ws.map dI,262,true⟩])
  (fun q _=>q.k≤a.length∧q.ws.length=a.length∧DOk q.ws∧q.c≤1∧dv (q.ws.take q.k)+dv (b.take q.k)=dv (a.take q.k)+4294967296^q.k*q.c) (fun q=>a.length-q.k) ⟨List.replicate a.length 0,0,0⟩
  ⟨bZ _,by simp, .replicate _,bZ _,by simp[dv]⟩ (.cons rfl (.cons rfl (.cons rfl (.cons rfl (.cons rfl (.cons rfl .nil)))))) rfl ?_
 rintro ⟨ws,k,c⟩ Gy _ ⟨hka,hwl,hwo,hc1,hinv⟩
 simp only[] at hka hwl hwo hc1 hinv⊢
 refine sR<|sy (acl J J) rfl<|zE<|aak<|?_
 refine abo rfl (fun hc=>?_) (fun hc=>?_) -- slot 17
 ·have hkn:k=a.length:=by omega
  refine abx<|abL<|abL<|aau<|sR<|sm J J<|?_
  refine aco b1 (.hd ..) (fun G1 _ hgb=>?_)
  have hD:IsD G1 ⟨some ⟨b1,0,none⟩,a.length,a.length⟩ ws:= .of_block hwo hgb.h hwl.symm (bQ _) (by rw[aT (by simp)])
  have hdv:dv ws=dv a-dv b:=by
   rw[hkn,aT (by omega),aT hle,aT (bQ _)] at hinv
   have h2:=aet hwo
   rw[hwl] at h2
   rcases eY c with h0|h0
   ·subst h0;omega
   ·have:c=1:=by omega
    subst this;omega
  refine sc (zC J J (aa3 hD (by omega)) rfl ?_)
  rintro _ G2 _ rfl
  refine sa J J<|zE<|aaL<|?_
  refine zD (.tmp rfl .nil) ⟨⟨some ⟨b1,0,none⟩,(trimD ws).length,a.length⟩,rfl,?_⟩
  have h3:=hD.trim.up (G:=G2)
  rw[←hdv]
  exact⟨by rw[ado hwo];exact h3,by omega⟩
 have hka':k<a.length:=by omega
 have hga:=hx.ok.get k
 have hgb:=hy.ok.get k
 refine zK<|aak<|aat<|sR<|sm J J<|sy (ab2 hx J J (by omega) (by omega)) rfl<|sy (ab3 hx rfl (by omega)) rfl<|sa J J<|sa J J<|zE<|aak<|?_
 rw[bX]
 refine aal<|sm J J<|sa J J<|zE<|?_
 refine am9 Unit (fun _=>[(16, .int .i64 k),(7, .int .i64 k),(15, .int .i64 x.n),(14, .slice x.a x.n x.c),(8, .int .u32 ((a.getD k 0:Nat):Int)),(9, .int .u64 ((c+b.getD k 0:Nat):Int)),(1, .slice y.a y.n y.c),(5, .slice (some ⟨b1,0,none⟩) a.length a.length)]) (fun _=>[⟨b1,ws.map dI,262,true⟩]) (fun _ _=>True) ?_ ?_
 ·refine sR<|sm J J<|sm J J<|adk J J<|sy (acl J J) rfl<|zE<|?_
  refine aaI rfl (fun hc2=>?_) (fun hc2=>?_) -- slot 25
  ·refine aal<|sm J J<|sm J J<|sm J J<|sy (ab2 hy J J (by omega) (by omega)) rfl<|sy (ab3 hy rfl (by omega)) rfl<|sy (aaM rfl (by omega) (by rw[bX];omega)) rfl<|?_
   rw[bX]
   refine sy (aeh J J) rfl<|sa J J<|zE<|?_
   exact ajX () trivial (.cons rfl (.cons rfl (.cons rfl (.cons rfl (.cons rfl (.cons (by rw[rU];rfl) (.cons rfl (.cons rfl .nil)))))))) rfl
  refine zK<|?_
  have h0:b.getD k 0=0:=aly (by omega)
  exact ajX () trivial (.cons rfl (.cons rfl (.cons rfl (.cons rfl (.cons rfl (.cons (by rw[h0,dY];rfl) (.cons rfl (.cons rfl .nil)))))))) rfl
 rintro _ Gz _ _
 generalize htt:c+b.getD k 0=tt
 have htb:tt≤4294967296:=by omega
 refine sR<|sm J J<|sy (aaM rfl) rfl<|sm J J<|sy (age J J) rfl<|sa J J<|zE<|sR<|sm J J<|sm J J<|sm J J<|?_
 rw[ab1]
 refine sy (abi rfl) rfl<|sy (abg J J (by omega) (by omega)) rfl<|?_
 rw[bX]
 by_cases hno:tt≤a.getD k 0
 ·refine sc (aa9 (d:=a.getD k 0-tt) J J (by omega) (.hd ..) (by omega) rfl ?_)
  refine zE<|aal<|sm J J<|sy (adL J J (by decide)) rfl<|sa J J<|zE<|aal<|sy (aar J J) rfl<|sm J J<|zE<|?_
  rw[aCw _ (by omega),show(((a.getD k 0:Nat):Int)-(tt:Int))%18446744073709551616/9223372036854775808=((0:Nat):Int) by omega]
  refine aa0 ⟨ws.set k (a.getD k 0-tt),k+1,0⟩ ⟨by show k+1≤_;omega,by simp[hwl],hwo.set _ (by omega),bZ _,?_⟩ (by show a.length-(k+1)<a.length-k;omega) (.cons rfl (.cons rfl (.cons rfl (.cons rfl (.cons rfl (.cons rfl .nil)))))) rfl
  show dv ((ws.set k (a.getD k 0-tt)).take (k+1))+dv (b.take (k+1))=dv (a.take (k+1))+4294967296^(k+1)*0
  rw[abh (by omega),aaz a,aaz b,←htt,eX]
  exact ax6 hinv (by omega)
 ·refine sc (aa9 (d:=a.getD k 0+4294967296-tt) J J (by omega) (.hd ..) (by omega) rfl ?_)
  refine zE<|aal<|sm J J<|sy (adL J J (by decide)) rfl<|sa J J<|zE<|aal<|sy (aar J J) rfl<|sm J J<|zE<|?_
  rw[aCw _ (by omega),show(((a.getD k 0:Nat):Int)-(tt:Int))%18446744073709551616/9223372036854775808=((1:Nat):Int) by omega]
  refine aa0 ⟨ws.set k (a.getD k 0+4294967296-tt),k+1,1⟩ ⟨by show k+1≤_;omega,by simp[hwl],hwo.set _ (by omega),bQ _,?_⟩ (by show a.length-(k+1)<a.length-k;omega) (.cons rfl (.cons rfl (.cons rfl (.cons rfl (.cons rfl (.cons rfl .nil)))))) rfl
  show dv ((ws.set k (a.getD k 0+4294967296-tt)).take (k+1))+dv (b.take (k+1))=dv (a.take (k+1))+4294967296^(k+1)*1
  rw[abh (by omega),aaz a,aaz b,←htt,eX]
  exact arH hinv (by omega) (by omega)
theorem ayI{A B G:Gh}{x y:SV}{ds es:List Nat}{kk:Nat}(hx:IsD A x ds)(hy:IsD B y es)[GL A G][GL B G](hk:dv ds<2^kk)(hb:ds.length≤1125899906842)(hb2:es.length≤1125899906842):
  Fn prog 270 [x.v,y.v] G (fun v G'=> ∃z:SV,v= .tuple #[z.v, .bool (decide (dv es≤dv ds))]∧IsN kk G' z (dv ds-dv es)):=by
 refine Fn.intro func270 J J ntmps270 rfl ?_
 intro C _ _
 refine sR<|sa J J<|sa J J<|zE<|aak<|sR<|sm J J<|sm J J<|?_
 refine sc (zC J J (auc hx hy (by omega) (by omega)) rfl ?_)
 rintro _ G1 _ rfl
 refine sy (acl J J) rfl<|zE<|?_
 refine aaI rfl (fun hc=>?_) (fun hc=>?_) -- slot 9
 ·have hlt:dv ds<dv es:=by
   unfold ahD at hc
   split at hc
   ·assumption
   ·split at hc<;>omega
  refine sR<|sa J J<|sa J J<|zE<|aaL<|?_
  refine zD (.tmp rfl (.tmp rfl .nil)) ⟨⟨none,0,0⟩,?_,?_⟩
  ·have: ¬dv es≤dv ds:=by omega
   simp[abT,SV.v,this]
  ·rw[Nat.sub_eq_zero_of_le (by omega)]
   exact⟨by unfold dg;exact .nil _,dR (by omega)⟩
 have hge:dv es≤dv ds:=by
  unfold ahD at hc
  split at hc
  ·omega
  ·omega
 have htl:=abp ds
 have htl2:=abp es
 refine zK<|sR<|sm J J<|?_
 refine sc (zC J J (aa3 hx (by omega)) rfl ?_)
 rintro _ G2 _ rfl
 refine sm J J<|?_
 refine sc (zC J J (aa3 hy (by omega)) rfl ?_)
 rintro _ G3 _ rfl
 have hl:(trimD es).length≤(trimD ds).length:=by
  rcases iZ (trimD ds).length (trimD es).length with h|h
  ·have:=acP hx.ok.trimD (Nrm.trimD es) h
   rw[abc,abc] at this;omega
  ·exact h
 refine sc (zC J J (aw9 (kk:=kk) hx.trim hy.trim hl (by rw[abc,abc];exact hge) (by rw[abc];exact hk) (by omega)) rfl ?_)
 rintro _ G4 _ ⟨z,rfl,hz⟩
 refine sa J J<|sa J J<|zE<|aaL<|?_
 refine zD (.tmp rfl (.tmp rfl .nil)) ⟨z,by simp[abT,hge],?_⟩
 rw[abc,abc] at hz
 exact hz
structure azv where
 ws:List Nat
 i:Nat
structure aAc where
 ws:List Nat
 k:Nat
 c:Nat
theorem aEM{x y w c:Nat}(hx:x<4294967296)(hy:y<4294967296)(hw:w<4294967296)(hc:c<4294967296):c+x*y+w<18446744073709551616:=by
 have:x*y≤4294967295*4294967295:=gS (by omega) (by omega)
 omega
theorem ago{ws:List Nat}{i j d:Nat}(h:i≠j):(ws.set i d).getD j 0=ws.getD j 0:=by
 rw[aK,aK,List.getElem?_set_ne h]
theorem azY{A B G:Gh}{x y:SV}{ds es:List Nat}{kk:Nat}(hx:IsD A x ds)(hy:IsD B y es)[GL A G][GL B G](hk:dv ds*dv es<2^kk)(hb:ds.length≤562949953421)(hb2:es.length≤562949953421):
  Fn prog 230 [x.v,y.v] G (fun v G'=> ∃z:SV,v=z.v∧IsN kk G' z (dv ds*dv es)):=by
 have htl:=abp ds
 have htl2:=abp es
 have hcall:=fun G1 (_:GL A G1)=>aa3 (G:=G1) hx (by omega)
 have hcall2:=fun G1 (_:GL B G1)=>aa3 (G:=G1) hy (by omega)
 have hxt:=hx.trim
 have hyt:=hy.trim
 rw[←abc ds,←abc es] at hk⊢
 generalize trimD ds=a at*
 generalize trimD es=b at*
 have hok:=hxt.ok
 have hok2:=hyt.ok
 refine Fn.intro func230 J J ntmps230 rfl ?_
 intro C _ _
 refine sR<|sa J J<|zE<|sR<|sm J J<|?_
 refine sc (zC J J (hcall _ inferInstance) rfl ?_)
 rintro _ G1 _ rfl
 refine sm J J<|?_
 refine sc (zC J J (hcall2 _ inferInstance) rfl ?_)
 rintro _ G2 _ rfl
 refine sa J J<|sa J J<|zE<|sR<|sm J J<|adk J J<|sm J J<|adk J J<|sy (aar J J) rfl<|?_
 refine sc (aeQ J J (by omega) (by omega) (by omega) (by rfl) rfl ?_)
 intro b3
 rw[aeb,show((a.length:Int)+(b.length:Int)).toNat=a.length+b.length by omega]
 refine sa J J<|zE<|aak<|sR<|sm J J<|adk J J<|sm J J<|zE<|aat<|?_
 refine ab9 (X:=azv) (fun q=>[(23, .int .i64 q.i),(22, .int .i64 a.length),(21, .slice x.a a.length x.c),(1, .slice y.a b.length y.c),(5, .slice (some ⟨b3,0,none⟩) (a.length+b.length) (a.length+b.length))])
  (fun q=>[⟨b3,q.ws.map dI,262,true⟩])
  (fun q _=>q.i≤a.length∧q.ws.length=a.length+b.length∧DOk q.ws∧(∀j,q.i+b.length≤j→q.ws.getD j 0=0)∧dv q.ws=dv (a.take q.i)*dv b) (fun q=>a.length-q.i) ⟨List.replicate (a.length+b.length) 0,0⟩
  ⟨bZ _,by simp, .replicate _,fun j _=>al6 _ _,by simp[dv,acF]⟩ (.cons rfl (.cons rfl (.cons rfl (.cons rfl (.cons rfl .nil))))) rfl ?_
 rintro ⟨ws,i⟩ Gy _ ⟨hia,hwl,hwo,hz,hinv⟩
 simp only[] at hia hwl hwo hz hinv⊢
 refine sR<|sy (acl J J) rfl<|zE<|aak<|?_
 refine abo rfl (fun hc=>?_) (fun hc=>?_) -- slot 24
 ·have hin:i=a.length:=by omega
  refine abx<|abL<|abL<|aau<|sR<|sm J J<|?_
  refine aco b3 (.hd ..) (fun G3 _ hgb=>?_)
  have hD:IsD G3 ⟨some ⟨b3,0,none⟩,a.length+b.length,a.length+b.length⟩ ws:= .of_block hwo hgb.h hwl.symm (bQ _) (by rw[aT (by simp)])
  have hdv:dv ws=dv a*dv b:=by rw[hinv,hin,aT (bQ _)]
  refine sc (zC J J (aa3 hD (by omega)) rfl ?_)
  rintro _ G4 _ rfl
  refine sa J J<|zE<|aaL<|?_
  refine zD (.tmp rfl .nil) ⟨⟨some ⟨b3,0,none⟩,(trimD ws).length,a.length+b.length⟩,rfl,?_⟩
  have h3:=hD.trim.up (G:=G4)
  rw[←hdv] at hk⊢
  exact⟨by rw[ado hwo];exact h3,hk⟩
 have hia':i<a.length:=by omega
 have hga:=hok.get i
 refine zK<|aak<|aat<|sR<|sm J J<|sy (ab2 (z:=⟨x.a,a.length,x.c⟩) hxt J J (by omega) (by show(i:Int)<(a.length:Nat);omega)) rfl<|sy (ab3 hxt rfl (by omega)) rfl<|sa J J<|sa J J<|zE<|aak<|?_
 rw[bX]
 refine aal<|sa J J<|zE<|aak<|sR<|sm J J<|adk J J<|sm J J<|zE<|aat<|?_
 refine ab9 (X:=aAc) (fun q=>[(30, .int .i64 q.k),(29, .int .i64 b.length),(28, .slice y.a b.length y.c),(8, .int .u64 q.c),(7, .int .u32 ((a.getD i 0:Nat):Int)),(5, .slice (some ⟨b3,0,none⟩) (a.length+b.length) (a.length+b.length)),(6, .int .i64 i),(23, .int .i64 i),(22, .int .i64 a.length),(21, .slice x.a a.length x.c),(1, .slice y.a b.length y.c)])
  (fun q=>[⟨b3,q.ws.map dI,262,true⟩])
  (fun q _=>q.k≤b.length∧q.ws.length=a.length+b.length∧DOk q.ws∧q.c<4294967296∧(∀j,i+b.length≤j→q.ws.getD j 0=0)∧dv q.ws+4294967296^(i+q.k)*q.c=dv (a.take i)*dv b+4294967296^i*(a.getD i 0*dv (b.take q.k))) (fun q=>b.length-q.k) ⟨ws,0,0⟩
  ⟨bZ _,hwl,hwo,Nat.zero_lt_succ _,hz,by simp[dv,hinv]⟩ (.cons rfl (.cons rfl (.cons rfl (.cons rfl (.cons rfl (.cons rfl (.cons rfl (.cons rfl (.cons rfl (.cons rfl (.cons rfl .nil))))))))))) rfl ?_
 clear hz hwl hwo hinv ws
 rintro ⟨ws,k,c⟩ Gz _ ⟨hkb,hwl,hwo,hcc,hz,hinv⟩
 simp only[] at hkb hwl hwo hcc hz hinv⊢
 refine sR<|sy (acl J J) rfl<|zE<|aak<|?_
 refine abo rfl (fun hc2=>?_) (fun hc2=>?_) -- slot 31
 ·have hkn:k=b.length:=by omega
  have e1:((i:Int)+(b.length:Int)).toNat=i+b.length:=by omega
  refine abx<|abL<|abL<|aau<|aal<|sm J J<|sm J J<|sm J J<|adk J J<|sy (aar J J) rfl<|sm J J<|sy (abi rfl) rfl<|?_
  refine sy (abg J J (by omega) (by omega)) rfl<|?_
  rw[e1]
  refine sc (aa9 (d:=c) J J (by omega) (.hd ..) (by omega) rfl ?_)
  refine zE<|aal<|sy (aar J J) rfl<|sm J J<|zE<|?_
  refine aa0 ⟨ws.set (i+b.length) c,i+1⟩ ⟨by show i+1≤_;omega,by simp[hwl],hwo.set _ hcc,fun j hj=>?_,?_⟩ (by show a.length-(i+1)<a.length-i;omega) (.cons rfl (.cons rfl (.cons rfl (.cons rfl (.cons rfl .nil))))) rfl
  ·have hj':i+1+b.length≤j:=hj
   show(ws.set (i+b.length) c).getD j 0=0
   rw[ago (by omega)];exact hz j (by omega)
  ·show dv (ws.set (i+b.length) c)=dv (a.take (i+1))*dv b
   have h1:=afh ws (i+b.length) c (by omega)
   rw[hz (i+b.length) (bQ _),oS,dY] at h1
   rw[h1,←hkn,hinv,hkn,aT (bQ _),aaz,cY,cX]
 have hkb':k<b.length:=by omega
 have hgb:=hok2.get k
 have hgw:=hwo.get (i+k)
 have hm:=aEM hga hgb hgw hcc
 have e1:((i:Int)+(k:Int)).toNat=i+k:=by omega
 have e2:((a.getD i 0:Nat):Int)*((b.getD k 0:Nat):Int)=((a.getD i 0*b.getD k 0:Nat):Int):=by rw[iW]
 refine zK<|aak<|aat<|sR<|sm J J<|sy (ab2 (z:=⟨y.a,b.length,y.c⟩) hyt J J (by omega) (by show(k:Int)<(b.length:Nat);omega)) rfl<|sy (ab3 hyt rfl (by omega)) rfl<|sa J J<|sa J J<|zE<|aak<|?_
 rw[bX]
 refine aal<|sm J J<|sm J J<|sy (aaM rfl) rfl<|sm J J<|sy (aaM rfl) rfl<|sy (aot J J (by rw[e2];omega) (by rw[e2];omega)) rfl<|?_
 rw[e2]
 refine sm J J<|sm J J<|sm J J<|sy (aar J J) rfl<|sy (abg J J (by omega) (by omega)) rfl<|?_
 rw[e1]
 refine sy (agb rfl (by omega)) rfl<|sy (aaM rfl) rfl<|?_
 refine sy (aeh J J) rfl<|sy (aeh J J) rfl<|sa J J<|zE<|sR<|sm J J<|sm J J<|sm J J<|?_
 rw[show(c:Int)+(((a.getD i 0*b.getD k 0:Nat):Int)+((ws.getD (i+k) 0:Nat):Int))=((c+a.getD i 0*b.getD k 0+ws.getD (i+k) 0:Nat):Int) by omega]
 generalize hcc2:c+a.getD i 0*b.getD k 0+ws.getD (i+k) 0=cc
 rw[hcc2] at hm
 refine sy (aar J J) rfl<|sm J J<|sy (abi rfl) rfl<|sy (abg J J (by omega) (by omega)) rfl<|?_
 rw[e1]
 refine sc (aa9 (d:=cc%4294967296) J J (by omega) (.hd ..) (by omega) rfl ?_)
 refine zE<|aal<|sm J J<|sy (adL J J (by decide)) rfl<|sa J J<|zE<|aal<|sy (aar J J) rfl<|sm J J<|zE<|?_
 rw[aCY]
 refine aa0 ⟨ws.set (i+k) (cc%4294967296),k+1,cc/4294967296⟩ ⟨by show k+1≤_;omega,by simp[hwl],hwo.set _ (by omega),by show cc/4294967296<_;omega,fun j hj=>?_,?_⟩ (by show b.length-(k+1)<b.length-k;omega) (.cons rfl (.cons rfl (.cons rfl (.cons rfl (.cons rfl (.cons rfl (.cons rfl (.cons rfl (.cons rfl (.cons rfl (.cons rfl .nil))))))))))) rfl
 ·show(ws.set (i+k) (cc%4294967296)).getD j 0=0
  rw[ago (by omega)];exact hz j hj
 ·show dv (ws.set (i+k) (cc%4294967296))+4294967296^(i+(k+1))*(cc/4294967296)=dv (a.take i)*dv b+4294967296^i*(a.getD i 0*dv (b.take (k+1)))
  have h1:=afh ws (i+k) (cc%4294967296) (by omega)
  rw[←hcc2] at h1⊢
  have h2:=ao0 h1 hinv
  rw[←jJ,eX,h2,aaz,cN,cN,fV]
  have:4294967296^i*(a.getD i 0*(4294967296^k*b.getD k 0))=4294967296^i*4294967296^k*(a.getD i 0*b.getD k 0):=by
   rw[kW (a.getD i 0),←cX]
  rw[this,jJ]
theorem aor{P:Program}{t:TypeId}(a b k:Nat)(ha:a<2^k)(h:a+b*2^k<18446744073709551616)(w:World):(binOp .or t (.int .u64 ((b*2^k:Nat):Int)) (.int .u64 (a:Int))).run P w= .ok (.int .u64 ((a+b*2^k:Nat):Int)) w:=by
 have h1:(BitVec.ofInt 64 ((b*2^k:Nat):Int) ||| BitVec.ofInt 64 (a:Int)).toNat=a+b*2^k:=by
  rw[BitVec.toNat_or,BitVec.ofInt_natCast,BitVec.ofInt_natCast,BitVec.toNat_ofNat,BitVec.toNat_ofNat,fZ (by omega),fZ (by omega)]
  rw[←kM,←lQ ha,kM]
  omega
 have h2:IntKind.u64.wrap ((a+b*2^k:Nat):Int)=((a+b*2^k:Nat):Int):=by rw[ab1];omega
 simp only[binOp]
 show(Op.intBits .or .u64 ((b*2^k:Nat):Int) (a:Int)).run P w=_
 unfold Op.intBits
 show(pure (Value.int .u64 (IntKind.u64.wrap ((BitVec.ofInt 64 ((b*2^k:Nat):Int) ||| BitVec.ofInt 64 (a:Int)).toNat:Int))):Sem Value).run P w=_
 rw[h1,h2,aao]
theorem avX{P:Program}{t:TypeId}(a b k:Nat)(ha:a<2^k)(h:a+b*2^k<4294967296)(w:World):(binOp .or t (.int .u32 (a:Int)) (.int .u32 ((b*2^k:Nat):Int))).run P w= .ok (.int .u32 ((a+b*2^k:Nat):Int)) w:=by
 have h1:(BitVec.ofInt 32 (a:Int) ||| BitVec.ofInt 32 ((b*2^k:Nat):Int)).toNat=a+b*2^k:=by
  rw[BitVec.toNat_or,BitVec.ofInt_natCast,BitVec.ofInt_natCast,BitVec.toNat_ofNat,BitVec.toNat_ofNat,fZ (by omega),fZ (by omega)]
  rw[←kM,Nat.or_comm,←lQ ha,kM]
  omega
 have h2:IntKind.u32.wrap ((a+b*2^k:Nat):Int)=((a+b*2^k:Nat):Int):=by rw[acL];omega
 simp only[binOp]
 show(Op.intBits .or .u32 (a:Int) ((b*2^k:Nat):Int)).run P w=_
 unfold Op.intBits
 show(pure (Value.int .u32 (IntKind.u32.wrap ((BitVec.ofInt 32 (a:Int) ||| BitVec.ofInt 32 ((b*2^k:Nat):Int)).toNat:Int))):Sem Value).run P w=_
 rw[h1,h2,aao]
theorem aee(d k:Nat)(hk:k<64)(h:d*2^k<18446744073709551616){q:Int}(hq:q.toNat=k):IntKind.u64.wrap ((d:Int)*2^min q.toNat IntKind.u64.bits)=((d*2^k:Nat):Int):=by
 rw[hq,fT (by show k≤64;omega),ab1]
 have e2:(d:Int)*2^k=((d*2^k:Nat):Int):=by push_cast;rfl
 rw[e2];omega
theorem aeV(d k:Nat)(hk:k<64){q:Int}(hq:q.toNat=k):(d:Int).fdiv (2^min q.toNat IntKind.u64.bits)=((d/2^k:Nat):Int):=by
 rw[hq,fT (by show k≤64;omega),gQ _ (oM (Int.pow_pos (by decide)))]
 push_cast;rfl
theorem ayg(q:Nat)(h:q<4294967296):(q:Int)%4294967296=q:=by omega
structure aw3 where
 ws:List Nat
 k:Nat
 r:Nat
theorem asr{A G:Gh}{x:SV}{a:List Nat}{d kk:Nat}(hx:IsD A x a)[GL A G](hd0:0<d)(hd:d<4294967296)(hk:dv a/d<2^kk)(hb:a.length≤1125899906842):
  Fn prog 275 [x.v, .int .u32 (d:Int)] G (fun v G'=> ∃z:SV,v= .tuple #[z.v, .int .u32 ((dv a%d:Nat):Int)]∧IsN kk G' z (dv a/d)):=by
 have hlen:=hx.len
 refine Fn.intro func275 J J ntmps275 rfl ?_
 intro C _ _
 refine sR<|sa J J<|sa J J<|zE<|sR<|sm J J<|adk J J<|?_
 refine sc (aeQ J J (by omega) (by omega) (by omega) (by rfl) rfl ?_)
 intro b1
 rw[aeb,show(x.n:Int).toNat=a.length by omega]
 refine sa J J<|zE<|sR<|sa J J<|zE<|aak<|sR<|sm J J<|adk J J<|sy (aa6 J J) rfl<|?_
 refine sa J J<|zE<|aat<|?_
 refine ab9 (X:=aw3) (fun q=>[(8, .int .i64 (q.k-1)),(7, .int .u64 q.r),(0, .slice x.a x.n x.c),(6, .slice (some ⟨b1,0,none⟩) a.length a.length),(1, .int .u32 d)])
  (fun q=>[⟨b1,q.ws.map dI,262,true⟩])
  (fun q _=>q.k≤a.length∧q.ws.length=a.length∧DOk q.ws∧q.r<d∧dv (a.drop q.k)=d*dv (q.ws.drop q.k)+q.r) (fun q=>q.k) ⟨List.replicate a.length 0,a.length,0⟩
  ⟨bQ _,by simp, .replicate _,hd0,by simp[dv]⟩ (.cons (by rw[hlen];rfl) (.cons rfl (.cons rfl (.cons rfl (.cons rfl .nil))))) rfl ?_
 rintro ⟨ws,k,r⟩ Gy _ ⟨hka,hwl,hwo,hr,hinv⟩
 simp only[] at hka hwl hwo hr hinv⊢
 refine aak<|sR<|sm J J<|sy (ahP J J) rfl<|zE<|?_
 refine abo rfl (fun hc=>?_) (fun hc=>?_) -- slot 17
 ·have hk0:k=0:=by omega
  refine abx<|abL<|abL<|aau<|sR<|sm J J<|?_
  refine aco b1 (.hd ..) (fun G1 _ hgb=>?_)
  have hD:IsD G1 ⟨some ⟨b1,0,none⟩,a.length,a.length⟩ ws:= .of_block hwo hgb.h hwl.symm (bQ _) (by rw[aT (by simp)])
  subst hk0
  simp only[iX] at hinv
  have hdv:dv a/d=dv ws:=by rw[hinv,Nat.mul_add_div hd0,iM hr,dY]
  have hdm:dv a%d=r:=by rw[hinv,Nat.mul_add_mod,fZ hr]
  refine sc (zC J J (aa3 hD (by omega)) rfl ?_)
  rintro _ G2 _ rfl
  refine sm J J<|sy (abi rfl) rfl<|sa J J<|sa J J<|zE<|aaL<|?_
  refine zD (.tmp rfl (.tmp rfl .nil)) ⟨⟨some ⟨b1,0,none⟩,(trimD ws).length,a.length⟩,?_,?_⟩
  ·rw[hdm,show(r:Int)%4294967296=r by omega];rfl
  have h3:=hD.trim.up (G:=G2)
  exact⟨by rw[hdv,ado hwo];exact h3,hk⟩
 have hk1:0<k:=by omega
 have hkt:((k:Int)-1).toNat=k-1:=by omega
 have hga:=hx.ok.get (k-1)
 have hv:a.getD (k-1) 0+r*2^32<d*4294967296:=by
  have:(r+1)*4294967296≤d*4294967296:=bT _ hr
  rw[cY] at this
  omega
 have hv2:a.getD (k-1) 0+r*2^32<18446744073709551616:=by omega
 refine zK<|aak<|aat<|sR<|sm J J<|sy (ajZ J J (by decide)) rfl<|sm J J<|sm J J<|sy (ab2 hx J J (by omega) (by omega)) rfl<|?_
 rw[aee r 32 (by decide) (by omega) rfl]
 refine sy (ab3 hx rfl (by omega)) rfl<|sy (aaM rfl (by omega) (by rw[hkt];omega)) rfl<|?_
 rw[hkt]
 refine sy (ab4 J J (aor (a.getD (k-1) 0) r 32 (by omega) hv2)) rfl<|?_
 generalize hvv:a.getD (k-1) 0+r*2^32=vv at*
 have hq:vv/d<4294967296:=rV hv
 have hrr:=dZ vv hd0
 refine sa J J<|zE<|sR<|sm J J<|sm J J<|sm J J<|sm J J<|?_
 refine sy (aaM rfl) rfl<|sy (ahj J J (by omega) (by omega) (by omega)) rfl<|sy (abi rfl) rfl<|sy (abg J J (by omega) (by omega)) rfl<|?_
 rw[hkt]
 have e1:(vv:Int)/(d:Int)%4294967296=((vv/d:Nat):Int):=by
  have e0:(vv:Int)/(d:Int)=((vv/d:Nat):Int):=(oN vv d).symm
  rw[e0];exact ayg _ hq
 refine sc (aa9 (d:=vv/d) J J e1 (.hd ..) (by omega) rfl ?_)
 refine zE<|aal<|sm J J<|sm J J<|sy (aaM rfl) rfl<|sy (ahJ J J (by omega) (by omega)) rfl<|sa J J<|zE<|aal<|sm J J<|?_
 refine sy (aa6 J J) rfl<|sa J J<|zE<|?_
 refine aa0 ⟨ws.set (k-1) (vv/d),k-1,vv%d⟩ ⟨by show k-1≤_;omega,by simp[hwl],hwo.set _ hq,hrr,?_⟩ (by show k-1<k;omega) (.cons (by rw[show((k-1:Nat):Int)=(k:Int)-1 by omega];rfl) (.cons (by rw[nX];rfl) (.cons rfl (.cons rfl (.cons rfl .nil))))) rfl
 show dv (a.drop (k-1))=d*dv ((ws.set (k-1) (vv/d)).drop (k-1))+vv%d
 have hk2:k-1+1=k:=by omega
 rw[aS (by omega:k-1<a.length),aS (by simp;omega:k-1<(ws.set (k-1) (vv/d)).length),hk2,List.getElem_set_self,pX (by omega)]
 have e3:a[k-1]'(by omega)=a.getD (k-1) 0:=by rw[aK,aZ (by omega)];rfl
 simp only[dv,e3,hinv]
 have h1:=pT vv d
 have h2:d*(vv/d+4294967296*dv (ws.drop k))=d*(vv/d)+4294967296*(d*dv (ws.drop k)):=by rw[cN,kW]
 rw[h2,cN]
 omega
section
variable {P:Program} {C:Ctx} {n:Nat} {fr:Fr} {own:List Own} {G:Gh} {dst:Option Nat} {t t1 t2 ty':TypeId} {pos:String} {af:Array Edge} {gd:Option (Nat×Bool)} {x y:Operand}
theorem aA0{k:IntKind}{p q:Int}(hx:opv fr x=some (.int k p))(hy:opv fr y=some (.int k q)):
  Yd P C fr own G ⟨dst, .call ⟨.builtin .min, #[x,y], #[t1,t2]⟩,ty',pos,af,gd⟩ (.int k (if q<p then q else p)):=by
 intro a w hf hh
 simp only[execOp,resolve,fR,bM,gW,aad hf hx,aad hf hy]
 have h1:(Builtin.min_ #[t1,t2] ty' #[.int k p, .int k q]).run P w= .ok (.int k (if q<p then q else p)) w:=by
  simp[Builtin.min_,Builtin.min2,aao]
 exact aam h1
end
structure aqt where
 ws:List Nat
 i:Nat
theorem ar5{A G:Gh}{x:SV}{ds:List Nat}{k kk:Nat}(hx:IsD A x ds)[GL A G](hk32:k<32)(hk:dv ds*2^k<2^kk)(hb:ds.length≤1125899906842):
  Fn prog 301 [x.v, .int .u64 (k:Int)] G (fun v G'=> ∃z:SV,v=z.v∧IsN kk G' z (dv ds*2^k)∧z.c≤(trimD ds).length+1):=by
 have htl:=abp ds
 have hcall:=fun G1 (_:GL A G1)=>aa3 (G:=G1) hx (by omega)
 have hxt:=hx.trim
 rw[←abc ds] at hk⊢
 generalize trimD ds=a at*
 have hok:=hxt.ok
 refine Fn.intro func301 J J ntmps301 rfl ?_
 intro C _ _
 refine sR<|sa J J<|zE<|sR<|sm J J<|?_
 refine sc (zC J J (hcall _ inferInstance) rfl ?_)
 rintro _ G1 _ rfl
 refine sm J J<|sy (aA0 J J) rfl<|?_
 rw[if_neg (by omega: ¬(1048576:Int)<(k:Int))]
 refine sa J J<|sa J J<|zE<|aak<|sR<|sm J J<|adk J J<|sy (ab6 J J) rfl<|zE<|?_
 refine aaI rfl (fun hc=>?_) (fun hc=>?_) -- slot 17
 ·refine sR<|sa J J<|zE<|aaL<|?_
  have:a=[]:=bS (by omega)
  subst this
  refine zD (.tmp rfl .nil) ⟨⟨none,0,0⟩,rfl,?_⟩
  have e0:dv []*2^k=0:=by simp[dv]
  rw[e0]
  exact⟨⟨by unfold dg;exact .nil _,dR (by omega)⟩,bZ _⟩
 refine zK<|sR<|sm J J<|sy (ahj J J (by omega) (by omega) (by decide)) rfl<|sy (apY rfl) rfl<|sm J J<|sy (ahJ J J (by omega) (by decide)) rfl<|?_
 rw[show(k:Int)/32=0 by omega,show(k:Int)%32=k by omega]
 refine sa J J<|sa J J<|zE<|sR<|sm J J<|adk J J<|sm J J<|sy (aar J J) rfl<|sy (aar J J) rfl<|?_
 refine sc (aeQ J J (by omega) (by omega) (by omega) (by rfl) rfl ?_)
 intro b2
 rw[aeb,show((a.length:Int)+0+1).toNat=a.length+1 by omega]
 refine sa J J<|zE<|aak<|sR<|sm J J<|adk J J<|sm J J<|zE<|aat<|?_
 refine ab9 (X:=aqt) (fun q=>[(31, .int .i64 q.i),(30, .int .i64 a.length),(29, .slice x.a a.length x.c),(6, .int .u64 k),(7, .slice (some ⟨b2,0,none⟩) (a.length+1) (a.length+1)),(5, .int .i64 0)])
  (fun q=>[⟨b2,q.ws.map dI,262,true⟩])
  (fun q _=>q.i≤a.length∧q.ws.length=a.length+1∧DOk q.ws∧(∀j,q.i<j→q.ws.getD j 0=0)∧q.ws.getD q.i 0<2^k∧dv q.ws=dv (a.take q.i)*2^k) (fun q=>a.length-q.i) ⟨List.replicate (a.length+1) 0,0⟩
  ⟨bZ _,by simp, .replicate _,fun j _=>al6 _ _,by rw[al6];exact dR (by omega),by simp[dv,acF]⟩ (.cons rfl (.cons rfl (.cons rfl (.cons rfl (.cons rfl (.cons rfl .nil)))))) rfl ?_
 rintro ⟨ws,i⟩ Gy _ ⟨hia,hwl,hwo,hz,hwi,hinv⟩
 simp only[] at hia hwl hwo hz hwi hinv⊢
 refine sR<|sy (acl J J) rfl<|zE<|aak<|?_
 refine abo rfl (fun hc=>?_) (fun hc=>?_) -- slot 32
 ·have hin:i=a.length:=by omega
  refine abx<|abL<|abL<|aau<|sR<|sm J J<|?_
  refine aco b2 (.hd ..) (fun G3 _ hgb=>?_)
  have hD:IsD G3 ⟨some ⟨b2,0,none⟩,a.length+1,a.length+1⟩ ws:= .of_block hwo hgb.h hwl.symm (bQ _) (by rw[aT (by simp)])
  have hdv:dv a*2^k=dv ws:=by rw[hinv,hin,aT (bQ _)]
  refine sc (zC J J (aa3 hD (by omega)) rfl ?_)
  rintro _ G4 _ rfl
  refine sa J J<|zE<|aaL<|?_
  refine zD (.tmp rfl .nil) ⟨⟨some ⟨b2,0,none⟩,(trimD ws).length,a.length+1⟩,rfl,?_⟩
  have h3:=hD.trim.up (G:=G4)
  rw[hdv] at hk⊢
  exact⟨⟨by rw[ado hwo];exact h3,hk⟩,bQ _⟩
 have hia':i<a.length:=by omega
 have hga:=hok.get i
 have hp32:(2:Nat)^k≤2^31:=bW (by omega) (by omega)
 have hp0:0<(2:Nat)^k:=dR (by omega)
 have hvb:a.getD i 0*2^k<4294967296*2^k:=kJ hga hp0
 have hv64:a.getD i 0*2^k<18446744073709551616:=by omega
 refine zK<|aak<|aat<|sR<|sm J J<|sy (ab2 (z:=⟨x.a,a.length,x.c⟩) hxt J J (by omega) (by show(i:Int)<(a.length:Nat);omega)) rfl<|sy (ab3 hxt rfl (by omega)) rfl<|sa J J<|sa J J<|zE<|aak<|?_
 rw[bX]
 refine aal<|sm J J<|sy (aaM rfl) rfl<|sm J J<|sy (ajZ J J (by omega)) rfl<|?_
 rw[aee (a.getD i 0) k (by omega) hv64 (bX k)]
 -- the low digit is a multiple of 2^k
 have hlow:a.getD i 0*2^k%4294967296=a.getD i 0%2^(32-k)*2^k:=by
  have:4294967296=2^(32-k)*2^k:=by rw[←fV,show 32-k+k=32 by omega]
  rw[this,qM]
 have hlt:a.getD i 0*2^k%4294967296<4294967296:=dZ _ (by decide)
 have hsum:ws.getD i 0+a.getD i 0%2^(32-k)*2^k<4294967296:=by
  have h1:a.getD i 0%2^(32-k)<2^(32-k):=dZ _ (dR (by omega))
  have h2:(a.getD i 0%2^(32-k)+1)*2^k≤2^(32-k)*2^k:=bT _ h1
  rw[←fV,show 32-k+k=32 by omega,cY] at h2
  omega
 refine sa J J<|zE<|sR<|sm J J<|?_
 refine sm J J<|sm J J<|sy (aar J J) rfl<|sy (abg J J (by omega) (by omega)) rfl<|?_
 rw[show((i:Int)+0).toNat=i by omega]
 refine sy (agb rfl (by omega)) rfl<|sm J J<|sy (abi rfl) rfl<|?_
 rw[show((a.getD i 0*2^k:Nat):Int)%4294967296=((a.getD i 0%2^(32-k)*2^k:Nat):Int) by rw[←hlow];rfl]
 refine sy (ab4 J J (avX (ws.getD i 0) (a.getD i 0%2^(32-k)) k hwi hsum)) rfl<|sy (abg J J (by omega) (by omega)) rfl<|?_
 rw[show((i:Int)+0).toNat=i by omega]
 refine sc (aa9 (d:=ws.getD i 0+a.getD i 0%2^(32-k)*2^k) J J J (.hd ..) (by omega) rfl ?_)
 refine zE<|aal<|sm J J<|sm J J<|sm J J<|sy (aar J J) rfl<|sy (aar J J) rfl<|sm J J<|sy (adL J J (by decide)) rfl<|?_
 rw[aCY]
 have hhi:a.getD i 0*2^k/4294967296<2^k:=rV hvb
 refine sy (abi rfl) rfl<|sy (abg J J (by omega) (by omega)) rfl<|?_
 rw[show((i:Int)+0+1).toNat=i+1 by omega]
 refine sc (aa9 (d:=a.getD i 0*2^k/4294967296) J J (by omega) (.hd ..) (by simp;omega) rfl ?_)
 refine zE<|aal<|sy (aar J J) rfl<|sm J J<|zE<|?_
 refine aa0 ⟨(ws.set i (ws.getD i 0+a.getD i 0%2^(32-k)*2^k)).set (i+1) (a.getD i 0*2^k/4294967296),i+1⟩ ⟨by show i+1≤_;omega,by simp[hwl],(hwo.set _ hsum).set _ (by omega),fun j hj=>?_,?_,?_⟩ (by show a.length-(i+1)<a.length-i;omega) (.cons rfl (.cons rfl (.cons rfl (.cons rfl (.cons rfl (.cons rfl .nil)))))) rfl
 ·have hj':i+1<j:=hj
  show((ws.set i _).set (i+1) _).getD j 0=0
  rw[ago (by omega),ago (by omega)];exact hz j (by omega)
 ·show((ws.set i _).set (i+1) (a.getD i 0*2^k/4294967296)).getD (i+1) 0<2^k
  rw[aK,lV (by simp;omega)]
  exact hhi
 ·show dv ((ws.set i (ws.getD i 0+a.getD i 0%2^(32-k)*2^k)).set (i+1) (a.getD i 0*2^k/4294967296))=dv (a.take (i+1))*2^k
  have h1:=afh (ws.set i (ws.getD i 0+a.getD i 0%2^(32-k)*2^k)) (i+1) (a.getD i 0*2^k/4294967296) (by simp;omega)
  rw[ago (by omega),hz (i+1) (by omega),oS,dY] at h1
  have h2:=afh ws i (ws.getD i 0+a.getD i 0%2^(32-k)*2^k) (by omega)
  rw[cN] at h2
  rw[h1,aaz,cY,←hinv,cX,ajV (4294967296^i) (a.getD i 0*2^k),←hlow] at*
  rw[eX]
  omega
end Go.Sx
end
section
namespace Go.Sx
theorem axC(i:Nat):(4294967296:Nat)^(i+1)=4294967296^i*4294967296:=eX ..
theorem azF{U p V T S first third:Nat}(hU:U<(first*4294967296+third+1)*p)(h3:third<4294967296)(hV:(T*4294967296+S)*p≤V)(hT:0<T):
  U<(first/T+1)*V:=by
 have h1:first+1≤(first/T+1)*T:=by
  have:=Nat.lt_mul_div_succ first hT
  rw[bN];omega
 calc U<(first*4294967296+third+1)*p:=hU
  _≤((first+1)*4294967296)*p:=bT _ (by omega)
  _≤(((first/T+1)*T)*4294967296)*p:=bT _ (bT _ h1)
  _=(first/T+1)*((T*4294967296)*p):=by rw[cX (first/T+1),cX (first/T+1)]
  _≤(first/T+1)*V:=eM _ (cW (bT _ (lT _ _)) hV)
theorem aFZ{U p V T S first third v0:Nat}(hU:(first*4294967296+third)*p≤U)(hV:V=(T*4294967296+S)*p+v0)(hv:v0<p)(hlt:U<V*4294967296):first≤T*4294967296+S:=by
 rcases iZ (T*4294967296+S) first with h|h
 ·exfalso
  have h1:(T*4294967296+S+1)*p≤first*p:=bT p h
  rw[cY _ 1,mU] at h1
  rw[cY,qQ] at hU
  have:0≤third*p:=bZ _
  omega
 ·exact h
theorem aBh{U p V T S first third g r:Nat}(hU:U<(first*4294967296+third+1)*p)(hV:(T*4294967296+S)*p≤V)(hg:first=g*T+r)(hc:r*4294967296+third<g*S):U<g*V:=by
 refine cM hU (cW (bT p (m:=g*(T*4294967296+S)) ?_) ?_)
 ·rw[cN,←cX,hg,cY];omega
 ·rw[cX];exact eM _ hV
theorem ayX{U p V T S first third g r v0:Nat}(hU:(first*4294967296+third)*p≤U)(hV:V=(T*4294967296+S)*p+v0)(hv:v0<p)(hT:0<T)(hg:first=g*T+r)(hgB:g<4294967296)(hc:g*S≤r*4294967296+third):g*V<U+V:=by
 have h1:g*((T*4294967296+S)*p)≤U:=by
  rw[←cX]
  refine cW (bT p ?_) hU
  rw[cN,←cX,hg,cY];omega
 have h2:g*v0≤4294967295*v0:=bT _ (by omega)
 have h3:4294967296*p≤V:=by
  rw[hV]
  refine cW (bT p ?_) (lT _ _)
  omega
 have h4:g*V=g*((T*4294967296+S)*p)+g*v0:=by rw[←cN,←hV]
 omega
theorem azl{U V R g:Nat}(h:U<(g+1)*V)(hr:R+g*V=U):R<V:=by
 rw[cY,mU] at h
 omega
theorem azO{U V R R' g w M:Nat}(h2:g*V<U+V)(hr:R+g*V=U+M)(hb:R'+w*M=R+V)(hR:R<M)(hR':R'<M)(hw:w≤1)(hg:0<g):R'+(g-1)*V=U∧R'<V:=by
 have hgv:g*V=(g-1)*V+V:=by
  conv=>lhs;rw[show g=(g-1)+1 by omega,cY,mU]
 have:w=1:=by
  rcases iZ w 1 with h|h
  ·have:w=0:=by omega
   subst this
   omega
  ·omega
 subst this
 omega
theorem afP(us:List Nat)(i:Nat):dv (us.drop i)=us.getD i 0+4294967296*dv (us.drop (i+1)):=by
 rcases iZ i us.length with h|h
 ·rw[aS h];simp[dv,List.getD,aZ h]
 ·rw[fL h,fL (by omega)]
  simp[dv,cR h,List.getD]
theorem aey(us:List Nat)(i:Nat):dv us=dv (us.take i)+4294967296^i*dv (us.drop i):=by
 rcases iZ us.length i with h|h
 ·rw[aT (by omega),fL (by omega)];simp[dv]
 ·exact aiz us i h
theorem afS{us:List Nat}(h:DOk us)(i:Nat):dv (us.take i)<4294967296^i:=by
 refine cM (aet (h.take i)) (bW (by decide) ?_)
 simp[cV];omega
theorem aig{us:List Nat}{i:Nat}(hd:dv us<4294967296^i):dv (us.drop i)=0:=by
 have h:=aey us i
 rcases eY (dv (us.drop i)) with h0|h0
 ·exact h0
 ·have:=eM (4294967296^i) h0
  omega
theorem azm{W W' U E p u x bo b c c1 g d:Nat}(hs:W'+p*u=W+p*x)(hw:W+E=U+(bo+c)*p)(hc:c1=c+g*d)(hx:x+(c1%4294967296+bo)=u+b*4294967296):
  W'+(E+g*d*p)=U+(b+c1/4294967296)*(p*4294967296):=by
 have h1:=congrArg (p* ·) hx
 simp only[cN] at h1
 have h2:p*c1=p*(c1%4294967296)+p*(c1/4294967296)*4294967296:=by
  rw[cX,←cN,Nat.mod_add_div']
 have h3:p*c1=p*c+p*(g*d):=by rw[hc,cN]
 rw[cY,bN bo,bN c] at hw
 rw[bN (g*d),cY,←cX b,←cX (c1/4294967296),bN b,bN (c1/4294967296)]
 rw[←cX] at h1
 omega
theorem azE{W W' U E p u x bo b c:Nat}(hs:W'+p*u=W+p*x)(hw:W+E=U+(bo+c)*p)(hx:x+(c+bo)=u+b*4294967296):W'+E=U+b*(p*4294967296):=by
 have h1:=congrArg (p* ·) hx
 simp only[cN] at h1
 rw[cY,bN bo,bN c] at hw
 rw[←cX b,bN b]
 rw[←cX] at h1
 omega
theorem azu{W W' R E p u d c:Nat}(hs:W'+p*u=W+p*((c+(u+d))%4294967296))(hw:W+c*p=R+E):W'+(c+(u+d))/4294967296*(p*4294967296)=R+(E+d*p):=by
 have h2:p*(c+(u+d))=p*((c+(u+d))%4294967296)+p*((c+(u+d))/4294967296)*4294967296:=by
  rw[cX,←cN,Nat.mod_add_div']
 rw[cN p c,cN p u] at h2
 rw[bN c] at hw
 rw[bN d,←cX,bN _ p]
 omega
theorem aAL{W W' R p u c:Nat}(hs:W'+p*u=W+p*((u+c)%4294967296))(hw:W+c*p=R):W'+(u+c)/4294967296*(p*4294967296)=R:=by
 have h2:p*(u+c)=p*((u+c)%4294967296)+p*((u+c)/4294967296)*4294967296:=by
  rw[cX,←cN,Nat.mod_add_div']
 rw[cN p u] at h2
 rw[bN c] at hw
 rw[←cX,bN _ p]
 omega
theorem aET{us:List Nat}(h:DOk us)(i:Nat)(hd:dv us<4294967296^(i+3)):
  dv us=((us.getD (i+2) 0*4294967296+us.getD (i+1) 0)*4294967296+us.getD i 0)*4294967296^i+dv (us.take i):=by
 have h0:=aig hd
 rw[aey us i,afP us i,afP us (i+1),afP us (i+2),h0,jV,bN]
 congr 2
 omega
theorem aEl{us:List Nat}(h:DOk us)(i:Nat)(hd:dv us<4294967296^(i+2)):
  dv us=(us.getD (i+1) 0*4294967296+us.getD i 0)*4294967296^i+dv (us.take i):=by
 have h0:=aig hd
 rw[aey us i,afP us i,afP us (i+1),h0,jV,bN]
 congr 2
 omega
theorem agF{us:List Nat}{k i d:Nat}(h:DOk us)(hd:d<4294967296)(hk:dv us<4294967296^k)(hi:i<k):dv (us.set i d)<4294967296^k:=by
 rw[aey _ k,List.drop_set,if_pos hi,aig hk,oS,dY]
 exact afS (h.set i hd) k
end Go.Sx
end
section
namespace Go.Sx
open Go Go.Proofs Tryz
theorem auW(p k a1 a2 E:Nat)(hk:k<32)(h1:a1<4294967296)(hp:p=2^k):(a1+4294967296*(a2+4294967296*E))/p=(a1+a2*4294967296)/p%4294967296+4294967296*((a2+4294967296*E)/p):=by
 subst hp
 have hp0:0<(2:Nat)^k:=dR (by omega)
 have hB:4294967296=2^(32-k)*2^k:=by rw[←fV,show 32-k+k=32 by omega]
 -- the quotient and the rest of the quotient by the base
 have hq:(a1+4294967296*(a2+4294967296*E))/2^k/4294967296=(a2+4294967296*E)/2^k:=by
  rw[lW,bN (2^k),←lW,lZ _ _ (by decide),iM h1,dT]
 have hr:(a1+4294967296*(a2+4294967296*E))/2^k%4294967296=(a1+a2*4294967296)/2^k%4294967296:=by
  have e1:a1+4294967296*(a2+4294967296*E)=(a1+a2*4294967296)+2^k*(2^(32-k)*(4294967296*E)):=by
   rw[←cX (2^k),bN (2^k) (2^(32-k)),←hB]
   omega
  rw[e1,lZ _ _ hp0]
  rw[show 2^(32-k)*(4294967296*E)=4294967296*(2^(32-k)*E) by rw[kW]]
  rw[mJ]
 have h:=Nat.mod_add_div ((a1+4294967296*(a2+4294967296*E))/2^k) 4294967296
 rw[hq,hr] at h
 exact h.symm
theorem at8(a:List Nat)(i:Nat):dv (a.drop i)=a.getD i 0+4294967296*dv (a.drop (i+1)):=by
 by_cases h:i<a.length
 ·rw[aS h,aK,aZ h];rfl
 ·rw[fL (by omega),fL (by omega),aly (by omega)];rfl
theorem au7{a:List Nat}(ha:DOk a)(k i:Nat)(hk:k<32):dv (a.drop i)/2^k=(a.getD i 0+a.getD (i+1) 0*4294967296)/2^k%4294967296+4294967296*(dv (a.drop (i+1))/2^k):=by
 rw[at8 a i,at8 a (i+1)]
 exact auW _ k _ _ _ hk (ha.get i) rfl
theorem azp{A G:Gh}{x:SV}{ds:List Nat}{k kk:Nat}(hx:IsD A x ds)[GL A G](hk32:k<32)(hk:dv ds/2^k<2^kk)(hb:ds.length≤1125899906842):
  Fn prog 302 [x.v, .int .u64 (k:Int)] G (fun v G'=> ∃z:SV,v=z.v∧IsN kk G' z (dv ds/2^k)):=by
 have htl:=abp ds
 have hcall:=fun G1 (_:GL A G1)=>aa3 (G:=G1) hx (by omega)
 have hxt:=hx.trim
 rw[←abc ds] at hk⊢
 generalize trimD ds=a at*
 have hok:=hxt.ok
 refine Fn.intro func302 J J ntmps302 rfl ?_
 intro C _ _
 refine sR<|sa J J<|zE<|sR<|sm J J<|?_
 refine sc (zC J J (hcall _ inferInstance) rfl ?_)
 rintro _ G1 _ rfl
 refine sa J J<|zE<|aak<|sR<|sm J J<|sy (ahj J J (by omega) (by omega) (by decide)) rfl<|sm J J<|adk J J<|sy (aaM rfl) rfl<|?_
 rw[show(k:Int)/32=0 by omega]
 refine sy (ahP J J) rfl<|zE<|?_
 refine aaI rfl (fun hc=>?_) (fun hc=>?_) -- slot 17
 ·refine sR<|sa J J<|zE<|aaL<|?_
  have:a=[]:=bS (by omega)
  subst this
  refine zD (.tmp rfl .nil) ⟨⟨none,0,0⟩,rfl,?_⟩
  have e0:dv []/2^k=0:=by simp[dv]
  rw[e0]
  exact⟨by unfold dg;exact .nil _,dR (by omega)⟩
 refine zK<|sR<|sm J J<|sy (ahj J J (by omega) (by omega) (by decide)) rfl<|sy (apY rfl) rfl<|sm J J<|sy (ahJ J J (by omega) (by decide)) rfl<|?_
 rw[show(k:Int)/32=0 by omega,show(k:Int)%32=k by omega]
 refine sa J J<|sa J J<|zE<|sR<|sm J J<|adk J J<|sm J J<|sy (aa6 J J) rfl<|?_
 refine sc (aeQ J J (by omega) (by omega) (by omega) (by rfl) rfl ?_)
 intro b2
 rw[aeb,show((a.length:Int)-0).toNat=a.length by omega]
 refine sa J J<|zE<|aak<|sR<|sm J J<|adk J J<|sm J J<|zE<|aat<|?_
 refine ab9 (X:=aqt) (fun q=>[(30, .int .i64 q.i),(29, .int .i64 a.length),(0, .slice x.a a.length x.c),(5, .int .i64 0),(7, .slice (some ⟨b2,0,none⟩) a.length a.length),(6, .int .u64 k)])
  (fun q=>[⟨b2,q.ws.map dI,262,true⟩])
  (fun q _=>q.i≤a.length∧q.ws.length=a.length∧DOk q.ws∧dv a/2^k=dv (q.ws.take q.i)+4294967296^q.i*(dv (a.drop q.i)/2^k)) (fun q=>a.length-q.i) ⟨List.replicate a.length 0,0⟩
  ⟨bZ _,by simp, .replicate _,by simp[dv]⟩ (.cons rfl (.cons rfl (.cons rfl (.cons rfl (.cons rfl (.cons rfl .nil)))))) rfl ?_
 rintro ⟨ws,i⟩ Gy _ ⟨hia,hwl,hwo,hinv⟩
 simp only[] at hia hwl hwo hinv⊢
 refine sR<|sy (acl J J) rfl<|zE<|aak<|?_
 refine abo rfl (fun hc=>?_) (fun hc=>?_) -- slot 31
 ·have hin:i=a.length:=by omega
  refine abx<|abL<|abL<|aau<|sR<|sm J J<|?_
  refine aco b2 (.hd ..) (fun G3 _ hgb=>?_)
  have hD:IsD G3 ⟨some ⟨b2,0,none⟩,a.length,a.length⟩ ws:= .of_block hwo hgb.h hwl.symm (bQ _) (by rw[aT (by simp)])
  have hdv:dv a/2^k=dv ws:=by
   rw[hinv,hin,aT (by omega),dJ]
   simp[dv]
  refine sc (zC J J (aa3 hD (by omega)) rfl ?_)
  rintro _ G4 _ rfl
  refine sa J J<|zE<|aaL<|?_
  refine zD (.tmp rfl .nil) ⟨⟨some ⟨b2,0,none⟩,(trimD ws).length,a.length⟩,rfl,?_⟩
  have h3:=hD.trim.up (G:=G4)
  rw[hdv] at hk⊢
  exact⟨by rw[ado hwo];exact h3,hk⟩
 have hia':i<a.length:=by omega
 have hga:=hok.get i
 have hga2:=hok.get (i+1)
 refine zK<|aak<|aat<|sR<|sm J J<|sa J J<|zE<|sR<|sm J J<|sm J J<|sm J J<|sy (aar J J) rfl<|?_
 refine sy (ab2 (z:=⟨x.a,a.length,x.c⟩) hxt J J (by omega) (by show((i:Int)+0)<(a.length:Nat);omega)) rfl<|?_
 rw[show((i:Int)+0).toNat=i by omega]
 refine sy (ab3 hxt rfl (by omega)) rfl<|sy (aaM rfl) rfl<|sa J J<|zE<|?_
 refine am9 Unit (fun _=>[(30, .int .i64 i),(8, .int .i64 i),(29, .int .i64 a.length),(0, .slice x.a a.length x.c),(5, .int .i64 0),(7, .slice (some ⟨b2,0,none⟩) a.length a.length),(6, .int .u64 k),(9, .int .u64 ((a.getD i 0+a.getD (i+1) 0*2^32:Nat):Int))]) (fun _=>[⟨b2,ws.map dI,262,true⟩]) (fun _ _=>True) ?_ ?_
 ·refine sR<|sm J J<|sm J J<|sy (aar J J) rfl<|sy (aar J J) rfl<|sm J J<|adk J J<|sy (acl J J) rfl<|?_
  refine zE<|?_
  refine aaI rfl (fun hc2=>?_) (fun hc2=>?_) -- slot 46
  ·refine aal<|sm J J<|sm J J<|sm J J<|sm J J<|sy (aar J J) rfl<|sy (aar J J) rfl<|sy (ab2 (z:=⟨x.a,a.length,x.c⟩) hxt J J (by omega) (by show((i:Int)+0+1)<(a.length:Nat);omega)) rfl<|?_
   rw[show((i:Int)+0+1).toNat=i+1 by omega]
   refine sy (ab3 hxt rfl (by omega)) rfl<|sy (aaM rfl) rfl<|sy (ajZ J J (by decide)) rfl<|?_
   rw[aee (a.getD (i+1) 0) 32 (by decide) (by omega) rfl]
   refine sy (ab4 J J (ayt (a.getD i 0) (a.getD (i+1) 0) 32 (by omega) (by omega))) rfl<|sa J J<|zE<|?_
   exact ajX () trivial (.cons rfl (.cons rfl (.cons rfl (.cons rfl (.cons rfl (.cons rfl (.cons rfl (.cons rfl .nil)))))))) rfl
  refine zK<|?_
  have h0:a.getD (i+1) 0=0:=aly (by omega)
  exact ajX () trivial (.cons rfl (.cons rfl (.cons rfl (.cons rfl (.cons rfl (.cons rfl (.cons rfl (.cons (by rw[h0,kV,dY];rfl) .nil)))))))) rfl
 rintro _ Gz _ _
 refine aal<|sm J J<|sm J J<|sm J J<|sm J J<|sy (adL J J (by omega)) rfl<|?_
 rw[aeV _ k (by omega) (bX k)]
 refine sy (abi rfl) rfl<|sy (abg J J (by omega) (by omega)) rfl<|?_
 rw[bX]
 refine sc (aa9 (d:=(a.getD i 0+a.getD (i+1) 0*2^32)/2^k%4294967296) J J (by rw[nX];rfl) (.hd ..) (by omega) rfl ?_)
 refine zE<|aal<|sy (aar J J) rfl<|sm J J<|zE<|?_
 refine aa0 ⟨ws.set i ((a.getD i 0+a.getD (i+1) 0*2^32)/2^k%4294967296),i+1⟩ ⟨by show i+1≤_;omega,by simp[hwl],hwo.set _ (dZ _ (by decide)),?_⟩ (by show a.length-(i+1)<a.length-i;omega) (.cons rfl (.cons rfl (.cons rfl (.cons rfl (.cons rfl (.cons rfl .nil)))))) rfl
 show dv a/2^k=dv ((ws.set i ((a.getD i 0+a.getD (i+1) 0*2^32)/2^k%4294967296)).take (i+1))+4294967296^(i+1)*(dv (a.drop (i+1))/2^k)
 rw[hinv,abh (by omega),au7 hok k i hk32,axC i,cN,cX,jJ]
end Go.Sx
end
section
namespace Go.Sx
open Go
section
variable {P:Program} {C:Ctx} {n:Nat} {fr:Fr} {own:List Own} {G:Gh}
theorem av6{c:Code}{Q:Exit→Act→World→Prop}(h:St C n fr own G (c.wp P (Exit.noGoto Q))):St C n fr own G ((Code.scope c).wp P Q):=
 fun a w rl=>wp_scope_straight (h a w rl)
theorem axl{l:Nat}{Q:Exit→Act→World→Prop}(h:St C n fr own G (Q .normal)):St C n fr own G ((Code.label l).wp P Q):=
 fun a w rl=>wp_label (h a w rl)
def auj:Exit→Bool
 | .goto _=>false
 |_=>true
end
end Go.Sx
end
