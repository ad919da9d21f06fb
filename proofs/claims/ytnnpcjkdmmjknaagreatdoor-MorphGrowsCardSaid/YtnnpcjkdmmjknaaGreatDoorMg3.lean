import Derived.Test.YtnnpcjkdmmjknaaGreatDoorMg2
import Derived.Scope
set_option linter.all false
set_option maxHeartbeats 1000000
set_option maxRecDepth 100000
section
namespace Go.Sx
open Go Go.Proofs Tryz
variable {x u kk w j d n:Nat}{ds es a b:List Nat}{P:Program}{G A B:Gh}{y:SV}{t t1 t2 ty':TypeId}{q p:Int}
def bl(x:Nat):Nat:=if x=0 then 0 else Nat.log2 x+1
def E0(x:Nat):x<2^bl x:=by
 unfold bl;split
 .rename_i h;subst h;decide
 .exact Nat.lt_log2_self
def pi{x k:Nat}:bl x<=k↔x<2^k:=by
 constructor
 .intro h;exact dZ (E0 x) (bR (by omega) h)
 .intro h
  unfold bl;split
  .omega
  .rename_i h0
   have:=(Nat.log2_lt h0).2 h;omega
def TM(h:x≠0):bl x=1+bl (x/2):=by
 have h1: ∀k,bl x<=k+1↔bl (x/2)<=k:=fun k=>by
  rw[pi,pi,fY];omega
 have h2:bl x≠0:=fun e=>by
  have:=E0 x;rw[e] at this;simp at this;exact h this
 have h3:=(h1 (bl (x/2))).2 (bX _);have h4:=(h1 (bl x-1)).1 (by omega);omega
def Sw: ∀(f x:Nat),x<2^f->Lib.bitLenAux f x=bl x
 |0,x,h=>by
  have:x=0:=by simpa using h
  subst this;rfl
 |f+1,x,h=>by
  unfold Lib.bitLenAux;split
  .rename_i h0;subst h0;rfl
  .rename_i h0
   rw[Sw f (x/2) (by rw[fY] at h;omega),TM h0]
def avE(h:x<2^64):Lib.bitLen x=bl x:=Sw 64 x h
def WI{k:Nat}(d:Nat)(h:x<2^k)(hd:d≠0):bl (x+2^k*d)=k+bl d:=by
 have h1: ∀j,bl (x+2^k*d)<=k+j↔bl d<=j:=fun j=>by
  rw[pi,pi,eY];constructor
  .intro h'
   exact Nat.lt_of_mul_lt_mul_left (a:=2^k) (by omega)
  .intro h'
   have:2^k*(d+1)<=2^k*2^j:=fL _ h';rw[dS] at this;omega
 have h2:k<bl (x+2^k*d):=by
  rcases jK k (bl (x+2^k*d)) with h'|h'
  .exact h'
  .have:=pi.1 h'
   have h3:2^k*1<=2^k*d:=fL _ (by omega);omega
 have h3:=(h1 (bl d)).2 (bX _);have h4:=(h1 (bl (x+2^k*d)-k)).1 (by omega);omega
def XE(h:bB ds)(hn:dC ds)(hne:ds≠[]):bl (dv ds)=32*(ds.length-1)+bl (ds.getD (ds.length-1) 0):=by
 rcases nR ds with rfl|⟨l,d,rfl⟩
 .exact absurd J hne
 .rw[nS] at*
  have hd:d≠0:=fun e=>by subst e;simp[dC] at hn
  have hl:bB l:=fun x hx=>h x (bU _ hx);have h1:=jA hl;rw[Ax];have h2:(4294967296:Nat)^l.length=2^(32*l.length):=by rw[qK]
  rw[h2] at h1⊢;have h3:dv [d]=d:=by simp[dv]
  rw[h3,WI d h1 hd];have h4:(l++[d]).length-1=l.length:=by simp
  rw[h4,aK,jT (bX _)];simp
def Rx{f:FuncId}{fn:Func}{c:Code}(h:P.funcs[f]? =some fn)(hb:fn.body=some c)(hn:(fn.name== "runtime.NumGoroutine")=false):uE P f:=⟨fn,h,hn,by rw[hb];rfl⟩
def GO(hx:x<4294967296):Fn prog 302 [.int .u32 (x:Int)] G (fun v _=>v= .int .i64 (32-(bl x:Int))):=by
 have h:=Fn.of_calls (G:=G) (Rx func302 J J) (fun w=>Tryz.bits_LeadingZeros32 (x:Int) w (by omega) (by omega));rw[aR,avE (qU hx (by decide))] at h;exact h
def IG(hu:u<18446744073709551616):Fn prog 237 [.int .u64 (u:Int)] G (fun v G'=> ∃z:SV,v=z.v/\gg 64 G' z u):=by
 refine Fn.intro func237 J J ntmps237 J ?_;intro C _ _;refine sR<|sa J J<|zE<|sR<|sm J J<|sy (ly J) J<|sm J J<|?_;refine sy (m7 J J) J<|sy (ly J) J<|?_;refine sc (DB (by rfl) (by rfl) (by rfl) (by rfl) J ?_);intro b1;refine nH b1 (.hd ..) (fun G1 _ hgb=>?_);have h1:((u:Int)%4294967296)=((u%4294967296:Nat):Int):=by omega
 have h2:((u:Int).fdiv (2^min (32:Int).toNat IntKind.u64.bits)%4294967296)=((u/4294967296:Nat):Int):=by
  have:(2^min (32:Int).toNat IntKind.u64.bits:Int)=4294967296:=by decide
  rw[this,iW _ (by omega)];omega
 have hok:bB [u%4294967296,u/4294967296]:= .cons (by omega) (.cons (by omega) .nil);have hd:cj G1 ⟨some ⟨b1,0,none⟩,2,2⟩ [u%4294967296,u/4294967296]:= .of_block hok hgb.h J (bX _) (by rw[h1,h2];rfl);have hv:dv [u%4294967296,u/4294967296]=u:=by simp only[dv];omega
 refine sc (zC J J (jp hd (by simp)) J ?_);rintro _ G2 _ rfl;refine sa J J<|zE<|cg<|?_;refine zD (.tmp J .nil) ⟨⟨some ⟨b1,0,none⟩,(trimD [u%4294967296,u/4294967296]).length,2⟩,J,?_⟩;have:=hd.trim.up (G:=G2);rw[<-qk hok,hv] at this;exact⟨by rw[<-qk hok,hv];exact this,dZ hu (by decide)⟩
def NX{P:Program}{t:TypeId}(a b k:Nat)(ha:a<2^k)(h:a+b*2^k<18446744073709551616)(w:World):(binOp .or t (.int .u64 (a:Int)) (.int .u64 ((b*2^k:Nat):Int))).run P w= .ok (.int .u64 ((a+b*2^k:Nat):Int)) w:=by
 have h1:(BitVec.ofInt 64 (a:Int) ||| BitVec.ofInt 64 ((b*2^k:Nat):Int)).toNat=a+b*2^k:=by
  rw[BitVec.toNat_or,BitVec.ofInt_natCast,BitVec.ofInt_natCast,BitVec.toNat_ofNat,BitVec.toNat_ofNat,gS (by omega),gS (by omega)];rw[<-mJ,Nat.or_comm,<-mW ha,mJ];omega
 have h2:IntKind.u64.wrap ((a+b*2^k:Nat):Int)=((a+b*2^k:Nat):Int):=by rw[od];omega
 simp only[binOp];show(Op.intBits .or .u64 (a:Int) ((b*2^k:Nat):Int)).run P w=_;unfold Op.intBits;show(pure (Value.int .u64 (IntKind.u64.wrap ((BitVec.ofInt 64 (a:Int) ||| BitVec.ofInt 64 ((b*2^k:Nat):Int)).toNat:Int))):Sem Value).run P w=_;rw[h1,h2,run_pure]
def Kb{A G:Gh}{x:SV}{ds:List Nat}(hx:cj A x ds)[GL A G](hb:ds.length<=1125899906842624:=by omega):Fn prog 243 [x.v] G (fun v _=>v= .tuple #[.int .u64 ((if dv ds<18446744073709551616 then dv ds else 0:Nat):Int), .bool (decide (dv ds<18446744073709551616))]):=by
 have htl:=oe ds;have hdv:=kt ds;have hok:=hx.ok.trimD;have hnr:=dC.trimD ds;have hxt:=hx.trim;have hcall:=fun G1 (_:GL A G1)=>jp (G:=G1) hx;generalize trimD ds=es at*;have hlen:=hxt.len;rw[<-hdv];have hbig:(if dv es<18446744073709551616 then dv es else 0)=if es.length<=2 then dv es else 0:=by
  by_cases h2:es.length<=2
  .have h3:=jA hok
   have h4:(4294967296:Nat)^es.length<=4294967296^2:=bR (by omega) h2;rw[if_pos h2,if_pos (by omega)]
  .have h3:=sk hnr (fun e=>by subst e;simp at h2)
   have h4:(4294967296:Nat)^2<=4294967296^(es.length-1):=bR (by omega) (by omega);rw[if_neg h2,if_neg (by omega)]
 have hbig2:decide (dv es<18446744073709551616)=decide (es.length<=2):=by
  rw[decide_eq_decide];by_cases h2:es.length<=2
  .have h3:=jA hok
   have h4:(4294967296:Nat)^es.length<=4294967296^2:=bR (by omega) h2;exact⟨fun _=>h2,fun _=>by omega⟩
  .have h3:=sk hnr (fun e=>by subst e;simp at h2)
   have h4:(4294967296:Nat)^2<=4294967296^(es.length-1):=bR (by omega) (by omega);exact⟨fun _=>by omega,fun h=>absurd h h2⟩
 rw[hbig,hbig2];refine Fn.intro func243 J J ntmps243 J ?_;intro C _ _;refine sR<|sa J J<|sa J J<|zE<|sR<|sm J J<|?_;refine sc (zC J J (hcall _ inferInstance) J ?_);rintro _ G1 _ rfl;refine sa J J<|zE<|bi<|sR<|sm J J<|cB J J<|sy (q7 J J) J<|zE<|?_;refine fq J (fun hc=>?_) (fun hc=>?_) -- slot 11
 .refine sR<|sa J J<|sa J J<|zE<|cg<|?_
  refine zD (.tmp J (.tmp J .nil)) ?_;have: ¬es.length<=2:=by omega
  simp[gI,this]
 have h2:es.length<=2:=by omega
 refine zK<|sR<|sa J J<|zE<|bi<|sR<|sm J J<|cB J J<|sm J J<|zE<|du<|?_;refine lx (X:=Nat) (fun k=>[(14, .int .i64 k),(13, .int .i64 es.length),(12, .slice x.a es.length x.c),(4, .int .u64 ((dv (es.take k):Nat):Int))]) (fun _=>[]) (fun k _=>k<=es.length) (fun k=>es.length-k) 0 (bZ _) (.cons J (.cons J (.cons J (.cons J .nil)))) J ?_;rintro k Gx _ hk;refine sR<|sy (gG J J) J<|zE<|bi<|?_;refine lB J (fun hc=>?_) (fun hc=>?_) -- slot 15
 .refine jl<|dP<|dP<|jg<|sR<|sm J J<|sa J J<|sa J J<|zE<|cg<|?_
  refine zD (.tmp J (.tmp J .nil)) ?_;have hk':k=es.length:=by omega
  subst hk';simp[gI,h2]
 have hk':k<es.length:=by omega
 have hdk:=hok.get k;have hdt:=jA (hok.take k);rw[cR,iN (by omega)] at hdt;have hds:=ju es k;have hd2:=jA (hok.take (k+1));rw[cR,iN (by omega)] at hd2;have hp2:(4294967296:Nat)^(k+1)<=4294967296^2:=bR (by omega) (by omega);have hpk:(4294967296:Nat)^k=2^(32*k):=by rw[qK]
 refine zK<|bi<|du<|sR<|sm J J<|sy (iH (z:=⟨x.a,es.length,x.c⟩) hxt J J (by omega) (by show(k:Int)<(es.length:Nat);omega)) J<|sy (i0 hxt J) J<|sa J J<|sa J J<|zE<|dl<|?_;refine sm J J<|sm J J<|sy (gE J (by omega) (by rw[aR];omega)) J<|sm J J<|sy (Nk J J) J<|?_;have hsh:IntKind.u64.wrap (((es.getD (k:Int).toNat 0:Nat):Int)*2^min ((32:Int)*(k:Int)).toNat IntKind.u64.bits)=((es.getD k 0*2^(32*k):Nat):Int):=by
  have e1:((32:Int)*(k:Int)).toNat=32*k:=by omega
  rw[e1,aR,iN (by show 32*k<=64;omega),od];have e2:((es.getD k 0:Nat):Int)*2^(32*k)=((es.getD k 0*2^(32*k):Nat):Int):=by push_cast;rfl
  rw[e2];have e3:es.getD k 0*2^(32*k)<18446744073709551616:=by rw[<-hpk,cK];omega
  omega
 refine sy (xe J J (by omega)) J<|?_;rw[hsh];refine sy (jc J J (NX (dv (es.take k)) (es.getD k 0) (32*k) (by rw[<-hpk];exact hdt) (by rw[<-hpk,cK];omega))) J<|sa J J<|zE<|dl<|sy (dt J J) J<|sm J J<|zE<|?_;refine i7 (k+1) (by omega) (by omega) (.cons J (.cons J (.cons J (.cons ?_ .nil)))) J;rw[hds,hpk,cK (2^(32*k))];rfl
def Zv{x:SV}(hx:cj A x ds)[GL A G](hb:ds.length<=1125899906842624):Fn prog 238 [x.v] G (fun v _=>v= .int .i64 ((bl (dv ds):Nat):Int)):=by
 have htl:=oe ds;have hdv:=kt ds;have hok:=hx.ok.trimD;have hnr:=dC.trimD ds;have hxt:=hx.trim;have hcall:=fun G1 (_:GL A G1)=>jp (G:=G1) hx;generalize trimD ds=es at*;have hlen:=hxt.len;rw[<-hdv];refine Fn.intro func238 J J ntmps238 J ?_;intro C _ _;refine sR<|sa J J<|zE<|sR<|sm J J<|?_;refine sc (zC J J (hcall _ inferInstance) J ?_);rintro _ G1 _ rfl;refine sa J J<|zE<|bi<|sR<|sm J J<|cB J J<|sy (fk J J) J<|zE<|?_;refine fq J (fun hc=>?_) (fun hc=>?_) -- slot 7
 .refine sR<|sa J J<|zE<|cg<|?_
  refine zD (.tmp J .nil) ?_;have:es=[]:=bM (by omega);subst this;rfl
 have hne:0<es.length:=by omega
 have hkt:((es.length:Int)-1).toNat=es.length-1:=by omega
 have hg:=hok.get (es.length-1);have hbl:bl (es.getD (es.length-1) 0)<=32:=pi.2 (by omega);refine zK<|sR<|sm J J<|cB J J<|sy (Nk J J) J<|sm J J<|sm J J<|cB J J<|sy (jy J J) J<|?_;refine sy (iH (z:=⟨x.a,es.length,x.c⟩) hxt J J (by omega) (by show _<((es.length:Nat):Int);omega)) J<|sy (i0 hxt J) J<|?_;rw[hkt];refine sc (zC J J (GO hg) J ?_);rintro _ G2 _ rfl;refine sy (jy J J) J<|sa J J<|zE<|cg<|?_;refine zD (.tmp J .nil) ?_;rw[XE hok hnr (fun e=>by subst e;simp at hne)];simp only[gI,Value.int.injEq,true_and];omega
def gk(a b:Nat):Int:=if a<b then-1 else if a=b then 0 else 1
def LR{x:SV}(hx:cj A x ds)(hy:cj B y es)[GL A G][GL B G](hb:ds.length<=1125899906842624:=by omega)(hb2:es.length<=1125899906842624:=by omega):
  Fn prog 299 [x.v,y.v] G (fun v _=>v= .int .i64 (gk (dv ds) (dv es))):=by
 have htl:=oe ds;have htl2:=oe es;have hcall:=fun G1 (_:GL A G1)=>jp (G:=G1) hx;have hcall2:=fun G1 (_:GL B G1)=>jp (G:=G1) hy;have hxt:=hx.trim;have hyt:=hy.trim;have hok:=hx.ok.trimD;have hok2:=hy.ok.trimD;have hnr:=dC.trimD ds;have hnr2:=dC.trimD es;rw[<-kt ds,<-kt es];generalize trimD ds=a at*;generalize trimD es=b at*;refine Fn.intro func299 J J ntmps299 J ?_;intro C _ _;refine sR<|sa J J<|zE<|sR<|sm J J<|?_;refine sc (zC J J (hcall _ inferInstance) J ?_);rintro _ G1 _ rfl;refine sm J J<|?_;refine sc (zC J J (hcall2 _ inferInstance) J ?_);rintro _ G2 _ rfl;refine sa J J<|sa J J<|zE<|bi<|sR<|sm J J<|cB J J<|sm J J<|cB J J<|sy (vP J J) J<|zE<|?_;refine fq J (fun hc=>?_) (fun hc=>?_) -- slot 14
 .refine bi<|sR<|sm J J<|cB J J<|sm J J<|cB J J<|sy (gG J J) J<|zE<|?_
  refine fq J (fun hc2=>?_) (fun hc2=>?_) -- slot 19
  .refine sR<|sa J J<|zE<|cg<|?_
   refine zD (.tmp J .nil) ?_;have:=ud hok hnr2;simp[gI,gk,this]
  refine zK<|sR<|sa J J<|zE<|cg<|?_;refine zD (.tmp J .nil) ?_;have:=ud hok2 hnr;have h1: ¬dv a<dv b:=by omega
  have h2: ¬dv a=dv b:=by omega
  simp[gI,gk,h1,h2]
 have hl:a.length=b.length:=by omega
 refine zK<|bi<|sR<|sm J J<|cB J J<|sy (jy J J) J<|sa J J<|zE<|du<|?_;refine lx (X:=Nat) (fun k=>[(5, .int .i64 (k-1)),(0, .slice x.a a.length x.c),(1, .slice y.a b.length y.c)]) (fun _=>[]) (fun k _=>k<=a.length/\a.drop k=b.drop k) (fun k=>k) a.length ⟨bX _,by rw[gQ,hl,gQ]⟩ (.cons J (.cons J (.cons J .nil))) J ?_;rintro k Gx _ ⟨hk,hd⟩;refine bi<|sR<|sm J J<|sy (qi J J) J<|zE<|?_;refine lB J (fun hc=>?_) (fun hc=>?_) -- slot 24
 .refine jl<|dP<|dP<|jg<|sR<|sa J J<|zE<|cg<|?_
  refine zD (.tmp J .nil) ?_;have:k=0:=by omega
  subst this;have hab:a=b:=by simpa using hd
  subst hab;simp[gI,gk]
 have hk1:0<k:=by omega
 have hkt:((k:Int)-1).toNat=k-1:=by omega
 have hga:=hok.get (k-1);have hgb:=hok2.get (k-1);have hk2:k-1+1=k:=by omega
 refine zK<|bi<|du<|du<|bi<|dr (fun _=>false) [(0,true),(1,true),(2,true),(3,true),(4,true),(5,true),(6,true),(7,true),(8,true),(9,true)] follows (by kernel_rfl)<|?_;refine dM J J J<|dM J J J<|dy J (fun _=>iH (z:=⟨x.a,a.length,x.c⟩) hxt J J (by omega) (by show _<((a.length:Nat):Int);omega)) J J<|dy J (fun _=>i0 hxt J) J J<|?_;refine dM J J J<|dM J J J<|dy J (fun _=>iH (z:=⟨y.a,b.length,y.c⟩) hyt J J (by omega) (by show _<((b.length:Nat):Int);omega)) J J<|dy J (fun _=>i0 hyt J) J J<|?_;refine dy J (fun _=>gG J J) J J<|dA J J J<|dn<|?_;refine fq J (fun hc2=>?_) (fun hc2=>?_) -- slot 27
 .refine sR<|sa J J<|zE<|cg<|?_
  refine zD (.tmp J .nil) ?_;rw[hkt] at hc2;have:=CC hok hok2 (k-1) (by omega) (by omega) hl (by rw[hk2];exact hd);simp[gI,gk,this]
 refine bi<|dr (fun _=>false) [(0,true),(1,true),(2,true),(3,true),(4,true),(5,true),(6,true),(7,true),(8,true),(9,true)] follows (by kernel_rfl)<|dM J J J<|?_;refine dM J J J<|dy J (fun _=>iH (z:=⟨x.a,a.length,x.c⟩) hxt J J (by omega) (by show _<((a.length:Nat):Int);omega)) J J<|dy J (fun _=>i0 hxt J) J J<|dM J J J<|?_;refine dM J J J<|dy J (fun _=>iH (z:=⟨y.a,b.length,y.c⟩) hyt J J (by omega) (by show _<((b.length:Nat):Int);omega)) J J<|dy J (fun _=>i0 hyt J) J J<|dy J (fun _=>q7 J J) J J<|?_;refine dA J J J<|dn<|?_;rw[hkt] at*;refine fq J (fun hc3=>?_) (fun hc3=>?_) -- slot 37
 .refine sR<|sa J J<|zE<|cg<|?_
  refine zD (.tmp J .nil) ?_;have:=CC hok2 hok (k-1) (by omega) (by omega) hl.symm (by rw[hk2];exact hd.symm);have h1: ¬dv a<dv b:=by omega
  have h2: ¬dv a=dv b:=by omega
  simp[gI,gk,h1,h2]
 refine zK<|dl<|sm J J<|sy (jy J J) J<|sa J J<|zE<|?_;refine i7 (k-1) ⟨by omega,?_⟩ (by omega) (.cons (by rw[show((k-1:Nat):Int)=(k:Int)-1 by omega];rfl) (.cons J (.cons J .nil))) J;have heq:a.getD (k-1) 0=b.getD (k-1) 0:=by omega
 rw[aK,aK,aZ (by omega),aZ (by omega)] at heq;rw[bQ (by omega:k-1<a.length),bQ (by omega:k-1<b.length),hk2,hd];congr 1
def Do{k:Nat}(h:ds.length<=k:=by omega):ds.getD k 0=0:=by
 rw[aK,dY h];rfl
def GT(n k:Nat):(List.replicate n 0).getD k 0=0:=by
 rw[aK];by_cases h:k<n
 .simp[h]
 .rw[dY (by simpa using h)];rfl
def aFL{a b c:Nat}(ha:a<4294967296)(hb:b<4294967296)(hc:c<=1):(c+a+b)/4294967296<=1:=by omega
structure aFs where
 ws:List Nat
 k:Nat
 c:Nat
def aCm{x:SV}(hx:cj A x ds)(hy:cj B y es)[GL A G][GL B G](hk:dv ds+dv es<2^kk)(hb:ds.length<=1125899906842)(hb2:es.length<=1125899906842):
  Fn prog 233 [x.v,y.v] G (fun v G'=> ∃z:SV,v=z.v/\gg kk G' z (dv ds+dv es)):=by
 have hlen:=hx.len;have hlen2:=hy.len;refine Fn.intro func233 J J ntmps233 J ?_;intro C _ _;refine sR<|sa J J<|zE<|?_;refine B8 ((SV×List Nat)×(SV×List Nat)) (fun q=>[(0, .slice q.1.1.a q.1.1.n q.1.1.c),(1, .slice q.2.1.a q.2.1.n q.2.1.c)]) (fun _=>[])
  (fun q G=>cj G q.1.1 q.1.2/\cj G q.2.1 q.2.2/\dv q.1.2+dv q.2.2=dv ds+dv es/\q.2.2.length<=q.1.2.length/\q.1.2.length<=1125899906842) ?_ ?_
 .refine sR<|sm J J<|cB J J<|sm J J<|cB J J<|sy (gG J J) J<|zE<|?_
  refine fq J (fun hc=>?_) (fun hc=>?_) -- slot 13
  .refine dl<|sm J J<|sm J J<|sa J J<|sa J J<|zE<|?_
   exact qP ((y,es),(x,ds)) ⟨hy.up,hx.up,by simp;omega,by simp;omega,by simp;omega⟩ (.cons J (.cons J .nil)) J
  refine zK<|?_;exact qP ((x,ds),(y,es)) ⟨hx.up,hy.up,J,by simp;omega,by simp;omega⟩ (.cons J (.cons J .nil)) J
 rintro ⟨⟨x,a⟩,⟨y,b⟩⟩ Gx _ ⟨hx,hy,hsum,hle,hba⟩;rw[<-hsum] at hk⊢;clear hlen hlen2 hsum;have hlen:=hx.len;have hlen2:=hy.len;simp only[] at hx hy hle hba hlen hlen2 hk⊢;refine sR<|sm J J<|cB J J<|sy (dt J J) J<|?_;refine sc (s9 J J (by omega) (by omega) (by omega) (by rfl) J ?_);intro b1;rw[wc,show((x.n:Int)+1).toNat=a.length+1 by omega];refine sa J J<|zE<|sR<|sa J J<|zE<|bi<|sR<|sm J J<|cB J J<|sm J J<|zE<|du<|?_;refine lx (X:=aFs) (fun q=>[(22, .int .i64 q.k),(21, .int .i64 x.n),(20, .slice x.a x.n x.c),(6, .int .u64 q.c),(0, .slice x.a x.n x.c),(1, .slice y.a y.n y.c),(5, .slice (some ⟨b1,0,none⟩) (a.length+1) (a.length+1))])
  (fun q=>[⟨b1,q.ws.map dI,268,true⟩])
  (fun q _=>q.k<=a.length/\q.ws.length=a.length+1/\bB q.ws/\q.c<=1/\dv (q.ws.take q.k)+4294967296^q.k*q.c=dv (a.take q.k)+dv (b.take q.k)) (fun q=>a.length-q.k) ⟨List.replicate (a.length+1) 0,0,0⟩
  ⟨bZ _,by simp, .replicate _,bZ _,by simp[dv]⟩ (.cons J (.cons J (.cons J (.cons J (.cons J (.cons J (.cons J .nil))))))) J ?_
 rintro ⟨ws,k,c⟩ Gy _ ⟨hka,hwl,hwo,hc1,hinv⟩;simp only[] at hka hwl hwo hc1 hinv⊢;refine sR<|sy (gG J J) J<|zE<|bi<|?_;refine lB J (fun hc=>?_) (fun hc=>?_) -- slot 23
 .have hkn:k=a.length:=by omega
  refine jl<|dP<|dP<|jg<|sR<|sm J J<|sm J J<|cB J J<|sm J J<|sy (ly J) J<|?_;refine sy (dO J J) J<|?_;refine sc (mr (d:=c) J J (by omega) (.hd ..) (by omega) J ?_);rw[show(x.n:Int).toNat=a.length by omega];refine zE<|sR<|sm J J<|?_;refine nH b1 (.hd ..) (fun G1 _ hgb=>?_);have hwo2:bB (ws.set a.length c):=hwo.set _ (by omega);have hD:cj G1 ⟨some ⟨b1,0,none⟩,a.length+1,a.length+1⟩ (ws.set a.length c):= .of_block hwo2 hgb.h (by simp[hwl]) (bX _) (by rw[aM (by simp)]);have hdv:dv (ws.set a.length c)=dv a+dv b:=by
   have h1:=qA (ws:=ws) (k:=a.length) (d:=c);rw[aM (by simp;omega)] at h1;rw[h1,<-hkn,hinv,hkn,aM (bX _),aM hle]
  refine sc (zC J J (jp hD (by simp;omega)) J ?_);rintro _ G2 _ rfl;refine sa J J<|zE<|cg<|?_;refine zD (.tmp J .nil) ⟨⟨some ⟨b1,0,none⟩,(trimD (ws.set a.length c)).length,a.length+1⟩,J,?_⟩;have h3:=hD.trim.up (G:=G2);rw[<-hdv] at hk⊢;exact⟨by rw[qk hwo2];exact h3,hk⟩
 have hka':k<a.length:=by omega
 have hga:=hx.ok.get k;have hgb:=hy.ok.get k;refine zK<|bi<|du<|sR<|sm J J<|sy (iH hx J J) J<|sy (i0 hx J) J<|sa J J<|sa J J<|zE<|bi<|?_;refine dl<|sm J J<|sm J J<|sy (gE J (by omega) (by rw[aR];omega)) J<|sy (rH J J (by omega) (by rw[aR];omega)) J<|sa J J<|zE<|?_;rw[aR];refine B8 Unit (fun _=>[(22, .int .i64 k),(7, .int .i64 k),(21, .int .i64 x.n),(20, .slice x.a x.n x.c),(6, .int .u64 ((c+a.getD k 0+b.getD k 0:Nat):Int)),(0, .slice x.a x.n x.c),(1, .slice y.a y.n y.c),(5, .slice (some ⟨b1,0,none⟩) (a.length+1) (a.length+1))]) (fun _=>[⟨b1,ws.map dI,268,true⟩]) (fun _ _=>True) ?_ ?_
 .refine sR<|sm J J<|sm J J<|cB J J<|sy (gG J J) J<|zE<|?_
  refine fq J (fun hc2=>?_) (fun hc2=>?_) -- slot 34
  .refine dl<|sm J J<|sm J J<|sm J J<|sy (iH hy J J) J<|sy (i0 hy J) J<|sy (gE J (by omega) (by rw[aR];omega)) J<|?_
   rw[aR];refine sy (rH J J) J<|sa J J<|zE<|?_;exact qP () trivial (.cons J (.cons J (.cons J (.cons J (.cons (by rw[tX,tX];rfl) (.cons J (.cons J (.cons J .nil)))))))) J
  refine zK<|?_;have h0:b.getD k 0=0:=Do;exact qP () trivial (.cons J (.cons J (.cons J (.cons J (.cons (by rw[h0,fK,tX];rfl) (.cons J (.cons J (.cons J .nil)))))))) J
 rintro _ Gz _ _;generalize hcc:c+a.getD k 0+b.getD k 0=cc;have hcb:cc/4294967296<=1:=by rw[<-hcc];exact aFL hga hgb hc1
 refine sR<|sm J J<|sm J J<|sm J J<|sy (ly J) J<|sy (dO J J) J<|?_;rw[aR];refine sc (mr (d:=cc%4294967296) J J (by omega) (.hd ..) (by omega) J ?_);refine zE<|dl<|sm J J<|sy (m7 J J) J<|sa J J<|zE<|dl<|sy (dt J J) J<|sm J J<|zE<|?_;have hsh:((cc:Int).fdiv (2^min (32:Int).toNat IntKind.u64.bits))=((cc/4294967296:Nat):Int):=by
  have:(2^min (32:Int).toNat IntKind.u64.bits:Int)=4294967296:=by decide
  rw[this,iW _ (by omega)];rfl
 rw[hsh];refine i7 ⟨ws.set k (cc%4294967296),k+1,cc/4294967296⟩ ⟨by show k+1<=_;omega,by simp[hwl],hwo.set _ (by omega),hcb,?_⟩ (by show a.length-(k+1)<a.length-k;omega) (.cons J (.cons J (.cons J (.cons J (.cons J (.cons J (.cons J .nil))))))) J;show dv ((ws.set k (cc%4294967296)).take (k+1))+4294967296^(k+1)*(cc/4294967296)=dv (a.take (k+1))+dv (b.take (k+1));rw[qA,ju a,ju b,<-hcc,fY];exact MQ hinv
structure Zz where
 ws:List Nat
 k:Nat
 c:Nat
def Q5(p:Int)(h0:0<=p:=by omega):p.fdiv (2^min (63:Int).toNat IntKind.u64.bits)=p/9223372036854775808:=by
 have:(2^min (63:Int).toNat IntKind.u64.bits:Int)=9223372036854775808:=by decide
 rw[this,iW _ (by omega)]
def Og(p:Nat):((p:Int).fdiv (2^min (32:Int).toNat IntKind.u64.bits))=((p/4294967296:Nat):Int):=by
 have:(2^min (32:Int).toNat IntKind.u64.bits:Int)=4294967296:=by decide
 rw[this,iW _ (by omega)];rfl
def azx{x:SV}(hx:cj A x a)(hy:cj B y b)[GL A G][GL B G](hle:b.length<=a.length)(hge:dv b<=dv a)(hk:dv a<2^kk)(hba:a.length<=1125899906842):
  Fn prog 300 [x.v,y.v] G (fun v G'=> ∃z:SV,v=z.v/\gg kk G' z (dv a-dv b)):=by
 have hlen:=hx.len;have hlen2:=hy.len;refine Fn.intro func300 J J ntmps300 J ?_;intro C _ _;refine sR<|sa J J<|zE<|sR<|sm J J<|cB J J<|?_;refine sc (s9 J J (by omega) (by omega) (by omega) (by rfl) J ?_);intro b1;rw[wc,show(x.n:Int).toNat=a.length by omega];refine sa J J<|zE<|sR<|sa J J<|zE<|bi<|sR<|sm J J<|cB J J<|sm J J<|zE<|du<|?_;refine lx (X:=Zz) (fun q=>[(16, .int .i64 q.k),(15, .int .i64 x.n),(14, .slice x.a x.n x.c),(6, .int .u64 q.c),(1, .slice y.a y.n y.c),(5, .slice (some ⟨b1,0,none⟩) a.length a.length)])
  (fun q=>[⟨b1,q.ws.map dI,268,true⟩])
  (fun q _=>q.k<=a.length/\q.ws.length=a.length/\bB q.ws/\q.c<=1/\dv (q.ws.take q.k)+dv (b.take q.k)=dv (a.take q.k)+4294967296^q.k*q.c) (fun q=>a.length-q.k) ⟨List.replicate a.length 0,0,0⟩
  ⟨bZ _,by simp, .replicate _,bZ _,by simp[dv]⟩ (.cons J (.cons J (.cons J (.cons J (.cons J (.cons J .nil)))))) J ?_
 rintro ⟨ws,k,c⟩ Gy _ ⟨hka,hwl,hwo,hc1,hinv⟩;simp only[] at hka hwl hwo hc1 hinv⊢;refine sR<|sy (gG J J) J<|zE<|bi<|?_;refine lB J (fun hc=>?_) (fun hc=>?_) -- slot 17
 .have hkn:k=a.length:=by omega
  refine jl<|dP<|dP<|jg<|sR<|sm J J<|?_;refine nH b1 (.hd ..) (fun G1 _ hgb=>?_);have hD:cj G1 ⟨some ⟨b1,0,none⟩,a.length,a.length⟩ ws:= .of_block hwo hgb.h hwl.symm (bX _) (by rw[aM (by simp)]);have hdv:dv ws=dv a-dv b:=by
   rw[hkn,aM (by omega),aM hle,aM (bX _)] at hinv;have h2:=jA hwo;rw[hwl] at h2;rcases gU c with h0|h0
   .subst h0;omega
   .have:c=1:=by omega
    subst this;omega
  refine sc (zC J J (jp hD) J ?_);rintro _ G2 _ rfl;refine sa J J<|zE<|cg<|?_;refine zD (.tmp J .nil) ⟨⟨some ⟨b1,0,none⟩,(trimD ws).length,a.length⟩,J,?_⟩;have h3:=hD.trim.up (G:=G2);rw[<-hdv];exact⟨by rw[qk hwo];exact h3,by omega⟩
 have hka':k<a.length:=by omega
 have hga:=hx.ok.get k;have hgb:=hy.ok.get k;refine zK<|bi<|du<|sR<|sm J J<|sy (iH hx J J) J<|sy (i0 hx J) J<|sa J J<|sa J J<|zE<|bi<|?_;rw[aR];refine dl<|sm J J<|sa J J<|zE<|?_;refine B8 Unit (fun _=>[(16, .int .i64 k),(7, .int .i64 k),(15, .int .i64 x.n),(14, .slice x.a x.n x.c),(8, .int .u32 ((a.getD k 0:Nat):Int)),(9, .int .u64 ((c+b.getD k 0:Nat):Int)),(1, .slice y.a y.n y.c),(5, .slice (some ⟨b1,0,none⟩) a.length a.length)]) (fun _=>[⟨b1,ws.map dI,268,true⟩]) (fun _ _=>True) ?_ ?_
 .refine sR<|sm J J<|sm J J<|cB J J<|sy (gG J J) J<|zE<|?_
  refine fq J (fun hc2=>?_) (fun hc2=>?_) -- slot 25
  .refine dl<|sm J J<|sm J J<|sm J J<|sy (iH hy J J) J<|sy (i0 hy J) J<|sy (gE J (by omega) (by rw[aR];omega)) J<|?_
   rw[aR];refine sy (rH J J) J<|sa J J<|zE<|?_;exact qP () trivial (.cons J (.cons J (.cons J (.cons J (.cons J (.cons (by rw[tX];rfl) (.cons J (.cons J .nil)))))))) J
  refine zK<|?_;have h0:b.getD k 0=0:=Do;exact qP () trivial (.cons J (.cons J (.cons J (.cons J (.cons J (.cons (by rw[h0,fK];rfl) (.cons J (.cons J .nil)))))))) J
 rintro _ Gz _ _;generalize htt:c+b.getD k 0=tt;have htb:tt<=4294967296:=by omega
 refine sR<|sm J J<|sy (gE J) J<|sm J J<|sy (wP J J) J<|sa J J<|zE<|sR<|sm J J<|sm J J<|sm J J<|?_;rw[od];refine sy (ly J) J<|sy (dO J J) J<|?_;rw[aR];by_cases hno:tt<=a.getD k 0
 .refine sc (mr (d:=a.getD k 0-tt) J J (by omega) (.hd ..) (by omega) J ?_)
  refine zE<|dl<|sm J J<|sy (m7 J J) J<|sa J J<|zE<|dl<|sy (dt J J) J<|sm J J<|zE<|?_;rw[Q5 _,show(((a.getD k 0:Nat):Int)-(tt:Int))%18446744073709551616/9223372036854775808=((0:Nat):Int) by omega];refine i7 ⟨ws.set k (a.getD k 0-tt),k+1,0⟩ ⟨by show k+1<=_;omega,by simp[hwl],hwo.set _ (by omega),bZ _,?_⟩ (by show a.length-(k+1)<a.length-k;omega) (.cons J (.cons J (.cons J (.cons J (.cons J (.cons J .nil)))))) J;show dv ((ws.set k (a.getD k 0-tt)).take (k+1))+dv (b.take (k+1))=dv (a.take (k+1))+4294967296^(k+1)*0;rw[qA,ju a,ju b,<-htt,fY];exact Nl hinv
 .refine sc (mr (d:=a.getD k 0+4294967296-tt) J J (by omega) (.hd ..) (by omega) J ?_)
  refine zE<|dl<|sm J J<|sy (m7 J J) J<|sa J J<|zE<|dl<|sy (dt J J) J<|sm J J<|zE<|?_;rw[Q5 _,show(((a.getD k 0:Nat):Int)-(tt:Int))%18446744073709551616/9223372036854775808=((1:Nat):Int) by omega];refine i7 ⟨ws.set k (a.getD k 0+4294967296-tt),k+1,1⟩ ⟨by show k+1<=_;omega,by simp[hwl],hwo.set _ (by omega),bX _,?_⟩ (by show a.length-(k+1)<a.length-k;omega) (.cons J (.cons J (.cons J (.cons J (.cons J (.cons J .nil)))))) J;show dv ((ws.set k (a.getD k 0+4294967296-tt)).take (k+1))+dv (b.take (k+1))=dv (a.take (k+1))+4294967296^(k+1)*1;rw[qA,ju a,ju b,<-htt,fY];exact SG hinv
def aD7{x:SV}(hx:cj A x ds)(hy:cj B y es)[GL A G][GL B G](hk:dv ds<2^kk)(hb:ds.length<=1125899906842)(hb2:es.length<=1125899906842):
  Fn prog 234 [x.v,y.v] G (fun v G'=> ∃z:SV,v= .tuple #[z.v, .bool (decide (dv es<=dv ds))]/\gg kk G' z (dv ds-dv es)):=by
 refine Fn.intro func234 J J ntmps234 J ?_;intro C _ _;refine sR<|sa J J<|sa J J<|zE<|bi<|sR<|sm J J<|sm J J<|?_;refine sc (zC J J (LR hx hy) J ?_);rintro _ G1 _ rfl;refine sy (gG J J) J<|zE<|?_;refine fq J (fun hc=>?_) (fun hc=>?_) -- slot 9
 .have hlt:dv ds<dv es:=by
   unfold gk at hc;split at hc
   .assumption
   .split at hc<;>omega
  refine sR<|sa J J<|sa J J<|zE<|cg<|?_;refine zD (.tmp J (.tmp J .nil)) ⟨⟨none,0,0⟩,?_,?_⟩
  .have: ¬dv es<=dv ds:=by omega
   simp[gI,SV.v,this]
  .rw[Nat.sub_eq_zero_of_le (by omega)]
   exact⟨by unfold dg;exact .nil _,fX (by omega)⟩
 have hge:dv es<=dv ds:=by
  unfold gk at hc;split at hc
  .omega
  .omega
 have htl:=oe ds;have htl2:=oe es;refine zK<|sR<|sm J J<|?_;refine sc (zC J J (jp hx) J ?_);rintro _ G2 _ rfl;refine sm J J<|?_;refine sc (zC J J (jp hy) J ?_);rintro _ G3 _ rfl;have hl:(trimD es).length<=(trimD ds).length:=by
  rcases jK (trimD ds).length (trimD es).length with h|h
  .have:=ud hx.ok.trimD (dC.trimD es) h
   rw[kt,kt] at this;omega
  .exact h
 refine sc (zC J J (azx (kk:=kk) hx.trim hy.trim hl (by rw[kt,kt];exact hge) (by rw[kt];exact hk) (by omega)) J ?_);rintro _ G4 _ ⟨z,rfl,hz⟩;refine sa J J<|sa J J<|zE<|cg<|?_;refine zD (.tmp J (.tmp J .nil)) ⟨z,by simp[gI,hge],?_⟩;rw[kt,kt] at hz;exact hz
structure Y3 where
 ws:List Nat
 i:Nat
structure XN where
 ws:List Nat
 k:Nat
 c:Nat
def aIf{y c:Nat}(hx:x<4294967296)(hy:y<4294967296)(hw:w<4294967296)(hc:c<4294967296):c+x*y+w<18446744073709551616:=by
 have:x*y<=4294967295*4294967295:=gX (by omega) (by omega);omega
def Cr{ws:List Nat}{i:Nat}(h:i≠j:=by omega):(ws.set i d).getD j 0=ws.getD j 0:=by
 rw[aK,aK,List.getElem?_set_ne h]
def Tv{A B G:Gh}{x y:SV}{ds es:List Nat}{kk:Nat}(hx:cj A x ds)(hy:cj B y es)[GL A G][GL B G](hk:dv ds*dv es<2^kk)(hb:ds.length<=562949953421)(hb2:es.length<=562949953421):
  Fn prog 155 [x.v,y.v] G (fun v G'=> ∃z:SV,v=z.v/\gg kk G' z (dv ds*dv es)):=by
 have htl:=oe ds;have htl2:=oe es;have hcall:=fun G1 (_:GL A G1)=>jp (G:=G1) hx;have hcall2:=fun G1 (_:GL B G1)=>jp (G:=G1) hy;have hxt:=hx.trim;have hyt:=hy.trim;rw[<-kt ds,<-kt es] at hk⊢;generalize trimD ds=a at*;generalize trimD es=b at*;have hok:=hxt.ok;have hok2:=hyt.ok;refine Fn.intro func155 J J ntmps155 J ?_;intro C _ _;refine sR<|sa J J<|zE<|sR<|sm J J<|?_;refine sc (zC J J (hcall _ inferInstance) J ?_);rintro _ G1 _ rfl;refine sm J J<|?_;refine sc (zC J J (hcall2 _ inferInstance) J ?_);rintro _ G2 _ rfl;refine sa J J<|sa J J<|zE<|sR<|sm J J<|cB J J<|sm J J<|cB J J<|sy (dt J J) J<|?_;refine sc (s9 J J (by omega) (by omega) (by omega) (by rfl) J ?_);intro b3;rw[wc,show((a.length:Int)+(b.length:Int)).toNat=a.length+b.length by omega];refine sa J J<|zE<|bi<|sR<|sm J J<|cB J J<|sm J J<|zE<|du<|?_;refine lx (X:=Y3) (fun q=>[(23, .int .i64 q.i),(22, .int .i64 a.length),(21, .slice x.a a.length x.c),(1, .slice y.a b.length y.c),(5, .slice (some ⟨b3,0,none⟩) (a.length+b.length) (a.length+b.length))])
  (fun q=>[⟨b3,q.ws.map dI,268,true⟩])
  (fun q _=>q.i<=a.length/\q.ws.length=a.length+b.length/\bB q.ws/\(∀j,q.i+b.length<=j->q.ws.getD j 0=0)/\dv q.ws=dv (a.take q.i)*dv b) (fun q=>a.length-q.i) ⟨List.replicate (a.length+b.length) 0,0⟩
  ⟨bZ _,by simp, .replicate _,fun j _=>GT _ _,by simp[dv,xZ]⟩ (.cons J (.cons J (.cons J (.cons J (.cons J .nil))))) J ?_
 rintro ⟨ws,i⟩ Gy _ ⟨hia,hwl,hwo,hz,hinv⟩;simp only[] at hia hwl hwo hz hinv⊢;refine sR<|sy (gG J J) J<|zE<|bi<|?_;refine lB J (fun hc=>?_) (fun hc=>?_) -- slot 24
 .have hin:i=a.length:=by omega
  refine jl<|dP<|dP<|jg<|sR<|sm J J<|?_;refine nH b3 (.hd ..) (fun G3 _ hgb=>?_);have hD:cj G3 ⟨some ⟨b3,0,none⟩,a.length+b.length,a.length+b.length⟩ ws:= .of_block hwo hgb.h hwl.symm (bX _) (by rw[aM (by simp)]);have hdv:dv ws=dv a*dv b:=by rw[hinv,hin,aM (bX _)]
  refine sc (zC J J (jp hD) J ?_);rintro _ G4 _ rfl;refine sa J J<|zE<|cg<|?_;refine zD (.tmp J .nil) ⟨⟨some ⟨b3,0,none⟩,(trimD ws).length,a.length+b.length⟩,J,?_⟩;have h3:=hD.trim.up (G:=G4);rw[<-hdv] at hk⊢;exact⟨by rw[qk hwo];exact h3,hk⟩
 have hia':i<a.length:=by omega
 have hga:=hok.get i;refine zK<|bi<|du<|sR<|sm J J<|sy (iH (z:=⟨x.a,a.length,x.c⟩) hxt J J (by omega) (by show(i:Int)<(a.length:Nat);omega)) J<|sy (i0 hxt J) J<|sa J J<|sa J J<|zE<|bi<|?_;rw[aR];refine dl<|sa J J<|zE<|bi<|sR<|sm J J<|cB J J<|sm J J<|zE<|du<|?_;refine lx (X:=XN) (fun q=>[(30, .int .i64 q.k),(29, .int .i64 b.length),(28, .slice y.a b.length y.c),(8, .int .u64 q.c),(7, .int .u32 ((a.getD i 0:Nat):Int)),(5, .slice (some ⟨b3,0,none⟩) (a.length+b.length) (a.length+b.length)),(6, .int .i64 i),(23, .int .i64 i),(22, .int .i64 a.length),(21, .slice x.a a.length x.c),(1, .slice y.a b.length y.c)])
  (fun q=>[⟨b3,q.ws.map dI,268,true⟩])
  (fun q _=>q.k<=b.length/\q.ws.length=a.length+b.length/\bB q.ws/\q.c<4294967296/\(∀j,i+b.length<=j->q.ws.getD j 0=0)/\dv q.ws+4294967296^(i+q.k)*q.c=dv (a.take i)*dv b+4294967296^i*(a.getD i 0*dv (b.take q.k))) (fun q=>b.length-q.k) ⟨ws,0,0⟩
  ⟨bZ _,hwl,hwo,Nat.zero_lt_succ _,hz,by simp[dv,hinv]⟩ (.cons J (.cons J (.cons J (.cons J (.cons J (.cons J (.cons J (.cons J (.cons J (.cons J (.cons J .nil))))))))))) J ?_
 clear hz hwl hwo hinv ws;rintro ⟨ws,k,c⟩ Gz _ ⟨hkb,hwl,hwo,hcc,hz,hinv⟩;simp only[] at hkb hwl hwo hcc hz hinv⊢;refine sR<|sy (gG J J) J<|zE<|bi<|?_;refine lB J (fun hc2=>?_) (fun hc2=>?_) -- slot 31
 .have hkn:k=b.length:=by omega
  have e1:((i:Int)+(b.length:Int)).toNat=i+b.length:=by omega
  refine jl<|dP<|dP<|jg<|dl<|sm J J<|sm J J<|sm J J<|cB J J<|sy (dt J J) J<|sm J J<|sy (ly J) J<|?_;refine sy (dO J J) J<|?_;rw[e1];refine sc (mr (d:=c) J J (by omega) (.hd ..) (by omega) J ?_);refine zE<|dl<|sy (dt J J) J<|sm J J<|zE<|?_;refine i7 ⟨ws.set (i+b.length) c,i+1⟩ ⟨by show i+1<=_;omega,by simp[hwl],hwo.set _ hcc,fun j hj=>?_,?_⟩ (by show a.length-(i+1)<a.length-i;omega) (.cons J (.cons J (.cons J (.cons J (.cons J .nil))))) J
  .have hj':i+1+b.length<=j:=hj
   show(ws.set (i+b.length) c).getD j 0=0;rw[Cr];exact hz j (by omega)
  .show dv (ws.set (i+b.length) c)=dv (a.take (i+1))*dv b
   have h1:=rC ws (i+b.length) c (by omega);rw[hz (i+b.length) (bX _),qW,fK] at h1;rw[h1,<-hkn,hinv,hkn,aM (bX _),ju,dJ,cJ]
 have hkb':k<b.length:=by omega
 have hgb:=hok2.get k;have hgw:=hwo.get (i+k);have hm:=aIf hga hgb hgw hcc;have e1:((i:Int)+(k:Int)).toNat=i+k:=by omega
 have e2:((a.getD i 0:Nat):Int)*((b.getD k 0:Nat):Int)=((a.getD i 0*b.getD k 0:Nat):Int):=by rw[jU]
 refine zK<|bi<|du<|sR<|sm J J<|sy (iH (z:=⟨y.a,b.length,y.c⟩) hyt J J (by omega) (by show(k:Int)<(b.length:Nat);omega)) J<|sy (i0 hyt J) J<|sa J J<|sa J J<|zE<|bi<|?_;rw[aR];refine dl<|sm J J<|sm J J<|sy (gE J) J<|sm J J<|sy (gE J) J<|sy (Ka J J (by rw[e2];omega) (by rw[e2];omega)) J<|?_;rw[e2];refine sm J J<|sm J J<|sm J J<|sy (dt J J) J<|sy (dO J J) J<|?_;rw[e1];refine sy (te J) J<|sy (gE J) J<|?_;refine sy (rH J J) J<|sy (rH J J) J<|sa J J<|zE<|sR<|sm J J<|sm J J<|sm J J<|?_;rw[show(c:Int)+(((a.getD i 0*b.getD k 0:Nat):Int)+((ws.getD (i+k) 0:Nat):Int))=((c+a.getD i 0*b.getD k 0+ws.getD (i+k) 0:Nat):Int) by omega];generalize hcc2:c+a.getD i 0*b.getD k 0+ws.getD (i+k) 0=cc;rw[hcc2] at hm;refine sy (dt J J) J<|sm J J<|sy (ly J) J<|sy (dO J J) J<|?_;rw[e1];refine sc (mr (d:=cc%4294967296) J J (by omega) (.hd ..) (by omega) J ?_);refine zE<|dl<|sm J J<|sy (m7 J J) J<|sa J J<|zE<|dl<|sy (dt J J) J<|sm J J<|zE<|?_;rw[Og];refine i7 ⟨ws.set (i+k) (cc%4294967296),k+1,cc/4294967296⟩ ⟨by show k+1<=_;omega,by simp[hwl],hwo.set _ (by omega),by show cc/4294967296<_;omega,fun j hj=>?_,?_⟩ (by show b.length-(k+1)<b.length-k;omega) (.cons J (.cons J (.cons J (.cons J (.cons J (.cons J (.cons J (.cons J (.cons J (.cons J (.cons J .nil))))))))))) J
 .show(ws.set (i+k) (cc%4294967296)).getD j 0=0
  rw[Cr];exact hz j hj
 .show dv (ws.set (i+k) (cc%4294967296))+4294967296^(i+(k+1))*(cc/4294967296)=dv (a.take i)*dv b+4294967296^i*(a.getD i 0*dv (b.take (k+1)))
  have h1:=rC ws (i+k) (cc%4294967296) (by omega);rw[<-hcc2] at h1⊢;have h2:=Ly h1 hinv;rw[<-kV,fY,h2,ju,dS,dS,eY];have:4294967296^i*(a.getD i 0*(4294967296^k*b.getD k 0))=4294967296^i*4294967296^k*(a.getD i 0*b.getD k 0):=by
   rw[kM (a.getD i 0),<-cJ]
  rw[this,kV]
def KE(a b k:Nat)(ha:a<2^k)(h:a+b*2^k<18446744073709551616)(w:World):(binOp .or t (.int .u64 ((b*2^k:Nat):Int)) (.int .u64 (a:Int))).run P w= .ok (.int .u64 ((a+b*2^k:Nat):Int)) w:=by
 have h1:(BitVec.ofInt 64 ((b*2^k:Nat):Int) ||| BitVec.ofInt 64 (a:Int)).toNat=a+b*2^k:=by
  rw[BitVec.toNat_or,BitVec.ofInt_natCast,BitVec.ofInt_natCast,BitVec.toNat_ofNat,BitVec.toNat_ofNat,gS (by omega),gS (by omega)];rw[<-mJ,<-mW ha,mJ];omega
 have h2:IntKind.u64.wrap ((a+b*2^k:Nat):Int)=((a+b*2^k:Nat):Int):=by rw[od];omega
 simp only[binOp];show(Op.intBits .or .u64 ((b*2^k:Nat):Int) (a:Int)).run P w=_;unfold Op.intBits;show(pure (Value.int .u64 (IntKind.u64.wrap ((BitVec.ofInt 64 ((b*2^k:Nat):Int) ||| BitVec.ofInt 64 (a:Int)).toNat:Int))):Sem Value).run P w=_;rw[h1,h2,run_pure]
def Vu{P:Program}{t:TypeId}(a b k:Nat)(ha:a<2^k)(h:a+b*2^k<4294967296)(w:World):(binOp .or t (.int .u32 (a:Int)) (.int .u32 ((b*2^k:Nat):Int))).run P w= .ok (.int .u32 ((a+b*2^k:Nat):Int)) w:=by
 have h1:(BitVec.ofInt 32 (a:Int) ||| BitVec.ofInt 32 ((b*2^k:Nat):Int)).toNat=a+b*2^k:=by
  rw[BitVec.toNat_or,BitVec.ofInt_natCast,BitVec.ofInt_natCast,BitVec.toNat_ofNat,BitVec.toNat_ofNat,gS (by omega),gS (by omega)];rw[<-mJ,Nat.or_comm,<-mW ha,mJ];omega
 have h2:IntKind.u32.wrap ((a+b*2^k:Nat):Int)=((a+b*2^k:Nat):Int):=by rw[qC];omega
 simp only[binOp];show(Op.intBits .or .u32 (a:Int) ((b*2^k:Nat):Int)).run P w=_;unfold Op.intBits;show(pure (Value.int .u32 (IntKind.u32.wrap ((BitVec.ofInt 32 (a:Int) ||| BitVec.ofInt 32 ((b*2^k:Nat):Int)).toNat:Int))):Sem Value).run P w=_;rw[h1,h2,run_pure]
def sP(d k:Nat)(hk:k<64)(h:d*2^k<18446744073709551616)(hq:q.toNat=k):IntKind.u64.wrap ((d:Int)*2^min q.toNat IntKind.u64.bits)=((d*2^k:Nat):Int):=by
 rw[hq,iN (by show k<=64;omega),od];have e2:(d:Int)*2^k=((d*2^k:Nat):Int):=by push_cast;rfl
 rw[e2];omega
def uD(d k:Nat)(hk:k<64)(hq:q.toNat=k):(d:Int).fdiv (2^min q.toNat IntKind.u64.bits)=((d/2^k:Nat):Int):=by
 rw[hq,iN (by show k<=64;omega),iW _ (qT (Int.pow_pos (by decide)))];push_cast;rfl
def Td(q:Nat)(h:q<4294967296):(q:Int)%4294967296=q:=by omega
structure ay0 where
 ws:List Nat
 k:Nat
 r:Nat
def auR{A G:Gh}{x:SV}{a:List Nat}{d kk:Nat}(hx:cj A x a)[GL A G](hd0:0<d)(hd:d<4294967296)(hk:dv a/d<2^kk)(hb:a.length<=1125899906842):
  Fn prog 303 [x.v, .int .u32 (d:Int)] G (fun v G'=> ∃z:SV,v= .tuple #[z.v, .int .u32 ((dv a%d:Nat):Int)]/\gg kk G' z (dv a/d)):=by
 have hlen:=hx.len;refine Fn.intro func303 J J ntmps303 J ?_;intro C _ _;refine sR<|sa J J<|sa J J<|zE<|sR<|sm J J<|cB J J<|?_;refine sc (s9 J J (by omega) (by omega) (by omega) (by rfl) J ?_);intro b1;rw[wc,show(x.n:Int).toNat=a.length by omega];refine sa J J<|zE<|sR<|sa J J<|zE<|bi<|sR<|sm J J<|cB J J<|sy (jy J J) J<|?_;refine sa J J<|zE<|du<|?_;refine lx (X:=ay0) (fun q=>[(8, .int .i64 (q.k-1)),(7, .int .u64 q.r),(0, .slice x.a x.n x.c),(6, .slice (some ⟨b1,0,none⟩) a.length a.length),(1, .int .u32 d)])
  (fun q=>[⟨b1,q.ws.map dI,268,true⟩])
  (fun q _=>q.k<=a.length/\q.ws.length=a.length/\bB q.ws/\q.r<d/\dv (a.drop q.k)=d*dv (q.ws.drop q.k)+q.r) (fun q=>q.k) ⟨List.replicate a.length 0,a.length,0⟩
  ⟨bX _,by simp, .replicate _,hd0,by simp[dv]⟩ (.cons (by rw[hlen];rfl) (.cons J (.cons J (.cons J (.cons J .nil))))) J ?_
 rintro ⟨ws,k,r⟩ Gy _ ⟨hka,hwl,hwo,hr,hinv⟩;simp only[] at hka hwl hwo hr hinv⊢;refine bi<|sR<|sm J J<|sy (qi J J) J<|zE<|?_;refine lB J (fun hc=>?_) (fun hc=>?_) -- slot 17
 .have hk0:k=0:=by omega
  refine jl<|dP<|dP<|jg<|sR<|sm J J<|?_;refine nH b1 (.hd ..) (fun G1 _ hgb=>?_);have hD:cj G1 ⟨some ⟨b1,0,none⟩,a.length,a.length⟩ ws:= .of_block hwo hgb.h hwl.symm (bX _) (by rw[aM (by simp)]);subst hk0;simp only[jV] at hinv;have hdv:dv a/d=dv ws:=by rw[hinv,Nat.mul_add_div hd0,kU hr,fK]
  have hdm:dv a%d=r:=by rw[hinv,Nat.mul_add_mod,gS hr]
  refine sc (zC J J (jp hD) J ?_);rintro _ G2 _ rfl;refine sm J J<|sy (ly J) J<|sa J J<|sa J J<|zE<|cg<|?_;refine zD (.tmp J (.tmp J .nil)) ⟨⟨some ⟨b1,0,none⟩,(trimD ws).length,a.length⟩,?_,?_⟩
  .rw[hdm,show(r:Int)%4294967296=r by omega];rfl
  have h3:=hD.trim.up (G:=G2);exact⟨by rw[hdv,qk hwo];exact h3,hk⟩
 have hk1:0<k:=by omega
 have hkt:((k:Int)-1).toNat=k-1:=by omega
 have hga:=hx.ok.get (k-1);have hv:a.getD (k-1) 0+r*2^32<d*4294967296:=by
  have:(r+1)*4294967296<=d*4294967296:=bL _ hr;rw[dJ] at this;omega
 have hv2:a.getD (k-1) 0+r*2^32<18446744073709551616:=by omega
 refine zK<|bi<|du<|sR<|sm J J<|sy (xe J J) J<|sm J J<|sm J J<|sy (iH hx J J) J<|?_;rw[sP r 32 (by decide) (by omega) J];refine sy (i0 hx J) J<|sy (gE J (by omega) (by rw[hkt];omega)) J<|?_;rw[hkt];refine sy (jc J J (KE (a.getD (k-1) 0) r 32 (by omega) hv2)) J<|?_;generalize hvv:a.getD (k-1) 0+r*2^32=vv at*;have hq:vv/d<4294967296:=Nat.div_lt_of_lt_mul hv;have hrr:=dV vv hd0;refine sa J J<|zE<|sR<|sm J J<|sm J J<|sm J J<|sm J J<|?_;refine sy (gE J) J<|sy (AA J J) J<|sy (ly J) J<|sy (dO J J) J<|?_;rw[hkt];have e1:(vv:Int)/(d:Int)%4294967296=((vv/d:Nat):Int):=by
  have e0:(vv:Int)/(d:Int)=((vv/d:Nat):Int):=(qR vv d).symm;rw[e0];exact Td _ hq
 refine sc (mr (d:=vv/d) J J e1 (.hd ..) (by omega) J ?_);refine zE<|dl<|sm J J<|sm J J<|sy (gE J) J<|sy (yw J J) J<|sa J J<|zE<|dl<|sm J J<|?_;refine sy (jy J J) J<|sa J J<|zE<|?_;refine i7 ⟨ws.set (k-1) (vv/d),k-1,vv%d⟩ ⟨by show k-1<=_;omega,by simp[hwl],hwo.set _ hq,hrr,?_⟩ (by show k-1<k;omega) (.cons (by rw[show((k-1:Nat):Int)=(k:Int)-1 by omega];rfl) (.cons (by rw[oM];rfl) (.cons J (.cons J (.cons J .nil))))) J;show dv (a.drop (k-1))=d*dv ((ws.set (k-1) (vv/d)).drop (k-1))+vv%d;have hk2:k-1+1=k:=by omega
 rw[bQ (by omega:k-1<a.length),bQ (by simp;omega:k-1<(ws.set (k-1) (vv/d)).length),hk2,List.getElem_set_self,tV (by omega)];have e3:a[k-1]'(by omega)=a.getD (k-1) 0:=by rw[aK,aZ (by omega)];rfl
 simp only[dv,e3,hinv];have h1:=rT vv d;have h2:d*(vv/d+4294967296*dv (ws.drop k))=d*(vv/d)+4294967296*(d*dv (ws.drop k)):=by rw[dS,kM]
 rw[h2,dS];omega
section
variable {C:aD}{fr:Fr}{own:List av}{dst:Option Nat}{pos:String}{af:Array Edge}{gd:Option (Nat×Bool)}{x y:Operand}
def Zl{k:IntKind}(hx:aA fr x=some (.int k p))(hy:aA fr y=some (.int k q)):
  Yd P C fr own G ⟨dst, .call ⟨.builtin .min, #[x,y], #[t1,t2]⟩,ty',pos,af,gd⟩ (.int k (if q<p then q else p)):=by
 intro a w hf hh;simp only[execOp,resolve,iY,bT,iZ,bw hf hx,bw hf hy];have h1:(Builtin.min_ #[t1,t2] ty' #[.int k p, .int k q]).run P w= .ok (.int k (if q<p then q else p)) w:=by
  simp[Builtin.min_,Builtin.min2,run_pure]
 exact cE h1
end
structure P1 where
 ws:List Nat
 i:Nat
def QP{x:SV}{k:Nat}(hx:cj A x ds)[GL A G](hk32:k<32)(hk:dv ds*2^k<2^kk)(hb:ds.length<=1125899906842:=by omega):
  Fn prog 338 [x.v, .int .u64 (k:Int)] G (fun v G'=> ∃z:SV,v=z.v/\gg kk G' z (dv ds*2^k)/\z.c<=(trimD ds).length+1):=by
 have htl:=oe ds;have hcall:=fun G1 (_:GL A G1)=>jp (G:=G1) hx;have hxt:=hx.trim;rw[<-kt ds] at hk⊢;generalize trimD ds=a at*;have hok:=hxt.ok;refine Fn.intro func338 J J ntmps338 J ?_;intro C _ _;refine sR<|sa J J<|zE<|sR<|sm J J<|?_;refine sc (zC J J (hcall _ inferInstance) J ?_);rintro _ G1 _ rfl;refine sm J J<|sy (Zl J J) J<|?_;rw[if_neg (by omega: ¬(1048576:Int)<(k:Int))];refine sa J J<|sa J J<|zE<|bi<|sR<|sm J J<|cB J J<|sy (fk J J) J<|zE<|?_;refine fq J (fun hc=>?_) (fun hc=>?_) -- slot 17
 .refine sR<|sa J J<|zE<|cg<|?_
  have:a=[]:=bM (by omega);subst this;refine zD (.tmp J .nil) ⟨⟨none,0,0⟩,J,?_⟩;have e0:dv []*2^k=0:=by simp[dv]
  rw[e0];exact⟨⟨by unfold dg;exact .nil _,fX (by omega)⟩,bZ _⟩
 refine zK<|sR<|sm J J<|sy (AA J J (by omega) (by omega) (by decide)) J<|sy (OV J) J<|sm J J<|sy (yw J J (by omega) (by decide)) J<|?_;rw[show(k:Int)/32=0 by omega,show(k:Int)%32=k by omega];refine sa J J<|sa J J<|zE<|sR<|sm J J<|cB J J<|sm J J<|sy (dt J J) J<|sy (dt J J) J<|?_;refine sc (s9 J J (by omega) (by omega) (by omega) (by rfl) J ?_);intro b2;rw[wc,show((a.length:Int)+0+1).toNat=a.length+1 by omega];refine sa J J<|zE<|bi<|sR<|sm J J<|cB J J<|sm J J<|zE<|du<|?_;refine lx (X:=P1) (fun q=>[(31, .int .i64 q.i),(30, .int .i64 a.length),(29, .slice x.a a.length x.c),(6, .int .u64 k),(7, .slice (some ⟨b2,0,none⟩) (a.length+1) (a.length+1)),(5, .int .i64 0)])
  (fun q=>[⟨b2,q.ws.map dI,268,true⟩])
  (fun q _=>q.i<=a.length/\q.ws.length=a.length+1/\bB q.ws/\(∀j,q.i<j->q.ws.getD j 0=0)/\q.ws.getD q.i 0<2^k/\dv q.ws=dv (a.take q.i)*2^k) (fun q=>a.length-q.i) ⟨List.replicate (a.length+1) 0,0⟩
  ⟨bZ _,by simp, .replicate _,fun j _=>GT _ _,by rw[GT];exact fX (by omega),by simp[dv,xZ]⟩ (.cons J (.cons J (.cons J (.cons J (.cons J (.cons J .nil)))))) J ?_
 rintro ⟨ws,i⟩ Gy _ ⟨hia,hwl,hwo,hz,hwi,hinv⟩;simp only[] at hia hwl hwo hz hwi hinv⊢;refine sR<|sy (gG J J) J<|zE<|bi<|?_;refine lB J (fun hc=>?_) (fun hc=>?_) -- slot 32
 .have hin:i=a.length:=by omega
  refine jl<|dP<|dP<|jg<|sR<|sm J J<|?_;refine nH b2 (.hd ..) (fun G3 _ hgb=>?_);have hD:cj G3 ⟨some ⟨b2,0,none⟩,a.length+1,a.length+1⟩ ws:= .of_block hwo hgb.h hwl.symm (bX _) (by rw[aM (by simp)]);have hdv:dv a*2^k=dv ws:=by rw[hinv,hin,aM (bX _)]
  refine sc (zC J J (jp hD) J ?_);rintro _ G4 _ rfl;refine sa J J<|zE<|cg<|?_;refine zD (.tmp J .nil) ⟨⟨some ⟨b2,0,none⟩,(trimD ws).length,a.length+1⟩,J,?_⟩;have h3:=hD.trim.up (G:=G4);rw[hdv] at hk⊢;exact⟨⟨by rw[qk hwo];exact h3,hk⟩,bX _⟩
 have hia':i<a.length:=by omega
 have hga:=hok.get i;have hp32:(2:Nat)^k<=2^31:=bR (by omega) (by omega);have hp0:0<(2:Nat)^k:=fX (by omega);have hvb:a.getD i 0*2^k<4294967296*2^k:=lU hga hp0;have hv64:a.getD i 0*2^k<18446744073709551616:=by omega
 refine zK<|bi<|du<|sR<|sm J J<|sy (iH (z:=⟨x.a,a.length,x.c⟩) hxt J J (by omega) (by show(i:Int)<(a.length:Nat);omega)) J<|sy (i0 hxt J) J<|sa J J<|sa J J<|zE<|bi<|?_;rw[aR];refine dl<|sm J J<|sy (gE J) J<|sm J J<|sy (xe J J (by omega)) J<|?_;rw[sP (a.getD i 0) k (by omega) hv64 (aR k)]
 -- the low digit is a multiple of 2^k
 have hlow:a.getD i 0*2^k%4294967296=a.getD i 0%2^(32-k)*2^k:=by
  have:4294967296=2^(32-k)*2^k:=by rw[<-eY,show 32-k+k=32 by omega]
  rw[this,sS]
 have hlt:a.getD i 0*2^k%4294967296<4294967296:=dV _ (by decide);have hsum:ws.getD i 0+a.getD i 0%2^(32-k)*2^k<4294967296:=by
  have h1:a.getD i 0%2^(32-k)<2^(32-k):=dV _ (fX (by omega));have h2:(a.getD i 0%2^(32-k)+1)*2^k<=2^(32-k)*2^k:=bL _ h1;rw[<-eY,show 32-k+k=32 by omega,dJ] at h2;omega
 refine sa J J<|zE<|sR<|sm J J<|?_;refine sm J J<|sm J J<|sy (dt J J) J<|sy (dO J J) J<|?_;rw[show((i:Int)+0).toNat=i by omega];refine sy (te J) J<|sm J J<|sy (ly J) J<|?_;rw[show((a.getD i 0*2^k:Nat):Int)%4294967296=((a.getD i 0%2^(32-k)*2^k:Nat):Int) by rw[<-hlow];rfl];refine sy (jc J J (Vu (ws.getD i 0) (a.getD i 0%2^(32-k)) k hwi hsum)) J<|sy (dO J J) J<|?_;rw[show((i:Int)+0).toNat=i by omega];refine sc (mr (d:=ws.getD i 0+a.getD i 0%2^(32-k)*2^k) J J J (.hd ..) (by omega) J ?_);refine zE<|dl<|sm J J<|sm J J<|sm J J<|sy (dt J J) J<|sy (dt J J) J<|sm J J<|sy (m7 J J) J<|?_;rw[Og];have hhi:a.getD i 0*2^k/4294967296<2^k:=Nat.div_lt_of_lt_mul hvb;refine sy (ly J) J<|sy (dO J J) J<|?_;rw[show((i:Int)+0+1).toNat=i+1 by omega];refine sc (mr (d:=a.getD i 0*2^k/4294967296) J J (by omega) (.hd ..) (by simp;omega) J ?_);refine zE<|dl<|sy (dt J J) J<|sm J J<|zE<|?_;refine i7 ⟨(ws.set i (ws.getD i 0+a.getD i 0%2^(32-k)*2^k)).set (i+1) (a.getD i 0*2^k/4294967296),i+1⟩ ⟨by show i+1<=_;omega,by simp[hwl],(hwo.set _ hsum).set _ (by omega),fun j hj=>?_,?_,?_⟩ (by show a.length-(i+1)<a.length-i;omega) (.cons J (.cons J (.cons J (.cons J (.cons J (.cons J .nil)))))) J
 .have hj':i+1<j:=hj
  show((ws.set i _).set (i+1) _).getD j 0=0;rw[Cr,Cr];exact hz j (by omega)
 .show((ws.set i _).set (i+1) (a.getD i 0*2^k/4294967296)).getD (i+1) 0<2^k
  rw[aK,pV (by simp;omega)];exact hhi
 .show dv ((ws.set i (ws.getD i 0+a.getD i 0%2^(32-k)*2^k)).set (i+1) (a.getD i 0*2^k/4294967296))=dv (a.take (i+1))*2^k
  have h1:=rC (ws.set i (ws.getD i 0+a.getD i 0%2^(32-k)*2^k)) (i+1) (a.getD i 0*2^k/4294967296) (by simp;omega);rw[Cr,hz (i+1) (by omega),qW,fK] at h1;have h2:=rC ws i (ws.getD i 0+a.getD i 0%2^(32-k)*2^k) (by omega);rw[dS] at h2;rw[h1,ju,dJ,<-hinv,cJ,Ho (4294967296^i) (a.getD i 0*2^k),<-hlow] at*;rw[fY];omega
end Go.Sx
end
section
namespace Go.Sx
def uM(i:Nat):(4294967296:Nat)^(i+1)=4294967296^i*4294967296:=fY ..
def Y8{U p V T S first third:Nat}(hU:U<(first*4294967296+third+1)*p)(h3:third<4294967296)(hV:(T*4294967296+S)*p<=V)(hT:0<T):
  U<(first/T+1)*V:=by
 have h1:first+1<=(first/T+1)*T:=by
  have:=Nat.lt_mul_div_succ first hT
  rw[cK];omega
 calc U<(first*4294967296+third+1)*p:=hU
  _<=((first+1)*4294967296)*p:=bL _ (by omega)
  _<=(((first/T+1)*T)*4294967296)*p:=bL _ (bL _ h1)
  _=(first/T+1)*((T*4294967296)*p):=by rw[cJ (first/T+1),cJ (first/T+1)]
  _<=(first/T+1)*V:=fL _ (cS (bL _ (oN _ _)) hV)
def aJU{U p V T S first third v0:Nat}(hU:(first*4294967296+third)*p<=U)(hV:V=(T*4294967296+S)*p+v0)(hv:v0<p)(hlt:U<V*4294967296):first<=T*4294967296+S:=by
 rcases jK (T*4294967296+S) first with h|h
 .exfalso
  have h1:(T*4294967296+S+1)*p<=first*p:=bL p h
  rw[dJ _ 1,nX] at h1;rw[dJ,nV] at hU;have:0<=third*p:=bZ _;omega
 .exact h
def aGg{U p V T S first third g r:Nat}(hU:U<(first*4294967296+third+1)*p)(hV:(T*4294967296+S)*p<=V)(hg:first=g*T+r)(hc:r*4294967296+third<g*S):U<g*V:=by
 refine dZ hU (cS (bL p (m:=g*(T*4294967296+S)) ?_) ?_)
 .rw[dS,<-cJ,hg,dJ];omega
 .rw[cJ];exact fL _ hV
def HP{U p V T S first third g r v0:Nat}(hU:(first*4294967296+third)*p<=U)(hV:V=(T*4294967296+S)*p+v0)(hv:v0<p)(hT:0<T)(hg:first=g*T+r)(hgB:g<4294967296)(hc:g*S<=r*4294967296+third):g*V<U+V:=by
 have h1:g*((T*4294967296+S)*p)<=U:=by
  rw[<-cJ];refine cS (bL p ?_) hU;rw[dS,<-cJ,hg,dJ];omega
 have h2:g*v0<=4294967295*v0:=bL _ (by omega);have h3:4294967296*p<=V:=by
  rw[hV];refine cS (bL p ?_) (oN _ _);omega
 have h4:g*V=g*((T*4294967296+S)*p)+g*v0:=by rw[<-dS,<-hV]
 omega
def VE{U V R g:Nat}(h:U<(g+1)*V)(hr:R+g*V=U):R<V:=by
 rw[dJ,nX] at h;omega
def ZK{U V R R' g w M:Nat}(h2:g*V<U+V)(hr:R+g*V=U+M)(hb:R'+w*M=R+V)(hR:R<M)(hR':R'<M)(hw:w<=1)(hg:0<g):R'+(g-1)*V=U/\R'<V:=by
 have hgv:g*V=(g-1)*V+V:=by
  conv=>lhs;rw[show g=(g-1)+1 by omega,dJ,nX]
 have:w=1:=by
  rcases jK w 1 with h|h
  .have:w=0:=by omega
   subst this;omega
  .omega
 subst this;omega
def zk(us:List Nat)(i:Nat):dv (us.drop i)=us.getD i 0+4294967296*dv (us.drop (i+1)):=by
 rcases jK i us.length with h|h
 .rw[bQ h];simp[dv,List.getD,aZ h]
 .rw[iV h,iV (by omega)]
  simp[dv,dY h,List.getD]
def z7(us:List Nat)(i:Nat):dv us=dv (us.take i)+4294967296^i*dv (us.drop i):=by
 rcases jK us.length i with h|h
 .rw[aM (by omega),iV (by omega)];simp[dv]
 .exact DR us i h
def Dy{us:List Nat}(h:bB us)(i:Nat):dv (us.take i)<4294967296^i:=by
 refine dZ (jA (h.take i)) (bR (by decide) ?_);simp[cR];omega
def CX{us:List Nat}{i:Nat}(hd:dv us<4294967296^i):dv (us.drop i)=0:=by
 have h:=z7 us i;rcases gU (dv (us.drop i)) with h0|h0
 .exact h0
 .have:=fL (4294967296^i) h0
  omega
def Ys{W W' U E p u x bo b c c1 g d:Nat}(hs:W'+p*u=W+p*x)(hw:W+E=U+(bo+c)*p)(hc:c1=c+g*d)(hx:x+(c1%4294967296+bo)=u+b*4294967296):
  W'+(E+g*d*p)=U+(b+c1/4294967296)*(p*4294967296):=by
 have h1:=congrArg (p* ·) hx;simp only[dS] at h1;have h2:p*c1=p*(c1%4294967296)+p*(c1/4294967296)*4294967296:=by
  rw[cJ,<-dS,Nat.mod_add_div']
 have h3:p*c1=p*c+p*(g*d):=by rw[hc,dS]
 rw[dJ,cK bo,cK c] at hw;rw[cK (g*d),dJ,<-cJ b,<-cJ (c1/4294967296),cK b,cK (c1/4294967296)];rw[<-cJ] at h1;omega
def W6{W W' U E p u x bo b c:Nat}(hs:W'+p*u=W+p*x)(hw:W+E=U+(bo+c)*p)(hx:x+(c+bo)=u+b*4294967296):W'+E=U+b*(p*4294967296):=by
 have h1:=congrArg (p* ·) hx;simp only[dS] at h1;rw[dJ,cK bo,cK c] at hw;rw[<-cJ b,cK b];rw[<-cJ] at h1;omega
def X3{W W' R E p u d c:Nat}(hs:W'+p*u=W+p*((c+(u+d))%4294967296))(hw:W+c*p=R+E):W'+(c+(u+d))/4294967296*(p*4294967296)=R+(E+d*p):=by
 have h2:p*(c+(u+d))=p*((c+(u+d))%4294967296)+p*((c+(u+d))/4294967296)*4294967296:=by
  rw[cJ,<-dS,Nat.mod_add_div']
 rw[dS p c,dS p u] at h2;rw[cK c] at hw;rw[cK d,<-cJ,cK _ p];omega
def WJ{W W' R p u c:Nat}(hs:W'+p*u=W+p*((u+c)%4294967296))(hw:W+c*p=R):W'+(u+c)/4294967296*(p*4294967296)=R:=by
 have h2:p*(u+c)=p*((u+c)%4294967296)+p*((u+c)/4294967296)*4294967296:=by
  rw[cJ,<-dS,Nat.mod_add_div']
 rw[dS p u] at h2;rw[cK c] at hw;rw[<-cJ,cK _ p];omega
def aIe{us:List Nat}(h:bB us)(i:Nat)(hd:dv us<4294967296^(i+3)):
  dv us=((us.getD (i+2) 0*4294967296+us.getD (i+1) 0)*4294967296+us.getD i 0)*4294967296^i+dv (us.take i):=by
 have h0:=CX hd;rw[z7 us i,zk us i,zk us (i+1),zk us (i+2),h0,kR,cK];congr 2;omega
def TG{us:List Nat}(h:bB us)(i:Nat)(hd:dv us<4294967296^(i+2)):
  dv us=(us.getD (i+1) 0*4294967296+us.getD i 0)*4294967296^i+dv (us.take i):=by
 have h0:=CX hd;rw[z7 us i,zk us i,zk us (i+1),h0,kR,cK];congr 2;omega
def D9{us:List Nat}{k i d:Nat}(h:bB us)(hd:d<4294967296)(hk:dv us<4294967296^k)(hi:i<k:=by omega):dv (us.set i d)<4294967296^k:=by
 rw[z7 _ k,List.drop_set,if_pos hi,CX hk,qW,fK];exact Dy (h.set i hd) k
end Go.Sx
end
section
namespace Go.Sx
open Go Go.Proofs Tryz
def avm(p k a1 a2 E:Nat)(hk:k<32)(h1:a1<4294967296)(hp:p=2^k):(a1+4294967296*(a2+4294967296*E))/p=(a1+a2*4294967296)/p%4294967296+4294967296*((a2+4294967296*E)/p):=by
 subst hp;have hp0:0<(2:Nat)^k:=fX (by omega);have hB:4294967296=2^(32-k)*2^k:=by rw[<-eY,show 32-k+k=32 by omega]
 -- the quotient and the rest of the quotient by the base
 have hq:(a1+4294967296*(a2+4294967296*E))/2^k/4294967296=(a2+4294967296*E)/2^k:=by
  rw[nZ,cK (2^k),<-nZ,mY _ _ (by decide),kU h1,eJ]
 have hr:(a1+4294967296*(a2+4294967296*E))/2^k%4294967296=(a1+a2*4294967296)/2^k%4294967296:=by
  have e1:a1+4294967296*(a2+4294967296*E)=(a1+a2*4294967296)+2^k*(2^(32-k)*(4294967296*E)):=by
   rw[<-cJ (2^k),cK (2^k) (2^(32-k)),<-hB];omega
  rw[e1,mY _ _ hp0];rw[show 2^(32-k)*(4294967296*E)=4294967296*(2^(32-k)*E) by rw[kM]];rw[nN]
 have h:=Nat.mod_add_div ((a1+4294967296*(a2+4294967296*E))/2^k) 4294967296;rw[hq,hr] at h;exact h.symm
def S2(a:List Nat)(i:Nat):dv (a.drop i)=a.getD i 0+4294967296*dv (a.drop (i+1)):=by
 by_cases h:i<a.length
 .rw[bQ h,aK,aZ h];rfl
 .rw[iV (by omega),iV (by omega),Do];rfl
def ax1{a:List Nat}(ha:bB a)(k i:Nat)(hk:k<32):dv (a.drop i)/2^k=(a.getD i 0+a.getD (i+1) 0*4294967296)/2^k%4294967296+4294967296*(dv (a.drop (i+1))/2^k):=by
 rw[S2 a i,S2 a (i+1)];exact avm _ k _ _ _ hk (ha.get i) J
def aDP{A G:Gh}{x:SV}{ds:List Nat}{k kk:Nat}(hx:cj A x ds)[GL A G](hk32:k<32)(hk:dv ds/2^k<2^kk)(hb:ds.length<=1125899906842):
  Fn prog 339 [x.v, .int .u64 (k:Int)] G (fun v G'=> ∃z:SV,v=z.v/\gg kk G' z (dv ds/2^k)):=by
 have htl:=oe ds;have hcall:=fun G1 (_:GL A G1)=>jp (G:=G1) hx;have hxt:=hx.trim;rw[<-kt ds] at hk⊢;generalize trimD ds=a at*;have hok:=hxt.ok;refine Fn.intro func339 J J ntmps339 J ?_;intro C _ _;refine sR<|sa J J<|zE<|sR<|sm J J<|?_;refine sc (zC J J (hcall _ inferInstance) J ?_);rintro _ G1 _ rfl;refine sa J J<|zE<|bi<|sR<|sm J J<|sy (AA J J (by omega) (by omega) (by decide)) J<|sm J J<|cB J J<|sy (gE J) J<|?_;rw[show(k:Int)/32=0 by omega];refine sy (qi J J) J<|zE<|?_;refine fq J (fun hc=>?_) (fun hc=>?_) -- slot 17
 .refine sR<|sa J J<|zE<|cg<|?_
  have:a=[]:=bM (by omega);subst this;refine zD (.tmp J .nil) ⟨⟨none,0,0⟩,J,?_⟩;have e0:dv []/2^k=0:=by simp[dv]
  rw[e0];exact⟨by unfold dg;exact .nil _,fX (by omega)⟩
 refine zK<|sR<|sm J J<|sy (AA J J (by omega) (by omega) (by decide)) J<|sy (OV J) J<|sm J J<|sy (yw J J (by omega) (by decide)) J<|?_;rw[show(k:Int)/32=0 by omega,show(k:Int)%32=k by omega];refine sa J J<|sa J J<|zE<|sR<|sm J J<|cB J J<|sm J J<|sy (jy J J) J<|?_;refine sc (s9 J J (by omega) (by omega) (by omega) (by rfl) J ?_);intro b2;rw[wc,show((a.length:Int)-0).toNat=a.length by omega];refine sa J J<|zE<|bi<|sR<|sm J J<|cB J J<|sm J J<|zE<|du<|?_;refine lx (X:=P1) (fun q=>[(30, .int .i64 q.i),(29, .int .i64 a.length),(0, .slice x.a a.length x.c),(5, .int .i64 0),(7, .slice (some ⟨b2,0,none⟩) a.length a.length),(6, .int .u64 k)])
  (fun q=>[⟨b2,q.ws.map dI,268,true⟩])
  (fun q _=>q.i<=a.length/\q.ws.length=a.length/\bB q.ws/\dv a/2^k=dv (q.ws.take q.i)+4294967296^q.i*(dv (a.drop q.i)/2^k)) (fun q=>a.length-q.i) ⟨List.replicate a.length 0,0⟩
  ⟨bZ _,by simp, .replicate _,by simp[dv]⟩ (.cons J (.cons J (.cons J (.cons J (.cons J (.cons J .nil)))))) J ?_
 rintro ⟨ws,i⟩ Gy _ ⟨hia,hwl,hwo,hinv⟩;simp only[] at hia hwl hwo hinv⊢;refine sR<|sy (gG J J) J<|zE<|bi<|?_;refine lB J (fun hc=>?_) (fun hc=>?_) -- slot 31
 .have hin:i=a.length:=by omega
  refine jl<|dP<|dP<|jg<|sR<|sm J J<|?_;refine nH b2 (.hd ..) (fun G3 _ hgb=>?_);have hD:cj G3 ⟨some ⟨b2,0,none⟩,a.length,a.length⟩ ws:= .of_block hwo hgb.h hwl.symm (bX _) (by rw[aM (by simp)]);have hdv:dv a/2^k=dv ws:=by
   rw[hinv,hin,aM (by omega),gQ];simp[dv]
  refine sc (zC J J (jp hD) J ?_);rintro _ G4 _ rfl;refine sa J J<|zE<|cg<|?_;refine zD (.tmp J .nil) ⟨⟨some ⟨b2,0,none⟩,(trimD ws).length,a.length⟩,J,?_⟩;have h3:=hD.trim.up (G:=G4);rw[hdv] at hk⊢;exact⟨by rw[qk hwo];exact h3,hk⟩
 have hia':i<a.length:=by omega
 have hga:=hok.get i;have hga2:=hok.get (i+1);refine zK<|bi<|du<|sR<|sm J J<|sa J J<|zE<|sR<|sm J J<|sm J J<|sm J J<|sy (dt J J) J<|?_;refine sy (iH (z:=⟨x.a,a.length,x.c⟩) hxt J J (by omega) (by show((i:Int)+0)<(a.length:Nat);omega)) J<|?_;rw[show((i:Int)+0).toNat=i by omega];refine sy (i0 hxt J) J<|sy (gE J) J<|sa J J<|zE<|?_;refine B8 Unit (fun _=>[(30, .int .i64 i),(8, .int .i64 i),(29, .int .i64 a.length),(0, .slice x.a a.length x.c),(5, .int .i64 0),(7, .slice (some ⟨b2,0,none⟩) a.length a.length),(6, .int .u64 k),(9, .int .u64 ((a.getD i 0+a.getD (i+1) 0*2^32:Nat):Int))]) (fun _=>[⟨b2,ws.map dI,268,true⟩]) (fun _ _=>True) ?_ ?_
 .refine sR<|sm J J<|sm J J<|sy (dt J J) J<|sy (dt J J) J<|sm J J<|cB J J<|sy (gG J J) J<|?_
  refine zE<|?_;refine fq J (fun hc2=>?_) (fun hc2=>?_) -- slot 46
  .refine dl<|sm J J<|sm J J<|sm J J<|sm J J<|sy (dt J J) J<|sy (dt J J) J<|sy (iH (z:=⟨x.a,a.length,x.c⟩) hxt J J (by omega) (by show((i:Int)+0+1)<(a.length:Nat);omega)) J<|?_
   rw[show((i:Int)+0+1).toNat=i+1 by omega];refine sy (i0 hxt J) J<|sy (gE J) J<|sy (xe J J) J<|?_;rw[sP (a.getD (i+1) 0) 32 (by decide) (by omega) J];refine sy (jc J J (NX (a.getD i 0) (a.getD (i+1) 0) 32 (by omega) (by omega))) J<|sa J J<|zE<|?_;exact qP () trivial (.cons J (.cons J (.cons J (.cons J (.cons J (.cons J (.cons J (.cons J .nil)))))))) J
  refine zK<|?_;have h0:a.getD (i+1) 0=0:=Do;exact qP () trivial (.cons J (.cons J (.cons J (.cons J (.cons J (.cons J (.cons J (.cons (by rw[h0,lJ,fK];rfl) .nil)))))))) J
 rintro _ Gz _ _;refine dl<|sm J J<|sm J J<|sm J J<|sm J J<|sy (m7 J J (by omega)) J<|?_;rw[uD _ k (by omega) (aR k)];refine sy (ly J) J<|sy (dO J J) J<|?_;rw[aR];refine sc (mr (d:=(a.getD i 0+a.getD (i+1) 0*2^32)/2^k%4294967296) J J (by rw[oM];rfl) (.hd ..) (by omega) J ?_);refine zE<|dl<|sy (dt J J) J<|sm J J<|zE<|?_;refine i7 ⟨ws.set i ((a.getD i 0+a.getD (i+1) 0*2^32)/2^k%4294967296),i+1⟩ ⟨by show i+1<=_;omega,by simp[hwl],hwo.set _ (dV _ (by decide)),?_⟩ (by show a.length-(i+1)<a.length-i;omega) (.cons J (.cons J (.cons J (.cons J (.cons J (.cons J .nil)))))) J;show dv a/2^k=dv ((ws.set i ((a.getD i 0+a.getD (i+1) 0*2^32)/2^k%4294967296)).take (i+1))+4294967296^(i+1)*(dv (a.drop (i+1))/2^k);rw[hinv,qA,ax1 hok k i hk32,uM i,dS,cJ,kV]
end Go.Sx
end
section
namespace Go.Sx
open Go
variable {n l:Nat}{Q:Exit->Act->World->Prop}
section
variable {P:Program}{C:aD}{fr:Fr}{own:List av}{G:Gh}
def azn{c:Code}(h:St C n fr own G (c.wp P (Exit.noGoto Q))):St C n fr own G ((Code.scope c).wp P Q):=
 fun a w rl=>wp_scope_straight (h a w rl)
def Uy(h:St C n fr own G (Q .normal)):St C n fr own G ((Code.label l).wp P Q):=
 fun a w rl=>wp_label (h a w rl)
def Qx:Exit->Bool
 | .goto _=>false
 |_=>true
end
end Go.Sx
end
