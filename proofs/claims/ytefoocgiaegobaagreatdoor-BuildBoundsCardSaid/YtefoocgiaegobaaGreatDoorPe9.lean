import Derived.Test.YtefoocgiaegobaaGreatDoorPe8
set_option linter.all false
set_option maxHeartbeats 1000000
set_option maxRecDepth 100000
section
namespace Go.Sx
open Go Go.Proofs Tryz
def bl(x:Nat):Nat:=if x=0 then 0 else Nat.log2 x+1
def Bd(x:Nat):x<2^bl x:=by
 unfold bl;split
 ·rename_i h;subst h;decide
 ·exact Nat.lt_log2_self
def mw{x k:Nat}:bl x<=k↔x<2^k:=by
 constructor
 ·intro h;exact cN (Bd x) (bV (by omega) h)
 ·intro h
  unfold bl;split
  ·omega
  ·rename_i h0
   have:=(Nat.log2_lt h0).2 h;omega
def Qk{x:Nat}(h:x≠0):bl x=1+bl (x/2):=by
 have h1: ∀k,bl x<=k+1↔bl (x/2)<=k:=fun k=>by
  rw[mw,mw,fS];omega
 have h2:bl x≠0:=fun e=>by
  have:=Bd x;rw[e] at this;simp at this;exact h this
 have h3:=(h1 (bl (x/2))).2 (aL _);have h4:=(h1 (bl x-1)).1 (by omega);omega
def PA: ∀(f x:Nat),x<2^f->Lib.bitLenAux f x=bl x
 |0,x,h=>by
  have:x=0:=by simpa using h
  subst this;rfl
 |f+1,x,h=>by
  unfold Lib.bitLenAux;split
  ·rename_i h0;subst h0;rfl
  ·rename_i h0
   rw[PA f (x/2) (by rw[fS] at h;omega),Qk h0]
def Zb{x:Nat}(h:x<2^64):Lib.bitLen x=bl x:=PA 64 x h
def RO{x k:Nat}(d:Nat)(h:x<2^k)(hd:d≠0):bl (x+2^k*d)=k+bl d:=by
 have h1: ∀j,bl (x+2^k*d)<=k+j↔bl d<=j:=fun j=>by
  rw[mw,mw,fW];constructor
  ·intro h'
   exact Nat.lt_of_mul_lt_mul_left (a:=2^k) (by omega)
  ·intro h'
   have:2^k*(d+1)<=2^k*2^j:=fT _ h';rw[dZ] at this;omega
 have h2:k<bl (x+2^k*d):=by
  rcases iW k (bl (x+2^k*d)) with h'|h'
  ·exact h'
  ·have:=mw.1 h'
   have h3:2^k*1<=2^k*d:=fT _ (by omega);omega
 have h3:=(h1 (bl d)).2 (aL _);have h4:=(h1 (bl (x+2^k*d)-k)).1 (by omega);omega
def VB{ds:List Nat}(h:bu ds)(hn:dO ds)(hne:ds≠[]):bl (dv ds)=32*(ds.length-1)+bl (ds.getD (ds.length-1) 0):=by
 rcases rJ ds with rfl|⟨l,d,rfl⟩
 ·exact absurd J hne
 ·rw[rK] at*
  have hd:d≠0:=fun e=>by subst e;simp[dO] at hn
  have hl:bu l:=fun x hx=>h x (cZ _ hx);have h1:=iw hl;rw[uV];have h2:(4294967296:Nat)^l.length=2^(32*l.length):=by rw[oL]
  rw[h2] at h1⊢;have h3:dv [d]=d:=by simp[dv]
  rw[h3,RO d h1 hd];have h4:(l++[d]).length-1=l.length:=by simp
  rw[h4,aK,fV (aL _)];simp
def JH{P:Program}{f:FuncId}{fn:Func}{c:Code}(h:P.funcs[f]? =some fn)(hb:fn.body=some c)(hn:(fn.name== "runtime.NumGoroutine")=false):nO P f:=⟨fn,h,hn,by rw[hb];rfl⟩
def Fm{G:Gh}{x:Nat}(hx:x<4294967296):Fn prog 366 [.int .u32 (x:Int)] G (fun v _=>v= .int .i64 (32-(bl x:Int))):=by
 have h:=Fn.of_calls (G:=G) (JH func366 J J) (fun w=>Tryz.bits_LeadingZeros32 (x:Int) w (by omega) (by omega));rw[aM,Zb (pJ hx (by decide))] at h;exact h
def HE{G:Gh}{u:Nat}(hu:u<18446744073709551616):Fn prog 309 [.int .u64 (u:Int)] G (fun v G'=> ∃z:SV,v=z.v/\ey 64 G' z u):=by
 refine Fn.intro func309 J J ntmps309 J ?_;intro C _ _;refine sR<|sa J J<|zE<|sR<|sm J J<|sy (jj J) J<|sm J J<|?_;refine sy (kD J J (by decide)) J<|sy (jj J) J<|?_;refine sc (Fw (by rfl) (by rfl) (by rfl) (by rfl) J ?_);intro b1;refine pd b1 (.hd ..) (fun G1 _ hgb=>?_);have h1:((u:Int)%4294967296)=((u%4294967296:Nat):Int):=by omega
 have h2:((u:Int).fdiv (2^min (32:Int).toNat IntKind.u64.bits)%4294967296)=((u/4294967296:Nat):Int):=by
  have:(2^min (32:Int).toNat IntKind.u64.bits:Int)=4294967296:=by decide
  rw[this,gS _ (by omega)];omega
 have hok:bu [u%4294967296,u/4294967296]:= .cons (by omega) (.cons (by omega) .nil);have hd:ce G1 ⟨some ⟨b1,0,none⟩,2,2⟩ [u%4294967296,u/4294967296]:= .of_block hok hgb.h J (aL _) (by rw[h1,h2];rfl);have hv:dv [u%4294967296,u/4294967296]=u:=by simp only[dv];omega
 refine sc (zC J J (iq hd (by simp)) J ?_);rintro _ G2 _ rfl;refine sa J J<|zE<|cG<|?_;refine zD (.tmp J .nil) ⟨⟨some ⟨b1,0,none⟩,(trimD [u%4294967296,u/4294967296]).length,2⟩,J,?_⟩;have:=hd.trim.up (G:=G2);rw[<-oH hok,hv] at this;exact⟨by rw[<-oH hok,hv];exact this,cN hu (by decide)⟩
def NW{P:Program}{t:TypeId}(a b k:Nat)(ha:a<2^k)(h:a+b*2^k<18446744073709551616)(w:World):(binOp .or t (.int .u64 (a:Int)) (.int .u64 ((b*2^k:Nat):Int))).run P w= .ok (.int .u64 ((a+b*2^k:Nat):Int)) w:=by
 have h1:(BitVec.ofInt 64 (a:Int) ||| BitVec.ofInt 64 ((b*2^k:Nat):Int)).toNat=a+b*2^k:=by
  rw[BitVec.toNat_or,BitVec.ofInt_natCast,BitVec.ofInt_natCast,BitVec.toNat_ofNat,BitVec.toNat_ofNat,fR (by omega),fR (by omega)];rw[<-lW,Nat.or_comm,<-lU ha,lW];omega
 have h2:IntKind.u64.wrap ((a+b*2^k:Nat):Int)=((a+b*2^k:Nat):Int):=by rw[lz];omega
 simp only[binOp];show(Op.intBits .or .u64 (a:Int) ((b*2^k:Nat):Int)).run P w=_;unfold Op.intBits;show(pure (Value.int .u64 (IntKind.u64.wrap ((BitVec.ofInt 64 (a:Int) ||| BitVec.ofInt 64 ((b*2^k:Nat):Int)).toNat:Int))):Sem Value).run P w=_;rw[h1,h2,run_pure]
def GZ{A G:Gh}{x:SV}{ds:List Nat}(hx:ce A x ds)[GL A G](hb:ds.length<=1125899906842624):Fn prog 315 [x.v] G (fun v _=>v= .tuple #[.int .u64 ((if dv ds<18446744073709551616 then dv ds else 0:Nat):Int), .bool (decide (dv ds<18446744073709551616))]):=by
 have htl:=lE ds;have hdv:=iO ds;have hok:=hx.ok.trimD;have hnr:=dO.trimD ds;have hxt:=hx.trim;have hcall:=fun G1 (_:GL A G1)=>iq (G:=G1) hx (by omega);generalize trimD ds=es at*;have hlen:=hxt.len;rw[<-hdv];have hbig:(if dv es<18446744073709551616 then dv es else 0)=if es.length<=2 then dv es else 0:=by
  by_cases h2:es.length<=2
  ·have h3:=iw hok
   have h4:(4294967296:Nat)^es.length<=4294967296^2:=bV (by omega) h2;rw[if_pos h2,if_pos (by omega)]
  ·have h3:=qh hnr (fun e=>by subst e;simp at h2)
   have h4:(4294967296:Nat)^2<=4294967296^(es.length-1):=bV (by omega) (by omega);rw[if_neg h2,if_neg (by omega)]
 have hbig2:decide (dv es<18446744073709551616)=decide (es.length<=2):=by
  rw[decide_eq_decide];by_cases h2:es.length<=2
  ·have h3:=iw hok
   have h4:(4294967296:Nat)^es.length<=4294967296^2:=bV (by omega) h2;exact⟨fun _=>h2,fun _=>by omega⟩
  ·have h3:=qh hnr (fun e=>by subst e;simp at h2)
   have h4:(4294967296:Nat)^2<=4294967296^(es.length-1):=bV (by omega) (by omega);exact⟨fun _=>by omega,fun h=>absurd h h2⟩
 rw[hbig,hbig2];refine Fn.intro func315 J J ntmps315 J ?_;intro C _ _;refine sR<|sa J J<|sa J J<|zE<|sR<|sm J J<|?_;refine sc (zC J J (hcall _ inferInstance) J ?_);rintro _ G1 _ rfl;refine sa J J<|zE<|bt<|sR<|sm J J<|cD J J<|sy (rg J J) J<|zE<|?_;refine fi J (fun hc=>?_) (fun hc=>?_) -- slot 11
 ·refine sR<|sa J J<|sa J J<|zE<|cG<|?_
  refine zD (.tmp J (.tmp J .nil)) ?_;have: ¬es.length<=2:=by omega
  simp[f9,this]
 have h2:es.length<=2:=by omega
 refine zK<|sR<|sa J J<|zE<|bt<|sR<|sm J J<|cD J J<|sm J J<|zE<|dE<|?_;refine kj (X:=Nat) (fun k=>[(14, .int .i64 k),(13, .int .i64 es.length),(12, .slice x.a es.length x.c),(4, .int .u64 ((dv (es.take k):Nat):Int))]) (fun _=>[]) (fun k _=>k<=es.length) (fun k=>es.length-k) 0 (bL _) (.cons J (.cons J (.cons J (.cons J .nil)))) J ?_;rintro k Gx _ hk;refine sR<|sy (io J J) J<|zE<|bt<|?_;refine ki J (fun hc=>?_) (fun hc=>?_) -- slot 15
 ·refine iE<|d6<|d6<|iC<|sR<|sm J J<|sa J J<|sa J J<|zE<|cG<|?_
  refine zD (.tmp J (.tmp J .nil)) ?_;have hk':k=es.length:=by omega
  subst hk';simp[f9,h2]
 have hk':k<es.length:=by omega
 have hdk:=hok.get k;have hdt:=iw (hok.take k);rw[bM,fN (by omega)] at hdt;have hds:=ij es k;have hd2:=iw (hok.take (k+1));rw[bM,fN (by omega)] at hd2;have hp2:(4294967296:Nat)^(k+1)<=4294967296^2:=bV (by omega) (by omega);have hpk:(4294967296:Nat)^k=2^(32*k):=by rw[oL]
 refine zK<|bt<|dE<|sR<|sm J J<|sy (gt (z:=⟨x.a,es.length,x.c⟩) hxt J J (by omega) (by show(k:Int)<(es.length:Nat);omega)) J<|sy (gn hxt J (by omega)) J<|sa J J<|sa J J<|zE<|dz<|?_;refine sm J J<|sm J J<|sy (fB J (by omega) (by rw[aM];omega)) J<|sm J J<|sy (O9 J J (by omega) (by omega)) J<|?_;have hsh:IntKind.u64.wrap (((es.getD (k:Int).toNat 0:Nat):Int)*2^min ((32:Int)*(k:Int)).toNat IntKind.u64.bits)=((es.getD k 0*2^(32*k):Nat):Int):=by
  have e1:((32:Int)*(k:Int)).toNat=32*k:=by omega
  rw[e1,aM,fN (by show 32*k<=64;omega),lz];have e2:((es.getD k 0:Nat):Int)*2^(32*k)=((es.getD k 0*2^(32*k):Nat):Int):=by push_cast;rfl
  rw[e2];have e3:es.getD k 0*2^(32*k)<18446744073709551616:=by rw[<-hpk,bR];omega
  omega
 refine sy (ux J J (by omega)) J<|?_;rw[hsh];refine sy (gA J J (NW (dv (es.take k)) (es.getD k 0) (32*k) (by rw[<-hpk];exact hdt) (by rw[<-hpk,bR];omega))) J<|sa J J<|zE<|dz<|sy (dx J J) J<|sm J J<|zE<|?_;refine iG (k+1) (by omega) (by omega) (.cons J (.cons J (.cons J (.cons ?_ .nil)))) J;rw[hds,hpk,bR (2^(32*k))];rfl
def Wc{A G:Gh}{x:SV}{ds:List Nat}(hx:ce A x ds)[GL A G](hb:ds.length<=1125899906842624):Fn prog 310 [x.v] G (fun v _=>v= .int .i64 ((bl (dv ds):Nat):Int)):=by
 have htl:=lE ds;have hdv:=iO ds;have hok:=hx.ok.trimD;have hnr:=dO.trimD ds;have hxt:=hx.trim;have hcall:=fun G1 (_:GL A G1)=>iq (G:=G1) hx (by omega);generalize trimD ds=es at*;have hlen:=hxt.len;rw[<-hdv];refine Fn.intro func310 J J ntmps310 J ?_;intro C _ _;refine sR<|sa J J<|zE<|sR<|sm J J<|?_;refine sc (zC J J (hcall _ inferInstance) J ?_);rintro _ G1 _ rfl;refine sa J J<|zE<|bt<|sR<|sm J J<|cD J J<|sy (gE J J) J<|zE<|?_;refine fi J (fun hc=>?_) (fun hc=>?_) -- slot 7
 ·refine sR<|sa J J<|zE<|cG<|?_
  refine zD (.tmp J .nil) ?_;have:es=[]:=bU (by omega);subst this;rfl
 have hne:0<es.length:=by omega
 have hkt:((es.length:Int)-1).toNat=es.length-1:=by omega
 have hg:=hok.get (es.length-1);have hbl:bl (es.getD (es.length-1) 0)<=32:=mw.2 (by omega);refine zK<|sR<|sm J J<|cD J J<|sy (O9 J J (by omega) (by omega)) J<|sm J J<|sm J J<|cD J J<|sy (ja J J) J<|?_;refine sy (gt (z:=⟨x.a,es.length,x.c⟩) hxt J J (by omega) (by show _<((es.length:Nat):Int);omega)) J<|sy (gn hxt J (by omega)) J<|?_;rw[hkt];refine sc (zC J J (Fm hg) J ?_);rintro _ G2 _ rfl;refine sy (ja J J) J<|sa J J<|zE<|cG<|?_;refine zD (.tmp J .nil) ?_;rw[VB hok hnr (fun e=>by subst e;simp at hne)];simp only[f9,Value.int.injEq,true_and];omega
def fD(a b:Nat):Int:=if a<b then-1 else if a=b then 0 else 1
def NJ{A B G:Gh}{x y:SV}{ds es:List Nat}(hx:ce A x ds)(hy:ce B y es)[GL A G][GL B G](hb:ds.length<=1125899906842624)(hb2:es.length<=1125899906842624):
  Fn prog 367 [x.v,y.v] G (fun v _=>v= .int .i64 (fD (dv ds) (dv es))):=by
 have htl:=lE ds;have htl2:=lE es;have hcall:=fun G1 (_:GL A G1)=>iq (G:=G1) hx (by omega);have hcall2:=fun G1 (_:GL B G1)=>iq (G:=G1) hy (by omega);have hxt:=hx.trim;have hyt:=hy.trim;have hok:=hx.ok.trimD;have hok2:=hy.ok.trimD;have hnr:=dO.trimD ds;have hnr2:=dO.trimD es;rw[<-iO ds,<-iO es];generalize trimD ds=a at*;generalize trimD es=b at*;refine Fn.intro func367 J J ntmps367 J ?_;intro C _ _;refine sR<|sa J J<|zE<|sR<|sm J J<|?_;refine sc (zC J J (hcall _ inferInstance) J ?_);rintro _ G1 _ rfl;refine sm J J<|?_;refine sc (zC J J (hcall2 _ inferInstance) J ?_);rintro _ G2 _ rfl;refine sa J J<|sa J J<|zE<|bt<|sR<|sm J J<|cD J J<|sm J J<|cD J J<|sy (tc J J) J<|zE<|?_;refine fi J (fun hc=>?_) (fun hc=>?_) -- slot 14
 ·refine bt<|sR<|sm J J<|cD J J<|sm J J<|cD J J<|sy (io J J) J<|zE<|?_
  refine fi J (fun hc2=>?_) (fun hc2=>?_) -- slot 19
  ·refine sR<|sa J J<|zE<|cG<|?_
   refine zD (.tmp J .nil) ?_;have:=qG hok hnr2 (by omega);simp[f9,fD,this]
  refine zK<|sR<|sa J J<|zE<|cG<|?_;refine zD (.tmp J .nil) ?_;have:=qG hok2 hnr (by omega);have h1: ¬dv a<dv b:=by omega
  have h2: ¬dv a=dv b:=by omega
  simp[f9,fD,h1,h2]
 have hl:a.length=b.length:=by omega
 refine zK<|bt<|sR<|sm J J<|cD J J<|sy (ja J J) J<|sa J J<|zE<|dE<|?_;refine kj (X:=Nat) (fun k=>[(5, .int .i64 (k-1)),(0, .slice x.a a.length x.c),(1, .slice y.a b.length y.c)]) (fun _=>[]) (fun k _=>k<=a.length/\a.drop k=b.drop k) (fun k=>k) a.length ⟨aL _,by rw[jY,hl,jY]⟩ (.cons J (.cons J (.cons J .nil))) J ?_;rintro k Gx _ ⟨hk,hd⟩;refine bt<|sR<|sm J J<|sy (sH J J) J<|zE<|?_;refine ki J (fun hc=>?_) (fun hc=>?_) -- slot 24
 ·refine iE<|d6<|d6<|iC<|sR<|sa J J<|zE<|cG<|?_
  refine zD (.tmp J .nil) ?_;have:k=0:=by omega
  subst this;have hab:a=b:=by simpa using hd
  subst hab;simp[f9,fD]
 have hk1:0<k:=by omega
 have hkt:((k:Int)-1).toNat=k-1:=by omega
 have hga:=hok.get (k-1);have hgb:=hok2.get (k-1);have hk2:k-1+1=k:=by omega
 refine zK<|bt<|dE<|dE<|bt<|dr (fun _=>false) [(0,true),(1,true),(2,true),(3,true),(4,true),(5,true),(6,true),(7,true),(8,true),(9,true)] follows (by kernel_rfl)<|?_;refine dM J J J<|dM J J J<|dy J (fun _=>gt (z:=⟨x.a,a.length,x.c⟩) hxt J J (by omega) (by show _<((a.length:Nat):Int);omega)) J J<|dy J (fun _=>gn hxt J (by omega)) J J<|?_;refine dM J J J<|dM J J J<|dy J (fun _=>gt (z:=⟨y.a,b.length,y.c⟩) hyt J J (by omega) (by show _<((b.length:Nat):Int);omega)) J J<|dy J (fun _=>gn hyt J (by omega)) J J<|?_;refine dy J (fun _=>io J J) J J<|dA J J J<|dn<|?_;refine fi J (fun hc2=>?_) (fun hc2=>?_) -- slot 27
 ·refine sR<|sa J J<|zE<|cG<|?_
  refine zD (.tmp J .nil) ?_;rw[hkt] at hc2;have:=BK hok hok2 (k-1) (by omega) (by omega) hl (by rw[hk2];exact hd) (by omega);simp[f9,fD,this]
 refine bt<|dr (fun _=>false) [(0,true),(1,true),(2,true),(3,true),(4,true),(5,true),(6,true),(7,true),(8,true),(9,true)] follows (by kernel_rfl)<|dM J J J<|?_;refine dM J J J<|dy J (fun _=>gt (z:=⟨x.a,a.length,x.c⟩) hxt J J (by omega) (by show _<((a.length:Nat):Int);omega)) J J<|dy J (fun _=>gn hxt J (by omega)) J J<|dM J J J<|?_;refine dM J J J<|dy J (fun _=>gt (z:=⟨y.a,b.length,y.c⟩) hyt J J (by omega) (by show _<((b.length:Nat):Int);omega)) J J<|dy J (fun _=>gn hyt J (by omega)) J J<|dy J (fun _=>rg J J) J J<|?_;refine dA J J J<|dn<|?_;rw[hkt] at*;refine fi J (fun hc3=>?_) (fun hc3=>?_) -- slot 37
 ·refine sR<|sa J J<|zE<|cG<|?_
  refine zD (.tmp J .nil) ?_;have:=BK hok2 hok (k-1) (by omega) (by omega) hl.symm (by rw[hk2];exact hd.symm) (by omega);have h1: ¬dv a<dv b:=by omega
  have h2: ¬dv a=dv b:=by omega
  simp[f9,fD,h1,h2]
 refine zK<|dz<|sm J J<|sy (ja J J) J<|sa J J<|zE<|?_;refine iG (k-1) ⟨by omega,?_⟩ (by omega) (.cons (by rw[show((k-1:Nat):Int)=(k:Int)-1 by omega];rfl) (.cons J (.cons J .nil))) J;have heq:a.getD (k-1) 0=b.getD (k-1) 0:=by omega
 rw[aK,aK,aX (by omega),aX (by omega)] at heq;rw[cJ (by omega:k-1<a.length),cJ (by omega:k-1<b.length),hk2,hd];congr 1
def B4{ds:List Nat}{k:Nat}(h:ds.length<=k):ds.getD k 0=0:=by
 rw[aK,dJ h];rfl
def FA(n k:Nat):(List.replicate n 0).getD k 0=0:=by
 rw[aK];by_cases h:k<n
 ·simp[h]
 ·rw[dJ (by simpa using h)];rfl
def Zr{a b c:Nat}(ha:a<4294967296)(hb:b<4294967296)(hc:c<=1):(c+a+b)/4294967296<=1:=by omega
structure XG where
 ws:List Nat
 k:Nat
 c:Nat
def Ui{A B G:Gh}{x y:SV}{ds es:List Nat}{kk:Nat}(hx:ce A x ds)(hy:ce B y es)[GL A G][GL B G](hk:dv ds+dv es<2^kk)(hb:ds.length<=1125899906842)(hb2:es.length<=1125899906842):
  Fn prog 362 [x.v,y.v] G (fun v G'=> ∃z:SV,v=z.v/\ey kk G' z (dv ds+dv es)):=by
 have hlen:=hx.len;have hlen2:=hy.len;refine Fn.intro func362 J J ntmps362 J ?_;intro C _ _;refine sR<|sa J J<|zE<|?_;refine xh ((SV×List Nat)×(SV×List Nat)) (fun q=>[(0, .slice q.1.1.a q.1.1.n q.1.1.c),(1, .slice q.2.1.a q.2.1.n q.2.1.c)]) (fun _=>[])
  (fun q G=>ce G q.1.1 q.1.2/\ce G q.2.1 q.2.2/\dv q.1.2+dv q.2.2=dv ds+dv es/\q.2.2.length<=q.1.2.length/\q.1.2.length<=1125899906842) ?_ ?_
 ·refine sR<|sm J J<|cD J J<|sm J J<|cD J J<|sy (io J J) J<|zE<|?_
  refine fi J (fun hc=>?_) (fun hc=>?_) -- slot 13
  ·refine dz<|sm J J<|sm J J<|sa J J<|sa J J<|zE<|?_
   exact o6 ((y,es),(x,ds)) ⟨hy.up,hx.up,by simp;omega,by simp;omega,by simp;omega⟩ (.cons J (.cons J .nil)) J
  refine zK<|?_;exact o6 ((x,ds),(y,es)) ⟨hx.up,hy.up,J,by simp;omega,by simp;omega⟩ (.cons J (.cons J .nil)) J
 rintro ⟨⟨x,a⟩,⟨y,b⟩⟩ Gx _ ⟨hx,hy,hsum,hle,hba⟩;rw[<-hsum] at hk⊢;clear hlen hlen2 hsum;have hlen:=hx.len;have hlen2:=hy.len;simp only[] at hx hy hle hba hlen hlen2 hk⊢;refine sR<|sm J J<|cD J J<|sy (dx J J) J<|?_;refine sc (rk J J (by omega) (by omega) (by omega) (by rfl) J ?_);intro b1;rw[sd,show((x.n:Int)+1).toNat=a.length+1 by omega];refine sa J J<|zE<|sR<|sa J J<|zE<|bt<|sR<|sm J J<|cD J J<|sm J J<|zE<|dE<|?_;refine kj (X:=XG) (fun q=>[(22, .int .i64 q.k),(21, .int .i64 x.n),(20, .slice x.a x.n x.c),(6, .int .u64 q.c),(0, .slice x.a x.n x.c),(1, .slice y.a y.n y.c),(5, .slice (some ⟨b1,0,none⟩) (a.length+1) (a.length+1))])
  (fun q=>[⟨b1,q.ws.map dI,366,true⟩])
  (fun q _=>q.k<=a.length/\q.ws.length=a.length+1/\bu q.ws/\q.c<=1/\dv (q.ws.take q.k)+4294967296^q.k*q.c=dv (a.take q.k)+dv (b.take q.k)) (fun q=>a.length-q.k) ⟨List.replicate (a.length+1) 0,0,0⟩
  ⟨bL _,by simp, .replicate _,bL _,by simp[dv]⟩ (.cons J (.cons J (.cons J (.cons J (.cons J (.cons J (.cons J .nil))))))) J ?_
 rintro ⟨ws,k,c⟩ Gy _ ⟨hka,hwl,hwo,hc1,hinv⟩;simp only[] at hka hwl hwo hc1 hinv⊢;refine sR<|sy (io J J) J<|zE<|bt<|?_;refine ki J (fun hc=>?_) (fun hc=>?_) -- slot 23
 ·have hkn:k=a.length:=by omega
  refine iE<|d6<|d6<|iC<|sR<|sm J J<|sm J J<|cD J J<|sm J J<|sy (jj J) J<|?_;refine sy (ew J J (by omega) (by omega)) J<|?_;refine sc (kz (d:=c) J J (by omega) (.hd ..) (by omega) J ?_);rw[show(x.n:Int).toNat=a.length by omega];refine zE<|sR<|sm J J<|?_;refine pd b1 (.hd ..) (fun G1 _ hgb=>?_);have hwo2:bu (ws.set a.length c):=hwo.set _ (by omega);have hD:ce G1 ⟨some ⟨b1,0,none⟩,a.length+1,a.length+1⟩ (ws.set a.length c):= .of_block hwo2 hgb.h (by simp[hwl]) (aL _) (by rw[bQ (by simp)]);have hdv:dv (ws.set a.length c)=dv a+dv b:=by
   have h1:=oo (ws:=ws) (k:=a.length) (d:=c) (by omega);rw[bQ (by simp;omega)] at h1;rw[h1,<-hkn,hinv,hkn,bQ (aL _),bQ hle]
  refine sc (zC J J (iq hD (by simp;omega)) J ?_);rintro _ G2 _ rfl;refine sa J J<|zE<|cG<|?_;refine zD (.tmp J .nil) ⟨⟨some ⟨b1,0,none⟩,(trimD (ws.set a.length c)).length,a.length+1⟩,J,?_⟩;have h3:=hD.trim.up (G:=G2);rw[<-hdv] at hk⊢;exact⟨by rw[oH hwo2];exact h3,hk⟩
 have hka':k<a.length:=by omega
 have hga:=hx.ok.get k;have hgb:=hy.ok.get k;refine zK<|bt<|dE<|sR<|sm J J<|sy (gt hx J J (by omega) (by omega)) J<|sy (gn hx J (by omega)) J<|sa J J<|sa J J<|zE<|bt<|?_;refine dz<|sm J J<|sm J J<|sy (fB J (by omega) (by rw[aM];omega)) J<|sy (pP J J (by omega) (by rw[aM];omega)) J<|sa J J<|zE<|?_;rw[aM];refine xh Unit (fun _=>[(22, .int .i64 k),(7, .int .i64 k),(21, .int .i64 x.n),(20, .slice x.a x.n x.c),(6, .int .u64 ((c+a.getD k 0+b.getD k 0:Nat):Int)),(0, .slice x.a x.n x.c),(1, .slice y.a y.n y.c),(5, .slice (some ⟨b1,0,none⟩) (a.length+1) (a.length+1))]) (fun _=>[⟨b1,ws.map dI,366,true⟩]) (fun _ _=>True) ?_ ?_
 ·refine sR<|sm J J<|sm J J<|cD J J<|sy (io J J) J<|zE<|?_
  refine fi J (fun hc2=>?_) (fun hc2=>?_) -- slot 34
  ·refine dz<|sm J J<|sm J J<|sm J J<|sy (gt hy J J (by omega) (by omega)) J<|sy (gn hy J (by omega)) J<|sy (fB J (by omega) (by rw[aM];omega)) J<|?_
   rw[aM];refine sy (pP J J) J<|sa J J<|zE<|?_;exact o6 () trivial (.cons J (.cons J (.cons J (.cons J (.cons (by rw[sQ,sQ];rfl) (.cons J (.cons J (.cons J .nil)))))))) J
  refine zK<|?_;have h0:b.getD k 0=0:=B4 (by omega);exact o6 () trivial (.cons J (.cons J (.cons J (.cons J (.cons (by rw[h0,eJ,sQ];rfl) (.cons J (.cons J (.cons J .nil)))))))) J
 rintro _ Gz _ _;generalize hcc:c+a.getD k 0+b.getD k 0=cc;have hcb:cc/4294967296<=1:=by rw[<-hcc];exact Zr hga hgb hc1
 refine sR<|sm J J<|sm J J<|sm J J<|sy (jj J) J<|sy (ew J J (by omega) (by omega)) J<|?_;rw[aM];refine sc (kz (d:=cc%4294967296) J J (by omega) (.hd ..) (by omega) J ?_);refine zE<|dz<|sm J J<|sy (kD J J (by decide)) J<|sa J J<|zE<|dz<|sy (dx J J) J<|sm J J<|zE<|?_;have hsh:((cc:Int).fdiv (2^min (32:Int).toNat IntKind.u64.bits))=((cc/4294967296:Nat):Int):=by
  have:(2^min (32:Int).toNat IntKind.u64.bits:Int)=4294967296:=by decide
  rw[this,gS _ (by omega)];rfl
 rw[hsh];refine iG ⟨ws.set k (cc%4294967296),k+1,cc/4294967296⟩ ⟨by show k+1<=_;omega,by simp[hwl],hwo.set _ (by omega),hcb,?_⟩ (by show a.length-(k+1)<a.length-k;omega) (.cons J (.cons J (.cons J (.cons J (.cons J (.cons J (.cons J .nil))))))) J;show dv ((ws.set k (cc%4294967296)).take (k+1))+4294967296^(k+1)*(cc/4294967296)=dv (a.take (k+1))+dv (b.take (k+1));rw[oo (by omega),ij a,ij b,<-hcc,fS];exact MW hinv
structure X' where
 ws:List Nat
 k:Nat
 c:Nat
def J7(p:Int)(h0:0<=p):p.fdiv (2^min (63:Int).toNat IntKind.u64.bits)=p/9223372036854775808:=by
 have:(2^min (63:Int).toNat IntKind.u64.bits:Int)=9223372036854775808:=by decide
 rw[this,gS _ (by omega)]
def Ns(p:Nat):((p:Int).fdiv (2^min (32:Int).toNat IntKind.u64.bits))=((p/4294967296:Nat):Int):=by
 have:(2^min (32:Int).toNat IntKind.u64.bits:Int)=4294967296:=by decide
 rw[this,gS _ (by omega)];rfl
def Si{A B G:Gh}{x y:SV}{a b:List Nat}{kk:Nat}(hx:ce A x a)(hy:ce B y b)[GL A G][GL B G](hle:b.length<=a.length)(hge:dv b<=dv a)(hk:dv a<2^kk)(hba:a.length<=1125899906842):
  Fn prog 387 [x.v,y.v] G (fun v G'=> ∃z:SV,v=z.v/\ey kk G' z (dv a-dv b)):=by
 have hlen:=hx.len;have hlen2:=hy.len;refine Fn.intro func387 J J ntmps387 J ?_;intro C _ _;refine sR<|sa J J<|zE<|sR<|sm J J<|cD J J<|?_;refine sc (rk J J (by omega) (by omega) (by omega) (by rfl) J ?_);intro b1;rw[sd,show(x.n:Int).toNat=a.length by omega];refine sa J J<|zE<|sR<|sa J J<|zE<|bt<|sR<|sm J J<|cD J J<|sm J J<|zE<|dE<|?_;refine kj (X:=X') (fun q=>[(16, .int .i64 q.k),(15, .int .i64 x.n),(14, .slice x.a x.n x.c),(6, .int .u64 q.c),(1, .slice y.a y.n y.c),(5, .slice (some ⟨b1,0,none⟩) a.length a.length)])
  (fun q=>[⟨b1,q.ws.map dI,366,true⟩])
  (fun q _=>q.k<=a.length/\q.ws.length=a.length/\bu q.ws/\q.c<=1/\dv (q.ws.take q.k)+dv (b.take q.k)=dv (a.take q.k)+4294967296^q.k*q.c) (fun q=>a.length-q.k) ⟨List.replicate a.length 0,0,0⟩
  ⟨bL _,by simp, .replicate _,bL _,by simp[dv]⟩ (.cons J (.cons J (.cons J (.cons J (.cons J (.cons J .nil)))))) J ?_
 rintro ⟨ws,k,c⟩ Gy _ ⟨hka,hwl,hwo,hc1,hinv⟩;simp only[] at hka hwl hwo hc1 hinv⊢;refine sR<|sy (io J J) J<|zE<|bt<|?_;refine ki J (fun hc=>?_) (fun hc=>?_) -- slot 17
 ·have hkn:k=a.length:=by omega
  refine iE<|d6<|d6<|iC<|sR<|sm J J<|?_;refine pd b1 (.hd ..) (fun G1 _ hgb=>?_);have hD:ce G1 ⟨some ⟨b1,0,none⟩,a.length,a.length⟩ ws:= .of_block hwo hgb.h hwl.symm (aL _) (by rw[bQ (by simp)]);have hdv:dv ws=dv a-dv b:=by
   rw[hkn,bQ (by omega),bQ hle,bQ (aL _)] at hinv;have h2:=iw hwo;rw[hwl] at h2;rcases fY c with h0|h0
   ·subst h0;omega
   ·have:c=1:=by omega
    subst this;omega
  refine sc (zC J J (iq hD (by omega)) J ?_);rintro _ G2 _ rfl;refine sa J J<|zE<|cG<|?_;refine zD (.tmp J .nil) ⟨⟨some ⟨b1,0,none⟩,(trimD ws).length,a.length⟩,J,?_⟩;have h3:=hD.trim.up (G:=G2);rw[<-hdv];exact⟨by rw[oH hwo];exact h3,by omega⟩
 have hka':k<a.length:=by omega
 have hga:=hx.ok.get k;have hgb:=hy.ok.get k;refine zK<|bt<|dE<|sR<|sm J J<|sy (gt hx J J (by omega) (by omega)) J<|sy (gn hx J (by omega)) J<|sa J J<|sa J J<|zE<|bt<|?_;rw[aM];refine dz<|sm J J<|sa J J<|zE<|?_;refine xh Unit (fun _=>[(16, .int .i64 k),(7, .int .i64 k),(15, .int .i64 x.n),(14, .slice x.a x.n x.c),(8, .int .u32 ((a.getD k 0:Nat):Int)),(9, .int .u64 ((c+b.getD k 0:Nat):Int)),(1, .slice y.a y.n y.c),(5, .slice (some ⟨b1,0,none⟩) a.length a.length)]) (fun _=>[⟨b1,ws.map dI,366,true⟩]) (fun _ _=>True) ?_ ?_
 ·refine sR<|sm J J<|sm J J<|cD J J<|sy (io J J) J<|zE<|?_
  refine fi J (fun hc2=>?_) (fun hc2=>?_) -- slot 25
  ·refine dz<|sm J J<|sm J J<|sm J J<|sy (gt hy J J (by omega) (by omega)) J<|sy (gn hy J (by omega)) J<|sy (fB J (by omega) (by rw[aM];omega)) J<|?_
   rw[aM];refine sy (pP J J) J<|sa J J<|zE<|?_;exact o6 () trivial (.cons J (.cons J (.cons J (.cons J (.cons J (.cons (by rw[sQ];rfl) (.cons J (.cons J .nil)))))))) J
  refine zK<|?_;have h0:b.getD k 0=0:=B4 (by omega);exact o6 () trivial (.cons J (.cons J (.cons J (.cons J (.cons J (.cons (by rw[h0,eJ];rfl) (.cons J (.cons J .nil)))))))) J
 rintro _ Gz _ _;generalize htt:c+b.getD k 0=tt;have htb:tt<=4294967296:=by omega
 refine sR<|sm J J<|sy (fB J) J<|sm J J<|sy (tG J J) J<|sa J J<|zE<|sR<|sm J J<|sm J J<|sm J J<|?_;rw[lz];refine sy (jj J) J<|sy (ew J J (by omega) (by omega)) J<|?_;rw[aM];by_cases hno:tt<=a.getD k 0
 ·refine sc (kz (d:=a.getD k 0-tt) J J (by omega) (.hd ..) (by omega) J ?_)
  refine zE<|dz<|sm J J<|sy (kD J J (by decide)) J<|sa J J<|zE<|dz<|sy (dx J J) J<|sm J J<|zE<|?_;rw[J7 _ (by omega),show(((a.getD k 0:Nat):Int)-(tt:Int))%18446744073709551616/9223372036854775808=((0:Nat):Int) by omega];refine iG ⟨ws.set k (a.getD k 0-tt),k+1,0⟩ ⟨by show k+1<=_;omega,by simp[hwl],hwo.set _ (by omega),bL _,?_⟩ (by show a.length-(k+1)<a.length-k;omega) (.cons J (.cons J (.cons J (.cons J (.cons J (.cons J .nil)))))) J;show dv ((ws.set k (a.getD k 0-tt)).take (k+1))+dv (b.take (k+1))=dv (a.take (k+1))+4294967296^(k+1)*0;rw[oo (by omega),ij a,ij b,<-htt,fS];exact KT hinv (by omega)
 ·refine sc (kz (d:=a.getD k 0+4294967296-tt) J J (by omega) (.hd ..) (by omega) J ?_)
  refine zE<|dz<|sm J J<|sy (kD J J (by decide)) J<|sa J J<|zE<|dz<|sy (dx J J) J<|sm J J<|zE<|?_;rw[J7 _ (by omega),show(((a.getD k 0:Nat):Int)-(tt:Int))%18446744073709551616/9223372036854775808=((1:Nat):Int) by omega];refine iG ⟨ws.set k (a.getD k 0+4294967296-tt),k+1,1⟩ ⟨by show k+1<=_;omega,by simp[hwl],hwo.set _ (by omega),aL _,?_⟩ (by show a.length-(k+1)<a.length-k;omega) (.cons J (.cons J (.cons J (.cons J (.cons J (.cons J .nil)))))) J;show dv ((ws.set k (a.getD k 0+4294967296-tt)).take (k+1))+dv (b.take (k+1))=dv (a.take (k+1))+4294967296^(k+1)*1;rw[oo (by omega),ij a,ij b,<-htt,fS];exact NG hinv (by omega) (by omega)
def Xj{A B G:Gh}{x y:SV}{ds es:List Nat}{kk:Nat}(hx:ce A x ds)(hy:ce B y es)[GL A G][GL B G](hk:dv ds<2^kk)(hb:ds.length<=1125899906842)(hb2:es.length<=1125899906842):
  Fn prog 363 [x.v,y.v] G (fun v G'=> ∃z:SV,v= .tuple #[z.v, .bool (decide (dv es<=dv ds))]/\ey kk G' z (dv ds-dv es)):=by
 refine Fn.intro func363 J J ntmps363 J ?_;intro C _ _;refine sR<|sa J J<|sa J J<|zE<|bt<|sR<|sm J J<|sm J J<|?_;refine sc (zC J J (NJ hx hy (by omega) (by omega)) J ?_);rintro _ G1 _ rfl;refine sy (io J J) J<|zE<|?_;refine fi J (fun hc=>?_) (fun hc=>?_) -- slot 9
 ·have hlt:dv ds<dv es:=by
   unfold fD at hc;split at hc
   ·assumption
   ·split at hc<;>omega
  refine sR<|sa J J<|sa J J<|zE<|cG<|?_;refine zD (.tmp J (.tmp J .nil)) ⟨⟨none,0,0⟩,?_,?_⟩
  ·have: ¬dv es<=dv ds:=by omega
   simp[f9,SV.v,this]
  ·rw[Nat.sub_eq_zero_of_le (by omega)]
   exact⟨by unfold dg;exact .nil _,fX (by omega)⟩
 have hge:dv es<=dv ds:=by
  unfold fD at hc;split at hc
  ·omega
  ·omega
 have htl:=lE ds;have htl2:=lE es;refine zK<|sR<|sm J J<|?_;refine sc (zC J J (iq hx (by omega)) J ?_);rintro _ G2 _ rfl;refine sm J J<|?_;refine sc (zC J J (iq hy (by omega)) J ?_);rintro _ G3 _ rfl;have hl:(trimD es).length<=(trimD ds).length:=by
  rcases iW (trimD ds).length (trimD es).length with h|h
  ·have:=qG hx.ok.trimD (dO.trimD es) h
   rw[iO,iO] at this;omega
  ·exact h
 refine sc (zC J J (Si (kk:=kk) hx.trim hy.trim hl (by rw[iO,iO];exact hge) (by rw[iO];exact hk) (by omega)) J ?_);rintro _ G4 _ ⟨z,rfl,hz⟩;refine sa J J<|sa J J<|zE<|cG<|?_;refine zD (.tmp J (.tmp J .nil)) ⟨z,by simp[f9,hge],?_⟩;rw[iO,iO] at hz;exact hz
structure VV where
 ws:List Nat
 i:Nat
structure TO where
 ws:List Nat
 k:Nat
 c:Nat
def WY{x y w c:Nat}(hx:x<4294967296)(hy:y<4294967296)(hw:w<4294967296)(hc:c<4294967296):c+x*y+w<18446744073709551616:=by
 have:x*y<=4294967295*4294967295:=kQ (by omega) (by omega);omega
def Ad{ws:List Nat}{i j d:Nat}(h:i≠j):(ws.set i d).getD j 0=ws.getD j 0:=by
 rw[aK,aK,List.getElem?_set_ne h]
def Qm{A B G:Gh}{x y:SV}{ds es:List Nat}{kk:Nat}(hx:ce A x ds)(hy:ce B y es)[GL A G][GL B G](hk:dv ds*dv es<2^kk)(hb:ds.length<=562949953421)(hb2:es.length<=562949953421):
  Fn prog 302 [x.v,y.v] G (fun v G'=> ∃z:SV,v=z.v/\ey kk G' z (dv ds*dv es)):=by
 have htl:=lE ds;have htl2:=lE es;have hcall:=fun G1 (_:GL A G1)=>iq (G:=G1) hx (by omega);have hcall2:=fun G1 (_:GL B G1)=>iq (G:=G1) hy (by omega);have hxt:=hx.trim;have hyt:=hy.trim;rw[<-iO ds,<-iO es] at hk⊢;generalize trimD ds=a at*;generalize trimD es=b at*;have hok:=hxt.ok;have hok2:=hyt.ok;refine Fn.intro func302 J J ntmps302 J ?_;intro C _ _;refine sR<|sa J J<|zE<|sR<|sm J J<|?_;refine sc (zC J J (hcall _ inferInstance) J ?_);rintro _ G1 _ rfl;refine sm J J<|?_;refine sc (zC J J (hcall2 _ inferInstance) J ?_);rintro _ G2 _ rfl;refine sa J J<|sa J J<|zE<|sR<|sm J J<|cD J J<|sm J J<|cD J J<|sy (dx J J) J<|?_;refine sc (rk J J (by omega) (by omega) (by omega) (by rfl) J ?_);intro b3;rw[sd,show((a.length:Int)+(b.length:Int)).toNat=a.length+b.length by omega];refine sa J J<|zE<|bt<|sR<|sm J J<|cD J J<|sm J J<|zE<|dE<|?_;refine kj (X:=VV) (fun q=>[(23, .int .i64 q.i),(22, .int .i64 a.length),(21, .slice x.a a.length x.c),(1, .slice y.a b.length y.c),(5, .slice (some ⟨b3,0,none⟩) (a.length+b.length) (a.length+b.length))])
  (fun q=>[⟨b3,q.ws.map dI,366,true⟩])
  (fun q _=>q.i<=a.length/\q.ws.length=a.length+b.length/\bu q.ws/\(∀j,q.i+b.length<=j->q.ws.getD j 0=0)/\dv q.ws=dv (a.take q.i)*dv b) (fun q=>a.length-q.i) ⟨List.replicate (a.length+b.length) 0,0⟩
  ⟨bL _,by simp, .replicate _,fun j _=>FA _ _,by simp[dv,vU]⟩ (.cons J (.cons J (.cons J (.cons J (.cons J .nil))))) J ?_
 rintro ⟨ws,i⟩ Gy _ ⟨hia,hwl,hwo,hz,hinv⟩;simp only[] at hia hwl hwo hz hinv⊢;refine sR<|sy (io J J) J<|zE<|bt<|?_;refine ki J (fun hc=>?_) (fun hc=>?_) -- slot 24
 ·have hin:i=a.length:=by omega
  refine iE<|d6<|d6<|iC<|sR<|sm J J<|?_;refine pd b3 (.hd ..) (fun G3 _ hgb=>?_);have hD:ce G3 ⟨some ⟨b3,0,none⟩,a.length+b.length,a.length+b.length⟩ ws:= .of_block hwo hgb.h hwl.symm (aL _) (by rw[bQ (by simp)]);have hdv:dv ws=dv a*dv b:=by rw[hinv,hin,bQ (aL _)]
  refine sc (zC J J (iq hD (by omega)) J ?_);rintro _ G4 _ rfl;refine sa J J<|zE<|cG<|?_;refine zD (.tmp J .nil) ⟨⟨some ⟨b3,0,none⟩,(trimD ws).length,a.length+b.length⟩,J,?_⟩;have h3:=hD.trim.up (G:=G4);rw[<-hdv] at hk⊢;exact⟨by rw[oH hwo];exact h3,hk⟩
 have hia':i<a.length:=by omega
 have hga:=hok.get i;refine zK<|bt<|dE<|sR<|sm J J<|sy (gt (z:=⟨x.a,a.length,x.c⟩) hxt J J (by omega) (by show(i:Int)<(a.length:Nat);omega)) J<|sy (gn hxt J (by omega)) J<|sa J J<|sa J J<|zE<|bt<|?_;rw[aM];refine dz<|sa J J<|zE<|bt<|sR<|sm J J<|cD J J<|sm J J<|zE<|dE<|?_;refine kj (X:=TO) (fun q=>[(30, .int .i64 q.k),(29, .int .i64 b.length),(28, .slice y.a b.length y.c),(8, .int .u64 q.c),(7, .int .u32 ((a.getD i 0:Nat):Int)),(5, .slice (some ⟨b3,0,none⟩) (a.length+b.length) (a.length+b.length)),(6, .int .i64 i),(23, .int .i64 i),(22, .int .i64 a.length),(21, .slice x.a a.length x.c),(1, .slice y.a b.length y.c)])
  (fun q=>[⟨b3,q.ws.map dI,366,true⟩])
  (fun q _=>q.k<=b.length/\q.ws.length=a.length+b.length/\bu q.ws/\q.c<4294967296/\(∀j,i+b.length<=j->q.ws.getD j 0=0)/\dv q.ws+4294967296^(i+q.k)*q.c=dv (a.take i)*dv b+4294967296^i*(a.getD i 0*dv (b.take q.k))) (fun q=>b.length-q.k) ⟨ws,0,0⟩
  ⟨bL _,hwl,hwo,Nat.zero_lt_succ _,hz,by simp[dv,hinv]⟩ (.cons J (.cons J (.cons J (.cons J (.cons J (.cons J (.cons J (.cons J (.cons J (.cons J (.cons J .nil))))))))))) J ?_
 clear hz hwl hwo hinv ws;rintro ⟨ws,k,c⟩ Gz _ ⟨hkb,hwl,hwo,hcc,hz,hinv⟩;simp only[] at hkb hwl hwo hcc hz hinv⊢;refine sR<|sy (io J J) J<|zE<|bt<|?_;refine ki J (fun hc2=>?_) (fun hc2=>?_) -- slot 31
 ·have hkn:k=b.length:=by omega
  have e1:((i:Int)+(b.length:Int)).toNat=i+b.length:=by omega
  refine iE<|d6<|d6<|iC<|dz<|sm J J<|sm J J<|sm J J<|cD J J<|sy (dx J J) J<|sm J J<|sy (jj J) J<|?_;refine sy (ew J J (by omega) (by omega)) J<|?_;rw[e1];refine sc (kz (d:=c) J J (by omega) (.hd ..) (by omega) J ?_);refine zE<|dz<|sy (dx J J) J<|sm J J<|zE<|?_;refine iG ⟨ws.set (i+b.length) c,i+1⟩ ⟨by show i+1<=_;omega,by simp[hwl],hwo.set _ hcc,fun j hj=>?_,?_⟩ (by show a.length-(i+1)<a.length-i;omega) (.cons J (.cons J (.cons J (.cons J (.cons J .nil))))) J
  ·have hj':i+1+b.length<=j:=hj
   show(ws.set (i+b.length) c).getD j 0=0;rw[Ad (by omega)];exact hz j (by omega)
  ·show dv (ws.set (i+b.length) c)=dv (a.take (i+1))*dv b
   have h1:=o8 ws (i+b.length) c (by omega);rw[hz (i+b.length) (aL _),pZ,eJ] at h1;rw[h1,<-hkn,hinv,hkn,bQ (aL _),ij,cY,bS]
 have hkb':k<b.length:=by omega
 have hgb:=hok2.get k;have hgw:=hwo.get (i+k);have hm:=WY hga hgb hgw hcc;have e1:((i:Int)+(k:Int)).toNat=i+k:=by omega
 have e2:((a.getD i 0:Nat):Int)*((b.getD k 0:Nat):Int)=((a.getD i 0*b.getD k 0:Nat):Int):=by rw[iR]
 refine zK<|bt<|dE<|sR<|sm J J<|sy (gt (z:=⟨y.a,b.length,y.c⟩) hyt J J (by omega) (by show(k:Int)<(b.length:Nat);omega)) J<|sy (gn hyt J (by omega)) J<|sa J J<|sa J J<|zE<|bt<|?_;rw[aM];refine dz<|sm J J<|sm J J<|sy (fB J) J<|sm J J<|sy (fB J) J<|sy (HZ J J (by rw[e2];omega) (by rw[e2];omega)) J<|?_;rw[e2];refine sm J J<|sm J J<|sm J J<|sy (dx J J) J<|sy (ew J J (by omega) (by omega)) J<|?_;rw[e1];refine sy (qc J (by omega)) J<|sy (fB J) J<|?_;refine sy (pP J J) J<|sy (pP J J) J<|sa J J<|zE<|sR<|sm J J<|sm J J<|sm J J<|?_;rw[show(c:Int)+(((a.getD i 0*b.getD k 0:Nat):Int)+((ws.getD (i+k) 0:Nat):Int))=((c+a.getD i 0*b.getD k 0+ws.getD (i+k) 0:Nat):Int) by omega];generalize hcc2:c+a.getD i 0*b.getD k 0+ws.getD (i+k) 0=cc;rw[hcc2] at hm;refine sy (dx J J) J<|sm J J<|sy (jj J) J<|sy (ew J J (by omega) (by omega)) J<|?_;rw[e1];refine sc (kz (d:=cc%4294967296) J J (by omega) (.hd ..) (by omega) J ?_);refine zE<|dz<|sm J J<|sy (kD J J (by decide)) J<|sa J J<|zE<|dz<|sy (dx J J) J<|sm J J<|zE<|?_;rw[Ns];refine iG ⟨ws.set (i+k) (cc%4294967296),k+1,cc/4294967296⟩ ⟨by show k+1<=_;omega,by simp[hwl],hwo.set _ (by omega),by show cc/4294967296<_;omega,fun j hj=>?_,?_⟩ (by show b.length-(k+1)<b.length-k;omega) (.cons J (.cons J (.cons J (.cons J (.cons J (.cons J (.cons J (.cons J (.cons J (.cons J (.cons J .nil))))))))))) J
 ·show(ws.set (i+k) (cc%4294967296)).getD j 0=0
  rw[Ad (by omega)];exact hz j hj
 ·show dv (ws.set (i+k) (cc%4294967296))+4294967296^(i+(k+1))*(cc/4294967296)=dv (a.take i)*dv b+4294967296^i*(a.getD i 0*dv (b.take (k+1)))
  have h1:=o8 ws (i+k) (cc%4294967296) (by omega);rw[<-hcc2] at h1⊢;have h2:=Np h1 hinv;rw[<-kW,fS,h2,ij,dZ,dZ,fW];have:4294967296^i*(a.getD i 0*(4294967296^k*b.getD k 0))=4294967296^i*4294967296^k*(a.getD i 0*b.getD k 0):=by
   rw[kS (a.getD i 0),<-bS]
  rw[this,kW]
def EK{P:Program}{t:TypeId}(a b k:Nat)(ha:a<2^k)(h:a+b*2^k<18446744073709551616)(w:World):(binOp .or t (.int .u64 ((b*2^k:Nat):Int)) (.int .u64 (a:Int))).run P w= .ok (.int .u64 ((a+b*2^k:Nat):Int)) w:=by
 have h1:(BitVec.ofInt 64 ((b*2^k:Nat):Int) ||| BitVec.ofInt 64 (a:Int)).toNat=a+b*2^k:=by
  rw[BitVec.toNat_or,BitVec.ofInt_natCast,BitVec.ofInt_natCast,BitVec.toNat_ofNat,BitVec.toNat_ofNat,fR (by omega),fR (by omega)];rw[<-lW,<-lU ha,lW];omega
 have h2:IntKind.u64.wrap ((a+b*2^k:Nat):Int)=((a+b*2^k:Nat):Int):=by rw[lz];omega
 simp only[binOp];show(Op.intBits .or .u64 ((b*2^k:Nat):Int) (a:Int)).run P w=_;unfold Op.intBits;show(pure (Value.int .u64 (IntKind.u64.wrap ((BitVec.ofInt 64 ((b*2^k:Nat):Int) ||| BitVec.ofInt 64 (a:Int)).toNat:Int))):Sem Value).run P w=_;rw[h1,h2,run_pure]
def Rv{P:Program}{t:TypeId}(a b k:Nat)(ha:a<2^k)(h:a+b*2^k<4294967296)(w:World):(binOp .or t (.int .u32 (a:Int)) (.int .u32 ((b*2^k:Nat):Int))).run P w= .ok (.int .u32 ((a+b*2^k:Nat):Int)) w:=by
 have h1:(BitVec.ofInt 32 (a:Int) ||| BitVec.ofInt 32 ((b*2^k:Nat):Int)).toNat=a+b*2^k:=by
  rw[BitVec.toNat_or,BitVec.ofInt_natCast,BitVec.ofInt_natCast,BitVec.toNat_ofNat,BitVec.toNat_ofNat,fR (by omega),fR (by omega)];rw[<-lW,Nat.or_comm,<-lU ha,lW];omega
 have h2:IntKind.u32.wrap ((a+b*2^k:Nat):Int)=((a+b*2^k:Nat):Int):=by rw[oE];omega
 simp only[binOp];show(Op.intBits .or .u32 (a:Int) ((b*2^k:Nat):Int)).run P w=_;unfold Op.intBits;show(pure (Value.int .u32 (IntKind.u32.wrap ((BitVec.ofInt 32 (a:Int) ||| BitVec.ofInt 32 ((b*2^k:Nat):Int)).toNat:Int))):Sem Value).run P w=_;rw[h1,h2,run_pure]
def qb(d k:Nat)(hk:k<64)(h:d*2^k<18446744073709551616){q:Int}(hq:q.toNat=k):IntKind.u64.wrap ((d:Int)*2^min q.toNat IntKind.u64.bits)=((d*2^k:Nat):Int):=by
 rw[hq,fN (by show k<=64;omega),lz];have e2:(d:Int)*2^k=((d*2^k:Nat):Int):=by push_cast;rfl
 rw[e2];omega
def qP(d k:Nat)(hk:k<64){q:Int}(hq:q.toNat=k):(d:Int).fdiv (2^min q.toNat IntKind.u64.bits)=((d/2^k:Nat):Int):=by
 rw[hq,fN (by show k<=64;omega),gS _ (pK (Int.pow_pos (by decide)))];push_cast;rfl
def I6(q:Nat)(h:q<4294967296):(q:Int)%4294967296=q:=by omega
structure Yh where
 ws:List Nat
 k:Nat
 r:Nat
def Z4{A G:Gh}{x:SV}{a:List Nat}{d kk:Nat}(hx:ce A x a)[GL A G](hd0:0<d)(hd:d<4294967296)(hk:dv a/d<2^kk)(hb:a.length<=1125899906842):
  Fn prog 368 [x.v, .int .u32 (d:Int)] G (fun v G'=> ∃z:SV,v= .tuple #[z.v, .int .u32 ((dv a%d:Nat):Int)]/\ey kk G' z (dv a/d)):=by
 have hlen:=hx.len;refine Fn.intro func368 J J ntmps368 J ?_;intro C _ _;refine sR<|sa J J<|sa J J<|zE<|sR<|sm J J<|cD J J<|?_;refine sc (rk J J (by omega) (by omega) (by omega) (by rfl) J ?_);intro b1;rw[sd,show(x.n:Int).toNat=a.length by omega];refine sa J J<|zE<|sR<|sa J J<|zE<|bt<|sR<|sm J J<|cD J J<|sy (ja J J) J<|?_;refine sa J J<|zE<|dE<|?_;refine kj (X:=Yh) (fun q=>[(8, .int .i64 (q.k-1)),(7, .int .u64 q.r),(0, .slice x.a x.n x.c),(6, .slice (some ⟨b1,0,none⟩) a.length a.length),(1, .int .u32 d)])
  (fun q=>[⟨b1,q.ws.map dI,366,true⟩])
  (fun q _=>q.k<=a.length/\q.ws.length=a.length/\bu q.ws/\q.r<d/\dv (a.drop q.k)=d*dv (q.ws.drop q.k)+q.r) (fun q=>q.k) ⟨List.replicate a.length 0,a.length,0⟩
  ⟨aL _,by simp, .replicate _,hd0,by simp[dv]⟩ (.cons (by rw[hlen];rfl) (.cons J (.cons J (.cons J (.cons J .nil))))) J ?_
 rintro ⟨ws,k,r⟩ Gy _ ⟨hka,hwl,hwo,hr,hinv⟩;simp only[] at hka hwl hwo hr hinv⊢;refine bt<|sR<|sm J J<|sy (sH J J) J<|zE<|?_;refine ki J (fun hc=>?_) (fun hc=>?_) -- slot 17
 ·have hk0:k=0:=by omega
  refine iE<|d6<|d6<|iC<|sR<|sm J J<|?_;refine pd b1 (.hd ..) (fun G1 _ hgb=>?_);have hD:ce G1 ⟨some ⟨b1,0,none⟩,a.length,a.length⟩ ws:= .of_block hwo hgb.h hwl.symm (aL _) (by rw[bQ (by simp)]);subst hk0;simp only[iM] at hinv;have hdv:dv a/d=dv ws:=by rw[hinv,Nat.mul_add_div hd0,jU hr,eJ]
  have hdm:dv a%d=r:=by rw[hinv,Nat.mul_add_mod,fR hr]
  refine sc (zC J J (iq hD (by omega)) J ?_);rintro _ G2 _ rfl;refine sm J J<|sy (jj J) J<|sa J J<|sa J J<|zE<|cG<|?_;refine zD (.tmp J (.tmp J .nil)) ⟨⟨some ⟨b1,0,none⟩,(trimD ws).length,a.length⟩,?_,?_⟩
  ·rw[hdm,show(r:Int)%4294967296=r by omega];rfl
  have h3:=hD.trim.up (G:=G2);exact⟨by rw[hdv,oH hwo];exact h3,hk⟩
 have hk1:0<k:=by omega
 have hkt:((k:Int)-1).toNat=k-1:=by omega
 have hga:=hx.ok.get (k-1);have hv:a.getD (k-1) 0+r*2^32<d*4294967296:=by
  have:(r+1)*4294967296<=d*4294967296:=bK _ hr;rw[cY] at this;omega
 have hv2:a.getD (k-1) 0+r*2^32<18446744073709551616:=by omega
 refine zK<|bt<|dE<|sR<|sm J J<|sy (ux J J (by decide)) J<|sm J J<|sm J J<|sy (gt hx J J (by omega) (by omega)) J<|?_;rw[qb r 32 (by decide) (by omega) J];refine sy (gn hx J (by omega)) J<|sy (fB J (by omega) (by rw[hkt];omega)) J<|?_;rw[hkt];refine sy (gA J J (EK (a.getD (k-1) 0) r 32 (by omega) hv2)) J<|?_;generalize hvv:a.getD (k-1) 0+r*2^32=vv at*;have hq:vv/d<4294967296:=rM hv;have hrr:=dT vv hd0;refine sa J J<|zE<|sR<|sm J J<|sm J J<|sm J J<|sm J J<|?_;refine sy (fB J) J<|sy (wW J J (by omega) (by omega) (by omega)) J<|sy (jj J) J<|sy (ew J J (by omega) (by omega)) J<|?_;rw[hkt];have e1:(vv:Int)/(d:Int)%4294967296=((vv/d:Nat):Int):=by
  have e0:(vv:Int)/(d:Int)=((vv/d:Nat):Int):=(pV vv d).symm;rw[e0];exact I6 _ hq
 refine sc (kz (d:=vv/d) J J e1 (.hd ..) (by omega) J ?_);refine zE<|dz<|sm J J<|sm J J<|sy (fB J) J<|sy (vi J J (by omega) (by omega)) J<|sa J J<|zE<|dz<|sm J J<|?_;refine sy (ja J J) J<|sa J J<|zE<|?_;refine iG ⟨ws.set (k-1) (vv/d),k-1,vv%d⟩ ⟨by show k-1<=_;omega,by simp[hwl],hwo.set _ hq,hrr,?_⟩ (by show k-1<k;omega) (.cons (by rw[show((k-1:Nat):Int)=(k:Int)-1 by omega];rfl) (.cons (by rw[nN];rfl) (.cons J (.cons J (.cons J .nil))))) J;show dv (a.drop (k-1))=d*dv ((ws.set (k-1) (vv/d)).drop (k-1))+vv%d;have hk2:k-1+1=k:=by omega
 rw[cJ (by omega:k-1<a.length),cJ (by simp;omega:k-1<(ws.set (k-1) (vv/d)).length),hk2,List.getElem_set_self,pR (by omega)];have e3:a[k-1]'(by omega)=a.getD (k-1) 0:=by rw[aK,aX (by omega)];rfl
 simp only[dv,e3,hinv];have h1:=qX vv d;have h2:d*(vv/d+4294967296*dv (ws.drop k))=d*(vv/d)+4294967296*(d*dv (ws.drop k)):=by rw[dZ,kS]
 rw[h2,dZ];omega
section
variable {P:Program} {C:aD} {n:Nat} {fr:Fr} {own:List aj} {G:Gh} {dst:Option Nat} {t t1 t2 ty':TypeId} {pos:String} {af:Array Edge} {gd:Option (Nat×Bool)} {x y:Operand}
def XN{k:IntKind}{p q:Int}(hx:av fr x=some (.int k p))(hy:av fr y=some (.int k q)):
  Yd P C fr own G ⟨dst, .call ⟨.builtin .min, #[x,y], #[t1,t2]⟩,ty',pos,af,gd⟩ (.int k (if q<p then q else p)):=by
 intro a w hf hh;simp only[execOp,resolve,gV,bW,dR,bh hf hx,bh hf hy];have h1:(Builtin.min_ #[t1,t2] ty' #[.int k p, .int k q]).run P w= .ok (.int k (if q<p then q else p)) w:=by
  simp[Builtin.min_,Builtin.min2,run_pure]
 exact cx h1
end
structure K2 where
 ws:List Nat
 i:Nat
def Mb{A G:Gh}{x:SV}{ds:List Nat}{k kk:Nat}(hx:ce A x ds)[GL A G](hk32:k<32)(hk:dv ds*2^k<2^kk)(hb:ds.length<=1125899906842):
  Fn prog 389 [x.v, .int .u64 (k:Int)] G (fun v G'=> ∃z:SV,v=z.v/\ey kk G' z (dv ds*2^k)/\z.c<=(trimD ds).length+1):=by
 have htl:=lE ds;have hcall:=fun G1 (_:GL A G1)=>iq (G:=G1) hx (by omega);have hxt:=hx.trim;rw[<-iO ds] at hk⊢;generalize trimD ds=a at*;have hok:=hxt.ok;refine Fn.intro func389 J J ntmps389 J ?_;intro C _ _;refine sR<|sa J J<|zE<|sR<|sm J J<|?_;refine sc (zC J J (hcall _ inferInstance) J ?_);rintro _ G1 _ rfl;refine sm J J<|sy (XN J J) J<|?_;rw[if_neg (by omega: ¬(1048576:Int)<(k:Int))];refine sa J J<|sa J J<|zE<|bt<|sR<|sm J J<|cD J J<|sy (gE J J) J<|zE<|?_;refine fi J (fun hc=>?_) (fun hc=>?_) -- slot 17
 ·refine sR<|sa J J<|zE<|cG<|?_
  have:a=[]:=bU (by omega);subst this;refine zD (.tmp J .nil) ⟨⟨none,0,0⟩,J,?_⟩;have e0:dv []*2^k=0:=by simp[dv]
  rw[e0];exact⟨⟨by unfold dg;exact .nil _,fX (by omega)⟩,bL _⟩
 refine zK<|sR<|sm J J<|sy (wW J J (by omega) (by omega) (by decide)) J<|sy (Jm J) J<|sm J J<|sy (vi J J (by omega) (by decide)) J<|?_;rw[show(k:Int)/32=0 by omega,show(k:Int)%32=k by omega];refine sa J J<|sa J J<|zE<|sR<|sm J J<|cD J J<|sm J J<|sy (dx J J) J<|sy (dx J J) J<|?_;refine sc (rk J J (by omega) (by omega) (by omega) (by rfl) J ?_);intro b2;rw[sd,show((a.length:Int)+0+1).toNat=a.length+1 by omega];refine sa J J<|zE<|bt<|sR<|sm J J<|cD J J<|sm J J<|zE<|dE<|?_;refine kj (X:=K2) (fun q=>[(31, .int .i64 q.i),(30, .int .i64 a.length),(29, .slice x.a a.length x.c),(6, .int .u64 k),(7, .slice (some ⟨b2,0,none⟩) (a.length+1) (a.length+1)),(5, .int .i64 0)])
  (fun q=>[⟨b2,q.ws.map dI,366,true⟩])
  (fun q _=>q.i<=a.length/\q.ws.length=a.length+1/\bu q.ws/\(∀j,q.i<j->q.ws.getD j 0=0)/\q.ws.getD q.i 0<2^k/\dv q.ws=dv (a.take q.i)*2^k) (fun q=>a.length-q.i) ⟨List.replicate (a.length+1) 0,0⟩
  ⟨bL _,by simp, .replicate _,fun j _=>FA _ _,by rw[FA];exact fX (by omega),by simp[dv,vU]⟩ (.cons J (.cons J (.cons J (.cons J (.cons J (.cons J .nil)))))) J ?_
 rintro ⟨ws,i⟩ Gy _ ⟨hia,hwl,hwo,hz,hwi,hinv⟩;simp only[] at hia hwl hwo hz hwi hinv⊢;refine sR<|sy (io J J) J<|zE<|bt<|?_;refine ki J (fun hc=>?_) (fun hc=>?_) -- slot 32
 ·have hin:i=a.length:=by omega
  refine iE<|d6<|d6<|iC<|sR<|sm J J<|?_;refine pd b2 (.hd ..) (fun G3 _ hgb=>?_);have hD:ce G3 ⟨some ⟨b2,0,none⟩,a.length+1,a.length+1⟩ ws:= .of_block hwo hgb.h hwl.symm (aL _) (by rw[bQ (by simp)]);have hdv:dv a*2^k=dv ws:=by rw[hinv,hin,bQ (aL _)]
  refine sc (zC J J (iq hD (by omega)) J ?_);rintro _ G4 _ rfl;refine sa J J<|zE<|cG<|?_;refine zD (.tmp J .nil) ⟨⟨some ⟨b2,0,none⟩,(trimD ws).length,a.length+1⟩,J,?_⟩;have h3:=hD.trim.up (G:=G4);rw[hdv] at hk⊢;exact⟨⟨by rw[oH hwo];exact h3,hk⟩,aL _⟩
 have hia':i<a.length:=by omega
 have hga:=hok.get i;have hp32:(2:Nat)^k<=2^31:=bV (by omega) (by omega);have hp0:0<(2:Nat)^k:=fX (by omega);have hvb:a.getD i 0*2^k<4294967296*2^k:=kV hga hp0;have hv64:a.getD i 0*2^k<18446744073709551616:=by omega
 refine zK<|bt<|dE<|sR<|sm J J<|sy (gt (z:=⟨x.a,a.length,x.c⟩) hxt J J (by omega) (by show(i:Int)<(a.length:Nat);omega)) J<|sy (gn hxt J (by omega)) J<|sa J J<|sa J J<|zE<|bt<|?_;rw[aM];refine dz<|sm J J<|sy (fB J) J<|sm J J<|sy (ux J J (by omega)) J<|?_;rw[qb (a.getD i 0) k (by omega) hv64 (aM k)]
 -- the low digit is a multiple of 2^k
 have hlow:a.getD i 0*2^k%4294967296=a.getD i 0%2^(32-k)*2^k:=by
  have:4294967296=2^(32-k)*2^k:=by rw[<-fW,show 32-k+k=32 by omega]
  rw[this,rY]
 have hlt:a.getD i 0*2^k%4294967296<4294967296:=dT _ (by decide);have hsum:ws.getD i 0+a.getD i 0%2^(32-k)*2^k<4294967296:=by
  have h1:a.getD i 0%2^(32-k)<2^(32-k):=dT _ (fX (by omega));have h2:(a.getD i 0%2^(32-k)+1)*2^k<=2^(32-k)*2^k:=bK _ h1;rw[<-fW,show 32-k+k=32 by omega,cY] at h2;omega
 refine sa J J<|zE<|sR<|sm J J<|?_;refine sm J J<|sm J J<|sy (dx J J) J<|sy (ew J J (by omega) (by omega)) J<|?_;rw[show((i:Int)+0).toNat=i by omega];refine sy (qc J (by omega)) J<|sm J J<|sy (jj J) J<|?_;rw[show((a.getD i 0*2^k:Nat):Int)%4294967296=((a.getD i 0%2^(32-k)*2^k:Nat):Int) by rw[<-hlow];rfl];refine sy (gA J J (Rv (ws.getD i 0) (a.getD i 0%2^(32-k)) k hwi hsum)) J<|sy (ew J J (by omega) (by omega)) J<|?_;rw[show((i:Int)+0).toNat=i by omega];refine sc (kz (d:=ws.getD i 0+a.getD i 0%2^(32-k)*2^k) J J J (.hd ..) (by omega) J ?_);refine zE<|dz<|sm J J<|sm J J<|sm J J<|sy (dx J J) J<|sy (dx J J) J<|sm J J<|sy (kD J J (by decide)) J<|?_;rw[Ns];have hhi:a.getD i 0*2^k/4294967296<2^k:=rM hvb;refine sy (jj J) J<|sy (ew J J (by omega) (by omega)) J<|?_;rw[show((i:Int)+0+1).toNat=i+1 by omega];refine sc (kz (d:=a.getD i 0*2^k/4294967296) J J (by omega) (.hd ..) (by simp;omega) J ?_);refine zE<|dz<|sy (dx J J) J<|sm J J<|zE<|?_;refine iG ⟨(ws.set i (ws.getD i 0+a.getD i 0%2^(32-k)*2^k)).set (i+1) (a.getD i 0*2^k/4294967296),i+1⟩ ⟨by show i+1<=_;omega,by simp[hwl],(hwo.set _ hsum).set _ (by omega),fun j hj=>?_,?_,?_⟩ (by show a.length-(i+1)<a.length-i;omega) (.cons J (.cons J (.cons J (.cons J (.cons J (.cons J .nil)))))) J
 ·have hj':i+1<j:=hj
  show((ws.set i _).set (i+1) _).getD j 0=0;rw[Ad (by omega),Ad (by omega)];exact hz j (by omega)
 ·show((ws.set i _).set (i+1) (a.getD i 0*2^k/4294967296)).getD (i+1) 0<2^k
  rw[aK,rQ (by simp;omega)];exact hhi
 ·show dv ((ws.set i (ws.getD i 0+a.getD i 0%2^(32-k)*2^k)).set (i+1) (a.getD i 0*2^k/4294967296))=dv (a.take (i+1))*2^k
  have h1:=o8 (ws.set i (ws.getD i 0+a.getD i 0%2^(32-k)*2^k)) (i+1) (a.getD i 0*2^k/4294967296) (by simp;omega);rw[Ad (by omega),hz (i+1) (by omega),pZ,eJ] at h1;have h2:=o8 ws i (ws.getD i 0+a.getD i 0%2^(32-k)*2^k) (by omega);rw[dZ] at h2;rw[h1,ij,cY,<-hinv,bS,Gq (4294967296^i) (a.getD i 0*2^k),<-hlow] at*;rw[fS];omega
end Go.Sx
end
section
namespace Go.Sx
def s9(i:Nat):(4294967296:Nat)^(i+1)=4294967296^i*4294967296:=fS ..
def X5{U p V T S first third:Nat}(hU:U<(first*4294967296+third+1)*p)(h3:third<4294967296)(hV:(T*4294967296+S)*p<=V)(hT:0<T):
  U<(first/T+1)*V:=by
 have h1:first+1<=(first/T+1)*T:=by
  have:=Nat.lt_mul_div_succ first hT
  rw[bR];omega
 calc U<(first*4294967296+third+1)*p:=hU
  _<=((first+1)*4294967296)*p:=bK _ (by omega)
  _<=(((first/T+1)*T)*4294967296)*p:=bK _ (bK _ h1)
  _=(first/T+1)*((T*4294967296)*p):=by rw[bS (first/T+1),bS (first/T+1)]
  _<=(first/T+1)*V:=fT _ (dW (bK _ (pW _ _)) hV)
def PS{U p V T S first third v0:Nat}(hU:(first*4294967296+third)*p<=U)(hV:V=(T*4294967296+S)*p+v0)(hv:v0<p)(hlt:U<V*4294967296):first<=T*4294967296+S:=by
 rcases iW (T*4294967296+S) first with h|h
 ·exfalso
  have h1:(T*4294967296+S+1)*p<=first*p:=bK p h
  rw[cY _ 1,lM] at h1;rw[cY,qU] at hU;have:0<=third*p:=bL _;omega
 ·exact h
def Ty{U p V T S first third g r:Nat}(hU:U<(first*4294967296+third+1)*p)(hV:(T*4294967296+S)*p<=V)(hg:first=g*T+r)(hc:r*4294967296+third<g*S):U<g*V:=by
 refine cN hU (dW (bK p (m:=g*(T*4294967296+S)) ?_) ?_)
 ·rw[dZ,<-bS,hg,cY];omega
 ·rw[bS];exact fT _ hV
def EE{U p V T S first third g r v0:Nat}(hU:(first*4294967296+third)*p<=U)(hV:V=(T*4294967296+S)*p+v0)(hv:v0<p)(hT:0<T)(hg:first=g*T+r)(hgB:g<4294967296)(hc:g*S<=r*4294967296+third):g*V<U+V:=by
 have h1:g*((T*4294967296+S)*p)<=U:=by
  rw[<-bS];refine dW (bK p ?_) hU;rw[dZ,<-bS,hg,cY];omega
 have h2:g*v0<=4294967295*v0:=bK _ (by omega);have h3:4294967296*p<=V:=by
  rw[hV];refine dW (bK p ?_) (pW _ _);omega
 have h4:g*V=g*((T*4294967296+S)*p)+g*v0:=by rw[<-dZ,<-hV]
 omega
def awX{U V R g:Nat}(h:U<(g+1)*V)(hr:R+g*V=U):R<V:=by
 rw[cY,lM] at h;omega
def Yw{U V R R' g w M:Nat}(h2:g*V<U+V)(hr:R+g*V=U+M)(hb:R'+w*M=R+V)(hR:R<M)(hR':R'<M)(hw:w<=1)(hg:0<g):R'+(g-1)*V=U/\R'<V:=by
 have hgv:g*V=(g-1)*V+V:=by
  conv=>lhs;rw[show g=(g-1)+1 by omega,cY,lM]
 have:w=1:=by
  rcases iW w 1 with h|h
  ·have:w=0:=by omega
   subst this;omega
  ·omega
 subst this;omega
def wi(us:List Nat)(i:Nat):dv (us.drop i)=us.getD i 0+4294967296*dv (us.drop (i+1)):=by
 rcases iW i us.length with h|h
 ·rw[cJ h];simp[dv,List.getD,aX h]
 ·rw[gU h,gU (by omega)]
  simp[dv,dJ h,List.getD]
def uK(us:List Nat)(i:Nat):dv us=dv (us.take i)+4294967296^i*dv (us.drop i):=by
 rcases iW us.length i with h|h
 ·rw[bQ (by omega),gU (by omega)];simp[dv]
 ·exact Db us i h
def Dl{us:List Nat}(h:bu us)(i:Nat):dv (us.take i)<4294967296^i:=by
 refine cN (iw (h.take i)) (bV (by decide) ?_);simp[bM];omega
def Cm{us:List Nat}{i:Nat}(hd:dv us<4294967296^i):dv (us.drop i)=0:=by
 have h:=uK us i;rcases fY (dv (us.drop i)) with h0|h0
 ·exact h0
 ·have:=fT (4294967296^i) h0
  omega
def SQ{W W' U E p u x bo b c c1 g d:Nat}(hs:W'+p*u=W+p*x)(hw:W+E=U+(bo+c)*p)(hc:c1=c+g*d)(hx:x+(c1%4294967296+bo)=u+b*4294967296):
  W'+(E+g*d*p)=U+(b+c1/4294967296)*(p*4294967296):=by
 have h1:=congrArg (p* ·) hx;simp only[dZ] at h1;have h2:p*c1=p*(c1%4294967296)+p*(c1/4294967296)*4294967296:=by
  rw[bS,<-dZ,Nat.mod_add_div']
 have h3:p*c1=p*c+p*(g*d):=by rw[hc,dZ]
 rw[cY,bR bo,bR c] at hw;rw[bR (g*d),cY,<-bS b,<-bS (c1/4294967296),bR b,bR (c1/4294967296)];rw[<-bS] at h1;omega
def U'{W W' U E p u x bo b c:Nat}(hs:W'+p*u=W+p*x)(hw:W+E=U+(bo+c)*p)(hx:x+(c+bo)=u+b*4294967296):W'+E=U+b*(p*4294967296):=by
 have h1:=congrArg (p* ·) hx;simp only[dZ] at h1;rw[cY,bR bo,bR c] at hw;rw[<-bS b,bR b];rw[<-bS] at h1;omega
def P1{W W' R E p u d c:Nat}(hs:W'+p*u=W+p*((c+(u+d))%4294967296))(hw:W+c*p=R+E):W'+(c+(u+d))/4294967296*(p*4294967296)=R+(E+d*p):=by
 have h2:p*(c+(u+d))=p*((c+(u+d))%4294967296)+p*((c+(u+d))/4294967296)*4294967296:=by
  rw[bS,<-dZ,Nat.mod_add_div']
 rw[dZ p c,dZ p u] at h2;rw[bR c] at hw;rw[bR d,<-bS,bR _ p];omega
def Y8{W W' R p u c:Nat}(hs:W'+p*u=W+p*((u+c)%4294967296))(hw:W+c*p=R):W'+(u+c)/4294967296*(p*4294967296)=R:=by
 have h2:p*(u+c)=p*((u+c)%4294967296)+p*((u+c)/4294967296)*4294967296:=by
  rw[bS,<-dZ,Nat.mod_add_div']
 rw[dZ p u] at h2;rw[bR c] at hw;rw[<-bS,bR _ p];omega
def Xx{us:List Nat}(h:bu us)(i:Nat)(hd:dv us<4294967296^(i+3)):
  dv us=((us.getD (i+2) 0*4294967296+us.getD (i+1) 0)*4294967296+us.getD i 0)*4294967296^i+dv (us.take i):=by
 have h0:=Cm hd;rw[uK us i,wi us i,wi us (i+1),wi us (i+2),h0,kR,bR];congr 2;omega
def Ra{us:List Nat}(h:bu us)(i:Nat)(hd:dv us<4294967296^(i+2)):
  dv us=(us.getD (i+1) 0*4294967296+us.getD i 0)*4294967296^i+dv (us.take i):=by
 have h0:=Cm hd;rw[uK us i,wi us i,wi us (i+1),h0,kR,bR];congr 2;omega
def AQ{us:List Nat}{k i d:Nat}(h:bu us)(hd:d<4294967296)(hk:dv us<4294967296^k)(hi:i<k):dv (us.set i d)<4294967296^k:=by
 rw[uK _ k,List.drop_set,if_pos hi,Cm hk,pZ,eJ];exact Dl (h.set i hd) k
end Go.Sx
end
section
namespace Go.Sx
open Go Go.Proofs Tryz
def Sw(p k a1 a2 E:Nat)(hk:k<32)(h1:a1<4294967296)(hp:p=2^k):(a1+4294967296*(a2+4294967296*E))/p=(a1+a2*4294967296)/p%4294967296+4294967296*((a2+4294967296*E)/p):=by
 subst hp;have hp0:0<(2:Nat)^k:=fX (by omega);have hB:4294967296=2^(32-k)*2^k:=by rw[<-fW,show 32-k+k=32 by omega]
 -- the quotient and the rest of the quotient by the base
 have hq:(a1+4294967296*(a2+4294967296*E))/2^k/4294967296=(a2+4294967296*E)/2^k:=by
  rw[lS,bR (2^k),<-lS,lT _ _ (by decide),jU h1,dK]
 have hr:(a1+4294967296*(a2+4294967296*E))/2^k%4294967296=(a1+a2*4294967296)/2^k%4294967296:=by
  have e1:a1+4294967296*(a2+4294967296*E)=(a1+a2*4294967296)+2^k*(2^(32-k)*(4294967296*E)):=by
   rw[<-bS (2^k),bR (2^k) (2^(32-k)),<-hB];omega
  rw[e1,lT _ _ hp0];rw[show 2^(32-k)*(4294967296*E)=4294967296*(2^(32-k)*E) by rw[kS]];rw[mS]
 have h:=Nat.mod_add_div ((a1+4294967296*(a2+4294967296*E))/2^k) 4294967296;rw[hq,hr] at h;exact h.symm
def Jb(a:List Nat)(i:Nat):dv (a.drop i)=a.getD i 0+4294967296*dv (a.drop (i+1)):=by
 by_cases h:i<a.length
 ·rw[cJ h,aK,aX h];rfl
 ·rw[gU (by omega),gU (by omega),B4 (by omega)];rfl
def Yn{a:List Nat}(ha:bu a)(k i:Nat)(hk:k<32):dv (a.drop i)/2^k=(a.getD i 0+a.getD (i+1) 0*4294967296)/2^k%4294967296+4294967296*(dv (a.drop (i+1))/2^k):=by
 rw[Jb a i,Jb a (i+1)];exact Sw _ k _ _ _ hk (ha.get i) J
def Vd{A G:Gh}{x:SV}{ds:List Nat}{k kk:Nat}(hx:ce A x ds)[GL A G](hk32:k<32)(hk:dv ds/2^k<2^kk)(hb:ds.length<=1125899906842):
  Fn prog 390 [x.v, .int .u64 (k:Int)] G (fun v G'=> ∃z:SV,v=z.v/\ey kk G' z (dv ds/2^k)):=by
 have htl:=lE ds;have hcall:=fun G1 (_:GL A G1)=>iq (G:=G1) hx (by omega);have hxt:=hx.trim;rw[<-iO ds] at hk⊢;generalize trimD ds=a at*;have hok:=hxt.ok;refine Fn.intro func390 J J ntmps390 J ?_;intro C _ _;refine sR<|sa J J<|zE<|sR<|sm J J<|?_;refine sc (zC J J (hcall _ inferInstance) J ?_);rintro _ G1 _ rfl;refine sa J J<|zE<|bt<|sR<|sm J J<|sy (wW J J (by omega) (by omega) (by decide)) J<|sm J J<|cD J J<|sy (fB J) J<|?_;rw[show(k:Int)/32=0 by omega];refine sy (sH J J) J<|zE<|?_;refine fi J (fun hc=>?_) (fun hc=>?_) -- slot 17
 ·refine sR<|sa J J<|zE<|cG<|?_
  have:a=[]:=bU (by omega);subst this;refine zD (.tmp J .nil) ⟨⟨none,0,0⟩,J,?_⟩;have e0:dv []/2^k=0:=by simp[dv]
  rw[e0];exact⟨by unfold dg;exact .nil _,fX (by omega)⟩
 refine zK<|sR<|sm J J<|sy (wW J J (by omega) (by omega) (by decide)) J<|sy (Jm J) J<|sm J J<|sy (vi J J (by omega) (by decide)) J<|?_;rw[show(k:Int)/32=0 by omega,show(k:Int)%32=k by omega];refine sa J J<|sa J J<|zE<|sR<|sm J J<|cD J J<|sm J J<|sy (ja J J) J<|?_;refine sc (rk J J (by omega) (by omega) (by omega) (by rfl) J ?_);intro b2;rw[sd,show((a.length:Int)-0).toNat=a.length by omega];refine sa J J<|zE<|bt<|sR<|sm J J<|cD J J<|sm J J<|zE<|dE<|?_;refine kj (X:=K2) (fun q=>[(30, .int .i64 q.i),(29, .int .i64 a.length),(0, .slice x.a a.length x.c),(5, .int .i64 0),(7, .slice (some ⟨b2,0,none⟩) a.length a.length),(6, .int .u64 k)])
  (fun q=>[⟨b2,q.ws.map dI,366,true⟩])
  (fun q _=>q.i<=a.length/\q.ws.length=a.length/\bu q.ws/\dv a/2^k=dv (q.ws.take q.i)+4294967296^q.i*(dv (a.drop q.i)/2^k)) (fun q=>a.length-q.i) ⟨List.replicate a.length 0,0⟩
  ⟨bL _,by simp, .replicate _,by simp[dv]⟩ (.cons J (.cons J (.cons J (.cons J (.cons J (.cons J .nil)))))) J ?_
 rintro ⟨ws,i⟩ Gy _ ⟨hia,hwl,hwo,hinv⟩;simp only[] at hia hwl hwo hinv⊢;refine sR<|sy (io J J) J<|zE<|bt<|?_;refine ki J (fun hc=>?_) (fun hc=>?_) -- slot 31
 ·have hin:i=a.length:=by omega
  refine iE<|d6<|d6<|iC<|sR<|sm J J<|?_;refine pd b2 (.hd ..) (fun G3 _ hgb=>?_);have hD:ce G3 ⟨some ⟨b2,0,none⟩,a.length,a.length⟩ ws:= .of_block hwo hgb.h hwl.symm (aL _) (by rw[bQ (by simp)]);have hdv:dv a/2^k=dv ws:=by
   rw[hinv,hin,bQ (by omega),jY];simp[dv]
  refine sc (zC J J (iq hD (by omega)) J ?_);rintro _ G4 _ rfl;refine sa J J<|zE<|cG<|?_;refine zD (.tmp J .nil) ⟨⟨some ⟨b2,0,none⟩,(trimD ws).length,a.length⟩,J,?_⟩;have h3:=hD.trim.up (G:=G4);rw[hdv] at hk⊢;exact⟨by rw[oH hwo];exact h3,hk⟩
 have hia':i<a.length:=by omega
 have hga:=hok.get i;have hga2:=hok.get (i+1);refine zK<|bt<|dE<|sR<|sm J J<|sa J J<|zE<|sR<|sm J J<|sm J J<|sm J J<|sy (dx J J) J<|?_;refine sy (gt (z:=⟨x.a,a.length,x.c⟩) hxt J J (by omega) (by show((i:Int)+0)<(a.length:Nat);omega)) J<|?_;rw[show((i:Int)+0).toNat=i by omega];refine sy (gn hxt J (by omega)) J<|sy (fB J) J<|sa J J<|zE<|?_;refine xh Unit (fun _=>[(30, .int .i64 i),(8, .int .i64 i),(29, .int .i64 a.length),(0, .slice x.a a.length x.c),(5, .int .i64 0),(7, .slice (some ⟨b2,0,none⟩) a.length a.length),(6, .int .u64 k),(9, .int .u64 ((a.getD i 0+a.getD (i+1) 0*2^32:Nat):Int))]) (fun _=>[⟨b2,ws.map dI,366,true⟩]) (fun _ _=>True) ?_ ?_
 ·refine sR<|sm J J<|sm J J<|sy (dx J J) J<|sy (dx J J) J<|sm J J<|cD J J<|sy (io J J) J<|?_
  refine zE<|?_;refine fi J (fun hc2=>?_) (fun hc2=>?_) -- slot 46
  ·refine dz<|sm J J<|sm J J<|sm J J<|sm J J<|sy (dx J J) J<|sy (dx J J) J<|sy (gt (z:=⟨x.a,a.length,x.c⟩) hxt J J (by omega) (by show((i:Int)+0+1)<(a.length:Nat);omega)) J<|?_
   rw[show((i:Int)+0+1).toNat=i+1 by omega];refine sy (gn hxt J (by omega)) J<|sy (fB J) J<|sy (ux J J (by decide)) J<|?_;rw[qb (a.getD (i+1) 0) 32 (by decide) (by omega) J];refine sy (gA J J (NW (a.getD i 0) (a.getD (i+1) 0) 32 (by omega) (by omega))) J<|sa J J<|zE<|?_;exact o6 () trivial (.cons J (.cons J (.cons J (.cons J (.cons J (.cons J (.cons J (.cons J .nil)))))))) J
  refine zK<|?_;have h0:a.getD (i+1) 0=0:=B4 (by omega);exact o6 () trivial (.cons J (.cons J (.cons J (.cons J (.cons J (.cons J (.cons J (.cons (by rw[h0,kX,eJ];rfl) .nil)))))))) J
 rintro _ Gz _ _;refine dz<|sm J J<|sm J J<|sm J J<|sm J J<|sy (kD J J (by omega)) J<|?_;rw[qP _ k (by omega) (aM k)];refine sy (jj J) J<|sy (ew J J (by omega) (by omega)) J<|?_;rw[aM];refine sc (kz (d:=(a.getD i 0+a.getD (i+1) 0*2^32)/2^k%4294967296) J J (by rw[nN];rfl) (.hd ..) (by omega) J ?_);refine zE<|dz<|sy (dx J J) J<|sm J J<|zE<|?_;refine iG ⟨ws.set i ((a.getD i 0+a.getD (i+1) 0*2^32)/2^k%4294967296),i+1⟩ ⟨by show i+1<=_;omega,by simp[hwl],hwo.set _ (dT _ (by decide)),?_⟩ (by show a.length-(i+1)<a.length-i;omega) (.cons J (.cons J (.cons J (.cons J (.cons J (.cons J .nil)))))) J;show dv a/2^k=dv ((ws.set i ((a.getD i 0+a.getD (i+1) 0*2^32)/2^k%4294967296)).take (i+1))+4294967296^(i+1)*(dv (a.drop (i+1))/2^k);rw[hinv,oo (by omega),Yn hok k i hk32,s9 i,dZ,bS,kW]
end Go.Sx
end
