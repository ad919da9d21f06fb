import Derived.Test.YtefoocgiaegobaaGreatDoorPd8
set_option linter.all false
set_option maxHeartbeats 2000000
set_option maxRecDepth 100000
section
namespace Go.Sx
open Go Go.Proofs Tryz
structure Q5 where
 ws:List Nat
 i:Nat
structure UH where
 ws:List Nat
 k:Nat
 c:Nat
def Rd{x y w c:Nat}(hx:x<4294967296)(hy:y<4294967296)(hw:w<4294967296)(hc:c<4294967296):c+x*y+w<18446744073709551616:=by
 have:x*y<=4294967295*4294967295:=kX (by omega) (by omega);omega
def w9{ws:List Nat}{i j d:Nat}(h:i≠j):(ws.set i d).getD j 0=ws.getD j 0:=by
 rw[aX,aX,List.getElem?_set_ne h]
def Xo{A B G:Gh}{x y:SV}{ds es:List Nat}{kk:Nat}(hx:cd A x ds)(hy:cd B y es)[GL A G][GL B G](hk:dv ds*dv es<2^kk)(hb:ds.length<=562949953421)(hb2:es.length<=562949953421):
  Fn prog 302 [x.v,y.v] G (fun v G'=> ∃z:SV,v=z.v/\fj kk G' z (dv ds*dv es)):=by
 have htl:=my ds;have htl2:=my es;have hcall:=fun G1 (_:GL A G1)=>iO (G:=G1) hx (by omega);have hcall2:=fun G1 (_:GL B G1)=>iO (G:=G1) hy (by omega);have hxt:=hx.trim;have hyt:=hy.trim;rw[<-jp ds,<-jp es] at hk⊢;generalize trimD ds=a at*;generalize trimD es=b at*;have hok:=hxt.ok;have hok2:=hyt.ok;refine Fn.intro func302 J J ntmps302 J ?_;intro C _ _;refine sR<|sa J J<|zE<|sR<|sm J J<|?_;refine sc (zC J J (hcall _ inferInstance) J ?_);rintro _ G1 _ rfl;refine sm J J<|?_;refine sc (zC J J (hcall2 _ inferInstance) J ?_);rintro _ G2 _ rfl;refine sa J J<|sa J J<|zE<|sR<|sm J J<|cD J J<|sm J J<|cD J J<|sy (dH J J) J<|?_;refine sc (tw J J (by omega) (by omega) (by omega) (by rfl) J ?_);intro b3;rw[te,show((a.length:Int)+(b.length:Int)).toNat=a.length+b.length by omega];refine sa J J<|zE<|bH<|sR<|sm J J<|cD J J<|sm J J<|zE<|et<|?_;refine kG (X:=Q5) (fun q=>[(23, .int .i64 q.i),(22, .int .i64 a.length),(21, .slice x.a a.length x.c),(1, .slice y.a b.length y.c),(5, .slice (some ⟨b3,0,none⟩) (a.length+b.length) (a.length+b.length))])
  (fun q=>[⟨b3,q.ws.map dI,366,true⟩])
  (fun q _=>q.i<=a.length/\q.ws.length=a.length+b.length/\bw q.ws/\(∀j,q.i+b.length<=j->q.ws.getD j 0=0)/\dv q.ws=dv (a.take q.i)*dv b) (fun q=>a.length-q.i) ⟨List.replicate (a.length+b.length) 0,0⟩
  ⟨bQ _,by simp, .replicate _,fun j _=>DA _ _,by simp[dv,wJ]⟩ (.cons J (.cons J (.cons J (.cons J (.cons J .nil))))) J ?_
 rintro ⟨ws,i⟩ Gy _ ⟨hia,hwl,hwo,hz,hinv⟩;simp only[] at hia hwl hwo hz hinv⊢;refine sR<|sy (kc J J) J<|zE<|bH<|?_;refine kD J (fun hc=>?_) (fun hc=>?_) -- slot 24
 ·have hin:i=a.length:=by omega
  refine i4<|eh<|eh<|i6<|sR<|sm J J<|?_;refine oD b3 (.hd ..) (fun G3 _ hgb=>?_);have hD:cd G3 ⟨some ⟨b3,0,none⟩,a.length+b.length,a.length+b.length⟩ ws:= .of_block hwo hgb.h hwl.symm (aL _) (by rw[aU (by simp)]);have hdv:dv ws=dv a*dv b:=by rw[hinv,hin,aU (aL _)]
  refine sc (zC J J (iO hD (by omega)) J ?_);rintro _ G4 _ rfl;refine sa J J<|zE<|dO<|?_;refine zD (.tmp J .nil) ⟨⟨some ⟨b3,0,none⟩,(trimD ws).length,a.length+b.length⟩,J,?_⟩;have h3:=hD.trim.up (G:=G4);rw[<-hdv] at hk⊢;exact⟨by rw[nA hwo];exact h3,hk⟩
 have hia':i<a.length:=by omega
 have hga:=hok.get i;refine zK<|bH<|et<|sR<|sm J J<|sy (gw (z:=⟨x.a,a.length,x.c⟩) hxt J J (by omega) (by show(i:Int)<(a.length:Nat);omega)) J<|sy (gI hxt J (by omega)) J<|sa J J<|sa J J<|zE<|bH<|?_;rw[bW];refine dB<|sa J J<|zE<|bH<|sR<|sm J J<|cD J J<|sm J J<|zE<|et<|?_;refine kG (X:=UH) (fun q=>[(30, .int .i64 q.k),(29, .int .i64 b.length),(28, .slice y.a b.length y.c),(8, .int .u64 q.c),(7, .int .u32 ((a.getD i 0:Nat):Int)),(5, .slice (some ⟨b3,0,none⟩) (a.length+b.length) (a.length+b.length)),(6, .int .i64 i),(23, .int .i64 i),(22, .int .i64 a.length),(21, .slice x.a a.length x.c),(1, .slice y.a b.length y.c)])
  (fun q=>[⟨b3,q.ws.map dI,366,true⟩])
  (fun q _=>q.k<=b.length/\q.ws.length=a.length+b.length/\bw q.ws/\q.c<4294967296/\(∀j,i+b.length<=j->q.ws.getD j 0=0)/\dv q.ws+4294967296^(i+q.k)*q.c=dv (a.take i)*dv b+4294967296^i*(a.getD i 0*dv (b.take q.k))) (fun q=>b.length-q.k) ⟨ws,0,0⟩
  ⟨bQ _,hwl,hwo,Nat.zero_lt_succ _,hz,by simp[dv,hinv]⟩ (.cons J (.cons J (.cons J (.cons J (.cons J (.cons J (.cons J (.cons J (.cons J (.cons J (.cons J .nil))))))))))) J ?_
 clear hz hwl hwo hinv ws;rintro ⟨ws,k,c⟩ Gz _ ⟨hkb,hwl,hwo,hcc,hz,hinv⟩;simp only[] at hkb hwl hwo hcc hz hinv⊢;refine sR<|sy (kc J J) J<|zE<|bH<|?_;refine kD J (fun hc2=>?_) (fun hc2=>?_) -- slot 31
 ·have hkn:k=b.length:=by omega
  have e1:((i:Int)+(b.length:Int)).toNat=i+b.length:=by omega
  refine i4<|eh<|eh<|i6<|dB<|sm J J<|sm J J<|sm J J<|cD J J<|sy (dH J J) J<|sm J J<|sy (jC J) J<|?_;refine sy (f9 J J (by omega) (by omega)) J<|?_;rw[e1];refine sc (kO (d:=c) J J (by omega) (.hd ..) (by omega) J ?_);refine zE<|dB<|sy (dH J J) J<|sm J J<|zE<|?_;refine jg ⟨ws.set (i+b.length) c,i+1⟩ ⟨by show i+1<=_;omega,by simp[hwl],hwo.set _ hcc,fun j hj=>?_,?_⟩ (by show a.length-(i+1)<a.length-i;omega) (.cons J (.cons J (.cons J (.cons J (.cons J .nil))))) J
  ·have hj':i+1+b.length<=j:=hj
   show(ws.set (i+b.length) c).getD j 0=0;rw[w9 (by omega)];exact hz j (by omega)
  ·show dv (ws.set (i+b.length) c)=dv (a.take (i+1))*dv b
   have h1:=pn ws (i+b.length) c (by omega);rw[hz (i+b.length) (aL _),pZ,fJ] at h1;rw[h1,<-hkn,hinv,hkn,aU (aL _),iG,dQ,bL]
 have hkb':k<b.length:=by omega
 have hgb:=hok2.get k;have hgw:=hwo.get (i+k);have hm:=Rd hga hgb hgw hcc;have e1:((i:Int)+(k:Int)).toNat=i+k:=by omega
 have e2:((a.getD i 0:Nat):Int)*((b.getD k 0:Nat):Int)=((a.getD i 0*b.getD k 0:Nat):Int):=by rw[iN]
 refine zK<|bH<|et<|sR<|sm J J<|sy (gw (z:=⟨y.a,b.length,y.c⟩) hyt J J (by omega) (by show(k:Int)<(b.length:Nat);omega)) J<|sy (gI hyt J (by omega)) J<|sa J J<|sa J J<|zE<|bH<|?_;rw[bW];refine dB<|sm J J<|sm J J<|sy (ge J) J<|sm J J<|sy (ge J) J<|sy (E4 J J (by rw[e2];omega) (by rw[e2];omega)) J<|?_;rw[e2];refine sm J J<|sm J J<|sm J J<|sy (dH J J) J<|sy (f9 J J (by omega) (by omega)) J<|?_;rw[e1];refine sy (qD J (by omega)) J<|sy (ge J) J<|?_;refine sy (qx J J) J<|sy (qx J J) J<|sa J J<|zE<|sR<|sm J J<|sm J J<|sm J J<|?_;rw[show(c:Int)+(((a.getD i 0*b.getD k 0:Nat):Int)+((ws.getD (i+k) 0:Nat):Int))=((c+a.getD i 0*b.getD k 0+ws.getD (i+k) 0:Nat):Int) by omega];generalize hcc2:c+a.getD i 0*b.getD k 0+ws.getD (i+k) 0=cc;rw[hcc2] at hm;refine sy (dH J J) J<|sm J J<|sy (jC J) J<|sy (f9 J J (by omega) (by omega)) J<|?_;rw[e1];refine sc (kO (d:=cc%4294967296) J J (by omega) (.hd ..) (by omega) J ?_);refine zE<|dB<|sm J J<|sy (lD J J (by decide)) J<|sa J J<|zE<|dB<|sy (dH J J) J<|sm J J<|zE<|?_;rw[I6];refine jg ⟨ws.set (i+k) (cc%4294967296),k+1,cc/4294967296⟩ ⟨by show k+1<=_;omega,by simp[hwl],hwo.set _ (by omega),by show cc/4294967296<_;omega,fun j hj=>?_,?_⟩ (by show b.length-(k+1)<b.length-k;omega) (.cons J (.cons J (.cons J (.cons J (.cons J (.cons J (.cons J (.cons J (.cons J (.cons J (.cons J .nil))))))))))) J
 ·show(ws.set (i+k) (cc%4294967296)).getD j 0=0
  rw[w9 (by omega)];exact hz j hj
 ·show dv (ws.set (i+k) (cc%4294967296))+4294967296^(i+(k+1))*(cc/4294967296)=dv (a.take i)*dv b+4294967296^i*(a.getD i 0*dv (b.take (k+1)))
  have h1:=pn ws (i+k) (cc%4294967296) (by omega);rw[<-hcc2] at h1⊢;have h2:=ML h1 hinv;rw[<-jW,fK,h2,iG,dX,dX,fX];have:4294967296^i*(a.getD i 0*(4294967296^k*b.getD k 0))=4294967296^i*4294967296^k*(a.getD i 0*b.getD k 0):=by
   rw[kN (a.getD i 0),<-bL]
  rw[this,jW]
def GH{P:Program}{t:TypeId}(a b k:Nat)(ha:a<2^k)(h:a+b*2^k<18446744073709551616)(w:World):(binOp .or t (.int .u64 ((b*2^k:Nat):Int)) (.int .u64 (a:Int))).run P w= .ok (.int .u64 ((a+b*2^k:Nat):Int)) w:=by
 have h1:(BitVec.ofInt 64 ((b*2^k:Nat):Int) ||| BitVec.ofInt 64 (a:Int)).toNat=a+b*2^k:=by
  rw[BitVec.toNat_or,BitVec.ofInt_natCast,BitVec.ofInt_natCast,BitVec.toNat_ofNat,BitVec.toNat_ofNat,gQ (by omega),gQ (by omega)];rw[<-lM,<-mQ ha,lM];omega
 have h2:IntKind.u64.wrap ((a+b*2^k:Nat):Int)=((a+b*2^k:Nat):Int):=by rw[l7];omega
 simp only[binOp];show(Op.intBits .or .u64 ((b*2^k:Nat):Int) (a:Int)).run P w=_;unfold Op.intBits;show(pure (Value.int .u64 (IntKind.u64.wrap ((BitVec.ofInt 64 ((b*2^k:Nat):Int) ||| BitVec.ofInt 64 (a:Int)).toNat:Int))):Sem Value).run P w=_;rw[h1,h2,run_pure]
def Yn{P:Program}{t:TypeId}(a b k:Nat)(ha:a<2^k)(h:a+b*2^k<4294967296)(w:World):(binOp .or t (.int .u32 (a:Int)) (.int .u32 ((b*2^k:Nat):Int))).run P w= .ok (.int .u32 ((a+b*2^k:Nat):Int)) w:=by
 have h1:(BitVec.ofInt 32 (a:Int) ||| BitVec.ofInt 32 ((b*2^k:Nat):Int)).toNat=a+b*2^k:=by
  rw[BitVec.toNat_or,BitVec.ofInt_natCast,BitVec.ofInt_natCast,BitVec.toNat_ofNat,BitVec.toNat_ofNat,gQ (by omega),gQ (by omega)];rw[<-lM,Nat.or_comm,<-mQ ha,lM];omega
 have h2:IntKind.u32.wrap ((a+b*2^k:Nat):Int)=((a+b*2^k:Nat):Int):=by rw[pD];omega
 simp only[binOp];show(Op.intBits .or .u32 (a:Int) ((b*2^k:Nat):Int)).run P w=_;unfold Op.intBits;show(pure (Value.int .u32 (IntKind.u32.wrap ((BitVec.ofInt 32 (a:Int) ||| BitVec.ofInt 32 ((b*2^k:Nat):Int)).toNat:Int))):Sem Value).run P w=_;rw[h1,h2,run_pure]
def qu(d k:Nat)(hk:k<64)(h:d*2^k<18446744073709551616){q:Int}(hq:q.toNat=k):IntKind.u64.wrap ((d:Int)*2^min q.toNat IntKind.u64.bits)=((d*2^k:Nat):Int):=by
 rw[hq,iK (by show k<=64;omega),l7];have e2:(d:Int)*2^k=((d*2^k:Nat):Int):=by push_cast;rfl
 rw[e2];omega
def q7(d k:Nat)(hk:k<64){q:Int}(hq:q.toNat=k):(d:Int).fdiv (2^min q.toNat IntKind.u64.bits)=((d/2^k:Nat):Int):=by
 rw[hq,iK (by show k<=64;omega),gT _ (pW (Int.pow_pos (by decide)))];push_cast;rfl
def O2(q:Nat)(h:q<4294967296):(q:Int)%4294967296=q:=by omega
structure RK where
 ws:List Nat
 k:Nat
 r:Nat
def atS{A G:Gh}{x:SV}{a:List Nat}{d kk:Nat}(hx:cd A x a)[GL A G](hd0:0<d)(hd:d<4294967296)(hk:dv a/d<2^kk)(hb:a.length<=1125899906842):
  Fn prog 368 [x.v, .int .u32 (d:Int)] G (fun v G'=> ∃z:SV,v= .tuple #[z.v, .int .u32 ((dv a%d:Nat):Int)]/\fj kk G' z (dv a/d)):=by
 have hlen:=hx.len;refine Fn.intro func368 J J ntmps368 J ?_;intro C _ _;refine sR<|sa J J<|sa J J<|zE<|sR<|sm J J<|cD J J<|?_;refine sc (tw J J (by omega) (by omega) (by omega) (by rfl) J ?_);intro b1;rw[te,show(x.n:Int).toNat=a.length by omega];refine sa J J<|zE<|sR<|sa J J<|zE<|bH<|sR<|sm J J<|cD J J<|sy (jx J J) J<|?_;refine sa J J<|zE<|et<|?_;refine kG (X:=RK) (fun q=>[(8, .int .i64 (q.k-1)),(7, .int .u64 q.r),(0, .slice x.a x.n x.c),(6, .slice (some ⟨b1,0,none⟩) a.length a.length),(1, .int .u32 d)])
  (fun q=>[⟨b1,q.ws.map dI,366,true⟩])
  (fun q _=>q.k<=a.length/\q.ws.length=a.length/\bw q.ws/\q.r<d/\dv (a.drop q.k)=d*dv (q.ws.drop q.k)+q.r) (fun q=>q.k) ⟨List.replicate a.length 0,a.length,0⟩
  ⟨aL _,by simp, .replicate _,hd0,by simp[dv]⟩ (.cons (by rw[hlen];rfl) (.cons J (.cons J (.cons J (.cons J .nil))))) J ?_
 rintro ⟨ws,k,r⟩ Gy _ ⟨hka,hwl,hwo,hr,hinv⟩;simp only[] at hka hwl hwo hr hinv⊢;refine bH<|sR<|sm J J<|sy (zi J J) J<|zE<|?_;refine kD J (fun hc=>?_) (fun hc=>?_) -- slot 17
 ·have hk0:k=0:=by omega
  refine i4<|eh<|eh<|i6<|sR<|sm J J<|?_;refine oD b1 (.hd ..) (fun G1 _ hgb=>?_);have hD:cd G1 ⟨some ⟨b1,0,none⟩,a.length,a.length⟩ ws:= .of_block hwo hgb.h hwl.symm (aL _) (by rw[aU (by simp)]);subst hk0;simp only[iW] at hinv;have hdv:dv a/d=dv ws:=by rw[hinv,Nat.mul_add_div hd0,jT hr,fJ]
  have hdm:dv a%d=r:=by rw[hinv,Nat.mul_add_mod,gQ hr]
  refine sc (zC J J (iO hD (by omega)) J ?_);rintro _ G2 _ rfl;refine sm J J<|sy (jC J) J<|sa J J<|sa J J<|zE<|dO<|?_;refine zD (.tmp J (.tmp J .nil)) ⟨⟨some ⟨b1,0,none⟩,(trimD ws).length,a.length⟩,?_,?_⟩
  ·rw[hdm,show(r:Int)%4294967296=r by omega];rfl
  have h3:=hD.trim.up (G:=G2);exact⟨by rw[hdv,nA hwo];exact h3,hk⟩
 have hk1:0<k:=by omega
 have hkt:((k:Int)-1).toNat=k-1:=by omega
 have hga:=hx.ok.get (k-1);have hv:a.getD (k-1) 0+r*2^32<d*4294967296:=by
  have:(r+1)*4294967296<=d*4294967296:=bV _ hr;rw[dQ] at this;omega
 have hv2:a.getD (k-1) 0+r*2^32<18446744073709551616:=by omega
 refine zK<|bH<|et<|sR<|sm J J<|sy (uP J J (by decide)) J<|sm J J<|sm J J<|sy (gw hx J J (by omega) (by omega)) J<|?_;rw[qu r 32 (by decide) (by omega) J];refine sy (gI hx J (by omega)) J<|sy (ge J (by omega) (by rw[hkt];omega)) J<|?_;rw[hkt];refine sy (ie J J (GH (a.getD (k-1) 0) r 32 (by omega) hv2)) J<|?_;generalize hvv:a.getD (k-1) 0+r*2^32=vv at*;have hq:vv/d<4294967296:=Nat.div_lt_of_lt_mul hv;have hrr:=dW vv hd0;refine sa J J<|zE<|sR<|sm J J<|sm J J<|sm J J<|sm J J<|?_;refine sy (ge J) J<|sy (vi J J (by omega) (by omega) (by omega)) J<|sy (jC J) J<|sy (f9 J J (by omega) (by omega)) J<|?_;rw[hkt];have e1:(vv:Int)/(d:Int)%4294967296=((vv/d:Nat):Int):=by
  have e0:(vv:Int)/(d:Int)=((vv/d:Nat):Int):=(pY vv d).symm;rw[e0];exact O2 _ hq
 refine sc (kO (d:=vv/d) J J e1 (.hd ..) (by omega) J ?_);refine zE<|dB<|sm J J<|sm J J<|sy (ge J) J<|sy (vO J J (by omega) (by omega)) J<|sa J J<|zE<|dB<|sm J J<|?_;refine sy (jx J J) J<|sa J J<|zE<|?_;refine jg ⟨ws.set (k-1) (vv/d),k-1,vv%d⟩ ⟨by show k-1<=_;omega,by simp[hwl],hwo.set _ hq,hrr,?_⟩ (by show k-1<k;omega) (.cons (by rw[show((k-1:Nat):Int)=(k:Int)-1 by omega];rfl) (.cons (by rw[nT];rfl) (.cons J (.cons J (.cons J .nil))))) J;show dv (a.drop (k-1))=d*dv ((ws.set (k-1) (vv/d)).drop (k-1))+vv%d;have hk2:k-1+1=k:=by omega
 rw[bX (by omega:k-1<a.length),bX (by simp;omega:k-1<(ws.set (k-1) (vv/d)).length),hk2,List.getElem_set_self,sZ (by omega)];have e3:a[k-1]'(by omega)=a.getD (k-1) 0:=by rw[aX,aZ (by omega)];rfl
 simp only[dv,e3,hinv];have h1:=qJ vv d;have h2:d*(vv/d+4294967296*dv (ws.drop k))=d*(vv/d)+4294967296*(d*dv (ws.drop k)):=by rw[dX,kN]
 rw[h2,dX];omega
section
variable {P:Program} {C:aC} {n:Nat} {fr:Fr} {own:List ao} {G:Gh} {dst:Option Nat} {t t1 t2 ty':TypeId} {pos:String} {af:Array Edge} {gd:Option (Nat×Bool)} {x y:Operand}
def Wf{k:IntKind}{p q:Int}(hx:aw fr x=some (.int k p))(hy:aw fr y=some (.int k q)):
  Yd P C fr own G ⟨dst, .call ⟨.builtin .min, #[x,y], #[t1,t2]⟩,ty',pos,af,gd⟩ (.int k (if q<p then q else p)):=by
 intro a w hf hh;simp only[execOp,resolve,gS,bJ,dR,bi hf hx,bi hf hy];have h1:(Builtin.min_ #[t1,t2] ty' #[.int k p, .int k q]).run P w= .ok (.int k (if q<p then q else p)) w:=by
  simp[Builtin.min_,Builtin.min2,run_pure]
 exact cA h1
end
structure L8 where
 ws:List Nat
 i:Nat
def Lk{A G:Gh}{x:SV}{ds:List Nat}{k kk:Nat}(hx:cd A x ds)[GL A G](hk32:k<32)(hk:dv ds*2^k<2^kk)(hb:ds.length<=1125899906842):
  Fn prog 389 [x.v, .int .u64 (k:Int)] G (fun v G'=> ∃z:SV,v=z.v/\fj kk G' z (dv ds*2^k)/\z.c<=(trimD ds).length+1):=by
 have htl:=my ds;have hcall:=fun G1 (_:GL A G1)=>iO (G:=G1) hx (by omega);have hxt:=hx.trim;rw[<-jp ds] at hk⊢;generalize trimD ds=a at*;have hok:=hxt.ok;refine Fn.intro func389 J J ntmps389 J ?_;intro C _ _;refine sR<|sa J J<|zE<|sR<|sm J J<|?_;refine sc (zC J J (hcall _ inferInstance) J ?_);rintro _ G1 _ rfl;refine sm J J<|sy (Wf J J) J<|?_;rw[if_neg (by omega: ¬(1048576:Int)<(k:Int))];refine sa J J<|sa J J<|zE<|bH<|sR<|sm J J<|cD J J<|sy (oc J J) J<|zE<|?_;refine gH J (fun hc=>?_) (fun hc=>?_) -- slot 17
 ·refine sR<|sa J J<|zE<|dO<|?_
  have:a=[]:=bK (by omega);subst this;refine zD (.tmp J .nil) ⟨⟨none,0,0⟩,J,?_⟩;have e0:dv []*2^k=0:=by simp[dv]
  rw[e0];exact⟨⟨by unfold dg;exact .nil _,dL (by omega)⟩,bQ _⟩
 refine zK<|sR<|sm J J<|sy (vi J J (by omega) (by omega) (by decide)) J<|sy (P0 J) J<|sm J J<|sy (vO J J (by omega) (by decide)) J<|?_;rw[show(k:Int)/32=0 by omega,show(k:Int)%32=k by omega];refine sa J J<|sa J J<|zE<|sR<|sm J J<|cD J J<|sm J J<|sy (dH J J) J<|sy (dH J J) J<|?_;refine sc (tw J J (by omega) (by omega) (by omega) (by rfl) J ?_);intro b2;rw[te,show((a.length:Int)+0+1).toNat=a.length+1 by omega];refine sa J J<|zE<|bH<|sR<|sm J J<|cD J J<|sm J J<|zE<|et<|?_;refine kG (X:=L8) (fun q=>[(31, .int .i64 q.i),(30, .int .i64 a.length),(29, .slice x.a a.length x.c),(6, .int .u64 k),(7, .slice (some ⟨b2,0,none⟩) (a.length+1) (a.length+1)),(5, .int .i64 0)])
  (fun q=>[⟨b2,q.ws.map dI,366,true⟩])
  (fun q _=>q.i<=a.length/\q.ws.length=a.length+1/\bw q.ws/\(∀j,q.i<j->q.ws.getD j 0=0)/\q.ws.getD q.i 0<2^k/\dv q.ws=dv (a.take q.i)*2^k) (fun q=>a.length-q.i) ⟨List.replicate (a.length+1) 0,0⟩
  ⟨bQ _,by simp, .replicate _,fun j _=>DA _ _,by rw[DA];exact dL (by omega),by simp[dv,wJ]⟩ (.cons J (.cons J (.cons J (.cons J (.cons J (.cons J .nil)))))) J ?_
 rintro ⟨ws,i⟩ Gy _ ⟨hia,hwl,hwo,hz,hwi,hinv⟩;simp only[] at hia hwl hwo hz hwi hinv⊢;refine sR<|sy (kc J J) J<|zE<|bH<|?_;refine kD J (fun hc=>?_) (fun hc=>?_) -- slot 32
 ·have hin:i=a.length:=by omega
  refine i4<|eh<|eh<|i6<|sR<|sm J J<|?_;refine oD b2 (.hd ..) (fun G3 _ hgb=>?_);have hD:cd G3 ⟨some ⟨b2,0,none⟩,a.length+1,a.length+1⟩ ws:= .of_block hwo hgb.h hwl.symm (aL _) (by rw[aU (by simp)]);have hdv:dv a*2^k=dv ws:=by rw[hinv,hin,aU (aL _)]
  refine sc (zC J J (iO hD (by omega)) J ?_);rintro _ G4 _ rfl;refine sa J J<|zE<|dO<|?_;refine zD (.tmp J .nil) ⟨⟨some ⟨b2,0,none⟩,(trimD ws).length,a.length+1⟩,J,?_⟩;have h3:=hD.trim.up (G:=G4);rw[hdv] at hk⊢;exact⟨⟨by rw[nA hwo];exact h3,hk⟩,aL _⟩
 have hia':i<a.length:=by omega
 have hga:=hok.get i;have hp32:(2:Nat)^k<=2^31:=bY (by omega) (by omega);have hp0:0<(2:Nat)^k:=dL (by omega);have hvb:a.getD i 0*2^k<4294967296*2^k:=kL hga hp0;have hv64:a.getD i 0*2^k<18446744073709551616:=by omega
 refine zK<|bH<|et<|sR<|sm J J<|sy (gw (z:=⟨x.a,a.length,x.c⟩) hxt J J (by omega) (by show(i:Int)<(a.length:Nat);omega)) J<|sy (gI hxt J (by omega)) J<|sa J J<|sa J J<|zE<|bH<|?_;rw[bW];refine dB<|sm J J<|sy (ge J) J<|sm J J<|sy (uP J J (by omega)) J<|?_;rw[qu (a.getD i 0) k (by omega) hv64 (bW k)]
 -- the low digit is a multiple of 2^k
 have hlow:a.getD i 0*2^k%4294967296=a.getD i 0%2^(32-k)*2^k:=by
  have:4294967296=2^(32-k)*2^k:=by rw[<-fX,show 32-k+k=32 by omega]
  rw[this,rW]
 have hlt:a.getD i 0*2^k%4294967296<4294967296:=dW _ (by decide);have hsum:ws.getD i 0+a.getD i 0%2^(32-k)*2^k<4294967296:=by
  have h1:a.getD i 0%2^(32-k)<2^(32-k):=dW _ (dL (by omega));have h2:(a.getD i 0%2^(32-k)+1)*2^k<=2^(32-k)*2^k:=bV _ h1;rw[<-fX,show 32-k+k=32 by omega,dQ] at h2;omega
 refine sa J J<|zE<|sR<|sm J J<|?_;refine sm J J<|sm J J<|sy (dH J J) J<|sy (f9 J J (by omega) (by omega)) J<|?_;rw[show((i:Int)+0).toNat=i by omega];refine sy (qD J (by omega)) J<|sm J J<|sy (jC J) J<|?_;rw[show((a.getD i 0*2^k:Nat):Int)%4294967296=((a.getD i 0%2^(32-k)*2^k:Nat):Int) by rw[<-hlow];rfl];refine sy (ie J J (Yn (ws.getD i 0) (a.getD i 0%2^(32-k)) k hwi hsum)) J<|sy (f9 J J (by omega) (by omega)) J<|?_;rw[show((i:Int)+0).toNat=i by omega];refine sc (kO (d:=ws.getD i 0+a.getD i 0%2^(32-k)*2^k) J J J (.hd ..) (by omega) J ?_);refine zE<|dB<|sm J J<|sm J J<|sm J J<|sy (dH J J) J<|sy (dH J J) J<|sm J J<|sy (lD J J (by decide)) J<|?_;rw[I6];have hhi:a.getD i 0*2^k/4294967296<2^k:=Nat.div_lt_of_lt_mul hvb;refine sy (jC J) J<|sy (f9 J J (by omega) (by omega)) J<|?_;rw[show((i:Int)+0+1).toNat=i+1 by omega];refine sc (kO (d:=a.getD i 0*2^k/4294967296) J J (by omega) (.hd ..) (by simp;omega) J ?_);refine zE<|dB<|sy (dH J J) J<|sm J J<|zE<|?_;refine jg ⟨(ws.set i (ws.getD i 0+a.getD i 0%2^(32-k)*2^k)).set (i+1) (a.getD i 0*2^k/4294967296),i+1⟩ ⟨by show i+1<=_;omega,by simp[hwl],(hwo.set _ hsum).set _ (by omega),fun j hj=>?_,?_,?_⟩ (by show a.length-(i+1)<a.length-i;omega) (.cons J (.cons J (.cons J (.cons J (.cons J (.cons J .nil)))))) J
 ·have hj':i+1<j:=hj
  show((ws.set i _).set (i+1) _).getD j 0=0;rw[w9 (by omega),w9 (by omega)];exact hz j (by omega)
 ·show((ws.set i _).set (i+1) (a.getD i 0*2^k/4294967296)).getD (i+1) 0<2^k
  rw[aX,nN (by simp;omega)];exact hhi
 ·show dv ((ws.set i (ws.getD i 0+a.getD i 0%2^(32-k)*2^k)).set (i+1) (a.getD i 0*2^k/4294967296))=dv (a.take (i+1))*2^k
  have h1:=pn (ws.set i (ws.getD i 0+a.getD i 0%2^(32-k)*2^k)) (i+1) (a.getD i 0*2^k/4294967296) (by simp;omega);rw[w9 (by omega),hz (i+1) (by omega),pZ,fJ] at h1;have h2:=pn ws i (ws.getD i 0+a.getD i 0%2^(32-k)*2^k) (by omega);rw[dX] at h2;rw[h1,iG,dQ,<-hinv,bL,GP (4294967296^i) (a.getD i 0*2^k),<-hlow] at*;rw[fK];omega
end Go.Sx
end
section
namespace Go.Sx
def tF(i:Nat):(4294967296:Nat)^(i+1)=4294967296^i*4294967296:=fK ..
def Ru{U p V T S first third:Nat}(hU:U<(first*4294967296+third+1)*p)(h3:third<4294967296)(hV:(T*4294967296+S)*p<=V)(hT:0<T):
  U<(first/T+1)*V:=by
 have h1:first+1<=(first/T+1)*T:=by
  have:=Nat.lt_mul_div_succ first hT
  rw[bS];omega
 calc U<(first*4294967296+third+1)*p:=hU
  _<=((first+1)*4294967296)*p:=bV _ (by omega)
  _<=(((first/T+1)*T)*4294967296)*p:=bV _ (bV _ h1)
  _=(first/T+1)*((T*4294967296)*p):=by rw[bL (first/T+1),bL (first/T+1)]
  _<=(first/T+1)*V:=fV _ (cR (bV _ (pU _ _)) hV)
def ZO{U p V T S first third v0:Nat}(hU:(first*4294967296+third)*p<=U)(hV:V=(T*4294967296+S)*p+v0)(hv:v0<p)(hlt:U<V*4294967296):first<=T*4294967296+S:=by
 rcases iS (T*4294967296+S) first with h|h
 ·exfalso
  have h1:(T*4294967296+S+1)*p<=first*p:=bV p h
  rw[dQ _ 1,mY] at h1;rw[dQ,qT] at hU;have:0<=third*p:=bQ _;omega
 ·exact h
def WQ{U p V T S first third g r:Nat}(hU:U<(first*4294967296+third+1)*p)(hV:(T*4294967296+S)*p<=V)(hg:first=g*T+r)(hc:r*4294967296+third<g*S):U<g*V:=by
 refine dK hU (cR (bV p (m:=g*(T*4294967296+S)) ?_) ?_)
 ·rw[dX,<-bL,hg,dQ];omega
 ·rw[bL];exact fV _ hV
def EM{U p V T S first third g r v0:Nat}(hU:(first*4294967296+third)*p<=U)(hV:V=(T*4294967296+S)*p+v0)(hv:v0<p)(hT:0<T)(hg:first=g*T+r)(hgB:g<4294967296)(hc:g*S<=r*4294967296+third):g*V<U+V:=by
 have h1:g*((T*4294967296+S)*p)<=U:=by
  rw[<-bL];refine cR (bV p ?_) hU;rw[dX,<-bL,hg,dQ];omega
 have h2:g*v0<=4294967295*v0:=bV _ (by omega);have h3:4294967296*p<=V:=by
  rw[hV];refine cR (bV p ?_) (pU _ _);omega
 have h4:g*V=g*((T*4294967296+S)*p)+g*v0:=by rw[<-dX,<-hV]
 omega
def Sp{U V R g:Nat}(h:U<(g+1)*V)(hr:R+g*V=U):R<V:=by
 rw[dQ,mY] at h;omega
def To{U V R R' g w M:Nat}(h2:g*V<U+V)(hr:R+g*V=U+M)(hb:R'+w*M=R+V)(hR:R<M)(hR':R'<M)(hw:w<=1)(hg:0<g):R'+(g-1)*V=U/\R'<V:=by
 have hgv:g*V=(g-1)*V+V:=by
  conv=>lhs;rw[show g=(g-1)+1 by omega,dQ,mY]
 have:w=1:=by
  rcases iS w 1 with h|h
  ·have:w=0:=by omega
   subst this;omega
  ·omega
 subst this;omega
def wC(us:List Nat)(i:Nat):dv (us.drop i)=us.getD i 0+4294967296*dv (us.drop (i+1)):=by
 rcases iS i us.length with h|h
 ·rw[bX h];simp[dv,List.getD,aZ h]
 ·rw[gN h,gN (by omega)]
  simp[dv,eY h,List.getD]
def vd(us:List Nat)(i:Nat):dv us=dv (us.take i)+4294967296^i*dv (us.drop i):=by
 rcases iS us.length i with h|h
 ·rw[aU (by omega),gN (by omega)];simp[dv]
 ·exact CA us i h
def Cu{us:List Nat}(h:bw us)(i:Nat):dv (us.take i)<4294967296^i:=by
 refine dK (jw (h.take i)) (bY (by decide) ?_);simp[cJ];omega
def BP{us:List Nat}{i:Nat}(hd:dv us<4294967296^i):dv (us.drop i)=0:=by
 have h:=vd us i;rcases fL (dv (us.drop i)) with h0|h0
 ·exact h0
 ·have:=fV (4294967296^i) h0
  omega
def RJ{W W' U E p u x bo b c c1 g d:Nat}(hs:W'+p*u=W+p*x)(hw:W+E=U+(bo+c)*p)(hc:c1=c+g*d)(hx:x+(c1%4294967296+bo)=u+b*4294967296):
  W'+(E+g*d*p)=U+(b+c1/4294967296)*(p*4294967296):=by
 have h1:=congrArg (p* ·) hx;simp only[dX] at h1;have h2:p*c1=p*(c1%4294967296)+p*(c1/4294967296)*4294967296:=by
  rw[bL,<-dX,Nat.mod_add_div']
 have h3:p*c1=p*c+p*(g*d):=by rw[hc,dX]
 rw[dQ,bS bo,bS c] at hw;rw[bS (g*d),dQ,<-bL b,<-bL (c1/4294967296),bS b,bS (c1/4294967296)];rw[<-bL] at h1;omega
def Zx{W W' U E p u x bo b c:Nat}(hs:W'+p*u=W+p*x)(hw:W+E=U+(bo+c)*p)(hx:x+(c+bo)=u+b*4294967296):W'+E=U+b*(p*4294967296):=by
 have h1:=congrArg (p* ·) hx;simp only[dX] at h1;rw[dQ,bS bo,bS c] at hw;rw[<-bL b,bS b];rw[<-bL] at h1;omega
def Xs{W W' R E p u d c:Nat}(hs:W'+p*u=W+p*((c+(u+d))%4294967296))(hw:W+c*p=R+E):W'+(c+(u+d))/4294967296*(p*4294967296)=R+(E+d*p):=by
 have h2:p*(c+(u+d))=p*((c+(u+d))%4294967296)+p*((c+(u+d))/4294967296)*4294967296:=by
  rw[bL,<-dX,Nat.mod_add_div']
 rw[dX p c,dX p u] at h2;rw[bS c] at hw;rw[bS d,<-bL,bS _ p];omega
def Zh{W W' R p u c:Nat}(hs:W'+p*u=W+p*((u+c)%4294967296))(hw:W+c*p=R):W'+(u+c)/4294967296*(p*4294967296)=R:=by
 have h2:p*(u+c)=p*((u+c)%4294967296)+p*((u+c)/4294967296)*4294967296:=by
  rw[bL,<-dX,Nat.mod_add_div']
 rw[dX p u] at h2;rw[bS c] at hw;rw[<-bL,bS _ p];omega
def aFd{us:List Nat}(h:bw us)(i:Nat)(hd:dv us<4294967296^(i+3)):
  dv us=((us.getD (i+2) 0*4294967296+us.getD (i+1) 0)*4294967296+us.getD i 0)*4294967296^i+dv (us.take i):=by
 have h0:=BP hd;rw[vd us i,wC us i,wC us (i+1),wC us (i+2),h0,kW,bS];congr 2;omega
def VP{us:List Nat}(h:bw us)(i:Nat)(hd:dv us<4294967296^(i+2)):
  dv us=(us.getD (i+1) 0*4294967296+us.getD i 0)*4294967296^i+dv (us.take i):=by
 have h0:=BP hd;rw[vd us i,wC us i,wC us (i+1),h0,kW,bS];congr 2;omega
def A0{us:List Nat}{k i d:Nat}(h:bw us)(hd:d<4294967296)(hk:dv us<4294967296^k)(hi:i<k):dv (us.set i d)<4294967296^k:=by
 rw[vd _ k,List.drop_set,if_pos hi,BP hk,pZ,fJ];exact Cu (h.set i hd) k
end Go.Sx
end
section
namespace Go.Sx
open Go Go.Proofs Tryz
def ar7(p k a1 a2 E:Nat)(hk:k<32)(h1:a1<4294967296)(hp:p=2^k):(a1+4294967296*(a2+4294967296*E))/p=(a1+a2*4294967296)/p%4294967296+4294967296*((a2+4294967296*E)/p):=by
 subst hp;have hp0:0<(2:Nat)^k:=dL (by omega);have hB:4294967296=2^(32-k)*2^k:=by rw[<-fX,show 32-k+k=32 by omega]
 -- the quotient and the rest of the quotient by the base
 have hq:(a1+4294967296*(a2+4294967296*E))/2^k/4294967296=(a2+4294967296*E)/2^k:=by
  rw[mW,bS (2^k),<-mW,mZ _ _ (by decide),jT h1,dS]
 have hr:(a1+4294967296*(a2+4294967296*E))/2^k%4294967296=(a1+a2*4294967296)/2^k%4294967296:=by
  have e1:a1+4294967296*(a2+4294967296*E)=(a1+a2*4294967296)+2^k*(2^(32-k)*(4294967296*E)):=by
   rw[<-bL (2^k),bS (2^k) (2^(32-k)),<-hB];omega
  rw[e1,mZ _ _ hp0];rw[show 2^(32-k)*(4294967296*E)=4294967296*(2^(32-k)*E) by rw[kN]];rw[mN]
 have h:=Nat.mod_add_div ((a1+4294967296*(a2+4294967296*E))/2^k) 4294967296;rw[hq,hr] at h;exact h.symm
def J2(a:List Nat)(i:Nat):dv (a.drop i)=a.getD i 0+4294967296*dv (a.drop (i+1)):=by
 by_cases h:i<a.length
 ·rw[bX h,aX,aZ h];rfl
 ·rw[gN (by omega),gN (by omega),Cy (by omega)];rfl
def VM{a:List Nat}(ha:bw a)(k i:Nat)(hk:k<32):dv (a.drop i)/2^k=(a.getD i 0+a.getD (i+1) 0*4294967296)/2^k%4294967296+4294967296*(dv (a.drop (i+1))/2^k):=by
 rw[J2 a i,J2 a (i+1)];exact ar7 _ k _ _ _ hk (ha.get i) J
def Q6{A G:Gh}{x:SV}{ds:List Nat}{k kk:Nat}(hx:cd A x ds)[GL A G](hk32:k<32)(hk:dv ds/2^k<2^kk)(hb:ds.length<=1125899906842):
  Fn prog 390 [x.v, .int .u64 (k:Int)] G (fun v G'=> ∃z:SV,v=z.v/\fj kk G' z (dv ds/2^k)):=by
 have htl:=my ds;have hcall:=fun G1 (_:GL A G1)=>iO (G:=G1) hx (by omega);have hxt:=hx.trim;rw[<-jp ds] at hk⊢;generalize trimD ds=a at*;have hok:=hxt.ok;refine Fn.intro func390 J J ntmps390 J ?_;intro C _ _;refine sR<|sa J J<|zE<|sR<|sm J J<|?_;refine sc (zC J J (hcall _ inferInstance) J ?_);rintro _ G1 _ rfl;refine sa J J<|zE<|bH<|sR<|sm J J<|sy (vi J J (by omega) (by omega) (by decide)) J<|sm J J<|cD J J<|sy (ge J) J<|?_;rw[show(k:Int)/32=0 by omega];refine sy (zi J J) J<|zE<|?_;refine gH J (fun hc=>?_) (fun hc=>?_) -- slot 17
 ·refine sR<|sa J J<|zE<|dO<|?_
  have:a=[]:=bK (by omega);subst this;refine zD (.tmp J .nil) ⟨⟨none,0,0⟩,J,?_⟩;have e0:dv []/2^k=0:=by simp[dv]
  rw[e0];exact⟨by unfold dg;exact .nil _,dL (by omega)⟩
 refine zK<|sR<|sm J J<|sy (vi J J (by omega) (by omega) (by decide)) J<|sy (P0 J) J<|sm J J<|sy (vO J J (by omega) (by decide)) J<|?_;rw[show(k:Int)/32=0 by omega,show(k:Int)%32=k by omega];refine sa J J<|sa J J<|zE<|sR<|sm J J<|cD J J<|sm J J<|sy (jx J J) J<|?_;refine sc (tw J J (by omega) (by omega) (by omega) (by rfl) J ?_);intro b2;rw[te,show((a.length:Int)-0).toNat=a.length by omega];refine sa J J<|zE<|bH<|sR<|sm J J<|cD J J<|sm J J<|zE<|et<|?_;refine kG (X:=L8) (fun q=>[(30, .int .i64 q.i),(29, .int .i64 a.length),(0, .slice x.a a.length x.c),(5, .int .i64 0),(7, .slice (some ⟨b2,0,none⟩) a.length a.length),(6, .int .u64 k)])
  (fun q=>[⟨b2,q.ws.map dI,366,true⟩])
  (fun q _=>q.i<=a.length/\q.ws.length=a.length/\bw q.ws/\dv a/2^k=dv (q.ws.take q.i)+4294967296^q.i*(dv (a.drop q.i)/2^k)) (fun q=>a.length-q.i) ⟨List.replicate a.length 0,0⟩
  ⟨bQ _,by simp, .replicate _,by simp[dv]⟩ (.cons J (.cons J (.cons J (.cons J (.cons J (.cons J .nil)))))) J ?_
 rintro ⟨ws,i⟩ Gy _ ⟨hia,hwl,hwo,hinv⟩;simp only[] at hia hwl hwo hinv⊢;refine sR<|sy (kc J J) J<|zE<|bH<|?_;refine kD J (fun hc=>?_) (fun hc=>?_) -- slot 31
 ·have hin:i=a.length:=by omega
  refine i4<|eh<|eh<|i6<|sR<|sm J J<|?_;refine oD b2 (.hd ..) (fun G3 _ hgb=>?_);have hD:cd G3 ⟨some ⟨b2,0,none⟩,a.length,a.length⟩ ws:= .of_block hwo hgb.h hwl.symm (aL _) (by rw[aU (by simp)]);have hdv:dv a/2^k=dv ws:=by
   rw[hinv,hin,aU (by omega),fU];simp[dv]
  refine sc (zC J J (iO hD (by omega)) J ?_);rintro _ G4 _ rfl;refine sa J J<|zE<|dO<|?_;refine zD (.tmp J .nil) ⟨⟨some ⟨b2,0,none⟩,(trimD ws).length,a.length⟩,J,?_⟩;have h3:=hD.trim.up (G:=G4);rw[hdv] at hk⊢;exact⟨by rw[nA hwo];exact h3,hk⟩
 have hia':i<a.length:=by omega
 have hga:=hok.get i;have hga2:=hok.get (i+1);refine zK<|bH<|et<|sR<|sm J J<|sa J J<|zE<|sR<|sm J J<|sm J J<|sm J J<|sy (dH J J) J<|?_;refine sy (gw (z:=⟨x.a,a.length,x.c⟩) hxt J J (by omega) (by show((i:Int)+0)<(a.length:Nat);omega)) J<|?_;rw[show((i:Int)+0).toNat=i by omega];refine sy (gI hxt J (by omega)) J<|sy (ge J) J<|sa J J<|zE<|?_;refine Ac Unit (fun _=>[(30, .int .i64 i),(8, .int .i64 i),(29, .int .i64 a.length),(0, .slice x.a a.length x.c),(5, .int .i64 0),(7, .slice (some ⟨b2,0,none⟩) a.length a.length),(6, .int .u64 k),(9, .int .u64 ((a.getD i 0+a.getD (i+1) 0*2^32:Nat):Int))]) (fun _=>[⟨b2,ws.map dI,366,true⟩]) (fun _ _=>True) ?_ ?_
 ·refine sR<|sm J J<|sm J J<|sy (dH J J) J<|sy (dH J J) J<|sm J J<|cD J J<|sy (kc J J) J<|?_
  refine zE<|?_;refine gH J (fun hc2=>?_) (fun hc2=>?_) -- slot 46
  ·refine dB<|sm J J<|sm J J<|sm J J<|sm J J<|sy (dH J J) J<|sy (dH J J) J<|sy (gw (z:=⟨x.a,a.length,x.c⟩) hxt J J (by omega) (by show((i:Int)+0+1)<(a.length:Nat);omega)) J<|?_
   rw[show((i:Int)+0+1).toNat=i+1 by omega];refine sy (gI hxt J (by omega)) J<|sy (ge J) J<|sy (uP J J (by decide)) J<|?_;rw[qu (a.getD (i+1) 0) 32 (by decide) (by omega) J];refine sy (ie J J (PP (a.getD i 0) (a.getD (i+1) 0) 32 (by omega) (by omega))) J<|sa J J<|zE<|?_;exact oI () trivial (.cons J (.cons J (.cons J (.cons J (.cons J (.cons J (.cons J (.cons J .nil)))))))) J
  refine zK<|?_;have h0:a.getD (i+1) 0=0:=Cy (by omega);exact oI () trivial (.cons J (.cons J (.cons J (.cons J (.cons J (.cons J (.cons J (.cons (by rw[h0,kV,fJ];rfl) .nil)))))))) J
 rintro _ Gz _ _;refine dB<|sm J J<|sm J J<|sm J J<|sm J J<|sy (lD J J (by omega)) J<|?_;rw[q7 _ k (by omega) (bW k)];refine sy (jC J) J<|sy (f9 J J (by omega) (by omega)) J<|?_;rw[bW];refine sc (kO (d:=(a.getD i 0+a.getD (i+1) 0*2^32)/2^k%4294967296) J J (by rw[nT];rfl) (.hd ..) (by omega) J ?_);refine zE<|dB<|sy (dH J J) J<|sm J J<|zE<|?_;refine jg ⟨ws.set i ((a.getD i 0+a.getD (i+1) 0*2^32)/2^k%4294967296),i+1⟩ ⟨by show i+1<=_;omega,by simp[hwl],hwo.set _ (dW _ (by decide)),?_⟩ (by show a.length-(i+1)<a.length-i;omega) (.cons J (.cons J (.cons J (.cons J (.cons J (.cons J .nil)))))) J;show dv a/2^k=dv ((ws.set i ((a.getD i 0+a.getD (i+1) 0*2^32)/2^k%4294967296)).take (i+1))+4294967296^(i+1)*(dv (a.drop (i+1))/2^k);rw[hinv,pE (by omega),VM hok k i hk32,tF i,dX,bL,jW]
def Yv{V n:Nat}(h1:4294967296^(n-1)<=V)(h2:V<4294967296^n)(hn:0<n):(dg V).length=n:=by
 obtain⟨e,hk,hr⟩:=ek V;have hne:dg V≠[]:=fun h=>by
  rw[h] at e;have:0<4294967296^(n-1):=dL (by decide);simp[dv] at e;omega
 have h3:=qk hr hne;have h4:=jw hk;rw[e] at h3 h4;have h5:=(nK (a:=4294967296) (by decide)).1 (fN h3 h2);have h6:=(nK (a:=4294967296) (by decide)).1 (fN h1 h4);omega
def Zr{t s:Nat}(h0:0<t)(ht:t<4294967296)(hs:s=32-bl t):s<32/\2147483648<=t*2^s/\(t+1)*2^s<=4294967296:=by
 have h1:bl t<=32:=nn.2 ht;have h2:bl t≠0:=fun h=>by
  have:=CJ t;rw[h] at this;omega
 have h3:=CJ t;have h4: ¬t<2^(bl t-1):=fun h=>by
  have:=nn.2 h;omega
 have e1:2^(bl t-1)*2^s=2147483648:=by rw[<-fX,show bl t-1+s=31 by omega]
 have e2:2^bl t*2^s=4294967296:=by rw[<-fX,show bl t+s=32 by omega]
 refine⟨by omega,?_,?_⟩
 ·rw[<-e1];exact bV _ (by omega)
 ·rw[<-e2];exact bV _ h3
def Ue{us:List Nat}(h:bw us)(i:Nat)(hd:us.length=i+1):dv us=us.getD i 0*4294967296^i+dv (us.take i):=by
 have h0:dv (us.drop (i+1))=0:=by rw[gN (by omega)];rfl
 rw[vd us i,wC us i,h0,kW,bS];rfl
def OQ{b:List Nat}(h:dC b)(i:Nat)(hi:b.length=i+1):0<b.getD i 0:=by
 rcases fL (b.getD i 0) with h0|h0
 ·exfalso
  apply h;rw[lY,hi,show i+1-1=i from J];rw[List.getD,aZ (by omega)] at h0;rw[aZ (by omega)];simpa using h0
 ·exact h0
def T9(a:List Nat)(k:Nat):dv (a++List.replicate k 0)=dv a:=by rw[uY,wJ];simp
structure Sj where
 us:List Nat
 qs:List Nat
 j:Nat
structure Yo where
 g:Nat
 r:Nat
structure K5 where
 ws:List Nat
 k:Nat
 bo:Nat
 c:Nat
def VR{P:Program}{t:TypeId}(c:Nat)(h:c<18446744073709551616)(w:World):(binOp .and t (.int .u64 (c:Int)) (.int .u64 4294967295)).run P w= .ok (.int .u64 ((c%4294967296:Nat):Int)) w:=by
 have h1:(BitVec.ofInt 64 (c:Int) &&& BitVec.ofInt 64 4294967295).toNat=c%4294967296:=by
  rw[BitVec.toNat_and,BitVec.ofInt_natCast,BitVec.toNat_ofNat,gQ (by omega),show(BitVec.ofInt 64 4294967295).toNat=2^32-1 from J,Nat.and_two_pow_sub_one_eq_mod]
 have h2:IntKind.u64.wrap ((c%4294967296:Nat):Int)=((c%4294967296:Nat):Int):=by rw[l7];omega
 simp only[binOp];show(Op.intBits .and .u64 (c:Int) 4294967295).run P w=_;unfold Op.intBits;show(pure (Value.int .u64 (IntKind.u64.wrap ((BitVec.ofInt 64 (c:Int) &&& BitVec.ofInt 64 4294967295).toNat:Int))):Sem Value).run P w=_;rw[h1,h2,run_pure]
def rP(u m bo:Nat):Nat:=if m+bo<=u then u-(m+bo) else u+18446744073709551616-(m+bo)
def sub2(u m bo:Nat)(hu:u<4294967296)(hm:m<4294967296)(hb:bo<=1):IntKind.u64.wrap (IntKind.u64.wrap ((u:Int)-(m:Int))-(bo:Int))=((rP u m bo:Nat):Int):=by
 rw[l7,l7];unfold rP;split<;>omega
def Nd(u m bo:Nat)(hu:u<4294967296)(hm:m<4294967296)(hb:bo<=1):rP u m bo%4294967296+(m+bo)=u+rP u m bo/9223372036854775808*4294967296/\rP u m bo/9223372036854775808<=1/\rP u m bo<18446744073709551616:=by
 unfold rP;split<;>omega
def UW{A B G:Gh}{x y:SV}{a b:List Nat}{k1 k2:Nat}(hx:cd A x a)(hy:cd B y b)[GL A G][GL B G](hna:dC a)(hnb:dC b)(hb2:2<=b.length)(hle:dv b<=dv a)
  (hq:dv a/dv b<2^k1)(hr:dv a%dv b<2^k2)(hl:a.length<=112589990684):
  Fn prog 369 [x.v,y.v] G (fun v G'=> ∃z r:SV,v= .tuple #[z.v,r.v]/\fj k1 G' z (dv a/dv b)/\fj k2 G' r (dv a%dv b)):=by
 have hxl:=hx.len;have hyl:=hy.len;obtain⟨n,hn⟩: ∃n,b.length=n+2:=⟨b.length-2,by omega⟩;have hbp:0<dv b:=iY fun h=>by
  rw[Xi hnb] at h;rw[h] at hn;simp at hn
 have hnm:b.length<=a.length:=by
  rcases iS a.length b.length with h|h
  ·have:=r4 hx.ok hnb h
   omega
  ·exact h
 have htp:=OQ hnb (n+1) hn;have htl:=hy.ok.get (n+1);have hbv:=Ue hy.ok (n+1) hn;have hbt:=Cu hy.ok (n+1);obtain⟨s,hs⟩: ∃s,s=32-bl (b.getD (n+1) 0):=⟨_,rfl⟩;obtain⟨hs32,hs1,hs2⟩:=Zr htp htl hs;have hble:bl (b.getD (n+1) 0)<=32:=nn.2 htl;have hpn:0<4294967296^(n+1):=dL (by decide);have hps:0<2^s:=dL (by decide);have hV1:2147483648*4294967296^(n+1)<=dv b*2^s:=by
  refine cR (bV _ hs1) ?_;rw[bL,bS (2^s),<-bL];exact bV _ (by omega)
 have hV2:dv b*2^s<4294967296^(n+2):=by
  refine dK (kL (k:=2^s) (m:=(b.getD (n+1) 0+1)*4294967296^(n+1)) (by rw[dQ,mY];omega) hps) ?_;rw[bL,bS (4294967296^(n+1)),<-bL,tF (n+1),bS _ 4294967296];exact bV _ hs2
 have hVl:(dg (dv b*2^s)).length=n+2:=Yv (by show 4294967296^(n+1)<=_;omega) hV2 (by omega);have hal:=jw hx.ok;have hU2:dv a*2^s<4294967296^(a.length+1):=by
  rw[tF];exact mT hal (dK (Nat.pow_lt_pow_right (by decide) hs32) (by decide))
 have hUl1:(dg (dv a*2^s)).length<=a.length+1:=by
  have h1:=Lx (ek (dv a*2^s)).2.2 (k:=32*(a.length+1)) (by rw[(ek _).1,oM];exact hU2);omega
 have hUl0:a.length<=(dg (dv a*2^s)).length:=by
  have hane:a≠[]:=fun h=>by
   have:=congrArg List.length h;simp only[iR] at this;omega
  have h1:=qk hna hane;have h2:=jw (ek (dv a*2^s)).2.1;rw[(ek _).1] at h2;have h3:dv a<=dv a*2^s:=qR _ hps;have h4:=(nK (a:=4294967296) (by decide)).1 (fN (cR h1 h3) h2);omega
 have hU3:dv a*2^s<dv b*2^s*4294967296^(a.length-n-1):=by
  have h1:4294967296^(n+1)*4294967296^(a.length-n-1)=4294967296^a.length:=by rw[<-fX,show n+1+(a.length-n-1)=a.length by omega]
  refine dK (kL hal hps) (cR (fV _ (bY (by decide) (show s<=31 by omega))) ?_);rw[<-h1,bS,<-bL];exact bV _ hV1
 have hta:=I3 hna;have htb:=I3 hnb;refine Fn.intro func369 J J ntmps369 J ?_;intro C _ _;refine sR<|sa J J<|sa J J<|zE<|Yp<|sR<|sm J J<|sm J J<|cD J J<|sy (jx J J) J<|?_;refine sy (gw hy J J (by omega) (by omega)) J<|?_;rw[show((y.n:Int)-1).toNat=n+1 by omega];refine sy (gI hy J (by omega)) J<|?_;refine sc (zC J J (EA htl) J ?_);rintro _ G1 _ rfl;refine sy (ge J) J<|?_;rw[show(32-(bl (b.getD (n+1) 0):Int))=(s:Int) by omega];refine sa J J<|zE<|sR<|sm J J<|sm J J<|?_;refine sc (zC J J (Lk (kk:=32*(a.length+1)) hx hs32 (by rw[oM];exact hU2) (by omega)) J ?_);rintro _ G2 _ ⟨u,rfl,hu,huc⟩;have hul:=hu.len;rw[hta] at huc;refine sc (FH (by rfl) (by rfl) (by rfl) (by rfl) J ?_);intro b3;refine sc (xi (z:= .int .u32 0) (m:=2) J J (P' hu.d) (vT inferInstance J) (by omega) (by decide) (by omega) J ?_);intro b4 cap h1;have ecs:(dg (dv a*2^s)).map dI++[Value.int .u32 0, .int .u32 0]++de (.int .u32 0) (cap-(u.n+2))=(dg (dv a*2^s)++List.replicate (cap-u.n) 0).map dI:=by
  rw[te,show cap-u.n=(cap-(u.n+2))+1+1 by omega,mV,mV];simp[dI]
 rw[ecs];clear ecs;have hus:dv (dg (dv a*2^s)++List.replicate (cap-u.n) 0)=dv a*2^s:=by rw[T9,(ek _).1]
 have huo:bw (dg (dv a*2^s)++List.replicate (cap-u.n) 0):=(ek _).2.1.append (.replicate _);have hulen:(dg (dv a*2^s)++List.replicate (cap-u.n) 0).length=cap:=by simp;omega
 generalize dg (dv a*2^s)++List.replicate (cap-u.n) 0=us0 at hus huo hulen⊢;refine sm J J<|cD J J<|sy (dH J J) J<|sy (Au J J (by omega) (by omega)) J<|sa J J<|zE<|sR<|sm J J<|?_;refine sm J J<|?_;refine sc (zC J J (Lk (kk:=32*(n+2)) hy hs32 (by rw[oM];exact hV2) (by omega)) J ?_);rintro _ G4 _ ⟨v,rfl,hv,_⟩;have hvl:=hv.len;obtain⟨hvv,hvo,hvn⟩:=ek (dv b*2^s);replace hv:=hv.d;rw[hVl] at hvl;generalize hvs:dg (dv b*2^s)=vs at*;refine sa J J<|zE<|sR<|sm J J<|cD J J<|sa J J<|zE<|bH<|dr (fun _=>false) [(0,true),(1,true),(2,true),(3,true),(4,true),(5,true),(6,true),(7,true),(8,true),(9,true),(10,true),(11,true),(12,true),(13,true)] follows (by kernel_rfl)<|?_;refine dM J J J<|dM J J J<|dy J (fun _=>jx J J (by omega) (by omega)) J J<|dy J (fun _=>gw hv J J (by omega) (by omega)) J J<|?_;rw[show((v.n:Int)-1).toNat=n+1 by omega];have hvt:=hvo.get (n+1);have hv2:=hvo.get n;refine dy J (fun _=>gI hv J (by omega)) J J<|dy J (fun _=>ge J (by omega) (by omega)) J J<|dM J J J<|dM J J J<|?_;refine dy J (fun _=>jx J J (by omega) (by omega)) J J<|dy J (fun _=>gw hv J J (by omega) (by omega)) J J<|?_;rw[show((v.n:Int)-2).toNat=n by omega];refine dy J (fun _=>gI hv J (by omega)) J J<|?_;refine dy J (fun _=>ge J (by omega) (by omega)) J J<|dA J J J<|dA J J J<|dn<|sR<|sm J J<|?_;refine cD J J<|sm J J<|sy (jx J J) J<|?_;obtain⟨l,hlq⟩: ∃l,a.length=n+1+l:=⟨a.length-n-1,by omega⟩;rw[show a.length-n-1=l by omega] at hU3;rw[show(((x.n:Int)+1).toNat:Int)-v.n=(l:Nat) by omega,show((x.n:Int)+1).toNat=a.length+1 by omega]
 refine sc (tw J J (by omega) (by omega) (by omega) (by rfl) J ?_);intro b5;rw[te,bW];refine O6 [_,_] (.cons_cons _ (.cons_cons _ (.cons _ .slnil))) ?_;refine sa J J<|zE<|bH<|YA<|bH<|sR<|sm J J<|cD J J<|sy (jx J J) J<|sa J J<|zE<|et<|?_;refine kG (X:=Sj) (fun q=>[(13, .int .i64 ((q.j:Int)-1)),(7, .slice (some ⟨b4,0,none⟩) (a.length+1) cap),(9, .int .i64 v.n),(10, .int .u64 (vs.getD (n+1) 0:Nat)),(11, .int .u64 (vs.getD n 0:Nat)),(8, .slice v.a v.n v.c),(12, .slice (some ⟨b5,0,none⟩) l l),(6, .int .u64 s)])
  (fun q=>[⟨b5,q.qs.map dI,366,true⟩,⟨b4,q.us.map dI,366,true⟩])
  (fun q _=>q.us.length=cap/\bw q.us/\q.qs.length=l/\bw q.qs/\q.j<=l/\(∀i,i<q.j->q.qs.getD i 0=0)/\dv a*2^s=dv q.us+dv vs*dv q.qs/\dv q.us<dv vs*4294967296^q.j) (fun q=>q.j) ⟨us0,List.replicate l 0,l⟩
  ⟨hulen,huo,by simp, .replicate _,aL _,fun i _=>by simp[List.getD,List.getElem?_replicate];split<;>rfl,by simp only[wJ];omega,by simp only[hus,hvv];exact hU3⟩ (.cons J (.cons J (.cons J (.cons J (.cons J (.cons J (.cons J (.cons J .nil)))))))) J ?_
 rintro ⟨us,qs,j⟩ Gx _ ⟨hul2,huo2,hql,hqo,hjl,hq0,hinv,hlt⟩;simp only[] at hul2 huo2 hql hqo hjl hq0 hinv hlt⊢;refine bH<|sR<|sm J J<|sy (zi J J) J<|zE<|?_;refine kD J (fun hc=>?_) (fun hc=>?_) -- slot 68
 ·have hj0:j=0:=by omega
  subst hj0;refine i4<|eh<|eh<|i6<|bH<|?_;refine oD b5 (.hd ..) (fun G5 _ hgb5=>?_);refine oD b4 (.hd ..) (fun G6 _ hgb4=>?_);refine dr (fun _=>false) [(0,true),(2,true),(3,true),(4,true),(5,true),(1,false),(6,false),(7,true),(8,true)] follows (by kernel_rfl)<|?_;have hDq:cd G6 ⟨some ⟨b5,0,none⟩,l,l⟩ qs:= .of_block hqo (hgb5.up (G:=G6)) hql.symm (aL _) (by rw[aU (by simp)]);have hut:dv (us.take (n+2))=dv us:=by
   have h0:=vd us (n+2);rw[BP (by rw[qN,kS,hvv] at hlt;omega)] at h0;omega
  have hDu:cd G6 ⟨some ⟨b4,0,none⟩,n+2,cap⟩ (us.take (n+2)):= .of_block (huo2.take _) hgb4.h (by simp;omega) (by omega) (by rw[jZ,cJ,iK (by omega)]);have hV0:0<dv vs:=by rw[hvv];exact kQ hbp hps
  rw[qN,kS] at hlt;have hdq:dv a/dv b=dv qs:=by
   rw[<-Nat.mul_div_mul_right _ _ hps,hinv,<-hvv,mZ _ _ hV0,jT hlt,dS]
  have hdr:dv a%dv b=dv (us.take (n+2))/2^s:=by
   have:dv us=dv a%dv b*2^s:=by
    rw[<-rW,hinv,<-hvv,mN,gQ hlt]
   rw[hut,this,Nat.mul_div_cancel _ hps]
  refine dM J J J<|dM J J J<|dM J J J<|dy J (fun _=>Au J J (by omega) (by omega)) J J<|?_;rw[show(v.n:Int).toNat=n+2 by omega];refine dM J J J<|?_;refine dc J J (zC J J (iO hDq (by omega)) J ?_);rintro _ G7 _ rfl;refine qa<|?_;refine dc J J (zC J J (Q6 (kk:=k2) hDu hs32 (by rw[<-hdr];exact hr) (by simp;omega)) J ?_);rintro _ G8 _ ⟨r,rfl,hr8⟩;refine qa<|dA J J J<|dA J J J<|dn<|dO<|?_;refine zD (.tmp J (.tmp J .nil)) ⟨⟨some ⟨b5,0,none⟩,(trimD qs).length,l⟩,r,J,?_,?_⟩
  ·rw[hdq]
   refine⟨?_,by rw[<-hdq];exact hq⟩;rw[nA hqo];exact hDq.trim.up
  ·rw[hdr];exact hr8
 obtain⟨i,rfl⟩: ∃i,j=i+1:=⟨j-1,by omega⟩;rw[show(((i+1:Nat):Int)-1)=i by omega];have hpi:0<4294967296^i:=dL (by decide)
 -- the digits that the guess looks at
 obtain⟨p,hp⟩: ∃p,p=4294967296^(i+n):=⟨_,rfl⟩;obtain⟨V,hV⟩: ∃V,V=dv vs*4294967296^i:=⟨_,rfl⟩;have hvB:dv vs<4294967296^(n+2):=by rw[hvv];exact hV2
 have hvh:=VP hvo n hvB;have hltV:dv us<V*4294967296:=by rw[hV,bL,<-tF];exact hlt
 have hV0:0<V:=by rw[hV];exact kQ (by rw[hvv];exact kQ hbp hps) hpi
 have hT0:0<vs.getD (n+1) 0:=OQ hvn (n+1) hVl;have hVp:V=(vs.getD (n+1) 0*4294967296+vs.getD n 0)*p+dv (vs.take n)*4294967296^i:=by
  rw[hV,hvh,dQ,hp,fX,bS (4294967296^i),bL]
 have hv0:dv (vs.take n)*4294967296^i<p:=by
  rw[hp,fX,bS];exact Nat.mul_lt_mul_of_pos_left (Cu hvo n) hpi
 have hM:dv us<4294967296^(i+n+3):=by
  refine dK hlt ?_;rw[show i+n+3=(n+2)+(i+1) by omega,fX 4294967296 (n+2) (i+1)];exact bV _ (nL hvB)
 have huh:=aFd huo2 (i+n) hM;rw[<-hp] at huh;have hu0:=Cu huo2 (i+n);rw[<-hp] at hu0;have hg0:=huo2.get (i+n);have hg1:=huo2.get (i+n+1);have hg2:=huo2.get (i+n+2);refine zK<|bH<|et<|bH<|dr (fun _=>false) [(0,true),(1,true),(2,true),(3,true),(4,true),(5,true),(6,true),(7,true),(8,true),(9,true),(10,true),(11,true),(12,true),(13,true),(14,true),(15,true),(16,true),(17,true)] follows (by kernel_rfl)<|?_;refine dM J J J<|dM J J J<|dM J J J<|dy J (fun _=>dH J J (by omega) (by omega)) J J<|?_;refine dy J (fun _=>f9 J J (by omega) (by omega)) J J<|?_;rw[show((i:Int)+(v.n:Int)).toNat=i+n+2 by omega];refine dy J (fun _=>qD J (by omega)) J J<|dy J (fun _=>ge J (by omega) (by omega)) J J<|dy J (fun _=>uP J J (by decide)) J J<|?_;rw[qu (us.getD (i+n+2) 0) 32 (by decide) (by omega) J];refine dM J J J<|dM J J J<|dM J J J<|dy J (fun _=>dH J J (by omega) (by omega)) J J<|?_;refine dy J (fun _=>jx J J (by omega) (by omega)) J J<|dy J (fun _=>f9 J J (by omega) (by omega)) J J<|?_;rw[show((i:Int)+(v.n:Int)-1).toNat=i+n+1 by omega];refine dy J (fun _=>qD J (by omega)) J J<|?_;refine dy J (fun _=>ge J (by omega) (by omega)) J J<|dy J (fun _=>ie J J (GH (us.getD (i+n+1) 0) (us.getD (i+n+2) 0) 32 (by omega) (by omega))) J J<|dA J J J<|dn<|bH<|?_;obtain⟨f,hf⟩: ∃f,f=us.getD (i+n+2) 0*4294967296+us.getD (i+n+1) 0:=⟨_,rfl⟩;rw[show us.getD (i+n+1) 0+us.getD (i+n+2) 0*2^32=f by omega];rw[<-hf] at huh;have hfB:f<18446744073709551616:=by omega
 refine dr (fun _=>false) [(0,true),(1,true),(2,true),(3,true),(4,true),(5,true),(6,true),(7,true)] follows (by kernel_rfl)<|?_;refine dM J J J<|dM J J J<|dy J (fun _=>vi J J (by omega) (by omega) (by omega)) J J<|dM J J J<|dM J J J<|?_;refine dy J (fun _=>vO J J (by omega) (by omega)) J J<|dA J J J<|dA J J J<|dn<|?_;rw[show((f:Int)/((vs.getD (n+1) 0:Nat):Int))=((f/vs.getD (n+1) 0:Nat):Int) by rfl,show((f:Int)%((vs.getD (n+1) 0:Nat):Int))=((f%vs.getD (n+1) 0:Nat):Int) by rfl]
 -- GUESS
 have hUle:(f*4294967296+us.getD (i+n) 0)*p<=dv us:=by omega
 have hUlt:dv us<(f*4294967296+us.getD (i+n) 0+1)*p:=by rw[dQ _ 1,mY];omega
 have hVle:(vs.getD (n+1) 0*4294967296+vs.getD n 0)*p<=V:=by rw[hVp];exact pU _ _
 have hfT:f<=vs.getD (n+1) 0*4294967296+vs.getD n 0:=ZO hUle hVp hv0 hltV;refine Ac Nat (fun g=>[(15, .int .u64 (g:Nat)),(13, .int .i64 i),(7, .slice (some ⟨b4,0,none⟩) (a.length+1) cap),(9, .int .i64 v.n),(10, .int .u64 (vs.getD (n+1) 0:Nat)),(11, .int .u64 (vs.getD n 0:Nat)),(8, .slice v.a v.n v.c),(12, .slice (some ⟨b5,0,none⟩) l l),(6, .int .u64 s)]) (fun _=>[⟨b5,qs.map dI,366,true⟩,⟨b4,us.map dI,366,true⟩]) (fun g _=>g<4294967296/\dv us<(g+1)*V/\g*V<dv us+V) ?_ ?_
 ·refine et<|?_
  refine kG (X:=Yo) (fun q=>[(15, .int .u64 q.g),(16, .int .u64 q.r),(13, .int .i64 i),(7, .slice (some ⟨b4,0,none⟩) (a.length+1) cap),(9, .int .i64 v.n),(10, .int .u64 (vs.getD (n+1) 0:Nat)),(11, .int .u64 (vs.getD n 0:Nat)),(8, .slice v.a v.n v.c),(12, .slice (some ⟨b5,0,none⟩) l l),(6, .int .u64 s)]) (fun _=>[⟨b5,qs.map dI,366,true⟩,⟨b4,us.map dI,366,true⟩]) (fun q _=>f=q.g*vs.getD (n+1) 0+q.r/\q.r<4294967296/\dv us<(q.g+1)*V) (fun q=>q.g) ⟨f/vs.getD (n+1) 0,f%vs.getD (n+1) 0⟩
   ⟨(Nat.div_add_mod' ..).symm,pV (dW _ hT0) hvt,Ru hUlt hg0 hVle hT0⟩ (.cons J (.cons J (.cons J (.cons J (.cons J (.cons J (.cons J (.cons J (.cons J (.cons J .nil)))))))))) J ?_
  rintro ⟨g,r⟩ Gy _ ⟨hfg,hrB,hlo⟩;simp only[] at hfg hrB hlo⊢;have hgT:g*1<=g*vs.getD (n+1) 0:=fV _ hT0;refine bH<|sR<|sm J J<|sy (lD J J (by decide)) J<|?_;rw[q7 g 32 (by decide) J];refine sy (uC J J) J<|sm J J<|?_;refine BC 97 J (fun hg=>?_) (fun hg=>?_)
  ·have hgB:4294967296<=g:=by omega
   have hdec:dv us<g*V:=dK hltV (by rw[bS];exact bV _ hgB);refine ss J J J J<|ss J J J J<|ss J J J J<|ss J J J J<|ss J J J J<|ss J J J J<|ss J J J J<|ss J J J J<|ss J J J J<|?_;refine ss J J J J<|ss J J J J<|ss J J J J<|ss J J J J<|ss J J J J<|ss J J J J<|sy (zo J J) J<|zE<|Aq J<|?_;refine zK<|et<|?_;obtain⟨g',rfl⟩: ∃g',g=g'+1:=⟨g-1,by rcases fL g with h|h;(rw[h,kV] at hdec;omega);omega⟩;refine sR<|sm J J<|sy (Nh J J (by omega) (by omega)) J<|sa J J<|zE<|sR<|sm J J<|sm J J<|sy (qx J J) J<|?_;refine sa J J<|zE<|sR<|sm J J<|sy (lD J J (by decide)) J<|?_;rw[show((g'+1:Nat):Int)-1=(g':Nat) by omega,show((r:Int)+((vs.getD (n+1) 0:Nat):Int))=((r+vs.getD (n+1) 0:Nat):Int) from J,q7 (r+vs.getD (n+1) 0) 32 (by decide) J];have hfg':f=g'*vs.getD (n+1) 0+(r+vs.getD (n+1) 0):=by rw[hfg,dQ,mY];omega
   refine sy (uC J J) J<|zE<|?_;refine gH J (fun hc3=>?_) (fun hc3=>?_) -- slot 121
   ·have hr3:4294967296<=r+vs.getD (n+1) 0:=by omega
    have hgB:g'<4294967296:=by
     rcases iS g' 4294967296 with h|h
     ·exact h
     ·have:=bV (vs.getD (n+1) 0) h
      omega
    have hgS:g'*vs.getD n 0<=(r+vs.getD (n+1) 0)*4294967296+us.getD (i+n) 0:=by
     have h1:=kX (nL hgB) (nL hv2);omega
    refine i4<|LU J<|eh<|i6<|?_;exact oI g' ⟨hgB,hdec,EM hUle hVp hv0 hT0 hfg' hgB hgS⟩ (.cons J (.cons J (.cons J (.cons J (.cons J (.cons J (.cons J (.cons J (.cons J .nil))))))))) J
   refine zK<|?_;exact jg ⟨g',r+vs.getD (n+1) 0⟩ ⟨hfg',by show r+vs.getD (n+1) 0<_;omega,hdec⟩ (by show g'<g'+1;omega) (.cons J (.cons J (.cons J (.cons J (.cons J (.cons J (.cons J (.cons J (.cons J (.cons J .nil)))))))))) J
  have hgB:g<4294967296:=by omega
  have hgS:g*vs.getD n 0<4294967296*4294967296:=mT hgB hv2;have e2:(g:Int)*((vs.getD n 0:Nat):Int)=((g*vs.getD n 0:Nat):Int):=J;refine fg J J (mp J) J<|fg J J (mp J) J<|fg J J (E4 J J (by rw[e2];omega) (by rw[e2];omega)) J<|fg J J (mp J) J<|fg J J (uP J J (by decide)) J<|?_;rw[qu r 32 (by decide) (by omega) J];refine fg J J (mp J) J<|fg J J (mp J) J<|fg J J (mp J) J<|fg J J (dH J J) J<|fg J J (jx J J) J<|?_;refine fg J J (f9 J J (by omega) (by omega)) J<|?_;rw[show((i:Int)+(v.n:Int)-2).toNat=i+n by omega];refine fg J J (qD J (by omega)) J<|fg J J (ge J) J<|fg J J (ie J J (GH (us.getD (i+n) 0) r 32 (by omega) (by omega))) J<|?_;refine fg J J (s5 J J) J<|sy (x5 J J) J<|zE<|?_;rw[e2];refine kD J (fun hc2=>?_) (fun hc2=>?_) -- slot 113
  ·refine i4<|eh<|eh<|i6<|?_
   exact oI g ⟨hgB,hlo,EM hUle hVp hv0 hT0 hfg hgB (by omega)⟩ (.cons J (.cons J (.cons J (.cons J (.cons J (.cons J (.cons J (.cons J (.cons J .nil))))))))) J
  have hdec:dv us<g*V:=WQ hUlt hVle hfg (by omega);refine zK<|et<|?_;obtain⟨g',rfl⟩: ∃g',g=g'+1:=⟨g-1,by rcases fL g with h|h;(rw[h,kV] at hdec;omega);omega⟩;refine sR<|sm J J<|sy (Nh J J (by omega) (by omega)) J<|sa J J<|zE<|sR<|sm J J<|sm J J<|sy (qx J J) J<|?_;refine sa J J<|zE<|sR<|sm J J<|sy (lD J J (by decide)) J<|?_;rw[show((g'+1:Nat):Int)-1=(g':Nat) by omega,show((r:Int)+((vs.getD (n+1) 0:Nat):Int))=((r+vs.getD (n+1) 0:Nat):Int) from J,q7 (r+vs.getD (n+1) 0) 32 (by decide) J];have hfg':f=g'*vs.getD (n+1) 0+(r+vs.getD (n+1) 0):=by rw[hfg,dQ,mY];omega
  refine sy (uC J J) J<|zE<|?_;refine gH J (fun hc3=>?_) (fun hc3=>?_) -- slot 121
  ·have hr3:4294967296<=r+vs.getD (n+1) 0:=by omega
   have hgB:g'<4294967296:=by
    rcases iS g' 4294967296 with h|h
    ·exact h
    ·have:=bV (vs.getD (n+1) 0) h
     omega
   have hgS:g'*vs.getD n 0<=(r+vs.getD (n+1) 0)*4294967296+us.getD (i+n) 0:=by
    have h1:=kX (nL hgB) (nL hv2);omega
   refine i4<|LU J<|eh<|i6<|?_;exact oI g' ⟨hgB,hdec,EM hUle hVp hv0 hT0 hfg' hgB hgS⟩ (.cons J (.cons J (.cons J (.cons J (.cons J (.cons J (.cons J (.cons J (.cons J .nil))))))))) J
  refine zK<|?_;exact jg ⟨g',r+vs.getD (n+1) 0⟩ ⟨hfg',by show r+vs.getD (n+1) 0<_;omega,hdec⟩ (by show g'<g'+1;omega) (.cons J (.cons J (.cons J (.cons J (.cons J (.cons J (.cons J (.cons J (.cons J (.cons J .nil)))))))))) J
 rintro g Gz _ ⟨hgB,hlo,hhi⟩
 -- SUB
 refine sR<|sa J J<|sa J J<|zE<|bH<|sR<|sm J J<|cD J J<|sm J J<|zE<|et<|?_;refine kG (X:=K5) (fun q=>[(18, .int .u64 q.c),(17, .int .u64 q.bo),(124, .int .i64 q.k),(123, .int .i64 v.n),(122, .slice v.a v.n v.c),(15, .int .u64 (g:Nat)),(13, .int .i64 i),(7, .slice (some ⟨b4,0,none⟩) (a.length+1) cap),(9, .int .i64 v.n),(10, .int .u64 (vs.getD (n+1) 0:Nat)),(11, .int .u64 (vs.getD n 0:Nat)),(8, .slice v.a v.n v.c),(12, .slice (some ⟨b5,0,none⟩) l l),(6, .int .u64 s)]) (fun q=>[⟨b5,qs.map dI,366,true⟩,⟨b4,q.ws.map dI,366,true⟩])
  (fun q _=>q.ws.length=cap/\bw q.ws/\q.k<=n+2/\q.bo<=1/\q.c<4294967296/\dv q.ws<4294967296^(i+n+3)/\dv q.ws+g*(dv (vs.take q.k)*4294967296^i)=dv us+(q.bo+q.c)*4294967296^(i+q.k)) (fun q=>n+2-q.k) ⟨us,0,0,0⟩
  ⟨hul2,huo2,bQ _,bQ _,by show(0:Nat)<4294967296;decide,hM,by simp[dv]⟩ (.cons J (.cons J (.cons J (.cons J (.cons J (.cons J (.cons J (.cons J (.cons J (.cons J (.cons J (.cons J (.cons J (.cons J .nil)))))))))))))) J ?_
 rintro ⟨ws,k,bo,c⟩ Gy _ ⟨hwl,hwo,hk,hbo,hc4,hwM,hw⟩;simp only[] at hwl hwo hk hbo hc4 hwM hw⊢;refine sR<|sy (kc J J) J<|zE<|bH<|?_;refine kD J (fun hkc=>?_) (fun hkc=>?_) -- slot 125
 ·have hkn:k=n+2:=by omega
  subst hkn;rw[aU (by omega),<-hV] at hw;refine i4<|eh<|eh<|i6<|sR<|sm J J<|sm J J<|sm J J<|sy (dH J J) J<|sy (f9 J J (by omega) (by omega)) J<|?_;rw[show((i:Int)+(v.n:Int)).toNat=i+n+2 by omega];have hwg:=hwo.get (i+n+2);refine sy (qD J (by omega)) J<|sy (ge J) J<|sm J J<|sy (ul J J) J<|sm J J<|sy (ul J J) J<|?_;rw[sub2 _ _ _ hwg hc4 hbo];obtain⟨hx1,hx2,hx3⟩:=Nd (ws.getD (i+n+2) 0) c bo hwg hc4 hbo;generalize rP (ws.getD (i+n+2) 0) c bo=xx at hx1 hx2 hx3⊢;refine sa J J<|zE<|sR<|sm J J<|sm J J<|sm J J<|sy (dH J J) J<|sm J J<|sy (jC J) J<|sy (f9 J J (by omega) (by omega)) J<|?_;rw[show((i:Int)+(v.n:Int)).toNat=i+n+2 by omega];refine sc (kO (d:=xx%4294967296) J J (by rw[nT];rfl) (.tl _ _ _ _ _ _ _ _ (.hd ..)) (by omega) J ?_);have hs2:=pn ws (i+n+2) (xx%4294967296) (by omega);have hl2:=Zx hs2 hw hx1;rw[<-tF] at hl2;have hM2:=A0 (i:=i+n+2) (d:=xx%4294967296) hwo (dW _ (by decide)) hwM (by omega);have ho2:=hwo.set (i+n+2) (d:=xx%4294967296) (dW _ (by decide));have hn2:(ws.set (i+n+2) (xx%4294967296)).length=cap:=by rw[aS];exact hwl
  generalize ws.set (i+n+2) (xx%4294967296)=ws2 at hl2 hM2 ho2 hn2⊢;replace hl2:dv ws2+g*V=dv us+xx/9223372036854775808*4294967296^(i+n+3):=hl2;have hqset: ∀d,dv (qs.set i d)=dv qs+4294967296^i*d:=fun d=>by
   have:=pn qs i d (by omega);rw[hq0 i (by omega)] at this;simpa using this
  have hqz: ∀d i',i'<i->(qs.set i d).getD i' 0=0:=fun d i' h=>by
   have:=hq0 i' (by omega);simpa[List.getD,nZ,show¬i=i' by omega] using this
  have hinv2: ∀d R,R+d*V=dv us->dv a*2^s=R+dv vs*dv (qs.set i d):=fun d R h=>by
   rw[hinv,<-h,hqset,dX,<-bL,<-hV,bS d];omega
  refine zE<|sR<|sm J J<|sm J J<|sm J J<|sy (jC J) J<|sy (f9 J J (by omega) (by omega)) J<|?_;rw[bW];refine sc (kO (d:=g) J J (O2 g hgB) (.hd ..) (by omega) J ?_);refine zE<|bH<|sR<|sm J J<|sy (lD J J (by decide)) J<|?_;rw[q7 xx 63 (by decide) J];refine sy (oc J J) J<|zE<|?_;refine gH J (fun ht=>?_) (fun ht=>?_) -- slot 184
  ·have ht0:xx/2^63=0:=by omega
   rw[show xx/9223372036854775808=xx/2^63 from J,ht0,kV,fJ] at hl2;refine i4<|eh<|i6<|dB<|sm J J<|sy (jx J J) J<|sa J J<|zE<|?_;exact jg ⟨ws2,qs.set i g,i⟩ ⟨hn2,ho2,by simpa using hql,hqo.set _ hgB,by show i<=l;omega,hqz g,hinv2 g _ hl2,by show dv ws2<_;rw[<-hV];exact Sp hlo hl2⟩ (by show i<i+1;omega) (.cons J (.cons J (.cons J (.cons J (.cons J (.cons J (.cons J (.cons J .nil)))))))) J
  have ht1:xx/9223372036854775808=1:=by
   have:xx/9223372036854775808≠0:=fun h=>ht (by rw[show xx/2^63=xx/9223372036854775808 from J,h];rfl);omega
  rw[ht1,mY] at hl2;obtain⟨g',rfl⟩: ∃g',g=g'+1:=⟨g-1,by rcases fL g with h|h;(rw[h,kV] at hl2;omega);omega⟩;refine zK<|sR<|sm J J<|sm J J<|sy (f9 J J (by omega) (by omega)) J<|?_;rw[bW];refine sy (qD J (by simp;omega)) J<|?_;rw[show(qs.set i (g'+1)).getD i 0=g'+1 by simp[List.getD,nZ,show i<qs.length by omega]];refine sy (ul J J) J<|sy (f9 J J (by omega) (by omega)) J<|?_;rw[bW];refine sc (kO (d:=g') J J (by rw[pD];omega) (.hd ..) (by simp;omega) J ?_);rw[List.set_set];refine zE<|sR<|sa J J<|zE<|bH<|sR<|sm J J<|cD J J<|sm J J<|zE<|et<|?_;refine kG (X:=K5) (fun q=>[(18, .int .u64 q.c),(193, .int .i64 q.k),(192, .int .i64 v.n),(191, .slice v.a v.n v.c),(13, .int .i64 i),(7, .slice (some ⟨b4,0,none⟩) (a.length+1) cap),(9, .int .i64 v.n),(10, .int .u64 (vs.getD (n+1) 0:Nat)),(11, .int .u64 (vs.getD n 0:Nat)),(8, .slice v.a v.n v.c),(12, .slice (some ⟨b5,0,none⟩) l l),(6, .int .u64 s)]) (fun q=>[⟨b5,(qs.set i g').map dI,366,true⟩,⟨b4,q.ws.map dI,366,true⟩])
   (fun q _=>q.ws.length=cap/\bw q.ws/\q.k<=n+2/\q.c<=1/\dv q.ws<4294967296^(i+n+3)/\dv q.ws+q.c*4294967296^(i+q.k)=dv ws2+dv (vs.take q.k)*4294967296^i) (fun q=>n+2-q.k) ⟨ws2,0,0,0⟩
   ⟨hn2,ho2,bQ _,bQ _,hM2,by simp[dv]⟩ (.cons J (.cons J (.cons J (.cons J (.cons J (.cons J (.cons J (.cons J (.cons J (.cons J (.cons J (.cons J .nil)))))))))))) J ?_
  rintro ⟨wa,k,_,ca⟩ Gz _ ⟨hal2,hao,hak,hac,haM,ha⟩;simp only[] at hal2 hao hak hac haM ha⊢;refine sR<|sy (kc J J) J<|zE<|bH<|?_;refine kD J (fun hkd=>?_) (fun hkd=>?_) -- slot 194
  ·have hkn:k=n+2:=by omega
   subst hkn;rw[aU (by omega),<-hV] at ha;have hag:=hao.get (i+n+2);refine i4<|eh<|eh<|i6<|dB<|sm J J<|sm J J<|sm J J<|sy (dH J J) J<|sy (f9 J J (by omega) (by omega)) J<|?_;rw[show((i:Int)+(v.n:Int)).toNat=i+n+2 by omega];refine sy (qD J (by omega)) J<|sm J J<|sy (jC J) J<|sy (TN J J) J<|sy (f9 J J (by omega) (by omega)) J<|?_;rw[show((i:Int)+(v.n:Int)).toNat=i+n+2 by omega];refine sc (kO (d:=(wa.getD (i+n+2) 0+ca)%4294967296) J J (by rw[pD];omega) (.tl _ _ _ _ _ _ _ _ (.hd ..)) (by omega) J ?_);have hs4:=pn wa (i+n+2) ((wa.getD (i+n+2) 0+ca)%4294967296) (by omega);have hl4:=Zh hs4 ha;rw[<-tF] at hl4;have hM4:=A0 (i:=i+n+2) (d:=(wa.getD (i+n+2) 0+ca)%4294967296) hao (dW _ (by decide)) haM (by omega);obtain⟨hR1,hR2⟩:=To hhi hl2 hl4 hM2 hM4 (by omega) (Nat.succ_pos _);refine zE<|dB<|sm J J<|sy (jx J J) J<|sa J J<|zE<|?_;exact jg ⟨wa.set (i+n+2) ((wa.getD (i+n+2) 0+ca)%4294967296),qs.set i g',i⟩ ⟨by simpa using hal2,hao.set _ (dW _ (by decide)),by simpa using hql,hqo.set _ (by omega),by show i<=l;omega,hqz g',hinv2 g' _ hR1,by show dv _<_;rw[<-hV];exact hR2⟩ (by show i<i+1;omega) (.cons J (.cons J (.cons J (.cons J (.cons J (.cons J (.cons J (.cons J .nil)))))))) J
  have hvk:=hvo.get k;have hag:=hao.get (i+k);refine zK<|bH<|et<|sR<|sm J J<|sy (gw hv J J (by omega) (by omega)) J<|?_;rw[bW];refine sy (gI hv J (by omega)) J<|sa J J<|sa J J<|zE<|bH<|?_;refine dB<|sm J J<|sm J J<|sm J J<|sm J J<|sy (dH J J) J<|sy (f9 J J (by omega) (by omega)) J<|?_;rw[show((i:Int)+(k:Int)).toNat=i+k by omega];refine sy (qD J (by omega)) J<|sy (ge J) J<|sm J J<|sy (ge J) J<|sy (qx J J) J<|sy (qx J J) J<|?_;rw[show(ca:Int)+(((wa.getD (i+k) 0:Nat):Int)+((vs.getD k 0:Nat):Int))=((ca+(wa.getD (i+k) 0+vs.getD k 0):Nat):Int) from J];refine sa J J<|zE<|sR<|sm J J<|sm J J<|sm J J<|sy (dH J J) J<|sm J J<|sy (jC J) J<|sy (f9 J J (by omega) (by omega)) J<|?_;rw[show((i:Int)+(k:Int)).toNat=i+k by omega];refine sc (kO (d:=(ca+(wa.getD (i+k) 0+vs.getD k 0))%4294967296) J J (by rw[nT];rfl) (.tl _ _ _ _ _ _ _ _ (.hd ..)) (by omega) J ?_);refine zE<|dB<|sm J J<|sy (lD J J (by decide)) J<|?_;rw[q7 (ca+(wa.getD (i+k) 0+vs.getD k 0)) 32 (by decide) J];refine sa J J<|zE<|dB<|sy (dH J J) J<|sm J J<|zE<|?_;refine jg ⟨wa.set (i+k) ((ca+(wa.getD (i+k) 0+vs.getD k 0))%4294967296),k+1,0,(ca+(wa.getD (i+k) 0+vs.getD k 0))/2^32⟩ ⟨by simpa using hal2,hao.set _ (dW _ (by decide)),by show k+1<=_;omega,by show(ca+(wa.getD (i+k) 0+vs.getD k 0))/4294967296<=1;omega,A0 hao (dW _ (by decide)) haM (by omega),?_⟩ (by show n+2-(k+1)<n+2-k;omega) (.cons J (.cons J (.cons J (.cons J (.cons J (.cons J (.cons J (.cons J (.cons J (.cons J (.cons J (.cons J .nil)))))))))))) J;show dv (wa.set (i+k) ((ca+(wa.getD (i+k) 0+vs.getD k 0))%4294967296))+((ca+(wa.getD (i+k) 0+vs.getD k 0))/4294967296)*4294967296^(i+k+1)=dv ws2+dv (vs.take (k+1))*4294967296^i
  rw[iG,dQ (dv (vs.take k)),tF,show 4294967296^k*vs.getD k 0*4294967296^i=vs.getD k 0*4294967296^(i+k) by rw[fX,bS (4294967296^k),bL,bS (4294967296^k)]];exact Xs (pn wa (i+k) _ (by omega)) ha
 have hvk:=hvo.get k;have hwg:=hwo.get (i+k);refine zK<|bH<|et<|sR<|sm J J<|sy (gw hv J J (by omega) (by omega)) J<|?_;rw[bW];refine sy (gI hv J (by omega)) J<|sa J J<|sa J J<|zE<|bH<|?_;have hgd:g*vs.getD k 0<=4294967295*4294967295:=kX (by omega) (by omega);have e3:(g:Int)*((vs.getD k 0:Nat):Int)=((g*vs.getD k 0:Nat):Int):=J;refine dB<|sm J J<|sm J J<|sm J J<|sy (ge J) J<|sy (E4 J J (by rw[e3];omega) (by rw[e3];omega)) J<|?_;rw[e3];refine sy (qx J J) J<|?_;rw[show(c:Int)+((g*vs.getD k 0:Nat):Int)=((c+g*vs.getD k 0:Nat):Int) from J];obtain⟨c1,hc1⟩: ∃c1,c1=c+g*vs.getD k 0:=⟨_,rfl⟩;rw[<-hc1];have hc1m:c1%4294967296<4294967296:=dW _ (by decide);refine sa J J<|zE<|sR<|sm J J<|sm J J<|sm J J<|sy (dH J J) J<|sy (f9 J J (by omega) (by omega)) J<|?_;rw[show((i:Int)+(k:Int)).toNat=i+k by omega];refine sy (qD J (by omega)) J<|sy (ge J) J<|sm J J<|sy (ie J J (VR c1 (by omega))) J<|sy (ul J J) J<|sm J J<|sy (ul J J) J<|?_;rw[sub2 _ _ _ hwg hc1m hbo];obtain⟨hx1,hx2,hx3⟩:=Nd (ws.getD (i+k) 0) (c1%4294967296) bo hwg hc1m hbo;generalize rP (ws.getD (i+k) 0) (c1%4294967296) bo=xx at hx1 hx2 hx3⊢;refine sa J J<|?_;refine zE<|sR<|sm J J<|sm J J<|sm J J<|sy (dH J J) J<|sm J J<|sy (jC J) J<|sy (f9 J J (by omega) (by omega)) J<|?_;rw[show((i:Int)+(k:Int)).toNat=i+k by omega];refine sc (kO (d:=xx%4294967296) J J (by rw[nT];rfl) (.tl _ _ _ _ _ _ _ _ (.hd ..)) (by omega) J ?_);refine zE<|sR<|sm J J<|sy (lD J J (by decide)) J<|?_;rw[q7 xx 63 (by decide) J];refine sa J J<|zE<|dB<|sm J J<|sy (lD J J (by decide)) J<|?_
 rw[q7 c1 32 (by decide) J];refine sa J J<|?_;refine zE<|dB<|sy (dH J J) J<|sm J J<|zE<|?_;refine jg ⟨ws.set (i+k) (xx%4294967296),k+1,xx/2^63,c1/2^32⟩ ⟨by simpa using hwl,hwo.set _ (dW _ (by decide)),by show k+1<=_;omega,hx2,by show c1/4294967296<_;omega,A0 hwo (dW _ (by decide)) hwM (by omega),?_⟩ (by show n+2-(k+1)<n+2-k;omega) (.cons J (.cons J (.cons J (.cons J (.cons J (.cons J (.cons J (.cons J (.cons J (.cons J (.cons J (.cons J (.cons J (.cons J .nil)))))))))))))) J;show dv (ws.set (i+k) (xx%4294967296))+g*(dv (vs.take (k+1))*4294967296^i)=dv us+(xx/9223372036854775808+c1/4294967296)*4294967296^(i+k+1);rw[iG,dQ (dv (vs.take k)),tF,show 4294967296^k*vs.getD k 0*4294967296^i=vs.getD k 0*4294967296^(i+k) by rw[fX,bS (4294967296^k),bL,bS (4294967296^k)],dX,<-bL g (vs.getD k 0)];exact RJ (pn ws (i+k) _ (by omega)) hw hc1 hx1
def E'{A B G:Gh}{x y:SV}{a b:List Nat}{k1 k2:Nat}(hx:cd A x a)(hy:cd B y b)[GL A G][GL B G](hb0:0<dv b)
  (hq:dv a/dv b<2^k1)(hr:dv a%dv b<2^k2)(hl:a.length<=112589990684)(hl2:b.length<=112589990684):
  Fn prog 313 [x.v,y.v] G (fun v G'=> ∃z r:SV,v= .tuple #[z.v,r.v, .bool true]/\fj k1 G' z (dv a/dv b)/\fj k2 G' r (dv a%dv b)):=by
 have hla:=my a;have hlb:=my b;have hca:=fun G1 (_:GL A G1)=>iO (G:=G1) hx (by omega);have hcb:=fun G1 (_:GL B G1)=>iO (G:=G1) hy (by omega);have hxt:=hx.trim;have hyt:=hy.trim;have hna:=dC.trimD a;have hnb:=dC.trimD b;rw[<-jp a,<-jp b] at hq hr⊢;rw[<-jp b] at hb0;generalize trimD a=a' at*;generalize trimD b=b' at*;refine Fn.intro func313 J J ntmps313 J ?_;intro C _ _;refine sR<|sa J J<|sa J J<|sa J J<|zE<|sR<|sm J J<|?_;refine sc (zC J J (hca _ inferInstance) J ?_);rintro _ G1 _ rfl;refine sm J J<|?_;refine sc (zC J J (hcb _ inferInstance) J ?_);rintro _ G2 _ rfl;refine sa J J<|sa J J<|zE<|bH<|et<|sR<|sm J J<|cD J J<|sy (oc J J) J<|sa J J<|zE<|?_;refine gH J (fun hc=>?_) (fun hc=>?_) -- slot 15
 ·exfalso
  have:b'=[]:=bK (by omega);rw[this] at hb0;exact absurd hb0 (by simp[dv])
 refine sR<|sm J J<|sm J J<|?_;refine sc (zC J J (LJ hxt hyt (by omega) (by omega)) J ?_);rintro _ G3 _ rfl;refine sy (kc J J) J<|sa J J<|zE<|?_;refine gH J (fun hc2=>?_) (fun hc2=>?_) -- slot 19
 ·have hlt:dv a'<dv b':=by
   unfold f8 at hc2;split at hc2
   ·assumption
   ·split at hc2<;>omega
  refine sR<|sm J J<|?_;refine sc (zC J J (Kh hxt (by omega)) J ?_);rintro _ G4 _ ⟨z,rfl,hz⟩;refine sa J J<|sa J J<|sa J J<|zE<|dO<|?_;refine zD (.tmp J (.tmp J (.tmp J .nil))) ⟨⟨none,0,0⟩,z,J,?_,?_⟩
  ·rw[jT hlt]
   exact⟨by unfold dg;exact .nil _,dL (by decide)⟩
  ·rw[gQ hlt] at hr⊢
   exact⟨by rw[Pt hxt.ok hna];exact hz,hr⟩
 have hle:dv b'<=dv a':=by
  unfold f8 at hc2;split at hc2
  ·omega
  ·omega
 refine sR<|sm J J<|cD J J<|sy (oc J J) J<|sa J J<|zE<|?_;refine gH J (fun hc3=>?_) (fun hc3=>?_) -- slot 26
 ·have hb1:b'.length=1:=by omega
  obtain⟨d,rfl⟩:=List.length_eq_one_iff.1 hb1;have hdv:dv [d]=d:=by simp[dv]
  have hdB:=hyt.ok.head;rw[hdv] at hb0 hq hr⊢;refine sR<|sm J J<|sm J J<|sy (gw (z:=⟨y.a,1,y.c⟩) hyt J J (by omega) (by show(0:Int)<((1:Nat):Int);omega)) J<|sy (gI (i:=0) hyt J (by simp)) J<|?_;rw[show [d].getD 0 0=d from J];refine sc (zC J J (atS (x:=⟨x.a,a'.length,x.c⟩) hxt hb0 hdB hq (by omega)) J ?_);rintro _ G5 _ ⟨z,rfl,hz⟩;have hmB:dv a'%d<4294967296:=pV (dW _ hb0) hdB;refine sm J J<|sx J J J<|sx J J J<|sa J J<|sa J J<|zE<|sR<|sm J J<|sm J J<|sy (ge J) J<|?_;refine sc (zC J J (GZ (by omega)) J ?_);rintro _ G6 _ ⟨r,rfl,hr6⟩;refine sa J J<|sa J J<|sa J J<|zE<|dO<|?_;exact zD (.tmp J (.tmp J (.tmp J .nil))) ⟨z,r,J,hz.up,hr6.mono hr⟩
 have hb2:2<=b'.length:=by omega
 refine zK<|sR<|sm J J<|sm J J<|?_;refine sc (zC J J (UW (x:=⟨x.a,a'.length,x.c⟩) (y:=⟨y.a,b'.length,y.c⟩) hxt hyt hna hnb hb2 hle hq hr (by omega)) J ?_);rintro _ G7 _ ⟨z,r,rfl,hz,hr7⟩;refine sm J J<|sx J J J<|sx J J J<|sa J J<|sa J J<|zE<|sR<|sm J J<|sm J J<|sa J J<|sa J J<|sa J J<|zE<|?_;refine dO<|?_;exact zD (.tmp J (.tmp J (.tmp J .nil))) ⟨z,r,J,hz,hr7⟩
def ld{u k:Nat}(h:u<2^k):32*(dg u).length<=k+31:=Lx (ek u).2.2 (by rw[(ek u).1];exact h)
def fj.dvl{k:Nat}{G:Gh}{x:SV}{v:Nat}(_:fj k G x v):dv (dg v)=v:=(ek v).1
structure Tc where
 a:SV
 b:SV
 u:Nat
 v:Nat
def Wk{A B G:Gh}{x y:SV}{a b:List Nat}{k k0:Nat}(hx:cd A x a)(hy:cd B y b)[GL A G][GL B G](ha:dv a<2^k0)(hb:dv b<2^k0)(hk0:k0<=1099511627776)
  (hg0:Nat.gcd (dv a) (dv b)<2^k)(hl:a.length<=112589990684)(hl2:b.length<=112589990684):
  Fn prog 312 [x.v,y.v] G (fun v G'=> ∃z:SV,v=z.v/\fj k G' z (Nat.gcd (dv a) (dv b))):=by
 refine Fn.intro func312 J J ntmps312 J ?_;intro C _ _;refine sR<|sa J J<|zE<|sR<|sm J J<|?_;refine sc (zC J J (Gj hx ha (by omega)) J ?_);rintro _ G1 _ ⟨x1,rfl,hx1⟩;refine sm J J<|?_;refine sc (zC J J (Gj hy hb (by omega)) J ?_);rintro _ G2 _ ⟨y1,rfl,hy1⟩;generalize dv a=ua at*;generalize dv b=ub at*;refine sa J J<|sa J J<|zE<|bH<|et<|?_;refine kG (X:=Tc) (fun q=>[(0, .slice q.a.a q.a.n q.a.c),(1, .slice q.b.a q.b.n q.b.c)]) (fun _=>[]) (fun q G=>fj k0 G q.a q.u/\fj k0 G q.b q.v/\Nat.gcd q.u q.v=Nat.gcd ua ub) (fun q=>q.v) ⟨x1,y1,ua,ub⟩
  ⟨hx1.up,hy1,J⟩ (.cons J (.cons J .nil)) J ?_
 rintro ⟨p,q,u,v⟩ Gx _ ⟨hp,hq,hgc⟩;simp only[] at hp hq hgc⊢;have hpl:=hp.len;have hql:=hq.len;have hpb:=ld hp.lt;have hqb:=ld hq.lt;refine bH<|sR<|sm J J<|cD J J<|sy (s5 J J) J<|sm J J<|?_;refine BC 19 J (fun hg=>?_) (fun hg=>?_)
 ·refine ss J J J J<|ss J J J J<|ss J J J J<|sy (zo J J) J<|zE<|Aq J<|zK<|et<|bH<|sR<|sm J J<|?_
  refine cD J J<|sy (oc J J) J<|zE<|?_;refine gH J (fun hc1=>?_) (fun hc1=>?_) -- slot 26
  ·refine sR<|sm J J<|sa J J<|zE<|dO<|?_
   have hv0:v=0:=by
    have:dg v=[]:=bK (by omega);have h2:=hq.dvl;rw[this] at h2;exact h2.symm
   have hue:u=Nat.gcd ua ub:=by rw[<-hgc,hv0,mS]
   exact zD (.tmp J .nil) ⟨p,J,by rw[<-hue] at hg0⊢;exact hp.mono hg0⟩
  have hv0:0<v:=iY fun h=>by
   have h1:dg v=[]:=by rw[h];unfold dg;rfl
   rw[h1] at hql;simp only[iR] at hql;omega
  have hm:=dW u hv0;refine zK<|sR<|sm J J<|sm J J<|?_;refine sc (zC J J (E' (k1:=k0) (k2:=k0) hp.d hq.d (by rw[hq.dvl];exact hv0) (by rw[hp.dvl];exact fN (kY _ _) hp.lt) (by rw[hp.dvl,hq.dvl];exact pV hm hq.lt) (by omega) (by omega)) J ?_);rintro _ G3 _ ⟨z,r,rfl,hz,hr⟩;rw[hp.dvl,hq.dvl] at hr;refine sm J J<|sx J J J<|sx J J J<|sx J J J<|sa J J<|sa J J<|sa J J<|zE<|dB<|sm J J<|sm J J<|sa J J<|sa J J<|?_;refine zE<|?_;exact jg ⟨q,r,v,u%v⟩ ⟨hq.up,hr,by show Nat.gcd v (u%v)=_;rw[<-hgc,iM u,sT v u,iM]⟩ hm (.cons J (.cons J .nil)) J
 refine fg J J (mp J) J<|fg J J (uR J) J<|fg J J (s5 J J) J<|sy (x5 J J) J<|zE<|?_;refine kD J (fun hc=>?_) (fun hc=>?_) -- slot 23
 ·have small: ∀{w:Nat},(dg w).length<=2->w<18446744073709551616:=fun{w} h=>by
   have h1:=jw (ek w).2.1;rw[(ek w).1] at h1;exact dK h1 (cR (bY (by decide) h) (by decide))
  have hu64:u<18446744073709551616:=small (by omega);have hv64:v<18446744073709551616:=small (by omega);refine i4<|eh<|eh<|i6<|sR<|sm J J<|?_;refine sc (zC J J (Ha hp.d (by omega)) J ?_);rintro _ G4 _ rfl;rw[hp.dvl,if_pos hu64];refine sm J J<|sx J J J<|sx J J J<|sa J J<|sa J J<|zE<|sR<|sm J J<|?_;refine sc (zC J J (Ha hq.d (by omega)) J ?_);rintro _ G5 _ rfl;rw[hq.dvl,if_pos hv64];refine sm J J<|sx J J J<|sx J J J<|sa J J<|sa J J<|zE<|bH<|et<|?_;refine kG (X:=Nat×Nat) (fun q=>[(8, .int .u64 (q.1:Nat)),(10, .int .u64 (q.2:Nat))]) (fun _=>[]) (fun q _=>q.1<18446744073709551616/\q.2<18446744073709551616/\Nat.gcd q.1 q.2=Nat.gcd ua ub) (fun q=>q.2) (u,v)
   ⟨hu64,hv64,hgc⟩ (.cons J (.cons J .nil)) J ?_
  rintro ⟨u1,v1⟩ Gy _ ⟨hu1,hv1,hgc1⟩;simp only[] at hu1 hv1 hgc1⊢;refine bH<|sR<|sm J J<|sy (uC J J) J<|zE<|?_;refine kD J (fun hc5=>?_) (fun hc5=>?_) -- slot 48
  ·refine i4<|eh<|eh<|i6<|sR<|sm J J<|?_
   refine sc (zC J J (GZ hu1) J ?_);rintro _ G6 _ ⟨z,rfl,hz⟩;refine sa J J<|zE<|dO<|?_;have hv0:v1=0:=by omega
   have hue:u1=Nat.gcd ua ub:=by rw[<-hgc1,hv0,mS]
   exact zD (.tmp J .nil) ⟨z,J,by rw[<-hue] at hg0⊢;exact hz.mono hg0⟩
  have hv0:0<v1:=by omega
  refine zK<|et<|dr (fun _=>false) [(0,true),(1,true),(2,true),(3,true),(4,true),(5,true)] follows (by kernel_rfl)<|dM J J J<|dM J J J<|?_;refine dM J J J<|dy J (fun _=>vO J J (by omega) (by omega)) J J<|dA J J J<|dA J J J<|dn<|?_;exact jg (v1,u1%v1) ⟨hv1,pV (dW _ hv0) hv1,by show Nat.gcd v1 (u1%v1)=_;rw[<-hgc1,iM u1,sT v1 u1,iM]⟩ (by show u1%v1<v1;exact dW _ hv0) (.cons J (.cons J .nil)) J
 refine zK<|et<|bH<|sR<|sm J J<|?_;refine cD J J<|sy (oc J J) J<|zE<|?_;refine gH J (fun hc1=>?_) (fun hc1=>?_) -- slot 26
 ·refine sR<|sm J J<|sa J J<|zE<|dO<|?_
  have hv0:v=0:=by
   have:dg v=[]:=bK (by omega);have h2:=hq.dvl;rw[this] at h2;exact h2.symm
  have hue:u=Nat.gcd ua ub:=by rw[<-hgc,hv0,mS]
  exact zD (.tmp J .nil) ⟨p,J,by rw[<-hue] at hg0⊢;exact hp.mono hg0⟩
 have hv0:0<v:=iY fun h=>by
  have h1:dg v=[]:=by rw[h];unfold dg;rfl
  rw[h1] at hql;simp only[iR] at hql;omega
 have hm:=dW u hv0;refine zK<|sR<|sm J J<|sm J J<|?_;refine sc (zC J J (E' (k1:=k0) (k2:=k0) hp.d hq.d (by rw[hq.dvl];exact hv0) (by rw[hp.dvl];exact fN (kY _ _) hp.lt) (by rw[hp.dvl,hq.dvl];exact pV hm hq.lt) (by omega) (by omega)) J ?_);rintro _ G3 _ ⟨z,r,rfl,hz,hr⟩;rw[hp.dvl,hq.dvl] at hr;refine sm J J<|sx J J J<|sx J J J<|sx J J J<|sa J J<|sa J J<|sa J J<|zE<|dB<|sm J J<|sm J J<|sa J J<|sa J J<|?_;refine zE<|?_;exact jg ⟨q,r,v,u%v⟩ ⟨hq.up,hr,by show Nat.gcd v (u%v)=_;rw[<-hgc,iM u,sT v u,iM]⟩ hm (.cons J (.cons J .nil)) J
structure IV where
 neg:Bool
 a:SV
def IV.v(z:IV):Value:= .agg ⟨[.bool z.neg, .slice z.a.a z.a.n z.a.c]⟩
def zv(neg:Bool)(u:Nat):Int:=if neg then-(u:Int) else u
def pA(neg:Bool)(u:Nat):(zv neg u).natAbs=u:=by cases neg<;>simp[zv]
def QL(neg:Bool)(u:Nat):zv (!neg) u= -zv neg u:=by cases neg<;>simp[zv]
def Pz(n m:Bool)(u w:Nat):zv (n !=m) (u*w)=zv n u*zv m w:=by cases n<;>cases m<;>simp[zv,Int.neg_mul,Int.mul_neg]
def N3(neg:Bool)(u:Nat):decide (zv neg u<0)=(neg&&decide (0<u)):=by
 cases neg<;>simp[zv]
def lw(m:Int):zv (decide (m<0)) m.natAbs=m:=by
 unfold zv;by_cases h:m<0<;>simp[h]<;>omega
structure lC (k:Nat) (G:Gh) (z:IV) (m:Int):Prop where
 neg:z.neg=decide (m<0)
 abs:fj k G z.a m.natAbs
def lC.up{k:Nat}{A G:Gh}{z:IV}{m:Int}(h:lC k A z m)[GL A G]:lC k G z m:=⟨h.neg,h.abs.up⟩
def Ye(n:Bool)(u w:Nat):zv n (u+w)=zv n u+zv n w:=by cases n<;>simp[zv]<;>omega
def HP(p:Int):IntKind.i64.wrap p=(p+9223372036854775808)%18446744073709551616-9223372036854775808:=by
 have e:IntKind.i64.wrap p=if(true&&decide (p%2^64>=2^(64-1)))=true then p%2^64-2^64 else p%2^64:=J
 rw[e,show(2:Int)^64=18446744073709551616 by decide,show(2:Int)^(64-1)=9223372036854775808 by decide,Bool.true_and];by_cases h:p%18446744073709551616>=9223372036854775808
 ·rw[decide_eq_true h,if_pos J];omega
 ·rw[decide_eq_false h,if_neg (by decide)];omega
structure RV where
 n:Int
 d:Int
 p:Option Addr
def RV.v(z:RV):Value:= .agg ⟨[.int .i64 z.n, .int .i64 z.d, .pointer z.p]⟩
structure Yj (z:RV) (q:Rat):Prop where
 p:z.p=none
 n:z.n=q.num
 d:z.d=(q.den:Int)-1
 b1:q.num.natAbs<4611686018427387904
 b2:q.den<4611686018427387904
structure Rr (k:Nat) (G:Gh) (z:RV) (q:Rat):Prop where
 n:z.n=0
 d:z.d=0
 ex: ∃(b:Nat) (x:IV) (y:SV),z.p=some ⟨b,0,none⟩/\G b=some [.bool x.neg, .slice x.a.a x.a.n x.a.c, .slice y.a y.n y.c]/\lC k G x q.num/\fj k G y q.den
 no: ¬(q.num.natAbs<4611686018427387904/\q.den<4611686018427387904)
def uv(k:Nat)(G:Gh)(z:RV)(q:Rat):Prop:=q.num.natAbs<2^k/\q.den<2^k/\(Yj z q\/Rr k G z q)
def W0{neg:Bool}{u g:Nat}(h:g∣u):zv neg (u/g)=zv neg u/(g:Int):=by
 cases neg
 ·simp[zv]
 ·simp only[zv,if_true]
  rw[Int.neg_ediv_of_dvd (qS.2 h),pY]
def Ma{m:Int}{e:Nat}(he:0<e):(mkRat m e).num=m/((Nat.gcd m.natAbs e:Nat):Int)/\(mkRat m e).den=e/Nat.gcd m.natAbs e:=by
 rw[Rat.num_mkRat,Rat.den_mkRat,if_neg (by omega),if_neg (by omega),iM];exact⟨J,J⟩
def XE{x:Nat}:(((bl x:Nat):Int)<=62)↔x<4611686018427387904:=by
 have:bl x<=62↔x<2^62:=nn;omega
structure aEd where
 x:SV
 y:SV
 ds:List Nat
 es:List Nat

end Go.Sx
end
