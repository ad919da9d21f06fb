import Derived.Test.YtpiknjeceobbfaaGreatDoorMy8
set_option linter.all false
set_option maxHeartbeats 2000000
set_option maxRecDepth 100000
section
namespace Go.Sx
open Go Go.Proofs Tryz
def E3{P:Program}{t:TypeId}(a b k:Nat)(ha:a<2^k)(h:a+b*2^k<18446744073709551616)(w:World):(binOp .or t (.int .u64 ((b*2^k:Nat):Int)) (.int .u64 (a:Int))).run P w= .ok (.int .u64 ((a+b*2^k:Nat):Int)) w:=by
 have h1:(BitVec.ofInt 64 ((b*2^k:Nat):Int) ||| BitVec.ofInt 64 (a:Int)).toNat=a+b*2^k:=by
  rw[BitVec.toNat_or,BitVec.ofInt_natCast,BitVec.ofInt_natCast,BitVec.toNat_ofNat,BitVec.toNat_ofNat,dT (by omega),dT (by omega)];rw[<-lZ,<-lW ha,lZ];omega
 have h2:IntKind.u64.wrap ((a+b*2^k:Nat):Int)=((a+b*2^k:Nat):Int):=by rw[mj];omega
 simp only[binOp];show(Op.intBits .or .u64 ((b*2^k:Nat):Int) (a:Int)).run P w=_;unfold Op.intBits;show(pure (Value.int .u64 (IntKind.u64.wrap ((BitVec.ofInt 64 ((b*2^k:Nat):Int) ||| BitVec.ofInt 64 (a:Int)).toNat:Int))):Sem Value).run P w=_;rw[h1,h2,run_pure]
def SC{P:Program}{t:TypeId}(a b k:Nat)(ha:a<2^k)(h:a+b*2^k<4294967296)(w:World):(binOp .or t (.int .u32 (a:Int)) (.int .u32 ((b*2^k:Nat):Int))).run P w= .ok (.int .u32 ((a+b*2^k:Nat):Int)) w:=by
 have h1:(BitVec.ofInt 32 (a:Int) ||| BitVec.ofInt 32 ((b*2^k:Nat):Int)).toNat=a+b*2^k:=by
  rw[BitVec.toNat_or,BitVec.ofInt_natCast,BitVec.ofInt_natCast,BitVec.toNat_ofNat,BitVec.toNat_ofNat,dT (by omega),dT (by omega)];rw[<-lZ,Nat.or_comm,<-lW ha,lZ];omega
 have h2:IntKind.u32.wrap ((a+b*2^k:Nat):Int)=((a+b*2^k:Nat):Int):=by rw[pj];omega
 simp only[binOp];show(Op.intBits .or .u32 (a:Int) ((b*2^k:Nat):Int)).run P w=_;unfold Op.intBits;show(pure (Value.int .u32 (IntKind.u32.wrap ((BitVec.ofInt 32 (a:Int) ||| BitVec.ofInt 32 ((b*2^k:Nat):Int)).toNat:Int))):Sem Value).run P w=_;rw[h1,h2,run_pure]
def qg(d k:Nat)(hk:k<64)(h:d*2^k<18446744073709551616){q:Int}(hq:q.toNat=k):IntKind.u64.wrap ((d:Int)*2^min q.toNat IntKind.u64.bits)=((d*2^k:Nat):Int):=by
 rw[hq,gX (by show k<=64;omega),mj];have e2:(d:Int)*2^k=((d*2^k:Nat):Int):=by push_cast;rfl
 rw[e2];omega
def ry(d k:Nat)(hk:k<64){q:Int}(hq:q.toNat=k):(d:Int).fdiv (2^min q.toNat IntKind.u64.bits)=((d/2^k:Nat):Int):=by
 rw[hq,gX (by show k<=64;omega),gU _ (pJ (Int.pow_pos (by decide)))];push_cast;rfl
def N0(q:Nat)(h:q<4294967296):(q:Int)%4294967296=q:=by omega
structure XC where
 ws:List Nat
 k:Nat
 r:Nat
def VR{A G:Gh}{x:SV}{a:List Nat}{d kk:Nat}(hx:b6 A x a)[GL A G](hd0:0<d)(hd:d<4294967296)(hk:dv a/d<2^kk)(hb:a.length<=1125899906842):
  Fn prog 217 [x.v, .int .u32 (d:Int)] G (fun v G'=> ∃z:SV,v= .tuple #[z.v, .int .u32 ((dv a%d:Nat):Int)]/\e7 kk G' z (dv a/d)):=by
 have hlen:=hx.len;refine Fn.intro func217 J J ntmps217 J ?_;intro C _ _;refine sR<|sa J J<|sa J J<|zE<|sR<|sm J J<|cD J J<|?_;refine sc (tP J J (by omega) (by omega) (by omega) (by rfl) J ?_);intro b1;rw[ta,show(x.n:Int).toNat=a.length by omega];refine sa J J<|zE<|sR<|sa J J<|zE<|bF<|sR<|sm J J<|cD J J<|sy (jb J J) J<|?_;refine sa J J<|zE<|d4<|?_;refine ku (X:=XC) (fun q=>[(8, .int .i64 (q.k-1)),(7, .int .u64 q.r),(0, .slice x.a x.n x.c),(6, .slice (some ⟨b1,0,none⟩) a.length a.length),(1, .int .u32 d)])
  (fun q=>[⟨b1,q.ws.map dI,206,true⟩])
  (fun q _=>q.k<=a.length/\q.ws.length=a.length/\bg q.ws/\q.r<d/\dv (a.drop q.k)=d*dv (q.ws.drop q.k)+q.r) (fun q=>q.k) ⟨List.replicate a.length 0,a.length,0⟩
  ⟨aN _,by simp, .replicate _,hd0,by simp[dv]⟩ (.cons (by rw[hlen];rfl) (.cons J (.cons J (.cons J (.cons J .nil))))) J ?_
 rintro ⟨ws,k,r⟩ Gy _ ⟨hka,hwl,hwo,hr,hinv⟩;simp only[] at hka hwl hwo hr hinv⊢;refine bF<|sR<|sm J J<|sy (ye J J) J<|zE<|?_;refine kD J (fun hc=>?_) (fun hc=>?_) -- slot 17
 ·have hk0:k=0:=by omega
  refine iG<|dH<|dH<|iH<|sR<|sm J J<|?_;refine ql b1 (.hd ..) (fun G1 _ hgb=>?_);have hD:b6 G1 ⟨some ⟨b1,0,none⟩,a.length,a.length⟩ ws:= .of_block hwo hgb.h hwl.symm (aN _) (by rw[aL (by simp)]);subst hk0;simp only[iT] at hinv;have hdv:dv a/d=dv ws:=by rw[hinv,Nat.mul_add_div hd0,iM hr,eX]
  have hdm:dv a%d=r:=by rw[hinv,Nat.mul_add_mod,dT hr]
  refine sc (zC J J (io hD (by omega)) J ?_);rintro _ G2 _ rfl;refine sm J J<|sy (jw J) J<|sa J J<|sa J J<|zE<|eo<|?_;refine zD (.tmp J (.tmp J .nil)) ⟨⟨some ⟨b1,0,none⟩,(trimD ws).length,a.length⟩,?_,?_⟩
  ·rw[hdm,show(r:Int)%4294967296=r by omega];rfl
  have h3:=hD.trim.up (G:=G2);exact⟨by rw[hdv,nn hwo];exact h3,hk⟩
 have hk1:0<k:=by omega
 have hkt:((k:Int)-1).toNat=k-1:=by omega
 have hga:=hx.ok.get (k-1);have hv:a.getD (k-1) 0+r*2^32<d*4294967296:=by
  have:(r+1)*4294967296<=d*4294967296:=bS _ hr;rw[dZ] at this;omega
 have hv2:a.getD (k-1) 0+r*2^32<18446744073709551616:=by omega
 refine zK<|bF<|d4<|sR<|sm J J<|sy (ul J J (by decide)) J<|sm J J<|sm J J<|sy (gt hx J J (by omega) (by omega)) J<|?_;rw[qg r 32 (by decide) (by omega) J];refine sy (gm hx J (by omega)) J<|sy (fE J (by omega) (by rw[hkt];omega)) J<|?_;rw[hkt];refine sy (gk J J (E3 (a.getD (k-1) 0) r 32 (by omega) hv2)) J<|?_;generalize hvv:a.getD (k-1) 0+r*2^32=vv at*;have hq:vv/d<4294967296:=rU hv;have hrr:=cL vv hd0;refine sa J J<|zE<|sR<|sm J J<|sm J J<|sm J J<|sm J J<|?_;refine sy (fE J) J<|sy (vS J J (by omega) (by omega) (by omega)) J<|sy (jw J) J<|sy (gh J J (by omega) (by omega)) J<|?_;rw[hkt];have e1:(vv:Int)/(d:Int)%4294967296=((vv/d:Nat):Int):=by
  have e0:(vv:Int)/(d:Int)=((vv/d:Nat):Int):=(pK vv d).symm;rw[e0];exact N0 _ hq
 refine sc (kH (d:=vv/d) J J e1 (.hd ..) (by omega) J ?_);refine zE<|dh<|sm J J<|sm J J<|sy (fE J) J<|sy (vo J J (by omega) (by omega)) J<|sa J J<|zE<|dh<|sm J J<|?_;refine sy (jb J J) J<|sa J J<|zE<|?_;refine iv ⟨ws.set (k-1) (vv/d),k-1,vv%d⟩ ⟨by show k-1<=_;omega,by simp[hwl],hwo.set _ hq,hrr,?_⟩ (by show k-1<k;omega) (.cons (by rw[show((k-1:Nat):Int)=(k:Int)-1 by omega];rfl) (.cons (by rw[nR];rfl) (.cons J (.cons J (.cons J .nil))))) J;show dv (a.drop (k-1))=d*dv ((ws.set (k-1) (vv/d)).drop (k-1))+vv%d;have hk2:k-1+1=k:=by omega
 rw[bL (by omega:k-1<a.length),bL (by simp;omega:k-1<(ws.set (k-1) (vv/d)).length),hk2,List.getElem_set_self,pW (by omega)];have e3:a[k-1]'(by omega)=a.getD (k-1) 0:=by rw[aX,aZ (by omega)];rfl
 simp only[dv,e3,hinv];have h1:=pN vv d;have h2:d*(vv/d+4294967296*dv (ws.drop k))=d*(vv/d)+4294967296*(d*dv (ws.drop k)):=by rw[dJ,kY]
 rw[h2,dJ];omega
section
variable {P:Program} {C:az} {n:Nat} {fr:Fr} {own:List av} {G:Gh} {dst:Option Nat} {t t1 t2 ty':TypeId} {pos:String} {af:Array Edge} {gd:Option (Nat×Bool)} {x y:Operand}
def WB{k:IntKind}{p q:Int}(hx:aw fr x=some (.int k p))(hy:aw fr y=some (.int k q)):
  Yd P C fr own G ⟨dst, .call ⟨.builtin .min, #[x,y], #[t1,t2]⟩,ty',pos,af,gd⟩ (.int k (if q<p then q else p)):=by
 intro a w hf hh;simp only[execOp,resolve,jY,cM,jL,bh hf hx,bh hf hy];have h1:(Builtin.min_ #[t1,t2] ty' #[.int k p, .int k q]).run P w= .ok (.int k (if q<p then q else p)) w:=by
  simp[Builtin.min_,Builtin.min2,run_pure]
 exact cI h1
end
structure JM where
 ws:List Nat
 i:Nat
def NT{A G:Gh}{x:SV}{ds:List Nat}{k kk:Nat}(hx:b6 A x ds)[GL A G](hk32:k<32)(hk:dv ds*2^k<2^kk)(hb:ds.length<=1125899906842):
  Fn prog 240 [x.v, .int .u64 (k:Int)] G (fun v G'=> ∃z:SV,v=z.v/\e7 kk G' z (dv ds*2^k)/\z.c<=(trimD ds).length+1):=by
 have htl:=lP ds;have hcall:=fun G1 (_:GL A G1)=>io (G:=G1) hx (by omega);have hxt:=hx.trim;rw[<-ja ds] at hk⊢;generalize trimD ds=a at*;have hok:=hxt.ok;refine Fn.intro func240 J J ntmps240 J ?_;intro C _ _;refine sR<|sa J J<|zE<|sR<|sm J J<|?_;refine sc (zC J J (hcall _ inferInstance) J ?_);rintro _ G1 _ rfl;refine sm J J<|sy (WB J J) J<|?_;rw[if_neg (by omega: ¬(1048576:Int)<(k:Int))];refine sa J J<|sa J J<|zE<|bF<|sR<|sm J J<|cD J J<|sy (pm J J) J<|zE<|?_;refine gG J (fun hc=>?_) (fun hc=>?_) -- slot 17
 ·refine sR<|sa J J<|zE<|eo<|?_
  have:a=[]:=cV (by omega);subst this;refine zD (.tmp J .nil) ⟨⟨none,0,0⟩,J,?_⟩;have e0:dv []*2^k=0:=by simp[dv]
  rw[e0];exact⟨⟨by unfold dg;exact .nil _,fQ (by omega)⟩,bN _⟩
 refine zK<|sR<|sm J J<|sy (vS J J (by omega) (by omega) (by decide)) J<|sy (IE J) J<|sm J J<|sy (vo J J (by omega) (by decide)) J<|?_;rw[show(k:Int)/32=0 by omega,show(k:Int)%32=k by omega];refine sa J J<|sa J J<|zE<|sR<|sm J J<|cD J J<|sm J J<|sy (dO J J) J<|sy (dO J J) J<|?_;refine sc (tP J J (by omega) (by omega) (by omega) (by rfl) J ?_);intro b2;rw[ta,show((a.length:Int)+0+1).toNat=a.length+1 by omega];refine sa J J<|zE<|bF<|sR<|sm J J<|cD J J<|sm J J<|zE<|d4<|?_;refine ku (X:=JM) (fun q=>[(31, .int .i64 q.i),(30, .int .i64 a.length),(29, .slice x.a a.length x.c),(6, .int .u64 k),(7, .slice (some ⟨b2,0,none⟩) (a.length+1) (a.length+1)),(5, .int .i64 0)])
  (fun q=>[⟨b2,q.ws.map dI,206,true⟩])
  (fun q _=>q.i<=a.length/\q.ws.length=a.length+1/\bg q.ws/\(∀j,q.i<j->q.ws.getD j 0=0)/\q.ws.getD q.i 0<2^k/\dv q.ws=dv (a.take q.i)*2^k) (fun q=>a.length-q.i) ⟨List.replicate (a.length+1) 0,0⟩
  ⟨bN _,by simp, .replicate _,fun j _=>Gs _ _,by rw[Gs];exact fQ (by omega),by simp[dv,wF]⟩ (.cons J (.cons J (.cons J (.cons J (.cons J (.cons J .nil)))))) J ?_
 rintro ⟨ws,i⟩ Gy _ ⟨hia,hwl,hwo,hz,hwi,hinv⟩;simp only[] at hia hwl hwo hz hwi hinv⊢;refine sR<|sy (jt J J) J<|zE<|bF<|?_;refine kD J (fun hc=>?_) (fun hc=>?_) -- slot 32
 ·have hin:i=a.length:=by omega
  refine iG<|dH<|dH<|iH<|sR<|sm J J<|?_;refine ql b2 (.hd ..) (fun G3 _ hgb=>?_);have hD:b6 G3 ⟨some ⟨b2,0,none⟩,a.length+1,a.length+1⟩ ws:= .of_block hwo hgb.h hwl.symm (aN _) (by rw[aL (by simp)]);have hdv:dv a*2^k=dv ws:=by rw[hinv,hin,aL (aN _)]
  refine sc (zC J J (io hD (by omega)) J ?_);rintro _ G4 _ rfl;refine sa J J<|zE<|eo<|?_;refine zD (.tmp J .nil) ⟨⟨some ⟨b2,0,none⟩,(trimD ws).length,a.length+1⟩,J,?_⟩;have h3:=hD.trim.up (G:=G4);rw[hdv] at hk⊢;exact⟨⟨by rw[nn hwo];exact h3,hk⟩,aN _⟩
 have hia':i<a.length:=by omega
 have hga:=hok.get i;have hp32:(2:Nat)^k<=2^31:=bK (by omega) (by omega);have hp0:0<(2:Nat)^k:=fQ (by omega);have hvb:a.getD i 0*2^k<4294967296*2^k:=kK hga hp0;have hv64:a.getD i 0*2^k<18446744073709551616:=by omega
 refine zK<|bF<|d4<|sR<|sm J J<|sy (gt (z:=⟨x.a,a.length,x.c⟩) hxt J J (by omega) (by show(i:Int)<(a.length:Nat);omega)) J<|sy (gm hxt J (by omega)) J<|sa J J<|sa J J<|zE<|bF<|?_;rw[bW];refine dh<|sm J J<|sy (fE J) J<|sm J J<|sy (ul J J (by omega)) J<|?_;rw[qg (a.getD i 0) k (by omega) hv64 (bW k)]
 -- the low digit is a multiple of 2^k
 have hlow:a.getD i 0*2^k%4294967296=a.getD i 0%2^(32-k)*2^k:=by
  have:4294967296=2^(32-k)*2^k:=by rw[<-fJ,show 32-k+k=32 by omega]
  rw[this,rZ]
 have hlt:a.getD i 0*2^k%4294967296<4294967296:=cL _ (by decide);have hsum:ws.getD i 0+a.getD i 0%2^(32-k)*2^k<4294967296:=by
  have h1:a.getD i 0%2^(32-k)<2^(32-k):=cL _ (fQ (by omega));have h2:(a.getD i 0%2^(32-k)+1)*2^k<=2^(32-k)*2^k:=bS _ h1;rw[<-fJ,show 32-k+k=32 by omega,dZ] at h2;omega
 refine sa J J<|zE<|sR<|sm J J<|?_;refine sm J J<|sm J J<|sy (dO J J) J<|sy (gh J J (by omega) (by omega)) J<|?_;rw[show((i:Int)+0).toNat=i by omega];refine sy (qc J (by omega)) J<|sm J J<|sy (jw J) J<|?_;rw[show((a.getD i 0*2^k:Nat):Int)%4294967296=((a.getD i 0%2^(32-k)*2^k:Nat):Int) by rw[<-hlow];rfl];refine sy (gk J J (SC (ws.getD i 0) (a.getD i 0%2^(32-k)) k hwi hsum)) J<|sy (gh J J (by omega) (by omega)) J<|?_;rw[show((i:Int)+0).toNat=i by omega];refine sc (kH (d:=ws.getD i 0+a.getD i 0%2^(32-k)*2^k) J J J (.hd ..) (by omega) J ?_);refine zE<|dh<|sm J J<|sm J J<|sm J J<|sy (dO J J) J<|sy (dO J J) J<|sm J J<|sy (lh J J (by decide)) J<|?_;rw[Im];have hhi:a.getD i 0*2^k/4294967296<2^k:=rU hvb;refine sy (jw J) J<|sy (gh J J (by omega) (by omega)) J<|?_;rw[show((i:Int)+0+1).toNat=i+1 by omega];refine sc (kH (d:=a.getD i 0*2^k/4294967296) J J (by omega) (.hd ..) (by simp;omega) J ?_);refine zE<|dh<|sy (dO J J) J<|sm J J<|zE<|?_;refine iv ⟨(ws.set i (ws.getD i 0+a.getD i 0%2^(32-k)*2^k)).set (i+1) (a.getD i 0*2^k/4294967296),i+1⟩ ⟨by show i+1<=_;omega,by simp[hwl],(hwo.set _ hsum).set _ (by omega),fun j hj=>?_,?_,?_⟩ (by show a.length-(i+1)<a.length-i;omega) (.cons J (.cons J (.cons J (.cons J (.cons J (.cons J .nil)))))) J
 ·have hj':i+1<j:=hj
  show((ws.set i _).set (i+1) _).getD j 0=0;rw[zy (by omega),zy (by omega)];exact hz j (by omega)
 ·show((ws.set i _).set (i+1) (a.getD i 0*2^k/4294967296)).getD (i+1) 0<2^k
  rw[aX,qR (by simp;omega)];exact hhi
 ·show dv ((ws.set i (ws.getD i 0+a.getD i 0%2^(32-k)*2^k)).set (i+1) (a.getD i 0*2^k/4294967296))=dv (a.take (i+1))*2^k
  have h1:=oB (ws.set i (ws.getD i 0+a.getD i 0%2^(32-k)*2^k)) (i+1) (a.getD i 0*2^k/4294967296) (by simp;omega);rw[zy (by omega),hz (i+1) (by omega),oN,eX] at h1;have h2:=oB ws i (ws.getD i 0+a.getD i 0%2^(32-k)*2^k) (by omega);rw[dJ] at h2;rw[h1,im,dZ,<-hinv,cZ,FY (4294967296^i) (a.getD i 0*2^k),<-hlow] at*;rw[fT];omega
end Go.Sx
end
section
namespace Go.Sx
def tu(i:Nat):(4294967296:Nat)^(i+1)=4294967296^i*4294967296:=fT ..
def X0{U p V T S first third:Nat}(hU:U<(first*4294967296+third+1)*p)(h3:third<4294967296)(hV:(T*4294967296+S)*p<=V)(hT:0<T):
  U<(first/T+1)*V:=by
 have h1:first+1<=(first/T+1)*T:=by
  have:=Nat.lt_mul_div_succ first hT
  rw[bM];omega
 calc U<(first*4294967296+third+1)*p:=hU
  _<=((first+1)*4294967296)*p:=bS _ (by omega)
  _<=(((first/T+1)*T)*4294967296)*p:=bS _ (bS _ h1)
  _=(first/T+1)*((T*4294967296)*p):=by rw[cZ (first/T+1),cZ (first/T+1)]
  _<=(first/T+1)*V:=fV _ (fU (bS _ (pV _ _)) hV)
def Qe{U p V T S first third v0:Nat}(hU:(first*4294967296+third)*p<=U)(hV:V=(T*4294967296+S)*p+v0)(hv:v0<p)(hlt:U<V*4294967296):first<=T*4294967296+S:=by
 rcases gT (T*4294967296+S) first with h|h
 ·exfalso
  have h1:(T*4294967296+S+1)*p<=first*p:=bS p h
  rw[dZ _ 1,nL] at h1;rw[dZ,qJ] at hU;have:0<=third*p:=bN _;omega
 ·exact h
def Yg{U p V T S first third g r:Nat}(hU:U<(first*4294967296+third+1)*p)(hV:(T*4294967296+S)*p<=V)(hg:first=g*T+r)(hc:r*4294967296+third<g*S):U<g*V:=by
 refine dV hU (fU (bS p (m:=g*(T*4294967296+S)) ?_) ?_)
 ·rw[dJ,<-cZ,hg,dZ];omega
 ·rw[cZ];exact fV _ hV
def H2{U p V T S first third g r v0:Nat}(hU:(first*4294967296+third)*p<=U)(hV:V=(T*4294967296+S)*p+v0)(hv:v0<p)(hT:0<T)(hg:first=g*T+r)(hgB:g<4294967296)(hc:g*S<=r*4294967296+third):g*V<U+V:=by
 have h1:g*((T*4294967296+S)*p)<=U:=by
  rw[<-cZ];refine fU (bS p ?_) hU;rw[dJ,<-cZ,hg,dZ];omega
 have h2:g*v0<=4294967295*v0:=bS _ (by omega);have h3:4294967296*p<=V:=by
  rw[hV];refine fU (bS p ?_) (pV _ _);omega
 have h4:g*V=g*((T*4294967296+S)*p)+g*v0:=by rw[<-dJ,<-hV]
 omega
def Tj{U V R g:Nat}(h:U<(g+1)*V)(hr:R+g*V=U):R<V:=by
 rw[dZ,nL] at h;omega
def VH{U V R R' g w M:Nat}(h2:g*V<U+V)(hr:R+g*V=U+M)(hb:R'+w*M=R+V)(hR:R<M)(hR':R'<M)(hw:w<=1)(hg:0<g):R'+(g-1)*V=U/\R'<V:=by
 have hgv:g*V=(g-1)*V+V:=by
  conv=>lhs;rw[show g=(g-1)+1 by omega,dZ,nL]
 have:w=1:=by
  rcases gT w 1 with h|h
  ·have:w=0:=by omega
   subst this;omega
  ·omega
 subst this;omega
def vr(us:List Nat)(i:Nat):dv (us.drop i)=us.getD i 0+4294967296*dv (us.drop (i+1)):=by
 rcases gT i us.length with h|h
 ·rw[bL h];simp[dv,List.getD,aZ h]
 ·rw[gJ h,gJ (by omega)]
  simp[dv,fW h,List.getD]
def wl(us:List Nat)(i:Nat):dv us=dv (us.take i)+4294967296^i*dv (us.drop i):=by
 rcases gT us.length i with h|h
 ·rw[aL (by omega),gJ (by omega)];simp[dv]
 ·exact Aj us i h
def AJ{us:List Nat}(h:bg us)(i:Nat):dv (us.take i)<4294967296^i:=by
 refine dV (i4 (h.take i)) (bK (by decide) ?_);simp[cJ];omega
def Dd{us:List Nat}{i:Nat}(hd:dv us<4294967296^i):dv (us.drop i)=0:=by
 have h:=wl us i;rcases dS (dv (us.drop i)) with h0|h0
 ·exact h0
 ·have:=fV (4294967296^i) h0
  omega
def Qj{W W' U E p u x bo b c c1 g d:Nat}(hs:W'+p*u=W+p*x)(hw:W+E=U+(bo+c)*p)(hc:c1=c+g*d)(hx:x+(c1%4294967296+bo)=u+b*4294967296):
  W'+(E+g*d*p)=U+(b+c1/4294967296)*(p*4294967296):=by
 have h1:=congrArg (p* ·) hx;simp only[dJ] at h1;have h2:p*c1=p*(c1%4294967296)+p*(c1/4294967296)*4294967296:=by
  rw[cZ,<-dJ,Nat.mod_add_div']
 have h3:p*c1=p*c+p*(g*d):=by rw[hc,dJ]
 rw[dZ,bM bo,bM c] at hw;rw[bM (g*d),dZ,<-cZ b,<-cZ (c1/4294967296),bM b,bM (c1/4294967296)];rw[<-cZ] at h1;omega
def TN{W W' U E p u x bo b c:Nat}(hs:W'+p*u=W+p*x)(hw:W+E=U+(bo+c)*p)(hx:x+(c+bo)=u+b*4294967296):W'+E=U+b*(p*4294967296):=by
 have h1:=congrArg (p* ·) hx;simp only[dJ] at h1;rw[dZ,bM bo,bM c] at hw;rw[<-cZ b,bM b];rw[<-cZ] at h1;omega
def XF{W W' R E p u d c:Nat}(hs:W'+p*u=W+p*((c+(u+d))%4294967296))(hw:W+c*p=R+E):W'+(c+(u+d))/4294967296*(p*4294967296)=R+(E+d*p):=by
 have h2:p*(c+(u+d))=p*((c+(u+d))%4294967296)+p*((c+(u+d))/4294967296)*4294967296:=by
  rw[cZ,<-dJ,Nat.mod_add_div']
 rw[dJ p c,dJ p u] at h2;rw[bM c] at hw;rw[bM d,<-cZ,bM _ p];omega
def R9{W W' R p u c:Nat}(hs:W'+p*u=W+p*((u+c)%4294967296))(hw:W+c*p=R):W'+(u+c)/4294967296*(p*4294967296)=R:=by
 have h2:p*(u+c)=p*((u+c)%4294967296)+p*((u+c)/4294967296)*4294967296:=by
  rw[cZ,<-dJ,Nat.mod_add_div']
 rw[dJ p u] at h2;rw[bM c] at hw;rw[<-cZ,bM _ p];omega
def US{us:List Nat}(h:bg us)(i:Nat)(hd:dv us<4294967296^(i+3)):
  dv us=((us.getD (i+2) 0*4294967296+us.getD (i+1) 0)*4294967296+us.getD i 0)*4294967296^i+dv (us.take i):=by
 have h0:=Dd hd;rw[wl us i,vr us i,vr us (i+1),vr us (i+2),h0,lL,bM];congr 2;omega
def RW{us:List Nat}(h:bg us)(i:Nat)(hd:dv us<4294967296^(i+2)):
  dv us=(us.getD (i+1) 0*4294967296+us.getD i 0)*4294967296^i+dv (us.take i):=by
 have h0:=Dd hd;rw[wl us i,vr us i,vr us (i+1),h0,lL,bM];congr 2;omega
def Db{us:List Nat}{k i d:Nat}(h:bg us)(hd:d<4294967296)(hk:dv us<4294967296^k)(hi:i<k):dv (us.set i d)<4294967296^k:=by
 rw[wl _ k,List.drop_set,if_pos hi,Dd hk,oN,eX];exact AJ (h.set i hd) k
end Go.Sx
end
section
namespace Go.Sx
open Go Go.Proofs Tryz
def Wl(p k a1 a2 E:Nat)(hk:k<32)(h1:a1<4294967296)(hp:p=2^k):(a1+4294967296*(a2+4294967296*E))/p=(a1+a2*4294967296)/p%4294967296+4294967296*((a2+4294967296*E)/p):=by
 subst hp;have hp0:0<(2:Nat)^k:=fQ (by omega);have hB:4294967296=2^(32-k)*2^k:=by rw[<-fJ,show 32-k+k=32 by omega]
 -- the quotient and the rest of the quotient by the base
 have hq:(a1+4294967296*(a2+4294967296*E))/2^k/4294967296=(a2+4294967296*E)/2^k:=by
  rw[lM,bM (2^k),<-lM,lY _ _ (by decide),iM h1,eJ]
 have hr:(a1+4294967296*(a2+4294967296*E))/2^k%4294967296=(a1+a2*4294967296)/2^k%4294967296:=by
  have e1:a1+4294967296*(a2+4294967296*E)=(a1+a2*4294967296)+2^k*(2^(32-k)*(4294967296*E)):=by
   rw[<-cZ (2^k),bM (2^k) (2^(32-k)),<-hB];omega
  rw[e1,lY _ _ hp0];rw[show 2^(32-k)*(4294967296*E)=4294967296*(2^(32-k)*E) by rw[kY]];rw[mW]
 have h:=Nat.mod_add_div ((a1+4294967296*(a2+4294967296*E))/2^k) 4294967296;rw[hq,hr] at h;exact h.symm
def KI(a:List Nat)(i:Nat):dv (a.drop i)=a.getD i 0+4294967296*dv (a.drop (i+1)):=by
 by_cases h:i<a.length
 ·rw[bL h,aX,aZ h];rfl
 ·rw[gJ (by omega),gJ (by omega),BK (by omega)];rfl
def YG{a:List Nat}(ha:bg a)(k i:Nat)(hk:k<32):dv (a.drop i)/2^k=(a.getD i 0+a.getD (i+1) 0*4294967296)/2^k%4294967296+4294967296*(dv (a.drop (i+1))/2^k):=by
 rw[KI a i,KI a (i+1)];exact Wl _ k _ _ _ hk (ha.get i) J
def Xx{A G:Gh}{x:SV}{ds:List Nat}{k kk:Nat}(hx:b6 A x ds)[GL A G](hk32:k<32)(hk:dv ds/2^k<2^kk)(hb:ds.length<=1125899906842):
  Fn prog 241 [x.v, .int .u64 (k:Int)] G (fun v G'=> ∃z:SV,v=z.v/\e7 kk G' z (dv ds/2^k)):=by
 have htl:=lP ds;have hcall:=fun G1 (_:GL A G1)=>io (G:=G1) hx (by omega);have hxt:=hx.trim;rw[<-ja ds] at hk⊢;generalize trimD ds=a at*;have hok:=hxt.ok;refine Fn.intro func241 J J ntmps241 J ?_;intro C _ _;refine sR<|sa J J<|zE<|sR<|sm J J<|?_;refine sc (zC J J (hcall _ inferInstance) J ?_);rintro _ G1 _ rfl;refine sa J J<|zE<|bF<|sR<|sm J J<|sy (vS J J (by omega) (by omega) (by decide)) J<|sm J J<|cD J J<|sy (fE J) J<|?_;rw[show(k:Int)/32=0 by omega];refine sy (ye J J) J<|zE<|?_;refine gG J (fun hc=>?_) (fun hc=>?_) -- slot 17
 ·refine sR<|sa J J<|zE<|eo<|?_
  have:a=[]:=cV (by omega);subst this;refine zD (.tmp J .nil) ⟨⟨none,0,0⟩,J,?_⟩;have e0:dv []/2^k=0:=by simp[dv]
  rw[e0];exact⟨by unfold dg;exact .nil _,fQ (by omega)⟩
 refine zK<|sR<|sm J J<|sy (vS J J (by omega) (by omega) (by decide)) J<|sy (IE J) J<|sm J J<|sy (vo J J (by omega) (by decide)) J<|?_;rw[show(k:Int)/32=0 by omega,show(k:Int)%32=k by omega];refine sa J J<|sa J J<|zE<|sR<|sm J J<|cD J J<|sm J J<|sy (jb J J) J<|?_;refine sc (tP J J (by omega) (by omega) (by omega) (by rfl) J ?_);intro b2;rw[ta,show((a.length:Int)-0).toNat=a.length by omega];refine sa J J<|zE<|bF<|sR<|sm J J<|cD J J<|sm J J<|zE<|d4<|?_;refine ku (X:=JM) (fun q=>[(30, .int .i64 q.i),(29, .int .i64 a.length),(0, .slice x.a a.length x.c),(5, .int .i64 0),(7, .slice (some ⟨b2,0,none⟩) a.length a.length),(6, .int .u64 k)])
  (fun q=>[⟨b2,q.ws.map dI,206,true⟩])
  (fun q _=>q.i<=a.length/\q.ws.length=a.length/\bg q.ws/\dv a/2^k=dv (q.ws.take q.i)+4294967296^q.i*(dv (a.drop q.i)/2^k)) (fun q=>a.length-q.i) ⟨List.replicate a.length 0,0⟩
  ⟨bN _,by simp, .replicate _,by simp[dv]⟩ (.cons J (.cons J (.cons J (.cons J (.cons J (.cons J .nil)))))) J ?_
 rintro ⟨ws,i⟩ Gy _ ⟨hia,hwl,hwo,hinv⟩;simp only[] at hia hwl hwo hinv⊢;refine sR<|sy (jt J J) J<|zE<|bF<|?_;refine kD J (fun hc=>?_) (fun hc=>?_) -- slot 31
 ·have hin:i=a.length:=by omega
  refine iG<|dH<|dH<|iH<|sR<|sm J J<|?_;refine ql b2 (.hd ..) (fun G3 _ hgb=>?_);have hD:b6 G3 ⟨some ⟨b2,0,none⟩,a.length,a.length⟩ ws:= .of_block hwo hgb.h hwl.symm (aN _) (by rw[aL (by simp)]);have hdv:dv a/2^k=dv ws:=by
   rw[hinv,hin,aL (by omega),iL];simp[dv]
  refine sc (zC J J (io hD (by omega)) J ?_);rintro _ G4 _ rfl;refine sa J J<|zE<|eo<|?_;refine zD (.tmp J .nil) ⟨⟨some ⟨b2,0,none⟩,(trimD ws).length,a.length⟩,J,?_⟩;have h3:=hD.trim.up (G:=G4);rw[hdv] at hk⊢;exact⟨by rw[nn hwo];exact h3,hk⟩
 have hia':i<a.length:=by omega
 have hga:=hok.get i;have hga2:=hok.get (i+1);refine zK<|bF<|d4<|sR<|sm J J<|sa J J<|zE<|sR<|sm J J<|sm J J<|sm J J<|sy (dO J J) J<|?_;refine sy (gt (z:=⟨x.a,a.length,x.c⟩) hxt J J (by omega) (by show((i:Int)+0)<(a.length:Nat);omega)) J<|?_;rw[show((i:Int)+0).toNat=i by omega];refine sy (gm hxt J (by omega)) J<|sy (fE J) J<|sa J J<|zE<|?_;refine xz Unit (fun _=>[(30, .int .i64 i),(8, .int .i64 i),(29, .int .i64 a.length),(0, .slice x.a a.length x.c),(5, .int .i64 0),(7, .slice (some ⟨b2,0,none⟩) a.length a.length),(6, .int .u64 k),(9, .int .u64 ((a.getD i 0+a.getD (i+1) 0*2^32:Nat):Int))]) (fun _=>[⟨b2,ws.map dI,206,true⟩]) (fun _ _=>True) ?_ ?_
 ·refine sR<|sm J J<|sm J J<|sy (dO J J) J<|sy (dO J J) J<|sm J J<|cD J J<|sy (jt J J) J<|?_
  refine zE<|?_;refine gG J (fun hc2=>?_) (fun hc2=>?_) -- slot 46
  ·refine dh<|sm J J<|sm J J<|sm J J<|sm J J<|sy (dO J J) J<|sy (dO J J) J<|sy (gt (z:=⟨x.a,a.length,x.c⟩) hxt J J (by omega) (by show((i:Int)+0+1)<(a.length:Nat);omega)) J<|?_
   rw[show((i:Int)+0+1).toNat=i+1 by omega];refine sy (gm hxt J (by omega)) J<|sy (fE J) J<|sy (ul J J (by decide)) J<|?_;rw[qg (a.getD (i+1) 0) 32 (by decide) (by omega) J];refine sy (gk J J (Ir (a.getD i 0) (a.getD (i+1) 0) 32 (by omega) (by omega))) J<|sa J J<|zE<|?_;exact oE () trivial (.cons J (.cons J (.cons J (.cons J (.cons J (.cons J (.cons J (.cons J .nil)))))))) J
  refine zK<|?_;have h0:a.getD (i+1) 0=0:=BK (by omega);exact oE () trivial (.cons J (.cons J (.cons J (.cons J (.cons J (.cons J (.cons J (.cons (by rw[h0,lK,eX];rfl) .nil)))))))) J
 rintro _ Gz _ _;refine dh<|sm J J<|sm J J<|sm J J<|sm J J<|sy (lh J J (by omega)) J<|?_;rw[ry _ k (by omega) (bW k)];refine sy (jw J) J<|sy (gh J J (by omega) (by omega)) J<|?_;rw[bW];refine sc (kH (d:=(a.getD i 0+a.getD (i+1) 0*2^32)/2^k%4294967296) J J (by rw[nR];rfl) (.hd ..) (by omega) J ?_);refine zE<|dh<|sy (dO J J) J<|sm J J<|zE<|?_;refine iv ⟨ws.set i ((a.getD i 0+a.getD (i+1) 0*2^32)/2^k%4294967296),i+1⟩ ⟨by show i+1<=_;omega,by simp[hwl],hwo.set _ (cL _ (by decide)),?_⟩ (by show a.length-(i+1)<a.length-i;omega) (.cons J (.cons J (.cons J (.cons J (.cons J (.cons J .nil)))))) J;show dv a/2^k=dv ((ws.set i ((a.getD i 0+a.getD (i+1) 0*2^32)/2^k%4294967296)).take (i+1))+4294967296^(i+1)*(dv (a.drop (i+1))/2^k);rw[hinv,o6 (by omega),YG hok k i hk32,tu i,dJ,cZ,kV]
def VZ{V n:Nat}(h1:4294967296^(n-1)<=V)(h2:V<4294967296^n)(hn:0<n):(dg V).length=n:=by
 obtain⟨e,hk,hr⟩:=d8 V;have hne:dg V≠[]:=fun h=>by
  rw[h] at e;have:0<4294967296^(n-1):=fQ (by decide);simp[dv] at e;omega
 have h3:=p6 hr hne;have h4:=i4 hk;rw[e] at h3 h4;have h5:=(nJ (a:=4294967296) (by decide)).1 (dL h3 h2);have h6:=(nJ (a:=4294967296) (by decide)).1 (dL h1 h4);omega
def Qf{t s:Nat}(h0:0<t)(ht:t<4294967296)(hs:s=32-bl t):s<32/\2147483648<=t*2^s/\(t+1)*2^s<=4294967296:=by
 have h1:bl t<=32:=mD.2 ht;have h2:bl t≠0:=fun h=>by
  have:=BW t;rw[h] at this;omega
 have h3:=BW t;have h4: ¬t<2^(bl t-1):=fun h=>by
  have:=mD.2 h;omega
 have e1:2^(bl t-1)*2^s=2147483648:=by rw[<-fJ,show bl t-1+s=31 by omega]
 have e2:2^bl t*2^s=4294967296:=by rw[<-fJ,show bl t+s=32 by omega]
 refine⟨by omega,?_,?_⟩
 ·rw[<-e1];exact bS _ (by omega)
 ·rw[<-e2];exact bS _ h3
def ZK{us:List Nat}(h:bg us)(i:Nat)(hd:us.length=i+1):dv us=us.getD i 0*4294967296^i+dv (us.take i):=by
 have h0:dv (us.drop (i+1))=0:=by rw[gJ (by omega)];rfl
 rw[wl us i,vr us i,h0,lL,bM];rfl
def LW{b:List Nat}(h:dC b)(i:Nat)(hi:b.length=i+1):0<b.getD i 0:=by
 rcases dS (b.getD i 0) with h0|h0
 ·exfalso
  apply h;rw[mV,hi,show i+1-1=i from J];rw[List.getD,aZ (by omega)] at h0;rw[aZ (by omega)];simpa using h0
 ·exact h0
def T6(a:List Nat)(k:Nat):dv (a++List.replicate k 0)=dv a:=by rw[wn,wF];simp
structure Wa where
 us:List Nat
 qs:List Nat
 j:Nat
structure awK where
 g:Nat
 r:Nat
structure Ox where
 ws:List Nat
 k:Nat
 bo:Nat
 c:Nat
def UX{P:Program}{t:TypeId}(c:Nat)(h:c<18446744073709551616)(w:World):(binOp .and t (.int .u64 (c:Int)) (.int .u64 4294967295)).run P w= .ok (.int .u64 ((c%4294967296:Nat):Int)) w:=by
 have h1:(BitVec.ofInt 64 (c:Int) &&& BitVec.ofInt 64 4294967295).toNat=c%4294967296:=by
  rw[BitVec.toNat_and,BitVec.ofInt_natCast,BitVec.toNat_ofNat,dT (by omega),show(BitVec.ofInt 64 4294967295).toNat=2^32-1 from J,Nat.and_two_pow_sub_one_eq_mod]
 have h2:IntKind.u64.wrap ((c%4294967296:Nat):Int)=((c%4294967296:Nat):Int):=by rw[mj];omega
 simp only[binOp];show(Op.intBits .and .u64 (c:Int) 4294967295).run P w=_;unfold Op.intBits;show(pure (Value.int .u64 (IntKind.u64.wrap ((BitVec.ofInt 64 (c:Int) &&& BitVec.ofInt 64 4294967295).toNat:Int))):Sem Value).run P w=_;rw[h1,h2,run_pure]
def rB(u m bo:Nat):Nat:=if m+bo<=u then u-(m+bo) else u+18446744073709551616-(m+bo)
def sub2(u m bo:Nat)(hu:u<4294967296)(hm:m<4294967296)(hb:bo<=1):IntKind.u64.wrap (IntKind.u64.wrap ((u:Int)-(m:Int))-(bo:Int))=((rB u m bo:Nat):Int):=by
 rw[mj,mj];unfold rB;split<;>omega
def NG(u m bo:Nat)(hu:u<4294967296)(hm:m<4294967296)(hb:bo<=1):rB u m bo%4294967296+(m+bo)=u+rB u m bo/9223372036854775808*4294967296/\rB u m bo/9223372036854775808<=1/\rB u m bo<18446744073709551616:=by
 unfold rB;split<;>omega
def UV{A B G:Gh}{x y:SV}{a b:List Nat}{k1 k2:Nat}(hx:b6 A x a)(hy:b6 B y b)[GL A G][GL B G](hna:dC a)(hnb:dC b)(hb2:2<=b.length)(hle:dv b<=dv a)
  (hq:dv a/dv b<2^k1)(hr:dv a%dv b<2^k2)(hl:a.length<=112589990684):
  Fn prog 218 [x.v,y.v] G (fun v G'=> ∃z r:SV,v= .tuple #[z.v,r.v]/\e7 k1 G' z (dv a/dv b)/\e7 k2 G' r (dv a%dv b)):=by
 have hxl:=hx.len;have hyl:=hy.len;obtain⟨n,hn⟩: ∃n,b.length=n+2:=⟨b.length-2,by omega⟩;have hbp:0<dv b:=fL fun h=>by
  rw[Zd hnb] at h;rw[h] at hn;simp at hn
 have hnm:b.length<=a.length:=by
  rcases gT a.length b.length with h|h
  ·have:=rG hx.ok hnb h
   omega
  ·exact h
 have htp:=LW hnb (n+1) hn;have htl:=hy.ok.get (n+1);have hbv:=ZK hy.ok (n+1) hn;have hbt:=AJ hy.ok (n+1);obtain⟨s,hs⟩: ∃s,s=32-bl (b.getD (n+1) 0):=⟨_,rfl⟩;obtain⟨hs32,hs1,hs2⟩:=Qf htp htl hs;have hble:bl (b.getD (n+1) 0)<=32:=mD.2 htl;have hpn:0<4294967296^(n+1):=fQ (by decide);have hps:0<2^s:=fQ (by decide);have hV1:2147483648*4294967296^(n+1)<=dv b*2^s:=by
  refine fU (bS _ hs1) ?_;rw[cZ,bM (2^s),<-cZ];exact bS _ (by omega)
 have hV2:dv b*2^s<4294967296^(n+2):=by
  refine dV (kK (k:=2^s) (m:=(b.getD (n+1) 0+1)*4294967296^(n+1)) (by rw[dZ,nL];omega) hps) ?_;rw[cZ,bM (4294967296^(n+1)),<-cZ,tu (n+1),bM _ 4294967296];exact bS _ hs2
 have hVl:(dg (dv b*2^s)).length=n+2:=VZ (by show 4294967296^(n+1)<=_;omega) hV2 (by omega);have hal:=i4 hx.ok;have hU2:dv a*2^s<4294967296^(a.length+1):=by
  rw[tu];exact mZ hal (dV (Nat.pow_lt_pow_right (by decide) hs32) (by decide))
 have hUl1:(dg (dv a*2^s)).length<=a.length+1:=by
  have h1:=L8 (d8 (dv a*2^s)).2.2 (k:=32*(a.length+1)) (by rw[(d8 _).1,oR];exact hU2);omega
 have hUl0:a.length<=(dg (dv a*2^s)).length:=by
  have hane:a≠[]:=fun h=>by
   have:=congrArg List.length h;simp only[gV] at this;omega
  have h1:=p6 hna hane;have h2:=i4 (d8 (dv a*2^s)).2.1;rw[(d8 _).1] at h2;have h3:dv a<=dv a*2^s:=Nat.le_mul_of_pos_right _ hps;have h4:=(nJ (a:=4294967296) (by decide)).1 (dL (fU h1 h3) h2);omega
 have hU3:dv a*2^s<dv b*2^s*4294967296^(a.length-n-1):=by
  have h1:4294967296^(n+1)*4294967296^(a.length-n-1)=4294967296^a.length:=by rw[<-fJ,show n+1+(a.length-n-1)=a.length by omega]
  refine dV (kK hal hps) (fU (fV _ (bK (by decide) (show s<=31 by omega))) ?_);rw[<-h1,bM,<-cZ];exact bS _ hV1
 have hta:=Lz hna;have htb:=Lz hnb;refine Fn.intro func218 J J ntmps218 J ?_;intro C _ _;refine sR<|sa J J<|sa J J<|zE<|Vp<|sR<|sm J J<|sm J J<|cD J J<|sy (jb J J) J<|?_;refine sy (gt hy J J (by omega) (by omega)) J<|?_;rw[show((y.n:Int)-1).toNat=n+1 by omega];refine sy (gm hy J (by omega)) J<|?_;refine sc (zC J J (Hg htl) J ?_);rintro _ G1 _ rfl;refine sy (fE J) J<|?_;rw[show(32-(bl (b.getD (n+1) 0):Int))=(s:Int) by omega];refine sa J J<|zE<|sR<|sm J J<|sm J J<|?_;refine sc (zC J J (NT (kk:=32*(a.length+1)) hx hs32 (by rw[oR];exact hU2) (by omega)) J ?_);rintro _ G2 _ ⟨u,rfl,hu,huc⟩;have hul:=hu.len;rw[hta] at huc;refine sc (DR (by rfl) (by rfl) (by rfl) (by rfl) J ?_);intro b3;refine sc (FL (z:= .int .u32 0) (m:=2) J J (KA hu.d) (J2 inferInstance J) (by omega) (by decide) (by omega) J ?_);intro b4 cap h1;have ecs:(dg (dv a*2^s)).map dI++[Value.int .u32 0, .int .u32 0]++dF (.int .u32 0) (cap-(u.n+2))=(dg (dv a*2^s)++List.replicate (cap-u.n) 0).map dI:=by
  rw[ta,show cap-u.n=(cap-(u.n+2))+1+1 by omega,iQ,iQ];simp[dI]
 rw[ecs];clear ecs;have hus:dv (dg (dv a*2^s)++List.replicate (cap-u.n) 0)=dv a*2^s:=by rw[T6,(d8 _).1]
 have huo:bg (dg (dv a*2^s)++List.replicate (cap-u.n) 0):=(d8 _).2.1.append (.replicate _);have hulen:(dg (dv a*2^s)++List.replicate (cap-u.n) 0).length=cap:=by simp;omega
 generalize dg (dv a*2^s)++List.replicate (cap-u.n) 0=us0 at hus huo hulen⊢;refine sm J J<|cD J J<|sy (dO J J) J<|sy (ya J J (by omega) (by omega)) J<|sa J J<|zE<|sR<|sm J J<|?_;refine sm J J<|?_;refine sc (zC J J (NT (kk:=32*(n+2)) hy hs32 (by rw[oR];exact hV2) (by omega)) J ?_);rintro _ G4 _ ⟨v,rfl,hv,_⟩;have hvl:=hv.len;obtain⟨hvv,hvo,hvn⟩:=d8 (dv b*2^s);replace hv:=hv.d;rw[hVl] at hvl;generalize hvs:dg (dv b*2^s)=vs at*;refine sa J J<|zE<|sR<|sm J J<|cD J J<|sa J J<|zE<|bF<|dr (fun _=>false) [(0,true),(1,true),(2,true),(3,true),(4,true),(5,true),(6,true),(7,true),(8,true),(9,true),(10,true),(11,true),(12,true),(13,true)] follows (by kernel_rfl)<|?_;refine dM J J J<|dM J J J<|dy J (fun _=>jb J J (by omega) (by omega)) J J<|dy J (fun _=>gt hv J J (by omega) (by omega)) J J<|?_;rw[show((v.n:Int)-1).toNat=n+1 by omega];have hvt:=hvo.get (n+1);have hv2:=hvo.get n;refine dy J (fun _=>gm hv J (by omega)) J J<|dy J (fun _=>fE J (by omega) (by omega)) J J<|dM J J J<|dM J J J<|?_;refine dy J (fun _=>jb J J (by omega) (by omega)) J J<|dy J (fun _=>gt hv J J (by omega) (by omega)) J J<|?_;rw[show((v.n:Int)-2).toNat=n by omega];refine dy J (fun _=>gm hv J (by omega)) J J<|?_;refine dy J (fun _=>fE J (by omega) (by omega)) J J<|dA J J J<|dA J J J<|dn<|sR<|sm J J<|?_;refine cD J J<|sm J J<|sy (jb J J) J<|?_;obtain⟨l,hlq⟩: ∃l,a.length=n+1+l:=⟨a.length-n-1,by omega⟩;rw[show a.length-n-1=l by omega] at hU3;rw[show(((x.n:Int)+1).toNat:Int)-v.n=(l:Nat) by omega,show((x.n:Int)+1).toNat=a.length+1 by omega]
 refine sc (tP J J (by omega) (by omega) (by omega) (by rfl) J ?_);intro b5;rw[ta,bW];refine XY [_,_] (.cons_cons _ (.cons_cons _ (.cons _ .slnil))) ?_;refine sa J J<|zE<|bF<|ZW<|bF<|sR<|sm J J<|cD J J<|sy (jb J J) J<|sa J J<|zE<|d4<|?_;refine ku (X:=Wa) (fun q=>[(13, .int .i64 ((q.j:Int)-1)),(7, .slice (some ⟨b4,0,none⟩) (a.length+1) cap),(9, .int .i64 v.n),(10, .int .u64 (vs.getD (n+1) 0:Nat)),(11, .int .u64 (vs.getD n 0:Nat)),(8, .slice v.a v.n v.c),(12, .slice (some ⟨b5,0,none⟩) l l),(6, .int .u64 s)])
  (fun q=>[⟨b5,q.qs.map dI,206,true⟩,⟨b4,q.us.map dI,206,true⟩])
  (fun q _=>q.us.length=cap/\bg q.us/\q.qs.length=l/\bg q.qs/\q.j<=l/\(∀i,i<q.j->q.qs.getD i 0=0)/\dv a*2^s=dv q.us+dv vs*dv q.qs/\dv q.us<dv vs*4294967296^q.j) (fun q=>q.j) ⟨us0,List.replicate l 0,l⟩
  ⟨hulen,huo,by simp, .replicate _,aN _,fun i _=>by simp[List.getD,List.getElem?_replicate];split<;>rfl,by simp only[wF];omega,by simp only[hus,hvv];exact hU3⟩ (.cons J (.cons J (.cons J (.cons J (.cons J (.cons J (.cons J (.cons J .nil)))))))) J ?_
 rintro ⟨us,qs,j⟩ Gx _ ⟨hul2,huo2,hql,hqo,hjl,hq0,hinv,hlt⟩;simp only[] at hul2 huo2 hql hqo hjl hq0 hinv hlt⊢;refine bF<|sR<|sm J J<|sy (ye J J) J<|zE<|?_;refine kD J (fun hc=>?_) (fun hc=>?_) -- slot 68
 ·have hj0:j=0:=by omega
  subst hj0;refine iG<|dH<|dH<|iH<|bF<|?_;refine ql b5 (.hd ..) (fun G5 _ hgb5=>?_);refine ql b4 (.hd ..) (fun G6 _ hgb4=>?_);refine dr (fun _=>false) [(0,true),(2,true),(3,true),(4,true),(5,true),(1,false),(6,false),(7,true),(8,true)] follows (by kernel_rfl)<|?_;have hDq:b6 G6 ⟨some ⟨b5,0,none⟩,l,l⟩ qs:= .of_block hqo (hgb5.up (G:=G6)) hql.symm (aN _) (by rw[aL (by simp)]);have hut:dv (us.take (n+2))=dv us:=by
   have h0:=wl us (n+2);rw[Dd (by rw[qS,kZ,hvv] at hlt;omega)] at h0;omega
  have hDu:b6 G6 ⟨some ⟨b4,0,none⟩,n+2,cap⟩ (us.take (n+2)):= .of_block (huo2.take _) hgb4.h (by simp;omega) (by omega) (by rw[lN,cJ,gX (by omega)]);have hV0:0<dv vs:=by rw[hvv];exact gN hbp hps
  rw[qS,kZ] at hlt;have hdq:dv a/dv b=dv qs:=by
   rw[<-Nat.mul_div_mul_right _ _ hps,hinv,<-hvv,lY _ _ hV0,iM hlt,eJ]
  have hdr:dv a%dv b=dv (us.take (n+2))/2^s:=by
   have:dv us=dv a%dv b*2^s:=by
    rw[<-rZ,hinv,<-hvv,mW,dT hlt]
   rw[hut,this,Nat.mul_div_cancel _ hps]
  refine dM J J J<|dM J J J<|dM J J J<|dy J (fun _=>ya J J (by omega) (by omega)) J J<|?_;rw[show(v.n:Int).toNat=n+2 by omega];refine dM J J J<|?_;refine dc J J (zC J J (io hDq (by omega)) J ?_);rintro _ G7 _ rfl;refine OS<|?_;refine dc J J (zC J J (Xx (kk:=k2) hDu hs32 (by rw[<-hdr];exact hr) (by simp;omega)) J ?_);rintro _ G8 _ ⟨r,rfl,hr8⟩;refine OS<|dA J J J<|dA J J J<|dn<|eo<|?_;refine zD (.tmp J (.tmp J .nil)) ⟨⟨some ⟨b5,0,none⟩,(trimD qs).length,l⟩,r,J,?_,?_⟩
  ·rw[hdq]
   refine⟨?_,by rw[<-hdq];exact hq⟩;rw[nn hqo];exact hDq.trim.up
  ·rw[hdr];exact hr8
 obtain⟨i,rfl⟩: ∃i,j=i+1:=⟨j-1,by omega⟩;rw[show(((i+1:Nat):Int)-1)=i by omega];have hpi:0<4294967296^i:=fQ (by decide)
 -- the digits that the guess looks at
 obtain⟨p,hp⟩: ∃p,p=4294967296^(i+n):=⟨_,rfl⟩;obtain⟨V,hV⟩: ∃V,V=dv vs*4294967296^i:=⟨_,rfl⟩;have hvB:dv vs<4294967296^(n+2):=by rw[hvv];exact hV2
 have hvh:=RW hvo n hvB;have hltV:dv us<V*4294967296:=by rw[hV,cZ,<-tu];exact hlt
 have hV0:0<V:=by rw[hV];exact gN (by rw[hvv];exact gN hbp hps) hpi
 have hT0:0<vs.getD (n+1) 0:=LW hvn (n+1) hVl;have hVp:V=(vs.getD (n+1) 0*4294967296+vs.getD n 0)*p+dv (vs.take n)*4294967296^i:=by
  rw[hV,hvh,dZ,hp,fJ,bM (4294967296^i),cZ]
 have hv0:dv (vs.take n)*4294967296^i<p:=by
  rw[hp,fJ,bM];exact Nat.mul_lt_mul_of_pos_left (AJ hvo n) hpi
 have hM:dv us<4294967296^(i+n+3):=by
  refine dV hlt ?_;rw[show i+n+3=(n+2)+(i+1) by omega,fJ 4294967296 (n+2) (i+1)];exact bS _ (nN hvB)
 have huh:=US huo2 (i+n) hM;rw[<-hp] at huh;have hu0:=AJ huo2 (i+n);rw[<-hp] at hu0;have hg0:=huo2.get (i+n);have hg1:=huo2.get (i+n+1);have hg2:=huo2.get (i+n+2);refine zK<|bF<|d4<|bF<|dr (fun _=>false) [(0,true),(1,true),(2,true),(3,true),(4,true),(5,true),(6,true),(7,true),(8,true),(9,true),(10,true),(11,true),(12,true),(13,true),(14,true),(15,true),(16,true),(17,true)] follows (by kernel_rfl)<|?_;refine dM J J J<|dM J J J<|dM J J J<|dy J (fun _=>dO J J (by omega) (by omega)) J J<|?_;refine dy J (fun _=>gh J J (by omega) (by omega)) J J<|?_;rw[show((i:Int)+(v.n:Int)).toNat=i+n+2 by omega];refine dy J (fun _=>qc J (by omega)) J J<|dy J (fun _=>fE J (by omega) (by omega)) J J<|dy J (fun _=>ul J J (by decide)) J J<|?_;rw[qg (us.getD (i+n+2) 0) 32 (by decide) (by omega) J];refine dM J J J<|dM J J J<|dM J J J<|dy J (fun _=>dO J J (by omega) (by omega)) J J<|?_;refine dy J (fun _=>jb J J (by omega) (by omega)) J J<|dy J (fun _=>gh J J (by omega) (by omega)) J J<|?_;rw[show((i:Int)+(v.n:Int)-1).toNat=i+n+1 by omega];refine dy J (fun _=>qc J (by omega)) J J<|?_;refine dy J (fun _=>fE J (by omega) (by omega)) J J<|dy J (fun _=>gk J J (E3 (us.getD (i+n+1) 0) (us.getD (i+n+2) 0) 32 (by omega) (by omega))) J J<|dA J J J<|dn<|bF<|?_;obtain⟨f,hf⟩: ∃f,f=us.getD (i+n+2) 0*4294967296+us.getD (i+n+1) 0:=⟨_,rfl⟩;rw[show us.getD (i+n+1) 0+us.getD (i+n+2) 0*2^32=f by omega];rw[<-hf] at huh;have hfB:f<18446744073709551616:=by omega
 refine dr (fun _=>false) [(0,true),(1,true),(2,true),(3,true),(4,true),(5,true),(6,true),(7,true)] follows (by kernel_rfl)<|?_;refine dM J J J<|dM J J J<|dy J (fun _=>vS J J (by omega) (by omega) (by omega)) J J<|dM J J J<|dM J J J<|?_;refine dy J (fun _=>vo J J (by omega) (by omega)) J J<|dA J J J<|dA J J J<|dn<|?_;rw[show((f:Int)/((vs.getD (n+1) 0:Nat):Int))=((f/vs.getD (n+1) 0:Nat):Int) by rfl,show((f:Int)%((vs.getD (n+1) 0:Nat):Int))=((f%vs.getD (n+1) 0:Nat):Int) by rfl]
 -- GUESS
 have hUle:(f*4294967296+us.getD (i+n) 0)*p<=dv us:=by omega
 have hUlt:dv us<(f*4294967296+us.getD (i+n) 0+1)*p:=by rw[dZ _ 1,nL];omega
 have hVle:(vs.getD (n+1) 0*4294967296+vs.getD n 0)*p<=V:=by rw[hVp];exact pV _ _
 have hfT:f<=vs.getD (n+1) 0*4294967296+vs.getD n 0:=Qe hUle hVp hv0 hltV;refine xz Nat (fun g=>[(15, .int .u64 (g:Nat)),(13, .int .i64 i),(7, .slice (some ⟨b4,0,none⟩) (a.length+1) cap),(9, .int .i64 v.n),(10, .int .u64 (vs.getD (n+1) 0:Nat)),(11, .int .u64 (vs.getD n 0:Nat)),(8, .slice v.a v.n v.c),(12, .slice (some ⟨b5,0,none⟩) l l),(6, .int .u64 s)]) (fun _=>[⟨b5,qs.map dI,206,true⟩,⟨b4,us.map dI,206,true⟩]) (fun g _=>g<4294967296/\dv us<(g+1)*V/\g*V<dv us+V) ?_ ?_
 ·refine d4<|?_
  refine ku (X:=awK) (fun q=>[(15, .int .u64 q.g),(16, .int .u64 q.r),(13, .int .i64 i),(7, .slice (some ⟨b4,0,none⟩) (a.length+1) cap),(9, .int .i64 v.n),(10, .int .u64 (vs.getD (n+1) 0:Nat)),(11, .int .u64 (vs.getD n 0:Nat)),(8, .slice v.a v.n v.c),(12, .slice (some ⟨b5,0,none⟩) l l),(6, .int .u64 s)]) (fun _=>[⟨b5,qs.map dI,206,true⟩,⟨b4,us.map dI,206,true⟩]) (fun q _=>f=q.g*vs.getD (n+1) 0+q.r/\q.r<4294967296/\dv us<(q.g+1)*V) (fun q=>q.g) ⟨f/vs.getD (n+1) 0,f%vs.getD (n+1) 0⟩
   ⟨(Nat.div_add_mod' ..).symm,pX (cL _ hT0) hvt,X0 hUlt hg0 hVle hT0⟩ (.cons J (.cons J (.cons J (.cons J (.cons J (.cons J (.cons J (.cons J (.cons J (.cons J .nil)))))))))) J ?_
  rintro ⟨g,r⟩ Gy _ ⟨hfg,hrB,hlo⟩;simp only[] at hfg hrB hlo⊢;have hgT:g*1<=g*vs.getD (n+1) 0:=fV _ hT0;refine bF<|sR<|sm J J<|sy (lh J J (by decide)) J<|?_;rw[ry g 32 (by decide) J];refine sy (tQ J J) J<|sm J J<|?_;refine Ck 97 J (fun hg=>?_) (fun hg=>?_)
  ·have hgB:4294967296<=g:=by omega
   have hdec:dv us<g*V:=dV hltV (by rw[bM];exact bS _ hgB);refine ss J J J J<|ss J J J J<|ss J J J J<|ss J J J J<|ss J J J J<|ss J J J J<|ss J J J J<|ss J J J J<|ss J J J J<|?_;refine ss J J J J<|ss J J J J<|ss J J J J<|ss J J J J<|ss J J J J<|ss J J J J<|sy (xo J J) J<|zE<|Jj J<|?_;refine zK<|d4<|?_;obtain⟨g',rfl⟩: ∃g',g=g'+1:=⟨g-1,by rcases dS g with h|h;(rw[h,lK] at hdec;omega);omega⟩;refine sR<|sm J J<|sy (LA J J (by omega) (by omega)) J<|sa J J<|zE<|sR<|sm J J<|sm J J<|sy (pE J J) J<|?_;refine sa J J<|zE<|sR<|sm J J<|sy (lh J J (by decide)) J<|?_;rw[show((g'+1:Nat):Int)-1=(g':Nat) by omega,show((r:Int)+((vs.getD (n+1) 0:Nat):Int))=((r+vs.getD (n+1) 0:Nat):Int) from J,ry (r+vs.getD (n+1) 0) 32 (by decide) J];have hfg':f=g'*vs.getD (n+1) 0+(r+vs.getD (n+1) 0):=by rw[hfg,dZ,nL];omega
   refine sy (tQ J J) J<|zE<|?_;refine gG J (fun hc3=>?_) (fun hc3=>?_) -- slot 121
   ·have hr3:4294967296<=r+vs.getD (n+1) 0:=by omega
    have hgB:g'<4294967296:=by
     rcases gT g' 4294967296 with h|h
     ·exact h
     ·have:=bS (vs.getD (n+1) 0) h
      omega
    have hgS:g'*vs.getD n 0<=(r+vs.getD (n+1) 0)*4294967296+us.getD (i+n) 0:=by
     have h1:=nT (nN hgB) (nN hv2);omega
    refine iG<|I8 J<|dH<|iH<|?_;exact oE g' ⟨hgB,hdec,H2 hUle hVp hv0 hT0 hfg' hgB hgS⟩ (.cons J (.cons J (.cons J (.cons J (.cons J (.cons J (.cons J (.cons J (.cons J .nil))))))))) J
   refine zK<|?_;exact iv ⟨g',r+vs.getD (n+1) 0⟩ ⟨hfg',by show r+vs.getD (n+1) 0<_;omega,hdec⟩ (by show g'<g'+1;omega) (.cons J (.cons J (.cons J (.cons J (.cons J (.cons J (.cons J (.cons J (.cons J (.cons J .nil)))))))))) J
  have hgB:g<4294967296:=by omega
  have hgS:g*vs.getD n 0<4294967296*4294967296:=mZ hgB hv2;have e2:(g:Int)*((vs.getD n 0:Nat):Int)=((g*vs.getD n 0:Nat):Int):=J;refine eE J J (ma J) J<|eE J J (ma J) J<|eE J J (Gi J J (by rw[e2];omega) (by rw[e2];omega)) J<|eE J J (ma J) J<|eE J J (ul J J (by decide)) J<|?_;rw[qg r 32 (by decide) (by omega) J];refine eE J J (ma J) J<|eE J J (ma J) J<|eE J J (ma J) J<|eE J J (dO J J) J<|eE J J (jb J J) J<|?_;refine eE J J (gh J J (by omega) (by omega)) J<|?_;rw[show((i:Int)+(v.n:Int)-2).toNat=i+n by omega];refine eE J J (qc J (by omega)) J<|eE J J (fE J) J<|eE J J (gk J J (E3 (us.getD (i+n) 0) r 32 (by omega) (by omega))) J<|?_;refine eE J J (uL J J) J<|sy (y4 J J) J<|zE<|?_;rw[e2];refine kD J (fun hc2=>?_) (fun hc2=>?_) -- slot 113
  ·refine iG<|dH<|dH<|iH<|?_
   exact oE g ⟨hgB,hlo,H2 hUle hVp hv0 hT0 hfg hgB (by omega)⟩ (.cons J (.cons J (.cons J (.cons J (.cons J (.cons J (.cons J (.cons J (.cons J .nil))))))))) J
  have hdec:dv us<g*V:=Yg hUlt hVle hfg (by omega);refine zK<|d4<|?_;obtain⟨g',rfl⟩: ∃g',g=g'+1:=⟨g-1,by rcases dS g with h|h;(rw[h,lK] at hdec;omega);omega⟩;refine sR<|sm J J<|sy (LA J J (by omega) (by omega)) J<|sa J J<|zE<|sR<|sm J J<|sm J J<|sy (pE J J) J<|?_;refine sa J J<|zE<|sR<|sm J J<|sy (lh J J (by decide)) J<|?_;rw[show((g'+1:Nat):Int)-1=(g':Nat) by omega,show((r:Int)+((vs.getD (n+1) 0:Nat):Int))=((r+vs.getD (n+1) 0:Nat):Int) from J,ry (r+vs.getD (n+1) 0) 32 (by decide) J];have hfg':f=g'*vs.getD (n+1) 0+(r+vs.getD (n+1) 0):=by rw[hfg,dZ,nL];omega
  refine sy (tQ J J) J<|zE<|?_;refine gG J (fun hc3=>?_) (fun hc3=>?_) -- slot 121
  ·have hr3:4294967296<=r+vs.getD (n+1) 0:=by omega
   have hgB:g'<4294967296:=by
    rcases gT g' 4294967296 with h|h
    ·exact h
    ·have:=bS (vs.getD (n+1) 0) h
     omega
   have hgS:g'*vs.getD n 0<=(r+vs.getD (n+1) 0)*4294967296+us.getD (i+n) 0:=by
    have h1:=nT (nN hgB) (nN hv2);omega
   refine iG<|I8 J<|dH<|iH<|?_;exact oE g' ⟨hgB,hdec,H2 hUle hVp hv0 hT0 hfg' hgB hgS⟩ (.cons J (.cons J (.cons J (.cons J (.cons J (.cons J (.cons J (.cons J (.cons J .nil))))))))) J
  refine zK<|?_;exact iv ⟨g',r+vs.getD (n+1) 0⟩ ⟨hfg',by show r+vs.getD (n+1) 0<_;omega,hdec⟩ (by show g'<g'+1;omega) (.cons J (.cons J (.cons J (.cons J (.cons J (.cons J (.cons J (.cons J (.cons J (.cons J .nil)))))))))) J
 rintro g Gz _ ⟨hgB,hlo,hhi⟩
 -- SUB
 refine sR<|sa J J<|sa J J<|zE<|bF<|sR<|sm J J<|cD J J<|sm J J<|zE<|d4<|?_;refine ku (X:=Ox) (fun q=>[(18, .int .u64 q.c),(17, .int .u64 q.bo),(124, .int .i64 q.k),(123, .int .i64 v.n),(122, .slice v.a v.n v.c),(15, .int .u64 (g:Nat)),(13, .int .i64 i),(7, .slice (some ⟨b4,0,none⟩) (a.length+1) cap),(9, .int .i64 v.n),(10, .int .u64 (vs.getD (n+1) 0:Nat)),(11, .int .u64 (vs.getD n 0:Nat)),(8, .slice v.a v.n v.c),(12, .slice (some ⟨b5,0,none⟩) l l),(6, .int .u64 s)]) (fun q=>[⟨b5,qs.map dI,206,true⟩,⟨b4,q.ws.map dI,206,true⟩])
  (fun q _=>q.ws.length=cap/\bg q.ws/\q.k<=n+2/\q.bo<=1/\q.c<4294967296/\dv q.ws<4294967296^(i+n+3)/\dv q.ws+g*(dv (vs.take q.k)*4294967296^i)=dv us+(q.bo+q.c)*4294967296^(i+q.k)) (fun q=>n+2-q.k) ⟨us,0,0,0⟩
  ⟨hul2,huo2,bN _,bN _,by show(0:Nat)<4294967296;decide,hM,by simp[dv]⟩ (.cons J (.cons J (.cons J (.cons J (.cons J (.cons J (.cons J (.cons J (.cons J (.cons J (.cons J (.cons J (.cons J (.cons J .nil)))))))))))))) J ?_
 rintro ⟨ws,k,bo,c⟩ Gy _ ⟨hwl,hwo,hk,hbo,hc4,hwM,hw⟩;simp only[] at hwl hwo hk hbo hc4 hwM hw⊢;refine sR<|sy (jt J J) J<|zE<|bF<|?_;refine kD J (fun hkc=>?_) (fun hkc=>?_) -- slot 125
 ·have hkn:k=n+2:=by omega
  subst hkn;rw[aL (by omega),<-hV] at hw;refine iG<|dH<|dH<|iH<|sR<|sm J J<|sm J J<|sm J J<|sy (dO J J) J<|sy (gh J J (by omega) (by omega)) J<|?_;rw[show((i:Int)+(v.n:Int)).toNat=i+n+2 by omega];have hwg:=hwo.get (i+n+2);refine sy (qc J (by omega)) J<|sy (fE J) J<|sm J J<|sy (tU J J) J<|sm J J<|sy (tU J J) J<|?_;rw[sub2 _ _ _ hwg hc4 hbo];obtain⟨hx1,hx2,hx3⟩:=NG (ws.getD (i+n+2) 0) c bo hwg hc4 hbo;generalize rB (ws.getD (i+n+2) 0) c bo=xx at hx1 hx2 hx3⊢;refine sa J J<|zE<|sR<|sm J J<|sm J J<|sm J J<|sy (dO J J) J<|sm J J<|sy (jw J) J<|sy (gh J J (by omega) (by omega)) J<|?_;rw[show((i:Int)+(v.n:Int)).toNat=i+n+2 by omega];refine sc (kH (d:=xx%4294967296) J J (by rw[nR];rfl) (.tl _ _ _ _ _ _ _ _ (.hd ..)) (by omega) J ?_);have hs2:=oB ws (i+n+2) (xx%4294967296) (by omega);have hl2:=TN hs2 hw hx1;rw[<-tu] at hl2;have hM2:=Db (i:=i+n+2) (d:=xx%4294967296) hwo (cL _ (by decide)) hwM (by omega);have ho2:=hwo.set (i+n+2) (d:=xx%4294967296) (cL _ (by decide));have hn2:(ws.set (i+n+2) (xx%4294967296)).length=cap:=by rw[aT];exact hwl
  generalize ws.set (i+n+2) (xx%4294967296)=ws2 at hl2 hM2 ho2 hn2⊢;replace hl2:dv ws2+g*V=dv us+xx/9223372036854775808*4294967296^(i+n+3):=hl2;have hqset: ∀d,dv (qs.set i d)=dv qs+4294967296^i*d:=fun d=>by
   have:=oB qs i d (by omega);rw[hq0 i (by omega)] at this;simpa using this
  have hqz: ∀d i',i'<i->(qs.set i d).getD i' 0=0:=fun d i' h=>by
   have:=hq0 i' (by omega);simpa[List.getD,oY,show¬i=i' by omega] using this
  have hinv2: ∀d R,R+d*V=dv us->dv a*2^s=R+dv vs*dv (qs.set i d):=fun d R h=>by
   rw[hinv,<-h,hqset,dJ,<-cZ,<-hV,bM d];omega
  refine zE<|sR<|sm J J<|sm J J<|sm J J<|sy (jw J) J<|sy (gh J J (by omega) (by omega)) J<|?_;rw[bW];refine sc (kH (d:=g) J J (N0 g hgB) (.hd ..) (by omega) J ?_);refine zE<|bF<|sR<|sm J J<|sy (lh J J (by decide)) J<|?_;rw[ry xx 63 (by decide) J];refine sy (pm J J) J<|zE<|?_;refine gG J (fun ht=>?_) (fun ht=>?_) -- slot 184
  ·have ht0:xx/2^63=0:=by omega
   rw[show xx/9223372036854775808=xx/2^63 from J,ht0,lK,eX] at hl2;refine iG<|dH<|iH<|dh<|sm J J<|sy (jb J J) J<|sa J J<|zE<|?_;exact iv ⟨ws2,qs.set i g,i⟩ ⟨hn2,ho2,by simpa using hql,hqo.set _ hgB,by show i<=l;omega,hqz g,hinv2 g _ hl2,by show dv ws2<_;rw[<-hV];exact Tj hlo hl2⟩ (by show i<i+1;omega) (.cons J (.cons J (.cons J (.cons J (.cons J (.cons J (.cons J (.cons J .nil)))))))) J
  have ht1:xx/9223372036854775808=1:=by
   have:xx/9223372036854775808≠0:=fun h=>ht (by rw[show xx/2^63=xx/9223372036854775808 from J,h];rfl);omega
  rw[ht1,nL] at hl2;obtain⟨g',rfl⟩: ∃g',g=g'+1:=⟨g-1,by rcases dS g with h|h;(rw[h,lK] at hl2;omega);omega⟩;refine zK<|sR<|sm J J<|sm J J<|sy (gh J J (by omega) (by omega)) J<|?_;rw[bW];refine sy (qc J (by simp;omega)) J<|?_;rw[show(qs.set i (g'+1)).getD i 0=g'+1 by simp[List.getD,oY,show i<qs.length by omega]];refine sy (tU J J) J<|sy (gh J J (by omega) (by omega)) J<|?_;rw[bW];refine sc (kH (d:=g') J J (by rw[pj];omega) (.hd ..) (by simp;omega) J ?_);rw[List.set_set];refine zE<|sR<|sa J J<|zE<|bF<|sR<|sm J J<|cD J J<|sm J J<|zE<|d4<|?_;refine ku (X:=Ox) (fun q=>[(18, .int .u64 q.c),(193, .int .i64 q.k),(192, .int .i64 v.n),(191, .slice v.a v.n v.c),(13, .int .i64 i),(7, .slice (some ⟨b4,0,none⟩) (a.length+1) cap),(9, .int .i64 v.n),(10, .int .u64 (vs.getD (n+1) 0:Nat)),(11, .int .u64 (vs.getD n 0:Nat)),(8, .slice v.a v.n v.c),(12, .slice (some ⟨b5,0,none⟩) l l),(6, .int .u64 s)]) (fun q=>[⟨b5,(qs.set i g').map dI,206,true⟩,⟨b4,q.ws.map dI,206,true⟩])
   (fun q _=>q.ws.length=cap/\bg q.ws/\q.k<=n+2/\q.c<=1/\dv q.ws<4294967296^(i+n+3)/\dv q.ws+q.c*4294967296^(i+q.k)=dv ws2+dv (vs.take q.k)*4294967296^i) (fun q=>n+2-q.k) ⟨ws2,0,0,0⟩
   ⟨hn2,ho2,bN _,bN _,hM2,by simp[dv]⟩ (.cons J (.cons J (.cons J (.cons J (.cons J (.cons J (.cons J (.cons J (.cons J (.cons J (.cons J (.cons J .nil)))))))))))) J ?_
  rintro ⟨wa,k,_,ca⟩ Gz _ ⟨hal2,hao,hak,hac,haM,ha⟩;simp only[] at hal2 hao hak hac haM ha⊢;refine sR<|sy (jt J J) J<|zE<|bF<|?_;refine kD J (fun hkd=>?_) (fun hkd=>?_) -- slot 194
  ·have hkn:k=n+2:=by omega
   subst hkn;rw[aL (by omega),<-hV] at ha;have hag:=hao.get (i+n+2);refine iG<|dH<|dH<|iH<|dh<|sm J J<|sm J J<|sm J J<|sy (dO J J) J<|sy (gh J J (by omega) (by omega)) J<|?_;rw[show((i:Int)+(v.n:Int)).toNat=i+n+2 by omega];refine sy (qc J (by omega)) J<|sm J J<|sy (jw J) J<|sy (Yr J J) J<|sy (gh J J (by omega) (by omega)) J<|?_;rw[show((i:Int)+(v.n:Int)).toNat=i+n+2 by omega];refine sc (kH (d:=(wa.getD (i+n+2) 0+ca)%4294967296) J J (by rw[pj];omega) (.tl _ _ _ _ _ _ _ _ (.hd ..)) (by omega) J ?_);have hs4:=oB wa (i+n+2) ((wa.getD (i+n+2) 0+ca)%4294967296) (by omega);have hl4:=R9 hs4 ha;rw[<-tu] at hl4;have hM4:=Db (i:=i+n+2) (d:=(wa.getD (i+n+2) 0+ca)%4294967296) hao (cL _ (by decide)) haM (by omega);obtain⟨hR1,hR2⟩:=VH hhi hl2 hl4 hM2 hM4 (by omega) (Nat.succ_pos _);refine zE<|dh<|sm J J<|sy (jb J J) J<|sa J J<|zE<|?_;exact iv ⟨wa.set (i+n+2) ((wa.getD (i+n+2) 0+ca)%4294967296),qs.set i g',i⟩ ⟨by simpa using hal2,hao.set _ (cL _ (by decide)),by simpa using hql,hqo.set _ (by omega),by show i<=l;omega,hqz g',hinv2 g' _ hR1,by show dv _<_;rw[<-hV];exact hR2⟩ (by show i<i+1;omega) (.cons J (.cons J (.cons J (.cons J (.cons J (.cons J (.cons J (.cons J .nil)))))))) J
  have hvk:=hvo.get k;have hag:=hao.get (i+k);refine zK<|bF<|d4<|sR<|sm J J<|sy (gt hv J J (by omega) (by omega)) J<|?_;rw[bW];refine sy (gm hv J (by omega)) J<|sa J J<|sa J J<|zE<|bF<|?_;refine dh<|sm J J<|sm J J<|sm J J<|sm J J<|sy (dO J J) J<|sy (gh J J (by omega) (by omega)) J<|?_;rw[show((i:Int)+(k:Int)).toNat=i+k by omega];refine sy (qc J (by omega)) J<|sy (fE J) J<|sm J J<|sy (fE J) J<|sy (pE J J) J<|sy (pE J J) J<|?_;rw[show(ca:Int)+(((wa.getD (i+k) 0:Nat):Int)+((vs.getD k 0:Nat):Int))=((ca+(wa.getD (i+k) 0+vs.getD k 0):Nat):Int) from J];refine sa J J<|zE<|sR<|sm J J<|sm J J<|sm J J<|sy (dO J J) J<|sm J J<|sy (jw J) J<|sy (gh J J (by omega) (by omega)) J<|?_;rw[show((i:Int)+(k:Int)).toNat=i+k by omega];refine sc (kH (d:=(ca+(wa.getD (i+k) 0+vs.getD k 0))%4294967296) J J (by rw[nR];rfl) (.tl _ _ _ _ _ _ _ _ (.hd ..)) (by omega) J ?_);refine zE<|dh<|sm J J<|sy (lh J J (by decide)) J<|?_;rw[ry (ca+(wa.getD (i+k) 0+vs.getD k 0)) 32 (by decide) J];refine sa J J<|zE<|dh<|sy (dO J J) J<|sm J J<|zE<|?_;refine iv ⟨wa.set (i+k) ((ca+(wa.getD (i+k) 0+vs.getD k 0))%4294967296),k+1,0,(ca+(wa.getD (i+k) 0+vs.getD k 0))/2^32⟩ ⟨by simpa using hal2,hao.set _ (cL _ (by decide)),by show k+1<=_;omega,by show(ca+(wa.getD (i+k) 0+vs.getD k 0))/4294967296<=1;omega,Db hao (cL _ (by decide)) haM (by omega),?_⟩ (by show n+2-(k+1)<n+2-k;omega) (.cons J (.cons J (.cons J (.cons J (.cons J (.cons J (.cons J (.cons J (.cons J (.cons J (.cons J (.cons J .nil)))))))))))) J;show dv (wa.set (i+k) ((ca+(wa.getD (i+k) 0+vs.getD k 0))%4294967296))+((ca+(wa.getD (i+k) 0+vs.getD k 0))/4294967296)*4294967296^(i+k+1)=dv ws2+dv (vs.take (k+1))*4294967296^i
  rw[im,dZ (dv (vs.take k)),tu,show 4294967296^k*vs.getD k 0*4294967296^i=vs.getD k 0*4294967296^(i+k) by rw[fJ,bM (4294967296^k),cZ,bM (4294967296^k)]];exact XF (oB wa (i+k) _ (by omega)) ha
 have hvk:=hvo.get k;have hwg:=hwo.get (i+k);refine zK<|bF<|d4<|sR<|sm J J<|sy (gt hv J J (by omega) (by omega)) J<|?_;rw[bW];refine sy (gm hv J (by omega)) J<|sa J J<|sa J J<|zE<|bF<|?_;have hgd:g*vs.getD k 0<=4294967295*4294967295:=nT (by omega) (by omega);have e3:(g:Int)*((vs.getD k 0:Nat):Int)=((g*vs.getD k 0:Nat):Int):=J;refine dh<|sm J J<|sm J J<|sm J J<|sy (fE J) J<|sy (Gi J J (by rw[e3];omega) (by rw[e3];omega)) J<|?_;rw[e3];refine sy (pE J J) J<|?_;rw[show(c:Int)+((g*vs.getD k 0:Nat):Int)=((c+g*vs.getD k 0:Nat):Int) from J];obtain⟨c1,hc1⟩: ∃c1,c1=c+g*vs.getD k 0:=⟨_,rfl⟩;rw[<-hc1];have hc1m:c1%4294967296<4294967296:=cL _ (by decide);refine sa J J<|zE<|sR<|sm J J<|sm J J<|sm J J<|sy (dO J J) J<|sy (gh J J (by omega) (by omega)) J<|?_;rw[show((i:Int)+(k:Int)).toNat=i+k by omega];refine sy (qc J (by omega)) J<|sy (fE J) J<|sm J J<|sy (gk J J (UX c1 (by omega))) J<|sy (tU J J) J<|sm J J<|sy (tU J J) J<|?_;rw[sub2 _ _ _ hwg hc1m hbo];obtain⟨hx1,hx2,hx3⟩:=NG (ws.getD (i+k) 0) (c1%4294967296) bo hwg hc1m hbo;generalize rB (ws.getD (i+k) 0) (c1%4294967296) bo=xx at hx1 hx2 hx3⊢;refine sa J J<|?_;refine zE<|sR<|sm J J<|sm J J<|sm J J<|sy (dO J J) J<|sm J J<|sy (jw J) J<|sy (gh J J (by omega) (by omega)) J<|?_;rw[show((i:Int)+(k:Int)).toNat=i+k by omega];refine sc (kH (d:=xx%4294967296) J J (by rw[nR];rfl) (.tl _ _ _ _ _ _ _ _ (.hd ..)) (by omega) J ?_);refine zE<|sR<|sm J J<|sy (lh J J (by decide)) J<|?_;rw[ry xx 63 (by decide) J];refine sa J J<|zE<|dh<|sm J J<|sy (lh J J (by decide)) J<|?_
 rw[ry c1 32 (by decide) J];refine sa J J<|?_;refine zE<|dh<|sy (dO J J) J<|sm J J<|zE<|?_;refine iv ⟨ws.set (i+k) (xx%4294967296),k+1,xx/2^63,c1/2^32⟩ ⟨by simpa using hwl,hwo.set _ (cL _ (by decide)),by show k+1<=_;omega,hx2,by show c1/4294967296<_;omega,Db hwo (cL _ (by decide)) hwM (by omega),?_⟩ (by show n+2-(k+1)<n+2-k;omega) (.cons J (.cons J (.cons J (.cons J (.cons J (.cons J (.cons J (.cons J (.cons J (.cons J (.cons J (.cons J (.cons J (.cons J .nil)))))))))))))) J;show dv (ws.set (i+k) (xx%4294967296))+g*(dv (vs.take (k+1))*4294967296^i)=dv us+(xx/9223372036854775808+c1/4294967296)*4294967296^(i+k+1);rw[im,dZ (dv (vs.take k)),tu,show 4294967296^k*vs.getD k 0*4294967296^i=vs.getD k 0*4294967296^(i+k) by rw[fJ,bM (4294967296^k),cZ,bM (4294967296^k)],dJ,<-cZ g (vs.getD k 0)];exact Qj (oB ws (i+k) _ (by omega)) hw hc1 hx1
def FK{A B G:Gh}{x y:SV}{a b:List Nat}{k1 k2:Nat}(hx:b6 A x a)(hy:b6 B y b)[GL A G][GL B G](hb0:0<dv b)
  (hq:dv a/dv b<2^k1)(hr:dv a%dv b<2^k2)(hl:a.length<=112589990684)(hl2:b.length<=112589990684):
  Fn prog 173 [x.v,y.v] G (fun v G'=> ∃z r:SV,v= .tuple #[z.v,r.v, .bool true]/\e7 k1 G' z (dv a/dv b)/\e7 k2 G' r (dv a%dv b)):=by
 have hla:=lP a;have hlb:=lP b;have hca:=fun G1 (_:GL A G1)=>io (G:=G1) hx (by omega);have hcb:=fun G1 (_:GL B G1)=>io (G:=G1) hy (by omega);have hxt:=hx.trim;have hyt:=hy.trim;have hna:=dC.trimD a;have hnb:=dC.trimD b;rw[<-ja a,<-ja b] at hq hr⊢;rw[<-ja b] at hb0;generalize trimD a=a' at*;generalize trimD b=b' at*;refine Fn.intro func173 J J ntmps173 J ?_;intro C _ _;refine sR<|sa J J<|sa J J<|sa J J<|zE<|sR<|sm J J<|?_;refine sc (zC J J (hca _ inferInstance) J ?_);rintro _ G1 _ rfl;refine sm J J<|?_;refine sc (zC J J (hcb _ inferInstance) J ?_);rintro _ G2 _ rfl;refine sa J J<|sa J J<|zE<|bF<|d4<|sR<|sm J J<|cD J J<|sy (pm J J) J<|sa J J<|zE<|?_;refine gG J (fun hc=>?_) (fun hc=>?_) -- slot 15
 ·exfalso
  have:b'=[]:=cV (by omega);rw[this] at hb0;exact absurd hb0 (by simp[dv])
 refine sR<|sm J J<|sm J J<|?_;refine sc (zC J J (MF hxt hyt (by omega) (by omega)) J ?_);rintro _ G3 _ rfl;refine sy (jt J J) J<|sa J J<|zE<|?_;refine gG J (fun hc2=>?_) (fun hc2=>?_) -- slot 19
 ·have hlt:dv a'<dv b':=by
   unfold fC at hc2;split at hc2
   ·assumption
   ·split at hc2<;>omega
  refine sR<|sm J J<|?_;refine sc (zC J J (J4 hxt (by omega)) J ?_);rintro _ G4 _ ⟨z,rfl,hz⟩;refine sa J J<|sa J J<|sa J J<|zE<|eo<|?_;refine zD (.tmp J (.tmp J (.tmp J .nil))) ⟨⟨none,0,0⟩,z,J,?_,?_⟩
  ·rw[iM hlt]
   exact⟨by unfold dg;exact .nil _,fQ (by decide)⟩
  ·rw[dT hlt] at hr⊢
   exact⟨by rw[Nb hxt.ok hna];exact hz,hr⟩
 have hle:dv b'<=dv a':=by
  unfold fC at hc2;split at hc2
  ·omega
  ·omega
 refine sR<|sm J J<|cD J J<|sy (pm J J) J<|sa J J<|zE<|?_;refine gG J (fun hc3=>?_) (fun hc3=>?_) -- slot 26
 ·have hb1:b'.length=1:=by omega
  obtain⟨d,rfl⟩:=List.length_eq_one_iff.1 hb1;have hdv:dv [d]=d:=by simp[dv]
  have hdB:=hyt.ok.head;rw[hdv] at hb0 hq hr⊢;refine sR<|sm J J<|sm J J<|sy (gt (z:=⟨y.a,1,y.c⟩) hyt J J (by omega) (by show(0:Int)<((1:Nat):Int);omega)) J<|sy (gm (i:=0) hyt J (by simp)) J<|?_;rw[show [d].getD 0 0=d from J];refine sc (zC J J (VR (x:=⟨x.a,a'.length,x.c⟩) hxt hb0 hdB hq (by omega)) J ?_);rintro _ G5 _ ⟨z,rfl,hz⟩;have hmB:dv a'%d<4294967296:=pX (cL _ hb0) hdB;refine sm J J<|sx J J J<|sx J J J<|sa J J<|sa J J<|zE<|sR<|sm J J<|sm J J<|sy (fE J) J<|?_;refine sc (zC J J (EL (by omega)) J ?_);rintro _ G6 _ ⟨r,rfl,hr6⟩;refine sa J J<|sa J J<|sa J J<|zE<|eo<|?_;exact zD (.tmp J (.tmp J (.tmp J .nil))) ⟨z,r,J,hz.up,hr6.mono hr⟩
 have hb2:2<=b'.length:=by omega
 refine zK<|sR<|sm J J<|sm J J<|?_;refine sc (zC J J (UV (x:=⟨x.a,a'.length,x.c⟩) (y:=⟨y.a,b'.length,y.c⟩) hxt hyt hna hnb hb2 hle hq hr (by omega)) J ?_);rintro _ G7 _ ⟨z,r,rfl,hz,hr7⟩;refine sm J J<|sx J J J<|sx J J J<|sa J J<|sa J J<|zE<|sR<|sm J J<|sm J J<|sa J J<|sa J J<|sa J J<|zE<|?_;refine eo<|?_;exact zD (.tmp J (.tmp J (.tmp J .nil))) ⟨z,r,J,hz,hr7⟩
def k8{u k:Nat}(h:u<2^k):32*(dg u).length<=k+31:=L8 (d8 u).2.2 (by rw[(d8 u).1];exact h)
def e7.dvl{k:Nat}{G:Gh}{x:SV}{v:Nat}(_:e7 k G x v):dv (dg v)=v:=(d8 v).1
structure QZ where
 a:SV
 b:SV
 u:Nat
 v:Nat
def Zi{A B G:Gh}{x y:SV}{a b:List Nat}{k k0:Nat}(hx:b6 A x a)(hy:b6 B y b)[GL A G][GL B G](ha:dv a<2^k0)(hb:dv b<2^k0)(hk0:k0<=1099511627776)
  (hg0:Nat.gcd (dv a) (dv b)<2^k)(hl:a.length<=112589990684)(hl2:b.length<=112589990684):
  Fn prog 172 [x.v,y.v] G (fun v G'=> ∃z:SV,v=z.v/\e7 k G' z (Nat.gcd (dv a) (dv b))):=by
 refine Fn.intro func172 J J ntmps172 J ?_;intro C _ _;refine sR<|sa J J<|zE<|sR<|sm J J<|?_;refine sc (zC J J (Em hx ha (by omega)) J ?_);rintro _ G1 _ ⟨x1,rfl,hx1⟩;refine sm J J<|?_;refine sc (zC J J (Em hy hb (by omega)) J ?_);rintro _ G2 _ ⟨y1,rfl,hy1⟩;generalize dv a=ua at*;generalize dv b=ub at*;refine sa J J<|sa J J<|zE<|bF<|d4<|?_;refine ku (X:=QZ) (fun q=>[(0, .slice q.a.a q.a.n q.a.c),(1, .slice q.b.a q.b.n q.b.c)]) (fun _=>[]) (fun q G=>e7 k0 G q.a q.u/\e7 k0 G q.b q.v/\Nat.gcd q.u q.v=Nat.gcd ua ub) (fun q=>q.v) ⟨x1,y1,ua,ub⟩
  ⟨hx1.up,hy1,J⟩ (.cons J (.cons J .nil)) J ?_
 rintro ⟨p,q,u,v⟩ Gx _ ⟨hp,hq,hgc⟩;simp only[] at hp hq hgc⊢;have hpl:=hp.len;have hql:=hq.len;have hpb:=k8 hp.lt;have hqb:=k8 hq.lt;refine bF<|sR<|sm J J<|cD J J<|sy (uL J J) J<|sm J J<|?_;refine Ck 19 J (fun hg=>?_) (fun hg=>?_)
 ·refine ss J J J J<|ss J J J J<|ss J J J J<|sy (xo J J) J<|zE<|Jj J<|zK<|d4<|bF<|sR<|sm J J<|?_
  refine cD J J<|sy (pm J J) J<|zE<|?_;refine gG J (fun hc1=>?_) (fun hc1=>?_) -- slot 26
  ·refine sR<|sm J J<|sa J J<|zE<|eo<|?_
   have hv0:v=0:=by
    have:dg v=[]:=cV (by omega);have h2:=hq.dvl;rw[this] at h2;exact h2.symm
   have hue:u=Nat.gcd ua ub:=by rw[<-hgc,hv0,mJ]
   exact zD (.tmp J .nil) ⟨p,J,by rw[<-hue] at hg0⊢;exact hp.mono hg0⟩
  have hv0:0<v:=fL fun h=>by
   have h1:dg v=[]:=by rw[h];unfold dg;rfl
   rw[h1] at hql;simp only[gV] at hql;omega
  have hm:=cL u hv0;refine zK<|sR<|sm J J<|sm J J<|?_;refine sc (zC J J (FK (k1:=k0) (k2:=k0) hp.d hq.d (by rw[hq.dvl];exact hv0) (by rw[hp.dvl];exact dL (iR _ _) hp.lt) (by rw[hp.dvl,hq.dvl];exact pX hm hq.lt) (by omega) (by omega)) J ?_);rintro _ G3 _ ⟨z,r,rfl,hz,hr⟩;rw[hp.dvl,hq.dvl] at hr;refine sm J J<|sx J J J<|sx J J J<|sx J J J<|sa J J<|sa J J<|sa J J<|zE<|dh<|sm J J<|sm J J<|sa J J<|sa J J<|?_;refine zE<|?_;exact iv ⟨q,r,v,u%v⟩ ⟨hq.up,hr,by show Nat.gcd v (u%v)=_;rw[<-hgc,iZ u,sT v u,iZ]⟩ hm (.cons J (.cons J .nil)) J
 refine eE J J (ma J) J<|eE J J (tJ J) J<|eE J J (uL J J) J<|sy (y4 J J) J<|zE<|?_;refine kD J (fun hc=>?_) (fun hc=>?_) -- slot 23
 ·have small: ∀{w:Nat},(dg w).length<=2->w<18446744073709551616:=fun{w} h=>by
   have h1:=i4 (d8 w).2.1;rw[(d8 w).1] at h1;exact dV h1 (fU (bK (by decide) h) (by decide))
  have hu64:u<18446744073709551616:=small (by omega);have hv64:v<18446744073709551616:=small (by omega);refine iG<|dH<|dH<|iH<|sR<|sm J J<|?_;refine sc (zC J J (Ey hp.d (by omega)) J ?_);rintro _ G4 _ rfl;rw[hp.dvl,if_pos hu64];refine sm J J<|sx J J J<|sx J J J<|sa J J<|sa J J<|zE<|sR<|sm J J<|?_;refine sc (zC J J (Ey hq.d (by omega)) J ?_);rintro _ G5 _ rfl;rw[hq.dvl,if_pos hv64];refine sm J J<|sx J J J<|sx J J J<|sa J J<|sa J J<|zE<|bF<|d4<|?_;refine ku (X:=Nat×Nat) (fun q=>[(8, .int .u64 (q.1:Nat)),(10, .int .u64 (q.2:Nat))]) (fun _=>[]) (fun q _=>q.1<18446744073709551616/\q.2<18446744073709551616/\Nat.gcd q.1 q.2=Nat.gcd ua ub) (fun q=>q.2) (u,v)
   ⟨hu64,hv64,hgc⟩ (.cons J (.cons J .nil)) J ?_
  rintro ⟨u1,v1⟩ Gy _ ⟨hu1,hv1,hgc1⟩;simp only[] at hu1 hv1 hgc1⊢;refine bF<|sR<|sm J J<|sy (tQ J J) J<|zE<|?_;refine kD J (fun hc5=>?_) (fun hc5=>?_) -- slot 48
  ·refine iG<|dH<|dH<|iH<|sR<|sm J J<|?_
   refine sc (zC J J (EL hu1) J ?_);rintro _ G6 _ ⟨z,rfl,hz⟩;refine sa J J<|zE<|eo<|?_;have hv0:v1=0:=by omega
   have hue:u1=Nat.gcd ua ub:=by rw[<-hgc1,hv0,mJ]
   exact zD (.tmp J .nil) ⟨z,J,by rw[<-hue] at hg0⊢;exact hz.mono hg0⟩
  have hv0:0<v1:=by omega
  refine zK<|d4<|dr (fun _=>false) [(0,true),(1,true),(2,true),(3,true),(4,true),(5,true)] follows (by kernel_rfl)<|dM J J J<|dM J J J<|?_;refine dM J J J<|dy J (fun _=>vo J J (by omega) (by omega)) J J<|dA J J J<|dA J J J<|dn<|?_;exact iv (v1,u1%v1) ⟨hv1,pX (cL _ hv0) hv1,by show Nat.gcd v1 (u1%v1)=_;rw[<-hgc1,iZ u1,sT v1 u1,iZ]⟩ (by show u1%v1<v1;exact cL _ hv0) (.cons J (.cons J .nil)) J
 refine zK<|d4<|bF<|sR<|sm J J<|?_;refine cD J J<|sy (pm J J) J<|zE<|?_;refine gG J (fun hc1=>?_) (fun hc1=>?_) -- slot 26
 ·refine sR<|sm J J<|sa J J<|zE<|eo<|?_
  have hv0:v=0:=by
   have:dg v=[]:=cV (by omega);have h2:=hq.dvl;rw[this] at h2;exact h2.symm
  have hue:u=Nat.gcd ua ub:=by rw[<-hgc,hv0,mJ]
  exact zD (.tmp J .nil) ⟨p,J,by rw[<-hue] at hg0⊢;exact hp.mono hg0⟩
 have hv0:0<v:=fL fun h=>by
  have h1:dg v=[]:=by rw[h];unfold dg;rfl
  rw[h1] at hql;simp only[gV] at hql;omega
 have hm:=cL u hv0;refine zK<|sR<|sm J J<|sm J J<|?_;refine sc (zC J J (FK (k1:=k0) (k2:=k0) hp.d hq.d (by rw[hq.dvl];exact hv0) (by rw[hp.dvl];exact dL (iR _ _) hp.lt) (by rw[hp.dvl,hq.dvl];exact pX hm hq.lt) (by omega) (by omega)) J ?_);rintro _ G3 _ ⟨z,r,rfl,hz,hr⟩;rw[hp.dvl,hq.dvl] at hr;refine sm J J<|sx J J J<|sx J J J<|sx J J J<|sa J J<|sa J J<|sa J J<|zE<|dh<|sm J J<|sm J J<|sa J J<|sa J J<|?_;refine zE<|?_;exact iv ⟨q,r,v,u%v⟩ ⟨hq.up,hr,by show Nat.gcd v (u%v)=_;rw[<-hgc,iZ u,sT v u,iZ]⟩ hm (.cons J (.cons J .nil)) J
structure IV where
 neg:Bool
 a:SV
def IV.v(z:IV):Value:= .agg ⟨[.bool z.neg, .slice z.a.a z.a.n z.a.c]⟩
def zv(neg:Bool)(u:Nat):Int:=if neg then-(u:Int) else u
def my(neg:Bool)(u:Nat):(zv neg u).natAbs=u:=by cases neg<;>simp[zv]
def QN(neg:Bool)(u:Nat):zv (!neg) u= -zv neg u:=by cases neg<;>simp[zv]
def P0(n m:Bool)(u w:Nat):zv (n !=m) (u*w)=zv n u*zv m w:=by cases n<;>cases m<;>simp[zv,sS,Int.mul_neg]
def M7(neg:Bool)(u:Nat):decide (zv neg u<0)=(neg&&decide (0<u)):=by
 cases neg<;>simp[zv]
def lj(m:Int):zv (decide (m<0)) m.natAbs=m:=by
 unfold zv;by_cases h:m<0<;>simp[h]<;>omega
structure tX (k:Nat) (G:Gh) (z:IV) (m:Int):Prop where
 neg:z.neg=decide (m<0)
 abs:e7 k G z.a m.natAbs
def VM(n:Bool)(u w:Nat):zv n (u+w)=zv n u+zv n w:=by cases n<;>simp[zv]<;>omega
def Fw(p:Int):IntKind.i64.wrap p=(p+9223372036854775808)%18446744073709551616-9223372036854775808:=by
 have e:IntKind.i64.wrap p=if(true&&decide (p%2^64>=2^(64-1)))=true then p%2^64-2^64 else p%2^64:=J
 rw[e,show(2:Int)^64=18446744073709551616 by decide,show(2:Int)^(64-1)=9223372036854775808 by decide,pS];by_cases h:p%18446744073709551616>=9223372036854775808
 ·rw[decide_eq_true h,if_pos J];omega
 ·rw[decide_eq_false h,if_neg (by decide)];omega
structure RV where
 n:Int
 d:Int
 p:Option Addr
def RV.v(z:RV):Value:= .agg ⟨[.int .i64 z.n, .int .i64 z.d, .pointer z.p]⟩
structure Zz (z:RV) (q:Rat):Prop where
 p:z.p=none
 n:z.n=q.num
 d:z.d=(q.den:Int)-1
 b1:q.num.natAbs<4611686018427387904
 b2:q.den<4611686018427387904
structure YJ (k:Nat) (G:Gh) (z:RV) (q:Rat):Prop where
 n:z.n=0
 d:z.d=0
 ex: ∃(b:Nat) (x:IV) (y:SV),z.p=some ⟨b,0,none⟩/\G b=some [.bool x.neg, .slice x.a.a x.a.n x.a.c, .slice y.a y.n y.c]/\tX k G x q.num/\e7 k G y q.den
 no: ¬(q.num.natAbs<4611686018427387904/\q.den<4611686018427387904)
def uu(k:Nat)(G:Gh)(z:RV)(q:Rat):Prop:=q.num.natAbs<2^k/\q.den<2^k/\(Zz z q\/YJ k G z q)
def RA{neg:Bool}{u g:Nat}(h:g∣u):zv neg (u/g)=zv neg u/(g:Int):=by
 cases neg
 ·simp[zv]
 ·simp only[zv,if_true]
  rw[Int.neg_ediv_of_dvd (qV.2 h),pK]
def PK{m:Int}{e:Nat}(he:0<e):(mkRat m e).num=m/((Nat.gcd m.natAbs e:Nat):Int)/\(mkRat m e).den=e/Nat.gcd m.natAbs e:=by
 rw[Rat.num_mkRat,Rat.den_mkRat,if_neg (by omega),if_neg (by omega),iZ];exact⟨J,J⟩
def SK{x:Nat}:(((bl x:Nat):Int)<=62)↔x<4611686018427387904:=by
 have:bl x<=62↔x<2^62:=mD;omega
structure aD1 where
 x:SV
 y:SV
 ds:List Nat
 es:List Nat

def QM{G:Gh}{x y:Nat}(hx:x<18446744073709551616)(hy:y<18446744073709551616):Fn prog 250 [.int .u64 (x:Nat), .int .u64 (y:Nat)] G (fun v _=>v= .tuple #[.int .u64 ((x*y/18446744073709551616:Nat):Int), .int .u64 ((x*y%18446744073709551616:Nat):Int)]):=
 Fn.of_calls (G:=G) (NC func250 J J) (fun w=>Tryz.bits_Mul64 x y hx hy w)
def IZ(a b:Int):a*b=if(a<0)↔(b<0) then((a.natAbs*b.natAbs:Nat):Int) else-((a.natAbs*b.natAbs:Nat):Int):=by
 rcases(by omega:a<0\/0<=a) with h|h<;>rcases(by omega:b<0\/0<=b) with h2|h2
 ·rw[if_pos (by simp[h,h2]),iX,kU (pJ h),kU (pJ h2),Int.neg_mul_neg]
 ·rw[if_neg (by simp[h];omega),iX,kU (pJ h),mM h2,sS,Int.neg_neg]
 ·rw[if_neg (by simp[h2];omega),iX,mM h,kU (pJ h2),Int.mul_neg,Int.neg_neg]
 ·rw[if_pos (by constructor<;>intro<;>omega),iX,mM h,mM h2]
def Vy{p:Int}(h:p.natAbs<9223372036854775808):IntKind.i64.wrap p=p:=by rw[Fw];omega

def UZ{n:Int}{d:Nat}(h:n<0):mkRat (-(d:Int)) n.natAbs=Rat.divInt (d:Int) n:=by
 rw[<-Rat.divInt_ofNat,kU (pJ h),Rat.neg_divInt_neg]
def Kf{q:Rat}(h:q.num<0):(q⁻¹).num= -(q.den:Int)/\(q⁻¹).den=q.num.natAbs:=by
 rw[Rat.num_inv,Rat.den_inv,if_neg (by omega),fX h];omega
def JW{q:Rat}(h:0<q.num):(q⁻¹).num=(q.den:Int)/\(q⁻¹).den=q.num.natAbs:=by
 rw[Rat.num_inv,Rat.den_inv,if_neg (by omega),fK h];omega
def AV{q:Rat}(h:q.den=1):q=(q.num:Int):=by
 conv=>lhs;rw[<-qL q,h,Rat.mkRat_one]
def bE(a b:Rat):Int:=if a<b then-1 else if b<a then 1 else 0
def GF(a b:Rat):(a-b).num<0↔a<b:=by
 rw[<-Rat.not_le,Rat.le_iff_sub_nonneg,<-Rat.num_nonneg];omega
def Oy(a b:Rat):0<(a-b).num↔b<a:=by
 have h:=GF b a;have h2:(b-a).num= -(a-b).num:=by rw[<-mQ,Rat.neg_sub]
 rw[h2] at h;rw[<-h];omega
def Cu(a b:Rat):Int.sign (a-b).num=bE a b:=by
 unfold bE;split
 ·rename_i h;exact fX ((GF a b).2 h)
 ·rename_i h
  split
  ·rename_i h2;exact fK ((Oy a b).2 h2)
  ·rename_i h2
   rw[<-GF] at h;rw[<-Oy] at h2;rw[show(a-b).num=0 by omega];rfl
def Ms{a b:Rat}(h:a.den=b.den):a<b↔a.num<b.num:=by
 rw[Rat.lt_iff,h];have:(0:Int)<b.den:=by have:=b.den_pos;omega
 exact⟨fun h2=>Int.lt_of_mul_lt_mul_right h2 (pJ this),fun h2=>Int.mul_lt_mul_of_pos_right h2 this⟩
def Ad(a b:Rat):bE a b=0↔a=b:=by
 unfold bE;constructor
 ·intro h
  split at h
  ·omega
  ·rename_i h1
   split at h
   ·omega
   ·rename_i h2
    exact Rat.le_antisymm (Rat.not_lt.1 h2) (Rat.not_lt.1 h1)
 ·intro h
  subst h;rw[if_neg (Rat.not_lt.2 dR),if_neg (Rat.not_lt.2 dR)]
def Nj(a b:Rat):bE a b<0↔a<b:=by
 unfold bE;constructor
 ·intro h
  split at h
  ·assumption
  ·split at h<;>omega
 ·intro h
  rw[if_pos h];decide
def rgcd(a b:Rat):Rat:=mkRat ((Nat.gcd (a.num.natAbs*b.den) (b.num.natAbs*a.den):Nat):Int) (a.den*b.den)
def Hj(a b:Int):rgcd a b=((Nat.gcd a.natAbs b.natAbs:Nat):Int):=by
 unfold rgcd;show mkRat ((Nat.gcd (a.natAbs*1) (b.natAbs*1):Nat):Int) (1*1)=_;rw[kZ,kZ,kZ,Rat.mkRat_one]
def YQ{a b m:Nat}(ha:a<m)(hb:b<m):Nat.gcd a b<m:=by
 rcases dS a with h|h
 ·rw[h,Nat.gcd_zero_left];exact hb
 ·exact dL (rR _ h) ha
structure LV where
 a:RV
 b:RV
 c:RV
def LV.v(z:LV):Value:= .agg ⟨[.int .i64 z.a.n, .int .i64 z.a.d, .pointer z.a.p, .int .i64 z.b.n, .int .i64 z.b.d, .pointer z.b.p, .int .i64 z.c.n, .int .i64 z.c.d, .pointer z.c.p]⟩
structure ab where
 a:Int
 b:Int
 c:Int
structure DO (k:Nat) (G:Gh) (z:LV) (l:ab):Prop where
 a:uu k G z.a (l.a:Rat)
 b:uu k G z.b (l.b:Rat)
 c:uu k G z.c (l.c:Rat)
def ab.ok(l:ab):Prop:= ¬(l.a=0/\l.b=0)/\Nat.gcd (Nat.gcd l.a.natAbs l.b.natAbs) l.c.natAbs=1
def okI(neg:Bool)(ds:List Nat):Prop:=dC ds/\(neg=true->ds≠[])
structure PV where
 x:RV
 y:RV
def PV.v(z:PV):Value:= .agg ⟨[.int .i64 z.x.n, .int .i64 z.x.d, .pointer z.x.p, .int .i64 z.y.n, .int .i64 z.y.d, .pointer z.y.p]⟩
structure aa where
 x:Rat
 y:Rat
structure IsP (k:Nat) (G:Gh) (z:PV) (p:aa):Prop where
 x:uu k G z.x p.x
 y:uu k G z.y p.y
def HU(a:Int): -(a:Rat)=((-a:Int):Rat):=rfl
def ab.rev(l:ab):ab:=⟨-l.a, -l.b, -l.c⟩
def ab.nor(l:ab):aa:=⟨l.a,l.b⟩
def ab.dir(l:ab):aa:=⟨l.b, -(l.a:Rat)⟩
def aa.dot(p q:aa):Rat:=p.x*q.x+p.y*q.y
def aa.cross(p q:aa):Rat:=p.x*q.y-p.y*q.x
def aa.scale(p:aa)(c:Rat):aa:=⟨p.x*c,p.y*c⟩
def aa.add(p q:aa):aa:=⟨p.x+q.x,p.y+q.y⟩
def ab.value(l:ab)(p:aa):Rat:=l.nor.dot p+(l.c:Rat)
def ab.base(l:ab):aa:=l.nor.scale (-(l.c:Rat)/l.nor.dot l.nor)
def ab.at(l:ab)(t:Rat):aa:=l.base.add (l.dir.scale t)
end Go.Sx
end
