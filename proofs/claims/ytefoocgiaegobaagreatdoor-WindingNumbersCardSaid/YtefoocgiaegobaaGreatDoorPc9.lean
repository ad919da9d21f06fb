import Derived.Test.YtefoocgiaegobaaGreatDoorPc8
set_option linter.all false
set_option maxHeartbeats 2000000
set_option maxRecDepth 100000
section
namespace Go.Sx
open Go Go.Proofs Tryz
def BW{P:Program}{t:TypeId}(a b k:Nat)(ha:a<2^k)(h:a+b*2^k<18446744073709551616)(w:World):(binOp .or t (.int .u64 ((b*2^k:Nat):Int)) (.int .u64 (a:Int))).run P w= .ok (.int .u64 ((a+b*2^k:Nat):Int)) w:=by
 have h1:(BitVec.ofInt 64 ((b*2^k:Nat):Int) ||| BitVec.ofInt 64 (a:Int)).toNat=a+b*2^k:=by
  rw[BitVec.toNat_or,BitVec.ofInt_natCast,BitVec.ofInt_natCast,BitVec.toNat_ofNat,BitVec.toNat_ofNat,dR (by omega),dR (by omega)];rw[<-jN,<-kV ha,jN];omega
 have h2:IntKind.u64.wrap ((a+b*2^k:Nat):Int)=((a+b*2^k:Nat):Int):=by rw[kj];omega
 simp only[binOp];show(Op.intBits .or .u64 ((b*2^k:Nat):Int) (a:Int)).run P w=_;unfold Op.intBits;show(pure (Value.int .u64 (IntKind.u64.wrap ((BitVec.ofInt 64 ((b*2^k:Nat):Int) ||| BitVec.ofInt 64 (a:Int)).toNat:Int))):Sem Value).run P w=_;rw[h1,h2,run_pure]
def P0{P:Program}{t:TypeId}(a b k:Nat)(ha:a<2^k)(h:a+b*2^k<4294967296)(w:World):(binOp .or t (.int .u32 (a:Int)) (.int .u32 ((b*2^k:Nat):Int))).run P w= .ok (.int .u32 ((a+b*2^k:Nat):Int)) w:=by
 have h1:(BitVec.ofInt 32 (a:Int) ||| BitVec.ofInt 32 ((b*2^k:Nat):Int)).toNat=a+b*2^k:=by
  rw[BitVec.toNat_or,BitVec.ofInt_natCast,BitVec.ofInt_natCast,BitVec.toNat_ofNat,BitVec.toNat_ofNat,dR (by omega),dR (by omega)];rw[<-jN,Nat.or_comm,<-kV ha,jN];omega
 have h2:IntKind.u32.wrap ((a+b*2^k:Nat):Int)=((a+b*2^k:Nat):Int):=by rw[mi];omega
 simp only[binOp];show(Op.intBits .or .u32 (a:Int) ((b*2^k:Nat):Int)).run P w=_;unfold Op.intBits;show(pure (Value.int .u32 (IntKind.u32.wrap ((BitVec.ofInt 32 (a:Int) ||| BitVec.ofInt 32 ((b*2^k:Nat):Int)).toNat:Int))):Sem Value).run P w=_;rw[h1,h2,run_pure]
def mB(d k:Nat)(hk:k<64)(h:d*2^k<18446744073709551616){q:Int}(hq:q.toNat=k):IntKind.u64.wrap ((d:Int)*2^min q.toNat IntKind.u64.bits)=((d*2^k:Nat):Int):=by
 rw[hq,fV (by show k<=64;omega),kj];have e2:(d:Int)*2^k=((d*2^k:Nat):Int):=by push_cast;rfl
 rw[e2];omega
def oD(d k:Nat)(hk:k<64){q:Int}(hq:q.toNat=k):(d:Int).fdiv (2^min q.toNat IntKind.u64.bits)=((d/2^k:Nat):Int):=by
 rw[hq,fV (by show k<=64;omega),fU _ (nN (Int.pow_pos (by decide)))];push_cast;rfl
def HT(q:Nat)(h:q<4294967296):(q:Int)%4294967296=q:=by omega
structure SU where
 ws:List Nat
 k:Nat
 r:Nat
def M8{A G:Gh}{x:SV}{a:List Nat}{d kk:Nat}(hx:bE A x a)[GL A G](hd0:0<d)(hd:d<4294967296)(hk:dv a/d<2^kk)(hb:a.length<=1125899906842):
  Fn prog 368 [x.v, .int .u32 (d:Int)] G (fun v G'=> ∃z:SV,v= .tuple #[z.v, .int .u32 ((dv a%d:Nat):Int)]/\ee kk G' z (dv a/d)):=by
 have hlen:=hx.len;refine Fn.intro func368 J J ntmps368 J ?_;intro C _ _;refine sR<|sa J J<|sa J J<|zE<|sR<|sm J J<|cg J J<|?_;refine sc (pB J J (by omega) (by omega) (by omega) (by rfl) J ?_);intro b1;rw[pG,show(x.n:Int).toNat=a.length by omega];refine sa J J<|zE<|sR<|sa J J<|zE<|bu<|sR<|sm J J<|cg J J<|sy (gt J J) J<|?_;refine sa J J<|zE<|dE<|?_;refine je (X:=SU) (fun q=>[(8, .int .i64 (q.k-1)),(7, .int .u64 q.r),(0, .slice x.a x.n x.c),(6, .slice (some ⟨b1,0,none⟩) a.length a.length),(1, .int .u32 d)])
  (fun q=>[⟨b1,q.ws.map dI,366,true⟩])
  (fun q _=>q.k<=a.length/\q.ws.length=a.length/\aO q.ws/\q.r<d/\dv (a.drop q.k)=d*dv (q.ws.drop q.k)+q.r) (fun q=>q.k) ⟨List.replicate a.length 0,a.length,0⟩
  ⟨aS _,by simp, .replicate _,hd0,by simp[dv]⟩ (.cons (by rw[hlen];rfl) (.cons J (.cons J (.cons J (.cons J .nil))))) J ?_
 rintro ⟨ws,k,r⟩ Gy _ ⟨hka,hwl,hwo,hr,hinv⟩;simp only[] at hka hwl hwo hr hinv⊢;refine bu<|sR<|sm J J<|sy (vi J J) J<|zE<|?_;refine ji J (fun hc=>?_) (fun hc=>?_) -- slot 17
 ·have hk0:k=0:=by omega
  refine gn<|du<|du<|gm<|sR<|sm J J<|?_;refine nC b1 (.hd ..) (fun G1 _ hgb=>?_);have hD:bE G1 ⟨some ⟨b1,0,none⟩,a.length,a.length⟩ ws:= .of_block hwo hgb.h hwl.symm (aS _) (by rw[aT (by simp)]);subst hk0;simp only[gV] at hinv;have hdv:dv a/d=dv ws:=by rw[hinv,Nat.mul_add_div hd0,gS hr,cN]
  have hdm:dv a%d=r:=by rw[hinv,Nat.mul_add_mod,dR hr]
  refine sc (zC J J (fG hD (by omega)) J ?_);rintro _ G2 _ rfl;refine sm J J<|sy (gG J) J<|sa J J<|sa J J<|zE<|dP<|?_;refine zD (.tmp J (.tmp J .nil)) ⟨⟨some ⟨b1,0,none⟩,(trimD ws).length,a.length⟩,?_,?_⟩
  ·rw[hdm,show(r:Int)%4294967296=r by omega];rfl
  have h3:=hD.trim.up (G:=G2);exact⟨by rw[hdv,lm hwo];exact h3,hk⟩
 have hk1:0<k:=by omega
 have hkt:((k:Int)-1).toNat=k-1:=by omega
 have hga:=hx.ok.get (k-1);have hv:a.getD (k-1) 0+r*2^32<d*4294967296:=by
  have:(r+1)*4294967296<=d*4294967296:=bX _ hr;rw[cK] at this;omega
 have hv2:a.getD (k-1) 0+r*2^32<18446744073709551616:=by omega
 refine zK<|bu<|dE<|sR<|sm J J<|sy (q8 J J (by decide)) J<|sm J J<|sm J J<|sy (fe hx J J (by omega) (by omega)) J<|?_;rw[mB r 32 (by decide) (by omega) J];refine sy (fi hx J (by omega)) J<|sy (ey J (by omega) (by rw[hkt];omega)) J<|?_;rw[hkt];refine sy (fm J J (BW (a.getD (k-1) 0) r 32 (by omega) hv2)) J<|?_;generalize hvv:a.getD (k-1) 0+r*2^32=vv at*;have hq:vv/d<4294967296:=pM hv;have hrr:=cV vv hd0;refine sa J J<|zE<|sR<|sm J J<|sm J J<|sm J J<|sm J J<|?_;refine sy (ey J) J<|sy (tq J J (by omega) (by omega) (by omega)) J<|sy (gG J) J<|sy (e6 J J (by omega) (by omega)) J<|?_;rw[hkt];have e1:(vv:Int)/(d:Int)%4294967296=((vv/d:Nat):Int):=by
  have e0:(vv:Int)/(d:Int)=((vv/d:Nat):Int):=(oQ vv d).symm;rw[e0];exact HT _ hq
 refine sc (jf (d:=vv/d) J J e1 (.hd ..) (by omega) J ?_);refine zE<|cI<|sm J J<|sm J J<|sy (ey J) J<|sy (sj J J (by omega) (by omega)) J<|sa J J<|zE<|cI<|sm J J<|?_;refine sy (gt J J) J<|sa J J<|zE<|?_;refine f7 ⟨ws.set (k-1) (vv/d),k-1,vv%d⟩ ⟨by show k-1<=_;omega,by simp[hwl],hwo.set _ hq,hrr,?_⟩ (by show k-1<k;omega) (.cons (by rw[show((k-1:Nat):Int)=(k:Int)-1 by omega];rfl) (.cons (by rw[mU];rfl) (.cons J (.cons J (.cons J .nil))))) J;show dv (a.drop (k-1))=d*dv ((ws.set (k-1) (vv/d)).drop (k-1))+vv%d;have hk2:k-1+1=k:=by omega
 rw[bS (by omega:k-1<a.length),bS (by simp;omega:k-1<(ws.set (k-1) (vv/d)).length),hk2,List.getElem_set_self,mJ (by omega)];have e3:a[k-1]'(by omega)=a.getD (k-1) 0:=by rw[aJ,aQ (by omega)];rfl
 simp only[dv,e3,hinv];have h1:=oY vv d;have h2:d*(vv/d+4294967296*dv (ws.drop k))=d*(vv/d)+4294967296*(d*dv (ws.drop k)):=by rw[cY,jU]
 rw[h2,cY];omega
section
variable {P:Program} {C:aA} {n:Nat} {fr:Fr} {own:List av} {G:Gh} {dst:Option Nat} {t t1 t2 ty':TypeId} {pos:String} {af:Array Edge} {gd:Option (Nat×Bool)} {x y:Operand}
def Nu{k:IntKind}{p q:Int}(hx:az fr x=some (.int k p))(hy:az fr y=some (.int k q)):
  Yd P C fr own G ⟨dst, .call ⟨.builtin .min, #[x,y], #[t1,t2]⟩,ty',pos,af,gd⟩ (.int k (if q<p then q else p)):=by
 intro a w hf hh;simp only[execOp,resolve,iW,cZ,iR,aP hf hx,aP hf hy];have h1:(Builtin.min_ #[t1,t2] ty' #[.int k p, .int k q]).run P w= .ok (.int k (if q<p then q else p)) w:=by
  simp[Builtin.min_,Builtin.min2,run_pure]
 exact cv h1
end
structure D8 where
 ws:List Nat
 i:Nat
def DL{A G:Gh}{x:SV}{ds:List Nat}{k kk:Nat}(hx:bE A x ds)[GL A G](hk32:k<32)(hk:dv ds*2^k<2^kk)(hb:ds.length<=1125899906842):
  Fn prog 389 [x.v, .int .u64 (k:Int)] G (fun v G'=> ∃z:SV,v=z.v/\ee kk G' z (dv ds*2^k)/\z.c<=(trimD ds).length+1):=by
 have htl:=kp ds;have hcall:=fun G1 (_:GL A G1)=>fG (G:=G1) hx (by omega);have hxt:=hx.trim;rw[<-gw ds] at hk⊢;generalize trimD ds=a at*;have hok:=hxt.ok;refine Fn.intro func389 J J ntmps389 J ?_;intro C _ _;refine sR<|sa J J<|zE<|sR<|sm J J<|?_;refine sc (zC J J (hcall _ inferInstance) J ?_);rintro _ G1 _ rfl;refine sm J J<|sy (Nu J J) J<|?_;rw[if_neg (by omega: ¬(1048576:Int)<(k:Int))];refine sa J J<|sa J J<|zE<|bu<|sR<|sm J J<|cg J J<|sy (nn J J) J<|zE<|?_;refine fB J (fun hc=>?_) (fun hc=>?_) -- slot 17
 ·refine sR<|sa J J<|zE<|dP<|?_
  have:a=[]:=bM (by omega);subst this;refine zD (.tmp J .nil) ⟨⟨none,0,0⟩,J,?_⟩;have e0:dv []*2^k=0:=by simp[dv]
  rw[e0];exact⟨⟨by unfold dg;exact .nil _,dZ (by omega)⟩,bJ _⟩
 refine zK<|sR<|sm J J<|sy (tq J J (by omega) (by omega) (by decide)) J<|sy (Fi J) J<|sm J J<|sy (sj J J (by omega) (by decide)) J<|?_;rw[show(k:Int)/32=0 by omega,show(k:Int)%32=k by omega];refine sa J J<|sa J J<|zE<|sR<|sm J J<|cg J J<|sm J J<|sy (dC J J) J<|sy (dC J J) J<|?_;refine sc (pB J J (by omega) (by omega) (by omega) (by rfl) J ?_);intro b2;rw[pG,show((a.length:Int)+0+1).toNat=a.length+1 by omega];refine sa J J<|zE<|bu<|sR<|sm J J<|cg J J<|sm J J<|zE<|dE<|?_;refine je (X:=D8) (fun q=>[(31, .int .i64 q.i),(30, .int .i64 a.length),(29, .slice x.a a.length x.c),(6, .int .u64 k),(7, .slice (some ⟨b2,0,none⟩) (a.length+1) (a.length+1)),(5, .int .i64 0)])
  (fun q=>[⟨b2,q.ws.map dI,366,true⟩])
  (fun q _=>q.i<=a.length/\q.ws.length=a.length+1/\aO q.ws/\(∀j,q.i<j->q.ws.getD j 0=0)/\q.ws.getD q.i 0<2^k/\dv q.ws=dv (a.take q.i)*2^k) (fun q=>a.length-q.i) ⟨List.replicate (a.length+1) 0,0⟩
  ⟨bJ _,by simp, .replicate _,fun j _=>zh _ _,by rw[zh];exact dZ (by omega),by simp[dv,r7]⟩ (.cons J (.cons J (.cons J (.cons J (.cons J (.cons J .nil)))))) J ?_
 rintro ⟨ws,i⟩ Gy _ ⟨hia,hwl,hwo,hz,hwi,hinv⟩;simp only[] at hia hwl hwo hz hwi hinv⊢;refine sR<|sy (ie J J) J<|zE<|bu<|?_;refine ji J (fun hc=>?_) (fun hc=>?_) -- slot 32
 ·have hin:i=a.length:=by omega
  refine gn<|du<|du<|gm<|sR<|sm J J<|?_;refine nC b2 (.hd ..) (fun G3 _ hgb=>?_);have hD:bE G3 ⟨some ⟨b2,0,none⟩,a.length+1,a.length+1⟩ ws:= .of_block hwo hgb.h hwl.symm (aS _) (by rw[aT (by simp)]);have hdv:dv a*2^k=dv ws:=by rw[hinv,hin,aT (aS _)]
  refine sc (zC J J (fG hD (by omega)) J ?_);rintro _ G4 _ rfl;refine sa J J<|zE<|dP<|?_;refine zD (.tmp J .nil) ⟨⟨some ⟨b2,0,none⟩,(trimD ws).length,a.length+1⟩,J,?_⟩;have h3:=hD.trim.up (G:=G4);rw[hdv] at hk⊢;exact⟨⟨by rw[lm hwo];exact h3,hk⟩,aS _⟩
 have hia':i<a.length:=by omega
 have hga:=hok.get i;have hp32:(2:Nat)^k<=2^31:=aM (by omega) (by omega);have hp0:0<(2:Nat)^k:=dZ (by omega);have hvb:a.getD i 0*2^k<4294967296*2^k:=jV hga hp0;have hv64:a.getD i 0*2^k<18446744073709551616:=by omega
 refine zK<|bu<|dE<|sR<|sm J J<|sy (fe (z:=⟨x.a,a.length,x.c⟩) hxt J J (by omega) (by show(i:Int)<(a.length:Nat);omega)) J<|sy (fi hxt J (by omega)) J<|sa J J<|sa J J<|zE<|bu<|?_;rw[bT];refine cI<|sm J J<|sy (ey J) J<|sm J J<|sy (q8 J J (by omega)) J<|?_;rw[mB (a.getD i 0) k (by omega) hv64 (bT k)]
 -- the low digit is a multiple of 2^k
 have hlow:a.getD i 0*2^k%4294967296=a.getD i 0%2^(32-k)*2^k:=by
  have:4294967296=2^(32-k)*2^k:=by rw[<-dJ,show 32-k+k=32 by omega]
  rw[this,pU]
 have hlt:a.getD i 0*2^k%4294967296<4294967296:=cV _ (by decide);have hsum:ws.getD i 0+a.getD i 0%2^(32-k)*2^k<4294967296:=by
  have h1:a.getD i 0%2^(32-k)<2^(32-k):=cV _ (dZ (by omega));have h2:(a.getD i 0%2^(32-k)+1)*2^k<=2^(32-k)*2^k:=bX _ h1;rw[<-dJ,show 32-k+k=32 by omega,cK] at h2;omega
 refine sa J J<|zE<|sR<|sm J J<|?_;refine sm J J<|sm J J<|sy (dC J J) J<|sy (e6 J J (by omega) (by omega)) J<|?_;rw[show((i:Int)+0).toNat=i by omega];refine sy (nF J (by omega)) J<|sm J J<|sy (gG J) J<|?_;rw[show((a.getD i 0*2^k:Nat):Int)%4294967296=((a.getD i 0%2^(32-k)*2^k:Nat):Int) by rw[<-hlow];rfl];refine sy (fm J J (P0 (ws.getD i 0) (a.getD i 0%2^(32-k)) k hwi hsum)) J<|sy (e6 J J (by omega) (by omega)) J<|?_;rw[show((i:Int)+0).toNat=i by omega];refine sc (jf (d:=ws.getD i 0+a.getD i 0%2^(32-k)*2^k) J J J (.hd ..) (by omega) J ?_);refine zE<|cI<|sm J J<|sm J J<|sm J J<|sy (dC J J) J<|sy (dC J J) J<|sm J J<|sy (jx J J (by decide)) J<|?_;rw[Kf];have hhi:a.getD i 0*2^k/4294967296<2^k:=pM hvb;refine sy (gG J) J<|sy (e6 J J (by omega) (by omega)) J<|?_;rw[show((i:Int)+0+1).toNat=i+1 by omega];refine sc (jf (d:=a.getD i 0*2^k/4294967296) J J (by omega) (.hd ..) (by simp;omega) J ?_);refine zE<|cI<|sy (dC J J) J<|sm J J<|zE<|?_;refine f7 ⟨(ws.set i (ws.getD i 0+a.getD i 0%2^(32-k)*2^k)).set (i+1) (a.getD i 0*2^k/4294967296),i+1⟩ ⟨by show i+1<=_;omega,by simp[hwl],(hwo.set _ hsum).set _ (by omega),fun j hj=>?_,?_,?_⟩ (by show a.length-(i+1)<a.length-i;omega) (.cons J (.cons J (.cons J (.cons J (.cons J (.cons J .nil)))))) J
 ·have hj':i+1<j:=hj
  show((ws.set i _).set (i+1) _).getD j 0=0;rw[vt (by omega),vt (by omega)];exact hz j (by omega)
 ·show((ws.set i _).set (i+1) (a.getD i 0*2^k/4294967296)).getD (i+1) 0<2^k
  rw[aJ,nZ (by simp;omega)];exact hhi
 ·show dv ((ws.set i (ws.getD i 0+a.getD i 0%2^(32-k)*2^k)).set (i+1) (a.getD i 0*2^k/4294967296))=dv (a.take (i+1))*2^k
  have h1:=lE (ws.set i (ws.getD i 0+a.getD i 0%2^(32-k)*2^k)) (i+1) (a.getD i 0*2^k/4294967296) (by simp;omega);rw[vt (by omega),hz (i+1) (by omega),nT,cN] at h1;have h2:=lE ws i (ws.getD i 0+a.getD i 0%2^(32-k)*2^k) (by omega);rw[cY] at h2;rw[h1,fP,cK,<-hinv,bW,Bh (4294967296^i) (a.getD i 0*2^k),<-hlow] at*;rw[eX];omega
end Go.Sx
end
section
namespace Go.Sx
def py(i:Nat):(4294967296:Nat)^(i+1)=4294967296^i*4294967296:=eX ..
def T9{U p V T S first third:Nat}(hU:U<(first*4294967296+third+1)*p)(h3:third<4294967296)(hV:(T*4294967296+S)*p<=V)(hT:0<T):
  U<(first/T+1)*V:=by
 have h1:first+1<=(first/T+1)*T:=by
  have:=Nat.lt_mul_div_succ first hT
  rw[bV];omega
 calc U<(first*4294967296+third+1)*p:=hU
  _<=((first+1)*4294967296)*p:=bX _ (by omega)
  _<=(((first/T+1)*T)*4294967296)*p:=bX _ (bX _ h1)
  _=(first/T+1)*((T*4294967296)*p):=by rw[bW (first/T+1),bW (first/T+1)]
  _<=(first/T+1)*V:=dY _ (fQ (bX _ (oZ _ _)) hV)
def Qx{U p V T S first third v0:Nat}(hU:(first*4294967296+third)*p<=U)(hV:V=(T*4294967296+S)*p+v0)(hv:v0<p)(hlt:U<V*4294967296):first<=T*4294967296+S:=by
 rcases fS (T*4294967296+S) first with h|h
 ·exfalso
  have h1:(T*4294967296+S+1)*p<=first*p:=bX p h
  rw[cK _ 1,mL] at h1;rw[cK,oL] at hU;have:0<=third*p:=bJ _;omega
 ·exact h
def TZ{U p V T S first third g r:Nat}(hU:U<(first*4294967296+third+1)*p)(hV:(T*4294967296+S)*p<=V)(hg:first=g*T+r)(hc:r*4294967296+third<g*S):U<g*V:=by
 refine cS hU (fQ (bX p (m:=g*(T*4294967296+S)) ?_) ?_)
 ·rw[cY,<-bW,hg,cK];omega
 ·rw[bW];exact dY _ hV
def CB{U p V T S first third g r v0:Nat}(hU:(first*4294967296+third)*p<=U)(hV:V=(T*4294967296+S)*p+v0)(hv:v0<p)(hT:0<T)(hg:first=g*T+r)(hgB:g<4294967296)(hc:g*S<=r*4294967296+third):g*V<U+V:=by
 have h1:g*((T*4294967296+S)*p)<=U:=by
  rw[<-bW];refine fQ (bX p ?_) hU;rw[cY,<-bW,hg,cK];omega
 have h2:g*v0<=4294967295*v0:=bX _ (by omega);have h3:4294967296*p<=V:=by
  rw[hV];refine fQ (bX p ?_) (oZ _ _);omega
 have h4:g*V=g*((T*4294967296+S)*p)+g*v0:=by rw[<-cY,<-hV]
 omega
def Nf{U V R g:Nat}(h:U<(g+1)*V)(hr:R+g*V=U):R<V:=by
 rw[cK,mL] at h;omega
def Vf{U V R R' g w M:Nat}(h2:g*V<U+V)(hr:R+g*V=U+M)(hb:R'+w*M=R+V)(hR:R<M)(hR':R'<M)(hw:w<=1)(hg:0<g):R'+(g-1)*V=U/\R'<V:=by
 have hgv:g*V=(g-1)*V+V:=by
  conv=>lhs;rw[show g=(g-1)+1 by omega,cK,mL]
 have:w=1:=by
  rcases fS w 1 with h|h
  ·have:w=0:=by omega
   subst this;omega
  ·omega
 subst this;omega
def tx(us:List Nat)(i:Nat):dv (us.drop i)=us.getD i 0+4294967296*dv (us.drop (i+1)):=by
 rcases fS i us.length with h|h
 ·rw[bS h];simp[dv,List.getD,aQ h]
 ·rw[fL h,fL (by omega)]
  simp[dv,dS h,List.getD]
def td(us:List Nat)(i:Nat):dv us=dv (us.take i)+4294967296^i*dv (us.drop i):=by
 rcases fS us.length i with h|h
 ·rw[aT (by omega),fL (by omega)];simp[dv]
 ·exact vA us i h
def wo{us:List Nat}(h:aO us)(i:Nat):dv (us.take i)<4294967296^i:=by
 refine cS (gq (h.take i)) (aM (by decide) ?_);simp[bR];omega
def wj{us:List Nat}{i:Nat}(hd:dv us<4294967296^i):dv (us.drop i)=0:=by
 have h:=td us i;rcases dQ (dv (us.drop i)) with h0|h0
 ·exact h0
 ·have:=dY (4294967296^i) h0
  omega
def SY{W W' U E p u x bo b c c1 g d:Nat}(hs:W'+p*u=W+p*x)(hw:W+E=U+(bo+c)*p)(hc:c1=c+g*d)(hx:x+(c1%4294967296+bo)=u+b*4294967296):
  W'+(E+g*d*p)=U+(b+c1/4294967296)*(p*4294967296):=by
 have h1:=congrArg (p* ·) hx;simp only[cY] at h1;have h2:p*c1=p*(c1%4294967296)+p*(c1/4294967296)*4294967296:=by
  rw[bW,<-cY,Nat.mod_add_div']
 have h3:p*c1=p*c+p*(g*d):=by rw[hc,cY]
 rw[cK,bV bo,bV c] at hw;rw[bV (g*d),cK,<-bW b,<-bW (c1/4294967296),bV b,bV (c1/4294967296)];rw[<-bW] at h1;omega
def T6{W W' U E p u x bo b c:Nat}(hs:W'+p*u=W+p*x)(hw:W+E=U+(bo+c)*p)(hx:x+(c+bo)=u+b*4294967296):W'+E=U+b*(p*4294967296):=by
 have h1:=congrArg (p* ·) hx;simp only[cY] at h1;rw[cK,bV bo,bV c] at hw;rw[<-bW b,bV b];rw[<-bW] at h1;omega
def Q9{W W' R E p u d c:Nat}(hs:W'+p*u=W+p*((c+(u+d))%4294967296))(hw:W+c*p=R+E):W'+(c+(u+d))/4294967296*(p*4294967296)=R+(E+d*p):=by
 have h2:p*(c+(u+d))=p*((c+(u+d))%4294967296)+p*((c+(u+d))/4294967296)*4294967296:=by
  rw[bW,<-cY,Nat.mod_add_div']
 rw[cY p c,cY p u] at h2;rw[bV c] at hw;rw[bV d,<-bW,bV _ p];omega
def TH{W W' R p u c:Nat}(hs:W'+p*u=W+p*((u+c)%4294967296))(hw:W+c*p=R):W'+(u+c)/4294967296*(p*4294967296)=R:=by
 have h2:p*(u+c)=p*((u+c)%4294967296)+p*((u+c)/4294967296)*4294967296:=by
  rw[bW,<-cY,Nat.mod_add_div']
 rw[cY p u] at h2;rw[bV c] at hw;rw[<-bW,bV _ p];omega
def NH{us:List Nat}(h:aO us)(i:Nat)(hd:dv us<4294967296^(i+3)):
  dv us=((us.getD (i+2) 0*4294967296+us.getD (i+1) 0)*4294967296+us.getD i 0)*4294967296^i+dv (us.take i):=by
 have h0:=wj hd;rw[td us i,tx us i,tx us (i+1),tx us (i+2),h0,kS,bV];congr 2;omega
def S8{us:List Nat}(h:aO us)(i:Nat)(hd:dv us<4294967296^(i+2)):
  dv us=(us.getD (i+1) 0*4294967296+us.getD i 0)*4294967296^i+dv (us.take i):=by
 have h0:=wj hd;rw[td us i,tx us i,tx us (i+1),h0,kS,bV];congr 2;omega
def xv{us:List Nat}{k i d:Nat}(h:aO us)(hd:d<4294967296)(hk:dv us<4294967296^k)(hi:i<k):dv (us.set i d)<4294967296^k:=by
 rw[td _ k,List.drop_set,if_pos hi,wj hk,nT,cN];exact wo (h.set i hd) k
end Go.Sx
end
section
namespace Go.Sx
open Go Go.Proofs Tryz
def PT(p k a1 a2 E:Nat)(hk:k<32)(h1:a1<4294967296)(hp:p=2^k):(a1+4294967296*(a2+4294967296*E))/p=(a1+a2*4294967296)/p%4294967296+4294967296*((a2+4294967296*E)/p):=by
 subst hp;have hp0:0<(2:Nat)^k:=dZ (by omega);have hB:4294967296=2^(32-k)*2^k:=by rw[<-dJ,show 32-k+k=32 by omega]
 -- the quotient and the rest of the quotient by the base
 have hq:(a1+4294967296*(a2+4294967296*E))/2^k/4294967296=(a2+4294967296*E)/2^k:=by
  rw[kL,bV (2^k),<-kL,kW _ _ (by decide),gS h1,dV]
 have hr:(a1+4294967296*(a2+4294967296*E))/2^k%4294967296=(a1+a2*4294967296)/2^k%4294967296:=by
  have e1:a1+4294967296*(a2+4294967296*E)=(a1+a2*4294967296)+2^k*(2^(32-k)*(4294967296*E)):=by
   rw[<-bW (2^k),bV (2^k) (2^(32-k)),<-hB];omega
  rw[e1,kW _ _ hp0];rw[show 2^(32-k)*(4294967296*E)=4294967296*(2^(32-k)*E) by rw[jU]];rw[lY]
 have h:=Nat.mod_add_div ((a1+4294967296*(a2+4294967296*E))/2^k) 4294967296;rw[hq,hr] at h;exact h.symm
def Gi(a:List Nat)(i:Nat):dv (a.drop i)=a.getD i 0+4294967296*dv (a.drop (i+1)):=by
 by_cases h:i<a.length
 ·rw[bS h,aJ,aQ h];rfl
 ·rw[fL (by omega),fL (by omega),vR (by omega)];rfl
def UV{a:List Nat}(ha:aO a)(k i:Nat)(hk:k<32):dv (a.drop i)/2^k=(a.getD i 0+a.getD (i+1) 0*4294967296)/2^k%4294967296+4294967296*(dv (a.drop (i+1))/2^k):=by
 rw[Gi a i,Gi a (i+1)];exact PT _ k _ _ _ hk (ha.get i) J
def Ns{A G:Gh}{x:SV}{ds:List Nat}{k kk:Nat}(hx:bE A x ds)[GL A G](hk32:k<32)(hk:dv ds/2^k<2^kk)(hb:ds.length<=1125899906842):
  Fn prog 390 [x.v, .int .u64 (k:Int)] G (fun v G'=> ∃z:SV,v=z.v/\ee kk G' z (dv ds/2^k)):=by
 have htl:=kp ds;have hcall:=fun G1 (_:GL A G1)=>fG (G:=G1) hx (by omega);have hxt:=hx.trim;rw[<-gw ds] at hk⊢;generalize trimD ds=a at*;have hok:=hxt.ok;refine Fn.intro func390 J J ntmps390 J ?_;intro C _ _;refine sR<|sa J J<|zE<|sR<|sm J J<|?_;refine sc (zC J J (hcall _ inferInstance) J ?_);rintro _ G1 _ rfl;refine sa J J<|zE<|bu<|sR<|sm J J<|sy (tq J J (by omega) (by omega) (by decide)) J<|sm J J<|cg J J<|sy (ey J) J<|?_;rw[show(k:Int)/32=0 by omega];refine sy (vi J J) J<|zE<|?_;refine fB J (fun hc=>?_) (fun hc=>?_) -- slot 17
 ·refine sR<|sa J J<|zE<|dP<|?_
  have:a=[]:=bM (by omega);subst this;refine zD (.tmp J .nil) ⟨⟨none,0,0⟩,J,?_⟩;have e0:dv []/2^k=0:=by simp[dv]
  rw[e0];exact⟨by unfold dg;exact .nil _,dZ (by omega)⟩
 refine zK<|sR<|sm J J<|sy (tq J J (by omega) (by omega) (by decide)) J<|sy (Fi J) J<|sm J J<|sy (sj J J (by omega) (by decide)) J<|?_;rw[show(k:Int)/32=0 by omega,show(k:Int)%32=k by omega];refine sa J J<|sa J J<|zE<|sR<|sm J J<|cg J J<|sm J J<|sy (gt J J) J<|?_;refine sc (pB J J (by omega) (by omega) (by omega) (by rfl) J ?_);intro b2;rw[pG,show((a.length:Int)-0).toNat=a.length by omega];refine sa J J<|zE<|bu<|sR<|sm J J<|cg J J<|sm J J<|zE<|dE<|?_;refine je (X:=D8) (fun q=>[(30, .int .i64 q.i),(29, .int .i64 a.length),(0, .slice x.a a.length x.c),(5, .int .i64 0),(7, .slice (some ⟨b2,0,none⟩) a.length a.length),(6, .int .u64 k)])
  (fun q=>[⟨b2,q.ws.map dI,366,true⟩])
  (fun q _=>q.i<=a.length/\q.ws.length=a.length/\aO q.ws/\dv a/2^k=dv (q.ws.take q.i)+4294967296^q.i*(dv (a.drop q.i)/2^k)) (fun q=>a.length-q.i) ⟨List.replicate a.length 0,0⟩
  ⟨bJ _,by simp, .replicate _,by simp[dv]⟩ (.cons J (.cons J (.cons J (.cons J (.cons J (.cons J .nil)))))) J ?_
 rintro ⟨ws,i⟩ Gy _ ⟨hia,hwl,hwo,hinv⟩;simp only[] at hia hwl hwo hinv⊢;refine sR<|sy (ie J J) J<|zE<|bu<|?_;refine ji J (fun hc=>?_) (fun hc=>?_) -- slot 31
 ·have hin:i=a.length:=by omega
  refine gn<|du<|du<|gm<|sR<|sm J J<|?_;refine nC b2 (.hd ..) (fun G3 _ hgb=>?_);have hD:bE G3 ⟨some ⟨b2,0,none⟩,a.length,a.length⟩ ws:= .of_block hwo hgb.h hwl.symm (aS _) (by rw[aT (by simp)]);have hdv:dv a/2^k=dv ws:=by
   rw[hinv,hin,aT (by omega),gR];simp[dv]
  refine sc (zC J J (fG hD (by omega)) J ?_);rintro _ G4 _ rfl;refine sa J J<|zE<|dP<|?_;refine zD (.tmp J .nil) ⟨⟨some ⟨b2,0,none⟩,(trimD ws).length,a.length⟩,J,?_⟩;have h3:=hD.trim.up (G:=G4);rw[hdv] at hk⊢;exact⟨by rw[lm hwo];exact h3,hk⟩
 have hia':i<a.length:=by omega
 have hga:=hok.get i;have hga2:=hok.get (i+1);refine zK<|bu<|dE<|sR<|sm J J<|sa J J<|zE<|sR<|sm J J<|sm J J<|sm J J<|sy (dC J J) J<|?_;refine sy (fe (z:=⟨x.a,a.length,x.c⟩) hxt J J (by omega) (by show((i:Int)+0)<(a.length:Nat);omega)) J<|?_;rw[show((i:Int)+0).toNat=i by omega];refine sy (fi hxt J (by omega)) J<|sy (ey J) J<|sa J J<|zE<|?_;refine uL Unit (fun _=>[(30, .int .i64 i),(8, .int .i64 i),(29, .int .i64 a.length),(0, .slice x.a a.length x.c),(5, .int .i64 0),(7, .slice (some ⟨b2,0,none⟩) a.length a.length),(6, .int .u64 k),(9, .int .u64 ((a.getD i 0+a.getD (i+1) 0*2^32:Nat):Int))]) (fun _=>[⟨b2,ws.map dI,366,true⟩]) (fun _ _=>True) ?_ ?_
 ·refine sR<|sm J J<|sm J J<|sy (dC J J) J<|sy (dC J J) J<|sm J J<|cg J J<|sy (ie J J) J<|?_
  refine zE<|?_;refine fB J (fun hc2=>?_) (fun hc2=>?_) -- slot 46
  ·refine cI<|sm J J<|sm J J<|sm J J<|sm J J<|sy (dC J J) J<|sy (dC J J) J<|sy (fe (z:=⟨x.a,a.length,x.c⟩) hxt J J (by omega) (by show((i:Int)+0+1)<(a.length:Nat);omega)) J<|?_
   rw[show((i:Int)+0+1).toNat=i+1 by omega];refine sy (fi hxt J (by omega)) J<|sy (ey J) J<|sy (q8 J J (by decide)) J<|?_;rw[mB (a.getD (i+1) 0) 32 (by decide) (by omega) J];refine sy (fm J J (Jm (a.getD i 0) (a.getD (i+1) 0) 32 (by omega) (by omega))) J<|sa J J<|zE<|?_;exact l6 () trivial (.cons J (.cons J (.cons J (.cons J (.cons J (.cons J (.cons J (.cons J .nil)))))))) J
  refine zK<|?_;have h0:a.getD (i+1) 0=0:=vR (by omega);exact l6 () trivial (.cons J (.cons J (.cons J (.cons J (.cons J (.cons J (.cons J (.cons (by rw[h0,kX,cN];rfl) .nil)))))))) J
 rintro _ Gz _ _;refine cI<|sm J J<|sm J J<|sm J J<|sm J J<|sy (jx J J (by omega)) J<|?_;rw[oD _ k (by omega) (bT k)];refine sy (gG J) J<|sy (e6 J J (by omega) (by omega)) J<|?_;rw[bT];refine sc (jf (d:=(a.getD i 0+a.getD (i+1) 0*2^32)/2^k%4294967296) J J (by rw[mU];rfl) (.hd ..) (by omega) J ?_);refine zE<|cI<|sy (dC J J) J<|sm J J<|zE<|?_;refine f7 ⟨ws.set i ((a.getD i 0+a.getD (i+1) 0*2^32)/2^k%4294967296),i+1⟩ ⟨by show i+1<=_;omega,by simp[hwl],hwo.set _ (cV _ (by decide)),?_⟩ (by show a.length-(i+1)<a.length-i;omega) (.cons J (.cons J (.cons J (.cons J (.cons J (.cons J .nil)))))) J;show dv a/2^k=dv ((ws.set i ((a.getD i 0+a.getD (i+1) 0*2^32)/2^k%4294967296)).take (i+1))+4294967296^(i+1)*(dv (a.drop (i+1))/2^k);rw[hinv,lC (by omega),UV hok k i hk32,py i,cY,bW,jW]
def Lk{V n:Nat}(h1:4294967296^(n-1)<=V)(h2:V<4294967296^n)(hn:0<n):(dg V).length=n:=by
 obtain⟨e,hk,hr⟩:=dB V;have hne:dg V≠[]:=fun h=>by
  rw[h] at e;have:0<4294967296^(n-1):=dZ (by decide);simp[dv] at e;omega
 have h3:=ng hr hne;have h4:=gq hk;rw[e] at h3 h4;have h5:=(mQ (a:=4294967296) (by decide)).1 (eJ h3 h2);have h6:=(mQ (a:=4294967296) (by decide)).1 (eJ h1 h4);omega
def Um{t s:Nat}(h0:0<t)(ht:t<4294967296)(hs:s=32-bl t):s<32/\2147483648<=t*2^s/\(t+1)*2^s<=4294967296:=by
 have h1:bl t<=32:=kv.2 ht;have h2:bl t≠0:=fun h=>by
  have:=xu t;rw[h] at this;omega
 have h3:=xu t;have h4: ¬t<2^(bl t-1):=fun h=>by
  have:=kv.2 h;omega
 have e1:2^(bl t-1)*2^s=2147483648:=by rw[<-dJ,show bl t-1+s=31 by omega]
 have e2:2^bl t*2^s=4294967296:=by rw[<-dJ,show bl t+s=32 by omega]
 refine⟨by omega,?_,?_⟩
 ·rw[<-e1];exact bX _ (by omega)
 ·rw[<-e2];exact bX _ h3
def Nj{us:List Nat}(h:aO us)(i:Nat)(hd:us.length=i+1):dv us=us.getD i 0*4294967296^i+dv (us.take i):=by
 have h0:dv (us.drop (i+1))=0:=by rw[fL (by omega)];rfl
 rw[td us i,tx us i,h0,kS,bV];rfl
def E9{b:List Nat}(h:c8 b)(i:Nat)(hi:b.length=i+1):0<b.getD i 0:=by
 rcases dQ (b.getD i 0) with h0|h0
 ·exfalso
  apply h;rw[lW,hi,show i+1-1=i from J];rw[List.getD,aQ (by omega)] at h0;rw[aQ (by omega)];simpa using h0
 ·exact h0
def Ql(a:List Nat)(k:Nat):dv (a++List.replicate k 0)=dv a:=by rw[s9,r7];simp
structure Pa where
 us:List Nat
 qs:List Nat
 j:Nat
structure U2 where
 g:Nat
 r:Nat
structure FO where
 ws:List Nat
 k:Nat
 bo:Nat
 c:Nat
def Vl{P:Program}{t:TypeId}(c:Nat)(h:c<18446744073709551616)(w:World):(binOp .and t (.int .u64 (c:Int)) (.int .u64 4294967295)).run P w= .ok (.int .u64 ((c%4294967296:Nat):Int)) w:=by
 have h1:(BitVec.ofInt 64 (c:Int) &&& BitVec.ofInt 64 4294967295).toNat=c%4294967296:=by
  rw[BitVec.toNat_and,BitVec.ofInt_natCast,BitVec.toNat_ofNat,dR (by omega),show(BitVec.ofInt 64 4294967295).toNat=2^32-1 from J,Nat.and_two_pow_sub_one_eq_mod]
 have h2:IntKind.u64.wrap ((c%4294967296:Nat):Int)=((c%4294967296:Nat):Int):=by rw[kj];omega
 simp only[binOp];show(Op.intBits .and .u64 (c:Int) 4294967295).run P w=_;unfold Op.intBits;show(pure (Value.int .u64 (IntKind.u64.wrap ((BitVec.ofInt 64 (c:Int) &&& BitVec.ofInt 64 4294967295).toNat:Int))):Sem Value).run P w=_;rw[h1,h2,run_pure]
def oI(u m bo:Nat):Nat:=if m+bo<=u then u-(m+bo) else u+18446744073709551616-(m+bo)
def sub2(u m bo:Nat)(hu:u<4294967296)(hm:m<4294967296)(hb:bo<=1):IntKind.u64.wrap (IntKind.u64.wrap ((u:Int)-(m:Int))-(bo:Int))=((oI u m bo:Nat):Int):=by
 rw[kj,kj];unfold oI;split<;>omega
def KH(u m bo:Nat)(hu:u<4294967296)(hm:m<4294967296)(hb:bo<=1):oI u m bo%4294967296+(m+bo)=u+oI u m bo/9223372036854775808*4294967296/\oI u m bo/9223372036854775808<=1/\oI u m bo<18446744073709551616:=by
 unfold oI;split<;>omega
def Va{A B G:Gh}{x y:SV}{a b:List Nat}{k1 k2:Nat}(hx:bE A x a)(hy:bE B y b)[GL A G][GL B G](hna:c8 a)(hnb:c8 b)(hb2:2<=b.length)(hle:dv b<=dv a)
  (hq:dv a/dv b<2^k1)(hr:dv a%dv b<2^k2)(hl:a.length<=112589990684):
  Fn prog 369 [x.v,y.v] G (fun v G'=> ∃z r:SV,v= .tuple #[z.v,r.v]/\ee k1 G' z (dv a/dv b)/\ee k2 G' r (dv a%dv b)):=by
 have hxl:=hx.len;have hyl:=hy.len;obtain⟨n,hn⟩: ∃n,b.length=n+2:=⟨b.length-2,by omega⟩;have hbp:0<dv b:=fT fun h=>by
  rw[N2 hnb] at h;rw[h] at hn;simp at hn
 have hnm:b.length<=a.length:=by
  rcases fS a.length b.length with h|h
  ·have:=og hx.ok hnb h
   omega
  ·exact h
 have htp:=E9 hnb (n+1) hn;have htl:=hy.ok.get (n+1);have hbv:=Nj hy.ok (n+1) hn;have hbt:=wo hy.ok (n+1);obtain⟨s,hs⟩: ∃s,s=32-bl (b.getD (n+1) 0):=⟨_,rfl⟩;obtain⟨hs32,hs1,hs2⟩:=Um htp htl hs;have hble:bl (b.getD (n+1) 0)<=32:=kv.2 htl;have hpn:0<4294967296^(n+1):=dZ (by decide);have hps:0<2^s:=dZ (by decide);have hV1:2147483648*4294967296^(n+1)<=dv b*2^s:=by
  refine fQ (bX _ hs1) ?_;rw[bW,bV (2^s),<-bW];exact bX _ (by omega)
 have hV2:dv b*2^s<4294967296^(n+2):=by
  refine cS (jV (k:=2^s) (m:=(b.getD (n+1) 0+1)*4294967296^(n+1)) (by rw[cK,mL];omega) hps) ?_;rw[bW,bV (4294967296^(n+1)),<-bW,py (n+1),bV _ 4294967296];exact bX _ hs2
 have hVl:(dg (dv b*2^s)).length=n+2:=Lk (by show 4294967296^(n+1)<=_;omega) hV2 (by omega);have hal:=gq hx.ok;have hU2:dv a*2^s<4294967296^(a.length+1):=by
  rw[py];exact lZ hal (cS (Nat.pow_lt_pow_right (by decide) hs32) (by decide))
 have hUl1:(dg (dv a*2^s)).length<=a.length+1:=by
  have h1:=D7 (dB (dv a*2^s)).2.2 (k:=32*(a.length+1)) (by rw[(dB _).1,nY];exact hU2);omega
 have hUl0:a.length<=(dg (dv a*2^s)).length:=by
  have hane:a≠[]:=fun h=>by
   have:=congrArg List.length h;simp only[iS] at this;omega
  have h1:=ng hna hane;have h2:=gq (dB (dv a*2^s)).2.1;rw[(dB _).1] at h2;have h3:dv a<=dv a*2^s:=Nat.le_mul_of_pos_right _ hps;have h4:=(mQ (a:=4294967296) (by decide)).1 (eJ (fQ h1 h3) h2);omega
 have hU3:dv a*2^s<dv b*2^s*4294967296^(a.length-n-1):=by
  have h1:4294967296^(n+1)*4294967296^(a.length-n-1)=4294967296^a.length:=by rw[<-dJ,show n+1+(a.length-n-1)=a.length by omega]
  refine cS (jV hal hps) (fQ (dY _ (aM (by decide) (show s<=31 by omega))) ?_);rw[<-h1,bV,<-bW];exact bX _ hV1
 have hta:=Ed hna;have htb:=Ed hnb;refine Fn.intro func369 J J ntmps369 J ?_;intro C _ _;refine sR<|sa J J<|sa J J<|zE<|RM<|sR<|sm J J<|sm J J<|cg J J<|sy (gt J J) J<|?_;refine sy (fe hy J J (by omega) (by omega)) J<|?_;rw[show((y.n:Int)-1).toNat=n+1 by omega];refine sy (fi hy J (by omega)) J<|?_;refine sc (zC J J (Dg htl) J ?_);rintro _ G1 _ rfl;refine sy (ey J) J<|?_;rw[show(32-(bl (b.getD (n+1) 0):Int))=(s:Int) by omega];refine sa J J<|zE<|sR<|sm J J<|sm J J<|?_;refine sc (zC J J (DL (kk:=32*(a.length+1)) hx hs32 (by rw[nY];exact hU2) (by omega)) J ?_);rintro _ G2 _ ⟨u,rfl,hu,huc⟩;have hul:=hu.len;rw[hta] at huc;refine sc (BE (by rfl) (by rfl) (by rfl) (by rfl) J ?_);intro b3;refine sc (BV (z:= .int .u32 0) (m:=2) J J (FF hu.d) (GD inferInstance J) (by omega) (by decide) (by omega) J ?_);intro b4 cap h1;have ecs:(dg (dv a*2^s)).map dI++[Value.int .u32 0, .int .u32 0]++dw (.int .u32 0) (cap-(u.n+2))=(dg (dv a*2^s)++List.replicate (cap-u.n) 0).map dI:=by
  rw[pG,show cap-u.n=(cap-(u.n+2))+1+1 by omega,fM,fM];simp[dI]
 rw[ecs];clear ecs;have hus:dv (dg (dv a*2^s)++List.replicate (cap-u.n) 0)=dv a*2^s:=by rw[Ql,(dB _).1]
 have huo:aO (dg (dv a*2^s)++List.replicate (cap-u.n) 0):=(dB _).2.1.append (.replicate _);have hulen:(dg (dv a*2^s)++List.replicate (cap-u.n) 0).length=cap:=by simp;omega
 generalize dg (dv a*2^s)++List.replicate (cap-u.n) 0=us0 at hus huo hulen⊢;refine sm J J<|cg J J<|sy (dC J J) J<|sy (vr J J (by omega) (by omega)) J<|sa J J<|zE<|sR<|sm J J<|?_;refine sm J J<|?_;refine sc (zC J J (DL (kk:=32*(n+2)) hy hs32 (by rw[nY];exact hV2) (by omega)) J ?_);rintro _ G4 _ ⟨v,rfl,hv,_⟩;have hvl:=hv.len;obtain⟨hvv,hvo,hvn⟩:=dB (dv b*2^s);replace hv:=hv.d;rw[hVl] at hvl;generalize hvs:dg (dv b*2^s)=vs at*;refine sa J J<|zE<|sR<|sm J J<|cg J J<|sa J J<|zE<|bu<|dr (fun _=>false) [(0,true),(1,true),(2,true),(3,true),(4,true),(5,true),(6,true),(7,true),(8,true),(9,true),(10,true),(11,true),(12,true),(13,true)] follows (by kernel_rfl)<|?_;refine dM J J J<|dM J J J<|dy J (fun _=>gt J J (by omega) (by omega)) J J<|dy J (fun _=>fe hv J J (by omega) (by omega)) J J<|?_;rw[show((v.n:Int)-1).toNat=n+1 by omega];have hvt:=hvo.get (n+1);have hv2:=hvo.get n;refine dy J (fun _=>fi hv J (by omega)) J J<|dy J (fun _=>ey J (by omega) (by omega)) J J<|dM J J J<|dM J J J<|?_;refine dy J (fun _=>gt J J (by omega) (by omega)) J J<|dy J (fun _=>fe hv J J (by omega) (by omega)) J J<|?_;rw[show((v.n:Int)-2).toNat=n by omega];refine dy J (fun _=>fi hv J (by omega)) J J<|?_;refine dy J (fun _=>ey J (by omega) (by omega)) J J<|dA J J J<|dA J J J<|dn<|sR<|sm J J<|?_;refine cg J J<|sm J J<|sy (gt J J) J<|?_;obtain⟨l,hlq⟩: ∃l,a.length=n+1+l:=⟨a.length-n-1,by omega⟩;rw[show a.length-n-1=l by omega] at hU3;rw[show(((x.n:Int)+1).toNat:Int)-v.n=(l:Nat) by omega,show((x.n:Int)+1).toNat=a.length+1 by omega]
 refine sc (pB J J (by omega) (by omega) (by omega) (by rfl) J ?_);intro b5;rw[pG,bT];refine Qm [_,_] (.cons_cons _ (.cons_cons _ (.cons _ .slnil))) ?_;refine sa J J<|zE<|bu<|Q3<|bu<|sR<|sm J J<|cg J J<|sy (gt J J) J<|sa J J<|zE<|dE<|?_;refine je (X:=Pa) (fun q=>[(13, .int .i64 ((q.j:Int)-1)),(7, .slice (some ⟨b4,0,none⟩) (a.length+1) cap),(9, .int .i64 v.n),(10, .int .u64 (vs.getD (n+1) 0:Nat)),(11, .int .u64 (vs.getD n 0:Nat)),(8, .slice v.a v.n v.c),(12, .slice (some ⟨b5,0,none⟩) l l),(6, .int .u64 s)])
  (fun q=>[⟨b5,q.qs.map dI,366,true⟩,⟨b4,q.us.map dI,366,true⟩])
  (fun q _=>q.us.length=cap/\aO q.us/\q.qs.length=l/\aO q.qs/\q.j<=l/\(∀i,i<q.j->q.qs.getD i 0=0)/\dv a*2^s=dv q.us+dv vs*dv q.qs/\dv q.us<dv vs*4294967296^q.j) (fun q=>q.j) ⟨us0,List.replicate l 0,l⟩
  ⟨hulen,huo,by simp, .replicate _,aS _,fun i _=>by simp[List.getD,List.getElem?_replicate];split<;>rfl,by simp only[r7];omega,by simp only[hus,hvv];exact hU3⟩ (.cons J (.cons J (.cons J (.cons J (.cons J (.cons J (.cons J (.cons J .nil)))))))) J ?_
 rintro ⟨us,qs,j⟩ Gx _ ⟨hul2,huo2,hql,hqo,hjl,hq0,hinv,hlt⟩;simp only[] at hul2 huo2 hql hqo hjl hq0 hinv hlt⊢;refine bu<|sR<|sm J J<|sy (vi J J) J<|zE<|?_;refine ji J (fun hc=>?_) (fun hc=>?_) -- slot 68
 ·have hj0:j=0:=by omega
  subst hj0;refine gn<|du<|du<|gm<|bu<|?_;refine nC b5 (.hd ..) (fun G5 _ hgb5=>?_);refine nC b4 (.hd ..) (fun G6 _ hgb4=>?_);refine dr (fun _=>false) [(0,true),(2,true),(3,true),(4,true),(5,true),(1,false),(6,false),(7,true),(8,true)] follows (by kernel_rfl)<|?_;have hDq:bE G6 ⟨some ⟨b5,0,none⟩,l,l⟩ qs:= .of_block hqo (hgb5.up (G:=G6)) hql.symm (aS _) (by rw[aT (by simp)]);have hut:dv (us.take (n+2))=dv us:=by
   have h0:=td us (n+2);rw[wj (by rw[pK,jX,hvv] at hlt;omega)] at h0;omega
  have hDu:bE G6 ⟨some ⟨b4,0,none⟩,n+2,cap⟩ (us.take (n+2)):= .of_block (huo2.take _) hgb4.h (by simp;omega) (by omega) (by rw[kK,bR,fV (by omega)]);have hV0:0<dv vs:=by rw[hvv];exact gX hbp hps
  rw[pK,jX] at hlt;have hdq:dv a/dv b=dv qs:=by
   rw[<-Nat.mul_div_mul_right _ _ hps,hinv,<-hvv,kW _ _ hV0,gS hlt,dV]
  have hdr:dv a%dv b=dv (us.take (n+2))/2^s:=by
   have:dv us=dv a%dv b*2^s:=by
    rw[<-pU,hinv,<-hvv,lY,dR hlt]
   rw[hut,this,Nat.mul_div_cancel _ hps]
  refine dM J J J<|dM J J J<|dM J J J<|dy J (fun _=>vr J J (by omega) (by omega)) J J<|?_;rw[show(v.n:Int).toNat=n+2 by omega];refine dM J J J<|?_;refine dc J J (zC J J (fG hDq (by omega)) J ?_);rintro _ G7 _ rfl;refine FB<|?_;refine dc J J (zC J J (Ns (kk:=k2) hDu hs32 (by rw[<-hdr];exact hr) (by simp;omega)) J ?_);rintro _ G8 _ ⟨r,rfl,hr8⟩;refine FB<|dA J J J<|dA J J J<|dn<|dP<|?_;refine zD (.tmp J (.tmp J .nil)) ⟨⟨some ⟨b5,0,none⟩,(trimD qs).length,l⟩,r,J,?_,?_⟩
  ·rw[hdq]
   refine⟨?_,by rw[<-hdq];exact hq⟩;rw[lm hqo];exact hDq.trim.up
  ·rw[hdr];exact hr8
 obtain⟨i,rfl⟩: ∃i,j=i+1:=⟨j-1,by omega⟩;rw[show(((i+1:Nat):Int)-1)=i by omega];have hpi:0<4294967296^i:=dZ (by decide)
 -- the digits that the guess looks at
 obtain⟨p,hp⟩: ∃p,p=4294967296^(i+n):=⟨_,rfl⟩;obtain⟨V,hV⟩: ∃V,V=dv vs*4294967296^i:=⟨_,rfl⟩;have hvB:dv vs<4294967296^(n+2):=by rw[hvv];exact hV2
 have hvh:=S8 hvo n hvB;have hltV:dv us<V*4294967296:=by rw[hV,bW,<-py];exact hlt
 have hV0:0<V:=by rw[hV];exact gX (by rw[hvv];exact gX hbp hps) hpi
 have hT0:0<vs.getD (n+1) 0:=E9 hvn (n+1) hVl;have hVp:V=(vs.getD (n+1) 0*4294967296+vs.getD n 0)*p+dv (vs.take n)*4294967296^i:=by
  rw[hV,hvh,cK,hp,dJ,bV (4294967296^i),bW]
 have hv0:dv (vs.take n)*4294967296^i<p:=by
  rw[hp,dJ,bV];exact Nat.mul_lt_mul_of_pos_left (wo hvo n) hpi
 have hM:dv us<4294967296^(i+n+3):=by
  refine cS hlt ?_;rw[show i+n+3=(n+2)+(i+1) by omega,dJ 4294967296 (n+2) (i+1)];exact bX _ (mM hvB)
 have huh:=NH huo2 (i+n) hM;rw[<-hp] at huh;have hu0:=wo huo2 (i+n);rw[<-hp] at hu0;have hg0:=huo2.get (i+n);have hg1:=huo2.get (i+n+1);have hg2:=huo2.get (i+n+2);refine zK<|bu<|dE<|bu<|dr (fun _=>false) [(0,true),(1,true),(2,true),(3,true),(4,true),(5,true),(6,true),(7,true),(8,true),(9,true),(10,true),(11,true),(12,true),(13,true),(14,true),(15,true),(16,true),(17,true)] follows (by kernel_rfl)<|?_;refine dM J J J<|dM J J J<|dM J J J<|dy J (fun _=>dC J J (by omega) (by omega)) J J<|?_;refine dy J (fun _=>e6 J J (by omega) (by omega)) J J<|?_;rw[show((i:Int)+(v.n:Int)).toNat=i+n+2 by omega];refine dy J (fun _=>nF J (by omega)) J J<|dy J (fun _=>ey J (by omega) (by omega)) J J<|dy J (fun _=>q8 J J (by decide)) J J<|?_;rw[mB (us.getD (i+n+2) 0) 32 (by decide) (by omega) J];refine dM J J J<|dM J J J<|dM J J J<|dy J (fun _=>dC J J (by omega) (by omega)) J J<|?_;refine dy J (fun _=>gt J J (by omega) (by omega)) J J<|dy J (fun _=>e6 J J (by omega) (by omega)) J J<|?_;rw[show((i:Int)+(v.n:Int)-1).toNat=i+n+1 by omega];refine dy J (fun _=>nF J (by omega)) J J<|?_;refine dy J (fun _=>ey J (by omega) (by omega)) J J<|dy J (fun _=>fm J J (BW (us.getD (i+n+1) 0) (us.getD (i+n+2) 0) 32 (by omega) (by omega))) J J<|dA J J J<|dn<|bu<|?_;obtain⟨f,hf⟩: ∃f,f=us.getD (i+n+2) 0*4294967296+us.getD (i+n+1) 0:=⟨_,rfl⟩;rw[show us.getD (i+n+1) 0+us.getD (i+n+2) 0*2^32=f by omega];rw[<-hf] at huh;have hfB:f<18446744073709551616:=by omega
 refine dr (fun _=>false) [(0,true),(1,true),(2,true),(3,true),(4,true),(5,true),(6,true),(7,true)] follows (by kernel_rfl)<|?_;refine dM J J J<|dM J J J<|dy J (fun _=>tq J J (by omega) (by omega) (by omega)) J J<|dM J J J<|dM J J J<|?_;refine dy J (fun _=>sj J J (by omega) (by omega)) J J<|dA J J J<|dA J J J<|dn<|?_;rw[show((f:Int)/((vs.getD (n+1) 0:Nat):Int))=((f/vs.getD (n+1) 0:Nat):Int) by rfl,show((f:Int)%((vs.getD (n+1) 0:Nat):Int))=((f%vs.getD (n+1) 0:Nat):Int) by rfl]
 -- GUESS
 have hUle:(f*4294967296+us.getD (i+n) 0)*p<=dv us:=by omega
 have hUlt:dv us<(f*4294967296+us.getD (i+n) 0+1)*p:=by rw[cK _ 1,mL];omega
 have hVle:(vs.getD (n+1) 0*4294967296+vs.getD n 0)*p<=V:=by rw[hVp];exact oZ _ _
 have hfT:f<=vs.getD (n+1) 0*4294967296+vs.getD n 0:=Qx hUle hVp hv0 hltV;refine uL Nat (fun g=>[(15, .int .u64 (g:Nat)),(13, .int .i64 i),(7, .slice (some ⟨b4,0,none⟩) (a.length+1) cap),(9, .int .i64 v.n),(10, .int .u64 (vs.getD (n+1) 0:Nat)),(11, .int .u64 (vs.getD n 0:Nat)),(8, .slice v.a v.n v.c),(12, .slice (some ⟨b5,0,none⟩) l l),(6, .int .u64 s)]) (fun _=>[⟨b5,qs.map dI,366,true⟩,⟨b4,us.map dI,366,true⟩]) (fun g _=>g<4294967296/\dv us<(g+1)*V/\g*V<dv us+V) ?_ ?_
 ·refine dE<|?_
  refine je (X:=U2) (fun q=>[(15, .int .u64 q.g),(16, .int .u64 q.r),(13, .int .i64 i),(7, .slice (some ⟨b4,0,none⟩) (a.length+1) cap),(9, .int .i64 v.n),(10, .int .u64 (vs.getD (n+1) 0:Nat)),(11, .int .u64 (vs.getD n 0:Nat)),(8, .slice v.a v.n v.c),(12, .slice (some ⟨b5,0,none⟩) l l),(6, .int .u64 s)]) (fun _=>[⟨b5,qs.map dI,366,true⟩,⟨b4,us.map dI,366,true⟩]) (fun q _=>f=q.g*vs.getD (n+1) 0+q.r/\q.r<4294967296/\dv us<(q.g+1)*V) (fun q=>q.g) ⟨f/vs.getD (n+1) 0,f%vs.getD (n+1) 0⟩
   ⟨(Nat.div_add_mod' ..).symm,nM (cV _ hT0) hvt,T9 hUlt hg0 hVle hT0⟩ (.cons J (.cons J (.cons J (.cons J (.cons J (.cons J (.cons J (.cons J (.cons J (.cons J .nil)))))))))) J ?_
  rintro ⟨g,r⟩ Gy _ ⟨hfg,hrB,hlo⟩;simp only[] at hfg hrB hlo⊢;have hgT:g*1<=g*vs.getD (n+1) 0:=dY _ hT0;refine bu<|sR<|sm J J<|sy (jx J J (by decide)) J<|?_;rw[oD g 32 (by decide) J];refine sy (rL J J) J<|sm J J<|?_;refine wi 97 J (fun hg=>?_) (fun hg=>?_)
  ·have hgB:4294967296<=g:=by omega
   have hdec:dv us<g*V:=cS hltV (by rw[bV];exact bX _ hgB);refine ss J J J J<|ss J J J J<|ss J J J J<|ss J J J J<|ss J J J J<|ss J J J J<|ss J J J J<|ss J J J J<|ss J J J J<|?_;refine ss J J J J<|ss J J J J<|ss J J J J<|ss J J J J<|ss J J J J<|ss J J J J<|sy (tI J J) J<|zE<|Hm J<|?_;refine zK<|dE<|?_;obtain⟨g',rfl⟩: ∃g',g=g'+1:=⟨g-1,by rcases dQ g with h|h;(rw[h,kX] at hdec;omega);omega⟩;refine sR<|sm J J<|sy (Gv J J (by omega) (by omega)) J<|sa J J<|zE<|sR<|sm J J<|sm J J<|sy (nB J J) J<|?_;refine sa J J<|zE<|sR<|sm J J<|sy (jx J J (by decide)) J<|?_;rw[show((g'+1:Nat):Int)-1=(g':Nat) by omega,show((r:Int)+((vs.getD (n+1) 0:Nat):Int))=((r+vs.getD (n+1) 0:Nat):Int) from J,oD (r+vs.getD (n+1) 0) 32 (by decide) J];have hfg':f=g'*vs.getD (n+1) 0+(r+vs.getD (n+1) 0):=by rw[hfg,cK,mL];omega
   refine sy (rL J J) J<|zE<|?_;refine fB J (fun hc3=>?_) (fun hc3=>?_) -- slot 121
   ·have hr3:4294967296<=r+vs.getD (n+1) 0:=by omega
    have hgB:g'<4294967296:=by
     rcases fS g' 4294967296 with h|h
     ·exact h
     ·have:=bX (vs.getD (n+1) 0) h
      omega
    have hgS:g'*vs.getD n 0<=(r+vs.getD (n+1) 0)*4294967296+us.getD (i+n) 0:=by
     have h1:=mY (mM hgB) (mM hv2);omega
    refine gn<|J3 J<|du<|gm<|?_;exact l6 g' ⟨hgB,hdec,CB hUle hVp hv0 hT0 hfg' hgB hgS⟩ (.cons J (.cons J (.cons J (.cons J (.cons J (.cons J (.cons J (.cons J (.cons J .nil))))))))) J
   refine zK<|?_;exact f7 ⟨g',r+vs.getD (n+1) 0⟩ ⟨hfg',by show r+vs.getD (n+1) 0<_;omega,hdec⟩ (by show g'<g'+1;omega) (.cons J (.cons J (.cons J (.cons J (.cons J (.cons J (.cons J (.cons J (.cons J (.cons J .nil)))))))))) J
  have hgB:g<4294967296:=by omega
  have hgS:g*vs.getD n 0<4294967296*4294967296:=lZ hgB hv2;have e2:(g:Int)*((vs.getD n 0:Nat):Int)=((g*vs.getD n 0:Nat):Int):=J;refine d8 J J (jF J) J<|d8 J J (jF J) J<|d8 J J (Ai J J (by rw[e2];omega) (by rw[e2];omega)) J<|d8 J J (jF J) J<|d8 J J (q8 J J (by decide)) J<|?_;rw[mB r 32 (by decide) (by omega) J];refine d8 J J (jF J) J<|d8 J J (jF J) J<|d8 J J (jF J) J<|d8 J J (dC J J) J<|d8 J J (gt J J) J<|?_;refine d8 J J (e6 J J (by omega) (by omega)) J<|?_;rw[show((i:Int)+(v.n:Int)-2).toNat=i+n by omega];refine d8 J J (nF J (by omega)) J<|d8 J J (ey J) J<|d8 J J (fm J J (BW (us.getD (i+n) 0) r 32 (by omega) (by omega))) J<|?_;refine d8 J J (rA J J) J<|sy (ux J J) J<|zE<|?_;rw[e2];refine ji J (fun hc2=>?_) (fun hc2=>?_) -- slot 113
  ·refine gn<|du<|du<|gm<|?_
   exact l6 g ⟨hgB,hlo,CB hUle hVp hv0 hT0 hfg hgB (by omega)⟩ (.cons J (.cons J (.cons J (.cons J (.cons J (.cons J (.cons J (.cons J (.cons J .nil))))))))) J
  have hdec:dv us<g*V:=TZ hUlt hVle hfg (by omega);refine zK<|dE<|?_;obtain⟨g',rfl⟩: ∃g',g=g'+1:=⟨g-1,by rcases dQ g with h|h;(rw[h,kX] at hdec;omega);omega⟩;refine sR<|sm J J<|sy (Gv J J (by omega) (by omega)) J<|sa J J<|zE<|sR<|sm J J<|sm J J<|sy (nB J J) J<|?_;refine sa J J<|zE<|sR<|sm J J<|sy (jx J J (by decide)) J<|?_;rw[show((g'+1:Nat):Int)-1=(g':Nat) by omega,show((r:Int)+((vs.getD (n+1) 0:Nat):Int))=((r+vs.getD (n+1) 0:Nat):Int) from J,oD (r+vs.getD (n+1) 0) 32 (by decide) J];have hfg':f=g'*vs.getD (n+1) 0+(r+vs.getD (n+1) 0):=by rw[hfg,cK,mL];omega
  refine sy (rL J J) J<|zE<|?_;refine fB J (fun hc3=>?_) (fun hc3=>?_) -- slot 121
  ·have hr3:4294967296<=r+vs.getD (n+1) 0:=by omega
   have hgB:g'<4294967296:=by
    rcases fS g' 4294967296 with h|h
    ·exact h
    ·have:=bX (vs.getD (n+1) 0) h
     omega
   have hgS:g'*vs.getD n 0<=(r+vs.getD (n+1) 0)*4294967296+us.getD (i+n) 0:=by
    have h1:=mY (mM hgB) (mM hv2);omega
   refine gn<|J3 J<|du<|gm<|?_;exact l6 g' ⟨hgB,hdec,CB hUle hVp hv0 hT0 hfg' hgB hgS⟩ (.cons J (.cons J (.cons J (.cons J (.cons J (.cons J (.cons J (.cons J (.cons J .nil))))))))) J
  refine zK<|?_;exact f7 ⟨g',r+vs.getD (n+1) 0⟩ ⟨hfg',by show r+vs.getD (n+1) 0<_;omega,hdec⟩ (by show g'<g'+1;omega) (.cons J (.cons J (.cons J (.cons J (.cons J (.cons J (.cons J (.cons J (.cons J (.cons J .nil)))))))))) J
 rintro g Gz _ ⟨hgB,hlo,hhi⟩
 -- SUB
 refine sR<|sa J J<|sa J J<|zE<|bu<|sR<|sm J J<|cg J J<|sm J J<|zE<|dE<|?_;refine je (X:=FO) (fun q=>[(18, .int .u64 q.c),(17, .int .u64 q.bo),(124, .int .i64 q.k),(123, .int .i64 v.n),(122, .slice v.a v.n v.c),(15, .int .u64 (g:Nat)),(13, .int .i64 i),(7, .slice (some ⟨b4,0,none⟩) (a.length+1) cap),(9, .int .i64 v.n),(10, .int .u64 (vs.getD (n+1) 0:Nat)),(11, .int .u64 (vs.getD n 0:Nat)),(8, .slice v.a v.n v.c),(12, .slice (some ⟨b5,0,none⟩) l l),(6, .int .u64 s)]) (fun q=>[⟨b5,qs.map dI,366,true⟩,⟨b4,q.ws.map dI,366,true⟩])
  (fun q _=>q.ws.length=cap/\aO q.ws/\q.k<=n+2/\q.bo<=1/\q.c<4294967296/\dv q.ws<4294967296^(i+n+3)/\dv q.ws+g*(dv (vs.take q.k)*4294967296^i)=dv us+(q.bo+q.c)*4294967296^(i+q.k)) (fun q=>n+2-q.k) ⟨us,0,0,0⟩
  ⟨hul2,huo2,bJ _,bJ _,by show(0:Nat)<4294967296;decide,hM,by simp[dv]⟩ (.cons J (.cons J (.cons J (.cons J (.cons J (.cons J (.cons J (.cons J (.cons J (.cons J (.cons J (.cons J (.cons J (.cons J .nil)))))))))))))) J ?_
 rintro ⟨ws,k,bo,c⟩ Gy _ ⟨hwl,hwo,hk,hbo,hc4,hwM,hw⟩;simp only[] at hwl hwo hk hbo hc4 hwM hw⊢;refine sR<|sy (ie J J) J<|zE<|bu<|?_;refine ji J (fun hkc=>?_) (fun hkc=>?_) -- slot 125
 ·have hkn:k=n+2:=by omega
  subst hkn;rw[aT (by omega),<-hV] at hw;refine gn<|du<|du<|gm<|sR<|sm J J<|sm J J<|sm J J<|sy (dC J J) J<|sy (e6 J J (by omega) (by omega)) J<|?_;rw[show((i:Int)+(v.n:Int)).toNat=i+n+2 by omega];have hwg:=hwo.get (i+n+2);refine sy (nF J (by omega)) J<|sy (ey J) J<|sm J J<|sy (rF J J) J<|sm J J<|sy (rF J J) J<|?_;rw[sub2 _ _ _ hwg hc4 hbo];obtain⟨hx1,hx2,hx3⟩:=KH (ws.getD (i+n+2) 0) c bo hwg hc4 hbo;generalize oI (ws.getD (i+n+2) 0) c bo=xx at hx1 hx2 hx3⊢;refine sa J J<|zE<|sR<|sm J J<|sm J J<|sm J J<|sy (dC J J) J<|sm J J<|sy (gG J) J<|sy (e6 J J (by omega) (by omega)) J<|?_;rw[show((i:Int)+(v.n:Int)).toNat=i+n+2 by omega];refine sc (jf (d:=xx%4294967296) J J (by rw[mU];rfl) (.tl _ _ _ _ _ _ _ _ (.hd ..)) (by omega) J ?_);have hs2:=lE ws (i+n+2) (xx%4294967296) (by omega);have hl2:=T6 hs2 hw hx1;rw[<-py] at hl2;have hM2:=xv (i:=i+n+2) (d:=xx%4294967296) hwo (cV _ (by decide)) hwM (by omega);have ho2:=hwo.set (i+n+2) (d:=xx%4294967296) (cV _ (by decide));have hn2:(ws.set (i+n+2) (xx%4294967296)).length=cap:=by rw[aW];exact hwl
  generalize ws.set (i+n+2) (xx%4294967296)=ws2 at hl2 hM2 ho2 hn2⊢;replace hl2:dv ws2+g*V=dv us+xx/9223372036854775808*4294967296^(i+n+3):=hl2;have hqset: ∀d,dv (qs.set i d)=dv qs+4294967296^i*d:=fun d=>by
   have:=lE qs i d (by omega);rw[hq0 i (by omega)] at this;simpa using this
  have hqz: ∀d i',i'<i->(qs.set i d).getD i' 0=0:=fun d i' h=>by
   have:=hq0 i' (by omega);simpa[List.getD,nK,show¬i=i' by omega] using this
  have hinv2: ∀d R,R+d*V=dv us->dv a*2^s=R+dv vs*dv (qs.set i d):=fun d R h=>by
   rw[hinv,<-h,hqset,cY,<-bW,<-hV,bV d];omega
  refine zE<|sR<|sm J J<|sm J J<|sm J J<|sy (gG J) J<|sy (e6 J J (by omega) (by omega)) J<|?_;rw[bT];refine sc (jf (d:=g) J J (HT g hgB) (.hd ..) (by omega) J ?_);refine zE<|bu<|sR<|sm J J<|sy (jx J J (by decide)) J<|?_;rw[oD xx 63 (by decide) J];refine sy (nn J J) J<|zE<|?_;refine fB J (fun ht=>?_) (fun ht=>?_) -- slot 184
  ·have ht0:xx/2^63=0:=by omega
   rw[show xx/9223372036854775808=xx/2^63 from J,ht0,kX,cN] at hl2;refine gn<|du<|gm<|cI<|sm J J<|sy (gt J J) J<|sa J J<|zE<|?_;exact f7 ⟨ws2,qs.set i g,i⟩ ⟨hn2,ho2,by simpa using hql,hqo.set _ hgB,by show i<=l;omega,hqz g,hinv2 g _ hl2,by show dv ws2<_;rw[<-hV];exact Nf hlo hl2⟩ (by show i<i+1;omega) (.cons J (.cons J (.cons J (.cons J (.cons J (.cons J (.cons J (.cons J .nil)))))))) J
  have ht1:xx/9223372036854775808=1:=by
   have:xx/9223372036854775808≠0:=fun h=>ht (by rw[show xx/2^63=xx/9223372036854775808 from J,h];rfl);omega
  rw[ht1,mL] at hl2;obtain⟨g',rfl⟩: ∃g',g=g'+1:=⟨g-1,by rcases dQ g with h|h;(rw[h,kX] at hl2;omega);omega⟩;refine zK<|sR<|sm J J<|sm J J<|sy (e6 J J (by omega) (by omega)) J<|?_;rw[bT];refine sy (nF J (by simp;omega)) J<|?_;rw[show(qs.set i (g'+1)).getD i 0=g'+1 by simp[List.getD,nK,show i<qs.length by omega]];refine sy (rF J J) J<|sy (e6 J J (by omega) (by omega)) J<|?_;rw[bT];refine sc (jf (d:=g') J J (by rw[mi];omega) (.hd ..) (by simp;omega) J ?_);rw[List.set_set];refine zE<|sR<|sa J J<|zE<|bu<|sR<|sm J J<|cg J J<|sm J J<|zE<|dE<|?_;refine je (X:=FO) (fun q=>[(18, .int .u64 q.c),(193, .int .i64 q.k),(192, .int .i64 v.n),(191, .slice v.a v.n v.c),(13, .int .i64 i),(7, .slice (some ⟨b4,0,none⟩) (a.length+1) cap),(9, .int .i64 v.n),(10, .int .u64 (vs.getD (n+1) 0:Nat)),(11, .int .u64 (vs.getD n 0:Nat)),(8, .slice v.a v.n v.c),(12, .slice (some ⟨b5,0,none⟩) l l),(6, .int .u64 s)]) (fun q=>[⟨b5,(qs.set i g').map dI,366,true⟩,⟨b4,q.ws.map dI,366,true⟩])
   (fun q _=>q.ws.length=cap/\aO q.ws/\q.k<=n+2/\q.c<=1/\dv q.ws<4294967296^(i+n+3)/\dv q.ws+q.c*4294967296^(i+q.k)=dv ws2+dv (vs.take q.k)*4294967296^i) (fun q=>n+2-q.k) ⟨ws2,0,0,0⟩
   ⟨hn2,ho2,bJ _,bJ _,hM2,by simp[dv]⟩ (.cons J (.cons J (.cons J (.cons J (.cons J (.cons J (.cons J (.cons J (.cons J (.cons J (.cons J (.cons J .nil)))))))))))) J ?_
  rintro ⟨wa,k,_,ca⟩ Gz _ ⟨hal2,hao,hak,hac,haM,ha⟩;simp only[] at hal2 hao hak hac haM ha⊢;refine sR<|sy (ie J J) J<|zE<|bu<|?_;refine ji J (fun hkd=>?_) (fun hkd=>?_) -- slot 194
  ·have hkn:k=n+2:=by omega
   subst hkn;rw[aT (by omega),<-hV] at ha;have hag:=hao.get (i+n+2);refine gn<|du<|du<|gm<|cI<|sm J J<|sm J J<|sm J J<|sy (dC J J) J<|sy (e6 J J (by omega) (by omega)) J<|?_;rw[show((i:Int)+(v.n:Int)).toNat=i+n+2 by omega];refine sy (nF J (by omega)) J<|sm J J<|sy (gG J) J<|sy (Pj J J) J<|sy (e6 J J (by omega) (by omega)) J<|?_;rw[show((i:Int)+(v.n:Int)).toNat=i+n+2 by omega];refine sc (jf (d:=(wa.getD (i+n+2) 0+ca)%4294967296) J J (by rw[mi];omega) (.tl _ _ _ _ _ _ _ _ (.hd ..)) (by omega) J ?_);have hs4:=lE wa (i+n+2) ((wa.getD (i+n+2) 0+ca)%4294967296) (by omega);have hl4:=TH hs4 ha;rw[<-py] at hl4;have hM4:=xv (i:=i+n+2) (d:=(wa.getD (i+n+2) 0+ca)%4294967296) hao (cV _ (by decide)) haM (by omega);obtain⟨hR1,hR2⟩:=Vf hhi hl2 hl4 hM2 hM4 (by omega) (Nat.succ_pos _);refine zE<|cI<|sm J J<|sy (gt J J) J<|sa J J<|zE<|?_;exact f7 ⟨wa.set (i+n+2) ((wa.getD (i+n+2) 0+ca)%4294967296),qs.set i g',i⟩ ⟨by simpa using hal2,hao.set _ (cV _ (by decide)),by simpa using hql,hqo.set _ (by omega),by show i<=l;omega,hqz g',hinv2 g' _ hR1,by show dv _<_;rw[<-hV];exact hR2⟩ (by show i<i+1;omega) (.cons J (.cons J (.cons J (.cons J (.cons J (.cons J (.cons J (.cons J .nil)))))))) J
  have hvk:=hvo.get k;have hag:=hao.get (i+k);refine zK<|bu<|dE<|sR<|sm J J<|sy (fe hv J J (by omega) (by omega)) J<|?_;rw[bT];refine sy (fi hv J (by omega)) J<|sa J J<|sa J J<|zE<|bu<|?_;refine cI<|sm J J<|sm J J<|sm J J<|sm J J<|sy (dC J J) J<|sy (e6 J J (by omega) (by omega)) J<|?_;rw[show((i:Int)+(k:Int)).toNat=i+k by omega];refine sy (nF J (by omega)) J<|sy (ey J) J<|sm J J<|sy (ey J) J<|sy (nB J J) J<|sy (nB J J) J<|?_;rw[show(ca:Int)+(((wa.getD (i+k) 0:Nat):Int)+((vs.getD k 0:Nat):Int))=((ca+(wa.getD (i+k) 0+vs.getD k 0):Nat):Int) from J];refine sa J J<|zE<|sR<|sm J J<|sm J J<|sm J J<|sy (dC J J) J<|sm J J<|sy (gG J) J<|sy (e6 J J (by omega) (by omega)) J<|?_;rw[show((i:Int)+(k:Int)).toNat=i+k by omega];refine sc (jf (d:=(ca+(wa.getD (i+k) 0+vs.getD k 0))%4294967296) J J (by rw[mU];rfl) (.tl _ _ _ _ _ _ _ _ (.hd ..)) (by omega) J ?_);refine zE<|cI<|sm J J<|sy (jx J J (by decide)) J<|?_;rw[oD (ca+(wa.getD (i+k) 0+vs.getD k 0)) 32 (by decide) J];refine sa J J<|zE<|cI<|sy (dC J J) J<|sm J J<|zE<|?_;refine f7 ⟨wa.set (i+k) ((ca+(wa.getD (i+k) 0+vs.getD k 0))%4294967296),k+1,0,(ca+(wa.getD (i+k) 0+vs.getD k 0))/2^32⟩ ⟨by simpa using hal2,hao.set _ (cV _ (by decide)),by show k+1<=_;omega,by show(ca+(wa.getD (i+k) 0+vs.getD k 0))/4294967296<=1;omega,xv hao (cV _ (by decide)) haM (by omega),?_⟩ (by show n+2-(k+1)<n+2-k;omega) (.cons J (.cons J (.cons J (.cons J (.cons J (.cons J (.cons J (.cons J (.cons J (.cons J (.cons J (.cons J .nil)))))))))))) J;show dv (wa.set (i+k) ((ca+(wa.getD (i+k) 0+vs.getD k 0))%4294967296))+((ca+(wa.getD (i+k) 0+vs.getD k 0))/4294967296)*4294967296^(i+k+1)=dv ws2+dv (vs.take (k+1))*4294967296^i
  rw[fP,cK (dv (vs.take k)),py,show 4294967296^k*vs.getD k 0*4294967296^i=vs.getD k 0*4294967296^(i+k) by rw[dJ,bV (4294967296^k),bW,bV (4294967296^k)]];exact Q9 (lE wa (i+k) _ (by omega)) ha
 have hvk:=hvo.get k;have hwg:=hwo.get (i+k);refine zK<|bu<|dE<|sR<|sm J J<|sy (fe hv J J (by omega) (by omega)) J<|?_;rw[bT];refine sy (fi hv J (by omega)) J<|sa J J<|sa J J<|zE<|bu<|?_;have hgd:g*vs.getD k 0<=4294967295*4294967295:=mY (by omega) (by omega);have e3:(g:Int)*((vs.getD k 0:Nat):Int)=((g*vs.getD k 0:Nat):Int):=J;refine cI<|sm J J<|sm J J<|sm J J<|sy (ey J) J<|sy (Ai J J (by rw[e3];omega) (by rw[e3];omega)) J<|?_;rw[e3];refine sy (nB J J) J<|?_;rw[show(c:Int)+((g*vs.getD k 0:Nat):Int)=((c+g*vs.getD k 0:Nat):Int) from J];obtain⟨c1,hc1⟩: ∃c1,c1=c+g*vs.getD k 0:=⟨_,rfl⟩;rw[<-hc1];have hc1m:c1%4294967296<4294967296:=cV _ (by decide);refine sa J J<|zE<|sR<|sm J J<|sm J J<|sm J J<|sy (dC J J) J<|sy (e6 J J (by omega) (by omega)) J<|?_;rw[show((i:Int)+(k:Int)).toNat=i+k by omega];refine sy (nF J (by omega)) J<|sy (ey J) J<|sm J J<|sy (fm J J (Vl c1 (by omega))) J<|sy (rF J J) J<|sm J J<|sy (rF J J) J<|?_;rw[sub2 _ _ _ hwg hc1m hbo];obtain⟨hx1,hx2,hx3⟩:=KH (ws.getD (i+k) 0) (c1%4294967296) bo hwg hc1m hbo;generalize oI (ws.getD (i+k) 0) (c1%4294967296) bo=xx at hx1 hx2 hx3⊢;refine sa J J<|?_;refine zE<|sR<|sm J J<|sm J J<|sm J J<|sy (dC J J) J<|sm J J<|sy (gG J) J<|sy (e6 J J (by omega) (by omega)) J<|?_;rw[show((i:Int)+(k:Int)).toNat=i+k by omega];refine sc (jf (d:=xx%4294967296) J J (by rw[mU];rfl) (.tl _ _ _ _ _ _ _ _ (.hd ..)) (by omega) J ?_);refine zE<|sR<|sm J J<|sy (jx J J (by decide)) J<|?_;rw[oD xx 63 (by decide) J];refine sa J J<|zE<|cI<|sm J J<|sy (jx J J (by decide)) J<|?_
 rw[oD c1 32 (by decide) J];refine sa J J<|?_;refine zE<|cI<|sy (dC J J) J<|sm J J<|zE<|?_;refine f7 ⟨ws.set (i+k) (xx%4294967296),k+1,xx/2^63,c1/2^32⟩ ⟨by simpa using hwl,hwo.set _ (cV _ (by decide)),by show k+1<=_;omega,hx2,by show c1/4294967296<_;omega,xv hwo (cV _ (by decide)) hwM (by omega),?_⟩ (by show n+2-(k+1)<n+2-k;omega) (.cons J (.cons J (.cons J (.cons J (.cons J (.cons J (.cons J (.cons J (.cons J (.cons J (.cons J (.cons J (.cons J (.cons J .nil)))))))))))))) J;show dv (ws.set (i+k) (xx%4294967296))+g*(dv (vs.take (k+1))*4294967296^i)=dv us+(xx/9223372036854775808+c1/4294967296)*4294967296^(i+k+1);rw[fP,cK (dv (vs.take k)),py,show 4294967296^k*vs.getD k 0*4294967296^i=vs.getD k 0*4294967296^(i+k) by rw[dJ,bV (4294967296^k),bW,bV (4294967296^k)],cY,<-bW g (vs.getD k 0)];exact SY (lE ws (i+k) _ (by omega)) hw hc1 hx1
def Dm{A B G:Gh}{x y:SV}{a b:List Nat}{k1 k2:Nat}(hx:bE A x a)(hy:bE B y b)[GL A G][GL B G](hb0:0<dv b)
  (hq:dv a/dv b<2^k1)(hr:dv a%dv b<2^k2)(hl:a.length<=112589990684)(hl2:b.length<=112589990684):
  Fn prog 313 [x.v,y.v] G (fun v G'=> ∃z r:SV,v= .tuple #[z.v,r.v, .bool true]/\ee k1 G' z (dv a/dv b)/\ee k2 G' r (dv a%dv b)):=by
 have hla:=kp a;have hlb:=kp b;have hca:=fun G1 (_:GL A G1)=>fG (G:=G1) hx (by omega);have hcb:=fun G1 (_:GL B G1)=>fG (G:=G1) hy (by omega);have hxt:=hx.trim;have hyt:=hy.trim;have hna:=c8.trimD a;have hnb:=c8.trimD b;rw[<-gw a,<-gw b] at hq hr⊢;rw[<-gw b] at hb0;generalize trimD a=a' at*;generalize trimD b=b' at*;refine Fn.intro func313 J J ntmps313 J ?_;intro C _ _;refine sR<|sa J J<|sa J J<|sa J J<|zE<|sR<|sm J J<|?_;refine sc (zC J J (hca _ inferInstance) J ?_);rintro _ G1 _ rfl;refine sm J J<|?_;refine sc (zC J J (hcb _ inferInstance) J ?_);rintro _ G2 _ rfl;refine sa J J<|sa J J<|zE<|bu<|dE<|sR<|sm J J<|cg J J<|sy (nn J J) J<|sa J J<|zE<|?_;refine fB J (fun hc=>?_) (fun hc=>?_) -- slot 15
 ·exfalso
  have:b'=[]:=bM (by omega);rw[this] at hb0;exact absurd hb0 (by simp[dv])
 refine sR<|sm J J<|sm J J<|?_;refine sc (zC J J (Fp hxt hyt (by omega) (by omega)) J ?_);rintro _ G3 _ rfl;refine sy (ie J J) J<|sa J J<|zE<|?_;refine fB J (fun hc2=>?_) (fun hc2=>?_) -- slot 19
 ·have hlt:dv a'<dv b':=by
   unfold eu at hc2;split at hc2
   ·assumption
   ·split at hc2<;>omega
  refine sR<|sm J J<|?_;refine sc (zC J J (Ig hxt (by omega)) J ?_);rintro _ G4 _ ⟨z,rfl,hz⟩;refine sa J J<|sa J J<|sa J J<|zE<|dP<|?_;refine zD (.tmp J (.tmp J (.tmp J .nil))) ⟨⟨none,0,0⟩,z,J,?_,?_⟩
  ·rw[gS hlt]
   exact⟨by unfold dg;exact .nil _,dZ (by decide)⟩
  ·rw[dR hlt] at hr⊢
   exact⟨by rw[FR hxt.ok hna];exact hz,hr⟩
 have hle:dv b'<=dv a':=by
  unfold eu at hc2;split at hc2
  ·omega
  ·omega
 refine sR<|sm J J<|cg J J<|sy (nn J J) J<|sa J J<|zE<|?_;refine fB J (fun hc3=>?_) (fun hc3=>?_) -- slot 26
 ·have hb1:b'.length=1:=by omega
  obtain⟨d,rfl⟩:=List.length_eq_one_iff.1 hb1;have hdv:dv [d]=d:=by simp[dv]
  have hdB:=hyt.ok.head;rw[hdv] at hb0 hq hr⊢;refine sR<|sm J J<|sm J J<|sy (fe (z:=⟨y.a,1,y.c⟩) hyt J J (by omega) (by show(0:Int)<((1:Nat):Int);omega)) J<|sy (fi (i:=0) hyt J (by simp)) J<|?_;rw[show [d].getD 0 0=d from J];refine sc (zC J J (M8 (x:=⟨x.a,a'.length,x.c⟩) hxt hb0 hdB hq (by omega)) J ?_);rintro _ G5 _ ⟨z,rfl,hz⟩;have hmB:dv a'%d<4294967296:=nM (cV _ hb0) hdB;refine sm J J<|sx J J J<|sx J J J<|sa J J<|sa J J<|zE<|sR<|sm J J<|sm J J<|sy (ey J) J<|?_;refine sc (zC J J (A6 (by omega)) J ?_);rintro _ G6 _ ⟨r,rfl,hr6⟩;refine sa J J<|sa J J<|sa J J<|zE<|dP<|?_;exact zD (.tmp J (.tmp J (.tmp J .nil))) ⟨z,r,J,hz.up,hr6.mono hr⟩
 have hb2:2<=b'.length:=by omega
 refine zK<|sR<|sm J J<|sm J J<|?_;refine sc (zC J J (Va (x:=⟨x.a,a'.length,x.c⟩) (y:=⟨y.a,b'.length,y.c⟩) hxt hyt hna hnb hb2 hle hq hr (by omega)) J ?_);rintro _ G7 _ ⟨z,r,rfl,hz,hr7⟩;refine sm J J<|sx J J J<|sx J J J<|sa J J<|sa J J<|zE<|sR<|sm J J<|sm J J<|sa J J<|sa J J<|sa J J<|zE<|?_;refine dP<|?_;exact zD (.tmp J (.tmp J (.tmp J .nil))) ⟨z,r,J,hz,hr7⟩
def i8{u k:Nat}(h:u<2^k):32*(dg u).length<=k+31:=D7 (dB u).2.2 (by rw[(dB u).1];exact h)
def ee.dvl{k:Nat}{G:Gh}{x:SV}{v:Nat}(_:ee k G x v):dv (dg v)=v:=(dB v).1
structure Pt where
 a:SV
 b:SV
 u:Nat
 v:Nat
def Mx{A B G:Gh}{x y:SV}{a b:List Nat}{k k0:Nat}(hx:bE A x a)(hy:bE B y b)[GL A G][GL B G](ha:dv a<2^k0)(hb:dv b<2^k0)(hk0:k0<=1099511627776)
  (hg0:Nat.gcd (dv a) (dv b)<2^k)(hl:a.length<=112589990684)(hl2:b.length<=112589990684):
  Fn prog 312 [x.v,y.v] G (fun v G'=> ∃z:SV,v=z.v/\ee k G' z (Nat.gcd (dv a) (dv b))):=by
 refine Fn.intro func312 J J ntmps312 J ?_;intro C _ _;refine sR<|sa J J<|zE<|sR<|sm J J<|?_;refine sc (zC J J (BX hx ha (by omega)) J ?_);rintro _ G1 _ ⟨x1,rfl,hx1⟩;refine sm J J<|?_;refine sc (zC J J (BX hy hb (by omega)) J ?_);rintro _ G2 _ ⟨y1,rfl,hy1⟩;generalize dv a=ua at*;generalize dv b=ub at*;refine sa J J<|sa J J<|zE<|bu<|dE<|?_;refine je (X:=Pt) (fun q=>[(0, .slice q.a.a q.a.n q.a.c),(1, .slice q.b.a q.b.n q.b.c)]) (fun _=>[]) (fun q G=>ee k0 G q.a q.u/\ee k0 G q.b q.v/\Nat.gcd q.u q.v=Nat.gcd ua ub) (fun q=>q.v) ⟨x1,y1,ua,ub⟩
  ⟨hx1.up,hy1,J⟩ (.cons J (.cons J .nil)) J ?_
 rintro ⟨p,q,u,v⟩ Gx _ ⟨hp,hq,hgc⟩;simp only[] at hp hq hgc⊢;have hpl:=hp.len;have hql:=hq.len;have hpb:=i8 hp.lt;have hqb:=i8 hq.lt;refine bu<|sR<|sm J J<|cg J J<|sy (rA J J) J<|sm J J<|?_;refine wi 19 J (fun hg=>?_) (fun hg=>?_)
 ·refine ss J J J J<|ss J J J J<|ss J J J J<|sy (tI J J) J<|zE<|Hm J<|zK<|dE<|bu<|sR<|sm J J<|?_
  refine cg J J<|sy (nn J J) J<|zE<|?_;refine fB J (fun hc1=>?_) (fun hc1=>?_) -- slot 26
  ·refine sR<|sm J J<|sa J J<|zE<|dP<|?_
   have hv0:v=0:=by
    have:dg v=[]:=bM (by omega);have h2:=hq.dvl;rw[this] at h2;exact h2.symm
   have hue:u=Nat.gcd ua ub:=by rw[<-hgc,hv0,lJ]
   exact zD (.tmp J .nil) ⟨p,J,by rw[<-hue] at hg0⊢;exact hp.mono hg0⟩
  have hv0:0<v:=fT fun h=>by
   have h1:dg v=[]:=by rw[h];unfold dg;rfl
   rw[h1] at hql;simp only[iS] at hql;omega
  have hm:=cV u hv0;refine zK<|sR<|sm J J<|sm J J<|?_;refine sc (zC J J (Dm (k1:=k0) (k2:=k0) hp.d hq.d (by rw[hq.dvl];exact hv0) (by rw[hp.dvl];exact eJ (iL _ _) hp.lt) (by rw[hp.dvl,hq.dvl];exact nM hm hq.lt) (by omega) (by omega)) J ?_);rintro _ G3 _ ⟨z,r,rfl,hz,hr⟩;rw[hp.dvl,hq.dvl] at hr;refine sm J J<|sx J J J<|sx J J J<|sx J J J<|sa J J<|sa J J<|sa J J<|zE<|cI<|sm J J<|sm J J<|sa J J<|sa J J<|?_;refine zE<|?_;exact f7 ⟨q,r,v,u%v⟩ ⟨hq.up,hr,by show Nat.gcd v (u%v)=_;rw[<-hgc,fN u,qL v u,fN]⟩ hm (.cons J (.cons J .nil)) J
 refine d8 J J (jF J) J<|d8 J J (pH J) J<|d8 J J (rA J J) J<|sy (ux J J) J<|zE<|?_;refine ji J (fun hc=>?_) (fun hc=>?_) -- slot 23
 ·have small: ∀{w:Nat},(dg w).length<=2->w<18446744073709551616:=fun{w} h=>by
   have h1:=gq (dB w).2.1;rw[(dB w).1] at h1;exact cS h1 (fQ (aM (by decide) h) (by decide))
  have hu64:u<18446744073709551616:=small (by omega);have hv64:v<18446744073709551616:=small (by omega);refine gn<|du<|du<|gm<|sR<|sm J J<|?_;refine sc (zC J J (Bc hp.d (by omega)) J ?_);rintro _ G4 _ rfl;rw[hp.dvl,if_pos hu64];refine sm J J<|sx J J J<|sx J J J<|sa J J<|sa J J<|zE<|sR<|sm J J<|?_;refine sc (zC J J (Bc hq.d (by omega)) J ?_);rintro _ G5 _ rfl;rw[hq.dvl,if_pos hv64];refine sm J J<|sx J J J<|sx J J J<|sa J J<|sa J J<|zE<|bu<|dE<|?_;refine je (X:=Nat×Nat) (fun q=>[(8, .int .u64 (q.1:Nat)),(10, .int .u64 (q.2:Nat))]) (fun _=>[]) (fun q _=>q.1<18446744073709551616/\q.2<18446744073709551616/\Nat.gcd q.1 q.2=Nat.gcd ua ub) (fun q=>q.2) (u,v)
   ⟨hu64,hv64,hgc⟩ (.cons J (.cons J .nil)) J ?_
  rintro ⟨u1,v1⟩ Gy _ ⟨hu1,hv1,hgc1⟩;simp only[] at hu1 hv1 hgc1⊢;refine bu<|sR<|sm J J<|sy (rL J J) J<|zE<|?_;refine ji J (fun hc5=>?_) (fun hc5=>?_) -- slot 48
  ·refine gn<|du<|du<|gm<|sR<|sm J J<|?_
   refine sc (zC J J (A6 hu1) J ?_);rintro _ G6 _ ⟨z,rfl,hz⟩;refine sa J J<|zE<|dP<|?_;have hv0:v1=0:=by omega
   have hue:u1=Nat.gcd ua ub:=by rw[<-hgc1,hv0,lJ]
   exact zD (.tmp J .nil) ⟨z,J,by rw[<-hue] at hg0⊢;exact hz.mono hg0⟩
  have hv0:0<v1:=by omega
  refine zK<|dE<|dr (fun _=>false) [(0,true),(1,true),(2,true),(3,true),(4,true),(5,true)] follows (by kernel_rfl)<|dM J J J<|dM J J J<|?_;refine dM J J J<|dy J (fun _=>sj J J (by omega) (by omega)) J J<|dA J J J<|dA J J J<|dn<|?_;exact f7 (v1,u1%v1) ⟨hv1,nM (cV _ hv0) hv1,by show Nat.gcd v1 (u1%v1)=_;rw[<-hgc1,fN u1,qL v1 u1,fN]⟩ (by show u1%v1<v1;exact cV _ hv0) (.cons J (.cons J .nil)) J
 refine zK<|dE<|bu<|sR<|sm J J<|?_;refine cg J J<|sy (nn J J) J<|zE<|?_;refine fB J (fun hc1=>?_) (fun hc1=>?_) -- slot 26
 ·refine sR<|sm J J<|sa J J<|zE<|dP<|?_
  have hv0:v=0:=by
   have:dg v=[]:=bM (by omega);have h2:=hq.dvl;rw[this] at h2;exact h2.symm
  have hue:u=Nat.gcd ua ub:=by rw[<-hgc,hv0,lJ]
  exact zD (.tmp J .nil) ⟨p,J,by rw[<-hue] at hg0⊢;exact hp.mono hg0⟩
 have hv0:0<v:=fT fun h=>by
  have h1:dg v=[]:=by rw[h];unfold dg;rfl
  rw[h1] at hql;simp only[iS] at hql;omega
 have hm:=cV u hv0;refine zK<|sR<|sm J J<|sm J J<|?_;refine sc (zC J J (Dm (k1:=k0) (k2:=k0) hp.d hq.d (by rw[hq.dvl];exact hv0) (by rw[hp.dvl];exact eJ (iL _ _) hp.lt) (by rw[hp.dvl,hq.dvl];exact nM hm hq.lt) (by omega) (by omega)) J ?_);rintro _ G3 _ ⟨z,r,rfl,hz,hr⟩;rw[hp.dvl,hq.dvl] at hr;refine sm J J<|sx J J J<|sx J J J<|sx J J J<|sa J J<|sa J J<|sa J J<|zE<|cI<|sm J J<|sm J J<|sa J J<|sa J J<|?_;refine zE<|?_;exact f7 ⟨q,r,v,u%v⟩ ⟨hq.up,hr,by show Nat.gcd v (u%v)=_;rw[<-hgc,fN u,qL v u,fN]⟩ hm (.cons J (.cons J .nil)) J
structure IV where
 neg:Bool
 a:SV
def IV.v(z:IV):Value:= .agg ⟨[.bool z.neg, .slice z.a.a z.a.n z.a.c]⟩
def zv(neg:Bool)(u:Nat):Int:=if neg then-(u:Int) else u
def mj(neg:Bool)(u:Nat):(zv neg u).natAbs=u:=by cases neg<;>simp[zv]
def Q5(neg:Bool)(u:Nat):zv (!neg) u= -zv neg u:=by cases neg<;>simp[zv]
def EH(n m:Bool)(u w:Nat):zv (n !=m) (u*w)=zv n u*zv m w:=by cases n<;>cases m<;>simp[zv,Int.neg_mul,Int.mul_neg]
def KB(neg:Bool)(u:Nat):decide (zv neg u<0)=(neg&&decide (0<u)):=by
 cases neg<;>simp[zv]
def jm(m:Int):zv (decide (m<0)) m.natAbs=m:=by
 unfold zv;by_cases h:m<0<;>simp[h]<;>omega
structure rM (k:Nat) (G:Gh) (z:IV) (m:Int):Prop where
 neg:z.neg=decide (m<0)
 abs:ee k G z.a m.natAbs
def UK(n:Bool)(u w:Nat):zv n (u+w)=zv n u+zv n w:=by cases n<;>simp[zv]<;>omega
def yx(p:Int):IntKind.i64.wrap p=(p+9223372036854775808)%18446744073709551616-9223372036854775808:=by
 have e:IntKind.i64.wrap p=if(true&&decide (p%2^64>=2^(64-1)))=true then p%2^64-2^64 else p%2^64:=J
 rw[e,show(2:Int)^64=18446744073709551616 by decide,show(2:Int)^(64-1)=9223372036854775808 by decide,Bool.true_and];by_cases h:p%18446744073709551616>=9223372036854775808
 ·rw[decide_eq_true h,if_pos J];omega
 ·rw[decide_eq_false h,if_neg (by decide)];omega
structure RV where
 n:Int
 d:Int
 p:Option Addr
def RV.v(z:RV):Value:= .agg ⟨[.int .i64 z.n, .int .i64 z.d, .pointer z.p]⟩
structure Nm (z:RV) (q:Rat):Prop where
 p:z.p=none
 n:z.n=q.num
 d:z.d=(q.den:Int)-1
 b1:q.num.natAbs<4611686018427387904
 b2:q.den<4611686018427387904
structure Si (k:Nat) (G:Gh) (z:RV) (q:Rat):Prop where
 n:z.n=0
 d:z.d=0
 ex: ∃(b:Nat) (x:IV) (y:SV),z.p=some ⟨b,0,none⟩/\G b=some [.bool x.neg, .slice x.a.a x.a.n x.a.c, .slice y.a y.n y.c]/\rM k G x q.num/\ee k G y q.den
 no: ¬(q.num.natAbs<4611686018427387904/\q.den<4611686018427387904)
def rE(k:Nat)(G:Gh)(z:RV)(q:Rat):Prop:=q.num.natAbs<2^k/\q.den<2^k/\(Nm z q\/Si k G z q)
def Uc{neg:Bool}{u g:Nat}(h:g∣u):zv neg (u/g)=zv neg u/(g:Int):=by
 cases neg
 ·simp[zv]
 ·simp only[zv,if_true]
  rw[Int.neg_ediv_of_dvd (oM.2 h),oQ]
def Ec{m:Int}{e:Nat}(he:0<e):(mkRat m e).num=m/((Nat.gcd m.natAbs e:Nat):Int)/\(mkRat m e).den=e/Nat.gcd m.natAbs e:=by
 rw[Rat.num_mkRat,Rat.den_mkRat,if_neg (by omega),if_neg (by omega),fN];exact⟨J,J⟩
def Lg{x:Nat}:(((bl x:Nat):Int)<=62)↔x<4611686018427387904:=by
 have:bl x<=62↔x<2^62:=kv;omega
structure X' where
 x:SV
 y:SV
 ds:List Nat
 es:List Nat

def Qp{G:Gh}{x y:Nat}(hx:x<18446744073709551616)(hy:y<18446744073709551616):Fn prog 359 [.int .u64 (x:Nat), .int .u64 (y:Nat)] G (fun v _=>v= .tuple #[.int .u64 ((x*y/18446744073709551616:Nat):Int), .int .u64 ((x*y%18446744073709551616:Nat):Int)]):=
 Fn.of_calls (G:=G) (Ez func359 J J) (fun w=>Tryz.bits_Mul64 x y hx hy w)
def KD(a b:Int):a*b=if(a<0)↔(b<0) then((a.natAbs*b.natAbs:Nat):Int) else-((a.natAbs*b.natAbs:Nat):Int):=by
 rcases(by omega:a<0\/0<=a) with h|h<;>rcases(by omega:b<0\/0<=b) with h2|h2
 ·rw[if_pos (by simp[h,h2]),iV,jT (nN h),jT (nN h2),Int.neg_mul_neg]
 ·rw[if_neg (by simp[h];omega),iV,jT (nN h),lS h2,Int.neg_mul,Int.neg_neg]
 ·rw[if_neg (by simp[h2];omega),iV,lS h,jT (nN h2),Int.mul_neg,Int.neg_neg]
 ·rw[if_pos (by constructor<;>intro<;>omega),iV,lS h,lS h2]
def TL{p:Int}(h:p.natAbs<9223372036854775808):IntKind.i64.wrap p=p:=by rw[yx];omega

def PL{n:Int}{d:Nat}(h:n<0):mkRat (-(d:Int)) n.natAbs=Rat.divInt (d:Int) n:=by
 rw[<-Rat.divInt_ofNat,jT (nN h),Rat.neg_divInt_neg]
def KF{q:Rat}(h:q.num<0):(q⁻¹).num= -(q.den:Int)/\(q⁻¹).den=q.num.natAbs:=by
 rw[Rat.num_inv,Rat.den_inv,if_neg (by omega),cM h];omega
def JB{q:Rat}(h:0<q.num):(q⁻¹).num=(q.den:Int)/\(q⁻¹).den=q.num.natAbs:=by
 rw[Rat.num_inv,Rat.den_inv,if_neg (by omega),eK h];omega
def xI{q:Rat}(h:q.den=1):q=(q.num:Int):=by
 conv=>lhs;rw[<-qS q,h,Rat.mkRat_one]
def bt(a b:Rat):Int:=if a<b then-1 else if b<a then 1 else 0
def zb(a b:Rat):(a-b).num<0↔a<b:=by
 rw[<-Rat.not_le,Rat.le_iff_sub_nonneg,<-Rat.num_nonneg];omega
def Kz(a b:Rat):0<(a-b).num↔b<a:=by
 have h:=zb b a;have h2:(b-a).num= -(a-b).num:=by rw[<-kN,Rat.neg_sub]
 rw[h2] at h;rw[<-h];omega
def ym(a b:Rat):Int.sign (a-b).num=bt a b:=by
 unfold bt;split
 ·rename_i h;exact cM ((zb a b).2 h)
 ·rename_i h
  split
  ·rename_i h2;exact eK ((Kz a b).2 h2)
  ·rename_i h2
   rw[<-zb] at h;rw[<-Kz] at h2;rw[show(a-b).num=0 by omega];rfl
def JY{a b:Rat}(h:a.den=b.den):a<b↔a.num<b.num:=by
 rw[Rat.lt_iff,h];have:(0:Int)<b.den:=by have:=b.den_pos;omega
 exact⟨fun h2=>Int.lt_of_mul_lt_mul_right h2 (nN this),fun h2=>Int.mul_lt_mul_of_pos_right h2 this⟩
def qi(a b:Rat):bt a b=0↔a=b:=by
 unfold bt;constructor
 ·intro h
  split at h
  ·omega
  ·rename_i h1
   split at h
   ·omega
   ·rename_i h2
    exact Rat.le_antisymm (Rat.not_lt.1 h2) (Rat.not_lt.1 h1)
 ·intro h
  subst h;rw[if_neg (Rat.not_lt.2 Rat.le_refl),if_neg (Rat.not_lt.2 Rat.le_refl)]
def H9(a b:Rat):bt a b<0↔a<b:=by
 unfold bt;constructor
 ·intro h
  split at h
  ·assumption
  ·split at h<;>omega
 ·intro h
  rw[if_pos h];decide
def rgcd(a b:Rat):Rat:=mkRat ((Nat.gcd (a.num.natAbs*b.den) (b.num.natAbs*a.den):Nat):Int) (a.den*b.den)
def Cd(a b:Int):rgcd a b=((Nat.gcd a.natAbs b.natAbs:Nat):Int):=by
 unfold rgcd;show mkRat ((Nat.gcd (a.natAbs*1) (b.natAbs*1):Nat):Int) (1*1)=_;rw[jX,jX,jX,Rat.mkRat_one]
def Uo{a b m:Nat}(ha:a<m)(hb:b<m):Nat.gcd a b<m:=by
 rcases dQ a with h|h
 ·rw[h,Nat.gcd_zero_left];exact hb
 ·exact eJ (Nat.gcd_le_left _ h) ha
structure LV where
 a:RV
 b:RV
 c:RV
def LV.v(z:LV):Value:= .agg ⟨[.int .i64 z.a.n, .int .i64 z.a.d, .pointer z.a.p, .int .i64 z.b.n, .int .i64 z.b.d, .pointer z.b.p, .int .i64 z.c.n, .int .i64 z.c.d, .pointer z.c.p]⟩
structure ab where
 a:Int
 b:Int
 c:Int
structure CE (k:Nat) (G:Gh) (z:LV) (l:ab):Prop where
 a:rE k G z.a (l.a:Rat)
 b:rE k G z.b (l.b:Rat)
 c:rE k G z.c (l.c:Rat)
def ab.ok(l:ab):Prop:= ¬(l.a=0/\l.b=0)/\Nat.gcd (Nat.gcd l.a.natAbs l.b.natAbs) l.c.natAbs=1
def VT(neg:Bool)(ds:List Nat):Prop:=c8 ds/\(neg=true->ds≠[])
structure PV where
 x:RV
 y:RV
def PV.v(z:PV):Value:= .agg ⟨[.int .i64 z.x.n, .int .i64 z.x.d, .pointer z.x.p, .int .i64 z.y.n, .int .i64 z.y.d, .pointer z.y.p]⟩
structure aa where
 x:Rat
 y:Rat
structure Xw (k:Nat) (G:Gh) (z:PV) (p:aa):Prop where
 x:rE k G z.x p.x
 y:rE k G z.y p.y
def Bm(a:Int): -(a:Rat)=((-a:Int):Rat):=rfl
def ab.rev(l:ab):ab:=⟨-l.a, -l.b, -l.c⟩
def ab.nor(l:ab):aa:=⟨l.a,l.b⟩
def ab.dir(l:ab):aa:=⟨l.b, -(l.a:Rat)⟩
def aa.dot(p q:aa):Rat:=p.x*q.x+p.y*q.y
def aa.cross(p q:aa):Rat:=p.x*q.y-p.y*q.x
def aa.scale(p:aa)(c:Rat):aa:=⟨p.x*c,p.y*c⟩
def aa.add(p q:aa):aa:=⟨p.x+q.x,p.y+q.y⟩
def ab.value(l:ab)(p:aa):Rat:=l.nor.dot p+(l.c:Rat)
def ab.base(l:ab):aa:=l.nor.scale (-(l.c:Rat)/l.nor.dot l.nor)
def ab.at(l:ab)(t:Rat):aa:=l.base.add (l.dir.scale t)
end Go.Sx
end
