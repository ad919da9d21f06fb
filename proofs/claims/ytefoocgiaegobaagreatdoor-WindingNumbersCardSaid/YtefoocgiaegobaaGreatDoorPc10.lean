import Derived.Test.YtefoocgiaegobaaGreatDoorPc9
set_option linter.all false
set_option maxHeartbeats 2000000
set_option maxRecDepth 100000
section
namespace Go.Sx
open Go
def dU(d:Nat):DV:= .v (.int .u32 (d:Int))
def d7(ds:List Nat):DV:= .sl (ds.map dU)
def dN(n:Nat):DV:= .sl ((dg n).map dU)
def dD(n:Nat):DV:= .sl (if n=1 then [] else(dg n).map dU)
def eI(m:Int):DV:= .ag [.v (.bool (decide (m<0))),dN m.natAbs]
def eQ(q:Rat):DV:= .ag [.v (.bool (decide (q.num<0))),dN q.num.natAbs,dD q.den]
def eP(p:aa):DV:= .ag [.v (.bool (decide (p.x.num<0))),dN p.x.num.natAbs,dD p.x.den, .v (.bool (decide (p.y.num<0))),dN p.y.num.natAbs,dD p.y.den]
def eL(l:ab):DV:= .ag [.v (.bool (decide (l.a<0))),dN l.a.natAbs, .v (.bool (decide (l.b<0))),dN l.b.natAbs, .v (.bool (decide (l.c<0))),dN l.c.natAbs]
def eR(q:Rat):DV:= .ag [.v (.bool (decide (q.num<0))),dN q.num.natAbs,dN q.den]
def gh(p:aa):DV:= .ag [.v (.bool (decide (p.x.num<0))),dN p.x.num.natAbs,dN p.x.den, .v (.bool (decide (p.y.num<0))),dN p.y.num.natAbs,dN p.y.den]
def vI(n:Int):DV:= .v (.int .i64 n)
def vB(b:Bool):DV:= .v (.bool b)
def zy(n:Nat):dN n=d7 (dg n):=rfl
def PO{ds:List Nat}(h:aO ds):d7 (trimD ds)=dN (dv ds):=by unfold d7 dN;rw[lm h]
def Rt{ds:List Nat}{i:Nat}(h:i<ds.length):(ds.map dU)[i]? =some (dU (ds.getD i 0)):=by
 rw[fW,aQ h,aJ,aQ h];rfl
def jo{ds:List Nat}{i:Nat}(h:i<ds.length):(ds.map dU)[(i:Int).toNat]? =some (dU (ds.getD i 0)):=by rw[bT];exact Rt h
def p8(ds:List Nat)(i d:Nat):(ds.map dU).set i (.v (.int .u32 (d:Int)))=(ds.set i d).map dU:=by rw[nR];rfl
def rp(n:Nat):List.replicate n (DV.v (.int .u32 0))=(List.replicate n 0).map dU:=by rw[List.map_replicate];rfl
def pw(ds:List Nat):dq 1 (ds.map dU):=fun d hd=>by
 obtain⟨n,_,rfl⟩:=bY.1 hd;exact⟨rfl,rfl⟩
def e7(n:Nat)(i:Nat):(dg n).getD i 0<4294967296:=(dB n).2.1.get i
def tW:dg 0=[]:=by rw[dg,dif_pos J]
def wA:dg 1=[1]:=by rw[dg,dif_neg (by decide)];simp[tW]
def qn{n:Nat}:(dg n).length=0↔n=0:=by
 constructor
 ·intro h
  have:=(dB n).1;rw[bM h] at this;exact this.symm
 ·rintro rfl;rw[tW];rfl
def y6:dN 0= .sl []:=by unfold dN;rw[tW];rfl
def wH{G:Gh}: ∀{ds:List Nat} {es:List Value},IsLs G (ds.map dU) es↔es=ds.map dI
 |[],es=>cp
 |d::t,es=>by
  rw[cZ,bD];constructor
  ·rintro ⟨y,n,rfl,h1,h2⟩
   rw[bc.1 h1,wH.1 h2];rfl
  ·rintro rfl
   exact⟨_,_,J,bc.2 J,wH.2 J⟩
def Jt{G:Gh}{ds:List Nat}{v:Value}:Is G (d7 ds) v↔ ∃x:SV,v= .slice x.a x.n x.c/\d6 G 1 x (ds.map dI):=by
 unfold d7;rw[gP];constructor
 ·rintro ⟨s,x,es,rfl,h1,h2⟩
  have:=wH.1 h2;subst this;refine⟨x,J,?_⟩;rcases wC (s:=1) h1 h2 (pw ds) with h|h
  ·rw[h] at h1⊢
   exact⟨h1.len,h1.cap, .inl J⟩
  ·subst h;exact h1
 ·rintro ⟨x,rfl,h⟩
  exact⟨1,x,_,J,h,wH.2 J⟩
def P5{G:Gh}{n k:Nat}{v:Value}(hk:n<2^k):Is G (dN n) v↔ ∃x:SV,v= .slice x.a x.n x.c/\ee k G x n:=by
 rw[zy,Jt];constructor
 ·rintro ⟨x,rfl,h⟩
  exact⟨x,J,⟨(dB n).2.1,h⟩,hk⟩
 ·rintro ⟨x,rfl,h⟩
  exact⟨x,J,h.d.sl⟩
def et{ds:List Nat}{i:Int}{k:Nat}(hi:i=k)(h:k<ds.length):(ds.map dU)[i.toNat]? =some (dU (ds.getD k 0)):=by subst hi;exact jo h
class BN (n:Nat) (k:outParam Nat):Prop where h:n<2^k
class BI (m:Int) (k:outParam Nat):Prop where h:m.natAbs<2^k
class BQ (q:Rat) (k:outParam Nat):Prop where
 hn:q.num.natAbs<2^k
 hd:q.den<2^k
theorem BN.mono{n k k':Nat}(h:BN n k)(hk:k<=k'):BN n k':=⟨cS h.h (aM (by decide) hk)⟩
def k8{a b i j:Nat}(h:a<2^i)(k:b<2^j):a*b<2^(i+j):=by rw[dJ];exact lZ h k
def xE{a b i j:Nat}(h:a<2^i)(k:b<2^j):a+b<2^(i+j+1):=by
 have h1:2^i<=2^(i+j):=aM (by decide) (by omega);have h2:2^j<=2^(i+j):=aM (by decide) (by omega);rw[eX];omega
instance BN.mul (a b i j:Nat) [h:BN a i] [k:BN b j]:BN (a*b) (i+j):=⟨k8 h.h k.h⟩
instance BN.add (a b i j:Nat) [h:BN a i] [k:BN b j]:BN (a+b) (i+j+1):=⟨xE h.h k.h⟩
instance BN.sub (a b i:Nat) [h:BN a i]:BN (a-b) i:=⟨by have:=h.h;omega⟩
instance BN.div (a b i:Nat) [h:BN a i]:BN (a/b) i:=⟨eJ (iL _ _) h.h⟩
instance BN.abs (m:Int) (i:Nat) [h:BI m i]:BN m.natAbs i:=⟨h.h⟩
instance BN.den (q:Rat) (i:Nat) [h:BQ q i]:BN q.den i:=⟨h.hd⟩
def CQ{a b i j:Nat}(h:a<2^i)(k:b<2^j):Nat.gcd a b<2^(i+j):=by
 have h1:2^i<=2^(i+j):=aM (by decide) (by omega);have h2:2^j<=2^(i+j):=aM (by decide) (by omega);rcases dQ a with h0|h0
 ·subst h0;rw[Nat.gcd_zero_left];omega
 ·have:=Nat.gcd_le_left b h0;omega
instance BN.gcd (a b i j:Nat) [h:BN a i] [k:BN b j]:BN (Nat.gcd a b) (i+j):=⟨CQ h.h k.h⟩
instance BN.one:BN 1 1:=⟨by decide⟩
instance BN.zero:BN 0 0:=⟨by decide⟩
instance BI.mul (a b:Int) (i j:Nat) [h:BI a i] [k:BI b j]:BI (a*b) (i+j):=⟨by rw[gQ];exact k8 h.h k.h⟩
instance BI.add (a b:Int) (i j:Nat) [h:BI a i] [k:BI b j]:BI (a+b) (i+j+1):=⟨eJ (Int.natAbs_add_le a b) (xE h.h k.h)⟩
instance BI.sub (a b:Int) (i j:Nat) [h:BI a i] [k:BI b j]:BI (a-b) (i+j+1):=⟨eJ (Int.natAbs_sub_le a b) (xE h.h k.h)⟩
instance BI.neg (a:Int) (i:Nat) [h:BI a i]:BI (-a) i:=⟨by rw[gW];exact h.h⟩
instance BI.num (q:Rat) (i:Nat) [h:BQ q i]:BI q.num i:=⟨h.hn⟩
instance BI.nat (n:Nat) (i:Nat) [h:BN n i]:BI (n:Int) i:=⟨by rw[kQ];exact h.h⟩
def jz(q:Rat):0<q.den:=fT q.den_nz
theorem rD{m:Int}{d i:Nat}(hd:0<d)(h:m.natAbs<2^i)(k:d<2^i):BQ (mkRat m d) i:=by
 refine⟨?_,?_⟩
 ·rw[Rat.num_mkRat,if_neg (by omega)]
  have:=lU m (d.gcd m.natAbs:Nat);omega
 ·rw[Rat.den_mkRat,if_neg (by omega)]
  have:=iL d (d.gcd m.natAbs);omega
theorem BQ.mono{q:Rat}{k k':Nat}(h:BQ q k)(hk:k<=k'):BQ q k':=⟨cS h.hn (aM (by decide) hk),cS h.hd (aM (by decide) hk)⟩
def t7(p q:Rat):p*q=mkRat (p.num*q.num) (p.den*q.den):=by rw[Rat.mul_def,Rat.normalize_eq_mkRat]
def tP(p q:Rat):p+q=mkRat (p.num*q.den+q.num*p.den) (p.den*q.den):=by rw[Rat.add_def,Rat.normalize_eq_mkRat]
instance BQ.mul (p q:Rat) (i j:Nat) [h:BQ p i] [k:BQ q j]:BQ (p*q) (i+j):=by
 rw[t7];exact rD (gX (jz p) (jz q)) (BI.mul p.num q.num i j).h (k8 h.hd k.hd)
instance BQ.add (p q:Rat) (i j:Nat) [h:BQ p i] [k:BQ q j]:BQ (p+q) (i+j+1):=by
 rw[tP];refine rD (gX (jz p) (jz q)) ?_ ?_
 ·have h1:=k8 h.hn k.hd
  have h2:=k8 k.hn h.hd;have h3:(p.num*q.den+q.num*p.den).natAbs<=(p.num*q.den).natAbs+(q.num*p.den).natAbs:=Int.natAbs_add_le ..;rw[gQ,gQ,kQ,kQ] at h3;rw[kS j i] at h2;rw[eX];omega
 ·have h1:=k8 h.hd k.hd
  rw[eX];omega
instance BQ.neg (p:Rat) (i:Nat) [h:BQ p i]:BQ (-p) i:=⟨by rw[kN,gW];exact h.hn,by rw[nU];exact h.hd⟩
instance BQ.sub (p q:Rat) (i j:Nat) [h:BQ p i] [k:BQ q j]:BQ (p-q) (i+j+1):=by
 rw[Rat.sub_eq_add_neg];exact BQ.add p (-q) i j
instance BQ.ofInt (m:Int) (i:Nat) [h:BI m i]:BQ (m:Rat) (i+1):=by
 refine⟨?_,?_⟩
 ·rw[oU];have:=h.h;rw[eX];omega
 ·rw[oT];have:0<2^i:=dZ (by decide);rw[eX];omega
end Go.Sx
end
section
namespace Go.Sx
open Go Go.Proofs Tryz
variable {GB:Gh}
def xQ(p q:Int):Nat:=(BitVec.ofInt 32 p &&& BitVec.ofInt 32 q).toNat
def Ct(p q:Int):Nat:=(BitVec.ofInt 32 p ||| BitVec.ofInt 32 q).toNat
def ur(p q:Int):Nat:=(BitVec.ofInt 32 p^^^BitVec.ofInt 32 q).toNat
def Ps{ds:List Nat}{n:Nat}(h:0<n/\n<=ds.length)(hz:ds.getD (n-1) 0=0):trimD (ds.take n)=trimD (ds.take (n-1)):=by
 obtain⟨m,rfl⟩: ∃m,n=m+1:=⟨n-1,by omega⟩;rw[dL (by omega),iN];rw[iN,aJ,aQ (by omega)] at hz;simp only[gU] at hz;rw[hz,JX]
def NB{ds:List Nat}{n:Nat}(h:n<=ds.length)(hz:0<n->ds.getD (n-1) 0≠0):trimD (ds.take n)=ds.take n:=by
 rcases dQ n with h0|h0
 ·subst h0;simp[trimD]
 ·obtain⟨m,rfl⟩: ∃m,n=m+1:=⟨n-1,by omega⟩
  have hz:=hz h0;rw[dL (by omega)];rw[iN,aJ,aQ (by omega)] at hz;exact yP (by simpa using hz)
def S1{x y c:Nat}(hx:x<4294967296)(hy:y<4294967296)(hc:c<=1):PF GB prog 376 [.v (.int .u32 (x:Int)), .v (.int .u32 (y:Int)), .v (.int .u32 (c:Int))] (.tp [.v (.int .u32 (((x+y+c)%4294967296:Nat):Int)), .v (.int .u32 (((x+y+c)/4294967296:Nat):Int))]):=by
 refine fn (hv:=by simp only[ah];exact⟨⟨⟨⟨⟨by omega,by omega⟩,by omega⟩,by omega⟩,by omega⟩,(by decide)⟩) func376 J J ntmps376 J J (fun C=>?_);exact rz J (by
  have e1:((x:Int)+y+c)%4294967296=(((x+y+c)%4294967296:Nat):Int):=by omega
  have e2:((x:Int)+y+c).fdiv (2^min (32:Int).toNat IntKind.u64.bits)%4294967296=(((x+y+c)/4294967296:Nat):Int):=by
   rw[show(2:Int)^min (32:Int).toNat IntKind.u64.bits=((4294967296:Nat):Int) from J,fU _ (by decide)];omega
  show DV.tp [.v (.int _ _), .v (.int _ _)]=_;rw[e1,e2])
def Bv(n:Nat)(h:n<4294967296):(BitVec.ofInt 32 (n:Int)).msb=decide (2147483648<=n):=by
 rw[show BitVec.ofInt 32 (n:Int)=BitVec.ofNat 32 n from BitVec.ofInt_natCast ..];rw[BitVec.msb_eq_decide,BitVec.toNat_ofNat,dR (by simpa using h)]
def UP(b:BitVec 32):b.toNat/2147483648=if b.msb then 1 else 0:=by
 have:=b.isLt;rw[BitVec.msb_eq_decide];simp only[decide_eq_true_eq,Nat.reduceSub,Nat.reducePow] at*;split<;>omega
def S7(b:BitVec 32):BitVec.ofInt 32 (b.toNat:Int)=b:=by rw[BitVec.ofInt_natCast,BitVec.ofNat_toNat,BitVec.setWidth_eq]
def PD{x y c:Nat}(hx:x<4294967296)(hy:y<4294967296)(hc:c<=1):
  ((Ct (xQ (ur IntKind.u32.max x:Nat) y:Nat) (xQ (ur IntKind.u32.max (ur x y:Nat):Nat) (IntKind.u32.wrap (IntKind.u32.wrap ((x:Int)-y)-c)):Nat):Nat):Int).fdiv (2^min (31:Int).toNat IntKind.u32.bits)=(((if x<y+c then 1 else 0):Nat):Int):=by
 rw[show((2:Int)^min (31:Int).toNat IntKind.u32.bits)=((2147483648:Nat):Int) from J,fU _ (by decide),<-oQ];congr 1;have hd: ∃d:Nat,d<4294967296/\IntKind.u32.wrap (IntKind.u32.wrap ((x:Int)-y)-c)=(d:Int)/\((x>=y+c/\d=x-(y+c))\/(x<y+c/\d=x+4294967296-(y+c))):=by
  rw[mi,mi];refine⟨((((x:Int)-y)%4294967296-c)%4294967296).toNat,by omega,by omega,by omega⟩
 obtain⟨d,hd1,hd2,hd3⟩:=hd;rw[hd2];unfold Ct xQ ur;simp only[S7];rw[UP];simp only[BitVec.msb_or,BitVec.msb_and,BitVec.msb_xor,Bv x hx,Bv y hy,Bv d hd1];have h1:(BitVec.ofInt 32 IntKind.u32.max).msb=true:=by decide
 rw[h1];rcases fS x 2147483648 with a|a<;>rcases fS y 2147483648 with b|b<;>rcases fS d 2147483648 with e|e<;>
  simp[Nat.not_le.2, *]<;>(first|omega|(split<;>omega))
def Qc{x y c:Nat}(hx:x<4294967296)(hy:y<4294967296)(hc:c<=1):IntKind.u32.wrap (IntKind.u32.wrap ((x:Int)-y)-c)=(((if x<y+c then x+4294967296-(y+c) else x-(y+c)):Nat):Int):=by
 rw[mi,mi];split<;>omega
def TR{x y c:Nat}(hx:x<4294967296)(hy:y<4294967296)(hc:c<=1):PF GB prog 377 [.v (.int .u32 (x:Int)), .v (.int .u32 (y:Int)), .v (.int .u32 (c:Int))] (.tp [.v (.int .u32 (((if x<y+c then x+4294967296-(y+c) else x-(y+c)):Nat):Int)), .v (.int .u32 (((if x<y+c then 1 else 0):Nat):Int))]):=by
 refine fn (fu:=⟨10⟩) func377 J J ntmps377 J J (fun C=>?_);refine sw (fu:=⟨1⟩) _ J (mi _).symm J<|sw (fu:=⟨6⟩) _ J (mi _).symm J<|nt (fu:=⟨4⟩) _ J J J<|xr (fu:=⟨0⟩) _ J J J<|nt _ J J J<|?_;exact rz J (by have h1:=PD hx hy hc;unfold Ct xQ ur at h1;show DV.tp [.v (.int _ _), .v (.int _ _)]=_;rw[h1,Qc hx hy hc])
def nq{ds:List Nat}(hl:ds.length<=1125899906842624):PF GB prog 248 [d7 ds] (d7 (trimD ds)):=by
 refine fn func248 J J ntmps248 J J (fun C=>?_);refine lp (X:=Nat) (fun n=>[(0, .d (d7 ds)),(3, .d (vI (n:Nat)))]) (fun n=>[]) (fun n=>n<=ds.length/\trimD ds=trimD (ds.take n)) (fun n=>n) ds.length J ⟨aS _,by rw[bN]⟩ (fun _=>J) (fun n hk=>?_);obtain⟨h1,h2⟩:=hk;refine cs 8 J J J (fun hg8=>?_) (fun hg8=>?_)
 .
  refine ix _ J (et (k:=n-1) (by omega) (by omega)) J<|?_;refine br J J J (fun hc15=>?_) (fun hc15=>?_)
  .
   have hz:ds.getD (n-1) 0=0:=by omega
   exact at_ (n-1) ⟨⟨by omega,by rw[h2,Ps (by omega) hz]⟩,(by omega)⟩
  .
   refine n7 0 n _ J J J J (pw _) (by omega) (by simp;omega) J<|?_;exact rz J (by have:=NB h1 (fun _ h=>hc15 (by omega));rw[<-h2] at this;show DV.sl _=_;simp[d7,this])
 .
  refine n7 0 n _ J J J J (pw _) (by omega) (by simp;omega) J<|?_;exact rz rfl (by obtain rfl:n=0:=(by omega);show DV.sl _=_;simp[d7,h2,trimD])
def o8{a k:Nat}(h:a<2^k)(hk:k<=1000000000):(dg a).length<=100000000:=by have:=i8 h;omega
def bz(a:Nat):dv (dg a)=a:=(dB a).1
def gF(a:Nat):aO (dg a):=(dB a).2.1
def dH(ds:List Nat):(ds.map dU).length=ds.length:=aX ..
def ll{ds:List Nat}{n:Nat}(h:ds.length<=n):ds.take n=ds:=aT h
def pp{ds:List Nat}{i:Nat}(h:ds.length<=i):ds.getD i 0=0:=by
 rw[aJ,dS h];rfl
def nH{ds:List Nat}{n:Nat}(h:aO ds)(e:dv ds=n):d7 (trimD ds)=dN n:=by rw[PO h,e]
def CJ{a b:Nat}(h:a<b):eu a b= -1:=by unfold eu;rw[if_pos h]
def BK{a b:Nat}(h:b<a):eu a b=1:=by unfold eu;rw[if_neg (by omega),if_neg (by omega)]
def MX{a b:Nat}(h:a=b):eu a b=0:=by unfold eu;rw[if_neg (by omega),if_pos h]
def Px(m n:Nat):Int.sign ((m:Int)-n)=eu m n:=by
 unfold eu;split
 ·exact cM (by omega)
 ·split
  ·rw[show(m:Int)-n=0 by omega];rfl
  ·exact eK (by omega)
def Qz{a b:Nat}(h:(dg a).length≠(dg b).length):eu (dg a).length (dg b).length=eu a b:=by
 rcases Nat.lt_or_gt_of_ne h with h|h
 ·have:=og (gF a) (dB b).2.2 h
  rw[bz,bz] at this;rw[CJ h,CJ this]
 ·have:=og (gF b) (dB a).2.2 h
  rw[bz,bz] at this;rw[BK h,BK this]
def yW{a b i:Nat}(hl:(dg a).length=(dg b).length)(hi:i<(dg a).length)(hs:(dg a).drop (i+1)=(dg b).drop (i+1)):
  ((dg a).getD i 0<(dg b).getD i 0->a<b)/\((dg b).getD i 0<(dg a).getD i 0->b<a)/\((dg a).getD i 0=(dg b).getD i 0->(dg a).drop i=(dg b).drop i):=by
 refine⟨fun h=>?_,fun h=>?_,fun h=>?_⟩
 ·have:=yt (gF a) (gF b) i hi (by omega) hl hs h
  rwa [bz,bz] at this
 ·have:=yt (gF b) (gF a) i (by omega) hi hl.symm hs.symm h
  rwa [bz,bz] at this
 ·rw[bS hi,bS (by omega:i<(dg b).length),hs]
  rw[aJ,aJ,aQ hi,aQ (by omega:i<(dg b).length)] at h;simp only[gU] at h;rw[h]
def OV{z:Int}:PF GB prog 283 [vI z] (vI z.sign):=by
 refine fn func283 J J ntmps283 J J (fun C=>?_);refine br J J J (fun hc4=>?_) (fun hc4=>?_)
 .
  exact rz J (by show DV.v (.int _ 1)=DV.v (.int _ _);rw[eK (by omega)])
 .
  refine br J J J (fun hc6=>?_) (fun hc6=>?_)
  .
   exact rz J (by show DV.v (.int _ (-1))=DV.v (.int _ _);rw[cM (by omega)])
  .
   exact rz J (by show DV.v (.int _ 0)=DV.v (.int _ _);rw[show z=0 by omega];rfl)
def U6(u:Nat):dv [u%4294967296,u/4294967296]=u:=by simp only[dv];omega
def UE{u:Nat}(h:u<18446744073709551616):aO [u%4294967296,u/4294967296]:= .cons (by omega) (.cons (by omega) .nil)
def Aq(u:Nat):(u:Int).fdiv (2^min (32:Int).toNat IntKind.u64.bits)=((u/4294967296:Nat):Int):=by
 rw[show(2:Int)^min (32:Int).toNat IntKind.u64.bits=((4294967296:Nat):Int) from J,fU _ (by decide)];rfl
def oH{u:Nat}(hu:u<18446744073709551616):PF GB prog 158 [.v (.int .u64 (u:Int))] (dN u):=by
 refine fn (fu:=⟨11⟩) (hv:=by simp only[ah];exact(by decide)) func158 J J ntmps158 J J (fun C=>?_);refine aj 6 (.d (.v (.int .u64 (u/4294967296:Nat)))) J (by rw[Aq]) ?_;refine gx J<|rf (fu:=⟨0⟩) J J<|?_;refine aj 8 (.d (d7 [u%4294967296,u/4294967296])) J (by show FX.d (.sl [.v (.int _ _), .v (.int _ _)])= .d (.sl [.v (.int _ _), .v (.int _ _)]);congr 6;omega) ?_;refine gx J<|cl J (nq (ds:=[u%4294967296,u/4294967296]) (by simp)) J<|?_;exact rz J (nH (UE hu) (U6 u))
def yI:PF GB prog 188 [] (dN 1):=by
 refine fn func188 J J ntmps188 J J (fun C=>?_);refine rf J J<|?_;exact rz J (by unfold dN;rw[wA];rfl)
def uF{a b:Nat}(ha:(dg a).length<=100000000)(hb:(dg b).length<=100000000):PF GB prog 187 [dN a,dN b] (vI (eu a b)):=by
 have hla:=dH (dg a);have hlb:=dH (dg b);refine fn func187 J J ntmps187 J J (fun C=>?_);refine br J J J (fun hc10=>?_) (fun hc10=>?_)
 .
  refine cl J OV J<|?_;exact rz J (by show DV.v (.int _ _)=DV.v (.int _ _);rw[hla,hlb,Px,Qz (by omega)])
 .
  have hl:(dg a).length=(dg b).length:=by omega
  refine lp (X:=Nat) (fun k=>[(0, .d (dN a)),(1, .d (dN b)),(5, .d (vI ((k:Nat)-1)))]) (fun k=>[]) (fun k=>k<=(dg a).length/\(dg a).drop k=(dg b).drop k) (fun k=>k) (dg a).length J ⟨aS _,by rw[gR,hl,gR]⟩ (fun _=>J) (fun k hk=>?_);obtain⟨h1,h2⟩:=hk;refine br J J J (fun hc21=>?_) (fun hc21=>?_)
  .
   obtain⟨k,rfl⟩: ∃m,k=m+1:=⟨k-1,by omega⟩;refine ix _ J (et (k:=k) (by omega) (by omega)) J<|ix _ J (et (k:=k) (by omega) (by omega)) J<|?_;refine br J J J (fun hc32=>?_) (fun hc32=>?_)
   .
    exact rz J (by show DV.v (.int _ 1)=DV.v (.int _ _);rw[BK ((yW hl (by omega) h2).2.1 (by omega))])
   .
    refine ix _ J (et (k:=k) (by omega) (by omega)) J<|ix _ J (et (k:=k) (by omega) (by omega)) J<|?_;refine br J J J (fun hc41=>?_) (fun hc41=>?_)
    .
     exact rz J (by show DV.v (.int _ (-1))=DV.v (.int _ _);rw[CJ ((yW hl (by omega) h2).1 (by omega))])
    .
     exact at_ k ⟨⟨by omega,(yW (i:=k) hl (by omega) h2).2.2 (by omega)⟩,(by omega)⟩
  .
   exact rz rfl (by show DV.v (.int _ 0)=DV.v (.int _ _);rw[MX];obtain rfl:k=0:=(by omega);rw[gV,gV] at h2;rw[<-bz a,h2,bz])
def Uh{A B W:List Nat}{i c:Nat}(hi:i<W.length)(h:dv (W.take i)+4294967296^i*c=dv (A.take i)+dv (B.take i)):
  dv ((W.set i ((A.getD i 0+B.getD i 0+c)%4294967296)).take (i+1))+4294967296^(i+1)*((A.getD i 0+B.getD i 0+c)/4294967296)=dv (A.take (i+1))+dv (B.take (i+1)):=by
 rw[lC hi,fP A,fP B,eX,show A.getD i 0+B.getD i 0+c=c+A.getD i 0+B.getD i 0 by omega];exact Ik h
def Un{a b n:Nat}{W:List Nat}{c:Nat}(hn:n=max (dg a).length (dg b).length)(hl:W.length=n+1)(h:dv (W.take n)+4294967296^n*c=dv ((dg a).take n)+dv ((dg b).take n)):dv (W.set n c)=a+b:=by
 have e:=lC (ws:=W) (k:=n) (d:=c) (by omega);rw[ll (by rw[aW];omega)] at e;rw[e,h,ll (by omega),ll (by omega),bz,bz]
def Vu{a b ia ib:Nat}[ha:BN a ia][hb:BN b ib](hi:ia<=1000000000:=by decide)(hj:ib<=1000000000:=by decide):PF GB prog 336 [dN a,dN b] (dN (a+b)):=by
 have hla:=dH (dg a);have hlb:=dH (dg b);have hba:=o8 ha.h hi;have hbb:=o8 hb.h hj;refine fn (fu:=⟨12⟩) func336 J J ntmps336 J J (fun C=>?_);obtain⟨n,hn⟩: ∃n,n=max (dg a).length (dg b).length:=⟨_,rfl⟩;refine aj 15 (.d (vI (n:Nat))) J (by show FX.d (.v (.int _ _))= .d (.v (.int _ _));congr 3;split<;>omega) ?_;refine gx J<|mk ((List.replicate (n+1) 0).map dU) J J (by rw[<-rp];rfl) J<|?_;refine lp (X:=List Nat×Nat×Nat) (fun⟨W,c,i⟩=>[(0, .d (dN a)),(1, .d (dN b)),(5, .d (vI (n:Nat))),(6, .rw 18),(7, .d (.v (.int .u32 (c:Nat)))),(8, .d (vI (i:Nat)))]) (fun⟨W,c,i⟩=>[(18,some (.b 366 1 (W.map dU) true))]) (fun⟨W,c,i⟩=>W.length=n+1/\aO W/\c<=1/\i<=n/\dv (W.take i)+4294967296^i*c=dv ((dg a).take i)+dv ((dg b).take i)) (fun⟨W,c,i⟩=>n-i) ⟨List.replicate (n+1) 0,0,0⟩ J ⟨by simp, .replicate _,by omega,by omega,by simp[dv]⟩ (fun _=>J) (fun⟨W,c,i⟩ hk=>?_);dsimp only at hk⊢;obtain⟨h1,h2,h3,h4,h5⟩:=hk;have hlw:=dH W;have hda:=e7 a i;have hdb:=e7 b i;refine br (fu1:=⟨11⟩) J J J (fun hc21=>?_) (fun hc21=>?_)
 .
  refine mg (fu:=⟨1⟩) (X:=Unit) (fun _=>[(0, .d (dN a)),(1, .d (dN b)),(5, .d (vI (n:Nat))),(6, .rw 18),(7, .d (.v (.int .u32 (c:Nat)))),(8, .d (vI (i:Nat))),(9, .d (dU ((dg a).getD i 0))),(10, .d (.v (.int .u32 0)))]) (fun _=>[(18,some (.b 366 1 (W.map dU) true))]) (fun _=>True) [0,1,5,6,7,8,9,10] [18] rfl ?_ (fun _=>J) (fun _ hm=>?_)
  .
   refine gx J<|?_;refine br J J J (fun hc27=>?_) (fun hc27=>?_)
   .
    refine ix _ J (jo (by omega)) J<|?_;exact at_ () trivial
   .
    refine aj 9 (.d (dU ((dg a).getD i 0))) J (by rw[pp (by omega)];rfl) ?_;exact at_ () trivial
  .
   refine mg (X:=Unit) (fun _=>[(0, .d (dN a)),(1, .d (dN b)),(5, .d (vI (n:Nat))),(6, .rw 18),(7, .d (.v (.int .u32 (c:Nat)))),(8, .d (vI (i:Nat))),(9, .d (dU ((dg a).getD i 0))),(10, .d (dU ((dg b).getD i 0)))]) (fun _=>[(18,some (.b 366 1 (W.map dU) true))]) (fun _=>True) [0,1,5,6,7,8,9,10] [18] rfl ?_ (fun _=>J) (fun _ hm=>?_)
   .
    refine gx J<|?_;refine br J J J (fun hc35=>?_) (fun hc35=>?_)
    .
     refine ix _ J (jo (by omega)) J<|?_;exact at_ () trivial
    .
     refine aj 10 (.d (dU ((dg b).getD i 0))) J (by rw[pp (by omega)];rfl) ?_;exact at_ () trivial
   .
    refine cl J (S1 (by omega) (by omega) (by omega)) J<|sb _ ((W.set i (((dg a).getD i 0+(dg b).getD i 0+c)%4294967296)).map dU) J (jo (by omega)) J (by rw[<-p8];rfl) J<|?_;exact at_ ⟨W.set i (((dg a).getD i 0+(dg b).getD i 0+c)%4294967296),((dg a).getD i 0+(dg b).getD i 0+c)/4294967296,i+1⟩ (by dsimp only;exact⟨⟨by simpa using h1,h2.set _ (by omega),by omega,by omega,Uh (by omega) h5⟩,(by omega)⟩)
 .
  obtain rfl:i=n:=by omega
  refine sb _ ((W.set i c).map dU) J (jo (by omega)) J (by rw[<-p8];rfl) J<|fz 18 J J<|cl J (nq (ds:=W.set i c) (by simp;omega)) J<|?_;exact rz J (nH (h2.set _ (by omega)) (Un hn h1 h5))
def UD{A B W:List Nat}{i c d c2:Nat}(hA:aO A)(hB:aO B)(hi:i<W.length)(hc:c<=1)(h:dv (W.take i)+dv (B.take i)=dv (A.take i)+4294967296^i*c)
  (hd:d=if A.getD i 0<B.getD i 0+c then A.getD i 0+4294967296-(B.getD i 0+c) else A.getD i 0-(B.getD i 0+c))(hc2:c2=if A.getD i 0<B.getD i 0+c then 1 else 0):
  dv ((W.set i d).take (i+1))+dv (B.take (i+1))=dv (A.take (i+1))+4294967296^(i+1)*c2:=by
 have h1:=hA.get i;have h2:=hB.get i;rw[lC hi,fP A,fP B,eX];split at hd
 ·rename_i q
  rw[if_pos q] at hc2;subst hc2 hd;rw[kS (B.getD i 0) c];exact DR h (by omega) (by omega)
 ·rename_i q
  rw[if_neg q] at hc2;subst hc2 hd;rw[kS (B.getD i 0) c];exact J8 h (by omega)
def RA{a b c:Nat}{W:List Nat}(hw:aO W)(hl:W.length=(dg a).length)(hb:b<=a)(h:dv (W.take (dg a).length)+dv ((dg b).take (dg a).length)=dv ((dg a).take (dg a).length)+4294967296^(dg a).length*c):dv W=a-b:=by
 have hlb:(dg b).length<=(dg a).length:=by
  rcases fS (dg a).length (dg b).length with q|q
  ·have:=og (gF a) (dB b).2.2 q
   rw[bz,bz] at this;omega
  ·exact q
 rw[ll (by omega),ll hlb,ll (aS _),bz,bz] at h;have h2:=gq hw;rw[hl] at h2;rcases dQ c with q|q
 ·subst q;omega
 ·have:4294967296^(dg a).length*1<=4294967296^(dg a).length*c:=dY _ q
  omega
def BC{a b ia:Nat}[ha:BN a ia](hb:b<=a)(hi:ia<=1000000000:=by decide):PF GB prog 337 [dN a,dN b] (dN (a-b)):=by
 have hla:=dH (dg a);have hlb:=dH (dg b);have hba:=o8 ha.h hi;refine fn (fu:=⟨9⟩) func337 J J ntmps337 J J (fun C=>?_);refine aj 10 (.d (vI ((dg a).length:Nat))) J (by rw[hla];rfl) ?_;refine gx J<|mk (fu:=⟨13⟩) ((List.replicate (dg a).length 0).map dU) J J (by rw[<-rp];rfl) J<|?_;refine aj 13 (.d (vI ((dg a).length:Nat))) J (by rw[hla];rfl) ?_;refine gx J<|?_;refine lp (X:=List Nat×Nat×Nat) (fun⟨W,c,i⟩=>[(0, .d (dN a)),(1, .d (dN b)),(5, .rw 11),(6, .d (.v (.int .u32 (c:Nat)))),(13, .d (vI ((dg a).length:Nat))),(14, .d (vI (i:Nat)))]) (fun⟨W,c,i⟩=>[(11,some (.b 366 1 (W.map dU) true))]) (fun⟨W,c,i⟩=>W.length=(dg a).length/\aO W/\c<=1/\i<=(dg a).length/\dv (W.take i)+dv ((dg b).take i)=dv ((dg a).take i)+4294967296^i*c) (fun⟨W,c,i⟩=>(dg a).length-i) ⟨List.replicate (dg a).length 0,0,0⟩ J ⟨by simp, .replicate _,by omega,by omega,by simp[dv]⟩ (fun _=>J) (fun⟨W,c,i⟩ hk=>?_);dsimp only at hk⊢;obtain⟨h1,h2,h3,h4,h5⟩:=hk;have hlw:=dH W;have hda:=e7 a i;have hdb:=e7 b i;refine br (fu1:=⟨16⟩) J J J (fun hc15=>?_) (fun hc15=>?_)
 .
  refine mg (X:=Unit) (fun _=>[(0, .d (dN a)),(1, .d (dN b)),(5, .rw 11),(6, .d (.v (.int .u32 (c:Nat)))),(13, .d (vI ((dg a).length:Nat))),(14, .d (vI (i:Nat))),(7, .d (vI (i:Nat))),(8, .d (dU ((dg b).getD i 0)))]) (fun _=>[(11,some (.b 366 1 (W.map dU) true))]) (fun _=>True) [0,1,5,6,13,14,7,8] [11] rfl ?_ (fun _=>J) (fun _ hm=>?_)
  .
   refine gx J<|?_;refine br J J J (fun hc20=>?_) (fun hc20=>?_)
   .
    refine ix _ J (jo (by omega)) J<|?_;exact at_ () trivial
   .
    refine aj 8 (.d (dU ((dg b).getD i 0))) J (by rw[pp (by omega)];rfl) ?_;exact at_ () trivial
  .
   refine ix _ J (jo (by omega)) J<|cl J (TR (by omega) (by omega) (by omega)) J<|sb _ ((W.set i (if(dg a).getD i 0<(dg b).getD i 0+c then(dg a).getD i 0+4294967296-((dg b).getD i 0+c) else(dg a).getD i 0-((dg b).getD i 0+c))).map dU) J (jo (by omega)) J (by rw[<-p8];rfl) J<|?_;exact at_ ⟨W.set i (if(dg a).getD i 0<(dg b).getD i 0+c then(dg a).getD i 0+4294967296-((dg b).getD i 0+c) else(dg a).getD i 0-((dg b).getD i 0+c)),(if(dg a).getD i 0<(dg b).getD i 0+c then 1 else 0),i+1⟩ (by dsimp only;exact⟨⟨by simpa using h1,h2.set _ (by split<;>omega),by split<;>omega,by omega,UD (gF a) (gF b) (by omega) h3 h5 J J⟩,(by omega)⟩)
 .
  obtain rfl:i=(dg a).length:=by omega
  refine fz 11 J J<|cl J (nq (ds:=W) (by omega)) J<|?_;exact rz J (nH h2 (RA h2 h1 hb h5))
def sf(n:Nat)(a b k:Nat)(ha:a<2^k)(h:a+b*2^k<2^n):(BitVec.ofInt n (a:Int) ||| BitVec.ofInt n ((b*2^k:Nat):Int)).toNat=a+b*2^k:=by
 rw[BitVec.toNat_or,BitVec.ofInt_natCast,BitVec.ofInt_natCast,BitVec.toNat_ofNat,BitVec.toNat_ofNat,dR (by omega),dR (by omega)];rw[<-jN,Nat.or_comm,<-kV ha,jN];omega
def AT{x y:Nat}(hx:x<4294967296)(hy:y<4294967296):x*y<=18446744065119617025:=by
 have:=mY (by omega:x<=4294967295) (by omega:y<=4294967295);exact this
def Ky(x y:Nat):(0:Int)<=(x:Int)*(y:Int):=by rw[<-iV];omega
def I3{x y:Nat}(hx:x<4294967296)(hy:y<4294967296):(x:Int)*(y:Int)<=18446744073709551615:=by
 have:=AT hx hy;rw[<-iV];omega
def O1{ds:List Nat}(h:ds.length=1):dv ds=ds.getD 0 0:=by
 match ds,h with
 |[d],_=>simp[dv]
def r9{a:Nat}(h:(dg a).length=1):(dg a).getD 0 0=a:=by rw[<-O1 h,bz]
def Ma{ds:List Nat}{j m:Nat}(h:j<m):(ds.take m).getD j 0=ds.getD j 0:=by
 rw[aJ,aJ,oS,if_pos h]
def DW{W:List Nat}{j m d:Nat}(hj:j<m)(hm:m<=W.length):dv ((W.set j d).take m)+4294967296^j*W.getD j 0=dv (W.take m)+4294967296^j*d:=by
 rw[List.take_set,<-Ma (ds:=W) hj];exact lE _ _ _ (by rw[bR];omega)
def Po{W:List Nat}{P X Y m i k c y t S:Nat}(hk:i+k<m)(hm:m<=W.length)(h:dv (W.take m)+4294967296^(i+k)*c=P+X*(4294967296^i*S))(ht:t=Y+W.getD (i+k) 0+c)(hY:Y=X*y):
  dv ((W.set (i+k) (t%4294967296)).take m)+4294967296^(i+(k+1))*(t/4294967296)=P+X*(4294967296^i*(S+4294967296^k*y)):=by
 have h1:=DW (W:=W) (d:=t%4294967296) hk hm;rw[ht,show Y+W.getD (i+k) 0+c=c+Y+W.getD (i+k) 0 by omega] at h1⊢;have h2:=Fb h1 h;rw[<-jW,eX,h2,hY,dJ];simp only[cY,bW,jU,bV,jW]
def Om{a b:Nat}{W:List Nat}{i c lb:Nat}(hlb:lb=(dg b).length)(hl:i+lb<W.length)(h:dv (W.take (i+lb))+4294967296^(i+lb)*c=dv ((dg a).take i)*b+(dg a).getD i 0*(4294967296^i*dv ((dg b).take lb))):
  dv ((W.set (i+lb) c).take (i+1+lb))=dv ((dg a).take (i+1))*b:=by
 rw[show i+1+lb=i+lb+1 by omega,lC hl,h,fP,ll (ds:=dg b) (by omega),bz b,cK];simp only[bW,jU,bV]
def Ji(n j:Nat):(List.replicate n 0).getD j 0=0:=by
 rw[aJ,List.getElem?_replicate];split<;>rfl
def uB{k:Nat}(h:k<=1000000000):IntKind.i64.wrap ((k:Int).tdiv 32)=((k/32:Nat):Int):=by
 rw[show(k:Int).tdiv 32=((k/32:Nat):Int) from J,yx];omega
def D3(k:Nat):(k:Int).tmod 32=((k%32:Nat):Int):=rfl
def mI{a b ia ib:Nat}[ha:BN a ia][hb:BN b ib](hi:ia<=1000000000:=by decide)(hj:ib<=1000000000:=by decide):PF GB prog 239 [dN a,dN b] (dN (a*b)):=by
 have hla:=dH (dg a);have hlb:=dH (dg b);have hba:=o8 ha.h hi;have hbb:=o8 hb.h hj;refine fn (fu:=⟨6⟩) func239 J J ntmps239 J J (fun C=>?_);refine mg (fu:=⟨4⟩) (X:=Unit) (fun _=>[(0, .d (dN a)),(1, .d (dN b))]) (fun _=>[]) (fun _=>True) [0,1] [] rfl ?_ (fun _=>J) (fun _ hm=>?_)
 .
  refine gx J<|?_;refine cs 15 J J J (fun hg15=>?_) (fun hg15=>?_)
  .
   refine br J J J (fun hc19=>?_) (fun hc19=>?_)
   .
    have hd0:=e7 a 0;have hd1:=e7 b 0;refine ix _ J (et (k:=0) J (by omega)) J<|ix (hv:=by simp only[ah];exact⟨by omega,⟨(Ky _ _),(I3 (e7 _ _) (e7 _ _))⟩⟩) _ J (et (k:=0) J (by omega)) J<|cl J (oH (u:=(dg a).getD 0 0*(dg b).getD 0 0) (by have:=AT (e7 a 0) (e7 b 0);omega)) J<|?_;exact rz J (by rw[r9 (by omega),r9 (by omega)];rfl)
   .
    exact at_ () trivial
  .
   exact at_ () trivial
 .
  refine aj 31 (.d (vI ((dg a).length:Nat))) J (by rw[hla];rfl) ?_;refine gx (fu:=⟨2⟩) J<|?_;refine aj 33 (.d (vI ((dg b).length:Nat))) J (by rw[hlb];rfl) ?_;refine gx J<|mk (fu:=⟨8⟩) ((List.replicate ((dg a).length+(dg b).length) 0).map dU) J J (by rw[<-rp];rfl) J<|?_;refine aj 37 (.d (vI ((dg a).length:Nat))) J (by rw[hla];rfl) ?_;refine gx J<|?_;refine lp (X:=List Nat×Nat) (fun⟨W,i⟩=>[(0, .d (dN a)),(1, .d (dN b)),(5, .rw 35),(36, .d (dN a)),(37, .d (vI ((dg a).length:Nat))),(38, .d (vI (i:Nat)))]) (fun⟨W,i⟩=>[(35,some (.b 366 1 (W.map dU) true))]) (fun⟨W,i⟩=>W.length=(dg a).length+(dg b).length/\aO W/\i<=(dg a).length/\dv (W.take (i+(dg b).length))=dv ((dg a).take i)*b) (fun⟨W,i⟩=>(dg a).length-i) ⟨List.replicate ((dg a).length+(dg b).length) 0,0⟩ J ⟨by simp, .replicate _,by omega,by rw[List.take_replicate,r7];simp[dv]⟩ (fun _=>J) (fun⟨W,i⟩ hk=>?_);dsimp only at hk⊢;obtain⟨h1,h2,h3,h4⟩:=hk;refine br J J J (fun hc39=>?_) (fun hc39=>?_)
  .
   refine ix (fu:=⟨15⟩) _ J (jo (by omega)) J<|?_;refine aj 44 (.d (vI ((dg b).length:Nat))) J (by rw[hlb];rfl) ?_;refine gx J<|?_;refine lp (X:=List Nat×Nat×Nat) (fun⟨W2,c,k⟩=>[(0, .d (dN a)),(1, .d (dN b)),(5, .rw 35),(6, .d (vI (i:Nat))),(7, .d (dU ((dg a).getD i 0))),(8, .d (.v (.int .u64 (c:Nat)))),(36, .d (dN a)),(37, .d (vI ((dg a).length:Nat))),(38, .d (vI (i:Nat))),(43, .d (dN b)),(44, .d (vI ((dg b).length:Nat))),(45, .d (vI (k:Nat)))]) (fun⟨W2,c,k⟩=>[(35,some (.b 366 1 (W2.map dU) true))]) (fun⟨W2,c,k⟩=>W2.length=(dg a).length+(dg b).length/\aO W2/\c<4294967296/\k<=(dg b).length/\dv (W2.take (i+(dg b).length))+4294967296^(i+k)*c=dv ((dg a).take i)*b+(dg a).getD i 0*(4294967296^i*dv ((dg b).take k))) (fun⟨W2,c,k⟩=>(dg b).length-k) ⟨W,0,0⟩ J ⟨h1,h2,by omega,by omega,by rw[h4];simp[dv]⟩ (fun _=>J) (fun⟨W2,c,k⟩ hk=>?_);dsimp only at hk⊢;obtain⟨g1,g2,g3,g4,g5⟩:=hk;have hlw:=dH W2;have hw:=g2.get (i+k);have hda:=e7 a i;have hdb:=e7 b k;refine br (fu2:=⟨10⟩) J J J (fun hc46=>?_) (fun hc46=>?_)
   .
    refine ix (fu:=⟨12⟩) (hv:=by simp only[ah];exact⟨⟨by omega,by omega⟩,⟨(Ky _ _),(I3 (e7 _ _) (e7 _ _))⟩⟩) _ J (jo (by omega)) J<|?_;obtain⟨p,hp⟩: ∃p,p=(dg a).getD i 0*(dg b).getD k 0:=⟨_,rfl⟩;have hp1:p<=18446744065119617025:=hp▸AT hda hdb;refine aj 54 (.d (.v (.int .u64 (p:Nat)))) J (by rw[hp,iV]) ?_;refine gx J<|lb (fu:=⟨4⟩) _ J (et (k:=i+k) (by omega) (by omega)) J<|?_;obtain⟨t,ht⟩: ∃t,t=p+W2.getD (i+k) 0+c:=⟨_,rfl⟩;refine aj 64 (.d (.v (.int .u64 (t:Nat)))) J (by congr 3;omega) ?_;refine gx (fu:=⟨11⟩) J<|?_;refine aj 70 (.d (dU (t%4294967296))) J (by show FX.d (.v (.int _ _))= .d (.v (.int _ _));congr 3) ?_;refine gx J<|sb (fu:=⟨5⟩) (hv:=by simp only[ah];exact(by decide)) _ ((W2.set (i+k) (t%4294967296)).map dU) J (et (k:=i+k) (by omega) (by omega)) J (by(rw[show((i:Int)+k).toNat=i+k by omega,<-p8])<;>rfl) J<|?_;refine aj 73 (.d (.v (.int .u64 (t/4294967296:Nat)))) J (by rw[Aq]) ?_;refine gx J<|?_;exact at_ ⟨W2.set (i+k) (t%4294967296),t/4294967296,k+1⟩ (by dsimp only;exact⟨⟨by simpa using g1,g2.set _ (by omega),by omega,by omega,by rw[fP];exact Po (by omega) (by omega) g5 ht hp⟩,(by omega)⟩)
   .
    obtain rfl:k=(dg b).length:=by omega
    refine aj 78 (.d (vI ((dg b).length:Nat))) J (by rw[hlb];rfl) ?_;refine gx (fu:=⟨3⟩) J<|?_;refine aj 81 (.d (dU c)) J (by show FX.d (.v (.int _ _))= .d (.v (.int _ _));congr 3;omega) ?_;refine gx J<|sb _ ((W2.set (i+(dg b).length) c).map dU) J (et (k:=i+(dg b).length) (by omega) (by omega)) J (by(rw[show((i:Int)+((dg b).length:Nat)).toNat=i+(dg b).length by omega,<-p8])<;>rfl) J<|?_;exact at_ ⟨W2.set (i+(dg b).length) c,i+1⟩ (by dsimp only;exact⟨⟨by simpa using g1,g2.set _ g3,by omega,Om J (by omega) g5⟩,(by omega)⟩)
  .
   obtain rfl:i=(dg a).length:=by omega
   refine fz 35 J J<|cl J (nq (ds:=W) (by omega)) J<|?_;exact rz J (nH h2 (by have:=h4;rw[ll (by omega),ll (by omega),bz] at this;exact this))
def Jc(x s:Nat):x*2^s=x*2^s%4294967296+4294967296*(x*2^s/4294967296):=by omega
def R8{x s:Nat}(hx:x<4294967296)(hs:s<32):x*2^s/4294967296<2^s:=by
 rw[iT (by decide),bV (2^s)];exact lK hx (aS _) (dZ (by decide))
def B6{s:Nat}(hs:s<32):2^s*2^(32-s)=4294967296:=by rw[<-dJ,show s+(32-s)=32 by omega]
def MG(x s:Nat)(hs:s<32):x*2^s%4294967296=x%2^(32-s)*2^s:=by
 rw[<-B6 hs,bV (2^s),pU]
def Nb{x s:Nat}(hx:x<4294967296)(hs:s<32):x*2^s<18446744073709551616:=by
 have h1:2^s<=2^31:=aM (by decide) (by omega);have:=lK hx h1 (by decide);omega
def TP{w x s:Nat}(hw:w<2^s)(hs:s<32):(BitVec.ofInt 32 (w:Int) ||| BitVec.ofInt 32 ((x*2^s%4294967296:Nat):Int)).toNat=w+x*2^s%4294967296:=by
 rw[MG x s hs];refine sf 32 _ _ _ hw ?_;have h1:x%2^(32-s)+1<=2^(32-s):=cV _ (dZ (by decide));have h2:=bX (2^s) h1;rw[bV (2^(32-s)),B6 hs,cK,mL] at h2;show _<4294967296;omega
def Nd{h:Nat}(hh:h<4294967296):(BitVec.ofInt 32 ((0:Nat):Int) ||| BitVec.ofInt 32 (h:Int)).toNat=h:=by
 have:=sf 32 0 h 0 (by decide) (by simpa using hh);simpa using this
def z6(k:Nat):2^k=4294967296^(k/32)*2^(k%32):=by
 rw[show(4294967296:Nat)=2^32 from J,<-nY,<-dJ,oY]
def getD_set_ne{W:List Nat}{i j d:Nat}(h:i≠j):(W.set i d).getD j 0=W.getD j 0:=by
 rw[aJ,aJ,List.getElem?_set_ne h]
def II{W:List Nat}{i d:Nat}(h:i<W.length):(W.set i d).getD i 0=d:=by
 rw[aJ,nZ h];rfl
def Ou{A W:List Nat}{k q s i x:Nat}(hq:q=k/32)(hs:s=k%32)(hl:q+i+1<W.length)(hx:x=A.getD i 0)
  (h:dv (W.take (q+i+1))=dv (A.take i)*2^k):
  dv (((W.set (q+i) (W.getD (q+i) 0+x*2^s%4294967296)).set (q+i+1) (x*2^s/4294967296)).take (q+(i+1)+1))=dv (A.take (i+1))*2^k:=by
 have e1:=DW (W:=W) (j:=q+i) (m:=q+i+1) (d:=W.getD (q+i) 0+x*2^s%4294967296) (by omega) (by omega);rw[show q+(i+1)+1=q+i+1+1 by omega,lC (by rw[aW];omega),fP A,<-hx];have e2:dv ((W.set (q+i) (W.getD (q+i) 0+x*2^s%4294967296)).take (q+i+1))=dv (A.take i)*2^k+4294967296^(q+i)*(x*2^s%4294967296):=by
  rw[cY,h] at e1;omega
 rw[e2,eX,bW,jW,<-cY,<-Jc,cK,z6 k,<-hq,<-hs,dJ];simp only[bW,jU,bV]
def yb{a k ia:Nat}[ha:BN a ia](hk:k<=1000000000)(hi:ia<=1000000000:=by decide):PF GB prog 378 [dN a,vI (k:Nat)] (dN (a*2^k)):=by
 have hla:=dH (dg a);have hba:=o8 ha.h hi;refine fn (fu:=⟨9⟩) func378 J J ntmps378 J J (fun C=>?_);refine aj 11 (.d (vI (k/32:Nat))) J (by show FX.d (.v (.int _ _))= .d (.v (.int _ _));rw[uB hk]) ?_;refine gx (fu:=⟨2⟩) J<|?_;refine aj 13 (.d (vI ((dg a).length:Nat))) J (by rw[hla];rfl) ?_;refine gx (fu:=⟨2⟩) J<|?_;refine aj 15 (.d (vI (k/32+(dg a).length+1:Nat))) J (by show FX.d (.v (.int _ _))= .d (.v (.int _ _));congr 3) ?_;refine gx J<|mk (fu:=⟨7⟩) (hv:=by simp only[ah];exact(by decide)) ((List.replicate (k/32+(dg a).length+1) 0).map dU) J J (by rw[<-rp];rfl) J<|?_;refine aj 18 (.d (vI (k%32:Nat))) J (by show FX.d (.v (.int _ _))= .d (.v (.int _ _));rw[D3]) ?_;refine gx (fu:=⟨9⟩) J<|?_;refine aj 21 (.d (vI ((dg a).length:Nat))) J (by rw[hla];rfl) ?_;refine gx J<|?_;refine lp (X:=List Nat×Nat) (fun⟨W,i⟩=>[(0, .d (dN a)),(1, .d (vI (k:Nat))),(5, .rw 16),(6, .d (.v (.int .u64 (k%32:Nat)))),(20, .d (dN a)),(21, .d (vI ((dg a).length:Nat))),(22, .d (vI (i:Nat)))]) (fun⟨W,i⟩=>[(16,some (.b 366 1 (W.map dU) true))]) (fun⟨W,i⟩=>W.length=k/32+(dg a).length+1/\aO W/\i<=(dg a).length/\dv (W.take (k/32+i+1))=dv ((dg a).take i)*2^k/\W.getD (k/32+i) 0<2^(k%32)/\ ∀j,k/32+i<j->W.getD j 0=0) (fun⟨W,i⟩=>(dg a).length-i) ⟨List.replicate (k/32+(dg a).length+1) 0,0⟩ J ⟨by simp, .replicate _,by omega,by rw[List.take_replicate,r7];simp[dv],by rw[Ji];exact dZ (by decide),fun j _=>Ji _ _⟩ (fun _=>J) (fun⟨W,i⟩ hk=>?_);dsimp only at hk⊢;obtain⟨h1,h2,h3,h4,h5,h6⟩:=hk;have hlw:=dH W;have hda:=e7 a i;have hsk:k%32<32:=cV _ (by decide)
 have hpp:2^(k%32)<=2^31:=aM (by decide) (by omega);refine br J J J (fun hc23=>?_) (fun hc23=>?_)
 .
  refine ix (fu:=⟨11⟩) (hv:=by simp only[ah];exact⟨by omega,(by omega)⟩) _ J (jo (by omega)) J<|?_;have hhi:=R8 hda hsk;have hfit0:=Nb hda hsk;have hor:=TP (x:=(dg a).getD i 0) h5 hsk;have hfit:W.getD (k/32+i) 0+(dg a).getD i 0*2^(k%32)%4294967296<4294967296:=by rw[<-hor];exact BitVec.isLt _
  have hlp:=Jc ((dg a).getD i 0) (k%32);refine aj 30 (.d (.v (.int .u64 ((dg a).getD i 0*2^(k%32):Nat)))) J (by show FX.d (.v (.int _ _))= .d (.v (.int _ _));rw[mB _ (k%32) (by omega) hfit0 (by omega)]) ?_;obtain⟨t,ht⟩: ∃t,t=(dg a).getD i 0*2^(k%32):=⟨_,rfl⟩;simp only[<-ht] at hhi hfit0 hor hfit hlp;rw[<-ht];refine gx (fu:=⟨8⟩) J<|?_;refine aj 33 (.d (vI (k/32:Nat))) J (by show FX.d (.v (.int _ _))= .d (.v (.int _ _));rw[uB hk]) ?_;refine gx J<|lb (fu:=⟨2⟩) _ J (et (k:=k/32+i) (by omega) (by omega)) J<|?_;refine aj 39 (.d (dU (t%4294967296))) J (by show FX.d (.v (.int _ _))= .d (.v (.int _ _));congr 3) ?_;refine gx (fu:=⟨1⟩) J<|?_;refine aj 40 _ J (congrArg (fun z:Nat=>FX.d (.v (.int .u32 (z:Int)))) hor) ?_;refine gx J<|sb (fu:=⟨6⟩) _ ((W.set (k/32+i) (W.getD (k/32+i) 0+t%4294967296)).map dU) J (et (k:=k/32+i) (by omega) (by omega)) J (by(rw[show(((k/32:Nat):Int)+i).toNat=k/32+i by omega];simp only[nR];rfl)<;>rfl) J<|?_;refine aj 44 (.d (vI (k/32:Nat))) J (by show FX.d (.v (.int _ _))= .d (.v (.int _ _));rw[uB hk]) ?_;refine gx J<|lb (fu:=⟨0⟩) _ J (et (k:=k/32+i+1) (by omega) (by rw[aW];omega)) J<|?_;refine aj 49 (.d (dU 0)) J (by rw[getD_set_ne (by omega),h6 _ (by omega)]) ?_;refine gx (fu:=⟨2⟩) (hv:=by simp only[ah];exact(by decide)) J<|?_;refine aj 51 (.d (.v (.int .u64 (t/4294967296:Nat)))) J (by rw[Aq]) ?_;refine gx (fu:=⟨1⟩) J<|?_;refine aj 52 (.d (dU (t/4294967296))) J (by show FX.d (.v (.int _ _))= .d (.v (.int _ _));congr 3;omega) ?_;refine gx (fu:=⟨1⟩) J<|?_;refine aj 53 _ J (congrArg (fun z:Nat=>FX.d (.v (.int .u32 (z:Int)))) (Nd (by omega))) ?_
  refine gx J<|sb _ (((W.set (k/32+i) (W.getD (k/32+i) 0+t%4294967296)).set (k/32+i+1) (t/4294967296)).map dU) J (et (k:=k/32+i+1) (by omega) (by rw[aW];omega)) J (by(rw[show(((k/32:Nat):Int)+i+1).toNat=k/32+i+1 by omega];simp only[nR];rfl)<;>rfl) J<|?_;exact at_ ⟨(W.set (k/32+i) (W.getD (k/32+i) 0+t%4294967296)).set (k/32+i+1) (t/4294967296),i+1⟩ (by dsimp only;exact⟨⟨by simpa using h1,(h2.set _ hfit).set _ (by omega),by omega,by have q:=Ou (x:=(dg a).getD i 0) J J (by omega) J h4;rw[<-ht] at q;exact q,by rw[show k/32+(i+1)=k/32+i+1 by omega,II (by simp;omega)];exact hhi,fun j hj=>by rw[getD_set_ne (by omega),getD_set_ne (by omega)];exact h6 j (by omega)⟩,(by omega)⟩)
 .
  obtain rfl:i=(dg a).length:=by omega
  refine fz 16 J J<|cl J (nq (ds:=W) (by omega)) J<|?_;exact rz J (nH h2 (by have:=h4;rw[ll (by omega),ll (by omega),bz] at this;exact this))
def Pu{a k:Nat}(h:(dg a).length<=k/32):a/2^k=0:=by
 refine gS ?_;have h1:=gq (gF a);rw[bz] at h1;have h2:4294967296^(dg a).length<=4294967296^(k/32):=aM (by decide) h;have h3:4294967296^(k/32)*1<=4294967296^(k/32)*2^(k%32):=dY _ (dZ (by decide));rw[z6 k];omega
def AC{ds:List Nat}(h:aO ds)(q:Nat):dv (ds.drop q)=dv ds/4294967296^q:=by
 rcases fS ds.length q with hq|hq
 ·rw[pQ (by omega)]
  have h1:=gq h;have h2:4294967296^ds.length<=4294967296^q:=aM (by decide) (by omega);rw[gS (by omega)];rfl
 ·have e:=vA ds q hq
  have h1:=gq (h.take q);rw[bR,fV hq] at h1;rw[e,kW _ _ (dZ (by decide)),gS h1,dV]
def B9{ds:List Nat}(h:aO ds)(i:Nat):dv ds/4294967296^i=ds.getD i 0+4294967296*ds.getD (i+1) 0+18446744073709551616*(dv ds/4294967296^(i+2)):=by
 have e0:=AC h i;have e2:=AC h (i+2);rw[<-e0,<-e2];have g0:ds.getD i 0=(ds.drop i).getD 0 0:=by rw[aJ,aJ,iM];rfl
 have g1:ds.getD (i+1) 0=(ds.drop i).getD 1 0:=by rw[aJ,aJ,iM]
 have g2:ds.drop (i+2)=(ds.drop i).drop 2:=by rw[pJ]
 rw[g0,g1,g2]
 match ds.drop i with
 |[]=>rfl
 |[u]=>simp[dv]
 |u::v::t=>simp only[dv,List.getD_cons_zero,List.getD_cons_succ,qY,gV];omega
def OS{D s i u v w Z:Nat}(hs:s<32)(hZ:D/4294967296^i=u+4294967296*v+18446744073709551616*Z)(hw:w=(u+v*4294967296)/2^s%4294967296):(D/2^s)%4294967296^(i+1)=(D/2^s)%4294967296^i+4294967296^i*w:=by
 rw[eX,Nat.mod_mul];congr 2;rw[kL,bV (2^s),<-kL,hZ,hw];have h1:18446744073709551616=2^s*(2^(32-s)*4294967296):=by rw[<-bW,B6 hs]
 rw[h1,bW (2^s),kW _ _ (dZ (by decide)),bV v];rw[bV (2^(32-s)),bW,lY]
def L0{a k:Nat}{W:List Nat}{q s:Nat}(hq:q=k/32)(hs:s=k%32)(hl:W.length=(dg a).length-q)(h:dv (W.take ((dg a).length-q))=(dv ((dg a).drop q)/2^s)%4294967296^((dg a).length-q)):dv W=a/2^k:=by
 rw[ll (by omega)] at h;have h1:=gq ((gF a).drop q);rw[lQ] at h1;have h2:=iL (dv ((dg a).drop q)) (2^s);rw[h,dR (by omega),AC (gF a),bz,z6 k,<-hq,<-hs,kL]
def RG{a k ia:Nat}[ha:BN a ia](hk:k<=1000000000)(hi:ia<=1000000000:=by decide):PF GB prog 379 [dN a,vI (k:Nat)] (dN (a/2^k)):=by
 have hla:=dH (dg a);have hba:=o8 ha.h hi;refine fn (fu:=⟨10⟩) func379 J J ntmps379 J J (fun C=>?_);refine aj 12 (.d (vI (k/32:Nat))) J (by show FX.d (.v (.int _ _))= .d (.v (.int _ _));rw[uB hk]) ?_;refine gx (fu:=⟨2⟩) J<|?_;refine aj 14 (.d (vI ((dg a).length:Nat))) J (by rw[hla];rfl) ?_;refine gx J<|?_;refine br (fu2:=⟨6⟩) (v2:=fun _=>by simp only[ah];exact(by decide)) J J J (fun hc15=>?_) (fun hc15=>?_)
 .
  exact rz J (by rw[Pu (by omega),y6];rfl)
 .
  refine aj 17 (.d (vI (k%32:Nat))) J (by show FX.d (.v (.int _ _))= .d (.v (.int _ _));rw[D3]) ?_;refine gx (fu:=⟨9⟩) J<|?_;refine aj 21 (.d (vI (k/32:Nat))) J (by show FX.d (.v (.int _ _))= .d (.v (.int _ _));rw[uB hk]) ?_;refine gx J<|n7 (fu:=⟨0⟩) (k/32) (dg a).length _ J J (by rw[hla]) J (pw _) (by omega) (by omega) J<|?_;obtain⟨I,hI⟩: ∃I,I=(dg a).drop (k/32):=⟨_,rfl⟩;have hIl:I.length=(dg a).length-k/32:=by rw[hI,lQ]
  have hIm:=dH I;have hIo:aO I:=hI▸(gF a).drop _;refine aj 22 (.d (d7 I)) J (by show FX.d (.sl _)= .d (.sl _);rw[hI,<-hla,bN,pS]) ?_;refine gx (fu:=⟨7⟩) J<|?_;refine aj 24 (.d (vI (I.length:Nat))) J (by rw[hIm];rfl) ?_;refine gx J<|mk (fu:=⟨8⟩) ((List.replicate I.length 0).map dU) J J (by rw[<-rp];rfl) J<|?_;refine aj 27 (.d (vI (I.length:Nat))) J (by rw[hIm];rfl) ?_;refine gx J<|?_;refine lp (X:=List Nat×Nat) (fun⟨W,i⟩=>[(0, .d (dN a)),(5, .d (.v (.int .u64 (k%32:Nat)))),(6, .d (d7 I)),(7, .rw 25),(26, .d (d7 I)),(27, .d (vI (I.length:Nat))),(28, .d (vI (i:Nat)))]) (fun⟨W,i⟩=>[(25,some (.b 366 1 (W.map dU) true))]) (fun⟨W,i⟩=>W.length=I.length/\aO W/\i<=I.length/\dv (W.take i)=(dv I/2^(k%32))%4294967296^i) (fun⟨W,i⟩=>I.length-i) ⟨List.replicate I.length 0,0⟩ J ⟨by simp, .replicate _,by omega,by simp[dv,Nat.mod_one]⟩ (fun _=>J) (fun⟨W,i⟩ hk=>?_);dsimp only at hk⊢;obtain⟨h1,h2,h3,h4⟩:=hk;have hlw:=dH W;have hda:=hIo.get i;have hdb:=hIo.get (i+1);have hsk:k%32<32:=cV _ (by decide);refine br J J J (fun hc29=>?_) (fun hc29=>?_)
  .
   refine ix (fu:=⟨13⟩) _ J (jo (by omega)) J<|?_;refine mg (fu:=⟨6⟩) (hv:=fun _ _=>by simp only[ah];exact(by omega)) (X:=Unit) (fun _=>[(0, .d (dN a)),(5, .d (.v (.int .u64 (k%32:Nat)))),(6, .d (d7 I)),(7, .rw 25),(26, .d (d7 I)),(27, .d (vI (I.length:Nat))),(28, .d (vI (i:Nat))),(8, .d (vI (i:Nat))),(10, .d (.v (.int .u64 (I.getD i 0+I.getD (i+1) 0*4294967296:Nat))))]) (fun _=>[(25,some (.b 366 1 (W.map dU) true))]) (fun _=>True) [0,5,6,7,26,27,28,8,10] [25] rfl ?_ (fun _=>J) (fun _ hm=>?_)
   .
    refine gx (fu:=⟨6⟩) J<|?_;refine aj 38 (.d (vI (I.length:Nat))) J (by rw[hIm];rfl) ?_;refine gx J<|?_;refine br J J J (fun hc39=>?_) (fun hc39=>?_)
    .
     refine ix (fu:=⟨3⟩) (hv:=by simp only[ah];exact⟨by omega,(by decide)⟩) _ J (et (k:=i+1) (by omega) (by omega)) J<|?_;refine aj 47 (.d (.v (.int .u64 (I.getD (i+1) 0*4294967296:Nat)))) J (by show FX.d (.v (.int _ _))= .d (.v (.int _ _));rw[mB _ 32 (by decide) (by show _*4294967296<_;omega) J]) ?_;refine gx (fu:=⟨1⟩) J<|?_;refine aj 48 _ J (congrArg (fun z:Nat=>FX.d (.v (.int .u64 (z:Int)))) (sf 64 (I.getD i 0) (I.getD (i+1) 0) 32 hda (by show _+_*4294967296<18446744073709551616;omega))) ?_;refine gx J<|?_;exact at_ () trivial
    .
     refine aj 10 (.d (.v (.int .u64 (I.getD i 0+I.getD (i+1) 0*4294967296:Nat)))) J (by rw[pp (by omega:I.length<=i+1),kX,cN]) ?_;exact at_ () trivial
   .
    refine aj 53 (.d (.v (.int .u64 ((I.getD i 0+I.getD (i+1) 0*4294967296)/2^(k%32):Nat)))) J (by show FX.d (.v (.int _ _))= .d (.v (.int _ _));rw[oD _ (k%32) (by omega) (by omega)]) ?_;refine gx (fu:=⟨1⟩) J<|?_;obtain⟨w,hw⟩: ∃w,w=(I.getD i 0+I.getD (i+1) 0*4294967296)/2^(k%32)%4294967296:=⟨_,rfl⟩;have hw1:w<4294967296:=hw▸cV _ (by decide);refine aj 54 (.d (dU w)) J (by show FX.d (.v (.int _ _))= .d (.v (.int _ _));rw[hw];congr 3) ?_;refine gx J<|sb _ ((W.set i w).map dU) J (jo (by omega)) J (by(rw[<-p8];rfl)<;>rfl) J<|?_;exact at_ ⟨W.set i w,i+1⟩ (by dsimp only;exact⟨⟨by simpa using h1,h2.set _ (by omega),by omega,by rw[lC (by omega),h4];exact(OS hsk (B9 hIo i) hw).symm⟩,(by omega)⟩)
  .
   refine fz 25 J J<|cl J (nq (ds:=W) (by omega)) J<|?_;exact rz rfl (nH h2 (by obtain rfl:i=I.length:=(by omega);rw[hIl] at h1 h4;rw[hI] at h4;exact L0 rfl rfl h1 h4))
def wl{a k:Nat}(h:a<4294967296^k):(dg a).length<=k:=by
 rcases fS k (dg a).length with q|q
 ·have h1:=ng (dB a).2.2 (by intro e;rw[e] at q;simp at q)
  rw[bz] at h1;have h2:4294967296^k<=4294967296^((dg a).length-1):=aM (by decide) (by omega);omega
 ·exact q
def Mb{a:Nat}(h:(dg a).length=2):(dg a).getD 0 0+(dg a).getD 1 0*4294967296=a:=by
 have e:=bz a;revert e
 match dg a,h with
 |[x,y],_=>intro e;simp[dv] at e⊢;omega
def va(a:Nat):DV:= .tp [.v (.int .u64 ((if a<18446744073709551616 then a else 0:Nat):Int)),vB (decide (a<18446744073709551616))]
def H1{a:Nat}(h:a<18446744073709551616):va a= .tp [.v (.int .u64 (a:Int)),vB true]:=by unfold va;rw[if_pos h,decide_eq_true h]
def Qy{a:Nat}(h: ¬a<18446744073709551616):va a= .tp [.v (.int .u64 0),vB false]:=by unfold va;rw[if_neg h,decide_eq_false h];rfl
def pk(a:Nat):a<4294967296^(dg a).length:=by have:=gq (gF a);rwa [bz] at this
def xG{a ia:Nat}[ha:BN a ia](hi:ia<=1000000000:=by decide):PF GB prog 282 [dN a] (va a):=by
 have hla:=dH (dg a);have hba:=o8 ha.h hi;have hlt:=pk a;have hd00:=e7 a 0;refine fn (fu:=⟨11⟩) func282 J J ntmps282 J J (fun C=>?_);refine aj 5 (.d (vI ((dg a).length:Nat))) J (by rw[hla];rfl) ?_;refine gx J<|?_;refine br J J J (fun hc6=>?_) (fun hc6=>?_)
 .
  exact rz rfl (by rw[show(dg a).length=0 by omega] at hlt;obtain rfl:a=0:=(by omega);rfl)
 .
  refine br J J J (fun hc8=>?_) (fun hc8=>?_)
  .
   refine ix (fu:=⟨2⟩) _ J (et (k:=0) J (by omega)) J<|?_;refine aj 13 (.d (.v (.int .u64 (a:Nat)))) J (by rw[r9 (by omega)]) ?_;refine gx J<|?_;exact rz J (by rw[show(dg a).length=1 by omega] at hlt;rw[H1 (by omega),<-r9 (a:=a) (by omega),r9 (a:=a) (by omega)];rfl)
  .
   refine br J J J (fun hc14=>?_) (fun hc14=>?_)
   .
    have hd0:=e7 a 0;have hd1:=e7 a 1;refine ix (hv:=by simp only[ah];exact⟨by omega,(by decide)⟩) _ J (et (k:=1) J (by omega)) J<|ix (fu:=⟨3⟩) _ J (et (k:=0) J (by omega)) J<|?_;refine aj 25 (.d (.v (.int .u64 (a:Nat)))) J (congrArg (fun z:Nat=>FX.d (.v (.int .u64 (z:Int)))) (by rw[mB _ 32 (by decide) (by show _*4294967296<_;omega) J,BitVec.or_comm];exact(sf 64 ((dg a).getD 0 0) ((dg a).getD 1 0) 32 hd0 (by show _+_*4294967296<18446744073709551616;omega)).trans (Mb (by omega)))) ?_;refine gx J<|?_;exact rz J (by rw[show(dg a).length=2 by omega] at hlt;rw[H1 (by omega)];rfl)
   .
    exact rz rfl (by rw[Qy];rfl;intro h;have:=wl (a:=a) (k:=2) (by omega);omega)
def Ki{G:Gh}{ds:List Nat}{v:Value}(hd:aO ds)(h:Is G (d7 ds) v): ∃x:SV,v=x.v/\bE G x ds:=by
 obtain⟨x,rfl,h1⟩:=Jt.1 h;exact⟨x,J,hd,h1⟩
def ee.is{G:Gh}{k n:Nat}{z:SV}(h:ee k G z n):Is G (dN n) z.v:=(P5 h.lt).2 ⟨z,J,h⟩
def vn{G:Gh}{ds:List Nat}{vs:List Value}(hd:aO ds)(h:IsLs G [d7 ds] vs): ∃x:SV,vs=[x.v]/\bE G x ds:=by
 obtain⟨v,m,rfl,h1,h2⟩:=bD.1 h
 cases cp.1 h2
 obtain⟨x,rfl,h3⟩:=Ki hd h1;exact⟨x,J,h3⟩
def ud{G:Gh}{a b:Nat}{vs:List Value}(h:IsLs G [dN a,dN b] vs): ∃x y:SV,vs=[x.v,y.v]/\bE G x (dg a)/\bE G y (dg b):=by
 obtain⟨v,m,rfl,h1,h2⟩:=bD.1 h;obtain⟨y,rfl,h4⟩:=vn (dB b).2.1 h2;obtain⟨x,rfl,h3⟩:=Ki (dB a).2.1 h1;exact⟨x,y,J,h3,h4⟩
section
variable {GB:Gh} {a b i j:Nat}
def jB[h:BN a i](hi:i<=1000000000):(dg a).length<=31250001:=by have:=i8 h.h;omega
def Hd{ds:List Nat}(hd:aO ds)(hl:ds.length<=1125899906842624):PF GB prog 348 [d7 ds] (vB (decide (c8 ds))):=fun G vs _ hv=>by
 obtain⟨x,rfl,hx⟩:=vn hd hv;exact(Qn hx hl).mono fun v G' _ h=>bc.2 h
def o4[h:BN a i](hi:i<=1000000000:=by decide):PF GB prog 310 [dN a] (vI (bl a:Nat)):=fun G vs _ hv=>by
 obtain⟨x,rfl,hx⟩:=vn (dB a).2.1 hv;have:=jB (a:=a) hi;exact(Pr hx (by omega)).mono fun v G' _ h=>bc.2 (by rw[h,bz])
def tc[h:BN a i](hi:i<=1000000000:=by decide):PF GB prog 308 [dN a] (dN a):=fun G vs _ hv=>by
 obtain⟨x,rfl,hx⟩:=vn (dB a).2.1 hv;have:=jB (a:=a) hi;refine(BX (k:=i) hx (by rw[bz];exact h.h) (by omega)).mono fun v G' _ h=>?_;obtain⟨z,rfl,h⟩:=h;rw[bz] at h;exact h.is
def B8(h:a<18446744073709551616):PF GB prog 309 [.v (.int .u64 (a:Nat))] (dN a):=fun G vs _ hv=>by
 obtain⟨v,m,rfl,h1,h2⟩:=bD.1 hv
 cases cp.1 h2
 rw[bc.1 h1];refine(A6 h).mono fun v G' _ h=>?_;obtain⟨z,rfl,h⟩:=h;exact h.is
def yY(h:a<18446744073709551616):PF GB prog 315 [dN a] (.tp [.v (.int .u64 (a:Nat)),vB true]):=fun G vs _ hv=>by
 obtain⟨x,rfl,hx⟩:=vn (dB a).2.1 hv;have:BN a 64:=⟨h⟩;have:=jB (a:=a) (i:=64) (by decide);refine(Bc hx (by omega)).mono fun v G' _ e=>?_;rw[bz,if_pos h,decide_eq_true h] at e;subst e;exact kH.2 ⟨_,J, .cons (bc.2 J) (.cons (bc.2 J) .nil)⟩
def O8[h:BN a i][k:BN b j](hi:i<=1000000000:=by decide)(hj:j<=1000000000:=by decide):PF GB prog 362 [dN a,dN b] (dN (a+b)):=fun G vs _ hv=>by
 obtain⟨x,y,rfl,hx,hy⟩:=ud hv;have:=jB (a:=a) hi;have:=jB (a:=b) hj;refine(U0 (kk:=i+j+1) hx hy (by rw[bz,bz];exact xE h.h k.h) (by omega) (by omega)).mono fun v G' _ h=>?_;obtain⟨z,rfl,h⟩:=h;rw[bz,bz] at h;exact h.is
def H2[h:BN a i][k:BN b j](hi:i<=1000000000:=by decide)(hj:j<=1000000000:=by decide):PF GB prog 363 [dN a,dN b] (.tp [dN (a-b),vB (decide (b<=a))]):=fun G vs _ hv=>by
 obtain⟨x,y,rfl,hx,hy⟩:=ud hv;have:=jB (a:=a) hi;have:=jB (a:=b) hj;refine(Vb (kk:=i) hx hy (by rw[bz];exact h.h) (by omega) (by omega)).mono fun v G' _ h=>?_;obtain⟨z,rfl,h⟩:=h;rw[bz,bz] at h⊢;exact kH.2 ⟨_,J, .cons h.is (.cons (bc.2 J) .nil)⟩
def r8[h:BN a i][k:BN b j](hi:i<=1000000000:=by decide)(hj:j<=1000000000:=by decide):PF GB prog 302 [dN a,dN b] (dN (a*b)):=fun G vs _ hv=>by
 obtain⟨x,y,rfl,hx,hy⟩:=ud hv;have:=jB (a:=a) hi;have:=jB (a:=b) hj;refine(Qu (kk:=i+j) hx hy (by rw[bz,bz];exact k8 h.h k.h) (by omega) (by omega)).mono fun v G' _ h=>?_;obtain⟨z,rfl,h⟩:=h;rw[bz,bz] at h;exact h.is
def KJ[h:BN a i][k:BN b j](hb:0<b)(hi:i<=1000000000:=by decide)(hj:j<=1000000000:=by decide):PF GB prog 313 [dN a,dN b] (.tp [dN (a/b),dN (a%b),vB true]):=fun G vs _ hv=>by
 obtain⟨x,y,rfl,hx,hy⟩:=ud hv;have:=jB (a:=a) hi;have:=jB (a:=b) hj;refine(Dm (k1:=i) (k2:=j) hx hy (by rw[bz];exact hb) (by rw[bz,bz];exact eJ (iL _ _) h.h) (by rw[bz,bz];exact nM (cV _ hb) k.h) (by omega) (by omega)).mono fun v G' _ h=>?_;obtain⟨z,r,rfl,h,h'⟩:=h;rw[bz,bz] at h h';exact kH.2 ⟨_,J, .cons h.is (.cons h'.is (.cons (bc.2 J) .nil))⟩
def Db[h:BN a i][k:BN b j](hi:i<=1000000000:=by decide)(hj:j<=1000000000:=by decide):PF GB prog 312 [dN a,dN b] (dN (Nat.gcd a b)):=fun G vs _ hv=>by
 obtain⟨x,y,rfl,hx,hy⟩:=ud hv;have:=jB (a:=a) hi;have:=jB (a:=b) hj;have e: ∀k',k'<=i+j->(2:Nat)^k'<=2^(i+j):=fun k' h=>aM (by decide) h;have:=e i (by omega);have:=e j (by omega);have:=h.h;have:=k.h;refine(Mx (k:=i+j) (k0:=i+j) hx hy (by rw[bz];omega) (by rw[bz];omega) (by omega) (by rw[bz,bz];exact CQ h.h k.h) (by omega) (by omega)).mono fun v G' _ h=>?_;obtain⟨z,rfl,h⟩:=h;rw[bz,bz] at h;exact h.is
end
section
variable {GB:Gh} {C:aA} {n:Nat} {Q0:Exit->Act->World->Prop} {fr fr' fr1 fr2:ao} {own own' own1 own2:aB} {cf cf' cf1 cf2:Cf} {vc vc1 vc2:List Prop}
def ig{fb:Func}{e:Exit}{ds:List DV}{rv:DV}(hr:lP tt fr own fb.results.toList=some ds)(hd: ∀G y,Is G (kC ds) y->Is G rv y)(he:ue e=true:=by rfl):ak prog GB C n (en C prog fb (gA C (fun v G'=>Is G' rv v))) fr own (.ex e []):=by
 refine⟨fun ρ G ov a w r=>?_⟩;obtain⟨vs,h1,h2⟩:=uP r hr;have hk:Is G rv (eE vs):=hd _ _ (uw h2)
 cases e with
 |ret=>exact zD (C:=C) (n:=n) (fr:=b9 a) (own:=ov) (G:=G) (K:=fun v G'=>Is G' rv v) h1 hk a w ⟨r.h,r.sz,co a,r.df⟩
 |normal=>exact AJ (C:=C) (n:=n) (fr:=b9 a) (own:=ov) (G:=G) (K:=fun v G'=>Is G' rv v) h1 hk a w ⟨r.h,r.sz,co a,r.df⟩
 |_=>cases he
def IY(fr:ao)(cf:Cf):Option (Int×IntKind):=match bw fr cf with
 |some ⟨_, .convert t t' x,_,_,_,_⟩=>match cd tt t,cd tt t',aC (ba fr cf) x with
  |some ⟨.int k,_,_,_⟩,some ⟨.int k',_,_,_⟩,some (.d (.v (.int j p)))=>bif kq k j then some (p,k') else none
  |_,_,_=>none
 |_=>none
def cu[fu:Fu]{p:Int}{k':IntKind}(u:Int)(h:IY fr cf=some (p,k'))(e:k'.wrap p=u)(hgo:bG tt n fu.n fr own cf (.d (.v (.int k' u))) [] []=⟨vc,fr',own',cf'⟩)(k:ak prog GB C n Q0 fr' own' cf')
  (hv:ah vc:=by first|exact trivial|(simp only[ah];kernel_rfl)|(simp only[ah];omega)):ak prog GB C n Q0 fr own cf:=by
 unfold IY at h;split at h<;>try (cases h;done)
 rename_i hh;split at h<;>try (cases h;done)
 rename_i k0 _ _ _ k1 _ _ _ j p0 hT hT' hx
 cases hk:kq k0 j with
 |false=>rw[hk] at h;cases h
 |true=>
  rw[hk,cond_true] at h;cases h;cases vX hk;have:=sK (dG _ _ hT) J;have:=sK (dG _ _ hT') J;subst e;refine us hh (.x1 hx fun ρ G ov a w y _ r h1 h2=>?_) hgo hv k;rw[cj] at h2;subst h2;exact⟨_,cj.2 J,vU h1⟩
def I2(fr:ao)(cf:Cf):Option (Int×IntKind):=match bw fr cf with
 |some ⟨_, .unOp .neg _ x,_,_,_,_⟩=>match aC (ba fr cf) x with
  |some (.d (.v (.int j p)))=>some (p,j)
  |_=>none
 |_=>none
def nu[fu:Fu]{p:Int}{k':IntKind}(u:Int)(h:I2 fr cf=some (p,k'))(e:k'.wrap (0-p)=u)(hgo:bG tt n fu.n fr own cf (.d (.v (.int k' u))) [] []=⟨vc,fr',own',cf'⟩)(k:ak prog GB C n Q0 fr' own' cf')
  (hv:ah vc:=by first|exact trivial|(simp only[ah];kernel_rfl)|(simp only[ah];omega)):ak prog GB C n Q0 fr own cf:=by
 unfold I2 at h;split at h<;>try (cases h;done)
 rename_i hh;split at h<;>cases h;rename_i hx;subst e;exact us hh (.x1 hx fun ρ G ov a w y _ r h1 h2=>by
  rw[cj] at h2;subst h2;exact⟨_,cj.2 J,Cx h1⟩) hgo hv k
end
def AY{x:Nat}:bl x=0↔x=0:=by
 have:= @kv x 0;simp at this;omega
def vk{a:Nat}:0<(dg a).length↔0<a:=by
 have:= @qn a;omega
def eS(neg:Bool)(a:Nat):DV:= .ag [.v (.bool neg),dN a]
def xl(neg:Bool)(a:Nat):eI (zv neg a)= .ag [.v (.bool (neg&&decide (0<a))),dN a]:=by unfold eI;rw[mj,KB]
def Oe{n:Bool}{u:Nat}{b:Int}(h:n≠decide (b<0))(hle:b.natAbs<=u):zv n (u-b.natAbs)=zv n u+b:=by cases n<;>simp[zv] at* <;>omega
def M5{n:Bool}{u:Nat}{b:Int}(h:n≠decide (b<0))(hle:u<=b.natAbs):zv (decide (b<0)) (b.natAbs-u)=zv n u+b:=by cases n<;>simp[zv] at* <;>(try rw[if_pos h])<;>(try rw[if_neg (by omega)])<;>omega
def LJ{neg:Bool}{ds:List Nat}(hd:aO ds)(hl:ds.length<=1125899906842624):PF GB prog 269 [.ag [.v (.bool neg),d7 ds]] (vB (decide (c8 ds/\(neg=true->0<ds.length)))):=by
 refine fn func269 J J ntmps269 J J (fun C=>?_);refine cl J (Hd hd hl) J<|?_;refine csd 6 J J J (fun hg6=>?_) (fun hg6=>?_)
 .
  refine kB 10 J J J (fun hg10=>?_) (fun hg10=>?_)
  .
   exact rz J (by unfold vB;congr 2;simp_all [kC])
  .
   exact rz J (by unfold vB;congr 2;simp_all [kC])
 .
  exact rz J (by unfold vB;congr 2;simp_all [kC])
def GQ{n:Bool}{a i:Nat}[h:BN a i](hi:i<=1000000000:=by decide):PF GB prog 311 [eS n a] (vI (zv n a).sign):=by
 refine fn func311 J J ntmps311 J J (fun C=>?_);refine cl J (o4 (a:=a) hi) J<|?_;refine br J J J (fun hc3=>?_) (fun hc3=>?_)
 .
  exact rz J (by have:=AY.1 (Int.ofNat.inj hc3);subst this;cases n<;>rfl)
 .
  refine bb J J J (fun hc8=>?_) (fun hc8=>?_)
  .
   exact rz J (by subst hc8;rw[cM (by have:a≠0:=(fun e=>hc3 (by rw[e];rfl));simp[zv];omega)];rfl)
  .
   exact rz J (by subst hc8;rw[eK (by have:a≠0:=(fun e=>hc3 (by rw[e];rfl));simp[zv];omega)];rfl)
def A3{m:Int}(h0: -9223372036854775808<=m)(h1:m<=9223372036854775807):PF GB prog 289 [vI m] (eI m):=by
 refine fn (fu:=⟨8⟩) func289 J J ntmps289 J J (fun C=>?_);refine cu ((m%18446744073709551616:Int)) J (kj _) J<|?_;refine br (fu1:=⟨2⟩) (fu2:=⟨0⟩) J J J (fun hc7=>?_) (fun hc7=>?_)
 .
  refine nu ((m.natAbs:Nat)) J (by rw[kj];omega) J<|cl J (B8 (a:=m.natAbs) (by omega)) J<|?_;exact rz J J
 .
  refine aj 3 (.d (.v (.int .u64 (m.natAbs:Nat)))) J (by congr 3;omega) ?_;refine gx J<|cl J (B8 (a:=m.natAbs) (by omega)) J<|?_;exact rz J J
def EL{n:Bool}{a:Nat}(h:a<4611686018427387904):PF GB prog 314 [eS n a] (.tp [vI (zv n a),vB true]):=by
 refine fn func314 J J ntmps314 J J (fun C=>?_);refine cl (fu:=⟨2⟩) J (yY (a:=a) (by omega)) J<|iB J J J<|?_;refine kB 18 J J J (fun hg18=>?_) (fun hg18=>?_)
 .
  refine br (fu1:=⟨3⟩) J J J (fun hc12=>?_) (fun hc12=>?_)
  .
   refine nu (fu:=⟨0⟩) (((18446744073709551616-a)%18446744073709551616:Int)) J (by rw[kj];omega) J<|cu (zv n a) J (by subst hg18;rw[yx];simp only[zv,if_true];omega) J<|?_;exact rz J J
  .
   exact absurd (by omega) hc12
 .
  refine kB 32 J J J (fun hg32=>?_) (fun hg32=>?_)
  .
   refine br J J J (fun hc25=>?_) (fun hc25=>?_)
   .
    exact rz J (by subst hg18;rfl)
   .
    exact absurd (by omega) hc25
  .
   subst hg18;cases hg32
def sk{neg:Bool}{a i:Nat}[h:BN a i](hi:i<=1000000000:=by decide):PF GB prog 307 [eS neg a] (eI (zv neg a)):=by
 refine fn func307 J J ntmps307 J J (fun C=>?_);refine cl J (tc hi) J<|?_;refine kB 9 J J J (fun hg9=>?_) (fun hg9=>?_)
 .
  exact rz J (by rw[xl];simp[hg9,vk,kC])
 .
  exact rz J (by rw[xl];simp[hg9,vk,kC])
def vV{neg:Bool}{a:Nat}:PF GB prog 360 [.v (.bool neg),dN a] (eI (zv neg a)):=by
 refine fn func360 J J ntmps360 J J (fun C=>?_);refine kB 6 J J J (fun hg6=>?_) (fun hg6=>?_)
 .
  exact rz J (by rw[xl];simp[hg6,vk,kC])
 .
  exact rz J (by rw[xl];simp[hg6,vk,kC])
def My{m:Int}{i:Nat}[h:BI m i](hi:i<=1000000000:=by decide):PF GB prog 339 [eI m] (eI (-m)):=by
 refine fn func339 J J ntmps339 J J (fun C=>?_);refine cl J (sk (neg:=!decide (m<0)) (a:=m.natAbs) hi) J<|?_;exact rz J (by rw[Q5,jm];rfl)
def A0{a b:Int}{i j:Nat}[h:BI a i][k:BI b j](hi:i<=1000000000:=by decide)(hj:j<=1000000000:=by decide):PF GB prog 301 [eI a,eI b] (eI (a*b)):=by
 refine fn func301 J J ntmps301 J J (fun C=>?_);refine cl J (r8 (a:=a.natAbs) (b:=b.natAbs) hi hj) J<|cl J vV J<|?_;exact rz J (by rw[show(!(decide (a<0)==decide (b<0)))=(decide (a<0) !=decide (b<0)) from J,EH,jm,jm];rfl)
def Ty{n1:Bool}{u:Nat}{b:Int}{i j:Nat}[h:BN u i][k:BI b j](hi:i<=1000000000:=by decide)(hj:j<=1000000000:=by decide):PF GB prog 303 [eS n1 u,eI b] (eI (zv n1 u+b)):=by
 refine fn func303 J J ntmps303 J J (fun C=>?_);refine bb J J J (fun hc13=>?_) (fun hc13=>?_)
 .
  refine cl J (O8 (b:=b.natAbs) hi hj) J<|cl J vV J<|?_;exact rz J (by rw[UK,show n1=decide (b<0) from by simpa using hc13,jm];rfl)
 .
  refine cl J (H2 (b:=b.natAbs) hi hj) J<|?_;refine bd J J J (fun hc30=>?_) (fun hc30=>?_)
  .
   refine cl J vV J<|?_;exact rz J (by rw[Oe (by simpa using hc13) hc30];rfl)
  .
   refine cl J (H2 (a:=b.natAbs) hj hi) J<|cl J vV J<|?_;exact rz J (by rw[M5 (by simpa using hc13) (by omega)];rfl)
def Oh{a b:Int}{i j:Nat}[h:BI a i][k:BI b j](hi:i<=1000000000:=by decide)(hj:j<=1000000000:=by decide):PF GB prog 303 [eI a,eI b] (eI (a+b)):=(Ty (n1:=decide (a<0)) (u:=a.natAbs) hi hj).to (by rw[jm])
def d5(q:Rat):Prop:= ¬(q.num.natAbs<4611686018427387904/\q.den<4611686018427387904)
instance (q:Rat):Decidable (d5 q):=inferInstanceAs (Decidable (¬_))
def di(q:Rat):Int:=if d5 q then 0 else q.num
def c7(q:Rat):Int:=if d5 q then 0 else(q.den:Int)-1
def cH(q:Rat):DV:= .op (decide (d5 q)) [.v (.bool (decide (q.num<0))),dN q.num.natAbs,dN q.den]
def eF(q:Rat):DV:= .ag [vI (di q),vI (c7 q),cH q]
abbrev Pd {q:Rat} (h:decide (d5 q)=true):d5 q:=of_decide_eq_true h
abbrev oq {q:Rat} (h:decide (d5 q)=false): ¬d5 q:=of_decide_eq_false h
abbrev Nr {q:Rat} (h: ¬decide (d5 q)=false):d5 q:=by simpa using h
abbrev kx {q:Rat} (h: ¬decide (d5 q)=true): ¬d5 q:=by simpa using h
def jH{q:Rat}(h: ¬d5 q):di q=q.num:=if_neg h
def lg{q:Rat}(h: ¬d5 q):c7 q=(q.den:Int)-1:=if_neg h
def l7{q:Rat}(h: ¬d5 q):q.num.natAbs<4611686018427387904:=(Decidable.not_not.1 h).1
def lI{q:Rat}(h: ¬d5 q):q.den<4611686018427387904:=(Decidable.not_not.1 h).2
def FZ{q:Rat}(h:d5 q):q≠0:=fun e=>by subst e;exact h ⟨by decide,by decide⟩
def oO{q:Rat}{m d:Int}{r:DV}(h: ¬d5 q)(h1:q.num=m)(h2:(q.den:Int)-1=d)(e:r= .ag [vI m,vI d, .v (.pointer none)])(G:Gh)(y:Value)(k:Is G r y):Is G (eF q) y:=by
 subst e h1 h2;obtain⟨l,rfl,g⟩:=ef.1 k;obtain⟨y1,l1,rfl,k1,g1⟩:=bD.1 g;obtain⟨y2,l2,rfl,k2,g2⟩:=bD.1 g1;obtain⟨y3,l3,rfl,k3,g3⟩:=bD.1 g2;exact ef.2 ⟨_,J, .cons (by rw[jH h];exact k1) (.cons (by rw[lg h];exact k2) (.cons (rB.2 (.inl ⟨decide_eq_false h,bc.1 k3⟩)) g3))⟩
def Iq{q:Rat}{n:Bool}{a d:Nat}{r:DV}(h:d5 q)(h1:decide (q.num<0)=n)(h2:q.num.natAbs=a)(h3:q.den=d)(e:r= .ag [vI 0,vI 0, .pt [.v (.bool n),dN a,dN d]])(G:Gh)(y:Value)(k:Is G r y):Is G (eF q) y:=by
 subst e h1 h2 h3;obtain⟨l,rfl,g⟩:=ef.1 k;obtain⟨y1,l1,rfl,k1,g1⟩:=bD.1 g;obtain⟨y2,l2,rfl,k2,g2⟩:=bD.1 g1;obtain⟨y3,l3,rfl,k3,g3⟩:=bD.1 g2;exact ef.2 ⟨_,J, .cons (by unfold di;rw[if_pos h];exact k1) (.cons (by unfold c7;rw[if_pos h];exact k2) (.cons (rB.2 (.inr ⟨decide_eq_true h,k3⟩)) g3))⟩
def sI(G:Gh)(y:Value)(k:Is G (.ag [vI 0,vI 0, .v (.pointer none)]) y):Is G (eF 0) y:=oO (fun h=>FZ h J) J J J G y k
def Fy{m:Int}(h:m.natAbs<4611686018427387904)(G:Gh)(y:Value)(k:Is G (.ag [vI m,vI 0, .v (.pointer none)]) y):Is G (eF (m:Rat)) y:=
 oO (fun k=>k ⟨by simpa using h,by rw[oT];decide⟩) (oU m) (by rw[oT];rfl) J G y k
def Fd{n:Bool}{a d:Nat}(hd:0<d):(mkRat (zv n a) d).num=zv n (a/Nat.gcd a d)/\(mkRat (zv n a) d).den=d/Nat.gcd a d:=by
 obtain⟨h1,h2⟩:=Ec (m:=zv n a) hd;rw[mj] at h1 h2;exact⟨by rw[h1,Uc (iY _ _)],h2⟩
def DK{n:Bool}{a d a' d':Nat}(hd:0<d)(ha:a'=a/Nat.gcd a d)(hd':d'=d/Nat.gcd a d)(h1:a'<4611686018427387904)(h2:d'<4611686018427387904)(G:Gh)(y:Value)(k:Is G (.ag [vI (zv n a'),vI ((d':Int)-1), .v (.pointer none)]) y):Is G (eF (mkRat (zv n a) d)) y:=by
 obtain⟨e1,e2⟩:=Fd (n:=n) (a:=a) hd;rw[<-ha] at e1;rw[<-hd'] at e2;exact oO (fun k=>k ⟨by rw[e1,mj];exact h1,by rw[e2];exact h2⟩) e1 (by rw[e2]) J G y k
def xk{n:Bool}{a d a' d':Nat}(hd:0<d)(ha:a'=a/Nat.gcd a d)(hd':d'=d/Nat.gcd a d)(h: ¬(a'<4611686018427387904/\d'<4611686018427387904))(G:Gh)(y:Value)(k:Is G (.ag [vI 0,vI 0, .pt [.v (.bool (decide (zv n a'<0))),dN (zv n a').natAbs,dN d']]) y):Is G (eF (mkRat (zv n a) d)) y:=by
 obtain⟨e1,e2⟩:=Fd (n:=n) (a:=a) hd;rw[<-ha] at e1;rw[<-hd'] at e2;exact Iq (fun k=>h ⟨by rw[e1,mj] at k;exact k.1,by rw[e2] at k;exact k.2⟩) (by rw[e1]) (by rw[e1]) e2 J G y k
def QR{a d:Nat}(hd:0<d)(h: ¬(1:Int)<(bl (Nat.gcd a d):Nat)):Nat.gcd a d=1:=by
 have h1:Nat.gcd a d≠0:=fun e=>by rw[Nat.gcd_eq_zero_iff] at e;omega
 have h2:Nat.gcd a d<2^1:=kv.1 (by omega);omega
def kn{x:Nat}:(((bl x:Nat):Int)<=62)↔x<4611686018427387904:=Lg
def PF.ofI{P:Program}{f:FuncId}{ds ds':List DV}{r:DV}(h:PF GB P f ds r)(k: ∀G vs,IsLs G ds' vs->IsLs G ds vs):PF GB P f ds' r:=fun G vs hg hv=>h G vs hg (k G vs hv)
def qB{n:Bool}{a d i j:Nat}[h:BN a i][k:BN d j](hi:i<=450000000:=by decide)(hj:j<=450000000:=by decide):PF GB prog 218 [eS n a,dN d] (eF (mkRat (zv n a) d)):=by
 refine fn func218 J J ntmps218 J J (fun C=>?_);refine cl J (o4 (a:=d) (by omega)) J<|?_;refine cs 13 J J J (fun hg13=>?_) (fun hg13=>?_)
 .
  exact ig rfl (by obtain rfl:=AY.1 (Int.ofNat.inj hg13);rw[Rat.mkRat_zero];exact sI)
 .
  have hd0:0<d:=by have:= @AY d;omega
  have hg0:0<Nat.gcd a d:=mZ _ hd0;refine cl J (GQ (n:=n) (a:=a) (by omega)) J<|?_;refine br J J J (fun hc17=>?_) (fun hc17=>?_)
  .
   exact ig J (by rw[gJ.1 hc17,Rat.zero_mkRat];exact sI)
  .
   refine cl J (Db (a:=a) (b:=d) (by omega) (by omega)) J<|cl J (o4 (a:=Nat.gcd a d) (i:=i+j) (by omega)) J<|?_;refine br J J J (fun hc25=>?_) (fun hc25=>?_)
   .
    obtain⟨a',ea⟩: ∃a',a'=a/Nat.gcd a d:=⟨_,rfl⟩;obtain⟨d',ed⟩: ∃d',d'=d/Nat.gcd a d:=⟨_,rfl⟩;have hba:BN a' i:=ea▸inferInstance;have hbd:BN d' j:=ed▸inferInstance;refine cl (fu:=⟨2⟩) J (KJ (a:=a) (b:=Nat.gcd a d) (j:=i+j) hg0 (by omega) (by omega)) J<|?_;refine aj 31 (.d (dN a')) J (by rw[ea]) ?_;refine gx J<|cl (fu:=⟨2⟩) J (KJ (a:=d) (b:=Nat.gcd a d) (j:=i+j) hg0 (by omega) (by omega)) J<|?_;refine aj 39 (.d (dN d')) J (by rw[ed]) ?_;refine gx J<|cl J (o4 (h:=hba) (by omega)) J<|?_;refine cs 46 J J J (fun hg46=>?_) (fun hg46=>?_)
    .
     refine cl J (o4 (h:=hbd) (by omega)) J<|?_;refine br J J J (fun hc50=>?_) (fun hc50=>?_)
     .
      have hs2:=kn.1 hc50;refine cl J (EL (kn.1 hg46)) J<|cl J (yY (by have:=kn.1 hc50;omega)) J<|?_;exact ig J (DK hd0 ea ed (kn.1 hg46) (kn.1 hc50))
     .
      refine cl J (sk (neg:=n) (h:=hba) (by omega)) J<|cl J (tc (h:=hbd) (by omega)) J<|fz 71 J J<|?_;exact ig J (xk hd0 ea ed (fun e=>hc50 (kn.2 e.2)))
    .
     refine cl J (sk (neg:=n) (h:=hba) (by omega)) J<|cl J (tc (h:=hbd) (by omega)) J<|fz 71 J J<|?_;exact ig J (xk hd0 ea ed (fun e=>hg46 (kn.2 e.1)))
   .
    have hg1:=QR hd0 hc25;have ea:a=a/Nat.gcd a d:=by rw[hg1,qM]
    have ed:d=d/Nat.gcd a d:=by rw[hg1,qM]
    have hba:=h;have hbd:=k;refine cl J (o4 (h:=hba) (by omega)) J<|?_;refine cs 46 J J J (fun hg46=>?_) (fun hg46=>?_)
    .
     refine cl J (o4 (h:=hbd) (by omega)) J<|?_;refine br J J J (fun hc50=>?_) (fun hc50=>?_)
     .
      have hs2:=kn.1 hc50;refine cl J (EL (kn.1 hg46)) J<|cl J (yY (by have:=kn.1 hc50;omega)) J<|?_;exact ig J (DK hd0 ea ed (kn.1 hg46) (kn.1 hc50))
     .
      refine cl J (sk (neg:=n) (h:=hba) (by omega)) J<|cl J (tc (h:=hbd) (by omega)) J<|fz 71 J J<|?_;exact ig J (xk hd0 ea ed (fun e=>hc50 (kn.2 e.2)))
    .
     refine cl J (sk (neg:=n) (h:=hba) (by omega)) J<|cl J (tc (h:=hbd) (by omega)) J<|fz 71 J J<|?_;exact ig J (xk hd0 ea ed (fun e=>hg46 (kn.2 e.1)))
def yk{q:Rat}:PF GB prog 271 [eF q] (vB (decide (q=0))):=by
 refine fn func271 J J ntmps271 J J (fun C=>?_);refine cs 6 J J J (fun hg6=>?_) (fun hg6=>?_)
 .
  exact rz J (by rw[jH (oq hg6)];show DV.v (.bool (decide _))= .v (.bool _);congr 2;exact decide_eq_decide.2 ⟨fun e=>kU.1 e,fun e=>by rw[e];rfl⟩)
 .
  exact rz J (by rw[decide_eq_false (FZ (Nr hg6))];rfl)
def uH{m:Int}(h:m.natAbs<9223372036854775808):PF GB prog 350 [vI m] (.v (.int .u64 (m.natAbs:Nat))):=by
 refine fn func350 J J ntmps350 J J (fun C=>?_);refine br J J J (fun hc4=>?_) (fun hc4=>?_)
 .
  exact rz J (by show DV.v (.int _ _)=_;congr 2;omega)
 .
  exact rz J (by show DV.v (.int _ _)=_;congr 2;omega)
def lH{q:Rat}{i:Nat}[h:BQ q i](hi:i<=900000000:=by decide):PF GB prog 216 [eF q] (dN q.den):=by
 refine fn func216 J J ntmps216 J J (fun C=>?_);refine br (v1:=fun hc5=>by simp only[ah];exact hc5) (fu2:=⟨6⟩) J J J (fun hc5=>?_) (fun hc5=>?_)
 .
  refine cl J (tc (a:=q.den) (by omega)) J<|?_;exact rz J J
 .
  have hd:=q.den_nz;have hs:=lI (kx hc5);refine aj 13 (.d (vI ((q.den:Int)-1))) J (by rw[lg (kx hc5)]) ?_;refine gx (fu:=⟨2⟩) J<|?_;refine aj 15 (.d (.v (.int .u64 (q.den:Nat)))) J (by congr 3;omega) ?_;refine gx J<|cl J (B8 (a:=q.den) (by omega)) J<|?_;exact rz J J
def mP{q:Rat}{i:Nat}[h:BQ q i](hi:i<=900000000:=by decide):PF GB prog 215 [eF q] (eI q.num):=by
 refine fn func215 J J ntmps215 J J (fun C=>?_);refine br (v1:=fun hc5=>by simp only[ah];exact hc5) (fu2:=⟨6⟩) J J J (fun hc5=>?_) (fun hc5=>?_)
 .
  refine cl J (sk (neg:=decide (q.num<0)) (a:=q.num.natAbs) (by omega)) J<|?_;exact rz J (by rw[jm];rfl)
 .
  have hs:=l7 (kx hc5);refine aj 13 (.d (vI q.num)) J (by rw[jH (kx hc5)]) ?_;refine gx J<|cl J (A3 (by omega) (by omega)) J<|?_;exact rz J J
def lO{q:Rat}{i:Nat}[h:BQ q i](hi:i<=900000000:=by decide):PF GB prog 245 [eF q] (eF (-q)):=by
 refine fn func245 J J ntmps245 J J (fun C=>?_);refine br (v1:=fun hc5=>by simp only[ah];exact hc5) (fu2:=⟨6⟩) J J J (fun hc5=>?_) (fun hc5=>?_)
 .
  refine cl (fu:=⟨6⟩) (hv:=by simp only[ah];exact hc5) J (My (m:=q.num) (by omega)) J<|UY J J<|?_;exact ig J (Iq (q:= -q) (fun k=>Pd hc5 (by rw[kN,gW,nU] at k;exact k)) (by rw[kN]) (by rw[kN]) (nU q) J)
 .
  have hs:=l7 (kx hc5);refine aj 21 (.d (vI q.num)) J (by rw[jH (kx hc5)]) ?_;refine gx J<|?_;exact ig J (oO (q:= -q) (fun k=>k (by rw[kN,gW,nU];exact⟨hs,lI (kx hc5)⟩)) (by rw[kN]) (by rw[nU,lg (kx hc5)]) J)
def jj{q:Rat}{i:Nat}[h:BQ q i](hi:i<=900000000:=by decide):PF GB prog 228 [eF q] (vI q.num.sign):=by
 refine fn func228 J J ntmps228 J J (fun C=>?_);refine br (v1:=fun hc3=>by simp only[ah];exact hc3) J J J (fun hc3=>?_) (fun hc3=>?_)
 .
  refine cl J (GQ (n:=decide (q.num<0)) (a:=q.num.natAbs) (by omega)) J<|?_;exact rz J (by rw[jm];rfl)
 .
  have hs:=jH (kx hc3);refine br J J J (fun hc13=>?_) (fun hc13=>?_)
  .
   exact rz J (by rw[cM (by omega)];rfl)
  .
   refine br J J J (fun hc17=>?_) (fun hc17=>?_)
   .
    exact rz J (by rw[eK (by omega)];rfl)
   .
    exact rz J (by rw[show q.num=0 by omega];rfl)
end Go.Sx
end
