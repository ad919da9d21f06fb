import Derived.Test.YtpiknjeceobbfaaGreatDoorMy9
set_option linter.all false
set_option maxHeartbeats 2000000
set_option maxRecDepth 100000
section
namespace Go.Sx
open Go
def dU(d:Nat):DV:= .v (.int .u32 (d:Int))
def eG(ds:List Nat):DV:= .sl (ds.map dU)
def dN(n:Nat):DV:= .sl ((dg n).map dU)
def dD(n:Nat):DV:= .sl (if n=1 then [] else(dg n).map dU)
def eI(m:Int):DV:= .ag [.v (.bool (decide (m<0))),dN m.natAbs]
def eQ(q:Rat):DV:= .ag [.v (.bool (decide (q.num<0))),dN q.num.natAbs,dD q.den]
def eP(p:aa):DV:= .ag [.v (.bool (decide (p.x.num<0))),dN p.x.num.natAbs,dD p.x.den, .v (.bool (decide (p.y.num<0))),dN p.y.num.natAbs,dD p.y.den]
def eL(l:ab):DV:= .ag [.v (.bool (decide (l.a<0))),dN l.a.natAbs, .v (.bool (decide (l.b<0))),dN l.b.natAbs, .v (.bool (decide (l.c<0))),dN l.c.natAbs]
def eR(q:Rat):DV:= .ag [.v (.bool (decide (q.num<0))),dN q.num.natAbs,dN q.den]
def i9(p:aa):DV:= .ag [.v (.bool (decide (p.x.num<0))),dN p.x.num.natAbs,dN p.x.den, .v (.bool (decide (p.y.num<0))),dN p.y.num.natAbs,dN p.y.den]
def vI(n:Int):DV:= .v (.int .i64 n)
def vB(b:Bool):DV:= .v (.bool b)
def Hu(n:Nat):dN n=eG (dg n):=rfl
def Zb{ds:List Nat}(h:bg ds):eG (trimD ds)=dN (dv ds):=by unfold eG dN;rw[nn h]
def Yf{ds:List Nat}{i:Nat}(h:i<ds.length):(ds.map dU)[i]? =some (dU (ds.getD i 0)):=by
 rw[fS,aZ h,aX,aZ h];rfl
def mO{ds:List Nat}{i:Nat}(h:i<ds.length):(ds.map dU)[(i:Int).toNat]? =some (dU (ds.getD i 0)):=by rw[bW];exact Yf h
def sF(ds:List Nat)(i d:Nat):(ds.map dU).set i (.v (.int .u32 (d:Int)))=(ds.set i d).map dU:=by rw[qT];rfl
def uT(n:Nat):List.replicate n (DV.v (.int .u32 0))=(List.replicate n 0).map dU:=by rw[List.map_replicate];rfl
def tH(ds:List Nat):dG 1 (ds.map dU):=fun d hd=>by
 obtain⟨n,_,rfl⟩:=bZ.1 hd;exact⟨rfl,rfl⟩
def f5(n:Nat)(i:Nat):(dg n).getD i 0<4294967296:=(d8 n).2.1.get i
def xj:dg 0=[]:=by rw[dg,dif_pos J]
def Bh:dg 1=[1]:=by rw[dg,dif_neg (by decide)];simp[xj]
def tO{n:Nat}:(dg n).length=0↔n=0:=by
 constructor
 ·intro h
  have:=(d8 n).1;rw[cV h] at this;exact this.symm
 ·rintro rfl;rw[xj];rfl
def Ft:dN 0= .sl []:=by unfold dN;rw[xj];rfl
def A7{G:Gh}: ∀{ds:List Nat} {es:List Value},IsLs G (ds.map dU) es↔es=ds.map dI
 |[],es=>cH
 |d::t,es=>by
  rw[cM,b7];constructor
  ·rintro ⟨y,n,rfl,h1,h2⟩
   rw[bi.1 h1,A7.1 h2];rfl
  ·rintro rfl
   exact⟨_,_,J,bi.2 J,A7.2 J⟩
def Pr{G:Gh}{ds:List Nat}{v:Value}:Is G (eG ds) v↔ ∃x:SV,v= .slice x.a x.n x.c/\ey G 1 x (ds.map dI):=by
 unfold eG;rw[jm];constructor
 ·rintro ⟨s,x,es,rfl,h1,h2⟩
  have:=A7.1 h2;subst this;refine⟨x,J,?_⟩;rcases CX (s:=1) h1 h2 (tH ds) with h|h
  ·rw[h] at h1⊢
   exact⟨h1.len,h1.cap, .inl J⟩
  ·subst h;exact h1
 ·rintro ⟨x,rfl,h⟩
  exact⟨1,x,_,J,h,A7.2 J⟩
def Ws{G:Gh}{n k:Nat}{v:Value}(hk:n<2^k):Is G (dN n) v↔ ∃x:SV,v= .slice x.a x.n x.c/\e7 k G x n:=by
 rw[Hu,Pr];constructor
 ·rintro ⟨x,rfl,h⟩
  exact⟨x,J,⟨(d8 n).2.1,h⟩,hk⟩
 ·rintro ⟨x,rfl,h⟩
  exact⟨x,J,h.d.sl⟩
def fB{ds:List Nat}{i:Int}{k:Nat}(hi:i=k)(h:k<ds.length):(ds.map dU)[i.toNat]? =some (dU (ds.getD k 0)):=by subst hi;exact mO h
class BN (n:Nat) (k:outParam Nat):Prop where h:n<2^k
class BI (m:Int) (k:outParam Nat):Prop where h:m.natAbs<2^k
class BQ (q:Rat) (k:outParam Nat):Prop where
 hn:q.num.natAbs<2^k
 hd:q.den<2^k
theorem BN.mono{n k k':Nat}(h:BN n k)(hk:k<=k'):BN n k':=⟨dV h.h (bK (by decide) hk)⟩
def nj{a b i j:Nat}(h:a<2^i)(k:b<2^j):a*b<2^(i+j):=by rw[fJ];exact mZ h k
def Bt{a b i j:Nat}(h:a<2^i)(k:b<2^j):a+b<2^(i+j+1):=by
 have h1:2^i<=2^(i+j):=bK (by decide) (by omega);have h2:2^j<=2^(i+j):=bK (by decide) (by omega);rw[fT];omega
instance BN.mul (a b i j:Nat) [h:BN a i] [k:BN b j]:BN (a*b) (i+j):=⟨nj h.h k.h⟩
instance BN.add (a b i j:Nat) [h:BN a i] [k:BN b j]:BN (a+b) (i+j+1):=⟨Bt h.h k.h⟩
instance BN.sub (a b i:Nat) [h:BN a i]:BN (a-b) i:=⟨by have:=h.h;omega⟩
instance BN.div (a b i:Nat) [h:BN a i]:BN (a/b) i:=⟨dL (iR _ _) h.h⟩
instance BN.abs (m:Int) (i:Nat) [h:BI m i]:BN m.natAbs i:=⟨h.h⟩
instance BN.den (q:Rat) (i:Nat) [h:BQ q i]:BN q.den i:=⟨h.hd⟩
def GA{a b i j:Nat}(h:a<2^i)(k:b<2^j):Nat.gcd a b<2^(i+j):=by
 have h1:2^i<=2^(i+j):=bK (by decide) (by omega);have h2:2^j<=2^(i+j):=bK (by decide) (by omega);rcases dS a with h0|h0
 ·subst h0;rw[Nat.gcd_zero_left];omega
 ·have:=rR b h0;omega
instance BN.gcd (a b i j:Nat) [h:BN a i] [k:BN b j]:BN (Nat.gcd a b) (i+j):=⟨GA h.h k.h⟩
instance BN.one:BN 1 1:=⟨by decide⟩
instance BN.zero:BN 0 0:=⟨by decide⟩
instance BI.mul (a b:Int) (i j:Nat) [h:BI a i] [k:BI b j]:BI (a*b) (i+j):=⟨by rw[iK];exact nj h.h k.h⟩
instance BI.add (a b:Int) (i j:Nat) [h:BI a i] [k:BI b j]:BI (a+b) (i+j+1):=⟨dL (Int.natAbs_add_le a b) (Bt h.h k.h)⟩
instance BI.sub (a b:Int) (i j:Nat) [h:BI a i] [k:BI b j]:BI (a-b) (i+j+1):=⟨dL (Int.natAbs_sub_le a b) (Bt h.h k.h)⟩
instance BI.neg (a:Int) (i:Nat) [h:BI a i]:BI (-a) i:=⟨by rw[iS];exact h.h⟩
instance BI.num (q:Rat) (i:Nat) [h:BQ q i]:BI q.num i:=⟨h.hn⟩
instance BI.nat (n:Nat) (i:Nat) [h:BN n i]:BI (n:Int) i:=⟨by rw[lX];exact h.h⟩
def lx(q:Rat):0<q.den:=fL q.den_nz
theorem uZ{m:Int}{d i:Nat}(hd:0<d)(h:m.natAbs<2^i)(k:d<2^i):BQ (mkRat m d) i:=by
 refine⟨?_,?_⟩
 ·rw[Rat.num_mkRat,if_neg (by omega)]
  have:=mY m (d.gcd m.natAbs:Nat);omega
 ·rw[Rat.den_mkRat,if_neg (by omega)]
  have:=iR d (d.gcd m.natAbs);omega
theorem BQ.mono{q:Rat}{k k':Nat}(h:BQ q k)(hk:k<=k'):BQ q k':=⟨dV h.hn (bK (by decide) hk),dV h.hd (bK (by decide) hk)⟩
def xa(p q:Rat):p*q=mkRat (p.num*q.num) (p.den*q.den):=by rw[Rat.mul_def,Rat.normalize_eq_mkRat]
def zr(p q:Rat):p+q=mkRat (p.num*q.den+q.num*p.den) (p.den*q.den):=by rw[Rat.add_def,Rat.normalize_eq_mkRat]
instance BQ.mul (p q:Rat) (i j:Nat) [h:BQ p i] [k:BQ q j]:BQ (p*q) (i+j):=by
 rw[xa];exact uZ (gN (lx p) (lx q)) (BI.mul p.num q.num i j).h (nj h.hd k.hd)
instance BQ.add (p q:Rat) (i j:Nat) [h:BQ p i] [k:BQ q j]:BQ (p+q) (i+j+1):=by
 rw[zr];refine uZ (gN (lx p) (lx q)) ?_ ?_
 ·have h1:=nj h.hn k.hd
  have h2:=nj k.hn h.hd;have h3:(p.num*q.den+q.num*p.den).natAbs<=(p.num*q.den).natAbs+(q.num*p.den).natAbs:=Int.natAbs_add_le ..;rw[iK,iK,lX,lX] at h3;rw[lL j i] at h2;rw[fT];omega
 ·have h1:=nj h.hd k.hd
  rw[fT];omega
instance BQ.neg (p:Rat) (i:Nat) [h:BQ p i]:BQ (-p) i:=⟨by rw[mQ,iS];exact h.hn,by rw[oS];exact h.hd⟩
instance BQ.sub (p q:Rat) (i j:Nat) [h:BQ p i] [k:BQ q j]:BQ (p-q) (i+j+1):=by
 rw[Rat.sub_eq_add_neg];exact BQ.add p (-q) i j
instance BQ.ofInt (m:Int) (i:Nat) [h:BI m i]:BQ (m:Rat) (i+1):=by
 refine⟨?_,?_⟩
 ·rw[oX];have:=h.h;rw[fT];omega
 ·rw[oJ];have:0<2^i:=fQ (by decide);rw[fT];omega
end Go.Sx
end
section
namespace Go.Sx
open Go Go.Proofs Tryz
variable {GB:Gh}
def BR(p q:Int):Nat:=(BitVec.ofInt 32 p &&& BitVec.ofInt 32 q).toNat
def Ds(p q:Int):Nat:=(BitVec.ofInt 32 p ||| BitVec.ofInt 32 q).toNat
def Af(p q:Int):Nat:=(BitVec.ofInt 32 p^^^BitVec.ofInt 32 q).toNat
def Ud{ds:List Nat}{n:Nat}(h:0<n/\n<=ds.length)(hz:ds.getD (n-1) 0=0):trimD (ds.take n)=trimD (ds.take (n-1)):=by
 obtain⟨m,rfl⟩: ∃m,n=m+1:=⟨n-1,by omega⟩;rw[gQ (by omega),lQ];rw[lQ,aX,aZ (by omega)] at hz;simp only[gK] at hz;rw[hz,I']
def atI{ds:List Nat}{n:Nat}(h:n<=ds.length)(hz:0<n->ds.getD (n-1) 0≠0):trimD (ds.take n)=ds.take n:=by
 rcases dS n with h0|h0
 ·subst h0;simp[trimD]
 ·obtain⟨m,rfl⟩: ∃m,n=m+1:=⟨n-1,by omega⟩
  have hz:=hz h0;rw[gQ (by omega)];rw[lQ,aX,aZ (by omega)] at hz;exact DU (by simpa using hz)
def Sd{x y c:Nat}(hx:x<4294967296)(hy:y<4294967296)(hc:c<=1):PF GB prog 219 [.v (.int .u32 (x:Int)), .v (.int .u32 (y:Int)), .v (.int .u32 (c:Int))] (.tp [.v (.int .u32 (((x+y+c)%4294967296:Nat):Int)), .v (.int .u32 (((x+y+c)/4294967296:Nat):Int))]):=by
 refine fn (hv:=by simp only[ah];exact⟨⟨⟨⟨⟨by omega,by omega⟩,by omega⟩,by omega⟩,by omega⟩,(by decide)⟩) func219 J J ntmps219 J J (fun C=>?_);exact rz J (by
  have e1:((x:Int)+y+c)%4294967296=(((x+y+c)%4294967296:Nat):Int):=by omega
  have e2:((x:Int)+y+c).fdiv (2^min (32:Int).toNat IntKind.u64.bits)%4294967296=(((x+y+c)/4294967296:Nat):Int):=by
   rw[show(2:Int)^min (32:Int).toNat IntKind.u64.bits=((4294967296:Nat):Int) from J,gU _ (by decide)];omega
  show DV.tp [.v (.int _ _), .v (.int _ _)]=_;rw[e1,e2])
def FT(n:Nat)(h:n<4294967296):(BitVec.ofInt 32 (n:Int)).msb=decide (2147483648<=n):=by
 rw[show BitVec.ofInt 32 (n:Int)=BitVec.ofNat 32 n from BitVec.ofInt_natCast ..];rw[BitVec.msb_eq_decide,BitVec.toNat_ofNat,dT (by simpa using h)]
def V3(b:BitVec 32):b.toNat/2147483648=if b.msb then 1 else 0:=by
 have:=b.isLt;rw[BitVec.msb_eq_decide];simp only[decide_eq_true_eq,Nat.reduceSub,Nat.reducePow] at*;split<;>omega
def XD(b:BitVec 32):BitVec.ofInt 32 (b.toNat:Int)=b:=by rw[BitVec.ofInt_natCast,BitVec.ofNat_toNat,BitVec.setWidth_eq]
def ZG{x y c:Nat}(hx:x<4294967296)(hy:y<4294967296)(hc:c<=1):
  ((Ds (BR (Af IntKind.u32.max x:Nat) y:Nat) (BR (Af IntKind.u32.max (Af x y:Nat):Nat) (IntKind.u32.wrap (IntKind.u32.wrap ((x:Int)-y)-c)):Nat):Nat):Int).fdiv (2^min (31:Int).toNat IntKind.u32.bits)=(((if x<y+c then 1 else 0):Nat):Int):=by
 rw[show((2:Int)^min (31:Int).toNat IntKind.u32.bits)=((2147483648:Nat):Int) from J,gU _ (by decide),<-pK];congr 1;have hd: ∃d:Nat,d<4294967296/\IntKind.u32.wrap (IntKind.u32.wrap ((x:Int)-y)-c)=(d:Int)/\((x>=y+c/\d=x-(y+c))\/(x<y+c/\d=x+4294967296-(y+c))):=by
  rw[pj,pj];refine⟨((((x:Int)-y)%4294967296-c)%4294967296).toNat,by omega,by omega,by omega⟩
 obtain⟨d,hd1,hd2,hd3⟩:=hd;rw[hd2];unfold Ds BR Af;simp only[XD];rw[V3];simp only[BitVec.msb_or,BitVec.msb_and,BitVec.msb_xor,FT x hx,FT y hy,FT d hd1];have h1:(BitVec.ofInt 32 IntKind.u32.max).msb=true:=by decide
 rw[h1];rcases gT x 2147483648 with a|a<;>rcases gT y 2147483648 with b|b<;>rcases gT d 2147483648 with e|e<;>
  simp[Nat.not_le.2, *]<;>(first|omega|(split<;>omega))
def ZQ{x y c:Nat}(hx:x<4294967296)(hy:y<4294967296)(hc:c<=1):IntKind.u32.wrap (IntKind.u32.wrap ((x:Int)-y)-c)=(((if x<y+c then x+4294967296-(y+c) else x-(y+c)):Nat):Int):=by
 rw[pj,pj];split<;>omega
def UR{x y c:Nat}(hx:x<4294967296)(hy:y<4294967296)(hc:c<=1):PF GB prog 220 [.v (.int .u32 (x:Int)), .v (.int .u32 (y:Int)), .v (.int .u32 (c:Int))] (.tp [.v (.int .u32 (((if x<y+c then x+4294967296-(y+c) else x-(y+c)):Nat):Int)), .v (.int .u32 (((if x<y+c then 1 else 0):Nat):Int))]):=by
 refine fn (fu:=⟨10⟩) func220 J J ntmps220 J J (fun C=>?_);refine sw (fu:=⟨1⟩) _ J (pj _).symm J<|sw (fu:=⟨6⟩) _ J (pj _).symm J<|nt (fu:=⟨4⟩) _ J J J<|xr (fu:=⟨0⟩) _ J J J<|nt _ J J J<|?_;exact rz J (by have h1:=ZG hx hy hc;unfold Ds BR Af at h1;show DV.tp [.v (.int _ _), .v (.int _ _)]=_;rw[h1,ZQ hx hy hc])
def qf{ds:List Nat}(hl:ds.length<=1125899906842624):PF GB prog 134 [eG ds] (eG (trimD ds)):=by
 refine fn func134 J J ntmps134 J J (fun C=>?_);refine lp (X:=Nat) (fun n=>[(0, .d (eG ds)),(3, .d (vI (n:Nat)))]) (fun n=>[]) (fun n=>n<=ds.length/\trimD ds=trimD (ds.take n)) (fun n=>n) ds.length J ⟨aN _,by rw[dX]⟩ (fun _=>J) (fun n hk=>?_);obtain⟨h1,h2⟩:=hk;refine cs 8 J J J (fun hg8=>?_) (fun hg8=>?_)
 .
  refine ix _ J (fB (k:=n-1) (by omega) (by omega)) J<|?_;refine br J J J (fun hc15=>?_) (fun hc15=>?_)
  .
   have hz:ds.getD (n-1) 0=0:=by omega
   exact at_ (n-1) ⟨⟨by omega,by rw[h2,Ud (by omega) hz]⟩,(by omega)⟩
  .
   refine rC 0 n _ J J J J (tH _) (by omega) (by simp;omega) J<|?_;exact rz J (by have:=atI h1 (fun _ h=>hc15 (by omega));rw[<-h2] at this;show DV.sl _=_;simp[eG,this])
 .
  refine rC 0 n _ J J J J (tH _) (by omega) (by simp;omega) J<|?_;exact rz rfl (by obtain rfl:n=0:=(by omega);show DV.sl _=_;simp[eG,h2,trimD])
def sN{a k:Nat}(h:a<2^k)(hk:k<=1000000000):(dg a).length<=100000000:=by have:=k8 h;omega
def bP(a:Nat):dv (dg a)=a:=(d8 a).1
def jz(a:Nat):bg (dg a):=(d8 a).2.1
def eB(ds:List Nat):(ds.map dU).length=ds.length:=aK ..
def n5{ds:List Nat}{n:Nat}(h:ds.length<=n):ds.take n=ds:=aL h
def tg{ds:List Nat}{i:Nat}(h:ds.length<=i):ds.getD i 0=0:=by
 rw[aX,fW h];rfl
def rD{ds:List Nat}{n:Nat}(h:bg ds)(e:dv ds=n):eG (trimD ds)=dN n:=by rw[Zb h,e]
def Ed{a b:Nat}(h:a<b):fC a b= -1:=by unfold fC;rw[if_pos h]
def Hi{a b:Nat}(h:b<a):fC a b=1:=by unfold fC;rw[if_neg (by omega),if_neg (by omega)]
def WS{a b:Nat}(h:a=b):fC a b=0:=by unfold fC;rw[if_neg (by omega),if_pos h]
def X3(m n:Nat):Int.sign ((m:Int)-n)=fC m n:=by
 unfold fC;split
 ·exact fX (by omega)
 ·split
  ·rw[show(m:Int)-n=0 by omega];rfl
  ·exact fK (by omega)
def Wg{a b:Nat}(h:(dg a).length≠(dg b).length):fC (dg a).length (dg b).length=fC a b:=by
 rcases Nat.lt_or_gt_of_ne h with h|h
 ·have:=rG (jz a) (d8 b).2.2 h
  rw[bP,bP] at this;rw[Ed h,Ed this]
 ·have:=rG (jz b) (d8 a).2.2 h
  rw[bP,bP] at this;rw[Hi h,Hi this]
def DI{a b i:Nat}(hl:(dg a).length=(dg b).length)(hi:i<(dg a).length)(hs:(dg a).drop (i+1)=(dg b).drop (i+1)):
  ((dg a).getD i 0<(dg b).getD i 0->a<b)/\((dg b).getD i 0<(dg a).getD i 0->b<a)/\((dg a).getD i 0=(dg b).getD i 0->(dg a).drop i=(dg b).drop i):=by
 refine⟨fun h=>?_,fun h=>?_,fun h=>?_⟩
 ·have:=CZ (jz a) (jz b) i hi (by omega) hl hs h
  rwa [bP,bP] at this
 ·have:=CZ (jz b) (jz a) i (by omega) hi hl.symm hs.symm h
  rwa [bP,bP] at this
 ·rw[bL hi,bL (by omega:i<(dg b).length),hs]
  rw[aX,aX,aZ hi,aZ (by omega:i<(dg b).length)] at h;simp only[gK] at h;rw[h]
def Q5{z:Int}:PF GB prog 182 [vI z] (vI z.sign):=by
 refine fn func182 J J ntmps182 J J (fun C=>?_);refine br J J J (fun hc4=>?_) (fun hc4=>?_)
 .
  exact rz J (by show DV.v (.int _ 1)=DV.v (.int _ _);rw[fK (by omega)])
 .
  refine br J J J (fun hc6=>?_) (fun hc6=>?_)
  .
   exact rz J (by show DV.v (.int _ (-1))=DV.v (.int _ _);rw[fX (by omega)])
  .
   exact rz J (by show DV.v (.int _ 0)=DV.v (.int _ _);rw[show z=0 by omega];rfl)
def atW(u:Nat):dv [u%4294967296,u/4294967296]=u:=by simp only[dv];omega
def ZB{u:Nat}(h:u<18446744073709551616):bg [u%4294967296,u/4294967296]:= .cons (by omega) (.cons (by omega) .nil)
def F8(u:Nat):(u:Int).fdiv (2^min (32:Int).toNat IntKind.u64.bits)=((u/4294967296:Nat):Int):=by
 rw[show(2:Int)^min (32:Int).toNat IntKind.u64.bits=((4294967296:Nat):Int) from J,gU _ (by decide)];rfl
def q8{u:Nat}(hu:u<18446744073709551616):PF GB prog 86 [.v (.int .u64 (u:Int))] (dN u):=by
 refine fn (fu:=⟨11⟩) (hv:=by simp only[ah];exact(by decide)) func86 J J ntmps86 J J (fun C=>?_);refine aj 6 (.d (.v (.int .u64 (u/4294967296:Nat)))) J (by rw[F8]) ?_;refine gx J<|rf (fu:=⟨0⟩) J J<|?_;refine aj 8 (.d (eG [u%4294967296,u/4294967296])) J (by show FX.d (.sl [.v (.int _ _), .v (.int _ _)])= .d (.sl [.v (.int _ _), .v (.int _ _)]);congr 6;omega) ?_;refine gx J<|cl J (qf (ds:=[u%4294967296,u/4294967296]) (by simp)) J<|?_;exact rz J (rD (ZB hu) (atW u))
def EC:PF GB prog 132 [] (dN 1):=by
 refine fn func132 J J ntmps132 J J (fun C=>?_);refine rf J J<|?_;exact rz J (by unfold dN;rw[Bh];rfl)
def w6{a b:Nat}(ha:(dg a).length<=100000000)(hb:(dg b).length<=100000000):PF GB prog 131 [dN a,dN b] (vI (fC a b)):=by
 have hla:=eB (dg a);have hlb:=eB (dg b);refine fn func131 J J ntmps131 J J (fun C=>?_);refine br J J J (fun hc10=>?_) (fun hc10=>?_)
 .
  refine cl J Q5 J<|?_;exact rz J (by show DV.v (.int _ _)=DV.v (.int _ _);rw[hla,hlb,X3,Wg (by omega)])
 .
  have hl:(dg a).length=(dg b).length:=by omega
  refine lp (X:=Nat) (fun k=>[(0, .d (dN a)),(1, .d (dN b)),(5, .d (vI ((k:Nat)-1)))]) (fun k=>[]) (fun k=>k<=(dg a).length/\(dg a).drop k=(dg b).drop k) (fun k=>k) (dg a).length J ⟨aN _,by rw[iL,hl,iL]⟩ (fun _=>J) (fun k hk=>?_);obtain⟨h1,h2⟩:=hk;refine br J J J (fun hc21=>?_) (fun hc21=>?_)
  .
   obtain⟨k,rfl⟩: ∃m,k=m+1:=⟨k-1,by omega⟩;refine ix _ J (fB (k:=k) (by omega) (by omega)) J<|ix _ J (fB (k:=k) (by omega) (by omega)) J<|?_;refine br J J J (fun hc32=>?_) (fun hc32=>?_)
   .
    exact rz J (by show DV.v (.int _ 1)=DV.v (.int _ _);rw[Hi ((DI hl (by omega) h2).2.1 (by omega))])
   .
    refine ix _ J (fB (k:=k) (by omega) (by omega)) J<|ix _ J (fB (k:=k) (by omega) (by omega)) J<|?_;refine br J J J (fun hc41=>?_) (fun hc41=>?_)
    .
     exact rz J (by show DV.v (.int _ (-1))=DV.v (.int _ _);rw[Ed ((DI hl (by omega) h2).1 (by omega))])
    .
     exact at_ k ⟨⟨by omega,(DI (i:=k) hl (by omega) h2).2.2 (by omega)⟩,(by omega)⟩
  .
   exact rz rfl (by show DV.v (.int _ 0)=DV.v (.int _ _);rw[WS];obtain rfl:k=0:=(by omega);rw[iT,iT] at h2;rw[<-bP a,h2,bP])
def VD{A B W:List Nat}{i c:Nat}(hi:i<W.length)(h:dv (W.take i)+4294967296^i*c=dv (A.take i)+dv (B.take i)):
  dv ((W.set i ((A.getD i 0+B.getD i 0+c)%4294967296)).take (i+1))+4294967296^(i+1)*((A.getD i 0+B.getD i 0+c)/4294967296)=dv (A.take (i+1))+dv (B.take (i+1)):=by
 rw[o6 hi,im A,im B,fT,show A.getD i 0+B.getD i 0+c=c+A.getD i 0+B.getD i 0 by omega];exact KV h
def Wd{a b n:Nat}{W:List Nat}{c:Nat}(hn:n=max (dg a).length (dg b).length)(hl:W.length=n+1)(h:dv (W.take n)+4294967296^n*c=dv ((dg a).take n)+dv ((dg b).take n)):dv (W.set n c)=a+b:=by
 have e:=o6 (ws:=W) (k:=n) (d:=c) (by omega);rw[n5 (by rw[aT];omega)] at e;rw[e,h,n5 (by omega),n5 (by omega),bP,bP]
def WG{a b ia ib:Nat}[ha:BN a ia][hb:BN b ib](hi:ia<=1000000000:=by decide)(hj:ib<=1000000000:=by decide):PF GB prog 179 [dN a,dN b] (dN (a+b)):=by
 have hla:=eB (dg a);have hlb:=eB (dg b);have hba:=sN ha.h hi;have hbb:=sN hb.h hj;refine fn (fu:=⟨12⟩) func179 J J ntmps179 J J (fun C=>?_);obtain⟨n,hn⟩: ∃n,n=max (dg a).length (dg b).length:=⟨_,rfl⟩;refine aj 15 (.d (vI (n:Nat))) J (by show FX.d (.v (.int _ _))= .d (.v (.int _ _));congr 3;split<;>omega) ?_;refine gx J<|mk ((List.replicate (n+1) 0).map dU) J J (by rw[<-uT];rfl) J<|?_;refine lp (X:=List Nat×Nat×Nat) (fun⟨W,c,i⟩=>[(0, .d (dN a)),(1, .d (dN b)),(5, .d (vI (n:Nat))),(6, .rw 18),(7, .d (.v (.int .u32 (c:Nat)))),(8, .d (vI (i:Nat)))]) (fun⟨W,c,i⟩=>[(18,some (.b 206 1 (W.map dU) true))]) (fun⟨W,c,i⟩=>W.length=n+1/\bg W/\c<=1/\i<=n/\dv (W.take i)+4294967296^i*c=dv ((dg a).take i)+dv ((dg b).take i)) (fun⟨W,c,i⟩=>n-i) ⟨List.replicate (n+1) 0,0,0⟩ J ⟨by simp, .replicate _,by omega,by omega,by simp[dv]⟩ (fun _=>J) (fun⟨W,c,i⟩ hk=>?_);dsimp only at hk⊢;obtain⟨h1,h2,h3,h4,h5⟩:=hk;have hlw:=eB W;have hda:=f5 a i;have hdb:=f5 b i;refine br (fu1:=⟨11⟩) J J J (fun hc21=>?_) (fun hc21=>?_)
 .
  refine mg (fu:=⟨1⟩) (X:=Unit) (fun _=>[(0, .d (dN a)),(1, .d (dN b)),(5, .d (vI (n:Nat))),(6, .rw 18),(7, .d (.v (.int .u32 (c:Nat)))),(8, .d (vI (i:Nat))),(9, .d (dU ((dg a).getD i 0))),(10, .d (.v (.int .u32 0)))]) (fun _=>[(18,some (.b 206 1 (W.map dU) true))]) (fun _=>True) [0,1,5,6,7,8,9,10] [18] rfl ?_ (fun _=>J) (fun _ hm=>?_)
  .
   refine gx J<|?_;refine br J J J (fun hc27=>?_) (fun hc27=>?_)
   .
    refine ix _ J (mO (by omega)) J<|?_;exact at_ () trivial
   .
    refine aj 9 (.d (dU ((dg a).getD i 0))) J (by rw[tg (by omega)];rfl) ?_;exact at_ () trivial
  .
   refine mg (X:=Unit) (fun _=>[(0, .d (dN a)),(1, .d (dN b)),(5, .d (vI (n:Nat))),(6, .rw 18),(7, .d (.v (.int .u32 (c:Nat)))),(8, .d (vI (i:Nat))),(9, .d (dU ((dg a).getD i 0))),(10, .d (dU ((dg b).getD i 0)))]) (fun _=>[(18,some (.b 206 1 (W.map dU) true))]) (fun _=>True) [0,1,5,6,7,8,9,10] [18] rfl ?_ (fun _=>J) (fun _ hm=>?_)
   .
    refine gx J<|?_;refine br J J J (fun hc35=>?_) (fun hc35=>?_)
    .
     refine ix _ J (mO (by omega)) J<|?_;exact at_ () trivial
    .
     refine aj 10 (.d (dU ((dg b).getD i 0))) J (by rw[tg (by omega)];rfl) ?_;exact at_ () trivial
   .
    refine cl J (Sd (by omega) (by omega) (by omega)) J<|sb _ ((W.set i (((dg a).getD i 0+(dg b).getD i 0+c)%4294967296)).map dU) J (mO (by omega)) J (by rw[<-sF];rfl) J<|?_;exact at_ ⟨W.set i (((dg a).getD i 0+(dg b).getD i 0+c)%4294967296),((dg a).getD i 0+(dg b).getD i 0+c)/4294967296,i+1⟩ (by dsimp only;exact⟨⟨by simpa using h1,h2.set _ (by omega),by omega,by omega,VD (by omega) h5⟩,(by omega)⟩)
 .
  obtain rfl:i=n:=by omega
  refine sb _ ((W.set i c).map dU) J (mO (by omega)) J (by rw[<-sF];rfl) J<|fz 18 J J<|cl J (qf (ds:=W.set i c) (by simp;omega)) J<|?_;exact rz J (rD (h2.set _ (by omega)) (Wd hn h1 h5))
def Vr{A B W:List Nat}{i c d c2:Nat}(hA:bg A)(hB:bg B)(hi:i<W.length)(hc:c<=1)(h:dv (W.take i)+dv (B.take i)=dv (A.take i)+4294967296^i*c)
  (hd:d=if A.getD i 0<B.getD i 0+c then A.getD i 0+4294967296-(B.getD i 0+c) else A.getD i 0-(B.getD i 0+c))(hc2:c2=if A.getD i 0<B.getD i 0+c then 1 else 0):
  dv ((W.set i d).take (i+1))+dv (B.take (i+1))=dv (A.take (i+1))+4294967296^(i+1)*c2:=by
 have h1:=hA.get i;have h2:=hB.get i;rw[o6 hi,im A,im B,fT];split at hd
 ·rename_i q
  rw[if_pos q] at hc2;subst hc2 hd;rw[lL (B.getD i 0) c];exact Jc h (by omega) (by omega)
 ·rename_i q
  rw[if_neg q] at hc2;subst hc2 hd;rw[lL (B.getD i 0) c];exact K4 h (by omega)
def S3{a b c:Nat}{W:List Nat}(hw:bg W)(hl:W.length=(dg a).length)(hb:b<=a)(h:dv (W.take (dg a).length)+dv ((dg b).take (dg a).length)=dv ((dg a).take (dg a).length)+4294967296^(dg a).length*c):dv W=a-b:=by
 have hlb:(dg b).length<=(dg a).length:=by
  rcases gT (dg a).length (dg b).length with q|q
  ·have:=rG (jz a) (d8 b).2.2 q
   rw[bP,bP] at this;omega
  ·exact q
 rw[n5 (by omega),n5 hlb,n5 (aN _),bP,bP] at h;have h2:=i4 hw;rw[hl] at h2;rcases dS c with q|q
 ·subst q;omega
 ·have:4294967296^(dg a).length*1<=4294967296^(dg a).length*c:=fV _ q
  omega
def Hs{a b ia:Nat}[ha:BN a ia](hb:b<=a)(hi:ia<=1000000000:=by decide):PF GB prog 180 [dN a,dN b] (dN (a-b)):=by
 have hla:=eB (dg a);have hlb:=eB (dg b);have hba:=sN ha.h hi;refine fn (fu:=⟨9⟩) func180 J J ntmps180 J J (fun C=>?_);refine aj 10 (.d (vI ((dg a).length:Nat))) J (by rw[hla];rfl) ?_;refine gx J<|mk (fu:=⟨13⟩) ((List.replicate (dg a).length 0).map dU) J J (by rw[<-uT];rfl) J<|?_;refine aj 13 (.d (vI ((dg a).length:Nat))) J (by rw[hla];rfl) ?_;refine gx J<|?_;refine lp (X:=List Nat×Nat×Nat) (fun⟨W,c,i⟩=>[(0, .d (dN a)),(1, .d (dN b)),(5, .rw 11),(6, .d (.v (.int .u32 (c:Nat)))),(13, .d (vI ((dg a).length:Nat))),(14, .d (vI (i:Nat)))]) (fun⟨W,c,i⟩=>[(11,some (.b 206 1 (W.map dU) true))]) (fun⟨W,c,i⟩=>W.length=(dg a).length/\bg W/\c<=1/\i<=(dg a).length/\dv (W.take i)+dv ((dg b).take i)=dv ((dg a).take i)+4294967296^i*c) (fun⟨W,c,i⟩=>(dg a).length-i) ⟨List.replicate (dg a).length 0,0,0⟩ J ⟨by simp, .replicate _,by omega,by omega,by simp[dv]⟩ (fun _=>J) (fun⟨W,c,i⟩ hk=>?_);dsimp only at hk⊢;obtain⟨h1,h2,h3,h4,h5⟩:=hk;have hlw:=eB W;have hda:=f5 a i;have hdb:=f5 b i;refine br (fu1:=⟨16⟩) J J J (fun hc15=>?_) (fun hc15=>?_)
 .
  refine mg (X:=Unit) (fun _=>[(0, .d (dN a)),(1, .d (dN b)),(5, .rw 11),(6, .d (.v (.int .u32 (c:Nat)))),(13, .d (vI ((dg a).length:Nat))),(14, .d (vI (i:Nat))),(7, .d (vI (i:Nat))),(8, .d (dU ((dg b).getD i 0)))]) (fun _=>[(11,some (.b 206 1 (W.map dU) true))]) (fun _=>True) [0,1,5,6,13,14,7,8] [11] rfl ?_ (fun _=>J) (fun _ hm=>?_)
  .
   refine gx J<|?_;refine br J J J (fun hc20=>?_) (fun hc20=>?_)
   .
    refine ix _ J (mO (by omega)) J<|?_;exact at_ () trivial
   .
    refine aj 8 (.d (dU ((dg b).getD i 0))) J (by rw[tg (by omega)];rfl) ?_;exact at_ () trivial
  .
   refine ix _ J (mO (by omega)) J<|cl J (UR (by omega) (by omega) (by omega)) J<|sb _ ((W.set i (if(dg a).getD i 0<(dg b).getD i 0+c then(dg a).getD i 0+4294967296-((dg b).getD i 0+c) else(dg a).getD i 0-((dg b).getD i 0+c))).map dU) J (mO (by omega)) J (by rw[<-sF];rfl) J<|?_;exact at_ ⟨W.set i (if(dg a).getD i 0<(dg b).getD i 0+c then(dg a).getD i 0+4294967296-((dg b).getD i 0+c) else(dg a).getD i 0-((dg b).getD i 0+c)),(if(dg a).getD i 0<(dg b).getD i 0+c then 1 else 0),i+1⟩ (by dsimp only;exact⟨⟨by simpa using h1,h2.set _ (by split<;>omega),by split<;>omega,by omega,Vr (jz a) (jz b) (by omega) h3 h5 J J⟩,(by omega)⟩)
 .
  obtain rfl:i=(dg a).length:=by omega
  refine fz 11 J J<|cl J (qf (ds:=W) (by omega)) J<|?_;exact rz J (rD h2 (S3 h2 h1 hb h5))
def vi(n:Nat)(a b k:Nat)(ha:a<2^k)(h:a+b*2^k<2^n):(BitVec.ofInt n (a:Int) ||| BitVec.ofInt n ((b*2^k:Nat):Int)).toNat=a+b*2^k:=by
 rw[BitVec.toNat_or,BitVec.ofInt_natCast,BitVec.ofInt_natCast,BitVec.toNat_ofNat,BitVec.toNat_ofNat,dT (by omega),dT (by omega)];rw[<-lZ,Nat.or_comm,<-lW ha,lZ];omega
def Fk{x y:Nat}(hx:x<4294967296)(hy:y<4294967296):x*y<=18446744065119617025:=by
 have:=nT (by omega:x<=4294967295) (by omega:y<=4294967295);exact this
def Ki(x y:Nat):(0:Int)<=(x:Int)*(y:Int):=by rw[<-iX];omega
def JE{x y:Nat}(hx:x<4294967296)(hy:y<4294967296):(x:Int)*(y:Int)<=18446744073709551615:=by
 have:=Fk hx hy;rw[<-iX];omega
def SH{ds:List Nat}(h:ds.length=1):dv ds=ds.getD 0 0:=by
 match ds,h with
 |[d],_=>simp[dv]
def wq{a:Nat}(h:(dg a).length=1):(dg a).getD 0 0=a:=by rw[<-SH h,bP]
def XZ{ds:List Nat}{j m:Nat}(h:j<m):(ds.take m).getD j 0=ds.getD j 0:=by
 rw[aX,aX,qX,if_pos h]
def Jr{W:List Nat}{j m d:Nat}(hj:j<m)(hm:m<=W.length):dv ((W.set j d).take m)+4294967296^j*W.getD j 0=dv (W.take m)+4294967296^j*d:=by
 rw[List.take_set,<-XZ (ds:=W) hj];exact oB _ _ _ (by rw[cJ];omega)
def Sy{W:List Nat}{P X Y m i k c y t S:Nat}(hk:i+k<m)(hm:m<=W.length)(h:dv (W.take m)+4294967296^(i+k)*c=P+X*(4294967296^i*S))(ht:t=Y+W.getD (i+k) 0+c)(hY:Y=X*y):
  dv ((W.set (i+k) (t%4294967296)).take m)+4294967296^(i+(k+1))*(t/4294967296)=P+X*(4294967296^i*(S+4294967296^k*y)):=by
 have h1:=Jr (W:=W) (d:=t%4294967296) hk hm;rw[ht,show Y+W.getD (i+k) 0+c=c+Y+W.getD (i+k) 0 by omega] at h1⊢;have h2:=Nl h1 h;rw[<-kV,fT,h2,hY,fJ];simp only[dJ,cZ,kY,bM,kV]
def VS{a b:Nat}{W:List Nat}{i c lb:Nat}(hlb:lb=(dg b).length)(hl:i+lb<W.length)(h:dv (W.take (i+lb))+4294967296^(i+lb)*c=dv ((dg a).take i)*b+(dg a).getD i 0*(4294967296^i*dv ((dg b).take lb))):
  dv ((W.set (i+lb) c).take (i+1+lb))=dv ((dg a).take (i+1))*b:=by
 rw[show i+1+lb=i+lb+1 by omega,o6 hl,h,im,n5 (ds:=dg b) (by omega),bP b,dZ];simp only[cZ,kY,bM]
def P7(n j:Nat):(List.replicate n 0).getD j 0=0:=by
 rw[aX,List.getElem?_replicate];split<;>rfl
def yy{k:Nat}(h:k<=1000000000):IntKind.i64.wrap ((k:Int).tdiv 32)=((k/32:Nat):Int):=by
 rw[show(k:Int).tdiv 32=((k/32:Nat):Int) from J,Fw];omega
def LY(k:Nat):(k:Int).tmod 32=((k%32:Nat):Int):=rfl
def pw{a b ia ib:Nat}[ha:BN a ia][hb:BN b ib](hi:ia<=1000000000:=by decide)(hj:ib<=1000000000:=by decide):PF GB prog 124 [dN a,dN b] (dN (a*b)):=by
 have hla:=eB (dg a);have hlb:=eB (dg b);have hba:=sN ha.h hi;have hbb:=sN hb.h hj;refine fn (fu:=⟨6⟩) func124 J J ntmps124 J J (fun C=>?_);refine mg (fu:=⟨4⟩) (X:=Unit) (fun _=>[(0, .d (dN a)),(1, .d (dN b))]) (fun _=>[]) (fun _=>True) [0,1] [] rfl ?_ (fun _=>J) (fun _ hm=>?_)
 .
  refine gx J<|?_;refine cs 15 J J J (fun hg15=>?_) (fun hg15=>?_)
  .
   refine br J J J (fun hc19=>?_) (fun hc19=>?_)
   .
    have hd0:=f5 a 0;have hd1:=f5 b 0;refine ix _ J (fB (k:=0) J (by omega)) J<|ix (hv:=by simp only[ah];exact⟨by omega,⟨(Ki _ _),(JE (f5 _ _) (f5 _ _))⟩⟩) _ J (fB (k:=0) J (by omega)) J<|cl J (q8 (u:=(dg a).getD 0 0*(dg b).getD 0 0) (by have:=Fk (f5 a 0) (f5 b 0);omega)) J<|?_;exact rz J (by rw[wq (by omega),wq (by omega)];rfl)
   .
    exact at_ () trivial
  .
   exact at_ () trivial
 .
  refine aj 31 (.d (vI ((dg a).length:Nat))) J (by rw[hla];rfl) ?_;refine gx (fu:=⟨2⟩) J<|?_;refine aj 33 (.d (vI ((dg b).length:Nat))) J (by rw[hlb];rfl) ?_;refine gx J<|mk (fu:=⟨8⟩) ((List.replicate ((dg a).length+(dg b).length) 0).map dU) J J (by rw[<-uT];rfl) J<|?_;refine aj 37 (.d (vI ((dg a).length:Nat))) J (by rw[hla];rfl) ?_;refine gx J<|?_;refine lp (X:=List Nat×Nat) (fun⟨W,i⟩=>[(0, .d (dN a)),(1, .d (dN b)),(5, .rw 35),(36, .d (dN a)),(37, .d (vI ((dg a).length:Nat))),(38, .d (vI (i:Nat)))]) (fun⟨W,i⟩=>[(35,some (.b 206 1 (W.map dU) true))]) (fun⟨W,i⟩=>W.length=(dg a).length+(dg b).length/\bg W/\i<=(dg a).length/\dv (W.take (i+(dg b).length))=dv ((dg a).take i)*b) (fun⟨W,i⟩=>(dg a).length-i) ⟨List.replicate ((dg a).length+(dg b).length) 0,0⟩ J ⟨by simp, .replicate _,by omega,by rw[List.take_replicate,wF];simp[dv]⟩ (fun _=>J) (fun⟨W,i⟩ hk=>?_);dsimp only at hk⊢;obtain⟨h1,h2,h3,h4⟩:=hk;refine br J J J (fun hc39=>?_) (fun hc39=>?_)
  .
   refine ix (fu:=⟨15⟩) _ J (mO (by omega)) J<|?_;refine aj 44 (.d (vI ((dg b).length:Nat))) J (by rw[hlb];rfl) ?_;refine gx J<|?_;refine lp (X:=List Nat×Nat×Nat) (fun⟨W2,c,k⟩=>[(0, .d (dN a)),(1, .d (dN b)),(5, .rw 35),(6, .d (vI (i:Nat))),(7, .d (dU ((dg a).getD i 0))),(8, .d (.v (.int .u64 (c:Nat)))),(36, .d (dN a)),(37, .d (vI ((dg a).length:Nat))),(38, .d (vI (i:Nat))),(43, .d (dN b)),(44, .d (vI ((dg b).length:Nat))),(45, .d (vI (k:Nat)))]) (fun⟨W2,c,k⟩=>[(35,some (.b 206 1 (W2.map dU) true))]) (fun⟨W2,c,k⟩=>W2.length=(dg a).length+(dg b).length/\bg W2/\c<4294967296/\k<=(dg b).length/\dv (W2.take (i+(dg b).length))+4294967296^(i+k)*c=dv ((dg a).take i)*b+(dg a).getD i 0*(4294967296^i*dv ((dg b).take k))) (fun⟨W2,c,k⟩=>(dg b).length-k) ⟨W,0,0⟩ J ⟨h1,h2,by omega,by omega,by rw[h4];simp[dv]⟩ (fun _=>J) (fun⟨W2,c,k⟩ hk=>?_);dsimp only at hk⊢;obtain⟨g1,g2,g3,g4,g5⟩:=hk;have hlw:=eB W2;have hw:=g2.get (i+k);have hda:=f5 a i;have hdb:=f5 b k;refine br (fu2:=⟨10⟩) J J J (fun hc46=>?_) (fun hc46=>?_)
   .
    refine ix (fu:=⟨12⟩) (hv:=by simp only[ah];exact⟨⟨by omega,by omega⟩,⟨(Ki _ _),(JE (f5 _ _) (f5 _ _))⟩⟩) _ J (mO (by omega)) J<|?_;obtain⟨p,hp⟩: ∃p,p=(dg a).getD i 0*(dg b).getD k 0:=⟨_,rfl⟩;have hp1:p<=18446744065119617025:=hp▸Fk hda hdb;refine aj 54 (.d (.v (.int .u64 (p:Nat)))) J (by rw[hp,iX]) ?_;refine gx J<|lb (fu:=⟨4⟩) _ J (fB (k:=i+k) (by omega) (by omega)) J<|?_;obtain⟨t,ht⟩: ∃t,t=p+W2.getD (i+k) 0+c:=⟨_,rfl⟩;refine aj 64 (.d (.v (.int .u64 (t:Nat)))) J (by congr 3;omega) ?_;refine gx (fu:=⟨11⟩) J<|?_;refine aj 70 (.d (dU (t%4294967296))) J (by show FX.d (.v (.int _ _))= .d (.v (.int _ _));congr 3) ?_;refine gx J<|sb (fu:=⟨5⟩) (hv:=by simp only[ah];exact(by decide)) _ ((W2.set (i+k) (t%4294967296)).map dU) J (fB (k:=i+k) (by omega) (by omega)) J (by(rw[show((i:Int)+k).toNat=i+k by omega,<-sF])<;>rfl) J<|?_;refine aj 73 (.d (.v (.int .u64 (t/4294967296:Nat)))) J (by rw[F8]) ?_;refine gx J<|?_;exact at_ ⟨W2.set (i+k) (t%4294967296),t/4294967296,k+1⟩ (by dsimp only;exact⟨⟨by simpa using g1,g2.set _ (by omega),by omega,by omega,by rw[im];exact Sy (by omega) (by omega) g5 ht hp⟩,(by omega)⟩)
   .
    obtain rfl:k=(dg b).length:=by omega
    refine aj 78 (.d (vI ((dg b).length:Nat))) J (by rw[hlb];rfl) ?_;refine gx (fu:=⟨3⟩) J<|?_;refine aj 81 (.d (dU c)) J (by show FX.d (.v (.int _ _))= .d (.v (.int _ _));congr 3;omega) ?_;refine gx J<|sb _ ((W2.set (i+(dg b).length) c).map dU) J (fB (k:=i+(dg b).length) (by omega) (by omega)) J (by(rw[show((i:Int)+((dg b).length:Nat)).toNat=i+(dg b).length by omega,<-sF])<;>rfl) J<|?_;exact at_ ⟨W2.set (i+(dg b).length) c,i+1⟩ (by dsimp only;exact⟨⟨by simpa using g1,g2.set _ g3,by omega,VS J (by omega) g5⟩,(by omega)⟩)
  .
   obtain rfl:i=(dg a).length:=by omega
   refine fz 35 J J<|cl J (qf (ds:=W) (by omega)) J<|?_;exact rz J (rD h2 (by have:=h4;rw[n5 (by omega),n5 (by omega),bP] at this;exact this))
def K7(x s:Nat):x*2^s=x*2^s%4294967296+4294967296*(x*2^s/4294967296):=by omega
def Uh{x s:Nat}(hx:x<4294967296)(hs:s<32):x*2^s/4294967296<2^s:=by
 rw[jS (by decide),bM (2^s)];exact mK hx (aN _) (fQ (by decide))
def FC{s:Nat}(hs:s<32):2^s*2^(32-s)=4294967296:=by rw[<-fJ,show s+(32-s)=32 by omega]
def ZZ(x s:Nat)(hs:s<32):x*2^s%4294967296=x%2^(32-s)*2^s:=by
 rw[<-FC hs,bM (2^s),rZ]
def av9{x s:Nat}(hx:x<4294967296)(hs:s<32):x*2^s<18446744073709551616:=by
 have h1:2^s<=2^31:=bK (by decide) (by omega);have:=mK hx h1 (by decide);omega
def Qu{w x s:Nat}(hw:w<2^s)(hs:s<32):(BitVec.ofInt 32 (w:Int) ||| BitVec.ofInt 32 ((x*2^s%4294967296:Nat):Int)).toNat=w+x*2^s%4294967296:=by
 rw[ZZ x s hs];refine vi 32 _ _ _ hw ?_;have h1:x%2^(32-s)+1<=2^(32-s):=cL _ (fQ (by decide));have h2:=bS (2^s) h1;rw[bM (2^(32-s)),FC hs,dZ,nL] at h2;show _<4294967296;omega
def Xh{h:Nat}(hh:h<4294967296):(BitVec.ofInt 32 ((0:Nat):Int) ||| BitVec.ofInt 32 (h:Int)).toNat=h:=by
 have:=vi 32 0 h 0 (by decide) (by simpa using hh);simpa using this
def Dm(k:Nat):2^k=4294967296^(k/32)*2^(k%32):=by
 rw[show(4294967296:Nat)=2^32 from J,<-oR,<-fJ,pN]
def getD_set_ne{W:List Nat}{i j d:Nat}(h:i≠j):(W.set i d).getD j 0=W.getD j 0:=by
 rw[aX,aX,List.getElem?_set_ne h]
def I4{W:List Nat}{i d:Nat}(h:i<W.length):(W.set i d).getD i 0=d:=by
 rw[aX,qR h];rfl
def ZI{A W:List Nat}{k q s i x:Nat}(hq:q=k/32)(hs:s=k%32)(hl:q+i+1<W.length)(hx:x=A.getD i 0)
  (h:dv (W.take (q+i+1))=dv (A.take i)*2^k):
  dv (((W.set (q+i) (W.getD (q+i) 0+x*2^s%4294967296)).set (q+i+1) (x*2^s/4294967296)).take (q+(i+1)+1))=dv (A.take (i+1))*2^k:=by
 have e1:=Jr (W:=W) (j:=q+i) (m:=q+i+1) (d:=W.getD (q+i) 0+x*2^s%4294967296) (by omega) (by omega);rw[show q+(i+1)+1=q+i+1+1 by omega,o6 (by rw[aT];omega),im A,<-hx];have e2:dv ((W.set (q+i) (W.getD (q+i) 0+x*2^s%4294967296)).take (q+i+1))=dv (A.take i)*2^k+4294967296^(q+i)*(x*2^s%4294967296):=by
  rw[dJ,h] at e1;omega
 rw[e2,fT,cZ,kV,<-dJ,<-K7,dZ,Dm k,<-hq,<-hs,fJ];simp only[cZ,kY,bM]
def Ap{a k ia:Nat}[ha:BN a ia](hk:k<=1000000000)(hi:ia<=1000000000:=by decide):PF GB prog 221 [dN a,vI (k:Nat)] (dN (a*2^k)):=by
 have hla:=eB (dg a);have hba:=sN ha.h hi;refine fn (fu:=⟨9⟩) func221 J J ntmps221 J J (fun C=>?_);refine aj 11 (.d (vI (k/32:Nat))) J (by show FX.d (.v (.int _ _))= .d (.v (.int _ _));rw[yy hk]) ?_;refine gx (fu:=⟨2⟩) J<|?_;refine aj 13 (.d (vI ((dg a).length:Nat))) J (by rw[hla];rfl) ?_;refine gx (fu:=⟨2⟩) J<|?_;refine aj 15 (.d (vI (k/32+(dg a).length+1:Nat))) J (by show FX.d (.v (.int _ _))= .d (.v (.int _ _));congr 3) ?_;refine gx J<|mk (fu:=⟨7⟩) (hv:=by simp only[ah];exact(by decide)) ((List.replicate (k/32+(dg a).length+1) 0).map dU) J J (by rw[<-uT];rfl) J<|?_;refine aj 18 (.d (vI (k%32:Nat))) J (by show FX.d (.v (.int _ _))= .d (.v (.int _ _));rw[LY]) ?_;refine gx (fu:=⟨9⟩) J<|?_;refine aj 21 (.d (vI ((dg a).length:Nat))) J (by rw[hla];rfl) ?_;refine gx J<|?_;refine lp (X:=List Nat×Nat) (fun⟨W,i⟩=>[(0, .d (dN a)),(1, .d (vI (k:Nat))),(5, .rw 16),(6, .d (.v (.int .u64 (k%32:Nat)))),(20, .d (dN a)),(21, .d (vI ((dg a).length:Nat))),(22, .d (vI (i:Nat)))]) (fun⟨W,i⟩=>[(16,some (.b 206 1 (W.map dU) true))]) (fun⟨W,i⟩=>W.length=k/32+(dg a).length+1/\bg W/\i<=(dg a).length/\dv (W.take (k/32+i+1))=dv ((dg a).take i)*2^k/\W.getD (k/32+i) 0<2^(k%32)/\ ∀j,k/32+i<j->W.getD j 0=0) (fun⟨W,i⟩=>(dg a).length-i) ⟨List.replicate (k/32+(dg a).length+1) 0,0⟩ J ⟨by simp, .replicate _,by omega,by rw[List.take_replicate,wF];simp[dv],by rw[P7];exact fQ (by decide),fun j _=>P7 _ _⟩ (fun _=>J) (fun⟨W,i⟩ hk=>?_);dsimp only at hk⊢;obtain⟨h1,h2,h3,h4,h5,h6⟩:=hk;have hlw:=eB W;have hda:=f5 a i;have hsk:k%32<32:=cL _ (by decide)
 have hpp:2^(k%32)<=2^31:=bK (by decide) (by omega);refine br J J J (fun hc23=>?_) (fun hc23=>?_)
 .
  refine ix (fu:=⟨11⟩) (hv:=by simp only[ah];exact⟨by omega,(by omega)⟩) _ J (mO (by omega)) J<|?_;have hhi:=Uh hda hsk;have hfit0:=av9 hda hsk;have hor:=Qu (x:=(dg a).getD i 0) h5 hsk;have hfit:W.getD (k/32+i) 0+(dg a).getD i 0*2^(k%32)%4294967296<4294967296:=by rw[<-hor];exact BitVec.isLt _
  have hlp:=K7 ((dg a).getD i 0) (k%32);refine aj 30 (.d (.v (.int .u64 ((dg a).getD i 0*2^(k%32):Nat)))) J (by show FX.d (.v (.int _ _))= .d (.v (.int _ _));rw[qg _ (k%32) (by omega) hfit0 (by omega)]) ?_;obtain⟨t,ht⟩: ∃t,t=(dg a).getD i 0*2^(k%32):=⟨_,rfl⟩;simp only[<-ht] at hhi hfit0 hor hfit hlp;rw[<-ht];refine gx (fu:=⟨8⟩) J<|?_;refine aj 33 (.d (vI (k/32:Nat))) J (by show FX.d (.v (.int _ _))= .d (.v (.int _ _));rw[yy hk]) ?_;refine gx J<|lb (fu:=⟨2⟩) _ J (fB (k:=k/32+i) (by omega) (by omega)) J<|?_;refine aj 39 (.d (dU (t%4294967296))) J (by show FX.d (.v (.int _ _))= .d (.v (.int _ _));congr 3) ?_;refine gx (fu:=⟨1⟩) J<|?_;refine aj 40 _ J (congrArg (fun z:Nat=>FX.d (.v (.int .u32 (z:Int)))) hor) ?_;refine gx J<|sb (fu:=⟨6⟩) _ ((W.set (k/32+i) (W.getD (k/32+i) 0+t%4294967296)).map dU) J (fB (k:=k/32+i) (by omega) (by omega)) J (by(rw[show(((k/32:Nat):Int)+i).toNat=k/32+i by omega];simp only[qT];rfl)<;>rfl) J<|?_;refine aj 44 (.d (vI (k/32:Nat))) J (by show FX.d (.v (.int _ _))= .d (.v (.int _ _));rw[yy hk]) ?_;refine gx J<|lb (fu:=⟨0⟩) _ J (fB (k:=k/32+i+1) (by omega) (by rw[aT];omega)) J<|?_;refine aj 49 (.d (dU 0)) J (by rw[getD_set_ne (by omega),h6 _ (by omega)]) ?_;refine gx (fu:=⟨2⟩) (hv:=by simp only[ah];exact(by decide)) J<|?_;refine aj 51 (.d (.v (.int .u64 (t/4294967296:Nat)))) J (by rw[F8]) ?_;refine gx (fu:=⟨1⟩) J<|?_;refine aj 52 (.d (dU (t/4294967296))) J (by show FX.d (.v (.int _ _))= .d (.v (.int _ _));congr 3;omega) ?_;refine gx (fu:=⟨1⟩) J<|?_;refine aj 53 _ J (congrArg (fun z:Nat=>FX.d (.v (.int .u32 (z:Int)))) (Xh (by omega))) ?_
  refine gx J<|sb _ (((W.set (k/32+i) (W.getD (k/32+i) 0+t%4294967296)).set (k/32+i+1) (t/4294967296)).map dU) J (fB (k:=k/32+i+1) (by omega) (by rw[aT];omega)) J (by(rw[show(((k/32:Nat):Int)+i+1).toNat=k/32+i+1 by omega];simp only[qT];rfl)<;>rfl) J<|?_;exact at_ ⟨(W.set (k/32+i) (W.getD (k/32+i) 0+t%4294967296)).set (k/32+i+1) (t/4294967296),i+1⟩ (by dsimp only;exact⟨⟨by simpa using h1,(h2.set _ hfit).set _ (by omega),by omega,by have q:=ZI (x:=(dg a).getD i 0) J J (by omega) J h4;rw[<-ht] at q;exact q,by rw[show k/32+(i+1)=k/32+i+1 by omega,I4 (by simp;omega)];exact hhi,fun j hj=>by rw[getD_set_ne (by omega),getD_set_ne (by omega)];exact h6 j (by omega)⟩,(by omega)⟩)
 .
  obtain rfl:i=(dg a).length:=by omega
  refine fz 16 J J<|cl J (qf (ds:=W) (by omega)) J<|?_;exact rz J (rD h2 (by have:=h4;rw[n5 (by omega),n5 (by omega),bP] at this;exact this))
def T7{a k:Nat}(h:(dg a).length<=k/32):a/2^k=0:=by
 refine iM ?_;have h1:=i4 (jz a);rw[bP] at h1;have h2:4294967296^(dg a).length<=4294967296^(k/32):=bK (by decide) h;have h3:4294967296^(k/32)*1<=4294967296^(k/32)*2^(k%32):=fV _ (fQ (by decide));rw[Dm k];omega
def FZ{ds:List Nat}(h:bg ds)(q:Nat):dv (ds.drop q)=dv ds/4294967296^q:=by
 rcases gT ds.length q with hq|hq
 ·rw[nM (by omega)]
  have h1:=i4 h;have h2:4294967296^ds.length<=4294967296^q:=bK (by decide) (by omega);rw[iM (by omega)];rfl
 ·have e:=Aj ds q hq
  have h1:=i4 (h.take q);rw[cJ,gX hq] at h1;rw[e,lY _ _ (fQ (by decide)),iM h1,eJ]
def EB{ds:List Nat}(h:bg ds)(i:Nat):dv ds/4294967296^i=ds.getD i 0+4294967296*ds.getD (i+1) 0+18446744073709551616*(dv ds/4294967296^(i+2)):=by
 have e0:=FZ h i;have e2:=FZ h (i+2);rw[<-e0,<-e2];have g0:ds.getD i 0=(ds.drop i).getD 0 0:=by rw[aX,aX,kN];rfl
 have g1:ds.getD (i+1) 0=(ds.drop i).getD 1 0:=by rw[aX,aX,kN]
 have g2:ds.drop (i+2)=(ds.drop i).drop 2:=by rw[sY]
 rw[g0,g1,g2]
 match ds.drop i with
 |[]=>rfl
 |[u]=>simp[dv]
 |u::v::t=>simp only[dv,sX,kS,sQ,iT];omega
def Rh{D s i u v w Z:Nat}(hs:s<32)(hZ:D/4294967296^i=u+4294967296*v+18446744073709551616*Z)(hw:w=(u+v*4294967296)/2^s%4294967296):(D/2^s)%4294967296^(i+1)=(D/2^s)%4294967296^i+4294967296^i*w:=by
 rw[fT,Nat.mod_mul];congr 2;rw[lM,bM (2^s),<-lM,hZ,hw];have h1:18446744073709551616=2^s*(2^(32-s)*4294967296):=by rw[<-cZ,FC hs]
 rw[h1,cZ (2^s),lY _ _ (fQ (by decide)),bM v];rw[bM (2^(32-s)),cZ,mW]
def WR{a k:Nat}{W:List Nat}{q s:Nat}(hq:q=k/32)(hs:s=k%32)(hl:W.length=(dg a).length-q)(h:dv (W.take ((dg a).length-q))=(dv ((dg a).drop q)/2^s)%4294967296^((dg a).length-q)):dv W=a/2^k:=by
 rw[n5 (by omega)] at h;have h1:=i4 ((jz a).drop q);rw[jU] at h1;have h2:=iR (dv ((dg a).drop q)) (2^s);rw[h,dT (by omega),FZ (jz a),bP,Dm k,<-hq,<-hs,lM]
def TL{a k ia:Nat}[ha:BN a ia](hk:k<=1000000000)(hi:ia<=1000000000:=by decide):PF GB prog 222 [dN a,vI (k:Nat)] (dN (a/2^k)):=by
 have hla:=eB (dg a);have hba:=sN ha.h hi;refine fn (fu:=⟨10⟩) func222 J J ntmps222 J J (fun C=>?_);refine aj 12 (.d (vI (k/32:Nat))) J (by show FX.d (.v (.int _ _))= .d (.v (.int _ _));rw[yy hk]) ?_;refine gx (fu:=⟨2⟩) J<|?_;refine aj 14 (.d (vI ((dg a).length:Nat))) J (by rw[hla];rfl) ?_;refine gx J<|?_;refine br (fu2:=⟨6⟩) (v2:=fun _=>by simp only[ah];exact(by decide)) J J J (fun hc15=>?_) (fun hc15=>?_)
 .
  exact rz J (by rw[T7 (by omega),Ft];rfl)
 .
  refine aj 17 (.d (vI (k%32:Nat))) J (by show FX.d (.v (.int _ _))= .d (.v (.int _ _));rw[LY]) ?_;refine gx (fu:=⟨9⟩) J<|?_;refine aj 21 (.d (vI (k/32:Nat))) J (by show FX.d (.v (.int _ _))= .d (.v (.int _ _));rw[yy hk]) ?_;refine gx J<|rC (fu:=⟨0⟩) (k/32) (dg a).length _ J J (by rw[hla]) J (tH _) (by omega) (by omega) J<|?_;obtain⟨I,hI⟩: ∃I,I=(dg a).drop (k/32):=⟨_,rfl⟩;have hIl:I.length=(dg a).length-k/32:=by rw[hI,jU]
  have hIm:=eB I;have hIo:bg I:=hI▸(jz a).drop _;refine aj 22 (.d (eG I)) J (by show FX.d (.sl _)= .d (.sl _);rw[hI,<-hla,dX,rW]) ?_;refine gx (fu:=⟨7⟩) J<|?_;refine aj 24 (.d (vI (I.length:Nat))) J (by rw[hIm];rfl) ?_;refine gx J<|mk (fu:=⟨8⟩) ((List.replicate I.length 0).map dU) J J (by rw[<-uT];rfl) J<|?_;refine aj 27 (.d (vI (I.length:Nat))) J (by rw[hIm];rfl) ?_;refine gx J<|?_;refine lp (X:=List Nat×Nat) (fun⟨W,i⟩=>[(0, .d (dN a)),(5, .d (.v (.int .u64 (k%32:Nat)))),(6, .d (eG I)),(7, .rw 25),(26, .d (eG I)),(27, .d (vI (I.length:Nat))),(28, .d (vI (i:Nat)))]) (fun⟨W,i⟩=>[(25,some (.b 206 1 (W.map dU) true))]) (fun⟨W,i⟩=>W.length=I.length/\bg W/\i<=I.length/\dv (W.take i)=(dv I/2^(k%32))%4294967296^i) (fun⟨W,i⟩=>I.length-i) ⟨List.replicate I.length 0,0⟩ J ⟨by simp, .replicate _,by omega,by simp[dv,Nat.mod_one]⟩ (fun _=>J) (fun⟨W,i⟩ hk=>?_);dsimp only at hk⊢;obtain⟨h1,h2,h3,h4⟩:=hk;have hlw:=eB W;have hda:=hIo.get i;have hdb:=hIo.get (i+1);have hsk:k%32<32:=cL _ (by decide);refine br J J J (fun hc29=>?_) (fun hc29=>?_)
  .
   refine ix (fu:=⟨13⟩) _ J (mO (by omega)) J<|?_;refine mg (fu:=⟨6⟩) (hv:=fun _ _=>by simp only[ah];exact(by omega)) (X:=Unit) (fun _=>[(0, .d (dN a)),(5, .d (.v (.int .u64 (k%32:Nat)))),(6, .d (eG I)),(7, .rw 25),(26, .d (eG I)),(27, .d (vI (I.length:Nat))),(28, .d (vI (i:Nat))),(8, .d (vI (i:Nat))),(10, .d (.v (.int .u64 (I.getD i 0+I.getD (i+1) 0*4294967296:Nat))))]) (fun _=>[(25,some (.b 206 1 (W.map dU) true))]) (fun _=>True) [0,5,6,7,26,27,28,8,10] [25] rfl ?_ (fun _=>J) (fun _ hm=>?_)
   .
    refine gx (fu:=⟨6⟩) J<|?_;refine aj 38 (.d (vI (I.length:Nat))) J (by rw[hIm];rfl) ?_;refine gx J<|?_;refine br J J J (fun hc39=>?_) (fun hc39=>?_)
    .
     refine ix (fu:=⟨3⟩) (hv:=by simp only[ah];exact⟨by omega,(by decide)⟩) _ J (fB (k:=i+1) (by omega) (by omega)) J<|?_;refine aj 47 (.d (.v (.int .u64 (I.getD (i+1) 0*4294967296:Nat)))) J (by show FX.d (.v (.int _ _))= .d (.v (.int _ _));rw[qg _ 32 (by decide) (by show _*4294967296<_;omega) J]) ?_;refine gx (fu:=⟨1⟩) J<|?_;refine aj 48 _ J (congrArg (fun z:Nat=>FX.d (.v (.int .u64 (z:Int)))) (vi 64 (I.getD i 0) (I.getD (i+1) 0) 32 hda (by show _+_*4294967296<18446744073709551616;omega))) ?_;refine gx J<|?_;exact at_ () trivial
    .
     refine aj 10 (.d (.v (.int .u64 (I.getD i 0+I.getD (i+1) 0*4294967296:Nat)))) J (by rw[tg (by omega:I.length<=i+1),lK,eX]) ?_;exact at_ () trivial
   .
    refine aj 53 (.d (.v (.int .u64 ((I.getD i 0+I.getD (i+1) 0*4294967296)/2^(k%32):Nat)))) J (by show FX.d (.v (.int _ _))= .d (.v (.int _ _));rw[ry _ (k%32) (by omega) (by omega)]) ?_;refine gx (fu:=⟨1⟩) J<|?_;obtain⟨w,hw⟩: ∃w,w=(I.getD i 0+I.getD (i+1) 0*4294967296)/2^(k%32)%4294967296:=⟨_,rfl⟩;have hw1:w<4294967296:=hw▸cL _ (by decide);refine aj 54 (.d (dU w)) J (by show FX.d (.v (.int _ _))= .d (.v (.int _ _));rw[hw];congr 3) ?_;refine gx J<|sb _ ((W.set i w).map dU) J (mO (by omega)) J (by(rw[<-sF];rfl)<;>rfl) J<|?_;exact at_ ⟨W.set i w,i+1⟩ (by dsimp only;exact⟨⟨by simpa using h1,h2.set _ (by omega),by omega,by rw[o6 (by omega),h4];exact(Rh hsk (EB hIo i) hw).symm⟩,(by omega)⟩)
  .
   refine fz 25 J J<|cl J (qf (ds:=W) (by omega)) J<|?_;exact rz rfl (rD h2 (by obtain rfl:i=I.length:=(by omega);rw[hIl] at h1 h4;rw[hI] at h4;exact WR rfl rfl h1 h4))
def CG{a k:Nat}(h:a<4294967296^k):(dg a).length<=k:=by
 rcases gT k (dg a).length with q|q
 ·have h1:=p6 (d8 a).2.2 (by intro e;rw[e] at q;simp at q)
  rw[bP] at h1;have h2:4294967296^k<=4294967296^((dg a).length-1):=bK (by decide) (by omega);omega
 ·exact q
def Ze{a:Nat}(h:(dg a).length=2):(dg a).getD 0 0+(dg a).getD 1 0*4294967296=a:=by
 have e:=bP a;revert e
 match dg a,h with
 |[x,y],_=>intro e;simp[dv] at e⊢;omega
def xl(a:Nat):DV:= .tp [.v (.int .u64 ((if a<18446744073709551616 then a else 0:Nat):Int)),vB (decide (a<18446744073709551616))]
def Me{a:Nat}(h:a<18446744073709551616):xl a= .tp [.v (.int .u64 (a:Int)),vB true]:=by unfold xl;rw[if_pos h,decide_eq_true h]
def YB{a:Nat}(h: ¬a<18446744073709551616):xl a= .tp [.v (.int .u64 0),vB false]:=by unfold xl;rw[if_neg h,decide_eq_false h];rfl
def tk(a:Nat):a<4294967296^(dg a).length:=by have:=i4 (jz a);rwa [bP] at this
def AX{a ia:Nat}[ha:BN a ia](hi:ia<=1000000000:=by decide):PF GB prog 181 [dN a] (xl a):=by
 have hla:=eB (dg a);have hba:=sN ha.h hi;have hlt:=tk a;have hd00:=f5 a 0;refine fn (fu:=⟨11⟩) func181 J J ntmps181 J J (fun C=>?_);refine aj 5 (.d (vI ((dg a).length:Nat))) J (by rw[hla];rfl) ?_;refine gx J<|?_;refine br J J J (fun hc6=>?_) (fun hc6=>?_)
 .
  exact rz rfl (by rw[show(dg a).length=0 by omega] at hlt;obtain rfl:a=0:=(by omega);rfl)
 .
  refine br J J J (fun hc8=>?_) (fun hc8=>?_)
  .
   refine ix (fu:=⟨2⟩) _ J (fB (k:=0) J (by omega)) J<|?_;refine aj 13 (.d (.v (.int .u64 (a:Nat)))) J (by rw[wq (by omega)]) ?_;refine gx J<|?_;exact rz J (by rw[show(dg a).length=1 by omega] at hlt;rw[Me (by omega),<-wq (a:=a) (by omega),wq (a:=a) (by omega)];rfl)
  .
   refine br J J J (fun hc14=>?_) (fun hc14=>?_)
   .
    have hd0:=f5 a 0;have hd1:=f5 a 1;refine ix (hv:=by simp only[ah];exact⟨by omega,(by decide)⟩) _ J (fB (k:=1) J (by omega)) J<|ix (fu:=⟨3⟩) _ J (fB (k:=0) J (by omega)) J<|?_;refine aj 25 (.d (.v (.int .u64 (a:Nat)))) J (congrArg (fun z:Nat=>FX.d (.v (.int .u64 (z:Int)))) (by rw[qg _ 32 (by decide) (by show _*4294967296<_;omega) J,BitVec.or_comm];exact(vi 64 ((dg a).getD 0 0) ((dg a).getD 1 0) 32 hd0 (by show _+_*4294967296<18446744073709551616;omega)).trans (Ze (by omega)))) ?_;refine gx J<|?_;exact rz J (by rw[show(dg a).length=2 by omega] at hlt;rw[Me (by omega)];rfl)
   .
    exact rz rfl (by rw[YB];rfl;intro h;have:=CG (a:=a) (k:=2) (by omega);omega)
def Lg{G:Gh}{ds:List Nat}{v:Value}(hd:bg ds)(h:Is G (eG ds) v): ∃x:SV,v=x.v/\b6 G x ds:=by
 obtain⟨x,rfl,h1⟩:=Pr.1 h;exact⟨x,J,hd,h1⟩
def e7.is{G:Gh}{k n:Nat}{z:SV}(h:e7 k G z n):Is G (dN n) z.v:=(Ws h.lt).2 ⟨z,J,h⟩
def yx{G:Gh}{ds:List Nat}{vs:List Value}(hd:bg ds)(h:IsLs G [eG ds] vs): ∃x:SV,vs=[x.v]/\b6 G x ds:=by
 obtain⟨v,m,rfl,h1,h2⟩:=b7.1 h
 cases cH.1 h2
 obtain⟨x,rfl,h3⟩:=Lg hd h1;exact⟨x,J,h3⟩
def zg{G:Gh}{a b:Nat}{vs:List Value}(h:IsLs G [dN a,dN b] vs): ∃x y:SV,vs=[x.v,y.v]/\b6 G x (dg a)/\b6 G y (dg b):=by
 obtain⟨v,m,rfl,h1,h2⟩:=b7.1 h;obtain⟨y,rfl,h4⟩:=yx (d8 b).2.1 h2;obtain⟨x,rfl,h3⟩:=Lg (d8 a).2.1 h1;exact⟨x,y,J,h3,h4⟩
section
variable {GB:Gh} {a b i j:Nat}
def lu[h:BN a i](hi:i<=1000000000):(dg a).length<=31250001:=by have:=k8 h.h;omega
def Kh{ds:List Nat}(hd:bg ds)(hl:ds.length<=1125899906842624):PF GB prog 243 [eG ds] (vB (decide (dC ds))):=fun G vs _ hv=>by
 obtain⟨x,rfl,hx⟩:=yx hd hv;exact(WH hx hl).mono fun v G' _ h=>bi.2 h
def s4[h:BN a i](hi:i<=1000000000:=by decide):PF GB prog 171 [dN a] (vI (bl a:Nat)):=fun G vs _ hv=>by
 obtain⟨x,rfl,hx⟩:=yx (d8 a).2.1 hv;have:=lu (a:=a) hi;exact(ZM hx (by omega)).mono fun v G' _ h=>bi.2 (by rw[h,bP])
def vR[h:BN a i](hi:i<=1000000000:=by decide):PF GB prog 176 [dN a] (dN a):=fun G vs _ hv=>by
 obtain⟨x,rfl,hx⟩:=yx (d8 a).2.1 hv;have:=lu (a:=a) hi;refine(Em (k:=i) hx (by rw[bP];exact h.h) (by omega)).mono fun v G' _ h=>?_;obtain⟨z,rfl,h⟩:=h;rw[bP] at h;exact h.is
def Et(h:a<18446744073709551616):PF GB prog 177 [.v (.int .u64 (a:Nat))] (dN a):=fun G vs _ hv=>by
 obtain⟨v,m,rfl,h1,h2⟩:=b7.1 hv
 cases cH.1 h2
 rw[bi.1 h1];refine(EL h).mono fun v G' _ h=>?_;obtain⟨z,rfl,h⟩:=h;exact h.is
def Ho(h:a<18446744073709551616):PF GB prog 175 [dN a] (.tp [.v (.int .u64 (a:Nat)),vB true]):=fun G vs _ hv=>by
 obtain⟨x,rfl,hx⟩:=yx (d8 a).2.1 hv;have:BN a 64:=⟨h⟩;have:=lu (a:=a) (i:=64) (by decide);refine(Ey hx (by omega)).mono fun v G' _ e=>?_;rw[bP,if_pos h,decide_eq_true h] at e;subst e;exact nP.2 ⟨_,J, .cons (bi.2 J) (.cons (bi.2 J) .nil)⟩
def X'[h:BN a i][k:BN b j](hi:i<=1000000000:=by decide)(hj:j<=1000000000:=by decide):PF GB prog 252 [dN a,dN b] (dN (a+b)):=fun G vs _ hv=>by
 obtain⟨x,y,rfl,hx,hy⟩:=zg hv;have:=lu (a:=a) hi;have:=lu (a:=b) hj;refine(WL (kk:=i+j+1) hx hy (by rw[bP,bP];exact Bt h.h k.h) (by omega) (by omega)).mono fun v G' _ h=>?_;obtain⟨z,rfl,h⟩:=h;rw[bP,bP] at h;exact h.is
def NK[h:BN a i][k:BN b j](hi:i<=1000000000:=by decide)(hj:j<=1000000000:=by decide):PF GB prog 253 [dN a,dN b] (.tp [dN (a-b),vB (decide (b<=a))]):=fun G vs _ hv=>by
 obtain⟨x,y,rfl,hx,hy⟩:=zg hv;have:=lu (a:=a) hi;have:=lu (a:=b) hj;refine(U7 (kk:=i) hx hy (by rw[bP];exact h.h) (by omega) (by omega)).mono fun v G' _ h=>?_;obtain⟨z,rfl,h⟩:=h;rw[bP,bP] at h⊢;exact nP.2 ⟨_,J, .cons h.is (.cons (bi.2 J) .nil)⟩
def wC[h:BN a i][k:BN b j](hi:i<=1000000000:=by decide)(hj:j<=1000000000:=by decide):PF GB prog 238 [dN a,dN b] (dN (a*b)):=fun G vs _ hv=>by
 obtain⟨x,y,rfl,hx,hy⟩:=zg hv;have:=lu (a:=a) hi;have:=lu (a:=b) hj;refine(RO (kk:=i+j) hx hy (by rw[bP,bP];exact nj h.h k.h) (by omega) (by omega)).mono fun v G' _ h=>?_;obtain⟨z,rfl,h⟩:=h;rw[bP,bP] at h;exact h.is
def Oa[h:BN a i][k:BN b j](hb:0<b)(hi:i<=1000000000:=by decide)(hj:j<=1000000000:=by decide):PF GB prog 173 [dN a,dN b] (.tp [dN (a/b),dN (a%b),vB true]):=fun G vs _ hv=>by
 obtain⟨x,y,rfl,hx,hy⟩:=zg hv;have:=lu (a:=a) hi;have:=lu (a:=b) hj;refine(FK (k1:=i) (k2:=j) hx hy (by rw[bP];exact hb) (by rw[bP,bP];exact dL (iR _ _) h.h) (by rw[bP,bP];exact pX (cL _ hb) k.h) (by omega) (by omega)).mono fun v G' _ h=>?_;obtain⟨z,r,rfl,h,h'⟩:=h;rw[bP,bP] at h h';exact nP.2 ⟨_,J, .cons h.is (.cons h'.is (.cons (bi.2 J) .nil))⟩
def HY[h:BN a i][k:BN b j](hi:i<=1000000000:=by decide)(hj:j<=1000000000:=by decide):PF GB prog 172 [dN a,dN b] (dN (Nat.gcd a b)):=fun G vs _ hv=>by
 obtain⟨x,y,rfl,hx,hy⟩:=zg hv;have:=lu (a:=a) hi;have:=lu (a:=b) hj;have e: ∀k',k'<=i+j->(2:Nat)^k'<=2^(i+j):=fun k' h=>bK (by decide) h;have:=e i (by omega);have:=e j (by omega);have:=h.h;have:=k.h;refine(Zi (k:=i+j) (k0:=i+j) hx hy (by rw[bP];omega) (by rw[bP];omega) (by omega) (by rw[bP,bP];exact GA h.h k.h) (by omega) (by omega)).mono fun v G' _ h=>?_;obtain⟨z,rfl,h⟩:=h;rw[bP,bP] at h;exact h.is
end
section
variable {GB:Gh} {C:az} {n:Nat} {Q0:Exit->Act->World->Prop} {fr fr' fr1 fr2:au} {own own' own1 own2:aB} {cf cf' cf1 cf2:Cf} {vc vc1 vc2:List Prop}
def jo{fb:Func}{e:Exit}{ds:List DV}{rv:DV}(hr:ot tt fr own fb.results.toList=some ds)(hd: ∀G y,Is G (mI ds) y->Is G rv y)(he:xg e=true:=by rfl):ak prog GB C n (fq C prog fb (jf C (fun v G'=>Is G' rv v))) fr own (.ex e []):=by
 refine⟨fun ρ G ov a w r=>?_⟩;obtain⟨vs,h1,h2⟩:=yn r hr;have hk:Is G rv (fP vs):=hd _ _ (yb h2)
 cases e with
 |ret=>exact zD (C:=C) (n:=n) (fr:=cv a) (own:=ov) (G:=G) (K:=fun v G'=>Is G' rv v) h1 hk a w ⟨r.h,r.sz,cG a,r.df⟩
 |normal=>exact Dv (C:=C) (n:=n) (fr:=cv a) (own:=ov) (G:=G) (K:=fun v G'=>Is G' rv v) h1 hk a w ⟨r.h,r.sz,cG a,r.df⟩
 |_=>cases he
def J1(fr:au)(cf:Cf):Option (Int×IntKind):=match bH fr cf with
 |some ⟨_, .convert t t' x,_,_,_,_⟩=>match cF tt t,cF tt t',aE (bj fr cf) x with
  |some ⟨.int k,_,_,_⟩,some ⟨.int k',_,_,_⟩,some (.d (.v (.int j p)))=>bif kq k j then some (p,k') else none
  |_,_,_=>none
 |_=>none
def cu[fu:Fu]{p:Int}{k':IntKind}(u:Int)(h:J1 fr cf=some (p,k'))(e:k'.wrap p=u)(hgo:cd tt n fu.n fr own cf (.d (.v (.int k' u))) [] []=⟨vc,fr',own',cf'⟩)(k:ak prog GB C n Q0 fr' own' cf')
  (hv:ah vc:=by first|exact trivial|(simp only[ah];kernel_rfl)|(simp only[ah];omega)):ak prog GB C n Q0 fr own cf:=by
 unfold J1 at h;split at h<;>try (cases h;done)
 rename_i hh;split at h<;>try (cases h;done)
 rename_i k0 _ _ _ k1 _ _ _ j p0 hT hT' hx
 cases hk:kq k0 j with
 |false=>rw[hk] at h;cases h
 |true=>
  rw[hk,cond_true] at h;cases h;cases BU hk;have:=wb (eh _ _ hT) J;have:=wb (eh _ _ hT') J;subst e;refine us hh (.x1 hx fun ρ G ov a w y _ r h1 h2=>?_) hgo hv k;rw[cA] at h2;subst h2;exact⟨_,cA.2 J,Ca h1⟩
def MM(fr:au)(cf:Cf):Option (Int×IntKind):=match bH fr cf with
 |some ⟨_, .unOp .neg _ x,_,_,_,_⟩=>match aE (bj fr cf) x with
  |some (.d (.v (.int j p)))=>some (p,j)
  |_=>none
 |_=>none
def nu[fu:Fu]{p:Int}{k':IntKind}(u:Int)(h:MM fr cf=some (p,k'))(e:k'.wrap (0-p)=u)(hgo:cd tt n fu.n fr own cf (.d (.v (.int k' u))) [] []=⟨vc,fr',own',cf'⟩)(k:ak prog GB C n Q0 fr' own' cf')
  (hv:ah vc:=by first|exact trivial|(simp only[ah];kernel_rfl)|(simp only[ah];omega)):ak prog GB C n Q0 fr own cf:=by
 unfold MM at h;split at h<;>try (cases h;done)
 rename_i hh;split at h<;>cases h;rename_i hx;subst e;exact us hh (.x1 hx fun ρ G ov a w y _ r h1 h2=>by
  rw[cA] at h2;subst h2;exact⟨_,cA.2 J,GX h1⟩) hgo hv k
end
def DE{x:Nat}:bl x=0↔x=0:=by
 have:= @mD x 0;simp at this;omega
def w7{a:Nat}:0<(dg a).length↔0<a:=by
 have:= @tO a;omega
def eS(neg:Bool)(a:Nat):DV:= .ag [.v (.bool neg),dN a]
def Cd(neg:Bool)(a:Nat):eI (zv neg a)= .ag [.v (.bool (neg&&decide (0<a))),dN a]:=by unfold eI;rw[my,M7]
def Ux{n:Bool}{u:Nat}{b:Int}(h:n≠decide (b<0))(hle:b.natAbs<=u):zv n (u-b.natAbs)=zv n u+b:=by cases n<;>simp[zv] at* <;>omega
def U3{n:Bool}{u:Nat}{b:Int}(h:n≠decide (b<0))(hle:u<=b.natAbs):zv (decide (b<0)) (b.natAbs-u)=zv n u+b:=by cases n<;>simp[zv] at* <;>(try rw[if_pos h])<;>(try rw[if_neg (by omega)])<;>omega
def Zf{neg:Bool}{ds:List Nat}(hd:bg ds)(hl:ds.length<=1125899906842624):PF GB prog 242 [.ag [.v (.bool neg),eG ds]] (vB (decide (dC ds/\(neg=true->0<ds.length)))):=by
 refine fn func242 J J ntmps242 J J (fun C=>?_);refine cl J (Kh hd hl) J<|?_;refine csd 6 J J J (fun hg6=>?_) (fun hg6=>?_)
 .
  refine kA 10 J J J (fun hg10=>?_) (fun hg10=>?_)
  .
   exact rz J (by unfold vB;congr 2;simp_all [mI])
  .
   exact rz J (by unfold vB;congr 2;simp_all [mI])
 .
  exact rz J (by unfold vB;congr 2;simp_all [mI])
def PE{n:Bool}{a i:Nat}[h:BN a i](hi:i<=1000000000:=by decide):PF GB prog 156 [eS n a] (vI (zv n a).sign):=by
 refine fn func156 J J ntmps156 J J (fun C=>?_);refine cl J (s4 (a:=a) hi) J<|?_;refine br J J J (fun hc3=>?_) (fun hc3=>?_)
 .
  exact rz J (by have:=DE.1 (Int.ofNat.inj hc3);subst this;cases n<;>rfl)
 .
  refine bb J J J (fun hc8=>?_) (fun hc8=>?_)
  .
   exact rz J (by subst hc8;rw[fX (by have:a≠0:=(fun e=>hc3 (by rw[e];rfl));simp[zv];omega)];rfl)
  .
   exact rz J (by subst hc8;rw[fK (by have:a≠0:=(fun e=>hc3 (by rw[e];rfl));simp[zv];omega)];rfl)
def F5{m:Int}(h0: -9223372036854775808<=m)(h1:m<=9223372036854775807):PF GB prog 121 [vI m] (eI m):=by
 refine fn (fu:=⟨8⟩) func121 J J ntmps121 J J (fun C=>?_);refine cu ((m%18446744073709551616:Int)) J (mj _) J<|?_;refine br (fu1:=⟨2⟩) (fu2:=⟨0⟩) J J J (fun hc7=>?_) (fun hc7=>?_)
 .
  refine nu ((m.natAbs:Nat)) J (by rw[mj];omega) J<|cl J (Et (a:=m.natAbs) (by omega)) J<|?_;exact rz J J
 .
  refine aj 3 (.d (.v (.int .u64 (m.natAbs:Nat)))) J (by congr 3;omega) ?_;refine gx J<|cl J (Et (a:=m.natAbs) (by omega)) J<|?_;exact rz J J
def M8{n:Bool}{a:Nat}(h:a<4611686018427387904):PF GB prog 174 [eS n a] (.tp [vI (zv n a),vB true]):=by
 refine fn func174 J J ntmps174 J J (fun C=>?_);refine cl (fu:=⟨2⟩) J (Ho (a:=a) (by omega)) J<|gH J J J<|?_;refine kA 18 J J J (fun hg18=>?_) (fun hg18=>?_)
 .
  refine br (fu1:=⟨3⟩) J J J (fun hc12=>?_) (fun hc12=>?_)
  .
   refine nu (fu:=⟨0⟩) (((18446744073709551616-a)%18446744073709551616:Int)) J (by rw[mj];omega) J<|cu (zv n a) J (by subst hg18;rw[Fw];simp only[zv,if_true];omega) J<|?_;exact rz J J
  .
   exact absurd (by omega) hc12
 .
  refine kA 32 J J J (fun hg32=>?_) (fun hg32=>?_)
  .
   refine br J J J (fun hc25=>?_) (fun hc25=>?_)
   .
    exact rz J (by subst hg18;rfl)
   .
    exact absurd (by omega) hc25
  .
   subst hg18;cases hg32
def vk{neg:Bool}{a i:Nat}[h:BN a i](hi:i<=1000000000:=by decide):PF GB prog 169 [eS neg a] (eI (zv neg a)):=by
 refine fn func169 J J ntmps169 J J (fun C=>?_);refine cl J (vR hi) J<|?_;refine kA 9 J J J (fun hg9=>?_) (fun hg9=>?_)
 .
  exact rz J (by rw[Cd];simp[hg9,w7,mI])
 .
  exact rz J (by rw[Cd];simp[hg9,w7,mI])
def AW{neg:Bool}{a:Nat}:PF GB prog 251 [.v (.bool neg),dN a] (eI (zv neg a)):=by
 refine fn func251 J J ntmps251 J J (fun C=>?_);refine kA 6 J J J (fun hg6=>?_) (fun hg6=>?_)
 .
  exact rz J (by rw[Cd];simp[hg6,w7,mI])
 .
  exact rz J (by rw[Cd];simp[hg6,w7,mI])
def TU{m:Int}{i:Nat}[h:BI m i](hi:i<=1000000000:=by decide):PF GB prog 207 [eI m] (eI (-m)):=by
 refine fn func207 J J ntmps207 J J (fun C=>?_);refine cl J (vk (neg:=!decide (m<0)) (a:=m.natAbs) hi) J<|?_;exact rz J (by rw[QN,lj];rfl)
def Ff{a b:Int}{i j:Nat}[h:BI a i][k:BI b j](hi:i<=1000000000:=by decide)(hj:j<=1000000000:=by decide):PF GB prog 237 [eI a,eI b] (eI (a*b)):=by
 refine fn func237 J J ntmps237 J J (fun C=>?_);refine cl J (wC (a:=a.natAbs) (b:=b.natAbs) hi hj) J<|cl J AW J<|?_;exact rz J (by rw[show(!(decide (a<0)==decide (b<0)))=(decide (a<0) !=decide (b<0)) from J,P0,lj,lj];rfl)
def WW{n1:Bool}{u:Nat}{b:Int}{i j:Nat}[h:BN u i][k:BI b j](hi:i<=1000000000:=by decide)(hj:j<=1000000000:=by decide):PF GB prog 236 [eS n1 u,eI b] (eI (zv n1 u+b)):=by
 refine fn func236 J J ntmps236 J J (fun C=>?_);refine bb J J J (fun hc13=>?_) (fun hc13=>?_)
 .
  refine cl J (X' (b:=b.natAbs) hi hj) J<|cl J AW J<|?_;exact rz J (by rw[VM,show n1=decide (b<0) from by simpa using hc13,lj];rfl)
 .
  refine cl J (NK (b:=b.natAbs) hi hj) J<|?_;refine bd J J J (fun hc30=>?_) (fun hc30=>?_)
  .
   refine cl J AW J<|?_;exact rz J (by rw[Ux (by simpa using hc13) hc30];rfl)
  .
   refine cl J (NK (a:=b.natAbs) hj hi) J<|cl J AW J<|?_;exact rz J (by rw[U3 (by simpa using hc13) (by omega)];rfl)
def X9{a b:Int}{i j:Nat}[h:BI a i][k:BI b j](hi:i<=1000000000:=by decide)(hj:j<=1000000000:=by decide):PF GB prog 236 [eI a,eI b] (eI (a+b)):=(WW (n1:=decide (a<0)) (u:=a.natAbs) hi hj).to (by rw[lj])
def ew(q:Rat):Prop:= ¬(q.num.natAbs<4611686018427387904/\q.den<4611686018427387904)
instance (q:Rat):Decidable (ew q):=inferInstanceAs (Decidable (¬_))
def dz(q:Rat):Int:=if ew q then 0 else q.num
def dq(q:Rat):Int:=if ew q then 0 else(q.den:Int)-1
def dl(q:Rat):DV:= .op (decide (ew q)) [.v (.bool (decide (q.num<0))),dN q.num.natAbs,dN q.den]
def eF(q:Rat):DV:= .ag [vI (dz q),vI (dq q),dl q]
abbrev SB {q:Rat} (h:decide (ew q)=true):ew q:=of_decide_eq_true h
abbrev rg {q:Rat} (h:decide (ew q)=false): ¬ew q:=of_decide_eq_false h
abbrev QY {q:Rat} (h: ¬decide (ew q)=false):ew q:=by simpa using h
abbrev m8 {q:Rat} (h: ¬decide (ew q)=true): ¬ew q:=by simpa using h
def l9{q:Rat}(h: ¬ew q):dz q=q.num:=if_neg h
def nq{q:Rat}(h: ¬ew q):dq q=(q.den:Int)-1:=if_neg h
def o5{q:Rat}(h: ¬ew q):q.num.natAbs<4611686018427387904:=(Decidable.not_not.1 h).1
def o4{q:Rat}(h: ¬ew q):q.den<4611686018427387904:=(Decidable.not_not.1 h).2
def Ln{q:Rat}(h:ew q):q≠0:=fun e=>by subst e;exact h ⟨by decide,by decide⟩
def rO{q:Rat}{m d:Int}{r:DV}(h: ¬ew q)(h1:q.num=m)(h2:(q.den:Int)-1=d)(e:r= .ag [vI m,vI d, .v (.pointer none)])(G:Gh)(y:Value)(k:Is G r y):Is G (eF q) y:=by
 subst e h1 h2;obtain⟨l,rfl,g⟩:=fe.1 k;obtain⟨y1,l1,rfl,k1,g1⟩:=b7.1 g;obtain⟨y2,l2,rfl,k2,g2⟩:=b7.1 g1;obtain⟨y3,l3,rfl,k3,g3⟩:=b7.1 g2;exact fe.2 ⟨_,J, .cons (by rw[l9 h];exact k1) (.cons (by rw[nq h];exact k2) (.cons (ut.2 (.inl ⟨decide_eq_false h,bi.1 k3⟩)) g3))⟩
def JI{q:Rat}{n:Bool}{a d:Nat}{r:DV}(h:ew q)(h1:decide (q.num<0)=n)(h2:q.num.natAbs=a)(h3:q.den=d)(e:r= .ag [vI 0,vI 0, .pt [.v (.bool n),dN a,dN d]])(G:Gh)(y:Value)(k:Is G r y):Is G (eF q) y:=by
 subst e h1 h2 h3;obtain⟨l,rfl,g⟩:=fe.1 k;obtain⟨y1,l1,rfl,k1,g1⟩:=b7.1 g;obtain⟨y2,l2,rfl,k2,g2⟩:=b7.1 g1;obtain⟨y3,l3,rfl,k3,g3⟩:=b7.1 g2;exact fe.2 ⟨_,J, .cons (by unfold dz;rw[if_pos h];exact k1) (.cons (by unfold dq;rw[if_pos h];exact k2) (.cons (ut.2 (.inr ⟨decide_eq_true h,k3⟩)) g3))⟩
def v7(G:Gh)(y:Value)(k:Is G (.ag [vI 0,vI 0, .v (.pointer none)]) y):Is G (eF 0) y:=rO (fun h=>Ln h J) J J J G y k
def NW{m:Int}(h:m.natAbs<4611686018427387904)(G:Gh)(y:Value)(k:Is G (.ag [vI m,vI 0, .v (.pointer none)]) y):Is G (eF (m:Rat)) y:=
 rO (fun k=>k ⟨by simpa using h,by rw[oJ];decide⟩) (oX m) (by rw[oJ];rfl) J G y k
def JY{n:Bool}{a d:Nat}(hd:0<d):(mkRat (zv n a) d).num=zv n (a/Nat.gcd a d)/\(mkRat (zv n a) d).den=d/Nat.gcd a d:=by
 obtain⟨h1,h2⟩:=PK (m:=zv n a) hd;rw[my] at h1 h2;exact⟨by rw[h1,RA (iN _ _)],h2⟩
def PL{n:Bool}{a d a' d':Nat}(hd:0<d)(ha:a'=a/Nat.gcd a d)(hd':d'=d/Nat.gcd a d)(h1:a'<4611686018427387904)(h2:d'<4611686018427387904)(G:Gh)(y:Value)(k:Is G (.ag [vI (zv n a'),vI ((d':Int)-1), .v (.pointer none)]) y):Is G (eF (mkRat (zv n a) d)) y:=by
 obtain⟨e1,e2⟩:=JY (n:=n) (a:=a) hd;rw[<-ha] at e1;rw[<-hd'] at e2;exact rO (fun k=>k ⟨by rw[e1,my];exact h1,by rw[e2];exact h2⟩) e1 (by rw[e2]) J G y k
def Bc{n:Bool}{a d a' d':Nat}(hd:0<d)(ha:a'=a/Nat.gcd a d)(hd':d'=d/Nat.gcd a d)(h: ¬(a'<4611686018427387904/\d'<4611686018427387904))(G:Gh)(y:Value)(k:Is G (.ag [vI 0,vI 0, .pt [.v (.bool (decide (zv n a'<0))),dN (zv n a').natAbs,dN d']]) y):Is G (eF (mkRat (zv n a) d)) y:=by
 obtain⟨e1,e2⟩:=JY (n:=n) (a:=a) hd;rw[<-ha] at e1;rw[<-hd'] at e2;exact JI (fun k=>h ⟨by rw[e1,my] at k;exact k.1,by rw[e2] at k;exact k.2⟩) (by rw[e1]) (by rw[e1]) e2 J G y k
def aGe{a d:Nat}(hd:0<d)(h: ¬(1:Int)<(bl (Nat.gcd a d):Nat)):Nat.gcd a d=1:=by
 have h1:Nat.gcd a d≠0:=fun e=>by rw[sJ] at e;omega
 have h2:Nat.gcd a d<2^1:=mD.1 (by omega);omega
def lH{x:Nat}:(((bl x:Nat):Int)<=62)↔x<4611686018427387904:=SK
def PF.ofI{P:Program}{f:FuncId}{ds ds':List DV}{r:DV}(h:PF GB P f ds r)(k: ∀G vs,IsLs G ds' vs->IsLs G ds vs):PF GB P f ds' r:=fun G vs hg hv=>h G vs hg (k G vs hv)
def uB{n:Bool}{a d i j:Nat}[h:BN a i][k:BN d j](hi:i<=450000000:=by decide)(hj:j<=450000000:=by decide):PF GB prog 120 [eS n a,dN d] (eF (mkRat (zv n a) d)):=by
 refine fn func120 J J ntmps120 J J (fun C=>?_);refine cl J (s4 (a:=d) (by omega)) J<|?_;refine cs 13 J J J (fun hg13=>?_) (fun hg13=>?_)
 .
  exact jo rfl (by obtain rfl:=DE.1 (Int.ofNat.inj hg13);rw[Rat.mkRat_zero];exact v7)
 .
  have hd0:0<d:=by have:= @DE d;omega
  have hg0:0<Nat.gcd a d:=nK _ hd0;refine cl J (PE (n:=n) (a:=a) (by omega)) J<|?_;refine br J J J (fun hc17=>?_) (fun hc17=>?_)
  .
   exact jo J (by rw[iY.1 hc17,Rat.zero_mkRat];exact v7)
  .
   refine cl J (HY (a:=a) (b:=d) (by omega) (by omega)) J<|cl J (s4 (a:=Nat.gcd a d) (i:=i+j) (by omega)) J<|?_;refine br J J J (fun hc25=>?_) (fun hc25=>?_)
   .
    obtain⟨a',ea⟩: ∃a',a'=a/Nat.gcd a d:=⟨_,rfl⟩;obtain⟨d',ed⟩: ∃d',d'=d/Nat.gcd a d:=⟨_,rfl⟩;have hba:BN a' i:=ea▸inferInstance;have hbd:BN d' j:=ed▸inferInstance;refine cl (fu:=⟨2⟩) J (Oa (a:=a) (b:=Nat.gcd a d) (j:=i+j) hg0 (by omega) (by omega)) J<|?_;refine aj 31 (.d (dN a')) J (by rw[ea]) ?_;refine gx J<|cl (fu:=⟨2⟩) J (Oa (a:=d) (b:=Nat.gcd a d) (j:=i+j) hg0 (by omega) (by omega)) J<|?_;refine aj 39 (.d (dN d')) J (by rw[ed]) ?_;refine gx J<|cl J (s4 (h:=hba) (by omega)) J<|?_;refine cs 46 J J J (fun hg46=>?_) (fun hg46=>?_)
    .
     refine cl J (s4 (h:=hbd) (by omega)) J<|?_;refine br J J J (fun hc50=>?_) (fun hc50=>?_)
     .
      have hs2:=lH.1 hc50;refine cl J (M8 (lH.1 hg46)) J<|cl J (Ho (by have:=lH.1 hc50;omega)) J<|?_;exact jo J (PL hd0 ea ed (lH.1 hg46) (lH.1 hc50))
     .
      refine cl J (vk (neg:=n) (h:=hba) (by omega)) J<|cl J (vR (h:=hbd) (by omega)) J<|fz 71 J J<|?_;exact jo J (Bc hd0 ea ed (fun e=>hc50 (lH.2 e.2)))
    .
     refine cl J (vk (neg:=n) (h:=hba) (by omega)) J<|cl J (vR (h:=hbd) (by omega)) J<|fz 71 J J<|?_;exact jo J (Bc hd0 ea ed (fun e=>hg46 (lH.2 e.1)))
   .
    have hg1:=aGe hd0 hc25;have ea:a=a/Nat.gcd a d:=by rw[hg1,sL]
    have ed:d=d/Nat.gcd a d:=by rw[hg1,sL]
    have hba:=h;have hbd:=k;refine cl J (s4 (h:=hba) (by omega)) J<|?_;refine cs 46 J J J (fun hg46=>?_) (fun hg46=>?_)
    .
     refine cl J (s4 (h:=hbd) (by omega)) J<|?_;refine br J J J (fun hc50=>?_) (fun hc50=>?_)
     .
      have hs2:=lH.1 hc50;refine cl J (M8 (lH.1 hg46)) J<|cl J (Ho (by have:=lH.1 hc50;omega)) J<|?_;exact jo J (PL hd0 ea ed (lH.1 hg46) (lH.1 hc50))
     .
      refine cl J (vk (neg:=n) (h:=hba) (by omega)) J<|cl J (vR (h:=hbd) (by omega)) J<|fz 71 J J<|?_;exact jo J (Bc hd0 ea ed (fun e=>hc50 (lH.2 e.2)))
    .
     refine cl J (vk (neg:=n) (h:=hba) (by omega)) J<|cl J (vR (h:=hbd) (by omega)) J<|fz 71 J J<|?_;exact jo J (Bc hd0 ea ed (fun e=>hg46 (lH.2 e.1)))
def Ar{q:Rat}:PF GB prog 200 [eF q] (vB (decide (q=0))):=by
 refine fn func200 J J ntmps200 J J (fun C=>?_);refine cs 6 J J J (fun hg6=>?_) (fun hg6=>?_)
 .
  exact rz J (by rw[l9 (rg hg6)];show DV.v (.bool (decide _))= .v (.bool _);congr 2;exact decide_eq_decide.2 ⟨fun e=>jM.1 e,fun e=>by rw[e];rfl⟩)
 .
  exact rz J (by rw[decide_eq_false (Ln (QY hg6))];rfl)
def wV{m:Int}(h:m.natAbs<9223372036854775808):PF GB prog 247 [vI m] (.v (.int .u64 (m.natAbs:Nat))):=by
 refine fn func247 J J ntmps247 J J (fun C=>?_);refine br J J J (fun hc4=>?_) (fun hc4=>?_)
 .
  exact rz J (by show DV.v (.int _ _)=_;congr 2;omega)
 .
  exact rz J (by show DV.v (.int _ _)=_;congr 2;omega)
def oP{q:Rat}{i:Nat}[h:BQ q i](hi:i<=900000000:=by decide):PF GB prog 178 [eF q] (dN q.den):=by
 refine fn func178 J J ntmps178 J J (fun C=>?_);refine br (v1:=fun hc5=>by simp only[ah];exact hc5) (fu2:=⟨6⟩) J J J (fun hc5=>?_) (fun hc5=>?_)
 .
  refine cl J (vR (a:=q.den) (by omega)) J<|?_;exact rz J J
 .
  have hd:=q.den_nz;have hs:=o4 (m8 hc5);refine aj 13 (.d (vI ((q.den:Int)-1))) J (by rw[nq (m8 hc5)]) ?_;refine gx (fu:=⟨2⟩) J<|?_;refine aj 15 (.d (.v (.int .u64 (q.den:Nat)))) J (by congr 3;omega) ?_;refine gx J<|cl J (Et (a:=q.den) (by omega)) J<|?_;exact rz J J
def ur{q:Rat}{i:Nat}[h:BQ q i](hi:i<=900000000:=by decide):PF GB prog 117 [eF q] (eI q.num):=by
 refine fn func117 J J ntmps117 J J (fun C=>?_);refine br (v1:=fun hc5=>by simp only[ah];exact hc5) (fu2:=⟨6⟩) J J J (fun hc5=>?_) (fun hc5=>?_)
 .
  refine cl J (vk (neg:=decide (q.num<0)) (a:=q.num.natAbs) (by omega)) J<|?_;exact rz J (by rw[lj];rfl)
 .
  have hs:=o5 (m8 hc5);refine aj 13 (.d (vI q.num)) J (by rw[l9 (m8 hc5)]) ?_;refine gx J<|cl J (F5 (by omega) (by omega)) J<|?_;exact rz J J
def td{q:Rat}{i:Nat}[h:BQ q i](hi:i<=900000000:=by decide):PF GB prog 157 [eF q] (eF (-q)):=by
 refine fn func157 J J ntmps157 J J (fun C=>?_);refine br (v1:=fun hc5=>by simp only[ah];exact hc5) (fu2:=⟨6⟩) J J J (fun hc5=>?_) (fun hc5=>?_)
 .
  refine cl (fu:=⟨6⟩) (hv:=by simp only[ah];exact hc5) J (TU (m:=q.num) (by omega)) J<|Tx J J<|?_;exact jo J (JI (q:= -q) (fun k=>SB hc5 (by rw[mQ,iS,oS] at k;exact k)) (by rw[mQ]) (by rw[mQ]) (oS q) J)
 .
  have hs:=o5 (m8 hc5);refine aj 21 (.d (vI q.num)) J (by rw[l9 (m8 hc5)]) ?_;refine gx J<|?_;exact jo J (rO (q:= -q) (fun k=>k (by rw[mQ,iS,oS];exact⟨hs,o4 (m8 hc5)⟩)) (by rw[mQ]) (by rw[oS,nq (m8 hc5)]) J)
def l8{q:Rat}{i:Nat}[h:BQ q i](hi:i<=900000000:=by decide):PF GB prog 112 [eF q] (vI q.num.sign):=by
 refine fn func112 J J ntmps112 J J (fun C=>?_);refine br (v1:=fun hc3=>by simp only[ah];exact hc3) J J J (fun hc3=>?_) (fun hc3=>?_)
 .
  refine cl J (PE (n:=decide (q.num<0)) (a:=q.num.natAbs) (by omega)) J<|?_;exact rz J (by rw[lj];rfl)
 .
  have hs:=l9 (m8 hc3);refine br J J J (fun hc13=>?_) (fun hc13=>?_)
  .
   exact rz J (by rw[fX (by omega)];rfl)
  .
   refine br J J J (fun hc17=>?_) (fun hc17=>?_)
   .
    exact rz J (by rw[fK (by omega)];rfl)
   .
    exact rz J (by rw[show q.num=0 by omega];rfl)
end Go.Sx
end
