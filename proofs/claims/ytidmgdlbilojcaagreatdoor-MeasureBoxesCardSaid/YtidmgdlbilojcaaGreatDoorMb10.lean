import Derived.Test.YtidmgdlbilojcaaGreatDoorMb9
set_option linter.all false
set_option maxHeartbeats 2000000
set_option maxRecDepth 100000
section
namespace Go.Sx
open Go
def dU(d:Nat):DV:= .v (.int .u32 (d:Int))
def fp(ds:List Nat):DV:= .sl (ds.map dU)
def dN(n:Nat):DV:= .sl ((dg n).map dU)
def dD(n:Nat):DV:= .sl (if n=1 then [] else(dg n).map dU)
def eI(m:Int):DV:= .ag [.v (.bool (decide (m<0))),dN m.natAbs]
def eQ(q:Rat):DV:= .ag [.v (.bool (decide (q.num<0))),dN q.num.natAbs,dD q.den]
def eP(p:ab):DV:= .ag [.v (.bool (decide (p.x.num<0))),dN p.x.num.natAbs,dD p.x.den, .v (.bool (decide (p.y.num<0))),dN p.y.num.natAbs,dD p.y.den]
def eL(l:aa):DV:= .ag [.v (.bool (decide (l.a<0))),dN l.a.natAbs, .v (.bool (decide (l.b<0))),dN l.b.natAbs, .v (.bool (decide (l.c<0))),dN l.c.natAbs]
def eR(q:Rat):DV:= .ag [.v (.bool (decide (q.num<0))),dN q.num.natAbs,dN q.den]
def jG(p:ab):DV:= .ag [.v (.bool (decide (p.x.num<0))),dN p.x.num.natAbs,dN p.x.den, .v (.bool (decide (p.y.num<0))),dN p.y.num.natAbs,dN p.y.den]
def vI(n:Int):DV:= .v (.int .i64 n)
def vB(b:Bool):DV:= .v (.bool b)
def Iy(n:Nat):dN n=fp (dg n):=rfl
def YP{ds:List Nat}(h:bi ds):fp (trimD ds)=dN (dv ds):=by unfold fp dN;rw[qe h]
def ayL{ds:List Nat}{i:Nat}(h:i<ds.length):(ds.map dU)[i]? =some (dU (ds.getD i 0)):=by
 rw[cV,aZ h,aX,aZ h];rfl
def m7{ds:List Nat}{i:Nat}(h:i<ds.length):(ds.map dU)[(i:Int).toNat]? =some (dU (ds.getD i 0)):=by rw[bJ];exact ayL h
def uV(ds:List Nat)(i d:Nat):(ds.map dU).set i (.v (.int .u32 (d:Int)))=(ds.set i d).map dU:=by rw[kL];rfl
def wY(n:Nat):List.replicate n (DV.v (.int .u32 0))=(List.replicate n 0).map dU:=by rw[List.map_replicate];rfl
def vK(ds:List Nat):cP 1 (ds.map dU):=fun d hd=>by
 obtain⟨n,_,rfl⟩:=bQ.1 hd;exact⟨rfl,rfl⟩
def ik(n:Nat)(i:Nat):(dg n).getD i 0<4294967296:=(eE n).2.1.get i
def zb:dg 0=[]:=by rw[dg,dif_pos J]
def Co:dg 1=[1]:=by rw[dg,dif_neg (by decide)];simp[zb]
def xg{n:Nat}:(dg n).length=0↔n=0:=by
 constructor
 ·intro h
  have:=(eE n).1;rw[bU h] at this;exact this.symm
 ·rintro rfl;rw[zb];rfl
def p9:dN 0= .sl []:=by unfold dN;rw[zb];rfl
def FO{G:Gh}: ∀{ds:List Nat} {es:List Value},IsLs G (ds.map dU) es↔es=ds.map dI
 |[],es=>eG
 |d::t,es=>by
  rw[cK,bh];constructor
  ·rintro ⟨y,n,rfl,h1,h2⟩
   rw[aI.1 h1,FO.1 h2];rfl
  ·rintro rfl
   exact⟨_,_,J,aI.2 J,FO.2 J⟩
def Lc{G:Gh}{ds:List Nat}{v:Value}:Is G (fp ds) v↔ ∃x:SV,v= .slice x.a x.n x.c/\eH G 1 x (ds.map dI):=by
 unfold fp;rw[iB];constructor
 ·rintro ⟨s,x,es,rfl,h1,h2⟩
  have:=FO.1 h2;subst this;refine⟨x,J,?_⟩;rcases CE (s:=1) h1 h2 (vK ds) with h|h
  ·rw[h] at h1⊢
   exact⟨h1.len,h1.cap, .inl J⟩
  ·subst h;exact h1
 ·rintro ⟨x,rfl,h⟩
  exact⟨1,x,_,J,h,FO.2 J⟩
def aHb{G:Gh}{n k:Nat}{v:Value}(hk:n<2^k):Is G (dN n) v↔ ∃x:SV,v= .slice x.a x.n x.c/\fI k G x n:=by
 rw[Iy,Lc];constructor
 ·rintro ⟨x,rfl,h⟩
  exact⟨x,J,⟨(eE n).2.1,h⟩,hk⟩
 ·rintro ⟨x,rfl,h⟩
  exact⟨x,J,h.d.sl⟩
def gE{ds:List Nat}{i:Int}{k:Nat}(hi:i=k)(h:k<ds.length):(ds.map dU)[i.toNat]? =some (dU (ds.getD k 0)):=by subst hi;exact m7 h
class BN (n:Nat) (k:outParam Nat):Prop where h:n<2^k
class BI (m:Int) (k:outParam Nat):Prop where h:m.natAbs<2^k
class BQ (q:Rat) (k:outParam Nat):Prop where
 hn:q.num.natAbs<2^k
 hd:q.den<2^k
theorem BN.mono{n k k':Nat}(h:BN n k)(hk:k<=k'):BN n k':=⟨dW h.h (bY (by decide) hk)⟩
def pe{a b i j:Nat}(h:a<2^i)(k:b<2^j):a*b<2^(i+j):=by rw[fJ];exact pX h k
def De{a b i j:Nat}(h:a<2^i)(k:b<2^j):a+b<2^(i+j+1):=by
 have h1:2^i<=2^(i+j):=bY (by decide) (by omega);have h2:2^j<=2^(i+j):=bY (by decide) (by omega);rw[fR];omega
instance BN.mul (a b i j:Nat) [h:BN a i] [k:BN b j]:BN (a*b) (i+j):=⟨pe h.h k.h⟩
instance BN.add (a b i j:Nat) [h:BN a i] [k:BN b j]:BN (a+b) (i+j+1):=⟨De h.h k.h⟩
instance BN.sub (a b i:Nat) [h:BN a i]:BN (a-b) i:=⟨by have:=h.h;omega⟩
instance BN.div (a b i:Nat) [h:BN a i]:BN (a/b) i:=⟨fT (kM _ _) h.h⟩
instance BN.abs (m:Int) (i:Nat) [h:BI m i]:BN m.natAbs i:=⟨h.h⟩
instance BN.den (q:Rat) (i:Nat) [h:BQ q i]:BN q.den i:=⟨h.hd⟩
def I2{a b i j:Nat}(h:a<2^i)(k:b<2^j):Nat.gcd a b<2^(i+j):=by
 have h1:2^i<=2^(i+j):=bY (by decide) (by omega);have h2:2^j<=2^(i+j):=bY (by decide) (by omega);rcases fX a with h0|h0
 ·subst h0;rw[Nat.gcd_zero_left];omega
 ·have:=Nat.gcd_le_left b h0;omega
instance BN.gcd (a b i j:Nat) [h:BN a i] [k:BN b j]:BN (Nat.gcd a b) (i+j):=⟨I2 h.h k.h⟩
instance BN.one:BN 1 1:=⟨by decide⟩
instance BN.zero:BN 0 0:=⟨by decide⟩
instance BI.mul (a b:Int) (i j:Nat) [h:BI a i] [k:BI b j]:BI (a*b) (i+j):=⟨by rw[jK];exact pe h.h k.h⟩
instance BI.add (a b:Int) (i j:Nat) [h:BI a i] [k:BI b j]:BI (a+b) (i+j+1):=⟨fT (Int.natAbs_add_le a b) (De h.h k.h)⟩
instance BI.sub (a b:Int) (i j:Nat) [h:BI a i] [k:BI b j]:BI (a-b) (i+j+1):=⟨fT (Int.natAbs_sub_le a b) (De h.h k.h)⟩
instance BI.neg (a:Int) (i:Nat) [h:BI a i]:BI (-a) i:=⟨by rw[iJ];exact h.h⟩
instance BI.num (q:Rat) (i:Nat) [h:BQ q i]:BI q.num i:=⟨h.hn⟩
instance BI.nat (n:Nat) (i:Nat) [h:BN n i]:BI (n:Int) i:=⟨by rw[iL];exact h.h⟩
def nv(q:Rat):0<q.den:=iS q.den_nz
theorem wm{m:Int}{d i:Nat}(hd:0<d)(h:m.natAbs<2^i)(k:d<2^i):BQ (mkRat m d) i:=by
 refine⟨?_,?_⟩
 ·rw[Rat.num_mkRat,if_neg (by omega)]
  have:=nM m (d.gcd m.natAbs:Nat);omega
 ·rw[Rat.den_mkRat,if_neg (by omega)]
  have:=kM d (d.gcd m.natAbs);omega
theorem BQ.mono{q:Rat}{k k':Nat}(h:BQ q k)(hk:k<=k'):BQ q k':=⟨dW h.hn (bY (by decide) hk),dW h.hd (bY (by decide) hk)⟩
def BA(p q:Rat):p*q=mkRat (p.num*q.num) (p.den*q.den):=by rw[Rat.mul_def,Rat.normalize_eq_mkRat]
def B4(p q:Rat):p+q=mkRat (p.num*q.den+q.num*p.den) (p.den*q.den):=by rw[Rat.add_def,Rat.normalize_eq_mkRat]
instance BQ.mul (p q:Rat) (i j:Nat) [h:BQ p i] [k:BQ q j]:BQ (p*q) (i+j):=by
 rw[BA];exact wm (gU (nv p) (nv q)) (BI.mul p.num q.num i j).h (pe h.hd k.hd)
instance BQ.add (p q:Rat) (i j:Nat) [h:BQ p i] [k:BQ q j]:BQ (p+q) (i+j+1):=by
 rw[B4];refine wm (gU (nv p) (nv q)) ?_ ?_
 ·have h1:=pe h.hn k.hd
  have h2:=pe k.hn h.hd;have h3:(p.num*q.den+q.num*p.den).natAbs<=(p.num*q.den).natAbs+(q.num*p.den).natAbs:=Int.natAbs_add_le ..;rw[jK,jK,iL,iL] at h3;rw[kZ j i] at h2;rw[fR];omega
 ·have h1:=pe h.hd k.hd
  rw[fR];omega
instance BQ.neg (p:Rat) (i:Nat) [h:BQ p i]:BQ (-p) i:=⟨by rw[nJ,iJ];exact h.hn,by rw[qQ];exact h.hd⟩
instance BQ.sub (p q:Rat) (i j:Nat) [h:BQ p i] [k:BQ q j]:BQ (p-q) (i+j+1):=by
 rw[Rat.sub_eq_add_neg];exact BQ.add p (-q) i j
instance BQ.ofInt (m:Int) (i:Nat) [h:BI m i]:BQ (m:Rat) (i+1):=by
 refine⟨?_,?_⟩
 ·rw[qN];have:=h.h;rw[fR];omega
 ·rw[rQ];have:0<2^i:=fY (by decide);rw[fR];omega
end Go.Sx
end
section
namespace Go.Sx
open Go Go.Proofs Tryz
variable {GB:Gh}
def FE(p q:Int):Nat:=(BitVec.ofInt 32 p &&& BitVec.ofInt 32 q).toNat
def Hm(p q:Int):Nat:=(BitVec.ofInt 32 p ||| BitVec.ofInt 32 q).toNat
def Bp(p q:Int):Nat:=(BitVec.ofInt 32 p^^^BitVec.ofInt 32 q).toNat
def atb{ds:List Nat}{n:Nat}(h:0<n/\n<=ds.length)(hz:ds.getD (n-1) 0=0):trimD (ds.take n)=trimD (ds.take (n-1)):=by
 obtain⟨m,rfl⟩: ∃m,n=m+1:=⟨n-1,by omega⟩;rw[fN (by omega),lQ];rw[lQ,aX,aZ (by omega)] at hz;simp only[lX] at hz;rw[hz,Lx]
def TR{ds:List Nat}{n:Nat}(h:n<=ds.length)(hz:0<n->ds.getD (n-1) 0≠0):trimD (ds.take n)=ds.take n:=by
 rcases fX n with h0|h0
 ·subst h0;simp[trimD]
 ·obtain⟨m,rfl⟩: ∃m,n=m+1:=⟨n-1,by omega⟩
  have hz:=hz h0;rw[fN (by omega)];rw[lQ,aX,aZ (by omega)] at hz;exact Jt (by simpa using hz)
def UQ{x y c:Nat}(hx:x<4294967296)(hy:y<4294967296)(hc:c<=1):PF GB prog 169 [.v (.int .u32 (x:Int)), .v (.int .u32 (y:Int)), .v (.int .u32 (c:Int))] (.tp [.v (.int .u32 (((x+y+c)%4294967296:Nat):Int)), .v (.int .u32 (((x+y+c)/4294967296:Nat):Int))]):=by
 refine fn (hv:=by simp only[ac];exact⟨⟨⟨⟨⟨by omega,by omega⟩,by omega⟩,by omega⟩,by omega⟩,(by decide)⟩) func169 J J ntmps169 J J (fun C=>?_);exact rz J (by
  have e1:((x:Int)+y+c)%4294967296=(((x+y+c)%4294967296:Nat):Int):=by omega
  have e2:((x:Int)+y+c).fdiv (2^min (32:Int).toNat IntKind.u64.bits)%4294967296=(((x+y+c)/4294967296:Nat):Int):=by
   rw[show(2:Int)^min (32:Int).toNat IntKind.u64.bits=((4294967296:Nat):Int) from J,gL _ (by decide)];omega
  show DV.tp [.v (.int _ _), .v (.int _ _)]=_;rw[e1,e2])
def Ka(n:Nat)(h:n<4294967296):(BitVec.ofInt 32 (n:Int)).msb=decide (2147483648<=n):=by
 rw[show BitVec.ofInt 32 (n:Int)=BitVec.ofNat 32 n from BitVec.ofInt_natCast ..];rw[BitVec.msb_eq_decide,BitVec.toNat_ofNat,eX (by simpa using h)]
def ZG(b:BitVec 32):b.toNat/2147483648=if b.msb then 1 else 0:=by
 have:=b.isLt;rw[BitVec.msb_eq_decide];simp only[decide_eq_true_eq,Nat.reduceSub,Nat.reducePow] at*;split<;>omega
def Y0(b:BitVec 32):BitVec.ofInt 32 (b.toNat:Int)=b:=by rw[BitVec.ofInt_natCast,BitVec.ofNat_toNat,BitVec.setWidth_eq]
def WH{x y c:Nat}(hx:x<4294967296)(hy:y<4294967296)(hc:c<=1):
  ((Hm (FE (Bp IntKind.u32.max x:Nat) y:Nat) (FE (Bp IntKind.u32.max (Bp x y:Nat):Nat) (IntKind.u32.wrap (IntKind.u32.wrap ((x:Int)-y)-c)):Nat):Nat):Int).fdiv (2^min (31:Int).toNat IntKind.u32.bits)=(((if x<y+c then 1 else 0):Nat):Int):=by
 rw[show((2:Int)^min (31:Int).toNat IntKind.u32.bits)=((2147483648:Nat):Int) from J,gL _ (by decide),<-qV];congr 1;have hd: ∃d:Nat,d<4294967296/\IntKind.u32.wrap (IntKind.u32.wrap ((x:Int)-y)-c)=(d:Int)/\((x>=y+c/\d=x-(y+c))\/(x<y+c/\d=x+4294967296-(y+c))):=by
  rw[qo,qo];refine⟨((((x:Int)-y)%4294967296-c)%4294967296).toNat,by omega,by omega,by omega⟩
 obtain⟨d,hd1,hd2,hd3⟩:=hd;rw[hd2];unfold Hm FE Bp;simp only[Y0];rw[ZG];simp only[BitVec.msb_or,BitVec.msb_and,BitVec.msb_xor,Ka x hx,Ka y hy,Ka d hd1];have h1:(BitVec.ofInt 32 IntKind.u32.max).msb=true:=by decide
 rw[h1];rcases iT x 2147483648 with a|a<;>rcases iT y 2147483648 with b|b<;>rcases iT d 2147483648 with e|e<;>
  simp[Nat.not_le.2, *]<;>(first|omega|(split<;>omega))
def V'{x y c:Nat}(hx:x<4294967296)(hy:y<4294967296)(hc:c<=1):IntKind.u32.wrap (IntKind.u32.wrap ((x:Int)-y)-c)=(((if x<y+c then x+4294967296-(y+c) else x-(y+c)):Nat):Int):=by
 rw[qo,qo];split<;>omega
def Vu{x y c:Nat}(hx:x<4294967296)(hy:y<4294967296)(hc:c<=1):PF GB prog 171 [.v (.int .u32 (x:Int)), .v (.int .u32 (y:Int)), .v (.int .u32 (c:Int))] (.tp [.v (.int .u32 (((if x<y+c then x+4294967296-(y+c) else x-(y+c)):Nat):Int)), .v (.int .u32 (((if x<y+c then 1 else 0):Nat):Int))]):=by
 refine fn (fu:=⟨10⟩) func171 J J ntmps171 J J (fun C=>?_);refine sw (fu:=⟨1⟩) _ J (qo _).symm J<|sw (fu:=⟨6⟩) _ J (qo _).symm J<|nt (fu:=⟨4⟩) _ J J J<|xr (fu:=⟨0⟩) _ J J J<|nt _ J J J<|?_;exact rz J (by have h1:=WH hx hy hc;unfold Hm FE Bp at h1;show DV.tp [.v (.int _ _), .v (.int _ _)]=_;rw[h1,V' hx hy hc])
def rH{ds:List Nat}(hl:ds.length<=1125899906842624):PF GB prog 115 [fp ds] (fp (trimD ds)):=by
 refine fn func115 J J ntmps115 J J (fun C=>?_);refine lp (X:=Nat) (fun n=>[(0, .d (fp ds)),(3, .d (vI (n:Nat)))]) (fun n=>[]) (fun n=>n<=ds.length/\trimD ds=trimD (ds.take n)) (fun n=>n) ds.length J ⟨aN _,by rw[dJ]⟩ (fun _=>J) (fun n hk=>?_);obtain⟨h1,h2⟩:=hk;refine cs 8 J J J (fun hg8=>?_) (fun hg8=>?_)
 .
  refine ix _ J (gE (k:=n-1) (by omega) (by omega)) J<|?_;refine br J J J (fun hc15=>?_) (fun hc15=>?_)
  .
   have hz:ds.getD (n-1) 0=0:=by omega
   exact at_ (n-1) ⟨⟨by omega,by rw[h2,atb (by omega) hz]⟩,(by omega)⟩
  .
   refine m6 0 n _ J J J J (vK _) (by omega) (by simp;omega) J<|?_;exact rz J (by have:=TR h1 (fun _ h=>hc15 (by omega));rw[<-h2] at this;show DV.sl _=_;simp[fp,this])
 .
  refine m6 0 n _ J J J J (vK _) (by omega) (by simp;omega) J<|?_;exact rz rfl (by obtain rfl:n=0:=(by omega);show DV.sl _=_;simp[fp,h2,trimD])
def uW{a k:Nat}(h:a<2^k)(hk:k<=1000000000):(dg a).length<=100000000:=by have:=lw h;omega
def ck(a:Nat):dv (dg a)=a:=(eE a).1
def kG(a:Nat):bi (dg a):=(eE a).2.1
def fg(ds:List Nat):(ds.map dU).length=ds.length:=aK ..
def pk{ds:List Nat}{n:Nat}(h:ds.length<=n):ds.take n=ds:=aL h
def vg{ds:List Nat}{i:Nat}(h:ds.length<=i):ds.getD i 0=0:=by
 rw[aX,cM h];rfl
def th{ds:List Nat}{n:Nat}(h:bi ds)(e:dv ds=n):fp (trimD ds)=dN n:=by rw[YP h,e]
def Hf{a b:Nat}(h:a<b):gz a b= -1:=by unfold gz;rw[if_pos h]
def Jy{a b:Nat}(h:b<a):gz a b=1:=by unfold gz;rw[if_neg (by omega),if_neg (by omega)]
def aBj{a b:Nat}(h:a=b):gz a b=0:=by unfold gz;rw[if_neg (by omega),if_pos h]
def Yz(m n:Nat):Int.sign ((m:Int)-n)=gz m n:=by
 unfold gz;split
 ·exact fK (by omega)
 ·split
  ·rw[show(m:Int)-n=0 by omega];rfl
  ·exact fW (by omega)
def axB{a b:Nat}(h:(dg a).length≠(dg b).length):gz (dg a).length (dg b).length=gz a b:=by
 rcases Nat.lt_or_gt_of_ne h with h|h
 ·have:=tM (kG a) (eE b).2.2 h
  rw[ck,ck] at this;rw[Hf h,Hf this]
 ·have:=tM (kG b) (eE a).2.2 h
  rw[ck,ck] at this;rw[Jy h,Jy this]
def Ih{a b i:Nat}(hl:(dg a).length=(dg b).length)(hi:i<(dg a).length)(hs:(dg a).drop (i+1)=(dg b).drop (i+1)):
  ((dg a).getD i 0<(dg b).getD i 0->a<b)/\((dg b).getD i 0<(dg a).getD i 0->b<a)/\((dg a).getD i 0=(dg b).getD i 0->(dg a).drop i=(dg b).drop i):=by
 refine⟨fun h=>?_,fun h=>?_,fun h=>?_⟩
 ·have:=D2 (kG a) (kG b) i hi (by omega) hl hs h
  rwa [ck,ck] at this
 ·have:=D2 (kG b) (kG a) i (by omega) hi hl.symm hs.symm h
  rwa [ck,ck] at this
 ·rw[bZ hi,bZ (by omega:i<(dg b).length),hs]
  rw[aX,aX,aZ hi,aZ (by omega:i<(dg b).length)] at h;simp only[lX] at h;rw[h]
def WF{z:Int}:PF GB prog 170 [vI z] (vI z.sign):=by
 refine fn func170 J J ntmps170 J J (fun C=>?_);refine br J J J (fun hc4=>?_) (fun hc4=>?_)
 .
  exact rz J (by show DV.v (.int _ 1)=DV.v (.int _ _);rw[fW (by omega)])
 .
  refine br J J J (fun hc6=>?_) (fun hc6=>?_)
  .
   exact rz J (by show DV.v (.int _ (-1))=DV.v (.int _ _);rw[fK (by omega)])
  .
   exact rz J (by show DV.v (.int _ 0)=DV.v (.int _ _);rw[show z=0 by omega];rfl)
def avV(u:Nat):dv [u%4294967296,u/4294967296]=u:=by simp only[dv];omega
def aFh{u:Nat}(h:u<18446744073709551616):bi [u%4294967296,u/4294967296]:= .cons (by omega) (.cons (by omega) .nil)
def Hu(u:Nat):(u:Int).fdiv (2^min (32:Int).toNat IntKind.u64.bits)=((u/4294967296:Nat):Int):=by
 rw[show(2:Int)^min (32:Int).toNat IntKind.u64.bits=((4294967296:Nat):Int) from J,gL _ (by decide)];rfl
def sG{u:Nat}(hu:u<18446744073709551616):PF GB prog 114 [.v (.int .u64 (u:Int))] (dN u):=by
 refine fn (fu:=⟨11⟩) (hv:=by simp only[ac];exact(by decide)) func114 J J ntmps114 J J (fun C=>?_);refine aj 6 (.d (.v (.int .u64 (u/4294967296:Nat)))) J (by rw[Hu]) ?_;refine gx J<|rf (fu:=⟨0⟩) J J<|?_;refine aj 8 (.d (fp [u%4294967296,u/4294967296])) J (by show FX.d (.sl [.v (.int _ _), .v (.int _ _)])= .d (.sl [.v (.int _ _), .v (.int _ _)]);congr 6;omega) ?_;refine gx J<|cl J (rH (ds:=[u%4294967296,u/4294967296]) (by simp)) J<|?_;exact rz J (th (aFh hu) (avV u))
def GU:PF GB prog 112 [] (dN 1):=by
 refine fn func112 J J ntmps112 J J (fun C=>?_);refine rf J J<|?_;exact rz J (by unfold dN;rw[Co];rfl)
def Cd{a b:Nat}(ha:(dg a).length<=100000000)(hb:(dg b).length<=100000000):PF GB prog 109 [dN a,dN b] (vI (gz a b)):=by
 have hla:=fg (dg a);have hlb:=fg (dg b);refine fn func109 J J ntmps109 J J (fun C=>?_);refine br J J J (fun hc10=>?_) (fun hc10=>?_)
 .
  refine cl J WF J<|?_;exact rz J (by show DV.v (.int _ _)=DV.v (.int _ _);rw[hla,hlb,Yz,axB (by omega)])
 .
  have hl:(dg a).length=(dg b).length:=by omega
  refine lp (X:=Nat) (fun k=>[(0, .d (dN a)),(1, .d (dN b)),(5, .d (vI ((k:Nat)-1)))]) (fun k=>[]) (fun k=>k<=(dg a).length/\(dg a).drop k=(dg b).drop k) (fun k=>k) (dg a).length J ⟨aN _,by rw[fV,hl,fV]⟩ (fun _=>J) (fun k hk=>?_);obtain⟨h1,h2⟩:=hk;refine br J J J (fun hc21=>?_) (fun hc21=>?_)
  .
   obtain⟨k,rfl⟩: ∃m,k=m+1:=⟨k-1,by omega⟩;refine ix _ J (gE (k:=k) (by omega) (by omega)) J<|ix _ J (gE (k:=k) (by omega) (by omega)) J<|?_;refine br J J J (fun hc32=>?_) (fun hc32=>?_)
   .
    exact rz J (by show DV.v (.int _ 1)=DV.v (.int _ _);rw[Jy ((Ih hl (by omega) h2).2.1 (by omega))])
   .
    refine ix _ J (gE (k:=k) (by omega) (by omega)) J<|ix _ J (gE (k:=k) (by omega) (by omega)) J<|?_;refine br J J J (fun hc41=>?_) (fun hc41=>?_)
    .
     exact rz J (by show DV.v (.int _ (-1))=DV.v (.int _ _);rw[Hf ((Ih hl (by omega) h2).1 (by omega))])
    .
     exact at_ k ⟨⟨by omega,(Ih (i:=k) hl (by omega) h2).2.2 (by omega)⟩,(by omega)⟩
  .
   exact rz rfl (by show DV.v (.int _ 0)=DV.v (.int _ _);rw[aBj];obtain rfl:k=0:=(by omega);rw[iX,iX] at h2;rw[<-ck a,h2,ck])
def aC2{A B W:List Nat}{i c:Nat}(hi:i<W.length)(h:dv (W.take i)+4294967296^i*c=dv (A.take i)+dv (B.take i)):
  dv ((W.set i ((A.getD i 0+B.getD i 0+c)%4294967296)).take (i+1))+4294967296^(i+1)*((A.getD i 0+B.getD i 0+c)/4294967296)=dv (A.take (i+1))+dv (B.take (i+1)):=by
 rw[qq hi,jf A,jf B,fR,show A.getD i 0+B.getD i 0+c=c+A.getD i 0+B.getD i 0 by omega];exact S5 h
def aBu{a b n:Nat}{W:List Nat}{c:Nat}(hn:n=max (dg a).length (dg b).length)(hl:W.length=n+1)(h:dv (W.take n)+4294967296^n*c=dv ((dg a).take n)+dv ((dg b).take n)):dv (W.set n c)=a+b:=by
 have e:=qq (ws:=W) (k:=n) (d:=c) (by omega);rw[pk (by rw[aM];omega)] at e;rw[e,h,pk (by omega),pk (by omega),ck,ck]
def VX{a b ia ib:Nat}[ha:BN a ia][hb:BN b ib](hi:ia<=1000000000:=by decide)(hj:ib<=1000000000:=by decide):PF GB prog 108 [dN a,dN b] (dN (a+b)):=by
 have hla:=fg (dg a);have hlb:=fg (dg b);have hba:=uW ha.h hi;have hbb:=uW hb.h hj;refine fn (fu:=⟨12⟩) func108 J J ntmps108 J J (fun C=>?_);obtain⟨n,hn⟩: ∃n,n=max (dg a).length (dg b).length:=⟨_,rfl⟩;refine aj 15 (.d (vI (n:Nat))) J (by show FX.d (.v (.int _ _))= .d (.v (.int _ _));congr 3;split<;>omega) ?_;refine gx J<|mk ((List.replicate (n+1) 0).map dU) J J (by rw[<-wY];rfl) J<|?_;refine lp (X:=List Nat×Nat×Nat) (fun⟨W,c,i⟩=>[(0, .d (dN a)),(1, .d (dN b)),(5, .d (vI (n:Nat))),(6, .rw 18),(7, .d (.v (.int .u32 (c:Nat)))),(8, .d (vI (i:Nat)))]) (fun⟨W,c,i⟩=>[(18,some (.b 215 1 (W.map dU) true))]) (fun⟨W,c,i⟩=>W.length=n+1/\bi W/\c<=1/\i<=n/\dv (W.take i)+4294967296^i*c=dv ((dg a).take i)+dv ((dg b).take i)) (fun⟨W,c,i⟩=>n-i) ⟨List.replicate (n+1) 0,0,0⟩ J ⟨by simp, .replicate _,by omega,by omega,by simp[dv]⟩ (fun _=>J) (fun⟨W,c,i⟩ hk=>?_);dsimp only at hk⊢;obtain⟨h1,h2,h3,h4,h5⟩:=hk;have hlw:=fg W;have hda:=ik a i;have hdb:=ik b i;refine br (fu1:=⟨11⟩) J J J (fun hc21=>?_) (fun hc21=>?_)
 .
  refine mg (fu:=⟨1⟩) (X:=Unit) (fun _=>[(0, .d (dN a)),(1, .d (dN b)),(5, .d (vI (n:Nat))),(6, .rw 18),(7, .d (.v (.int .u32 (c:Nat)))),(8, .d (vI (i:Nat))),(9, .d (dU ((dg a).getD i 0))),(10, .d (.v (.int .u32 0)))]) (fun _=>[(18,some (.b 215 1 (W.map dU) true))]) (fun _=>True) [0,1,5,6,7,8,9,10] [18] rfl ?_ (fun _=>J) (fun _ hm=>?_)
  .
   refine gx J<|?_;refine br J J J (fun hc27=>?_) (fun hc27=>?_)
   .
    refine ix _ J (m7 (by omega)) J<|?_;exact at_ () trivial
   .
    refine aj 9 (.d (dU ((dg a).getD i 0))) J (by rw[vg (by omega)];rfl) ?_;exact at_ () trivial
  .
   refine mg (X:=Unit) (fun _=>[(0, .d (dN a)),(1, .d (dN b)),(5, .d (vI (n:Nat))),(6, .rw 18),(7, .d (.v (.int .u32 (c:Nat)))),(8, .d (vI (i:Nat))),(9, .d (dU ((dg a).getD i 0))),(10, .d (dU ((dg b).getD i 0)))]) (fun _=>[(18,some (.b 215 1 (W.map dU) true))]) (fun _=>True) [0,1,5,6,7,8,9,10] [18] rfl ?_ (fun _=>J) (fun _ hm=>?_)
   .
    refine gx J<|?_;refine br J J J (fun hc35=>?_) (fun hc35=>?_)
    .
     refine ix _ J (m7 (by omega)) J<|?_;exact at_ () trivial
    .
     refine aj 10 (.d (dU ((dg b).getD i 0))) J (by rw[vg (by omega)];rfl) ?_;exact at_ () trivial
   .
    refine cl J (UQ (by omega) (by omega) (by omega)) J<|sb _ ((W.set i (((dg a).getD i 0+(dg b).getD i 0+c)%4294967296)).map dU) J (m7 (by omega)) J (by rw[<-uV];rfl) J<|?_;exact at_ ⟨W.set i (((dg a).getD i 0+(dg b).getD i 0+c)%4294967296),((dg a).getD i 0+(dg b).getD i 0+c)/4294967296,i+1⟩ (by dsimp only;exact⟨⟨by simpa using h1,h2.set _ (by omega),by omega,by omega,aC2 (by omega) h5⟩,(by omega)⟩)
 .
  obtain rfl:i=n:=by omega
  refine sb _ ((W.set i c).map dU) J (m7 (by omega)) J (by rw[<-uV];rfl) J<|fz 18 J J<|cl J (rH (ds:=W.set i c) (by simp;omega)) J<|?_;exact rz J (th (h2.set _ (by omega)) (aBu hn h1 h5))
def Xs{A B W:List Nat}{i c d c2:Nat}(hA:bi A)(hB:bi B)(hi:i<W.length)(hc:c<=1)(h:dv (W.take i)+dv (B.take i)=dv (A.take i)+4294967296^i*c)
  (hd:d=if A.getD i 0<B.getD i 0+c then A.getD i 0+4294967296-(B.getD i 0+c) else A.getD i 0-(B.getD i 0+c))(hc2:c2=if A.getD i 0<B.getD i 0+c then 1 else 0):
  dv ((W.set i d).take (i+1))+dv (B.take (i+1))=dv (A.take (i+1))+4294967296^(i+1)*c2:=by
 have h1:=hA.get i;have h2:=hB.get i;rw[qq hi,jf A,jf B,fR];split at hd
 ·rename_i q
  rw[if_pos q] at hc2;subst hc2 hd;rw[kZ (B.getD i 0) c];exact Mi h (by omega) (by omega)
 ·rename_i q
  rw[if_neg q] at hc2;subst hc2 hd;rw[kZ (B.getD i 0) c];exact OP h (by omega)
def axH{a b c:Nat}{W:List Nat}(hw:bi W)(hl:W.length=(dg a).length)(hb:b<=a)(h:dv (W.take (dg a).length)+dv ((dg b).take (dg a).length)=dv ((dg a).take (dg a).length)+4294967296^(dg a).length*c):dv W=a-b:=by
 have hlb:(dg b).length<=(dg a).length:=by
  rcases iT (dg a).length (dg b).length with q|q
  ·have:=tM (kG a) (eE b).2.2 q
   rw[ck,ck] at this;omega
  ·exact q
 rw[pk (by omega),pk hlb,pk (aN _),ck,ck] at h;have h2:=jB hw;rw[hl] at h2;rcases fX c with q|q
 ·subst q;omega
 ·have:4294967296^(dg a).length*1<=4294967296^(dg a).length*c:=fZ _ q
  omega
def GZ{a b ia:Nat}[ha:BN a ia](hb:b<=a)(hi:ia<=1000000000:=by decide):PF GB prog 110 [dN a,dN b] (dN (a-b)):=by
 have hla:=fg (dg a);have hlb:=fg (dg b);have hba:=uW ha.h hi;refine fn (fu:=⟨9⟩) func110 J J ntmps110 J J (fun C=>?_);refine aj 10 (.d (vI ((dg a).length:Nat))) J (by rw[hla];rfl) ?_;refine gx J<|mk (fu:=⟨13⟩) ((List.replicate (dg a).length 0).map dU) J J (by rw[<-wY];rfl) J<|?_;refine aj 13 (.d (vI ((dg a).length:Nat))) J (by rw[hla];rfl) ?_;refine gx J<|?_;refine lp (X:=List Nat×Nat×Nat) (fun⟨W,c,i⟩=>[(0, .d (dN a)),(1, .d (dN b)),(5, .rw 11),(6, .d (.v (.int .u32 (c:Nat)))),(13, .d (vI ((dg a).length:Nat))),(14, .d (vI (i:Nat)))]) (fun⟨W,c,i⟩=>[(11,some (.b 215 1 (W.map dU) true))]) (fun⟨W,c,i⟩=>W.length=(dg a).length/\bi W/\c<=1/\i<=(dg a).length/\dv (W.take i)+dv ((dg b).take i)=dv ((dg a).take i)+4294967296^i*c) (fun⟨W,c,i⟩=>(dg a).length-i) ⟨List.replicate (dg a).length 0,0,0⟩ J ⟨by simp, .replicate _,by omega,by omega,by simp[dv]⟩ (fun _=>J) (fun⟨W,c,i⟩ hk=>?_);dsimp only at hk⊢;obtain⟨h1,h2,h3,h4,h5⟩:=hk;have hlw:=fg W;have hda:=ik a i;have hdb:=ik b i;refine br (fu1:=⟨16⟩) J J J (fun hc15=>?_) (fun hc15=>?_)
 .
  refine mg (X:=Unit) (fun _=>[(0, .d (dN a)),(1, .d (dN b)),(5, .rw 11),(6, .d (.v (.int .u32 (c:Nat)))),(13, .d (vI ((dg a).length:Nat))),(14, .d (vI (i:Nat))),(7, .d (vI (i:Nat))),(8, .d (dU ((dg b).getD i 0)))]) (fun _=>[(11,some (.b 215 1 (W.map dU) true))]) (fun _=>True) [0,1,5,6,13,14,7,8] [11] rfl ?_ (fun _=>J) (fun _ hm=>?_)
  .
   refine gx J<|?_;refine br J J J (fun hc20=>?_) (fun hc20=>?_)
   .
    refine ix _ J (m7 (by omega)) J<|?_;exact at_ () trivial
   .
    refine aj 8 (.d (dU ((dg b).getD i 0))) J (by rw[vg (by omega)];rfl) ?_;exact at_ () trivial
  .
   refine ix _ J (m7 (by omega)) J<|cl J (Vu (by omega) (by omega) (by omega)) J<|sb _ ((W.set i (if(dg a).getD i 0<(dg b).getD i 0+c then(dg a).getD i 0+4294967296-((dg b).getD i 0+c) else(dg a).getD i 0-((dg b).getD i 0+c))).map dU) J (m7 (by omega)) J (by rw[<-uV];rfl) J<|?_;exact at_ ⟨W.set i (if(dg a).getD i 0<(dg b).getD i 0+c then(dg a).getD i 0+4294967296-((dg b).getD i 0+c) else(dg a).getD i 0-((dg b).getD i 0+c)),(if(dg a).getD i 0<(dg b).getD i 0+c then 1 else 0),i+1⟩ (by dsimp only;exact⟨⟨by simpa using h1,h2.set _ (by split<;>omega),by split<;>omega,by omega,Xs (kG a) (kG b) (by omega) h3 h5 J J⟩,(by omega)⟩)
 .
  obtain rfl:i=(dg a).length:=by omega
  refine fz 11 J J<|cl J (rH (ds:=W) (by omega)) J<|?_;exact rz J (th h2 (axH h2 h1 hb h5))
def yz(n:Nat)(a b k:Nat)(ha:a<2^k)(h:a+b*2^k<2^n):(BitVec.ofInt n (a:Int) ||| BitVec.ofInt n ((b*2^k:Nat):Int)).toNat=a+b*2^k:=by
 rw[BitVec.toNat_or,BitVec.ofInt_natCast,BitVec.ofInt_natCast,BitVec.toNat_ofNat,BitVec.toNat_ofNat,eX (by omega),eX (by omega)];rw[<-lN,Nat.or_comm,<-mJ ha,lN];omega
def Kf{x y:Nat}(hx:x<4294967296)(hy:y<4294967296):x*y<=18446744065119617025:=by
 have:=iW (by omega:x<=4294967295) (by omega:y<=4294967295);exact this
def LU(x y:Nat):(0:Int)<=(x:Int)*(y:Int):=by rw[<-jX];omega
def K5{x y:Nat}(hx:x<4294967296)(hy:y<4294967296):(x:Int)*(y:Int)<=18446744073709551615:=by
 have:=Kf hx hy;rw[<-jX];omega
def ZU{ds:List Nat}(h:ds.length=1):dv ds=ds.getD 0 0:=by
 match ds,h with
 |[d],_=>simp[dv]
def yy{a:Nat}(h:(dg a).length=1):(dg a).getD 0 0=a:=by rw[<-ZU h,ck]
def av0{ds:List Nat}{j m:Nat}(h:j<m):(ds.take m).getD j 0=ds.getD j 0:=by
 rw[aX,aX,pW,if_pos h]
def Mj{W:List Nat}{j m d:Nat}(hj:j<m)(hm:m<=W.length):dv ((W.set j d).take m)+4294967296^j*W.getD j 0=dv (W.take m)+4294967296^j*d:=by
 rw[List.take_set,<-av0 (ds:=W) hj];exact qx _ _ _ (by rw[cW];omega)
def aye{W:List Nat}{P X Y m i k c y t S:Nat}(hk:i+k<m)(hm:m<=W.length)(h:dv (W.take m)+4294967296^(i+k)*c=P+X*(4294967296^i*S))(ht:t=Y+W.getD (i+k) 0+c)(hY:Y=X*y):
  dv ((W.set (i+k) (t%4294967296)).take m)+4294967296^(i+(k+1))*(t/4294967296)=P+X*(4294967296^i*(S+4294967296^k*y)):=by
 have h1:=Mj (W:=W) (d:=t%4294967296) hk hm;rw[ht,show Y+W.getD (i+k) 0+c=c+Y+W.getD (i+k) 0 by omega] at h1⊢;have h2:=Lf h1 h;rw[<-kK,fR,h2,hY,fJ];simp only[dY,cX,lW,bN,kK]
def V7{a b:Nat}{W:List Nat}{i c lb:Nat}(hlb:lb=(dg b).length)(hl:i+lb<W.length)(h:dv (W.take (i+lb))+4294967296^(i+lb)*c=dv ((dg a).take i)*b+(dg a).getD i 0*(4294967296^i*dv ((dg b).take lb))):
  dv ((W.set (i+lb) c).take (i+1+lb))=dv ((dg a).take (i+1))*b:=by
 rw[show i+1+lb=i+lb+1 by omega,qq hl,h,jf,pk (ds:=dg b) (by omega),ck b,cS];simp only[cX,lW,bN]
def S3(n j:Nat):(List.replicate n 0).getD j 0=0:=by
 rw[aX,List.getElem?_replicate];split<;>rfl
def Ck{k:Nat}(h:k<=1000000000):IntKind.i64.wrap ((k:Int).tdiv 32)=((k/32:Nat):Int):=by
 rw[show(k:Int).tdiv 32=((k/32:Nat):Int) from J,KM];omega
def NC(k:Nat):(k:Int).tmod 32=((k%32:Nat):Int):=rfl
def r4{a b ia ib:Nat}[ha:BN a ia][hb:BN b ib](hi:ia<=1000000000:=by decide)(hj:ib<=1000000000:=by decide):PF GB prog 51 [dN a,dN b] (dN (a*b)):=by
 have hla:=fg (dg a);have hlb:=fg (dg b);have hba:=uW ha.h hi;have hbb:=uW hb.h hj;refine fn (fu:=⟨6⟩) func51 J J ntmps51 J J (fun C=>?_);refine mg (fu:=⟨4⟩) (X:=Unit) (fun _=>[(0, .d (dN a)),(1, .d (dN b))]) (fun _=>[]) (fun _=>True) [0,1] [] rfl ?_ (fun _=>J) (fun _ hm=>?_)
 .
  refine gx J<|?_;refine cs 15 J J J (fun hg15=>?_) (fun hg15=>?_)
  .
   refine br J J J (fun hc19=>?_) (fun hc19=>?_)
   .
    have hd0:=ik a 0;have hd1:=ik b 0;refine ix _ J (gE (k:=0) J (by omega)) J<|ix (hv:=by simp only[ac];exact⟨by omega,⟨(LU _ _),(K5 (ik _ _) (ik _ _))⟩⟩) _ J (gE (k:=0) J (by omega)) J<|cl J (sG (u:=(dg a).getD 0 0*(dg b).getD 0 0) (by have:=Kf (ik a 0) (ik b 0);omega)) J<|?_;exact rz J (by rw[yy (by omega),yy (by omega)];rfl)
   .
    exact at_ () trivial
  .
   exact at_ () trivial
 .
  refine aj 31 (.d (vI ((dg a).length:Nat))) J (by rw[hla];rfl) ?_;refine gx (fu:=⟨2⟩) J<|?_;refine aj 33 (.d (vI ((dg b).length:Nat))) J (by rw[hlb];rfl) ?_;refine gx J<|mk (fu:=⟨8⟩) ((List.replicate ((dg a).length+(dg b).length) 0).map dU) J J (by rw[<-wY];rfl) J<|?_;refine aj 37 (.d (vI ((dg a).length:Nat))) J (by rw[hla];rfl) ?_;refine gx J<|?_;refine lp (X:=List Nat×Nat) (fun⟨W,i⟩=>[(0, .d (dN a)),(1, .d (dN b)),(5, .rw 35),(36, .d (dN a)),(37, .d (vI ((dg a).length:Nat))),(38, .d (vI (i:Nat)))]) (fun⟨W,i⟩=>[(35,some (.b 215 1 (W.map dU) true))]) (fun⟨W,i⟩=>W.length=(dg a).length+(dg b).length/\bi W/\i<=(dg a).length/\dv (W.take (i+(dg b).length))=dv ((dg a).take i)*b) (fun⟨W,i⟩=>(dg a).length-i) ⟨List.replicate ((dg a).length+(dg b).length) 0,0⟩ J ⟨by simp, .replicate _,by omega,by rw[List.take_replicate,Ad];simp[dv]⟩ (fun _=>J) (fun⟨W,i⟩ hk=>?_);dsimp only at hk⊢;obtain⟨h1,h2,h3,h4⟩:=hk;refine br J J J (fun hc39=>?_) (fun hc39=>?_)
  .
   refine ix (fu:=⟨15⟩) _ J (m7 (by omega)) J<|?_;refine aj 44 (.d (vI ((dg b).length:Nat))) J (by rw[hlb];rfl) ?_;refine gx J<|?_;refine lp (X:=List Nat×Nat×Nat) (fun⟨W2,c,k⟩=>[(0, .d (dN a)),(1, .d (dN b)),(5, .rw 35),(6, .d (vI (i:Nat))),(7, .d (dU ((dg a).getD i 0))),(8, .d (.v (.int .u64 (c:Nat)))),(36, .d (dN a)),(37, .d (vI ((dg a).length:Nat))),(38, .d (vI (i:Nat))),(43, .d (dN b)),(44, .d (vI ((dg b).length:Nat))),(45, .d (vI (k:Nat)))]) (fun⟨W2,c,k⟩=>[(35,some (.b 215 1 (W2.map dU) true))]) (fun⟨W2,c,k⟩=>W2.length=(dg a).length+(dg b).length/\bi W2/\c<4294967296/\k<=(dg b).length/\dv (W2.take (i+(dg b).length))+4294967296^(i+k)*c=dv ((dg a).take i)*b+(dg a).getD i 0*(4294967296^i*dv ((dg b).take k))) (fun⟨W2,c,k⟩=>(dg b).length-k) ⟨W,0,0⟩ J ⟨h1,h2,by omega,by omega,by rw[h4];simp[dv]⟩ (fun _=>J) (fun⟨W2,c,k⟩ hk=>?_);dsimp only at hk⊢;obtain⟨g1,g2,g3,g4,g5⟩:=hk;have hlw:=fg W2;have hw:=g2.get (i+k);have hda:=ik a i;have hdb:=ik b k;refine br (fu2:=⟨10⟩) J J J (fun hc46=>?_) (fun hc46=>?_)
   .
    refine ix (fu:=⟨12⟩) (hv:=by simp only[ac];exact⟨⟨by omega,by omega⟩,⟨(LU _ _),(K5 (ik _ _) (ik _ _))⟩⟩) _ J (m7 (by omega)) J<|?_;obtain⟨p,hp⟩: ∃p,p=(dg a).getD i 0*(dg b).getD k 0:=⟨_,rfl⟩;have hp1:p<=18446744065119617025:=hp▸Kf hda hdb;refine aj 54 (.d (.v (.int .u64 (p:Nat)))) J (by rw[hp,jX]) ?_;refine gx J<|lb (fu:=⟨4⟩) _ J (gE (k:=i+k) (by omega) (by omega)) J<|?_;obtain⟨t,ht⟩: ∃t,t=p+W2.getD (i+k) 0+c:=⟨_,rfl⟩;refine aj 64 (.d (.v (.int .u64 (t:Nat)))) J (by congr 3;omega) ?_;refine gx (fu:=⟨11⟩) J<|?_;refine aj 70 (.d (dU (t%4294967296))) J (by show FX.d (.v (.int _ _))= .d (.v (.int _ _));congr 3) ?_;refine gx J<|sb (fu:=⟨5⟩) (hv:=by simp only[ac];exact(by decide)) _ ((W2.set (i+k) (t%4294967296)).map dU) J (gE (k:=i+k) (by omega) (by omega)) J (by(rw[show((i:Int)+k).toNat=i+k by omega,<-uV])<;>rfl) J<|?_;refine aj 73 (.d (.v (.int .u64 (t/4294967296:Nat)))) J (by rw[Hu]) ?_;refine gx J<|?_;exact at_ ⟨W2.set (i+k) (t%4294967296),t/4294967296,k+1⟩ (by dsimp only;exact⟨⟨by simpa using g1,g2.set _ (by omega),by omega,by omega,by rw[jf];exact aye (by omega) (by omega) g5 ht hp⟩,(by omega)⟩)
   .
    obtain rfl:k=(dg b).length:=by omega
    refine aj 78 (.d (vI ((dg b).length:Nat))) J (by rw[hlb];rfl) ?_;refine gx (fu:=⟨3⟩) J<|?_;refine aj 81 (.d (dU c)) J (by show FX.d (.v (.int _ _))= .d (.v (.int _ _));congr 3;omega) ?_;refine gx J<|sb _ ((W2.set (i+(dg b).length) c).map dU) J (gE (k:=i+(dg b).length) (by omega) (by omega)) J (by(rw[show((i:Int)+((dg b).length:Nat)).toNat=i+(dg b).length by omega,<-uV])<;>rfl) J<|?_;exact at_ ⟨W2.set (i+(dg b).length) c,i+1⟩ (by dsimp only;exact⟨⟨by simpa using g1,g2.set _ g3,by omega,V7 J (by omega) g5⟩,(by omega)⟩)
  .
   obtain rfl:i=(dg a).length:=by omega
   refine fz 35 J J<|cl J (rH (ds:=W) (by omega)) J<|?_;exact rz J (th h2 (by have:=h4;rw[pk (by omega),pk (by omega),ck] at this;exact this))
def Qp(x s:Nat):x*2^s=x*2^s%4294967296+4294967296*(x*2^s/4294967296):=by omega
def aCf{x s:Nat}(hx:x<4294967296)(hs:s<32):x*2^s/4294967296<2^s:=by
 rw[kR (by decide),bN (2^s)];exact nR hx (aN _) (fY (by decide))
def Iq{s:Nat}(hs:s<32):2^s*2^(32-s)=4294967296:=by rw[<-fJ,show s+(32-s)=32 by omega]
def aCG(x s:Nat)(hs:s<32):x*2^s%4294967296=x%2^(32-s)*2^s:=by
 rw[<-Iq hs,bN (2^s),rN]
def axO{x s:Nat}(hx:x<4294967296)(hs:s<32):x*2^s<18446744073709551616:=by
 have h1:2^s<=2^31:=bY (by decide) (by omega);have:=nR hx h1 (by decide);omega
def aAP{w x s:Nat}(hw:w<2^s)(hs:s<32):(BitVec.ofInt 32 (w:Int) ||| BitVec.ofInt 32 ((x*2^s%4294967296:Nat):Int)).toNat=w+x*2^s%4294967296:=by
 rw[aCG x s hs];refine yz 32 _ _ _ hw ?_;have h1:x%2^(32-s)+1<=2^(32-s):=dX _ (fY (by decide));have h2:=bW (2^s) h1;rw[bN (2^(32-s)),Iq hs,cS,oZ] at h2;show _<4294967296;omega
def Vo{h:Nat}(hh:h<4294967296):(BitVec.ofInt 32 ((0:Nat):Int) ||| BitVec.ofInt 32 (h:Int)).toNat=h:=by
 have:=yz 32 0 h 0 (by decide) (by simpa using hh);simpa using this
def Gr(k:Nat):2^k=4294967296^(k/32)*2^(k%32):=by
 rw[show(4294967296:Nat)=2^32 from J,<-pN,<-fJ,qM]
def getD_set_ne{W:List Nat}{i j d:Nat}(h:i≠j):(W.set i d).getD j 0=W.getD j 0:=by
 rw[aX,aX,List.getElem?_set_ne h]
def NR{W:List Nat}{i d:Nat}(h:i<W.length):(W.set i d).getD i 0=d:=by
 rw[aX,nZ h];rfl
def ZQ{A W:List Nat}{k q s i x:Nat}(hq:q=k/32)(hs:s=k%32)(hl:q+i+1<W.length)(hx:x=A.getD i 0)
  (h:dv (W.take (q+i+1))=dv (A.take i)*2^k):
  dv (((W.set (q+i) (W.getD (q+i) 0+x*2^s%4294967296)).set (q+i+1) (x*2^s/4294967296)).take (q+(i+1)+1))=dv (A.take (i+1))*2^k:=by
 have e1:=Mj (W:=W) (j:=q+i) (m:=q+i+1) (d:=W.getD (q+i) 0+x*2^s%4294967296) (by omega) (by omega);rw[show q+(i+1)+1=q+i+1+1 by omega,qq (by rw[aM];omega),jf A,<-hx];have e2:dv ((W.set (q+i) (W.getD (q+i) 0+x*2^s%4294967296)).take (q+i+1))=dv (A.take i)*2^k+4294967296^(q+i)*(x*2^s%4294967296):=by
  rw[dY,h] at e1;omega
 rw[e2,fR,cX,kK,<-dY,<-Qp,cS,Gr k,<-hq,<-hs,fJ];simp only[cX,lW,bN]
def Fw{a k ia:Nat}[ha:BN a ia](hk:k<=1000000000)(hi:ia<=1000000000:=by decide):PF GB prog 232 [dN a,vI (k:Nat)] (dN (a*2^k)):=by
 have hla:=fg (dg a);have hba:=uW ha.h hi;refine fn (fu:=⟨9⟩) func232 J J ntmps232 J J (fun C=>?_);refine aj 11 (.d (vI (k/32:Nat))) J (by show FX.d (.v (.int _ _))= .d (.v (.int _ _));rw[Ck hk]) ?_;refine gx (fu:=⟨2⟩) J<|?_;refine aj 13 (.d (vI ((dg a).length:Nat))) J (by rw[hla];rfl) ?_;refine gx (fu:=⟨2⟩) J<|?_;refine aj 15 (.d (vI (k/32+(dg a).length+1:Nat))) J (by show FX.d (.v (.int _ _))= .d (.v (.int _ _));congr 3) ?_;refine gx J<|mk (fu:=⟨7⟩) (hv:=by simp only[ac];exact(by decide)) ((List.replicate (k/32+(dg a).length+1) 0).map dU) J J (by rw[<-wY];rfl) J<|?_;refine aj 18 (.d (vI (k%32:Nat))) J (by show FX.d (.v (.int _ _))= .d (.v (.int _ _));rw[NC]) ?_;refine gx (fu:=⟨9⟩) J<|?_;refine aj 21 (.d (vI ((dg a).length:Nat))) J (by rw[hla];rfl) ?_;refine gx J<|?_;refine lp (X:=List Nat×Nat) (fun⟨W,i⟩=>[(0, .d (dN a)),(1, .d (vI (k:Nat))),(5, .rw 16),(6, .d (.v (.int .u64 (k%32:Nat)))),(20, .d (dN a)),(21, .d (vI ((dg a).length:Nat))),(22, .d (vI (i:Nat)))]) (fun⟨W,i⟩=>[(16,some (.b 215 1 (W.map dU) true))]) (fun⟨W,i⟩=>W.length=k/32+(dg a).length+1/\bi W/\i<=(dg a).length/\dv (W.take (k/32+i+1))=dv ((dg a).take i)*2^k/\W.getD (k/32+i) 0<2^(k%32)/\ ∀j,k/32+i<j->W.getD j 0=0) (fun⟨W,i⟩=>(dg a).length-i) ⟨List.replicate (k/32+(dg a).length+1) 0,0⟩ J ⟨by simp, .replicate _,by omega,by rw[List.take_replicate,Ad];simp[dv],by rw[S3];exact fY (by decide),fun j _=>S3 _ _⟩ (fun _=>J) (fun⟨W,i⟩ hk=>?_);dsimp only at hk⊢;obtain⟨h1,h2,h3,h4,h5,h6⟩:=hk;have hlw:=fg W;have hda:=ik a i;have hsk:k%32<32:=dX _ (by decide)
 have hpp:2^(k%32)<=2^31:=bY (by decide) (by omega);refine br J J J (fun hc23=>?_) (fun hc23=>?_)
 .
  refine ix (fu:=⟨11⟩) (hv:=by simp only[ac];exact⟨by omega,(by omega)⟩) _ J (m7 (by omega)) J<|?_;have hhi:=aCf hda hsk;have hfit0:=axO hda hsk;have hor:=aAP (x:=(dg a).getD i 0) h5 hsk;have hfit:W.getD (k/32+i) 0+(dg a).getD i 0*2^(k%32)%4294967296<4294967296:=by rw[<-hor];exact BitVec.isLt _
  have hlp:=Qp ((dg a).getD i 0) (k%32);refine aj 30 (.d (.v (.int .u64 ((dg a).getD i 0*2^(k%32):Nat)))) J (by show FX.d (.v (.int _ _))= .d (.v (.int _ _));rw[sk _ (k%32) (by omega) hfit0 (by omega)]) ?_;obtain⟨t,ht⟩: ∃t,t=(dg a).getD i 0*2^(k%32):=⟨_,rfl⟩;simp only[<-ht] at hhi hfit0 hor hfit hlp;rw[<-ht];refine gx (fu:=⟨8⟩) J<|?_;refine aj 33 (.d (vI (k/32:Nat))) J (by show FX.d (.v (.int _ _))= .d (.v (.int _ _));rw[Ck hk]) ?_;refine gx J<|lb (fu:=⟨2⟩) _ J (gE (k:=k/32+i) (by omega) (by omega)) J<|?_;refine aj 39 (.d (dU (t%4294967296))) J (by show FX.d (.v (.int _ _))= .d (.v (.int _ _));congr 3) ?_;refine gx (fu:=⟨1⟩) J<|?_;refine aj 40 _ J (congrArg (fun z:Nat=>FX.d (.v (.int .u32 (z:Int)))) hor) ?_;refine gx J<|sb (fu:=⟨6⟩) _ ((W.set (k/32+i) (W.getD (k/32+i) 0+t%4294967296)).map dU) J (gE (k:=k/32+i) (by omega) (by omega)) J (by(rw[show(((k/32:Nat):Int)+i).toNat=k/32+i by omega];simp only[kL];rfl)<;>rfl) J<|?_;refine aj 44 (.d (vI (k/32:Nat))) J (by show FX.d (.v (.int _ _))= .d (.v (.int _ _));rw[Ck hk]) ?_;refine gx J<|lb (fu:=⟨0⟩) _ J (gE (k:=k/32+i+1) (by omega) (by rw[aM];omega)) J<|?_;refine aj 49 (.d (dU 0)) J (by rw[getD_set_ne (by omega),h6 _ (by omega)]) ?_;refine gx (fu:=⟨2⟩) (hv:=by simp only[ac];exact(by decide)) J<|?_;refine aj 51 (.d (.v (.int .u64 (t/4294967296:Nat)))) J (by rw[Hu]) ?_;refine gx (fu:=⟨1⟩) J<|?_;refine aj 52 (.d (dU (t/4294967296))) J (by show FX.d (.v (.int _ _))= .d (.v (.int _ _));congr 3;omega) ?_;refine gx (fu:=⟨1⟩) J<|?_;refine aj 53 _ J (congrArg (fun z:Nat=>FX.d (.v (.int .u32 (z:Int)))) (Vo (by omega))) ?_
  refine gx J<|sb _ (((W.set (k/32+i) (W.getD (k/32+i) 0+t%4294967296)).set (k/32+i+1) (t/4294967296)).map dU) J (gE (k:=k/32+i+1) (by omega) (by rw[aM];omega)) J (by(rw[show(((k/32:Nat):Int)+i+1).toNat=k/32+i+1 by omega];simp only[kL];rfl)<;>rfl) J<|?_;exact at_ ⟨(W.set (k/32+i) (W.getD (k/32+i) 0+t%4294967296)).set (k/32+i+1) (t/4294967296),i+1⟩ (by dsimp only;exact⟨⟨by simpa using h1,(h2.set _ hfit).set _ (by omega),by omega,by have q:=ZQ (x:=(dg a).getD i 0) J J (by omega) J h4;rw[<-ht] at q;exact q,by rw[show k/32+(i+1)=k/32+i+1 by omega,NR (by simp;omega)];exact hhi,fun j hj=>by rw[getD_set_ne (by omega),getD_set_ne (by omega)];exact h6 j (by omega)⟩,(by omega)⟩)
 .
  obtain rfl:i=(dg a).length:=by omega
  refine fz 16 J J<|cl J (rH (ds:=W) (by omega)) J<|?_;exact rz J (th h2 (by have:=h4;rw[pk (by omega),pk (by omega),ck] at this;exact this))
def XT{a k:Nat}(h:(dg a).length<=k/32):a/2^k=0:=by
 refine jM ?_;have h1:=jB (kG a);rw[ck] at h1;have h2:4294967296^(dg a).length<=4294967296^(k/32):=bY (by decide) h;have h3:4294967296^(k/32)*1<=4294967296^(k/32)*2^(k%32):=fZ _ (fY (by decide));rw[Gr k];omega
def Jw{ds:List Nat}(h:bi ds)(q:Nat):dv (ds.drop q)=dv ds/4294967296^q:=by
 rcases iT ds.length q with hq|hq
 ·rw[kV (by omega)]
  have h1:=jB h;have h2:4294967296^ds.length<=4294967296^q:=bY (by decide) (by omega);rw[jM (by omega)];rfl
 ·have e:=Fl ds q hq
  have h1:=jB (h.take q);rw[cW,gJ hq] at h1;rw[e,mK _ _ (fY (by decide)),jM h1,eK]
def Kw{ds:List Nat}(h:bi ds)(i:Nat):dv ds/4294967296^i=ds.getD i 0+4294967296*ds.getD (i+1) 0+18446744073709551616*(dv ds/4294967296^(i+2)):=by
 have e0:=Jw h i;have e2:=Jw h (i+2);rw[<-e0,<-e2];have g0:ds.getD i 0=(ds.drop i).getD 0 0:=by rw[aX,aX,lM];rfl
 have g1:ds.getD (i+1) 0=(ds.drop i).getD 1 0:=by rw[aX,aX,lM]
 have g2:ds.drop (i+2)=(ds.drop i).drop 2:=by rw[tK]
 rw[g0,g1,g2]
 match ds.drop i with
 |[]=>rfl
 |[u]=>simp[dv]
 |u::v::t=>simp only[dv,tQ,lT,sN,iX];omega
def Wp{D s i u v w Z:Nat}(hs:s<32)(hZ:D/4294967296^i=u+4294967296*v+18446744073709551616*Z)(hw:w=(u+v*4294967296)/2^s%4294967296):(D/2^s)%4294967296^(i+1)=(D/2^s)%4294967296^i+4294967296^i*w:=by
 rw[fR,Nat.mod_mul];congr 2;rw[nX,bN (2^s),<-nX,hZ,hw];have h1:18446744073709551616=2^s*(2^(32-s)*4294967296):=by rw[<-cX,Iq hs]
 rw[h1,cX (2^s),mK _ _ (fY (by decide)),bN v];rw[bN (2^(32-s)),cX,nL]
def Y6{a k:Nat}{W:List Nat}{q s:Nat}(hq:q=k/32)(hs:s=k%32)(hl:W.length=(dg a).length-q)(h:dv (W.take ((dg a).length-q))=(dv ((dg a).drop q)/2^s)%4294967296^((dg a).length-q)):dv W=a/2^k:=by
 rw[pk (by omega)] at h;have h1:=jB ((kG a).drop q);rw[gN] at h1;have h2:=kM (dv ((dg a).drop q)) (2^s);rw[h,eX (by omega),Jw (kG a),ck,Gr k,<-hq,<-hs,nX]
def aA0{a k ia:Nat}[ha:BN a ia](hk:k<=1000000000)(hi:ia<=1000000000:=by decide):PF GB prog 233 [dN a,vI (k:Nat)] (dN (a/2^k)):=by
 have hla:=fg (dg a);have hba:=uW ha.h hi;refine fn (fu:=⟨10⟩) func233 J J ntmps233 J J (fun C=>?_);refine aj 12 (.d (vI (k/32:Nat))) J (by show FX.d (.v (.int _ _))= .d (.v (.int _ _));rw[Ck hk]) ?_;refine gx (fu:=⟨2⟩) J<|?_;refine aj 14 (.d (vI ((dg a).length:Nat))) J (by rw[hla];rfl) ?_;refine gx J<|?_;refine br (fu2:=⟨6⟩) (v2:=fun _=>by simp only[ac];exact(by decide)) J J J (fun hc15=>?_) (fun hc15=>?_)
 .
  exact rz J (by rw[XT (by omega),p9];rfl)
 .
  refine aj 17 (.d (vI (k%32:Nat))) J (by show FX.d (.v (.int _ _))= .d (.v (.int _ _));rw[NC]) ?_;refine gx (fu:=⟨9⟩) J<|?_;refine aj 21 (.d (vI (k/32:Nat))) J (by show FX.d (.v (.int _ _))= .d (.v (.int _ _));rw[Ck hk]) ?_;refine gx J<|m6 (fu:=⟨0⟩) (k/32) (dg a).length _ J J (by rw[hla]) J (vK _) (by omega) (by omega) J<|?_;obtain⟨I,hI⟩: ∃I,I=(dg a).drop (k/32):=⟨_,rfl⟩;have hIl:I.length=(dg a).length-k/32:=by rw[hI,gN]
  have hIm:=fg I;have hIo:bi I:=hI▸(kG a).drop _;refine aj 22 (.d (fp I)) J (by show FX.d (.sl _)= .d (.sl _);rw[hI,<-hla,dJ,iM]) ?_;refine gx (fu:=⟨7⟩) J<|?_;refine aj 24 (.d (vI (I.length:Nat))) J (by rw[hIm];rfl) ?_;refine gx J<|mk (fu:=⟨8⟩) ((List.replicate I.length 0).map dU) J J (by rw[<-wY];rfl) J<|?_;refine aj 27 (.d (vI (I.length:Nat))) J (by rw[hIm];rfl) ?_;refine gx J<|?_;refine lp (X:=List Nat×Nat) (fun⟨W,i⟩=>[(0, .d (dN a)),(5, .d (.v (.int .u64 (k%32:Nat)))),(6, .d (fp I)),(7, .rw 25),(26, .d (fp I)),(27, .d (vI (I.length:Nat))),(28, .d (vI (i:Nat)))]) (fun⟨W,i⟩=>[(25,some (.b 215 1 (W.map dU) true))]) (fun⟨W,i⟩=>W.length=I.length/\bi W/\i<=I.length/\dv (W.take i)=(dv I/2^(k%32))%4294967296^i) (fun⟨W,i⟩=>I.length-i) ⟨List.replicate I.length 0,0⟩ J ⟨by simp, .replicate _,by omega,by simp[dv,Nat.mod_one]⟩ (fun _=>J) (fun⟨W,i⟩ hk=>?_);dsimp only at hk⊢;obtain⟨h1,h2,h3,h4⟩:=hk;have hlw:=fg W;have hda:=hIo.get i;have hdb:=hIo.get (i+1);have hsk:k%32<32:=dX _ (by decide);refine br J J J (fun hc29=>?_) (fun hc29=>?_)
  .
   refine ix (fu:=⟨13⟩) _ J (m7 (by omega)) J<|?_;refine mg (fu:=⟨6⟩) (hv:=fun _ _=>by simp only[ac];exact(by omega)) (X:=Unit) (fun _=>[(0, .d (dN a)),(5, .d (.v (.int .u64 (k%32:Nat)))),(6, .d (fp I)),(7, .rw 25),(26, .d (fp I)),(27, .d (vI (I.length:Nat))),(28, .d (vI (i:Nat))),(8, .d (vI (i:Nat))),(10, .d (.v (.int .u64 (I.getD i 0+I.getD (i+1) 0*4294967296:Nat))))]) (fun _=>[(25,some (.b 215 1 (W.map dU) true))]) (fun _=>True) [0,5,6,7,26,27,28,8,10] [25] rfl ?_ (fun _=>J) (fun _ hm=>?_)
   .
    refine gx (fu:=⟨6⟩) J<|?_;refine aj 38 (.d (vI (I.length:Nat))) J (by rw[hIm];rfl) ?_;refine gx J<|?_;refine br J J J (fun hc39=>?_) (fun hc39=>?_)
    .
     refine ix (fu:=⟨3⟩) (hv:=by simp only[ac];exact⟨by omega,(by decide)⟩) _ J (gE (k:=i+1) (by omega) (by omega)) J<|?_;refine aj 47 (.d (.v (.int .u64 (I.getD (i+1) 0*4294967296:Nat)))) J (by show FX.d (.v (.int _ _))= .d (.v (.int _ _));rw[sk _ 32 (by decide) (by show _*4294967296<_;omega) J]) ?_;refine gx (fu:=⟨1⟩) J<|?_;refine aj 48 _ J (congrArg (fun z:Nat=>FX.d (.v (.int .u64 (z:Int)))) (yz 64 (I.getD i 0) (I.getD (i+1) 0) 32 hda (by show _+_*4294967296<18446744073709551616;omega))) ?_;refine gx J<|?_;exact at_ () trivial
    .
     refine aj 10 (.d (.v (.int .u64 (I.getD i 0+I.getD (i+1) 0*4294967296:Nat)))) J (by rw[vg (by omega:I.length<=i+1),mQ,fQ]) ?_;exact at_ () trivial
   .
    refine aj 53 (.d (.v (.int .u64 ((I.getD i 0+I.getD (i+1) 0*4294967296)/2^(k%32):Nat)))) J (by show FX.d (.v (.int _ _))= .d (.v (.int _ _));rw[ti _ (k%32) (by omega) (by omega)]) ?_;refine gx (fu:=⟨1⟩) J<|?_;obtain⟨w,hw⟩: ∃w,w=(I.getD i 0+I.getD (i+1) 0*4294967296)/2^(k%32)%4294967296:=⟨_,rfl⟩;have hw1:w<4294967296:=hw▸dX _ (by decide);refine aj 54 (.d (dU w)) J (by show FX.d (.v (.int _ _))= .d (.v (.int _ _));rw[hw];congr 3) ?_;refine gx J<|sb _ ((W.set i w).map dU) J (m7 (by omega)) J (by(rw[<-uV];rfl)<;>rfl) J<|?_;exact at_ ⟨W.set i w,i+1⟩ (by dsimp only;exact⟨⟨by simpa using h1,h2.set _ (by omega),by omega,by rw[qq (by omega),h4];exact(Wp hsk (Kw hIo i) hw).symm⟩,(by omega)⟩)
  .
   refine fz 25 J J<|cl J (rH (ds:=W) (by omega)) J<|?_;exact rz rfl (th h2 (by obtain rfl:i=I.length:=(by omega);rw[hIl] at h1 h4;rw[hI] at h4;exact Y6 rfl rfl h1 h4))
def CO{a k:Nat}(h:a<4294967296^k):(dg a).length<=k:=by
 rcases iT k (dg a).length with q|q
 ·have h1:=rx (eE a).2.2 (by intro e;rw[e] at q;simp at q)
  rw[ck] at h1;have h2:4294967296^k<=4294967296^((dg a).length-1):=bY (by decide) (by omega);omega
 ·exact q
def axD{a:Nat}(h:(dg a).length=2):(dg a).getD 0 0+(dg a).getD 1 0*4294967296=a:=by
 have e:=ck a;revert e
 match dg a,h with
 |[x,y],_=>intro e;simp[dv] at e⊢;omega
def B8(a:Nat):DV:= .tp [.v (.int .u64 ((if a<18446744073709551616 then a else 0:Nat):Int)),vB (decide (a<18446744073709551616))]
def N7{a:Nat}(h:a<18446744073709551616):B8 a= .tp [.v (.int .u64 (a:Int)),vB true]:=by unfold B8;rw[if_pos h,decide_eq_true h]
def ayi{a:Nat}(h: ¬a<18446744073709551616):B8 a= .tp [.v (.int .u64 0),vB false]:=by unfold B8;rw[if_neg h,decide_eq_false h];rfl
def u6(a:Nat):a<4294967296^(dg a).length:=by have:=jB (kG a);rwa [ck] at this
def Eu{a ia:Nat}[ha:BN a ia](hi:ia<=1000000000:=by decide):PF GB prog 172 [dN a] (B8 a):=by
 have hla:=fg (dg a);have hba:=uW ha.h hi;have hlt:=u6 a;have hd00:=ik a 0;refine fn (fu:=⟨11⟩) func172 J J ntmps172 J J (fun C=>?_);refine aj 5 (.d (vI ((dg a).length:Nat))) J (by rw[hla];rfl) ?_;refine gx J<|?_;refine br J J J (fun hc6=>?_) (fun hc6=>?_)
 .
  exact rz rfl (by rw[show(dg a).length=0 by omega] at hlt;obtain rfl:a=0:=(by omega);rfl)
 .
  refine br J J J (fun hc8=>?_) (fun hc8=>?_)
  .
   refine ix (fu:=⟨2⟩) _ J (gE (k:=0) J (by omega)) J<|?_;refine aj 13 (.d (.v (.int .u64 (a:Nat)))) J (by rw[yy (by omega)]) ?_;refine gx J<|?_;exact rz J (by rw[show(dg a).length=1 by omega] at hlt;rw[N7 (by omega),<-yy (a:=a) (by omega),yy (a:=a) (by omega)];rfl)
  .
   refine br J J J (fun hc14=>?_) (fun hc14=>?_)
   .
    have hd0:=ik a 0;have hd1:=ik a 1;refine ix (hv:=by simp only[ac];exact⟨by omega,(by decide)⟩) _ J (gE (k:=1) J (by omega)) J<|ix (fu:=⟨3⟩) _ J (gE (k:=0) J (by omega)) J<|?_;refine aj 25 (.d (.v (.int .u64 (a:Nat)))) J (congrArg (fun z:Nat=>FX.d (.v (.int .u64 (z:Int)))) (by rw[sk _ 32 (by decide) (by show _*4294967296<_;omega) J,BitVec.or_comm];exact(yz 64 ((dg a).getD 0 0) ((dg a).getD 1 0) 32 hd0 (by show _+_*4294967296<18446744073709551616;omega)).trans (axD (by omega)))) ?_;refine gx J<|?_;exact rz J (by rw[show(dg a).length=2 by omega] at hlt;rw[N7 (by omega)];rfl)
   .
    exact rz rfl (by rw[ayi];rfl;intro h;have:=CO (a:=a) (k:=2) (by omega);omega)
def Od{G:Gh}{ds:List Nat}{v:Value}(hd:bi ds)(h:Is G (fp ds) v): ∃x:SV,v=x.v/\cp G x ds:=by
 obtain⟨x,rfl,h1⟩:=Lc.1 h;exact⟨x,J,hd,h1⟩
def fI.is{G:Gh}{k n:Nat}{z:SV}(h:fI k G z n):Is G (dN n) z.v:=(aHb h.lt).2 ⟨z,J,h⟩
def AS{G:Gh}{ds:List Nat}{vs:List Value}(hd:bi ds)(h:IsLs G [fp ds] vs): ∃x:SV,vs=[x.v]/\cp G x ds:=by
 obtain⟨v,m,rfl,h1,h2⟩:=bh.1 h
 cases eG.1 h2
 obtain⟨x,rfl,h3⟩:=Od hd h1;exact⟨x,J,h3⟩
def Bx{G:Gh}{a b:Nat}{vs:List Value}(h:IsLs G [dN a,dN b] vs): ∃x y:SV,vs=[x.v,y.v]/\cp G x (dg a)/\cp G y (dg b):=by
 obtain⟨v,m,rfl,h1,h2⟩:=bh.1 h;obtain⟨y,rfl,h4⟩:=AS (eE b).2.1 h2;obtain⟨x,rfl,h3⟩:=Od (eE a).2.1 h1;exact⟨x,y,J,h3,h4⟩
section
variable {GB:Gh} {a b i j:Nat}
def nD[h:BN a i](hi:i<=1000000000):(dg a).length<=31250001:=by have:=lw h.h;omega
def axr{ds:List Nat}(hd:bi ds)(hl:ds.length<=1125899906842624):PF GB prog 265 [fp ds] (vB (decide (eh ds))):=fun G vs _ hv=>by
 obtain⟨x,rfl,hx⟩:=AS hd hv;exact(Vl hx hl).mono fun v G' _ h=>aI.2 h
def x7[h:BN a i](hi:i<=1000000000:=by decide):PF GB prog 200 [dN a] (vI (bl a:Nat)):=fun G vs _ hv=>by
 obtain⟨x,rfl,hx⟩:=AS (eE a).2.1 hv;have:=nD (a:=a) hi;exact(axi hx (by omega)).mono fun v G' _ h=>aI.2 (by rw[h,ck])
def Ab[h:BN a i](hi:i<=1000000000:=by decide):PF GB prog 164 [dN a] (dN a):=fun G vs _ hv=>by
 obtain⟨x,rfl,hx⟩:=AS (eE a).2.1 hv;have:=nD (a:=a) hi;refine(Io (k:=i) hx (by rw[ck];exact h.h) (by omega)).mono fun v G' _ h=>?_;obtain⟨z,rfl,h⟩:=h;rw[ck] at h;exact h.is
def J5(h:a<18446744073709551616):PF GB prog 165 [.v (.int .u64 (a:Nat))] (dN a):=fun G vs _ hv=>by
 obtain⟨v,m,rfl,h1,h2⟩:=bh.1 hv
 cases eG.1 h2
 rw[aI.1 h1];refine(JZ h).mono fun v G' _ h=>?_;obtain⟨z,rfl,h⟩:=h;exact h.is
def GC(h:a<18446744073709551616):PF GB prog 204 [dN a] (.tp [.v (.int .u64 (a:Nat)),vB true]):=fun G vs _ hv=>by
 obtain⟨x,rfl,hx⟩:=AS (eE a).2.1 hv;have:BN a 64:=⟨h⟩;have:=nD (a:=a) (i:=64) (by decide);refine(K2 hx (by omega)).mono fun v G' _ e=>?_;rw[ck,if_pos h,decide_eq_true h] at e;subst e;exact iH.2 ⟨_,J, .cons (aI.2 J) (.cons (aI.2 J) .nil)⟩
def Uu[h:BN a i][k:BN b j](hi:i<=1000000000:=by decide)(hj:j<=1000000000:=by decide):PF GB prog 216 [dN a,dN b] (dN (a+b)):=fun G vs _ hv=>by
 obtain⟨x,y,rfl,hx,hy⟩:=Bx hv;have:=nD (a:=a) hi;have:=nD (a:=b) hj;refine(Vj (kk:=i+j+1) hx hy (by rw[ck,ck];exact De h.h k.h) (by omega) (by omega)).mono fun v G' _ h=>?_;obtain⟨z,rfl,h⟩:=h;rw[ck,ck] at h;exact h.is
def LX[h:BN a i][k:BN b j](hi:i<=1000000000:=by decide)(hj:j<=1000000000:=by decide):PF GB prog 217 [dN a,dN b] (.tp [dN (a-b),vB (decide (b<=a))]):=fun G vs _ hv=>by
 obtain⟨x,y,rfl,hx,hy⟩:=Bx hv;have:=nD (a:=a) hi;have:=nD (a:=b) hj;refine(Wb (kk:=i) hx hy (by rw[ck];exact h.h) (by omega) (by omega)).mono fun v G' _ h=>?_;obtain⟨z,rfl,h⟩:=h;rw[ck,ck] at h⊢;exact iH.2 ⟨_,J, .cons h.is (.cons (aI.2 J) .nil)⟩
def Ae[h:BN a i][k:BN b j](hi:i<=1000000000:=by decide)(hj:j<=1000000000:=by decide):PF GB prog 161 [dN a,dN b] (dN (a*b)):=fun G vs _ hv=>by
 obtain⟨x,y,rfl,hx,hy⟩:=Bx hv;have:=nD (a:=a) hi;have:=nD (a:=b) hj;refine(aDc (kk:=i+j) hx hy (by rw[ck,ck];exact pe h.h k.h) (by omega) (by omega)).mono fun v G' _ h=>?_;obtain⟨z,rfl,h⟩:=h;rw[ck,ck] at h;exact h.is
def Tj[h:BN a i][k:BN b j](hb:0<b)(hi:i<=1000000000:=by decide)(hj:j<=1000000000:=by decide):PF GB prog 202 [dN a,dN b] (.tp [dN (a/b),dN (a%b),vB true]):=fun G vs _ hv=>by
 obtain⟨x,y,rfl,hx,hy⟩:=Bx hv;have:=nD (a:=a) hi;have:=nD (a:=b) hj;refine(Iw (k1:=i) (k2:=j) hx hy (by rw[ck];exact hb) (by rw[ck,ck];exact fT (kM _ _) h.h) (by rw[ck,ck];exact qJ (dX _ hb) k.h) (by omega) (by omega)).mono fun v G' _ h=>?_;obtain⟨z,r,rfl,h,h'⟩:=h;rw[ck,ck] at h h';exact iH.2 ⟨_,J, .cons h.is (.cons h'.is (.cons (aI.2 J) .nil))⟩
def O9[h:BN a i][k:BN b j](hi:i<=1000000000:=by decide)(hj:j<=1000000000:=by decide):PF GB prog 201 [dN a,dN b] (dN (Nat.gcd a b)):=fun G vs _ hv=>by
 obtain⟨x,y,rfl,hx,hy⟩:=Bx hv;have:=nD (a:=a) hi;have:=nD (a:=b) hj;have e: ∀k',k'<=i+j->(2:Nat)^k'<=2^(i+j):=fun k' h=>bY (by decide) h;have:=e i (by omega);have:=e j (by omega);have:=h.h;have:=k.h;refine(aB4 (k:=i+j) (k0:=i+j) hx hy (by rw[ck];omega) (by rw[ck];omega) (by omega) (by rw[ck,ck];exact I2 h.h k.h) (by omega) (by omega)).mono fun v G' _ h=>?_;obtain⟨z,rfl,h⟩:=h;rw[ck,ck] at h;exact h.is
end
section
variable {GB:Gh} {C:aB} {n:Nat} {Q0:Exit->Act->World->Prop} {fr fr' fr1 fr2:az} {own own' own1 own2:aC} {cf cf' cf1 cf2:Cf} {vc vc1 vc2:List Prop}
def jo{fb:Func}{e:Exit}{ds:List DV}{rv:DV}(hr:sE tt fr own fb.results.toList=some ds)(hd: ∀G y,Is G (jj ds) y->Is G rv y)(he:Fv e=true:=by rfl):ak prog GB C n (ge C prog fb (ma C (fun v G'=>Is G' rv v))) fr own (.ex e []):=by
 refine⟨fun ρ G ov a w r=>?_⟩;obtain⟨vs,h1,h2⟩:=DG r hr;have hk:Is G rv (ip vs):=hd _ _ (EQ h2)
 cases e with
 |ret=>exact zD (C:=C) (n:=n) (fr:=cH a) (own:=ov) (G:=G) (K:=fun v G'=>Is G' rv v) h1 hk a w ⟨r.h,r.sz,c6 a,r.df⟩
 |normal=>exact Na (C:=C) (n:=n) (fr:=cH a) (own:=ov) (G:=G) (K:=fun v G'=>Is G' rv v) h1 hk a w ⟨r.h,r.sz,c6 a,r.df⟩
 |_=>cases he
def Lk(fr:az)(cf:Cf):Option (Int×IntKind):=match cx fr cf with
 |some ⟨_, .convert t t' x,_,_,_,_⟩=>match dl tt t,dl tt t',aF (bC fr cf) x with
  |some ⟨.int k,_,_,_⟩,some ⟨.int k',_,_,_⟩,some (.d (.v (.int j p)))=>bif kq k j then some (p,k') else none
  |_,_,_=>none
 |_=>none
def cu[fu:Fu]{p:Int}{k':IntKind}(u:Int)(h:Lk fr cf=some (p,k'))(e:k'.wrap p=u)(hgo:cF tt n fu.n fr own cf (.d (.v (.int k' u))) [] []=⟨vc,fr',own',cf'⟩)(k:ak prog GB C n Q0 fr' own' cf')
  (hv:ac vc:=by first|exact trivial|(simp only[ac];kernel_rfl)|(simp only[ac];omega)):ak prog GB C n Q0 fr own cf:=by
 unfold Lk at h;split at h<;>try (cases h;done)
 rename_i hh;split at h<;>try (cases h;done)
 rename_i k0 _ _ _ k1 _ _ _ j p0 hT hT' hx
 cases hk:kq k0 j with
 |false=>rw[hk] at h;cases h
 |true=>
  rw[hk,cond_true] at h;cases h;cases Fb hk;have:=yx (dP _ _ hT) J;have:=yx (dP _ _ hT') J;subst e;refine us hh (.x1 hx fun ρ G ov a w y _ r h1 h2=>?_) hgo hv k;rw[c8] at h2;subst h2;exact⟨_,c8.2 J,Ez h1⟩
def O0(fr:az)(cf:Cf):Option (Int×IntKind):=match cx fr cf with
 |some ⟨_, .unOp .neg _ x,_,_,_,_⟩=>match aF (bC fr cf) x with
  |some (.d (.v (.int j p)))=>some (p,j)
  |_=>none
 |_=>none
def nu[fu:Fu]{p:Int}{k':IntKind}(u:Int)(h:O0 fr cf=some (p,k'))(e:k'.wrap (0-p)=u)(hgo:cF tt n fu.n fr own cf (.d (.v (.int k' u))) [] []=⟨vc,fr',own',cf'⟩)(k:ak prog GB C n Q0 fr' own' cf')
  (hv:ac vc:=by first|exact trivial|(simp only[ac];kernel_rfl)|(simp only[ac];omega)):ak prog GB C n Q0 fr own cf:=by
 unfold O0 at h;split at h<;>try (cases h;done)
 rename_i hh;split at h<;>cases h;rename_i hx;subst e;exact us hh (.x1 hx fun ρ G ov a w y _ r h1 h2=>by
  rw[c8] at h2;subst h2;exact⟨_,c8.2 J,I0 h1⟩) hgo hv k
end
def Ho{x:Nat}:bl x=0↔x=0:=by
 have:= @oy x 0;simp at this;omega
def zk{a:Nat}:0<(dg a).length↔0<a:=by
 have:= @xg a;omega
def eS(neg:Bool)(a:Nat):DV:= .ag [.v (.bool neg),dN a]
def Eb(neg:Bool)(a:Nat):eI (zv neg a)= .ag [.v (.bool (neg&&decide (0<a))),dN a]:=by unfold eI;rw[rI,Pq]
def Xj{n:Bool}{u:Nat}{b:Int}(h:n≠decide (b<0))(hle:b.natAbs<=u):zv n (u-b.natAbs)=zv n u+b:=by cases n<;>simp[zv] at* <;>omega
def aCZ{n:Bool}{u:Nat}{b:Int}(h:n≠decide (b<0))(hle:u<=b.natAbs):zv (decide (b<0)) (b.natAbs-u)=zv n u+b:=by cases n<;>simp[zv] at* <;>(try rw[if_pos h])<;>(try rw[if_neg (by omega)])<;>omega
def Pe{neg:Bool}{ds:List Nat}(hd:bi ds)(hl:ds.length<=1125899906842624):PF GB prog 221 [.ag [.v (.bool neg),fp ds]] (vB (decide (eh ds/\(neg=true->0<ds.length)))):=by
 refine fn func221 J J ntmps221 J J (fun C=>?_);refine cl J (axr hd hl) J<|?_;refine csd 6 J J J (fun hg6=>?_) (fun hg6=>?_)
 .
  refine jd 10 J J J (fun hg10=>?_) (fun hg10=>?_)
  .
   exact rz J (by unfold vB;congr 2;simp_all [jj])
  .
   exact rz J (by unfold vB;congr 2;simp_all [jj])
 .
  exact rz J (by unfold vB;congr 2;simp_all [jj])
def MV{n:Bool}{a i:Nat}[h:BN a i](hi:i<=1000000000:=by decide):PF GB prog 198 [eS n a] (vI (zv n a).sign):=by
 refine fn func198 J J ntmps198 J J (fun C=>?_);refine cl J (x7 (a:=a) hi) J<|?_;refine br J J J (fun hc3=>?_) (fun hc3=>?_)
 .
  exact rz J (by have:=Ho.1 (Int.ofNat.inj hc3);subst this;cases n<;>rfl)
 .
  refine bb J J J (fun hc8=>?_) (fun hc8=>?_)
  .
   exact rz J (by subst hc8;rw[fK (by have:a≠0:=(fun e=>hc3 (by rw[e];rfl));simp[zv];omega)];rfl)
  .
   exact rz J (by subst hc8;rw[fW (by have:a≠0:=(fun e=>hc3 (by rw[e];rfl));simp[zv];omega)];rfl)
def Ge{m:Int}(h0: -9223372036854775808<=m)(h1:m<=9223372036854775807):PF GB prog 163 [vI m] (eI m):=by
 refine fn (fu:=⟨8⟩) func163 J J ntmps163 J J (fun C=>?_);refine cu ((m%18446744073709551616:Int)) J (n8 _) J<|?_;refine br (fu1:=⟨2⟩) (fu2:=⟨0⟩) J J J (fun hc7=>?_) (fun hc7=>?_)
 .
  refine nu ((m.natAbs:Nat)) J (by rw[n8];omega) J<|cl J (J5 (a:=m.natAbs) (by omega)) J<|?_;exact rz J J
 .
  refine aj 3 (.d (.v (.int .u64 (m.natAbs:Nat)))) J (by congr 3;omega) ?_;refine gx J<|cl J (J5 (a:=m.natAbs) (by omega)) J<|?_;exact rz J J
def RH{n:Bool}{a:Nat}(h:a<4611686018427387904):PF GB prog 203 [eS n a] (.tp [vI (zv n a),vB true]):=by
 refine fn func203 J J ntmps203 J J (fun C=>?_);refine cl (fu:=⟨2⟩) J (GC (a:=a) (by omega)) J<|cB J J J<|?_;refine jd 18 J J J (fun hg18=>?_) (fun hg18=>?_)
 .
  refine br (fu1:=⟨3⟩) J J J (fun hc12=>?_) (fun hc12=>?_)
  .
   refine nu (fu:=⟨0⟩) (((18446744073709551616-a)%18446744073709551616:Int)) J (by rw[n8];omega) J<|cu (zv n a) J (by subst hg18;rw[KM];simp only[zv,if_true];omega) J<|?_;exact rz J J
  .
   exact absurd (by omega) hc12
 .
  refine jd 32 J J J (fun hg32=>?_) (fun hg32=>?_)
  .
   refine br J J J (fun hc25=>?_) (fun hc25=>?_)
   .
    exact rz J (by subst hg18;rfl)
   .
    exact absurd (by omega) hc25
  .
   subst hg18;cases hg32
def yp{neg:Bool}{a i:Nat}[h:BN a i](hi:i<=1000000000:=by decide):PF GB prog 162 [eS neg a] (eI (zv neg a)):=by
 refine fn func162 J J ntmps162 J J (fun C=>?_);refine cl J (Ab hi) J<|?_;refine jd 9 J J J (fun hg9=>?_) (fun hg9=>?_)
 .
  exact rz J (by rw[Eb];simp[hg9,zk,jj])
 .
  exact rz J (by rw[Eb];simp[hg9,zk,jj])
def EM{neg:Bool}{a:Nat}:PF GB prog 215 [.v (.bool neg),dN a] (eI (zv neg a)):=by
 refine fn func215 J J ntmps215 J J (fun C=>?_);refine jd 6 J J J (fun hg6=>?_) (fun hg6=>?_)
 .
  exact rz J (by rw[Eb];simp[hg6,zk,jj])
 .
  exact rz J (by rw[Eb];simp[hg6,zk,jj])
def aFw{m:Int}{i:Nat}[h:BI m i](hi:i<=1000000000:=by decide):PF GB prog 249 [eI m] (eI (-m)):=by
 refine fn func249 J J ntmps249 J J (fun C=>?_);refine cl J (yp (neg:=!decide (m<0)) (a:=m.natAbs) hi) J<|?_;exact rz J (by rw[Wl,lP];rfl)
def Jb{a b:Int}{i j:Nat}[h:BI a i][k:BI b j](hi:i<=1000000000:=by decide)(hj:j<=1000000000:=by decide):PF GB prog 160 [eI a,eI b] (eI (a*b)):=by
 refine fn func160 J J ntmps160 J J (fun C=>?_);refine cl J (Ae (a:=a.natAbs) (b:=b.natAbs) hi hj) J<|cl J EM J<|?_;exact rz J (by rw[show(!(decide (a<0)==decide (b<0)))=(decide (a<0) !=decide (b<0)) from J,L0,lP,lP];rfl)
def US{n1:Bool}{u:Nat}{b:Int}{i j:Nat}[h:BN u i][k:BI b j](hi:i<=1000000000:=by decide)(hj:j<=1000000000:=by decide):PF GB prog 159 [eS n1 u,eI b] (eI (zv n1 u+b)):=by
 refine fn func159 J J ntmps159 J J (fun C=>?_);refine bb J J J (fun hc13=>?_) (fun hc13=>?_)
 .
  refine cl J (Uu (b:=b.natAbs) hi hj) J<|cl J EM J<|?_;exact rz J (by rw[ao6,show n1=decide (b<0) from by simpa using hc13,lP];rfl)
 .
  refine cl J (LX (b:=b.natAbs) hi hj) J<|?_;refine bd J J J (fun hc30=>?_) (fun hc30=>?_)
  .
   refine cl J EM J<|?_;exact rz J (by rw[Xj (by simpa using hc13) hc30];rfl)
  .
   refine cl J (LX (a:=b.natAbs) hj hi) J<|cl J EM J<|?_;exact rz J (by rw[aCZ (by simpa using hc13) (by omega)];rfl)
def Zo{a b:Int}{i j:Nat}[h:BI a i][k:BI b j](hi:i<=1000000000:=by decide)(hj:j<=1000000000:=by decide):PF GB prog 159 [eI a,eI b] (eI (a+b)):=(US (n1:=decide (a<0)) (u:=a.natAbs) hi hj).to (by rw[lP])
def jv(q:Rat):Prop:= ¬(q.num.natAbs<4611686018427387904/\q.den<4611686018427387904)
instance (q:Rat):Decidable (jv q):=inferInstanceAs (Decidable (¬_))
def ce(q:Rat):Int:=if jv q then 0 else q.num
def b9(q:Rat):Int:=if jv q then 0 else(q.den:Int)-1
def cg(q:Rat):DV:= .op (decide (jv q)) [.v (.bool (decide (q.num<0))),dN q.num.natAbs,dN q.den]
def eF(q:Rat):DV:= .ag [vI (ce q),vI (b9 q),cg q]
abbrev Xr {q:Rat} (h:decide (jv q)=true):jv q:=of_decide_eq_true h
abbrev uk {q:Rat} (h:decide (jv q)=false): ¬jv q:=of_decide_eq_false h
abbrev WM {q:Rat} (h: ¬decide (jv q)=false):jv q:=by simpa using h
abbrev o6 {q:Rat} (h: ¬decide (jv q)=true): ¬jv q:=by simpa using h
def og{q:Rat}(h: ¬jv q):ce q=q.num:=if_neg h
def qf{q:Rat}(h: ¬jv q):b9 q=(q.den:Int)-1:=if_neg h
def qB{q:Rat}(h: ¬jv q):q.num.natAbs<4611686018427387904:=(Decidable.not_not.1 h).1
def qi{q:Rat}(h: ¬jv q):q.den<4611686018427387904:=(Decidable.not_not.1 h).2
def IL{q:Rat}(h:jv q):q≠0:=fun e=>by subst e;exact h ⟨by decide,by decide⟩
def tg{q:Rat}{m d:Int}{r:DV}(h: ¬jv q)(h1:q.num=m)(h2:(q.den:Int)-1=d)(e:r= .ag [vI m,vI d, .v (.pointer none)])(G:Gh)(y:Value)(k:Is G r y):Is G (eF q) y:=by
 subst e h1 h2;obtain⟨l,rfl,g⟩:=d6.1 k;obtain⟨y1,l1,rfl,k1,g1⟩:=bh.1 g;obtain⟨y2,l2,rfl,k2,g2⟩:=bh.1 g1;obtain⟨y3,l3,rfl,k3,g3⟩:=bh.1 g2;exact d6.2 ⟨_,J, .cons (by rw[og h];exact k1) (.cons (by rw[qf h];exact k2) (.cons (wk.2 (.inl ⟨decide_eq_false h,aI.1 k3⟩)) g3))⟩
def S9{q:Rat}{n:Bool}{a d:Nat}{r:DV}(h:jv q)(h1:decide (q.num<0)=n)(h2:q.num.natAbs=a)(h3:q.den=d)(e:r= .ag [vI 0,vI 0, .pt [.v (.bool n),dN a,dN d]])(G:Gh)(y:Value)(k:Is G r y):Is G (eF q) y:=by
 subst e h1 h2 h3;obtain⟨l,rfl,g⟩:=d6.1 k;obtain⟨y1,l1,rfl,k1,g1⟩:=bh.1 g;obtain⟨y2,l2,rfl,k2,g2⟩:=bh.1 g1;obtain⟨y3,l3,rfl,k3,g3⟩:=bh.1 g2;exact d6.2 ⟨_,J, .cons (by unfold ce;rw[if_pos h];exact k1) (.cons (by unfold b9;rw[if_pos h];exact k2) (.cons (wk.2 (.inr ⟨decide_eq_true h,k3⟩)) g3))⟩
def y5(G:Gh)(y:Value)(k:Is G (.ag [vI 0,vI 0, .v (.pointer none)]) y):Is G (eF 0) y:=tg (fun h=>IL h J) J J J G y k
def Ln{m:Int}(h:m.natAbs<4611686018427387904)(G:Gh)(y:Value)(k:Is G (.ag [vI m,vI 0, .v (.pointer none)]) y):Is G (eF (m:Rat)) y:=
 tg (fun k=>k ⟨by simpa using h,by rw[rQ];decide⟩) (qN m) (by rw[rQ];rfl) J G y k
def Me{n:Bool}{a d:Nat}(hd:0<d):(mkRat (zv n a) d).num=zv n (a/Nat.gcd a d)/\(mkRat (zv n a) d).den=d/Nat.gcd a d:=by
 obtain⟨h1,h2⟩:=MR (m:=zv n a) hd;rw[rI] at h1 h2;exact⟨by rw[h1,Wz (nU _ _)],h2⟩
def O3{n:Bool}{a d a' d':Nat}(hd:0<d)(ha:a'=a/Nat.gcd a d)(hd':d'=d/Nat.gcd a d)(h1:a'<4611686018427387904)(h2:d'<4611686018427387904)(G:Gh)(y:Value)(k:Is G (.ag [vI (zv n a'),vI ((d':Int)-1), .v (.pointer none)]) y):Is G (eF (mkRat (zv n a) d)) y:=by
 obtain⟨e1,e2⟩:=Me (n:=n) (a:=a) hd;rw[<-ha] at e1;rw[<-hd'] at e2;exact tg (fun k=>k ⟨by rw[e1,rI];exact h1,by rw[e2];exact h2⟩) e1 (by rw[e2]) J G y k
def FC{n:Bool}{a d a' d':Nat}(hd:0<d)(ha:a'=a/Nat.gcd a d)(hd':d'=d/Nat.gcd a d)(h: ¬(a'<4611686018427387904/\d'<4611686018427387904))(G:Gh)(y:Value)(k:Is G (.ag [vI 0,vI 0, .pt [.v (.bool (decide (zv n a'<0))),dN (zv n a').natAbs,dN d']]) y):Is G (eF (mkRat (zv n a) d)) y:=by
 obtain⟨e1,e2⟩:=Me (n:=n) (a:=a) hd;rw[<-ha] at e1;rw[<-hd'] at e2;exact S9 (fun k=>h ⟨by rw[e1,rI] at k;exact k.1,by rw[e2] at k;exact k.2⟩) (by rw[e1]) (by rw[e1]) e2 J G y k
def aIZ{a d:Nat}(hd:0<d)(h: ¬(1:Int)<(bl (Nat.gcd a d):Nat)):Nat.gcd a d=1:=by
 have h1:Nat.gcd a d≠0:=fun e=>by rw[Nat.gcd_eq_zero_iff] at e;omega
 have h2:Nat.gcd a d<2^1:=oy.1 (by omega);omega
def n9{x:Nat}:(((bl x:Nat):Int)<=62)↔x<4611686018427387904:=aBb
def PF.ofI{P:Program}{f:FuncId}{ds ds':List DV}{r:DV}(h:PF GB P f ds r)(k: ∀G vs,IsLs G ds' vs->IsLs G ds vs):PF GB P f ds' r:=fun G vs hg hv=>h G vs hg (k G vs hv)
def uR{n:Bool}{a d i j:Nat}[h:BN a i][k:BN d j](hi:i<=450000000:=by decide)(hj:j<=450000000:=by decide):PF GB prog 149 [eS n a,dN d] (eF (mkRat (zv n a) d)):=by
 refine fn func149 J J ntmps149 J J (fun C=>?_);refine cl J (x7 (a:=d) (by omega)) J<|?_;refine cs 13 J J J (fun hg13=>?_) (fun hg13=>?_)
 .
  exact jo rfl (by obtain rfl:=Ho.1 (Int.ofNat.inj hg13);rw[Rat.mkRat_zero];exact y5)
 .
  have hd0:0<d:=by have:= @Ho d;omega
  have hg0:0<Nat.gcd a d:=oU _ hd0;refine cl J (MV (n:=n) (a:=a) (by omega)) J<|?_;refine br J J J (fun hc17=>?_) (fun hc17=>?_)
  .
   exact jo J (by rw[jU.1 hc17,Rat.zero_mkRat];exact y5)
  .
   refine cl J (O9 (a:=a) (b:=d) (by omega) (by omega)) J<|cl J (x7 (a:=Nat.gcd a d) (i:=i+j) (by omega)) J<|?_;refine br J J J (fun hc25=>?_) (fun hc25=>?_)
   .
    obtain⟨a',ea⟩: ∃a',a'=a/Nat.gcd a d:=⟨_,rfl⟩;obtain⟨d',ed⟩: ∃d',d'=d/Nat.gcd a d:=⟨_,rfl⟩;have hba:BN a' i:=ea▸inferInstance;have hbd:BN d' j:=ed▸inferInstance;refine cl (fu:=⟨2⟩) J (Tj (a:=a) (b:=Nat.gcd a d) (j:=i+j) hg0 (by omega) (by omega)) J<|?_;refine aj 31 (.d (dN a')) J (by rw[ea]) ?_;refine gx J<|cl (fu:=⟨2⟩) J (Tj (a:=d) (b:=Nat.gcd a d) (j:=i+j) hg0 (by omega) (by omega)) J<|?_;refine aj 39 (.d (dN d')) J (by rw[ed]) ?_;refine gx J<|cl J (x7 (h:=hba) (by omega)) J<|?_;refine cs 46 J J J (fun hg46=>?_) (fun hg46=>?_)
    .
     refine cl J (x7 (h:=hbd) (by omega)) J<|?_;refine br J J J (fun hc50=>?_) (fun hc50=>?_)
     .
      have hs2:=n9.1 hc50;refine cl J (RH (n9.1 hg46)) J<|cl J (GC (by have:=n9.1 hc50;omega)) J<|?_;exact jo J (O3 hd0 ea ed (n9.1 hg46) (n9.1 hc50))
     .
      refine cl J (yp (neg:=n) (h:=hba) (by omega)) J<|cl J (Ab (h:=hbd) (by omega)) J<|fz 71 J J<|?_;exact jo J (FC hd0 ea ed (fun e=>hc50 (n9.2 e.2)))
    .
     refine cl J (yp (neg:=n) (h:=hba) (by omega)) J<|cl J (Ab (h:=hbd) (by omega)) J<|fz 71 J J<|?_;exact jo J (FC hd0 ea ed (fun e=>hg46 (n9.2 e.1)))
   .
    have hg1:=aIZ hd0 hc25;have ea:a=a/Nat.gcd a d:=by rw[hg1,tW]
    have ed:d=d/Nat.gcd a d:=by rw[hg1,tW]
    have hba:=h;have hbd:=k;refine cl J (x7 (h:=hba) (by omega)) J<|?_;refine cs 46 J J J (fun hg46=>?_) (fun hg46=>?_)
    .
     refine cl J (x7 (h:=hbd) (by omega)) J<|?_;refine br J J J (fun hc50=>?_) (fun hc50=>?_)
     .
      have hs2:=n9.1 hc50;refine cl J (RH (n9.1 hg46)) J<|cl J (GC (by have:=n9.1 hc50;omega)) J<|?_;exact jo J (O3 hd0 ea ed (n9.1 hg46) (n9.1 hc50))
     .
      refine cl J (yp (neg:=n) (h:=hba) (by omega)) J<|cl J (Ab (h:=hbd) (by omega)) J<|fz 71 J J<|?_;exact jo J (FC hd0 ea ed (fun e=>hc50 (n9.2 e.2)))
    .
     refine cl J (yp (neg:=n) (h:=hba) (by omega)) J<|cl J (Ab (h:=hbd) (by omega)) J<|fz 71 J J<|?_;exact jo J (FC hd0 ea ed (fun e=>hg46 (n9.2 e.1)))
def tF{m:Int}{i:Nat}[h:BI m i](hi:i<=400000000:=by decide):PF GB prog 222 [eI m] (eF (m:Rat)):=by
 refine fn func222 J J ntmps222 J J (fun C=>?_);refine rf (fu:=⟨0⟩) J J<|?_;refine aj 4 (.d (dN 1)) J (by unfold dN;rw[Co];rfl) ?_;refine gx J<|cl J (uR (n:=decide (m<0)) (a:=m.natAbs) (d:=1) (by omega)) J<|?_;exact rz J (by rw[lP,show mkRat m 1=(m:Rat) from sK ..];rfl)
def wV{q:Rat}:PF GB prog 199 [eF q] (vB (decide (q=0))):=by
 refine fn func199 J J ntmps199 J J (fun C=>?_);refine cs 6 J J J (fun hg6=>?_) (fun hg6=>?_)
 .
  exact rz J (by rw[og (uk hg6)];show DV.v (.bool (decide _))= .v (.bool _);congr 2;exact decide_eq_decide.2 ⟨fun e=>mT.1 e,fun e=>by rw[e];rfl⟩)
 .
  exact rz J (by rw[decide_eq_false (IL (WM hg6))];rfl)
def Bw{m:Int}(h:m.natAbs<9223372036854775808):PF GB prog 213 [vI m] (.v (.int .u64 (m.natAbs:Nat))):=by
 refine fn func213 J J ntmps213 J J (fun C=>?_);refine br J J J (fun hc4=>?_) (fun hc4=>?_)
 .
  exact rz J (by show DV.v (.int _ _)=_;congr 2;omega)
 .
  exact rz J (by show DV.v (.int _ _)=_;congr 2;omega)
def q6{q:Rat}{i:Nat}[h:BQ q i](hi:i<=900000000:=by decide):PF GB prog 101 [eF q] (dN q.den):=by
 refine fn func101 J J ntmps101 J J (fun C=>?_);refine br (v1:=fun hc5=>by simp only[ac];exact hc5) (fu2:=⟨6⟩) J J J (fun hc5=>?_) (fun hc5=>?_)
 .
  refine cl J (Ab (a:=q.den) (by omega)) J<|?_;exact rz J J
 .
  have hd:=q.den_nz;have hs:=qi (o6 hc5);refine aj 13 (.d (vI ((q.den:Int)-1))) J (by rw[qf (o6 hc5)]) ?_;refine gx (fu:=⟨2⟩) J<|?_;refine aj 15 (.d (.v (.int .u64 (q.den:Nat)))) J (by congr 3;omega) ?_;refine gx J<|cl J (J5 (a:=q.den) (by omega)) J<|?_;exact rz J J
def xm{q:Rat}{i:Nat}[h:BQ q i](hi:i<=900000000:=by decide):PF GB prog 100 [eF q] (eI q.num):=by
 refine fn func100 J J ntmps100 J J (fun C=>?_);refine br (v1:=fun hc5=>by simp only[ac];exact hc5) (fu2:=⟨6⟩) J J J (fun hc5=>?_) (fun hc5=>?_)
 .
  refine cl J (yp (neg:=decide (q.num<0)) (a:=q.num.natAbs) (by omega)) J<|?_;exact rz J (by rw[lP];rfl)
 .
  have hs:=qB (o6 hc5);refine aj 13 (.d (vI q.num)) J (by rw[og (o6 hc5)]) ?_;refine gx J<|cl J (Ge (by omega) (by omega)) J<|?_;exact rz J J
def qt{q:Rat}{i:Nat}[h:BQ q i](hi:i<=900000000:=by decide):PF GB prog 196 [eF q] (eF (-q)):=by
 refine fn func196 J J ntmps196 J J (fun C=>?_);refine br (v1:=fun hc5=>by simp only[ac];exact hc5) (fu2:=⟨6⟩) J J J (fun hc5=>?_) (fun hc5=>?_)
 .
  refine cl (fu:=⟨6⟩) (hv:=by simp only[ac];exact hc5) J (aFw (m:=q.num) (by omega)) J<|Kd J J<|?_;exact jo J (S9 (q:= -q) (fun k=>Xr hc5 (by rw[nJ,iJ,qQ] at k;exact k)) (by rw[nJ]) (by rw[nJ]) (qQ q) J)
 .
  have hs:=qB (o6 hc5);refine aj 21 (.d (vI q.num)) J (by rw[og (o6 hc5)]) ?_;refine gx J<|?_;exact jo J (tg (q:= -q) (fun k=>k (by rw[nJ,iJ,qQ];exact⟨hs,qi (o6 hc5)⟩)) (by rw[nJ]) (by rw[qQ,qf (o6 hc5)]) J)
def nF{q:Rat}{i:Nat}[h:BQ q i](hi:i<=900000000:=by decide):PF GB prog 145 [eF q] (vI q.num.sign):=by
 refine fn func145 J J ntmps145 J J (fun C=>?_);refine br (v1:=fun hc3=>by simp only[ac];exact hc3) J J J (fun hc3=>?_) (fun hc3=>?_)
 .
  refine cl J (MV (n:=decide (q.num<0)) (a:=q.num.natAbs) (by omega)) J<|?_;exact rz J (by rw[lP];rfl)
 .
  have hs:=og (o6 hc3);refine br J J J (fun hc13=>?_) (fun hc13=>?_)
  .
   exact rz J (by rw[fK (by omega)];rfl)
  .
   refine br J J J (fun hc17=>?_) (fun hc17=>?_)
   .
    exact rz J (by rw[fW (by omega)];rfl)
   .
    exact rz J (by rw[show q.num=0 by omega];rfl)
end Go.Sx
end
