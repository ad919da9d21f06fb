import Derived.Test.YtefoocgiaegobaaGreatDoorPd9
set_option linter.all false
set_option maxHeartbeats 2000000
set_option maxRecDepth 100000
section
namespace Go.Sx
open Go Go.Proofs Tryz
def RY{G:Gh}{x y:Nat}(hx:x<18446744073709551616)(hy:y<18446744073709551616):Fn prog 359 [.int .u64 (x:Nat), .int .u64 (y:Nat)] G (fun v _=>v= .tuple #[.int .u64 ((x*y/18446744073709551616:Nat):Int), .int .u64 ((x*y%18446744073709551616:Nat):Int)]):=
 Fn.of_calls (G:=G) (Jl func359 J J) (fun w=>Tryz.bits_Mul64 x y hx hy w)
def Nw(a b:Int):a*b=if(a<0)↔(b<0) then((a.natAbs*b.natAbs:Nat):Int) else-((a.natAbs*b.natAbs:Nat):Int):=by
 rcases(by omega:a<0\/0<=a) with h|h<;>rcases(by omega:b<0\/0<=b) with h2|h2
 ·rw[if_pos (by simp[h,h2]),iN,lQ (pW h),lQ (pW h2),Int.neg_mul_neg]
 ·rw[if_neg (by simp[h];omega),iN,lQ (pW h),nX h2,Int.neg_mul,Int.neg_neg]
 ·rw[if_neg (by simp[h2];omega),iN,nX h,lQ (pW h2),Int.mul_neg,Int.neg_neg]
 ·rw[if_pos (by constructor<;>intro<;>omega),iN,nX h,nX h2]
def XC{p:Int}(h:p.natAbs<9223372036854775808):IntKind.i64.wrap p=p:=by rw[HP];omega

def Un{n:Int}{d:Nat}(h:n<0):mkRat (-(d:Int)) n.natAbs=Rat.divInt (d:Int) n:=by
 rw[<-Rat.divInt_ofNat,lQ (pW h),Rat.neg_divInt_neg]
def OC{q:Rat}(h:q.num<0):(q⁻¹).num= -(q.den:Int)/\(q⁻¹).den=q.num.natAbs:=by
 rw[Rat.num_inv,Rat.den_inv,if_neg (by omega),fZ h];omega
def OU{q:Rat}(h:0<q.num):(q⁻¹).num=(q.den:Int)/\(q⁻¹).den=q.num.natAbs:=by
 rw[Rat.num_inv,Rat.den_inv,if_neg (by omega),gV h];omega
def Ba{q:Rat}(h:q.den=1):q=(q.num:Int):=by
 conv=>lhs;rw[<-sU q,h,Rat.mkRat_one]
def bg(a b:Rat):Int:=if a<b then-1 else if b<a then 1 else 0
def D8(a b:Rat):(a-b).num<0↔a<b:=by
 rw[<-Rat.not_le,Rat.le_iff_sub_nonneg,<-Rat.num_nonneg];omega
def Mz(a b:Rat):0<(a-b).num↔b<a:=by
 have h:=D8 b a;have h2:(b-a).num= -(a-b).num:=by rw[<-oN,Rat.neg_sub]
 rw[h2] at h;rw[<-h];omega
def Dc(a b:Rat):Int.sign (a-b).num=bg a b:=by
 unfold bg;split
 ·rename_i h;exact fZ ((D8 a b).2 h)
 ·rename_i h
  split
  ·rename_i h2;exact gV ((Mz a b).2 h2)
  ·rename_i h2
   rw[<-D8] at h;rw[<-Mz] at h2;rw[show(a-b).num=0 by omega];rfl
def JA{a b:Rat}(h:a.den=b.den):a<b↔a.num<b.num:=by
 rw[Rat.lt_iff,h];have:(0:Int)<b.den:=by have:=b.den_pos;omega
 exact⟨fun h2=>Int.lt_of_mul_lt_mul_right h2 (pW this),fun h2=>Int.mul_lt_mul_of_pos_right h2 this⟩
def r7(a b:Rat):bg a b=0↔a=b:=by
 unfold bg;constructor
 ·intro h
  split at h
  ·omega
  ·rename_i h1
   split at h
   ·omega
   ·rename_i h2
    exact Rat.le_antisymm (Rat.not_lt.1 h2) (Rat.not_lt.1 h1)
 ·intro h
  subst h;rw[if_neg (Rat.not_lt.2 gR),if_neg (Rat.not_lt.2 gR)]
def Pd(a b:Rat):0<bg a b↔b<a:=by
 unfold bg;constructor
 ·intro h
  split at h
  ·omega
  ·split at h
   ·assumption
   ·omega
 ·intro h
  rw[if_neg (fun h2=>Rat.not_lt.2 (fT h) h2),if_pos h];decide
def PS(a b:Rat):bg a b<0↔a<b:=by
 unfold bg;constructor
 ·intro h
  split at h
  ·assumption
  ·split at h<;>omega
 ·intro h
  rw[if_pos h];decide
def rgcd(a b:Rat):Rat:=mkRat ((Nat.gcd (a.num.natAbs*b.den) (b.num.natAbs*a.den):Nat):Int) (a.den*b.den)
def D3(a b:Int):rgcd a b=((Nat.gcd a.natAbs b.natAbs:Nat):Int):=by
 unfold rgcd;show mkRat ((Nat.gcd (a.natAbs*1) (b.natAbs*1):Nat):Int) (1*1)=_;rw[kS,kS,kS,Rat.mkRat_one]
def Rv{a b m:Nat}(ha:a<m)(hb:b<m):Nat.gcd a b<m:=by
 rcases fL a with h|h
 ·rw[h,Nat.gcd_zero_left];exact hb
 ·exact fN (Nat.gcd_le_left _ h) ha
structure LV where
 a:RV
 b:RV
 c:RV
def LV.v(z:LV):Value:= .agg ⟨[.int .i64 z.a.n, .int .i64 z.a.d, .pointer z.a.p, .int .i64 z.b.n, .int .i64 z.b.d, .pointer z.b.p, .int .i64 z.c.n, .int .i64 z.c.d, .pointer z.c.p]⟩
structure aa where
 a:Int
 b:Int
 c:Int
structure Ii (k:Nat) (G:Gh) (z:LV) (l:aa):Prop where
 a:uv k G z.a (l.a:Rat)
 b:uv k G z.b (l.b:Rat)
 c:uv k G z.c (l.c:Rat)
def aa.ok(l:aa):Prop:= ¬(l.a=0/\l.b=0)/\Nat.gcd (Nat.gcd l.a.natAbs l.b.natAbs) l.c.natAbs=1
def okI(neg:Bool)(ds:List Nat):Prop:=dC ds/\(neg=true->ds≠[])
structure PV where
 x:RV
 y:RV
def PV.v(z:PV):Value:= .agg ⟨[.int .i64 z.x.n, .int .i64 z.x.d, .pointer z.x.p, .int .i64 z.y.n, .int .i64 z.y.d, .pointer z.y.p]⟩
structure ab where
 x:Rat
 y:Rat
structure IsP (k:Nat) (G:Gh) (z:PV) (p:ab):Prop where
 x:uv k G z.x p.x
 y:uv k G z.y p.y
def EY(a:Int): -(a:Rat)=((-a:Int):Rat):=rfl
def aa.rev(l:aa):aa:=⟨-l.a, -l.b, -l.c⟩
def aa.nor(l:aa):ab:=⟨l.a,l.b⟩
def aa.dir(l:aa):ab:=⟨l.b, -(l.a:Rat)⟩
def ab.dot(p q:ab):Rat:=p.x*q.x+p.y*q.y
def ab.cross(p q:ab):Rat:=p.x*q.y-p.y*q.x
def ab.scale(p:ab)(c:Rat):ab:=⟨p.x*c,p.y*c⟩
def ab.add(p q:ab):ab:=⟨p.x+q.x,p.y+q.y⟩
def aa.value(l:aa)(p:ab):Rat:=l.nor.dot p+(l.c:Rat)
def aa.base(l:aa):ab:=l.nor.scale (-(l.c:Rat)/l.nor.dot l.nor)
def aa.at(l:aa)(t:Rat):ab:=l.base.add (l.dir.scale t)
end Go.Sx
end
section
namespace Go.Sx
open Go
def dU(d:Nat):DV:= .v (.int .u32 (d:Int))
def fh(ds:List Nat):DV:= .sl (ds.map dU)
def dN(n:Nat):DV:= .sl ((dg n).map dU)
def dD(n:Nat):DV:= .sl (if n=1 then [] else(dg n).map dU)
def eI(m:Int):DV:= .ag [.v (.bool (decide (m<0))),dN m.natAbs]
def eQ(q:Rat):DV:= .ag [.v (.bool (decide (q.num<0))),dN q.num.natAbs,dD q.den]
def eP(p:ab):DV:= .ag [.v (.bool (decide (p.x.num<0))),dN p.x.num.natAbs,dD p.x.den, .v (.bool (decide (p.y.num<0))),dN p.y.num.natAbs,dD p.y.den]
def eL(l:aa):DV:= .ag [.v (.bool (decide (l.a<0))),dN l.a.natAbs, .v (.bool (decide (l.b<0))),dN l.b.natAbs, .v (.bool (decide (l.c<0))),dN l.c.natAbs]
def eR(q:Rat):DV:= .ag [.v (.bool (decide (q.num<0))),dN q.num.natAbs,dN q.den]
def mm(p:ab):DV:= .ag [.v (.bool (decide (p.x.num<0))),dN p.x.num.natAbs,dN p.x.den, .v (.bool (decide (p.y.num<0))),dN p.y.num.natAbs,dN p.y.den]
def vI(n:Int):DV:= .v (.int .i64 n)
def vB(b:Bool):DV:= .v (.bool b)
def Ec(n:Nat):dN n=fh (dg n):=rfl
def TS{ds:List Nat}(h:bw ds):fh (trimD ds)=dN (dv ds):=by unfold fh dN;rw[nA h]
def VV{ds:List Nat}{i:Nat}(h:i<ds.length):(ds.map dU)[i]? =some (dU (ds.getD i 0)):=by
 rw[eJ,aZ h,aX,aZ h];rfl
def lv{ds:List Nat}{i:Nat}(h:i<ds.length):(ds.map dU)[(i:Int).toNat]? =some (dU (ds.getD i 0)):=by rw[bW];exact VV h
def td(ds:List Nat)(i d:Nat):(ds.map dU).set i (.v (.int .u32 (d:Int)))=(ds.set i d).map dU:=by rw[jU];rfl
def ue(n:Nat):List.replicate n (DV.v (.int .u32 0))=(List.replicate n 0).map dU:=by rw[List.map_replicate];rfl
def tk(ds:List Nat):cC 1 (ds.map dU):=fun d hd=>by
 obtain⟨n,_,rfl⟩:=bM.1 hd;exact⟨rfl,rfl⟩
def gp(n:Nat)(i:Nat):(dg n).getD i 0<4294967296:=(ek n).2.1.get i
def Ao:dg 0=[]:=by rw[dg,dif_pos J]
def Bh:dg 1=[1]:=by rw[dg,dif_neg (by decide)];simp[Ao]
def tg{n:Nat}:(dg n).length=0↔n=0:=by
 constructor
 ·intro h
  have:=(ek n).1;rw[bK h] at this;exact this.symm
 ·rintro rfl;rw[Ao];rfl
def n5:dN 0= .sl []:=by unfold dN;rw[Ao];rfl
def Dl{G:Gh}: ∀{ds:List Nat} {es:List Value},IsLs G (ds.map dU) es↔es=ds.map dI
 |[],es=>dl
 |d::t,es=>by
  rw[bJ,bt];constructor
  ·rintro ⟨y,n,rfl,h1,h2⟩
   rw[bc.1 h1,Dl.1 h2];rfl
  ·rintro rfl
   exact⟨_,_,J,bc.2 J,Dl.2 J⟩
def Iu{G:Gh}{ds:List Nat}{v:Value}:Is G (fh ds) v↔ ∃x:SV,v= .slice x.a x.n x.c/\ee G 1 x (ds.map dI):=by
 unfold fh;rw[jn];constructor
 ·rintro ⟨s,x,es,rfl,h1,h2⟩
  have:=Dl.1 h2;subst this;refine⟨x,J,?_⟩;rcases CM (s:=1) h1 h2 (tk ds) with h|h
  ·rw[h] at h1⊢
   exact⟨h1.len,h1.cap, .inl J⟩
  ·subst h;exact h1
 ·rintro ⟨x,rfl,h⟩
  exact⟨1,x,_,J,h,Dl.2 J⟩
def Hs{G:Gh}{n k:Nat}{v:Value}(hk:n<2^k):Is G (dN n) v↔ ∃x:SV,v= .slice x.a x.n x.c/\fj k G x n:=by
 rw[Ec,Iu];constructor
 ·rintro ⟨x,rfl,h⟩
  exact⟨x,J,⟨(ek n).2.1,h⟩,hk⟩
 ·rintro ⟨x,rfl,h⟩
  exact⟨x,J,h.d.sl⟩
def gh{ds:List Nat}{i:Int}{k:Nat}(hi:i=k)(h:k<ds.length):(ds.map dU)[i.toNat]? =some (dU (ds.getD k 0)):=by subst hi;exact lv h
class BN (n:Nat) (k:outParam Nat):Prop where h:n<2^k
class BI (m:Int) (k:outParam Nat):Prop where h:m.natAbs<2^k
class BQ (q:Rat) (k:outParam Nat):Prop where
 hn:q.num.natAbs<2^k
 hd:q.den<2^k
theorem BN.mono{n k k':Nat}(h:BN n k)(hk:k<=k'):BN n k':=⟨dK h.h (bY (by decide) hk)⟩
def oq{a b i j:Nat}(h:a<2^i)(k:b<2^j):a*b<2^(i+j):=by rw[fX];exact mT h k
def Bj{a b i j:Nat}(h:a<2^i)(k:b<2^j):a+b<2^(i+j+1):=by
 have h1:2^i<=2^(i+j):=bY (by decide) (by omega);have h2:2^j<=2^(i+j):=bY (by decide) (by omega);rw[fK];omega
instance BN.mul (a b i j:Nat) [h:BN a i] [k:BN b j]:BN (a*b) (i+j):=⟨oq h.h k.h⟩
instance BN.add (a b i j:Nat) [h:BN a i] [k:BN b j]:BN (a+b) (i+j+1):=⟨Bj h.h k.h⟩
instance BN.sub (a b i:Nat) [h:BN a i]:BN (a-b) i:=⟨by have:=h.h;omega⟩
instance BN.div (a b i:Nat) [h:BN a i]:BN (a/b) i:=⟨fN (kY _ _) h.h⟩
instance BN.abs (m:Int) (i:Nat) [h:BI m i]:BN m.natAbs i:=⟨h.h⟩
instance BN.den (q:Rat) (i:Nat) [h:BQ q i]:BN q.den i:=⟨h.hd⟩
def DM{a b i j:Nat}(h:a<2^i)(k:b<2^j):Nat.gcd a b<2^(i+j):=by
 have h1:2^i<=2^(i+j):=bY (by decide) (by omega);have h2:2^j<=2^(i+j):=bY (by decide) (by omega);rcases fL a with h0|h0
 ·subst h0;rw[Nat.gcd_zero_left];omega
 ·have:=Nat.gcd_le_left b h0;omega
instance BN.gcd (a b i j:Nat) [h:BN a i] [k:BN b j]:BN (Nat.gcd a b) (i+j):=⟨DM h.h k.h⟩
instance BN.one:BN 1 1:=⟨by decide⟩
instance BN.zero:BN 0 0:=⟨by decide⟩
instance BI.mul (a b:Int) (i j:Nat) [h:BI a i] [k:BI b j]:BI (a*b) (i+j):=⟨by rw[jQ];exact oq h.h k.h⟩
instance BI.add (a b:Int) (i j:Nat) [h:BI a i] [k:BI b j]:BI (a+b) (i+j+1):=⟨fN (Int.natAbs_add_le a b) (Bj h.h k.h)⟩
instance BI.sub (a b:Int) (i j:Nat) [h:BI a i] [k:BI b j]:BI (a-b) (i+j+1):=⟨fN (Int.natAbs_sub_le a b) (Bj h.h k.h)⟩
instance BI.neg (a:Int) (i:Nat) [h:BI a i]:BI (-a) i:=⟨by rw[kJ];exact h.h⟩
instance BI.num (q:Rat) (i:Nat) [h:BQ q i]:BI q.num i:=⟨h.hn⟩
instance BI.nat (n:Nat) (i:Nat) [h:BN n i]:BI (n:Int) i:=⟨by rw[lN];exact h.h⟩
def lu(q:Rat):0<q.den:=iY q.den_nz
theorem xe{m:Int}{d i:Nat}(hd:0<d)(h:m.natAbs<2^i)(k:d<2^i):BQ (mkRat m d) i:=by
 refine⟨?_,?_⟩
 ·rw[Rat.num_mkRat,if_neg (by omega)]
  have:=nQ m (d.gcd m.natAbs:Nat);omega
 ·rw[Rat.den_mkRat,if_neg (by omega)]
  have:=kY d (d.gcd m.natAbs);omega
theorem BQ.mono{q:Rat}{k k':Nat}(h:BQ q k)(hk:k<=k'):BQ q k':=⟨dK h.hn (bY (by decide) hk),dK h.hd (bY (by decide) hk)⟩
def xz(p q:Rat):p*q=mkRat (p.num*q.num) (p.den*q.den):=by rw[Rat.mul_def,Rat.normalize_eq_mkRat]
def An(p q:Rat):p+q=mkRat (p.num*q.den+q.num*p.den) (p.den*q.den):=by rw[Rat.add_def,Rat.normalize_eq_mkRat]
instance BQ.mul (p q:Rat) (i j:Nat) [h:BQ p i] [k:BQ q j]:BQ (p*q) (i+j):=by
 rw[xz];exact xe (kQ (lu p) (lu q)) (BI.mul p.num q.num i j).h (oq h.hd k.hd)
instance BQ.add (p q:Rat) (i j:Nat) [h:BQ p i] [k:BQ q j]:BQ (p+q) (i+j+1):=by
 rw[An];refine xe (kQ (lu p) (lu q)) ?_ ?_
 ·have h1:=oq h.hn k.hd
  have h2:=oq k.hn h.hd;have h3:(p.num*q.den+q.num*p.den).natAbs<=(p.num*q.den).natAbs+(q.num*p.den).natAbs:=Int.natAbs_add_le ..;rw[jQ,jQ,lN,lN] at h3;rw[kW j i] at h2;rw[fK];omega
 ·have h1:=oq h.hd k.hd
  rw[fK];omega
instance BQ.neg (p:Rat) (i:Nat) [h:BQ p i]:BQ (-p) i:=⟨by rw[oN,kJ];exact h.hn,by rw[rS];exact h.hd⟩
instance BQ.sub (p q:Rat) (i j:Nat) [h:BQ p i] [k:BQ q j]:BQ (p-q) (i+j+1):=by
 rw[Rat.sub_eq_add_neg];exact BQ.add p (-q) i j
instance BQ.ofInt (m:Int) (i:Nat) [h:BI m i]:BQ (m:Rat) (i+1):=by
 refine⟨?_,?_⟩
 ·rw[qK];have:=h.h;rw[fK];omega
 ·rw[qV];have:0<2^i:=dL (by decide);rw[fK];omega
end Go.Sx
end
section
namespace Go.Sx
open Go Go.Proofs Tryz
variable {GB:Gh}
def BT(p q:Int):Nat:=(BitVec.ofInt 32 p &&& BitVec.ofInt 32 q).toNat
def DN(p q:Int):Nat:=(BitVec.ofInt 32 p ||| BitVec.ofInt 32 q).toNat
def zy(p q:Int):Nat:=(BitVec.ofInt 32 p^^^BitVec.ofInt 32 q).toNat
def atB{ds:List Nat}{n:Nat}(h:0<n/\n<=ds.length)(hz:ds.getD (n-1) 0=0):trimD (ds.take n)=trimD (ds.take (n-1)):=by
 obtain⟨m,rfl⟩: ∃m,n=m+1:=⟨n-1,by omega⟩;rw[fM (by omega),lR];rw[lR,aX,aZ (by omega)] at hz;simp only[jK] at hz;rw[hz,NH]
def Td{ds:List Nat}{n:Nat}(h:n<=ds.length)(hz:0<n->ds.getD (n-1) 0≠0):trimD (ds.take n)=ds.take n:=by
 rcases fL n with h0|h0
 ·subst h0;simp[trimD]
 ·obtain⟨m,rfl⟩: ∃m,n=m+1:=⟨n-1,by omega⟩
  have hz:=hz h0;rw[fM (by omega)];rw[lR,aX,aZ (by omega)] at hz;exact F4 (by simpa using hz)
def Yh{x y c:Nat}(hx:x<4294967296)(hy:y<4294967296)(hc:c<=1):PF GB prog 376 [.v (.int .u32 (x:Int)), .v (.int .u32 (y:Int)), .v (.int .u32 (c:Int))] (.tp [.v (.int .u32 (((x+y+c)%4294967296:Nat):Int)), .v (.int .u32 (((x+y+c)/4294967296:Nat):Int))]):=by
 refine fn (hv:=by simp only[ah];exact⟨⟨⟨⟨⟨by omega,by omega⟩,by omega⟩,by omega⟩,by omega⟩,(by decide)⟩) func376 J J ntmps376 J J (fun C=>?_);exact rz J (by
  have e1:((x:Int)+y+c)%4294967296=(((x+y+c)%4294967296:Nat):Int):=by omega
  have e2:((x:Int)+y+c).fdiv (2^min (32:Int).toNat IntKind.u64.bits)%4294967296=(((x+y+c)/4294967296:Nat):Int):=by
   rw[show(2:Int)^min (32:Int).toNat IntKind.u64.bits=((4294967296:Nat):Int) from J,gT _ (by decide)];omega
  show DV.tp [.v (.int _ _), .v (.int _ _)]=_;rw[e1,e2])
def E5(n:Nat)(h:n<4294967296):(BitVec.ofInt 32 (n:Int)).msb=decide (2147483648<=n):=by
 rw[show BitVec.ofInt 32 (n:Int)=BitVec.ofNat 32 n from BitVec.ofInt_natCast ..];rw[BitVec.msb_eq_decide,BitVec.toNat_ofNat,gQ (by simpa using h)]
def ar6(b:BitVec 32):b.toNat/2147483648=if b.msb then 1 else 0:=by
 have:=b.isLt;rw[BitVec.msb_eq_decide];simp only[decide_eq_true_eq,Nat.reduceSub,Nat.reducePow] at*;split<;>omega
def S2(b:BitVec 32):BitVec.ofInt 32 (b.toNat:Int)=b:=by rw[BitVec.ofInt_natCast,BitVec.ofNat_toNat,BitVec.setWidth_eq]
def X4{x y c:Nat}(hx:x<4294967296)(hy:y<4294967296)(hc:c<=1):
  ((DN (BT (zy IntKind.u32.max x:Nat) y:Nat) (BT (zy IntKind.u32.max (zy x y:Nat):Nat) (IntKind.u32.wrap (IntKind.u32.wrap ((x:Int)-y)-c)):Nat):Nat):Int).fdiv (2^min (31:Int).toNat IntKind.u32.bits)=(((if x<y+c then 1 else 0):Nat):Int):=by
 rw[show((2:Int)^min (31:Int).toNat IntKind.u32.bits)=((2147483648:Nat):Int) from J,gT _ (by decide),<-pY];congr 1;have hd: ∃d:Nat,d<4294967296/\IntKind.u32.wrap (IntKind.u32.wrap ((x:Int)-y)-c)=(d:Int)/\((x>=y+c/\d=x-(y+c))\/(x<y+c/\d=x+4294967296-(y+c))):=by
  rw[pD,pD];refine⟨((((x:Int)-y)%4294967296-c)%4294967296).toNat,by omega,by omega,by omega⟩
 obtain⟨d,hd1,hd2,hd3⟩:=hd;rw[hd2];unfold DN BT zy;simp only[S2];rw[ar6];simp only[BitVec.msb_or,BitVec.msb_and,BitVec.msb_xor,E5 x hx,E5 y hy,E5 d hd1];have h1:(BitVec.ofInt 32 IntKind.u32.max).msb=true:=by decide
 rw[h1];rcases iS x 2147483648 with a|a<;>rcases iS y 2147483648 with b|b<;>rcases iS d 2147483648 with e|e<;>
  simp[Nat.not_le.2, *]<;>(first|omega|(split<;>omega))
def YG{x y c:Nat}(hx:x<4294967296)(hy:y<4294967296)(hc:c<=1):IntKind.u32.wrap (IntKind.u32.wrap ((x:Int)-y)-c)=(((if x<y+c then x+4294967296-(y+c) else x-(y+c)):Nat):Int):=by
 rw[pD,pD];split<;>omega
def RM{x y c:Nat}(hx:x<4294967296)(hy:y<4294967296)(hc:c<=1):PF GB prog 377 [.v (.int .u32 (x:Int)), .v (.int .u32 (y:Int)), .v (.int .u32 (c:Int))] (.tp [.v (.int .u32 (((if x<y+c then x+4294967296-(y+c) else x-(y+c)):Nat):Int)), .v (.int .u32 (((if x<y+c then 1 else 0):Nat):Int))]):=by
 refine fn (fu:=⟨10⟩) func377 J J ntmps377 J J (fun C=>?_);refine sw (fu:=⟨1⟩) _ J (pD _).symm J<|sw (fu:=⟨6⟩) _ J (pD _).symm J<|nt (fu:=⟨4⟩) _ J J J<|xr (fu:=⟨0⟩) _ J J J<|nt _ J J J<|?_;exact rz J (by have h1:=X4 hx hy hc;unfold DN BT zy at h1;show DV.tp [.v (.int _ _), .v (.int _ _)]=_;rw[h1,YG hx hy hc])
def pH{ds:List Nat}(hl:ds.length<=1125899906842624):PF GB prog 248 [fh ds] (fh (trimD ds)):=by
 refine fn func248 J J ntmps248 J J (fun C=>?_);refine lp (X:=Nat) (fun n=>[(0, .d (fh ds)),(3, .d (vI (n:Nat)))]) (fun n=>[]) (fun n=>n<=ds.length/\trimD ds=trimD (ds.take n)) (fun n=>n) ds.length J ⟨aL _,by rw[cM]⟩ (fun _=>J) (fun n hk=>?_);obtain⟨h1,h2⟩:=hk;refine cs 8 J J J (fun hg8=>?_) (fun hg8=>?_)
 .
  refine ix _ J (gh (k:=n-1) (by omega) (by omega)) J<|?_;refine br J J J (fun hc15=>?_) (fun hc15=>?_)
  .
   have hz:ds.getD (n-1) 0=0:=by omega
   exact at_ (n-1) ⟨⟨by omega,by rw[h2,atB (by omega) hz]⟩,(by omega)⟩
  .
   refine k9 0 n _ J J J J (tk _) (by omega) (by simp;omega) J<|?_;exact rz J (by have:=Td h1 (fun _ h=>hc15 (by omega));rw[<-h2] at this;show DV.sl _=_;simp[fh,this])
 .
  refine k9 0 n _ J J J J (tk _) (by omega) (by simp;omega) J<|?_;exact rz rfl (by obtain rfl:n=0:=(by omega);show DV.sl _=_;simp[fh,h2,trimD])
def s4{a k:Nat}(h:a<2^k)(hk:k<=1000000000):(dg a).length<=100000000:=by have:=ld h;omega
def b8(a:Nat):dv (dg a)=a:=(ek a).1
def jI(a:Nat):bw (dg a):=(ek a).2.1
def ez(ds:List Nat):(ds.map dU).length=ds.length:=aK ..
def ou{ds:List Nat}{n:Nat}(h:ds.length<=n):ds.take n=ds:=aU h
def sN{ds:List Nat}{i:Nat}(h:ds.length<=i):ds.getD i 0=0:=by
 rw[aX,eY h];rfl
def q9{ds:List Nat}{n:Nat}(h:bw ds)(e:dv ds=n):fh (trimD ds)=dN n:=by rw[TS h,e]
def GK{a b:Nat}(h:a<b):f8 a b= -1:=by unfold f8;rw[if_pos h]
def Er{a b:Nat}(h:b<a):f8 a b=1:=by unfold f8;rw[if_neg (by omega),if_neg (by omega)]
def TH{a b:Nat}(h:a=b):f8 a b=0:=by unfold f8;rw[if_neg (by omega),if_pos h]
def ZC(m n:Nat):Int.sign ((m:Int)-n)=f8 m n:=by
 unfold f8;split
 ·exact fZ (by omega)
 ·split
  ·rw[show(m:Int)-n=0 by omega];rfl
  ·exact gV (by omega)
def YN{a b:Nat}(h:(dg a).length≠(dg b).length):f8 (dg a).length (dg b).length=f8 a b:=by
 rcases Nat.lt_or_gt_of_ne h with h|h
 ·have:=r4 (jI a) (ek b).2.2 h
  rw[b8,b8] at this;rw[GK h,GK this]
 ·have:=r4 (jI b) (ek a).2.2 h
  rw[b8,b8] at this;rw[Er h,Er this]
def GI{a b i:Nat}(hl:(dg a).length=(dg b).length)(hi:i<(dg a).length)(hs:(dg a).drop (i+1)=(dg b).drop (i+1)):
  ((dg a).getD i 0<(dg b).getD i 0->a<b)/\((dg b).getD i 0<(dg a).getD i 0->b<a)/\((dg a).getD i 0=(dg b).getD i 0->(dg a).drop i=(dg b).drop i):=by
 refine⟨fun h=>?_,fun h=>?_,fun h=>?_⟩
 ·have:=Cw (jI a) (jI b) i hi (by omega) hl hs h
  rwa [b8,b8] at this
 ·have:=Cw (jI b) (jI a) i (by omega) hi hl.symm hs.symm h
  rwa [b8,b8] at this
 ·rw[bX hi,bX (by omega:i<(dg b).length),hs]
  rw[aX,aX,aZ hi,aZ (by omega:i<(dg b).length)] at h;simp only[jK] at h;rw[h]
def Z3{z:Int}:PF GB prog 283 [vI z] (vI z.sign):=by
 refine fn func283 J J ntmps283 J J (fun C=>?_);refine br J J J (fun hc4=>?_) (fun hc4=>?_)
 .
  exact rz J (by show DV.v (.int _ 1)=DV.v (.int _ _);rw[gV (by omega)])
 .
  refine br J J J (fun hc6=>?_) (fun hc6=>?_)
  .
   exact rz J (by show DV.v (.int _ (-1))=DV.v (.int _ _);rw[fZ (by omega)])
  .
   exact rz J (by show DV.v (.int _ 0)=DV.v (.int _ _);rw[show z=0 by omega];rfl)
def Uk(u:Nat):dv [u%4294967296,u/4294967296]=u:=by simp only[dv];omega
def aBx{u:Nat}(h:u<18446744073709551616):bw [u%4294967296,u/4294967296]:= .cons (by omega) (.cons (by omega) .nil)
def FP(u:Nat):(u:Int).fdiv (2^min (32:Int).toNat IntKind.u64.bits)=((u/4294967296:Nat):Int):=by
 rw[show(2:Int)^min (32:Int).toNat IntKind.u64.bits=((4294967296:Nat):Int) from J,gT _ (by decide)];rfl
def sE{u:Nat}(hu:u<18446744073709551616):PF GB prog 158 [.v (.int .u64 (u:Int))] (dN u):=by
 refine fn (fu:=⟨11⟩) (hv:=by simp only[ah];exact(by decide)) func158 J J ntmps158 J J (fun C=>?_);refine ak 6 (.d (.v (.int .u64 (u/4294967296:Nat)))) J (by rw[FP]) ?_;refine gx J<|rf (fu:=⟨0⟩) J J<|?_;refine ak 8 (.d (fh [u%4294967296,u/4294967296])) J (by show FX.d (.sl [.v (.int _ _), .v (.int _ _)])= .d (.sl [.v (.int _ _), .v (.int _ _)]);congr 6;omega) ?_;refine gx J<|cl J (pH (ds:=[u%4294967296,u/4294967296]) (by simp)) J<|?_;exact rz J (q9 (aBx hu) (Uk u))
def FL:PF GB prog 188 [] (dN 1):=by
 refine fn func188 J J ntmps188 J J (fun C=>?_);refine rf J J<|?_;exact rz J (by unfold dN;rw[Bh];rfl)
def Ap{a b:Nat}(ha:(dg a).length<=100000000)(hb:(dg b).length<=100000000):PF GB prog 187 [dN a,dN b] (vI (f8 a b)):=by
 have hla:=ez (dg a);have hlb:=ez (dg b);refine fn func187 J J ntmps187 J J (fun C=>?_);refine br J J J (fun hc10=>?_) (fun hc10=>?_)
 .
  refine cl J Z3 J<|?_;exact rz J (by show DV.v (.int _ _)=DV.v (.int _ _);rw[hla,hlb,ZC,YN (by omega)])
 .
  have hl:(dg a).length=(dg b).length:=by omega
  refine lp (X:=Nat) (fun k=>[(0, .d (dN a)),(1, .d (dN b)),(5, .d (vI ((k:Nat)-1)))]) (fun k=>[]) (fun k=>k<=(dg a).length/\(dg a).drop k=(dg b).drop k) (fun k=>k) (dg a).length J ⟨aL _,by rw[fU,hl,fU]⟩ (fun _=>J) (fun k hk=>?_);obtain⟨h1,h2⟩:=hk;refine br J J J (fun hc21=>?_) (fun hc21=>?_)
  .
   obtain⟨k,rfl⟩: ∃m,k=m+1:=⟨k-1,by omega⟩;refine ix _ J (gh (k:=k) (by omega) (by omega)) J<|ix _ J (gh (k:=k) (by omega) (by omega)) J<|?_;refine br J J J (fun hc32=>?_) (fun hc32=>?_)
   .
    exact rz J (by show DV.v (.int _ 1)=DV.v (.int _ _);rw[Er ((GI hl (by omega) h2).2.1 (by omega))])
   .
    refine ix _ J (gh (k:=k) (by omega) (by omega)) J<|ix _ J (gh (k:=k) (by omega) (by omega)) J<|?_;refine br J J J (fun hc41=>?_) (fun hc41=>?_)
    .
     exact rz J (by show DV.v (.int _ (-1))=DV.v (.int _ _);rw[GK ((GI hl (by omega) h2).1 (by omega))])
    .
     exact at_ k ⟨⟨by omega,(GI (i:=k) hl (by omega) h2).2.2 (by omega)⟩,(by omega)⟩
  .
   exact rz rfl (by show DV.v (.int _ 0)=DV.v (.int _ _);rw[TH];obtain rfl:k=0:=(by omega);rw[iW,iW] at h2;rw[<-b8 a,h2,b8])
def Uf{A B W:List Nat}{i c:Nat}(hi:i<W.length)(h:dv (W.take i)+4294967296^i*c=dv (A.take i)+dv (B.take i)):
  dv ((W.set i ((A.getD i 0+B.getD i 0+c)%4294967296)).take (i+1))+4294967296^(i+1)*((A.getD i 0+B.getD i 0+c)/4294967296)=dv (A.take (i+1))+dv (B.take (i+1)):=by
 rw[pE hi,iG A,iG B,fK,show A.getD i 0+B.getD i 0+c=c+A.getD i 0+B.getD i 0 by omega];exact Le h
def Vw{a b n:Nat}{W:List Nat}{c:Nat}(hn:n=max (dg a).length (dg b).length)(hl:W.length=n+1)(h:dv (W.take n)+4294967296^n*c=dv ((dg a).take n)+dv ((dg b).take n)):dv (W.set n c)=a+b:=by
 have e:=pE (ws:=W) (k:=n) (d:=c) (by omega);rw[ou (by rw[aS];omega)] at e;rw[e,h,ou (by omega),ou (by omega),b8,b8]
def TG{a b ia ib:Nat}[ha:BN a ia][hb:BN b ib](hi:ia<=1000000000:=by decide)(hj:ib<=1000000000:=by decide):PF GB prog 336 [dN a,dN b] (dN (a+b)):=by
 have hla:=ez (dg a);have hlb:=ez (dg b);have hba:=s4 ha.h hi;have hbb:=s4 hb.h hj;refine fn (fu:=⟨12⟩) func336 J J ntmps336 J J (fun C=>?_);obtain⟨n,hn⟩: ∃n,n=max (dg a).length (dg b).length:=⟨_,rfl⟩;refine ak 15 (.d (vI (n:Nat))) J (by show FX.d (.v (.int _ _))= .d (.v (.int _ _));congr 3;split<;>omega) ?_;refine gx J<|mk ((List.replicate (n+1) 0).map dU) J J (by rw[<-ue];rfl) J<|?_;refine lp (X:=List Nat×Nat×Nat) (fun⟨W,c,i⟩=>[(0, .d (dN a)),(1, .d (dN b)),(5, .d (vI (n:Nat))),(6, .rw 18),(7, .d (.v (.int .u32 (c:Nat)))),(8, .d (vI (i:Nat)))]) (fun⟨W,c,i⟩=>[(18,some (.b 366 1 (W.map dU) true))]) (fun⟨W,c,i⟩=>W.length=n+1/\bw W/\c<=1/\i<=n/\dv (W.take i)+4294967296^i*c=dv ((dg a).take i)+dv ((dg b).take i)) (fun⟨W,c,i⟩=>n-i) ⟨List.replicate (n+1) 0,0,0⟩ J ⟨by simp, .replicate _,by omega,by omega,by simp[dv]⟩ (fun _=>J) (fun⟨W,c,i⟩ hk=>?_);dsimp only at hk⊢;obtain⟨h1,h2,h3,h4,h5⟩:=hk;have hlw:=ez W;have hda:=gp a i;have hdb:=gp b i;refine br (fu1:=⟨11⟩) J J J (fun hc21=>?_) (fun hc21=>?_)
 .
  refine mg (fu:=⟨1⟩) (X:=Unit) (fun _=>[(0, .d (dN a)),(1, .d (dN b)),(5, .d (vI (n:Nat))),(6, .rw 18),(7, .d (.v (.int .u32 (c:Nat)))),(8, .d (vI (i:Nat))),(9, .d (dU ((dg a).getD i 0))),(10, .d (.v (.int .u32 0)))]) (fun _=>[(18,some (.b 366 1 (W.map dU) true))]) (fun _=>True) [0,1,5,6,7,8,9,10] [18] rfl ?_ (fun _=>J) (fun _ hm=>?_)
  .
   refine gx J<|?_;refine br J J J (fun hc27=>?_) (fun hc27=>?_)
   .
    refine ix _ J (lv (by omega)) J<|?_;exact at_ () trivial
   .
    refine ak 9 (.d (dU ((dg a).getD i 0))) J (by rw[sN (by omega)];rfl) ?_;exact at_ () trivial
  .
   refine mg (X:=Unit) (fun _=>[(0, .d (dN a)),(1, .d (dN b)),(5, .d (vI (n:Nat))),(6, .rw 18),(7, .d (.v (.int .u32 (c:Nat)))),(8, .d (vI (i:Nat))),(9, .d (dU ((dg a).getD i 0))),(10, .d (dU ((dg b).getD i 0)))]) (fun _=>[(18,some (.b 366 1 (W.map dU) true))]) (fun _=>True) [0,1,5,6,7,8,9,10] [18] rfl ?_ (fun _=>J) (fun _ hm=>?_)
   .
    refine gx J<|?_;refine br J J J (fun hc35=>?_) (fun hc35=>?_)
    .
     refine ix _ J (lv (by omega)) J<|?_;exact at_ () trivial
    .
     refine ak 10 (.d (dU ((dg b).getD i 0))) J (by rw[sN (by omega)];rfl) ?_;exact at_ () trivial
   .
    refine cl J (Yh (by omega) (by omega) (by omega)) J<|sb _ ((W.set i (((dg a).getD i 0+(dg b).getD i 0+c)%4294967296)).map dU) J (lv (by omega)) J (by rw[<-td];rfl) J<|?_;exact at_ ⟨W.set i (((dg a).getD i 0+(dg b).getD i 0+c)%4294967296),((dg a).getD i 0+(dg b).getD i 0+c)/4294967296,i+1⟩ (by dsimp only;exact⟨⟨by simpa using h1,h2.set _ (by omega),by omega,by omega,Uf (by omega) h5⟩,(by omega)⟩)
 .
  obtain rfl:i=n:=by omega
  refine sb _ ((W.set i c).map dU) J (lv (by omega)) J (by rw[<-td];rfl) J<|fz 18 J J<|cl J (pH (ds:=W.set i c) (by simp;omega)) J<|?_;exact rz J (q9 (h2.set _ (by omega)) (Vw hn h1 h5))
def SU{A B W:List Nat}{i c d c2:Nat}(hA:bw A)(hB:bw B)(hi:i<W.length)(hc:c<=1)(h:dv (W.take i)+dv (B.take i)=dv (A.take i)+4294967296^i*c)
  (hd:d=if A.getD i 0<B.getD i 0+c then A.getD i 0+4294967296-(B.getD i 0+c) else A.getD i 0-(B.getD i 0+c))(hc2:c2=if A.getD i 0<B.getD i 0+c then 1 else 0):
  dv ((W.set i d).take (i+1))+dv (B.take (i+1))=dv (A.take (i+1))+4294967296^(i+1)*c2:=by
 have h1:=hA.get i;have h2:=hB.get i;rw[pE hi,iG A,iG B,fK];split at hd
 ·rename_i q
  rw[if_pos q] at hc2;subst hc2 hd;rw[kW (B.getD i 0) c];exact K8 h (by omega) (by omega)
 ·rename_i q
  rw[if_neg q] at hc2;subst hc2 hd;rw[kW (B.getD i 0) c];exact J0 h (by omega)
def Ul{a b c:Nat}{W:List Nat}(hw:bw W)(hl:W.length=(dg a).length)(hb:b<=a)(h:dv (W.take (dg a).length)+dv ((dg b).take (dg a).length)=dv ((dg a).take (dg a).length)+4294967296^(dg a).length*c):dv W=a-b:=by
 have hlb:(dg b).length<=(dg a).length:=by
  rcases iS (dg a).length (dg b).length with q|q
  ·have:=r4 (jI a) (ek b).2.2 q
   rw[b8,b8] at this;omega
  ·exact q
 rw[ou (by omega),ou hlb,ou (aL _),b8,b8] at h;have h2:=jw hw;rw[hl] at h2;rcases fL c with q|q
 ·subst q;omega
 ·have:4294967296^(dg a).length*1<=4294967296^(dg a).length*c:=fV _ q
  omega
def Ea{a b ia:Nat}[ha:BN a ia](hb:b<=a)(hi:ia<=1000000000:=by decide):PF GB prog 337 [dN a,dN b] (dN (a-b)):=by
 have hla:=ez (dg a);have hlb:=ez (dg b);have hba:=s4 ha.h hi;refine fn (fu:=⟨9⟩) func337 J J ntmps337 J J (fun C=>?_);refine ak 10 (.d (vI ((dg a).length:Nat))) J (by rw[hla];rfl) ?_;refine gx J<|mk (fu:=⟨13⟩) ((List.replicate (dg a).length 0).map dU) J J (by rw[<-ue];rfl) J<|?_;refine ak 13 (.d (vI ((dg a).length:Nat))) J (by rw[hla];rfl) ?_;refine gx J<|?_;refine lp (X:=List Nat×Nat×Nat) (fun⟨W,c,i⟩=>[(0, .d (dN a)),(1, .d (dN b)),(5, .rw 11),(6, .d (.v (.int .u32 (c:Nat)))),(13, .d (vI ((dg a).length:Nat))),(14, .d (vI (i:Nat)))]) (fun⟨W,c,i⟩=>[(11,some (.b 366 1 (W.map dU) true))]) (fun⟨W,c,i⟩=>W.length=(dg a).length/\bw W/\c<=1/\i<=(dg a).length/\dv (W.take i)+dv ((dg b).take i)=dv ((dg a).take i)+4294967296^i*c) (fun⟨W,c,i⟩=>(dg a).length-i) ⟨List.replicate (dg a).length 0,0,0⟩ J ⟨by simp, .replicate _,by omega,by omega,by simp[dv]⟩ (fun _=>J) (fun⟨W,c,i⟩ hk=>?_);dsimp only at hk⊢;obtain⟨h1,h2,h3,h4,h5⟩:=hk;have hlw:=ez W;have hda:=gp a i;have hdb:=gp b i;refine br (fu1:=⟨16⟩) J J J (fun hc15=>?_) (fun hc15=>?_)
 .
  refine mg (X:=Unit) (fun _=>[(0, .d (dN a)),(1, .d (dN b)),(5, .rw 11),(6, .d (.v (.int .u32 (c:Nat)))),(13, .d (vI ((dg a).length:Nat))),(14, .d (vI (i:Nat))),(7, .d (vI (i:Nat))),(8, .d (dU ((dg b).getD i 0)))]) (fun _=>[(11,some (.b 366 1 (W.map dU) true))]) (fun _=>True) [0,1,5,6,13,14,7,8] [11] rfl ?_ (fun _=>J) (fun _ hm=>?_)
  .
   refine gx J<|?_;refine br J J J (fun hc20=>?_) (fun hc20=>?_)
   .
    refine ix _ J (lv (by omega)) J<|?_;exact at_ () trivial
   .
    refine ak 8 (.d (dU ((dg b).getD i 0))) J (by rw[sN (by omega)];rfl) ?_;exact at_ () trivial
  .
   refine ix _ J (lv (by omega)) J<|cl J (RM (by omega) (by omega) (by omega)) J<|sb _ ((W.set i (if(dg a).getD i 0<(dg b).getD i 0+c then(dg a).getD i 0+4294967296-((dg b).getD i 0+c) else(dg a).getD i 0-((dg b).getD i 0+c))).map dU) J (lv (by omega)) J (by rw[<-td];rfl) J<|?_;exact at_ ⟨W.set i (if(dg a).getD i 0<(dg b).getD i 0+c then(dg a).getD i 0+4294967296-((dg b).getD i 0+c) else(dg a).getD i 0-((dg b).getD i 0+c)),(if(dg a).getD i 0<(dg b).getD i 0+c then 1 else 0),i+1⟩ (by dsimp only;exact⟨⟨by simpa using h1,h2.set _ (by split<;>omega),by split<;>omega,by omega,SU (jI a) (jI b) (by omega) h3 h5 J J⟩,(by omega)⟩)
 .
  obtain rfl:i=(dg a).length:=by omega
  refine fz 11 J J<|cl J (pH (ds:=W) (by omega)) J<|?_;exact rz J (q9 h2 (Ul h2 h1 hb h5))
def vH(n:Nat)(a b k:Nat)(ha:a<2^k)(h:a+b*2^k<2^n):(BitVec.ofInt n (a:Int) ||| BitVec.ofInt n ((b*2^k:Nat):Int)).toNat=a+b*2^k:=by
 rw[BitVec.toNat_or,BitVec.ofInt_natCast,BitVec.ofInt_natCast,BitVec.toNat_ofNat,BitVec.toNat_ofNat,gQ (by omega),gQ (by omega)];rw[<-lM,Nat.or_comm,<-mQ ha,lM];omega
def Ek{x y:Nat}(hx:x<4294967296)(hy:y<4294967296):x*y<=18446744065119617025:=by
 have:=kX (by omega:x<=4294967295) (by omega:y<=4294967295);exact this
def KL(x y:Nat):(0:Int)<=(x:Int)*(y:Int):=by rw[<-iN];omega
def IW{x y:Nat}(hx:x<4294967296)(hy:y<4294967296):(x:Int)*(y:Int)<=18446744073709551615:=by
 have:=Ek hx hy;rw[<-iN];omega
def Zw{ds:List Nat}(h:ds.length=1):dv ds=ds.getD 0 0:=by
 match ds,h with
 |[d],_=>simp[dv]
def wK{a:Nat}(h:(dg a).length=1):(dg a).getD 0 0=a:=by rw[<-Zw h,b8]
def U6{ds:List Nat}{j m:Nat}(h:j<m):(ds.take m).getD j 0=ds.getD j 0:=by
 rw[aX,aX,qY,if_pos h]
def Mw{W:List Nat}{j m d:Nat}(hj:j<m)(hm:m<=W.length):dv ((W.set j d).take m)+4294967296^j*W.getD j 0=dv (W.take m)+4294967296^j*d:=by
 rw[List.take_set,<-U6 (ds:=W) hj];exact pn _ _ _ (by rw[cJ];omega)
def XS{W:List Nat}{P X Y m i k c y t S:Nat}(hk:i+k<m)(hm:m<=W.length)(h:dv (W.take m)+4294967296^(i+k)*c=P+X*(4294967296^i*S))(ht:t=Y+W.getD (i+k) 0+c)(hY:Y=X*y):
  dv ((W.set (i+k) (t%4294967296)).take m)+4294967296^(i+(k+1))*(t/4294967296)=P+X*(4294967296^i*(S+4294967296^k*y)):=by
 have h1:=Mw (W:=W) (d:=t%4294967296) hk hm;rw[ht,show Y+W.getD (i+k) 0+c=c+Y+W.getD (i+k) 0 by omega] at h1⊢;have h2:=ML h1 h;rw[<-jW,fK,h2,hY,fX];simp only[dX,bL,kN,bS,jW]
def Sa{a b:Nat}{W:List Nat}{i c lb:Nat}(hlb:lb=(dg b).length)(hl:i+lb<W.length)(h:dv (W.take (i+lb))+4294967296^(i+lb)*c=dv ((dg a).take i)*b+(dg a).getD i 0*(4294967296^i*dv ((dg b).take lb))):
  dv ((W.set (i+lb) c).take (i+1+lb))=dv ((dg a).take (i+1))*b:=by
 rw[show i+1+lb=i+lb+1 by omega,pE hl,h,iG,ou (ds:=dg b) (by omega),b8 b,dQ];simp only[bL,kN,bS]
def OI(n j:Nat):(List.replicate n 0).getD j 0=0:=by
 rw[aX,List.getElem?_replicate];split<;>rfl
def yv{k:Nat}(h:k<=1000000000):IntKind.i64.wrap ((k:Int).tdiv 32)=((k/32:Nat):Int):=by
 rw[show(k:Int).tdiv 32=((k/32:Nat):Int) from J,HP];omega
def Ot(k:Nat):(k:Int).tmod 32=((k%32:Nat):Int):=rfl
def ql{a b ia ib:Nat}[ha:BN a ia][hb:BN b ib](hi:ia<=1000000000:=by decide)(hj:ib<=1000000000:=by decide):PF GB prog 239 [dN a,dN b] (dN (a*b)):=by
 have hla:=ez (dg a);have hlb:=ez (dg b);have hba:=s4 ha.h hi;have hbb:=s4 hb.h hj;refine fn (fu:=⟨6⟩) func239 J J ntmps239 J J (fun C=>?_);refine mg (fu:=⟨4⟩) (X:=Unit) (fun _=>[(0, .d (dN a)),(1, .d (dN b))]) (fun _=>[]) (fun _=>True) [0,1] [] rfl ?_ (fun _=>J) (fun _ hm=>?_)
 .
  refine gx J<|?_;refine cs 15 J J J (fun hg15=>?_) (fun hg15=>?_)
  .
   refine br J J J (fun hc19=>?_) (fun hc19=>?_)
   .
    have hd0:=gp a 0;have hd1:=gp b 0;refine ix _ J (gh (k:=0) J (by omega)) J<|ix (hv:=by simp only[ah];exact⟨by omega,⟨(KL _ _),(IW (gp _ _) (gp _ _))⟩⟩) _ J (gh (k:=0) J (by omega)) J<|cl J (sE (u:=(dg a).getD 0 0*(dg b).getD 0 0) (by have:=Ek (gp a 0) (gp b 0);omega)) J<|?_;exact rz J (by rw[wK (by omega),wK (by omega)];rfl)
   .
    exact at_ () trivial
  .
   exact at_ () trivial
 .
  refine ak 31 (.d (vI ((dg a).length:Nat))) J (by rw[hla];rfl) ?_;refine gx (fu:=⟨2⟩) J<|?_;refine ak 33 (.d (vI ((dg b).length:Nat))) J (by rw[hlb];rfl) ?_;refine gx J<|mk (fu:=⟨8⟩) ((List.replicate ((dg a).length+(dg b).length) 0).map dU) J J (by rw[<-ue];rfl) J<|?_;refine ak 37 (.d (vI ((dg a).length:Nat))) J (by rw[hla];rfl) ?_;refine gx J<|?_;refine lp (X:=List Nat×Nat) (fun⟨W,i⟩=>[(0, .d (dN a)),(1, .d (dN b)),(5, .rw 35),(36, .d (dN a)),(37, .d (vI ((dg a).length:Nat))),(38, .d (vI (i:Nat)))]) (fun⟨W,i⟩=>[(35,some (.b 366 1 (W.map dU) true))]) (fun⟨W,i⟩=>W.length=(dg a).length+(dg b).length/\bw W/\i<=(dg a).length/\dv (W.take (i+(dg b).length))=dv ((dg a).take i)*b) (fun⟨W,i⟩=>(dg a).length-i) ⟨List.replicate ((dg a).length+(dg b).length) 0,0⟩ J ⟨by simp, .replicate _,by omega,by rw[List.take_replicate,wJ];simp[dv]⟩ (fun _=>J) (fun⟨W,i⟩ hk=>?_);dsimp only at hk⊢;obtain⟨h1,h2,h3,h4⟩:=hk;refine br J J J (fun hc39=>?_) (fun hc39=>?_)
  .
   refine ix (fu:=⟨15⟩) _ J (lv (by omega)) J<|?_;refine ak 44 (.d (vI ((dg b).length:Nat))) J (by rw[hlb];rfl) ?_;refine gx J<|?_;refine lp (X:=List Nat×Nat×Nat) (fun⟨W2,c,k⟩=>[(0, .d (dN a)),(1, .d (dN b)),(5, .rw 35),(6, .d (vI (i:Nat))),(7, .d (dU ((dg a).getD i 0))),(8, .d (.v (.int .u64 (c:Nat)))),(36, .d (dN a)),(37, .d (vI ((dg a).length:Nat))),(38, .d (vI (i:Nat))),(43, .d (dN b)),(44, .d (vI ((dg b).length:Nat))),(45, .d (vI (k:Nat)))]) (fun⟨W2,c,k⟩=>[(35,some (.b 366 1 (W2.map dU) true))]) (fun⟨W2,c,k⟩=>W2.length=(dg a).length+(dg b).length/\bw W2/\c<4294967296/\k<=(dg b).length/\dv (W2.take (i+(dg b).length))+4294967296^(i+k)*c=dv ((dg a).take i)*b+(dg a).getD i 0*(4294967296^i*dv ((dg b).take k))) (fun⟨W2,c,k⟩=>(dg b).length-k) ⟨W,0,0⟩ J ⟨h1,h2,by omega,by omega,by rw[h4];simp[dv]⟩ (fun _=>J) (fun⟨W2,c,k⟩ hk=>?_);dsimp only at hk⊢;obtain⟨g1,g2,g3,g4,g5⟩:=hk;have hlw:=ez W2;have hw:=g2.get (i+k);have hda:=gp a i;have hdb:=gp b k;refine br (fu2:=⟨10⟩) J J J (fun hc46=>?_) (fun hc46=>?_)
   .
    refine ix (fu:=⟨12⟩) (hv:=by simp only[ah];exact⟨⟨by omega,by omega⟩,⟨(KL _ _),(IW (gp _ _) (gp _ _))⟩⟩) _ J (lv (by omega)) J<|?_;obtain⟨p,hp⟩: ∃p,p=(dg a).getD i 0*(dg b).getD k 0:=⟨_,rfl⟩;have hp1:p<=18446744065119617025:=hp▸Ek hda hdb;refine ak 54 (.d (.v (.int .u64 (p:Nat)))) J (by rw[hp,iN]) ?_;refine gx J<|lb (fu:=⟨4⟩) _ J (gh (k:=i+k) (by omega) (by omega)) J<|?_;obtain⟨t,ht⟩: ∃t,t=p+W2.getD (i+k) 0+c:=⟨_,rfl⟩;refine ak 64 (.d (.v (.int .u64 (t:Nat)))) J (by congr 3;omega) ?_;refine gx (fu:=⟨11⟩) J<|?_;refine ak 70 (.d (dU (t%4294967296))) J (by show FX.d (.v (.int _ _))= .d (.v (.int _ _));congr 3) ?_;refine gx J<|sb (fu:=⟨5⟩) (hv:=by simp only[ah];exact(by decide)) _ ((W2.set (i+k) (t%4294967296)).map dU) J (gh (k:=i+k) (by omega) (by omega)) J (by(rw[show((i:Int)+k).toNat=i+k by omega,<-td])<;>rfl) J<|?_;refine ak 73 (.d (.v (.int .u64 (t/4294967296:Nat)))) J (by rw[FP]) ?_;refine gx J<|?_;exact at_ ⟨W2.set (i+k) (t%4294967296),t/4294967296,k+1⟩ (by dsimp only;exact⟨⟨by simpa using g1,g2.set _ (by omega),by omega,by omega,by rw[iG];exact XS (by omega) (by omega) g5 ht hp⟩,(by omega)⟩)
   .
    obtain rfl:k=(dg b).length:=by omega
    refine ak 78 (.d (vI ((dg b).length:Nat))) J (by rw[hlb];rfl) ?_;refine gx (fu:=⟨3⟩) J<|?_;refine ak 81 (.d (dU c)) J (by show FX.d (.v (.int _ _))= .d (.v (.int _ _));congr 3;omega) ?_;refine gx J<|sb _ ((W2.set (i+(dg b).length) c).map dU) J (gh (k:=i+(dg b).length) (by omega) (by omega)) J (by(rw[show((i:Int)+((dg b).length:Nat)).toNat=i+(dg b).length by omega,<-td])<;>rfl) J<|?_;exact at_ ⟨W2.set (i+(dg b).length) c,i+1⟩ (by dsimp only;exact⟨⟨by simpa using g1,g2.set _ g3,by omega,Sa J (by omega) g5⟩,(by omega)⟩)
  .
   obtain rfl:i=(dg a).length:=by omega
   refine fz 35 J J<|cl J (pH (ds:=W) (by omega)) J<|?_;exact rz J (q9 h2 (by have:=h4;rw[ou (by omega),ou (by omega),b8] at this;exact this))
def Mc(x s:Nat):x*2^s=x*2^s%4294967296+4294967296*(x*2^s/4294967296):=by omega
def QD{x s:Nat}(hx:x<4294967296)(hs:s<32):x*2^s/4294967296<2^s:=by
 rw[kZ (by decide),bS (2^s)];exact mL hx (aL _) (dL (by decide))
def HM{s:Nat}(hs:s<32):2^s*2^(32-s)=4294967296:=by rw[<-fX,show s+(32-s)=32 by omega]
def UY(x s:Nat)(hs:s<32):x*2^s%4294967296=x%2^(32-s)*2^s:=by
 rw[<-HM hs,bS (2^s),rW]
def Ww{x s:Nat}(hx:x<4294967296)(hs:s<32):x*2^s<18446744073709551616:=by
 have h1:2^s<=2^31:=bY (by decide) (by omega);have:=mL hx h1 (by decide);omega
def WN{w x s:Nat}(hw:w<2^s)(hs:s<32):(BitVec.ofInt 32 (w:Int) ||| BitVec.ofInt 32 ((x*2^s%4294967296:Nat):Int)).toNat=w+x*2^s%4294967296:=by
 rw[UY x s hs];refine vH 32 _ _ _ hw ?_;have h1:x%2^(32-s)+1<=2^(32-s):=dW _ (dL (by decide));have h2:=bV (2^s) h1;rw[bS (2^(32-s)),HM hs,dQ,mY] at h2;show _<4294967296;omega
def Sl{h:Nat}(hh:h<4294967296):(BitVec.ofInt 32 ((0:Nat):Int) ||| BitVec.ofInt 32 (h:Int)).toNat=h:=by
 have:=vH 32 0 h 0 (by decide) (by simpa using hh);simpa using this
def FA(k:Nat):2^k=4294967296^(k/32)*2^(k%32):=by
 rw[show(4294967296:Nat)=2^32 from J,<-oM,<-fX,qJ]
def getD_set_ne{W:List Nat}{i j d:Nat}(h:i≠j):(W.set i d).getD j 0=W.getD j 0:=by
 rw[aX,aX,List.getElem?_set_ne h]
def Jg{W:List Nat}{i d:Nat}(h:i<W.length):(W.set i d).getD i 0=d:=by
 rw[aX,nN h];rfl
def Zz{A W:List Nat}{k q s i x:Nat}(hq:q=k/32)(hs:s=k%32)(hl:q+i+1<W.length)(hx:x=A.getD i 0)
  (h:dv (W.take (q+i+1))=dv (A.take i)*2^k):
  dv (((W.set (q+i) (W.getD (q+i) 0+x*2^s%4294967296)).set (q+i+1) (x*2^s/4294967296)).take (q+(i+1)+1))=dv (A.take (i+1))*2^k:=by
 have e1:=Mw (W:=W) (j:=q+i) (m:=q+i+1) (d:=W.getD (q+i) 0+x*2^s%4294967296) (by omega) (by omega);rw[show q+(i+1)+1=q+i+1+1 by omega,pE (by rw[aS];omega),iG A,<-hx];have e2:dv ((W.set (q+i) (W.getD (q+i) 0+x*2^s%4294967296)).take (q+i+1))=dv (A.take i)*2^k+4294967296^(q+i)*(x*2^s%4294967296):=by
  rw[dX,h] at e1;omega
 rw[e2,fK,bL,jW,<-dX,<-Mc,dQ,FA k,<-hq,<-hs,fX];simp only[bL,kN,bS]
def BA{a k ia:Nat}[ha:BN a ia](hk:k<=1000000000)(hi:ia<=1000000000:=by decide):PF GB prog 378 [dN a,vI (k:Nat)] (dN (a*2^k)):=by
 have hla:=ez (dg a);have hba:=s4 ha.h hi;refine fn (fu:=⟨9⟩) func378 J J ntmps378 J J (fun C=>?_);refine ak 11 (.d (vI (k/32:Nat))) J (by show FX.d (.v (.int _ _))= .d (.v (.int _ _));rw[yv hk]) ?_;refine gx (fu:=⟨2⟩) J<|?_;refine ak 13 (.d (vI ((dg a).length:Nat))) J (by rw[hla];rfl) ?_;refine gx (fu:=⟨2⟩) J<|?_;refine ak 15 (.d (vI (k/32+(dg a).length+1:Nat))) J (by show FX.d (.v (.int _ _))= .d (.v (.int _ _));congr 3) ?_;refine gx J<|mk (fu:=⟨7⟩) (hv:=by simp only[ah];exact(by decide)) ((List.replicate (k/32+(dg a).length+1) 0).map dU) J J (by rw[<-ue];rfl) J<|?_;refine ak 18 (.d (vI (k%32:Nat))) J (by show FX.d (.v (.int _ _))= .d (.v (.int _ _));rw[Ot]) ?_;refine gx (fu:=⟨9⟩) J<|?_;refine ak 21 (.d (vI ((dg a).length:Nat))) J (by rw[hla];rfl) ?_;refine gx J<|?_;refine lp (X:=List Nat×Nat) (fun⟨W,i⟩=>[(0, .d (dN a)),(1, .d (vI (k:Nat))),(5, .rw 16),(6, .d (.v (.int .u64 (k%32:Nat)))),(20, .d (dN a)),(21, .d (vI ((dg a).length:Nat))),(22, .d (vI (i:Nat)))]) (fun⟨W,i⟩=>[(16,some (.b 366 1 (W.map dU) true))]) (fun⟨W,i⟩=>W.length=k/32+(dg a).length+1/\bw W/\i<=(dg a).length/\dv (W.take (k/32+i+1))=dv ((dg a).take i)*2^k/\W.getD (k/32+i) 0<2^(k%32)/\ ∀j,k/32+i<j->W.getD j 0=0) (fun⟨W,i⟩=>(dg a).length-i) ⟨List.replicate (k/32+(dg a).length+1) 0,0⟩ J ⟨by simp, .replicate _,by omega,by rw[List.take_replicate,wJ];simp[dv],by rw[OI];exact dL (by decide),fun j _=>OI _ _⟩ (fun _=>J) (fun⟨W,i⟩ hk=>?_);dsimp only at hk⊢;obtain⟨h1,h2,h3,h4,h5,h6⟩:=hk;have hlw:=ez W;have hda:=gp a i;have hsk:k%32<32:=dW _ (by decide)
 have hpp:2^(k%32)<=2^31:=bY (by decide) (by omega);refine br J J J (fun hc23=>?_) (fun hc23=>?_)
 .
  refine ix (fu:=⟨11⟩) (hv:=by simp only[ah];exact⟨by omega,(by omega)⟩) _ J (lv (by omega)) J<|?_;have hhi:=QD hda hsk;have hfit0:=Ww hda hsk;have hor:=WN (x:=(dg a).getD i 0) h5 hsk;have hfit:W.getD (k/32+i) 0+(dg a).getD i 0*2^(k%32)%4294967296<4294967296:=by rw[<-hor];exact BitVec.isLt _
  have hlp:=Mc ((dg a).getD i 0) (k%32);refine ak 30 (.d (.v (.int .u64 ((dg a).getD i 0*2^(k%32):Nat)))) J (by show FX.d (.v (.int _ _))= .d (.v (.int _ _));rw[qu _ (k%32) (by omega) hfit0 (by omega)]) ?_;obtain⟨t,ht⟩: ∃t,t=(dg a).getD i 0*2^(k%32):=⟨_,rfl⟩;simp only[<-ht] at hhi hfit0 hor hfit hlp;rw[<-ht];refine gx (fu:=⟨8⟩) J<|?_;refine ak 33 (.d (vI (k/32:Nat))) J (by show FX.d (.v (.int _ _))= .d (.v (.int _ _));rw[yv hk]) ?_;refine gx J<|lb (fu:=⟨2⟩) _ J (gh (k:=k/32+i) (by omega) (by omega)) J<|?_;refine ak 39 (.d (dU (t%4294967296))) J (by show FX.d (.v (.int _ _))= .d (.v (.int _ _));congr 3) ?_;refine gx (fu:=⟨1⟩) J<|?_;refine ak 40 _ J (congrArg (fun z:Nat=>FX.d (.v (.int .u32 (z:Int)))) hor) ?_;refine gx J<|sb (fu:=⟨6⟩) _ ((W.set (k/32+i) (W.getD (k/32+i) 0+t%4294967296)).map dU) J (gh (k:=k/32+i) (by omega) (by omega)) J (by(rw[show(((k/32:Nat):Int)+i).toNat=k/32+i by omega];simp only[jU];rfl)<;>rfl) J<|?_;refine ak 44 (.d (vI (k/32:Nat))) J (by show FX.d (.v (.int _ _))= .d (.v (.int _ _));rw[yv hk]) ?_;refine gx J<|lb (fu:=⟨0⟩) _ J (gh (k:=k/32+i+1) (by omega) (by rw[aS];omega)) J<|?_;refine ak 49 (.d (dU 0)) J (by rw[getD_set_ne (by omega),h6 _ (by omega)]) ?_;refine gx (fu:=⟨2⟩) (hv:=by simp only[ah];exact(by decide)) J<|?_;refine ak 51 (.d (.v (.int .u64 (t/4294967296:Nat)))) J (by rw[FP]) ?_;refine gx (fu:=⟨1⟩) J<|?_;refine ak 52 (.d (dU (t/4294967296))) J (by show FX.d (.v (.int _ _))= .d (.v (.int _ _));congr 3;omega) ?_;refine gx (fu:=⟨1⟩) J<|?_;refine ak 53 _ J (congrArg (fun z:Nat=>FX.d (.v (.int .u32 (z:Int)))) (Sl (by omega))) ?_
  refine gx J<|sb _ (((W.set (k/32+i) (W.getD (k/32+i) 0+t%4294967296)).set (k/32+i+1) (t/4294967296)).map dU) J (gh (k:=k/32+i+1) (by omega) (by rw[aS];omega)) J (by(rw[show(((k/32:Nat):Int)+i+1).toNat=k/32+i+1 by omega];simp only[jU];rfl)<;>rfl) J<|?_;exact at_ ⟨(W.set (k/32+i) (W.getD (k/32+i) 0+t%4294967296)).set (k/32+i+1) (t/4294967296),i+1⟩ (by dsimp only;exact⟨⟨by simpa using h1,(h2.set _ hfit).set _ (by omega),by omega,by have q:=Zz (x:=(dg a).getD i 0) J J (by omega) J h4;rw[<-ht] at q;exact q,by rw[show k/32+(i+1)=k/32+i+1 by omega,Jg (by simp;omega)];exact hhi,fun j hj=>by rw[getD_set_ne (by omega),getD_set_ne (by omega)];exact h6 j (by omega)⟩,(by omega)⟩)
 .
  obtain rfl:i=(dg a).length:=by omega
  refine fz 16 J J<|cl J (pH (ds:=W) (by omega)) J<|?_;exact rz J (q9 h2 (by have:=h4;rw[ou (by omega),ou (by omega),b8] at this;exact this))
def WJ{a k:Nat}(h:(dg a).length<=k/32):a/2^k=0:=by
 refine jT ?_;have h1:=jw (jI a);rw[b8] at h1;have h2:4294967296^(dg a).length<=4294967296^(k/32):=bY (by decide) h;have h3:4294967296^(k/32)*1<=4294967296^(k/32)*2^(k%32):=fV _ (dL (by decide));rw[FA k];omega
def Hm{ds:List Nat}(h:bw ds)(q:Nat):dv (ds.drop q)=dv ds/4294967296^q:=by
 rcases iS ds.length q with hq|hq
 ·rw[jY (by omega)]
  have h1:=jw h;have h2:4294967296^ds.length<=4294967296^q:=bY (by decide) (by omega);rw[jT (by omega)];rfl
 ·have e:=CA ds q hq
  have h1:=jw (h.take q);rw[cJ,iK hq] at h1;rw[e,mZ _ _ (dL (by decide)),jT h1,dS]
def Ev{ds:List Nat}(h:bw ds)(i:Nat):dv ds/4294967296^i=ds.getD i 0+4294967296*ds.getD (i+1) 0+18446744073709551616*(dv ds/4294967296^(i+2)):=by
 have e0:=Hm h i;have e2:=Hm h (i+2);rw[<-e0,<-e2];have g0:ds.getD i 0=(ds.drop i).getD 0 0:=by rw[aX,aX,mR];rfl
 have g1:ds.getD (i+1) 0=(ds.drop i).getD 1 0:=by rw[aX,aX,mR]
 have g2:ds.drop (i+2)=(ds.drop i).drop 2:=by rw[List.drop_drop]
 rw[g0,g1,g2]
 match ds.drop i with
 |[]=>rfl
 |[u]=>simp[dv]
 |u::v::t=>simp only[dv,sJ,lK,sX,iW];omega
def Y1{D s i u v w Z:Nat}(hs:s<32)(hZ:D/4294967296^i=u+4294967296*v+18446744073709551616*Z)(hw:w=(u+v*4294967296)/2^s%4294967296):(D/2^s)%4294967296^(i+1)=(D/2^s)%4294967296^i+4294967296^i*w:=by
 rw[fK,Nat.mod_mul];congr 2;rw[mW,bS (2^s),<-mW,hZ,hw];have h1:18446744073709551616=2^s*(2^(32-s)*4294967296):=by rw[<-bL,HM hs]
 rw[h1,bL (2^s),mZ _ _ (dL (by decide)),bS v];rw[bS (2^(32-s)),bL,mN]
def T1{a k:Nat}{W:List Nat}{q s:Nat}(hq:q=k/32)(hs:s=k%32)(hl:W.length=(dg a).length-q)(h:dv (W.take ((dg a).length-q))=(dv ((dg a).drop q)/2^s)%4294967296^((dg a).length-q)):dv W=a/2^k:=by
 rw[ou (by omega)] at h;have h1:=jw ((jI a).drop q);rw[gL] at h1;have h2:=kY (dv ((dg a).drop q)) (2^s);rw[h,gQ (by omega),Hm (jI a),b8,FA k,<-hq,<-hs,mW]
def YH{a k ia:Nat}[ha:BN a ia](hk:k<=1000000000)(hi:ia<=1000000000:=by decide):PF GB prog 379 [dN a,vI (k:Nat)] (dN (a/2^k)):=by
 have hla:=ez (dg a);have hba:=s4 ha.h hi;refine fn (fu:=⟨10⟩) func379 J J ntmps379 J J (fun C=>?_);refine ak 12 (.d (vI (k/32:Nat))) J (by show FX.d (.v (.int _ _))= .d (.v (.int _ _));rw[yv hk]) ?_;refine gx (fu:=⟨2⟩) J<|?_;refine ak 14 (.d (vI ((dg a).length:Nat))) J (by rw[hla];rfl) ?_;refine gx J<|?_;refine br (fu2:=⟨6⟩) (v2:=fun _=>by simp only[ah];exact(by decide)) J J J (fun hc15=>?_) (fun hc15=>?_)
 .
  exact rz J (by rw[WJ (by omega),n5];rfl)
 .
  refine ak 17 (.d (vI (k%32:Nat))) J (by show FX.d (.v (.int _ _))= .d (.v (.int _ _));rw[Ot]) ?_;refine gx (fu:=⟨9⟩) J<|?_;refine ak 21 (.d (vI (k/32:Nat))) J (by show FX.d (.v (.int _ _))= .d (.v (.int _ _));rw[yv hk]) ?_;refine gx J<|k9 (fu:=⟨0⟩) (k/32) (dg a).length _ J J (by rw[hla]) J (tk _) (by omega) (by omega) J<|?_;obtain⟨I,hI⟩: ∃I,I=(dg a).drop (k/32):=⟨_,rfl⟩;have hIl:I.length=(dg a).length-k/32:=by rw[hI,gL]
  have hIm:=ez I;have hIo:bw I:=hI▸(jI a).drop _;refine ak 22 (.d (fh I)) J (by show FX.d (.sl _)= .d (.sl _);rw[hI,<-hla,cM,kK]) ?_;refine gx (fu:=⟨7⟩) J<|?_;refine ak 24 (.d (vI (I.length:Nat))) J (by rw[hIm];rfl) ?_;refine gx J<|mk (fu:=⟨8⟩) ((List.replicate I.length 0).map dU) J J (by rw[<-ue];rfl) J<|?_;refine ak 27 (.d (vI (I.length:Nat))) J (by rw[hIm];rfl) ?_;refine gx J<|?_;refine lp (X:=List Nat×Nat) (fun⟨W,i⟩=>[(0, .d (dN a)),(5, .d (.v (.int .u64 (k%32:Nat)))),(6, .d (fh I)),(7, .rw 25),(26, .d (fh I)),(27, .d (vI (I.length:Nat))),(28, .d (vI (i:Nat)))]) (fun⟨W,i⟩=>[(25,some (.b 366 1 (W.map dU) true))]) (fun⟨W,i⟩=>W.length=I.length/\bw W/\i<=I.length/\dv (W.take i)=(dv I/2^(k%32))%4294967296^i) (fun⟨W,i⟩=>I.length-i) ⟨List.replicate I.length 0,0⟩ J ⟨by simp, .replicate _,by omega,by simp[dv,Nat.mod_one]⟩ (fun _=>J) (fun⟨W,i⟩ hk=>?_);dsimp only at hk⊢;obtain⟨h1,h2,h3,h4⟩:=hk;have hlw:=ez W;have hda:=hIo.get i;have hdb:=hIo.get (i+1);have hsk:k%32<32:=dW _ (by decide);refine br J J J (fun hc29=>?_) (fun hc29=>?_)
  .
   refine ix (fu:=⟨13⟩) _ J (lv (by omega)) J<|?_;refine mg (fu:=⟨6⟩) (hv:=fun _ _=>by simp only[ah];exact(by omega)) (X:=Unit) (fun _=>[(0, .d (dN a)),(5, .d (.v (.int .u64 (k%32:Nat)))),(6, .d (fh I)),(7, .rw 25),(26, .d (fh I)),(27, .d (vI (I.length:Nat))),(28, .d (vI (i:Nat))),(8, .d (vI (i:Nat))),(10, .d (.v (.int .u64 (I.getD i 0+I.getD (i+1) 0*4294967296:Nat))))]) (fun _=>[(25,some (.b 366 1 (W.map dU) true))]) (fun _=>True) [0,5,6,7,26,27,28,8,10] [25] rfl ?_ (fun _=>J) (fun _ hm=>?_)
   .
    refine gx (fu:=⟨6⟩) J<|?_;refine ak 38 (.d (vI (I.length:Nat))) J (by rw[hIm];rfl) ?_;refine gx J<|?_;refine br J J J (fun hc39=>?_) (fun hc39=>?_)
    .
     refine ix (fu:=⟨3⟩) (hv:=by simp only[ah];exact⟨by omega,(by decide)⟩) _ J (gh (k:=i+1) (by omega) (by omega)) J<|?_;refine ak 47 (.d (.v (.int .u64 (I.getD (i+1) 0*4294967296:Nat)))) J (by show FX.d (.v (.int _ _))= .d (.v (.int _ _));rw[qu _ 32 (by decide) (by show _*4294967296<_;omega) J]) ?_;refine gx (fu:=⟨1⟩) J<|?_;refine ak 48 _ J (congrArg (fun z:Nat=>FX.d (.v (.int .u64 (z:Int)))) (vH 64 (I.getD i 0) (I.getD (i+1) 0) 32 hda (by show _+_*4294967296<18446744073709551616;omega))) ?_;refine gx J<|?_;exact at_ () trivial
    .
     refine ak 10 (.d (.v (.int .u64 (I.getD i 0+I.getD (i+1) 0*4294967296:Nat)))) J (by rw[sN (by omega:I.length<=i+1),kV,fJ]) ?_;exact at_ () trivial
   .
    refine ak 53 (.d (.v (.int .u64 ((I.getD i 0+I.getD (i+1) 0*4294967296)/2^(k%32):Nat)))) J (by show FX.d (.v (.int _ _))= .d (.v (.int _ _));rw[q7 _ (k%32) (by omega) (by omega)]) ?_;refine gx (fu:=⟨1⟩) J<|?_;obtain⟨w,hw⟩: ∃w,w=(I.getD i 0+I.getD (i+1) 0*4294967296)/2^(k%32)%4294967296:=⟨_,rfl⟩;have hw1:w<4294967296:=hw▸dW _ (by decide);refine ak 54 (.d (dU w)) J (by show FX.d (.v (.int _ _))= .d (.v (.int _ _));rw[hw];congr 3) ?_;refine gx J<|sb _ ((W.set i w).map dU) J (lv (by omega)) J (by(rw[<-td];rfl)<;>rfl) J<|?_;exact at_ ⟨W.set i w,i+1⟩ (by dsimp only;exact⟨⟨by simpa using h1,h2.set _ (by omega),by omega,by rw[pE (by omega),h4];exact(Y1 hsk (Ev hIo i) hw).symm⟩,(by omega)⟩)
  .
   refine fz 25 J J<|cl J (pH (ds:=W) (by omega)) J<|?_;exact rz rfl (q9 h2 (by obtain rfl:i=I.length:=(by omega);rw[hIl] at h1 h4;rw[hI] at h4;exact T1 rfl rfl h1 h4))
def Dm{a k:Nat}(h:a<4294967296^k):(dg a).length<=k:=by
 rcases iS k (dg a).length with q|q
 ·have h1:=qk (ek a).2.2 (by intro e;rw[e] at q;simp at q)
  rw[b8] at h1;have h2:4294967296^k<=4294967296^((dg a).length-1):=bY (by decide) (by omega);omega
 ·exact q
def Xe{a:Nat}(h:(dg a).length=2):(dg a).getD 0 0+(dg a).getD 1 0*4294967296=a:=by
 have e:=b8 a;revert e
 match dg a,h with
 |[x,y],_=>intro e;simp[dv] at e⊢;omega
def zf(a:Nat):DV:= .tp [.v (.int .u64 ((if a<18446744073709551616 then a else 0:Nat):Int)),vB (decide (a<18446744073709551616))]
def KU{a:Nat}(h:a<18446744073709551616):zf a= .tp [.v (.int .u64 (a:Int)),vB true]:=by unfold zf;rw[if_pos h,decide_eq_true h]
def Zb{a:Nat}(h: ¬a<18446744073709551616):zf a= .tp [.v (.int .u64 0),vB false]:=by unfold zf;rw[if_neg h,decide_eq_false h];rfl
def tu(a:Nat):a<4294967296^(dg a).length:=by have:=jw (jI a);rwa [b8] at this
def B5{a ia:Nat}[ha:BN a ia](hi:ia<=1000000000:=by decide):PF GB prog 282 [dN a] (zf a):=by
 have hla:=ez (dg a);have hba:=s4 ha.h hi;have hlt:=tu a;have hd00:=gp a 0;refine fn (fu:=⟨11⟩) func282 J J ntmps282 J J (fun C=>?_);refine ak 5 (.d (vI ((dg a).length:Nat))) J (by rw[hla];rfl) ?_;refine gx J<|?_;refine br J J J (fun hc6=>?_) (fun hc6=>?_)
 .
  exact rz rfl (by rw[show(dg a).length=0 by omega] at hlt;obtain rfl:a=0:=(by omega);rfl)
 .
  refine br J J J (fun hc8=>?_) (fun hc8=>?_)
  .
   refine ix (fu:=⟨2⟩) _ J (gh (k:=0) J (by omega)) J<|?_;refine ak 13 (.d (.v (.int .u64 (a:Nat)))) J (by rw[wK (by omega)]) ?_;refine gx J<|?_;exact rz J (by rw[show(dg a).length=1 by omega] at hlt;rw[KU (by omega),<-wK (a:=a) (by omega),wK (a:=a) (by omega)];rfl)
  .
   refine br J J J (fun hc14=>?_) (fun hc14=>?_)
   .
    have hd0:=gp a 0;have hd1:=gp a 1;refine ix (hv:=by simp only[ah];exact⟨by omega,(by decide)⟩) _ J (gh (k:=1) J (by omega)) J<|ix (fu:=⟨3⟩) _ J (gh (k:=0) J (by omega)) J<|?_;refine ak 25 (.d (.v (.int .u64 (a:Nat)))) J (congrArg (fun z:Nat=>FX.d (.v (.int .u64 (z:Int)))) (by rw[qu _ 32 (by decide) (by show _*4294967296<_;omega) J,BitVec.or_comm];exact(vH 64 ((dg a).getD 0 0) ((dg a).getD 1 0) 32 hd0 (by show _+_*4294967296<18446744073709551616;omega)).trans (Xe (by omega)))) ?_;refine gx J<|?_;exact rz J (by rw[show(dg a).length=2 by omega] at hlt;rw[KU (by omega)];rfl)
   .
    exact rz rfl (by rw[Zb];rfl;intro h;have:=Dm (a:=a) (k:=2) (by omega);omega)
def O7{G:Gh}{ds:List Nat}{v:Value}(hd:bw ds)(h:Is G (fh ds) v): ∃x:SV,v=x.v/\cd G x ds:=by
 obtain⟨x,rfl,h1⟩:=Iu.1 h;exact⟨x,J,hd,h1⟩
def fj.is{G:Gh}{k n:Nat}{z:SV}(h:fj k G z n):Is G (dN n) z.v:=(Hs h.lt).2 ⟨z,J,h⟩
def Aa{G:Gh}{ds:List Nat}{vs:List Value}(hd:bw ds)(h:IsLs G [fh ds] vs): ∃x:SV,vs=[x.v]/\cd G x ds:=by
 obtain⟨v,m,rfl,h1,h2⟩:=bt.1 h
 cases dl.1 h2
 obtain⟨x,rfl,h3⟩:=O7 hd h1;exact⟨x,J,h3⟩
def Ag{G:Gh}{a b:Nat}{vs:List Value}(h:IsLs G [dN a,dN b] vs): ∃x y:SV,vs=[x.v,y.v]/\cd G x (dg a)/\cd G y (dg b):=by
 obtain⟨v,m,rfl,h1,h2⟩:=bt.1 h;obtain⟨y,rfl,h4⟩:=Aa (ek b).2.1 h2;obtain⟨x,rfl,h3⟩:=O7 (ek a).2.1 h1;exact⟨x,y,J,h3,h4⟩
section
variable {GB:Gh} {a b i j:Nat}
def lm[h:BN a i](hi:i<=1000000000):(dg a).length<=31250001:=by have:=ld h.h;omega
def MT{ds:List Nat}(hd:bw ds)(hl:ds.length<=1125899906842624):PF GB prog 348 [fh ds] (vB (decide (dC ds))):=fun G vs _ hv=>by
 obtain⟨x,rfl,hx⟩:=Aa hd hv;exact(Wh hx hl).mono fun v G' _ h=>bc.2 h
def sj[h:BN a i](hi:i<=1000000000:=by decide):PF GB prog 310 [dN a] (vI (bl a:Nat)):=fun G vs _ hv=>by
 obtain⟨x,rfl,hx⟩:=Aa (ek a).2.1 hv;have:=lm (a:=a) hi;exact(X7 hx (by omega)).mono fun v G' _ h=>bc.2 (by rw[h,b8])
def wU[h:BN a i](hi:i<=1000000000:=by decide):PF GB prog 308 [dN a] (dN a):=fun G vs _ hv=>by
 obtain⟨x,rfl,hx⟩:=Aa (ek a).2.1 hv;have:=lm (a:=a) hi;refine(Gj (k:=i) hx (by rw[b8];exact h.h) (by omega)).mono fun v G' _ h=>?_;obtain⟨z,rfl,h⟩:=h;rw[b8] at h;exact h.is
def HV(h:a<18446744073709551616):PF GB prog 309 [.v (.int .u64 (a:Nat))] (dN a):=fun G vs _ hv=>by
 obtain⟨v,m,rfl,h1,h2⟩:=bt.1 hv
 cases dl.1 h2
 rw[bc.1 h1];refine(GZ h).mono fun v G' _ h=>?_;obtain⟨z,rfl,h⟩:=h;exact h.is
def DT(h:a<18446744073709551616):PF GB prog 315 [dN a] (.tp [.v (.int .u64 (a:Nat)),vB true]):=fun G vs _ hv=>by
 obtain⟨x,rfl,hx⟩:=Aa (ek a).2.1 hv;have:BN a 64:=⟨h⟩;have:=lm (a:=a) (i:=64) (by decide);refine(Ha hx (by omega)).mono fun v G' _ e=>?_;rw[b8,if_pos h,decide_eq_true h] at e;subst e;exact lz.2 ⟨_,J, .cons (bc.2 J) (.cons (bc.2 J) .nil)⟩
def UJ[h:BN a i][k:BN b j](hi:i<=1000000000:=by decide)(hj:j<=1000000000:=by decide):PF GB prog 362 [dN a,dN b] (dN (a+b)):=fun G vs _ hv=>by
 obtain⟨x,y,rfl,hx,hy⟩:=Ag hv;have:=lm (a:=a) hi;have:=lm (a:=b) hj;refine(Zm (kk:=i+j+1) hx hy (by rw[b8,b8];exact Bj h.h k.h) (by omega) (by omega)).mono fun v G' _ h=>?_;obtain⟨z,rfl,h⟩:=h;rw[b8,b8] at h;exact h.is
def NV[h:BN a i][k:BN b j](hi:i<=1000000000:=by decide)(hj:j<=1000000000:=by decide):PF GB prog 363 [dN a,dN b] (.tp [dN (a-b),vB (decide (b<=a))]):=fun G vs _ hv=>by
 obtain⟨x,y,rfl,hx,hy⟩:=Ag hv;have:=lm (a:=a) hi;have:=lm (a:=b) hj;refine(V4 (kk:=i) hx hy (by rw[b8];exact h.h) (by omega) (by omega)).mono fun v G' _ h=>?_;obtain⟨z,rfl,h⟩:=h;rw[b8,b8] at h⊢;exact lz.2 ⟨_,J, .cons h.is (.cons (bc.2 J) .nil)⟩
def vr[h:BN a i][k:BN b j](hi:i<=1000000000:=by decide)(hj:j<=1000000000:=by decide):PF GB prog 302 [dN a,dN b] (dN (a*b)):=fun G vs _ hv=>by
 obtain⟨x,y,rfl,hx,hy⟩:=Ag hv;have:=lm (a:=a) hi;have:=lm (a:=b) hj;refine(Xo (kk:=i+j) hx hy (by rw[b8,b8];exact oq h.h k.h) (by omega) (by omega)).mono fun v G' _ h=>?_;obtain⟨z,rfl,h⟩:=h;rw[b8,b8] at h;exact h.is
def OZ[h:BN a i][k:BN b j](hb:0<b)(hi:i<=1000000000:=by decide)(hj:j<=1000000000:=by decide):PF GB prog 313 [dN a,dN b] (.tp [dN (a/b),dN (a%b),vB true]):=fun G vs _ hv=>by
 obtain⟨x,y,rfl,hx,hy⟩:=Ag hv;have:=lm (a:=a) hi;have:=lm (a:=b) hj;refine(E' (k1:=i) (k2:=j) hx hy (by rw[b8];exact hb) (by rw[b8,b8];exact fN (kY _ _) h.h) (by rw[b8,b8];exact pV (dW _ hb) k.h) (by omega) (by omega)).mono fun v G' _ h=>?_;obtain⟨z,r,rfl,h,h'⟩:=h;rw[b8,b8] at h h';exact lz.2 ⟨_,J, .cons h.is (.cons h'.is (.cons (bc.2 J) .nil))⟩
def Gv[h:BN a i][k:BN b j](hi:i<=1000000000:=by decide)(hj:j<=1000000000:=by decide):PF GB prog 312 [dN a,dN b] (dN (Nat.gcd a b)):=fun G vs _ hv=>by
 obtain⟨x,y,rfl,hx,hy⟩:=Ag hv;have:=lm (a:=a) hi;have:=lm (a:=b) hj;have e: ∀k',k'<=i+j->(2:Nat)^k'<=2^(i+j):=fun k' h=>bY (by decide) h;have:=e i (by omega);have:=e j (by omega);have:=h.h;have:=k.h;refine(Wk (k:=i+j) (k0:=i+j) hx hy (by rw[b8];omega) (by rw[b8];omega) (by omega) (by rw[b8,b8];exact DM h.h k.h) (by omega) (by omega)).mono fun v G' _ h=>?_;obtain⟨z,rfl,h⟩:=h;rw[b8,b8] at h;exact h.is
end
section
variable {GB:Gh} {C:aC} {n:Nat} {Q0:Exit->Act->World->Prop} {fr fr' fr1 fr2:aA} {own own' own1 own2:aH} {cf cf' cf1 cf2:Cf} {vc vc1 vc2:List Prop}
def iB{fb:Func}{e:Exit}{ds:List DV}{rv:DV}(hr:oH tt fr own fb.results.toList=some ds)(hd: ∀G y,Is G (iq ds) y->Is G rv y)(he:yr e=true:=by rfl):av prog GB C n (fk C prog fb (jk C (fun v G'=>Is G' rv v))) fr own (.ex e []):=by
 refine⟨fun ρ G ov a w r=>?_⟩;obtain⟨vs,h1,h2⟩:=Am r hr;have hk:Is G rv (gn vs):=hd _ _ (yy h2)
 cases e with
 |ret=>exact zD (C:=C) (n:=n) (fr:=cg a) (own:=ov) (G:=G) (K:=fun v G'=>Is G' rv v) h1 hk a w ⟨r.h,r.sz,cB a,r.df⟩
 |normal=>exact Kr (C:=C) (n:=n) (fr:=cg a) (own:=ov) (G:=G) (K:=fun v G'=>Is G' rv v) h1 hk a w ⟨r.h,r.sz,cB a,r.df⟩
 |_=>cases he
def PY(fr:aA)(cf:Cf):Option (Int×IntKind):=match b6 fr cf with
 |some ⟨_, .convert t t' x,_,_,_,_⟩=>match cH tt t,cH tt t',aO (bu fr cf) x with
  |some ⟨.int k,_,_,_⟩,some ⟨.int k',_,_,_⟩,some (.d (.v (.int j p)))=>bif kq k j then some (p,k') else none
  |_,_,_=>none
 |_=>none
def cu[fu:Fu]{p:Int}{k':IntKind}(u:Int)(h:PY fr cf=some (p,k'))(e:k'.wrap p=u)(hgo:cE tt n fu.n fr own cf (.d (.v (.int k' u))) [] []=⟨vc,fr',own',cf'⟩)(k:av prog GB C n Q0 fr' own' cf')
  (hv:ah vc:=by first|exact trivial|(simp only[ah];kernel_rfl)|(simp only[ah];omega)):av prog GB C n Q0 fr own cf:=by
 unfold PY at h;split at h<;>try (cases h;done)
 rename_i hh;split at h<;>try (cases h;done)
 rename_i k0 _ _ _ k1 _ _ _ j p0 hT hT' hx
 cases hk:kq k0 j with
 |false=>rw[hk] at h;cases h
 |true=>
  rw[hk,cond_true] at h;cases h;cases CE hk;have:=uW (e7 _ _ hT) J;have:=uW (e7 _ _ hT') J;subst e;refine us hh (.x1 hx fun ρ G ov a w y _ r h1 h2=>?_) hgo hv k;rw[dh] at h2;subst h2;exact⟨_,dh.2 J,Dp h1⟩
def Ql(fr:aA)(cf:Cf):Option (Int×IntKind):=match b6 fr cf with
 |some ⟨_, .unOp .neg _ x,_,_,_,_⟩=>match aO (bu fr cf) x with
  |some (.d (.v (.int j p)))=>some (p,j)
  |_=>none
 |_=>none
def nu[fu:Fu]{p:Int}{k':IntKind}(u:Int)(h:Ql fr cf=some (p,k'))(e:k'.wrap (0-p)=u)(hgo:cE tt n fu.n fr own cf (.d (.v (.int k' u))) [] []=⟨vc,fr',own',cf'⟩)(k:av prog GB C n Q0 fr' own' cf')
  (hv:ah vc:=by first|exact trivial|(simp only[ah];kernel_rfl)|(simp only[ah];omega)):av prog GB C n Q0 fr own cf:=by
 unfold Ql at h;split at h<;>try (cases h;done)
 rename_i hh;split at h<;>cases h;rename_i hx;subst e;exact us hh (.x1 hx fun ρ G ov a w y _ r h1 h2=>by
  rw[dh] at h2;subst h2;exact⟨_,dh.2 J,DR h1⟩) hgo hv k
end
def Gg{x:Nat}:bl x=0↔x=0:=by
 have:= @nn x 0;simp at this;omega
def yn{a:Nat}:0<(dg a).length↔0<a:=by
 have:= @tg a;omega
def eS(neg:Bool)(a:Nat):DV:= .ag [.v (.bool neg),dN a]
def CO(neg:Bool)(a:Nat):eI (zv neg a)= .ag [.v (.bool (neg&&decide (0<a))),dN a]:=by unfold eI;rw[pA,N3]
def R4{n:Bool}{u:Nat}{b:Int}(h:n≠decide (b<0))(hle:b.natAbs<=u):zv n (u-b.natAbs)=zv n u+b:=by cases n<;>simp[zv] at* <;>omega
def Se{n:Bool}{u:Nat}{b:Int}(h:n≠decide (b<0))(hle:u<=b.natAbs):zv (decide (b<0)) (b.natAbs-u)=zv n u+b:=by cases n<;>simp[zv] at* <;>(try rw[if_pos h])<;>(try rw[if_neg (by omega)])<;>omega
def RC{neg:Bool}{ds:List Nat}(hd:bw ds)(hl:ds.length<=1125899906842624):PF GB prog 269 [.ag [.v (.bool neg),fh ds]] (vB (decide (dC ds/\(neg=true->0<ds.length)))):=by
 refine fn func269 J J ntmps269 J J (fun C=>?_);refine cl J (MT hd hl) J<|?_;refine csd 6 J J J (fun hg6=>?_) (fun hg6=>?_)
 .
  refine jv 10 J J J (fun hg10=>?_) (fun hg10=>?_)
  .
   exact rz J (by unfold vB;congr 2;simp_all [iq])
  .
   exact rz J (by unfold vB;congr 2;simp_all [iq])
 .
  exact rz J (by unfold vB;congr 2;simp_all [iq])
def Ko{n:Bool}{a i:Nat}[h:BN a i](hi:i<=1000000000:=by decide):PF GB prog 311 [eS n a] (vI (zv n a).sign):=by
 refine fn func311 J J ntmps311 J J (fun C=>?_);refine cl J (sj (a:=a) hi) J<|?_;refine br J J J (fun hc3=>?_) (fun hc3=>?_)
 .
  exact rz J (by have:=Gg.1 (Int.ofNat.inj hc3);subst this;cases n<;>rfl)
 .
  refine bb J J J (fun hc8=>?_) (fun hc8=>?_)
  .
   exact rz J (by subst hc8;rw[fZ (by have:a≠0:=(fun e=>hc3 (by rw[e];rfl));simp[zv];omega)];rfl)
  .
   exact rz J (by subst hc8;rw[gV (by have:a≠0:=(fun e=>hc3 (by rw[e];rfl));simp[zv];omega)];rfl)
def GD{m:Int}(h0: -9223372036854775808<=m)(h1:m<=9223372036854775807):PF GB prog 289 [vI m] (eI m):=by
 refine fn (fu:=⟨8⟩) func289 J J ntmps289 J J (fun C=>?_);refine cu ((m%18446744073709551616:Int)) J (l7 _) J<|?_;refine br (fu1:=⟨2⟩) (fu2:=⟨0⟩) J J J (fun hc7=>?_) (fun hc7=>?_)
 .
  refine nu ((m.natAbs:Nat)) J (by rw[l7];omega) J<|cl J (HV (a:=m.natAbs) (by omega)) J<|?_;exact rz J J
 .
  refine ak 3 (.d (.v (.int .u64 (m.natAbs:Nat)))) J (by congr 3;omega) ?_;refine gx J<|cl J (HV (a:=m.natAbs) (by omega)) J<|?_;exact rz J J
def KE{n:Bool}{a:Nat}(h:a<4611686018427387904):PF GB prog 314 [eS n a] (.tp [vI (zv n a),vB true]):=by
 refine fn func314 J J ntmps314 J J (fun C=>?_);refine cl (fu:=⟨2⟩) J (DT (a:=a) (by omega)) J<|dx J J J<|?_;refine jv 18 J J J (fun hg18=>?_) (fun hg18=>?_)
 .
  refine br (fu1:=⟨3⟩) J J J (fun hc12=>?_) (fun hc12=>?_)
  .
   refine nu (fu:=⟨0⟩) (((18446744073709551616-a)%18446744073709551616:Int)) J (by rw[l7];omega) J<|cu (zv n a) J (by subst hg18;rw[HP];simp only[zv,if_true];omega) J<|?_;exact rz J J
  .
   exact absurd (by omega) hc12
 .
  refine jv 32 J J J (fun hg32=>?_) (fun hg32=>?_)
  .
   refine br J J J (fun hc25=>?_) (fun hc25=>?_)
   .
    exact rz J (by subst hg18;rfl)
   .
    exact absurd (by omega) hc25
  .
   subst hg18;cases hg32
def vm{neg:Bool}{a i:Nat}[h:BN a i](hi:i<=1000000000:=by decide):PF GB prog 307 [eS neg a] (eI (zv neg a)):=by
 refine fn func307 J J ntmps307 J J (fun C=>?_);refine cl J (wU hi) J<|?_;refine jv 9 J J J (fun hg9=>?_) (fun hg9=>?_)
 .
  exact rz J (by rw[CO];simp[hg9,yn,iq])
 .
  exact rz J (by rw[CO];simp[hg9,yn,iq])
def Bb{neg:Bool}{a:Nat}:PF GB prog 360 [.v (.bool neg),dN a] (eI (zv neg a)):=by
 refine fn func360 J J ntmps360 J J (fun C=>?_);refine jv 6 J J J (fun hg6=>?_) (fun hg6=>?_)
 .
  exact rz J (by rw[CO];simp[hg6,yn,iq])
 .
  exact rz J (by rw[CO];simp[hg6,yn,iq])
def XF{m:Int}{i:Nat}[h:BI m i](hi:i<=1000000000:=by decide):PF GB prog 339 [eI m] (eI (-m)):=by
 refine fn func339 J J ntmps339 J J (fun C=>?_);refine cl J (vm (neg:=!decide (m<0)) (a:=m.natAbs) hi) J<|?_;exact rz J (by rw[QL,lw];rfl)
def Hq{a b:Int}{i j:Nat}[h:BI a i][k:BI b j](hi:i<=1000000000:=by decide)(hj:j<=1000000000:=by decide):PF GB prog 301 [eI a,eI b] (eI (a*b)):=by
 refine fn func301 J J ntmps301 J J (fun C=>?_);refine cl J (vr (a:=a.natAbs) (b:=b.natAbs) hi hj) J<|cl J Bb J<|?_;exact rz J (by rw[show(!(decide (a<0)==decide (b<0)))=(decide (a<0) !=decide (b<0)) from J,Pz,lw,lw];rfl)
def ayR{n1:Bool}{u:Nat}{b:Int}{i j:Nat}[h:BN u i][k:BI b j](hi:i<=1000000000:=by decide)(hj:j<=1000000000:=by decide):PF GB prog 303 [eS n1 u,eI b] (eI (zv n1 u+b)):=by
 refine fn func303 J J ntmps303 J J (fun C=>?_);refine bb J J J (fun hc13=>?_) (fun hc13=>?_)
 .
  refine cl J (UJ (b:=b.natAbs) hi hj) J<|cl J Bb J<|?_;exact rz J (by rw[Ye,show n1=decide (b<0) from by simpa using hc13,lw];rfl)
 .
  refine cl J (NV (b:=b.natAbs) hi hj) J<|?_;refine bd J J J (fun hc30=>?_) (fun hc30=>?_)
  .
   refine cl J Bb J<|?_;exact rz J (by rw[R4 (by simpa using hc13) hc30];rfl)
  .
   refine cl J (NV (a:=b.natAbs) hj hi) J<|cl J Bb J<|?_;exact rz J (by rw[Se (by simpa using hc13) (by omega)];rfl)
def VW{a b:Int}{i j:Nat}[h:BI a i][k:BI b j](hi:i<=1000000000:=by decide)(hj:j<=1000000000:=by decide):PF GB prog 303 [eI a,eI b] (eI (a+b)):=(ayR (n1:=decide (a<0)) (u:=a.natAbs) hi hj).to (by rw[lw])
def eH(q:Rat):Prop:= ¬(q.num.natAbs<4611686018427387904/\q.den<4611686018427387904)
instance (q:Rat):Decidable (eH q):=inferInstanceAs (Decidable (¬_))
def dm(q:Rat):Int:=if eH q then 0 else q.num
def dq(q:Rat):Int:=if eH q then 0 else(q.den:Int)-1
def c8(q:Rat):DV:= .op (decide (eH q)) [.v (.bool (decide (q.num<0))),dN q.num.natAbs,dN q.den]
def eF(q:Rat):DV:= .ag [vI (dm q),vI (dq q),c8 q]
abbrev bgT {q:Rat} (h:decide (eH q)=true):eH q:=of_decide_eq_true h
abbrev ry {q:Rat} (h:decide (eH q)=false): ¬eH q:=of_decide_eq_false h
abbrev QT {q:Rat} (h: ¬decide (eH q)=false):eH q:=by simpa using h
abbrev mO {q:Rat} (h: ¬decide (eH q)=true): ¬eH q:=by simpa using h
def l9{q:Rat}(h: ¬eH q):dm q=q.num:=if_neg h
def nP{q:Rat}(h: ¬eH q):dq q=(q.den:Int)-1:=if_neg h
def pk{q:Rat}(h: ¬eH q):q.num.natAbs<4611686018427387904:=(Decidable.not_not.1 h).1
def oO{q:Rat}(h: ¬eH q):q.den<4611686018427387904:=(Decidable.not_not.1 h).2
def Ia{q:Rat}(h:eH q):q≠0:=fun e=>by subst e;exact h ⟨by decide,by decide⟩
def q8{q:Rat}{m d:Int}{r:DV}(h: ¬eH q)(h1:q.num=m)(h2:(q.den:Int)-1=d)(e:r= .ag [vI m,vI d, .v (.pointer none)])(G:Gh)(y:Value)(k:Is G r y):Is G (eF q) y:=by
 subst e h1 h2;obtain⟨l,rfl,g⟩:=dG.1 k;obtain⟨y1,l1,rfl,k1,g1⟩:=bt.1 g;obtain⟨y2,l2,rfl,k2,g2⟩:=bt.1 g1;obtain⟨y3,l3,rfl,k3,g3⟩:=bt.1 g2;exact dG.2 ⟨_,J, .cons (by rw[l9 h];exact k1) (.cons (by rw[nP h];exact k2) (.cons (q6.2 (.inl ⟨decide_eq_false h,bc.1 k3⟩)) g3))⟩
def Nr{q:Rat}{n:Bool}{a d:Nat}{r:DV}(h:eH q)(h1:decide (q.num<0)=n)(h2:q.num.natAbs=a)(h3:q.den=d)(e:r= .ag [vI 0,vI 0, .pt [.v (.bool n),dN a,dN d]])(G:Gh)(y:Value)(k:Is G r y):Is G (eF q) y:=by
 subst e h1 h2 h3;obtain⟨l,rfl,g⟩:=dG.1 k;obtain⟨y1,l1,rfl,k1,g1⟩:=bt.1 g;obtain⟨y2,l2,rfl,k2,g2⟩:=bt.1 g1;obtain⟨y3,l3,rfl,k3,g3⟩:=bt.1 g2;exact dG.2 ⟨_,J, .cons (by unfold dm;rw[if_pos h];exact k1) (.cons (by unfold dq;rw[if_pos h];exact k2) (.cons (q6.2 (.inr ⟨decide_eq_true h,k3⟩)) g3))⟩
def wu(G:Gh)(y:Value)(k:Is G (.ag [vI 0,vI 0, .v (.pointer none)]) y):Is G (eF 0) y:=q8 (fun h=>Ia h J) J J J G y k
def JZ{m:Int}(h:m.natAbs<4611686018427387904)(G:Gh)(y:Value)(k:Is G (.ag [vI m,vI 0, .v (.pointer none)]) y):Is G (eF (m:Rat)) y:=
 q8 (fun k=>k ⟨by simpa using h,by rw[qV];decide⟩) (qK m) (by rw[qV];rfl) J G y k
def Mh{n:Bool}{a d:Nat}(hd:0<d):(mkRat (zv n a) d).num=zv n (a/Nat.gcd a d)/\(mkRat (zv n a) d).den=d/Nat.gcd a d:=by
 obtain⟨h1,h2⟩:=Ma (m:=zv n a) hd;rw[pA] at h1 h2;exact⟨by rw[h1,W0 (jR _ _)],h2⟩
def JR{n:Bool}{a d a' d':Nat}(hd:0<d)(ha:a'=a/Nat.gcd a d)(hd':d'=d/Nat.gcd a d)(h1:a'<4611686018427387904)(h2:d'<4611686018427387904)(G:Gh)(y:Value)(k:Is G (.ag [vI (zv n a'),vI ((d':Int)-1), .v (.pointer none)]) y):Is G (eF (mkRat (zv n a) d)) y:=by
 obtain⟨e1,e2⟩:=Mh (n:=n) (a:=a) hd;rw[<-ha] at e1;rw[<-hd'] at e2;exact q8 (fun k=>k ⟨by rw[e1,pA];exact h1,by rw[e2];exact h2⟩) e1 (by rw[e2]) J G y k
def BE{n:Bool}{a d a' d':Nat}(hd:0<d)(ha:a'=a/Nat.gcd a d)(hd':d'=d/Nat.gcd a d)(h: ¬(a'<4611686018427387904/\d'<4611686018427387904))(G:Gh)(y:Value)(k:Is G (.ag [vI 0,vI 0, .pt [.v (.bool (decide (zv n a'<0))),dN (zv n a').natAbs,dN d']]) y):Is G (eF (mkRat (zv n a) d)) y:=by
 obtain⟨e1,e2⟩:=Mh (n:=n) (a:=a) hd;rw[<-ha] at e1;rw[<-hd'] at e2;exact Nr (fun k=>h ⟨by rw[e1,pA] at k;exact k.1,by rw[e2] at k;exact k.2⟩) (by rw[e1]) (by rw[e1]) e2 J G y k
def YQ{a d:Nat}(hd:0<d)(h: ¬(1:Int)<(bl (Nat.gcd a d):Nat)):Nat.gcd a d=1:=by
 have h1:Nat.gcd a d≠0:=fun e=>by rw[Nat.gcd_eq_zero_iff] at e;omega
 have h2:Nat.gcd a d<2^1:=nn.1 (by omega);omega
def mj{x:Nat}:(((bl x:Nat):Int)<=62)↔x<4611686018427387904:=XE
def PF.ofI{P:Program}{f:FuncId}{ds ds':List DV}{r:DV}(h:PF GB P f ds r)(k: ∀G vs,IsLs G ds' vs->IsLs G ds vs):PF GB P f ds' r:=fun G vs hg hv=>h G vs hg (k G vs hv)
def tV{n:Bool}{a d i j:Nat}[h:BN a i][k:BN d j](hi:i<=450000000:=by decide)(hj:j<=450000000:=by decide):PF GB prog 218 [eS n a,dN d] (eF (mkRat (zv n a) d)):=by
 refine fn func218 J J ntmps218 J J (fun C=>?_);refine cl J (sj (a:=d) (by omega)) J<|?_;refine cs 13 J J J (fun hg13=>?_) (fun hg13=>?_)
 .
  exact iB rfl (by obtain rfl:=Gg.1 (Int.ofNat.inj hg13);rw[Rat.mkRat_zero];exact wu)
 .
  have hd0:0<d:=by have:= @Gg d;omega
  have hg0:0<Nat.gcd a d:=qQ _ hd0;refine cl J (Ko (n:=n) (a:=a) (by omega)) J<|?_;refine br J J J (fun hc17=>?_) (fun hc17=>?_)
  .
   exact iB J (by rw[jX.1 hc17,Rat.zero_mkRat];exact wu)
  .
   refine cl J (Gv (a:=a) (b:=d) (by omega) (by omega)) J<|cl J (sj (a:=Nat.gcd a d) (i:=i+j) (by omega)) J<|?_;refine br J J J (fun hc25=>?_) (fun hc25=>?_)
   .
    obtain⟨a',ea⟩: ∃a',a'=a/Nat.gcd a d:=⟨_,rfl⟩;obtain⟨d',ed⟩: ∃d',d'=d/Nat.gcd a d:=⟨_,rfl⟩;have hba:BN a' i:=ea▸inferInstance;have hbd:BN d' j:=ed▸inferInstance;refine cl (fu:=⟨2⟩) J (OZ (a:=a) (b:=Nat.gcd a d) (j:=i+j) hg0 (by omega) (by omega)) J<|?_;refine ak 31 (.d (dN a')) J (by rw[ea]) ?_;refine gx J<|cl (fu:=⟨2⟩) J (OZ (a:=d) (b:=Nat.gcd a d) (j:=i+j) hg0 (by omega) (by omega)) J<|?_;refine ak 39 (.d (dN d')) J (by rw[ed]) ?_;refine gx J<|cl J (sj (h:=hba) (by omega)) J<|?_;refine cs 46 J J J (fun hg46=>?_) (fun hg46=>?_)
    .
     refine cl J (sj (h:=hbd) (by omega)) J<|?_;refine br J J J (fun hc50=>?_) (fun hc50=>?_)
     .
      have hs2:=mj.1 hc50;refine cl J (KE (mj.1 hg46)) J<|cl J (DT (by have:=mj.1 hc50;omega)) J<|?_;exact iB J (JR hd0 ea ed (mj.1 hg46) (mj.1 hc50))
     .
      refine cl J (vm (neg:=n) (h:=hba) (by omega)) J<|cl J (wU (h:=hbd) (by omega)) J<|fz 71 J J<|?_;exact iB J (BE hd0 ea ed (fun e=>hc50 (mj.2 e.2)))
    .
     refine cl J (vm (neg:=n) (h:=hba) (by omega)) J<|cl J (wU (h:=hbd) (by omega)) J<|fz 71 J J<|?_;exact iB J (BE hd0 ea ed (fun e=>hg46 (mj.2 e.1)))
   .
    have hg1:=YQ hd0 hc25;have ea:a=a/Nat.gcd a d:=by rw[hg1,sS]
    have ed:d=d/Nat.gcd a d:=by rw[hg1,sS]
    have hba:=h;have hbd:=k;refine cl J (sj (h:=hba) (by omega)) J<|?_;refine cs 46 J J J (fun hg46=>?_) (fun hg46=>?_)
    .
     refine cl J (sj (h:=hbd) (by omega)) J<|?_;refine br J J J (fun hc50=>?_) (fun hc50=>?_)
     .
      have hs2:=mj.1 hc50;refine cl J (KE (mj.1 hg46)) J<|cl J (DT (by have:=mj.1 hc50;omega)) J<|?_;exact iB J (JR hd0 ea ed (mj.1 hg46) (mj.1 hc50))
     .
      refine cl J (vm (neg:=n) (h:=hba) (by omega)) J<|cl J (wU (h:=hbd) (by omega)) J<|fz 71 J J<|?_;exact iB J (BE hd0 ea ed (fun e=>hc50 (mj.2 e.2)))
    .
     refine cl J (vm (neg:=n) (h:=hba) (by omega)) J<|cl J (wU (h:=hbd) (by omega)) J<|fz 71 J J<|?_;exact iB J (BE hd0 ea ed (fun e=>hg46 (mj.2 e.1)))
def P8{q:Rat}:PF GB prog 271 [eF q] (vB (decide (q=0))):=by
 refine fn func271 J J ntmps271 J J (fun C=>?_);refine cs 6 J J J (fun hg6=>?_) (fun hg6=>?_)
 .
  exact rz J (by rw[l9 (ry hg6)];show DV.v (.bool (decide _))= .v (.bool _);congr 2;exact decide_eq_decide.2 ⟨fun e=>oZ.1 e,fun e=>by rw[e];rfl⟩)
 .
  exact rz J (by rw[decide_eq_false (Ia (QT hg6))];rfl)
def yb{m:Int}(h:m.natAbs<9223372036854775808):PF GB prog 350 [vI m] (.v (.int .u64 (m.natAbs:Nat))):=by
 refine fn func350 J J ntmps350 J J (fun C=>?_);refine br J J J (fun hc4=>?_) (fun hc4=>?_)
 .
  exact rz J (by show DV.v (.int _ _)=_;congr 2;omega)
 .
  exact rz J (by show DV.v (.int _ _)=_;congr 2;omega)
def qr{q:Rat}{i:Nat}[h:BQ q i](hi:i<=900000000:=by decide):PF GB prog 216 [eF q] (dN q.den):=by
 refine fn func216 J J ntmps216 J J (fun C=>?_);refine br (v1:=fun hc5=>by simp only[ah];exact hc5) (fu2:=⟨6⟩) J J J (fun hc5=>?_) (fun hc5=>?_)
 .
  refine cl J (wU (a:=q.den) (by omega)) J<|?_;exact rz J J
 .
  have hd:=q.den_nz;have hs:=oO (mO hc5);refine ak 13 (.d (vI ((q.den:Int)-1))) J (by rw[nP (mO hc5)]) ?_;refine gx (fu:=⟨2⟩) J<|?_;refine ak 15 (.d (.v (.int .u64 (q.den:Nat)))) J (by congr 3;omega) ?_;refine gx J<|cl J (HV (a:=q.den) (by omega)) J<|?_;exact rz J J
def rO{q:Rat}{i:Nat}[h:BQ q i](hi:i<=900000000:=by decide):PF GB prog 215 [eF q] (eI q.num):=by
 refine fn func215 J J ntmps215 J J (fun C=>?_);refine br (v1:=fun hc5=>by simp only[ah];exact hc5) (fu2:=⟨6⟩) J J J (fun hc5=>?_) (fun hc5=>?_)
 .
  refine cl J (vm (neg:=decide (q.num<0)) (a:=q.num.natAbs) (by omega)) J<|?_;exact rz J (by rw[lw];rfl)
 .
  have hs:=pk (mO hc5);refine ak 13 (.d (vI q.num)) J (by rw[l9 (mO hc5)]) ?_;refine gx J<|cl J (GD (by omega) (by omega)) J<|?_;exact rz J J
def o9{q:Rat}{i:Nat}[h:BQ q i](hi:i<=900000000:=by decide):PF GB prog 245 [eF q] (eF (-q)):=by
 refine fn func245 J J ntmps245 J J (fun C=>?_);refine br (v1:=fun hc5=>by simp only[ah];exact hc5) (fu2:=⟨6⟩) J J J (fun hc5=>?_) (fun hc5=>?_)
 .
  refine cl (fu:=⟨6⟩) (hv:=by simp only[ah];exact hc5) J (XF (m:=q.num) (by omega)) J<|Qf J J<|?_;exact iB J (Nr (q:= -q) (fun k=>bgT hc5 (by rw[oN,kJ,rS] at k;exact k)) (by rw[oN]) (by rw[oN]) (rS q) J)
 .
  have hs:=pk (mO hc5);refine ak 21 (.d (vI q.num)) J (by rw[l9 (mO hc5)]) ?_;refine gx J<|?_;exact iB J (q8 (q:= -q) (fun k=>k (by rw[oN,kJ,rS];exact⟨hs,oO (mO hc5)⟩)) (by rw[oN]) (by rw[rS,nP (mO hc5)]) J)
def nj{q:Rat}{i:Nat}[h:BQ q i](hi:i<=900000000:=by decide):PF GB prog 228 [eF q] (vI q.num.sign):=by
 refine fn func228 J J ntmps228 J J (fun C=>?_);refine br (v1:=fun hc3=>by simp only[ah];exact hc3) J J J (fun hc3=>?_) (fun hc3=>?_)
 .
  refine cl J (Ko (n:=decide (q.num<0)) (a:=q.num.natAbs) (by omega)) J<|?_;exact rz J (by rw[lw];rfl)
 .
  have hs:=l9 (mO hc3);refine br J J J (fun hc13=>?_) (fun hc13=>?_)
  .
   exact rz J (by rw[fZ (by omega)];rfl)
  .
   refine br J J J (fun hc17=>?_) (fun hc17=>?_)
   .
    exact rz J (by rw[gV (by omega)];rfl)
   .
    exact rz J (by rw[show q.num=0 by omega];rfl)
end Go.Sx
end
