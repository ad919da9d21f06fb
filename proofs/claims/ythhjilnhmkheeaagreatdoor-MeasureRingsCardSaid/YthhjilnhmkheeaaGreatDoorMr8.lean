import Derived.Test.YthhjilnhmkheeaaGreatDoorMr7
set_option linter.all false
set_option maxHeartbeats 2000000
set_option maxRecDepth 100000
section
namespace Go.Sx
open Go
def dU(d:Nat):DV:= .v (.int .u32 (d:Int))
def fm(ds:List Nat):DV:= .sl (ds.map dU)
def dN(n:Nat):DV:= .sl ((dg n).map dU)
def dD(n:Nat):DV:= .sl (if n=1 then [] else(dg n).map dU)
def eI(m:Int):DV:= .ag [.v (.bool (decide (m<0))),dN m.natAbs]
def eQ(q:Rat):DV:= .ag [.v (.bool (decide (q.num<0))),dN q.num.natAbs,dD q.den]
def eP(p:aa):DV:= .ag [.v (.bool (decide (p.x.num<0))),dN p.x.num.natAbs,dD p.x.den, .v (.bool (decide (p.y.num<0))),dN p.y.num.natAbs,dD p.y.den]
def eL(l:ab):DV:= .ag [.v (.bool (decide (l.a<0))),dN l.a.natAbs, .v (.bool (decide (l.b<0))),dN l.b.natAbs, .v (.bool (decide (l.c<0))),dN l.c.natAbs]
def eR(q:Rat):DV:= .ag [.v (.bool (decide (q.num<0))),dN q.num.natAbs,dN q.den]
def o5(p:aa):DV:= .ag [.v (.bool (decide (p.x.num<0))),dN p.x.num.natAbs,dN p.x.den, .v (.bool (decide (p.y.num<0))),dN p.y.num.natAbs,dN p.y.den]
def vI(n:Int):DV:= .v (.int .i64 n)
def vB(b:Bool):DV:= .v (.bool b)
def LO(n:Nat):dN n=fm (dg n):=rfl
def ZF{ds:List Nat}(h:bB ds):fm (trimD ds)=dN (dv ds):=by unfold fm dN;rw[Eq h]
def aAs{ds:List Nat}{i:Nat}(h:i<ds.length):(ds.map dU)[i]? =some (dU (ds.getD i 0)):=by
 rw[cV,aZ h,aJ,aZ h];rfl
def fD{ds:List Nat}{i:Nat}(h:i<ds.length:=by omega):(ds.map dU)[(i:Int).toNat]? =some (dU (ds.getD i 0)):=by rw[dR];exact aAs h
def ku(ds:List Nat)(i d:Nat):(ds.map dU).set i (.v (.int .u32 (d:Int)))=(ds.set i d).map dU:=by rw[kJ];rfl
def oD(n:Nat):List.replicate n (DV.v (.int .u32 0))=(List.replicate n 0).map dU:=by rw[List.map_replicate];rfl
def sr(ds:List Nat):dH 1 (ds.map dU):=fun d hd=>by
 obtain⟨n,_,rfl⟩:=aS.1 hd;exact⟨rfl,rfl⟩
def fj(n:Nat)(i:Nat):(dg n).getD i 0<4294967296:=(i8 n).2.1.get i
def vX:dg 0=[]:=by rw[dg,dif_pos J]
def AV:dg 1=[1]:=by rw[dg,dif_neg oma];simp[vX]
def wR{n:Nat}:(dg n).length=0↔n=0:=by
 constructor
 .intro h
  have:=(i8 n).1;rw[cW h] at this;exact this.symm
 .rintro rfl;rw[vX];rfl
def me:dN 0= .sl []:=by unfold dN;rw[vX];rfl
def D3{G:Gh}: ∀{ds:List Nat} {es:List Value},IsLs G (ds.map dU) es↔es=ds.map dI
 |[],es=>gw
 |d::t,es=>by
  rw[cJ,bO];constructor
  .rintro ⟨y,n,rfl,h1,h2⟩
   rw[bE.1 h1,D3.1 h2];rfl
  .rintro rfl
   exact⟨_,_,J,bE.2 J,D3.2 J⟩
def SY{G:Gh}{ds:List Nat}{v:Value}:Is G (fm ds) v↔ ∃x:SV,v= .slice x.a x.n x.c/\jl G 1 x (ds.map dI):=by
 unfold fm;rw[je];constructor
 .rintro ⟨s,x,es,rfl,h1,h2⟩
  have:=D3.1 h2;subst this;refine⟨x,J,?_⟩;rcases Cg (s:=1) h1 h2 (sr ds) with h|h
  .rw[h] at h1⊢
   exact⟨h1.len,h1.cap, .inl J⟩
  .subst h;exact h1
 .rintro ⟨x,rfl,h⟩
  exact⟨1,x,_,J,h,D3.2 J⟩
def dm{ds:List Nat}{i:Int}{k:Nat}(hi:i=k:=by omega)(h:k<ds.length:=by omega):(ds.map dU)[i.toNat]? =some (dU (ds.getD k 0)):=by subst hi;exact fD h
class BN (n:Nat) (k:outParam Nat):Prop where h:n<2^k
class BI (m:Int) (k:outParam Nat):Prop where h:m.natAbs<2^k
class BQ (q:Rat) (k:outParam Nat):Prop where
 hn:q.num.natAbs<2^k
 hd:q.den<2^k
theorem BN.mono{n k k':Nat}(h:BN n k)(hk:k<=k'):BN n k':=⟨eY h.h (cY oma hk)⟩
def rO{a b i j:Nat}(h:a<2^i)(k:b<2^j):a*b<2^(i+j):=by rw[fN];exact pJ h k
def O1{a b i j:Nat}(h:a<2^i)(k:b<2^j):a+b<2^(i+j+1):=by
 have h1:2^i<=2^(i+j):=cY oma we;have h2:2^j<=2^(i+j):=cY oma we;rw[iQ];omega
instance BN.mul (a b i j:Nat) [h:BN a i] [k:BN b j]:BN (a*b) (i+j):=⟨rO h.h k.h⟩
instance BN.div (a b i:Nat) [h:BN a i]:BN (a/b) i:=⟨gU (mU _ _) h.h⟩
instance BN.abs (m:Int) (i:Nat) [h:BI m i]:BN m.natAbs i:=⟨h.h⟩
instance BN.den (q:Rat) (i:Nat) [h:BQ q i]:BN q.den i:=⟨h.hd⟩
def N4{a b i j:Nat}(h:a<2^i)(k:b<2^j):Nat.gcd a b<2^(i+j):=by
 have h1:2^i<=2^(i+j):=cY oma we;have h2:2^j<=2^(i+j):=cY oma we;rcases fW a with h0|h0
 .subst h0;rw[Nat.gcd_zero_left];omega
 .have:=Nat.gcd_le_left b h0;omega
instance BN.gcd (a b i j:Nat) [h:BN a i] [k:BN b j]:BN (Nat.gcd a b) (i+j):=⟨N4 h.h k.h⟩
instance BN.one:BN 1 1:=⟨oma⟩
instance BI.mul (a b:Int) (i j:Nat) [h:BI a i] [k:BI b j]:BI (a*b) (i+j):=⟨by rw[iR];exact rO h.h k.h⟩
instance BI.add (a b:Int) (i j:Nat) [h:BI a i] [k:BI b j]:BI (a+b) (i+j+1):=⟨gU (Int.natAbs_add_le a b) (O1 h.h k.h)⟩
instance BI.sub (a b:Int) (i j:Nat) [h:BI a i] [k:BI b j]:BI (a-b) (i+j+1):=⟨gU (Int.natAbs_sub_le a b) (O1 h.h k.h)⟩
instance BI.neg (a:Int) (i:Nat) [h:BI a i]:BI (-a) i:=⟨by rw[iJ];exact h.h⟩
instance BI.num (q:Rat) (i:Nat) [h:BQ q i]:BI q.num i:=⟨h.hn⟩
instance BI.nat (n:Nat) (i:Nat) [h:BN n i]:BI (n:Int) i:=⟨by rw[jL];exact h.h⟩
def nG(q:Rat):0<q.den:=jM q.den_nz
theorem BA{m:Int}{d i:Nat}(hd:0<d)(h:m.natAbs<2^i)(k:d<2^i):BQ (mkRat m d) i:=by
 refine⟨?_,?_⟩
 .rw[Rat.num_mkRat,if_neg we]
  have:=nT m (d.gcd m.natAbs:Nat);omega
 .rw[Rat.den_mkRat,if_neg we]
  have:=mU d (d.gcd m.natAbs);omega
theorem BQ.mono{q:Rat}{k k':Nat}(h:BQ q k)(hk:k<=k':=by decide):BQ q k':=⟨eY h.hn (cY oma hk),eY h.hd (cY oma hk)⟩
def BY(p q:Rat):p*q=mkRat (p.num*q.num) (p.den*q.den):=by rw[Rat.mul_def,Rat.normalize_eq_mkRat]
def AL(p q:Rat):p+q=mkRat (p.num*q.den+q.num*p.den) (p.den*q.den):=by rw[Rat.add_def,Rat.normalize_eq_mkRat]
instance BQ.mul (p q:Rat) (i j:Nat) [h:BQ p i] [k:BQ q j]:BQ (p*q) (i+j):=by
 rw[BY];exact BA (gM (nG p) (nG q)) (BI.mul p.num q.num i j).h (rO h.hd k.hd)
instance BQ.add (p q:Rat) (i j:Nat) [h:BQ p i] [k:BQ q j]:BQ (p+q) (i+j+1):=by
 rw[AL];refine BA (gM (nG p) (nG q)) ?_ ?_
 .have h1:=rO h.hn k.hd
  have h2:=rO k.hn h.hd;have h3:(p.num*q.den+q.num*p.den).natAbs<=(p.num*q.den).natAbs+(q.num*p.den).natAbs:=Int.natAbs_add_le ..;rw[iR,iR,jL,jL] at h3;rw[kX j i] at h2;rw[iQ];omega
 .have h1:=rO h.hd k.hd
  rw[iQ];omega
instance BQ.neg (p:Rat) (i:Nat) [h:BQ p i]:BQ (-p) i:=⟨by rw[nQ,iJ];exact h.hn,by rw[qZ];exact h.hd⟩
instance BQ.sub (p q:Rat) (i j:Nat) [h:BQ p i] [k:BQ q j]:BQ (p-q) (i+j+1):=by
 rw[Rat.sub_eq_add_neg];exact BQ.add p (-q) i j
instance BQ.ofInt (m:Int) (i:Nat) [h:BI m i]:BQ (m:Rat) (i+1):=by
 refine⟨?_,?_⟩
 .rw[pT];have:=h.h;rw[iQ];omega
 .rw[qN];have:0<2^i:=gL oma;rw[iQ];omega
end Go.Sx
end
section
namespace Go.Sx
open Go Go.Proofs Tryz
variable {GB:Gh}
def DM(p q:Int):Nat:=(BitVec.ofInt 32 p &&& BitVec.ofInt 32 q).toNat
def J8(p q:Int):Nat:=(BitVec.ofInt 32 p ||| BitVec.ofInt 32 q).toNat
def BD(p q:Int):Nat:=(BitVec.ofInt 32 p^^^BitVec.ofInt 32 q).toNat
def M7{ds:List Nat}{n:Nat}(h:0<n/\n<=ds.length)(hz:ds.getD (n-1) 0=0):trimD (ds.take n)=trimD (ds.take (n-1)):=by
 obtain⟨m,rfl⟩: ∃m,n=m+1:=⟨n-1,we⟩;rw[iM we,lK];rw[lK,aJ,aZ we] at hz;simp only[lW] at hz;rw[hz,aqA]
def Td{ds:List Nat}{n:Nat}(h:n<=ds.length)(hz:0<n->ds.getD (n-1) 0≠0):trimD (ds.take n)=ds.take n:=by
 rcases fW n with h0|h0
 .subst h0;simp[trimD]
 .obtain⟨m,rfl⟩: ∃m,n=m+1:=⟨n-1,we⟩
  have hz:=hz h0;rw[iM we];rw[lK,aJ,aZ we] at hz;exact LZ (by simpa using hz)
def Xu{x y c:Nat}(hx:x<4294967296)(hy:y<4294967296)(hc:c<=1):PF GB prog 220 [.v (.int .u32 (x:Int)), .v (.int .u32 (y:Int)), .v (.int .u32 (c:Int))] (.tp [.v (.int .u32 (((x+y+c)%4294967296:Nat):Int)), .v (.int .u32 (((x+y+c)/4294967296:Nat):Int))]):=by
 refine fn (hv:=by simp only[ae];exact⟨⟨⟨⟨⟨we,we⟩,we⟩,we⟩,we⟩,oma⟩) func220 J J ntmps220 J J (fun C=>?_);exact rz J (by
  have e1:((x:Int)+y+c)%4294967296=(((x+y+c)%4294967296:Nat):Int):=by omega
  have e2:((x:Int)+y+c).fdiv (2^min (32:Int).toNat IntKind.u64.bits)%4294967296=(((x+y+c)/4294967296:Nat):Int):=by
   rw[show(2:Int)^min (32:Int).toNat IntKind.u64.bits=((4294967296:Nat):Int) from J,kV _ oma];omega
  show DV.tp [.v (.int _ _), .v (.int _ _)]=_;rw[e1,e2])
def He(n:Nat)(h:n<4294967296):(BitVec.ofInt 32 (n:Int)).msb=decide (2147483648<=n):=by
 rw[show BitVec.ofInt 32 (n:Int)=BitVec.ofNat 32 n from BitVec.ofInt_natCast ..];rw[BitVec.msb_eq_decide,BitVec.toNat_ofNat,dZ omy]
def awc(b:BitVec 32):b.toNat/2147483648=if b.msb then 1 else 0:=by
 have:=b.isLt;rw[BitVec.msb_eq_decide];simp only[decide_eq_true_eq,Nat.reduceSub,Nat.reducePow] at*;split<;>omega
def akX(b:BitVec 32):BitVec.ofInt 32 (b.toNat:Int)=b:=by rw[BitVec.ofInt_natCast,BitVec.ofNat_toNat,BitVec.setWidth_eq]
def Zy{x y c:Nat}(hx:x<4294967296)(hy:y<4294967296)(hc:c<=1):
  ((J8 (DM (BD IntKind.u32.max x:Nat) y:Nat) (DM (BD IntKind.u32.max (BD x y:Nat):Nat) (IntKind.u32.wrap (IntKind.u32.wrap ((x:Int)-y)-c)):Nat):Nat):Int).fdiv (2^min (31:Int).toNat IntKind.u32.bits)=(((if x<y+c then 1 else 0):Nat):Int):=by
 rw[show((2:Int)^min (31:Int).toNat IntKind.u32.bits)=((2147483648:Nat):Int) from J,kV _ oma,<-sJ];congr 1;have hd: ∃d:Nat,d<4294967296/\IntKind.u32.wrap (IntKind.u32.wrap ((x:Int)-y)-c)=(d:Int)/\((x>=y+c/\d=x-(y+c))\/(x<y+c/\d=x+4294967296-(y+c))):=by
  rw[u7,u7];refine⟨((((x:Int)-y)%4294967296-c)%4294967296).toNat,we,we,we⟩
 obtain⟨d,hd1,hd2,hd3⟩:=hd;rw[hd2];unfold J8 DM BD;simp only[akX];rw[awc];simp only[BitVec.msb_or,BitVec.msb_and,BitVec.msb_xor,He x hx,He y hy,He d hd1];have h1:(BitVec.ofInt 32 IntKind.u32.max).msb=true:=by decide
 rw[h1];rcases jX x 2147483648 with a|a<;>rcases jX y 2147483648 with b|b<;>rcases jX d 2147483648 with e|e<;>
  simp[Nat.not_le.2, *]<;>(first|omega|(split<;>omega))
def aAg{x y c:Nat}(hx:x<4294967296)(hy:y<4294967296)(hc:c<=1):IntKind.u32.wrap (IntKind.u32.wrap ((x:Int)-y)-c)=(((if x<y+c then x+4294967296-(y+c) else x-(y+c)):Nat):Int):=by
 rw[u7,u7];split<;>omega
def VC{x y c:Nat}(hx:x<4294967296)(hy:y<4294967296)(hc:c<=1):PF GB prog 221 [.v (.int .u32 (x:Int)), .v (.int .u32 (y:Int)), .v (.int .u32 (c:Int))] (.tp [.v (.int .u32 (((if x<y+c then x+4294967296-(y+c) else x-(y+c)):Nat):Int)), .v (.int .u32 (((if x<y+c then 1 else 0):Nat):Int))]):=by
 refine fn (fu:=⟨10⟩) func221 J J ntmps221 J J (fun C=>?_);refine sw (fu:=⟨1⟩) _ J (u7 _).symm J<|sw (fu:=⟨6⟩) _ J (u7 _).symm J<|nt (fu:=⟨4⟩) _ J J J<|xr (fu:=⟨0⟩) _ J J J<|nt _ J J J<|rz J (by have h1:=Zy hx hy hc;unfold J8 DM BD at h1;show DV.tp [.v (.int _ _), .v (.int _ _)]=_;rw[h1,aAg hx hy hc])
def tq{ds:List Nat}(hl:ds.length<=1125899906842624:=by omega):PF GB prog 137 [fm ds] (fm (trimD ds)):=by
 refine fn func137 J J ntmps137 J J (fun C=>?_);refine lp (X:=Nat) (fun n=>[(0, .d (fm ds)),(3, .d (vI (n:Nat)))]) (fun n=>[]) (fun n=>n<=ds.length/\trimD ds=trimD (ds.take n)) (fun n=>n) ds.length J ⟨bV _,by rw[dV]⟩ (fun _=>J) (fun n hk=>?_);obtain⟨h1,h2⟩:=hk;refine cs 8 J J J (fun hg8=>?_) (fun hg8=>?_)
 .
  refine ix _ J (dm (k:=n-1)) J<|br J J J (fun hc15=>?_) (fun hc15=>?_)
  .
   have hz:ds.getD (n-1) 0=0:=by omega
   exact at_ (n-1) ⟨⟨we,by rw[h2,M7 we hz]⟩,we⟩
  .
   refine mc 0 n _ J J J J (sr _) we omo J<|rz J (by have:=Td h1 (fun _ h=>hc15 we);rw[<-h2] at this;show DV.sl _=_;simp[fm,this])
 .
  refine mc 0 n _ J J J J (sr _) we omo rfl<|rz rfl (by obtain rfl:n=0:=we;show DV.sl _=_;simp[fm,h2,trimD])
def wC{a k:Nat}(h:a<2^k)(hk:k<=1000000000):(dg a).length<=100000000:=by have:=n9 h;omega
def dG(a:Nat):dv (dg a)=a:=(i8 a).1
def ij(a:Nat):bB (dg a):=(i8 a).2.1
def cd(ds:List Nat):(ds.map dU).length=ds.length:=aK ..
def lF{ds:List Nat}{n:Nat}(h:ds.length<=n:=by omega):ds.take n=ds:=cZ h
def r4{ds:List Nat}{i:Nat}(h:ds.length<=i:=by omega):ds.getD i 0=0:=by
 rw[aJ,eJ h];rfl
def mi{ds:List Nat}{n:Nat}(h:bB ds)(e:dv ds=n):fm (trimD ds)=dN n:=by rw[ZF h,e]
def BT{a b:Nat}(h:a<b):kj a b= -1:=by unfold kj;rw[if_pos h]
def B3{a b:Nat}(h:b<a):kj a b=1:=by unfold kj;rw[if_neg we,if_neg we]
def M0{a b:Nat}(h:a=b):kj a b=0:=by unfold kj;rw[if_neg we,if_pos h]
def ax3(m n:Nat):Int.sign ((m:Int)-n)=kj m n:=by
 unfold kj;split
 .exact fZ we
 .split
  .rw[show(m:Int)-n=0 by omega];rfl
  .exact fJ we
def Gi{a b:Nat}(h:(dg a).length≠(dg b).length:=by omega):kj (dg a).length (dg b).length=kj a b:=by
 rcases rZ h with h|h
 .have:=yu (ij a) (i8 b).2.2 h
  rw[dG,dG] at this;rw[BT h,BT this]
 .have:=yu (ij b) (i8 a).2.2 h
  rw[dG,dG] at this;rw[B3 h,B3 this]
def yi{a b i:Nat}(hl:(dg a).length=(dg b).length)(hi:i<(dg a).length)(hs:(dg a).drop (i+1)=(dg b).drop (i+1)):
  ((dg a).getD i 0<(dg b).getD i 0->a<b)/\((dg b).getD i 0<(dg a).getD i 0->b<a)/\((dg a).getD i 0=(dg b).getD i 0->(dg a).drop i=(dg b).drop i):=by
 refine⟨fun h=>?_,fun h=>?_,fun h=>?_⟩
 .have:=S7 (ij a) (ij b) i hi we hl hs h
  rwa [dG,dG] at this
 .have:=S7 (ij b) (ij a) i we hi hl.symm hs.symm h
  rwa [dG,dG] at this
 .rw[bU hi,bU (by omega:i<(dg b).length),hs]
  rw[aJ,aJ,aZ hi,aZ (by omega:i<(dg b).length)] at h;simp only[lW] at h;rw[h]
theorem okN{p:Prop}(h:p:=by show DV.v (.int _ 0)=DV.v (.int _ _);rw[show z=0 by omega];rfl):p:=h
theorem ozl{p:Prop}(h:p:=by show DV.v (.int _ (-1))=DV.v (.int _ _);rw[fZ we]):p:=h
theorem ozn{p:Prop}(h:p:=by show DV.v (.int _ 1)=DV.v (.int _ _);rw[fJ we]):p:=h
def aGO{z:Int}:PF GB prog 199 [vI z] (vI z.sign):=by
 refine fn func199 J J ntmps199 J J (fun C=>?_);refine br J J J (fun hc4=>?_) (fun hc4=>?_)
 .
  exact rz J ozn
 .
  refine br J J J (fun hc6=>?_) (fun hc6=>?_)
  .
   exact rz J ozl
  .
   exact rz J okN
def SP(u:Nat):dv [u%4294967296,u/4294967296]=u:=by simp only[dv];omega
def P9{u:Nat}(h:u<18446744073709551616):bB [u%4294967296,u/4294967296]:= .cons we (.cons we .nil)
def qP(u:Nat):(u:Int).fdiv (2^min (32:Int).toNat IntKind.u64.bits)=((u/4294967296:Nat):Int):=by
 rw[show(2:Int)^min (32:Int).toNat IntKind.u64.bits=((4294967296:Nat):Int) from J,kV _ oma];rfl
theorem omZ{p:Prop}(h:p:=by show FX.d (.sl [.v (.int _ _), .v (.int _ _)])= .d (.sl [.v (.int _ _), .v (.int _ _)]);congr 6;omega):p:=h
theorem okn{p:Prop}(h:p:=by rw[qP]):p:=h
def uc{u:Nat}(hu:u<18446744073709551616:=by omega):PF GB prog 86 [.v (.int .u64 (u:Int))] (dN u):=by
 refine fn (fu:=⟨11⟩) (hv:=by simp only[ae];exact oma) func86 J J ntmps86 J J (fun C=>?_);refine ah 6 (.d (.v (.int .u64 (u/4294967296:Nat)))) J okn<|gx J<|rf (fu:=⟨0⟩) J J<|ah 8 (.d (fm [u%4294967296,u/4294967296])) J omZ<|gx J<|cl J (tq (ds:=[u%4294967296,u/4294967296]) omc) J<|rz J (mi (P9 hu) (SP u))
theorem okI{p:Prop}(h:p:=by unfold dN;rw[AV];rfl):p:=h
def Gm:PF GB prog 140 [] (dN 1):=by
 refine fn func140 J J ntmps140 J J (fun C=>?_);refine rf J J<|rz J okI
def AW{a b:Nat}(ha:(dg a).length<=100000000:=by omega)(hb:(dg b).length<=100000000:=by omega):PF GB prog 139 [dN a,dN b] (vI (kj a b)):=by
 have hla:=cd (dg a);have hlb:=cd (dg b);refine fn func139 J J ntmps139 J J (fun C=>?_);refine br J J J (fun hc10=>?_) (fun hc10=>?_)
 .
  refine cl J aGO J<|rz J (by show DV.v (.int _ _)=DV.v (.int _ _);rw[hla,hlb,ax3,Gi])
 .
  have hl:(dg a).length=(dg b).length:=by omega
  refine lp (X:=Nat) (fun k=>[(0, .d (dN a)),(1, .d (dN b)),(5, .d (vI ((k:Nat)-1)))]) (fun k=>[]) (fun k=>k<=(dg a).length/\(dg a).drop k=(dg b).drop k) (fun k=>k) (dg a).length J ⟨bV _,by rw[fR,hl,fR]⟩ (fun _=>J) (fun k hk=>?_);obtain⟨h1,h2⟩:=hk;refine br J J J (fun hc21=>?_) (fun hc21=>?_)
  .
   obtain⟨k,rfl⟩: ∃m,k=m+1:=⟨k-1,we⟩;refine ix _ J (dm (k:=k)) J<|ix _ J (dm (k:=k)) J<|br J J J (fun hc32=>?_) (fun hc32=>?_)
   .
    exact rz J (by show DV.v (.int _ 1)=DV.v (.int _ _);rw[B3 ((yi hl we h2).2.1 we)])
   .
    refine ix _ J (dm (k:=k)) J<|ix _ J (dm (k:=k)) J<|br J J J (fun hc41=>?_) (fun hc41=>?_)
    .
     exact rz J (by show DV.v (.int _ (-1))=DV.v (.int _ _);rw[BT ((yi hl we h2).1 we)])
    .
     exact at_ k ⟨⟨we,(yi (i:=k) hl we h2).2.2 we⟩,we⟩
  .
   exact rz rfl (by show DV.v (.int _ 0)=DV.v (.int _ _);rw[M0];obtain rfl:k=0:=we;rw[gJ,gJ] at h2;rw[<-dG a,h2,dG])
def N9{A B W:List Nat}{i c:Nat}(hi:i<W.length)(h:dv (W.take i)+4294967296^i*c=dv (A.take i)+dv (B.take i)):
  dv ((W.set i ((A.getD i 0+B.getD i 0+c)%4294967296)).take (i+1))+4294967296^(i+1)*((A.getD i 0+B.getD i 0+c)/4294967296)=dv (A.take (i+1))+dv (B.take (i+1)):=by
 rw[xE hi,pE A,pE B,iQ,show A.getD i 0+B.getD i 0+c=c+A.getD i 0+B.getD i 0 by omega];exact aAz h
theorem ozb{p:Prop}(h:p:=by rw[aM];omega):p:=h
def ON{a b n:Nat}{W:List Nat}{c:Nat}(hn:n=max (dg a).length (dg b).length)(hl:W.length=n+1)(h:dv (W.take n)+4294967296^n*c=dv ((dg a).take n)+dv ((dg b).take n)):dv (W.set n c)=a+b:=by
 have e:=xE (ws:=W) (k:=n) (d:=c);rw[lF ozb] at e;rw[e,h,lF,lF,dG,dG]
theorem omD{p:Prop}(h:p:=by rw[<-oD];rfl):p:=h
theorem oke{p:Prop}(h:p:=by rw[<-ku];rfl):p:=h
def WW{a b ia ib:Nat}[ha:BN a ia][hb:BN b ib](hi:ia<=1000000000:=by decide)(hj:ib<=1000000000:=by decide):PF GB prog 182 [dN a,dN b] (dN (a+b)):=by
 have hla:=cd (dg a);have hlb:=cd (dg b);have hba:=wC ha.h hi;have hbb:=wC hb.h hj;refine fn (fu:=⟨12⟩) func182 J J ntmps182 J J (fun C=>?_);obtain⟨n,hn⟩: ∃n,n=max (dg a).length (dg b).length:=⟨_,rfl⟩;refine ah 15 (.d (vI (n:Nat))) J (by show FX.d (.v (.int _ _))= .d (.v (.int _ _));congr 3;split<;>omega)<|gx J<|mk ((List.replicate (n+1) 0).map dU) J J omD J<|lp (X:=List Nat×Nat×Nat) (fun⟨W,c,i⟩=>[(0, .d (dN a)),(1, .d (dN b)),(5, .d (vI (n:Nat))),(6, .rw 18),(7, .d (.v (.int .u32 (c:Nat)))),(8, .d (vI (i:Nat)))]) (fun⟨W,c,i⟩=>[(18,some (.b 227 1 (W.map dU) true))]) (fun⟨W,c,i⟩=>W.length=n+1/\bB W/\c<=1/\i<=n/\dv (W.take i)+4294967296^i*c=dv ((dg a).take i)+dv ((dg b).take i)) (fun⟨W,c,i⟩=>n-i) ⟨List.replicate (n+1) 0,0,0⟩ J ⟨omc, .replicate _,we,we,by simp[dv]⟩ (fun _=>J) (fun⟨W,c,i⟩ hk=>?_);dsimp only at hk⊢;obtain⟨h1,h2,h3,h4,h5⟩:=hk;have hlw:=cd W;have hda:=fj a i;have hdb:=fj b i;refine br (fu1:=⟨11⟩) J J J (fun hc21=>?_) (fun hc21=>?_)
 .
  refine mg (fu:=⟨1⟩) (X:=Unit) (fun _=>[(0, .d (dN a)),(1, .d (dN b)),(5, .d (vI (n:Nat))),(6, .rw 18),(7, .d (.v (.int .u32 (c:Nat)))),(8, .d (vI (i:Nat))),(9, .d (dU ((dg a).getD i 0))),(10, .d (.v (.int .u32 0)))]) (fun _=>[(18,some (.b 227 1 (W.map dU) true))]) (fun _=>True) [0,1,5,6,7,8,9,10] [18] rfl ?_ (fun _=>J) (fun _ hm=>?_)
  .
   refine gx J<|br J J J (fun hc27=>?_) (fun hc27=>?_)
   .
    refine ix _ J (fD) J<|at_ () trivial
   .
    refine ah 9 (.d (dU ((dg a).getD i 0))) J (by rw[r4];rfl)<|at_ () trivial
  .
   refine mg (X:=Unit) (fun _=>[(0, .d (dN a)),(1, .d (dN b)),(5, .d (vI (n:Nat))),(6, .rw 18),(7, .d (.v (.int .u32 (c:Nat)))),(8, .d (vI (i:Nat))),(9, .d (dU ((dg a).getD i 0))),(10, .d (dU ((dg b).getD i 0)))]) (fun _=>[(18,some (.b 227 1 (W.map dU) true))]) (fun _=>True) [0,1,5,6,7,8,9,10] [18] rfl ?_ (fun _=>J) (fun _ hm=>?_)
   .
    refine gx J<|br J J J (fun hc35=>?_) (fun hc35=>?_)
    .
     refine ix _ J (fD) J<|at_ () trivial
    .
     refine ah 10 (.d (dU ((dg b).getD i 0))) J (by rw[r4];rfl)<|at_ () trivial
   .
    refine cl J (Xu we we we) J<|sb _ ((W.set i (((dg a).getD i 0+(dg b).getD i 0+c)%4294967296)).map dU) J (fD) J oke J<|at_ ⟨W.set i (((dg a).getD i 0+(dg b).getD i 0+c)%4294967296),((dg a).getD i 0+(dg b).getD i 0+c)/4294967296,i+1⟩ (by dsimp only;exact⟨⟨by simpa using h1,h2.set _ we,we,we,N9 we h5⟩,we⟩)
 .
  obtain rfl:i=n:=by omega
  refine sb _ ((W.set i c).map dU) J (fD) J oke J<|fz 18 J J<|cl J (tq (ds:=W.set i c) omo) J<|rz J (mi (h2.set _ we) (ON hn h1 h5))
def QG{A B W:List Nat}{i c d c2:Nat}(hA:bB A)(hB:bB B)(hi:i<W.length)(hc:c<=1)(h:dv (W.take i)+dv (B.take i)=dv (A.take i)+4294967296^i*c)
  (hd:d=if A.getD i 0<B.getD i 0+c then A.getD i 0+4294967296-(B.getD i 0+c) else A.getD i 0-(B.getD i 0+c))(hc2:c2=if A.getD i 0<B.getD i 0+c then 1 else 0):
  dv ((W.set i d).take (i+1))+dv (B.take (i+1))=dv (A.take (i+1))+4294967296^(i+1)*c2:=by
 have h1:=hA.get i;have h2:=hB.get i;rw[xE hi,pE A,pE B,iQ];split at hd
 .rename_i q
  rw[if_pos q] at hc2;subst hc2 hd;rw[kX (B.getD i 0) c];exact W9 h we we
 .rename_i q
  rw[if_neg q] at hc2;subst hc2 hd;rw[kX (B.getD i 0) c];exact aHN h we
def La{a b c:Nat}{W:List Nat}(hw:bB W)(hl:W.length=(dg a).length)(hb:b<=a)(h:dv (W.take (dg a).length)+dv ((dg b).take (dg a).length)=dv ((dg a).take (dg a).length)+4294967296^(dg a).length*c):dv W=a-b:=by
 have hlb:(dg b).length<=(dg a).length:=by
  rcases jX (dg a).length (dg b).length with q|q
  .have:=yu (ij a) (i8 b).2.2 q
   rw[dG,dG] at this;omega
  .exact q
 rw[lF,lF hlb,lF (bV _),dG,dG] at h;have h2:=oH hw;rw[hl] at h2;rcases fW c with q|q
 .subst q;omega
 .have:4294967296^(dg a).length*1<=4294967296^(dg a).length*c:=fV _ q
  omega
theorem omP{p:Prop}(h:p:=by rw[hla];rfl):p:=h
def HT{a b ia:Nat}[ha:BN a ia](hb:b<=a)(hi:ia<=1000000000:=by decide):PF GB prog 183 [dN a,dN b] (dN (a-b)):=by
 have hla:=cd (dg a);have hlb:=cd (dg b);have hba:=wC ha.h hi;refine fn (fu:=⟨9⟩) func183 J J ntmps183 J J (fun C=>?_);refine ah 10 (.d (vI ((dg a).length:Nat))) J omP<|gx J<|mk (fu:=⟨13⟩) ((List.replicate (dg a).length 0).map dU) J J omD J<|ah 13 (.d (vI ((dg a).length:Nat))) J omP<|gx J<|lp (X:=List Nat×Nat×Nat) (fun⟨W,c,i⟩=>[(0, .d (dN a)),(1, .d (dN b)),(5, .rw 11),(6, .d (.v (.int .u32 (c:Nat)))),(13, .d (vI ((dg a).length:Nat))),(14, .d (vI (i:Nat)))]) (fun⟨W,c,i⟩=>[(11,some (.b 227 1 (W.map dU) true))]) (fun⟨W,c,i⟩=>W.length=(dg a).length/\bB W/\c<=1/\i<=(dg a).length/\dv (W.take i)+dv ((dg b).take i)=dv ((dg a).take i)+4294967296^i*c) (fun⟨W,c,i⟩=>(dg a).length-i) ⟨List.replicate (dg a).length 0,0,0⟩ J ⟨omc, .replicate _,we,we,by simp[dv]⟩ (fun _=>J) (fun⟨W,c,i⟩ hk=>?_);dsimp only at hk⊢;obtain⟨h1,h2,h3,h4,h5⟩:=hk;have hlw:=cd W;have hda:=fj a i;have hdb:=fj b i;refine br (fu1:=⟨16⟩) J J J (fun hc15=>?_) (fun hc15=>?_)
 .
  refine mg (X:=Unit) (fun _=>[(0, .d (dN a)),(1, .d (dN b)),(5, .rw 11),(6, .d (.v (.int .u32 (c:Nat)))),(13, .d (vI ((dg a).length:Nat))),(14, .d (vI (i:Nat))),(7, .d (vI (i:Nat))),(8, .d (dU ((dg b).getD i 0)))]) (fun _=>[(11,some (.b 227 1 (W.map dU) true))]) (fun _=>True) [0,1,5,6,13,14,7,8] [11] rfl ?_ (fun _=>J) (fun _ hm=>?_)
  .
   refine gx J<|br J J J (fun hc20=>?_) (fun hc20=>?_)
   .
    refine ix _ J (fD) J<|at_ () trivial
   .
    refine ah 8 (.d (dU ((dg b).getD i 0))) J (by rw[r4];rfl)<|at_ () trivial
  .
   refine ix _ J (fD) J<|cl J (VC we we we) J<|sb _ ((W.set i (if(dg a).getD i 0<(dg b).getD i 0+c then(dg a).getD i 0+4294967296-((dg b).getD i 0+c) else(dg a).getD i 0-((dg b).getD i 0+c))).map dU) J (fD) J oke J<|at_ ⟨W.set i (if(dg a).getD i 0<(dg b).getD i 0+c then(dg a).getD i 0+4294967296-((dg b).getD i 0+c) else(dg a).getD i 0-((dg b).getD i 0+c)),(if(dg a).getD i 0<(dg b).getD i 0+c then 1 else 0),i+1⟩ (by dsimp only;exact⟨⟨by simpa using h1,h2.set _ (by split<;>omega),by split<;>omega,we,QG (ij a) (ij b) we h3 h5 J J⟩,we⟩)
 .
  obtain rfl:i=(dg a).length:=by omega
  refine fz 11 J J<|cl J (tq (ds:=W)) J<|rz J (mi h2 (La h2 h1 hb h5))
def rh(n:Nat)(a b k:Nat)(ha:a<2^k)(h:a+b*2^k<2^n):(BitVec.ofInt n (a:Int) ||| BitVec.ofInt n ((b*2^k:Nat):Int)).toNat=a+b*2^k:=by
 rw[BitVec.toNat_or,BitVec.ofInt_natCast,BitVec.ofInt_natCast,BitVec.toNat_ofNat,BitVec.toNat_ofNat,dZ we,dZ we];rw[<-Nat.shiftLeft_eq,Nat.or_comm,<-Nat.shiftLeft_add_eq_or_of_lt ha,Nat.shiftLeft_eq];omega
def CS{x y:Nat}(hx:x<4294967296)(hy:y<4294967296):x*y<=18446744065119617025:=by
 have:=iK (by omega:x<=4294967295) (by omega:y<=4294967295);exact this
def AP(x y:Nat):(0:Int)<=(x:Int)*(y:Int):=by rw[<-iY];omega
def Bh{x y:Nat}(hx:x<4294967296)(hy:y<4294967296):(x:Int)*(y:Int)<=18446744073709551615:=by
 have:=CS hx hy;rw[<-iY];omega
def aHg{ds:List Nat}(h:ds.length=1):dv ds=ds.getD 0 0:=by
 match ds,h with
 |[d],_=>simp[dv]
def xm{a:Nat}(h:(dg a).length=1:=by omega):(dg a).getD 0 0=a:=by rw[<-aHg h,dG]
def Vd{ds:List Nat}{j m:Nat}(h:j<m):(ds.take m).getD j 0=ds.getD j 0:=by
 rw[aJ,aJ,pV,if_pos h]
def Rt{W:List Nat}{j m d:Nat}(hj:j<m)(hm:m<=W.length):dv ((W.set j d).take m)+4294967296^j*W.getD j 0=dv (W.take m)+4294967296^j*d:=by
 rw[List.take_set,<-Vd (ds:=W) hj];exact wN _ _ _ (by rw[cR];omega)
def Lk{W:List Nat}{P X Y m i k c y t S:Nat}(hk:i+k<m)(hm:m<=W.length)(h:dv (W.take m)+4294967296^(i+k)*c=P+X*(4294967296^i*S))(ht:t=Y+W.getD (i+k) 0+c)(hY:Y=X*y):
  dv ((W.set (i+k) (t%4294967296)).take m)+4294967296^(i+(k+1))*(t/4294967296)=P+X*(4294967296^i*(S+4294967296^k*y)):=by
 have h1:=Rt (W:=W) (d:=t%4294967296) hk hm;rw[ht,show Y+W.getD (i+k) 0+c=c+Y+W.getD (i+k) 0 by omega] at h1⊢;have h2:=aBv h1 h;rw[<-kM,iQ,h2,hY,fN];simp only[fY,cM,oQ,cK,kM]
def OU{a b:Nat}{W:List Nat}{i c lb:Nat}(hlb:lb=(dg b).length)(hl:i+lb<W.length)(h:dv (W.take (i+lb))+4294967296^(i+lb)*c=dv ((dg a).take i)*b+(dg a).getD i 0*(4294967296^i*dv ((dg b).take lb))):
  dv ((W.set (i+lb) c).take (i+1+lb))=dv ((dg a).take (i+1))*b:=by
 rw[show i+1+lb=i+lb+1 by omega,xE hl,h,pE,lF (ds:=dg b),dG b,dW];simp only[cM,oQ,cK]
def CE(n j:Nat):(List.replicate n 0).getD j 0=0:=by
 rw[aJ,List.getElem?_replicate];split<;>rfl
def Bv{k:Nat}(h:k<=1000000000):IntKind.i64.wrap ((k:Int).tdiv 32)=((k/32:Nat):Int):=by
 rw[show(k:Int).tdiv 32=((k/32:Nat):Int) from J,HY];omega
def TN(k:Nat):(k:Int).tmod 32=((k%32:Nat):Int):=rfl
theorem omj{p:Prop}(h:p:=by show FX.d (.v (.int _ _))= .d (.v (.int _ _));congr 3):p:=h
theorem omT{p:Prop}(h:p:=by congr 3;omega):p:=h
theorem okg{p:Prop}(h:p:=by dsimp only;exact⟨⟨by simpa using g1,g2.set _ we,we,we,by rw[pE];exact Lk we we g5 ht hp⟩,we⟩):p:=h
theorem oko{p:Prop}(h:p:=by have:=h4;rw[lF,lF,dG] at this;exact this):p:=h
theorem okF{p:Prop}(h:p:=by dsimp only;exact⟨⟨by simpa using g1,g2.set _ g3,we,OU J we g5⟩,we⟩):p:=h
def tv{a b ia ib:Nat}[ha:BN a ia][hb:BN b ib](hi:ia<=1000000000:=by decide)(hj:ib<=1000000000:=by decide):PF GB prog 114 [dN a,dN b] (dN (a*b)):=by
 have hla:=cd (dg a);have hlb:=cd (dg b);have hba:=wC ha.h hi;have hbb:=wC hb.h hj;refine fn (fu:=⟨6⟩) func114 J J ntmps114 J J (fun C=>?_);refine mg (fu:=⟨4⟩) (X:=Unit) (fun _=>[(0, .d (dN a)),(1, .d (dN b))]) (fun _=>[]) (fun _=>True) [0,1] [] rfl ?_ (fun _=>J) (fun _ hm=>?_)
 .
  refine gx J<|cs 15 J J J (fun hg15=>?_) (fun hg15=>?_)
  .
   refine br J J J (fun hc19=>?_) (fun hc19=>?_)
   .
    have hd0:=fj a 0;have hd1:=fj b 0;refine ix _ J (dm (k:=0) J we) J<|ix (hv:=by simp only[ae];exact⟨we,⟨(AP _ _),(Bh (fj _ _) (fj _ _))⟩⟩) _ J (dm (k:=0) J we) J<|cl J (uc (u:=(dg a).getD 0 0*(dg b).getD 0 0) (by have:=CS (fj a 0) (fj b 0);omega)) J<|rz J (by rw[xm,xm];rfl)
   .
    exact at_ () trivial
  .
   exact at_ () trivial
 .
  refine ah 31 (.d (vI ((dg a).length:Nat))) J omP<|gx (fu:=⟨2⟩) J<|ah 33 (.d (vI ((dg b).length:Nat))) J (by rw[hlb];rfl)<|gx J<|mk (fu:=⟨8⟩) ((List.replicate ((dg a).length+(dg b).length) 0).map dU) J J omD J<|ah 37 (.d (vI ((dg a).length:Nat))) J omP<|gx J<|lp (X:=List Nat×Nat) (fun⟨W,i⟩=>[(0, .d (dN a)),(1, .d (dN b)),(5, .rw 35),(36, .d (dN a)),(37, .d (vI ((dg a).length:Nat))),(38, .d (vI (i:Nat)))]) (fun⟨W,i⟩=>[(35,some (.b 227 1 (W.map dU) true))]) (fun⟨W,i⟩=>W.length=(dg a).length+(dg b).length/\bB W/\i<=(dg a).length/\dv (W.take (i+(dg b).length))=dv ((dg a).take i)*b) (fun⟨W,i⟩=>(dg a).length-i) ⟨List.replicate ((dg a).length+(dg b).length) 0,0⟩ J ⟨omc, .replicate _,we,by rw[qU,z8];simp[dv]⟩ (fun _=>J) (fun⟨W,i⟩ hk=>?_);dsimp only at hk⊢;obtain⟨h1,h2,h3,h4⟩:=hk;refine br J J J (fun hc39=>?_) (fun hc39=>?_)
  .
   refine ix (fu:=⟨15⟩) _ J (fD) J<|ah 44 (.d (vI ((dg b).length:Nat))) J (by rw[hlb];rfl)<|gx J<|lp (X:=List Nat×Nat×Nat) (fun⟨W2,c,k⟩=>[(0, .d (dN a)),(1, .d (dN b)),(5, .rw 35),(6, .d (vI (i:Nat))),(7, .d (dU ((dg a).getD i 0))),(8, .d (.v (.int .u64 (c:Nat)))),(36, .d (dN a)),(37, .d (vI ((dg a).length:Nat))),(38, .d (vI (i:Nat))),(43, .d (dN b)),(44, .d (vI ((dg b).length:Nat))),(45, .d (vI (k:Nat)))]) (fun⟨W2,c,k⟩=>[(35,some (.b 227 1 (W2.map dU) true))]) (fun⟨W2,c,k⟩=>W2.length=(dg a).length+(dg b).length/\bB W2/\c<4294967296/\k<=(dg b).length/\dv (W2.take (i+(dg b).length))+4294967296^(i+k)*c=dv ((dg a).take i)*b+(dg a).getD i 0*(4294967296^i*dv ((dg b).take k))) (fun⟨W2,c,k⟩=>(dg b).length-k) ⟨W,0,0⟩ J ⟨h1,h2,we,we,by rw[h4];simp[dv]⟩ (fun _=>J) (fun⟨W2,c,k⟩ hk=>?_);dsimp only at hk⊢;obtain⟨g1,g2,g3,g4,g5⟩:=hk;have hlw:=cd W2;have hw:=g2.get (i+k);have hda:=fj a i;have hdb:=fj b k;refine br (fu2:=⟨10⟩) J J J (fun hc46=>?_) (fun hc46=>?_)
   .
    refine ix (fu:=⟨12⟩) (hv:=by simp only[ae];exact⟨⟨we,we⟩,⟨(AP _ _),(Bh (fj _ _) (fj _ _))⟩⟩) _ J (fD) J<|?_;obtain⟨p,hp⟩: ∃p,p=(dg a).getD i 0*(dg b).getD k 0:=⟨_,rfl⟩;have hp1:p<=18446744065119617025:=hp▸CS hda hdb;refine ah 54 (.d (.v (.int .u64 (p:Nat)))) J (by rw[hp,iY])<|gx J<|lb (fu:=⟨4⟩) _ J (dm (k:=i+k)) J<|?_;obtain⟨t,ht⟩: ∃t,t=p+W2.getD (i+k) 0+c:=⟨_,rfl⟩;refine ah 64 (.d (.v (.int .u64 (t:Nat)))) J omT<|gx (fu:=⟨11⟩) J<|ah 70 (.d (dU (t%4294967296))) J omj<|gx J<|sb (fu:=⟨5⟩) (hv:=by simp only[ae];exact oma) _ ((W2.set (i+k) (t%4294967296)).map dU) J (dm (k:=i+k)) J (by(rw[show((i:Int)+k).toNat=i+k by omega,<-ku])<;>rfl) J<|ah 73 (.d (.v (.int .u64 (t/4294967296:Nat)))) J okn<|gx J<|at_ ⟨W2.set (i+k) (t%4294967296),t/4294967296,k+1⟩ okg
   .
    obtain rfl:k=(dg b).length:=by omega
    refine ah 78 (.d (vI ((dg b).length:Nat))) J (by rw[hlb];rfl)<|gx (fu:=⟨3⟩) J<|ah 81 (.d (dU c)) J (omi we)<|gx J<|sb _ ((W2.set (i+(dg b).length) c).map dU) J (dm (k:=i+(dg b).length)) J (by(rw[show((i:Int)+((dg b).length:Nat)).toNat=i+(dg b).length by omega,<-ku])<;>rfl) J<|at_ ⟨W2.set (i+(dg b).length) c,i+1⟩ okF
  .
   obtain rfl:i=(dg a).length:=by omega
   refine fz 35 J J<|cl J (tq (ds:=W)) J<|rz J (mi h2 oko)
def KT(x s:Nat):x*2^s=x*2^s%4294967296+4294967296*(x*2^s/4294967296):=by omega
def Ll{x s:Nat}(hx:x<4294967296)(hs:s<32):x*2^s/4294967296<2^s:=by
 rw[kQ oma,cK (2^s)];exact nV hx (bV _) (gL oma)
def JU{s:Nat}(hs:s<32):2^s*2^(32-s)=4294967296:=by rw[<-fN,show s+(32-s)=32 by omega]
def aFZ(x s:Nat)(hs:s<32):x*2^s%4294967296=x%2^(32-s)*2^s:=by
 rw[<-JU hs,cK (2^s),Nat.mul_mod_mul_right]
def K8{x s:Nat}(hx:x<4294967296)(hs:s<32):x*2^s<18446744073709551616:=by
 have h1:2^s<=2^31:=cY oma we;have:=nV hx h1 oma;omega
def R4{w x s:Nat}(hw:w<2^s)(hs:s<32):(BitVec.ofInt 32 (w:Int) ||| BitVec.ofInt 32 ((x*2^s%4294967296:Nat):Int)).toNat=w+x*2^s%4294967296:=by
 rw[aFZ x s hs];refine rh 32 _ _ _ hw ?_;have h1:x%2^(32-s)+1<=2^(32-s):=dQ _ (gL oma);have h2:=bR (2^s) h1;rw[cK (2^(32-s)),JU hs,dW,nL] at h2;show _<4294967296;omega
def ZA{h:Nat}(hh:h<4294967296):(BitVec.ofInt 32 ((0:Nat):Int) ||| BitVec.ofInt 32 (h:Int)).toNat=h:=by
 have:=rh 32 0 h 0 oma (by simpa using hh);simpa using this
def Ji(k:Nat):2^k=4294967296^(k/32)*2^(k%32):=by
 rw[show(4294967296:Nat)=2^32 from J,<-tY,<-fN,qM]
def getD_set_ne{W:List Nat}{i j d:Nat}(h:i≠j:=by omega):(W.set i d).getD j 0=W.getD j 0:=by
 rw[aJ,aJ,List.getElem?_set_ne h]
def Cb{W:List Nat}{i d:Nat}(h:i<W.length):(W.set i d).getD i 0=d:=by
 rw[aJ,pY h];rfl
def ML{A W:List Nat}{k q s i x:Nat}(hq:q=k/32)(hs:s=k%32)(hl:q+i+1<W.length)(hx:x=A.getD i 0)
  (h:dv (W.take (q+i+1))=dv (A.take i)*2^k):
  dv (((W.set (q+i) (W.getD (q+i) 0+x*2^s%4294967296)).set (q+i+1) (x*2^s/4294967296)).take (q+(i+1)+1))=dv (A.take (i+1))*2^k:=by
 have e1:=Rt (W:=W) (j:=q+i) (m:=q+i+1) (d:=W.getD (q+i) 0+x*2^s%4294967296) we we;rw[show q+(i+1)+1=q+i+1+1 by omega,xE ozb,pE A,<-hx];have e2:dv ((W.set (q+i) (W.getD (q+i) 0+x*2^s%4294967296)).take (q+i+1))=dv (A.take i)*2^k+4294967296^(q+i)*(x*2^s%4294967296):=by
  rw[fY,h] at e1;omega
 rw[e2,iQ,cM,kM,<-fY,<-KT,dW,Ji k,<-hq,<-hs,fN];simp only[cM,oQ,cK]
theorem omx{p:Prop}(h:p:=by show FX.d (.v (.int _ _))= .d (.v (.int _ _));rw[Bv hk]):p:=h
theorem ozd{p:Prop}(h:p:=by show FX.d (.v (.int _ _))= .d (.v (.int _ _));rw[TN]):p:=h
def DX{a k ia:Nat}[ha:BN a ia](hk:k<=1000000000)(hi:ia<=1000000000:=by decide):PF GB prog 223 [dN a,vI (k:Nat)] (dN (a*2^k)):=by
 have hla:=cd (dg a);have hba:=wC ha.h hi;refine fn (fu:=⟨9⟩) func223 J J ntmps223 J J (fun C=>?_);refine ah 11 (.d (vI (k/32:Nat))) J omx<|gx (fu:=⟨2⟩) J<|ah 13 (.d (vI ((dg a).length:Nat))) J omP<|gx (fu:=⟨2⟩) J<|ah 15 (.d (vI (k/32+(dg a).length+1:Nat))) J omj<|gx J<|mk (fu:=⟨7⟩) (hv:=by simp only[ae];exact oma) ((List.replicate (k/32+(dg a).length+1) 0).map dU) J J omD J<|ah 18 (.d (vI (k%32:Nat))) J ozd<|gx (fu:=⟨9⟩) J<|ah 21 (.d (vI ((dg a).length:Nat))) J omP<|gx J<|lp (X:=List Nat×Nat) (fun⟨W,i⟩=>[(0, .d (dN a)),(1, .d (vI (k:Nat))),(5, .rw 16),(6, .d (.v (.int .u64 (k%32:Nat)))),(20, .d (dN a)),(21, .d (vI ((dg a).length:Nat))),(22, .d (vI (i:Nat)))]) (fun⟨W,i⟩=>[(16,some (.b 227 1 (W.map dU) true))]) (fun⟨W,i⟩=>W.length=k/32+(dg a).length+1/\bB W/\i<=(dg a).length/\dv (W.take (k/32+i+1))=dv ((dg a).take i)*2^k/\W.getD (k/32+i) 0<2^(k%32)/\ ∀j,k/32+i<j->W.getD j 0=0) (fun⟨W,i⟩=>(dg a).length-i) ⟨List.replicate (k/32+(dg a).length+1) 0,0⟩ J ⟨omc, .replicate _,we,by rw[qU,z8];simp[dv],by rw[CE];exact gL oma,fun j _=>CE _ _⟩ (fun _=>J) (fun⟨W,i⟩ hk=>?_);dsimp only at hk⊢;obtain⟨h1,h2,h3,h4,h5,h6⟩:=hk;have hlw:=cd W;have hda:=fj a i;have hsk:k%32<32:=dQ _ oma;have hpp:2^(k%32)<=2^31:=cY oma we;refine br J J J (fun hc23=>?_) (fun hc23=>?_)
 .
  refine ix (fu:=⟨11⟩) (hv:=by simp only[ae];exact⟨we,we⟩) _ J (fD) J<|?_;have hhi:=Ll hda hsk;have hfit0:=K8 hda hsk;have hor:=R4 (x:=(dg a).getD i 0) h5 hsk;have hfit:W.getD (k/32+i) 0+(dg a).getD i 0*2^(k%32)%4294967296<4294967296:=by rw[<-hor];exact BitVec.isLt _
  have hlp:=KT ((dg a).getD i 0) (k%32);refine ah 30 (.d (.v (.int .u64 ((dg a).getD i 0*2^(k%32):Nat)))) J (by show FX.d (.v (.int _ _))= .d (.v (.int _ _));rw[rI _ (k%32) we hfit0]) ?_;obtain⟨t,ht⟩: ∃t,t=(dg a).getD i 0*2^(k%32):=⟨_,rfl⟩;simp only[<-ht] at hhi hfit0 hor hfit hlp;rw[<-ht];refine gx (fu:=⟨8⟩) J<|ah 33 (.d (vI (k/32:Nat))) J omx<|gx J<|lb (fu:=⟨2⟩) _ J (dm (k:=k/32+i)) J<|ah 39 (.d (dU (t%4294967296))) J omj<|gx (fu:=⟨1⟩) J<|ah 40 _ J (congrArg (fun z:Nat=>FX.d (.v (.int .u32 (z:Int)))) hor)<|gx J<|sb (fu:=⟨6⟩) _ ((W.set (k/32+i) (W.getD (k/32+i) 0+t%4294967296)).map dU) J (dm (k:=k/32+i)) J (by(rw[show(((k/32:Nat):Int)+i).toNat=k/32+i by omega];simp only[kJ];rfl)<;>rfl) J<|ah 44 (.d (vI (k/32:Nat))) J omx<|gx J<|lb (fu:=⟨0⟩) _ J (dm (k:=k/32+i+1) we ozb) J<|ah 49 (.d (dU 0)) J (by rw[getD_set_ne,h6 _ we])<|gx (fu:=⟨2⟩) (hv:=by simp only[ae];exact oma) J<|ah 51 (.d (.v (.int .u64 (t/4294967296:Nat)))) J okn<|gx (fu:=⟨1⟩) J<|ah 52 (.d (dU (t/4294967296))) J (omi we)<|gx (fu:=⟨1⟩) J<|ah 53 _ J (congrArg (fun z:Nat=>FX.d (.v (.int .u32 (z:Int)))) (ZA we))<|gx J<|sb _ (((W.set (k/32+i) (W.getD (k/32+i) 0+t%4294967296)).set (k/32+i+1) (t/4294967296)).map dU) J (dm (k:=k/32+i+1) we ozb) J (by(rw[show(((k/32:Nat):Int)+i+1).toNat=k/32+i+1 by omega];simp only[kJ];rfl)<;>rfl) J<|at_ ⟨(W.set (k/32+i) (W.getD (k/32+i) 0+t%4294967296)).set (k/32+i+1) (t/4294967296),i+1⟩ (by dsimp only;exact⟨⟨by simpa using h1,(h2.set _ hfit).set _ we,we,by have q:=ML (x:=(dg a).getD i 0) J J we J h4;rw[<-ht] at q;exact q,by rw[show k/32+(i+1)=k/32+i+1 by omega,Cb omo];exact hhi,fun j hj=>by rw[getD_set_ne,getD_set_ne];exact h6 j we⟩,we⟩)
 .
  obtain rfl:i=(dg a).length:=by omega
  refine fz 16 J J<|cl J (tq (ds:=W)) J<|rz J (mi h2 oko)
def aum{a k:Nat}(h:(dg a).length<=k/32):a/2^k=0:=by
 refine lT ?_;have h1:=oH (ij a);rw[dG] at h1;have h2:4294967296^(dg a).length<=4294967296^(k/32):=cY oma h;have h3:4294967296^(k/32)*1<=4294967296^(k/32)*2^(k%32):=fV _ (gL oma);rw[Ji k];omega
def HJ{ds:List Nat}(h:bB ds)(q:Nat):dv (ds.drop q)=dv ds/4294967296^q:=by
 rcases jX ds.length q with hq|hq
 .rw[kU we]
  have h1:=oH h;have h2:4294967296^ds.length<=4294967296^q:=cY oma we;rw[lT we];rfl
 .have e:=AY ds q hq
  have h1:=oH (h.take q);rw[cR,iU hq] at h1;rw[e,qX _ _ (gL oma),lT h1,fX]
def EM{ds:List Nat}(h:bB ds)(i:Nat):dv ds/4294967296^i=ds.getD i 0+4294967296*ds.getD (i+1) 0+18446744073709551616*(dv ds/4294967296^(i+2)):=by
 have e0:=HJ h i;have e2:=HJ h (i+2);rw[<-e0,<-e2];have g0:ds.getD i 0=(ds.drop i).getD 0 0:=by rw[aJ,aJ,mQ];rfl
 have g1:ds.getD (i+1) 0=(ds.drop i).getD 1 0:=by rw[aJ,aJ,mQ]
 have g2:ds.drop (i+2)=(ds.drop i).drop 2:=by rw[tW]
 rw[g0,g1,g2]
 match ds.drop i with
 |[]=>rfl
 |[u]=>simp[dv]
 |u::v::t=>simp only[dv,mS,jJ,sN,gJ];omega
def NG{D s i u v w Z:Nat}(hs:s<32)(hZ:D/4294967296^i=u+4294967296*v+18446744073709551616*Z)(hw:w=(u+v*4294967296)/2^s%4294967296):(D/2^s)%4294967296^(i+1)=(D/2^s)%4294967296^i+4294967296^i*w:=by
 rw[iQ,Nat.mod_mul];congr 2;rw[rU,cK (2^s),<-rU,hZ,hw];have h1:18446744073709551616=2^s*(2^(32-s)*4294967296):=by rw[<-cM,JU hs]
 rw[h1,cM (2^s),qX _ _ (gL oma),cK v];rw[cK (2^(32-s)),cM,qV]
def auJ{a k:Nat}{W:List Nat}{q s:Nat}(hq:q=k/32)(hs:s=k%32)(hl:W.length=(dg a).length-q)(h:dv (W.take ((dg a).length-q))=(dv ((dg a).drop q)/2^s)%4294967296^((dg a).length-q)):dv W=a/2^k:=by
 rw[lF] at h;have h1:=oH ((ij a).drop q);rw[gN] at h1;have h2:=mU (dv ((dg a).drop q)) (2^s);rw[h,dZ we,HJ (ij a),dG,Ji k,<-hq,<-hs,rU]
theorem omq{p:Prop}(h:p:=by show FX.d (.v (.int _ _))= .d (.v (.int _ _));rw[rI _ 32 oma (by show _*4294967296<_;omega) J]):p:=h
theorem omt{p:Prop}(h:p:=by show _+_*4294967296<18446744073709551616;omega):p:=h
def aFv{a k ia:Nat}[ha:BN a ia](hk:k<=1000000000)(hi:ia<=1000000000:=by decide):PF GB prog 224 [dN a,vI (k:Nat)] (dN (a/2^k)):=by
 have hla:=cd (dg a);have hba:=wC ha.h hi;refine fn (fu:=⟨10⟩) func224 J J ntmps224 J J (fun C=>?_);refine ah 12 (.d (vI (k/32:Nat))) J omx<|gx (fu:=⟨2⟩) J<|ah 14 (.d (vI ((dg a).length:Nat))) J omP<|gx J<|br (fu2:=⟨6⟩) (v2:=fun _=>by simp only[ae];exact oma) J J J (fun hc15=>?_) (fun hc15=>?_)
 .
  exact rz J (by rw[aum we,me];rfl)
 .
  refine ah 17 (.d (vI (k%32:Nat))) J ozd<|gx (fu:=⟨9⟩) J<|ah 21 (.d (vI (k/32:Nat))) J omx<|gx J<|mc (fu:=⟨0⟩) (k/32) (dg a).length _ J J (by rw[hla]) J (sr _) we we J<|?_;obtain⟨I,hI⟩: ∃I,I=(dg a).drop (k/32):=⟨_,rfl⟩;have hIl:I.length=(dg a).length-k/32:=by rw[hI,gN]
  have hIm:=cd I;have hIo:bB I:=hI▸(ij a).drop _;refine ah 22 (.d (fm I)) J (by show FX.d (.sl _)= .d (.sl _);rw[hI,<-hla,dV,jQ])<|gx (fu:=⟨7⟩) J<|ah 24 (.d (vI (I.length:Nat))) J (by rw[hIm];rfl)<|gx J<|mk (fu:=⟨8⟩) ((List.replicate I.length 0).map dU) J J omD J<|ah 27 (.d (vI (I.length:Nat))) J (by rw[hIm];rfl)<|gx J<|lp (X:=List Nat×Nat) (fun⟨W,i⟩=>[(0, .d (dN a)),(5, .d (.v (.int .u64 (k%32:Nat)))),(6, .d (fm I)),(7, .rw 25),(26, .d (fm I)),(27, .d (vI (I.length:Nat))),(28, .d (vI (i:Nat)))]) (fun⟨W,i⟩=>[(25,some (.b 227 1 (W.map dU) true))]) (fun⟨W,i⟩=>W.length=I.length/\bB W/\i<=I.length/\dv (W.take i)=(dv I/2^(k%32))%4294967296^i) (fun⟨W,i⟩=>I.length-i) ⟨List.replicate I.length 0,0⟩ J ⟨omc, .replicate _,we,by simp[dv,Nat.mod_one]⟩ (fun _=>J) (fun⟨W,i⟩ hk=>?_);dsimp only at hk⊢;obtain⟨h1,h2,h3,h4⟩:=hk;have hlw:=cd W;have hda:=hIo.get i;have hdb:=hIo.get (i+1);have hsk:k%32<32:=dQ _ oma;refine br J J J (fun hc29=>?_) (fun hc29=>?_)
  .
   refine ix (fu:=⟨13⟩) _ J (fD) J<|mg (fu:=⟨6⟩) (hv:=fun _ _=>by simp only[ae];exact we) (X:=Unit) (fun _=>[(0, .d (dN a)),(5, .d (.v (.int .u64 (k%32:Nat)))),(6, .d (fm I)),(7, .rw 25),(26, .d (fm I)),(27, .d (vI (I.length:Nat))),(28, .d (vI (i:Nat))),(8, .d (vI (i:Nat))),(10, .d (.v (.int .u64 (I.getD i 0+I.getD (i+1) 0*4294967296:Nat))))]) (fun _=>[(25,some (.b 227 1 (W.map dU) true))]) (fun _=>True) [0,5,6,7,26,27,28,8,10] [25] rfl ?_ (fun _=>J) (fun _ hm=>?_)
   .
    refine gx (fu:=⟨6⟩) J<|ah 38 (.d (vI (I.length:Nat))) J (by rw[hIm];rfl)<|gx J<|br J J J (fun hc39=>?_) (fun hc39=>?_)
    .
     refine ix (fu:=⟨3⟩) (hv:=by simp only[ae];exact⟨we,oma⟩) _ J (dm (k:=i+1)) J<|ah 47 (.d (.v (.int .u64 (I.getD (i+1) 0*4294967296:Nat)))) J omq<|gx (fu:=⟨1⟩) J<|ah 48 _ J (congrArg (fun z:Nat=>FX.d (.v (.int .u64 (z:Int)))) (rh 64 (I.getD i 0) (I.getD (i+1) 0) 32 hda omt))<|gx J<|at_ () trivial
    .
     refine ah 10 (.d (.v (.int .u64 (I.getD i 0+I.getD (i+1) 0*4294967296:Nat)))) J (by rw[r4 (by omega:I.length<=i+1),kN,gW])<|at_ () trivial
   .
    refine ah 53 (.d (.v (.int .u64 ((I.getD i 0+I.getD (i+1) 0*4294967296)/2^(k%32):Nat)))) J (by show FX.d (.v (.int _ _))= .d (.v (.int _ _));rw[SL _ (k%32)])<|gx (fu:=⟨1⟩) J<|?_;obtain⟨w,hw⟩: ∃w,w=(I.getD i 0+I.getD (i+1) 0*4294967296)/2^(k%32)%4294967296:=⟨_,rfl⟩;have hw1:w<4294967296:=hw▸dQ _ oma;refine ah 54 (.d (dU w)) J (by show FX.d (.v (.int _ _))= .d (.v (.int _ _));rw[hw];congr 3)<|gx J<|sb _ ((W.set i w).map dU) J (fD) J (by(rw[<-ku];rfl)<;>rfl) J<|at_ ⟨W.set i w,i+1⟩ (by dsimp only;exact⟨⟨by simpa using h1,h2.set _ we,we,by rw[xE,h4];exact(NG hsk (EM hIo i) hw).symm⟩,we⟩)
  .
   refine fz 25 rfl rfl<|cl rfl (tq (ds:=W)) rfl<|rz rfl (mi h2 (by obtain rfl:i=I.length:=we;rw[hIl] at h1 h4;rw[hI] at h4;exact auJ rfl rfl h1 h4))
def AJ{a k:Nat}(h:a<4294967296^k):(dg a).length<=k:=by
 rcases jX k (dg a).length with q|q
 .have h1:=xl (i8 a).2.2 (by intro e;rw[e] at q;simp at q)
  rw[dG] at h1;have h2:4294967296^k<=4294967296^((dg a).length-1):=cY oma we;omega
 .exact q
def Zs{a:Nat}(h:(dg a).length=2):(dg a).getD 0 0+(dg a).getD 1 0*4294967296=a:=by
 have e:=dG a;revert e
 match dg a,h with
 |[x,y],_=>intro e;simp[dv] at e⊢;omega
def Ce(a:Nat):DV:= .tp [.v (.int .u64 ((if a<18446744073709551616 then a else 0:Nat):Int)),vB (decide (a<18446744073709551616))]
def TZ{a:Nat}(h:a<18446744073709551616:=by omega):Ce a= .tp [.v (.int .u64 (a:Int)),vB true]:=by unfold Ce;rw[if_pos h,decide_eq_true h]
def aAI{a:Nat}(h: ¬a<18446744073709551616):Ce a= .tp [.v (.int .u64 0),vB false]:=by unfold Ce;rw[if_neg h,decide_eq_false h];rfl
def tI(a:Nat):a<4294967296^(dg a).length:=by have:=oH (ij a);rwa [dG] at this
theorem omA{p:Prop}(h:p:=by show _*4294967296<_;omega):p:=h
def DA{a ia:Nat}[ha:BN a ia](hi:ia<=1000000000:=by decide):PF GB prog 198 [dN a] (Ce a):=by
 have hla:=cd (dg a);have hba:=wC ha.h hi;have hlt:=tI a;have hd00:=fj a 0;refine fn (fu:=⟨11⟩) func198 J J ntmps198 J J (fun C=>?_);refine ah 5 (.d (vI ((dg a).length:Nat))) J omP<|gx J<|br J J J (fun hc6=>?_) (fun hc6=>?_)
 .
  exact rz rfl (by rw[show(dg a).length=0 by omega] at hlt;obtain rfl:a=0:=we;rfl)
 .
  refine br J J J (fun hc8=>?_) (fun hc8=>?_)
  .
   refine ix (fu:=⟨2⟩) _ J (dm (k:=0) J we) J<|ah 13 (.d (.v (.int .u64 (a:Nat)))) J (by rw[xm])<|gx J<|rz J (by rw[show(dg a).length=1 by omega] at hlt;rw[TZ,<-xm (a:=a),xm (a:=a)];rfl)
  .
   refine br J J J (fun hc14=>?_) (fun hc14=>?_)
   .
    have hd0:=fj a 0;have hd1:=fj a 1;refine ix (hv:=by simp only[ae];exact⟨we,oma⟩) _ J (dm (k:=1) J we) J<|ix (fu:=⟨3⟩) _ J (dm (k:=0) J we) J<|ah 25 (.d (.v (.int .u64 (a:Nat)))) J (congrArg (fun z:Nat=>FX.d (.v (.int .u64 (z:Int)))) (by rw[rI _ 32 oma omA J,BitVec.or_comm];exact(rh 64 ((dg a).getD 0 0) ((dg a).getD 1 0) 32 hd0 omt).trans (Zs we)))<|gx J<|rz J (by rw[show(dg a).length=2 by omega] at hlt;rw[TZ];rfl)
   .
    exact rz rfl (by rw[aAI];rfl;intro h;have:=AJ (a:=a) (k:=2) we;omega)
section
variable {GB:Gh} {C:aH} {n:Nat} {Q0:Exit->Act->World->Prop} {fr fr':aD} {own own':aO} {cf cf':Cf} {vc:List Prop}
def PR(GB:Gh)(P:Program)(f:FuncId)(ds:List DV)(s:Nat)(ty:TypeId)(rows:List DV):Prop:=
 ∀G vs,cc GB G->IsLs G ds vs->oO P f vs [] G (fun v own' G'=> ∃w:SV,v= .slice w.a w.n w.c/\eB G' ⟨w,s,ty,rows,true⟩ own')
def Oy: ∀(l:List az),(∀o∈l,o.lo=true)->l.map (relo (iB []))=l
 |[],_=>rfl
 |a::t,h=>by
  have h1:=h a aQ;rw[cJ,Oy t fun o ho=>h o (aX _ ho)];congr 1
  cases a
  simp[relo,iB] at*;exact h1
def ZX{lk:LK}{bk:BM}{fo:Operand}{args:Array Operand}{tys:Array TypeId}{f:FuncId}{d s:Nat}{ds rows:List DV}{ty ty2:TypeId}{pos:String}{af:Array Edge}{gd:Option (Nat×Bool)}
  (ha:ve lk fo args=some (f,ds))(hF:PR GB prog f ds s ty2 rows):cg prog GB C n lk bk ⟨some d, .call ⟨.value fo,args,tys⟩,ty,pos,af,gd⟩ (.rw d) [(d,some (.b ty2 s rows true))] [d]:=by
 intro hd tl tb K' s1 s2 hf hk;refine⟨fun ρ G ov a w r Q=>?_⟩;have r1:=r.mono s1 s2;obtain⟨h1,h2⟩:=Dr ha;obtain⟨y,hy,hy'⟩:=r1.ev h1;rw[(bE (G:=G)).1 hy'] at hy;obtain⟨vs,h3,h4⟩:=r1.evDs h2;refine wn (M:=[]) (rest:=ov) hy h3 (List.Perm.refl _) (hF G vs r.gb h4) hd (fun v own1 G' hG hK a' w' rl=>?_) a w Q ⟨r.h,r.sz,dt a,r.df⟩;obtain⟨z,rfl,vs',k1,k2,k3,k4⟩:=hK;rw[Oy _ (k4 J)] at rl;have rl':jg C n (Sx.put (de a) (some d) (.slice z.a z.n z.c)) (own1++ov) G' a' w':=rl;have hdis:=(gK.1 rl'.h.nd).2.2;have r3:=r.new' (x:=z) (B':= .b ty2 s rows true) (os:=own1) (ov':=own1++ov) (f:= .rw d) (y:= .slice z.a z.n z.c) hf hG.le rl'.h ⟨vs',by simpa using k1,k2,k3,k4⟩ (fun o ho=>bK _ ho)
  (fun q B0 hq e o ho hbq=>⟨bW _ ho,fun hc=>by
   have hx: ∃o1∈own1,o1.b=o.b:=by
    rcases k1 with⟨_,h,_⟩|⟨b0,rest0,lo0,h,hB,_⟩
    .rw[show z=_ from h] at hc;cases hc
    .rw[show z=_ from h] at hc;cases hc;exact⟨⟨_,aG vs'++rest0,_,lo0⟩,by rw[hB];exact aQ,J⟩
   obtain⟨o1,ho1,he1⟩:=hx;exact hdis o1 ho1 o ho he1⟩) (by simp[ce]) (ld rl')
 exact hk.run _ G' _ a' w' r3
def MK(fr:aD)(cf:Cf):Option (FuncId×List DV×Nat):=match dw fr cf with
 |some ⟨some d, .call ⟨.value fo,args,_⟩,_,_,_,_⟩=>match ve (co fr cf) fo args with
  |some (f,ds)=>some (f,ds,d)
  |none=>none
 |_=>none
def cr[fu:Fu]{f:FuncId}{d s:Nat}{ds rows:List DV}{ty:TypeId}(ha:MK fr cf=some (f,ds,d))(hF:PR GB prog f ds s ty rows)
  (hgo:dl tt n fu.n fr own cf (.rw d) [(d,some (.b ty s rows true))] [d]=⟨vc,fr',own',cf'⟩)(k:ao prog GB C n Q0 fr' own' cf')
  (hv:autoParam (ae vc) fn._auto_1):ao prog GB C n Q0 fr own cf:=by
 unfold MK at ha;split at ha<;>try (cases ha;done)
 rename_i hh;split at ha<;>cases ha;rename_i h1;exact us hh (ZX h1 hF) hgo hv k
def KQ(C:aH)(s:Nat)(ty:TypeId)(rows:List DV):Ending->World->Prop:=vE C (fun v own' G'=> ∃w:SV,v= .slice w.a w.n w.c/\eB G' ⟨w,s,ty,rows,true⟩ own')
def fnR[fu:Fu]{f:FuncId}{fb:Func}{c:Code}{m s:Nat}{ds rows:List DV}{ty:TypeId}(hf:prog.funcs[f]? =some fb)(hb:fb.body=some c)(hn:(fb.name== "runtime.NumGoroutine")=false)(hm:fb.ntmps=m)(hlen:Nat.ble ds.length m=true)
  (hgo:go tt m fu.n [] (th 0 ds) [] (.code c [])=⟨vc,fr,own,cf⟩)(k: ∀C:aH,C.mb=[]->ao prog GB C m (gu C prog fb (KQ C s ty rows)) fr own cf)
  (hv:autoParam (ae vc) fn._auto_1):PR GB prog f ds s ty rows:=by
 intro G vs hg hvs;refine oO.introR hf hb hn hm okD fun C _ hmb hrd hfx=>?_;intro a w rl;refine vR hrd ?_;have h:=gD (GB:=GB) (C:=C) (Q0:=gu C prog fb (KQ C s ty rows)) hgo hv (k C (by simpa using hmb));exact h.run (fun _=>⟨none,0,0⟩) G [] a w ⟨hg,rl.h,rl.sz,rl.df,(fun k f e=>yG hvs rl.fr k f e),(fun nm B e=>by cases e),(fun nm nm' B B' e=>by cases e),fun nm p _ _ e=>by rw[hfx] at e;cases e⟩
def rzR{fb:Func}{t d s:Nat}{ty:TypeId}{rows rws:List DV}(hr:fb.results.toList=[.tmp t])(hl:bh fr t=some (.rw d))(hw:bj own d=some (.b ty s rws true))(er:rws=rows):
  ao prog GB C n (gu C prog fb (KQ C s ty rows)) fr own (.ex .ret []):=by
 subst er;refine⟨fun ρ G ov a w r=>?_⟩;obtain⟨B,g1,g2⟩:=r.bx _ _ hw;have hB:eB G ⟨ρ d,s,ty,rws,true⟩ B:=g1;obtain⟨rest,hp⟩:=H4 hB g2;obtain⟨y,hy,hy'⟩:=r.ev (x:= .tmp t) (f:= .rw d) hl
 cases (show y=_ from hy')
 exact H6 (C:=C) (n:=n) (fr:=de a) (own:=ov) (G:=G) (vs:=[.slice (ρ d).a (ρ d).n (ρ d).c]) oku (B++rest) B hp (oV _ _) ⟨ρ d,J,hB⟩ a w ⟨r.h,r.sz,dt a,r.df⟩
end
section
variable {GB:Gh} {C:aH} {n:Nat} {Q0:Exit->Act->World->Prop} {fr fr':aD} {own own':aO} {cf cf':Cf} {vc:List Prop}
def aAY{lk:LK}{bk:BM}{fo:Operand}{args:Array Operand}{tys:Array TypeId}{f:FuncId}{nm d:Nat}{l:List (Option DV)}{s:Nat}{ty ty0:TypeId}{pos:String}{af:Array Edge}{gd:Option (Nat×Bool)}{dsi dso:List DV}{lo:Bool}(hne:Nat.beq nm d=false)
  (ha:wz lk fo args=some (f,nm,l))(hb:bk nm=some (.b ty0 s dsi lo))(hF:PB GB prog f (e8 l) s ty0 dsi (fun w=> .v (.slice w.a w.n w.c)) dso):cg prog GB C n lk bk ⟨some d, .call ⟨.value fo,args,tys⟩,ty,pos,af,gd⟩ (.rw d) [(nm,none),(d,some (.b ty0 s dso lo))] [d]:=by
 intro hd tl tb K' s1 s2 hf hk;refine⟨fun ρ G ov a w r Q=>?_⟩;have r1:=r.mono s1 s2;unfold wz at ha;split at ha<;>try (cases ha;done)
 rename_i h1;split at ha<;>cases ha;rename_i h2;obtain⟨y,hy,hy'⟩:=r1.ev h1;rw[(bE (G:=G)).1 hy'] at hy;obtain⟨B,g1,g2⟩:=r1.bx _ _ hb;have hB:eB G ⟨ρ nm,s,ty0,dsi,lo⟩ B:=g1;obtain⟨vs,h7,h8⟩:=Bg r1 (z:=ρ nm) h2 (fun nm e=>by cases e;rfl);have hp: ∃rest,ov.Perm (B++rest)/\ ∀o∈ov,(∀o'∈B,o.b≠o'.b)->o∈rest:=by
  rcases hB with⟨vs',⟨_,_,e⟩|⟨b0,r0,lo0,_,e,_⟩,_⟩
  .rw[e];exact⟨ov,List.Perm.refl _,fun o ho _=>ho⟩
  .rw[e] at g2⊢
   obtain⟨l1,l2,e2⟩:=lV (g2 _ aQ);rw[e2];refine⟨l1++l2,nJ,fun o ho hno=>?_⟩;rcases bJ.1 ho with ho|ho
   .exact bK _ ho
   .rcases aW.1 ho with rfl|ho
    .exact absurd J (hno _ aQ)
    .exact bW _ ho
 obtain⟨rest,h5,h6⟩:=hp;refine wn (M:=B) (rest:=rest) hy h7 h5 (hF G (ρ nm) vs B r.gb hB.weak h8) hd (fun v own1 G' hG hK a' w' rl=>?_) a w Q ⟨r.h,r.sz,dt a,r.df⟩;obtain⟨z,hr,vs',k1,k2,k3,k4⟩:=hK;have k1':=k1.relo (iB B);have e2:lo=true-> ∀o∈own1.map (relo (iB B)),o.lo=true:=fun hl o ho=>by
  obtain⟨o',_,rfl⟩:=aS.1 ho;obtain⟨_,_,_,_,hlo⟩:=hB;exact C0 _ (hlo hl)
 generalize own1.map (relo (iB B))=B' at rl e2 k1';have rl':jg C n (Sx.put (de a) (some d) v) (B'++rest) G' a' w':=rl;have hdis:=(gK.1 rl'.h.nd).2.2;have r2:=r.dropB nm;have hnn:nm≠d:=fun e=>by subst e;rw[nN] at hne;cases hne
 have hf2:kO [d] (some d) tl (Sx.upB tb [(nm,none)]):=fun q hq=>by
  obtain⟨f1,f2⟩:=hf q hq;refine⟨f1,fun k B e1 e=>?_⟩;simp only[Sx.upB] at e;split at e
  .cases e
  .exact f2 k B e1 e
 have hsep: ∀q B0,Sx.upB tb [(nm,none)] q=some B0-> ∀o∈ov,(ρ q).a=some ⟨o.b,0,none⟩->o∈rest:=fun q B0 e o ho hbq=>by
  simp only[Sx.upB] at e;split at e
  .cases e
  .rename_i hqn
   refine h6 o ho fun o' ho' he=>?_;exact r.dj nm q _ _ (s2 _ _ hb) e (Ne.symm hqn) o'.b (g1.blk ho') (by rw[hbq,he])
 rw[bE.1 hr] at rl';have r3:=r2.new' (x:=z) (B':= .b ty0 s dso lo) (os:=B') (ov':=B'++rest) (f:= .rw d) (y:= .slice z.a z.n z.c) hf2 hG.le rl'.h ⟨vs',by simpa using k1',k2,k3,e2⟩ (fun o ho=>bK _ ho)
  (fun q B0 hq e o ho hbq=>⟨bW _ (hsep q B0 e o ho hbq),fun hc=>by
   have hx: ∃o1∈B',o1.b=o.b:=by
    rcases k1' with⟨_,h,_⟩|⟨b0,rest0,lo0,h,hB,_⟩
    .rw[show z=_ from h] at hc;cases hc
    .rw[show z=_ from h] at hc;cases hc;exact⟨⟨_,aG vs'++rest0,_,lo0⟩,by rw[hB];exact aQ,J⟩
   obtain⟨o1,ho1,he1⟩:=hx;exact hdis o1 ho1 o (hsep q B0 e o ho hbq) he1⟩) (by simp[ce]) (ld rl')
 exact hk.run _ G' _ a' w' r3
def cq[fu:Fu]{f:FuncId}{nm d:Nat}{l:List (Option DV)}{ty:TypeId}{s:Nat}{dsi dso:List DV}{lo:Bool}(dso':List DV)(ha:EL fr own cf=some ⟨f,nm,l,ty,s,dsi,lo,d⟩)(hF:PB GB prog f (e8 l) s ty dsi (fun w=> .v (.slice w.a w.n w.c)) dso)(he:dso=dso')
  (hgo:dl tt n fu.n fr own cf (.rw d) [(nm,none),(d,some (.b ty s dso' lo))] [d]=⟨vc,fr',own',cf'⟩)(k:ao prog GB C n Q0 fr' own' cf')
  (hv:autoParam (ae vc) fn._auto_1):ao prog GB C n Q0 fr own cf:=by
 subst he;unfold EL at ha;split at ha<;>try (cases ha;done)
 rename_i hh;split at ha<;>try (cases ha;done)
 rename_i h1;split at ha<;>try (cases ha;done)
 rename_i h2;rw[cond_eq_ite] at ha;split at ha<;>cases ha;rename_i h3;exact us hh (aAY okL h1 h2 hF) hgo hv k
def IL(C:aH)(s:Nat)(ty:TypeId)(dso:List DV):Ending->World->Prop:=vE C (fun v own' G'=> ∃w',Is G' (.v (.slice w'.a w'.n w'.c)) v/\eB G' ⟨w',s,ty,dso,false⟩ own')
def uF[fu:Fu]{f:FuncId}{fb:Func}{c:Code}{k s:Nat}{l:List (Option DV)}{dsi dso:List DV}{ty:TypeId}(hf:prog.funcs[f]? =some fb)(hb:fb.body=some c)(hn:(fb.name== "runtime.NumGoroutine")=false)(hm:fb.ntmps=k)(hlen:Nat.ble l.length k=true)
  (hgo:go tt k fu.n [] (xX 0 l) [(NM,some (.b ty s dsi false))] (.code c [])=⟨vc,fr,own,cf⟩)(h: ∀C,ao prog GB C k (gu C prog fb (IL C s ty dso)) fr own cf)
  (hv:autoParam (ae vc) fn._auto_1):PB GB prog f (e8 l) s ty dsi (fun w=> .v (.slice w.a w.n w.c)) dso:=by
 intro G w vs B hg hB hvs;refine oO.introR hf hb hn hm (by rw[hvs.len,E7];exact hlen) fun C _ hmb hrd hfx=>?_;intro a wd rl;refine vR hrd ?_;have h1:=gD (GB:=GB) (C:=C) (Q0:=gu C prog fb (IL C s ty dso)) hgo hv (h C);refine h1.run (fun _=>w) G (Sx.asB B) a wd ⟨hg,rl.h,rl.sz,rl.df,fun k f e=>?_,fun nm B' e=>?_,fun nm nm' B' B2 e e' hne=>?_,fun nm p _ _ e=>by rw[hfx] at e;cases e⟩
 .obtain⟨y,⟨j,hj,hy⟩,h2⟩:=Da (ρ:=fun _=>w) (w:=w) rfl 0 hvs k f e
  refine⟨y,rl.fr k y ?_,h2⟩;rw[hj];exact wV vs 0 j y hy
 .rw[ks] at e
  split at e
  .cases e;exact⟨Sx.asB B,hB.asB,fun o ho=>ho⟩
  .cases e
 .rw[ks] at e e'
  split at e<;>split at e'
  .rename_i h2 h3;exact absurd (h2.trans h3.symm) hne
  .cases e'
  .cases e
  .cases e
def nB{fb:Func}{t d s:Nat}{ty:TypeId}{ds dso:List DV}(hr:fb.results.toList=[.tmp t])(hl:bh fr t=some (.rw d))(hw:bj own d=some (.b ty s ds false))(ed:ds=dso):
  ao prog GB C n (gu C prog fb (IL C s ty dso)) fr own (.ex .ret []):=by
 subst ed;refine⟨fun ρ G ov a w r=>?_⟩;obtain⟨B,g1,g2⟩:=r.bx _ _ hw;have hB:eB G ⟨ρ d,s,ty,ds,false⟩ B:=g1;obtain⟨rest,hp⟩:=H4 hB g2;obtain⟨y,hy,hy'⟩:=r.ev (x:= .tmp t) (f:= .rw d) hl
 cases (show y=_ from hy')
 exact H6 (C:=C) (n:=n) (fr:=de a) (own:=ov) (G:=G) (vs:=[.slice (ρ d).a (ρ d).n (ρ d).c]) oku (B++rest) B hp (oV _ _) ⟨ρ d,bE.2 J,hB⟩ a w ⟨r.h,r.sz,dt a,r.df⟩
def Ab(lk:LK):List Operand->Option (List (Option DV))
 |[]=>none
 |[x]=>match ba lk x with
  |some .nl=>some [none]
  |_=>none
 |x::t=>match ba lk x,Ab lk t with
  |some f,some l=>match ki f with
   |some d=>some (some d::l)
   |none=>none
  |_,_=>none
def Hx(lk:LK)(fo:Operand)(args:Array Operand):Option (FuncId×List (Option DV)):=match ba lk fo with
 |some (.d (.v (.func (.func f) ⟨[]⟩ ⟨[]⟩)))=>match Ab lk args.toList with
  |some l=>some (f,l)
  |_=>none
 |_=>none
def OV{lk:LK}{bk:BM}{ρ:NE}{G:Gh}{ov:List az}{a:Act}{w:World}(r:bH GB C n lk bk ρ G ov a w): ∀{x:List Operand} {l:List (Option DV)},Ab lk x=some l-> ∃y,gH (de a) x=some y/\IsLs G (e8 l ⟨none,0,0⟩) y
 |[],l,e=>by cases e
 |[x],l,e=>by
  simp only[Ab] at e;split at e<;>cases e;rename_i h1;obtain⟨y,h3,h4⟩:=r.ev h1
  cases (show y=_ from h4)
  exact⟨[Value.slice none 0 0],by simp only[gH,h3], .cons ((bE (G:=G)).2 J) .nil⟩
 |x::x2::t,l,e=>by
  simp only[Ab] at e;split at e
  .rename_i f l' h1 h2
   cases hd:ki f with
   |none=>rw[hd] at e;cases e
   |some d=>
   rw[hd] at e;cases e;obtain⟨y,h3,h4⟩:=r.ev h1;obtain⟨ys,h5,h6⟩:=OV r (x:=x2::t) (by simpa only[Ab] using h2);exact⟨y::ys,by simp only[gH,h3] at h5⊢;rw[h5], .cons (og h4 hd) h6⟩
  .cases e
def ZD{lk:LK}{bk:BM}{fo:Operand}{args:Array Operand}{tys:Array TypeId}{f:FuncId}{d:Nat}{l:List (Option DV)}{s:Nat}{ty ty0:TypeId}{pos:String}{af:Array Edge}{gd:Option (Nat×Bool)}{dso:List DV}
  (ha:Hx lk fo args=some (f,l))(hF:PB GB prog f (e8 l) s ty0 [] (fun w=> .v (.slice w.a w.n w.c)) dso):cg prog GB C n lk bk ⟨some d, .call ⟨.value fo,args,tys⟩,ty,pos,af,gd⟩ (.rw d) [(d,some (.b ty0 s dso true))] [d]:=by
 intro hd tl tb K' s1 s2 hf hk;refine⟨fun ρ G ov a w r Q=>?_⟩;have r1:=r.mono s1 s2;unfold Hx at ha;split at ha<;>try (cases ha;done)
 rename_i h1;split at ha<;>cases ha;rename_i h2;obtain⟨y,hy,hy'⟩:=r1.ev h1;rw[(bE (G:=G)).1 hy'] at hy;obtain⟨vs,h7,h8⟩:=OV r1 h2;refine wn (M:=[]) (rest:=ov) hy h7 (List.Perm.refl _) (hF G ⟨none,0,0⟩ vs [] r.gb ⟨[], .nil _ _, .nil,omc,fun h=>by cases h⟩ h8) hd (fun v own1 G' hG hK a' w' rl=>?_) a w Q ⟨r.h,r.sz,dt a,r.df⟩;obtain⟨z,hr,vs',k1,k2,k3,k4⟩:=hK;have k1':=k1.relo (iB []);have e2: ∀o∈own1.map (relo (iB [])),o.lo=true:=fun o ho=>by
  obtain⟨o',_,rfl⟩:=aS.1 ho;rfl
 generalize own1.map (relo (iB []))=B' at rl e2 k1';have rl':jg C n (Sx.put (de a) (some d) v) (B'++ov) G' a' w':=rl;have hdis:=(gK.1 rl'.h.nd).2.2;rw[bE.1 hr] at rl';have r3:=r.new (x:=z) (B':= .b ty0 s dso true) (os:=B') (ov':=B'++ov) (f:= .rw d) (y:= .slice z.a z.n z.c) hf hG.le rl'.h ⟨vs',by simpa using k1',k2,k3,fun _=>e2⟩ (fun o ho=>bK _ ho) (fun o ho=>bW _ ho)
  (fun o ho hc=>by
   have hx: ∃o1∈B',o1.b=o.b:=by
    rcases k1' with⟨_,h,_⟩|⟨b0,rest0,lo0,h,hB,_⟩
    .rw[show z=_ from h] at hc;cases hc
    .rw[show z=_ from h] at hc;cases hc;exact⟨⟨_,aG vs'++rest0,_,lo0⟩,by rw[hB];exact aQ,J⟩
   obtain⟨o1,ho1,he1⟩:=hx;exact hdis o1 ho1 o ho he1) (by simp[ce]) (ld rl')
 exact hk.run _ G' _ a' w' r3
def SE(fr:aD)(cf:Cf):Option (FuncId×List (Option DV)×Nat):=match dw fr cf with
 |some ⟨some d, .call ⟨.value fo,args,_⟩,_,_,_,_⟩=>match Hx (co fr cf) fo args with
  |some (f,l)=>some (f,l,d)
  |none=>none
 |_=>none
def Qu[fu:Fu]{f:FuncId}{d:Nat}{l:List (Option DV)}{ty:TypeId}{s:Nat}{dso:List DV}(dso':List DV)(ha:SE fr cf=some (f,l,d))(hF:PB GB prog f (e8 l) s ty [] (fun w=> .v (.slice w.a w.n w.c)) dso)(he:dso=dso')
  (hgo:dl tt n fu.n fr own cf (.rw d) [(d,some (.b ty s dso' true))] [d]=⟨vc,fr',own',cf'⟩)(k:ao prog GB C n Q0 fr' own' cf')
  (hv:autoParam (ae vc) fn._auto_1):ao prog GB C n Q0 fr own cf:=by
 subst he;unfold SE at ha;split at ha<;>try (cases ha;done)
 rename_i hh;split at ha<;>cases ha;rename_i h1;exact us hh (ZD h1 hF) hgo hv k
end
section
variable {P:Program} {T:TT} {GB:Gh} {C:aH} {n:Nat} {lk:LK} {bk:BM} {ρ:NE} {G:Gh} {ov:List az} {a:Act} {w:World}
variable {dst:Option Nat} {t t' ty':TypeId} {pos:String} {af:Array Edge} {gd:Option (Nat×Bool)} {x y:Operand} {e s by_:Nat}
def azt{d nm:Nat}{i:TI}{z:DV}{ds ds2:List DV}[hT:cO P t e s by_][hN:mA P t'](hi:gh P e=some i)(hz:om i=some z)(hs:Nat.beq z.cells.length s=true)(hx:ba lk x=some (.rw nm))(hb:bk nm=some (.b e s ds false))(hy:r7 lk bk s y=some ds2)(hk2:dH s ds2)
  (hby:Nat.blt 0 by_=true)(hbd:(ds.length+ds2.length)*by_<=140737488355328)(hnd:Nat.beq nm d=false){ds':List DV}(hds:ds++ds2=ds'):
  cg P GB C n lk bk ⟨some d, .call ⟨.builtin .append, #[x,y], #[t,t']⟩,ty',pos,af,gd⟩ (.rw d) [(nm,none),(d,some (.b e s ds' false))] [d]:=by
 intro hd tl tb K s1 s2 hf hk;refine⟨fun ρ G ov a w r Q=>?_⟩;subst hds;have r1:=r.mono s1 s2;obtain⟨v,hz1,hz2,hz3⟩:=xG hi hz;have cz:=((hz2 G).cells hz3).1.len;replace hs:=aL hs;rw[lJ] at hby
 have hne:nm≠d:=fun e=>by subst e;simp at hnd
 obtain⟨u,hx',hx2⟩:=r1.ev hx
 cases hx2
 obtain⟨B,hB0,hBo⟩:=r1.bx _ _ hb;have hB1:eB G ⟨ρ nm,s,e,ds,false⟩ B:=hB0;clear hB0;obtain⟨vs,hB,hv,hvs,_⟩:=hB1;simp only[] at hB hv hvs;obtain⟨w2,us,hy',h2,h3,h4,h5,h6⟩:=Bc (P:=P) r1 hy hk2;have hus:(aG us).length=us.length*s:=f7 us h4;have hbd':(vs.length+us.length)*by_<=140737488355328:=by rw[hv.len,h3.len];exact hbd
 have hall: ∀v∈vs++us,(aP v).length=s:=fun v hv=>by
  rcases bJ.1 hv with hv|hv
  .exact hvs v hv
  .exact h4 v hv
 have rd:=r.dropB nm;have hf':kO [d] (some d) tl (Sx.upB tb [(nm,none)]):=fun m hm=>by
  obtain⟨g1,g2⟩:=hf m hm;refine⟨g1,fun k B' hk e=>g2 k B' hk ?_⟩;simp only[Sx.upB] at e;split at e
  .cases e
  .exact e
 have hbk: ∀m B',(Sx.upB tb [(nm,none)]) m=some B'->m≠nm/\tb m=some B':=fun m B' e=>by
  simp only[Sx.upB] at e;split at e
  .cases e
  .exact⟨ome,e⟩
 have hnew: ∀{z:SV} {ov':List az} {B1:List az} {a':Act} {w':World} {dz:List DV},eB G ⟨z,s,e,dz,false⟩ B1->(∀o∈B1,o∈ov')->(∀m B',m≠d->(Sx.upB tb [(nm,none)]) m=some B'-> ∀o∈ov,(ρ m).a=some ⟨o.b,0,none⟩->o∈ov'/\z.a≠some ⟨o.b,0,none⟩)->
   SX GB C n (fB tl (some d) (.rw d)) (Sx.upB (Sx.upB tb [(nm,none)]) [(d,some (.b e s dz false))]) K->jg C n (Sx.put (de a) (some d) (.slice z.a z.n z.c)) ov' G a' w'->K a' w':=fun hB1 hos hov hk1 rl=>
  hk1.run _ _ _ _ _ (rd.new' (f:= .rw d) (y:= .slice _ _ _) hf' (cc.refl _) rl.h (hB1.toBk omc) hos hov okW (ld rl))
 have hfin: ∀(b:Nat) (lo1:Bool) (cap':Nat) (rest':List Value) (ov1:List az) a' w',vs.length+us.length<=cap'->rest'.length+(vs.length+us.length)*s=cap'*s->(∀o∈ov,(ρ nm).a≠some ⟨o.b,0,none⟩->o∈ov1)->
   jg C n (put (de a) (some d) (.slice (some ⟨b,0,none⟩) (vs.length+us.length) cap')) (⟨b,aG (vs++us)++rest',e,lo1⟩::ov1) G a' w'->K a' w':=by
  intro b lo1 cap' rest' ov1 a' w' hc hr ho1 rl;have hnd':=(bM.1 rl.h.nd).1;refine hnew (z:=⟨some ⟨b,0,none⟩,vs.length+us.length,cap'⟩) (B1:=[⟨b,aG (vs++us)++rest',e,lo1⟩]) ⟨vs++us, .inr ⟨b,rest',lo1,omc,J,f7 _ hall,?_,by simpa using hc⟩,hv.app h3,hall,fun h=>by cases h⟩
   (fun o ho=>by rw[aV.1 ho];exact aQ) (fun m B' hm e o ho hmo=>?_) hk rl
  .rw[f7 _ hall,aR]
   simp only[];omega
  .obtain⟨h7,h8⟩:=hbk m B' e
   have ho2:=ho1 o ho fun hc=>r.dj m nm B' _ h8 (s2 _ _ hb) h7 _ hmo hc;exact⟨aX _ ho2,fun e'=>by cases e';exact hnd' o ho2 J⟩
 rcases hB with⟨e1,e2,e3⟩|⟨b,rest,lo',k3,k4,k5,k6,k7⟩
 .subst e1
  rw[e2] at hx';by_cases hne:us=[]
  .subst hne
   have:ds2=[]:=cW (by rw[<-h3.len];rfl);subst this;rw[h2] at hy';refine PH hx' hy' hd (fun a' w' rl=>?_) a w Q ⟨r.h,r.sz,dt a,r.df⟩;refine hnew (z:=⟨none,0,0⟩) (B1:=[]) ⟨[], .inl ⟨J,J,J⟩,by simpa using hv,omc,fun h=>by cases h⟩ (fun o ho=>by cases ho) (fun m B' hm e o ho hmo=>⟨ho,fun e'=>by cases e'⟩) hk rl
  .have hup:0<us.length:=mR.2 hne
   rw[h2] at hy' h6;refine I1 (z:=v) (xs:=[]) (ys:=aG us) hx' hy' xo h6 (by show(0:Nat)<0+us.length;omega) hby (by simpa using hbd') hd (fun b cap' hc a' w' rl=>?_) a w Q ⟨r.h,r.sz,dt a,r.df⟩;exact hfin b true cap' (fe v (cap'-us.length)) ov a' w' (by simpa using hc) (by rw[qy,cz,hs,<-dW];simp at hc⊢;congr 1;omega) (fun o ho _=>ho) (by simpa using rl)
 .subst k4
  have ha:(ρ nm).a=some ⟨b,0,none⟩:=by rw[k3]
  have hn:(ρ nm).n=vs.length:=by rw[k3]
  rw[ha,hn] at hx';rw[h2] at hy' h6;obtain⟨ov1,o1,o2⟩:=kI.of_mem (hBo _ aQ);refine amB (z:=v) (xs:=aG vs) (ys:=aG us) (rest:=rest) (own1:=ov1) hx' hy' o1 k5 k6 k7 h6 hus h5 hby hbd' (by rw[cz,hs]) hd (fun b' lo2 cap' rest' hc hr a' w' rl=>?_) a w Q ⟨r.h,r.sz,dt a,r.df⟩;rw[<-rB] at rl;exact hfin b' lo2 cap' rest' ov1 a' w' hc hr (fun o ho hne=>o2 o ho fun e'=>hne (by rw[ha,e'])) rl
end
section
variable {GB:Gh} {C:aH} {n:Nat} {Q0:Exit->Act->World->Prop} {fr fr':aD} {own own':aO} {cf cf':Cf} {vc:List Prop}
def Qs(fr:aD)(own:aO)(cf:Cf):Option (Nat×Nat×Nat×Nat×Nat×List DV×List DV):=match dw fr cf with
 |some ⟨some d, .call ⟨.builtin .append,⟨[x,y]⟩,⟨[t,t']⟩⟩,_,_,_,_⟩=>match eH tt t with
  |some ⟨.sl e s b,_,_,_⟩=>match eH tt t' with
   |some ⟨.sl _ _ _,_,_,_⟩=>match eH tt e with
    |some i=>match om i with
     |some z=>bif Nat.beq z.cells.length s&&Nat.blt 0 b then(match r7 (co fr cf) (i6 fr own cf) s y with
      |some ds2=>match ba (co fr cf) x with
       |some (.rw nm)=>match i6 fr own cf nm with
        |some (.b e' s' ds false)=>bif (Nat.beq e' e&&Nat.beq s' s)&&!Nat.beq nm d then some (d,nm,e,s,b,ds,ds2) else none
        |_=>none
       |_=>none
      |none=>none) else none
     |none=>none
    |none=>none
   |_=>none
  |_=>none
 |_=>none
def Iv[fu:Fu]{d nm:Nat}{e s b:Nat}{ds ds2:List DV}(ds':List DV)(h:Qs fr own cf=some (d,nm,e,s,b,ds,ds2))(hds:ds++ds2=ds')(ho2:dH s ds2)(hgo:dl tt n fu.n fr own cf (.rw d) [(nm,none),(d,some (.b e s ds' false))] [d]=⟨vc,fr',own',cf'⟩)(k:ao prog GB C n Q0 fr' own' cf')
  (hbd:(ds.length+ds2.length)*b<=140737488355328:=by simp;omega)
  (hv:autoParam (ae vc) fn._auto_1):ao prog GB C n Q0 fr own cf:=by
 unfold Qs at h;split at h<;>try (cases h;done)
 rename_i hh;split at h<;>try (cases h;done)
 rename_i hT;split at h<;>try (cases h;done)
 rename_i hT';split at h<;>try (cases h;done)
 rename_i hi;split at h<;>try (cases h;done)
 rename_i hz;rw[cond_eq_ite] at h;split at h<;>try (cases h;done)
 rename_i hc;simp only[bT] at hc;split at h<;>try (cases h;done)
 rename_i hy;have:=jD (fp _ _ hT) J;have hN:mA prog _:=⟨_,(jD (fp _ _ hT') J).un⟩;split at h<;>try (cases h;done)
 rename_i hx;split at h<;>try (cases h;done)
 rename_i hb;rw[cond_eq_ite] at h;split at h<;>cases h;rename_i hq;simp only[bT,fM] at hq
 cases aL hq.1.1
 cases aL hq.1.2
 exact us hh (azt (fp _ _ hi) hz hc.1 hx hb hy ho2 hc.2 hbd hq.2 hds) hgo hv k
end
end Go.Sx
end
