import Derived.Test.YtefoocgiaegobaaGreatDoorPb9
set_option linter.all false
set_option maxHeartbeats 2000000
set_option maxRecDepth 100000
section
namespace Go.Sx
open Go
def dU(d:Nat):DV:= .v (.int .u32 (d:Int))
def d8(ds:List Nat):DV:= .sl (ds.map dU)
def dN(n:Nat):DV:= .sl ((dg n).map dU)
def dD(n:Nat):DV:= .sl (if n=1 then [] else(dg n).map dU)
def eI(m:Int):DV:= .ag [.v (.bool (decide (m<0))),dN m.natAbs]
def eQ(q:Rat):DV:= .ag [.v (.bool (decide (q.num<0))),dN q.num.natAbs,dD q.den]
def eP(p:aa):DV:= .ag [.v (.bool (decide (p.x.num<0))),dN p.x.num.natAbs,dD p.x.den, .v (.bool (decide (p.y.num<0))),dN p.y.num.natAbs,dD p.y.den]
def eL(l:ah):DV:= .ag [.v (.bool (decide (l.a<0))),dN l.a.natAbs, .v (.bool (decide (l.b<0))),dN l.b.natAbs, .v (.bool (decide (l.c<0))),dN l.c.natAbs]
def eR(q:Rat):DV:= .ag [.v (.bool (decide (q.num<0))),dN q.num.natAbs,dN q.den]
def gm(p:aa):DV:= .ag [.v (.bool (decide (p.x.num<0))),dN p.x.num.natAbs,dN p.x.den, .v (.bool (decide (p.y.num<0))),dN p.y.num.natAbs,dN p.y.den]
def vI(n:Int):DV:= .v (.int .i64 n)
def vB(b:Bool):DV:= .v (.bool b)
def RM(n:Nat):dN n=d8 (dg n):=rfl
def Kw{ds:List Nat}(h:aP ds):d8 (trimD ds)=dN (dv ds):=by unfold d8 dN;rw[lg h]
def RE{ds:List Nat}{i:Nat}(h:i<ds.length):(ds.map dU)[i]? =some (dU (ds.getD i 0)):=by
 rw[fR,aZ h,aJ,aZ h];rfl
def jF{ds:List Nat}{i:Nat}(h:i<ds.length):(ds.map dU)[(i:Int).toNat]? =some (dU (ds.getD i 0)):=by rw[bY];exact RE h
def oq(ds:List Nat)(i d:Nat):(ds.map dU).set i (.v (.int .u32 (d:Int)))=(ds.set i d).map dU:=by rw[oM];rfl
def qD(n:Nat):List.replicate n (DV.v (.int .u32 0))=(List.replicate n 0).map dU:=by rw[List.map_replicate];rfl
def qo(ds:List Nat):du 1 (ds.map dU):=fun d hd=>by
 obtain⟨n,_,rfl⟩:=bT.1 hd;exact⟨rfl,rfl⟩
def eG(n:Nat)(i:Nat):(dg n).getD i 0<4294967296:=(dm n).2.1.get i
def uD:dg 0=[]:=by rw[dg,dif_pos J]
def uQ:dg 1=[1]:=by rw[dg,dif_neg (by decide)];simp[uD]
def sH{n:Nat}:(dg n).length=0↔n=0:=by
 constructor
 ·intro h
  have:=(dm n).1;rw[bU h] at this;exact this.symm
 ·rintro rfl;rw[uD];rfl
def BO:dN 0= .sl []:=by unfold dN;rw[uD];rfl
def vK{G:Gh}: ∀{ds:List Nat} {es:List Value},IsLs G (ds.map dU) es↔es=ds.map dI
 |[],es=>cb
 |d::t,es=>by
  rw[cZ,bE];constructor
  ·rintro ⟨y,n,rfl,h1,h2⟩
   rw[ba.1 h1,vK.1 h2];rfl
  ·rintro rfl
   exact⟨_,_,J,ba.2 J,vK.2 J⟩
def Ii{G:Gh}{ds:List Nat}{v:Value}:Is G (d8 ds) v↔ ∃x:SV,v= .slice x.a x.n x.c/\dG G 1 x (ds.map dI):=by
 unfold d8;rw[gh];constructor
 ·rintro ⟨s,x,es,rfl,h1,h2⟩
  have:=vK.1 h2;subst this;refine⟨x,J,?_⟩;rcases wm (s:=1) h1 h2 (qo ds) with h|h
  ·rw[h] at h1⊢
   exact⟨h1.len,h1.cap, .inl J⟩
  ·subst h;exact h1
 ·rintro ⟨x,rfl,h⟩
  exact⟨1,x,_,J,h,vK.2 J⟩
def Km{G:Gh}{n k:Nat}{v:Value}(hk:n<2^k):Is G (dN n) v↔ ∃x:SV,v= .slice x.a x.n x.c/\d6 k G x n:=by
 rw[RM,Ii];constructor
 ·rintro ⟨x,rfl,h⟩
  exact⟨x,J,⟨(dm n).2.1,h⟩,hk⟩
 ·rintro ⟨x,rfl,h⟩
  exact⟨x,J,h.d.sl⟩
def en{ds:List Nat}{i:Int}{k:Nat}(hi:i=k)(h:k<ds.length):(ds.map dU)[i.toNat]? =some (dU (ds.getD k 0)):=by subst hi;exact jF h
class BN (n:Nat) (k:outParam Nat):Prop where h:n<2^k
class BI (m:Int) (k:outParam Nat):Prop where h:m.natAbs<2^k
class BQ (q:Rat) (k:outParam Nat):Prop where
 hn:q.num.natAbs<2^k
 hd:q.den<2^k
theorem BN.mono{n k k':Nat}(h:BN n k)(hk:k<=k'):BN n k':=⟨cR h.h (aM (by decide) hk)⟩
def km{a b i j:Nat}(h:a<2^i)(k:b<2^j):a*b<2^(i+j):=by rw[dK];exact kS h k
def vE{a b i j:Nat}(h:a<2^i)(k:b<2^j):a+b<2^(i+j+1):=by
 have h1:2^i<=2^(i+j):=aM (by decide) (by omega);have h2:2^j<=2^(i+j):=aM (by decide) (by omega);rw[dL];omega
instance BN.mul (a b i j:Nat) [h:BN a i] [k:BN b j]:BN (a*b) (i+j):=⟨km h.h k.h⟩
instance BN.add (a b i j:Nat) [h:BN a i] [k:BN b j]:BN (a+b) (i+j+1):=⟨vE h.h k.h⟩
instance BN.sub (a b i:Nat) [h:BN a i]:BN (a-b) i:=⟨by have:=h.h;omega⟩
instance BN.div (a b i:Nat) [h:BN a i]:BN (a/b) i:=⟨fZ (iT _ _) h.h⟩
instance BN.abs (m:Int) (i:Nat) [h:BI m i]:BN m.natAbs i:=⟨h.h⟩
instance BN.den (q:Rat) (i:Nat) [h:BQ q i]:BN q.den i:=⟨h.hd⟩
def AS{a b i j:Nat}(h:a<2^i)(k:b<2^j):Nat.gcd a b<2^(i+j):=by
 have h1:2^i<=2^(i+j):=aM (by decide) (by omega);have h2:2^j<=2^(i+j):=aM (by decide) (by omega);rcases dY a with h0|h0
 ·subst h0;rw[Nat.gcd_zero_left];omega
 ·have:=Nat.gcd_le_left b h0;omega
instance BN.gcd (a b i j:Nat) [h:BN a i] [k:BN b j]:BN (Nat.gcd a b) (i+j):=⟨AS h.h k.h⟩
instance BN.one:BN 1 1:=⟨by decide⟩
instance BN.zero:BN 0 0:=⟨by decide⟩
instance BI.mul (a b:Int) (i j:Nat) [h:BI a i] [k:BI b j]:BI (a*b) (i+j):=⟨by rw[fN];exact km h.h k.h⟩
instance BI.add (a b:Int) (i j:Nat) [h:BI a i] [k:BI b j]:BI (a+b) (i+j+1):=⟨fZ (Int.natAbs_add_le a b) (vE h.h k.h)⟩
instance BI.sub (a b:Int) (i j:Nat) [h:BI a i] [k:BI b j]:BI (a-b) (i+j+1):=⟨fZ (Int.natAbs_sub_le a b) (vE h.h k.h)⟩
instance BI.neg (a:Int) (i:Nat) [h:BI a i]:BI (-a) i:=⟨by rw[gK];exact h.h⟩
instance BI.num (q:Rat) (i:Nat) [h:BQ q i]:BI q.num i:=⟨h.hn⟩
instance BI.nat (n:Nat) (i:Nat) [h:BN n i]:BI (n:Int) i:=⟨by rw[jR];exact h.h⟩
def jm(q:Rat):0<q.den:=fS q.den_nz
theorem qj{m:Int}{d i:Nat}(hd:0<d)(h:m.natAbs<2^i)(k:d<2^i):BQ (mkRat m d) i:=by
 refine⟨?_,?_⟩
 ·rw[Rat.num_mkRat,if_neg (by omega)]
  have:=lJ m (d.gcd m.natAbs:Nat);omega
 ·rw[Rat.den_mkRat,if_neg (by omega)]
  have:=iT d (d.gcd m.natAbs);omega
theorem BQ.mono{q:Rat}{k k':Nat}(h:BQ q k)(hk:k<=k'):BQ q k':=⟨cR h.hn (aM (by decide) hk),cR h.hd (aM (by decide) hk)⟩
def uz(p q:Rat):p*q=mkRat (p.num*q.num) (p.den*q.den):=by rw[Rat.mul_def,Rat.normalize_eq_mkRat]
def sW(p q:Rat):p+q=mkRat (p.num*q.den+q.num*p.den) (p.den*q.den):=by rw[Rat.add_def,Rat.normalize_eq_mkRat]
instance BQ.mul (p q:Rat) (i j:Nat) [h:BQ p i] [k:BQ q j]:BQ (p*q) (i+j):=by
 rw[uz];exact qj (gT (jm p) (jm q)) (BI.mul p.num q.num i j).h (km h.hd k.hd)
instance BQ.add (p q:Rat) (i j:Nat) [h:BQ p i] [k:BQ q j]:BQ (p+q) (i+j+1):=by
 rw[sW];refine qj (gT (jm p) (jm q)) ?_ ?_
 ·have h1:=km h.hn k.hd
  have h2:=km k.hn h.hd;have h3:(p.num*q.den+q.num*p.den).natAbs<=(p.num*q.den).natAbs+(q.num*p.den).natAbs:=Int.natAbs_add_le ..;rw[fN,fN,jR,jR] at h3;rw[kW j i] at h2;rw[dL];omega
 ·have h1:=km h.hd k.hd
  rw[dL];omega
instance BQ.neg (p:Rat) (i:Nat) [h:BQ p i]:BQ (-p) i:=⟨by rw[kR,gK];exact h.hn,by rw[nQ];exact h.hd⟩
instance BQ.sub (p q:Rat) (i j:Nat) [h:BQ p i] [k:BQ q j]:BQ (p-q) (i+j+1):=by
 rw[Rat.sub_eq_add_neg];exact BQ.add p (-q) i j
instance BQ.ofInt (m:Int) (i:Nat) [h:BI m i]:BQ (m:Rat) (i+1):=by
 refine⟨?_,?_⟩
 ·rw[oX];have:=h.h;rw[dL];omega
 ·rw[oJ];have:0<2^i:=dZ (by decide);rw[dL];omega
end Go.Sx
end
section
namespace Go.Sx
open Go Go.Proofs Tryz
variable {GB:Gh}
def wZ(p q:Int):Nat:=(BitVec.ofInt 32 p &&& BitVec.ofInt 32 q).toNat
def BV(p q:Int):Nat:=(BitVec.ofInt 32 p ||| BitVec.ofInt 32 q).toNat
def uk(p q:Int):Nat:=(BitVec.ofInt 32 p^^^BitVec.ofInt 32 q).toNat
def T'{ds:List Nat}{n:Nat}(h:0<n/\n<=ds.length)(hz:ds.getD (n-1) 0=0):trimD (ds.take n)=trimD (ds.take (n-1)):=by
 obtain⟨m,rfl⟩: ∃m,n=m+1:=⟨n-1,by omega⟩;rw[fK (by omega),jY];rw[jY,aJ,aZ (by omega)] at hz;simp only[gV] at hz;rw[hz,HP]
def Mj{ds:List Nat}{n:Nat}(h:n<=ds.length)(hz:0<n->ds.getD (n-1) 0≠0):trimD (ds.take n)=ds.take n:=by
 rcases dY n with h0|h0
 ·subst h0;simp[trimD]
 ·obtain⟨m,rfl⟩: ∃m,n=m+1:=⟨n-1,by omega⟩
  have hz:=hz h0;rw[fK (by omega)];rw[jY,aJ,aZ (by omega)] at hz;exact AN (by simpa using hz)
def Lh{x y c:Nat}(hx:x<4294967296)(hy:y<4294967296)(hc:c<=1):PF GB prog 376 [.v (.int .u32 (x:Int)), .v (.int .u32 (y:Int)), .v (.int .u32 (c:Int))] (.tp [.v (.int .u32 (((x+y+c)%4294967296:Nat):Int)), .v (.int .u32 (((x+y+c)/4294967296:Nat):Int))]):=by
 refine fn (hv:=by simp only[ab];exact⟨⟨⟨⟨⟨by omega,by omega⟩,by omega⟩,by omega⟩,by omega⟩,(by decide)⟩) func376 J J ntmps376 J J (fun C=>?_);exact rz J (by
  have e1:((x:Int)+y+c)%4294967296=(((x+y+c)%4294967296:Nat):Int):=by omega
  have e2:((x:Int)+y+c).fdiv (2^min (32:Int).toNat IntKind.u64.bits)%4294967296=(((x+y+c)/4294967296:Nat):Int):=by
   rw[show(2:Int)^min (32:Int).toNat IntKind.u64.bits=((4294967296:Nat):Int) from J,fY _ (by decide)];omega
  show DV.tp [.v (.int _ _), .v (.int _ _)]=_;rw[e1,e2])
def Ao(n:Nat)(h:n<4294967296):(BitVec.ofInt 32 (n:Int)).msb=decide (2147483648<=n):=by
 rw[show BitVec.ofInt 32 (n:Int)=BitVec.ofNat 32 n from BitVec.ofInt_natCast ..];rw[BitVec.msb_eq_decide,BitVec.toNat_ofNat,dQ (by simpa using h)]
def Sa(b:BitVec 32):b.toNat/2147483648=if b.msb then 1 else 0:=by
 have:=b.isLt;rw[BitVec.msb_eq_decide];simp only[decide_eq_true_eq,Nat.reduceSub,Nat.reducePow] at*;split<;>omega
def Nd(b:BitVec 32):BitVec.ofInt 32 (b.toNat:Int)=b:=by rw[BitVec.ofInt_natCast,BitVec.ofNat_toNat,BitVec.setWidth_eq]
def Nq{x y c:Nat}(hx:x<4294967296)(hy:y<4294967296)(hc:c<=1):
  ((BV (wZ (uk IntKind.u32.max x:Nat) y:Nat) (wZ (uk IntKind.u32.max (uk x y:Nat):Nat) (IntKind.u32.wrap (IntKind.u32.wrap ((x:Int)-y)-c)):Nat):Nat):Int).fdiv (2^min (31:Int).toNat IntKind.u32.bits)=(((if x<y+c then 1 else 0):Nat):Int):=by
 rw[show((2:Int)^min (31:Int).toNat IntKind.u32.bits)=((2147483648:Nat):Int) from J,fY _ (by decide),<-nV];congr 1;have hd: ∃d:Nat,d<4294967296/\IntKind.u32.wrap (IntKind.u32.wrap ((x:Int)-y)-c)=(d:Int)/\((x>=y+c/\d=x-(y+c))\/(x<y+c/\d=x+4294967296-(y+c))):=by
  rw[lE,lE];refine⟨((((x:Int)-y)%4294967296-c)%4294967296).toNat,by omega,by omega,by omega⟩
 obtain⟨d,hd1,hd2,hd3⟩:=hd;rw[hd2];unfold BV wZ uk;simp only[Nd];rw[Sa];simp only[BitVec.msb_or,BitVec.msb_and,BitVec.msb_xor,Ao x hx,Ao y hy,Ao d hd1];have h1:(BitVec.ofInt 32 IntKind.u32.max).msb=true:=by decide
 rw[h1];rcases fT x 2147483648 with a|a<;>rcases fT y 2147483648 with b|b<;>rcases fT d 2147483648 with e|e<;>
  simp[Nat.not_le.2, *]<;>(first|omega|(split<;>omega))
def LA{x y c:Nat}(hx:x<4294967296)(hy:y<4294967296)(hc:c<=1):IntKind.u32.wrap (IntKind.u32.wrap ((x:Int)-y)-c)=(((if x<y+c then x+4294967296-(y+c) else x-(y+c)):Nat):Int):=by
 rw[lE,lE];split<;>omega
def To{x y c:Nat}(hx:x<4294967296)(hy:y<4294967296)(hc:c<=1):PF GB prog 377 [.v (.int .u32 (x:Int)), .v (.int .u32 (y:Int)), .v (.int .u32 (c:Int))] (.tp [.v (.int .u32 (((if x<y+c then x+4294967296-(y+c) else x-(y+c)):Nat):Int)), .v (.int .u32 (((if x<y+c then 1 else 0):Nat):Int))]):=by
 refine fn (fu:=⟨10⟩) func377 J J ntmps377 J J (fun C=>?_);refine sw (fu:=⟨1⟩) _ J (lE _).symm J<|sw (fu:=⟨6⟩) _ J (lE _).symm J<|nt (fu:=⟨4⟩) _ J J J<|xr (fu:=⟨0⟩) _ J J J<|nt _ J J J<|?_;exact rz J (by have h1:=Nq hx hy hc;unfold BV wZ uk at h1;show DV.tp [.v (.int _ _), .v (.int _ _)]=_;rw[h1,LA hx hy hc])
def nO{ds:List Nat}(hl:ds.length<=1125899906842624):PF GB prog 248 [d8 ds] (d8 (trimD ds)):=by
 refine fn func248 J J ntmps248 J J (fun C=>?_);refine lp (X:=Nat) (fun n=>[(0, .d (d8 ds)),(3, .d (vI (n:Nat)))]) (fun n=>[]) (fun n=>n<=ds.length/\trimD ds=trimD (ds.take n)) (fun n=>n) ds.length J ⟨aR _,by rw[dX]⟩ (fun _=>J) (fun n hk=>?_);obtain⟨h1,h2⟩:=hk;refine cs 8 J J J (fun hg8=>?_) (fun hg8=>?_)
 .
  refine ix _ J (en (k:=n-1) (by omega) (by omega)) J<|?_;refine br J J J (fun hc15=>?_) (fun hc15=>?_)
  .
   have hz:ds.getD (n-1) 0=0:=by omega
   exact at_ (n-1) ⟨⟨by omega,by rw[h2,T' (by omega) hz]⟩,(by omega)⟩
  .
   refine qS 0 n _ J J J J (qo _) (by omega) (by simp;omega) J<|?_;exact rz J (by have:=Mj h1 (fun _ h=>hc15 (by omega));rw[<-h2] at this;show DV.sl _=_;simp[d8,this])
 .
  refine qS 0 n _ J J J J (qo _) (by omega) (by simp;omega) J<|?_;exact rz rfl (by obtain rfl:n=0:=(by omega);show DV.sl _=_;simp[d8,h2,trimD])
def oH{a k:Nat}(h:a<2^k)(hk:k<=1000000000):(dg a).length<=100000000:=by have:=jH h;omega
def bD(a:Nat):dv (dg a)=a:=(dm a).1
def i4(a:Nat):aP (dg a):=(dm a).2.1
def d5(ds:List Nat):(ds.map dU).length=ds.length:=aX ..
def kv{ds:List Nat}{n:Nat}(h:ds.length<=n):ds.take n=ds:=aU h
def pg{ds:List Nat}{i:Nat}(h:ds.length<=i):ds.getD i 0=0:=by
 rw[aJ,dS h];rfl
def n5{ds:List Nat}{n:Nat}(h:aP ds)(e:dv ds=n):d8 (trimD ds)=dN n:=by rw[Kw h,e]
def CM{a b:Nat}(h:a<b):eh a b= -1:=by unfold eh;rw[if_pos h]
def y0{a b:Nat}(h:b<a):eh a b=1:=by unfold eh;rw[if_neg (by omega),if_neg (by omega)]
def NN{a b:Nat}(h:a=b):eh a b=0:=by unfold eh;rw[if_neg (by omega),if_pos h]
def P8(m n:Nat):Int.sign ((m:Int)-n)=eh m n:=by
 unfold eh;split
 ·exact eX (by omega)
 ·split
  ·rw[show(m:Int)-n=0 by omega];rfl
  ·exact fW (by omega)
def OE{a b:Nat}(h:(dg a).length≠(dg b).length):eh (dg a).length (dg b).length=eh a b:=by
 rcases Nat.lt_or_gt_of_ne h with h|h
 ·have:=mP (i4 a) (dm b).2.2 h
  rw[bD,bD] at this;rw[CM h,CM this]
 ·have:=mP (i4 b) (dm a).2.2 h
  rw[bD,bD] at this;rw[y0 h,y0 this]
def Cz{a b i:Nat}(hl:(dg a).length=(dg b).length)(hi:i<(dg a).length)(hs:(dg a).drop (i+1)=(dg b).drop (i+1)):
  ((dg a).getD i 0<(dg b).getD i 0->a<b)/\((dg b).getD i 0<(dg a).getD i 0->b<a)/\((dg a).getD i 0=(dg b).getD i 0->(dg a).drop i=(dg b).drop i):=by
 refine⟨fun h=>?_,fun h=>?_,fun h=>?_⟩
 ·have:=vf (i4 a) (i4 b) i hi (by omega) hl hs h
  rwa [bD,bD] at this
 ·have:=vf (i4 b) (i4 a) i (by omega) hi hl.symm hs.symm h
  rwa [bD,bD] at this
 ·rw[bM hi,bM (by omega:i<(dg b).length),hs]
  rw[aJ,aJ,aZ hi,aZ (by omega:i<(dg b).length)] at h;simp only[gV] at h;rw[h]
def K5{z:Int}:PF GB prog 283 [vI z] (vI z.sign):=by
 refine fn func283 J J ntmps283 J J (fun C=>?_);refine br J J J (fun hc4=>?_) (fun hc4=>?_)
 .
  exact rz J (by show DV.v (.int _ 1)=DV.v (.int _ _);rw[fW (by omega)])
 .
  refine br J J J (fun hc6=>?_) (fun hc6=>?_)
  .
   exact rz J (by show DV.v (.int _ (-1))=DV.v (.int _ _);rw[eX (by omega)])
  .
   exact rz J (by show DV.v (.int _ 0)=DV.v (.int _ _);rw[show z=0 by omega];rfl)
def SG(u:Nat):dv [u%4294967296,u/4294967296]=u:=by simp only[dv];omega
def Od{u:Nat}(h:u<18446744073709551616):aP [u%4294967296,u/4294967296]:= .cons (by omega) (.cons (by omega) .nil)
def zu(u:Nat):(u:Int).fdiv (2^min (32:Int).toNat IntKind.u64.bits)=((u/4294967296:Nat):Int):=by
 rw[show(2:Int)^min (32:Int).toNat IntKind.u64.bits=((4294967296:Nat):Int) from J,fY _ (by decide)];rfl
def n8{u:Nat}(hu:u<18446744073709551616):PF GB prog 158 [.v (.int .u64 (u:Int))] (dN u):=by
 refine fn (fu:=⟨11⟩) (hv:=by simp only[ab];exact(by decide)) func158 J J ntmps158 J J (fun C=>?_);refine ak 6 (.d (.v (.int .u64 (u/4294967296:Nat)))) J (by rw[zu]) ?_;refine gx J<|rf (fu:=⟨0⟩) J J<|?_;refine ak 8 (.d (d8 [u%4294967296,u/4294967296])) J (by show FX.d (.sl [.v (.int _ _), .v (.int _ _)])= .d (.sl [.v (.int _ _), .v (.int _ _)]);congr 6;omega) ?_;refine gx J<|cl J (nO (ds:=[u%4294967296,u/4294967296]) (by simp)) J<|?_;exact rz J (n5 (Od hu) (SG u))
def Ak:PF GB prog 188 [] (dN 1):=by
 refine fn func188 J J ntmps188 J J (fun C=>?_);refine rf J J<|?_;exact rz J (by unfold dN;rw[uQ];rfl)
def tg{a b:Nat}(ha:(dg a).length<=100000000)(hb:(dg b).length<=100000000):PF GB prog 187 [dN a,dN b] (vI (eh a b)):=by
 have hla:=d5 (dg a);have hlb:=d5 (dg b);refine fn func187 J J ntmps187 J J (fun C=>?_);refine br J J J (fun hc10=>?_) (fun hc10=>?_)
 .
  refine cl J K5 J<|?_;exact rz J (by show DV.v (.int _ _)=DV.v (.int _ _);rw[hla,hlb,P8,OE (by omega)])
 .
  have hl:(dg a).length=(dg b).length:=by omega
  refine lp (X:=Nat) (fun k=>[(0, .d (dN a)),(1, .d (dN b)),(5, .d (vI ((k:Nat)-1)))]) (fun k=>[]) (fun k=>k<=(dg a).length/\(dg a).drop k=(dg b).drop k) (fun k=>k) (dg a).length J ⟨aR _,by rw[iN,hl,iN]⟩ (fun _=>J) (fun k hk=>?_);obtain⟨h1,h2⟩:=hk;refine br J J J (fun hc21=>?_) (fun hc21=>?_)
  .
   obtain⟨k,rfl⟩: ∃m,k=m+1:=⟨k-1,by omega⟩;refine ix _ J (en (k:=k) (by omega) (by omega)) J<|ix _ J (en (k:=k) (by omega) (by omega)) J<|?_;refine br J J J (fun hc32=>?_) (fun hc32=>?_)
   .
    exact rz J (by show DV.v (.int _ 1)=DV.v (.int _ _);rw[y0 ((Cz hl (by omega) h2).2.1 (by omega))])
   .
    refine ix _ J (en (k:=k) (by omega) (by omega)) J<|ix _ J (en (k:=k) (by omega) (by omega)) J<|?_;refine br J J J (fun hc41=>?_) (fun hc41=>?_)
    .
     exact rz J (by show DV.v (.int _ (-1))=DV.v (.int _ _);rw[CM ((Cz hl (by omega) h2).1 (by omega))])
    .
     exact at_ k ⟨⟨by omega,(Cz (i:=k) hl (by omega) h2).2.2 (by omega)⟩,(by omega)⟩
  .
   exact rz rfl (by show DV.v (.int _ 0)=DV.v (.int _ _);rw[NN];obtain rfl:k=0:=(by omega);rw[gJ,gJ] at h2;rw[<-bD a,h2,bD])
def L8{A B W:List Nat}{i c:Nat}(hi:i<W.length)(h:dv (W.take i)+4294967296^i*c=dv (A.take i)+dv (B.take i)):
  dv ((W.set i ((A.getD i 0+B.getD i 0+c)%4294967296)).take (i+1))+4294967296^(i+1)*((A.getD i 0+B.getD i 0+c)/4294967296)=dv (A.take (i+1))+dv (B.take (i+1)):=by
 rw[lv hi,fB A,fB B,dL,show A.getD i 0+B.getD i 0+c=c+A.getD i 0+B.getD i 0 by omega];exact Gd h
def RU{a b n:Nat}{W:List Nat}{c:Nat}(hn:n=max (dg a).length (dg b).length)(hl:W.length=n+1)(h:dv (W.take n)+4294967296^n*c=dv ((dg a).take n)+dv ((dg b).take n)):dv (W.set n c)=a+b:=by
 have e:=lv (ws:=W) (k:=n) (d:=c) (by omega);rw[kv (by rw[aW];omega)] at e;rw[e,h,kv (by omega),kv (by omega),bD,bD]
def Np{a b ia ib:Nat}[ha:BN a ia][hb:BN b ib](hi:ia<=1000000000:=by decide)(hj:ib<=1000000000:=by decide):PF GB prog 336 [dN a,dN b] (dN (a+b)):=by
 have hla:=d5 (dg a);have hlb:=d5 (dg b);have hba:=oH ha.h hi;have hbb:=oH hb.h hj;refine fn (fu:=⟨12⟩) func336 J J ntmps336 J J (fun C=>?_);obtain⟨n,hn⟩: ∃n,n=max (dg a).length (dg b).length:=⟨_,rfl⟩;refine ak 15 (.d (vI (n:Nat))) J (by show FX.d (.v (.int _ _))= .d (.v (.int _ _));congr 3;split<;>omega) ?_;refine gx J<|mk ((List.replicate (n+1) 0).map dU) J J (by rw[<-qD];rfl) J<|?_;refine lp (X:=List Nat×Nat×Nat) (fun⟨W,c,i⟩=>[(0, .d (dN a)),(1, .d (dN b)),(5, .d (vI (n:Nat))),(6, .rw 18),(7, .d (.v (.int .u32 (c:Nat)))),(8, .d (vI (i:Nat)))]) (fun⟨W,c,i⟩=>[(18,some (.b 366 1 (W.map dU) true))]) (fun⟨W,c,i⟩=>W.length=n+1/\aP W/\c<=1/\i<=n/\dv (W.take i)+4294967296^i*c=dv ((dg a).take i)+dv ((dg b).take i)) (fun⟨W,c,i⟩=>n-i) ⟨List.replicate (n+1) 0,0,0⟩ J ⟨by simp, .replicate _,by omega,by omega,by simp[dv]⟩ (fun _=>J) (fun⟨W,c,i⟩ hk=>?_);dsimp only at hk⊢;obtain⟨h1,h2,h3,h4,h5⟩:=hk;have hlw:=d5 W;have hda:=eG a i;have hdb:=eG b i;refine br (fu1:=⟨11⟩) J J J (fun hc21=>?_) (fun hc21=>?_)
 .
  refine mg (fu:=⟨1⟩) (X:=Unit) (fun _=>[(0, .d (dN a)),(1, .d (dN b)),(5, .d (vI (n:Nat))),(6, .rw 18),(7, .d (.v (.int .u32 (c:Nat)))),(8, .d (vI (i:Nat))),(9, .d (dU ((dg a).getD i 0))),(10, .d (.v (.int .u32 0)))]) (fun _=>[(18,some (.b 366 1 (W.map dU) true))]) (fun _=>True) [0,1,5,6,7,8,9,10] [18] rfl ?_ (fun _=>J) (fun _ hm=>?_)
  .
   refine gx J<|?_;refine br J J J (fun hc27=>?_) (fun hc27=>?_)
   .
    refine ix _ J (jF (by omega)) J<|?_;exact at_ () trivial
   .
    refine ak 9 (.d (dU ((dg a).getD i 0))) J (by rw[pg (by omega)];rfl) ?_;exact at_ () trivial
  .
   refine mg (X:=Unit) (fun _=>[(0, .d (dN a)),(1, .d (dN b)),(5, .d (vI (n:Nat))),(6, .rw 18),(7, .d (.v (.int .u32 (c:Nat)))),(8, .d (vI (i:Nat))),(9, .d (dU ((dg a).getD i 0))),(10, .d (dU ((dg b).getD i 0)))]) (fun _=>[(18,some (.b 366 1 (W.map dU) true))]) (fun _=>True) [0,1,5,6,7,8,9,10] [18] rfl ?_ (fun _=>J) (fun _ hm=>?_)
   .
    refine gx J<|?_;refine br J J J (fun hc35=>?_) (fun hc35=>?_)
    .
     refine ix _ J (jF (by omega)) J<|?_;exact at_ () trivial
    .
     refine ak 10 (.d (dU ((dg b).getD i 0))) J (by rw[pg (by omega)];rfl) ?_;exact at_ () trivial
   .
    refine cl J (Lh (by omega) (by omega) (by omega)) J<|sb _ ((W.set i (((dg a).getD i 0+(dg b).getD i 0+c)%4294967296)).map dU) J (jF (by omega)) J (by rw[<-oq];rfl) J<|?_;exact at_ ⟨W.set i (((dg a).getD i 0+(dg b).getD i 0+c)%4294967296),((dg a).getD i 0+(dg b).getD i 0+c)/4294967296,i+1⟩ (by dsimp only;exact⟨⟨by simpa using h1,h2.set _ (by omega),by omega,by omega,L8 (by omega) h5⟩,(by omega)⟩)
 .
  obtain rfl:i=n:=by omega
  refine sb _ ((W.set i c).map dU) J (jF (by omega)) J (by rw[<-oq];rfl) J<|fz 18 J J<|cl J (nO (ds:=W.set i c) (by simp;omega)) J<|?_;exact rz J (n5 (h2.set _ (by omega)) (RU hn h1 h5))
def TJ{A B W:List Nat}{i c d c2:Nat}(hA:aP A)(hB:aP B)(hi:i<W.length)(hc:c<=1)(h:dv (W.take i)+dv (B.take i)=dv (A.take i)+4294967296^i*c)
  (hd:d=if A.getD i 0<B.getD i 0+c then A.getD i 0+4294967296-(B.getD i 0+c) else A.getD i 0-(B.getD i 0+c))(hc2:c2=if A.getD i 0<B.getD i 0+c then 1 else 0):
  dv ((W.set i d).take (i+1))+dv (B.take (i+1))=dv (A.take (i+1))+4294967296^(i+1)*c2:=by
 have h1:=hA.get i;have h2:=hB.get i;rw[lv hi,fB A,fB B,dL];split at hd
 ·rename_i q
  rw[if_pos q] at hc2;subst hc2 hd;rw[kW (B.getD i 0) c];exact EN h (by omega) (by omega)
 ·rename_i q
  rw[if_neg q] at hc2;subst hc2 hd;rw[kW (B.getD i 0) c];exact DB h (by omega)
def NH{a b c:Nat}{W:List Nat}(hw:aP W)(hl:W.length=(dg a).length)(hb:b<=a)(h:dv (W.take (dg a).length)+dv ((dg b).take (dg a).length)=dv ((dg a).take (dg a).length)+4294967296^(dg a).length*c):dv W=a-b:=by
 have hlb:(dg b).length<=(dg a).length:=by
  rcases fT (dg a).length (dg b).length with q|q
  ·have:=mP (i4 a) (dm b).2.2 q
   rw[bD,bD] at this;omega
  ·exact q
 rw[kv (by omega),kv hlb,kv (aR _),bD,bD] at h;have h2:=gj hw;rw[hl] at h2;rcases dY c with q|q
 ·subst q;omega
 ·have:4294967296^(dg a).length*1<=4294967296^(dg a).length*c:=dT _ q
  omega
def Bl{a b ia:Nat}[ha:BN a ia](hb:b<=a)(hi:ia<=1000000000:=by decide):PF GB prog 337 [dN a,dN b] (dN (a-b)):=by
 have hla:=d5 (dg a);have hlb:=d5 (dg b);have hba:=oH ha.h hi;refine fn (fu:=⟨9⟩) func337 J J ntmps337 J J (fun C=>?_);refine ak 10 (.d (vI ((dg a).length:Nat))) J (by rw[hla];rfl) ?_;refine gx J<|mk (fu:=⟨13⟩) ((List.replicate (dg a).length 0).map dU) J J (by rw[<-qD];rfl) J<|?_;refine ak 13 (.d (vI ((dg a).length:Nat))) J (by rw[hla];rfl) ?_;refine gx J<|?_;refine lp (X:=List Nat×Nat×Nat) (fun⟨W,c,i⟩=>[(0, .d (dN a)),(1, .d (dN b)),(5, .rw 11),(6, .d (.v (.int .u32 (c:Nat)))),(13, .d (vI ((dg a).length:Nat))),(14, .d (vI (i:Nat)))]) (fun⟨W,c,i⟩=>[(11,some (.b 366 1 (W.map dU) true))]) (fun⟨W,c,i⟩=>W.length=(dg a).length/\aP W/\c<=1/\i<=(dg a).length/\dv (W.take i)+dv ((dg b).take i)=dv ((dg a).take i)+4294967296^i*c) (fun⟨W,c,i⟩=>(dg a).length-i) ⟨List.replicate (dg a).length 0,0,0⟩ J ⟨by simp, .replicate _,by omega,by omega,by simp[dv]⟩ (fun _=>J) (fun⟨W,c,i⟩ hk=>?_);dsimp only at hk⊢;obtain⟨h1,h2,h3,h4,h5⟩:=hk;have hlw:=d5 W;have hda:=eG a i;have hdb:=eG b i;refine br (fu1:=⟨16⟩) J J J (fun hc15=>?_) (fun hc15=>?_)
 .
  refine mg (X:=Unit) (fun _=>[(0, .d (dN a)),(1, .d (dN b)),(5, .rw 11),(6, .d (.v (.int .u32 (c:Nat)))),(13, .d (vI ((dg a).length:Nat))),(14, .d (vI (i:Nat))),(7, .d (vI (i:Nat))),(8, .d (dU ((dg b).getD i 0)))]) (fun _=>[(11,some (.b 366 1 (W.map dU) true))]) (fun _=>True) [0,1,5,6,13,14,7,8] [11] rfl ?_ (fun _=>J) (fun _ hm=>?_)
  .
   refine gx J<|?_;refine br J J J (fun hc20=>?_) (fun hc20=>?_)
   .
    refine ix _ J (jF (by omega)) J<|?_;exact at_ () trivial
   .
    refine ak 8 (.d (dU ((dg b).getD i 0))) J (by rw[pg (by omega)];rfl) ?_;exact at_ () trivial
  .
   refine ix _ J (jF (by omega)) J<|cl J (To (by omega) (by omega) (by omega)) J<|sb _ ((W.set i (if(dg a).getD i 0<(dg b).getD i 0+c then(dg a).getD i 0+4294967296-((dg b).getD i 0+c) else(dg a).getD i 0-((dg b).getD i 0+c))).map dU) J (jF (by omega)) J (by rw[<-oq];rfl) J<|?_;exact at_ ⟨W.set i (if(dg a).getD i 0<(dg b).getD i 0+c then(dg a).getD i 0+4294967296-((dg b).getD i 0+c) else(dg a).getD i 0-((dg b).getD i 0+c)),(if(dg a).getD i 0<(dg b).getD i 0+c then 1 else 0),i+1⟩ (by dsimp only;exact⟨⟨by simpa using h1,h2.set _ (by split<;>omega),by split<;>omega,by omega,TJ (i4 a) (i4 b) (by omega) h3 h5 J J⟩,(by omega)⟩)
 .
  obtain rfl:i=(dg a).length:=by omega
  refine fz 11 J J<|cl J (nO (ds:=W) (by omega)) J<|?_;exact rz J (n5 h2 (NH h2 h1 hb h5))
def rH(n:Nat)(a b k:Nat)(ha:a<2^k)(h:a+b*2^k<2^n):(BitVec.ofInt n (a:Int) ||| BitVec.ofInt n ((b*2^k:Nat):Int)).toNat=a+b*2^k:=by
 rw[BitVec.toNat_or,BitVec.ofInt_natCast,BitVec.ofInt_natCast,BitVec.toNat_ofNat,BitVec.toNat_ofNat,dQ (by omega),dQ (by omega)];rw[<-jT,Nat.or_comm,<-jN ha,jT];omega
def y5{x y:Nat}(hx:x<4294967296)(hy:y<4294967296):x*y<=18446744065119617025:=by
 have:=mQ (by omega:x<=4294967295) (by omega:y<=4294967295);exact this
def JP(x y:Nat):(0:Int)<=(x:Int)*(y:Int):=by rw[<-iQ];omega
def GD{x y:Nat}(hx:x<4294967296)(hy:y<4294967296):(x:Int)*(y:Int)<=18446744073709551615:=by
 have:=y5 hx hy;rw[<-iQ];omega
def Pk{ds:List Nat}(h:ds.length=1):dv ds=ds.getD 0 0:=by
 match ds,h with
 |[d],_=>simp[dv]
def sF{a:Nat}(h:(dg a).length=1):(dg a).getD 0 0=a:=by rw[<-Pk h,bD]
def QR{ds:List Nat}{j m:Nat}(h:j<m):(ds.take m).getD j 0=ds.getD j 0:=by
 rw[aJ,aJ,oV,if_pos h]
def FI{W:List Nat}{j m d:Nat}(hj:j<m)(hm:m<=W.length):dv ((W.set j d).take m)+4294967296^j*W.getD j 0=dv (W.take m)+4294967296^j*d:=by
 rw[List.take_set,<-QR (ds:=W) hj];exact lD _ _ _ (by rw[bW];omega)
def SO{W:List Nat}{P X Y m i k c y t S:Nat}(hk:i+k<m)(hm:m<=W.length)(h:dv (W.take m)+4294967296^(i+k)*c=P+X*(4294967296^i*S))(ht:t=Y+W.getD (i+k) 0+c)(hY:Y=X*y):
  dv ((W.set (i+k) (t%4294967296)).take m)+4294967296^(i+(k+1))*(t/4294967296)=P+X*(4294967296^i*(S+4294967296^k*y)):=by
 have h1:=FI (W:=W) (d:=t%4294967296) hk hm;rw[ht,show Y+W.getD (i+k) 0+c=c+Y+W.getD (i+k) 0 by omega] at h1⊢;have h2:=JZ h1 h;rw[<-jZ,dL,h2,hY,dK];simp only[cW,bV,jJ,bK,jZ]
def Qd{a b:Nat}{W:List Nat}{i c lb:Nat}(hlb:lb=(dg b).length)(hl:i+lb<W.length)(h:dv (W.take (i+lb))+4294967296^(i+lb)*c=dv ((dg a).take i)*b+(dg a).getD i 0*(4294967296^i*dv ((dg b).take lb))):
  dv ((W.set (i+lb) c).take (i+1+lb))=dv ((dg a).take (i+1))*b:=by
 rw[show i+1+lb=i+lb+1 by omega,lv hl,h,fB,kv (ds:=dg b) (by omega),bD b,cK];simp only[bV,jJ,bK]
def Fg(n j:Nat):(List.replicate n 0).getD j 0=0:=by
 rw[aJ,List.getElem?_replicate];split<;>rfl
def uM{k:Nat}(h:k<=1000000000):IntKind.i64.wrap ((k:Int).tdiv 32)=((k/32:Nat):Int):=by
 rw[show(k:Int).tdiv 32=((k/32:Nat):Int) from J,Cr];omega
def IJ(k:Nat):(k:Int).tmod 32=((k%32:Nat):Int):=rfl
def p9{a b ia ib:Nat}[ha:BN a ia][hb:BN b ib](hi:ia<=1000000000:=by decide)(hj:ib<=1000000000:=by decide):PF GB prog 239 [dN a,dN b] (dN (a*b)):=by
 have hla:=d5 (dg a);have hlb:=d5 (dg b);have hba:=oH ha.h hi;have hbb:=oH hb.h hj;refine fn (fu:=⟨6⟩) func239 J J ntmps239 J J (fun C=>?_);refine mg (fu:=⟨4⟩) (X:=Unit) (fun _=>[(0, .d (dN a)),(1, .d (dN b))]) (fun _=>[]) (fun _=>True) [0,1] [] rfl ?_ (fun _=>J) (fun _ hm=>?_)
 .
  refine gx J<|?_;refine cs 15 J J J (fun hg15=>?_) (fun hg15=>?_)
  .
   refine br J J J (fun hc19=>?_) (fun hc19=>?_)
   .
    have hd0:=eG a 0;have hd1:=eG b 0;refine ix _ J (en (k:=0) J (by omega)) J<|ix (hv:=by simp only[ab];exact⟨by omega,⟨(JP _ _),(GD (eG _ _) (eG _ _))⟩⟩) _ J (en (k:=0) J (by omega)) J<|cl J (n8 (u:=(dg a).getD 0 0*(dg b).getD 0 0) (by have:=y5 (eG a 0) (eG b 0);omega)) J<|?_;exact rz J (by rw[sF (by omega),sF (by omega)];rfl)
   .
    exact at_ () trivial
  .
   exact at_ () trivial
 .
  refine ak 31 (.d (vI ((dg a).length:Nat))) J (by rw[hla];rfl) ?_;refine gx (fu:=⟨2⟩) J<|?_;refine ak 33 (.d (vI ((dg b).length:Nat))) J (by rw[hlb];rfl) ?_;refine gx J<|mk (fu:=⟨8⟩) ((List.replicate ((dg a).length+(dg b).length) 0).map dU) J J (by rw[<-qD];rfl) J<|?_;refine ak 37 (.d (vI ((dg a).length:Nat))) J (by rw[hla];rfl) ?_;refine gx J<|?_;refine lp (X:=List Nat×Nat) (fun⟨W,i⟩=>[(0, .d (dN a)),(1, .d (dN b)),(5, .rw 35),(36, .d (dN a)),(37, .d (vI ((dg a).length:Nat))),(38, .d (vI (i:Nat)))]) (fun⟨W,i⟩=>[(35,some (.b 366 1 (W.map dU) true))]) (fun⟨W,i⟩=>W.length=(dg a).length+(dg b).length/\aP W/\i<=(dg a).length/\dv (W.take (i+(dg b).length))=dv ((dg a).take i)*b) (fun⟨W,i⟩=>(dg a).length-i) ⟨List.replicate ((dg a).length+(dg b).length) 0,0⟩ J ⟨by simp, .replicate _,by omega,by rw[List.take_replicate,r6];simp[dv]⟩ (fun _=>J) (fun⟨W,i⟩ hk=>?_);dsimp only at hk⊢;obtain⟨h1,h2,h3,h4⟩:=hk;refine br J J J (fun hc39=>?_) (fun hc39=>?_)
  .
   refine ix (fu:=⟨15⟩) _ J (jF (by omega)) J<|?_;refine ak 44 (.d (vI ((dg b).length:Nat))) J (by rw[hlb];rfl) ?_;refine gx J<|?_;refine lp (X:=List Nat×Nat×Nat) (fun⟨W2,c,k⟩=>[(0, .d (dN a)),(1, .d (dN b)),(5, .rw 35),(6, .d (vI (i:Nat))),(7, .d (dU ((dg a).getD i 0))),(8, .d (.v (.int .u64 (c:Nat)))),(36, .d (dN a)),(37, .d (vI ((dg a).length:Nat))),(38, .d (vI (i:Nat))),(43, .d (dN b)),(44, .d (vI ((dg b).length:Nat))),(45, .d (vI (k:Nat)))]) (fun⟨W2,c,k⟩=>[(35,some (.b 366 1 (W2.map dU) true))]) (fun⟨W2,c,k⟩=>W2.length=(dg a).length+(dg b).length/\aP W2/\c<4294967296/\k<=(dg b).length/\dv (W2.take (i+(dg b).length))+4294967296^(i+k)*c=dv ((dg a).take i)*b+(dg a).getD i 0*(4294967296^i*dv ((dg b).take k))) (fun⟨W2,c,k⟩=>(dg b).length-k) ⟨W,0,0⟩ J ⟨h1,h2,by omega,by omega,by rw[h4];simp[dv]⟩ (fun _=>J) (fun⟨W2,c,k⟩ hk=>?_);dsimp only at hk⊢;obtain⟨g1,g2,g3,g4,g5⟩:=hk;have hlw:=d5 W2;have hw:=g2.get (i+k);have hda:=eG a i;have hdb:=eG b k;refine br (fu2:=⟨10⟩) J J J (fun hc46=>?_) (fun hc46=>?_)
   .
    refine ix (fu:=⟨12⟩) (hv:=by simp only[ab];exact⟨⟨by omega,by omega⟩,⟨(JP _ _),(GD (eG _ _) (eG _ _))⟩⟩) _ J (jF (by omega)) J<|?_;obtain⟨p,hp⟩: ∃p,p=(dg a).getD i 0*(dg b).getD k 0:=⟨_,rfl⟩;have hp1:p<=18446744065119617025:=hp▸y5 hda hdb;refine ak 54 (.d (.v (.int .u64 (p:Nat)))) J (by rw[hp,iQ]) ?_;refine gx J<|lb (fu:=⟨4⟩) _ J (en (k:=i+k) (by omega) (by omega)) J<|?_;obtain⟨t,ht⟩: ∃t,t=p+W2.getD (i+k) 0+c:=⟨_,rfl⟩;refine ak 64 (.d (.v (.int .u64 (t:Nat)))) J (by congr 3;omega) ?_;refine gx (fu:=⟨11⟩) J<|?_;refine ak 70 (.d (dU (t%4294967296))) J (by show FX.d (.v (.int _ _))= .d (.v (.int _ _));congr 3) ?_;refine gx J<|sb (fu:=⟨5⟩) (hv:=by simp only[ab];exact(by decide)) _ ((W2.set (i+k) (t%4294967296)).map dU) J (en (k:=i+k) (by omega) (by omega)) J (by(rw[show((i:Int)+k).toNat=i+k by omega,<-oq])<;>rfl) J<|?_;refine ak 73 (.d (.v (.int .u64 (t/4294967296:Nat)))) J (by rw[zu]) ?_;refine gx J<|?_;exact at_ ⟨W2.set (i+k) (t%4294967296),t/4294967296,k+1⟩ (by dsimp only;exact⟨⟨by simpa using g1,g2.set _ (by omega),by omega,by omega,by rw[fB];exact SO (by omega) (by omega) g5 ht hp⟩,(by omega)⟩)
   .
    obtain rfl:k=(dg b).length:=by omega
    refine ak 78 (.d (vI ((dg b).length:Nat))) J (by rw[hlb];rfl) ?_;refine gx (fu:=⟨3⟩) J<|?_;refine ak 81 (.d (dU c)) J (by show FX.d (.v (.int _ _))= .d (.v (.int _ _));congr 3;omega) ?_;refine gx J<|sb _ ((W2.set (i+(dg b).length) c).map dU) J (en (k:=i+(dg b).length) (by omega) (by omega)) J (by(rw[show((i:Int)+((dg b).length:Nat)).toNat=i+(dg b).length by omega,<-oq])<;>rfl) J<|?_;exact at_ ⟨W2.set (i+(dg b).length) c,i+1⟩ (by dsimp only;exact⟨⟨by simpa using g1,g2.set _ g3,by omega,Qd J (by omega) g5⟩,(by omega)⟩)
  .
   obtain rfl:i=(dg a).length:=by omega
   refine fz 35 J J<|cl J (nO (ds:=W) (by omega)) J<|?_;exact rz J (n5 h2 (by have:=h4;rw[kv (by omega),kv (by omega),bD] at this;exact this))
def HC(x s:Nat):x*2^s=x*2^s%4294967296+4294967296*(x*2^s/4294967296):=by omega
def Pi{x s:Nat}(hx:x<4294967296)(hs:s<32):x*2^s/4294967296<2^s:=by
 rw[iW (by decide),bK (2^s)];exact kN hx (aR _) (dZ (by decide))
def y4{s:Nat}(hs:s<32):2^s*2^(32-s)=4294967296:=by rw[<-dK,show s+(32-s)=32 by omega]
def Px(x s:Nat)(hs:s<32):x*2^s%4294967296=x%2^(32-s)*2^s:=by
 rw[<-y4 hs,bK (2^s),pY]
def Ng{x s:Nat}(hx:x<4294967296)(hs:s<32):x*2^s<18446744073709551616:=by
 have h1:2^s<=2^31:=aM (by decide) (by omega);have:=kN hx h1 (by decide);omega
def PK{w x s:Nat}(hw:w<2^s)(hs:s<32):(BitVec.ofInt 32 (w:Int) ||| BitVec.ofInt 32 ((x*2^s%4294967296:Nat):Int)).toNat=w+x*2^s%4294967296:=by
 rw[Px x s hs];refine rH 32 _ _ _ hw ?_;have h1:x%2^(32-s)+1<=2^(32-s):=cY _ (dZ (by decide));have h2:=bX (2^s) h1;rw[bK (2^(32-s)),y4 hs,cK,mK] at h2;show _<4294967296;omega
def Kv{h:Nat}(hh:h<4294967296):(BitVec.ofInt 32 ((0:Nat):Int) ||| BitVec.ofInt 32 (h:Int)).toNat=h:=by
 have:=rH 32 0 h 0 (by decide) (by simpa using hh);simpa using this
def yz(k:Nat):2^k=4294967296^(k/32)*2^(k%32):=by
 rw[show(4294967296:Nat)=2^32 from J,<-mN,<-dK,oQ]
def getD_set_ne{W:List Nat}{i j d:Nat}(h:i≠j):(W.set i d).getD j 0=W.getD j 0:=by
 rw[aJ,aJ,List.getElem?_set_ne h]
def If{W:List Nat}{i d:Nat}(h:i<W.length):(W.set i d).getD i 0=d:=by
 rw[aJ,oN h];rfl
def Pa{A W:List Nat}{k q s i x:Nat}(hq:q=k/32)(hs:s=k%32)(hl:q+i+1<W.length)(hx:x=A.getD i 0)
  (h:dv (W.take (q+i+1))=dv (A.take i)*2^k):
  dv (((W.set (q+i) (W.getD (q+i) 0+x*2^s%4294967296)).set (q+i+1) (x*2^s/4294967296)).take (q+(i+1)+1))=dv (A.take (i+1))*2^k:=by
 have e1:=FI (W:=W) (j:=q+i) (m:=q+i+1) (d:=W.getD (q+i) 0+x*2^s%4294967296) (by omega) (by omega);rw[show q+(i+1)+1=q+i+1+1 by omega,lv (by rw[aW];omega),fB A,<-hx];have e2:dv ((W.set (q+i) (W.getD (q+i) 0+x*2^s%4294967296)).take (q+i+1))=dv (A.take i)*2^k+4294967296^(q+i)*(x*2^s%4294967296):=by
  rw[cW,h] at e1;omega
 rw[e2,dL,bV,jZ,<-cW,<-HC,cK,yz k,<-hq,<-hs,dK];simp only[bV,jJ,bK]
def wN{a k ia:Nat}[ha:BN a ia](hk:k<=1000000000)(hi:ia<=1000000000:=by decide):PF GB prog 378 [dN a,vI (k:Nat)] (dN (a*2^k)):=by
 have hla:=d5 (dg a);have hba:=oH ha.h hi;refine fn (fu:=⟨9⟩) func378 J J ntmps378 J J (fun C=>?_);refine ak 11 (.d (vI (k/32:Nat))) J (by show FX.d (.v (.int _ _))= .d (.v (.int _ _));rw[uM hk]) ?_;refine gx (fu:=⟨2⟩) J<|?_;refine ak 13 (.d (vI ((dg a).length:Nat))) J (by rw[hla];rfl) ?_;refine gx (fu:=⟨2⟩) J<|?_;refine ak 15 (.d (vI (k/32+(dg a).length+1:Nat))) J (by show FX.d (.v (.int _ _))= .d (.v (.int _ _));congr 3) ?_;refine gx J<|mk (fu:=⟨7⟩) (hv:=by simp only[ab];exact(by decide)) ((List.replicate (k/32+(dg a).length+1) 0).map dU) J J (by rw[<-qD];rfl) J<|?_;refine ak 18 (.d (vI (k%32:Nat))) J (by show FX.d (.v (.int _ _))= .d (.v (.int _ _));rw[IJ]) ?_;refine gx (fu:=⟨9⟩) J<|?_;refine ak 21 (.d (vI ((dg a).length:Nat))) J (by rw[hla];rfl) ?_;refine gx J<|?_;refine lp (X:=List Nat×Nat) (fun⟨W,i⟩=>[(0, .d (dN a)),(1, .d (vI (k:Nat))),(5, .rw 16),(6, .d (.v (.int .u64 (k%32:Nat)))),(20, .d (dN a)),(21, .d (vI ((dg a).length:Nat))),(22, .d (vI (i:Nat)))]) (fun⟨W,i⟩=>[(16,some (.b 366 1 (W.map dU) true))]) (fun⟨W,i⟩=>W.length=k/32+(dg a).length+1/\aP W/\i<=(dg a).length/\dv (W.take (k/32+i+1))=dv ((dg a).take i)*2^k/\W.getD (k/32+i) 0<2^(k%32)/\ ∀j,k/32+i<j->W.getD j 0=0) (fun⟨W,i⟩=>(dg a).length-i) ⟨List.replicate (k/32+(dg a).length+1) 0,0⟩ J ⟨by simp, .replicate _,by omega,by rw[List.take_replicate,r6];simp[dv],by rw[Fg];exact dZ (by decide),fun j _=>Fg _ _⟩ (fun _=>J) (fun⟨W,i⟩ hk=>?_);dsimp only at hk⊢;obtain⟨h1,h2,h3,h4,h5,h6⟩:=hk;have hlw:=d5 W;have hda:=eG a i;have hsk:k%32<32:=cY _ (by decide)
 have hpp:2^(k%32)<=2^31:=aM (by decide) (by omega);refine br J J J (fun hc23=>?_) (fun hc23=>?_)
 .
  refine ix (fu:=⟨11⟩) (hv:=by simp only[ab];exact⟨by omega,(by omega)⟩) _ J (jF (by omega)) J<|?_;have hhi:=Pi hda hsk;have hfit0:=Ng hda hsk;have hor:=PK (x:=(dg a).getD i 0) h5 hsk;have hfit:W.getD (k/32+i) 0+(dg a).getD i 0*2^(k%32)%4294967296<4294967296:=by rw[<-hor];exact BitVec.isLt _
  have hlp:=HC ((dg a).getD i 0) (k%32);refine ak 30 (.d (.v (.int .u64 ((dg a).getD i 0*2^(k%32):Nat)))) J (by show FX.d (.v (.int _ _))= .d (.v (.int _ _));rw[mf _ (k%32) (by omega) hfit0 (by omega)]) ?_;obtain⟨t,ht⟩: ∃t,t=(dg a).getD i 0*2^(k%32):=⟨_,rfl⟩;simp only[<-ht] at hhi hfit0 hor hfit hlp;rw[<-ht];refine gx (fu:=⟨8⟩) J<|?_;refine ak 33 (.d (vI (k/32:Nat))) J (by show FX.d (.v (.int _ _))= .d (.v (.int _ _));rw[uM hk]) ?_;refine gx J<|lb (fu:=⟨2⟩) _ J (en (k:=k/32+i) (by omega) (by omega)) J<|?_;refine ak 39 (.d (dU (t%4294967296))) J (by show FX.d (.v (.int _ _))= .d (.v (.int _ _));congr 3) ?_;refine gx (fu:=⟨1⟩) J<|?_;refine ak 40 _ J (congrArg (fun z:Nat=>FX.d (.v (.int .u32 (z:Int)))) hor) ?_;refine gx J<|sb (fu:=⟨6⟩) _ ((W.set (k/32+i) (W.getD (k/32+i) 0+t%4294967296)).map dU) J (en (k:=k/32+i) (by omega) (by omega)) J (by(rw[show(((k/32:Nat):Int)+i).toNat=k/32+i by omega];simp only[oM];rfl)<;>rfl) J<|?_;refine ak 44 (.d (vI (k/32:Nat))) J (by show FX.d (.v (.int _ _))= .d (.v (.int _ _));rw[uM hk]) ?_;refine gx J<|lb (fu:=⟨0⟩) _ J (en (k:=k/32+i+1) (by omega) (by rw[aW];omega)) J<|?_;refine ak 49 (.d (dU 0)) J (by rw[getD_set_ne (by omega),h6 _ (by omega)]) ?_;refine gx (fu:=⟨2⟩) (hv:=by simp only[ab];exact(by decide)) J<|?_;refine ak 51 (.d (.v (.int .u64 (t/4294967296:Nat)))) J (by rw[zu]) ?_;refine gx (fu:=⟨1⟩) J<|?_;refine ak 52 (.d (dU (t/4294967296))) J (by show FX.d (.v (.int _ _))= .d (.v (.int _ _));congr 3;omega) ?_;refine gx (fu:=⟨1⟩) J<|?_;refine ak 53 _ J (congrArg (fun z:Nat=>FX.d (.v (.int .u32 (z:Int)))) (Kv (by omega))) ?_
  refine gx J<|sb _ (((W.set (k/32+i) (W.getD (k/32+i) 0+t%4294967296)).set (k/32+i+1) (t/4294967296)).map dU) J (en (k:=k/32+i+1) (by omega) (by rw[aW];omega)) J (by(rw[show(((k/32:Nat):Int)+i+1).toNat=k/32+i+1 by omega];simp only[oM];rfl)<;>rfl) J<|?_;exact at_ ⟨(W.set (k/32+i) (W.getD (k/32+i) 0+t%4294967296)).set (k/32+i+1) (t/4294967296),i+1⟩ (by dsimp only;exact⟨⟨by simpa using h1,(h2.set _ hfit).set _ (by omega),by omega,by have q:=Pa (x:=(dg a).getD i 0) J J (by omega) J h4;rw[<-ht] at q;exact q,by rw[show k/32+(i+1)=k/32+i+1 by omega,If (by simp;omega)];exact hhi,fun j hj=>by rw[getD_set_ne (by omega),getD_set_ne (by omega)];exact h6 j (by omega)⟩,(by omega)⟩)
 .
  obtain rfl:i=(dg a).length:=by omega
  refine fz 16 J J<|cl J (nO (ds:=W) (by omega)) J<|?_;exact rz J (n5 h2 (by have:=h4;rw[kv (by omega),kv (by omega),bD] at this;exact this))
def Md{a k:Nat}(h:(dg a).length<=k/32):a/2^k=0:=by
 refine gU ?_;have h1:=gj (i4 a);rw[bD] at h1;have h2:4294967296^(dg a).length<=4294967296^(k/32):=aM (by decide) h;have h3:4294967296^(k/32)*1<=4294967296^(k/32)*2^(k%32):=dT _ (dZ (by decide));rw[yz k];omega
def z'{ds:List Nat}(h:aP ds)(q:Nat):dv (ds.drop q)=dv ds/4294967296^q:=by
 rcases fT ds.length q with hq|hq
 ·rw[oS (by omega)]
  have h1:=gj h;have h2:4294967296^ds.length<=4294967296^q:=aM (by decide) (by omega);rw[gU (by omega)];rfl
 ·have e:=wB ds q hq
  have h1:=gj (h.take q);rw[bW,fV hq] at h1;rw[e,kQ _ _ (dZ (by decide)),gU h1,dV]
def Bj{ds:List Nat}(h:aP ds)(i:Nat):dv ds/4294967296^i=ds.getD i 0+4294967296*ds.getD (i+1) 0+18446744073709551616*(dv ds/4294967296^(i+2)):=by
 have e0:=z' h i;have e2:=z' h (i+2);rw[<-e0,<-e2];have g0:ds.getD i 0=(ds.drop i).getD 0 0:=by rw[aJ,aJ,iR];rfl
 have g1:ds.getD (i+1) 0=(ds.drop i).getD 1 0:=by rw[aJ,aJ,iR]
 have g2:ds.drop (i+2)=(ds.drop i).drop 2:=by rw[qU]
 rw[g0,g1,g2]
 match ds.drop i with
 |[]=>rfl
 |[u]=>simp[dv]
 |u::v::t=>simp only[dv,List.getD_cons_zero,List.getD_cons_succ,qK,gJ];omega
def Q1{D s i u v w Z:Nat}(hs:s<32)(hZ:D/4294967296^i=u+4294967296*v+18446744073709551616*Z)(hw:w=(u+v*4294967296)/2^s%4294967296):(D/2^s)%4294967296^(i+1)=(D/2^s)%4294967296^i+4294967296^i*w:=by
 rw[dL,Nat.mod_mul];congr 2;rw[kY,bK (2^s),<-kY,hZ,hw];have h1:18446744073709551616=2^s*(2^(32-s)*4294967296):=by rw[<-bV,y4 hs]
 rw[h1,bV (2^s),kQ _ _ (dZ (by decide)),bK v];rw[bK (2^(32-s)),bV,lX]
def Qm{a k:Nat}{W:List Nat}{q s:Nat}(hq:q=k/32)(hs:s=k%32)(hl:W.length=(dg a).length-q)(h:dv (W.take ((dg a).length-q))=(dv ((dg a).drop q)/2^s)%4294967296^((dg a).length-q)):dv W=a/2^k:=by
 rw[kv (by omega)] at h;have h1:=gj ((i4 a).drop q);rw[gW] at h1;have h2:=iT (dv ((dg a).drop q)) (2^s);rw[h,dQ (by omega),z' (i4 a),bD,yz k,<-hq,<-hs,kY]
def Ov{a k ia:Nat}[ha:BN a ia](hk:k<=1000000000)(hi:ia<=1000000000:=by decide):PF GB prog 379 [dN a,vI (k:Nat)] (dN (a/2^k)):=by
 have hla:=d5 (dg a);have hba:=oH ha.h hi;refine fn (fu:=⟨10⟩) func379 J J ntmps379 J J (fun C=>?_);refine ak 12 (.d (vI (k/32:Nat))) J (by show FX.d (.v (.int _ _))= .d (.v (.int _ _));rw[uM hk]) ?_;refine gx (fu:=⟨2⟩) J<|?_;refine ak 14 (.d (vI ((dg a).length:Nat))) J (by rw[hla];rfl) ?_;refine gx J<|?_;refine br (fu2:=⟨6⟩) (v2:=fun _=>by simp only[ab];exact(by decide)) J J J (fun hc15=>?_) (fun hc15=>?_)
 .
  exact rz J (by rw[Md (by omega),BO];rfl)
 .
  refine ak 17 (.d (vI (k%32:Nat))) J (by show FX.d (.v (.int _ _))= .d (.v (.int _ _));rw[IJ]) ?_;refine gx (fu:=⟨9⟩) J<|?_;refine ak 21 (.d (vI (k/32:Nat))) J (by show FX.d (.v (.int _ _))= .d (.v (.int _ _));rw[uM hk]) ?_;refine gx J<|qS (fu:=⟨0⟩) (k/32) (dg a).length _ J J (by rw[hla]) J (qo _) (by omega) (by omega) J<|?_;obtain⟨I,hI⟩: ∃I,I=(dg a).drop (k/32):=⟨_,rfl⟩;have hIl:I.length=(dg a).length-k/32:=by rw[hI,gW]
  have hIm:=d5 I;have hIo:aP I:=hI▸(i4 a).drop _;refine ak 22 (.d (d8 I)) J (by show FX.d (.sl _)= .d (.sl _);rw[hI,<-hla,dX,pS]) ?_;refine gx (fu:=⟨7⟩) J<|?_;refine ak 24 (.d (vI (I.length:Nat))) J (by rw[hIm];rfl) ?_;refine gx J<|mk (fu:=⟨8⟩) ((List.replicate I.length 0).map dU) J J (by rw[<-qD];rfl) J<|?_;refine ak 27 (.d (vI (I.length:Nat))) J (by rw[hIm];rfl) ?_;refine gx J<|?_;refine lp (X:=List Nat×Nat) (fun⟨W,i⟩=>[(0, .d (dN a)),(5, .d (.v (.int .u64 (k%32:Nat)))),(6, .d (d8 I)),(7, .rw 25),(26, .d (d8 I)),(27, .d (vI (I.length:Nat))),(28, .d (vI (i:Nat)))]) (fun⟨W,i⟩=>[(25,some (.b 366 1 (W.map dU) true))]) (fun⟨W,i⟩=>W.length=I.length/\aP W/\i<=I.length/\dv (W.take i)=(dv I/2^(k%32))%4294967296^i) (fun⟨W,i⟩=>I.length-i) ⟨List.replicate I.length 0,0⟩ J ⟨by simp, .replicate _,by omega,by simp[dv,Nat.mod_one]⟩ (fun _=>J) (fun⟨W,i⟩ hk=>?_);dsimp only at hk⊢;obtain⟨h1,h2,h3,h4⟩:=hk;have hlw:=d5 W;have hda:=hIo.get i;have hdb:=hIo.get (i+1);have hsk:k%32<32:=cY _ (by decide);refine br J J J (fun hc29=>?_) (fun hc29=>?_)
  .
   refine ix (fu:=⟨13⟩) _ J (jF (by omega)) J<|?_;refine mg (fu:=⟨6⟩) (hv:=fun _ _=>by simp only[ab];exact(by omega)) (X:=Unit) (fun _=>[(0, .d (dN a)),(5, .d (.v (.int .u64 (k%32:Nat)))),(6, .d (d8 I)),(7, .rw 25),(26, .d (d8 I)),(27, .d (vI (I.length:Nat))),(28, .d (vI (i:Nat))),(8, .d (vI (i:Nat))),(10, .d (.v (.int .u64 (I.getD i 0+I.getD (i+1) 0*4294967296:Nat))))]) (fun _=>[(25,some (.b 366 1 (W.map dU) true))]) (fun _=>True) [0,5,6,7,26,27,28,8,10] [25] rfl ?_ (fun _=>J) (fun _ hm=>?_)
   .
    refine gx (fu:=⟨6⟩) J<|?_;refine ak 38 (.d (vI (I.length:Nat))) J (by rw[hIm];rfl) ?_;refine gx J<|?_;refine br J J J (fun hc39=>?_) (fun hc39=>?_)
    .
     refine ix (fu:=⟨3⟩) (hv:=by simp only[ab];exact⟨by omega,(by decide)⟩) _ J (en (k:=i+1) (by omega) (by omega)) J<|?_;refine ak 47 (.d (.v (.int .u64 (I.getD (i+1) 0*4294967296:Nat)))) J (by show FX.d (.v (.int _ _))= .d (.v (.int _ _));rw[mf _ 32 (by decide) (by show _*4294967296<_;omega) J]) ?_;refine gx (fu:=⟨1⟩) J<|?_;refine ak 48 _ J (congrArg (fun z:Nat=>FX.d (.v (.int .u64 (z:Int)))) (rH 64 (I.getD i 0) (I.getD (i+1) 0) 32 hda (by show _+_*4294967296<18446744073709551616;omega))) ?_;refine gx J<|?_;exact at_ () trivial
    .
     refine ak 10 (.d (.v (.int .u64 (I.getD i 0+I.getD (i+1) 0*4294967296:Nat)))) J (by rw[pg (by omega:I.length<=i+1),jL,cN]) ?_;exact at_ () trivial
   .
    refine ak 53 (.d (.v (.int .u64 ((I.getD i 0+I.getD (i+1) 0*4294967296)/2^(k%32):Nat)))) J (by show FX.d (.v (.int _ _))= .d (.v (.int _ _));rw[nA _ (k%32) (by omega) (by omega)]) ?_;refine gx (fu:=⟨1⟩) J<|?_;obtain⟨w,hw⟩: ∃w,w=(I.getD i 0+I.getD (i+1) 0*4294967296)/2^(k%32)%4294967296:=⟨_,rfl⟩;have hw1:w<4294967296:=hw▸cY _ (by decide);refine ak 54 (.d (dU w)) J (by show FX.d (.v (.int _ _))= .d (.v (.int _ _));rw[hw];congr 3) ?_;refine gx J<|sb _ ((W.set i w).map dU) J (jF (by omega)) J (by(rw[<-oq];rfl)<;>rfl) J<|?_;exact at_ ⟨W.set i w,i+1⟩ (by dsimp only;exact⟨⟨by simpa using h1,h2.set _ (by omega),by omega,by rw[lv (by omega),h4];exact(Q1 hsk (Bj hIo i) hw).symm⟩,(by omega)⟩)
  .
   refine fz 25 J J<|cl J (nO (ds:=W) (by omega)) J<|?_;exact rz rfl (n5 h2 (by obtain rfl:i=I.length:=(by omega);rw[hIl] at h1 h4;rw[hI] at h4;exact Qm rfl rfl h1 h4))
def w9{a k:Nat}(h:a<4294967296^k):(dg a).length<=k:=by
 rcases fT k (dg a).length with q|q
 ·have h1:=mw (dm a).2.2 (by intro e;rw[e] at q;simp at q)
  rw[bD] at h1;have h2:4294967296^k<=4294967296^((dg a).length-1):=aM (by decide) (by omega);omega
 ·exact q
def Tp{a:Nat}(h:(dg a).length=2):(dg a).getD 0 0+(dg a).getD 1 0*4294967296=a:=by
 have e:=bD a;revert e
 match dg a,h with
 |[x,y],_=>intro e;simp[dv] at e⊢;omega
def uG(a:Nat):DV:= .tp [.v (.int .u64 ((if a<18446744073709551616 then a else 0:Nat):Int)),vB (decide (a<18446744073709551616))]
def Eq{a:Nat}(h:a<18446744073709551616):uG a= .tp [.v (.int .u64 (a:Int)),vB true]:=by unfold uG;rw[if_pos h,decide_eq_true h]
def Rq{a:Nat}(h: ¬a<18446744073709551616):uG a= .tp [.v (.int .u64 0),vB false]:=by unfold uG;rw[if_neg h,decide_eq_false h];rfl
def oD(a:Nat):a<4294967296^(dg a).length:=by have:=gj (i4 a);rwa [bD] at this
def wC{a ia:Nat}[ha:BN a ia](hi:ia<=1000000000:=by decide):PF GB prog 282 [dN a] (uG a):=by
 have hla:=d5 (dg a);have hba:=oH ha.h hi;have hlt:=oD a;have hd00:=eG a 0;refine fn (fu:=⟨11⟩) func282 J J ntmps282 J J (fun C=>?_);refine ak 5 (.d (vI ((dg a).length:Nat))) J (by rw[hla];rfl) ?_;refine gx J<|?_;refine br J J J (fun hc6=>?_) (fun hc6=>?_)
 .
  exact rz rfl (by rw[show(dg a).length=0 by omega] at hlt;obtain rfl:a=0:=(by omega);rfl)
 .
  refine br J J J (fun hc8=>?_) (fun hc8=>?_)
  .
   refine ix (fu:=⟨2⟩) _ J (en (k:=0) J (by omega)) J<|?_;refine ak 13 (.d (.v (.int .u64 (a:Nat)))) J (by rw[sF (by omega)]) ?_;refine gx J<|?_;exact rz J (by rw[show(dg a).length=1 by omega] at hlt;rw[Eq (by omega),<-sF (a:=a) (by omega),sF (a:=a) (by omega)];rfl)
  .
   refine br J J J (fun hc14=>?_) (fun hc14=>?_)
   .
    have hd0:=eG a 0;have hd1:=eG a 1;refine ix (hv:=by simp only[ab];exact⟨by omega,(by decide)⟩) _ J (en (k:=1) J (by omega)) J<|ix (fu:=⟨3⟩) _ J (en (k:=0) J (by omega)) J<|?_;refine ak 25 (.d (.v (.int .u64 (a:Nat)))) J (congrArg (fun z:Nat=>FX.d (.v (.int .u64 (z:Int)))) (by rw[mf _ 32 (by decide) (by show _*4294967296<_;omega) J,BitVec.or_comm];exact(rH 64 ((dg a).getD 0 0) ((dg a).getD 1 0) 32 hd0 (by show _+_*4294967296<18446744073709551616;omega)).trans (Tp (by omega)))) ?_;refine gx J<|?_;exact rz J (by rw[show(dg a).length=2 by omega] at hlt;rw[Eq (by omega)];rfl)
   .
    exact rz rfl (by rw[Rq];rfl;intro h;have:=w9 (a:=a) (k:=2) (by omega);omega)
def Jh{G:Gh}{ds:List Nat}{v:Value}(hd:aP ds)(h:Is G (d8 ds) v): ∃x:SV,v=x.v/\bw G x ds:=by
 obtain⟨x,rfl,h1⟩:=Ii.1 h;exact⟨x,J,hd,h1⟩
def d6.is{G:Gh}{k n:Nat}{z:SV}(h:d6 k G z n):Is G (dN n) z.v:=(Km h.lt).2 ⟨z,J,h⟩
def ue{G:Gh}{ds:List Nat}{vs:List Value}(hd:aP ds)(h:IsLs G [d8 ds] vs): ∃x:SV,vs=[x.v]/\bw G x ds:=by
 obtain⟨v,m,rfl,h1,h2⟩:=bE.1 h
 cases cb.1 h2
 obtain⟨x,rfl,h3⟩:=Jh hd h1;exact⟨x,J,h3⟩
def uh{G:Gh}{a b:Nat}{vs:List Value}(h:IsLs G [dN a,dN b] vs): ∃x y:SV,vs=[x.v,y.v]/\bw G x (dg a)/\bw G y (dg b):=by
 obtain⟨v,m,rfl,h1,h2⟩:=bE.1 h;obtain⟨y,rfl,h4⟩:=ue (dm b).2.1 h2;obtain⟨x,rfl,h3⟩:=Jh (dm a).2.1 h1;exact⟨x,y,J,h3,h4⟩
section
variable {GB:Gh} {a b i j:Nat}
def jb[h:BN a i](hi:i<=1000000000):(dg a).length<=31250001:=by have:=jH h.h;omega
def J1{ds:List Nat}(hd:aP ds)(hl:ds.length<=1125899906842624):PF GB prog 348 [d8 ds] (vB (decide (cH ds))):=fun G vs _ hv=>by
 obtain⟨x,rfl,hx⟩:=ue hd hv;exact(Rj hx hl).mono fun v G' _ h=>ba.2 h
def pm[h:BN a i](hi:i<=1000000000:=by decide):PF GB prog 310 [dN a] (vI (bl a:Nat)):=fun G vs _ hv=>by
 obtain⟨x,rfl,hx⟩:=ue (dm a).2.1 hv;have:=jb (a:=a) hi;exact(Rt hx (by omega)).mono fun v G' _ h=>ba.2 (by rw[h,bD])
def rG[h:BN a i](hi:i<=1000000000:=by decide):PF GB prog 308 [dN a] (dN a):=fun G vs _ hv=>by
 obtain⟨x,rfl,hx⟩:=ue (dm a).2.1 hv;have:=jb (a:=a) hi;refine(Az (k:=i) hx (by rw[bD];exact h.h) (by omega)).mono fun v G' _ h=>?_;obtain⟨z,rfl,h⟩:=h;rw[bD] at h;exact h.is
def x8(h:a<18446744073709551616):PF GB prog 309 [.v (.int .u64 (a:Nat))] (dN a):=fun G vs _ hv=>by
 obtain⟨v,m,rfl,h1,h2⟩:=bE.1 hv
 cases cb.1 h2
 rw[ba.1 h1];refine(A6 h).mono fun v G' _ h=>?_;obtain⟨z,rfl,h⟩:=h;exact h.is
def AY(h:a<18446744073709551616):PF GB prog 315 [dN a] (.tp [.v (.int .u64 (a:Nat)),vB true]):=fun G vs _ hv=>by
 obtain⟨x,rfl,hx⟩:=ue (dm a).2.1 hv;have:BN a 64:=⟨h⟩;have:=jb (a:=a) (i:=64) (by decide);refine(AT hx (by omega)).mono fun v G' _ e=>?_;rw[bD,if_pos h,decide_eq_true h] at e;subst e;exact kx.2 ⟨_,J, .cons (ba.2 J) (.cons (ba.2 J) .nil)⟩
def RO[h:BN a i][k:BN b j](hi:i<=1000000000:=by decide)(hj:j<=1000000000:=by decide):PF GB prog 362 [dN a,dN b] (dN (a+b)):=fun G vs _ hv=>by
 obtain⟨x,y,rfl,hx,hy⟩:=uh hv;have:=jb (a:=a) hi;have:=jb (a:=b) hj;refine(RG (kk:=i+j+1) hx hy (by rw[bD,bD];exact vE h.h k.h) (by omega) (by omega)).mono fun v G' _ h=>?_;obtain⟨z,rfl,h⟩:=h;rw[bD,bD] at h;exact h.is
def Jb[h:BN a i][k:BN b j](hi:i<=1000000000:=by decide)(hj:j<=1000000000:=by decide):PF GB prog 363 [dN a,dN b] (.tp [dN (a-b),vB (decide (b<=a))]):=fun G vs _ hv=>by
 obtain⟨x,y,rfl,hx,hy⟩:=uh hv;have:=jb (a:=a) hi;have:=jb (a:=b) hj;refine(Qg (kk:=i) hx hy (by rw[bD];exact h.h) (by omega) (by omega)).mono fun v G' _ h=>?_;obtain⟨z,rfl,h⟩:=h;rw[bD,bD] at h⊢;exact kx.2 ⟨_,J, .cons h.is (.cons (ba.2 J) .nil)⟩
def sP[h:BN a i][k:BN b j](hi:i<=1000000000:=by decide)(hj:j<=1000000000:=by decide):PF GB prog 302 [dN a,dN b] (dN (a*b)):=fun G vs _ hv=>by
 obtain⟨x,y,rfl,hx,hy⟩:=uh hv;have:=jb (a:=a) hi;have:=jb (a:=b) hj;refine(N7 (kk:=i+j) hx hy (by rw[bD,bD];exact km h.h k.h) (by omega) (by omega)).mono fun v G' _ h=>?_;obtain⟨z,rfl,h⟩:=h;rw[bD,bD] at h;exact h.is
def HT[h:BN a i][k:BN b j](hb:0<b)(hi:i<=1000000000:=by decide)(hj:j<=1000000000:=by decide):PF GB prog 313 [dN a,dN b] (.tp [dN (a/b),dN (a%b),vB true]):=fun G vs _ hv=>by
 obtain⟨x,y,rfl,hx,hy⟩:=uh hv;have:=jb (a:=a) hi;have:=jb (a:=b) hj;refine(Ck (k1:=i) (k2:=j) hx hy (by rw[bD];exact hb) (by rw[bD,bD];exact fZ (iT _ _) h.h) (by rw[bD,bD];exact nJ (cY _ hb) k.h) (by omega) (by omega)).mono fun v G' _ h=>?_;obtain⟨z,r,rfl,h,h'⟩:=h;rw[bD,bD] at h h';exact kx.2 ⟨_,J, .cons h.is (.cons h'.is (.cons (ba.2 J) .nil))⟩
def Ct[h:BN a i][k:BN b j](hi:i<=1000000000:=by decide)(hj:j<=1000000000:=by decide):PF GB prog 312 [dN a,dN b] (dN (Nat.gcd a b)):=fun G vs _ hv=>by
 obtain⟨x,y,rfl,hx,hy⟩:=uh hv;have:=jb (a:=a) hi;have:=jb (a:=b) hj;have e: ∀k',k'<=i+j->(2:Nat)^k'<=2^(i+j):=fun k' h=>aM (by decide) h;have:=e i (by omega);have:=e j (by omega);have:=h.h;have:=k.h;refine(ON (k:=i+j) (k0:=i+j) hx hy (by rw[bD];omega) (by rw[bD];omega) (by omega) (by rw[bD,bD];exact AS h.h k.h) (by omega) (by omega)).mono fun v G' _ h=>?_;obtain⟨z,rfl,h⟩:=h;rw[bD,bD] at h;exact h.is
end
section
variable {GB:Gh} {C:az} {n:Nat} {Q0:Exit->Act->World->Prop} {fr fr' fr1 fr2:ao} {own own' own1 own2:aB} {cf cf' cf1 cf2:Cf} {vc vc1 vc2:List Prop}
def gH{fb:Func}{e:Exit}{ds:List DV}{rv:DV}(hr:lw tt fr own fb.results.toList=some ds)(hd: ∀G y,Is G (jG ds) y->Is G rv y)(he:tJ e=true:=by rfl):aj prog GB C n (d7 C prog fb (ge C (fun v G'=>Is G' rv v))) fr own (.ex e []):=by
 refine⟨fun ρ G ov a w r=>?_⟩;obtain⟨vs,h1,h2⟩:=tx r hr;have hk:Is G rv (eu vs):=hd _ _ (tW h2)
 cases e with
 |ret=>exact zD (C:=C) (n:=n) (fr:=b9 a) (own:=ov) (G:=G) (K:=fun v G'=>Is G' rv v) h1 hk a w ⟨r.h,r.sz,ci a,r.df⟩
 |normal=>exact CW (C:=C) (n:=n) (fr:=b9 a) (own:=ov) (G:=G) (K:=fun v G'=>Is G' rv v) h1 hk a w ⟨r.h,r.sz,ci a,r.df⟩
 |_=>cases he
def Fz(fr:ao)(cf:Cf):Option (Int×IntKind):=match bu fr cf with
 |some ⟨_, .convert t t' x,_,_,_,_⟩=>match b8 tt t,b8 tt t',aC (aI fr cf) x with
  |some ⟨.int k,_,_,_⟩,some ⟨.int k',_,_,_⟩,some (.d (.v (.int j p)))=>bif kq k j then some (p,k') else none
  |_,_,_=>none
 |_=>none
def cu[fu:Fu]{p:Int}{k':IntKind}(u:Int)(h:Fz fr cf=some (p,k'))(e:k'.wrap p=u)(hgo:bF tt n fu.n fr own cf (.d (.v (.int k' u))) [] []=⟨vc,fr',own',cf'⟩)(k:aj prog GB C n Q0 fr' own' cf')
  (hv:ab vc:=by first|exact trivial|(simp only[ab];kernel_rfl)|(simp only[ab];omega)):aj prog GB C n Q0 fr own cf:=by
 unfold Fz at h;split at h<;>try (cases h;done)
 rename_i hh;split at h<;>try (cases h;done)
 rename_i k0 _ _ _ k1 _ _ _ j p0 hT hT' hx
 cases hk:kq k0 j with
 |false=>rw[hk] at h;cases h
 |true=>
  rw[hk,cond_true] at h;cases h;cases u7 hk;have:=rD (dt _ _ hT) J;have:=rD (dt _ _ hT') J;subst e;refine us hh (.x1 hx fun ρ G ov a w y _ r h1 h2=>?_) hgo hv k;rw[cg] at h2;subst h2;exact⟨_,cg.2 J,wL h1⟩
def Fd(fr:ao)(cf:Cf):Option (Int×IntKind):=match bu fr cf with
 |some ⟨_, .unOp .neg _ x,_,_,_,_⟩=>match aC (aI fr cf) x with
  |some (.d (.v (.int j p)))=>some (p,j)
  |_=>none
 |_=>none
def nu[fu:Fu]{p:Int}{k':IntKind}(u:Int)(h:Fd fr cf=some (p,k'))(e:k'.wrap (0-p)=u)(hgo:bF tt n fu.n fr own cf (.d (.v (.int k' u))) [] []=⟨vc,fr',own',cf'⟩)(k:aj prog GB C n Q0 fr' own' cf')
  (hv:ab vc:=by first|exact trivial|(simp only[ab];kernel_rfl)|(simp only[ab];omega)):aj prog GB C n Q0 fr own cf:=by
 unfold Fd at h;split at h<;>try (cases h;done)
 rename_i hh;split at h<;>cases h;rename_i hx;subst e;exact us hh (.x1 hx fun ρ G ov a w y _ r h1 h2=>by
  rw[cg] at h2;subst h2;exact⟨_,cg.2 J,zc h1⟩) hgo hv k
end
def Aj{x:Nat}:bl x=0↔x=0:=by
 have:= @kd x 0;simp at this;omega
def tc{a:Nat}:0<(dg a).length↔0<a:=by
 have:= @sH a;omega
def eS(neg:Bool)(a:Nat):DV:= .ag [.v (.bool neg),dN a]
def uN(neg:Bool)(a:Nat):eI (zv neg a)= .ag [.v (.bool (neg&&decide (0<a))),dN a]:=by unfold eI;rw[ll,HX]
def SL{n:Bool}{u:Nat}{b:Int}(h:n≠decide (b<0))(hle:b.natAbs<=u):zv n (u-b.natAbs)=zv n u+b:=by cases n<;>simp[zv] at* <;>omega
def LE{n:Bool}{u:Nat}{b:Int}(h:n≠decide (b<0))(hle:u<=b.natAbs):zv (decide (b<0)) (b.natAbs-u)=zv n u+b:=by cases n<;>simp[zv] at* <;>(try rw[if_pos h])<;>(try rw[if_neg (by omega)])<;>omega
def S4{neg:Bool}{ds:List Nat}(hd:aP ds)(hl:ds.length<=1125899906842624):PF GB prog 269 [.ag [.v (.bool neg),d8 ds]] (vB (decide (cH ds/\(neg=true->0<ds.length)))):=by
 refine fn func269 J J ntmps269 J J (fun C=>?_);refine cl J (J1 hd hl) J<|?_;refine csd 6 J J J (fun hg6=>?_) (fun hg6=>?_)
 .
  refine jP 10 J J J (fun hg10=>?_) (fun hg10=>?_)
  .
   exact rz J (by unfold vB;congr 2;simp_all [jG])
  .
   exact rz J (by unfold vB;congr 2;simp_all [jG])
 .
  exact rz J (by unfold vB;congr 2;simp_all [jG])
def D4{n:Bool}{a i:Nat}[h:BN a i](hi:i<=1000000000:=by decide):PF GB prog 311 [eS n a] (vI (zv n a).sign):=by
 refine fn func311 J J ntmps311 J J (fun C=>?_);refine cl J (pm (a:=a) hi) J<|?_;refine br J J J (fun hc3=>?_) (fun hc3=>?_)
 .
  exact rz J (by have:=Aj.1 (Int.ofNat.inj hc3);subst this;cases n<;>rfl)
 .
  refine bb J J J (fun hc8=>?_) (fun hc8=>?_)
  .
   exact rz J (by subst hc8;rw[eX (by have:a≠0:=(fun e=>hc3 (by rw[e];rfl));simp[zv];omega)];rfl)
  .
   exact rz J (by subst hc8;rw[fW (by have:a≠0:=(fun e=>hc3 (by rw[e];rfl));simp[zv];omega)];rfl)
def y6{m:Int}(h0: -9223372036854775808<=m)(h1:m<=9223372036854775807):PF GB prog 289 [vI m] (eI m):=by
 refine fn (fu:=⟨8⟩) func289 J J ntmps289 J J (fun C=>?_);refine cu ((m%18446744073709551616:Int)) J (ju _) J<|?_;refine br (fu1:=⟨2⟩) (fu2:=⟨0⟩) J J J (fun hc7=>?_) (fun hc7=>?_)
 .
  refine nu ((m.natAbs:Nat)) J (by rw[ju];omega) J<|cl J (x8 (a:=m.natAbs) (by omega)) J<|?_;exact rz J J
 .
  refine ak 3 (.d (.v (.int .u64 (m.natAbs:Nat)))) J (by congr 3;omega) ?_;refine gx J<|cl J (x8 (a:=m.natAbs) (by omega)) J<|?_;exact rz J J
def E2{n:Bool}{a:Nat}(h:a<4611686018427387904):PF GB prog 314 [eS n a] (.tp [vI (zv n a),vB true]):=by
 refine fn func314 J J ntmps314 J J (fun C=>?_);refine cl (fu:=⟨2⟩) J (AY (a:=a) (by omega)) J<|mB J J J<|?_;refine jP 18 J J J (fun hg18=>?_) (fun hg18=>?_)
 .
  refine br (fu1:=⟨3⟩) J J J (fun hc12=>?_) (fun hc12=>?_)
  .
   refine nu (fu:=⟨0⟩) (((18446744073709551616-a)%18446744073709551616:Int)) J (by rw[ju];omega) J<|cu (zv n a) J (by subst hg18;rw[Cr];simp only[zv,if_true];omega) J<|?_;exact rz J J
  .
   exact absurd (by omega) hc12
 .
  refine jP 32 J J J (fun hg32=>?_) (fun hg32=>?_)
  .
   refine br J J J (fun hc25=>?_) (fun hc25=>?_)
   .
    exact rz J (by subst hg18;rfl)
   .
    exact absurd (by omega) hc25
  .
   subst hg18;cases hg32
def sC{neg:Bool}{a i:Nat}[h:BN a i](hi:i<=1000000000:=by decide):PF GB prog 307 [eS neg a] (eI (zv neg a)):=by
 refine fn func307 J J ntmps307 J J (fun C=>?_);refine cl J (rG hi) J<|?_;refine jP 9 J J J (fun hg9=>?_) (fun hg9=>?_)
 .
  exact rz J (by rw[uN];simp[hg9,tc,jG])
 .
  exact rz J (by rw[uN];simp[hg9,tc,jG])
def uX{neg:Bool}{a:Nat}:PF GB prog 360 [.v (.bool neg),dN a] (eI (zv neg a)):=by
 refine fn func360 J J ntmps360 J J (fun C=>?_);refine jP 6 J J J (fun hg6=>?_) (fun hg6=>?_)
 .
  exact rz J (by rw[uN];simp[hg6,tc,jG])
 .
  exact rz J (by rw[uN];simp[hg6,tc,jG])
def Pz{m:Int}{i:Nat}[h:BI m i](hi:i<=1000000000:=by decide):PF GB prog 339 [eI m] (eI (-m)):=by
 refine fn func339 J J ntmps339 J J (fun C=>?_);refine cl J (sC (neg:=!decide (m<0)) (a:=m.natAbs) hi) J<|?_;exact rz J (by rw[SH,i8];rfl)
def Am{a b:Int}{i j:Nat}[h:BI a i][k:BI b j](hi:i<=1000000000:=by decide)(hj:j<=1000000000:=by decide):PF GB prog 301 [eI a,eI b] (eI (a*b)):=by
 refine fn func301 J J ntmps301 J J (fun C=>?_);refine cl J (sP (a:=a.natAbs) (b:=b.natAbs) hi hj) J<|cl J uX J<|?_;exact rz J (by rw[show(!(decide (a<0)==decide (b<0)))=(decide (a<0) !=decide (b<0)) from J,E6,i8,i8];rfl)
def SM{n1:Bool}{u:Nat}{b:Int}{i j:Nat}[h:BN u i][k:BI b j](hi:i<=1000000000:=by decide)(hj:j<=1000000000:=by decide):PF GB prog 303 [eS n1 u,eI b] (eI (zv n1 u+b)):=by
 refine fn func303 J J ntmps303 J J (fun C=>?_);refine bb J J J (fun hc13=>?_) (fun hc13=>?_)
 .
  refine cl J (RO (b:=b.natAbs) hi hj) J<|cl J uX J<|?_;exact rz J (by rw[RT,show n1=decide (b<0) from by simpa using hc13,i8];rfl)
 .
  refine cl J (Jb (b:=b.natAbs) hi hj) J<|?_;refine bd J J J (fun hc30=>?_) (fun hc30=>?_)
  .
   refine cl J uX J<|?_;exact rz J (by rw[SL (by simpa using hc13) hc30];rfl)
  .
   refine cl J (Jb (a:=b.natAbs) hj hi) J<|cl J uX J<|?_;exact rz J (by rw[LE (by simpa using hc13) (by omega)];rfl)
def OK{a b:Int}{i j:Nat}[h:BI a i][k:BI b j](hi:i<=1000000000:=by decide)(hj:j<=1000000000:=by decide):PF GB prog 303 [eI a,eI b] (eI (a+b)):=(SM (n1:=decide (a<0)) (u:=a.natAbs) hi hj).to (by rw[i8])
def dF(q:Rat):Prop:= ¬(q.num.natAbs<4611686018427387904/\q.den<4611686018427387904)
instance (q:Rat):Decidable (dF q):=inferInstanceAs (Decidable (¬_))
def c7(q:Rat):Int:=if dF q then 0 else q.num
def c8(q:Rat):Int:=if dF q then 0 else(q.den:Int)-1
def cF(q:Rat):DV:= .op (decide (dF q)) [.v (.bool (decide (q.num<0))),dN q.num.natAbs,dN q.den]
def eF(q:Rat):DV:= .ag [vI (c7 q),vI (c8 q),cF q]
abbrev No {q:Rat} (h:decide (dF q)=true):dF q:=of_decide_eq_true h
abbrev nE {q:Rat} (h:decide (dF q)=false): ¬dF q:=of_decide_eq_false h
abbrev QU {q:Rat} (h: ¬decide (dF q)=false):dF q:=by simpa using h
abbrev kg {q:Rat} (h: ¬decide (dF q)=true): ¬dF q:=by simpa using h
def jB{q:Rat}(h: ¬dF q):c7 q=q.num:=if_neg h
def kC{q:Rat}(h: ¬dF q):c8 q=(q.den:Int)-1:=if_neg h
def lO{q:Rat}(h: ¬dF q):q.num.natAbs<4611686018427387904:=(Decidable.not_not.1 h).1
def lr{q:Rat}(h: ¬dF q):q.den<4611686018427387904:=(Decidable.not_not.1 h).2
def JQ{q:Rat}(h:dF q):q≠0:=fun e=>by subst e;exact h ⟨by decide,by decide⟩
def ng{q:Rat}{m d:Int}{r:DV}(h: ¬dF q)(h1:q.num=m)(h2:(q.den:Int)-1=d)(e:r= .ag [vI m,vI d, .v (.pointer none)])(G:Gh)(y:Value)(k:Is G r y):Is G (eF q) y:=by
 subst e h1 h2;obtain⟨l,rfl,g⟩:=dP.1 k;obtain⟨y1,l1,rfl,k1,g1⟩:=bE.1 g;obtain⟨y2,l2,rfl,k2,g2⟩:=bE.1 g1;obtain⟨y3,l3,rfl,k3,g3⟩:=bE.1 g2;exact dP.2 ⟨_,J, .cons (by rw[jB h];exact k1) (.cons (by rw[kC h];exact k2) (.cons (qg.2 (.inl ⟨decide_eq_false h,ba.1 k3⟩)) g3))⟩
def HJ{q:Rat}{n:Bool}{a d:Nat}{r:DV}(h:dF q)(h1:decide (q.num<0)=n)(h2:q.num.natAbs=a)(h3:q.den=d)(e:r= .ag [vI 0,vI 0, .pt [.v (.bool n),dN a,dN d]])(G:Gh)(y:Value)(k:Is G r y):Is G (eF q) y:=by
 subst e h1 h2 h3;obtain⟨l,rfl,g⟩:=dP.1 k;obtain⟨y1,l1,rfl,k1,g1⟩:=bE.1 g;obtain⟨y2,l2,rfl,k2,g2⟩:=bE.1 g1;obtain⟨y3,l3,rfl,k3,g3⟩:=bE.1 g2;exact dP.2 ⟨_,J, .cons (by unfold c7;rw[if_pos h];exact k1) (.cons (by unfold c8;rw[if_pos h];exact k2) (.cons (qg.2 (.inr ⟨decide_eq_true h,k3⟩)) g3))⟩
def rO(G:Gh)(y:Value)(k:Is G (.ag [vI 0,vI 0, .v (.pointer none)]) y):Is G (eF 0) y:=ng (fun h=>JQ h J) J J J G y k
def GJ{m:Int}(h:m.natAbs<4611686018427387904)(G:Gh)(y:Value)(k:Is G (.ag [vI m,vI 0, .v (.pointer none)]) y):Is G (eF (m:Rat)) y:=
 ng (fun k=>k ⟨by simpa using h,by rw[oJ];decide⟩) (oX m) (by rw[oJ];rfl) J G y k
def Di{n:Bool}{a d:Nat}(hd:0<d):(mkRat (zv n a) d).num=zv n (a/Nat.gcd a d)/\(mkRat (zv n a) d).den=d/Nat.gcd a d:=by
 obtain⟨h1,h2⟩:=Hj (m:=zv n a) hd;rw[ll] at h1 h2;exact⟨by rw[h1,Sz (iX _ _)],h2⟩
def Ij{n:Bool}{a d a' d':Nat}(hd:0<d)(ha:a'=a/Nat.gcd a d)(hd':d'=d/Nat.gcd a d)(h1:a'<4611686018427387904)(h2:d'<4611686018427387904)(G:Gh)(y:Value)(k:Is G (.ag [vI (zv n a'),vI ((d':Int)-1), .v (.pointer none)]) y):Is G (eF (mkRat (zv n a) d)) y:=by
 obtain⟨e1,e2⟩:=Di (n:=n) (a:=a) hd;rw[<-ha] at e1;rw[<-hd'] at e2;exact ng (fun k=>k ⟨by rw[e1,ll];exact h1,by rw[e2];exact h2⟩) e1 (by rw[e2]) J G y k
def wu{n:Bool}{a d a' d':Nat}(hd:0<d)(ha:a'=a/Nat.gcd a d)(hd':d'=d/Nat.gcd a d)(h: ¬(a'<4611686018427387904/\d'<4611686018427387904))(G:Gh)(y:Value)(k:Is G (.ag [vI 0,vI 0, .pt [.v (.bool (decide (zv n a'<0))),dN (zv n a').natAbs,dN d']]) y):Is G (eF (mkRat (zv n a) d)) y:=by
 obtain⟨e1,e2⟩:=Di (n:=n) (a:=a) hd;rw[<-ha] at e1;rw[<-hd'] at e2;exact HJ (fun k=>h ⟨by rw[e1,ll] at k;exact k.1,by rw[e2] at k;exact k.2⟩) (by rw[e1]) (by rw[e1]) e2 J G y k
def NP{a d:Nat}(hd:0<d)(h: ¬(1:Int)<(bl (Nat.gcd a d):Nat)):Nat.gcd a d=1:=by
 have h1:Nat.gcd a d≠0:=fun e=>by rw[Nat.gcd_eq_zero_iff] at e;omega
 have h2:Nat.gcd a d<2^1:=kd.1 (by omega);omega
def jy{x:Nat}:(((bl x:Nat):Int)<=62)↔x<4611686018427387904:=Lj
def PF.ofI{P:Program}{f:FuncId}{ds ds':List DV}{r:DV}(h:PF GB P f ds r)(k: ∀G vs,IsLs G ds' vs->IsLs G ds vs):PF GB P f ds' r:=fun G vs hg hv=>h G vs hg (k G vs hv)
def qq{n:Bool}{a d i j:Nat}[h:BN a i][k:BN d j](hi:i<=450000000:=by decide)(hj:j<=450000000:=by decide):PF GB prog 218 [eS n a,dN d] (eF (mkRat (zv n a) d)):=by
 refine fn func218 J J ntmps218 J J (fun C=>?_);refine cl J (pm (a:=d) (by omega)) J<|?_;refine cs 13 J J J (fun hg13=>?_) (fun hg13=>?_)
 .
  exact gH rfl (by obtain rfl:=Aj.1 (Int.ofNat.inj hg13);rw[Rat.mkRat_zero];exact rO)
 .
  have hd0:0<d:=by have:= @Aj d;omega
  have hg0:0<Nat.gcd a d:=lT _ hd0;refine cl J (D4 (n:=n) (a:=a) (by omega)) J<|?_;refine br J J J (fun hc17=>?_) (fun hc17=>?_)
  .
   exact gH J (by rw[nU.1 hc17,Rat.zero_mkRat];exact rO)
  .
   refine cl J (Ct (a:=a) (b:=d) (by omega) (by omega)) J<|cl J (pm (a:=Nat.gcd a d) (i:=i+j) (by omega)) J<|?_;refine br J J J (fun hc25=>?_) (fun hc25=>?_)
   .
    obtain⟨a',ea⟩: ∃a',a'=a/Nat.gcd a d:=⟨_,rfl⟩;obtain⟨d',ed⟩: ∃d',d'=d/Nat.gcd a d:=⟨_,rfl⟩;have hba:BN a' i:=ea▸inferInstance;have hbd:BN d' j:=ed▸inferInstance;refine cl (fu:=⟨2⟩) J (HT (a:=a) (b:=Nat.gcd a d) (j:=i+j) hg0 (by omega) (by omega)) J<|?_;refine ak 31 (.d (dN a')) J (by rw[ea]) ?_;refine gx J<|cl (fu:=⟨2⟩) J (HT (a:=d) (b:=Nat.gcd a d) (j:=i+j) hg0 (by omega) (by omega)) J<|?_;refine ak 39 (.d (dN d')) J (by rw[ed]) ?_;refine gx J<|cl J (pm (h:=hba) (by omega)) J<|?_;refine cs 46 J J J (fun hg46=>?_) (fun hg46=>?_)
    .
     refine cl J (pm (h:=hbd) (by omega)) J<|?_;refine br J J J (fun hc50=>?_) (fun hc50=>?_)
     .
      have hs2:=jy.1 hc50;refine cl J (E2 (jy.1 hg46)) J<|cl J (AY (by have:=jy.1 hc50;omega)) J<|?_;exact gH J (Ij hd0 ea ed (jy.1 hg46) (jy.1 hc50))
     .
      refine cl J (sC (neg:=n) (h:=hba) (by omega)) J<|cl J (rG (h:=hbd) (by omega)) J<|fz 71 J J<|?_;exact gH J (wu hd0 ea ed (fun e=>hc50 (jy.2 e.2)))
    .
     refine cl J (sC (neg:=n) (h:=hba) (by omega)) J<|cl J (rG (h:=hbd) (by omega)) J<|fz 71 J J<|?_;exact gH J (wu hd0 ea ed (fun e=>hg46 (jy.2 e.1)))
   .
    have hg1:=NP hd0 hc25;have ea:a=a/Nat.gcd a d:=by rw[hg1,qR]
    have ed:d=d/Nat.gcd a d:=by rw[hg1,qR]
    have hba:=h;have hbd:=k;refine cl J (pm (h:=hba) (by omega)) J<|?_;refine cs 46 J J J (fun hg46=>?_) (fun hg46=>?_)
    .
     refine cl J (pm (h:=hbd) (by omega)) J<|?_;refine br J J J (fun hc50=>?_) (fun hc50=>?_)
     .
      have hs2:=jy.1 hc50;refine cl J (E2 (jy.1 hg46)) J<|cl J (AY (by have:=jy.1 hc50;omega)) J<|?_;exact gH J (Ij hd0 ea ed (jy.1 hg46) (jy.1 hc50))
     .
      refine cl J (sC (neg:=n) (h:=hba) (by omega)) J<|cl J (rG (h:=hbd) (by omega)) J<|fz 71 J J<|?_;exact gH J (wu hd0 ea ed (fun e=>hc50 (jy.2 e.2)))
    .
     refine cl J (sC (neg:=n) (h:=hba) (by omega)) J<|cl J (rG (h:=hbd) (by omega)) J<|fz 71 J J<|?_;exact gH J (wu hd0 ea ed (fun e=>hg46 (jy.2 e.1)))
def vd{q:Rat}:PF GB prog 271 [eF q] (vB (decide (q=0))):=by
 refine fn func271 J J ntmps271 J J (fun C=>?_);refine cs 6 J J J (fun hg6=>?_) (fun hg6=>?_)
 .
  exact rz J (by rw[jB (nE hg6)];show DV.v (.bool (decide _))= .v (.bool _);congr 2;exact decide_eq_decide.2 ⟨fun e=>kK.1 e,fun e=>by rw[e];rfl⟩)
 .
  exact rz J (by rw[decide_eq_false (JQ (QU hg6))];rfl)
def uA{m:Int}(h:m.natAbs<9223372036854775808):PF GB prog 350 [vI m] (.v (.int .u64 (m.natAbs:Nat))):=by
 refine fn func350 J J ntmps350 J J (fun C=>?_);refine br J J J (fun hc4=>?_) (fun hc4=>?_)
 .
  exact rz J (by show DV.v (.int _ _)=_;congr 2;omega)
 .
  exact rz J (by show DV.v (.int _ _)=_;congr 2;omega)
def lC{q:Rat}{i:Nat}[h:BQ q i](hi:i<=900000000:=by decide):PF GB prog 216 [eF q] (dN q.den):=by
 refine fn func216 J J ntmps216 J J (fun C=>?_);refine br (v1:=fun hc5=>by simp only[ab];exact hc5) (fu2:=⟨6⟩) J J J (fun hc5=>?_) (fun hc5=>?_)
 .
  refine cl J (rG (a:=q.den) (by omega)) J<|?_;exact rz J J
 .
  have hd:=q.den_nz;have hs:=lr (kg hc5);refine ak 13 (.d (vI ((q.den:Int)-1))) J (by rw[kC (kg hc5)]) ?_;refine gx (fu:=⟨2⟩) J<|?_;refine ak 15 (.d (.v (.int .u64 (q.den:Nat)))) J (by congr 3;omega) ?_;refine gx J<|cl J (x8 (a:=q.den) (by omega)) J<|?_;exact rz J J
def qE{q:Rat}{i:Nat}[h:BQ q i](hi:i<=900000000:=by decide):PF GB prog 215 [eF q] (eI q.num):=by
 refine fn func215 J J ntmps215 J J (fun C=>?_);refine br (v1:=fun hc5=>by simp only[ab];exact hc5) (fu2:=⟨6⟩) J J J (fun hc5=>?_) (fun hc5=>?_)
 .
  refine cl J (sC (neg:=decide (q.num<0)) (a:=q.num.natAbs) (by omega)) J<|?_;exact rz J (by rw[i8];rfl)
 .
  have hs:=lO (kg hc5);refine ak 13 (.d (vI q.num)) J (by rw[jB (kg hc5)]) ?_;refine gx J<|cl J (y6 (by omega) (by omega)) J<|?_;exact rz J J
def pd{q:Rat}{i:Nat}[h:BQ q i](hi:i<=900000000:=by decide):PF GB prog 245 [eF q] (eF (-q)):=by
 refine fn func245 J J ntmps245 J J (fun C=>?_);refine br (v1:=fun hc5=>by simp only[ab];exact hc5) (fu2:=⟨6⟩) J J J (fun hc5=>?_) (fun hc5=>?_)
 .
  refine cl (fu:=⟨6⟩) (hv:=by simp only[ab];exact hc5) J (Pz (m:=q.num) (by omega)) J<|PP J J<|?_;exact gH J (HJ (q:= -q) (fun k=>No hc5 (by rw[kR,gK,nQ] at k;exact k)) (by rw[kR]) (by rw[kR]) (nQ q) J)
 .
  have hs:=lO (kg hc5);refine ak 21 (.d (vI q.num)) J (by rw[jB (kg hc5)]) ?_;refine gx J<|?_;exact gH J (ng (q:= -q) (fun k=>k (by rw[kR,gK,nQ];exact⟨hs,lr (kg hc5)⟩)) (by rw[kR]) (by rw[nQ,kC (kg hc5)]) J)
def jv{q:Rat}{i:Nat}[h:BQ q i](hi:i<=900000000:=by decide):PF GB prog 228 [eF q] (vI q.num.sign):=by
 refine fn func228 J J ntmps228 J J (fun C=>?_);refine br (v1:=fun hc3=>by simp only[ab];exact hc3) J J J (fun hc3=>?_) (fun hc3=>?_)
 .
  refine cl J (D4 (n:=decide (q.num<0)) (a:=q.num.natAbs) (by omega)) J<|?_;exact rz J (by rw[i8];rfl)
 .
  have hs:=jB (kg hc3);refine br J J J (fun hc13=>?_) (fun hc13=>?_)
  .
   exact rz J (by rw[eX (by omega)];rfl)
  .
   refine br J J J (fun hc17=>?_) (fun hc17=>?_)
   .
    exact rz J (by rw[fW (by omega)];rfl)
   .
    exact rz J (by rw[show q.num=0 by omega];rfl)
end Go.Sx
end
