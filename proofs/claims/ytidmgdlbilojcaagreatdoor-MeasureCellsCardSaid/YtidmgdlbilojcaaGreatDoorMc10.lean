import Derived.Test.YtidmgdlbilojcaaGreatDoorMc9
set_option linter.unusedSimpArgs false
set_option maxHeartbeats 2000000
set_option maxRecDepth 100000
set_option linter.unusedVariables false
section
namespace Go.Sx
open Go Go.Proofs Tryz
theorem aoS{G:Gh}{x y:Nat}(hx:x<18446744073709551616)(hy:y<18446744073709551616):Fn prog 212 [.int .u64 (x:Nat), .int .u64 (y:Nat)] G (fun v _=>v= .tuple #[.int .u64 ((x*y/18446744073709551616:Nat):Int), .int .u64 ((x*y%18446744073709551616:Nat):Int)]):=
 Fn.of_calls (G:=G) (ai6 func212 J J) (fun w=>Tryz.bits_Mul64 x y hx hy w)
theorem anZ(a b:Int):a*b=if(a<0)↔(b<0) then((a.natAbs*b.natAbs:Nat):Int) else-((a.natAbs*b.natAbs:Nat):Int):=by
 rcases(by omega:a<0∨0≤a) with h|h<;>rcases(by omega:b<0∨0≤b) with h2|h2
 ·rw[if_pos (by simp[h,h2]),jQ,kN (pU h),kN (pU h2),Int.neg_mul_neg]
 ·rw[if_neg (by simp[h];omega),jQ,kN (pU h),nK h2,Int.neg_mul,Int.neg_neg]
 ·rw[if_neg (by simp[h2];omega),jQ,nK h,kN (pU h2),sQ,Int.neg_neg]
 ·rw[if_pos (by constructor<;>intro<;>omega),jQ,nK h,nK h2]
theorem atn{p:Int}(h:p.natAbs<9223372036854775808):IntKind.i64.wrap p=p:=by rw[al2];omega

theorem alS{n:Int}{d:Nat}(h:n<0):mkRat (-(d:Int)) n.natAbs=Rat.divInt (d:Int) n:=by
 rw[←Rat.divInt_ofNat,kN (pU h),Rat.neg_divInt_neg]
theorem ajZ{q:Rat}(h:q.num<0):(q⁻¹).num= -(q.den:Int)∧(q⁻¹).den=q.num.natAbs:=by
 rw[Rat.num_inv,Rat.den_inv,if_neg (by omega),fL h]
 omega
theorem ajE{q:Rat}(h:0<q.num):(q⁻¹).num=(q.den:Int)∧(q⁻¹).den=q.num.natAbs:=by
 rw[Rat.num_inv,Rat.den_inv,if_neg (by omega),gR h]
 omega
theorem al9{q:Rat}(h:q.den=1):q=(q.num:Int):=by
 conv=>lhs;rw[←Rat.mkRat_self q,h,rS]
def abd(a b:Rat):Int:=if a<b then-1 else if b<a then 1 else 0
theorem agf(a b:Rat):(a-b).num<0↔a<b:=by
 rw[←Rat.not_le,Rat.le_iff_sub_nonneg,←Rat.num_nonneg];omega
theorem ajc(a b:Rat):0<(a-b).num↔b<a:=by
 have h:=agf b a
 have h2:(b-a).num= -(a-b).num:=by rw[←oK,Rat.neg_sub]
 rw[h2] at h
 rw[←h];omega
theorem aio(a b:Rat):Int.sign (a-b).num=abd a b:=by
 unfold abd
 split
 ·rename_i h;exact fL ((agf a b).2 h)
 ·rename_i h
  split
  ·rename_i h2;exact gR ((ajc a b).2 h2)
  ·rename_i h2
   rw[←agf] at h
   rw[←ajc] at h2
   rw[show(a-b).num=0 by omega];rfl
theorem avd{a b:Rat}(h:a.den=b.den):a<b↔a.num<b.num:=by
 rw[Rat.lt_iff,h]
 have:(0:Int)<b.den:=by have:=b.den_pos;omega
 exact⟨fun h2=>Int.lt_of_mul_lt_mul_right h2 (pU this),fun h2=>Int.mul_lt_mul_of_pos_right h2 this⟩
theorem aeS(a b:Rat):abd a b=0↔a=b:=by
 unfold abd
 constructor
 ·intro h
  split at h
  ·omega
  ·rename_i h1
   split at h
   ·omega
   ·rename_i h2
    exact Rat.le_antisymm (Rat.not_lt.1 h2) (Rat.not_lt.1 h1)
 ·intro h
  subst h
  rw[if_neg (Rat.not_lt.2 fU),if_neg (Rat.not_lt.2 fU)]
theorem aqw(a b:Rat):0<abd a b↔b<a:=by
 unfold abd
 constructor
 ·intro h
  split at h
  ·omega
  ·split at h
   ·assumption
   ·omega
 ·intro h
  rw[if_neg (fun h2=>Rat.not_lt.2 (cN h) h2),if_pos h];decide
theorem ara(a b:Rat):abd a b<0↔a<b:=by
 unfold abd
 constructor
 ·intro h
  split at h
  ·assumption
  ·split at h<;>omega
 ·intro h
  rw[if_pos h];decide
def rgcd(a b:Rat):Rat:=mkRat ((Nat.gcd (a.num.natAbs*b.den) (b.num.natAbs*a.den):Nat):Int) (a.den*b.den)
theorem ag6(a b:Int):rgcd a b=((Nat.gcd a.natAbs b.natAbs:Nat):Int):=by
 unfold rgcd
 show mkRat ((Nat.gcd (a.natAbs*1) (b.natAbs*1):Nat):Int) (1*1)=_
 rw[iK,iK,iK,rS]
theorem aD3{a b m:Nat}(ha:a<m)(hb:b<m):Nat.gcd a b<m:=by
 rcases fT a with h|h
 ·rw[h,Nat.gcd_zero_left];exact hb
 ·exact eY (Nat.gcd_le_left _ h) ha
structure LV where
 a:RV
 b:RV
 c:RV
def LV.v(z:LV):Value:= .agg ⟨[.int .i64 z.a.n, .int .i64 z.a.d, .pointer z.a.p, .int .i64 z.b.n, .int .i64 z.b.d, .pointer z.b.p, .int .i64 z.c.n, .int .i64 z.c.d, .pointer z.c.p]⟩
structure LnQ where
 a:Int
 b:Int
 c:Int
structure IsL (k:Nat) (G:Gh) (z:LV) (l:LnQ):Prop where
 a:IsR k G z.a (l.a:Rat)
 b:IsR k G z.b (l.b:Rat)
 c:IsR k G z.c (l.c:Rat)
def LnQ.ok(l:LnQ):Prop:= ¬(l.a=0∧l.b=0)∧Nat.gcd (Nat.gcd l.a.natAbs l.b.natAbs) l.c.natAbs=1
def okI(neg:Bool)(ds:List Nat):Prop:=Nrm ds∧(neg=true→ds≠[])
structure PV where
 x:RV
 y:RV
def PV.v(z:PV):Value:= .agg ⟨[.int .i64 z.x.n, .int .i64 z.x.d, .pointer z.x.p, .int .i64 z.y.n, .int .i64 z.y.d, .pointer z.y.p]⟩
structure PtQ where
 x:Rat
 y:Rat
structure IsP (k:Nat) (G:Gh) (z:PV) (p:PtQ):Prop where
 x:IsR k G z.x p.x
 y:IsR k G z.y p.y
theorem aga(a:Int): -(a:Rat)=((-a:Int):Rat):=rfl
def LnQ.rev(l:LnQ):LnQ:=⟨-l.a, -l.b, -l.c⟩
def LnQ.nor(l:LnQ):PtQ:=⟨l.a,l.b⟩
def LnQ.dir(l:LnQ):PtQ:=⟨l.b, -(l.a:Rat)⟩
def PtQ.dot(p q:PtQ):Rat:=p.x*q.x+p.y*q.y
def PtQ.cross(p q:PtQ):Rat:=p.x*q.y-p.y*q.x
def PtQ.scale(p:PtQ)(c:Rat):PtQ:=⟨p.x*c,p.y*c⟩
def PtQ.add(p q:PtQ):PtQ:=⟨p.x+q.x,p.y+q.y⟩
def LnQ.value(l:LnQ)(p:PtQ):Rat:=l.nor.dot p+(l.c:Rat)
def LnQ.base(l:LnQ):PtQ:=l.nor.scale (-(l.c:Rat)/l.nor.dot l.nor)
def LnQ.at(l:LnQ)(t:Rat):PtQ:=l.base.add (l.dir.scale t)
end Go.Sx
end
section
namespace Go.Sx
open Go
def dU(d:Nat):DV:= .v (.int .u32 (d:Int))
def dLi(ds:List Nat):DV:= .sl (ds.map dU)
def dN(n:Nat):DV:= .sl ((dg n).map dU)
def dD(n:Nat):DV:= .sl (if n=1 then [] else(dg n).map dU)
def eI(m:Int):DV:= .ag [.v (.bool (decide (m<0))),dN m.natAbs]
def eQ(q:Rat):DV:= .ag [.v (.bool (decide (q.num<0))),dN q.num.natAbs,dD q.den]
def eP(p:PtQ):DV:= .ag [.v (.bool (decide (p.x.num<0))),dN p.x.num.natAbs,dD p.x.den, .v (.bool (decide (p.y.num<0))),dN p.y.num.natAbs,dD p.y.den]
def eL(l:LnQ):DV:= .ag [.v (.bool (decide (l.a<0))),dN l.a.natAbs, .v (.bool (decide (l.b<0))),dN l.b.natAbs, .v (.bool (decide (l.c<0))),dN l.c.natAbs]
def eR(q:Rat):DV:= .ag [.v (.bool (decide (q.num<0))),dN q.num.natAbs,dN q.den]
def ePt(p:PtQ):DV:= .ag [.v (.bool (decide (p.x.num<0))),dN p.x.num.natAbs,dN p.x.den, .v (.bool (decide (p.y.num<0))),dN p.y.num.natAbs,dN p.y.den]
def vI(n:Int):DV:= .v (.int .i64 n)
def vB(b:Bool):DV:= .v (.bool b)
theorem az2(n:Nat):dN n=dLi (dg n):=rfl
theorem aGK{ds:List Nat}(h:DOk ds):dLi (trimD ds)=dN (dv ds):=by unfold dLi dN;rw[ado h]
theorem awe{ds:List Nat}{i:Nat}(h:i<ds.length):(ds.map dU)[i]? =some (dU (ds.getD i 0)):=by
 rw[cJ,aQ h,aX,aQ h];rfl
theorem abe{ds:List Nat}{i:Nat}(h:i<ds.length):(ds.map dU)[(i:Int).toNat]? =some (dU (ds.getD i 0)):=by rw[bZ];exact awe h
theorem ad8(ds:List Nat)(i d:Nat):(ds.map dU).set i (.v (.int .u32 (d:Int)))=(ds.set i d).map dU:=by rw[kL];rfl
theorem aeJ(n:Nat):List.replicate n (DV.v (.int .u32 0))=(List.replicate n 0).map dU:=by rw[List.map_replicate];rfl
theorem amE(ds:List Nat):adh 1 (ds.map dU):=fun d hd=>by
 obtain⟨n,_,rfl⟩:=bJ.1 hd;exact⟨rfl,rfl⟩
theorem adm(n:Nat)(i:Nat):(dg n).getD i 0<4294967296:=(aaC n).2.1.get i
theorem ahS:dg 0=[]:=by rw[dg,dif_pos rfl]
theorem an2:dg 1=[1]:=by rw[dg,dif_neg (by decide)];simp[ahS]
theorem act{n:Nat}:(dg n).length=0↔n=0:=by
 constructor
 ·intro h
  have:=(aaC n).1
  rw[bR h] at this
  exact this.symm
 ·rintro rfl;rw[ahS];rfl
theorem acW:dN 0= .sl []:=by unfold dN;rw[ahS];rfl
theorem aiv{G:Gh}: ∀{ds:List Nat} {es:List Value},IsLs G (ds.map dU) es↔es=ds.map dI
 |[],es=>aaN
 |d::t,es=>by
  rw[cZ,aad]
  constructor
  ·rintro ⟨y,n,rfl,h1,h2⟩
   rw[aaY.1 h1,aiv.1 h2];rfl
  ·rintro rfl
   exact⟨_,_,rfl,aaY.2 rfl,aiv.2 rfl⟩
theorem aCN{G:Gh}{ds:List Nat}{v:Value}:Is G (dLi ds) v↔ ∃x:SV,v= .slice x.a x.n x.c∧afe G 1 x (ds.map dI):=by
 unfold dLi
 rw[adZ]
 constructor
 ·rintro ⟨s,x,es,rfl,h1,h2⟩
  have:=aiv.1 h2
  subst this
  refine⟨x,rfl,?_⟩
  rcases afo (s:=1) h1 h2 (amE ds) with h|h
  ·rw[h] at h1⊢
   exact⟨h1.len,h1.cap, .inl rfl⟩
  ·subst h;exact h1
 ·rintro ⟨x,rfl,h⟩
  exact⟨1,x,_,rfl,h,aiv.2 rfl⟩
theorem aGm{G:Gh}{n k:Nat}{v:Value}(hk:n<2^k):Is G (dN n) v↔ ∃x:SV,v= .slice x.a x.n x.c∧IsN k G x n:=by
 rw[az2,aCN]
 constructor
 ·rintro ⟨x,rfl,h⟩
  exact⟨x,rfl,⟨(aaC n).2.1,h⟩,hk⟩
 ·rintro ⟨x,rfl,h⟩
  exact⟨x,rfl,h.d.sl⟩
theorem aaA{ds:List Nat}{i:Int}{k:Nat}(hi:i=k)(h:k<ds.length):(ds.map dU)[i.toNat]? =some (dU (ds.getD k 0)):=by subst hi;exact abe h
class BN (n:Nat) (k:outParam Nat):Prop where h:n<2^k
class BI (m:Int) (k:outParam Nat):Prop where h:m.natAbs<2^k
class BQ (q:Rat) (k:outParam Nat):Prop where
 hn:q.num.natAbs<2^k
 hd:q.den<2^k
theorem BN.mono{n k k':Nat}(h:BN n k)(hk:k≤k'):BN n k':=⟨dW h.h (bV (by decide) hk)⟩
theorem abm{a b i j:Nat}(h:a<2^i)(k:b<2^j):a*b<2^(i+j):=by rw[eX];exact oZ h k
theorem afz{a b i j:Nat}(h:a<2^i)(k:b<2^j):a+b<2^(i+j+1):=by
 have h1:2^i≤2^(i+j):=bV (by decide) (by omega)
 have h2:2^j≤2^(i+j):=bV (by decide) (by omega)
 rw[fX];omega
instance BN.mul (a b i j:Nat) [h:BN a i] [k:BN b j]:BN (a*b) (i+j):=⟨abm h.h k.h⟩
instance BN.add (a b i j:Nat) [h:BN a i] [k:BN b j]:BN (a+b) (i+j+1):=⟨afz h.h k.h⟩
instance BN.sub (a b i:Nat) [h:BN a i]:BN (a-b) i:=⟨by have:=h.h;omega⟩
instance BN.div (a b i:Nat) [h:BN a i]:BN (a/b) i:=⟨eY (kK _ _) h.h⟩
instance BN.abs (m:Int) (i:Nat) [h:BI m i]:BN m.natAbs i:=⟨h.h⟩
instance BN.den (q:Rat) (i:Nat) [h:BQ q i]:BN q.den i:=⟨h.hd⟩
theorem aow{a b i j:Nat}(h:a<2^i)(k:b<2^j):Nat.gcd a b<2^(i+j):=by
 have h1:2^i≤2^(i+j):=bV (by decide) (by omega)
 have h2:2^j≤2^(i+j):=bV (by decide) (by omega)
 rcases fT a with h0|h0
 ·subst h0;rw[Nat.gcd_zero_left];omega
 ·have:=Nat.gcd_le_left b h0;omega
instance BN.gcd (a b i j:Nat) [h:BN a i] [k:BN b j]:BN (Nat.gcd a b) (i+j):=⟨aow h.h k.h⟩
instance BN.one:BN 1 1:=⟨by decide⟩
instance BN.zero:BN 0 0:=⟨by decide⟩
instance BI.mul (a b:Int) (i j:Nat) [h:BI a i] [k:BI b j]:BI (a*b) (i+j):=⟨by rw[jJ];exact abm h.h k.h⟩
instance BI.add (a b:Int) (i j:Nat) [h:BI a i] [k:BI b j]:BI (a+b) (i+j+1):=⟨eY (Int.natAbs_add_le a b) (afz h.h k.h)⟩
instance BI.sub (a b:Int) (i j:Nat) [h:BI a i] [k:BI b j]:BI (a-b) (i+j+1):=⟨eY (Int.natAbs_sub_le a b) (afz h.h k.h)⟩
instance BI.neg (a:Int) (i:Nat) [h:BI a i]:BI (-a) i:=⟨by rw[iT];exact h.h⟩
instance BI.num (q:Rat) (i:Nat) [h:BQ q i]:BI q.num i:=⟨h.hn⟩
instance BI.nat (n:Nat) (i:Nat) [h:BN n i]:BI (n:Int) i:=⟨by rw[iS];exact h.h⟩
theorem abJ(q:Rat):0<q.den:=iR q.den_nz
theorem agP{m:Int}{d i:Nat}(hd:0<d)(h:m.natAbs<2^i)(k:d<2^i):BQ (mkRat m d) i:=by
 refine⟨?_,?_⟩
 ·rw[Rat.num_mkRat,if_neg (by omega)]
  have:=mM m (d.gcd m.natAbs:Nat)
  omega
 ·rw[Rat.den_mkRat,if_neg (by omega)]
  have:=kK d (d.gcd m.natAbs)
  omega
theorem BQ.mono{q:Rat}{k k':Nat}(h:BQ q k)(hk:k≤k'):BQ q k':=⟨dW h.hn (bV (by decide) hk),dW h.hd (bV (by decide) hk)⟩
theorem aep(p q:Rat):p*q=mkRat (p.num*q.num) (p.den*q.den):=by rw[Rat.mul_def,Rat.normalize_eq_mkRat]
theorem aex(p q:Rat):p+q=mkRat (p.num*q.den+q.num*p.den) (p.den*q.den):=by rw[Rat.add_def,Rat.normalize_eq_mkRat]
instance BQ.mul (p q:Rat) (i j:Nat) [h:BQ p i] [k:BQ q j]:BQ (p*q) (i+j):=by
 rw[aep]
 exact agP (gS (abJ p) (abJ q)) (BI.mul p.num q.num i j).h (abm h.hd k.hd)
instance BQ.add (p q:Rat) (i j:Nat) [h:BQ p i] [k:BQ q j]:BQ (p+q) (i+j+1):=by
 rw[aex]
 refine agP (gS (abJ p) (abJ q)) ?_ ?_
 ·have h1:=abm h.hn k.hd
  have h2:=abm k.hn h.hd
  have h3:(p.num*q.den+q.num*p.den).natAbs≤(p.num*q.den).natAbs+(q.num*p.den).natAbs:=Int.natAbs_add_le ..
  rw[jJ,jJ,iS,iS] at h3
  rw[jU j i] at h2
  rw[fX];omega
 ·have h1:=abm h.hd k.hd
  rw[fX];omega
instance BQ.neg (p:Rat) (i:Nat) [h:BQ p i]:BQ (-p) i:=⟨by rw[oK,iT];exact h.hn,by rw[sZ];exact h.hd⟩
instance BQ.sub (p q:Rat) (i j:Nat) [h:BQ p i] [k:BQ q j]:BQ (p-q) (i+j+1):=by
 rw[Rat.sub_eq_add_neg]
 exact BQ.add p (-q) i j
instance BQ.ofInt (m:Int) (i:Nat) [h:BI m i]:BQ (m:Rat) (i+1):=by
 refine⟨?_,?_⟩
 ·rw[qJ];have:=h.h;rw[fX];omega
 ·rw[qK];have:0<2^i:=eK (by decide);rw[fX];omega
end Go.Sx
end
section
namespace Go.Sx
open Go Go.Proofs Tryz
variable {GB:Gh}
def aFv(p q:Int):Nat:=(BitVec.ofInt 32 p &&& BitVec.ofInt 32 q).toNat
def orN(p q:Int):Nat:=(BitVec.ofInt 32 p ||| BitVec.ofInt 32 q).toNat
def aEZ(p q:Int):Nat:=(BitVec.ofInt 32 p^^^BitVec.ofInt 32 q).toNat
theorem auh{ds:List Nat}{n:Nat}(h:0<n∧n≤ds.length)(hz:ds.getD (n-1) 0=0):trimD (ds.take n)=trimD (ds.take (n-1)):=by
 obtain⟨m,rfl⟩: ∃m,n=m+1:=⟨n-1,by omega⟩
 rw[fR (by omega),lK]
 rw[lK,aX,aQ (by omega)] at hz
 simp only[lJ] at hz
 rw[hz,aiN]
theorem as5{ds:List Nat}{n:Nat}(h:n≤ds.length)(hz:0<n→ds.getD (n-1) 0≠0):trimD (ds.take n)=ds.take n:=by
 rcases fT n with h0|h0
 ·subst h0;simp[trimD]
 ·obtain⟨m,rfl⟩: ∃m,n=m+1:=⟨n-1,by omega⟩
  have hz:=hz h0
  rw[fR (by omega)]
  rw[lK,aX,aQ (by omega)] at hz
  exact ahp (by simpa using hz)
theorem aAZ{x y c:Nat}(hx:x<4294967296)(hy:y<4294967296)(hc:c≤1):PF GB prog 169 [.v (.int .u32 (x:Int)), .v (.int .u32 (y:Int)), .v (.int .u32 (c:Int))] (.tp [.v (.int .u32 (((x+y+c)%4294967296:Nat):Int)), .v (.int .u32 (((x+y+c)/4294967296:Nat):Int))]):=by
 refine fn (hv:=by simp only[aah];exact⟨⟨⟨⟨⟨by omega,by omega⟩,by omega⟩,by omega⟩,by omega⟩,(by decide)⟩) func169 J J ntmps169 J J (fun C=>?_)
 exact rz rfl (by
  have e1:((x:Int)+y+c)%4294967296=(((x+y+c)%4294967296:Nat):Int):=by omega
  have e2:((x:Int)+y+c).fdiv (2^min (32:Int).toNat IntKind.u64.bits)%4294967296=(((x+y+c)/4294967296:Nat):Int):=by
   rw[show(2:Int)^min (32:Int).toNat IntKind.u64.bits=((4294967296:Nat):Int) from rfl,gK _ (by decide)]
   omega
  show DV.tp [.v (.int _ _), .v (.int _ _)]=_
  rw[e1,e2])
theorem aiQ(n:Nat)(h:n<4294967296):(BitVec.ofInt 32 (n:Int)).msb=decide (2147483648≤n):=by
 rw[show BitVec.ofInt 32 (n:Int)=BitVec.ofNat 32 n from BitVec.ofInt_natCast ..]
 rw[BitVec.msb_eq_decide,BitVec.toNat_ofNat,fJ (by simpa using h)]
theorem atX(b:BitVec 32):b.toNat/2147483648=if b.msb then 1 else 0:=by
 have:=b.isLt
 rw[BitVec.msb_eq_decide]
 simp only[decide_eq_true_eq,Nat.reduceSub,Nat.reducePow] at*
 split<;>omega
theorem akj(b:BitVec 32):BitVec.ofInt 32 (b.toNat:Int)=b:=by rw[BitVec.ofInt_natCast,BitVec.ofNat_toNat,BitVec.setWidth_eq]
theorem arO{x y c:Nat}(hx:x<4294967296)(hy:y<4294967296)(hc:c≤1):
  ((orN (aFv (aEZ IntKind.u32.max x:Nat) y:Nat) (aFv (aEZ IntKind.u32.max (aEZ x y:Nat):Nat) (IntKind.u32.wrap (IntKind.u32.wrap ((x:Int)-y)-c)):Nat):Nat):Int).fdiv (2^min (31:Int).toNat IntKind.u32.bits)=(((if x<y+c then 1 else 0):Nat):Int):=by
 rw[show((2:Int)^min (31:Int).toNat IntKind.u32.bits)=((2147483648:Nat):Int) from rfl,gK _ (by decide),←pT]
 congr 1
 have hd: ∃d:Nat,d<4294967296∧IntKind.u32.wrap (IntKind.u32.wrap ((x:Int)-y)-c)=(d:Int)∧((x≥y+c∧d=x-(y+c))∨(x<y+c∧d=x+4294967296-(y+c))):=by
  rw[acL,acL]
  refine⟨((((x:Int)-y)%4294967296-c)%4294967296).toNat,by omega,by omega,by omega⟩
 obtain⟨d,hd1,hd2,hd3⟩:=hd
 rw[hd2]
 unfold orN aFv aEZ
 simp only[akj]
 rw[atX]
 simp only[BitVec.msb_or,BitVec.msb_and,BitVec.msb_xor,aiQ x hx,aiQ y hy,aiQ d hd1]
 have h1:(BitVec.ofInt 32 IntKind.u32.max).msb=true:=by decide
 rw[h1]
 rcases iY x 2147483648 with a|a<;>rcases iY y 2147483648 with b|b<;>rcases iY d 2147483648 with e|e<;>
  simp[Nat.not_le.2, *]<;>(first|omega|(split<;>omega))
theorem awD{x y c:Nat}(hx:x<4294967296)(hy:y<4294967296)(hc:c≤1):IntKind.u32.wrap (IntKind.u32.wrap ((x:Int)-y)-c)=(((if x<y+c then x+4294967296-(y+c) else x-(y+c)):Nat):Int):=by
 rw[acL,acL]
 split<;>omega
theorem aBo{x y c:Nat}(hx:x<4294967296)(hy:y<4294967296)(hc:c≤1):PF GB prog 171 [.v (.int .u32 (x:Int)), .v (.int .u32 (y:Int)), .v (.int .u32 (c:Int))] (.tp [.v (.int .u32 (((if x<y+c then x+4294967296-(y+c) else x-(y+c)):Nat):Int)), .v (.int .u32 (((if x<y+c then 1 else 0):Nat):Int))]):=by
 refine fn (fu:=⟨10⟩) func171 J J ntmps171 J J (fun C=>?_)
 refine sw (fu:=⟨1⟩) _ rfl (acL _).symm rfl<|sw (fu:=⟨6⟩) _ rfl (acL _).symm rfl<|nt (fu:=⟨4⟩) _ J J J<|xr (fu:=⟨0⟩) _ J J J<|nt _ J J J<|?_
 exact rz rfl (by have h1:=arO hx hy hc;unfold orN aFv aEZ at h1;show DV.tp [.v (.int _ _), .v (.int _ _)]=_;rw[h1,awD hx hy hc])
theorem af2{ds:List Nat}(hl:ds.length≤1125899906842624):PF GB prog 115 [dLi ds] (dLi (trimD ds)):=by
 refine fn func115 J J ntmps115 J J (fun C=>?_)
 refine lp (X:=Nat) (fun n=>[(0, .d (dLi ds)),(3, .d (vI (n:Nat)))]) (fun n=>[]) (fun n=>n≤ds.length∧trimD ds=trimD (ds.take n)) (fun n=>n) ds.length rfl ⟨aM _,by rw[cM]⟩ (fun _=>rfl) (fun n hk=>?_)
 obtain⟨h1,h2⟩:=hk
 refine cs 8 J J J (fun hg8=>?_) (fun hg8=>?_)
 ·
  refine ix _ rfl (aaA (k:=n-1) (by omega) (by omega)) rfl<|?_
  refine br J J J (fun hc15=>?_) (fun hc15=>?_)
  ·
   have hz:ds.getD (n-1) 0=0:=by omega
   exact at_ (n-1) ⟨⟨by omega,by rw[h2,auh (by omega) hz]⟩,(by omega)⟩
  ·
   refine sc' 0 n _ J J J J (amE _) (by omega) (by simp;omega) rfl<|?_
   exact rz rfl (by have:=as5 h1 (fun _ h=>hc15 (by omega));rw[←h2] at this;show DV.sl _=_;simp[dLi,this])
 ·
  refine sc' 0 n _ J J J J (amE _) (by omega) (by simp;omega) rfl<|?_
  exact rz rfl (by obtain rfl:n=0:=(by omega);show DV.sl _=_;simp[dLi,h2,trimD])
theorem adf{a k:Nat}(h:a<2^k)(hk:k≤1000000000):(dg a).length≤100000000:=by have:=aa2 h;omega
theorem aaO(a:Nat):dv (dg a)=a:=(aaC a).1
theorem ae6(a:Nat):DOk (dg a):=(aaC a).2.1
theorem aaz(ds:List Nat):(ds.map dU).length=ds.length:=aK ..
theorem acs{ds:List Nat}{n:Nat}(h:ds.length≤n):ds.take n=ds:=aW h
theorem ad3{ds:List Nat}{i:Nat}(h:ds.length≤i):ds.getD i 0=0:=by
 rw[aX,dJ h];rfl
theorem aeC{ds:List Nat}{n:Nat}(h:DOk ds)(e:dv ds=n):dLi (trimD ds)=dN n:=by rw[aGK h,e]
theorem aoA{a b:Nat}(h:a<b):ahi a b= -1:=by unfold ahi;rw[if_pos h]
theorem aoE{a b:Nat}(h:b<a):ahi a b=1:=by unfold ahi;rw[if_neg (by omega),if_neg (by omega)]
theorem aCj{a b:Nat}(h:a=b):ahi a b=0:=by unfold ahi;rw[if_neg (by omega),if_pos h]
theorem auo(m n:Nat):Int.sign ((m:Int)-n)=ahi m n:=by
 unfold ahi
 split
 ·exact fL (by omega)
 ·split
  ·rw[show(m:Int)-n=0 by omega];rfl
  ·exact gR (by omega)
theorem axK{a b:Nat}(h:(dg a).length≠(dg b).length):ahi (dg a).length (dg b).length=ahi a b:=by
 rcases Nat.lt_or_gt_of_ne h with h|h
 ·have:=acK (ae6 a) (aaC b).2.2 h
  rw[aaO,aaO] at this
  rw[aoA h,aoA this]
 ·have:=acK (ae6 b) (aaC a).2.2 h
  rw[aaO,aaO] at this
  rw[aoE h,aoE this]
theorem aoL{a b i:Nat}(hl:(dg a).length=(dg b).length)(hi:i<(dg a).length)(hs:(dg a).drop (i+1)=(dg b).drop (i+1)):
  ((dg a).getD i 0<(dg b).getD i 0→a<b)∧((dg b).getD i 0<(dg a).getD i 0→b<a)∧((dg a).getD i 0=(dg b).getD i 0→(dg a).drop i=(dg b).drop i):=by
 refine⟨fun h=>?_,fun h=>?_,fun h=>?_⟩
 ·have:=aq4 (ae6 a) (ae6 b) i hi (by omega) hl hs h
  rwa [aaO,aaO] at this
 ·have:=aq4 (ae6 b) (ae6 a) i (by omega) hi hl.symm hs.symm h
  rwa [aaO,aaO] at this
 ·rw[bQ hi,bQ (by omega:i<(dg b).length),hs]
  rw[aX,aX,aQ hi,aQ (by omega:i<(dg b).length)] at h
  simp only[lJ] at h
  rw[h]
theorem aC0{z:Int}:PF GB prog 170 [vI z] (vI z.sign):=by
 refine fn func170 J J ntmps170 J J (fun C=>?_)
 refine br J J J (fun hc4=>?_) (fun hc4=>?_)
 ·
  exact rz rfl (by show DV.v (.int _ 1)=DV.v (.int _ _);rw[gR (by omega)])
 ·
  refine br J J J (fun hc6=>?_) (fun hc6=>?_)
  ·
   exact rz rfl (by show DV.v (.int _ (-1))=DV.v (.int _ _);rw[fL (by omega)])
  ·
   exact rz rfl (by show DV.v (.int _ 0)=DV.v (.int _ _);rw[show z=0 by omega];rfl)
theorem asT(u:Nat):dv [u%4294967296,u/4294967296]=u:=by simp only[dv];omega
theorem aFh{u:Nat}(h:u<18446744073709551616):DOk [u%4294967296,u/4294967296]:= .cons (by omega) (.cons (by omega) .nil)
theorem auy(u:Nat):(u:Int).fdiv (2^min (32:Int).toNat IntKind.u64.bits)=((u/4294967296:Nat):Int):=by
 rw[show(2:Int)^min (32:Int).toNat IntKind.u64.bits=((4294967296:Nat):Int) from rfl,gK _ (by decide)];rfl
theorem agw{u:Nat}(hu:u<18446744073709551616):PF GB prog 114 [.v (.int .u64 (u:Int))] (dN u):=by
 refine fn (fu:=⟨11⟩) (hv:=by simp only[aah];exact(by decide)) func114 J J ntmps114 J J (fun C=>?_)
 refine eqF 6 (.d (.v (.int .u64 (u/4294967296:Nat)))) rfl (by rw[auy]) ?_
 refine gx rfl<|rf (fu:=⟨0⟩) J J<|?_
 refine eqF 8 (.d (dLi [u%4294967296,u/4294967296])) rfl (by show FX.d (.sl [.v (.int _ _), .v (.int _ _)])= .d (.sl [.v (.int _ _), .v (.int _ _)]);congr 6;omega) ?_
 refine gx rfl<|cl rfl (af2 (ds:=[u%4294967296,u/4294967296]) (by simp)) rfl<|?_
 exact rz rfl (aeC (aFh hu) (asT u))
theorem aAt:PF GB prog 112 [] (dN 1):=by
 refine fn func112 J J ntmps112 J J (fun C=>?_)
 refine rf J J<|?_
 exact rz rfl (by unfold dN;rw[an2];rfl)
theorem asL{a b:Nat}(ha:(dg a).length≤100000000)(hb:(dg b).length≤100000000):PF GB prog 109 [dN a,dN b] (vI (ahi a b)):=by
 have hla:=aaz (dg a)
 have hlb:=aaz (dg b)
 refine fn func109 J J ntmps109 J J (fun C=>?_)
 refine br J J J (fun hc10=>?_) (fun hc10=>?_)
 ·
  refine cl rfl aC0 rfl<|?_
  exact rz rfl (by show DV.v (.int _ _)=DV.v (.int _ _);rw[hla,hlb,auo,axK (by omega)])
 ·
  have hl:(dg a).length=(dg b).length:=by omega
  refine lp (X:=Nat) (fun k=>[(0, .d (dN a)),(1, .d (dN b)),(5, .d (vI ((k:Nat)-1)))]) (fun k=>[]) (fun k=>k≤(dg a).length∧(dg a).drop k=(dg b).drop k) (fun k=>k) (dg a).length rfl ⟨aM _,by rw[fV,hl,fV]⟩ (fun _=>rfl) (fun k hk=>?_)
  obtain⟨h1,h2⟩:=hk
  refine br J J J (fun hc21=>?_) (fun hc21=>?_)
  ·
   obtain⟨k,rfl⟩: ∃m,k=m+1:=⟨k-1,by omega⟩
   refine ix _ rfl (aaA (k:=k) (by omega) (by omega)) rfl<|ix _ rfl (aaA (k:=k) (by omega) (by omega)) rfl<|?_
   refine br J J J (fun hc32=>?_) (fun hc32=>?_)
   ·
    exact rz rfl (by show DV.v (.int _ 1)=DV.v (.int _ _);rw[aoE ((aoL hl (by omega) h2).2.1 (by omega))])
   ·
    refine ix _ rfl (aaA (k:=k) (by omega) (by omega)) rfl<|ix _ rfl (aaA (k:=k) (by omega) (by omega)) rfl<|?_
    refine br J J J (fun hc41=>?_) (fun hc41=>?_)
    ·
     exact rz rfl (by show DV.v (.int _ (-1))=DV.v (.int _ _);rw[aoA ((aoL hl (by omega) h2).1 (by omega))])
    ·
     exact at_ k ⟨⟨by omega,(aoL (i:=k) hl (by omega) h2).2.2 (by omega)⟩,(by omega)⟩
  ·
   exact rz rfl (by show DV.v (.int _ 0)=DV.v (.int _ _);rw[aCj];obtain rfl:k=0:=(by omega);rw[gT,gT] at h2;rw[←aaO a,h2,aaO])
theorem aBN{A B W:List Nat}{i c:Nat}(hi:i<W.length)(h:dv (W.take i)+4294967296^i*c=dv (A.take i)+dv (B.take i)):
  dv ((W.set i ((A.getD i 0+B.getD i 0+c)%4294967296)).take (i+1))+4294967296^(i+1)*((A.getD i 0+B.getD i 0+c)/4294967296)=dv (A.take (i+1))+dv (B.take (i+1)):=by
 rw[abf hi,aaw A,aaw B,fX,show A.getD i 0+B.getD i 0+c=c+A.getD i 0+B.getD i 0 by omega]
 exact apn h
theorem az1{a b n:Nat}{W:List Nat}{c:Nat}(hn:n=max (dg a).length (dg b).length)(hl:W.length=n+1)(h:dv (W.take n)+4294967296^n*c=dv ((dg a).take n)+dv ((dg b).take n)):dv (W.set n c)=a+b:=by
 have e:=abf (ws:=W) (k:=n) (d:=c) (by omega)
 rw[acs (by rw[aN];omega)] at e
 rw[e,h,acs (by omega),acs (by omega),aaO,aaO]
theorem aFU{a b ia ib:Nat}[ha:BN a ia][hb:BN b ib](hi:ia≤1000000000:=by decide)(hj:ib≤1000000000:=by decide):PF GB prog 108 [dN a,dN b] (dN (a+b)):=by
 have hla:=aaz (dg a)
 have hlb:=aaz (dg b)
 have hba:=adf ha.h hi
 have hbb:=adf hb.h hj
 refine fn (fu:=⟨12⟩) func108 J J ntmps108 J J (fun C=>?_)
 obtain⟨n,hn⟩: ∃n,n=max (dg a).length (dg b).length:=⟨_,rfl⟩
 refine eqF 15 (.d (vI (n:Nat))) rfl (by show FX.d (.v (.int _ _))= .d (.v (.int _ _));congr 3;split<;>omega) ?_
 refine gx rfl<|mk ((List.replicate (n+1) 0).map dU) J J (by rw[←aeJ];rfl) rfl<|?_
 refine lp (X:=List Nat×Nat×Nat) (fun⟨W,c,i⟩=>[(0, .d (dN a)),(1, .d (dN b)),(5, .d (vI (n:Nat))),(6, .rw 18),(7, .d (.v (.int .u32 (c:Nat)))),(8, .d (vI (i:Nat)))]) (fun⟨W,c,i⟩=>[(18,some (.b 215 1 (W.map dU) true))]) (fun⟨W,c,i⟩=>W.length=n+1∧DOk W∧c≤1∧i≤n∧dv (W.take i)+4294967296^i*c=dv ((dg a).take i)+dv ((dg b).take i)) (fun⟨W,c,i⟩=>n-i) ⟨List.replicate (n+1) 0,0,0⟩ rfl ⟨by simp, .replicate _,by omega,by omega,by simp[dv]⟩ (fun _=>rfl) (fun⟨W,c,i⟩ hk=>?_)
 dsimp only at hk⊢
 obtain⟨h1,h2,h3,h4,h5⟩:=hk
 have hlw:=aaz W
 have hda:=adm a i
 have hdb:=adm b i
 refine br (fu1:=⟨11⟩) J J J (fun hc21=>?_) (fun hc21=>?_)
 ·
  refine mg (fu:=⟨1⟩) (X:=Unit) (fun _=>[(0, .d (dN a)),(1, .d (dN b)),(5, .d (vI (n:Nat))),(6, .rw 18),(7, .d (.v (.int .u32 (c:Nat)))),(8, .d (vI (i:Nat))),(9, .d (dU ((dg a).getD i 0))),(10, .d (.v (.int .u32 0)))]) (fun _=>[(18,some (.b 215 1 (W.map dU) true))]) (fun _=>True) [0,1,5,6,7,8,9,10] [18] rfl ?_ (fun _=>rfl) (fun _ hm=>?_)
  ·
   refine gx rfl<|?_
   refine br J J J (fun hc27=>?_) (fun hc27=>?_)
   ·
    refine ix _ rfl (abe (by omega)) rfl<|?_
    exact at_ () trivial
   ·
    refine eqF 9 (.d (dU ((dg a).getD i 0))) rfl (by rw[ad3 (by omega)];rfl) ?_
    exact at_ () trivial
  ·
   refine mg (X:=Unit) (fun _=>[(0, .d (dN a)),(1, .d (dN b)),(5, .d (vI (n:Nat))),(6, .rw 18),(7, .d (.v (.int .u32 (c:Nat)))),(8, .d (vI (i:Nat))),(9, .d (dU ((dg a).getD i 0))),(10, .d (dU ((dg b).getD i 0)))]) (fun _=>[(18,some (.b 215 1 (W.map dU) true))]) (fun _=>True) [0,1,5,6,7,8,9,10] [18] rfl ?_ (fun _=>rfl) (fun _ hm=>?_)
   ·
    refine gx rfl<|?_
    refine br J J J (fun hc35=>?_) (fun hc35=>?_)
    ·
     refine ix _ rfl (abe (by omega)) rfl<|?_
     exact at_ () trivial
    ·
     refine eqF 10 (.d (dU ((dg b).getD i 0))) rfl (by rw[ad3 (by omega)];rfl) ?_
     exact at_ () trivial
   ·
    refine cl rfl (aAZ (by omega) (by omega) (by omega)) rfl<|sb _ ((W.set i (((dg a).getD i 0+(dg b).getD i 0+c)%4294967296)).map dU) rfl (abe (by omega)) rfl (by rw[←ad8];rfl) rfl<|?_
    exact at_ ⟨W.set i (((dg a).getD i 0+(dg b).getD i 0+c)%4294967296),((dg a).getD i 0+(dg b).getD i 0+c)/4294967296,i+1⟩ (by dsimp only;exact⟨⟨by simpa using h1,h2.set _ (by omega),by omega,by omega,aBN (by omega) h5⟩,(by omega)⟩)
 ·
  obtain rfl:i=n:=by omega
  refine sb _ ((W.set i c).map dU) rfl (abe (by omega)) rfl (by rw[←ad8];rfl) rfl<|fz 18 J J<|cl rfl (af2 (ds:=W.set i c) (by simp;omega)) rfl<|?_
  exact rz rfl (aeC (h2.set _ (by omega)) (az1 hn h1 h5))
theorem axV{A B W:List Nat}{i c d c2:Nat}(hA:DOk A)(hB:DOk B)(hi:i<W.length)(hc:c≤1)(h:dv (W.take i)+dv (B.take i)=dv (A.take i)+4294967296^i*c)
  (hd:d=if A.getD i 0<B.getD i 0+c then A.getD i 0+4294967296-(B.getD i 0+c) else A.getD i 0-(B.getD i 0+c))(hc2:c2=if A.getD i 0<B.getD i 0+c then 1 else 0):
  dv ((W.set i d).take (i+1))+dv (B.take (i+1))=dv (A.take (i+1))+4294967296^(i+1)*c2:=by
 have h1:=hA.get i
 have h2:=hB.get i
 rw[abf hi,aaw A,aaw B,fX]
 split at hd
 ·rename_i q
  rw[if_pos q] at hc2
  subst hc2 hd
  rw[jU (B.getD i 0) c]
  exact as7 h (by omega) (by omega)
 ·rename_i q
  rw[if_neg q] at hc2
  subst hc2 hd
  rw[jU (B.getD i 0) c]
  exact azt h (by omega)
theorem awZ{a b c:Nat}{W:List Nat}(hw:DOk W)(hl:W.length=(dg a).length)(hb:b≤a)(h:dv (W.take (dg a).length)+dv ((dg b).take (dg a).length)=dv ((dg a).take (dg a).length)+4294967296^(dg a).length*c):dv W=a-b:=by
 have hlb:(dg b).length≤(dg a).length:=by
  rcases iY (dg a).length (dg b).length with q|q
  ·have:=acK (ae6 a) (aaC b).2.2 q
   rw[aaO,aaO] at this
   omega
  ·exact q
 rw[acs (by omega),acs hlb,acs (aM _),aaO,aaO] at h
 have h2:=aej hw
 rw[hl] at h2
 rcases fT c with q|q
 ·subst q;omega
 ·have:4294967296^(dg a).length*1≤4294967296^(dg a).length*c:=dS _ q
  omega
theorem aue{a b ia:Nat}[ha:BN a ia](hb:b≤a)(hi:ia≤1000000000:=by decide):PF GB prog 110 [dN a,dN b] (dN (a-b)):=by
 have hla:=aaz (dg a)
 have hlb:=aaz (dg b)
 have hba:=adf ha.h hi
 refine fn (fu:=⟨9⟩) func110 J J ntmps110 J J (fun C=>?_)
 refine eqF 10 (.d (vI ((dg a).length:Nat))) rfl (by rw[hla];rfl) ?_
 refine gx rfl<|mk (fu:=⟨13⟩) ((List.replicate (dg a).length 0).map dU) J J (by rw[←aeJ];rfl) rfl<|?_
 refine eqF 13 (.d (vI ((dg a).length:Nat))) rfl (by rw[hla];rfl) ?_
 refine gx rfl<|?_
 refine lp (X:=List Nat×Nat×Nat) (fun⟨W,c,i⟩=>[(0, .d (dN a)),(1, .d (dN b)),(5, .rw 11),(6, .d (.v (.int .u32 (c:Nat)))),(13, .d (vI ((dg a).length:Nat))),(14, .d (vI (i:Nat)))]) (fun⟨W,c,i⟩=>[(11,some (.b 215 1 (W.map dU) true))]) (fun⟨W,c,i⟩=>W.length=(dg a).length∧DOk W∧c≤1∧i≤(dg a).length∧dv (W.take i)+dv ((dg b).take i)=dv ((dg a).take i)+4294967296^i*c) (fun⟨W,c,i⟩=>(dg a).length-i) ⟨List.replicate (dg a).length 0,0,0⟩ rfl ⟨by simp, .replicate _,by omega,by omega,by simp[dv]⟩ (fun _=>rfl) (fun⟨W,c,i⟩ hk=>?_)
 dsimp only at hk⊢
 obtain⟨h1,h2,h3,h4,h5⟩:=hk
 have hlw:=aaz W
 have hda:=adm a i
 have hdb:=adm b i
 refine br (fu1:=⟨16⟩) J J J (fun hc15=>?_) (fun hc15=>?_)
 ·
  refine mg (X:=Unit) (fun _=>[(0, .d (dN a)),(1, .d (dN b)),(5, .rw 11),(6, .d (.v (.int .u32 (c:Nat)))),(13, .d (vI ((dg a).length:Nat))),(14, .d (vI (i:Nat))),(7, .d (vI (i:Nat))),(8, .d (dU ((dg b).getD i 0)))]) (fun _=>[(11,some (.b 215 1 (W.map dU) true))]) (fun _=>True) [0,1,5,6,13,14,7,8] [11] rfl ?_ (fun _=>rfl) (fun _ hm=>?_)
  ·
   refine gx rfl<|?_
   refine br J J J (fun hc20=>?_) (fun hc20=>?_)
   ·
    refine ix _ rfl (abe (by omega)) rfl<|?_
    exact at_ () trivial
   ·
    refine eqF 8 (.d (dU ((dg b).getD i 0))) rfl (by rw[ad3 (by omega)];rfl) ?_
    exact at_ () trivial
  ·
   refine ix _ rfl (abe (by omega)) rfl<|cl rfl (aBo (by omega) (by omega) (by omega)) rfl<|sb _ ((W.set i (if(dg a).getD i 0<(dg b).getD i 0+c then(dg a).getD i 0+4294967296-((dg b).getD i 0+c) else(dg a).getD i 0-((dg b).getD i 0+c))).map dU) rfl (abe (by omega)) rfl (by rw[←ad8];rfl) rfl<|?_
   exact at_ ⟨W.set i (if(dg a).getD i 0<(dg b).getD i 0+c then(dg a).getD i 0+4294967296-((dg b).getD i 0+c) else(dg a).getD i 0-((dg b).getD i 0+c)),(if(dg a).getD i 0<(dg b).getD i 0+c then 1 else 0),i+1⟩ (by dsimp only;exact⟨⟨by simpa using h1,h2.set _ (by split<;>omega),by split<;>omega,by omega,axV (ae6 a) (ae6 b) (by omega) h3 h5 J J⟩,(by omega)⟩)
 ·
  obtain rfl:i=(dg a).length:=by omega
  refine fz 11 J J<|cl rfl (af2 (ds:=W) (by omega)) rfl<|?_
  exact rz rfl (aeC h2 (awZ h2 h1 hb h5))
theorem art(n:Nat)(a b k:Nat)(ha:a<2^k)(h:a+b*2^k<2^n):(BitVec.ofInt n (a:Int) ||| BitVec.ofInt n ((b*2^k:Nat):Int)).toNat=a+b*2^k:=by
 rw[BitVec.toNat_or,BitVec.ofInt_natCast,BitVec.ofInt_natCast,BitVec.toNat_ofNat,BitVec.toNat_ofNat,fJ (by omega),fJ (by omega)]
 rw[←lW,Nat.or_comm,←lR ha,lW]
 omega
theorem avO{x y:Nat}(hx:x<4294967296)(hy:y<4294967296):x*y≤18446744065119617025:=by
 have:=iJ (by omega:x≤4294967295) (by omega:y≤4294967295)
 exact this
theorem azs(x y:Nat):(0:Int)≤(x:Int)*(y:Int):=by rw[←jQ];omega
theorem ay0{x y:Nat}(hx:x<4294967296)(hy:y<4294967296):(x:Int)*(y:Int)≤18446744073709551615:=by
 have:=avO hx hy
 rw[←jQ];omega
theorem aD8{ds:List Nat}(h:ds.length=1):dv ds=ds.getD 0 0:=by
 match ds,h with
 |[d],_=>simp[dv]
theorem acA{a:Nat}(h:(dg a).length=1):(dg a).getD 0 0=a:=by rw[←aD8 h,aaO]
theorem aub{ds:List Nat}{j m:Nat}(h:j<m):(ds.take m).getD j 0=ds.getD j 0:=by
 rw[aX,aX,oW,if_pos h]
theorem anp{W:List Nat}{j m d:Nat}(hj:j<m)(hm:m≤W.length):dv ((W.set j d).take m)+4294967296^j*W.getD j 0=dv (W.take m)+4294967296^j*d:=by
 rw[List.take_set,←aub (ds:=W) hj]
 exact afb _ _ _ (by rw[cR];omega)
theorem awg{W:List Nat}{P X Y m i k c y t S:Nat}(hk:i+k<m)(hm:m≤W.length)(h:dv (W.take m)+4294967296^(i+k)*c=P+X*(4294967296^i*S))(ht:t=Y+W.getD (i+k) 0+c)(hY:Y=X*y):
  dv ((W.set (i+k) (t%4294967296)).take m)+4294967296^(i+(k+1))*(t/4294967296)=P+X*(4294967296^i*(S+4294967296^k*y)):=by
 have h1:=anp (W:=W) (d:=t%4294967296) hk hm
 rw[ht,show Y+W.getD (i+k) 0+c=c+Y+W.getD (i+k) 0 by omega] at h1⊢
 have h2:=aqP h1 h
 rw[←jR,fX,h2,hY,eX]
 simp only[dY,bM,kM,bL,jR]
theorem axu{a b:Nat}{W:List Nat}{i c lb:Nat}(hlb:lb=(dg b).length)(hl:i+lb<W.length)(h:dv (W.take (i+lb))+4294967296^(i+lb)*c=dv ((dg a).take i)*b+(dg a).getD i 0*(4294967296^i*dv ((dg b).take lb))):
  dv ((W.set (i+lb) c).take (i+1+lb))=dv ((dg a).take (i+1))*b:=by
 rw[show i+1+lb=i+lb+1 by omega,abf hl,h,aaw,acs (ds:=dg b) (by omega),aaO b,cS]
 simp only[bM,kM,bL]
theorem apm(n j:Nat):(List.replicate n 0).getD j 0=0:=by
 rw[aX,List.getElem?_replicate]
 split<;>rfl
theorem avM{k:Nat}(h:k≤1000000000):IntKind.i64.wrap ((k:Int).tdiv 32)=((k/32:Nat):Int):=by
 rw[show(k:Int).tdiv 32=((k/32:Nat):Int) from rfl,al2];omega
theorem aDz(k:Nat):(k:Int).tmod 32=((k%32:Nat):Int):=rfl
theorem ack{a b ia ib:Nat}[ha:BN a ia][hb:BN b ib](hi:ia≤1000000000:=by decide)(hj:ib≤1000000000:=by decide):PF GB prog 51 [dN a,dN b] (dN (a*b)):=by
 have hla:=aaz (dg a)
 have hlb:=aaz (dg b)
 have hba:=adf ha.h hi
 have hbb:=adf hb.h hj
 refine fn (fu:=⟨6⟩) func51 J J ntmps51 J J (fun C=>?_)
 refine mg (fu:=⟨4⟩) (X:=Unit) (fun _=>[(0, .d (dN a)),(1, .d (dN b))]) (fun _=>[]) (fun _=>True) [0,1] [] rfl ?_ (fun _=>rfl) (fun _ hm=>?_)
 ·
  refine gx rfl<|?_
  refine cs 15 J J J (fun hg15=>?_) (fun hg15=>?_)
  ·
   refine br J J J (fun hc19=>?_) (fun hc19=>?_)
   ·
    have hd0:=adm a 0
    have hd1:=adm b 0
    refine ix _ rfl (aaA (k:=0) rfl (by omega)) rfl<|ix (hv:=by simp only[aah];exact⟨by omega,⟨(azs _ _),(ay0 (adm _ _) (adm _ _))⟩⟩) _ rfl (aaA (k:=0) rfl (by omega)) rfl<|cl rfl (agw (u:=(dg a).getD 0 0*(dg b).getD 0 0) (by have:=avO (adm a 0) (adm b 0);omega)) rfl<|?_
    exact rz rfl (by rw[acA (by omega),acA (by omega)];rfl)
   ·
    exact at_ () trivial
  ·
   exact at_ () trivial
 ·
  refine eqF 31 (.d (vI ((dg a).length:Nat))) rfl (by rw[hla];rfl) ?_
  refine gx (fu:=⟨2⟩) rfl<|?_
  refine eqF 33 (.d (vI ((dg b).length:Nat))) rfl (by rw[hlb];rfl) ?_
  refine gx rfl<|mk (fu:=⟨8⟩) ((List.replicate ((dg a).length+(dg b).length) 0).map dU) J J (by rw[←aeJ];rfl) rfl<|?_
  refine eqF 37 (.d (vI ((dg a).length:Nat))) rfl (by rw[hla];rfl) ?_
  refine gx rfl<|?_
  refine lp (X:=List Nat×Nat) (fun⟨W,i⟩=>[(0, .d (dN a)),(1, .d (dN b)),(5, .rw 35),(36, .d (dN a)),(37, .d (vI ((dg a).length:Nat))),(38, .d (vI (i:Nat)))]) (fun⟨W,i⟩=>[(35,some (.b 215 1 (W.map dU) true))]) (fun⟨W,i⟩=>W.length=(dg a).length+(dg b).length∧DOk W∧i≤(dg a).length∧dv (W.take (i+(dg b).length))=dv ((dg a).take i)*b) (fun⟨W,i⟩=>(dg a).length-i) ⟨List.replicate ((dg a).length+(dg b).length) 0,0⟩ rfl ⟨by simp, .replicate _,by omega,by rw[List.take_replicate,acy];simp[dv]⟩ (fun _=>rfl) (fun⟨W,i⟩ hk=>?_)
  dsimp only at hk⊢
  obtain⟨h1,h2,h3,h4⟩:=hk
  refine br J J J (fun hc39=>?_) (fun hc39=>?_)
  ·
   refine ix (fu:=⟨15⟩) _ rfl (abe (by omega)) rfl<|?_
   refine eqF 44 (.d (vI ((dg b).length:Nat))) rfl (by rw[hlb];rfl) ?_
   refine gx rfl<|?_
   refine lp (X:=List Nat×Nat×Nat) (fun⟨W2,c,k⟩=>[(0, .d (dN a)),(1, .d (dN b)),(5, .rw 35),(6, .d (vI (i:Nat))),(7, .d (dU ((dg a).getD i 0))),(8, .d (.v (.int .u64 (c:Nat)))),(36, .d (dN a)),(37, .d (vI ((dg a).length:Nat))),(38, .d (vI (i:Nat))),(43, .d (dN b)),(44, .d (vI ((dg b).length:Nat))),(45, .d (vI (k:Nat)))]) (fun⟨W2,c,k⟩=>[(35,some (.b 215 1 (W2.map dU) true))]) (fun⟨W2,c,k⟩=>W2.length=(dg a).length+(dg b).length∧DOk W2∧c<4294967296∧k≤(dg b).length∧dv (W2.take (i+(dg b).length))+4294967296^(i+k)*c=dv ((dg a).take i)*b+(dg a).getD i 0*(4294967296^i*dv ((dg b).take k))) (fun⟨W2,c,k⟩=>(dg b).length-k) ⟨W,0,0⟩ rfl ⟨h1,h2,by omega,by omega,by rw[h4];simp[dv]⟩ (fun _=>rfl) (fun⟨W2,c,k⟩ hk=>?_)
   dsimp only at hk⊢
   obtain⟨g1,g2,g3,g4,g5⟩:=hk
   have hlw:=aaz W2
   have hw:=g2.get (i+k)
   have hda:=adm a i
   have hdb:=adm b k
   refine br (fu2:=⟨10⟩) J J J (fun hc46=>?_) (fun hc46=>?_)
   ·
    refine ix (fu:=⟨12⟩) (hv:=by simp only[aah];exact⟨⟨by omega,by omega⟩,⟨(azs _ _),(ay0 (adm _ _) (adm _ _))⟩⟩) _ rfl (abe (by omega)) rfl<|?_
    obtain⟨p,hp⟩: ∃p,p=(dg a).getD i 0*(dg b).getD k 0:=⟨_,rfl⟩
    have hp1:p≤18446744065119617025:=hp▸avO hda hdb
    refine eqF 54 (.d (.v (.int .u64 (p:Nat)))) rfl (by rw[hp,jQ]) ?_
    refine gx rfl<|lb (fu:=⟨4⟩) _ rfl (aaA (k:=i+k) (by omega) (by omega)) rfl<|?_
    obtain⟨t,ht⟩: ∃t,t=p+W2.getD (i+k) 0+c:=⟨_,rfl⟩
    refine eqF 64 (.d (.v (.int .u64 (t:Nat)))) rfl (by congr 3;omega) ?_
    refine gx (fu:=⟨11⟩) rfl<|?_
    refine eqF 70 (.d (dU (t%4294967296))) rfl (by show FX.d (.v (.int _ _))= .d (.v (.int _ _));congr 3) ?_
    refine gx rfl<|sb (fu:=⟨5⟩) (hv:=by simp only[aah];exact(by decide)) _ ((W2.set (i+k) (t%4294967296)).map dU) rfl (aaA (k:=i+k) (by omega) (by omega)) rfl (by(rw[show((i:Int)+k).toNat=i+k by omega,←ad8])<;>rfl) rfl<|?_
    refine eqF 73 (.d (.v (.int .u64 (t/4294967296:Nat)))) rfl (by rw[auy]) ?_
    refine gx rfl<|?_
    exact at_ ⟨W2.set (i+k) (t%4294967296),t/4294967296,k+1⟩ (by dsimp only;exact⟨⟨by simpa using g1,g2.set _ (by omega),by omega,by omega,by rw[aaw];exact awg (by omega) (by omega) g5 ht hp⟩,(by omega)⟩)
   ·
    obtain rfl:k=(dg b).length:=by omega
    refine eqF 78 (.d (vI ((dg b).length:Nat))) rfl (by rw[hlb];rfl) ?_
    refine gx (fu:=⟨3⟩) rfl<|?_
    refine eqF 81 (.d (dU c)) rfl (by show FX.d (.v (.int _ _))= .d (.v (.int _ _));congr 3;omega) ?_
    refine gx rfl<|sb _ ((W2.set (i+(dg b).length) c).map dU) rfl (aaA (k:=i+(dg b).length) (by omega) (by omega)) rfl (by(rw[show((i:Int)+((dg b).length:Nat)).toNat=i+(dg b).length by omega,←ad8])<;>rfl) rfl<|?_
    exact at_ ⟨W2.set (i+(dg b).length) c,i+1⟩ (by dsimp only;exact⟨⟨by simpa using g1,g2.set _ g3,by omega,axu rfl (by omega) g5⟩,(by omega)⟩)
  ·
   obtain rfl:i=(dg a).length:=by omega
   refine fz 35 J J<|cl rfl (af2 (ds:=W) (by omega)) rfl<|?_
   exact rz rfl (aeC h2 (by have:=h4;rw[acs (by omega),acs (by omega),aaO] at this;exact this))
theorem ako(x s:Nat):x*2^s=x*2^s%4294967296+4294967296*(x*2^s/4294967296):=by omega
theorem aBh{x s:Nat}(hx:x<4294967296)(hs:s<32):x*2^s/4294967296<2^s:=by
 rw[kX (by decide),bL (2^s)]
 exact mR hx (aM _) (eK (by decide))
theorem asY{s:Nat}(hs:s<32):2^s*2^(32-s)=4294967296:=by rw[←eX,show s+(32-s)=32 by omega]
theorem aBx(x s:Nat)(hs:s<32):x*2^s%4294967296=x%2^(32-s)*2^s:=by
 rw[←asY hs,bL (2^s),rV]
theorem ax0{x s:Nat}(hx:x<4294967296)(hs:s<32):x*2^s<18446744073709551616:=by
 have h1:2^s≤2^31:=bV (by decide) (by omega)
 have:=mR hx h1 (by decide)
 omega
theorem az9{w x s:Nat}(hw:w<2^s)(hs:s<32):(BitVec.ofInt 32 (w:Int) ||| BitVec.ofInt 32 ((x*2^s%4294967296:Nat):Int)).toNat=w+x*2^s%4294967296:=by
 rw[aBx x s hs]
 refine art 32 _ _ _ hw ?_
 have h1:x%2^(32-s)+1≤2^(32-s):=dX _ (eK (by decide))
 have h2:=bK (2^s) h1
 rw[bL (2^(32-s)),asY hs,cS,nJ] at h2
 show _<4294967296
 omega
theorem avc{h:Nat}(hh:h<4294967296):(BitVec.ofInt 32 ((0:Nat):Int) ||| BitVec.ofInt 32 (h:Int)).toNat=h:=by
 have:=art 32 0 h 0 (by decide) (by simpa using hh)
 simpa using this
theorem auZ(k:Nat):2^k=4294967296^(k/32)*2^(k%32):=by
 rw[show(4294967296:Nat)=2^32 from rfl,←pX,←eX,qX]
theorem getD_set_ne{W:List Nat}{i j d:Nat}(h:i≠j):(W.set i d).getD j 0=W.getD j 0:=by
 rw[aX,aX,List.getElem?_set_ne h]
theorem ajj{W:List Nat}{i d:Nat}(h:i<W.length):(W.set i d).getD i 0=d:=by
 rw[aX,oT h];rfl
theorem axe{A W:List Nat}{k q s i x:Nat}(hq:q=k/32)(hs:s=k%32)(hl:q+i+1<W.length)(hx:x=A.getD i 0)
  (h:dv (W.take (q+i+1))=dv (A.take i)*2^k):
  dv (((W.set (q+i) (W.getD (q+i) 0+x*2^s%4294967296)).set (q+i+1) (x*2^s/4294967296)).take (q+(i+1)+1))=dv (A.take (i+1))*2^k:=by
 have e1:=anp (W:=W) (j:=q+i) (m:=q+i+1) (d:=W.getD (q+i) 0+x*2^s%4294967296) (by omega) (by omega)
 rw[show q+(i+1)+1=q+i+1+1 by omega,abf (by rw[aN];omega),aaw A,←hx]
 have e2:dv ((W.set (q+i) (W.getD (q+i) 0+x*2^s%4294967296)).take (q+i+1))=dv (A.take i)*2^k+4294967296^(q+i)*(x*2^s%4294967296):=by
  rw[dY,h] at e1;omega
 rw[e2,fX,bM,jR,←dY,←ako,cS,auZ k,←hq,←hs,eX]
 simp only[bM,kM,bL]
theorem apU{a k ia:Nat}[ha:BN a ia](hk:k≤1000000000)(hi:ia≤1000000000:=by decide):PF GB prog 232 [dN a,vI (k:Nat)] (dN (a*2^k)):=by
 have hla:=aaz (dg a)
 have hba:=adf ha.h hi
 refine fn (fu:=⟨9⟩) func232 J J ntmps232 J J (fun C=>?_)
 refine eqF 11 (.d (vI (k/32:Nat))) rfl (by show FX.d (.v (.int _ _))= .d (.v (.int _ _));rw[avM hk]) ?_
 refine gx (fu:=⟨2⟩) rfl<|?_
 refine eqF 13 (.d (vI ((dg a).length:Nat))) rfl (by rw[hla];rfl) ?_
 refine gx (fu:=⟨2⟩) rfl<|?_
 refine eqF 15 (.d (vI (k/32+(dg a).length+1:Nat))) rfl (by show FX.d (.v (.int _ _))= .d (.v (.int _ _));congr 3) ?_
 refine gx rfl<|mk (fu:=⟨7⟩) (hv:=by simp only[aah];exact(by decide)) ((List.replicate (k/32+(dg a).length+1) 0).map dU) J J (by rw[←aeJ];rfl) rfl<|?_
 refine eqF 18 (.d (vI (k%32:Nat))) rfl (by show FX.d (.v (.int _ _))= .d (.v (.int _ _));rw[aDz]) ?_
 refine gx (fu:=⟨9⟩) rfl<|?_
 refine eqF 21 (.d (vI ((dg a).length:Nat))) rfl (by rw[hla];rfl) ?_
 refine gx rfl<|?_
 refine lp (X:=List Nat×Nat) (fun⟨W,i⟩=>[(0, .d (dN a)),(1, .d (vI (k:Nat))),(5, .rw 16),(6, .d (.v (.int .u64 (k%32:Nat)))),(20, .d (dN a)),(21, .d (vI ((dg a).length:Nat))),(22, .d (vI (i:Nat)))]) (fun⟨W,i⟩=>[(16,some (.b 215 1 (W.map dU) true))]) (fun⟨W,i⟩=>W.length=k/32+(dg a).length+1∧DOk W∧i≤(dg a).length∧dv (W.take (k/32+i+1))=dv ((dg a).take i)*2^k∧W.getD (k/32+i) 0<2^(k%32)∧ ∀j,k/32+i<j→W.getD j 0=0) (fun⟨W,i⟩=>(dg a).length-i) ⟨List.replicate (k/32+(dg a).length+1) 0,0⟩ rfl ⟨by simp, .replicate _,by omega,by rw[List.take_replicate,acy];simp[dv],by rw[apm];exact eK (by decide),fun j _=>apm _ _⟩ (fun _=>rfl) (fun⟨W,i⟩ hk=>?_)
 dsimp only at hk⊢
 obtain⟨h1,h2,h3,h4,h5,h6⟩:=hk
 have hlw:=aaz W
 have hda:=adm a i
 have hsk:k%32<32:=dX _ (by decide)
 have hpp:2^(k%32)≤2^31:=bV (by decide) (by omega)
 refine br J J J (fun hc23=>?_) (fun hc23=>?_)
 ·
  refine ix (fu:=⟨11⟩) (hv:=by simp only[aah];exact⟨by omega,(by omega)⟩) _ rfl (abe (by omega)) rfl<|?_
  have hhi:=aBh hda hsk
  have hfit0:=ax0 hda hsk
  have hor:=az9 (x:=(dg a).getD i 0) h5 hsk
  have hfit:W.getD (k/32+i) 0+(dg a).getD i 0*2^(k%32)%4294967296<4294967296:=by rw[←hor];exact BitVec.isLt _
  have hlp:=ako ((dg a).getD i 0) (k%32)
  refine eqF 30 (.d (.v (.int .u64 ((dg a).getD i 0*2^(k%32):Nat)))) rfl (by show FX.d (.v (.int _ _))= .d (.v (.int _ _));rw[aeh _ (k%32) (by omega) hfit0 (by omega)]) ?_
  obtain⟨t,ht⟩: ∃t,t=(dg a).getD i 0*2^(k%32):=⟨_,rfl⟩
  simp only[←ht] at hhi hfit0 hor hfit hlp
  rw[←ht]
  refine gx (fu:=⟨8⟩) rfl<|?_
  refine eqF 33 (.d (vI (k/32:Nat))) rfl (by show FX.d (.v (.int _ _))= .d (.v (.int _ _));rw[avM hk]) ?_
  refine gx rfl<|lb (fu:=⟨2⟩) _ rfl (aaA (k:=k/32+i) (by omega) (by omega)) rfl<|?_
  refine eqF 39 (.d (dU (t%4294967296))) rfl (by show FX.d (.v (.int _ _))= .d (.v (.int _ _));congr 3) ?_
  refine gx (fu:=⟨1⟩) rfl<|?_
  refine eqF 40 _ rfl (congrArg (fun z:Nat=>FX.d (.v (.int .u32 (z:Int)))) hor) ?_
  refine gx rfl<|sb (fu:=⟨6⟩) _ ((W.set (k/32+i) (W.getD (k/32+i) 0+t%4294967296)).map dU) rfl (aaA (k:=k/32+i) (by omega) (by omega)) rfl (by(rw[show(((k/32:Nat):Int)+i).toNat=k/32+i by omega];simp only[kL];rfl)<;>rfl) rfl<|?_
  refine eqF 44 (.d (vI (k/32:Nat))) rfl (by show FX.d (.v (.int _ _))= .d (.v (.int _ _));rw[avM hk]) ?_
  refine gx rfl<|lb (fu:=⟨0⟩) _ rfl (aaA (k:=k/32+i+1) (by omega) (by rw[aN];omega)) rfl<|?_
  refine eqF 49 (.d (dU 0)) rfl (by rw[getD_set_ne (by omega),h6 _ (by omega)]) ?_
  refine gx (fu:=⟨2⟩) (hv:=by simp only[aah];exact(by decide)) rfl<|?_
  refine eqF 51 (.d (.v (.int .u64 (t/4294967296:Nat)))) rfl (by rw[auy]) ?_
  refine gx (fu:=⟨1⟩) rfl<|?_
  refine eqF 52 (.d (dU (t/4294967296))) rfl (by show FX.d (.v (.int _ _))= .d (.v (.int _ _));congr 3;omega) ?_
  refine gx (fu:=⟨1⟩) rfl<|?_
  refine eqF 53 _ rfl (congrArg (fun z:Nat=>FX.d (.v (.int .u32 (z:Int)))) (avc (by omega))) ?_
  refine gx rfl<|sb _ (((W.set (k/32+i) (W.getD (k/32+i) 0+t%4294967296)).set (k/32+i+1) (t/4294967296)).map dU) rfl (aaA (k:=k/32+i+1) (by omega) (by rw[aN];omega)) rfl (by(rw[show(((k/32:Nat):Int)+i+1).toNat=k/32+i+1 by omega];simp only[kL];rfl)<;>rfl) rfl<|?_
  exact at_ ⟨(W.set (k/32+i) (W.getD (k/32+i) 0+t%4294967296)).set (k/32+i+1) (t/4294967296),i+1⟩ (by dsimp only;exact⟨⟨by simpa using h1,(h2.set _ hfit).set _ (by omega),by omega,by have q:=axe (x:=(dg a).getD i 0) J J (by omega) rfl h4;rw[←ht] at q;exact q,by rw[show k/32+(i+1)=k/32+i+1 by omega,ajj (by simp;omega)];exact hhi,fun j hj=>by rw[getD_set_ne (by omega),getD_set_ne (by omega)];exact h6 j (by omega)⟩,(by omega)⟩)
 ·
  obtain rfl:i=(dg a).length:=by omega
  refine fz 16 J J<|cl rfl (af2 (ds:=W) (by omega)) rfl<|?_
  exact rz rfl (aeC h2 (by have:=h4;rw[acs (by omega),acs (by omega),aaO] at this;exact this))
theorem ari{a k:Nat}(h:(dg a).length≤k/32):a/2^k=0:=by
 refine jL ?_
 have h1:=aej (ae6 a)
 rw[aaO] at h1
 have h2:4294967296^(dg a).length≤4294967296^(k/32):=bV (by decide) h
 have h3:4294967296^(k/32)*1≤4294967296^(k/32)*2^(k%32):=dS _ (eK (by decide))
 rw[auZ k]
 omega
theorem ald{ds:List Nat}(h:DOk ds)(q:Nat):dv (ds.drop q)=dv ds/4294967296^q:=by
 rcases iY ds.length q with hq|hq
 ·rw[jK (by omega)]
  have h1:=aej h
  have h2:4294967296^ds.length≤4294967296^q:=bV (by decide) (by omega)
  rw[jL (by omega)];rfl
 ·have e:=aiB ds q hq
  have h1:=aej (h.take q)
  rw[cR,iZ hq] at h1
  rw[e,lS _ _ (eK (by decide)),jL h1,eJ]
theorem avG{ds:List Nat}(h:DOk ds)(i:Nat):dv ds/4294967296^i=ds.getD i 0+4294967296*ds.getD (i+1) 0+18446744073709551616*(dv ds/4294967296^(i+2)):=by
 have e0:=ald h i
 have e2:=ald h (i+2)
 rw[←e0,←e2]
 have g0:ds.getD i 0=(ds.drop i).getD 0 0:=by rw[aX,aX,mU];rfl
 have g1:ds.getD (i+1) 0=(ds.drop i).getD 1 0:=by rw[aX,aX,mU]
 have g2:ds.drop (i+2)=(ds.drop i).drop 2:=by rw[List.drop_drop]
 rw[g0,g1,g2]
 match ds.drop i with
 |[]=>rfl
 |[u]=>simp[dv]
 |u::v::t=>simp only[dv,sU,lQ,sY,gT];omega
theorem aru{D s i u v w Z:Nat}(hs:s<32)(hZ:D/4294967296^i=u+4294967296*v+18446744073709551616*Z)(hw:w=(u+v*4294967296)/2^s%4294967296):(D/2^s)%4294967296^(i+1)=(D/2^s)%4294967296^i+4294967296^i*w:=by
 rw[fX,Nat.mod_mul]
 congr 2
 rw[mJ,bL (2^s),←mJ,hZ,hw]
 have h1:18446744073709551616=2^s*(2^(32-s)*4294967296):=by rw[←bM,asY hs]
 rw[h1,bM (2^s),lS _ _ (eK (by decide)),bL v]
 rw[bL (2^(32-s)),bM,mL]
theorem avI{a k:Nat}{W:List Nat}{q s:Nat}(hq:q=k/32)(hs:s=k%32)(hl:W.length=(dg a).length-q)(h:dv (W.take ((dg a).length-q))=(dv ((dg a).drop q)/2^s)%4294967296^((dg a).length-q)):dv W=a/2^k:=by
 rw[acs (by omega)] at h
 have h1:=aej ((ae6 a).drop q)
 rw[gV] at h1
 have h2:=kK (dv ((dg a).drop q)) (2^s)
 rw[h,fJ (by omega),ald (ae6 a),aaO,auZ k,←hq,←hs,mJ]
theorem aCe{a k ia:Nat}[ha:BN a ia](hk:k≤1000000000)(hi:ia≤1000000000:=by decide):PF GB prog 233 [dN a,vI (k:Nat)] (dN (a/2^k)):=by
 have hla:=aaz (dg a)
 have hba:=adf ha.h hi
 refine fn (fu:=⟨10⟩) func233 J J ntmps233 J J (fun C=>?_)
 refine eqF 12 (.d (vI (k/32:Nat))) rfl (by show FX.d (.v (.int _ _))= .d (.v (.int _ _));rw[avM hk]) ?_
 refine gx (fu:=⟨2⟩) rfl<|?_
 refine eqF 14 (.d (vI ((dg a).length:Nat))) rfl (by rw[hla];rfl) ?_
 refine gx rfl<|?_
 refine br (fu2:=⟨6⟩) (v2:=fun _=>by simp only[aah];exact(by decide)) J J J (fun hc15=>?_) (fun hc15=>?_)
 ·
  exact rz rfl (by rw[ari (by omega),acW];rfl)
 ·
  refine eqF 17 (.d (vI (k%32:Nat))) rfl (by show FX.d (.v (.int _ _))= .d (.v (.int _ _));rw[aDz]) ?_
  refine gx (fu:=⟨9⟩) rfl<|?_
  refine eqF 21 (.d (vI (k/32:Nat))) rfl (by show FX.d (.v (.int _ _))= .d (.v (.int _ _));rw[avM hk]) ?_
  refine gx rfl<|sc' (fu:=⟨0⟩) (k/32) (dg a).length _ J J (by rw[hla]) rfl (amE _) (by omega) (by omega) rfl<|?_
  obtain⟨I,hI⟩: ∃I,I=(dg a).drop (k/32):=⟨_,rfl⟩
  have hIl:I.length=(dg a).length-k/32:=by rw[hI,gV]
  have hIm:=aaz I
  have hIo:DOk I:=hI▸(ae6 a).drop _
  refine eqF 22 (.d (dLi I)) rfl (by show FX.d (.sl _)= .d (.sl _);rw[hI,←hla,cM,iL]) ?_
  refine gx (fu:=⟨7⟩) rfl<|?_
  refine eqF 24 (.d (vI (I.length:Nat))) rfl (by rw[hIm];rfl) ?_
  refine gx rfl<|mk (fu:=⟨8⟩) ((List.replicate I.length 0).map dU) J J (by rw[←aeJ];rfl) rfl<|?_
  refine eqF 27 (.d (vI (I.length:Nat))) rfl (by rw[hIm];rfl) ?_
  refine gx rfl<|?_
  refine lp (X:=List Nat×Nat) (fun⟨W,i⟩=>[(0, .d (dN a)),(5, .d (.v (.int .u64 (k%32:Nat)))),(6, .d (dLi I)),(7, .rw 25),(26, .d (dLi I)),(27, .d (vI (I.length:Nat))),(28, .d (vI (i:Nat)))]) (fun⟨W,i⟩=>[(25,some (.b 215 1 (W.map dU) true))]) (fun⟨W,i⟩=>W.length=I.length∧DOk W∧i≤I.length∧dv (W.take i)=(dv I/2^(k%32))%4294967296^i) (fun⟨W,i⟩=>I.length-i) ⟨List.replicate I.length 0,0⟩ rfl ⟨by simp, .replicate _,by omega,by simp[dv,Nat.mod_one]⟩ (fun _=>rfl) (fun⟨W,i⟩ hk=>?_)
  dsimp only at hk⊢
  obtain⟨h1,h2,h3,h4⟩:=hk
  have hlw:=aaz W
  have hda:=hIo.get i
  have hdb:=hIo.get (i+1)
  have hsk:k%32<32:=dX _ (by decide)
  refine br J J J (fun hc29=>?_) (fun hc29=>?_)
  ·
   refine ix (fu:=⟨13⟩) _ rfl (abe (by omega)) rfl<|?_
   refine mg (fu:=⟨6⟩) (hv:=fun _ _=>by simp only[aah];exact(by omega)) (X:=Unit) (fun _=>[(0, .d (dN a)),(5, .d (.v (.int .u64 (k%32:Nat)))),(6, .d (dLi I)),(7, .rw 25),(26, .d (dLi I)),(27, .d (vI (I.length:Nat))),(28, .d (vI (i:Nat))),(8, .d (vI (i:Nat))),(10, .d (.v (.int .u64 (I.getD i 0+I.getD (i+1) 0*4294967296:Nat))))]) (fun _=>[(25,some (.b 215 1 (W.map dU) true))]) (fun _=>True) [0,5,6,7,26,27,28,8,10] [25] rfl ?_ (fun _=>rfl) (fun _ hm=>?_)
   ·
    refine gx (fu:=⟨6⟩) rfl<|?_
    refine eqF 38 (.d (vI (I.length:Nat))) rfl (by rw[hIm];rfl) ?_
    refine gx rfl<|?_
    refine br J J J (fun hc39=>?_) (fun hc39=>?_)
    ·
     refine ix (fu:=⟨3⟩) (hv:=by simp only[aah];exact⟨by omega,(by decide)⟩) _ rfl (aaA (k:=i+1) (by omega) (by omega)) rfl<|?_
     refine eqF 47 (.d (.v (.int .u64 (I.getD (i+1) 0*4294967296:Nat)))) rfl (by show FX.d (.v (.int _ _))= .d (.v (.int _ _));rw[aeh _ 32 (by decide) (by show _*4294967296<_;omega) rfl]) ?_
     refine gx (fu:=⟨1⟩) rfl<|?_
     refine eqF 48 _ rfl (congrArg (fun z:Nat=>FX.d (.v (.int .u64 (z:Int)))) (art 64 (I.getD i 0) (I.getD (i+1) 0) 32 hda (by show _+_*4294967296<18446744073709551616;omega))) ?_
     refine gx rfl<|?_
     exact at_ () trivial
    ·
     refine eqF 10 (.d (.v (.int .u64 (I.getD i 0+I.getD (i+1) 0*4294967296:Nat)))) rfl (by rw[ad3 (by omega:I.length≤i+1),lY,fQ]) ?_
     exact at_ () trivial
   ·
    refine eqF 53 (.d (.v (.int .u64 ((I.getD i 0+I.getD (i+1) 0*4294967296)/2^(k%32):Nat)))) rfl (by show FX.d (.v (.int _ _))= .d (.v (.int _ _));rw[aeM _ (k%32) (by omega) (by omega)]) ?_
    refine gx (fu:=⟨1⟩) rfl<|?_
    obtain⟨w,hw⟩: ∃w,w=(I.getD i 0+I.getD (i+1) 0*4294967296)/2^(k%32)%4294967296:=⟨_,rfl⟩
    have hw1:w<4294967296:=hw▸dX _ (by decide)
    refine eqF 54 (.d (dU w)) rfl (by show FX.d (.v (.int _ _))= .d (.v (.int _ _));rw[hw];congr 3) ?_
    refine gx rfl<|sb _ ((W.set i w).map dU) rfl (abe (by omega)) rfl (by(rw[←ad8];rfl)<;>rfl) rfl<|?_
    exact at_ ⟨W.set i w,i+1⟩ (by dsimp only;exact⟨⟨by simpa using h1,h2.set _ (by omega),by omega,by rw[abf (by omega),h4];exact(aru hsk (avG hIo i) hw).symm⟩,(by omega)⟩)
  ·
   refine fz 25 J J<|cl rfl (af2 (ds:=W) (by omega)) rfl<|?_
   exact rz rfl (aeC h2 (by obtain rfl:i=I.length:=(by omega);rw[hIl] at h1 h4;rw[hI] at h4;exact avI rfl rfl h1 h4))
theorem aha{a k:Nat}(h:a<4294967296^k):(dg a).length≤k:=by
 rcases iY k (dg a).length with q|q
 ·have h1:=af0 (aaC a).2.2 (by intro e;rw[e] at q;simp at q)
  rw[aaO] at h1
  have h2:4294967296^k≤4294967296^((dg a).length-1):=bV (by decide) (by omega)
  omega
 ·exact q
theorem awq{a:Nat}(h:(dg a).length=2):(dg a).getD 0 0+(dg a).getD 1 0*4294967296=a:=by
 have e:=aaO a
 revert e
 match dg a,h with
 |[x,y],_=>intro e;simp[dv] at e⊢;omega
def ati(a:Nat):DV:= .tp [.v (.int .u64 ((if a<18446744073709551616 then a else 0:Nat):Int)),vB (decide (a<18446744073709551616))]
theorem apK{a:Nat}(h:a<18446744073709551616):ati a= .tp [.v (.int .u64 (a:Int)),vB true]:=by unfold ati;rw[if_pos h,decide_eq_true h]
theorem axx{a:Nat}(h: ¬a<18446744073709551616):ati a= .tp [.v (.int .u64 0),vB false]:=by unfold ati;rw[if_neg h,decide_eq_false h];rfl
theorem adg(a:Nat):a<4294967296^(dg a).length:=by have:=aej (ae6 a);rwa [aaO] at this
theorem aq6{a ia:Nat}[ha:BN a ia](hi:ia≤1000000000:=by decide):PF GB prog 172 [dN a] (ati a):=by
 have hla:=aaz (dg a)
 have hba:=adf ha.h hi
 have hlt:=adg a
 have hd00:=adm a 0
 refine fn (fu:=⟨11⟩) func172 J J ntmps172 J J (fun C=>?_)
 refine eqF 5 (.d (vI ((dg a).length:Nat))) rfl (by rw[hla];rfl) ?_
 refine gx rfl<|?_
 refine br J J J (fun hc6=>?_) (fun hc6=>?_)
 ·
  exact rz rfl (by rw[show(dg a).length=0 by omega] at hlt;obtain rfl:a=0:=(by omega);rfl)
 ·
  refine br J J J (fun hc8=>?_) (fun hc8=>?_)
  ·
   refine ix (fu:=⟨2⟩) _ rfl (aaA (k:=0) rfl (by omega)) rfl<|?_
   refine eqF 13 (.d (.v (.int .u64 (a:Nat)))) rfl (by rw[acA (by omega)]) ?_
   refine gx rfl<|?_
   exact rz rfl (by rw[show(dg a).length=1 by omega] at hlt;rw[apK (by omega),←acA (a:=a) (by omega),acA (a:=a) (by omega)];rfl)
  ·
   refine br J J J (fun hc14=>?_) (fun hc14=>?_)
   ·
    have hd0:=adm a 0
    have hd1:=adm a 1
    refine ix (hv:=by simp only[aah];exact⟨by omega,(by decide)⟩) _ rfl (aaA (k:=1) rfl (by omega)) rfl<|ix (fu:=⟨3⟩) _ rfl (aaA (k:=0) rfl (by omega)) rfl<|?_
    refine eqF 25 (.d (.v (.int .u64 (a:Nat)))) rfl (congrArg (fun z:Nat=>FX.d (.v (.int .u64 (z:Int)))) (by rw[aeh _ 32 (by decide) (by show _*4294967296<_;omega) rfl,BitVec.or_comm];exact(art 64 ((dg a).getD 0 0) ((dg a).getD 1 0) 32 hd0 (by show _+_*4294967296<18446744073709551616;omega)).trans (awq (by omega)))) ?_
    refine gx rfl<|?_
    exact rz rfl (by rw[show(dg a).length=2 by omega] at hlt;rw[apK (by omega)];rfl)
   ·
    exact rz rfl (by rw[axx];rfl;intro h;have:=aha (a:=a) (k:=2) (by omega);omega)
theorem aDS{G:Gh}{ds:List Nat}{v:Value}(hd:DOk ds)(h:Is G (dLi ds) v): ∃x:SV,v=x.v∧IsD G x ds:=by
 obtain⟨x,rfl,h1⟩:=aCN.1 h
 exact⟨x,rfl,hd,h1⟩
theorem IsN.is{G:Gh}{k n:Nat}{z:SV}(h:IsN k G z n):Is G (dN n) z.v:=(aGm h.lt).2 ⟨z,rfl,h⟩
theorem op1{G:Gh}{ds:List Nat}{vs:List Value}(hd:DOk ds)(h:IsLs G [dLi ds] vs): ∃x:SV,vs=[x.v]∧IsD G x ds:=by
 obtain⟨v,m,rfl,h1,h2⟩:=aad.1 h
 cases aaN.1 h2
 obtain⟨x,rfl,h3⟩:=aDS hd h1
 exact⟨x,rfl,h3⟩
theorem op2{G:Gh}{a b:Nat}{vs:List Value}(h:IsLs G [dN a,dN b] vs): ∃x y:SV,vs=[x.v,y.v]∧IsD G x (dg a)∧IsD G y (dg b):=by
 obtain⟨v,m,rfl,h1,h2⟩:=aad.1 h
 obtain⟨y,rfl,h4⟩:=op1 (aaC b).2.1 h2
 obtain⟨x,rfl,h3⟩:=aDS (aaC a).2.1 h1
 exact⟨x,y,rfl,h3,h4⟩
section
variable {GB:Gh} {a b i j:Nat}
theorem agD[h:BN a i](hi:i≤1000000000):(dg a).length≤31250001:=by have:=aa2 h.h;omega
theorem axr{ds:List Nat}(hd:DOk ds)(hl:ds.length≤1125899906842624):PF GB prog 265 [dLi ds] (vB (decide (Nrm ds))):=fun G vs _ hv=>by
 obtain⟨x,rfl,hx⟩:=op1 hd hv
 exact(ar4 hx hl).mono fun v G' _ h=>aaY.2 h
theorem ajB[h:BN a i](hi:i≤1000000000:=by decide):PF GB prog 200 [dN a] (vI (bl a:Nat)):=fun G vs _ hv=>by
 obtain⟨x,rfl,hx⟩:=op1 (aaC a).2.1 hv
 have:=agD (a:=a) hi
 exact(awd hx (by omega)).mono fun v G' _ h=>aaY.2 (by rw[h,aaO])
theorem akX[h:BN a i](hi:i≤1000000000:=by decide):PF GB prog 164 [dN a] (dN a):=fun G vs _ hv=>by
 obtain⟨x,rfl,hx⟩:=op1 (aaC a).2.1 hv
 have:=agD (a:=a) hi
 refine(alO (k:=i) hx (by rw[aaO];exact h.h) (by omega)).mono fun v G' _ h=>?_
 obtain⟨z,rfl,h⟩:=h
 rw[aaO] at h;exact h.is
theorem ahk(h:a<18446744073709551616):PF GB prog 165 [.v (.int .u64 (a:Nat))] (dN a):=fun G vs _ hv=>by
 obtain⟨v,m,rfl,h1,h2⟩:=aad.1 hv
 cases aaN.1 h2
 rw[aaY.1 h1]
 refine(afv h).mono fun v G' _ h=>?_
 obtain⟨z,rfl,h⟩:=h
 exact h.is
theorem atg(h:a<18446744073709551616):PF GB prog 204 [dN a] (.tp [.v (.int .u64 (a:Nat)),vB true]):=fun G vs _ hv=>by
 obtain⟨x,rfl,hx⟩:=op1 (aaC a).2.1 hv
 have:BN a 64:=⟨h⟩
 have:=agD (a:=a) (i:=64) (by decide)
 refine(ala hx (by omega)).mono fun v G' _ e=>?_
 rw[aaO,if_pos h,decide_eq_true h] at e
 subst e
 exact aem.2 ⟨_,rfl, .cons (aaY.2 rfl) (.cons (aaY.2 rfl) .nil)⟩
theorem aFV[h:BN a i][k:BN b j](hi:i≤1000000000:=by decide)(hj:j≤1000000000:=by decide):PF GB prog 216 [dN a,dN b] (dN (a+b)):=fun G vs _ hv=>by
 obtain⟨x,y,rfl,hx,hy⟩:=op2 hv
 have:=agD (a:=a) hi
 have:=agD (a:=b) hj
 refine(aCf (kk:=i+j+1) hx hy (by rw[aaO,aaO];exact afz h.h k.h) (by omega) (by omega)).mono fun v G' _ h=>?_
 obtain⟨z,rfl,h⟩:=h
 rw[aaO,aaO] at h;exact h.is
theorem aEN[h:BN a i][k:BN b j](hi:i≤1000000000:=by decide)(hj:j≤1000000000:=by decide):PF GB prog 217 [dN a,dN b] (.tp [dN (a-b),vB (decide (b≤a))]):=fun G vs _ hv=>by
 obtain⟨x,y,rfl,hx,hy⟩:=op2 hv
 have:=agD (a:=a) hi
 have:=agD (a:=b) hj
 refine(aBR (kk:=i) hx hy (by rw[aaO];exact h.h) (by omega) (by omega)).mono fun v G' _ h=>?_
 obtain⟨z,rfl,h⟩:=h
 rw[aaO,aaO] at h⊢
 exact aem.2 ⟨_,rfl, .cons h.is (.cons (aaY.2 rfl) .nil)⟩
theorem arp[h:BN a i][k:BN b j](hi:i≤1000000000:=by decide)(hj:j≤1000000000:=by decide):PF GB prog 161 [dN a,dN b] (dN (a*b)):=fun G vs _ hv=>by
 obtain⟨x,y,rfl,hx,hy⟩:=op2 hv
 have:=agD (a:=a) hi
 have:=agD (a:=b) hj
 refine(aBX (kk:=i+j) hx hy (by rw[aaO,aaO];exact abm h.h k.h) (by omega) (by omega)).mono fun v G' _ h=>?_
 obtain⟨z,rfl,h⟩:=h
 rw[aaO,aaO] at h;exact h.is
theorem aql[h:BN a i][k:BN b j](hb:0<b)(hi:i≤1000000000:=by decide)(hj:j≤1000000000:=by decide):PF GB prog 202 [dN a,dN b] (.tp [dN (a/b),dN (a%b),vB true]):=fun G vs _ hv=>by
 obtain⟨x,y,rfl,hx,hy⟩:=op2 hv
 have:=agD (a:=a) hi
 have:=agD (a:=b) hj
 refine(ahU (k1:=i) (k2:=j) hx hy (by rw[aaO];exact hb) (by rw[aaO,aaO];exact eY (kK _ _) h.h) (by rw[aaO,aaO];exact pY (dX _ hb) k.h) (by omega) (by omega)).mono fun v G' _ h=>?_
 obtain⟨z,r,rfl,h,h'⟩:=h
 rw[aaO,aaO] at h h'
 exact aem.2 ⟨_,rfl, .cons h.is (.cons h'.is (.cons (aaY.2 rfl) .nil))⟩
theorem aDr[h:BN a i][k:BN b j](hi:i≤1000000000:=by decide)(hj:j≤1000000000:=by decide):PF GB prog 201 [dN a,dN b] (dN (Nat.gcd a b)):=fun G vs _ hv=>by
 obtain⟨x,y,rfl,hx,hy⟩:=op2 hv
 have:=agD (a:=a) hi
 have:=agD (a:=b) hj
 have e: ∀k',k'≤i+j→(2:Nat)^k'≤2^(i+j):=fun k' h=>bV (by decide) h
 have:=e i (by omega)
 have:=e j (by omega)
 have:=h.h
 have:=k.h
 refine(aAB (k:=i+j) (k0:=i+j) hx hy (by rw[aaO];omega) (by rw[aaO];omega) (by omega) (by rw[aaO,aaO];exact aow h.h k.h) (by omega) (by omega)).mono fun v G' _ h=>?_
 obtain⟨z,rfl,h⟩:=h
 rw[aaO,aaO] at h;exact h.is
end
section
variable {GB:Gh} {C:Ctx} {n:Nat} {Q0:Exit→Act→World→Prop} {fr fr' fr1 fr2:FrX} {own own' own1 own2:OwX} {cf cf' cf1 cf2:Cf} {vc vc1 vc2:List Prop}
theorem rzI{fb:Func}{e:Exit}{ds:List DV}{rv:DV}(hr:avQ tt fr own fb.results.toList=some ds)(hd: ∀G y,Is G (akl ds) y→Is G rv y)(he:awF e=true:=by rfl):CfS prog GB C n (acF C prog fb (afR C (fun v G'=>Is G' rv v))) fr own (.ex e []):=by
 refine⟨fun ρ G ov a w r=>?_⟩
 obtain⟨vs,h1,h2⟩:=alY r hr
 have hk:Is G rv (abL vs):=hd _ _ (ame h2)
 cases e with
 |ret=>exact zD (C:=C) (n:=n) (fr:=frA a) (own:=ov) (G:=G) (K:=fun v G'=>Is G' rv v) h1 hk a w ⟨r.h,r.sz,aaF a,r.df⟩
 |normal=>exact apH (C:=C) (n:=n) (fr:=frA a) (own:=ov) (G:=G) (K:=fun v G'=>Is G' rv v) h1 hk a w ⟨r.h,r.sz,aaF a,r.df⟩
 |_=>cases he
def cuA(fr:FrX)(cf:Cf):Option (Int×IntKind):=match opC fr cf with
 |some ⟨_, .convert t t' x,_,_,_,_⟩=>match abc tt t,abc tt t',evX (lkC fr cf) x with
  |some ⟨.int k,_,_,_⟩,some ⟨.int k',_,_,_⟩,some (.d (.v (.int j p)))=>bif kq k j then some (p,k') else none
  |_,_,_=>none
 |_=>none
theorem cu[fu:Fu]{p:Int}{k':IntKind}(u:Int)(h:cuA fr cf=some (p,k'))(e:k'.wrap p=u)(hgo:goA tt n fu.n fr own cf (.d (.v (.int k' u))) [] []=⟨vc,fr',own',cf'⟩)(k:CfS prog GB C n Q0 fr' own' cf')
  (hv:aah vc:=by first|exact trivial|(simp only[aah];kernel_rfl)|(simp only[aah];omega)):CfS prog GB C n Q0 fr own cf:=by
 unfold cuA at h
 split at h<;>try (cases h;done)
 rename_i hh
 split at h<;>try (cases h;done)
 rename_i k0 _ _ _ k1 _ _ _ j p0 hT hT' hx
 cases hk:kq k0 j with
 |false=>rw[hk] at h;cases h
 |true=>
  rw[hk,cond_true] at h;cases h;cases axH hk
  have:=akS (ab2 _ _ hT) rfl
  have:=akS (ab2 _ _ hT') rfl
  subst e
  refine us hh (.x1 hx fun ρ G ov a w y _ r h1 h2=>?_) hgo hv k
  rw[aay] at h2;subst h2
  exact⟨_,aay.2 rfl,alH h1⟩
def nuA(fr:FrX)(cf:Cf):Option (Int×IntKind):=match opC fr cf with
 |some ⟨_, .unOp .neg _ x,_,_,_,_⟩=>match evX (lkC fr cf) x with
  |some (.d (.v (.int j p)))=>some (p,j)
  |_=>none
 |_=>none
theorem nu[fu:Fu]{p:Int}{k':IntKind}(u:Int)(h:nuA fr cf=some (p,k'))(e:k'.wrap (0-p)=u)(hgo:goA tt n fu.n fr own cf (.d (.v (.int k' u))) [] []=⟨vc,fr',own',cf'⟩)(k:CfS prog GB C n Q0 fr' own' cf')
  (hv:aah vc:=by first|exact trivial|(simp only[aah];kernel_rfl)|(simp only[aah];omega)):CfS prog GB C n Q0 fr own cf:=by
 unfold nuA at h
 split at h<;>try (cases h;done)
 rename_i hh
 split at h<;>cases h
 rename_i hx
 subst e
 exact us hh (.x1 hx fun ρ G ov a w y _ r h1 h2=>by
  rw[aay] at h2;subst h2
  exact⟨_,aay.2 rfl,atT h1⟩) hgo hv k
end
theorem asy{x:Nat}:bl x=0↔x=0:=by
 have:= @aht x 0
 simp at this;omega
theorem ahJ{a:Nat}:0<(dg a).length↔0<a:=by
 have:= @act a
 omega
def eS(neg:Bool)(a:Nat):DV:= .ag [.v (.bool neg),dN a]
theorem aqJ(neg:Bool)(a:Nat):eI (zv neg a)= .ag [.v (.bool (neg&&decide (0<a))),dN a]:=by unfold eI;rw[afY,anF]
theorem aAu{n:Bool}{u:Nat}{b:Int}(h:n≠decide (b<0))(hle:b.natAbs≤u):zv n (u-b.natAbs)=zv n u+b:=by cases n<;>simp[zv] at* <;>omega
theorem aA2{n:Bool}{u:Nat}{b:Int}(h:n≠decide (b<0))(hle:u≤b.natAbs):zv (decide (b<0)) (b.natAbs-u)=zv n u+b:=by cases n<;>simp[zv] at* <;>(try rw[if_pos h])<;>(try rw[if_neg (by omega)])<;>omega
theorem an6{neg:Bool}{ds:List Nat}(hd:DOk ds)(hl:ds.length≤1125899906842624):PF GB prog 221 [.ag [.v (.bool neg),dLi ds]] (vB (decide (Nrm ds∧(neg=true→0<ds.length)))):=by
 refine fn func221 J J ntmps221 J J (fun C=>?_)
 refine cl rfl (axr hd hl) rfl<|?_
 refine csd 6 J J J (fun hg6=>?_) (fun hg6=>?_)
 ·
  refine csb 10 J J J (fun hg10=>?_) (fun hg10=>?_)
  ·
   exact rz rfl (by unfold vB;congr 2;simp_all [akl])
  ·
   exact rz rfl (by unfold vB;congr 2;simp_all [akl])
 ·
  exact rz rfl (by unfold vB;congr 2;simp_all [akl])
theorem asv{n:Bool}{a i:Nat}[h:BN a i](hi:i≤1000000000:=by decide):PF GB prog 198 [eS n a] (vI (zv n a).sign):=by
 refine fn func198 J J ntmps198 J J (fun C=>?_)
 refine cl rfl (ajB (a:=a) hi) rfl<|?_
 refine br J J J (fun hc3=>?_) (fun hc3=>?_)
 ·
  exact rz rfl (by have:=asy.1 (Int.ofNat.inj hc3);subst this;cases n<;>rfl)
 ·
  refine bb J J J (fun hc8=>?_) (fun hc8=>?_)
  ·
   exact rz rfl (by subst hc8;rw[fL (by have:a≠0:=(fun e=>hc3 (by rw[e];rfl));simp[zv];omega)];rfl)
  ·
   exact rz rfl (by subst hc8;rw[gR (by have:a≠0:=(fun e=>hc3 (by rw[e];rfl));simp[zv];omega)];rfl)
theorem ajw{m:Int}(h0: -9223372036854775808≤m)(h1:m≤9223372036854775807):PF GB prog 163 [vI m] (eI m):=by
 refine fn (fu:=⟨8⟩) func163 J J ntmps163 J J (fun C=>?_)
 refine cu ((m%18446744073709551616:Int)) rfl (abQ _) rfl<|?_
 refine br (fu1:=⟨2⟩) (fu2:=⟨0⟩) J J J (fun hc7=>?_) (fun hc7=>?_)
 ·
  refine nu ((m.natAbs:Nat)) rfl (by rw[abQ];omega) rfl<|cl rfl (ahk (a:=m.natAbs) (by omega)) rfl<|?_
  exact rz J J
 ·
  refine eqF 3 (.d (.v (.int .u64 (m.natAbs:Nat)))) rfl (by congr 3;omega) ?_
  refine gx rfl<|cl rfl (ahk (a:=m.natAbs) (by omega)) rfl<|?_
  exact rz J J
theorem ask{n:Bool}{a:Nat}(h:a<4611686018427387904):PF GB prog 203 [eS n a] (.tp [vI (zv n a),vB true]):=by
 refine fn func203 J J ntmps203 J J (fun C=>?_)
 refine cl (fu:=⟨2⟩) rfl (atg (a:=a) (by omega)) rfl<|knT J J J<|?_
 refine csb 18 J J J (fun hg18=>?_) (fun hg18=>?_)
 ·
  refine br (fu1:=⟨3⟩) J J J (fun hc12=>?_) (fun hc12=>?_)
  ·
   refine nu (fu:=⟨0⟩) (((18446744073709551616-a)%18446744073709551616:Int)) rfl (by rw[abQ];omega) rfl<|cu (zv n a) rfl (by subst hg18;rw[al2];simp only[zv,if_true];omega) rfl<|?_
   exact rz J J
  ·
   exact absurd (by omega) hc12
 ·
  refine csb 32 J J J (fun hg32=>?_) (fun hg32=>?_)
  ·
   refine br J J J (fun hc25=>?_) (fun hc25=>?_)
   ·
    exact rz rfl (by subst hg18;rfl)
   ·
    exact absurd (by omega) hc25
  ·
   subst hg18;cases hg32
theorem ahm{neg:Bool}{a i:Nat}[h:BN a i](hi:i≤1000000000:=by decide):PF GB prog 162 [eS neg a] (eI (zv neg a)):=by
 refine fn func162 J J ntmps162 J J (fun C=>?_)
 refine cl rfl (akX hi) rfl<|?_
 refine csb 9 J J J (fun hg9=>?_) (fun hg9=>?_)
 ·
  exact rz rfl (by rw[aqJ];simp[hg9,ahJ,akl])
 ·
  exact rz rfl (by rw[aqJ];simp[hg9,ahJ,akl])
theorem ain{neg:Bool}{a:Nat}:PF GB prog 215 [.v (.bool neg),dN a] (eI (zv neg a)):=by
 refine fn func215 J J ntmps215 J J (fun C=>?_)
 refine csb 6 J J J (fun hg6=>?_) (fun hg6=>?_)
 ·
  exact rz rfl (by rw[aqJ];simp[hg6,ahJ,akl])
 ·
  exact rz rfl (by rw[aqJ];simp[hg6,ahJ,akl])
theorem aEh{m:Int}{i:Nat}[h:BI m i](hi:i≤1000000000:=by decide):PF GB prog 249 [eI m] (eI (-m)):=by
 refine fn func249 J J ntmps249 J J (fun C=>?_)
 refine cl rfl (ahm (neg:=!decide (m<0)) (a:=m.natAbs) hi) rfl<|?_
 exact rz rfl (by rw[aDn,adF];rfl)
theorem aua{a b:Int}{i j:Nat}[h:BI a i][k:BI b j](hi:i≤1000000000:=by decide)(hj:j≤1000000000:=by decide):PF GB prog 160 [eI a,eI b] (eI (a*b)):=by
 refine fn func160 J J ntmps160 J J (fun C=>?_)
 refine cl rfl (arp (a:=a.natAbs) (b:=b.natAbs) hi hj) rfl<|cl rfl ain rfl<|?_
 exact rz rfl (by rw[show(!(decide (a<0)==decide (b<0)))=(decide (a<0) !=decide (b<0)) from rfl,ayz,adF,adF];rfl)
theorem azM{n1:Bool}{u:Nat}{b:Int}{i j:Nat}[h:BN u i][k:BI b j](hi:i≤1000000000:=by decide)(hj:j≤1000000000:=by decide):PF GB prog 159 [eS n1 u,eI b] (eI (zv n1 u+b)):=by
 refine fn func159 J J ntmps159 J J (fun C=>?_)
 refine bb J J J (fun hc13=>?_) (fun hc13=>?_)
 ·
  refine cl rfl (aFV (b:=b.natAbs) hi hj) rfl<|cl rfl ain rfl<|?_
  exact rz rfl (by rw[aoC,show n1=decide (b<0) from by simpa using hc13,adF];rfl)
 ·
  refine cl rfl (aEN (b:=b.natAbs) hi hj) rfl<|?_
  refine bd J J J (fun hc30=>?_) (fun hc30=>?_)
  ·
   refine cl rfl ain rfl<|?_
   exact rz rfl (by rw[aAu (by simpa using hc13) hc30];rfl)
  ·
   refine cl rfl (aEN (a:=b.natAbs) hj hi) rfl<|cl rfl ain rfl<|?_
   exact rz rfl (by rw[aA2 (by simpa using hc13) (by omega)];rfl)
theorem aEQ{a b:Int}{i j:Nat}[h:BI a i][k:BI b j](hi:i≤1000000000:=by decide)(hj:j≤1000000000:=by decide):PF GB prog 159 [eI a,eI b] (eI (a+b)):=(azM (n1:=decide (a<0)) (u:=a.natAbs) hi hj).to (by rw[adF])
def Big(q:Rat):Prop:= ¬(q.num.natAbs<4611686018427387904∧q.den<4611686018427387904)
instance (q:Rat):Decidable (Big q):=inferInstanceAs (Decidable (¬_))
def fn_(q:Rat):Int:=if Big q then 0 else q.num
def fd_(q:Rat):Int:=if Big q then 0 else(q.den:Int)-1
def fp_(q:Rat):DV:= .op (decide (Big q)) [.v (.bool (decide (q.num<0))),dN q.num.natAbs,dN q.den]
def eF(q:Rat):DV:= .ag [vI (fn_ q),vI (fd_ q),fp_ q]
abbrev bgT {q:Rat} (h:decide (Big q)=true):Big q:=of_decide_eq_true h
abbrev bgF {q:Rat} (h:decide (Big q)=false): ¬Big q:=of_decide_eq_false h
abbrev aH6 {q:Rat} (h: ¬decide (Big q)=false):Big q:=by simpa using h
abbrev ar5 {q:Rat} (h: ¬decide (Big q)=true): ¬Big q:=by simpa using h
theorem arb{q:Rat}(h: ¬Big q):fn_ q=q.num:=if_neg h
theorem ar8{q:Rat}(h: ¬Big q):fd_ q=(q.den:Int)-1:=if_neg h
theorem adQ{q:Rat}(h: ¬Big q):q.num.natAbs<4611686018427387904:=(Decidable.not_not.1 h).1
theorem adN{q:Rat}(h: ¬Big q):q.den<4611686018427387904:=(Decidable.not_not.1 h).2
theorem atA{q:Rat}(h:Big q):q≠0:=fun e=>by subst e;exact h ⟨by decide,by decide⟩
theorem axj{q:Rat}{m d:Int}{r:DV}(h: ¬Big q)(h1:q.num=m)(h2:(q.den:Int)-1=d)(e:r= .ag [vI m,vI d, .v (.pointer none)])(G:Gh)(y:Value)(k:Is G r y):Is G (eF q) y:=by
 subst e h1 h2
 obtain⟨l,rfl,g⟩:=ab4.1 k
 obtain⟨y1,l1,rfl,k1,g1⟩:=aad.1 g
 obtain⟨y2,l2,rfl,k2,g2⟩:=aad.1 g1
 obtain⟨y3,l3,rfl,k3,g3⟩:=aad.1 g2
 exact ab4.2 ⟨_,rfl, .cons (by rw[arb h];exact k1) (.cons (by rw[ar8 h];exact k2) (.cons (ao8.2 (.inl ⟨decide_eq_false h,aaY.1 k3⟩)) g3))⟩
theorem aHc{q:Rat}{n:Bool}{a d:Nat}{r:DV}(h:Big q)(h1:decide (q.num<0)=n)(h2:q.num.natAbs=a)(h3:q.den=d)(e:r= .ag [vI 0,vI 0, .pt [.v (.bool n),dN a,dN d]])(G:Gh)(y:Value)(k:Is G r y):Is G (eF q) y:=by
 subst e h1 h2 h3
 obtain⟨l,rfl,g⟩:=ab4.1 k
 obtain⟨y1,l1,rfl,k1,g1⟩:=aad.1 g
 obtain⟨y2,l2,rfl,k2,g2⟩:=aad.1 g1
 obtain⟨y3,l3,rfl,k3,g3⟩:=aad.1 g2
 exact ab4.2 ⟨_,rfl, .cons (by unfold fn_;rw[if_pos h];exact k1) (.cons (by unfold fd_;rw[if_pos h];exact k2) (.cons (ao8.2 (.inr ⟨decide_eq_true h,k3⟩)) g3))⟩
theorem aE7(G:Gh)(y:Value)(k:Is G (.ag [vI 0,vI 0, .v (.pointer none)]) y):Is G (eF 0) y:=axj (fun h=>atA h rfl) J J J G y k
theorem aHS{m:Int}(h:m.natAbs<4611686018427387904)(G:Gh)(y:Value)(k:Is G (.ag [vI m,vI 0, .v (.pointer none)]) y):Is G (eF (m:Rat)) y:=
 axj (fun k=>k ⟨by simpa using h,by rw[qK];decide⟩) (qJ m) (by rw[qK];rfl) rfl G y k
theorem ay8{n:Bool}{a d:Nat}(hd:0<d):(mkRat (zv n a) d).num=zv n (a/Nat.gcd a d)∧(mkRat (zv n a) d).den=d/Nat.gcd a d:=by
 obtain⟨h1,h2⟩:=ate (m:=zv n a) hd
 rw[afY] at h1 h2
 exact⟨by rw[h1,aC2 (mW _ _)],h2⟩
theorem aEH{n:Bool}{a d a' d':Nat}(hd:0<d)(ha:a'=a/Nat.gcd a d)(hd':d'=d/Nat.gcd a d)(h1:a'<4611686018427387904)(h2:d'<4611686018427387904)(G:Gh)(y:Value)(k:Is G (.ag [vI (zv n a'),vI ((d':Int)-1), .v (.pointer none)]) y):Is G (eF (mkRat (zv n a) d)) y:=by
 obtain⟨e1,e2⟩:=ay8 (n:=n) (a:=a) hd
 rw[←ha] at e1;rw[←hd'] at e2
 exact axj (fun k=>k ⟨by rw[e1,afY];exact h1,by rw[e2];exact h2⟩) e1 (by rw[e2]) rfl G y k
theorem awT{n:Bool}{a d a' d':Nat}(hd:0<d)(ha:a'=a/Nat.gcd a d)(hd':d'=d/Nat.gcd a d)(h: ¬(a'<4611686018427387904∧d'<4611686018427387904))(G:Gh)(y:Value)(k:Is G (.ag [vI 0,vI 0, .pt [.v (.bool (decide (zv n a'<0))),dN (zv n a').natAbs,dN d']]) y):Is G (eF (mkRat (zv n a) d)) y:=by
 obtain⟨e1,e2⟩:=ay8 (n:=n) (a:=a) hd
 rw[←ha] at e1;rw[←hd'] at e2
 exact aHc (fun k=>h ⟨by rw[e1,afY] at k;exact k.1,by rw[e2] at k;exact k.2⟩) (by rw[e1]) (by rw[e1]) e2 rfl G y k
theorem aIA{a d:Nat}(hd:0<d)(h: ¬(1:Int)<(bl (Nat.gcd a d):Nat)):Nat.gcd a d=1:=by
 have h1:Nat.gcd a d≠0:=fun e=>by rw[Nat.gcd_eq_zero_iff] at e;omega
 have h2:Nat.gcd a d<2^1:=aht.1 (by omega)
 omega
theorem apZ{x:Nat}:(((bl x:Nat):Int)≤62)↔x<4611686018427387904:=az8
theorem PF.ofI{P:Program}{f:FuncId}{ds ds':List DV}{r:DV}(h:PF GB P f ds r)(k: ∀G vs,IsLs G ds' vs→IsLs G ds vs):PF GB P f ds' r:=fun G vs hg hv=>h G vs hg (k G vs hv)
theorem aeX{n:Bool}{a d i j:Nat}[h:BN a i][k:BN d j](hi:i≤450000000:=by decide)(hj:j≤450000000:=by decide):PF GB prog 149 [eS n a,dN d] (eF (mkRat (zv n a) d)):=by
 refine fn func149 J J ntmps149 J J (fun C=>?_)
 refine cl rfl (ajB (a:=d) (by omega)) rfl<|?_
 refine cs 13 J J J (fun hg13=>?_) (fun hg13=>?_)
 ·
  exact rzI rfl (by obtain rfl:=asy.1 (Int.ofNat.inj hg13);rw[Rat.mkRat_zero];exact aE7)
 ·
  have hd0:0<d:=by have:= @asy d;omega
  have hg0:0<Nat.gcd a d:=pN _ hd0
  refine cl rfl (asv (n:=n) (a:=a) (by omega)) rfl<|?_
  refine br J J J (fun hc17=>?_) (fun hc17=>?_)
  ·
   exact rzI rfl (by rw[iV.1 hc17,Rat.zero_mkRat];exact aE7)
  ·
   refine cl rfl (aDr (a:=a) (b:=d) (by omega) (by omega)) rfl<|cl rfl (ajB (a:=Nat.gcd a d) (i:=i+j) (by omega)) rfl<|?_
   refine br J J J (fun hc25=>?_) (fun hc25=>?_)
   ·
    obtain⟨a',ea⟩: ∃a',a'=a/Nat.gcd a d:=⟨_,rfl⟩
    obtain⟨d',ed⟩: ∃d',d'=d/Nat.gcd a d:=⟨_,rfl⟩
    have hba:BN a' i:=ea▸inferInstance
    have hbd:BN d' j:=ed▸inferInstance
    refine cl (fu:=⟨2⟩) rfl (aql (a:=a) (b:=Nat.gcd a d) (j:=i+j) hg0 (by omega) (by omega)) rfl<|?_
    refine eqF 31 (.d (dN a')) rfl (by rw[ea]) ?_
    refine gx rfl<|cl (fu:=⟨2⟩) rfl (aql (a:=d) (b:=Nat.gcd a d) (j:=i+j) hg0 (by omega) (by omega)) rfl<|?_
    refine eqF 39 (.d (dN d')) rfl (by rw[ed]) ?_
    refine gx rfl<|cl rfl (ajB (h:=hba) (by omega)) rfl<|?_
    refine cs 46 J J J (fun hg46=>?_) (fun hg46=>?_)
    ·
     refine cl rfl (ajB (h:=hbd) (by omega)) rfl<|?_
     refine br J J J (fun hc50=>?_) (fun hc50=>?_)
     ·
      have hs2:=apZ.1 hc50
      refine cl rfl (ask (apZ.1 hg46)) rfl<|cl rfl (atg (by have:=apZ.1 hc50;omega)) rfl<|?_
      exact rzI rfl (aEH hd0 ea ed (apZ.1 hg46) (apZ.1 hc50))
     ·
      refine cl rfl (ahm (neg:=n) (h:=hba) (by omega)) rfl<|cl rfl (akX (h:=hbd) (by omega)) rfl<|fz 71 J J<|?_
      exact rzI rfl (awT hd0 ea ed (fun e=>hc50 (apZ.2 e.2)))
    ·
     refine cl rfl (ahm (neg:=n) (h:=hba) (by omega)) rfl<|cl rfl (akX (h:=hbd) (by omega)) rfl<|fz 71 J J<|?_
     exact rzI rfl (awT hd0 ea ed (fun e=>hg46 (apZ.2 e.1)))
   ·
    have hg1:=aIA hd0 hc25
    have ea:a=a/Nat.gcd a d:=by rw[hg1,sL]
    have ed:d=d/Nat.gcd a d:=by rw[hg1,sL]
    have hba:=h
    have hbd:=k
    refine cl rfl (ajB (h:=hba) (by omega)) rfl<|?_
    refine cs 46 J J J (fun hg46=>?_) (fun hg46=>?_)
    ·
     refine cl rfl (ajB (h:=hbd) (by omega)) rfl<|?_
     refine br J J J (fun hc50=>?_) (fun hc50=>?_)
     ·
      have hs2:=apZ.1 hc50
      refine cl rfl (ask (apZ.1 hg46)) rfl<|cl rfl (atg (by have:=apZ.1 hc50;omega)) rfl<|?_
      exact rzI rfl (aEH hd0 ea ed (apZ.1 hg46) (apZ.1 hc50))
     ·
      refine cl rfl (ahm (neg:=n) (h:=hba) (by omega)) rfl<|cl rfl (akX (h:=hbd) (by omega)) rfl<|fz 71 J J<|?_
      exact rzI rfl (awT hd0 ea ed (fun e=>hc50 (apZ.2 e.2)))
    ·
     refine cl rfl (ahm (neg:=n) (h:=hba) (by omega)) rfl<|cl rfl (akX (h:=hbd) (by omega)) rfl<|fz 71 J J<|?_
     exact rzI rfl (awT hd0 ea ed (fun e=>hg46 (apZ.2 e.1)))
theorem aeY{m:Int}{i:Nat}[h:BI m i](hi:i≤400000000:=by decide):PF GB prog 222 [eI m] (eF (m:Rat)):=by
 refine fn func222 J J ntmps222 J J (fun C=>?_)
 refine rf (fu:=⟨0⟩) J J<|?_
 refine eqF 4 (.d (dN 1)) rfl (by unfold dN;rw[an2];rfl) ?_
 refine gx rfl<|cl rfl (aeX (n:=decide (m<0)) (a:=m.natAbs) (d:=1) (by omega)) rfl<|?_
 exact rz rfl (by rw[adF,show mkRat m 1=(m:Rat) from rS ..];rfl)
theorem ajX{q:Rat}:PF GB prog 199 [eF q] (vB (decide (q=0))):=by
 refine fn func199 J J ntmps199 J J (fun C=>?_)
 refine cs 6 J J J (fun hg6=>?_) (fun hg6=>?_)
 ·
  exact rz rfl (by rw[arb (bgF hg6)];show DV.v (.bool (decide _))= .v (.bool _);congr 2;exact decide_eq_decide.2 ⟨fun e=>nZ.1 e,fun e=>by rw[e];rfl⟩)
 ·
  exact rz rfl (by rw[decide_eq_false (atA (aH6 hg6))];rfl)
theorem avt{m:Int}(h:m.natAbs<9223372036854775808):PF GB prog 213 [vI m] (.v (.int .u64 (m.natAbs:Nat))):=by
 refine fn func213 J J ntmps213 J J (fun C=>?_)
 refine br J J J (fun hc4=>?_) (fun hc4=>?_)
 ·
  exact rz rfl (by show DV.v (.int _ _)=_;congr 2;omega)
 ·
  exact rz rfl (by show DV.v (.int _ _)=_;congr 2;omega)
theorem aiJ{q:Rat}{i:Nat}[h:BQ q i](hi:i≤900000000:=by decide):PF GB prog 101 [eF q] (dN q.den):=by
 refine fn func101 J J ntmps101 J J (fun C=>?_)
 refine br (v1:=fun hc5=>by simp only[aah];exact hc5) (fu2:=⟨6⟩) J J J (fun hc5=>?_) (fun hc5=>?_)
 ·
  refine cl rfl (akX (a:=q.den) (by omega)) rfl<|?_
  exact rz J J
 ·
  have hd:=q.den_nz
  have hs:=adN (ar5 hc5)
  refine eqF 13 (.d (vI ((q.den:Int)-1))) rfl (by rw[ar8 (ar5 hc5)]) ?_
  refine gx (fu:=⟨2⟩) rfl<|?_
  refine eqF 15 (.d (.v (.int .u64 (q.den:Nat)))) rfl (by congr 3;omega) ?_
  refine gx rfl<|cl rfl (ahk (a:=q.den) (by omega)) rfl<|?_
  exact rz J J
theorem aka{q:Rat}{i:Nat}[h:BQ q i](hi:i≤900000000:=by decide):PF GB prog 100 [eF q] (eI q.num):=by
 refine fn func100 J J ntmps100 J J (fun C=>?_)
 refine br (v1:=fun hc5=>by simp only[aah];exact hc5) (fu2:=⟨6⟩) J J J (fun hc5=>?_) (fun hc5=>?_)
 ·
  refine cl rfl (ahm (neg:=decide (q.num<0)) (a:=q.num.natAbs) (by omega)) rfl<|?_
  exact rz rfl (by rw[adF];rfl)
 ·
  have hs:=adQ (ar5 hc5)
  refine eqF 13 (.d (vI q.num)) rfl (by rw[arb (ar5 hc5)]) ?_
  refine gx rfl<|cl rfl (ajw (by omega) (by omega)) rfl<|?_
  exact rz J J
theorem ah1{q:Rat}{i:Nat}[h:BQ q i](hi:i≤900000000:=by decide):PF GB prog 196 [eF q] (eF (-q)):=by
 refine fn func196 J J ntmps196 J J (fun C=>?_)
 refine br (v1:=fun hc5=>by simp only[aah];exact hc5) (fu2:=⟨6⟩) J J J (fun hc5=>?_) (fun hc5=>?_)
 ·
  refine cl (fu:=⟨6⟩) (hv:=by simp only[aah];exact hc5) rfl (aEh (m:=q.num) (by omega)) rfl<|bxf J J<|?_
  exact rzI rfl (aHc (q:= -q) (fun k=>bgT hc5 (by rw[oK,iT,sZ] at k;exact k)) (by rw[oK]) (by rw[oK]) (sZ q) rfl)
 ·
  have hs:=adQ (ar5 hc5)
  refine eqF 21 (.d (vI q.num)) rfl (by rw[arb (ar5 hc5)]) ?_
  refine gx rfl<|?_
  exact rzI rfl (axj (q:= -q) (fun k=>k (by rw[oK,iT,sZ];exact⟨hs,adN (ar5 hc5)⟩)) (by rw[oK]) (by rw[sZ,ar8 (ar5 hc5)]) rfl)
theorem adp{q:Rat}{i:Nat}[h:BQ q i](hi:i≤900000000:=by decide):PF GB prog 145 [eF q] (vI q.num.sign):=by
 refine fn func145 J J ntmps145 J J (fun C=>?_)
 refine br (v1:=fun hc3=>by simp only[aah];exact hc3) J J J (fun hc3=>?_) (fun hc3=>?_)
 ·
  refine cl rfl (asv (n:=decide (q.num<0)) (a:=q.num.natAbs) (by omega)) rfl<|?_
  exact rz rfl (by rw[adF];rfl)
 ·
  have hs:=arb (ar5 hc3)
  refine br J J J (fun hc13=>?_) (fun hc13=>?_)
  ·
   exact rz rfl (by rw[fL (by omega)];rfl)
  ·
   refine br J J J (fun hc17=>?_) (fun hc17=>?_)
   ·
    exact rz rfl (by rw[gR (by omega)];rfl)
   ·
    exact rz rfl (by rw[show q.num=0 by omega];rfl)
end Go.Sx
end
