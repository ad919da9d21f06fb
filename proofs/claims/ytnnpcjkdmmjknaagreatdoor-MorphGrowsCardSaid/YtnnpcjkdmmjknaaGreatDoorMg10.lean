import Derived.Test.YtnnpcjkdmmjknaaGreatDoorMg9
set_option linter.all false
set_option maxHeartbeats 2000000
set_option maxRecDepth 100000
section
namespace Go.Sx
open Go
variable {ds:List Nat}{i n k k' a b j d:Nat}{G:Gh}{v:Value}
def dU(d:Nat):DV:= .v (.int .u32 (d:Int))
def eO(ds:List Nat):DV:= .sl (ds.map dU)
def dN(n:Nat):DV:= .sl ((dg n).map dU)
def dD(n:Nat):DV:= .sl (if n=1 then [] else(dg n).map dU)
def eI(m:Int):DV:= .ag [.v (.bool (decide (m<0))),dN m.natAbs]
def eQ(q:Rat):DV:= .ag [.v (.bool (decide (q.num<0))),dN q.num.natAbs,dD q.den]
def eP(p:ah):DV:= .ag [.v (.bool (decide (p.x.num<0))),dN p.x.num.natAbs,dD p.x.den, .v (.bool (decide (p.y.num<0))),dN p.y.num.natAbs,dD p.y.den]
def eL(l:aa):DV:= .ag [.v (.bool (decide (l.a<0))),dN l.a.natAbs, .v (.bool (decide (l.b<0))),dN l.b.natAbs, .v (.bool (decide (l.c<0))),dN l.c.natAbs]
def eR(q:Rat):DV:= .ag [.v (.bool (decide (q.num<0))),dN q.num.natAbs,dN q.den]
def pp(p:ah):DV:= .ag [.v (.bool (decide (p.x.num<0))),dN p.x.num.natAbs,dN p.x.den, .v (.bool (decide (p.y.num<0))),dN p.y.num.natAbs,dN p.y.den]
def vI(n:Int):DV:= .v (.int .i64 n)
def vB(b:Bool):DV:= .v (.bool b)
def Jm(n:Nat):dN n=eO (dg n):=rfl
def aHJ(h:bB ds):eO (trimD ds)=dN (dv ds):=by unfold eO dN;rw[qk h]
def U5(h:i<ds.length):(ds.map dU)[i]? =some (dU (ds.getD i 0)):=by
 rw[bS,aZ h,aK,aZ h];rfl
def oy(h:i<ds.length:=by omega):(ds.map dU)[(i:Int).toNat]? =some (dU (ds.getD i 0)):=by rw[aR];exact U5 h
def uY(ds:List Nat)(i d:Nat):(ds.map dU).set i (.v (.int .u32 (d:Int)))=(ds.set i d).map dU:=by rw[kY];rfl
def xi(n:Nat):List.replicate n (DV.v (.int .u32 0))=(List.replicate n 0).map dU:=by rw[List.map_replicate];rfl
def ve(ds:List Nat):cP 1 (ds.map dU):=fun d hd=>by
 obtain⟨n,_,rfl⟩:=aT.1 hd;exact⟨rfl,rfl⟩
def io(n:Nat)(i:Nat):(dg n).getD i 0<4294967296:=(eg n).2.1.get i
def yq:dg 0=[]:=by rw[dg,dif_pos J]
def Bb:dg 1=[1]:=by rw[dg,dif_neg (by decide)];simp[yq]
def vO{n:Nat}:(dg n).length=0↔n=0:=by
 constructor
 .intro h
  have:=(eg n).1;rw[bM h] at this;exact this.symm
 .rintro rfl;rw[yq];rfl
def qv:dN 0= .sl []:=by unfold dN;rw[yq];rfl
def Et{G:Gh}: ∀{ds:List Nat} {es:List Value},IsLs G (ds.map dU) es↔es=ds.map dI
 |[],es=>dE
 |d::t,es=>by
  rw[bT,aI];constructor
  .rintro ⟨y,n,rfl,h1,h2⟩
   rw[aB.1 h1,Et.1 h2];rfl
  .rintro rfl
   exact⟨_,_,J,aB.2 J,Et.2 J⟩
def LA:Is G (eO ds) v↔ ∃x:SV,v= .slice x.a x.n x.c/\fw G 1 x (ds.map dI):=by
 unfold eO;rw[gw];constructor
 .rintro ⟨s,x,es,rfl,h1,h2⟩
  have:=Et.1 h2;subst this;refine⟨x,J,?_⟩;rcases Ad (s:=1) h1 h2 (ve ds) with h|h
  .rw[h] at h1⊢
   exact⟨h1.len,h1.cap, .inl J⟩
  .subst h;exact h1
 .rintro ⟨x,rfl,h⟩
  exact⟨1,x,_,J,h,Et.2 J⟩
def Hi(hk:n<2^k):Is G (dN n) v↔ ∃x:SV,v= .slice x.a x.n x.c/\gg k G x n:=by
 rw[Jm,LA];constructor
 .rintro ⟨x,rfl,h⟩
  exact⟨x,J,⟨(eg n).2.1,h⟩,hk⟩
 .rintro ⟨x,rfl,h⟩
  exact⟨x,J,h.d.sl⟩
def gF{i:Int}(hi:i=k:=by omega)(h:k<ds.length:=by omega):(ds.map dU)[i.toNat]? =some (dU (ds.getD k 0)):=by subst hi;exact oy h
class BN (n:Nat) (k:outParam Nat):Prop where h:n<2^k
class BI (m:Int) (k:outParam Nat):Prop where h:m.natAbs<2^k
class BQ (q:Rat) (k:outParam Nat):Prop where
 hn:q.num.natAbs<2^k
 hd:q.den<2^k
theorem BN.mono(h:BN n k)(hk:k<=k'):BN n k':=⟨dZ h.h (bR (by decide) hk)⟩
def qb(h:a<2^i)(k:b<2^j):a*b<2^(i+j):=by rw[eY];exact pQ h k
def GC(h:a<2^i)(k:b<2^j):a+b<2^(i+j+1):=by
 have h1:2^i<=2^(i+j):=bR (by decide) (by omega);have h2:2^j<=2^(i+j):=bR (by decide) (by omega);rw[fY];omega
instance BN.mul (a b i j:Nat) [h:BN a i] [k:BN b j]:BN (a*b) (i+j):=⟨qb h.h k.h⟩
instance BN.div (a b i:Nat) [h:BN a i]:BN (a/b) i:=⟨eK (lK _ _) h.h⟩
instance BN.abs (m:Int) (i:Nat) [h:BI m i]:BN m.natAbs i:=⟨h.h⟩
instance BN.den (q:Rat) (i:Nat) [h:BQ q i]:BN q.den i:=⟨h.hd⟩
def Iq(h:a<2^i)(k:b<2^j):Nat.gcd a b<2^(i+j):=by
 have h1:2^i<=2^(i+j):=bR (by decide) (by omega);have h2:2^j<=2^(i+j):=bR (by decide) (by omega);rcases gU a with h0|h0
 .subst h0;rw[Nat.gcd_zero_left];omega
 .have:=Nat.gcd_le_left b h0;omega
instance BN.gcd (a b i j:Nat) [h:BN a i] [k:BN b j]:BN (Nat.gcd a b) (i+j):=⟨Iq h.h k.h⟩
instance BN.one:BN 1 1:=⟨by decide⟩
instance BI.mul (a b:Int) (i j:Nat) [h:BI a i] [k:BI b j]:BI (a*b) (i+j):=⟨by rw[fR];exact qb h.h k.h⟩
instance BI.add (a b:Int) (i j:Nat) [h:BI a i] [k:BI b j]:BI (a+b) (i+j+1):=⟨eK (Int.natAbs_add_le a b) (GC h.h k.h)⟩
instance BI.sub (a b:Int) (i j:Nat) [h:BI a i] [k:BI b j]:BI (a-b) (i+j+1):=⟨eK (Int.natAbs_sub_le a b) (GC h.h k.h)⟩
instance BI.neg (a:Int) (i:Nat) [h:BI a i]:BI (-a) i:=⟨by rw[jR];exact h.h⟩
instance BI.num (q:Rat) (i:Nat) [h:BQ q i]:BI q.num i:=⟨h.hn⟩
instance BI.nat (n:Nat) (i:Nat) [h:BN n i]:BI (n:Int) i:=⟨by rw[fU];exact h.h⟩
def nj(q:Rat):0<q.den:=iK q.den_nz
theorem A4{m:Int}(hd:0<d)(h:m.natAbs<2^i)(k:d<2^i):BQ (mkRat m d) i:=by
 refine⟨?_,?_⟩
 .rw[Rat.num_mkRat,if_neg (by omega)]
  have:=oQ m (d.gcd m.natAbs:Nat);omega
 .rw[Rat.den_mkRat,if_neg (by omega)]
  have:=lK d (d.gcd m.natAbs);omega
theorem BQ.mono{q:Rat}(h:BQ q k)(hk:k<=k':=by decide):BQ q k':=⟨dZ h.hn (bR (by decide) hk),dZ h.hd (bR (by decide) hk)⟩
def Br(p q:Rat):p*q=mkRat (p.num*q.num) (p.den*q.den):=by rw[Rat.mul_def,Rat.normalize_eq_mkRat]
def BY(p q:Rat):p+q=mkRat (p.num*q.den+q.num*p.den) (p.den*q.den):=by rw[Rat.add_def,Rat.normalize_eq_mkRat]
instance BQ.mul (p q:Rat) (i j:Nat) [h:BQ p i] [k:BQ q j]:BQ (p*q) (i+j):=by
 rw[Br];exact A4 (jW (nj p) (nj q)) (BI.mul p.num q.num i j).h (qb h.hd k.hd)
instance BQ.add (p q:Rat) (i j:Nat) [h:BQ p i] [k:BQ q j]:BQ (p+q) (i+j+1):=by
 rw[BY];refine A4 (jW (nj p) (nj q)) ?_ ?_
 .have h1:=qb h.hn k.hd
  have h2:=qb k.hn h.hd;have h3:(p.num*q.den+q.num*p.den).natAbs<=(p.num*q.den).natAbs+(q.num*p.den).natAbs:=Int.natAbs_add_le ..;rw[fR,fR,fU,fU] at h3;rw[kR j i] at h2;rw[fY];omega
 .have h1:=qb h.hd k.hd
  rw[fY];omega
instance BQ.neg (p:Rat) (i:Nat) [h:BQ p i]:BQ (-p) i:=⟨by rw[oK,jR];exact h.hn,by rw[tZ];exact h.hd⟩
instance BQ.sub (p q:Rat) (i j:Nat) [h:BQ p i] [k:BQ q j]:BQ (p-q) (i+j+1):=by
 rw[Rat.sub_eq_add_neg];exact BQ.add p (-q) i j
instance BQ.ofInt (m:Int) (i:Nat) [h:BI m i]:BQ (m:Rat) (i+1):=by
 refine⟨?_,?_⟩
 .rw[oZ];have:=h.h;rw[fY];omega
 .rw[oX];have:0<2^i:=fX (by decide);rw[fY];omega
end Go.Sx
end
section
namespace Go.Sx
open Go Go.Proofs Tryz
variable {GB G:Gh}{ds A B W:List Nat}{n neg n1:Bool}{x y c a k i b u ia ib d c2 j s w h a' d':Nat}{z m p:Int}{q:Rat}{vs:List Value}{rv r:DV}{k':IntKind}
def FA(p q:Int):Nat:=(BitVec.ofInt 32 p &&& BitVec.ofInt 32 q).toNat
def Hb(p q:Int):Nat:=(BitVec.ofInt 32 p ||| BitVec.ofInt 32 q).toNat
def AQ(p q:Int):Nat:=(BitVec.ofInt 32 p^^^BitVec.ofInt 32 q).toNat
def avv{n:Nat}(h:0<n/\n<=ds.length)(hz:ds.getD (n-1) 0=0):trimD (ds.take n)=trimD (ds.take (n-1)):=by
 obtain⟨m,rfl⟩: ∃m,n=m+1:=⟨n-1,by omega⟩;rw[gT (by omega),nY];rw[nY,aK,aZ (by omega)] at hz;simp only[kW] at hz;rw[hz,Sh]
def V3{n:Nat}(h:n<=ds.length)(hz:0<n->ds.getD (n-1) 0≠0):trimD (ds.take n)=ds.take n:=by
 rcases gU n with h0|h0
 .subst h0;simp[trimD]
 .obtain⟨m,rfl⟩: ∃m,n=m+1:=⟨n-1,by omega⟩
  have hz:=hz h0;rw[gT (by omega)];rw[nY,aK,aZ (by omega)] at hz;exact H1 (by simpa using hz)
def VX(hx:x<4294967296)(hy:y<4294967296)(hc:c<=1):PF GB prog 253 [.v (.int .u32 (x:Int)), .v (.int .u32 (y:Int)), .v (.int .u32 (c:Int))] (.tp [.v (.int .u32 (((x+y+c)%4294967296:Nat):Int)), .v (.int .u32 (((x+y+c)/4294967296:Nat):Int))]):=by
 refine fn (hv:=by simp only[aj];exact⟨⟨⟨⟨⟨by omega,by omega⟩,by omega⟩,by omega⟩,by omega⟩,(by decide)⟩) func253 J J ntmps253 J J (fun C=>?_);exact rz J (by
  have e1:((x:Int)+y+c)%4294967296=(((x+y+c)%4294967296:Nat):Int):=by omega
  have e2:((x:Int)+y+c).fdiv (2^min (32:Int).toNat IntKind.u64.bits)%4294967296=(((x+y+c)/4294967296:Nat):Int):=by
   rw[show(2:Int)^min (32:Int).toNat IntKind.u64.bits=((4294967296:Nat):Int) from J,iW _ (by decide)];omega
  show DV.tp [.v (.int _ _), .v (.int _ _)]=_;rw[e1,e2])
def Js(n:Nat)(h:n<4294967296):(BitVec.ofInt 32 (n:Int)).msb=decide (2147483648<=n):=by
 rw[show BitVec.ofInt 32 (n:Int)=BitVec.ofNat 32 n from BitVec.ofInt_natCast ..];rw[BitVec.msb_eq_decide,BitVec.toNat_ofNat,gS (by simpa using h)]
def atN(b:BitVec 32):b.toNat/2147483648=if b.msb then 1 else 0:=by
 have:=b.isLt;rw[BitVec.msb_eq_decide];simp only[decide_eq_true_eq,Nat.reduceSub,Nat.reducePow] at*;split<;>omega
def Z4(b:BitVec 32):BitVec.ofInt 32 (b.toNat:Int)=b:=by rw[BitVec.ofInt_natCast,BitVec.ofNat_toNat,BitVec.setWidth_eq]
def UD(hx:x<4294967296)(hy:y<4294967296)(hc:c<=1):
  ((Hb (FA (AQ IntKind.u32.max x:Nat) y:Nat) (FA (AQ IntKind.u32.max (AQ x y:Nat):Nat) (IntKind.u32.wrap (IntKind.u32.wrap ((x:Int)-y)-c)):Nat):Nat):Int).fdiv (2^min (31:Int).toNat IntKind.u32.bits)=(((if x<y+c then 1 else 0):Nat):Int):=by
 rw[show((2:Int)^min (31:Int).toNat IntKind.u32.bits)=((2147483648:Nat):Int) from J,iW _ (by decide),<-qR];congr 1;have hd: ∃d:Nat,d<4294967296/\IntKind.u32.wrap (IntKind.u32.wrap ((x:Int)-y)-c)=(d:Int)/\((x>=y+c/\d=x-(y+c))\/(x<y+c/\d=x+4294967296-(y+c))):=by
  rw[qC,qC];refine⟨((((x:Int)-y)%4294967296-c)%4294967296).toNat,by omega,by omega,by omega⟩
 obtain⟨d,hd1,hd2,hd3⟩:=hd;rw[hd2];unfold Hb FA AQ;simp only[Z4];rw[atN];simp only[BitVec.msb_or,BitVec.msb_and,BitVec.msb_xor,Js x hx,Js y hy,Js d hd1];have h1:(BitVec.ofInt 32 IntKind.u32.max).msb=true:=by decide
 rw[h1];rcases jK x 2147483648 with a|a<;>rcases jK y 2147483648 with b|b<;>rcases jK d 2147483648 with e|e<;>
  simp[Nat.not_le.2, *]<;>(first|omega|(split<;>omega))
def Wk(hx:x<4294967296)(hy:y<4294967296)(hc:c<=1):IntKind.u32.wrap (IntKind.u32.wrap ((x:Int)-y)-c)=(((if x<y+c then x+4294967296-(y+c) else x-(y+c)):Nat):Int):=by
 rw[qC,qC];split<;>omega
def aDf(hx:x<4294967296)(hy:y<4294967296)(hc:c<=1):PF GB prog 255 [.v (.int .u32 (x:Int)), .v (.int .u32 (y:Int)), .v (.int .u32 (c:Int))] (.tp [.v (.int .u32 (((if x<y+c then x+4294967296-(y+c) else x-(y+c)):Nat):Int)), .v (.int .u32 (((if x<y+c then 1 else 0):Nat):Int))]):=by
 refine fn (fu:=⟨10⟩) func255 J J ntmps255 J J (fun C=>?_);refine sw (fu:=⟨1⟩) _ J (qC _).symm J<|sw (fu:=⟨6⟩) _ J (qC _).symm J<|nt (fu:=⟨4⟩) _ J J J<|xr (fu:=⟨0⟩) _ J J J<|nt _ J J J<|?_;exact rz J (by have h1:=UD hx hy hc;unfold Hb FA AQ at h1;show DV.tp [.v (.int _ _), .v (.int _ _)]=_;rw[h1,Wk hx hy hc])
def sB(hl:ds.length<=1125899906842624:=by omega):PF GB prog 169 [eO ds] (eO (trimD ds)):=by
 refine fn func169 J J ntmps169 J J (fun C=>?_);refine lp (X:=Nat) (fun n=>[(0, .d (eO ds)),(3, .d (vI (n:Nat)))]) (fun n=>[]) (fun n=>n<=ds.length/\trimD ds=trimD (ds.take n)) (fun n=>n) ds.length J ⟨bX _,by rw[dQ]⟩ (fun _=>J) (fun n hk=>?_);obtain⟨h1,h2⟩:=hk;refine cs 8 J J J (fun hg8=>?_) (fun hg8=>?_)
 .
  refine ix _ J (gF (k:=n-1)) J<|?_;refine br J J J (fun hc15=>?_) (fun hc15=>?_)
  .
   have hz:ds.getD (n-1) 0=0:=by omega
   exact at_ (n-1) ⟨⟨by omega,by rw[h2,avv (by omega) hz]⟩,(by omega)⟩
  .
   refine mE 0 n _ J J J J (ve _) (by omega) (by simp;omega) J<|?_;exact rz J (by have:=V3 h1 (fun _ h=>hc15 (by omega));rw[<-h2] at this;show DV.sl _=_;simp[eO,this])
 .
  refine mE 0 n _ J J J J (ve _) (by omega) (by simp;omega) J<|?_;exact rz rfl (by obtain rfl:n=0:=(by omega);show DV.sl _=_;simp[eO,h2,trimD])
def vg(h:a<2^k)(hk:k<=1000000000):(dg a).length<=100000000:=by have:=lc h;omega
def ce(a:Nat):dv (dg a)=a:=(eg a).1
def ll(a:Nat):bB (dg a):=(eg a).2.1
def eH(ds:List Nat):(ds.map dU).length=ds.length:=aX ..
def p9{n:Nat}(h:ds.length<=n:=by omega):ds.take n=ds:=aM h
def vJ(h:ds.length<=i:=by omega):ds.getD i 0=0:=by
 rw[aK,dY h];rfl
def tH{n:Nat}(h:bB ds)(e:dv ds=n):eO (trimD ds)=dN n:=by rw[aHJ h,e]
def JR(h:a<b):gk a b= -1:=by unfold gk;rw[if_pos h]
def II(h:b<a):gk a b=1:=by unfold gk;rw[if_neg (by omega),if_neg (by omega)]
def Ls(h:a=b):gk a b=0:=by unfold gk;rw[if_neg (by omega),if_pos h]
def Uf(m n:Nat):Int.sign ((m:Int)-n)=gk m n:=by
 unfold gk;split
 .exact fZ (by omega)
 .split
  .rw[show(m:Int)-n=0 by omega];rfl
  .exact fS (by omega)
def T5(h:(dg a).length≠(dg b).length):gk (dg a).length (dg b).length=gk a b:=by
 rcases Nat.lt_or_gt_of_ne h with h|h
 .have:=ud (ll a) (eg b).2.2 h
  rw[ce,ce] at this;rw[JR h,JR this]
 .have:=ud (ll b) (eg a).2.2 h
  rw[ce,ce] at this;rw[II h,II this]
def IZ(hl:(dg a).length=(dg b).length)(hi:i<(dg a).length)(hs:(dg a).drop (i+1)=(dg b).drop (i+1)):
  ((dg a).getD i 0<(dg b).getD i 0->a<b)/\((dg b).getD i 0<(dg a).getD i 0->b<a)/\((dg a).getD i 0=(dg b).getD i 0->(dg a).drop i=(dg b).drop i):=by
 refine⟨fun h=>?_,fun h=>?_,fun h=>?_⟩
 .have:=CC (ll a) (ll b) i hi (by omega) hl hs h
  rwa [ce,ce] at this
 .have:=CC (ll b) (ll a) i (by omega) hi hl.symm hs.symm h
  rwa [ce,ce] at this
 .rw[bQ hi,bQ (by omega:i<(dg b).length),hs]
  rw[aK,aK,aZ hi,aZ (by omega:i<(dg b).length)] at h;simp only[kW] at h;rw[h]
def aE9:PF GB prog 254 [vI z] (vI z.sign):=by
 refine fn func254 J J ntmps254 J J (fun C=>?_);refine br J J J (fun hc4=>?_) (fun hc4=>?_)
 .
  exact rz J (by show DV.v (.int _ 1)=DV.v (.int _ _);rw[fS (by omega)])
 .
  refine br J J J (fun hc6=>?_) (fun hc6=>?_)
  .
   exact rz J (by show DV.v (.int _ (-1))=DV.v (.int _ _);rw[fZ (by omega)])
  .
   exact rz J (by show DV.v (.int _ 0)=DV.v (.int _ _);rw[show z=0 by omega];rfl)
def Uv(u:Nat):dv [u%4294967296,u/4294967296]=u:=by simp only[dv];omega
def aGp(h:u<18446744073709551616):bB [u%4294967296,u/4294967296]:= .cons (by omega) (.cons (by omega) .nil)
def Gf(u:Nat):(u:Int).fdiv (2^min (32:Int).toNat IntKind.u64.bits)=((u/4294967296:Nat):Int):=by
 rw[show(2:Int)^min (32:Int).toNat IntKind.u64.bits=((4294967296:Nat):Int) from J,iW _ (by decide)];rfl
def vX(hu:u<18446744073709551616:=by omega):PF GB prog 111 [.v (.int .u64 (u:Int))] (dN u):=by
 refine fn (fu:=⟨11⟩) (hv:=by simp only[aj];exact(by decide)) func111 J J ntmps111 J J (fun C=>?_);refine ak 6 (.d (.v (.int .u64 (u/4294967296:Nat)))) J (by rw[Gf]) ?_;refine gx J<|rf (fu:=⟨0⟩) J J<|?_;refine ak 8 (.d (eO [u%4294967296,u/4294967296])) J (by show FX.d (.sl [.v (.int _ _), .v (.int _ _)])= .d (.sl [.v (.int _ _), .v (.int _ _)]);congr 6;omega) ?_;refine gx J<|cl J (sB (ds:=[u%4294967296,u/4294967296]) (by simp)) J<|?_;exact rz J (tH (aGp hu) (Uv u))
def CW:PF GB prog 167 [] (dN 1):=by
 refine fn func167 J J ntmps167 J J (fun C=>?_);refine rf J J<|?_;exact rz J (by unfold dN;rw[Bb];rfl)
def ym(ha:(dg a).length<=100000000:=by omega)(hb:(dg b).length<=100000000:=by omega):PF GB prog 164 [dN a,dN b] (vI (gk a b)):=by
 have hla:=eH (dg a);have hlb:=eH (dg b);refine fn func164 J J ntmps164 J J (fun C=>?_);refine br J J J (fun hc10=>?_) (fun hc10=>?_)
 .
  refine cl J aE9 J<|?_;exact rz J (by show DV.v (.int _ _)=DV.v (.int _ _);rw[hla,hlb,Uf,T5 (by omega)])
 .
  have hl:(dg a).length=(dg b).length:=by omega
  refine lp (X:=Nat) (fun k=>[(0, .d (dN a)),(1, .d (dN b)),(5, .d (vI ((k:Nat)-1)))]) (fun k=>[]) (fun k=>k<=(dg a).length/\(dg a).drop k=(dg b).drop k) (fun k=>k) (dg a).length J ⟨bX _,by rw[gQ,hl,gQ]⟩ (fun _=>J) (fun k hk=>?_);obtain⟨h1,h2⟩:=hk;refine br J J J (fun hc21=>?_) (fun hc21=>?_)
  .
   obtain⟨k,rfl⟩: ∃m,k=m+1:=⟨k-1,by omega⟩;refine ix _ J (gF (k:=k)) J<|ix _ J (gF (k:=k)) J<|?_;refine br J J J (fun hc32=>?_) (fun hc32=>?_)
   .
    exact rz J (by show DV.v (.int _ 1)=DV.v (.int _ _);rw[II ((IZ hl (by omega) h2).2.1 (by omega))])
   .
    refine ix _ J (gF (k:=k)) J<|ix _ J (gF (k:=k)) J<|?_;refine br J J J (fun hc41=>?_) (fun hc41=>?_)
    .
     exact rz J (by show DV.v (.int _ (-1))=DV.v (.int _ _);rw[JR ((IZ hl (by omega) h2).1 (by omega))])
    .
     exact at_ k ⟨⟨by omega,(IZ (i:=k) hl (by omega) h2).2.2 (by omega)⟩,(by omega)⟩
  .
   exact rz rfl (by show DV.v (.int _ 0)=DV.v (.int _ _);rw[Ls];obtain rfl:k=0:=(by omega);rw[jV,jV] at h2;rw[<-ce a,h2,ce])
def UY(hi:i<W.length)(h:dv (W.take i)+4294967296^i*c=dv (A.take i)+dv (B.take i)):
  dv ((W.set i ((A.getD i 0+B.getD i 0+c)%4294967296)).take (i+1))+4294967296^(i+1)*((A.getD i 0+B.getD i 0+c)/4294967296)=dv (A.take (i+1))+dv (B.take (i+1)):=by
 rw[qA hi,ju A,ju B,fY,show A.getD i 0+B.getD i 0+c=c+A.getD i 0+B.getD i 0 by omega];exact MQ h
def aDX{n:Nat}(hn:n=max (dg a).length (dg b).length)(hl:W.length=n+1)(h:dv (W.take n)+4294967296^n*c=dv ((dg a).take n)+dv ((dg b).take n)):dv (W.set n c)=a+b:=by
 have e:=qA (ws:=W) (k:=n) (d:=c);rw[p9 (by rw[bY];omega)] at e;rw[e,h,p9,p9,ce,ce]
def aH1[ha:BN a ia][hb:BN b ib](hi:ia<=1000000000:=by decide)(hj:ib<=1000000000:=by decide):PF GB prog 163 [dN a,dN b] (dN (a+b)):=by
 have hla:=eH (dg a);have hlb:=eH (dg b);have hba:=vg ha.h hi;have hbb:=vg hb.h hj;refine fn (fu:=⟨12⟩) func163 J J ntmps163 J J (fun C=>?_);obtain⟨n,hn⟩: ∃n,n=max (dg a).length (dg b).length:=⟨_,rfl⟩;refine ak 15 (.d (vI (n:Nat))) J (by show FX.d (.v (.int _ _))= .d (.v (.int _ _));congr 3;split<;>omega) ?_;refine gx J<|mk ((List.replicate (n+1) 0).map dU) J J (by rw[<-xi];rfl) J<|?_;refine lp (X:=List Nat×Nat×Nat) (fun⟨W,c,i⟩=>[(0, .d (dN a)),(1, .d (dN b)),(5, .d (vI (n:Nat))),(6, .rw 18),(7, .d (.v (.int .u32 (c:Nat)))),(8, .d (vI (i:Nat)))]) (fun⟨W,c,i⟩=>[(18,some (.b 268 1 (W.map dU) true))]) (fun⟨W,c,i⟩=>W.length=n+1/\bB W/\c<=1/\i<=n/\dv (W.take i)+4294967296^i*c=dv ((dg a).take i)+dv ((dg b).take i)) (fun⟨W,c,i⟩=>n-i) ⟨List.replicate (n+1) 0,0,0⟩ J ⟨by simp, .replicate _,by omega,by omega,by simp[dv]⟩ (fun _=>J) (fun⟨W,c,i⟩ hk=>?_);dsimp only at hk⊢;obtain⟨h1,h2,h3,h4,h5⟩:=hk;have hlw:=eH W;have hda:=io a i;have hdb:=io b i;refine br (fu1:=⟨11⟩) J J J (fun hc21=>?_) (fun hc21=>?_)
 .
  refine mg (fu:=⟨1⟩) (X:=Unit) (fun _=>[(0, .d (dN a)),(1, .d (dN b)),(5, .d (vI (n:Nat))),(6, .rw 18),(7, .d (.v (.int .u32 (c:Nat)))),(8, .d (vI (i:Nat))),(9, .d (dU ((dg a).getD i 0))),(10, .d (.v (.int .u32 0)))]) (fun _=>[(18,some (.b 268 1 (W.map dU) true))]) (fun _=>True) [0,1,5,6,7,8,9,10] [18] rfl ?_ (fun _=>J) (fun _ hm=>?_)
  .
   refine gx J<|?_;refine br J J J (fun hc27=>?_) (fun hc27=>?_)
   .
    refine ix _ J (oy) J<|?_;exact at_ () trivial
   .
    refine ak 9 (.d (dU ((dg a).getD i 0))) J (by rw[vJ];rfl) ?_;exact at_ () trivial
  .
   refine mg (X:=Unit) (fun _=>[(0, .d (dN a)),(1, .d (dN b)),(5, .d (vI (n:Nat))),(6, .rw 18),(7, .d (.v (.int .u32 (c:Nat)))),(8, .d (vI (i:Nat))),(9, .d (dU ((dg a).getD i 0))),(10, .d (dU ((dg b).getD i 0)))]) (fun _=>[(18,some (.b 268 1 (W.map dU) true))]) (fun _=>True) [0,1,5,6,7,8,9,10] [18] rfl ?_ (fun _=>J) (fun _ hm=>?_)
   .
    refine gx J<|?_;refine br J J J (fun hc35=>?_) (fun hc35=>?_)
    .
     refine ix _ J (oy) J<|?_;exact at_ () trivial
    .
     refine ak 10 (.d (dU ((dg b).getD i 0))) J (by rw[vJ];rfl) ?_;exact at_ () trivial
   .
    refine cl J (VX (by omega) (by omega) (by omega)) J<|sb _ ((W.set i (((dg a).getD i 0+(dg b).getD i 0+c)%4294967296)).map dU) J (oy) J (by rw[<-uY];rfl) J<|?_;exact at_ ⟨W.set i (((dg a).getD i 0+(dg b).getD i 0+c)%4294967296),((dg a).getD i 0+(dg b).getD i 0+c)/4294967296,i+1⟩ (by dsimp only;exact⟨⟨by simpa using h1,h2.set _ (by omega),by omega,by omega,UY (by omega) h5⟩,(by omega)⟩)
 .
  obtain rfl:i=n:=by omega
  refine sb _ ((W.set i c).map dU) J (oy) J (by rw[<-uY];rfl) J<|fz 18 J J<|cl J (sB (ds:=W.set i c) (by simp;omega)) J<|?_;exact rz J (tH (h2.set _ (by omega)) (aDX hn h1 h5))
def Z1(hA:bB A)(hB:bB B)(hi:i<W.length)(hc:c<=1)(h:dv (W.take i)+dv (B.take i)=dv (A.take i)+4294967296^i*c)
  (hd:d=if A.getD i 0<B.getD i 0+c then A.getD i 0+4294967296-(B.getD i 0+c) else A.getD i 0-(B.getD i 0+c))(hc2:c2=if A.getD i 0<B.getD i 0+c then 1 else 0):
  dv ((W.set i d).take (i+1))+dv (B.take (i+1))=dv (A.take (i+1))+4294967296^(i+1)*c2:=by
 have h1:=hA.get i;have h2:=hB.get i;rw[qA hi,ju A,ju B,fY];split at hd
 .rename_i q
  rw[if_pos q] at hc2;subst hc2 hd;rw[kR (B.getD i 0) c];exact SG h
 .rename_i q
  rw[if_neg q] at hc2;subst hc2 hd;rw[kR (B.getD i 0) c];exact Nl h
def ayh(hw:bB W)(hl:W.length=(dg a).length)(hb:b<=a)(h:dv (W.take (dg a).length)+dv ((dg b).take (dg a).length)=dv ((dg a).take (dg a).length)+4294967296^(dg a).length*c):dv W=a-b:=by
 have hlb:(dg b).length<=(dg a).length:=by
  rcases jK (dg a).length (dg b).length with q|q
  .have:=ud (ll a) (eg b).2.2 q
   rw[ce,ce] at this;omega
  .exact q
 rw[p9,p9 hlb,p9 (bX _),ce,ce] at h;have h2:=jA hw;rw[hl] at h2;rcases gU c with q|q
 .subst q;omega
 .have:4294967296^(dg a).length*1<=4294967296^(dg a).length*c:=fL _ q
  omega
def Gt[ha:BN a ia](hb:b<=a)(hi:ia<=1000000000:=by decide):PF GB prog 165 [dN a,dN b] (dN (a-b)):=by
 have hla:=eH (dg a);have hlb:=eH (dg b);have hba:=vg ha.h hi;refine fn (fu:=⟨9⟩) func165 J J ntmps165 J J (fun C=>?_);refine ak 10 (.d (vI ((dg a).length:Nat))) J (by rw[hla];rfl) ?_;refine gx J<|mk (fu:=⟨13⟩) ((List.replicate (dg a).length 0).map dU) J J (by rw[<-xi];rfl) J<|?_;refine ak 13 (.d (vI ((dg a).length:Nat))) J (by rw[hla];rfl) ?_;refine gx J<|?_;refine lp (X:=List Nat×Nat×Nat) (fun⟨W,c,i⟩=>[(0, .d (dN a)),(1, .d (dN b)),(5, .rw 11),(6, .d (.v (.int .u32 (c:Nat)))),(13, .d (vI ((dg a).length:Nat))),(14, .d (vI (i:Nat)))]) (fun⟨W,c,i⟩=>[(11,some (.b 268 1 (W.map dU) true))]) (fun⟨W,c,i⟩=>W.length=(dg a).length/\bB W/\c<=1/\i<=(dg a).length/\dv (W.take i)+dv ((dg b).take i)=dv ((dg a).take i)+4294967296^i*c) (fun⟨W,c,i⟩=>(dg a).length-i) ⟨List.replicate (dg a).length 0,0,0⟩ J ⟨by simp, .replicate _,by omega,by omega,by simp[dv]⟩ (fun _=>J) (fun⟨W,c,i⟩ hk=>?_);dsimp only at hk⊢;obtain⟨h1,h2,h3,h4,h5⟩:=hk;have hlw:=eH W;have hda:=io a i;have hdb:=io b i;refine br (fu1:=⟨16⟩) J J J (fun hc15=>?_) (fun hc15=>?_)
 .
  refine mg (X:=Unit) (fun _=>[(0, .d (dN a)),(1, .d (dN b)),(5, .rw 11),(6, .d (.v (.int .u32 (c:Nat)))),(13, .d (vI ((dg a).length:Nat))),(14, .d (vI (i:Nat))),(7, .d (vI (i:Nat))),(8, .d (dU ((dg b).getD i 0)))]) (fun _=>[(11,some (.b 268 1 (W.map dU) true))]) (fun _=>True) [0,1,5,6,13,14,7,8] [11] rfl ?_ (fun _=>J) (fun _ hm=>?_)
  .
   refine gx J<|?_;refine br J J J (fun hc20=>?_) (fun hc20=>?_)
   .
    refine ix _ J (oy) J<|?_;exact at_ () trivial
   .
    refine ak 8 (.d (dU ((dg b).getD i 0))) J (by rw[vJ];rfl) ?_;exact at_ () trivial
  .
   refine ix _ J (oy) J<|cl J (aDf (by omega) (by omega) (by omega)) J<|sb _ ((W.set i (if(dg a).getD i 0<(dg b).getD i 0+c then(dg a).getD i 0+4294967296-((dg b).getD i 0+c) else(dg a).getD i 0-((dg b).getD i 0+c))).map dU) J (oy) J (by rw[<-uY];rfl) J<|?_;exact at_ ⟨W.set i (if(dg a).getD i 0<(dg b).getD i 0+c then(dg a).getD i 0+4294967296-((dg b).getD i 0+c) else(dg a).getD i 0-((dg b).getD i 0+c)),(if(dg a).getD i 0<(dg b).getD i 0+c then 1 else 0),i+1⟩ (by dsimp only;exact⟨⟨by simpa using h1,h2.set _ (by split<;>omega),by split<;>omega,by omega,Z1 (ll a) (ll b) (by omega) h3 h5 J J⟩,(by omega)⟩)
 .
  obtain rfl:i=(dg a).length:=by omega
  refine fz 11 J J<|cl J (sB (ds:=W)) J<|?_;exact rz J (tH h2 (ayh h2 h1 hb h5))
def yf(n:Nat)(a b k:Nat)(ha:a<2^k)(h:a+b*2^k<2^n):(BitVec.ofInt n (a:Int) ||| BitVec.ofInt n ((b*2^k:Nat):Int)).toNat=a+b*2^k:=by
 rw[BitVec.toNat_or,BitVec.ofInt_natCast,BitVec.ofInt_natCast,BitVec.toNat_ofNat,BitVec.toNat_ofNat,gS (by omega),gS (by omega)];rw[<-mJ,Nat.or_comm,<-mW ha,mJ];omega
def HO(hx:x<4294967296)(hy:y<4294967296):x*y<=18446744065119617025:=by
 have:=gX (by omega:x<=4294967295) (by omega:y<=4294967295);exact this
def K1(x y:Nat):(0:Int)<=(x:Int)*(y:Int):=by rw[<-jU];omega
def MY(hx:x<4294967296)(hy:y<4294967296):(x:Int)*(y:Int)<=18446744073709551615:=by
 have:=HO hx hy;rw[<-jU];omega
def YO(h:ds.length=1):dv ds=ds.getD 0 0:=by
 match ds,h with
 |[d],_=>simp[dv]
def Az(h:(dg a).length=1:=by omega):(dg a).getD 0 0=a:=by rw[<-YO h,ce]
def TB{m:Nat}(h:j<m):(ds.take m).getD j 0=ds.getD j 0:=by
 rw[aK,aK,pK,if_pos h]
def KW{m:Nat}(hj:j<m)(hm:m<=W.length):dv ((W.set j d).take m)+4294967296^j*W.getD j 0=dv (W.take m)+4294967296^j*d:=by
 rw[List.take_set,<-TB (ds:=W) hj];exact rC _ _ _ (by rw[cR];omega)
def aye{W:List Nat}{P X Y m i k c y t S:Nat}(hk:i+k<m)(hm:m<=W.length)(h:dv (W.take m)+4294967296^(i+k)*c=P+X*(4294967296^i*S))(ht:t=Y+W.getD (i+k) 0+c)(hY:Y=X*y):
  dv ((W.set (i+k) (t%4294967296)).take m)+4294967296^(i+(k+1))*(t/4294967296)=P+X*(4294967296^i*(S+4294967296^k*y)):=by
 have h1:=KW (W:=W) (d:=t%4294967296) hk hm;rw[ht,show Y+W.getD (i+k) 0+c=c+Y+W.getD (i+k) 0 by omega] at h1⊢;have h2:=Ly h1 h;rw[<-kV,fY,h2,hY,eY];simp only[dS,cJ,kM,cK,kV]
def ayy{a b:Nat}{W:List Nat}{i c lb:Nat}(hlb:lb=(dg b).length)(hl:i+lb<W.length)(h:dv (W.take (i+lb))+4294967296^(i+lb)*c=dv ((dg a).take i)*b+(dg a).getD i 0*(4294967296^i*dv ((dg b).take lb))):
  dv ((W.set (i+lb) c).take (i+1+lb))=dv ((dg a).take (i+1))*b:=by
 rw[show i+1+lb=i+lb+1 by omega,qA hl,h,ju,p9 (ds:=dg b),ce b,dJ];simp only[cJ,kM,cK]
def PD(n j:Nat):(List.replicate n 0).getD j 0=0:=by
 rw[aK,List.getElem?_replicate];split<;>rfl
def BC(h:k<=1000000000):IntKind.i64.wrap ((k:Int).tdiv 32)=((k/32:Nat):Int):=by
 rw[show(k:Int).tdiv 32=((k/32:Nat):Int) from J,JM];omega
def RD(k:Nat):(k:Int).tmod 32=((k%32:Nat):Int):=rfl
def sj[ha:BN a ia][hb:BN b ib](hi:ia<=1000000000:=by decide)(hj:ib<=1000000000:=by decide):PF GB prog 80 [dN a,dN b] (dN (a*b)):=by
 have hla:=eH (dg a);have hlb:=eH (dg b);have hba:=vg ha.h hi;have hbb:=vg hb.h hj;refine fn (fu:=⟨6⟩) func80 J J ntmps80 J J (fun C=>?_);refine mg (fu:=⟨4⟩) (X:=Unit) (fun _=>[(0, .d (dN a)),(1, .d (dN b))]) (fun _=>[]) (fun _=>True) [0,1] [] rfl ?_ (fun _=>J) (fun _ hm=>?_)
 .
  refine gx J<|?_;refine cs 15 J J J (fun hg15=>?_) (fun hg15=>?_)
  .
   refine br J J J (fun hc19=>?_) (fun hc19=>?_)
   .
    have hd0:=io a 0;have hd1:=io b 0;refine ix _ J (gF (k:=0) J (by omega)) J<|ix (hv:=by simp only[aj];exact⟨by omega,⟨(K1 _ _),(MY (io _ _) (io _ _))⟩⟩) _ J (gF (k:=0) J (by omega)) J<|cl J (vX (u:=(dg a).getD 0 0*(dg b).getD 0 0) (by have:=HO (io a 0) (io b 0);omega)) J<|?_;exact rz J (by rw[Az,Az];rfl)
   .
    exact at_ () trivial
  .
   exact at_ () trivial
 .
  refine ak 31 (.d (vI ((dg a).length:Nat))) J (by rw[hla];rfl) ?_;refine gx (fu:=⟨2⟩) J<|?_;refine ak 33 (.d (vI ((dg b).length:Nat))) J (by rw[hlb];rfl) ?_;refine gx J<|mk (fu:=⟨8⟩) ((List.replicate ((dg a).length+(dg b).length) 0).map dU) J J (by rw[<-xi];rfl) J<|?_;refine ak 37 (.d (vI ((dg a).length:Nat))) J (by rw[hla];rfl) ?_;refine gx J<|?_;refine lp (X:=List Nat×Nat) (fun⟨W,i⟩=>[(0, .d (dN a)),(1, .d (dN b)),(5, .rw 35),(36, .d (dN a)),(37, .d (vI ((dg a).length:Nat))),(38, .d (vI (i:Nat)))]) (fun⟨W,i⟩=>[(35,some (.b 268 1 (W.map dU) true))]) (fun⟨W,i⟩=>W.length=(dg a).length+(dg b).length/\bB W/\i<=(dg a).length/\dv (W.take (i+(dg b).length))=dv ((dg a).take i)*b) (fun⟨W,i⟩=>(dg a).length-i) ⟨List.replicate ((dg a).length+(dg b).length) 0,0⟩ J ⟨by simp, .replicate _,by omega,by rw[List.take_replicate,xZ];simp[dv]⟩ (fun _=>J) (fun⟨W,i⟩ hk=>?_);dsimp only at hk⊢;obtain⟨h1,h2,h3,h4⟩:=hk;refine br J J J (fun hc39=>?_) (fun hc39=>?_)
  .
   refine ix (fu:=⟨15⟩) _ J (oy) J<|?_;refine ak 44 (.d (vI ((dg b).length:Nat))) J (by rw[hlb];rfl) ?_;refine gx J<|?_;refine lp (X:=List Nat×Nat×Nat) (fun⟨W2,c,k⟩=>[(0, .d (dN a)),(1, .d (dN b)),(5, .rw 35),(6, .d (vI (i:Nat))),(7, .d (dU ((dg a).getD i 0))),(8, .d (.v (.int .u64 (c:Nat)))),(36, .d (dN a)),(37, .d (vI ((dg a).length:Nat))),(38, .d (vI (i:Nat))),(43, .d (dN b)),(44, .d (vI ((dg b).length:Nat))),(45, .d (vI (k:Nat)))]) (fun⟨W2,c,k⟩=>[(35,some (.b 268 1 (W2.map dU) true))]) (fun⟨W2,c,k⟩=>W2.length=(dg a).length+(dg b).length/\bB W2/\c<4294967296/\k<=(dg b).length/\dv (W2.take (i+(dg b).length))+4294967296^(i+k)*c=dv ((dg a).take i)*b+(dg a).getD i 0*(4294967296^i*dv ((dg b).take k))) (fun⟨W2,c,k⟩=>(dg b).length-k) ⟨W,0,0⟩ J ⟨h1,h2,by omega,by omega,by rw[h4];simp[dv]⟩ (fun _=>J) (fun⟨W2,c,k⟩ hk=>?_);dsimp only at hk⊢;obtain⟨g1,g2,g3,g4,g5⟩:=hk;have hlw:=eH W2;have hw:=g2.get (i+k);have hda:=io a i;have hdb:=io b k;refine br (fu2:=⟨10⟩) J J J (fun hc46=>?_) (fun hc46=>?_)
   .
    refine ix (fu:=⟨12⟩) (hv:=by simp only[aj];exact⟨⟨by omega,by omega⟩,⟨(K1 _ _),(MY (io _ _) (io _ _))⟩⟩) _ J (oy) J<|?_;obtain⟨p,hp⟩: ∃p,p=(dg a).getD i 0*(dg b).getD k 0:=⟨_,rfl⟩;have hp1:p<=18446744065119617025:=hp▸HO hda hdb;refine ak 54 (.d (.v (.int .u64 (p:Nat)))) J (by rw[hp,jU]) ?_;refine gx J<|lb (fu:=⟨4⟩) _ J (gF (k:=i+k)) J<|?_;obtain⟨t,ht⟩: ∃t,t=p+W2.getD (i+k) 0+c:=⟨_,rfl⟩;refine ak 64 (.d (.v (.int .u64 (t:Nat)))) J (by congr 3;omega) ?_;refine gx (fu:=⟨11⟩) J<|?_;refine ak 70 (.d (dU (t%4294967296))) J (by show FX.d (.v (.int _ _))= .d (.v (.int _ _));congr 3) ?_;refine gx J<|sb (fu:=⟨5⟩) (hv:=by simp only[aj];exact(by decide)) _ ((W2.set (i+k) (t%4294967296)).map dU) J (gF (k:=i+k)) J (by(rw[show((i:Int)+k).toNat=i+k by omega,<-uY])<;>rfl) J<|?_;refine ak 73 (.d (.v (.int .u64 (t/4294967296:Nat)))) J (by rw[Gf]) ?_;refine gx J<|?_;exact at_ ⟨W2.set (i+k) (t%4294967296),t/4294967296,k+1⟩ (by dsimp only;exact⟨⟨by simpa using g1,g2.set _ (by omega),by omega,by omega,by rw[ju];exact aye (by omega) (by omega) g5 ht hp⟩,(by omega)⟩)
   .
    obtain rfl:k=(dg b).length:=by omega
    refine ak 78 (.d (vI ((dg b).length:Nat))) J (by rw[hlb];rfl) ?_;refine gx (fu:=⟨3⟩) J<|?_;refine ak 81 (.d (dU c)) J (by show FX.d (.v (.int _ _))= .d (.v (.int _ _));congr 3;omega) ?_;refine gx J<|sb _ ((W2.set (i+(dg b).length) c).map dU) J (gF (k:=i+(dg b).length)) J (by(rw[show((i:Int)+((dg b).length:Nat)).toNat=i+(dg b).length by omega,<-uY])<;>rfl) J<|?_;exact at_ ⟨W2.set (i+(dg b).length) c,i+1⟩ (by dsimp only;exact⟨⟨by simpa using g1,g2.set _ g3,by omega,ayy J (by omega) g5⟩,(by omega)⟩)
  .
   obtain rfl:i=(dg a).length:=by omega
   refine fz 35 J J<|cl J (sB (ds:=W)) J<|?_;exact rz J (tH h2 (by have:=h4;rw[p9,p9,ce] at this;exact this))
def SN(x s:Nat):x*2^s=x*2^s%4294967296+4294967296*(x*2^s/4294967296):=by omega
def aEf(hx:x<4294967296)(hs:s<32):x*2^s/4294967296<2^s:=by
 rw[lX (by decide),cK (2^s)];exact nU hx (bX _) (fX (by decide))
def FI(hs:s<32):2^s*2^(32-s)=4294967296:=by rw[<-eY,show s+(32-s)=32 by omega]
def VC(x s:Nat)(hs:s<32):x*2^s%4294967296=x%2^(32-s)*2^s:=by
 rw[<-FI hs,cK (2^s),sS]
def Wm(hx:x<4294967296)(hs:s<32):x*2^s<18446744073709551616:=by
 have h1:2^s<=2^31:=bR (by decide) (by omega);have:=nU hx h1 (by decide);omega
def VY(hw:w<2^s)(hs:s<32):(BitVec.ofInt 32 (w:Int) ||| BitVec.ofInt 32 ((x*2^s%4294967296:Nat):Int)).toNat=w+x*2^s%4294967296:=by
 rw[VC x s hs];refine yf 32 _ _ _ hw ?_;have h1:x%2^(32-s)+1<=2^(32-s):=dV _ (fX (by decide));have h2:=bL (2^s) h1;rw[cK (2^(32-s)),FI hs,dJ,nX] at h2;show _<4294967296;omega
def avO(hh:h<4294967296):(BitVec.ofInt 32 ((0:Nat):Int) ||| BitVec.ofInt 32 (h:Int)).toNat=h:=by
 have:=yf 32 0 h 0 (by decide) (by simpa using hh);simpa using this
def HF(k:Nat):2^k=4294967296^(k/32)*2^(k%32):=by
 rw[show(4294967296:Nat)=2^32 from J,<-qK,<-eY,rT]
def getD_set_ne(h:i≠j:=by omega):(W.set i d).getD j 0=W.getD j 0:=by
 rw[aK,aK,List.getElem?_set_ne h]
def Lb(h:i<W.length):(W.set i d).getD i 0=d:=by
 rw[aK,pV h];rfl
def Xt{A W:List Nat}{k q s i x:Nat}(hq:q=k/32)(hs:s=k%32)(hl:q+i+1<W.length)(hx:x=A.getD i 0)
  (h:dv (W.take (q+i+1))=dv (A.take i)*2^k):
  dv (((W.set (q+i) (W.getD (q+i) 0+x*2^s%4294967296)).set (q+i+1) (x*2^s/4294967296)).take (q+(i+1)+1))=dv (A.take (i+1))*2^k:=by
 have e1:=KW (W:=W) (j:=q+i) (m:=q+i+1) (d:=W.getD (q+i) 0+x*2^s%4294967296) (by omega) (by omega);rw[show q+(i+1)+1=q+i+1+1 by omega,qA (by rw[bY];omega),ju A,<-hx];have e2:dv ((W.set (q+i) (W.getD (q+i) 0+x*2^s%4294967296)).take (q+i+1))=dv (A.take i)*2^k+4294967296^(q+i)*(x*2^s%4294967296):=by
  rw[dS,h] at e1;omega
 rw[e2,fY,cJ,kV,<-dS,<-SN,dJ,HF k,<-hq,<-hs,eY];simp only[cJ,kM,cK]
def Dp[ha:BN a ia](hk:k<=1000000000)(hi:ia<=1000000000:=by decide):PF GB prog 312 [dN a,vI (k:Nat)] (dN (a*2^k)):=by
 have hla:=eH (dg a);have hba:=vg ha.h hi;refine fn (fu:=⟨9⟩) func312 J J ntmps312 J J (fun C=>?_);refine ak 11 (.d (vI (k/32:Nat))) J (by show FX.d (.v (.int _ _))= .d (.v (.int _ _));rw[BC hk]) ?_;refine gx (fu:=⟨2⟩) J<|?_;refine ak 13 (.d (vI ((dg a).length:Nat))) J (by rw[hla];rfl) ?_;refine gx (fu:=⟨2⟩) J<|?_;refine ak 15 (.d (vI (k/32+(dg a).length+1:Nat))) J (by show FX.d (.v (.int _ _))= .d (.v (.int _ _));congr 3) ?_;refine gx J<|mk (fu:=⟨7⟩) (hv:=by simp only[aj];exact(by decide)) ((List.replicate (k/32+(dg a).length+1) 0).map dU) J J (by rw[<-xi];rfl) J<|?_;refine ak 18 (.d (vI (k%32:Nat))) J (by show FX.d (.v (.int _ _))= .d (.v (.int _ _));rw[RD]) ?_;refine gx (fu:=⟨9⟩) J<|?_;refine ak 21 (.d (vI ((dg a).length:Nat))) J (by rw[hla];rfl) ?_;refine gx J<|?_;refine lp (X:=List Nat×Nat) (fun⟨W,i⟩=>[(0, .d (dN a)),(1, .d (vI (k:Nat))),(5, .rw 16),(6, .d (.v (.int .u64 (k%32:Nat)))),(20, .d (dN a)),(21, .d (vI ((dg a).length:Nat))),(22, .d (vI (i:Nat)))]) (fun⟨W,i⟩=>[(16,some (.b 268 1 (W.map dU) true))]) (fun⟨W,i⟩=>W.length=k/32+(dg a).length+1/\bB W/\i<=(dg a).length/\dv (W.take (k/32+i+1))=dv ((dg a).take i)*2^k/\W.getD (k/32+i) 0<2^(k%32)/\ ∀j,k/32+i<j->W.getD j 0=0) (fun⟨W,i⟩=>(dg a).length-i) ⟨List.replicate (k/32+(dg a).length+1) 0,0⟩ J ⟨by simp, .replicate _,by omega,by rw[List.take_replicate,xZ];simp[dv],by rw[PD];exact fX (by decide),fun j _=>PD _ _⟩ (fun _=>J) (fun⟨W,i⟩ hk=>?_);dsimp only at hk⊢;obtain⟨h1,h2,h3,h4,h5,h6⟩:=hk;have hlw:=eH W;have hda:=io a i;have hsk:k%32<32:=dV _ (by decide)
 have hpp:2^(k%32)<=2^31:=bR (by decide) (by omega);refine br J J J (fun hc23=>?_) (fun hc23=>?_)
 .
  refine ix (fu:=⟨11⟩) (hv:=by simp only[aj];exact⟨by omega,(by omega)⟩) _ J (oy) J<|?_;have hhi:=aEf hda hsk;have hfit0:=Wm hda hsk;have hor:=VY (x:=(dg a).getD i 0) h5 hsk;have hfit:W.getD (k/32+i) 0+(dg a).getD i 0*2^(k%32)%4294967296<4294967296:=by rw[<-hor];exact BitVec.isLt _
  have hlp:=SN ((dg a).getD i 0) (k%32);refine ak 30 (.d (.v (.int .u64 ((dg a).getD i 0*2^(k%32):Nat)))) J (by show FX.d (.v (.int _ _))= .d (.v (.int _ _));rw[sP _ (k%32) (by omega) hfit0 (by omega)]) ?_;obtain⟨t,ht⟩: ∃t,t=(dg a).getD i 0*2^(k%32):=⟨_,rfl⟩;simp only[<-ht] at hhi hfit0 hor hfit hlp;rw[<-ht];refine gx (fu:=⟨8⟩) J<|?_;refine ak 33 (.d (vI (k/32:Nat))) J (by show FX.d (.v (.int _ _))= .d (.v (.int _ _));rw[BC hk]) ?_;refine gx J<|lb (fu:=⟨2⟩) _ J (gF (k:=k/32+i)) J<|?_;refine ak 39 (.d (dU (t%4294967296))) J (by show FX.d (.v (.int _ _))= .d (.v (.int _ _));congr 3) ?_;refine gx (fu:=⟨1⟩) J<|?_;refine ak 40 _ J (congrArg (fun z:Nat=>FX.d (.v (.int .u32 (z:Int)))) hor) ?_;refine gx J<|sb (fu:=⟨6⟩) _ ((W.set (k/32+i) (W.getD (k/32+i) 0+t%4294967296)).map dU) J (gF (k:=k/32+i)) J (by(rw[show(((k/32:Nat):Int)+i).toNat=k/32+i by omega];simp only[kY];rfl)<;>rfl) J<|?_;refine ak 44 (.d (vI (k/32:Nat))) J (by show FX.d (.v (.int _ _))= .d (.v (.int _ _));rw[BC hk]) ?_;refine gx J<|lb (fu:=⟨0⟩) _ J (gF (k:=k/32+i+1) (by omega) (by rw[bY];omega)) J<|?_;refine ak 49 (.d (dU 0)) J (by rw[getD_set_ne,h6 _ (by omega)]) ?_;refine gx (fu:=⟨2⟩) (hv:=by simp only[aj];exact(by decide)) J<|?_;refine ak 51 (.d (.v (.int .u64 (t/4294967296:Nat)))) J (by rw[Gf]) ?_;refine gx (fu:=⟨1⟩) J<|?_;refine ak 52 (.d (dU (t/4294967296))) J (by show FX.d (.v (.int _ _))= .d (.v (.int _ _));congr 3;omega) ?_;refine gx (fu:=⟨1⟩) J<|?_;refine ak 53 _ J (congrArg (fun z:Nat=>FX.d (.v (.int .u32 (z:Int)))) (avO (by omega))) ?_
  refine gx J<|sb _ (((W.set (k/32+i) (W.getD (k/32+i) 0+t%4294967296)).set (k/32+i+1) (t/4294967296)).map dU) J (gF (k:=k/32+i+1) (by omega) (by rw[bY];omega)) J (by(rw[show(((k/32:Nat):Int)+i+1).toNat=k/32+i+1 by omega];simp only[kY];rfl)<;>rfl) J<|?_;exact at_ ⟨(W.set (k/32+i) (W.getD (k/32+i) 0+t%4294967296)).set (k/32+i+1) (t/4294967296),i+1⟩ (by dsimp only;exact⟨⟨by simpa using h1,(h2.set _ hfit).set _ (by omega),by omega,by have q:=Xt (x:=(dg a).getD i 0) J J (by omega) J h4;rw[<-ht] at q;exact q,by rw[show k/32+(i+1)=k/32+i+1 by omega,Lb (by simp;omega)];exact hhi,fun j hj=>by rw[getD_set_ne,getD_set_ne];exact h6 j (by omega)⟩,(by omega)⟩)
 .
  obtain rfl:i=(dg a).length:=by omega
  refine fz 16 J J<|cl J (sB (ds:=W)) J<|?_;exact rz J (tH h2 (by have:=h4;rw[p9,p9,ce] at this;exact this))
def X2(h:(dg a).length<=k/32):a/2^k=0:=by
 refine kU ?_;have h1:=jA (ll a);rw[ce] at h1;have h2:4294967296^(dg a).length<=4294967296^(k/32):=bR (by decide) h;have h3:4294967296^(k/32)*1<=4294967296^(k/32)*2^(k%32):=fL _ (fX (by decide));rw[HF k];omega
def If(h:bB ds)(q:Nat):dv (ds.drop q)=dv ds/4294967296^q:=by
 rcases jK ds.length q with hq|hq
 .rw[jJ (by omega)]
  have h1:=jA h;have h2:4294967296^ds.length<=4294967296^q:=bR (by decide) (by omega);rw[kU (by omega)];rfl
 .have e:=DR ds q hq
  have h1:=jA (h.take q);rw[cR,iN hq] at h1;rw[e,mY _ _ (fX (by decide)),kU h1,eJ]
def GD(h:bB ds)(i:Nat):dv ds/4294967296^i=ds.getD i 0+4294967296*ds.getD (i+1) 0+18446744073709551616*(dv ds/4294967296^(i+2)):=by
 have e0:=If h i;have e2:=If h (i+2);rw[<-e0,<-e2];have g0:ds.getD i 0=(ds.drop i).getD 0 0:=by rw[aK,aK,mX];rfl
 have g1:ds.getD (i+1) 0=(ds.drop i).getD 1 0:=by rw[aK,aK,mX]
 have g2:ds.drop (i+2)=(ds.drop i).drop 2:=by rw[List.drop_drop]
 rw[g0,g1,g2]
 match ds.drop i with
 |[]=>rfl
 |[u]=>simp[dv]
 |u::v::t=>simp only[dv,rQ,oR,tW,jV];omega
def VD{D v Z:Nat}(hs:s<32)(hZ:D/4294967296^i=u+4294967296*v+18446744073709551616*Z)(hw:w=(u+v*4294967296)/2^s%4294967296):(D/2^s)%4294967296^(i+1)=(D/2^s)%4294967296^i+4294967296^i*w:=by
 rw[fY,Nat.mod_mul];congr 2;rw[nZ,cK (2^s),<-nZ,hZ,hw];have h1:18446744073709551616=2^s*(2^(32-s)*4294967296):=by rw[<-cJ,FI hs]
 rw[h1,cJ (2^s),mY _ _ (fX (by decide)),cK v];rw[cK (2^(32-s)),cJ,nN]
def TE{q:Nat}(hq:q=k/32)(hs:s=k%32)(hl:W.length=(dg a).length-q)(h:dv (W.take ((dg a).length-q))=(dv ((dg a).drop q)/2^s)%4294967296^((dg a).length-q)):dv W=a/2^k:=by
 rw[p9] at h;have h1:=jA ((ll a).drop q);rw[gL] at h1;have h2:=lK (dv ((dg a).drop q)) (2^s);rw[h,gS (by omega),If (ll a),ce,HF k,<-hq,<-hs,nZ]
def WP[ha:BN a ia](hk:k<=1000000000)(hi:ia<=1000000000:=by decide):PF GB prog 313 [dN a,vI (k:Nat)] (dN (a/2^k)):=by
 have hla:=eH (dg a);have hba:=vg ha.h hi;refine fn (fu:=⟨10⟩) func313 J J ntmps313 J J (fun C=>?_);refine ak 12 (.d (vI (k/32:Nat))) J (by show FX.d (.v (.int _ _))= .d (.v (.int _ _));rw[BC hk]) ?_;refine gx (fu:=⟨2⟩) J<|?_;refine ak 14 (.d (vI ((dg a).length:Nat))) J (by rw[hla];rfl) ?_;refine gx J<|?_;refine br (fu2:=⟨6⟩) (v2:=fun _=>by simp only[aj];exact(by decide)) J J J (fun hc15=>?_) (fun hc15=>?_)
 .
  exact rz J (by rw[X2 (by omega),qv];rfl)
 .
  refine ak 17 (.d (vI (k%32:Nat))) J (by show FX.d (.v (.int _ _))= .d (.v (.int _ _));rw[RD]) ?_;refine gx (fu:=⟨9⟩) J<|?_;refine ak 21 (.d (vI (k/32:Nat))) J (by show FX.d (.v (.int _ _))= .d (.v (.int _ _));rw[BC hk]) ?_;refine gx J<|mE (fu:=⟨0⟩) (k/32) (dg a).length _ J J (by rw[hla]) J (ve _) (by omega) (by omega) J<|?_;obtain⟨I,hI⟩: ∃I,I=(dg a).drop (k/32):=⟨_,rfl⟩;have hIl:I.length=(dg a).length-k/32:=by rw[hI,gL]
  have hIm:=eH I;have hIo:bB I:=hI▸(ll a).drop _;refine ak 22 (.d (eO I)) J (by show FX.d (.sl _)= .d (.sl _);rw[hI,<-hla,dQ,jZ]) ?_;refine gx (fu:=⟨7⟩) J<|?_;refine ak 24 (.d (vI (I.length:Nat))) J (by rw[hIm];rfl) ?_;refine gx J<|mk (fu:=⟨8⟩) ((List.replicate I.length 0).map dU) J J (by rw[<-xi];rfl) J<|?_;refine ak 27 (.d (vI (I.length:Nat))) J (by rw[hIm];rfl) ?_;refine gx J<|?_;refine lp (X:=List Nat×Nat) (fun⟨W,i⟩=>[(0, .d (dN a)),(5, .d (.v (.int .u64 (k%32:Nat)))),(6, .d (eO I)),(7, .rw 25),(26, .d (eO I)),(27, .d (vI (I.length:Nat))),(28, .d (vI (i:Nat)))]) (fun⟨W,i⟩=>[(25,some (.b 268 1 (W.map dU) true))]) (fun⟨W,i⟩=>W.length=I.length/\bB W/\i<=I.length/\dv (W.take i)=(dv I/2^(k%32))%4294967296^i) (fun⟨W,i⟩=>I.length-i) ⟨List.replicate I.length 0,0⟩ J ⟨by simp, .replicate _,by omega,by simp[dv,Nat.mod_one]⟩ (fun _=>J) (fun⟨W,i⟩ hk=>?_);dsimp only at hk⊢;obtain⟨h1,h2,h3,h4⟩:=hk;have hlw:=eH W;have hda:=hIo.get i;have hdb:=hIo.get (i+1);have hsk:k%32<32:=dV _ (by decide);refine br J J J (fun hc29=>?_) (fun hc29=>?_)
  .
   refine ix (fu:=⟨13⟩) _ J (oy) J<|?_;refine mg (fu:=⟨6⟩) (hv:=fun _ _=>by simp only[aj];exact(by omega)) (X:=Unit) (fun _=>[(0, .d (dN a)),(5, .d (.v (.int .u64 (k%32:Nat)))),(6, .d (eO I)),(7, .rw 25),(26, .d (eO I)),(27, .d (vI (I.length:Nat))),(28, .d (vI (i:Nat))),(8, .d (vI (i:Nat))),(10, .d (.v (.int .u64 (I.getD i 0+I.getD (i+1) 0*4294967296:Nat))))]) (fun _=>[(25,some (.b 268 1 (W.map dU) true))]) (fun _=>True) [0,5,6,7,26,27,28,8,10] [25] rfl ?_ (fun _=>J) (fun _ hm=>?_)
   .
    refine gx (fu:=⟨6⟩) J<|?_;refine ak 38 (.d (vI (I.length:Nat))) J (by rw[hIm];rfl) ?_;refine gx J<|?_;refine br J J J (fun hc39=>?_) (fun hc39=>?_)
    .
     refine ix (fu:=⟨3⟩) (hv:=by simp only[aj];exact⟨by omega,(by decide)⟩) _ J (gF (k:=i+1)) J<|?_;refine ak 47 (.d (.v (.int .u64 (I.getD (i+1) 0*4294967296:Nat)))) J (by show FX.d (.v (.int _ _))= .d (.v (.int _ _));rw[sP _ 32 (by decide) (by show _*4294967296<_;omega) J]) ?_;refine gx (fu:=⟨1⟩) J<|?_;refine ak 48 _ J (congrArg (fun z:Nat=>FX.d (.v (.int .u64 (z:Int)))) (yf 64 (I.getD i 0) (I.getD (i+1) 0) 32 hda (by show _+_*4294967296<18446744073709551616;omega))) ?_;refine gx J<|?_;exact at_ () trivial
    .
     refine ak 10 (.d (.v (.int .u64 (I.getD i 0+I.getD (i+1) 0*4294967296:Nat)))) J (by rw[vJ (by omega:I.length<=i+1),lJ,fK]) ?_;exact at_ () trivial
   .
    refine ak 53 (.d (.v (.int .u64 ((I.getD i 0+I.getD (i+1) 0*4294967296)/2^(k%32):Nat)))) J (by show FX.d (.v (.int _ _))= .d (.v (.int _ _));rw[uD _ (k%32) (by omega) (by omega)]) ?_;refine gx (fu:=⟨1⟩) J<|?_;obtain⟨w,hw⟩: ∃w,w=(I.getD i 0+I.getD (i+1) 0*4294967296)/2^(k%32)%4294967296:=⟨_,rfl⟩;have hw1:w<4294967296:=hw▸dV _ (by decide);refine ak 54 (.d (dU w)) J (by show FX.d (.v (.int _ _))= .d (.v (.int _ _));rw[hw];congr 3) ?_;refine gx J<|sb _ ((W.set i w).map dU) J (oy) J (by(rw[<-uY];rfl)<;>rfl) J<|?_;exact at_ ⟨W.set i w,i+1⟩ (by dsimp only;exact⟨⟨by simpa using h1,h2.set _ (by omega),by omega,by rw[qA,h4];exact(VD hsk (GD hIo i) hw).symm⟩,(by omega)⟩)
  .
   refine fz 25 J J<|cl J (sB (ds:=W)) J<|?_;exact rz rfl (tH h2 (by obtain rfl:i=I.length:=(by omega);rw[hIl] at h1 h4;rw[hI] at h4;exact TE rfl rfl h1 h4))
def Fx(h:a<4294967296^k):(dg a).length<=k:=by
 rcases jK k (dg a).length with q|q
 .have h1:=sk (eg a).2.2 (by intro e;rw[e] at q;simp at q)
  rw[ce] at h1;have h2:4294967296^k<=4294967296^((dg a).length-1):=bR (by decide) (by omega);omega
 .exact q
def Xr(h:(dg a).length=2):(dg a).getD 0 0+(dg a).getD 1 0*4294967296=a:=by
 have e:=ce a;revert e
 match dg a,h with
 |[x,y],_=>intro e;simp[dv] at e⊢;omega
def AR(a:Nat):DV:= .tp [.v (.int .u64 ((if a<18446744073709551616 then a else 0:Nat):Int)),vB (decide (a<18446744073709551616))]
def MZ(h:a<18446744073709551616:=by omega):AR a= .tp [.v (.int .u64 (a:Int)),vB true]:=by unfold AR;rw[if_pos h,decide_eq_true h]
def TH(h: ¬a<18446744073709551616):AR a= .tp [.v (.int .u64 0),vB false]:=by unfold AR;rw[if_neg h,decide_eq_false h];rfl
def vz(a:Nat):a<4294967296^(dg a).length:=by have:=jA (ll a);rwa [ce] at this
def D3{a ia:Nat}[ha:BN a ia](hi:ia<=1000000000:=by decide):PF GB prog 256 [dN a] (AR a):=by
 have hla:=eH (dg a);have hba:=vg ha.h hi;have hlt:=vz a;have hd00:=io a 0;refine fn (fu:=⟨11⟩) func256 J J ntmps256 J J (fun C=>?_);refine ak 5 (.d (vI ((dg a).length:Nat))) J (by rw[hla];rfl) ?_;refine gx J<|?_;refine br J J J (fun hc6=>?_) (fun hc6=>?_)
 .
  exact rz rfl (by rw[show(dg a).length=0 by omega] at hlt;obtain rfl:a=0:=(by omega);rfl)
 .
  refine br J J J (fun hc8=>?_) (fun hc8=>?_)
  .
   refine ix (fu:=⟨2⟩) _ J (gF (k:=0) J (by omega)) J<|?_;refine ak 13 (.d (.v (.int .u64 (a:Nat)))) J (by rw[Az]) ?_;refine gx J<|?_;exact rz J (by rw[show(dg a).length=1 by omega] at hlt;rw[MZ,<-Az (a:=a),Az (a:=a)];rfl)
  .
   refine br J J J (fun hc14=>?_) (fun hc14=>?_)
   .
    have hd0:=io a 0;have hd1:=io a 1;refine ix (hv:=by simp only[aj];exact⟨by omega,(by decide)⟩) _ J (gF (k:=1) J (by omega)) J<|ix (fu:=⟨3⟩) _ J (gF (k:=0) J (by omega)) J<|?_;refine ak 25 (.d (.v (.int .u64 (a:Nat)))) J (congrArg (fun z:Nat=>FX.d (.v (.int .u64 (z:Int)))) (by rw[sP _ 32 (by decide) (by show _*4294967296<_;omega) J,BitVec.or_comm];exact(yf 64 ((dg a).getD 0 0) ((dg a).getD 1 0) 32 hd0 (by show _+_*4294967296<18446744073709551616;omega)).trans (Xr (by omega)))) ?_;refine gx J<|?_;exact rz J (by rw[show(dg a).length=2 by omega] at hlt;rw[MZ];rfl)
   .
    exact rz rfl (by rw[TH];rfl;intro h;have:=Fx (a:=a) (k:=2) (by omega);omega)
def Qr{v:Value}(hd:bB ds)(h:Is G (eO ds) v): ∃x:SV,v=x.v/\cj G x ds:=by
 obtain⟨x,rfl,h1⟩:=LA.1 h;exact⟨x,J,hd,h1⟩
def gg.is{n:Nat}{z:SV}(h:gg k G z n):Is G (dN n) z.v:=(Hi h.lt).2 ⟨z,J,h⟩
def AL(hd:bB ds)(h:IsLs G [eO ds] vs): ∃x:SV,vs=[x.v]/\cj G x ds:=by
 obtain⟨v,m,rfl,h1,h2⟩:=aI.1 h
 cases dE.1 h2
 obtain⟨x,rfl,h3⟩:=Qr hd h1;exact⟨x,J,h3⟩
def uP(h:IsLs G [dN a,dN b] vs): ∃x y:SV,vs=[x.v,y.v]/\cj G x (dg a)/\cj G y (dg b):=by
 obtain⟨v,m,rfl,h1,h2⟩:=aI.1 h;obtain⟨y,rfl,h4⟩:=AL (eg b).2.1 h2;obtain⟨x,rfl,h3⟩:=Qr (eg a).2.1 h1;exact⟨x,y,J,h3,h4⟩
section
def nA[h:BN a i](hi:i<=1000000000):(dg a).length<=31250001:=by have:=lc h.h;omega
def M'(hd:bB ds)(hl:ds.length<=1125899906842624):PF GB prog 322 [eO ds] (vB (decide (dC ds))):=fun G vs _ hv=>by
 obtain⟨x,rfl,hx⟩:=AL hd hv;exact(YW hx hl).mono fun v G' _ h=>aB.2 h
def vd[h:BN a i](hi:i<=1000000000:=by decide):PF GB prog 238 [dN a] (vI (bl a:Nat)):=fun G vs _ hv=>by
 obtain⟨x,rfl,hx⟩:=AL (eg a).2.1 hv;have:=nA (a:=a) hi;exact(Zv hx (by omega)).mono fun v G' _ h=>aB.2 (by rw[h,ce])
def Aw[h:BN a i](hi:i<=1000000000:=by decide):PF GB prog 236 [dN a] (dN a):=fun G vs _ hv=>by
 obtain⟨x,rfl,hx⟩:=AL (eg a).2.1 hv;have:=nA (a:=a) hi;refine(Kr (k:=i) hx (by rw[ce];exact h.h)).mono fun v G' _ h=>?_;obtain⟨z,rfl,h⟩:=h;rw[ce] at h;exact h.is
def I5(h:a<18446744073709551616:=by omega):PF GB prog 237 [.v (.int .u64 (a:Nat))] (dN a):=fun G vs _ hv=>by
 obtain⟨v,m,rfl,h1,h2⟩:=aI.1 hv
 cases dE.1 h2
 rw[aB.1 h1];refine(IG h).mono fun v G' _ h=>?_;obtain⟨z,rfl,h⟩:=h;exact h.is
def JL(h:a<18446744073709551616):PF GB prog 243 [dN a] (.tp [.v (.int .u64 (a:Nat)),vB true]):=fun G vs _ hv=>by
 obtain⟨x,rfl,hx⟩:=AL (eg a).2.1 hv;have:BN a 64:=⟨h⟩;have:=nA (a:=a) (i:=64) (by decide);refine(Kb hx).mono fun v G' _ e=>?_;rw[ce,if_pos h,decide_eq_true h] at e;subst e;exact jj.2 ⟨_,J, .cons (aB.2 J) (.cons (aB.2 J) .nil)⟩
def Vb[h:BN a i][k:BN b j](hi:i<=1000000000:=by decide)(hj:j<=1000000000:=by decide):PF GB prog 233 [dN a,dN b] (dN (a+b)):=fun G vs _ hv=>by
 obtain⟨x,y,rfl,hx,hy⟩:=uP hv;have:=nA (a:=a) hi;have:=nA (a:=b) hj;refine(aCm (kk:=i+j+1) hx hy (by rw[ce,ce];exact GC h.h k.h) (by omega) (by omega)).mono fun v G' _ h=>?_;obtain⟨z,rfl,h⟩:=h;rw[ce,ce] at h;exact h.is
def SO[h:BN a i][k:BN b j](hi:i<=1000000000:=by decide)(hj:j<=1000000000:=by decide):PF GB prog 234 [dN a,dN b] (.tp [dN (a-b),vB (decide (b<=a))]):=fun G vs _ hv=>by
 obtain⟨x,y,rfl,hx,hy⟩:=uP hv;have:=nA (a:=a) hi;have:=nA (a:=b) hj;refine(aD7 (kk:=i) hx hy (by rw[ce];exact h.h) (by omega) (by omega)).mono fun v G' _ h=>?_;obtain⟨z,rfl,h⟩:=h;rw[ce,ce] at h⊢;exact jj.2 ⟨_,J, .cons h.is (.cons (aB.2 J) .nil)⟩
def zt[h:BN a i][k:BN b j](hi:i<=1000000000:=by decide)(hj:j<=1000000000:=by decide):PF GB prog 155 [dN a,dN b] (dN (a*b)):=fun G vs _ hv=>by
 obtain⟨x,y,rfl,hx,hy⟩:=uP hv;have:=nA (a:=a) hi;have:=nA (a:=b) hj;refine(Tv (kk:=i+j) hx hy (by rw[ce,ce];exact qb h.h k.h) (by omega) (by omega)).mono fun v G' _ h=>?_;obtain⟨z,rfl,h⟩:=h;rw[ce,ce] at h;exact h.is
def OM[h:BN a i][k:BN b j](hb:0<b)(hi:i<=1000000000:=by decide)(hj:j<=1000000000:=by decide):PF GB prog 241 [dN a,dN b] (.tp [dN (a/b),dN (a%b),vB true]):=fun G vs _ hv=>by
 obtain⟨x,y,rfl,hx,hy⟩:=uP hv;have:=nA (a:=a) hi;have:=nA (a:=b) hj;refine(F0 (k1:=i) (k2:=j) hx hy (by rw[ce];exact hb) (by rw[ce,ce];exact eK (lK _ _) h.h) (by rw[ce,ce];exact qU (dV _ hb) k.h)).mono fun v G' _ h=>?_;obtain⟨z,r,rfl,h,h'⟩:=h;rw[ce,ce] at h h';exact jj.2 ⟨_,J, .cons h.is (.cons h'.is (.cons (aB.2 J) .nil))⟩
def Kj[h:BN a i][k:BN b j](hi:i<=1000000000:=by decide)(hj:j<=1000000000:=by decide):PF GB prog 240 [dN a,dN b] (dN (Nat.gcd a b)):=fun G vs _ hv=>by
 obtain⟨x,y,rfl,hx,hy⟩:=uP hv;have:=nA (a:=a) hi;have:=nA (a:=b) hj;have e: ∀k',k'<=i+j->(2:Nat)^k'<=2^(i+j):=fun k' h=>bR (by decide) h;have:=e i (by omega);have:=e j (by omega);have:=h.h;have:=k.h;refine(WS (k:=i+j) (k0:=i+j) hx hy (by rw[ce];omega) (by rw[ce];omega) (by omega) (by rw[ce,ce];exact Iq h.h k.h) (by omega) (by omega)).mono fun v G' _ h=>?_;obtain⟨z,rfl,h⟩:=h;rw[ce,ce] at h;exact h.is
end
section
variable {C:aD}{n:Nat}{Q0:Exit->Act->World->Prop}{fr fr' fr1 fr2:aC}{own own' own1 own2:aH}{cf cf' cf1 cf2:Cf}{vc vc1 vc2:List Prop}
def jz{fb:Func}{e:Exit}{ds:List DV}(hr:rG tt fr own fb.results.toList=some ds)(hd: ∀G y,Is G (fh ds) y->Is G rv y)(he:DQ e=true:=by rfl):aw prog GB C n (fg C prog fb (mv C (fun v G'=>Is G' rv v))) fr own (.ex e []):=by
 refine⟨fun ρ G ov a w r=>?_⟩;obtain⟨vs,h1,h2⟩:=DM r hr;have hk:Is G rv (gI vs):=hd _ _ (Cx h2)
 cases e with
 |ret=>exact zD (C:=C) (n:=n) (fr:=cx a) (own:=ov) (G:=G) (K:=fun v G'=>Is G' rv v) h1 hk a w ⟨r.h,r.sz,cC a,r.df⟩
 |normal=>exact Ov (C:=C) (n:=n) (fr:=cx a) (own:=ov) (G:=G) (K:=fun v G'=>Is G' rv v) h1 hk a w ⟨r.h,r.sz,cC a,r.df⟩
 |_=>cases he
def K6(fr:aC)(cf:Cf):Option (Int×IntKind):=match dd fr cf with
 |some ⟨_, .convert t t' x,_,_,_,_⟩=>match d8 tt t,d8 tt t',bj (b9 fr cf) x with
  |some ⟨.int k,_,_,_⟩,some ⟨.int k',_,_,_⟩,some (.d (.v (.int j p)))=>bif kq k j then some (p,k') else none
  |_,_,_=>none
 |_=>none
def cu[fu:Fu](u:Int)(h:K6 fr cf=some (p,k'))(e:k'.wrap p=u)(hgo:cI tt n fu.n fr own cf (.d (.v (.int k' u))) [] []=⟨vc,fr',own',cf'⟩)(k:aw prog GB C n Q0 fr' own' cf')
  (hv:autoParam (aj vc) cL._auto_1):aw prog GB C n Q0 fr own cf:=by
 unfold K6 at h;split at h<;>try (cases h;done)
 rename_i hh;split at h<;>try (cases h;done)
 rename_i k0 _ _ _ k1 _ _ _ j p0 hT hT' hx
 cases hk:kq k0 j with
 |false=>rw[hk] at h;cases h
 |true=>
  rw[hk,cond_true] at h;cases h;cases Dn hk;have:=zz (eE _ _ hT) J;have:=zz (eE _ _ hT') J;subst e;refine us hh (.x1 hx fun ρ G ov a w y _ r h1 h2=>?_) hgo hv k;rw[dq] at h2;subst h2;exact⟨_,dq.2 J,DS h1⟩
def QZ(fr:aC)(cf:Cf):Option (Int×IntKind):=match dd fr cf with
 |some ⟨_, .unOp .neg _ x,_,_,_,_⟩=>match bj (b9 fr cf) x with
  |some (.d (.v (.int j p)))=>some (p,j)
  |_=>none
 |_=>none
def nu[fu:Fu](u:Int)(h:QZ fr cf=some (p,k'))(e:k'.wrap (0-p)=u)(hgo:cI tt n fu.n fr own cf (.d (.v (.int k' u))) [] []=⟨vc,fr',own',cf'⟩)(k:aw prog GB C n Q0 fr' own' cf')
  (hv:autoParam (aj vc) cL._auto_1):aw prog GB C n Q0 fr own cf:=by
 unfold QZ at h;split at h<;>try (cases h;done)
 rename_i hh;split at h<;>cases h;rename_i hx;subst e;exact us hh (.x1 hx fun ρ G ov a w y _ r h1 h2=>by
  rw[dq] at h2;subst h2;exact⟨_,dq.2 J,HU h1⟩) hgo hv k
end
def GZ{x:Nat}:bl x=0↔x=0:=by
 have:= @pi x 0;simp at this;omega
def wh:0<(dg a).length↔0<a:=by
 have:= @vO a;omega
def eS(neg:Bool)(a:Nat):DV:= .ag [.v (.bool neg),dN a]
def Fm(neg:Bool)(a:Nat):eI (zv neg a)= .ag [.v (.bool (neg&&decide (0<a))),dN a]:=by unfold eI;rw[sA,LZ]
def Yy{b:Int}(h:n≠decide (b<0))(hle:b.natAbs<=u):zv n (u-b.natAbs)=zv n u+b:=by cases n<;>simp[zv] at* <;>omega
def Z5{b:Int}(h:n≠decide (b<0))(hle:u<=b.natAbs):zv (decide (b<0)) (b.natAbs-u)=zv n u+b:=by cases n<;>simp[zv] at* <;>(try rw[if_pos h])<;>(try rw[if_neg (by omega)])<;>omega
def O7(hd:bB ds)(hl:ds.length<=1125899906842624):PF GB prog 266 [.ag [.v (.bool neg),eO ds]] (vB (decide (dC ds/\(neg=true->0<ds.length)))):=by
 refine fn func266 J J ntmps266 J J (fun C=>?_);refine cl J (M' hd hl) J<|?_;refine csd 6 J J J (fun hg6=>?_) (fun hg6=>?_)
 .
  refine ja 10 J J J (fun hg10=>?_) (fun hg10=>?_)
  .
   exact rz J (by unfold vB;congr 2;simp_all [fh])
  .
   exact rz J (by unfold vB;congr 2;simp_all [fh])
 .
  exact rz J (by unfold vB;congr 2;simp_all [fh])
def LQ[h:BN a i](hi:i<=1000000000:=by decide):PF GB prog 239 [eS n a] (vI (zv n a).sign):=by
 refine fn func239 J J ntmps239 J J (fun C=>?_);refine cl J (vd (a:=a) hi) J<|?_;refine br J J J (fun hc3=>?_) (fun hc3=>?_)
 .
  exact rz J (by have:=GZ.1 (Int.ofNat.inj hc3);subst this;cases n<;>rfl)
 .
  refine bb J J J (fun hc8=>?_) (fun hc8=>?_)
  .
   exact rz J (by subst hc8;rw[fZ (by have:a≠0:=(fun e=>hc3 (by rw[e];rfl));simp[zv];omega)];rfl)
  .
   exact rz J (by subst hc8;rw[fS (by have:a≠0:=(fun e=>hc3 (by rw[e];rfl));simp[zv];omega)];rfl)
def GH(h0: -9223372036854775808<=m:=by omega)(h1:m<=9223372036854775807:=by omega):PF GB prog 228 [vI m] (eI m):=by
 refine fn (fu:=⟨8⟩) func228 J J ntmps228 J J (fun C=>?_);refine cu ((m%18446744073709551616:Int)) J (od _) J<|?_;refine br (fu1:=⟨2⟩) (fu2:=⟨0⟩) J J J (fun hc7=>?_) (fun hc7=>?_)
 .
  refine nu ((m.natAbs:Nat)) J (by rw[od];omega) J<|cl J (I5 (a:=m.natAbs)) J<|?_;exact rz J J
 .
  refine ak 3 (.d (.v (.int .u64 (m.natAbs:Nat)))) J (by congr 3;omega) ?_;refine gx J<|cl J (I5 (a:=m.natAbs)) J<|?_;exact rz J J
def Ph(h:a<4611686018427387904):PF GB prog 242 [eS n a] (.tp [vI (zv n a),vB true]):=by
 refine fn func242 J J ntmps242 J J (fun C=>?_);refine cl (fu:=⟨2⟩) J (JL (a:=a) (by omega)) J<|c6 J J J<|?_;refine ja 18 J J J (fun hg18=>?_) (fun hg18=>?_)
 .
  refine br (fu1:=⟨3⟩) J J J (fun hc12=>?_) (fun hc12=>?_)
  .
   refine nu (fu:=⟨0⟩) (((18446744073709551616-a)%18446744073709551616:Int)) J (by rw[od];omega) J<|cu (zv n a) J (by subst hg18;rw[JM];simp only[zv,if_true];omega) J<|?_;exact rz J J
  .
   exact absurd (by omega) hc12
 .
  refine ja 32 J J J (fun hg32=>?_) (fun hg32=>?_)
  .
   refine br J J J (fun hc25=>?_) (fun hc25=>?_)
   .
    exact rz J (by subst hg18;rfl)
   .
    exact absurd (by omega) hc25
  .
   subst hg18;cases hg32
def z6[h:BN a i](hi:i<=1000000000:=by decide):PF GB prog 235 [eS neg a] (eI (zv neg a)):=by
 refine fn func235 J J ntmps235 J J (fun C=>?_);refine cl J (Aw hi) J<|?_;refine ja 9 J J J (fun hg9=>?_) (fun hg9=>?_)
 .
  exact rz J (by rw[Fm];simp[hg9,wh,fh])
 .
  exact rz J (by rw[Fm];simp[hg9,wh,fh])
def Cy:PF GB prog 232 [.v (.bool neg),dN a] (eI (zv neg a)):=by
 refine fn func232 J J ntmps232 J J (fun C=>?_);refine ja 6 J J J (fun hg6=>?_) (fun hg6=>?_)
 .
  exact rz J (by rw[Fm];simp[hg6,wh,fh])
 .
  exact rz J (by rw[Fm];simp[hg6,wh,fh])
def Ui[h:BI m i](hi:i<=1000000000:=by decide):PF GB prog 284 [eI m] (eI (-m)):=by
 refine fn func284 J J ntmps284 J J (fun C=>?_);refine cl J (z6 (neg:=!decide (m<0)) (a:=m.natAbs) hi) J<|?_;exact rz J (by rw[aGX,mo];rfl)
def Hj{a b:Int}[h:BI a i][k:BI b j](hi:i<=1000000000:=by decide)(hj:j<=1000000000:=by decide):PF GB prog 151 [eI a,eI b] (eI (a*b)):=by
 refine fn func151 J J ntmps151 J J (fun C=>?_);refine cl J (zt (a:=a.natAbs) (b:=b.natAbs) hi hj) J<|cl J Cy J<|?_;exact rz J (by rw[show(!(decide (a<0)==decide (b<0)))=(decide (a<0) !=decide (b<0)) from J,Pa,mo,mo];rfl)
def Zw{b:Int}[h:BN u i][k:BI b j](hi:i<=1000000000:=by decide)(hj:j<=1000000000:=by decide):PF GB prog 150 [eS n1 u,eI b] (eI (zv n1 u+b)):=by
 refine fn func150 J J ntmps150 J J (fun C=>?_);refine bb J J J (fun hc13=>?_) (fun hc13=>?_)
 .
  refine cl J (Vb (b:=b.natAbs) hi hj) J<|cl J Cy J<|?_;exact rz J (by rw[Xf,show n1=decide (b<0) from by simpa using hc13,mo];rfl)
 .
  refine cl J (SO (b:=b.natAbs) hi hj) J<|?_;refine bd J J J (fun hc30=>?_) (fun hc30=>?_)
  .
   refine cl J Cy J<|?_;exact rz J (by rw[Yy (by simpa using hc13) hc30];rfl)
  .
   refine cl J (SO (a:=b.natAbs) hj hi) J<|cl J Cy J<|?_;exact rz J (by rw[Z5 (by simpa using hc13) (by omega)];rfl)
def YA{a b:Int}[h:BI a i][k:BI b j](hi:i<=1000000000:=by decide)(hj:j<=1000000000:=by decide):PF GB prog 150 [eI a,eI b] (eI (a+b)):=(Zw (n1:=decide (a<0)) (u:=a.natAbs) hi hj).to (by rw[mo])
def gA(q:Rat):Prop:= ¬(q.num.natAbs<4611686018427387904/\q.den<4611686018427387904)
instance (q:Rat):Decidable (gA q):=inferInstanceAs (Decidable (¬_))
def dw(q:Rat):Int:=if gA q then 0 else q.num
def dx(q:Rat):Int:=if gA q then 0 else(q.den:Int)-1
def dm(q:Rat):DV:= .op (decide (gA q)) [.v (.bool (decide (q.num<0))),dN q.num.natAbs,dN q.den]
def eF(q:Rat):DV:= .ag [vI (dw q),vI (dx q),dm q]
abbrev bgT {q:Rat} (h:decide (gA q)=true):gA q:=of_decide_eq_true h
abbrev uc {q:Rat} (h:decide (gA q)=false): ¬gA q:=of_decide_eq_false h
abbrev V5 {q:Rat} (h: ¬decide (gA q)=false):gA q:=by simpa using h
abbrev pq {q:Rat} (h: ¬decide (gA q)=true): ¬gA q:=by simpa using h
def n5(h: ¬gA q):dw q=q.num:=if_neg h
def qq(h: ¬gA q):dx q=(q.den:Int)-1:=if_neg h
def qB(h: ¬gA q):q.num.natAbs<4611686018427387904:=(Decidable.not_not.1 h).1
def ra(h: ¬gA q):q.den<4611686018427387904:=(Decidable.not_not.1 h).2
def HC(h:gA q):q≠0:=fun e=>by subst e;exact h ⟨by decide,by decide⟩
def uq{d:Int}(h: ¬gA q)(h1:q.num=m)(h2:(q.den:Int)-1=d)(e:r= .ag [vI m,vI d, .v (.pointer none)])(G:Gh)(y:Value)(k:Is G r y):Is G (eF q) y:=by
 subst e h1 h2;obtain⟨l,rfl,g⟩:=d9.1 k;obtain⟨y1,l1,rfl,k1,g1⟩:=aI.1 g;obtain⟨y2,l2,rfl,k2,g2⟩:=aI.1 g1;obtain⟨y3,l3,rfl,k3,g3⟩:=aI.1 g2;exact d9.2 ⟨_,J, .cons (by rw[n5 h];exact k1) (.cons (by rw[qq h];exact k2) (.cons (ur.2 (.inl ⟨decide_eq_false h,aB.1 k3⟩)) g3))⟩
def Oa(h:gA q)(h1:decide (q.num<0)=n)(h2:q.num.natAbs=a)(h3:q.den=d)(e:r= .ag [vI 0,vI 0, .pt [.v (.bool n),dN a,dN d]])(G:Gh)(y:Value)(k:Is G r y):Is G (eF q) y:=by
 subst e h1 h2 h3;obtain⟨l,rfl,g⟩:=d9.1 k;obtain⟨y1,l1,rfl,k1,g1⟩:=aI.1 g;obtain⟨y2,l2,rfl,k2,g2⟩:=aI.1 g1;obtain⟨y3,l3,rfl,k3,g3⟩:=aI.1 g2;exact d9.2 ⟨_,J, .cons (by unfold dw;rw[if_pos h];exact k1) (.cons (by unfold dx;rw[if_pos h];exact k2) (.cons (ur.2 (.inr ⟨decide_eq_true h,k3⟩)) g3))⟩
def ES(G:Gh)(y:Value)(k:Is G (.ag [vI 0,vI 0, .v (.pointer none)]) y):Is G (eF 0) y:=uq (fun h=>HC h J) J J J G y k
def MI(h:m.natAbs<4611686018427387904)(G:Gh)(y:Value)(k:Is G (.ag [vI m,vI 0, .v (.pointer none)]) y):Is G (eF (m:Rat)) y:=
 uq (fun k=>k ⟨by simpa using h,by rw[oX];decide⟩) (oZ m) (by rw[oX];rfl) J G y k
def Nm(hd:0<d):(mkRat (zv n a) d).num=zv n (a/Nat.gcd a d)/\(mkRat (zv n a) d).den=d/Nat.gcd a d:=by
 obtain⟨h1,h2⟩:=Qj (m:=zv n a) hd;rw[sA] at h1 h2;exact⟨by rw[h1,aF6 (kS _ _)],h2⟩
def QQ(hd:0<d)(ha:a'=a/Nat.gcd a d)(hd':d'=d/Nat.gcd a d)(h1:a'<4611686018427387904)(h2:d'<4611686018427387904)(G:Gh)(y:Value)(k:Is G (.ag [vI (zv n a'),vI ((d':Int)-1), .v (.pointer none)]) y):Is G (eF (mkRat (zv n a) d)) y:=by
 obtain⟨e1,e2⟩:=Nm (n:=n) (a:=a) hd;rw[<-ha] at e1;rw[<-hd'] at e2;exact uq (fun k=>k ⟨by rw[e1,sA];exact h1,by rw[e2];exact h2⟩) e1 (by rw[e2]) J G y k
def EN(hd:0<d)(ha:a'=a/Nat.gcd a d)(hd':d'=d/Nat.gcd a d)(h: ¬(a'<4611686018427387904/\d'<4611686018427387904))(G:Gh)(y:Value)(k:Is G (.ag [vI 0,vI 0, .pt [.v (.bool (decide (zv n a'<0))),dN (zv n a').natAbs,dN d']]) y):Is G (eF (mkRat (zv n a) d)) y:=by
 obtain⟨e1,e2⟩:=Nm (n:=n) (a:=a) hd;rw[<-ha] at e1;rw[<-hd'] at e2;exact Oa (fun k=>h ⟨by rw[e1,sA] at k;exact k.1,by rw[e2] at k;exact k.2⟩) (by rw[e1]) (by rw[e1]) e2 J G y k
def aKd(hd:0<d)(h: ¬(1:Int)<(bl (Nat.gcd a d):Nat)):Nat.gcd a d=1:=by
 have h1:Nat.gcd a d≠0:=fun e=>by rw[Nat.gcd_eq_zero_iff] at e;omega
 have h2:Nat.gcd a d<2^1:=pi.1 (by omega);omega
def nE:(((bl x:Nat):Int)<=62)↔x<4611686018427387904:=aD5
def PF.ofI{P:Program}{f:FuncId}{ds ds':List DV}(h:PF GB P f ds r)(k: ∀G vs,IsLs G ds' vs->IsLs G ds vs):PF GB P f ds' r:=fun G vs hg hv=>h G vs hg (k G vs hv)
def vE[h:BN a i][k:BN d j](hi:i<=450000000:=by decide)(hj:j<=450000000:=by decide):PF GB prog 154 [eS n a,dN d] (eF (mkRat (zv n a) d)):=by
 refine fn func154 J J ntmps154 J J (fun C=>?_);refine cl J (vd (a:=d) (by omega)) J<|?_;refine cs 13 J J J (fun hg13=>?_) (fun hg13=>?_)
 .
  exact jz rfl (by obtain rfl:=GZ.1 (Int.ofNat.inj hg13);rw[Rat.mkRat_zero];exact ES)
 .
  have hd0:0<d:=by have:= @GZ d;omega
  have hg0:0<Nat.gcd a d:=rK _ hd0;refine cl J (LQ (n:=n) (a:=a) (by omega)) J<|?_;refine br J J J (fun hc17=>?_) (fun hc17=>?_)
  .
   exact jz J (by rw[iX.1 hc17,Rat.zero_mkRat];exact ES)
  .
   refine cl J (Kj (a:=a) (b:=d) (by omega) (by omega)) J<|cl J (vd (a:=Nat.gcd a d) (i:=i+j) (by omega)) J<|?_;refine br J J J (fun hc25=>?_) (fun hc25=>?_)
   .
    obtain⟨a',ea⟩: ∃a',a'=a/Nat.gcd a d:=⟨_,rfl⟩;obtain⟨d',ed⟩: ∃d',d'=d/Nat.gcd a d:=⟨_,rfl⟩;have hba:BN a' i:=ea▸inferInstance;have hbd:BN d' j:=ed▸inferInstance;refine cl (fu:=⟨2⟩) J (OM (a:=a) (b:=Nat.gcd a d) (j:=i+j) hg0 (by omega) (by omega)) J<|?_;refine ak 31 (.d (dN a')) J (by rw[ea]) ?_;refine gx J<|cl (fu:=⟨2⟩) J (OM (a:=d) (b:=Nat.gcd a d) (j:=i+j) hg0 (by omega) (by omega)) J<|?_;refine ak 39 (.d (dN d')) J (by rw[ed]) ?_;refine gx J<|cl J (vd (h:=hba) (by omega)) J<|?_;refine cs 46 J J J (fun hg46=>?_) (fun hg46=>?_)
    .
     refine cl J (vd (h:=hbd) (by omega)) J<|?_;refine br J J J (fun hc50=>?_) (fun hc50=>?_)
     .
      have hs2:=nE.1 hc50;refine cl J (Ph (nE.1 hg46)) J<|cl J (JL (by have:=nE.1 hc50;omega)) J<|?_;exact jz J (QQ hd0 ea ed (nE.1 hg46) (nE.1 hc50))
     .
      refine cl J (z6 (neg:=n) (h:=hba) (by omega)) J<|cl J (Aw (h:=hbd) (by omega)) J<|fz 71 J J<|?_;exact jz J (EN hd0 ea ed (fun e=>hc50 (nE.2 e.2)))
    .
     refine cl J (z6 (neg:=n) (h:=hba) (by omega)) J<|cl J (Aw (h:=hbd) (by omega)) J<|fz 71 J J<|?_;exact jz J (EN hd0 ea ed (fun e=>hg46 (nE.2 e.1)))
   .
    have hg1:=aKd hd0 hc25;have ea:a=a/Nat.gcd a d:=by rw[hg1,tL]
    have ed:d=d/Nat.gcd a d:=by rw[hg1,tL]
    have hba:=h;have hbd:=k;refine cl J (vd (h:=hba) (by omega)) J<|?_;refine cs 46 J J J (fun hg46=>?_) (fun hg46=>?_)
    .
     refine cl J (vd (h:=hbd) (by omega)) J<|?_;refine br J J J (fun hc50=>?_) (fun hc50=>?_)
     .
      have hs2:=nE.1 hc50;refine cl J (Ph (nE.1 hg46)) J<|cl J (JL (by have:=nE.1 hc50;omega)) J<|?_;exact jz J (QQ hd0 ea ed (nE.1 hg46) (nE.1 hc50))
     .
      refine cl J (z6 (neg:=n) (h:=hba) (by omega)) J<|cl J (Aw (h:=hbd) (by omega)) J<|fz 71 J J<|?_;exact jz J (EN hd0 ea ed (fun e=>hc50 (nE.2 e.2)))
    .
     refine cl J (z6 (neg:=n) (h:=hba) (by omega)) J<|cl J (Aw (h:=hbd) (by omega)) J<|fz 71 J J<|?_;exact jz J (EN hd0 ea ed (fun e=>hg46 (nE.2 e.1)))
def ux[h:BI m i](hi:i<=400000000:=by decide):PF GB prog 267 [eI m] (eF (m:Rat)):=by
 refine fn func267 J J ntmps267 J J (fun C=>?_);refine rf (fu:=⟨0⟩) J J<|?_;refine ak 4 (.d (dN 1)) J (by unfold dN;rw[Bb];rfl) ?_;refine gx J<|cl J (vE (n:=decide (m<0)) (a:=m.natAbs) (d:=1) (by omega)) J<|?_;exact rz J (by rw[mo,show mkRat m 1=(m:Rat) from sN ..];rfl)
def uB:PF GB prog 268 [eF q] (vB (decide (q=0))):=by
 refine fn func268 J J ntmps268 J J (fun C=>?_);refine cs 6 J J J (fun hg6=>?_) (fun hg6=>?_)
 .
  exact rz J (by rw[n5 (uc hg6)];show DV.v (.bool (decide _))= .v (.bool _);congr 2;exact decide_eq_decide.2 ⟨fun e=>mQ.1 e,fun e=>by rw[e];rfl⟩)
 .
  exact rz J (by rw[decide_eq_false (HC (V5 hg6))];rfl)
def BS(h:m.natAbs<9223372036854775808:=by omega):PF GB prog 230 [vI m] (.v (.int .u64 (m.natAbs:Nat))):=by
 refine fn func230 J J ntmps230 J J (fun C=>?_);refine br J J J (fun hc4=>?_) (fun hc4=>?_)
 .
  exact rz J (by show DV.v (.int _ _)=_;congr 2;omega)
 .
  exact rz J (by show DV.v (.int _ _)=_;congr 2;omega)
def sD[h:BQ q i](hi:i<=900000000:=by decide):PF GB prog 153 [eF q] (dN q.den):=by
 refine fn func153 J J ntmps153 J J (fun C=>?_);refine br (v1:=fun hc5=>by simp only[aj];exact hc5) (fu2:=⟨6⟩) J J J (fun hc5=>?_) (fun hc5=>?_)
 .
  refine cl J (Aw (a:=q.den) (by omega)) J<|?_;exact rz J J
 .
  have hd:=q.den_nz;have hs:=ra (pq hc5);refine ak 13 (.d (vI ((q.den:Int)-1))) J (by rw[qq (pq hc5)]) ?_;refine gx (fu:=⟨2⟩) J<|?_;refine ak 15 (.d (.v (.int .u64 (q.den:Nat)))) J (by congr 3;omega) ?_;refine gx J<|cl J (I5 (a:=q.den)) J<|?_;exact rz J J
def tO[h:BQ q i](hi:i<=900000000:=by decide):PF GB prog 152 [eF q] (eI q.num):=by
 refine fn func152 J J ntmps152 J J (fun C=>?_);refine br (v1:=fun hc5=>by simp only[aj];exact hc5) (fu2:=⟨6⟩) J J J (fun hc5=>?_) (fun hc5=>?_)
 .
  refine cl J (z6 (neg:=decide (q.num<0)) (a:=q.num.natAbs) (by omega)) J<|?_;exact rz J (by rw[mo];rfl)
 .
  have hs:=qB (pq hc5);refine ak 13 (.d (vI q.num)) J (by rw[n5 (pq hc5)]) ?_;refine gx J<|cl J (GH) J<|?_;exact rz J J
def pI[h:BQ q i](hi:i<=900000000:=by decide):PF GB prog 203 [eF q] (eF (-q)):=by
 refine fn func203 J J ntmps203 J J (fun C=>?_);refine br (v1:=fun hc5=>by simp only[aj];exact hc5) (fu2:=⟨6⟩) J J J (fun hc5=>?_) (fun hc5=>?_)
 .
  refine cl (fu:=⟨6⟩) (hv:=by simp only[aj];exact hc5) J (Ui (m:=q.num) (by omega)) J<|Ec J J<|?_;exact jz J (Oa (q:= -q) (fun k=>bgT hc5 (by rw[oK,jR,tZ] at k;exact k)) (by rw[oK]) (by rw[oK]) (tZ q) J)
 .
  have hs:=qB (pq hc5);refine ak 21 (.d (vI q.num)) J (by rw[n5 (pq hc5)]) ?_;refine gx J<|?_;exact jz J (uq (q:= -q) (fun k=>k (by rw[oK,jR,tZ];exact⟨hs,ra (pq hc5)⟩)) (by rw[oK]) (by rw[tZ,qq (pq hc5)]) J)
def m8[h:BQ q i](hi:i<=900000000:=by decide):PF GB prog 227 [eF q] (vI q.num.sign):=by
 refine fn func227 J J ntmps227 J J (fun C=>?_);refine br (v1:=fun hc3=>by simp only[aj];exact hc3) J J J (fun hc3=>?_) (fun hc3=>?_)
 .
  refine cl J (LQ (n:=decide (q.num<0)) (a:=q.num.natAbs) (by omega)) J<|?_;exact rz J (by rw[mo];rfl)
 .
  have hs:=n5 (pq hc3);refine br J J J (fun hc13=>?_) (fun hc13=>?_)
  .
   exact rz J (by rw[fZ (by omega)];rfl)
  .
   refine br J J J (fun hc17=>?_) (fun hc17=>?_)
   .
    exact rz J (by rw[fS (by omega)];rfl)
   .
    exact rz J (by rw[show q.num=0 by omega];rfl)
end Go.Sx
end
