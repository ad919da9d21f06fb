/- Part 10 of a proof. -/
import Derived.Test.YtopfgminkdfpkaaGreatDoorMk9
set_option linter.unusedSimpArgs false
set_option maxHeartbeats 2000000
set_option maxRecDepth 100000
set_option linter.unusedVariables false
section
namespace Go.Sx
open Go Go.Proofs Tryz
variable {GB:Gh}
def ayU(p q:Int):Nat:=(BitVec.ofInt 32 p &&& BitVec.ofInt 32 q).toNat
def orN(p q:Int):Nat:=(BitVec.ofInt 32 p ||| BitVec.ofInt 32 q).toNat
def awq(p q:Int):Nat:=(BitVec.ofInt 32 p^^^BitVec.ofInt 32 q).toNat
theorem apL{ds:List Nat}{n:Nat}(h:0<n∧n≤ds.length)(hz:ds.getD (n-1) 0=0):trimD (ds.take n)=trimD (ds.take (n-1)):=by
 obtain⟨m,rfl⟩: ∃m,n=m+1:=⟨n-1,by omega⟩
 rw[fX (by omega),kS]
 rw[kS,aK,aJ (by omega)] at hz
 simp only[jW] at hz
 rw[hz,agV]
theorem anL{ds:List Nat}{n:Nat}(h:n≤ds.length)(hz:0<n→ds.getD (n-1) 0≠0):trimD (ds.take n)=ds.take n:=by
 rcases dZ n with h0|h0
 ·subst h0;simp[trimD]
 ·obtain⟨m,rfl⟩: ∃m,n=m+1:=⟨n-1,by omega⟩
  have hz:=hz h0
  rw[fX (by omega)]
  rw[kS,aK,aJ (by omega)] at hz
  exact afX (by simpa using hz)
theorem auy{x y c:Nat}(hx:x<4294967296)(hy:y<4294967296)(hc:c≤1):PF GB prog 257 [.v (.int .u32 (x:Int)), .v (.int .u32 (y:Int)), .v (.int .u32 (c:Int))] (.tp [.v (.int .u32 (((x+y+c)%4294967296:Nat):Int)), .v (.int .u32 (((x+y+c)/4294967296:Nat):Int))]):=by
 refine fn (hv:=by simp only[aag];exact⟨⟨⟨⟨⟨by omega,by omega⟩,by omega⟩,by omega⟩,by omega⟩,(by decide)⟩) func257 J J ntmps257 J J (fun C=>?_)
 exact rz rfl (by
  have e1:((x:Int)+y+c)%4294967296=(((x+y+c)%4294967296:Nat):Int):=by omega
  have e2:((x:Int)+y+c).fdiv (2^min (32:Int).toNat IntKind.u64.bits)%4294967296=(((x+y+c)/4294967296:Nat):Int):=by
   rw[show(2:Int)^min (32:Int).toNat IntKind.u64.bits=((4294967296:Nat):Int) from rfl,fZ _ (by decide)]
   omega
  show DV.tp [.v (.int _ _), .v (.int _ _)]=_
  rw[e1,e2])
theorem ahf(n:Nat)(h:n<4294967296):(BitVec.ofInt 32 (n:Int)).msb=decide (2147483648≤n):=by
 rw[show BitVec.ofInt 32 (n:Int)=BitVec.ofNat 32 n from BitVec.ofInt_natCast ..]
 rw[BitVec.msb_eq_decide,BitVec.toNat_ofNat,dY (by simpa using h)]
theorem apM(b:BitVec 32):b.toNat/2147483648=if b.msb then 1 else 0:=by
 have:=b.isLt
 rw[BitVec.msb_eq_decide]
 simp only[decide_eq_true_eq,Nat.reduceSub,Nat.reducePow] at*
 split<;>omega
theorem ahs(b:BitVec 32):BitVec.ofInt 32 (b.toNat:Int)=b:=by rw[BitVec.ofInt_natCast,BitVec.ofNat_toNat,BitVec.setWidth_eq]
theorem ank{x y c:Nat}(hx:x<4294967296)(hy:y<4294967296)(hc:c≤1):
  ((orN (ayU (awq IntKind.u32.max x:Nat) y:Nat) (ayU (awq IntKind.u32.max (awq x y:Nat):Nat) (IntKind.u32.wrap (IntKind.u32.wrap ((x:Int)-y)-c)):Nat):Nat):Int).fdiv (2^min (31:Int).toNat IntKind.u32.bits)=(((if x<y+c then 1 else 0):Nat):Int):=by
 rw[show((2:Int)^min (31:Int).toNat IntKind.u32.bits)=((2147483648:Nat):Int) from rfl,fZ _ (by decide),←nJ]
 congr 1
 have hd: ∃d:Nat,d<4294967296∧IntKind.u32.wrap (IntKind.u32.wrap ((x:Int)-y)-c)=(d:Int)∧((x≥y+c∧d=x-(y+c))∨(x<y+c∧d=x+4294967296-(y+c))):=by
  rw[acd,acd]
  refine⟨((((x:Int)-y)%4294967296-c)%4294967296).toNat,by omega,by omega,by omega⟩
 obtain⟨d,hd1,hd2,hd3⟩:=hd
 rw[hd2]
 unfold orN ayU awq
 simp only[ahs]
 rw[apM]
 simp only[BitVec.msb_or,BitVec.msb_and,BitVec.msb_xor,ahf x hx,ahf y hy,ahf d hd1]
 have h1:(BitVec.ofInt 32 IntKind.u32.max).msb=true:=by decide
 rw[h1]
 rcases fN x 2147483648 with a|a<;>rcases fN y 2147483648 with b|b<;>rcases fN d 2147483648 with e|e<;>
  simp[Nat.not_le.2, *]<;>(first|omega|(split<;>omega))
theorem aq9{x y c:Nat}(hx:x<4294967296)(hy:y<4294967296)(hc:c≤1):IntKind.u32.wrap (IntKind.u32.wrap ((x:Int)-y)-c)=(((if x<y+c then x+4294967296-(y+c) else x-(y+c)):Nat):Int):=by
 rw[acd,acd]
 split<;>omega
theorem atY{x y c:Nat}(hx:x<4294967296)(hy:y<4294967296)(hc:c≤1):PF GB prog 258 [.v (.int .u32 (x:Int)), .v (.int .u32 (y:Int)), .v (.int .u32 (c:Int))] (.tp [.v (.int .u32 (((if x<y+c then x+4294967296-(y+c) else x-(y+c)):Nat):Int)), .v (.int .u32 (((if x<y+c then 1 else 0):Nat):Int))]):=by
 refine fn (fu:=⟨10⟩) func258 J J ntmps258 J J (fun C=>?_)
 refine sw (fu:=⟨1⟩) _ rfl (acd _).symm rfl<|sw (fu:=⟨6⟩) _ rfl (acd _).symm rfl<|nt (fu:=⟨4⟩) _ J J J<|xr (fu:=⟨0⟩) _ J J J<|nt _ J J J<|?_
 exact rz rfl (by have h1:=ank hx hy hc;unfold orN ayU awq at h1;show DV.tp [.v (.int _ _), .v (.int _ _)]=_;rw[h1,aq9 hx hy hc])
theorem afn{ds:List Nat}(hl:ds.length≤1125899906842624):PF GB prog 196 [dLi ds] (dLi (trimD ds)):=by
 refine fn func196 J J ntmps196 J J (fun C=>?_)
 refine lp (X:=Nat) (fun n=>[(0, .d (dLi ds)),(3, .d (vI (n:Nat)))]) (fun n=>[]) (fun n=>n≤ds.length∧trimD ds=trimD (ds.take n)) (fun n=>n) ds.length rfl ⟨bQ _,by rw[nY]⟩ (fun _=>rfl) (fun n hk=>?_)
 obtain⟨h1,h2⟩:=hk
 refine cs 8 J J J (fun hg8=>?_) (fun hg8=>?_)
 ·
  refine ix _ rfl (aay (k:=n-1) (by omega) (by omega)) rfl<|?_
  refine br J J J (fun hc15=>?_) (fun hc15=>?_)
  ·
   have hz:ds.getD (n-1) 0=0:=by omega
   exact at_ (n-1) ⟨⟨by omega,by rw[h2,apL (by omega) hz]⟩,(by omega)⟩
  ·
   refine sc' 0 n _ J J J J (ak6 _) (by omega) (by simp;omega) rfl<|?_
   exact rz rfl (by have:=anL h1 (fun _ h=>hc15 (by omega));rw[←h2] at this;show DV.sl _=_;simp[dLi,this])
 ·
  refine sc' 0 n _ J J J J (ak6 _) (by omega) (by simp;omega) rfl<|?_
  exact rz rfl (by obtain rfl:n=0:=(by omega);show DV.sl _=_;simp[dLi,h2,trimD])
theorem act{a k:Nat}(h:a<2^k)(hk:k≤1000000000):(dg a).length≤100000000:=by have:=aa3 h;omega
theorem aaQ(a:Nat):dv (dg a)=a:=(aaD a).1
theorem aev(a:Nat):DOk (dg a):=(aaD a).2.1
theorem aax(ds:List Nat):(ds.map dU).length=ds.length:=aX ..
theorem ab0{ds:List Nat}{n:Nat}(h:ds.length≤n):ds.take n=ds:=aR h
theorem ac7{ds:List Nat}{i:Nat}(h:ds.length≤i):ds.getD i 0=0:=by
 rw[aK,cV h];rfl
theorem adP{ds:List Nat}{n:Nat}(h:DOk ds)(e:dv ds=n):dLi (trimD ds)=dN n:=by rw[azA h,e]
theorem ak3{a b:Nat}(h:a<b):afE a b= -1:=by unfold afE;rw[if_pos h]
theorem akR{a b:Nat}(h:b<a):afE a b=1:=by unfold afE;rw[if_neg (by omega),if_neg (by omega)]
theorem auY{a b:Nat}(h:a=b):afE a b=0:=by unfold afE;rw[if_neg (by omega),if_pos h]
theorem apF(m n:Nat):Int.sign ((m:Int)-n)=afE m n:=by
 unfold afE
 split
 ·exact dJ (by omega)
 ·split
  ·rw[show(m:Int)-n=0 by omega];rfl
  ·exact dV (by omega)
theorem arI{a b:Nat}(h:(dg a).length≠(dg b).length):afE (dg a).length (dg b).length=afE a b:=by
 rcases Nat.lt_or_gt_of_ne h with h|h
 ·have:=ab9 (aev a) (aaD b).2.2 h
  rw[aaQ,aaQ] at this
  rw[ak3 h,ak3 this]
 ·have:=ab9 (aev b) (aaD a).2.2 h
  rw[aaQ,aaQ] at this
  rw[akR h,akR this]
theorem ak7{a b i:Nat}(hl:(dg a).length=(dg b).length)(hi:i<(dg a).length)(hs:(dg a).drop (i+1)=(dg b).drop (i+1)):
  ((dg a).getD i 0<(dg b).getD i 0→a<b)∧((dg b).getD i 0<(dg a).getD i 0→b<a)∧((dg a).getD i 0=(dg b).getD i 0→(dg a).drop i=(dg b).drop i):=by
 refine⟨fun h=>?_,fun h=>?_,fun h=>?_⟩
 ·have:=amS (aev a) (aev b) i hi (by omega) hl hs h
  rwa [aaQ,aaQ] at this
 ·have:=amS (aev b) (aev a) i (by omega) hi hl.symm hs.symm h
  rwa [aaQ,aaQ] at this
 ·rw[bT hi,bT (by omega:i<(dg b).length),hs]
  rw[aK,aK,aJ hi,aJ (by omega:i<(dg b).length)] at h
  simp only[jW] at h
  rw[h]
theorem awm{z:Int}:PF GB prog 245 [vI z] (vI z.sign):=by
 refine fn func245 J J ntmps245 J J (fun C=>?_)
 refine br J J J (fun hc4=>?_) (fun hc4=>?_)
 ·
  exact rz rfl (by show DV.v (.int _ 1)=DV.v (.int _ _);rw[dV (by omega)])
 ·
  refine br J J J (fun hc6=>?_) (fun hc6=>?_)
  ·
   exact rz rfl (by show DV.v (.int _ (-1))=DV.v (.int _ _);rw[dJ (by omega)])
  ·
   exact rz rfl (by show DV.v (.int _ 0)=DV.v (.int _ _);rw[show z=0 by omega];rfl)
theorem aqg(u:Nat):dv [u%4294967296,u/4294967296]=u:=by simp only[dv];omega
theorem awV{u:Nat}(h:u<18446744073709551616):DOk [u%4294967296,u/4294967296]:= .cons (by omega) (.cons (by omega) .nil)
theorem aqb(u:Nat):(u:Int).fdiv (2^min (32:Int).toNat IntKind.u64.bits)=((u/4294967296:Nat):Int):=by
 rw[show(2:Int)^min (32:Int).toNat IntKind.u64.bits=((4294967296:Nat):Int) from rfl,fZ _ (by decide)];rfl
theorem aft{u:Nat}(hu:u<18446744073709551616):PF GB prog 202 [.v (.int .u64 (u:Int))] (dN u):=by
 refine fn (fu:=⟨11⟩) (hv:=by simp only[aag];exact(by decide)) func202 J J ntmps202 J J (fun C=>?_)
 refine eqF 6 (.d (.v (.int .u64 (u/4294967296:Nat)))) rfl (by rw[aqb]) ?_
 refine gx rfl<|rf (fu:=⟨0⟩) J J<|?_
 refine eqF 8 (.d (dLi [u%4294967296,u/4294967296])) rfl (by show FX.d (.sl [.v (.int _ _), .v (.int _ _)])= .d (.sl [.v (.int _ _), .v (.int _ _)]);congr 6;omega) ?_
 refine gx rfl<|cl rfl (afn (ds:=[u%4294967296,u/4294967296]) (by simp)) rfl<|?_
 exact rz rfl (adP (awV hu) (aqg u))
theorem avD:PF GB prog 198 [] (dN 1):=by
 refine fn func198 J J ntmps198 J J (fun C=>?_)
 refine rf J J<|?_
 exact rz rfl (by unfold dN;rw[akd];rfl)
theorem aof{a b:Nat}(ha:(dg a).length≤100000000)(hb:(dg b).length≤100000000):PF GB prog 197 [dN a,dN b] (vI (afE a b)):=by
 have hla:=aax (dg a)
 have hlb:=aax (dg b)
 refine fn func197 J J ntmps197 J J (fun C=>?_)
 refine br J J J (fun hc10=>?_) (fun hc10=>?_)
 ·
  refine cl rfl awm rfl<|?_
  exact rz rfl (by show DV.v (.int _ _)=DV.v (.int _ _);rw[hla,hlb,apF,arI (by omega)])
 ·
  have hl:(dg a).length=(dg b).length:=by omega
  refine lp (X:=Nat) (fun k=>[(0, .d (dN a)),(1, .d (dN b)),(5, .d (vI ((k:Nat)-1)))]) (fun k=>[]) (fun k=>k≤(dg a).length∧(dg a).drop k=(dg b).drop k) (fun k=>k) (dg a).length rfl ⟨bQ _,by rw[iU,hl,iU]⟩ (fun _=>rfl) (fun k hk=>?_)
  obtain⟨h1,h2⟩:=hk
  refine br J J J (fun hc21=>?_) (fun hc21=>?_)
  ·
   obtain⟨k,rfl⟩: ∃m,k=m+1:=⟨k-1,by omega⟩
   refine ix _ rfl (aay (k:=k) (by omega) (by omega)) rfl<|ix _ rfl (aay (k:=k) (by omega) (by omega)) rfl<|?_
   refine br J J J (fun hc32=>?_) (fun hc32=>?_)
   ·
    exact rz rfl (by show DV.v (.int _ 1)=DV.v (.int _ _);rw[akR ((ak7 hl (by omega) h2).2.1 (by omega))])
   ·
    refine ix _ rfl (aay (k:=k) (by omega) (by omega)) rfl<|ix _ rfl (aay (k:=k) (by omega) (by omega)) rfl<|?_
    refine br J J J (fun hc41=>?_) (fun hc41=>?_)
    ·
     exact rz rfl (by show DV.v (.int _ (-1))=DV.v (.int _ _);rw[ak3 ((ak7 hl (by omega) h2).1 (by omega))])
    ·
     exact at_ k ⟨⟨by omega,(ak7 (i:=k) hl (by omega) h2).2.2 (by omega)⟩,(by omega)⟩
  ·
   exact rz rfl (by show DV.v (.int _ 0)=DV.v (.int _ _);rw[auY];obtain rfl:k=0:=(by omega);rw[iX,iX] at h2;rw[←aaQ a,h2,aaQ])
theorem avb{A B W:List Nat}{i c:Nat}(hi:i<W.length)(h:dv (W.take i)+4294967296^i*c=dv (A.take i)+dv (B.take i)):
  dv ((W.set i ((A.getD i 0+B.getD i 0+c)%4294967296)).take (i+1))+4294967296^(i+1)*((A.getD i 0+B.getD i 0+c)/4294967296)=dv (A.take (i+1))+dv (B.take (i+1)):=by
 rw[aa5 hi,aar A,aar B,dS,show A.getD i 0+B.getD i 0+c=c+A.getD i 0+B.getD i 0 by omega]
 exact alM h
theorem aud{a b n:Nat}{W:List Nat}{c:Nat}(hn:n=max (dg a).length (dg b).length)(hl:W.length=n+1)(h:dv (W.take n)+4294967296^n*c=dv ((dg a).take n)+dv ((dg b).take n)):dv (W.set n c)=a+b:=by
 have e:=aa5 (ws:=W) (k:=n) (d:=c) (by omega)
 rw[ab0 (by rw[aY];omega)] at e
 rw[e,h,ab0 (by omega),ab0 (by omega),aaQ,aaQ]
theorem az1{a b ia ib:Nat}[ha:BN a ia][hb:BN b ib](hi:ia≤1000000000:=by decide)(hj:ib≤1000000000:=by decide):PF GB prog 216 [dN a,dN b] (dN (a+b)):=by
 have hla:=aax (dg a)
 have hlb:=aax (dg b)
 have hba:=act ha.h hi
 have hbb:=act hb.h hj
 refine fn (fu:=⟨12⟩) func216 J J ntmps216 J J (fun C=>?_)
 obtain⟨n,hn⟩: ∃n,n=max (dg a).length (dg b).length:=⟨_,rfl⟩
 refine eqF 15 (.d (vI (n:Nat))) rfl (by show FX.d (.v (.int _ _))= .d (.v (.int _ _));congr 3;split<;>omega) ?_
 refine gx rfl<|mk ((List.replicate (n+1) 0).map dU) J J (by rw[←adN];rfl) rfl<|?_
 refine lp (X:=List Nat×Nat×Nat) (fun⟨W,c,i⟩=>[(0, .d (dN a)),(1, .d (dN b)),(5, .d (vI (n:Nat))),(6, .rw 18),(7, .d (.v (.int .u32 (c:Nat)))),(8, .d (vI (i:Nat)))]) (fun⟨W,c,i⟩=>[(18,some (.b 262 1 (W.map dU) true))]) (fun⟨W,c,i⟩=>W.length=n+1∧DOk W∧c≤1∧i≤n∧dv (W.take i)+4294967296^i*c=dv ((dg a).take i)+dv ((dg b).take i)) (fun⟨W,c,i⟩=>n-i) ⟨List.replicate (n+1) 0,0,0⟩ rfl ⟨by simp, .replicate _,by omega,by omega,by simp[dv]⟩ (fun _=>rfl) (fun⟨W,c,i⟩ hk=>?_)
 dsimp only at hk⊢
 obtain⟨h1,h2,h3,h4,h5⟩:=hk
 have hlw:=aax W
 have hda:=acA a i
 have hdb:=acA b i
 refine br (fu1:=⟨11⟩) J J J (fun hc21=>?_) (fun hc21=>?_)
 ·
  refine mg (fu:=⟨1⟩) (X:=Unit) (fun _=>[(0, .d (dN a)),(1, .d (dN b)),(5, .d (vI (n:Nat))),(6, .rw 18),(7, .d (.v (.int .u32 (c:Nat)))),(8, .d (vI (i:Nat))),(9, .d (dU ((dg a).getD i 0))),(10, .d (.v (.int .u32 0)))]) (fun _=>[(18,some (.b 262 1 (W.map dU) true))]) (fun _=>True) [0,1,5,6,7,8,9,10] [18] rfl ?_ (fun _=>rfl) (fun _ hm=>?_)
  ·
   refine gx rfl<|?_
   refine br J J J (fun hc27=>?_) (fun hc27=>?_)
   ·
    refine ix _ rfl (aa4 (by omega)) rfl<|?_
    exact at_ () trivial
   ·
    refine eqF 9 (.d (dU ((dg a).getD i 0))) rfl (by rw[ac7 (by omega)];rfl) ?_
    exact at_ () trivial
  ·
   refine mg (X:=Unit) (fun _=>[(0, .d (dN a)),(1, .d (dN b)),(5, .d (vI (n:Nat))),(6, .rw 18),(7, .d (.v (.int .u32 (c:Nat)))),(8, .d (vI (i:Nat))),(9, .d (dU ((dg a).getD i 0))),(10, .d (dU ((dg b).getD i 0)))]) (fun _=>[(18,some (.b 262 1 (W.map dU) true))]) (fun _=>True) [0,1,5,6,7,8,9,10] [18] rfl ?_ (fun _=>rfl) (fun _ hm=>?_)
   ·
    refine gx rfl<|?_
    refine br J J J (fun hc35=>?_) (fun hc35=>?_)
    ·
     refine ix _ rfl (aa4 (by omega)) rfl<|?_
     exact at_ () trivial
    ·
     refine eqF 10 (.d (dU ((dg b).getD i 0))) rfl (by rw[ac7 (by omega)];rfl) ?_
     exact at_ () trivial
   ·
    refine cl rfl (auy (by omega) (by omega) (by omega)) rfl<|sb _ ((W.set i (((dg a).getD i 0+(dg b).getD i 0+c)%4294967296)).map dU) rfl (aa4 (by omega)) rfl (by rw[←ac2];rfl) rfl<|?_
    exact at_ ⟨W.set i (((dg a).getD i 0+(dg b).getD i 0+c)%4294967296),((dg a).getD i 0+(dg b).getD i 0+c)/4294967296,i+1⟩ (by dsimp only;exact⟨⟨by simpa using h1,h2.set _ (by omega),by omega,by omega,avb (by omega) h5⟩,(by omega)⟩)
 ·
  obtain rfl:i=n:=by omega
  refine sb _ ((W.set i c).map dU) rfl (aa4 (by omega)) rfl (by rw[←ac2];rfl) rfl<|fz 18 J J<|cl rfl (afn (ds:=W.set i c) (by simp;omega)) rfl<|?_
  exact rz rfl (adP (h2.set _ (by omega)) (aud hn h1 h5))
theorem art{A B W:List Nat}{i c d c2:Nat}(hA:DOk A)(hB:DOk B)(hi:i<W.length)(hc:c≤1)(h:dv (W.take i)+dv (B.take i)=dv (A.take i)+4294967296^i*c)
  (hd:d=if A.getD i 0<B.getD i 0+c then A.getD i 0+4294967296-(B.getD i 0+c) else A.getD i 0-(B.getD i 0+c))(hc2:c2=if A.getD i 0<B.getD i 0+c then 1 else 0):
  dv ((W.set i d).take (i+1))+dv (B.take (i+1))=dv (A.take (i+1))+4294967296^(i+1)*c2:=by
 have h1:=hA.get i
 have h2:=hB.get i
 rw[aa5 hi,aar A,aar B,dS]
 split at hd
 ·rename_i q
  rw[if_pos q] at hc2
  subst hc2 hd
  rw[iZ (B.getD i 0) c]
  exact apz h (by omega) (by omega)
 ·rename_i q
  rw[if_neg q] at hc2
  subst hc2 hd
  rw[iZ (B.getD i 0) c]
  exact atM h (by omega)
theorem arf{a b c:Nat}{W:List Nat}(hw:DOk W)(hl:W.length=(dg a).length)(hb:b≤a)(h:dv (W.take (dg a).length)+dv ((dg b).take (dg a).length)=dv ((dg a).take (dg a).length)+4294967296^(dg a).length*c):dv W=a-b:=by
 have hlb:(dg b).length≤(dg a).length:=by
  rcases fN (dg a).length (dg b).length with q|q
  ·have:=ab9 (aev a) (aaD b).2.2 q
   rw[aaQ,aaQ] at this
   omega
  ·exact q
 rw[ab0 (by omega),ab0 hlb,ab0 (bQ _),aaQ,aaQ] at h
 have h2:=adq hw
 rw[hl] at h2
 rcases dZ c with q|q
 ·subst q;omega
 ·have:4294967296^(dg a).length*1≤4294967296^(dg a).length*c:=dW _ q
  omega
theorem aoW{a b ia:Nat}[ha:BN a ia](hb:b≤a)(hi:ia≤1000000000:=by decide):PF GB prog 217 [dN a,dN b] (dN (a-b)):=by
 have hla:=aax (dg a)
 have hlb:=aax (dg b)
 have hba:=act ha.h hi
 refine fn (fu:=⟨9⟩) func217 J J ntmps217 J J (fun C=>?_)
 refine eqF 10 (.d (vI ((dg a).length:Nat))) rfl (by rw[hla];rfl) ?_
 refine gx rfl<|mk (fu:=⟨13⟩) ((List.replicate (dg a).length 0).map dU) J J (by rw[←adN];rfl) rfl<|?_
 refine eqF 13 (.d (vI ((dg a).length:Nat))) rfl (by rw[hla];rfl) ?_
 refine gx rfl<|?_
 refine lp (X:=List Nat×Nat×Nat) (fun⟨W,c,i⟩=>[(0, .d (dN a)),(1, .d (dN b)),(5, .rw 11),(6, .d (.v (.int .u32 (c:Nat)))),(13, .d (vI ((dg a).length:Nat))),(14, .d (vI (i:Nat)))]) (fun⟨W,c,i⟩=>[(11,some (.b 262 1 (W.map dU) true))]) (fun⟨W,c,i⟩=>W.length=(dg a).length∧DOk W∧c≤1∧i≤(dg a).length∧dv (W.take i)+dv ((dg b).take i)=dv ((dg a).take i)+4294967296^i*c) (fun⟨W,c,i⟩=>(dg a).length-i) ⟨List.replicate (dg a).length 0,0,0⟩ rfl ⟨by simp, .replicate _,by omega,by omega,by simp[dv]⟩ (fun _=>rfl) (fun⟨W,c,i⟩ hk=>?_)
 dsimp only at hk⊢
 obtain⟨h1,h2,h3,h4,h5⟩:=hk
 have hlw:=aax W
 have hda:=acA a i
 have hdb:=acA b i
 refine br (fu1:=⟨16⟩) J J J (fun hc15=>?_) (fun hc15=>?_)
 ·
  refine mg (X:=Unit) (fun _=>[(0, .d (dN a)),(1, .d (dN b)),(5, .rw 11),(6, .d (.v (.int .u32 (c:Nat)))),(13, .d (vI ((dg a).length:Nat))),(14, .d (vI (i:Nat))),(7, .d (vI (i:Nat))),(8, .d (dU ((dg b).getD i 0)))]) (fun _=>[(11,some (.b 262 1 (W.map dU) true))]) (fun _=>True) [0,1,5,6,13,14,7,8] [11] rfl ?_ (fun _=>rfl) (fun _ hm=>?_)
  ·
   refine gx rfl<|?_
   refine br J J J (fun hc20=>?_) (fun hc20=>?_)
   ·
    refine ix _ rfl (aa4 (by omega)) rfl<|?_
    exact at_ () trivial
   ·
    refine eqF 8 (.d (dU ((dg b).getD i 0))) rfl (by rw[ac7 (by omega)];rfl) ?_
    exact at_ () trivial
  ·
   refine ix _ rfl (aa4 (by omega)) rfl<|cl rfl (atY (by omega) (by omega) (by omega)) rfl<|sb _ ((W.set i (if(dg a).getD i 0<(dg b).getD i 0+c then(dg a).getD i 0+4294967296-((dg b).getD i 0+c) else(dg a).getD i 0-((dg b).getD i 0+c))).map dU) rfl (aa4 (by omega)) rfl (by rw[←ac2];rfl) rfl<|?_
   exact at_ ⟨W.set i (if(dg a).getD i 0<(dg b).getD i 0+c then(dg a).getD i 0+4294967296-((dg b).getD i 0+c) else(dg a).getD i 0-((dg b).getD i 0+c)),(if(dg a).getD i 0<(dg b).getD i 0+c then 1 else 0),i+1⟩ (by dsimp only;exact⟨⟨by simpa using h1,h2.set _ (by split<;>omega),by split<;>omega,by omega,art (aev a) (aev b) (by omega) h3 h5 J J⟩,(by omega)⟩)
 ·
  obtain rfl:i=(dg a).length:=by omega
  refine fz 11 J J<|cl rfl (afn (ds:=W) (by omega)) rfl<|?_
  exact rz rfl (adP h2 (arf h2 h1 hb h5))
theorem anh(n:Nat)(a b k:Nat)(ha:a<2^k)(h:a+b*2^k<2^n):(BitVec.ofInt n (a:Int) ||| BitVec.ofInt n ((b*2^k:Nat):Int)).toNat=a+b*2^k:=by
 rw[BitVec.toNat_or,BitVec.ofInt_natCast,BitVec.ofInt_natCast,BitVec.toNat_ofNat,BitVec.toNat_ofNat,dY (by omega),dY (by omega)]
 rw[←jT,Nat.or_comm,←jS ha,jT]
 omega
theorem aoy{x y:Nat}(hx:x<4294967296)(hy:y<4294967296):x*y≤18446744065119617025:=by
 have:=kU (by omega:x≤4294967295) (by omega:y≤4294967295)
 exact this
theorem asK(x y:Nat):(0:Int)≤(x:Int)*(y:Int):=by rw[←gK];omega
theorem asV{x y:Nat}(hx:x<4294967296)(hy:y<4294967296):(x:Int)*(y:Int)≤18446744073709551615:=by
 have:=aoy hx hy
 rw[←gK];omega
theorem awZ{ds:List Nat}(h:ds.length=1):dv ds=ds.getD 0 0:=by
 match ds,h with
 |[d],_=>simp[dv]
theorem ab5{a:Nat}(h:(dg a).length=1):(dg a).getD 0 0=a:=by rw[←awZ h,aaQ]
theorem aoq{ds:List Nat}{j m:Nat}(h:j<m):(ds.take m).getD j 0=ds.getD j 0:=by
 rw[aK,aK,oX,if_pos h]
theorem ajS{W:List Nat}{j m d:Nat}(hj:j<m)(hm:m≤W.length):dv ((W.set j d).take m)+4294967296^j*W.getD j 0=dv (W.take m)+4294967296^j*d:=by
 rw[List.take_set,←aoq (ds:=W) hj]
 exact aed _ _ _ (by rw[cW];omega)
theorem aqV{W:List Nat}{P X Y m i k c y t S:Nat}(hk:i+k<m)(hm:m≤W.length)(h:dv (W.take m)+4294967296^(i+k)*c=P+X*(4294967296^i*S))(ht:t=Y+W.getD (i+k) 0+c)(hY:Y=X*y):
  dv ((W.set (i+k) (t%4294967296)).take m)+4294967296^(i+(k+1))*(t/4294967296)=P+X*(4294967296^i*(S+4294967296^k*y)):=by
 have h1:=ajS (W:=W) (d:=t%4294967296) hk hm
 rw[ht,show Y+W.getD (i+k) 0+c=c+Y+W.getD (i+k) 0 by omega] at h1⊢
 have h2:=alV h1 h
 rw[←iW,dS,h2,hY,dR]
 simp only[cK,bJ,jJ,bX,iW]
theorem aqy{a b:Nat}{W:List Nat}{i c lb:Nat}(hlb:lb=(dg b).length)(hl:i+lb<W.length)(h:dv (W.take (i+lb))+4294967296^(i+lb)*c=dv ((dg a).take i)*b+(dg a).getD i 0*(4294967296^i*dv ((dg b).take lb))):
  dv ((W.set (i+lb) c).take (i+1+lb))=dv ((dg a).take (i+1))*b:=by
 rw[show i+1+lb=i+lb+1 by omega,aa5 hl,h,aar,ab0 (ds:=dg b) (by omega),aaQ b,bN]
 simp only[bJ,jJ,bX]
theorem alu(n j:Nat):(List.replicate n 0).getD j 0=0:=by
 rw[aK,List.getElem?_replicate]
 split<;>rfl
theorem anC{k:Nat}(h:k≤1000000000):IntKind.i64.wrap ((k:Int).tdiv 32)=((k/32:Nat):Int):=by
 rw[show(k:Int).tdiv 32=((k/32:Nat):Int) from rfl,aiF];omega
theorem awX(k:Nat):(k:Int).tmod 32=((k%32:Nat):Int):=rfl
theorem abX{a b ia ib:Nat}[ha:BN a ia][hb:BN b ib](hi:ia≤1000000000:=by decide)(hj:ib≤1000000000:=by decide):PF GB prog 156 [dN a,dN b] (dN (a*b)):=by
 have hla:=aax (dg a)
 have hlb:=aax (dg b)
 have hba:=act ha.h hi
 have hbb:=act hb.h hj
 refine fn (fu:=⟨6⟩) func156 J J ntmps156 J J (fun C=>?_)
 refine mg (fu:=⟨4⟩) (X:=Unit) (fun _=>[(0, .d (dN a)),(1, .d (dN b))]) (fun _=>[]) (fun _=>True) [0,1] [] rfl ?_ (fun _=>rfl) (fun _ hm=>?_)
 ·
  refine gx rfl<|?_
  refine cs 15 J J J (fun hg15=>?_) (fun hg15=>?_)
  ·
   refine br J J J (fun hc19=>?_) (fun hc19=>?_)
   ·
    have hd0:=acA a 0
    have hd1:=acA b 0
    refine ix _ rfl (aay (k:=0) rfl (by omega)) rfl<|ix (hv:=by simp only[aag];exact⟨by omega,⟨(asK _ _),(asV (acA _ _) (acA _ _))⟩⟩) _ rfl (aay (k:=0) rfl (by omega)) rfl<|cl rfl (aft (u:=(dg a).getD 0 0*(dg b).getD 0 0) (by have:=aoy (acA a 0) (acA b 0);omega)) rfl<|?_
    exact rz rfl (by rw[ab5 (by omega),ab5 (by omega)];rfl)
   ·
    exact at_ () trivial
  ·
   exact at_ () trivial
 ·
  refine eqF 31 (.d (vI ((dg a).length:Nat))) rfl (by rw[hla];rfl) ?_
  refine gx (fu:=⟨2⟩) rfl<|?_
  refine eqF 33 (.d (vI ((dg b).length:Nat))) rfl (by rw[hlb];rfl) ?_
  refine gx rfl<|mk (fu:=⟨8⟩) ((List.replicate ((dg a).length+(dg b).length) 0).map dU) J J (by rw[←adN];rfl) rfl<|?_
  refine eqF 37 (.d (vI ((dg a).length:Nat))) rfl (by rw[hla];rfl) ?_
  refine gx rfl<|?_
  refine lp (X:=List Nat×Nat) (fun⟨W,i⟩=>[(0, .d (dN a)),(1, .d (dN b)),(5, .rw 35),(36, .d (dN a)),(37, .d (vI ((dg a).length:Nat))),(38, .d (vI (i:Nat)))]) (fun⟨W,i⟩=>[(35,some (.b 262 1 (W.map dU) true))]) (fun⟨W,i⟩=>W.length=(dg a).length+(dg b).length∧DOk W∧i≤(dg a).length∧dv (W.take (i+(dg b).length))=dv ((dg a).take i)*b) (fun⟨W,i⟩=>(dg a).length-i) ⟨List.replicate ((dg a).length+(dg b).length) 0,0⟩ rfl ⟨by simp, .replicate _,by omega,by rw[List.take_replicate,ab6];simp[dv]⟩ (fun _=>rfl) (fun⟨W,i⟩ hk=>?_)
  dsimp only at hk⊢
  obtain⟨h1,h2,h3,h4⟩:=hk
  refine br J J J (fun hc39=>?_) (fun hc39=>?_)
  ·
   refine ix (fu:=⟨15⟩) _ rfl (aa4 (by omega)) rfl<|?_
   refine eqF 44 (.d (vI ((dg b).length:Nat))) rfl (by rw[hlb];rfl) ?_
   refine gx rfl<|?_
   refine lp (X:=List Nat×Nat×Nat) (fun⟨W2,c,k⟩=>[(0, .d (dN a)),(1, .d (dN b)),(5, .rw 35),(6, .d (vI (i:Nat))),(7, .d (dU ((dg a).getD i 0))),(8, .d (.v (.int .u64 (c:Nat)))),(36, .d (dN a)),(37, .d (vI ((dg a).length:Nat))),(38, .d (vI (i:Nat))),(43, .d (dN b)),(44, .d (vI ((dg b).length:Nat))),(45, .d (vI (k:Nat)))]) (fun⟨W2,c,k⟩=>[(35,some (.b 262 1 (W2.map dU) true))]) (fun⟨W2,c,k⟩=>W2.length=(dg a).length+(dg b).length∧DOk W2∧c<4294967296∧k≤(dg b).length∧dv (W2.take (i+(dg b).length))+4294967296^(i+k)*c=dv ((dg a).take i)*b+(dg a).getD i 0*(4294967296^i*dv ((dg b).take k))) (fun⟨W2,c,k⟩=>(dg b).length-k) ⟨W,0,0⟩ rfl ⟨h1,h2,by omega,by omega,by rw[h4];simp[dv]⟩ (fun _=>rfl) (fun⟨W2,c,k⟩ hk=>?_)
   dsimp only at hk⊢
   obtain⟨g1,g2,g3,g4,g5⟩:=hk
   have hlw:=aax W2
   have hw:=g2.get (i+k)
   have hda:=acA a i
   have hdb:=acA b k
   refine br (fu2:=⟨10⟩) J J J (fun hc46=>?_) (fun hc46=>?_)
   ·
    refine ix (fu:=⟨12⟩) (hv:=by simp only[aag];exact⟨⟨by omega,by omega⟩,⟨(asK _ _),(asV (acA _ _) (acA _ _))⟩⟩) _ rfl (aa4 (by omega)) rfl<|?_
    obtain⟨p,hp⟩: ∃p,p=(dg a).getD i 0*(dg b).getD k 0:=⟨_,rfl⟩
    have hp1:p≤18446744065119617025:=hp▸aoy hda hdb
    refine eqF 54 (.d (.v (.int .u64 (p:Nat)))) rfl (by rw[hp,gK]) ?_
    refine gx rfl<|lb (fu:=⟨4⟩) _ rfl (aay (k:=i+k) (by omega) (by omega)) rfl<|?_
    obtain⟨t,ht⟩: ∃t,t=p+W2.getD (i+k) 0+c:=⟨_,rfl⟩
    refine eqF 64 (.d (.v (.int .u64 (t:Nat)))) rfl (by congr 3;omega) ?_
    refine gx (fu:=⟨11⟩) rfl<|?_
    refine eqF 70 (.d (dU (t%4294967296))) rfl (by show FX.d (.v (.int _ _))= .d (.v (.int _ _));congr 3) ?_
    refine gx rfl<|sb (fu:=⟨5⟩) (hv:=by simp only[aag];exact(by decide)) _ ((W2.set (i+k) (t%4294967296)).map dU) rfl (aay (k:=i+k) (by omega) (by omega)) rfl (by(rw[show((i:Int)+k).toNat=i+k by omega,←ac2])<;>rfl) rfl<|?_
    refine eqF 73 (.d (.v (.int .u64 (t/4294967296:Nat)))) rfl (by rw[aqb]) ?_
    refine gx rfl<|?_
    exact at_ ⟨W2.set (i+k) (t%4294967296),t/4294967296,k+1⟩ (by dsimp only;exact⟨⟨by simpa using g1,g2.set _ (by omega),by omega,by omega,by rw[aar];exact aqV (by omega) (by omega) g5 ht hp⟩,(by omega)⟩)
   ·
    obtain rfl:k=(dg b).length:=by omega
    refine eqF 78 (.d (vI ((dg b).length:Nat))) rfl (by rw[hlb];rfl) ?_
    refine gx (fu:=⟨3⟩) rfl<|?_
    refine eqF 81 (.d (dU c)) rfl (by show FX.d (.v (.int _ _))= .d (.v (.int _ _));congr 3;omega) ?_
    refine gx rfl<|sb _ ((W2.set (i+(dg b).length) c).map dU) rfl (aay (k:=i+(dg b).length) (by omega) (by omega)) rfl (by(rw[show((i:Int)+((dg b).length:Nat)).toNat=i+(dg b).length by omega,←ac2])<;>rfl) rfl<|?_
    exact at_ ⟨W2.set (i+(dg b).length) c,i+1⟩ (by dsimp only;exact⟨⟨by simpa using g1,g2.set _ g3,by omega,aqy rfl (by omega) g5⟩,(by omega)⟩)
  ·
   obtain rfl:i=(dg a).length:=by omega
   refine fz 35 J J<|cl rfl (afn (ds:=W) (by omega)) rfl<|?_
   exact rz rfl (adP h2 (by have:=h4;rw[ab0 (by omega),ab0 (by omega),aaQ] at this;exact this))
theorem ahR(x s:Nat):x*2^s=x*2^s%4294967296+4294967296*(x*2^s/4294967296):=by omega
theorem avE{x s:Nat}(hx:x<4294967296)(hs:s<32):x*2^s/4294967296<2^s:=by
 rw[iR (by decide),bX (2^s)]
 exact kL hx (bQ _) (dX (by decide))
theorem an5{s:Nat}(hs:s<32):2^s*2^(32-s)=4294967296:=by rw[←dR,show s+(32-s)=32 by omega]
theorem auT(x s:Nat)(hs:s<32):x*2^s%4294967296=x%2^(32-s)*2^s:=by
 rw[←an5 hs,bX (2^s),pJ]
theorem asu{x s:Nat}(hx:x<4294967296)(hs:s<32):x*2^s<18446744073709551616:=by
 have h1:2^s≤2^31:=aL (by decide) (by omega)
 have:=kL hx h1 (by decide)
 omega
theorem at5{w x s:Nat}(hw:w<2^s)(hs:s<32):(BitVec.ofInt 32 (w:Int) ||| BitVec.ofInt 32 ((x*2^s%4294967296:Nat):Int)).toNat=w+x*2^s%4294967296:=by
 rw[auT x s hs]
 refine anh 32 _ _ _ hw ?_
 have h1:x%2^(32-s)+1≤2^(32-s):=cS _ (dX (by decide))
 have h2:=aM (2^s) h1
 rw[bX (2^(32-s)),an5 hs,bN,kJ] at h2
 show _<4294967296
 omega
theorem aoU{h:Nat}(hh:h<4294967296):(BitVec.ofInt 32 ((0:Nat):Int) ||| BitVec.ofInt 32 (h:Int)).toNat=h:=by
 have:=anh 32 0 h 0 (by decide) (by simpa using hh)
 simpa using this
theorem apj(k:Nat):2^k=4294967296^(k/32)*2^(k%32):=by
 rw[show(4294967296:Nat)=2^32 from rfl,←mL,←dR,oQ]
theorem getD_set_ne{W:List Nat}{i j d:Nat}(h:i≠j):(W.set i d).getD j 0=W.getD j 0:=by
 rw[aK,aK,List.getElem?_set_ne h]
theorem ag2{W:List Nat}{i d:Nat}(h:i<W.length):(W.set i d).getD i 0=d:=by
 rw[aK,oL h];rfl
theorem asi{A W:List Nat}{k q s i x:Nat}(hq:q=k/32)(hs:s=k%32)(hl:q+i+1<W.length)(hx:x=A.getD i 0)
  (h:dv (W.take (q+i+1))=dv (A.take i)*2^k):
  dv (((W.set (q+i) (W.getD (q+i) 0+x*2^s%4294967296)).set (q+i+1) (x*2^s/4294967296)).take (q+(i+1)+1))=dv (A.take (i+1))*2^k:=by
 have e1:=ajS (W:=W) (j:=q+i) (m:=q+i+1) (d:=W.getD (q+i) 0+x*2^s%4294967296) (by omega) (by omega)
 rw[show q+(i+1)+1=q+i+1+1 by omega,aa5 (by rw[aY];omega),aar A,←hx]
 have e2:dv ((W.set (q+i) (W.getD (q+i) 0+x*2^s%4294967296)).take (q+i+1))=dv (A.take i)*2^k+4294967296^(q+i)*(x*2^s%4294967296):=by
  rw[cK,h] at e1;omega
 rw[e2,dS,bJ,iW,←cK,←ahR,bN,apj k,←hq,←hs,dR]
 simp only[bJ,jJ,bX]
theorem amN{a k ia:Nat}[ha:BN a ia](hk:k≤1000000000)(hi:ia≤1000000000:=by decide):PF GB prog 277 [dN a,vI (k:Nat)] (dN (a*2^k)):=by
 have hla:=aax (dg a)
 have hba:=act ha.h hi
 refine fn (fu:=⟨9⟩) func277 J J ntmps277 J J (fun C=>?_)
 refine eqF 11 (.d (vI (k/32:Nat))) rfl (by show FX.d (.v (.int _ _))= .d (.v (.int _ _));rw[anC hk]) ?_
 refine gx (fu:=⟨2⟩) rfl<|?_
 refine eqF 13 (.d (vI ((dg a).length:Nat))) rfl (by rw[hla];rfl) ?_
 refine gx (fu:=⟨2⟩) rfl<|?_
 refine eqF 15 (.d (vI (k/32+(dg a).length+1:Nat))) rfl (by show FX.d (.v (.int _ _))= .d (.v (.int _ _));congr 3) ?_
 refine gx rfl<|mk (fu:=⟨7⟩) (hv:=by simp only[aag];exact(by decide)) ((List.replicate (k/32+(dg a).length+1) 0).map dU) J J (by rw[←adN];rfl) rfl<|?_
 refine eqF 18 (.d (vI (k%32:Nat))) rfl (by show FX.d (.v (.int _ _))= .d (.v (.int _ _));rw[awX]) ?_
 refine gx (fu:=⟨9⟩) rfl<|?_
 refine eqF 21 (.d (vI ((dg a).length:Nat))) rfl (by rw[hla];rfl) ?_
 refine gx rfl<|?_
 refine lp (X:=List Nat×Nat) (fun⟨W,i⟩=>[(0, .d (dN a)),(1, .d (vI (k:Nat))),(5, .rw 16),(6, .d (.v (.int .u64 (k%32:Nat)))),(20, .d (dN a)),(21, .d (vI ((dg a).length:Nat))),(22, .d (vI (i:Nat)))]) (fun⟨W,i⟩=>[(16,some (.b 262 1 (W.map dU) true))]) (fun⟨W,i⟩=>W.length=k/32+(dg a).length+1∧DOk W∧i≤(dg a).length∧dv (W.take (k/32+i+1))=dv ((dg a).take i)*2^k∧W.getD (k/32+i) 0<2^(k%32)∧ ∀j,k/32+i<j→W.getD j 0=0) (fun⟨W,i⟩=>(dg a).length-i) ⟨List.replicate (k/32+(dg a).length+1) 0,0⟩ rfl ⟨by simp, .replicate _,by omega,by rw[List.take_replicate,ab6];simp[dv],by rw[alu];exact dX (by decide),fun j _=>alu _ _⟩ (fun _=>rfl) (fun⟨W,i⟩ hk=>?_)
 dsimp only at hk⊢
 obtain⟨h1,h2,h3,h4,h5,h6⟩:=hk
 have hlw:=aax W
 have hda:=acA a i
 have hsk:k%32<32:=cS _ (by decide)
 have hpp:2^(k%32)≤2^31:=aL (by decide) (by omega)
 refine br J J J (fun hc23=>?_) (fun hc23=>?_)
 ·
  refine ix (fu:=⟨11⟩) (hv:=by simp only[aag];exact⟨by omega,(by omega)⟩) _ rfl (aa4 (by omega)) rfl<|?_
  have hhi:=avE hda hsk
  have hfit0:=asu hda hsk
  have hor:=at5 (x:=(dg a).getD i 0) h5 hsk
  have hfit:W.getD (k/32+i) 0+(dg a).getD i 0*2^(k%32)%4294967296<4294967296:=by rw[←hor];exact BitVec.isLt _
  have hlp:=ahR ((dg a).getD i 0) (k%32)
  refine eqF 30 (.d (.v (.int .u64 ((dg a).getD i 0*2^(k%32):Nat)))) rfl (by show FX.d (.v (.int _ _))= .d (.v (.int _ _));rw[adl _ (k%32) (by omega) hfit0 (by omega)]) ?_
  obtain⟨t,ht⟩: ∃t,t=(dg a).getD i 0*2^(k%32):=⟨_,rfl⟩
  simp only[←ht] at hhi hfit0 hor hfit hlp
  rw[←ht]
  refine gx (fu:=⟨8⟩) rfl<|?_
  refine eqF 33 (.d (vI (k/32:Nat))) rfl (by show FX.d (.v (.int _ _))= .d (.v (.int _ _));rw[anC hk]) ?_
  refine gx rfl<|lb (fu:=⟨2⟩) _ rfl (aay (k:=k/32+i) (by omega) (by omega)) rfl<|?_
  refine eqF 39 (.d (dU (t%4294967296))) rfl (by show FX.d (.v (.int _ _))= .d (.v (.int _ _));congr 3) ?_
  refine gx (fu:=⟨1⟩) rfl<|?_
  refine eqF 40 _ rfl (congrArg (fun z:Nat=>FX.d (.v (.int .u32 (z:Int)))) hor) ?_
  refine gx rfl<|sb (fu:=⟨6⟩) _ ((W.set (k/32+i) (W.getD (k/32+i) 0+t%4294967296)).map dU) rfl (aay (k:=k/32+i) (by omega) (by omega)) rfl (by(rw[show(((k/32:Nat):Int)+i).toNat=k/32+i by omega];simp only[oS];rfl)<;>rfl) rfl<|?_
  refine eqF 44 (.d (vI (k/32:Nat))) rfl (by show FX.d (.v (.int _ _))= .d (.v (.int _ _));rw[anC hk]) ?_
  refine gx rfl<|lb (fu:=⟨0⟩) _ rfl (aay (k:=k/32+i+1) (by omega) (by rw[aY];omega)) rfl<|?_
  refine eqF 49 (.d (dU 0)) rfl (by rw[getD_set_ne (by omega),h6 _ (by omega)]) ?_
  refine gx (fu:=⟨2⟩) (hv:=by simp only[aag];exact(by decide)) rfl<|?_
  refine eqF 51 (.d (.v (.int .u64 (t/4294967296:Nat)))) rfl (by rw[aqb]) ?_
  refine gx (fu:=⟨1⟩) rfl<|?_
  refine eqF 52 (.d (dU (t/4294967296))) rfl (by show FX.d (.v (.int _ _))= .d (.v (.int _ _));congr 3;omega) ?_
  refine gx (fu:=⟨1⟩) rfl<|?_
  refine eqF 53 _ rfl (congrArg (fun z:Nat=>FX.d (.v (.int .u32 (z:Int)))) (aoU (by omega))) ?_
  refine gx rfl<|sb _ (((W.set (k/32+i) (W.getD (k/32+i) 0+t%4294967296)).set (k/32+i+1) (t/4294967296)).map dU) rfl (aay (k:=k/32+i+1) (by omega) (by rw[aY];omega)) rfl (by(rw[show(((k/32:Nat):Int)+i+1).toNat=k/32+i+1 by omega];simp only[oS];rfl)<;>rfl) rfl<|?_
  exact at_ ⟨(W.set (k/32+i) (W.getD (k/32+i) 0+t%4294967296)).set (k/32+i+1) (t/4294967296),i+1⟩ (by dsimp only;exact⟨⟨by simpa using h1,(h2.set _ hfit).set _ (by omega),by omega,by have q:=asi (x:=(dg a).getD i 0) J J (by omega) rfl h4;rw[←ht] at q;exact q,by rw[show k/32+(i+1)=k/32+i+1 by omega,ag2 (by simp;omega)];exact hhi,fun j hj=>by rw[getD_set_ne (by omega),getD_set_ne (by omega)];exact h6 j (by omega)⟩,(by omega)⟩)
 ·
  obtain rfl:i=(dg a).length:=by omega
  refine fz 16 J J<|cl rfl (afn (ds:=W) (by omega)) rfl<|?_
  exact rz rfl (adP h2 (by have:=h4;rw[ab0 (by omega),ab0 (by omega),aaQ] at this;exact this))
theorem am4{a k:Nat}(h:(dg a).length≤k/32):a/2^k=0:=by
 refine iQ ?_
 have h1:=adq (aev a)
 rw[aaQ] at h1
 have h2:4294967296^(dg a).length≤4294967296^(k/32):=aL (by decide) h
 have h3:4294967296^(k/32)*1≤4294967296^(k/32)*2^(k%32):=dW _ (dX (by decide))
 rw[apj k]
 omega
theorem ai7{ds:List Nat}(h:DOk ds)(q:Nat):dv (ds.drop q)=dv ds/4294967296^q:=by
 rcases fN ds.length q with hq|hq
 ·rw[lN (by omega)]
  have h1:=adq h
  have h2:4294967296^ds.length≤4294967296^q:=aL (by decide) (by omega)
  rw[iQ (by omega)];rfl
 ·have e:=agh ds q hq
  have h1:=adq (h.take q)
  rw[cW,eJ hq] at h1
  rw[e,jL _ _ (dX (by decide)),iQ h1,cN]
theorem apf{ds:List Nat}(h:DOk ds)(i:Nat):dv ds/4294967296^i=ds.getD i 0+4294967296*ds.getD (i+1) 0+18446744073709551616*(dv ds/4294967296^(i+2)):=by
 have e0:=ai7 h i
 have e2:=ai7 h (i+2)
 rw[←e0,←e2]
 have g0:ds.getD i 0=(ds.drop i).getD 0 0:=by rw[aK,aK,mQ];rfl
 have g1:ds.getD (i+1) 0=(ds.drop i).getD 1 0:=by rw[aK,aK,mQ]
 have g2:ds.drop (i+2)=(ds.drop i).drop 2:=by rw[qY]
 rw[g0,g1,g2]
 match ds.drop i with
 |[]=>rfl
 |[u]=>simp[dv]
 |u::v::t=>simp only[dv,List.getD_cons_zero,List.getD_cons_succ,qW,iX];omega
theorem am9{D s i u v w Z:Nat}(hs:s<32)(hZ:D/4294967296^i=u+4294967296*v+18446744073709551616*Z)(hw:w=(u+v*4294967296)/2^s%4294967296):(D/2^s)%4294967296^(i+1)=(D/2^s)%4294967296^i+4294967296^i*w:=by
 rw[dS,Nat.mod_mul]
 congr 2
 rw[kX,bX (2^s),←kX,hZ,hw]
 have h1:18446744073709551616=2^s*(2^(32-s)*4294967296):=by rw[←bJ,an5 hs]
 rw[h1,bJ (2^s),jL _ _ (dX (by decide)),bX v]
 rw[bX (2^(32-s)),bJ,kN]
theorem apd{a k:Nat}{W:List Nat}{q s:Nat}(hq:q=k/32)(hs:s=k%32)(hl:W.length=(dg a).length-q)(h:dv (W.take ((dg a).length-q))=(dv ((dg a).drop q)/2^s)%4294967296^((dg a).length-q)):dv W=a/2^k:=by
 rw[ab0 (by omega)] at h
 have h1:=adq ((aev a).drop q)
 rw[fU] at h1
 have h2:=iL (dv ((dg a).drop q)) (2^s)
 rw[h,dY (by omega),ai7 (aev a),aaQ,apj k,←hq,←hs,kX]
theorem avA{a k ia:Nat}[ha:BN a ia](hk:k≤1000000000)(hi:ia≤1000000000:=by decide):PF GB prog 278 [dN a,vI (k:Nat)] (dN (a/2^k)):=by
 have hla:=aax (dg a)
 have hba:=act ha.h hi
 refine fn (fu:=⟨10⟩) func278 J J ntmps278 J J (fun C=>?_)
 refine eqF 12 (.d (vI (k/32:Nat))) rfl (by show FX.d (.v (.int _ _))= .d (.v (.int _ _));rw[anC hk]) ?_
 refine gx (fu:=⟨2⟩) rfl<|?_
 refine eqF 14 (.d (vI ((dg a).length:Nat))) rfl (by rw[hla];rfl) ?_
 refine gx rfl<|?_
 refine br (fu2:=⟨6⟩) (v2:=fun _=>by simp only[aag];exact(by decide)) J J J (fun hc15=>?_) (fun hc15=>?_)
 ·
  exact rz rfl (by rw[am4 (by omega),air];rfl)
 ·
  refine eqF 17 (.d (vI (k%32:Nat))) rfl (by show FX.d (.v (.int _ _))= .d (.v (.int _ _));rw[awX]) ?_
  refine gx (fu:=⟨9⟩) rfl<|?_
  refine eqF 21 (.d (vI (k/32:Nat))) rfl (by show FX.d (.v (.int _ _))= .d (.v (.int _ _));rw[anC hk]) ?_
  refine gx rfl<|sc' (fu:=⟨0⟩) (k/32) (dg a).length _ J J (by rw[hla]) rfl (ak6 _) (by omega) (by omega) rfl<|?_
  obtain⟨I,hI⟩: ∃I,I=(dg a).drop (k/32):=⟨_,rfl⟩
  have hIl:I.length=(dg a).length-k/32:=by rw[hI,fU]
  have hIm:=aax I
  have hIo:DOk I:=hI▸(aev a).drop _
  refine eqF 22 (.d (dLi I)) rfl (by show FX.d (.sl _)= .d (.sl _);rw[hI,←hla,nY,List.map_drop]) ?_
  refine gx (fu:=⟨7⟩) rfl<|?_
  refine eqF 24 (.d (vI (I.length:Nat))) rfl (by rw[hIm];rfl) ?_
  refine gx rfl<|mk (fu:=⟨8⟩) ((List.replicate I.length 0).map dU) J J (by rw[←adN];rfl) rfl<|?_
  refine eqF 27 (.d (vI (I.length:Nat))) rfl (by rw[hIm];rfl) ?_
  refine gx rfl<|?_
  refine lp (X:=List Nat×Nat) (fun⟨W,i⟩=>[(0, .d (dN a)),(5, .d (.v (.int .u64 (k%32:Nat)))),(6, .d (dLi I)),(7, .rw 25),(26, .d (dLi I)),(27, .d (vI (I.length:Nat))),(28, .d (vI (i:Nat)))]) (fun⟨W,i⟩=>[(25,some (.b 262 1 (W.map dU) true))]) (fun⟨W,i⟩=>W.length=I.length∧DOk W∧i≤I.length∧dv (W.take i)=(dv I/2^(k%32))%4294967296^i) (fun⟨W,i⟩=>I.length-i) ⟨List.replicate I.length 0,0⟩ rfl ⟨by simp, .replicate _,by omega,by simp[dv,Nat.mod_one]⟩ (fun _=>rfl) (fun⟨W,i⟩ hk=>?_)
  dsimp only at hk⊢
  obtain⟨h1,h2,h3,h4⟩:=hk
  have hlw:=aax W
  have hda:=hIo.get i
  have hdb:=hIo.get (i+1)
  have hsk:k%32<32:=cS _ (by decide)
  refine br J J J (fun hc29=>?_) (fun hc29=>?_)
  ·
   refine ix (fu:=⟨13⟩) _ rfl (aa4 (by omega)) rfl<|?_
   refine mg (fu:=⟨6⟩) (hv:=fun _ _=>by simp only[aag];exact(by omega)) (X:=Unit) (fun _=>[(0, .d (dN a)),(5, .d (.v (.int .u64 (k%32:Nat)))),(6, .d (dLi I)),(7, .rw 25),(26, .d (dLi I)),(27, .d (vI (I.length:Nat))),(28, .d (vI (i:Nat))),(8, .d (vI (i:Nat))),(10, .d (.v (.int .u64 (I.getD i 0+I.getD (i+1) 0*4294967296:Nat))))]) (fun _=>[(25,some (.b 262 1 (W.map dU) true))]) (fun _=>True) [0,5,6,7,26,27,28,8,10] [25] rfl ?_ (fun _=>rfl) (fun _ hm=>?_)
   ·
    refine gx (fu:=⟨6⟩) rfl<|?_
    refine eqF 38 (.d (vI (I.length:Nat))) rfl (by rw[hIm];rfl) ?_
    refine gx rfl<|?_
    refine br J J J (fun hc39=>?_) (fun hc39=>?_)
    ·
     refine ix (fu:=⟨3⟩) (hv:=by simp only[aag];exact⟨by omega,(by decide)⟩) _ rfl (aay (k:=i+1) (by omega) (by omega)) rfl<|?_
     refine eqF 47 (.d (.v (.int .u64 (I.getD (i+1) 0*4294967296:Nat)))) rfl (by show FX.d (.v (.int _ _))= .d (.v (.int _ _));rw[adl _ 32 (by decide) (by show _*4294967296<_;omega) rfl]) ?_
     refine gx (fu:=⟨1⟩) rfl<|?_
     refine eqF 48 _ rfl (congrArg (fun z:Nat=>FX.d (.v (.int .u64 (z:Int)))) (anh 64 (I.getD i 0) (I.getD (i+1) 0) 32 hda (by show _+_*4294967296<18446744073709551616;omega))) ?_
     refine gx rfl<|?_
     exact at_ () trivial
    ·
     refine eqF 10 (.d (.v (.int .u64 (I.getD i 0+I.getD (i+1) 0*4294967296:Nat)))) rfl (by rw[ac7 (by omega:I.length≤i+1),iS,dQ]) ?_
     exact at_ () trivial
   ·
    refine eqF 53 (.d (.v (.int .u64 ((I.getD i 0+I.getD (i+1) 0*4294967296)/2^(k%32):Nat)))) rfl (by show FX.d (.v (.int _ _))= .d (.v (.int _ _));rw[adK _ (k%32) (by omega) (by omega)]) ?_
    refine gx (fu:=⟨1⟩) rfl<|?_
    obtain⟨w,hw⟩: ∃w,w=(I.getD i 0+I.getD (i+1) 0*4294967296)/2^(k%32)%4294967296:=⟨_,rfl⟩
    have hw1:w<4294967296:=hw▸cS _ (by decide)
    refine eqF 54 (.d (dU w)) rfl (by show FX.d (.v (.int _ _))= .d (.v (.int _ _));rw[hw];congr 3) ?_
    refine gx rfl<|sb _ ((W.set i w).map dU) rfl (aa4 (by omega)) rfl (by(rw[←ac2];rfl)<;>rfl) rfl<|?_
    exact at_ ⟨W.set i w,i+1⟩ (by dsimp only;exact⟨⟨by simpa using h1,h2.set _ (by omega),by omega,by rw[aa5 (by omega),h4];exact(am9 hsk (apf hIo i) hw).symm⟩,(by omega)⟩)
  ·
   refine fz 25 J J<|cl rfl (afn (ds:=W) (by omega)) rfl<|?_
   exact rz rfl (adP h2 (by obtain rfl:i=I.length:=(by omega);rw[hIl] at h1 h4;rw[hI] at h4;exact apd rfl rfl h1 h4))
theorem afr{a k:Nat}(h:a<4294967296^k):(dg a).length≤k:=by
 rcases fN k (dg a).length with q|q
 ·have h1:=aeC (aaD a).2.2 (by intro e;rw[e] at q;simp at q)
  rw[aaQ] at h1
  have h2:4294967296^k≤4294967296^((dg a).length-1):=aL (by decide) (by omega)
  omega
 ·exact q
theorem ash{a:Nat}(h:(dg a).length=2):(dg a).getD 0 0+(dg a).getD 1 0*4294967296=a:=by
 have e:=aaQ a
 revert e
 match dg a,h with
 |[x,y],_=>intro e;simp[dv] at e⊢;omega
def an0(a:Nat):DV:= .tp [.v (.int .u64 ((if a<18446744073709551616 then a else 0:Nat):Int)),vB (decide (a<18446744073709551616))]
theorem alA{a:Nat}(h:a<18446744073709551616):an0 a= .tp [.v (.int .u64 (a:Int)),vB true]:=by unfold an0;rw[if_pos h,decide_eq_true h]
theorem asl{a:Nat}(h: ¬a<18446744073709551616):an0 a= .tp [.v (.int .u64 0),vB false]:=by unfold an0;rw[if_neg h,decide_eq_false h];rfl
theorem acv(a:Nat):a<4294967296^(dg a).length:=by have:=adq (aev a);rwa [aaQ] at this
theorem alL{a ia:Nat}[ha:BN a ia](hi:ia≤1000000000:=by decide):PF GB prog 242 [dN a] (an0 a):=by
 have hla:=aax (dg a)
 have hba:=act ha.h hi
 have hlt:=acv a
 have hd00:=acA a 0
 refine fn (fu:=⟨11⟩) func242 J J ntmps242 J J (fun C=>?_)
 refine eqF 5 (.d (vI ((dg a).length:Nat))) rfl (by rw[hla];rfl) ?_
 refine gx rfl<|?_
 refine br J J J (fun hc6=>?_) (fun hc6=>?_)
 ·
  exact rz rfl (by rw[show(dg a).length=0 by omega] at hlt;obtain rfl:a=0:=(by omega);rfl)
 ·
  refine br J J J (fun hc8=>?_) (fun hc8=>?_)
  ·
   refine ix (fu:=⟨2⟩) _ rfl (aay (k:=0) rfl (by omega)) rfl<|?_
   refine eqF 13 (.d (.v (.int .u64 (a:Nat)))) rfl (by rw[ab5 (by omega)]) ?_
   refine gx rfl<|?_
   exact rz rfl (by rw[show(dg a).length=1 by omega] at hlt;rw[alA (by omega),←ab5 (a:=a) (by omega),ab5 (a:=a) (by omega)];rfl)
  ·
   refine br J J J (fun hc14=>?_) (fun hc14=>?_)
   ·
    have hd0:=acA a 0
    have hd1:=acA a 1
    refine ix (hv:=by simp only[aag];exact⟨by omega,(by decide)⟩) _ rfl (aay (k:=1) rfl (by omega)) rfl<|ix (fu:=⟨3⟩) _ rfl (aay (k:=0) rfl (by omega)) rfl<|?_
    refine eqF 25 (.d (.v (.int .u64 (a:Nat)))) rfl (congrArg (fun z:Nat=>FX.d (.v (.int .u64 (z:Int)))) (by rw[adl _ 32 (by decide) (by show _*4294967296<_;omega) rfl,BitVec.or_comm];exact(anh 64 ((dg a).getD 0 0) ((dg a).getD 1 0) 32 hd0 (by show _+_*4294967296<18446744073709551616;omega)).trans (ash (by omega)))) ?_
    refine gx rfl<|?_
    exact rz rfl (by rw[show(dg a).length=2 by omega] at hlt;rw[alA (by omega)];rfl)
   ·
    exact rz rfl (by rw[asl];rfl;intro h;have:=afr (a:=a) (k:=2) (by omega);omega)
theorem awY{G:Gh}{ds:List Nat}{v:Value}(hd:DOk ds)(h:Is G (dLi ds) v): ∃x:SV,v=x.v∧IsD G x ds:=by
 obtain⟨x,rfl,h1⟩:=awL.1 h
 exact⟨x,rfl,hd,h1⟩
theorem IsN.is{G:Gh}{k n:Nat}{z:SV}(h:IsN k G z n):Is G (dN n) z.v:=(at2 h.lt).2 ⟨z,rfl,h⟩
theorem op1{G:Gh}{ds:List Nat}{vs:List Value}(hd:DOk ds)(h:IsLs G [dLi ds] vs): ∃x:SV,vs=[x.v]∧IsD G x ds:=by
 obtain⟨v,m,rfl,h1,h2⟩:=aab.1 h
 cases aaz.1 h2
 obtain⟨x,rfl,h3⟩:=awY hd h1
 exact⟨x,rfl,h3⟩
theorem op2{G:Gh}{a b:Nat}{vs:List Value}(h:IsLs G [dN a,dN b] vs): ∃x y:SV,vs=[x.v,y.v]∧IsD G x (dg a)∧IsD G y (dg b):=by
 obtain⟨v,m,rfl,h1,h2⟩:=aab.1 h
 obtain⟨y,rfl,h4⟩:=op1 (aaD b).2.1 h2
 obtain⟨x,rfl,h3⟩:=awY (aaD a).2.1 h1
 exact⟨x,y,rfl,h3,h4⟩
section
variable {GB:Gh} {a b i j:Nat}
theorem afq[h:BN a i](hi:i≤1000000000):(dg a).length≤31250001:=by have:=aa3 h.h;omega
theorem arg{ds:List Nat}(hd:DOk ds)(hl:ds.length≤1125899906842624):PF GB prog 285 [dLi ds] (vB (decide (Nrm ds))):=fun G vs _ hv=>by
 obtain⟨x,rfl,hx⟩:=op1 hd hv
 exact(ani hx hl).mono fun v G' _ h=>aaM.2 h
theorem agQ[h:BN a i](hi:i≤1000000000:=by decide):PF GB prog 231 [dN a] (vI (bl a:Nat)):=fun G vs _ hv=>by
 obtain⟨x,rfl,hx⟩:=op1 (aaD a).2.1 hv
 have:=afq (a:=a) hi
 exact(ask hx (by omega)).mono fun v G' _ h=>aaM.2 (by rw[h,aaQ])
theorem ah4[h:BN a i](hi:i≤1000000000:=by decide):PF GB prog 237 [dN a] (dN a):=fun G vs _ hv=>by
 obtain⟨x,rfl,hx⟩:=op1 (aaD a).2.1 hv
 have:=afq (a:=a) hi
 refine(aij (k:=i) hx (by rw[aaQ];exact h.h) (by omega)).mono fun v G' _ h=>?_
 obtain⟨z,rfl,h⟩:=h
 rw[aaQ] at h;exact h.is
theorem afP(h:a<18446744073709551616):PF GB prog 238 [.v (.int .u64 (a:Nat))] (dN a):=fun G vs _ hv=>by
 obtain⟨v,m,rfl,h1,h2⟩:=aab.1 hv
 cases aaz.1 h2
 rw[aaM.1 h1]
 refine(ad9 h).mono fun v G' _ h=>?_
 obtain⟨z,rfl,h⟩:=h
 exact h.is
theorem anS(h:a<18446744073709551616):PF GB prog 235 [dN a] (.tp [.v (.int .u64 (a:Nat)),vB true]):=fun G vs _ hv=>by
 obtain⟨x,rfl,hx⟩:=op1 (aaD a).2.1 hv
 have:BN a 64:=⟨h⟩
 have:=afq (a:=a) (i:=64) (by decide)
 refine(aiw hx (by omega)).mono fun v G' _ e=>?_
 rw[aaQ,if_pos h,decide_eq_true h] at e
 subst e
 exact acQ.2 ⟨_,rfl, .cons (aaM.2 rfl) (.cons (aaM.2 rfl) .nil)⟩
theorem azq[h:BN a i][k:BN b j](hi:i≤1000000000:=by decide)(hj:j≤1000000000:=by decide):PF GB prog 269 [dN a,dN b] (dN (a+b)):=fun G vs _ hv=>by
 obtain⟨x,y,rfl,hx,hy⟩:=op2 hv
 have:=afq (a:=a) hi
 have:=afq (a:=b) hj
 refine(atW (kk:=i+j+1) hx hy (by rw[aaQ,aaQ];exact aeo h.h k.h) (by omega) (by omega)).mono fun v G' _ h=>?_
 obtain⟨z,rfl,h⟩:=h
 rw[aaQ,aaQ] at h;exact h.is
theorem awx[h:BN a i][k:BN b j](hi:i≤1000000000:=by decide)(hj:j≤1000000000:=by decide):PF GB prog 270 [dN a,dN b] (.tp [dN (a-b),vB (decide (b≤a))]):=fun G vs _ hv=>by
 obtain⟨x,y,rfl,hx,hy⟩:=op2 hv
 have:=afq (a:=a) hi
 have:=afq (a:=b) hj
 refine(avZ (kk:=i) hx hy (by rw[aaQ];exact h.h) (by omega) (by omega)).mono fun v G' _ h=>?_
 obtain⟨z,rfl,h⟩:=h
 rw[aaQ,aaQ] at h⊢
 exact acQ.2 ⟨_,rfl, .cons h.is (.cons (aaM.2 rfl) .nil)⟩
theorem anm[h:BN a i][k:BN b j](hi:i≤1000000000:=by decide)(hj:j≤1000000000:=by decide):PF GB prog 230 [dN a,dN b] (dN (a*b)):=fun G vs _ hv=>by
 obtain⟨x,y,rfl,hx,hy⟩:=op2 hv
 have:=afq (a:=a) hi
 have:=afq (a:=b) hj
 refine(avF (kk:=i+j) hx hy (by rw[aaQ,aaQ];exact aba h.h k.h) (by omega) (by omega)).mono fun v G' _ h=>?_
 obtain⟨z,rfl,h⟩:=h
 rw[aaQ,aaQ] at h;exact h.is
theorem alS[h:BN a i][k:BN b j](hb:0<b)(hi:i≤1000000000:=by decide)(hj:j≤1000000000:=by decide):PF GB prog 233 [dN a,dN b] (.tp [dN (a/b),dN (a%b),vB true]):=fun G vs _ hv=>by
 obtain⟨x,y,rfl,hx,hy⟩:=op2 hv
 have:=afq (a:=a) hi
 have:=afq (a:=b) hj
 refine(afV (k1:=i) (k2:=j) hx hy (by rw[aaQ];exact hb) (by rw[aaQ,aaQ];exact eX (iL _ _) h.h) (by rw[aaQ,aaQ];exact nZ (cS _ hb) k.h) (by omega) (by omega)).mono fun v G' _ h=>?_
 obtain⟨z,r,rfl,h,h'⟩:=h
 rw[aaQ,aaQ] at h h'
 exact acQ.2 ⟨_,rfl, .cons h.is (.cons h'.is (.cons (aaM.2 rfl) .nil))⟩
theorem ax2[h:BN a i][k:BN b j](hi:i≤1000000000:=by decide)(hj:j≤1000000000:=by decide):PF GB prog 232 [dN a,dN b] (dN (Nat.gcd a b)):=fun G vs _ hv=>by
 obtain⟨x,y,rfl,hx,hy⟩:=op2 hv
 have:=afq (a:=a) hi
 have:=afq (a:=b) hj
 have e: ∀k',k'≤i+j→(2:Nat)^k'≤2^(i+j):=fun k' h=>aL (by decide) h
 have:=e i (by omega)
 have:=e j (by omega)
 have:=h.h
 have:=k.h
 refine(avu (k:=i+j) (k0:=i+j) hx hy (by rw[aaQ];omega) (by rw[aaQ];omega) (by omega) (by rw[aaQ,aaQ];exact akS h.h k.h) (by omega) (by omega)).mono fun v G' _ h=>?_
 obtain⟨z,rfl,h⟩:=h
 rw[aaQ,aaQ] at h;exact h.is
end
section
variable {GB:Gh} {C:Ctx} {n:Nat} {Q0:Exit→Act→World→Prop} {fr fr' fr1 fr2:FrX} {own own' own1 own2:OwX} {cf cf' cf1 cf2:Cf} {vc vc1 vc2:List Prop}
theorem rzI{fb:Func}{e:Exit}{ds:List DV}{rv:DV}(hr:arG tt fr own fb.results.toList=some ds)(hd: ∀G y,Is G (ahX ds) y→Is G rv y)(he:axP e=true:=by rfl):CfS prog GB C n (bodyPost prog fb (ajR C (fun v G'=>Is G' rv v))) fr own (.ex e []):=by
 refine⟨fun ρ G ov a w r=>?_⟩
 obtain⟨vs,h1,h2⟩:=alc r hr
 have hk:Is G rv (abE vs):=hd _ _ (akZ h2)
 cases e with
 |ret=>exact zD (C:=C) (n:=n) (fr:=frA a) (own:=ov) (G:=G) (K:=fun v G'=>Is G' rv v) h1 hk a w ⟨r.h,r.sz,aaK a,r.df⟩
 |normal=>exact amH (C:=C) (n:=n) (fr:=frA a) (own:=ov) (G:=G) (K:=fun v G'=>Is G' rv v) h1 hk a w ⟨r.h,r.sz,aaK a,r.df⟩
 |_=>cases he
def cuA(fr:FrX)(cf:Cf):Option (Int×IntKind):=match opC fr cf with
 |some ⟨_, .convert t t' x,_,_,_,_⟩=>match aa9 tt t,aa9 tt t',evX (lkC fr cf) x with
  |some ⟨.int k,_,_,_⟩,some ⟨.int k',_,_,_⟩,some (.d (.v (.int j p)))=>bif kq k j then some (p,k') else none
  |_,_,_=>none
 |_=>none
theorem cu[fu:Fu]{p:Int}{k':IntKind}(u:Int)(h:cuA fr cf=some (p,k'))(e:k'.wrap p=u)(hgo:goA tt n fu.n fr own cf (.d (.v (.int k' u))) [] []=⟨vc,fr',own',cf'⟩)(k:CfS prog GB C n Q0 fr' own' cf')
  (hv:aag vc:=by first|exact trivial|(simp only[aag];kernel_rfl)|(simp only[aag];omega)):CfS prog GB C n Q0 fr own cf:=by
 unfold cuA at h
 split at h<;>try (cases h;done)
 rename_i hh
 split at h<;>try (cases h;done)
 rename_i k0 _ _ _ k1 _ _ _ j p0 hT hT' hx
 cases hk:kq k0 j with
 |false=>rw[hk] at h;cases h
 |true=>
  rw[hk,cond_true] at h;cases h;cases aq2 hk
  have:=ahL (abt _ _ hT) rfl
  have:=ahL (abt _ _ hT') rfl
  subst e
  refine us hh (.x1 hx fun ρ G ov a w y _ r h1 h2=>?_) hgo hv k
  rw[aas] at h2;subst h2
  exact⟨_,aas.2 rfl,aiO h1⟩
def nuA(fr:FrX)(cf:Cf):Option (Int×IntKind):=match opC fr cf with
 |some ⟨_, .unOp .neg _ x,_,_,_,_⟩=>match evX (lkC fr cf) x with
  |some (.d (.v (.int j p)))=>some (p,j)
  |_=>none
 |_=>none
theorem nu[fu:Fu]{p:Int}{k':IntKind}(u:Int)(h:nuA fr cf=some (p,k'))(e:k'.wrap (0-p)=u)(hgo:goA tt n fu.n fr own cf (.d (.v (.int k' u))) [] []=⟨vc,fr',own',cf'⟩)(k:CfS prog GB C n Q0 fr' own' cf')
  (hv:aag vc:=by first|exact trivial|(simp only[aag];kernel_rfl)|(simp only[aag];omega)):CfS prog GB C n Q0 fr own cf:=by
 unfold nuA at h
 split at h<;>try (cases h;done)
 rename_i hh
 split at h<;>cases h
 rename_i hx
 subst e
 exact us hh (.x1 hx fun ρ G ov a w y _ r h1 h2=>by
  rw[aas] at h2;subst h2
  exact⟨_,aas.2 rfl,ao8 h1⟩) hgo hv k
end
theorem ap0{x:Nat}:bl x=0↔x=0:=by
 have:= @afZ x 0
 simp at this;omega
theorem afH{a:Nat}:0<(dg a).length↔0<a:=by
 have:= @ack a
 omega
def eS(neg:Bool)(a:Nat):DV:= .ag [.v (.bool neg),dN a]
theorem alK(neg:Bool)(a:Nat):eI (zv neg a)= .ag [.v (.bool (neg&&decide (0<a))),dN a]:=by unfold eI;rw[aez,ajj]
theorem at4{n:Bool}{u:Nat}{b:Int}(h:n≠decide (b<0))(hle:b.natAbs≤u):zv n (u-b.natAbs)=zv n u+b:=by cases n<;>simp[zv] at* <;>omega
theorem auX{n:Bool}{u:Nat}{b:Int}(h:n≠decide (b<0))(hle:u≤b.natAbs):zv (decide (b<0)) (b.natAbs-u)=zv n u+b:=by cases n<;>simp[zv] at* <;>(try rw[if_pos h])<;>(try rw[if_neg (by omega)])<;>omega
theorem aj6{neg:Bool}{ds:List Nat}(hd:DOk ds)(hl:ds.length≤1125899906842624):PF GB prog 249 [.ag [.v (.bool neg),dLi ds]] (vB (decide (Nrm ds∧(neg=true→0<ds.length)))):=by
 refine fn func249 J J ntmps249 J J (fun C=>?_)
 refine cl rfl (arg hd hl) rfl<|?_
 refine csd 6 J J J (fun hg6=>?_) (fun hg6=>?_)
 ·
  refine csb 10 J J J (fun hg10=>?_) (fun hg10=>?_)
  ·
   exact rz rfl (by unfold vB;congr 2;simp_all [ahX])
  ·
   exact rz rfl (by unfold vB;congr 2;simp_all [ahX])
 ·
  exact rz rfl (by unfold vB;congr 2;simp_all [ahX])
theorem ap8{n:Bool}{a i:Nat}[h:BN a i](hi:i≤1000000000:=by decide):PF GB prog 185 [eS n a] (vI (zv n a).sign):=by
 refine fn func185 J J ntmps185 J J (fun C=>?_)
 refine cl rfl (agQ (a:=a) hi) rfl<|?_
 refine br J J J (fun hc3=>?_) (fun hc3=>?_)
 ·
  exact rz rfl (by have:=ap0.1 (Int.ofNat.inj hc3);subst this;cases n<;>rfl)
 ·
  refine bb J J J (fun hc8=>?_) (fun hc8=>?_)
  ·
   exact rz rfl (by subst hc8;rw[dJ (by have:a≠0:=(fun e=>hc3 (by rw[e];rfl));simp[zv];omega)];rfl)
  ·
   exact rz rfl (by subst hc8;rw[dV (by have:a≠0:=(fun e=>hc3 (by rw[e];rfl));simp[zv];omega)];rfl)
theorem agK{m:Int}(h0: -9223372036854775808≤m)(h1:m≤9223372036854775807):PF GB prog 183 [vI m] (eI m):=by
 refine fn (fu:=⟨8⟩) func183 J J ntmps183 J J (fun C=>?_)
 refine cu ((m%18446744073709551616:Int)) rfl (abC _) rfl<|?_
 refine br (fu1:=⟨2⟩) (fu2:=⟨0⟩) J J J (fun hc7=>?_) (fun hc7=>?_)
 ·
  refine nu ((m.natAbs:Nat)) rfl (by rw[abC];omega) rfl<|cl rfl (afP (a:=m.natAbs) (by omega)) rfl<|?_
  exact rz J J
 ·
  refine eqF 3 (.d (.v (.int .u64 (m.natAbs:Nat)))) rfl (by congr 3;omega) ?_
  refine gx rfl<|cl rfl (afP (a:=m.natAbs) (by omega)) rfl<|?_
  exact rz J J
theorem aoO{n:Bool}{a:Nat}(h:a<4611686018427387904):PF GB prog 234 [eS n a] (.tp [vI (zv n a),vB true]):=by
 refine fn func234 J J ntmps234 J J (fun C=>?_)
 refine cl (fu:=⟨2⟩) rfl (anS (a:=a) (by omega)) rfl<|knT J J J<|?_
 refine csb 18 J J J (fun hg18=>?_) (fun hg18=>?_)
 ·
  refine br (fu1:=⟨3⟩) J J J (fun hc12=>?_) (fun hc12=>?_)
  ·
   refine nu (fu:=⟨0⟩) (((18446744073709551616-a)%18446744073709551616:Int)) rfl (by rw[abC];omega) rfl<|cu (zv n a) rfl (by subst hg18;rw[aiF];simp only[zv,if_true];omega) rfl<|?_
   exact rz J J
  ·
   exact absurd (by omega) hc12
 ·
  refine csb 32 J J J (fun hg32=>?_) (fun hg32=>?_)
  ·
   refine br J J J (fun hc25=>?_) (fun hc25=>?_)
   ·
    exact rz rfl (by subst hg18;rfl)
   ·
    exact absurd (by omega) hc25
  ·
   subst hg18;cases hg32
theorem afU{neg:Bool}{a i:Nat}[h:BN a i](hi:i≤1000000000:=by decide):PF GB prog 236 [eS neg a] (eI (zv neg a)):=by
 refine fn func236 J J ntmps236 J J (fun C=>?_)
 refine cl rfl (ah4 hi) rfl<|?_
 refine csb 9 J J J (fun hg9=>?_) (fun hg9=>?_)
 ·
  exact rz rfl (by rw[alK];simp[hg9,afH,ahX])
 ·
  exact rz rfl (by rw[alK];simp[hg9,afH,ahX])
theorem ags{neg:Bool}{a:Nat}:PF GB prog 268 [.v (.bool neg),dN a] (eI (zv neg a)):=by
 refine fn func268 J J ntmps268 J J (fun C=>?_)
 refine csb 6 J J J (fun hg6=>?_) (fun hg6=>?_)
 ·
  exact rz rfl (by rw[alK];simp[hg6,afH,ahX])
 ·
  exact rz rfl (by rw[alK];simp[hg6,afH,ahX])
theorem axd{m:Int}{i:Nat}[h:BI m i](hi:i≤1000000000:=by decide):PF GB prog 188 [eI m] (eI (-m)):=by
 refine fn func188 J J ntmps188 J J (fun C=>?_)
 refine cl rfl (afU (neg:=!decide (m<0)) (a:=m.natAbs) hi) rfl<|?_
 exact rz rfl (by rw[aw2,acB];rfl)
theorem aow{a b:Int}{i j:Nat}[h:BI a i][k:BI b j](hi:i≤1000000000:=by decide)(hj:j≤1000000000:=by decide):PF GB prog 229 [eI a,eI b] (eI (a*b)):=by
 refine fn func229 J J ntmps229 J J (fun C=>?_)
 refine cl rfl (anm (a:=a.natAbs) (b:=b.natAbs) hi hj) rfl<|cl rfl ags rfl<|?_
 exact rz rfl (by rw[show(!(decide (a<0)==decide (b<0)))=(decide (a<0) !=decide (b<0)) from rfl,atJ,acB,acB];rfl)
theorem auJ{n1:Bool}{u:Nat}{b:Int}{i j:Nat}[h:BN u i][k:BI b j](hi:i≤1000000000:=by decide)(hj:j≤1000000000:=by decide):PF GB prog 228 [eS n1 u,eI b] (eI (zv n1 u+b)):=by
 refine fn func228 J J ntmps228 J J (fun C=>?_)
 refine bb J J J (fun hc13=>?_) (fun hc13=>?_)
 ·
  refine cl rfl (azq (b:=b.natAbs) hi hj) rfl<|cl rfl ags rfl<|?_
  exact rz rfl (by rw[alm,show n1=decide (b<0) from by simpa using hc13,acB];rfl)
 ·
  refine cl rfl (awx (b:=b.natAbs) hi hj) rfl<|?_
  refine bd J J J (fun hc30=>?_) (fun hc30=>?_)
  ·
   refine cl rfl ags rfl<|?_
   exact rz rfl (by rw[at4 (by simpa using hc13) hc30];rfl)
  ·
   refine cl rfl (awx (a:=b.natAbs) hj hi) rfl<|cl rfl ags rfl<|?_
   exact rz rfl (by rw[auX (by simpa using hc13) (by omega)];rfl)
theorem awQ{a b:Int}{i j:Nat}[h:BI a i][k:BI b j](hi:i≤1000000000:=by decide)(hj:j≤1000000000:=by decide):PF GB prog 228 [eI a,eI b] (eI (a+b)):=(auJ (n1:=decide (a<0)) (u:=a.natAbs) hi hj).to (by rw[acB])
def Big(q:Rat):Prop:= ¬(q.num.natAbs<4611686018427387904∧q.den<4611686018427387904)
instance (q:Rat):Decidable (Big q):=inferInstanceAs (Decidable (¬_))
def fn_(q:Rat):Int:=if Big q then 0 else q.num
def fd_(q:Rat):Int:=if Big q then 0 else(q.den:Int)-1
def fp_(q:Rat):DV:= .op (decide (Big q)) [.v (.bool (decide (q.num<0))),dN q.num.natAbs,dN q.den]
def eF(q:Rat):DV:= .ag [vI (fn_ q),vI (fd_ q),fp_ q]
abbrev bgT {q:Rat} (h:decide (Big q)=true):Big q:=of_decide_eq_true h
abbrev bgF {q:Rat} (h:decide (Big q)=false): ¬Big q:=of_decide_eq_false h
abbrev aBL {q:Rat} (h: ¬decide (Big q)=false):Big q:=by simpa using h
abbrev anb {q:Rat} (h: ¬decide (Big q)=true): ¬Big q:=by simpa using h
theorem al2{q:Rat}(h: ¬Big q):fn_ q=q.num:=if_neg h
theorem anq{q:Rat}(h: ¬Big q):fd_ q=(q.den:Int)-1:=if_neg h
theorem acS{q:Rat}(h: ¬Big q):q.num.natAbs<4611686018427387904:=(Decidable.not_not.1 h).1
theorem acV{q:Rat}(h: ¬Big q):q.den<4611686018427387904:=(Decidable.not_not.1 h).2
theorem an9{q:Rat}(h:Big q):q≠0:=fun e=>by subst e;exact h ⟨by decide,by decide⟩
theorem aqO{q:Rat}{m d:Int}{r:DV}(h: ¬Big q)(h1:q.num=m)(h2:(q.den:Int)-1=d)(e:r= .ag [vI m,vI d, .v (.pointer none)])(G:Gh)(y:Value)(k:Is G r y):Is G (eF q) y:=by
 subst e h1 h2
 obtain⟨l,rfl,g⟩:=abl.1 k
 obtain⟨y1,l1,rfl,k1,g1⟩:=aab.1 g
 obtain⟨y2,l2,rfl,k2,g2⟩:=aab.1 g1
 obtain⟨y3,l3,rfl,k3,g3⟩:=aab.1 g2
 exact abl.2 ⟨_,rfl, .cons (by rw[al2 h];exact k1) (.cons (by rw[anq h];exact k2) (.cons (alr.2 (.inl ⟨decide_eq_false h,aaM.1 k3⟩)) g3))⟩
theorem aAq{q:Rat}{n:Bool}{a d:Nat}{r:DV}(h:Big q)(h1:decide (q.num<0)=n)(h2:q.num.natAbs=a)(h3:q.den=d)(e:r= .ag [vI 0,vI 0, .pt [.v (.bool n),dN a,dN d]])(G:Gh)(y:Value)(k:Is G r y):Is G (eF q) y:=by
 subst e h1 h2 h3
 obtain⟨l,rfl,g⟩:=abl.1 k
 obtain⟨y1,l1,rfl,k1,g1⟩:=aab.1 g
 obtain⟨y2,l2,rfl,k2,g2⟩:=aab.1 g1
 obtain⟨y3,l3,rfl,k3,g3⟩:=aab.1 g2
 exact abl.2 ⟨_,rfl, .cons (by unfold fn_;rw[if_pos h];exact k1) (.cons (by unfold fd_;rw[if_pos h];exact k2) (.cons (alr.2 (.inr ⟨decide_eq_true h,k3⟩)) g3))⟩
theorem ax6(G:Gh)(y:Value)(k:Is G (.ag [vI 0,vI 0, .v (.pointer none)]) y):Is G (eF 0) y:=aqO (fun h=>an9 h rfl) J J J G y k
theorem aAP{m:Int}(h:m.natAbs<4611686018427387904)(G:Gh)(y:Value)(k:Is G (.ag [vI m,vI 0, .v (.pointer none)]) y):Is G (eF (m:Rat)) y:=
 aqO (fun k=>k ⟨by simpa using h,by rw[oZ];decide⟩) (qJ m) (by rw[oZ];rfl) rfl G y k
theorem ata{n:Bool}{a d:Nat}(hd:0<d):(mkRat (zv n a) d).num=zv n (a/Nat.gcd a d)∧(mkRat (zv n a) d).den=d/Nat.gcd a d:=by
 obtain⟨h1,h2⟩:=apw (m:=zv n a) hd
 rw[aez] at h1 h2
 exact⟨by rw[h1,axv (pU _ _)],h2⟩
theorem axN{n:Bool}{a d a' d':Nat}(hd:0<d)(ha:a'=a/Nat.gcd a d)(hd':d'=d/Nat.gcd a d)(h1:a'<4611686018427387904)(h2:d'<4611686018427387904)(G:Gh)(y:Value)(k:Is G (.ag [vI (zv n a'),vI ((d':Int)-1), .v (.pointer none)]) y):Is G (eF (mkRat (zv n a) d)) y:=by
 obtain⟨e1,e2⟩:=ata (n:=n) (a:=a) hd
 rw[←ha] at e1;rw[←hd'] at e2
 exact aqO (fun k=>k ⟨by rw[e1,aez];exact h1,by rw[e2];exact h2⟩) e1 (by rw[e2]) rfl G y k
theorem asd{n:Bool}{a d a' d':Nat}(hd:0<d)(ha:a'=a/Nat.gcd a d)(hd':d'=d/Nat.gcd a d)(h: ¬(a'<4611686018427387904∧d'<4611686018427387904))(G:Gh)(y:Value)(k:Is G (.ag [vI 0,vI 0, .pt [.v (.bool (decide (zv n a'<0))),dN (zv n a').natAbs,dN d']]) y):Is G (eF (mkRat (zv n a) d)) y:=by
 obtain⟨e1,e2⟩:=ata (n:=n) (a:=a) hd
 rw[←ha] at e1;rw[←hd'] at e2
 exact aAq (fun k=>h ⟨by rw[e1,aez] at k;exact k.1,by rw[e2] at k;exact k.2⟩) (by rw[e1]) (by rw[e1]) e2 rfl G y k
theorem aBi{a d:Nat}(hd:0<d)(h: ¬(1:Int)<(bl (Nat.gcd a d):Nat)):Nat.gcd a d=1:=by
 have h1:Nat.gcd a d≠0:=fun e=>by rw[Nat.gcd_eq_zero_iff] at e;omega
 have h2:Nat.gcd a d<2^1:=afZ.1 (by omega)
 omega
theorem alt{x:Nat}:(((bl x:Nat):Int)≤62)↔x<4611686018427387904:=auv
theorem PF.ofI{P:Program}{f:FuncId}{ds ds':List DV}{r:DV}(h:PF GB P f ds r)(k: ∀G vs,IsLs G ds' vs→IsLs G ds vs):PF GB P f ds' r:=fun G vs hg hv=>h G vs hg (k G vs hv)
theorem adc{n:Bool}{a d i j:Nat}[h:BN a i][k:BN d j](hi:i≤450000000:=by decide)(hj:j≤450000000:=by decide):PF GB prog 182 [eS n a,dN d] (eF (mkRat (zv n a) d)):=by
 refine fn func182 J J ntmps182 J J (fun C=>?_)
 refine cl rfl (agQ (a:=d) (by omega)) rfl<|?_
 refine cs 13 J J J (fun hg13=>?_) (fun hg13=>?_)
 ·
  exact rzI rfl (by obtain rfl:=ap0.1 (Int.ofNat.inj hg13);rw[Rat.mkRat_zero];exact ax6)
 ·
  have hd0:0<d:=by have:= @ap0 d;omega
  have hg0:0<Nat.gcd a d:=lW _ hd0
  refine cl rfl (ap8 (n:=n) (a:=a) (by omega)) rfl<|?_
  refine br J J J (fun hc17=>?_) (fun hc17=>?_)
  ·
   exact rzI rfl (by rw[nU.1 hc17,Rat.zero_mkRat];exact ax6)
  ·
   refine cl rfl (ax2 (a:=a) (b:=d) (by omega) (by omega)) rfl<|cl rfl (agQ (a:=Nat.gcd a d) (i:=i+j) (by omega)) rfl<|?_
   refine br J J J (fun hc25=>?_) (fun hc25=>?_)
   ·
    obtain⟨a',ea⟩: ∃a',a'=a/Nat.gcd a d:=⟨_,rfl⟩
    obtain⟨d',ed⟩: ∃d',d'=d/Nat.gcd a d:=⟨_,rfl⟩
    have hba:BN a' i:=ea▸inferInstance
    have hbd:BN d' j:=ed▸inferInstance
    refine cl (fu:=⟨2⟩) rfl (alS (a:=a) (b:=Nat.gcd a d) (j:=i+j) hg0 (by omega) (by omega)) rfl<|?_
    refine eqF 31 (.d (dN a')) rfl (by rw[ea]) ?_
    refine gx rfl<|cl (fu:=⟨2⟩) rfl (alS (a:=d) (b:=Nat.gcd a d) (j:=i+j) hg0 (by omega) (by omega)) rfl<|?_
    refine eqF 39 (.d (dN d')) rfl (by rw[ed]) ?_
    refine gx rfl<|cl rfl (agQ (h:=hba) (by omega)) rfl<|?_
    refine cs 46 J J J (fun hg46=>?_) (fun hg46=>?_)
    ·
     refine cl rfl (agQ (h:=hbd) (by omega)) rfl<|?_
     refine br J J J (fun hc50=>?_) (fun hc50=>?_)
     ·
      have hs2:=alt.1 hc50
      refine cl rfl (aoO (alt.1 hg46)) rfl<|cl rfl (anS (by have:=alt.1 hc50;omega)) rfl<|?_
      exact rzI rfl (axN hd0 ea ed (alt.1 hg46) (alt.1 hc50))
     ·
      refine cl rfl (afU (neg:=n) (h:=hba) (by omega)) rfl<|cl rfl (ah4 (h:=hbd) (by omega)) rfl<|fz 71 J J<|?_
      exact rzI rfl (asd hd0 ea ed (fun e=>hc50 (alt.2 e.2)))
    ·
     refine cl rfl (afU (neg:=n) (h:=hba) (by omega)) rfl<|cl rfl (ah4 (h:=hbd) (by omega)) rfl<|fz 71 J J<|?_
     exact rzI rfl (asd hd0 ea ed (fun e=>hg46 (alt.2 e.1)))
   ·
    have hg1:=aBi hd0 hc25
    have ea:a=a/Nat.gcd a d:=by rw[hg1,qT]
    have ed:d=d/Nat.gcd a d:=by rw[hg1,qT]
    have hba:=h
    have hbd:=k
    refine cl rfl (agQ (h:=hba) (by omega)) rfl<|?_
    refine cs 46 J J J (fun hg46=>?_) (fun hg46=>?_)
    ·
     refine cl rfl (agQ (h:=hbd) (by omega)) rfl<|?_
     refine br J J J (fun hc50=>?_) (fun hc50=>?_)
     ·
      have hs2:=alt.1 hc50
      refine cl rfl (aoO (alt.1 hg46)) rfl<|cl rfl (anS (by have:=alt.1 hc50;omega)) rfl<|?_
      exact rzI rfl (axN hd0 ea ed (alt.1 hg46) (alt.1 hc50))
     ·
      refine cl rfl (afU (neg:=n) (h:=hba) (by omega)) rfl<|cl rfl (ah4 (h:=hbd) (by omega)) rfl<|fz 71 J J<|?_
      exact rzI rfl (asd hd0 ea ed (fun e=>hc50 (alt.2 e.2)))
    ·
     refine cl rfl (afU (neg:=n) (h:=hba) (by omega)) rfl<|cl rfl (ah4 (h:=hbd) (by omega)) rfl<|fz 71 J J<|?_
     exact rzI rfl (asd hd0 ea ed (fun e=>hg46 (alt.2 e.1)))
theorem adA{m:Int}{i:Nat}[h:BI m i](hi:i≤400000000:=by decide):PF GB prog 250 [eI m] (eF (m:Rat)):=by
 refine fn func250 J J ntmps250 J J (fun C=>?_)
 refine rf (fu:=⟨0⟩) J J<|?_
 refine eqF 4 (.d (dN 1)) rfl (by unfold dN;rw[akd];rfl) ?_
 refine gx rfl<|cl rfl (adc (n:=decide (m<0)) (a:=m.natAbs) (d:=1) (by omega)) rfl<|?_
 exact rz rfl (by rw[acB,show mkRat m 1=(m:Rat) from pR ..];rfl)
theorem ahP{q:Rat}:PF GB prog 251 [eF q] (vB (decide (q=0))):=by
 refine fn func251 J J ntmps251 J J (fun C=>?_)
 refine cs 6 J J J (fun hg6=>?_) (fun hg6=>?_)
 ·
  exact rz rfl (by rw[al2 (bgF hg6)];show DV.v (.bool (decide _))= .v (.bool _);congr 2;exact decide_eq_decide.2 ⟨fun e=>kQ.1 e,fun e=>by rw[e];rfl⟩)
 ·
  exact rz rfl (by rw[decide_eq_false (an9 (aBL hg6))];rfl)
theorem aqr{m:Int}(h:m.natAbs<9223372036854775808):PF GB prog 266 [vI m] (.v (.int .u64 (m.natAbs:Nat))):=by
 refine fn func266 J J ntmps266 J J (fun C=>?_)
 refine br J J J (fun hc4=>?_) (fun hc4=>?_)
 ·
  exact rz rfl (by show DV.v (.int _ _)=_;congr 2;omega)
 ·
  exact rz rfl (by show DV.v (.int _ _)=_;congr 2;omega)
theorem ahv{q:Rat}{i:Nat}[h:BQ q i](hi:i≤900000000:=by decide):PF GB prog 190 [eF q] (dN q.den):=by
 refine fn func190 J J ntmps190 J J (fun C=>?_)
 refine br (v1:=fun hc5=>by simp only[aag];exact hc5) (fu2:=⟨6⟩) J J J (fun hc5=>?_) (fun hc5=>?_)
 ·
  refine cl rfl (ah4 (a:=q.den) (by omega)) rfl<|?_
  exact rz J J
 ·
  have hd:=q.den_nz
  have hs:=acV (anb hc5)
  refine eqF 13 (.d (vI ((q.den:Int)-1))) rfl (by rw[anq (anb hc5)]) ?_
  refine gx (fu:=⟨2⟩) rfl<|?_
  refine eqF 15 (.d (.v (.int .u64 (q.den:Nat)))) rfl (by congr 3;omega) ?_
  refine gx rfl<|cl rfl (afP (a:=q.den) (by omega)) rfl<|?_
  exact rz J J
theorem aiE{q:Rat}{i:Nat}[h:BQ q i](hi:i≤900000000:=by decide):PF GB prog 189 [eF q] (eI q.num):=by
 refine fn func189 J J ntmps189 J J (fun C=>?_)
 refine br (v1:=fun hc5=>by simp only[aag];exact hc5) (fu2:=⟨6⟩) J J J (fun hc5=>?_) (fun hc5=>?_)
 ·
  refine cl rfl (afU (neg:=decide (q.num<0)) (a:=q.num.natAbs) (by omega)) rfl<|?_
  exact rz rfl (by rw[acB];rfl)
 ·
  have hs:=acS (anb hc5)
  refine eqF 13 (.d (vI q.num)) rfl (by rw[al2 (anb hc5)]) ?_
  refine gx rfl<|cl rfl (agK (by omega) (by omega)) rfl<|?_
  exact rz J J
theorem ad3{q:Rat}{i:Nat}[h:BQ q i](hi:i≤900000000:=by decide):PF GB prog 119 [eF q] (eF (-q)):=by
 refine fn func119 J J ntmps119 J J (fun C=>?_)
 refine br (v1:=fun hc5=>by simp only[aag];exact hc5) (fu2:=⟨6⟩) J J J (fun hc5=>?_) (fun hc5=>?_)
 ·
  refine cl (fu:=⟨6⟩) (hv:=by simp only[aag];exact hc5) rfl (axd (m:=q.num) (by omega)) rfl<|bxf J J<|?_
  exact rzI rfl (aAq (q:= -q) (fun k=>bgT hc5 (by rw[kK,hJ,mN] at k;exact k)) (by rw[kK]) (by rw[kK]) (mN q) rfl)
 ·
  have hs:=acS (anb hc5)
  refine eqF 21 (.d (vI q.num)) rfl (by rw[al2 (anb hc5)]) ?_
  refine gx rfl<|?_
  exact rzI rfl (aqO (q:= -q) (fun k=>k (by rw[kK,hJ,mN];exact⟨hs,acV (anb hc5)⟩)) (by rw[kK]) (by rw[mN,anq (anb hc5)]) rfl)
theorem acm{q:Rat}{i:Nat}[h:BQ q i](hi:i≤900000000:=by decide):PF GB prog 115 [eF q] (vI q.num.sign):=by
 refine fn func115 J J ntmps115 J J (fun C=>?_)
 refine br (v1:=fun hc3=>by simp only[aag];exact hc3) J J J (fun hc3=>?_) (fun hc3=>?_)
 ·
  refine cl rfl (ap8 (n:=decide (q.num<0)) (a:=q.num.natAbs) (by omega)) rfl<|?_
  exact rz rfl (by rw[acB];rfl)
 ·
  have hs:=al2 (anb hc3)
  refine br J J J (fun hc13=>?_) (fun hc13=>?_)
  ·
   exact rz rfl (by rw[dJ (by omega)];rfl)
  ·
   refine br J J J (fun hc17=>?_) (fun hc17=>?_)
   ·
    exact rz rfl (by rw[dV (by omega)];rfl)
   ·
    exact rz rfl (by rw[show q.num=0 by omega];rfl)
end Go.Sx
end
