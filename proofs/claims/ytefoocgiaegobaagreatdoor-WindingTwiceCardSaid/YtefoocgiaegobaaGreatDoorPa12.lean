import Derived.Test.YtefoocgiaegobaaGreatDoorPa11
import Derived.WalkKit
import Derived.LaidEql
import Derived.Stop.Asserts
import Derived.RowKitTokens
set_option linter.all false
set_option maxHeartbeats 1000000
set_option maxRecDepth 100000
section
namespace Go.Sx
open Go Go.Proofs Tryz
variable {GB:Gh}
instance BI.zv (neg:Bool) (m i:Nat) [h:BN m i]:BI (zv neg m) i:=⟨by rw[nA];exact h.h⟩
section
variable {GB:Gh} {C:aA} {n:Nat} {Q0:Exit->Act->World->Prop} {fr fr':ao} {own own':aC} {cf cf':Cf} {vc:List Prop}
def M8(fr:ao)(cf:Cf):Option Int:=match bF fr cf with
 |some ⟨_, .convert t t' x,_,_,_,_⟩=>match cD tt t,cD tt t' with
  |some ⟨.int .i64,_,_,_⟩,some ⟨.int .u64,_,_,_⟩=>match aD (bh fr cf) x with
   |some (.d (.v (.int .i64 p)))=>some p
   |_=>none
  |_,_=>none
 |_=>none
def U8[fu:Fu]{p:Int}(q:Int)(h:M8 fr cf=some p)(e:p%18446744073709551616=q)(hgo:cg tt n fu.n fr own cf (.d (.v (.int .u64 q))) [] []=⟨vc,fr',own',cf'⟩)(k:aj prog GB C n Q0 fr' own' cf')
  (hv:ah vc:=by first|exact trivial|(simp only[ah];omega)):aj prog GB C n Q0 fr own cf:=by
 unfold M8 at h;split at h<;>try (cases h;done)
 rename_i hh;split at h<;>try (cases h;done)
 rename_i hT hT';split at h<;>cases h;rename_i hx;have:=t6 (d6 _ _ hT) J;have:=t6 (d6 _ _ hT') J;refine us hh (.x1 hx fun ρ G ov a w y _ r h1 h2=>?_) hgo hv k;rw[cH] at h2;subst h2;refine⟨_,cH.2 J,?_⟩;rw[<-e,<-lg];exact y7 h1
def NS(fr:ao)(cf:Cf):Option Int:=match bF fr cf with
 |some ⟨_, .unOp .neg _ x,_,_,_,_⟩=>match aD (bh fr cf) x with
  |some (.d (.v (.int .u64 p)))=>some p
  |_=>none
 |_=>none
def Ud[fu:Fu]{p:Int}(q:Int)(h:NS fr cf=some p)(e:(0-p)%18446744073709551616=q)(hgo:cg tt n fu.n fr own cf (.d (.v (.int .u64 q))) [] []=⟨vc,fr',own',cf'⟩)(k:aj prog GB C n Q0 fr' own' cf')
  (hv:ah vc:=by first|exact trivial|(simp only[ah];omega)):aj prog GB C n Q0 fr own cf:=by
 unfold NS at h;split at h<;>try (cases h;done)
 rename_i hh;split at h<;>cases h;rename_i hx;refine us hh (.x1 hx fun ρ G ov a w y _ r h1 h2=>?_) hgo hv k;rw[cH] at h2;subst h2;refine⟨_,cH.2 J,?_⟩;rw[<-e,<-lg];exact Dm h1
end
def J4{n:Int}(h0: -4611686018427387904<=n)(h1:n<=4611686018427387904):PF GB prog 157 [.v (.int .i64 n)] (eI n):=by
 refine fn func157 J J ntmps157 J J (fun C=>?_);refine br (fu1:=⟨3⟩) (fu2:=⟨6⟩) J J J (fun hc4=>?_) (fun hc4=>?_)
 .
  refine U8 (fu:=⟨0⟩) (18446744073709551616+n) J (by omega) J<|Ud (n.natAbs:Nat) J (by omega) J<|cl J (pH (u:=n.natAbs) (by omega)) J<|?_;refine cl J mF J<|?_;exact rz J (sT (by unfold zv;rw[if_pos J];omega))
 .
  refine ak 11 (.d (.v (.int .u64 (n.natAbs:Nat)))) J (by show FX.d (.v (.int _ _))= .d (.v (.int _ _));congr 3;omega) ?_;refine gx J<|cl J (pH (u:=n.natAbs) (by omega)) J<|cl J mF J<|?_;exact rz J (sT (by unfold zv;rw[if_neg (by decide)];omega))
def SB{z:Int}:PF GB prog 123 [eI z] (vI z.sign):=by
 have hl:=eO (dg z.natAbs);have hz:= @ve z.natAbs;refine fn func123 J J ntmps123 J J (fun C=>?_);refine br J J J (fun hc6=>?_) (fun hc6=>?_)
 .
  exact rz J (by show DV.v (.int _ 0)=DV.v (.int _ _);rw[show z=0 by omega];rfl)
 .
  refine bd J J J (fun hc8=>?_) (fun hc8=>?_)
  .
   exact rz J (by show DV.v (.int _ (-1))=DV.v (.int _ _);rw[eJ (by omega)])
  .
   exact rz J (by show DV.v (.int _ 1)=DV.v (.int _ _);rw[fQ (by omega)])
def WN{z:Int}:PF GB prog 124 [eI z] (eI (-z)):=by
 refine fn func124 J J ntmps124 J J (fun C=>?_);refine cl J mF J<|?_;exact rz J (sT (P8 z))
def XS{a b:Int}(h:decide (a<0)=decide (b<0)):zv (decide (a<0)) (a.natAbs+b.natAbs)=a+b:=by
 unfold zv;have h':a<0↔b<0:=by simpa using h
 by_cases q:a<0
 ·have:=h'.1 q
  simp[q];omega
 ·have: ¬b<0:=fun w=>q (h'.2 w)
  simp[q];omega
def TW{a b:Int}(h: ¬decide (a<0)=decide (b<0))(k:a.natAbs<b.natAbs):zv (decide (b<0)) (b.natAbs-a.natAbs)=a+b:=by
 unfold zv;have h': ¬(a<0↔b<0):=by simpa using h
 by_cases q:b<0
 ·have: ¬a<0:=fun w=>h' ⟨fun _=>q,fun _=>w⟩
  simp[q];omega
 ·have:a<0:=Int.not_le.1 fun w=>h' ⟨fun e=>by omega,fun e=>absurd e q⟩
  simp[q];omega
def PA{a b:Int}(h: ¬decide (a<0)=decide (b<0))(k:b.natAbs<=a.natAbs):zv (decide (a<0)) (a.natAbs-b.natAbs)=a+b:=by
 unfold zv;have h': ¬(a<0↔b<0):=by simpa using h
 by_cases q:a<0
 ·have: ¬b<0:=fun w=>h' ⟨fun _=>w,fun _=>q⟩
  simp[q];omega
 ·have:b<0:=Int.not_le.1 fun w=>h' ⟨fun e=>absurd e q,fun e=>by omega⟩
  simp[q];omega
def D3{a b:Int}{i j:Nat}[ha:BI a i][hb:BI b j](hi:i<=400000000:=by decide)(hj:j<=400000000:=by decide):PF GB prog 240 [eI a,eI b] (eI (a+b)):=by
 have hba:=lE ha.h;have hbb:=lE hb.h;refine fn (fu:=⟨15⟩) func240 J J ntmps240 J J (fun C=>?_);refine ak 9 (.d (.v (.bool (decide (decide (a<0)=decide (b<0)))))) J (by congr 2) ?_;refine gx J<|?_;refine bd J J J (fun hc9=>?_) (fun hc9=>?_)
 .
  refine cl J (S7 (by omega) (by omega)) J<|cl J mF J<|?_;exact rz J (sT (XS hc9))
 .
  refine cl J (xH (by omega) (by omega)) J<|?_;refine br J J J (fun hc23=>?_) (fun hc23=>?_)
  .
   refine cl J (Fw (by have:=uM.1 hc23;omega) (by omega)) J<|cl J mF J<|?_;exact rz J (sT (TW hc9 (uM.1 hc23)))
  .
   refine cl J (Fw (qL fun q=>hc23 (uM.2 q)) (by omega)) J<|cl J mF J<|?_;exact rz J (sT (PA hc9 (qL fun q=>hc23 (uM.2 q))))
def sQ{a b:Int}{i j:Nat}[ha:BI a i][hb:BI b j](hi:i<=400000000:=by decide)(hj:j<=400000000:=by decide):PF GB prog 238 [eI a,eI b] (eI (a*b)):=by
 refine fn func238 J J ntmps238 J J (fun C=>?_);refine cl J (tw (by omega) (by omega)) J<|cl J mF J<|?_;exact rz J (sT (Xm a b))
def lO{q:Rat}:PF GB prog 195 [eQ q] (dN q.den):=by
 refine fn func195 J J ntmps195 J J (fun C=>?_);refine br J J J (fun hc6=>?_) (fun hc6=>?_)
 .
  refine cl J DA J<|?_;exact rz J (by rw[(vC q.den (lf q)).1 (by omega)];rfl)
 .
  exact rz J (by exact Mq (fun e=>hc6 (by exact congrArg Int.ofNat ((vC q.den (lf q)).2 e))))
def IU{n k:Nat}[h:BN n k](hk:k<=500000000):(dg n).length<=100000000:=by have:=lE h.h;omega
def wq{x:Int}{d i j:Nat}[hx:BI x i][hd:BN d j](hd0:0<d)(hi:i<=200000000:=by decide)(hj:j<=200000000:=by decide):PF GB prog 156 [eI x,dN d] (eQ (mkRat x d)):=by
 obtain⟨q,hq⟩: ∃q,q=mkRat x d:=⟨_,rfl⟩;obtain⟨g,hg⟩: ∃g,g=Nat.gcd x.natAbs d:=⟨_,rfl⟩;have hg0:0<g:=hg▸mS _ hd0;haveI hgB:BN g (i+j):=hg▸inferInstance;have hg1:(dg g).length<=100000000:=IU (k:=i+j) (by omega);have ho1:(dg 1).length<=100000000:=by rw[Bp];decide
 haveI hqB:BQ q (i+j):=hq▸tS hd0 (dK hx.h (bZ (by decide) (by omega))) (dK hd.h (bZ (by decide) (by omega)));refine fn func156 J J ntmps156 J J (fun C=>?_);refine cl (fu:=⟨0⟩) J (Of (by omega) (by omega)) J<|?_;refine ak 11 (.d (dN g)) J (by rw[hg]) ?_;refine gx (fu:=⟨4⟩) J<|?_;refine mg (fu:=⟨1⟩) (X:=Unit) (fun _=>[(1, .d (dN q.den)),(2, .ov 2 0),(4, .ov 4 0)]) (fun _=>[(4,some (.o 79 [.ff, .nl, .nl] true)),(2,some (.o 77 [.d (.v (.bool (decide (q.num<0)))), .d (dN q.num.natAbs)] true))]) (fun _=>True) [1,2,4] [4,2] rfl ?_ (fun _=>J) (fun _ hm=>?_)
 .
  refine gx J<|cl J DA J<|cl J (xH hg1 ho1) J<|?_;refine br J J J (fun hc15=>?_) (fun hc15=>?_)
  .
   refine cl J (Dd hg0 (by omega) (by omega)) J<|cl (fu:=⟨0⟩) J mF J<|?_;refine ak 26 (.d (eI q.num)) J (by show FX.d (eI (zv _ _))=_;rw[hg,Hc hd0,hq]) ?_;refine gx J<|cl (fu:=⟨2⟩) J (Dd hg0 (by omega) (by omega)) J<|?_;refine ak 31 (.d (dN q.den)) J (by rw[hg,H5 hd0,hq]) ?_;refine gx J<|?_;exact at_ () trivial
  .
   have hm:=Om (x:=x) hd0 (by rw[<-hg];exact CX.1 (Decidable.not_not.1 hc15));rw[<-hq] at hm;refine ak 1 (.d (dN q.den)) J (by rw[hm.2]) ?_;exact at_ () trivial (hO:=⟨J,by rw[hm.1];rfl,trivial⟩)
 .
  refine mg (X:=Unit) (fun _=>[(1, .d (dD q.den)),(2, .ov 2 0),(4, .ov 4 0)]) (fun _=>[(4,some (.o 79 [.ff, .nl, .nl] true)),(2,some (.o 77 [.d (.v (.bool (decide (q.num<0)))), .d (dN q.num.natAbs)] true))]) (fun _=>True) [1,2,4] [4,2] rfl ?_ (fun _=>J) (fun _ hm=>?_)
  .
   refine gx J<|cl J DA J<|cl J (xH (IU (k:=i+j) (by omega)) ho1) J<|?_;refine br J J J (fun hc36=>?_) (fun hc36=>?_)
   .
    refine XN 1 J ?_;refine ak 1 (.d (dD q.den)) J (by rw[CX.1 hc36];rfl) ?_;exact at_ () trivial
   .
    refine ak 1 (.d (dD q.den)) J (by rw[Mq (fun e=>hc36 (CX.2 e))]) ?_;exact at_ () trivial
  .
   exact rz J (by rw[<-hq];rfl)
def Jc(a:Rat):mkRat a.num a.den=a:=by simp[Rat.mkRat_self]
def X8{a b:Rat}(h:b≠0):a/b=mkRat (a.num*zv (decide (b.num<0)) b.den) (a.den*b.num.natAbs):=by
 rw[nV];have ha:(a.num:Rat)/(a.den:Rat)=a:=by rw[<-nV,Jc]
 have hb:(b.num:Rat)/(b.den:Rat)=b:=by rw[<-nV,Jc]
 have h1:(a.den:Rat)≠0:=by have:=a.den_nz;exact_mod_cast this
 have h2:(b.den:Rat)≠0:=by have:=b.den_nz;exact_mod_cast this
 have h3:(b.num:Rat)≠0:=by
  intro e;rw[e] at hb;apply h;rw[<-hb];grind
 rw[cR,Rat.natCast_mul];by_cases q:b.num<0
 ·have e1:((zv (decide (b.num<0)) b.den:Int):Rat)= -(b.den:Rat):=by
   unfold zv;rw[if_pos (by simpa using q),pW];rfl
  have e2:((b.num.natAbs:Nat):Rat)= -(b.num:Rat):=by
   have:((b.num.natAbs:Nat):Int)= -b.num:=by omega
   rw[<-pW,<-this];rfl
  rw[e1,e2];generalize (a.num:Rat)=an at*;generalize (a.den:Rat)=ad at*;generalize (b.num:Rat)=bn at*;generalize (b.den:Rat)=bd at*;subst ha hb;grind
 ·have e1:((zv (decide (b.num<0)) b.den:Int):Rat)=(b.den:Rat):=by
   unfold zv;rw[if_neg (by simpa using q)];rfl
  have e2:((b.num.natAbs:Nat):Rat)=(b.num:Rat):=by
   have:((b.num.natAbs:Nat):Int)=b.num:=by omega
   rw[<-this];rfl
  rw[e1,e2];generalize (a.num:Rat)=an at*;generalize (a.den:Rat)=ad at*;generalize (b.num:Rat)=bn at*;generalize (b.den:Rat)=bd at*;subst ha hb;grind
def Yh{q:Rat}{n:Int}{d:Nat}(hd:0<d)(h:q*(d:Rat)=(n:Rat)):q.num.natAbs<=n.natAbs/\q.den<=d:=by
 have e:q=mkRat n d:=by
  rw[nV];have:(d:Rat)≠0:=by exact_mod_cast (by omega:d≠0)
  rw[<-h];grind
 rw[e,Rat.num_mkRat,Rat.den_mkRat,if_neg (by omega),if_neg (by omega)];exact⟨mJ n (d.gcd n.natAbs:Nat),jY ..⟩
theorem BQ.of_frac{q:Rat}{n:Int}{d i:Nat}(hd:0<d)(h:q*(d:Rat)=(n:Rat))(hn:n.natAbs<2^i)(hdi:d<2^i):BQ q i:=by
 have:=Yh hd h;exact⟨by omega,by omega⟩
def Qb{b:Rat}(h:b≠0):0<b.num.natAbs:=by
 have:b.num≠0:=fun e=>h (lV.1 e);omega
instance BQ.over (a b:Rat) (i j:Nat) [ha:BQ a i] [hb:BQ b j]:BQ (a/b) (i+j):=by
 by_cases h:b=0
 ·subst h
  rw[Rat.div_def,Rat.inv_zero,Rat.mul_zero];have h2:=ha.hd;have h3:0<a.den:=lf a;have h4:2^i*1<=2^i*2^j:=fX _ (dS (by decide));rw[<-eK] at h4;exact⟨by show 0<_;omega,by show 1<_;omega⟩
 ·rw[X8 h]
  have hb0:=Qb h;refine tS (iU (lf a) hb0) ?_ (mG ha.hd hb.hn);rw[gN,nA];exact mG ha.hn hb.hd
def xa{n:Int}(h0: -4611686018427387904<=n)(h1:n<=4611686018427387904):PF GB prog 101 [.v (.int .i64 n)] (eQ (n:Rat)):=by
 refine fn func101 J J ntmps101 J J (fun C=>?_);refine cl J (J4 (by omega) (by omega)) J<|?_;exact rz J (by rw[Dc];rfl)
def Gr{q:Rat}:PF GB prog 44 [eQ q] (vI q.num.sign):=by
 refine fn func44 J J ntmps44 J J (fun C=>?_);refine cl J SB J<|?_;exact rz J J
def Ty{q:Rat}:PF GB prog 45 [eQ q] (eQ (-q)):=by
 refine fn func45 J J ntmps45 J J (fun C=>?_);refine cl J WN J<|?_;exact rz J (by unfold eQ;rw[lS,oZ];rfl)
def z7{a b:Rat}{i j:Nat}[ha:BQ a i][hb:BQ b j](hi:i<=20000000:=by decide)(hj:j<=20000000:=by decide):PF GB prog 149 [eQ a,eQ b] (eQ (a*b)):=by
 have had:=lf a;have hbd:=lf b;have hdp:=iU had hbd;have e1:=vC a.den had;have e2:=vC b.den hbd;refine fn func149 J J ntmps149 J J (fun C=>?_);refine cs 9 J J J (fun hg9=>?_) (fun hg9=>?_)
 .
  refine br J J J (fun hc14=>?_) (fun hc14=>?_)
  .
   refine cl J (sQ (a:=a.num) (b:=b.num) (by omega) (by omega)) J<|?_;exact rz J (by rw[Wq (e1.1 (by omega)) (e2.1 (by omega)),Dc];rfl)
  .
   refine cl J (sQ (a:=a.num) (b:=b.num) (by omega) (by omega)) J<|cl J lO J<|cl J lO J<|cl J (tw (by omega) (by omega)) J<|?_;refine cl J (wq hdp (by omega) (by omega)) J<|?_;exact rz J (by rw[w8];rfl)
 .
  refine cl J (sQ (a:=a.num) (b:=b.num) (by omega) (by omega)) J<|cl J lO J<|cl J lO J<|cl J (tw (by omega) (by omega)) J<|?_;refine cl J (wq hdp (by omega) (by omega)) J<|?_;exact rz J (by rw[w8];rfl)
def CP{a b:Rat}{i j:Nat}[ha:BQ a i][hb:BQ b j](hi:i<=20000000:=by decide)(hj:j<=20000000:=by decide):PF GB prog 148 [eQ a,eQ b] (eQ (a+b)):=by
 have had:=lf a;have hbd:=lf b;have hdp:=iU had hbd;have e1:=vC a.den had;have e2:=vC b.den hbd;refine fn func148 J J ntmps148 J J (fun C=>?_);refine cs 9 J J J (fun hg9=>?_) (fun hg9=>?_)
 .
  refine br J J J (fun hc14=>?_) (fun hc14=>?_)
  .
   refine cl J (D3 (by omega) (by omega)) J<|?_;exact rz J (by rw[Vp (e1.1 (by omega)) (e2.1 (by omega)),Dc];rfl)
  .
   refine cl J lO J<|cl J mF J<|cl J (sQ (a:=a.num) (b:=zv false b.den) (by omega) (by omega)) J<|cl J lO J<|cl J mF J<|?_;refine cl J (sQ (a:=b.num) (b:=zv false a.den) (by omega) (by omega)) J<|cl J (D3 (by omega) (by omega)) J<|cl J lO J<|?_;refine cl J lO J<|cl J (tw (by omega) (by omega)) J<|cl J (wq hdp (by omega) (by omega)) J<|?_;exact rz J (by rw[vO];rfl)
 .
  refine cl J lO J<|cl J mF J<|cl J (sQ (a:=a.num) (b:=zv false b.den) (by omega) (by omega)) J<|cl J lO J<|?_;refine cl J mF J<|cl J (sQ (a:=b.num) (b:=zv false a.den) (by omega) (by omega)) J<|cl J (D3 (by omega) (by omega)) J<|?_;refine cl J lO J<|cl J lO J<|cl J (tw (by omega) (by omega)) J<|cl J (wq hdp (by omega) (by omega)) J<|?_;exact rz J (by rw[vO];rfl)
def NK{a b:Rat}{i j:Nat}[ha:BQ a i][hb:BQ b j](hi:i<=20000000:=by decide)(hj:j<=20000000:=by decide):PF GB prog 163 [eQ a,eQ b] (eQ (a-b)):=by
 refine fn func163 J J ntmps163 J J (fun C=>?_);refine cl J (Ty (q:=b)) J<|cl J (CP (a:=a) (b:= -b) hi hj) J<|?_;exact rz J (by rw[Rat.sub_eq_add_neg];rfl)
def xU{a b:Rat}{i j:Nat}[ha:BQ a i][hb:BQ b j](hi:i<=20000000:=by decide)(hj:j<=20000000:=by decide):PF GB prog 115 [eQ a,eQ b] (vI (bO a b)):=by
 refine fn func115 J J ntmps115 J J (fun C=>?_);refine cl J (NK hi hj) J<|cl J Gr J<|?_;exact rz J (by show vI _=vI _;rw[AP])
instance BI.two:BI 2 2:=⟨by decide⟩
def Jg{m:Int}{g:Nat}(hg:(g:Int)∣m)(hb:m.natAbs<4611686018427387904):IntKind.i64.wrap (m.tdiv g)=m/g:=by
 rw[Int.tdiv_eq_ediv_of_dvd hg];have:=mJ m g;exact XQ (by omega)
def tm(a b:Int):Int:=if(a*b).natAbs<4611686018427387904 then a*b else 0
def FL(a b:Int):(tm a b).natAbs<4611686018427387904:=by unfold tm;split<;>omega
def v7{a b:Int}(h:(a*b).natAbs<4611686018427387904):tm a b=a*b:=if_pos h
def LR{a b:Int}(h: ¬(a*b).natAbs<4611686018427387904):DV.tp [vI 0, .v (.bool false)]= .tp [vI (tm a b),vB (decide ((a*b).natAbs<4611686018427387904))]:=by unfold tm;rw[if_neg h,decide_eq_false h];rfl
def IF{a b:Int}{x:Int}(h:(a*b).natAbs<4611686018427387904)(e:x=a*b):DV.tp [vI x, .v (.bool true)]= .tp [vI (tm a b),vB (decide ((a*b).natAbs<4611686018427387904))]:=by unfold tm;rw[if_pos h,decide_eq_true h,e];rfl
def MW(n:Nat):eI (n:Int)= .ag [.v (.bool false),dN n]:=by unfold eI;rw[decide_eq_false (by omega),kS]
def Vy{p q:Rat}(hp:p.den=1)(hq:q.den=1):rgcd p q=((Nat.gcd p.num.natAbs q.num.natAbs:Nat):Int):=by
 conv=>lhs;rw[Ac hp,Ac hq]
 exact FN _ _
def Qt(q:Rat):mkRat (zv (decide (q.num<0)) q.den) q.num.natAbs=q⁻¹:=by
 rw[Rat.inv_def];by_cases h:q.num<0
 ·rw[decide_eq_true h];exact YA h
 ·rw[decide_eq_false h,<-Rat.divInt_ofNat,mW (by omega)];rfl
instance BQ.inv (q:Rat) (i:Nat) [h:BQ q i]:BQ q⁻¹ i:=by
 have h1:=h.hn;have h2:=h.hd;have h3:=q.den_nz;rcases lJ q.num 0 with k|k|k
 ·obtain⟨e1,e2⟩:=Kv k;exact⟨by omega,by omega⟩
 ·have e:q=0:=lV.1 k
  have e0:(0:Rat)⁻¹=0:=Rat.inv_zero;rw[e] at h1 h2⊢;rw[e0];exact⟨h1,h2⟩
 ·obtain⟨e1,e2⟩:=Hr k;exact⟨by omega,by omega⟩
instance BQ.half:BQ (mkRat 1 2) 2:=⟨by decide,by decide⟩
def OS{x y:Nat}(hx:x<18446744073709551616)(hy:y<18446744073709551616):PF GB prog 359 [.v (.int .u64 (x:Nat)), .v (.int .u64 (y:Nat))] (.tp [.v (.int .u64 ((x*y/18446744073709551616:Nat):Int)), .v (.int .u64 ((x*y%18446744073709551616:Nat):Int))]):=fun G vs _ hv=>by
 obtain⟨v,m,rfl,h1,h2⟩:=cb.1 hv;obtain⟨u,m',rfl,h3,h4⟩:=cb.1 h2
 cases cG.1 h4
 rw[bt.1 h1,bt.1 h3];exact(VW hx hy).mono fun v G' _ h=>by subst h;exact mD.2 ⟨_,J, .cons (bt.2 J) (.cons (bt.2 J) .nil)⟩
def K6{a b:Nat}(ha:a<18446744073709551616)(hb:b<18446744073709551616):PF GB prog 349 [.v (.int .u64 (a:Nat)), .v (.int .u64 (b:Nat))] (.v (.int .u64 (Nat.gcd a b:Nat))):=by
 refine fn func349 J J ntmps349 J J (fun C=>?_);refine lp (X:=Nat×Nat) (fun⟨u,v⟩=>[(1, .d (.v (.int .u64 (v:Nat)))),(0, .d (.v (.int .u64 (u:Nat))))]) (fun⟨u,v⟩=>[]) (fun⟨u,v⟩=>u<18446744073709551616/\v<18446744073709551616/\Nat.gcd u v=Nat.gcd a b) (fun⟨u,v⟩=>v) (a,b) J ⟨ha,hb,J⟩ (fun _=>J) (fun⟨u,v⟩ hk=>?_);dsimp only at hk⊢;obtain⟨h1,h2,h3⟩:=hk;refine br (v1:=fun hc6=>by simp only[ah];exact⟨by omega,by kernel_rfl⟩) J J J (fun hc6=>?_) (fun hc6=>?_)
 .
  have hm:=cN u (show 0<v by omega);exact at_ (v,u%v) (by dsimp only;exact⟨⟨h2,by omega,by rw[<-h3,gS u v,rM v u,gS]⟩,hm⟩)
 .
  exact rz J (by rw[<-h3,show v=0 by omega,lM];rfl)
def xe{m:Int}(h:m.natAbs<9223372036854775808):PF GB prog 199 [vI m] (eF (m:Rat)):=by
 refine fn func199 J J ntmps199 J J (fun C=>?_);refine cs 5 J J J (fun hg5=>?_) (fun hg5=>?_)
 .
  refine cl J (Da (m:=m) (by omega) (by omega)) J<|rf (fu:=⟨0⟩) J J<|?_;refine ak 11 (.d (dN 1)) J (by unfold dN;rw[Bp];rfl) ?_;refine gx J<|cl J (tn (n:=decide (m<0)) (a:=m.natAbs) (i:=63) (h:=⟨h⟩) (d:=1)) J<|?_;exact rz J (by rw[km,show mkRat m 1=(m:Rat) from Rat.mkRat_one ..];rfl)
 .
  refine br J J J (fun hc8=>?_) (fun hc8=>?_)
  .
   refine cl J (Da (m:=m) (by omega) (by omega)) J<|rf (fu:=⟨0⟩) J J<|?_;refine ak 11 (.d (dN 1)) J (by unfold dN;rw[Bp];rfl) ?_;refine gx J<|cl J (tn (n:=decide (m<0)) (a:=m.natAbs) (i:=63) (h:=⟨h⟩) (d:=1)) J<|?_;exact rz J (by rw[km,show mkRat m 1=(m:Rat) from Rat.mkRat_one ..];rfl)
  .
   exact i7 J (Lj (by omega))
def xb{a b:Int}(ha:a.natAbs<4611686018427387904)(hb:b.natAbs<4611686018427387904):PF GB prog 299 [vI a,vI b] (.tp [vI (tm a b),vB (decide ((a*b).natAbs<4611686018427387904))]):=by
 have hab:=gN a b;refine fn func299 J J ntmps299 J J (fun C=>?_);refine cl J (wM (m:=a) (by omega)) J<|cl J (wM (m:=b) (by omega)) J<|cl J (OS (x:=a.natAbs) (y:=b.natAbs) (by omega) (by omega)) J<|?_;refine cs 18 J J J (fun hg18=>?_) (fun hg18=>?_)
 .
  exact rz J (LR (by omega))
 .
  refine br J J J (fun hc21=>?_) (fun hc21=>?_)
  .
   exact rz J (LR (by omega))
  .
   refine bb J J J (fun hc26=>?_) (fun hc26=>?_)
   .
    have hs:=Mg a b;rw[if_neg (by simpa using hc26)] at hs;exact rz J (IF (by omega) (by rw[hs,<-hab];omega))
   .
    have hs:=Mg a b;rw[if_pos (by simpa using hc26)] at hs;exact rz J (IF (by omega) (by rw[hs,<-hab];omega))
def K3{m:Int}{d:Nat}(h:m.natAbs<4611686018427387904)(h0:0<d)(hd:d<4611686018427387904):PF GB prog 300 [vI m,vI (d:Nat)] (eF (mkRat m d)):=by
 have hg:Nat.gcd m.natAbs d<=d:=Nat.gcd_le_right _ h0;have hg0:0<Nat.gcd m.natAbs d:=mS _ h0;obtain⟨e1,e2⟩:=Ln (m:=m) h0;have e3:=mJ m (Nat.gcd m.natAbs d:Nat);have e4:=jY d (Nat.gcd m.natAbs d);have e5:=Nat.div_pos hg hg0;refine fn func300 J J ntmps300 J J (fun C=>?_);refine cl J (wM (m:=m) (by omega)) J<|cl J (K6 (a:=m.natAbs) (b:=d) (by omega) (by omega)) J<|?_;refine br (fu1:=⟨4⟩) J J J (fun hc13=>?_) (fun hc13=>?_)
 .
  refine ak 16 (.d (vI (m/(Nat.gcd m.natAbs d:Nat)))) J (by rw[Jg (Int.dvd_natAbs.1 (pR.2 (jX _ _))) h];rfl) ?_;refine gx (fu:=⟨3⟩) J<|?_;refine ak 19 (.d (vI ((d/Nat.gcd m.natAbs d:Nat)))) J (by rw[Jg (pR.2 (kV _ _)) (by rw[kS];exact hd)];rfl) ?_;refine gx (hv:=by simp only[ah];exact⟨by kernel_rfl,by omega⟩) J<|?_;exact i7 J (pE (fun k=>k ⟨by rw[e1];omega,by rw[e2];omega⟩) e1 (by rw[e2]) J)
 .
  exact i7 J (by have h1:Nat.gcd m.natAbs d=1:=(by omega);rw[h1,rN] at e2;rw[h1,Int.natCast_one,Int.ediv_one] at e1;exact pE (fun k=>k ⟨by rw[e1];omega,by rw[e2];omega⟩) e1 (by rw[e2]) J)
def qf{p q:Rat}{i j:Nat}[h:BQ p i][k:BQ q j](hi:i<=100000000:=by decide)(hj:j<=100000000:=by decide):PF GB prog 207 [eF p,eF q] (eF (p*q)):=by
 refine fn (fu:=⟨8⟩) func207 J J ntmps207 J J (fun C=>?_);refine mg (X:=Unit) (fun _=>[(2, .ov 2 0),(3, .ov 3 0),(4, .ov 4 0)]) (fun _=>[(2,some (.o 139 [.d (vI (dt p)), .d (vI (dz p)), .d (di p)] true)),(3,some (.o 139 [.d (vI (dt q)), .d (vI (dz q)), .d (di q)] true)),(4,some (.o 139 [.d (.v (.int .i64 0)), .d (.v (.int .i64 0)), .d (.v (.pointer none))] true))]) (fun _=>True) [2,3,4] [2,3,4] rfl ?_ (fun _=>J) (fun _ _=>?_)
 .
  refine gx J<|?_;refine cs 12 J J J (fun hg12=>?_) (fun hg12=>?_)
  .
   refine br (fu1:=⟨4⟩) J J J (fun hc16=>?_) (fun hc16=>?_)
   .
    have hp:=qi hg12;have hq:=qi hc16;have p1:=lv hp;have p2:=mn hp;have p3:=n8 hp;have p4:=ol hp;have p5:=p.den_nz;have q1:=lv hq;have q2:=mn hq;have q3:=n8 hq;have q4:=ol hq;have q5:=q.den_nz;refine ak 19 (.d (vI p.num)) J (by rw[p1]) ?_;refine gx (fu:=⟨2⟩) J<|?_;refine ak 21 (.d (vI q.num)) J (by rw[q1]) ?_;refine gx J<|cl (fu:=⟨12⟩) J (xb (a:=p.num) (b:=q.num) (by omega) (by omega)) J<|?_;refine ak 28 (.d (vI (p.den:Nat))) J (by congr 3;omega) ?_;refine gx (fu:=⟨3⟩) J<|?_;refine ak 31 (.d (vI (q.den:Nat))) J (by congr 3;omega) ?_;refine gx J<|cl J (xb (a:=(p.den:Nat)) (b:=(q.den:Nat)) (by omega) (by omega)) J<|?_;refine csd 36 J J J (fun hg36=>?_) (fun hg36=>?_)
    .
     refine bd (fu1:=⟨3⟩) J J J (fun hc38=>?_) (fun hc38=>?_)
     .
      have hd1:p.den*q.den<4611686018427387904:=by omega
      refine ak 39 (.d (vI (p.num*q.num))) J (by rw[v7 hg36]) ?_;refine gx (fu:=⟨1⟩) J<|?_;refine ak 40 (.d (vI ((p.den*q.den:Nat)))) J (by rw[v7 hc38];rfl) ?_;refine gx J<|cl J (K3 (m:=p.num*q.num) (d:=p.den*q.den) hg36 (iU (by omega) (by omega)) hd1) J<|?_;exact rz J (by rw[<-w8];rfl)
     .
      exact at_ () trivial
    .
     exact at_ () trivial
   .
    exact at_ () trivial
  .
   exact at_ () trivial
 .
  refine cl J (s8 (q:=p) (by omega)) J<|cl J (s8 (q:=q) (by omega)) J<|cl J (FP (a:=p.num) (b:=q.num) (by omega) (by omega)) J<|?_;refine cl J (nC (q:=p) (by omega)) J<|cl J (nC (q:=q) (by omega)) J<|cl J (uB (a:=p.den) (b:=q.den) (by omega) (by omega)) J<|?_;refine cl J (tn (n:=decide (p.num*q.num<0)) (a:=(p.num*q.num).natAbs) (d:=p.den*q.den) (i:=i+j) (j:=i+j) (by omega) (by omega)) J<|?_;exact rz J (by rw[km,<-w8];rfl)
def wL{p q:Rat}{i j:Nat}[h:BQ p i][k:BQ q j](hi:i<=100000000:=by decide)(hj:j<=100000000:=by decide):PF GB prog 208 [eF p,eF q] (eF (p+q)):=by
 refine fn (fu:=⟨8⟩) func208 J J ntmps208 J J (fun C=>?_);refine mg (X:=Unit) (fun _=>[(2, .ov 2 0),(3, .ov 3 0),(4, .ov 4 0)]) (fun _=>[(2,some (.o 139 [.d (vI (dt p)), .d (vI (dz p)), .d (di p)] true)),(3,some (.o 139 [.d (vI (dt q)), .d (vI (dz q)), .d (di q)] true)),(4,some (.o 139 [.d (.v (.int .i64 0)), .d (.v (.int .i64 0)), .d (.v (.pointer none))] true))]) (fun _=>True) [2,3,4] [2,3,4] rfl ?_ (fun _=>J) (fun _ _=>?_)
 .
  refine gx J<|?_;refine cs 16 J J J (fun hg16=>?_) (fun hg16=>?_)
  .
   refine br (fu1:=⟨1⟩) J J J (fun hc20=>?_) (fun hc20=>?_)
   .
    have hp:=qi hg16;have hq:=qi hc20;have p1:=lv hp;have p2:=mn hp;have p3:=n8 hp;have p4:=ol hp;have p5:=p.den_nz;have q1:=lv hq;have q2:=mn hq;have q3:=n8 hq;have q4:=ol hq;have q5:=q.den_nz;refine mg (fu:=⟨4⟩) (X:=Unit) (fun _=>[(2, .ov 2 0),(3, .ov 3 0),(4, .ov 4 0)]) (fun _=>[(2,some (.o 139 [.d (vI (dt p)), .d (vI (dz p)), .d (di p)] true)),(3,some (.o 139 [.d (vI (dt q)), .d (vI (dz q)), .d (di q)] true)),(4,some (.o 139 [.d (.v (.int .i64 0)), .d (.v (.int .i64 0)), .d (.v (.pointer none))] true))]) (fun _=>True) [2,3,4] [2,3,4] rfl ?_ (fun _=>J) (fun _ _=>?_)
    .
     refine gx J<|?_;refine cs 24 J J J (fun hg24=>?_) (fun hg24=>?_)
     .
      refine br (fu1:=⟨4⟩) J J J (fun hc28=>?_) (fun hc28=>?_)
      .
       refine ak 30 (.d (vI p.num)) J (by rw[p1]) ?_;refine gx (fu:=⟨2⟩) J<|?_;refine ak 32 (.d (vI q.num)) J (by rw[q1]) ?_;refine gx J<|cl J (xe (m:=p.num+q.num) (by omega)) J<|?_;exact rz J (by rw[Ac (q:=p) (by omega),Ac (q:=q) (by omega),<-nT];rfl)
      .
       exact at_ () trivial
     .
      exact at_ () trivial
    .
     refine ak 37 (.d (vI p.num)) J (by rw[p1]) ?_;refine gx (fu:=⟨3⟩) J<|?_;refine ak 40 (.d (vI (q.den:Nat))) J (by congr 3;omega) ?_;refine gx J<|cl (fu:=⟨11⟩) J (xb (a:=p.num) (b:=(q.den:Nat)) (by omega) (by omega)) J<|?_;refine ak 46 (.d (vI q.num)) J (by rw[q1]) ?_;refine gx (fu:=⟨3⟩) J<|?_;refine ak 49 (.d (vI (p.den:Nat))) J (by congr 3;omega) ?_;refine gx J<|cl (fu:=⟨12⟩) J (xb (a:=q.num) (b:=(p.den:Nat)) (by omega) (by omega)) J<|?_;refine ak 56 (.d (vI (p.den:Nat))) J (by congr 3;omega) ?_;refine gx (fu:=⟨3⟩) J<|?_;refine ak 59 (.d (vI (q.den:Nat))) J (by congr 3;omega) ?_;refine gx J<|cl (fu:=⟨3⟩) J (xb (a:=(p.den:Nat)) (b:=(q.den:Nat)) (by omega) (by omega)) J<|?_;have t1:=FL p.num (q.den:Nat);have t2:=FL q.num (p.den:Nat);have t3:=FL (p.den:Nat) (q.den:Nat);refine gx J<|?_;refine csd 67 J J J (fun hg67=>?_) (fun hg67=>?_)
     .
      refine csd 70 J J J (fun hg70=>?_) (fun hg70=>?_)
      .
       refine csd 73 J J J (fun hg73=>?_) (fun hg73=>?_)
       .
        refine cs 77 J J J (fun hg77=>?_) (fun hg77=>?_)
        .
         refine br (fu1:=⟨3⟩) J J J (fun hc80=>?_) (fun hc80=>?_)
         .
          have u1:=v7 hg67;have u2:=v7 hg70;have u3:=v7 hg73;have hd1:p.den*q.den<4611686018427387904:=by omega
          refine ak 81 (.d (vI (p.num*(q.den:Nat)+q.num*(p.den:Nat)))) J (by rw[u1,u2];rfl) ?_;refine gx (fu:=⟨1⟩) J<|?_;refine ak 82 (.d (vI ((p.den*q.den:Nat)))) J (by rw[u3];rfl) ?_;refine gx J<|cl J (K3 (m:=p.num*(q.den:Nat)+q.num*(p.den:Nat)) (d:=p.den*q.den) (by omega) (iU (by omega) (by omega)) hd1) J<|?_;exact rz J (by rw[<-vO];rfl)
         .
          exact at_ () trivial
        .
         exact at_ () trivial
       .
        exact at_ () trivial
      .
       exact at_ () trivial
     .
      exact at_ () trivial
   .
    exact at_ () trivial
  .
   exact at_ () trivial
 .
  refine cl J (s8 (q:=p) (by omega)) J<|cl (fu:=⟨1⟩) J (nC (q:=q) (by omega)) J<|?_;refine ak 88 (.d (eI (q.den:Nat))) J (by rw[MW]) ?_;refine gx J<|cl J (FP (a:=p.num) (b:=(q.den:Nat)) (by omega) (by omega)) J<|cl J (s8 (q:=q) (by omega)) J<|cl (fu:=⟨1⟩) J (nC (q:=p) (by omega)) J<|?_;refine ak 94 (.d (eI (p.den:Nat))) J (by rw[MW]) ?_;refine gx J<|cl J (FP (a:=q.num) (b:=(p.den:Nat)) (by omega) (by omega)) J<|cl J (Qw (a:=p.num*(q.den:Nat)) (b:=q.num*(p.den:Nat)) (i:=i+j) (j:=j+i) (by omega) (by omega)) J<|?_;refine cl J (nC (q:=p) (by omega)) J<|cl J (nC (q:=q) (by omega)) J<|cl J (uB (a:=p.den) (b:=q.den) (by omega) (by omega)) J<|?_;refine cl J (tn (n:=decide (p.num*(q.den:Nat)+q.num*(p.den:Nat)<0)) (a:=(p.num*(q.den:Nat)+q.num*(p.den:Nat)).natAbs) (d:=p.den*q.den) (i:=i+j+(j+i)+1) (j:=i+j) (by omega) (by omega)) J<|?_;exact rz J (by rw[km,<-vO];rfl)
def u6{p q:Rat}{i j:Nat}[h:BQ p i][k:BQ q j](hi:i<=100000000:=by decide)(hj:j<=100000000:=by decide):PF GB prog 334 [eF p,eF q] (eF (p-q)):=by
 refine fn func334 J J ntmps334 J J (fun C=>?_);refine cl J (sk (q:=q) (by omega)) J<|cl J (wL (p:=p) (q:= -q) (by omega) (by omega)) J<|?_;exact rz J (by rw[<-Rat.sub_eq_add_neg];rfl)
def AJ{q:Rat}{i:Nat}[h:BQ q i](hi:i<=400000000:=by decide):PF GB prog 127 [eF q] (eF q⁻¹):=by
 refine fn func127 J J ntmps127 J J (fun C=>?_);refine br (v1:=fun hc3=>by simp only[ah];exact⟨⟨hc3,hc3⟩,hc3⟩) J J J (fun hc3=>?_) (fun hc3=>?_)
 .
  refine cl J (tn (n:=decide (q.num<0)) (a:=q.den) (d:=q.num.natAbs) (by omega) (by omega)) J<|?_;exact rz J (by rw[Qt];rfl)
 .
  have q1:=lv (mc hc3);have q2:=mn (mc hc3);have q3:=n8 (mc hc3);have q4:=ol (mc hc3);have q5:=q.den_nz;refine br J J J (fun hc26=>?_) (fun hc26=>?_)
  .
   exact i7 rfl (by obtain⟨e1,e2⟩:=Kv (q:=q) (by omega);exact pE (fun k=>k ⟨by omega,by omega⟩) (by omega) (by omega) rfl)
  .
   refine br J J J (fun hc39=>?_) (fun hc39=>?_)
   .
    exact i7 J (by rw[lV.1 (show q.num=0 by omega),Rat.inv_zero];exact vy)
   .
    exact i7 rfl (by obtain⟨e1,e2⟩:=Hr (q:=q) (by omega);exact pE (fun k=>k ⟨by omega,by omega⟩) (by omega) (by omega) rfl)
def wN{p q:Rat}{i j:Nat}[h:BQ p i][k:BQ q j](hi:i<=100000000:=by decide)(hj:j<=100000000:=by decide):PF GB prog 304 [eF p,eF q] (eF (p/q)):=by
 refine fn func304 J J ntmps304 J J (fun C=>?_);refine cl J (AJ (q:=q) (by omega)) J<|cl J (qf (p:=p) (q:=q⁻¹) (by omega) (by omega)) J<|?_;exact rz J (by rw[Rat.div_def];rfl)
def PZ{G:Gh}{q r:DV}{t:List DV}{vs:List Value}(h: ∀y,Is G r y->Is G q y)(hv:IsLs G (r::t) vs):IsLs G (q::t) vs:=by
 obtain⟨y,m,rfl,h1,h2⟩:=cb.1 hv;exact .cons (h _ h1) h2
def YE{G:Gh}{a q r:DV}{t:List DV}{vs:List Value}(h: ∀y,Is G r y->Is G q y)(hv:IsLs G (a::r::t) vs):IsLs G (a::q::t) vs:=by
 obtain⟨y,m,rfl,h1,h2⟩:=cb.1 hv;exact .cons h1 (PZ h h2)
def Tc{q:Rat}{i:Nat}[h:BQ q i](hi:i<=100000000:=by decide):PF GB prog 207 [eF q, .ag [vI 1,vI 1, .v (.pointer none)]] (eF (q*mkRat 1 2)):=
 (qf (p:=q) (q:=mkRat 1 2) hi).ofI fun G vs hv=>YE (fun y hy=>pE (q:=mkRat 1 2) (fun k=>k ⟨by decide,by decide⟩) (by decide) (by decide) J G y hy) hv
def S0{q:Rat}{i:Nat}[h:BQ q i](hi:i<=100000000:=by decide):PF GB prog 214 [eF q] (eF (q*mkRat 1 2)):=by
 refine fn func214 J J ntmps214 J J (fun C=>?_);refine cl J (Tc (q:=q) (by omega)) J<|?_;exact rz J J
def kh{p q:Rat}{i j:Nat}[h:BQ p i][k:BQ q j](hi:i<=100000000:=by decide)(hj:j<=100000000:=by decide):PF GB prog 232 [eF p,eF q] (vI (bO p q)):=by
 refine fn func232 J J ntmps232 J J (fun C=>?_);refine cs 8 J J J (fun hg8=>?_) (fun hg8=>?_)
 .
  refine cs 13 J J J (fun hg13=>?_) (fun hg13=>?_)
  .
   refine br J J J (fun hc19=>?_) (fun hc19=>?_)
   .
    have hp:=qi hg8;have hq:=qi hg13;have p1:=lv hp;have p2:=mn hp;have p3:=n8 hp;have p4:=ol hp;have p5:=p.den_nz;have q1:=lv hq;have q2:=mn hq;have q3:=n8 hq;have q4:=ol hq;have q5:=q.den_nz;have hl:=Ky (a:=p) (b:=q) (by omega);have hr:=Ky (a:=q) (b:=p) (by omega);unfold bO;refine br J J J (fun hc20=>?_) (fun hc20=>?_)
    .
     exact rz J (by rw[if_pos (hl.2 (by omega))];rfl)
    .
     refine br J J J (fun hc26=>?_) (fun hc26=>?_)
     .
      exact rz J (by rw[if_neg (fun e=>by have:=hl.1 e;omega),if_pos (hr.2 (by omega))];rfl)
     .
      exact rz J (by rw[if_neg (fun e=>by have:=hl.1 e;omega),if_neg (fun e=>by have:=hr.1 e;omega)];rfl)
   .
    refine cl J (u6 (p:=p) (q:=q) (by omega) (by omega)) J<|cl J (lm (q:=p-q) (by omega)) J<|?_;exact rz J (by rw[AP];rfl)
  .
   refine cl J (u6 (p:=p) (q:=q) (by omega) (by omega)) J<|cl J (lm (q:=p-q) (by omega)) J<|?_;exact rz J (by rw[AP];rfl)
 .
  refine cl J (u6 (p:=p) (q:=q) (by omega) (by omega)) J<|cl J (lm (q:=p-q) (by omega)) J<|?_;exact rz J (by rw[AP];rfl)
def I0{p q:Rat}{i j:Nat}[h:BQ p i][k:BQ q j](hi:i<=100000000:=by decide)(hj:j<=100000000:=by decide):PF GB prog 273 [eF p,eF q] (vB (decide (p=q))):=by
 refine fn func273 J J ntmps273 J J (fun C=>?_);refine cl J (kh (p:=p) (q:=q) hi hj) J<|?_;exact rz J (by show DV.v (.bool (decide _))= .v (.bool _);congr 2;exact decide_eq_decide.2 (xJ p q))
def VS{p q:Rat}{i j:Nat}[h:BQ p i][k:BQ q j](hi:i<=100000000:=by decide)(hj:j<=100000000:=by decide):PF GB prog 288 [eF p,eF q] (eF (if q<p then q else p)):=by
 refine fn func288 J J ntmps288 J J (fun C=>?_);refine cl J (kh (p:=q) (q:=p) hj hi) J<|?_;refine br J J J (fun hc8=>?_) (fun hc8=>?_)
 .
  exact rz J (by rw[if_pos ((K5 q p).1 hc8)];rfl)
 .
  exact rz J (by rw[if_neg (fun e=>hc8 ((K5 q p).2 e))];rfl)
def ww{p q:Rat}{i j:Nat}[h:BQ p i][k:BQ q j](hi:i<=100000000:=by decide)(hj:j<=100000000:=by decide):PF GB prog 272 [eF p,eF q] (eF (rgcd p q)):=by
 refine fn (fu:=⟨8⟩) func272 J J ntmps272 J J (fun C=>?_);refine mg (X:=Unit) (fun _=>[(2, .ov 2 0),(3, .ov 3 0),(4, .ov 4 0)]) (fun _=>[(2,some (.o 139 [.d (vI (dt p)), .d (vI (dz p)), .d (di p)] true)),(3,some (.o 139 [.d (vI (dt q)), .d (vI (dz q)), .d (di q)] true)),(4,some (.o 139 [.d (.v (.int .i64 0)), .d (.v (.int .i64 0)), .d (.v (.pointer none))] true))]) (fun _=>True) [2,3,4] [2,3,4] rfl ?_ (fun _=>J) (fun _ _=>?_)
 .
  refine gx J<|?_;refine cs 10 J J J (fun hg10=>?_) (fun hg10=>?_)
  .
   refine cs 15 J J J (fun hg15=>?_) (fun hg15=>?_)
   .
    have hp:=qi hg10;have hq:=qi hg15;have p1:=lv hp;have p2:=mn hp;have p3:=n8 hp;have p4:=ol hp;have p5:=p.den_nz;have q1:=lv hq;have q2:=mn hq;have q3:=n8 hq;have q4:=ol hq;have q5:=q.den_nz;refine cs 20 J J J (fun hg20=>?_) (fun hg20=>?_)
    .
     refine br (fu1:=⟨4⟩) J J J (fun hc24=>?_) (fun hc24=>?_)
     .
      have hg:=Wz p3 q3;refine ak 26 (.d (vI p.num)) J (by rw[p1]) ?_;refine gx J<|cl (fu:=⟨2⟩) J (wM (m:=p.num) (by omega)) J<|?_;refine ak 29 (.d (vI q.num)) J (by rw[q1]) ?_;refine gx J<|cl J (wM (m:=q.num) (by omega)) J<|cl (hv:=by simp only[ah];exact⟨by omega,by kernel_rfl⟩) J (K6 (a:=p.num.natAbs) (b:=q.num.natAbs) (by omega) (by omega)) J<|?_;exact i7 J (by rw[Vy (p:=p) (q:=q) (by omega) (by omega)];exact Lj (by rw[kS];exact hg))
     .
      exact at_ () trivial
    .
     exact at_ () trivial
   .
    exact at_ () trivial
  .
   exact at_ () trivial
 .
  refine cl J (nC (q:=p) (by omega)) J<|cl J (nC (q:=q) (by omega)) J<|cl J (uB (a:=p.den) (b:=q.den) (by omega) (by omega)) J<|?_;refine cl J (s8 (q:=p) (by omega)) J<|cl J (nC (q:=q) (by omega)) J<|cl J (uB (a:=p.num.natAbs) (b:=q.den) (by omega) (by omega)) J<|?_;refine cl J (s8 (q:=q) (by omega)) J<|cl J (nC (q:=p) (by omega)) J<|cl J (uB (a:=q.num.natAbs) (b:=p.den) (by omega) (by omega)) J<|?_;refine cl J (Dh (a:=p.num.natAbs*q.den) (b:=q.num.natAbs*p.den) (i:=i+j) (j:=j+i) (by omega) (by omega)) J<|cl J (tn (n:=false) (a:=Nat.gcd (p.num.natAbs*q.den) (q.num.natAbs*p.den)) (d:=p.den*q.den) (i:=i+j+(j+i)) (j:=i+j) (by omega) (by omega)) J<|?_;exact rz J J
end Go.Sx
end
section
namespace Go.Sx
open Go
def crossI(l m:ab):Int:=l.a*m.b-m.a*l.b
def meetX(l m:ab):Int:=l.b*m.c-m.b*l.c
def meetY(l m:ab):Int:=m.a*l.c-l.a*m.c
def jh(l m:ab):aa:=if crossI l m=0 then⟨0,0⟩ else⟨(meetX l m:Rat)/(crossI l m:Rat),(meetY l m:Rat)/(crossI l m:Rat)⟩
def ck(l:ab)(p:aa):Rat:=p.dot l.dir/l.dir.dot l.dir
def ES(l:ab):l.dir.dot l.dir=l.nor.dot l.nor:=by
 simp only[ab.dir,ab.nor,aa.dot];grind
def wX{l:ab}(h:l.Ne):0<l.dir.dot l.dir:=by rw[ES];exact p9 h
def JT(l m:ab):((crossI l m:Int):Rat)=(l.a:Rat)*m.b-(m.a:Rat)*l.b:=by
 unfold crossI;rw[lW,cR,cR]
def P2(l m:ab):((meetX l m:Int):Rat)=(l.b:Rat)*m.c-(m.b:Rat)*l.c:=by
 unfold meetX;rw[lW,cR,cR]
def Qn(l m:ab):((meetY l m:Int):Rat)=(m.a:Rat)*l.c-(l.a:Rat)*m.c:=by
 unfold meetY;rw[lW,cR,cR]
def UN(l m:ab):l.cutK m= -((crossI l m:Int):Rat):=by
 rw[JT];simp only[ab.cutK,ab.nor,ab.dir,aa.dot];grind
def OO{l:ab}:(⟨-((l.c:Rat)/l.dir.dot l.dir)*(l.a:Rat), -((l.c:Rat)/l.dir.dot l.dir)*(l.b:Rat)⟩:aa)=l.base:=by
 unfold ab.base;rw[ES];simp only[ab.nor,aa.scale,aa.mk.injEq];constructor<;>grind
def rB(l:ab)(t:Rat):bc l.base l.dir t=l.at t:=by
 simp only[bc,ab.at,aa.add,aa.scale,aa.mk.injEq];constructor<;>grind
def Tq{l m:ab}(hl:l.Ne)(h:crossI l m≠0):ck l (jh l m)= -(l.cutC m/l.cutK m):=by
 have hd:((crossI l m:Int):Rat)≠0:=fun e=>h (iL.1 e);have hn:=wX hl;obtain⟨q,q1,q2⟩:=wn hl;rw[UN];unfold ck jh ab.cutC;rw[if_neg h,q2,kE,P2,Qn];have hc:=JT l m;rw[ES] at hn⊢;simp only[ab.dir,ab.nor,aa.dot] at hn q1⊢;generalize ((crossI l m:Int):Rat)=d at*;generalize (l.a:Rat)=a at*;generalize (l.b:Rat)=b at*;generalize (l.c:Rat)=c at*;generalize (m.a:Rat)=x at*;generalize (m.b:Rat)=y at*;generalize (m.c:Rat)=z at*;have hn':a*a+b*b≠0:=by grind
 have e:((b*z-y*c)/d*b+(x*c-a*z)/d* -a)=((b*z-y*c)*b-(x*c-a*z)*a)/d:=by grind
 rw[e];have k1:(b*z-y*c)*b-(x*c-a*z)*a=(a*a+b*b)*(x*(a*q)+y*(b*q)+z):=by grind
 rw[k1];grind
def T4{l m:ab}(hl:l.Ne)(h:crossI l m≠0):ck l (jh l m)*((crossI l m*(l.a*l.a+l.b*l.b):Int):Rat)=((meetX l m*l.b-meetY l m*l.a:Int):Rat):=by
 have hd:((crossI l m:Int):Rat)≠0:=fun e=>h (iL.1 e);have hn:=wX hl;unfold ck jh;rw[if_neg h];simp only[cR,lW,nT];simp only[ab.dir,aa.dot] at hn⊢;generalize ((crossI l m:Int):Rat)=d at*;generalize ((meetX l m:Int):Rat)=x at*;generalize ((meetY l m:Int):Rat)=y at*;generalize (l.a:Rat)=a at*;generalize (l.b:Rat)=b at*;have hn':b*b+ -a* -a≠0:=by grind
 grind
def Rn(l m:ab)(t:List ab)(v:aB):gE l (m::t) v=if m=l then gE l t v else if l.cutB v m then gE l t (l.cutV v m) else none:=rfl
def S8(v:aB)(t:Rat):aB:=if v.nl=true\/0<bO t v.lo then⟨t,v.hi,false,v.nh⟩ else v
def WW(v:aB)(t:Rat):aB:=if v.nh=true\/bO t v.hi<0 then⟨v.lo,t,v.nl,false⟩ else v
structure sG (v:aB):Prop where
 lo:v.nl=true->v.lo=0
 hi:v.nh=true->v.hi=0
def yl(a b:Rat):0<bO a b↔b<a:=by
 unfold bO;split
 ·constructor
  ·intro h;exact absurd h (by decide)
  ·intro h;grind
 ·split
  ·exact⟨fun _=>by assumption,fun _=>by decide⟩
  ·constructor
   ·intro h;exact absurd h (by decide)
   ·intro h;exact absurd h (by assumption)
def vU(a b:Rat):bO a b<0↔a<b:=by
 unfold bO;split
 ·exact⟨fun _=>by assumption,fun _=>by decide⟩
 ·split
  ·constructor
   ·intro h;exact absurd h (by decide)
   ·intro h;grind
  ·constructor
   ·intro h;exact absurd h (by decide)
   ·intro h;exact absurd h (by assumption)
def sG.all:sG aB.all:=⟨fun _=>J,fun _=>J⟩
end Go.Sx
end
section
namespace Go.Sx
open Go Go.Proofs Tryz
variable {GB:Gh}

def cT:Tr->List DV
 | .leaf b=>[.v (.bool true), .v (.bool b), .v (.bool false), .sl [], .v (.bool false), .sl [], .v (.bool false), .sl [], .v (.pointer none), .v (.pointer none)]
 | .node l x y=>[.v (.bool false), .v (.bool false), .v (.bool (decide (l.a<0))),dN l.a.natAbs, .v (.bool (decide (l.b<0))),dN l.b.natAbs, .v (.bool (decide (l.c<0))),dN l.c.natAbs, .pt (cT x), .pt (cT y)]
def eT(t:Tr):DV:= .pt (cT t)
def eN(n:NQ):DV:= .ag [.v (.bool (decide (n.l.a<0))),dN n.l.a.natAbs, .v (.bool (decide (n.l.b<0))),dN n.l.b.natAbs, .v (.bool (decide (n.l.c<0))),dN n.l.c.natAbs, .v (.int .i64 n.a), .v (.int .i64 n.b)]
def eA(t:Tr):DV:= .ag [.v (.int .i64 (t.num 0)), .sl ((t.wr 0).map eN)]
structure BL (l:ab) (k:Nat):Prop where
 a:l.a.natAbs<2^k
 b:l.b.natAbs<2^k
 c:l.c.natAbs<2^k
structure LS (l:ab):Prop where
 ok:l.ok
 a:l.a.natAbs<=4
 b:l.b.natAbs<=4
 c:l.c.natAbs<=40000
def ab.ext'{l m:ab}(h1:l.a=m.a)(h2:l.b=m.b)(h3:l.c=m.c):l=m:=by cases l;cases m;simp_all
instance:DecidableEq NQ:=fun x y=>decidable_of_iff (x.l=y.l/\x.a=y.a/\x.b=y.b) (by
 cases x;cases y;simp)
class LB (l:ab):Prop where bl:BL l 96
instance LB.a (l:ab) [h:LB l]:BI l.a 96:=⟨h.bl.a⟩
instance LB.b (l:ab) [h:LB l]:BI l.b 96:=⟨h.bl.b⟩
instance LB.c (l:ab) [h:LB l]:BI l.c 96:=⟨h.bl.c⟩
class az (p:aa) (k:outParam Nat):Prop where
 x:BQ p.x k
 y:BQ p.y k
instance az.ix (p:aa) (k:Nat) [h:az p k]:BQ p.x k:=h.x
instance az.iy (p:aa) (k:Nat) [h:az p k]:BQ p.y k:=h.y
instance az.dir (l:ab) [LB l]:az l.dir 97:=⟨inferInstanceAs (BQ (l.b:Rat) 97),inferInstanceAs (BQ (-(l.a:Rat)) 97)⟩
instance BQ.dot (p q:aa) (i j:Nat) [az p i] [az q j]:BQ (p.dot q) (i+j+(i+j)+1):=inferInstanceAs (BQ (p.x*q.x+p.y*q.y) _)
instance BQ.cross (p q:aa) (i j:Nat) [az p i] [az q j]:BQ (p.cross q) (i+j+(i+j)+1):=inferInstanceAs (BQ (p.x*q.y-p.y*q.x) _)
instance az.mov (p q:aa) (c:Rat) (i j k:Nat) [az p i] [az q j] [BQ c k]:az (bc p q c) (i+(k+j)+1):=⟨inferInstanceAs (BQ (p.x+c*q.x) _),inferInstanceAs (BQ (p.y+c*q.y) _)⟩
instance BQ.value (l:ab) (p:aa) (i:Nat) [LB l] [az p i]:BQ (l.value p) (96+1+i+(96+1+i)+1+(96+1)+1):=inferInstanceAs (BQ ((l.a:Rat)*p.x+(l.b:Rat)*p.y+(l.c:Rat)) _)
def Wv{p q:aa}{i j:Nat}[hp:az p i][hq:az q j](hi:i<=200000:=by decide)(hj:j<=200000:=by decide):PF GB prog 99 [eP p,eP q] (eQ (p.cross q)):=by
 refine fn func99 J J ntmps99 J J (fun C=>?_);refine cl J (z7 (by omega) (by omega)) J<|cl J (z7 (by omega) (by omega)) J<|cl J (NK (by omega) (by omega)) J<|?_;exact rz J J
def Xo{p q:aa}{c:Rat}{i j k:Nat}[hp:az p i][hq:az q j][hc:BQ c k](hi:i<=19000000:=by decide)(hj:j<=9000000:=by decide)(hk:k<=9000000:=by decide):PF GB prog 100 [eP p,eQ c,eP q] (eP (bc p q c)):=by
 refine fn func100 J J ntmps100 J J (fun C=>?_);refine cl J (z7 (by omega) (by omega)) J<|cl J (CP (by omega) (by omega)) J<|cl J (z7 (by omega) (by omega)) J<|cl J (CP (by omega) (by omega)) J<|?_;exact rz J J
instance az.base (l:ab) [LB l]:az l.base 900:=by
 rw[<-OO];constructor
 ·exact BQ.mono (inferInstance:BQ (-((l.c:Rat)/l.dir.dot l.dir)*(l.a:Rat)) _) (by decide)
 ·exact BQ.mono (inferInstance:BQ (-((l.c:Rat)/l.dir.dot l.dir)*(l.b:Rat)) _) (by decide)
instance BI.crossI (l m:ab) [LB l] [LB m]:BI (crossI l m) 385:=inferInstanceAs (BI (l.a*m.b-m.a*l.b) 385)
instance BI.meetX (l m:ab) [LB l] [LB m]:BI (meetX l m) 385:=inferInstanceAs (BI (l.b*m.c-m.b*l.c) 385)
instance BI.meetY (l m:ab) [LB l] [LB m]:BI (meetY l m) 385:=inferInstanceAs (BI (m.a*l.c-l.a*m.c) 385)
instance az.imeet (l m:ab) [LB l] [LB m]:az (jh l m) 772:=by
 unfold jh;split
 ·exact⟨BQ.mono (k:=1) ⟨by decide,by decide⟩ (by decide),BQ.mono (k:=1) ⟨by decide,by decide⟩ (by decide)⟩
 ·exact⟨inferInstanceAs (BQ ((meetX l m:Rat)/(crossI l m:Rat)) 772),inferInstanceAs (BQ ((meetY l m:Rat)/(crossI l m:Rat)) 772)⟩
def p8(l m:ab):Int:=if(l.a-m.a).sign≠0 then(l.a-m.a).sign else if(l.b-m.b).sign≠0 then(l.b-m.b).sign else(l.c-m.c).sign
def Qq(l m:ab):p8 l m=0↔l=m:=by
 unfold p8;constructor
 ·intro h
  split at h
  ·contradiction
  ·split at h
   ·contradiction
   ·rename_i h1 h2
    have a1:=iZ.1 (Decidable.not_not.1 h1);have a2:=iZ.1 (Decidable.not_not.1 h2);have a3:=iZ.1 h;exact ab.ext' (by omega) (by omega) (by omega)
 ·rintro rfl
  simp
def VQ(z:Int): -1<=z.sign/\z.sign<=1:=by
 rcases lJ z 0 with h|h|h
 ·rw[eJ h];omega
 ·rw[h];decide
 ·rw[fQ h];omega
instance BQ.i1:BQ (((1:Int):Rat)) 2:=⟨by decide,by decide⟩
def eV(v:aB):DV:= .ag [.v (.bool (decide (v.lo.num<0))),dN v.lo.num.natAbs,dD v.lo.den, .v (.bool (decide (v.hi.num<0))),dN v.hi.num.natAbs,dD v.hi.den, .v (.bool v.nl), .v (.bool v.nh)]
def FZ(v:aB):Rat:=if v.nl=true/\v.nh=true then 0 else if v.nl=true then v.hi-1 else if v.nh=true then v.lo+1 else(v.lo+v.hi)/2
theorem BQ.of_fracI{q:Rat}{n D:Int}{i:Nat}(hd:0<D.natAbs)(h:q*((D.natAbs:Nat):Rat)=(n:Rat))(hn:BI n i)(hD:BI D i):BQ q i:=BQ.of_frac hd h hn.h hD.h
theorem A9{m:Int}{i j:Nat}(h:BI m i)(hij:i<=j):BI m j:=⟨dK h.h (bZ (by decide) hij)⟩
theorem Ou{l m:ab}[LB l][LB m](hn:l.Ne)(h:crossI l m≠0):BQ (ck l (jh l m)) 1200:=by
 have e:=T4 hn h;have hA:BI (crossI l m*(l.a*l.a+l.b*l.b)) _:=inferInstance;have hB:BI (meetX l m*l.b-meetY l m*l.a) _:=inferInstance;have hne:crossI l m*(l.a*l.a+l.b*l.b)≠0:=by
  intro q;rcases rX.1 q with q|q
  ·exact h q
  ·have h1:=wX hn
   simp only[ab.dir,aa.dot] at h1;have h2:((l.a*l.a+l.b*l.b:Int):Rat)=((0:Int):Rat):=by rw[q]
   rw[nT,cR,cR] at h2;have h3:((0:Int):Rat)=0:=J;rw[h3] at h2;grind
 have hA':=A9 (j:=1200) hA (by decide);have hB':=A9 (j:=1200) hB (by decide);generalize crossI l m*(l.a*l.a+l.b*l.b)=D at*;generalize meetX l m*l.b-meetY l m*l.a=M at*;by_cases hD:0<D
 ·refine BQ.of_fracI (n:=M) (D:=D) (by omega) ?_ hB' hA'
  rw[<-e];congr 1;have:((D.natAbs:Nat):Int)=D:=by omega
  rw[<-this];rfl
 ·refine BQ.of_fracI (n:= -M) (D:=D) (by omega) ?_ (BI.neg M 1200 (h:=hB')) hA'
  rw[pW,<-e];have:((D.natAbs:Nat):Rat)= -(D:Rat):=by
   have h1:((D.natAbs:Nat):Int)= -D:=by omega
   rw[<-pW,<-h1];rfl
  rw[this];grind
def nE(l:ab):List ab->aB->aB×Bool
 |[],v=>(v,true)
 |m::t,v=>if m=l then nE l t v else if l.cutB v m=true then nE l t (l.cutV v m) else(l.cutV v m,false)
def Du{l:ab}: ∀{c:List ab} {v:aB},(nE l c v).2=(gE l c v).isSome
 |[],v=>rfl
 |m::t,v=>by
  rw[nE,Rn];split
  ·exact Du
  ·split
   ·exact Du
   ·rfl
structure Z6 (l:ab) (c:List ab) (k:Nat) (v:aB):Prop where
 le:k<=c.length
 p:gE l (c.drop k) v=gE l c aB.all
 e:nE l (c.drop k) v=nE l c aB.all
 z:sG v
 lo:BQ v.lo 1200
 hi:BQ v.hi 1200
def ZJ(l m:ab)(v:aB):aB:=if 0<(m.dir.cross l.dir).num.sign then S8 v (ck l (jh l m)) else WW v (ck l (jh l m))
def ny(l:ab):DV:= .ag [vI (dt (l.a:Rat)),vI (dz (l.a:Rat)),di (l.a:Rat),vI (dt (l.b:Rat)),vI (dz (l.b:Rat)),di (l.b:Rat),vI (dt (l.c:Rat)),vI (dz (l.c:Rat)),di (l.c:Rat)]
def eZ(p:aa):DV:= .ag [vI (dt p.x),vI (dz p.x),di p.x,vI (dt p.y),vI (dz p.y),di p.y]
def eW(v:aB):DV:= .ag [vI (dt v.lo),vI (dz v.lo),di v.lo,vI (dt v.hi),vI (dz v.hi),di v.hi, .v (.bool v.nl), .v (.bool v.nh)]
def K7:List Int->Int
 |[]=>0
 |a::t=>if a≠0 then a else K7 t
theorem az.nor(l:ab)[LB l]:az l.nor 97:=⟨inferInstanceAs (BQ (l.a:Rat) 97),inferInstanceAs (BQ (l.b:Rat) 97)⟩
attribute [instance] az.nor
instance az.scale (p:aa) (c:Rat) (i k:Nat) [az p i] [BQ c k]:az (p.scale c) (i+k):=⟨inferInstanceAs (BQ (p.x*c) _),inferInstanceAs (BQ (p.y*c) _)⟩
instance az.add (p q:aa) (i j:Nat) [az p i] [az q j]:az (p.add q) (i+j+1):=⟨inferInstanceAs (BQ (p.x+q.x) _),inferInstanceAs (BQ (p.y+q.y) _)⟩
instance LB.revA (l:ab) [h:LB l]:LB l.rev:=⟨⟨by rw[show l.rev.a= -l.a from J,iV];exact h.bl.a,by rw[show l.rev.b= -l.b from J,iV];exact h.bl.b,by rw[show l.rev.c= -l.c from J,iV];exact h.bl.c⟩⟩
def Ck{l:ab}:PF GB prog 321 [ny l] (eZ l.nor):=by
 refine fn func321 J J ntmps321 J J (fun C=>?_);exact rz J J
def A6{l:ab}[hl:LB l]:PF GB prog 258 [ny l] (eZ l.dir):=by
 refine fn func258 J J ntmps258 J J (fun C=>?_);refine cl J (sk (q:=(l.a:Rat))) J<|?_;exact rz J J
def pB{p q:aa}{i j:Nat}[hp:az p i][hq:az q j](hi:i<=40000000:=by decide)(hj:j<=40000000:=by decide):PF GB prog 244 [eZ p,eZ q] (eF (p.dot q)):=by
 refine fn func244 J J ntmps244 J J (fun C=>?_);refine cl J (qf (p:=p.x) (q:=q.x) (by omega) (by omega)) J<|cl J (qf (p:=p.y) (q:=q.y) (by omega) (by omega)) J<|cl J (wL (p:=p.x*q.x) (q:=p.y*q.y) (by omega) (by omega)) J<|?_;exact rz J J
def ID{p q:aa}{i j:Nat}[hp:az p i][hq:az q j](hi:i<=40000000:=by decide)(hj:j<=40000000:=by decide):PF GB prog 298 [eZ p,eZ q] (eF (p.cross q)):=by
 refine fn func298 J J ntmps298 J J (fun C=>?_);refine cl J (qf (p:=p.x) (q:=q.y) (by omega) (by omega)) J<|cl J (qf (p:=p.y) (q:=q.x) (by omega) (by omega)) J<|cl J (u6 (p:=p.x*q.y) (q:=p.y*q.x) (by omega) (by omega)) J<|?_;exact rz J J
def wc{p:aa}{c:Rat}{i j:Nat}[hp:az p i][hc:BQ c j](hi:i<=40000000:=by decide)(hj:j<=40000000:=by decide):PF GB prog 126 [eZ p,eF c] (eZ (p.scale c)):=by
 refine fn func126 J J ntmps126 J J (fun C=>?_);refine cl J (qf (p:=p.x) (q:=c) (by omega) (by omega)) J<|cl J (qf (p:=p.y) (q:=c) (by omega) (by omega)) J<|?_;exact rz J J
def zb{p q:aa}{i j:Nat}[hp:az p i][hq:az q j](hi:i<=40000000:=by decide)(hj:j<=40000000:=by decide):PF GB prog 206 [eZ p,eZ q] (eZ (p.add q)):=by
 refine fn func206 J J ntmps206 J J (fun C=>?_);refine cl J (wL (by omega) (by omega)) J<|cl J (wL (by omega) (by omega)) J<|?_;exact rz J J
def V8{l:ab}[hl:LB l]:PF GB prog 352 [ny l] (eZ l.base):=by
 refine fn func352 J J ntmps352 J J (fun C=>?_);refine cl J Ck J<|cl J (sk (q:=(l.c:Rat))) J<|cl J (pB (p:=l.nor) (q:=l.nor)) J<|cl J (wN (p:= -(l.c:Rat)) (q:=l.nor.dot l.nor)) J<|?_;refine cl J (wc (p:=l.nor)) J<|?_;exact rz J J
def LG{l:ab}{p:aa}{i:Nat}[hl:LB l][hp:az p i](hi:i<=10000000:=by decide):PF GB prog 347 [ny l,eZ p] (eF (l.value p)):=by
 refine fn func347 J J ntmps347 J J (fun C=>?_);refine cl J (Ck (l:=l)) J<|cl J (pB (p:=l.nor) (q:=p) (by omega) (by omega)) J<|cl J (wL (p:=l.nor.dot p) (q:=(l.c:Rat)) (by omega) (by omega)) J<|?_;exact rz J J
def CK{l:ab}{p:aa}{i:Nat}[hl:LB l][hp:az p i](hi:i<=10000000:=by decide):PF GB prog 259 [ny l,eZ p] (vI (l.value p).num.sign):=by
 refine fn func259 J J ntmps259 J J (fun C=>?_);refine cl J (LG (l:=l) (p:=p) hi) J<|cl J (lm (q:=l.value p) (by omega)) J<|?_;exact rz J J
def LJ{l:ab}{t:Rat}{i:Nat}[hl:LB l][ht:BQ t i](hi:i<=10000000:=by decide):PF GB prog 345 [ny l,eF t] (eZ (l.at t)):=by
 refine fn func345 J J ntmps345 J J (fun C=>?_);refine cl J (V8 (l:=l)) J<|cl J (A6 (l:=l)) J<|cl J (wc (p:=l.dir) (c:=t) (by omega) (by omega)) J<|cl J (zb (p:=l.base) (q:=l.dir.scale t) (by omega) (by omega)) J<|?_;exact rz J J
instance aB.meet_lo (v w:aB) (i j:Nat) [h1:BQ v.lo i] [h3:BQ w.lo j]:BQ (v.meet w).lo (i+j):=by
 have a:=h1.mono (oT i j);have b:=h3.mono (Nat.le_add_left j i);unfold aB.meet;dsimp only;(repeat' split)<;>assumption
instance aB.meet_hi (v w:aB) (i j:Nat) [h1:BQ v.hi i] [h3:BQ w.hi j]:BQ (v.meet w).hi (i+j):=by
 have a:=h1.mono (oT i j);have b:=h3.mono (Nat.le_add_left j i);unfold aB.meet;dsimp only;(repeat' split)<;>assumption
instance BQ.cutK (l m:ab) [LB l] [LB m]:BQ (l.cutK m) 400:=BQ.mono (inferInstance:BQ (m.nor.dot l.dir) _) (by decide)
instance BQ.cutC (l m:ab) [LB l] [LB m]:BQ (l.cutC m) 2500:=BQ.mono (inferInstance:BQ (m.value l.base) _) (by decide)
def yN(p q:aa):DV:= .ag [vI (dt p.x),vI (dz p.x),di p.x,vI (dt p.y),vI (dz p.y),di p.y,vI (dt q.x),vI (dz q.x),di q.x,vI (dt q.y),vI (dz q.y),di q.y]
def uP{C:aA}{n:Nat}{Q0:Exit->Act->World->Prop}{fr:ao}{own:aC}{ops:Array Oper}{r:List Oper}{K:List Kt}(k:Nat){l:List DV}(hl:aE fr k=some (.d (.pt l)))(h:aj prog GB C n Q0 ((k, .ep l)::fr) own (.ops ops r K)):aj prog GB C n Q0 fr own (.ops ops r K):=
 lP hl (fun ρ G y hy=>by
  obtain⟨b,m,rfl,h1,h2⟩:=qG.1 hy;have e:=h2.len;exact⟨b,0,m,m,J,h1,by rw[lA m 0 l.length (by omega),iJ,<-e,fY],h2⟩) h
def zF{G:Gh}{m:List Value}(h:IsLs G [vI 0,vI 0, .v (.pointer none)] m):IsLs G [vI (dt 0),vI (dz 0),di 0] m:=by
 obtain⟨l,e,k⟩:=ew.1 (vy G (.agg ⟨m⟩) (ew.2 ⟨m,rfl,h⟩))
 cases e;exact k
section
variable {GB:Gh} {C:aA} {n:Nat} {Q0:Exit->Act->World->Prop} {fr fr':ao} {own own':aC} {cf cf':Cf} {vc:List Prop} {ops:Array Oper} {r:List Oper} {K:List Kt}
def ul(k:Nat){d:DV}(hl:aE fr k=some (.d d))(h: ∀(GB':Gh) (pv:Value),bm GB GB'->Is GB' d pv->aj prog GB' C n Q0 ((k, .d (.v pv))::fr) own (.ops ops r K)):aj prog GB C n Q0 fr own (.ops ops r K):=by
 refine⟨fun ρ G ov a w r0=>?_⟩;obtain⟨y,hy,hy'⟩:=r0.fx k _ hl;refine(h G y r0.gb hy').run ρ G ov a w ⟨bm.refl _,r0.h,r0.sz,r0.df,fun j f e=>?_,r0.bx,r0.dj,r0.fxd⟩;rw[gI] at e;split at e
 ·rename_i hj
  cases e;subst hj
  exact⟨y,hy,(bt (G:=G)).2 J⟩
 ·exact r0.fx j f e
def Zd(fr:ao)(cf:Cf):Option (FuncId×Value):=match bF fr cf with
 |some ⟨_, .makeFunc (.func f) ⟨[x]⟩ ⟨[]⟩,_,_,_,_⟩=>match aD (bh fr cf) x with
  |some (.d (.v pv))=>some (f,pv)
  |_=>none
 |_=>none
def ZE(fr:ao)(cf:Cf):Option (FuncId×List Value×List DV):=match bF fr cf with
 |some ⟨_, .call ⟨.value fo,args,_⟩,_,_,_,_⟩=>match aD (bh fr cf) fo,evDs (bh fr cf) args.toList with
  |some (.d (.v (.func (.func f) ⟨c1⟩ ⟨[]⟩))),some ds=>some (f,c1,ds)
  |_,_=>none
 |_=>none
def H':List (Nat×Operand)->Option (List (Nat×Value))
 |[]=>some []
 |(i, .const v)::t=>match H' t with
  |some l=>some ((i,v)::l)
  |none=>none
 |_::_=>none
def Zm(cf:Cf)(fr:ao):Option (TypeId×List (Nat×Value)):=match bF fr cf with
 |some ⟨_, .build t ⟨ps⟩,_,_,_,_⟩=>match H' ps with
  |some vs=>some (t,vs)
  |none=>none
 |_=>none
def Jd(fr:ao)(own:aC)(cf:Cf):Option (TypeId×Nat×Nat×List FX×Bool×FX):=match bF fr cf with
 |some ⟨_, .store t x y,_,_,_,_⟩=>match aD (bh fr cf) x with
  |some (.ov nm 0)=>match fE fr own cf nm with
   |some (.o ty cs lo)=>match aD (bh fr cf) y with
    |some fv=>some (t,nm,ty,cs,lo,fv)
    |_=>none
   |_=>none
  |_=>none
 |_=>none
def HE[fu:Fu]{t nm ty len e:Nat}{cs:List FX}{lo:Bool}{fv:FX}{j:TypeInfo}(h:Jd fr own cf=some (t,nm,ty,cs,lo,fv))(hu:prog.underlying t=some (.array len e))(hj:prog.info? t=some j)(hc:fv.okc=true/\fv.cells.length=j.size/\j.size=cs.length)
  (hgo:cg tt n fu.n fr own cf .un [(nm,some (.o ty (tM cs 0 fv.cells) lo))] []=⟨vc,fr',own',cf'⟩)(k:aj prog GB C n Q0 fr' own' cf')
  (hv:ah vc:=by first|exact trivial|(simp only[ah];kernel_rfl)|(simp only[ah];omega)):aj prog GB C n Q0 fr own cf:=by
 unfold Jd at h;split at h<;>try (cases h;done)
 rename_i hh;split at h<;>try (cases h;done)
 rename_i e1;split at h<;>try (cases h;done)
 rename_i hb;split at h<;>cases h;rename_i e2;obtain⟨c1,c2,c3⟩:=hc;have:pe prog t j.size:=⟨fun w=>xB hu w,fun w=>sD hj w⟩;refine us hh ?_ hgo hv k;intro hd tl tb K s1 s2 hf hk;refine⟨fun ρ G ov a w r Q=>?_⟩;have r1:=r.mono s1 s2;obtain⟨p,h1,h2⟩:=r1.ev e1;obtain⟨q,h3,h4⟩:=r1.ev e2;obtain⟨b,m,rfl,ha,h5,h6⟩:=r1.own h2 hb;obtain⟨h7,h8⟩:=h4.cells c1;obtain⟨own',u1,u2,u3⟩:=ie.of_mem (cs':=dl m 0 (aI q)) h6;exact DB h1 h3 u1 (by rw[h7.len,c2]) (by rw[h5.len,c3];omega) (dR.2 h8) hd (fun a' w' rl=>r.wrote (m:=m) (s2 _ _ hb) ha (h5.ov h7) u2 u3 hk rl) a w Q ⟨r.h,r.sz,cF a,r.df⟩
def IJ(fr:ao)(cf:Cf):Option GC:=match bF fr cf with
 |some ⟨some d, .buildSlice t len parts,_,_,_,_⟩=>match cD tt t with
  |some ⟨.sl e s _,_,_,_⟩=>match tU (bh fr cf) 0 parts.toList with
   |some ds=>bif Az s ds&&(Nat.beq parts.toList.length len&&(Nat.ble (len*s) 1000&&Nat.blt 0 (len*s))) then some ⟨d,e,s,ds⟩ else none
   |none=>none
  |_=>none
 |_=>none
def Wo[fu:Fu]{d e s:Nat}{ds:List DV}{i:TI}{z:DV}(h:IJ fr cf=some ⟨d,e,s,ds⟩)(hi:d8 prog e=some i)(hz:lz i=some z)(hs:Nat.beq z.cells.length s=true)(hgo:cg tt n fu.n fr own cf (.d (.sl ds)) [(d,none)] [d]=⟨vc,fr',own',cf'⟩)(k:aj prog GB C n Q0 fr' own' cf')
  (hv:ah vc:=by first|exact trivial|(simp only[ah];kernel_rfl)|(simp only[ah];omega)):aj prog GB C n Q0 fr own cf:=by
 unfold IJ at h;split at h<;>try (cases h;done)
 rename_i hh;split at h<;>try (cases h;done)
 rename_i hT;split at h<;>try (cases h;done)
 rename_i hr;rw[cond_eq_ite] at h;split at h<;>cases h;rename_i hc;simp only[bJ] at hc;have:=iO (d6 _ _ hT) J;exact us hh ((Ka hi hz hs hr hc.1 hc.2.1 hc.2.2.1 hc.2.2.2).frzRow J) hgo hv k
def JD(fr:ao)(cf:Cf):Option (TypeId×List DV):=match bF fr cf with
 |some ⟨_, .load t x,_,_,_,_⟩=>match aD (bh fr cf) x with
  |some (.ep l)=>some (t,l)
  |_=>none
 |_=>none
def Xd:TypeDesc->Bool
 | .struct _=>false
 | .array _ _=>false
 |_=>true
def J2[fu:Fu]{t:TypeId}{d:DV}{l:List DV}{D:TypeDesc}{j:TypeInfo}(h:JD fr cf=some (t,d::l))(hu:prog.underlying t=some D)(hD:Xd D=true)(hj:prog.info? t=some j)(hs:j.size=1)
  (hgo:cg tt n fu.n fr own cf (.d d) [] []=⟨vc,fr',own',cf'⟩)(k:aj prog GB C n Q0 fr' own' cf')
  (hv:ah vc:=by first|exact trivial|(simp only[ah];kernel_rfl)|(simp only[ah];omega)):aj prog GB C n Q0 fr own cf:=by
 unfold JD at h;split at h<;>try (cases h;done)
 rename_i hh;split at h<;>cases h;rename_i hx;have:kw prog t:=⟨fun w=>by(rw[xB hu w];cases D<;>first|rfl|(cases hD;done)),fun w=>by rw[sD hj w,hs]⟩;exact us hh (.x1 hx fun ρ G ov a w y _ r h1 h2=>by
  obtain⟨b,o,ms,m,rfl,hb,ht,hm⟩:=h2;obtain⟨l',h3,h4⟩:=hm.get (i:=0) rfl;have:=BF ht (i:=0) (Nat.succ_pos _);rw[dT] at this;exact⟨l',h4,Dy h1 hb (by rw[this];exact h3)⟩) hgo hv k
end
instance BQ.i1':BQ (1:Rat) 2:=⟨by decide,by decide⟩
instance BQ.i2':BQ (2:Rat) 2:=⟨by decide,by decide⟩
instance az.at (l:ab) (t:Rat) (k:Nat) [LB l] [BQ t k]:az (l.at t) (900+(k+97)+1):=by
 rw[<-rB];infer_instance
def fH(d:aa):aa:=⟨-d.y,d.x⟩
instance az.turn (d:aa) (k:Nat) [az d k]:az (fH d) k:=⟨inferInstanceAs (BQ (-d.y) k),inferInstanceAs (BQ d.x k)⟩
def AZ(p v:aa)(m:ab):Rat:= -(m.value p/(m.value (bc p v ((1:Int):Rat))-m.value p))
def xO(p v:aa)(m:ab)(s:Rat):Rat:=if(m.value (bc p v ((1:Int):Rat))-m.value p).num.sign=0 then s else if(m.value p).num.sign=0 then s else if 0<(AZ p v m).num.sign then(if bO (AZ p v m/2) s<0 then AZ p v m/2 else s) else s
def tF(p v:aa):List ab->Rat->Rat
 |[],s=>s
 |m::t,s=>tF p v t (xO p v m s)
def wE(c:List ab)(p v:aa):aa:=bc p v (tF p v c ((1:Int):Rat))
def vA(c:List ab):List ab->aa
 |[]=>⟨0,0⟩
 |m::t=>if(nE m c aB.all).2=true then wE c (m.at (FZ (nE m c aB.all).1)) (fH m.dir) else vA c t
def lcq(l m:ab):Int:=K7 [bO l.a m.a,bO l.b m.b,bO l.c m.c]
def Ll{p:aa}{i:Nat}[hp:az p i](hi:i<=10000000:=by decide):PF GB prog 354 [eZ p] (vI p.half):=by
 refine fn func354 J J ntmps354 J J (fun C=>?_);refine cl J (lm (q:=p.y) (by omega)) J<|?_;refine cs 10 J J J (fun hg10=>?_) (fun hg10=>?_)
 .
  exact rz J (by unfold aa.half;(repeat' split)<;>first|rfl|(exfalso;omega))
 .
  refine cs 13 J J J (fun hg13=>?_) (fun hg13=>?_)
  .
   refine cl J (lm (q:=p.x) (by omega)) J<|?_;refine br J J J (fun hc7=>?_) (fun hc7=>?_)
   .
    exact rz J (by unfold aa.half;(repeat' split)<;>first|rfl|(exfalso;omega))
   .
    refine cs 23 J J J (fun hg23=>?_) (fun hg23=>?_)
    .
     exact rz J (by unfold aa.half;(repeat' split)<;>first|rfl|(exfalso;omega))
    .
     refine cl J (lm (q:=p.x) (by omega)) J<|?_;refine br J J J (fun hc20=>?_) (fun hc20=>?_)
     .
      exact rz J (by unfold aa.half;(repeat' split)<;>first|rfl|(exfalso;omega))
     .
      exact rz J (by unfold aa.half;(repeat' split)<;>first|rfl|(exfalso;omega))
  .
   refine cs 23 J J J (fun hg23=>?_) (fun hg23=>?_)
   .
    exact rz J (by unfold aa.half;(repeat' split)<;>first|rfl|(exfalso;omega))
   .
    refine cl J (lm (q:=p.x) (by omega)) J<|?_;refine br J J J (fun hc20=>?_) (fun hc20=>?_)
    .
     exact rz J (by unfold aa.half;(repeat' split)<;>first|rfl|(exfalso;omega))
    .
     exact rz J (by unfold aa.half;(repeat' split)<;>first|rfl|(exfalso;omega))
def Jh{u v:aa}{i j:Nat}[hp:az u i][hq:az v j](hi:i<=10000000:=by decide)(hj:j<=10000000:=by decide):PF GB prog 279 [eZ u,eZ v] (vI (cA u v)):=by
 refine fn func279 J J ntmps279 J J (fun C=>?_);refine cl J (Ll (p:=u) hi) J<|cl J (Ll (p:=v) hj) J<|?_;refine br J J J (fun hc11=>?_) (fun hc11=>?_)
 .
  exact rz J (by unfold cA;rw[if_pos hc11];rfl)
 .
  refine br J J J (fun hc15=>?_) (fun hc15=>?_)
  .
   exact rz J (by unfold cA;rw[if_neg hc11,if_pos hc15];rfl)
  .
   refine cl J (ID (p:=u) (q:=v) (by omega) (by omega)) J<|cl (fu:=⟨0⟩) J (lm (q:=u.cross v) (by omega)) J<|?_;have hs:=rT (u.cross v).num;refine gx J<|?_;exact rz J (by unfold cA;rw[if_neg hc11,if_neg hc15];rfl)
def Vw{m:Int}:dq (dg m.natAbs)/\(decide (m<0)=true->0<(dg m.natAbs).length):=⟨(dO _).2.2,fun h=>by
 have:0<m.natAbs:=by have:=of_decide_eq_true h;omega
 exact wR.2 this⟩
def Vv{m:Int}{i:Nat}[h:BI m i](hi:i<=1000000000:=by decide):PF GB prog 269 [eI m] (.v (.bool true)):=(Ps (neg:=decide (m<0)) (ds:=dg m.natAbs) (dO _).2.1 (by have:=kB (a:=m.natAbs) hi;omega)).to (by unfold vB;rw[decide_eq_true Vw])
instance BQ.rgcd (p q:Rat) (i j:Nat) [h:BQ p i] [k:BQ q j]:BQ (rgcd p q) (i+j+(i+j)):=by
 unfold Sx.rgcd;refine tS (iU (lf p) (lf q)) ?_ ?_
 ·rw[kS]
  have h1:=mG h.hn k.hd;have h2:=mG k.hn h.hd;rw[lU j i] at h2;exact D0 h1 h2
 ·have h1:=mG h.hd k.hd
  have:2^(i+j)<=2^(i+j+(i+j)):=bZ (by decide) (by omega);omega
def cp(f:aP):DV:= .ag [vI (dt (f.l.a:Rat)),vI (dz (f.l.a:Rat)),di (f.l.a:Rat),vI (dt (f.l.b:Rat)),vI (dz (f.l.b:Rat)),di (f.l.b:Rat),vI (dt (f.l.c:Rat)),vI (dz (f.l.c:Rat)),di (f.l.c:Rat),vI (dt f.v.lo),vI (dz f.v.lo),di f.v.lo,vI (dt f.v.hi),vI (dz f.v.hi),di f.v.hi, .v (.bool f.v.nl), .v (.bool f.v.nh)]
structure S1 (v:aB):Prop where
 z:sG v
 lo:BQ v.lo 1200
 hi:BQ v.hi 1200
structure Wi (s:aP):Prop where
 lb:LB s.l
 ok:s.l.ok
 v:S1 s.v
abbrev aEk (c:bw):Prop:= ∀s∈c,Wi s
def Zx(o:Option aB):aB:=o.getD ⟨0,0,false,false⟩
def fj{α:Type}{f:α->DV}{l:List α}{i:Nat}{s:α}(h:l[i]? =some s):(l.map f)[(i:Int).toNat]? =some (f s):=by simp[h]
instance BQ.sample (v:aB) [h1:BQ v.lo 1200] [h2:BQ v.hi 1200]:BQ v.sample 2500:=by
 unfold aB.sample;split
 ·exact BQ.mono (k:=1) ⟨by decide,by decide⟩ (by decide)
 ·split
  ·exact BQ.mono (inferInstance:BQ (v.hi-((1:Int):Rat)) _) (by decide)
  ·split
   ·exact BQ.mono (inferInstance:BQ (v.lo+((1:Int):Rat)) _) (by decide)
   ·exact BQ.mono (inferInstance:BQ ((v.lo+v.hi)*mkRat 1 2) _) (by decide)

def bsB(c:bw)(l:ab)(i:Nat):Bool:=match c[i]? with
 |some s=>decide (cA s.l.dir l.dir=0)
 |none=>false
def cU:Tr->List DV
 | .leaf b=>[vI 0,vI 0, .v (.pointer none),vI 0,vI 0, .v (.pointer none),vI 0,vI 0, .v (.pointer none), .v (.pointer none), .v (.pointer none), .v (.bool b)]
 | .node l x y=>[vI (dt (l.a:Rat)),vI (dz (l.a:Rat)),di (l.a:Rat),vI (dt (l.b:Rat)),vI (dz (l.b:Rat)),di (l.b:Rat),vI (dt (l.c:Rat)),vI (dz (l.c:Rat)),di (l.c:Rat), .pt (cU x), .pt (cU y), .v (.bool false)]
def eU(t:Tr):DV:= .pt (cU t)
def Tr.compl:Tr->Tr
 | .leaf b=> .leaf !b
 | .node l x y=> .node l x.compl y.compl
def Tr.chooseQ(op:Int)(b:Bool)(t:Tr)(c:bw):Tr:=
 if op=1\/op=2 then(if b=decide (op=1) then .leaf b else t.restrict c)
 else if op=3/\b=false then .leaf false
 else if b then(t.restrict c).compl else t.restrict c
def Tr.mergeQ(op:Int):Tr->Tr->bw->Tr
 | .leaf b,u,c=>u.chooseQ op b c
 | .node l x y,u,c=>if !e7 c l.rev then x.mergeQ op u c else if !e7 c l then y.mergeQ op u c else joinQ l (x.mergeQ op u (gi c l)) (y.mergeQ op u (gi c l.rev))
def Re:DV:= .ag [vI 0,vI 0, .v (.pointer none),vI 0,vI 0, .v (.pointer none),vI 0,vI 0, .v (.pointer none)]
def YQ:Option ab->DV
 |some l=> .tp [ny l,vB true]
 |none=> .tp [Re,vB false]
def yU(n:Bool)(ds:List Nat):Prop:=dq ds/\(n=true->0<ds.length)
instance (n:Bool) (ds:List Nat):Decidable (yU n ds):=inferInstanceAs (Decidable (_/\_))
structure RL where
 na:Bool
 da:List Nat
 nb:Bool
 db:List Nat
 nc:Bool
 dc:List Nat
def RL.d(r:RL):DV:= .ag [.v (.bool r.na),fe r.da, .v (.bool r.nb),fe r.db, .v (.bool r.nc),fe r.dc]
def Ct(n:Bool)(ds:List Nat):Int:=if n then-(dv ds:Int) else dv ds
def RL.l(r:RL):ab:=⟨Ct r.na r.da,Ct r.nb r.db,Ct r.nc r.dc⟩
def RL.nm(r:RL):Prop:=yU r.na r.da/\yU r.nb r.db/\yU r.nc r.dc
instance (l:ab):Decidable l.ok:=inferInstanceAs (Decidable (_/\_))
instance (r:RL):Decidable r.nm:=inferInstanceAs (Decidable (_/\_/\_))
def RL.ln(r:RL):Option ab:=if r.nm/\r.l.ok then some r.l else none
structure RL.sm (r:RL):Prop where
 a:bj r.da/\r.da.length<=3
 b:bj r.db/\r.db.length<=3
 c:bj r.dc/\r.dc.length<=3
def Zv(n:Nat)(f:Nat->Bool):List Value:=(List.range n).map fun j=> .bool (f j)
def tK(f:Nat->Bool)(i:Nat):Nat->Bool:=fun j=>f j||Nat.beq j i
structure RN where
 g:RL
 l:Int
 r:Int
def RN.d(n:RN):DV:= .ag [.v (.bool n.g.na),fe n.g.da, .v (.bool n.g.nb),fe n.g.db, .v (.bool n.g.nc),fe n.g.dc, .v (.int .i64 n.l), .v (.int .i64 n.r)]
structure RS where
 f:Nat->Bool
 c:Nat
 b:Bool
inductive RR (ns:List RN):Int->RS->Tr->RS->Prop where
 |leaf (b:Bool) (s:RS):RR ns (yn b) s (.leaf b) s
 |kP (rt:Int) (s:RS) (h1:rt≠ -1) (h2:rt≠ -2) (h:rt<0\/(ns.length:Int)<=rt\/(∃k:Nat,rt=k/\k<ns.length/\s.f k=true)):RR ns rt s (.leaf false) ⟨s.f,s.c,true⟩
 |line (k:Nat) (n:RN) (s:RS) (h:ns[k]? =some n) (hf:s.f k=false) (hl:n.g.ln=none):RR ns (k:Int) s (.leaf false) ⟨tK s.f k,s.c+1,true⟩
 |node (k:Nat) (n:RN) (l:ab) (s s2 s3:RS) (x y:Tr) (h:ns[k]? =some n) (hf:s.f k=false) (hl:n.g.ln=some l) (h1:RR ns n.l ⟨tK s.f k,s.c+1,s.b⟩ x s2) (h2:RR ns n.r s2 y s3):RR ns (k:Int) s (.node l x y) s3
abbrev aGw (x:SV) (ns:List RN) (A:Gh):Prop:= ∃es,ee A 8 x es/\IsLs A (ns.map RN.d) es
def QB:RS:=⟨fun _=>false,0,false⟩
def Y0(ns:List RN)(t:Tr)(s:RS):DV:=if s.b=false/\s.c=ns.length then .tp [eU t,vB true] else .tp [.v (.pointer none),vB false]
def OA(rt:Int)(ns:List RN):DV:= .ag [vI rt, .sl (ns.map RN.d)]

def Tr.pre:Tr->List Tr
 | .leaf b=>[.leaf b]
 | .node l x y=> .node l x y::(x.pre++y.pre)
structure Vis (f:FuncId) (c2:List Value) (σ:Type) (step:σ->Tr->σ) (ok:σ->Tr->Prop) (Inv:σ->List av->Gh->Prop):Prop where
 up: ∀{s B G G'},bm G G'->Inv s B G->Inv s B G'
 re: ∀{s B G} (fl:Nat->Bool),Inv s B G->Inv s (B.map (relo fl)) G
 go: ∀{s t p B G},ok s t->Inv s B G->Is G (eU t) (.pointer p)->kl prog f (.pointer p::c2) B G (fun _ B' G'=>Inv (step s t) B' G')
section
variable {P:Program} {C:aA} {n:Nat} {fr:Fr} {own:List av} {G:Gh}
end
def HZ{σ:Type}(step:σ->Tr->σ)(ok:σ->Tr->Prop):σ->List Tr->Prop
 |_,[]=>True
 |s,t::ts=>ok s t/\HZ step ok (step s t) ts
structure EX (σ:Type) where
 ts:List Tr
 vs:List Value
 rest:List Value
 b:Nat
 cap:Nat
 lo:Bool
 s:σ
 B:List av
def O1(t:Tr):Nat:=2*t.size+1
def Iy(ts:List Tr):List Tr:=ts.reverse.flatMap Tr.pre
structure EI (A:Gh) {σ:Type} (step:σ->Tr->σ) (ok:σ->Tr->Prop) (Inv:σ->List av->Gh->Prop) (N:Nat) (fin:σ) (x:EX σ) (G:Gh):Prop where
 rel:qy (fun v t=> ∃p,v= .pointer p/\Is A (eU t) (.pointer p)) x.vs x.ts
 cap:x.vs.length+x.rest.length=x.cap
 inv:Inv x.s x.B G
 mu:(x.ts.map O1).sum<=N
 okf:HZ step ok x.s (Iy x.ts)
 fin:(Iy x.ts).foldl step x.s=fin
def Zp(nbk:Nat)(s:Nat)(B:List av)(_:Gh):Prop:= ∃lo,B=[⟨nbk,[.int .i64 s],3,lo⟩]
def Z8(s:Nat):Tr->Nat
 | .leaf _=>s
 | .node .. =>s+1
def aEi(n:Nat)(f:Nat->Bool):Nat:=((List.range n).filter fun j=>!f j).length
def EY(ns:List RN):Nat->Int->RS->Tr×RS
 |0,_,s=>(.leaf false,s)
 |m+1,rt,s=>
  if rt= -1 then(.leaf false,s) else if rt= -2 then(.leaf true,s) else
  match ns[rt.toNat]? with
  |none=>(.leaf false,⟨s.f,s.c,true⟩)
  |some n=>if rt<0\/s.f rt.toNat=true then(.leaf false,⟨s.f,s.c,true⟩) else
   match n.g.ln with
   |none=>(.leaf false,⟨tK s.f rt.toNat,s.c+1,true⟩)
   |some l=>let a:=EY ns m n.l ⟨tK s.f rt.toNat,s.c+1,s.b⟩;let b:=EY ns m n.r a.2;(.node l a.1 b.1,b.2)
def UM(ns:List RN)(rt:Int):Option Tr:=
 let r:=EY ns (ns.length+1) rt QB
 if r.2.b=false/\r.2.c=ns.length then some r.1 else none
def ZD:Option Tr->DV
 |some t=> .tp [eU t,vB true]
 |none=> .tp [.v (.pointer none),vB false]
end Go.Sx
end
section
namespace Go.Sx
open Go Go.Proofs Go.RowKit Go.Extern.Stop Go.Stop Go.Extern
def aFQ:TypeId->Sem Value:=fun t=>do Go.Extern.Rtype.noPackHeld "Comparable" t;pure (.bool (<-typeInfo t).comparable)
def xN(a:Addr):DV:= .v (.iface 499 (.pointer (some a)))
end Go.Sx
end
section
namespace Go.Sx
open Go Go.Proofs Tryz
structure EG (GB:Gh) (ai al ae:Addr):Prop where
 ErrInvalid:GB 0=some [.iface 499 (.pointer (some ai))]
 ErrLimit:GB 1=some [.iface 499 (.pointer (some al))]
structure EGE (GB:Gh) (ai al ae:Addr):Prop extends EG GB ai al ae where
 ErrEmpty:GB 4=some [.iface 499 (.pointer (some ae))]
structure Tr.gd (t:Tr):Prop where
 lb:t.all LB
 ok:t.all ab.ok
def N4(op:Int)(a b:Tr):Option Tr:=if 1024<a.depth+b.depth then none else if 65536<(a.mergeQ op b []).size then none else some (a.mergeQ op b [])
def aFZ(al:Addr):Option Tr->DV
 |some t=> .tp [eU t, .v .nilIface]
 |none=> .tp [.v (.pointer none),xN al]
def I6(op:Int):Tr->List Tr->Option Tr
 |t,[]=>some t
 |t,u::us=>match N4 op t u with
  |none=>none
  |some r=>I6 op r us
def FO:DV:= .ag [vI 0, .sl []]
def ZW:Tr ⊕ Addr->DV
 | .inl t=> .tp [eA t, .v .nilIface]
 | .inr e=> .tp [FO,xN e]
def aFj(ai:Addr):Option Tr->Tr ⊕ Addr
 |some t=> .inl t.compl
 |none=> .inr ai
def Ix(al:Addr):Option Tr->Tr ⊕ Addr
 |some t=> .inl t
 |none=> .inr al
def aEw(ai al:Addr)(op:Int):Option Tr->Option Tr->Tr ⊕ Addr
 |some a,some b=>if 1<=op/\op<=4 then Ix al (N4 op a b) else .inr ai
 |_,_=> .inr ai
abbrev oI:=Int×List RN
def oI.d(x:oI):DV:=OA x.1 x.2
def oI.q(x:oI):Option Tr:=UM x.2 x.1
def Qe:Option Tr->DV
 |some t=>eU t
 |none=> .v (.pointer none)
def Vl(op:Int)(ts:List oI):Bool:=decide (1<=op/\op<=4)&&ts.all fun x=>x.q.isSome
def Z9(ai al ae:Addr)(op:Int)(ts:List oI):Tr ⊕ Addr:=
 if Vl op ts then(match ts.filterMap oI.q with
  |[]=> .inr ae
  |a::us=>if 1024<a.depth then .inr al else Ix al (I6 op (a.restrict []) us)) else .inr ai
def Y3(ts:List oI):List DV:=ts.map fun x=>Qe x.q
structure oI.ok (x:oI):Prop where
 s: ∀n∈x.2,n.g.sm
 n:x.2.length<=65536
def RN.of(n:NQ):RN:=⟨⟨decide (n.l.a<0),dg n.l.a.natAbs,decide (n.l.b<0),dg n.l.b.natAbs,decide (n.l.c<0),dg n.l.c.natAbs⟩,n.a,n.b⟩
def Es(ns:List NQ):Tr->Int->List Nat->Prop
 | .leaf b,rt,L=>rt=yn b/\L=[]
 | .node l x y,rt,L=> ∃(k:Nat) (a b:Int) (L1 L2:List Nat),rt=(k:Int)/\ns[k]? =some ⟨l,a,b⟩/\Es ns x a L1/\Es ns y b L2/\L=k::(L1++L2)
def YR(ns:List NQ)(t:Tr)(rt:Int):Prop:= ∃L,Es ns t rt L/\L.Nodup/\L.length=ns.length
def Nj{GB:Gh}{a i:Nat}[ha:BN a i](hi:i<=400000000:=by decide):PF GB prog 194 [dN a] (dN a):=by
 have hl:=eO (dg a);have hb:=lE ha.h;refine fn func194 J J ntmps194 J J (fun C=>?_);refine AI J J<|ap ((dg a).map dU) J J (tL _) J<|?_;refine n5 5 J ?_;exact rz J J
def RO{GB:Gh}{z:Int}{i:Nat}[hz:BI z i](hi:i<=400000000:=by decide):PF GB prog 193 [eI z] (eI z):=by
 refine fn func193 J J ntmps193 J J (fun C=>?_);refine cl J (Nj (a:=z.natAbs) (i:=i) (ha:=⟨hz.h⟩) hi) J<|?_;exact rz J J
def Z0(r:RL):DV:= .tp [if r.nm then eL r.l else .ag [.v (.bool false), .sl [], .v (.bool false), .sl [], .v (.bool false), .sl []],vB (decide (r.nm/\r.l.ok))]
def smB(n:Int)(ls:List (List Nat)):Bool:=ls.all fun d=>decide ((d.length:Int)<=n)
def RL.smB(n:Int)(r:RL):Bool:=Sx.smB n [r.da,r.db,r.dc]
def rlB(n:Int)(ls:List RL):Bool:=ls.all fun r=>r.smB n
def YZ(cs:List RL):Option (List ab):=if cs.all (fun r=>r.ln.isSome) then some (cs.filterMap RL.ln) else none
def Zj:Option (List ab)->DV
 |some ls=> .tp [.sl (ls.map ny),vB true]
 |none=> .tp [.sl [],vB false]
def aFX:Option bw->DV
 |some c=> .tp [.sl (c.map cp),vB true]
 |none=> .tp [.sl [],vB false]
def Zo(ai al:Addr)(more:Nat):Option Tr->DV
 |none=> .tp [.v (.pointer none),xN ai]
 |some t=>if 1024<t.depth+more then .tp [.v (.pointer none),xN al] else .tp [eU t, .v .nilIface]
def YM(ai:Addr)(f:Tr->Tr):Option Tr->Tr ⊕ Addr
 |some t=> .inl (f t)
 |none=> .inr ai
def aEF(ai ae:Addr):Option Tr->Option (List ab)->Tr ⊕ Addr
 |some t,some ls=>(match oo ls [] with
  |some c=> .inl (t.restrict c)
  |none=> .inr ae)
 |_,_=> .inr ai
def ZO(ai:Addr):Option ab->Option Tr->DV
 |some m,some t=> .tp [eA (t.restrict (gi [] m)),eA (t.restrict (gi [] m.rev)), .v .nilIface]
 |_,_=> .tp [FO,FO,xN ai]

end Go.Sx
end
