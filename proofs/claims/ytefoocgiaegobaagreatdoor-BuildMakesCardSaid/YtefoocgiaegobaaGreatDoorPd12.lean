import Derived.Test.YtefoocgiaegobaaGreatDoorPd11
set_option linter.all false
set_option maxHeartbeats 4000000
set_option maxRecDepth 100000
section
namespace Go.Sx
open Go Go.Proofs Tryz
variable {GB:Gh}
def uA{a b:Int}(h:a=b):eI a=eI b:=by rw[h]
def CK(z:Int):eQ (z:Rat)= .ag [.v (.bool (decide (z<0))),dN z.natAbs, .sl []]:=by unfold eQ;rw[qK,qV];rfl
def AF{a:Rat}(h:a.den=1):((a.num:Int):Rat)=a:=Rat.ext (qK _) (by rw[qV,h])
def Xa{a b:Rat}(ha:a.den=1)(hb:b.den=1):a+b=((a.num+b.num:Int):Rat):=by
 rw[oJ,AF ha,AF hb]
def Te{a b:Rat}(ha:a.den=1)(hb:b.den=1):a*b=((a.num*b.num:Int):Rat):=by
 rw[cN,AF ha,AF hb]
def uX(n:Nat)(h:0<n):(if n=1 then [] else(dg n).map dU).length=0↔n=1:=by
 by_cases q:n=1
 ·simp[q]
 ·rw[if_neg q,aK,tg];omega
def Jc{n:Nat}(h:n≠1):dD n=dN n:=by unfold dD;rw[if_neg h];rfl
def F2{g:Nat}:(f8 g 1=0)↔g=1:=by
 unfold f8;constructor
 ·intro h;split at h
  ·exact absurd h (by decide)
  ·split at h
   ·assumption
   ·exact absurd h (by decide)
 ·rintro rfl;rfl
def M'{x:Int}{d:Nat}(hd:0<d):zv (decide (x<0)) (x.natAbs/Nat.gcd x.natAbs d)=(mkRat x d).num:=by
 rw[Rat.num_mkRat,if_neg (by omega),iM];have hg:0<Nat.gcd d x.natAbs:=mX _ hd;obtain⟨c,hc⟩:Nat.gcd d x.natAbs∣x.natAbs:=lZ _ _;generalize Nat.gcd d x.natAbs=g at*;rw[hc,qL _ hg];unfold zv;by_cases q:x<0
 ·rw[if_pos (by simpa using q),show x=(g:Int)*(-(c:Int)) by rw[Int.mul_neg,<-iN];omega,Int.mul_ediv_cancel_left _ (by omega)]
 ·rw[if_neg (by simpa using q),show x=(g:Int)*(c:Int) by rw[<-iN];omega,Int.mul_ediv_cancel_left _ (by omega)]
def N6{x:Int}{d:Nat}(hd:0<d):d/Nat.gcd x.natAbs d=(mkRat x d).den:=by
 rw[Rat.den_mkRat,if_neg (by omega),iM]
def aCy{x:Int}{d:Nat}(hd:0<d)(h:Nat.gcd x.natAbs d=1):(mkRat x d).num=x/\(mkRat x d).den=d:=by
 rw[<-M' hd,<-N6 hd,h,sS,sS];exact⟨lw x,J⟩
instance BI.zv (neg:Bool) (m i:Nat) [h:BN m i]:BI (zv neg m) i:=⟨by rw[pA];exact h.h⟩
section
variable {GB:Gh} {C:aC} {n:Nat} {Q0:Exit->Act->World->Prop} {fr fr':aA} {own own':aH} {cf cf':Cf} {vc:List Prop}
def IB(fr:aA)(cf:Cf):Option Int:=match b6 fr cf with
 |some ⟨_, .convert t t' x,_,_,_,_⟩=>match cH tt t,cH tt t' with
  |some ⟨.int .i64,_,_,_⟩,some ⟨.int .u64,_,_,_⟩=>match aO (bu fr cf) x with
   |some (.d (.v (.int .i64 p)))=>some p
   |_=>none
  |_,_=>none
 |_=>none
def YY[fu:Fu]{p:Int}(q:Int)(h:IB fr cf=some p)(e:p%18446744073709551616=q)(hgo:cE tt n fu.n fr own cf (.d (.v (.int .u64 q))) [] []=⟨vc,fr',own',cf'⟩)(k:av prog GB C n Q0 fr' own' cf')
  (hv:ah vc:=by first|exact trivial|(simp only[ah];omega)):av prog GB C n Q0 fr own cf:=by
 unfold IB at h;split at h<;>try (cases h;done)
 rename_i hh;split at h<;>try (cases h;done)
 rename_i hT hT';split at h<;>cases h;rename_i hx;have:=uW (e7 _ _ hT) J;have:=uW (e7 _ _ hT') J;refine us hh (.x1 hx fun ρ G ov a w y _ r h1 h2=>?_) hgo hv k;rw[dh] at h2;subst h2;refine⟨_,dh.2 J,?_⟩;rw[<-e,<-l7];exact Dp h1
def NL(fr:aA)(cf:Cf):Option Int:=match b6 fr cf with
 |some ⟨_, .unOp .neg _ x,_,_,_,_⟩=>match aO (bu fr cf) x with
  |some (.d (.v (.int .u64 p)))=>some p
  |_=>none
 |_=>none
def XO[fu:Fu]{p:Int}(q:Int)(h:NL fr cf=some p)(e:(0-p)%18446744073709551616=q)(hgo:cE tt n fu.n fr own cf (.d (.v (.int .u64 q))) [] []=⟨vc,fr',own',cf'⟩)(k:av prog GB C n Q0 fr' own' cf')
  (hv:ah vc:=by first|exact trivial|(simp only[ah];omega)):av prog GB C n Q0 fr own cf:=by
 unfold NL at h;split at h<;>try (cases h;done)
 rename_i hh;split at h<;>cases h;rename_i hx;refine us hh (.x1 hx fun ρ G ov a w y _ r h1 h2=>?_) hgo hv k;rw[dh] at h2;subst h2;refine⟨_,dh.2 J,?_⟩;rw[<-e,<-l7];exact DR h1
end
def aEA{n:Int}(h0: -4611686018427387904<=n)(h1:n<=4611686018427387904):PF GB prog 157 [.v (.int .i64 n)] (eI n):=by
 refine fn func157 J J ntmps157 J J (fun C=>?_);refine br (fu1:=⟨3⟩) (fu2:=⟨6⟩) J J J (fun hc4=>?_) (fun hc4=>?_)
 .
  refine YY (fu:=⟨0⟩) (18446744073709551616+n) J (by omega) J<|XO (n.natAbs:Nat) J (by omega) J<|cl J (sE (u:=n.natAbs) (by omega)) J<|?_;refine cl J jD J<|?_;exact rz J (uA (by unfold zv;rw[if_pos J];omega))
 .
  refine ak 11 (.d (.v (.int .u64 (n.natAbs:Nat)))) J (by show FX.d (.v (.int _ _))= .d (.v (.int _ _));congr 3;omega) ?_;refine gx J<|cl J (sE (u:=n.natAbs) (by omega)) J<|cl J jD J<|?_;exact rz J (uA (by unfold zv;rw[if_neg (by decide)];omega))
def AX{z:Int}:PF GB prog 123 [eI z] (vI z.sign):=by
 have hl:=ez (dg z.natAbs);have hz:= @tg z.natAbs;refine fn func123 J J ntmps123 J J (fun C=>?_);refine br J J J (fun hc6=>?_) (fun hc6=>?_)
 .
  exact rz J (by show DV.v (.int _ 0)=DV.v (.int _ _);rw[show z=0 by omega];rfl)
 .
  refine bd J J J (fun hc8=>?_) (fun hc8=>?_)
  .
   exact rz J (by show DV.v (.int _ (-1))=DV.v (.int _ _);rw[fZ (by omega)])
  .
   exact rz J (by show DV.v (.int _ 1)=DV.v (.int _ _);rw[gV (by omega)])
def zk{z:Int}:PF GB prog 124 [eI z] (eI (-z)):=by
 refine fn func124 J J ntmps124 J J (fun C=>?_);refine cl J jD J<|?_;exact rz J (uA (Yu z))
def Rt{a b:Int}(h:decide (a<0)=decide (b<0)):zv (decide (a<0)) (a.natAbs+b.natAbs)=a+b:=by
 unfold zv;have h':a<0↔b<0:=by simpa using h
 by_cases q:a<0
 ·have:=h'.1 q
  simp[q];omega
 ·have: ¬b<0:=fun w=>q (h'.2 w)
  simp[q];omega
def XK{a b:Int}(h: ¬decide (a<0)=decide (b<0))(k:a.natAbs<b.natAbs):zv (decide (b<0)) (b.natAbs-a.natAbs)=a+b:=by
 unfold zv;have h': ¬(a<0↔b<0):=by simpa using h
 by_cases q:b<0
 ·have: ¬a<0:=fun w=>h' ⟨fun _=>q,fun _=>w⟩
  simp[q];omega
 ·have:a<0:=Int.not_le.1 fun w=>h' ⟨fun e=>by omega,fun e=>absurd e q⟩
  simp[q];omega
def RW{a b:Int}(h: ¬decide (a<0)=decide (b<0))(k:b.natAbs<=a.natAbs):zv (decide (a<0)) (a.natAbs-b.natAbs)=a+b:=by
 unfold zv;have h': ¬(a<0↔b<0):=by simpa using h
 by_cases q:a<0
 ·have: ¬b<0:=fun w=>h' ⟨fun _=>w,fun _=>q⟩
  simp[q];omega
 ·have:b<0:=Int.not_le.1 fun w=>h' ⟨fun e=>absurd e q,fun e=>by omega⟩
  simp[q];omega
def AI{a b:Int}{i j:Nat}[ha:BI a i][hb:BI b j](hi:i<=400000000:=by decide)(hj:j<=400000000:=by decide):PF GB prog 240 [eI a,eI b] (eI (a+b)):=by
 have hba:=ld ha.h;have hbb:=ld hb.h;refine fn (fu:=⟨15⟩) func240 J J ntmps240 J J (fun C=>?_);refine ak 9 (.d (.v (.bool (decide (decide (a<0)=decide (b<0)))))) J (by congr 2) ?_;refine gx J<|?_;refine bd J J J (fun hc9=>?_) (fun hc9=>?_)
 .
  refine cl J (TG (by omega) (by omega)) J<|cl J jD J<|?_;exact rz J (uA (Rt hc9))
 .
  refine cl J (Ap (by omega) (by omega)) J<|?_;refine br J J J (fun hc23=>?_) (fun hc23=>?_)
  .
   refine cl J (Ea (by have:=wB.1 hc23;omega) (by omega)) J<|cl J jD J<|?_;exact rz J (uA (XK hc9 (wB.1 hc23)))
  .
   refine cl J (Ea (rT fun q=>hc23 (wB.2 q)) (by omega)) J<|cl J jD J<|?_;exact rz J (uA (RW hc9 (rT fun q=>hc23 (wB.2 q))))
def si{a b:Int}{i j:Nat}[ha:BI a i][hb:BI b j](hi:i<=400000000:=by decide)(hj:j<=400000000:=by decide):PF GB prog 238 [eI a,eI b] (eI (a*b)):=by
 refine fn func238 J J ntmps238 J J (fun C=>?_);refine cl J (ql (by omega) (by omega)) J<|cl J jD J<|?_;exact rz J (uA (Xz a b))
def Ez{a b:Int}{i j:Nat}[ha:BI a i][hb:BI b j](hi:i<=400000000:=by decide)(hj:j<=400000000:=by decide):PF GB prog 268 [eI a,eI b] (vI (a-b).sign):=by
 refine fn func268 J J ntmps268 J J (fun C=>?_);refine cl J zk J<|cl J (AI (by omega) (by omega)) J<|cl J AX J<|?_;exact rz J (by rw[Int.sub_eq_add_neg];rfl)
def j'{q:Rat}:PF GB prog 195 [eQ q] (dN q.den):=by
 refine fn func195 J J ntmps195 J J (fun C=>?_);refine br J J J (fun hc6=>?_) (fun hc6=>?_)
 .
  refine cl J FL J<|?_;exact rz J (by rw[(uX q.den (lu q)).1 (by omega)];rfl)
 .
  exact rz J (by exact Jc (fun e=>hc6 (by exact congrArg Int.ofNat ((uX q.den (lu q)).2 e))))
def Lv{n k:Nat}[h:BN n k](hk:k<=500000000):(dg n).length<=100000000:=by have:=ld h.h;omega
def uV{x:Int}{d i j:Nat}[hx:BI x i][hd:BN d j](hd0:0<d)(hi:i<=200000000:=by decide)(hj:j<=200000000:=by decide):PF GB prog 156 [eI x,dN d] (eQ (mkRat x d)):=by
 obtain⟨q,hq⟩: ∃q,q=mkRat x d:=⟨_,rfl⟩;obtain⟨g,hg⟩: ∃g,g=Nat.gcd x.natAbs d:=⟨_,rfl⟩;have hg0:0<g:=hg▸qQ _ hd0;haveI hgB:BN g (i+j):=hg▸inferInstance;have hg1:(dg g).length<=100000000:=Lv (k:=i+j) (by omega);have ho1:(dg 1).length<=100000000:=by rw[Bh];decide
 haveI hqB:BQ q (i+j):=hq▸xe hd0 (dK hx.h (bY (by decide) (by omega))) (dK hd.h (bY (by decide) (by omega)));refine fn func156 J J ntmps156 J J (fun C=>?_);refine cl (fu:=⟨0⟩) J (GX (by omega) (by omega)) J<|?_;refine ak 11 (.d (dN g)) J (by rw[hg]) ?_;refine gx (fu:=⟨4⟩) J<|?_;refine mg (fu:=⟨1⟩) (X:=Unit) (fun _=>[(1, .d (dN q.den)),(2, .ov 2 0),(4, .ov 4 0)]) (fun _=>[(4,some (.o 79 [.ff, .nl, .nl] true)),(2,some (.o 77 [.d (.v (.bool (decide (q.num<0)))), .d (dN q.num.natAbs)] true))]) (fun _=>True) [1,2,4] [4,2] rfl ?_ (fun _=>J) (fun _ hm=>?_)
 .
  refine gx J<|cl J FL J<|cl J (Ap hg1 ho1) J<|?_;refine br J J J (fun hc15=>?_) (fun hc15=>?_)
  .
   refine cl J (wh hg0 (by omega) (by omega)) J<|cl (fu:=⟨0⟩) J jD J<|?_;refine ak 26 (.d (eI q.num)) J (by show FX.d (eI (zv _ _))=_;rw[hg,M' hd0,hq]) ?_;refine gx J<|cl (fu:=⟨2⟩) J (wh hg0 (by omega) (by omega)) J<|?_;refine ak 31 (.d (dN q.den)) J (by rw[hg,N6 hd0,hq]) ?_;refine gx J<|?_;exact at_ () trivial
  .
   have hm:=aCy (x:=x) hd0 (by rw[<-hg];exact F2.1 (Decidable.not_not.1 hc15));rw[<-hq] at hm;refine ak 1 (.d (dN q.den)) J (by rw[hm.2]) ?_;exact at_ () trivial (hO:=⟨J,by rw[hm.1];rfl,trivial⟩)
 .
  refine mg (X:=Unit) (fun _=>[(1, .d (dD q.den)),(2, .ov 2 0),(4, .ov 4 0)]) (fun _=>[(4,some (.o 79 [.ff, .nl, .nl] true)),(2,some (.o 77 [.d (.v (.bool (decide (q.num<0)))), .d (dN q.num.natAbs)] true))]) (fun _=>True) [1,2,4] [4,2] rfl ?_ (fun _=>J) (fun _ hm=>?_)
  .
   refine gx J<|cl J FL J<|cl J (Ap (Lv (k:=i+j) (by omega)) ho1) J<|?_;refine br J J J (fun hc36=>?_) (fun hc36=>?_)
   .
    refine SE 1 J ?_;refine ak 1 (.d (dD q.den)) J (by rw[F2.1 hc36];rfl) ?_;exact at_ () trivial
   .
    refine ak 1 (.d (dD q.den)) J (by rw[Jc (fun e=>hc36 (F2.2 e))]) ?_;exact at_ () trivial
  .
   exact rz J (by rw[<-hq];rfl)
def OX(a:Rat):mkRat a.num a.den=a:=by simp[sU]
def Qh{a b:Rat}(h:b≠0):a/b=mkRat (a.num*zv (decide (b.num<0)) b.den) (a.den*b.num.natAbs):=by
 rw[pT];have ha:(a.num:Rat)/(a.den:Rat)=a:=by rw[<-pT,OX]
 have hb:(b.num:Rat)/(b.den:Rat)=b:=by rw[<-pT,OX]
 have h1:(a.den:Rat)≠0:=by have:=a.den_nz;exact_mod_cast this
 have h2:(b.den:Rat)≠0:=by have:=b.den_nz;exact_mod_cast this
 have h3:(b.num:Rat)≠0:=by
  intro e;rw[e] at hb;apply h;rw[<-hb];grind
 rw[cN,Rat.natCast_mul];by_cases q:b.num<0
 ·have e1:((zv (decide (b.num<0)) b.den:Int):Rat)= -(b.den:Rat):=by
   unfold zv;rw[if_pos (by simpa using q),qW];rfl
  have e2:((b.num.natAbs:Nat):Rat)= -(b.num:Rat):=by
   have:((b.num.natAbs:Nat):Int)= -b.num:=by omega
   rw[<-qW,<-this];rfl
  rw[e1,e2];generalize (a.num:Rat)=an at*;generalize (a.den:Rat)=ad at*;generalize (b.num:Rat)=bn at*;generalize (b.den:Rat)=bd at*;subst ha hb;grind
 ·have e1:((zv (decide (b.num<0)) b.den:Int):Rat)=(b.den:Rat):=by
   unfold zv;rw[if_neg (by simpa using q)];rfl
  have e2:((b.num.natAbs:Nat):Rat)=(b.num:Rat):=by
   have:((b.num.natAbs:Nat):Int)=b.num:=by omega
   rw[<-this];rfl
  rw[e1,e2];generalize (a.num:Rat)=an at*;generalize (a.den:Rat)=ad at*;generalize (b.num:Rat)=bn at*;generalize (b.den:Rat)=bd at*;subst ha hb;grind
def TP{q:Rat}{n:Int}{d:Nat}(hd:0<d)(h:q*(d:Rat)=(n:Rat)):q.num.natAbs<=n.natAbs/\q.den<=d:=by
 have e:q=mkRat n d:=by
  rw[pT];have:(d:Rat)≠0:=by exact_mod_cast (by omega:d≠0)
  rw[<-h];grind
 rw[e,Rat.num_mkRat,Rat.den_mkRat,if_neg (by omega),if_neg (by omega)];exact⟨nQ n (d.gcd n.natAbs:Nat),kY ..⟩
theorem BQ.of_frac{q:Rat}{n:Int}{d i:Nat}(hd:0<d)(h:q*(d:Rat)=(n:Rat))(hn:n.natAbs<2^i)(hdi:d<2^i):BQ q i:=by
 have:=TP hd h;exact⟨by omega,by omega⟩
def L9{b:Rat}(h:b≠0):0<b.num.natAbs:=by
 have:b.num≠0:=fun e=>h (oZ.1 e);omega
instance BQ.over (a b:Rat) (i j:Nat) [ha:BQ a i] [hb:BQ b j]:BQ (a/b) (i+j):=by
 by_cases h:b=0
 ·subst h
  rw[Rat.div_def,Rat.inv_zero,Rat.mul_zero];have h2:=ha.hd;have h3:0<a.den:=lu a;have h4:2^i*1<=2^i*2^j:=fV _ (dL (by decide));rw[<-fX] at h4;exact⟨by show 0<_;omega,by show 1<_;omega⟩
 ·rw[Qh h]
  have hb0:=L9 h;refine xe (kQ (lu a) hb0) ?_ (oq ha.hd hb.hn);rw[jQ,pA];exact oq ha.hn hb.hd
def kI{n:Int}(h0: -4611686018427387904<=n)(h1:n<=4611686018427387904):PF GB prog 101 [.v (.int .i64 n)] (eQ (n:Rat)):=by
 refine fn func101 J J ntmps101 J J (fun C=>?_);refine cl J (aEA (by omega) (by omega)) J<|?_;exact rz J (by rw[CK];rfl)
def px{q:Rat}:PF GB prog 44 [eQ q] (vI q.num.sign):=by
 refine fn func44 J J ntmps44 J J (fun C=>?_);refine cl J AX J<|?_;exact rz J J
def uu{q:Rat}:PF GB prog 45 [eQ q] (eQ (-q)):=by
 refine fn func45 J J ntmps45 J J (fun C=>?_);refine cl J zk J<|?_;exact rz J (by unfold eQ;rw[oN,rS];rfl)
def iD{a b:Rat}{i j:Nat}[ha:BQ a i][hb:BQ b j](hi:i<=20000000:=by decide)(hj:j<=20000000:=by decide):PF GB prog 149 [eQ a,eQ b] (eQ (a*b)):=by
 have had:=lu a;have hbd:=lu b;have hdp:=kQ had hbd;have e1:=uX a.den had;have e2:=uX b.den hbd;refine fn func149 J J ntmps149 J J (fun C=>?_);refine cs 9 J J J (fun hg9=>?_) (fun hg9=>?_)
 .
  refine br J J J (fun hc14=>?_) (fun hc14=>?_)
  .
   refine cl J (si (a:=a.num) (b:=b.num) (by omega) (by omega)) J<|?_;exact rz J (by rw[Te (e1.1 (by omega)) (e2.1 (by omega)),CK];rfl)
  .
   refine cl J (si (a:=a.num) (b:=b.num) (by omega) (by omega)) J<|cl J j' J<|cl J j' J<|cl J (ql (by omega) (by omega)) J<|?_;refine cl J (uV hdp (by omega) (by omega)) J<|?_;exact rz J (by rw[xz];rfl)
 .
  refine cl J (si (a:=a.num) (b:=b.num) (by omega) (by omega)) J<|cl J j' J<|cl J j' J<|cl J (ql (by omega) (by omega)) J<|?_;refine cl J (uV hdp (by omega) (by omega)) J<|?_;exact rz J (by rw[xz];rfl)
def ot{a b:Rat}{i j:Nat}[ha:BQ a i][hb:BQ b j](hi:i<=20000000:=by decide)(hj:j<=20000000:=by decide):PF GB prog 148 [eQ a,eQ b] (eQ (a+b)):=by
 have had:=lu a;have hbd:=lu b;have hdp:=kQ had hbd;have e1:=uX a.den had;have e2:=uX b.den hbd;refine fn func148 J J ntmps148 J J (fun C=>?_);refine cs 9 J J J (fun hg9=>?_) (fun hg9=>?_)
 .
  refine br J J J (fun hc14=>?_) (fun hc14=>?_)
  .
   refine cl J (AI (by omega) (by omega)) J<|?_;exact rz J (by rw[Xa (e1.1 (by omega)) (e2.1 (by omega)),CK];rfl)
  .
   refine cl J j' J<|cl J jD J<|cl J (si (a:=a.num) (b:=zv false b.den) (by omega) (by omega)) J<|cl J j' J<|cl J jD J<|?_;refine cl J (si (a:=b.num) (b:=zv false a.den) (by omega) (by omega)) J<|cl J (AI (by omega) (by omega)) J<|cl J j' J<|?_;refine cl J j' J<|cl J (ql (by omega) (by omega)) J<|cl J (uV hdp (by omega) (by omega)) J<|?_;exact rz J (by rw[An];rfl)
 .
  refine cl J j' J<|cl J jD J<|cl J (si (a:=a.num) (b:=zv false b.den) (by omega) (by omega)) J<|cl J j' J<|?_;refine cl J jD J<|cl J (si (a:=b.num) (b:=zv false a.den) (by omega) (by omega)) J<|cl J (AI (by omega) (by omega)) J<|?_;refine cl J j' J<|cl J j' J<|cl J (ql (by omega) (by omega)) J<|cl J (uV hdp (by omega) (by omega)) J<|?_;exact rz J (by rw[An];rfl)
def ru{a b:Rat}{i j:Nat}[ha:BQ a i][hb:BQ b j](hi:i<=20000000:=by decide)(hj:j<=20000000:=by decide):PF GB prog 163 [eQ a,eQ b] (eQ (a-b)):=by
 refine fn func163 J J ntmps163 J J (fun C=>?_);refine cl J (uu (q:=b)) J<|cl J (ot (a:=a) (b:= -b) hi hj) J<|?_;exact rz J (by rw[Rat.sub_eq_add_neg];rfl)
def wI{a b:Rat}{i j:Nat}[ha:BQ a i][hb:BQ b j](hb0:b≠0)(hi:i<=20000000:=by decide)(hj:j<=20000000:=by decide):PF GB prog 147 [eQ a,eQ b] (eQ (a/b)):=by
 have hbp:=L9 hb0;have hdp:=kQ (lu a) hbp;refine fn func147 J J ntmps147 J J (fun C=>?_);refine cl J j' J<|cl J jD J<|cl J (si (a:=a.num) (b:=zv (decide (b.num<0)) b.den) (by omega) (by omega)) J<|cl J j' J<|?_;refine cl J (ql (a:=a.den) (b:=b.num.natAbs) (by omega) (by omega)) J<|cl J (uV (x:=a.num*zv (decide (b.num<0)) b.den) (d:=a.den*b.num.natAbs) hdp (by omega) (by omega)) J<|?_;exact rz J (by rw[Qh hb0];rfl)
def lf{a b:Rat}{i j:Nat}[ha:BQ a i][hb:BQ b j](hi:i<=20000000:=by decide)(hj:j<=20000000:=by decide):PF GB prog 115 [eQ a,eQ b] (vI (bg a b)):=by
 refine fn func115 J J ntmps115 J J (fun C=>?_);refine cl J (ru hi hj) J<|cl J px J<|?_;exact rz J (by show vI _=vI _;rw[Dc])
def Z0:((2:Int):Rat)≠0:=by decide
instance BI.two:BI 2 2:=⟨by decide⟩
def Hi{a:Rat}{i:Nat}[ha:BQ a i](hi:i<=20000000:=by decide):PF GB prog 121 [eQ a] (eQ (a/2)):=by
 refine fn func121 J J ntmps121 J J (fun C=>?_);refine cl J (kI (n:=2) (by decide) (by decide)) J<|cl J (wI (a:=a) (b:=((2:Int):Rat)) Z0 hi (by decide)) J<|?_;exact rz J J
def D4{a b:Rat}{i j:Nat}[ha:BQ a i][hb:BQ b j](hi:i<=2000000:=by decide)(hj:j<=2000000:=by decide):PF GB prog 237 [eQ a,eQ b] (eQ ((a+b)/2)):=by
 refine fn func237 J J ntmps237 J J (fun C=>?_);refine cl J (ot (by omega) (by omega)) J<|cl J (Hi (a:=a+b) (by omega)) J<|?_;exact rz J J
def LN{m:Int}{g:Nat}(hg:(g:Int)∣m)(hb:m.natAbs<4611686018427387904):IntKind.i64.wrap (m.tdiv g)=m/g:=by
 rw[Int.tdiv_eq_ediv_of_dvd hg];have:=nQ m g;exact XC (by omega)
def tm(a b:Int):Int:=if(a*b).natAbs<4611686018427387904 then a*b else 0
def Ew(a b:Int):(tm a b).natAbs<4611686018427387904:=by unfold tm;split<;>omega
def xy{a b:Int}(h:(a*b).natAbs<4611686018427387904):tm a b=a*b:=if_pos h
def OE{a b:Int}(h: ¬(a*b).natAbs<4611686018427387904):DV.tp [vI 0, .v (.bool false)]= .tp [vI (tm a b),vB (decide ((a*b).natAbs<4611686018427387904))]:=by unfold tm;rw[if_neg h,decide_eq_false h];rfl
def Mj{a b:Int}{x:Int}(h:(a*b).natAbs<4611686018427387904)(e:x=a*b):DV.tp [vI x, .v (.bool true)]= .tp [vI (tm a b),vB (decide ((a*b).natAbs<4611686018427387904))]:=by unfold tm;rw[if_pos h,decide_eq_true h,e];rfl
def KC(n:Nat):eI (n:Int)= .ag [.v (.bool false),dN n]:=by unfold eI;rw[decide_eq_false (by omega),lN]
def V9{p q:Rat}(hp:p.den=1)(hq:q.den=1):rgcd p q=((Nat.gcd p.num.natAbs q.num.natAbs:Nat):Int):=by
 conv=>lhs;rw[Ba hp,Ba hq]
 exact D3 _ _
def WV(q:Rat):mkRat (zv (decide (q.num<0)) q.den) q.num.natAbs=q⁻¹:=by
 rw[Rat.inv_def];by_cases h:q.num<0
 ·rw[decide_eq_true h];exact Un h
 ·rw[decide_eq_false h,<-Rat.divInt_ofNat,nX (by omega)];rfl
instance BQ.inv (q:Rat) (i:Nat) [h:BQ q i]:BQ q⁻¹ i:=by
 have h1:=h.hn;have h2:=h.hd;have h3:=q.den_nz;rcases oR q.num 0 with k|k|k
 ·obtain⟨e1,e2⟩:=OC k;exact⟨by omega,by omega⟩
 ·have e:q=0:=oZ.1 k
  have e0:(0:Rat)⁻¹=0:=Rat.inv_zero;rw[e] at h1 h2⊢;rw[e0];exact⟨h1,h2⟩
 ·obtain⟨e1,e2⟩:=OU k;exact⟨by omega,by omega⟩
instance BQ.half:BQ (mkRat 1 2) 2:=⟨by decide,by decide⟩
def XL{x y:Nat}(hx:x<18446744073709551616)(hy:y<18446744073709551616):PF GB prog 359 [.v (.int .u64 (x:Nat)), .v (.int .u64 (y:Nat))] (.tp [.v (.int .u64 ((x*y/18446744073709551616:Nat):Int)), .v (.int .u64 ((x*y%18446744073709551616:Nat):Int))]):=fun G vs _ hv=>by
 obtain⟨v,m,rfl,h1,h2⟩:=bt.1 hv;obtain⟨u,m',rfl,h3,h4⟩:=bt.1 h2
 cases dl.1 h4
 rw[bc.1 h1,bc.1 h3];exact(RY hx hy).mono fun v G' _ h=>by subst h;exact lz.2 ⟨_,J, .cons (bc.2 J) (.cons (bc.2 J) .nil)⟩
def NY{a b:Nat}(ha:a<18446744073709551616)(hb:b<18446744073709551616):PF GB prog 349 [.v (.int .u64 (a:Nat)), .v (.int .u64 (b:Nat))] (.v (.int .u64 (Nat.gcd a b:Nat))):=by
 refine fn func349 J J ntmps349 J J (fun C=>?_);refine lp (X:=Nat×Nat) (fun⟨u,v⟩=>[(1, .d (.v (.int .u64 (v:Nat)))),(0, .d (.v (.int .u64 (u:Nat))))]) (fun⟨u,v⟩=>[]) (fun⟨u,v⟩=>u<18446744073709551616/\v<18446744073709551616/\Nat.gcd u v=Nat.gcd a b) (fun⟨u,v⟩=>v) (a,b) J ⟨ha,hb,J⟩ (fun _=>J) (fun⟨u,v⟩ hk=>?_);dsimp only at hk⊢;obtain⟨h1,h2,h3⟩:=hk;refine br (v1:=fun hc6=>by simp only[ah];exact⟨by omega,by kernel_rfl⟩) J J J (fun hc6=>?_) (fun hc6=>?_)
 .
  have hm:=dW u (show 0<v by omega);exact at_ (v,u%v) (by dsimp only;exact⟨⟨h2,by omega,by rw[<-h3,iM u v,sT v u,iM]⟩,hm⟩)
 .
  exact rz J (by rw[<-h3,show v=0 by omega,mS];rfl)
def wm{m:Int}(h:m.natAbs<9223372036854775808):PF GB prog 199 [vI m] (eF (m:Rat)):=by
 refine fn func199 J J ntmps199 J J (fun C=>?_);refine cs 5 J J J (fun hg5=>?_) (fun hg5=>?_)
 .
  refine cl J (GD (m:=m) (by omega) (by omega)) J<|rf (fu:=⟨0⟩) J J<|?_;refine ak 11 (.d (dN 1)) J (by unfold dN;rw[Bh];rfl) ?_;refine gx J<|cl J (tV (n:=decide (m<0)) (a:=m.natAbs) (i:=63) (h:=⟨h⟩) (d:=1)) J<|?_;exact rz J (by rw[lw,show mkRat m 1=(m:Rat) from Rat.mkRat_one ..];rfl)
 .
  refine br J J J (fun hc8=>?_) (fun hc8=>?_)
  .
   refine cl J (GD (m:=m) (by omega) (by omega)) J<|rf (fu:=⟨0⟩) J J<|?_;refine ak 11 (.d (dN 1)) J (by unfold dN;rw[Bh];rfl) ?_;refine gx J<|cl J (tV (n:=decide (m<0)) (a:=m.natAbs) (i:=63) (h:=⟨h⟩) (d:=1)) J<|?_;exact rz J (by rw[lw,show mkRat m 1=(m:Rat) from Rat.mkRat_one ..];rfl)
  .
   exact iB J (JZ (by omega))
def yl{a b:Int}(ha:a.natAbs<4611686018427387904)(hb:b.natAbs<4611686018427387904):PF GB prog 299 [vI a,vI b] (.tp [vI (tm a b),vB (decide ((a*b).natAbs<4611686018427387904))]):=by
 have hab:=jQ a b;refine fn func299 J J ntmps299 J J (fun C=>?_);refine cl J (yb (m:=a) (by omega)) J<|cl J (yb (m:=b) (by omega)) J<|cl J (XL (x:=a.natAbs) (y:=b.natAbs) (by omega) (by omega)) J<|?_;refine cs 18 J J J (fun hg18=>?_) (fun hg18=>?_)
 .
  exact rz J (OE (by omega))
 .
  refine br J J J (fun hc21=>?_) (fun hc21=>?_)
  .
   exact rz J (OE (by omega))
  .
   refine bb J J J (fun hc26=>?_) (fun hc26=>?_)
   .
    have hs:=Nw a b;rw[if_neg (by simpa using hc26)] at hs;exact rz J (Mj (by omega) (by rw[hs,<-hab];omega))
   .
    have hs:=Nw a b;rw[if_pos (by simpa using hc26)] at hs;exact rz J (Mj (by omega) (by rw[hs,<-hab];omega))
def L0{m:Int}{d:Nat}(h:m.natAbs<4611686018427387904)(h0:0<d)(hd:d<4611686018427387904):PF GB prog 300 [vI m,vI (d:Nat)] (eF (mkRat m d)):=by
 have hg:Nat.gcd m.natAbs d<=d:=Nat.gcd_le_right _ h0;have hg0:0<Nat.gcd m.natAbs d:=qQ _ h0;obtain⟨e1,e2⟩:=Ma (m:=m) h0;have e3:=nQ m (Nat.gcd m.natAbs d:Nat);have e4:=kY d (Nat.gcd m.natAbs d);have e5:=Nat.div_pos hg hg0;refine fn func300 J J ntmps300 J J (fun C=>?_);refine cl J (yb (m:=m) (by omega)) J<|cl J (NY (a:=m.natAbs) (b:=d) (by omega) (by omega)) J<|?_;refine br (fu1:=⟨4⟩) J J J (fun hc13=>?_) (fun hc13=>?_)
 .
  refine ak 16 (.d (vI (m/(Nat.gcd m.natAbs d:Nat)))) J (by rw[LN (Int.dvd_natAbs.1 (qS.2 (jR _ _))) h];rfl) ?_;refine gx (fu:=⟨3⟩) J<|?_;refine ak 19 (.d (vI ((d/Nat.gcd m.natAbs d:Nat)))) J (by rw[LN (qS.2 (lZ _ _)) (by rw[lN];exact hd)];rfl) ?_;refine gx (hv:=by simp only[ah];exact⟨by kernel_rfl,by omega⟩) J<|?_;exact iB J (q8 (fun k=>k ⟨by rw[e1];omega,by rw[e2];omega⟩) e1 (by rw[e2]) J)
 .
  exact iB J (by have h1:Nat.gcd m.natAbs d=1:=(by omega);rw[h1,sS] at e2;rw[h1,Int.natCast_one,Int.ediv_one] at e1;exact q8 (fun k=>k ⟨by rw[e1];omega,by rw[e2];omega⟩) e1 (by rw[e2]) J)
def rA{p q:Rat}{i j:Nat}[h:BQ p i][k:BQ q j](hi:i<=100000000:=by decide)(hj:j<=100000000:=by decide):PF GB prog 207 [eF p,eF q] (eF (p*q)):=by
 refine fn (fu:=⟨8⟩) func207 J J ntmps207 J J (fun C=>?_);refine mg (X:=Unit) (fun _=>[(2, .ov 2 0),(3, .ov 3 0),(4, .ov 4 0)]) (fun _=>[(2,some (.o 139 [.d (vI (dm p)), .d (vI (dq p)), .d (c8 p)] true)),(3,some (.o 139 [.d (vI (dm q)), .d (vI (dq q)), .d (c8 q)] true)),(4,some (.o 139 [.d (.v (.int .i64 0)), .d (.v (.int .i64 0)), .d (.v (.pointer none))] true))]) (fun _=>True) [2,3,4] [2,3,4] rfl ?_ (fun _=>J) (fun _ _=>?_)
 .
  refine gx J<|?_;refine cs 12 J J J (fun hg12=>?_) (fun hg12=>?_)
  .
   refine br (fu1:=⟨4⟩) J J J (fun hc16=>?_) (fun hc16=>?_)
   .
    have hp:=ry hg12;have hq:=ry hc16;have p1:=l9 hp;have p2:=nP hp;have p3:=pk hp;have p4:=oO hp;have p5:=p.den_nz;have q1:=l9 hq;have q2:=nP hq;have q3:=pk hq;have q4:=oO hq;have q5:=q.den_nz;refine ak 19 (.d (vI p.num)) J (by rw[p1]) ?_;refine gx (fu:=⟨2⟩) J<|?_;refine ak 21 (.d (vI q.num)) J (by rw[q1]) ?_;refine gx J<|cl (fu:=⟨12⟩) J (yl (a:=p.num) (b:=q.num) (by omega) (by omega)) J<|?_;refine ak 28 (.d (vI (p.den:Nat))) J (by congr 3;omega) ?_;refine gx (fu:=⟨3⟩) J<|?_;refine ak 31 (.d (vI (q.den:Nat))) J (by congr 3;omega) ?_;refine gx J<|cl J (yl (a:=(p.den:Nat)) (b:=(q.den:Nat)) (by omega) (by omega)) J<|?_;refine csd 36 J J J (fun hg36=>?_) (fun hg36=>?_)
    .
     refine bd (fu1:=⟨3⟩) J J J (fun hc38=>?_) (fun hc38=>?_)
     .
      have hd1:p.den*q.den<4611686018427387904:=by omega
      refine ak 39 (.d (vI (p.num*q.num))) J (by rw[xy hg36]) ?_;refine gx (fu:=⟨1⟩) J<|?_;refine ak 40 (.d (vI ((p.den*q.den:Nat)))) J (by rw[xy hc38];rfl) ?_;refine gx J<|cl J (L0 (m:=p.num*q.num) (d:=p.den*q.den) hg36 (kQ (by omega) (by omega)) hd1) J<|?_;exact rz J (by rw[<-xz];rfl)
     .
      exact at_ () trivial
    .
     exact at_ () trivial
   .
    exact at_ () trivial
  .
   exact at_ () trivial
 .
  refine cl J (rO (q:=p) (by omega)) J<|cl J (rO (q:=q) (by omega)) J<|cl J (Hq (a:=p.num) (b:=q.num) (by omega) (by omega)) J<|?_;refine cl J (qr (q:=p) (by omega)) J<|cl J (qr (q:=q) (by omega)) J<|cl J (vr (a:=p.den) (b:=q.den) (by omega) (by omega)) J<|?_;refine cl J (tV (n:=decide (p.num*q.num<0)) (a:=(p.num*q.num).natAbs) (d:=p.den*q.den) (i:=i+j) (j:=i+j) (by omega) (by omega)) J<|?_;exact rz J (by rw[lw,<-xz];rfl)
def rk{p q:Rat}{i j:Nat}[h:BQ p i][k:BQ q j](hi:i<=100000000:=by decide)(hj:j<=100000000:=by decide):PF GB prog 208 [eF p,eF q] (eF (p+q)):=by
 refine fn (fu:=⟨8⟩) func208 J J ntmps208 J J (fun C=>?_);refine mg (X:=Unit) (fun _=>[(2, .ov 2 0),(3, .ov 3 0),(4, .ov 4 0)]) (fun _=>[(2,some (.o 139 [.d (vI (dm p)), .d (vI (dq p)), .d (c8 p)] true)),(3,some (.o 139 [.d (vI (dm q)), .d (vI (dq q)), .d (c8 q)] true)),(4,some (.o 139 [.d (.v (.int .i64 0)), .d (.v (.int .i64 0)), .d (.v (.pointer none))] true))]) (fun _=>True) [2,3,4] [2,3,4] rfl ?_ (fun _=>J) (fun _ _=>?_)
 .
  refine gx J<|?_;refine cs 16 J J J (fun hg16=>?_) (fun hg16=>?_)
  .
   refine br (fu1:=⟨1⟩) J J J (fun hc20=>?_) (fun hc20=>?_)
   .
    have hp:=ry hg16;have hq:=ry hc20;have p1:=l9 hp;have p2:=nP hp;have p3:=pk hp;have p4:=oO hp;have p5:=p.den_nz;have q1:=l9 hq;have q2:=nP hq;have q3:=pk hq;have q4:=oO hq;have q5:=q.den_nz;refine mg (fu:=⟨4⟩) (X:=Unit) (fun _=>[(2, .ov 2 0),(3, .ov 3 0),(4, .ov 4 0)]) (fun _=>[(2,some (.o 139 [.d (vI (dm p)), .d (vI (dq p)), .d (c8 p)] true)),(3,some (.o 139 [.d (vI (dm q)), .d (vI (dq q)), .d (c8 q)] true)),(4,some (.o 139 [.d (.v (.int .i64 0)), .d (.v (.int .i64 0)), .d (.v (.pointer none))] true))]) (fun _=>True) [2,3,4] [2,3,4] rfl ?_ (fun _=>J) (fun _ _=>?_)
    .
     refine gx J<|?_;refine cs 24 J J J (fun hg24=>?_) (fun hg24=>?_)
     .
      refine br (fu1:=⟨4⟩) J J J (fun hc28=>?_) (fun hc28=>?_)
      .
       refine ak 30 (.d (vI p.num)) J (by rw[p1]) ?_;refine gx (fu:=⟨2⟩) J<|?_;refine ak 32 (.d (vI q.num)) J (by rw[q1]) ?_;refine gx J<|cl J (wm (m:=p.num+q.num) (by omega)) J<|?_;exact rz J (by rw[Ba (q:=p) (by omega),Ba (q:=q) (by omega),<-oJ];rfl)
      .
       exact at_ () trivial
     .
      exact at_ () trivial
    .
     refine ak 37 (.d (vI p.num)) J (by rw[p1]) ?_;refine gx (fu:=⟨3⟩) J<|?_;refine ak 40 (.d (vI (q.den:Nat))) J (by congr 3;omega) ?_;refine gx J<|cl (fu:=⟨11⟩) J (yl (a:=p.num) (b:=(q.den:Nat)) (by omega) (by omega)) J<|?_;refine ak 46 (.d (vI q.num)) J (by rw[q1]) ?_;refine gx (fu:=⟨3⟩) J<|?_;refine ak 49 (.d (vI (p.den:Nat))) J (by congr 3;omega) ?_;refine gx J<|cl (fu:=⟨12⟩) J (yl (a:=q.num) (b:=(p.den:Nat)) (by omega) (by omega)) J<|?_;refine ak 56 (.d (vI (p.den:Nat))) J (by congr 3;omega) ?_;refine gx (fu:=⟨3⟩) J<|?_;refine ak 59 (.d (vI (q.den:Nat))) J (by congr 3;omega) ?_;refine gx J<|cl (fu:=⟨3⟩) J (yl (a:=(p.den:Nat)) (b:=(q.den:Nat)) (by omega) (by omega)) J<|?_;have t1:=Ew p.num (q.den:Nat);have t2:=Ew q.num (p.den:Nat);have t3:=Ew (p.den:Nat) (q.den:Nat);refine gx J<|?_;refine csd 67 J J J (fun hg67=>?_) (fun hg67=>?_)
     .
      refine csd 70 J J J (fun hg70=>?_) (fun hg70=>?_)
      .
       refine csd 73 J J J (fun hg73=>?_) (fun hg73=>?_)
       .
        refine cs 77 J J J (fun hg77=>?_) (fun hg77=>?_)
        .
         refine br (fu1:=⟨3⟩) J J J (fun hc80=>?_) (fun hc80=>?_)
         .
          have u1:=xy hg67;have u2:=xy hg70;have u3:=xy hg73;have hd1:p.den*q.den<4611686018427387904:=by omega
          refine ak 81 (.d (vI (p.num*(q.den:Nat)+q.num*(p.den:Nat)))) J (by rw[u1,u2];rfl) ?_;refine gx (fu:=⟨1⟩) J<|?_;refine ak 82 (.d (vI ((p.den*q.den:Nat)))) J (by rw[u3];rfl) ?_;refine gx J<|cl J (L0 (m:=p.num*(q.den:Nat)+q.num*(p.den:Nat)) (d:=p.den*q.den) (by omega) (kQ (by omega) (by omega)) hd1) J<|?_;exact rz J (by rw[<-An];rfl)
         .
          exact at_ () trivial
        .
         exact at_ () trivial
       .
        exact at_ () trivial
      .
       exact at_ () trivial
     .
      exact at_ () trivial
   .
    exact at_ () trivial
  .
   exact at_ () trivial
 .
  refine cl J (rO (q:=p) (by omega)) J<|cl (fu:=⟨1⟩) J (qr (q:=q) (by omega)) J<|?_;refine ak 88 (.d (eI (q.den:Nat))) J (by rw[KC]) ?_;refine gx J<|cl J (Hq (a:=p.num) (b:=(q.den:Nat)) (by omega) (by omega)) J<|cl J (rO (q:=q) (by omega)) J<|cl (fu:=⟨1⟩) J (qr (q:=p) (by omega)) J<|?_;refine ak 94 (.d (eI (p.den:Nat))) J (by rw[KC]) ?_;refine gx J<|cl J (Hq (a:=q.num) (b:=(p.den:Nat)) (by omega) (by omega)) J<|cl J (VW (a:=p.num*(q.den:Nat)) (b:=q.num*(p.den:Nat)) (i:=i+j) (j:=j+i) (by omega) (by omega)) J<|?_;refine cl J (qr (q:=p) (by omega)) J<|cl J (qr (q:=q) (by omega)) J<|cl J (vr (a:=p.den) (b:=q.den) (by omega) (by omega)) J<|?_;refine cl J (tV (n:=decide (p.num*(q.den:Nat)+q.num*(p.den:Nat)<0)) (a:=(p.num*(q.den:Nat)+q.num*(p.den:Nat)).natAbs) (d:=p.den*q.den) (i:=i+j+(j+i)+1) (j:=i+j) (by omega) (by omega)) J<|?_;exact rz J (by rw[lw,<-An];rfl)
def sk{p q:Rat}{i j:Nat}[h:BQ p i][k:BQ q j](hi:i<=100000000:=by decide)(hj:j<=100000000:=by decide):PF GB prog 334 [eF p,eF q] (eF (p-q)):=by
 refine fn func334 J J ntmps334 J J (fun C=>?_);refine cl J (o9 (q:=q) (by omega)) J<|cl J (rk (p:=p) (q:= -q) (by omega) (by omega)) J<|?_;exact rz J (by rw[<-Rat.sub_eq_add_neg];rfl)
def Hl{q:Rat}{i:Nat}[h:BQ q i](hi:i<=400000000:=by decide):PF GB prog 127 [eF q] (eF q⁻¹):=by
 refine fn func127 J J ntmps127 J J (fun C=>?_);refine br (v1:=fun hc3=>by simp only[ah];exact⟨⟨hc3,hc3⟩,hc3⟩) J J J (fun hc3=>?_) (fun hc3=>?_)
 .
  refine cl J (tV (n:=decide (q.num<0)) (a:=q.den) (d:=q.num.natAbs) (by omega) (by omega)) J<|?_;exact rz J (by rw[WV];rfl)
 .
  have q1:=l9 (mO hc3);have q2:=nP (mO hc3);have q3:=pk (mO hc3);have q4:=oO (mO hc3);have q5:=q.den_nz;refine br J J J (fun hc26=>?_) (fun hc26=>?_)
  .
   exact iB rfl (by obtain⟨e1,e2⟩:=OC (q:=q) (by omega);exact q8 (fun k=>k ⟨by omega,by omega⟩) (by omega) (by omega) rfl)
  .
   refine br J J J (fun hc39=>?_) (fun hc39=>?_)
   .
    exact iB J (by rw[oZ.1 (show q.num=0 by omega),Rat.inv_zero];exact wu)
   .
    exact iB rfl (by obtain⟨e1,e2⟩:=OU (q:=q) (by omega);exact q8 (fun k=>k ⟨by omega,by omega⟩) (by omega) (by omega) rfl)
def wZ{p q:Rat}{i j:Nat}[h:BQ p i][k:BQ q j](hi:i<=100000000:=by decide)(hj:j<=100000000:=by decide):PF GB prog 304 [eF p,eF q] (eF (p/q)):=by
 refine fn func304 J J ntmps304 J J (fun C=>?_);refine cl J (Hl (q:=q) (by omega)) J<|cl J (rA (p:=p) (q:=q⁻¹) (by omega) (by omega)) J<|?_;exact rz J (by rw[Rat.div_def];rfl)
def IX{G:Gh}{q r:DV}{t:List DV}{vs:List Value}(h: ∀y,Is G r y->Is G q y)(hv:IsLs G (r::t) vs):IsLs G (q::t) vs:=by
 obtain⟨y,m,rfl,h1,h2⟩:=bt.1 hv;exact .cons (h _ h1) h2
def GV{G:Gh}{a q r:DV}{t:List DV}{vs:List Value}(h: ∀y,Is G r y->Is G q y)(hv:IsLs G (a::r::t) vs):IsLs G (a::q::t) vs:=by
 obtain⟨y,m,rfl,h1,h2⟩:=bt.1 hv;exact .cons h1 (IX h h2)
def azX{q:Rat}{i:Nat}[h:BQ q i](hi:i<=100000000:=by decide):PF GB prog 207 [eF q, .ag [vI 1,vI 1, .v (.pointer none)]] (eF (q*mkRat 1 2)):=
 (rA (p:=q) (q:=mkRat 1 2) hi).ofI fun G vs hv=>GV (fun y hy=>q8 (q:=mkRat 1 2) (fun k=>k ⟨by decide,by decide⟩) (by decide) (by decide) J G y hy) hv
def Ij{q:Rat}{i:Nat}[h:BQ q i](hi:i<=100000000:=by decide):PF GB prog 214 [eF q] (eF (q*mkRat 1 2)):=by
 refine fn func214 J J ntmps214 J J (fun C=>?_);refine cl J (azX (q:=q) (by omega)) J<|?_;exact rz J J
def pz{p q:Rat}{i j:Nat}[h:BQ p i][k:BQ q j](hi:i<=100000000:=by decide)(hj:j<=100000000:=by decide):PF GB prog 232 [eF p,eF q] (vI (bg p q)):=by
 refine fn func232 J J ntmps232 J J (fun C=>?_);refine cs 8 J J J (fun hg8=>?_) (fun hg8=>?_)
 .
  refine cs 13 J J J (fun hg13=>?_) (fun hg13=>?_)
  .
   refine br J J J (fun hc19=>?_) (fun hc19=>?_)
   .
    have hp:=ry hg8;have hq:=ry hg13;have p1:=l9 hp;have p2:=nP hp;have p3:=pk hp;have p4:=oO hp;have p5:=p.den_nz;have q1:=l9 hq;have q2:=nP hq;have q3:=pk hq;have q4:=oO hq;have q5:=q.den_nz;have hl:=JA (a:=p) (b:=q) (by omega);have hr:=JA (a:=q) (b:=p) (by omega);unfold bg;refine br J J J (fun hc20=>?_) (fun hc20=>?_)
    .
     exact rz J (by rw[if_pos (hl.2 (by omega))];rfl)
    .
     refine br J J J (fun hc26=>?_) (fun hc26=>?_)
     .
      exact rz J (by rw[if_neg (fun e=>by have:=hl.1 e;omega),if_pos (hr.2 (by omega))];rfl)
     .
      exact rz J (by rw[if_neg (fun e=>by have:=hl.1 e;omega),if_neg (fun e=>by have:=hr.1 e;omega)];rfl)
   .
    refine cl J (sk (p:=p) (q:=q) (by omega) (by omega)) J<|cl J (nj (q:=p-q) (by omega)) J<|?_;exact rz J (by rw[Dc];rfl)
  .
   refine cl J (sk (p:=p) (q:=q) (by omega) (by omega)) J<|cl J (nj (q:=p-q) (by omega)) J<|?_;exact rz J (by rw[Dc];rfl)
 .
  refine cl J (sk (p:=p) (q:=q) (by omega) (by omega)) J<|cl J (nj (q:=p-q) (by omega)) J<|?_;exact rz J (by rw[Dc];rfl)
def Qg{p q:Rat}{i j:Nat}[h:BQ p i][k:BQ q j](hi:i<=100000000:=by decide)(hj:j<=100000000:=by decide):PF GB prog 273 [eF p,eF q] (vB (decide (p=q))):=by
 refine fn func273 J J ntmps273 J J (fun C=>?_);refine cl J (pz (p:=p) (q:=q) hi hj) J<|?_;exact rz J (by show DV.v (.bool (decide _))= .v (.bool _);congr 2;exact decide_eq_decide.2 (r7 p q))
def Vl{p q:Rat}{i j:Nat}[h:BQ p i][k:BQ q j](hi:i<=100000000:=by decide)(hj:j<=100000000:=by decide):PF GB prog 380 [eF p,eF q] (eF (if p<q then q else p)):=by
 refine fn func380 J J ntmps380 J J (fun C=>?_);refine cl J (pz (p:=q) (q:=p) hj hi) J<|?_;refine br J J J (fun hc8=>?_) (fun hc8=>?_)
 .
  exact rz J (by rw[if_pos ((Pd q p).1 hc8)];rfl)
 .
  exact rz J (by rw[if_neg (fun e=>hc8 ((Pd q p).2 e))];rfl)
def Me{p q:Rat}{i j:Nat}[h:BQ p i][k:BQ q j](hi:i<=100000000:=by decide)(hj:j<=100000000:=by decide):PF GB prog 288 [eF p,eF q] (eF (if q<p then q else p)):=by
 refine fn func288 J J ntmps288 J J (fun C=>?_);refine cl J (pz (p:=q) (q:=p) hj hi) J<|?_;refine br J J J (fun hc8=>?_) (fun hc8=>?_)
 .
  exact rz J (by rw[if_pos ((PS q p).1 hc8)];rfl)
 .
  exact rz J (by rw[if_neg (fun e=>hc8 ((PS q p).2 e))];rfl)
def Ct{p q:Rat}{i j:Nat}[h:BQ p i][k:BQ q j](hi:i<=100000000:=by decide)(hj:j<=100000000:=by decide):PF GB prog 272 [eF p,eF q] (eF (rgcd p q)):=by
 refine fn (fu:=⟨8⟩) func272 J J ntmps272 J J (fun C=>?_);refine mg (X:=Unit) (fun _=>[(2, .ov 2 0),(3, .ov 3 0),(4, .ov 4 0)]) (fun _=>[(2,some (.o 139 [.d (vI (dm p)), .d (vI (dq p)), .d (c8 p)] true)),(3,some (.o 139 [.d (vI (dm q)), .d (vI (dq q)), .d (c8 q)] true)),(4,some (.o 139 [.d (.v (.int .i64 0)), .d (.v (.int .i64 0)), .d (.v (.pointer none))] true))]) (fun _=>True) [2,3,4] [2,3,4] rfl ?_ (fun _=>J) (fun _ _=>?_)
 .
  refine gx J<|?_;refine cs 10 J J J (fun hg10=>?_) (fun hg10=>?_)
  .
   refine cs 15 J J J (fun hg15=>?_) (fun hg15=>?_)
   .
    have hp:=ry hg10;have hq:=ry hg15;have p1:=l9 hp;have p2:=nP hp;have p3:=pk hp;have p4:=oO hp;have p5:=p.den_nz;have q1:=l9 hq;have q2:=nP hq;have q3:=pk hq;have q4:=oO hq;have q5:=q.den_nz;refine cs 20 J J J (fun hg20=>?_) (fun hg20=>?_)
    .
     refine br (fu1:=⟨4⟩) J J J (fun hc24=>?_) (fun hc24=>?_)
     .
      have hg:=Rv p3 q3;refine ak 26 (.d (vI p.num)) J (by rw[p1]) ?_;refine gx J<|cl (fu:=⟨2⟩) J (yb (m:=p.num) (by omega)) J<|?_;refine ak 29 (.d (vI q.num)) J (by rw[q1]) ?_;refine gx J<|cl J (yb (m:=q.num) (by omega)) J<|cl (hv:=by simp only[ah];exact⟨by omega,by kernel_rfl⟩) J (NY (a:=p.num.natAbs) (b:=q.num.natAbs) (by omega) (by omega)) J<|?_;exact iB J (by rw[V9 (p:=p) (q:=q) (by omega) (by omega)];exact JZ (by rw[lN];exact hg))
     .
      exact at_ () trivial
    .
     exact at_ () trivial
   .
    exact at_ () trivial
  .
   exact at_ () trivial
 .
  refine cl J (qr (q:=p) (by omega)) J<|cl J (qr (q:=q) (by omega)) J<|cl J (vr (a:=p.den) (b:=q.den) (by omega) (by omega)) J<|?_;refine cl J (rO (q:=p) (by omega)) J<|cl J (qr (q:=q) (by omega)) J<|cl J (vr (a:=p.num.natAbs) (b:=q.den) (by omega) (by omega)) J<|?_;refine cl J (rO (q:=q) (by omega)) J<|cl J (qr (q:=p) (by omega)) J<|cl J (vr (a:=q.num.natAbs) (b:=p.den) (by omega) (by omega)) J<|?_;refine cl J (Gv (a:=p.num.natAbs*q.den) (b:=q.num.natAbs*p.den) (i:=i+j) (j:=j+i) (by omega) (by omega)) J<|cl J (tV (n:=false) (a:=Nat.gcd (p.num.natAbs*q.den) (q.num.natAbs*p.den)) (d:=p.den*q.den) (i:=i+j+(j+i)) (j:=i+j) (by omega) (by omega)) J<|?_;exact rz J J
end Go.Sx
end
section
namespace Go.Sx
open Go
def crossI(l m:aa):Int:=l.a*m.b-m.a*l.b
def meetX(l m:aa):Int:=l.b*m.c-m.b*l.c
def meetY(l m:aa):Int:=m.a*l.c-l.a*m.c
def fD(l m:aa):ab:=if crossI l m=0 then⟨0,0⟩ else⟨(meetX l m:Rat)/(crossI l m:Rat),(meetY l m:Rat)/(crossI l m:Rat)⟩
def er(l:aa)(p:ab):Rat:=p.dot l.dir/l.dir.dot l.dir
def Hh(l:aa):l.dir.dot l.dir=l.nor.dot l.nor:=by
 simp only[aa.dir,aa.nor,ab.dot];grind
def vC{l:aa}(h:l.Ne):0<l.dir.dot l.dir:=by rw[Hh];exact n4 h
def xf(l m:aa):((crossI l m:Int):Rat)=(l.a:Rat)*m.b-(m.a:Rat)*l.b:=by
 unfold crossI;rw[oK,cN,cN]
def M4(l m:aa):((meetX l m:Int):Rat)=(l.b:Rat)*m.c-(m.b:Rat)*l.c:=by
 unfold meetX;rw[oK,cN,cN]
def LO(l m:aa):((meetY l m:Int):Rat)=(m.a:Rat)*l.c-(l.a:Rat)*m.c:=by
 unfold meetY;rw[oK,cN,cN]
def yt(l m:aa):l.cutK m= -((crossI l m:Int):Rat):=by
 rw[xf];simp only[aa.cutK,aa.nor,aa.dir,ab.dot];grind
def J7(l m:aa):m.dir.cross l.dir=l.cutK m:=by
 simp only[aa.cutK,aa.nor,aa.dir,ab.dot,ab.cross];grind
def No{l:aa}:(⟨-((l.c:Rat)/l.dir.dot l.dir)*(l.a:Rat), -((l.c:Rat)/l.dir.dot l.dir)*(l.b:Rat)⟩:ab)=l.base:=by
 unfold aa.base;rw[Hh];simp only[aa.nor,ab.scale,ab.mk.injEq];constructor<;>grind
def rI(l:aa)(t:Rat):cv l.base l.dir t=l.at t:=by
 simp only[cv,aa.at,ab.add,ab.scale,ab.mk.injEq];constructor<;>grind
def wM{l m:aa}(hl:l.Ne)(h:crossI l m≠0):er l (fD l m)= -(l.cutC m/l.cutK m):=by
 have hd:((crossI l m:Int):Rat)≠0:=fun e=>h (iT.1 e);have hn:=vC hl;obtain⟨q,q1,q2⟩:=zw hl;rw[yt];unfold er fD aa.cutC;rw[if_neg h,q2,oh,M4,LO];have hc:=xf l m;rw[Hh] at hn⊢;simp only[aa.dir,aa.nor,ab.dot] at hn q1⊢;generalize ((crossI l m:Int):Rat)=d at*;generalize (l.a:Rat)=a at*;generalize (l.b:Rat)=b at*;generalize (l.c:Rat)=c at*;generalize (m.a:Rat)=x at*;generalize (m.b:Rat)=y at*;generalize (m.c:Rat)=z at*;have hn':a*a+b*b≠0:=by grind
 have e:((b*z-y*c)/d*b+(x*c-a*z)/d* -a)=((b*z-y*c)*b-(x*c-a*z)*a)/d:=by grind
 rw[e];have k1:(b*z-y*c)*b-(x*c-a*z)*a=(a*a+b*b)*(x*(a*q)+y*(b*q)+z):=by grind
 rw[k1];grind
def Q8{l m:aa}(hl:l.Ne)(h:crossI l m≠0):er l (fD l m)*((crossI l m*(l.a*l.a+l.b*l.b):Int):Rat)=((meetX l m*l.b-meetY l m*l.a:Int):Rat):=by
 have hd:((crossI l m:Int):Rat)≠0:=fun e=>h (iT.1 e);have hn:=vC hl;unfold er fD;rw[if_neg h];simp only[cN,oK,oJ];simp only[aa.dir,ab.dot] at hn⊢;generalize ((crossI l m:Int):Rat)=d at*;generalize ((meetX l m:Int):Rat)=x at*;generalize ((meetY l m:Int):Rat)=y at*;generalize (l.a:Rat)=a at*;generalize (l.b:Rat)=b at*;have hn':b*b+ -a* -a≠0:=by grind
 grind
def Fz(l m:aa)(t:List aa)(v:aj):fy l (m::t) v=if m=l then fy l t v else if l.cutB v m then fy l t (l.cutV v m) else none:=rfl
def oA(v:aj)(t:Rat):aj:=if v.nl=true\/0<bg t v.lo then⟨t,v.hi,false,v.nh⟩ else v
def oy(v:aj)(t:Rat):aj:=if v.nh=true\/bg t v.hi<0 then⟨v.lo,t,v.nl,false⟩ else v
structure gm (v:aj):Prop where
 lo:v.nl=true->v.lo=0
 hi:v.nh=true->v.hi=0
def B4(a b:Rat):0<bg a b↔b<a:=by
 unfold bg;split
 ·constructor
  ·intro h;exact absurd h (by decide)
  ·intro h;grind
 ·split
  ·exact⟨fun _=>by assumption,fun _=>by decide⟩
  ·constructor
   ·intro h;exact absurd h (by decide)
   ·intro h;exact absurd h (by assumption)
def wY(a b:Rat):bg a b<0↔a<b:=by
 unfold bg;split
 ·exact⟨fun _=>by assumption,fun _=>by decide⟩
 ·split
  ·constructor
   ·intro h;exact absurd h (by decide)
   ·intro h;grind
  ·constructor
   ·intro h;exact absurd h (by decide)
   ·intro h;exact absurd h (by assumption)
def MI{v:aj}(h:gm v)(t:Rat):oA v t=v.meet ⟨t,0,false,true⟩:=by
 obtain⟨lo,hi,nl,nh⟩:=v;obtain⟨h1,h2⟩:=h;unfold oA aj.meet;simp only[B4] at*
 cases nl<;>cases nh<;>simp at* <;>(try (split<;>split<;>simp_all<;>grind))<;>grind
def Pg{v:aj}(h:gm v)(t:Rat):oy v t=v.meet ⟨0,t,true,false⟩:=by
 obtain⟨lo,hi,nl,nh⟩:=v;obtain⟨h1,h2⟩:=h;unfold oy aj.meet;simp only[wY] at*
 cases nl<;>cases nh<;>simp at* <;>(try (split<;>split<;>simp_all<;>grind))<;>grind
def gm.all:gm aj.all:=⟨fun _=>J,fun _=>J⟩
def gm.lo'{v:aj}(h:gm v)(t:Rat):gm (oA v t):=by
 obtain⟨lo,hi,nl,nh⟩:=v;unfold oA;split
 ·exact⟨fun h=>by simp at h,h.hi⟩
 ·exact h
def gm.hi'{v:aj}(h:gm v)(t:Rat):gm (oy v t):=by
 obtain⟨lo,hi,nl,nh⟩:=v;unfold oy;split
 ·exact⟨h.lo,fun h=>by simp at h⟩
 ·exact h
def y5{l m:aa}{v:aj}(h:crossI l m=0):l.cutV v m=v/\(l.cutB v m=true↔0<m.value l.base):=by
 have hk:l.cutK m=0:=by rw[yt,h];rfl
 exact vf v hk
def VH{l m:aa}{v:aj}(hl:l.Ne)(hz:gm v)(h:0<m.dir.cross l.dir):crossI l m≠0/\l.cutV v m=oA v (er l (fD l m))/\l.cutB v m=!(oA v (er l (fD l m))).empty:=by
 rw[J7] at h;have hc:crossI l m≠0:=fun e=>by rw[yt,e] at h;exact absurd h (by decide)
 obtain⟨h1,h2⟩:=wi v h;refine⟨hc,?_,?_⟩
 ·rw[MI hz,wM hl hc,h1]
 ·rw[MI hz,wM hl hc,<-h1]
  rw[<-Dd] at h2
  cases hb:l.cutB v m<;>cases he:(l.cutV v m).empty<;>simp_all
def T6{l m:aa}{v:aj}(hl:l.Ne)(hz:gm v)(h0:crossI l m≠0)(h: ¬0<m.dir.cross l.dir):l.cutV v m=oy v (er l (fD l m))/\l.cutB v m=!(oy v (er l (fD l m))).empty:=by
 rw[J7] at h;have hk:l.cutK m≠0:=fun e=>by
  rw[yt] at e;have:((crossI l m:Int):Rat)=0:=by grind
  exact h0 (iT.1 this)
 obtain⟨h1,h2⟩:=uZ (l:=l) (m:=m) v (by grind);refine⟨?_,?_⟩
 ·rw[Pg hz,wM hl h0,h1]
 ·rw[Pg hz,wM hl h0,<-h1]
  rw[<-Dd] at h2
  cases hb:l.cutB v m<;>cases he:(l.cutV v m).empty<;>simp_all
end Go.Sx
end
section
namespace Go.Sx
open Go Go.Proofs Tryz
variable {GB:Gh}

def cT:Tr->List DV
 | .leaf b=>[.v (.bool true), .v (.bool b), .v (.bool false), .sl [], .v (.bool false), .sl [], .v (.bool false), .sl [], .v (.pointer none), .v (.pointer none)]
 | .node l x y=>[.v (.bool false), .v (.bool false), .v (.bool (decide (l.a<0))),dN l.a.natAbs, .v (.bool (decide (l.b<0))),dN l.b.natAbs, .v (.bool (decide (l.c<0))),dN l.c.natAbs, .pt (cT x), .pt (cT y)]
def eT(t:Tr):DV:= .pt (cT t)
def eN(n:NQ):DV:= .ag [.v (.bool (decide (n.l.a<0))),dN n.l.a.natAbs, .v (.bool (decide (n.l.b<0))),dN n.l.b.natAbs, .v (.bool (decide (n.l.c<0))),dN n.l.c.natAbs, .v (.int .i64 n.a), .v (.int .i64 n.b)]
def eA(t:Tr):DV:= .ag [.v (.int .i64 (t.num 0)), .sl ((t.wr 0).map eN)]
def wV{G:Gh}{k:Nat}{z:IV}{m:Int}(h:lC k G z m):Is G (.v (.bool (decide (m<0)))) (.bool z.neg)/\Is G (dN m.natAbs) (.slice z.a.a z.a.n z.a.c):=
 ⟨bc.2 (by rw[h.neg]),(Hs h.abs.lt).2 ⟨_,J,h.abs⟩⟩
def D6{G:Gh}{k:Nat}{m:Int}{u v:Value}(hm:m.natAbs<2^k)(h1:Is G (.v (.bool (decide (m<0)))) u)(h2:Is G (dN m.natAbs) v): ∃z:IV,u= .bool z.neg/\v= .slice z.a.a z.a.n z.a.c/\lC k G z m:=by
 obtain⟨x,rfl,hx⟩:=(Hs hm).1 h2;exact⟨⟨decide (m<0),x⟩,bc.1 h1,J,J,hx⟩
structure BL (l:aa) (k:Nat):Prop where
 a:l.a.natAbs<2^k
 b:l.b.natAbs<2^k
 c:l.c.natAbs<2^k
def XR{G:Gh}{k:Nat}{l:aa}{v:Value}(hl:BL l k)(h:Is G (eL l) v): ∃a b c:IV,v= .agg ⟨[.bool a.neg, .slice a.a.a a.a.n a.a.c, .bool b.neg, .slice b.a.a b.a.n b.a.c, .bool c.neg, .slice c.a.a c.a.n c.a.c]⟩/\lC k G a l.a/\lC k G b l.b/\lC k G c l.c:=by
 obtain⟨m,rfl,g⟩:=dG.1 h;clear h;obtain⟨v1,m,rfl,h1,h⟩:=bt.1 g;obtain⟨v2,m,rfl,h2,h⟩:=bt.1 h;obtain⟨v3,m,rfl,h3,h⟩:=bt.1 h;obtain⟨v4,m,rfl,h4,h⟩:=bt.1 h;obtain⟨v5,m,rfl,h5,h⟩:=bt.1 h;obtain⟨v6,m,rfl,h6,h⟩:=bt.1 h;rw[dl] at h;subst h;obtain⟨a,rfl,rfl,ha⟩:=D6 hl.a h1 h2;obtain⟨b,rfl,rfl,hb⟩:=D6 hl.b h3 h4;obtain⟨c,rfl,rfl,hc⟩:=D6 hl.c h5 h6;exact⟨a,b,c,J,ha,hb,hc⟩
def azE{G:Gh}{k:Nat}{n:NQ}{z:ND}(h:qt k G z n):Is G (eN n) z.val:=by
 refine dG.2 ⟨_,J, .cons (wV h.a).1 (.cons (wV h.a).2 (.cons (wV h.b).1 (.cons (wV h.b).2 (.cons (wV h.c).1 (.cons (wV h.c).2 (.cons (bc.2 ?_) (.cons (bc.2 ?_) .nil)))))))⟩
 ·rw[h.l]
 ·rw[h.r]
def MV{G:Gh}{k:Nat}: ∀{ns:List NQ} {zs:List ND},fH (qt k G) zs ns->IsLs G (ns.map eN) (zs.map ND.val)
 |_,_, .nil=> .nil
 |_,_, .cons h t=> .cons (azE h) (MV t)
def Zo(ns:List NQ):cC 8 (ns.map eN):=fun d hd=>by
 obtain⟨n,_,rfl⟩:=bM.1 hd;exact⟨rfl,rfl⟩
def Sc{G:Gh}{k:Nat}{t:Tr}{x:SV}(h:aG3 k G x (t.wr 0)):Is G (eA t) (.agg ⟨[.int .i64 (t.num 0), .slice x.a x.n x.c]⟩):=by
 obtain⟨zs,h1,h2⟩:=h;exact dG.2 ⟨_,J, .cons (bc.2 J) (.cons (jn.2 ⟨8,x,_,J,h1,MV h2⟩) .nil)⟩
def Tr.all_wr{p:aa->Prop}: ∀{t:Tr} (n:Nat),t.all p-> ∀x∈t.wr n,p x.l
 | .leaf b,n,_,x,hx=>by cases hx
 | .node l u v,n,⟨h1,h2,h3⟩,x,hx=>by
  simp only[Tr.wr,cK,aT,cX] at hx;rcases hx with rfl|hx|hx
  ·exact h1
  ·exact u.all_wr _ h2 x hx
  ·exact v.all_wr _ h3 x hx
structure LS (l:aa):Prop where
 ok:l.ok
 a:l.a.natAbs<=4
 b:l.b.natAbs<=4
 c:l.c.natAbs<=40000
def t8{xs:List aa}{i:Nat}(h:i<xs.length):(xs.map eL)[(i:Int).toNat]? =some (eL xs[i]):=by simp[h]
def tL(xs:List aa):(xs.map eL).length=xs.length:=aK ..
def Vr{α:Type}{xs:List α}{i:Nat}{p:α->Prop}(h: ∀x∈xs.take i,p x)(hi:i<xs.length)(hy:p xs[i]): ∀x∈xs.take (i+1),p x:=by
 intro x hx;rw[fM hi] at hx;simp only[cX,aV] at hx;rcases hx with hx|rfl
 ·exact h x hx
 ·exact hy
def SG{a b:Int}(h:decide (a<0)=decide (b<0)):decide (a.natAbs=b.natAbs)=decide (a=b):=by
 have h':a<0↔b<0:=by simpa using h
 exact decide_eq_decide.2 ⟨fun e=>by omega,fun e=>by rw[e]⟩
def aa.ext'{l m:aa}(h1:l.a=m.a)(h2:l.b=m.b)(h3:l.c=m.c):l=m:=by cases l;cases m;simp_all
instance:DecidableEq NQ:=fun x y=>decidable_of_iff (x.l=y.l/\x.a=y.a/\x.b=y.b) (by
 cases x;cases y;simp)
def NQ.ext'{n m:NQ}(h1:n.l=m.l)(h2:n.a=m.a)(h3:n.b=m.b):n=m:=by cases n;cases m;simp_all
def fE(ls:List aa):cC 6 (ls.map eL):=fun d hd=>by
 obtain⟨n,_,rfl⟩:=bM.1 hd;exact⟨rfl,rfl⟩
def Rs{a b:Nat}(hl:(dg a).length=(dg b).length)(h: ∀j,j<(dg a).length->(dg a).getD j 0=(dg b).getD j 0):a=b:=by
 have e:dg a=dg b:=by
  apply List.ext_getElem hl;intro i h1 h2;have:=h i h1;rw[aX,aX,aZ h1,aZ h2] at this;exact this
 rw[<-b8 a,e,b8]
def jj{z:Int}:PF GB prog 150 [eI z] (eQ (z:Rat)):=by
 refine fn func150 J J ntmps150 J J (fun C=>?_);exact rz J (by rw[CK];rfl)
def zz{l:aa}:PF GB prog 66 [eL l] (eL l.rev):=by
 refine fn func66 J J ntmps66 J J (fun C=>?_);refine cl J zk J<|cl J zk J<|cl J zk J<|?_;exact rz J J
def Tz{a b i j:Nat}[ha:BN a i][hb:BN b j](hi:i<=400000000:=by decide):PF GB prog 211 [dN a,dN b] (vB (decide (a=b))):=by
 have hla:=ez (dg a);have hlb:=ez (dg b);have hba:=ld ha.h;refine fn func211 J J ntmps211 J J (fun C=>?_);refine br (fu2:=⟨7⟩) J J J (fun hc10=>?_) (fun hc10=>?_)
 .
  exact rz J (by rw[decide_eq_false (fun e:a=b=>hc10 (by rw[e]))];rfl)
 .
  refine ak 12 (.d (vI ((dg a).length:Nat))) J (by rw[hla];rfl) ?_;refine gx J<|?_;refine lp (X:=Nat) (fun i=>[(13, .d (vI (i:Nat))),(12, .d (vI ((dg a).length:Nat))),(0, .d (dN a)),(1, .d (dN b))]) (fun i=>[]) (fun i=>i<=(dg a).length/\ ∀j,j<i->(dg a).getD j 0=(dg b).getD j 0) (fun i=>(dg a).length-i) 0 J ⟨bQ _,fun j hj=>absurd hj (by omega)⟩ (fun _=>J) (fun i hk=>?_);obtain⟨h1,h2⟩:=hk;refine br J J J (fun hc14=>?_) (fun hc14=>?_)
  .
   refine ix _ J (lv (by omega)) J<|ix _ J (lv (by omega)) J<|?_;refine br J J J (fun hc24=>?_) (fun hc24=>?_)
   .
    exact rz J (by rw[decide_eq_false (fun e:a=b=>hc24 (by rw[e]))];rfl)
   .
    exact at_ (i+1) ⟨⟨by omega,fun j hj=>by by_cases q:j=i;(subst q;omega);exact h2 j (by omega)⟩,(by omega)⟩
  .
   exact rz J (by rw[decide_eq_true (Rs (by omega) (fun j hj=>h2 j (by omega)))];rfl)
def HZ{a b:Int}{i j:Nat}[ha:BI a i][hb:BI b j](hi:i<=400000000:=by decide):PF GB prog 172 [eI a,eI b] (vB (decide (a=b))):=by
 refine fn (fu:=⟨14⟩) func172 J J ntmps172 J J (fun C=>?_);refine ak 9 (.d (.v (.bool (decide (decide (a<0)=decide (b<0)))))) J (by congr 2) ?_;refine gx J<|?_;refine csd 10 J J J (fun hg10=>?_) (fun hg10=>?_)
 .
  refine cl J (Tz (by omega)) J<|?_;exact rz J (by show DV.v (.bool _)=DV.v (.bool _);rw[<-SG hg10])
 .
  exact rz J (by rw[decide_eq_false (fun e:a=b=>hg10 (by rw[e]))];rfl)
def Vf{l m:aa}(hl:BL l 96)(hm:BL m 96):PF GB prog 80 [eL l,eL m] (vB (decide (l=m))):=by
 haveI h1:BI l.a 96:=⟨hl.a⟩;haveI h2:BI l.b 96:=⟨hl.b⟩;haveI h3:BI l.c 96:=⟨hl.c⟩;haveI k1:BI m.a 96:=⟨hm.a⟩;haveI k2:BI m.b 96:=⟨hm.b⟩;haveI k3:BI m.c 96:=⟨hm.c⟩;refine fn func80 J J ntmps80 J J (fun C=>?_);refine cl J (HZ (a:=l.a) (b:=m.a)) J<|?_;refine csd 10 J J J (fun hg10=>?_) (fun hg10=>?_)
 .
  refine cl J (HZ (by omega)) J<|?_;refine csd 17 J J J (fun hg17=>?_) (fun hg17=>?_)
  .
   refine cl J (HZ (by omega)) J<|?_;exact rz J (by show DV.v (.bool _)=DV.v (.bool _);rw[decide_eq_decide.2 ⟨fun e=>aa.ext' hg10 hg17 e,fun e=>by rw[e]⟩])
  .
   exact rz J (by rw[decide_eq_false (fun e:l=m=>hg17 (by rw[e]))];rfl)
 .
  exact rz J (by rw[decide_eq_false (fun e:l=m=>hg10 (by rw[e]))];rfl)
class LB (l:aa):Prop where bl:BL l 96
instance LB.a (l:aa) [h:LB l]:BI l.a 96:=⟨h.bl.a⟩
instance LB.b (l:aa) [h:LB l]:BI l.b 96:=⟨h.bl.b⟩
instance LB.c (l:aa) [h:LB l]:BI l.c 96:=⟨h.bl.c⟩
class aI (p:ab) (k:outParam Nat):Prop where
 x:BQ p.x k
 y:BQ p.y k
instance aI.ix (p:ab) (k:Nat) [h:aI p k]:BQ p.x k:=h.x
instance aI.iy (p:ab) (k:Nat) [h:aI p k]:BQ p.y k:=h.y
instance aI.dir (l:aa) [LB l]:aI l.dir 97:=⟨inferInstanceAs (BQ (l.b:Rat) 97),inferInstanceAs (BQ (-(l.a:Rat)) 97)⟩
instance BQ.dot (p q:ab) (i j:Nat) [aI p i] [aI q j]:BQ (p.dot q) (i+j+(i+j)+1):=inferInstanceAs (BQ (p.x*q.x+p.y*q.y) _)
instance BQ.cross (p q:ab) (i j:Nat) [aI p i] [aI q j]:BQ (p.cross q) (i+j+(i+j)+1):=inferInstanceAs (BQ (p.x*q.y-p.y*q.x) _)
instance aI.mov (p q:ab) (c:Rat) (i j k:Nat) [aI p i] [aI q j] [BQ c k]:aI (cv p q c) (i+(k+j)+1):=⟨inferInstanceAs (BQ (p.x+c*q.x) _),inferInstanceAs (BQ (p.y+c*q.y) _)⟩
instance BQ.value (l:aa) (p:ab) (i:Nat) [LB l] [aI p i]:BQ (l.value p) (96+1+i+(96+1+i)+1+(96+1)+1):=inferInstanceAs (BQ ((l.a:Rat)*p.x+(l.b:Rat)*p.y+(l.c:Rat)) _)
def Qe{l:aa}(h:l.Ne):l.dir.dot l.dir≠0:=by have:=vC h;grind
def sr{l:aa}:PF GB prog 164 [eL l] (eP l.dir):=by
 refine fn func164 J J ntmps164 J J (fun C=>?_);refine cl J jj J<|cl J jj J<|cl J uu J<|?_;exact rz J J
def Hp{p q:ab}{i j:Nat}[hp:aI p i][hq:aI q j](hi:i<=200000:=by decide)(hj:j<=200000:=by decide):PF GB prog 236 [eP p,eP q] (eQ (p.dot q)):=by
 refine fn func236 J J ntmps236 J J (fun C=>?_);refine cl J (iD (by omega) (by omega)) J<|cl J (iD (by omega) (by omega)) J<|cl J (ot (by omega) (by omega)) J<|?_;exact rz J J
def BD{p q:ab}{i j:Nat}[hp:aI p i][hq:aI q j](hi:i<=200000:=by decide)(hj:j<=200000:=by decide):PF GB prog 99 [eP p,eP q] (eQ (p.cross q)):=by
 refine fn func99 J J ntmps99 J J (fun C=>?_);refine cl J (iD (by omega) (by omega)) J<|cl J (iD (by omega) (by omega)) J<|cl J (ru (by omega) (by omega)) J<|?_;exact rz J J
def zp{p q:ab}{c:Rat}{i j k:Nat}[hp:aI p i][hq:aI q j][hc:BQ c k](hi:i<=19000000:=by decide)(hj:j<=9000000:=by decide)(hk:k<=9000000:=by decide):PF GB prog 100 [eP p,eQ c,eP q] (eP (cv p q c)):=by
 refine fn func100 J J ntmps100 J J (fun C=>?_);refine cl J (iD (by omega) (by omega)) J<|cl J (ot (by omega) (by omega)) J<|cl J (iD (by omega) (by omega)) J<|cl J (ot (by omega) (by omega)) J<|?_;exact rz J J
def BG{l:aa}{p:ab}{i:Nat}[hl:LB l][hp:aI p i](hi:i<=400000:=by decide):PF GB prog 159 [eL l,eP p] (eQ (l.value p)):=by
 refine fn func159 J J ntmps159 J J (fun C=>?_);refine cl J (jj (z:=l.a)) J<|cl J (iD (by omega) (by omega)) J<|cl J (jj (z:=l.b)) J<|cl J (iD (by omega) (by omega)) J<|?_;refine cl J (ot (by omega) (by omega)) J<|cl J (jj (z:=l.c)) J<|cl J (ot (by omega) (by omega)) J<|?_;exact rz J J
def AW{l:aa}{p:ab}{i:Nat}[hl:LB l][hp:aI p i](hi:i<=400000:=by decide):PF GB prog 65 [eL l,eP p] (vI (l.value p).num.sign):=by
 refine fn func65 J J ntmps65 J J (fun C=>?_);refine cl J (BG hi) J<|cl J px J<|?_;exact rz J J
def Dt{l:aa}[hl:LB l](hn:l.Ne):PF GB prog 144 [eL l] (eP l.base):=by
 refine fn func144 J J ntmps144 J J (fun C=>?_);refine cl J sr J<|cl J (jj (z:=l.c)) J<|cl J Hp J<|cl J (wI (Qe hn)) J<|cl J uu J<|cl J (jj (z:=l.a)) J<|?_;refine cl J iD J<|cl J (jj (z:=l.b)) J<|cl J iD J<|?_;exact rz J (by rw[<-No];rfl)
instance aI.base (l:aa) [LB l]:aI l.base 900:=by
 rw[<-No];constructor
 ·exact BQ.mono (inferInstance:BQ (-((l.c:Rat)/l.dir.dot l.dir)*(l.a:Rat)) _) (by decide)
 ·exact BQ.mono (inferInstance:BQ (-((l.c:Rat)/l.dir.dot l.dir)*(l.b:Rat)) _) (by decide)
def Kg{l:aa}{t:Rat}{k:Nat}[hl:LB l][ht:BQ t k](hn:l.Ne)(hk:k<=200000:=by decide):PF GB prog 71 [eL l,eQ t] (eP (l.at t)):=by
 refine fn func71 J J ntmps71 J J (fun C=>?_);refine cl J (Dt hn) J<|cl J sr J<|cl J (zp (by decide) (by decide) (by omega)) J<|?_;exact rz J (by rw[<-rI];rfl)
def Cv{l:aa}{p:ab}{k:Nat}[hl:LB l][hp:aI p k](hn:l.Ne)(hk:k<=200000:=by decide):PF GB prog 262 [eL l,eP p] (eQ (er l p)):=by
 refine fn func262 J J ntmps262 J J (fun C=>?_);refine cl J sr J<|cl J (Hp (by omega) (by decide)) J<|cl J (Hp (by omega) (by decide)) J<|cl J (wI (Qe hn) (by omega) (by decide)) J<|?_;exact rz J J
instance BI.crossI (l m:aa) [LB l] [LB m]:BI (crossI l m) 385:=inferInstanceAs (BI (l.a*m.b-m.a*l.b) 385)
instance BI.meetX (l m:aa) [LB l] [LB m]:BI (meetX l m) 385:=inferInstanceAs (BI (l.b*m.c-m.b*l.c) 385)
instance BI.meetY (l m:aa) [LB l] [LB m]:BI (meetY l m) 385:=inferInstanceAs (BI (m.a*l.c-l.a*m.c) 385)
instance aI.imeet (l m:aa) [LB l] [LB m]:aI (fD l m) 772:=by
 unfold fD;split
 ·exact⟨BQ.mono (k:=1) ⟨by decide,by decide⟩ (by decide),BQ.mono (k:=1) ⟨by decide,by decide⟩ (by decide)⟩
 ·exact⟨inferInstanceAs (BQ ((meetX l m:Rat)/(crossI l m:Rat)) 772),inferInstanceAs (BQ ((meetY l m:Rat)/(crossI l m:Rat)) 772)⟩
def JK(l m:aa):(((l.a:Rat)*(m.b:Rat)-(m.a:Rat)*(l.b:Rat)).num.sign=0)↔crossI l m=0:=by
 rw[mr,<-xf];exact iT
def Oz{l m:aa}(h:crossI l m≠0):(l.a:Rat)*(m.b:Rat)-(m.a:Rat)*(l.b:Rat)≠0:=by
 rw[<-xf];exact fun e=>h (iT.1 e)
def Mi{l m:aa}[hl:LB l][hm:LB m]:PF GB prog 70 [eL l,eL m] (.tp [eP (fD l m),vB (decide (crossI l m≠0))]):=by
 refine fn func70 J J ntmps70 J J (fun C=>?_);refine cl J (jj (z:=l.a)) J<|cl J (jj (z:=m.b)) J<|cl J iD J<|cl J (jj (z:=m.a)) J<|cl J (jj (z:=l.b)) J<|?_;refine cl J iD J<|cl J ru J<|cl J px J<|?_;refine br J J J (fun hc26=>?_) (fun hc26=>?_)
 .
  have hcr:=(JK l m).1 hc26;exact rz J (by unfold fD;rw[if_pos hcr,decide_eq_false (fun e=>e hcr)];show DV.tp [.ag [_, .sl [], .sl [],_, .sl [], .sl []],_]= .tp [eP ⟨0,0⟩,_];unfold eP dD;simp only[show(0:Rat).num=0 from J,show(0:Rat).den=1 from J,kU,n5];rfl)
 .
  have hcr:crossI l m≠0:=fun e=>hc26 ((JK l m).2 e);refine cl J (jj (z:=l.b)) J<|cl J (jj (z:=m.c)) J<|cl J iD J<|cl J (jj (z:=m.b)) J<|cl J (jj (z:=l.c)) J<|?_;refine cl J iD J<|cl J ru J<|cl J (jj (z:=m.a)) J<|cl J (jj (z:=l.c)) J<|cl J iD J<|cl J (jj (z:=l.a)) J<|?_;refine cl J (jj (z:=m.c)) J<|cl J iD J<|cl J ru J<|cl J (wI (Oz hcr)) J<|cl J (wI (Oz hcr)) J<|?_;exact rz J (by unfold fD;rw[if_neg hcr,decide_eq_true hcr,M4,LO,xf];rfl)
def im(l m:aa):Int:=if(l.a-m.a).sign≠0 then(l.a-m.a).sign else if(l.b-m.b).sign≠0 then(l.b-m.b).sign else(l.c-m.c).sign
def BV(l m:aa):im l m=0↔l=m:=by
 unfold im;constructor
 ·intro h
  split at h
  ·contradiction
  ·split at h
   ·contradiction
   ·rename_i h1 h2
    have a1:=jX.1 (Decidable.not_not.1 h1);have a2:=jX.1 (Decidable.not_not.1 h2);have a3:=jX.1 h;exact aa.ext' (by omega) (by omega) (by omega)
 ·rintro rfl
  simp
def B6{l m:aa}[hl:LB l][hm:LB m]:PF GB prog 179 [eL l,eL m] (vI (im l m)):=by
 refine fn func179 J J ntmps179 J J (fun C=>?_);refine cl J (Ez (a:=l.a) (b:=m.a)) J<|?_;refine br J J J (fun hc13=>?_) (fun hc13=>?_)
 .
  exact rz J (by show vI _=_;unfold im;rw[if_pos hc13])
 .
  refine cl J (Ez (a:=l.b) (b:=m.b)) J<|?_;refine br J J J (fun hc21=>?_) (fun hc21=>?_)
  .
   exact rz J (by show vI _=_;unfold im;rw[if_neg hc13,if_pos hc21])
  .
   refine cl J (Ez (a:=l.c) (b:=m.c)) J<|?_;exact rz J (by show vI _=_;unfold im;rw[if_neg hc13,if_neg hc21])
def Kd{v:ab}:PF GB prog 344 [eP v] (vI v.half):=by
 refine fn func344 J J ntmps344 J J (fun C=>?_);refine cl J (px (q:=v.x)) J<|cl J (px (q:=v.y)) J<|?_;refine cs 13 J J J (fun hg13=>?_) (fun hg13=>?_)
 .
  refine br J J J (fun hc16=>?_) (fun hc16=>?_)
  .
   exact rz J (by show vI _=vI _;unfold ab.half;generalize v.x.num.sign=sx at*;generalize v.y.num.sign=sy at*;congr 1;(repeat' split)<;>omega)
  .
   refine cs 19 J J J (fun hg19=>?_) (fun hg19=>?_)
   .
    exact rz J (by show vI _=vI _;unfold ab.half;generalize v.x.num.sign=sx at*;generalize v.y.num.sign=sy at*;congr 1;(repeat' split)<;>omega)
   .
    refine cs 22 J J J (fun hg22=>?_) (fun hg22=>?_)
    .
     refine br J J J (fun hc26=>?_) (fun hc26=>?_)
     .
      exact rz J (by show vI _=vI _;unfold ab.half;generalize v.x.num.sign=sx at*;generalize v.y.num.sign=sy at*;congr 1;(repeat' split)<;>omega)
     .
      exact rz J (by show vI _=vI _;unfold ab.half;generalize v.x.num.sign=sx at*;generalize v.y.num.sign=sy at*;congr 1;(repeat' split)<;>omega)
    .
     exact rz J (by show vI _=vI _;unfold ab.half;generalize v.x.num.sign=sx at*;generalize v.y.num.sign=sy at*;congr 1;(repeat' split)<;>omega)
 .
  refine cs 19 J J J (fun hg19=>?_) (fun hg19=>?_)
  .
   exact rz J (by show vI _=vI _;unfold ab.half;generalize v.x.num.sign=sx at*;generalize v.y.num.sign=sy at*;congr 1;(repeat' split)<;>omega)
  .
   refine cs 22 J J J (fun hg22=>?_) (fun hg22=>?_)
   .
    refine br J J J (fun hc26=>?_) (fun hc26=>?_)
    .
     exact rz J (by show vI _=vI _;unfold ab.half;generalize v.x.num.sign=sx at*;generalize v.y.num.sign=sy at*;congr 1;(repeat' split)<;>omega)
    .
     exact rz J (by show vI _=vI _;unfold ab.half;generalize v.x.num.sign=sx at*;generalize v.y.num.sign=sy at*;congr 1;(repeat' split)<;>omega)
   .
    exact rz J (by show vI _=vI _;unfold ab.half;generalize v.x.num.sign=sx at*;generalize v.y.num.sign=sy at*;congr 1;(repeat' split)<;>omega)
def Pm(z:Int): -1<=z.sign/\z.sign<=1:=by
 rcases oR z 0 with h|h|h
 ·rw[fZ h];omega
 ·rw[h];decide
 ·rw[gV h];omega
def Sb{u v:ab}{i j:Nat}[hu:aI u i][hv:aI v j](hi:i<=200000:=by decide)(hj:j<=200000:=by decide):PF GB prog 250 [eP u,eP v] (vI (ir u v)):=by
 refine fn func250 J J ntmps250 J J (fun C=>?_);refine cl J (Kd (v:=u)) J<|cl J (Kd (v:=v)) J<|?_;refine br J J J (fun hc13=>?_) (fun hc13=>?_)
 .
  refine br J J J (fun hc16=>?_) (fun hc16=>?_)
  .
   exact rz J (by show vI _=vI _;unfold ir;rw[if_pos hc16])
  .
   exact rz J (by show vI _=vI _;unfold ir;rw[if_neg hc16,if_pos (by omega)])
 .
  refine cl J (BD hi hj) J<|cl (hv:=by simp only[ah];exact(by have:=Pm (u.cross v).num;omega)) J px J<|?_;exact rz J (by show vI _=vI _;unfold ir;rw[if_neg (by omega),if_neg (by omega)])
instance BQ.i1:BQ (((1:Int):Rat)) 2:=⟨by decide,by decide⟩
def eV(v:aj):DV:= .ag [.v (.bool (decide (v.lo.num<0))),dN v.lo.num.natAbs,dD v.lo.den, .v (.bool (decide (v.hi.num<0))),dN v.hi.num.natAbs,dD v.hi.den, .v (.bool v.nl), .v (.bool v.nh)]
def Z':eV aj.all= .ag [.v (.bool false), .sl [], .sl [], .v (.bool false), .sl [], .sl [], .v (.bool true), .v (.bool true)]:=by
 unfold eV aj.all dD;simp only[show(0:Rat).num=0 from J,show(0:Rat).den=1 from J,kU,n5];rfl
def LE:eQ 0= .ag [.v (.bool false), .sl [], .sl []]:=by
 unfold eQ dD;simp only[show(0:Rat).num=0 from J,show(0:Rat).den=1 from J,kU,n5];rfl
def iF(v:aj):Rat:=if v.nl=true/\v.nh=true then 0 else if v.nl=true then v.hi-1 else if v.nh=true then v.lo+1 else(v.lo+v.hi)/2
def JH:PF GB prog 343 [] (eV aj.all):=by
 refine fn func343 J J ntmps343 J J (fun C=>?_);exact rz J (by rw[Z'];rfl)
def YI{v:aj}{i:Nat}[hl:BQ v.lo i][hh:BQ v.hi i](hi:i<=100000:=by decide):PF GB prog 252 [eV v] (eQ (iF v)):=by
 refine fn func252 J J ntmps252 J J (fun C=>?_);refine jv 6 J J J (fun hg6=>?_) (fun hg6=>?_)
 .
  refine bb J J J (fun hc3=>?_) (fun hc3=>?_)
  .
   exact rz J (by unfold iF;rw[if_pos ⟨hg6,hc3⟩,LE];rfl)
  .
   refine bb J J J (fun hc11=>?_) (fun hc11=>?_)
   .
    refine cl J (kI (n:=1) (by decide) (by decide)) J<|cl J (ru (a:=v.hi) (b:=((1:Int):Rat)) (by omega) (by decide)) J<|?_;exact rz J (by unfold iF;rw[if_neg (by simp[hc3]),if_pos hc11];rfl)
   .
    refine bb J J J (fun hc18=>?_) (fun hc18=>?_)
    .
     refine cl J (kI (n:=1) (by decide) (by decide)) J<|cl J (ot (a:=v.lo) (b:=((1:Int):Rat)) (by omega) (by decide)) J<|?_;exact rz J (by simp[hg6] at hc11)
    .
     refine cl J (D4 (a:=v.lo) (b:=v.hi) (by omega) (by omega)) J<|?_;exact rz J (by simp[hg6] at hc11)
 .
  refine bb J J J (fun hc11=>?_) (fun hc11=>?_)
  .
   refine cl J (kI (n:=1) (by decide) (by decide)) J<|cl J (ru (a:=v.hi) (b:=((1:Int):Rat)) (by omega) (by decide)) J<|?_;exact rz J (by simp[hg6] at hc11)
  .
   refine bb J J J (fun hc18=>?_) (fun hc18=>?_)
   .
    refine cl J (kI (n:=1) (by decide) (by decide)) J<|cl J (ot (a:=v.lo) (b:=((1:Int):Rat)) (by omega) (by decide)) J<|?_;exact rz J (by unfold iF;rw[if_neg (by simp[hg6]),if_neg (by simp[hg6]),if_pos hc18];rfl)
   .
    refine cl J (D4 (a:=v.lo) (b:=v.hi) (by omega) (by omega)) J<|?_;exact rz J (by unfold iF;rw[if_neg (by simp[hg6]),if_neg (by simp[hg6]),if_neg (by simp[hc18])];rfl)
theorem BQ.of_fracI{q:Rat}{n D:Int}{i:Nat}(hd:0<D.natAbs)(h:q*((D.natAbs:Nat):Rat)=(n:Rat))(hn:BI n i)(hD:BI D i):BQ q i:=BQ.of_frac hd h hn.h hD.h
theorem CG{m:Int}{i j:Nat}(h:BI m i)(hij:i<=j):BI m j:=⟨dK h.h (bY (by decide) hij)⟩
theorem Dn{l m:aa}[LB l][LB m](hn:l.Ne)(h:crossI l m≠0):BQ (er l (fD l m)) 1200:=by
 have e:=Q8 hn h;have hA:BI (crossI l m*(l.a*l.a+l.b*l.b)) _:=inferInstance;have hB:BI (meetX l m*l.b-meetY l m*l.a) _:=inferInstance;have hne:crossI l m*(l.a*l.a+l.b*l.b)≠0:=by
  intro q;rcases rM.1 q with q|q
  ·exact h q
  ·have h1:=vC hn
   simp only[aa.dir,ab.dot] at h1;have h2:((l.a*l.a+l.b*l.b:Int):Rat)=((0:Int):Rat):=by rw[q]
   rw[oJ,cN,cN] at h2;have h3:((0:Int):Rat)=0:=J;rw[h3] at h2;grind
 have hA':=CG (j:=1200) hA (by decide);have hB':=CG (j:=1200) hB (by decide);generalize crossI l m*(l.a*l.a+l.b*l.b)=D at*;generalize meetX l m*l.b-meetY l m*l.a=M at*;by_cases hD:0<D
 ·refine BQ.of_fracI (n:=M) (D:=D) (by omega) ?_ hB' hA'
  rw[<-e];congr 1;have:((D.natAbs:Nat):Int)=D:=by omega
  rw[<-this];rfl
 ·refine BQ.of_fracI (n:= -M) (D:=D) (by omega) ?_ (BI.neg M 1200 (h:=hB')) hA'
  rw[qW,<-e];have:((D.natAbs:Nat):Rat)= -(D:Rat):=by
   have h1:((D.natAbs:Nat):Int)= -D:=by omega
   rw[<-qW,<-h1];rfl
  rw[this];grind
def IM(k:Rat):k.num.sign<=0↔ ¬0<k:=by rw[<-r6];omega
def ZL{w:aj}(h1: ¬w.nl=true)(h2: ¬w.nh=true)(h3:0<=bg w.lo w.hi):w.empty=true:=by
 unfold aj.empty;simp[h1,h2,h3]
def ane{w:aj}(h:w.nl=true):w.empty=false:=by unfold aj.empty;simp[h]
def Tn{w:aj}(h:w.nh=true):w.empty=false:=by unfold aj.empty;simp[h]
def V3{w:aj}(h: ¬0<=bg w.lo w.hi):w.empty=false:=by unfold aj.empty;simp[h]
def fe(l:aa):List aa->aj->aj×Bool
 |[],v=>(v,true)
 |m::t,v=>if m=l then fe l t v else if l.cutB v m=true then fe l t (l.cutV v m) else(l.cutV v m,false)
def ug{l:aa}: ∀{c:List aa} {v:aj},(fe l c v).2=(fy l c v).isSome
 |[],v=>rfl
 |m::t,v=>by
  rw[fe,Fz];split
  ·exact ug
  ·split
   ·exact ug
   ·rfl
structure jf (l:aa) (c:List aa) (k:Nat) (v:aj):Prop where
 le:k<=c.length
 p:fy l (c.drop k) v=fy l c aj.all
 e:fe l (c.drop k) v=fe l c aj.all
 z:gm v
 lo:BQ v.lo 1200
 hi:BQ v.hi 1200
def jf.skip{l:aa}{c:List aa}{k:Nat}{v:aj}(h:jf l c k v)(hk:k<c.length)(e:c[k]=l):jf l c (k+1) v:=
 ⟨hk,by have:=h.p;rw[bX hk,Fz,if_pos e] at this;exact this,by have:=h.e;rw[bX hk,fe,if_pos e] at this;exact this,h.z,h.lo,h.hi⟩
def jf.cut{l:aa}{c:List aa}{k:Nat}{v w:aj}(h:jf l c k v)(hk:k<c.length)(e:c[k]≠l)(hb:l.cutB v c[k]=true)(hw:l.cutV v c[k]=w)(z:gm w)(lo:BQ w.lo 1200)(hi:BQ w.hi 1200):jf l c (k+1) w:=
 ⟨hk,by have:=h.p;rw[bX hk,Fz,if_neg e,if_pos hb,hw] at this;exact this,by have:=h.e;rw[bX hk,fe,if_neg e,if_pos hb,hw] at this;exact this,z,lo,hi⟩
def jf.no{l:aa}{c:List aa}{k:Nat}{v w:aj}(h:jf l c k v)(hk:k<c.length)(e:c[k]≠l)(hb:l.cutB v c[k]=false)(hw:l.cutV v c[k]=w):fe l c aj.all=(w,false):=by
 rw[<-h.e,bX hk,fe,if_neg e,if_neg (by rw[hb];decide),hw]
def jf.yes{l:aa}{c:List aa}{k:Nat}{v:aj}(h:jf l c k v)(hk:c.length<=k):fe l c aj.all=(v,true):=by
 rw[<-h.e,jY hk];rfl
def jf.all{l:aa}{c:List aa}:jf l c 0 aj.all:=⟨bQ _,by rw[iW],by rw[iW],gm.all,BQ.mono (k:=1) ⟨by decide,by decide⟩ (by decide),BQ.mono (k:=1) ⟨by decide,by decide⟩ (by decide)⟩
def Pa{v:aj}{t:Rat}(h:v.nl=true\/0<bg t v.lo):(⟨t,v.hi,false,v.nh⟩:aj)=oA v t:=by unfold oA;rw[if_pos h]
def XN{v:aj}{t:Rat}(h: ¬v.nl=true)(h2: ¬0<bg t v.lo):v=oA v t:=by unfold oA;rw[if_neg (fun e=>e.elim h h2)]
def Lo{v:aj}{t:Rat}(h:v.nh=true\/bg t v.hi<0):(⟨v.lo,t,v.nl,false⟩:aj)=oy v t:=by unfold oy;rw[if_pos h]
def Rn{v:aj}{t:Rat}(h: ¬v.nh=true)(h2: ¬bg t v.hi<0):v=oy v t:=by unfold oy;rw[if_neg (fun e=>e.elim h h2)]
def mA(l m:aa)(v:aj):aj:=if 0<(m.dir.cross l.dir).num.sign then oA v (er l (fD l m)) else oy v (er l (fD l m))
def Ei{l m:aa}{v:aj}[LB l][LB m](hn:l.Ne)(hz:gm v)(hlo:BQ v.lo 1200)(hhi:BQ v.hi 1200)(h0:crossI l m≠0):l.cutV v m=mA l m v/\l.cutB v m=!(mA l m v).empty/\gm (mA l m v)/\BQ (mA l m v).lo 1200/\BQ (mA l m v).hi 1200:=by
 have hb:=Dn (l:=l) (m:=m) hn h0;unfold mA;split
 ·rename_i h
  obtain⟨_,h1,h2⟩:=VH hn hz ((r6 _).1 h);refine⟨h1,h2,hz.lo' _,?_⟩;unfold oA;split
  ·exact⟨hb,hhi⟩
  ·exact⟨hlo,hhi⟩
 ·rename_i h
  obtain⟨h1,h2⟩:=T6 hn hz h0 (fun e=>h ((r6 _).2 e));refine⟨h1,h2,hz.hi' _,?_⟩;unfold oy;split
  ·exact⟨hlo,hb⟩
  ·exact⟨hlo,hhi⟩
theorem CW{l:aa}[LB l](hn:l.Ne): ∀{c:List aa} {v:aj},(∀m∈c,LB m)->gm v->BQ v.lo 1200->BQ v.hi 1200->BQ (fe l c v).1.lo 1200/\BQ (fe l c v).1.hi 1200
 |[],v,_,_,h1,h2=>⟨h1,h2⟩
 |m::t,v,hc,hz,h1,h2=>by
  haveI:=hc m aQ;have hw:gm (l.cutV v m)/\BQ (l.cutV v m).lo 1200/\BQ (l.cutV v m).hi 1200:=by
   by_cases h0:crossI l m=0
   ·rw[(y5 (v:=v) h0).1];exact⟨hz,h1,h2⟩
   ·obtain⟨u1,_,u3,u4,u5⟩:=Ei (v:=v) hn hz h1 h2 h0
    rw[u1];exact⟨u3,u4,u5⟩
  have hc':=fun m hm=>hc m (aJ _ hm);rw[fe];split
  ·exact CW hn hc' hz h1 h2
  ·split
   ·exact CW hn hc' hw.1 hw.2.1 hw.2.2
   ·exact hw.2
def Pr{c:List aa}{i:Nat}(hc: ∀m∈c,LB m)(hok: ∀m∈c,m.ok)(hn:c.length<=1000)(hi:i<c.length):PF GB prog 249 [.sl (c.map eL),vI (i:Nat)] (.tp [eV (fe (c[i]'hi) c aj.all).1,vB (fe (c[i]'hi) c aj.all).2]):=by
 have hcl:=tL c;obtain⟨l,hl⟩: ∃l,l=c[i]:=⟨_,rfl⟩;rw[<-hl];haveI hlb:LB l:=hl▸hc _ (cV hi);have hlo:l.ok:=hl▸hok _ (cV hi);refine fn func249 J J ntmps249 J J (fun C=>?_);refine ix (fu:=⟨1⟩) _ J (t8 hi) J<|?_;refine ak 16 (.d (eL l)) J (by rw[hl];rfl) ?_;refine gx J<|cl (fu:=⟨9⟩) J JH J<|?_;refine ak 19 (.d (vI (c.length:Nat))) J (by rw[hcl];rfl) ?_;refine gx J<|?_;refine lp (X:=aj×Nat) (fun⟨v,k⟩=>[(20, .d (vI (k:Nat))),(19, .d (vI (c.length:Nat))),(18, .d (.sl (c.map eL))),(1, .d (vI (i:Nat))),(6, .ov 6 0),(7, .ov 7 0),(4, .ov 4 0)]) (fun⟨v,k⟩=>[(7,some (.o 159 [.d ((.v (.bool (decide (v.lo.num<0))))), .d (dN v.lo.num.natAbs), .d (dD v.lo.den), .d ((.v (.bool (decide (v.hi.num<0))))), .d (dN v.hi.num.natAbs), .d (dD v.hi.den), .d ((.v (.bool v.nl))), .d ((.v (.bool v.nh)))] true)),(6,some (.o 115 [.d ((.v (.bool (decide (l.a<0))))), .d (dN l.a.natAbs), .d ((.v (.bool (decide (l.b<0))))), .d (dN l.b.natAbs), .d ((.v (.bool (decide (l.c<0))))), .d (dN l.c.natAbs)] true)),(4,some (.o 159 [.ff, .nl, .nl, .ff, .nl, .nl, .ff, .ff] true))]) (fun⟨v,k⟩=>jf l c k v) (fun⟨v,k⟩=>c.length-k) ⟨aj.all,0⟩ J jf.all (fun _=>J) (fun⟨v,k⟩ hk=>?_)
 try dsimp only at hk⊢
 have hS:=hk;refine br J J J (fun hc21=>?_) (fun hc21=>?_)
 .
  have hk:k<c.length:=by omega
  obtain⟨m,hm⟩: ∃m,m=c[k]:=⟨_,rfl⟩;haveI hmb:LB m:=hm▸hc _ (cV hk);have hmo:m.ok:=hm▸hok _ (cV hk);refine ix (fu:=⟨1⟩) _ J (t8 hk) J<|?_;refine ak 24 (.d (eL m)) J (by rw[hm];rfl) ?_;refine gx J<|?_;refine cs 28 J J J (fun hg28=>?_) (fun hg28=>?_)
  .
   have hinv:jf l c (k+1) v:=hS.skip hk (by rw[hl];congr 1;omega);exact at_ ⟨v,k+1⟩ (by dsimp only;exact⟨hinv,(by omega)⟩)
  .
   refine cl J (B6 (l:=l) (m:=m)) J<|?_;refine br J J J (fun hc33=>?_) (fun hc33=>?_)
   .
    have hinv:jf l c (k+1) v:=hS.skip hk (by rw[<-hm,(BV l m).1 hc33]);exact at_ ⟨v,k+1⟩ (by dsimp only;exact⟨hinv,(by omega)⟩)
   .
    have hne:c[k]≠l:=fun e=>hc33 ((BV l m).2 (by rw[hm,e]));refine cl (fu:=⟨13⟩) J (Mi (l:=l) (m:=m)) J<|?_;refine ak 41 (.d (.v (.bool (decide (crossI l m=0))))) J (by simp) ?_;refine gx J<|?_;refine bd J J J (fun hc41=>?_) (fun hc41=>?_)
    .
     refine cl J (Dt hlo.ne) J<|cl J (AW (l:=m) (p:=l.base)) J<|?_;refine br J J J (fun hc46=>?_) (fun hc46=>?_)
     .
      have hno:=hS.no (w:=v) hk hne (by have:=(y5 (v:=v) hc41).2;rw[<-hm];cases hb:l.cutB v m with|false=>rfl|true=>exact absurd (this.1 hb) ((IM _).1 hc46)) (by rw[<-hm];exact(y5 (v:=v) hc41).1);exact rz J (by rw[hno];rfl)
     .
      have hinv:jf l c (k+1) v:=by have:=y5 (v:=v) hc41;exact hS.cut hk hne (by rw[<-hm];exact this.2.2 (by have:=mt (IM (m.value l.base)).2 hc46;exact Decidable.not_not.1 this)) (by rw[<-hm];exact this.1) hS.z hS.lo hS.hi
      exact at_ ⟨v,k+1⟩ (by dsimp only;exact⟨hinv,(by omega)⟩)
    .
     obtain⟨u1,u2,u3,u4,u5⟩:=Ei (v:=v) hlo.ne hS.z hS.lo hS.hi hc41;haveI htb:=Dn hlo.ne hc41;haveI hvl:=hS.lo;haveI hvh:=hS.hi;refine cl (fu:=⟨0⟩) J (Cv (l:=l) (p:=fD l m) hlo.ne) J<|?_;obtain⟨t,ht⟩: ∃t,t=er l (fD l m):=⟨_,rfl⟩;refine ak 50 (.d (eQ t)) J (by rw[ht]) ?_;rw[<-ht] at htb;refine gx (fu:=⟨5⟩) J<|?_;refine mg (X:=aj) (fun w=>[(20, .d (vI (k:Nat))),(19, .d (vI (c.length:Nat))),(18, .d (.sl (c.map eL))),(1, .d (vI (i:Nat))),(6, .ov 6 0),(7, .ov 7 0),(4, .ov 4 0)]) (fun w=>[(7,some (.o 159 [.d ((.v (.bool (decide (w.lo.num<0))))), .d (dN w.lo.num.natAbs), .d (dD w.lo.den), .d ((.v (.bool (decide (w.hi.num<0))))), .d (dN w.hi.num.natAbs), .d (dD w.hi.den), .d ((.v (.bool w.nl))), .d ((.v (.bool w.nh)))] true)),(6,some (.o 115 [.d ((.v (.bool (decide (l.a<0))))), .d (dN l.a.natAbs), .d ((.v (.bool (decide (l.b<0))))), .d (dN l.b.natAbs), .d ((.v (.bool (decide (l.c<0))))), .d (dN l.c.natAbs)] true)),(4,some (.o 159 [.ff, .nl, .nl, .ff, .nl, .nl, .ff, .ff] true))]) (fun w=>w=mA l m v) [20,19,18,1,6,7,4] [7,6,4] rfl ?_ (fun _=>J) (fun w hw=>?_)
     .
      refine gx J<|cl J (sr (l:=m)) J<|cl J (sr (l:=l)) J<|cl J (BD (p:=m.dir) (q:=l.dir)) J<|cl J (px (q:=m.dir.cross l.dir)) J<|?_;refine br J J J (fun hc57=>?_) (fun hc57=>?_)
      .
       refine jv 60 J J J (fun hg60=>?_) (fun hg60=>?_)
       .
        refine Dr 7 J J J ?_;exact at_ ⟨t,v.hi,false,v.nh⟩ (by unfold mA;rw[if_pos hc57,<-ht];exact Pa (.inl hg60))
       .
        refine cl J (lf (a:=t) (b:=v.lo)) J<|?_;refine br J J J (fun hc66=>?_) (fun hc66=>?_)
        .
         refine Dr 7 J J J ?_;exact at_ ⟨t,v.hi,false,v.nh⟩ (by unfold mA;rw[if_pos hc57,<-ht];exact Pa (.inr hc66))
        .
         exact at_ v (by unfold mA;rw[if_pos hc57,<-ht];exact XN (by simp[hg60]) hc66)
      .
       refine jv 72 J J J (fun hg72=>?_) (fun hg72=>?_)
       .
        refine Dr 7 J J J ?_;exact at_ ⟨v.lo,t,v.nl,false⟩ (by unfold mA;rw[if_neg hc57,<-ht];exact Lo (.inl hg72))
       .
        refine cl J (lf (a:=t) (b:=v.hi)) J<|?_;refine br J J J (fun hc78=>?_) (fun hc78=>?_)
        .
         refine Dr 7 J J J ?_;exact at_ ⟨v.lo,t,v.nl,false⟩ (by unfold mA;rw[if_neg hc57,<-ht];exact Lo (.inr hc78))
        .
         exact at_ v (by unfold mA;rw[if_neg hc57,<-ht];exact Rn (by simp[hg72]) hc78)
     .
      rw[<-hw] at u1 u2 u3 u4 u5;haveI:=u4;haveI:=u5;refine jv 85 J J J (fun hg85=>?_) (fun hg85=>?_)
      .
       refine jv 90 J J J (fun hg90=>?_) (fun hg90=>?_)
       .
        refine cl J (lf (a:=w.lo) (b:=w.hi)) J<|?_;refine br J J J (fun hc97=>?_) (fun hc97=>?_)
        .
         have hno:=hS.no (w:=w) hk hne (by rw[<-hm,u2,ZL (by simpa using hg85) (by simpa using hg90) hc97];rfl) (by rw[<-hm,u1]);exact rz J (by rw[hno];rfl)
        .
         have hinv:jf l c (k+1) w:=hS.cut hk hne (by rw[<-hm,u2,V3 hc97];rfl) (by rw[<-hm,u1]) u3 u4 u5;exact at_ ⟨w,k+1⟩ (by dsimp only;exact⟨hinv,(by omega)⟩)
       .
        have hinv:jf l c (k+1) w:=hS.cut hk hne (by rw[<-hm,u2,Tn (by simpa using hg90)];rfl) (by rw[<-hm,u1]) u3 u4 u5;exact at_ ⟨w,k+1⟩ (by dsimp only;exact⟨hinv,(by omega)⟩)
      .
       have hinv:jf l c (k+1) w:=hS.cut hk hne (by rw[<-hm,u2,ane (by simpa using hg85)];rfl) (by rw[<-hm,u1]) u3 u4 u5;exact at_ ⟨w,k+1⟩ (by dsimp only;exact⟨hinv,(by omega)⟩)
 .
  exact rz J (by rw[hS.yes (by omega)];rfl)
end Go.Sx
end
