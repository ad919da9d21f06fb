import Derived.Test.YtpiknjeceobbfaaGreatDoorMy11
import Derived.WalkKit
import Derived.LaidEql
import Derived.Stop.Asserts
import Derived.RowKitTokens
set_option linter.all false
set_option maxHeartbeats 1000000
set_option maxRecDepth 100000
section
namespace Go.Sx
open Go Go.Proofs Tryz
variable {GB:Gh}
instance BI.zv (neg:Bool) (m i:Nat) [h:BN m i]:BI (zv neg m) i:=⟨by rw[my];exact h.h⟩
section
variable {GB:Gh} {C:az} {n:Nat} {Q0:Exit->Act->World->Prop} {fr fr':au} {own own':aB} {cf cf':Cf} {vc:List Prop}
def If(fr:au)(cf:Cf):Option Int:=match bH fr cf with
 |some ⟨_, .convert t t' x,_,_,_,_⟩=>match cF tt t,cF tt t' with
  |some ⟨.int .i64,_,_,_⟩,some ⟨.int .u64,_,_,_⟩=>match aE (bj fr cf) x with
   |some (.d (.v (.int .i64 p)))=>some p
   |_=>none
  |_,_=>none
 |_=>none
def Vd[fu:Fu]{p:Int}(q:Int)(h:If fr cf=some p)(e:p%18446744073709551616=q)(hgo:cd tt n fu.n fr own cf (.d (.v (.int .u64 q))) [] []=⟨vc,fr',own',cf'⟩)(k:ak prog GB C n Q0 fr' own' cf')
  (hv:ah vc:=by first|exact trivial|(simp only[ah];omega)):ak prog GB C n Q0 fr own cf:=by
 unfold If at h;split at h<;>try (cases h;done)
 rename_i hh;split at h<;>try (cases h;done)
 rename_i hT hT';split at h<;>cases h;rename_i hx;have:=wb (eh _ _ hT) J;have:=wb (eh _ _ hT') J;refine us hh (.x1 hx fun ρ G ov a w y _ r h1 h2=>?_) hgo hv k;rw[cA] at h2;subst h2;refine⟨_,cA.2 J,?_⟩;rw[<-e,<-mj];exact Ca h1
def Ow(fr:au)(cf:Cf):Option Int:=match bH fr cf with
 |some ⟨_, .unOp .neg _ x,_,_,_,_⟩=>match aE (bj fr cf) x with
  |some (.d (.v (.int .u64 p)))=>some p
  |_=>none
 |_=>none
def ZR[fu:Fu]{p:Int}(q:Int)(h:Ow fr cf=some p)(e:(0-p)%18446744073709551616=q)(hgo:cd tt n fu.n fr own cf (.d (.v (.int .u64 q))) [] []=⟨vc,fr',own',cf'⟩)(k:ak prog GB C n Q0 fr' own' cf')
  (hv:ah vc:=by first|exact trivial|(simp only[ah];omega)):ak prog GB C n Q0 fr own cf:=by
 unfold Ow at h;split at h<;>try (cases h;done)
 rename_i hh;split at h<;>cases h;rename_i hx;refine us hh (.x1 hx fun ρ G ov a w y _ r h1 h2=>?_) hgo hv k;rw[cA] at h2;subst h2;refine⟨_,cA.2 J,?_⟩;rw[<-e,<-mj];exact GX h1
end
def Ja{n:Int}(h0: -4611686018427387904<=n)(h1:n<=4611686018427387904):PF GB prog 85 [.v (.int .i64 n)] (eI n):=by
 refine fn func85 J J ntmps85 J J (fun C=>?_);refine br (fu1:=⟨3⟩) (fu2:=⟨6⟩) J J J (fun hc4=>?_) (fun hc4=>?_)
 .
  refine Vd (fu:=⟨0⟩) (18446744073709551616+n) J (by omega) J<|ZR (n.natAbs:Nat) J (by omega) J<|cl J (q8 (u:=n.natAbs) (by omega)) J<|?_;refine cl J gP J<|?_;exact rz J (uQ (by unfold zv;rw[if_pos J];omega))
 .
  refine aj 11 (.d (.v (.int .u64 (n.natAbs:Nat)))) J (by show FX.d (.v (.int _ _))= .d (.v (.int _ _));congr 3;omega) ?_;refine gx J<|cl J (q8 (u:=n.natAbs) (by omega)) J<|cl J gP J<|?_;exact rz J (uQ (by unfold zv;rw[if_neg (by decide)];omega))
def By{z:Int}:PF GB prog 107 [eI z] (vI z.sign):=by
 have hl:=eB (dg z.natAbs);have hz:= @tO z.natAbs;refine fn func107 J J ntmps107 J J (fun C=>?_);refine br J J J (fun hc6=>?_) (fun hc6=>?_)
 .
  exact rz J (by show DV.v (.int _ 0)=DV.v (.int _ _);rw[show z=0 by omega];rfl)
 .
  refine bd J J J (fun hc8=>?_) (fun hc8=>?_)
  .
   exact rz J (by show DV.v (.int _ (-1))=DV.v (.int _ _);rw[fX (by omega)])
  .
   exact rz J (by show DV.v (.int _ 1)=DV.v (.int _ _);rw[fK (by omega)])
def Ag{z:Int}:PF GB prog 129 [eI z] (eI (-z)):=by
 refine fn func129 J J ntmps129 J J (fun C=>?_);refine cl J gP J<|?_;exact rz J (uQ (YA z))
def XJ{a b:Int}(h:decide (a<0)=decide (b<0)):zv (decide (a<0)) (a.natAbs+b.natAbs)=a+b:=by
 unfold zv;have h':a<0↔b<0:=by simpa using h
 by_cases q:a<0
 ·have:=h'.1 q
  simp[q];omega
 ·have: ¬b<0:=fun w=>q (h'.2 w)
  simp[q];omega
def ZV{a b:Int}(h: ¬decide (a<0)=decide (b<0))(k:a.natAbs<b.natAbs):zv (decide (b<0)) (b.natAbs-a.natAbs)=a+b:=by
 unfold zv;have h': ¬(a<0↔b<0):=by simpa using h
 by_cases q:b<0
 ·have: ¬a<0:=fun w=>h' ⟨fun _=>q,fun _=>w⟩
  simp[q];omega
 ·have:a<0:=Int.not_le.1 fun w=>h' ⟨fun e=>by omega,fun e=>absurd e q⟩
  simp[q];omega
def ZJ{a b:Int}(h: ¬decide (a<0)=decide (b<0))(k:b.natAbs<=a.natAbs):zv (decide (a<0)) (a.natAbs-b.natAbs)=a+b:=by
 unfold zv;have h': ¬(a<0↔b<0):=by simpa using h
 by_cases q:a<0
 ·have: ¬b<0:=fun w=>h' ⟨fun _=>w,fun _=>q⟩
  simp[q];omega
 ·have:b<0:=Int.not_le.1 fun w=>h' ⟨fun e=>absurd e q,fun e=>by omega⟩
  simp[q];omega
def Cv{a b:Int}{i j:Nat}[ha:BI a i][hb:BI b j](hi:i<=400000000:=by decide)(hj:j<=400000000:=by decide):PF GB prog 127 [eI a,eI b] (eI (a+b)):=by
 have hba:=k8 ha.h;have hbb:=k8 hb.h;refine fn (fu:=⟨15⟩) func127 J J ntmps127 J J (fun C=>?_);refine aj 9 (.d (.v (.bool (decide (decide (a<0)=decide (b<0)))))) J (by congr 2) ?_;refine gx J<|?_;refine bd J J J (fun hc9=>?_) (fun hc9=>?_)
 .
  refine cl J (WG (by omega) (by omega)) J<|cl J gP J<|?_;exact rz J (uQ (XJ hc9))
 .
  refine cl J (w6 (by omega) (by omega)) J<|?_;refine br J J J (fun hc23=>?_) (fun hc23=>?_)
  .
   refine cl J (Hs (by have:=vQ.1 hc23;omega) (by omega)) J<|cl J gP J<|?_;exact rz J (uQ (ZV hc9 (vQ.1 hc23)))
  .
   refine cl J (Hs (rK fun q=>hc23 (vQ.2 q)) (by omega)) J<|cl J gP J<|?_;exact rz J (uQ (ZJ hc9 (rK fun q=>hc23 (vQ.2 q))))
def qi{a b:Int}{i j:Nat}[ha:BI a i][hb:BI b j](hi:i<=400000000:=by decide)(hj:j<=400000000:=by decide):PF GB prog 128 [eI a,eI b] (eI (a*b)):=by
 refine fn func128 J J ntmps128 J J (fun C=>?_);refine cl J (pw (by omega) (by omega)) J<|cl J gP J<|?_;exact rz J (uQ (Ug a b))
def HM{a b:Int}{i j:Nat}[ha:BI a i][hb:BI b j](hi:i<=400000000:=by decide)(hj:j<=400000000:=by decide):PF GB prog 151 [eI a,eI b] (vI (a-b).sign):=by
 refine fn func151 J J ntmps151 J J (fun C=>?_);refine cl J Ag J<|cl J (Cv (by omega) (by omega)) J<|cl J By J<|?_;exact rz J (by rw[Int.sub_eq_add_neg];rfl)
def iC{q:Rat}:PF GB prog 95 [eQ q] (dN q.den):=by
 refine fn func95 J J ntmps95 J J (fun C=>?_);refine br J J J (fun hc6=>?_) (fun hc6=>?_)
 .
  refine cl J EC J<|?_;exact rz J (by rw[(vP q.den (lx q)).1 (by omega)];rfl)
 .
  exact rz J (by exact IY (fun e=>hc6 (by exact congrArg Int.ofNat ((vP q.den (lx q)).2 e))))
def Lu{n k:Nat}[h:BN n k](hk:k<=500000000):(dg n).length<=100000000:=by have:=k8 h.h;omega
def uA{x:Int}{d i j:Nat}[hx:BI x i][hd:BN d j](hd0:0<d)(hi:i<=200000000:=by decide)(hj:j<=200000000:=by decide):PF GB prog 84 [eI x,dN d] (eQ (mkRat x d)):=by
 obtain⟨q,hq⟩: ∃q,q=mkRat x d:=⟨_,rfl⟩;obtain⟨g,hg⟩: ∃g,g=Nat.gcd x.natAbs d:=⟨_,rfl⟩;have hg0:0<g:=hg▸nK _ hd0;haveI hgB:BN g (i+j):=hg▸inferInstance;have hg1:(dg g).length<=100000000:=Lu (k:=i+j) (by omega);have ho1:(dg 1).length<=100000000:=by rw[Bh];decide
 haveI hqB:BQ q (i+j):=hq▸uZ hd0 (dV hx.h (bK (by decide) (by omega))) (dV hd.h (bK (by decide) (by omega)));refine fn func84 J J ntmps84 J J (fun C=>?_);refine cl (fu:=⟨0⟩) J (C9 (by omega) (by omega)) J<|?_;refine aj 11 (.d (dN g)) J (by rw[hg]) ?_;refine gx (fu:=⟨4⟩) J<|?_;refine mg (fu:=⟨1⟩) (X:=Unit) (fun _=>[(1, .d (dN q.den)),(2, .ov 2 0),(4, .ov 4 0)]) (fun _=>[(4,some (.o 34 [.ff, .nl, .nl] true)),(2,some (.o 32 [.d (.v (.bool (decide (q.num<0)))), .d (dN q.num.natAbs)] true))]) (fun _=>True) [1,2,4] [4,2] rfl ?_ (fun _=>J) (fun _ hm=>?_)
 .
  refine gx J<|cl J EC J<|cl J (w6 hg1 ho1) J<|?_;refine br J J J (fun hc15=>?_) (fun hc15=>?_)
  .
   refine cl J (r8 hg0 (by omega) (by omega)) J<|cl (fu:=⟨0⟩) J gP J<|?_;refine aj 26 (.d (eI q.num)) J (by show FX.d (eI (zv _ _))=_;rw[hg,Mm hd0,hq]) ?_;refine gx J<|cl (fu:=⟨2⟩) J (r8 hg0 (by omega) (by omega)) J<|?_;refine aj 31 (.d (dN q.den)) J (by rw[hg,Lw hd0,hq]) ?_;refine gx J<|?_;exact at_ () trivial
  .
   have hm:=Uc (x:=x) hd0 (by rw[<-hg];exact GK.1 (Decidable.not_not.1 hc15));rw[<-hq] at hm;refine aj 1 (.d (dN q.den)) J (by rw[hm.2]) ?_;exact at_ () trivial (hO:=⟨J,by rw[hm.1];rfl,trivial⟩)
 .
  refine mg (X:=Unit) (fun _=>[(1, .d (dD q.den)),(2, .ov 2 0),(4, .ov 4 0)]) (fun _=>[(4,some (.o 34 [.ff, .nl, .nl] true)),(2,some (.o 32 [.d (.v (.bool (decide (q.num<0)))), .d (dN q.num.natAbs)] true))]) (fun _=>True) [1,2,4] [4,2] rfl ?_ (fun _=>J) (fun _ hm=>?_)
  .
   refine gx J<|cl J EC J<|cl J (w6 (Lu (k:=i+j) (by omega)) ho1) J<|?_;refine br J J J (fun hc36=>?_) (fun hc36=>?_)
   .
    refine Ss 1 J ?_;refine aj 1 (.d (dD q.den)) J (by rw[GK.1 hc36];rfl) ?_;exact at_ () trivial
   .
    refine aj 1 (.d (dD q.den)) J (by rw[IY (fun e=>hc36 (GK.2 e))]) ?_;exact at_ () trivial
  .
   exact rz J (by rw[<-hq];rfl)
def KN(a:Rat):mkRat a.num a.den=a:=by simp[qL]
def Pu{a b:Rat}(h:b≠0):a/b=mkRat (a.num*zv (decide (b.num<0)) b.den) (a.den*b.num.natAbs):=by
 rw[mX];have ha:(a.num:Rat)/(a.den:Rat)=a:=by rw[<-mX,KN]
 have hb:(b.num:Rat)/(b.den:Rat)=b:=by rw[<-mX,KN]
 have h1:(a.den:Rat)≠0:=by have:=a.den_nz;exact_mod_cast this
 have h2:(b.den:Rat)≠0:=by have:=b.den_nz;exact_mod_cast this
 have h3:(b.num:Rat)≠0:=by
  intro e;rw[e] at hb;apply h;rw[<-hb];grind
 rw[cR,Rat.natCast_mul];by_cases q:b.num<0
 ·have e1:((zv (decide (b.num<0)) b.den:Int):Rat)= -(b.den:Rat):=by
   unfold zv;rw[if_pos (by simpa using q),qZ];rfl
  have e2:((b.num.natAbs:Nat):Rat)= -(b.num:Rat):=by
   have:((b.num.natAbs:Nat):Int)= -b.num:=by omega
   rw[<-qZ,<-this];rfl
  rw[e1,e2];generalize (a.num:Rat)=an at*;generalize (a.den:Rat)=ad at*;generalize (b.num:Rat)=bn at*;generalize (b.den:Rat)=bd at*;subst ha hb;grind
 ·have e1:((zv (decide (b.num<0)) b.den:Int):Rat)=(b.den:Rat):=by
   unfold zv;rw[if_neg (by simpa using q)];rfl
  have e2:((b.num.natAbs:Nat):Rat)=(b.num:Rat):=by
   have:((b.num.natAbs:Nat):Int)=b.num:=by omega
   rw[<-this];rfl
  rw[e1,e2];generalize (a.num:Rat)=an at*;generalize (a.den:Rat)=ad at*;generalize (b.num:Rat)=bn at*;generalize (b.den:Rat)=bd at*;subst ha hb;grind
def Zv{q:Rat}{n:Int}{d:Nat}(hd:0<d)(h:q*(d:Rat)=(n:Rat)):q.num.natAbs<=n.natAbs/\q.den<=d:=by
 have e:q=mkRat n d:=by
  rw[mX];have:(d:Rat)≠0:=by exact_mod_cast (by omega:d≠0)
  rw[<-h];grind
 rw[e,Rat.num_mkRat,Rat.den_mkRat,if_neg (by omega),if_neg (by omega)];exact⟨mY n (d.gcd n.natAbs:Nat),iR ..⟩
theorem BQ.of_frac{q:Rat}{n:Int}{d i:Nat}(hd:0<d)(h:q*(d:Rat)=(n:Rat))(hn:n.natAbs<2^i)(hdi:d<2^i):BQ q i:=by
 have:=Zv hd h;exact⟨by omega,by omega⟩
def OV{b:Rat}(h:b≠0):0<b.num.natAbs:=by
 have:b.num≠0:=fun e=>h (jM.1 e);omega
instance BQ.over (a b:Rat) (i j:Nat) [ha:BQ a i] [hb:BQ b j]:BQ (a/b) (i+j):=by
 by_cases h:b=0
 ·subst h
  rw[Rat.div_def,Rat.inv_zero,Rat.mul_zero];have h2:=ha.hd;have h3:0<a.den:=lx a;have h4:2^i*1<=2^i*2^j:=fV _ (fQ (by decide));rw[<-fJ] at h4;exact⟨by show 0<_;omega,by show 1<_;omega⟩
 ·rw[Pu h]
  have hb0:=OV h;refine uZ (gN (lx a) hb0) ?_ (nj ha.hd hb.hn);rw[iK,my];exact nj ha.hn hb.hd
def nH{n:Int}(h0: -4611686018427387904<=n)(h1:n<=4611686018427387904):PF GB prog 41 [.v (.int .i64 n)] (eQ (n:Rat)):=by
 refine fn func41 J J ntmps41 J J (fun C=>?_);refine cl J (Ja (by omega) (by omega)) J<|?_;exact rz J (by rw[Ak];rfl)
def oF{q:Rat}:PF GB prog 56 [eQ q] (vI q.num.sign):=by
 refine fn func56 J J ntmps56 J J (fun C=>?_);refine cl J By J<|?_;exact rz J J
def qb{q:Rat}:PF GB prog 80 [eQ q] (eQ (-q)):=by
 refine fn func80 J J ntmps80 J J (fun C=>?_);refine cl J Ag J<|?_;exact rz J (by unfold eQ;rw[mQ,oS];rfl)
def ll{a b:Rat}{i j:Nat}[ha:BQ a i][hb:BQ b j](hi:i<=20000000:=by decide)(hj:j<=20000000:=by decide):PF GB prog 79 [eQ a,eQ b] (eQ (a*b)):=by
 have had:=lx a;have hbd:=lx b;have hdp:=gN had hbd;have e1:=vP a.den had;have e2:=vP b.den hbd;refine fn func79 J J ntmps79 J J (fun C=>?_);refine cs 9 J J J (fun hg9=>?_) (fun hg9=>?_)
 .
  refine br J J J (fun hc14=>?_) (fun hc14=>?_)
  .
   refine cl J (qi (a:=a.num) (b:=b.num) (by omega) (by omega)) J<|?_;exact rz J (by rw[VE (e1.1 (by omega)) (e2.1 (by omega)),Ak];rfl)
  .
   refine cl J (qi (a:=a.num) (b:=b.num) (by omega) (by omega)) J<|cl J iC J<|cl J iC J<|cl J (pw (by omega) (by omega)) J<|?_;refine cl J (uA hdp (by omega) (by omega)) J<|?_;exact rz J (by rw[xa];rfl)
 .
  refine cl J (qi (a:=a.num) (b:=b.num) (by omega) (by omega)) J<|cl J iC J<|cl J iC J<|cl J (pw (by omega) (by omega)) J<|?_;refine cl J (uA hdp (by omega) (by omega)) J<|?_;exact rz J (by rw[xa];rfl)
def uj{a b:Rat}{i j:Nat}[ha:BQ a i][hb:BQ b j](hi:i<=20000000:=by decide)(hj:j<=20000000:=by decide):PF GB prog 78 [eQ a,eQ b] (eQ (a+b)):=by
 have had:=lx a;have hbd:=lx b;have hdp:=gN had hbd;have e1:=vP a.den had;have e2:=vP b.den hbd;refine fn func78 J J ntmps78 J J (fun C=>?_);refine cs 9 J J J (fun hg9=>?_) (fun hg9=>?_)
 .
  refine br J J J (fun hc14=>?_) (fun hc14=>?_)
  .
   refine cl J (Cv (by omega) (by omega)) J<|?_;exact rz J (by rw[U0 (e1.1 (by omega)) (e2.1 (by omega)),Ak];rfl)
  .
   refine cl J iC J<|cl J gP J<|cl J (qi (a:=a.num) (b:=zv false b.den) (by omega) (by omega)) J<|cl J iC J<|cl J gP J<|?_;refine cl J (qi (a:=b.num) (b:=zv false a.den) (by omega) (by omega)) J<|cl J (Cv (by omega) (by omega)) J<|cl J iC J<|?_;refine cl J iC J<|cl J (pw (by omega) (by omega)) J<|cl J (uA hdp (by omega) (by omega)) J<|?_;exact rz J (by rw[zr];rfl)
 .
  refine cl J iC J<|cl J gP J<|cl J (qi (a:=a.num) (b:=zv false b.den) (by omega) (by omega)) J<|cl J iC J<|?_;refine cl J gP J<|cl J (qi (a:=b.num) (b:=zv false a.den) (by omega) (by omega)) J<|cl J (Cv (by omega) (by omega)) J<|?_;refine cl J iC J<|cl J iC J<|cl J (pw (by omega) (by omega)) J<|cl J (uA hdp (by omega) (by omega)) J<|?_;exact rz J (by rw[zr];rfl)
def HQ{a b:Rat}{i j:Nat}[ha:BQ a i][hb:BQ b j](hi:i<=20000000:=by decide)(hj:j<=20000000:=by decide):PF GB prog 103 [eQ a,eQ b] (eQ (a-b)):=by
 refine fn func103 J J ntmps103 J J (fun C=>?_);refine cl J (qb (q:=b)) J<|cl J (uj (a:=a) (b:= -b) hi hj) J<|?_;exact rz J (by rw[Rat.sub_eq_add_neg];rfl)
def AN{a b:Rat}{i j:Nat}[ha:BQ a i][hb:BQ b j](hb0:b≠0)(hi:i<=20000000:=by decide)(hj:j<=20000000:=by decide):PF GB prog 81 [eQ a,eQ b] (eQ (a/b)):=by
 have hbp:=OV hb0;have hdp:=gN (lx a) hbp;refine fn func81 J J ntmps81 J J (fun C=>?_);refine cl J iC J<|cl J gP J<|cl J (qi (a:=a.num) (b:=zv (decide (b.num<0)) b.den) (by omega) (by omega)) J<|cl J iC J<|?_;refine cl J (pw (a:=a.den) (b:=b.num.natAbs) (by omega) (by omega)) J<|cl J (uA (x:=a.num*zv (decide (b.num<0)) b.den) (d:=a.den*b.num.natAbs) hdp (by omega) (by omega)) J<|?_;exact rz J (by rw[Pu hb0];rfl)
def ud{a b:Rat}{i j:Nat}[ha:BQ a i][hb:BQ b j](hi:i<=20000000:=by decide)(hj:j<=20000000:=by decide):PF GB prog 105 [eQ a,eQ b] (vI (bE a b)):=by
 refine fn func105 J J ntmps105 J J (fun C=>?_);refine cl J (HQ hi hj) J<|cl J oF J<|?_;exact rz J (by show vI _=vI _;rw[Cu])
def Sk:((2:Int):Rat)≠0:=by decide
instance BI.two:BI 2 2:=⟨by decide⟩
def Mk{a:Rat}{i:Nat}[ha:BQ a i](hi:i<=20000000:=by decide):PF GB prog 106 [eQ a] (eQ (a/2)):=by
 refine fn func106 J J ntmps106 J J (fun C=>?_);refine cl J (nH (n:=2) (by decide) (by decide)) J<|cl J (AN (a:=a) (b:=((2:Int):Rat)) Sk hi (by decide)) J<|?_;exact rz J J
def N2{m:Int}{g:Nat}(hg:(g:Int)∣m)(hb:m.natAbs<4611686018427387904):IntKind.i64.wrap (m.tdiv g)=m/g:=by
 rw[Int.tdiv_eq_ediv_of_dvd hg];have:=mY m g;exact Vy (by omega)
def tm(a b:Int):Int:=if(a*b).natAbs<4611686018427387904 then a*b else 0
def Dt(a b:Int):(tm a b).natAbs<4611686018427387904:=by unfold tm;split<;>omega
def Ab{a b:Int}(h:(a*b).natAbs<4611686018427387904):tm a b=a*b:=if_pos h
def MJ{a b:Int}(h: ¬(a*b).natAbs<4611686018427387904):DV.tp [vI 0, .v (.bool false)]= .tp [vI (tm a b),vB (decide ((a*b).natAbs<4611686018427387904))]:=by unfold tm;rw[if_neg h,decide_eq_false h];rfl
def KZ{a b:Int}{x:Int}(h:(a*b).natAbs<4611686018427387904)(e:x=a*b):DV.tp [vI x, .v (.bool true)]= .tp [vI (tm a b),vB (decide ((a*b).natAbs<4611686018427387904))]:=by unfold tm;rw[if_pos h,decide_eq_true h,e];rfl
def Mx(n:Nat):eI (n:Int)= .ag [.v (.bool false),dN n]:=by unfold eI;rw[decide_eq_false (by omega),lX]
def ZA{p q:Rat}(hp:p.den=1)(hq:q.den=1):rgcd p q=((Nat.gcd p.num.natAbs q.num.natAbs:Nat):Int):=by
 conv=>lhs;rw[AV hp,AV hq]
 exact Hj _ _
def Ts(q:Rat):mkRat (zv (decide (q.num<0)) q.den) q.num.natAbs=q⁻¹:=by
 rw[Rat.inv_def];by_cases h:q.num<0
 ·rw[decide_eq_true h];exact UZ h
 ·rw[decide_eq_false h,<-Rat.divInt_ofNat,mM (by omega)];rfl
instance BQ.inv (q:Rat) (i:Nat) [h:BQ q i]:BQ q⁻¹ i:=by
 have h1:=h.hn;have h2:=h.hd;have h3:=q.den_nz;rcases lU q.num 0 with k|k|k
 ·obtain⟨e1,e2⟩:=Kf k;exact⟨by omega,by omega⟩
 ·have e:q=0:=jM.1 k
  have e0:(0:Rat)⁻¹=0:=Rat.inv_zero;rw[e] at h1 h2⊢;rw[e0];exact⟨h1,h2⟩
 ·obtain⟨e1,e2⟩:=JW k;exact⟨by omega,by omega⟩
instance BQ.half:BQ (mkRat 1 2) 2:=⟨by decide,by decide⟩
def S6{x y:Nat}(hx:x<18446744073709551616)(hy:y<18446744073709551616):PF GB prog 250 [.v (.int .u64 (x:Nat)), .v (.int .u64 (y:Nat))] (.tp [.v (.int .u64 ((x*y/18446744073709551616:Nat):Int)), .v (.int .u64 ((x*y%18446744073709551616:Nat):Int))]):=fun G vs _ hv=>by
 obtain⟨v,m,rfl,h1,h2⟩:=b7.1 hv;obtain⟨u,m',rfl,h3,h4⟩:=b7.1 h2
 cases cH.1 h4
 rw[bi.1 h1,bi.1 h3];exact(QM hx hy).mono fun v G' _ h=>by subst h;exact nP.2 ⟨_,J, .cons (bi.2 J) (.cons (bi.2 J) .nil)⟩
def Of{a b:Nat}(ha:a<18446744073709551616)(hb:b<18446744073709551616):PF GB prog 246 [.v (.int .u64 (a:Nat)), .v (.int .u64 (b:Nat))] (.v (.int .u64 (Nat.gcd a b:Nat))):=by
 refine fn func246 J J ntmps246 J J (fun C=>?_);refine lp (X:=Nat×Nat) (fun⟨u,v⟩=>[(1, .d (.v (.int .u64 (v:Nat)))),(0, .d (.v (.int .u64 (u:Nat))))]) (fun⟨u,v⟩=>[]) (fun⟨u,v⟩=>u<18446744073709551616/\v<18446744073709551616/\Nat.gcd u v=Nat.gcd a b) (fun⟨u,v⟩=>v) (a,b) J ⟨ha,hb,J⟩ (fun _=>J) (fun⟨u,v⟩ hk=>?_);dsimp only at hk⊢;obtain⟨h1,h2,h3⟩:=hk;refine br (v1:=fun hc6=>by simp only[ah];exact⟨by omega,by kernel_rfl⟩) J J J (fun hc6=>?_) (fun hc6=>?_)
 .
  have hm:=cL u (show 0<v by omega);exact at_ (v,u%v) (by dsimp only;exact⟨⟨h2,by omega,by rw[<-h3,iZ u v,sT v u,iZ]⟩,hm⟩)
 .
  exact rz J (by rw[<-h3,show v=0 by omega,mJ];rfl)
def yo{m:Int}(h:m.natAbs<9223372036854775808):PF GB prog 70 [vI m] (eF (m:Rat)):=by
 refine fn func70 J J ntmps70 J J (fun C=>?_);refine cs 5 J J J (fun hg5=>?_) (fun hg5=>?_)
 .
  refine cl J (F5 (m:=m) (by omega) (by omega)) J<|rf (fu:=⟨0⟩) J J<|?_;refine aj 11 (.d (dN 1)) J (by unfold dN;rw[Bh];rfl) ?_;refine gx J<|cl J (uB (n:=decide (m<0)) (a:=m.natAbs) (i:=63) (h:=⟨h⟩) (d:=1)) J<|?_;exact rz J (by rw[lj,show mkRat m 1=(m:Rat) from Rat.mkRat_one ..];rfl)
 .
  refine br J J J (fun hc8=>?_) (fun hc8=>?_)
  .
   refine cl J (F5 (m:=m) (by omega) (by omega)) J<|rf (fu:=⟨0⟩) J J<|?_;refine aj 11 (.d (dN 1)) J (by unfold dN;rw[Bh];rfl) ?_;refine gx J<|cl J (uB (n:=decide (m<0)) (a:=m.natAbs) (i:=63) (h:=⟨h⟩) (d:=1)) J<|?_;exact rz J (by rw[lj,show mkRat m 1=(m:Rat) from Rat.mkRat_one ..];rfl)
  .
   exact jo J (NW (by omega))
def wQ{a b:Int}(ha:a.natAbs<4611686018427387904)(hb:b.natAbs<4611686018427387904):PF GB prog 234 [vI a,vI b] (.tp [vI (tm a b),vB (decide ((a*b).natAbs<4611686018427387904))]):=by
 have hab:=iK a b;refine fn func234 J J ntmps234 J J (fun C=>?_);refine cl J (wV (m:=a) (by omega)) J<|cl J (wV (m:=b) (by omega)) J<|cl J (S6 (x:=a.natAbs) (y:=b.natAbs) (by omega) (by omega)) J<|?_;refine cs 18 J J J (fun hg18=>?_) (fun hg18=>?_)
 .
  exact rz J (MJ (by omega))
 .
  refine br J J J (fun hc21=>?_) (fun hc21=>?_)
  .
   exact rz J (MJ (by omega))
  .
   refine bb J J J (fun hc26=>?_) (fun hc26=>?_)
   .
    have hs:=IZ a b;rw[if_neg (by simpa using hc26)] at hs;exact rz J (KZ (by omega) (by rw[hs,<-hab];omega))
   .
    have hs:=IZ a b;rw[if_pos (by simpa using hc26)] at hs;exact rz J (KZ (by omega) (by rw[hs,<-hab];omega))
def K8{m:Int}{d:Nat}(h:m.natAbs<4611686018427387904)(h0:0<d)(hd:d<4611686018427387904):PF GB prog 235 [vI m,vI (d:Nat)] (eF (mkRat m d)):=by
 have hg:Nat.gcd m.natAbs d<=d:=Nat.gcd_le_right _ h0;have hg0:0<Nat.gcd m.natAbs d:=nK _ h0;obtain⟨e1,e2⟩:=PK (m:=m) h0;have e3:=mY m (Nat.gcd m.natAbs d:Nat);have e4:=iR d (Nat.gcd m.natAbs d);have e5:=Nat.div_pos hg hg0;refine fn func235 J J ntmps235 J J (fun C=>?_);refine cl J (wV (m:=m) (by omega)) J<|cl J (Of (a:=m.natAbs) (b:=d) (by omega) (by omega)) J<|?_;refine br (fu1:=⟨4⟩) J J J (fun hc13=>?_) (fun hc13=>?_)
 .
  refine aj 16 (.d (vI (m/(Nat.gcd m.natAbs d:Nat)))) J (by rw[N2 (Int.dvd_natAbs.1 (qV.2 (iN _ _))) h];rfl) ?_;refine gx (fu:=⟨3⟩) J<|?_;refine aj 19 (.d (vI ((d/Nat.gcd m.natAbs d:Nat)))) J (by rw[N2 (qV.2 (jR _ _)) (by rw[lX];exact hd)];rfl) ?_;refine gx (hv:=by simp only[ah];exact⟨by kernel_rfl,by omega⟩) J<|?_;exact jo J (rO (fun k=>k ⟨by rw[e1];omega,by rw[e2];omega⟩) e1 (by rw[e2]) J)
 .
  exact jo J (by have h1:Nat.gcd m.natAbs d=1:=(by omega);rw[h1,sL] at e2;rw[h1,Int.natCast_one,Int.ediv_one] at e1;exact rO (fun k=>k ⟨by rw[e1];omega,by rw[e2];omega⟩) e1 (by rw[e2]) J)
def q6{p q:Rat}{i j:Nat}[h:BQ p i][k:BQ q j](hi:i<=100000000:=by decide)(hj:j<=100000000:=by decide):PF GB prog 204 [eF p,eF q] (eF (p*q)):=by
 refine fn (fu:=⟨8⟩) func204 J J ntmps204 J J (fun C=>?_);refine mg (X:=Unit) (fun _=>[(2, .ov 2 0),(3, .ov 3 0),(4, .ov 4 0)]) (fun _=>[(2,some (.o 101 [.d (vI (dz p)), .d (vI (dq p)), .d (dl p)] true)),(3,some (.o 101 [.d (vI (dz q)), .d (vI (dq q)), .d (dl q)] true)),(4,some (.o 101 [.d (.v (.int .i64 0)), .d (.v (.int .i64 0)), .d (.v (.pointer none))] true))]) (fun _=>True) [2,3,4] [2,3,4] rfl ?_ (fun _=>J) (fun _ _=>?_)
 .
  refine gx J<|?_;refine cs 12 J J J (fun hg12=>?_) (fun hg12=>?_)
  .
   refine br (fu1:=⟨4⟩) J J J (fun hc16=>?_) (fun hc16=>?_)
   .
    have hp:=rg hg12;have hq:=rg hc16;have p1:=l9 hp;have p2:=nq hp;have p3:=o5 hp;have p4:=o4 hp;have p5:=p.den_nz;have q1:=l9 hq;have q2:=nq hq;have q3:=o5 hq;have q4:=o4 hq;have q5:=q.den_nz;refine aj 19 (.d (vI p.num)) J (by rw[p1]) ?_;refine gx (fu:=⟨2⟩) J<|?_;refine aj 21 (.d (vI q.num)) J (by rw[q1]) ?_;refine gx J<|cl (fu:=⟨12⟩) J (wQ (a:=p.num) (b:=q.num) (by omega) (by omega)) J<|?_;refine aj 28 (.d (vI (p.den:Nat))) J (by congr 3;omega) ?_;refine gx (fu:=⟨3⟩) J<|?_;refine aj 31 (.d (vI (q.den:Nat))) J (by congr 3;omega) ?_;refine gx J<|cl J (wQ (a:=(p.den:Nat)) (b:=(q.den:Nat)) (by omega) (by omega)) J<|?_;refine csd 36 J J J (fun hg36=>?_) (fun hg36=>?_)
    .
     refine bd (fu1:=⟨3⟩) J J J (fun hc38=>?_) (fun hc38=>?_)
     .
      have hd1:p.den*q.den<4611686018427387904:=by omega
      refine aj 39 (.d (vI (p.num*q.num))) J (by rw[Ab hg36]) ?_;refine gx (fu:=⟨1⟩) J<|?_;refine aj 40 (.d (vI ((p.den*q.den:Nat)))) J (by rw[Ab hc38];rfl) ?_;refine gx J<|cl J (K8 (m:=p.num*q.num) (d:=p.den*q.den) hg36 (gN (by omega) (by omega)) hd1) J<|?_;exact rz J (by rw[<-xa];rfl)
     .
      exact at_ () trivial
    .
     exact at_ () trivial
   .
    exact at_ () trivial
  .
   exact at_ () trivial
 .
  refine cl J (ur (q:=p) (by omega)) J<|cl J (ur (q:=q) (by omega)) J<|cl J (Ff (a:=p.num) (b:=q.num) (by omega) (by omega)) J<|?_;refine cl J (oP (q:=p) (by omega)) J<|cl J (oP (q:=q) (by omega)) J<|cl J (wC (a:=p.den) (b:=q.den) (by omega) (by omega)) J<|?_;refine cl J (uB (n:=decide (p.num*q.num<0)) (a:=(p.num*q.num).natAbs) (d:=p.den*q.den) (i:=i+j) (j:=i+j) (by omega) (by omega)) J<|?_;exact rz J (by rw[lj,<-xa];rfl)
def w5{p q:Rat}{i j:Nat}[h:BQ p i][k:BQ q j](hi:i<=100000000:=by decide)(hj:j<=100000000:=by decide):PF GB prog 203 [eF p,eF q] (eF (p+q)):=by
 refine fn (fu:=⟨8⟩) func203 J J ntmps203 J J (fun C=>?_);refine mg (X:=Unit) (fun _=>[(2, .ov 2 0),(3, .ov 3 0),(4, .ov 4 0)]) (fun _=>[(2,some (.o 101 [.d (vI (dz p)), .d (vI (dq p)), .d (dl p)] true)),(3,some (.o 101 [.d (vI (dz q)), .d (vI (dq q)), .d (dl q)] true)),(4,some (.o 101 [.d (.v (.int .i64 0)), .d (.v (.int .i64 0)), .d (.v (.pointer none))] true))]) (fun _=>True) [2,3,4] [2,3,4] rfl ?_ (fun _=>J) (fun _ _=>?_)
 .
  refine gx J<|?_;refine cs 16 J J J (fun hg16=>?_) (fun hg16=>?_)
  .
   refine br (fu1:=⟨1⟩) J J J (fun hc20=>?_) (fun hc20=>?_)
   .
    have hp:=rg hg16;have hq:=rg hc20;have p1:=l9 hp;have p2:=nq hp;have p3:=o5 hp;have p4:=o4 hp;have p5:=p.den_nz;have q1:=l9 hq;have q2:=nq hq;have q3:=o5 hq;have q4:=o4 hq;have q5:=q.den_nz;refine mg (fu:=⟨4⟩) (X:=Unit) (fun _=>[(2, .ov 2 0),(3, .ov 3 0),(4, .ov 4 0)]) (fun _=>[(2,some (.o 101 [.d (vI (dz p)), .d (vI (dq p)), .d (dl p)] true)),(3,some (.o 101 [.d (vI (dz q)), .d (vI (dq q)), .d (dl q)] true)),(4,some (.o 101 [.d (.v (.int .i64 0)), .d (.v (.int .i64 0)), .d (.v (.pointer none))] true))]) (fun _=>True) [2,3,4] [2,3,4] rfl ?_ (fun _=>J) (fun _ _=>?_)
    .
     refine gx J<|?_;refine cs 24 J J J (fun hg24=>?_) (fun hg24=>?_)
     .
      refine br (fu1:=⟨4⟩) J J J (fun hc28=>?_) (fun hc28=>?_)
      .
       refine aj 30 (.d (vI p.num)) J (by rw[p1]) ?_;refine gx (fu:=⟨2⟩) J<|?_;refine aj 32 (.d (vI q.num)) J (by rw[q1]) ?_;refine gx J<|cl J (yo (m:=p.num+q.num) (by omega)) J<|?_;exact rz J (by rw[AV (q:=p) (by omega),AV (q:=q) (by omega),<-oK];rfl)
      .
       exact at_ () trivial
     .
      exact at_ () trivial
    .
     refine aj 37 (.d (vI p.num)) J (by rw[p1]) ?_;refine gx (fu:=⟨3⟩) J<|?_;refine aj 40 (.d (vI (q.den:Nat))) J (by congr 3;omega) ?_;refine gx J<|cl (fu:=⟨11⟩) J (wQ (a:=p.num) (b:=(q.den:Nat)) (by omega) (by omega)) J<|?_;refine aj 46 (.d (vI q.num)) J (by rw[q1]) ?_;refine gx (fu:=⟨3⟩) J<|?_;refine aj 49 (.d (vI (p.den:Nat))) J (by congr 3;omega) ?_;refine gx J<|cl (fu:=⟨12⟩) J (wQ (a:=q.num) (b:=(p.den:Nat)) (by omega) (by omega)) J<|?_;refine aj 56 (.d (vI (p.den:Nat))) J (by congr 3;omega) ?_;refine gx (fu:=⟨3⟩) J<|?_;refine aj 59 (.d (vI (q.den:Nat))) J (by congr 3;omega) ?_;refine gx J<|cl (fu:=⟨3⟩) J (wQ (a:=(p.den:Nat)) (b:=(q.den:Nat)) (by omega) (by omega)) J<|?_;have t1:=Dt p.num (q.den:Nat);have t2:=Dt q.num (p.den:Nat);have t3:=Dt (p.den:Nat) (q.den:Nat);refine gx J<|?_;refine csd 67 J J J (fun hg67=>?_) (fun hg67=>?_)
     .
      refine csd 70 J J J (fun hg70=>?_) (fun hg70=>?_)
      .
       refine csd 73 J J J (fun hg73=>?_) (fun hg73=>?_)
       .
        refine cs 77 J J J (fun hg77=>?_) (fun hg77=>?_)
        .
         refine br (fu1:=⟨3⟩) J J J (fun hc80=>?_) (fun hc80=>?_)
         .
          have u1:=Ab hg67;have u2:=Ab hg70;have u3:=Ab hg73;have hd1:p.den*q.den<4611686018427387904:=by omega
          refine aj 81 (.d (vI (p.num*(q.den:Nat)+q.num*(p.den:Nat)))) J (by rw[u1,u2];rfl) ?_;refine gx (fu:=⟨1⟩) J<|?_;refine aj 82 (.d (vI ((p.den*q.den:Nat)))) J (by rw[u3];rfl) ?_;refine gx J<|cl J (K8 (m:=p.num*(q.den:Nat)+q.num*(p.den:Nat)) (d:=p.den*q.den) (by omega) (gN (by omega) (by omega)) hd1) J<|?_;exact rz J (by rw[<-zr];rfl)
         .
          exact at_ () trivial
        .
         exact at_ () trivial
       .
        exact at_ () trivial
      .
       exact at_ () trivial
     .
      exact at_ () trivial
   .
    exact at_ () trivial
  .
   exact at_ () trivial
 .
  refine cl J (ur (q:=p) (by omega)) J<|cl (fu:=⟨1⟩) J (oP (q:=q) (by omega)) J<|?_;refine aj 88 (.d (eI (q.den:Nat))) J (by rw[Mx]) ?_;refine gx J<|cl J (Ff (a:=p.num) (b:=(q.den:Nat)) (by omega) (by omega)) J<|cl J (ur (q:=q) (by omega)) J<|cl (fu:=⟨1⟩) J (oP (q:=p) (by omega)) J<|?_;refine aj 94 (.d (eI (p.den:Nat))) J (by rw[Mx]) ?_;refine gx J<|cl J (Ff (a:=q.num) (b:=(p.den:Nat)) (by omega) (by omega)) J<|cl J (X9 (a:=p.num*(q.den:Nat)) (b:=q.num*(p.den:Nat)) (i:=i+j) (j:=j+i) (by omega) (by omega)) J<|?_;refine cl J (oP (q:=p) (by omega)) J<|cl J (oP (q:=q) (by omega)) J<|cl J (wC (a:=p.den) (b:=q.den) (by omega) (by omega)) J<|?_;refine cl J (uB (n:=decide (p.num*(q.den:Nat)+q.num*(p.den:Nat)<0)) (a:=(p.num*(q.den:Nat)+q.num*(p.den:Nat)).natAbs) (d:=p.den*q.den) (i:=i+j+(j+i)+1) (j:=i+j) (by omega) (by omega)) J<|?_;exact rz J (by rw[lj,<-zr];rfl)
def vq{p q:Rat}{i j:Nat}[h:BQ p i][k:BQ q j](hi:i<=100000000:=by decide)(hj:j<=100000000:=by decide):PF GB prog 168 [eF p,eF q] (eF (p-q)):=by
 refine fn func168 J J ntmps168 J J (fun C=>?_);refine cl J (td (q:=q) (by omega)) J<|cl J (w5 (p:=p) (q:= -q) (by omega) (by omega)) J<|?_;exact rz J (by rw[<-Rat.sub_eq_add_neg];rfl)
def AF{q:Rat}{i:Nat}[h:BQ q i](hi:i<=400000000:=by decide):PF GB prog 229 [eF q] (eF q⁻¹):=by
 refine fn func229 J J ntmps229 J J (fun C=>?_);refine br (v1:=fun hc3=>by simp only[ah];exact⟨⟨hc3,hc3⟩,hc3⟩) J J J (fun hc3=>?_) (fun hc3=>?_)
 .
  refine cl J (uB (n:=decide (q.num<0)) (a:=q.den) (d:=q.num.natAbs) (by omega) (by omega)) J<|?_;exact rz J (by rw[Ts];rfl)
 .
  have q1:=l9 (m8 hc3);have q2:=nq (m8 hc3);have q3:=o5 (m8 hc3);have q4:=o4 (m8 hc3);have q5:=q.den_nz;refine br J J J (fun hc26=>?_) (fun hc26=>?_)
  .
   exact jo rfl (by obtain⟨e1,e2⟩:=Kf (q:=q) (by omega);exact rO (fun k=>k ⟨by omega,by omega⟩) (by omega) (by omega) rfl)
  .
   refine br J J J (fun hc39=>?_) (fun hc39=>?_)
   .
    exact jo J (by rw[jM.1 (show q.num=0 by omega),Rat.inv_zero];exact v7)
   .
    exact jo rfl (by obtain⟨e1,e2⟩:=JW (q:=q) (by omega);exact rO (fun k=>k ⟨by omega,by omega⟩) (by omega) (by omega) rfl)
def xq{p q:Rat}{i j:Nat}[h:BQ p i][k:BQ q j](hi:i<=100000000:=by decide)(hj:j<=100000000:=by decide):PF GB prog 201 [eF p,eF q] (eF (p/q)):=by
 refine fn func201 J J ntmps201 J J (fun C=>?_);refine cl J (AF (q:=q) (by omega)) J<|cl J (q6 (p:=p) (q:=q⁻¹) (by omega) (by omega)) J<|?_;exact rz J (by rw[Rat.div_def];rfl)
def Wp{G:Gh}{q r:DV}{t:List DV}{vs:List Value}(h: ∀y,Is G r y->Is G q y)(hv:IsLs G (r::t) vs):IsLs G (q::t) vs:=by
 obtain⟨y,m,rfl,h1,h2⟩:=b7.1 hv;exact .cons (h _ h1) h2
def Zq{G:Gh}{a q r:DV}{t:List DV}{vs:List Value}(h: ∀y,Is G r y->Is G q y)(hv:IsLs G (a::r::t) vs):IsLs G (a::q::t) vs:=by
 obtain⟨y,m,rfl,h1,h2⟩:=b7.1 hv;exact .cons h1 (Wp h h2)
def R2{q:Rat}{i:Nat}[h:BQ q i](hi:i<=100000000:=by decide):PF GB prog 204 [eF q, .ag [vI 1,vI 1, .v (.pointer none)]] (eF (q*mkRat 1 2)):=
 (q6 (p:=q) (q:=mkRat 1 2) hi).ofI fun G vs hv=>Zq (fun y hy=>rO (q:=mkRat 1 2) (fun k=>k ⟨by decide,by decide⟩) (by decide) (by decide) J G y hy) hv
def X4{q:Rat}{i:Nat}[h:BQ q i](hi:i<=100000000:=by decide):PF GB prog 148 [eF q] (eF (q*mkRat 1 2)):=by
 refine fn func148 J J ntmps148 J J (fun C=>?_);refine cl J (R2 (q:=q) (by omega)) J<|?_;exact rz J J
def lv{p q:Rat}{i j:Nat}[h:BQ p i][k:BQ q j](hi:i<=100000000:=by decide)(hj:j<=100000000:=by decide):PF GB prog 116 [eF p,eF q] (vI (bE p q)):=by
 refine fn func116 J J ntmps116 J J (fun C=>?_);refine cs 8 J J J (fun hg8=>?_) (fun hg8=>?_)
 .
  refine cs 13 J J J (fun hg13=>?_) (fun hg13=>?_)
  .
   refine br J J J (fun hc19=>?_) (fun hc19=>?_)
   .
    have hp:=rg hg8;have hq:=rg hg13;have p1:=l9 hp;have p2:=nq hp;have p3:=o5 hp;have p4:=o4 hp;have p5:=p.den_nz;have q1:=l9 hq;have q2:=nq hq;have q3:=o5 hq;have q4:=o4 hq;have q5:=q.den_nz;have hl:=Ms (a:=p) (b:=q) (by omega);have hr:=Ms (a:=q) (b:=p) (by omega);unfold bE;refine br J J J (fun hc20=>?_) (fun hc20=>?_)
    .
     exact rz J (by rw[if_pos (hl.2 (by omega))];rfl)
    .
     refine br J J J (fun hc26=>?_) (fun hc26=>?_)
     .
      exact rz J (by rw[if_neg (fun e=>by have:=hl.1 e;omega),if_pos (hr.2 (by omega))];rfl)
     .
      exact rz J (by rw[if_neg (fun e=>by have:=hl.1 e;omega),if_neg (fun e=>by have:=hr.1 e;omega)];rfl)
   .
    refine cl J (vq (p:=p) (q:=q) (by omega) (by omega)) J<|cl J (l8 (q:=p-q) (by omega)) J<|?_;exact rz J (by rw[Cu];rfl)
  .
   refine cl J (vq (p:=p) (q:=q) (by omega) (by omega)) J<|cl J (l8 (q:=p-q) (by omega)) J<|?_;exact rz J (by rw[Cu];rfl)
 .
  refine cl J (vq (p:=p) (q:=q) (by omega) (by omega)) J<|cl J (l8 (q:=p-q) (by omega)) J<|?_;exact rz J (by rw[Cu];rfl)
def Ke{p q:Rat}{i j:Nat}[h:BQ p i][k:BQ q j](hi:i<=100000000:=by decide)(hj:j<=100000000:=by decide):PF GB prog 225 [eF p,eF q] (vB (decide (p=q))):=by
 refine fn func225 J J ntmps225 J J (fun C=>?_);refine cl J (lv (p:=p) (q:=q) hi hj) J<|?_;exact rz J (by show DV.v (.bool (decide _))= .v (.bool _);congr 2;exact decide_eq_decide.2 (Ad p q))
def Xy{p q:Rat}{i j:Nat}[h:BQ p i][k:BQ q j](hi:i<=100000000:=by decide)(hj:j<=100000000:=by decide):PF GB prog 145 [eF p,eF q] (eF (if q<p then q else p)):=by
 refine fn func145 J J ntmps145 J J (fun C=>?_);refine cl J (lv (p:=q) (q:=p) hj hi) J<|?_;refine br J J J (fun hc8=>?_) (fun hc8=>?_)
 .
  exact rz J (by rw[if_pos ((Nj q p).1 hc8)];rfl)
 .
  exact rz J (by rw[if_neg (fun e=>hc8 ((Nj q p).2 e))];rfl)
def zt{p q:Rat}{i j:Nat}[h:BQ p i][k:BQ q j](hi:i<=100000000:=by decide)(hj:j<=100000000:=by decide):PF GB prog 228 [eF p,eF q] (eF (rgcd p q)):=by
 refine fn (fu:=⟨8⟩) func228 J J ntmps228 J J (fun C=>?_);refine mg (X:=Unit) (fun _=>[(2, .ov 2 0),(3, .ov 3 0),(4, .ov 4 0)]) (fun _=>[(2,some (.o 101 [.d (vI (dz p)), .d (vI (dq p)), .d (dl p)] true)),(3,some (.o 101 [.d (vI (dz q)), .d (vI (dq q)), .d (dl q)] true)),(4,some (.o 101 [.d (.v (.int .i64 0)), .d (.v (.int .i64 0)), .d (.v (.pointer none))] true))]) (fun _=>True) [2,3,4] [2,3,4] rfl ?_ (fun _=>J) (fun _ _=>?_)
 .
  refine gx J<|?_;refine cs 10 J J J (fun hg10=>?_) (fun hg10=>?_)
  .
   refine cs 15 J J J (fun hg15=>?_) (fun hg15=>?_)
   .
    have hp:=rg hg10;have hq:=rg hg15;have p1:=l9 hp;have p2:=nq hp;have p3:=o5 hp;have p4:=o4 hp;have p5:=p.den_nz;have q1:=l9 hq;have q2:=nq hq;have q3:=o5 hq;have q4:=o4 hq;have q5:=q.den_nz;refine cs 20 J J J (fun hg20=>?_) (fun hg20=>?_)
    .
     refine br (fu1:=⟨4⟩) J J J (fun hc24=>?_) (fun hc24=>?_)
     .
      have hg:=YQ p3 q3;refine aj 26 (.d (vI p.num)) J (by rw[p1]) ?_;refine gx J<|cl (fu:=⟨2⟩) J (wV (m:=p.num) (by omega)) J<|?_;refine aj 29 (.d (vI q.num)) J (by rw[q1]) ?_;refine gx J<|cl J (wV (m:=q.num) (by omega)) J<|cl (hv:=by simp only[ah];exact⟨by omega,by kernel_rfl⟩) J (Of (a:=p.num.natAbs) (b:=q.num.natAbs) (by omega) (by omega)) J<|?_;exact jo J (by rw[ZA (p:=p) (q:=q) (by omega) (by omega)];exact NW (by rw[lX];exact hg))
     .
      exact at_ () trivial
    .
     exact at_ () trivial
   .
    exact at_ () trivial
  .
   exact at_ () trivial
 .
  refine cl J (oP (q:=p) (by omega)) J<|cl J (oP (q:=q) (by omega)) J<|cl J (wC (a:=p.den) (b:=q.den) (by omega) (by omega)) J<|?_;refine cl J (ur (q:=p) (by omega)) J<|cl J (oP (q:=q) (by omega)) J<|cl J (wC (a:=p.num.natAbs) (b:=q.den) (by omega) (by omega)) J<|?_;refine cl J (ur (q:=q) (by omega)) J<|cl J (oP (q:=p) (by omega)) J<|cl J (wC (a:=q.num.natAbs) (b:=p.den) (by omega) (by omega)) J<|?_;refine cl J (HY (a:=p.num.natAbs*q.den) (b:=q.num.natAbs*p.den) (i:=i+j) (j:=j+i) (by omega) (by omega)) J<|cl J (uB (n:=false) (a:=Nat.gcd (p.num.natAbs*q.den) (q.num.natAbs*p.den)) (d:=p.den*q.den) (i:=i+j+(j+i)) (j:=i+j) (by omega) (by omega)) J<|?_;exact rz J J
end Go.Sx
end
section
namespace Go.Sx
open Go
def crossI(l m:ab):Int:=l.a*m.b-m.a*l.b
def meetX(l m:ab):Int:=l.b*m.c-m.b*l.c
def meetY(l m:ab):Int:=m.a*l.c-l.a*m.c
def kh(l m:ab):aa:=if crossI l m=0 then⟨0,0⟩ else⟨(meetX l m:Rat)/(crossI l m:Rat),(meetY l m:Rat)/(crossI l m:Rat)⟩
def ci(l:ab)(p:aa):Rat:=p.dot l.dir/l.dir.dot l.dir
def GM(l:ab):l.dir.dot l.dir=l.nor.dot l.nor:=by
 simp only[ab.dir,ab.nor,aa.dot];grind
def vD{l:ab}(h:l.Ne):0<l.dir.dot l.dir:=by rw[GM];exact r4 h
def P2(l m:ab):((crossI l m:Int):Rat)=(l.a:Rat)*m.b-(m.a:Rat)*l.b:=by
 unfold crossI;rw[lR,cR,cR]
def Q3(l m:ab):((meetX l m:Int):Rat)=(l.b:Rat)*m.c-(m.b:Rat)*l.c:=by
 unfold meetX;rw[lR,cR,cR]
def T5(l m:ab):((meetY l m:Int):Rat)=(m.a:Rat)*l.c-(l.a:Rat)*m.c:=by
 unfold meetY;rw[lR,cR,cR]
def XS(l m:ab):l.cutK m= -((crossI l m:Int):Rat):=by
 rw[P2];simp only[ab.cutK,ab.nor,ab.dir,aa.dot];grind
def NV{l:ab}:(⟨-((l.c:Rat)/l.dir.dot l.dir)*(l.a:Rat), -((l.c:Rat)/l.dir.dot l.dir)*(l.b:Rat)⟩:aa)=l.base:=by
 unfold ab.base;rw[GM];simp only[ab.nor,aa.scale,aa.mk.injEq];constructor<;>grind
def r5(l:ab)(t:Rat):aD l.base l.dir t=l.at t:=by
 simp only[aD,ab.at,aa.add,aa.scale,aa.mk.injEq];constructor<;>grind
def Th{l m:ab}(hl:l.Ne)(h:crossI l m≠0):ci l (kh l m)= -(l.cutC m/l.cutK m):=by
 have hd:((crossI l m:Int):Rat)≠0:=fun e=>h (jK.1 e);have hn:=vD hl;obtain⟨q,q1,q2⟩:=ym hl;rw[XS];unfold ci kh ab.cutC;rw[if_neg h,q2,lG,Q3,T5];have hc:=P2 l m;rw[GM] at hn⊢;simp only[ab.dir,ab.nor,aa.dot] at hn q1⊢;generalize ((crossI l m:Int):Rat)=d at*;generalize (l.a:Rat)=a at*;generalize (l.b:Rat)=b at*;generalize (l.c:Rat)=c at*;generalize (m.a:Rat)=x at*;generalize (m.b:Rat)=y at*;generalize (m.c:Rat)=z at*;have hn':a*a+b*b≠0:=by grind
 have e:((b*z-y*c)/d*b+(x*c-a*z)/d* -a)=((b*z-y*c)*b-(x*c-a*z)*a)/d:=by grind
 rw[e];have k1:(b*z-y*c)*b-(x*c-a*z)*a=(a*a+b*b)*(x*(a*q)+y*(b*q)+z):=by grind
 rw[k1];grind
def Ue{l m:ab}(hl:l.Ne)(h:crossI l m≠0):ci l (kh l m)*((crossI l m*(l.a*l.a+l.b*l.b):Int):Rat)=((meetX l m*l.b-meetY l m*l.a:Int):Rat):=by
 have hd:((crossI l m:Int):Rat)≠0:=fun e=>h (jK.1 e);have hn:=vD hl;unfold ci kh;rw[if_neg h];simp only[cR,lR,oK];simp only[ab.dir,aa.dot] at hn⊢;generalize ((crossI l m:Int):Rat)=d at*;generalize ((meetX l m:Int):Rat)=x at*;generalize ((meetY l m:Int):Rat)=y at*;generalize (l.a:Rat)=a at*;generalize (l.b:Rat)=b at*;have hn':b*b+ -a* -a≠0:=by grind
 grind
def UL(l m:ab)(t:List ab)(v:aA):ig l (m::t) v=if m=l then ig l t v else if l.cutB v m then ig l t (l.cutV v m) else none:=rfl
def Ra(v:aA)(t:Rat):aA:=if v.nl=true\/0<bE t v.lo then⟨t,v.hi,false,v.nh⟩ else v
def Uz(v:aA)(t:Rat):aA:=if v.nh=true\/bE t v.hi<0 then⟨v.lo,t,v.nl,false⟩ else v
structure tj (v:aA):Prop where
 lo:v.nl=true->v.lo=0
 hi:v.nh=true->v.hi=0
def CP(a b:Rat):0<bE a b↔b<a:=by
 unfold bE;split
 ·constructor
  ·intro h;exact absurd h (by decide)
  ·intro h;grind
 ·split
  ·exact⟨fun _=>by assumption,fun _=>by decide⟩
  ·constructor
   ·intro h;exact absurd h (by decide)
   ·intro h;exact absurd h (by assumption)
def vN(a b:Rat):bE a b<0↔a<b:=by
 unfold bE;split
 ·exact⟨fun _=>by assumption,fun _=>by decide⟩
 ·split
  ·constructor
   ·intro h;exact absurd h (by decide)
   ·intro h;grind
  ·constructor
   ·intro h;exact absurd h (by decide)
   ·intro h;exact absurd h (by assumption)
def tj.all:tj aA.all:=⟨fun _=>J,fun _=>J⟩
end Go.Sx
end
section
namespace Go.Sx
open Go Go.Proofs Tryz
variable {GB:Gh}

def cT:Tr->List DV
 | .leaf b=>[.v (.bool true), .v (.bool b), .v (.bool false), .sl [], .v (.bool false), .sl [], .v (.bool false), .sl [], .v (.pointer none), .v (.pointer none)]
 | .node l x y=>[.v (.bool false), .v (.bool false), .v (.bool (decide (l.a<0))),dN l.a.natAbs, .v (.bool (decide (l.b<0))),dN l.b.natAbs, .v (.bool (decide (l.c<0))),dN l.c.natAbs, .pt (cT x), .pt (cT y)]
def eT(t:Tr):DV:= .pt (cT t)
def eN(n:NQ):DV:= .ag [.v (.bool (decide (n.l.a<0))),dN n.l.a.natAbs, .v (.bool (decide (n.l.b<0))),dN n.l.b.natAbs, .v (.bool (decide (n.l.c<0))),dN n.l.c.natAbs, .v (.int .i64 n.a), .v (.int .i64 n.b)]
def eA(t:Tr):DV:= .ag [.v (.int .i64 (t.num 0)), .sl ((t.wr 0).map eN)]
structure BL (l:ab) (k:Nat):Prop where
 a:l.a.natAbs<2^k
 b:l.b.natAbs<2^k
 c:l.c.natAbs<2^k
structure LS (l:ab):Prop where
 ok:l.ok
 a:l.a.natAbs<=4
 b:l.b.natAbs<=4
 c:l.c.natAbs<=40000
def X5{xs:List ab}{i:Nat}(h:i<xs.length):(xs.map eL)[(i:Int).toNat]? =some (eL xs[i]):=by simp[h]
def R7(xs:List ab):(xs.map eL).length=xs.length:=aK ..
def ab.ext'{l m:ab}(h1:l.a=m.a)(h2:l.b=m.b)(h3:l.c=m.c):l=m:=by cases l;cases m;simp_all
instance:DecidableEq NQ:=fun x y=>decidable_of_iff (x.l=y.l/\x.a=y.a/\x.b=y.b) (by
 cases x;cases y;simp)
def oA(ls:List ab):dG 6 (ls.map eL):=fun d hd=>by
 obtain⟨n,_,rfl⟩:=bZ.1 hd;exact⟨rfl,rfl⟩
def tn{z:Int}:PF GB prog 82 [eI z] (eQ (z:Rat)):=by
 refine fn func82 J J ntmps82 J J (fun C=>?_);exact rz J (by rw[Ak];rfl)
def KJ{l:ab}:PF GB prog 150 [eL l] (eL l.rev):=by
 refine fn func150 J J ntmps150 J J (fun C=>?_);refine cl J Ag J<|cl J Ag J<|cl J Ag J<|?_;exact rz J J
class LB (l:ab):Prop where bl:BL l 96
instance LB.a (l:ab) [h:LB l]:BI l.a 96:=⟨h.bl.a⟩
instance LB.b (l:ab) [h:LB l]:BI l.b 96:=⟨h.bl.b⟩
instance LB.c (l:ab) [h:LB l]:BI l.c 96:=⟨h.bl.c⟩
class aq (p:aa) (k:outParam Nat):Prop where
 x:BQ p.x k
 y:BQ p.y k
instance aq.ix (p:aa) (k:Nat) [h:aq p k]:BQ p.x k:=h.x
instance aq.iy (p:aa) (k:Nat) [h:aq p k]:BQ p.y k:=h.y
instance aq.dir (l:ab) [LB l]:aq l.dir 97:=⟨inferInstanceAs (BQ (l.b:Rat) 97),inferInstanceAs (BQ (-(l.a:Rat)) 97)⟩
instance BQ.dot (p q:aa) (i j:Nat) [aq p i] [aq q j]:BQ (p.dot q) (i+j+(i+j)+1):=inferInstanceAs (BQ (p.x*q.x+p.y*q.y) _)
instance BQ.cross (p q:aa) (i j:Nat) [aq p i] [aq q j]:BQ (p.cross q) (i+j+(i+j)+1):=inferInstanceAs (BQ (p.x*q.y-p.y*q.x) _)
instance aq.mov (p q:aa) (c:Rat) (i j k:Nat) [aq p i] [aq q j] [BQ c k]:aq (aD p q c) (i+(k+j)+1):=⟨inferInstanceAs (BQ (p.x+c*q.x) _),inferInstanceAs (BQ (p.y+c*q.y) _)⟩
instance BQ.value (l:ab) (p:aa) (i:Nat) [LB l] [aq p i]:BQ (l.value p) (96+1+i+(96+1+i)+1+(96+1)+1):=inferInstanceAs (BQ ((l.a:Rat)*p.x+(l.b:Rat)*p.y+(l.c:Rat)) _)
def OD{l:ab}(h:l.Ne):l.dir.dot l.dir≠0:=by have:=vD h;grind
def wU{l:ab}:PF GB prog 39 [eL l] (eP l.dir):=by
 refine fn func39 J J ntmps39 J J (fun C=>?_);refine cl J tn J<|cl J tn J<|cl J qb J<|?_;exact rz J J
def D8{p q:aa}{i j:Nat}[hp:aq p i][hq:aq q j](hi:i<=200000:=by decide)(hj:j<=200000:=by decide):PF GB prog 83 [eP p,eP q] (eQ (p.dot q)):=by
 refine fn func83 J J ntmps83 J J (fun C=>?_);refine cl J (ll (by omega) (by omega)) J<|cl J (ll (by omega) (by omega)) J<|cl J (uj (by omega) (by omega)) J<|?_;exact rz J J
def xV{p q:aa}{i j:Nat}[hp:aq p i][hq:aq q j](hi:i<=200000:=by decide)(hj:j<=200000:=by decide):PF GB prog 57 [eP p,eP q] (eQ (p.cross q)):=by
 refine fn func57 J J ntmps57 J J (fun C=>?_);refine cl J (ll (by omega) (by omega)) J<|cl J (ll (by omega) (by omega)) J<|cl J (HQ (by omega) (by omega)) J<|?_;exact rz J J
def u6{p q:aa}{c:Rat}{i j k:Nat}[hp:aq p i][hq:aq q j][hc:BQ c k](hi:i<=19000000:=by decide)(hj:j<=9000000:=by decide)(hk:k<=9000000:=by decide):PF GB prog 37 [eP p,eQ c,eP q] (eP (aD p q c)):=by
 refine fn func37 J J ntmps37 J J (fun C=>?_);refine cl J (ll (by omega) (by omega)) J<|cl J (uj (by omega) (by omega)) J<|cl J (ll (by omega) (by omega)) J<|cl J (uj (by omega) (by omega)) J<|?_;exact rz J J
def A6{l:ab}{p:aa}{i:Nat}[hl:LB l][hp:aq p i](hi:i<=400000:=by decide):PF GB prog 104 [eL l,eP p] (eQ (l.value p)):=by
 refine fn func104 J J ntmps104 J J (fun C=>?_);refine cl J (tn (z:=l.a)) J<|cl J (ll (by omega) (by omega)) J<|cl J (tn (z:=l.b)) J<|cl J (ll (by omega) (by omega)) J<|?_;refine cl J (uj (by omega) (by omega)) J<|cl J (tn (z:=l.c)) J<|cl J (uj (by omega) (by omega)) J<|?_;exact rz J J
def K1{l:ab}{p:aa}{i:Nat}[hl:LB l][hp:aq p i](hi:i<=400000:=by decide):PF GB prog 99 [eL l,eP p] (vI (l.value p).num.sign):=by
 refine fn func99 J J ntmps99 J J (fun C=>?_);refine cl J (A6 hi) J<|cl J oF J<|?_;exact rz J J
def Y0{l:ab}[hl:LB l](hn:l.Ne):PF GB prog 38 [eL l] (eP l.base):=by
 refine fn func38 J J ntmps38 J J (fun C=>?_);refine cl J wU J<|cl J (tn (z:=l.c)) J<|cl J D8 J<|cl J (AN (OD hn)) J<|cl J qb J<|cl J (tn (z:=l.a)) J<|?_;refine cl J ll J<|cl J (tn (z:=l.b)) J<|cl J ll J<|?_;exact rz J (by rw[<-NV];rfl)
instance aq.base (l:ab) [LB l]:aq l.base 900:=by
 rw[<-NV];constructor
 ·exact BQ.mono (inferInstance:BQ (-((l.c:Rat)/l.dir.dot l.dir)*(l.a:Rat)) _) (by decide)
 ·exact BQ.mono (inferInstance:BQ (-((l.c:Rat)/l.dir.dot l.dir)*(l.b:Rat)) _) (by decide)
def P4{l:ab}{t:Rat}{k:Nat}[hl:LB l][ht:BQ t k](hn:l.Ne)(hk:k<=200000:=by decide):PF GB prog 15 [eL l,eQ t] (eP (l.at t)):=by
 refine fn func15 J J ntmps15 J J (fun C=>?_);refine cl J (Y0 hn) J<|cl J wU J<|cl J (u6 (by decide) (by decide) (by omega)) J<|?_;exact rz J (by rw[<-r5];rfl)
def Kb{l:ab}{p:aa}{k:Nat}[hl:LB l][hp:aq p k](hn:l.Ne)(hk:k<=200000:=by decide):PF GB prog 77 [eL l,eP p] (eQ (ci l p)):=by
 refine fn func77 J J ntmps77 J J (fun C=>?_);refine cl J wU J<|cl J (D8 (by omega) (by decide)) J<|cl J (D8 (by omega) (by decide)) J<|cl J (AN (OD hn) (by omega) (by decide)) J<|?_;exact rz J J
instance BI.crossI (l m:ab) [LB l] [LB m]:BI (crossI l m) 385:=inferInstanceAs (BI (l.a*m.b-m.a*l.b) 385)
instance BI.meetX (l m:ab) [LB l] [LB m]:BI (meetX l m) 385:=inferInstanceAs (BI (l.b*m.c-m.b*l.c) 385)
instance BI.meetY (l m:ab) [LB l] [LB m]:BI (meetY l m) 385:=inferInstanceAs (BI (m.a*l.c-l.a*m.c) 385)
instance aq.imeet (l m:ab) [LB l] [LB m]:aq (kh l m) 772:=by
 unfold kh;split
 ·exact⟨BQ.mono (k:=1) ⟨by decide,by decide⟩ (by decide),BQ.mono (k:=1) ⟨by decide,by decide⟩ (by decide)⟩
 ·exact⟨inferInstanceAs (BQ ((meetX l m:Rat)/(crossI l m:Rat)) 772),inferInstanceAs (BQ ((meetY l m:Rat)/(crossI l m:Rat)) 772)⟩
def fg(l m:ab):Int:=if(l.a-m.a).sign≠0 then(l.a-m.a).sign else if(l.b-m.b).sign≠0 then(l.b-m.b).sign else(l.c-m.c).sign
def Te(l m:ab):fg l m=0↔l=m:=by
 unfold fg;constructor
 ·intro h
  split at h
  ·contradiction
  ·split at h
   ·contradiction
   ·rename_i h1 h2
    have a1:=iY.1 (Decidable.not_not.1 h1);have a2:=iY.1 (Decidable.not_not.1 h2);have a3:=iY.1 h;exact ab.ext' (by omega) (by omega) (by omega)
 ·rintro rfl
  simp
def J9{l m:ab}[hl:LB l][hm:LB m]:PF GB prog 98 [eL l,eL m] (vI (fg l m)):=by
 refine fn func98 J J ntmps98 J J (fun C=>?_);refine cl J (HM (a:=l.a) (b:=m.a)) J<|?_;refine br J J J (fun hc13=>?_) (fun hc13=>?_)
 .
  exact rz J (by show vI _=_;unfold fg;rw[if_pos hc13])
 .
  refine cl J (HM (a:=l.b) (b:=m.b)) J<|?_;refine br J J J (fun hc21=>?_) (fun hc21=>?_)
  .
   exact rz J (by show vI _=_;unfold fg;rw[if_neg hc13,if_pos hc21])
  .
   refine cl J (HM (a:=l.c) (b:=m.c)) J<|?_;exact rz J (by show vI _=_;unfold fg;rw[if_neg hc13,if_neg hc21])
def HW{v:aa}:PF GB prog 152 [eP v] (vI v.half):=by
 refine fn func152 J J ntmps152 J J (fun C=>?_);refine cl J (oF (q:=v.x)) J<|cl J (oF (q:=v.y)) J<|?_;refine cs 13 J J J (fun hg13=>?_) (fun hg13=>?_)
 .
  refine br J J J (fun hc16=>?_) (fun hc16=>?_)
  .
   exact rz J (by show vI _=vI _;unfold aa.half;generalize v.x.num.sign=sx at*;generalize v.y.num.sign=sy at*;congr 1;(repeat' split)<;>omega)
  .
   refine cs 19 J J J (fun hg19=>?_) (fun hg19=>?_)
   .
    exact rz J (by show vI _=vI _;unfold aa.half;generalize v.x.num.sign=sx at*;generalize v.y.num.sign=sy at*;congr 1;(repeat' split)<;>omega)
   .
    refine cs 22 J J J (fun hg22=>?_) (fun hg22=>?_)
    .
     refine br J J J (fun hc26=>?_) (fun hc26=>?_)
     .
      exact rz J (by show vI _=vI _;unfold aa.half;generalize v.x.num.sign=sx at*;generalize v.y.num.sign=sy at*;congr 1;(repeat' split)<;>omega)
     .
      exact rz J (by show vI _=vI _;unfold aa.half;generalize v.x.num.sign=sx at*;generalize v.y.num.sign=sy at*;congr 1;(repeat' split)<;>omega)
    .
     exact rz J (by show vI _=vI _;unfold aa.half;generalize v.x.num.sign=sx at*;generalize v.y.num.sign=sy at*;congr 1;(repeat' split)<;>omega)
 .
  refine cs 19 J J J (fun hg19=>?_) (fun hg19=>?_)
  .
   exact rz J (by show vI _=vI _;unfold aa.half;generalize v.x.num.sign=sx at*;generalize v.y.num.sign=sy at*;congr 1;(repeat' split)<;>omega)
  .
   refine cs 22 J J J (fun hg22=>?_) (fun hg22=>?_)
   .
    refine br J J J (fun hc26=>?_) (fun hc26=>?_)
    .
     exact rz J (by show vI _=vI _;unfold aa.half;generalize v.x.num.sign=sx at*;generalize v.y.num.sign=sy at*;congr 1;(repeat' split)<;>omega)
    .
     exact rz J (by show vI _=vI _;unfold aa.half;generalize v.x.num.sign=sx at*;generalize v.y.num.sign=sy at*;congr 1;(repeat' split)<;>omega)
   .
    exact rz J (by show vI _=vI _;unfold aa.half;generalize v.x.num.sign=sx at*;generalize v.y.num.sign=sy at*;congr 1;(repeat' split)<;>omega)
def M0(z:Int): -1<=z.sign/\z.sign<=1:=by
 rcases lU z 0 with h|h|h
 ·rw[fX h];omega
 ·rw[h];decide
 ·rw[fK h];omega
def O9{u v:aa}{i j:Nat}[hu:aq u i][hv:aq v j](hi:i<=200000:=by decide)(hj:j<=200000:=by decide):PF GB prog 101 [eP u,eP v] (vI (ce u v)):=by
 refine fn func101 J J ntmps101 J J (fun C=>?_);refine cl J (HW (v:=u)) J<|cl J (HW (v:=v)) J<|?_;refine br J J J (fun hc13=>?_) (fun hc13=>?_)
 .
  refine br J J J (fun hc16=>?_) (fun hc16=>?_)
  .
   exact rz J (by show vI _=vI _;unfold ce;rw[if_pos hc16])
  .
   exact rz J (by show vI _=vI _;unfold ce;rw[if_neg hc16,if_pos (by omega)])
 .
  refine cl J (xV hi hj) J<|cl (hv:=by simp only[ah];exact(by have:=M0 (u.cross v).num;omega)) J oF J<|?_;exact rz J (by show vI _=vI _;unfold ce;rw[if_neg (by omega),if_neg (by omega)])
instance BQ.i1:BQ (((1:Int):Rat)) 2:=⟨by decide,by decide⟩
def eV(v:aA):DV:= .ag [.v (.bool (decide (v.lo.num<0))),dN v.lo.num.natAbs,dD v.lo.den, .v (.bool (decide (v.hi.num<0))),dN v.hi.num.natAbs,dD v.hi.den, .v (.bool v.nl), .v (.bool v.nh)]
def DC(v:aA):Rat:=if v.nl=true/\v.nh=true then 0 else if v.nl=true then v.hi-1 else if v.nh=true then v.lo+1 else(v.lo+v.hi)/2
theorem BQ.of_fracI{q:Rat}{n D:Int}{i:Nat}(hd:0<D.natAbs)(h:q*((D.natAbs:Nat):Rat)=(n:Rat))(hn:BI n i)(hD:BI D i):BQ q i:=BQ.of_frac hd h hn.h hD.h
theorem Av{m:Int}{i j:Nat}(h:BI m i)(hij:i<=j):BI m j:=⟨dV h.h (bK (by decide) hij)⟩
theorem YE{l m:ab}[LB l][LB m](hn:l.Ne)(h:crossI l m≠0):BQ (ci l (kh l m)) 1200:=by
 have e:=Ue hn h;have hA:BI (crossI l m*(l.a*l.a+l.b*l.b)) _:=inferInstance;have hB:BI (meetX l m*l.b-meetY l m*l.a) _:=inferInstance;have hne:crossI l m*(l.a*l.a+l.b*l.b)≠0:=by
  intro q;rcases rS.1 q with q|q
  ·exact h q
  ·have h1:=vD hn
   simp only[ab.dir,aa.dot] at h1;have h2:((l.a*l.a+l.b*l.b:Int):Rat)=((0:Int):Rat):=by rw[q]
   rw[oK,cR,cR] at h2;have h3:((0:Int):Rat)=0:=J;rw[h3] at h2;grind
 have hA':=Av (j:=1200) hA (by decide);have hB':=Av (j:=1200) hB (by decide);generalize crossI l m*(l.a*l.a+l.b*l.b)=D at*;generalize meetX l m*l.b-meetY l m*l.a=M at*;by_cases hD:0<D
 ·refine BQ.of_fracI (n:=M) (D:=D) (by omega) ?_ hB' hA'
  rw[<-e];congr 1;have:((D.natAbs:Nat):Int)=D:=by omega
  rw[<-this];rfl
 ·refine BQ.of_fracI (n:= -M) (D:=D) (by omega) ?_ (BI.neg M 1200 (h:=hB')) hA'
  rw[qZ,<-e];have:((D.natAbs:Nat):Rat)= -(D:Rat):=by
   have h1:((D.natAbs:Nat):Int)= -D:=by omega
   rw[<-qZ,<-h1];rfl
  rw[this];grind
def pe(l:ab):List ab->aA->aA×Bool
 |[],v=>(v,true)
 |m::t,v=>if m=l then pe l t v else if l.cutB v m=true then pe l t (l.cutV v m) else(l.cutV v m,false)
def D3{l:ab}: ∀{c:List ab} {v:aA},(pe l c v).2=(ig l c v).isSome
 |[],v=>rfl
 |m::t,v=>by
  rw[pe,UL];split
  ·exact D3
  ·split
   ·exact D3
   ·rfl
structure Stp (l:ab) (c:List ab) (k:Nat) (v:aA):Prop where
 le:k<=c.length
 p:ig l (c.drop k) v=ig l c aA.all
 e:pe l (c.drop k) v=pe l c aA.all
 z:tj v
 lo:BQ v.lo 1200
 hi:BQ v.hi 1200
def aHz(l m:ab)(v:aA):aA:=if 0<(m.dir.cross l.dir).num.sign then Ra v (ci l (kh l m)) else Uz v (ci l (kh l m))
def pf(l:ab):DV:= .ag [vI (dz (l.a:Rat)),vI (dq (l.a:Rat)),dl (l.a:Rat),vI (dz (l.b:Rat)),vI (dq (l.b:Rat)),dl (l.b:Rat),vI (dz (l.c:Rat)),vI (dq (l.c:Rat)),dl (l.c:Rat)]
def eZ(p:aa):DV:= .ag [vI (dz p.x),vI (dq p.x),dl p.x,vI (dz p.y),vI (dq p.y),dl p.y]
def eW(v:aA):DV:= .ag [vI (dz v.lo),vI (dq v.lo),dl v.lo,vI (dz v.hi),vI (dq v.hi),dl v.hi, .v (.bool v.nl), .v (.bool v.nh)]
def Mc:List Int->Int
 |[]=>0
 |a::t=>if a≠0 then a else Mc t
theorem aq.nor(l:ab)[LB l]:aq l.nor 97:=⟨inferInstanceAs (BQ (l.a:Rat) 97),inferInstanceAs (BQ (l.b:Rat) 97)⟩
attribute [instance] aq.nor
instance aq.scale (p:aa) (c:Rat) (i k:Nat) [aq p i] [BQ c k]:aq (p.scale c) (i+k):=⟨inferInstanceAs (BQ (p.x*c) _),inferInstanceAs (BQ (p.y*c) _)⟩
instance aq.add (p q:aa) (i j:Nat) [aq p i] [aq q j]:aq (p.add q) (i+j+1):=⟨inferInstanceAs (BQ (p.x+q.x) _),inferInstanceAs (BQ (p.y+q.y) _)⟩
instance LB.revA (l:ab) [h:LB l]:LB l.rev:=⟨⟨by rw[show l.rev.a= -l.a from J,iS];exact h.bl.a,by rw[show l.rev.b= -l.b from J,iS];exact h.bl.b,by rw[show l.rev.c= -l.c from J,iS];exact h.bl.c⟩⟩
def Es{l:ab}:PF GB prog 198 [pf l] (eZ l.nor):=by
 refine fn func198 J J ntmps198 J J (fun C=>?_);exact rz J J
def AS{l:ab}[hl:LB l]:PF GB prog 138 [pf l] (eZ l.dir):=by
 refine fn func138 J J ntmps138 J J (fun C=>?_);refine cl J (td (q:=(l.a:Rat))) J<|?_;exact rz J J
def qn{p q:aa}{i j:Nat}[hp:aq p i][hq:aq q j](hi:i<=40000000:=by decide)(hj:j<=40000000:=by decide):PF GB prog 199 [eZ p,eZ q] (eF (p.dot q)):=by
 refine fn func199 J J ntmps199 J J (fun C=>?_);refine cl J (q6 (p:=p.x) (q:=q.x) (by omega) (by omega)) J<|cl J (q6 (p:=p.y) (q:=q.y) (by omega) (by omega)) J<|cl J (w5 (p:=p.x*q.x) (q:=p.y*q.y) (by omega) (by omega)) J<|?_;exact rz J J
def Ou{p q:aa}{i j:Nat}[hp:aq p i][hq:aq q j](hi:i<=40000000:=by decide)(hj:j<=40000000:=by decide):PF GB prog 193 [eZ p,eZ q] (eF (p.cross q)):=by
 refine fn func193 J J ntmps193 J J (fun C=>?_);refine cl J (q6 (p:=p.x) (q:=q.y) (by omega) (by omega)) J<|cl J (q6 (p:=p.y) (q:=q.x) (by omega) (by omega)) J<|cl J (vq (p:=p.x*q.y) (q:=p.y*q.x) (by omega) (by omega)) J<|?_;exact rz J J
def Aa{p:aa}{c:Rat}{i j:Nat}[hp:aq p i][hc:BQ c j](hi:i<=40000000:=by decide)(hj:j<=40000000:=by decide):PF GB prog 147 [eZ p,eF c] (eZ (p.scale c)):=by
 refine fn func147 J J ntmps147 J J (fun C=>?_);refine cl J (q6 (p:=p.x) (q:=c) (by omega) (by omega)) J<|cl J (q6 (p:=p.y) (q:=c) (by omega) (by omega)) J<|?_;exact rz J J
def B8{p q:aa}{i j:Nat}[hp:aq p i][hq:aq q j](hi:i<=40000000:=by decide)(hj:j<=40000000:=by decide):PF GB prog 146 [eZ p,eZ q] (eZ (p.add q)):=by
 refine fn func146 J J ntmps146 J J (fun C=>?_);refine cl J (w5 (by omega) (by omega)) J<|cl J (w5 (by omega) (by omega)) J<|?_;exact rz J J
def Q8{l:ab}[hl:LB l]:PF GB prog 227 [pf l] (eZ l.base):=by
 refine fn func227 J J ntmps227 J J (fun C=>?_);refine cl J Es J<|cl J (td (q:=(l.c:Rat))) J<|cl J (qn (p:=l.nor) (q:=l.nor)) J<|cl J (xq (p:= -(l.c:Rat)) (q:=l.nor.dot l.nor)) J<|?_;refine cl J (Aa (p:=l.nor)) J<|?_;exact rz J J
def NH{l:ab}{p:aa}{i:Nat}[hl:LB l][hp:aq p i](hi:i<=10000000:=by decide):PF GB prog 191 [pf l,eZ p] (eF (l.value p)):=by
 refine fn func191 J J ntmps191 J J (fun C=>?_);refine cl J (Es (l:=l)) J<|cl J (qn (p:=l.nor) (q:=p) (by omega) (by omega)) J<|cl J (w5 (p:=l.nor.dot p) (q:=(l.c:Rat)) (by omega) (by omega)) J<|?_;exact rz J J
def EN{l:ab}{p:aa}{i:Nat}[hl:LB l][hp:aq p i](hi:i<=10000000:=by decide):PF GB prog 139 [pf l,eZ p] (vI (l.value p).num.sign):=by
 refine fn func139 J J ntmps139 J J (fun C=>?_);refine cl J (NH (l:=l) (p:=p) hi) J<|cl J (l8 (q:=l.value p) (by omega)) J<|?_;exact rz J J
def OC{l:ab}{t:Rat}{i:Nat}[hl:LB l][ht:BQ t i](hi:i<=10000000:=by decide):PF GB prog 192 [pf l,eF t] (eZ (l.at t)):=by
 refine fn func192 J J ntmps192 J J (fun C=>?_);refine cl J (Q8 (l:=l)) J<|cl J (AS (l:=l)) J<|cl J (Aa (p:=l.dir) (c:=t) (by omega) (by omega)) J<|cl J (B8 (p:=l.base) (q:=l.dir.scale t) (by omega) (by omega)) J<|?_;exact rz J J
instance aA.meet_lo (v w:aA) (i j:Nat) [h1:BQ v.lo i] [h3:BQ w.lo j]:BQ (v.meet w).lo (i+j):=by
 have a:=h1.mono (pV i j);have b:=h3.mono (Nat.le_add_left j i);unfold aA.meet;dsimp only;(repeat' split)<;>assumption
instance aA.meet_hi (v w:aA) (i j:Nat) [h1:BQ v.hi i] [h3:BQ w.hi j]:BQ (v.meet w).hi (i+j):=by
 have a:=h1.mono (pV i j);have b:=h3.mono (Nat.le_add_left j i);unfold aA.meet;dsimp only;(repeat' split)<;>assumption
instance BQ.cutK (l m:ab) [LB l] [LB m]:BQ (l.cutK m) 400:=BQ.mono (inferInstance:BQ (m.nor.dot l.dir) _) (by decide)
instance BQ.cutC (l m:ab) [LB l] [LB m]:BQ (l.cutC m) 2500:=BQ.mono (inferInstance:BQ (m.value l.base) _) (by decide)
def Cw(p q:aa):DV:= .ag [vI (dz p.x),vI (dq p.x),dl p.x,vI (dz p.y),vI (dq p.y),dl p.y,vI (dz q.x),vI (dq q.x),dl q.x,vI (dz q.y),vI (dq q.y),dl q.y]
def vU{C:az}{n:Nat}{Q0:Exit->Act->World->Prop}{fr:au}{own:aB}{ops:Array Oper}{r:List Oper}{K:List Kt}(k:Nat){l:List DV}(hl:aF fr k=some (.d (.pt l)))(h:ak prog GB C n Q0 ((k, .ep l)::fr) own (.ops ops r K)):ak prog GB C n Q0 fr own (.ops ops r K):=
 nf hl (fun ρ G y hy=>by
  obtain⟨b,m,rfl,h1,h2⟩:=r9.1 hy;have e:=h2.len;exact⟨b,0,m,m,J,h1,by rw[mv m 0 l.length (by omega),iT,<-e,dX],h2⟩) h
def zF{G:Gh}{m:List Value}(h:IsLs G [vI 0,vI 0, .v (.pointer none)] m):IsLs G [vI (dz 0),vI (dq 0),dl 0] m:=by
 obtain⟨l,e,k⟩:=fe.1 (v7 G (.agg ⟨m⟩) (fe.2 ⟨m,rfl,h⟩))
 cases e;exact k
section
variable {GB:Gh} {C:az} {n:Nat} {Q0:Exit->Act->World->Prop} {fr fr':au} {own own':aB} {cf cf':Cf} {vc:List Prop} {ops:Array Oper} {r:List Oper} {K:List Kt}
def ww(k:Nat){d:DV}(hl:aF fr k=some (.d d))(h: ∀(GB':Gh) (pv:Value),bp GB GB'->Is GB' d pv->ak prog GB' C n Q0 ((k, .d (.v pv))::fr) own (.ops ops r K)):ak prog GB C n Q0 fr own (.ops ops r K):=by
 refine⟨fun ρ G ov a w r0=>?_⟩;obtain⟨y,hy,hy'⟩:=r0.fx k _ hl;refine(h G y r0.gb hy').run ρ G ov a w ⟨bp.refl _,r0.h,r0.sz,r0.df,fun j f e=>?_,r0.bx,r0.dj,r0.fxd⟩;rw[iD] at e;split at e
 ·rename_i hj
  cases e;subst hj
  exact⟨y,hy,(bi (G:=G)).2 J⟩
 ·exact r0.fx j f e
def aHc(fr:au)(cf:Cf):Option (FuncId×Value):=match bH fr cf with
 |some ⟨_, .makeFunc (.func f) ⟨[x]⟩ ⟨[]⟩,_,_,_,_⟩=>match aE (bj fr cf) x with
  |some (.d (.v pv))=>some (f,pv)
  |_=>none
 |_=>none
def aHl(fr:au)(cf:Cf):Option (FuncId×List Value×List DV):=match bH fr cf with
 |some ⟨_, .call ⟨.value fo,args,_⟩,_,_,_,_⟩=>match aE (bj fr cf) fo,evDs (bj fr cf) args.toList with
  |some (.d (.v (.func (.func f) ⟨c1⟩ ⟨[]⟩))),some ds=>some (f,c1,ds)
  |_,_=>none
 |_=>none
def Ib:List (Nat×Operand)->Option (List (Nat×Value))
 |[]=>some []
 |(i, .const v)::t=>match Ib t with
  |some l=>some ((i,v)::l)
  |none=>none
 |_::_=>none
def aHr(cf:Cf)(fr:au):Option (TypeId×List (Nat×Value)):=match bH fr cf with
 |some ⟨_, .build t ⟨ps⟩,_,_,_,_⟩=>match Ib ps with
  |some vs=>some (t,vs)
  |none=>none
 |_=>none
def K2(fr:au)(own:aB)(cf:Cf):Option (TypeId×Nat×Nat×List FX×Bool×FX):=match bH fr cf with
 |some ⟨_, .store t x y,_,_,_,_⟩=>match aE (bj fr cf) x with
  |some (.ov nm 0)=>match f7 fr own cf nm with
   |some (.o ty cs lo)=>match aE (bj fr cf) y with
    |some fv=>some (t,nm,ty,cs,lo,fv)
    |_=>none
   |_=>none
  |_=>none
 |_=>none
def J7[fu:Fu]{t nm ty len e:Nat}{cs:List FX}{lo:Bool}{fv:FX}{j:TypeInfo}(h:K2 fr own cf=some (t,nm,ty,cs,lo,fv))(hu:prog.underlying t=some (.array len e))(hj:prog.info? t=some j)(hc:fv.okc=true/\fv.cells.length=j.size/\j.size=cs.length)
  (hgo:cd tt n fu.n fr own cf .un [(nm,some (.o ty (uR cs 0 fv.cells) lo))] []=⟨vc,fr',own',cf'⟩)(k:ak prog GB C n Q0 fr' own' cf')
  (hv:ah vc:=by first|exact trivial|(simp only[ah];kernel_rfl)|(simp only[ah];omega)):ak prog GB C n Q0 fr own cf:=by
 unfold K2 at h;split at h<;>try (cases h;done)
 rename_i hh;split at h<;>try (cases h;done)
 rename_i e1;split at h<;>try (cases h;done)
 rename_i hb;split at h<;>cases h;rename_i e2;obtain⟨c1,c2,c3⟩:=hc;have:pz prog t j.size:=⟨fun w=>wT hu w,fun w=>sG hj w⟩;refine us hh ?_ hgo hv k;intro hd tl tb K s1 s2 hf hk;refine⟨fun ρ G ov a w r Q=>?_⟩;have r1:=r.mono s1 s2;obtain⟨p,h1,h2⟩:=r1.ev e1;obtain⟨q,h3,h4⟩:=r1.ev e2;obtain⟨b,m,rfl,ha,h5,h6⟩:=r1.own h2 hb;obtain⟨h7,h8⟩:=h4.cells c1;obtain⟨own',u1,u2,u3⟩:=iB.of_mem (cs':=de m 0 (aI q)) h6;exact EM h1 h3 u1 (by rw[h7.len,c2]) (by rw[h5.len,c3];omega) (eK.2 h8) hd (fun a' w' rl=>r.wrote (m:=m) (s2 _ _ hb) ha (h5.ov h7) u2 u3 hk rl) a w Q ⟨r.h,r.sz,cG a,r.df⟩
def Pb(fr:au)(cf:Cf):Option PO:=match bH fr cf with
 |some ⟨some d, .buildSlice t len parts,_,_,_,_⟩=>match cF tt t with
  |some ⟨.sl e s _,_,_,_⟩=>match uD (bj fr cf) 0 parts.toList with
   |some ds=>bif Cn s ds&&(Nat.beq parts.toList.length len&&(Nat.ble (len*s) 1000&&Nat.blt 0 (len*s))) then some ⟨d,e,s,ds⟩ else none
   |none=>none
  |_=>none
 |_=>none
def VT[fu:Fu]{d e s:Nat}{ds:List DV}{i:TI}{z:DV}(h:Pb fr cf=some ⟨d,e,s,ds⟩)(hi:ek prog e=some i)(hz:mG i=some z)(hs:Nat.beq z.cells.length s=true)(hgo:cd tt n fu.n fr own cf (.d (.sl ds)) [(d,none)] [d]=⟨vc,fr',own',cf'⟩)(k:ak prog GB C n Q0 fr' own' cf')
  (hv:ah vc:=by first|exact trivial|(simp only[ah];kernel_rfl)|(simp only[ah];omega)):ak prog GB C n Q0 fr own cf:=by
 unfold Pb at h;split at h<;>try (cases h;done)
 rename_i hh;split at h<;>try (cases h;done)
 rename_i hT;split at h<;>try (cases h;done)
 rename_i hr;rw[cond_eq_ite] at h;split at h<;>cases h;rename_i hc;simp only[bJ] at hc;have:=jH (eh _ _ hT) J;exact us hh ((Io hi hz hs hr hc.1 hc.2.1 hc.2.2.1 hc.2.2.2).frzRow J) hgo hv k
def O4(fr:au)(cf:Cf):Option (TypeId×List DV):=match bH fr cf with
 |some ⟨_, .load t x,_,_,_,_⟩=>match aE (bj fr cf) x with
  |some (.ep l)=>some (t,l)
  |_=>none
 |_=>none
def SP:TypeDesc->Bool
 | .struct _=>false
 | .array _ _=>false
 |_=>true
def PG[fu:Fu]{t:TypeId}{d:DV}{l:List DV}{D:TypeDesc}{j:TypeInfo}(h:O4 fr cf=some (t,d::l))(hu:prog.underlying t=some D)(hD:SP D=true)(hj:prog.info? t=some j)(hs:j.size=1)
  (hgo:cd tt n fu.n fr own cf (.d d) [] []=⟨vc,fr',own',cf'⟩)(k:ak prog GB C n Q0 fr' own' cf')
  (hv:ah vc:=by first|exact trivial|(simp only[ah];kernel_rfl)|(simp only[ah];omega)):ak prog GB C n Q0 fr own cf:=by
 unfold O4 at h;split at h<;>try (cases h;done)
 rename_i hh;split at h<;>cases h;rename_i hx;have:ld prog t:=⟨fun w=>by(rw[wT hu w];cases D<;>first|rfl|(cases hD;done)),fun w=>by rw[sG hj w,hs]⟩;exact us hh (.x1 hx fun ρ G ov a w y _ r h1 h2=>by
  obtain⟨b,o,ms,m,rfl,hb,ht,hm⟩:=h2;obtain⟨l',h3,h4⟩:=hm.get (i:=0) rfl;have:=E6 ht (i:=0) (Nat.succ_pos _);rw[eX] at this;exact⟨l',h4,AM h1 hb (by rw[this];exact h3)⟩) hgo hv k
end
instance BQ.i1':BQ (1:Rat) 2:=⟨by decide,by decide⟩
instance BQ.i2':BQ (2:Rat) 2:=⟨by decide,by decide⟩
instance aq.at (l:ab) (t:Rat) (k:Nat) [LB l] [BQ t k]:aq (l.at t) (900+(k+97)+1):=by
 rw[<-r5];infer_instance
def S9{q:Rat}(h: ¬q.num.sign=0):q≠0:=fun e=>h ((fD q).2 e)
def d6(d:aa):aa:=⟨-d.y,d.x⟩
instance aq.turn (d:aa) (k:Nat) [aq d k]:aq (d6 d) k:=⟨inferInstanceAs (BQ (-d.y) k),inferInstanceAs (BQ d.x k)⟩
def pk(p v:aa)(m:ab):Rat:= -(m.value p/(m.value (aD p v ((1:Int):Rat))-m.value p))
def lD(p v:aa)(m:ab)(s:Rat):Rat:=if(m.value (aD p v ((1:Int):Rat))-m.value p).num.sign=0 then s else if(m.value p).num.sign=0 then s else if 0<(pk p v m).num.sign then(if bE (pk p v m/2) s<0 then pk p v m/2 else s) else s
def jG(p v:aa):List ab->Rat->Rat
 |[],s=>s
 |m::t,s=>jG p v t (lD p v m s)
def js(c:List ab)(p v:aa):aa:=aD p v (jG p v c ((1:Int):Rat))
def yf{c:List ab}{p v:aa}{k:Nat}{s s' r:Rat}{m:ab}(h:jG p v (c.drop k) s=r)(hk:k<c.length)(hm:m=c[k])(e:lD p v m s=s'):jG p v (c.drop (k+1)) s'=r:=by
 rw[bL hk] at h;rw[<-h,jG,<-hm,e]
def wL(c:List ab):List ab->aa
 |[]=>⟨0,0⟩
 |m::t=>if(pe m c aA.all).2=true then js c (m.at (DC (pe m c aA.all).1)) (d6 m.dir) else wL c t
def lcq(l m:ab):Int:=Mc [bE l.a m.a,bE l.b m.b,bE l.c m.c]
def MP{p:aa}{i:Nat}[hp:aq p i](hi:i<=10000000:=by decide):PF GB prog 249 [eZ p] (vI p.half):=by
 refine fn func249 J J ntmps249 J J (fun C=>?_);refine cl J (l8 (q:=p.y) (by omega)) J<|?_;refine cs 10 J J J (fun hg10=>?_) (fun hg10=>?_)
 .
  exact rz J (by unfold aa.half;(repeat' split)<;>first|rfl|(exfalso;omega))
 .
  refine cs 13 J J J (fun hg13=>?_) (fun hg13=>?_)
  .
   refine cl J (l8 (q:=p.x) (by omega)) J<|?_;refine br J J J (fun hc7=>?_) (fun hc7=>?_)
   .
    exact rz J (by unfold aa.half;(repeat' split)<;>first|rfl|(exfalso;omega))
   .
    refine cs 23 J J J (fun hg23=>?_) (fun hg23=>?_)
    .
     exact rz J (by unfold aa.half;(repeat' split)<;>first|rfl|(exfalso;omega))
    .
     refine cl J (l8 (q:=p.x) (by omega)) J<|?_;refine br J J J (fun hc20=>?_) (fun hc20=>?_)
     .
      exact rz J (by unfold aa.half;(repeat' split)<;>first|rfl|(exfalso;omega))
     .
      exact rz J (by unfold aa.half;(repeat' split)<;>first|rfl|(exfalso;omega))
  .
   refine cs 23 J J J (fun hg23=>?_) (fun hg23=>?_)
   .
    exact rz J (by unfold aa.half;(repeat' split)<;>first|rfl|(exfalso;omega))
   .
    refine cl J (l8 (q:=p.x) (by omega)) J<|?_;refine br J J J (fun hc20=>?_) (fun hc20=>?_)
    .
     exact rz J (by unfold aa.half;(repeat' split)<;>first|rfl|(exfalso;omega))
    .
     exact rz J (by unfold aa.half;(repeat' split)<;>first|rfl|(exfalso;omega))
def Kr{u v:aa}{i j:Nat}[hp:aq u i][hq:aq v j](hi:i<=10000000:=by decide)(hj:j<=10000000:=by decide):PF GB prog 231 [eZ u,eZ v] (vI (ce u v)):=by
 refine fn func231 J J ntmps231 J J (fun C=>?_);refine cl J (MP (p:=u) hi) J<|cl J (MP (p:=v) hj) J<|?_;refine br J J J (fun hc11=>?_) (fun hc11=>?_)
 .
  exact rz J (by unfold ce;rw[if_pos hc11];rfl)
 .
  refine br J J J (fun hc15=>?_) (fun hc15=>?_)
  .
   exact rz J (by unfold ce;rw[if_neg hc11,if_pos hc15];rfl)
  .
   refine cl J (Ou (p:=u) (q:=v) (by omega) (by omega)) J<|cl (fu:=⟨0⟩) J (l8 (q:=u.cross v) (by omega)) J<|?_;have hs:=sK (u.cross v).num;refine gx J<|?_;exact rz J (by unfold ce;rw[if_neg hc11,if_neg hc15];rfl)
def Xk{m:Int}:dC (dg m.natAbs)/\(decide (m<0)=true->0<(dg m.natAbs).length):=⟨(d8 _).2.2,fun h=>by
 have:0<m.natAbs:=by have:=of_decide_eq_true h;omega
 exact w7.2 this⟩
def Yp{m:Int}{i:Nat}[h:BI m i](hi:i<=1000000000:=by decide):PF GB prog 242 [eI m] (.v (.bool true)):=(Zf (neg:=decide (m<0)) (ds:=dg m.natAbs) (d8 _).2.1 (by have:=lu (a:=m.natAbs) hi;omega)).to (by unfold vB;rw[decide_eq_true Xk])
instance BQ.rgcd (p q:Rat) (i j:Nat) [h:BQ p i] [k:BQ q j]:BQ (rgcd p q) (i+j+(i+j)):=by
 unfold Sx.rgcd;refine uZ (gN (lx p) (lx q)) ?_ ?_
 ·rw[lX]
  have h1:=nj h.hn k.hd;have h2:=nj k.hn h.hd;rw[lL j i] at h2;exact GA h1 h2
 ·have h1:=nj h.hd k.hd
  have:2^(i+j)<=2^(i+j+(i+j)):=bK (by decide) (by omega);omega
def cp(f:aH):DV:= .ag [vI (dz (f.l.a:Rat)),vI (dq (f.l.a:Rat)),dl (f.l.a:Rat),vI (dz (f.l.b:Rat)),vI (dq (f.l.b:Rat)),dl (f.l.b:Rat),vI (dz (f.l.c:Rat)),vI (dq (f.l.c:Rat)),dl (f.l.c:Rat),vI (dz f.v.lo),vI (dq f.v.lo),dl f.v.lo,vI (dz f.v.hi),vI (dq f.v.hi),dl f.v.hi, .v (.bool f.v.nl), .v (.bool f.v.nh)]
structure We (v:aA):Prop where
 z:tj v
 lo:BQ v.lo 1200
 hi:BQ v.hi 1200
structure XG (s:aH):Prop where
 lb:LB s.l
 ok:s.l.ok
 v:We s.v
abbrev aFn (c:bw):Prop:= ∀s∈c,XG s
def ivD(o:Option aA):aA:=o.getD ⟨0,0,false,false⟩
def ee{α:Type}{f:α->DV}{l:List α}{i:Nat}{s:α}(h:l[i]? =some s):(l.map f)[(i:Int).toNat]? =some (f s):=by simp[h]
theorem BQ.z1:BQ (0:Rat) 1:=⟨by decide,by decide⟩
instance BQ.sample (v:aA) [h1:BQ v.lo 1200] [h2:BQ v.hi 1200]:BQ v.sample 2500:=by
 unfold aA.sample;split
 ·exact BQ.z1.mono (by decide)
 ·split
  ·exact BQ.mono (inferInstance:BQ (v.hi-((1:Int):Rat)) _) (by decide)
  ·split
   ·exact BQ.mono (inferInstance:BQ (v.lo+((1:Int):Rat)) _) (by decide)
   ·exact BQ.mono (inferInstance:BQ ((v.lo+v.hi)*mkRat 1 2) _) (by decide)

def bsB(c:bw)(l:ab)(i:Nat):Bool:=match c[i]? with
 |some s=>decide (ce s.l.dir l.dir=0)
 |none=>false
def cU:Tr->List DV
 | .leaf b=>[vI 0,vI 0, .v (.pointer none),vI 0,vI 0, .v (.pointer none),vI 0,vI 0, .v (.pointer none), .v (.pointer none), .v (.pointer none), .v (.bool b)]
 | .node l x y=>[vI (dz (l.a:Rat)),vI (dq (l.a:Rat)),dl (l.a:Rat),vI (dz (l.b:Rat)),vI (dq (l.b:Rat)),dl (l.b:Rat),vI (dz (l.c:Rat)),vI (dq (l.c:Rat)),dl (l.c:Rat), .pt (cU x), .pt (cU y), .v (.bool false)]
def eU(t:Tr):DV:= .pt (cU t)
def Tr.compl:Tr->Tr
 | .leaf b=> .leaf !b
 | .node l x y=> .node l x.compl y.compl
def Tr.chooseQ(op:Int)(b:Bool)(t:Tr)(c:bw):Tr:=
 if op=1\/op=2 then(if b=decide (op=1) then .leaf b else t.restrict c)
 else if op=3/\b=false then .leaf false
 else if b then(t.restrict c).compl else t.restrict c
def Tr.mergeQ(op:Int):Tr->Tr->bw->Tr
 | .leaf b,u,c=>u.chooseQ op b c
 | .node l x y,u,c=>if !fi c l.rev then x.mergeQ op u c else if !fi c l then y.mergeQ op u c else joinQ l (x.mergeQ op u (gj c l)) (y.mergeQ op u (gj c l.rev))
def Xz:DV:= .ag [vI 0,vI 0, .v (.pointer none),vI 0,vI 0, .v (.pointer none),vI 0,vI 0, .v (.pointer none)]
def lnR:Option ab->DV
 |some l=> .tp [pf l,vB true]
 |none=> .tp [Xz,vB false]
def CC(n:Bool)(ds:List Nat):Prop:=dC ds/\(n=true->0<ds.length)
instance (n:Bool) (ds:List Nat):Decidable (CC n ds):=inferInstanceAs (Decidable (_/\_))
structure RL where
 na:Bool
 da:List Nat
 nb:Bool
 db:List Nat
 nc:Bool
 dc:List Nat
def RL.d(r:RL):DV:= .ag [.v (.bool r.na),eG r.da, .v (.bool r.nb),eG r.db, .v (.bool r.nc),eG r.dc]
def vd(n:Bool)(ds:List Nat):Int:=if n then-(dv ds:Int) else dv ds
def RL.l(r:RL):ab:=⟨vd r.na r.da,vd r.nb r.db,vd r.nc r.dc⟩
def RL.nm(r:RL):Prop:=CC r.na r.da/\CC r.nb r.db/\CC r.nc r.dc
instance (l:ab):Decidable l.ok:=inferInstanceAs (Decidable (_/\_))
instance (r:RL):Decidable r.nm:=inferInstanceAs (Decidable (_/\_/\_))
def RL.ln(r:RL):Option ab:=if r.nm/\r.l.ok then some r.l else none
structure RL.sm (r:RL):Prop where
 a:bg r.da/\r.da.length<=3
 b:bg r.db/\r.db.length<=3
 c:bg r.dc/\r.dc.length<=3
def aGn(n:Nat)(f:Nat->Bool):List Value:=(List.range n).map fun j=> .bool (f j)
def uK(f:Nat->Bool)(i:Nat):Nat->Bool:=fun j=>f j||Nat.beq j i
structure RN where
 g:RL
 l:Int
 r:Int
def RN.d(n:RN):DV:= .ag [.v (.bool n.g.na),eG n.g.da, .v (.bool n.g.nb),eG n.g.db, .v (.bool n.g.nc),eG n.g.dc, .v (.int .i64 n.l), .v (.int .i64 n.r)]
structure RS where
 f:Nat->Bool
 c:Nat
 b:Bool
inductive RR (ns:List RN):Int->RS->Tr->RS->Prop where
 |leaf (b:Bool) (s:RS):RR ns (Aq b) s (.leaf b) s
 |mn (rt:Int) (s:RS) (h1:rt≠ -1) (h2:rt≠ -2) (h:rt<0\/(ns.length:Int)<=rt\/(∃k:Nat,rt=k/\k<ns.length/\s.f k=true)):RR ns rt s (.leaf false) ⟨s.f,s.c,true⟩
 |line (k:Nat) (n:RN) (s:RS) (h:ns[k]? =some n) (hf:s.f k=false) (hl:n.g.ln=none):RR ns (k:Int) s (.leaf false) ⟨uK s.f k,s.c+1,true⟩
 |node (k:Nat) (n:RN) (l:ab) (s s2 s3:RS) (x y:Tr) (h:ns[k]? =some n) (hf:s.f k=false) (hl:n.g.ln=some l) (h1:RR ns n.l ⟨uK s.f k,s.c+1,s.b⟩ x s2) (h2:RR ns n.r s2 y s3):RR ns (k:Int) s (.node l x y) s3
abbrev aHf (x:SV) (ns:List RN) (A:Gh):Prop:= ∃es,ey A 8 x es/\IsLs A (ns.map RN.d) es
def RM:RS:=⟨fun _=>false,0,false⟩
def ofD(ns:List RN)(t:Tr)(s:RS):DV:=if s.b=false/\s.c=ns.length then .tp [eU t,vB true] else .tp [.v (.pointer none),vB false]
def XN(rt:Int)(ns:List RN):DV:= .ag [vI rt, .sl (ns.map RN.d)]

def Tr.pre:Tr->List Tr
 | .leaf b=>[.leaf b]
 | .node l x y=> .node l x y::(x.pre++y.pre)
structure Vis (f:FuncId) (c2:List Value) (σ:Type) (step:σ->Tr->σ) (ok:σ->Tr->Prop) (Inv:σ->List av->Gh->Prop):Prop where
 up: ∀{s B G G'},bp G G'->Inv s B G->Inv s B G'
 re: ∀{s B G} (fl:Nat->Bool),Inv s B G->Inv s (B.map (relo fl)) G
 go: ∀{s t p B G},ok s t->Inv s B G->Is G (eU t) (.pointer p)->mP prog f (.pointer p::c2) B G (fun _ B' G'=>Inv (step s t) B' G')
section
variable {P:Program} {C:az} {n:Nat} {fr:Fr} {own:List av} {G:Gh}
end
def NX{σ:Type}(step:σ->Tr->σ)(ok:σ->Tr->Prop):σ->List Tr->Prop
 |_,[]=>True
 |s,t::ts=>ok s t/\NX step ok (step s t) ts
structure EX (σ:Type) where
 ts:List Tr
 vs:List Value
 rest:List Value
 b:Nat
 cap:Nat
 lo:Bool
 s:σ
 B:List av
def WD(t:Tr):Nat:=2*t.size+1
def M3(ts:List Tr):List Tr:=ts.reverse.flatMap Tr.pre
structure EI (A:Gh) {σ:Type} (step:σ->Tr->σ) (ok:σ->Tr->Prop) (Inv:σ->List av->Gh->Prop) (N:Nat) (fin:σ) (x:EX σ) (G:Gh):Prop where
 rel:rI (fun v t=> ∃p,v= .pointer p/\Is A (eU t) (.pointer p)) x.vs x.ts
 cap:x.vs.length+x.rest.length=x.cap
 inv:Inv x.s x.B G
 mu:(x.ts.map WD).sum<=N
 okf:NX step ok x.s (M3 x.ts)
 fin:(M3 x.ts).foldl step x.s=fin
def szI(nbk:Nat)(s:Nat)(B:List av)(_:Gh):Prop:= ∃lo,B=[⟨nbk,[.int .i64 s],3,lo⟩]
def szS(s:Nat):Tr->Nat
 | .leaf _=>s
 | .node .. =>s+1
def aE4(n:Nat)(f:Nat->Bool):Nat:=((List.range n).filter fun j=>!f j).length
def F2(ns:List RN):Nat->Int->RS->Tr×RS
 |0,_,s=>(.leaf false,s)
 |m+1,rt,s=>
  if rt= -1 then(.leaf false,s) else if rt= -2 then(.leaf true,s) else
  match ns[rt.toNat]? with
  |none=>(.leaf false,⟨s.f,s.c,true⟩)
  |some n=>if rt<0\/s.f rt.toNat=true then(.leaf false,⟨s.f,s.c,true⟩) else
   match n.g.ln with
   |none=>(.leaf false,⟨uK s.f rt.toNat,s.c+1,true⟩)
   |some l=>let a:=F2 ns m n.l ⟨uK s.f rt.toNat,s.c+1,s.b⟩;let b:=F2 ns m n.r a.2;(.node l a.1 b.1,b.2)
def QO(ns:List RN)(rt:Int):Option Tr:=
 let r:=F2 ns (ns.length+1) rt RM
 if r.2.b=false/\r.2.c=ns.length then some r.1 else none
def ofR:Option Tr->DV
 |some t=> .tp [eU t,vB true]
 |none=> .tp [.v (.pointer none),vB false]
end Go.Sx
end
section
namespace Go.Sx
open Go Go.Proofs Go.RowKit Go.Extern.Stop Go.Stop Go.Extern
def Vq(v:Value)(w:World):(Extern.ReflectliteType.typeOf #[.iface 340 v]).run Tryz.prog w= .ok (.iface 174 (.agg #[.pointer (some ⟨Tryz.prog.globals.size,340,none⟩)])) w:=by kernel_rfl
def O6:TypeId->Sem Value:=fun t=>do Go.Extern.Rtype.noPackHeld "Comparable" t;pure (.bool (<-typeInfo t).comparable)
def Tt(w:World):((Extern.ReflectliteType.method O6) #[.agg #[.pointer (some ⟨Tryz.prog.globals.size,340,none⟩)]]).run Tryz.prog w= .ok (.bool true) w:=by kernel_rfl
def Yt:(Tryz.prog.info? 340).map (·.comparable)=some true:=by kernel_rfl
def XA:(Tryz.prog.info? 365).map (·.size)=some 1:=by kernel_rfl
def Vo(n:Nat)(v:Value)(w:World):(Go.method (n+1) 174 v "Comparable").run Tryz.prog w= .ok (300,v) w:=by
 kernel_rfl
def VQ(a:Addr)(w:World):Calls Tryz.prog 20 #[.iface 340 (.pointer (some a)), .iface 340 (.pointer (some a))] w fun e w'=>e= .returned (.bool true)/\w'=w:=by
 obtain⟨i,hi,hcmp⟩:=Option.map_eq_some_iff.1 Yt;obtain⟨j,hj,hjs⟩:=Option.map_eq_some_iff.1 XA;have h8:= @run_callFunc_extern Tryz.prog 48 _ Extern.ReflectliteType.typeOf Tryz.func48 (by kernel_rfl) (by kernel_rfl) (by kernel_rfl) (by kernel_rfl);have h32:= @run_callFunc_extern Tryz.prog 300 _ (Extern.ReflectliteType.method O6) Tryz.func300 (by kernel_rfl) (by kernel_rfl) (by kernel_rfl) (by kernel_rfl);have tT:=Vq;have cT:=Tt;obtain⟨g,hg⟩: ∃g,g=Tryz.prog.globals.size:=⟨_,rfl⟩;simp only[<-hg] at tT cT;clear hg;have mR:=Vo;have heq:=run_eql_iface_ptr_same (P:=Tryz.prog) w a Tryz.underlying51 Tryz.underlying340 hi hcmp hj
 go_enter Tryz.func20,Tryz.ntmps20
 go_wp2
 refine wp_loop_rounds 1 ?_;rw[rounds_succ]
 go_wp2
 go_ret
 exact⟨J,J⟩
def VN:nB Tryz.prog 20:=⟨_,Tryz.func20,by kernel_rfl,by kernel_rfl⟩
def tw(a:Addr):DV:= .v (.iface 340 (.pointer (some a)))
def Ye{GB:Gh}{a:Addr}:PF GB Tryz.prog 20 [tw a,tw a] (.v (.bool true)):=by
 intro G vs _ hv;obtain⟨v1,m,rfl,h1,hm⟩:=b7.1 hv;obtain⟨v2,m,rfl,h2,hm⟩:=b7.1 hm;rw[cH] at hm;subst hm
 cases bi.1 h1;cases bi.1 h2
 exact(Fn.of_calls VN (VQ a)).mono fun v G' _ h=>bi.2 h
end Go.Sx
end
