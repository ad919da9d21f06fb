/- Part 12 of a proof. -/
import Derived.Test.YtfccecinjmbfhaaGreatDoorMc11
set_option linter.unusedSimpArgs false
set_option maxHeartbeats 4000000
set_option maxRecDepth 100000
set_option linter.unusedVariables false
section
namespace Go.Sx
open Go Go.Proofs Tryz
variable {GB:Gh}
instance BI.zv (neg:Bool) (m i:Nat) [h:BN m i]:BI (zv neg m) i:=⟨by rw[afZ];exact h.h⟩
section
variable {GB:Gh} {C:Ctx} {n:Nat} {Q0:Exit→Act→World→Prop} {fr fr':FrX} {own own':OwX} {cf cf':Cf} {vc:List Prop}
def aGV(fr:FrX)(cf:Cf):Option Int:=match opC fr cf with
 |some ⟨_, .convert t t' x,_,_,_,_⟩=>match abc tt t,abc tt t' with
  |some ⟨.int .i64,_,_,_⟩,some ⟨.int .u64,_,_,_⟩=>match evX (lkC fr cf) x with
   |some (.d (.v (.int .i64 p)))=>some p
   |_=>none
  |_,_=>none
 |_=>none
theorem cvw[fu:Fu]{p:Int}(q:Int)(h:aGV fr cf=some p)(e:p%18446744073709551616=q)(hgo:goA tt n fu.n fr own cf (.d (.v (.int .u64 q))) [] []=⟨vc,fr',own',cf'⟩)(k:CfS prog GB C n Q0 fr' own' cf')
  (hv:aah vc:=by first|exact trivial|(simp only[aah];omega)):CfS prog GB C n Q0 fr own cf:=by
 unfold aGV at h
 split at h<;>try (cases h;done)
 rename_i hh
 split at h<;>try (cases h;done)
 rename_i hT hT'
 split at h<;>cases h
 rename_i hx
 have:=akQ (abY _ _ hT) rfl
 have:=akQ (abY _ _ hT') rfl
 refine us hh (.x1 hx fun ρ G ov a w y _ r h1 h2=>?_) hgo hv k
 rw[aay] at h2;subst h2
 refine⟨_,aay.2 rfl,?_⟩
 rw[←e,←abR]
 exact alH h1
def aGQ(fr:FrX)(cf:Cf):Option Int:=match opC fr cf with
 |some ⟨_, .unOp .neg _ x,_,_,_,_⟩=>match evX (lkC fr cf) x with
  |some (.d (.v (.int .u64 p)))=>some p
  |_=>none
 |_=>none
theorem ngw[fu:Fu]{p:Int}(q:Int)(h:aGQ fr cf=some p)(e:(0-p)%18446744073709551616=q)(hgo:goA tt n fu.n fr own cf (.d (.v (.int .u64 q))) [] []=⟨vc,fr',own',cf'⟩)(k:CfS prog GB C n Q0 fr' own' cf')
  (hv:aah vc:=by first|exact trivial|(simp only[aah];omega)):CfS prog GB C n Q0 fr own cf:=by
 unfold aGQ at h
 split at h<;>try (cases h;done)
 rename_i hh
 split at h<;>cases h
 rename_i hx
 refine us hh (.x1 hx fun ρ G ov a w y _ r h1 h2=>?_) hgo hv k
 rw[aay] at h2;subst h2
 refine⟨_,aay.2 rfl,?_⟩
 rw[←e,←abR]
 exact auQ h1
end
theorem aDC{n:Int}(h0: -4611686018427387904≤n)(h1:n≤4611686018427387904):PF GB prog 76 [.v (.int .i64 n)] (eI n):=by
 refine fn func76 J J ntmps76 J J (fun C=>?_)
 refine br (fu1:=⟨3⟩) (fu2:=⟨6⟩) J J J (fun hc4=>?_) (fun hc4=>?_)
 ·
  refine cvw (fu:=⟨0⟩) (18446744073709551616+n) rfl (by omega) rfl<|ngw (n.natAbs:Nat) rfl (by omega) rfl<|cl rfl (agB (u:=n.natAbs) (by omega)) rfl<|?_
  refine cl rfl acX rfl<|?_
  exact rz rfl (apq (by unfold zv;rw[if_pos rfl];omega))
 ·
  refine eqF 11 (.d (.v (.int .u64 (n.natAbs:Nat)))) rfl (by show FX.d (.v (.int _ _))= .d (.v (.int _ _));congr 3;omega) ?_
  refine gx rfl<|cl rfl (agB (u:=n.natAbs) (by omega)) rfl<|cl rfl acX rfl<|?_
  exact rz rfl (apq (by unfold zv;rw[if_neg (by decide)];omega))
theorem ap9{z:Int}:PF GB prog 89 [eI z] (vI z.sign):=by
 have hl:=aaA (dg z.natAbs)
 have hz:= @acC z.natAbs
 refine fn func89 J J ntmps89 J J (fun C=>?_)
 refine br J J J (fun hc6=>?_) (fun hc6=>?_)
 ·
  exact rz rfl (by show DV.v (.int _ 0)=DV.v (.int _ _);rw[show z=0 by omega];rfl)
 ·
  refine bd J J J (fun hc8=>?_) (fun hc8=>?_)
  ·
   exact rz rfl (by show DV.v (.int _ (-1))=DV.v (.int _ _);rw[fL (by omega)])
  ·
   exact rz rfl (by show DV.v (.int _ 1)=DV.v (.int _ _);rw[gR (by omega)])
theorem ajj{z:Int}:PF GB prog 184 [eI z] (eI (-z)):=by
 refine fn func184 J J ntmps184 J J (fun C=>?_)
 refine cl rfl acX rfl<|?_
 exact rz rfl (apq (aCY z))
theorem axA{a b:Int}(h:decide (a<0)=decide (b<0)):zv (decide (a<0)) (a.natAbs+b.natAbs)=a+b:=by
 unfold zv
 have h':a<0↔b<0:=by simpa using h
 by_cases q:a<0
 ·have:=h'.1 q
  simp[q];omega
 ·have: ¬b<0:=fun w=>q (h'.2 w)
  simp[q];omega
theorem aAv{a b:Int}(h: ¬decide (a<0)=decide (b<0))(k:a.natAbs<b.natAbs):zv (decide (b<0)) (b.natAbs-a.natAbs)=a+b:=by
 unfold zv
 have h': ¬(a<0↔b<0):=by simpa using h
 by_cases q:b<0
 ·have: ¬a<0:=fun w=>h' ⟨fun _=>q,fun _=>w⟩
  simp[q];omega
 ·have:a<0:=Int.not_le.1 fun w=>h' ⟨fun e=>by omega,fun e=>absurd e q⟩
  simp[q];omega
theorem aAT{a b:Int}(h: ¬decide (a<0)=decide (b<0))(k:b.natAbs≤a.natAbs):zv (decide (a<0)) (a.natAbs-b.natAbs)=a+b:=by
 unfold zv
 have h': ¬(a<0↔b<0):=by simpa using h
 by_cases q:a<0
 ·have: ¬b<0:=fun w=>h' ⟨fun _=>w,fun _=>q⟩
  simp[q];omega
 ·have:b<0:=Int.not_le.1 fun w=>h' ⟨fun e=>absurd e q,fun e=>by omega⟩
  simp[q];omega
theorem axq{a b:Int}{i j:Nat}[ha:BI a i][hb:BI b j](hi:i≤400000000:=by decide)(hj:j≤400000000:=by decide):PF GB prog 105 [eI a,eI b] (eI (a+b)):=by
 have hba:=aa4 ha.h
 have hbb:=aa4 hb.h
 refine fn (fu:=⟨15⟩) func105 J J ntmps105 J J (fun C=>?_)
 refine eqF 9 (.d (.v (.bool (decide (decide (a<0)=decide (b<0)))))) rfl (by congr 2) ?_
 refine gx rfl<|?_
 refine bd J J J (fun hc9=>?_) (fun hc9=>?_)
 ·
  refine cl rfl (aGu (by omega) (by omega)) rfl<|cl rfl acX rfl<|?_
  exact rz rfl (apq (axA hc9))
 ·
  refine cl rfl (avo (by omega) (by omega)) rfl<|?_
  refine br J J J (fun hc23=>?_) (fun hc23=>?_)
  ·
   refine cl rfl (auo (by have:=afH.1 hc23;omega) (by omega)) rfl<|cl rfl acX rfl<|?_
   exact rz rfl (apq (aAv hc9 (afH.1 hc23)))
  ·
   refine cl rfl (auo (rR fun q=>hc23 (afH.2 q)) (by omega)) rfl<|cl rfl acX rfl<|?_
   exact rz rfl (apq (aAT hc9 (rR fun q=>hc23 (afH.2 q))))
theorem amZ{a b:Int}{i j:Nat}[ha:BI a i][hb:BI b j](hi:i≤400000000:=by decide)(hj:j≤400000000:=by decide):PF GB prog 91 [eI a,eI b] (eI (a*b)):=by
 refine fn func91 J J ntmps91 J J (fun C=>?_)
 refine cl rfl (acu (by omega) (by omega)) rfl<|cl rfl acX rfl<|?_
 exact rz rfl (apq (azV a b))
theorem ahz{a b:Int}{i j:Nat}[ha:BI a i][hb:BI b j](hi:i≤400000000:=by decide)(hj:j≤400000000:=by decide):PF GB prog 252 [eI a,eI b] (vI (a-b).sign):=by
 refine fn func252 J J ntmps252 J J (fun C=>?_)
 refine cl rfl ajj rfl<|cl rfl (axq (by omega) (by omega)) rfl<|cl rfl ap9 rfl<|?_
 exact rz rfl (by rw[Int.sub_eq_add_neg];rfl)
theorem ae5{q:Rat}:PF GB prog 93 [eQ q] (dN q.den):=by
 refine fn func93 J J ntmps93 J J (fun C=>?_)
 refine br J J J (fun hc6=>?_) (fun hc6=>?_)
 ·
  refine cl rfl azJ rfl<|?_
  exact rz rfl (by rw[(akP q.den (abK q)).1 (by omega)];rfl)
 ·
  exact rz rfl (by exact aCt (fun e=>hc6 (by exact congrArg Int.ofNat ((akP q.den (abK q)).2 e))))
theorem ah2{n k:Nat}[h:BN n k](hk:k≤500000000):(dg n).length≤100000000:=by have:=aa4 h.h;omega
theorem aj9{x:Int}{d i j:Nat}[hx:BI x i][hd:BN d j](hd0:0<d)(hi:i≤200000000:=by decide)(hj:j≤200000000:=by decide):PF GB prog 75 [eI x,dN d] (eQ (mkRat x d)):=by
 obtain⟨q,hq⟩: ∃q,q=mkRat x d:=⟨_,rfl⟩
 obtain⟨g,hg⟩: ∃g,g=Nat.gcd x.natAbs d:=⟨_,rfl⟩
 have hg0:0<g:=hg▸qQ _ hd0
 haveI hgB:BN g (i+j):=hg▸inferInstance
 have hg1:(dg g).length≤100000000:=ah2 (k:=i+j) (by omega)
 have ho1:(dg 1).length≤100000000:=by rw[amI];decide
 haveI hqB:BQ q (i+j):=hq▸agE hd0 (dJ hx.h (bV (by decide) (by omega))) (dJ hd.h (bV (by decide) (by omega)))
 refine fn func75 J J ntmps75 J J (fun C=>?_)
 refine cl (fu:=⟨0⟩) rfl (alI (by omega) (by omega)) rfl<|?_
 refine eqF 11 (.d (dN g)) rfl (by rw[hg]) ?_
 refine gx (fu:=⟨4⟩) rfl<|?_
 refine mg (fu:=⟨1⟩) (X:=Unit) (fun _=>[(1, .d (dN q.den)),(2, .ov 2 0),(4, .ov 4 0)]) (fun _=>[(4,some (.o 52 [.ff, .nl, .nl] true)),(2,some (.o 50 [.d (.v (.bool (decide (q.num<0)))), .d (dN q.num.natAbs)] true))]) (fun _=>True) [1,2,4] [4,2] rfl ?_ (fun _=>rfl) (fun _ hm=>?_)
 ·
  refine gx rfl<|cl rfl azJ rfl<|cl rfl (avo hg1 ho1) rfl<|?_
  refine br J J J (fun hc15=>?_) (fun hc15=>?_)
  ·
   refine cl rfl (afv hg0 (by omega) (by omega)) rfl<|cl (fu:=⟨0⟩) rfl acX rfl<|?_
   refine eqF 26 (.d (eI q.num)) rfl (by show FX.d (eI (zv _ _))=_;rw[hg,azi hd0,hq]) ?_
   refine gx rfl<|cl (fu:=⟨2⟩) rfl (afv hg0 (by omega) (by omega)) rfl<|?_
   refine eqF 31 (.d (dN q.den)) rfl (by rw[hg,ayZ hd0,hq]) ?_
   refine gx rfl<|?_
   exact at_ () trivial
  ·
   have hm:=aCR (x:=x) hd0 (by rw[←hg];exact alw.1 (Decidable.not_not.1 hc15))
   rw[←hq] at hm
   refine eqF 1 (.d (dN q.den)) rfl (by rw[hm.2]) ?_
   exact at_ () trivial (hO:=⟨rfl,by rw[hm.1];rfl,trivial⟩)
 ·
  refine mg (X:=Unit) (fun _=>[(1, .d (dD q.den)),(2, .ov 2 0),(4, .ov 4 0)]) (fun _=>[(4,some (.o 52 [.ff, .nl, .nl] true)),(2,some (.o 50 [.d (.v (.bool (decide (q.num<0)))), .d (dN q.num.natAbs)] true))]) (fun _=>True) [1,2,4] [4,2] rfl ?_ (fun _=>rfl) (fun _ hm=>?_)
  ·
   refine gx rfl<|cl rfl azJ rfl<|cl rfl (avo (ah2 (k:=i+j) (by omega)) ho1) rfl<|?_
   refine br J J J (fun hc36=>?_) (fun hc36=>?_)
   ·
    refine nlD 1 rfl ?_
    refine eqF 1 (.d (dD q.den)) rfl (by rw[alw.1 hc36];rfl) ?_
    exact at_ () trivial
   ·
    refine eqF 1 (.d (dD q.den)) rfl (by rw[aCt (fun e=>hc36 (alw.2 e))]) ?_
    exact at_ () trivial
  ·
   exact rz rfl (by rw[←hq];rfl)
theorem akc(a:Rat):mkRat a.num a.den=a:=by simp[Rat.mkRat_self]
theorem atI{a b:Rat}(h:b≠0):a/b=mkRat (a.num*zv (decide (b.num<0)) b.den) (a.den*b.num.natAbs):=by
 rw[pR]
 have ha:(a.num:Rat)/(a.den:Rat)=a:=by rw[←pR,akc]
 have hb:(b.num:Rat)/(b.den:Rat)=b:=by rw[←pR,akc]
 have h1:(a.den:Rat)≠0:=by have:=a.den_nz;exact_mod_cast this
 have h2:(b.den:Rat)≠0:=by have:=b.den_nz;exact_mod_cast this
 have h3:(b.num:Rat)≠0:=by
  intro e
  rw[e] at hb
  apply h;rw[←hb];grind
 rw[cV,Rat.natCast_mul]
 by_cases q:b.num<0
 ·have e1:((zv (decide (b.num<0)) b.den:Int):Rat)= -(b.den:Rat):=by
   unfold zv;rw[if_pos (by simpa using q),mQ];rfl
  have e2:((b.num.natAbs:Nat):Rat)= -(b.num:Rat):=by
   have:((b.num.natAbs:Nat):Int)= -b.num:=by omega
   rw[←mQ,←this];rfl
  rw[e1,e2]
  generalize (a.num:Rat)=an at*
  generalize (a.den:Rat)=ad at*
  generalize (b.num:Rat)=bn at*
  generalize (b.den:Rat)=bd at*
  subst ha hb
  grind
 ·have e1:((zv (decide (b.num<0)) b.den:Int):Rat)=(b.den:Rat):=by
   unfold zv;rw[if_neg (by simpa using q)];rfl
  have e2:((b.num.natAbs:Nat):Rat)=(b.num:Rat):=by
   have:((b.num.natAbs:Nat):Int)=b.num:=by omega
   rw[←this];rfl
  rw[e1,e2]
  generalize (a.num:Rat)=an at*
  generalize (a.den:Rat)=ad at*
  generalize (b.num:Rat)=bn at*
  generalize (b.den:Rat)=bd at*
  subst ha hb
  grind
theorem asf{q:Rat}{n:Int}{d:Nat}(hd:0<d)(h:q*(d:Rat)=(n:Rat)):q.num.natAbs≤n.natAbs∧q.den≤d:=by
 have e:q=mkRat n d:=by
  rw[pR]
  have:(d:Rat)≠0:=by exact_mod_cast (by omega:d≠0)
  rw[←h];grind
 rw[e,Rat.num_mkRat,Rat.den_mkRat,if_neg (by omega),if_neg (by omega)]
 exact⟨mN n (d.gcd n.natAbs:Nat),kV ..⟩
theorem BQ.of_frac{q:Rat}{n:Int}{d i:Nat}(hd:0<d)(h:q*(d:Rat)=(n:Rat))(hn:n.natAbs<2^i)(hdi:d<2^i):BQ q i:=by
 have:=asf hd h
 exact⟨by omega,by omega⟩
theorem akN{b:Rat}(h:b≠0):0<b.num.natAbs:=by
 have:b.num≠0:=fun e=>h (nZ.1 e)
 omega
instance BQ.over (a b:Rat) (i j:Nat) [ha:BQ a i] [hb:BQ b j]:BQ (a/b) (i+j):=by
 by_cases h:b=0
 ·subst h
  rw[sJ,Rat.inv_zero,Rat.mul_zero]
  have h2:=ha.hd
  have h3:0<a.den:=abK a
  have h4:2^i*1≤2^i*2^j:=dR _ (eJ (by decide))
  rw[←dS] at h4
  exact⟨by show 0<_;omega,by show 1<_;omega⟩
 ·rw[atI h]
  have hb0:=akN h
  refine agE (gS (abK a) hb0) ?_ (abo ha.hd hb.hn)
  rw[jZ,afZ]
  exact abo ha.hn hb.hd
theorem aml{n:Int}(h0: -4611686018427387904≤n)(h1:n≤4611686018427387904):PF GB prog 23 [.v (.int .i64 n)] (eQ (n:Rat)):=by
 refine fn func23 J J ntmps23 J J (fun C=>?_)
 refine cl rfl (aDC (by omega) (by omega)) rfl<|?_
 exact rz rfl (by rw[aqN];rfl)
theorem q_S{q:Rat}:PF GB prog 33 [eQ q] (vI q.num.sign):=by
 refine fn func33 J J ntmps33 J J (fun C=>?_)
 refine cl rfl ap9 rfl<|?_
 exact rz J J
theorem aoV{q:Rat}:PF GB prog 186 [eQ q] (eQ (-q)):=by
 refine fn func186 J J ntmps186 J J (fun C=>?_)
 refine cl rfl ajj rfl<|?_
 exact rz rfl (by unfold eQ;rw[oJ,sX];rfl)
theorem aaz{a b:Rat}{i j:Nat}[ha:BQ a i][hb:BQ b j](hi:i≤20000000:=by decide)(hj:j≤20000000:=by decide):PF GB prog 44 [eQ a,eQ b] (eQ (a*b)):=by
 have had:=abK a
 have hbd:=abK b
 have hdp:=gS had hbd
 have e1:=akP a.den had
 have e2:=akP b.den hbd
 refine fn func44 J J ntmps44 J J (fun C=>?_)
 refine cs 9 J J J (fun hg9=>?_) (fun hg9=>?_)
 ·
  refine br J J J (fun hc14=>?_) (fun hc14=>?_)
  ·
   refine cl rfl (amZ (a:=a.num) (b:=b.num) (by omega) (by omega)) rfl<|?_
   exact rz rfl (by rw[atu (e1.1 (by omega)) (e2.1 (by omega)),aqN];rfl)
  ·
   refine cl rfl (amZ (a:=a.num) (b:=b.num) (by omega) (by omega)) rfl<|cl rfl ae5 rfl<|cl rfl ae5 rfl<|cl rfl (acu (by omega) (by omega)) rfl<|?_
   refine cl rfl (aj9 hdp (by omega) (by omega)) rfl<|?_
   exact rz rfl (by rw[aek];rfl)
 ·
  refine cl rfl (amZ (a:=a.num) (b:=b.num) (by omega) (by omega)) rfl<|cl rfl ae5 rfl<|cl rfl ae5 rfl<|cl rfl (acu (by omega) (by omega)) rfl<|?_
  refine cl rfl (aj9 hdp (by omega) (by omega)) rfl<|?_
  exact rz rfl (by rw[aek];rfl)
theorem abM{a b:Rat}{i j:Nat}[ha:BQ a i][hb:BQ b j](hi:i≤20000000:=by decide)(hj:j≤20000000:=by decide):PF GB prog 41 [eQ a,eQ b] (eQ (a+b)):=by
 have had:=abK a
 have hbd:=abK b
 have hdp:=gS had hbd
 have e1:=akP a.den had
 have e2:=akP b.den hbd
 refine fn func41 J J ntmps41 J J (fun C=>?_)
 refine cs 9 J J J (fun hg9=>?_) (fun hg9=>?_)
 ·
  refine br J J J (fun hc14=>?_) (fun hc14=>?_)
  ·
   refine cl rfl (axq (by omega) (by omega)) rfl<|?_
   exact rz rfl (by rw[av0 (e1.1 (by omega)) (e2.1 (by omega)),aqN];rfl)
  ·
   refine cl rfl ae5 rfl<|cl rfl acX rfl<|cl rfl (amZ (a:=a.num) (b:=zv false b.den) (by omega) (by omega)) rfl<|cl rfl ae5 rfl<|cl rfl acX rfl<|?_
   refine cl rfl (amZ (a:=b.num) (b:=zv false a.den) (by omega) (by omega)) rfl<|cl rfl (axq (by omega) (by omega)) rfl<|cl rfl ae5 rfl<|?_
   refine cl rfl ae5 rfl<|cl rfl (acu (by omega) (by omega)) rfl<|cl rfl (aj9 hdp (by omega) (by omega)) rfl<|?_
   exact rz rfl (by rw[aeu];rfl)
 ·
  refine cl rfl ae5 rfl<|cl rfl acX rfl<|cl rfl (amZ (a:=a.num) (b:=zv false b.den) (by omega) (by omega)) rfl<|cl rfl ae5 rfl<|?_
  refine cl rfl acX rfl<|cl rfl (amZ (a:=b.num) (b:=zv false a.den) (by omega) (by omega)) rfl<|cl rfl (axq (by omega) (by omega)) rfl<|?_
  refine cl rfl ae5 rfl<|cl rfl ae5 rfl<|cl rfl (acu (by omega) (by omega)) rfl<|cl rfl (aj9 hdp (by omega) (by omega)) rfl<|?_
  exact rz rfl (by rw[aeu];rfl)
theorem alD{a b:Rat}{i j:Nat}[ha:BQ a i][hb:BQ b j](hi:i≤20000000:=by decide)(hj:j≤20000000:=by decide):PF GB prog 149 [eQ a,eQ b] (eQ (a-b)):=by
 refine fn func149 J J ntmps149 J J (fun C=>?_)
 refine cl rfl (aoV (q:=b)) rfl<|cl rfl (abM (a:=a) (b:= -b) hi hj) rfl<|?_
 exact rz rfl (by rw[Rat.sub_eq_add_neg];rfl)
theorem aia{a b:Rat}{i j:Nat}[ha:BQ a i][hb:BQ b j](hb0:b≠0)(hi:i≤20000000:=by decide)(hj:j≤20000000:=by decide):PF GB prog 35 [eQ a,eQ b] (eQ (a/b)):=by
 have hbp:=akN hb0
 have hdp:=gS (abK a) hbp
 refine fn func35 J J ntmps35 J J (fun C=>?_)
 refine cl rfl ae5 rfl<|cl rfl acX rfl<|cl rfl (amZ (a:=a.num) (b:=zv (decide (b.num<0)) b.den) (by omega) (by omega)) rfl<|cl rfl ae5 rfl<|?_
 refine cl rfl (acu (a:=a.den) (b:=b.num.natAbs) (by omega) (by omega)) rfl<|cl rfl (aj9 (x:=a.num*zv (decide (b.num<0)) b.den) (d:=a.den*b.num.natAbs) hdp (by omega) (by omega)) rfl<|?_
 exact rz rfl (by rw[atI hb0];rfl)
theorem q_C{a b:Rat}{i j:Nat}[ha:BQ a i][hb:BQ b j](hi:i≤20000000:=by decide)(hj:j≤20000000:=by decide):PF GB prog 90 [eQ a,eQ b] (vI (abd a b)):=by
 refine fn func90 J J ntmps90 J J (fun C=>?_)
 refine cl rfl (alD hi hj) rfl<|cl rfl q_S rfl<|?_
 exact rz rfl (by show vI _=vI _;rw[air])
theorem aCC:((2:Int):Rat)≠0:=by decide
instance BI.two:BI 2 2:=⟨by decide⟩
theorem au7{a:Rat}{i:Nat}[ha:BQ a i](hi:i≤20000000:=by decide):PF GB prog 283 [eQ a] (eQ (a/2)):=by
 refine fn func283 J J ntmps283 J J (fun C=>?_)
 refine cl rfl (aml (n:=2) (by decide) (by decide)) rfl<|cl rfl (aia (a:=a) (b:=((2:Int):Rat)) aCC hi (by decide)) rfl<|?_
 exact rz J J
theorem az8{a b:Rat}{i j:Nat}[ha:BQ a i][hb:BQ b j](hi:i≤2000000:=by decide)(hj:j≤2000000:=by decide):PF GB prog 284 [eQ a,eQ b] (eQ ((a+b)/2)):=by
 refine fn func284 J J ntmps284 J J (fun C=>?_)
 refine cl rfl (abM (by omega) (by omega)) rfl<|cl rfl (au7 (a:=a+b) (by omega)) rfl<|?_
 exact rz J J
theorem aC9{m:Int}{g:Nat}(hg:(g:Int)∣m)(hb:m.natAbs<4611686018427387904):IntKind.i64.wrap (m.tdiv g)=m/g:=by
 rw[Int.tdiv_eq_ediv_of_dvd hg]
 have:=mN m g
 exact at1 (by omega)
def tm(a b:Int):Int:=if(a*b).natAbs<4611686018427387904 then a*b else 0
theorem aAq(a b:Int):(tm a b).natAbs<4611686018427387904:=by unfold tm;split<;>omega
theorem asK{a b:Int}(h:(a*b).natAbs<4611686018427387904):tm a b=a*b:=if_pos h
theorem aD0{a b:Int}(h: ¬(a*b).natAbs<4611686018427387904):DV.tp [vI 0, .v (.bool false)]= .tp [vI (tm a b),vB (decide ((a*b).natAbs<4611686018427387904))]:=by unfold tm;rw[if_neg h,decide_eq_false h];rfl
theorem ayn{a b:Int}{x:Int}(h:(a*b).natAbs<4611686018427387904)(e:x=a*b):DV.tp [vI x, .v (.bool true)]= .tp [vI (tm a b),vB (decide ((a*b).natAbs<4611686018427387904))]:=by unfold tm;rw[if_pos h,decide_eq_true h,e];rfl
theorem ayv(n:Nat):eI (n:Int)= .ag [.v (.bool false),dN n]:=by unfold eI;rw[decide_eq_false (by omega),iR]
theorem aCs{p q:Rat}(hp:p.den=1)(hq:q.den=1):rgcd p q=((Nat.gcd p.num.natAbs q.num.natAbs:Nat):Int):=by
 conv=>lhs;rw[alW hp,alW hq]
 exact agM _ _
theorem aBE(q:Rat):mkRat (zv (decide (q.num<0)) q.den) q.num.natAbs=q⁻¹:=by
 rw[Rat.inv_def]
 by_cases h:q.num<0
 ·rw[decide_eq_true h];exact alT h
 ·rw[decide_eq_false h,←Rat.divInt_ofNat,nK (by omega)];rfl
instance BQ.inv (q:Rat) (i:Nat) [h:BQ q i]:BQ q⁻¹ i:=by
 have h1:=h.hn
 have h2:=h.hd
 have h3:=q.den_nz
 rcases rQ q.num 0 with k|k|k
 ·obtain⟨e1,e2⟩:=akb k;exact⟨by omega,by omega⟩
 ·have e:q=0:=nZ.1 k
  have e0:(0:Rat)⁻¹=0:=Rat.inv_zero
  rw[e] at h1 h2⊢;rw[e0];exact⟨h1,h2⟩
 ·obtain⟨e1,e2⟩:=aj4 k;exact⟨by omega,by omega⟩
instance BQ.half:BQ (mkRat 1 2) 2:=⟨by decide,by decide⟩
theorem aBk{x y:Nat}(hx:x<18446744073709551616)(hy:y<18446744073709551616):PF GB prog 211 [.v (.int .u64 (x:Nat)), .v (.int .u64 (y:Nat))] (.tp [.v (.int .u64 ((x*y/18446744073709551616:Nat):Int)), .v (.int .u64 ((x*y%18446744073709551616:Nat):Int))]):=fun G vs _ hv=>by
 obtain⟨v,m,rfl,h1,h2⟩:=aad.1 hv
 obtain⟨u,m',rfl,h3,h4⟩:=aad.1 h2
 cases aaL.1 h4
 rw[aaY.1 h1,aaY.1 h3]
 exact(apD hx hy).mono fun v G' _ h=>by subst h;exact aeq.2 ⟨_,rfl, .cons (aaY.2 rfl) (.cons (aaY.2 rfl) .nil)⟩
theorem aDH{a b:Nat}(ha:a<18446744073709551616)(hb:b<18446744073709551616):PF GB prog 213 [.v (.int .u64 (a:Nat)), .v (.int .u64 (b:Nat))] (.v (.int .u64 (Nat.gcd a b:Nat))):=by
 refine fn func213 J J ntmps213 J J (fun C=>?_)
 refine lp (X:=Nat×Nat) (fun⟨u,v⟩=>[(1, .d (.v (.int .u64 (v:Nat)))),(0, .d (.v (.int .u64 (u:Nat))))]) (fun⟨u,v⟩=>[]) (fun⟨u,v⟩=>u<18446744073709551616∧v<18446744073709551616∧Nat.gcd u v=Nat.gcd a b) (fun⟨u,v⟩=>v) (a,b) rfl ⟨ha,hb,rfl⟩ (fun _=>rfl) (fun⟨u,v⟩ hk=>?_)
 dsimp only at hk⊢
 obtain⟨h1,h2,h3⟩:=hk
 refine br (v1:=fun hc6=>by simp only[aah];exact⟨by omega,by kernel_rfl⟩) J J J (fun hc6=>?_) (fun hc6=>?_)
 ·
  have hm:=dZ u (show 0<v by omega)
  exact at_ (v,u%v) (by dsimp only;exact⟨⟨h2,by omega,by rw[←h3,iL u v,sM v u,iL]⟩,hm⟩)
 ·
  exact rz rfl (by rw[←h3,show v=0 by omega,mT];rfl)
theorem aj5{m:Int}(h:m.natAbs<9223372036854775808):PF GB prog 138 [vI m] (eF (m:Rat)):=by
 refine fn func138 J J ntmps138 J J (fun C=>?_)
 refine cs 5 J J J (fun hg5=>?_) (fun hg5=>?_)
 ·
  refine cl rfl (aj8 (m:=m) (by omega) (by omega)) rfl<|rf (fu:=⟨0⟩) J J<|?_
  refine eqF 11 (.d (dN 1)) rfl (by unfold dN;rw[amI];rfl) ?_
  refine gx rfl<|cl rfl (aeF (n:=decide (m<0)) (a:=m.natAbs) (i:=63) (h:=⟨h⟩) (d:=1)) rfl<|?_
  exact rz rfl (by rw[adK,show mkRat m 1=(m:Rat) from rL ..];rfl)
 ·
  refine br J J J (fun hc8=>?_) (fun hc8=>?_)
  ·
   refine cl rfl (aj8 (m:=m) (by omega) (by omega)) rfl<|rf (fu:=⟨0⟩) J J<|?_
   refine eqF 11 (.d (dN 1)) rfl (by unfold dN;rw[amI];rfl) ?_
   refine gx rfl<|cl rfl (aeF (n:=decide (m<0)) (a:=m.natAbs) (i:=63) (h:=⟨h⟩) (d:=1)) rfl<|?_
   exact rz rfl (by rw[adK,show mkRat m 1=(m:Rat) from rL ..];rfl)
  ·
   exact rzI rfl (aHc (by omega))
theorem ajr{a b:Int}(ha:a.natAbs<4611686018427387904)(hb:b.natAbs<4611686018427387904):PF GB prog 156 [vI a,vI b] (.tp [vI (tm a b),vB (decide ((a*b).natAbs<4611686018427387904))]):=by
 have hab:=jZ a b
 refine fn func156 J J ntmps156 J J (fun C=>?_)
 refine cl rfl (atS (m:=a) (by omega)) rfl<|cl rfl (atS (m:=b) (by omega)) rfl<|cl rfl (aBk (x:=a.natAbs) (y:=b.natAbs) (by omega) (by omega)) rfl<|?_
 refine cs 18 J J J (fun hg18=>?_) (fun hg18=>?_)
 ·
  exact rz rfl (aD0 (by omega))
 ·
  refine br J J J (fun hc21=>?_) (fun hc21=>?_)
  ·
   exact rz rfl (aD0 (by omega))
  ·
   refine bb J J J (fun hc26=>?_) (fun hc26=>?_)
   ·
    have hs:=amV a b
    rw[if_neg (by simpa using hc26)] at hs
    exact rz rfl (ayn (by omega) (by rw[hs,←hab];omega))
   ·
    have hs:=amV a b
    rw[if_pos (by simpa using hc26)] at hs
    exact rz rfl (ayn (by omega) (by rw[hs,←hab];omega))
theorem aq3{m:Int}{d:Nat}(h:m.natAbs<4611686018427387904)(h0:0<d)(hd:d<4611686018427387904):PF GB prog 157 [vI m,vI (d:Nat)] (eF (mkRat m d)):=by
 have hg:Nat.gcd m.natAbs d≤d:=Nat.gcd_le_right _ h0
 have hg0:0<Nat.gcd m.natAbs d:=qQ _ h0
 obtain⟨e1,e2⟩:=avI (m:=m) h0
 have e3:=mN m (Nat.gcd m.natAbs d:Nat)
 have e4:=kV d (Nat.gcd m.natAbs d)
 have e5:=Nat.div_pos hg hg0
 refine fn func157 J J ntmps157 J J (fun C=>?_)
 refine cl rfl (atS (m:=m) (by omega)) rfl<|cl rfl (aDH (a:=m.natAbs) (b:=d) (by omega) (by omega)) rfl<|?_
 refine br (fu1:=⟨4⟩) J J J (fun hc13=>?_) (fun hc13=>?_)
 ·
  refine eqF 16 (.d (vI (m/(Nat.gcd m.natAbs d:Nat)))) rfl (by rw[aC9 (Int.dvd_natAbs.1 (qR.2 (mW _ _))) h];rfl) ?_
  refine gx (fu:=⟨3⟩) rfl<|?_
  refine eqF 19 (.d (vI ((d/Nat.gcd m.natAbs d:Nat)))) rfl (by rw[aC9 (qR.2 (nV _ _)) (by rw[iR];exact hd)];rfl) ?_
  refine gx (hv:=by simp only[aah];exact⟨by kernel_rfl,by omega⟩) rfl<|?_
  exact rzI rfl (axf (fun k=>k ⟨by rw[e1];omega,by rw[e2];omega⟩) e1 (by rw[e2]) rfl)
 ·
  exact rzI rfl (by have h1:Nat.gcd m.natAbs d=1:=(by omega);rw[h1,sN] at e2;rw[h1,Int.natCast_one,Int.ediv_one] at e1;exact axf (fun k=>k ⟨by rw[e1];omega,by rw[e2];omega⟩) e1 (by rw[e2]) rfl)
theorem abG{p q:Rat}{i j:Nat}[h:BQ p i][k:BQ q j](hi:i≤100000000:=by decide)(hj:j≤100000000:=by decide):PF GB prog 87 [eF p,eF q] (eF (p*q)):=by
 refine fn (fu:=⟨8⟩) func87 J J ntmps87 J J (fun C=>?_)
 refine mg (X:=Unit) (fun _=>[(2, .ov 2 0),(3, .ov 3 0),(4, .ov 4 0)]) (fun _=>[(2,some (.o 142 [.d (vI (fn_ p)), .d (vI (fd_ p)), .d (fp_ p)] true)),(3,some (.o 142 [.d (vI (fn_ q)), .d (vI (fd_ q)), .d (fp_ q)] true)),(4,some (.o 142 [.d (.v (.int .i64 0)), .d (.v (.int .i64 0)), .d (.v (.pointer none))] true))]) (fun _=>True) [2,3,4] [2,3,4] rfl ?_ (fun _=>rfl) (fun _ _=>?_)
 ·
  refine gx rfl<|?_
  refine cs 12 J J J (fun hg12=>?_) (fun hg12=>?_)
  ·
   refine br (fu1:=⟨4⟩) J J J (fun hc16=>?_) (fun hc16=>?_)
   ·
    have hp:=bgF hg12
    have hq:=bgF hc16
    have p1:=aqt hp
    have p2:=ask hp
    have p3:=adV hp
    have p4:=adU hp
    have p5:=p.den_nz
    have q1:=aqt hq
    have q2:=ask hq
    have q3:=adV hq
    have q4:=adU hq
    have q5:=q.den_nz
    refine eqF 19 (.d (vI p.num)) rfl (by rw[p1]) ?_
    refine gx (fu:=⟨2⟩) rfl<|?_
    refine eqF 21 (.d (vI q.num)) rfl (by rw[q1]) ?_
    refine gx rfl<|cl (fu:=⟨12⟩) rfl (ajr (a:=p.num) (b:=q.num) (by omega) (by omega)) rfl<|?_
    refine eqF 28 (.d (vI (p.den:Nat))) rfl (by congr 3;omega) ?_
    refine gx (fu:=⟨3⟩) rfl<|?_
    refine eqF 31 (.d (vI (q.den:Nat))) rfl (by congr 3;omega) ?_
    refine gx rfl<|cl rfl (ajr (a:=(p.den:Nat)) (b:=(q.den:Nat)) (by omega) (by omega)) rfl<|?_
    refine csd 36 J J J (fun hg36=>?_) (fun hg36=>?_)
    ·
     refine bd (fu1:=⟨3⟩) J J J (fun hc38=>?_) (fun hc38=>?_)
     ·
      have hd1:p.den*q.den<4611686018427387904:=by omega
      refine eqF 39 (.d (vI (p.num*q.num))) rfl (by rw[asK hg36]) ?_
      refine gx (fu:=⟨1⟩) rfl<|?_
      refine eqF 40 (.d (vI ((p.den*q.den:Nat)))) rfl (by rw[asK hc38];rfl) ?_
      refine gx rfl<|cl rfl (aq3 (m:=p.num*q.num) (d:=p.den*q.den) hg36 (gS (by omega) (by omega)) hd1) rfl<|?_
      exact rz rfl (by rw[←aek];rfl)
     ·
      exact at_ () trivial
    ·
     exact at_ () trivial
   ·
    exact at_ () trivial
  ·
   exact at_ () trivial
 ·
  refine cl rfl (apk (q:=p) (by omega)) rfl<|cl rfl (apk (q:=q) (by omega)) rfl<|cl rfl (at6 (a:=p.num) (b:=q.num) (by omega) (by omega)) rfl<|?_
  refine cl rfl (ajX (q:=p) (by omega)) rfl<|cl rfl (ajX (q:=q) (by omega)) rfl<|cl rfl (arH (a:=p.den) (b:=q.den) (by omega) (by omega)) rfl<|?_
  refine cl rfl (aeF (n:=decide (p.num*q.num<0)) (a:=(p.num*q.num).natAbs) (d:=p.den*q.den) (i:=i+j) (j:=i+j) (by omega) (by omega)) rfl<|?_
  exact rz rfl (by rw[adK,←aek];rfl)
theorem acQ{p q:Rat}{i j:Nat}[h:BQ p i][k:BQ q j](hi:i≤100000000:=by decide)(hj:j≤100000000:=by decide):PF GB prog 88 [eF p,eF q] (eF (p+q)):=by
 refine fn (fu:=⟨8⟩) func88 J J ntmps88 J J (fun C=>?_)
 refine mg (X:=Unit) (fun _=>[(2, .ov 2 0),(3, .ov 3 0),(4, .ov 4 0)]) (fun _=>[(2,some (.o 142 [.d (vI (fn_ p)), .d (vI (fd_ p)), .d (fp_ p)] true)),(3,some (.o 142 [.d (vI (fn_ q)), .d (vI (fd_ q)), .d (fp_ q)] true)),(4,some (.o 142 [.d (.v (.int .i64 0)), .d (.v (.int .i64 0)), .d (.v (.pointer none))] true))]) (fun _=>True) [2,3,4] [2,3,4] rfl ?_ (fun _=>rfl) (fun _ _=>?_)
 ·
  refine gx rfl<|?_
  refine cs 16 J J J (fun hg16=>?_) (fun hg16=>?_)
  ·
   refine br (fu1:=⟨1⟩) J J J (fun hc20=>?_) (fun hc20=>?_)
   ·
    have hp:=bgF hg16
    have hq:=bgF hc20
    have p1:=aqt hp
    have p2:=ask hp
    have p3:=adV hp
    have p4:=adU hp
    have p5:=p.den_nz
    have q1:=aqt hq
    have q2:=ask hq
    have q3:=adV hq
    have q4:=adU hq
    have q5:=q.den_nz
    refine mg (fu:=⟨4⟩) (X:=Unit) (fun _=>[(2, .ov 2 0),(3, .ov 3 0),(4, .ov 4 0)]) (fun _=>[(2,some (.o 142 [.d (vI (fn_ p)), .d (vI (fd_ p)), .d (fp_ p)] true)),(3,some (.o 142 [.d (vI (fn_ q)), .d (vI (fd_ q)), .d (fp_ q)] true)),(4,some (.o 142 [.d (.v (.int .i64 0)), .d (.v (.int .i64 0)), .d (.v (.pointer none))] true))]) (fun _=>True) [2,3,4] [2,3,4] rfl ?_ (fun _=>rfl) (fun _ _=>?_)
    ·
     refine gx rfl<|?_
     refine cs 24 J J J (fun hg24=>?_) (fun hg24=>?_)
     ·
      refine br (fu1:=⟨4⟩) J J J (fun hc28=>?_) (fun hc28=>?_)
      ·
       refine eqF 30 (.d (vI p.num)) rfl (by rw[p1]) ?_
       refine gx (fu:=⟨2⟩) rfl<|?_
       refine eqF 32 (.d (vI q.num)) rfl (by rw[q1]) ?_
       refine gx rfl<|cl rfl (aj5 (m:=p.num+q.num) (by omega)) rfl<|?_
       exact rz rfl (by rw[alW (q:=p) (by omega),alW (q:=q) (by omega),←oR];rfl)
      ·
       exact at_ () trivial
     ·
      exact at_ () trivial
    ·
     refine eqF 37 (.d (vI p.num)) rfl (by rw[p1]) ?_
     refine gx (fu:=⟨3⟩) rfl<|?_
     refine eqF 40 (.d (vI (q.den:Nat))) rfl (by congr 3;omega) ?_
     refine gx rfl<|cl (fu:=⟨11⟩) rfl (ajr (a:=p.num) (b:=(q.den:Nat)) (by omega) (by omega)) rfl<|?_
     refine eqF 46 (.d (vI q.num)) rfl (by rw[q1]) ?_
     refine gx (fu:=⟨3⟩) rfl<|?_
     refine eqF 49 (.d (vI (p.den:Nat))) rfl (by congr 3;omega) ?_
     refine gx rfl<|cl (fu:=⟨12⟩) rfl (ajr (a:=q.num) (b:=(p.den:Nat)) (by omega) (by omega)) rfl<|?_
     refine eqF 56 (.d (vI (p.den:Nat))) rfl (by congr 3;omega) ?_
     refine gx (fu:=⟨3⟩) rfl<|?_
     refine eqF 59 (.d (vI (q.den:Nat))) rfl (by congr 3;omega) ?_
     refine gx rfl<|cl (fu:=⟨3⟩) rfl (ajr (a:=(p.den:Nat)) (b:=(q.den:Nat)) (by omega) (by omega)) rfl<|?_
     have t1:=aAq p.num (q.den:Nat)
     have t2:=aAq q.num (p.den:Nat)
     have t3:=aAq (p.den:Nat) (q.den:Nat)
     refine gx rfl<|?_
     refine csd 67 J J J (fun hg67=>?_) (fun hg67=>?_)
     ·
      refine csd 70 J J J (fun hg70=>?_) (fun hg70=>?_)
      ·
       refine csd 73 J J J (fun hg73=>?_) (fun hg73=>?_)
       ·
        refine cs 77 J J J (fun hg77=>?_) (fun hg77=>?_)
        ·
         refine br (fu1:=⟨3⟩) J J J (fun hc80=>?_) (fun hc80=>?_)
         ·
          have u1:=asK hg67
          have u2:=asK hg70
          have u3:=asK hg73
          have hd1:p.den*q.den<4611686018427387904:=by omega
          refine eqF 81 (.d (vI (p.num*(q.den:Nat)+q.num*(p.den:Nat)))) rfl (by rw[u1,u2];rfl) ?_
          refine gx (fu:=⟨1⟩) rfl<|?_
          refine eqF 82 (.d (vI ((p.den*q.den:Nat)))) rfl (by rw[u3];rfl) ?_
          refine gx rfl<|cl rfl (aq3 (m:=p.num*(q.den:Nat)+q.num*(p.den:Nat)) (d:=p.den*q.den) (by omega) (gS (by omega) (by omega)) hd1) rfl<|?_
          exact rz rfl (by rw[←aeu];rfl)
         ·
          exact at_ () trivial
        ·
         exact at_ () trivial
       ·
        exact at_ () trivial
      ·
       exact at_ () trivial
     ·
      exact at_ () trivial
   ·
    exact at_ () trivial
  ·
   exact at_ () trivial
 ·
  refine cl rfl (apk (q:=p) (by omega)) rfl<|cl (fu:=⟨1⟩) rfl (ajX (q:=q) (by omega)) rfl<|?_
  refine eqF 88 (.d (eI (q.den:Nat))) rfl (by rw[ayv]) ?_
  refine gx rfl<|cl rfl (at6 (a:=p.num) (b:=(q.den:Nat)) (by omega) (by omega)) rfl<|cl rfl (apk (q:=q) (by omega)) rfl<|cl (fu:=⟨1⟩) rfl (ajX (q:=p) (by omega)) rfl<|?_
  refine eqF 94 (.d (eI (p.den:Nat))) rfl (by rw[ayv]) ?_
  refine gx rfl<|cl rfl (at6 (a:=q.num) (b:=(p.den:Nat)) (by omega) (by omega)) rfl<|cl rfl (aEf (a:=p.num*(q.den:Nat)) (b:=q.num*(p.den:Nat)) (i:=i+j) (j:=j+i) (by omega) (by omega)) rfl<|?_
  refine cl rfl (ajX (q:=p) (by omega)) rfl<|cl rfl (ajX (q:=q) (by omega)) rfl<|cl rfl (arH (a:=p.den) (b:=q.den) (by omega) (by omega)) rfl<|?_
  refine cl rfl (aeF (n:=decide (p.num*(q.den:Nat)+q.num*(p.den:Nat)<0)) (a:=(p.num*(q.den:Nat)+q.num*(p.den:Nat)).natAbs) (d:=p.den*q.den) (i:=i+j+(j+i)+1) (j:=i+j) (by omega) (by omega)) rfl<|?_
  exact rz rfl (by rw[adK,←aeu];rfl)
theorem ahY{p q:Rat}{i j:Nat}[h:BQ p i][k:BQ q j](hi:i≤100000000:=by decide)(hj:j≤100000000:=by decide):PF GB prog 210 [eF p,eF q] (eF (p-q)):=by
 refine fn func210 J J ntmps210 J J (fun C=>?_)
 refine cl rfl (aif (q:=q) (by omega)) rfl<|cl rfl (acQ (p:=p) (q:= -q) (by omega) (by omega)) rfl<|?_
 exact rz rfl (by rw[←Rat.sub_eq_add_neg];rfl)
theorem azb{q:Rat}{i:Nat}[h:BQ q i](hi:i≤400000000:=by decide):PF GB prog 85 [eF q] (eF q⁻¹):=by
 refine fn func85 J J ntmps85 J J (fun C=>?_)
 refine br (v1:=fun hc3=>by simp only[aah];exact⟨⟨hc3,hc3⟩,hc3⟩) J J J (fun hc3=>?_) (fun hc3=>?_)
 ·
  refine cl rfl (aeF (n:=decide (q.num<0)) (a:=q.den) (d:=q.num.natAbs) (by omega) (by omega)) rfl<|?_
  exact rz rfl (by rw[aBE];rfl)
 ·
  have q1:=aqt (ar7 hc3)
  have q2:=ask (ar7 hc3)
  have q3:=adV (ar7 hc3)
  have q4:=adU (ar7 hc3)
  have q5:=q.den_nz
  refine br J J J (fun hc26=>?_) (fun hc26=>?_)
  ·
   exact rzI rfl (by obtain⟨e1,e2⟩:=akb (q:=q) (by omega);exact axf (fun k=>k ⟨by omega,by omega⟩) (by omega) (by omega) rfl)
  ·
   refine br J J J (fun hc39=>?_) (fun hc39=>?_)
   ·
    exact rzI rfl (by rw[nZ.1 (show q.num=0 by omega),Rat.inv_zero];exact aCJ)
   ·
    exact rzI rfl (by obtain⟨e1,e2⟩:=aj4 (q:=q) (by omega);exact axf (fun k=>k ⟨by omega,by omega⟩) (by omega) (by omega) rfl)
theorem akI{p q:Rat}{i j:Nat}[h:BQ p i][k:BQ q j](hi:i≤100000000:=by decide)(hj:j≤100000000:=by decide):PF GB prog 139 [eF p,eF q] (eF (p/q)):=by
 refine fn func139 J J ntmps139 J J (fun C=>?_)
 refine cl rfl (azb (q:=q) (by omega)) rfl<|cl rfl (abG (p:=p) (q:=q⁻¹) (by omega) (by omega)) rfl<|?_
 exact rz rfl (by rw[sJ];rfl)
theorem aCB{G:Gh}{q r:DV}{t:List DV}{vs:List Value}(h: ∀y,Is G r y→Is G q y)(hv:IsLs G (r::t) vs):IsLs G (q::t) vs:=by
 obtain⟨y,m,rfl,h1,h2⟩:=aad.1 hv
 exact .cons (h _ h1) h2
theorem aur{G:Gh}{a q r:DV}{t:List DV}{vs:List Value}(h: ∀y,Is G r y→Is G q y)(hv:IsLs G (a::r::t) vs):IsLs G (a::q::t) vs:=by
 obtain⟨y,m,rfl,h1,h2⟩:=aad.1 hv
 exact .cons h1 (aCB h h2)
theorem aAs{q:Rat}{i:Nat}[h:BQ q i](hi:i≤100000000:=by decide):PF GB prog 87 [eF q, .ag [vI 1,vI 1, .v (.pointer none)]] (eF (q*mkRat 1 2)):=
 (abG (p:=q) (q:=mkRat 1 2) hi).ofI fun G vs hv=>aur (fun y hy=>axf (q:=mkRat 1 2) (fun k=>k ⟨by decide,by decide⟩) (by decide) (by decide) rfl G y hy) hv
theorem aoR{q:Rat}{i:Nat}[h:BQ q i](hi:i≤100000000:=by decide):PF GB prog 150 [eF q] (eF (q*mkRat 1 2)):=by
 refine fn func150 J J ntmps150 J J (fun C=>?_)
 refine cl rfl (aAs (q:=q) (by omega)) rfl<|?_
 exact rz J J
theorem ajv{p q:Rat}{i j:Nat}[h:BQ p i][k:BQ q j](hi:i≤100000000:=by decide)(hj:j≤100000000:=by decide):PF GB prog 164 [eF p,eF q] (vI (abd p q)):=by
 refine fn func164 J J ntmps164 J J (fun C=>?_)
 refine cs 8 J J J (fun hg8=>?_) (fun hg8=>?_)
 ·
  refine cs 13 J J J (fun hg13=>?_) (fun hg13=>?_)
  ·
   refine br J J J (fun hc19=>?_) (fun hc19=>?_)
   ·
    have hp:=bgF hg8
    have hq:=bgF hg13
    have p1:=aqt hp
    have p2:=ask hp
    have p3:=adV hp
    have p4:=adU hp
    have p5:=p.den_nz
    have q1:=aqt hq
    have q2:=ask hq
    have q3:=adV hq
    have q4:=adU hq
    have q5:=q.den_nz
    have hl:=avy (a:=p) (b:=q) (by omega)
    have hr:=avy (a:=q) (b:=p) (by omega)
    unfold abd
    refine br J J J (fun hc20=>?_) (fun hc20=>?_)
    ·
     exact rz rfl (by rw[if_pos (hl.2 (by omega))];rfl)
    ·
     refine br J J J (fun hc26=>?_) (fun hc26=>?_)
     ·
      exact rz rfl (by rw[if_neg (fun e=>by have:=hl.1 e;omega),if_pos (hr.2 (by omega))];rfl)
     ·
      exact rz rfl (by rw[if_neg (fun e=>by have:=hl.1 e;omega),if_neg (fun e=>by have:=hr.1 e;omega)];rfl)
   ·
    refine cl rfl (ahY (p:=p) (q:=q) (by omega) (by omega)) rfl<|cl rfl (ado (q:=p-q) (by omega)) rfl<|?_
    exact rz rfl (by rw[air];rfl)
  ·
   refine cl rfl (ahY (p:=p) (q:=q) (by omega) (by omega)) rfl<|cl rfl (ado (q:=p-q) (by omega)) rfl<|?_
   exact rz rfl (by rw[air];rfl)
 ·
  refine cl rfl (ahY (p:=p) (q:=q) (by omega) (by omega)) rfl<|cl rfl (ado (q:=p-q) (by omega)) rfl<|?_
  exact rz rfl (by rw[air];rfl)
theorem aiw{p q:Rat}{i j:Nat}[h:BQ p i][k:BQ q j](hi:i≤100000000:=by decide)(hj:j≤100000000:=by decide):PF GB prog 265 [eF p,eF q] (vB (decide (p=q))):=by
 refine fn func265 J J ntmps265 J J (fun C=>?_)
 refine cl rfl (ajv (p:=p) (q:=q) hi hj) rfl<|?_
 exact rz rfl (by show DV.v (.bool (decide _))= .v (.bool _);congr 2;exact decide_eq_decide.2 (aeE p q))
theorem aEe{p q:Rat}{i j:Nat}[h:BQ p i][k:BQ q j](hi:i≤100000000:=by decide)(hj:j≤100000000:=by decide):PF GB prog 99 [eF p,eF q] (eF (if p<q then q else p)):=by
 refine fn func99 J J ntmps99 J J (fun C=>?_)
 refine cl rfl (ajv (p:=q) (q:=p) hj hi) rfl<|?_
 refine br J J J (fun hc8=>?_) (fun hc8=>?_)
 ·
  exact rz rfl (by rw[if_pos ((apK q p).1 hc8)];rfl)
 ·
  exact rz rfl (by rw[if_neg (fun e=>hc8 ((apK q p).2 e))];rfl)
theorem aEp{p q:Rat}{i j:Nat}[h:BQ p i][k:BQ q j](hi:i≤100000000:=by decide)(hj:j≤100000000:=by decide):PF GB prog 98 [eF p,eF q] (eF (if q<p then q else p)):=by
 refine fn func98 J J ntmps98 J J (fun C=>?_)
 refine cl rfl (ajv (p:=q) (q:=p) hj hi) rfl<|?_
 refine br J J J (fun hc8=>?_) (fun hc8=>?_)
 ·
  exact rz rfl (by rw[if_pos ((aqj q p).1 hc8)];rfl)
 ·
  exact rz rfl (by rw[if_neg (fun e=>hc8 ((aqj q p).2 e))];rfl)
theorem ah9{p q:Rat}{i j:Nat}[h:BQ p i][k:BQ q j](hi:i≤100000000:=by decide)(hj:j≤100000000:=by decide):PF GB prog 264 [eF p,eF q] (eF (rgcd p q)):=by
 refine fn (fu:=⟨8⟩) func264 J J ntmps264 J J (fun C=>?_)
 refine mg (X:=Unit) (fun _=>[(2, .ov 2 0),(3, .ov 3 0),(4, .ov 4 0)]) (fun _=>[(2,some (.o 142 [.d (vI (fn_ p)), .d (vI (fd_ p)), .d (fp_ p)] true)),(3,some (.o 142 [.d (vI (fn_ q)), .d (vI (fd_ q)), .d (fp_ q)] true)),(4,some (.o 142 [.d (.v (.int .i64 0)), .d (.v (.int .i64 0)), .d (.v (.pointer none))] true))]) (fun _=>True) [2,3,4] [2,3,4] rfl ?_ (fun _=>rfl) (fun _ _=>?_)
 ·
  refine gx rfl<|?_
  refine cs 10 J J J (fun hg10=>?_) (fun hg10=>?_)
  ·
   refine cs 15 J J J (fun hg15=>?_) (fun hg15=>?_)
   ·
    have hp:=bgF hg10
    have hq:=bgF hg15
    have p1:=aqt hp
    have p2:=ask hp
    have p3:=adV hp
    have p4:=adU hp
    have p5:=p.den_nz
    have q1:=aqt hq
    have q2:=ask hq
    have q3:=adV hq
    have q4:=adU hq
    have q5:=q.den_nz
    refine cs 20 J J J (fun hg20=>?_) (fun hg20=>?_)
    ·
     refine br (fu1:=⟨4⟩) J J J (fun hc24=>?_) (fun hc24=>?_)
     ·
      have hg:=aC2 p3 q3
      refine eqF 26 (.d (vI p.num)) rfl (by rw[p1]) ?_
      refine gx rfl<|cl (fu:=⟨2⟩) rfl (atS (m:=p.num) (by omega)) rfl<|?_
      refine eqF 29 (.d (vI q.num)) rfl (by rw[q1]) ?_
      refine gx rfl<|cl rfl (atS (m:=q.num) (by omega)) rfl<|cl (hv:=by simp only[aah];exact⟨by omega,by kernel_rfl⟩) rfl (aDH (a:=p.num.natAbs) (b:=q.num.natAbs) (by omega) (by omega)) rfl<|?_
      exact rzI rfl (by rw[aCs (p:=p) (q:=q) (by omega) (by omega)];exact aHc (by rw[iR];exact hg))
     ·
      exact at_ () trivial
    ·
     exact at_ () trivial
   ·
    exact at_ () trivial
  ·
   exact at_ () trivial
 ·
  refine cl rfl (ajX (q:=p) (by omega)) rfl<|cl rfl (ajX (q:=q) (by omega)) rfl<|cl rfl (arH (a:=p.den) (b:=q.den) (by omega) (by omega)) rfl<|?_
  refine cl rfl (apk (q:=p) (by omega)) rfl<|cl rfl (ajX (q:=q) (by omega)) rfl<|cl rfl (arH (a:=p.num.natAbs) (b:=q.den) (by omega) (by omega)) rfl<|?_
  refine cl rfl (apk (q:=q) (by omega)) rfl<|cl rfl (ajX (q:=p) (by omega)) rfl<|cl rfl (arH (a:=q.num.natAbs) (b:=p.den) (by omega) (by omega)) rfl<|?_
  refine cl rfl (aEc (a:=p.num.natAbs*q.den) (b:=q.num.natAbs*p.den) (i:=i+j) (j:=j+i) (by omega) (by omega)) rfl<|cl rfl (aeF (n:=false) (a:=Nat.gcd (p.num.natAbs*q.den) (q.num.natAbs*p.den)) (d:=p.den*q.den) (i:=i+j+(j+i)) (j:=i+j) (by omega) (by omega)) rfl<|?_
  exact rz J J
end Go.Sx
end
section
namespace Go.Sx
open Go
def crossI(l m:LnQ):Int:=l.a*m.b-m.a*l.b
def meetX(l m:LnQ):Int:=l.b*m.c-m.b*l.c
def meetY(l m:LnQ):Int:=m.a*l.c-l.a*m.c
def abq(l m:LnQ):PtQ:=if crossI l m=0 then⟨0,0⟩ else⟨(meetX l m:Rat)/(crossI l m:Rat),(meetY l m:Rat)/(crossI l m:Rat)⟩
def abx(l:LnQ)(p:PtQ):Rat:=p.dot l.dir/l.dir.dot l.dir
theorem aAh(l:LnQ):l.dir.dot l.dir=l.nor.dot l.nor:=by
 simp only[LnQ.dir,LnQ.nor,PtQ.dot];grind
theorem am5{l:LnQ}(h:l.Ne):0<l.dir.dot l.dir:=by rw[aAh];exact afU h
theorem aen(l m:LnQ):((crossI l m:Int):Rat)=(l.a:Rat)*m.b-(m.a:Rat)*l.b:=by
 unfold crossI;rw[kW,cV,cV]
theorem aku(l m:LnQ):((meetX l m:Int):Rat)=(l.b:Rat)*m.c-(m.b:Rat)*l.c:=by
 unfold meetX;rw[kW,cV,cV]
theorem ak7(l m:LnQ):((meetY l m:Int):Rat)=(m.a:Rat)*l.c-(l.a:Rat)*m.c:=by
 unfold meetY;rw[kW,cV,cV]
theorem afw(l m:LnQ):l.cutK m= -((crossI l m:Int):Rat):=by
 rw[aen];simp only[LnQ.cutK,LnQ.nor,LnQ.dir,PtQ.dot];grind
theorem aqd(l m:LnQ):m.dir.cross l.dir=l.cutK m:=by
 simp only[LnQ.cutK,LnQ.nor,LnQ.dir,PtQ.dot,PtQ.cross];grind
theorem aqg{l:LnQ}:(⟨-((l.c:Rat)/l.dir.dot l.dir)*(l.a:Rat), -((l.c:Rat)/l.dir.dot l.dir)*(l.b:Rat)⟩:PtQ)=l.base:=by
 unfold LnQ.base
 rw[aAh]
 simp only[LnQ.nor,PtQ.scale,PtQ.mk.injEq]
 constructor<;>grind
theorem agO(l:LnQ)(t:Rat):ab8 l.base l.dir t=l.at t:=by
 simp only[ab8,LnQ.at,PtQ.add,PtQ.scale,PtQ.mk.injEq]
 constructor<;>grind
theorem aey{l m:LnQ}(hl:l.Ne)(h:crossI l m≠0):abx l (abq l m)= -(l.cutC m/l.cutK m):=by
 have hd:((crossI l m:Int):Rat)≠0:=fun e=>h (dQ.1 e)
 have hn:=am5 hl
 obtain⟨q,q1,q2⟩:=aos hl
 rw[afw]
 unfold abx abq LnQ.cutC
 rw[if_neg h,q2,abm,aku,ak7]
 have hc:=aen l m
 rw[aAh] at hn⊢
 simp only[LnQ.dir,LnQ.nor,PtQ.dot] at hn q1⊢
 generalize ((crossI l m:Int):Rat)=d at*
 generalize (l.a:Rat)=a at*
 generalize (l.b:Rat)=b at*
 generalize (l.c:Rat)=c at*
 generalize (m.a:Rat)=x at*
 generalize (m.b:Rat)=y at*
 generalize (m.c:Rat)=z at*
 have hn':a*a+b*b≠0:=by grind
 have e:((b*z-y*c)/d*b+(x*c-a*z)/d* -a)=((b*z-y*c)*b-(x*c-a*z)*a)/d:=by grind
 rw[e]
 have k1:(b*z-y*c)*b-(x*c-a*z)*a=(a*a+b*b)*(x*(a*q)+y*(b*q)+z):=by grind
 rw[k1]
 grind
theorem arz{l m:LnQ}(hl:l.Ne)(h:crossI l m≠0):abx l (abq l m)*((crossI l m*(l.a*l.a+l.b*l.b):Int):Rat)=((meetX l m*l.b-meetY l m*l.a:Int):Rat):=by
 have hd:((crossI l m:Int):Rat)≠0:=fun e=>h (dQ.1 e)
 have hn:=am5 hl
 unfold abx abq
 rw[if_neg h]
 simp only[cV,kW,oR]
 simp only[LnQ.dir,PtQ.dot] at hn⊢
 generalize ((crossI l m:Int):Rat)=d at*
 generalize ((meetX l m:Int):Rat)=x at*
 generalize ((meetY l m:Int):Rat)=y at*
 generalize (l.a:Rat)=a at*
 generalize (l.b:Rat)=b at*
 have hn':b*b+ -a* -a≠0:=by grind
 grind
theorem ahp(l m:LnQ)(t:List LnQ)(v:IvQ):ab9 l (m::t) v=if m=l then ab9 l t v else if l.cutB v m then ab9 l t (l.cutV v m) else none:=rfl
def ain(v:IvQ)(t:Rat):IvQ:=if v.nl=true∨0<abd t v.lo then⟨t,v.hi,false,v.nh⟩ else v
def aik(v:IvQ)(t:Rat):IvQ:=if v.nh=true∨abd t v.hi<0 then⟨v.lo,t,v.nl,false⟩ else v
structure IvZ (v:IvQ):Prop where
 lo:v.nl=true→v.lo=0
 hi:v.nh=true→v.hi=0
theorem aj7(a b:Rat):0<abd a b↔b<a:=by
 unfold abd;split
 ·constructor
  ·intro h;exact absurd h (by decide)
  ·intro h;grind
 ·split
  ·exact⟨fun _=>by assumption,fun _=>by decide⟩
  ·constructor
   ·intro h;exact absurd h (by decide)
   ·intro h;exact absurd h (by assumption)
theorem afs(a b:Rat):abd a b<0↔a<b:=by
 unfold abd;split
 ·exact⟨fun _=>by assumption,fun _=>by decide⟩
 ·split
  ·constructor
   ·intro h;exact absurd h (by decide)
   ·intro h;grind
  ·constructor
   ·intro h;exact absurd h (by decide)
   ·intro h;exact absurd h (by assumption)
theorem akX{v:IvQ}(h:IvZ v)(t:Rat):ain v t=v.meet ⟨t,0,false,true⟩:=by
 obtain⟨lo,hi,nl,nh⟩:=v
 obtain⟨h1,h2⟩:=h
 unfold ain IvQ.meet
 simp only[aj7] at*
 cases nl<;>cases nh<;>simp at* <;>(try (split<;>split<;>simp_all<;>grind))<;>grind
theorem akE{v:IvQ}(h:IvZ v)(t:Rat):aik v t=v.meet ⟨0,t,true,false⟩:=by
 obtain⟨lo,hi,nl,nh⟩:=v
 obtain⟨h1,h2⟩:=h
 unfold aik IvQ.meet
 simp only[afs] at*
 cases nl<;>cases nh<;>simp at* <;>(try (split<;>split<;>simp_all<;>grind))<;>grind
theorem IvZ.all:IvZ IvQ.all:=⟨fun _=>rfl,fun _=>rfl⟩
theorem IvZ.lo'{v:IvQ}(h:IvZ v)(t:Rat):IvZ (ain v t):=by
 obtain⟨lo,hi,nl,nh⟩:=v
 unfold ain;split
 ·exact⟨fun h=>by simp at h,h.hi⟩
 ·exact h
theorem IvZ.hi'{v:IvQ}(h:IvZ v)(t:Rat):IvZ (aik v t):=by
 obtain⟨lo,hi,nl,nh⟩:=v
 unfold aik;split
 ·exact⟨h.lo,fun h=>by simp at h⟩
 ·exact h
theorem agn{l m:LnQ}{v:IvQ}(h:crossI l m=0):l.cutV v m=v∧(l.cutB v m=true↔0<m.value l.base):=by
 have hk:l.cutK m=0:=by rw[afw,h];rfl
 exact ahi v hk
theorem aBK{l m:LnQ}{v:IvQ}(hl:l.Ne)(hz:IvZ v)(h:0<m.dir.cross l.dir):crossI l m≠0∧l.cutV v m=ain v (abx l (abq l m))∧l.cutB v m=!(ain v (abx l (abq l m))).empty:=by
 rw[aqd] at h
 have hc:crossI l m≠0:=fun e=>by rw[afw,e] at h;exact absurd h (by decide)
 obtain⟨h1,h2⟩:=anu v h
 refine⟨hc,?_,?_⟩
 ·rw[akX hz,aey hl hc,h1]
 ·rw[akX hz,aey hl hc,←h1]
  rw[←ahb] at h2
  cases hb:l.cutB v m<;>cases he:(l.cutV v m).empty<;>simp_all
theorem azz{l m:LnQ}{v:IvQ}(hl:l.Ne)(hz:IvZ v)(h0:crossI l m≠0)(h: ¬0<m.dir.cross l.dir):l.cutV v m=aik v (abx l (abq l m))∧l.cutB v m=!(aik v (abx l (abq l m))).empty:=by
 rw[aqd] at h
 have hk:l.cutK m≠0:=fun e=>by
  rw[afw] at e
  have:((crossI l m:Int):Rat)=0:=by grind
  exact h0 (dQ.1 this)
 obtain⟨h1,h2⟩:=anR (l:=l) (m:=m) v (by grind)
 refine⟨?_,?_⟩
 ·rw[akE hz,aey hl h0,h1]
 ·rw[akE hz,aey hl h0,←h1]
  rw[←ahb] at h2
  cases hb:l.cutB v m<;>cases he:(l.cutV v m).empty<;>simp_all
end Go.Sx
end
section
namespace Go.Sx
open Go Go.Proofs Tryz
variable {GB:Gh}

def cT:Tr→List DV
 | .leaf b=>[.v (.bool true), .v (.bool b), .v (.bool false), .sl [], .v (.bool false), .sl [], .v (.bool false), .sl [], .v (.pointer none), .v (.pointer none)]
 | .node l x y=>[.v (.bool false), .v (.bool false), .v (.bool (decide (l.a<0))),dN l.a.natAbs, .v (.bool (decide (l.b<0))),dN l.b.natAbs, .v (.bool (decide (l.c<0))),dN l.c.natAbs, .pt (cT x), .pt (cT y)]
def eT(t:Tr):DV:= .pt (cT t)
def eN(n:NQ):DV:= .ag [.v (.bool (decide (n.l.a<0))),dN n.l.a.natAbs, .v (.bool (decide (n.l.b<0))),dN n.l.b.natAbs, .v (.bool (decide (n.l.c<0))),dN n.l.c.natAbs, .v (.int .i64 n.a), .v (.int .i64 n.b)]
def eA(t:Tr):DV:= .ag [.v (.int .i64 (t.num 0)), .sl ((t.wr 0).map eN)]
structure BL (l:LnQ) (k:Nat):Prop where
 a:l.a.natAbs<2^k
 b:l.b.natAbs<2^k
 c:l.c.natAbs<2^k
theorem aFN(ns:List NQ):adh 8 (ns.map eN):=fun d hd=>by
 obtain⟨n,_,rfl⟩:=bK.1 hd;exact⟨rfl,rfl⟩
theorem Tr.all_wr{p:LnQ→Prop}: ∀{t:Tr} (n:Nat),t.all p→ ∀x∈t.wr n,p x.l
 | .leaf b,n,_,x,hx=>by cases hx
 | .node l u v,n,⟨h1,h2,h3⟩,x,hx=>by
  simp only[Tr.wr,jQ,aU,bY] at hx
  rcases hx with rfl|hx|hx
  ·exact h1
  ·exact u.all_wr _ h2 x hx
  ·exact v.all_wr _ h3 x hx
structure LS (l:LnQ):Prop where
 ok:l.ok
 a:l.a.natAbs≤4
 b:l.b.natAbs≤4
 c:l.c.natAbs≤40000
theorem aeV{xs:List LnQ}{i:Nat}(h:i<xs.length):(xs.map eL)[(i:Int).toNat]? =some (eL xs[i]):=by simp[h]
theorem aeQ(xs:List LnQ):(xs.map eL).length=xs.length:=aK ..
theorem au3{α:Type}{xs:List α}{i:Nat}{p:α→Prop}(h: ∀x∈xs.take i,p x)(hi:i<xs.length)(hy:p xs[i]): ∀x∈xs.take (i+1),p x:=by
 intro x hx
 rw[fR hi] at hx
 simp only[bY,aV] at hx
 rcases hx with hx|rfl
 ·exact h x hx
 ·exact hy
theorem asD{a b:Int}(h:decide (a<0)=decide (b<0)):decide (a.natAbs=b.natAbs)=decide (a=b):=by
 have h':a<0↔b<0:=by simpa using h
 exact decide_eq_decide.2 ⟨fun e=>by omega,fun e=>by rw[e]⟩
theorem LnQ.ext'{l m:LnQ}(h1:l.a=m.a)(h2:l.b=m.b)(h3:l.c=m.c):l=m:=by cases l;cases m;simp_all
instance:DecidableEq NQ:=fun x y=>decidable_of_iff (x.l=y.l∧x.a=y.a∧x.b=y.b) (by
 cases x;cases y;simp)
theorem acp(ls:List LnQ):adh 6 (ls.map eL):=fun d hd=>by
 obtain⟨n,_,rfl⟩:=bK.1 hd;exact⟨rfl,rfl⟩
theorem aBt{a b:Nat}(hl:(dg a).length=(dg b).length)(h: ∀j,j<(dg a).length→(dg a).getD j 0=(dg b).getD j 0):a=b:=by
 have e:dg a=dg b:=by
  apply List.ext_getElem hl
  intro i h1 h2
  have:=h i h1
  rw[aX,aX,aQ h1,aQ h2] at this
  exact this
 rw[←aaQ a,e,aaQ]
theorem ak8{z:Int}:PF GB prog 190 [eI z] (eQ (z:Rat)):=by
 refine fn func190 J J ntmps190 J J (fun C=>?_)
 exact rz rfl (by rw[aqN];rfl)
theorem ai8{l:LnQ}:PF GB prog 119 [eL l] (eL l.rev):=by
 refine fn func119 J J ntmps119 J J (fun C=>?_)
 refine cl rfl ajj rfl<|cl rfl ajj rfl<|cl rfl ajj rfl<|?_
 exact rz J J
theorem aoY{a b i j:Nat}[ha:BN a i][hb:BN b j](hi:i≤400000000:=by decide):PF GB prog 146 [dN a,dN b] (vB (decide (a=b))):=by
 have hla:=aaA (dg a)
 have hlb:=aaA (dg b)
 have hba:=aa4 ha.h
 refine fn func146 J J ntmps146 J J (fun C=>?_)
 refine br (fu2:=⟨7⟩) J J J (fun hc10=>?_) (fun hc10=>?_)
 ·
  exact rz rfl (by rw[decide_eq_false (fun e:a=b=>hc10 (by rw[e]))];rfl)
 ·
  refine eqF 12 (.d (vI ((dg a).length:Nat))) rfl (by rw[hla];rfl) ?_
  refine gx rfl<|?_
  refine lp (X:=Nat) (fun i=>[(13, .d (vI (i:Nat))),(12, .d (vI ((dg a).length:Nat))),(0, .d (dN a)),(1, .d (dN b))]) (fun i=>[]) (fun i=>i≤(dg a).length∧ ∀j,j<i→(dg a).getD j 0=(dg b).getD j 0) (fun i=>(dg a).length-i) 0 rfl ⟨bX _,fun j hj=>absurd hj (by omega)⟩ (fun _=>rfl) (fun i hk=>?_)
  obtain⟨h1,h2⟩:=hk
  refine br J J J (fun hc14=>?_) (fun hc14=>?_)
  ·
   refine ix _ rfl (abf (by omega)) rfl<|ix _ rfl (abf (by omega)) rfl<|?_
   refine br J J J (fun hc24=>?_) (fun hc24=>?_)
   ·
    exact rz rfl (by rw[decide_eq_false (fun e:a=b=>hc24 (by rw[e]))];rfl)
   ·
    exact at_ (i+1) ⟨⟨by omega,fun j hj=>by by_cases q:j=i;(subst q;omega);exact h2 j (by omega)⟩,(by omega)⟩
  ·
   exact rz rfl (by rw[decide_eq_true (aBt (by omega) (fun j hj=>h2 j (by omega)))];rfl)
theorem atZ{a b:Int}{i j:Nat}[ha:BI a i][hb:BI b j](hi:i≤400000000:=by decide):PF GB prog 145 [eI a,eI b] (vB (decide (a=b))):=by
 refine fn (fu:=⟨14⟩) func145 J J ntmps145 J J (fun C=>?_)
 refine eqF 9 (.d (.v (.bool (decide (decide (a<0)=decide (b<0)))))) rfl (by congr 2) ?_
 refine gx rfl<|?_
 refine csd 10 J J J (fun hg10=>?_) (fun hg10=>?_)
 ·
  refine cl rfl (aoY (by omega)) rfl<|?_
  exact rz rfl (by show DV.v (.bool _)=DV.v (.bool _);rw[←asD hg10])
 ·
  exact rz rfl (by rw[decide_eq_false (fun e:a=b=>hg10 (by rw[e]))];rfl)
class LB (l:LnQ):Prop where bl:BL l 96
instance LB.a (l:LnQ) [h:LB l]:BI l.a 96:=⟨h.bl.a⟩
instance LB.b (l:LnQ) [h:LB l]:BI l.b 96:=⟨h.bl.b⟩
instance LB.c (l:LnQ) [h:LB l]:BI l.c 96:=⟨h.bl.c⟩
class BPt (p:PtQ) (k:outParam Nat):Prop where
 x:BQ p.x k
 y:BQ p.y k
instance BPt.ix (p:PtQ) (k:Nat) [h:BPt p k]:BQ p.x k:=h.x
instance BPt.iy (p:PtQ) (k:Nat) [h:BPt p k]:BQ p.y k:=h.y
instance BPt.dir (l:LnQ) [LB l]:BPt l.dir 97:=⟨inferInstanceAs (BQ (l.b:Rat) 97),inferInstanceAs (BQ (-(l.a:Rat)) 97)⟩
instance BQ.dot (p q:PtQ) (i j:Nat) [BPt p i] [BPt q j]:BQ (p.dot q) (i+j+(i+j)+1):=inferInstanceAs (BQ (p.x*q.x+p.y*q.y) _)
instance BQ.cross (p q:PtQ) (i j:Nat) [BPt p i] [BPt q j]:BQ (p.cross q) (i+j+(i+j)+1):=inferInstanceAs (BQ (p.x*q.y-p.y*q.x) _)
instance BPt.mov (p q:PtQ) (c:Rat) (i j k:Nat) [BPt p i] [BPt q j] [BQ c k]:BPt (ab8 p q c) (i+(k+j)+1):=⟨inferInstanceAs (BQ (p.x+c*q.x) _),inferInstanceAs (BQ (p.y+c*q.y) _)⟩
instance BQ.value (l:LnQ) (p:PtQ) (i:Nat) [LB l] [BPt p i]:BQ (l.value p) (96+1+i+(96+1+i)+1+(96+1)+1):=inferInstanceAs (BQ ((l.a:Rat)*p.x+(l.b:Rat)*p.y+(l.c:Rat)) _)
theorem aCS{l:LnQ}(h:l.Ne):l.dir.dot l.dir≠0:=by have:=am5 h;grind
theorem akp{l:LnQ}:PF GB prog 131 [eL l] (eP l.dir):=by
 refine fn func131 J J ntmps131 J J (fun C=>?_)
 refine cl rfl ak8 rfl<|cl rfl ak8 rfl<|cl rfl aoV rfl<|?_
 exact rz J J
theorem aAF{p q:PtQ}{i j:Nat}[hp:BPt p i][hq:BPt q j](hi:i≤200000:=by decide)(hj:j≤200000:=by decide):PF GB prog 287 [eP p,eP q] (eQ (p.dot q)):=by
 refine fn func287 J J ntmps287 J J (fun C=>?_)
 refine cl rfl (aaz (by omega) (by omega)) rfl<|cl rfl (aaz (by omega) (by omega)) rfl<|cl rfl (abM (by omega) (by omega)) rfl<|?_
 exact rz J J
theorem ahG{p q:PtQ}{i j:Nat}[hp:BPt p i][hq:BPt q j](hi:i≤200000:=by decide)(hj:j≤200000:=by decide):PF GB prog 80 [eP p,eP q] (eQ (p.cross q)):=by
 refine fn func80 J J ntmps80 J J (fun C=>?_)
 refine cl rfl (aaz (by omega) (by omega)) rfl<|cl rfl (aaz (by omega) (by omega)) rfl<|cl rfl (alD (by omega) (by omega)) rfl<|?_
 exact rz J J
theorem akt{p q:PtQ}{c:Rat}{i j k:Nat}[hp:BPt p i][hq:BPt q j][hc:BQ c k](hi:i≤200000:=by decide)(hj:j≤200000:=by decide)(hk:k≤200000:=by decide):PF GB prog 21 [eP p,eQ c,eP q] (eP (ab8 p q c)):=by
 refine fn func21 J J ntmps21 J J (fun C=>?_)
 refine cl rfl (aaz (by omega) (by omega)) rfl<|cl rfl (abM (by omega) (by omega)) rfl<|cl rfl (aaz (by omega) (by omega)) rfl<|cl rfl (abM (by omega) (by omega)) rfl<|?_
 exact rz J J
theorem amw{l:LnQ}{p:PtQ}{i:Nat}[hl:LB l][hp:BPt p i](hi:i≤400000:=by decide):PF GB prog 282 [eL l,eP p] (eQ (l.value p)):=by
 refine fn func282 J J ntmps282 J J (fun C=>?_)
 refine cl rfl (ak8 (z:=l.a)) rfl<|cl rfl (aaz (by omega) (by omega)) rfl<|cl rfl (ak8 (z:=l.b)) rfl<|cl rfl (aaz (by omega) (by omega)) rfl<|?_
 refine cl rfl (abM (by omega) (by omega)) rfl<|cl rfl (ak8 (z:=l.c)) rfl<|cl rfl (abM (by omega) (by omega)) rfl<|?_
 exact rz J J
theorem apL{l:LnQ}{p:PtQ}{i:Nat}[hl:LB l][hp:BPt p i](hi:i≤400000:=by decide):PF GB prog 280 [eL l,eP p] (vI (l.value p).num.sign):=by
 refine fn func280 J J ntmps280 J J (fun C=>?_)
 refine cl rfl (amw hi) rfl<|cl rfl q_S rfl<|?_
 exact rz J J
theorem avx{l:LnQ}[hl:LB l](hn:l.Ne):PF GB prog 281 [eL l] (eP l.base):=by
 refine fn func281 J J ntmps281 J J (fun C=>?_)
 refine cl rfl akp rfl<|cl rfl (ak8 (z:=l.c)) rfl<|cl rfl aAF rfl<|cl rfl (aia (aCS hn)) rfl<|cl rfl aoV rfl<|cl rfl (ak8 (z:=l.a)) rfl<|?_
 refine cl rfl aaz rfl<|cl rfl (ak8 (z:=l.b)) rfl<|cl rfl aaz rfl<|?_
 exact rz rfl (by rw[←aqg];rfl)
instance BPt.base (l:LnQ) [LB l]:BPt l.base 900:=by
 rw[←aqg]
 constructor
 ·exact BQ.mono (inferInstance:BQ (-((l.c:Rat)/l.dir.dot l.dir)*(l.a:Rat)) _) (by decide)
 ·exact BQ.mono (inferInstance:BQ (-((l.c:Rat)/l.dir.dot l.dir)*(l.b:Rat)) _) (by decide)
theorem aGO{l:LnQ}{t:Rat}{k:Nat}[hl:LB l][ht:BQ t k](hn:l.Ne)(hk:k≤200000:=by decide):PF GB prog 241 [eL l,eQ t] (eP (l.at t)):=by
 refine fn func241 J J ntmps241 J J (fun C=>?_)
 refine cl rfl (avx hn) rfl<|cl rfl akp rfl<|cl rfl (akt (by decide) (by decide) hk) rfl<|?_
 exact rz rfl (by rw[←agO];rfl)
theorem alk{l:LnQ}{p:PtQ}{k:Nat}[hl:LB l][hp:BPt p k](hn:l.Ne)(hk:k≤200000:=by decide):PF GB prog 247 [eL l,eP p] (eQ (abx l p)):=by
 refine fn func247 J J ntmps247 J J (fun C=>?_)
 refine cl rfl akp rfl<|cl rfl (aAF (by omega) (by decide)) rfl<|cl rfl (aAF (by omega) (by decide)) rfl<|cl rfl (aia (aCS hn) (by omega) (by decide)) rfl<|?_
 exact rz J J
instance BI.crossI (l m:LnQ) [LB l] [LB m]:BI (crossI l m) 385:=inferInstanceAs (BI (l.a*m.b-m.a*l.b) 385)
instance BI.meetX (l m:LnQ) [LB l] [LB m]:BI (meetX l m) 385:=inferInstanceAs (BI (l.b*m.c-m.b*l.c) 385)
instance BI.meetY (l m:LnQ) [LB l] [LB m]:BI (meetY l m) 385:=inferInstanceAs (BI (m.a*l.c-l.a*m.c) 385)
instance BPt.imeet (l m:LnQ) [LB l] [LB m]:BPt (abq l m) 772:=by
 unfold abq
 split
 ·exact⟨BQ.mono (k:=1) ⟨by decide,by decide⟩ (by decide),BQ.mono (k:=1) ⟨by decide,by decide⟩ (by decide)⟩
 ·exact⟨inferInstanceAs (BQ ((meetX l m:Rat)/(crossI l m:Rat)) 772),inferInstanceAs (BQ ((meetY l m:Rat)/(crossI l m:Rat)) 772)⟩
theorem ak1(l m:LnQ):(((l.a:Rat)*(m.b:Rat)-(m.a:Rat)*(l.b:Rat)).num.sign=0)↔crossI l m=0:=by
 rw[abW,←aen]
 exact dQ
theorem aqk{l m:LnQ}(h:crossI l m≠0):(l.a:Rat)*(m.b:Rat)-(m.a:Rat)*(l.b:Rat)≠0:=by
 rw[←aen]
 exact fun e=>h (dQ.1 e)
theorem au0{l m:LnQ}[hl:LB l][hm:LB m]:PF GB prog 137 [eL l,eL m] (.tp [eP (abq l m),vB (decide (crossI l m≠0))]):=by
 refine fn func137 J J ntmps137 J J (fun C=>?_)
 refine cl rfl (ak8 (z:=l.a)) rfl<|cl rfl (ak8 (z:=m.b)) rfl<|cl rfl aaz rfl<|cl rfl (ak8 (z:=m.a)) rfl<|cl rfl (ak8 (z:=l.b)) rfl<|?_
 refine cl rfl aaz rfl<|cl rfl alD rfl<|cl rfl q_S rfl<|?_
 refine br J J J (fun hc26=>?_) (fun hc26=>?_)
 ·
  have hcr:=(ak1 l m).1 hc26
  exact rz rfl (by unfold abq;rw[if_pos hcr,decide_eq_false (fun e=>e hcr)];show DV.tp [.ag [_, .sl [], .sl [],_, .sl [], .sl []],_]= .tp [eP ⟨0,0⟩,_];unfold eP dD;simp only[show(0:Rat).num=0 from rfl,show(0:Rat).den=1 from rfl,kY,acD];rfl)
 ·
  have hcr:crossI l m≠0:=fun e=>hc26 ((ak1 l m).2 e)
  refine cl rfl (ak8 (z:=l.b)) rfl<|cl rfl (ak8 (z:=m.c)) rfl<|cl rfl aaz rfl<|cl rfl (ak8 (z:=m.b)) rfl<|cl rfl (ak8 (z:=l.c)) rfl<|?_
  refine cl rfl aaz rfl<|cl rfl alD rfl<|cl rfl (ak8 (z:=m.a)) rfl<|cl rfl (ak8 (z:=l.c)) rfl<|cl rfl aaz rfl<|cl rfl (ak8 (z:=l.a)) rfl<|?_
  refine cl rfl (ak8 (z:=m.c)) rfl<|cl rfl aaz rfl<|cl rfl alD rfl<|cl rfl (aia (aqk hcr)) rfl<|cl rfl (aia (aqk hcr)) rfl<|?_
  exact rz rfl (by unfold abq;rw[if_neg hcr,decide_eq_true hcr,aku,ak7,aen];rfl)
def ajD(l m:LnQ):Int:=if(l.a-m.a).sign≠0 then(l.a-m.a).sign else if(l.b-m.b).sign≠0 then(l.b-m.b).sign else(l.c-m.c).sign
theorem agF(l m:LnQ):ajD l m=0↔l=m:=by
 unfold ajD
 constructor
 ·intro h
  split at h
  ·contradiction
  ·split at h
   ·contradiction
   ·rename_i h1 h2
    have a1:=iJ.1 (Decidable.not_not.1 h1)
    have a2:=iJ.1 (Decidable.not_not.1 h2)
    have a3:=iJ.1 h
    exact LnQ.ext' (by omega) (by omega) (by omega)
 ·rintro rfl
  simp
theorem aqv{l m:LnQ}[hl:LB l][hm:LB m]:PF GB prog 195 [eL l,eL m] (vI (ajD l m)):=by
 refine fn func195 J J ntmps195 J J (fun C=>?_)
 refine cl rfl (ahz (a:=l.a) (b:=m.a)) rfl<|?_
 refine br J J J (fun hc13=>?_) (fun hc13=>?_)
 ·
  exact rz rfl (by show vI _=_;unfold ajD;rw[if_pos hc13])
 ·
  refine cl rfl (ahz (a:=l.b) (b:=m.b)) rfl<|?_
  refine br J J J (fun hc21=>?_) (fun hc21=>?_)
  ·
   exact rz rfl (by show vI _=_;unfold ajD;rw[if_neg hc13,if_pos hc21])
  ·
   refine cl rfl (ahz (a:=l.c) (b:=m.c)) rfl<|?_
   exact rz rfl (by show vI _=_;unfold ajD;rw[if_neg hc13,if_neg hc21])
theorem aym{v:PtQ}:PF GB prog 285 [eP v] (vI v.half):=by
 refine fn func285 J J ntmps285 J J (fun C=>?_)
 refine cl rfl (q_S (q:=v.x)) rfl<|cl rfl (q_S (q:=v.y)) rfl<|?_
 refine cs 13 J J J (fun hg13=>?_) (fun hg13=>?_)
 ·
  refine br J J J (fun hc16=>?_) (fun hc16=>?_)
  ·
   exact rz rfl (by show vI _=vI _;unfold PtQ.half;generalize v.x.num.sign=sx at*;generalize v.y.num.sign=sy at*;congr 1;(repeat' split)<;>omega)
  ·
   refine cs 19 J J J (fun hg19=>?_) (fun hg19=>?_)
   ·
    exact rz rfl (by show vI _=vI _;unfold PtQ.half;generalize v.x.num.sign=sx at*;generalize v.y.num.sign=sy at*;congr 1;(repeat' split)<;>omega)
   ·
    refine cs 22 J J J (fun hg22=>?_) (fun hg22=>?_)
    ·
     refine br J J J (fun hc26=>?_) (fun hc26=>?_)
     ·
      exact rz rfl (by show vI _=vI _;unfold PtQ.half;generalize v.x.num.sign=sx at*;generalize v.y.num.sign=sy at*;congr 1;(repeat' split)<;>omega)
     ·
      exact rz rfl (by show vI _=vI _;unfold PtQ.half;generalize v.x.num.sign=sx at*;generalize v.y.num.sign=sy at*;congr 1;(repeat' split)<;>omega)
    ·
     exact rz rfl (by show vI _=vI _;unfold PtQ.half;generalize v.x.num.sign=sx at*;generalize v.y.num.sign=sy at*;congr 1;(repeat' split)<;>omega)
 ·
  refine cs 19 J J J (fun hg19=>?_) (fun hg19=>?_)
  ·
   exact rz rfl (by show vI _=vI _;unfold PtQ.half;generalize v.x.num.sign=sx at*;generalize v.y.num.sign=sy at*;congr 1;(repeat' split)<;>omega)
  ·
   refine cs 22 J J J (fun hg22=>?_) (fun hg22=>?_)
   ·
    refine br J J J (fun hc26=>?_) (fun hc26=>?_)
    ·
     exact rz rfl (by show vI _=vI _;unfold PtQ.half;generalize v.x.num.sign=sx at*;generalize v.y.num.sign=sy at*;congr 1;(repeat' split)<;>omega)
    ·
     exact rz rfl (by show vI _=vI _;unfold PtQ.half;generalize v.x.num.sign=sx at*;generalize v.y.num.sign=sy at*;congr 1;(repeat' split)<;>omega)
   ·
    exact rz rfl (by show vI _=vI _;unfold PtQ.half;generalize v.x.num.sign=sx at*;generalize v.y.num.sign=sy at*;congr 1;(repeat' split)<;>omega)
theorem aD7(z:Int): -1≤z.sign∧z.sign≤1:=by
 rcases rQ z 0 with h|h|h
 ·rw[fL h];omega
 ·rw[h];decide
 ·rw[gR h];omega
theorem aBi{u v:PtQ}{i j:Nat}[hu:BPt u i][hv:BPt v j](hi:i≤200000:=by decide)(hj:j≤200000:=by decide):PF GB prog 243 [eP u,eP v] (vI (aa9 u v)):=by
 refine fn func243 J J ntmps243 J J (fun C=>?_)
 refine cl rfl (aym (v:=u)) rfl<|cl rfl (aym (v:=v)) rfl<|?_
 refine br J J J (fun hc13=>?_) (fun hc13=>?_)
 ·
  refine br J J J (fun hc16=>?_) (fun hc16=>?_)
  ·
   exact rz rfl (by show vI _=vI _;unfold aa9;rw[if_pos hc16])
  ·
   exact rz rfl (by show vI _=vI _;unfold aa9;rw[if_neg hc16,if_pos (by omega)])
 ·
  refine cl rfl (ahG hi hj) rfl<|cl (hv:=by simp only[aah];exact(by have:=aD7 (u.cross v).num;omega)) rfl q_S rfl<|?_
  exact rz rfl (by show vI _=vI _;unfold aa9;rw[if_neg (by omega),if_neg (by omega)])
instance BQ.i1:BQ (((1:Int):Rat)) 2:=⟨by decide,by decide⟩
def eV(v:IvQ):DV:= .ag [.v (.bool (decide (v.lo.num<0))),dN v.lo.num.natAbs,dD v.lo.den, .v (.bool (decide (v.hi.num<0))),dN v.hi.num.natAbs,dD v.hi.den, .v (.bool v.nl), .v (.bool v.nh)]
theorem aDg:eV IvQ.all= .ag [.v (.bool false), .sl [], .sl [], .v (.bool false), .sl [], .sl [], .v (.bool true), .v (.bool true)]:=by
 unfold eV IvQ.all dD
 simp only[show(0:Rat).num=0 from rfl,show(0:Rat).den=1 from rfl,kY,acD];rfl
theorem auf:eQ 0= .ag [.v (.bool false), .sl [], .sl []]:=by
 unfold eQ dD
 simp only[show(0:Rat).num=0 from rfl,show(0:Rat).den=1 from rfl,kY,acD];rfl
def abE(v:IvQ):Rat:=if v.nl=true∧v.nh=true then 0 else if v.nl=true then v.hi-1 else if v.nh=true then v.lo+1 else(v.lo+v.hi)/2
theorem ayP:PF GB prog 279 [] (eV IvQ.all):=by
 refine fn func279 J J ntmps279 J J (fun C=>?_)
 exact rz rfl (by rw[aDg];rfl)
theorem av1{v:IvQ}{i:Nat}[hl:BQ v.lo i][hh:BQ v.hi i](hi:i≤100000:=by decide):PF GB prog 242 [eV v] (eQ (abE v)):=by
 refine fn func242 J J ntmps242 J J (fun C=>?_)
 refine csb 6 J J J (fun hg6=>?_) (fun hg6=>?_)
 ·
  refine bb J J J (fun hc3=>?_) (fun hc3=>?_)
  ·
   exact rz rfl (by unfold abE;rw[if_pos ⟨hg6,hc3⟩,auf];rfl)
  ·
   refine bb J J J (fun hc11=>?_) (fun hc11=>?_)
   ·
    refine cl rfl (aml (n:=1) (by decide) (by decide)) rfl<|cl rfl (alD (a:=v.hi) (b:=((1:Int):Rat)) (by omega) (by decide)) rfl<|?_
    exact rz rfl (by unfold abE;rw[if_neg (by simp[hc3]),if_pos hc11];rfl)
   ·
    refine bb J J J (fun hc18=>?_) (fun hc18=>?_)
    ·
     refine cl rfl (aml (n:=1) (by decide) (by decide)) rfl<|cl rfl (abM (a:=v.lo) (b:=((1:Int):Rat)) (by omega) (by decide)) rfl<|?_
     exact rz rfl (by simp[hg6] at hc11)
    ·
     refine cl rfl (az8 (a:=v.lo) (b:=v.hi) (by omega) (by omega)) rfl<|?_
     exact rz rfl (by simp[hg6] at hc11)
 ·
  refine bb J J J (fun hc11=>?_) (fun hc11=>?_)
  ·
   refine cl rfl (aml (n:=1) (by decide) (by decide)) rfl<|cl rfl (alD (a:=v.hi) (b:=((1:Int):Rat)) (by omega) (by decide)) rfl<|?_
   exact rz rfl (by simp[hg6] at hc11)
  ·
   refine bb J J J (fun hc18=>?_) (fun hc18=>?_)
   ·
    refine cl rfl (aml (n:=1) (by decide) (by decide)) rfl<|cl rfl (abM (a:=v.lo) (b:=((1:Int):Rat)) (by omega) (by decide)) rfl<|?_
    exact rz rfl (by unfold abE;rw[if_neg (by simp[hg6]),if_neg (by simp[hg6]),if_pos hc18];rfl)
   ·
    refine cl rfl (az8 (a:=v.lo) (b:=v.hi) (by omega) (by omega)) rfl<|?_
    exact rz rfl (by unfold abE;rw[if_neg (by simp[hg6]),if_neg (by simp[hg6]),if_neg (by simp[hc18])];rfl)
theorem BQ.of_fracI{q:Rat}{n D:Int}{i:Nat}(hd:0<D.natAbs)(h:q*((D.natAbs:Nat):Rat)=(n:Rat))(hn:BI n i)(hD:BI D i):BQ q i:=BQ.of_frac hd h hn.h hD.h
theorem ap5{m:Int}{i j:Nat}(h:BI m i)(hij:i≤j):BI m j:=⟨dJ h.h (bV (by decide) hij)⟩
theorem aiq{l m:LnQ}[LB l][LB m](hn:l.Ne)(h:crossI l m≠0):BQ (abx l (abq l m)) 1200:=by
 have e:=arz hn h
 have hA:BI (crossI l m*(l.a*l.a+l.b*l.b)) _:=inferInstance
 have hB:BI (meetX l m*l.b-meetY l m*l.a) _:=inferInstance
 have hne:crossI l m*(l.a*l.a+l.b*l.b)≠0:=by
  intro q
  rcases sV.1 q with q|q
  ·exact h q
  ·have h1:=am5 hn
   simp only[LnQ.dir,PtQ.dot] at h1
   have h2:((l.a*l.a+l.b*l.b:Int):Rat)=((0:Int):Rat):=by rw[q]
   rw[oR,cV,cV] at h2
   have h3:((0:Int):Rat)=0:=rfl
   rw[h3] at h2
   grind
 have hA':=ap5 (j:=1200) hA (by decide)
 have hB':=ap5 (j:=1200) hB (by decide)
 generalize crossI l m*(l.a*l.a+l.b*l.b)=D at*
 generalize meetX l m*l.b-meetY l m*l.a=M at*
 by_cases hD:0<D
 ·refine BQ.of_fracI (n:=M) (D:=D) (by omega) ?_ hB' hA'
  rw[←e]
  congr 1
  have:((D.natAbs:Nat):Int)=D:=by omega
  rw[←this];rfl
 ·refine BQ.of_fracI (n:= -M) (D:=D) (by omega) ?_ (BI.neg M 1200 (h:=hB')) hA'
  rw[mQ,←e]
  have:((D.natAbs:Nat):Rat)= -(D:Rat):=by
   have h1:((D.natAbs:Nat):Int)= -D:=by omega
   rw[←mQ,←h1];rfl
  rw[this];grind
theorem ayD(k:Rat):k.num.sign≤0↔ ¬0<k:=by rw[←acV];omega
theorem av9{w:IvQ}(h1: ¬w.nl=true)(h2: ¬w.nh=true)(h3:0≤abd w.lo w.hi):w.empty=true:=by
 unfold IvQ.empty
 simp[h1,h2,h3]
theorem aoa{w:IvQ}(h:w.nl=true):w.empty=false:=by unfold IvQ.empty;simp[h]
theorem aoy{w:IvQ}(h:w.nh=true):w.empty=false:=by unfold IvQ.empty;simp[h]
theorem aod{w:IvQ}(h: ¬0≤abd w.lo w.hi):w.empty=false:=by unfold IvQ.empty;simp[h]
def acg(l:LnQ):List LnQ→IvQ→IvQ×Bool
 |[],v=>(v,true)
 |m::t,v=>if m=l then acg l t v else if l.cutB v m=true then acg l t (l.cutV v m) else(l.cutV v m,false)
theorem adI{l:LnQ}: ∀{c:List LnQ} {v:IvQ},(acg l c v).2=(ab9 l c v).isSome
 |[],v=>rfl
 |m::t,v=>by
  rw[acg,ahp]
  split
  ·exact adI
  ·split
   ·exact adI
   ·rfl
structure Stp (l:LnQ) (c:List LnQ) (k:Nat) (v:IvQ):Prop where
 le:k≤c.length
 p:ab9 l (c.drop k) v=ab9 l c IvQ.all
 e:acg l (c.drop k) v=acg l c IvQ.all
 z:IvZ v
 lo:BQ v.lo 1200
 hi:BQ v.hi 1200
theorem Stp.skip{l:LnQ}{c:List LnQ}{k:Nat}{v:IvQ}(h:Stp l c k v)(hk:k<c.length)(e:c[k]=l):Stp l c (k+1) v:=
 ⟨hk,by have:=h.p;rw[bZ hk,ahp,if_pos e] at this;exact this,by have:=h.e;rw[bZ hk,acg,if_pos e] at this;exact this,h.z,h.lo,h.hi⟩
theorem Stp.cut{l:LnQ}{c:List LnQ}{k:Nat}{v w:IvQ}(h:Stp l c k v)(hk:k<c.length)(e:c[k]≠l)(hb:l.cutB v c[k]=true)(hw:l.cutV v c[k]=w)(z:IvZ w)(lo:BQ w.lo 1200)(hi:BQ w.hi 1200):Stp l c (k+1) w:=
 ⟨hk,by have:=h.p;rw[bZ hk,ahp,if_neg e,if_pos hb,hw] at this;exact this,by have:=h.e;rw[bZ hk,acg,if_neg e,if_pos hb,hw] at this;exact this,z,lo,hi⟩
theorem Stp.no{l:LnQ}{c:List LnQ}{k:Nat}{v w:IvQ}(h:Stp l c k v)(hk:k<c.length)(e:c[k]≠l)(hb:l.cutB v c[k]=false)(hw:l.cutV v c[k]=w):acg l c IvQ.all=(w,false):=by
 rw[←h.e,bZ hk,acg,if_neg e,if_neg (by rw[hb];decide),hw]
theorem Stp.yes{l:LnQ}{c:List LnQ}{k:Nat}{v:IvQ}(h:Stp l c k v)(hk:c.length≤k):acg l c IvQ.all=(v,true):=by
 rw[←h.e,jU hk];rfl
theorem Stp.all{l:LnQ}{c:List LnQ}:Stp l c 0 IvQ.all:=⟨bX _,by rw[gJ],by rw[gJ],IvZ.all,BQ.mono (k:=1) ⟨by decide,by decide⟩ (by decide),BQ.mono (k:=1) ⟨by decide,by decide⟩ (by decide)⟩
theorem aso{v:IvQ}{t:Rat}(h:v.nl=true∨0<abd t v.lo):(⟨t,v.hi,false,v.nh⟩:IvQ)=ain v t:=by unfold ain;rw[if_pos h]
theorem azY{v:IvQ}{t:Rat}(h: ¬v.nl=true)(h2: ¬0<abd t v.lo):v=ain v t:=by unfold ain;rw[if_neg (fun e=>e.elim h h2)]
theorem aua{v:IvQ}{t:Rat}(h:v.nh=true∨abd t v.hi<0):(⟨v.lo,t,v.nl,false⟩:IvQ)=aik v t:=by unfold aik;rw[if_pos h]
theorem aAA{v:IvQ}{t:Rat}(h: ¬v.nh=true)(h2: ¬abd t v.hi<0):v=aik v t:=by unfold aik;rw[if_neg (fun e=>e.elim h h2)]
def arQ(l m:LnQ)(v:IvQ):IvQ:=if 0<(m.dir.cross l.dir).num.sign then ain v (abx l (abq l m)) else aik v (abx l (abq l m))
theorem aju{l m:LnQ}{v:IvQ}[LB l][LB m](hn:l.Ne)(hz:IvZ v)(hlo:BQ v.lo 1200)(hhi:BQ v.hi 1200)(h0:crossI l m≠0):l.cutV v m=arQ l m v∧l.cutB v m=!(arQ l m v).empty∧IvZ (arQ l m v)∧BQ (arQ l m v).lo 1200∧BQ (arQ l m v).hi 1200:=by
 have hb:=aiq (l:=l) (m:=m) hn h0
 unfold arQ
 split
 ·rename_i h
  obtain⟨_,h1,h2⟩:=aBK hn hz ((acV _).1 h)
  refine⟨h1,h2,hz.lo' _,?_⟩
  unfold ain;split
  ·exact⟨hb,hhi⟩
  ·exact⟨hlo,hhi⟩
 ·rename_i h
  obtain⟨h1,h2⟩:=azz hn hz h0 (fun e=>h ((acV _).2 e))
  refine⟨h1,h2,hz.hi' _,?_⟩
  unfold aik;split
  ·exact⟨hlo,hb⟩
  ·exact⟨hlo,hhi⟩
theorem aiy{l:LnQ}[LB l](hn:l.Ne): ∀{c:List LnQ} {v:IvQ},(∀m∈c,LB m)→IvZ v→BQ v.lo 1200→BQ v.hi 1200→BQ (acg l c v).1.lo 1200∧BQ (acg l c v).1.hi 1200
 |[],v,_,_,h1,h2=>⟨h1,h2⟩
 |m::t,v,hc,hz,h1,h2=>by
  haveI:=hc m aZ
  have hw:IvZ (l.cutV v m)∧BQ (l.cutV v m).lo 1200∧BQ (l.cutV v m).hi 1200:=by
   by_cases h0:crossI l m=0
   ·rw[(agn (v:=v) h0).1];exact⟨hz,h1,h2⟩
   ·obtain⟨u1,_,u3,u4,u5⟩:=aju (v:=v) hn hz h1 h2 h0
    rw[u1];exact⟨u3,u4,u5⟩
  have hc':=fun m hm=>hc m (aJ _ hm)
  rw[acg]
  split
  ·exact aiy hn hc' hz h1 h2
  ·split
   ·exact aiy hn hc' hw.1 hw.2.1 hw.2.2
   ·exact hw.2
theorem ayF{c:List LnQ}{i:Nat}(hc: ∀m∈c,LB m)(hok: ∀m∈c,m.ok)(hn:c.length≤1000)(hi:i<c.length):PF GB prog 239 [.sl (c.map eL),vI (i:Nat)] (.tp [eV (acg (c[i]'hi) c IvQ.all).1,vB (acg (c[i]'hi) c IvQ.all).2]):=by
 have hcl:=aeQ c
 obtain⟨l,hl⟩: ∃l,l=c[i]:=⟨_,rfl⟩
 rw[←hl]
 haveI hlb:LB l:=hl▸hc _ (bN hi)
 have hlo:l.ok:=hl▸hok _ (bN hi)
 refine fn func239 J J ntmps239 J J (fun C=>?_)
 refine ix (fu:=⟨1⟩) _ rfl (aeV hi) rfl<|?_
 refine eqF 16 (.d (eL l)) rfl (by rw[hl];rfl) ?_
 refine gx rfl<|cl (fu:=⟨9⟩) rfl ayP rfl<|?_
 refine eqF 19 (.d (vI (c.length:Nat))) rfl (by rw[hcl];rfl) ?_
 refine gx rfl<|?_
 refine lp (X:=IvQ×Nat) (fun⟨v,k⟩=>[(20, .d (vI (k:Nat))),(19, .d (vI (c.length:Nat))),(18, .d (.sl (c.map eL))),(1, .d (vI (i:Nat))),(6, .ov 6 0),(7, .ov 7 0),(4, .ov 4 0)]) (fun⟨v,k⟩=>[(7,some (.o 233 [.d ((.v (.bool (decide (v.lo.num<0))))), .d (dN v.lo.num.natAbs), .d (dD v.lo.den), .d ((.v (.bool (decide (v.hi.num<0))))), .d (dN v.hi.num.natAbs), .d (dD v.hi.den), .d ((.v (.bool v.nl))), .d ((.v (.bool v.nh)))] true)),(6,some (.o 109 [.d ((.v (.bool (decide (l.a<0))))), .d (dN l.a.natAbs), .d ((.v (.bool (decide (l.b<0))))), .d (dN l.b.natAbs), .d ((.v (.bool (decide (l.c<0))))), .d (dN l.c.natAbs)] true)),(4,some (.o 233 [.ff, .nl, .nl, .ff, .nl, .nl, .ff, .ff] true))]) (fun⟨v,k⟩=>Stp l c k v) (fun⟨v,k⟩=>c.length-k) ⟨IvQ.all,0⟩ rfl Stp.all (fun _=>rfl) (fun⟨v,k⟩ hk=>?_)
 try dsimp only at hk⊢
 have hS:=hk
 refine br J J J (fun hc21=>?_) (fun hc21=>?_)
 ·
  have hk:k<c.length:=by omega
  obtain⟨m,hm⟩: ∃m,m=c[k]:=⟨_,rfl⟩
  haveI hmb:LB m:=hm▸hc _ (bN hk)
  have hmo:m.ok:=hm▸hok _ (bN hk)
  refine ix (fu:=⟨1⟩) _ rfl (aeV hk) rfl<|?_
  refine eqF 24 (.d (eL m)) rfl (by rw[hm];rfl) ?_
  refine gx rfl<|?_
  refine cs 28 J J J (fun hg28=>?_) (fun hg28=>?_)
  ·
   have hinv:Stp l c (k+1) v:=hS.skip hk (by rw[hl];congr 1;omega)
   exact at_ ⟨v,k+1⟩ (by dsimp only;exact⟨hinv,(by omega)⟩)
  ·
   refine cl rfl (aqv (l:=l) (m:=m)) rfl<|?_
   refine br J J J (fun hc33=>?_) (fun hc33=>?_)
   ·
    have hinv:Stp l c (k+1) v:=hS.skip hk (by rw[←hm,(agF l m).1 hc33])
    exact at_ ⟨v,k+1⟩ (by dsimp only;exact⟨hinv,(by omega)⟩)
   ·
    have hne:c[k]≠l:=fun e=>hc33 ((agF l m).2 (by rw[hm,e]))
    refine cl (fu:=⟨13⟩) rfl (au0 (l:=l) (m:=m)) rfl<|?_
    refine eqF 41 (.d (.v (.bool (decide (crossI l m=0))))) rfl (by simp) ?_
    refine gx rfl<|?_
    refine bd J J J (fun hc41=>?_) (fun hc41=>?_)
    ·
     refine cl rfl (avx hlo.ne) rfl<|cl rfl (apL (l:=m) (p:=l.base)) rfl<|?_
     refine br J J J (fun hc46=>?_) (fun hc46=>?_)
     ·
      have hno:=hS.no (w:=v) hk hne (by have:=(agn (v:=v) hc41).2;rw[←hm];cases hb:l.cutB v m with|false=>rfl|true=>exact absurd (this.1 hb) ((ayD _).1 hc46)) (by rw[←hm];exact(agn (v:=v) hc41).1)
      exact rz rfl (by rw[hno];rfl)
     ·
      have hinv:Stp l c (k+1) v:=by have:=agn (v:=v) hc41;exact hS.cut hk hne (by rw[←hm];exact this.2.2 (by have:=mt (ayD (m.value l.base)).2 hc46;exact Decidable.not_not.1 this)) (by rw[←hm];exact this.1) hS.z hS.lo hS.hi
      exact at_ ⟨v,k+1⟩ (by dsimp only;exact⟨hinv,(by omega)⟩)
    ·
     obtain⟨u1,u2,u3,u4,u5⟩:=aju (v:=v) hlo.ne hS.z hS.lo hS.hi hc41
     haveI htb:=aiq hlo.ne hc41
     haveI hvl:=hS.lo
     haveI hvh:=hS.hi
     refine cl (fu:=⟨0⟩) rfl (alk (l:=l) (p:=abq l m) hlo.ne) rfl<|?_
     obtain⟨t,ht⟩: ∃t,t=abx l (abq l m):=⟨_,rfl⟩
     refine eqF 50 (.d (eQ t)) rfl (by rw[ht]) ?_
     rw[←ht] at htb
     refine gx (fu:=⟨5⟩) rfl<|?_
     refine mg (X:=IvQ) (fun w=>[(20, .d (vI (k:Nat))),(19, .d (vI (c.length:Nat))),(18, .d (.sl (c.map eL))),(1, .d (vI (i:Nat))),(6, .ov 6 0),(7, .ov 7 0),(4, .ov 4 0)]) (fun w=>[(7,some (.o 233 [.d ((.v (.bool (decide (w.lo.num<0))))), .d (dN w.lo.num.natAbs), .d (dD w.lo.den), .d ((.v (.bool (decide (w.hi.num<0))))), .d (dN w.hi.num.natAbs), .d (dD w.hi.den), .d ((.v (.bool w.nl))), .d ((.v (.bool w.nh)))] true)),(6,some (.o 109 [.d ((.v (.bool (decide (l.a<0))))), .d (dN l.a.natAbs), .d ((.v (.bool (decide (l.b<0))))), .d (dN l.b.natAbs), .d ((.v (.bool (decide (l.c<0))))), .d (dN l.c.natAbs)] true)),(4,some (.o 233 [.ff, .nl, .nl, .ff, .nl, .nl, .ff, .ff] true))]) (fun w=>w=arQ l m v) [20,19,18,1,6,7,4] [7,6,4] rfl ?_ (fun _=>rfl) (fun w hw=>?_)
     ·
      refine gx rfl<|cl rfl (akp (l:=m)) rfl<|cl rfl (akp (l:=l)) rfl<|cl rfl (ahG (p:=m.dir) (q:=l.dir)) rfl<|cl rfl (q_S (q:=m.dir.cross l.dir)) rfl<|?_
      refine br J J J (fun hc57=>?_) (fun hc57=>?_)
      ·
       refine csb 60 J J J (fun hg60=>?_) (fun hg60=>?_)
       ·
        refine dpE 7 J J J ?_
        exact at_ ⟨t,v.hi,false,v.nh⟩ (by unfold arQ;rw[if_pos hc57,←ht];exact aso (.inl hg60))
       ·
        refine cl rfl (q_C (a:=t) (b:=v.lo)) rfl<|?_
        refine br J J J (fun hc66=>?_) (fun hc66=>?_)
        ·
         refine dpE 7 J J J ?_
         exact at_ ⟨t,v.hi,false,v.nh⟩ (by unfold arQ;rw[if_pos hc57,←ht];exact aso (.inr hc66))
        ·
         exact at_ v (by unfold arQ;rw[if_pos hc57,←ht];exact azY (by simp[hg60]) hc66)
      ·
       refine csb 72 J J J (fun hg72=>?_) (fun hg72=>?_)
       ·
        refine dpE 7 J J J ?_
        exact at_ ⟨v.lo,t,v.nl,false⟩ (by unfold arQ;rw[if_neg hc57,←ht];exact aua (.inl hg72))
       ·
        refine cl rfl (q_C (a:=t) (b:=v.hi)) rfl<|?_
        refine br J J J (fun hc78=>?_) (fun hc78=>?_)
        ·
         refine dpE 7 J J J ?_
         exact at_ ⟨v.lo,t,v.nl,false⟩ (by unfold arQ;rw[if_neg hc57,←ht];exact aua (.inr hc78))
        ·
         exact at_ v (by unfold arQ;rw[if_neg hc57,←ht];exact aAA (by simp[hg72]) hc78)
     ·
      rw[←hw] at u1 u2 u3 u4 u5
      haveI:=u4
      haveI:=u5
      refine csb 85 J J J (fun hg85=>?_) (fun hg85=>?_)
      ·
       refine csb 90 J J J (fun hg90=>?_) (fun hg90=>?_)
       ·
        refine cl rfl (q_C (a:=w.lo) (b:=w.hi)) rfl<|?_
        refine br J J J (fun hc97=>?_) (fun hc97=>?_)
        ·
         have hno:=hS.no (w:=w) hk hne (by rw[←hm,u2,av9 (by simpa using hg85) (by simpa using hg90) hc97];rfl) (by rw[←hm,u1])
         exact rz rfl (by rw[hno];rfl)
        ·
         have hinv:Stp l c (k+1) w:=hS.cut hk hne (by rw[←hm,u2,aod hc97];rfl) (by rw[←hm,u1]) u3 u4 u5
         exact at_ ⟨w,k+1⟩ (by dsimp only;exact⟨hinv,(by omega)⟩)
       ·
        have hinv:Stp l c (k+1) w:=hS.cut hk hne (by rw[←hm,u2,aoy (by simpa using hg90)];rfl) (by rw[←hm,u1]) u3 u4 u5
        exact at_ ⟨w,k+1⟩ (by dsimp only;exact⟨hinv,(by omega)⟩)
      ·
       have hinv:Stp l c (k+1) w:=hS.cut hk hne (by rw[←hm,u2,aoa (by simpa using hg85)];rfl) (by rw[←hm,u1]) u3 u4 u5
       exact at_ ⟨w,k+1⟩ (by dsimp only;exact⟨hinv,(by omega)⟩)
 ·
  exact rz rfl (by rw[hS.yes (by omega)];rfl)
end Go.Sx
end
