import Derived.Test.YtfccecinjmbfhaaGreatDoorMd11
set_option linter.unusedSimpArgs false
set_option maxHeartbeats 4000000
set_option maxRecDepth 100000
set_option linter.unusedVariables false
section
namespace Go.Sx
open Go Go.Proofs Tryz
variable {GB:Gh}
instance BI.zv (neg:Bool) (m i:Nat) [h:BN m i]:BI (zv neg m) i:=⟨by rw[af1];exact h.h⟩
section
variable {GB:Gh} {C:Ctx} {n:Nat} {Q0:Exit→Act→World→Prop} {fr fr':FrX} {own own':OwX} {cf cf':Cf} {vc:List Prop}
def aHK(fr:FrX)(cf:Cf):Option Int:=match opC fr cf with
 |some ⟨_, .convert t t' x,_,_,_,_⟩=>match abc tt t,abc tt t' with
  |some ⟨.int .i64,_,_,_⟩,some ⟨.int .u64,_,_,_⟩=>match evX (lkC fr cf) x with
   |some (.d (.v (.int .i64 p)))=>some p
   |_=>none
  |_,_=>none
 |_=>none
theorem cvw[fu:Fu]{p:Int}(q:Int)(h:aHK fr cf=some p)(e:p%18446744073709551616=q)(hgo:goA tt n fu.n fr own cf (.d (.v (.int .u64 q))) [] []=⟨vc,fr',own',cf'⟩)(k:CfS prog GB C n Q0 fr' own' cf')
  (hv:aah vc:=by first|exact trivial|(simp only[aah];omega)):CfS prog GB C n Q0 fr own cf:=by
 unfold aHK at h
 split at h<;>try (cases h;done)
 rename_i hh
 split at h<;>try (cases h;done)
 rename_i hT hT'
 split at h<;>cases h
 rename_i hx
 have:=akQ (abX _ _ hT) rfl
 have:=akQ (abX _ _ hT') rfl
 refine us hh (.x1 hx fun ρ G ov a w y _ r h1 h2=>?_) hgo hv k
 rw[aaz] at h2;subst h2
 refine⟨_,aaz.2 rfl,?_⟩
 rw[←e,←abS]
 exact alg h1
def aHf(fr:FrX)(cf:Cf):Option Int:=match opC fr cf with
 |some ⟨_, .unOp .neg _ x,_,_,_,_⟩=>match evX (lkC fr cf) x with
  |some (.d (.v (.int .u64 p)))=>some p
  |_=>none
 |_=>none
theorem ngw[fu:Fu]{p:Int}(q:Int)(h:aHf fr cf=some p)(e:(0-p)%18446744073709551616=q)(hgo:goA tt n fu.n fr own cf (.d (.v (.int .u64 q))) [] []=⟨vc,fr',own',cf'⟩)(k:CfS prog GB C n Q0 fr' own' cf')
  (hv:aah vc:=by first|exact trivial|(simp only[aah];omega)):CfS prog GB C n Q0 fr own cf:=by
 unfold aHf at h
 split at h<;>try (cases h;done)
 rename_i hh
 split at h<;>cases h
 rename_i hx
 refine us hh (.x1 hx fun ρ G ov a w y _ r h1 h2=>?_) hgo hv k
 rw[aaz] at h2;subst h2
 refine⟨_,aaz.2 rfl,?_⟩
 rw[←e,←abS]
 exact au5 h1
end
theorem aDo{n:Int}(h0: -4611686018427387904≤n)(h1:n≤4611686018427387904):PF GB prog 76 [.v (.int .i64 n)] (eI n):=by
 refine fn func76 J J ntmps76 J J (fun C=>?_)
 refine br (fu1:=⟨3⟩) (fu2:=⟨6⟩) J J J (fun hc4=>?_) (fun hc4=>?_)
 ·
  refine cvw (fu:=⟨0⟩) (18446744073709551616+n) rfl (by omega) rfl<|ngw (n.natAbs:Nat) rfl (by omega) rfl<|cl rfl (agz (u:=n.natAbs) (by omega)) rfl<|?_
  refine cl rfl acT rfl<|?_
  exact rz rfl (ao1 (by unfold zv;rw[if_pos rfl];omega))
 ·
  refine eqF 11 (.d (.v (.int .u64 (n.natAbs:Nat)))) rfl (by show FX.d (.v (.int _ _))= .d (.v (.int _ _));congr 3;omega) ?_
  refine gx rfl<|cl rfl (agz (u:=n.natAbs) (by omega)) rfl<|cl rfl acT rfl<|?_
  exact rz rfl (ao1 (by unfold zv;rw[if_neg (by decide)];omega))
theorem aq1{z:Int}:PF GB prog 89 [eI z] (vI z.sign):=by
 have hl:=aaA (dg z.natAbs)
 have hz:= @acz z.natAbs
 refine fn func89 J J ntmps89 J J (fun C=>?_)
 refine br J J J (fun hc6=>?_) (fun hc6=>?_)
 ·
  exact rz rfl (by show DV.v (.int _ 0)=DV.v (.int _ _);rw[show z=0 by omega];rfl)
 ·
  refine bd J J J (fun hc8=>?_) (fun hc8=>?_)
  ·
   exact rz rfl (by show DV.v (.int _ (-1))=DV.v (.int _ _);rw[fM (by omega)])
  ·
   exact rz rfl (by show DV.v (.int _ 1)=DV.v (.int _ _);rw[gS (by omega)])
theorem ajb{z:Int}:PF GB prog 184 [eI z] (eI (-z)):=by
 refine fn func184 J J ntmps184 J J (fun C=>?_)
 refine cl rfl acT rfl<|?_
 exact rz rfl (ao1 (aDQ z))
theorem avU{a b:Int}(h:decide (a<0)=decide (b<0)):zv (decide (a<0)) (a.natAbs+b.natAbs)=a+b:=by
 unfold zv
 have h':a<0↔b<0:=by simpa using h
 by_cases q:a<0
 ·have:=h'.1 q
  simp[q];omega
 ·have: ¬b<0:=fun w=>q (h'.2 w)
  simp[q];omega
theorem aBO{a b:Int}(h: ¬decide (a<0)=decide (b<0))(k:a.natAbs<b.natAbs):zv (decide (b<0)) (b.natAbs-a.natAbs)=a+b:=by
 unfold zv
 have h': ¬(a<0↔b<0):=by simpa using h
 by_cases q:b<0
 ·have: ¬a<0:=fun w=>h' ⟨fun _=>q,fun _=>w⟩
  simp[q];omega
 ·have:a<0:=Int.not_le.1 fun w=>h' ⟨fun e=>by omega,fun e=>absurd e q⟩
  simp[q];omega
theorem azK{a b:Int}(h: ¬decide (a<0)=decide (b<0))(k:b.natAbs≤a.natAbs):zv (decide (a<0)) (a.natAbs-b.natAbs)=a+b:=by
 unfold zv
 have h': ¬(a<0↔b<0):=by simpa using h
 by_cases q:a<0
 ·have: ¬b<0:=fun w=>h' ⟨fun _=>w,fun _=>q⟩
  simp[q];omega
 ·have:b<0:=Int.not_le.1 fun w=>h' ⟨fun e=>absurd e q,fun e=>by omega⟩
  simp[q];omega
theorem ax9{a b:Int}{i j:Nat}[ha:BI a i][hb:BI b j](hi:i≤400000000:=by decide)(hj:j≤400000000:=by decide):PF GB prog 105 [eI a,eI b] (eI (a+b)):=by
 have hba:=aa3 ha.h
 have hbb:=aa3 hb.h
 refine fn (fu:=⟨15⟩) func105 J J ntmps105 J J (fun C=>?_)
 refine eqF 9 (.d (.v (.bool (decide (decide (a<0)=decide (b<0)))))) rfl (by congr 2) ?_
 refine gx rfl<|?_
 refine bd J J J (fun hc9=>?_) (fun hc9=>?_)
 ·
  refine cl rfl (aGR (by omega) (by omega)) rfl<|cl rfl acT rfl<|?_
  exact rz rfl (ao1 (avU hc9))
 ·
  refine cl rfl (atf (by omega) (by omega)) rfl<|?_
  refine br J J J (fun hc23=>?_) (fun hc23=>?_)
  ·
   refine cl rfl (atJ (by have:=afA.1 hc23;omega) (by omega)) rfl<|cl rfl acT rfl<|?_
   exact rz rfl (ao1 (aBO hc9 (afA.1 hc23)))
  ·
   refine cl rfl (atJ (rR fun q=>hc23 (afA.2 q)) (by omega)) rfl<|cl rfl acT rfl<|?_
   exact rz rfl (ao1 (azK hc9 (rR fun q=>hc23 (afA.2 q))))
theorem amB{a b:Int}{i j:Nat}[ha:BI a i][hb:BI b j](hi:i≤400000000:=by decide)(hj:j≤400000000:=by decide):PF GB prog 91 [eI a,eI b] (eI (a*b)):=by
 refine fn func91 J J ntmps91 J J (fun C=>?_)
 refine cl rfl (acq (by omega) (by omega)) rfl<|cl rfl acT rfl<|?_
 exact rz rfl (ao1 (azU a b))
theorem ahv{a b:Int}{i j:Nat}[ha:BI a i][hb:BI b j](hi:i≤400000000:=by decide)(hj:j≤400000000:=by decide):PF GB prog 252 [eI a,eI b] (vI (a-b).sign):=by
 refine fn func252 J J ntmps252 J J (fun C=>?_)
 refine cl rfl ajb rfl<|cl rfl (ax9 (by omega) (by omega)) rfl<|cl rfl aq1 rfl<|?_
 exact rz rfl (by rw[Int.sub_eq_add_neg];rfl)
theorem ae9{q:Rat}:PF GB prog 93 [eQ q] (dN q.den):=by
 refine fn func93 J J ntmps93 J J (fun C=>?_)
 refine br J J J (fun hc6=>?_) (fun hc6=>?_)
 ·
  refine cl rfl aA5 rfl<|?_
  exact rz rfl (by rw[(aky q.den (abK q)).1 (by omega)];rfl)
 ·
  exact rz rfl (by exact aEC (fun e=>hc6 (by exact congrArg Int.ofNat ((aky q.den (abK q)).2 e))))
theorem ah7{n k:Nat}[h:BN n k](hk:k≤500000000):(dg n).length≤100000000:=by have:=aa3 h.h;omega
theorem ai0{x:Int}{d i j:Nat}[hx:BI x i][hd:BN d j](hd0:0<d)(hi:i≤200000000:=by decide)(hj:j≤200000000:=by decide):PF GB prog 75 [eI x,dN d] (eQ (mkRat x d)):=by
 obtain⟨q,hq⟩: ∃q,q=mkRat x d:=⟨_,rfl⟩
 obtain⟨g,hg⟩: ∃g,g=Nat.gcd x.natAbs d:=⟨_,rfl⟩
 have hg0:0<g:=hg▸qX _ hd0
 haveI hgB:BN g (i+j):=hg▸inferInstance
 have hg1:(dg g).length≤100000000:=ah7 (k:=i+j) (by omega)
 have ho1:(dg 1).length≤100000000:=by rw[aob];decide
 haveI hqB:BQ q (i+j):=hq▸agB hd0 (dV hx.h (bX (by decide) (by omega))) (dV hd.h (bX (by decide) (by omega)))
 refine fn func75 J J ntmps75 J J (fun C=>?_)
 refine cl (fu:=⟨0⟩) rfl (al3 (by omega) (by omega)) rfl<|?_
 refine eqF 11 (.d (dN g)) rfl (by rw[hg]) ?_
 refine gx (fu:=⟨4⟩) rfl<|?_
 refine mg (fu:=⟨1⟩) (X:=Unit) (fun _=>[(1, .d (dN q.den)),(2, .ov 2 0),(4, .ov 4 0)]) (fun _=>[(4,some (.o 52 [.ff, .nl, .nl] true)),(2,some (.o 50 [.d (.v (.bool (decide (q.num<0)))), .d (dN q.num.natAbs)] true))]) (fun _=>True) [1,2,4] [4,2] rfl ?_ (fun _=>rfl) (fun _ hm=>?_)
 ·
  refine gx rfl<|cl rfl aA5 rfl<|cl rfl (atf hg1 ho1) rfl<|?_
  refine br J J J (fun hc15=>?_) (fun hc15=>?_)
  ·
   refine cl rfl (afG hg0 (by omega) (by omega)) rfl<|cl (fu:=⟨0⟩) rfl acT rfl<|?_
   refine eqF 26 (.d (eI q.num)) rfl (by show FX.d (eI (zv _ _))=_;rw[hg,ayF hd0,hq]) ?_
   refine gx rfl<|cl (fu:=⟨2⟩) rfl (afG hg0 (by omega) (by omega)) rfl<|?_
   refine eqF 31 (.d (dN q.den)) rfl (by rw[hg,azc hd0,hq]) ?_
   refine gx rfl<|?_
   exact at_ () trivial
  ·
   have hm:=aE4 (x:=x) hd0 (by rw[←hg];exact alQ.1 (Decidable.not_not.1 hc15))
   rw[←hq] at hm
   refine eqF 1 (.d (dN q.den)) rfl (by rw[hm.2]) ?_
   exact at_ () trivial (hO:=⟨rfl,by rw[hm.1];rfl,trivial⟩)
 ·
  refine mg (X:=Unit) (fun _=>[(1, .d (dD q.den)),(2, .ov 2 0),(4, .ov 4 0)]) (fun _=>[(4,some (.o 52 [.ff, .nl, .nl] true)),(2,some (.o 50 [.d (.v (.bool (decide (q.num<0)))), .d (dN q.num.natAbs)] true))]) (fun _=>True) [1,2,4] [4,2] rfl ?_ (fun _=>rfl) (fun _ hm=>?_)
  ·
   refine gx rfl<|cl rfl aA5 rfl<|cl rfl (atf (ah7 (k:=i+j) (by omega)) ho1) rfl<|?_
   refine br J J J (fun hc36=>?_) (fun hc36=>?_)
   ·
    refine nlD 1 rfl ?_
    refine eqF 1 (.d (dD q.den)) rfl (by rw[alQ.1 hc36];rfl) ?_
    exact at_ () trivial
   ·
    refine eqF 1 (.d (dD q.den)) rfl (by rw[aEC (fun e=>hc36 (alQ.2 e))]) ?_
    exact at_ () trivial
  ·
   exact rz rfl (by rw[←hq];rfl)
theorem aj1(a:Rat):mkRat a.num a.den=a:=by simp[Rat.mkRat_self]
theorem aur{a b:Rat}(h:b≠0):a/b=mkRat (a.num*zv (decide (b.num<0)) b.den) (a.den*b.num.natAbs):=by
 rw[pL]
 have ha:(a.num:Rat)/(a.den:Rat)=a:=by rw[←pL,aj1]
 have hb:(b.num:Rat)/(b.den:Rat)=b:=by rw[←pL,aj1]
 have h1:(a.den:Rat)≠0:=by have:=a.den_nz;exact_mod_cast this
 have h2:(b.den:Rat)≠0:=by have:=b.den_nz;exact_mod_cast this
 have h3:(b.num:Rat)≠0:=by
  intro e
  rw[e] at hb
  apply h;rw[←hb];grind
 rw[cV,Rat.natCast_mul]
 by_cases q:b.num<0
 ·have e1:((zv (decide (b.num<0)) b.den:Int):Rat)= -(b.den:Rat):=by
   unfold zv;rw[if_pos (by simpa using q),lN];rfl
  have e2:((b.num.natAbs:Nat):Rat)= -(b.num:Rat):=by
   have:((b.num.natAbs:Nat):Int)= -b.num:=by omega
   rw[←lN,←this];rfl
  rw[e1,e2]
  generalize (a.num:Rat)=an at*
  generalize (a.den:Rat)=ad at*
  generalize (b.num:Rat)=bn at*
  generalize (b.den:Rat)=bd at*
  subst ha hb
  grind
 ·have e1:((zv (decide (b.num<0)) b.den:Int):Rat)=(b.den:Rat):=by
   unfold zv;rw[if_neg (by simpa using q)];rfl
  have e2:((b.num.natAbs:Nat):Rat)=(b.num:Rat):=by
   have:((b.num.natAbs:Nat):Int)=b.num:=by omega
   rw[←this];rfl
  rw[e1,e2]
  generalize (a.num:Rat)=an at*
  generalize (a.den:Rat)=ad at*
  generalize (b.num:Rat)=bn at*
  generalize (b.den:Rat)=bd at*
  subst ha hb
  grind
theorem arS{q:Rat}{n:Int}{d:Nat}(hd:0<d)(h:q*(d:Rat)=(n:Rat)):q.num.natAbs≤n.natAbs∧q.den≤d:=by
 have e:q=mkRat n d:=by
  rw[pL]
  have:(d:Rat)≠0:=by exact_mod_cast (by omega:d≠0)
  rw[←h];grind
 rw[e,Rat.num_mkRat,Rat.den_mkRat,if_neg (by omega),if_neg (by omega)]
 exact⟨mM n (d.gcd n.natAbs:Nat),kW ..⟩
theorem BQ.of_frac{q:Rat}{n:Int}{d i:Nat}(hd:0<d)(h:q*(d:Rat)=(n:Rat))(hn:n.natAbs<2^i)(hdi:d<2^i):BQ q i:=by
 have:=arS hd h
 exact⟨by omega,by omega⟩
theorem alb{b:Rat}(h:b≠0):0<b.num.natAbs:=by
 have:b.num≠0:=fun e=>h (oS.1 e)
 omega
instance BQ.over (a b:Rat) (i j:Nat) [ha:BQ a i] [hb:BQ b j]:BQ (a/b) (i+j):=by
 by_cases h:b=0
 ·subst h
  rw[Rat.div_def,Rat.inv_zero,Rat.mul_zero]
  have h2:=ha.hd
  have h3:0<a.den:=abK a
  have h4:2^i*1≤2^i*2^j:=eX _ (eJ (by decide))
  rw[←eK] at h4
  exact⟨by show 0<_;omega,by show 1<_;omega⟩
 ·rw[aur h]
  have hb0:=alb h
  refine agB (gL (abK a) hb0) ?_ (abm ha.hd hb.hn)
  rw[iJ,af1]
  exact abm ha.hn hb.hd
theorem amw{n:Int}(h0: -4611686018427387904≤n)(h1:n≤4611686018427387904):PF GB prog 23 [.v (.int .i64 n)] (eQ (n:Rat)):=by
 refine fn func23 J J ntmps23 J J (fun C=>?_)
 refine cl rfl (aDo (by omega) (by omega)) rfl<|?_
 exact rz rfl (by rw[aqy];rfl)
theorem q_S{q:Rat}:PF GB prog 33 [eQ q] (vI q.num.sign):=by
 refine fn func33 J J ntmps33 J J (fun C=>?_)
 refine cl rfl aq1 rfl<|?_
 exact rz J J
theorem al9{q:Rat}:PF GB prog 186 [eQ q] (eQ (-q)):=by
 refine fn func186 J J ntmps186 J J (fun C=>?_)
 refine cl rfl ajb rfl<|?_
 exact rz rfl (by unfold eQ;rw[oK,sX];rfl)
theorem abu{a b:Rat}{i j:Nat}[ha:BQ a i][hb:BQ b j](hi:i≤20000000:=by decide)(hj:j≤20000000:=by decide):PF GB prog 44 [eQ a,eQ b] (eQ (a*b)):=by
 have had:=abK a
 have hbd:=abK b
 have hdp:=gL had hbd
 have e1:=aky a.den had
 have e2:=aky b.den hbd
 refine fn func44 J J ntmps44 J J (fun C=>?_)
 refine cs 9 J J J (fun hg9=>?_) (fun hg9=>?_)
 ·
  refine br J J J (fun hc14=>?_) (fun hc14=>?_)
  ·
   refine cl rfl (amB (a:=a.num) (b:=b.num) (by omega) (by omega)) rfl<|?_
   exact rz rfl (by rw[aul (e1.1 (by omega)) (e2.1 (by omega)),aqy];rfl)
  ·
   refine cl rfl (amB (a:=a.num) (b:=b.num) (by omega) (by omega)) rfl<|cl rfl ae9 rfl<|cl rfl ae9 rfl<|cl rfl (acq (by omega) (by omega)) rfl<|?_
   refine cl rfl (ai0 hdp (by omega) (by omega)) rfl<|?_
   exact rz rfl (by rw[aen];rfl)
 ·
  refine cl rfl (amB (a:=a.num) (b:=b.num) (by omega) (by omega)) rfl<|cl rfl ae9 rfl<|cl rfl ae9 rfl<|cl rfl (acq (by omega) (by omega)) rfl<|?_
  refine cl rfl (ai0 hdp (by omega) (by omega)) rfl<|?_
  exact rz rfl (by rw[aen];rfl)
theorem ae6{a b:Rat}{i j:Nat}[ha:BQ a i][hb:BQ b j](hi:i≤20000000:=by decide)(hj:j≤20000000:=by decide):PF GB prog 41 [eQ a,eQ b] (eQ (a+b)):=by
 have had:=abK a
 have hbd:=abK b
 have hdp:=gL had hbd
 have e1:=aky a.den had
 have e2:=aky b.den hbd
 refine fn func41 J J ntmps41 J J (fun C=>?_)
 refine cs 9 J J J (fun hg9=>?_) (fun hg9=>?_)
 ·
  refine br J J J (fun hc14=>?_) (fun hc14=>?_)
  ·
   refine cl rfl (ax9 (by omega) (by omega)) rfl<|?_
   exact rz rfl (by rw[axR (e1.1 (by omega)) (e2.1 (by omega)),aqy];rfl)
  ·
   refine cl rfl ae9 rfl<|cl rfl acT rfl<|cl rfl (amB (a:=a.num) (b:=zv false b.den) (by omega) (by omega)) rfl<|cl rfl ae9 rfl<|cl rfl acT rfl<|?_
   refine cl rfl (amB (a:=b.num) (b:=zv false a.den) (by omega) (by omega)) rfl<|cl rfl (ax9 (by omega) (by omega)) rfl<|cl rfl ae9 rfl<|?_
   refine cl rfl ae9 rfl<|cl rfl (acq (by omega) (by omega)) rfl<|cl rfl (ai0 hdp (by omega) (by omega)) rfl<|?_
   exact rz rfl (by rw[aez];rfl)
 ·
  refine cl rfl ae9 rfl<|cl rfl acT rfl<|cl rfl (amB (a:=a.num) (b:=zv false b.den) (by omega) (by omega)) rfl<|cl rfl ae9 rfl<|?_
  refine cl rfl acT rfl<|cl rfl (amB (a:=b.num) (b:=zv false a.den) (by omega) (by omega)) rfl<|cl rfl (ax9 (by omega) (by omega)) rfl<|?_
  refine cl rfl ae9 rfl<|cl rfl ae9 rfl<|cl rfl (acq (by omega) (by omega)) rfl<|cl rfl (ai0 hdp (by omega) (by omega)) rfl<|?_
  exact rz rfl (by rw[aez];rfl)
theorem al7{a b:Rat}{i j:Nat}[ha:BQ a i][hb:BQ b j](hi:i≤20000000:=by decide)(hj:j≤20000000:=by decide):PF GB prog 149 [eQ a,eQ b] (eQ (a-b)):=by
 refine fn func149 J J ntmps149 J J (fun C=>?_)
 refine cl rfl (al9 (q:=b)) rfl<|cl rfl (ae6 (a:=a) (b:= -b) hi hj) rfl<|?_
 exact rz rfl (by rw[Rat.sub_eq_add_neg];rfl)
theorem ak7{a b:Rat}{i j:Nat}[ha:BQ a i][hb:BQ b j](hb0:b≠0)(hi:i≤20000000:=by decide)(hj:j≤20000000:=by decide):PF GB prog 35 [eQ a,eQ b] (eQ (a/b)):=by
 have hbp:=alb hb0
 have hdp:=gL (abK a) hbp
 refine fn func35 J J ntmps35 J J (fun C=>?_)
 refine cl rfl ae9 rfl<|cl rfl acT rfl<|cl rfl (amB (a:=a.num) (b:=zv (decide (b.num<0)) b.den) (by omega) (by omega)) rfl<|cl rfl ae9 rfl<|?_
 refine cl rfl (acq (a:=a.den) (b:=b.num.natAbs) (by omega) (by omega)) rfl<|cl rfl (ai0 (x:=a.num*zv (decide (b.num<0)) b.den) (d:=a.den*b.num.natAbs) hdp (by omega) (by omega)) rfl<|?_
 exact rz rfl (by rw[aur hb0];rfl)
theorem q_C{a b:Rat}{i j:Nat}[ha:BQ a i][hb:BQ b j](hi:i≤20000000:=by decide)(hj:j≤20000000:=by decide):PF GB prog 90 [eQ a,eQ b] (vI (aa9 a b)):=by
 refine fn func90 J J ntmps90 J J (fun C=>?_)
 refine cl rfl (al7 hi hj) rfl<|cl rfl q_S rfl<|?_
 exact rz rfl (by show vI _=vI _;rw[aiM])
theorem aC5:((2:Int):Rat)≠0:=by decide
instance BI.two:BI 2 2:=⟨by decide⟩
theorem atM{a:Rat}{i:Nat}[ha:BQ a i](hi:i≤20000000:=by decide):PF GB prog 283 [eQ a] (eQ (a/2)):=by
 refine fn func283 J J ntmps283 J J (fun C=>?_)
 refine cl rfl (amw (n:=2) (by decide) (by decide)) rfl<|cl rfl (ak7 (a:=a) (b:=((2:Int):Rat)) aC5 hi (by decide)) rfl<|?_
 exact rz J J
theorem aBY{a b:Rat}{i j:Nat}[ha:BQ a i][hb:BQ b j](hi:i≤2000000:=by decide)(hj:j≤2000000:=by decide):PF GB prog 284 [eQ a,eQ b] (eQ ((a+b)/2)):=by
 refine fn func284 J J ntmps284 J J (fun C=>?_)
 refine cl rfl (ae6 (by omega) (by omega)) rfl<|cl rfl (atM (a:=a+b) (by omega)) rfl<|?_
 exact rz J J
theorem aCZ{m:Int}{g:Nat}(hg:(g:Int)∣m)(hb:m.natAbs<4611686018427387904):IntKind.i64.wrap (m.tdiv g)=m/g:=by
 rw[Int.tdiv_eq_ediv_of_dvd hg]
 have:=mM m g
 exact asL (by omega)
def tm(a b:Int):Int:=if(a*b).natAbs<4611686018427387904 then a*b else 0
theorem azV(a b:Int):(tm a b).natAbs<4611686018427387904:=by unfold tm;split<;>omega
theorem auw{a b:Int}(h:(a*b).natAbs<4611686018427387904):tm a b=a*b:=if_pos h
theorem aEM{a b:Int}(h: ¬(a*b).natAbs<4611686018427387904):DV.tp [vI 0, .v (.bool false)]= .tp [vI (tm a b),vB (decide ((a*b).natAbs<4611686018427387904))]:=by unfold tm;rw[if_neg h,decide_eq_false h];rfl
theorem azj{a b:Int}{x:Int}(h:(a*b).natAbs<4611686018427387904)(e:x=a*b):DV.tp [vI x, .v (.bool true)]= .tp [vI (tm a b),vB (decide ((a*b).natAbs<4611686018427387904))]:=by unfold tm;rw[if_pos h,decide_eq_true h,e];rfl
theorem azk(n:Nat):eI (n:Int)= .ag [.v (.bool false),dN n]:=by unfold eI;rw[decide_eq_false (by omega),iS]
theorem aDU{p q:Rat}(hp:p.den=1)(hq:q.den=1):rgcd p q=((Nat.gcd p.num.natAbs q.num.natAbs:Nat):Int):=by
 conv=>lhs;rw[amo hp,amo hq]
 exact agP _ _
theorem aAn(q:Rat):mkRat (zv (decide (q.num<0)) q.den) q.num.natAbs=q⁻¹:=by
 rw[Rat.inv_def]
 by_cases h:q.num<0
 ·rw[decide_eq_true h];exact alh h
 ·rw[decide_eq_false h,←Rat.divInt_ofNat,nX (by omega)];rfl
instance BQ.inv (q:Rat) (i:Nat) [h:BQ q i]:BQ q⁻¹ i:=by
 have h1:=h.hn
 have h2:=h.hd
 have h3:=q.den_nz
 rcases rX q.num 0 with k|k|k
 ·obtain⟨e1,e2⟩:=ajK k;exact⟨by omega,by omega⟩
 ·have e:q=0:=oS.1 k
  have e0:(0:Rat)⁻¹=0:=Rat.inv_zero
  rw[e] at h1 h2⊢;rw[e0];exact⟨h1,h2⟩
 ·obtain⟨e1,e2⟩:=akc k;exact⟨by omega,by omega⟩
instance BQ.half:BQ (mkRat 1 2) 2:=⟨by decide,by decide⟩
theorem aCl{x y:Nat}(hx:x<18446744073709551616)(hy:y<18446744073709551616):PF GB prog 211 [.v (.int .u64 (x:Nat)), .v (.int .u64 (y:Nat))] (.tp [.v (.int .u64 ((x*y/18446744073709551616:Nat):Int)), .v (.int .u64 ((x*y%18446744073709551616:Nat):Int))]):=fun G vs _ hv=>by
 obtain⟨v,m,rfl,h1,h2⟩:=aad.1 hv
 obtain⟨u,m',rfl,h3,h4⟩:=aad.1 h2
 cases aaN.1 h4
 rw[aaX.1 h1,aaX.1 h3]
 exact(ao2 hx hy).mono fun v G' _ h=>by subst h;exact aeE.2 ⟨_,rfl, .cons (aaX.2 rfl) (.cons (aaX.2 rfl) .nil)⟩
theorem aDG{a b:Nat}(ha:a<18446744073709551616)(hb:b<18446744073709551616):PF GB prog 213 [.v (.int .u64 (a:Nat)), .v (.int .u64 (b:Nat))] (.v (.int .u64 (Nat.gcd a b:Nat))):=by
 refine fn func213 J J ntmps213 J J (fun C=>?_)
 refine lp (X:=Nat×Nat) (fun⟨u,v⟩=>[(1, .d (.v (.int .u64 (v:Nat)))),(0, .d (.v (.int .u64 (u:Nat))))]) (fun⟨u,v⟩=>[]) (fun⟨u,v⟩=>u<18446744073709551616∧v<18446744073709551616∧Nat.gcd u v=Nat.gcd a b) (fun⟨u,v⟩=>v) (a,b) rfl ⟨ha,hb,rfl⟩ (fun _=>rfl) (fun⟨u,v⟩ hk=>?_)
 dsimp only at hk⊢
 obtain⟨h1,h2,h3⟩:=hk
 refine br (v1:=fun hc6=>by simp only[aah];exact⟨by omega,by kernel_rfl⟩) J J J (fun hc6=>?_) (fun hc6=>?_)
 ·
  have hm:=dJ u (show 0<v by omega)
  exact at_ (v,u%v) (by dsimp only;exact⟨⟨h2,by omega,by rw[←h3,iM u v,sT v u,iM]⟩,hm⟩)
 ·
  exact rz rfl (by rw[←h3,show v=0 by omega,mU];rfl)
theorem ajG{m:Int}(h:m.natAbs<9223372036854775808):PF GB prog 138 [vI m] (eF (m:Rat)):=by
 refine fn func138 J J ntmps138 J J (fun C=>?_)
 refine cs 5 J J J (fun hg5=>?_) (fun hg5=>?_)
 ·
  refine cl rfl (ajf (m:=m) (by omega) (by omega)) rfl<|rf (fu:=⟨0⟩) J J<|?_
  refine eqF 11 (.d (dN 1)) rfl (by unfold dN;rw[aob];rfl) ?_
  refine gx rfl<|cl rfl (aeS (n:=decide (m<0)) (a:=m.natAbs) (i:=63) (h:=⟨h⟩) (d:=1)) rfl<|?_
  exact rz rfl (by rw[adG,show mkRat m 1=(m:Rat) from rL ..];rfl)
 ·
  refine br J J J (fun hc8=>?_) (fun hc8=>?_)
  ·
   refine cl rfl (ajf (m:=m) (by omega) (by omega)) rfl<|rf (fu:=⟨0⟩) J J<|?_
   refine eqF 11 (.d (dN 1)) rfl (by unfold dN;rw[aob];rfl) ?_
   refine gx rfl<|cl rfl (aeS (n:=decide (m<0)) (a:=m.natAbs) (i:=63) (h:=⟨h⟩) (d:=1)) rfl<|?_
   exact rz rfl (by rw[adG,show mkRat m 1=(m:Rat) from rL ..];rfl)
  ·
   exact rzI rfl (aG6 (by omega))
theorem ajC{a b:Int}(ha:a.natAbs<4611686018427387904)(hb:b.natAbs<4611686018427387904):PF GB prog 156 [vI a,vI b] (.tp [vI (tm a b),vB (decide ((a*b).natAbs<4611686018427387904))]):=by
 have hab:=iJ a b
 refine fn func156 J J ntmps156 J J (fun C=>?_)
 refine cl rfl (at3 (m:=a) (by omega)) rfl<|cl rfl (at3 (m:=b) (by omega)) rfl<|cl rfl (aCl (x:=a.natAbs) (y:=b.natAbs) (by omega) (by omega)) rfl<|?_
 refine cs 18 J J J (fun hg18=>?_) (fun hg18=>?_)
 ·
  exact rz rfl (aEM (by omega))
 ·
  refine br J J J (fun hc21=>?_) (fun hc21=>?_)
  ·
   exact rz rfl (aEM (by omega))
  ·
   refine bb J J J (fun hc26=>?_) (fun hc26=>?_)
   ·
    have hs:=anu a b
    rw[if_neg (by simpa using hc26)] at hs
    exact rz rfl (azj (by omega) (by rw[hs,←hab];omega))
   ·
    have hs:=anu a b
    rw[if_pos (by simpa using hc26)] at hs
    exact rz rfl (azj (by omega) (by rw[hs,←hab];omega))
theorem aqz{m:Int}{d:Nat}(h:m.natAbs<4611686018427387904)(h0:0<d)(hd:d<4611686018427387904):PF GB prog 157 [vI m,vI (d:Nat)] (eF (mkRat m d)):=by
 have hg:Nat.gcd m.natAbs d≤d:=Nat.gcd_le_right _ h0
 have hg0:0<Nat.gcd m.natAbs d:=qX _ h0
 obtain⟨e1,e2⟩:=aum (m:=m) h0
 have e3:=mM m (Nat.gcd m.natAbs d:Nat)
 have e4:=kW d (Nat.gcd m.natAbs d)
 have e5:=Nat.div_pos hg hg0
 refine fn func157 J J ntmps157 J J (fun C=>?_)
 refine cl rfl (at3 (m:=m) (by omega)) rfl<|cl rfl (aDG (a:=m.natAbs) (b:=d) (by omega) (by omega)) rfl<|?_
 refine br (fu1:=⟨4⟩) J J J (fun hc13=>?_) (fun hc13=>?_)
 ·
  refine eqF 16 (.d (vI (m/(Nat.gcd m.natAbs d:Nat)))) rfl (by rw[aCZ (Int.dvd_natAbs.1 (qL.2 (mV _ _))) h];rfl) ?_
  refine gx (fu:=⟨3⟩) rfl<|?_
  refine eqF 19 (.d (vI ((d/Nat.gcd m.natAbs d:Nat)))) rfl (by rw[aCZ (qL.2 (nJ _ _)) (by rw[iS];exact hd)];rfl) ?_
  refine gx (hv:=by simp only[aah];exact⟨by kernel_rfl,by omega⟩) rfl<|?_
  exact rzI rfl (ayk (fun k=>k ⟨by rw[e1];omega,by rw[e2];omega⟩) e1 (by rw[e2]) rfl)
 ·
  exact rzI rfl (by have h1:Nat.gcd m.natAbs d=1:=(by omega);rw[h1,sS] at e2;rw[h1,Int.natCast_one,Int.ediv_one] at e1;exact ayk (fun k=>k ⟨by rw[e1];omega,by rw[e2];omega⟩) e1 (by rw[e2]) rfl)
theorem abG{p q:Rat}{i j:Nat}[h:BQ p i][k:BQ q j](hi:i≤100000000:=by decide)(hj:j≤100000000:=by decide):PF GB prog 87 [eF p,eF q] (eF (p*q)):=by
 refine fn (fu:=⟨8⟩) func87 J J ntmps87 J J (fun C=>?_)
 refine mg (X:=Unit) (fun _=>[(2, .ov 2 0),(3, .ov 3 0),(4, .ov 4 0)]) (fun _=>[(2,some (.o 142 [.d (vI (fn_ p)), .d (vI (fd_ p)), .d (fp_ p)] true)),(3,some (.o 142 [.d (vI (fn_ q)), .d (vI (fd_ q)), .d (fp_ q)] true)),(4,some (.o 142 [.d (.v (.int .i64 0)), .d (.v (.int .i64 0)), .d (.v (.pointer none))] true))]) (fun _=>True) [2,3,4] [2,3,4] rfl ?_ (fun _=>rfl) (fun _ _=>?_)
 ·
  refine gx rfl<|?_
  refine cs 12 J J J (fun hg12=>?_) (fun hg12=>?_)
  ·
   refine br (fu1:=⟨4⟩) J J J (fun hc16=>?_) (fun hc16=>?_)
   ·
    have hp:=bgF hg12
    have hq:=bgF hc16
    have p1:=ap7 hp
    have p2:=asg hp
    have p3:=adU hp
    have p4:=adW hp
    have p5:=p.den_nz
    have q1:=ap7 hq
    have q2:=asg hq
    have q3:=adU hq
    have q4:=adW hq
    have q5:=q.den_nz
    refine eqF 19 (.d (vI p.num)) rfl (by rw[p1]) ?_
    refine gx (fu:=⟨2⟩) rfl<|?_
    refine eqF 21 (.d (vI q.num)) rfl (by rw[q1]) ?_
    refine gx rfl<|cl (fu:=⟨12⟩) rfl (ajC (a:=p.num) (b:=q.num) (by omega) (by omega)) rfl<|?_
    refine eqF 28 (.d (vI (p.den:Nat))) rfl (by congr 3;omega) ?_
    refine gx (fu:=⟨3⟩) rfl<|?_
    refine eqF 31 (.d (vI (q.den:Nat))) rfl (by congr 3;omega) ?_
    refine gx rfl<|cl rfl (ajC (a:=(p.den:Nat)) (b:=(q.den:Nat)) (by omega) (by omega)) rfl<|?_
    refine csd 36 J J J (fun hg36=>?_) (fun hg36=>?_)
    ·
     refine bd (fu1:=⟨3⟩) J J J (fun hc38=>?_) (fun hc38=>?_)
     ·
      have hd1:p.den*q.den<4611686018427387904:=by omega
      refine eqF 39 (.d (vI (p.num*q.num))) rfl (by rw[auw hg36]) ?_
      refine gx (fu:=⟨1⟩) rfl<|?_
      refine eqF 40 (.d (vI ((p.den*q.den:Nat)))) rfl (by rw[auw hc38];rfl) ?_
      refine gx rfl<|cl rfl (aqz (m:=p.num*q.num) (d:=p.den*q.den) hg36 (gL (by omega) (by omega)) hd1) rfl<|?_
      exact rz rfl (by rw[←aen];rfl)
     ·
      exact at_ () trivial
    ·
     exact at_ () trivial
   ·
    exact at_ () trivial
  ·
   exact at_ () trivial
 ·
  refine cl rfl (aoU (q:=p) (by omega)) rfl<|cl rfl (aoU (q:=q) (by omega)) rfl<|cl rfl (avD (a:=p.num) (b:=q.num) (by omega) (by omega)) rfl<|?_
  refine cl rfl (ajc (q:=p) (by omega)) rfl<|cl rfl (ajc (q:=q) (by omega)) rfl<|cl rfl (ar3 (a:=p.den) (b:=q.den) (by omega) (by omega)) rfl<|?_
  refine cl rfl (aeS (n:=decide (p.num*q.num<0)) (a:=(p.num*q.num).natAbs) (d:=p.den*q.den) (i:=i+j) (j:=i+j) (by omega) (by omega)) rfl<|?_
  exact rz rfl (by rw[adG,←aen];rfl)
theorem acL{p q:Rat}{i j:Nat}[h:BQ p i][k:BQ q j](hi:i≤100000000:=by decide)(hj:j≤100000000:=by decide):PF GB prog 88 [eF p,eF q] (eF (p+q)):=by
 refine fn (fu:=⟨8⟩) func88 J J ntmps88 J J (fun C=>?_)
 refine mg (X:=Unit) (fun _=>[(2, .ov 2 0),(3, .ov 3 0),(4, .ov 4 0)]) (fun _=>[(2,some (.o 142 [.d (vI (fn_ p)), .d (vI (fd_ p)), .d (fp_ p)] true)),(3,some (.o 142 [.d (vI (fn_ q)), .d (vI (fd_ q)), .d (fp_ q)] true)),(4,some (.o 142 [.d (.v (.int .i64 0)), .d (.v (.int .i64 0)), .d (.v (.pointer none))] true))]) (fun _=>True) [2,3,4] [2,3,4] rfl ?_ (fun _=>rfl) (fun _ _=>?_)
 ·
  refine gx rfl<|?_
  refine cs 16 J J J (fun hg16=>?_) (fun hg16=>?_)
  ·
   refine br (fu1:=⟨1⟩) J J J (fun hc20=>?_) (fun hc20=>?_)
   ·
    have hp:=bgF hg16
    have hq:=bgF hc20
    have p1:=ap7 hp
    have p2:=asg hp
    have p3:=adU hp
    have p4:=adW hp
    have p5:=p.den_nz
    have q1:=ap7 hq
    have q2:=asg hq
    have q3:=adU hq
    have q4:=adW hq
    have q5:=q.den_nz
    refine mg (fu:=⟨4⟩) (X:=Unit) (fun _=>[(2, .ov 2 0),(3, .ov 3 0),(4, .ov 4 0)]) (fun _=>[(2,some (.o 142 [.d (vI (fn_ p)), .d (vI (fd_ p)), .d (fp_ p)] true)),(3,some (.o 142 [.d (vI (fn_ q)), .d (vI (fd_ q)), .d (fp_ q)] true)),(4,some (.o 142 [.d (.v (.int .i64 0)), .d (.v (.int .i64 0)), .d (.v (.pointer none))] true))]) (fun _=>True) [2,3,4] [2,3,4] rfl ?_ (fun _=>rfl) (fun _ _=>?_)
    ·
     refine gx rfl<|?_
     refine cs 24 J J J (fun hg24=>?_) (fun hg24=>?_)
     ·
      refine br (fu1:=⟨4⟩) J J J (fun hc28=>?_) (fun hc28=>?_)
      ·
       refine eqF 30 (.d (vI p.num)) rfl (by rw[p1]) ?_
       refine gx (fu:=⟨2⟩) rfl<|?_
       refine eqF 32 (.d (vI q.num)) rfl (by rw[q1]) ?_
       refine gx rfl<|cl rfl (ajG (m:=p.num+q.num) (by omega)) rfl<|?_
       exact rz rfl (by rw[amo (q:=p) (by omega),amo (q:=q) (by omega),←oL];rfl)
      ·
       exact at_ () trivial
     ·
      exact at_ () trivial
    ·
     refine eqF 37 (.d (vI p.num)) rfl (by rw[p1]) ?_
     refine gx (fu:=⟨3⟩) rfl<|?_
     refine eqF 40 (.d (vI (q.den:Nat))) rfl (by congr 3;omega) ?_
     refine gx rfl<|cl (fu:=⟨11⟩) rfl (ajC (a:=p.num) (b:=(q.den:Nat)) (by omega) (by omega)) rfl<|?_
     refine eqF 46 (.d (vI q.num)) rfl (by rw[q1]) ?_
     refine gx (fu:=⟨3⟩) rfl<|?_
     refine eqF 49 (.d (vI (p.den:Nat))) rfl (by congr 3;omega) ?_
     refine gx rfl<|cl (fu:=⟨12⟩) rfl (ajC (a:=q.num) (b:=(p.den:Nat)) (by omega) (by omega)) rfl<|?_
     refine eqF 56 (.d (vI (p.den:Nat))) rfl (by congr 3;omega) ?_
     refine gx (fu:=⟨3⟩) rfl<|?_
     refine eqF 59 (.d (vI (q.den:Nat))) rfl (by congr 3;omega) ?_
     refine gx rfl<|cl (fu:=⟨3⟩) rfl (ajC (a:=(p.den:Nat)) (b:=(q.den:Nat)) (by omega) (by omega)) rfl<|?_
     have t1:=azV p.num (q.den:Nat)
     have t2:=azV q.num (p.den:Nat)
     have t3:=azV (p.den:Nat) (q.den:Nat)
     refine gx rfl<|?_
     refine csd 67 J J J (fun hg67=>?_) (fun hg67=>?_)
     ·
      refine csd 70 J J J (fun hg70=>?_) (fun hg70=>?_)
      ·
       refine csd 73 J J J (fun hg73=>?_) (fun hg73=>?_)
       ·
        refine cs 77 J J J (fun hg77=>?_) (fun hg77=>?_)
        ·
         refine br (fu1:=⟨3⟩) J J J (fun hc80=>?_) (fun hc80=>?_)
         ·
          have u1:=auw hg67
          have u2:=auw hg70
          have u3:=auw hg73
          have hd1:p.den*q.den<4611686018427387904:=by omega
          refine eqF 81 (.d (vI (p.num*(q.den:Nat)+q.num*(p.den:Nat)))) rfl (by rw[u1,u2];rfl) ?_
          refine gx (fu:=⟨1⟩) rfl<|?_
          refine eqF 82 (.d (vI ((p.den*q.den:Nat)))) rfl (by rw[u3];rfl) ?_
          refine gx rfl<|cl rfl (aqz (m:=p.num*(q.den:Nat)+q.num*(p.den:Nat)) (d:=p.den*q.den) (by omega) (gL (by omega) (by omega)) hd1) rfl<|?_
          exact rz rfl (by rw[←aez];rfl)
         ·
          exact at_ () trivial
        ·
         exact at_ () trivial
       ·
        exact at_ () trivial
      ·
       exact at_ () trivial
     ·
      exact at_ () trivial
   ·
    exact at_ () trivial
  ·
   exact at_ () trivial
 ·
  refine cl rfl (aoU (q:=p) (by omega)) rfl<|cl (fu:=⟨1⟩) rfl (ajc (q:=q) (by omega)) rfl<|?_
  refine eqF 88 (.d (eI (q.den:Nat))) rfl (by rw[azk]) ?_
  refine gx rfl<|cl rfl (avD (a:=p.num) (b:=(q.den:Nat)) (by omega) (by omega)) rfl<|cl rfl (aoU (q:=q) (by omega)) rfl<|cl (fu:=⟨1⟩) rfl (ajc (q:=p) (by omega)) rfl<|?_
  refine eqF 94 (.d (eI (p.den:Nat))) rfl (by rw[azk]) ?_
  refine gx rfl<|cl rfl (avD (a:=q.num) (b:=(p.den:Nat)) (by omega) (by omega)) rfl<|cl rfl (aEH (a:=p.num*(q.den:Nat)) (b:=q.num*(p.den:Nat)) (i:=i+j) (j:=j+i) (by omega) (by omega)) rfl<|?_
  refine cl rfl (ajc (q:=p) (by omega)) rfl<|cl rfl (ajc (q:=q) (by omega)) rfl<|cl rfl (ar3 (a:=p.den) (b:=q.den) (by omega) (by omega)) rfl<|?_
  refine cl rfl (aeS (n:=decide (p.num*(q.den:Nat)+q.num*(p.den:Nat)<0)) (a:=(p.num*(q.den:Nat)+q.num*(p.den:Nat)).natAbs) (d:=p.den*q.den) (i:=i+j+(j+i)+1) (j:=i+j) (by omega) (by omega)) rfl<|?_
  exact rz rfl (by rw[adG,←aez];rfl)
theorem aic{p q:Rat}{i j:Nat}[h:BQ p i][k:BQ q j](hi:i≤100000000:=by decide)(hj:j≤100000000:=by decide):PF GB prog 210 [eF p,eF q] (eF (p-q)):=by
 refine fn func210 J J ntmps210 J J (fun C=>?_)
 refine cl rfl (ah8 (q:=q) (by omega)) rfl<|cl rfl (acL (p:=p) (q:= -q) (by omega) (by omega)) rfl<|?_
 exact rz rfl (by rw[←Rat.sub_eq_add_neg];rfl)
theorem aCA{q:Rat}{i:Nat}[h:BQ q i](hi:i≤400000000:=by decide):PF GB prog 85 [eF q] (eF q⁻¹):=by
 refine fn func85 J J ntmps85 J J (fun C=>?_)
 refine br (v1:=fun hc3=>by simp only[aah];exact⟨⟨hc3,hc3⟩,hc3⟩) J J J (fun hc3=>?_) (fun hc3=>?_)
 ·
  refine cl rfl (aeS (n:=decide (q.num<0)) (a:=q.den) (d:=q.num.natAbs) (by omega) (by omega)) rfl<|?_
  exact rz rfl (by rw[aAn];rfl)
 ·
  have q1:=ap7 (arE hc3)
  have q2:=asg (arE hc3)
  have q3:=adU (arE hc3)
  have q4:=adW (arE hc3)
  have q5:=q.den_nz
  refine br J J J (fun hc26=>?_) (fun hc26=>?_)
  ·
   exact rzI rfl (by obtain⟨e1,e2⟩:=ajK (q:=q) (by omega);exact ayk (fun k=>k ⟨by omega,by omega⟩) (by omega) (by omega) rfl)
  ·
   refine br J J J (fun hc39=>?_) (fun hc39=>?_)
   ·
    exact rzI rfl (by rw[oS.1 (show q.num=0 by omega),Rat.inv_zero];exact aCV)
   ·
    exact rzI rfl (by obtain⟨e1,e2⟩:=akc (q:=q) (by omega);exact ayk (fun k=>k ⟨by omega,by omega⟩) (by omega) (by omega) rfl)
theorem akD{p q:Rat}{i j:Nat}[h:BQ p i][k:BQ q j](hi:i≤100000000:=by decide)(hj:j≤100000000:=by decide):PF GB prog 139 [eF p,eF q] (eF (p/q)):=by
 refine fn func139 J J ntmps139 J J (fun C=>?_)
 refine cl rfl (aCA (q:=q) (by omega)) rfl<|cl rfl (abG (p:=p) (q:=q⁻¹) (by omega) (by omega)) rfl<|?_
 exact rz rfl (by rw[Rat.div_def];rfl)
theorem aDk{G:Gh}{q r:DV}{t:List DV}{vs:List Value}(h: ∀y,Is G r y→Is G q y)(hv:IsLs G (r::t) vs):IsLs G (q::t) vs:=by
 obtain⟨y,m,rfl,h1,h2⟩:=aad.1 hv
 exact .cons (h _ h1) h2
theorem auc{G:Gh}{a q r:DV}{t:List DV}{vs:List Value}(h: ∀y,Is G r y→Is G q y)(hv:IsLs G (a::r::t) vs):IsLs G (a::q::t) vs:=by
 obtain⟨y,m,rfl,h1,h2⟩:=aad.1 hv
 exact .cons h1 (aDk h h2)
theorem aAM{q:Rat}{i:Nat}[h:BQ q i](hi:i≤100000000:=by decide):PF GB prog 87 [eF q, .ag [vI 1,vI 1, .v (.pointer none)]] (eF (q*mkRat 1 2)):=
 (abG (p:=q) (q:=mkRat 1 2) hi).ofI fun G vs hv=>auc (fun y hy=>ayk (q:=mkRat 1 2) (fun k=>k ⟨by decide,by decide⟩) (by decide) (by decide) rfl G y hy) hv
theorem aoK{q:Rat}{i:Nat}[h:BQ q i](hi:i≤100000000:=by decide):PF GB prog 150 [eF q] (eF (q*mkRat 1 2)):=by
 refine fn func150 J J ntmps150 J J (fun C=>?_)
 refine cl rfl (aAM (q:=q) (by omega)) rfl<|?_
 exact rz J J
theorem ajP{p q:Rat}{i j:Nat}[h:BQ p i][k:BQ q j](hi:i≤100000000:=by decide)(hj:j≤100000000:=by decide):PF GB prog 164 [eF p,eF q] (vI (aa9 p q)):=by
 refine fn func164 J J ntmps164 J J (fun C=>?_)
 refine cs 8 J J J (fun hg8=>?_) (fun hg8=>?_)
 ·
  refine cs 13 J J J (fun hg13=>?_) (fun hg13=>?_)
  ·
   refine br J J J (fun hc19=>?_) (fun hc19=>?_)
   ·
    have hp:=bgF hg8
    have hq:=bgF hg13
    have p1:=ap7 hp
    have p2:=asg hp
    have p3:=adU hp
    have p4:=adW hp
    have p5:=p.den_nz
    have q1:=ap7 hq
    have q2:=asg hq
    have q3:=adU hq
    have q4:=adW hq
    have q5:=q.den_nz
    have hl:=asJ (a:=p) (b:=q) (by omega)
    have hr:=asJ (a:=q) (b:=p) (by omega)
    unfold aa9
    refine br J J J (fun hc20=>?_) (fun hc20=>?_)
    ·
     exact rz rfl (by rw[if_pos (hl.2 (by omega))];rfl)
    ·
     refine br J J J (fun hc26=>?_) (fun hc26=>?_)
     ·
      exact rz rfl (by rw[if_neg (fun e=>by have:=hl.1 e;omega),if_pos (hr.2 (by omega))];rfl)
     ·
      exact rz rfl (by rw[if_neg (fun e=>by have:=hl.1 e;omega),if_neg (fun e=>by have:=hr.1 e;omega)];rfl)
   ·
    refine cl rfl (aic (p:=p) (q:=q) (by omega) (by omega)) rfl<|cl rfl (ado (q:=p-q) (by omega)) rfl<|?_
    exact rz rfl (by rw[aiM];rfl)
  ·
   refine cl rfl (aic (p:=p) (q:=q) (by omega) (by omega)) rfl<|cl rfl (ado (q:=p-q) (by omega)) rfl<|?_
   exact rz rfl (by rw[aiM];rfl)
 ·
  refine cl rfl (aic (p:=p) (q:=q) (by omega) (by omega)) rfl<|cl rfl (ado (q:=p-q) (by omega)) rfl<|?_
  exact rz rfl (by rw[aiM];rfl)
theorem aiz{p q:Rat}{i j:Nat}[h:BQ p i][k:BQ q j](hi:i≤100000000:=by decide)(hj:j≤100000000:=by decide):PF GB prog 265 [eF p,eF q] (vB (decide (p=q))):=by
 refine fn func265 J J ntmps265 J J (fun C=>?_)
 refine cl rfl (ajP (p:=p) (q:=q) hi hj) rfl<|?_
 exact rz rfl (by show DV.v (.bool (decide _))= .v (.bool _);congr 2;exact decide_eq_decide.2 (aeU p q))
theorem auM{p q:Rat}{i j:Nat}[h:BQ p i][k:BQ q j](hi:i≤100000000:=by decide)(hj:j≤100000000:=by decide):PF GB prog 99 [eF p,eF q] (eF (if p<q then q else p)):=by
 refine fn func99 J J ntmps99 J J (fun C=>?_)
 refine cl rfl (ajP (p:=q) (q:=p) hj hi) rfl<|?_
 refine br J J J (fun hc8=>?_) (fun hc8=>?_)
 ·
  exact rz rfl (by rw[if_pos ((ag9 q p).1 hc8)];rfl)
 ·
  exact rz rfl (by rw[if_neg (fun e=>hc8 ((ag9 q p).2 e))];rfl)
theorem at1{p q:Rat}{i j:Nat}[h:BQ p i][k:BQ q j](hi:i≤100000000:=by decide)(hj:j≤100000000:=by decide):PF GB prog 98 [eF p,eF q] (eF (if q<p then q else p)):=by
 refine fn func98 J J ntmps98 J J (fun C=>?_)
 refine cl rfl (ajP (p:=q) (q:=p) hj hi) rfl<|?_
 refine br J J J (fun hc8=>?_) (fun hc8=>?_)
 ·
  exact rz rfl (by rw[if_pos ((agJ q p).1 hc8)];rfl)
 ·
  exact rz rfl (by rw[if_neg (fun e=>hc8 ((agJ q p).2 e))];rfl)
theorem ah6{p q:Rat}{i j:Nat}[h:BQ p i][k:BQ q j](hi:i≤100000000:=by decide)(hj:j≤100000000:=by decide):PF GB prog 264 [eF p,eF q] (eF (rgcd p q)):=by
 refine fn (fu:=⟨8⟩) func264 J J ntmps264 J J (fun C=>?_)
 refine mg (X:=Unit) (fun _=>[(2, .ov 2 0),(3, .ov 3 0),(4, .ov 4 0)]) (fun _=>[(2,some (.o 142 [.d (vI (fn_ p)), .d (vI (fd_ p)), .d (fp_ p)] true)),(3,some (.o 142 [.d (vI (fn_ q)), .d (vI (fd_ q)), .d (fp_ q)] true)),(4,some (.o 142 [.d (.v (.int .i64 0)), .d (.v (.int .i64 0)), .d (.v (.pointer none))] true))]) (fun _=>True) [2,3,4] [2,3,4] rfl ?_ (fun _=>rfl) (fun _ _=>?_)
 ·
  refine gx rfl<|?_
  refine cs 10 J J J (fun hg10=>?_) (fun hg10=>?_)
  ·
   refine cs 15 J J J (fun hg15=>?_) (fun hg15=>?_)
   ·
    have hp:=bgF hg10
    have hq:=bgF hg15
    have p1:=ap7 hp
    have p2:=asg hp
    have p3:=adU hp
    have p4:=adW hp
    have p5:=p.den_nz
    have q1:=ap7 hq
    have q2:=asg hq
    have q3:=adU hq
    have q4:=adW hq
    have q5:=q.den_nz
    refine cs 20 J J J (fun hg20=>?_) (fun hg20=>?_)
    ·
     refine br (fu1:=⟨4⟩) J J J (fun hc24=>?_) (fun hc24=>?_)
     ·
      have hg:=aEz p3 q3
      refine eqF 26 (.d (vI p.num)) rfl (by rw[p1]) ?_
      refine gx rfl<|cl (fu:=⟨2⟩) rfl (at3 (m:=p.num) (by omega)) rfl<|?_
      refine eqF 29 (.d (vI q.num)) rfl (by rw[q1]) ?_
      refine gx rfl<|cl rfl (at3 (m:=q.num) (by omega)) rfl<|cl (hv:=by simp only[aah];exact⟨by omega,by kernel_rfl⟩) rfl (aDG (a:=p.num.natAbs) (b:=q.num.natAbs) (by omega) (by omega)) rfl<|?_
      exact rzI rfl (by rw[aDU (p:=p) (q:=q) (by omega) (by omega)];exact aG6 (by rw[iS];exact hg))
     ·
      exact at_ () trivial
    ·
     exact at_ () trivial
   ·
    exact at_ () trivial
  ·
   exact at_ () trivial
 ·
  refine cl rfl (ajc (q:=p) (by omega)) rfl<|cl rfl (ajc (q:=q) (by omega)) rfl<|cl rfl (ar3 (a:=p.den) (b:=q.den) (by omega) (by omega)) rfl<|?_
  refine cl rfl (aoU (q:=p) (by omega)) rfl<|cl rfl (ajc (q:=q) (by omega)) rfl<|cl rfl (ar3 (a:=p.num.natAbs) (b:=q.den) (by omega) (by omega)) rfl<|?_
  refine cl rfl (aoU (q:=q) (by omega)) rfl<|cl rfl (ajc (q:=p) (by omega)) rfl<|cl rfl (ar3 (a:=q.num.natAbs) (b:=p.den) (by omega) (by omega)) rfl<|?_
  refine cl rfl (aDh (a:=p.num.natAbs*q.den) (b:=q.num.natAbs*p.den) (i:=i+j) (j:=j+i) (by omega) (by omega)) rfl<|cl rfl (aeS (n:=false) (a:=Nat.gcd (p.num.natAbs*q.den) (q.num.natAbs*p.den)) (d:=p.den*q.den) (i:=i+j+(j+i)) (j:=i+j) (by omega) (by omega)) rfl<|?_
  exact rz J J
end Go.Sx
end
section
namespace Go.Sx
open Go
def crossI(l m:LnQ):Int:=l.a*m.b-m.a*l.b
def meetX(l m:LnQ):Int:=l.b*m.c-m.b*l.c
def meetY(l m:LnQ):Int:=m.a*l.c-l.a*m.c
def abq(l m:LnQ):PtQ:=if crossI l m=0 then⟨0,0⟩ else⟨(meetX l m:Rat)/(crossI l m:Rat),(meetY l m:Rat)/(crossI l m:Rat)⟩
def abw(l:LnQ)(p:PtQ):Rat:=p.dot l.dir/l.dir.dot l.dir
theorem aAZ(l:LnQ):l.dir.dot l.dir=l.nor.dot l.nor:=by
 simp only[LnQ.dir,LnQ.nor,PtQ.dot];grind
theorem ane{l:LnQ}(h:l.Ne):0<l.dir.dot l.dir:=by rw[aAZ];exact afU h
theorem aey(l m:LnQ):((crossI l m:Int):Rat)=(l.a:Rat)*m.b-(m.a:Rat)*l.b:=by
 unfold crossI;rw[kY,cV,cV]
theorem alc(l m:LnQ):((meetX l m:Int):Rat)=(l.b:Rat)*m.c-(m.b:Rat)*l.c:=by
 unfold meetX;rw[kY,cV,cV]
theorem ald(l m:LnQ):((meetY l m:Int):Rat)=(m.a:Rat)*l.c-(l.a:Rat)*m.c:=by
 unfold meetY;rw[kY,cV,cV]
theorem afC(l m:LnQ):l.cutK m= -((crossI l m:Int):Rat):=by
 rw[aey];simp only[LnQ.cutK,LnQ.nor,LnQ.dir,PtQ.dot];grind
theorem aq8(l m:LnQ):m.dir.cross l.dir=l.cutK m:=by
 simp only[LnQ.cutK,LnQ.nor,LnQ.dir,PtQ.dot,PtQ.cross];grind
theorem aqw{l:LnQ}:(⟨-((l.c:Rat)/l.dir.dot l.dir)*(l.a:Rat), -((l.c:Rat)/l.dir.dot l.dir)*(l.b:Rat)⟩:PtQ)=l.base:=by
 unfold LnQ.base
 rw[aAZ]
 simp only[LnQ.nor,PtQ.scale,PtQ.mk.injEq]
 constructor<;>grind
theorem agW(l:LnQ)(t:Rat):adv l.base l.dir t=l.at t:=by
 simp only[adv,LnQ.at,PtQ.add,PtQ.scale,PtQ.mk.injEq]
 constructor<;>grind
theorem aer{l m:LnQ}(hl:l.Ne)(h:crossI l m≠0):abw l (abq l m)= -(l.cutC m/l.cutK m):=by
 have hd:((crossI l m:Int):Rat)≠0:=fun e=>h (cN.1 e)
 have hn:=ane hl
 obtain⟨q,q1,q2⟩:=anY hl
 rw[afC]
 unfold abw abq LnQ.cutC
 rw[if_neg h,q2,abD,alc,ald]
 have hc:=aey l m
 rw[aAZ] at hn⊢
 simp only[LnQ.dir,LnQ.nor,PtQ.dot] at hn q1⊢
 generalize ((crossI l m:Int):Rat)=d at*
 generalize (l.a:Rat)=a at*
 generalize (l.b:Rat)=b at*
 generalize (l.c:Rat)=c at*
 generalize (m.a:Rat)=x at*
 generalize (m.b:Rat)=y at*
 generalize (m.c:Rat)=z at*
 have hn':a*a+b*b≠0:=by grind
 have e:((b*z-y*c)/d*b+(x*c-a*z)/d* -a)=((b*z-y*c)*b-(x*c-a*z)*a)/d:=by grind
 rw[e]
 have k1:(b*z-y*c)*b-(x*c-a*z)*a=(a*a+b*b)*(x*(a*q)+y*(b*q)+z):=by grind
 rw[k1]
 grind
theorem ar4{l m:LnQ}(hl:l.Ne)(h:crossI l m≠0):abw l (abq l m)*((crossI l m*(l.a*l.a+l.b*l.b):Int):Rat)=((meetX l m*l.b-meetY l m*l.a:Int):Rat):=by
 have hd:((crossI l m:Int):Rat)≠0:=fun e=>h (cN.1 e)
 have hn:=ane hl
 unfold abw abq
 rw[if_neg h]
 simp only[cV,kY,oL]
 simp only[LnQ.dir,PtQ.dot] at hn⊢
 generalize ((crossI l m:Int):Rat)=d at*
 generalize ((meetX l m:Int):Rat)=x at*
 generalize ((meetY l m:Int):Rat)=y at*
 generalize (l.a:Rat)=a at*
 generalize (l.b:Rat)=b at*
 have hn':b*b+ -a* -a≠0:=by grind
 grind
theorem ahW(l m:LnQ)(t:List LnQ)(v:IvQ):acb l (m::t) v=if m=l then acb l t v else if l.cutB v m then acb l t (l.cutV v m) else none:=rfl
def aio(v:IvQ)(t:Rat):IvQ:=if v.nl=true∨0<aa9 t v.lo then⟨t,v.hi,false,v.nh⟩ else v
def ain(v:IvQ)(t:Rat):IvQ:=if v.nh=true∨aa9 t v.hi<0 then⟨v.lo,t,v.nl,false⟩ else v
structure IvZ (v:IvQ):Prop where
 lo:v.nl=true→v.lo=0
 hi:v.nh=true→v.hi=0
theorem aj3(a b:Rat):0<aa9 a b↔b<a:=by
 unfold aa9;split
 ·constructor
  ·intro h;exact absurd h (by decide)
  ·intro h;grind
 ·split
  ·exact⟨fun _=>by assumption,fun _=>by decide⟩
  ·constructor
   ·intro h;exact absurd h (by decide)
   ·intro h;exact absurd h (by assumption)
theorem afp(a b:Rat):aa9 a b<0↔a<b:=by
 unfold aa9;split
 ·exact⟨fun _=>by assumption,fun _=>by decide⟩
 ·split
  ·constructor
   ·intro h;exact absurd h (by decide)
   ·intro h;grind
  ·constructor
   ·intro h;exact absurd h (by decide)
   ·intro h;exact absurd h (by assumption)
theorem akA{v:IvQ}(h:IvZ v)(t:Rat):aio v t=v.meet ⟨t,0,false,true⟩:=by
 obtain⟨lo,hi,nl,nh⟩:=v
 obtain⟨h1,h2⟩:=h
 unfold aio IvQ.meet
 simp only[aj3] at*
 cases nl<;>cases nh<;>simp at* <;>(try (split<;>split<;>simp_all<;>grind))<;>grind
theorem ak9{v:IvQ}(h:IvZ v)(t:Rat):ain v t=v.meet ⟨0,t,true,false⟩:=by
 obtain⟨lo,hi,nl,nh⟩:=v
 obtain⟨h1,h2⟩:=h
 unfold ain IvQ.meet
 simp only[afp] at*
 cases nl<;>cases nh<;>simp at* <;>(try (split<;>split<;>simp_all<;>grind))<;>grind
theorem IvZ.all:IvZ IvQ.all:=⟨fun _=>rfl,fun _=>rfl⟩
theorem IvZ.lo'{v:IvQ}(h:IvZ v)(t:Rat):IvZ (aio v t):=by
 obtain⟨lo,hi,nl,nh⟩:=v
 unfold aio;split
 ·exact⟨fun h=>by simp at h,h.hi⟩
 ·exact h
theorem IvZ.hi'{v:IvQ}(h:IvZ v)(t:Rat):IvZ (ain v t):=by
 obtain⟨lo,hi,nl,nh⟩:=v
 unfold ain;split
 ·exact⟨h.lo,fun h=>by simp at h⟩
 ·exact h
theorem aha{l m:LnQ}{v:IvQ}(h:crossI l m=0):l.cutV v m=v∧(l.cutB v m=true↔0<m.value l.base):=by
 have hk:l.cutK m=0:=by rw[afC,h];rfl
 exact agE v hk
theorem aCh{l m:LnQ}{v:IvQ}(hl:l.Ne)(hz:IvZ v)(h:0<m.dir.cross l.dir):crossI l m≠0∧l.cutV v m=aio v (abw l (abq l m))∧l.cutB v m=!(aio v (abw l (abq l m))).empty:=by
 rw[aq8] at h
 have hc:crossI l m≠0:=fun e=>by rw[afC,e] at h;exact absurd h (by decide)
 obtain⟨h1,h2⟩:=amT v h
 refine⟨hc,?_,?_⟩
 ·rw[akA hz,aer hl hc,h1]
 ·rw[akA hz,aer hl hc,←h1]
  rw[←agM] at h2
  cases hb:l.cutB v m<;>cases he:(l.cutV v m).empty<;>simp_all
theorem aBV{l m:LnQ}{v:IvQ}(hl:l.Ne)(hz:IvZ v)(h0:crossI l m≠0)(h: ¬0<m.dir.cross l.dir):l.cutV v m=ain v (abw l (abq l m))∧l.cutB v m=!(ain v (abw l (abq l m))).empty:=by
 rw[aq8] at h
 have hk:l.cutK m≠0:=fun e=>by
  rw[afC] at e
  have:((crossI l m:Int):Rat)=0:=by grind
  exact h0 (cN.1 this)
 obtain⟨h1,h2⟩:=anw (l:=l) (m:=m) v (by grind)
 refine⟨?_,?_⟩
 ·rw[ak9 hz,aer hl h0,h1]
 ·rw[ak9 hz,aer hl h0,←h1]
  rw[←agM] at h2
  cases hb:l.cutB v m<;>cases he:(l.cutV v m).empty<;>simp_all
end Go.Sx
end
section
namespace Go.Sx
open Go Go.Proofs Tryz
variable {GB:Gh}

def cT:Tr→List DV
 | .leaf b=>[.v (.bool true), .v (.bool b), .v (.bool false), .sl [], .v (.bool false), .sl [], .v (.bool false), .sl [], .v (.pointer none), .v (.pointer none)]
 | .node l x y=>[.v (.bool false), .v (.bool false), .v (.bool (decide (l.a<0))),dN l.a.natAbs, .v (.bool (decide (l.b<0))),dN l.b.natAbs, .v (.bool (decide (l.c<0))),dN l.c.natAbs, .pt (cT x), .pt (cT y)]
def eT(t:Tr):DV:= .pt (cT t)
def eN(n:NQ):DV:= .ag [.v (.bool (decide (n.l.a<0))),dN n.l.a.natAbs, .v (.bool (decide (n.l.b<0))),dN n.l.b.natAbs, .v (.bool (decide (n.l.c<0))),dN n.l.c.natAbs, .v (.int .i64 n.a), .v (.int .i64 n.b)]
def eA(t:Tr):DV:= .ag [.v (.int .i64 (t.num 0)), .sl ((t.wr 0).map eN)]
structure BL (l:LnQ) (k:Nat):Prop where
 a:l.a.natAbs<2^k
 b:l.b.natAbs<2^k
 c:l.c.natAbs<2^k
theorem aF6(ns:List NQ):adl 8 (ns.map eN):=fun d hd=>by
 obtain⟨n,_,rfl⟩:=bK.1 hd;exact⟨rfl,rfl⟩
theorem Tr.all_wr{p:LnQ→Prop}: ∀{t:Tr} (n:Nat),t.all p→ ∀x∈t.wr n,p x.l
 | .leaf b,n,_,x,hx=>by cases hx
 | .node l u v,n,⟨h1,h2,h3⟩,x,hx=>by
  simp only[Tr.wr,jZ,aR,bR] at hx
  rcases hx with rfl|hx|hx
  ·exact h1
  ·exact u.all_wr _ h2 x hx
  ·exact v.all_wr _ h3 x hx
structure LS (l:LnQ):Prop where
 ok:l.ok
 a:l.a.natAbs≤4
 b:l.b.natAbs≤4
 c:l.c.natAbs≤40000
theorem LS.bl{l:LnQ}(h:LS l):BL l 96:=⟨by have:=h.a;omega,by have:=h.b;omega,by have:=h.c;omega⟩
theorem aeR{xs:List LnQ}{i:Nat}(h:i<xs.length):(xs.map eL)[(i:Int).toNat]? =some (eL xs[i]):=by simp[h]
theorem aeX(xs:List LnQ):(xs.map eL).length=xs.length:=aJ ..
theorem asx{α:Type}{xs:List α}{i:Nat}{p:α→Prop}(h: ∀x∈xs.take i,p x)(hi:i<xs.length)(hy:p xs[i]): ∀x∈xs.take (i+1),p x:=by
 intro x hx
 rw[fL hi] at hx
 simp only[bR,aV] at hx
 rcases hx with hx|rfl
 ·exact h x hx
 ·exact hy
theorem as2{a b:Int}(h:decide (a<0)=decide (b<0)):decide (a.natAbs=b.natAbs)=decide (a=b):=by
 have h':a<0↔b<0:=by simpa using h
 exact decide_eq_decide.2 ⟨fun e=>by omega,fun e=>by rw[e]⟩
theorem LnQ.ext'{l m:LnQ}(h1:l.a=m.a)(h2:l.b=m.b)(h3:l.c=m.c):l=m:=by cases l;cases m;simp_all
instance:DecidableEq NQ:=fun x y=>decidable_of_iff (x.l=y.l∧x.a=y.a∧x.b=y.b) (by
 cases x;cases y;simp)
theorem acs(ls:List LnQ):adl 6 (ls.map eL):=fun d hd=>by
 obtain⟨n,_,rfl⟩:=bK.1 hd;exact⟨rfl,rfl⟩
theorem aBi{a b:Nat}(hl:(dg a).length=(dg b).length)(h: ∀j,j<(dg a).length→(dg a).getD j 0=(dg b).getD j 0):a=b:=by
 have e:dg a=dg b:=by
  apply List.ext_getElem hl
  intro i h1 h2
  have:=h i h1
  rw[aX,aX,aQ h1,aQ h2] at this
  exact this
 rw[←aaQ a,e,aaQ]
theorem akv{z:Int}:PF GB prog 190 [eI z] (eQ (z:Rat)):=by
 refine fn func190 J J ntmps190 J J (fun C=>?_)
 exact rz rfl (by rw[aqy];rfl)
theorem ajO{l:LnQ}:PF GB prog 119 [eL l] (eL l.rev):=by
 refine fn func119 J J ntmps119 J J (fun C=>?_)
 refine cl rfl ajb rfl<|cl rfl ajb rfl<|cl rfl ajb rfl<|?_
 exact rz J J
theorem auJ{a b i j:Nat}[ha:BN a i][hb:BN b j](hi:i≤400000000:=by decide):PF GB prog 146 [dN a,dN b] (vB (decide (a=b))):=by
 have hla:=aaA (dg a)
 have hlb:=aaA (dg b)
 have hba:=aa3 ha.h
 refine fn func146 J J ntmps146 J J (fun C=>?_)
 refine br (fu2:=⟨7⟩) J J J (fun hc10=>?_) (fun hc10=>?_)
 ·
  exact rz rfl (by rw[decide_eq_false (fun e:a=b=>hc10 (by rw[e]))];rfl)
 ·
  refine eqF 12 (.d (vI ((dg a).length:Nat))) rfl (by rw[hla];rfl) ?_
  refine gx rfl<|?_
  refine lp (X:=Nat) (fun i=>[(13, .d (vI (i:Nat))),(12, .d (vI ((dg a).length:Nat))),(0, .d (dN a)),(1, .d (dN b))]) (fun i=>[]) (fun i=>i≤(dg a).length∧ ∀j,j<i→(dg a).getD j 0=(dg b).getD j 0) (fun i=>(dg a).length-i) 0 rfl ⟨bQ _,fun j hj=>absurd hj (by omega)⟩ (fun _=>rfl) (fun i hk=>?_)
  obtain⟨h1,h2⟩:=hk
  refine br J J J (fun hc14=>?_) (fun hc14=>?_)
  ·
   refine ix _ rfl (abf (by omega)) rfl<|ix _ rfl (abf (by omega)) rfl<|?_
   refine br J J J (fun hc24=>?_) (fun hc24=>?_)
   ·
    exact rz rfl (by rw[decide_eq_false (fun e:a=b=>hc24 (by rw[e]))];rfl)
   ·
    exact at_ (i+1) ⟨⟨by omega,fun j hj=>by by_cases q:j=i;(subst q;omega);exact h2 j (by omega)⟩,(by omega)⟩
  ·
   exact rz rfl (by rw[decide_eq_true (aBi (by omega) (fun j hj=>h2 j (by omega)))];rfl)
theorem aBn{a b:Int}{i j:Nat}[ha:BI a i][hb:BI b j](hi:i≤400000000:=by decide):PF GB prog 145 [eI a,eI b] (vB (decide (a=b))):=by
 refine fn (fu:=⟨14⟩) func145 J J ntmps145 J J (fun C=>?_)
 refine eqF 9 (.d (.v (.bool (decide (decide (a<0)=decide (b<0)))))) rfl (by congr 2) ?_
 refine gx rfl<|?_
 refine csd 10 J J J (fun hg10=>?_) (fun hg10=>?_)
 ·
  refine cl rfl (auJ (by omega)) rfl<|?_
  exact rz rfl (by show DV.v (.bool _)=DV.v (.bool _);rw[←as2 hg10])
 ·
  exact rz rfl (by rw[decide_eq_false (fun e:a=b=>hg10 (by rw[e]))];rfl)
class LB (l:LnQ):Prop where bl:BL l 96
instance LB.a (l:LnQ) [h:LB l]:BI l.a 96:=⟨h.bl.a⟩
instance LB.b (l:LnQ) [h:LB l]:BI l.b 96:=⟨h.bl.b⟩
instance LB.c (l:LnQ) [h:LB l]:BI l.c 96:=⟨h.bl.c⟩
class BPt (p:PtQ) (k:outParam Nat):Prop where
 x:BQ p.x k
 y:BQ p.y k
instance BPt.ix (p:PtQ) (k:Nat) [h:BPt p k]:BQ p.x k:=h.x
instance BPt.iy (p:PtQ) (k:Nat) [h:BPt p k]:BQ p.y k:=h.y
instance BPt.dir (l:LnQ) [LB l]:BPt l.dir 97:=⟨inferInstanceAs (BQ (l.b:Rat) 97),inferInstanceAs (BQ (-(l.a:Rat)) 97)⟩
instance BQ.dot (p q:PtQ) (i j:Nat) [BPt p i] [BPt q j]:BQ (p.dot q) (i+j+(i+j)+1):=inferInstanceAs (BQ (p.x*q.x+p.y*q.y) _)
instance BQ.cross (p q:PtQ) (i j:Nat) [BPt p i] [BPt q j]:BQ (p.cross q) (i+j+(i+j)+1):=inferInstanceAs (BQ (p.x*q.y-p.y*q.x) _)
instance BPt.mov (p q:PtQ) (c:Rat) (i j k:Nat) [BPt p i] [BPt q j] [BQ c k]:BPt (adv p q c) (i+(k+j)+1):=⟨inferInstanceAs (BQ (p.x+c*q.x) _),inferInstanceAs (BQ (p.y+c*q.y) _)⟩
instance BQ.value (l:LnQ) (p:PtQ) (i:Nat) [LB l] [BPt p i]:BQ (l.value p) (96+1+i+(96+1+i)+1+(96+1)+1):=inferInstanceAs (BQ ((l.a:Rat)*p.x+(l.b:Rat)*p.y+(l.c:Rat)) _)
theorem aE6{l:LnQ}(h:l.Ne):l.dir.dot l.dir≠0:=by have:=ane h;grind
theorem ahn{l:LnQ}:PF GB prog 131 [eL l] (eP l.dir):=by
 refine fn func131 J J ntmps131 J J (fun C=>?_)
 refine cl rfl akv rfl<|cl rfl akv rfl<|cl rfl al9 rfl<|?_
 exact rz J J
theorem azE{p q:PtQ}{i j:Nat}[hp:BPt p i][hq:BPt q j](hi:i≤200000:=by decide)(hj:j≤200000:=by decide):PF GB prog 287 [eP p,eP q] (eQ (p.dot q)):=by
 refine fn func287 J J ntmps287 J J (fun C=>?_)
 refine cl rfl (abu (by omega) (by omega)) rfl<|cl rfl (abu (by omega) (by omega)) rfl<|cl rfl (ae6 (by omega) (by omega)) rfl<|?_
 exact rz J J
theorem ahG{p q:PtQ}{i j:Nat}[hp:BPt p i][hq:BPt q j](hi:i≤200000:=by decide)(hj:j≤200000:=by decide):PF GB prog 80 [eP p,eP q] (eQ (p.cross q)):=by
 refine fn func80 J J ntmps80 J J (fun C=>?_)
 refine cl rfl (abu (by omega) (by omega)) rfl<|cl rfl (abu (by omega) (by omega)) rfl<|cl rfl (al7 (by omega) (by omega)) rfl<|?_
 exact rz J J
theorem anX{p q:PtQ}{c:Rat}{i j k:Nat}[hp:BPt p i][hq:BPt q j][hc:BQ c k](hi:i≤200000:=by decide)(hj:j≤200000:=by decide)(hk:k≤200000:=by decide):PF GB prog 21 [eP p,eQ c,eP q] (eP (adv p q c)):=by
 refine fn func21 J J ntmps21 J J (fun C=>?_)
 refine cl rfl (abu (by omega) (by omega)) rfl<|cl rfl (ae6 (by omega) (by omega)) rfl<|cl rfl (abu (by omega) (by omega)) rfl<|cl rfl (ae6 (by omega) (by omega)) rfl<|?_
 exact rz J J
theorem alW{l:LnQ}{p:PtQ}{i:Nat}[hl:LB l][hp:BPt p i](hi:i≤400000:=by decide):PF GB prog 282 [eL l,eP p] (eQ (l.value p)):=by
 refine fn func282 J J ntmps282 J J (fun C=>?_)
 refine cl rfl (akv (z:=l.a)) rfl<|cl rfl (abu (by omega) (by omega)) rfl<|cl rfl (akv (z:=l.b)) rfl<|cl rfl (abu (by omega) (by omega)) rfl<|?_
 refine cl rfl (ae6 (by omega) (by omega)) rfl<|cl rfl (akv (z:=l.c)) rfl<|cl rfl (ae6 (by omega) (by omega)) rfl<|?_
 exact rz J J
theorem aqK{l:LnQ}{p:PtQ}{i:Nat}[hl:LB l][hp:BPt p i](hi:i≤400000:=by decide):PF GB prog 280 [eL l,eP p] (vI (l.value p).num.sign):=by
 refine fn func280 J J ntmps280 J J (fun C=>?_)
 refine cl rfl (alW hi) rfl<|cl rfl q_S rfl<|?_
 exact rz J J
theorem asp{l:LnQ}[hl:LB l](hn:l.Ne):PF GB prog 281 [eL l] (eP l.base):=by
 refine fn func281 J J ntmps281 J J (fun C=>?_)
 refine cl rfl ahn rfl<|cl rfl (akv (z:=l.c)) rfl<|cl rfl azE rfl<|cl rfl (ak7 (aE6 hn)) rfl<|cl rfl al9 rfl<|cl rfl (akv (z:=l.a)) rfl<|?_
 refine cl rfl abu rfl<|cl rfl (akv (z:=l.b)) rfl<|cl rfl abu rfl<|?_
 exact rz rfl (by rw[←aqw];rfl)
instance BPt.base (l:LnQ) [LB l]:BPt l.base 900:=by
 rw[←aqw]
 constructor
 ·exact BQ.mono (inferInstance:BQ (-((l.c:Rat)/l.dir.dot l.dir)*(l.a:Rat)) _) (by decide)
 ·exact BQ.mono (inferInstance:BQ (-((l.c:Rat)/l.dir.dot l.dir)*(l.b:Rat)) _) (by decide)
theorem aG5{l:LnQ}{t:Rat}{k:Nat}[hl:LB l][ht:BQ t k](hn:l.Ne)(hk:k≤200000:=by decide):PF GB prog 241 [eL l,eQ t] (eP (l.at t)):=by
 refine fn func241 J J ntmps241 J J (fun C=>?_)
 refine cl rfl (asp hn) rfl<|cl rfl ahn rfl<|cl rfl (anX (by decide) (by decide) hk) rfl<|?_
 exact rz rfl (by rw[←agW];rfl)
theorem alr{l:LnQ}{p:PtQ}{k:Nat}[hl:LB l][hp:BPt p k](hn:l.Ne)(hk:k≤200000:=by decide):PF GB prog 247 [eL l,eP p] (eQ (abw l p)):=by
 refine fn func247 J J ntmps247 J J (fun C=>?_)
 refine cl rfl ahn rfl<|cl rfl (azE (by omega) (by decide)) rfl<|cl rfl (azE (by omega) (by decide)) rfl<|cl rfl (ak7 (aE6 hn) (by omega) (by decide)) rfl<|?_
 exact rz J J
instance BI.crossI (l m:LnQ) [LB l] [LB m]:BI (crossI l m) 385:=inferInstanceAs (BI (l.a*m.b-m.a*l.b) 385)
instance BI.meetX (l m:LnQ) [LB l] [LB m]:BI (meetX l m) 385:=inferInstanceAs (BI (l.b*m.c-m.b*l.c) 385)
instance BI.meetY (l m:LnQ) [LB l] [LB m]:BI (meetY l m) 385:=inferInstanceAs (BI (m.a*l.c-l.a*m.c) 385)
instance BPt.imeet (l m:LnQ) [LB l] [LB m]:BPt (abq l m) 772:=by
 unfold abq
 split
 ·exact⟨BQ.mono (k:=1) ⟨by decide,by decide⟩ (by decide),BQ.mono (k:=1) ⟨by decide,by decide⟩ (by decide)⟩
 ·exact⟨inferInstanceAs (BQ ((meetX l m:Rat)/(crossI l m:Rat)) 772),inferInstanceAs (BQ ((meetY l m:Rat)/(crossI l m:Rat)) 772)⟩
theorem akO(l m:LnQ):(((l.a:Rat)*(m.b:Rat)-(m.a:Rat)*(l.b:Rat)).num.sign=0)↔crossI l m=0:=by
 rw[abT,←aey]
 exact cN
theorem apZ{l m:LnQ}(h:crossI l m≠0):(l.a:Rat)*(m.b:Rat)-(m.a:Rat)*(l.b:Rat)≠0:=by
 rw[←aey]
 exact fun e=>h (cN.1 e)
theorem avu{l m:LnQ}[hl:LB l][hm:LB m]:PF GB prog 137 [eL l,eL m] (.tp [eP (abq l m),vB (decide (crossI l m≠0))]):=by
 refine fn func137 J J ntmps137 J J (fun C=>?_)
 refine cl rfl (akv (z:=l.a)) rfl<|cl rfl (akv (z:=m.b)) rfl<|cl rfl abu rfl<|cl rfl (akv (z:=m.a)) rfl<|cl rfl (akv (z:=l.b)) rfl<|?_
 refine cl rfl abu rfl<|cl rfl al7 rfl<|cl rfl q_S rfl<|?_
 refine br J J J (fun hc26=>?_) (fun hc26=>?_)
 ·
  have hcr:=(akO l m).1 hc26
  exact rz rfl (by unfold abq;rw[if_pos hcr,decide_eq_false (fun e=>e hcr)];show DV.tp [.ag [_, .sl [], .sl [],_, .sl [], .sl []],_]= .tp [eP ⟨0,0⟩,_];unfold eP dD;simp only[show(0:Rat).num=0 from rfl,show(0:Rat).den=1 from rfl,kU,ac5];rfl)
 ·
  have hcr:crossI l m≠0:=fun e=>hc26 ((akO l m).2 e)
  refine cl rfl (akv (z:=l.b)) rfl<|cl rfl (akv (z:=m.c)) rfl<|cl rfl abu rfl<|cl rfl (akv (z:=m.b)) rfl<|cl rfl (akv (z:=l.c)) rfl<|?_
  refine cl rfl abu rfl<|cl rfl al7 rfl<|cl rfl (akv (z:=m.a)) rfl<|cl rfl (akv (z:=l.c)) rfl<|cl rfl abu rfl<|cl rfl (akv (z:=l.a)) rfl<|?_
  refine cl rfl (akv (z:=m.c)) rfl<|cl rfl abu rfl<|cl rfl al7 rfl<|cl rfl (ak7 (apZ hcr)) rfl<|cl rfl (ak7 (apZ hcr)) rfl<|?_
  exact rz rfl (by unfold abq;rw[if_neg hcr,decide_eq_true hcr,alc,ald,aey];rfl)
def ajV(l m:LnQ):Int:=if(l.a-m.a).sign≠0 then(l.a-m.a).sign else if(l.b-m.b).sign≠0 then(l.b-m.b).sign else(l.c-m.c).sign
theorem agG(l m:LnQ):ajV l m=0↔l=m:=by
 unfold ajV
 constructor
 ·intro h
  split at h
  ·contradiction
  ·split at h
   ·contradiction
   ·rename_i h1 h2
    have a1:=jX.1 (Decidable.not_not.1 h1)
    have a2:=jX.1 (Decidable.not_not.1 h2)
    have a3:=jX.1 h
    exact LnQ.ext' (by omega) (by omega) (by omega)
 ·rintro rfl
  simp
theorem aqt{l m:LnQ}[hl:LB l][hm:LB m]:PF GB prog 195 [eL l,eL m] (vI (ajV l m)):=by
 refine fn func195 J J ntmps195 J J (fun C=>?_)
 refine cl rfl (ahv (a:=l.a) (b:=m.a)) rfl<|?_
 refine br J J J (fun hc13=>?_) (fun hc13=>?_)
 ·
  exact rz rfl (by show vI _=_;unfold ajV;rw[if_pos hc13])
 ·
  refine cl rfl (ahv (a:=l.b) (b:=m.b)) rfl<|?_
  refine br J J J (fun hc21=>?_) (fun hc21=>?_)
  ·
   exact rz rfl (by show vI _=_;unfold ajV;rw[if_neg hc13,if_pos hc21])
  ·
   refine cl rfl (ahv (a:=l.c) (b:=m.c)) rfl<|?_
   exact rz rfl (by show vI _=_;unfold ajV;rw[if_neg hc13,if_neg hc21])
theorem ayX{v:PtQ}:PF GB prog 285 [eP v] (vI v.half):=by
 refine fn func285 J J ntmps285 J J (fun C=>?_)
 refine cl rfl (q_S (q:=v.x)) rfl<|cl rfl (q_S (q:=v.y)) rfl<|?_
 refine cs 13 J J J (fun hg13=>?_) (fun hg13=>?_)
 ·
  refine br J J J (fun hc16=>?_) (fun hc16=>?_)
  ·
   exact rz rfl (by show vI _=vI _;unfold PtQ.half;generalize v.x.num.sign=sx at*;generalize v.y.num.sign=sy at*;congr 1;(repeat' split)<;>omega)
  ·
   refine cs 19 J J J (fun hg19=>?_) (fun hg19=>?_)
   ·
    exact rz rfl (by show vI _=vI _;unfold PtQ.half;generalize v.x.num.sign=sx at*;generalize v.y.num.sign=sy at*;congr 1;(repeat' split)<;>omega)
   ·
    refine cs 22 J J J (fun hg22=>?_) (fun hg22=>?_)
    ·
     refine br J J J (fun hc26=>?_) (fun hc26=>?_)
     ·
      exact rz rfl (by show vI _=vI _;unfold PtQ.half;generalize v.x.num.sign=sx at*;generalize v.y.num.sign=sy at*;congr 1;(repeat' split)<;>omega)
     ·
      exact rz rfl (by show vI _=vI _;unfold PtQ.half;generalize v.x.num.sign=sx at*;generalize v.y.num.sign=sy at*;congr 1;(repeat' split)<;>omega)
    ·
     exact rz rfl (by show vI _=vI _;unfold PtQ.half;generalize v.x.num.sign=sx at*;generalize v.y.num.sign=sy at*;congr 1;(repeat' split)<;>omega)
 ·
  refine cs 19 J J J (fun hg19=>?_) (fun hg19=>?_)
  ·
   exact rz rfl (by show vI _=vI _;unfold PtQ.half;generalize v.x.num.sign=sx at*;generalize v.y.num.sign=sy at*;congr 1;(repeat' split)<;>omega)
  ·
   refine cs 22 J J J (fun hg22=>?_) (fun hg22=>?_)
   ·
    refine br J J J (fun hc26=>?_) (fun hc26=>?_)
    ·
     exact rz rfl (by show vI _=vI _;unfold PtQ.half;generalize v.x.num.sign=sx at*;generalize v.y.num.sign=sy at*;congr 1;(repeat' split)<;>omega)
    ·
     exact rz rfl (by show vI _=vI _;unfold PtQ.half;generalize v.x.num.sign=sx at*;generalize v.y.num.sign=sy at*;congr 1;(repeat' split)<;>omega)
   ·
    exact rz rfl (by show vI _=vI _;unfold PtQ.half;generalize v.x.num.sign=sx at*;generalize v.y.num.sign=sy at*;congr 1;(repeat' split)<;>omega)
theorem aDw(z:Int): -1≤z.sign∧z.sign≤1:=by
 rcases rX z 0 with h|h|h
 ·rw[fM h];omega
 ·rw[h];decide
 ·rw[gS h];omega
theorem aCf{u v:PtQ}{i j:Nat}[hu:BPt u i][hv:BPt v j](hi:i≤200000:=by decide)(hj:j≤200000:=by decide):PF GB prog 243 [eP u,eP v] (vI (aa7 u v)):=by
 refine fn func243 J J ntmps243 J J (fun C=>?_)
 refine cl rfl (ayX (v:=u)) rfl<|cl rfl (ayX (v:=v)) rfl<|?_
 refine br J J J (fun hc13=>?_) (fun hc13=>?_)
 ·
  refine br J J J (fun hc16=>?_) (fun hc16=>?_)
  ·
   exact rz rfl (by show vI _=vI _;unfold aa7;rw[if_pos hc16])
  ·
   exact rz rfl (by show vI _=vI _;unfold aa7;rw[if_neg hc16,if_pos (by omega)])
 ·
  refine cl rfl (ahG hi hj) rfl<|cl (hv:=by simp only[aah];exact(by have:=aDw (u.cross v).num;omega)) rfl q_S rfl<|?_
  exact rz rfl (by show vI _=vI _;unfold aa7;rw[if_neg (by omega),if_neg (by omega)])
instance BQ.i1:BQ (((1:Int):Rat)) 2:=⟨by decide,by decide⟩
def eV(v:IvQ):DV:= .ag [.v (.bool (decide (v.lo.num<0))),dN v.lo.num.natAbs,dD v.lo.den, .v (.bool (decide (v.hi.num<0))),dN v.hi.num.natAbs,dD v.hi.den, .v (.bool v.nl), .v (.bool v.nh)]
theorem aEj:eV IvQ.all= .ag [.v (.bool false), .sl [], .sl [], .v (.bool false), .sl [], .sl [], .v (.bool true), .v (.bool true)]:=by
 unfold eV IvQ.all dD
 simp only[show(0:Rat).num=0 from rfl,show(0:Rat).den=1 from rfl,kU,ac5];rfl
theorem ava:eQ 0= .ag [.v (.bool false), .sl [], .sl []]:=by
 unfold eQ dD
 simp only[show(0:Rat).num=0 from rfl,show(0:Rat).den=1 from rfl,kU,ac5];rfl
def abH(v:IvQ):Rat:=if v.nl=true∧v.nh=true then 0 else if v.nl=true then v.hi-1 else if v.nh=true then v.lo+1 else(v.lo+v.hi)/2
theorem azx:PF GB prog 279 [] (eV IvQ.all):=by
 refine fn func279 J J ntmps279 J J (fun C=>?_)
 exact rz rfl (by rw[aEj];rfl)
theorem av7{v:IvQ}{i:Nat}[hl:BQ v.lo i][hh:BQ v.hi i](hi:i≤100000:=by decide):PF GB prog 242 [eV v] (eQ (abH v)):=by
 refine fn func242 J J ntmps242 J J (fun C=>?_)
 refine csb 6 J J J (fun hg6=>?_) (fun hg6=>?_)
 ·
  refine bb J J J (fun hc3=>?_) (fun hc3=>?_)
  ·
   exact rz rfl (by unfold abH;rw[if_pos ⟨hg6,hc3⟩,ava];rfl)
  ·
   refine bb J J J (fun hc11=>?_) (fun hc11=>?_)
   ·
    refine cl rfl (amw (n:=1) (by decide) (by decide)) rfl<|cl rfl (al7 (a:=v.hi) (b:=((1:Int):Rat)) (by omega) (by decide)) rfl<|?_
    exact rz rfl (by unfold abH;rw[if_neg (by simp[hc3]),if_pos hc11];rfl)
   ·
    refine bb J J J (fun hc18=>?_) (fun hc18=>?_)
    ·
     refine cl rfl (amw (n:=1) (by decide) (by decide)) rfl<|cl rfl (ae6 (a:=v.lo) (b:=((1:Int):Rat)) (by omega) (by decide)) rfl<|?_
     exact rz rfl (by simp[hg6] at hc11)
    ·
     refine cl rfl (aBY (a:=v.lo) (b:=v.hi) (by omega) (by omega)) rfl<|?_
     exact rz rfl (by simp[hg6] at hc11)
 ·
  refine bb J J J (fun hc11=>?_) (fun hc11=>?_)
  ·
   refine cl rfl (amw (n:=1) (by decide) (by decide)) rfl<|cl rfl (al7 (a:=v.hi) (b:=((1:Int):Rat)) (by omega) (by decide)) rfl<|?_
   exact rz rfl (by simp[hg6] at hc11)
  ·
   refine bb J J J (fun hc18=>?_) (fun hc18=>?_)
   ·
    refine cl rfl (amw (n:=1) (by decide) (by decide)) rfl<|cl rfl (ae6 (a:=v.lo) (b:=((1:Int):Rat)) (by omega) (by decide)) rfl<|?_
    exact rz rfl (by unfold abH;rw[if_neg (by simp[hg6]),if_neg (by simp[hg6]),if_pos hc18];rfl)
   ·
    refine cl rfl (aBY (a:=v.lo) (b:=v.hi) (by omega) (by omega)) rfl<|?_
    exact rz rfl (by unfold abH;rw[if_neg (by simp[hg6]),if_neg (by simp[hg6]),if_neg (by simp[hc18])];rfl)
theorem BQ.of_fracI{q:Rat}{n D:Int}{i:Nat}(hd:0<D.natAbs)(h:q*((D.natAbs:Nat):Rat)=(n:Rat))(hn:BI n i)(hD:BI D i):BQ q i:=BQ.of_frac hd h hn.h hD.h
theorem apN{m:Int}{i j:Nat}(h:BI m i)(hij:i≤j):BI m j:=⟨dV h.h (bX (by decide) hij)⟩
theorem aiH{l m:LnQ}[LB l][LB m](hn:l.Ne)(h:crossI l m≠0):BQ (abw l (abq l m)) 1200:=by
 have e:=ar4 hn h
 have hA:BI (crossI l m*(l.a*l.a+l.b*l.b)) _:=inferInstance
 have hB:BI (meetX l m*l.b-meetY l m*l.a) _:=inferInstance
 have hne:crossI l m*(l.a*l.a+l.b*l.b)≠0:=by
  intro q
  rcases sK.1 q with q|q
  ·exact h q
  ·have h1:=ane hn
   simp only[LnQ.dir,PtQ.dot] at h1
   have h2:((l.a*l.a+l.b*l.b:Int):Rat)=((0:Int):Rat):=by rw[q]
   rw[oL,cV,cV] at h2
   have h3:((0:Int):Rat)=0:=rfl
   rw[h3] at h2
   grind
 have hA':=apN (j:=1200) hA (by decide)
 have hB':=apN (j:=1200) hB (by decide)
 generalize crossI l m*(l.a*l.a+l.b*l.b)=D at*
 generalize meetX l m*l.b-meetY l m*l.a=M at*
 by_cases hD:0<D
 ·refine BQ.of_fracI (n:=M) (D:=D) (by omega) ?_ hB' hA'
  rw[←e]
  congr 1
  have:((D.natAbs:Nat):Int)=D:=by omega
  rw[←this];rfl
 ·refine BQ.of_fracI (n:= -M) (D:=D) (by omega) ?_ (BI.neg M 1200 (h:=hB')) hA'
  rw[lN,←e]
  have:((D.natAbs:Nat):Rat)= -(D:Rat):=by
   have h1:((D.natAbs:Nat):Int)= -D:=by omega
   rw[←lN,←h1];rfl
  rw[this];grind
theorem azl(k:Rat):k.num.sign≤0↔ ¬0<k:=by rw[←acH];omega
theorem axI{w:IvQ}(h1: ¬w.nl=true)(h2: ¬w.nh=true)(h3:0≤aa9 w.lo w.hi):w.empty=true:=by
 unfold IvQ.empty
 simp[h1,h2,h3]
theorem ana{w:IvQ}(h:w.nl=true):w.empty=false:=by unfold IvQ.empty;simp[h]
theorem anU{w:IvQ}(h:w.nh=true):w.empty=false:=by unfold IvQ.empty;simp[h]
theorem anO{w:IvQ}(h: ¬0≤aa9 w.lo w.hi):w.empty=false:=by unfold IvQ.empty;simp[h]
def acf(l:LnQ):List LnQ→IvQ→IvQ×Bool
 |[],v=>(v,true)
 |m::t,v=>if m=l then acf l t v else if l.cutB v m=true then acf l t (l.cutV v m) else(l.cutV v m,false)
theorem adO{l:LnQ}: ∀{c:List LnQ} {v:IvQ},(acf l c v).2=(acb l c v).isSome
 |[],v=>rfl
 |m::t,v=>by
  rw[acf,ahW]
  split
  ·exact adO
  ·split
   ·exact adO
   ·rfl
structure Stp (l:LnQ) (c:List LnQ) (k:Nat) (v:IvQ):Prop where
 le:k≤c.length
 p:acb l (c.drop k) v=acb l c IvQ.all
 e:acf l (c.drop k) v=acf l c IvQ.all
 z:IvZ v
 lo:BQ v.lo 1200
 hi:BQ v.hi 1200
theorem Stp.skip{l:LnQ}{c:List LnQ}{k:Nat}{v:IvQ}(h:Stp l c k v)(hk:k<c.length)(e:c[k]=l):Stp l c (k+1) v:=
 ⟨hk,by have:=h.p;rw[bJ hk,ahW,if_pos e] at this;exact this,by have:=h.e;rw[bJ hk,acf,if_pos e] at this;exact this,h.z,h.lo,h.hi⟩
theorem Stp.cut{l:LnQ}{c:List LnQ}{k:Nat}{v w:IvQ}(h:Stp l c k v)(hk:k<c.length)(e:c[k]≠l)(hb:l.cutB v c[k]=true)(hw:l.cutV v c[k]=w)(z:IvZ w)(lo:BQ w.lo 1200)(hi:BQ w.hi 1200):Stp l c (k+1) w:=
 ⟨hk,by have:=h.p;rw[bJ hk,ahW,if_neg e,if_pos hb,hw] at this;exact this,by have:=h.e;rw[bJ hk,acf,if_neg e,if_pos hb,hw] at this;exact this,z,lo,hi⟩
theorem Stp.no{l:LnQ}{c:List LnQ}{k:Nat}{v w:IvQ}(h:Stp l c k v)(hk:k<c.length)(e:c[k]≠l)(hb:l.cutB v c[k]=false)(hw:l.cutV v c[k]=w):acf l c IvQ.all=(w,false):=by
 rw[←h.e,bJ hk,acf,if_neg e,if_neg (by rw[hb];decide),hw]
theorem Stp.yes{l:LnQ}{c:List LnQ}{k:Nat}{v:IvQ}(h:Stp l c k v)(hk:c.length≤k):acf l c IvQ.all=(v,true):=by
 rw[←h.e,jU hk];rfl
theorem Stp.all{l:LnQ}{c:List LnQ}:Stp l c 0 IvQ.all:=⟨bQ _,by rw[gR],by rw[gR],IvZ.all,BQ.mono (k:=1) ⟨by decide,by decide⟩ (by decide),BQ.mono (k:=1) ⟨by decide,by decide⟩ (by decide)⟩
theorem avi{v:IvQ}{t:Rat}(h:v.nl=true∨0<aa9 t v.lo):(⟨t,v.hi,false,v.nh⟩:IvQ)=aio v t:=by unfold aio;rw[if_pos h]
theorem aBB{v:IvQ}{t:Rat}(h: ¬v.nl=true)(h2: ¬0<aa9 t v.lo):v=aio v t:=by unfold aio;rw[if_neg (fun e=>e.elim h h2)]
theorem ats{v:IvQ}{t:Rat}(h:v.nh=true∨aa9 t v.hi<0):(⟨v.lo,t,v.nl,false⟩:IvQ)=ain v t:=by unfold ain;rw[if_pos h]
theorem aAW{v:IvQ}{t:Rat}(h: ¬v.nh=true)(h2: ¬aa9 t v.hi<0):v=ain v t:=by unfold ain;rw[if_neg (fun e=>e.elim h h2)]
def arN(l m:LnQ)(v:IvQ):IvQ:=if 0<(m.dir.cross l.dir).num.sign then aio v (abw l (abq l m)) else ain v (abw l (abq l m))
theorem ajH{l m:LnQ}{v:IvQ}[LB l][LB m](hn:l.Ne)(hz:IvZ v)(hlo:BQ v.lo 1200)(hhi:BQ v.hi 1200)(h0:crossI l m≠0):l.cutV v m=arN l m v∧l.cutB v m=!(arN l m v).empty∧IvZ (arN l m v)∧BQ (arN l m v).lo 1200∧BQ (arN l m v).hi 1200:=by
 have hb:=aiH (l:=l) (m:=m) hn h0
 unfold arN
 split
 ·rename_i h
  obtain⟨_,h1,h2⟩:=aCh hn hz ((acH _).1 h)
  refine⟨h1,h2,hz.lo' _,?_⟩
  unfold aio;split
  ·exact⟨hb,hhi⟩
  ·exact⟨hlo,hhi⟩
 ·rename_i h
  obtain⟨h1,h2⟩:=aBV hn hz h0 (fun e=>h ((acH _).2 e))
  refine⟨h1,h2,hz.hi' _,?_⟩
  unfold ain;split
  ·exact⟨hlo,hb⟩
  ·exact⟨hlo,hhi⟩
theorem aiA{l:LnQ}[LB l](hn:l.Ne): ∀{c:List LnQ} {v:IvQ},(∀m∈c,LB m)→IvZ v→BQ v.lo 1200→BQ v.hi 1200→BQ (acf l c v).1.lo 1200∧BQ (acf l c v).1.hi 1200
 |[],v,_,_,h1,h2=>⟨h1,h2⟩
 |m::t,v,hc,hz,h1,h2=>by
  haveI:=hc m aZ
  have hw:IvZ (l.cutV v m)∧BQ (l.cutV v m).lo 1200∧BQ (l.cutV v m).hi 1200:=by
   by_cases h0:crossI l m=0
   ·rw[(aha (v:=v) h0).1];exact⟨hz,h1,h2⟩
   ·obtain⟨u1,_,u3,u4,u5⟩:=ajH (v:=v) hn hz h1 h2 h0
    rw[u1];exact⟨u3,u4,u5⟩
  have hc':=fun m hm=>hc m (aK _ hm)
  rw[acf]
  split
  ·exact aiA hn hc' hz h1 h2
  ·split
   ·exact aiA hn hc' hw.1 hw.2.1 hw.2.2
   ·exact hw.2
theorem ayQ{c:List LnQ}{i:Nat}(hc: ∀m∈c,LB m)(hok: ∀m∈c,m.ok)(hn:c.length≤1000)(hi:i<c.length):PF GB prog 239 [.sl (c.map eL),vI (i:Nat)] (.tp [eV (acf (c[i]'hi) c IvQ.all).1,vB (acf (c[i]'hi) c IvQ.all).2]):=by
 have hcl:=aeX c
 obtain⟨l,hl⟩: ∃l,l=c[i]:=⟨_,rfl⟩
 rw[←hl]
 haveI hlb:LB l:=hl▸hc _ (bN hi)
 have hlo:l.ok:=hl▸hok _ (bN hi)
 refine fn func239 J J ntmps239 J J (fun C=>?_)
 refine ix (fu:=⟨1⟩) _ rfl (aeR hi) rfl<|?_
 refine eqF 16 (.d (eL l)) rfl (by rw[hl];rfl) ?_
 refine gx rfl<|cl (fu:=⟨9⟩) rfl azx rfl<|?_
 refine eqF 19 (.d (vI (c.length:Nat))) rfl (by rw[hcl];rfl) ?_
 refine gx rfl<|?_
 refine lp (X:=IvQ×Nat) (fun⟨v,k⟩=>[(20, .d (vI (k:Nat))),(19, .d (vI (c.length:Nat))),(18, .d (.sl (c.map eL))),(1, .d (vI (i:Nat))),(6, .ov 6 0),(7, .ov 7 0),(4, .ov 4 0)]) (fun⟨v,k⟩=>[(7,some (.o 233 [.d ((.v (.bool (decide (v.lo.num<0))))), .d (dN v.lo.num.natAbs), .d (dD v.lo.den), .d ((.v (.bool (decide (v.hi.num<0))))), .d (dN v.hi.num.natAbs), .d (dD v.hi.den), .d ((.v (.bool v.nl))), .d ((.v (.bool v.nh)))] true)),(6,some (.o 109 [.d ((.v (.bool (decide (l.a<0))))), .d (dN l.a.natAbs), .d ((.v (.bool (decide (l.b<0))))), .d (dN l.b.natAbs), .d ((.v (.bool (decide (l.c<0))))), .d (dN l.c.natAbs)] true)),(4,some (.o 233 [.ff, .nl, .nl, .ff, .nl, .nl, .ff, .ff] true))]) (fun⟨v,k⟩=>Stp l c k v) (fun⟨v,k⟩=>c.length-k) ⟨IvQ.all,0⟩ rfl Stp.all (fun _=>rfl) (fun⟨v,k⟩ hk=>?_)
 try dsimp only at hk⊢
 have hS:=hk
 refine br J J J (fun hc21=>?_) (fun hc21=>?_)
 ·
  have hk:k<c.length:=by omega
  obtain⟨m,hm⟩: ∃m,m=c[k]:=⟨_,rfl⟩
  haveI hmb:LB m:=hm▸hc _ (bN hk)
  have hmo:m.ok:=hm▸hok _ (bN hk)
  refine ix (fu:=⟨1⟩) _ rfl (aeR hk) rfl<|?_
  refine eqF 24 (.d (eL m)) rfl (by rw[hm];rfl) ?_
  refine gx rfl<|?_
  refine cs 28 J J J (fun hg28=>?_) (fun hg28=>?_)
  ·
   have hinv:Stp l c (k+1) v:=hS.skip hk (by rw[hl];congr 1;omega)
   exact at_ ⟨v,k+1⟩ (by dsimp only;exact⟨hinv,(by omega)⟩)
  ·
   refine cl rfl (aqt (l:=l) (m:=m)) rfl<|?_
   refine br J J J (fun hc33=>?_) (fun hc33=>?_)
   ·
    have hinv:Stp l c (k+1) v:=hS.skip hk (by rw[←hm,(agG l m).1 hc33])
    exact at_ ⟨v,k+1⟩ (by dsimp only;exact⟨hinv,(by omega)⟩)
   ·
    have hne:c[k]≠l:=fun e=>hc33 ((agG l m).2 (by rw[hm,e]))
    refine cl (fu:=⟨13⟩) rfl (avu (l:=l) (m:=m)) rfl<|?_
    refine eqF 41 (.d (.v (.bool (decide (crossI l m=0))))) rfl (by simp) ?_
    refine gx rfl<|?_
    refine bd J J J (fun hc41=>?_) (fun hc41=>?_)
    ·
     refine cl rfl (asp hlo.ne) rfl<|cl rfl (aqK (l:=m) (p:=l.base)) rfl<|?_
     refine br J J J (fun hc46=>?_) (fun hc46=>?_)
     ·
      have hno:=hS.no (w:=v) hk hne (by have:=(aha (v:=v) hc41).2;rw[←hm];cases hb:l.cutB v m with|false=>rfl|true=>exact absurd (this.1 hb) ((azl _).1 hc46)) (by rw[←hm];exact(aha (v:=v) hc41).1)
      exact rz rfl (by rw[hno];rfl)
     ·
      have hinv:Stp l c (k+1) v:=by have:=aha (v:=v) hc41;exact hS.cut hk hne (by rw[←hm];exact this.2.2 (by have:=mt (azl (m.value l.base)).2 hc46;exact Decidable.not_not.1 this)) (by rw[←hm];exact this.1) hS.z hS.lo hS.hi
      exact at_ ⟨v,k+1⟩ (by dsimp only;exact⟨hinv,(by omega)⟩)
    ·
     obtain⟨u1,u2,u3,u4,u5⟩:=ajH (v:=v) hlo.ne hS.z hS.lo hS.hi hc41
     haveI htb:=aiH hlo.ne hc41
     haveI hvl:=hS.lo
     haveI hvh:=hS.hi
     refine cl (fu:=⟨0⟩) rfl (alr (l:=l) (p:=abq l m) hlo.ne) rfl<|?_
     obtain⟨t,ht⟩: ∃t,t=abw l (abq l m):=⟨_,rfl⟩
     refine eqF 50 (.d (eQ t)) rfl (by rw[ht]) ?_
     rw[←ht] at htb
     refine gx (fu:=⟨5⟩) rfl<|?_
     refine mg (X:=IvQ) (fun w=>[(20, .d (vI (k:Nat))),(19, .d (vI (c.length:Nat))),(18, .d (.sl (c.map eL))),(1, .d (vI (i:Nat))),(6, .ov 6 0),(7, .ov 7 0),(4, .ov 4 0)]) (fun w=>[(7,some (.o 233 [.d ((.v (.bool (decide (w.lo.num<0))))), .d (dN w.lo.num.natAbs), .d (dD w.lo.den), .d ((.v (.bool (decide (w.hi.num<0))))), .d (dN w.hi.num.natAbs), .d (dD w.hi.den), .d ((.v (.bool w.nl))), .d ((.v (.bool w.nh)))] true)),(6,some (.o 109 [.d ((.v (.bool (decide (l.a<0))))), .d (dN l.a.natAbs), .d ((.v (.bool (decide (l.b<0))))), .d (dN l.b.natAbs), .d ((.v (.bool (decide (l.c<0))))), .d (dN l.c.natAbs)] true)),(4,some (.o 233 [.ff, .nl, .nl, .ff, .nl, .nl, .ff, .ff] true))]) (fun w=>w=arN l m v) [20,19,18,1,6,7,4] [7,6,4] rfl ?_ (fun _=>rfl) (fun w hw=>?_)
     ·
      refine gx rfl<|cl rfl (ahn (l:=m)) rfl<|cl rfl (ahn (l:=l)) rfl<|cl rfl (ahG (p:=m.dir) (q:=l.dir)) rfl<|cl rfl (q_S (q:=m.dir.cross l.dir)) rfl<|?_
      refine br J J J (fun hc57=>?_) (fun hc57=>?_)
      ·
       refine csb 60 J J J (fun hg60=>?_) (fun hg60=>?_)
       ·
        refine dpE 7 J J J ?_
        exact at_ ⟨t,v.hi,false,v.nh⟩ (by unfold arN;rw[if_pos hc57,←ht];exact avi (.inl hg60))
       ·
        refine cl rfl (q_C (a:=t) (b:=v.lo)) rfl<|?_
        refine br J J J (fun hc66=>?_) (fun hc66=>?_)
        ·
         refine dpE 7 J J J ?_
         exact at_ ⟨t,v.hi,false,v.nh⟩ (by unfold arN;rw[if_pos hc57,←ht];exact avi (.inr hc66))
        ·
         exact at_ v (by unfold arN;rw[if_pos hc57,←ht];exact aBB (by simp[hg60]) hc66)
      ·
       refine csb 72 J J J (fun hg72=>?_) (fun hg72=>?_)
       ·
        refine dpE 7 J J J ?_
        exact at_ ⟨v.lo,t,v.nl,false⟩ (by unfold arN;rw[if_neg hc57,←ht];exact ats (.inl hg72))
       ·
        refine cl rfl (q_C (a:=t) (b:=v.hi)) rfl<|?_
        refine br J J J (fun hc78=>?_) (fun hc78=>?_)
        ·
         refine dpE 7 J J J ?_
         exact at_ ⟨v.lo,t,v.nl,false⟩ (by unfold arN;rw[if_neg hc57,←ht];exact ats (.inr hc78))
        ·
         exact at_ v (by unfold arN;rw[if_neg hc57,←ht];exact aAW (by simp[hg72]) hc78)
     ·
      rw[←hw] at u1 u2 u3 u4 u5
      haveI:=u4
      haveI:=u5
      refine csb 85 J J J (fun hg85=>?_) (fun hg85=>?_)
      ·
       refine csb 90 J J J (fun hg90=>?_) (fun hg90=>?_)
       ·
        refine cl rfl (q_C (a:=w.lo) (b:=w.hi)) rfl<|?_
        refine br J J J (fun hc97=>?_) (fun hc97=>?_)
        ·
         have hno:=hS.no (w:=w) hk hne (by rw[←hm,u2,axI (by simpa using hg85) (by simpa using hg90) hc97];rfl) (by rw[←hm,u1])
         exact rz rfl (by rw[hno];rfl)
        ·
         have hinv:Stp l c (k+1) w:=hS.cut hk hne (by rw[←hm,u2,anO hc97];rfl) (by rw[←hm,u1]) u3 u4 u5
         exact at_ ⟨w,k+1⟩ (by dsimp only;exact⟨hinv,(by omega)⟩)
       ·
        have hinv:Stp l c (k+1) w:=hS.cut hk hne (by rw[←hm,u2,anU (by simpa using hg90)];rfl) (by rw[←hm,u1]) u3 u4 u5
        exact at_ ⟨w,k+1⟩ (by dsimp only;exact⟨hinv,(by omega)⟩)
      ·
       have hinv:Stp l c (k+1) w:=hS.cut hk hne (by rw[←hm,u2,ana (by simpa using hg85)];rfl) (by rw[←hm,u1]) u3 u4 u5
       exact at_ ⟨w,k+1⟩ (by dsimp only;exact⟨hinv,(by omega)⟩)
 ·
  exact rz rfl (by rw[hS.yes (by omega)];rfl)
end Go.Sx
end
