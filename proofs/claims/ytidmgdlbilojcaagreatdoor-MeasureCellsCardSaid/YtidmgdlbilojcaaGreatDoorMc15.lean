import Derived.Test.YtidmgdlbilojcaaGreatDoorMc14
set_option linter.unusedSimpArgs false
set_option maxHeartbeats 4000000
set_option maxRecDepth 100000
set_option linter.unusedVariables false
section
namespace Go.Sx
open Go Go.Proofs Tryz
variable {GB:Gh}
theorem aE8{p q r:Bool}{a b c:Nat}(h:Nat.gcd a b≠0):LnQ.ok ⟨zv p (a/Nat.gcd (Nat.gcd a b) c),zv q (b/Nat.gcd (Nat.gcd a b) c),zv r (c/Nat.gcd (Nat.gcd a b) c)⟩:=by
 have hg:0<Nat.gcd (Nat.gcd a b) c:=oX _ (iR h)
 have d0:Nat.gcd (Nat.gcd a b) c∣Nat.gcd a b:=mW _ _
 have d1:Nat.gcd (Nat.gcd a b) c∣a:=rL d0 (mW _ _)
 have d2:Nat.gcd (Nat.gcd a b) c∣b:=rL d0 (nV _ _)
 have d3:Nat.gcd (Nat.gcd a b) c∣c:=nV _ _
 refine⟨?_,?_⟩
 ·rintro ⟨h1,h2⟩
  have h1':=congrArg Int.natAbs h1
  have h2':=congrArg Int.natAbs h2
  simp only[afY,kW] at h1' h2'
  have e1:=Nat.div_mul_cancel d1
  have e2:=Nat.div_mul_cancel d2
  rw[h1',lY] at e1
  rw[h2',lY] at e2
  exact h (by rw[←e1,←e2];rfl)
 ·simp only[afY]
  rw[Nat.gcd_div d1 d2,Nat.gcd_div d0 d3,Nat.div_self hg]
theorem aun(p:Bool)(a g:Nat):(zv p (a/g)).natAbs≤a:=by rw[afY];exact kK ..
theorem PF.eq{P:Program}{f:FuncId}{vs:List DV}{r r':DV}(h:PF GB P f vs r)(e:r=r'):PF GB P f vs r':=e▸h
def iP(m n:Int):PtQ:=⟨(m:Rat),(n:Rat)⟩
theorem aFj{m:Int}{k:Nat}(h:m.natAbs<2^k):BI m k:=⟨h⟩
theorem biC{m:Int}{k:Nat}(h:m.natAbs≤1000)(hk:10≤k):BI m k:=⟨dW (show m.natAbs<2^10 by omega) (bV (by decide) hk)⟩
instance BPt.int (m n:Int) (i:Nat) [h:BI m i] [k:BI n i]:BPt (iP m n) (i+1):=⟨inferInstanceAs (BQ (m:Rat) (i+1)),inferInstanceAs (BQ (n:Rat) (i+1))⟩
theorem eQI{q:Rat}{k:Int}(h:q=(k:Rat)):eQ q=eQ (k:Rat):=by rw[h]
theorem ePI{p:PtQ}{m n:Int}(h1:p.x=(m:Rat))(h2:p.y=(n:Rat)):eP p=eP (iP m n):=by
 obtain⟨x,y⟩:=p
 simp only at h1 h2
 subst h1 h2
 rfl
def mkL(a b c:Int):LnQ:=
 ⟨zv (decide (a<0)) (a.natAbs/Nat.gcd (Nat.gcd a.natAbs b.natAbs) c.natAbs),zv (decide (b<0)) (b.natAbs/Nat.gcd (Nat.gcd a.natAbs b.natAbs) c.natAbs),zv (decide (c<0)) (c.natAbs/Nat.gcd (Nat.gcd a.natAbs b.natAbs) c.natAbs)⟩
theorem aEY{a b c:Int}(h: ¬(a=0∧b=0)):(mkL a b c).ok:=
 aE8 fun e=>h ⟨mS.1 (nT e),mS.1 (nY e)⟩
theorem aDT(a b c:Int):(mkL a b c).a.natAbs≤a.natAbs∧(mkL a b c).b.natAbs≤b.natAbs∧(mkL a b c).c.natAbs≤c.natAbs:=⟨aun ..,aun ..,aun ..⟩
theorem aoj{m n:Int}(hm:m.natAbs≤1000)(hn:n.natAbs≤1000):PF GB prog 57 [.v (.int .i64 m), .v (.int .i64 n)] (eP (iP m n)):=by
 refine fn func57 J J ntmps57 J J (fun C=>?_)
 refine cl rfl (anH (n:=m) (by omega) (by omega)) rfl<|cl rfl (anH (n:=n) (by omega) (by omega)) rfl<|?_
 exact rz J J
theorem asH{m n m' n' k:Int}(hm:m.natAbs≤1000)(hn:n.natAbs≤1000)(hm':m'.natAbs≤1000)(hn':n'.natAbs≤1000)(hk:k.natAbs≤1000):PF GB prog 22 [eP (iP m n),eQ (k:Rat),eP (iP m' n')] (eP (iP (m+k*m') (n+k*n'))):=by
 haveI:=biC (k:=10) hm (by decide)
 haveI:=biC (k:=10) hn (by decide)
 haveI:=biC (k:=10) hm' (by decide)
 haveI:=biC (k:=10) hn' (by decide)
 haveI:=biC (k:=10) hk (by decide)
 exact PF.eq (anW (p:=iP m n) (q:=iP m' n') (c:=(k:Rat))) (ePI (by show(m:Rat)+(k:Rat)*(m':Rat)=_;push_cast;rfl) (by show(n:Rat)+(k:Rat)*(n':Rat)=_;push_cast;rfl))
theorem aFf{m n m' n':Int}(hm:m.natAbs≤1000)(hn:n.natAbs≤1000)(hm':m'.natAbs≤1000)(hn':n'.natAbs≤1000):PF GB prog 275 [eP (iP m n),eP (iP m' n')] (eP (iP (m-m') (n-n'))):=by
 refine fn func275 J J ntmps275 J J (fun C=>?_)
 refine cl rfl (anH (n:= -1) (by decide) (by decide)) rfl<|cl rfl (asH (m:=m) (n:=n) (m':=m') (n':=n') (k:= -1) hm hn hm' hn' (by decide)) rfl<|?_
 exact rz rfl (by rw[show m-m'=m+ -1*m' by omega,show n-n'=n+ -1*n' by omega];rfl)
theorem ali{m n m' n':Int}(hm:m.natAbs≤1000)(hn:n.natAbs≤1000)(hm':m'.natAbs≤1000)(hn':n'.natAbs≤1000):PF GB prog 24 [eP (iP m n),eP (iP m' n')] (.v (.bool (decide (m=m'∧n=n')))):=by
 haveI:=biC (k:=10) hm (by decide)
 haveI:=biC (k:=10) hn (by decide)
 haveI:=biC (k:=10) hm' (by decide)
 haveI:=biC (k:=10) hn' (by decide)
 refine fn func24 J J ntmps24 J J (fun C=>?_)
 refine cl rfl (q_C (a:=(m:Rat)) (b:=(m':Rat))) rfl<|?_
 refine cs 11 J J J (fun hg11=>?_) (fun hg11=>?_)
 ·
  refine cl rfl (q_C (a:=(n:Rat)) (b:=(n':Rat))) rfl<|?_
  exact rz rfl (by rw[aeS] at hg11;have e:m=m':=(by exact_mod_cast hg11);exact congrArg (fun z=>DV.v (.bool z)) (decide_eq_decide.2 (by rw[aeS,nX];simp[e])))
 ·
  exact rz rfl (by rw[aeS] at hg11;have e: ¬m=m':=(fun e=>hg11 (by rw[e]));show DV.v (.bool false)=DV.v (.bool _);rw[decide_eq_false (fun h=>e h.1)])
theorem au7{a b k:Nat}(ha:a<k)(hb:b<k):Nat.gcd a b<k:=by
 rcases fT a with rfl|p
 ·simpa using hb
 ·exact eY (Nat.gcd_le_left b p) ha
theorem aBj{a b c:Int}{i:Nat}(ha:BI a i)(hb:BI b i)(hc:BI c i)(hi:i≤100000000)(h0: ¬(a=0∧b=0)):PF GB prog 276 [eI a,eI b,eI c] (.tp [eL (mkL a b c), .v (.bool true)]):=by
 have hgn:Nat.gcd a.natAbs b.natAbs≠0:=fun h=>h0 ⟨mS.1 (nT h),mS.1 (nY h)⟩
 have hgp:0<Nat.gcd (Nat.gcd a.natAbs b.natAbs) c.natAbs:=oX _ (iR hgn)
 haveI hb1:BN (Nat.gcd a.natAbs b.natAbs) i:=⟨au7 ha.h hb.h⟩
 haveI hb2:BN (Nat.gcd (Nat.gcd a.natAbs b.natAbs) c.natAbs) i:=⟨au7 hb1.h hc.h⟩
 refine fn func276 J J ntmps276 J J (fun C=>?_)
 refine cl rfl (alB (a:=a.natAbs) (b:=b.natAbs) (by omega) (by omega)) rfl<|?_
 refine br J J J (fun hc22=>?_) (fun hc22=>?_)
 ·
  exact absurd hc22 (by rw[aK];intro h;exact hgn (act.1 (by omega)))
 ·
  refine cl rfl (alB (a:=Nat.gcd a.natAbs b.natAbs) (b:=c.natAbs) (by omega) (by omega)) rfl<|cl rfl (afH (a:=a.natAbs) (b:=Nat.gcd (Nat.gcd a.natAbs b.natAbs) c.natAbs) hgp (by omega) (by omega)) rfl<|?_
  refine cl rfl (afH (a:=b.natAbs) (b:=Nat.gcd (Nat.gcd a.natAbs b.natAbs) c.natAbs) hgp (by omega) (by omega)) rfl<|cl rfl (afH (a:=c.natAbs) (b:=Nat.gcd (Nat.gcd a.natAbs b.natAbs) c.natAbs) hgp (by omega) (by omega)) rfl<|?_
  refine cl rfl (acT (m:=a.natAbs/(Nat.gcd (Nat.gcd a.natAbs b.natAbs) c.natAbs)) (neg:=decide (a<0))) rfl<|cl rfl (acT (m:=b.natAbs/(Nat.gcd (Nat.gcd a.natAbs b.natAbs) c.natAbs)) (neg:=decide (b<0))) rfl<|?_
  refine cl rfl (acT (m:=c.natAbs/(Nat.gcd (Nat.gcd a.natAbs b.natAbs) c.natAbs)) (neg:=decide (c<0))) rfl<|?_
  exact rz J J
def asb(n n':Int):Int:= -(n'-n)
def asa(m m':Int):Int:=m'-m
def aCo(m n m' n':Int):Int:= -(asb n n'*m+asa m m'*n)
def aol(m n m' n':Int):LnQ:=mkL (asb n n') (asa m m') (aCo m n m' n')
theorem afx{a b:Int}(ha:a.natAbs≤2000)(hb:b.natAbs≤1000):(a*b).natAbs≤2000000:=by
 rw[jJ];exact iJ ha hb
theorem at2{m n m' n':Int}(hm:m.natAbs≤1000)(hn:n.natAbs≤1000)(hm':m'.natAbs≤1000)(hn':n'.natAbs≤1000)(h0: ¬(m=m'∧n=n')):PF GB prog 234 [eP (iP m n),eP (iP m' n')] (.tp [eL (aol m n m' n'), .v (.bool true)]):=by
 obtain⟨a,hA⟩: ∃a,a=asb n n':=⟨_,rfl⟩
 obtain⟨b,hB⟩: ∃b,b=asa m m':=⟨_,rfl⟩
 have hA':a= -(n'-n):=hA
 have hB':b=m'-m:=hB
 obtain⟨c,hC⟩: ∃c,c= -(a*m+b*n):=⟨_,rfl⟩
 have e1:=afx (a:=a) (b:=m) (by omega) hm
 have e2:=afx (a:=b) (b:=n) (by omega) hn
 haveI hm0:=biC (k:=10) hm (by decide)
 haveI hn0:=biC (k:=10) hn (by decide)
 haveI ha:BI a 30:=aFj (by omega)
 haveI hb:BI b 30:=aFj (by omega)
 haveI hc:BI c 30:=aFj (by omega)
 have hthr:aol m n m' n'=mkL a b c:=by rw[hC,hA,hB];rfl
 have hne: ¬(a=0∧b=0):=fun h=>h0 (by omega)
 refine fn func234 J J ntmps234 J J (fun C=>?_)
 refine cl rfl (aFf (m:=m') (n:=n') (m':=m) (n':=n) hm' hn' hm hn) rfl<|cl rfl (PF.eq (aoM (q:=(((n'-n):Int):Rat))) (eQI (k:=a) (by rw[hA'];push_cast;rfl))) rfl<|?_
 refine cl rfl (PF.eq (abu (a:=(a:Rat)) (b:=(m:Rat))) (eQI (k:=a*m) (by push_cast;rfl))) rfl<|cl rfl (PF.eq (by haveI:BI (m'-m) 30:=(by rw[←hB'];exact hb);exact abu (a:=(((m'-m):Int):Rat)) (b:=(n:Rat))) (eQI (k:=b*n) (by rw[hB'];push_cast;rfl))) rfl<|?_
 refine cl rfl (PF.eq (aez (a:=((a*m:Int):Rat)) (b:=((b*n:Int):Rat))) (eQI (k:=a*m+b*n) (by push_cast;rfl))) rfl<|cl rfl (PF.eq (aoM (q:=((a*m+b*n:Int):Rat))) (eQI (k:=c) (by rw[hC];push_cast;rfl))) rfl<|?_
 refine cl rfl (ae4 (q:=(a:Rat))) rfl<|cl rfl (ae4 (q:=(((m'-m):Int):Rat))) rfl<|cl rfl (PF.eq (ack (a:=1) (b:=1)) rfl) rfl<|?_
 refine cl rfl (ae4 (q:=(c:Rat))) rfl<|cl rfl (PF.eq (ack (a:=1) (b:=1)) rfl) rfl<|cl (fu:=⟨1⟩) rfl (acT (neg:=false) (m:=1)) rfl<|?_
 refine eqF 40 (.d (eQ ((1:Int):Rat))) J J ?_
 refine gx rfl<|cl rfl (PF.eq (abu (a:=(a:Rat)) (b:=((1:Int):Rat))) (eQI (k:=a) (by push_cast;grind))) rfl<|cl rfl (PF.eq (by haveI:BI (m'-m) 30:=(by rw[←hB'];exact hb);exact abu (a:=(((m'-m):Int):Rat)) (b:=((1:Int):Rat))) (eQI (k:=b) (by rw[hB'];push_cast;grind))) rfl<|?_
 refine cl rfl (PF.eq (abu (a:=(c:Rat)) (b:=((1:Int):Rat))) (eQI (k:=c) (by push_cast;grind))) rfl<|cl rfl (aBj (a:=a) (b:=b) (c:=c) ha hb hc (by decide) hne) rfl<|?_
 exact rz rfl (by rw[hthr];rfl)
theorem av4{es:List Int}{a:Nat}(h:a<es.length):(es.map vI)[(a:Int).toNat]? =some (vI es[a]):=by simp[h]
theorem axh:eP (iP 0 0)= .ag [.v (.bool false), .sl [], .sl [], .v (.bool false), .sl [], .sl []]:=by
 unfold eP iP
 simp[acW,dD]
def aaf(es:List Int)(n:Int)(a:Nat):Nat×Nat:=
 if h:a<es.length then((if Int.tmod es[a] n<0 then Int.tmod es[a] n+n else Int.tmod es[a] n).toNat,a+1) else(0,a)
theorem abB{es:List Int}{n:Int}{a:Nat}(hn:1≤n):((aaf es n a).1:Int)<n:=by
 unfold aaf
 split
 ·rename_i h
  have q2:=Int.tmod_lt_of_pos es[a] (show 0<n by omega)
  dsimp only
  split<;>omega
 ·exact hn
theorem aaS{es:List Int}{n:Int}{a:Nat}(ha:a≤es.length):(aaf es n a).2≤es.length:=by
 unfold aaf
 split
 ·assumption
 ·exact ha
def pF(es:List Int)(a:Nat):(Int×Int)×Nat:=((((aaf es 9 a).1:Int)-4,((aaf es 9 (aaf es 9 a).2).1:Int)-4),(aaf es 9 (aaf es 9 a).2).2)
theorem arU{es:List Int}{a:Nat}(ha:a≤es.length):(pF es a).1.1.natAbs≤4∧(pF es a).1.2.natAbs≤4∧(pF es a).2≤es.length:=by
 have h1:=abB (es:=es) (n:=9) (a:=a) (by decide)
 have h2:=abB (es:=es) (n:=9) (a:=(aaf es 9 a).2) (by decide)
 have h3:=aaS (n:=9) (aaS (es:=es) (n:=9) ha)
 unfold pF
 exact⟨by dsimp only;omega,by dsimp only;omega,h3⟩
def vF(es:List Int)(a:Nat):(Int×Int)×Nat:=if(pF es a).1.1=0∧(pF es a).1.2=0 then((1,0),(pF es a).2) else pF es a
theorem ayo{es:List Int}{a:Nat}(ha:a≤es.length):(vF es a).1.1.natAbs≤4∧(vF es a).1.2.natAbs≤4∧ ¬((vF es a).1.1=0∧(vF es a).1.2=0)∧(vF es a).2≤es.length:=by
 obtain⟨h1,h2,h3⟩:=arU ha
 unfold vF
 split
 ·exact⟨show(1:Int).natAbs≤4 by decide,show(0:Int).natAbs≤4 by decide,show¬((1:Int)=0∧(0:Int)=0) by decide,h3⟩
 ·rename_i h;exact⟨h1,h2,h,h3⟩
def lF(es:List Int)(a:Nat):LnQ×Nat:=(aol (pF es a).1.1 (pF es a).1.2 ((pF es a).1.1+1*(vF es (pF es a).2).1.1) ((pF es a).1.2+1*(vF es (pF es a).2).1.2),(vF es (pF es a).2).2)
def af6(es:List Int):Nat→Nat→Tr×Nat
 |0,a=>(.leaf (decide (((aaf es 2 a).1:Int)=1)),(aaf es 2 a).2)
 |d+1,a=>if((aaf es 4 a).1:Int)=0 then(.leaf (decide (((aaf es 2 (aaf es 4 a).2).1:Int)=1)),(aaf es 2 (aaf es 4 a).2).2) else
  (.node (lF es (aaf es 4 a).2).1 (af6 es d (lF es (aaf es 4 a).2).2).1 (af6 es d (af6 es d (lF es (aaf es 4 a).2).2).2).1,(af6 es d (af6 es d (lF es (aaf es 4 a).2).2).2).2)
theorem adq{b:Nat}{es:List Int}(hes:es.length≤400){a:Nat}(ha:a≤es.length){n:Int}(hn:1≤n)(hn2:n≤1000):PM GB prog 35 (mkP [none,some (.v (.int .i64 n))] b) b 87 [.sl (es.map vI), .v (.int .i64 (a:Nat))] (.v (.int .i64 ((aaf es n a).1:Nat))) [.sl (es.map vI), .v (.int .i64 ((aaf es n a).2:Nat))]:=by
 have hel:(es.map vI).length=es.length:=by simp
 refine fnM func35 J J ntmps35 J J (fun C b m lo hmb=>?_)
 refine br J J J (fun hc15=>?_) (fun hc15=>?_)
 ·
  have hf:aaf es n a=(0,a):=by unfold aaf;rw[dif_neg (by omega)]
  exact rzM hmb J J (by rw[hf]<;>rfl) (by rw[hf]<;>rfl)
 ·
  have hal:a<es.length:=by omega
  obtain⟨e,he⟩: ∃e,e=es[a]:=⟨_,rfl⟩
  have q2:=Int.tmod_lt_of_pos e (show 0<n by omega)
  have q3: -n<Int.tmod e n:=by have:=Int.lt_tmod_of_pos e (show 0<n by omega);omega
  refine ix (fu:=⟨1⟩) _ rfl (av4 hal) rfl<|?_
  refine eqF 25 (.d (vI e)) rfl (by rw[he]<;>rfl) ?_
  refine gx (hv:=by simp only[aah];exact⟨⟨by omega,by kernel_rfl⟩,by omega⟩) rfl<|?_
  refine br J J J (fun hc36=>?_) (fun hc36=>?_)
  ·
   have hf:aaf es n a=((Int.tmod e n+n).toNat,a+1):=by unfold aaf;rw[dif_pos hal,←he,if_pos hc36]
   exact rzM hmb J J (by rw[hf];show DV.v (.int .i64 _)=DV.v (.int .i64 _);rw[pS (by omega)]) (by rw[hf]<;>rfl)
  ·
   have hf:aaf es n a=((Int.tmod e n).toNat,a+1):=by unfold aaf;rw[dif_pos hal,←he,if_neg hc36]
   exact rzM hmb J J (by rw[hf];show DV.v (.int .i64 _)=DV.v (.int .i64 _);rw[pS (by omega)]) (by rw[hf]<;>rfl)
theorem aG1{b:Nat}{es:List Int}(hes:es.length≤400){a:Nat}(ha:a≤es.length):PM GB prog 153 (mkP [none] b) b 87 [.sl (es.map vI), .v (.int .i64 (a:Nat))] (eP (iP (pF es a).1.1 (pF es a).1.2)) [.sl (es.map vI), .v (.int .i64 ((pF es a).2:Nat))]:=by
 have h1:=abB (es:=es) (n:=9) (a:=a) (by decide)
 have h2:=abB (es:=es) (n:=9) (a:=(aaf es 9 a).2) (by decide)
 refine fnM func153 J J ntmps153 J J (fun C b m lo hmb=>?_)
 refine cm rfl (fun b=>(adq (n:=9) hes ha (by decide) (by decide))) rfl<|cm rfl (fun b=>(adq (n:=9) hes (aaS ha) (by decide) (by decide))) rfl<|?_
 refine cl rfl (aoj (m:=((aaf es 9 a).1:Int)-4) (n:=((aaf es 9 (aaf es 9 a).2).1:Int)-4) (by omega) (by omega)) rfl<|?_
 exact rzM hmb J J J J
theorem aHj{b:Nat}{es:List Int}(hes:es.length≤400){a:Nat}(ha:a≤es.length):PM GB prog 154 (mkP [none] b) b 87 [.sl (es.map vI), .v (.int .i64 (a:Nat))] (eP (iP (vF es a).1.1 (vF es a).1.2)) [.sl (es.map vI), .v (.int .i64 ((vF es a).2:Nat))]:=by
 obtain⟨hm,hn,ha1⟩:=arU ha
 refine fnM func154 J J ntmps154 J J (fun C b m lo hmb=>?_)
 refine cm (fu:=⟨9⟩) rfl (fun b=>(aG1 hes ha)) rfl<|?_
 refine eqF 7 (.d (eP (iP 0 0))) rfl (by rw[axh]<;>rfl) ?_
 refine gx rfl<|cl rfl (ali (m:=(pF es a).1.1) (n:=(pF es a).1.2) (m':=0) (n':=0) (by omega) (by omega) (by decide) (by decide)) rfl<|?_
 refine bd J J J (fun hc8=>?_) (fun hc8=>?_)
 ·
  have hf:vF es a=((1,0),(pF es a).2):=by unfold vF;rw[if_pos hc8]
  refine cl rfl (aoj (m:=1) (n:=0) (by decide) (by decide)) rfl<|?_
  exact rzM hmb J J (by rw[hf]<;>rfl) (by rw[hf])
 ·
  have hf:vF es a=pF es a:=by unfold vF;rw[if_neg hc8]
  exact rzM hmb J J (by rw[hf]<;>rfl) (by rw[hf])
theorem af9{p:Bool}:PF GB prog 88 [.v (.bool p)] (eT (.leaf p)):=by
 refine fn func88 J J ntmps88 J J (fun C=>?_)
 refine fzE 5 rfl ?_
 exact rz J J
abbrev ZP:=Int×Int
def ZP.q(p:ZP):PtQ:=iP p.1 p.2
def ZP.le(k:Nat)(p:ZP):Prop:=p.1.natAbs≤k∧p.2.natAbs≤k
def aFD(p q:ZP):ZP:=(p.1+1*q.1,p.2+1*q.2)
def aj4(u v:ZP):Int:=u.1*v.2-u.2*v.1
theorem azd{m n p q:Int}(hm:m.natAbs≤1000)(hn:n.natAbs≤1000)(hp:p.natAbs≤1000)(hq:q.natAbs≤1000)(h: ¬(p=m∧q=n)):LB (aol m n p q)∧(aol m n p q).ok:=by
 have e1:(asb n q).natAbs≤2000:=by unfold asb;omega
 have e2:(asa m p).natAbs≤2000:=by unfold asa;omega
 have e3:=afx e1 hm
 have e4:=afx e2 hn
 have e5:(aCo m n p q).natAbs≤4000000:=by unfold aCo;omega
 unfold aol
 obtain⟨k1,k2,k3⟩:=aDT (asb n q) (asa m p) (aCo m n p q)
 have hb:(2:Nat)^96=79228162514264337593543950336:=by decide
 refine⟨⟨⟨?_,?_,?_⟩⟩,aEY ?_⟩
 ·rw[hb];omega
 ·rw[hb];omega
 ·rw[hb];omega
 ·unfold asb asa;omega
def ae3(v w:ZP):FrQ:=⟨aol v.1 v.2 w.1 w.2,⟨abv (aol v.1 v.2 w.1 w.2) v.q,abv (aol v.1 v.2 w.1 w.2) w.q,false,false⟩⟩
def acQ(r:List ZP)(i:Nat):ZP:=r.getD ((i+1)%r.length) (0,0)
def afm(r:List ZP):Nat→List FrQ
 |0=>[]
 |k+1=>afm r k++[ae3 (r.getD k (0,0)) (acQ r k)]
def acO(r:List ZP):List FrQ:=afm r r.length
structure aaQ (r:List ZP):Prop where
 n3:3≤r.length
 n6:r.length≤6
 le: ∀p∈r,ZP.le 100 p
 ne: ∀i<r.length,r.getD i (0,0)≠acQ r i
theorem agq{r:List ZP}{i:Nat}(h:i<r.length):r.getD i (0,0)∈r:=by
 rw[aX,aQ h];exact bN h
theorem agB{r:List ZP}{i:Nat}(h:i<r.length):acQ r i∈r:=agq (dX _ (by omega))
theorem BQ.int1200{m:Int}(h:m.natAbs≤1000):BQ (m:Rat) 1200:=by
 haveI:BI m 11:=biC h (by decide)
 exact BQ.mono (inferInstance:BQ (m:Rat) 12) (by decide)
theorem ani{l:LnQ}(hl:LB l)(ho:l.ok){m n:Int}(hm:m.natAbs≤1000)(hn:n.natAbs≤1000):BQ (abv l (iP m n)) 1200:=by
 haveI:=biC (k:=11) hm (by decide)
 haveI:=biC (k:=11) hn (by decide)
 have hd:=ant ho.ne
 have hA:BI (l.a*l.a+l.b*l.b) _:=inferInstance
 have hB:BI (m*l.b-n*l.a) _:=inferInstance
 have hA':=aps (j:=1200) hA (by decide)
 have hB':=aps (j:=1200) hB (by decide)
 have e1:l.dir.dot l.dir=((l.a*l.a+l.b*l.b:Int):Rat):=by
  rw[oR,cV,cV]
  simp only[LnQ.dir,PtQ.dot];grind
 have e2:(iP m n).dot l.dir=((m*l.b-n*l.a:Int):Rat):=by
  rw[kV,cV,cV]
  simp only[LnQ.dir,PtQ.dot,iP];grind
 have hd':((0:Int):Rat)<((l.a*l.a+l.b*l.b:Int):Rat):=by rw[←e1];exact hd
 unfold abv
 rw[e2,e1]
 clear hA hB e1 e2
 generalize l.a*l.a+l.b*l.b=D at*
 generalize m*l.b-n*l.a=M at*
 have hD:0<D:=Rat.intCast_lt_intCast.1 hd'
 refine BQ.of_fracI (n:=M) (D:=D) (by omega) ?_ hB' hA'
 have h0:(D:Rat)≠0:=fun e=>by rw[e] at hd';exact absurd hd' (by decide)
 have:((D.natAbs:Nat):Rat)=(D:Rat):=by
  have h1:((D.natAbs:Nat):Int)=D:=by omega
  rw[←h1];rfl
 rw[this]
 grind
theorem aAJ{v w:ZP}(hv:ZP.le 100 v)(hw:ZP.le 100 w)(h:v≠w):FOk (ae3 v w):=by
 obtain⟨h1,h2⟩:=azd (m:=v.1) (n:=v.2) (p:=w.1) (q:=w.2) (by have:=hv.1;omega) (by have:=hv.2;omega) (by have:=hw.1;omega) (by have:=hw.2;omega) (fun e=>h (Prod.ext e.1.symm e.2.symm))
 exact⟨h1,h2,⟨fun e=>(by cases e),fun e=>(by cases e)⟩,ani h1 h2 (by have:=hv.1;omega) (by have:=hv.2;omega),ani h1 h2 (by have:=hw.1;omega) (by have:=hw.2;omega)⟩
theorem ajn{r:List ZP}(h:aaQ r): ∀{k:Nat},k≤r.length→(afm r k).length=k∧ ∀f∈afm r k,FOk f
 |0,_=>⟨rfl,fun f hf=>by cases hf⟩
 |k+1,hk=>by
  obtain⟨h1,h2⟩:=ajn h (k:=k) (by omega)
  rw[afm]
  refine⟨by simp[h1],fun f hf=>?_⟩
  rcases bY.1 hf with hf|hf
  ·exact h2 f hf
  ·rw[aV] at hf;subst hf
   exact aAJ (h.le _ (agq (by omega))) (h.le _ (agB (by omega))) (h.ne k (by omega))
theorem aii{r:List ZP}(h:aaQ r):(acO r).length=r.length∧ ∀f∈acO r,FOk f:=ajn h (aM _)
def abU(rs:List (List ZP)):List FrQ:=rs.flatMap acO
theorem acM: ∀{rs:List (List ZP)},(∀r∈rs,aaQ r)→(abU rs).length≤6*rs.length∧ ∀f∈abU rs,FOk f
 |[],_=>⟨aM _,fun f hf=>by cases hf⟩
 |r::rs,h=>by
  obtain⟨h1,h2⟩:=acM (rs:=rs) fun q hq=>h q (aJ _ hq)
  obtain⟨k1,k2⟩:=aii (h r aZ)
  have:=(h r aZ).n6
  unfold abU at*
  rw[kQ]
  refine⟨by rw[aR,k1,bW];omega,fun f hf=>?_⟩
  rcases bY.1 hf with hf|hf
  ·exact k2 f hf
  ·exact h2 f hf
def ahr(a b c:PtQ):Int:=(PtQ.cross (adk b a (-1)) (adk c a (-1))).num.sign
def aur(v w p:PtQ):Int:=
 (if abd v.y p.y≤0∧ ¬abd w.y p.y≤0∧0<ahr v w p then 1 else 0)-(if¬abd v.y p.y≤0∧abd w.y p.y≤0∧ahr v w p<0 then 1 else 0)
def arr(r:List ZP)(p:PtQ):Nat→Int
 |0=>0
 |k+1=>arr r p k+aur (r.getD k (0,0)).q (acQ r k).q p
def anr(r:List ZP)(p:PtQ):Int:=arr r p r.length
def avZ(fill n:Int):Bool:=(decide (fill=1)&&decide (n.tmod 2≠0))||(decide (fill=2)&&decide (n≠0))
def inR(rs:List (List ZP))(fill:Int)(p:PtQ):Bool:=avZ fill (rs.foldl (fun n r=>n+anr r p) 0)
def aBQ(rs:List (List ZP))(fill:Int):Tr:=aj7 (inR rs fill) (abU rs).length (abU rs) []
def ae0(rs:List (List ZP))(fill:Int):Tr:=(aBQ rs fill).restrict []
structure akd (k:Nat) (t:Tr):Prop where
 gd:t.gd
 dp:t.depth≤k
 am: ∃K:List LnQ,K.length≤k∧(∀l∈K,l.ok)∧afu K t
theorem auC{acc:PtQ→Bool}{n:Nat}{l:List FrQ}(h: ∀f∈l,FOk f)(hn:l.length=n):akd n (aj7 acc n l []):=
 ⟨⟨aeB fun f hf=>(h f hf).lb,aeB fun f hf=>(h f hf).ok⟩,ahz,l.map (·.l),by rw[aK,hn];exact aM _,fun m hm=>by
  obtain⟨f,hf,rfl⟩:=bJ.1 hm;exact(h f hf).ok,aeB fun f hf=>⟨f.l,dV hf, .inl rfl⟩⟩
theorem akd.restrict{k:Nat}{t:Tr}(h:akd k t)(c:aae):akd k (t.restrict c):=by
 obtain⟨K,h1,h2,h3⟩:=h.am
 exact⟨aos h.gd c,cW (t.restrict_depth c) h.dp,K,h1,h2,h3.restrict c⟩
theorem akd.mono{j k:Nat}{t:Tr}(h:akd j t)(hk:j≤k):akd k t:=by
 obtain⟨K,h1,h2,h3⟩:=h.am
 exact⟨h.gd,cW h.dp hk,K,by omega,h2,h3⟩
theorem akd.merge{j k:Nat}{op:Int}{t u:Tr}(h:akd j t)(hu:akd k u):akd (j+k) (t.mergeQ op u []):=by
 obtain⟨K,h1,h2,h3⟩:=h.am
 obtain⟨M,k1,k2,k3⟩:=hu.am
 refine⟨⟨Tr.mergeQ_all LB op hu.gd.lb t [] h.gd.lb,Tr.mergeQ_all LnQ.ok op hu.gd.ok t [] h.gd.ok⟩,cW (Tr.mergeQ_depth op u t []) (by have:=h.dp;have:=hu.dp;omega),K++M,by rw[aR];omega,fun l hl=>(bY.1 hl).elim (h2 l) (k2 l),?_⟩
 exact(h3.mono fun l hl=>⟨l,cX _ hl, .inl rfl⟩).merge (k3.mono fun l hl=>⟨l,cY _ hl, .inl rfl⟩) []
theorem aqq{rs:List (List ZP)}{fill:Int}(h: ∀r∈rs,aaQ r)(hn:rs.length≤3):akd 18 (ae0 rs fill):=by
 obtain⟨h1,h2⟩:=acM h
 exact((auC (acc:=inR rs fill) h2 rfl).restrict []).mono (by omega)
def az0(p q:ZP):Int:=if p.1<q.1 then-1 else if q.1<p.1 then 1 else if p.2<q.2 then-1 else if q.2<p.2 then 1 else 0
def awj(x:ZP):List ZP→List ZP
 |[]=>[x]
 |u::t=>if az0 u x<0 then u::awj x t else if az0 u x=0 then u::t else x::u::t
def anu(l:List ZP):List ZP:=l.foldl (fun out x=>awj x out) []
theorem apw{x:ZP}: ∀{l:List ZP},(awj x l).length≤l.length+1
 |[]=>aM _
 |u::t=>by
  rw[awj]
  have:=apw (x:=x) (l:=t)
  split
  ·simp;omega
  ·split<;>simp
theorem asp(l:List ZP):(anu l).length≤l.length:=by
 have key: ∀(l o:List ZP),(l.foldl (fun out x=>awj x out) o).length≤l.length+o.length:=by
  intro l
  induction l with
  |nil=>intro o;simp
  |cons x t ih=>intro o;have:=ih (awj x o);have:=apw (x:=x) (l:=o);simp only[jT,bW];omega
 have:=key l []
 simpa[anu] using this
def agh(a b c d:Int):List ZP:=[(a,b),(c,b),(c,d),(a,d)]
theorem ags{r:List ZP}{i:Nat}(h:i+1<r.length):acQ r i=r.getD (i+1) (0,0):=by unfold acQ;rw[fJ h]
theorem aev{r:List ZP}{i:Nat}(h:i+1=r.length):acQ r i=r.getD 0 (0,0):=by unfold acQ;rw[h,Nat.mod_self]
theorem atZ{a b c d:Int}(h1:a.natAbs≤50)(h2:b.natAbs≤50)(h3:c.natAbs≤50)(h4:d.natAbs≤50)(h5:a<c)(h6:b<d):aaQ (agh a b c d):=by
 refine⟨by simp[agh],by simp[agh],fun p hp=>?_,fun i hi=>?_⟩
 ·simp only[agh,aT,jY,or_false] at hp
  rcases hp with rfl|rfl|rfl|rfl<;>exact⟨by dsimp only;omega,by dsimp only;omega⟩
 ·have:i=0∨i=1∨i=2∨i=3:=by simp[agh] at hi;omega
  rcases this with rfl|rfl|rfl|rfl<;>simp[agh,acQ]<;>omega
def ayH(p u v:ZP):List ZP:=[p,aFD p u,aFD p v]
theorem aDo{p u v:ZP}(h1:ZP.le 40 p)(h2:ZP.le 40 u)(h3:ZP.le 40 v)(h:aj4 u v≠0):aaQ (ayH p u v):=by
 obtain⟨p1,p2⟩:=p
 obtain⟨u1,u2⟩:=u
 obtain⟨v1,v2⟩:=v
 unfold ZP.le at h1 h2 h3
 dsimp only at h1 h2 h3
 unfold aj4 at h
 dsimp only at h
 refine⟨by simp[ayH],by simp[ayH],fun p hp=>?_,fun i hi=>?_⟩
 ·simp only[ayH,aFD,aT,jY,or_false] at hp
  rcases hp with rfl|rfl|rfl<;>exact⟨by dsimp only;omega,by dsimp only;omega⟩
 ·have:i=0∨i=1∨i=2:=by simp[ayH] at hi;omega
  have hu: ¬(u1=0∧u2=0):=fun e=>h (by rw[e.1,e.2];simp)
  have hv: ¬(v1=0∧v2=0):=fun e=>h (by rw[e.1,e.2];simp)
  have huv: ¬(u1=v1∧u2=v2):=fun e=>h (by rw[e.1,e.2,Int.mul_comm];omega)
  rcases this with rfl|rfl|rfl<;>simp[ayH,aFD,acQ]<;>omega
def aqa(es:List Int):Nat→Nat→List ZP→List ZP×Nat
 |0,a,out=>(out,a)
 |n+1,a,out=>aqa es n (pF es a).2 (if out.getLast? =some (pF es a).1 then out else out++[(pF es a).1])
structure Adj (r:List ZP):Prop where
 ne: ∀i,i+1<r.length→r.getD i (0,0)≠r.getD (i+1) (0,0)
 le: ∀p∈r,ZP.le 100 p
theorem Adj.snoc{r:List ZP}{p:ZP}(h:Adj r)(hp:ZP.le 100 p)(hl:r.getLast? ≠some p):Adj (r++[p]):=by
 refine⟨fun i hi=>?_,fun q hq=>?_⟩
 ·rw[aR,gU] at hi
  rw[aX,aX]
  by_cases h1:i+1<r.length
  ·rw[dR (by omega),dR h1]
   have:=h.ne i h1
   rwa [aX,aX] at this
  ·have e:i+1=r.length:=by omega
   rw[dR (by omega),e,jZ (aM _),Nat.sub_self]
   rw[lX,←e,lK] at hl
   rw[aQ (by omega)] at hl⊢
   intro c
   exact hl (by simpa using c)
 ·rcases bY.1 hq with hq|hq
  ·exact h.le q hq
  ·rw[aV] at hq;subst hq;exact hp
theorem ao0{es:List Int}: ∀{n a:Nat} {out:List ZP},a≤es.length→Adj out→Adj (aqa es n a out).1∧(aqa es n a out).1.length≤out.length+n∧(aqa es n a out).2≤es.length
 |0,a,out,ha,h=>⟨h,aM _,ha⟩
 |n+1,a,out,ha,h=>by
  obtain⟨h1,h2,h3⟩:=arU ha
  rw[aqa]
  by_cases hl:out.getLast? =some (pF es a).1
  ·rw[if_pos hl]
   obtain⟨k1,k2,k3⟩:=ao0 (n:=n) h3 h
   exact⟨k1,by omega,k3⟩
  ·rw[if_neg hl]
   obtain⟨k1,k2,k3⟩:=ao0 (n:=n) h3 (h.snoc (p:=(pF es a).1) ⟨by omega,by omega⟩ hl)
   rw[aR,gU] at k2
   exact⟨k1,by omega,k3⟩
def ae8:Nat→List ZP→List ZP
 |0,l=>l
 |n+1,l=>if 1<l.length∧l.getD 0 (0,0)=l.getD (l.length-1) (0,0) then ae8 n l.dropLast else l
theorem Adj.drop{r:List ZP}(h:Adj r):Adj r.dropLast:=by
 refine⟨fun i hi=>?_,fun p hp=>h.le p ((rY _).subset hp)⟩
 rw[gL] at hi
 have:=h.ne i (by omega)
 rw[aX,aX] at this⊢
 rw[rZ,rZ,if_pos (by omega),if_pos (by omega)]
 exact this
theorem aqY: ∀{n:Nat} {l:List ZP},Adj l→l.length≤n+1→Adj (ae8 n l)∧(ae8 n l).length≤l.length∧(1<(ae8 n l).length→(ae8 n l).getD 0 (0,0)≠(ae8 n l).getD ((ae8 n l).length-1) (0,0))
 |0,l,h,hn=>⟨h,aM _,fun k=>absurd k (by unfold ae8;omega)⟩
 |n+1,l,h,hn=>by
  rw[ae8]
  split
  ·obtain⟨h1,h2,h3⟩:=aqY (n:=n) h.drop (by rw[gL];omega)
   rw[gL] at h2
   exact⟨h1,by omega,h3⟩
  ·rename_i hc
   exact⟨h,aM _,fun k e=>hc ⟨k,e⟩⟩
theorem aAL{r:List ZP}(h:Adj r)(h6:r.length≤6)(hc:1<r.length→r.getD 0 (0,0)≠r.getD (r.length-1) (0,0))(h3:3≤(anu r).length):aaQ r:=by
 have:=asp r
 refine⟨by omega,h6,h.le,fun i hi=>?_⟩
 by_cases h1:i+1<r.length
 ·rw[ags h1];exact h.ne i h1
 ·have e:i+1=r.length:=by omega
  rw[aev e]
  have:=hc (by omega)
  rw[show i=r.length-1 by omega]
  exact fun k=>this k.symm
def aCx:List ZP:=[(0,0),(2,0),(0,2)]
theorem aBg:aaQ aCx:=⟨by decide,by decide,fun p hp=>by
  simp only[aCx,aT,jY,or_false] at hp
  rcases hp with rfl|rfl|rfl<;>exact⟨by decide,by decide⟩,fun i hi=>by
  have:i=0∨i=1∨i=2:=by simp[aCx] at hi;omega
  rcases this with rfl|rfl|rfl<;>decide⟩
def avR(es:List Int)(a:Nat):List ZP×Nat:=
 ((if(anu (ae8 6 (aqa es (3+(aaf es 4 a).1) (aaf es 4 a).2 []).1)).length<3 then aCx else ae8 6 (aqa es (3+(aaf es 4 a).1) (aaf es 4 a).2 []).1),(aqa es (3+(aaf es 4 a).1) (aaf es 4 a).2 []).2)
theorem Adj.nil:Adj []:=⟨fun i hi=>by simp at hi,fun p hp=>by cases hp⟩
theorem asr{es:List Int}{a:Nat}(ha:a≤es.length):aaQ (avR es a).1∧(avR es a).2≤es.length:=by
 have h1:=abB (es:=es) (n:=4) (a:=a) (by decide)
 obtain⟨k1,k2,k3⟩:=ao0 (n:=3+(aaf es 4 a).1) (aaS (n:=4) ha) Adj.nil
 obtain⟨t1,t2,t3⟩:=aqY (n:=6) k1 (by simp at k2;omega)
 refine⟨?_,k3⟩
 unfold avR
 dsimp only
 split
 ·exact aBg
 ·exact aAL t1 (by simp at k2;omega) t3 (by omega)
def sqF(es:List Int)(n m k:Int)(a:Nat):List ZP×Nat:=
 let x:=aaf es n a
 let y:=aaf es n x.2
 let z:=aaf es m y.2
 let w:=aaf es m z.2
 (agh ((x.1:Int)-k) ((y.1:Int)-k) ((x.1:Int)-k+1+z.1) ((y.1:Int)-k+1+w.1),w.2)
theorem aCW{es:List Int}{n m k:Int}{a:Nat}(ha:a≤es.length)(hn:1≤n)(hn2:n≤10)(hm:1≤m)(hm2:m≤10)(hk:0≤k)(hk2:k≤10):aaQ (sqF es n m k a).1∧(sqF es n m k a).2≤es.length:=by
 have h1:=abB (es:=es) (a:=a) hn
 have h2:=abB (es:=es) (a:=(aaf es n a).2) hn
 have h3:=abB (es:=es) (a:=(aaf es n (aaf es n a).2).2) hm
 have h4:=abB (es:=es) (a:=(aaf es m (aaf es n (aaf es n a).2).2).2) hm
 exact⟨atZ (by omega) (by omega) (by omega) (by omega) (by omega) (by omega),aaS (aaS (aaS (aaS ha)))⟩
def acj(es:List Int)(a:Nat):List ZP×Nat:=
 let k:=aaf es 4 a
 if(k.1:Int)=0 then sqF es 5 4 4 k.2
 else if(k.1:Int)=1 then
  let p:=pF es k.2
  let u:=vF es p.2
  let v:=vF es u.2
  if aj4 u.1 v.1≠0 then(ayH p.1 u.1 v.1,v.2) else avR es v.2
 else avR es k.2
theorem afL{es:List Int}{a:Nat}(ha:a≤es.length):aaQ (acj es a).1∧(acj es a).2≤es.length:=by
 have h0:=aaS (n:=4) ha
 unfold acj
 dsimp only
 split
 ·exact aCW h0 (by decide) (by decide) (by decide) (by decide) (by decide) (by decide)
 ·split
  ·obtain⟨p1,p2,p3⟩:=arU h0
   obtain⟨u1,u2,u3,u4⟩:=ayo p3
   obtain⟨v1,v2,v3,v4⟩:=ayo u4
   split
   ·rename_i hc
    exact⟨aDo ⟨by omega,by omega⟩ ⟨by omega,by omega⟩ ⟨by omega,by omega⟩ hc,v4⟩
   ·exact asr v4
  ·exact asr h0
def aIF:List ZP:=[(0,0),(1,0),(0,1)]
def at7(es:List Int)(a:Nat):List ZP×Nat:=
 let k:=aaf es 2 a
 if(k.1:Int)=0 then sqF es 3 2 1 k.2
 else
  let x:=aaf es 3 k.2
  let y:=aaf es 3 x.2
  let u1:=aaf es 2 y.2
  let u2:=aaf es 3 u1.2
  let v1:=aaf es 3 u2.2
  let v2:=aaf es 2 v1.2
  (if 0<aj4 (1+(u1.1:Int),(u2.1:Int)-1) ((v1.1:Int)-1,1+(v2.1:Int)) then ayH ((x.1:Int)-1,(y.1:Int)-1) (1+(u1.1:Int),(u2.1:Int)-1) ((v1.1:Int)-1,1+(v2.1:Int)) else aIF,v2.2)
def acJ(es:List Int)(a:Nat):Tr×Nat:=
 let r:=acj es a
 let k:=aaf es 3 r.2
 if(k.1:Int)=0 then
  let s:=acj es k.2
  let f:=aaf es 2 s.2
  (ae0 [r.1,s.1] (1+(f.1:Int)),f.2)
 else
  let f:=aaf es 2 k.2
  (ae0 [r.1] (1+(f.1:Int)),f.2)
theorem amJ{es:List Int}{a:Nat}(ha:a≤es.length):akd 18 (acJ es a).1∧(acJ es a).2≤es.length:=by
 obtain⟨r1,r2⟩:=afL ha
 have h3:=aaS (n:=3) r2
 unfold acJ
 dsimp only
 split
 ·obtain⟨s1,s2⟩:=afL h3
  exact⟨aqq (fun r hr=>by simp only[aT,jY,or_false] at hr;rcases hr with rfl|rfl;exact r1;exact s1) (by simp),aaS s2⟩
 ·exact⟨aqq (fun r hr=>by simp only[aT,jY,or_false] at hr;subst hr;exact r1) (by simp),aaS h3⟩
def azR(l:LnQ):Tr:=(Tr.node l (.leaf true) (.leaf false)).restrict []
def aeR(es:List Int):Nat→Nat→Tr×Nat
 |0,a=>
  let k:=aaf es 6 a
  if(k.1:Int)=1 then(azR (lF es k.2).1,(lF es k.2).2)
  else if(k.1:Int)=2 then((af6 es 3 k.2).1.restrict [],(af6 es 3 k.2).2)
  else if(k.1:Int)=3 then((acJ es k.2).1.compl,(acJ es k.2).2)
  else acJ es k.2
 |d+1,a=>
  let k:=aaf es 6 a
  if(k.1:Int)=0 then
   let x:=aeR es d k.2
   let o:=aaf es 4 x.2
   let y:=aeR es d o.2
   (x.1.mergeQ (1+(o.1:Int)) y.1 [],y.2)
  else if(k.1:Int)=1 then(azR (lF es k.2).1,(lF es k.2).2)
  else if(k.1:Int)=2 then((af6 es 3 k.2).1.restrict [],(af6 es 3 k.2).2)
  else if(k.1:Int)=3 then((acJ es k.2).1.compl,(acJ es k.2).2)
  else acJ es k.2
def aIV(es:List Int)(a:Nat):Tr×Nat:=
 let k:=aaf es 4 a
 if(k.1:Int)=0 then(azR (lF es k.2).1,(lF es k.2).2)
 else if(k.1:Int)=1 then((af6 es 2 k.2).1.restrict [],(af6 es 2 k.2).2)
 else(ae0 [(at7 es k.2).1] 2,(at7 es k.2).2)
def aA9(op:Int)(a b:Tr):Bool:=decide ((a.mergeQ op b []).isLeaf=true∧(a.mergeQ op b []).code=false)
def aFC(a b:Tr):Int:=if aA9 4 a b then 0 else if aA9 3 a b then-1 else if aA9 3 b a then 1 else 2
def atQ:Tr→PtQ→Bool
 | .leaf b,_=>b
 | .node l x y,p=>if(l.value p).num.sign=1 then atQ x p else if(l.value p).num.sign= -1 then atQ y p else false
theorem afF: ∀{t:Tr} {c:aae} {b:Bool} {e:aae},t.all LnQ.ok→aaJ c→(b,e)∈t.parts c→aaJ e∧ ∀p,InD e p→InD c p∧t.val p=b
 | .leaf v,c,b,e,_,hc,h=>by
  rw[Tr.parts,aV] at h
  cases h
  exact⟨hc,fun p hp=>⟨hp,rfl⟩⟩
 | .node l x y,c,b,e,⟨hl,hx,hy⟩,hc,h=>by
  rw[Tr.parts] at h
  rcases bY.1 h with h|h
  ·split at h
   ·rename_i hb
    obtain⟨k1,k2⟩:=aaU hc hl hb
    obtain⟨m1,m2⟩:=afF hx k1 h
    refine⟨m1,fun p hp=>?_⟩
    obtain⟨n1,n2⟩:=m2 p hp
    obtain⟨o1,o2⟩:=(k2 p).1 n1
    exact⟨o1,by rw[Tr.val_pos o2,n2]⟩
   ·cases h
  ·split at h
   ·rename_i hb
    obtain⟨k1,k2⟩:=aaU hc hl.rev hb
    obtain⟨m1,m2⟩:=afF hy k1 h
    refine⟨m1,fun p hp=>?_⟩
    obtain⟨n1,n2⟩:=m2 p hp
    obtain⟨o1,o2⟩:=(k2 p).1 n1
    rw[aaV] at o2
    exact⟨o1,by rw[Tr.val_neg (by grind),n2]⟩
   ·cases h
def aas(t:Tr):List aae:=((t.parts []).filter (·.1)).map (·.2)
theorem ac1{t:Tr}{e:aae}:e∈aas t↔(true,e)∈t.parts []:=by
 unfold aas
 simp
def aHR(l:LnQ)(p:PtQ):aae→Rat→Rat
 |[],f=>f
 |s::c,f=>aHR l p c (if Int.sign (s.l.nor.dot l.nor).num<0 then(if-(s.l.value p/s.l.nor.dot l.nor)<f then-(s.l.value p/s.l.nor.dot l.nor) else f) else f)
def aHo:aae→PtQ
 |[]=>⟨0,0⟩
 |s::c=>adk (s.l.at s.v.sample) s.l.nor (aHR s.l (s.l.at s.v.sample) c 1*mkRat 1 2)
theorem aqp{v k:Rat}(hk:k<0)(hv:0<v):0< -(v/k):=by
 have e: -(v/k)* -k=v:=by grind
 exact(aaq (k:= -k) (by grind)).1 (by rw[e];exact hv)
def aAf:Tr→PtQ→PtQ→Bool×Bool
 | .leaf b,_,_=>(b,true)
 | .node l x y,p,v=>match (if(l.value p).num.sign=0 then(l.dir.cross v).num.sign else(l.value p).num.sign) with
  |1=>aAf x p v
  | -1=>aAf y p v
  |_=>(false,false)
theorem ajs(l:LnQ)(v:PtQ):l.dir.cross v=l.nor.dot v:=by
 unfold LnQ.dir LnQ.nor PtQ.cross PtQ.dot
 grind
def Gn(L:List LnQ)(p v:PtQ):Prop:= ∀l∈L,l.value p=0→l.nor.dot v≠0
def ePa(x:Bool×aae):DV:= .ag [.sl (x.2.map eFr),eU (.leaf x.1)]
theorem aDj(l:List (Bool×aae)):adh 2 (l.map ePa):=fun d hd=>by
 obtain⟨x,_,rfl⟩:=bJ.1 hd
 exact⟨rfl,rfl⟩
theorem aet: ∀(t:Tr) (c:aae),(t.parts c).length≤t.size+1
 | .leaf _,_=>aM _
 | .node l x y,c=>by
  have h1:=aet x (aaL c l)
  have h2:=aet y (aaL c l.rev)
  rw[Tr.parts,aR,Tr.size]
  split<;>split<;>(try simp only[gX])<;>omega
theorem amY{q:Rat}{i:Nat}[h:BQ q i](hi:i≤900000000:=by decide):PF GB prog 40 [eF q] (eR q):=by
 refine fn func40 J J ntmps40 J J (fun C=>?_)
 refine cl rfl (aka (q:=q) (i:=i) hi) rfl<|cl rfl (aiJ (q:=q) (i:=i) hi) rfl<|?_
 exact rz J J
theorem amW{b:Bool}{c:aae}{o:List (Bool×aae)}(hs:o.length≤1000000):PB GB prog 166 (mkB [some (eU (.leaf b)),some (.sl (c.map eFr)),none]) 2 106 (o.map ePa) (fun w=> .v (.slice w.a w.n w.c)) ((o++Tr.parts (.leaf b) c).map ePa):=by
 refine fnQ func166 J J ntmps166 J J (fun C=>?_)
 refine cl (fu:=⟨0⟩) rfl amA rfl<|?_
 refine kbT 12 rfl ?_
 refine gx rfl<|rf J J<|apB ((o++[(b,c)]).map ePa) rfl (by rw[bU]<;>rfl) (aDj [(b,c)]) rfl<|?_
 exact rzQ J J J J
theorem am8{l:LnQ}{x y:Tr}{c:aae}{o:List (Bool×aae)}(hl:LB l)(hlo:l.ok)(hc:ab1 c)(hn:c.length+(Tr.node l x y).depth≤100000)(hs:o.length+((Tr.node l x y).size+1)≤1000000)(ihx: ∀{c:aae} {o:List (Bool×aae)},ab1 c→c.length+x.depth≤100000→o.length+(x.size+1)≤1000000→PB GB prog 166 (mkB [some (eU x),some (.sl (c.map eFr)),none]) 2 106 (o.map ePa) (fun w=> .v (.slice w.a w.n w.c)) ((o++Tr.parts x c).map ePa))(ihy: ∀{c:aae} {o:List (Bool×aae)},ab1 c→c.length+y.depth≤100000→o.length+(y.size+1)≤1000000→PB GB prog 166 (mkB [some (eU y),some (.sl (c.map eFr)),none]) 2 106 (o.map ePa) (fun w=> .v (.slice w.a w.n w.c)) ((o++Tr.parts y c).map ePa)):PB GB prog 166 (mkB [some (eU (.node l x y)),some (.sl (c.map eFr)),none]) 2 106 (o.map ePa) (fun w=> .v (.slice w.a w.n w.c)) ((o++Tr.parts (.node l x y) c).map ePa):=by
 have hk1:=aft c l
 have hk2:=aft c l.rev
 have hd:(Tr.node l x y).depth=1+max x.depth y.depth:=rfl
 have hz:(Tr.node l x y).size=1+x.size+y.size:=rfl
 have hp:=aet x (aaL c l)
 refine fnQ func166 J J ntmps166 J J (fun C=>?_)
 refine cl (fu:=⟨0⟩) rfl am5 rfl<|?_
 refine kbF 12 rfl ?_
 refine gx rfl<|cl rfl (awr hlo hc (by omega)) rfl<|?_
 refine bb J J J (fun hc30=>?_) (fun hc30=>?_)
 ·
  have hs2:(o++x.parts (aaL c l)).length+(y.size+1)≤1000000:=by rw[aR];omega
  refine cq ((o++x.parts (aaL c l)).map ePa) rfl (ihx (ahT hlo hc) (by omega) (by omega)) J J<|?_
  refine bb J J J (fun hc38=>?_) (fun hc38=>?_)
  ·
   refine cq _ rfl (ihy (ahT hlo.rev hc) (by omega) (by first|exact hs2|omega)) J J<|?_
   exact rzQ J J J (by simp[Tr.parts,hc30,hc38])
  ·
   exact rzQ J J J (by simp[Tr.parts,hc30,hc38])
 ·
  refine bb J J J (fun hc38=>?_) (fun hc38=>?_)
  ·
   refine cq _ rfl (ihy (ahT hlo.rev hc) (by omega) (by first|exact hs2|omega)) J J<|?_
   exact rzQ J J J (by simp[Tr.parts,hc30,hc38])
  ·
   exact rzQ J J J (by simp[Tr.parts,hc30,hc38])
theorem ao4: ∀{t:Tr} {c:aae} {o:List (Bool×aae)},t.all LB→t.all LnQ.ok→ab1 c→c.length+t.depth≤100000→o.length+(t.size+1)≤1000000→PB GB prog 166 (mkB [some (eU t),some (.sl (c.map eFr)),none]) 2 106 (o.map ePa) (fun w=> .v (.slice w.a w.n w.c)) ((o++Tr.parts t c).map ePa)
 | .leaf _,_,_,_,_,_,_,hs=>amW (by simp only[Tr.size] at hs;omega)
 | .node _ _ _,_,_,hb,ho,hc,hn,hs=>am8 hb.1 ho.1 hc hn hs (fun k1 k2 k3=>ao4 hb.2.1 ho.2.1 k1 k2 k3) (fun k1 k2 k3=>ao4 hb.2.2 ho.2.2 k1 k2 k3)
theorem aw4{t:Tr}(hb:t.all LB)(ho:t.all LnQ.ok)(hd:t.depth≤100000)(hs:t.size≤900000):PB GB prog 166 (mkB [some (eU t),some (.sl []),none]) 2 106 [] (fun w=> .v (.slice w.a w.n w.c)) ((t.parts []).map ePa):=
 ao4 (c:=[]) (o:=[]) hb ho ab1.nil (by rw[gX];omega) (by rw[gX];omega)
def eC(c:aae):DV:= .sl (c.map eFr)
theorem aGR(l:List aae):adh 1 (l.map eC):=fun d hd=>by
 obtain⟨x,_,rfl⟩:=bJ.1 hd
 exact⟨rfl,rfl⟩
def aj5(ps:List (Bool×aae)):List aae:=(ps.filter (·.1)).map (·.2)
theorem aeO{ps:List (Bool×aae)}{k:Nat}{b:Bool}{e:aae}(h:ps[k]? =some (b,e)):aj5 (ps.drop k)=(if b then [e] else [])++aj5 (ps.drop (k+1)):=by
 obtain⟨h1,h2⟩:=aS.1 h
 rw[bQ h1,h2]
 unfold aj5
 cases b<;>simp
theorem asi{t:Tr}(hb:t.all LB)(ho:t.all LnQ.ok)(hd:t.depth≤100000)(hs:t.size≤900000):PF GB prog 103 [eU t] (.sl ((t.parts []).map ePa)):=by
 refine fn func103 J J ntmps103 J J (fun C=>?_)
 refine cqn _ rfl (aw4 hb ho hd hs) J J<|?_
 refine fzE 4 rfl ?_
 exact rz J J
theorem aBd{t:Tr}(hb:t.all LB)(ho:t.all LnQ.ok)(hd:t.depth≤100000)(hs:t.size≤900000):PF GB prog 133 [eU t] (.sl ((aas t).map eC)):=by
 obtain⟨ps,hps⟩: ∃ps,ps=t.parts []:=⟨_,rfl⟩
 have hpl:=aet t []
 rw[←hps] at hpl
 have hml:(ps.map ePa).length=ps.length:=aK ..
 refine fn func133 J J ntmps133 J J (fun C=>?_)
 refine cl (fu:=⟨0⟩) rfl (asi hb ho hd hs) rfl<|?_
 refine eqF 7 (.d (.sl (ps.map ePa))) rfl (by rw[hps]) ?_
 refine gx (fu:=⟨1⟩) rfl<|?_
 refine eqF 8 (.d (vI (ps.length:Nat))) rfl (by rw[hml]<;>rfl) ?_
 refine gx rfl<|?_
 refine nr 3 3 103 1 J J J ?_
 refine lp (X:=List aae×Nat) (fun⟨acc,k⟩=>[(9, .d (vI (k:Nat))),(3, .rw 3)]) (fun⟨acc,k⟩=>[(3,some (.b 103 1 (acc.map eC) true))]) (fun⟨acc,k⟩=>acc++aj5 (ps.drop k)=aas t∧k≤ps.length) (fun⟨acc,k⟩=>ps.length-k) ⟨[],0⟩ rfl ⟨by rw[hps];rfl,bX _⟩ (fun _=>rfl) (fun⟨acc,k⟩ hk=>?_)
 try dsimp only at hk⊢
 obtain⟨h1,h2⟩:=hk
 have hal:acc.length≤ps.length:=by
  have q1:=congrArg List.length h1
  have q2:(aas t).length≤ps.length:=by unfold aas;rw[aK,hps];exact kZ ..
  rw[aR] at q1;omega
 have ham:(acc.map eC).length=acc.length:=aK ..
 refine br J J J (fun hc10=>?_) (fun hc10=>?_)
 ·
  obtain⟨⟨b,e⟩,hx⟩: ∃x,ps[k]? =some x:=⟨_,aQ (by omega)⟩
  refine ix _ rfl (aav hx) rfl<|?_
  refine bb J J J (fun hc17=>?_) (fun hc17=>?_)
  ·
   refine rf J J<|ap ((acc++[e]).map eC) rfl (by rw[bU]<;>rfl) (aGR [e]) rfl<|?_
   refine rnE 22 3 rfl ?_
   exact at_ ⟨acc++[e],k+1⟩ (by dsimp only;exact⟨⟨by rw[←h1,aeO hx,if_pos hc17];simp,by omega⟩,(by omega)⟩)
  ·
   exact at_ ⟨acc,k+1⟩ (by dsimp only;exact⟨⟨by rw[←h1,aeO hx,if_neg (by simp at hc17;rw[hc17];decide)];rfl,by omega⟩,(by omega)⟩)
 ·
  obtain rfl:k=ps.length:=by omega
  obtain rfl:acc=aas t:=by rw[fV] at h1;simpa[aj5] using h1
  refine fzE 3 rfl ?_
  exact rz J J
theorem acz(p:PtQ):(p.half=1∧(0<p.y∨(p.y=0∧0<p.x)))∨(p.half=2∧(p.y<0∨(p.y=0∧p.x<0)))∨(p.half=0∧p.y=0∧p.x=0):=by
 unfold PtQ.half
 simp only[acG,ahN,abV]
 split
 ·rename_i h;exact .inl ⟨rfl,h⟩
 ·rename_i h
  split
  ·rename_i h2
   exact .inr (.inl ⟨rfl,by grind⟩)
  ·rename_i h2
   exact .inr (.inr ⟨rfl,by grind,by grind⟩)
theorem ada{p:PtQ}:p.half=1↔(0<p.y∨(p.y=0∧0<p.x)):=by
 rcases acz p with⟨h,k⟩|⟨h,k⟩|⟨h,k⟩<;>rw[h]<;>grind
theorem aed{p:PtQ}:p.half=2↔(p.y<0∨(p.y=0∧p.x<0)):=by
 rcases acz p with⟨h,k⟩|⟨h,k⟩|⟨h,k⟩<;>rw[h]<;>grind
def Bef(u v:PtQ):Prop:=u.half<v.half∨(u.half=v.half∧0<u.cross v)
theorem ahV{u v:PtQ}:aa6 u v<0↔Bef u v:=by
 unfold aa6 Bef
 split
 ·rename_i h;exact⟨fun _=> .inl h,fun _=>by decide⟩
 ·rename_i h
  split
  ·rename_i h2;exact⟨fun e=>absurd e (by decide),fun e=>by omega⟩
  ·rename_i h2
   have e:u.half=v.half:=by omega
   rw[←acG]
   constructor
   ·intro k;exact .inr ⟨e,by omega⟩
   ·rintro (k|⟨_,k⟩)
    ·omega
    ·omega
def aj9(d:PtQ):PtQ:=⟨-d.x, -d.y⟩
theorem axw{d:PtQ}(h:d.half≠0):(aj9 d).half=3-d.half:=by
 rcases acz d with⟨e,k⟩|⟨e,k⟩|⟨e,k⟩
 ·rw[e];exact aed.2 (by unfold aj9;grind)
 ·rw[e];exact ada.2 (by unfold aj9;grind)
 ·exact absurd e h
theorem adK{d:PtQ}(h:d.half≠0):d.half=1∨d.half=2:=by
 rcases acz d with⟨e,_⟩|⟨e,_⟩|⟨e,_⟩
 ·exact .inl e
 ·exact .inr e
 ·exact absurd e h
def Nxt(ds:List PtQ)(u w:PtQ):Prop:=(Bef u w∧ ∀d∈ds,¬(Bef u d∧Bef d w))∨((∀d∈ds,¬Bef u d)∧ ∀d∈ds,¬Bef d w)
structure aI7 (ds:List PtQ):Prop where
 nz: ∀d∈ds,d.half≠0
 neg: ∀d∈ds,aj9 d∈ds
theorem ac3(u v:PtQ):v.cross u= -u.cross v:=by unfold PtQ.cross;grind
theorem ans(u v:PtQ):u.cross (aj9 v)= -u.cross v:=by unfold PtQ.cross aj9;grind
def btw(a b:Rat)(u w:PtQ):PtQ:=⟨a*u.x+b*w.x,a*u.y+b*w.y⟩
end Go.Sx
end
section
namespace Go.Sx
open Go
inductive OT where
 |z (π:List (Nat×Bool))
 |q (i:Nat) (t:OT)
 |a (i:Nat) (t:OT)
 |c (i:Nat) (t r:OT)
def OT.sz:OT→Nat
 | .z _=>0
 | .q _ t=>t.sz+1
 | .a _ t=>t.sz+1
 | .c _ t r=>t.sz+r.sz+1
def OT.d:OT→Nat
 | .z π=>π.length
 | .q _ t=>t.d+1
 | .a _ t=>t.d+1
 | .c _ t r=>Nat.max (t.d+1) r.d
section
variable {P:Program} {ops:Array Oper} {Q:Exit→Act→World→Prop} {S:World→Prop} {π₂:List (Nat×Bool)}
def dwN(P:Program)(ops:Array Oper)(Q:Exit→Act→World→Prop)(K:(World→Prop)→Act→World→Prop):List Nat→OT→(World→Prop)→Act→World→Prop
 |ks, .z π,S,a,w=>dwT P ops Q K ks π S a w
 |ks, .q i t,S,a,w=> ∃o v,ops[i]? =some o∧S w∧YieldsIf P ops S o v a∧dwN P ops Q K ks t S (a.put o.dst v) w
 |ks, .a i t,S,a,w=>wpOp P ops Q i (grS S (dwN P ops Q K ks t)) a w∧
   ∀j,(h:j∈ks)→wpOp P ops Q j (grS S (dwN P ops Q K (without ks j) (.a i t))) a w
 |ks, .c i t r,S,a,w=>wpOp P ops Q i (grS S (dwN P ops Q K ks t)) a w∧dwN P ops Q K ks r S a w∧
   ∀j,(h:j∈ks)→wpOp P ops Q j (grS S (dwN P ops Q K (without ks j) (.c i t r))) a w
termination_by ks t=>ks.length+t.sz
decreasing_by
 all_goals (first|(have:=ahM h;simp only[OT.sz] at*;omega)|(simp only[OT.sz];omega))
def adw(ops:Array Oper)(fin:Nat→Bool)(π₂:List (Nat×Bool)):Nat→Bool→List Nat→OT→Array Bool→List Nat→Bool
 |0,_,_,_,_,_=>false
 |n+1,false,ks, .z π,l,_=>ag4 ops fin π₂ n ks π l
 |_+1,true,_, .z _,_,_=>false
 |n+1,false,ks, .q i t,l,_=>akG ops fin l i&&adw ops fin π₂ n false ks t (l.setIfInBounds i true) []
 |_+1,true,_, .q _ _,_,_=>false
 |n+1,true,ks, .a i t,l,rs=>rs.all (fun j=>Nat.beq j i)&&adw ops fin π₂ n false ks t (l.setIfInBounds i true) []
 |n+1,false,ks, .a i t,l,_=>!(Region.ready .any ops l).isEmpty&&(Region.ready .any ops l).all (fun j=>Nat.beq j i||ks.contains j)&&adw ops fin π₂ n false ks t (l.setIfInBounds i true) []&&ks.all fun j=>adw ops fin π₂ n false (without ks j) (.a i t) (l.setIfInBounds j true) []
 |n+1,true,ks, .c i t r,l,rs=>adw ops fin π₂ n false ks t (l.setIfInBounds i true) []&&adw ops fin π₂ n true ks r l (without rs i)
 |n+1,false,ks, .c i t r,l,_=>!(Region.ready .any ops l).isEmpty&&adw ops fin π₂ n false ks t (l.setIfInBounds i true) []&&adw ops fin π₂ n true ks r l (without ((Region.ready .any ops l).filter fun j=>!ks.contains j) i)&&ks.all fun j=>adw ops fin π₂ n false (without ks j) (.c i t r) (l.setIfInBounds j true) []
end
section
variable {P:Program} {GB:Gh} {C:Ctx} {n:Nat} {fr fr':FrF} {own own' own0 own1 own1':List adu} {bs bs0 bs1 bs1':List aeg} {ops:Array Oper} {Q:Exit→Act→World→Prop} {fd:List FD} {π₂:List (Nat×Bool)} {t r:OT}
abbrev dnK (P:Program) (ops:Array Oper) (Q:Exit→Act→World→Prop) (K:(World→Prop)→Act→World→Prop) (t:OT):List Nat→(World→Prop)→Act→World→Prop:=fun ks S=>dwN P ops (acv Q) K ks t S
end
end Go.Sx
end
section
namespace Go.Sx
open Go Go.Proofs Tryz
variable {GB:Gh}
theorem ag8{c:List LnQ}{l:LnQ}(hc: ∀m∈c,LB m)(hl:LB l): ∀m∈c++[l],LB m:=by
 rw[qN]
 exact⟨hc,by simpa using hl⟩
theorem LB.rev{l:LnQ}(h:LB l):LB l.rev:=⟨⟨by rw[show l.rev.a= -l.a from rfl,iT];exact h.bl.a,by rw[show l.rev.b= -l.b from rfl,iT];exact h.bl.b,by rw[show l.rev.c= -l.c from rfl,iT];exact h.bl.c⟩⟩
theorem atN{c:List LnQ}{l:LnQ}(hc: ∀m∈c,LB m)(hok: ∀m∈c,m.ok)(hn:c.length≤900)(hl:LB l)(hlo:l.ok):PF GB prog 90 [.sl (c.map eL),eL l] (vI (aea c l)):=by
 have hcl:=aeF c
 refine fn func90 J J ntmps90 J J (fun C=>?_)
 refine ro0 J J<|ap (c.map eL) J J (acR _) rfl<|rf J J<|apf ((c++[l]).map eL) rfl (by rw[bU];rfl) (acR [l]) rfl<|?_
 refine cl rfl (aoZ (c:=c++[l]) (ag8 hc hl) (abS hok hlo) (by simp;omega)) rfl<|ro0 J J<|ap (c.map eL) J J (acR _) rfl<|cl rfl (akL (l:=l)) rfl<|?_
 refine rf J J<|apf ((c++[l.rev]).map eL) rfl (by rw[bU];rfl) (acR [l.rev]) rfl<|cl rfl (aoZ (c:=c++[l.rev]) (ag8 hc hl.rev) (abS hok hlo.rev) (by simp;omega)) rfl<|?_
 refine csb 31 J J J (fun hg31=>?_) (fun hg31=>?_)
 ·
  refine bb J J J (fun hc33=>?_) (fun hc33=>?_)
  ·
   exact rz rfl (by show vI 0=vI _;congr 1;unfold aea;simp_all)
  ·
   refine bb J J J (fun hc34=>?_) (fun hc34=>?_)
   ·
    exact rz rfl (by show vI 1=vI _;congr 1;unfold aea;simp_all)
   ·
    exact rz rfl (by simp[hg31] at hc34)
 ·
  refine bb J J J (fun hc34=>?_) (fun hc34=>?_)
  ·
   exact rz rfl (by simp[hg31] at hc34)
  ·
   exact rz rfl (by show vI (-1)=vI _;congr 1;unfold aea;simp_all)
theorem aeW{α:Type}{p:α→Bool}: ∀{xs:List α} {n:Nat},n≤xs.length→(∀j (h:j<xs.length),j<n→p xs[j]=true)→(∀h:n<xs.length,p xs[n]=false)→(xs.takeWhile p).length=n
 |[],n,h,_,_=>by simp at h;subst h;rfl
 |x::xs,0,_,_,h3=>by
  have:=h3 (by simp)
  simp only[oU] at this
  simp[nS,this]
 |x::xs,n+1,h1,h2,h3=>by
  have hx:=h2 0 (by simp) (by omega)
  simp only[oU] at hx
  rw[nS,if_pos hx,bW]
  rw[aeW (n:=n) (by simpa using h1) (fun j h hj=>by have:=h2 (j+1) (by simpa using h) (by omega);simpa using this) (fun h=>by have:=h3 (by simpa using h);simpa using this)]
theorem an7{xs:List LnQ}{l:LnQ}{n:Nat}(h1:n≤xs.length)(h2: ∀j (h:j<xs.length),j<n→aa6 xs[j].dir l.dir<0)(h3: ∀h:n<xs.length,¬aa6 xs[n].dir l.dir<0):ad9 xs l=n:=
 aeW h1 (fun j h hj=>decide_eq_true (h2 j h hj)) (fun h=>decide_eq_false (h3 h))
theorem anQ{xs:List LnQ}{l:LnQ}{n:Nat}(hn:ad9 xs l=n)(h:n<xs.length)(e:xs[n]=l):acr xs l=xs:=by
 unfold acr;rw[hn,if_pos (by rw[aQ h,e])]
theorem aib{xs:List LnQ}{l:LnQ}{n:Nat}(hn:ad9 xs l=n)(h: ∀h:n<xs.length,xs[n]≠l):acr xs l=xs.take n++l::xs.drop n:=by
 unfold acr
 rw[hn,if_neg]
 intro e
 obtain⟨h1,h2⟩:=aS.1 e
 exact h h1 h2
theorem azc(xs:List LnQ)(n:Nat):adh 6 ((xs.map eL).take n):=fun d hd=>acR xs d (fZ hd)
theorem atp(xs:List LnQ)(n m:Nat):adh 6 (((xs.map eL).take n).drop m):=fun d hd=>acR xs d (fZ (gJ hd))
theorem ayI(xs:List LnQ)(n m:Nat)(l:LnQ):adh 6 ([eL l]++((xs.map eL).take n).drop m):=fun d hd=>by
 rcases bY.1 hd with h|h
 ·exact acR [l] d h
 ·exact atp xs n m d h
structure Cst (c:List LnQ) (k:Nat) (xs:List LnQ):Prop where
 le:k≤c.length
 f:ad1 c (c.drop k) xs=aa3 c
 m: ∀m∈xs,m∈c
 n:xs.length≤k
theorem Cst.skip{c xs:List LnQ}{k:Nat}(h:Cst c k xs)(hk:k<c.length)(e:(ab9 c[k] c IvQ.all).isSome=false):Cst c (k+1) xs:=by
 have:=h.f
 rw[bQ hk,ad1,e] at this
 exact⟨hk,this,h.m,by have:=h.n;omega⟩
theorem Cst.ins{c xs ys:List LnQ}{k:Nat}(h:Cst c k xs)(hk:k<c.length)(e:(ab9 c[k] c IvQ.all).isSome=true)(hy:acr xs c[k]=ys)(hl:ys.length≤xs.length+1):Cst c (k+1) ys:=by
 have:=h.f
 rw[bQ hk,ad1,e,if_pos rfl,hy] at this
 refine⟨hk,this,fun m hm=>?_,by have:=h.n;omega⟩
 rw[←hy] at hm
 rcases afw.1 hm with rfl|hm
 ·exact bN hk
 ·exact h.m m hm
theorem Cst.done{c xs:List LnQ}{k:Nat}(h:Cst c k xs)(hk:k=c.length):aa3 c=xs:=by
 have:=h.f
 rw[hk,fV,ad1] at this
 exact this.symm
def af1(c:List LnQ):Bool:=if(((c.map eL).length:Nat):Int)=0 then true else decide ((0:Int)<((((aa3 c).map eL).length:Nat):Int))
theorem Cst.nil(c:List LnQ):Cst c 0 []:=⟨bX _,rfl,fun m hm=>absurd hm (by simp),aM _⟩
theorem az5{c:List LnQ}(hc: ∀m∈c,LB m)(hok: ∀m∈c,m.ok)(hn:c.length≤1000):PF GB prog 151 [.sl (c.map eL)] (.tp [.sl ((aa3 c).map eL),vB (af1 c)]):=by
 have hcl:=aeF c
 refine fn (fu:=⟨16⟩) func151 J J ntmps151 J J (fun C=>?_)
 refine eqF 11 (.d (vI (c.length:Nat))) rfl (by rw[hcl];rfl) ?_
 refine gx rfl<|?_
 refine nlC 4 rfl ?_
 refine lp (X:=List LnQ×Nat) (fun⟨xs,k⟩=>[(12, .d (vI (k:Nat))),(11, .d (vI (c.length:Nat))),(10, .d (.sl (c.map eL))),(0, .d (.sl (c.map eL))),(4, .d (.sl (xs.map eL)))]) (fun⟨xs,k⟩=>[]) (fun⟨xs,k⟩=>Cst c k xs) (fun⟨xs,k⟩=>c.length-k) ⟨[],0⟩ rfl (Cst.nil c) (fun _=>rfl) (fun⟨xs,k⟩ hk=>?_)
 try dsimp only at hk⊢
 have hS:=hk
 refine br J J J (fun hc13=>?_) (fun hc13=>?_)
 ·
  have hk:k<c.length:=by omega
  obtain⟨m,hm⟩: ∃m,m=c[k]:=⟨_,rfl⟩
  haveI hmb:LB m:=hm▸hc _ (bN hk)
  have hmo:m.ok:=hm▸hok _ (bN hk)
  have hxl:=aeF xs
  have hxn:=hS.n
  refine ix (fu:=⟨1⟩) _ rfl (aeU hk) rfl<|?_
  refine eqF 16 (.d (eL m)) rfl (by rw[hm];rfl) ?_
  refine gx rfl<|cl rfl (azD hc hok hn hk) rfl<|?_
  refine bb (fu2:=⟨8⟩) J J J (fun hc24=>?_) (fun hc24=>?_)
  ·
   have hinv:Cst c (k+1) xs:=hS.skip hk (by rw[←adP];simpa using hc24)
   exact at_ ⟨xs,k+1⟩ (by dsimp only;exact⟨hinv,(by omega)⟩)
  ·
   have hyes:(ab9 c[k] c IvQ.all).isSome=true:=by rw[←adP];simpa using hc24
   refine mg (fu:=⟨6⟩) (X:=Unit) (fun _=>[(12, .d (vI (k:Nat))),(11, .d (vI (c.length:Nat))),(10, .d (.sl (c.map eL))),(0, .d (.sl (c.map eL))),(4, .d (.sl (xs.map eL))),(6, .ov 6 0),(9, .d (vI (ad9 xs m:Nat)))]) (fun _=>[(6,some (.o 175 [.d ((.v (.bool (decide (m.a<0))))), .d (dN m.a.natAbs), .d ((.v (.bool (decide (m.b<0))))), .d (dN m.b.natAbs), .d ((.v (.bool (decide (m.c<0))))), .d (dN m.c.natAbs)] true))]) (fun _=>True) [12,11,10,0,4,6,9] [6] rfl ?_ (fun _=>rfl) (fun _ _=>?_)
   ·
    refine gx rfl<|?_
    refine lp (fu:=⟨6⟩) (X:=Nat) (fun n=>[(12, .d (vI (k:Nat))),(11, .d (vI (c.length:Nat))),(10, .d (.sl (c.map eL))),(0, .d (.sl (c.map eL))),(4, .d (.sl (xs.map eL))),(6, .ov 6 0),(9, .d (vI (n:Nat)))]) (fun n=>[(6,some (.o 175 [.d ((.v (.bool (decide (m.a<0))))), .d (dN m.a.natAbs), .d ((.v (.bool (decide (m.b<0))))), .d (dN m.b.natAbs), .d ((.v (.bool (decide (m.c<0))))), .d (dN m.c.natAbs)] true))]) (fun n=>n≤xs.length∧ ∀j (h:j<xs.length),j<n→aa6 xs[j].dir m.dir<0) (fun n=>xs.length-n) 0 rfl ⟨bX _,fun j _ hj=>absurd hj (by omega)⟩ (fun _=>rfl) (fun n hk=>?_)
    obtain⟨n1,n2⟩:=hk
    refine csS J J J J (fun hg28=>?_) (fun hg28=>?_)
    ·
     refine ix _ rfl (aeU (by omega)) rfl<|?_
     haveI:LB (xs[n]'(by omega)):=hc _ (hS.m _ (bN _))
     refine cl rfl (amw (l:=xs[n]'(by omega))) rfl<|cl rfl (amw (l:=m)) rfl<|cl rfl (aBi (u:=(xs[n]'(by omega)).dir) (v:=m.dir)) rfl<|?_
     refine br J J J (fun hc39=>?_) (fun hc39=>?_)
     ·
      exact at_ (n+1) ⟨⟨by omega,fun j h hj=>by by_cases q:j=n;(subst q;exact hc39);exact n2 j h (by omega)⟩,(by omega)⟩
     ·
      have hidx:ad9 xs m=n:=an7 n1 n2 (fun h=>hc39)
      exact at_ () trivial
    ·
     have hidx:ad9 xs m=n:=an7 n1 n2 (fun h=>absurd h (by omega))
     exact at_ () trivial
   ·
    obtain⟨n,hnx⟩: ∃n,ad9 xs m=n:=⟨_,rfl⟩
    rw[hnx]
    have hnl:n≤xs.length:=by rw[←hnx];unfold ad9;exact(List.takeWhile_sublist _).length_le
    have hcb: ∀m∈xs,LB m:=fun m hm=>hc m (hS.m m hm)
    refine csS J J J J (fun hg45=>?_) (fun hg45=>?_)
    ·
     refine ix _ rfl (aeU (by omega)) rfl<|cl rfl (apt (l:=xs[n]'(by omega)) (m:=m) (hl:=hcb _ (bN (by omega)))) rfl<|?_
     refine br J J J (fun hc54=>?_) (fun hc54=>?_)
     ·
      have hn46:n<xs.length:=by omega
      have hinv:Cst c (k+1) xs:=hS.ins hk hyes (by rw[←hm];exact anQ hnx hn46 ((agl _ m).1 hc54)) (by omega)
      exact at_ ⟨xs,k+1⟩ (by dsimp only;exact⟨hinv,(by omega)⟩)
     ·
      have hnew: ∀h:n<xs.length,xs[n]≠m:=fun h e=>hc54 ((agl _ m).2 e)
      obtain⟨ys,hys⟩: ∃ys,ys=xs.take n++m::xs.drop n:=⟨_,rfl⟩
      have hinv:Cst c (k+1) ys:=hS.ins hk hyes (by rw[←hm,aib hnx hnew,hys]) (by rw[hys];simp;omega)
      refine s3 n _ J J J J (acR _) (by rw[hxl];exact hnl) rfl<|ro J J<|sc' n xs.length _ J J (by rw[hxl]) rfl (acR _) hnl (by omega) rfl<|?_
      refine ap _ J J (atp _ _ _) rfl<|apf (hv:=by simp only[aah];exact⟨by kernel_rfl,by omega⟩) (ho:=fun _=>⟨azc _ _,by simp⟩) (ys.map eL) rfl (by rw[hys,bU,cZ,gW,iL,aW (l:=xs.map eL) (i:=xs.length) (by simp)];rfl) (ayI _ _ _ _) rfl<|?_
      exact at_ ⟨ys,k+1⟩ (by dsimp only;exact⟨hinv,(by omega)⟩)
    ·
     have hnew: ∀h:n<xs.length,xs[n]≠m:=fun h=>absurd h (by omega)
     obtain⟨ys,hys⟩: ∃ys,ys=xs.take n++m::xs.drop n:=⟨_,rfl⟩
     have hinv:Cst c (k+1) ys:=hS.ins hk hyes (by rw[←hm,aib hnx hnew,hys]) (by rw[hys];simp;omega)
     refine s3 n _ J J J J (acR _) (by rw[hxl];exact hnl) rfl<|ro J J<|sc' n xs.length _ J J (by rw[hxl]) rfl (acR _) hnl (by omega) rfl<|?_
     refine ap _ J J (atp _ _ _) rfl<|apf (hv:=by simp only[aah];exact⟨by kernel_rfl,by omega⟩) (ho:=fun _=>⟨azc _ _,by simp⟩) (ys.map eL) rfl (by rw[hys,bU,cZ,gW,iL,aW (l:=xs.map eL) (i:=xs.length) (by simp)];rfl) (ayI _ _ _ _) rfl<|?_
     exact at_ ⟨ys,k+1⟩ (by dsimp only;exact⟨hinv,(by omega)⟩)
 ·
  have hfin:aa3 c=xs:=hS.done (by have:=hS.le;omega)
  refine cs 71 J J J (fun hg71=>?_) (fun hg71=>?_)
  ·
   exact rz rfl (by rw[af1,if_pos hg71,hfin];rfl)
  ·
   exact rz rfl (by rw[af1,if_neg hg71,hfin];rfl)
section
variable {α:Type} (c:α→α→Int)
def afU(x:α):List α→List α
 |[]=>[x]
 |u::t=>if c u x<0 then u::afU x t else if c u x=0 then u::t else x::u::t
def ami(x:α)(xs:List α):Nat:=(xs.takeWhile fun u=>decide (c u x<0)).length
theorem ama(x:α)(xs:List α):ami c x xs≤xs.length:=(List.takeWhile_sublist _).length_le
theorem afa{x:α}{xs:List α}{n:Nat}(h1:n≤xs.length)(h2: ∀j (h:j<xs.length),j<n→c xs[j] x<0)(h3: ∀h:n<xs.length,¬c xs[n] x<0):ami c x xs=n:=
 aeW h1 (fun j h hj=>decide_eq_true (h2 j h hj)) (fun h=>decide_eq_false (h3 h))
theorem agV{x:α}: ∀{xs:List α} {n:Nat},ami c x xs=n→(h:n<xs.length)→c xs[n] x=0→afU c x xs=xs
 |[],n,_,h,_=>by simp at h
 |u::t,n,hn,h,e=>by
  rw[afU]
  unfold ami at hn
  rw[nS] at hn
  by_cases hu:c u x<0
  ·rw[if_pos hu]
   rw[if_pos (by simpa using hu)] at hn
   obtain⟨k,rfl⟩: ∃k,n=k+1:=⟨n-1,by simp at hn;omega⟩
   rw[agV (xs:=t) (n:=k) (by unfold ami;simpa using hn) (by simpa using h) (by simpa using e)]
  ·rw[if_neg (by simpa using hu)] at hn
   simp at hn;subst hn
   rw[if_neg hu,if_pos (by simpa using e)]
theorem ads{x:α}: ∀{xs:List α} {n:Nat},ami c x xs=n→(∀h:n<xs.length,c xs[n] x≠0)→afU c x xs=xs.take n++x::xs.drop n
 |[],n,hn,_=>by simp[ami] at hn;subst hn;rfl
 |u::t,n,hn,e=>by
  rw[afU]
  unfold ami at hn
  rw[nS] at hn
  by_cases hu:c u x<0
  ·rw[if_pos hu]
   rw[if_pos (by simpa using hu)] at hn
   obtain⟨k,rfl⟩: ∃k,n=k+1:=⟨n-1,by simp at hn;omega⟩
   rw[ads (xs:=t) (n:=k) (by unfold ami;simpa using hn) (fun h=>by have:=e (by simpa using h);simpa using this)]
   simp
  ·rw[if_neg (by simpa using hu)] at hn
   simp at hn;subst hn
   have:=e (by simp)
   rw[if_neg hu,if_neg (by simpa using this)];rfl
theorem aim(x:α): ∀(xs:List α),(afU c x xs).length≤xs.length+1
 |[]=>aM _
 |u::t=>by
  have:=aim x t
  rw[afU]
  split
  ·simp;omega
  ·split<;>simp
theorem apX{x y:α}: ∀{xs:List α},y∈afU c x xs→y=x∨y∈xs
 |[],h=>by rw[afU,aV] at h;exact .inl h
 |u::t,h=>by
  rw[afU] at h
  split at h
  ·rcases aT.1 h with rfl|h
   ·exact .inr aZ
   ·rcases apX h with h|h
    ·exact .inl h
    ·exact .inr (aJ _ h)
  ·split at h
   ·exact .inr h
   ·rcases aT.1 h with rfl|h
    ·exact .inl rfl
    ·exact .inr h
def ale(l:List α):List α:=l.foldl (fun out x=>afU c x out) []
theorem am0: ∀(l o:List α),(l.foldl (fun out x=>afU c x out) o).length≤l.length+o.length
 |[],o=>by simp
 |x::t,o=>by
  have:=am0 t (afU c x o)
  have:=aim c x o
  simp only[jT,bW];omega
theorem anV{y:α}: ∀{l o:List α},y∈l.foldl (fun out x=>afU c x out) o→y∈l∨y∈o
 |[],o,h=> .inr h
 |x::t,o,h=>by
  rcases anV (l:=t) h with h|h
  ·exact .inl (aJ _ h)
  ·rcases apX c h with rfl|h
   ·exact .inl aZ
   ·exact .inr h
end
theorem amu{x:Rat}: ∀{l:List Rat},aoJ x l=afU abd x l
 |[]=>rfl
 |u::t=>by
  have e1:abd u x<0↔u<x:=afg u x
  have e2:abd u x=0↔u=x:=aeS u x
  rw[aoJ,afU,amu (l:=t)]
  by_cases h:u<x
  ·rw[if_pos h,if_pos (e1.2 h)]
  ·rw[if_neg h,if_neg (fun e=>h (e1.1 e))]
   by_cases h2:u=x
   ·rw[if_pos h2,if_pos (e2.2 h2)]
   ·rw[if_neg h2,if_neg (fun e=>h2 (e2.1 e))]
theorem abq{α β:Type}{f:α→β}{l:List α}{k:Nat}{x:α}(h:l[k]? =some x):(l.take k).map f++[f x]=(l.take (k+1)).map f:=by
 rw[iX,h,bU];rfl
theorem aGf{n i:Nat}[h:BN n i](hi:i≤20000000:=by decide):PF GB prog 52 [dN n] (dN n):=by
 have hl:=aa2 h.h
 have:=aHu (GB:=GB) (ds:=dg n) (ae6 n) (by omega)
 rw[aaO,←az2] at this;exact this
theorem axa(z:Int):ahI (decide (z<0)) (dg z.natAbs)=z:=by
 unfold ahI
 rw[aaO]
 split<;>(rename_i h;simp at h;omega)
theorem aF0{z:Int}{i:Nat}[h:BI z i](hi:i≤20000000:=by decide):PF GB prog 53 [eI z] (eI z):=by
 have hl:=aa2 h.h
 have:=aHZ (GB:=GB) (neg:=decide (z<0)) (ds:=dg z.natAbs) (ae6 _) (by omega)
 rw[axa,←az2] at this;exact this
theorem aGo{n:Nat}(h:0<n): ¬((((dg n).map dU).length:Nat):Int)=0:=by
 rw[aK]
 have:=act (n:=n)
 omega
instance BQ.m1':BQ (((-1:Int):Int):Rat) 2:=⟨by decide,by decide⟩
instance BQ.m1:BQ (-1:Rat) 2:=⟨by decide,by decide⟩
theorem aFn{q:Rat}{i:Nat}[h:BQ q i](hi:i≤20000000:=by decide):PF GB prog 14 [eR q] (eQ q):=by
 have hd:=q.den_pos
 refine fn func14 J J ntmps14 J J (fun C=>?_)
 refine cl (fu:=⟨8⟩) rfl (aGf (n:=q.den) hi) rfl<|knF rfl (by show some (decide _)=some false;rw[decide_eq_false (aGo hd)]) rfl<|cl rfl (aF0 (z:=q.num) hi) rfl<|?_
 refine cl rfl (ajQ (x:=q.num) (d:=q.den) hd (by omega) (by omega)) rfl<|?_
 exact rz rfl (by rw[Rat.mkRat_self];rfl)
theorem aqo{q:Rat}{i:Nat}[h:BQ q i](hi:i≤400000000:=by decide):PF GB prog 61 [eQ q] (eR q):=by
 refine fn func61 J J ntmps61 J J (fun C=>?_)
 refine cl rfl (ayn (z:=q.num) hi) rfl<|cl rfl (ae4 (q:=q)) rfl<|cl rfl (aE9 (a:=q.den) hi) rfl<|?_
 exact rz J J
theorem aID{p:PtQ}{i:Nat}[h:BPt p i](hi:i≤20000000:=by decide):PF GB prog 23 [ePt p] (eP p):=by
 refine fn func23 J J ntmps23 J J (fun C=>?_)
 refine cl rfl (aFn (q:=p.x) hi) rfl<|cl rfl (aFn (q:=p.y) hi) rfl<|?_
 exact rz J J
theorem aF3{p:PtQ}{i:Nat}[h:BPt p i](hi:i≤20000:=by decide):PF GB prog 30 [eP p] (ePt p):=by
 refine fn func30 J J ntmps30 J J (fun C=>?_)
 refine cl rfl (aqo (q:=p.x) (i:=i) (by omega)) rfl<|cl rfl (aqo (q:=p.y) (i:=i) (by omega)) rfl<|?_
 exact rz J J
theorem aaG{α:Type}(f:α→DV)(l:List α):(l.map f).length=l.length:=aK ..
theorem aiZ(ps:List PtQ):adh 6 (ps.map eP):=fun d hd=>by
 obtain⟨u,_,rfl⟩:=bJ.1 hd;exact⟨rfl,rfl⟩
theorem aD6(ps:List PtQ):adh 6 (ps.map ePt):=fun d hd=>by
 obtain⟨u,_,rfl⟩:=bJ.1 hd;exact⟨rfl,rfl⟩
theorem aGU{ps:List PtQ}(hb: ∀p∈ps,BPt p 1200)(hn:ps.length≤1000000):PF GB prog 119 [.sl (ps.map ePt)] (.sl (ps.map eP)):=by
 have hm:=aaG ePt ps
 refine fn (fu:=⟨15⟩) func119 J J ntmps119 J J (fun C=>?_)
 refine eqF 7 (.d (vI (ps.length:Nat))) rfl (by rw[hm]<;>rfl) ?_
 refine gx rfl<|?_
 refine nr 3 3 62 6 J J J ?_
 refine lp (X:=Nat) (fun k=>[(8, .d (vI (k:Nat))),(3, .rw 3)]) (fun k=>[(3,some (.b 62 6 ((ps.take k).map eP) true))]) (fun k=>k≤ps.length) (fun k=>ps.length-k) 0 rfl (bX _) (fun _=>rfl) (fun k hk=>?_)
 have hml:=aaG eP (ps.take k)
 rw[cR] at hml
 refine br J J J (fun hc9=>?_) (fun hc9=>?_)
 ·
  obtain⟨z,hz⟩: ∃s,ps[k]? =some s:=⟨_,aQ (by omega)⟩
  have hzm:=aU hz
  refine ix _ rfl (aav hz) rfl<|cl rfl (aID (p:=z) (h:=hb z hzm)) rfl<|rf J J<|ap ((ps.take (k+1)).map eP) rfl (abq hz) (aiZ [z]) rfl<|?_
  refine rnE 16 3 rfl ?_
  exact at_ (k+1) ⟨(by omega),(by omega)⟩
 ·
  obtain rfl:k=ps.length:=by omega
  refine fzE 3 rfl ?_
  exact rz rfl (by rw[cM];rfl)
theorem ayE{ps:List PtQ}(hb: ∀p∈ps,BPt p 1200)(hn:ps.length≤1000000):PF GB prog 56 [.sl (ps.map eP)] (.sl (ps.map ePt)):=by
 have hm:=aaG eP ps
 refine fn (fu:=⟨15⟩) func56 J J ntmps56 J J (fun C=>?_)
 refine eqF 7 (.d (vI (ps.length:Nat))) rfl (by rw[hm]<;>rfl) ?_
 refine gx rfl<|?_
 refine nr 3 3 65 6 J J J ?_
 refine lp (X:=Nat) (fun k=>[(8, .d (vI (k:Nat))),(3, .rw 3)]) (fun k=>[(3,some (.b 65 6 ((ps.take k).map ePt) true))]) (fun k=>k≤ps.length) (fun k=>ps.length-k) 0 rfl (bX _) (fun _=>rfl) (fun k hk=>?_)
 have hml:=aaG ePt (ps.take k)
 rw[cR] at hml
 refine br J J J (fun hc9=>?_) (fun hc9=>?_)
 ·
  obtain⟨z,hz⟩: ∃s,ps[k]? =some s:=⟨_,aQ (by omega)⟩
  have hzm:=aU hz
  refine ix _ rfl (aav hz) rfl<|cl rfl (aF3 (p:=z) (h:=hb z hzm)) rfl<|rf J J<|ap ((ps.take (k+1)).map ePt) rfl (abq hz) (aD6 [z]) rfl<|?_
  refine rnE 16 3 rfl ?_
  exact at_ (k+1) ⟨(by omega),(by omega)⟩
 ·
  obtain rfl:k=ps.length:=by omega
  refine fzE 3 rfl ?_
  exact rz rfl (by rw[cM];rfl)
theorem ayT{p q:PtQ}{i j:Nat}[hp:BPt p i][hq:BPt q j](hi:i≤100000:=by decide)(hj:j≤100000:=by decide):PF GB prog 275 [eP p,eP q] (eP (adk p q (-1))):=by
 refine fn func275 J J ntmps275 J J (fun C=>?_)
 refine cl rfl (anH (n:= -1) (by decide) (by decide)) rfl<|cl rfl (anW (p:=p) (q:=q) (c:=((-1:Int):Rat)) (i:=i) (j:=j) (k:=2) (by omega) (by omega)) rfl<|?_
 exact rz rfl (by rw[show((-1:Int):Rat)= -1 from rfl];rfl)
theorem aqG{a b c:PtQ}{i j k:Nat}[ha:BPt a i][hb:BPt b j][hc:BPt c k](hi:i≤80000:=by decide)(hj:j≤80000:=by decide)(hk:k≤80000:=by decide):PF GB prog 278 [eP a,eP b,eP c] (vI (ahr a b c)):=by
 refine fn func278 J J ntmps278 J J (fun C=>?_)
 refine cl rfl (ayT (p:=b) (q:=a) (i:=j) (j:=i) (by omega) (by omega)) rfl<|cl rfl (ayT (p:=c) (q:=a) (i:=k) (j:=i) (by omega) (by omega)) rfl<|?_
 refine cl rfl (alw (p:=adk b a (-1)) (q:=adk c a (-1)) (by omega) (by omega)) rfl<|cl rfl (q_S (q:=(adk b a (-1)).cross (adk c a (-1)))) rfl<|?_
 exact rz J J
def agZ(p q:PtQ):Int:=if abd p.x q.x≠0 then abd p.x q.x else abd p.y q.y
theorem akA{p q:PtQ}{i j:Nat}[hp:BPt p i][hq:BPt q j](hi:i≤100000:=by decide)(hj:j≤100000:=by decide):PF GB prog 211 [eP p,eP q] (vI (agZ p q)):=by
 refine fn func211 J J ntmps211 J J (fun C=>?_)
 refine cl rfl (q_C (a:=p.x) (b:=q.x) (by omega) (by omega)) rfl<|?_
 refine br J J J (fun hc12=>?_) (fun hc12=>?_)
 ·
  exact rz rfl (by unfold agZ;rw[if_pos hc12];rfl)
 ·
  refine cl rfl (q_C (a:=p.y) (b:=q.y) (by omega) (by omega)) rfl<|?_
  exact rz rfl (by unfold agZ;rw[if_neg hc12];rfl)
def aAl(l:LnQ):Bool:=decide (l.a<0∨(l.a=0∧l.b<0))
def LnQ.canon(l:LnQ):LnQ:=if aAl l then l.rev else l
theorem agA(a:Int):a.sign<0↔a<0:=by
 rcases qM a 0 with h|h|h
 ·rw[fL h];omega
 ·subst h;simp
 ·rw[gR h];omega
theorem am1(a:Int):a.sign=0↔a=0:=iV
theorem ayZ{l:LnQ}(h:l.a<0∨(l.a=0∧l.b<0)):DV.tp [eL l.canon,vB (aAl l)]= .tp [eL l.rev,vB true]:=by
 unfold LnQ.canon aAl;rw[decide_eq_true h];rfl
theorem auA{l:LnQ}(h: ¬(l.a<0∨(l.a=0∧l.b<0))):DV.tp [eL l.canon,vB (aAl l)]= .tp [eL l,vB false]:=by
 unfold LnQ.canon aAl;rw[decide_eq_false h];rfl
theorem aw8{l:LnQ}[hl:LB l]:PF GB prog 178 [eL l] (.tp [eL l.canon,vB (aAl l)]):=by
 refine fn func178 J J ntmps178 J J (fun C=>?_)
 refine cl rfl (aq9 (z:=l.a)) rfl<|?_
 refine cs 10 J J J (fun hg10=>?_) (fun hg10=>?_)
 ·
  refine cl rfl (akL (l:=l)) rfl<|?_
  exact rz rfl (by rw[ayZ (.inl ((agA _).1 hg10))];rfl)
 ·
  refine cs 13 J J J (fun hg13=>?_) (fun hg13=>?_)
  ·
   refine cl rfl (aq9 (z:=l.b)) rfl<|?_
   refine br J J J (fun hc19=>?_) (fun hc19=>?_)
   ·
    refine cl rfl (akL (l:=l)) rfl<|?_
    exact rz rfl (by rw[ayZ (.inr ⟨(am1 _).1 hg13,(agA _).1 hc19⟩)];rfl)
   ·
    exact rz rfl (by rw[auA (fun e=>e.elim (fun e=>hg10 ((agA _).2 e)) (fun e=>hc19 ((agA _).2 e.2)))];rfl)
  ·
   exact rz rfl (by rw[auA (fun e=>e.elim (fun e=>hg10 ((agA _).2 e)) (fun e=>hg13 ((am1 _).2 e.1)))];rfl)
instance LB.canon (l:LnQ) [h:LB l]:LB l.canon:=by unfold LnQ.canon;split;exact LB.rev h;exact h
def akg{α β:Type}(c:β→β→Int)(g:α→β)(l:List α)(k:Nat):List β:=ale c ((l.take k).map g)
section
variable {α β:Type} {c:β→β→Int} {g:α→β} {l:List α} {k:Nat}
theorem ady{x:α}(h:l[k]? =some x):akg c g l (k+1)=afU c (g x) (akg c g l k):=by
 unfold akg ale
 rw[iX,h,Option.toList_some,bU,rX];rfl
theorem amH(h:k=l.length):akg c g l k=ale c (l.map g):=by unfold akg;rw[h,cM]
theorem amq:(akg c g l k).length≤k:=by
 have:=am0 c ((l.take k).map g) []
 have h2:((l.take k).map g).length≤k:=by rw[aK,cR];omega
 rw[gX] at this
 unfold akg ale
 omega
theorem amD{y:β}(h:y∈akg c g l k): ∃x∈l,y=g x:=by
 rcases anV c h with h|h
 ·obtain⟨x,hx,rfl⟩:=bJ.1 h
  exact⟨x,fZ hx,rfl⟩
 ·cases h
end
theorem slT{α:Type}{f:α→DV}{s:Nat}(ok: ∀l:List α,adh s (l.map f))(xs:List α)(n:Nat):adh s ((xs.map f).take n):=fun d hd=>ok xs d (fZ hd)
theorem slD{α:Type}{f:α→DV}{s:Nat}(ok: ∀l:List α,adh s (l.map f))(xs:List α)(n m:Nat):adh s (((xs.map f).take n).drop m):=fun d hd=>ok xs d (fZ (gJ hd))
theorem slI{α:Type}{f:α→DV}{s:Nat}(ok: ∀l:List α,adh s (l.map f))(xs:List α)(n m:Nat)(x:α):adh s ([f x]++((xs.map f).take n).drop m):=fun d hd=>by
 rcases bY.1 hd with h|h
 ·exact ok [x] d h
 ·exact slD ok xs n m d h
theorem ac7{α:Type}{f:α→DV}{l:List α}{i:Nat}(h:i<l.length):(l.map f)[(i:Int).toNat]? =some (f l[i]):=by
 rw[bZ,cJ,aQ h];rfl
theorem awv{ps:List PtQ}(hb: ∀p∈ps,BPt p 1200)(hn:ps.length≤100000):PF GB prog 156 [.sl (ps.map eP)] (.sl ((ale agZ ps).map eP)):=by
 have hm':=aaG eP ps
 refine fn (fu:=⟨15⟩) func156 J J ntmps156 J J (fun C=>?_)
 refine eqF 8 (.d (vI (ps.length:Nat))) rfl (by rw[hm'];rfl) ?_
 refine gx rfl<|?_
 refine nlC 3 rfl ?_
 refine lp (X:=List PtQ×Nat) (fun⟨xs,k⟩=>[(9, .d (vI (k:Nat))),(8, .d (vI (ps.length:Nat))),(7, .d (.sl (ps.map eP))),(0, .d (.sl (ps.map eP))),(3, .d (.sl (xs.map eP)))]) (fun⟨xs,k⟩=>[]) (fun⟨xs,k⟩=>xs=akg agZ id ps k∧k≤ps.length) (fun⟨xs,k⟩=>ps.length-k) ⟨[],0⟩ rfl ⟨rfl,bX _⟩ (fun _=>rfl) (fun⟨xs,k⟩ hk=>?_)
 try dsimp only at hk⊢
 obtain⟨hS,hkl⟩:=hk
 refine br J J J (fun hc10=>?_) (fun hc10=>?_)
 ·
  have hk:k<ps.length:=by omega
  obtain⟨m,hm⟩: ∃m,m=ps[k]:=⟨_,rfl⟩
  have hz:ps[k]? =some m:=by rw[hm];exact aQ hk
  haveI hmb:BPt m 1200:=hm▸hb _ (bN hk)
  have hxl:=aaG eP xs
  have hxn:xs.length≤k:=by rw[hS];exact amq
  have hxb: ∀q∈xs,BPt q 1200:=fun q hq=>by rw[hS] at hq;obtain⟨z,hz,he⟩:=amD hq;rw[he];exact hb z hz
  refine ix (fu:=⟨1⟩) _ rfl (ac7 hk) rfl<|?_
  refine eqF 12 (.d (eP m)) rfl (by rw[hm];rfl) ?_
  refine gx (fu:=⟨10⟩) rfl<|?_
  refine mg (fu:=⟨5⟩) (X:=Unit) (fun _=>[(9, .d (vI (k:Nat))),(8, .d (vI (ps.length:Nat))),(7, .d (.sl (ps.map eP))),(0, .d (.sl (ps.map eP))),(3, .d (.sl (xs.map eP))),(5, .ov 5 0),(6, .d (vI (ami agZ m xs:Nat)))]) (fun _=>[(5,some (.o 62 [.d ((.v (.bool (decide (m.x.num<0))))), .d (dN m.x.num.natAbs), .d (dD m.x.den), .d ((.v (.bool (decide (m.y.num<0))))), .d (dN m.y.num.natAbs), .d (dD m.y.den)] true))]) (fun _=>True) [9,8,7,0,3,5,6] [5] rfl ?_ (fun _=>rfl) (fun _ _=>?_)
  ·
   refine gx rfl<|?_
   refine lp (fu:=⟨6⟩) (X:=Nat) (fun n=>[(9, .d (vI (k:Nat))),(8, .d (vI (ps.length:Nat))),(7, .d (.sl (ps.map eP))),(0, .d (.sl (ps.map eP))),(3, .d (.sl (xs.map eP))),(5, .ov 5 0),(6, .d (vI (n:Nat)))]) (fun n=>[(5,some (.o 62 [.d ((.v (.bool (decide (m.x.num<0))))), .d (dN m.x.num.natAbs), .d (dD m.x.den), .d ((.v (.bool (decide (m.y.num<0))))), .d (dN m.y.num.natAbs), .d (dD m.y.den)] true))]) (fun n=>n≤xs.length∧ ∀j (h:j<xs.length),j<n→agZ xs[j] m<0) (fun n=>xs.length-n) 0 rfl ⟨bX _,fun j _ hj=>absurd hj (by omega)⟩ (fun _=>rfl) (fun n hk=>?_)
   obtain⟨n1,n2⟩:=hk
   refine csS (v2:=fun hg16=>by simp only[aah];kernel_rfl) J J J J (fun hg16=>?_) (fun hg16=>?_)
   ·
    refine ix _ rfl (ac7 (by omega)) rfl<|cl rfl (akA (p:=xs[n]'(by omega)) (q:=m) (hp:=hxb _ (bN (by omega))) (hq:=hmb)) rfl<|?_
    refine br J J J (fun hc25=>?_) (fun hc25=>?_)
    ·
     exact at_ (n+1) ⟨⟨by omega,fun j h hj=>by by_cases q:j=n;(subst q;exact hc25);exact n2 j h (by omega)⟩,(by omega)⟩
    ·
     have hidx:ami agZ m xs=n:=afa agZ n1 n2 (fun h=>hc25)
     exact at_ () trivial
   ·
    have hidx:ami agZ m xs=n:=afa agZ n1 n2 (fun h=>absurd h (by omega))
    exact at_ () trivial
  ·
   obtain⟨n,hnx⟩: ∃n,ami agZ m xs=n:=⟨_,rfl⟩
   rw[hnx]
   have hnl:n≤xs.length:=by rw[←hnx];exact ama _ _ _
   refine csS (v1:=fun hg31=>by simp only[aah];kernel_rfl) J J J J (fun hg31=>?_) (fun hg31=>?_)
   ·
    have hnew: ∀h:n<xs.length,agZ xs[n] m≠0:=fun h=>absurd h (by omega)
    obtain⟨ys,hys⟩: ∃ys,ys=xs.take n++m::xs.drop n:=⟨_,rfl⟩
    have hin:afU agZ m xs=ys:=by rw[hys];exact ads agZ hnx hnew
    have hyl:ys.length≤xs.length+1:=by rw[hys];simp;omega
    refine s3 n _ J J J J (aiZ _) (by rw[hxl];exact hnl) rfl<|ro J J<|sc' n xs.length _ J J (by rw[hxl]) rfl (aiZ _) hnl (by omega) rfl<|?_
    refine ap _ J J (slD aiZ _ _ _) rfl<|apf (hv:=by simp only[aah];exact⟨by kernel_rfl,by omega⟩) (ho:=fun _=>⟨slT aiZ _ _,by simp⟩) (ys.map eP) rfl (by rw[hys,bU,cZ,gW,iL,aW (l:=xs.map eP) (i:=xs.length) (by simp)];rfl) (slI aiZ _ _ _ _) rfl<|?_
    exact at_ ⟨ys,k+1⟩ (by dsimp only;exact⟨⟨by rw[ady hz,←hS];exact hin.symm,by omega⟩,(by omega)⟩)
   ·
    refine ix _ rfl (ac7 (by omega)) rfl<|cl rfl (akA (p:=xs[n]'(by omega)) (q:=m) (hp:=hxb _ (bN (by omega))) (hq:=hmb)) rfl<|?_
    refine br J J J (fun hc40=>?_) (fun hc40=>?_)
    ·
     have hnew: ∀h:n<xs.length,agZ xs[n] m≠0:=fun h=>hc40
     obtain⟨ys,hys⟩: ∃ys,ys=xs.take n++m::xs.drop n:=⟨_,rfl⟩
     have hin:afU agZ m xs=ys:=by rw[hys];exact ads agZ hnx hnew
     have hyl:ys.length≤xs.length+1:=by rw[hys];simp;omega
     refine s3 n _ J J J J (aiZ _) (by rw[hxl];exact hnl) rfl<|ro J J<|sc' n xs.length _ J J (by rw[hxl]) rfl (aiZ _) hnl (by omega) rfl<|?_
     refine ap _ J J (slD aiZ _ _ _) rfl<|apf (hv:=by simp only[aah];exact⟨by kernel_rfl,by omega⟩) (ho:=fun _=>⟨slT aiZ _ _,by simp⟩) (ys.map eP) rfl (by rw[hys,bU,cZ,gW,iL,aW (l:=xs.map eP) (i:=xs.length) (by simp)];rfl) (slI aiZ _ _ _ _) rfl<|?_
     exact at_ ⟨ys,k+1⟩ (by dsimp only;exact⟨⟨by rw[ady hz,←hS];exact hin.symm,by omega⟩,(by omega)⟩)
    ·
     have hin:afU agZ m xs=xs:=agV agZ hnx (by omega) (Decidable.not_not.1 hc40)
     exact at_ ⟨xs,k+1⟩ (by dsimp only;exact⟨⟨by rw[ady hz,←hS];exact hin.symm,by omega⟩,(by omega)⟩)
 ·
  have hfin:ale agZ ps=xs:=by rw[hS,amH (by omega),List.map_id]
  exact rz rfl (by rw[hfin];rfl)
def ao5(ls:List LnQ):List LnQ:=ale ajH (ls.map LnQ.canon)
theorem arR{ls:List LnQ}(hb: ∀p∈ls,LB p)(hn:ls.length≤100000):PF GB prog 120 [.sl (ls.map eL)] (.sl ((ao5 ls).map eL)):=by
 have hm':=aaG eL ls
 refine fn (fu:=⟨15⟩) func120 J J ntmps120 J J (fun C=>?_)
 refine eqF 8 (.d (vI (ls.length:Nat))) rfl (by rw[hm'];rfl) ?_
 refine gx rfl<|?_
 refine nlC 3 rfl ?_
 refine lp (X:=List LnQ×Nat) (fun⟨xs,k⟩=>[(9, .d (vI (k:Nat))),(8, .d (vI (ls.length:Nat))),(7, .d (.sl (ls.map eL))),(0, .d (.sl (ls.map eL))),(3, .d (.sl (xs.map eL)))]) (fun⟨xs,k⟩=>[]) (fun⟨xs,k⟩=>xs=akg ajH LnQ.canon ls k∧k≤ls.length) (fun⟨xs,k⟩=>ls.length-k) ⟨[],0⟩ rfl ⟨rfl,bX _⟩ (fun _=>rfl) (fun⟨xs,k⟩ hk=>?_)
 try dsimp only at hk⊢
 obtain⟨hS,hkl⟩:=hk
 refine br J J J (fun hc10=>?_) (fun hc10=>?_)
 ·
  have hk:k<ls.length:=by omega
  obtain⟨z,hm⟩: ∃m,m=ls[k]:=⟨_,rfl⟩
  have hz:ls[k]? =some z:=by rw[hm];exact aQ hk
  haveI hzb:LB z:=hm▸hb _ (bN hk)
  obtain⟨m,hmc⟩: ∃m,m=z.canon:=⟨_,rfl⟩
  haveI hmb:LB m:=by rw[hmc];infer_instance
  have hxl:=aaG eL xs
  have hxn:xs.length≤k:=by rw[hS];exact amq
  have hxb: ∀q∈xs,LB q:=fun q hq=>by rw[hS] at hq;obtain⟨z,hz,rfl⟩:=amD hq;haveI:=hb z hz;infer_instance
  refine ix (fu:=⟨1⟩) _ rfl (ac7 hk) rfl<|?_
  refine eqF 12 (.d (eL z)) rfl (by rw[hm];rfl) ?_
  refine gx rfl<|cl (fu:=⟨2⟩) rfl (aw8 (l:=z)) rfl<|?_
  refine eqF 16 (.d (eL m)) rfl (by rw[hmc]) ?_
  refine gx (fu:=⟨10⟩) rfl<|?_
  refine mg (fu:=⟨5⟩) (X:=Unit) (fun _=>[(9, .d (vI (k:Nat))),(8, .d (vI (ls.length:Nat))),(7, .d (.sl (ls.map eL))),(0, .d (.sl (ls.map eL))),(3, .d (.sl (xs.map eL))),(5, .ov 5 0),(6, .d (vI (ami ajH m xs:Nat)))]) (fun _=>[(5,some (.o 175 [.d ((.v (.bool (decide (m.a<0))))), .d (dN m.a.natAbs), .d ((.v (.bool (decide (m.b<0))))), .d (dN m.b.natAbs), .d ((.v (.bool (decide (m.c<0))))), .d (dN m.c.natAbs)] true))]) (fun _=>True) [9,8,7,0,3,5,6] [5] rfl ?_ (fun _=>rfl) (fun _ _=>?_)
  ·
   refine gx rfl<|?_
   refine lp (fu:=⟨6⟩) (X:=Nat) (fun n=>[(9, .d (vI (k:Nat))),(8, .d (vI (ls.length:Nat))),(7, .d (.sl (ls.map eL))),(0, .d (.sl (ls.map eL))),(3, .d (.sl (xs.map eL))),(5, .ov 5 0),(6, .d (vI (n:Nat)))]) (fun n=>[(5,some (.o 175 [.d ((.v (.bool (decide (m.a<0))))), .d (dN m.a.natAbs), .d ((.v (.bool (decide (m.b<0))))), .d (dN m.b.natAbs), .d ((.v (.bool (decide (m.c<0))))), .d (dN m.c.natAbs)] true))]) (fun n=>n≤xs.length∧ ∀j (h:j<xs.length),j<n→ajH xs[j] m<0) (fun n=>xs.length-n) 0 rfl ⟨bX _,fun j _ hj=>absurd hj (by omega)⟩ (fun _=>rfl) (fun n hk=>?_)
   obtain⟨n1,n2⟩:=hk
   refine csS (v2:=fun hg21=>by simp only[aah];kernel_rfl) J J J J (fun hg21=>?_) (fun hg21=>?_)
   ·
    refine ix _ rfl (ac7 (by omega)) rfl<|cl rfl (apt (l:=xs[n]'(by omega)) (m:=m) (hl:=hxb _ (bN (by omega))) (hm:=hmb)) rfl<|?_
    refine br J J J (fun hc30=>?_) (fun hc30=>?_)
    ·
     exact at_ (n+1) ⟨⟨by omega,fun j h hj=>by by_cases q:j=n;(subst q;exact hc30);exact n2 j h (by omega)⟩,(by omega)⟩
    ·
     have hidx:ami ajH m xs=n:=afa ajH n1 n2 (fun h=>hc30)
     exact at_ () trivial
   ·
    have hidx:ami ajH m xs=n:=afa ajH n1 n2 (fun h=>absurd h (by omega))
    exact at_ () trivial
  ·
   obtain⟨n,hnx⟩: ∃n,ami ajH m xs=n:=⟨_,rfl⟩
   rw[hnx]
   have hnl:n≤xs.length:=by rw[←hnx];exact ama _ _ _
   refine csS (v1:=fun hg36=>by simp only[aah];kernel_rfl) J J J J (fun hg36=>?_) (fun hg36=>?_)
   ·
    have hnew: ∀h:n<xs.length,ajH xs[n] m≠0:=fun h=>absurd h (by omega)
    obtain⟨ys,hys⟩: ∃ys,ys=xs.take n++m::xs.drop n:=⟨_,rfl⟩
    have hin:afU ajH m xs=ys:=by rw[hys];exact ads ajH hnx hnew
    have hyl:ys.length≤xs.length+1:=by rw[hys];simp;omega
    refine s3 n _ J J J J (acR _) (by rw[hxl];exact hnl) rfl<|ro J J<|sc' n xs.length _ J J (by rw[hxl]) rfl (acR _) hnl (by omega) rfl<|?_
    refine ap _ J J (slD acR _ _ _) rfl<|apf (hv:=by simp only[aah];exact⟨by kernel_rfl,by omega⟩) (ho:=fun _=>⟨slT acR _ _,by simp⟩) (ys.map eL) rfl (by rw[hys,bU,cZ,gW,iL,aW (l:=xs.map eL) (i:=xs.length) (by simp)];rfl) (slI acR _ _ _ _) rfl<|?_
    exact at_ ⟨ys,k+1⟩ (by dsimp only;exact⟨⟨by rw[ady hz,←hS,←hmc];exact hin.symm,by omega⟩,(by omega)⟩)
   ·
    refine ix _ rfl (ac7 (by omega)) rfl<|cl rfl (apt (l:=xs[n]'(by omega)) (m:=m) (hl:=hxb _ (bN (by omega))) (hm:=hmb)) rfl<|?_
    refine br J J J (fun hc45=>?_) (fun hc45=>?_)
    ·
     have hnew: ∀h:n<xs.length,ajH xs[n] m≠0:=fun h=>hc45
     obtain⟨ys,hys⟩: ∃ys,ys=xs.take n++m::xs.drop n:=⟨_,rfl⟩
     have hin:afU ajH m xs=ys:=by rw[hys];exact ads ajH hnx hnew
     have hyl:ys.length≤xs.length+1:=by rw[hys];simp;omega
     refine s3 n _ J J J J (acR _) (by rw[hxl];exact hnl) rfl<|ro J J<|sc' n xs.length _ J J (by rw[hxl]) rfl (acR _) hnl (by omega) rfl<|?_
     refine ap _ J J (slD acR _ _ _) rfl<|apf (hv:=by simp only[aah];exact⟨by kernel_rfl,by omega⟩) (ho:=fun _=>⟨slT acR _ _,by simp⟩) (ys.map eL) rfl (by rw[hys,bU,cZ,gW,iL,aW (l:=xs.map eL) (i:=xs.length) (by simp)];rfl) (slI acR _ _ _ _) rfl<|?_
     exact at_ ⟨ys,k+1⟩ (by dsimp only;exact⟨⟨by rw[ady hz,←hS,←hmc];exact hin.symm,by omega⟩,(by omega)⟩)
    ·
     have hin:afU ajH m xs=xs:=agV ajH hnx (by omega) (Decidable.not_not.1 hc45)
     exact at_ ⟨xs,k+1⟩ (by dsimp only;exact⟨⟨by rw[ady hz,←hS,←hmc];exact hin.symm,by omega⟩,(by omega)⟩)
 ·
  have hfin:ao5 ls=xs:=by rw[hS,amH (by omega)];rfl
  exact rz rfl (by rw[hfin];rfl)
def fcs(a b:Tr):List PtQ:=ayu (ao5 (a.lns++b.lns))
def eqR(a b:Tr):Bool:=(fcs a b).all fun p=>atQ a p==atQ b p
def aJd(f:Bool→Bool→Bool)(a b:Tr):Bool:=(fcs a b).any fun p=>f (atQ a p) (atQ b p)
def aId(v:Bool)(t:Tr):Bool:=decide ((t.restrict []).isLeaf=true∧(t.restrict []).code=v)
end Go.Sx
end
