import Derived.Test.YtfccecinjmbfhaaGreatDoorMd14
set_option linter.unusedSimpArgs false
set_option maxHeartbeats 4000000
set_option maxRecDepth 100000
set_option linter.unusedVariables false
section
namespace Go.Sx
open Go Go.Proofs Tryz
variable {GB:Gh}
theorem aEh{p q r:Bool}{a b c:Nat}(h:Nat.gcd a b≠0):LnQ.ok ⟨zv p (a/Nat.gcd (Nat.gcd a b) c),zv q (b/Nat.gcd (Nat.gcd a b) c),zv r (c/Nat.gcd (Nat.gcd a b) c)⟩:=by
 have hg:0<Nat.gcd (Nat.gcd a b) c:=oX _ (iR h)
 have d0:Nat.gcd (Nat.gcd a b) c∣Nat.gcd a b:=mV _ _
 have d1:Nat.gcd (Nat.gcd a b) c∣a:=rM d0 (mV _ _)
 have d2:Nat.gcd (Nat.gcd a b) c∣b:=rM d0 (nJ _ _)
 have d3:Nat.gcd (Nat.gcd a b) c∣c:=nJ _ _
 refine⟨?_,?_⟩
 ·rintro ⟨h1,h2⟩
  have h1':=congrArg Int.natAbs h1
  have h2':=congrArg Int.natAbs h2
  simp only[af1,kU] at h1' h2'
  have e1:=Nat.div_mul_cancel d1
  have e2:=Nat.div_mul_cancel d2
  rw[h1',lY] at e1
  rw[h2',lY] at e2
  exact h (by rw[←e1,←e2];rfl)
 ·simp only[af1]
  rw[Nat.gcd_div d1 d2,Nat.gcd_div d0 d3,Nat.div_self hg]
theorem at9(p:Bool)(a g:Nat):(zv p (a/g)).natAbs≤a:=by rw[af1];exact kW ..
theorem PF.eq{P:Program}{f:FuncId}{vs:List DV}{r r':DV}(h:PF GB P f vs r)(e:r=r'):PF GB P f vs r':=e▸h
def iP(m n:Int):PtQ:=⟨(m:Rat),(n:Rat)⟩
theorem aFm{m:Int}{k:Nat}(h:m.natAbs<2^k):BI m k:=⟨h⟩
theorem biC{m:Int}{k:Nat}(h:m.natAbs≤1000)(hk:10≤k):BI m k:=⟨dV (show m.natAbs<2^10 by omega) (bX (by decide) hk)⟩
instance BPt.int (m n:Int) (i:Nat) [h:BI m i] [k:BI n i]:BPt (iP m n) (i+1):=⟨inferInstanceAs (BQ (m:Rat) (i+1)),inferInstanceAs (BQ (n:Rat) (i+1))⟩
theorem eQI{q:Rat}{k:Int}(h:q=(k:Rat)):eQ q=eQ (k:Rat):=by rw[h]
theorem ePI{p:PtQ}{m n:Int}(h1:p.x=(m:Rat))(h2:p.y=(n:Rat)):eP p=eP (iP m n):=by
 obtain⟨x,y⟩:=p
 simp only at h1 h2
 subst h1 h2
 rfl
def mkL(a b c:Int):LnQ:=
 ⟨zv (decide (a<0)) (a.natAbs/Nat.gcd (Nat.gcd a.natAbs b.natAbs) c.natAbs),zv (decide (b<0)) (b.natAbs/Nat.gcd (Nat.gcd a.natAbs b.natAbs) c.natAbs),zv (decide (c<0)) (c.natAbs/Nat.gcd (Nat.gcd a.natAbs b.natAbs) c.natAbs)⟩
theorem azo{a b c:Int}(h: ¬(a=0∧b=0)):(mkL a b c).ok:=
 aEh fun e=>h ⟨mS.1 (nU e),mS.1 (nV e)⟩
theorem azm(a b c:Int):(mkL a b c).a.natAbs≤a.natAbs∧(mkL a b c).b.natAbs≤b.natAbs∧(mkL a b c).c.natAbs≤c.natAbs:=⟨at9 ..,at9 ..,at9 ..⟩
theorem aot{m n:Int}(hm:m.natAbs≤1000)(hn:n.natAbs≤1000):PF GB prog 64 [.v (.int .i64 m), .v (.int .i64 n)] (eP (iP m n)):=by
 refine fn func64 J J ntmps64 J J (fun C=>?_)
 refine cl rfl (amw (n:=m) (by omega) (by omega)) rfl<|cl rfl (amw (n:=n) (by omega) (by omega)) rfl<|?_
 exact rz J J
theorem aqq{m n m' n' k:Int}(hm:m.natAbs≤1000)(hn:n.natAbs≤1000)(hm':m'.natAbs≤1000)(hn':n'.natAbs≤1000)(hk:k.natAbs≤1000):PF GB prog 21 [eP (iP m n),eQ (k:Rat),eP (iP m' n')] (eP (iP (m+k*m') (n+k*n'))):=by
 haveI:=biC (k:=10) hm (by decide)
 haveI:=biC (k:=10) hn (by decide)
 haveI:=biC (k:=10) hm' (by decide)
 haveI:=biC (k:=10) hn' (by decide)
 haveI:=biC (k:=10) hk (by decide)
 exact PF.eq (anX (p:=iP m n) (q:=iP m' n') (c:=(k:Rat))) (ePI (by show(m:Rat)+(k:Rat)*(m':Rat)=_;push_cast;rfl) (by show(n:Rat)+(k:Rat)*(n':Rat)=_;push_cast;rfl))
theorem aEn{m n m' n':Int}(hm:m.natAbs≤1000)(hn:n.natAbs≤1000)(hm':m'.natAbs≤1000)(hn':n'.natAbs≤1000):PF GB prog 185 [eP (iP m n),eP (iP m' n')] (eP (iP (m-m') (n-n'))):=by
 refine fn func185 J J ntmps185 J J (fun C=>?_)
 refine cl rfl (amw (n:= -1) (by decide) (by decide)) rfl<|cl rfl (aqq (m:=m) (n:=n) (m':=m') (n':=n') (k:= -1) hm hn hm' hn' (by decide)) rfl<|?_
 exact rz rfl (by rw[show m-m'=m+ -1*m' by omega,show n-n'=n+ -1*n' by omega];rfl)
theorem amj{m n m' n':Int}(hm:m.natAbs≤1000)(hn:n.natAbs≤1000)(hm':m'.natAbs≤1000)(hn':n'.natAbs≤1000):PF GB prog 46 [eP (iP m n),eP (iP m' n')] (.v (.bool (decide (m=m'∧n=n')))):=by
 haveI:=biC (k:=10) hm (by decide)
 haveI:=biC (k:=10) hn (by decide)
 haveI:=biC (k:=10) hm' (by decide)
 haveI:=biC (k:=10) hn' (by decide)
 refine fn func46 J J ntmps46 J J (fun C=>?_)
 refine cl rfl (q_C (a:=(m:Rat)) (b:=(m':Rat))) rfl<|?_
 refine cs 11 J J J (fun hg11=>?_) (fun hg11=>?_)
 ·
  refine cl rfl (q_C (a:=(n:Rat)) (b:=(n':Rat))) rfl<|?_
  exact rz rfl (by rw[aeU] at hg11;have e:m=m':=(by exact_mod_cast hg11);exact congrArg (fun z=>DV.v (.bool z)) (decide_eq_decide.2 (by rw[aeU,nQ];simp[e])))
 ·
  exact rz rfl (by rw[aeU] at hg11;have e: ¬m=m':=(fun e=>hg11 (by rw[e]));show DV.v (.bool false)=DV.v (.bool _);rw[decide_eq_false (fun h=>e h.1)])
theorem asG{a b k:Nat}(ha:a<k)(hb:b<k):Nat.gcd a b<k:=by
 rcases fS a with rfl|p
 ·simpa using hb
 ·exact fJ (Nat.gcd_le_left b p) ha
theorem aAi{a b c:Int}{i:Nat}(ha:BI a i)(hb:BI b i)(hc:BI c i)(hi:i≤100000000)(h0: ¬(a=0∧b=0)):PF GB prog 187 [eI a,eI b,eI c] (.tp [eL (mkL a b c), .v (.bool true)]):=by
 have hgn:Nat.gcd a.natAbs b.natAbs≠0:=fun h=>h0 ⟨mS.1 (nU h),mS.1 (nV h)⟩
 have hgp:0<Nat.gcd (Nat.gcd a.natAbs b.natAbs) c.natAbs:=oX _ (iR hgn)
 haveI hb1:BN (Nat.gcd a.natAbs b.natAbs) i:=⟨asG ha.h hb.h⟩
 haveI hb2:BN (Nat.gcd (Nat.gcd a.natAbs b.natAbs) c.natAbs) i:=⟨asG hb1.h hc.h⟩
 refine fn func187 J J ntmps187 J J (fun C=>?_)
 refine cl rfl (al3 (a:=a.natAbs) (b:=b.natAbs) (by omega) (by omega)) rfl<|?_
 refine br J J J (fun hc22=>?_) (fun hc22=>?_)
 ·
  exact absurd hc22 (by rw[aJ];intro h;exact hgn (acz.1 (by omega)))
 ·
  refine cl rfl (al3 (a:=Nat.gcd a.natAbs b.natAbs) (b:=c.natAbs) (by omega) (by omega)) rfl<|cl rfl (afG (a:=a.natAbs) (b:=Nat.gcd (Nat.gcd a.natAbs b.natAbs) c.natAbs) hgp (by omega) (by omega)) rfl<|?_
  refine cl rfl (afG (a:=b.natAbs) (b:=Nat.gcd (Nat.gcd a.natAbs b.natAbs) c.natAbs) hgp (by omega) (by omega)) rfl<|cl rfl (afG (a:=c.natAbs) (b:=Nat.gcd (Nat.gcd a.natAbs b.natAbs) c.natAbs) hgp (by omega) (by omega)) rfl<|?_
  refine cl rfl (acT (m:=a.natAbs/(Nat.gcd (Nat.gcd a.natAbs b.natAbs) c.natAbs)) (neg:=decide (a<0))) rfl<|cl rfl (acT (m:=b.natAbs/(Nat.gcd (Nat.gcd a.natAbs b.natAbs) c.natAbs)) (neg:=decide (b<0))) rfl<|?_
  refine cl rfl (acT (m:=c.natAbs/(Nat.gcd (Nat.gcd a.natAbs b.natAbs) c.natAbs)) (neg:=decide (c<0))) rfl<|?_
  exact rz J J
def apv(n n':Int):Int:= -(n'-n)
def aoW(m m':Int):Int:=m'-m
def avS(m n m' n':Int):Int:= -(apv n n'*m+aoW m m'*n)
def amv(m n m' n':Int):LnQ:=mkL (apv n n') (aoW m m') (avS m n m' n')
theorem afH{a b:Int}(ha:a.natAbs≤2000)(hb:b.natAbs≤1000):(a*b).natAbs≤2000000:=by
 rw[iJ];exact gW ha hb
theorem aom{m n m' n':Int}(hm:m.natAbs≤1000)(hn:n.natAbs≤1000)(hm':m'.natAbs≤1000)(hn':n'.natAbs≤1000)(h0: ¬(m=m'∧n=n')):PF GB prog 121 [eP (iP m n),eP (iP m' n')] (.tp [eL (amv m n m' n'), .v (.bool true)]):=by
 obtain⟨a,hA⟩: ∃a,a=apv n n':=⟨_,rfl⟩
 obtain⟨b,hB⟩: ∃b,b=aoW m m':=⟨_,rfl⟩
 have hA':a= -(n'-n):=hA
 have hB':b=m'-m:=hB
 obtain⟨c,hC⟩: ∃c,c= -(a*m+b*n):=⟨_,rfl⟩
 have e1:=afH (a:=a) (b:=m) (by omega) hm
 have e2:=afH (a:=b) (b:=n) (by omega) hn
 haveI hm0:=biC (k:=10) hm (by decide)
 haveI hn0:=biC (k:=10) hn (by decide)
 haveI ha:BI a 30:=aFm (by omega)
 haveI hb:BI b 30:=aFm (by omega)
 haveI hc:BI c 30:=aFm (by omega)
 have hthr:amv m n m' n'=mkL a b c:=by rw[hC,hA,hB];rfl
 have hne: ¬(a=0∧b=0):=fun h=>h0 (by omega)
 refine fn func121 J J ntmps121 J J (fun C=>?_)
 refine cl rfl (aEn (m:=m') (n:=n') (m':=m) (n':=n) hm' hn' hm hn) rfl<|cl rfl (PF.eq (al9 (q:=(((n'-n):Int):Rat))) (eQI (k:=a) (by rw[hA'];push_cast;rfl))) rfl<|?_
 refine cl rfl (PF.eq (abu (a:=(a:Rat)) (b:=(m:Rat))) (eQI (k:=a*m) (by push_cast;rfl))) rfl<|cl rfl (PF.eq (by haveI:BI (m'-m) 30:=(by rw[←hB'];exact hb);exact abu (a:=(((m'-m):Int):Rat)) (b:=(n:Rat))) (eQI (k:=b*n) (by rw[hB'];push_cast;rfl))) rfl<|?_
 refine cl rfl (PF.eq (ae6 (a:=((a*m:Int):Rat)) (b:=((b*n:Int):Rat))) (eQI (k:=a*m+b*n) (by push_cast;rfl))) rfl<|cl rfl (PF.eq (al9 (q:=((a*m+b*n:Int):Rat))) (eQI (k:=c) (by rw[hC];push_cast;rfl))) rfl<|?_
 refine cl rfl (ae9 (q:=(a:Rat))) rfl<|cl rfl (ae9 (q:=(((m'-m):Int):Rat))) rfl<|cl rfl (PF.eq (acq (a:=1) (b:=1)) rfl) rfl<|?_
 refine cl rfl (ae9 (q:=(c:Rat))) rfl<|cl rfl (PF.eq (acq (a:=1) (b:=1)) rfl) rfl<|cl (fu:=⟨1⟩) rfl (acT (neg:=false) (m:=1)) rfl<|?_
 refine eqF 40 (.d (eQ ((1:Int):Rat))) J J ?_
 refine gx rfl<|cl rfl (PF.eq (abu (a:=(a:Rat)) (b:=((1:Int):Rat))) (eQI (k:=a) (by push_cast;grind))) rfl<|cl rfl (PF.eq (by haveI:BI (m'-m) 30:=(by rw[←hB'];exact hb);exact abu (a:=(((m'-m):Int):Rat)) (b:=((1:Int):Rat))) (eQI (k:=b) (by rw[hB'];push_cast;grind))) rfl<|?_
 refine cl rfl (PF.eq (abu (a:=(c:Rat)) (b:=((1:Int):Rat))) (eQI (k:=c) (by push_cast;grind))) rfl<|cl rfl (aAi (a:=a) (b:=b) (c:=c) ha hb hc (by decide) hne) rfl<|?_
 exact rz rfl (by rw[hthr];rfl)
theorem axQ{es:List Int}{a:Nat}(h:a<es.length):(es.map vI)[(a:Int).toNat]? =some (vI es[a]):=by simp[h]
theorem axy:eP (iP 0 0)= .ag [.v (.bool false), .sl [], .sl [], .v (.bool false), .sl [], .sl []]:=by
 unfold eP iP
 simp[ac5,dD]
theorem aCW{m n p q:Int}(hm:m.natAbs≤4)(hn:n.natAbs≤4)(hp:p.natAbs≤4)(hq:q.natAbs≤4)(h: ¬(p=0∧q=0)):LS (amv m n (m+1*p) (n+1*q)):=by
 have e1:apv n (n+1*q)= -q:=by unfold apv;omega
 have e2:aoW m (m+1*p)=p:=by unfold aoW;omega
 have e3:((-q)*m).natAbs≤4*4:=by rw[iJ];exact gW (by omega) hm
 have e4:(p*n).natAbs≤4*4:=by rw[iJ];exact gW hp hn
 have e5:avS m n (m+1*p) (n+1*q)= -((-q)*m+p*n):=by unfold avS;rw[e1,e2]
 unfold amv
 obtain⟨k1,k2,k3⟩:=azm (apv n (n+1*q)) (aoW m (m+1*p)) (avS m n (m+1*p) (n+1*q))
 exact⟨azo (by rw[e1,e2];omega),cJ k1 (by rw[e1];omega),cJ k2 (by rw[e2];omega),cJ k3 (by rw[e5];omega)⟩
def aae(es:List Int)(n:Int)(a:Nat):Nat×Nat:=
 if h:a<es.length then((if Int.tmod es[a] n<0 then Int.tmod es[a] n+n else Int.tmod es[a] n).toNat,a+1) else(0,a)
theorem abB{es:List Int}{n:Int}{a:Nat}(hn:1≤n):((aae es n a).1:Int)<n:=by
 unfold aae
 split
 ·rename_i h
  have q2:=Int.tmod_lt_of_pos es[a] (show 0<n by omega)
  dsimp only
  split<;>omega
 ·exact hn
theorem aaF{es:List Int}{n:Int}{a:Nat}(ha:a≤es.length):(aae es n a).2≤es.length:=by
 unfold aae
 split
 ·assumption
 ·exact ha
def pF(es:List Int)(a:Nat):(Int×Int)×Nat:=((((aae es 9 a).1:Int)-4,((aae es 9 (aae es 9 a).2).1:Int)-4),(aae es 9 (aae es 9 a).2).2)
theorem anJ{es:List Int}{a:Nat}(ha:a≤es.length):(pF es a).1.1.natAbs≤4∧(pF es a).1.2.natAbs≤4∧(pF es a).2≤es.length:=by
 have h1:=abB (es:=es) (n:=9) (a:=a) (by decide)
 have h2:=abB (es:=es) (n:=9) (a:=(aae es 9 a).2) (by decide)
 have h3:=aaF (n:=9) (aaF (es:=es) (n:=9) ha)
 unfold pF
 exact⟨by dsimp only;omega,by dsimp only;omega,h3⟩
def vF(es:List Int)(a:Nat):(Int×Int)×Nat:=if(pF es a).1.1=0∧(pF es a).1.2=0 then((1,0),(pF es a).2) else pF es a
theorem arJ{es:List Int}{a:Nat}(ha:a≤es.length):(vF es a).1.1.natAbs≤4∧(vF es a).1.2.natAbs≤4∧ ¬((vF es a).1.1=0∧(vF es a).1.2=0)∧(vF es a).2≤es.length:=by
 obtain⟨h1,h2,h3⟩:=anJ ha
 unfold vF
 split
 ·exact⟨show(1:Int).natAbs≤4 by decide,show(0:Int).natAbs≤4 by decide,show¬((1:Int)=0∧(0:Int)=0) by decide,h3⟩
 ·rename_i h;exact⟨h1,h2,h,h3⟩
def lF(es:List Int)(a:Nat):LnQ×Nat:=(amv (pF es a).1.1 (pF es a).1.2 ((pF es a).1.1+1*(vF es (pF es a).2).1.1) ((pF es a).1.2+1*(vF es (pF es a).2).1.2),(vF es (pF es a).2).2)
theorem art{es:List Int}{a:Nat}(ha:a≤es.length):LS (lF es a).1∧(lF es a).2≤es.length:=by
 obtain⟨h1,h2,h3⟩:=anJ ha
 obtain⟨k1,k2,k3,k4⟩:=arJ h3
 exact⟨aCW h1 h2 k1 k2 k3,k4⟩
def abx(es:List Int):Nat→Nat→Tr×Nat
 |0,a=>(.leaf (decide (((aae es 2 a).1:Int)=1)),(aae es 2 a).2)
 |d+1,a=>if((aae es 4 a).1:Int)=0 then(.leaf (decide (((aae es 2 (aae es 4 a).2).1:Int)=1)),(aae es 2 (aae es 4 a).2).2) else
  (.node (lF es (aae es 4 a).2).1 (abx es d (lF es (aae es 4 a).2).2).1 (abx es d (abx es d (lF es (aae es 4 a).2).2).2).1,(abx es d (abx es d (lF es (aae es 4 a).2).2).2).2)
theorem ago{es:List Int}: ∀{d a:Nat},a≤es.length→(abx es d a).1.depth≤d∧(abx es d a).1.all LnQ.ok∧(abx es d a).1.all (fun l=>BL l 96)∧(abx es d a).2≤es.length
 |0,a,ha=>⟨bQ _,trivial,trivial,aaF ha⟩
 |d+1,a,ha=>by
  have h4:=aaF (n:=4) ha
  unfold abx
  split
  ·exact⟨bQ _,trivial,trivial,aaF h4⟩
  ·obtain⟨hl,h5⟩:=art h4
   obtain⟨d1,o1,b1,h6⟩:=ago (d:=d) h5
   obtain⟨d2,o2,b2,h7⟩:=ago (d:=d) h6
   exact⟨by show 1+max _ _≤_;omega,⟨hl.ok,o1,o2⟩,⟨hl.bl,b1,b2⟩,h7⟩
theorem acg{b:Nat}{es:List Int}(hes:es.length≤400){a:Nat}(ha:a≤es.length){n:Int}(hn:1≤n)(hn2:n≤1000):PM GB prog 50 (mkP [none,some (.v (.int .i64 n))] b) b 104 [.sl (es.map vI), .v (.int .i64 (a:Nat))] (.v (.int .i64 ((aae es n a).1:Nat))) [.sl (es.map vI), .v (.int .i64 ((aae es n a).2:Nat))]:=by
 have hel:(es.map vI).length=es.length:=by simp
 refine fnM func50 J J ntmps50 J J (fun C b m lo hmb=>?_)
 refine br J J J (fun hc15=>?_) (fun hc15=>?_)
 ·
  have hf:aae es n a=(0,a):=by unfold aae;rw[dif_neg (by omega)]
  exact rzM hmb J J (by rw[hf]<;>rfl) (by rw[hf]<;>rfl)
 ·
  have hal:a<es.length:=by omega
  obtain⟨e,he⟩: ∃e,e=es[a]:=⟨_,rfl⟩
  have q2:=Int.tmod_lt_of_pos e (show 0<n by omega)
  have q3: -n<Int.tmod e n:=by have:=Int.lt_tmod_of_pos e (show 0<n by omega);omega
  refine ix (fu:=⟨1⟩) _ rfl (axQ hal) rfl<|?_
  refine eqF 25 (.d (vI e)) rfl (by rw[he]<;>rfl) ?_
  refine gx (hv:=by simp only[aah];exact⟨⟨by omega,by kernel_rfl⟩,by omega⟩) rfl<|?_
  refine br J J J (fun hc36=>?_) (fun hc36=>?_)
  ·
   have hf:aae es n a=((Int.tmod e n+n).toNat,a+1):=by unfold aae;rw[dif_pos hal,←he,if_pos hc36]
   exact rzM hmb J J (by rw[hf];show DV.v (.int .i64 _)=DV.v (.int .i64 _);rw[qQ (by omega)]) (by rw[hf]<;>rfl)
  ·
   have hf:aae es n a=((Int.tmod e n).toNat,a+1):=by unfold aae;rw[dif_pos hal,←he,if_neg hc36]
   exact rzM hmb J J (by rw[hf];show DV.v (.int .i64 _)=DV.v (.int .i64 _);rw[qQ (by omega)]) (by rw[hf]<;>rfl)
theorem aFr{b:Nat}{es:List Int}(hes:es.length≤400){a:Nat}(ha:a≤es.length):PM GB prog 120 (mkP [none] b) b 104 [.sl (es.map vI), .v (.int .i64 (a:Nat))] (eP (iP (pF es a).1.1 (pF es a).1.2)) [.sl (es.map vI), .v (.int .i64 ((pF es a).2:Nat))]:=by
 have h1:=abB (es:=es) (n:=9) (a:=a) (by decide)
 have h2:=abB (es:=es) (n:=9) (a:=(aae es 9 a).2) (by decide)
 refine fnM func120 J J ntmps120 J J (fun C b m lo hmb=>?_)
 refine cm rfl (fun b=>(acg (n:=9) hes ha (by decide) (by decide))) rfl<|cm rfl (fun b=>(acg (n:=9) hes (aaF ha) (by decide) (by decide))) rfl<|?_
 refine cl rfl (aot (m:=((aae es 9 a).1:Int)-4) (n:=((aae es 9 (aae es 9 a).2).1:Int)-4) (by omega) (by omega)) rfl<|?_
 exact rzM hmb J J J J
theorem aFJ{b:Nat}{es:List Int}(hes:es.length≤400){a:Nat}(ha:a≤es.length):PM GB prog 122 (mkP [none] b) b 104 [.sl (es.map vI), .v (.int .i64 (a:Nat))] (eP (iP (vF es a).1.1 (vF es a).1.2)) [.sl (es.map vI), .v (.int .i64 ((vF es a).2:Nat))]:=by
 obtain⟨hm,hn,ha1⟩:=anJ ha
 refine fnM func122 J J ntmps122 J J (fun C b m lo hmb=>?_)
 refine cm (fu:=⟨9⟩) rfl (fun b=>(aFr hes ha)) rfl<|?_
 refine eqF 7 (.d (eP (iP 0 0))) rfl (by rw[axy]<;>rfl) ?_
 refine gx rfl<|cl rfl (amj (m:=(pF es a).1.1) (n:=(pF es a).1.2) (m':=0) (n':=0) (by omega) (by omega) (by decide) (by decide)) rfl<|?_
 refine bd J J J (fun hc8=>?_) (fun hc8=>?_)
 ·
  have hf:vF es a=((1,0),(pF es a).2):=by unfold vF;rw[if_pos hc8]
  refine cl rfl (aot (m:=1) (n:=0) (by decide) (by decide)) rfl<|?_
  exact rzM hmb J J (by rw[hf]<;>rfl) (by rw[hf])
 ·
  have hf:vF es a=pF es a:=by unfold vF;rw[if_neg hc8]
  exact rzM hmb J J (by rw[hf]<;>rfl) (by rw[hf])
theorem aGN{b:Nat}{es:List Int}(hes:es.length≤400){a:Nat}(ha:a≤es.length):PM GB prog 53 (mkP [none] b) b 104 [.sl (es.map vI), .v (.int .i64 (a:Nat))] (eL (lF es a).1) [.sl (es.map vI), .v (.int .i64 ((lF es a).2:Nat))]:=by
 obtain⟨hm,hn,ha1⟩:=anJ ha
 obtain⟨hp,hq,hz,ha2⟩:=arJ ha1
 refine fnM func53 J J ntmps53 J J (fun C b m lo hmb=>?_)
 refine cm rfl (fun b=>(aFr hes ha)) rfl<|cl rfl (amw (n:=1) (by decide) (by decide)) rfl<|cm rfl (fun b=>(aFJ hes ha1)) rfl<|cl rfl (aqq (m:=(pF es a).1.1) (n:=(pF es a).1.2) (m':=(vF es (pF es a).2).1.1) (n':=(vF es (pF es a).2).1.2) (k:=1) (by omega) (by omega) (by omega) (by omega) (by decide)) rfl<|?_
 refine cl rfl (aom (m:=(pF es a).1.1) (n:=(pF es a).1.2) (m':=(pF es a).1.1+1*(vF es (pF es a).2).1.1) (n':=(pF es a).1.2+1*(vF es (pF es a).2).1.2) (by omega) (by omega) (by omega) (by omega) (by omega)) rfl<|?_
 exact rzM hmb J J J J
theorem ac4{p:Bool}:PF GB prog 54 [.v (.bool p)] (eT (.leaf p)):=by
 refine fn func54 J J ntmps54 J J (fun C=>?_)
 refine fzE 5 rfl ?_
 exact rz J J
theorem am4{b:Nat}{es:List Int}(hes:es.length≤400){a:Nat}(ha:a≤es.length){n:Int}(hn:n=0):PM GB prog 55 (mkP [none,some (.v (.int .i64 n))] b) b 104 [.sl (es.map vI), .v (.int .i64 (a:Nat))] (eT (abx es 0 a).1) [.sl (es.map vI), .v (.int .i64 ((abx es 0 a).2:Nat))]:=by
 refine fnM (fu:=⟨10⟩) func55 J J ntmps55 J J (fun C b m lo hmb=>?_)
 refine kT 8 rfl (by omega) ?_
 refine gx rfl<|cm rfl (fun b=>(acg (n:=2) hes ha (by decide) (by decide))) rfl<|cl rfl (ac4 (p:=decide (((aae es 2 a).1:Int)=1))) rfl<|?_
 exact rzM hmb J J J J
theorem anZ{b:Nat}{es:List Int}(hes:es.length≤400){a:Nat}(ha:a≤es.length){d:Nat}{n:Int}(hn:n=((d+1:Nat):Int))(hd:d≤100)(ih: ∀{GB:Gh} {b a:Nat} {n:Int},a≤es.length→n=(d:Int)→PM GB prog 55 (mkP [none,some (.v (.int .i64 n))] b) b 104 [.sl (es.map vI), .v (.int .i64 (a:Nat))] (eT (abx es d a).1) [.sl (es.map vI), .v (.int .i64 ((abx es d a).2:Nat))]):PM GB prog 55 (mkP [none,some (.v (.int .i64 n))] b) b 104 [.sl (es.map vI), .v (.int .i64 (a:Nat))] (eT (abx es (d+1) a).1) [.sl (es.map vI), .v (.int .i64 ((abx es (d+1) a).2:Nat))]:=by
 have h4:=aaF (n:=4) ha
 obtain⟨hl,h5⟩:=art h4
 have h6:=(ago (d:=d) h5).2.2.2
 refine fnM (fu:=⟨10⟩) func55 J J ntmps55 J J (fun C b m lo hmb=>?_)
 refine kF 8 rfl (by omega) ?_
 refine gx rfl<|cm rfl (fun b=>(acg (n:=4) hes ha (by decide) (by decide))) rfl<|?_
 refine br J J J (fun hc13=>?_) (fun hc13=>?_)
 ·
  have hf:abx es (d+1) a=_:=if_pos hc13
  refine cm rfl (fun b=>(acg (n:=2) hes h4 (by decide) (by decide))) rfl<|cl rfl (ac4 (p:=decide (((aae es 2 (aae es 4 a).2).1:Int)=1))) rfl<|?_
  exact rzM hmb J J (by rw[hf]<;>rfl) (by rw[hf])
 ·
  have hf:abx es (d+1) a=_:=if_neg hc13
  refine cm rfl (fun b=>(aGN hes h4)) rfl<|cm rfl (fun b=>(ih h5 (by omega))) rfl<|cm rfl (fun b=>(ih h6 (by omega))) rfl<|?_
  refine fzE 31 rfl ?_
  exact rzM hmb J J (by rw[hf]<;>rfl) (by rw[hf])
theorem au6{es:List Int}(hes:es.length≤400): ∀{d:Nat} {GB:Gh} {b a:Nat} {n:Int},d≤100→a≤es.length→n=(d:Int)→PM GB prog 55 (mkP [none,some (.v (.int .i64 n))] b) b 104 [.sl (es.map vI), .v (.int .i64 (a:Nat))] (eT (abx es d a).1) [.sl (es.map vI), .v (.int .i64 ((abx es d a).2:Nat))]
 |0,_,_,_,_,_,ha,hn=>am4 hes ha hn
 |d+1,_,_,_,_,hd,ha,hn=>anZ hes ha hn (by omega) (fun h1 h2=>au6 hes (by omega) h1 h2)
theorem avp{es:List Int}(hes:es.length≤400){a d b:Nat}(ha:a≤es.length)(hd:d≤100):PM GB prog 55 (mkP [none,some (.v (.int .i64 (d:Nat)))] b) b 104 [.sl (es.map vI), .v (.int .i64 (a:Nat))] (eT (abx es d a).1) [.sl (es.map vI), .v (.int .i64 ((abx es d a).2:Nat))]:=au6 (GB:=GB) hes hd ha rfl
abbrev ZP:=Int×Int
def ZP.q(p:ZP):PtQ:=iP p.1 p.2
def ZP.le(k:Nat)(p:ZP):Prop:=p.1.natAbs≤k∧p.2.natAbs≤k
def aFt(p q:ZP):ZP:=(p.1+1*q.1,p.2+1*q.2)
def aj5(u v:ZP):Int:=u.1*v.2-u.2*v.1
theorem ayO{m n p q:Int}(hm:m.natAbs≤1000)(hn:n.natAbs≤1000)(hp:p.natAbs≤1000)(hq:q.natAbs≤1000)(h: ¬(p=m∧q=n)):LB (amv m n p q)∧(amv m n p q).ok:=by
 have e1:(apv n q).natAbs≤2000:=by unfold apv;omega
 have e2:(aoW m p).natAbs≤2000:=by unfold aoW;omega
 have e3:=afH e1 hm
 have e4:=afH e2 hn
 have e5:(avS m n p q).natAbs≤4000000:=by unfold avS;omega
 unfold amv
 obtain⟨k1,k2,k3⟩:=azm (apv n q) (aoW m p) (avS m n p q)
 have hb:(2:Nat)^96=79228162514264337593543950336:=by decide
 refine⟨⟨⟨?_,?_,?_⟩⟩,azo ?_⟩
 ·rw[hb];omega
 ·rw[hb];omega
 ·rw[hb];omega
 ·unfold apv aoW;omega
def afb(v w:ZP):FrQ:=⟨amv v.1 v.2 w.1 w.2,⟨abw (amv v.1 v.2 w.1 w.2) v.q,abw (amv v.1 v.2 w.1 w.2) w.q,false,false⟩⟩
def acS(r:List ZP)(i:Nat):ZP:=r.getD ((i+1)%r.length) (0,0)
def afj(r:List ZP):Nat→List FrQ
 |0=>[]
 |k+1=>afj r k++[afb (r.getD k (0,0)) (acS r k)]
def acP(r:List ZP):List FrQ:=afj r r.length
structure aaU (r:List ZP):Prop where
 n3:3≤r.length
 n6:r.length≤6
 le: ∀p∈r,ZP.le 100 p
 ne: ∀i<r.length,r.getD i (0,0)≠acS r i
theorem agn{r:List ZP}{i:Nat}(h:i<r.length):r.getD i (0,0)∈r:=by
 rw[aX,aQ h];exact bN h
theorem ag0{r:List ZP}{i:Nat}(h:i<r.length):acS r i∈r:=agn (dJ _ (by omega))
theorem BQ.int1200{m:Int}(h:m.natAbs≤1000):BQ (m:Rat) 1200:=by
 haveI:BI m 11:=biC h (by decide)
 exact BQ.mono (inferInstance:BQ (m:Rat) 12) (by decide)
theorem an1{l:LnQ}(hl:LB l)(ho:l.ok){m n:Int}(hm:m.natAbs≤1000)(hn:n.natAbs≤1000):BQ (abw l (iP m n)) 1200:=by
 haveI:=biC (k:=11) hm (by decide)
 haveI:=biC (k:=11) hn (by decide)
 have hd:=ane ho.ne
 have hA:BI (l.a*l.a+l.b*l.b) _:=inferInstance
 have hB:BI (m*l.b-n*l.a) _:=inferInstance
 have hA':=apN (j:=1200) hA (by decide)
 have hB':=apN (j:=1200) hB (by decide)
 have e1:l.dir.dot l.dir=((l.a*l.a+l.b*l.b:Int):Rat):=by
  rw[oL,cV,cV]
  simp only[LnQ.dir,PtQ.dot];grind
 have e2:(iP m n).dot l.dir=((m*l.b-n*l.a:Int):Rat):=by
  rw[kY,cV,cV]
  simp only[LnQ.dir,PtQ.dot,iP];grind
 have hd':((0:Int):Rat)<((l.a*l.a+l.b*l.b:Int):Rat):=by rw[←e1];exact hd
 unfold abw
 rw[e2,e1]
 clear hA hB e1 e2
 generalize l.a*l.a+l.b*l.b=D at*
 generalize m*l.b-n*l.a=M at*
 have hD:0<D:=Rat.intCast_lt_intCast.1 hd'
 refine BQ.of_fracI (n:=M) (D:=D) (by omega) ?_ hB' hA'
 have h0:(D:Rat)≠0:=fun e=>by rw[e] at hd';exact absurd hd' (by decide)
 have:((D.natAbs:Nat):Rat)=(D:Rat):=by
  have h1:((D.natAbs:Nat):Int)=D:=by omega
  rw[←h1];rfl
 rw[this]
 grind
theorem aBD{v w:ZP}(hv:ZP.le 100 v)(hw:ZP.le 100 w)(h:v≠w):FOk (afb v w):=by
 obtain⟨h1,h2⟩:=ayO (m:=v.1) (n:=v.2) (p:=w.1) (q:=w.2) (by have:=hv.1;omega) (by have:=hv.2;omega) (by have:=hw.1;omega) (by have:=hw.2;omega) (fun e=>h (Prod.ext e.1.symm e.2.symm))
 exact⟨h1,h2,⟨fun e=>(by cases e),fun e=>(by cases e)⟩,an1 h1 h2 (by have:=hv.1;omega) (by have:=hv.2;omega),an1 h1 h2 (by have:=hw.1;omega) (by have:=hw.2;omega)⟩
theorem ajr{r:List ZP}(h:aaU r): ∀{k:Nat},k≤r.length→(afj r k).length=k∧ ∀f∈afj r k,FOk f
 |0,_=>⟨rfl,fun f hf=>by cases hf⟩
 |k+1,hk=>by
  obtain⟨h1,h2⟩:=ajr h (k:=k) (by omega)
  rw[afj]
  refine⟨by simp[h1],fun f hf=>?_⟩
  rcases bR.1 hf with hf|hf
  ·exact h2 f hf
  ·rw[aV] at hf;subst hf
   exact aBD (h.le _ (agn (by omega))) (h.le _ (ag0 (by omega))) (h.ne k (by omega))
theorem aiT{r:List ZP}(h:aaU r):(acP r).length=r.length∧ ∀f∈acP r,FOk f:=ajr h (aM _)
def abU(rs:List (List ZP)):List FrQ:=rs.flatMap acP
theorem acI: ∀{rs:List (List ZP)},(∀r∈rs,aaU r)→(abU rs).length≤6*rs.length∧ ∀f∈abU rs,FOk f
 |[],_=>⟨aM _,fun f hf=>by cases hf⟩
 |r::rs,h=>by
  obtain⟨h1,h2⟩:=acI (rs:=rs) fun q hq=>h q (aK _ hq)
  obtain⟨k1,k2⟩:=aiT (h r aZ)
  have:=(h r aZ).n6
  unfold abU at*
  rw[kZ]
  refine⟨by rw[aW,k1,bW];omega,fun f hf=>?_⟩
  rcases bR.1 hf with hf|hf
  ·exact k2 f hf
  ·exact h2 f hf
def ahX(a b c:PtQ):Int:=(PtQ.cross (adv b a (-1)) (adv c a (-1))).num.sign
def atB(v w p:PtQ):Int:=
 (if aa9 v.y p.y≤0∧ ¬aa9 w.y p.y≤0∧0<ahX v w p then 1 else 0)-(if¬aa9 v.y p.y≤0∧aa9 w.y p.y≤0∧ahX v w p<0 then 1 else 0)
def aru(r:List ZP)(p:PtQ):Nat→Int
 |0=>0
 |k+1=>aru r p k+atB (r.getD k (0,0)).q (acS r k).q p
def anA(r:List ZP)(p:PtQ):Int:=aru r p r.length
def avZ(fill n:Int):Bool:=(decide (fill=1)&&decide (n.tmod 2≠0))||(decide (fill=2)&&decide (n≠0))
def inR(rs:List (List ZP))(fill:Int)(p:PtQ):Bool:=avZ fill (rs.foldl (fun n r=>n+anA r p) 0)
def aAP(rs:List (List ZP))(fill:Int):Tr:=akh (inR rs fill) (abU rs).length (abU rs) []
def ae4(rs:List (List ZP))(fill:Int):Tr:=(aAP rs fill).restrict []
structure ahY (k:Nat) (t:Tr):Prop where
 gd:t.gd
 dp:t.depth≤k
 am: ∃K:List LnQ,K.length≤k∧(∀l∈K,l.ok)∧ael K t
theorem avn{acc:PtQ→Bool}{n:Nat}{l:List FrQ}(h: ∀f∈l,FOk f)(hn:l.length=n):ahY n (akh acc n l []):=
 ⟨⟨aeP fun f hf=>(h f hf).lb,aeP fun f hf=>(h f hf).ok⟩,ahr,l.map (·.l),by rw[aJ,hn];exact aM _,fun m hm=>by
  obtain⟨f,hf,rfl⟩:=bK.1 hm;exact(h f hf).ok,aeP fun f hf=>⟨f.l,dS hf, .inl rfl⟩⟩
theorem ahY.restrict{k:Nat}{t:Tr}(h:ahY k t)(c:aag):ahY k (t.restrict c):=by
 obtain⟨K,h1,h2,h3⟩:=h.am
 exact⟨aoO h.gd c,cJ (t.restrict_depth c) h.dp,K,h1,h2,h3.restrict c⟩
theorem ahY.compl{k:Nat}{t:Tr}(h:ahY k t):ahY k t.compl:=by
 obtain⟨K,h1,h2,h3⟩:=h.am
 exact⟨axm h.gd,by rw[t.compl_depth];exact h.dp,K,h1,h2,h3.compl⟩
theorem ahY.mono{j k:Nat}{t:Tr}(h:ahY j t)(hk:j≤k):ahY k t:=by
 obtain⟨K,h1,h2,h3⟩:=h.am
 exact⟨h.gd,cJ h.dp hk,K,by omega,h2,h3⟩
theorem ahY.merge{j k:Nat}{op:Int}{t u:Tr}(h:ahY j t)(hu:ahY k u):ahY (j+k) (t.mergeQ op u []):=by
 obtain⟨K,h1,h2,h3⟩:=h.am
 obtain⟨M,k1,k2,k3⟩:=hu.am
 refine⟨⟨Tr.mergeQ_all LB op hu.gd.lb t [] h.gd.lb,Tr.mergeQ_all LnQ.ok op hu.gd.ok t [] h.gd.ok⟩,cJ (Tr.mergeQ_depth op u t []) (by have:=h.dp;have:=hu.dp;omega),K++M,by rw[aW];omega,fun l hl=>(bR.1 hl).elim (h2 l) (k2 l),?_⟩
 exact(h3.mono fun l hl=>⟨l,cZ _ hl, .inl rfl⟩).merge (k3.mono fun l hl=>⟨l,cY _ hl, .inl rfl⟩) []
theorem ark{rs:List (List ZP)}{fill:Int}(h: ∀r∈rs,aaU r)(hn:rs.length≤3):ahY 18 (ae4 rs fill):=by
 obtain⟨h1,h2⟩:=acI h
 exact((avn (acc:=inR rs fill) h2 rfl).restrict []).mono (by omega)
def aAx(p q:ZP):Int:=if p.1<q.1 then-1 else if q.1<p.1 then 1 else if p.2<q.2 then-1 else if q.2<p.2 then 1 else 0
def awN(x:ZP):List ZP→List ZP
 |[]=>[x]
 |u::t=>if aAx u x<0 then u::awN x t else if aAx u x=0 then u::t else x::u::t
def anz(l:List ZP):List ZP:=l.foldl (fun out x=>awN x out) []
theorem arq{x:ZP}: ∀{l:List ZP},(awN x l).length≤l.length+1
 |[]=>aM _
 |u::t=>by
  rw[awN]
  have:=arq (x:=x) (l:=t)
  split
  ·simp;omega
  ·split<;>simp
theorem auK(l:List ZP):(anz l).length≤l.length:=by
 have key: ∀(l o:List ZP),(l.foldl (fun out x=>awN x out) o).length≤l.length+o.length:=by
  intro l
  induction l with
  |nil=>intro o;simp
  |cons x t ih=>intro o;have:=ih (awN x o);have:=arq (x:=x) (l:=o);simp only[jW,bW];omega
 have:=key l []
 simpa[anz] using this
def age(a b c d:Int):List ZP:=[(a,b),(c,b),(c,d),(a,d)]
theorem agK{r:List ZP}{i:Nat}(h:i+1<r.length):acS r i=r.getD (i+1) (0,0):=by unfold acS;rw[fU h]
theorem aep{r:List ZP}{i:Nat}(h:i+1=r.length):acS r i=r.getD 0 (0,0):=by unfold acS;rw[h,Nat.mod_self]
theorem auG{a b c d:Int}(h1:a.natAbs≤50)(h2:b.natAbs≤50)(h3:c.natAbs≤50)(h4:d.natAbs≤50)(h5:a<c)(h6:b<d):aaU (age a b c d):=by
 refine⟨by simp[age],by simp[age],fun p hp=>?_,fun i hi=>?_⟩
 ·simp only[age,aR,jL,or_false] at hp
  rcases hp with rfl|rfl|rfl|rfl<;>exact⟨by dsimp only;omega,by dsimp only;omega⟩
 ·have:i=0∨i=1∨i=2∨i=3:=by simp[age] at hi;omega
  rcases this with rfl|rfl|rfl|rfl<;>simp[age,acS]<;>omega
def azt(p u v:ZP):List ZP:=[p,aFt p u,aFt p v]
theorem aDR{p u v:ZP}(h1:ZP.le 40 p)(h2:ZP.le 40 u)(h3:ZP.le 40 v)(h:aj5 u v≠0):aaU (azt p u v):=by
 obtain⟨p1,p2⟩:=p
 obtain⟨u1,u2⟩:=u
 obtain⟨v1,v2⟩:=v
 unfold ZP.le at h1 h2 h3
 dsimp only at h1 h2 h3
 unfold aj5 at h
 dsimp only at h
 refine⟨by simp[azt],by simp[azt],fun p hp=>?_,fun i hi=>?_⟩
 ·simp only[azt,aFt,aR,jL,or_false] at hp
  rcases hp with rfl|rfl|rfl<;>exact⟨by dsimp only;omega,by dsimp only;omega⟩
 ·have:i=0∨i=1∨i=2:=by simp[azt] at hi;omega
  have hu: ¬(u1=0∧u2=0):=fun e=>h (by rw[e.1,e.2];simp)
  have hv: ¬(v1=0∧v2=0):=fun e=>h (by rw[e.1,e.2];simp)
  have huv: ¬(u1=v1∧u2=v2):=fun e=>h (by rw[e.1,e.2,Int.mul_comm];omega)
  rcases this with rfl|rfl|rfl<;>simp[azt,aFt,acS]<;>omega
def apE(es:List Int):Nat→Nat→List ZP→List ZP×Nat
 |0,a,out=>(out,a)
 |n+1,a,out=>apE es n (pF es a).2 (if out.getLast? =some (pF es a).1 then out else out++[(pF es a).1])
structure Adj (r:List ZP):Prop where
 ne: ∀i,i+1<r.length→r.getD i (0,0)≠r.getD (i+1) (0,0)
 le: ∀p∈r,ZP.le 100 p
theorem Adj.snoc{r:List ZP}{p:ZP}(h:Adj r)(hp:ZP.le 100 p)(hl:r.getLast? ≠some p):Adj (r++[p]):=by
 refine⟨fun i hi=>?_,fun q hq=>?_⟩
 ·rw[aW,fT] at hi
  rw[aX,aX]
  by_cases h1:i+1<r.length
  ·rw[dT (by omega),dT h1]
   have:=h.ne i h1
   rwa [aX,aX] at this
  ·have e:i+1=r.length:=by omega
   rw[dT (by omega),e,jQ (aM _),Nat.sub_self]
   rw[lX,←e,lK] at hl
   rw[aQ (by omega)] at hl⊢
   intro c
   exact hl (by simpa using c)
 ·rcases bR.1 hq with hq|hq
  ·exact h.le q hq
  ·rw[aV] at hq;subst hq;exact hp
theorem aoX{es:List Int}: ∀{n a:Nat} {out:List ZP},a≤es.length→Adj out→Adj (apE es n a out).1∧(apE es n a out).1.length≤out.length+n∧(apE es n a out).2≤es.length
 |0,a,out,ha,h=>⟨h,aM _,ha⟩
 |n+1,a,out,ha,h=>by
  obtain⟨h1,h2,h3⟩:=anJ ha
  rw[apE]
  by_cases hl:out.getLast? =some (pF es a).1
  ·rw[if_pos hl]
   obtain⟨k1,k2,k3⟩:=aoX (n:=n) h3 h
   exact⟨k1,by omega,k3⟩
  ·rw[if_neg hl]
   obtain⟨k1,k2,k3⟩:=aoX (n:=n) h3 (h.snoc (p:=(pF es a).1) ⟨by omega,by omega⟩ hl)
   rw[aW,fT] at k2
   exact⟨k1,by omega,k3⟩
def ae7:Nat→List ZP→List ZP
 |0,l=>l
 |n+1,l=>if 1<l.length∧l.getD 0 (0,0)=l.getD (l.length-1) (0,0) then ae7 n l.dropLast else l
theorem Adj.drop{r:List ZP}(h:Adj r):Adj r.dropLast:=by
 refine⟨fun i hi=>?_,fun p hp=>h.le p ((rT _).subset hp)⟩
 rw[gM] at hi
 have:=h.ne i (by omega)
 rw[aX,aX] at this⊢
 rw[rK,rK,if_pos (by omega),if_pos (by omega)]
 exact this
theorem arf: ∀{n:Nat} {l:List ZP},Adj l→l.length≤n+1→Adj (ae7 n l)∧(ae7 n l).length≤l.length∧(1<(ae7 n l).length→(ae7 n l).getD 0 (0,0)≠(ae7 n l).getD ((ae7 n l).length-1) (0,0))
 |0,l,h,hn=>⟨h,aM _,fun k=>absurd k (by unfold ae7;omega)⟩
 |n+1,l,h,hn=>by
  rw[ae7]
  split
  ·obtain⟨h1,h2,h3⟩:=arf (n:=n) h.drop (by rw[gM];omega)
   rw[gM] at h2
   exact⟨h1,by omega,h3⟩
  ·rename_i hc
   exact⟨h,aM _,fun k e=>hc ⟨k,e⟩⟩
theorem aAY{r:List ZP}(h:Adj r)(h6:r.length≤6)(hc:1<r.length→r.getD 0 (0,0)≠r.getD (r.length-1) (0,0))(h3:3≤(anz r).length):aaU r:=by
 have:=auK r
 refine⟨by omega,h6,h.le,fun i hi=>?_⟩
 by_cases h1:i+1<r.length
 ·rw[agK h1];exact h.ne i h1
 ·have e:i+1=r.length:=by omega
  rw[aep e]
  have:=hc (by omega)
  rw[show i=r.length-1 by omega]
  exact fun k=>this k.symm
def aCr:List ZP:=[(0,0),(2,0),(0,2)]
theorem aB3:aaU aCr:=⟨by decide,by decide,fun p hp=>by
  simp only[aCr,aR,jL,or_false] at hp
  rcases hp with rfl|rfl|rfl<;>exact⟨by decide,by decide⟩,fun i hi=>by
  have:i=0∨i=1∨i=2:=by simp[aCr] at hi;omega
  rcases this with rfl|rfl|rfl<;>decide⟩
def avO(es:List Int)(a:Nat):List ZP×Nat:=
 ((if(anz (ae7 6 (apE es (3+(aae es 4 a).1) (aae es 4 a).2 []).1)).length<3 then aCr else ae7 6 (apE es (3+(aae es 4 a).1) (aae es 4 a).2 []).1),(apE es (3+(aae es 4 a).1) (aae es 4 a).2 []).2)
theorem Adj.nil:Adj []:=⟨fun i hi=>by simp at hi,fun p hp=>by cases hp⟩
theorem ato{es:List Int}{a:Nat}(ha:a≤es.length):aaU (avO es a).1∧(avO es a).2≤es.length:=by
 have h1:=abB (es:=es) (n:=4) (a:=a) (by decide)
 obtain⟨k1,k2,k3⟩:=aoX (n:=3+(aae es 4 a).1) (aaF (n:=4) ha) Adj.nil
 obtain⟨t1,t2,t3⟩:=arf (n:=6) k1 (by simp at k2;omega)
 refine⟨?_,k3⟩
 unfold avO
 dsimp only
 split
 ·exact aB3
 ·exact aAY t1 (by simp at k2;omega) t3 (by omega)
def sqF(es:List Int)(n m k:Int)(a:Nat):List ZP×Nat:=
 let x:=aae es n a
 let y:=aae es n x.2
 let z:=aae es m y.2
 let w:=aae es m z.2
 (age ((x.1:Int)-k) ((y.1:Int)-k) ((x.1:Int)-k+1+z.1) ((y.1:Int)-k+1+w.1),w.2)
theorem aEl{es:List Int}{n m k:Int}{a:Nat}(ha:a≤es.length)(hn:1≤n)(hn2:n≤10)(hm:1≤m)(hm2:m≤10)(hk:0≤k)(hk2:k≤10):aaU (sqF es n m k a).1∧(sqF es n m k a).2≤es.length:=by
 have h1:=abB (es:=es) (a:=a) hn
 have h2:=abB (es:=es) (a:=(aae es n a).2) hn
 have h3:=abB (es:=es) (a:=(aae es n (aae es n a).2).2) hm
 have h4:=abB (es:=es) (a:=(aae es m (aae es n (aae es n a).2).2).2) hm
 exact⟨auG (by omega) (by omega) (by omega) (by omega) (by omega) (by omega),aaF (aaF (aaF (aaF ha)))⟩
def acR(es:List Int)(a:Nat):List ZP×Nat:=
 let k:=aae es 4 a
 if(k.1:Int)=0 then sqF es 5 4 4 k.2
 else if(k.1:Int)=1 then
  let p:=pF es k.2
  let u:=vF es p.2
  let v:=vF es u.2
  if aj5 u.1 v.1≠0 then(azt p.1 u.1 v.1,v.2) else avO es v.2
 else avO es k.2
theorem aiQ{es:List Int}{a:Nat}(ha:a≤es.length):aaU (acR es a).1∧(acR es a).2≤es.length:=by
 have h0:=aaF (n:=4) ha
 unfold acR
 dsimp only
 split
 ·exact aEl h0 (by decide) (by decide) (by decide) (by decide) (by decide) (by decide)
 ·split
  ·obtain⟨p1,p2,p3⟩:=anJ h0
   obtain⟨u1,u2,u3,u4⟩:=arJ p3
   obtain⟨v1,v2,v3,v4⟩:=arJ u4
   split
   ·rename_i hc
    exact⟨aDR ⟨by omega,by omega⟩ ⟨by omega,by omega⟩ ⟨by omega,by omega⟩ hc,v4⟩
   ·exact ato v4
  ·exact ato h0
def aIz:List ZP:=[(0,0),(1,0),(0,1)]
def as7(es:List Int)(a:Nat):List ZP×Nat:=
 let k:=aae es 2 a
 if(k.1:Int)=0 then sqF es 3 2 1 k.2
 else
  let x:=aae es 3 k.2
  let y:=aae es 3 x.2
  let u1:=aae es 2 y.2
  let u2:=aae es 3 u1.2
  let v1:=aae es 3 u2.2
  let v2:=aae es 2 v1.2
  (if 0<aj5 (1+(u1.1:Int),(u2.1:Int)-1) ((v1.1:Int)-1,1+(v2.1:Int)) then azt ((x.1:Int)-1,(y.1:Int)-1) (1+(u1.1:Int),(u2.1:Int)-1) ((v1.1:Int)-1,1+(v2.1:Int)) else aIz,v2.2)
def ads(es:List Int)(a:Nat):Tr×Nat:=
 let r:=acR es a
 let k:=aae es 3 r.2
 if(k.1:Int)=0 then
  let s:=acR es k.2
  let f:=aae es 2 s.2
  (ae4 [r.1,s.1] (1+(f.1:Int)),f.2)
 else
  let f:=aae es 2 k.2
  (ae4 [r.1] (1+(f.1:Int)),f.2)
theorem aev{es:List Int}{a:Nat}(ha:a≤es.length):ahY 18 (ads es a).1∧(ads es a).2≤es.length:=by
 obtain⟨r1,r2⟩:=aiQ ha
 have h3:=aaF (n:=3) r2
 unfold ads
 dsimp only
 split
 ·obtain⟨s1,s2⟩:=aiQ h3
  exact⟨ark (fun r hr=>by simp only[aR,jL,or_false] at hr;rcases hr with rfl|rfl;exact r1;exact s1) (by simp),aaF s2⟩
 ·exact⟨ark (fun r hr=>by simp only[aR,jL,or_false] at hr;subst hr;exact r1) (by simp),aaF h3⟩
def awE(l:LnQ):Tr:=(Tr.node l (.leaf true) (.leaf false)).restrict []
theorem ape: ∀t:Tr,t.lns.length=t.size
 | .leaf _=>rfl
 | .node l x y=>by rw[Tr.lns,bW,aW,ape x,ape y,Tr.size];omega
theorem auX{t:Tr}{k:Nat}(hb:t.all (fun l=>BL l 96))(ho:t.all LnQ.ok)(hs:t.size≤k):ahY k t:=
 ⟨⟨adN.2 fun l hl=>⟨adN.1 hb l hl⟩,ho⟩,cJ t.depth_size hs,t.lns,by rw[ape];exact hs,ayt ho,awM fun l hl=>hl⟩
theorem aoT{es:List Int}{d a:Nat}(ha:a≤es.length)(hd:d≤4):ahY 18 (abx es d a).1∧(abx es d a).2≤es.length:=by
 obtain⟨h1,h2,h3,h4⟩:=ago (d:=d) ha
 have h5:=Tr.size_lt (abx es d a).1
 have h6:(2:Nat)^(abx es d a).1.depth≤2^4:=bX (by decide) (by omega)
 exact⟨auX h3 h2 (by omega),h4⟩
theorem avJ{l:LnQ}(h:LS l):ahY 18 (awE l):=
 (auX (k:=18) (t:= .node l (.leaf true) (.leaf false)) ⟨h.bl,trivial,trivial⟩ ⟨h.ok,trivial,trivial⟩ (by simp[Tr.size])).restrict []
def aar(es:List Int):Nat→Nat→Tr×Nat
 |0,a=>
  let k:=aae es 6 a
  if(k.1:Int)=1 then(awE (lF es k.2).1,(lF es k.2).2)
  else if(k.1:Int)=2 then((abx es 3 k.2).1.restrict [],(abx es 3 k.2).2)
  else if(k.1:Int)=3 then((ads es k.2).1.compl,(ads es k.2).2)
  else ads es k.2
 |d+1,a=>
  let k:=aae es 6 a
  if(k.1:Int)=0 then
   let x:=aar es d k.2
   let o:=aae es 4 x.2
   let y:=aar es d o.2
   (x.1.mergeQ (1+(o.1:Int)) y.1 [],y.2)
  else if(k.1:Int)=1 then(awE (lF es k.2).1,(lF es k.2).2)
  else if(k.1:Int)=2 then((abx es 3 k.2).1.restrict [],(abx es 3 k.2).2)
  else if(k.1:Int)=3 then((ads es k.2).1.compl,(ads es k.2).2)
  else ads es k.2
theorem aeA{es:List Int}: ∀{d a:Nat},a≤es.length→ahY (18*2^d) (aar es d a).1∧(aar es d a).2≤es.length
 |0,a,ha=>by
  have h0:=aaF (n:=6) ha
  rw[aar]
  try dsimp only
  split
  ·obtain⟨h1,h2⟩:=art h0;exact⟨avJ h1,h2⟩
  ·split
   ·obtain⟨h1,h2⟩:=aoT (d:=3) h0 (by decide);exact⟨h1.restrict [],h2⟩
   ·split
    ·obtain⟨h1,h2⟩:=aev h0;exact⟨h1.compl,h2⟩
    ·exact aev h0
 |d+1,a,ha=>by
  have h0:=aaF (n:=6) ha
  have hp:18≤18*2^(d+1):=nL _ (eJ (by decide))
  rw[aar]
  try dsimp only
  split
  ·obtain⟨h1,h2⟩:=aeA (d:=d) h0
   obtain⟨h3,h4⟩:=aeA (d:=d) (aaF (n:=4) h2)
   exact⟨(h1.merge h3).mono (by rw[fQ];omega),h4⟩
  ·split
   ·obtain⟨h1,h2⟩:=art h0;exact⟨(avJ h1).mono hp,h2⟩
   ·split
    ·obtain⟨h1,h2⟩:=aoT (d:=3) h0 (by decide);exact⟨(h1.restrict []).mono hp,h2⟩
    ·split
     ·obtain⟨h1,h2⟩:=aev h0;exact⟨h1.compl.mono hp,h2⟩
     ·obtain⟨h1,h2⟩:=aev h0;exact⟨h1.mono hp,h2⟩
def aJc(es:List Int)(a:Nat):Tr×Nat:=
 let k:=aae es 4 a
 if(k.1:Int)=0 then(awE (lF es k.2).1,(lF es k.2).2)
 else if(k.1:Int)=1 then((abx es 2 k.2).1.restrict [],(abx es 2 k.2).2)
 else(ae4 [(as7 es k.2).1] 2,(as7 es k.2).2)
def aBQ(op:Int)(a b:Tr):Bool:=decide ((a.mergeQ op b []).isLeaf=true∧(a.mergeQ op b []).code=false)
def aFl(a b:Tr):Int:=if aBQ 4 a b then 0 else if aBQ 3 a b then-1 else if aBQ 3 b a then 1 else 2
def atQ:Tr→PtQ→Bool
 | .leaf b,_=>b
 | .node l x y,p=>if(l.value p).num.sign=1 then atQ x p else if(l.value p).num.sign= -1 then atQ y p else false
theorem afJ: ∀{t:Tr} {c:aag} {b:Bool} {e:aag},t.all LnQ.ok→aaV c→(b,e)∈t.parts c→aaV e∧ ∀p,InD e p→InD c p∧t.val p=b
 | .leaf v,c,b,e,_,hc,h=>by
  rw[Tr.parts,aV] at h
  cases h
  exact⟨hc,fun p hp=>⟨hp,rfl⟩⟩
 | .node l x y,c,b,e,⟨hl,hx,hy⟩,hc,h=>by
  rw[Tr.parts] at h
  rcases bR.1 h with h|h
  ·split at h
   ·rename_i hb
    obtain⟨k1,k2⟩:=aa8 hc hl hb
    obtain⟨m1,m2⟩:=afJ hx k1 h
    refine⟨m1,fun p hp=>?_⟩
    obtain⟨n1,n2⟩:=m2 p hp
    obtain⟨o1,o2⟩:=(k2 p).1 n1
    exact⟨o1,by rw[Tr.val_pos o2,n2]⟩
   ·cases h
  ·split at h
   ·rename_i hb
    obtain⟨k1,k2⟩:=aa8 hc hl.rev hb
    obtain⟨m1,m2⟩:=afJ hy k1 h
    refine⟨m1,fun p hp=>?_⟩
    obtain⟨n1,n2⟩:=m2 p hp
    obtain⟨o1,o2⟩:=(k2 p).1 n1
    rw[aaY] at o2
    exact⟨o1,by rw[Tr.val_neg (by grind),n2]⟩
   ·cases h
def aai(t:Tr):List aag:=((t.parts []).filter (·.1)).map (·.2)
theorem adB{t:Tr}{e:aag}:e∈aai t↔(true,e)∈t.parts []:=by
 unfold aai
 simp
def aHl(l:LnQ)(p:PtQ):aag→Rat→Rat
 |[],f=>f
 |s::c,f=>aHl l p c (if Int.sign (s.l.nor.dot l.nor).num<0 then(if-(s.l.value p/s.l.nor.dot l.nor)<f then-(s.l.value p/s.l.nor.dot l.nor) else f) else f)
def aHr:aag→PtQ
 |[]=>⟨0,0⟩
 |s::c=>adv (s.l.at s.v.sample) s.l.nor (aHl s.l (s.l.at s.v.sample) c 1*mkRat 1 2)
theorem aqF{v k:Rat}(hk:k<0)(hv:0<v):0< -(v/k):=by
 have e: -(v/k)* -k=v:=by grind
 exact(aat (k:= -k) (by grind)).1 (by rw[e];exact hv)
def aA2:Tr→PtQ→PtQ→Bool×Bool
 | .leaf b,_,_=>(b,true)
 | .node l x y,p,v=>match (if(l.value p).num.sign=0 then(l.dir.cross v).num.sign else(l.value p).num.sign) with
  |1=>aA2 x p v
  | -1=>aA2 y p v
  |_=>(false,false)
theorem aj2(l:LnQ)(v:PtQ):l.dir.cross v=l.nor.dot v:=by
 unfold LnQ.dir LnQ.nor PtQ.cross PtQ.dot
 grind
def Gn(L:List LnQ)(p v:PtQ):Prop:= ∀l∈L,l.value p=0→l.nor.dot v≠0
def ePa(x:Bool×aag):DV:= .ag [.sl (x.2.map eFr),eU (.leaf x.1)]
theorem aD1(l:List (Bool×aag)):adl 2 (l.map ePa):=fun d hd=>by
 obtain⟨x,_,rfl⟩:=bK.1 hd
 exact⟨rfl,rfl⟩
theorem aff: ∀(t:Tr) (c:aag),(t.parts c).length≤t.size+1
 | .leaf _,_=>aM _
 | .node l x y,c=>by
  have h1:=aff x (aaP c l)
  have h2:=aff y (aaP c l.rev)
  rw[Tr.parts,aW,Tr.size]
  split<;>split<;>(try simp only[fY])<;>omega
theorem akH{q:Rat}{i:Nat}[h:BQ q i](hi:i≤900000000:=by decide):PF GB prog 83 [eF q] (eR q):=by
 refine fn func83 J J ntmps83 J J (fun C=>?_)
 refine cl rfl (aoU (q:=q) (i:=i) hi) rfl<|cl rfl (ajc (q:=q) (i:=i) hi) rfl<|?_
 exact rz J J
theorem avr{p:PtQ}{i:Nat}[h:BPt p i](hi:i≤900000000:=by decide):PF GB prog 74 [eZ p] (ePt p):=by
 refine fn func74 J J ntmps74 J J (fun C=>?_)
 refine cl rfl (akH (q:=p.x) (i:=i) hi) rfl<|cl rfl (akH (q:=p.y) (i:=i) hi) rfl<|?_
 exact rz J J
theorem an4{b:Bool}{c:aag}{o:List (Bool×aag)}(hs:o.length≤1000000):PB GB prog 221 (mkB [some (eU (.leaf b)),some (.sl (c.map eFr)),none]) 2 186 (o.map ePa) (fun w=> .v (.slice w.a w.n w.c)) ((o++Tr.parts (.leaf b) c).map ePa):=by
 refine fnQ func221 J J ntmps221 J J (fun C=>?_)
 refine cl (fu:=⟨0⟩) rfl ank rfl<|?_
 refine kbT 12 rfl ?_
 refine gx rfl<|rf J J<|apB ((o++[(b,c)]).map ePa) rfl (by rw[bY]<;>rfl) (aD1 [(b,c)]) rfl<|?_
 exact rzQ J J J J
theorem am5{l:LnQ}{x y:Tr}{c:aag}{o:List (Bool×aag)}(hl:LB l)(hlo:l.ok)(hc:acp c)(hn:c.length+(Tr.node l x y).depth≤100000)(hs:o.length+((Tr.node l x y).size+1)≤1000000)(ihx: ∀{c:aag} {o:List (Bool×aag)},acp c→c.length+x.depth≤100000→o.length+(x.size+1)≤1000000→PB GB prog 221 (mkB [some (eU x),some (.sl (c.map eFr)),none]) 2 186 (o.map ePa) (fun w=> .v (.slice w.a w.n w.c)) ((o++Tr.parts x c).map ePa))(ihy: ∀{c:aag} {o:List (Bool×aag)},acp c→c.length+y.depth≤100000→o.length+(y.size+1)≤1000000→PB GB prog 221 (mkB [some (eU y),some (.sl (c.map eFr)),none]) 2 186 (o.map ePa) (fun w=> .v (.slice w.a w.n w.c)) ((o++Tr.parts y c).map ePa)):PB GB prog 221 (mkB [some (eU (.node l x y)),some (.sl (c.map eFr)),none]) 2 186 (o.map ePa) (fun w=> .v (.slice w.a w.n w.c)) ((o++Tr.parts (.node l x y) c).map ePa):=by
 have hk1:=ahe c l
 have hk2:=ahe c l.rev
 have hd:(Tr.node l x y).depth=1+max x.depth y.depth:=rfl
 have hz:(Tr.node l x y).size=1+x.size+y.size:=rfl
 have hp:=aff x (aaP c l)
 refine fnQ func221 J J ntmps221 J J (fun C=>?_)
 refine cl (fu:=⟨0⟩) rfl amA rfl<|?_
 refine kbF 12 rfl ?_
 refine gx rfl<|cl rfl (aw4 hlo hc (by omega)) rfl<|?_
 refine bb J J J (fun hc30=>?_) (fun hc30=>?_)
 ·
  have hs2:(o++x.parts (aaP c l)).length+(y.size+1)≤1000000:=by rw[aW];omega
  refine cq ((o++x.parts (aaP c l)).map ePa) rfl (ihx (ai9 hlo hc) (by omega) (by omega)) J J<|?_
  refine bb J J J (fun hc38=>?_) (fun hc38=>?_)
  ·
   refine cq _ rfl (ihy (ai9 hlo.rev hc) (by omega) (by first|exact hs2|omega)) J J<|?_
   exact rzQ J J J (by simp[Tr.parts,hc30,hc38])
  ·
   exact rzQ J J J (by simp[Tr.parts,hc30,hc38])
 ·
  refine bb J J J (fun hc38=>?_) (fun hc38=>?_)
  ·
   refine cq _ rfl (ihy (ai9 hlo.rev hc) (by omega) (by first|exact hs2|omega)) J J<|?_
   exact rzQ J J J (by simp[Tr.parts,hc30,hc38])
  ·
   exact rzQ J J J (by simp[Tr.parts,hc30,hc38])
theorem aoS: ∀{t:Tr} {c:aag} {o:List (Bool×aag)},t.all LB→t.all LnQ.ok→acp c→c.length+t.depth≤100000→o.length+(t.size+1)≤1000000→PB GB prog 221 (mkB [some (eU t),some (.sl (c.map eFr)),none]) 2 186 (o.map ePa) (fun w=> .v (.slice w.a w.n w.c)) ((o++Tr.parts t c).map ePa)
 | .leaf _,_,_,_,_,_,_,hs=>an4 (by simp only[Tr.size] at hs;omega)
 | .node _ _ _,_,_,hb,ho,hc,hn,hs=>am5 hb.1 ho.1 hc hn hs (fun k1 k2 k3=>aoS hb.2.1 ho.2.1 k1 k2 k3) (fun k1 k2 k3=>aoS hb.2.2 ho.2.2 k1 k2 k3)
theorem ax2{t:Tr}(hb:t.all LB)(ho:t.all LnQ.ok)(hd:t.depth≤100000)(hs:t.size≤900000):PB GB prog 221 (mkB [some (eU t),some (.sl []),none]) 2 186 [] (fun w=> .v (.slice w.a w.n w.c)) ((t.parts []).map ePa):=
 aoS (c:=[]) (o:=[]) hb ho acp.nil (by rw[fY];omega) (by rw[fY];omega)
def eC(c:aag):DV:= .sl (c.map eFr)
theorem aGd(l:List aag):adl 1 (l.map eC):=fun d hd=>by
 obtain⟨x,_,rfl⟩:=bK.1 hd
 exact⟨rfl,rfl⟩
def aop(ps:List (Bool×aag)):List aag:=(ps.filter (·.1)).map (·.2)
theorem ajX{ps:List (Bool×aag)}{k:Nat}{b:Bool}{e:aag}(h:ps[k]? =some (b,e)):aop (ps.drop k)=(if b then [e] else [])++aop (ps.drop (k+1)):=by
 obtain⟨h1,h2⟩:=aL.1 h
 rw[bJ h1,h2]
 unfold aop
 cases b<;>simp
theorem aBM{t:Tr}(hb:t.all LB)(ho:t.all LnQ.ok)(hd:t.depth≤100000)(hs:t.size≤900000):PF GB prog 165 [eU t] (.sl ((t.parts []).map ePa)):=by
 refine fn func165 J J ntmps165 J J (fun C=>?_)
 refine cqn _ rfl (ax2 hb ho hd hs) J J<|?_
 refine fzE 4 rfl ?_
 exact rz J J
theorem aBv{t:Tr}(hb:t.all LB)(ho:t.all LnQ.ok)(hd:t.depth≤100000)(hs:t.size≤900000):PF GB prog 128 [eU t] (.sl ((aai t).map eC)):=by
 obtain⟨ps,hps⟩: ∃ps,ps=t.parts []:=⟨_,rfl⟩
 have hpl:=aff t []
 rw[←hps] at hpl
 have hml:(ps.map ePa).length=ps.length:=aJ ..
 refine fn func128 J J ntmps128 J J (fun C=>?_)
 refine cl (fu:=⟨0⟩) rfl (aBM hb ho hd hs) rfl<|?_
 refine eqF 7 (.d (.sl (ps.map ePa))) rfl (by rw[hps]) ?_
 refine gx (fu:=⟨1⟩) rfl<|?_
 refine eqF 8 (.d (vI (ps.length:Nat))) rfl (by rw[hml]<;>rfl) ?_
 refine gx rfl<|?_
 refine nr 3 3 178 1 J J J ?_
 refine lp (X:=List aag×Nat) (fun⟨acc,k⟩=>[(9, .d (vI (k:Nat))),(3, .rw 3)]) (fun⟨acc,k⟩=>[(3,some (.b 178 1 (acc.map eC) true))]) (fun⟨acc,k⟩=>acc++aop (ps.drop k)=aai t∧k≤ps.length) (fun⟨acc,k⟩=>ps.length-k) ⟨[],0⟩ rfl ⟨by rw[hps];rfl,bQ _⟩ (fun _=>rfl) (fun⟨acc,k⟩ hk=>?_)
 try dsimp only at hk⊢
 obtain⟨h1,h2⟩:=hk
 have hal:acc.length≤ps.length:=by
  have q1:=congrArg List.length h1
  have q2:(aai t).length≤ps.length:=by unfold aai;rw[aJ,hps];exact kJ ..
  rw[aW] at q1;omega
 have ham:(acc.map eC).length=acc.length:=aJ ..
 refine br J J J (fun hc10=>?_) (fun hc10=>?_)
 ·
  obtain⟨⟨b,e⟩,hx⟩: ∃x,ps[k]? =some x:=⟨_,aQ (by omega)⟩
  refine ix _ rfl (aas hx) rfl<|?_
  refine bb J J J (fun hc17=>?_) (fun hc17=>?_)
  ·
   refine rf J J<|ap ((acc++[e]).map eC) rfl (by rw[bY]<;>rfl) (aGd [e]) rfl<|?_
   refine rnE 22 3 rfl ?_
   exact at_ ⟨acc++[e],k+1⟩ (by dsimp only;exact⟨⟨by rw[←h1,ajX hx,if_pos hc17];simp,by omega⟩,(by omega)⟩)
  ·
   exact at_ ⟨acc,k+1⟩ (by dsimp only;exact⟨⟨by rw[←h1,ajX hx,if_neg (by simp at hc17;rw[hc17];decide)];rfl,by omega⟩,(by omega)⟩)
 ·
  obtain rfl:k=ps.length:=by omega
  obtain rfl:acc=aai t:=by rw[fV] at h1;simpa[aop] using h1
  refine fzE 3 rfl ?_
  exact rz J J
theorem acB(p:PtQ):(p.half=1∧(0<p.y∨(p.y=0∧0<p.x)))∨(p.half=2∧(p.y<0∨(p.y=0∧p.x<0)))∨(p.half=0∧p.y=0∧p.x=0):=by
 unfold PtQ.half
 simp only[acH,ahJ,abT]
 split
 ·rename_i h;exact .inl ⟨rfl,h⟩
 ·rename_i h
  split
  ·rename_i h2
   exact .inr (.inl ⟨rfl,by grind⟩)
  ·rename_i h2
   exact .inr (.inr ⟨rfl,by grind,by grind⟩)
theorem ade{p:PtQ}:p.half=1↔(0<p.y∨(p.y=0∧0<p.x)):=by
 rcases acB p with⟨h,k⟩|⟨h,k⟩|⟨h,k⟩<;>rw[h]<;>grind
theorem aeh{p:PtQ}:p.half=2↔(p.y<0∨(p.y=0∧p.x<0)):=by
 rcases acB p with⟨h,k⟩|⟨h,k⟩|⟨h,k⟩<;>rw[h]<;>grind
def Bef(u v:PtQ):Prop:=u.half<v.half∨(u.half=v.half∧0<u.cross v)
theorem ahS{u v:PtQ}:aa7 u v<0↔Bef u v:=by
 unfold aa7 Bef
 split
 ·rename_i h;exact⟨fun _=> .inl h,fun _=>by decide⟩
 ·rename_i h
  split
  ·rename_i h2;exact⟨fun e=>absurd e (by decide),fun e=>by omega⟩
  ·rename_i h2
   have e:u.half=v.half:=by omega
   rw[←acH]
   constructor
   ·intro k;exact .inr ⟨e,by omega⟩
   ·rintro (k|⟨_,k⟩)
    ·omega
    ·omega
def ag4(d:PtQ):PtQ:=⟨-d.x, -d.y⟩
theorem awH{d:PtQ}(h:d.half≠0):(ag4 d).half=3-d.half:=by
 rcases acB d with⟨e,k⟩|⟨e,k⟩|⟨e,k⟩
 ·rw[e];exact aeh.2 (by unfold ag4;grind)
 ·rw[e];exact ade.2 (by unfold ag4;grind)
 ·exact absurd e h
theorem adR{d:PtQ}(h:d.half≠0):d.half=1∨d.half=2:=by
 rcases acB d with⟨e,_⟩|⟨e,_⟩|⟨e,_⟩
 ·exact .inl e
 ·exact .inr e
 ·exact absurd e h
def Nxt(ds:List PtQ)(u w:PtQ):Prop:=(Bef u w∧ ∀d∈ds,¬(Bef u d∧Bef d w))∨((∀d∈ds,¬Bef u d)∧ ∀d∈ds,¬Bef d w)
structure aI2 (ds:List PtQ):Prop where
 nz: ∀d∈ds,d.half≠0
 neg: ∀d∈ds,ag4 d∈ds
theorem acV(u v:PtQ):v.cross u= -u.cross v:=by unfold PtQ.cross;grind
theorem ans(u v:PtQ):u.cross (ag4 v)= -u.cross v:=by unfold PtQ.cross ag4;grind
def btw(a b:Rat)(u w:PtQ):PtQ:=⟨a*u.x+b*w.x,a*u.y+b*w.y⟩
end Go.Sx
end
section
namespace Go.Sx
open Go
inductive OT where
 |z (π:List (Nat×Bool))
 |q (i:Nat) (t:OT)
 |a (i:Nat) (t:OT)
 |c (i:Nat) (t r:OT)
def OT.sz:OT→Nat
 | .z _=>0
 | .q _ t=>t.sz+1
 | .a _ t=>t.sz+1
 | .c _ t r=>t.sz+r.sz+1
def OT.d:OT→Nat
 | .z π=>π.length
 | .q _ t=>t.d+1
 | .a _ t=>t.d+1
 | .c _ t r=>Nat.max (t.d+1) r.d
section
variable {P:Program} {ops:Array Oper} {Q:Exit→Act→World→Prop} {S:World→Prop} {π₂:List (Nat×Bool)}
def dwN(P:Program)(ops:Array Oper)(Q:Exit→Act→World→Prop)(K:(World→Prop)→Act→World→Prop):List Nat→OT→(World→Prop)→Act→World→Prop
 |ks, .z π,S,a,w=>dwT P ops Q K ks π S a w
 |ks, .q i t,S,a,w=> ∃o v,ops[i]? =some o∧S w∧YieldsIf P ops S o v a∧dwN P ops Q K ks t S (a.put o.dst v) w
 |ks, .a i t,S,a,w=>wpOp P ops Q i (grS S (dwN P ops Q K ks t)) a w∧
   ∀j,(h:j∈ks)→wpOp P ops Q j (grS S (dwN P ops Q K (without ks j) (.a i t))) a w
 |ks, .c i t r,S,a,w=>wpOp P ops Q i (grS S (dwN P ops Q K ks t)) a w∧dwN P ops Q K ks r S a w∧
   ∀j,(h:j∈ks)→wpOp P ops Q j (grS S (dwN P ops Q K (without ks j) (.c i t r))) a w
termination_by ks t=>ks.length+t.sz
decreasing_by
 all_goals (first|(have:=ahu h;simp only[OT.sz] at*;omega)|(simp only[OT.sz];omega))
def adz(ops:Array Oper)(fin:Nat→Bool)(π₂:List (Nat×Bool)):Nat→Bool→List Nat→OT→Array Bool→List Nat→Bool
 |0,_,_,_,_,_=>false
 |n+1,false,ks, .z π,l,_=>ahi ops fin π₂ n ks π l
 |_+1,true,_, .z _,_,_=>false
 |n+1,false,ks, .q i t,l,_=>akr ops fin l i&&adz ops fin π₂ n false ks t (l.setIfInBounds i true) []
 |_+1,true,_, .q _ _,_,_=>false
 |n+1,true,ks, .a i t,l,rs=>rs.all (fun j=>Nat.beq j i)&&adz ops fin π₂ n false ks t (l.setIfInBounds i true) []
 |n+1,false,ks, .a i t,l,_=>!(Region.ready .any ops l).isEmpty&&(Region.ready .any ops l).all (fun j=>Nat.beq j i||ks.contains j)&&adz ops fin π₂ n false ks t (l.setIfInBounds i true) []&&ks.all fun j=>adz ops fin π₂ n false (without ks j) (.a i t) (l.setIfInBounds j true) []
 |n+1,true,ks, .c i t r,l,rs=>adz ops fin π₂ n false ks t (l.setIfInBounds i true) []&&adz ops fin π₂ n true ks r l (without rs i)
 |n+1,false,ks, .c i t r,l,_=>!(Region.ready .any ops l).isEmpty&&adz ops fin π₂ n false ks t (l.setIfInBounds i true) []&&adz ops fin π₂ n true ks r l (without ((Region.ready .any ops l).filter fun j=>!ks.contains j) i)&&ks.all fun j=>adz ops fin π₂ n false (without ks j) (.c i t r) (l.setIfInBounds j true) []
end
section
variable {P:Program} {GB:Gh} {C:Ctx} {n:Nat} {fr fr':FrF} {own own' own0 own1 own1':List ady} {bs bs0 bs1 bs1':List aei} {ops:Array Oper} {Q:Exit→Act→World→Prop} {fd:List FD} {π₂:List (Nat×Bool)} {t r:OT}
abbrev dnK (P:Program) (ops:Array Oper) (Q:Exit→Act→World→Prop) (K:(World→Prop)→Act→World→Prop) (t:OT):List Nat→(World→Prop)→Act→World→Prop:=fun ks S=>dwN P ops (acx Q) K ks t S
end
end Go.Sx
end
section
namespace Go.Sx
open Go Go.Proofs Tryz
variable {GB:Gh}
theorem agQ{c:List LnQ}{l:LnQ}(hc: ∀m∈c,LB m)(hl:LB l): ∀m∈c++[l],LB m:=by
 rw[rJ]
 exact⟨hc,by simpa using hl⟩
theorem LB.rev{l:LnQ}(h:LB l):LB l.rev:=⟨⟨by rw[show l.rev.a= -l.a from rfl,iT];exact h.bl.a,by rw[show l.rev.b= -l.b from rfl,iT];exact h.bl.b,by rw[show l.rev.c= -l.c from rfl,iT];exact h.bl.c⟩⟩
theorem auW{c:List LnQ}{l:LnQ}(hc: ∀m∈c,LB m)(hok: ∀m∈c,m.ok)(hn:c.length≤900)(hl:LB l)(hlo:l.ok):PF GB prog 116 [.sl (c.map eL),eL l] (vI (ad6 c l)):=by
 have hcl:=aeX c
 refine fn func116 J J ntmps116 J J (fun C=>?_)
 refine ro0 J J<|ap (c.map eL) J J (acs _) rfl<|rf J J<|apf ((c++[l]).map eL) rfl (by rw[bY];rfl) (acs [l]) rfl<|?_
 refine cl rfl (apk (c:=c++[l]) (agQ hc hl) (abW hok hlo) (by simp;omega)) rfl<|ro0 J J<|ap (c.map eL) J J (acs _) rfl<|cl rfl (ajO (l:=l)) rfl<|?_
 refine rf J J<|apf ((c++[l.rev]).map eL) rfl (by rw[bY];rfl) (acs [l.rev]) rfl<|cl rfl (apk (c:=c++[l.rev]) (agQ hc hl.rev) (abW hok hlo.rev) (by simp;omega)) rfl<|?_
 refine csb 31 J J J (fun hg31=>?_) (fun hg31=>?_)
 ·
  refine bb J J J (fun hc33=>?_) (fun hc33=>?_)
  ·
   exact rz rfl (by show vI 0=vI _;congr 1;unfold ad6;simp_all)
  ·
   refine bb J J J (fun hc34=>?_) (fun hc34=>?_)
   ·
    exact rz rfl (by show vI 1=vI _;congr 1;unfold ad6;simp_all)
   ·
    exact rz rfl (by simp[hg31] at hc34)
 ·
  refine bb J J J (fun hc34=>?_) (fun hc34=>?_)
  ·
   exact rz rfl (by simp[hg31] at hc34)
  ·
   exact rz rfl (by show vI (-1)=vI _;congr 1;unfold ad6;simp_all)
theorem ae3{α:Type}{p:α→Bool}: ∀{xs:List α} {n:Nat},n≤xs.length→(∀j (h:j<xs.length),j<n→p xs[j]=true)→(∀h:n<xs.length,p xs[n]=false)→(xs.takeWhile p).length=n
 |[],n,h,_,_=>by simp at h;subst h;rfl
 |x::xs,0,_,_,h3=>by
  have:=h3 (by simp)
  simp only[oU] at this
  simp[nR,this]
 |x::xs,n+1,h1,h2,h3=>by
  have hx:=h2 0 (by simp) (by omega)
  simp only[oU] at hx
  rw[nR,if_pos hx,bW]
  rw[ae3 (n:=n) (by simpa using h1) (fun j h hj=>by have:=h2 (j+1) (by simpa using h) (by omega);simpa using this) (fun h=>by have:=h3 (by simpa using h);simpa using this)]
theorem am7{xs:List LnQ}{l:LnQ}{n:Nat}(h1:n≤xs.length)(h2: ∀j (h:j<xs.length),j<n→aa7 xs[j].dir l.dir<0)(h3: ∀h:n<xs.length,¬aa7 xs[n].dir l.dir<0):aeg xs l=n:=
 ae3 h1 (fun j h hj=>decide_eq_true (h2 j h hj)) (fun h=>decide_eq_false (h3 h))
theorem amC{xs:List LnQ}{l:LnQ}{n:Nat}(hn:aeg xs l=n)(h:n<xs.length)(e:xs[n]=l):acv xs l=xs:=by
 unfold acv;rw[hn,if_pos (by rw[aQ h,e])]
theorem aib{xs:List LnQ}{l:LnQ}{n:Nat}(hn:aeg xs l=n)(h: ∀h:n<xs.length,xs[n]≠l):acv xs l=xs.take n++l::xs.drop n:=by
 unfold acv
 rw[hn,if_neg]
 intro e
 obtain⟨h1,h2⟩:=aL.1 e
 exact h h1 h2
theorem azC(xs:List LnQ)(n:Nat):adl 6 ((xs.map eL).take n):=fun d hd=>acs xs d (dK hd)
theorem atl(xs:List LnQ)(n m:Nat):adl 6 (((xs.map eL).take n).drop m):=fun d hd=>acs xs d (dK (gK hd))
theorem ayr(xs:List LnQ)(n m:Nat)(l:LnQ):adl 6 ([eL l]++((xs.map eL).take n).drop m):=fun d hd=>by
 rcases bR.1 hd with h|h
 ·exact acs [l] d h
 ·exact atl xs n m d h
structure Cst (c:List LnQ) (k:Nat) (xs:List LnQ):Prop where
 le:k≤c.length
 f:aed c (c.drop k) xs=aaJ c
 m: ∀m∈xs,m∈c
 n:xs.length≤k
theorem Cst.skip{c xs:List LnQ}{k:Nat}(h:Cst c k xs)(hk:k<c.length)(e:(acb c[k] c IvQ.all).isSome=false):Cst c (k+1) xs:=by
 have:=h.f
 rw[bJ hk,aed,e] at this
 exact⟨hk,this,h.m,by have:=h.n;omega⟩
theorem Cst.ins{c xs ys:List LnQ}{k:Nat}(h:Cst c k xs)(hk:k<c.length)(e:(acb c[k] c IvQ.all).isSome=true)(hy:acv xs c[k]=ys)(hl:ys.length≤xs.length+1):Cst c (k+1) ys:=by
 have:=h.f
 rw[bJ hk,aed,e,if_pos rfl,hy] at this
 refine⟨hk,this,fun m hm=>?_,by have:=h.n;omega⟩
 rw[←hy] at hm
 rcases afd.1 hm with rfl|hm
 ·exact bN hk
 ·exact h.m m hm
theorem Cst.done{c xs:List LnQ}{k:Nat}(h:Cst c k xs)(hk:k=c.length):aaJ c=xs:=by
 have:=h.f
 rw[hk,fV,aed] at this
 exact this.symm
def afY(c:List LnQ):Bool:=if(((c.map eL).length:Nat):Int)=0 then true else decide ((0:Int)<((((aaJ c).map eL).length:Nat):Int))
theorem Cst.nil(c:List LnQ):Cst c 0 []:=⟨bQ _,rfl,fun m hm=>absurd hm (by simp),aM _⟩
theorem aoI{c:List LnQ}(hc: ∀m∈c,LB m)(hok: ∀m∈c,m.ok)(hn:c.length≤1000):PF GB prog 183 [.sl (c.map eL)] (.tp [.sl ((aaJ c).map eL),vB (afY c)]):=by
 have hcl:=aeX c
 refine fn (fu:=⟨16⟩) func183 J J ntmps183 J J (fun C=>?_)
 refine eqF 11 (.d (vI (c.length:Nat))) rfl (by rw[hcl];rfl) ?_
 refine gx rfl<|?_
 refine nlC 4 rfl ?_
 refine lp (X:=List LnQ×Nat) (fun⟨xs,k⟩=>[(12, .d (vI (k:Nat))),(11, .d (vI (c.length:Nat))),(10, .d (.sl (c.map eL))),(0, .d (.sl (c.map eL))),(4, .d (.sl (xs.map eL)))]) (fun⟨xs,k⟩=>[]) (fun⟨xs,k⟩=>Cst c k xs) (fun⟨xs,k⟩=>c.length-k) ⟨[],0⟩ rfl (Cst.nil c) (fun _=>rfl) (fun⟨xs,k⟩ hk=>?_)
 try dsimp only at hk⊢
 have hS:=hk
 refine br J J J (fun hc13=>?_) (fun hc13=>?_)
 ·
  have hk:k<c.length:=by omega
  obtain⟨m,hm⟩: ∃m,m=c[k]:=⟨_,rfl⟩
  haveI hmb:LB m:=hm▸hc _ (bN hk)
  have hmo:m.ok:=hm▸hok _ (bN hk)
  have hxl:=aeX xs
  have hxn:=hS.n
  refine ix (fu:=⟨1⟩) _ rfl (aeR hk) rfl<|?_
  refine eqF 16 (.d (eL m)) rfl (by rw[hm];rfl) ?_
  refine gx rfl<|cl rfl (ayQ hc hok hn hk) rfl<|?_
  refine bb (fu2:=⟨8⟩) J J J (fun hc24=>?_) (fun hc24=>?_)
  ·
   have hinv:Cst c (k+1) xs:=hS.skip hk (by rw[←adO];simpa using hc24)
   exact at_ ⟨xs,k+1⟩ (by dsimp only;exact⟨hinv,(by omega)⟩)
  ·
   have hyes:(acb c[k] c IvQ.all).isSome=true:=by rw[←adO];simpa using hc24
   refine mg (fu:=⟨6⟩) (X:=Unit) (fun _=>[(12, .d (vI (k:Nat))),(11, .d (vI (c.length:Nat))),(10, .d (.sl (c.map eL))),(0, .d (.sl (c.map eL))),(4, .d (.sl (xs.map eL))),(6, .ov 6 0),(9, .d (vI (aeg xs m:Nat)))]) (fun _=>[(6,some (.o 109 [.d ((.v (.bool (decide (m.a<0))))), .d (dN m.a.natAbs), .d ((.v (.bool (decide (m.b<0))))), .d (dN m.b.natAbs), .d ((.v (.bool (decide (m.c<0))))), .d (dN m.c.natAbs)] true))]) (fun _=>True) [12,11,10,0,4,6,9] [6] rfl ?_ (fun _=>rfl) (fun _ _=>?_)
   ·
    refine gx rfl<|?_
    refine lp (fu:=⟨6⟩) (X:=Nat) (fun n=>[(12, .d (vI (k:Nat))),(11, .d (vI (c.length:Nat))),(10, .d (.sl (c.map eL))),(0, .d (.sl (c.map eL))),(4, .d (.sl (xs.map eL))),(6, .ov 6 0),(9, .d (vI (n:Nat)))]) (fun n=>[(6,some (.o 109 [.d ((.v (.bool (decide (m.a<0))))), .d (dN m.a.natAbs), .d ((.v (.bool (decide (m.b<0))))), .d (dN m.b.natAbs), .d ((.v (.bool (decide (m.c<0))))), .d (dN m.c.natAbs)] true))]) (fun n=>n≤xs.length∧ ∀j (h:j<xs.length),j<n→aa7 xs[j].dir m.dir<0) (fun n=>xs.length-n) 0 rfl ⟨bQ _,fun j _ hj=>absurd hj (by omega)⟩ (fun _=>rfl) (fun n hk=>?_)
    obtain⟨n1,n2⟩:=hk
    refine csS J J J J (fun hg28=>?_) (fun hg28=>?_)
    ·
     refine ix _ rfl (aeR (by omega)) rfl<|?_
     haveI:LB (xs[n]'(by omega)):=hc _ (hS.m _ (bN _))
     refine cl rfl (ahn (l:=xs[n]'(by omega))) rfl<|cl rfl (ahn (l:=m)) rfl<|cl rfl (aCf (u:=(xs[n]'(by omega)).dir) (v:=m.dir)) rfl<|?_
     refine br J J J (fun hc39=>?_) (fun hc39=>?_)
     ·
      exact at_ (n+1) ⟨⟨by omega,fun j h hj=>by by_cases q:j=n;(subst q;exact hc39);exact n2 j h (by omega)⟩,(by omega)⟩
     ·
      have hidx:aeg xs m=n:=am7 n1 n2 (fun h=>hc39)
      exact at_ () trivial
    ·
     have hidx:aeg xs m=n:=am7 n1 n2 (fun h=>absurd h (by omega))
     exact at_ () trivial
   ·
    obtain⟨n,hnx⟩: ∃n,aeg xs m=n:=⟨_,rfl⟩
    rw[hnx]
    have hnl:n≤xs.length:=by rw[←hnx];unfold aeg;exact(List.takeWhile_sublist _).length_le
    have hcb: ∀m∈xs,LB m:=fun m hm=>hc m (hS.m m hm)
    refine csS J J J J (fun hg45=>?_) (fun hg45=>?_)
    ·
     refine ix _ rfl (aeR (by omega)) rfl<|cl rfl (aqt (l:=xs[n]'(by omega)) (m:=m) (hl:=hcb _ (bN (by omega)))) rfl<|?_
     refine br J J J (fun hc54=>?_) (fun hc54=>?_)
     ·
      have hn46:n<xs.length:=by omega
      have hinv:Cst c (k+1) xs:=hS.ins hk hyes (by rw[←hm];exact amC hnx hn46 ((agG _ m).1 hc54)) (by omega)
      exact at_ ⟨xs,k+1⟩ (by dsimp only;exact⟨hinv,(by omega)⟩)
     ·
      have hnew: ∀h:n<xs.length,xs[n]≠m:=fun h e=>hc54 ((agG _ m).2 e)
      obtain⟨ys,hys⟩: ∃ys,ys=xs.take n++m::xs.drop n:=⟨_,rfl⟩
      have hinv:Cst c (k+1) ys:=hS.ins hk hyes (by rw[←hm,aib hnx hnew,hys]) (by rw[hys];simp;omega)
      refine s3 n _ J J J J (acs _) (by rw[hxl];exact hnl) rfl<|ro J J<|sc' n xs.length _ J J (by rw[hxl]) rfl (acs _) hnl (by omega) rfl<|?_
      refine ap _ J J (atl _ _ _) rfl<|apf (hv:=by simp only[aah];exact⟨by kernel_rfl,by omega⟩) (ho:=fun _=>⟨azC _ _,by simp⟩) (ys.map eL) rfl (by rw[hys,bY,cX,gT,iL,aT (l:=xs.map eL) (i:=xs.length) (by simp)];rfl) (ayr _ _ _ _) rfl<|?_
      exact at_ ⟨ys,k+1⟩ (by dsimp only;exact⟨hinv,(by omega)⟩)
    ·
     have hnew: ∀h:n<xs.length,xs[n]≠m:=fun h=>absurd h (by omega)
     obtain⟨ys,hys⟩: ∃ys,ys=xs.take n++m::xs.drop n:=⟨_,rfl⟩
     have hinv:Cst c (k+1) ys:=hS.ins hk hyes (by rw[←hm,aib hnx hnew,hys]) (by rw[hys];simp;omega)
     refine s3 n _ J J J J (acs _) (by rw[hxl];exact hnl) rfl<|ro J J<|sc' n xs.length _ J J (by rw[hxl]) rfl (acs _) hnl (by omega) rfl<|?_
     refine ap _ J J (atl _ _ _) rfl<|apf (hv:=by simp only[aah];exact⟨by kernel_rfl,by omega⟩) (ho:=fun _=>⟨azC _ _,by simp⟩) (ys.map eL) rfl (by rw[hys,bY,cX,gT,iL,aT (l:=xs.map eL) (i:=xs.length) (by simp)];rfl) (ayr _ _ _ _) rfl<|?_
     exact at_ ⟨ys,k+1⟩ (by dsimp only;exact⟨hinv,(by omega)⟩)
 ·
  have hfin:aaJ c=xs:=hS.done (by have:=hS.le;omega)
  refine cs 71 J J J (fun hg71=>?_) (fun hg71=>?_)
  ·
   exact rz rfl (by rw[afY,if_pos hg71,hfin];rfl)
  ·
   exact rz rfl (by rw[afY,if_neg hg71,hfin];rfl)
section
variable {α:Type} (c:α→α→Int)
def afS(x:α):List α→List α
 |[]=>[x]
 |u::t=>if c u x<0 then u::afS x t else if c u x=0 then u::t else x::u::t
def al5(x:α)(xs:List α):Nat:=(xs.takeWhile fun u=>decide (c u x<0)).length
theorem alM(x:α)(xs:List α):al5 c x xs≤xs.length:=(List.takeWhile_sublist _).length_le
theorem afe{x:α}{xs:List α}{n:Nat}(h1:n≤xs.length)(h2: ∀j (h:j<xs.length),j<n→c xs[j] x<0)(h3: ∀h:n<xs.length,¬c xs[n] x<0):al5 c x xs=n:=
 ae3 h1 (fun j h hj=>decide_eq_true (h2 j h hj)) (fun h=>decide_eq_false (h3 h))
theorem ahk{x:α}: ∀{xs:List α} {n:Nat},al5 c x xs=n→(h:n<xs.length)→c xs[n] x=0→afS c x xs=xs
 |[],n,_,h,_=>by simp at h
 |u::t,n,hn,h,e=>by
  rw[afS]
  unfold al5 at hn
  rw[nR] at hn
  by_cases hu:c u x<0
  ·rw[if_pos hu]
   rw[if_pos (by simpa using hu)] at hn
   obtain⟨k,rfl⟩: ∃k,n=k+1:=⟨n-1,by simp at hn;omega⟩
   rw[ahk (xs:=t) (n:=k) (by unfold al5;simpa using hn) (by simpa using h) (by simpa using e)]
  ·rw[if_neg (by simpa using hu)] at hn
   simp at hn;subst hn
   rw[if_neg hu,if_pos (by simpa using e)]
theorem adt{x:α}: ∀{xs:List α} {n:Nat},al5 c x xs=n→(∀h:n<xs.length,c xs[n] x≠0)→afS c x xs=xs.take n++x::xs.drop n
 |[],n,hn,_=>by simp[al5] at hn;subst hn;rfl
 |u::t,n,hn,e=>by
  rw[afS]
  unfold al5 at hn
  rw[nR] at hn
  by_cases hu:c u x<0
  ·rw[if_pos hu]
   rw[if_pos (by simpa using hu)] at hn
   obtain⟨k,rfl⟩: ∃k,n=k+1:=⟨n-1,by simp at hn;omega⟩
   rw[adt (xs:=t) (n:=k) (by unfold al5;simpa using hn) (fun h=>by have:=e (by simpa using h);simpa using this)]
   simp
  ·rw[if_neg (by simpa using hu)] at hn
   simp at hn;subst hn
   have:=e (by simp)
   rw[if_neg hu,if_neg (by simpa using this)];rfl
theorem aiB(x:α): ∀(xs:List α),(afS c x xs).length≤xs.length+1
 |[]=>aM _
 |u::t=>by
  have:=aiB x t
  rw[afS]
  split
  ·simp;omega
  ·split<;>simp
theorem aqE{x y:α}: ∀{xs:List α},y∈afS c x xs→y=x∨y∈xs
 |[],h=>by rw[afS,aV] at h;exact .inl h
 |u::t,h=>by
  rw[afS] at h
  split at h
  ·rcases aR.1 h with rfl|h
   ·exact .inr aZ
   ·rcases aqE h with h|h
    ·exact .inl h
    ·exact .inr (aK _ h)
  ·split at h
   ·exact .inr h
   ·rcases aR.1 h with rfl|h
    ·exact .inl rfl
    ·exact .inr h
def amp(l:List α):List α:=l.foldl (fun out x=>afS c x out) []
theorem anR: ∀(l o:List α),(l.foldl (fun out x=>afS c x out) o).length≤l.length+o.length
 |[],o=>by simp
 |x::t,o=>by
  have:=anR t (afS c x o)
  have:=aiB c x o
  simp only[jW,bW];omega
theorem am0{y:α}: ∀{l o:List α},y∈l.foldl (fun out x=>afS c x out) o→y∈l∨y∈o
 |[],o,h=> .inr h
 |x::t,o,h=>by
  rcases am0 (l:=t) h with h|h
  ·exact .inl (aK _ h)
  ·rcases aqE c h with rfl|h
   ·exact .inl aZ
   ·exact .inr h
end
theorem anD{x:Rat}: ∀{l:List Rat},aoH x l=afS aa9 x l
 |[]=>rfl
 |u::t=>by
  have e1:aa9 u x<0↔u<x:=afp u x
  have e2:aa9 u x=0↔u=x:=aeU u x
  rw[aoH,afS,anD (l:=t)]
  by_cases h:u<x
  ·rw[if_pos h,if_pos (e1.2 h)]
  ·rw[if_neg h,if_neg (fun e=>h (e1.1 e))]
   by_cases h2:u=x
   ·rw[if_pos h2,if_pos (e2.2 h2)]
   ·rw[if_neg h2,if_neg (fun e=>h2 (e2.1 e))]
theorem abp{α β:Type}{f:α→β}{l:List α}{k:Nat}{x:α}(h:l[k]? =some x):(l.take k).map f++[f x]=(l.take (k+1)).map f:=by
 rw[iX,h,bY];rfl
theorem aGE{n i:Nat}[h:BN n i](hi:i≤20000:=by decide):PF GB prog 106 [dN n] (dN n):=by
 have hl:=aa3 h.h
 have:=aHs (GB:=GB) (ds:=dg n) (ae8 n) (by omega)
 rw[aaQ,←aAX] at this;exact this
theorem aye(z:Int):ah0 (decide (z<0)) (dg z.natAbs)=z:=by
 unfold ah0
 rw[aaQ]
 split<;>(rename_i h;simp at h;omega)
theorem aGk{z:Int}{i:Nat}[h:BI z i](hi:i≤20000:=by decide):PF GB prog 107 [eI z] (eI z):=by
 have hl:=aa3 h.h
 have:=aIr (GB:=GB) (neg:=decide (z<0)) (ds:=dg z.natAbs) (ae8 _) (by omega)
 rw[aye,←aAX] at this;exact this
theorem aGB{n:Nat}(h:0<n): ¬((((dg n).map dU).length:Nat):Int)=0:=by
 rw[aJ]
 have:=acz (n:=n)
 omega
instance BQ.m1':BQ (((-1:Int):Int):Rat) 2:=⟨by decide,by decide⟩
instance BQ.m1:BQ (-1:Rat) 2:=⟨by decide,by decide⟩
theorem aFH{q:Rat}{i:Nat}[h:BQ q i](hi:i≤20000:=by decide):PF GB prog 42 [eR q] (eQ q):=by
 have hd:=q.den_pos
 refine fn func42 J J ntmps42 J J (fun C=>?_)
 refine cl (fu:=⟨8⟩) rfl (aGE (n:=q.den) hi) rfl<|knF rfl (by show some (decide _)=some false;rw[decide_eq_false (aGB hd)]) rfl<|cl rfl (aGk (z:=q.num) hi) rfl<|?_
 refine cl rfl (ai0 (x:=q.num) (d:=q.den) hd (by omega) (by omega)) rfl<|?_
 exact rz rfl (by rw[Rat.mkRat_self];rfl)
theorem amy{q:Rat}{i:Nat}[h:BQ q i](hi:i≤400000000:=by decide):PF GB prog 79 [eQ q] (eR q):=by
 refine fn func79 J J ntmps79 J J (fun C=>?_)
 refine cl rfl (aw2 (z:=q.num) hi) rfl<|cl rfl (ae9 (q:=q)) rfl<|cl rfl (aDS (a:=q.den) hi) rfl<|?_
 exact rz J J
theorem aIs{p:PtQ}{i:Nat}[h:BPt p i](hi:i≤20000:=by decide):PF GB prog 45 [ePt p] (eP p):=by
 refine fn func45 J J ntmps45 J J (fun C=>?_)
 refine cl rfl (aFH (q:=p.x) hi) rfl<|cl rfl (aFH (q:=p.y) hi) rfl<|?_
 exact rz J J
theorem aGb{p:PtQ}{i:Nat}[h:BPt p i](hi:i≤20000:=by decide):PF GB prog 25 [eP p] (ePt p):=by
 refine fn func25 J J ntmps25 J J (fun C=>?_)
 refine cl rfl (amy (q:=p.x) (i:=i) (by omega)) rfl<|cl rfl (amy (q:=p.y) (i:=i) (by omega)) rfl<|?_
 exact rz J J
theorem aaI{α:Type}(f:α→DV)(l:List α):(l.map f).length=l.length:=aJ ..
theorem aji(ps:List PtQ):adl 6 (ps.map eP):=fun d hd=>by
 obtain⟨u,_,rfl⟩:=bK.1 hd;exact⟨rfl,rfl⟩
theorem aEv(ps:List PtQ):adl 6 (ps.map ePt):=fun d hd=>by
 obtain⟨u,_,rfl⟩:=bK.1 hd;exact⟨rfl,rfl⟩
theorem aF8{ps:List PtQ}(hb: ∀p∈ps,BPt p 1200)(hn:ps.length≤1000000):PF GB prog 135 [.sl (ps.map ePt)] (.sl (ps.map eP)):=by
 have hm:=aaI ePt ps
 refine fn (fu:=⟨15⟩) func135 J J ntmps135 J J (fun C=>?_)
 refine eqF 7 (.d (vI (ps.length:Nat))) rfl (by rw[hm]<;>rfl) ?_
 refine gx rfl<|?_
 refine nr 3 3 54 6 J J J ?_
 refine lp (X:=Nat) (fun k=>[(8, .d (vI (k:Nat))),(3, .rw 3)]) (fun k=>[(3,some (.b 54 6 ((ps.take k).map eP) true))]) (fun k=>k≤ps.length) (fun k=>ps.length-k) 0 rfl (bQ _) (fun _=>rfl) (fun k hk=>?_)
 have hml:=aaI eP (ps.take k)
 rw[cR] at hml
 refine br J J J (fun hc9=>?_) (fun hc9=>?_)
 ·
  obtain⟨z,hz⟩: ∃s,ps[k]? =some s:=⟨_,aQ (by omega)⟩
  have hzm:=aY hz
  refine ix _ rfl (aas hz) rfl<|cl rfl (aIs (p:=z) (h:=hb z hzm)) rfl<|rf J J<|ap ((ps.take (k+1)).map eP) rfl (abp hz) (aji [z]) rfl<|?_
  refine rnE 16 3 rfl ?_
  exact at_ (k+1) ⟨(by omega),(by omega)⟩
 ·
  obtain rfl:k=ps.length:=by omega
  refine fzE 3 rfl ?_
  exact rz rfl (by rw[dX];rfl)
theorem ay2{ps:List PtQ}(hb: ∀p∈ps,BPt p 1200)(hn:ps.length≤1000000):PF GB prog 63 [.sl (ps.map eP)] (.sl (ps.map ePt)):=by
 have hm:=aaI eP ps
 refine fn (fu:=⟨15⟩) func63 J J ntmps63 J J (fun C=>?_)
 refine eqF 7 (.d (vI (ps.length:Nat))) rfl (by rw[hm]<;>rfl) ?_
 refine gx rfl<|?_
 refine nr 3 3 65 6 J J J ?_
 refine lp (X:=Nat) (fun k=>[(8, .d (vI (k:Nat))),(3, .rw 3)]) (fun k=>[(3,some (.b 65 6 ((ps.take k).map ePt) true))]) (fun k=>k≤ps.length) (fun k=>ps.length-k) 0 rfl (bQ _) (fun _=>rfl) (fun k hk=>?_)
 have hml:=aaI ePt (ps.take k)
 rw[cR] at hml
 refine br J J J (fun hc9=>?_) (fun hc9=>?_)
 ·
  obtain⟨z,hz⟩: ∃s,ps[k]? =some s:=⟨_,aQ (by omega)⟩
  have hzm:=aY hz
  refine ix _ rfl (aas hz) rfl<|cl rfl (aGb (p:=z) (h:=hb z hzm)) rfl<|rf J J<|ap ((ps.take (k+1)).map ePt) rfl (abp hz) (aEv [z]) rfl<|?_
  refine rnE 16 3 rfl ?_
  exact at_ (k+1) ⟨(by omega),(by omega)⟩
 ·
  obtain rfl:k=ps.length:=by omega
  refine fzE 3 rfl ?_
  exact rz rfl (by rw[dX];rfl)
theorem ayJ{p q:PtQ}{i j:Nat}[hp:BPt p i][hq:BPt q j](hi:i≤100000:=by decide)(hj:j≤100000:=by decide):PF GB prog 185 [eP p,eP q] (eP (adv p q (-1))):=by
 refine fn func185 J J ntmps185 J J (fun C=>?_)
 refine cl rfl (amw (n:= -1) (by decide) (by decide)) rfl<|cl rfl (anX (p:=p) (q:=q) (c:=((-1:Int):Rat)) (i:=i) (j:=j) (k:=2) (by omega) (by omega)) rfl<|?_
 exact rz rfl (by rw[show((-1:Int):Rat)= -1 from rfl];rfl)
theorem aqT{a b c:PtQ}{i j k:Nat}[ha:BPt a i][hb:BPt b j][hc:BPt c k](hi:i≤80000:=by decide)(hj:j≤80000:=by decide)(hk:k≤80000:=by decide):PF GB prog 288 [eP a,eP b,eP c] (vI (ahX a b c)):=by
 refine fn func288 J J ntmps288 J J (fun C=>?_)
 refine cl rfl (ayJ (p:=b) (q:=a) (i:=j) (j:=i) (by omega) (by omega)) rfl<|cl rfl (ayJ (p:=c) (q:=a) (i:=k) (j:=i) (by omega) (by omega)) rfl<|?_
 refine cl rfl (ahG (p:=adv b a (-1)) (q:=adv c a (-1)) (by omega) (by omega)) rfl<|cl rfl (q_S (q:=(adv b a (-1)).cross (adv c a (-1)))) rfl<|?_
 exact rz J J
def agN(p q:PtQ):Int:=if aa9 p.x q.x≠0 then aa9 p.x q.x else aa9 p.y q.y
theorem akW{p q:PtQ}{i j:Nat}[hp:BPt p i][hq:BPt q j](hi:i≤100000:=by decide)(hj:j≤100000:=by decide):PF GB prog 244 [eP p,eP q] (vI (agN p q)):=by
 refine fn func244 J J ntmps244 J J (fun C=>?_)
 refine cl rfl (q_C (a:=p.x) (b:=q.x) (by omega) (by omega)) rfl<|?_
 refine br J J J (fun hc12=>?_) (fun hc12=>?_)
 ·
  exact rz rfl (by unfold agN;rw[if_pos hc12];rfl)
 ·
  refine cl rfl (q_C (a:=p.y) (b:=q.y) (by omega) (by omega)) rfl<|?_
  exact rz rfl (by unfold agN;rw[if_neg hc12];rfl)
def aBf(l:LnQ):Bool:=decide (l.a<0∨(l.a=0∧l.b<0))
def LnQ.canon(l:LnQ):LnQ:=if aBf l then l.rev else l
theorem agu(a:Int):a.sign<0↔a<0:=by
 rcases rX a 0 with h|h|h
 ·rw[fM h];omega
 ·subst h;simp
 ·rw[gS h];omega
theorem anN(a:Int):a.sign=0↔a=0:=jX
theorem ayu{l:LnQ}(h:l.a<0∨(l.a=0∧l.b<0)):DV.tp [eL l.canon,vB (aBf l)]= .tp [eL l.rev,vB true]:=by
 unfold LnQ.canon aBf;rw[decide_eq_true h];rfl
theorem avA{l:LnQ}(h: ¬(l.a<0∨(l.a=0∧l.b<0))):DV.tp [eL l.canon,vB (aBf l)]= .tp [eL l,vB false]:=by
 unfold LnQ.canon aBf;rw[decide_eq_false h];rfl
theorem awl{l:LnQ}[hl:LB l]:PF GB prog 194 [eL l] (.tp [eL l.canon,vB (aBf l)]):=by
 refine fn func194 J J ntmps194 J J (fun C=>?_)
 refine cl rfl (aq1 (z:=l.a)) rfl<|?_
 refine cs 10 J J J (fun hg10=>?_) (fun hg10=>?_)
 ·
  refine cl rfl (ajO (l:=l)) rfl<|?_
  exact rz rfl (by rw[ayu (.inl ((agu _).1 hg10))];rfl)
 ·
  refine cs 13 J J J (fun hg13=>?_) (fun hg13=>?_)
  ·
   refine cl rfl (aq1 (z:=l.b)) rfl<|?_
   refine br J J J (fun hc19=>?_) (fun hc19=>?_)
   ·
    refine cl rfl (ajO (l:=l)) rfl<|?_
    exact rz rfl (by rw[ayu (.inr ⟨(anN _).1 hg13,(agu _).1 hc19⟩)];rfl)
   ·
    exact rz rfl (by rw[avA (fun e=>e.elim (fun e=>hg10 ((agu _).2 e)) (fun e=>hc19 ((agu _).2 e.2)))];rfl)
  ·
   exact rz rfl (by rw[avA (fun e=>e.elim (fun e=>hg10 ((agu _).2 e)) (fun e=>hg13 ((anN _).2 e.1)))];rfl)
instance LB.canon (l:LnQ) [h:LB l]:LB l.canon:=by unfold LnQ.canon;split;exact LB.rev h;exact h
end Go.Sx
end
