import Derived.Test.YtidmgdlbilojcaaGreatDoorMa14
set_option linter.all false
set_option maxHeartbeats 4000000
set_option maxRecDepth 100000
section
namespace Go.Sx
open Go Go.Proofs Tryz
variable {GB:Gh}
def Yw{p q r:Bool}{a b c:Nat}(h:Nat.gcd a b≠0):aa.ok ⟨zv p (a/Nat.gcd (Nat.gcd a b) c),zv q (b/Nat.gcd (Nat.gcd a b) c),zv r (c/Nat.gcd (Nat.gcd a b) c)⟩:=by
 have hg:0<Nat.gcd (Nat.gcd a b) c:=oK _ (iM h);have d0:Nat.gcd (Nat.gcd a b) c∣Nat.gcd a b:=mS _ _;have d1:Nat.gcd (Nat.gcd a b) c∣a:=sJ d0 (mS _ _);have d2:Nat.gcd (Nat.gcd a b) c∣b:=sJ d0 (nU _ _);have d3:Nat.gcd (Nat.gcd a b) c∣c:=nU _ _;refine⟨?_,?_⟩
 ·rintro ⟨h1,h2⟩
  have h1':=congrArg Int.natAbs h1;have h2':=congrArg Int.natAbs h2;simp only[sB,kL] at h1' h2';have e1:=Nat.div_mul_cancel d1;have e2:=Nat.div_mul_cancel d2;rw[h1',kY] at e1;rw[h2',kY] at e2;exact h (by rw[<-e1,<-e2];rfl)
 ·simp only[sB]
  rw[Nat.gcd_div d1 d2,Nat.gcd_div d0 d3,Nat.div_self hg]
def FP(p:Bool)(a g:Nat):(zv p (a/g)).natAbs<=a:=by rw[sB];exact kR ..
def PF.eq{P:Program}{f:FuncId}{vs:List DV}{r r':DV}(h:PF GB P f vs r)(e:r=r'):PF GB P f vs r':=e▸h
def iP(m n:Int):ab:=⟨(m:Rat),(n:Rat)⟩
theorem CV{m:Int}{k:Nat}(h:m.natAbs<2^k):BI m k:=⟨h⟩
theorem je{m:Int}{k:Nat}(h:m.natAbs<=1000)(hk:10<=k):BI m k:=⟨dJ (show m.natAbs<2^10 by omega) (bY (by decide) hk)⟩
instance aO.int (m n:Int) (i:Nat) [h:BI m i] [k:BI n i]:aO (iP m n) (i+1):=⟨inferInstanceAs (BQ (m:Rat) (i+1)),inferInstanceAs (BQ (n:Rat) (i+1))⟩
def ur{q:Rat}{k:Int}(h:q=(k:Rat)):eQ q=eQ (k:Rat):=by rw[h]
def ePI{p:ab}{m n:Int}(h1:p.x=(m:Rat))(h2:p.y=(n:Rat)):eP p=eP (iP m n):=by
 obtain⟨x,y⟩:=p;simp only at h1 h2;subst h1 h2;rfl
def qe(a b c:Int):aa:=
 ⟨zv (decide (a<0)) (a.natAbs/Nat.gcd (Nat.gcd a.natAbs b.natAbs) c.natAbs),zv (decide (b<0)) (b.natAbs/Nat.gcd (Nat.gcd a.natAbs b.natAbs) c.natAbs),zv (decide (c<0)) (c.natAbs/Nat.gcd (Nat.gcd a.natAbs b.natAbs) c.natAbs)⟩
def WK{a b c:Int}(h: ¬(a=0/\b=0)):(qe a b c).ok:=
 Yw fun e=>h ⟨nQ.1 (nL e),nQ.1 (nR e)⟩
def Su(a b c:Int):(qe a b c).a.natAbs<=a.natAbs/\(qe a b c).b.natAbs<=b.natAbs/\(qe a b c).c.natAbs<=c.natAbs:=⟨FP ..,FP ..,FP ..⟩
def lG{m n:Int}(hm:m.natAbs<=1000)(hn:n.natAbs<=1000):PF GB prog 57 [.v (.int .i64 m), .v (.int .i64 n)] (eP (iP m n)):=by
 refine fn func57 J J ntmps57 J J (fun C=>?_);refine cl J (lc (n:=m) (by omega) (by omega)) J<|cl J (lc (n:=n) (by omega) (by omega)) J<|?_;exact rz J J
def I2{m n m' n' k:Int}(hm:m.natAbs<=1000)(hn:n.natAbs<=1000)(hm':m'.natAbs<=1000)(hn':n'.natAbs<=1000)(hk:k.natAbs<=1000):PF GB prog 22 [eP (iP m n),eQ (k:Rat),eP (iP m' n')] (eP (iP (m+k*m') (n+k*n'))):=by
 haveI:=je (k:=10) hm (by decide);haveI:=je (k:=10) hn (by decide);haveI:=je (k:=10) hm' (by decide);haveI:=je (k:=10) hn' (by decide);haveI:=je (k:=10) hk (by decide);exact PF.eq (yq (p:=iP m n) (q:=iP m' n') (c:=(k:Rat))) (ePI (by show(m:Rat)+(k:Rat)*(m':Rat)=_;push_cast;rfl) (by show(n:Rat)+(k:Rat)*(n':Rat)=_;push_cast;rfl))
def aDS{m n m' n':Int}(hm:m.natAbs<=1000)(hn:n.natAbs<=1000)(hm':m'.natAbs<=1000)(hn':n'.natAbs<=1000):PF GB prog 275 [eP (iP m n),eP (iP m' n')] (eP (iP (m-m') (n-n'))):=by
 refine fn func275 J J ntmps275 J J (fun C=>?_);refine cl J (lc (n:= -1) (by decide) (by decide)) J<|cl J (I2 (m:=m) (n:=n) (m':=m') (n':=n') (k:= -1) hm hn hm' hn' (by decide)) J<|?_;exact rz J (by rw[show m-m'=m+ -1*m' by omega,show n-n'=n+ -1*n' by omega];rfl)
def DK{m n m' n':Int}(hm:m.natAbs<=1000)(hn:n.natAbs<=1000)(hm':m'.natAbs<=1000)(hn':n'.natAbs<=1000):PF GB prog 24 [eP (iP m n),eP (iP m' n')] (.v (.bool (decide (m=m'/\n=n')))):=by
 haveI:=je (k:=10) hm (by decide);haveI:=je (k:=10) hn (by decide);haveI:=je (k:=10) hm' (by decide);haveI:=je (k:=10) hn' (by decide);refine fn func24 J J ntmps24 J J (fun C=>?_);refine cl J (lu (a:=(m:Rat)) (b:=(m':Rat))) J<|?_;refine cs 11 J J J (fun hg11=>?_) (fun hg11=>?_)
 .
  refine cl J (lu (a:=(n:Rat)) (b:=(n':Rat))) J<|?_;exact rz J (by rw[tw] at hg11;have e:m=m':=(by exact_mod_cast hg11);exact congrArg (fun z=>DV.v (.bool z)) (decide_eq_decide.2 (by rw[tw,nW];simp[e])))
 .
  exact rz J (by rw[tw] at hg11;have e: ¬m=m':=(fun e=>hg11 (by rw[e]));show DV.v (.bool false)=DV.v (.bool _);rw[decide_eq_false (fun h=>e h.1)])
def Qe{a b k:Nat}(ha:a<k)(hb:b<k):Nat.gcd a b<k:=by
 rcases fR a with rfl|p
 ·simpa using hb
 ·exact fJ (Nat.gcd_le_left b p) ha
def TX{a b c:Int}{i:Nat}(ha:BI a i)(hb:BI b i)(hc:BI c i)(hi:i<=100000000)(h0: ¬(a=0/\b=0)):PF GB prog 276 [eI a,eI b,eI c] (.tp [eL (qe a b c), .v (.bool true)]):=by
 have hgn:Nat.gcd a.natAbs b.natAbs≠0:=fun h=>h0 ⟨nQ.1 (nL h),nQ.1 (nR h)⟩;have hgp:0<Nat.gcd (Nat.gcd a.natAbs b.natAbs) c.natAbs:=oK _ (iM hgn);haveI hb1:BN (Nat.gcd a.natAbs b.natAbs) i:=⟨Qe ha.h hb.h⟩;haveI hb2:BN (Nat.gcd (Nat.gcd a.natAbs b.natAbs) c.natAbs) i:=⟨Qe hb1.h hc.h⟩;refine fn func276 J J ntmps276 J J (fun C=>?_);refine cl J (IB (a:=a.natAbs) (b:=b.natAbs) (by omega) (by omega)) J<|?_;refine br J J J (fun hc22=>?_) (fun hc22=>?_)
 .
  exact absurd hc22 (by rw[aK];intro h;exact hgn (vW.1 (by omega)))
 .
  refine cl J (IB (a:=Nat.gcd a.natAbs b.natAbs) (b:=c.natAbs) (by omega) (by omega)) J<|cl J (x6 (a:=a.natAbs) (b:=Nat.gcd (Nat.gcd a.natAbs b.natAbs) c.natAbs) hgp (by omega) (by omega)) J<|?_;refine cl J (x6 (a:=b.natAbs) (b:=Nat.gcd (Nat.gcd a.natAbs b.natAbs) c.natAbs) hgp (by omega) (by omega)) J<|cl J (x6 (a:=c.natAbs) (b:=Nat.gcd (Nat.gcd a.natAbs b.natAbs) c.natAbs) hgp (by omega) (by omega)) J<|?_;refine cl J (ku (m:=a.natAbs/(Nat.gcd (Nat.gcd a.natAbs b.natAbs) c.natAbs)) (neg:=decide (a<0))) J<|cl J (ku (m:=b.natAbs/(Nat.gcd (Nat.gcd a.natAbs b.natAbs) c.natAbs)) (neg:=decide (b<0))) J<|?_;refine cl J (ku (m:=c.natAbs/(Nat.gcd (Nat.gcd a.natAbs b.natAbs) c.natAbs)) (neg:=decide (c<0))) J<|?_;exact rz J J
def pD(n n':Int):Int:= -(n'-n)
def pu(m m':Int):Int:=m'-m
def wA(m n m' n':Int):Int:= -(pD n n'*m+pu m m'*n)
def mh(m n m' n':Int):aa:=qe (pD n n') (pu m m') (wA m n m' n')
def Dt{a b:Int}(ha:a.natAbs<=2000)(hb:b.natAbs<=1000):(a*b).natAbs<=2000000:=by
 rw[jK];exact gW ha hb
def YG{m n m' n':Int}(hm:m.natAbs<=1000)(hn:n.natAbs<=1000)(hm':m'.natAbs<=1000)(hn':n'.natAbs<=1000)(h0: ¬(m=m'/\n=n')):PF GB prog 234 [eP (iP m n),eP (iP m' n')] (.tp [eL (mh m n m' n'), .v (.bool true)]):=by
 obtain⟨a,hA⟩: ∃a,a=pD n n':=⟨_,rfl⟩;obtain⟨b,hB⟩: ∃b,b=pu m m':=⟨_,rfl⟩;have hA':a= -(n'-n):=hA;have hB':b=m'-m:=hB;obtain⟨c,hC⟩: ∃c,c= -(a*m+b*n):=⟨_,rfl⟩;have e1:=Dt (a:=a) (b:=m) (by omega) hm;have e2:=Dt (a:=b) (b:=n) (by omega) hn;haveI hm0:=je (k:=10) hm (by decide);haveI hn0:=je (k:=10) hn (by decide);haveI ha:BI a 30:=CV (by omega);haveI hb:BI b 30:=CV (by omega);haveI hc:BI c 30:=CV (by omega);have hthr:mh m n m' n'=qe a b c:=by rw[hC,hA,hB];rfl
 have hne: ¬(a=0/\b=0):=fun h=>h0 (by omega);refine fn func234 J J ntmps234 J J (fun C=>?_);refine cl J (aDS (m:=m') (n:=n') (m':=m) (n':=n) hm' hn' hm hn) J<|cl J (PF.eq (wF (q:=(((n'-n):Int):Rat))) (ur (k:=a) (by rw[hA'];push_cast;rfl))) J<|?_;refine cl J (PF.eq (i6 (a:=(a:Rat)) (b:=(m:Rat))) (ur (k:=a*m) (by push_cast;rfl))) J<|cl J (PF.eq (by haveI:BI (m'-m) 30:=(by rw[<-hB'];exact hb);exact i6 (a:=(((m'-m):Int):Rat)) (b:=(n:Rat))) (ur (k:=b*n) (by rw[hB'];push_cast;rfl))) J<|?_;refine cl J (PF.eq (oD (a:=((a*m:Int):Rat)) (b:=((b*n:Int):Rat))) (ur (k:=a*m+b*n) (by push_cast;rfl))) J<|cl J (PF.eq (wF (q:=((a*m+b*n:Int):Rat))) (ur (k:=c) (by rw[hC];push_cast;rfl))) J<|?_;refine cl J (kO (q:=(a:Rat))) J<|cl J (kO (q:=(((m'-m):Int):Rat))) J<|cl J (PF.eq (sC (a:=1) (b:=1)) J) J<|?_;refine cl J (kO (q:=(c:Rat))) J<|cl J (PF.eq (sC (a:=1) (b:=1)) J) J<|cl (fu:=⟨1⟩) J (ku (neg:=false) (m:=1)) J<|?_;refine aj 40 (.d (eQ ((1:Int):Rat))) J J ?_;refine gx J<|cl J (PF.eq (i6 (a:=(a:Rat)) (b:=((1:Int):Rat))) (ur (k:=a) (by push_cast;grind))) J<|cl J (PF.eq (by haveI:BI (m'-m) 30:=(by rw[<-hB'];exact hb);exact i6 (a:=(((m'-m):Int):Rat)) (b:=((1:Int):Rat))) (ur (k:=b) (by rw[hB'];push_cast;grind))) J<|?_;refine cl J (PF.eq (i6 (a:=(c:Rat)) (b:=((1:Int):Rat))) (ur (k:=c) (by push_cast;grind))) J<|cl J (TX (a:=a) (b:=b) (c:=c) ha hb hc (by decide) hne) J<|?_;exact rz J (by rw[hthr];rfl)
def Xy{es:List Int}{a:Nat}(h:a<es.length):(es.map vI)[(a:Int).toNat]? =some (vI es[a]):=by simp[h]
def ayy:eP (iP 0 0)= .ag [.v (.bool false), .sl [], .sl [], .v (.bool false), .sl [], .sl []]:=by
 unfold eP iP;simp[oE,dD]
def aw(es:List Int)(n:Int)(a:Nat):Nat×Nat:=
 if h:a<es.length then((if Int.tmod es[a] n<0 then Int.tmod es[a] n+n else Int.tmod es[a] n).toNat,a+1) else(0,a)
def mn{es:List Int}{n:Int}{a:Nat}(hn:1<=n):((aw es n a).1:Int)<n:=by
 unfold aw;split
 ·rename_i h
  have q2:=Int.tmod_lt_of_pos es[a] (show 0<n by omega);dsimp only;split<;>omega
 ·exact hn
def iA{es:List Int}{n:Int}{a:Nat}(ha:a<=es.length):(aw es n a).2<=es.length:=by
 unfold aw;split
 ·assumption
 ·exact ha
def pF(es:List Int)(a:Nat):(Int×Int)×Nat:=((((aw es 9 a).1:Int)-4,((aw es 9 (aw es 9 a).2).1:Int)-4),(aw es 9 (aw es 9 a).2).2)
def xv{es:List Int}{a:Nat}(ha:a<=es.length):(pF es a).1.1.natAbs<=4/\(pF es a).1.2.natAbs<=4/\(pF es a).2<=es.length:=by
 have h1:=mn (es:=es) (n:=9) (a:=a) (by decide);have h2:=mn (es:=es) (n:=9) (a:=(aw es 9 a).2) (by decide);have h3:=iA (n:=9) (iA (es:=es) (n:=9) ha);unfold pF;exact⟨by dsimp only;omega,by dsimp only;omega,h3⟩
def vF(es:List Int)(a:Nat):(Int×Int)×Nat:=if(pF es a).1.1=0/\(pF es a).1.2=0 then((1,0),(pF es a).2) else pF es a
def Dy{es:List Int}{a:Nat}(ha:a<=es.length):(vF es a).1.1.natAbs<=4/\(vF es a).1.2.natAbs<=4/\ ¬((vF es a).1.1=0/\(vF es a).1.2=0)/\(vF es a).2<=es.length:=by
 obtain⟨h1,h2,h3⟩:=xv ha;unfold vF;split
 ·exact⟨show(1:Int).natAbs<=4 by decide,show(0:Int).natAbs<=4 by decide,show¬((1:Int)=0/\(0:Int)=0) by decide,h3⟩
 ·rename_i h;exact⟨h1,h2,h,h3⟩
def lF(es:List Int)(a:Nat):aa×Nat:=(mh (pF es a).1.1 (pF es a).1.2 ((pF es a).1.1+1*(vF es (pF es a).2).1.1) ((pF es a).1.2+1*(vF es (pF es a).2).1.2),(vF es (pF es a).2).2)
def m8(es:List Int):Nat->Nat->Tr×Nat
 |0,a=>(.leaf (decide (((aw es 2 a).1:Int)=1)),(aw es 2 a).2)
 |d+1,a=>if((aw es 4 a).1:Int)=0 then(.leaf (decide (((aw es 2 (aw es 4 a).2).1:Int)=1)),(aw es 2 (aw es 4 a).2).2) else
  (.node (lF es (aw es 4 a).2).1 (m8 es d (lF es (aw es 4 a).2).2).1 (m8 es d (m8 es d (lF es (aw es 4 a).2).2).2).1,(m8 es d (m8 es d (lF es (aw es 4 a).2).2).2).2)
def pj{b:Nat}{es:List Int}(hes:es.length<=400){a:Nat}(ha:a<=es.length){n:Int}(hn:1<=n)(hn2:n<=1000):PM GB prog 35 (jj [none,some (.v (.int .i64 n))] b) b 87 [.sl (es.map vI), .v (.int .i64 (a:Nat))] (.v (.int .i64 ((aw es n a).1:Nat))) [.sl (es.map vI), .v (.int .i64 ((aw es n a).2:Nat))]:=by
 have hel:(es.map vI).length=es.length:=by simp
 refine vZ func35 J J ntmps35 J J (fun C b m lo hmb=>?_);refine br J J J (fun hc15=>?_) (fun hc15=>?_)
 .
  have hf:aw es n a=(0,a):=by unfold aw;rw[dif_neg (by omega)]
  exact mj hmb J J (by rw[hf]<;>rfl) (by rw[hf]<;>rfl)
 .
  have hal:a<es.length:=by omega
  obtain⟨e,he⟩: ∃e,e=es[a]:=⟨_,rfl⟩;have q2:=Int.tmod_lt_of_pos e (show 0<n by omega);have q3: -n<Int.tmod e n:=by have:=Int.lt_tmod_of_pos e (show 0<n by omega);omega
  refine ix (fu:=⟨1⟩) _ J (Xy hal) J<|?_;refine aj 25 (.d (vI e)) J (by rw[he]<;>rfl) ?_;refine gx (hv:=by simp only[ac];exact⟨⟨by omega,by kernel_rfl⟩,by omega⟩) J<|?_;refine br J J J (fun hc36=>?_) (fun hc36=>?_)
  .
   have hf:aw es n a=((Int.tmod e n+n).toNat,a+1):=by unfold aw;rw[dif_pos hal,<-he,if_pos hc36]
   exact mj hmb J J (by rw[hf];show DV.v (.int .i64 _)=DV.v (.int .i64 _);rw[qK (by omega)]) (by rw[hf]<;>rfl)
  .
   have hf:aw es n a=((Int.tmod e n).toNat,a+1):=by unfold aw;rw[dif_pos hal,<-he,if_neg hc36]
   exact mj hmb J J (by rw[hf];show DV.v (.int .i64 _)=DV.v (.int .i64 _);rw[qK (by omega)]) (by rw[hf]<;>rfl)
def FS{b:Nat}{es:List Int}(hes:es.length<=400){a:Nat}(ha:a<=es.length):PM GB prog 153 (jj [none] b) b 87 [.sl (es.map vI), .v (.int .i64 (a:Nat))] (eP (iP (pF es a).1.1 (pF es a).1.2)) [.sl (es.map vI), .v (.int .i64 ((pF es a).2:Nat))]:=by
 have h1:=mn (es:=es) (n:=9) (a:=a) (by decide);have h2:=mn (es:=es) (n:=9) (a:=(aw es 9 a).2) (by decide);refine vZ func153 J J ntmps153 J J (fun C b m lo hmb=>?_);refine cm J (fun b=>(pj (n:=9) hes ha (by decide) (by decide))) J<|cm J (fun b=>(pj (n:=9) hes (iA ha) (by decide) (by decide))) J<|?_;refine cl J (lG (m:=((aw es 9 a).1:Int)-4) (n:=((aw es 9 (aw es 9 a).2).1:Int)-4) (by omega) (by omega)) J<|?_;exact mj hmb J J J J
def JK{b:Nat}{es:List Int}(hes:es.length<=400){a:Nat}(ha:a<=es.length):PM GB prog 154 (jj [none] b) b 87 [.sl (es.map vI), .v (.int .i64 (a:Nat))] (eP (iP (vF es a).1.1 (vF es a).1.2)) [.sl (es.map vI), .v (.int .i64 ((vF es a).2:Nat))]:=by
 obtain⟨hm,hn,ha1⟩:=xv ha;refine vZ func154 J J ntmps154 J J (fun C b m lo hmb=>?_);refine cm (fu:=⟨9⟩) J (fun b=>(FS hes ha)) J<|?_;refine aj 7 (.d (eP (iP 0 0))) J (by rw[ayy]<;>rfl) ?_;refine gx J<|cl J (DK (m:=(pF es a).1.1) (n:=(pF es a).1.2) (m':=0) (n':=0) (by omega) (by omega) (by decide) (by decide)) J<|?_;refine bd J J J (fun hc8=>?_) (fun hc8=>?_)
 .
  have hf:vF es a=((1,0),(pF es a).2):=by unfold vF;rw[if_pos hc8]
  refine cl J (lG (m:=1) (n:=0) (by decide) (by decide)) J<|?_;exact mj hmb J J (by rw[hf]<;>rfl) (by rw[hf])
 .
  have hf:vF es a=pF es a:=by unfold vF;rw[if_neg hc8]
  exact mj hmb J J (by rw[hf]<;>rfl) (by rw[hf])
def xe{p:Bool}:PF GB prog 88 [.v (.bool p)] (eT (.leaf p)):=by
 refine fn func88 J J ntmps88 J J (fun C=>?_);refine i9 5 J ?_;exact rz J J
abbrev ZP:=Int×Int
def ZP.q(p:ZP):ab:=iP p.1 p.2
def ZP.le(k:Nat)(p:ZP):Prop:=p.1.natAbs<=k/\p.2.natAbs<=k
def Ea(p q:ZP):ZP:=(p.1+1*q.1,p.2+1*q.2)
def wB(u v:ZP):Int:=u.1*v.2-u.2*v.1
theorem Qs{m n p q:Int}(hm:m.natAbs<=1000)(hn:n.natAbs<=1000)(hp:p.natAbs<=1000)(hq:q.natAbs<=1000)(h: ¬(p=m/\q=n)):LB (mh m n p q)/\(mh m n p q).ok:=by
 have e1:(pD n q).natAbs<=2000:=by unfold pD;omega
 have e2:(pu m p).natAbs<=2000:=by unfold pu;omega
 have e3:=Dt e1 hm;have e4:=Dt e2 hn;have e5:(wA m n p q).natAbs<=4000000:=by unfold wA;omega
 unfold mh;obtain⟨k1,k2,k3⟩:=Su (pD n q) (pu m p) (wA m n p q);have hb:(2:Nat)^96=79228162514264337593543950336:=by decide
 refine⟨⟨⟨?_,?_,?_⟩⟩,WK ?_⟩
 ·rw[hb];omega
 ·rw[hb];omega
 ·rw[hb];omega
 ·unfold pD pu;omega
def kr(v w:ZP):bj:=⟨mh v.1 v.2 w.1 w.2,⟨gw (mh v.1 v.2 w.1 w.2) v.q,gw (mh v.1 v.2 w.1 w.2) w.q,false,false⟩⟩
def gv(r:List ZP)(i:Nat):ZP:=r.getD ((i+1)%r.length) (0,0)
def qx(r:List ZP):Nat->List bj
 |0=>[]
 |k+1=>qx r k++[kr (r.getD k (0,0)) (gv r k)]
def km(r:List ZP):List bj:=qx r r.length
structure dO (r:List ZP):Prop where
 n3:3<=r.length
 n6:r.length<=6
 le: ∀p∈r,ZP.le 100 p
 ne: ∀i<r.length,r.getD i (0,0)≠gv r i
def AO{r:List ZP}{i:Nat}(h:i<r.length):r.getD i (0,0)∈r:=by
 rw[aX,aZ h];exact cJ h
def BG{r:List ZP}{i:Nat}(h:i<r.length):gv r i∈r:=AO (dQ _ (by omega))
theorem BQ.int1200{m:Int}(h:m.natAbs<=1000):BQ (m:Rat) 1200:=by
 haveI:BI m 11:=je h (by decide);exact BQ.mono (inferInstance:BQ (m:Rat) 12) (by decide)
theorem Kz{l:aa}(hl:LB l)(ho:l.ok){m n:Int}(hm:m.natAbs<=1000)(hn:n.natAbs<=1000):BQ (gw l (iP m n)) 1200:=by
 haveI:=je (k:=11) hm (by decide);haveI:=je (k:=11) hn (by decide);have hd:=AT ho.ne;have hA:BI (l.a*l.a+l.b*l.b) _:=inferInstance;have hB:BI (m*l.b-n*l.a) _:=inferInstance;have hA':=Bp (j:=1200) hA (by decide);have hB':=Bp (j:=1200) hB (by decide);have e1:l.dir.dot l.dir=((l.a*l.a+l.b*l.b:Int):Rat):=by
  rw[pZ,cW,cW];simp only[aa.dir,ab.dot];grind
 have e2:(iP m n).dot l.dir=((m*l.b-n*l.a:Int):Rat):=by
  rw[kS,cW,cW];simp only[aa.dir,ab.dot,iP];grind
 have hd':((0:Int):Rat)<((l.a*l.a+l.b*l.b:Int):Rat):=by rw[<-e1];exact hd
 unfold gw;rw[e2,e1];clear hA hB e1 e2;generalize l.a*l.a+l.b*l.b=D at*;generalize m*l.b-n*l.a=M at*;have hD:0<D:=Rat.intCast_lt_intCast.1 hd';refine BQ.of_fracI (n:=M) (D:=D) (by omega) ?_ hB' hA';have h0:(D:Rat)≠0:=fun e=>by rw[e] at hd';exact absurd hd' (by decide)
 have:((D.natAbs:Nat):Rat)=(D:Rat):=by
  have h1:((D.natAbs:Nat):Int)=D:=by omega
  rw[<-h1];rfl
 rw[this];grind
def Uh{v w:ZP}(hv:ZP.le 100 v)(hw:ZP.le 100 w)(h:v≠w):nI (kr v w):=by
 obtain⟨h1,h2⟩:=Qs (m:=v.1) (n:=v.2) (p:=w.1) (q:=w.2) (by have:=hv.1;omega) (by have:=hv.2;omega) (by have:=hw.1;omega) (by have:=hw.2;omega) (fun e=>h (Prod.ext e.1.symm e.2.symm));exact⟨h1,h2,⟨fun e=>(by cases e),fun e=>(by cases e)⟩,Kz h1 h2 (by have:=hv.1;omega) (by have:=hv.2;omega),Kz h1 h2 (by have:=hw.1;omega) (by have:=hw.2;omega)⟩
def Jr{r:List ZP}(h:dO r): ∀{k:Nat},k<=r.length->(qx r k).length=k/\ ∀f∈qx r k,nI f
 |0,_=>⟨J,fun f hf=>by cases hf⟩
 |k+1,hk=>by
  obtain⟨h1,h2⟩:=Jr h (k:=k) (by omega);rw[qx];refine⟨by simp[h1],fun f hf=>?_⟩;rcases bW.1 hf with hf|hf
  ·exact h2 f hf
  ·rw[aW] at hf;subst hf
   exact Uh (h.le _ (AO (by omega))) (h.le _ (BG (by omega))) (h.ne k (by omega))
def BX{r:List ZP}(h:dO r):(km r).length=r.length/\ ∀f∈km r,nI f:=Jr h (aN _)
def iw(rs:List (List ZP)):List bj:=rs.flatMap km
def tr: ∀{rs:List (List ZP)},(∀r∈rs,dO r)->(iw rs).length<=6*rs.length/\ ∀f∈iw rs,nI f
 |[],_=>⟨aN _,fun f hf=>by cases hf⟩
 |r::rs,h=>by
  obtain⟨h1,h2⟩:=tr (rs:=rs) fun q hq=>h q (aJ _ hq);obtain⟨k1,k2⟩:=BX (h r aQ);have:=(h r aQ).n6;unfold iw at*;rw[kK];refine⟨by rw[aV,k1,bZ];omega,fun f hf=>?_⟩;rcases bW.1 hf with hf|hf
  ·exact k2 f hf
  ·exact h2 f hf
def yc(a b c:ab):Int:=(ab.cross (ck b a (-1)) (ck c a (-1))).num.sign
def qG(v w p:ab):Int:=
 (if bm v.y p.y<=0/\ ¬bm w.y p.y<=0/\0<yc v w p then 1 else 0)-(if¬bm v.y p.y<=0/\bm w.y p.y<=0/\yc v w p<0 then 1 else 0)
def og(r:List ZP)(p:ab):Nat->Int
 |0=>0
 |k+1=>og r p k+qG (r.getD k (0,0)).q (gv r k).q p
def lw(r:List ZP)(p:ab):Int:=og r p r.length
def tI(fill n:Int):Bool:=(decide (fill=1)&&decide (n.tmod 2≠0))||(decide (fill=2)&&decide (n≠0))
def mi(rs:List (List ZP))(fill:Int)(p:ab):Bool:=tI fill (rs.foldl (fun n r=>n+lw r p) 0)
def wx(rs:List (List ZP))(fill:Int):Tr:=i7 (mi rs fill) (iw rs).length (iw rs) []
def pz(rs:List (List ZP))(fill:Int):Tr:=(wx rs fill).restrict []
structure gi (k:Nat) (t:Tr):Prop where
 gd:t.gd
 dp:t.depth<=k
 am: ∃K:List aa,K.length<=k/\(∀l∈K,l.ok)/\jF K t
def GI{acc:ab->Bool}{n:Nat}{l:List bj}(h: ∀f∈l,nI f)(hn:l.length=n):gi n (i7 acc n l []):=
 ⟨⟨wD fun f hf=>(h f hf).lb,wD fun f hf=>(h f hf).ok⟩,I0,l.map (·.l),by rw[aK,hn];exact aN _,fun m hm=>by
  obtain⟨f,hf,rfl⟩:=bV.1 hm;exact(h f hf).ok,wD fun f hf=>⟨f.l,eX hf, .inl rfl⟩⟩
def gi.restrict{k:Nat}{t:Tr}(h:gi k t)(c:ao):gi k (t.restrict c):=by
 obtain⟨K,h1,h2,h3⟩:=h.am;exact⟨V' h.gd c,cY (t.restrict_depth c) h.dp,K,h1,h2,h3.restrict c⟩
def gi.mono{j k:Nat}{t:Tr}(h:gi j t)(hk:j<=k):gi k t:=by
 obtain⟨K,h1,h2,h3⟩:=h.am;exact⟨h.gd,cY h.dp hk,K,by omega,h2,h3⟩
def gi.merge{j k:Nat}{op:Int}{t u:Tr}(h:gi j t)(hu:gi k u):gi (j+k) (t.mergeQ op u []):=by
 obtain⟨K,h1,h2,h3⟩:=h.am;obtain⟨M,k1,k2,k3⟩:=hu.am;refine⟨⟨Tr.mergeQ_all LB op hu.gd.lb t [] h.gd.lb,Tr.mergeQ_all aa.ok op hu.gd.ok t [] h.gd.ok⟩,cY (Tr.mergeQ_depth op u t []) (by have:=h.dp;have:=hu.dp;omega),K++M,by rw[aV];omega,fun l hl=>(bW.1 hl).elim (h2 l) (k2 l),?_⟩;exact(h3.mono fun l hl=>⟨l,bU _ hl, .inl J⟩).merge (k3.mono fun l hl=>⟨l,bL _ hl, .inl J⟩) []
def gi.merge_size{j k:Nat}{op:Int}{t u:Tr}(h:gi j t)(hu:gi k u):(t.mergeQ op u []).size<=(j+k)*(1+(j+k)):=by
 obtain⟨K,h1,h2,h3⟩:=h.am;obtain⟨M,k1,k2,k3⟩:=hu.am;have hle:(K++M).length<=j+k:=by rw[aV];omega
 refine cY (Tr.merge_size (K:=K++M) (op:=op) (fun l hl=>(bW.1 hl).elim (h2 l) (k2 l)) h.gd.ok hu.gd.ok (h3.mono fun l hl=>⟨l,bU _ hl, .inl J⟩) (k3.mono fun l hl=>⟨l,bL _ hl, .inl J⟩)) ?_;exact gW hle (by omega)
def gi.lim{j k:Nat}{op:Int}{t u:Tr}(h:gi j t)(hu:gi k u)(hk:j+k<=200):kl op t u=some (t.mergeQ op u []):=
 awJ (by have:=h.dp;have:=hu.dp;omega) (cY (h.merge_size hu) (cY (gW hk (show 1+(j+k)<=201 by omega)) (by decide)))
def JN{rs:List (List ZP)}{fill:Int}(h: ∀r∈rs,dO r)(hn:rs.length<=3):gi 18 (pz rs fill):=by
 obtain⟨h1,h2⟩:=tr h;exact((GI (acc:=mi rs fill) h2 J).restrict []).mono (by omega)
def vR(p q:ZP):Int:=if p.1<q.1 then-1 else if q.1<p.1 then 1 else if p.2<q.2 then-1 else if q.2<p.2 then 1 else 0
def tc(x:ZP):List ZP->List ZP
 |[]=>[x]
 |u::t=>if vR u x<0 then u::tc x t else if vR u x=0 then u::t else x::u::t
def uO(l:List ZP):List ZP:=l.foldl (fun out x=>tc x out) []
def Ru{x:ZP}: ∀{l:List ZP},(tc x l).length<=l.length+1
 |[]=>aN _
 |u::t=>by
  rw[tc];have:=Ru (x:=x) (l:=t);split
  ·simp;omega
  ·split<;>simp
def YM(l:List ZP):(uO l).length<=l.length:=by
 have key: ∀(l o:List ZP),(l.foldl (fun out x=>tc x out) o).length<=l.length+o.length:=by
  intro l
  induction l with
  |nil=>intro o;simp
  |cons x t ih=>intro o;have:=ih (tc x o);have:=Ru (x:=x) (l:=o);simp only[jU,bZ];omega
 have:=key l [];simpa[uO] using this
def wH(a b c d:Int):List ZP:=[(a,b),(c,b),(c,d),(a,d)]
def A3{r:List ZP}{i:Nat}(h:i+1<r.length):gv r i=r.getD (i+1) (0,0):=by unfold gv;rw[fW h]
def zM{r:List ZP}{i:Nat}(h:i+1=r.length):gv r i=r.getD 0 (0,0):=by unfold gv;rw[h,Nat.mod_self]
def awI{a b c d:Int}(h1:a.natAbs<=50)(h2:b.natAbs<=50)(h3:c.natAbs<=50)(h4:d.natAbs<=50)(h5:a<c)(h6:b<d):dO (wH a b c d):=by
 refine⟨by simp[wH],by simp[wH],fun p hp=>?_,fun i hi=>?_⟩
 ·simp only[wH,aY,iT,or_false] at hp
  rcases hp with rfl|rfl|rfl|rfl<;>exact⟨by dsimp only;omega,by dsimp only;omega⟩
 ·have:i=0\/i=1\/i=2\/i=3:=by simp[wH] at hi;omega
  rcases this with rfl|rfl|rfl|rfl<;>simp[wH,gv]<;>omega
def uA(p u v:ZP):List ZP:=[p,Ea p u,Ea p v]
def aEZ{p u v:ZP}(h1:ZP.le 40 p)(h2:ZP.le 40 u)(h3:ZP.le 40 v)(h:wB u v≠0):dO (uA p u v):=by
 obtain⟨p1,p2⟩:=p;obtain⟨u1,u2⟩:=u;obtain⟨v1,v2⟩:=v;unfold ZP.le at h1 h2 h3;dsimp only at h1 h2 h3;unfold wB at h;dsimp only at h;refine⟨by simp[uA],by simp[uA],fun p hp=>?_,fun i hi=>?_⟩
 ·simp only[uA,Ea,aY,iT,or_false] at hp
  rcases hp with rfl|rfl|rfl<;>exact⟨by dsimp only;omega,by dsimp only;omega⟩
 ·have:i=0\/i=1\/i=2:=by simp[uA] at hi;omega
  have hu: ¬(u1=0/\u2=0):=fun e=>h (by rw[e.1,e.2];simp);have hv: ¬(v1=0/\v2=0):=fun e=>h (by rw[e.1,e.2];simp);have huv: ¬(u1=v1/\u2=v2):=fun e=>h (by rw[e.1,e.2,Int.mul_comm];omega);rcases this with rfl|rfl|rfl<;>simp[uA,Ea,gv]<;>omega
def ng(es:List Int):Nat->Nat->List ZP->List ZP×Nat
 |0,a,out=>(out,a)
 |n+1,a,out=>ng es n (pF es a).2 (if out.getLast? =some (pF es a).1 then out else out++[(pF es a).1])
structure lC (r:List ZP):Prop where
 ne: ∀i,i+1<r.length->r.getD i (0,0)≠r.getD (i+1) (0,0)
 le: ∀p∈r,ZP.le 100 p
def lC.snoc{r:List ZP}{p:ZP}(h:lC r)(hp:ZP.le 100 p)(hl:r.getLast? ≠some p):lC (r++[p]):=by
 refine⟨fun i hi=>?_,fun q hq=>?_⟩
 ·rw[aV,eK] at hi
  rw[aX,aX];by_cases h1:i+1<r.length
  ·rw[dR (by omega),dR h1]
   have:=h.ne i h1;rwa [aX,aX] at this
  ·have e:i+1=r.length:=by omega
   rw[dR (by omega),e,gU (aN _),pM];rw[lW,<-e,lR] at hl;rw[aZ (by omega)] at hl⊢;intro c;exact hl (by simpa using c)
 ·rcases bW.1 hq with hq|hq
  ·exact h.le q hq
  ·rw[aW] at hq;subst hq;exact hp
def In{es:List Int}: ∀{n a:Nat} {out:List ZP},a<=es.length->lC out->lC (ng es n a out).1/\(ng es n a out).1.length<=out.length+n/\(ng es n a out).2<=es.length
 |0,a,out,ha,h=>⟨h,aN _,ha⟩
 |n+1,a,out,ha,h=>by
  obtain⟨h1,h2,h3⟩:=xv ha;rw[ng];by_cases hl:out.getLast? =some (pF es a).1
  ·rw[if_pos hl]
   obtain⟨k1,k2,k3⟩:=In (n:=n) h3 h;exact⟨k1,by omega,k3⟩
  ·rw[if_neg hl]
   obtain⟨k1,k2,k3⟩:=In (n:=n) h3 (h.snoc (p:=(pF es a).1) ⟨by omega,by omega⟩ hl);rw[aV,eK] at k2;exact⟨k1,by omega,k3⟩
def kz:Nat->List ZP->List ZP
 |0,l=>l
 |n+1,l=>if 1<l.length/\l.getD 0 (0,0)=l.getD (l.length-1) (0,0) then kz n l.dropLast else l
def lC.drop{r:List ZP}(h:lC r):lC r.dropLast:=by
 refine⟨fun i hi=>?_,fun p hp=>h.le p ((sQ _).subset hp)⟩;rw[iK] at hi;have:=h.ne i (by omega);rw[aX,aX] at this⊢;rw[rS,rS,if_pos (by omega),if_pos (by omega)];exact this
def KD: ∀{n:Nat} {l:List ZP},lC l->l.length<=n+1->lC (kz n l)/\(kz n l).length<=l.length/\(1<(kz n l).length->(kz n l).getD 0 (0,0)≠(kz n l).getD ((kz n l).length-1) (0,0))
 |0,l,h,hn=>⟨h,aN _,fun k=>absurd k (by unfold kz;omega)⟩
 |n+1,l,h,hn=>by
  rw[kz];split
  ·obtain⟨h1,h2,h3⟩:=KD (n:=n) h.drop (by rw[iK];omega)
   rw[iK] at h2;exact⟨h1,by omega,h3⟩
  ·rename_i hc
   exact⟨h,aN _,fun k e=>hc ⟨k,e⟩⟩
def Ug{r:List ZP}(h:lC r)(h6:r.length<=6)(hc:1<r.length->r.getD 0 (0,0)≠r.getD (r.length-1) (0,0))(h3:3<=(uO r).length):dO r:=by
 have:=YM r;refine⟨by omega,h6,h.le,fun i hi=>?_⟩;by_cases h1:i+1<r.length
 ·rw[A3 h1];exact h.ne i h1
 ·have e:i+1=r.length:=by omega
  rw[zM e];have:=hc (by omega);rw[show i=r.length-1 by omega];exact fun k=>this k.symm
def yp:List ZP:=[(0,0),(2,0),(0,2)]
def W6:dO yp:=⟨by decide,by decide,fun p hp=>by
  simp only[yp,aY,iT,or_false] at hp;rcases hp with rfl|rfl|rfl<;>exact⟨by decide,by decide⟩,fun i hi=>by
  have:i=0\/i=1\/i=2:=by simp[yp] at hi;omega
  rcases this with rfl|rfl|rfl<;>decide⟩
def rA(es:List Int)(a:Nat):List ZP×Nat:=
 ((if(uO (kz 6 (ng es (3+(aw es 4 a).1) (aw es 4 a).2 []).1)).length<3 then yp else kz 6 (ng es (3+(aw es 4 a).1) (aw es 4 a).2 []).1),(ng es (3+(aw es 4 a).1) (aw es 4 a).2 []).2)
def lC.nil:lC []:=⟨fun i hi=>by simp at hi,fun p hp=>by cases hp⟩
def Py{es:List Int}{a:Nat}(ha:a<=es.length):dO (rA es a).1/\(rA es a).2<=es.length:=by
 have h1:=mn (es:=es) (n:=4) (a:=a) (by decide);obtain⟨k1,k2,k3⟩:=In (n:=3+(aw es 4 a).1) (iA (n:=4) ha) lC.nil;obtain⟨t1,t2,t3⟩:=KD (n:=6) k1 (by simp at k2;omega);refine⟨?_,k3⟩;unfold rA;dsimp only;split
 ·exact W6
 ·exact Ug t1 (by simp at k2;omega) t3 (by omega)
def CF(es:List Int)(n m k:Int)(a:Nat):List ZP×Nat:=
 let x:=aw es n a
 let y:=aw es n x.2
 let z:=aw es m y.2
 let w:=aw es m z.2
 (wH ((x.1:Int)-k) ((y.1:Int)-k) ((x.1:Int)-k+1+z.1) ((y.1:Int)-k+1+w.1),w.2)
def YJ{es:List Int}{n m k:Int}{a:Nat}(ha:a<=es.length)(hn:1<=n)(hn2:n<=10)(hm:1<=m)(hm2:m<=10)(hk:0<=k)(hk2:k<=10):dO (CF es n m k a).1/\(CF es n m k a).2<=es.length:=by
 have h1:=mn (es:=es) (a:=a) hn;have h2:=mn (es:=es) (a:=(aw es n a).2) hn;have h3:=mn (es:=es) (a:=(aw es n (aw es n a).2).2) hm;have h4:=mn (es:=es) (a:=(aw es m (aw es n (aw es n a).2).2).2) hm;exact⟨awI (by omega) (by omega) (by omega) (by omega) (by omega) (by omega),iA (iA (iA (iA ha)))⟩
def fC(es:List Int)(a:Nat):List ZP×Nat:=
 let k:=aw es 4 a
 if(k.1:Int)=0 then CF es 5 4 4 k.2
 else if(k.1:Int)=1 then
  let p:=pF es k.2
  let u:=vF es p.2
  let v:=vF es u.2
  if wB u.1 v.1≠0 then(uA p.1 u.1 v.1,v.2) else rA es v.2
 else rA es k.2
def x7{es:List Int}{a:Nat}(ha:a<=es.length):dO (fC es a).1/\(fC es a).2<=es.length:=by
 have h0:=iA (n:=4) ha;unfold fC;dsimp only;split
 ·exact YJ h0 (by decide) (by decide) (by decide) (by decide) (by decide) (by decide)
 ·split
  ·obtain⟨p1,p2,p3⟩:=xv h0
   obtain⟨u1,u2,u3,u4⟩:=Dy p3;obtain⟨v1,v2,v3,v4⟩:=Dy u4;split
   ·rename_i hc
    exact⟨aEZ ⟨by omega,by omega⟩ ⟨by omega,by omega⟩ ⟨by omega,by omega⟩ hc,v4⟩
   ·exact Py v4
  ·exact Py h0
def Y3:List ZP:=[(0,0),(1,0),(0,1)]
def On(es:List Int)(a:Nat):List ZP×Nat:=
 let k:=aw es 2 a
 if(k.1:Int)=0 then CF es 3 2 1 k.2
 else
  let x:=aw es 3 k.2
  let y:=aw es 3 x.2
  let u1:=aw es 2 y.2
  let u2:=aw es 3 u1.2
  let v1:=aw es 3 u2.2
  let v2:=aw es 2 v1.2
  (if 0<wB (1+(u1.1:Int),(u2.1:Int)-1) ((v1.1:Int)-1,1+(v2.1:Int)) then uA ((x.1:Int)-1,(y.1:Int)-1) (1+(u1.1:Int),(u2.1:Int)-1) ((v1.1:Int)-1,1+(v2.1:Int)) else Y3,v2.2)
def ki(es:List Int)(a:Nat):Tr×Nat:=
 let r:=fC es a
 let k:=aw es 3 r.2
 if(k.1:Int)=0 then
  let s:=fC es k.2
  let f:=aw es 2 s.2
  (pz [r.1,s.1] (1+(f.1:Int)),f.2)
 else
  let f:=aw es 2 k.2
  (pz [r.1] (1+(f.1:Int)),f.2)
def OU{es:List Int}{a:Nat}(ha:a<=es.length):gi 18 (ki es a).1/\(ki es a).2<=es.length:=by
 obtain⟨r1,r2⟩:=x7 ha;have h3:=iA (n:=3) r2;unfold ki;dsimp only;split
 ·obtain⟨s1,s2⟩:=x7 h3
  exact⟨JN (fun r hr=>by simp only[aY,iT,or_false] at hr;rcases hr with rfl|rfl;exact r1;exact s1) (by simp),iA s2⟩
 ·exact⟨JN (fun r hr=>by simp only[aY,iT,or_false] at hr;subst hr;exact r1) (by simp),iA h3⟩
def GD(l:aa):Tr:=(Tr.node l (.leaf true) (.leaf false)).restrict []
def s8(es:List Int):Nat->Nat->Tr×Nat
 |0,a=>
  let k:=aw es 6 a
  if(k.1:Int)=1 then(GD (lF es k.2).1,(lF es k.2).2)
  else if(k.1:Int)=2 then((m8 es 3 k.2).1.restrict [],(m8 es 3 k.2).2)
  else if(k.1:Int)=3 then((ki es k.2).1.compl,(ki es k.2).2)
  else ki es k.2
 |d+1,a=>
  let k:=aw es 6 a
  if(k.1:Int)=0 then
   let x:=s8 es d k.2
   let o:=aw es 4 x.2
   let y:=s8 es d o.2
   (x.1.mergeQ (1+(o.1:Int)) y.1 [],y.2)
  else if(k.1:Int)=1 then(GD (lF es k.2).1,(lF es k.2).2)
  else if(k.1:Int)=2 then((m8 es 3 k.2).1.restrict [],(m8 es 3 k.2).2)
  else if(k.1:Int)=3 then((ki es k.2).1.compl,(ki es k.2).2)
  else ki es k.2
def aJZ(es:List Int)(a:Nat):Tr×Nat:=
 let k:=aw es 4 a
 if(k.1:Int)=0 then(GD (lF es k.2).1,(lF es k.2).2)
 else if(k.1:Int)=1 then((m8 es 2 k.2).1.restrict [],(m8 es 2 k.2).2)
 else(pz [(On es k.2).1] 2,(On es k.2).2)
def fE(a b p:ab):Rat:=(b.x-a.x)*(p.y-a.y)-(b.y-a.y)*(p.x-a.x)
def mf(v w p:ab):Int:=(if v.y<=p.y/\ ¬w.y<=p.y/\0<fE v w p then 1 else 0)-(if¬v.y<=p.y/\w.y<=p.y/\fE v w p<0 then 1 else 0)
def vu(v w q p:ab):Prop:= ∀s t:Rat,0<=s->s<=1->0<=t->t<=1->bw v w s≠bw q p t
def Ai{a b:Rat}(h0:0<=a)(h1:a<=b)(hb:0<b):0<=a/b/\a/b<=1/\a/b*b=a:=by
 have e:a/b*b=a:=by grind
 generalize a/b=q at*;refine⟨?_,?_,e⟩
 ·exact(lz hb).1 (by rw[e];exact h0)
 ·have:=(lz (s:=1-q) hb).1 (by grind)
  grind
def S3{q p x:ab}(hy:q.y<p.y)(h:fE q p x=0)(h1:q.y<=x.y)(h2:x.y<=p.y): ∃t,0<=t/\t<=1/\x=bw q p t:=by
 obtain⟨a1,a2,a3⟩:=Ai (a:=x.y-q.y) (b:=p.y-q.y) (by grind) (by grind) (by grind);refine⟨_,a1,a2,?_⟩;generalize (x.y-q.y)/(p.y-q.y)=t at*;obtain⟨X,Y⟩:=x;unfold fE at h;unfold bw;simp only at*;have e:X=q.x+t*(p.x-q.x):=by
  have h3:(p.y-q.y)*(X-q.x)=(p.y-q.y)*(t*(p.x-q.x)):=by grind
  have h4:p.y-q.y≠0:=by grind
  have:=gK.1 (show(p.y-q.y)*(X-q.x-t*(p.x-q.x))=0 by grind);rcases this with h5|h5
  ·exact absurd h5 h4
  ·grind
 rw[e];congr 1;grind
def XT(q p v w:ab)(e:Rat):fE q p (bw v w e)=fE q p v+e*(fE q p w-fE q p v):=by
 unfold fE bw;grind
def L9(v w:ab)(a b e:Rat):bw (bw v w a) (bw v w b) e=bw v w (a+e*(b-a)):=by
 unfold bw;simp only[ab.mk.injEq];constructor<;>grind
def BV(v w:ab)(e:Rat):(bw v w e).y=v.y+e*(w.y-v.y):=rfl
def F7{a b e lo hi:Rat}(h0:0<=e)(h1:e<=1)(ha:lo<=a)(hb:lo<=b)(ha2:a<=hi)(hb2:b<=hi):lo<=a+e*(b-a)/\a+e*(b-a)<=hi:=by
 have k1:=di h0 (show 0<=b-lo by grind);have k2:=di (show 0<=1-e by grind) (show 0<=a-lo by grind);have k3:=di h0 (show 0<=hi-b by grind);have k4:=di (show 0<=1-e by grind) (show 0<=hi-a by grind);constructor<;>grind
def YA{v w q p:ab}(hn:vu v w q p)(hy:q.y<p.y){a b:Rat}(a0:0<=a)(a1:a<=1)(b0:0<=b)(b1:b<=1)(ha:q.y<=(bw v w a).y/\(bw v w a).y<=p.y)(hb:q.y<=(bw v w b).y/\(bw v w b).y<=p.y)(h:fE q p (bw v w a)<0):fE q p (bw v w b)<0:=by
 by_cases k:fE q p (bw v w b)<0
 ·exact k
 ·exfalso
  obtain⟨e0,e1,e2⟩:=Ai (a:= -(fE q p (bw v w a))) (b:=fE q p (bw v w b)-fE q p (bw v w a)) (by grind) (by grind) (by grind);generalize-(fE q p (bw v w a))/(fE q p (bw v w b)-fE q p (bw v w a))=e at*;have hz:fE q p (bw v w (a+e*(b-a)))=0:=by rw[<-L9,XT];grind
  have hh:=F7 e0 e1 ha.1 hb.1 ha.2 hb.2;rw[<-BV,L9] at hh;obtain⟨t,t0,t1,ht⟩:=S3 hy hz hh.1 hh.2;have h01:=F7 e0 e1 a0 b0 a1 b1;exact hn _ t h01.1 h01.2 t0 t1 ht
def XV{v w q p:ab}(hn:vu v w q p)(hy:q.y<p.y): ∃r:Bool,∀s,0<=s->s<=1->q.y<=(bw v w s).y->(bw v w s).y<=p.y->(fE q p (bw v w s)<0↔r=true):=by
 by_cases h: ∃s,0<=s/\s<=1/\(q.y<=(bw v w s).y/\(bw v w s).y<=p.y)/\fE q p (bw v w s)<0
 ·obtain⟨s,s0,s1,s2,s3⟩:=h
  exact⟨true,fun t t0 t1 h1 h2=>⟨fun _=>J,fun _=>YA hn hy s0 s1 t0 t1 s2 ⟨h1,h2⟩ s3⟩⟩
 ·exact⟨false,fun t t0 t1 h1 h2=>⟨fun k=>absurd ⟨t,t0,t1,⟨h1,h2⟩,k⟩ h,fun k=>by cases k⟩⟩
def Nn(v w:ab):bw v w 0=v:=by unfold bw;cases v;simp only[ab.mk.injEq];constructor<;>grind
def Nm(v w:ab):bw v w 1=w:=by unfold bw;cases w;simp only[ab.mk.injEq];constructor<;>grind
def Gl{v w:ab}{y:Rat}(h:(v.y<=y/\ ¬w.y<=y)\/(¬v.y<=y/\w.y<=y)): ∃s,0<=s/\s<=1/\(bw v w s).y=y:=by
 rcases h with⟨h1,h2⟩|⟨h1,h2⟩
 ·obtain⟨a1,a2,a3⟩:=Ai (a:=y-v.y) (b:=w.y-v.y) (by grind) (by grind) (by grind)
  refine⟨_,a1,a2,?_⟩;rw[BV];grind
 ·obtain⟨a1,a2,a3⟩:=Ai (a:=v.y-y) (b:=v.y-w.y) (by grind) (by grind) (by grind)
  refine⟨_,a1,a2,?_⟩;rw[BV];grind
def Pt{v w p:ab}{s:Rat}(h:(bw v w s).y=p.y):fE v w p=(w.y-v.y)*((bw v w s).x-p.x):=by
 unfold fE;unfold bw at*;simp only at*;rw[<-h];grind
def xk{a b:Rat}(ha:0<a):0<a*b↔0<b:=by rw[Rat.mul_comm];exact jv ha
def FH{a b:Rat}(ha:a<0):a*b<0↔0<b:=by
 have:=xk (a:= -a) (b:=b) (by grind);constructor
 ·intro h;exact this.1 (by grind)
 ·intro h;have:=this.2 h;grind
def bI(b:Prop)[Decidable b]:Int:=if b then 1 else 0
def AE{v w p:ab}{r:Prop}[Decidable r](h: ∀s,0<=s->s<=1->(bw v w s).y=p.y->(p.x<(bw v w s).x↔r)):mf v w p=if r then bI (v.y<=p.y)-bI (w.y<=p.y) else 0:=by
 unfold mf bI;by_cases h1:v.y<=p.y<;>by_cases h2:w.y<=p.y
 ·simp[h1,h2]
 ·obtain⟨s,s0,s1,s2⟩:=Gl (.inl ⟨h1,h2⟩)
  have e:=Pt s2;have k:=h s s0 s1 s2;have m:=xk (a:=w.y-v.y) (b:=(bw v w s).x-p.x) (by grind);rw[<-e] at m;have m2:0<fE v w p↔r:=by rw[m,<-k];grind
  simp only[h1,h2,m2];by_cases q:r<;>simp[q]
 ·obtain⟨s,s0,s1,s2⟩:=Gl (.inr ⟨h1,h2⟩)
  have e:=Pt s2;have k:=h s s0 s1 s2;have m:=FH (a:=w.y-v.y) (b:=(bw v w s).x-p.x) (by grind);rw[<-e] at m;have m2:fE v w p<0↔r:=by rw[m,<-k];grind
  simp only[h1,h2,m2];by_cases q:r<;>simp[q]
 ·simp[h1,h2]
def ux(q p u:ab):Int:=if q.y<u.y/\u.y<=p.y/\fE q p u<0 then 1 else 0
def KB{v w q p:ab}(hn:vu v w q p)(hy:q.y<p.y):mf v w p-mf v w q=ux q p v-ux q p w:=by
 obtain⟨r,hr⟩:=XV hn hy;have ep:=AE (v:=v) (w:=w) (p:=p) (r:=r=true) fun s s0 s1 s2=>by
  rw[<-hr s s0 s1 (by grind) (by grind)];have m:=xk (a:=p.y-q.y) (b:=(bw v w s).x-p.x) (by grind);have:fE q p (bw v w s)= -((p.y-q.y)*((bw v w s).x-p.x)):=by unfold fE;rw[s2];grind
  rw[this];generalize (p.y-q.y)*((bw v w s).x-p.x)=z at*;constructor
  ·intro k;have:=m.2 (by grind);grind
  ·intro k;have:=m.1 (by grind);grind
 have eq:=AE (v:=v) (w:=w) (p:=q) (r:=r=true) fun s s0 s1 s2=>by
  rw[<-hr s s0 s1 (by grind) (by grind)];have m:=xk (a:=p.y-q.y) (b:=(bw v w s).x-q.x) (by grind);have:fE q p (bw v w s)= -((p.y-q.y)*((bw v w s).x-q.x)):=by unfold fE;rw[s2];grind
  rw[this];generalize (p.y-q.y)*((bw v w s).x-q.x)=z at*;constructor
  ·intro k;have:=m.2 (by grind);grind
  ·intro k;have:=m.1 (by grind);grind
 have fv:ux q p v=if r=true then bI (v.y<=p.y)-bI (v.y<=q.y) else 0:=by
  have h:=hr 0 (by decide) (by decide);rw[Nn] at h;unfold ux bI;by_cases h1:v.y<=p.y<;>by_cases h2:v.y<=q.y
  ·have: ¬q.y<v.y:=by grind
   simp[h1,h2,this]
  ·have h3:q.y<v.y:=by grind
   have:=h (by grind) h1;simp only[h1,h2,h3,this];by_cases q:r=true<;>simp[q]
  ·exfalso;grind
  ·simp[h1,h2]
 have fw:ux q p w=if r=true then bI (w.y<=p.y)-bI (w.y<=q.y) else 0:=by
  have h:=hr 1 (by decide) (by decide);rw[Nm] at h;unfold ux bI;by_cases h1:w.y<=p.y<;>by_cases h2:w.y<=q.y
  ·have: ¬q.y<w.y:=by grind
   simp[h1,h2,this]
  ·have h3:q.y<w.y:=by grind
   have:=h (by grind) h1;simp only[h1,h2,h3,this];by_cases q:r=true<;>simp[q]
  ·exfalso;grind
  ·simp[h1,h2]
 rw[ep,eq,fv,fw];by_cases q:r=true
 ·simp only[if_pos q];omega
 ·simp only[if_neg q]
def TG{v w q p:ab}(hn:vu v w q p)(hy:q.y=p.y):mf v w p=mf v w q:=by
 have key: ∀s,0<=s->s<=1->(bw v w s).y=p.y->(p.x<(bw v w s).x↔q.x<(bw v w s).x):=fun s s0 s1 s2=>by
  have no: ∀a b:Rat,a<=(bw v w s).x->(bw v w s).x<b->((a=q.x/\b=p.x)\/(a=p.x/\b=q.x))->False:=fun a b h1 h2 h3=>by
   obtain⟨a1,a2,a3⟩:=Ai (a:=(bw v w s).x-a) (b:=b-a) (by grind) (by grind) (by grind);generalize ((bw v w s).x-a)/(b-a)=t at*;rcases h3 with⟨e1,e2⟩|⟨e1,e2⟩
   ·refine hn s t s0 s1 a1 a2 ?_
    generalize hx:bw v w s=x at*;obtain⟨X,Y⟩:=x;unfold bw;simp only[ab.mk.injEq] at*;subst e1 e2;constructor<;>grind
   ·refine hn s (1-t) s0 s1 (by grind) (by grind) ?_
    generalize hx:bw v w s=x at*;obtain⟨X,Y⟩:=x;unfold bw;simp only[ab.mk.injEq] at*;subst e1 e2;constructor<;>grind
  constructor
  ·intro h
   by_cases k:q.x<(bw v w s).x
   ·exact k
   ·by_cases k2:(bw v w s).x=q.x
    ·exfalso
     refine hn s 0 s0 s1 (by decide) (by decide) ?_;rw[Nn];generalize bw v w s=x at*;obtain⟨X,Y⟩:=x;obtain⟨A,B⟩:=q;simp only[ab.mk.injEq] at*;exact⟨k2,by grind⟩
    ·exact(no p.x q.x (by grind) (by grind) (.inr ⟨J,J⟩)).elim
  ·intro h
   by_cases k:p.x<(bw v w s).x
   ·exact k
   ·by_cases k2:(bw v w s).x=p.x
    ·exfalso
     refine hn s 1 s0 s1 (by decide) (by decide) ?_;rw[Nm];generalize bw v w s=x at*;obtain⟨X,Y⟩:=x;obtain⟨A,B⟩:=p;simp only[ab.mk.injEq] at*;exact⟨k2,s2⟩
    ·exact(no q.x p.x (by grind) (by grind) (.inl ⟨J,J⟩)).elim
 by_cases hc:(v.y<=p.y/\ ¬w.y<=p.y)\/(¬v.y<=p.y/\w.y<=p.y)
 ·obtain⟨s,s0,s1,s2⟩:=Gl hc
  have uq: ∀t,(bw v w t).y=p.y->t=s:=fun t ht=>by
   rw[BV] at ht s2;have h4:w.y-v.y≠0:=by grind
   have:=gK.1 (show(w.y-v.y)*(t-s)=0 by grind);rcases this with h5|h5
   ·exact absurd h5 h4
   ·grind
  rw[AE (p:=p) (r:=p.x<(bw v w s).x) fun t _ _ ht=>by rw[uq t ht],AE (p:=q) (r:=p.x<(bw v w s).x) fun t _ _ ht=>by rw[uq t (by rw[ht,hy])];exact(key s s0 s1 s2).symm,hy]
 ·unfold mf
  rw[hy];by_cases h1:v.y<=p.y<;>by_cases h2:w.y<=p.y<;>simp[h1,h2] at hc⊢
def X5(q p:ab)(t:Rat):bw p q t=bw q p (1-t):=by unfold bw;simp only[ab.mk.injEq];constructor<;>grind
def vu.symm{v w q p:ab}(h:vu v w q p):vu v w p q:=fun s t s0 s1 t0 t1 e=>h s (1-t) s0 s1 (by grind) (by grind) (by rw[e,X5])
def hH(r:List ZP)(p:ab):Nat->Int
 |0=>0
 |k+1=>hH r p k+mf (r.getD k (0,0)).q (gv r k).q p
def yt(r:List ZP)(q p:ab):Prop:= ∀k,k<r.length->vu (r.getD k (0,0)).q (gv r k).q q p
def KQ{r:List ZP}{q p:ab}(h:yt r q p)(hy:q.y<p.y): ∀k,k<r.length->hH r p k-hH r q k=ux q p (r.getD 0 (0,0)).q-ux q p (r.getD k (0,0)).q
 |0,_=>by simp[hH]
 |k+1,hk=>by
  have ih:=KQ h hy k (by omega);have e:=KB (h k (by omega)) hy;rw[A3 (by omega)] at e;rw[hH,hH,A3 (by omega)];omega
def RJ{r:List ZP}{q p:ab}(h:yt r q p)(hy:q.y<p.y):hH r p r.length=hH r q r.length:=by
 cases hr:r.length with
 |zero=>rfl
 |succ n=>
  have ih:=KQ h hy n (by omega);have e:=KB (h n (by omega)) hy;rw[zM (by omega)] at e;rw[hH,hH,zM (by omega)];omega
def KO{r:List ZP}{q p:ab}(h:yt r q p)(hy:q.y=p.y): ∀k,k<=r.length->hH r p k=hH r q k
 |0,_=>rfl
 |k+1,hk=>by rw[hH,hH,KO h hy k (by omega),TG (h k (by omega)) hy]
def axw{r:List ZP}{q p:ab}(h:yt r q p):hH r p r.length=hH r q r.length:=by
 by_cases h1:q.y<p.y
 ·exact RJ h h1
 ·by_cases h2:p.y<q.y
  ·exact(RJ (fun k hk=>(h k hk).symm) h2).symm
  ·exact KO h (by grind) _ (aN _)
def Zo(a b c:ab):yc a b c=(fE a b c).num.sign:=by
 unfold yc fE ab.cross ck;congr 2;grind
def aAO(a b:Rat):bm a b<=0↔a<=b:=by
 have:=Hn a b;constructor
 ·intro h
  by_cases q:b<a
  ·have:=this.2 q;omega
  ·grind
 ·intro h
  by_cases q:0<bm a b
  ·have:=this.1 q;grind
  ·omega
def Xz(v w p:ab):qG v w p=mf v w p:=by
 unfold qG mf;simp only[Zo,nO,yS,aAO]
def D6(r:List ZP)(p:ab): ∀k,og r p k=hH r p k
 |0=>rfl
 |k+1=>by rw[og,hH,D6 r p k,Xz]
def Vc{r:List ZP}{q p:ab}(h:yt r q p):lw r p=lw r q:=by
 unfold lw;rw[D6,D6,axw h]
def Tx{v w p:ab}(h:v.y<=p.y)(k:w.y<=p.y):mf v w p=0:=by unfold mf;simp[h,k]
def aEq{v w p:ab}(h:p.y<v.y)(k:p.y<w.y):mf v w p=0:=by
 have h': ¬v.y<=p.y:=by grind
 have k': ¬w.y<=p.y:=by grind
 unfold mf;simp[h',k']
def En{v w p:ab}(r:Bool)(h1:p.x<v.x↔r=true)(h2:p.x<w.x↔r=true)(h3:v.x<p.x↔r=false)(h4:w.x<p.x↔r=false):mf v w p=if r=true then bI (v.y<=p.y)-bI (w.y<=p.y) else 0:=by
 refine AE (r:=r=true) fun s s0 s1 _=>?_;have e:(bw v w s).x-p.x=(1-s)*(v.x-p.x)+s*(w.x-p.x):=by unfold bw;grind
 cases r with
 |true=>
  have a:=h1.2 J;have b:=h2.2 J;refine⟨fun _=>J,fun _=>?_⟩;by_cases q:s=0
  ·subst q;grind
  ·have k1:=ge (show 0<s by grind) (show 0<w.x-p.x by grind)
   have k2:=di (show 0<=1-s by grind) (show 0<=v.x-p.x by grind);grind
 |false=>
  have a:=h3.2 J;have b:=h4.2 J;refine⟨fun k=>?_,fun k=>(by cases k)⟩;exfalso;have k1:=di (show 0<=s by grind) (show 0<=p.x-w.x by grind);have k2:=di (show 0<=1-s by grind) (show 0<=p.x-v.x by grind);grind
def ul(R:Rat)(p:ab):Prop:=p.x< -R\/R<p.x\/p.y< -R\/R<p.y
def YB{r:List ZP}{P:ZP->Prop}(h: ∀v∈r,P v){k:Nat}(hk:k<r.length):P (r.getD k (0,0)):=h _ (AO hk)
def UA{r:List ZP}{R:Rat}{p:ab}(hr: ∀v∈r, -R<=v.q.x/\v.q.x<=R/\ -R<=v.q.y/\v.q.y<=R)(hp:ul R p):hH r p r.length=0:=by
 have hv: ∀k,k<r.length->_:=fun k hk=>YB hr hk;have hw: ∀k,k<r.length->_:=fun k hk=>hr _ (BG hk);have zero:(∀k,k<r.length->mf (r.getD k (0,0)).q (gv r k).q p=0)-> ∀k,k<=r.length->hH r p k=0:=fun h=>by
  intro k
  induction k with
  |zero=>intro _;rfl
  |succ k ih=>intro hk;rw[hH,ih (by omega),h k (by omega)];rfl
 rcases hp with h|h|h|h
 ·have tele: ∀k,k<r.length->hH r p k=bI ((r.getD 0 (0,0)).q.y<=p.y)-bI ((r.getD k (0,0)).q.y<=p.y):=by
   intro k
   induction k with
   |zero=>intro _;rw[hH];omega
   |succ k ih=>
    intro hk;have e:=En (v:=(r.getD k (0,0)).q) (w:=(gv r k).q) (p:=p) true (by have:=hv k (by omega);constructor<;>grind) (by have:=hw k (by omega);constructor<;>grind) (by have:=hv k (by omega);constructor<;>grind) (by have:=hw k (by omega);constructor<;>grind);rw[if_pos J,A3 (by omega)] at e;rw[hH,ih (by omega),A3 (by omega),e];omega
  cases hr':r.length with
  |zero=>rfl
  |succ n=>
   have e:=En (v:=(r.getD n (0,0)).q) (w:=(gv r n).q) (p:=p) true (by have:=hv n (by omega);constructor<;>grind) (by have:=hw n (by omega);constructor<;>grind) (by have:=hv n (by omega);constructor<;>grind) (by have:=hw n (by omega);constructor<;>grind);rw[if_pos J,zM (by omega)] at e;rw[hH,tele n (by omega),zM (by omega),e];omega
 ·refine zero (fun k hk=>?_) _ (aN _)
  have e:=En (v:=(r.getD k (0,0)).q) (w:=(gv r k).q) (p:=p) false (by have:=hv k (by omega);constructor<;>grind) (by have:=hw k (by omega);constructor<;>grind) (by have:=hv k (by omega);constructor<;>grind) (by have:=hw k (by omega);constructor<;>grind);rw[e,if_neg (by decide)]
 ·exact zero (fun k hk=>aEq (by have:=hv k hk;grind) (by have:=hw k hk;grind)) _ (aN _)
 ·exact zero (fun k hk=>Tx (by have:=hv k hk;grind) (by have:=hw k hk;grind)) _ (aN _)
def II(op:Int)(a b:Tr):Bool:=decide ((a.mergeQ op b []).isLeaf=true/\(a.mergeQ op b []).code=false)
def aGL(a b:Tr):Int:=if II 4 a b then 0 else if II 3 a b then-1 else if II 3 b a then 1 else 2
def uZ:Tr->ab->Bool
 | .leaf b,_=>b
 | .node l x y,p=>if(l.value p).num.sign=1 then uZ x p else if(l.value p).num.sign= -1 then uZ y p else false
def HX: ∀{t:Tr} {c:ao} {b:Bool} {e:ao},t.all aa.ok->bH c->(b,e)∈t.parts c->bH e/\ ∀p,bc e p->bc c p/\t.val p=b
 | .leaf v,c,b,e,_,hc,h=>by
  rw[Tr.parts,aW] at h
  cases h
  exact⟨hc,fun p hp=>⟨hp,J⟩⟩
 | .node l x y,c,b,e,⟨hl,hx,hy⟩,hc,h=>by
  rw[Tr.parts] at h;rcases bW.1 h with h|h
  ·split at h
   ·rename_i hb
    obtain⟨k1,k2⟩:=fG hc hl hb;obtain⟨m1,m2⟩:=HX hx k1 h;refine⟨m1,fun p hp=>?_⟩;obtain⟨n1,n2⟩:=m2 p hp;obtain⟨o1,o2⟩:=(k2 p).1 n1;exact⟨o1,by rw[Tr.val_pos o2,n2]⟩
   ·cases h
  ·split at h
   ·rename_i hb
    obtain⟨k1,k2⟩:=fG hc hl.rev hb;obtain⟨m1,m2⟩:=HX hy k1 h;refine⟨m1,fun p hp=>?_⟩;obtain⟨n1,n2⟩:=m2 p hp;obtain⟨o1,o2⟩:=(k2 p).1 n1;rw[dx] at o2;exact⟨o1,by rw[Tr.val_neg (by grind),n2]⟩
   ·cases h
def bP(t:Tr):List ao:=((t.parts []).filter (·.1)).map (·.2)
def xJ{t:Tr}{e:ao}:e∈bP t↔(true,e)∈t.parts []:=by
 unfold bP;simp
def Nx(l:aa)(p:ab):ao->Rat->Rat
 |[],f=>f
 |s::c,f=>Nx l p c (if Int.sign (s.l.nor.dot l.nor).num<0 then(if-(s.l.value p/s.l.nor.dot l.nor)<f then-(s.l.value p/s.l.nor.dot l.nor) else f) else f)
def aIi:ao->ab
 |[]=>⟨0,0⟩
 |s::c=>ck (s.l.at s.v.sample) s.l.nor (Nx s.l (s.l.at s.v.sample) c 1*mkRat 1 2)
def KA{v k:Rat}(hk:k<0)(hv:0<v):0< -(v/k):=by
 have e: -(v/k)* -k=v:=by grind
 exact(jv (k:= -k) (by grind)).1 (by rw[e];exact hv)
def wJ:Tr->ab->ab->Bool×Bool
 | .leaf b,_,_=>(b,true)
 | .node l x y,p,v=>match (if(l.value p).num.sign=0 then(l.dir.cross v).num.sign else(l.value p).num.sign) with
  |1=>wJ x p v
  | -1=>wJ y p v
  |_=>(false,false)
def Rh(l:aa)(v:ab):l.dir.cross v=l.nor.dot v:=by
 unfold aa.dir aa.nor ab.cross ab.dot;grind
def Gn(L:List aa)(p v:ab):Prop:= ∀l∈L,l.value p=0->l.nor.dot v≠0
def uS(p:ab):(p.half=1/\(0<p.y\/(p.y=0/\0<p.x)))\/(p.half=2/\(p.y<0\/(p.y=0/\p.x<0)))\/(p.half=0/\p.y=0/\p.x=0):=by
 unfold ab.half;simp only[nO,yS,n8];split
 ·rename_i h;exact .inl ⟨rfl,h⟩
 ·rename_i h
  split
  ·rename_i h2
   exact .inr (.inl ⟨J,by grind⟩)
  ·rename_i h2
   exact .inr (.inr ⟨J,by grind,by grind⟩)
def se{p:ab}:p.half=1↔(0<p.y\/(p.y=0/\0<p.x)):=by
 rcases uS p with⟨h,k⟩|⟨h,k⟩|⟨h,k⟩<;>rw[h]<;>grind
def uM{p:ab}:p.half=2↔(p.y<0\/(p.y=0/\p.x<0)):=by
 rcases uS p with⟨h,k⟩|⟨h,k⟩|⟨h,k⟩<;>rw[h]<;>grind
def d9(u v:ab):Prop:=u.half<v.half\/(u.half=v.half/\0<u.cross v)
def yh{u v:ab}:fp u v<0↔d9 u v:=by
 unfold fp d9;split
 ·rename_i h;exact⟨fun _=> .inl h,fun _=>by decide⟩
 ·rename_i h
  split
  ·rename_i h2;exact⟨fun e=>absurd e (by decide),fun e=>by omega⟩
  ·rename_i h2
   have e:u.half=v.half:=by omega
   rw[<-nO];constructor
   ·intro k;exact .inr ⟨e,by omega⟩
   ·rintro (k|⟨_,k⟩)
    ·omega
    ·omega
def kt(d:ab):ab:=⟨-d.x, -d.y⟩
def ax1{d:ab}(h:d.half≠0):(kt d).half=3-d.half:=by
 rcases uS d with⟨e,k⟩|⟨e,k⟩|⟨e,k⟩
 ·rw[e];exact uM.2 (by unfold kt;grind)
 ·rw[e];exact se.2 (by unfold kt;grind)
 ·exact absurd e h
def qC{d:ab}(h:d.half≠0):d.half=1\/d.half=2:=by
 rcases uS d with⟨e,_⟩|⟨e,_⟩|⟨e,_⟩
 ·exact .inl e
 ·exact .inr e
 ·exact absurd e h
def xN(ds:List ab)(u w:ab):Prop:=(d9 u w/\ ∀d∈ds,¬(d9 u d/\d9 d w))\/((∀d∈ds,¬d9 u d)/\ ∀d∈ds,¬d9 d w)
structure aKr (ds:List ab):Prop where
 nz: ∀d∈ds,d.half≠0
 neg: ∀d∈ds,kt d∈ds
def wq(u v:ab):v.cross u= -u.cross v:=by unfold ab.cross;grind
def Rr(u v:ab):u.cross (kt v)= -u.cross v:=by unfold ab.cross kt;grind
def btw(a b:Rat)(u w:ab):ab:=⟨a*u.x+b*w.x,a*u.y+b*w.y⟩
end Go.Sx
end
section
namespace Go.Sx
open Go
inductive OT where
 |z (π:List (Nat×Bool))
 |q (i:Nat) (t:OT)
 |a (i:Nat) (t:OT)
 |c (i:Nat) (t r:OT)
def OT.sz:OT->Nat
 | .z _=>0
 | .q _ t=>t.sz+1
 | .a _ t=>t.sz+1
 | .c _ t r=>t.sz+r.sz+1
def OT.d:OT->Nat
 | .z π=>π.length
 | .q _ t=>t.d+1
 | .a _ t=>t.d+1
 | .c _ t r=>Nat.max (t.d+1) r.d
section
variable {P:Program} {ops:Array Oper} {Q:Exit->Act->World->Prop} {S:World->Prop} {π₂:List (Nat×Bool)}
def wQ(P:Program)(ops:Array Oper)(Q:Exit->Act->World->Prop)(K:(World->Prop)->Act->World->Prop):List Nat->OT->(World->Prop)->Act->World->Prop
 |ks, .z π,S,a,w=>xE P ops Q K ks π S a w
 |ks, .q i t,S,a,w=> ∃o v,ops[i]? =some o/\S w/\YieldsIf P ops S o v a/\wQ P ops Q K ks t S (a.put o.dst v) w
 |ks, .a i t,S,a,w=>wpOp P ops Q i (wz S (wQ P ops Q K ks t)) a w/\
   ∀j,(h:j∈ks)->wpOp P ops Q j (wz S (wQ P ops Q K (bF ks j) (.a i t))) a w
 |ks, .c i t r,S,a,w=>wpOp P ops Q i (wz S (wQ P ops Q K ks t)) a w/\wQ P ops Q K ks r S a w/\
   ∀j,(h:j∈ks)->wpOp P ops Q j (wz S (wQ P ops Q K (bF ks j) (.c i t r))) a w
termination_by ks t=>ks.length+t.sz
decreasing_by
 all_goals (first|(have:=Ep h;simp only[OT.sz] at*;omega)|(simp only[OT.sz];omega))
def ud(ops:Array Oper)(fin:Nat->Bool)(π₂:List (Nat×Bool)):Nat->Bool->List Nat->OT->Array Bool->List Nat->Bool
 |0,_,_,_,_,_=>false
 |n+1,false,ks, .z π,l,_=>Au ops fin π₂ n ks π l
 |_+1,true,_, .z _,_,_=>false
 |n+1,false,ks, .q i t,l,_=>yk ops fin l i&&ud ops fin π₂ n false ks t (l.setIfInBounds i true) []
 |_+1,true,_, .q _ _,_,_=>false
 |n+1,true,ks, .a i t,l,rs=>rs.all (fun j=>Nat.beq j i)&&ud ops fin π₂ n false ks t (l.setIfInBounds i true) []
 |n+1,false,ks, .a i t,l,_=>!(Region.ready .any ops l).isEmpty&&(Region.ready .any ops l).all (fun j=>Nat.beq j i||ks.contains j)&&ud ops fin π₂ n false ks t (l.setIfInBounds i true) []&&ks.all fun j=>ud ops fin π₂ n false (bF ks j) (.a i t) (l.setIfInBounds j true) []
 |n+1,true,ks, .c i t r,l,rs=>ud ops fin π₂ n false ks t (l.setIfInBounds i true) []&&ud ops fin π₂ n true ks r l (bF rs i)
 |n+1,false,ks, .c i t r,l,_=>!(Region.ready .any ops l).isEmpty&&ud ops fin π₂ n false ks t (l.setIfInBounds i true) []&&ud ops fin π₂ n true ks r l (bF ((Region.ready .any ops l).filter fun j=>!ks.contains j) i)&&ks.all fun j=>ud ops fin π₂ n false (bF ks j) (.c i t r) (l.setIfInBounds j true) []
end
section
variable {P:Program} {GB:Gh} {C:az} {n:Nat} {fr fr':dP} {own own' own0 own1 own1':List c6} {bs bs0 bs1 bs1':List du} {ops:Array Oper} {Q:Exit->Act->World->Prop} {fd:List FD} {π₂:List (Nat×Bool)} {t r:OT}
abbrev dnK (P:Program) (ops:Array Oper) (Q:Exit->Act->World->Prop) (K:(World->Prop)->Act->World->Prop) (t:OT):List Nat->(World->Prop)->Act->World->Prop:=fun ks S=>wQ P ops (f7 Q) K ks t S
end
end Go.Sx
end
section
namespace Go.Sx
open Go Go.Proofs Tryz
variable {GB:Gh}
theorem tU{c:List aa}{l:aa}(hc: ∀m∈c,LB m)(hl:LB l): ∀m∈c++[l],LB m:=by
 rw[rR];exact⟨hc,by simpa using hl⟩
theorem LB.rev{l:aa}(h:LB l):LB l.rev:=⟨⟨by rw[show l.rev.a= -l.a from J,iS];exact h.bl.a,by rw[show l.rev.b= -l.b from J,iS];exact h.bl.b,by rw[show l.rev.c= -l.c from J,iS];exact h.bl.c⟩⟩
def Oe{c:List aa}{l:aa}(hc: ∀m∈c,LB m)(hok: ∀m∈c,m.ok)(hn:c.length<=900)(hl:LB l)(hlo:l.ok):PF GB prog 90 [.sl (c.map eL),eL l] (vI (n5 c l)):=by
 have hcl:=vT c;refine fn func90 J J ntmps90 J J (fun C=>?_);refine rH J J<|ap (c.map eL) J J (gu _) J<|rf J J<|mp ((c++[l]).map eL) J (by rw[bR];rfl) (gu [l]) J<|?_;refine cl J (HO (c:=c++[l]) (tU hc hl) (iu hok hlo) (by simp;omega)) J<|rH J J<|ap (c.map eL) J J (gu _) J<|cl J (yN (l:=l)) J<|?_;refine rf J J<|mp ((c++[l.rev]).map eL) J (by rw[bR];rfl) (gu [l.rev]) J<|cl J (HO (c:=c++[l.rev]) (tU hc hl.rev) (iu hok hlo.rev) (by simp;omega)) J<|?_;refine jy 31 J J J (fun hg31=>?_) (fun hg31=>?_)
 .
  refine bb J J J (fun hc33=>?_) (fun hc33=>?_)
  .
   exact rz J (by show vI 0=vI _;congr 1;unfold n5;simp_all)
  .
   refine bb J J J (fun hc34=>?_) (fun hc34=>?_)
   .
    exact rz J (by show vI 1=vI _;congr 1;unfold n5;simp_all)
   .
    exact rz J (by simp[hg31] at hc34)
 .
  refine bb J J J (fun hc34=>?_) (fun hc34=>?_)
  .
   exact rz J (by simp[hg31] at hc34)
  .
   exact rz J (by show vI (-1)=vI _;congr 1;unfold n5;simp_all)
def E6{α:Type}{p:α->Bool}: ∀{xs:List α} {n:Nat},n<=xs.length->(∀j (h:j<xs.length),j<n->p xs[j]=true)->(∀h:n<xs.length,p xs[n]=false)->(xs.takeWhile p).length=n
 |[],n,h,_,_=>by simp at h;subst h;rfl
 |x::xs,0,_,_,h3=>by
  have:=h3 (by simp);simp only[oN] at this;simp[nN,this]
 |x::xs,n+1,h1,h2,h3=>by
  have hx:=h2 0 (by simp) (by omega);simp only[oN] at hx;rw[nN,if_pos hx,bZ];rw[E6 (n:=n) (by simpa using h1) (fun j h hj=>by have:=h2 (j+1) (by simpa using h) (by omega);simpa using this) (fun h=>by have:=h3 (by simpa using h);simpa using this)]
def Qz{xs:List aa}{l:aa}{n:Nat}(h1:n<=xs.length)(h2: ∀j (h:j<xs.length),j<n->fp xs[j].dir l.dir<0)(h3: ∀h:n<xs.length,¬fp xs[n].dir l.dir<0):nC xs l=n:=
 E6 h1 (fun j h hj=>decide_eq_true (h2 j h hj)) (fun h=>decide_eq_false (h3 h))
def Sl{xs:List aa}{l:aa}{n:Nat}(hn:nC xs l=n)(h:n<xs.length)(e:xs[n]=l):pB xs l=xs:=by
 unfold pB;rw[hn,if_pos (by rw[aZ h,e])]
def PP{xs:List aa}{l:aa}{n:Nat}(hn:nC xs l=n)(h: ∀h:n<xs.length,xs[n]≠l):pB xs l=xs.take n++l::xs.drop n:=by
 unfold pB;rw[hn,if_neg];intro e;obtain⟨h1,h2⟩:=aS.1 e;exact h h1 h2
def JH(xs:List aa)(n:Nat):cI 6 ((xs.map eL).take n):=fun d hd=>gu xs d (fK hd)
def Ib(xs:List aa)(n m:Nat):cI 6 (((xs.map eL).take n).drop m):=fun d hd=>gu xs d (fK (gT hd))
def Q6(xs:List aa)(n m:Nat)(l:aa):cI 6 ([eL l]++((xs.map eL).take n).drop m):=fun d hd=>by
 rcases bW.1 hd with h|h
 ·exact gu [l] d h
 ·exact Ib xs n m d h
structure lI (c:List aa) (k:Nat) (xs:List aa):Prop where
 le:k<=c.length
 f:nf c (c.drop k) xs=fg c
 m: ∀m∈xs,m∈c
 n:xs.length<=k
def lI.skip{c xs:List aa}{k:Nat}(h:lI c k xs)(hk:k<c.length)(e:(eO c[k] c ah.all).isSome=false):lI c (k+1) xs:=by
 have:=h.f;rw[bX hk,nf,e] at this;exact⟨hk,this,h.m,by have:=h.n;omega⟩
def lI.ins{c xs ys:List aa}{k:Nat}(h:lI c k xs)(hk:k<c.length)(e:(eO c[k] c ah.all).isSome=true)(hy:pB xs c[k]=ys)(hl:ys.length<=xs.length+1):lI c (k+1) ys:=by
 have:=h.f;rw[bX hk,nf,e,if_pos J,hy] at this;refine⟨hk,this,fun m hm=>?_,by have:=h.n;omega⟩;rw[<-hy] at hm;rcases IN.1 hm with rfl|hm
 ·exact cJ hk
 ·exact h.m m hm
def lI.done{c xs:List aa}{k:Nat}(h:lI c k xs)(hk:k=c.length):fg c=xs:=by
 have:=h.f;rw[hk,gQ,nf] at this;exact this.symm
def r6(c:List aa):Bool:=if(((c.map eL).length:Nat):Int)=0 then true else decide ((0:Int)<((((fg c).map eL).length:Nat):Int))
def lI.nil(c:List aa):lI c 0 []:=⟨bJ _,J,fun m hm=>absurd hm (by simp),aN _⟩
def aBW{c:List aa}(hc: ∀m∈c,LB m)(hok: ∀m∈c,m.ok)(hn:c.length<=1000):PF GB prog 151 [.sl (c.map eL)] (.tp [.sl ((fg c).map eL),vB (r6 c)]):=by
 have hcl:=vT c;refine fn (fu:=⟨16⟩) func151 J J ntmps151 J J (fun C=>?_);refine aj 11 (.d (vI (c.length:Nat))) J (by rw[hcl];rfl) ?_;refine gx J<|?_;refine Bj 4 J ?_;refine lp (X:=List aa×Nat) (fun⟨xs,k⟩=>[(12, .d (vI (k:Nat))),(11, .d (vI (c.length:Nat))),(10, .d (.sl (c.map eL))),(0, .d (.sl (c.map eL))),(4, .d (.sl (xs.map eL)))]) (fun⟨xs,k⟩=>[]) (fun⟨xs,k⟩=>lI c k xs) (fun⟨xs,k⟩=>c.length-k) ⟨[],0⟩ J (lI.nil c) (fun _=>J) (fun⟨xs,k⟩ hk=>?_)
 try dsimp only at hk⊢
 have hS:=hk;refine br J J J (fun hc13=>?_) (fun hc13=>?_)
 .
  have hk:k<c.length:=by omega
  obtain⟨m,hm⟩: ∃m,m=c[k]:=⟨_,rfl⟩;haveI hmb:LB m:=hm▸hc _ (cJ hk);have hmo:m.ok:=hm▸hok _ (cJ hk);have hxl:=vT xs;have hxn:=hS.n;refine ix (fu:=⟨1⟩) _ J (wn hk) J<|?_;refine aj 16 (.d (eL m)) J (by rw[hm];rfl) ?_;refine gx J<|cl J (RH hc hok hn hk) J<|?_;refine bb (fu2:=⟨8⟩) J J J (fun hc24=>?_) (fun hc24=>?_)
  .
   have hinv:lI c (k+1) xs:=hS.skip hk (by rw[<-wI];simpa using hc24);exact at_ ⟨xs,k+1⟩ (by dsimp only;exact⟨hinv,(by omega)⟩)
  .
   have hyes:(eO c[k] c ah.all).isSome=true:=by rw[<-wI];simpa using hc24
   refine mg (fu:=⟨6⟩) (X:=Unit) (fun _=>[(12, .d (vI (k:Nat))),(11, .d (vI (c.length:Nat))),(10, .d (.sl (c.map eL))),(0, .d (.sl (c.map eL))),(4, .d (.sl (xs.map eL))),(6, .ov 6 0),(9, .d (vI (nC xs m:Nat)))]) (fun _=>[(6,some (.o 175 [.d ((.v (.bool (decide (m.a<0))))), .d (dN m.a.natAbs), .d ((.v (.bool (decide (m.b<0))))), .d (dN m.b.natAbs), .d ((.v (.bool (decide (m.c<0))))), .d (dN m.c.natAbs)] true))]) (fun _=>True) [12,11,10,0,4,6,9] [6] rfl ?_ (fun _=>J) (fun _ _=>?_)
   .
    refine gx J<|?_;refine lp (fu:=⟨6⟩) (X:=Nat) (fun n=>[(12, .d (vI (k:Nat))),(11, .d (vI (c.length:Nat))),(10, .d (.sl (c.map eL))),(0, .d (.sl (c.map eL))),(4, .d (.sl (xs.map eL))),(6, .ov 6 0),(9, .d (vI (n:Nat)))]) (fun n=>[(6,some (.o 175 [.d ((.v (.bool (decide (m.a<0))))), .d (dN m.a.natAbs), .d ((.v (.bool (decide (m.b<0))))), .d (dN m.b.natAbs), .d ((.v (.bool (decide (m.c<0))))), .d (dN m.c.natAbs)] true))]) (fun n=>n<=xs.length/\ ∀j (h:j<xs.length),j<n->fp xs[j].dir m.dir<0) (fun n=>xs.length-n) 0 J ⟨bJ _,fun j _ hj=>absurd hj (by omega)⟩ (fun _=>J) (fun n hk=>?_);obtain⟨n1,n2⟩:=hk;refine kG J J J J (fun hg28=>?_) (fun hg28=>?_)
    .
     refine ix _ J (wn (by omega)) J<|?_;haveI:LB (xs[n]'(by omega)):=hc _ (hS.m _ (cJ _));refine cl J (uD (l:=xs[n]'(by omega))) J<|cl J (uD (l:=m)) J<|cl J (Wo (u:=(xs[n]'(by omega)).dir) (v:=m.dir)) J<|?_;refine br J J J (fun hc39=>?_) (fun hc39=>?_)
     .
      exact at_ (n+1) ⟨⟨by omega,fun j h hj=>by by_cases q:j=n;(subst q;exact hc39);exact n2 j h (by omega)⟩,(by omega)⟩
     .
      have hidx:nC xs m=n:=Qz n1 n2 (fun h=>hc39);exact at_ () trivial
    .
     have hidx:nC xs m=n:=Qz n1 n2 (fun h=>absurd h (by omega));exact at_ () trivial
   .
    obtain⟨n,hnx⟩: ∃n,nC xs m=n:=⟨_,rfl⟩;rw[hnx];have hnl:n<=xs.length:=by rw[<-hnx];unfold nC;exact(List.takeWhile_sublist _).length_le
    have hcb: ∀m∈xs,LB m:=fun m hm=>hc m (hS.m m hm);refine kG J J J J (fun hg45=>?_) (fun hg45=>?_)
    .
     refine ix _ J (wn (by omega)) J<|cl J (Bt (l:=xs[n]'(by omega)) (m:=m) (hl:=hcb _ (cJ (by omega)))) J<|?_;refine br J J J (fun hc54=>?_) (fun hc54=>?_)
     .
      have hn46:n<xs.length:=by omega
      have hinv:lI c (k+1) xs:=hS.ins hk hyes (by rw[<-hm];exact Sl hnx hn46 ((D9 _ m).1 hc54)) (by omega);exact at_ ⟨xs,k+1⟩ (by dsimp only;exact⟨hinv,(by omega)⟩)
     .
      have hnew: ∀h:n<xs.length,xs[n]≠m:=fun h e=>hc54 ((D9 _ m).2 e);obtain⟨ys,hys⟩: ∃ys,ys=xs.take n++m::xs.drop n:=⟨_,rfl⟩;have hinv:lI c (k+1) ys:=hS.ins hk hyes (by rw[<-hm,PP hnx hnew,hys]) (by rw[hys];simp;omega);refine s3 n _ J J J J (gu _) (by rw[hxl];exact hnl) J<|ro J J<|mz n xs.length _ J J (by rw[hxl]) J (gu _) hnl (by omega) J<|?_;refine ap _ J J (Ib _ _ _) J<|mp (hv:=by simp only[ac];exact⟨by kernel_rfl,by omega⟩) (ho:=fun _=>⟨JH _ _,by simp⟩) (ys.map eL) J (by rw[hys,bR,bT,gN,jQ,aT (l:=xs.map eL) (i:=xs.length) (by simp)];rfl) (Q6 _ _ _ _) J<|?_;exact at_ ⟨ys,k+1⟩ (by dsimp only;exact⟨hinv,(by omega)⟩)
    .
     have hnew: ∀h:n<xs.length,xs[n]≠m:=fun h=>absurd h (by omega);obtain⟨ys,hys⟩: ∃ys,ys=xs.take n++m::xs.drop n:=⟨_,rfl⟩;have hinv:lI c (k+1) ys:=hS.ins hk hyes (by rw[<-hm,PP hnx hnew,hys]) (by rw[hys];simp;omega);refine s3 n _ J J J J (gu _) (by rw[hxl];exact hnl) J<|ro J J<|mz n xs.length _ J J (by rw[hxl]) J (gu _) hnl (by omega) J<|?_;refine ap _ J J (Ib _ _ _) J<|mp (hv:=by simp only[ac];exact⟨by kernel_rfl,by omega⟩) (ho:=fun _=>⟨JH _ _,by simp⟩) (ys.map eL) J (by rw[hys,bR,bT,gN,jQ,aT (l:=xs.map eL) (i:=xs.length) (by simp)];rfl) (Q6 _ _ _ _) J<|?_;exact at_ ⟨ys,k+1⟩ (by dsimp only;exact⟨hinv,(by omega)⟩)
 .
  have hfin:fg c=xs:=hS.done (by have:=hS.le;omega);refine cs 71 J J J (fun hg71=>?_) (fun hg71=>?_)
  .
   exact rz J (by rw[r6,if_pos hg71,hfin];rfl)
  .
   exact rz J (by rw[r6,if_neg hg71,hfin];rfl)
section
variable {α:Type} (c:α->α->Int)
def fk(x:α):List α->List α
 |[]=>[x]
 |u::t=>if c u x<0 then u::fk x t else if c u x=0 then u::t else x::u::t
def jG(x:α)(xs:List α):Nat:=(xs.takeWhile fun u=>decide (c u x<0)).length
def Cv(x:α)(xs:List α):jG c x xs<=xs.length:=(List.takeWhile_sublist _).length_le
def uk{x:α}{xs:List α}{n:Nat}(h1:n<=xs.length)(h2: ∀j (h:j<xs.length),j<n->c xs[j] x<0)(h3: ∀h:n<xs.length,¬c xs[n] x<0):jG c x xs=n:=
 E6 h1 (fun j h hj=>decide_eq_true (h2 j h hj)) (fun h=>decide_eq_false (h3 h))
def zg{x:α}: ∀{xs:List α} {n:Nat},jG c x xs=n->(h:n<xs.length)->c xs[n] x=0->fk c x xs=xs
 |[],n,_,h,_=>by simp at h
 |u::t,n,hn,h,e=>by
  rw[fk];unfold jG at hn;rw[nN] at hn;by_cases hu:c u x<0
  ·rw[if_pos hu]
   rw[if_pos (by simpa using hu)] at hn;obtain⟨k,rfl⟩: ∃k,n=k+1:=⟨n-1,by simp at hn;omega⟩;rw[zg (xs:=t) (n:=k) (by unfold jG;simpa using hn) (by simpa using h) (by simpa using e)]
  ·rw[if_neg (by simpa using hu)] at hn
   simp at hn;subst hn;rw[if_neg hu,if_pos (by simpa using e)]
def tO{x:α}: ∀{xs:List α} {n:Nat},jG c x xs=n->(∀h:n<xs.length,c xs[n] x≠0)->fk c x xs=xs.take n++x::xs.drop n
 |[],n,hn,_=>by simp[jG] at hn;subst hn;rfl
 |u::t,n,hn,e=>by
  rw[fk];unfold jG at hn;rw[nN] at hn;by_cases hu:c u x<0
  ·rw[if_pos hu]
   rw[if_pos (by simpa using hu)] at hn;obtain⟨k,rfl⟩: ∃k,n=k+1:=⟨n-1,by simp at hn;omega⟩;rw[tO (xs:=t) (n:=k) (by unfold jG;simpa using hn) (fun h=>by have:=e (by simpa using h);simpa using this)];simp
  ·rw[if_neg (by simpa using hu)] at hn
   simp at hn;subst hn;have:=e (by simp);rw[if_neg hu,if_neg (by simpa using this)];rfl
def A'(x:α): ∀(xs:List α),(fk c x xs).length<=xs.length+1
 |[]=>aN _
 |u::t=>by
  have:=A' x t;rw[fk];split
  ·simp;omega
  ·split<;>simp
def Pj{x y:α}: ∀{xs:List α},y∈fk c x xs->y=x\/y∈xs
 |[],h=>by rw[fk,aW] at h;exact .inl h
 |u::t,h=>by
  rw[fk] at h;split at h
  ·rcases aY.1 h with rfl|h
   ·exact .inr aQ
   ·rcases Pj h with h|h
    ·exact .inl h
    ·exact .inr (aJ _ h)
  ·split at h
   ·exact .inr h
   ·rcases aY.1 h with rfl|h
    ·exact .inl J
    ·exact .inr h
def tT(l:List α):List α:=l.foldl (fun out x=>fk c x out) []
def K0: ∀(l o:List α),(l.foldl (fun out x=>fk c x out) o).length<=l.length+o.length
 |[],o=>by simp
 |x::t,o=>by
  have:=K0 t (fk c x o);have:=A' c x o;simp only[jU,bZ];omega
def Q7{y:α}: ∀{l o:List α},y∈l.foldl (fun out x=>fk c x out) o->y∈l\/y∈o
 |[],o,h=> .inr h
 |x::t,o,h=>by
  rcases Q7 (l:=t) h with h|h
  ·exact .inl (aJ _ h)
  ·rcases Pj c h with rfl|h
   ·exact .inl aQ
   ·exact .inr h
end
def zJ{x:Rat}: ∀{l:List Rat},mv x l=fk bm x l
 |[]=>rfl
 |u::t=>by
  have e1:bm u x<0↔u<x:=As u x;have e2:bm u x=0↔u=x:=tw u x;rw[mv,fk,zJ (l:=t)];by_cases h:u<x
  ·rw[if_pos h,if_pos (e1.2 h)]
  ·rw[if_neg h,if_neg (fun e=>h (e1.1 e))]
   by_cases h2:u=x
   ·rw[if_pos h2,if_pos (e2.2 h2)]
   ·rw[if_neg h2,if_neg (fun e=>h2 (e2.1 e))]
def vg{α β:Type}{f:α->β}{l:List α}{k:Nat}{x:α}(h:l[k]? =some x):(l.take k).map f++[f x]=(l.take (k+1)).map f:=by
 rw[jV,h,bR];rfl
def Qq{a i:Nat}[ha:BN a i](hi:i<=400000000:=by decide):PF GB prog 126 [dN a] (dN a):=by
 have hl:=fi (dg a);have hb:=lB ha.h;refine fn func126 J J ntmps126 J J (fun C=>?_);refine rH J J<|ap ((dg a).map dU) J J (vh _) J<|?_;refine i9 5 J ?_;exact rz J J
def Cj{z:Int}{i:Nat}[hz:BI z i](hi:i<=400000000:=by decide):PF GB prog 125 [eI z] (eI z):=by
 refine fn func125 J J ntmps125 J J (fun C=>?_);refine cl J (Qq (a:=z.natAbs) (i:=i) (ha:=⟨hz.h⟩) hi) J<|?_;exact rz J J
def Se{l:aa}(hl:BL l 96):PF GB prog 86 [eL l] (eL l):=by
 haveI h1:BI l.a 96:=⟨hl.a⟩;haveI h2:BI l.b 96:=⟨hl.b⟩;haveI h3:BI l.c 96:=⟨hl.c⟩;refine fn func86 J J ntmps86 J J (fun C=>?_);refine cl J (Cj (z:=l.a)) J<|cl J (Cj (z:=l.b)) J<|cl J (Cj (z:=l.c)) J<|?_;exact rz J J
def KU{ds:List Nat}(hd:bp ds)(hn:ds.length<=1000000):PF GB prog 52 [fA ds] (dN (dv ds)):=by
 have hm:=fi ds;refine fn func52 J J ntmps52 J J (fun C=>?_);refine rH J J<|ap (ds.map dU) J J (vh _) J<|fz 5 J J<|cl J (sA (ds:=ds) (by omega)) J<|?_;exact rz J (by unfold dN;rw[pf hd];rfl)
def aJP{neg:Bool}{ds:List Nat}(hd:bp ds)(hn:ds.length<=1000000):PF GB prog 53 [.ag [.v (.bool neg),fA ds]] (eI (o4 neg ds)):=by
 refine fn func53 J J ntmps53 J J (fun C=>?_);refine cl J (KU hd hn) J<|cl J ku J<|?_;exact rz J J
def rlD(r:RL):DV:= .tp [if r.nm then eL r.l else .ag [.v (.bool false), .sl [], .v (.bool false), .sl [], .v (.bool false), .sl []],vB (decide (r.nm/\r.l.ok))]
def smB(n:Int)(ls:List (List Nat)):Bool:=ls.all fun d=>decide ((d.length:Int)<=n)
def RL.smB(n:Int)(r:RL):Bool:=Sx.smB n [r.da,r.db,r.dc]
def rlB(n:Int)(ls:List RL):Bool:=ls.all fun r=>r.smB n
def T'{n i:Nat}[h:BN n i](hi:i<=20000000:=by decide):PF GB prog 52 [dN n] (dN n):=by
 have hl:=lB h.h;have:=KU (GB:=GB) (ds:=dg n) (kI n) (by omega);rw[cd,<-GH] at this;exact this
def Wc(z:Int):o4 (decide (z<0)) (dg z.natAbs)=z:=by
 unfold o4;rw[cd];split<;>(rename_i h;simp at h;omega)
def Vh{z:Int}{i:Nat}[h:BI z i](hi:i<=20000000:=by decide):PF GB prog 53 [eI z] (eI z):=by
 have hl:=lB h.h;have:=aJP (GB:=GB) (neg:=decide (z<0)) (ds:=dg z.natAbs) (kI _) (by omega);rw[Wc,<-GH] at this;exact this
def Z'{n:Nat}(h:0<n): ¬((((dg n).map dU).length:Nat):Int)=0:=by
 rw[aK];have:=vW (n:=n);omega
instance BQ.m1':BQ (((-1:Int):Int):Rat) 2:=⟨by decide,by decide⟩
instance BQ.m1:BQ (-1:Rat) 2:=⟨by decide,by decide⟩
def El{q:Rat}{i:Nat}[h:BQ q i](hi:i<=20000000:=by decide):PF GB prog 14 [eR q] (eQ q):=by
 have hd:=q.den_pos;refine fn func14 J J ntmps14 J J (fun C=>?_);refine cl (fu:=⟨8⟩) J (T' (n:=q.den) hi) J<|cO J (by show some (decide _)=some false;rw[decide_eq_false (Z' hd)]) J<|cl J (Vh (z:=q.num) hi) J<|?_;refine cl J (vH (x:=q.num) (d:=q.den) hd (by omega) (by omega)) J<|?_;exact rz J (by rw[Rat.mkRat_self];rfl)
def HA{q:Rat}{i:Nat}[h:BQ q i](hi:i<=400000000:=by decide):PF GB prog 61 [eQ q] (eR q):=by
 refine fn func61 J J ntmps61 J J (fun C=>?_);refine cl J (Cj (z:=q.num) hi) J<|cl J (kO (q:=q)) J<|cl J (Qq (a:=q.den) hi) J<|?_;exact rz J J
def QU{p:ab}{i:Nat}[h:aO p i](hi:i<=20000000:=by decide):PF GB prog 23 [pc p] (eP p):=by
 refine fn func23 J J ntmps23 J J (fun C=>?_);refine cl J (El (q:=p.x) hi) J<|cl J (El (q:=p.y) hi) J<|?_;exact rz J J
def Sz{p:ab}{i:Nat}[h:aO p i](hi:i<=20000:=by decide):PF GB prog 30 [eP p] (pc p):=by
 refine fn func30 J J ntmps30 J J (fun C=>?_);refine cl J (HA (q:=p.x) (i:=i) (by omega)) J<|cl J (HA (q:=p.y) (i:=i) (by omega)) J<|?_;exact rz J J
def gr{α:Type}(f:α->DV)(l:List α):(l.map f).length=l.length:=aK ..
def ql(ps:List ab):cI 6 (ps.map eP):=fun d hd=>by
 obtain⟨u,_,rfl⟩:=bV.1 hd;exact⟨rfl,rfl⟩
def V7(ps:List ab):cI 6 (ps.map pc):=fun d hd=>by
 obtain⟨u,_,rfl⟩:=bV.1 hd;exact⟨rfl,rfl⟩
def aH9{ps:List ab}(hb: ∀p∈ps,aO p 1200)(hn:ps.length<=1000000):PF GB prog 119 [.sl (ps.map pc)] (.sl (ps.map eP)):=by
 have hm:=gr pc ps;refine fn (fu:=⟨15⟩) func119 J J ntmps119 J J (fun C=>?_);refine aj 7 (.d (vI (ps.length:Nat))) J (by rw[hm]<;>rfl) ?_;refine gx J<|?_;refine nr 3 3 62 6 J J J ?_;refine lp (X:=Nat) (fun k=>[(8, .d (vI (k:Nat))),(3, .rw 3)]) (fun k=>[(3,some (.b 62 6 ((ps.take k).map eP) true))]) (fun k=>k<=ps.length) (fun k=>ps.length-k) 0 J (bJ _) (fun _=>J) (fun k hk=>?_);have hml:=gr eP (ps.take k);rw[cR] at hml;refine br J J J (fun hc9=>?_) (fun hc9=>?_)
 .
  obtain⟨z,hz⟩: ∃s,ps[k]? =some s:=⟨_,aZ (by omega)⟩;have hzm:=aL hz;refine ix _ J (fe hz) J<|cl J (QU (p:=z) (h:=hb z hzm)) J<|rf J J<|ap ((ps.take (k+1)).map eP) J (vg hz) (ql [z]) J<|?_;refine iv 16 3 J ?_;exact at_ (k+1) ⟨(by omega),(by omega)⟩
 .
  obtain rfl:k=ps.length:=by omega
  refine i9 3 J ?_;exact rz J (by rw[dZ];rfl)
def N1{ps:List ab}(hb: ∀p∈ps,aO p 1200)(hn:ps.length<=1000000):PF GB prog 56 [.sl (ps.map eP)] (.sl (ps.map pc)):=by
 have hm:=gr eP ps;refine fn (fu:=⟨15⟩) func56 J J ntmps56 J J (fun C=>?_);refine aj 7 (.d (vI (ps.length:Nat))) J (by rw[hm]<;>rfl) ?_;refine gx J<|?_;refine nr 3 3 65 6 J J J ?_;refine lp (X:=Nat) (fun k=>[(8, .d (vI (k:Nat))),(3, .rw 3)]) (fun k=>[(3,some (.b 65 6 ((ps.take k).map pc) true))]) (fun k=>k<=ps.length) (fun k=>ps.length-k) 0 J (bJ _) (fun _=>J) (fun k hk=>?_);have hml:=gr pc (ps.take k);rw[cR] at hml;refine br J J J (fun hc9=>?_) (fun hc9=>?_)
 .
  obtain⟨z,hz⟩: ∃s,ps[k]? =some s:=⟨_,aZ (by omega)⟩;have hzm:=aL hz;refine ix _ J (fe hz) J<|cl J (Sz (p:=z) (h:=hb z hzm)) J<|rf J J<|ap ((ps.take (k+1)).map pc) J (vg hz) (V7 [z]) J<|?_;refine iv 16 3 J ?_;exact at_ (k+1) ⟨(by omega),(by omega)⟩
 .
  obtain rfl:k=ps.length:=by omega
  refine i9 3 J ?_;exact rz J (by rw[dZ];rfl)
def NT{p q:ab}{i j:Nat}[hp:aO p i][hq:aO q j](hi:i<=100000:=by decide)(hj:j<=100000:=by decide):PF GB prog 275 [eP p,eP q] (eP (ck p q (-1))):=by
 refine fn func275 J J ntmps275 J J (fun C=>?_);refine cl J (lc (n:= -1) (by decide) (by decide)) J<|cl J (yq (p:=p) (q:=q) (c:=((-1:Int):Rat)) (i:=i) (j:=j) (k:=2) (by omega) (by omega)) J<|?_;exact rz J (by rw[show((-1:Int):Rat)= -1 from J];rfl)
def NP{a b c:ab}{i j k:Nat}[ha:aO a i][hb:aO b j][hc:aO c k](hi:i<=80000:=by decide)(hj:j<=80000:=by decide)(hk:k<=80000:=by decide):PF GB prog 278 [eP a,eP b,eP c] (vI (yc a b c)):=by
 refine fn func278 J J ntmps278 J J (fun C=>?_);refine cl J (NT (p:=b) (q:=a) (i:=j) (j:=i) (by omega) (by omega)) J<|cl J (NT (p:=c) (q:=a) (i:=k) (j:=i) (by omega) (by omega)) J<|?_;refine cl J (Cx (p:=ck b a (-1)) (q:=ck c a (-1)) (by omega) (by omega)) J<|cl J (qa (q:=(ck b a (-1)).cross (ck c a (-1)))) J<|?_;exact rz J J
def gn(p q:ab):Int:=if bm p.x q.x≠0 then bm p.x q.x else bm p.y q.y
def PZ{p q:ab}{i j:Nat}[hp:aO p i][hq:aO q j](hi:i<=100000:=by decide)(hj:j<=100000:=by decide):PF GB prog 211 [eP p,eP q] (vI (gn p q)):=by
 refine fn func211 J J ntmps211 J J (fun C=>?_);refine cl J (lu (a:=p.x) (b:=q.x) (by omega) (by omega)) J<|?_;refine br J J J (fun hc12=>?_) (fun hc12=>?_)
 .
  exact rz J (by unfold gn;rw[if_pos hc12];rfl)
 .
  refine cl J (lu (a:=p.y) (b:=q.y) (by omega) (by omega)) J<|?_;exact rz J (by unfold gn;rw[if_neg hc12];rfl)
def wV(l:aa):Bool:=decide (l.a<0\/(l.a=0/\l.b<0))
def aa.canon(l:aa):aa:=if wV l then l.rev else l
def A7(a:Int):a.sign<0↔a<0:=by
 rcases rT a 0 with h|h|h
 ·rw[fM h];omega
 ·subst h;simp
 ·rw[iZ h];omega
def NL(a:Int):a.sign=0↔a=0:=jW
def Md{l:aa}(h:l.a<0\/(l.a=0/\l.b<0)):DV.tp [eL l.canon,vB (wV l)]= .tp [eL l.rev,vB true]:=by
 unfold aa.canon wV;rw[decide_eq_true h];rfl
def L0{l:aa}(h: ¬(l.a<0\/(l.a=0/\l.b<0))):DV.tp [eL l.canon,vB (wV l)]= .tp [eL l,vB false]:=by
 unfold aa.canon wV;rw[decide_eq_false h];rfl
def Ys{l:aa}[hl:LB l]:PF GB prog 178 [eL l] (.tp [eL l.canon,vB (wV l)]):=by
 refine fn func178 J J ntmps178 J J (fun C=>?_);refine cl J (Cz (z:=l.a)) J<|?_;refine cs 10 J J J (fun hg10=>?_) (fun hg10=>?_)
 .
  refine cl J (yN (l:=l)) J<|?_;exact rz J (by rw[Md (.inl ((A7 _).1 hg10))];rfl)
 .
  refine cs 13 J J J (fun hg13=>?_) (fun hg13=>?_)
  .
   refine cl J (Cz (z:=l.b)) J<|?_;refine br J J J (fun hc19=>?_) (fun hc19=>?_)
   .
    refine cl J (yN (l:=l)) J<|?_;exact rz J (by rw[Md (.inr ⟨(NL _).1 hg13,(A7 _).1 hc19⟩)];rfl)
   .
    exact rz J (by rw[L0 (fun e=>e.elim (fun e=>hg10 ((A7 _).2 e)) (fun e=>hc19 ((A7 _).2 e.2)))];rfl)
  .
   exact rz J (by rw[L0 (fun e=>e.elim (fun e=>hg10 ((A7 _).2 e)) (fun e=>hg13 ((NL _).2 e.1)))];rfl)
instance LB.canon (l:aa) [h:LB l]:LB l.canon:=by unfold aa.canon;split;exact LB.rev h;exact h
end Go.Sx
end
