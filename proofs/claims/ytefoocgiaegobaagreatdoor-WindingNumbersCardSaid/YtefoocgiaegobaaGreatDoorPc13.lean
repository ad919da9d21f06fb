import Derived.Test.YtefoocgiaegobaaGreatDoorPc12
set_option linter.all false
set_option maxHeartbeats 4000000
set_option maxRecDepth 100000
section
namespace Go.Sx
open Go Go.Proofs Tryz
variable {GB:Gh}
def SQ{p q r:Bool}{a b c:Nat}(h:Nat.gcd a b≠0):ab.ok ⟨zv p (a/Nat.gcd (Nat.gcd a b) c),zv q (b/Nat.gcd (Nat.gcd a b) c),zv r (c/Nat.gcd (Nat.gcd a b) c)⟩:=by
 have hg:0<Nat.gcd (Nat.gcd a b) c:=jK _ (fT h);have d0:Nat.gcd (Nat.gcd a b) c∣Nat.gcd a b:=iY _ _;have d1:Nat.gcd (Nat.gcd a b) c∣a:=oV d0 (iY _ _);have d2:Nat.gcd (Nat.gcd a b) c∣b:=oV d0 (jR _ _);have d3:Nat.gcd (Nat.gcd a b) c∣c:=jR _ _;refine⟨?_,?_⟩
 ·rintro ⟨h1,h2⟩
  have h1':=congrArg Int.natAbs h1;have h2':=congrArg Int.natAbs h2;simp only[mj,Int.natAbs_zero] at h1' h2';have e1:=Nat.div_mul_cancel d1;have e2:=Nat.div_mul_cancel d2;rw[h1',kX] at e1;rw[h2',kX] at e2;exact h (by rw[<-e1,<-e2];rfl)
 ·simp only[mj]
  rw[Nat.gcd_div d1 d2,Nat.gcd_div d0 d3,Nat.div_self hg]
def C7(p:Bool)(a g:Nat):(zv p (a/g)).natAbs<=a:=by rw[mj];exact iL ..
def PF.eq{P:Program}{f:FuncId}{vs:List DV}{r r':DV}(h:PF GB P f vs r)(e:r=r'):PF GB P f vs r':=e▸h
def iP(m n:Int):aa:=⟨(m:Rat),(n:Rat)⟩
theorem ug{m:Int}{k:Nat}(h:m.natAbs<2^k):BI m k:=⟨h⟩
theorem gg{m:Int}{k:Nat}(h:m.natAbs<=1000)(hk:10<=k):BI m k:=⟨cS (show m.natAbs<2^10 by omega) (aM (by decide) hk)⟩
instance aw.int (m n:Int) (i:Nat) [h:BI m i] [k:BI n i]:aw (iP m n) (i+1):=⟨inferInstanceAs (BQ (m:Rat) (i+1)),inferInstanceAs (BQ (n:Rat) (i+1))⟩
def p6{q:Rat}{k:Int}(h:q=(k:Rat)):eQ q=eQ (k:Rat):=by rw[h]
def Q4{p:aa}{m n:Int}(h1:p.x=(m:Rat))(h2:p.y=(n:Rat)):eP p=eP (iP m n):=by
 obtain⟨x,y⟩:=p;simp only at h1 h2;subst h1 h2;rfl
def er(a b c:Int):ab:=
 ⟨zv (decide (a<0)) (a.natAbs/Nat.gcd (Nat.gcd a.natAbs b.natAbs) c.natAbs),zv (decide (b<0)) (b.natAbs/Nat.gcd (Nat.gcd a.natAbs b.natAbs) c.natAbs),zv (decide (c<0)) (c.natAbs/Nat.gcd (Nat.gcd a.natAbs b.natAbs) c.natAbs)⟩
def QH{a b c:Int}(h: ¬(a=0/\b=0)):(er a b c).ok:=
 SQ fun e=>h ⟨jQ.1 (jM e),jQ.1 (jS e)⟩
def Fh(a b c:Int):(er a b c).a.natAbs<=a.natAbs/\(er a b c).b.natAbs<=b.natAbs/\(er a b c).c.natAbs<=c.natAbs:=⟨C7 ..,C7 ..,C7 ..⟩
def ja{m n:Int}(hm:m.natAbs<=1000)(hn:n.natAbs<=1000):PF GB prog 79 [.v (.int .i64 m), .v (.int .i64 n)] (eP (iP m n)):=by
 refine fn func79 J J ntmps79 J J (fun C=>?_);refine cl J (rN (n:=m) (by omega) (by omega)) J<|cl J (rN (n:=n) (by omega) (by omega)) J<|?_;exact rz J J
def BS{m n m' n' k:Int}(hm:m.natAbs<=1000)(hn:n.natAbs<=1000)(hm':m'.natAbs<=1000)(hn':n'.natAbs<=1000)(hk:k.natAbs<=1000):PF GB prog 100 [eP (iP m n),eQ (k:Rat),eP (iP m' n')] (eP (iP (m+k*m') (n+k*n'))):=by
 haveI:=gg (k:=10) hm (by decide);haveI:=gg (k:=10) hn (by decide);haveI:=gg (k:=10) hm' (by decide);haveI:=gg (k:=10) hn' (by decide);haveI:=gg (k:=10) hk (by decide);exact PF.eq (EO (p:=iP m n) (q:=iP m' n') (c:=(k:Rat))) (Q4 (by show(m:Rat)+(k:Rat)*(m':Rat)=_;push_cast;rfl) (by show(n:Rat)+(k:Rat)*(n':Rat)=_;push_cast;rfl))
def P4{m n m' n':Int}(hm:m.natAbs<=1000)(hn:n.natAbs<=1000)(hm':m'.natAbs<=1000)(hn':n'.natAbs<=1000):PF GB prog 154 [eP (iP m n),eP (iP m' n')] (eP (iP (m-m') (n-n'))):=by
 refine fn func154 J J ntmps154 J J (fun C=>?_);refine cl J (rN (n:= -1) (by decide) (by decide)) J<|cl J (BS (m:=m) (n:=n) (m':=m') (n':=n') (k:= -1) hm hn hm' hn' (by decide)) J<|?_;exact rz J (by rw[show m-m'=m+ -1*m' by omega,show n-n'=n+ -1*n' by omega];rfl)
def y5{m n m' n':Int}(hm:m.natAbs<=1000)(hn:n.natAbs<=1000)(hm':m'.natAbs<=1000)(hn':n'.natAbs<=1000):PF GB prog 61 [eP (iP m n),eP (iP m' n')] (.v (.bool (decide (m=m'/\n=n')))):=by
 haveI:=gg (k:=10) hm (by decide);haveI:=gg (k:=10) hn (by decide);haveI:=gg (k:=10) hm' (by decide);haveI:=gg (k:=10) hn' (by decide);refine fn func61 J J ntmps61 J J (fun C=>?_);refine cl J (sV (a:=(m:Rat)) (b:=(m':Rat))) J<|?_;refine cs 11 J J J (fun hg11=>?_) (fun hg11=>?_)
 .
  refine cl J (sV (a:=(n:Rat)) (b:=(n':Rat))) J<|?_;exact rz J (by rw[qi] at hg11;have e:m=m':=(by exact_mod_cast hg11);exact congrArg (fun z=>DV.v (.bool z)) (decide_eq_decide.2 (by rw[qi,nX];simp[e])))
 .
  exact rz J (by rw[qi] at hg11;have e: ¬m=m':=(fun e=>hg11 (by rw[e]));show DV.v (.bool false)=DV.v (.bool _);rw[decide_eq_false (fun h=>e h.1)])
def DU{a b k:Nat}(ha:a<k)(hb:b<k):Nat.gcd a b<k:=by
 rcases dQ a with rfl|p
 ·simpa using hb
 ·exact eJ (Nat.gcd_le_left b p) ha
def SW{a b c:Int}{i:Nat}(ha:BI a i)(hb:BI b i)(hc:BI c i)(hi:i<=100000000)(h0: ¬(a=0/\b=0)):PF GB prog 340 [eI a,eI b,eI c] (.tp [eL (er a b c), .v (.bool true)]):=by
 have hgn:Nat.gcd a.natAbs b.natAbs≠0:=fun h=>h0 ⟨jQ.1 (jM h),jQ.1 (jS h)⟩;have hgp:0<Nat.gcd (Nat.gcd a.natAbs b.natAbs) c.natAbs:=jK _ (fT hgn);haveI hb1:BN (Nat.gcd a.natAbs b.natAbs) i:=⟨DU ha.h hb.h⟩;haveI hb2:BN (Nat.gcd (Nat.gcd a.natAbs b.natAbs) c.natAbs) i:=⟨DU hb1.h hc.h⟩;refine fn func340 J J ntmps340 J J (fun C=>?_);refine cl J (A2 (a:=a.natAbs) (b:=b.natAbs) (by omega) (by omega)) J<|?_;refine br J J J (fun hc22=>?_) (fun hc22=>?_)
 .
  exact absurd hc22 (by rw[aX];intro h;exact hgn (qn.1 (by omega)))
 .
  refine cl J (A2 (a:=Nat.gcd a.natAbs b.natAbs) (b:=c.natAbs) (by omega) (by omega)) J<|cl J (tE (a:=a.natAbs) (b:=Nat.gcd (Nat.gcd a.natAbs b.natAbs) c.natAbs) hgp (by omega) (by omega)) J<|?_;refine cl J (tE (a:=b.natAbs) (b:=Nat.gcd (Nat.gcd a.natAbs b.natAbs) c.natAbs) hgp (by omega) (by omega)) J<|cl J (tE (a:=c.natAbs) (b:=Nat.gcd (Nat.gcd a.natAbs b.natAbs) c.natAbs) hgp (by omega) (by omega)) J<|?_;refine cl J (gH (m:=a.natAbs/(Nat.gcd (Nat.gcd a.natAbs b.natAbs) c.natAbs)) (neg:=decide (a<0))) J<|cl J (gH (m:=b.natAbs/(Nat.gcd (Nat.gcd a.natAbs b.natAbs) c.natAbs)) (neg:=decide (b<0))) J<|?_;refine cl J (gH (m:=c.natAbs/(Nat.gcd (Nat.gcd a.natAbs b.natAbs) c.natAbs)) (neg:=decide (c<0))) J<|?_;exact rz J J
def gy(n n':Int):Int:= -(n'-n)
def gu(m m':Int):Int:=m'-m
def mm(m n m' n':Int):Int:= -(gy n n'*m+gu m m'*n)
def fp(m n m' n':Int):ab:=er (gy n n') (gu m m') (mm m n m' n')
def vz{a b:Int}(ha:a.natAbs<=2000)(hb:b.natAbs<=1000):(a*b).natAbs<=2000000:=by
 rw[gQ];exact mY ha hb
def TQ{m n m' n':Int}(hm:m.natAbs<=1000)(hn:n.natAbs<=1000)(hm':m'.natAbs<=1000)(hn':n'.natAbs<=1000)(h0: ¬(m=m'/\n=n')):PF GB prog 246 [eP (iP m n),eP (iP m' n')] (.tp [eL (fp m n m' n'), .v (.bool true)]):=by
 obtain⟨a,hA⟩: ∃a,a=gy n n':=⟨_,rfl⟩;obtain⟨b,hB⟩: ∃b,b=gu m m':=⟨_,rfl⟩;have hA':a= -(n'-n):=hA;have hB':b=m'-m:=hB;obtain⟨c,hC⟩: ∃c,c= -(a*m+b*n):=⟨_,rfl⟩;have e1:=vz (a:=a) (b:=m) (by omega) hm;have e2:=vz (a:=b) (b:=n) (by omega) hn;haveI hm0:=gg (k:=10) hm (by decide);haveI hn0:=gg (k:=10) hn (by decide);haveI ha:BI a 30:=ug (by omega);haveI hb:BI b 30:=ug (by omega);haveI hc:BI c 30:=ug (by omega);have hthr:fp m n m' n'=er a b c:=by rw[hC,hA,hB];rfl
 have hne: ¬(a=0/\b=0):=fun h=>h0 (by omega);refine fn func246 J J ntmps246 J J (fun C=>?_);refine cl J (P4 (m:=m') (n:=n') (m':=m) (n':=n) hm' hn' hm hn) J<|cl J (PF.eq (wX (q:=(((n'-n):Int):Rat))) (p6 (k:=a) (by rw[hA'];push_cast;rfl))) J<|?_;refine cl J (PF.eq (lD (a:=(a:Rat)) (b:=(m:Rat))) (p6 (k:=a*m) (by push_cast;rfl))) J<|cl J (PF.eq (by haveI:BI (m'-m) 30:=(by rw[<-hB'];exact hb);exact lD (a:=(((m'-m):Int):Rat)) (b:=(n:Rat))) (p6 (k:=b*n) (by rw[hB'];push_cast;rfl))) J<|?_;refine cl J (PF.eq (u5 (a:=((a*m:Int):Rat)) (b:=((b*n:Int):Rat))) (p6 (k:=a*m+b*n) (by push_cast;rfl))) J<|cl J (PF.eq (wX (q:=((a*m+b*n:Int):Rat))) (p6 (k:=c) (by rw[hC];push_cast;rfl))) J<|?_;refine cl J (iq (q:=(a:Rat))) J<|cl J (iq (q:=(((m'-m):Int):Rat))) J<|cl J (PF.eq (mI (a:=1) (b:=1)) J) J<|?_;refine cl J (iq (q:=(c:Rat))) J<|cl J (PF.eq (mI (a:=1) (b:=1)) J) J<|cl (fu:=⟨1⟩) J (gH (neg:=false) (m:=1)) J<|?_;refine aj 40 (.d (eQ ((1:Int):Rat))) J J ?_;refine gx J<|cl J (PF.eq (lD (a:=(a:Rat)) (b:=((1:Int):Rat))) (p6 (k:=a) (by push_cast;grind))) J<|cl J (PF.eq (by haveI:BI (m'-m) 30:=(by rw[<-hB'];exact hb);exact lD (a:=(((m'-m):Int):Rat)) (b:=((1:Int):Rat))) (p6 (k:=b) (by rw[hB'];push_cast;grind))) J<|?_;refine cl J (PF.eq (lD (a:=(c:Rat)) (b:=((1:Int):Rat))) (p6 (k:=c) (by push_cast;grind))) J<|cl J (SW (a:=a) (b:=b) (c:=c) ha hb hc (by decide) hne) J<|?_;exact rz J (by rw[hthr];rfl)
def RC{es:List Int}{a:Nat}(h:a<es.length):(es.map vI)[(a:Int).toNat]? =some (vI es[a]):=by simp[h]
def Md:eP (iP 0 0)= .ag [.v (.bool false), .sl [], .sl [], .v (.bool false), .sl [], .sl []]:=by
 unfold eP iP;simp[y6,dD]
def aq(es:List Int)(n:Int)(a:Nat):Nat×Nat:=
 if h:a<es.length then((if Int.tmod es[a] n<0 then Int.tmod es[a] n+n else Int.tmod es[a] n).toNat,a+1) else(0,a)
def iu{es:List Int}{n:Int}{a:Nat}(hn:1<=n):((aq es n a).1:Int)<n:=by
 unfold aq;split
 ·rename_i h
  have q2:=Int.tmod_lt_of_pos es[a] (show 0<n by omega);dsimp only;split<;>omega
 ·exact hn
def fH{es:List Int}{n:Int}{a:Nat}(ha:a<=es.length):(aq es n a).2<=es.length:=by
 unfold aq;split
 ·assumption
 ·exact ha
def pF(es:List Int)(a:Nat):(Int×Int)×Nat:=((((aq es 9 a).1:Int)-4,((aq es 9 (aq es 9 a).2).1:Int)-4),(aq es 9 (aq es 9 a).2).2)
def qp{es:List Int}{a:Nat}(ha:a<=es.length):(pF es a).1.1.natAbs<=4/\(pF es a).1.2.natAbs<=4/\(pF es a).2<=es.length:=by
 have h1:=iu (es:=es) (n:=9) (a:=a) (by decide);have h2:=iu (es:=es) (n:=9) (a:=(aq es 9 a).2) (by decide);have h3:=fH (n:=9) (fH (es:=es) (n:=9) ha);unfold pF;exact⟨by dsimp only;omega,by dsimp only;omega,h3⟩
def vF(es:List Int)(a:Nat):(Int×Int)×Nat:=if(pF es a).1.1=0/\(pF es a).1.2=0 then((1,0),(pF es a).2) else pF es a
def te{es:List Int}{a:Nat}(ha:a<=es.length):(vF es a).1.1.natAbs<=4/\(vF es a).1.2.natAbs<=4/\ ¬((vF es a).1.1=0/\(vF es a).1.2=0)/\(vF es a).2<=es.length:=by
 obtain⟨h1,h2,h3⟩:=qp ha;unfold vF;split
 ·exact⟨show(1:Int).natAbs<=4 by decide,show(0:Int).natAbs<=4 by decide,show¬((1:Int)=0/\(0:Int)=0) by decide,h3⟩
 ·rename_i h;exact⟨h1,h2,h,h3⟩
def lF(es:List Int)(a:Nat):ab×Nat:=(fp (pF es a).1.1 (pF es a).1.2 ((pF es a).1.1+1*(vF es (pF es a).2).1.1) ((pF es a).1.2+1*(vF es (pF es a).2).1.2),(vF es (pF es a).2).2)
def js(es:List Int):Nat->Nat->Tr×Nat
 |0,a=>(.leaf (decide (((aq es 2 a).1:Int)=1)),(aq es 2 a).2)
 |d+1,a=>if((aq es 4 a).1:Int)=0 then(.leaf (decide (((aq es 2 (aq es 4 a).2).1:Int)=1)),(aq es 2 (aq es 4 a).2).2) else
  (.node (lF es (aq es 4 a).2).1 (js es d (lF es (aq es 4 a).2).2).1 (js es d (js es d (lF es (aq es 4 a).2).2).2).1,(js es d (js es d (lF es (aq es 4 a).2).2).2).2)
def lz{b:Nat}{es:List Int}(hes:es.length<=400){a:Nat}(ha:a<=es.length){n:Int}(hn:1<=n)(hn2:n<=1000):PM GB prog 18 (gv [none,some (.v (.int .i64 n))] b) b 126 [.sl (es.map vI), .v (.int .i64 (a:Nat))] (.v (.int .i64 ((aq es n a).1:Nat))) [.sl (es.map vI), .v (.int .i64 ((aq es n a).2:Nat))]:=by
 have hel:(es.map vI).length=es.length:=by simp
 refine qI func18 J J ntmps18 J J (fun C b m lo hmb=>?_);refine br J J J (fun hc15=>?_) (fun hc15=>?_)
 .
  have hf:aq es n a=(0,a):=by unfold aq;rw[dif_neg (by omega)]
  exact i5 hmb J J (by rw[hf]<;>rfl) (by rw[hf]<;>rfl)
 .
  have hal:a<es.length:=by omega
  obtain⟨e,he⟩: ∃e,e=es[a]:=⟨_,rfl⟩;have q2:=Int.tmod_lt_of_pos e (show 0<n by omega);have q3: -n<Int.tmod e n:=by have:=Int.lt_tmod_of_pos e (show 0<n by omega);omega
  refine ix (fu:=⟨1⟩) _ J (RC hal) J<|?_;refine aj 25 (.d (vI e)) J (by rw[he]<;>rfl) ?_;refine gx (hv:=by simp only[ah];exact⟨⟨by omega,by kernel_rfl⟩,by omega⟩) J<|?_;refine br J J J (fun hc36=>?_) (fun hc36=>?_)
  .
   have hf:aq es n a=((Int.tmod e n+n).toNat,a+1):=by unfold aq;rw[dif_pos hal,<-he,if_pos hc36]
   exact i5 hmb J J (by rw[hf];show DV.v (.int .i64 _)=DV.v (.int .i64 _);rw[qV (by omega)]) (by rw[hf]<;>rfl)
  .
   have hf:aq es n a=((Int.tmod e n).toNat,a+1):=by unfold aq;rw[dif_pos hal,<-he,if_neg hc36]
   exact i5 hmb J J (by rw[hf];show DV.v (.int .i64 _)=DV.v (.int .i64 _);rw[qV (by omega)]) (by rw[hf]<;>rfl)
def Cb{b:Nat}{es:List Int}(hes:es.length<=400){a:Nat}(ha:a<=es.length):PM GB prog 97 (gv [none] b) b 126 [.sl (es.map vI), .v (.int .i64 (a:Nat))] (eP (iP (pF es a).1.1 (pF es a).1.2)) [.sl (es.map vI), .v (.int .i64 ((pF es a).2:Nat))]:=by
 have h1:=iu (es:=es) (n:=9) (a:=a) (by decide);have h2:=iu (es:=es) (n:=9) (a:=(aq es 9 a).2) (by decide);refine qI func97 J J ntmps97 J J (fun C b m lo hmb=>?_);refine cm J (fun b=>(lz (n:=9) hes ha (by decide) (by decide))) J<|cm J (fun b=>(lz (n:=9) hes (fH ha) (by decide) (by decide))) J<|?_;refine cl J (ja (m:=((aq es 9 a).1:Int)-4) (n:=((aq es 9 (aq es 9 a).2).1:Int)-4) (by omega) (by omega)) J<|?_;exact i5 hmb J J J J
def KC{b:Nat}{es:List Int}(hes:es.length<=400){a:Nat}(ha:a<=es.length):PM GB prog 98 (gv [none] b) b 126 [.sl (es.map vI), .v (.int .i64 (a:Nat))] (eP (iP (vF es a).1.1 (vF es a).1.2)) [.sl (es.map vI), .v (.int .i64 ((vF es a).2:Nat))]:=by
 obtain⟨hm,hn,ha1⟩:=qp ha;refine qI func98 J J ntmps98 J J (fun C b m lo hmb=>?_);refine cm (fu:=⟨9⟩) J (fun b=>(Cb hes ha)) J<|?_;refine aj 7 (.d (eP (iP 0 0))) J (by rw[Md]<;>rfl) ?_;refine gx J<|cl J (y5 (m:=(pF es a).1.1) (n:=(pF es a).1.2) (m':=0) (n':=0) (by omega) (by omega) (by decide) (by decide)) J<|?_;refine bd J J J (fun hc8=>?_) (fun hc8=>?_)
 .
  have hf:vF es a=((1,0),(pF es a).2):=by unfold vF;rw[if_pos hc8]
  refine cl J (ja (m:=1) (n:=0) (by decide) (by decide)) J<|?_;exact i5 hmb J J (by rw[hf]<;>rfl) (by rw[hf])
 .
  have hf:vF es a=pF es a:=by unfold vF;rw[if_neg hc8]
  exact i5 hmb J J (by rw[hf]<;>rfl) (by rw[hf])
abbrev ZP:=Int×Int
def ZP.q(p:ZP):aa:=iP p.1 p.2
def ZP.le(k:Nat)(p:ZP):Prop:=p.1.natAbs<=k/\p.2.natAbs<=k
def q6(p q:ZP):ZP:=(p.1+1*q.1,p.2+1*q.2)
def mF(u v:ZP):Int:=u.1*v.2-u.2*v.1
theorem GC{m n p q:Int}(hm:m.natAbs<=1000)(hn:n.natAbs<=1000)(hp:p.natAbs<=1000)(hq:q.natAbs<=1000)(h: ¬(p=m/\q=n)):LB (fp m n p q)/\(fp m n p q).ok:=by
 have e1:(gy n q).natAbs<=2000:=by unfold gy;omega
 have e2:(gu m p).natAbs<=2000:=by unfold gu;omega
 have e3:=vz e1 hm;have e4:=vz e2 hn;have e5:(mm m n p q).natAbs<=4000000:=by unfold mm;omega
 unfold fp;obtain⟨k1,k2,k3⟩:=Fh (gy n q) (gu m p) (mm m n p q);have hb:(2:Nat)^96=79228162514264337593543950336:=by decide
 refine⟨⟨⟨?_,?_,?_⟩⟩,QH ?_⟩
 ·rw[hb];omega
 ·rw[hb];omega
 ·rw[hb];omega
 ·unfold gy gu;omega
def bP(v w:ZP):aI:=⟨fp v.1 v.2 w.1 w.2,⟨dl (fp v.1 v.2 w.1 w.2) v.q,dl (fp v.1 v.2 w.1 w.2) w.q,false,false⟩⟩
def dF(r:List ZP)(i:Nat):ZP:=r.getD ((i+1)%r.length) (0,0)
def gp(r:List ZP):Nat->List aI
 |0=>[]
 |k+1=>gp r k++[bP (r.getD k (0,0)) (dF r k)]
def eh(r:List ZP):List aI:=gp r r.length
structure dt (r:List ZP):Prop where
 n3:3<=r.length
 n6:r.length<=6
 le: ∀p∈r,ZP.le 100 p
 ne: ∀i<r.length,r.getD i (0,0)≠dF r i
def pD{r:List ZP}{i:Nat}(h:i<r.length):r.getD i (0,0)∈r:=by
 rw[aJ,aQ h];exact gT h
def rm{r:List ZP}{i:Nat}(h:i<r.length):dF r i∈r:=pD (cV _ (by omega))
theorem BQ.int1200{m:Int}(h:m.natAbs<=1000):BQ (m:Rat) 1200:=by
 haveI:BI m 11:=gg h (by decide);exact BQ.mono (inferInstance:BQ (m:Rat) 12) (by decide)
theorem JM{l:ab}(hl:LB l)(ho:l.ok){m n:Int}(hm:m.natAbs<=1000)(hn:n.natAbs<=1000):BQ (dl l (iP m n)) 1200:=by
 haveI:=gg (k:=11) hm (by decide);haveI:=gg (k:=11) hn (by decide);have hd:=Bd ho.ne;have hA:BI (l.a*l.a+l.b*l.b) _:=inferInstance;have hB:BI (m*l.b-n*l.a) _:=inferInstance;have hA':=EV (j:=1200) hA (by decide);have hB':=EV (j:=1200) hB (by decide);have e1:l.dir.dot l.dir=((l.a*l.a+l.b*l.b:Int):Rat):=by
  rw[qZ,dW,dW];simp only[ab.dir,aa.dot];grind
 have e2:(iP m n).dot l.dir=((m*l.b-n*l.a:Int):Rat):=by
  rw[qJ,dW,dW];simp only[ab.dir,aa.dot,iP];grind
 have hd':((0:Int):Rat)<((l.a*l.a+l.b*l.b:Int):Rat):=by rw[<-e1];exact hd
 unfold dl;rw[e2,e1];clear hA hB e1 e2;generalize l.a*l.a+l.b*l.b=D at*;generalize m*l.b-n*l.a=M at*;have hD:0<D:=kM.1 hd';refine BQ.of_fracI (n:=M) (D:=D) (by omega) ?_ hB' hA';have h0:(D:Rat)≠0:=fun e=>by rw[e] at hd';exact absurd hd' (by decide)
 have:((D.natAbs:Nat):Rat)=(D:Rat):=by
  have h1:((D.natAbs:Nat):Int)=D:=by omega
  rw[<-h1];rfl
 rw[this];grind
def HM{v w:ZP}(hv:ZP.le 100 v)(hw:ZP.le 100 w)(h:v≠w):tS (bP v w):=by
 obtain⟨h1,h2⟩:=GC (m:=v.1) (n:=v.2) (p:=w.1) (q:=w.2) (by have:=hv.1;omega) (by have:=hv.2;omega) (by have:=hw.1;omega) (by have:=hw.2;omega) (fun e=>h (Prod.ext e.1.symm e.2.symm));exact⟨h1,h2,⟨fun e=>(by cases e),fun e=>(by cases e)⟩,JM h1 h2 (by have:=hv.1;omega) (by have:=hv.2;omega),JM h1 h2 (by have:=hw.1;omega) (by have:=hw.2;omega)⟩
def AZ{r:List ZP}(h:dt r): ∀{k:Nat},k<=r.length->(gp r k).length=k/\ ∀f∈gp r k,tS f
 |0,_=>⟨J,fun f hf=>by cases hf⟩
 |k+1,hk=>by
  obtain⟨h1,h2⟩:=AZ h (k:=k) (by omega);rw[gp];refine⟨by simp[h1],fun f hf=>?_⟩;rcases dK.1 hf with hf|hf
  ·exact h2 f hf
  ·rw[aN] at hf;subst hf
   exact HM (h.le _ (pD (by omega))) (h.le _ (rm (by omega))) (h.ne k (by omega))
def rQ{r:List ZP}(h:dt r):(eh r).length=r.length/\ ∀f∈eh r,tS f:=AZ h (aS _)
def ck(rs:List (List ZP)):List aI:=rs.flatMap eh
def pg: ∀{rs:List (List ZP)},(∀r∈rs,dt r)->(ck rs).length<=6*rs.length/\ ∀f∈ck rs,tS f
 |[],_=>⟨aS _,fun f hf=>by cases hf⟩
 |r::rs,h=>by
  obtain⟨h1,h2⟩:=pg (rs:=rs) fun q hq=>h q (aK _ hq);obtain⟨k1,k2⟩:=rQ (h r aZ);have:=(h r aZ).n6;unfold ck at*;rw[List.flatMap_cons];refine⟨by rw[bK,k1,bL];omega,fun f hf=>?_⟩;rcases dK.1 hf with hf|hf
  ·exact k2 f hf
  ·exact h2 f hf
def oz(a b c:aa):Int:=(aa.cross (cC b a (-1)) (cC c a (-1))).num.sign
def lB(v w p:aa):Int:=
 (if bt v.y p.y<=0/\ ¬bt w.y p.y<=0/\0<oz v w p then 1 else 0)-(if¬bt v.y p.y<=0/\bt w.y p.y<=0/\oz v w p<0 then 1 else 0)
def jE(r:List ZP)(p:aa):Nat->Int
 |0=>0
 |k+1=>jE r p k+lB (r.getD k (0,0)).q (dF r k).q p
def f9(r:List ZP)(p:aa):Int:=jE r p r.length
def mz(fill n:Int):Bool:=(decide (fill=1)&&decide (n.tmod 2≠0))||(decide (fill=2)&&decide (n≠0))
def xP(rs:List (List ZP))(fill:Int)(p:aa):Bool:=mz fill (rs.foldl (fun n r=>n+f9 r p) 0)
def LU(rs:List (List ZP))(fill:Int):Tr:=Ba (xP rs fill) (ck rs).length (ck rs) []
def xH(rs:List (List ZP))(fill:Int):Tr:=(LU rs fill).restrict []
structure SN (k:Nat) (t:Tr):Prop where
 gd:t.gd
 dp:t.depth<=k
 am: ∃K:List ab,K.length<=k/\(∀l∈K,l.ok)/\OJ K t
def iF(p q:ZP):Int:=if p.1<q.1 then-1 else if q.1<p.1 then 1 else if p.2<q.2 then-1 else if q.2<p.2 then 1 else 0
def gI(x:ZP):List ZP->List ZP
 |[]=>[x]
 |u::t=>if iF u x<0 then u::gI x t else if iF u x=0 then u::t else x::u::t
def kP(l:List ZP):List ZP:=l.foldl (fun out x=>gI x out) []
def Ej{x:ZP}: ∀{l:List ZP},(gI x l).length<=l.length+1
 |[]=>aS _
 |u::t=>by
  rw[gI];have:=Ej (x:=x) (l:=t);split
  ·simp;omega
  ·split<;>simp
def T8(l:List ZP):(kP l).length<=l.length:=by
 have key: ∀(l o:List ZP),(l.foldl (fun out x=>gI x out) o).length<=l.length+o.length:=by
  intro l
  induction l with
  |nil=>intro o;simp
  |cons x t ih=>intro o;have:=ih (gI x o);have:=Ej (x:=x) (l:=o);simp only[iK,bL];omega
 have:=key l [];simpa[kP] using this
def m9(a b c d:Int):List ZP:=[(a,b),(c,b),(c,d),(a,d)]
def Td{r:List ZP}{i:Nat}(h:i+1<r.length):dF r i=r.getD (i+1) (0,0):=by unfold dF;rw[dR h]
def SL{r:List ZP}{i:Nat}(h:i+1=r.length):dF r i=r.getD 0 (0,0):=by unfold dF;rw[h,Nat.mod_self]
def GX{a b c d:Int}(h1:a.natAbs<=50)(h2:b.natAbs<=50)(h3:c.natAbs<=50)(h4:d.natAbs<=50)(h5:a<c)(h6:b<d):dt (m9 a b c d):=by
 refine⟨by simp[m9],by simp[m9],fun p hp=>?_,fun i hi=>?_⟩
 ·simp only[m9,aR,kZ,or_false] at hp
  rcases hp with rfl|rfl|rfl|rfl<;>exact⟨by dsimp only;omega,by dsimp only;omega⟩
 ·have:i=0\/i=1\/i=2\/i=3:=by simp[m9] at hi;omega
  rcases this with rfl|rfl|rfl|rfl<;>simp[m9,dF]<;>omega
def mn(p u v:ZP):List ZP:=[p,q6 p u,q6 p v]
def Sn{p u v:ZP}(h1:ZP.le 40 p)(h2:ZP.le 40 u)(h3:ZP.le 40 v)(h:mF u v≠0):dt (mn p u v):=by
 obtain⟨p1,p2⟩:=p;obtain⟨u1,u2⟩:=u;obtain⟨v1,v2⟩:=v;unfold ZP.le at h1 h2 h3;dsimp only at h1 h2 h3;unfold mF at h;dsimp only at h;refine⟨by simp[mn],by simp[mn],fun p hp=>?_,fun i hi=>?_⟩
 ·simp only[mn,q6,aR,kZ,or_false] at hp
  rcases hp with rfl|rfl|rfl<;>exact⟨by dsimp only;omega,by dsimp only;omega⟩
 ·have:i=0\/i=1\/i=2:=by simp[mn] at hi;omega
  have hu: ¬(u1=0/\u2=0):=fun e=>h (by rw[e.1,e.2];simp);have hv: ¬(v1=0/\v2=0):=fun e=>h (by rw[e.1,e.2];simp);have huv: ¬(u1=v1/\u2=v2):=fun e=>h (by rw[e.1,e.2,Int.mul_comm];omega);rcases this with rfl|rfl|rfl<;>simp[mn,q6,dF]<;>omega
def kh(es:List Int):Nat->Nat->List ZP->List ZP×Nat
 |0,a,out=>(out,a)
 |n+1,a,out=>kh es n (pF es a).2 (if out.getLast? =some (pF es a).1 then out else out++[(pF es a).1])
structure iw (r:List ZP):Prop where
 ne: ∀i,i+1<r.length->r.getD i (0,0)≠r.getD (i+1) (0,0)
 le: ∀p∈r,ZP.le 100 p
def iw.snoc{r:List ZP}{p:ZP}(h:iw r)(hp:ZP.le 100 p)(hl:r.getLast? ≠some p):iw (r++[p]):=by
 refine⟨fun i hi=>?_,fun q hq=>?_⟩
 ·rw[bK,List.length_singleton] at hi
  rw[aJ,aJ];by_cases h1:i+1<r.length
  ·rw[cR (by omega),cR h1]
   have:=h.ne i h1;rwa [aJ,aJ] at this
  ·have e:i+1=r.length:=by omega
   rw[cR (by omega),e,fY (aS _),Nat.sub_self];rw[lW,<-e,iN] at hl;rw[aQ (by omega)] at hl⊢;intro c;exact hl (by simpa using c)
 ·rcases dK.1 hq with hq|hq
  ·exact h.le q hq
  ·rw[aN] at hq;subst hq;exact hp
def Ca{es:List Int}: ∀{n a:Nat} {out:List ZP},a<=es.length->iw out->iw (kh es n a out).1/\(kh es n a out).1.length<=out.length+n/\(kh es n a out).2<=es.length
 |0,a,out,ha,h=>⟨h,aS _,ha⟩
 |n+1,a,out,ha,h=>by
  obtain⟨h1,h2,h3⟩:=qp ha;rw[kh];by_cases hl:out.getLast? =some (pF es a).1
  ·rw[if_pos hl]
   obtain⟨k1,k2,k3⟩:=Ca (n:=n) h3 h;exact⟨k1,by omega,k3⟩
  ·rw[if_neg hl]
   obtain⟨k1,k2,k3⟩:=Ca (n:=n) h3 (h.snoc (p:=(pF es a).1) ⟨by omega,by omega⟩ hl);rw[bK,List.length_singleton] at k2;exact⟨k1,by omega,k3⟩
def ip:Nat->List ZP->List ZP
 |0,l=>l
 |n+1,l=>if 1<l.length/\l.getD 0 (0,0)=l.getD (l.length-1) (0,0) then ip n l.dropLast else l
def iw.drop{r:List ZP}(h:iw r):iw r.dropLast:=by
 refine⟨fun i hi=>?_,fun p hp=>h.le p ((List.dropLast_sublist _).subset hp)⟩;rw[lM] at hi;have:=h.ne i (by omega);rw[aJ,aJ] at this⊢;rw[List.getElem?_dropLast,List.getElem?_dropLast,if_pos (by omega),if_pos (by omega)];exact this
def H6: ∀{n:Nat} {l:List ZP},iw l->l.length<=n+1->iw (ip n l)/\(ip n l).length<=l.length/\(1<(ip n l).length->(ip n l).getD 0 (0,0)≠(ip n l).getD ((ip n l).length-1) (0,0))
 |0,l,h,hn=>⟨h,aS _,fun k=>absurd k (by unfold ip;omega)⟩
 |n+1,l,h,hn=>by
  rw[ip];split
  ·obtain⟨h1,h2,h3⟩:=H6 (n:=n) h.drop (by rw[lM];omega)
   rw[lM] at h2;exact⟨h1,by omega,h3⟩
  ·rename_i hc
   exact⟨h,aS _,fun k e=>hc ⟨k,e⟩⟩
def TC{r:List ZP}(h:iw r)(h6:r.length<=6)(hc:1<r.length->r.getD 0 (0,0)≠r.getD (r.length-1) (0,0))(h3:3<=(kP r).length):dt r:=by
 have:=T8 r;refine⟨by omega,h6,h.le,fun i hi=>?_⟩;by_cases h1:i+1<r.length
 ·rw[Td h1];exact h.ne i h1
 ·have e:i+1=r.length:=by omega
  rw[SL e];have:=hc (by omega);rw[show i=r.length-1 by omega];exact fun k=>this k.symm
def tu:List ZP:=[(0,0),(2,0),(0,2)]
def EU:dt tu:=⟨by decide,by decide,fun p hp=>by
  simp only[tu,aR,kZ,or_false] at hp;rcases hp with rfl|rfl|rfl<;>exact⟨by decide,by decide⟩,fun i hi=>by
  have:i=0\/i=1\/i=2:=by simp[tu] at hi;omega
  rcases this with rfl|rfl|rfl<;>decide⟩
def kI(es:List Int)(a:Nat):List ZP×Nat:=
 ((if(kP (ip 6 (kh es (3+(aq es 4 a).1) (aq es 4 a).2 []).1)).length<3 then tu else ip 6 (kh es (3+(aq es 4 a).1) (aq es 4 a).2 []).1),(kh es (3+(aq es 4 a).1) (aq es 4 a).2 []).2)
def iw.nil:iw []:=⟨fun i hi=>by simp at hi,fun p hp=>by cases hp⟩
def Ak{es:List Int}{a:Nat}(ha:a<=es.length):dt (kI es a).1/\(kI es a).2<=es.length:=by
 have h1:=iu (es:=es) (n:=4) (a:=a) (by decide);obtain⟨k1,k2,k3⟩:=Ca (n:=3+(aq es 4 a).1) (fH (n:=4) ha) iw.nil;obtain⟨t1,t2,t3⟩:=H6 (n:=6) k1 (by simp at k2;omega);refine⟨?_,k3⟩;unfold kI;dsimp only;split
 ·exact EU
 ·exact TC t1 (by simp at k2;omega) t3 (by omega)
def uV(es:List Int)(n m k:Int)(a:Nat):List ZP×Nat:=
 let x:=aq es n a
 let y:=aq es n x.2
 let z:=aq es m y.2
 let w:=aq es m z.2
 (m9 ((x.1:Int)-k) ((y.1:Int)-k) ((x.1:Int)-k+1+z.1) ((y.1:Int)-k+1+w.1),w.2)
def OQ{es:List Int}{n m k:Int}{a:Nat}(ha:a<=es.length)(hn:1<=n)(hn2:n<=10)(hm:1<=m)(hm2:m<=10)(hk:0<=k)(hk2:k<=10):dt (uV es n m k a).1/\(uV es n m k a).2<=es.length:=by
 have h1:=iu (es:=es) (a:=a) hn;have h2:=iu (es:=es) (a:=(aq es n a).2) hn;have h3:=iu (es:=es) (a:=(aq es n (aq es n a).2).2) hm;have h4:=iu (es:=es) (a:=(aq es m (aq es n (aq es n a).2).2).2) hm;exact⟨GX (by omega) (by omega) (by omega) (by omega) (by omega) (by omega),fH (fH (fH (fH ha)))⟩
def fg(es:List Int)(a:Nat):List ZP×Nat:=
 let k:=aq es 4 a
 if(k.1:Int)=0 then uV es 5 4 4 k.2
 else if(k.1:Int)=1 then
  let p:=pF es k.2
  let u:=vF es p.2
  let v:=vF es u.2
  if mF u.1 v.1≠0 then(mn p.1 u.1 v.1,v.2) else kI es v.2
 else kI es k.2
def CG{es:List Int}{a:Nat}(ha:a<=es.length):dt (fg es a).1/\(fg es a).2<=es.length:=by
 have h0:=fH (n:=4) ha;unfold fg;dsimp only;split
 ·exact OQ h0 (by decide) (by decide) (by decide) (by decide) (by decide) (by decide)
 ·split
  ·obtain⟨p1,p2,p3⟩:=qp h0
   obtain⟨u1,u2,u3,u4⟩:=te p3;obtain⟨v1,v2,v3,v4⟩:=te u4;split
   ·rename_i hc
    exact⟨Sn ⟨by omega,by omega⟩ ⟨by omega,by omega⟩ ⟨by omega,by omega⟩ hc,v4⟩
   ·exact Ak v4
  ·exact Ak h0
def R3:List ZP:=[(0,0),(1,0),(0,1)]
def DF(es:List Int)(a:Nat):List ZP×Nat:=
 let k:=aq es 2 a
 if(k.1:Int)=0 then uV es 3 2 1 k.2
 else
  let x:=aq es 3 k.2
  let y:=aq es 3 x.2
  let u1:=aq es 2 y.2
  let u2:=aq es 3 u1.2
  let v1:=aq es 3 u2.2
  let v2:=aq es 2 v1.2
  (if 0<mF (1+(u1.1:Int),(u2.1:Int)-1) ((v1.1:Int)-1,1+(v2.1:Int)) then mn ((x.1:Int)-1,(y.1:Int)-1) (1+(u1.1:Int),(u2.1:Int)-1) ((v1.1:Int)-1,1+(v2.1:Int)) else R3,v2.2)
def o3(es:List Int)(a:Nat):Tr×Nat:=
 let r:=fg es a
 let k:=aq es 3 r.2
 if(k.1:Int)=0 then
  let s:=fg es k.2
  let f:=aq es 2 s.2
  (xH [r.1,s.1] (1+(f.1:Int)),f.2)
 else
  let f:=aq es 2 k.2
  (xH [r.1] (1+(f.1:Int)),f.2)
def Bp(l:ab):Tr:=(Tr.node l (.leaf true) (.leaf false)).restrict []
def oe(es:List Int):Nat->Nat->Tr×Nat
 |0,a=>
  let k:=aq es 6 a
  if(k.1:Int)=1 then(Bp (lF es k.2).1,(lF es k.2).2)
  else if(k.1:Int)=2 then((js es 3 k.2).1.restrict [],(js es 3 k.2).2)
  else if(k.1:Int)=3 then((o3 es k.2).1.compl,(o3 es k.2).2)
  else o3 es k.2
 |d+1,a=>
  let k:=aq es 6 a
  if(k.1:Int)=0 then
   let x:=oe es d k.2
   let o:=aq es 4 x.2
   let y:=oe es d o.2
   (x.1.mergeQ (1+(o.1:Int)) y.1 [],y.2)
  else if(k.1:Int)=1 then(Bp (lF es k.2).1,(lF es k.2).2)
  else if(k.1:Int)=2 then((js es 3 k.2).1.restrict [],(js es 3 k.2).2)
  else if(k.1:Int)=3 then((o3 es k.2).1.compl,(o3 es k.2).2)
  else o3 es k.2
def Wk(es:List Int)(a:Nat):Tr×Nat:=
 let k:=aq es 4 a
 if(k.1:Int)=0 then(Bp (lF es k.2).1,(lF es k.2).2)
 else if(k.1:Int)=1 then((js es 2 k.2).1.restrict [],(js es 2 k.2).2)
 else(xH [(DF es k.2).1] 2,(DF es k.2).2)
def yX(op:Int)(a b:Tr):Bool:=decide ((a.mergeQ op b []).isLeaf=true/\(a.mergeQ op b []).code=false)
def Xh(a b:Tr):Int:=if yX 4 a b then 0 else if yX 3 a b then-1 else if yX 3 b a then 1 else 2
def pm:Tr->aa->Bool
 | .leaf b,_=>b
 | .node l x y,p=>if(l.value p).num.sign=1 then pm x p else if(l.value p).num.sign= -1 then pm y p else false
def zt(t:Tr):List b7:=((t.parts []).filter (·.1)).map (·.2)
def Fx(l:ab)(p:aa):b7->Rat->Rat
 |[],f=>f
 |s::c,f=>Fx l p c (if Int.sign (s.l.nor.dot l.nor).num<0 then(if-(s.l.value p/s.l.nor.dot l.nor)<f then-(s.l.value p/s.l.nor.dot l.nor) else f) else f)
def Yh:b7->aa
 |[]=>⟨0,0⟩
 |s::c=>cC (s.l.at s.v.sample) s.l.nor (Fx s.l (s.l.at s.v.sample) c 1*mkRat 1 2)
def nP:Tr->aa->aa->Bool×Bool
 | .leaf b,_,_=>(b,true)
 | .node l x y,p,v=>match (if(l.value p).num.sign=0 then(l.dir.cross v).num.sign else(l.value p).num.sign) with
  |1=>nP x p v
  | -1=>nP y p v
  |_=>(false,false)
def K7(l:ab)(v:aa):l.dir.cross v=l.nor.dot v:=by
 unfold ab.dir ab.nor aa.cross aa.dot;grind
def Gn(L:List ab)(p v:aa):Prop:= ∀l∈L,l.value p=0->l.nor.dot v≠0
def X9(x:Bool×b7):DV:= .ag [.sl (x.2.map b6),eU (.leaf x.1)]
def Eh{q:Rat}{i:Nat}[h:BQ q i](hi:i<=900000000:=by decide):PF GB prog 120 [eF q] (eR q):=by
 refine fn func120 J J ntmps120 J J (fun C=>?_);refine cl J (mP (q:=q) (i:=i) hi) J<|cl J (lH (q:=q) (i:=i) hi) J<|?_;exact rz J J
def Mv{p:aa}{i:Nat}[h:aw p i](hi:i<=900000000:=by decide):PF GB prog 128 [eZ p] (gh p):=by
 refine fn func128 J J ntmps128 J J (fun C=>?_);refine cl J (Eh (q:=p.x) (i:=i) hi) J<|cl J (Eh (q:=p.y) (i:=i) hi) J<|?_;exact rz J J
def eC(c:b7):DV:= .sl (c.map b6)
def VH(ps:List (Bool×b7)):List b7:=(ps.filter (·.1)).map (·.2)
def kG(p:aa):(p.half=1/\(0<p.y\/(p.y=0/\0<p.x)))\/(p.half=2/\(p.y<0\/(p.y=0/\p.x<0)))\/(p.half=0/\p.y=0/\p.x=0):=by
 unfold aa.half;simp only[um,se,qr];split
 ·rename_i h;exact .inl ⟨rfl,h⟩
 ·rename_i h
  split
  ·rename_i h2
   exact .inr (.inl ⟨J,by grind⟩)
  ·rename_i h2
   exact .inr (.inr ⟨J,by grind,by grind⟩)
def ut{p:aa}:p.half=1↔(0<p.y\/(p.y=0/\0<p.x)):=by
 rcases kG p with⟨h,k⟩|⟨h,k⟩|⟨h,k⟩<;>rw[h]<;>grind
def uz{p:aa}:p.half=2↔(p.y<0\/(p.y=0/\p.x<0)):=by
 rcases kG p with⟨h,k⟩|⟨h,k⟩|⟨h,k⟩<;>rw[h]<;>grind
def c6(u v:aa):Prop:=u.half<v.half\/(u.half=v.half/\0<u.cross v)
def mw{u v:aa}:ci u v<0↔c6 u v:=by
 unfold ci c6;split
 ·rename_i h;exact⟨fun _=> .inl h,fun _=>by decide⟩
 ·rename_i h
  split
  ·rename_i h2;exact⟨fun e=>absurd e (by decide),fun e=>by omega⟩
  ·rename_i h2
   have e:u.half=v.half:=by omega
   rw[<-um];constructor
   ·intro k;exact .inr ⟨e,by omega⟩
   ·rintro (k|⟨_,k⟩)
    ·omega
    ·omega
def d4(d:aa):aa:=⟨-d.x, -d.y⟩
def Tb{d:aa}(h:d.half≠0):(d4 d).half=3-d.half:=by
 rcases kG d with⟨e,k⟩|⟨e,k⟩|⟨e,k⟩
 ·rw[e];exact uz.2 (by unfold d4;grind)
 ·rw[e];exact ut.2 (by unfold d4;grind)
 ·exact absurd e h
def xy{d:aa}(h:d.half≠0):d.half=1\/d.half=2:=by
 rcases kG d with⟨e,_⟩|⟨e,_⟩|⟨e,_⟩
 ·exact .inl e
 ·exact .inr e
 ·exact absurd e h
def VY(ds:List aa)(u w:aa):Prop:=(c6 u w/\ ∀d∈ds,¬(c6 u d/\c6 d w))\/((∀d∈ds,¬c6 u d)/\ ∀d∈ds,¬c6 d w)
structure Yc (ds:List aa):Prop where
 nz: ∀d∈ds,d.half≠0
 neg: ∀d∈ds,d4 d∈ds
def oy(u v:aa):v.cross u= -u.cross v:=by unfold aa.cross;grind
def pE(u v:aa):u.cross (d4 v)= -u.cross v:=by unfold aa.cross d4;grind
def uS(a b:Rat)(u w:aa):aa:=⟨a*u.x+b*w.x,a*u.y+b*w.y⟩
def HN{a b:Rat}{u w:aa}(ha:0<a)(hb:0<b)(h:u.half=w.half)(hz:u.half≠0):(uS a b u w).half=u.half:=by
 rcases kG u with⟨e,k⟩|⟨e,k⟩|⟨e,k⟩
 ·rw[e] at h⊢
  have k2:=ut.1 h.symm;refine ut.2 ?_;unfold uS;simp only;have p1: ∀z:Rat,0<z->0<a*z:=fun z hz=>fw ha hz;have p2: ∀z:Rat,0<z->0<b*z:=fun z hz=>fw hb hz;rcases k with k|⟨k,k'⟩<;>rcases k2 with l|⟨l,l'⟩
  ·have:=p1 _ k;have:=p2 _ l;grind
  ·have:=p1 _ k;rw[l];grind
  ·have:=p2 _ l;rw[k];grind
  ·have:=p1 _ k';have:=p2 _ l';rw[k,l];grind
 ·rw[e] at h⊢
  have k2:=uz.1 h.symm;refine uz.2 ?_;unfold uS;simp only;have p1: ∀z:Rat,z<0->a*z<0:=fun z hz=>by have:=fw (a:=a) (b:= -z) ha (by grind);grind
  have p2: ∀z:Rat,z<0->b*z<0:=fun z hz=>by have:=fw (a:=b) (b:= -z) hb (by grind);grind
  rcases k with k|⟨k,k'⟩<;>rcases k2 with l|⟨l,l'⟩
  ·have:=p1 _ k;have:=p2 _ l;grind
  ·have:=p1 _ k;rw[l];grind
  ·have:=p2 _ l;rw[k];grind
  ·have:=p1 _ k';have:=p2 _ l';rw[k,l];grind
 ·exact absurd e hz
end Go.Sx
end
section
namespace Go.Sx
open Go
inductive OT where
 |z (π:List (Nat×Bool))
 |q (i:Nat) (t:OT)
 |a (i:Nat) (t:OT)
 |c (i:Nat) (t r:OT)
def OT.sz:OT->Nat
 | .z _=>0
 | .q _ t=>t.sz+1
 | .a _ t=>t.sz+1
 | .c _ t r=>t.sz+r.sz+1
def OT.d:OT->Nat
 | .z π=>π.length
 | .q _ t=>t.d+1
 | .a _ t=>t.d+1
 | .c _ t r=>Nat.max (t.d+1) r.d
section
variable {P:Program} {ops:Array Oper} {Q:Exit->Act->World->Prop} {S:World->Prop} {π₂:List (Nat×Bool)}
def q7(P:Program)(ops:Array Oper)(Q:Exit->Act->World->Prop)(K:(World->Prop)->Act->World->Prop):List Nat->OT->(World->Prop)->Act->World->Prop
 |ks, .z π,S,a,w=>sM P ops Q K ks π S a w
 |ks, .q i t,S,a,w=> ∃o v,ops[i]? =some o/\S w/\YieldsIf P ops S o v a/\q7 P ops Q K ks t S (a.put o.dst v) w
 |ks, .a i t,S,a,w=>wpOp P ops Q i (rC S (q7 P ops Q K ks t)) a w/\
   ∀j,(h:j∈ks)->wpOp P ops Q j (rC S (q7 P ops Q K (jc ks j) (.a i t))) a w
 |ks, .c i t r,S,a,w=>wpOp P ops Q i (rC S (q7 P ops Q K ks t)) a w/\q7 P ops Q K ks r S a w/\
   ∀j,(h:j∈ks)->wpOp P ops Q j (rC S (q7 P ops Q K (jc ks j) (.c i t r))) a w
termination_by ks t=>ks.length+t.sz
decreasing_by
 all_goals (first|(have:=Aa h;simp only[OT.sz] at*;omega)|(simp only[OT.sz];omega))
def oC(ops:Array Oper)(fin:Nat->Bool)(π₂:List (Nat×Bool)):Nat->Bool->List Nat->OT->Array Bool->List Nat->Bool
 |0,_,_,_,_,_=>false
 |n+1,false,ks, .z π,l,_=>uE ops fin π₂ n ks π l
 |_+1,true,_, .z _,_,_=>false
 |n+1,false,ks, .q i t,l,_=>sX ops fin l i&&oC ops fin π₂ n false ks t (l.setIfInBounds i true) []
 |_+1,true,_, .q _ _,_,_=>false
 |n+1,true,ks, .a i t,l,rs=>rs.all (fun j=>Nat.beq j i)&&oC ops fin π₂ n false ks t (l.setIfInBounds i true) []
 |n+1,false,ks, .a i t,l,_=>!(Region.ready .any ops l).isEmpty&&(Region.ready .any ops l).all (fun j=>Nat.beq j i||ks.contains j)&&oC ops fin π₂ n false ks t (l.setIfInBounds i true) []&&ks.all fun j=>oC ops fin π₂ n false (jc ks j) (.a i t) (l.setIfInBounds j true) []
 |n+1,true,ks, .c i t r,l,rs=>oC ops fin π₂ n false ks t (l.setIfInBounds i true) []&&oC ops fin π₂ n true ks r l (jc rs i)
 |n+1,false,ks, .c i t r,l,_=>!(Region.ready .any ops l).isEmpty&&oC ops fin π₂ n false ks t (l.setIfInBounds i true) []&&oC ops fin π₂ n true ks r l (jc ((Region.ready .any ops l).filter fun j=>!ks.contains j) i)&&ks.all fun j=>oC ops fin π₂ n false (jc ks j) (.c i t r) (l.setIfInBounds j true) []
end
section
variable {P:Program} {GB:Gh} {C:aA} {n:Nat} {fr fr':de} {own own' own0 own1 own1':List b8} {bs bs0 bs1 bs1':List cG} {ops:Array Oper} {Q:Exit->Act->World->Prop} {fd:List FD} {π₂:List (Nat×Bool)} {t r:OT}
abbrev Ym (P:Program) (ops:Array Oper) (Q:Exit->Act->World->Prop) (K:(World->Prop)->Act->World->Prop) (t:OT):List Nat->(World->Prop)->Act->World->Prop:=fun ks S=>q7 P ops (iH Q) K ks t S
end
end Go.Sx
end
section
namespace Go.Sx
open Go Go.Proofs Tryz
variable {GB:Gh}
theorem LB.rev{l:ab}(h:LB l):LB l.rev:=⟨⟨by rw[show l.rev.a= -l.a from J,gW];exact h.bl.a,by rw[show l.rev.b= -l.b from J,gW];exact h.bl.b,by rw[show l.rev.c= -l.c from J,gW];exact h.bl.c⟩⟩
def KS{α:Type}{p:α->Bool}: ∀{xs:List α} {n:Nat},n<=xs.length->(∀j (h:j<xs.length),j<n->p xs[j]=true)->(∀h:n<xs.length,p xs[n]=false)->(xs.takeWhile p).length=n
 |[],n,h,_,_=>by simp at h;subst h;rfl
 |x::xs,0,_,_,h3=>by
  have:=h3 (by simp);simp only[mN] at this;simp[oJ,this]
 |x::xs,n+1,h1,h2,h3=>by
  have hx:=h2 0 (by simp) (by omega);simp only[mN] at hx;rw[oJ,if_pos hx,bL];rw[KS (n:=n) (by simpa using h1) (fun j h hj=>by have:=h2 (j+1) (by simpa using h) (by omega);simpa using this) (fun h=>by have:=h3 (by simpa using h);simpa using this)]
structure WH (c:List ab) (k:Nat) (xs:List ab):Prop where
 le:k<=c.length
 f:zj c (c.drop k) xs=nG c
 m: ∀m∈xs,m∈c
 n:xs.length<=k
def FP(c:List ab):Bool:=if(((c.map eL).length:Nat):Int)=0 then true else decide ((0:Int)<((((nG c).map eL).length:Nat):Int))
section
variable {α:Type} (c:α->α->Int)
def c9(x:α):List α->List α
 |[]=>[x]
 |u::t=>if c u x<0 then u::c9 x t else if c u x=0 then u::t else x::u::t
def i6(x:α)(xs:List α):Nat:=(xs.takeWhile fun u=>decide (c u x<0)).length
def Eb(x:α)(xs:List α):i6 c x xs<=xs.length:=(List.takeWhile_sublist _).length_le
def vH{x:α}{xs:List α}{n:Nat}(h1:n<=xs.length)(h2: ∀j (h:j<xs.length),j<n->c xs[j] x<0)(h3: ∀h:n<xs.length,¬c xs[n] x<0):i6 c x xs=n:=
 KS h1 (fun j h hj=>decide_eq_true (h2 j h hj)) (fun h=>decide_eq_false (h3 h))
def Aw{x:α}: ∀{xs:List α} {n:Nat},i6 c x xs=n->(h:n<xs.length)->c xs[n] x=0->c9 c x xs=xs
 |[],n,_,h,_=>by simp at h
 |u::t,n,hn,h,e=>by
  rw[c9];unfold i6 at hn;rw[oJ] at hn;by_cases hu:c u x<0
  ·rw[if_pos hu]
   rw[if_pos (by simpa using hu)] at hn;obtain⟨k,rfl⟩: ∃k,n=k+1:=⟨n-1,by simp at hn;omega⟩;rw[Aw (xs:=t) (n:=k) (by unfold i6;simpa using hn) (by simpa using h) (by simpa using e)]
  ·rw[if_neg (by simpa using hu)] at hn
   simp at hn;subst hn;rw[if_neg hu,if_pos (by simpa using e)]
def uY{x:α}: ∀{xs:List α} {n:Nat},i6 c x xs=n->(∀h:n<xs.length,c xs[n] x≠0)->c9 c x xs=xs.take n++x::xs.drop n
 |[],n,hn,_=>by simp[i6] at hn;subst hn;rfl
 |u::t,n,hn,e=>by
  rw[c9];unfold i6 at hn;rw[oJ] at hn;by_cases hu:c u x<0
  ·rw[if_pos hu]
   rw[if_pos (by simpa using hu)] at hn;obtain⟨k,rfl⟩: ∃k,n=k+1:=⟨n-1,by simp at hn;omega⟩;rw[uY (xs:=t) (n:=k) (by unfold i6;simpa using hn) (fun h=>by have:=e (by simpa using h);simpa using this)];simp
  ·rw[if_neg (by simpa using hu)] at hn
   simp at hn;subst hn;have:=e (by simp);rw[if_neg hu,if_neg (by simpa using this)];rfl
def KW(x:α): ∀(xs:List α),(c9 c x xs).length<=xs.length+1
 |[]=>aS _
 |u::t=>by
  have:=KW x t;rw[c9];split
  ·simp;omega
  ·split<;>simp
def CA{x y:α}: ∀{xs:List α},y∈c9 c x xs->y=x\/y∈xs
 |[],h=>by rw[c9,aN] at h;exact .inl h
 |u::t,h=>by
  rw[c9] at h;split at h
  ·rcases aR.1 h with rfl|h
   ·exact .inr aZ
   ·rcases CA h with h|h
    ·exact .inl h
    ·exact .inr (aK _ h)
  ·split at h
   ·exact .inr h
   ·rcases aR.1 h with rfl|h
    ·exact .inl J
    ·exact .inr h
def n5(l:List α):List α:=l.foldl (fun out x=>c9 c x out) []
def A': ∀(l o:List α),(l.foldl (fun out x=>c9 c x out) o).length<=l.length+o.length
 |[],o=>by simp
 |x::t,o=>by
  have:=A' t (c9 c x o);have:=KW c x o;simp only[iK,bL];omega
def u9{y:α}: ∀{l o:List α},y∈l.foldl (fun out x=>c9 c x out) o->y∈l\/y∈o
 |[],o,h=> .inr h
 |x::t,o,h=>by
  rcases u9 (l:=t) h with h|h
  ·exact .inl (aK _ h)
  ·rcases CA c h with rfl|h
   ·exact .inl aZ
   ·exact .inr h
end
def ye{α β:Type}{f:α->β}{l:List α}{k:Nat}{x:α}(h:l[k]? =some x):(l.take k).map f++[f x]=(l.take (k+1)).map f:=by
 rw[cJ,h,cX];rfl
def Np{n i:Nat}[h:BN n i](hi:i<=20000000:=by decide):PF GB prog 210 [dN n] (dN n):=by
 have hl:=i8 h.h;have:=Dx (GB:=GB) (ds:=dg n) (gF n) (by omega);rw[bz,<-zy] at this;exact this
def Mi(z:Int):sr (decide (z<0)) (dg z.natAbs)=z:=by
 unfold sr;rw[bz];split<;>(rename_i h;simp at h;omega)
def OI{z:Int}{i:Nat}[h:BI z i](hi:i<=20000000:=by decide):PF GB prog 185 [eI z] (eI z):=by
 have hl:=i8 h.h;have:=Na (GB:=GB) (neg:=decide (z<0)) (ds:=dg z.natAbs) (gF _) (by omega);rw[Mi,<-zy] at this;exact this
def QT{n:Nat}(h:0<n): ¬((((dg n).map dU).length:Nat):Int)=0:=by
 rw[aX];have:=qn (n:=n);omega
instance BQ.m1':BQ (((-1:Int):Int):Rat) 2:=⟨by decide,by decide⟩
instance BQ.m1:BQ (-1:Rat) 2:=⟨by decide,by decide⟩
def Jk{q:Rat}{i:Nat}[h:BQ q i](hi:i<=20000000:=by decide):PF GB prog 116 [eR q] (eQ q):=by
 have hd:=q.den_pos;refine fn func116 J J ntmps116 J J (fun C=>?_);refine cl (fu:=⟨8⟩) J (Np (n:=q.den) hi) J<|fq J (by show some (decide _)=some false;rw[decide_eq_false (QT hd)]) J<|cl J (OI (z:=q.num) hi) J<|?_;refine cl J (rj (x:=q.num) (d:=q.den) hd (by omega) (by omega)) J<|?_;exact rz J (by rw[qS];rfl)
def GT{q:Rat}{i:Nat}[h:BQ q i](hi:i<=400000000:=by decide):PF GB prog 106 [eQ q] (eR q):=by
 refine fn func106 J J ntmps106 J J (fun C=>?_);refine cl J (xL (z:=q.num) hi) J<|cl J (iq (q:=q)) J<|cl J (ED (a:=q.den) hi) J<|?_;exact rz J J
def Mg{p:aa}{i:Nat}[h:aw p i](hi:i<=20000000:=by decide):PF GB prog 177 [gh p] (eP p):=by
 refine fn func177 J J ntmps177 J J (fun C=>?_);refine cl J (Jk (q:=p.x) hi) J<|cl J (Jk (q:=p.y) hi) J<|?_;exact rz J J
def yo{p:aa}{i:Nat}[h:aw p i](hi:i<=20000:=by decide):PF GB prog 35 [eP p] (gh p):=by
 refine fn func35 J J ntmps35 J J (fun C=>?_);refine cl J (GT (q:=p.x) (i:=i) (by omega)) J<|cl J (GT (q:=p.y) (i:=i) (by omega)) J<|?_;exact rz J J
def jI{α:Type}(f:α->DV)(l:List α):(l.map f).length=l.length:=aX ..
def me(ps:List aa):dq 6 (ps.map eP):=fun d hd=>by
 obtain⟨u,_,rfl⟩:=bY.1 hd;exact⟨rfl,rfl⟩
def Ow(ps:List aa):dq 6 (ps.map gh):=fun d hd=>by
 obtain⟨u,_,rfl⟩:=bY.1 hd;exact⟨rfl,rfl⟩
def SJ{ps:List aa}(hb: ∀p∈ps,aw p 1200)(hn:ps.length<=1000000):PF GB prog 85 [.sl (ps.map gh)] (.sl (ps.map eP)):=by
 have hm:=jI gh ps;refine fn (fu:=⟨15⟩) func85 J J ntmps85 J J (fun C=>?_);refine aj 7 (.d (vI (ps.length:Nat))) J (by rw[hm]<;>rfl) ?_;refine gx J<|?_;refine nr 3 3 81 6 J J J ?_;refine lp (X:=Nat) (fun k=>[(8, .d (vI (k:Nat))),(3, .rw 3)]) (fun k=>[(3,some (.b 81 6 ((ps.take k).map eP) true))]) (fun k=>k<=ps.length) (fun k=>ps.length-k) 0 J (bJ _) (fun _=>J) (fun k hk=>?_);have hml:=jI eP (ps.take k);rw[bR] at hml;refine br J J J (fun hc9=>?_) (fun hc9=>?_)
 .
  obtain⟨z,hz⟩: ∃s,ps[k]? =some s:=⟨_,aQ (by omega)⟩;have hzm:=aU hz;refine ix _ J (cO hz) J<|cl J (Mg (p:=z) (h:=hb z hzm)) J<|rf J J<|ap ((ps.take (k+1)).map eP) J (ye hz) (me [z]) J<|?_;refine fA 16 3 J ?_;exact at_ (k+1) ⟨(by omega),(by omega)⟩
 .
  obtain rfl:k=ps.length:=by omega
  refine jw 3 J ?_;exact rz J (by rw[bN];rfl)
def El{ps:List aa}(hb: ∀p∈ps,aw p 1200)(hn:ps.length<=1000000):PF GB prog 32 [.sl (ps.map eP)] (.sl (ps.map gh)):=by
 have hm:=jI eP ps;refine fn (fu:=⟨15⟩) func32 J J ntmps32 J J (fun C=>?_);refine aj 7 (.d (vI (ps.length:Nat))) J (by rw[hm]<;>rfl) ?_;refine gx J<|?_;refine nr 3 3 73 6 J J J ?_;refine lp (X:=Nat) (fun k=>[(8, .d (vI (k:Nat))),(3, .rw 3)]) (fun k=>[(3,some (.b 73 6 ((ps.take k).map gh) true))]) (fun k=>k<=ps.length) (fun k=>ps.length-k) 0 J (bJ _) (fun _=>J) (fun k hk=>?_);have hml:=jI gh (ps.take k);rw[bR] at hml;refine br J J J (fun hc9=>?_) (fun hc9=>?_)
 .
  obtain⟨z,hz⟩: ∃s,ps[k]? =some s:=⟨_,aQ (by omega)⟩;have hzm:=aU hz;refine ix _ J (cO hz) J<|cl J (yo (p:=z) (h:=hb z hzm)) J<|rf J J<|ap ((ps.take (k+1)).map gh) J (ye hz) (Ow [z]) J<|?_;refine fA 16 3 J ?_;exact at_ (k+1) ⟨(by omega),(by omega)⟩
 .
  obtain rfl:k=ps.length:=by omega
  refine jw 3 J ?_;exact rz J (by rw[bN];rfl)
def vS{p q:aa}{i j:Nat}[hp:aw p i][hq:aw q j](hi:i<=100000:=by decide)(hj:j<=100000:=by decide):PF GB prog 154 [eP p,eP q] (eP (cC p q (-1))):=by
 refine fn func154 J J ntmps154 J J (fun C=>?_);refine cl J (rN (n:= -1) (by decide) (by decide)) J<|cl J (EO (p:=p) (q:=q) (c:=((-1:Int):Rat)) (i:=i) (j:=j) (k:=2) (by omega) (by omega)) J<|?_;exact rz J (by rw[show((-1:Int):Rat)= -1 from J];rfl)
def Az{a b c:aa}{i j k:Nat}[ha:aw a i][hb:aw b j][hc:aw c k](hi:i<=80000:=by decide)(hj:j<=80000:=by decide)(hk:k<=80000:=by decide):PF GB prog 62 [eP a,eP b,eP c] (vI (oz a b c)):=by
 refine fn func62 J J ntmps62 J J (fun C=>?_);refine cl J (vS (p:=b) (q:=a) (i:=j) (j:=i) (by omega) (by omega)) J<|cl J (vS (p:=c) (q:=a) (i:=k) (j:=i) (by omega) (by omega)) J<|?_;refine cl J (JK (p:=cC b a (-1)) (q:=cC c a (-1)) (by omega) (by omega)) J<|cl J (wh (q:=(cC b a (-1)).cross (cC c a (-1)))) J<|?_;exact rz J J
def ek(p q:aa):Int:=if bt p.x q.x≠0 then bt p.x q.x else bt p.y q.y
def KU{p q:aa}{i j:Nat}[hp:aw p i][hq:aw q j](hi:i<=100000:=by decide)(hj:j<=100000:=by decide):PF GB prog 181 [eP p,eP q] (vI (ek p q)):=by
 refine fn func181 J J ntmps181 J J (fun C=>?_);refine cl J (sV (a:=p.x) (b:=q.x) (by omega) (by omega)) J<|?_;refine br J J J (fun hc12=>?_) (fun hc12=>?_)
 .
  exact rz J (by unfold ek;rw[if_pos hc12];rfl)
 .
  refine cl J (sV (a:=p.y) (b:=q.y) (by omega) (by omega)) J<|?_;exact rz J (by unfold ek;rw[if_neg hc12];rfl)
def jp(l:ab):Bool:=decide (l.a<0\/(l.a=0/\l.b<0))
def ab.canon(l:ab):ab:=if jp l then l.rev else l
def mD(a:Int):a.sign<0↔a<0:=by
 rcases lL a 0 with h|h|h
 ·rw[cM h];omega
 ·subst h;simp
 ·rw[eK h];omega
def kd(a:Int):a.sign=0↔a=0:=gJ
def FH{l:ab}(h:l.a<0\/(l.a=0/\l.b<0)):DV.tp [eL l.canon,vB (jp l)]= .tp [eL l.rev,vB true]:=by
 unfold ab.canon jp;rw[decide_eq_true h];rfl
def HI{l:ab}(h: ¬(l.a<0\/(l.a=0/\l.b<0))):DV.tp [eL l.canon,vB (jp l)]= .tp [eL l,vB false]:=by
 unfold ab.canon jp;rw[decide_eq_false h];rfl
def Tw{l:ab}[hl:LB l]:PF GB prog 178 [eL l] (.tp [eL l.canon,vB (jp l)]):=by
 refine fn func178 J J ntmps178 J J (fun C=>?_);refine cl J (wD (z:=l.a)) J<|?_;refine cs 10 J J J (fun hg10=>?_) (fun hg10=>?_)
 .
  refine cl J (DD (l:=l)) J<|?_;exact rz J (by rw[FH (.inl ((mD _).1 hg10))];rfl)
 .
  refine cs 13 J J J (fun hg13=>?_) (fun hg13=>?_)
  .
   refine cl J (wD (z:=l.b)) J<|?_;refine br J J J (fun hc19=>?_) (fun hc19=>?_)
   .
    refine cl J (DD (l:=l)) J<|?_;exact rz J (by rw[FH (.inr ⟨(kd _).1 hg13,(mD _).1 hc19⟩)];rfl)
   .
    exact rz J (by rw[HI (fun e=>e.elim (fun e=>hg10 ((mD _).2 e)) (fun e=>hc19 ((mD _).2 e.2)))];rfl)
  .
   exact rz J (by rw[HI (fun e=>e.elim (fun e=>hg10 ((mD _).2 e)) (fun e=>hg13 ((kd _).2 e.1)))];rfl)
instance LB.canon (l:ab) [h:LB l]:LB l.canon:=by unfold ab.canon;split;exact LB.rev h;exact h
def nk{α β:Type}(c:β->β->Int)(g:α->β)(l:List α)(k:Nat):List β:=n5 c ((l.take k).map g)
section
variable {α β:Type} {c:β->β->Int} {g:α->β} {l:List α} {k:Nat}
def sN{x:α}(h:l[k]? =some x):nk c g l (k+1)=c9 c (g x) (nk c g l k):=by
 unfold nk n5;rw[cJ,h,Option.toList_some,cX,nV];rfl
def Ep(h:k=l.length):nk c g l k=n5 c (l.map g):=by unfold nk;rw[h,bN]
def IW:(nk c g l k).length<=k:=by
 have:=A' c ((l.take k).map g) [];have h2:((l.take k).map g).length<=k:=by rw[aX,bR];omega
 rw[iS] at this;unfold nk n5;omega
def Em{y:β}(h:y∈nk c g l k): ∃x∈l,y=g x:=by
 rcases u9 c h with h|h
 ·obtain⟨x,hx,rfl⟩:=bY.1 h
  exact⟨x,fJ hx,J⟩
 ·cases h
end
def v8{α:Type}{f:α->DV}{s:Nat}(ok: ∀l:List α,dq s (l.map f))(xs:List α)(n:Nat):dq s ((xs.map f).take n):=fun d hd=>ok xs d (fJ hd)
def uu{α:Type}{f:α->DV}{s:Nat}(ok: ∀l:List α,dq s (l.map f))(xs:List α)(n m:Nat):dq s (((xs.map f).take n).drop m):=fun d hd=>ok xs d (fJ (List.mem_of_mem_drop hd))
def w9{α:Type}{f:α->DV}{s:Nat}(ok: ∀l:List α,dq s (l.map f))(xs:List α)(n m:Nat)(x:α):dq s ([f x]++((xs.map f).take n).drop m):=fun d hd=>by
 rcases dK.1 hd with h|h
 ·exact ok [x] d h
 ·exact uu ok xs n m d h
def tC{α:Type}{f:α->DV}{l:List α}{i:Nat}(h:i<l.length):(l.map f)[(i:Int).toNat]? =some (f l[i]):=by
 rw[bT,fW,aQ h];rfl
def SA{ps:List aa}(hb: ∀p∈ps,aw p 1200)(hn:ps.length<=100000):PF GB prog 90 [.sl (ps.map eP)] (.sl ((n5 ek ps).map eP)):=by
 have hm':=jI eP ps;refine fn (fu:=⟨15⟩) func90 J J ntmps90 J J (fun C=>?_);refine aj 8 (.d (vI (ps.length:Nat))) J (by rw[hm'];rfl) ?_;refine gx J<|?_;refine JU 3 J ?_;refine lp (X:=List aa×Nat) (fun⟨xs,k⟩=>[(9, .d (vI (k:Nat))),(8, .d (vI (ps.length:Nat))),(7, .d (.sl (ps.map eP))),(0, .d (.sl (ps.map eP))),(3, .d (.sl (xs.map eP)))]) (fun⟨xs,k⟩=>[]) (fun⟨xs,k⟩=>xs=nk ek id ps k/\k<=ps.length) (fun⟨xs,k⟩=>ps.length-k) ⟨[],0⟩ J ⟨J,bJ _⟩ (fun _=>J) (fun⟨xs,k⟩ hk=>?_)
 try dsimp only at hk⊢
 obtain⟨hS,hkl⟩:=hk;refine br J J J (fun hc10=>?_) (fun hc10=>?_)
 .
  have hk:k<ps.length:=by omega
  obtain⟨m,hm⟩: ∃m,m=ps[k]:=⟨_,rfl⟩;have hz:ps[k]? =some m:=by rw[hm];exact aQ hk
  haveI hmb:aw m 1200:=hm▸hb _ (gT hk);have hxl:=jI eP xs;have hxn:xs.length<=k:=by rw[hS];exact IW
  have hxb: ∀q∈xs,aw q 1200:=fun q hq=>by rw[hS] at hq;obtain⟨z,hz,he⟩:=Em hq;rw[he];exact hb z hz
  refine ix (fu:=⟨1⟩) _ J (tC hk) J<|?_;refine aj 12 (.d (eP m)) J (by rw[hm];rfl) ?_;refine gx (fu:=⟨10⟩) J<|?_;refine mg (fu:=⟨5⟩) (X:=Unit) (fun _=>[(9, .d (vI (k:Nat))),(8, .d (vI (ps.length:Nat))),(7, .d (.sl (ps.map eP))),(0, .d (.sl (ps.map eP))),(3, .d (.sl (xs.map eP))),(5, .ov 5 0),(6, .d (vI (i6 ek m xs:Nat)))]) (fun _=>[(5,some (.o 81 [.d ((.v (.bool (decide (m.x.num<0))))), .d (dN m.x.num.natAbs), .d (dD m.x.den), .d ((.v (.bool (decide (m.y.num<0))))), .d (dN m.y.num.natAbs), .d (dD m.y.den)] true))]) (fun _=>True) [9,8,7,0,3,5,6] [5] rfl ?_ (fun _=>J) (fun _ _=>?_)
  .
   refine gx J<|?_;refine lp (fu:=⟨6⟩) (X:=Nat) (fun n=>[(9, .d (vI (k:Nat))),(8, .d (vI (ps.length:Nat))),(7, .d (.sl (ps.map eP))),(0, .d (.sl (ps.map eP))),(3, .d (.sl (xs.map eP))),(5, .ov 5 0),(6, .d (vI (n:Nat)))]) (fun n=>[(5,some (.o 81 [.d ((.v (.bool (decide (m.x.num<0))))), .d (dN m.x.num.natAbs), .d (dD m.x.den), .d ((.v (.bool (decide (m.y.num<0))))), .d (dN m.y.num.natAbs), .d (dD m.y.den)] true))]) (fun n=>n<=xs.length/\ ∀j (h:j<xs.length),j<n->ek xs[j] m<0) (fun n=>xs.length-n) 0 J ⟨bJ _,fun j _ hj=>absurd hj (by omega)⟩ (fun _=>J) (fun n hk=>?_);obtain⟨n1,n2⟩:=hk;refine oB (v2:=fun hg16=>by simp only[ah];kernel_rfl) J J J J (fun hg16=>?_) (fun hg16=>?_)
   .
    refine ix _ J (tC (by omega)) J<|cl J (KU (p:=xs[n]'(by omega)) (q:=m) (hp:=hxb _ (gT (by omega))) (hq:=hmb)) J<|?_;refine br J J J (fun hc25=>?_) (fun hc25=>?_)
    .
     exact at_ (n+1) ⟨⟨by omega,fun j h hj=>by by_cases q:j=n;(subst q;exact hc25);exact n2 j h (by omega)⟩,(by omega)⟩
    .
     have hidx:i6 ek m xs=n:=vH ek n1 n2 (fun h=>hc25);exact at_ () trivial
   .
    have hidx:i6 ek m xs=n:=vH ek n1 n2 (fun h=>absurd h (by omega));exact at_ () trivial
  .
   obtain⟨n,hnx⟩: ∃n,i6 ek m xs=n:=⟨_,rfl⟩;rw[hnx];have hnl:n<=xs.length:=by rw[<-hnx];exact Eb _ _ _
   refine oB (v1:=fun hg31=>by simp only[ah];kernel_rfl) J J J J (fun hg31=>?_) (fun hg31=>?_)
   .
    have hnew: ∀h:n<xs.length,ek xs[n] m≠0:=fun h=>absurd h (by omega);obtain⟨ys,hys⟩: ∃ys,ys=xs.take n++m::xs.drop n:=⟨_,rfl⟩;have hin:c9 ek m xs=ys:=by rw[hys];exact uY ek hnx hnew
    have hyl:ys.length<=xs.length+1:=by rw[hys];simp;omega
    refine s3 n _ J J J J (me _) (by rw[hxl];exact hnl) J<|ro J J<|n7 n xs.length _ J J (by rw[hxl]) J (me _) hnl (by omega) J<|?_;refine ap _ J J (uu me _ _ _) J<|xX (hv:=by simp only[ah];exact⟨by kernel_rfl,by omega⟩) (ho:=fun _=>⟨v8 me _ _,by simp⟩) (ys.map eP) J (by rw[hys,cX,cZ,kK,pS,aT (l:=xs.map eP) (i:=xs.length) (by simp)];rfl) (w9 me _ _ _ _) J<|?_;exact at_ ⟨ys,k+1⟩ (by dsimp only;exact⟨⟨by rw[sN hz,<-hS];exact hin.symm,by omega⟩,(by omega)⟩)
   .
    refine ix _ J (tC (by omega)) J<|cl J (KU (p:=xs[n]'(by omega)) (q:=m) (hp:=hxb _ (gT (by omega))) (hq:=hmb)) J<|?_;refine br J J J (fun hc40=>?_) (fun hc40=>?_)
    .
     have hnew: ∀h:n<xs.length,ek xs[n] m≠0:=fun h=>hc40;obtain⟨ys,hys⟩: ∃ys,ys=xs.take n++m::xs.drop n:=⟨_,rfl⟩;have hin:c9 ek m xs=ys:=by rw[hys];exact uY ek hnx hnew
     have hyl:ys.length<=xs.length+1:=by rw[hys];simp;omega
     refine s3 n _ J J J J (me _) (by rw[hxl];exact hnl) J<|ro J J<|n7 n xs.length _ J J (by rw[hxl]) J (me _) hnl (by omega) J<|?_;refine ap _ J J (uu me _ _ _) J<|xX (hv:=by simp only[ah];exact⟨by kernel_rfl,by omega⟩) (ho:=fun _=>⟨v8 me _ _,by simp⟩) (ys.map eP) J (by rw[hys,cX,cZ,kK,pS,aT (l:=xs.map eP) (i:=xs.length) (by simp)];rfl) (w9 me _ _ _ _) J<|?_;exact at_ ⟨ys,k+1⟩ (by dsimp only;exact⟨⟨by rw[sN hz,<-hS];exact hin.symm,by omega⟩,(by omega)⟩)
    .
     have hin:c9 ek m xs=xs:=Aw ek hnx (by omega) (Decidable.not_not.1 hc40);exact at_ ⟨xs,k+1⟩ (by dsimp only;exact⟨⟨by rw[sN hz,<-hS];exact hin.symm,by omega⟩,(by omega)⟩)
 .
  have hfin:n5 ek ps=xs:=by rw[hS,Ep (by omega),List.map_id]
  exact rz J (by rw[hfin];rfl)
def jr(ls:List ab):List ab:=n5 bv (ls.map ab.canon)
def B5{ls:List ab}{y:ab}(h:y∈jr ls): ∃x∈ls,y=x.canon:=by
 rcases u9 bv h with h|h
 ·obtain⟨x,hx,rfl⟩:=bY.1 h;exact⟨x,hx,rfl⟩
 ·cases h
def Tj{ls:List ab}(hb: ∀p∈ls,LB p)(hn:ls.length<=100000):PF GB prog 86 [.sl (ls.map eL)] (.sl ((jr ls).map eL)):=by
 have hm':=jI eL ls;refine fn (fu:=⟨15⟩) func86 J J ntmps86 J J (fun C=>?_);refine aj 8 (.d (vI (ls.length:Nat))) J (by rw[hm'];rfl) ?_;refine gx J<|?_;refine JU 3 J ?_;refine lp (X:=List ab×Nat) (fun⟨xs,k⟩=>[(9, .d (vI (k:Nat))),(8, .d (vI (ls.length:Nat))),(7, .d (.sl (ls.map eL))),(0, .d (.sl (ls.map eL))),(3, .d (.sl (xs.map eL)))]) (fun⟨xs,k⟩=>[]) (fun⟨xs,k⟩=>xs=nk bv ab.canon ls k/\k<=ls.length) (fun⟨xs,k⟩=>ls.length-k) ⟨[],0⟩ J ⟨J,bJ _⟩ (fun _=>J) (fun⟨xs,k⟩ hk=>?_)
 try dsimp only at hk⊢
 obtain⟨hS,hkl⟩:=hk;refine br J J J (fun hc10=>?_) (fun hc10=>?_)
 .
  have hk:k<ls.length:=by omega
  obtain⟨z,hm⟩: ∃m,m=ls[k]:=⟨_,rfl⟩;have hz:ls[k]? =some z:=by rw[hm];exact aQ hk
  haveI hzb:LB z:=hm▸hb _ (gT hk);obtain⟨m,hmc⟩: ∃m,m=z.canon:=⟨_,rfl⟩;haveI hmb:LB m:=by rw[hmc];infer_instance
  have hxl:=jI eL xs;have hxn:xs.length<=k:=by rw[hS];exact IW
  have hxb: ∀q∈xs,LB q:=fun q hq=>by rw[hS] at hq;obtain⟨z,hz,rfl⟩:=Em hq;haveI:=hb z hz;infer_instance
  refine ix (fu:=⟨1⟩) _ J (tC hk) J<|?_;refine aj 12 (.d (eL z)) J (by rw[hm];rfl) ?_;refine gx J<|cl (fu:=⟨2⟩) J (Tw (l:=z)) J<|?_;refine aj 16 (.d (eL m)) J (by rw[hmc]) ?_;refine gx (fu:=⟨10⟩) J<|?_;refine mg (fu:=⟨5⟩) (X:=Unit) (fun _=>[(9, .d (vI (k:Nat))),(8, .d (vI (ls.length:Nat))),(7, .d (.sl (ls.map eL))),(0, .d (.sl (ls.map eL))),(3, .d (.sl (xs.map eL))),(5, .ov 5 0),(6, .d (vI (i6 bv m xs:Nat)))]) (fun _=>[(5,some (.o 115 [.d ((.v (.bool (decide (m.a<0))))), .d (dN m.a.natAbs), .d ((.v (.bool (decide (m.b<0))))), .d (dN m.b.natAbs), .d ((.v (.bool (decide (m.c<0))))), .d (dN m.c.natAbs)] true))]) (fun _=>True) [9,8,7,0,3,5,6] [5] rfl ?_ (fun _=>J) (fun _ _=>?_)
  .
   refine gx J<|?_;refine lp (fu:=⟨6⟩) (X:=Nat) (fun n=>[(9, .d (vI (k:Nat))),(8, .d (vI (ls.length:Nat))),(7, .d (.sl (ls.map eL))),(0, .d (.sl (ls.map eL))),(3, .d (.sl (xs.map eL))),(5, .ov 5 0),(6, .d (vI (n:Nat)))]) (fun n=>[(5,some (.o 115 [.d ((.v (.bool (decide (m.a<0))))), .d (dN m.a.natAbs), .d ((.v (.bool (decide (m.b<0))))), .d (dN m.b.natAbs), .d ((.v (.bool (decide (m.c<0))))), .d (dN m.c.natAbs)] true))]) (fun n=>n<=xs.length/\ ∀j (h:j<xs.length),j<n->bv xs[j] m<0) (fun n=>xs.length-n) 0 J ⟨bJ _,fun j _ hj=>absurd hj (by omega)⟩ (fun _=>J) (fun n hk=>?_);obtain⟨n1,n2⟩:=hk;refine oB (v2:=fun hg21=>by simp only[ah];kernel_rfl) J J J J (fun hg21=>?_) (fun hg21=>?_)
   .
    refine ix _ J (tC (by omega)) J<|cl J (GO (l:=xs[n]'(by omega)) (m:=m) (hl:=hxb _ (gT (by omega))) (hm:=hmb)) J<|?_;refine br J J J (fun hc30=>?_) (fun hc30=>?_)
    .
     exact at_ (n+1) ⟨⟨by omega,fun j h hj=>by by_cases q:j=n;(subst q;exact hc30);exact n2 j h (by omega)⟩,(by omega)⟩
    .
     have hidx:i6 bv m xs=n:=vH bv n1 n2 (fun h=>hc30);exact at_ () trivial
   .
    have hidx:i6 bv m xs=n:=vH bv n1 n2 (fun h=>absurd h (by omega));exact at_ () trivial
  .
   obtain⟨n,hnx⟩: ∃n,i6 bv m xs=n:=⟨_,rfl⟩;rw[hnx];have hnl:n<=xs.length:=by rw[<-hnx];exact Eb _ _ _
   refine oB (v1:=fun hg36=>by simp only[ah];kernel_rfl) J J J J (fun hg36=>?_) (fun hg36=>?_)
   .
    have hnew: ∀h:n<xs.length,bv xs[n] m≠0:=fun h=>absurd h (by omega);obtain⟨ys,hys⟩: ∃ys,ys=xs.take n++m::xs.drop n:=⟨_,rfl⟩;have hin:c9 bv m xs=ys:=by rw[hys];exact uY bv hnx hnew
    have hyl:ys.length<=xs.length+1:=by rw[hys];simp;omega
    refine s3 n _ J J J J (kz _) (by rw[hxl];exact hnl) J<|ro J J<|n7 n xs.length _ J J (by rw[hxl]) J (kz _) hnl (by omega) J<|?_;refine ap _ J J (uu kz _ _ _) J<|xX (hv:=by simp only[ah];exact⟨by kernel_rfl,by omega⟩) (ho:=fun _=>⟨v8 kz _ _,by simp⟩) (ys.map eL) J (by rw[hys,cX,cZ,kK,pS,aT (l:=xs.map eL) (i:=xs.length) (by simp)];rfl) (w9 kz _ _ _ _) J<|?_;exact at_ ⟨ys,k+1⟩ (by dsimp only;exact⟨⟨by rw[sN hz,<-hS,<-hmc];exact hin.symm,by omega⟩,(by omega)⟩)
   .
    refine ix _ J (tC (by omega)) J<|cl J (GO (l:=xs[n]'(by omega)) (m:=m) (hl:=hxb _ (gT (by omega))) (hm:=hmb)) J<|?_;refine br J J J (fun hc45=>?_) (fun hc45=>?_)
    .
     have hnew: ∀h:n<xs.length,bv xs[n] m≠0:=fun h=>hc45;obtain⟨ys,hys⟩: ∃ys,ys=xs.take n++m::xs.drop n:=⟨_,rfl⟩;have hin:c9 bv m xs=ys:=by rw[hys];exact uY bv hnx hnew
     have hyl:ys.length<=xs.length+1:=by rw[hys];simp;omega
     refine s3 n _ J J J J (kz _) (by rw[hxl];exact hnl) J<|ro J J<|n7 n xs.length _ J J (by rw[hxl]) J (kz _) hnl (by omega) J<|?_;refine ap _ J J (uu kz _ _ _) J<|xX (hv:=by simp only[ah];exact⟨by kernel_rfl,by omega⟩) (ho:=fun _=>⟨v8 kz _ _,by simp⟩) (ys.map eL) J (by rw[hys,cX,cZ,kK,pS,aT (l:=xs.map eL) (i:=xs.length) (by simp)];rfl) (w9 kz _ _ _ _) J<|?_;exact at_ ⟨ys,k+1⟩ (by dsimp only;exact⟨⟨by rw[sN hz,<-hS,<-hmc];exact hin.symm,by omega⟩,(by omega)⟩)
    .
     have hin:c9 bv m xs=xs:=Aw bv hnx (by omega) (Decidable.not_not.1 hc45);exact at_ ⟨xs,k+1⟩ (by dsimp only;exact⟨⟨by rw[sN hz,<-hS,<-hmc];exact hin.symm,by omega⟩,(by omega)⟩)
 .
  have hfin:jr ls=xs:=by rw[hS,Ep (by omega)];rfl
  exact rz J (by rw[hfin];rfl)
def vP{α:Type}{c:α->α->Int}(hc: ∀u x,c u x=0->u=x){x y:α}: ∀{xs:List α},y=x\/y∈xs->y∈c9 c x xs
 |[],h=>by
  rcases h with rfl|h
  ·rw[c9];exact aN.2 J
  ·cases h
 |u::t,h=>by
  rw[c9];split
  ·rcases h with rfl|h
   ·exact aK _ (vP hc (.inl J))
   ·rcases aR.1 h with rfl|h
    ·exact aZ
    ·exact aK _ (vP hc (.inr h))
  ·split
   ·rename_i h0
    rcases h with rfl|h
    ·rw[<-hc _ _ h0];exact aZ
    ·exact h
   ·rcases h with rfl|h
    ·exact aZ
    ·exact aK _ h
def Jj{α:Type}{c:α->α->Int}(hc: ∀u x,c u x=0->u=x){y:α}: ∀{l o:List α},y∈l\/y∈o->y∈l.foldl (fun out x=>c9 c x out) o
 |[],o,h=>h.elim (fun h=>by cases h) id
 |x::t,o,h=>by
  refine Jj hc (l:=t) ?_;rcases h with h|h
  ·rcases aR.1 h with rfl|h
   ·exact .inr (vP hc (.inl J))
   ·exact .inl h
  ·exact .inr (vP hc (.inr h))
def Th{ls:List ab}{x:ab}(h:x∈ls):x.canon∈jr ls:=
 Jj (fun u x e=>(CI u x).1 e) (.inl (mK h))
def OY(l:ab)(p:aa):l.canon.value p=l.value p\/l.canon.value p= -l.value p:=by
 unfold ab.canon;split
 ·exact .inr (Uj l p)
 ·exact .inl J
def ze(a b:Tr):List aa:=H3 (jr (a.lns++b.lns))
def X1(a b:Tr):Bool:=(ze a b).all fun p=>pm a p==pm b p
def Yj(f:Bool->Bool->Bool)(a b:Tr):Bool:=(ze a b).any fun p=>f (pm a p) (pm b p)
def WS(v:Bool)(t:Tr):Bool:=decide ((t.restrict []).isLeaf=true/\(t.restrict []).code=v)
def Hk{α:Type}{c:α->α->Int}(hT: ∀u v w,c u v<0->c v w<0->c u w<0)(hA: ∀u v,¬c u v<0->c u v≠0->c v u<0){x:α}: ∀{xs:List α},xs.Pairwise (fun a b=>c a b<0)->(c9 c x xs).Pairwise (fun a b=>c a b<0)
 |[],_=>by rw[c9];exact List.pairwise_singleton _ _
 |u::t,h=>by
  obtain⟨h1,h2⟩:=bU.1 h;rw[c9];split
  ·rename_i hu
   refine bU.2 ⟨fun y hy=>?_,Hk hT hA h2⟩;rcases CA c hy with rfl|hy
   ·exact hu
   ·exact h1 y hy
  ·rename_i hu
   split
   ·exact h
   ·rename_i hz
    have hx:=hA u x hu hz;refine bU.2 ⟨fun y hy=>?_,h⟩;rcases aR.1 hy with rfl|hy
    ·exact hx
    ·exact hT _ _ _ hx (h1 y hy)
def Ae{α:Type}{c:α->α->Int}(hT: ∀u v w,c u v<0->c v w<0->c u w<0)(hA: ∀u v,¬c u v<0->c u v≠0->c v u<0): ∀{l o:List α},o.Pairwise (fun a b=>c a b<0)->(l.foldl (fun out x=>c9 c x out) o).Pairwise (fun a b=>c a b<0)
 |[],o,h=>h
 |x::l,o,h=>Ae (l:=l) (o:=c9 c x o) hT hA (Hk hT hA h)
def oo(l m:ab):bv l m<0↔l.a<m.a\/(l.a=m.a/\(l.b<m.b\/(l.b=m.b/\l.c<m.c))):=by
 unfold bv;split
 ·rename_i h;rw[mD];rw[ne_eq,kd] at h;omega
 ·rename_i h;rw[ne_eq,Decidable.not_not,kd] at h
  split
  ·rename_i k;rw[mD];rw[ne_eq,kd] at k;omega
  ·rename_i k;rw[ne_eq,Decidable.not_not,kd] at k;rw[mD];omega
def Cv(l m:ab):bv l m=0↔l.a=m.a/\l.b=m.b/\l.c=m.c:=by
 unfold bv;split
 ·rename_i h;rw[kd];rw[ne_eq,kd] at h;omega
 ·rename_i h;rw[ne_eq,Decidable.not_not,kd] at h
  split
  ·rename_i k;rw[kd];rw[ne_eq,kd] at k;omega
  ·rename_i k;rw[ne_eq,Decidable.not_not,kd] at k;rw[kd];omega
def UL(ls:List ab):(jr ls).Pairwise (fun a b=>bv a b<0):=
 Ae (fun u v w h k=>by rw[oo] at*;omega) (fun u v h k=>by rw[oo] at*;rw[ne_eq,Cv] at k;omega) List.Pairwise.nil
def Lq(L:List ab)(p:aa):List aa:=L.flatMap fun l=>if Int.sign (l.value p).num=0 then [l.dir,d4 l.dir] else []
def MR{u v:aa}:0<ci u v↔c6 v u:=by
 unfold ci c6;split
 ·rename_i h;exact⟨fun e=>absurd e (by decide),fun e=>by omega⟩
 ·rename_i h
  split
  ·rename_i h2;exact⟨fun _=> .inl h2,fun _=>by decide⟩
  ·rename_i h2
   have e:v.half=u.half:=by omega
   rw[oy u v];constructor
   ·intro k
    have:Int.sign (u.cross v).num<0:=by omega
    rw[se] at this;exact .inr ⟨e,by grind⟩
   ·rintro (k|⟨_,k⟩)
    ·omega
    ·have:Int.sign (u.cross v).num<0:=(se _).2 (by grind)
     omega
def c6.trans{u v w:aa}(hu:u.half≠0)(hv:v.half≠0)(hw:w.half≠0)(h:c6 u v)(k:c6 v w):c6 u w:=by
 rcases h with h|⟨h,h'⟩<;>rcases k with k|⟨k,k'⟩
 ·exact .inl (by omega)
 ·exact .inl (by omega)
 ·exact .inl (by omega)
 ·refine .inr ⟨h.trans k,?_⟩
  have id1:u.cross w*v.y=u.cross v*w.y+v.cross w*u.y:=by unfold aa.cross;grind
  rcases kG v with⟨x,q⟩|⟨x,q⟩|⟨x,q⟩
  ·rw[x] at h k
   have qu:=ut.1 h;have qw:=ut.1 k.symm;rcases q with q|⟨q,q'⟩
   ·rw[<-pn q,id1]
    have wy:0<=w.y:=by grind
    have uy:0<=u.y:=by grind
    have a1:=lx (qR h') wy;rcases qu with qu|⟨qu,qu'⟩
    ·have:=fw k' qu;grind
    ·rcases qw with qw|⟨qw,qw'⟩
     ·have:=fw h' qw;rw[qu];grind
     ·exfalso
      have hx:v.cross w= -(w.x*v.y):=by unfold aa.cross;rw[qw];grind
      have:=fw qw' q;grind
   ·exfalso
    have hx:u.cross v= -(v.x*u.y):=by unfold aa.cross;rw[q];grind
    have:=lx (a:=v.x) (b:=u.y) (qR q') (by grind);grind
  ·rw[x] at h k
   have qu:=uz.1 h;have qw:=uz.1 k.symm;rcases q with q|⟨q,q'⟩
   ·have e1:u.cross w* -v.y=u.cross v* -w.y+v.cross w* -u.y:=by grind
    rw[<-pn (k:= -v.y) (by grind),e1];have a1:=lx (a:=u.cross v) (b:= -w.y) (qR h') (by grind);rcases qu with qu|⟨qu,qu'⟩
    ·have:=fw (a:=v.cross w) (b:= -u.y) k' (by grind);grind
    ·rcases qw with qw|⟨qw,qw'⟩
     ·have:=fw (a:=u.cross v) (b:= -w.y) h' (by grind);rw[qu];grind
     ·exfalso
      have hx:v.cross w= -(-w.x* -v.y):=by unfold aa.cross;rw[qw];grind
      have:=fw (a:= -w.x) (b:= -v.y) (by grind) (by grind);grind
   ·exfalso
    have hx:u.cross v= -(-v.x* -u.y):=by unfold aa.cross;rw[q];grind
    have:=lx (a:= -v.x) (b:= -u.y) (by grind) (by grind);grind
  ·exact absurd x hv
def z8(S:List aa)(x:aa):Nat->Nat
 |0=>0
 |k+1=>if 0<ci (S.getD k ⟨0,0⟩) x then z8 S x k else k+1
def Rh(S:List aa)(x:aa):List aa:=S.take (z8 S x S.length)++x::S.drop (z8 S x S.length)
def Og(ds:List aa):List aa:=ds.foldl Rh []
structure VK (L:List ab):Prop where
 ok: ∀l∈L,l.ok
 cn: ∀l∈L,jp l=false
 nd:L.Pairwise (fun a b=>a≠b)
def Gp{l:ab}(h:l.ok):jp l.canon=false:=by
 have hn:=h.ne;unfold ab.Ne at hn;unfold ab.canon;split
 ·rename_i k
  unfold jp at*;rw[decide_eq_true_eq] at k;rw[decide_eq_false_iff_not];show¬(-l.a<0\/(-l.a=0/\ -l.b<0));omega
 ·rename_i k;simpa using k
def I'{l:ab}(h:l.ok):l.dir.half≠0:=fun e=>by
 have hn:=h.ne;unfold ab.Ne at hn;rcases kG l.dir with⟨k,_⟩|⟨k,_⟩|⟨_,k1,k2⟩
 ·rw[k] at e;cases e
 ·rw[k] at e;cases e
 ·unfold ab.dir at k1 k2
  simp only at k1 k2;apply hn;refine⟨?_,mS.1 k2⟩;have:(l.a:Rat)=0:=by grind
  exact mS.1 this
def xf(d:aa):d4 (d4 d)=d:=by unfold d4;cases d;simp
def Ob{l m:ab}(hl:l.ok)(hm:m.ok)(cl:jp l=false)(cm:jp m=false){p:aa}(h1:l.value p=0)(h2:m.value p=0)(hc:l.dir.cross m.dir=0):l=m:=by
 have key: ∀t,l.value (m.at t)=0:=fun t=>by
  obtain⟨s,rfl⟩:=I8 hm.ne h2;rw[HE] at h1⊢;have hk:m.cutK l=0:=by
   unfold ab.cutK;rw[<-K7];exact hc
  rw[hk] at h1⊢;grind
 rcases LR hl hm key with e|e
 ·exact e
 ·exfalso
  have hn:=hm.ne;unfold ab.Ne at hn;rw[e] at cl;unfold jp at cl cm;rw[decide_eq_false_iff_not] at cl cm;have cl: ¬(-m.a<0\/(-m.a=0/\ -m.b<0)):=cl;omega
def E8(v:aa):Nat:=Nat.gcd (v.x.num.natAbs*v.y.den) (v.y.num.natAbs*v.x.den)
def JO(n:Int)(d g:Nat):Int:=if n<0 then-((n.natAbs*d/g:Nat):Int) else((n.natAbs*d/g:Nat):Int)
def Im(v:aa):aa:=if v.half=0 then⟨0,0⟩ else⟨(JO v.x.num v.y.den (E8 v):Int),(JO v.y.num v.x.den (E8 v):Int)⟩
def QW(ds:List aa)(i:Nat):List aa:=
 if ci (ds.getD i ⟨0,0⟩) (ds.getD ((i+1)%ds.length) ⟨0,0⟩)=0/\2<ds.length then []
 else if Int.sign ((ds.getD i ⟨0,0⟩).cross (ds.getD ((i+1)%ds.length) ⟨0,0⟩)).num=0 then [l5 (ds.getD i ⟨0,0⟩)]
 else [cC (Im (ds.getD i ⟨0,0⟩)) (Im (ds.getD ((i+1)%ds.length) ⟨0,0⟩)) 1]
def Nh(ds:List aa):List aa:=if ds.length=0 then [⟨1,0⟩] else(List.range ds.length).flatMap (QW ds)
def F6(L:List ab)(p:aa):List aa:=Nh (Og (Lq L p))
def R6(t:Tr)(p:aa):Bool:=(F6 (jr t.lns) p).any fun v=>(nP t p v).1
def Rl(t:Tr)(p:aa):Bool:=(F6 (jr t.lns) p).all fun v=>(nP t p v).1
def EE{z:Rat}(h:z<0):Int.sign z.num= -1:=by
 have:=(se _).2 h;rcases lL z.num 0 with q|q|q
 ·exact cM q
 ·rw[q] at this;simp at this
 ·rw[eK q] at this;simp at this
def xt:Tr->aa->List ab
 | .leaf _,_=>[]
 | .node l x y,p=>(if Int.sign (l.value p).num=0 then [l] else [])++((if 0<=Int.sign (l.value p).num then xt x p else [])++(if Int.sign (l.value p).num<=0 then xt y p else []))
def WG(t:Tr)(p:aa)(b:Bool):Prop:= ∃v,Gn (xt t p) p v/\(nP t p v).1=b
def pf(ds:List aa)(i:Nat):aa:=
 if 0<Int.sign ((ds.getD i ⟨0,0⟩).cross (ds.getD ((i+1)%ds.length) ⟨0,0⟩)).num then(ds.getD i ⟨0,0⟩).add (ds.getD ((i+1)%ds.length) ⟨0,0⟩) else l5 (ds.getD i ⟨0,0⟩)
def gz(ds:List aa):List aa:=if ds.length=0 then [⟨1,0⟩] else(List.range ds.length).map (pf ds)
def cA(v:aa):aa:=v.scale (rgcd v.x v.y)⁻¹
def HH(t:Tr)(p:aa):List aa:=(xt t p).flatMap fun l=>[cA l.dir,d4 (cA l.dir)]
def ml(ds:List aa):List aa:=n5 ci ds
def O3{x y:Rat}(h:x≠0\/y≠0):0<rgcd x y:=by
 unfold rgcd;have hd:0<x.den*y.den:=gX x.den_pos y.den_pos;have hg:0<Nat.gcd (x.num.natAbs*y.den) (y.num.natAbs*x.den):=by
  rcases h with h|h
  ·exact jK _ (gX (Int.natAbs_pos.2 fun e=>h (kU.1 e)) y.den_pos)
  ·exact mZ _ (gX (Int.natAbs_pos.2 fun e=>h (kU.1 e)) x.den_pos)
 generalize Nat.gcd (x.num.natAbs*y.den) (y.num.natAbs*x.den)=g at*;generalize x.den*y.den=d at*;rw[<-zf];have h1:mkRat (g:Int) d=(g:Rat)/(d:Rat):=by rw[oX];rfl
 rw[zf,h1];have hg':(0:Rat)<(g:Rat):=by exact_mod_cast hg
 have hd':(0:Rat)<(d:Rat):=by exact_mod_cast hd
 have e:(g:Rat)/(d:Rat)*(d:Rat)=(g:Rat):=by grind
 exact(pn (k:=(d:Rat)) hd').1 (by rw[e];exact hg')
def Mh{v:aa}(h:v.half≠0):v.x≠0\/v.y≠0:=by
 rcases kG v with⟨_,k⟩|⟨_,k⟩|⟨k,_⟩
 ·rcases k with k|⟨_,k⟩
  ·exact .inr (by grind)
  ·exact .inl (by grind)
 ·rcases k with k|⟨_,k⟩
  ·exact .inr (by grind)
  ·exact .inl (by grind)
 ·exact absurd k h
def CF{v:aa}(h:v.half≠0): ∃a:Rat,0<a/\cA v=⟨a*v.x,a*v.y⟩:=by
 have hg:=O3 (Mh h);refine⟨(rgcd v.x v.y)⁻¹,?_,?_⟩
 ·generalize rgcd v.x v.y=g at*
  have e:g⁻¹*g=1:=by grind
  exact(pn (k:=g) hg).1 (by rw[e];decide)
 ·unfold cA aa.scale
  simp only[aa.mk.injEq];constructor<;>grind
def TJ(v:aa):cA (d4 v)=d4 (cA v):=by
 have e:rgcd (-v.x) (-v.y)=rgcd v.x v.y:=by
  unfold rgcd;rw[kN,kN,nU,nU,gW,gW]
 unfold cA aa.scale d4;simp only[aa.mk.injEq,e];constructor<;>grind
def DG{v:aa}(h:v.half≠0):(cA v).half=v.half:=by
 obtain⟨a,a1,e⟩:=CF h;have:=HN (a:=a) (b:=a) (u:=v) (w:=v) a1 a1 J h;rw[<-this];have h2:cA v=uS (a*(1/2)) (a*(1/2)) v v:=by rw[e];unfold uS;simp only[aa.mk.injEq];constructor<;>grind
 have h3:=HN (a:=a*(1/2)) (b:=a*(1/2)) (u:=v) (w:=v) (fw a1 (by grind)) (fw a1 (by grind)) J h;rw[h2,h3,this]
def Tl{u v:aa}:ci u v=0↔u.half=v.half/\u.cross v=0:=by
 unfold ci;split
 ·constructor
  ·intro h;exact absurd h (by decide)
  ·intro h;omega
 ·split
  ·constructor
   ·intro h;exact absurd h (by decide)
   ·intro h;omega
  ·constructor
   ·intro h
    exact⟨by omega,(qr _).1 (by omega)⟩
   ·intro h
    rw[(qr _).2 h.2];rfl
def xh{u v w:aa}(h:c6 u v)(k:c6 v w):c6 u w:=by
 by_cases hu:u.half=0
 ·by_cases hw:w.half=0
  ·have z: ∀x y:aa,x.half=0->x.cross y=0:=fun x y hx=>by
    rcases kG x with⟨e,_⟩|⟨e,_⟩|⟨_,e1,e2⟩
    ·rw[hx] at e;exact absurd e (by decide)
    ·rw[hx] at e;exact absurd e (by decide)
    ·unfold aa.cross;rw[e1,e2];grind
   rcases h with h|⟨h,h'⟩
   ·rcases k with k|⟨k,k'⟩
    ·omega
    ·have hv:v.half≠0:=by omega
     omega
   ·rw[z u v hu] at h';exact absurd h' (by decide)
  ·refine .inl ?_
   have h1:=xy hw;omega
 ·have hv:v.half≠0:=by
   intro e;rcases h with h|⟨h,_⟩
   ·have:=xy hu;omega
   ·omega
  have hw:w.half≠0:=by
   intro e;rcases k with k|⟨k,_⟩
   ·have:=xy hv;omega
   ·omega
  exact c6.trans hu hv hw h k
section
variable {α:Type} (c:α->α->Int)
def Fq{x y:α}: ∀{xs:List α},y∈xs->y∈c9 c x xs
 |[],h=>by cases h
 |u::t,h=>by
  rw[c9];split
  ·rcases aR.1 h with rfl|h
   ·exact aZ
   ·exact aK _ (Fq h)
  ·split
   ·exact h
   ·exact aK _ h
def Il{x:α}: ∀{xs:List α},∃e∈c9 c x xs,e=x\/c e x=0
 |[]=>⟨x,aZ, .inl J⟩
 |u::t=>by
  rw[c9];split
  ·obtain⟨e,h1,h2⟩:=Il (x:=x) (xs:=t)
   exact⟨e,aK _ h1,h2⟩
  ·split
   ·exact⟨u,aZ, .inr (by assumption)⟩
   ·exact⟨x,aZ, .inl J⟩
def Ij{y:α}: ∀{l o:List α},y∈o->y∈l.foldl (fun out x=>c9 c x out) o
 |[],o,h=>h
 |x::t,o,h=>Ij (l:=t) (Fq c h)
def yz{d:α}: ∀{l o:List α},d∈l-> ∃e∈l.foldl (fun out x=>c9 c x out) o,e=d\/c e d=0
 |[],o,h=>by cases h
 |x::t,o,h=>by
  rcases aR.1 h with rfl|h
  ·obtain⟨e,h1,h2⟩:=Il c (x:=d) (xs:=o)
   exact⟨e,Ij c (l:=t) h1,h2⟩
  ·exact yz (l:=t) h
end
def Oc(ds:List aa):(ml ds).Pairwise c6:=by
 have:=Ae (c:=ci) (fun u v w h k=>mw.2 (xh (mw.1 h) (mw.1 k))) (fun u v h k=>mw.2 (MR.1 (by omega))) (l:=ds) (o:=[]) List.Pairwise.nil;exact this.imp fun h=>mw.1 h
def RB{l m:ab}(hl:l.ok)(hm:m.ok){p:aa}(h1:l.value p=0)(h2:m.value p=0){d e:aa}(hd:d=cA l.dir\/d=d4 (cA l.dir))(he:e=cA m.dir\/e=d4 (cA m.dir))(h:ci d e=0):d=e:=by
 obtain⟨hh,hc⟩:=Tl.1 h;have zl:=I' hl;have zm:=I' hm;have zpl:(cA l.dir).half≠0:=by rw[DG zl];exact zl
 have zpm:(cA m.dir).half≠0:=by rw[DG zm];exact zm
 have cr:l.dir.cross m.dir=0:=by
  obtain⟨a,a1,e1⟩:=CF zl;obtain⟨b,b1,e2⟩:=CF zm;have c0:(cA l.dir).cross (cA m.dir)=0:=by
   rcases hd with rfl|rfl<;>rcases he with rfl|rfl
   ·exact hc
   ·rw[pE] at hc;grind
   ·rw[oy,pE] at hc;rw[oy];grind
   ·rw[pE,oy,pE] at hc;rw[oy];grind
  have e3:(cA l.dir).cross (cA m.dir)=(a*b)*l.dir.cross m.dir:=by rw[e1,e2];unfold aa.cross;grind
  have hab:=fw a1 b1;rw[e3] at c0;clear e1 e2 e3;generalize a*b=k at*;generalize l.dir.cross m.dir=z at*;rcases tY z with q|q|q
  ·exact q
  ·have:=fw hab q;grind
  ·have:=fw (a:=k) (b:= -z) hab (by grind);grind
 have dirR: ∀k:ab,k.rev.dir=d4 k.dir:=fun k=>by
  unfold ab.dir ab.rev d4;simp only[aa.mk.injEq,qX]
  try constructor<;>grind
 have cdir: ∀k:ab,k.canon.dir=k.dir\/k.canon.dir=d4 k.dir:=fun k=>by
  unfold ab.canon;split
  ·exact .inr (dirR k)
  ·exact .inl J
 have cval: ∀k:ab,k.value p=0->k.canon.value p=0:=fun k hk=>by rcases OY k p with e|e<;>rw[e,hk]<;>rfl
 have okc: ∀k:ab,k.ok->k.canon.ok:=fun k hk=>by unfold ab.canon;split;exact hk.rev;exact hk
 have ec:l.canon=m.canon:=Ob (okc l hl) (okc m hm) (Gp hl) (Gp hm) (cval l h1) (cval m h2) (by
  rcases cdir l with e1|e1<;>rcases cdir m with e2|e2<;>rw[e1,e2]
  ·exact cr
  ·rw[pE,cr];rfl
  ·rw[oy,pE,oy,cr];rfl
  ·rw[pE,oy,pE,oy,cr];rfl)
 have hdir:l.dir=m.dir\/l.dir=d4 m.dir:=by
  have e1:=cdir l;have e2:=cdir m;rw[ec] at e1;rcases e1 with e1|e1<;>rcases e2 with e2|e2
  ·exact .inl (e1.symm.trans e2)
  ·exact .inr (e1.symm.trans e2)
  ·right;rw[<-e2,e1,xf]
  ·left;rw[<-xf l.dir,<-e1,e2,xf]
 have hP:cA l.dir=cA m.dir\/cA l.dir=d4 (cA m.dir):=by
  rcases hdir with e|e
  ·exact .inl (by rw[e])
  ·exact .inr (by rw[e,TJ])
 have hn:=Tb zpm;have h3:=xy zpm;have key:d=cA m.dir\/d=d4 (cA m.dir):=by
  rcases hd with rfl|rfl<;>rcases hP with e|e
  ·exact .inl e
  ·exact .inr e
  ·exact .inr (by rw[e])
  ·exact .inl (by rw[e,xf])
 rcases key with rfl|rfl<;>rcases he with rfl|rfl
 ·rfl
 ·exfalso;omega
 ·exfalso;omega
 ·rfl
def E7(t:Tr)(p:aa):Bool:=(gz (ml (HH t p))).any fun v=>(nP t p v).1
def Qo(t:Tr)(p:aa):Bool:=(gz (ml (HH t p))).all fun v=>(nP t p v).1
def WI(t:Tr)(p:aa):Int:=if E7 t p&&Qo t p then 2 else if E7 t p then 1 else 0
def xj(u:aa): ¬c6 u u:=by
 rintro (h|⟨_,h⟩)
 ·omega
 ·have:u.cross u=0:=by unfold aa.cross;grind
  rw[this] at h;exact absurd h (by decide)
def U1{u v:aa}(h:c6 u v)(k:c6 v u):False:=xj u (xh h k)
def Dy{x y:aa}(h: ¬c6 x y)(k: ¬c6 y x):ci x y=0:=by
 rw[<-mw] at h k;unfold ci at*;split at h<;>try omega
 split at h<;>try omega
 split at k<;>try omega
 rw[show y.cross x= -(x.cross y) by unfold aa.cross;grind,kN,Int.sign_neg] at k;omega
end Go.Sx
end
