import Derived.Test.YtefoocgiaegobaaGreatDoorPi15
set_option linter.all false
set_option maxHeartbeats 4000000
set_option maxRecDepth 100000
section
namespace Go.Sx
open Go Go.Proofs Tryz
variable {GB:Gh}
def W4{p q r:Bool}{a b c:Nat}(h:Nat.gcd a b≠0):aa.ok ⟨zv p (a/Nat.gcd (Nat.gcd a b) c),zv q (b/Nat.gcd (Nat.gcd a b) c),zv r (c/Nat.gcd (Nat.gcd a b) c)⟩:=by
 have hg:0<Nat.gcd (Nat.gcd a b) c:=lQ _ (iV h);have d0:Nat.gcd (Nat.gcd a b) c∣Nat.gcd a b:=kJ _ _;have d1:Nat.gcd (Nat.gcd a b) c∣a:=qT d0 (kJ _ _);have d2:Nat.gcd (Nat.gcd a b) c∣b:=qT d0 (lU _ _);have d3:Nat.gcd (Nat.gcd a b) c∣c:=lU _ _;refine⟨?_,?_⟩
 ·rintro ⟨h1,h2⟩
  have h1':=congrArg Int.natAbs h1;have h2':=congrArg Int.natAbs h2;simp only[qb,qM] at h1' h2';have e1:=Nat.div_mul_cancel d1;have e2:=Nat.div_mul_cancel d2;rw[h1',kU] at e1;rw[h2',kU] at e2;exact h (by rw[<-e1,<-e2];rfl)
 ·simp only[qb]
  rw[Nat.gcd_div d1 d2,Nat.gcd_div d0 d3,Nat.div_self hg]
def Ip(p:Bool)(a g:Nat):(zv p (a/g)).natAbs<=a:=by rw[qb];exact kR ..
def PF.eq{P:Program}{f:FuncId}{vs:List DV}{r r':DV}(h:PF GB P f vs r)(e:r=r'):PF GB P f vs r':=e▸h
def iP(m n:Int):ab:=⟨(m:Rat),(n:Rat)⟩
theorem Av{m:Int}{k:Nat}(h:m.natAbs<2^k):BI m k:=⟨h⟩
theorem nq{m:Int}{k:Nat}(h:m.natAbs<=1000)(hk:10<=k):BI m k:=⟨dJ (show m.natAbs<2^10 by omega) (bR (by decide) hk)⟩
instance aI.int (m n:Int) (i:Nat) [h:BI m i] [k:BI n i]:aI (iP m n) (i+1):=⟨inferInstanceAs (BQ (m:Rat) (i+1)),inferInstanceAs (BQ (n:Rat) (i+1))⟩
def tT{q:Rat}{k:Int}(h:q=(k:Rat)):eQ q=eQ (k:Rat):=by rw[h]
def Yn{p:ab}{m n:Int}(h1:p.x=(m:Rat))(h2:p.y=(n:Rat)):eP p=eP (iP m n):=by
 obtain⟨x,y⟩:=p;simp only at h1 h2;subst h1 h2;rfl
def gn(a b c:Int):aa:=
 ⟨zv (decide (a<0)) (a.natAbs/Nat.gcd (Nat.gcd a.natAbs b.natAbs) c.natAbs),zv (decide (b<0)) (b.natAbs/Nat.gcd (Nat.gcd a.natAbs b.natAbs) c.natAbs),zv (decide (c<0)) (c.natAbs/Nat.gcd (Nat.gcd a.natAbs b.natAbs) c.natAbs)⟩
def Mp{a b c:Int}(h: ¬(a=0/\b=0)):(gn a b c).ok:=
 W4 fun e=>h ⟨kN.1 (lM e),kN.1 (lT e)⟩
def FJ(a b c:Int):(gn a b c).a.natAbs<=a.natAbs/\(gn a b c).b.natAbs<=b.natAbs/\(gn a b c).c.natAbs<=c.natAbs:=⟨Ip ..,Ip ..,Ip ..⟩
def Ax{m n:Int}(hm:m.natAbs<=1000)(hn:n.natAbs<=1000):PF GB prog 79 [.v (.int .i64 m), .v (.int .i64 n)] (eP (iP m n)):=by
 refine fn func79 J J ntmps79 J J (fun C=>?_);refine cl J (o7 (n:=m) (by omega) (by omega)) J<|cl J (o7 (n:=n) (by omega) (by omega)) J<|?_;exact rz J J
def P7{m n m' n' k:Int}(hm:m.natAbs<=1000)(hn:n.natAbs<=1000)(hm':m'.natAbs<=1000)(hn':n'.natAbs<=1000)(hk:k.natAbs<=1000):PF GB prog 100 [eP (iP m n),eQ (k:Rat),eP (iP m' n')] (eP (iP (m+k*m') (n+k*n'))):=by
 haveI:=nq (k:=10) hm (by decide);haveI:=nq (k:=10) hn (by decide);haveI:=nq (k:=10) hm' (by decide);haveI:=nq (k:=10) hn' (by decide);haveI:=nq (k:=10) hk (by decide);exact PF.eq (Cb (p:=iP m n) (q:=iP m' n') (c:=(k:Rat))) (Yn (by show(m:Rat)+(k:Rat)*(m':Rat)=_;push_cast;rfl) (by show(n:Rat)+(k:Rat)*(n':Rat)=_;push_cast;rfl))
def aDp{m n m' n':Int}(hm:m.natAbs<=1000)(hn:n.natAbs<=1000)(hm':m'.natAbs<=1000)(hn':n'.natAbs<=1000):PF GB prog 154 [eP (iP m n),eP (iP m' n')] (eP (iP (m-m') (n-n'))):=by
 refine fn func154 J J ntmps154 J J (fun C=>?_);refine cl J (o7 (n:= -1) (by decide) (by decide)) J<|cl J (P7 (m:=m) (n:=n) (m':=m') (n':=n') (k:= -1) hm hn hm' hn' (by decide)) J<|?_;exact rz J (by rw[show m-m'=m+ -1*m' by omega,show n-n'=n+ -1*n' by omega];rfl)
def axP{m n m' n':Int}(hm:m.natAbs<=1000)(hn:n.natAbs<=1000)(hm':m'.natAbs<=1000)(hn':n'.natAbs<=1000):PF GB prog 61 [eP (iP m n),eP (iP m' n')] (.v (.bool (decide (m=m'/\n=n')))):=by
 haveI:=nq (k:=10) hm (by decide);haveI:=nq (k:=10) hn (by decide);haveI:=nq (k:=10) hm' (by decide);haveI:=nq (k:=10) hn' (by decide);refine fn func61 J J ntmps61 J J (fun C=>?_);refine cl J (xd (a:=(m:Rat)) (b:=(m':Rat))) J<|?_;refine cs 11 J J J (fun hg11=>?_) (fun hg11=>?_)
 .
  refine cl J (xd (a:=(n:Rat)) (b:=(n':Rat))) J<|?_;exact rz J (by rw[vJ] at hg11;have e:m=m':=(by exact_mod_cast hg11);exact congrArg (fun z=>DV.v (.bool z)) (decide_eq_decide.2 (by rw[vJ,oM];simp[e])))
 .
  exact rz J (by rw[vJ] at hg11;have e: ¬m=m':=(fun e=>hg11 (by rw[e]));show DV.v (.bool false)=DV.v (.bool _);rw[decide_eq_false (fun h=>e h.1)])
def OC{a b k:Nat}(ha:a<k)(hb:b<k):Nat.gcd a b<k:=by
 rcases fX a with rfl|p
 ·simpa using hb
 ·exact gJ (Nat.gcd_le_left b p) ha
def UP{a b c:Int}{i:Nat}(ha:BI a i)(hb:BI b i)(hc:BI c i)(hi:i<=100000000)(h0: ¬(a=0/\b=0)):PF GB prog 340 [eI a,eI b,eI c] (.tp [eL (gn a b c), .v (.bool true)]):=by
 have hgn:Nat.gcd a.natAbs b.natAbs≠0:=fun h=>h0 ⟨kN.1 (lM h),kN.1 (lT h)⟩;have hgp:0<Nat.gcd (Nat.gcd a.natAbs b.natAbs) c.natAbs:=lQ _ (iV hgn);haveI hb1:BN (Nat.gcd a.natAbs b.natAbs) i:=⟨OC ha.h hb.h⟩;haveI hb2:BN (Nat.gcd (Nat.gcd a.natAbs b.natAbs) c.natAbs) i:=⟨OC hb1.h hc.h⟩;refine fn func340 J J ntmps340 J J (fun C=>?_);refine cl J (Hh (a:=a.natAbs) (b:=b.natAbs) (by omega) (by omega)) J<|?_;refine br J J J (fun hc22=>?_) (fun hc22=>?_)
 .
  exact absurd hc22 (by rw[aJ];intro h;exact hgn (wv.1 (by omega)))
 .
  refine cl J (Hh (a:=Nat.gcd a.natAbs b.natAbs) (b:=c.natAbs) (by omega) (by omega)) J<|cl J (wY (a:=a.natAbs) (b:=Nat.gcd (Nat.gcd a.natAbs b.natAbs) c.natAbs) hgp (by omega) (by omega)) J<|?_;refine cl J (wY (a:=b.natAbs) (b:=Nat.gcd (Nat.gcd a.natAbs b.natAbs) c.natAbs) hgp (by omega) (by omega)) J<|cl J (wY (a:=c.natAbs) (b:=Nat.gcd (Nat.gcd a.natAbs b.natAbs) c.natAbs) hgp (by omega) (by omega)) J<|?_;refine cl J (kH (m:=a.natAbs/(Nat.gcd (Nat.gcd a.natAbs b.natAbs) c.natAbs)) (neg:=decide (a<0))) J<|cl J (kH (m:=b.natAbs/(Nat.gcd (Nat.gcd a.natAbs b.natAbs) c.natAbs)) (neg:=decide (b<0))) J<|?_;refine cl J (kH (m:=c.natAbs/(Nat.gcd (Nat.gcd a.natAbs b.natAbs) c.natAbs)) (neg:=decide (c<0))) J<|?_;exact rz J J
def iO(n n':Int):Int:= -(n'-n)
def jb(m m':Int):Int:=m'-m
def m8(m n m' n':Int):Int:= -(iO n n'*m+jb m m'*n)
def iE(m n m' n':Int):aa:=gn (iO n n') (jb m m') (m8 m n m' n')
def Bl{a b:Int}(ha:a.natAbs<=2000)(hb:b.natAbs<=1000):(a*b).natAbs<=2000000:=by
 rw[iT];exact jN ha hb
def Sz{m n m' n':Int}(hm:m.natAbs<=1000)(hn:n.natAbs<=1000)(hm':m'.natAbs<=1000)(hn':n'.natAbs<=1000)(h0: ¬(m=m'/\n=n')):PF GB prog 246 [eP (iP m n),eP (iP m' n')] (.tp [eL (iE m n m' n'), .v (.bool true)]):=by
 obtain⟨a,hA⟩: ∃a,a=iO n n':=⟨_,rfl⟩;obtain⟨b,hB⟩: ∃b,b=jb m m':=⟨_,rfl⟩;have hA':a= -(n'-n):=hA;have hB':b=m'-m:=hB;obtain⟨c,hC⟩: ∃c,c= -(a*m+b*n):=⟨_,rfl⟩;have e1:=Bl (a:=a) (b:=m) (by omega) hm;have e2:=Bl (a:=b) (b:=n) (by omega) hn;haveI hm0:=nq (k:=10) hm (by decide);haveI hn0:=nq (k:=10) hn (by decide);haveI ha:BI a 30:=Av (by omega);haveI hb:BI b 30:=Av (by omega);haveI hc:BI c 30:=Av (by omega);have hthr:iE m n m' n'=gn a b c:=by rw[hC,hA,hB];rfl
 have hne: ¬(a=0/\b=0):=fun h=>h0 (by omega);refine fn func246 J J ntmps246 J J (fun C=>?_);refine cl J (aDp (m:=m') (n:=n') (m':=m) (n':=n) hm' hn' hm hn) J<|cl J (PF.eq (vp (q:=(((n'-n):Int):Rat))) (tT (k:=a) (by rw[hA'];push_cast;rfl))) J<|?_;refine cl J (PF.eq (ji (a:=(a:Rat)) (b:=(m:Rat))) (tT (k:=a*m) (by push_cast;rfl))) J<|cl J (PF.eq (by haveI:BI (m'-m) 30:=(by rw[<-hB'];exact hb);exact ji (a:=(((m'-m):Int):Rat)) (b:=(n:Rat))) (tT (k:=b*n) (by rw[hB'];push_cast;rfl))) J<|?_;refine cl J (PF.eq (q6 (a:=((a*m:Int):Rat)) (b:=((b*n:Int):Rat))) (tT (k:=a*m+b*n) (by push_cast;rfl))) J<|cl J (PF.eq (vp (q:=((a*m+b*n:Int):Rat))) (tT (k:=c) (by rw[hC];push_cast;rfl))) J<|?_;refine cl J (j' (q:=(a:Rat))) J<|cl J (j' (q:=(((m'-m):Int):Rat))) J<|cl J (PF.eq (q8 (a:=1) (b:=1)) J) J<|?_;refine cl J (j' (q:=(c:Rat))) J<|cl J (PF.eq (q8 (a:=1) (b:=1)) J) J<|cl (fu:=⟨1⟩) J (kH (neg:=false) (m:=1)) J<|?_;refine av 40 (.d (eQ ((1:Int):Rat))) J J ?_;refine gx J<|cl J (PF.eq (ji (a:=(a:Rat)) (b:=((1:Int):Rat))) (tT (k:=a) (by push_cast;grind))) J<|cl J (PF.eq (by haveI:BI (m'-m) 30:=(by rw[<-hB'];exact hb);exact ji (a:=(((m'-m):Int):Rat)) (b:=((1:Int):Rat))) (tT (k:=b) (by rw[hB'];push_cast;grind))) J<|?_;refine cl J (PF.eq (ji (a:=(c:Rat)) (b:=((1:Int):Rat))) (tT (k:=c) (by push_cast;grind))) J<|cl J (UP (a:=a) (b:=b) (c:=c) ha hb hc (by decide) hne) J<|?_;exact rz J (by rw[hthr];rfl)
def U0{es:List Int}{a:Nat}(h:a<es.length):(es.map vI)[(a:Int).toNat]? =some (vI es[a]):=by simp[h]
def WC:eP (iP 0 0)= .ag [.v (.bool false), .sl [], .sl [], .v (.bool false), .sl [], .sl []]:=by
 unfold eP iP;simp[vh,dD]
def aDQ{m n p q:Int}(hm:m.natAbs<=4)(hn:n.natAbs<=4)(hp:p.natAbs<=4)(hq:q.natAbs<=4)(h: ¬(p=0/\q=0)):LS (iE m n (m+1*p) (n+1*q)):=by
 have e1:iO n (n+1*q)= -q:=by unfold iO;omega
 have e2:jb m (m+1*p)=p:=by unfold jb;omega
 have e3:((-q)*m).natAbs<=4*4:=by rw[iT];exact jN (by omega) hm
 have e4:(p*n).natAbs<=4*4:=by rw[iT];exact jN hp hn
 have e5:m8 m n (m+1*p) (n+1*q)= -((-q)*m+p*n):=by unfold m8;rw[e1,e2]
 unfold iE;obtain⟨k1,k2,k3⟩:=FJ (iO n (n+1*q)) (jb m (m+1*p)) (m8 m n (m+1*p) (n+1*q));exact⟨Mp (by rw[e1,e2];omega),cM k1 (by rw[e1];omega),cM k2 (by rw[e2];omega),cM k3 (by rw[e5];omega)⟩
def bg(es:List Int)(n:Int)(a:Nat):Nat×Nat:=
 if h:a<es.length then((if Int.tmod es[a] n<0 then Int.tmod es[a] n+n else Int.tmod es[a] n).toNat,a+1) else(0,a)
def uC{es:List Int}{n:Int}{a:Nat}(hn:1<=n):((bg es n a).1:Int)<n:=by
 unfold bg;split
 ·rename_i h
  have q2:=Int.tmod_lt_of_pos es[a] (show 0<n by omega);dsimp only;split<;>omega
 ·exact hn
def qr{es:List Int}{n:Int}{a:Nat}(ha:a<=es.length):(bg es n a).2<=es.length:=by
 unfold bg;split
 ·assumption
 ·exact ha
def pF(es:List Int)(a:Nat):(Int×Int)×Nat:=((((bg es 9 a).1:Int)-4,((bg es 9 (bg es 9 a).2).1:Int)-4),(bg es 9 (bg es 9 a).2).2)
def BP{es:List Int}{a:Nat}(ha:a<=es.length):(pF es a).1.1.natAbs<=4/\(pF es a).1.2.natAbs<=4/\(pF es a).2<=es.length:=by
 have h1:=uC (es:=es) (n:=9) (a:=a) (by decide);have h2:=uC (es:=es) (n:=9) (a:=(bg es 9 a).2) (by decide);have h3:=qr (n:=9) (qr (es:=es) (n:=9) ha);unfold pF;exact⟨by dsimp only;omega,by dsimp only;omega,h3⟩
def vF(es:List Int)(a:Nat):(Int×Int)×Nat:=if(pF es a).1.1=0/\(pF es a).1.2=0 then((1,0),(pF es a).2) else pF es a
def Rl{es:List Int}{a:Nat}(ha:a<=es.length):(vF es a).1.1.natAbs<=4/\(vF es a).1.2.natAbs<=4/\ ¬((vF es a).1.1=0/\(vF es a).1.2=0)/\(vF es a).2<=es.length:=by
 obtain⟨h1,h2,h3⟩:=BP ha;unfold vF;split
 ·exact⟨show(1:Int).natAbs<=4 by decide,show(0:Int).natAbs<=4 by decide,show¬((1:Int)=0/\(0:Int)=0) by decide,h3⟩
 ·rename_i h;exact⟨h1,h2,h,h3⟩
def lF(es:List Int)(a:Nat):aa×Nat:=(iE (pF es a).1.1 (pF es a).1.2 ((pF es a).1.1+1*(vF es (pF es a).2).1.1) ((pF es a).1.2+1*(vF es (pF es a).2).1.2),(vF es (pF es a).2).2)
def Qx{es:List Int}{a:Nat}(ha:a<=es.length):LS (lF es a).1/\(lF es a).2<=es.length:=by
 obtain⟨h1,h2,h3⟩:=BP ha;obtain⟨k1,k2,k3,k4⟩:=Rl h3;exact⟨aDQ h1 h2 k1 k2 k3,k4⟩
def mj(es:List Int):Nat->Nat->Tr×Nat
 |0,a=>(.leaf (decide (((bg es 2 a).1:Int)=1)),(bg es 2 a).2)
 |d+1,a=>if((bg es 4 a).1:Int)=0 then(.leaf (decide (((bg es 2 (bg es 4 a).2).1:Int)=1)),(bg es 2 (bg es 4 a).2).2) else
  (.node (lF es (bg es 4 a).2).1 (mj es d (lF es (bg es 4 a).2).2).1 (mj es d (mj es d (lF es (bg es 4 a).2).2).2).1,(mj es d (mj es d (lF es (bg es 4 a).2).2).2).2)
def yg{b:Nat}{es:List Int}(hes:es.length<=400){a:Nat}(ha:a<=es.length){n:Int}(hn:1<=n)(hn2:n<=1000):PM GB prog 18 (gI [none,some (.v (.int .i64 n))] b) b 126 [.sl (es.map vI), .v (.int .i64 (a:Nat))] (.v (.int .i64 ((bg es n a).1:Nat))) [.sl (es.map vI), .v (.int .i64 ((bg es n a).2:Nat))]:=by
 have hel:(es.map vI).length=es.length:=by simp
 refine uz func18 J J ntmps18 J J (fun C b m lo hmb=>?_);refine br J J J (fun hc15=>?_) (fun hc15=>?_)
 .
  have hf:bg es n a=(0,a):=by unfold bg;rw[dif_neg (by omega)]
  exact n5 hmb J J (by rw[hf]<;>rfl) (by rw[hf]<;>rfl)
 .
  have hal:a<es.length:=by omega
  obtain⟨e,he⟩: ∃e,e=es[a]:=⟨_,rfl⟩;have q2:=Int.tmod_lt_of_pos e (show 0<n by omega);have q3: -n<Int.tmod e n:=by have:=Int.lt_tmod_of_pos e (show 0<n by omega);omega
  refine ix (fu:=⟨1⟩) _ J (U0 hal) J<|?_;refine av 25 (.d (vI e)) J (by rw[he]<;>rfl) ?_;refine gx (hv:=by simp only[ah];exact⟨⟨by omega,by kernel_rfl⟩,by omega⟩) J<|?_;refine br J J J (fun hc36=>?_) (fun hc36=>?_)
  .
   have hf:bg es n a=((Int.tmod e n+n).toNat,a+1):=by unfold bg;rw[dif_pos hal,<-he,if_pos hc36]
   exact n5 hmb J J (by rw[hf];show DV.v (.int .i64 _)=DV.v (.int .i64 _);rw[qQ (by omega)]) (by rw[hf]<;>rfl)
  .
   have hf:bg es n a=((Int.tmod e n).toNat,a+1):=by unfold bg;rw[dif_pos hal,<-he,if_neg hc36]
   exact n5 hmb J J (by rw[hf];show DV.v (.int .i64 _)=DV.v (.int .i64 _);rw[qQ (by omega)]) (by rw[hf]<;>rfl)
def Qy{b:Nat}{es:List Int}(hes:es.length<=400){a:Nat}(ha:a<=es.length):PM GB prog 97 (gI [none] b) b 126 [.sl (es.map vI), .v (.int .i64 (a:Nat))] (eP (iP (pF es a).1.1 (pF es a).1.2)) [.sl (es.map vI), .v (.int .i64 ((pF es a).2:Nat))]:=by
 have h1:=uC (es:=es) (n:=9) (a:=a) (by decide);have h2:=uC (es:=es) (n:=9) (a:=(bg es 9 a).2) (by decide);refine uz func97 J J ntmps97 J J (fun C b m lo hmb=>?_);refine cm J (fun b=>(yg (n:=9) hes ha (by decide) (by decide))) J<|cm J (fun b=>(yg (n:=9) hes (qr ha) (by decide) (by decide))) J<|?_;refine cl J (Ax (m:=((bg es 9 a).1:Int)-4) (n:=((bg es 9 (bg es 9 a).2).1:Int)-4) (by omega) (by omega)) J<|?_;exact n5 hmb J J J J
def Tb{b:Nat}{es:List Int}(hes:es.length<=400){a:Nat}(ha:a<=es.length):PM GB prog 98 (gI [none] b) b 126 [.sl (es.map vI), .v (.int .i64 (a:Nat))] (eP (iP (vF es a).1.1 (vF es a).1.2)) [.sl (es.map vI), .v (.int .i64 ((vF es a).2:Nat))]:=by
 obtain⟨hm,hn,ha1⟩:=BP ha;refine uz func98 J J ntmps98 J J (fun C b m lo hmb=>?_);refine cm (fu:=⟨9⟩) J (fun b=>(Qy hes ha)) J<|?_;refine av 7 (.d (eP (iP 0 0))) J (by rw[WC]<;>rfl) ?_;refine gx J<|cl J (axP (m:=(pF es a).1.1) (n:=(pF es a).1.2) (m':=0) (n':=0) (by omega) (by omega) (by decide) (by decide)) J<|?_;refine bd J J J (fun hc8=>?_) (fun hc8=>?_)
 .
  have hf:vF es a=((1,0),(pF es a).2):=by unfold vF;rw[if_pos hc8]
  refine cl J (Ax (m:=1) (n:=0) (by decide) (by decide)) J<|?_;exact n5 hmb J J (by rw[hf]<;>rfl) (by rw[hf])
 .
  have hf:vF es a=pF es a:=by unfold vF;rw[if_neg hc8]
  exact n5 hmb J J (by rw[hf]<;>rfl) (by rw[hf])
def Yr{b:Nat}{es:List Int}(hes:es.length<=400){a:Nat}(ha:a<=es.length):PM GB prog 155 (gI [none] b) b 126 [.sl (es.map vI), .v (.int .i64 (a:Nat))] (eL (lF es a).1) [.sl (es.map vI), .v (.int .i64 ((lF es a).2:Nat))]:=by
 obtain⟨hm,hn,ha1⟩:=BP ha;obtain⟨hp,hq,hz,ha2⟩:=Rl ha1;refine uz func155 J J ntmps155 J J (fun C b m lo hmb=>?_);refine cm J (fun b=>(Qy hes ha)) J<|cl J (o7 (n:=1) (by decide) (by decide)) J<|cm J (fun b=>(Tb hes ha1)) J<|cl J (P7 (m:=(pF es a).1.1) (n:=(pF es a).1.2) (m':=(vF es (pF es a).2).1.1) (n':=(vF es (pF es a).2).1.2) (k:=1) (by omega) (by omega) (by omega) (by omega) (by decide)) J<|?_;refine cl J (Sz (m:=(pF es a).1.1) (n:=(pF es a).1.2) (m':=(pF es a).1.1+1*(vF es (pF es a).2).1.1) (n':=(pF es a).1.2+1*(vF es (pF es a).2).1.2) (by omega) (by omega) (by omega) (by omega) (by omega)) J<|?_;exact n5 hmb J J J J
def EL{p:Bool}:PF GB prog 161 [.v (.bool p)] (eT (.leaf p)):=by
 refine fn func161 J J ntmps161 J J (fun C=>?_);refine mp 5 J ?_;exact rz J J
abbrev ZP:=Int×Int
def ZP.q(p:ZP):ab:=iP p.1 p.2
def ZP.le(k:Nat)(p:ZP):Prop:=p.1.natAbs<=k/\p.2.natAbs<=k
def QQ(p q:ZP):ZP:=(p.1+1*q.1,p.2+1*q.2)
def NX(u v:ZP):Int:=u.1*v.2-u.2*v.1
theorem aDJ{m n p q:Int}(hm:m.natAbs<=1000)(hn:n.natAbs<=1000)(hp:p.natAbs<=1000)(hq:q.natAbs<=1000)(h: ¬(p=m/\q=n)):LB (iE m n p q)/\(iE m n p q).ok:=by
 have e1:(iO n q).natAbs<=2000:=by unfold iO;omega
 have e2:(jb m p).natAbs<=2000:=by unfold jb;omega
 have e3:=Bl e1 hm;have e4:=Bl e2 hn;have e5:(m8 m n p q).natAbs<=4000000:=by unfold m8;omega
 unfold iE;obtain⟨k1,k2,k3⟩:=FJ (iO n q) (jb m p) (m8 m n p q);have hb:(2:Nat)^96=79228162514264337593543950336:=by decide
 refine⟨⟨⟨?_,?_,?_⟩⟩,Mp ?_⟩
 ·rw[hb];omega
 ·rw[hb];omega
 ·rw[hb];omega
 ·unfold iO jb;omega
def dx(v w:ZP):aO:=⟨iE v.1 v.2 w.1 w.2,⟨fg (iE v.1 v.2 w.1 w.2) v.q,fg (iE v.1 v.2 w.1 w.2) w.q,false,false⟩⟩
def fD(r:List ZP)(i:Nat):ZP:=r.getD ((i+1)%r.length) (0,0)
def ly(r:List ZP):Nat->List aO
 |0=>[]
 |k+1=>ly r k++[dx (r.getD k (0,0)) (fD r k)]
def iI(r:List ZP):List aO:=ly r r.length
structure gi (r:List ZP):Prop where
 n3:3<=r.length
 n6:r.length<=6
 le: ∀p∈r,ZP.le 100 p
 ne: ∀i<r.length,r.getD i (0,0)≠fD r i
def AM{r:List ZP}{i:Nat}(h:i<r.length):r.getD i (0,0)∈r:=by
 rw[aK,aX h];exact cY h
def CL{r:List ZP}{i:Nat}(h:i<r.length):fD r i∈r:=AM (dX _ (by omega))
theorem BQ.int1200{m:Int}(h:m.natAbs<=1000):BQ (m:Rat) 1200:=by
 haveI:BI m 11:=nq h (by decide);exact BQ.mono (inferInstance:BQ (m:Rat) 12) (by decide)
theorem NR{l:aa}(hl:LB l)(ho:l.ok){m n:Int}(hm:m.natAbs<=1000)(hn:n.natAbs<=1000):BQ (fg l (iP m n)) 1200:=by
 haveI:=nq (k:=11) hm (by decide);haveI:=nq (k:=11) hn (by decide);have hd:=xy ho.ne;have hA:BI (l.a*l.a+l.b*l.b) _:=inferInstance;have hB:BI (m*l.b-n*l.a) _:=inferInstance;have hA':=Dq (j:=1200) hA (by decide);have hB':=Dq (j:=1200) hB (by decide);have e1:l.dir.dot l.dir=((l.a*l.a+l.b*l.b:Int):Rat):=by
  rw[oN,cS,cS];simp only[aa.dir,ab.dot];grind
 have e2:(iP m n).dot l.dir=((m*l.b-n*l.a:Int):Rat):=by
  rw[mU,cS,cS];simp only[aa.dir,ab.dot,iP];grind
 have hd':((0:Int):Rat)<((l.a*l.a+l.b*l.b:Int):Rat):=by rw[<-e1];exact hd
 unfold fg;rw[e2,e1];clear hA hB e1 e2;generalize l.a*l.a+l.b*l.b=D at*;generalize m*l.b-n*l.a=M at*;have hD:0<D:=Rat.intCast_lt_intCast.1 hd';refine BQ.of_fracI (n:=M) (D:=D) (by omega) ?_ hB' hA';have h0:(D:Rat)≠0:=fun e=>by rw[e] at hd';exact absurd hd' (by decide)
 have:((D.natAbs:Nat):Rat)=(D:Rat):=by
  have h1:((D.natAbs:Nat):Int)=D:=by omega
  rw[<-h1];rfl
 rw[this];grind
def MK{v w:ZP}(hv:ZP.le 100 v)(hw:ZP.le 100 w)(h:v≠w):ph (dx v w):=by
 obtain⟨h1,h2⟩:=aDJ (m:=v.1) (n:=v.2) (p:=w.1) (q:=w.2) (by have:=hv.1;omega) (by have:=hv.2;omega) (by have:=hw.1;omega) (by have:=hw.2;omega) (fun e=>h (Prod.ext e.1.symm e.2.symm));exact⟨h1,h2,⟨fun e=>(by cases e),fun e=>(by cases e)⟩,NR h1 h2 (by have:=hv.1;omega) (by have:=hv.2;omega),NR h1 h2 (by have:=hw.1;omega) (by have:=hw.2;omega)⟩
def Md{r:List ZP}(h:gi r): ∀{k:Nat},k<=r.length->(ly r k).length=k/\ ∀f∈ly r k,ph f
 |0,_=>⟨J,fun f hf=>by cases hf⟩
 |k+1,hk=>by
  obtain⟨h1,h2⟩:=Md h (k:=k) (by omega);rw[ly];refine⟨by simp[h1],fun f hf=>?_⟩;rcases bV.1 hf with hf|hf
  ·exact h2 f hf
  ·rw[aW] at hf;subst hf
   exact MK (h.le _ (AM (by omega))) (h.le _ (CL (by omega))) (h.ne k (by omega))
def wi{r:List ZP}(h:gi r):(iI r).length=r.length/\ ∀f∈iI r,ph f:=Md h (aN _)
def c6(rs:List (List ZP)):List aO:=rs.flatMap iI
def sB: ∀{rs:List (List ZP)},(∀r∈rs,gi r)->(c6 rs).length<=6*rs.length/\ ∀f∈c6 rs,ph f
 |[],_=>⟨aN _,fun f hf=>by cases hf⟩
 |r::rs,h=>by
  obtain⟨h1,h2⟩:=sB (rs:=rs) fun q hq=>h q (aZ _ hq);obtain⟨k1,k2⟩:=wi (h r aQ);have:=(h r aQ).n6;unfold c6 at*;rw[nM];refine⟨by rw[aS,k1,bW];omega,fun f hf=>?_⟩;rcases bV.1 hf with hf|hf
  ·exact k2 f hf
  ·exact h2 f hf
def tq(a b c:ab):Int:=(ab.cross (ce b a (-1)) (ce c a (-1))).num.sign
def FR(v w p:ab):Int:=
 (if cg v.y p.y<=0/\ ¬cg w.y p.y<=0/\0<tq v w p then 1 else 0)-(if¬cg v.y p.y<=0/\cg w.y p.y<=0/\tq v w p<0 then 1 else 0)
def zb(r:List ZP)(p:ab):Nat->Int
 |0=>0
 |k+1=>zb r p k+FR (r.getD k (0,0)).q (fD r k).q p
def pg(r:List ZP)(p:ab):Int:=zb r p r.length
def vy(fill n:Int):Bool:=(decide (fill=1)&&decide (n.tmod 2≠0))||(decide (fill=2)&&decide (n≠0))
def kB(rs:List (List ZP))(fill:Int)(p:ab):Bool:=vy fill (rs.foldl (fun n r=>n+pg r p) 0)
def pA(rs:List (List ZP))(fill:Int):Tr:=kj (kB rs fill) (c6 rs).length (c6 rs) []
def lf(rs:List (List ZP))(fill:Int):Tr:=(pA rs fill).restrict []
structure n4 (k:Nat) (t:Tr):Prop where
 gd:t.gd
 dp:t.depth<=k
 am: ∃K:List aa,K.length<=k/\(∀l∈K,l.ok)/\od K t
def Zb{acc:ab->Bool}{n:Nat}{l:List aO}(h: ∀f∈l,ph f)(hn:l.length=n):n4 n (kj acc n l []):=
 ⟨⟨rP fun f hf=>(h f hf).lb,rP fun f hf=>(h f hf).ok⟩,C8,l.map (·.l),by rw[aJ,hn];exact aN _,fun m hm=>by
  obtain⟨f,hf,rfl⟩:=bJ.1 hm;exact(h f hf).ok,rP fun f hf=>⟨f.l,iN hf, .inl rfl⟩⟩
def n4.restrict{k:Nat}{t:Tr}(h:n4 k t)(c:aC):n4 k (t.restrict c):=by
 obtain⟨K,h1,h2,h3⟩:=h.am;exact⟨TB h.gd c,cM (t.restrict_depth c) h.dp,K,h1,h2,h3.restrict c⟩
def n4.mono{j k:Nat}{t:Tr}(h:n4 j t)(hk:j<=k):n4 k t:=by
 obtain⟨K,h1,h2,h3⟩:=h.am;exact⟨h.gd,cM h.dp hk,K,by omega,h2,h3⟩
def axD{rs:List (List ZP)}{fill:Int}(h: ∀r∈rs,gi r)(hn:rs.length<=3):n4 18 (lf rs fill):=by
 obtain⟨h1,h2⟩:=sB h;exact((Zb (acc:=kB rs fill) h2 J).restrict []).mono (by omega)
def No(p q:ZP):Int:=if p.1<q.1 then-1 else if q.1<p.1 then 1 else if p.2<q.2 then-1 else if q.2<p.2 then 1 else 0
def MI(x:ZP):List ZP->List ZP
 |[]=>[x]
 |u::t=>if No u x<0 then u::MI x t else if No u x=0 then u::t else x::u::t
def aGb(l:List ZP):List ZP:=l.foldl (fun out x=>MI x out) []
def Ja(a b c d:Int):List ZP:=[(a,b),(c,b),(c,d),(a,d)]
def Ra{r:List ZP}{i:Nat}(h:i+1<r.length):fD r i=r.getD (i+1) (0,0):=by unfold fD;rw[fW h]
def I'{r:List ZP}{i:Nat}(h:i+1=r.length):fD r i=r.getD 0 (0,0):=by unfold fD;rw[h,Nat.mod_self]
def Lk(p u v:ZP):List ZP:=[p,QQ p u,QQ p v]
def A1(es:List Int):Nat->Nat->List ZP->List ZP×Nat
 |0,a,out=>(out,a)
 |n+1,a,out=>A1 es n (pF es a).2 (if out.getLast? =some (pF es a).1 then out else out++[(pF es a).1])
structure Adj (r:List ZP):Prop where
 ne: ∀i,i+1<r.length->r.getD i (0,0)≠r.getD (i+1) (0,0)
 le: ∀p∈r,ZP.le 100 p
def Ft:Nat->List ZP->List ZP
 |0,l=>l
 |n+1,l=>if 1<l.length/\l.getD 0 (0,0)=l.getD (l.length-1) (0,0) then Ft n l.dropLast else l
def WZ:List ZP:=[(0,0),(2,0),(0,2)]
def KM(es:List Int)(a:Nat):List ZP×Nat:=
 ((if(aGb (Ft 6 (A1 es (3+(bg es 4 a).1) (bg es 4 a).2 []).1)).length<3 then WZ else Ft 6 (A1 es (3+(bg es 4 a).1) (bg es 4 a).2 []).1),(A1 es (3+(bg es 4 a).1) (bg es 4 a).2 []).2)
def Q4(es:List Int)(n m k:Int)(a:Nat):List ZP×Nat:=
 let x:=bg es n a
 let y:=bg es n x.2
 let z:=bg es m y.2
 let w:=bg es m z.2
 (Ja ((x.1:Int)-k) ((y.1:Int)-k) ((x.1:Int)-k+1+z.1) ((y.1:Int)-k+1+w.1),w.2)
def AR(es:List Int)(a:Nat):List ZP×Nat:=
 let k:=bg es 4 a
 if(k.1:Int)=0 then Q4 es 5 4 4 k.2
 else if(k.1:Int)=1 then
  let p:=pF es k.2
  let u:=vF es p.2
  let v:=vF es u.2
  if NX u.1 v.1≠0 then(Lk p.1 u.1 v.1,v.2) else KM es v.2
 else KM es k.2
def X':List ZP:=[(0,0),(1,0),(0,1)]
def J7(es:List Int)(a:Nat):List ZP×Nat:=
 let k:=bg es 2 a
 if(k.1:Int)=0 then Q4 es 3 2 1 k.2
 else
  let x:=bg es 3 k.2
  let y:=bg es 3 x.2
  let u1:=bg es 2 y.2
  let u2:=bg es 3 u1.2
  let v1:=bg es 3 u2.2
  let v2:=bg es 2 v1.2
  (if 0<NX (1+(u1.1:Int),(u2.1:Int)-1) ((v1.1:Int)-1,1+(v2.1:Int)) then Lk ((x.1:Int)-1,(y.1:Int)-1) (1+(u1.1:Int),(u2.1:Int)-1) ((v1.1:Int)-1,1+(v2.1:Int)) else X',v2.2)
def tM(es:List Int)(a:Nat):Tr×Nat:=
 let r:=AR es a
 let k:=bg es 3 r.2
 if(k.1:Int)=0 then
  let s:=AR es k.2
  let f:=bg es 2 s.2
  (lf [r.1,s.1] (1+(f.1:Int)),f.2)
 else
  let f:=bg es 2 k.2
  (lf [r.1] (1+(f.1:Int)),f.2)
def Fe(l:aa):Tr:=(Tr.node l (.leaf true) (.leaf false)).restrict []
def r7(es:List Int):Nat->Nat->Tr×Nat
 |0,a=>
  let k:=bg es 6 a
  if(k.1:Int)=1 then(Fe (lF es k.2).1,(lF es k.2).2)
  else if(k.1:Int)=2 then((mj es 3 k.2).1.restrict [],(mj es 3 k.2).2)
  else if(k.1:Int)=3 then((tM es k.2).1.compl,(tM es k.2).2)
  else tM es k.2
 |d+1,a=>
  let k:=bg es 6 a
  if(k.1:Int)=0 then
   let x:=r7 es d k.2
   let o:=bg es 4 x.2
   let y:=r7 es d o.2
   (x.1.mergeQ (1+(o.1:Int)) y.1 [],y.2)
  else if(k.1:Int)=1 then(Fe (lF es k.2).1,(lF es k.2).2)
  else if(k.1:Int)=2 then((mj es 3 k.2).1.restrict [],(mj es 3 k.2).2)
  else if(k.1:Int)=3 then((tM es k.2).1.compl,(tM es k.2).2)
  else tM es k.2
def aKU(es:List Int)(a:Nat):Tr×Nat:=
 let k:=bg es 4 a
 if(k.1:Int)=0 then(Fe (lF es k.2).1,(lF es k.2).2)
 else if(k.1:Int)=1 then((mj es 2 k.2).1.restrict [],(mj es 2 k.2).2)
 else(lf [(J7 es k.2).1] 2,(J7 es k.2).2)
def c9(a b p:ab):Rat:=(b.x-a.x)*(p.y-a.y)-(b.y-a.y)*(p.x-a.x)
def oP(v w p:ab):Int:=(if v.y<=p.y/\ ¬w.y<=p.y/\0<c9 v w p then 1 else 0)-(if¬v.y<=p.y/\w.y<=p.y/\c9 v w p<0 then 1 else 0)
def uT(v w q p:ab):Prop:= ∀s t:Rat,0<=s->s<=1->0<=t->t<=1->bt v w s≠bt q p t
def xS{a b:Rat}(h0:0<=a)(h1:a<=b)(hb:0<b):0<=a/b/\a/b<=1/\a/b*b=a:=by
 have e:a/b*b=a:=by grind
 generalize a/b=q at*;refine⟨?_,?_,e⟩
 ·exact(jB hb).1 (by rw[e];exact h0)
 ·have:=(jB (s:=1-q) hb).1 (by grind)
  grind
def TJ{q p x:ab}(hy:q.y<p.y)(h:c9 q p x=0)(h1:q.y<=x.y)(h2:x.y<=p.y): ∃t,0<=t/\t<=1/\x=bt q p t:=by
 obtain⟨a1,a2,a3⟩:=xS (a:=x.y-q.y) (b:=p.y-q.y) (by grind) (by grind) (by grind);refine⟨_,a1,a2,?_⟩;generalize (x.y-q.y)/(p.y-q.y)=t at*;obtain⟨X,Y⟩:=x;unfold c9 at h;unfold bt;simp only at*;have e:X=q.x+t*(p.x-q.x):=by
  have h3:(p.y-q.y)*(X-q.x)=(p.y-q.y)*(t*(p.x-q.x)):=by grind
  have h4:p.y-q.y≠0:=by grind
  have:=qN.1 (show(p.y-q.y)*(X-q.x-t*(p.x-q.x))=0 by grind);rcases this with h5|h5
  ·exact absurd h5 h4
  ·grind
 rw[e];congr 1;grind
def Tj(q p v w:ab)(e:Rat):c9 q p (bt v w e)=c9 q p v+e*(c9 q p w-c9 q p v):=by
 unfold c9 bt;grind
def Lj(v w:ab)(a b e:Rat):bt (bt v w a) (bt v w b) e=bt v w (a+e*(b-a)):=by
 unfold bt;simp only[ab.mk.injEq];constructor<;>grind
def BA(v w:ab)(e:Rat):(bt v w e).y=v.y+e*(w.y-v.y):=rfl
def EU{a b e lo hi:Rat}(h0:0<=e)(h1:e<=1)(ha:lo<=a)(hb:lo<=b)(ha2:a<=hi)(hb2:b<=hi):lo<=a+e*(b-a)/\a+e*(b-a)<=hi:=by
 have k1:=eO h0 (show 0<=b-lo by grind);have k2:=eO (show 0<=1-e by grind) (show 0<=a-lo by grind);have k3:=eO h0 (show 0<=hi-b by grind);have k4:=eO (show 0<=1-e by grind) (show 0<=hi-a by grind);constructor<;>grind
def au3{v w q p:ab}(hn:uT v w q p)(hy:q.y<p.y){a b:Rat}(a0:0<=a)(a1:a<=1)(b0:0<=b)(b1:b<=1)(ha:q.y<=(bt v w a).y/\(bt v w a).y<=p.y)(hb:q.y<=(bt v w b).y/\(bt v w b).y<=p.y)(h:c9 q p (bt v w a)<0):c9 q p (bt v w b)<0:=by
 by_cases k:c9 q p (bt v w b)<0
 ·exact k
 ·exfalso
  obtain⟨e0,e1,e2⟩:=xS (a:= -(c9 q p (bt v w a))) (b:=c9 q p (bt v w b)-c9 q p (bt v w a)) (by grind) (by grind) (by grind);generalize-(c9 q p (bt v w a))/(c9 q p (bt v w b)-c9 q p (bt v w a))=e at*;have hz:c9 q p (bt v w (a+e*(b-a)))=0:=by rw[<-Lj,Tj];grind
  have hh:=EU e0 e1 ha.1 hb.1 ha.2 hb.2;rw[<-BA,Lj] at hh;obtain⟨t,t0,t1,ht⟩:=TJ hy hz hh.1 hh.2;have h01:=EU e0 e1 a0 b0 a1 b1;exact hn _ t h01.1 h01.2 t0 t1 ht
def VE{v w q p:ab}(hn:uT v w q p)(hy:q.y<p.y): ∃r:Bool,∀s,0<=s->s<=1->q.y<=(bt v w s).y->(bt v w s).y<=p.y->(c9 q p (bt v w s)<0↔r=true):=by
 by_cases h: ∃s,0<=s/\s<=1/\(q.y<=(bt v w s).y/\(bt v w s).y<=p.y)/\c9 q p (bt v w s)<0
 ·obtain⟨s,s0,s1,s2,s3⟩:=h
  exact⟨true,fun t t0 t1 h1 h2=>⟨fun _=>J,fun _=>au3 hn hy s0 s1 t0 t1 s2 ⟨h1,h2⟩ s3⟩⟩
 ·exact⟨false,fun t t0 t1 h1 h2=>⟨fun k=>absurd ⟨t,t0,t1,⟨h1,h2⟩,k⟩ h,fun k=>by cases k⟩⟩
def RA(v w:ab):bt v w 0=v:=by unfold bt;cases v;simp only[ab.mk.injEq];constructor<;>grind
def QH(v w:ab):bt v w 1=w:=by unfold bt;cases w;simp only[ab.mk.injEq];constructor<;>grind
def IZ{v w:ab}{y:Rat}(h:(v.y<=y/\ ¬w.y<=y)\/(¬v.y<=y/\w.y<=y)): ∃s,0<=s/\s<=1/\(bt v w s).y=y:=by
 rcases h with⟨h1,h2⟩|⟨h1,h2⟩
 ·obtain⟨a1,a2,a3⟩:=xS (a:=y-v.y) (b:=w.y-v.y) (by grind) (by grind) (by grind)
  refine⟨_,a1,a2,?_⟩;rw[BA];grind
 ·obtain⟨a1,a2,a3⟩:=xS (a:=v.y-y) (b:=v.y-w.y) (by grind) (by grind) (by grind)
  refine⟨_,a1,a2,?_⟩;rw[BA];grind
def Nw{v w p:ab}{s:Rat}(h:(bt v w s).y=p.y):c9 v w p=(w.y-v.y)*((bt v w s).x-p.x):=by
 unfold c9;unfold bt at*;simp only at*;rw[<-h];grind
def yw{a b:Rat}(ha:0<a):0<a*b↔0<b:=by rw[Rat.mul_comm];exact il ha
def FN{a b:Rat}(ha:a<0):a*b<0↔0<b:=by
 have:=yw (a:= -a) (b:=b) (by grind);constructor
 ·intro h;exact this.1 (by grind)
 ·intro h;have:=this.2 h;grind
def bI(b:Prop)[Decidable b]:Int:=if b then 1 else 0
def CB{v w p:ab}{r:Prop}[Decidable r](h: ∀s,0<=s->s<=1->(bt v w s).y=p.y->(p.x<(bt v w s).x↔r)):oP v w p=if r then bI (v.y<=p.y)-bI (w.y<=p.y) else 0:=by
 unfold oP bI;by_cases h1:v.y<=p.y<;>by_cases h2:w.y<=p.y
 ·simp[h1,h2]
 ·obtain⟨s,s0,s1,s2⟩:=IZ (.inl ⟨h1,h2⟩)
  have e:=Nw s2;have k:=h s s0 s1 s2;have m:=yw (a:=w.y-v.y) (b:=(bt v w s).x-p.x) (by grind);rw[<-e] at m;have m2:0<c9 v w p↔r:=by rw[m,<-k];grind
  simp only[h1,h2,m2];by_cases q:r<;>simp[q]
 ·obtain⟨s,s0,s1,s2⟩:=IZ (.inr ⟨h1,h2⟩)
  have e:=Nw s2;have k:=h s s0 s1 s2;have m:=FN (a:=w.y-v.y) (b:=(bt v w s).x-p.x) (by grind);rw[<-e] at m;have m2:c9 v w p<0↔r:=by rw[m,<-k];grind
  simp only[h1,h2,m2];by_cases q:r<;>simp[q]
 ·simp[h1,h2]
def t6(q p u:ab):Int:=if q.y<u.y/\u.y<=p.y/\c9 q p u<0 then 1 else 0
def PU{v w q p:ab}(hn:uT v w q p)(hy:q.y<p.y):oP v w p-oP v w q=t6 q p v-t6 q p w:=by
 obtain⟨r,hr⟩:=VE hn hy;have ep:=CB (v:=v) (w:=w) (p:=p) (r:=r=true) fun s s0 s1 s2=>by
  rw[<-hr s s0 s1 (by grind) (by grind)];have m:=yw (a:=p.y-q.y) (b:=(bt v w s).x-p.x) (by grind);have:c9 q p (bt v w s)= -((p.y-q.y)*((bt v w s).x-p.x)):=by unfold c9;rw[s2];grind
  rw[this];generalize (p.y-q.y)*((bt v w s).x-p.x)=z at*;constructor
  ·intro k;have:=m.2 (by grind);grind
  ·intro k;have:=m.1 (by grind);grind
 have eq:=CB (v:=v) (w:=w) (p:=q) (r:=r=true) fun s s0 s1 s2=>by
  rw[<-hr s s0 s1 (by grind) (by grind)];have m:=yw (a:=p.y-q.y) (b:=(bt v w s).x-q.x) (by grind);have:c9 q p (bt v w s)= -((p.y-q.y)*((bt v w s).x-q.x)):=by unfold c9;rw[s2];grind
  rw[this];generalize (p.y-q.y)*((bt v w s).x-q.x)=z at*;constructor
  ·intro k;have:=m.2 (by grind);grind
  ·intro k;have:=m.1 (by grind);grind
 have fv:t6 q p v=if r=true then bI (v.y<=p.y)-bI (v.y<=q.y) else 0:=by
  have h:=hr 0 (by decide) (by decide);rw[RA] at h;unfold t6 bI;by_cases h1:v.y<=p.y<;>by_cases h2:v.y<=q.y
  ·have: ¬q.y<v.y:=by grind
   simp[h1,h2,this]
  ·have h3:q.y<v.y:=by grind
   have:=h (by grind) h1;simp only[h1,h2,h3,this];by_cases q:r=true<;>simp[q]
  ·exfalso;grind
  ·simp[h1,h2]
 have fw:t6 q p w=if r=true then bI (w.y<=p.y)-bI (w.y<=q.y) else 0:=by
  have h:=hr 1 (by decide) (by decide);rw[QH] at h;unfold t6 bI;by_cases h1:w.y<=p.y<;>by_cases h2:w.y<=q.y
  ·have: ¬q.y<w.y:=by grind
   simp[h1,h2,this]
  ·have h3:q.y<w.y:=by grind
   have:=h (by grind) h1;simp only[h1,h2,h3,this];by_cases q:r=true<;>simp[q]
  ·exfalso;grind
  ·simp[h1,h2]
 rw[ep,eq,fv,fw];by_cases q:r=true
 ·simp only[if_pos q];omega
 ·simp only[if_neg q]
def art{v w q p:ab}(hn:uT v w q p)(hy:q.y=p.y):oP v w p=oP v w q:=by
 have key: ∀s,0<=s->s<=1->(bt v w s).y=p.y->(p.x<(bt v w s).x↔q.x<(bt v w s).x):=fun s s0 s1 s2=>by
  have no: ∀a b:Rat,a<=(bt v w s).x->(bt v w s).x<b->((a=q.x/\b=p.x)\/(a=p.x/\b=q.x))->False:=fun a b h1 h2 h3=>by
   obtain⟨a1,a2,a3⟩:=xS (a:=(bt v w s).x-a) (b:=b-a) (by grind) (by grind) (by grind);generalize ((bt v w s).x-a)/(b-a)=t at*;rcases h3 with⟨e1,e2⟩|⟨e1,e2⟩
   ·refine hn s t s0 s1 a1 a2 ?_
    generalize hx:bt v w s=x at*;obtain⟨X,Y⟩:=x;unfold bt;simp only[ab.mk.injEq] at*;subst e1 e2;constructor<;>grind
   ·refine hn s (1-t) s0 s1 (by grind) (by grind) ?_
    generalize hx:bt v w s=x at*;obtain⟨X,Y⟩:=x;unfold bt;simp only[ab.mk.injEq] at*;subst e1 e2;constructor<;>grind
  constructor
  ·intro h
   by_cases k:q.x<(bt v w s).x
   ·exact k
   ·by_cases k2:(bt v w s).x=q.x
    ·exfalso
     refine hn s 0 s0 s1 (by decide) (by decide) ?_;rw[RA];generalize bt v w s=x at*;obtain⟨X,Y⟩:=x;obtain⟨A,B⟩:=q;simp only[ab.mk.injEq] at*;exact⟨k2,by grind⟩
    ·exact(no p.x q.x (by grind) (by grind) (.inr ⟨J,J⟩)).elim
  ·intro h
   by_cases k:p.x<(bt v w s).x
   ·exact k
   ·by_cases k2:(bt v w s).x=p.x
    ·exfalso
     refine hn s 1 s0 s1 (by decide) (by decide) ?_;rw[QH];generalize bt v w s=x at*;obtain⟨X,Y⟩:=x;obtain⟨A,B⟩:=p;simp only[ab.mk.injEq] at*;exact⟨k2,s2⟩
    ·exact(no q.x p.x (by grind) (by grind) (.inl ⟨J,J⟩)).elim
 by_cases hc:(v.y<=p.y/\ ¬w.y<=p.y)\/(¬v.y<=p.y/\w.y<=p.y)
 ·obtain⟨s,s0,s1,s2⟩:=IZ hc
  have uq: ∀t,(bt v w t).y=p.y->t=s:=fun t ht=>by
   rw[BA] at ht s2;have h4:w.y-v.y≠0:=by grind
   have:=qN.1 (show(w.y-v.y)*(t-s)=0 by grind);rcases this with h5|h5
   ·exact absurd h5 h4
   ·grind
  rw[CB (p:=p) (r:=p.x<(bt v w s).x) fun t _ _ ht=>by rw[uq t ht],CB (p:=q) (r:=p.x<(bt v w s).x) fun t _ _ ht=>by rw[uq t (by rw[ht,hy])];exact(key s s0 s1 s2).symm,hy]
 ·unfold oP
  rw[hy];by_cases h1:v.y<=p.y<;>by_cases h2:w.y<=p.y<;>simp[h1,h2] at hc⊢
def V5(q p:ab)(t:Rat):bt p q t=bt q p (1-t):=by unfold bt;simp only[ab.mk.injEq];constructor<;>grind
def uT.symm{v w q p:ab}(h:uT v w q p):uT v w p q:=fun s t s0 s1 t0 t1 e=>h s (1-t) s0 s1 (by grind) (by grind) (by rw[e,V5])
def jA(r:List ZP)(p:ab):Nat->Int
 |0=>0
 |k+1=>jA r p k+oP (r.getD k (0,0)).q (fD r k).q p
def wG(r:List ZP)(q p:ab):Prop:= ∀k,k<r.length->uT (r.getD k (0,0)).q (fD r k).q q p
def KQ{r:List ZP}{q p:ab}(h:wG r q p)(hy:q.y<p.y): ∀k,k<r.length->jA r p k-jA r q k=t6 q p (r.getD 0 (0,0)).q-t6 q p (r.getD k (0,0)).q
 |0,_=>by simp[jA]
 |k+1,hk=>by
  have ih:=KQ h hy k (by omega);have e:=PU (h k (by omega)) hy;rw[Ra (by omega)] at e;rw[jA,jA,Ra (by omega)];omega
def Oa{r:List ZP}{q p:ab}(h:wG r q p)(hy:q.y<p.y):jA r p r.length=jA r q r.length:=by
 cases hr:r.length with
 |zero=>rfl
 |succ n=>
  have ih:=KQ h hy n (by omega);have e:=PU (h n (by omega)) hy;rw[I' (by omega)] at e;rw[jA,jA,I' (by omega)];omega
def Lv{r:List ZP}{q p:ab}(h:wG r q p)(hy:q.y=p.y): ∀k,k<=r.length->jA r p k=jA r q k
 |0,_=>rfl
 |k+1,hk=>by rw[jA,jA,Lv h hy k (by omega),art (h k (by omega)) hy]
def axp{r:List ZP}{q p:ab}(h:wG r q p):jA r p r.length=jA r q r.length:=by
 by_cases h1:q.y<p.y
 ·exact Oa h h1
 ·by_cases h2:p.y<q.y
  ·exact(Oa (fun k hk=>(h k hk).symm) h2).symm
  ·exact Lv h (by grind) _ (aN _)
def Uw(a b c:ab):tq a b c=(c9 a b c).num.sign:=by
 unfold tq c9 ab.cross ce;congr 2;grind
def Of(a b:Rat):cg a b<=0↔a<=b:=by
 have:=CM a b;constructor
 ·intro h
  by_cases q:b<a
  ·have:=this.2 q;omega
  ·grind
 ·intro h
  by_cases q:0<cg a b
  ·have:=this.1 q;grind
  ·omega
def aEM(v w p:ab):FR v w p=oP v w p:=by
 unfold FR oP;simp only[Uw,mr,ld,Of]
def zN(r:List ZP)(p:ab): ∀k,zb r p k=jA r p k
 |0=>rfl
 |k+1=>by rw[zb,jA,zN r p k,aEM]
def Vw{r:List ZP}{q p:ab}(h:wG r q p):pg r p=pg r q:=by
 unfold pg;rw[zN,zN,axp h]
def UH(R:Rat)(p:ab):Prop:=p.x< -R\/R<p.x\/p.y< -R\/R<p.y
def Gr(op:Int)(a b:Tr):Bool:=decide ((a.mergeQ op b []).isLeaf=true/\(a.mergeQ op b []).code=false)
def aFL(a b:Tr):Int:=if Gr 4 a b then 0 else if Gr 3 a b then-1 else if Gr 3 b a then 1 else 2
def tU:Tr->ab->Bool
 | .leaf b,_=>b
 | .node l x y,p=>if(l.value p).num.sign=1 then tU x p else if(l.value p).num.sign= -1 then tU y p else false
def Gu{L:List aa}{p q:ab}(h: ∀l∈L,0<l.value q↔0<l.value p): ∀{t:Tr},(∀l∈t.lns,l∈L)->t.val q=t.val p
 | .leaf _,_=>rfl
 | .node l x y,hl=>by
  have hx:=Gu h (t:=x) fun m hm=>hl m (aZ _ (bK _ hm));have hy:=Gu h (t:=y) fun m hm=>hl m (aZ _ (bM _ hm));rw[Tr.val,Tr.val,hx,hy];by_cases h1:0<l.value q
  ·rw[if_pos h1,if_pos ((h l (hl l aQ)).1 h1)]
  ·rw[if_neg h1,if_neg (fun e=>h1 ((h l (hl l aQ)).2 e))]
def F8(t:Tr):List aC:=((t.parts []).filter (·.1)).map (·.2)
def jg(l:aa)(p:ab):aC->Rat->Rat
 |[],f=>f
 |s::c,f=>jg l p c (if Int.sign (s.l.nor.dot l.nor).num<0 then(if-(s.l.value p/s.l.nor.dot l.nor)<f then-(s.l.value p/s.l.nor.dot l.nor) else f) else f)
def pE:aC->ab
 |[]=>⟨0,0⟩
 |s::c=>ce (s.l.at s.v.sample) s.l.nor (jg s.l (s.l.at s.v.sample) c 1*mkRat 1 2)
def D5{v k:Rat}(hk:k<0)(hv:0<v):0< -(v/k):=by
 have e: -(v/k)* -k=v:=by grind
 exact(il (k:= -k) (by grind)).1 (by rw[e];exact hv)
def IB{l:aa}{p:ab}: ∀{c:aC} {f:Rat},0<f->(∀s∈c,s.l.nor.dot l.nor<0->0<s.l.value p)->0<jg l p c f/\jg l p c f<=f/\ ∀s∈c,s.l.nor.dot l.nor<0->jg l p c f<= -(s.l.value p/s.l.nor.dot l.nor)
 |[],f,hf,_=>⟨hf,gT,fun s hs=>by cases hs⟩
 |s::c,f,hf,h=>by
  have h0:=h s aQ;have h1:=fun u hu=>h u (aZ _ hu);rw[jg];by_cases hk:s.l.nor.dot l.nor<0
  ·have hp:=D5 hk (h0 hk)
   rw[if_pos ((ld _).2 hk)];obtain⟨k1,k2,k3⟩:=IB (c:=c) (f:=if-(s.l.value p/s.l.nor.dot l.nor)<f then-(s.l.value p/s.l.nor.dot l.nor) else f) (by split<;>assumption) h1;refine⟨k1,?_,fun u hu=>?_⟩
   ·split at k2<;>grind
   ·rcases aY.1 hu with rfl|hu
    ·intro _;split at k2<;>grind
    ·exact k3 u hu
  ·rw[if_neg (fun e=>hk ((ld _).1 e))]
   obtain⟨k1,k2,k3⟩:=IB (c:=c) hf h1;refine⟨k1,k2,fun u hu=>?_⟩;rcases aY.1 hu with rfl|hu
   ·intro e;exact absurd e hk
   ·exact k3 u hu
def av6: ∀{c:aC},cI c->bw c (pE c)
 |[],_=>Yg _
 |s::c,hc=>by
  have hs:s∈s::c:=aQ;obtain⟨p1,p2⟩:=hc.edge s hs;have hin:=(p2 s.v.sample).1 (p6 p1).has;have hne:=(hc.ok s hs).ne;have hself:=nH hne s.v.sample;have hpos: ∀g∈c,g.l≠s.l->0<g.l.value (s.l.at s.v.sample):=fun g hg hn=>by
   have h1:=hin g (aZ _ hg);have h2:g.l.value (s.l.at s.v.sample)≠0:=fun e=>hn (Ek hc hs (hc.ok g (aZ _ hg)) (fun p hp=>hp g (aZ _ hg)) e);grind
  have hnn:=po hne;have hk: ∀g∈c,g.l.nor.dot s.l.nor<0->0<g.l.value (s.l.at s.v.sample):=fun g hg hk=>hpos g hg (fun e=>by rw[e] at hk;grind);obtain⟨f1,f2,f3⟩:=IB (l:=s.l) (p:=s.l.at s.v.sample) (c:=c) (f:=1) (by decide) hk;show bw (s::c) (ce (s.l.at s.v.sample) s.l.nor (jg s.l (s.l.at s.v.sample) c 1*mkRat 1 2));rw[Np];generalize jg s.l (s.l.at s.v.sample) c 1=F at f1 f2 f3⊢;intro g hg;rw[iw];have hhalf:0<F*(1/2):=by grind
  rcases aY.1 hg with e|hg
  ·rw[e,hself,Rat.zero_add]
   exact b8 hhalf hnn
  ·by_cases he:g.l=s.l
   ·rw[he,hself]
    have:=b8 (a:=F*(1/2)) (b:=s.l.nor.dot s.l.nor) (by grind) hnn;grind
   ·have hv:=hpos g hg he
    by_cases hk2:g.l.nor.dot s.l.nor<0
    ·have hf:=f3 g hg hk2
     generalize g.l.nor.dot s.l.nor=k at hk2 hf⊢;generalize g.l.value (s.l.at s.v.sample)=v at hf hv⊢;have e1: -(v/k)* -k=v:=by grind
     generalize-(v/k)=w at e1 hf;have:=eO (a:=w-F) (b:= -k) (by grind) (by grind);clear hin hpos hk f3 hc p2;grind
    ·have h9:=eO (a:=F*(1/2)) (b:=g.l.nor.dot s.l.nor) (dS hhalf) (by grind)
     generalize F*(1/2)*g.l.nor.dot s.l.nor=z at h9⊢;clear hin hpos hk f3 hc p2;grind
def fe:Tr->ab->ab->Bool×Bool
 | .leaf b,_,_=>(b,true)
 | .node l x y,p,v=>match (if(l.value p).num.sign=0 then(l.dir.cross v).num.sign else(l.value p).num.sign) with
  |1=>fe x p v
  | -1=>fe y p v
  |_=>(false,false)
def vL(l:aa)(v:ab):l.dir.cross v=l.nor.dot v:=by
 unfold aa.dir aa.nor ab.cross ab.dot;grind
def Gn(L:List aa)(p v:ab):Prop:= ∀l∈L,l.value p=0->l.nor.dot v≠0
def aDR{l:aa}{p v:ab}(h:l.value p=0->l.nor.dot v≠0): ∃e:Rat,0<e/\ ∀d,0<d->d<=e->(0<l.value (ce p v d)↔0<l.value p\/(l.value p=0/\0<l.nor.dot v))/\(l.value (ce p v d)<0↔l.value p<0\/(l.value p=0/\l.nor.dot v<0)):=by
 generalize hk:l.nor.dot v=k at*;by_cases h0:l.value p=0
 ·have hk0:=h h0
  refine⟨1,by decide,fun d h1 _=>?_⟩;rw[iw,hk,h0];rcases fE k with e|e|e
  ·exact absurd e hk0
  ·have:=b8 h1 e;grind
  ·have:=b8 (a:=d) (b:= -k) h1 (by grind);grind
 ·have key: ∀w:Rat,0<w-> ∃e:Rat,0<e/\ ∀d,0<d->d<=e-> ∀j:Rat,(j=k\/j= -k)->0<w+d*j:=fun w hw=>by
   have hA: ∃A:Rat,0<A/\k<=A/\ -k<=A:=by
    rcases fE k with e|e|e
    ·exact⟨1,by decide,by grind,by grind⟩
    ·exact⟨k,e,by grind,by grind⟩
    ·exact⟨-k,by grind,by grind,by grind⟩
   obtain⟨A,a1,a2,a3⟩:=hA;refine⟨w/(2*A),?_,fun d d1 d2 j hj=>?_⟩
   ·have e1:w/(2*A)*(2*A)=w:=by grind
    exact(il (k:=2*A) (by grind)).1 (by rw[e1];exact hw)
   ·have e1:w/(2*A)*(2*A)=w:=by grind
    generalize w/(2*A)=f at*;have h1:=eO (a:=f-d) (b:=A) (by grind) (by grind);have h2:=eO (a:=d) (b:=A+j) (by grind) (by rcases hj with rfl|rfl<;>grind);grind
  rcases fE (l.value p) with e|e|e
  ·exact absurd e h0
  ·obtain⟨f,f1,f2⟩:=key _ e
   refine⟨f,f1,fun d d1 d2=>?_⟩;have:=f2 d d1 d2 k (.inl J);rw[iw,hk];grind
  ·obtain⟨f,f1,f2⟩:=key (-l.value p) (by grind)
   refine⟨f,f1,fun d d1 d2=>?_⟩;have:=f2 d d1 d2 (-k) (.inr J);rw[iw,hk];grind
def An: ∀{t:Tr} {p v:ab},Gn t.lns p v-> ∃e:Rat,0<e/\ ∀d,0<d->d<=e->e8 t.lns (ce p v d)/\fe t p v=(t.val (ce p v d),true)
 | .leaf b,p,v,_=>⟨1,by decide,fun d _ _=>⟨fun l hl=>(by cases hl),J⟩⟩
 | .node l x y,p,v,h=>by
  obtain⟨e1,a1,b1⟩:=aDR (h l aQ);obtain⟨e2,a2,b2⟩:=An (t:=x) (p:=p) (v:=v) (fun m hm=>h m (aZ _ (bK _ hm)));obtain⟨e3,a3,b3⟩:=An (t:=y) (p:=p) (v:=v) (fun m hm=>h m (aZ _ (bM _ hm)));have hgn:=h l aQ;have hm: ∃e:Rat,0<e/\e<=e1/\e<=e2/\e<=e3:=by
   by_cases h1:e1<=e2
   ·by_cases h2:e1<=e3
    ·exact⟨e1,a1,by grind,h1,h2⟩
    ·exact⟨e3,a3,by grind,by grind,by grind⟩
   ·by_cases h2:e2<=e3
    ·exact⟨e2,a2,by grind,by grind,h2⟩
    ·exact⟨e3,a3,by grind,by grind,by grind⟩
  obtain⟨e,h0,h1,h2,h3⟩:=hm;refine⟨e,h0,fun d d1 d2=>?_⟩;obtain⟨c1,c2⟩:=b1 d d1 (by grind);obtain⟨o2,w2⟩:=b2 d d1 (by grind);obtain⟨o3,w3⟩:=b3 d d1 (by grind);have hs:(if(l.value p).num.sign=0 then(l.dir.cross v).num.sign else(l.value p).num.sign)=if 0<l.value (ce p v d) then 1 else-1:=by
   rw[vL];by_cases hz:l.value p=0
   ·rw[if_pos ((jj _).2 hz)]
    split
    ·rename_i hp
     exact(jh _).2 (by rcases c1.1 hp with k|k;exact absurd k (by grind);exact k.2)
    ·rename_i hp
     have:l.nor.dot v<0:=by have:=hgn hz;have: ¬0<l.nor.dot v:=fun e=>hp (c1.2 (.inr ⟨hz,e⟩));grind
     exact pX.2 (by have:=(ld _).2 this;rcases mW (l.nor.dot v).num 0 with q|q|q;exact q;rw[q] at this;simp at this;rw[fR q] at this;simp at this)
   ·rw[if_neg (fun e=>hz ((jj _).1 e))]
    split
    ·rename_i hp
     exact(jh _).2 (by rcases c1.1 hp with k|k;exact k;exact absurd k.1 hz)
    ·rename_i hp
     have:l.value p<0:=by have: ¬0<l.value p:=fun e=>hp (c1.2 (.inl e));grind
     exact pX.2 (by have:=(ld _).2 this;rcases mW (l.value p).num 0 with q|q|q;exact q;rw[q] at this;simp at this;rw[fR q] at this;simp at this)
  have hz:l.value (ce p v d)≠0:=fun e=>by
   rcases fE (l.value p) with q|q|q
   ·rcases fE (l.nor.dot v) with r|r|r
    ·exact hgn q r
    ·have:=c1.2 (.inr ⟨q,r⟩);grind
    ·have:=c2.2 (.inr ⟨q,r⟩);grind
   ·have:=c1.2 (.inl q);grind
   ·have:=c2.2 (.inl q);grind
  refine⟨fun m hm=>?_,?_⟩
  ·rcases aY.1 hm with rfl|hm
   ·exact hz
   ·exact(bV.1 hm).elim (o2 m) (o3 m)
  ·rw[fe,hs]
   by_cases hp:0<l.value (ce p v d)
   ·rw[if_pos hp,Tr.val_pos hp];exact w2
   ·rw[if_neg hp,Tr.val_neg hp];exact w3
def kA(p:ab):(p.half=1/\(0<p.y\/(p.y=0/\0<p.x)))\/(p.half=2/\(p.y<0\/(p.y=0/\p.x<0)))\/(p.half=0/\p.y=0/\p.x=0):=by
 unfold ab.half;simp only[mr,ld,jj];split
 ·rename_i h;exact .inl ⟨rfl,h⟩
 ·rename_i h
  split
  ·rename_i h2
   exact .inr (.inl ⟨J,by grind⟩)
  ·rename_i h2
   exact .inr (.inr ⟨J,by grind,by grind⟩)
def tP{p:ab}:p.half=1↔(0<p.y\/(p.y=0/\0<p.x)):=by
 rcases kA p with⟨h,k⟩|⟨h,k⟩|⟨h,k⟩<;>rw[h]<;>grind
def uk{p:ab}:p.half=2↔(p.y<0\/(p.y=0/\p.x<0)):=by
 rcases kA p with⟨h,k⟩|⟨h,k⟩|⟨h,k⟩<;>rw[h]<;>grind
def cv(u v:ab):Prop:=u.half<v.half\/(u.half=v.half/\0<u.cross v)
def mD{u v:ab}:ck u v<0↔cv u v:=by
 unfold ck cv;split
 ·rename_i h;exact⟨fun _=> .inl h,fun _=>by decide⟩
 ·rename_i h
  split
  ·rename_i h2;exact⟨fun e=>absurd e (by decide),fun e=>by omega⟩
  ·rename_i h2
   have e:u.half=v.half:=by omega
   rw[<-mr];constructor
   ·intro k;exact .inr ⟨e,by omega⟩
   ·rintro (k|⟨_,k⟩)
    ·omega
    ·omega
def b7(d:ab):ab:=⟨-d.x, -d.y⟩
def u6{d:ab}(h:d.half≠0):(b7 d).half=3-d.half:=by
 rcases kA d with⟨e,k⟩|⟨e,k⟩|⟨e,k⟩
 ·rw[e];exact uk.2 (by unfold b7;grind)
 ·rw[e];exact tP.2 (by unfold b7;grind)
 ·exact absurd e h
def ke{d:ab}(h:d.half≠0):d.half=1\/d.half=2:=by
 rcases kA d with⟨e,_⟩|⟨e,_⟩|⟨e,_⟩
 ·exact .inl e
 ·exact .inr e
 ·exact absurd e h
def pC(ds:List ab)(u w:ab):Prop:=(cv u w/\ ∀d∈ds,¬(cv u d/\cv d w))\/((∀d∈ds,¬cv u d)/\ ∀d∈ds,¬cv d w)
structure uH (ds:List ab):Prop where
 nz: ∀d∈ds,d.half≠0
 neg: ∀d∈ds,b7 d∈ds
def My(u:ab):u.cross u=0:=by unfold ab.cross;grind
def gP(u v:ab):v.cross u= -u.cross v:=by unfold ab.cross;grind
def n7(u v:ab):u.cross (b7 v)= -u.cross v:=by unfold ab.cross b7;grind
def pC.spec{ds:List ab}{u w:ab}(h:uH ds)(hu:u∈ds)(hw:w∈ds)(hn:pC ds u w):
  (u.half=w.half/\0<u.cross w/\ ∀d∈ds,¬(cv u d/\cv d w))\/(u.half≠w.half/\(∀d∈ds,d.half=u.half->0<=d.cross u)/\ ∀d∈ds,d.half=w.half->0<=w.cross d):=by
 have zu:=ke (h.nz u hu);have zw:=ke (h.nz w hw);rcases hn with⟨h1,h2⟩|⟨h1,h2⟩
 ·rcases h1 with k|⟨k,k2⟩
  ·refine .inr ⟨by omega,fun d hd e=>?_,fun d hd e=>?_⟩
   ·have:=h2 d hd
    rw[gP];by_cases hc:0<u.cross d
    ·exact absurd ⟨.inr ⟨e.symm,hc⟩, .inl (by omega)⟩ this
    ·grind
   ·have:=h2 d hd
    by_cases hc:0<d.cross w
    ·exact absurd ⟨.inl (by omega), .inr ⟨e,hc⟩⟩ this
    ·rw[gP] at hc;grind
  ·exact .inl ⟨k,k2,h2⟩
 ·have nu:=u6 (h.nz u hu)
  have a1:=h1 _ (h.neg u hu);have a2:=h2 _ (h.neg u hu);unfold cv at a1 a2;rw[nu] at a1 a2;refine .inr ⟨fun e=>?_,fun d hd e=>?_,fun d hd e=>?_⟩
  ·rcases zu with z|z
   ·exact a1 (.inl (by omega))
   ·exact a2 (.inl (by omega))
  ·have:=h1 d hd
   rw[gP];by_cases hc:0<u.cross d
   ·exact absurd (.inr ⟨e.symm,hc⟩) this
   ·grind
  ·have:=h2 d hd
   by_cases hc:0<d.cross w
   ·exact absurd (.inr ⟨e,hc⟩) this
   ·rw[gP] at hc;grind
def pC.pos{ds:List ab}{u w:ab}(h:uH ds)(hu:u∈ds)(hw:w∈ds)(hn:pC ds u w):0<=u.cross w:=by
 rcases hn.spec h hu hw with⟨_,h2,_⟩|⟨h1,h2,h3⟩
 ·grind
 ·have:=h3 _ (h.neg u hu) (by rw[u6 (h.nz u hu)];have:=ke (h.nz u hu);have:=ke (h.nz w hw);omega)
  rw[n7] at this;rw[gP];exact this
def gp(a b:Rat)(u w:ab):ab:=⟨a*u.x+b*w.x,a*u.y+b*w.y⟩
def Qc{a b:Rat}{u w:ab}:u.cross (gp a b u w)=b*u.cross w/\(gp a b u w).cross w=a*u.cross w:=by
 unfold ab.cross gp;constructor<;>grind
def HO{a b:Rat}{u w:ab}(ha:0<a)(hb:0<b)(h:u.half=w.half)(hz:u.half≠0):(gp a b u w).half=u.half:=by
 rcases kA u with⟨e,k⟩|⟨e,k⟩|⟨e,k⟩
 ·rw[e] at h⊢
  have k2:=tP.1 h.symm;refine tP.2 ?_;unfold gp;simp only;have p1: ∀z:Rat,0<z->0<a*z:=fun z hz=>b8 ha hz;have p2: ∀z:Rat,0<z->0<b*z:=fun z hz=>b8 hb hz;rcases k with k|⟨k,k'⟩<;>rcases k2 with l|⟨l,l'⟩
  ·have:=p1 _ k;have:=p2 _ l;grind
  ·have:=p1 _ k;rw[l];grind
  ·have:=p2 _ l;rw[k];grind
  ·have:=p1 _ k';have:=p2 _ l';rw[k,l];grind
 ·rw[e] at h⊢
  have k2:=uk.1 h.symm;refine uk.2 ?_;unfold gp;simp only;have p1: ∀z:Rat,z<0->a*z<0:=fun z hz=>by have:=b8 (a:=a) (b:= -z) ha (by grind);grind
  have p2: ∀z:Rat,z<0->b*z<0:=fun z hz=>by have:=b8 (a:=b) (b:= -z) hb (by grind);grind
  rcases k with k|⟨k,k'⟩<;>rcases k2 with l|⟨l,l'⟩
  ·have:=p1 _ k;have:=p2 _ l;grind
  ·have:=p1 _ k;rw[l];grind
  ·have:=p2 _ l;rw[k];grind
  ·have:=p1 _ k';have:=p2 _ l';rw[k,l];grind
 ·exact absurd e hz
def pC.none{ds:List ab}{u w:ab}(h:uH ds)(hu:u∈ds)(hw:w∈ds)(hn:pC ds u w)(hc:u.cross w≠0){a b:Rat}(ha:0<a)(hb:0<b):gp a b u w∉ds:=fun hd=>by
 have hp:=hn.pos h hu hw;have hp:0<u.cross w:=by grind
 obtain⟨c1,c2⟩:=Qc (a:=a) (b:=b) (u:=u) (w:=w);have d1:0<u.cross (gp a b u w):=by rw[c1];exact b8 hb hp
 have d2:0<(gp a b u w).cross w:=by rw[c2];exact b8 ha hp
 have zu:=ke (h.nz u hu);have zw:=ke (h.nz w hw);have zd:=ke (h.nz _ hd);rcases hn.spec h hu hw with⟨h1,_,h3⟩|⟨h1,h2,h3⟩
 ·have e:=HO ha hb h1 (h.nz u hu)
  exact h3 _ hd ⟨.inr ⟨e.symm,d1⟩, .inr ⟨e.trans h1,d2⟩⟩
 ·rcases(show(gp a b u w).half=u.half\/(gp a b u w).half=w.half by omega) with e|e
  ·have:=h2 _ hd e
   rw[gP] at this;grind
  ·have:=h3 _ hd e
   rw[gP] at this;grind
def tw{d e:ab}(h:e.cross d=0)(hp:0<e.dot d): ∃g:Rat,0<g/\e=⟨g*d.x,g*d.y⟩:=by
 have hd:0<d.dot d:=by
  unfold ab.dot at*;have h1:=uD d.x;have h2:=uD d.y;rcases fE d.x with k|k|k
  ·rcases fE d.y with l|l|l
   ·rw[k,l] at hp;grind
   ·have:=b8 l l;grind
   ·have:=b8 (a:= -d.y) (b:= -d.y) (by grind) (by grind);grind
  ·have:=b8 k k;grind
  ·have:=b8 (a:= -d.x) (b:= -d.x) (by grind) (by grind);grind
 have key:e.x*d.dot d=e.dot d*d.x/\e.y*d.dot d=e.dot d*d.y:=by
  unfold ab.dot ab.cross at*;constructor<;>grind
 have hg:e.dot d/d.dot d*d.dot d=e.dot d:=by grind
 refine⟨e.dot d/d.dot d,(il hd).1 (by rw[hg];exact hp),?_⟩;generalize e.dot d/d.dot d=g at*;have x1:e.x=g*d.x:=by
  have:(e.x-g*d.x)*d.dot d=0:=by rw[<-hg] at key;grind
  have hz:d.dot d≠0:=by grind
  grind
 have x2:e.y=g*d.y:=by
  have:(e.y-g*d.y)*d.dot d=0:=by rw[<-hg] at key;grind
  have hz:d.dot d≠0:=by grind
  grind
 rw[<-x1,<-x2]
def Dh{e u:ab}(he:e.half≠0)(hu:u.half≠0)(hp:e.cross u=0):e.dot u≠0:=fun hz=>by
 have e1:e.x*(u.x*u.x+u.y*u.y)=0:=by unfold ab.dot ab.cross at*;grind
 have e2:e.y*(u.x*u.x+u.y*u.y)=0:=by unfold ab.dot ab.cross at*;grind
 have hu2:u.x*u.x+u.y*u.y≠0:=fun q=>by
  have h1:=uD u.x;have h2:=uD u.y;have x0:u.x=0:=by
   have:u.x*u.x=0:=by grind
   grind
  have y0:u.y=0:=by
   have:u.y*u.y=0:=by grind
   grind
  rcases kA u with⟨_,q⟩|⟨_,q⟩|⟨q,_⟩
  ·grind
  ·grind
  ·exact hu q
 have x0:e.x=0:=by grind
 have y0:e.y=0:=by grind
 rcases kA e with⟨_,q⟩|⟨_,q⟩|⟨q,_⟩
 ·grind
 ·grind
 ·exact he q
def pC.gen{ds:List ab}{u w:ab}(h:uH ds)(hu:u∈ds)(hw:w∈ds)(hn:pC ds u w)(hc:u.cross w≠0){a b:Rat}(ha:0<a)(hb:0<b): ∀d∈ds,d.cross (gp a b u w)≠0:=fun d hd hz=>by
 have hp:=hn.pos h hu hw;have hp:0<u.cross w:=by grind
 obtain⟨c1,c2⟩:=Qc (a:=a) (b:=b) (u:=u) (w:=w);have d1:0<u.cross (gp a b u w):=by rw[c1];exact b8 hb hp
 -- of d and its opposite, one points the same way
 have key: ∀e∈ds,e.cross (gp a b u w)=0->0<e.dot (gp a b u w)->False:=fun e he h1 h2=>by
  obtain⟨g,g1,g2⟩:=tw h1 h2;refine hn.none h hu hw hc (a:=g*a) (b:=g*b) (b8 g1 ha) (b8 g1 hb) ?_;have:gp (g*a) (g*b) u w=e:=by rw[g2];unfold gp;simp only[ab.mk.injEq];constructor<;>grind
  rw[this];exact he
 rcases fE (d.dot (gp a b u w)) with k|k|k
 ·-- both 0: then d is 0, or the other is
  have hnz:=h.nz d hd;generalize gp a b u w=v at*;have e1:d.x*(v.x*v.x+v.y*v.y)=0:=by unfold ab.dot ab.cross at*;grind
  have e2:d.y*(v.x*v.x+v.y*v.y)=0:=by unfold ab.dot ab.cross at*;grind
  have hv:v.x*v.x+v.y*v.y≠0:=fun e=>by
   have h1:=uD v.x;have h2:=uD v.y;have x0:v.x=0:=by have:v.x*v.x=0:=(by grind);grind
   have y0:v.y=0:=by have:v.y*v.y=0:=(by grind);grind
   unfold ab.cross at d1;rw[x0,y0] at d1;grind
  have x0:d.x=0:=by grind
  have y0:d.y=0:=by grind
  rcases kA d with⟨_,q⟩|⟨_,q⟩|⟨q,_⟩
  ·grind
  ·grind
  ·exact hnz q
 ·exact key d hd hz k
 ·refine key _ (h.neg d hd) ?_ ?_
  ·unfold ab.cross b7 at*;grind
  ·unfold ab.dot b7 at*;grind
def Lu(d u:ab):d.cross (jC u)=d.dot u:=by unfold ab.cross jC ab.dot;grind
def pC.turn{ds:List ab}{u w:ab}(h:uH ds)(hu:u∈ds)(hw:w∈ds)(hn:pC ds u w)(hc:u.cross w=0): ∀d∈ds,d.cross (jC u)≠0:=fun d hd=>by
 have zu:=ke (h.nz u hu);have zw:=ke (h.nz w hw);rw[Lu];rcases hn.spec h hu hw with⟨_,h2,_⟩|⟨h1,h2,h3⟩
 ·rw[hc] at h2;exact absurd h2 (by decide)
 have par: ∀e∈ds,e.half=u.half->e.cross u=0:=fun e he k=>by
  have a1:=h2 e he k;have a2:=h3 _ (h.neg e he) (by rw[u6 (h.nz e he)];omega);rw[n7] at a2
  -- w = -g u
  have hwu:w.cross u=0:=by rw[gP,hc];rfl
  have huw:w.dot u<0:=by
   rcases fE (w.dot u) with k0|k0|k0
   ·exact absurd k0 (Dh (h.nz w hw) (h.nz u hu) hwu)
   ·obtain⟨g,g1,g2⟩:=tw hwu k0
    exfalso;apply h1;rcases kA u with⟨x,q⟩|⟨x,q⟩|⟨x,q⟩
    ·rw[x]
     refine(tP.2 ?_).symm;rw[g2];simp only;rcases q with q|⟨q,q'⟩
     ·exact .inl (b8 g1 q)
     ·exact .inr ⟨by rw[q];grind,b8 g1 q'⟩
    ·rw[x]
     refine(uk.2 ?_).symm;rw[g2];simp only;rcases q with q|⟨q,q'⟩
     ·have:=b8 (a:=g) (b:= -u.y) g1 (by grind);exact .inl (by grind)
     ·have:=b8 (a:=g) (b:= -u.x) g1 (by grind);exact .inr ⟨by rw[q];grind,by grind⟩
    ·exact absurd x (h.nz u hu)
   ·exact k0
  obtain⟨g,g1,g2⟩:=tw (d:=u) (e:=b7 w) (by unfold ab.cross b7 at*;grind) (by unfold ab.dot b7 at*;grind);have a3:0<= -(g*e.cross u):=by
   have e1:w=⟨-(g*u.x), -(g*u.y)⟩:=by
    have:=congrArg b7 g2;unfold b7 at this
    cases w
    simp only[Rat.neg_neg] at this;exact this
   rw[e1] at a2;unfold ab.cross at*;grind
  by_cases hz:0<e.cross u
  ·have:=b8 g1 hz;grind
  ·grind
 have nzd: ∀e∈ds,e.half=u.half->e.dot u≠0:=fun e he k=>Dh (h.nz e he) (h.nz u hu) (par e he k);by_cases k:d.half=u.half
 ·exact nzd d hd k
 ·have:=nzd _ (h.neg d hd) (by rw[u6 (h.nz d hd)];have:=ke (h.nz d hd);omega)
  unfold ab.dot b7 at*;grind
end Go.Sx
end
section
namespace Go.Sx
open Go
inductive OT where
 |z (π:List (Nat×Bool))
 |q (i:Nat) (t:OT)
 |a (i:Nat) (t:OT)
 |c (i:Nat) (t r:OT)
def OT.sz:OT->Nat
 | .z _=>0
 | .q _ t=>t.sz+1
 | .a _ t=>t.sz+1
 | .c _ t r=>t.sz+r.sz+1
def OT.d:OT->Nat
 | .z π=>π.length
 | .q _ t=>t.d+1
 | .a _ t=>t.d+1
 | .c _ t r=>Nat.max (t.d+1) r.d
section
variable {P:Program} {ops:Array Oper} {Q:Exit->Act->World->Prop} {S:World->Prop} {π₂:List (Nat×Bool)}
def vr(P:Program)(ops:Array Oper)(Q:Exit->Act->World->Prop)(K:(World->Prop)->Act->World->Prop):List Nat->OT->(World->Prop)->Act->World->Prop
 |ks, .z π,S,a,w=>xq P ops Q K ks π S a w
 |ks, .q i t,S,a,w=> ∃o v,ops[i]? =some o/\S w/\YieldsIf P ops S o v a/\vr P ops Q K ks t S (a.put o.dst v) w
 |ks, .a i t,S,a,w=>wpOp P ops Q i (vG S (vr P ops Q K ks t)) a w/\
   ∀j,(h:j∈ks)->wpOp P ops Q j (vG S (vr P ops Q K (bG ks j) (.a i t))) a w
 |ks, .c i t r,S,a,w=>wpOp P ops Q i (vG S (vr P ops Q K ks t)) a w/\vr P ops Q K ks r S a w/\
   ∀j,(h:j∈ks)->wpOp P ops Q j (vG S (vr P ops Q K (bG ks j) (.c i t r))) a w
termination_by ks t=>ks.length+t.sz
decreasing_by
 all_goals (first|(have:=Iv h;simp only[OT.sz] at*;omega)|(simp only[OT.sz];omega))
def tj(ops:Array Oper)(fin:Nat->Bool)(π₂:List (Nat×Bool)):Nat->Bool->List Nat->OT->Array Bool->List Nat->Bool
 |0,_,_,_,_,_=>false
 |n+1,false,ks, .z π,l,_=>zo ops fin π₂ n ks π l
 |_+1,true,_, .z _,_,_=>false
 |n+1,false,ks, .q i t,l,_=>xi ops fin l i&&tj ops fin π₂ n false ks t (l.setIfInBounds i true) []
 |_+1,true,_, .q _ _,_,_=>false
 |n+1,true,ks, .a i t,l,rs=>rs.all (fun j=>Nat.beq j i)&&tj ops fin π₂ n false ks t (l.setIfInBounds i true) []
 |n+1,false,ks, .a i t,l,_=>!(Region.ready .any ops l).isEmpty&&(Region.ready .any ops l).all (fun j=>Nat.beq j i||ks.contains j)&&tj ops fin π₂ n false ks t (l.setIfInBounds i true) []&&ks.all fun j=>tj ops fin π₂ n false (bG ks j) (.a i t) (l.setIfInBounds j true) []
 |n+1,true,ks, .c i t r,l,rs=>tj ops fin π₂ n false ks t (l.setIfInBounds i true) []&&tj ops fin π₂ n true ks r l (bG rs i)
 |n+1,false,ks, .c i t r,l,_=>!(Region.ready .any ops l).isEmpty&&tj ops fin π₂ n false ks t (l.setIfInBounds i true) []&&tj ops fin π₂ n true ks r l (bG ((Region.ready .any ops l).filter fun j=>!ks.contains j) i)&&ks.all fun j=>tj ops fin π₂ n false (bG ks j) (.c i t r) (l.setIfInBounds j true) []
end
section
variable {P:Program} {GB:Gh} {C:aD} {n:Nat} {fr fr':d8} {own own' own0 own1 own1':List dl} {bs bs0 bs1 bs1':List dP} {ops:Array Oper} {Q:Exit->Act->World->Prop} {fd:List FD} {π₂:List (Nat×Bool)} {t r:OT}
abbrev dnK (P:Program) (ops:Array Oper) (Q:Exit->Act->World->Prop) (K:(World->Prop)->Act->World->Prop) (t:OT):List Nat->(World->Prop)->Act->World->Prop:=fun ks S=>vr P ops (f4 Q) K ks t S
end
end Go.Sx
end
section
namespace Go.Sx
open Go Go.Proofs Tryz
variable {GB:Gh}
theorem LB.rev{l:aa}(h:LB l):LB l.rev:=⟨⟨by rw[show l.rev.a= -l.a from J,iR];exact h.bl.a,by rw[show l.rev.b= -l.b from J,iR];exact h.bl.b,by rw[show l.rev.c= -l.c from J,iR];exact h.bl.c⟩⟩
def L'{α:Type}{p:α->Bool}: ∀{xs:List α} {n:Nat},n<=xs.length->(∀j (h:j<xs.length),j<n->p xs[j]=true)->(∀h:n<xs.length,p xs[n]=false)->(xs.takeWhile p).length=n
 |[],n,h,_,_=>by simp at h;subst h;rfl
 |x::xs,0,_,_,h3=>by
  have:=h3 (by simp);simp only[oS] at this;simp[tX,this]
 |x::xs,n+1,h1,h2,h3=>by
  have hx:=h2 0 (by simp) (by omega);simp only[oS] at hx;rw[tX,if_pos hx,bW];rw[L' (n:=n) (by simpa using h1) (fun j h hj=>by have:=h2 (j+1) (by simpa using h) (by omega);simpa using this) (fun h=>by have:=h3 (by simpa using h);simpa using this)]
def QF{xs:List aa}{l:aa}{n:Nat}(h1:n<=xs.length)(h2: ∀j (h:j<xs.length),j<n->ck xs[j].dir l.dir<0)(h3: ∀h:n<xs.length,¬ck xs[n].dir l.dir<0):mI xs l=n:=
 L' h1 (fun j h hj=>decide_eq_true (h2 j h hj)) (fun h=>decide_eq_false (h3 h))
def Xm{xs:List aa}{l:aa}{n:Nat}(hn:mI xs l=n)(h:n<xs.length)(e:xs[n]=l):oI xs l=xs:=by
 unfold oI;rw[hn,if_pos (by rw[aX h,e])]
def MC{xs:List aa}{l:aa}{n:Nat}(hn:mI xs l=n)(h: ∀h:n<xs.length,xs[n]≠l):oI xs l=xs.take n++l::xs.drop n:=by
 unfold oI;rw[hn,if_neg];intro e;obtain⟨h1,h2⟩:=aR.1 e;exact h h1 h2
def Qz(xs:List aa)(n:Nat):ew 6 ((xs.map eL).take n):=fun d hd=>sj xs d (fK hd)
def HF(xs:List aa)(n m:Nat):ew 6 (((xs.map eL).take n).drop m):=fun d hd=>sj xs d (fK (iY hd))
def MJ(xs:List aa)(n m:Nat)(l:aa):ew 6 ([eL l]++((xs.map eL).take n).drop m):=fun d hd=>by
 rcases bV.1 hd with h|h
 ·exact sj [l] d h
 ·exact HF xs n m d h
structure lz (c:List aa) (k:Nat) (xs:List aa):Prop where
 le:k<=c.length
 f:nC c (c.drop k) xs=d9 c
 m: ∀m∈xs,m∈c
 n:xs.length<=k
def lz.skip{c xs:List aa}{k:Nat}(h:lz c k xs)(hk:k<c.length)(e:(fk c[k] c aj.all).isSome=false):lz c (k+1) xs:=by
 have:=h.f;rw[aM hk,nC,e] at this;exact⟨hk,this,h.m,by have:=h.n;omega⟩
def lz.ins{c xs ys:List aa}{k:Nat}(h:lz c k xs)(hk:k<c.length)(e:(fk c[k] c aj.all).isSome=true)(hy:oI xs c[k]=ys)(hl:ys.length<=xs.length+1):lz c (k+1) ys:=by
 have:=h.f;rw[aM hk,nC,e,if_pos J,hy] at this;refine⟨hk,this,fun m hm=>?_,by have:=h.n;omega⟩;rw[<-hy] at hm;rcases HU.1 hm with rfl|hm
 ·exact cY hk
 ·exact h.m m hm
def lz.done{c xs:List aa}{k:Nat}(h:lz c k xs)(hk:k=c.length):d9 c=xs:=by
 have:=h.f;rw[hk,jZ,nC] at this;exact this.symm
def nf(c:List aa):Bool:=if(((c.map eL).length:Nat):Int)=0 then true else decide ((0:Int)<((((d9 c).map eL).length:Nat):Int))
def lz.nil(c:List aa):lz c 0 []:=⟨bU _,J,fun m hm=>absurd hm (by simp),aN _⟩
def aAO{c:List aa}(hc: ∀m∈c,LB m)(hok: ∀m∈c,m.ok)(hn:c.length<=1000):PF GB prog 160 [.sl (c.map eL)] (.tp [.sl ((d9 c).map eL),vB (nf c)]):=by
 have hcl:=ui c;refine fn (fu:=⟨16⟩) func160 J J ntmps160 J J (fun C=>?_);refine av 11 (.d (vI (c.length:Nat))) J (by rw[hcl];rfl) ?_;refine gx J<|?_;refine NO 4 J ?_;refine lp (X:=List aa×Nat) (fun⟨xs,k⟩=>[(12, .d (vI (k:Nat))),(11, .d (vI (c.length:Nat))),(10, .d (.sl (c.map eL))),(0, .d (.sl (c.map eL))),(4, .d (.sl (xs.map eL)))]) (fun⟨xs,k⟩=>[]) (fun⟨xs,k⟩=>lz c k xs) (fun⟨xs,k⟩=>c.length-k) ⟨[],0⟩ J (lz.nil c) (fun _=>J) (fun⟨xs,k⟩ hk=>?_)
 try dsimp only at hk⊢
 have hS:=hk;refine br J J J (fun hc13=>?_) (fun hc13=>?_)
 .
  have hk:k<c.length:=by omega
  obtain⟨m,hm⟩: ∃m,m=c[k]:=⟨_,rfl⟩;haveI hmb:LB m:=hm▸hc _ (cY hk);have hmo:m.ok:=hm▸hok _ (cY hk);have hxl:=ui xs;have hxn:=hS.n;refine ix (fu:=⟨1⟩) _ J (uu hk) J<|?_;refine av 16 (.d (eL m)) J (by rw[hm];rfl) ?_;refine gx J<|cl J (JS hc hok hn hk) J<|?_;refine bb (fu2:=⟨8⟩) J J J (fun hc24=>?_) (fun hc24=>?_)
  .
   have hinv:lz c (k+1) xs:=hS.skip hk (by rw[<-vR];simpa using hc24);exact at_ ⟨xs,k+1⟩ (by dsimp only;exact⟨hinv,(by omega)⟩)
  .
   have hyes:(fk c[k] c aj.all).isSome=true:=by rw[<-vR];simpa using hc24
   refine mg (fu:=⟨6⟩) (X:=Unit) (fun _=>[(12, .d (vI (k:Nat))),(11, .d (vI (c.length:Nat))),(10, .d (.sl (c.map eL))),(0, .d (.sl (c.map eL))),(4, .d (.sl (xs.map eL))),(6, .ov 6 0),(9, .d (vI (mI xs m:Nat)))]) (fun _=>[(6,some (.o 115 [.d ((.v (.bool (decide (m.a<0))))), .d (dN m.a.natAbs), .d ((.v (.bool (decide (m.b<0))))), .d (dN m.b.natAbs), .d ((.v (.bool (decide (m.c<0))))), .d (dN m.c.natAbs)] true))]) (fun _=>True) [12,11,10,0,4,6,9] [6] rfl ?_ (fun _=>J) (fun _ _=>?_)
   .
    refine gx J<|?_;refine lp (fu:=⟨6⟩) (X:=Nat) (fun n=>[(12, .d (vI (k:Nat))),(11, .d (vI (c.length:Nat))),(10, .d (.sl (c.map eL))),(0, .d (.sl (c.map eL))),(4, .d (.sl (xs.map eL))),(6, .ov 6 0),(9, .d (vI (n:Nat)))]) (fun n=>[(6,some (.o 115 [.d ((.v (.bool (decide (m.a<0))))), .d (dN m.a.natAbs), .d ((.v (.bool (decide (m.b<0))))), .d (dN m.b.natAbs), .d ((.v (.bool (decide (m.c<0))))), .d (dN m.c.natAbs)] true))]) (fun n=>n<=xs.length/\ ∀j (h:j<xs.length),j<n->ck xs[j].dir m.dir<0) (fun n=>xs.length-n) 0 J ⟨bU _,fun j _ hj=>absurd hj (by omega)⟩ (fun _=>J) (fun n hk=>?_);obtain⟨n1,n2⟩:=hk;refine xZ J J J J (fun hg28=>?_) (fun hg28=>?_)
    .
     refine ix _ J (uu (by omega)) J<|?_;haveI:LB (xs[n]'(by omega)):=hc _ (hS.m _ (cY _));refine cl J (ug (l:=xs[n]'(by omega))) J<|cl J (ug (l:=m)) J<|cl J (aBT (u:=(xs[n]'(by omega)).dir) (v:=m.dir)) J<|?_;refine br J J J (fun hc39=>?_) (fun hc39=>?_)
     .
      exact at_ (n+1) ⟨⟨by omega,fun j h hj=>by by_cases q:j=n;(subst q;exact hc39);exact n2 j h (by omega)⟩,(by omega)⟩
     .
      have hidx:mI xs m=n:=QF n1 n2 (fun h=>hc39);exact at_ () trivial
    .
     have hidx:mI xs m=n:=QF n1 n2 (fun h=>absurd h (by omega));exact at_ () trivial
   .
    obtain⟨n,hnx⟩: ∃n,mI xs m=n:=⟨_,rfl⟩;rw[hnx];have hnl:n<=xs.length:=by rw[<-hnx];unfold mI;exact(List.takeWhile_sublist _).length_le
    have hcb: ∀m∈xs,LB m:=fun m hm=>hc m (hS.m m hm);refine xZ J J J J (fun hg45=>?_) (fun hg45=>?_)
    .
     refine ix _ J (uu (by omega)) J<|cl J (M7 (l:=xs[n]'(by omega)) (m:=m) (hl:=hcb _ (cY (by omega)))) J<|?_;refine br J J J (fun hc54=>?_) (fun hc54=>?_)
     .
      have hn46:n<xs.length:=by omega
      have hinv:lz c (k+1) xs:=hS.ins hk hyes (by rw[<-hm];exact Xm hnx hn46 ((Bj _ m).1 hc54)) (by omega);exact at_ ⟨xs,k+1⟩ (by dsimp only;exact⟨hinv,(by omega)⟩)
     .
      have hnew: ∀h:n<xs.length,xs[n]≠m:=fun h e=>hc54 ((Bj _ m).2 e);obtain⟨ys,hys⟩: ∃ys,ys=xs.take n++m::xs.drop n:=⟨_,rfl⟩;have hinv:lz c (k+1) ys:=hS.ins hk hyes (by rw[<-hm,MC hnx hnew,hys]) (by rw[hys];simp;omega);refine s3 n _ J J J J (sj _) (by rw[hxl];exact hnl) J<|ro J J<|vS n xs.length _ J J (by rw[hxl]) J (sj _) hnl (by omega) J<|?_;refine ap _ J J (HF _ _ _) J<|KR (hv:=by simp only[ah];exact⟨by kernel_rfl,by omega⟩) (ho:=fun _=>⟨Qz _ _,by simp⟩) (ys.map eL) J (by rw[hys,eX,bS,lX,oQ,bZ (l:=xs.map eL) (i:=xs.length) (by simp)];rfl) (MJ _ _ _ _) J<|?_;exact at_ ⟨ys,k+1⟩ (by dsimp only;exact⟨hinv,(by omega)⟩)
    .
     have hnew: ∀h:n<xs.length,xs[n]≠m:=fun h=>absurd h (by omega);obtain⟨ys,hys⟩: ∃ys,ys=xs.take n++m::xs.drop n:=⟨_,rfl⟩;have hinv:lz c (k+1) ys:=hS.ins hk hyes (by rw[<-hm,MC hnx hnew,hys]) (by rw[hys];simp;omega);refine s3 n _ J J J J (sj _) (by rw[hxl];exact hnl) J<|ro J J<|vS n xs.length _ J J (by rw[hxl]) J (sj _) hnl (by omega) J<|?_;refine ap _ J J (HF _ _ _) J<|KR (hv:=by simp only[ah];exact⟨by kernel_rfl,by omega⟩) (ho:=fun _=>⟨Qz _ _,by simp⟩) (ys.map eL) J (by rw[hys,eX,bS,lX,oQ,bZ (l:=xs.map eL) (i:=xs.length) (by simp)];rfl) (MJ _ _ _ _) J<|?_;exact at_ ⟨ys,k+1⟩ (by dsimp only;exact⟨hinv,(by omega)⟩)
 .
  have hfin:d9 c=xs:=hS.done (by have:=hS.le;omega);refine cs 71 J J J (fun hg71=>?_) (fun hg71=>?_)
  .
   exact rz J (by rw[nf,if_pos hg71,hfin];rfl)
  .
   exact rz J (by rw[nf,if_neg hg71,hfin];rfl)
section
variable {α:Type} (c:α->α->Int)
def lj(x:α):List α->List α
 |[]=>[x]
 |u::t=>if c u x<0 then u::lj x t else if c u x=0 then u::t else x::u::t
def aLo(x:α)(xs:List α):Nat:=(xs.takeWhile fun u=>decide (c u x<0)).length
def IC{x y:α}: ∀{xs:List α},y∈lj c x xs->y=x\/y∈xs
 |[],h=>by rw[lj,aW] at h;exact .inl h
 |u::t,h=>by
  rw[lj] at h;split at h
  ·rcases aY.1 h with rfl|h
   ·exact .inr aQ
   ·rcases IC h with h|h
    ·exact .inl h
    ·exact .inr (aZ _ h)
  ·split at h
   ·exact .inr h
   ·rcases aY.1 h with rfl|h
    ·exact .inl J
    ·exact .inr h
def EA(l:List α):List α:=l.foldl (fun out x=>lj c x out) []
def Ej{y:α}: ∀{l o:List α},y∈l.foldl (fun out x=>lj c x out) o->y∈l\/y∈o
 |[],o,h=> .inr h
 |x::t,o,h=>by
  rcases Ej (l:=t) h with h|h
  ·exact .inl (aZ _ h)
  ·rcases IC c h with rfl|h
   ·exact .inl aQ
   ·exact .inr h
end
def Y0{α β:Type}{f:α->β}{l:List α}{k:Nat}{x:α}(h:l[k]? =some x):(l.take k).map f++[f x]=(l.take (k+1)).map f:=by
 rw[gR,h,eX];rfl
def Qr{a i:Nat}[ha:BN a i](hi:i<=400000000:=by decide):PF GB prog 194 [dN a] (dN a):=by
 have hl:=fm (dg a);have hb:=l9 ha.h;refine fn func194 J J ntmps194 J J (fun C=>?_);refine HL J J<|ap ((dg a).map dU) J J (vq _) J<|?_;refine mp 5 J ?_;exact rz J J
def CY{z:Int}{i:Nat}[hz:BI z i](hi:i<=400000000:=by decide):PF GB prog 193 [eI z] (eI z):=by
 refine fn func193 J J ntmps193 J J (fun C=>?_);refine cl J (Qr (a:=z.natAbs) (i:=i) (ha:=⟨hz.h⟩) hi) J<|?_;exact rz J J
def LW{l:aa}(hl:BL l 96):PF GB prog 139 [eL l] (eL l):=by
 haveI h1:BI l.a 96:=⟨hl.a⟩;haveI h2:BI l.b 96:=⟨hl.b⟩;haveI h3:BI l.c 96:=⟨hl.c⟩;refine fn func139 J J ntmps139 J J (fun C=>?_);refine cl J (CY (z:=l.a)) J<|cl J (CY (z:=l.b)) J<|cl J (CY (z:=l.c)) J<|?_;exact rz J J
def VY{ls:List aa}(hb: ∀l∈ls,BL l 96)(hn:ls.length<=1000000):PF GB prog 55 [.sl (ls.map eL)] (.sl (ls.map eL)):=by
 have hll:=ui ls;refine fn (fu:=⟨15⟩) func55 J J ntmps55 J J (fun C=>?_);refine av 7 (.d (vI (ls.length:Nat))) J (by rw[hll]<;>rfl) ?_;refine gx J<|?_;refine nr 3 2000 147 6 J J J ?_;refine lp (X:=Nat) (fun i=>[(8, .d (vI (i:Nat))),(3, .rw 2000)]) (fun i=>[(2000,some (.b 147 6 ((ls.take i).map eL) true))]) (fun i=>i<=ls.length) (fun i=>ls.length-i) 0 J (bU _) (fun _=>J) (fun i hk=>?_);have htl:((ls.take i).map eL).length=i:=by simp;omega
 refine br J J J (fun hc9=>?_) (fun hc9=>?_)
 .
  have hi:i<ls.length:=by omega
  refine ix _ J (uu hi) J<|cl J (LW (l:=ls[i]) (hb _ (cY hi))) J<|rf J J<|ap ((ls.take (i+1)).map eL) J (by rw[fJ hi,eX];rfl) (sj [_]) J<|?_;refine ny 16 2000 J ?_;exact at_ (i+1) ⟨(by omega),(by omega)⟩
 .
  obtain rfl:i=ls.length:=by omega
  refine mp 2000 J ?_;exact rz J (by rw[fY]<;>rfl)
def ax8{ls:List aa}(hb: ∀l∈ls,BL l 96)(hn:ls.length<=1000000):PF GB prog 67 [.sl (ls.map eL)] (.ag [.sl (ls.map eL)]):=by
 refine fn func67 J J ntmps67 J J (fun C=>?_);refine cl J (VY hb hn) J<|?_;exact rz J J
def rlD(r:RL):DV:= .tp [if r.nm then eL r.l else .ag [.v (.bool false), .sl [], .v (.bool false), .sl [], .v (.bool false), .sl []],vB (decide (r.nm/\r.l.ok))]
def smB(n:Int)(ls:List (List Nat)):Bool:=ls.all fun d=>decide ((d.length:Int)<=n)
def RL.smB(n:Int)(r:RL):Bool:=Sx.smB n [r.da,r.db,r.dc]
def rlB(n:Int)(ls:List RL):Bool:=ls.all fun r=>r.smB n
instance BQ.m1':BQ (((-1:Int):Int):Rat) 2:=⟨by decide,by decide⟩
instance BQ.m1:BQ (-1:Rat) 2:=⟨by decide,by decide⟩
def QE{q:Rat}{i:Nat}[h:BQ q i](hi:i<=400000000:=by decide):PF GB prog 106 [eQ q] (eR q):=by
 refine fn func106 J J ntmps106 J J (fun C=>?_);refine cl J (CY (z:=q.num) hi) J<|cl J (j' (q:=q)) J<|cl J (Qr (a:=q.den) hi) J<|?_;exact rz J J
def N9{p:ab}{i:Nat}[h:aI p i](hi:i<=20000:=by decide):PF GB prog 35 [eP p] (oo p):=by
 refine fn func35 J J ntmps35 J J (fun C=>?_);refine cl J (QE (q:=p.x) (i:=i) (by omega)) J<|cl J (QE (q:=p.y) (i:=i) (by omega)) J<|?_;exact rz J J
def Ln{α:Type}(f:α->DV)(l:List α):(l.map f).length=l.length:=aJ ..
def aFy(ps:List ab):ew 6 (ps.map oo):=fun d hd=>by
 obtain⟨u,_,rfl⟩:=bJ.1 hd;exact⟨rfl,rfl⟩
def Z5{ps:List ab}(hb: ∀p∈ps,aI p 1200)(hn:ps.length<=1000000):PF GB prog 32 [.sl (ps.map eP)] (.sl (ps.map oo)):=by
 have hm:=Ln eP ps;refine fn (fu:=⟨15⟩) func32 J J ntmps32 J J (fun C=>?_);refine av 7 (.d (vI (ps.length:Nat))) J (by rw[hm]<;>rfl) ?_;refine gx J<|?_;refine nr 3 3 73 6 J J J ?_;refine lp (X:=Nat) (fun k=>[(8, .d (vI (k:Nat))),(3, .rw 3)]) (fun k=>[(3,some (.b 73 6 ((ps.take k).map oo) true))]) (fun k=>k<=ps.length) (fun k=>ps.length-k) 0 J (bU _) (fun _=>J) (fun k hk=>?_);have hml:=Ln oo (ps.take k);rw[cK] at hml;refine br J J J (fun hc9=>?_) (fun hc9=>?_)
 .
  obtain⟨z,hz⟩: ∃s,ps[k]? =some s:=⟨_,aX (by omega)⟩;have hzm:=bX hz;refine ix _ J (fh hz) J<|cl J (N9 (p:=z) (h:=hb z hzm)) J<|rf J J<|ap ((ps.take (k+1)).map oo) J (Y0 hz) (aFy [z]) J<|?_;refine ny 16 3 J ?_;exact at_ (k+1) ⟨(by omega),(by omega)⟩
 .
  obtain rfl:k=ps.length:=by omega
  refine mp 3 J ?_;exact rz J (by rw[fY];rfl)
def aK3(p q:ab):Int:=if cg p.x q.x≠0 then cg p.x q.x else cg p.y q.y
def vD(l:aa):Bool:=decide (l.a<0\/(l.a=0/\l.b<0))
def aa.canon(l:aa):aa:=if vD l then l.rev else l
instance LB.canon (l:aa) [h:LB l]:LB l.canon:=by unfold aa.canon;split;exact LB.rev h;exact h
def aJd{α β:Type}(c:β->β->Int)(g:α->β)(l:List α)(k:Nat):List β:=EA c ((l.take k).map g)
section
variable {α β:Type} {c:β->β->Int} {g:α->β} {l:List α} {k:Nat}
end
def zj(ls:List aa):List aa:=EA vX (ls.map aa.canon)
def Tn(l:aa)(p:ab):l.canon.value p=l.value p\/l.canon.value p= -l.value p:=by
 unfold aa.canon;split
 ·exact .inr (f7 l p)
 ·exact .inl J
def EF(a b:Tr):List ab:=QB (zj (a.lns++b.lns))
def eqR(a b:Tr):Bool:=(EF a b).all fun p=>tU a p==tU b p
def aLl(f:Bool->Bool->Bool)(a b:Tr):Bool:=(EF a b).any fun p=>f (tU a p) (tU b p)
def aJz(v:Bool)(t:Tr):Bool:=decide ((t.restrict []).isLeaf=true/\(t.restrict []).code=v)
def OH{α:Type}{c:α->α->Int}(hT: ∀u v w,c u v<0->c v w<0->c u w<0)(hA: ∀u v,¬c u v<0->c u v≠0->c v u<0){x:α}: ∀{xs:List α},xs.Pairwise (fun a b=>c a b<0)->(lj c x xs).Pairwise (fun a b=>c a b<0)
 |[],_=>by rw[lj];exact List.pairwise_singleton _ _
 |u::t,h=>by
  obtain⟨h1,h2⟩:=bY.1 h;rw[lj];split
  ·rename_i hu
   refine bY.2 ⟨fun y hy=>?_,OH hT hA h2⟩;rcases IC c hy with rfl|hy
   ·exact hu
   ·exact h1 y hy
  ·rename_i hu
   split
   ·exact h
   ·rename_i hz
    have hx:=hA u x hu hz;refine bY.2 ⟨fun y hy=>?_,h⟩;rcases aY.1 hy with rfl|hy
    ·exact hx
    ·exact hT _ _ _ hx (h1 y hy)
def Pn{α:Type}{c:α->α->Int}(hT: ∀u v w,c u v<0->c v w<0->c u w<0)(hA: ∀u v,¬c u v<0->c u v≠0->c v u<0): ∀{l o:List α},o.Pairwise (fun a b=>c a b<0)->(l.foldl (fun out x=>lj c x out) o).Pairwise (fun a b=>c a b<0)
 |[],o,h=>h
 |x::l,o,h=>Pn (l:=l) (o:=lj c x o) hT hA (OH hT hA h)
def Zd(L:List aa)(p:ab):List ab:=L.flatMap fun l=>if Int.sign (l.value p).num=0 then [l.dir,b7 l.dir] else []
def aBy{u v:ab}:0<ck u v↔cv v u:=by
 unfold ck cv;split
 ·rename_i h;exact⟨fun e=>absurd e (by decide),fun e=>by omega⟩
 ·rename_i h
  split
  ·rename_i h2;exact⟨fun _=> .inl h2,fun _=>by decide⟩
  ·rename_i h2
   have e:v.half=u.half:=by omega
   rw[gP u v];constructor
   ·intro k
    have:Int.sign (u.cross v).num<0:=by omega
    rw[ld] at this;exact .inr ⟨e,by grind⟩
   ·rintro (k|⟨_,k⟩)
    ·omega
    ·have:Int.sign (u.cross v).num<0:=(ld _).2 (by grind)
     omega
def cv.trans{u v w:ab}(hu:u.half≠0)(hv:v.half≠0)(hw:w.half≠0)(h:cv u v)(k:cv v w):cv u w:=by
 rcases h with h|⟨h,h'⟩<;>rcases k with k|⟨k,k'⟩
 ·exact .inl (by omega)
 ·exact .inl (by omega)
 ·exact .inl (by omega)
 ·refine .inr ⟨h.trans k,?_⟩
  have id1:u.cross w*v.y=u.cross v*w.y+v.cross w*u.y:=by unfold ab.cross;grind
  rcases kA v with⟨x,q⟩|⟨x,q⟩|⟨x,q⟩
  ·rw[x] at h k
   have qu:=tP.1 h;have qw:=tP.1 k.symm;rcases q with q|⟨q,q'⟩
   ·rw[<-il q,id1]
    have wy:0<=w.y:=by grind
    have uy:0<=u.y:=by grind
    have a1:=eO (dS h') wy;rcases qu with qu|⟨qu,qu'⟩
    ·have:=b8 k' qu;grind
    ·rcases qw with qw|⟨qw,qw'⟩
     ·have:=b8 h' qw;rw[qu];grind
     ·exfalso
      have hx:v.cross w= -(w.x*v.y):=by unfold ab.cross;rw[qw];grind
      have:=b8 qw' q;grind
   ·exfalso
    have hx:u.cross v= -(v.x*u.y):=by unfold ab.cross;rw[q];grind
    have:=eO (a:=v.x) (b:=u.y) (dS q') (by grind);grind
  ·rw[x] at h k
   have qu:=uk.1 h;have qw:=uk.1 k.symm;rcases q with q|⟨q,q'⟩
   ·have e1:u.cross w* -v.y=u.cross v* -w.y+v.cross w* -u.y:=by grind
    rw[<-il (k:= -v.y) (by grind),e1];have a1:=eO (a:=u.cross v) (b:= -w.y) (dS h') (by grind);rcases qu with qu|⟨qu,qu'⟩
    ·have:=b8 (a:=v.cross w) (b:= -u.y) k' (by grind);grind
    ·rcases qw with qw|⟨qw,qw'⟩
     ·have:=b8 (a:=u.cross v) (b:= -w.y) h' (by grind);rw[qu];grind
     ·exfalso
      have hx:v.cross w= -(-w.x* -v.y):=by unfold ab.cross;rw[qw];grind
      have:=b8 (a:= -w.x) (b:= -v.y) (by grind) (by grind);grind
   ·exfalso
    have hx:u.cross v= -(-v.x* -u.y):=by unfold ab.cross;rw[q];grind
    have:=eO (a:= -v.x) (b:= -u.y) (by grind) (by grind);grind
  ·exact absurd x hv
def Ep(S:List ab)(x:ab):Nat->Nat
 |0=>0
 |k+1=>if 0<ck (S.getD k ⟨0,0⟩) x then Ep S x k else k+1
def X7(S:List ab)(x:ab):List ab:=S.take (Ep S x S.length)++x::S.drop (Ep S x S.length)
def Xp(ds:List ab):List ab:=ds.foldl X7 []
structure aLn (L:List aa):Prop where
 ok: ∀l∈L,l.ok
 cn: ∀l∈L,vD l=false
 nd:L.Pairwise (fun a b=>a≠b)
def QJ{l:aa}(h:l.ok):vD l.canon=false:=by
 have hn:=h.ne;unfold aa.Ne at hn;unfold aa.canon;split
 ·rename_i k
  unfold vD at*;rw[decide_eq_true_eq] at k;rw[decide_eq_false_iff_not];show¬(-l.a<0\/(-l.a=0/\ -l.b<0));omega
 ·rename_i k;simpa using k
def yp{l:aa}(h:l.ok):l.dir.half≠0:=fun e=>by
 have hn:=h.ne;unfold aa.Ne at hn;rcases kA l.dir with⟨k,_⟩|⟨k,_⟩|⟨_,k1,k2⟩
 ·rw[k] at e;cases e
 ·rw[k] at e;cases e
 ·unfold aa.dir at k1 k2
  simp only at k1 k2;apply hn;refine⟨?_,dQ.1 k2⟩;have:(l.a:Rat)=0:=by grind
  exact dQ.1 this
def ZI{d:ab}(h:d.half≠0):(b7 d).half≠0:=by rw[u6 h];have:=ke h;omega
def zV(d:ab):b7 (b7 d)=d:=by unfold b7;cases d;simp
def aAJ{l m:aa}(hl:l.ok)(hm:m.ok)(cl:vD l=false)(cm:vD m=false){p:ab}(h1:l.value p=0)(h2:m.value p=0)(hc:l.dir.cross m.dir=0):l=m:=by
 have key: ∀t,l.value (m.at t)=0:=fun t=>by
  obtain⟨s,rfl⟩:=yN hm.ne h2;rw[lI] at h1⊢;have hk:m.cutK l=0:=by
   unfold aa.cutK;rw[<-vL];exact hc
  rw[hk] at h1⊢;grind
 rcases yj hl hm key with e|e
 ·exact e
 ·exfalso
  have hn:=hm.ne;unfold aa.Ne at hn;rw[e] at cl;unfold vD at cl cm;rw[decide_eq_false_iff_not] at cl cm;have cl: ¬(-m.a<0\/(-m.a=0/\ -m.b<0)):=cl;omega
def Pc{ds:List ab}(h:ds.Pairwise cv)(hd:uH ds){i:Nat}(hi:i<ds.length)(hj:(i+1)%ds.length<ds.length):pC ds ds[i] ds[(i+1)%ds.length]:=by
 have hp:=lN.1 h;have irr: ∀{u v:ab},cv u v-> ¬cv v u:=fun{u v} a b=>by
  unfold cv at a b;rw[gP u v] at b;rcases a with a|⟨a,a'⟩<;>rcases b with b|⟨b,b'⟩
  ·omega
  ·omega
  ·omega
  ·grind
 have ord: ∀{j k:Nat} (a:j<ds.length) (b:k<ds.length),cv ds[j] ds[k]->j<k:=fun{j k} a b q=>by
  rcases rT j k with e|e|e
  ·exact e
  ·subst e;exact absurd q (irr q)
  ·exact absurd (hp k j b a e) (irr q)
 by_cases hl:i+1<ds.length
 ·have e:(i+1)%ds.length=i+1:=fW hl
  simp only[e];refine .inl ⟨hp i (i+1) hi hl (by omega),fun d hd' ⟨q1,q2⟩=>?_⟩;obtain⟨j,hj',rfl⟩:=qK hd';have:=ord hi hj' q1;have:=ord hj' hl q2;omega
 ·have e:(i+1)%ds.length=0:=by rw[show i+1=ds.length by omega];exact Nat.mod_self _
  simp only[e];refine .inr ⟨fun d hd' q=>?_,fun d hd' q=>?_⟩
  ·obtain⟨j,hj',rfl⟩:=qK hd'
   have:=ord hi hj' q;omega
  ·obtain⟨j,hj',rfl⟩:=qK hd'
   have:=ord hj' (by omega) q;omega
end Go.Sx
end
