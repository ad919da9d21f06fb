/- Part 15 of a proof. -/
import Derived.Test.YtopfgminkdfpkaaGreatDoorMx14
set_option linter.unusedSimpArgs false
set_option maxHeartbeats 4000000
set_option maxRecDepth 100000
set_option linter.unusedVariables false
section
namespace Go.Sx
open Go Go.Proofs Tryz
variable {GB:Gh}
def aqT(out:List Rat)(s:IvQ):List Rat:=if s.nh then(if s.nl then out else amc s.lo out) else amc s.hi (if s.nl then out else amc s.lo out)
def aeP(l:List IvQ):List Rat:=l.foldl aqT []
def aye:List IvQ→Rat→Int
 |[],_=>0
 |s::t,x=>
  let a:=if s.nl then 1 else aa0 x s.lo
  let b:=if s.nh then-1 else aa0 x s.hi
  if 0<a∧b<0 then 2 else if(a=0∧b≤0)∨(b=0∧0≤a) then 1 else aye t x
def acU(l:List IvQ)(x:Rat):Bool:=decide (aye l x=2)
def afp(cuts:List Rat)(i:Nat):IvQ:=⟨if i=0 then 0 else cuts.getD (i-1) 0,if i<cuts.length then cuts.getD i 0 else 0,decide (i=0),decide (i=cuts.length)⟩
def amm(v w:IvQ):IvQ:=⟨v.lo,w.hi,v.nl,w.nh⟩
def adf(cuts:List Rat)(marks:List Bool):Nat→List IvQ
 |0=>[]
 |k+1=>
  let out:=adf cuts marks k
  if marks.getD k false then
   (if 0<k∧marks.getD (k-1) false=true then(match out.getLast? with
    |some v=>out.dropLast++[amm v (afp cuts k)]
    |none=>out++[afp cuts k]) else out++[afp cuts k])
  else out
def aoN(cuts:List Rat)(marks:List Bool):List IvQ:=adf cuts marks marks.length
def ahK(op:Int)(x y:Bool):Bool:=if op=2 then x&&y else if op=3 then x&&!y else if op=4 then x !=y else x||y
def ai6(op:Int)(a b:List IvQ):List IvQ:=aoN (aeP (a++b)) ((aaZ (aeP (a++b))).map fun t=>ahK op (acU a t) (acU b t))
def ad8(l m:LnQ)(side:Int):List IvQ:=
 if crossI l m=0 then(if(m.value l.base).num.sign=side then [IvQ.all] else [])
 else if(m.value (l.at (acn l (acM l m)+1))).num.sign=side then [⟨acn l (acM l m),0,false,true⟩] else [⟨0,acn l (acM l m),true,false⟩]
def onB(l m:LnQ):Bool:=decide (crossI l m=0∧(m.value l.base).num.sign=0)
def aa3(f:FrQ)(m:LnQ)(side:Int):List FrQ:=if onB f.l m then [] else(ai6 2 [f.v] (ad8 f.l m side)).map fun v=>⟨f.l,v⟩
theorem akl(l:List IvQ):(aeP l).Pairwise (· < ·)∧ ∀y∈aeP l,∃s∈l,(s.nl=false∧y=s.lo)∨(s.nh=false∧y=s.hi):=by
 have key: ∀(l:List IvQ) (o:List Rat),o.Pairwise (· < ·)→(l.foldl aqT o).Pairwise (· < ·)∧ ∀y∈l.foldl aqT o,y∈o∨ ∃s∈l,(s.nl=false∧y=s.lo)∨(s.nh=false∧y=s.hi):=by
  intro l
  induction l with
  |nil=>intro o h;exact⟨h,fun y hy=> .inl hy⟩
  |cons s t ih=>
   intro o h
   have h1:(aqT o s).Pairwise (· < ·)∧ ∀y∈aqT o s,y∈o∨(s.nl=false∧y=s.lo)∨(s.nh=false∧y=s.hi):=by
    unfold aqT
    cases e1:s.nl<;>cases e2:s.nh<;>simp only[if_true,jZ,if_false]
    ·refine⟨afD (afD h),fun y hy=>?_⟩
     rcases acR.1 hy with h|h
     ·exact .inr (.inr ⟨trivial,h⟩)
     ·rcases acR.1 h with h|h
      ·exact .inr (.inl ⟨trivial,h⟩)
      ·exact .inl h
    ·refine⟨afD h,fun y hy=>?_⟩
     rcases acR.1 hy with h|h
     ·exact .inr (.inl ⟨trivial,h⟩)
     ·exact .inl h
    ·refine⟨afD h,fun y hy=>?_⟩
     rcases acR.1 hy with h|h
     ·exact .inr (.inr ⟨trivial,h⟩)
     ·exact .inl h
    ·exact⟨h,fun y hy=> .inl hy⟩
   obtain⟨k1,k2⟩:=ih (aqT o s) h1.1
   refine⟨k1,fun y hy=>?_⟩
   rcases k2 y hy with h2|⟨q,hq,h2⟩
   ·rcases h1.2 y h2 with h3|h3
    ·exact .inl h3
    ·exact .inr ⟨s,aQ,h3⟩
   ·exact .inr ⟨q,aX _ hq,h2⟩
 have:=key l [] List.Pairwise.nil
 refine⟨this.1,fun y hy=>?_⟩
 rcases this.2 y hy with h|h
 ·cases h
 ·exact h
structure aEV (cuts:List Rat) (v:IvQ):Prop where
 z:IvZ v
 lo:v.nl=true∨v.lo∈cuts
 hi:v.nh=true∨v.hi∈cuts
theorem aAV{cuts:List Rat}{i:Nat}(h:i≤cuts.length):aEV cuts (afp cuts i):=by
 unfold afp
 refine⟨⟨fun e=>?_,fun e=>?_⟩,?_,?_⟩
 ·simp only[decide_eq_true_eq] at e;simp[e]
 ·simp only[decide_eq_true_eq] at e;simp[e]
 ·by_cases h0:i=0
  ·left;simp[h0]
  ·right
   simp only[if_neg h0]
   rw[aK,aZ (by omega)]
   exact cX _
 ·by_cases h0:i=cuts.length
  ·left;simp[h0]
  ·right
   simp only[if_pos (show i<cuts.length by omega)]
   rw[aK,aZ (by omega)]
   exact cX _
theorem apI{cuts:List Rat}{marks:List Bool}: ∀{k:Nat},k≤cuts.length+1→ ∀v∈adf cuts marks k,aEV cuts v
 |0,_,v,hv=>by cases hv
 |k+1,hk,v,hv=>by
  have ih:=apI (cuts:=cuts) (marks:=marks) (k:=k) (by omega)
  have hg:=aAV (cuts:=cuts) (i:=k) (by omega)
  rw[adf] at hv
  split at hv
  ·split at hv
   ·split at hv
    ·rename_i w hw
     rcases bV.1 hv with h|h
     ·exact ih v ((List.dropLast_sublist _).subset h)
     ·rw[aR] at h;subst h
      have hw':=ih w (rY hw)
      exact⟨⟨hw'.z.1,hg.z.2⟩,hw'.lo,hg.hi⟩
    ·rcases bV.1 hv with h|h
     ·exact ih v h
     ·rw[aR] at h;subst h;exact hg
   ·rcases bV.1 hv with h|h
    ·exact ih v h
    ·rw[aR] at h;subst h;exact hg
  ·exact ih v hv
theorem aev{l:List Rat}:(aaZ l).length=l.length+1:=by
 have key: ∀(l:List Rat) (a:Rat),(aeD (a::l)).length=l.length:=by
  intro l
  induction l with
  |nil=>intro a;rfl
  |cons b t ih=>intro a;rw[aeD,bJ,ih b,bJ]
 cases l with
 |nil=>rfl
 |cons a t=>rw[aaZ,bJ,aV,key];simp
theorem awg{op:Int}{a b:List IvQ}: ∀v∈ai6 op a b,aEV (aeP (a++b)) v:=fun v hv=>by
 unfold ai6 aoN at hv
 refine apI ?_ v hv
 rw[aJ,aev];omega
theorem aju{cuts:List Rat}{marks:List Bool}: ∀{k:Nat},(adf cuts marks k).length≤k
 |0=>bZ _
 |k+1=>by
  have ih:=aju (cuts:=cuts) (marks:=marks) (k:=k)
  rw[adf]
  split
  ·split
   ·split
    ·rename_i w hw
     have:=List.length_pos_of_mem (rY hw)
     rw[aV,gR];simp;omega
    ·rw[aV];simp;omega
   ·rw[aV];simp;omega
  ·omega
structure FOk (f:FrQ):Prop where
 lb:LB f.l
 ok:f.l.ok
 z:IvZ f.v
 lo:BQ f.v.lo 1200
 hi:BQ f.v.hi 1200
theorem BQ.zero1200:BQ (0:Rat) 1200:=BQ.mono (k:=1) ⟨by decide,by decide⟩ (by decide)
theorem aoG{l m:LnQ}(hl:LB l)(hm:LB m)(hlo:l.ok){side:Int}: ∀v∈ad8 l m side,IvZ v∧BQ v.lo 1200∧BQ v.hi 1200:=fun v hv=>by
 unfold ad8 at hv
 split at hv
 ·split at hv
  ·rw[aR] at hv;subst hv;exact⟨IvZ.all,BQ.zero1200,BQ.zero1200⟩
  ·cases hv
 ·rename_i hc
  have:=aij hlo.ne hc
  split at hv
  ·rw[aR] at hv;subst hv;exact⟨⟨fun h=>(by cases h),fun _=>rfl⟩,this,BQ.zero1200⟩
  ·rw[aR] at hv;subst hv;exact⟨⟨fun _=>rfl,fun h=>(by cases h)⟩,BQ.zero1200,this⟩
theorem alM{f:FrQ}{m:LnQ}(h:FOk f)(hm:LB m){side:Int}: ∀g∈aa3 f m side,FOk g∧g.l=f.l∧onB f.l m=false:=fun g hg=>by
 unfold aa3 at hg
 split at hg
 ·cases hg
 ·rename_i ho
  obtain⟨v,hv,rfl⟩:=bR.1 hg
  have hi:=awg v hv
  have bd: ∀y∈aeP ([f.v]++ad8 f.l m side),BQ y 1200:=fun y hy=>by
   obtain⟨s,hs,h1⟩:=(akl _).2 y hy
   rcases bV.1 hs with hs|hs
   ·rw[aR] at hs;subst hs
    rcases h1 with⟨_,rfl⟩|⟨_,rfl⟩
    ·exact h.lo
    ·exact h.hi
   ·have:=aoG h.lb hm h.ok s hs
    rcases h1 with⟨_,rfl⟩|⟨_,rfl⟩
    ·exact this.2.1
    ·exact this.2.2
  refine⟨⟨h.lb,h.ok,hi.z,?_,?_⟩,rfl,by simpa using ho⟩
  ·rcases hi.lo with e|e
   ·rw[hi.z.1 e];exact BQ.zero1200
   ·exact bd _ e
  ·rcases hi.hi with e|e
   ·rw[hi.z.2 e];exact BQ.zero1200
   ·exact bd _ e
def ame(acc:PtQ→Bool):Nat→List FrQ→List LnQ→Tr
 |_,[],c=> .leaf (acc (acO c c))
 |0,_::_,_=> .leaf false
 |n+1,f::t,c=> .node f.l (ame acc n ((f::t).flatMap fun g=>aa3 g f.l 1) (c++[f.l])) (ame acc n ((f::t).flatMap fun g=>aa3 g f.l (-1)) (c++[f.l.rev]))
theorem awH{f g:FrQ}{m:LnQ}{side:Int}(h:g∈aa3 f m side):g.l=f.l:=by
 unfold aa3 at h
 split at h
 ·cases h
 ·obtain⟨v,_,rfl⟩:=bR.1 h;rfl
theorem agL{acc:PtQ→Bool}{P:LnQ→Prop}: ∀{n:Nat} {l:List FrQ} {c:List LnQ},(∀f∈l,P f.l)→(ame acc n l c).all P
 |n,[],c,_=>by unfold ame;trivial
 |0,_::_,_,_=>by unfold ame;trivial
 |n+1,f::t,c,h=>by
  rw[ame]
  refine⟨h f aQ,agL fun g hg=>?_,agL fun g hg=>?_⟩<;>
  ·obtain⟨q,hq,hg⟩:=nS.1 hg
   rw[awH hg];exact h q hq
theorem ahq{acc:PtQ→Bool}: ∀{n:Nat} {l:List FrQ} {c:List LnQ},(ame acc n l c).depth≤n
 |n,[],c=>by unfold ame;exact bX _
 |0,_::_,_=>by unfold ame;exact bX _
 |n+1,f::t,c=>by
  rw[ame,Tr.depth]
  have h1:=ahq (acc:=acc) (n:=n) (l:=(f::t).flatMap fun g=>aa3 g f.l 1) (c:=c++[f.l])
  have h2:=ahq (acc:=acc) (n:=n) (l:=(f::t).flatMap fun g=>aa3 g f.l (-1)) (c:=c++[f.l.rev])
  omega
def Few(n:Nat)(l:List FrQ):Prop:= ∃K:List LnQ,K.length≤n∧ ∀f∈l,∃m∈K,m.same f.l
theorem am4{m:LnQ}(hm:m.Ne):m.value m.base=0:=by
 have h:=ai9 hm 0
 rw[←aum,aci] at h
 grind
theorem awR{l m:LnQ}(h:l.same m)(hm:m.Ne):onB m l=true:=by
 unfold onB
 rw[decide_eq_true_iff]
 refine⟨?_,?_⟩
 ·rcases h with rfl|rfl
  ·unfold crossI;omega
  ·unfold crossI LnQ.rev
   show(-l.a)*l.b-l.a*(-l.b)=0
   grind
 ·rw[ab3]
  exact ais h.symm (am4 hm)
theorem Few.split{n:Nat}{f:FrQ}{t:List FrQ}(h:Few (n+1) (f::t))(hok: ∀g∈f::t,FOk g){side:Int}:Few n ((f::t).flatMap fun g=>aa3 g f.l side):=by
 obtain⟨K,hK,hs⟩:=h
 refine⟨K.filter fun m=>!decide (m.same f.l),?_,fun g hg=>?_⟩
 ·obtain⟨m,hm,hm2⟩:=hs f aQ
  have:(K.filter fun m=>!decide (m.same f.l)).length<K.length:=by
   refine oK.2 ⟨m,hm,by simp[hm2]⟩
  omega
 ·obtain⟨q,hq,hg⟩:=nS.1 hg
  obtain⟨_,e,ho⟩:=alM (hok q hq) (hok f aQ).lb g hg
  obtain⟨m,hm,hm2⟩:=hs q hq
  refine⟨m,kQ.2 ⟨hm,?_⟩,by rw[e];exact hm2⟩
  simp only[gX,decide_eq_false_iff_not]
  intro h
  have:=awR (h.symm.trans hm2) (hok q hq).ok.ne
  rw[this] at ho;cases ho
theorem aBm{p q r:Bool}{a b c:Nat}(h:Nat.gcd a b≠0):LnQ.ok ⟨zv p (a/Nat.gcd (Nat.gcd a b) c),zv q (b/Nat.gcd (Nat.gcd a b) c),zv r (c/Nat.gcd (Nat.gcd a b) c)⟩:=by
 have hg:0<Nat.gcd (Nat.gcd a b) c:=nT _ (jX h)
 have d0:Nat.gcd (Nat.gcd a b) c∣Nat.gcd a b:=rZ _ _
 have d1:Nat.gcd (Nat.gcd a b) c∣a:=Nat.dvd_trans d0 (rZ _ _)
 have d2:Nat.gcd (Nat.gcd a b) c∣b:=Nat.dvd_trans d0 (qT _ _)
 have d3:Nat.gcd (Nat.gcd a b) c∣c:=qT _ _
 refine⟨?_,?_⟩
 ·rintro ⟨h1,h2⟩
  have h1':=congrArg Int.natAbs h1
  have h2':=congrArg Int.natAbs h2
  simp only[af5,kZ] at h1' h2'
  have e1:=Nat.div_mul_cancel d1
  have e2:=Nat.div_mul_cancel d2
  rw[h1',jM] at e1
  rw[h2',jM] at e2
  exact h (by rw[←e1,←e2];rfl)
 ·simp only[af5]
  rw[Nat.gcd_div d1 d2,Nat.gcd_div d0 d3,Nat.div_self hg]
theorem au1(p:Bool)(a g:Nat):(zv p (a/g)).natAbs≤a:=by rw[af5];exact jN ..
theorem PF.eq{P:Program}{f:FuncId}{vs:List DV}{r r':DV}(h:PF GB P f vs r)(e:r=r'):PF GB P f vs r':=e▸h
def iP(m n:Int):PtQ:=⟨(m:Rat),(n:Rat)⟩
theorem aEk{m:Int}{k:Nat}(h:m.natAbs<2^k):BI m k:=⟨h⟩
theorem biC{m:Int}{k:Nat}(h:m.natAbs≤1000)(hk:10≤k):BI m k:=⟨cN (show m.natAbs<2^10 by omega) (bW (by decide) hk)⟩
instance BPt.int (m n:Int) (i:Nat) [h:BI m i] [k:BI n i]:BPt (iP m n) (i+1):=⟨inferInstanceAs (BQ (m:Rat) (i+1)),inferInstanceAs (BQ (n:Rat) (i+1))⟩
theorem eQI{q:Rat}{k:Int}(h:q=(k:Rat)):eQ q=eQ (k:Rat):=by rw[h]
theorem ePI{p:PtQ}{m n:Int}(h1:p.x=(m:Rat))(h2:p.y=(n:Rat)):eP p=eP (iP m n):=by
 obtain⟨x,y⟩:=p
 simp only at h1 h2
 subst h1 h2
 rfl
def mkL(a b c:Int):LnQ:=
 ⟨zv (decide (a<0)) (a.natAbs/Nat.gcd (Nat.gcd a.natAbs b.natAbs) c.natAbs),zv (decide (b<0)) (b.natAbs/Nat.gcd (Nat.gcd a.natAbs b.natAbs) c.natAbs),zv (decide (c<0)) (c.natAbs/Nat.gcd (Nat.gcd a.natAbs b.natAbs) c.natAbs)⟩
theorem ayH{a b c:Int}(h: ¬(a=0∧b=0)):(mkL a b c).ok:=
 aBm fun e=>h ⟨qZ.1 (Nat.eq_zero_of_gcd_eq_zero_left e),qZ.1 (Nat.eq_zero_of_gcd_eq_zero_right e)⟩
theorem ayk(a b c:Int):(mkL a b c).a.natAbs≤a.natAbs∧(mkL a b c).b.natAbs≤b.natAbs∧(mkL a b c).c.natAbs≤c.natAbs:=⟨au1 ..,au1 ..,au1 ..⟩
theorem aqj{m n:Int}(hm:m.natAbs≤1000)(hn:n.natAbs≤1000):PF GB prog 78 [.v (.int .i64 m), .v (.int .i64 n)] (eP (iP m n)):=by
 refine fn func78 J J ntmps78 J J (fun C=>?_)
 refine cl rfl (alw (n:=m) (by omega) (by omega)) rfl<|cl rfl (alw (n:=n) (by omega) (by omega)) rfl<|?_
 exact rz J J
theorem apO{m n m' n' k:Int}(hm:m.natAbs≤1000)(hn:n.natAbs≤1000)(hm':m'.natAbs≤1000)(hn':n'.natAbs≤1000)(hk:k.natAbs≤1000):PF GB prog 100 [eP (iP m n),eQ (k:Rat),eP (iP m' n')] (eP (iP (m+k*m') (n+k*n'))):=by
 haveI:=biC (k:=10) hm (by decide)
 haveI:=biC (k:=10) hn (by decide)
 haveI:=biC (k:=10) hm' (by decide)
 haveI:=biC (k:=10) hn' (by decide)
 haveI:=biC (k:=10) hk (by decide)
 exact PF.eq (amw (p:=iP m n) (q:=iP m' n') (c:=(k:Rat))) (ePI (by show(m:Rat)+(k:Rat)*(m':Rat)=_;push_cast;rfl) (by show(n:Rat)+(k:Rat)*(n':Rat)=_;push_cast;rfl))
theorem aDt{m n m' n':Int}(hm:m.natAbs≤1000)(hn:n.natAbs≤1000)(hm':m'.natAbs≤1000)(hn':n'.natAbs≤1000):PF GB prog 155 [eP (iP m n),eP (iP m' n')] (eP (iP (m-m') (n-n'))):=by
 refine fn func155 J J ntmps155 J J (fun C=>?_)
 refine cl rfl (alw (n:= -1) (by decide) (by decide)) rfl<|cl rfl (apO (m:=m) (n:=n) (m':=m') (n':=n') (k:= -1) hm hn hm' hn' (by decide)) rfl<|?_
 exact rz rfl (by rw[show m-m'=m+ -1*m' by omega,show n-n'=n+ -1*n' by omega];rfl)
theorem al8{m n m' n':Int}(hm:m.natAbs≤1000)(hn:n.natAbs≤1000)(hm':m'.natAbs≤1000)(hn':n'.natAbs≤1000):PF GB prog 175 [eP (iP m n),eP (iP m' n')] (.v (.bool (decide (m=m'∧n=n')))):=by
 haveI:=biC (k:=10) hm (by decide)
 haveI:=biC (k:=10) hn (by decide)
 haveI:=biC (k:=10) hm' (by decide)
 haveI:=biC (k:=10) hn' (by decide)
 refine fn func175 J J ntmps175 J J (fun C=>?_)
 refine cl rfl (q_C (a:=(m:Rat)) (b:=(m':Rat))) rfl<|?_
 refine cs 11 J J J (fun hg11=>?_) (fun hg11=>?_)
 ·
  refine cl rfl (q_C (a:=(n:Rat)) (b:=(n':Rat))) rfl<|?_
  exact rz rfl (by rw[aeT] at hg11;have e:m=m':=(by exact_mod_cast hg11);exact congrArg (fun z=>DV.v (.bool z)) (decide_eq_decide.2 (by rw[aeT,mU];simp[e])))
 ·
  exact rz rfl (by rw[aeT] at hg11;have e: ¬m=m':=(fun e=>hg11 (by rw[e]));show DV.v (.bool false)=DV.v (.bool _);rw[decide_eq_false (fun h=>e h.1)])
theorem aun{a b k:Nat}(ha:a<k)(hb:b<k):Nat.gcd a b<k:=by
 rcases eK a with rfl|p
 ·simpa using hb
 ·exact fY (Nat.gcd_le_left b p) ha
theorem ayQ{a b c:Int}{i:Nat}(ha:BI a i)(hb:BI b i)(hc:BI c i)(hi:i≤100000000)(h0: ¬(a=0∧b=0)):PF GB prog 158 [eI a,eI b,eI c] (.tp [eL (mkL a b c), .v (.bool true)]):=by
 have hgn:Nat.gcd a.natAbs b.natAbs≠0:=fun h=>h0 ⟨qZ.1 (Nat.eq_zero_of_gcd_eq_zero_left h),qZ.1 (Nat.eq_zero_of_gcd_eq_zero_right h)⟩
 have hgp:0<Nat.gcd (Nat.gcd a.natAbs b.natAbs) c.natAbs:=nT _ (jX hgn)
 haveI hb1:BN (Nat.gcd a.natAbs b.natAbs) i:=⟨aun ha.h hb.h⟩
 haveI hb2:BN (Nat.gcd (Nat.gcd a.natAbs b.natAbs) c.natAbs) i:=⟨aun hb1.h hc.h⟩
 refine fn func158 J J ntmps158 J J (fun C=>?_)
 refine cl rfl (alJ (a:=a.natAbs) (b:=b.natAbs) (by omega) (by omega)) rfl<|?_
 refine br J J J (fun hc22=>?_) (fun hc22=>?_)
 ·
  exact absurd hc22 (by rw[aJ];intro h;exact hgn (acx.1 (by omega)))
 ·
  refine cl rfl (alJ (a:=Nat.gcd a.natAbs b.natAbs) (b:=c.natAbs) (by omega) (by omega)) rfl<|cl rfl (afQ (a:=a.natAbs) (b:=Nat.gcd (Nat.gcd a.natAbs b.natAbs) c.natAbs) hgp (by omega) (by omega)) rfl<|?_
  refine cl rfl (afQ (a:=b.natAbs) (b:=Nat.gcd (Nat.gcd a.natAbs b.natAbs) c.natAbs) hgp (by omega) (by omega)) rfl<|cl rfl (afQ (a:=c.natAbs) (b:=Nat.gcd (Nat.gcd a.natAbs b.natAbs) c.natAbs) hgp (by omega) (by omega)) rfl<|?_
  refine cl rfl (acW (m:=a.natAbs/(Nat.gcd (Nat.gcd a.natAbs b.natAbs) c.natAbs)) (neg:=decide (a<0))) rfl<|cl rfl (acW (m:=b.natAbs/(Nat.gcd (Nat.gcd a.natAbs b.natAbs) c.natAbs)) (neg:=decide (b<0))) rfl<|?_
  refine cl rfl (acW (m:=c.natAbs/(Nat.gcd (Nat.gcd a.natAbs b.natAbs) c.natAbs)) (neg:=decide (c<0))) rfl<|?_
  exact rz J J
def au5(n n':Int):Int:= -(n'-n)
def au2(m m':Int):Int:=m'-m
def azw(m n m' n':Int):Int:= -(au5 n n'*m+au2 m m'*n)
def aqp(m n m' n':Int):LnQ:=mkL (au5 n n') (au2 m m') (azw m n m' n')
theorem afC{a b:Int}(ha:a.natAbs≤2000)(hb:b.natAbs≤1000):(a*b).natAbs≤2000000:=by
 rw[iY];exact gM ha hb
theorem ajp{m n m' n':Int}(hm:m.natAbs≤1000)(hn:n.natAbs≤1000)(hm':m'.natAbs≤1000)(hn':n'.natAbs≤1000)(h0: ¬(m=m'∧n=n')):PF GB prog 77 [eP (iP m n),eP (iP m' n')] (.tp [eL (aqp m n m' n'), .v (.bool true)]):=by
 obtain⟨a,hA⟩: ∃a,a=au5 n n':=⟨_,rfl⟩
 obtain⟨b,hB⟩: ∃b,b=au2 m m':=⟨_,rfl⟩
 have hA':a= -(n'-n):=hA
 have hB':b=m'-m:=hB
 obtain⟨c,hC⟩: ∃c,c= -(a*m+b*n):=⟨_,rfl⟩
 have e1:=afC (a:=a) (b:=m) (by omega) hm
 have e2:=afC (a:=b) (b:=n) (by omega) hn
 haveI hm0:=biC (k:=10) hm (by decide)
 haveI hn0:=biC (k:=10) hn (by decide)
 haveI ha:BI a 30:=aEk (by omega)
 haveI hb:BI b 30:=aEk (by omega)
 haveI hc:BI c 30:=aEk (by omega)
 have hthr:aqp m n m' n'=mkL a b c:=by rw[hC,hA,hB];rfl
 have hne: ¬(a=0∧b=0):=fun h=>h0 (by omega)
 refine fn func77 J J ntmps77 J J (fun C=>?_)
 refine cl rfl (aDt (m:=m') (n:=n') (m':=m) (n':=n) hm' hn' hm hn) rfl<|cl rfl (PF.eq (amU (q:=(((n'-n):Int):Rat))) (eQI (k:=a) (by rw[hA'];push_cast;rfl))) rfl<|?_
 refine cl rfl (PF.eq (abj (a:=(a:Rat)) (b:=(m:Rat))) (eQI (k:=a*m) (by push_cast;rfl))) rfl<|cl rfl (PF.eq (by haveI:BI (m'-m) 30:=(by rw[←hB'];exact hb);exact abj (a:=(((m'-m):Int):Rat)) (b:=(n:Rat))) (eQI (k:=b*n) (by rw[hB'];push_cast;rfl))) rfl<|?_
 refine cl rfl (PF.eq (ad0 (a:=((a*m:Int):Rat)) (b:=((b*n:Int):Rat))) (eQI (k:=a*m+b*n) (by push_cast;rfl))) rfl<|cl rfl (PF.eq (amU (q:=((a*m+b*n:Int):Rat))) (eQI (k:=c) (by rw[hC];push_cast;rfl))) rfl<|?_
 refine cl rfl (afb (q:=(a:Rat))) rfl<|cl rfl (afb (q:=(((m'-m):Int):Rat))) rfl<|cl rfl (PF.eq (acl (a:=1) (b:=1)) rfl) rfl<|?_
 refine cl rfl (afb (q:=(c:Rat))) rfl<|cl rfl (PF.eq (acl (a:=1) (b:=1)) rfl) rfl<|cl (fu:=⟨1⟩) rfl (acW (neg:=false) (m:=1)) rfl<|?_
 refine eqF 40 (.d (eQ ((1:Int):Rat))) J J ?_
 refine gx rfl<|cl rfl (PF.eq (abj (a:=(a:Rat)) (b:=((1:Int):Rat))) (eQI (k:=a) (by push_cast;grind))) rfl<|cl rfl (PF.eq (by haveI:BI (m'-m) 30:=(by rw[←hB'];exact hb);exact abj (a:=(((m'-m):Int):Rat)) (b:=((1:Int):Rat))) (eQI (k:=b) (by rw[hB'];push_cast;grind))) rfl<|?_
 refine cl rfl (PF.eq (abj (a:=(c:Rat)) (b:=((1:Int):Rat))) (eQI (k:=c) (by push_cast;grind))) rfl<|cl rfl (ayQ (a:=a) (b:=b) (c:=c) ha hb hc (by decide) hne) rfl<|?_
 exact rz rfl (by rw[hthr];rfl)
theorem awB{es:List Int}{a:Nat}(h:a<es.length):(es.map vI)[(a:Int).toNat]? =some (vI es[a]):=by simp[h]
theorem avi:eP (iP 0 0)= .ag [.v (.bool false), .sl [], .sl [], .v (.bool false), .sl [], .sl []]:=by
 unfold eP iP
 simp[adp,dD]
theorem aDj{m n p q:Int}(hm:m.natAbs≤4)(hn:n.natAbs≤4)(hp:p.natAbs≤4)(hq:q.natAbs≤4)(h: ¬(p=0∧q=0)):LS (aqp m n (m+1*p) (n+1*q)):=by
 have e1:au5 n (n+1*q)= -q:=by unfold au5;omega
 have e2:au2 m (m+1*p)=p:=by unfold au2;omega
 have e3:((-q)*m).natAbs≤4*4:=by rw[iY];exact gM (by omega) hm
 have e4:(p*n).natAbs≤4*4:=by rw[iY];exact gM hp hn
 have e5:azw m n (m+1*p) (n+1*q)= -((-q)*m+p*n):=by unfold azw;rw[e1,e2]
 unfold aqp
 obtain⟨k1,k2,k3⟩:=ayk (au5 n (n+1*q)) (au2 m (m+1*p)) (azw m n (m+1*p) (n+1*q))
 exact⟨ayH (by rw[e1,e2];omega),cV k1 (by rw[e1];omega),cV k2 (by rw[e2];omega),cV k3 (by rw[e5];omega)⟩
def aaf(es:List Int)(n:Int)(a:Nat):Nat×Nat:=
 if h:a<es.length then((if Int.tmod es[a] n<0 then Int.tmod es[a] n+n else Int.tmod es[a] n).toNat,a+1) else(0,a)
theorem abB{es:List Int}{n:Int}{a:Nat}(hn:1≤n):((aaf es n a).1:Int)<n:=by
 unfold aaf
 split
 ·rename_i h
  have q2:=Int.tmod_lt_of_pos es[a] (show 0<n by omega)
  dsimp only
  split<;>omega
 ·exact hn
theorem aaB{es:List Int}{n:Int}{a:Nat}(ha:a≤es.length):(aaf es n a).2≤es.length:=by
 unfold aaf
 split
 ·assumption
 ·exact ha
def pF(es:List Int)(a:Nat):(Int×Int)×Nat:=((((aaf es 9 a).1:Int)-4,((aaf es 9 (aaf es 9 a).2).1:Int)-4),(aaf es 9 (aaf es 9 a).2).2)
theorem ann{es:List Int}{a:Nat}(ha:a≤es.length):(pF es a).1.1.natAbs≤4∧(pF es a).1.2.natAbs≤4∧(pF es a).2≤es.length:=by
 have h1:=abB (es:=es) (n:=9) (a:=a) (by decide)
 have h2:=abB (es:=es) (n:=9) (a:=(aaf es 9 a).2) (by decide)
 have h3:=aaB (n:=9) (aaB (es:=es) (n:=9) ha)
 unfold pF
 exact⟨by dsimp only;omega,by dsimp only;omega,h3⟩
def vF(es:List Int)(a:Nat):(Int×Int)×Nat:=if(pF es a).1.1=0∧(pF es a).1.2=0 then((1,0),(pF es a).2) else pF es a
theorem arn{es:List Int}{a:Nat}(ha:a≤es.length):(vF es a).1.1.natAbs≤4∧(vF es a).1.2.natAbs≤4∧ ¬((vF es a).1.1=0∧(vF es a).1.2=0)∧(vF es a).2≤es.length:=by
 obtain⟨h1,h2,h3⟩:=ann ha
 unfold vF
 split
 ·exact⟨show(1:Int).natAbs≤4 by decide,show(0:Int).natAbs≤4 by decide,show¬((1:Int)=0∧(0:Int)=0) by decide,h3⟩
 ·rename_i h;exact⟨h1,h2,h,h3⟩
def lF(es:List Int)(a:Nat):LnQ×Nat:=(aqp (pF es a).1.1 (pF es a).1.2 ((pF es a).1.1+1*(vF es (pF es a).2).1.1) ((pF es a).1.2+1*(vF es (pF es a).2).1.2),(vF es (pF es a).2).2)
theorem aq1{es:List Int}{a:Nat}(ha:a≤es.length):LS (lF es a).1∧(lF es a).2≤es.length:=by
 obtain⟨h1,h2,h3⟩:=ann ha
 obtain⟨k1,k2,k3,k4⟩:=arn h3
 exact⟨aDj h1 h2 k1 k2 k3,k4⟩
def aa8(es:List Int):Nat→Nat→Tr×Nat
 |0,a=>(.leaf (decide (((aaf es 2 a).1:Int)=1)),(aaf es 2 a).2)
 |d+1,a=>if((aaf es 4 a).1:Int)=0 then(.leaf (decide (((aaf es 2 (aaf es 4 a).2).1:Int)=1)),(aaf es 2 (aaf es 4 a).2).2) else
  (.node (lF es (aaf es 4 a).2).1 (aa8 es d (lF es (aaf es 4 a).2).2).1 (aa8 es d (aa8 es d (lF es (aaf es 4 a).2).2).2).1,(aa8 es d (aa8 es d (lF es (aaf es 4 a).2).2).2).2)
theorem agO{es:List Int}: ∀{d a:Nat},a≤es.length→(aa8 es d a).1.depth≤d∧(aa8 es d a).1.all LnQ.ok∧(aa8 es d a).1.all (fun l=>BL l 96)∧(aa8 es d a).2≤es.length
 |0,a,ha=>⟨bX _,trivial,trivial,aaB ha⟩
 |d+1,a,ha=>by
  have h4:=aaB (n:=4) ha
  unfold aa8
  split
  ·exact⟨bX _,trivial,trivial,aaB h4⟩
  ·obtain⟨hl,h5⟩:=aq1 h4
   obtain⟨d1,o1,b1,h6⟩:=agO (d:=d) h5
   obtain⟨d2,o2,b2,h7⟩:=agO (d:=d) h6
   exact⟨by show 1+max _ _≤_;omega,⟨hl.ok,o1,o2⟩,⟨hl.bl,b1,b2⟩,h7⟩
theorem abW{b:Nat}{es:List Int}(hes:es.length≤400){a:Nat}(ha:a≤es.length){n:Int}(hn:1≤n)(hn2:n≤1000):PM GB prog 42 (mkP [none,some (.v (.int .i64 n))] b) b 94 [.sl (es.map vI), .v (.int .i64 (a:Nat))] (.v (.int .i64 ((aaf es n a).1:Nat))) [.sl (es.map vI), .v (.int .i64 ((aaf es n a).2:Nat))]:=by
 have hel:(es.map vI).length=es.length:=by simp
 refine fnM func42 J J ntmps42 J J (fun C b m lo hmb=>?_)
 refine br J J J (fun hc15=>?_) (fun hc15=>?_)
 ·
  have hf:aaf es n a=(0,a):=by unfold aaf;rw[dif_neg (by omega)]
  exact rzM hmb J J (by rw[hf]<;>rfl) (by rw[hf]<;>rfl)
 ·
  have hal:a<es.length:=by omega
  obtain⟨e,he⟩: ∃e,e=es[a]:=⟨_,rfl⟩
  have q2:=Int.tmod_lt_of_pos e (show 0<n by omega)
  have q3: -n<Int.tmod e n:=by have:=Int.lt_tmod_of_pos e (show 0<n by omega);omega
  refine ix (fu:=⟨1⟩) _ rfl (awB hal) rfl<|?_
  refine eqF 25 (.d (vI e)) rfl (by rw[he]<;>rfl) ?_
  refine gx (hv:=by simp only[aai];exact⟨⟨by omega,by kernel_rfl⟩,by omega⟩) rfl<|?_
  refine br J J J (fun hc36=>?_) (fun hc36=>?_)
  ·
   have hf:aaf es n a=((Int.tmod e n+n).toNat,a+1):=by unfold aaf;rw[dif_pos hal,←he,if_pos hc36]
   exact rzM hmb J J (by rw[hf];show DV.v (.int .i64 _)=DV.v (.int .i64 _);rw[pZ (by omega)]) (by rw[hf]<;>rfl)
  ·
   have hf:aaf es n a=((Int.tmod e n).toNat,a+1):=by unfold aaf;rw[dif_pos hal,←he,if_neg hc36]
   exact rzM hmb J J (by rw[hf];show DV.v (.int .i64 _)=DV.v (.int .i64 _);rw[pZ (by omega)]) (by rw[hf]<;>rfl)
theorem aD1{b:Nat}{es:List Int}(hes:es.length≤400){a:Nat}(ha:a≤es.length):PM GB prog 99 (mkP [none] b) b 94 [.sl (es.map vI), .v (.int .i64 (a:Nat))] (eP (iP (pF es a).1.1 (pF es a).1.2)) [.sl (es.map vI), .v (.int .i64 ((pF es a).2:Nat))]:=by
 have h1:=abB (es:=es) (n:=9) (a:=a) (by decide)
 have h2:=abB (es:=es) (n:=9) (a:=(aaf es 9 a).2) (by decide)
 refine fnM func99 J J ntmps99 J J (fun C b m lo hmb=>?_)
 refine cm rfl (fun b=>(abW (n:=9) hes ha (by decide) (by decide))) rfl<|cm rfl (fun b=>(abW (n:=9) hes (aaB ha) (by decide) (by decide))) rfl<|?_
 refine cl rfl (aqj (m:=((aaf es 9 a).1:Int)-4) (n:=((aaf es 9 (aaf es 9 a).2).1:Int)-4) (by omega) (by omega)) rfl<|?_
 exact rzM hmb J J J J
theorem aFl{b:Nat}{es:List Int}(hes:es.length≤400){a:Nat}(ha:a≤es.length):PM GB prog 102 (mkP [none] b) b 94 [.sl (es.map vI), .v (.int .i64 (a:Nat))] (eP (iP (vF es a).1.1 (vF es a).1.2)) [.sl (es.map vI), .v (.int .i64 ((vF es a).2:Nat))]:=by
 obtain⟨hm,hn,ha1⟩:=ann ha
 refine fnM func102 J J ntmps102 J J (fun C b m lo hmb=>?_)
 refine cm (fu:=⟨9⟩) rfl (fun b=>(aD1 hes ha)) rfl<|?_
 refine eqF 7 (.d (eP (iP 0 0))) rfl (by rw[avi]<;>rfl) ?_
 refine gx rfl<|cl rfl (al8 (m:=(pF es a).1.1) (n:=(pF es a).1.2) (m':=0) (n':=0) (by omega) (by omega) (by decide) (by decide)) rfl<|?_
 refine bd J J J (fun hc8=>?_) (fun hc8=>?_)
 ·
  have hf:vF es a=((1,0),(pF es a).2):=by unfold vF;rw[if_pos hc8]
  refine cl rfl (aqj (m:=1) (n:=0) (by decide) (by decide)) rfl<|?_
  exact rzM hmb J J (by rw[hf]<;>rfl) (by rw[hf])
 ·
  have hf:vF es a=pF es a:=by unfold vF;rw[if_neg hc8]
  exact rzM hmb J J (by rw[hf]<;>rfl) (by rw[hf])
theorem aD9{b:Nat}{es:List Int}(hes:es.length≤400){a:Nat}(ha:a≤es.length):PM GB prog 43 (mkP [none] b) b 94 [.sl (es.map vI), .v (.int .i64 (a:Nat))] (eL (lF es a).1) [.sl (es.map vI), .v (.int .i64 ((lF es a).2:Nat))]:=by
 obtain⟨hm,hn,ha1⟩:=ann ha
 obtain⟨hp,hq,hz,ha2⟩:=arn ha1
 refine fnM func43 J J ntmps43 J J (fun C b m lo hmb=>?_)
 refine cm rfl (fun b=>(aD1 hes ha)) rfl<|cl rfl (alw (n:=1) (by decide) (by decide)) rfl<|cm rfl (fun b=>(aFl hes ha1)) rfl<|cl rfl (apO (m:=(pF es a).1.1) (n:=(pF es a).1.2) (m':=(vF es (pF es a).2).1.1) (n':=(vF es (pF es a).2).1.2) (k:=1) (by omega) (by omega) (by omega) (by omega) (by decide)) rfl<|?_
 refine cl rfl (ajp (m:=(pF es a).1.1) (n:=(pF es a).1.2) (m':=(pF es a).1.1+1*(vF es (pF es a).2).1.1) (n':=(pF es a).1.2+1*(vF es (pF es a).2).1.2) (by omega) (by omega) (by omega) (by omega) (by omega)) rfl<|?_
 exact rzM hmb J J J J
theorem acy{p:Bool}:PF GB prog 14 [.v (.bool p)] (eT (.leaf p)):=by
 refine fn func14 J J ntmps14 J J (fun C=>?_)
 refine fzE 5 rfl ?_
 exact rz J J
theorem anU{b:Nat}{es:List Int}(hes:es.length≤400){a:Nat}(ha:a≤es.length){n:Int}(hn:n=0):PM GB prog 21 (mkP [none,some (.v (.int .i64 n))] b) b 94 [.sl (es.map vI), .v (.int .i64 (a:Nat))] (eT (aa8 es 0 a).1) [.sl (es.map vI), .v (.int .i64 ((aa8 es 0 a).2:Nat))]:=by
 refine fnM (fu:=⟨10⟩) func21 J J ntmps21 J J (fun C b m lo hmb=>?_)
 refine kT 8 rfl (by omega) ?_
 refine gx rfl<|cm rfl (fun b=>(abW (n:=2) hes ha (by decide) (by decide))) rfl<|cl rfl (acy (p:=decide (((aaf es 2 a).1:Int)=1))) rfl<|?_
 exact rzM hmb J J J J
theorem anS{b:Nat}{es:List Int}(hes:es.length≤400){a:Nat}(ha:a≤es.length){d:Nat}{n:Int}(hn:n=((d+1:Nat):Int))(hd:d≤100)(ih: ∀{GB:Gh} {b a:Nat} {n:Int},a≤es.length→n=(d:Int)→PM GB prog 21 (mkP [none,some (.v (.int .i64 n))] b) b 94 [.sl (es.map vI), .v (.int .i64 (a:Nat))] (eT (aa8 es d a).1) [.sl (es.map vI), .v (.int .i64 ((aa8 es d a).2:Nat))]):PM GB prog 21 (mkP [none,some (.v (.int .i64 n))] b) b 94 [.sl (es.map vI), .v (.int .i64 (a:Nat))] (eT (aa8 es (d+1) a).1) [.sl (es.map vI), .v (.int .i64 ((aa8 es (d+1) a).2:Nat))]:=by
 have h4:=aaB (n:=4) ha
 obtain⟨hl,h5⟩:=aq1 h4
 have h6:=(agO (d:=d) h5).2.2.2
 refine fnM (fu:=⟨10⟩) func21 J J ntmps21 J J (fun C b m lo hmb=>?_)
 refine kF 8 rfl (by omega) ?_
 refine gx rfl<|cm rfl (fun b=>(abW (n:=4) hes ha (by decide) (by decide))) rfl<|?_
 refine br J J J (fun hc13=>?_) (fun hc13=>?_)
 ·
  have hf:aa8 es (d+1) a=_:=if_pos hc13
  refine cm rfl (fun b=>(abW (n:=2) hes h4 (by decide) (by decide))) rfl<|cl rfl (acy (p:=decide (((aaf es 2 (aaf es 4 a).2).1:Int)=1))) rfl<|?_
  exact rzM hmb J J (by rw[hf]<;>rfl) (by rw[hf])
 ·
  have hf:aa8 es (d+1) a=_:=if_neg hc13
  refine cm rfl (fun b=>(aD9 hes h4)) rfl<|cm rfl (fun b=>(ih h5 (by omega))) rfl<|cm rfl (fun b=>(ih h6 (by omega))) rfl<|?_
  refine fzE 31 rfl ?_
  exact rzM hmb J J (by rw[hf]<;>rfl) (by rw[hf])
theorem asz{es:List Int}(hes:es.length≤400): ∀{d:Nat} {GB:Gh} {b a:Nat} {n:Int},d≤100→a≤es.length→n=(d:Int)→PM GB prog 21 (mkP [none,some (.v (.int .i64 n))] b) b 94 [.sl (es.map vI), .v (.int .i64 (a:Nat))] (eT (aa8 es d a).1) [.sl (es.map vI), .v (.int .i64 ((aa8 es d a).2:Nat))]
 |0,_,_,_,_,_,ha,hn=>anU hes ha hn
 |d+1,_,_,_,_,hd,ha,hn=>anS hes ha hn (by omega) (fun h1 h2=>asz hes (by omega) h1 h2)
theorem alQ{es:List Int}(hes:es.length≤400){a d b:Nat}(ha:a≤es.length)(hd:d≤100):PM GB prog 21 (mkP [none,some (.v (.int .i64 (d:Nat)))] b) b 94 [.sl (es.map vI), .v (.int .i64 (a:Nat))] (eT (aa8 es d a).1) [.sl (es.map vI), .v (.int .i64 ((aa8 es d a).2:Nat))]:=asz (GB:=GB) hes hd ha rfl
abbrev ZP:=Int×Int
def ZP.q(p:ZP):PtQ:=iP p.1 p.2
def ZP.le(k:Nat)(p:ZP):Prop:=p.1.natAbs≤k∧p.2.natAbs≤k
def aDV(p q:ZP):ZP:=(p.1+1*q.1,p.2+1*q.2)
def ajS(u v:ZP):Int:=u.1*v.2-u.2*v.1
theorem ax2{m n p q:Int}(hm:m.natAbs≤1000)(hn:n.natAbs≤1000)(hp:p.natAbs≤1000)(hq:q.natAbs≤1000)(h: ¬(p=m∧q=n)):LB (aqp m n p q)∧(aqp m n p q).ok:=by
 have e1:(au5 n q).natAbs≤2000:=by unfold au5;omega
 have e2:(au2 m p).natAbs≤2000:=by unfold au2;omega
 have e3:=afC e1 hm
 have e4:=afC e2 hn
 have e5:(azw m n p q).natAbs≤4000000:=by unfold azw;omega
 unfold aqp
 obtain⟨k1,k2,k3⟩:=ayk (au5 n q) (au2 m p) (azw m n p q)
 have hb:(2:Nat)^96=79228162514264337593543950336:=by decide
 refine⟨⟨⟨?_,?_,?_⟩⟩,ayH ?_⟩
 ·rw[hb];omega
 ·rw[hb];omega
 ·rw[hb];omega
 ·unfold au5 au2;omega
def avu(v w:ZP):FrQ:=⟨aqp v.1 v.2 w.1 w.2,⟨acn (aqp v.1 v.2 w.1 w.2) v.q,acn (aqp v.1 v.2 w.1 w.2) w.q,false,false⟩⟩
def afX(r:List ZP)(i:Nat):ZP:=r.getD ((i+1)%r.length) (0,0)
def agZ(r:List ZP):Nat→List FrQ
 |0=>[]
 |k+1=>agZ r k++[avu (r.getD k (0,0)) (afX r k)]
def adk(r:List ZP):List FrQ:=agZ r r.length
structure aby (r:List ZP):Prop where
 n3:3≤r.length
 n6:r.length≤6
 le: ∀p∈r,ZP.le 100 p
 ne: ∀i<r.length,r.getD i (0,0)≠afX r i
theorem ail{r:List ZP}{i:Nat}(h:i<r.length):r.getD i (0,0)∈r:=by
 rw[aK,aZ h];exact cX h
theorem aiV{r:List ZP}{i:Nat}(h:i<r.length):afX r i∈r:=ail (dX _ (by omega))
theorem amF{l:LnQ}(hl:LB l)(ho:l.ok){m n:Int}(hm:m.natAbs≤1000)(hn:n.natAbs≤1000):BQ (acn l (iP m n)) 1200:=by
 haveI:=biC (k:=11) hm (by decide)
 haveI:=biC (k:=11) hn (by decide)
 have hd:=an0 ho.ne
 have hA:BI (l.a*l.a+l.b*l.b) _:=inferInstance
 have hB:BI (m*l.b-n*l.a) _:=inferInstance
 have hA':=apW (j:=1200) hA (by decide)
 have hB':=apW (j:=1200) hB (by decide)
 have e1:l.dir.dot l.dir=((l.a*l.a+l.b*l.b:Int):Rat):=by
  rw[pS,eJ,eJ]
  simp only[LnQ.dir,PtQ.dot];grind
 have e2:(iP m n).dot l.dir=((m*l.b-n*l.a:Int):Rat):=by
  rw[pR,eJ,eJ]
  simp only[LnQ.dir,PtQ.dot,iP];grind
 have hd':((0:Int):Rat)<((l.a*l.a+l.b*l.b:Int):Rat):=by rw[←e1];exact hd
 unfold acn
 rw[e2,e1]
 clear hA hB e1 e2
 generalize l.a*l.a+l.b*l.b=D at*
 generalize m*l.b-n*l.a=M at*
 have hD:0<D:=Rat.intCast_lt_intCast.1 hd'
 refine BQ.of_fracI (n:=M) (D:=D) (by omega) ?_ hB' hA'
 have h0:(D:Rat)≠0:=fun e=>by rw[e] at hd';exact absurd hd' (by decide)
 have:((D.natAbs:Nat):Rat)=(D:Rat):=by
  have h1:((D.natAbs:Nat):Int)=D:=by omega
  rw[←h1];rfl
 rw[this]
 grind
theorem azF{v w:ZP}(hv:ZP.le 100 v)(hw:ZP.le 100 w)(h:v≠w):FOk (avu v w):=by
 obtain⟨h1,h2⟩:=ax2 (m:=v.1) (n:=v.2) (p:=w.1) (q:=w.2) (by have:=hv.1;omega) (by have:=hv.2;omega) (by have:=hw.1;omega) (by have:=hw.2;omega) (fun e=>h (Prod.ext e.1.symm e.2.symm))
 exact⟨h1,h2,⟨fun e=>(by cases e),fun e=>(by cases e)⟩,amF h1 h2 (by have:=hv.1;omega) (by have:=hv.2;omega),amF h1 h2 (by have:=hw.1;omega) (by have:=hw.2;omega)⟩
theorem ajK{r:List ZP}(h:aby r): ∀{k:Nat},k≤r.length→(agZ r k).length=k∧ ∀f∈agZ r k,FOk f
 |0,_=>⟨rfl,fun f hf=>by cases hf⟩
 |k+1,hk=>by
  obtain⟨h1,h2⟩:=ajK h (k:=k) (by omega)
  rw[agZ]
  refine⟨by simp[h1],fun f hf=>?_⟩
  rcases bV.1 hf with hf|hf
  ·exact h2 f hf
  ·rw[aR] at hf;subst hf
   exact azF (h.le _ (ail (by omega))) (h.le _ (aiV (by omega))) (h.ne k (by omega))
theorem alN{r:List ZP}(h:aby r):(adk r).length=r.length∧ ∀f∈adk r,FOk f:=ajK h (bZ _)
def acH(rs:List (List ZP)):List FrQ:=rs.flatMap adk
theorem aej: ∀{rs:List (List ZP)},(∀r∈rs,aby r)→(acH rs).length≤6*rs.length∧ ∀f∈acH rs,FOk f
 |[],_=>⟨bZ _,fun f hf=>by cases hf⟩
 |r::rs,h=>by
  obtain⟨h1,h2⟩:=aej (rs:=rs) fun q hq=>h q (aX _ hq)
  obtain⟨k1,k2⟩:=alN (h r aQ)
  have:=(h r aQ).n6
  unfold acH at*
  rw[qS]
  refine⟨by rw[aV,k1,bJ];omega,fun f hf=>?_⟩
  rcases bV.1 hf with hf|hf
  ·exact k2 f hf
  ·exact h2 f hf
def ak5(a b c:PtQ):Int:=(PtQ.cross (aeF b a (-1)) (aeF c a (-1))).num.sign
def av5(v w p:PtQ):Int:=
 (if aa0 v.y p.y≤0∧ ¬aa0 w.y p.y≤0∧0<ak5 v w p then 1 else 0)-(if¬aa0 v.y p.y≤0∧aa0 w.y p.y≤0∧ak5 v w p<0 then 1 else 0)
def auN(r:List ZP)(p:PtQ):Nat→Int
 |0=>0
 |k+1=>auN r p k+av5 (r.getD k (0,0)).q (afX r k).q p
def awj(r:List ZP)(p:PtQ):Int:=auN r p r.length
def aAz(fill n:Int):Bool:=(decide (fill=1)&&decide (n.tmod 2≠0))||(decide (fill=2)&&decide (n≠0))
def inR(rs:List (List ZP))(fill:Int)(p:PtQ):Bool:=aAz fill (rs.foldl (fun n r=>n+awj r p) 0)
def aFK(rs:List (List ZP))(fill:Int):Tr:=ame (inR rs fill) (acH rs).length (acH rs) []
def ajq(rs:List (List ZP))(fill:Int):Tr:=(aFK rs fill).restrict []
structure af8 (k:Nat) (t:Tr):Prop where
 gd:t.gd
 dp:t.depth≤k
 am: ∃K:List LnQ,K.length≤k∧(∀l∈K,l.ok)∧adC K t
theorem axE{acc:PtQ→Bool}{n:Nat}{l:List FrQ}(h: ∀f∈l,FOk f)(hn:l.length=n):af8 n (ame acc n l []):=
 ⟨⟨agL fun f hf=>(h f hf).lb,agL fun f hf=>(h f hf).ok⟩,ahq,l.map (·.l),by rw[aJ,hn];exact bZ _,fun m hm=>by
  obtain⟨f,hf,rfl⟩:=bR.1 hm;exact(h f hf).ok,agL fun f hf=>⟨f.l,pK hf, .inl rfl⟩⟩
theorem af8.restrict{k:Nat}{t:Tr}(h:af8 k t)(c:aan):af8 k (t.restrict c):=by
 obtain⟨K,h1,h2,h3⟩:=h.am
 exact⟨aoI h.gd c,cV (t.restrict_depth c) h.dp,K,h1,h2,h3.restrict c⟩
theorem af8.compl{k:Nat}{t:Tr}(h:af8 k t):af8 k t.compl:=by
 obtain⟨K,h1,h2,h3⟩:=h.am
 exact⟨alx h.gd,by rw[t.compl_depth];exact h.dp,K,h1,h2,h3.compl⟩
theorem af8.mono{j k:Nat}{t:Tr}(h:af8 j t)(hk:j≤k):af8 k t:=by
 obtain⟨K,h1,h2,h3⟩:=h.am
 exact⟨h.gd,cV h.dp hk,K,by omega,h2,h3⟩
theorem af8.merge{j k:Nat}{op:Int}{t u:Tr}(h:af8 j t)(hu:af8 k u):af8 (j+k) (t.mergeQ op u []):=by
 obtain⟨K,h1,h2,h3⟩:=h.am
 obtain⟨M,k1,k2,k3⟩:=hu.am
 refine⟨⟨Tr.mergeQ_all LB op hu.gd.lb t [] h.gd.lb,Tr.mergeQ_all LnQ.ok op hu.gd.ok t [] h.gd.ok⟩,cV (Tr.mergeQ_depth op u t []) (by have:=h.dp;have:=hu.dp;omega),K++M,by rw[aV];omega,fun l hl=>(bV.1 hl).elim (h2 l) (k2 l),?_⟩
 exact(h3.mono fun l hl=>⟨l,bN _ hl, .inl rfl⟩).merge (k3.mono fun l hl=>⟨l,cJ _ hl, .inl rfl⟩) []
theorem af8.merge_size{j k:Nat}{op:Int}{t u:Tr}(h:af8 j t)(hu:af8 k u):(t.mergeQ op u []).size≤(j+k)*(1+(j+k)):=by
 obtain⟨K,h1,h2,h3⟩:=h.am
 obtain⟨M,k1,k2,k3⟩:=hu.am
 have hle:(K++M).length≤j+k:=by rw[aV];omega
 refine cV (Tr.merge_size (K:=K++M) (op:=op) (fun l hl=>(bV.1 hl).elim (h2 l) (k2 l)) h.gd.ok hu.gd.ok (h3.mono fun l hl=>⟨l,bN _ hl, .inl rfl⟩) (k3.mono fun l hl=>⟨l,cJ _ hl, .inl rfl⟩)) ?_
 exact gM hle (by omega)
theorem af8.lim{j k:Nat}{op:Int}{t u:Tr}(h:af8 j t)(hu:af8 k u)(hk:j+k≤200):aj7 op t u=some (t.mergeQ op u []):=
 atW (by have:=h.dp;have:=hu.dp;omega) (cV (h.merge_size hu) (cV (gM hk (show 1+(j+k)≤201 by omega)) (by decide)))
theorem apD{rs:List (List ZP)}{fill:Int}(h: ∀r∈rs,aby r)(hn:rs.length≤3):af8 18 (ajq rs fill):=by
 obtain⟨h1,h2⟩:=aej h
 exact((axE (acc:=inR rs fill) h2 rfl).restrict []).mono (by omega)
def aAZ(p q:ZP):Int:=if p.1<q.1 then-1 else if q.1<p.1 then 1 else if p.2<q.2 then-1 else if q.2<p.2 then 1 else 0
def avj(x:ZP):List ZP→List ZP
 |[]=>[x]
 |u::t=>if aAZ u x<0 then u::avj x t else if aAZ u x=0 then u::t else x::u::t
def amo(l:List ZP):List ZP:=l.foldl (fun out x=>avj x out) []
theorem aqD{x:ZP}: ∀{l:List ZP},(avj x l).length≤l.length+1
 |[]=>bZ _
 |u::t=>by
  rw[avj]
  have:=aqD (x:=x) (l:=t)
  split
  ·simp;omega
  ·split<;>simp
theorem as3(l:List ZP):(amo l).length≤l.length:=by
 have key: ∀(l o:List ZP),(l.foldl (fun out x=>avj x out) o).length≤l.length+o.length:=by
  intro l
  induction l with
  |nil=>intro o;simp
  |cons x t ih=>intro o;have:=ih (avj x o);have:=aqD (x:=x) (l:=o);simp only[jL,bJ];omega
 have:=key l []
 simpa[amo] using this
def agj(a b c d:Int):List ZP:=[(a,b),(c,b),(c,d),(a,d)]
theorem axj{r:List ZP}{i:Nat}(h:i+1<r.length):afX r i=r.getD (i+1) (0,0):=by unfold afX;rw[eM h]
theorem aq0{r:List ZP}{i:Nat}(h:i+1=r.length):afX r i=r.getD 0 (0,0):=by unfold afX;rw[h,Nat.mod_self]
theorem as5{a b c d:Int}(h1:a.natAbs≤50)(h2:b.natAbs≤50)(h3:c.natAbs≤50)(h4:d.natAbs≤50)(h5:a<c)(h6:b<d):aby (agj a b c d):=by
 refine⟨by simp[agj],by simp[agj],fun p hp=>?_,fun i hi=>?_⟩
 ·simp only[agj,aT,lN,or_false] at hp
  rcases hp with rfl|rfl|rfl|rfl<;>exact⟨by dsimp only;omega,by dsimp only;omega⟩
 ·have:i=0∨i=1∨i=2∨i=3:=by simp[agj] at hi;omega
  rcases this with rfl|rfl|rfl|rfl<;>simp[agj,afX]<;>omega
def ayb(p u v:ZP):List ZP:=[p,aDV p u,aDV p v]
theorem aBC{p u v:ZP}(h1:ZP.le 40 p)(h2:ZP.le 40 u)(h3:ZP.le 40 v)(h:ajS u v≠0):aby (ayb p u v):=by
 obtain⟨p1,p2⟩:=p
 obtain⟨u1,u2⟩:=u
 obtain⟨v1,v2⟩:=v
 unfold ZP.le at h1 h2 h3
 dsimp only at h1 h2 h3
 unfold ajS at h
 dsimp only at h
 refine⟨by simp[ayb],by simp[ayb],fun p hp=>?_,fun i hi=>?_⟩
 ·simp only[ayb,aDV,aT,lN,or_false] at hp
  rcases hp with rfl|rfl|rfl<;>exact⟨by dsimp only;omega,by dsimp only;omega⟩
 ·have:i=0∨i=1∨i=2:=by simp[ayb] at hi;omega
  have hu: ¬(u1=0∧u2=0):=fun e=>h (by rw[e.1,e.2];simp)
  have hv: ¬(v1=0∧v2=0):=fun e=>h (by rw[e.1,e.2];simp)
  have huv: ¬(u1=v1∧u2=v2):=fun e=>h (by rw[e.1,e.2,Int.mul_comm];omega)
  rcases this with rfl|rfl|rfl<;>simp[ayb,aDV,afX]<;>omega
def apk(es:List Int):Nat→Nat→List ZP→List ZP×Nat
 |0,a,out=>(out,a)
 |n+1,a,out=>apk es n (pF es a).2 (if out.getLast? =some (pF es a).1 then out else out++[(pF es a).1])
structure Adj (r:List ZP):Prop where
 ne: ∀i,i+1<r.length→r.getD i (0,0)≠r.getD (i+1) (0,0)
 le: ∀p∈r,ZP.le 100 p
theorem Adj.snoc{r:List ZP}{p:ZP}(h:Adj r)(hp:ZP.le 100 p)(hl:r.getLast? ≠some p):Adj (r++[p]):=by
 refine⟨fun i hi=>?_,fun q hq=>?_⟩
 ·rw[aV,dS] at hi
  rw[aK,aK]
  by_cases h1:i+1<r.length
  ·rw[fX (by omega),fX h1]
   have:=h.ne i h1
   rwa [aK,aK] at this
  ·have e:i+1=r.length:=by omega
   rw[fX (by omega),e,fV (bZ _),oS]
   rw[kR,←e,kX] at hl
   rw[aZ (by omega)] at hl⊢
   intro c
   exact hl (by simpa using c)
 ·rcases bV.1 hq with hq|hq
  ·exact h.le q hq
  ·rw[aR] at hq;subst hq;exact hp
theorem aob{es:List Int}: ∀{n a:Nat} {out:List ZP},a≤es.length→Adj out→Adj (apk es n a out).1∧(apk es n a out).1.length≤out.length+n∧(apk es n a out).2≤es.length
 |0,a,out,ha,h=>⟨h,bZ _,ha⟩
 |n+1,a,out,ha,h=>by
  obtain⟨h1,h2,h3⟩:=ann ha
  rw[apk]
  by_cases hl:out.getLast? =some (pF es a).1
  ·rw[if_pos hl]
   obtain⟨k1,k2,k3⟩:=aob (n:=n) h3 h
   exact⟨k1,by omega,k3⟩
  ·rw[if_neg hl]
   obtain⟨k1,k2,k3⟩:=aob (n:=n) h3 (h.snoc (p:=(pF es a).1) ⟨by omega,by omega⟩ hl)
   rw[aV,dS] at k2
   exact⟨k1,by omega,k3⟩
def afd:Nat→List ZP→List ZP
 |0,l=>l
 |n+1,l=>if 1<l.length∧l.getD 0 (0,0)=l.getD (l.length-1) (0,0) then afd n l.dropLast else l
theorem Adj.drop{r:List ZP}(h:Adj r):Adj r.dropLast:=by
 refine⟨fun i hi=>?_,fun p hp=>h.le p ((List.dropLast_sublist _).subset hp)⟩
 rw[gR] at hi
 have:=h.ne i (by omega)
 rw[aK,aK] at this⊢
 rw[qL,qL,if_pos (by omega),if_pos (by omega)]
 exact this
theorem apy: ∀{n:Nat} {l:List ZP},Adj l→l.length≤n+1→Adj (afd n l)∧(afd n l).length≤l.length∧(1<(afd n l).length→(afd n l).getD 0 (0,0)≠(afd n l).getD ((afd n l).length-1) (0,0))
 |0,l,h,hn=>⟨h,bZ _,fun k=>absurd k (by unfold afd;omega)⟩
 |n+1,l,h,hn=>by
  rw[afd]
  split
  ·obtain⟨h1,h2,h3⟩:=apy (n:=n) h.drop (by rw[gR];omega)
   rw[gR] at h2
   exact⟨h1,by omega,h3⟩
  ·rename_i hc
   exact⟨h,bZ _,fun k e=>hc ⟨k,e⟩⟩
theorem azi{r:List ZP}(h:Adj r)(h6:r.length≤6)(hc:1<r.length→r.getD 0 (0,0)≠r.getD (r.length-1) (0,0))(h3:3≤(amo r).length):aby r:=by
 have:=as3 r
 refine⟨by omega,h6,h.le,fun i hi=>?_⟩
 by_cases h1:i+1<r.length
 ·rw[axj h1];exact h.ne i h1
 ·have e:i+1=r.length:=by omega
  rw[aq0 e]
  have:=hc (by omega)
  rw[show i=r.length-1 by omega]
  exact fun k=>this k.symm
def aA6:List ZP:=[(0,0),(2,0),(0,2)]
theorem azc:aby aA6:=⟨by decide,by decide,fun p hp=>by
  simp only[aA6,aT,lN,or_false] at hp
  rcases hp with rfl|rfl|rfl<;>exact⟨by decide,by decide⟩,fun i hi=>by
  have:i=0∨i=1∨i=2:=by simp[aA6] at hi;omega
  rcases this with rfl|rfl|rfl<;>decide⟩
def au7(es:List Int)(a:Nat):List ZP×Nat:=
 ((if(amo (afd 6 (apk es (3+(aaf es 4 a).1) (aaf es 4 a).2 []).1)).length<3 then aA6 else afd 6 (apk es (3+(aaf es 4 a).1) (aaf es 4 a).2 []).1),(apk es (3+(aaf es 4 a).1) (aaf es 4 a).2 []).2)
theorem Adj.nil:Adj []:=⟨fun i hi=>by simp at hi,fun p hp=>by cases hp⟩
theorem atj{es:List Int}{a:Nat}(ha:a≤es.length):aby (au7 es a).1∧(au7 es a).2≤es.length:=by
 have h1:=abB (es:=es) (n:=4) (a:=a) (by decide)
 obtain⟨k1,k2,k3⟩:=aob (n:=3+(aaf es 4 a).1) (aaB (n:=4) ha) Adj.nil
 obtain⟨t1,t2,t3⟩:=apy (n:=6) k1 (by simp at k2;omega)
 refine⟨?_,k3⟩
 unfold au7
 dsimp only
 split
 ·exact azc
 ·exact azi t1 (by simp at k2;omega) t3 (by omega)
def sqF(es:List Int)(n m k:Int)(a:Nat):List ZP×Nat:=
 let x:=aaf es n a
 let y:=aaf es n x.2
 let z:=aaf es m y.2
 let w:=aaf es m z.2
 (agj ((x.1:Int)-k) ((y.1:Int)-k) ((x.1:Int)-k+1+z.1) ((y.1:Int)-k+1+w.1),w.2)
theorem aCV{es:List Int}{n m k:Int}{a:Nat}(ha:a≤es.length)(hn:1≤n)(hn2:n≤10)(hm:1≤m)(hm2:m≤10)(hk:0≤k)(hk2:k≤10):aby (sqF es n m k a).1∧(sqF es n m k a).2≤es.length:=by
 have h1:=abB (es:=es) (a:=a) hn
 have h2:=abB (es:=es) (a:=(aaf es n a).2) hn
 have h3:=abB (es:=es) (a:=(aaf es n (aaf es n a).2).2) hm
 have h4:=abB (es:=es) (a:=(aaf es m (aaf es n (aaf es n a).2).2).2) hm
 exact⟨as5 (by omega) (by omega) (by omega) (by omega) (by omega) (by omega),aaB (aaB (aaB (aaB ha)))⟩
def acV(es:List Int)(a:Nat):List ZP×Nat:=
 let k:=aaf es 4 a
 if(k.1:Int)=0 then sqF es 5 4 4 k.2
 else if(k.1:Int)=1 then
  let p:=pF es k.2
  let u:=vF es p.2
  let v:=vF es u.2
  if ajS u.1 v.1≠0 then(ayb p.1 u.1 v.1,v.2) else au7 es v.2
 else au7 es k.2
theorem ain{es:List Int}{a:Nat}(ha:a≤es.length):aby (acV es a).1∧(acV es a).2≤es.length:=by
 have h0:=aaB (n:=4) ha
 unfold acV
 dsimp only
 split
 ·exact aCV h0 (by decide) (by decide) (by decide) (by decide) (by decide) (by decide)
 ·split
  ·obtain⟨p1,p2,p3⟩:=ann h0
   obtain⟨u1,u2,u3,u4⟩:=arn p3
   obtain⟨v1,v2,v3,v4⟩:=arn u4
   split
   ·rename_i hc
    exact⟨aBC ⟨by omega,by omega⟩ ⟨by omega,by omega⟩ ⟨by omega,by omega⟩ hc,v4⟩
   ·exact atj v4
  ·exact atj h0
def aGs:List ZP:=[(0,0),(1,0),(0,1)]
def atX(es:List Int)(a:Nat):List ZP×Nat:=
 let k:=aaf es 2 a
 if(k.1:Int)=0 then sqF es 3 2 1 k.2
 else
  let x:=aaf es 3 k.2
  let y:=aaf es 3 x.2
  let u1:=aaf es 2 y.2
  let u2:=aaf es 3 u1.2
  let v1:=aaf es 3 u2.2
  let v2:=aaf es 2 v1.2
  (if 0<ajS (1+(u1.1:Int),(u2.1:Int)-1) ((v1.1:Int)-1,1+(v2.1:Int)) then ayb ((x.1:Int)-1,(y.1:Int)-1) (1+(u1.1:Int),(u2.1:Int)-1) ((v1.1:Int)-1,1+(v2.1:Int)) else aGs,v2.2)
def adT(es:List Int)(a:Nat):Tr×Nat:=
 let r:=acV es a
 let k:=aaf es 3 r.2
 if(k.1:Int)=0 then
  let s:=acV es k.2
  let f:=aaf es 2 s.2
  (ajq [r.1,s.1] (1+(f.1:Int)),f.2)
 else
  let f:=aaf es 2 k.2
  (ajq [r.1] (1+(f.1:Int)),f.2)
theorem aeu{es:List Int}{a:Nat}(ha:a≤es.length):af8 18 (adT es a).1∧(adT es a).2≤es.length:=by
 obtain⟨r1,r2⟩:=ain ha
 have h3:=aaB (n:=3) r2
 unfold adT
 dsimp only
 split
 ·obtain⟨s1,s2⟩:=ain h3
  exact⟨apD (fun r hr=>by simp only[aT,lN,or_false] at hr;rcases hr with rfl|rfl;exact r1;exact s1) (by simp),aaB s2⟩
 ·exact⟨apD (fun r hr=>by simp only[aT,lN,or_false] at hr;subst hr;exact r1) (by simp),aaB h3⟩
def axu(l:LnQ):Tr:=(Tr.node l (.leaf true) (.leaf false)).restrict []
theorem agf: ∀t:Tr,t.lns.length=t.size
 | .leaf _=>rfl
 | .node l x y=>by rw[Tr.lns,bJ,aV,agf x,agf y,Tr.size];omega
theorem atp{t:Tr}{k:Nat}(hb:t.all (fun l=>BL l 96))(ho:t.all LnQ.ok)(hs:t.size≤k):af8 k t:=
 ⟨⟨acB.2 fun l hl=>⟨acB.1 hb l hl⟩,ho⟩,cV t.depth_size hs,t.lns,by rw[agf];exact hs,aek ho,awQ fun l hl=>hl⟩
theorem aoT{es:List Int}{d a:Nat}(ha:a≤es.length)(hd:d≤4):af8 18 (aa8 es d a).1∧(aa8 es d a).2≤es.length:=by
 obtain⟨h1,h2,h3,h4⟩:=agO (d:=d) ha
 have h5:=Tr.size_lt (aa8 es d a).1
 have h6:(2:Nat)^(aa8 es d a).1.depth≤2^4:=bW (by decide) (by omega)
 exact⟨atp h3 h2 (by omega),h4⟩
theorem ar7{l:LnQ}(h:LS l):af8 18 (axu l):=
 (atp (k:=18) (t:= .node l (.leaf true) (.leaf false)) ⟨h.bl,trivial,trivial⟩ ⟨h.ok,trivial,trivial⟩ (by simp[Tr.size])).restrict []
def aah(es:List Int):Nat→Nat→Tr×Nat
 |0,a=>
  let k:=aaf es 6 a
  if(k.1:Int)=1 then(axu (lF es k.2).1,(lF es k.2).2)
  else if(k.1:Int)=2 then((aa8 es 3 k.2).1.restrict [],(aa8 es 3 k.2).2)
  else if(k.1:Int)=3 then((adT es k.2).1.compl,(adT es k.2).2)
  else adT es k.2
 |d+1,a=>
  let k:=aaf es 6 a
  if(k.1:Int)=0 then
   let x:=aah es d k.2
   let o:=aaf es 4 x.2
   let y:=aah es d o.2
   (x.1.mergeQ (1+(o.1:Int)) y.1 [],y.2)
  else if(k.1:Int)=1 then(axu (lF es k.2).1,(lF es k.2).2)
  else if(k.1:Int)=2 then((aa8 es 3 k.2).1.restrict [],(aa8 es 3 k.2).2)
  else if(k.1:Int)=3 then((adT es k.2).1.compl,(adT es k.2).2)
  else adT es k.2
theorem aeE{es:List Int}: ∀{d a:Nat},a≤es.length→af8 (18*2^d) (aah es d a).1∧(aah es d a).2≤es.length
 |0,a,ha=>by
  have h0:=aaB (n:=6) ha
  rw[aah]
  try dsimp only
  split
  ·obtain⟨h1,h2⟩:=aq1 h0;exact⟨ar7 h1,h2⟩
  ·split
   ·obtain⟨h1,h2⟩:=aoT (d:=3) h0 (by decide);exact⟨h1.restrict [],h2⟩
   ·split
    ·obtain⟨h1,h2⟩:=aeu h0;exact⟨h1.compl,h2⟩
    ·exact aeu h0
 |d+1,a,ha=>by
  have h0:=aaB (n:=6) ha
  have hp:18≤18*2^(d+1):=nJ _ (dT (by decide))
  rw[aah]
  try dsimp only
  split
  ·obtain⟨h1,h2⟩:=aeE (d:=d) h0
   obtain⟨h3,h4⟩:=aeE (d:=d) (aaB (n:=4) h2)
   exact⟨(h1.merge h3).mono (by rw[eX];omega),h4⟩
  ·split
   ·obtain⟨h1,h2⟩:=aq1 h0;exact⟨(ar7 h1).mono hp,h2⟩
   ·split
    ·obtain⟨h1,h2⟩:=aoT (d:=3) h0 (by decide);exact⟨(h1.restrict []).mono hp,h2⟩
    ·split
     ·obtain⟨h1,h2⟩:=aeu h0;exact⟨h1.compl.mono hp,h2⟩
     ·obtain⟨h1,h2⟩:=aeu h0;exact⟨h1.mono hp,h2⟩
def aGR(es:List Int)(a:Nat):Tr×Nat:=
 let k:=aaf es 4 a
 if(k.1:Int)=0 then(axu (lF es k.2).1,(lF es k.2).2)
 else if(k.1:Int)=1 then((aa8 es 2 k.2).1.restrict [],(aa8 es 2 k.2).2)
 else(ajq [(atX es k.2).1] 2,(atX es k.2).2)
end Go.Sx
end
section
namespace Go.Sx
open Go
inductive OT where
 |z (π:List (Nat×Bool))
 |q (i:Nat) (t:OT)
 |a (i:Nat) (t:OT)
 |c (i:Nat) (t r:OT)
def OT.sz:OT→Nat
 | .z _=>0
 | .q _ t=>t.sz+1
 | .a _ t=>t.sz+1
 | .c _ t r=>t.sz+r.sz+1
def OT.d:OT→Nat
 | .z π=>π.length
 | .q _ t=>t.d+1
 | .a _ t=>t.d+1
 | .c _ t r=>Nat.max (t.d+1) r.d
section
variable {P:Program} {ops:Array Oper} {Q:Exit→Act→World→Prop} {S:World→Prop} {π₂:List (Nat×Bool)}
def dwN(P:Program)(ops:Array Oper)(Q:Exit→Act→World→Prop)(K:(World→Prop)→Act→World→Prop):List Nat→OT→(World→Prop)→Act→World→Prop
 |ks, .z π,S,a,w=>dwT P ops Q K ks π S a w
 |ks, .q i t,S,a,w=> ∃o v,ops[i]? =some o∧S w∧YieldsIf P ops S o v a∧dwN P ops Q K ks t S (a.put o.dst v) w
 |ks, .a i t,S,a,w=>wpOp P ops Q i (grS S (dwN P ops Q K ks t)) a w∧
   ∀j,(h:j∈ks)→wpOp P ops Q j (grS S (dwN P ops Q K (without ks j) (.a i t))) a w
 |ks, .c i t r,S,a,w=>wpOp P ops Q i (grS S (dwN P ops Q K ks t)) a w∧dwN P ops Q K ks r S a w∧
   ∀j,(h:j∈ks)→wpOp P ops Q j (grS S (dwN P ops Q K (without ks j) (.c i t r))) a w
termination_by ks t=>ks.length+t.sz
decreasing_by
 all_goals (first|(have:=ahC h;simp only[OT.sz] at*;omega)|(simp only[OT.sz];omega))
def adr(ops:Array Oper)(fin:Nat→Bool)(π₂:List (Nat×Bool)):Nat→Bool→List Nat→OT→Array Bool→List Nat→Bool
 |0,_,_,_,_,_=>false
 |n+1,false,ks, .z π,l,_=>ahk ops fin π₂ n ks π l
 |_+1,true,_, .z _,_,_=>false
 |n+1,false,ks, .q i t,l,_=>akc ops fin l i&&adr ops fin π₂ n false ks t (l.setIfInBounds i true) []
 |_+1,true,_, .q _ _,_,_=>false
 |n+1,true,ks, .a i t,l,rs=>rs.all (fun j=>Nat.beq j i)&&adr ops fin π₂ n false ks t (l.setIfInBounds i true) []
 |n+1,false,ks, .a i t,l,_=>!(Region.ready .any ops l).isEmpty&&(Region.ready .any ops l).all (fun j=>Nat.beq j i||ks.contains j)&&adr ops fin π₂ n false ks t (l.setIfInBounds i true) []&&ks.all fun j=>adr ops fin π₂ n false (without ks j) (.a i t) (l.setIfInBounds j true) []
 |n+1,true,ks, .c i t r,l,rs=>adr ops fin π₂ n false ks t (l.setIfInBounds i true) []&&adr ops fin π₂ n true ks r l (without rs i)
 |n+1,false,ks, .c i t r,l,_=>!(Region.ready .any ops l).isEmpty&&adr ops fin π₂ n false ks t (l.setIfInBounds i true) []&&adr ops fin π₂ n true ks r l (without ((Region.ready .any ops l).filter fun j=>!ks.contains j) i)&&ks.all fun j=>adr ops fin π₂ n false (without ks j) (.c i t r) (l.setIfInBounds j true) []
end
section
variable {P:Program} {GB:Gh} {C:Ctx} {n:Nat} {fr fr':FrF} {own own' own0 own1 own1':List adw} {bs bs0 bs1 bs1':List aed} {ops:Array Oper} {Q:Exit→Act→World→Prop} {fd:List FD} {π₂:List (Nat×Bool)} {t r:OT}
abbrev dnK (P:Program) (ops:Array Oper) (Q:Exit→Act→World→Prop) (K:(World→Prop)→Act→World→Prop) (t:OT):List Nat→(World→Prop)→Act→World→Prop:=fun ks S=>dwN P ops (acC Q) K ks t S
end
end Go.Sx
end
section
namespace Go.Sx
open Go Go.Proofs Tryz
variable {GB:Gh}
theorem agD{c:List LnQ}{l:LnQ}(hc: ∀m∈c,LB m)(hl:LB l): ∀m∈c++[l],LB m:=by
 rw[qU]
 exact⟨hc,by simpa using hl⟩
theorem LB.rev{l:LnQ}(h:LB l):LB l.rev:=⟨⟨by rw[show l.rev.a= -l.a from rfl,iL];exact h.bl.a,by rw[show l.rev.b= -l.b from rfl,iL];exact h.bl.b,by rw[show l.rev.c= -l.c from rfl,iL];exact h.bl.c⟩⟩
theorem arY{c:List LnQ}{l:LnQ}(hc: ∀m∈c,LB m)(hok: ∀m∈c,m.ok)(hn:c.length≤900)(hl:LB l)(hlo:l.ok):PF GB prog 104 [.sl (c.map eL),eL l] (vI (ad5 c l)):=by
 have hcl:=aeR c
 refine fn func104 J J ntmps104 J J (fun C=>?_)
 refine ro0 J J<|ap (c.map eL) J J (abz _) rfl<|rf J J<|apf ((c++[l]).map eL) rfl (by rw[bK];rfl) (abz [l]) rfl<|?_
 refine cl rfl (aoF (c:=c++[l]) (agD hc hl) (acm hok hlo) (by simp;omega)) rfl<|ro0 J J<|ap (c.map eL) J J (abz _) rfl<|cl rfl (aku (l:=l)) rfl<|?_
 refine rf J J<|apf ((c++[l.rev]).map eL) rfl (by rw[bK];rfl) (abz [l.rev]) rfl<|cl rfl (aoF (c:=c++[l.rev]) (agD hc hl.rev) (acm hok hlo.rev) (by simp;omega)) rfl<|?_
 refine csb 31 J J J (fun hg31=>?_) (fun hg31=>?_)
 ·
  refine bb J J J (fun hc33=>?_) (fun hc33=>?_)
  ·
   exact rz rfl (by show vI 0=vI _;congr 1;unfold ad5;simp_all)
  ·
   refine bb J J J (fun hc34=>?_) (fun hc34=>?_)
   ·
    exact rz rfl (by show vI 1=vI _;congr 1;unfold ad5;simp_all)
   ·
    exact rz rfl (by simp[hg31] at hc34)
 ·
  refine bb J J J (fun hc34=>?_) (fun hc34=>?_)
  ·
   exact rz rfl (by simp[hg31] at hc34)
  ·
   exact rz rfl (by show vI (-1)=vI _;congr 1;unfold ad5;simp_all)
theorem ae3{α:Type}{p:α→Bool}: ∀{xs:List α} {n:Nat},n≤xs.length→(∀j (h:j<xs.length),j<n→p xs[j]=true)→(∀h:n<xs.length,p xs[n]=false)→(xs.takeWhile p).length=n
 |[],n,h,_,_=>by simp at h;subst h;rfl
 |x::xs,0,_,_,h3=>by
  have:=h3 (by simp)
  simp only[nN] at this
  simp[pV,this]
 |x::xs,n+1,h1,h2,h3=>by
  have hx:=h2 0 (by simp) (by omega)
  simp only[nN] at hx
  rw[pV,if_pos hx,bJ]
  rw[ae3 (n:=n) (by simpa using h1) (fun j h hj=>by have:=h2 (j+1) (by simpa using h) (by omega);simpa using this) (fun h=>by have:=h3 (by simpa using h);simpa using this)]
theorem amX{xs:List LnQ}{l:LnQ}{n:Nat}(h1:n≤xs.length)(h2: ∀j (h:j<xs.length),j<n→aaE xs[j].dir l.dir<0)(h3: ∀h:n<xs.length,¬aaE xs[n].dir l.dir<0):ae6 xs l=n:=
 ae3 h1 (fun j h hj=>decide_eq_true (h2 j h hj)) (fun h=>decide_eq_false (h3 h))
theorem anj{xs:List LnQ}{l:LnQ}{n:Nat}(hn:ae6 xs l=n)(h:n<xs.length)(e:xs[n]=l):ac8 xs l=xs:=by
 unfold ac8;rw[hn,if_pos (by rw[aZ h,e])]
theorem ahX{xs:List LnQ}{l:LnQ}{n:Nat}(hn:ae6 xs l=n)(h: ∀h:n<xs.length,xs[n]≠l):ac8 xs l=xs.take n++l::xs.drop n:=by
 unfold ac8
 rw[hn,if_neg]
 intro e
 obtain⟨h1,h2⟩:=aN.1 e
 exact h h1 h2
theorem ayz(xs:List LnQ)(n:Nat):adB 6 ((xs.map eL).take n):=fun d hd=>abz xs d (cM hd)
theorem ass(xs:List LnQ)(n m:Nat):adB 6 (((xs.map eL).take n).drop m):=fun d hd=>abz xs d (cM (fN hd))
theorem axR(xs:List LnQ)(n m:Nat)(l:LnQ):adB 6 ([eL l]++((xs.map eL).take n).drop m):=fun d hd=>by
 rcases bV.1 hd with h|h
 ·exact abz [l] d h
 ·exact ass xs n m d h
structure Cst (c:List LnQ) (k:Nat) (xs:List LnQ):Prop where
 le:k≤c.length
 f:ae7 c (c.drop k) xs=abZ c
 m: ∀m∈xs,m∈c
 n:xs.length≤k
theorem Cst.skip{c xs:List LnQ}{k:Nat}(h:Cst c k xs)(hk:k<c.length)(e:(adj c[k] c IvQ.all).isSome=false):Cst c (k+1) xs:=by
 have:=h.f
 rw[aM hk,ae7,e] at this
 exact⟨hk,this,h.m,by have:=h.n;omega⟩
theorem Cst.ins{c xs ys:List LnQ}{k:Nat}(h:Cst c k xs)(hk:k<c.length)(e:(adj c[k] c IvQ.all).isSome=true)(hy:ac8 xs c[k]=ys)(hl:ys.length≤xs.length+1):Cst c (k+1) ys:=by
 have:=h.f
 rw[aM hk,ae7,e,if_pos rfl,hy] at this
 refine⟨hk,this,fun m hm=>?_,by have:=h.n;omega⟩
 rw[←hy] at hm
 rcases ah2.1 hm with rfl|hm
 ·exact cX hk
 ·exact h.m m hm
theorem Cst.done{c xs:List LnQ}{k:Nat}(h:Cst c k xs)(hk:k=c.length):abZ c=xs:=by
 have:=h.f
 rw[hk,fQ,ae7] at this
 exact this.symm
def as9(c:List LnQ):Bool:=if(((c.map eL).length:Nat):Int)=0 then true else decide ((0:Int)<((((abZ c).map eL).length:Nat):Int))
theorem Cst.nil(c:List LnQ):Cst c 0 []:=⟨bX _,rfl,fun m hm=>absurd hm (by simp),bZ _⟩
theorem azX{c:List LnQ}(hc: ∀m∈c,LB m)(hok: ∀m∈c,m.ok)(hn:c.length≤1000):PF GB prog 169 [.sl (c.map eL)] (.tp [.sl ((abZ c).map eL),vB (as9 c)]):=by
 have hcl:=aeR c
 refine fn (fu:=⟨16⟩) func169 J J ntmps169 J J (fun C=>?_)
 refine eqF 11 (.d (vI (c.length:Nat))) rfl (by rw[hcl];rfl) ?_
 refine gx rfl<|?_
 refine nlC 4 rfl ?_
 refine lp (X:=List LnQ×Nat) (fun⟨xs,k⟩=>[(12, .d (vI (k:Nat))),(11, .d (vI (c.length:Nat))),(10, .d (.sl (c.map eL))),(0, .d (.sl (c.map eL))),(4, .d (.sl (xs.map eL)))]) (fun⟨xs,k⟩=>[]) (fun⟨xs,k⟩=>Cst c k xs) (fun⟨xs,k⟩=>c.length-k) ⟨[],0⟩ rfl (Cst.nil c) (fun _=>rfl) (fun⟨xs,k⟩ hk=>?_)
 try dsimp only at hk⊢
 have hS:=hk
 refine br J J J (fun hc13=>?_) (fun hc13=>?_)
 ·
  have hk:k<c.length:=by omega
  obtain⟨m,hm⟩: ∃m,m=c[k]:=⟨_,rfl⟩
  haveI hmb:LB m:=hm▸hc _ (cX hk)
  have hmo:m.ok:=hm▸hok _ (cX hk)
  have hxl:=aeR xs
  have hxn:=hS.n
  refine ix (fu:=⟨1⟩) _ rfl (aeJ hk) rfl<|?_
  refine eqF 16 (.d (eL m)) rfl (by rw[hm];rfl) ?_
  refine gx rfl<|cl rfl (axY hc hok hn hk) rfl<|?_
  refine bb (fu2:=⟨8⟩) J J J (fun hc24=>?_) (fun hc24=>?_)
  ·
   have hinv:Cst c (k+1) xs:=hS.skip hk (by rw[←aeA];simpa using hc24)
   exact at_ ⟨xs,k+1⟩ (by dsimp only;exact⟨hinv,(by omega)⟩)
  ·
   have hyes:(adj c[k] c IvQ.all).isSome=true:=by rw[←aeA];simpa using hc24
   refine mg (fu:=⟨6⟩) (X:=Unit) (fun _=>[(12, .d (vI (k:Nat))),(11, .d (vI (c.length:Nat))),(10, .d (.sl (c.map eL))),(0, .d (.sl (c.map eL))),(4, .d (.sl (xs.map eL))),(6, .ov 6 0),(9, .d (vI (ae6 xs m:Nat)))]) (fun _=>[(6,some (.o 88 [.d ((.v (.bool (decide (m.a<0))))), .d (dN m.a.natAbs), .d ((.v (.bool (decide (m.b<0))))), .d (dN m.b.natAbs), .d ((.v (.bool (decide (m.c<0))))), .d (dN m.c.natAbs)] true))]) (fun _=>True) [12,11,10,0,4,6,9] [6] rfl ?_ (fun _=>rfl) (fun _ _=>?_)
   ·
    refine gx rfl<|?_
    refine lp (fu:=⟨6⟩) (X:=Nat) (fun n=>[(12, .d (vI (k:Nat))),(11, .d (vI (c.length:Nat))),(10, .d (.sl (c.map eL))),(0, .d (.sl (c.map eL))),(4, .d (.sl (xs.map eL))),(6, .ov 6 0),(9, .d (vI (n:Nat)))]) (fun n=>[(6,some (.o 88 [.d ((.v (.bool (decide (m.a<0))))), .d (dN m.a.natAbs), .d ((.v (.bool (decide (m.b<0))))), .d (dN m.b.natAbs), .d ((.v (.bool (decide (m.c<0))))), .d (dN m.c.natAbs)] true))]) (fun n=>n≤xs.length∧ ∀j (h:j<xs.length),j<n→aaE xs[j].dir m.dir<0) (fun n=>xs.length-n) 0 rfl ⟨bX _,fun j _ hj=>absurd hj (by omega)⟩ (fun _=>rfl) (fun n hk=>?_)
    obtain⟨n1,n2⟩:=hk
    refine csS J J J J (fun hg28=>?_) (fun hg28=>?_)
    ·
     refine ix _ rfl (aeJ (by omega)) rfl<|?_
     haveI:LB (xs[n]'(by omega)):=hc _ (hS.m _ (cX _))
     refine cl rfl (anB (l:=xs[n]'(by omega))) rfl<|cl rfl (anB (l:=m)) rfl<|cl rfl (aAF (u:=(xs[n]'(by omega)).dir) (v:=m.dir)) rfl<|?_
     refine br J J J (fun hc39=>?_) (fun hc39=>?_)
     ·
      exact at_ (n+1) ⟨⟨by omega,fun j h hj=>by by_cases q:j=n;(subst q;exact hc39);exact n2 j h (by omega)⟩,(by omega)⟩
     ·
      have hidx:ae6 xs m=n:=amX n1 n2 (fun h=>hc39)
      exact at_ () trivial
    ·
     have hidx:ae6 xs m=n:=amX n1 n2 (fun h=>absurd h (by omega))
     exact at_ () trivial
   ·
    obtain⟨n,hnx⟩: ∃n,ae6 xs m=n:=⟨_,rfl⟩
    rw[hnx]
    have hnl:n≤xs.length:=by rw[←hnx];unfold ae6;exact(List.takeWhile_sublist _).length_le
    have hcb: ∀m∈xs,LB m:=fun m hm=>hc m (hS.m m hm)
    refine csS J J J J (fun hg45=>?_) (fun hg45=>?_)
    ·
     refine ix _ rfl (aeJ (by omega)) rfl<|cl rfl (ajm (l:=xs[n]'(by omega)) (m:=m) (hl:=hcb _ (cX (by omega)))) rfl<|?_
     refine br J J J (fun hc54=>?_) (fun hc54=>?_)
     ·
      have hn46:n<xs.length:=by omega
      have hinv:Cst c (k+1) xs:=hS.ins hk hyes (by rw[←hm];exact anj hnx hn46 ((afr _ m).1 hc54)) (by omega)
      exact at_ ⟨xs,k+1⟩ (by dsimp only;exact⟨hinv,(by omega)⟩)
     ·
      have hnew: ∀h:n<xs.length,xs[n]≠m:=fun h e=>hc54 ((afr _ m).2 e)
      obtain⟨ys,hys⟩: ∃ys,ys=xs.take n++m::xs.drop n:=⟨_,rfl⟩
      have hinv:Cst c (k+1) ys:=hS.ins hk hyes (by rw[←hm,ahX hnx hnew,hys]) (by rw[hys];simp;omega)
      refine s3 n _ J J J J (abz _) (by rw[hxl];exact hnl) rfl<|ro J J<|sc' n xs.length _ J J (by rw[hxl]) rfl (abz _) hnl (by omega) rfl<|?_
      refine ap _ J J (ass _ _ _) rfl<|apf (hv:=by simp only[aai];exact⟨by kernel_rfl,by omega⟩) (ho:=fun _=>⟨ayz _ _,by simp⟩) (ys.map eL) rfl (by rw[hys,bK,bY,fS,hJ,aY (l:=xs.map eL) (i:=xs.length) (by simp)];rfl) (axR _ _ _ _) rfl<|?_
      exact at_ ⟨ys,k+1⟩ (by dsimp only;exact⟨hinv,(by omega)⟩)
    ·
     have hnew: ∀h:n<xs.length,xs[n]≠m:=fun h=>absurd h (by omega)
     obtain⟨ys,hys⟩: ∃ys,ys=xs.take n++m::xs.drop n:=⟨_,rfl⟩
     have hinv:Cst c (k+1) ys:=hS.ins hk hyes (by rw[←hm,ahX hnx hnew,hys]) (by rw[hys];simp;omega)
     refine s3 n _ J J J J (abz _) (by rw[hxl];exact hnl) rfl<|ro J J<|sc' n xs.length _ J J (by rw[hxl]) rfl (abz _) hnl (by omega) rfl<|?_
     refine ap _ J J (ass _ _ _) rfl<|apf (hv:=by simp only[aai];exact⟨by kernel_rfl,by omega⟩) (ho:=fun _=>⟨ayz _ _,by simp⟩) (ys.map eL) rfl (by rw[hys,bK,bY,fS,hJ,aY (l:=xs.map eL) (i:=xs.length) (by simp)];rfl) (axR _ _ _ _) rfl<|?_
     exact at_ ⟨ys,k+1⟩ (by dsimp only;exact⟨hinv,(by omega)⟩)
 ·
  have hfin:abZ c=xs:=hS.done (by have:=hS.le;omega)
  refine cs 71 J J J (fun hg71=>?_) (fun hg71=>?_)
  ·
   exact rz rfl (by rw[as9,if_pos hg71,hfin];rfl)
  ·
   exact rz rfl (by rw[as9,if_neg hg71,hfin];rfl)
section
variable {α:Type} (c:α→α→Int)
def ac0(x:α):List α→List α
 |[]=>[x]
 |u::t=>if c u x<0 then u::ac0 x t else if c u x=0 then u::t else x::u::t
def aj2(x:α)(xs:List α):Nat:=(xs.takeWhile fun u=>decide (c u x<0)).length
theorem aho(x:α)(xs:List α):aj2 c x xs≤xs.length:=(List.takeWhile_sublist _).length_le
theorem adn{x:α}{xs:List α}{n:Nat}(h1:n≤xs.length)(h2: ∀j (h:j<xs.length),j<n→c xs[j] x<0)(h3: ∀h:n<xs.length,¬c xs[n] x<0):aj2 c x xs=n:=
 ae3 h1 (fun j h hj=>decide_eq_true (h2 j h hj)) (fun h=>decide_eq_false (h3 h))
theorem aeV{x:α}: ∀{xs:List α} {n:Nat},aj2 c x xs=n→(h:n<xs.length)→c xs[n] x=0→ac0 c x xs=xs
 |[],n,_,h,_=>by simp at h
 |u::t,n,hn,h,e=>by
  rw[ac0]
  unfold aj2 at hn
  rw[pV] at hn
  by_cases hu:c u x<0
  ·rw[if_pos hu]
   rw[if_pos (by simpa using hu)] at hn
   obtain⟨k,rfl⟩: ∃k,n=k+1:=⟨n-1,by simp at hn;omega⟩
   rw[aeV (xs:=t) (n:=k) (by unfold aj2;simpa using hn) (by simpa using h) (by simpa using e)]
  ·rw[if_neg (by simpa using hu)] at hn
   simp at hn;subst hn
   rw[if_neg hu,if_pos (by simpa using e)]
theorem acg{x:α}: ∀{xs:List α} {n:Nat},aj2 c x xs=n→(∀h:n<xs.length,c xs[n] x≠0)→ac0 c x xs=xs.take n++x::xs.drop n
 |[],n,hn,_=>by simp[aj2] at hn;subst hn;rfl
 |u::t,n,hn,e=>by
  rw[ac0]
  unfold aj2 at hn
  rw[pV] at hn
  by_cases hu:c u x<0
  ·rw[if_pos hu]
   rw[if_pos (by simpa using hu)] at hn
   obtain⟨k,rfl⟩: ∃k,n=k+1:=⟨n-1,by simp at hn;omega⟩
   rw[acg (xs:=t) (n:=k) (by unfold aj2;simpa using hn) (fun h=>by have:=e (by simpa using h);simpa using this)]
   simp
  ·rw[if_neg (by simpa using hu)] at hn
   simp at hn;subst hn
   have:=e (by simp)
   rw[if_neg hu,if_neg (by simpa using this)];rfl
theorem aiu(x:α): ∀(xs:List α),(ac0 c x xs).length≤xs.length+1
 |[]=>bZ _
 |u::t=>by
  have:=aiu x t
  rw[ac0]
  split
  ·simp;omega
  ·split<;>simp
theorem alo{x y:α}: ∀{xs:List α},y∈ac0 c x xs→y=x∨y∈xs
 |[],h=>by rw[ac0,aR] at h;exact .inl h
 |u::t,h=>by
  rw[ac0] at h
  split at h
  ·rcases aT.1 h with rfl|h
   ·exact .inr aQ
   ·rcases alo h with h|h
    ·exact .inl h
    ·exact .inr (aX _ h)
  ·split at h
   ·exact .inr h
   ·rcases aT.1 h with rfl|h
    ·exact .inl rfl
    ·exact .inr h
def ahF(l:List α):List α:=l.foldl (fun out x=>ac0 c x out) []
theorem agw: ∀(l o:List α),(l.foldl (fun out x=>ac0 c x out) o).length≤l.length+o.length
 |[],o=>by simp
 |x::t,o=>by
  have:=agw t (ac0 c x o)
  have:=aiu c x o
  simp only[jL,bJ];omega
theorem afz{y:α}: ∀{l o:List α},y∈l.foldl (fun out x=>ac0 c x out) o→y∈l∨y∈o
 |[],o,h=> .inr h
 |x::t,o,h=>by
  rcases afz (l:=t) h with h|h
  ·exact .inl (aX _ h)
  ·rcases alo c h with rfl|h
   ·exact .inl aQ
   ·exact .inr h
end
theorem akY{x:Rat}: ∀{l:List Rat},amc x l=ac0 aa0 x l
 |[]=>rfl
 |u::t=>by
  have e1:aa0 u x<0↔u<x:=aji u x
  have e2:aa0 u x=0↔u=x:=aeT u x
  rw[amc,ac0,akY (l:=t)]
  by_cases h:u<x
  ·rw[if_pos h,if_pos (e1.2 h)]
  ·rw[if_neg h,if_neg (fun e=>h (e1.1 e))]
   by_cases h2:u=x
   ·rw[if_pos h2,if_pos (e2.2 h2)]
   ·rw[if_neg h2,if_neg (fun e=>h2 (e2.1 e))]
theorem abp{α β:Type}{f:α→β}{l:List α}{k:Nat}{x:α}(h:l[k]? =some x):(l.take k).map f++[f x]=(l.take (k+1)).map f:=by
 rw[iU,h,bK];rfl
theorem aCy{a i:Nat}[ha:BN a i](hi:i≤400000000:=by decide):PF GB prog 144 [dN a] (dN a):=by
 have hl:=aaF (dg a)
 have hb:=aa9 ha.h
 refine fn func144 J J ntmps144 J J (fun C=>?_)
 refine ro0 J J<|ap ((dg a).map dU) J J (anP _) rfl<|?_
 refine fzE 5 rfl ?_
 exact rz J J
theorem avV{z:Int}{i:Nat}[hz:BI z i](hi:i≤400000000:=by decide):PF GB prog 143 [eI z] (eI z):=by
 refine fn func143 J J ntmps143 J J (fun C=>?_)
 refine cl rfl (aCy (a:=z.natAbs) (i:=i) (ha:=⟨hz.h⟩) hi) rfl<|?_
 exact rz J J
theorem aEv{l:LnQ}(hl:BL l 96):PF GB prog 124 [eL l] (eL l):=by
 haveI h1:BI l.a 96:=⟨hl.a⟩
 haveI h2:BI l.b 96:=⟨hl.b⟩
 haveI h3:BI l.c 96:=⟨hl.c⟩
 refine fn func124 J J ntmps124 J J (fun C=>?_)
 refine cl rfl (avV (z:=l.a)) rfl<|cl rfl (avV (z:=l.b)) rfl<|cl rfl (avV (z:=l.c)) rfl<|?_
 exact rz J J
theorem aFM{ds:List Nat}(hd:DOk ds)(hn:ds.length≤1000000):PF GB prog 134 [dLi ds] (dN (dv ds)):=by
 have hm:=aaF ds
 refine fn func134 J J ntmps134 J J (fun C=>?_)
 refine ro0 J J<|ap (ds.map dU) J J (anP _) rfl<|fz 5 J J<|cl rfl (af7 (ds:=ds) (by omega)) rfl<|?_
 exact rz rfl (by unfold dN;rw[ado hd];rfl)
theorem aGw{neg:Bool}{ds:List Nat}(hd:DOk ds)(hn:ds.length≤1000000):PF GB prog 136 [.ag [.v (.bool neg),dLi ds]] (eI (ahG neg ds)):=by
 refine fn func136 J J ntmps136 J J (fun C=>?_)
 refine cl rfl (aFM hd hn) rfl<|cl rfl acW rfl<|?_
 exact rz J J
def rlD(r:RL):DV:= .tp [if r.nm then eL r.l else .ag [.v (.bool false), .sl [], .v (.bool false), .sl [], .v (.bool false), .sl []],vB (decide (r.nm∧r.l.ok))]
def smB(n:Int)(ls:List (List Nat)):Bool:=ls.all fun d=>decide ((d.length:Int)≤n)
def RL.smB(n:Int)(r:RL):Bool:=Sx.smB n [r.da,r.db,r.dc]
def rlB(n:Int)(ls:List RL):Bool:=ls.all fun r=>r.smB n
theorem aEP{n i:Nat}[h:BN n i](hi:i≤20000:=by decide):PF GB prog 134 [dN n] (dN n):=by
 have hl:=aa9 h.h
 have:=aFM (GB:=GB) (ds:=dg n) (afe n) (by omega)
 rw[aaV,←az5] at this;exact this
theorem avv(z:Int):ahG (decide (z<0)) (dg z.natAbs)=z:=by
 unfold ahG
 rw[aaV]
 split<;>(rename_i h;simp at h;omega)
theorem aE9{z:Int}{i:Nat}[h:BI z i](hi:i≤20000:=by decide):PF GB prog 136 [eI z] (eI z):=by
 have hl:=aa9 h.h
 have:=aGw (GB:=GB) (neg:=decide (z<0)) (ds:=dg z.natAbs) (afe _) (by omega)
 rw[avv,←az5] at this;exact this
theorem aFb{n:Nat}(h:0<n): ¬((((dg n).map dU).length:Nat):Int)=0:=by
 rw[aJ]
 have:=acx (n:=n)
 omega
instance BQ.m1':BQ (((-1:Int):Int):Rat) 2:=⟨by decide,by decide⟩
instance BQ.m1:BQ (-1:Rat) 2:=⟨by decide,by decide⟩
theorem aFA{q:Rat}{i:Nat}[h:BQ q i](hi:i≤20000:=by decide):PF GB prog 60 [eR q] (eQ q):=by
 have hd:=q.den_pos
 refine fn func60 J J ntmps60 J J (fun C=>?_)
 refine cl (fu:=⟨8⟩) rfl (aEP (n:=q.den) hi) rfl<|knF rfl (by show some (decide _)=some false;rw[decide_eq_false (aFb hd)]) rfl<|cl rfl (aE9 (z:=q.num) hi) rfl<|?_
 refine cl rfl (akB (x:=q.num) (d:=q.den) hd (by omega) (by omega)) rfl<|?_
 exact rz rfl (by rw[sQ];rfl)
theorem axD{q:Rat}{i:Nat}[h:BQ q i](hi:i≤400000000:=by decide):PF GB prog 69 [eQ q] (eR q):=by
 refine fn func69 J J ntmps69 J J (fun C=>?_)
 refine cl rfl (avV (z:=q.num) hi) rfl<|cl rfl (afb (q:=q)) rfl<|cl rfl (aCy (a:=q.den) hi) rfl<|?_
 exact rz J J
theorem aGK{p:PtQ}{i:Nat}[h:BPt p i](hi:i≤20000:=by decide):PF GB prog 19 [ePt p] (eP p):=by
 refine fn func19 J J ntmps19 J J (fun C=>?_)
 refine cl rfl (aFA (q:=p.x) hi) rfl<|cl rfl (aFA (q:=p.y) hi) rfl<|?_
 exact rz J J
theorem aB4{p:PtQ}{i:Nat}[h:BPt p i](hi:i≤20000:=by decide):PF GB prog 25 [eP p] (ePt p):=by
 refine fn func25 J J ntmps25 J J (fun C=>?_)
 refine cl rfl (axD (q:=p.x) (i:=i) (by omega)) rfl<|cl rfl (axD (q:=p.y) (i:=i) (by omega)) rfl<|?_
 exact rz J J
theorem aau{α:Type}(f:α→DV)(l:List α):(l.map f).length=l.length:=aJ ..
theorem ah9(ps:List PtQ):adB 6 (ps.map eP):=fun d hd=>by
 obtain⟨u,_,rfl⟩:=bR.1 hd;exact⟨rfl,rfl⟩
theorem aDl(ps:List PtQ):adB 6 (ps.map ePt):=fun d hd=>by
 obtain⟨u,_,rfl⟩:=bR.1 hd;exact⟨rfl,rfl⟩
theorem aEe{ps:List PtQ}(hb: ∀p∈ps,BPt p 1200)(hn:ps.length≤1000000):PF GB prog 222 [.sl (ps.map ePt)] (.sl (ps.map eP)):=by
 have hm:=aau ePt ps
 refine fn (fu:=⟨15⟩) func222 J J ntmps222 J J (fun C=>?_)
 refine eqF 7 (.d (vI (ps.length:Nat))) rfl (by rw[hm]<;>rfl) ?_
 refine gx rfl<|?_
 refine nr 3 3 58 6 J J J ?_
 refine lp (X:=Nat) (fun k=>[(8, .d (vI (k:Nat))),(3, .rw 3)]) (fun k=>[(3,some (.b 58 6 ((ps.take k).map eP) true))]) (fun k=>k≤ps.length) (fun k=>ps.length-k) 0 rfl (bX _) (fun _=>rfl) (fun k hk=>?_)
 have hml:=aau eP (ps.take k)
 rw[cK] at hml
 refine br J J J (fun hc9=>?_) (fun hc9=>?_)
 ·
  obtain⟨z,hz⟩: ∃s,ps[k]? =some s:=⟨_,aZ (by omega)⟩
  have hzm:=bQ hz
  refine ix _ rfl (aav hz) rfl<|cl rfl (aGK (p:=z) (h:=hb z hzm)) rfl<|rf J J<|ap ((ps.take (k+1)).map eP) rfl (abp hz) (ah9 [z]) rfl<|?_
  refine rnE 16 3 rfl ?_
  exact at_ (k+1) ⟨(by omega),(by omega)⟩
 ·
  obtain rfl:k=ps.length:=by omega
  refine fzE 3 rfl ?_
  exact rz rfl (by rw[fZ];rfl)
theorem aBe{ps:List PtQ}(hb: ∀p∈ps,BPt p 1200)(hn:ps.length≤1000000):PF GB prog 223 [.sl (ps.map eP)] (.sl (ps.map ePt)):=by
 have hm:=aau eP ps
 refine fn (fu:=⟨15⟩) func223 J J ntmps223 J J (fun C=>?_)
 refine eqF 7 (.d (vI (ps.length:Nat))) rfl (by rw[hm]<;>rfl) ?_
 refine gx rfl<|?_
 refine nr 3 3 35 6 J J J ?_
 refine lp (X:=Nat) (fun k=>[(8, .d (vI (k:Nat))),(3, .rw 3)]) (fun k=>[(3,some (.b 35 6 ((ps.take k).map ePt) true))]) (fun k=>k≤ps.length) (fun k=>ps.length-k) 0 rfl (bX _) (fun _=>rfl) (fun k hk=>?_)
 have hml:=aau ePt (ps.take k)
 rw[cK] at hml
 refine br J J J (fun hc9=>?_) (fun hc9=>?_)
 ·
  obtain⟨z,hz⟩: ∃s,ps[k]? =some s:=⟨_,aZ (by omega)⟩
  have hzm:=bQ hz
  refine ix _ rfl (aav hz) rfl<|cl rfl (aB4 (p:=z) (h:=hb z hzm)) rfl<|rf J J<|ap ((ps.take (k+1)).map ePt) rfl (abp hz) (aDl [z]) rfl<|?_
  refine rnE 16 3 rfl ?_
  exact at_ (k+1) ⟨(by omega),(by omega)⟩
 ·
  obtain rfl:k=ps.length:=by omega
  refine fzE 3 rfl ?_
  exact rz rfl (by rw[fZ];rfl)
theorem ayA{p q:PtQ}{i j:Nat}[hp:BPt p i][hq:BPt q j](hi:i≤100000:=by decide)(hj:j≤100000:=by decide):PF GB prog 155 [eP p,eP q] (eP (aeF p q (-1))):=by
 refine fn func155 J J ntmps155 J J (fun C=>?_)
 refine cl rfl (alw (n:= -1) (by decide) (by decide)) rfl<|cl rfl (amw (p:=p) (q:=q) (c:=((-1:Int):Rat)) (i:=i) (j:=j) (k:=2) (by omega) (by omega)) rfl<|?_
 exact rz rfl (by rw[show((-1:Int):Rat)= -1 from rfl];rfl)
theorem ap5{a b c:PtQ}{i j k:Nat}[ha:BPt a i][hb:BPt b j][hc:BPt c k](hi:i≤80000:=by decide)(hj:j≤80000:=by decide)(hk:k≤80000:=by decide):PF GB prog 312 [eP a,eP b,eP c] (vI (ak5 a b c)):=by
 refine fn func312 J J ntmps312 J J (fun C=>?_)
 refine cl rfl (ayA (p:=b) (q:=a) (i:=j) (j:=i) (by omega) (by omega)) rfl<|cl rfl (ayA (p:=c) (q:=a) (i:=k) (j:=i) (by omega) (by omega)) rfl<|?_
 refine cl rfl (ak2 (p:=aeF b a (-1)) (q:=aeF c a (-1)) (by omega) (by omega)) rfl<|cl rfl (q_S (q:=(aeF b a (-1)).cross (aeF c a (-1)))) rfl<|?_
 exact rz J J
def aha(p q:PtQ):Int:=if aa0 p.x q.x≠0 then aa0 p.x q.x else aa0 p.y q.y
theorem akZ{p q:PtQ}{i j:Nat}[hp:BPt p i][hq:BPt q j](hi:i≤100000:=by decide)(hj:j≤100000:=by decide):PF GB prog 261 [eP p,eP q] (vI (aha p q)):=by
 refine fn func261 J J ntmps261 J J (fun C=>?_)
 refine cl rfl (q_C (a:=p.x) (b:=q.x) (by omega) (by omega)) rfl<|?_
 refine br J J J (fun hc12=>?_) (fun hc12=>?_)
 ·
  exact rz rfl (by unfold aha;rw[if_pos hc12];rfl)
 ·
  refine cl rfl (q_C (a:=p.y) (b:=q.y) (by omega) (by omega)) rfl<|?_
  exact rz rfl (by unfold aha;rw[if_neg hc12];rfl)
def arA(l:LnQ):Bool:=decide (l.a<0∨(l.a=0∧l.b<0))
def LnQ.canon(l:LnQ):LnQ:=if arA l then l.rev else l
theorem ag8(a:Int):a.sign<0↔a<0:=by
 rcases mL a 0 with h|h|h
 ·rw[dR h];omega
 ·subst h;simp
 ·rw[fU h];omega
theorem anw(a:Int):a.sign=0↔a=0:=fJ
theorem axM{l:LnQ}(h:l.a<0∨(l.a=0∧l.b<0)):DV.tp [eL l.canon,vB (arA l)]= .tp [eL l.rev,vB true]:=by
 unfold LnQ.canon arA;rw[decide_eq_true h];rfl
theorem asf{l:LnQ}(h: ¬(l.a<0∨(l.a=0∧l.b<0))):DV.tp [eL l.canon,vB (arA l)]= .tp [eL l,vB false]:=by
 unfold LnQ.canon arA;rw[decide_eq_false h];rfl
theorem aqi{l:LnQ}[hl:LB l]:PF GB prog 89 [eL l] (.tp [eL l.canon,vB (arA l)]):=by
 refine fn func89 J J ntmps89 J J (fun C=>?_)
 refine cl rfl (akh (z:=l.a)) rfl<|?_
 refine cs 10 J J J (fun hg10=>?_) (fun hg10=>?_)
 ·
  refine cl rfl (aku (l:=l)) rfl<|?_
  exact rz rfl (by rw[axM (.inl ((ag8 _).1 hg10))];rfl)
 ·
  refine cs 13 J J J (fun hg13=>?_) (fun hg13=>?_)
  ·
   refine cl rfl (akh (z:=l.b)) rfl<|?_
   refine br J J J (fun hc19=>?_) (fun hc19=>?_)
   ·
    refine cl rfl (aku (l:=l)) rfl<|?_
    exact rz rfl (by rw[axM (.inr ⟨(anw _).1 hg13,(ag8 _).1 hc19⟩)];rfl)
   ·
    exact rz rfl (by rw[asf (fun e=>e.elim (fun e=>hg10 ((ag8 _).2 e)) (fun e=>hc19 ((ag8 _).2 e.2)))];rfl)
  ·
   exact rz rfl (by rw[asf (fun e=>e.elim (fun e=>hg10 ((ag8 _).2 e)) (fun e=>hg13 ((anw _).2 e.1)))];rfl)
instance LB.canon (l:LnQ) [h:LB l]:LB l.canon:=by unfold LnQ.canon;split;exact LB.rev h;exact h
theorem alE{l:LnQ}(h:l.ok):l.canon.ok:=by unfold LnQ.canon;split;exact h.rev;exact h
end Go.Sx
end
