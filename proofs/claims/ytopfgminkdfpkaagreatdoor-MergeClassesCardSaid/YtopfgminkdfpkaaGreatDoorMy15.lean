/- Part 15 of a proof. -/
import Derived.Test.YtopfgminkdfpkaaGreatDoorMy14
set_option linter.unusedSimpArgs false
set_option maxHeartbeats 4000000
set_option maxRecDepth 100000
set_option linter.unusedVariables false
section
namespace Go.Sx
open Go Go.Proofs Tryz
variable {GB:Gh}
def aqJ(out:List Rat)(s:IvQ):List Rat:=if s.nh then(if s.nl then out else amV s.lo out) else amV s.hi (if s.nl then out else amV s.lo out)
def aeI(l:List IvQ):List Rat:=l.foldl aqJ []
def ax4:List IvQ→Rat→Int
 |[],_=>0
 |s::t,x=>
  let a:=if s.nl then 1 else abh x s.lo
  let b:=if s.nh then-1 else abh x s.hi
  if 0<a∧b<0 then 2 else if(a=0∧b≤0)∨(b=0∧0≤a) then 1 else ax4 t x
def acS(l:List IvQ)(x:Rat):Bool:=decide (ax4 l x=2)
def afr(cuts:List Rat)(i:Nat):IvQ:=⟨if i=0 then 0 else cuts.getD (i-1) 0,if i<cuts.length then cuts.getD i 0 else 0,decide (i=0),decide (i=cuts.length)⟩
def al4(v w:IvQ):IvQ:=⟨v.lo,w.hi,v.nl,w.nh⟩
def adc(cuts:List Rat)(marks:List Bool):Nat→List IvQ
 |0=>[]
 |k+1=>
  let out:=adc cuts marks k
  if marks.getD k false then
   (if 0<k∧marks.getD (k-1) false=true then(match out.getLast? with
    |some v=>out.dropLast++[al4 v (afr cuts k)]
    |none=>out++[afr cuts k]) else out++[afr cuts k])
  else out
def aox(cuts:List Rat)(marks:List Bool):List IvQ:=adc cuts marks marks.length
def ahl(op:Int)(x y:Bool):Bool:=if op=2 then x&&y else if op=3 then x&&!y else if op=4 then x !=y else x||y
def aiV(op:Int)(a b:List IvQ):List IvQ:=aox (aeI (a++b)) ((acP (aeI (a++b))).map fun t=>ahl op (acS a t) (acS b t))
def ad9(l m:LnQ)(side:Int):List IvQ:=
 if crossI l m=0 then(if(m.value l.base).num.sign=side then [IvQ.all] else [])
 else if(m.value (l.at (acl l (acR l m)+1))).num.sign=side then [⟨acl l (acR l m),0,false,true⟩] else [⟨0,acl l (acR l m),true,false⟩]
def onB(l m:LnQ):Bool:=decide (crossI l m=0∧(m.value l.base).num.sign=0)
def aa4(f:FrQ)(m:LnQ)(side:Int):List FrQ:=if onB f.l m then [] else(aiV 2 [f.v] (ad9 f.l m side)).map fun v=>⟨f.l,v⟩
theorem akw(l:List IvQ):(aeI l).Pairwise (· < ·)∧ ∀y∈aeI l,∃s∈l,(s.nl=false∧y=s.lo)∨(s.nh=false∧y=s.hi):=by
 have key: ∀(l:List IvQ) (o:List Rat),o.Pairwise (· < ·)→(l.foldl aqJ o).Pairwise (· < ·)∧ ∀y∈l.foldl aqJ o,y∈o∨ ∃s∈l,(s.nl=false∧y=s.lo)∨(s.nh=false∧y=s.hi):=by
  intro l
  induction l with
  |nil=>intro o h;exact⟨h,fun y hy=> .inl hy⟩
  |cons s t ih=>
   intro o h
   have h1:(aqJ o s).Pairwise (· < ·)∧ ∀y∈aqJ o s,y∈o∨(s.nl=false∧y=s.lo)∨(s.nh=false∧y=s.hi):=by
    unfold aqJ
    cases e1:s.nl<;>cases e2:s.nh<;>simp only[if_true,jZ,if_false]
    ·refine⟨afM (afM h),fun y hy=>?_⟩
     rcases acO.1 hy with h|h
     ·exact .inr (.inr ⟨trivial,h⟩)
     ·rcases acO.1 h with h|h
      ·exact .inr (.inl ⟨trivial,h⟩)
      ·exact .inl h
    ·refine⟨afM h,fun y hy=>?_⟩
     rcases acO.1 hy with h|h
     ·exact .inr (.inl ⟨trivial,h⟩)
     ·exact .inl h
    ·refine⟨afM h,fun y hy=>?_⟩
     rcases acO.1 hy with h|h
     ·exact .inr (.inr ⟨trivial,h⟩)
     ·exact .inl h
    ·exact⟨h,fun y hy=> .inl hy⟩
   obtain⟨k1,k2⟩:=ih (aqJ o s) h1.1
   refine⟨k1,fun y hy=>?_⟩
   rcases k2 y hy with h2|⟨q,hq,h2⟩
   ·rcases h1.2 y h2 with h3|h3
    ·exact .inl h3
    ·exact .inr ⟨s,aQ,h3⟩
   ·exact .inr ⟨q,aX _ hq,h2⟩
 have:=key l [] List.Pairwise.nil
 refine⟨this.1,fun y hy=>?_⟩
 rcases this.2 y hy with h|h
 ·cases h
 ·exact h
structure aD5 (cuts:List Rat) (v:IvQ):Prop where
 z:IvZ v
 lo:v.nl=true∨v.lo∈cuts
 hi:v.nh=true∨v.hi∈cuts
theorem ay1{cuts:List Rat}{i:Nat}(h:i≤cuts.length):aD5 cuts (afr cuts i):=by
 unfold afr
 refine⟨⟨fun e=>?_,fun e=>?_⟩,?_,?_⟩
 ·simp only[decide_eq_true_eq] at e;simp[e]
 ·simp only[decide_eq_true_eq] at e;simp[e]
 ·by_cases h0:i=0
  ·left;simp[h0]
  ·right
   simp only[if_neg h0]
   rw[aK,aZ (by omega)]
   exact cJ _
 ·by_cases h0:i=cuts.length
  ·left;simp[h0]
  ·right
   simp only[if_pos (show i<cuts.length by omega)]
   rw[aK,aZ (by omega)]
   exact cJ _
theorem aoW{cuts:List Rat}{marks:List Bool}: ∀{k:Nat},k≤cuts.length+1→ ∀v∈adc cuts marks k,aD5 cuts v
 |0,_,v,hv=>by cases hv
 |k+1,hk,v,hv=>by
  have ih:=aoW (cuts:=cuts) (marks:=marks) (k:=k) (by omega)
  have hg:=ay1 (cuts:=cuts) (i:=k) (by omega)
  rw[adc] at hv
  split at hv
  ·split at hv
   ·split at hv
    ·rename_i w hw
     rcases bV.1 hv with h|h
     ·exact ih v ((List.dropLast_sublist _).subset h)
     ·rw[aS] at h;subst h
      have hw':=ih w (rW hw)
      exact⟨⟨hw'.z.1,hg.z.2⟩,hw'.lo,hg.hi⟩
    ·rcases bV.1 hv with h|h
     ·exact ih v h
     ·rw[aS] at h;subst h;exact hg
   ·rcases bV.1 hv with h|h
    ·exact ih v h
    ·rw[aS] at h;subst h;exact hg
  ·exact ih v hv
theorem agD{l:List Rat}:(acP l).length=l.length+1:=by
 have key: ∀(l:List Rat) (a:Rat),(ae7 (a::l)).length=l.length:=by
  intro l
  induction l with
  |nil=>intro a;rfl
  |cons b t ih=>intro a;rw[ae7,bZ,ih b,bZ]
 cases l with
 |nil=>rfl
 |cons a t=>rw[acP,bZ,aV,key];simp
theorem avZ{op:Int}{a b:List IvQ}: ∀v∈aiV op a b,aD5 (aeI (a++b)) v:=fun v hv=>by
 unfold aiV aox at hv
 refine aoW ?_ v hv
 rw[aJ,agD];omega
theorem aiN{cuts:List Rat}{marks:List Bool}: ∀{k:Nat},(adc cuts marks k).length≤k
 |0=>aM _
 |k+1=>by
  have ih:=aiN (cuts:=cuts) (marks:=marks) (k:=k)
  rw[adc]
  split
  ·split
   ·split
    ·rename_i w hw
     have:=List.length_pos_of_mem (rW hw)
     rw[aV,gU];simp;omega
    ·rw[aV];simp;omega
   ·rw[aV];simp;omega
  ·omega
structure FOk (f:FrQ):Prop where
 lb:LB f.l
 ok:f.l.ok
 z:IvZ f.v
 lo:BQ f.v.lo 1200
 hi:BQ f.v.hi 1200
theorem BQ.zero1200:BQ (0:Rat) 1200:=BQ.mono (k:=1) ⟨by decide,by decide⟩ (by decide)
theorem an7{l m:LnQ}(hl:LB l)(hm:LB m)(hlo:l.ok){side:Int}: ∀v∈ad9 l m side,IvZ v∧BQ v.lo 1200∧BQ v.hi 1200:=fun v hv=>by
 unfold ad9 at hv
 split at hv
 ·split at hv
  ·rw[aS] at hv;subst hv;exact⟨IvZ.all,BQ.zero1200,BQ.zero1200⟩
  ·cases hv
 ·rename_i hc
  have:=aik hlo.ne hc
  split at hv
  ·rw[aS] at hv;subst hv;exact⟨⟨fun h=>(by cases h),fun _=>rfl⟩,this,BQ.zero1200⟩
  ·rw[aS] at hv;subst hv;exact⟨⟨fun _=>rfl,fun h=>(by cases h)⟩,BQ.zero1200,this⟩
theorem akU{f:FrQ}{m:LnQ}(h:FOk f)(hm:LB m){side:Int}: ∀g∈aa4 f m side,FOk g∧g.l=f.l∧onB f.l m=false:=fun g hg=>by
 unfold aa4 at hg
 split at hg
 ·cases hg
 ·rename_i ho
  obtain⟨v,hv,rfl⟩:=bL.1 hg
  have hi:=avZ v hv
  have bd: ∀y∈aeI ([f.v]++ad9 f.l m side),BQ y 1200:=fun y hy=>by
   obtain⟨s,hs,h1⟩:=(akw _).2 y hy
   rcases bV.1 hs with hs|hs
   ·rw[aS] at hs;subst hs
    rcases h1 with⟨_,rfl⟩|⟨_,rfl⟩
    ·exact h.lo
    ·exact h.hi
   ·have:=an7 h.lb hm h.ok s hs
    rcases h1 with⟨_,rfl⟩|⟨_,rfl⟩
    ·exact this.2.1
    ·exact this.2.2
  refine⟨⟨h.lb,h.ok,hi.z,?_,?_⟩,rfl,by simpa using ho⟩
  ·rcases hi.lo with e|e
   ·rw[hi.z.1 e];exact BQ.zero1200
   ·exact bd _ e
  ·rcases hi.hi with e|e
   ·rw[hi.z.2 e];exact BQ.zero1200
   ·exact bd _ e
def alZ(acc:PtQ→Bool):Nat→List FrQ→List LnQ→Tr
 |_,[],c=> .leaf (acc (acJ c c))
 |0,_::_,_=> .leaf false
 |n+1,f::t,c=> .node f.l (alZ acc n ((f::t).flatMap fun g=>aa4 g f.l 1) (c++[f.l])) (alZ acc n ((f::t).flatMap fun g=>aa4 g f.l (-1)) (c++[f.l.rev]))
theorem ave{f g:FrQ}{m:LnQ}{side:Int}(h:g∈aa4 f m side):g.l=f.l:=by
 unfold aa4 at h
 split at h
 ·cases h
 ·obtain⟨v,_,rfl⟩:=bL.1 h;rfl
theorem agF{acc:PtQ→Bool}{P:LnQ→Prop}: ∀{n:Nat} {l:List FrQ} {c:List LnQ},(∀f∈l,P f.l)→(alZ acc n l c).all P
 |n,[],c,_=>by unfold alZ;trivial
 |0,_::_,_,_=>by unfold alZ;trivial
 |n+1,f::t,c,h=>by
  rw[alZ]
  refine⟨h f aQ,agF fun g hg=>?_,agF fun g hg=>?_⟩<;>
  ·obtain⟨q,hq,hg⟩:=pX.1 hg
   rw[ave hg];exact h q hq
theorem ahm{acc:PtQ→Bool}: ∀{n:Nat} {l:List FrQ} {c:List LnQ},(alZ acc n l c).depth≤n
 |n,[],c=>by unfold alZ;exact bK _
 |0,_::_,_=>by unfold alZ;exact bK _
 |n+1,f::t,c=>by
  rw[alZ,Tr.depth]
  have h1:=ahm (acc:=acc) (n:=n) (l:=(f::t).flatMap fun g=>aa4 g f.l 1) (c:=c++[f.l])
  have h2:=ahm (acc:=acc) (n:=n) (l:=(f::t).flatMap fun g=>aa4 g f.l (-1)) (c:=c++[f.l.rev])
  omega
def Few(n:Nat)(l:List FrQ):Prop:= ∃K:List LnQ,K.length≤n∧ ∀f∈l,∃m∈K,m.same f.l
theorem am4{m:LnQ}(hm:m.Ne):m.value m.base=0:=by
 have h:=ait hm 0
 rw[←auu,abM] at h
 grind
theorem awV{l m:LnQ}(h:l.same m)(hm:m.Ne):onB m l=true:=by
 unfold onB
 rw[decide_eq_true_iff]
 refine⟨?_,?_⟩
 ·rcases h with rfl|rfl
  ·unfold crossI;omega
  ·unfold crossI LnQ.rev
   show(-l.a)*l.b-l.a*(-l.b)=0
   grind
 ·rw[aby]
  exact ah6 h.symm (am4 hm)
theorem Few.split{n:Nat}{f:FrQ}{t:List FrQ}(h:Few (n+1) (f::t))(hok: ∀g∈f::t,FOk g){side:Int}:Few n ((f::t).flatMap fun g=>aa4 g f.l side):=by
 obtain⟨K,hK,hs⟩:=h
 refine⟨K.filter fun m=>!decide (m.same f.l),?_,fun g hg=>?_⟩
 ·obtain⟨m,hm,hm2⟩:=hs f aQ
  have:(K.filter fun m=>!decide (m.same f.l)).length<K.length:=by
   refine oV.2 ⟨m,hm,by simp[hm2]⟩
  omega
 ·obtain⟨q,hq,hg⟩:=pX.1 hg
  obtain⟨_,e,ho⟩:=akU (hok q hq) (hok f aQ).lb g hg
  obtain⟨m,hm,hm2⟩:=hs q hq
  refine⟨m,jN.2 ⟨hm,?_⟩,by rw[e];exact hm2⟩
  simp only[fL,decide_eq_false_iff_not]
  intro h
  have:=awV (h.symm.trans hm2) (hok q hq).ok.ne
  rw[this] at ho;cases ho
theorem aCt{p q r:Bool}{a b c:Nat}(h:Nat.gcd a b≠0):LnQ.ok ⟨zv p (a/Nat.gcd (Nat.gcd a b) c),zv q (b/Nat.gcd (Nat.gcd a b) c),zv r (c/Nat.gcd (Nat.gcd a b) c)⟩:=by
 have hg:0<Nat.gcd (Nat.gcd a b) c:=nS _ (jX h)
 have d0:Nat.gcd (Nat.gcd a b) c∣Nat.gcd a b:=rQ _ _
 have d1:Nat.gcd (Nat.gcd a b) c∣a:=Nat.dvd_trans d0 (rQ _ _)
 have d2:Nat.gcd (Nat.gcd a b) c∣b:=Nat.dvd_trans d0 (qT _ _)
 have d3:Nat.gcd (Nat.gcd a b) c∣c:=qT _ _
 refine⟨?_,?_⟩
 ·rintro ⟨h1,h2⟩
  have h1':=congrArg Int.natAbs h1
  have h2':=congrArg Int.natAbs h2
  simp only[af6,kQ] at h1' h2'
  have e1:=Nat.div_mul_cancel d1
  have e2:=Nat.div_mul_cancel d2
  rw[h1',jL] at e1
  rw[h2',jL] at e2
  exact h (by rw[←e1,←e2];rfl)
 ·simp only[af6]
  rw[Nat.gcd_div d1 d2,Nat.gcd_div d0 d3,Nat.div_self hg]
theorem atf(p:Bool)(a g:Nat):(zv p (a/g)).natAbs≤a:=by rw[af6];exact jM ..
theorem PF.eq{P:Program}{f:FuncId}{vs:List DV}{r r':DV}(h:PF GB P f vs r)(e:r=r'):PF GB P f vs r':=e▸h
def iP(m n:Int):PtQ:=⟨(m:Rat),(n:Rat)⟩
theorem aBD{m:Int}{k:Nat}(h:m.natAbs<2^k):BI m k:=⟨h⟩
theorem biC{m:Int}{k:Nat}(h:m.natAbs≤1000)(hk:10≤k):BI m k:=⟨cN (show m.natAbs<2^10 by omega) (bJ (by decide) hk)⟩
instance BPt.int (m n:Int) (i:Nat) [h:BI m i] [k:BI n i]:BPt (iP m n) (i+1):=⟨inferInstanceAs (BQ (m:Rat) (i+1)),inferInstanceAs (BQ (n:Rat) (i+1))⟩
theorem eQI{q:Rat}{k:Int}(h:q=(k:Rat)):eQ q=eQ (k:Rat):=by rw[h]
theorem ePI{p:PtQ}{m n:Int}(h1:p.x=(m:Rat))(h2:p.y=(n:Rat)):eP p=eP (iP m n):=by
 obtain⟨x,y⟩:=p
 simp only at h1 h2
 subst h1 h2
 rfl
def mkL(a b c:Int):LnQ:=
 ⟨zv (decide (a<0)) (a.natAbs/Nat.gcd (Nat.gcd a.natAbs b.natAbs) c.natAbs),zv (decide (b<0)) (b.natAbs/Nat.gcd (Nat.gcd a.natAbs b.natAbs) c.natAbs),zv (decide (c<0)) (c.natAbs/Nat.gcd (Nat.gcd a.natAbs b.natAbs) c.natAbs)⟩
theorem axL{a b c:Int}(h: ¬(a=0∧b=0)):(mkL a b c).ok:=
 aCt fun e=>h ⟨qQ.1 (Nat.eq_zero_of_gcd_eq_zero_left e),qQ.1 (Nat.eq_zero_of_gcd_eq_zero_right e)⟩
theorem ayb(a b c:Int):(mkL a b c).a.natAbs≤a.natAbs∧(mkL a b c).b.natAbs≤b.natAbs∧(mkL a b c).c.natAbs≤c.natAbs:=⟨atf ..,atf ..,atf ..⟩
theorem apP{m n:Int}(hm:m.natAbs≤1000)(hn:n.natAbs≤1000):PF GB prog 78 [.v (.int .i64 m), .v (.int .i64 n)] (eP (iP m n)):=by
 refine fn func78 J J ntmps78 J J (fun C=>?_)
 refine cl rfl (al0 (n:=m) (by omega) (by omega)) rfl<|cl rfl (al0 (n:=n) (by omega) (by omega)) rfl<|?_
 exact rz J J
theorem ao3{m n m' n' k:Int}(hm:m.natAbs≤1000)(hn:n.natAbs≤1000)(hm':m'.natAbs≤1000)(hn':n'.natAbs≤1000)(hk:k.natAbs≤1000):PF GB prog 100 [eP (iP m n),eQ (k:Rat),eP (iP m' n')] (eP (iP (m+k*m') (n+k*n'))):=by
 haveI:=biC (k:=10) hm (by decide)
 haveI:=biC (k:=10) hn (by decide)
 haveI:=biC (k:=10) hm' (by decide)
 haveI:=biC (k:=10) hn' (by decide)
 haveI:=biC (k:=10) hk (by decide)
 exact PF.eq (amr (p:=iP m n) (q:=iP m' n') (c:=(k:Rat))) (ePI (by show(m:Rat)+(k:Rat)*(m':Rat)=_;push_cast;rfl) (by show(n:Rat)+(k:Rat)*(n':Rat)=_;push_cast;rfl))
theorem aCe{m n m' n':Int}(hm:m.natAbs≤1000)(hn:n.natAbs≤1000)(hm':m'.natAbs≤1000)(hn':n'.natAbs≤1000):PF GB prog 155 [eP (iP m n),eP (iP m' n')] (eP (iP (m-m') (n-n'))):=by
 refine fn func155 J J ntmps155 J J (fun C=>?_)
 refine cl rfl (al0 (n:= -1) (by decide) (by decide)) rfl<|cl rfl (ao3 (m:=m) (n:=n) (m':=m') (n':=n') (k:= -1) hm hn hm' hn' (by decide)) rfl<|?_
 exact rz rfl (by rw[show m-m'=m+ -1*m' by omega,show n-n'=n+ -1*n' by omega];rfl)
theorem alI{m n m' n':Int}(hm:m.natAbs≤1000)(hn:n.natAbs≤1000)(hm':m'.natAbs≤1000)(hn':n'.natAbs≤1000):PF GB prog 175 [eP (iP m n),eP (iP m' n')] (.v (.bool (decide (m=m'∧n=n')))):=by
 haveI:=biC (k:=10) hm (by decide)
 haveI:=biC (k:=10) hn (by decide)
 haveI:=biC (k:=10) hm' (by decide)
 haveI:=biC (k:=10) hn' (by decide)
 refine fn func175 J J ntmps175 J J (fun C=>?_)
 refine cl rfl (q_C (a:=(m:Rat)) (b:=(m':Rat))) rfl<|?_
 refine cs 11 J J J (fun hg11=>?_) (fun hg11=>?_)
 ·
  refine cl rfl (q_C (a:=(n:Rat)) (b:=(n':Rat))) rfl<|?_
  exact rz rfl (by rw[aeF] at hg11;have e:m=m':=(by exact_mod_cast hg11);exact congrArg (fun z=>DV.v (.bool z)) (decide_eq_decide.2 (by rw[aeF,mS];simp[e])))
 ·
  exact rz rfl (by rw[aeF] at hg11;have e: ¬m=m':=(fun e=>hg11 (by rw[e]));show DV.v (.bool false)=DV.v (.bool _);rw[decide_eq_false (fun h=>e h.1)])
theorem atJ{a b k:Nat}(ha:a<k)(hb:b<k):Nat.gcd a b<k:=by
 rcases eY a with rfl|p
 ·simpa using hb
 ·exact fY (Nat.gcd_le_left b p) ha
theorem az5{a b c:Int}{i:Nat}(ha:BI a i)(hb:BI b i)(hc:BI c i)(hi:i≤100000000)(h0: ¬(a=0∧b=0)):PF GB prog 158 [eI a,eI b,eI c] (.tp [eL (mkL a b c), .v (.bool true)]):=by
 have hgn:Nat.gcd a.natAbs b.natAbs≠0:=fun h=>h0 ⟨qQ.1 (Nat.eq_zero_of_gcd_eq_zero_left h),qQ.1 (Nat.eq_zero_of_gcd_eq_zero_right h)⟩
 have hgp:0<Nat.gcd (Nat.gcd a.natAbs b.natAbs) c.natAbs:=nS _ (jX hgn)
 haveI hb1:BN (Nat.gcd a.natAbs b.natAbs) i:=⟨atJ ha.h hb.h⟩
 haveI hb2:BN (Nat.gcd (Nat.gcd a.natAbs b.natAbs) c.natAbs) i:=⟨atJ hb1.h hc.h⟩
 refine fn func158 J J ntmps158 J J (fun C=>?_)
 refine cl rfl (ale (a:=a.natAbs) (b:=b.natAbs) (by omega) (by omega)) rfl<|?_
 refine br J J J (fun hc22=>?_) (fun hc22=>?_)
 ·
  exact absurd hc22 (by rw[aJ];intro h;exact hgn (acw.1 (by omega)))
 ·
  refine cl rfl (ale (a:=Nat.gcd a.natAbs b.natAbs) (b:=c.natAbs) (by omega) (by omega)) rfl<|cl rfl (afD (a:=a.natAbs) (b:=Nat.gcd (Nat.gcd a.natAbs b.natAbs) c.natAbs) hgp (by omega) (by omega)) rfl<|?_
  refine cl rfl (afD (a:=b.natAbs) (b:=Nat.gcd (Nat.gcd a.natAbs b.natAbs) c.natAbs) hgp (by omega) (by omega)) rfl<|cl rfl (afD (a:=c.natAbs) (b:=Nat.gcd (Nat.gcd a.natAbs b.natAbs) c.natAbs) hgp (by omega) (by omega)) rfl<|?_
  refine cl rfl (acV (m:=a.natAbs/(Nat.gcd (Nat.gcd a.natAbs b.natAbs) c.natAbs)) (neg:=decide (a<0))) rfl<|cl rfl (acV (m:=b.natAbs/(Nat.gcd (Nat.gcd a.natAbs b.natAbs) c.natAbs)) (neg:=decide (b<0))) rfl<|?_
  refine cl rfl (acV (m:=c.natAbs/(Nat.gcd (Nat.gcd a.natAbs b.natAbs) c.natAbs)) (neg:=decide (c<0))) rfl<|?_
  exact rz J J
def auR(n n':Int):Int:= -(n'-n)
def auQ(m m':Int):Int:=m'-m
def ayM(m n m' n':Int):Int:= -(auR n n'*m+auQ m m'*n)
def ao6(m n m' n':Int):LnQ:=mkL (auR n n') (auQ m m') (ayM m n m' n')
theorem afR{a b:Int}(ha:a.natAbs≤2000)(hb:b.natAbs≤1000):(a*b).natAbs≤2000000:=by
 rw[iV];exact iK ha hb
theorem ai9{m n m' n':Int}(hm:m.natAbs≤1000)(hn:n.natAbs≤1000)(hm':m'.natAbs≤1000)(hn':n'.natAbs≤1000)(h0: ¬(m=m'∧n=n')):PF GB prog 77 [eP (iP m n),eP (iP m' n')] (.tp [eL (ao6 m n m' n'), .v (.bool true)]):=by
 obtain⟨a,hA⟩: ∃a,a=auR n n':=⟨_,rfl⟩
 obtain⟨b,hB⟩: ∃b,b=auQ m m':=⟨_,rfl⟩
 have hA':a= -(n'-n):=hA
 have hB':b=m'-m:=hB
 obtain⟨c,hC⟩: ∃c,c= -(a*m+b*n):=⟨_,rfl⟩
 have e1:=afR (a:=a) (b:=m) (by omega) hm
 have e2:=afR (a:=b) (b:=n) (by omega) hn
 haveI hm0:=biC (k:=10) hm (by decide)
 haveI hn0:=biC (k:=10) hn (by decide)
 haveI ha:BI a 30:=aBD (by omega)
 haveI hb:BI b 30:=aBD (by omega)
 haveI hc:BI c 30:=aBD (by omega)
 have hthr:ao6 m n m' n'=mkL a b c:=by rw[hC,hA,hB];rfl
 have hne: ¬(a=0∧b=0):=fun h=>h0 (by omega)
 refine fn func77 J J ntmps77 J J (fun C=>?_)
 refine cl rfl (aCe (m:=m') (n:=n') (m':=m) (n':=n) hm' hn' hm hn) rfl<|cl rfl (PF.eq (aop (q:=(((n'-n):Int):Rat))) (eQI (k:=a) (by rw[hA'];push_cast;rfl))) rfl<|?_
 refine cl rfl (PF.eq (abt (a:=(a:Rat)) (b:=(m:Rat))) (eQI (k:=a*m) (by push_cast;rfl))) rfl<|cl rfl (PF.eq (by haveI:BI (m'-m) 30:=(by rw[←hB'];exact hb);exact abt (a:=(((m'-m):Int):Rat)) (b:=(n:Rat))) (eQI (k:=b*n) (by rw[hB'];push_cast;rfl))) rfl<|?_
 refine cl rfl (PF.eq (ae3 (a:=((a*m:Int):Rat)) (b:=((b*n:Int):Rat))) (eQI (k:=a*m+b*n) (by push_cast;rfl))) rfl<|cl rfl (PF.eq (aop (q:=((a*m+b*n:Int):Rat))) (eQI (k:=c) (by rw[hC];push_cast;rfl))) rfl<|?_
 refine cl rfl (ae9 (q:=(a:Rat))) rfl<|cl rfl (ae9 (q:=(((m'-m):Int):Rat))) rfl<|cl rfl (PF.eq (aci (a:=1) (b:=1)) rfl) rfl<|?_
 refine cl rfl (ae9 (q:=(c:Rat))) rfl<|cl rfl (PF.eq (aci (a:=1) (b:=1)) rfl) rfl<|cl (fu:=⟨1⟩) rfl (acV (neg:=false) (m:=1)) rfl<|?_
 refine eqF 40 (.d (eQ ((1:Int):Rat))) J J ?_
 refine gx rfl<|cl rfl (PF.eq (abt (a:=(a:Rat)) (b:=((1:Int):Rat))) (eQI (k:=a) (by push_cast;grind))) rfl<|cl rfl (PF.eq (by haveI:BI (m'-m) 30:=(by rw[←hB'];exact hb);exact abt (a:=(((m'-m):Int):Rat)) (b:=((1:Int):Rat))) (eQI (k:=b) (by rw[hB'];push_cast;grind))) rfl<|?_
 refine cl rfl (PF.eq (abt (a:=(c:Rat)) (b:=((1:Int):Rat))) (eQI (k:=c) (by push_cast;grind))) rfl<|cl rfl (az5 (a:=a) (b:=b) (c:=c) ha hb hc (by decide) hne) rfl<|?_
 exact rz rfl (by rw[hthr];rfl)
theorem aqp{es:List Int}{a:Nat}(h:a<es.length):(es.map vI)[(a:Int).toNat]? =some (vI es[a]):=by simp[h]
theorem awF:eP (iP 0 0)= .ag [.v (.bool false), .sl [], .sl [], .v (.bool false), .sl [], .sl []]:=by
 unfold eP iP
 simp[adj,dD]
theorem aA6{m n p q:Int}(hm:m.natAbs≤4)(hn:n.natAbs≤4)(hp:p.natAbs≤4)(hq:q.natAbs≤4)(h: ¬(p=0∧q=0)):LS (ao6 m n (m+1*p) (n+1*q)):=by
 have e1:auR n (n+1*q)= -q:=by unfold auR;omega
 have e2:auQ m (m+1*p)=p:=by unfold auQ;omega
 have e3:((-q)*m).natAbs≤4*4:=by rw[iV];exact iK (by omega) hm
 have e4:(p*n).natAbs≤4*4:=by rw[iV];exact iK hp hn
 have e5:ayM m n (m+1*p) (n+1*q)= -((-q)*m+p*n):=by unfold ayM;rw[e1,e2]
 unfold ao6
 obtain⟨k1,k2,k3⟩:=ayb (auR n (n+1*q)) (auQ m (m+1*p)) (ayM m n (m+1*p) (n+1*q))
 exact⟨axL (by rw[e1,e2];omega),cV k1 (by rw[e1];omega),cV k2 (by rw[e2];omega),cV k3 (by rw[e5];omega)⟩
def aae(es:List Int)(n:Int)(a:Nat):Nat×Nat:=
 if h:a<es.length then((if Int.tmod es[a] n<0 then Int.tmod es[a] n+n else Int.tmod es[a] n).toNat,a+1) else(0,a)
theorem aa0{es:List Int}{n:Int}{a:Nat}(hn:1≤n):((aae es n a).1:Int)<n:=by
 unfold aae
 split
 ·rename_i h
  have q2:=qZ es[a] (show 0<n by omega)
  dsimp only
  split<;>omega
 ·exact hn
theorem aat{es:List Int}{n:Int}{a:Nat}(ha:a≤es.length):(aae es n a).2≤es.length:=by
 unfold aae
 split
 ·assumption
 ·exact ha
def pF(es:List Int)(a:Nat):(Int×Int)×Nat:=((((aae es 9 a).1:Int)-4,((aae es 9 (aae es 9 a).2).1:Int)-4),(aae es 9 (aae es 9 a).2).2)
theorem anD{es:List Int}{a:Nat}(ha:a≤es.length):(pF es a).1.1.natAbs≤4∧(pF es a).1.2.natAbs≤4∧(pF es a).2≤es.length:=by
 have h1:=aa0 (es:=es) (n:=9) (a:=a) (by decide)
 have h2:=aa0 (es:=es) (n:=9) (a:=(aae es 9 a).2) (by decide)
 have h3:=aat (n:=9) (aat (es:=es) (n:=9) ha)
 unfold pF
 exact⟨by dsimp only;omega,by dsimp only;omega,h3⟩
def vF(es:List Int)(a:Nat):(Int×Int)×Nat:=if(pF es a).1.1=0∧(pF es a).1.2=0 then((1,0),(pF es a).2) else pF es a
theorem aqE{es:List Int}{a:Nat}(ha:a≤es.length):(vF es a).1.1.natAbs≤4∧(vF es a).1.2.natAbs≤4∧ ¬((vF es a).1.1=0∧(vF es a).1.2=0)∧(vF es a).2≤es.length:=by
 obtain⟨h1,h2,h3⟩:=anD ha
 unfold vF
 split
 ·exact⟨show(1:Int).natAbs≤4 by decide,show(0:Int).natAbs≤4 by decide,show¬((1:Int)=0∧(0:Int)=0) by decide,h3⟩
 ·rename_i h;exact⟨h1,h2,h,h3⟩
def lF(es:List Int)(a:Nat):LnQ×Nat:=(ao6 (pF es a).1.1 (pF es a).1.2 ((pF es a).1.1+1*(vF es (pF es a).2).1.1) ((pF es a).1.2+1*(vF es (pF es a).2).1.2),(vF es (pF es a).2).2)
theorem aqy{es:List Int}{a:Nat}(ha:a≤es.length):LS (lF es a).1∧(lF es a).2≤es.length:=by
 obtain⟨h1,h2,h3⟩:=anD ha
 obtain⟨k1,k2,k3,k4⟩:=aqE h3
 exact⟨aA6 h1 h2 k1 k2 k3,k4⟩
def aa8(es:List Int):Nat→Nat→Tr×Nat
 |0,a=>(.leaf (decide (((aae es 2 a).1:Int)=1)),(aae es 2 a).2)
 |d+1,a=>if((aae es 4 a).1:Int)=0 then(.leaf (decide (((aae es 2 (aae es 4 a).2).1:Int)=1)),(aae es 2 (aae es 4 a).2).2) else
  (.node (lF es (aae es 4 a).2).1 (aa8 es d (lF es (aae es 4 a).2).2).1 (aa8 es d (aa8 es d (lF es (aae es 4 a).2).2).2).1,(aa8 es d (aa8 es d (lF es (aae es 4 a).2).2).2).2)
theorem ag9{es:List Int}: ∀{d a:Nat},a≤es.length→(aa8 es d a).1.depth≤d∧(aa8 es d a).1.all LnQ.ok∧(aa8 es d a).1.all (fun l=>BL l 96)∧(aa8 es d a).2≤es.length
 |0,a,ha=>⟨bK _,trivial,trivial,aat ha⟩
 |d+1,a,ha=>by
  have h4:=aat (n:=4) ha
  unfold aa8
  split
  ·exact⟨bK _,trivial,trivial,aat h4⟩
  ·obtain⟨hl,h5⟩:=aqy h4
   obtain⟨d1,o1,b1,h6⟩:=ag9 (d:=d) h5
   obtain⟨d2,o2,b2,h7⟩:=ag9 (d:=d) h6
   exact⟨by show 1+max _ _≤_;omega,⟨hl.ok,o1,o2⟩,⟨hl.bl,b1,b2⟩,h7⟩
theorem abD{b:Nat}{es:List Int}(hes:es.length≤400){a:Nat}(ha:a≤es.length){n:Int}(hn:1≤n)(hn2:n≤1000):PM GB prog 42 (mkP [none,some (.v (.int .i64 n))] b) b 94 [.sl (es.map vI), .v (.int .i64 (a:Nat))] (.v (.int .i64 ((aae es n a).1:Nat))) [.sl (es.map vI), .v (.int .i64 ((aae es n a).2:Nat))]:=by
 have hel:(es.map vI).length=es.length:=by simp
 refine fnM func42 J J ntmps42 J J (fun C b m lo hmb=>?_)
 refine br J J J (fun hc15=>?_) (fun hc15=>?_)
 ·
  have hf:aae es n a=(0,a):=by unfold aae;rw[dif_neg (by omega)]
  exact rzM hmb J J (by rw[hf]<;>rfl) (by rw[hf]<;>rfl)
 ·
  have hal:a<es.length:=by omega
  obtain⟨e,he⟩: ∃e,e=es[a]:=⟨_,rfl⟩
  have q2:=qZ e (show 0<n by omega)
  have q3: -n<Int.tmod e n:=by have:=Int.lt_tmod_of_pos e (show 0<n by omega);omega
  refine ix (fu:=⟨1⟩) _ rfl (aqp hal) rfl<|?_
  refine eqF 25 (.d (vI e)) rfl (by rw[he]<;>rfl) ?_
  refine gx (hv:=by simp only[aai];exact⟨⟨by omega,by kernel_rfl⟩,by omega⟩) rfl<|?_
  refine br J J J (fun hc36=>?_) (fun hc36=>?_)
  ·
   have hf:aae es n a=((Int.tmod e n+n).toNat,a+1):=by unfold aae;rw[dif_pos hal,←he,if_pos hc36]
   exact rzM hmb J J (by rw[hf];show DV.v (.int .i64 _)=DV.v (.int .i64 _);rw[lV (by omega)]) (by rw[hf]<;>rfl)
  ·
   have hf:aae es n a=((Int.tmod e n).toNat,a+1):=by unfold aae;rw[dif_pos hal,←he,if_neg hc36]
   exact rzM hmb J J (by rw[hf];show DV.v (.int .i64 _)=DV.v (.int .i64 _);rw[lV (by omega)]) (by rw[hf]<;>rfl)
theorem aDF{b:Nat}{es:List Int}(hes:es.length≤400){a:Nat}(ha:a≤es.length):PM GB prog 99 (mkP [none] b) b 94 [.sl (es.map vI), .v (.int .i64 (a:Nat))] (eP (iP (pF es a).1.1 (pF es a).1.2)) [.sl (es.map vI), .v (.int .i64 ((pF es a).2:Nat))]:=by
 have h1:=aa0 (es:=es) (n:=9) (a:=a) (by decide)
 have h2:=aa0 (es:=es) (n:=9) (a:=(aae es 9 a).2) (by decide)
 refine fnM func99 J J ntmps99 J J (fun C b m lo hmb=>?_)
 refine cm rfl (fun b=>(abD (n:=9) hes ha (by decide) (by decide))) rfl<|cm rfl (fun b=>(abD (n:=9) hes (aat ha) (by decide) (by decide))) rfl<|?_
 refine cl rfl (apP (m:=((aae es 9 a).1:Int)-4) (n:=((aae es 9 (aae es 9 a).2).1:Int)-4) (by omega) (by omega)) rfl<|?_
 exact rzM hmb J J J J
theorem aDR{b:Nat}{es:List Int}(hes:es.length≤400){a:Nat}(ha:a≤es.length):PM GB prog 102 (mkP [none] b) b 94 [.sl (es.map vI), .v (.int .i64 (a:Nat))] (eP (iP (vF es a).1.1 (vF es a).1.2)) [.sl (es.map vI), .v (.int .i64 ((vF es a).2:Nat))]:=by
 obtain⟨hm,hn,ha1⟩:=anD ha
 refine fnM func102 J J ntmps102 J J (fun C b m lo hmb=>?_)
 refine cm (fu:=⟨9⟩) rfl (fun b=>(aDF hes ha)) rfl<|?_
 refine eqF 7 (.d (eP (iP 0 0))) rfl (by rw[awF]<;>rfl) ?_
 refine gx rfl<|cl rfl (alI (m:=(pF es a).1.1) (n:=(pF es a).1.2) (m':=0) (n':=0) (by omega) (by omega) (by decide) (by decide)) rfl<|?_
 refine bd J J J (fun hc8=>?_) (fun hc8=>?_)
 ·
  have hf:vF es a=((1,0),(pF es a).2):=by unfold vF;rw[if_pos hc8]
  refine cl rfl (apP (m:=1) (n:=0) (by decide) (by decide)) rfl<|?_
  exact rzM hmb J J (by rw[hf]<;>rfl) (by rw[hf])
 ·
  have hf:vF es a=pF es a:=by unfold vF;rw[if_neg hc8]
  exact rzM hmb J J (by rw[hf]<;>rfl) (by rw[hf])
theorem aD0{b:Nat}{es:List Int}(hes:es.length≤400){a:Nat}(ha:a≤es.length):PM GB prog 43 (mkP [none] b) b 94 [.sl (es.map vI), .v (.int .i64 (a:Nat))] (eL (lF es a).1) [.sl (es.map vI), .v (.int .i64 ((lF es a).2:Nat))]:=by
 obtain⟨hm,hn,ha1⟩:=anD ha
 obtain⟨hp,hq,hz,ha2⟩:=aqE ha1
 refine fnM func43 J J ntmps43 J J (fun C b m lo hmb=>?_)
 refine cm rfl (fun b=>(aDF hes ha)) rfl<|cl rfl (al0 (n:=1) (by decide) (by decide)) rfl<|cm rfl (fun b=>(aDR hes ha1)) rfl<|cl rfl (ao3 (m:=(pF es a).1.1) (n:=(pF es a).1.2) (m':=(vF es (pF es a).2).1.1) (n':=(vF es (pF es a).2).1.2) (k:=1) (by omega) (by omega) (by omega) (by omega) (by decide)) rfl<|?_
 refine cl rfl (ai9 (m:=(pF es a).1.1) (n:=(pF es a).1.2) (m':=(pF es a).1.1+1*(vF es (pF es a).2).1.1) (n':=(pF es a).1.2+1*(vF es (pF es a).2).1.2) (by omega) (by omega) (by omega) (by omega) (by omega)) rfl<|?_
 exact rzM hmb J J J J
theorem acy{p:Bool}:PF GB prog 14 [.v (.bool p)] (eT (.leaf p)):=by
 refine fn func14 J J ntmps14 J J (fun C=>?_)
 refine fzE 5 rfl ?_
 exact rz J J
theorem amm{b:Nat}{es:List Int}(hes:es.length≤400){a:Nat}(ha:a≤es.length){n:Int}(hn:n=0):PM GB prog 21 (mkP [none,some (.v (.int .i64 n))] b) b 94 [.sl (es.map vI), .v (.int .i64 (a:Nat))] (eT (aa8 es 0 a).1) [.sl (es.map vI), .v (.int .i64 ((aa8 es 0 a).2:Nat))]:=by
 refine fnM (fu:=⟨10⟩) func21 J J ntmps21 J J (fun C b m lo hmb=>?_)
 refine kT 8 rfl (by omega) ?_
 refine gx rfl<|cm rfl (fun b=>(abD (n:=2) hes ha (by decide) (by decide))) rfl<|cl rfl (acy (p:=decide (((aae es 2 a).1:Int)=1))) rfl<|?_
 exact rzM hmb J J J J
theorem amX{b:Nat}{es:List Int}(hes:es.length≤400){a:Nat}(ha:a≤es.length){d:Nat}{n:Int}(hn:n=((d+1:Nat):Int))(hd:d≤100)(ih: ∀{GB:Gh} {b a:Nat} {n:Int},a≤es.length→n=(d:Int)→PM GB prog 21 (mkP [none,some (.v (.int .i64 n))] b) b 94 [.sl (es.map vI), .v (.int .i64 (a:Nat))] (eT (aa8 es d a).1) [.sl (es.map vI), .v (.int .i64 ((aa8 es d a).2:Nat))]):PM GB prog 21 (mkP [none,some (.v (.int .i64 n))] b) b 94 [.sl (es.map vI), .v (.int .i64 (a:Nat))] (eT (aa8 es (d+1) a).1) [.sl (es.map vI), .v (.int .i64 ((aa8 es (d+1) a).2:Nat))]:=by
 have h4:=aat (n:=4) ha
 obtain⟨hl,h5⟩:=aqy h4
 have h6:=(ag9 (d:=d) h5).2.2.2
 refine fnM (fu:=⟨10⟩) func21 J J ntmps21 J J (fun C b m lo hmb=>?_)
 refine kF 8 rfl (by omega) ?_
 refine gx rfl<|cm rfl (fun b=>(abD (n:=4) hes ha (by decide) (by decide))) rfl<|?_
 refine br J J J (fun hc13=>?_) (fun hc13=>?_)
 ·
  have hf:aa8 es (d+1) a=_:=if_pos hc13
  refine cm rfl (fun b=>(abD (n:=2) hes h4 (by decide) (by decide))) rfl<|cl rfl (acy (p:=decide (((aae es 2 (aae es 4 a).2).1:Int)=1))) rfl<|?_
  exact rzM hmb J J (by rw[hf]<;>rfl) (by rw[hf])
 ·
  have hf:aa8 es (d+1) a=_:=if_neg hc13
  refine cm rfl (fun b=>(aD0 hes h4)) rfl<|cm rfl (fun b=>(ih h5 (by omega))) rfl<|cm rfl (fun b=>(ih h6 (by omega))) rfl<|?_
  refine fzE 31 rfl ?_
  exact rzM hmb J J (by rw[hf]<;>rfl) (by rw[hf])
theorem aux{es:List Int}(hes:es.length≤400): ∀{d:Nat} {GB:Gh} {b a:Nat} {n:Int},d≤100→a≤es.length→n=(d:Int)→PM GB prog 21 (mkP [none,some (.v (.int .i64 n))] b) b 94 [.sl (es.map vI), .v (.int .i64 (a:Nat))] (eT (aa8 es d a).1) [.sl (es.map vI), .v (.int .i64 ((aa8 es d a).2:Nat))]
 |0,_,_,_,_,_,ha,hn=>amm hes ha hn
 |d+1,_,_,_,_,hd,ha,hn=>amX hes ha hn (by omega) (fun h1 h2=>aux hes (by omega) h1 h2)
theorem akS{es:List Int}(hes:es.length≤400){a d b:Nat}(ha:a≤es.length)(hd:d≤100):PM GB prog 21 (mkP [none,some (.v (.int .i64 (d:Nat)))] b) b 94 [.sl (es.map vI), .v (.int .i64 (a:Nat))] (eT (aa8 es d a).1) [.sl (es.map vI), .v (.int .i64 ((aa8 es d a).2:Nat))]:=aux (GB:=GB) hes hd ha rfl
abbrev ZP:=Int×Int
def ZP.q(p:ZP):PtQ:=iP p.1 p.2
def ZP.le(k:Nat)(p:ZP):Prop:=p.1.natAbs≤k∧p.2.natAbs≤k
def aDH(p q:ZP):ZP:=(p.1+1*q.1,p.2+1*q.2)
def ajD(u v:ZP):Int:=u.1*v.2-u.2*v.1
theorem ayl{m n p q:Int}(hm:m.natAbs≤1000)(hn:n.natAbs≤1000)(hp:p.natAbs≤1000)(hq:q.natAbs≤1000)(h: ¬(p=m∧q=n)):LB (ao6 m n p q)∧(ao6 m n p q).ok:=by
 have e1:(auR n q).natAbs≤2000:=by unfold auR;omega
 have e2:(auQ m p).natAbs≤2000:=by unfold auQ;omega
 have e3:=afR e1 hm
 have e4:=afR e2 hn
 have e5:(ayM m n p q).natAbs≤4000000:=by unfold ayM;omega
 unfold ao6
 obtain⟨k1,k2,k3⟩:=ayb (auR n q) (auQ m p) (ayM m n p q)
 have hb:(2:Nat)^96=79228162514264337593543950336:=by decide
 refine⟨⟨⟨?_,?_,?_⟩⟩,axL ?_⟩
 ·rw[hb];omega
 ·rw[hb];omega
 ·rw[hb];omega
 ·unfold auR auQ;omega
def av8(v w:ZP):FrQ:=⟨ao6 v.1 v.2 w.1 w.2,⟨acl (ao6 v.1 v.2 w.1 w.2) v.q,acl (ao6 v.1 v.2 w.1 w.2) w.q,false,false⟩⟩
def afT(r:List ZP)(i:Nat):ZP:=r.getD ((i+1)%r.length) (0,0)
def agY(r:List ZP):Nat→List FrQ
 |0=>[]
 |k+1=>agY r k++[av8 (r.getD k (0,0)) (afT r k)]
def adi(r:List ZP):List FrQ:=agY r r.length
structure abx (r:List ZP):Prop where
 n3:3≤r.length
 n6:r.length≤6
 le: ∀p∈r,ZP.le 100 p
 ne: ∀i<r.length,r.getD i (0,0)≠afT r i
theorem aia{r:List ZP}{i:Nat}(h:i<r.length):r.getD i (0,0)∈r:=by
 rw[aK,aZ h];exact cJ h
theorem aiY{r:List ZP}{i:Nat}(h:i<r.length):afT r i∈r:=aia (dQ _ (by omega))
theorem amg{l:LnQ}(hl:LB l)(ho:l.ok){m n:Int}(hm:m.natAbs≤1000)(hn:n.natAbs≤1000):BQ (acl l (iP m n)) 1200:=by
 haveI:=biC (k:=11) hm (by decide)
 haveI:=biC (k:=11) hn (by decide)
 have hd:=al7 ho.ne
 have hA:BI (l.a*l.a+l.b*l.b) _:=inferInstance
 have hB:BI (m*l.b-n*l.a) _:=inferInstance
 have hA':=apl (j:=1200) hA (by decide)
 have hB':=apl (j:=1200) hB (by decide)
 have e1:l.dir.dot l.dir=((l.a*l.a+l.b*l.b:Int):Rat):=by
  rw[pR,eK,eK]
  simp only[LnQ.dir,PtQ.dot];grind
 have e2:(iP m n).dot l.dir=((m*l.b-n*l.a:Int):Rat):=by
  rw[mL,eK,eK]
  simp only[LnQ.dir,PtQ.dot,iP];grind
 have hd':((0:Int):Rat)<((l.a*l.a+l.b*l.b:Int):Rat):=by rw[←e1];exact hd
 unfold acl
 rw[e2,e1]
 clear hA hB e1 e2
 generalize l.a*l.a+l.b*l.b=D at*
 generalize m*l.b-n*l.a=M at*
 have hD:0<D:=Rat.intCast_lt_intCast.1 hd'
 refine BQ.of_fracI (n:=M) (D:=D) (by omega) ?_ hB' hA'
 have h0:(D:Rat)≠0:=fun e=>by rw[e] at hd';exact absurd hd' (by decide)
 have:((D.natAbs:Nat):Rat)=(D:Rat):=by
  have h1:((D.natAbs:Nat):Int)=D:=by omega
  rw[←h1];rfl
 rw[this]
 grind
theorem azm{v w:ZP}(hv:ZP.le 100 v)(hw:ZP.le 100 w)(h:v≠w):FOk (av8 v w):=by
 obtain⟨h1,h2⟩:=ayl (m:=v.1) (n:=v.2) (p:=w.1) (q:=w.2) (by have:=hv.1;omega) (by have:=hv.2;omega) (by have:=hw.1;omega) (by have:=hw.2;omega) (fun e=>h (Prod.ext e.1.symm e.2.symm))
 exact⟨h1,h2,⟨fun e=>(by cases e),fun e=>(by cases e)⟩,amg h1 h2 (by have:=hv.1;omega) (by have:=hv.2;omega),amg h1 h2 (by have:=hw.1;omega) (by have:=hw.2;omega)⟩
theorem ai7{r:List ZP}(h:abx r): ∀{k:Nat},k≤r.length→(agY r k).length=k∧ ∀f∈agY r k,FOk f
 |0,_=>⟨rfl,fun f hf=>by cases hf⟩
 |k+1,hk=>by
  obtain⟨h1,h2⟩:=ai7 h (k:=k) (by omega)
  rw[agY]
  refine⟨by simp[h1],fun f hf=>?_⟩
  rcases bV.1 hf with hf|hf
  ·exact h2 f hf
  ·rw[aS] at hf;subst hf
   exact azm (h.le _ (aia (by omega))) (h.le _ (aiY (by omega))) (h.ne k (by omega))
theorem alW{r:List ZP}(h:abx r):(adi r).length=r.length∧ ∀f∈adi r,FOk f:=ai7 h (aM _)
def acF(rs:List (List ZP)):List FrQ:=rs.flatMap adi
theorem aej: ∀{rs:List (List ZP)},(∀r∈rs,abx r)→(acF rs).length≤6*rs.length∧ ∀f∈acF rs,FOk f
 |[],_=>⟨aM _,fun f hf=>by cases hf⟩
 |r::rs,h=>by
  obtain⟨h1,h2⟩:=aej (rs:=rs) fun q hq=>h q (aX _ hq)
  obtain⟨k1,k2⟩:=alW (h r aQ)
  have:=(h r aQ).n6
  unfold acF at*
  rw[List.flatMap_cons]
  refine⟨by rw[aV,k1,bZ];omega,fun f hf=>?_⟩
  rcases bV.1 hf with hf|hf
  ·exact k2 f hf
  ·exact h2 f hf
def ak6(a b c:PtQ):Int:=(PtQ.cross (adH b a (-1)) (adH c a (-1))).num.sign
def aw4(v w p:PtQ):Int:=
 (if abh v.y p.y≤0∧ ¬abh w.y p.y≤0∧0<ak6 v w p then 1 else 0)-(if¬abh v.y p.y≤0∧abh w.y p.y≤0∧ak6 v w p<0 then 1 else 0)
def auk(r:List ZP)(p:PtQ):Nat→Int
 |0=>0
 |k+1=>auk r p k+aw4 (r.getD k (0,0)).q (afT r k).q p
def avQ(r:List ZP)(p:PtQ):Int:=auk r p r.length
def azF(fill n:Int):Bool:=(decide (fill=1)&&decide (n.tmod 2≠0))||(decide (fill=2)&&decide (n≠0))
def inR(rs:List (List ZP))(fill:Int)(p:PtQ):Bool:=azF fill (rs.foldl (fun n r=>n+avQ r p) 0)
def aFv(rs:List (List ZP))(fill:Int):Tr:=alZ (inR rs fill) (acF rs).length (acF rs) []
def aiW(rs:List (List ZP))(fill:Int):Tr:=(aFv rs fill).restrict []
structure afY (k:Nat) (t:Tr):Prop where
 gd:t.gd
 dp:t.depth≤k
 am: ∃K:List LnQ,K.length≤k∧(∀l∈K,l.ok)∧ady K t
theorem axl{acc:PtQ→Bool}{n:Nat}{l:List FrQ}(h: ∀f∈l,FOk f)(hn:l.length=n):afY n (alZ acc n l []):=
 ⟨⟨agF fun f hf=>(h f hf).lb,agF fun f hf=>(h f hf).ok⟩,ahm,l.map (·.l),by rw[aJ,hn];exact aM _,fun m hm=>by
  obtain⟨f,hf,rfl⟩:=bL.1 hm;exact(h f hf).ok,agF fun f hf=>⟨f.l,rM hf, .inl rfl⟩⟩
theorem afY.restrict{k:Nat}{t:Tr}(h:afY k t)(c:aan):afY k (t.restrict c):=by
 obtain⟨K,h1,h2,h3⟩:=h.am
 exact⟨aoF h.gd c,cV (t.restrict_depth c) h.dp,K,h1,h2,h3.restrict c⟩
theorem afY.compl{k:Nat}{t:Tr}(h:afY k t):afY k t.compl:=by
 obtain⟨K,h1,h2,h3⟩:=h.am
 exact⟨alv h.gd,by rw[t.compl_depth];exact h.dp,K,h1,h2,h3.compl⟩
theorem afY.mono{j k:Nat}{t:Tr}(h:afY j t)(hk:j≤k):afY k t:=by
 obtain⟨K,h1,h2,h3⟩:=h.am
 exact⟨h.gd,cV h.dp hk,K,by omega,h2,h3⟩
theorem afY.merge{j k:Nat}{op:Int}{t u:Tr}(h:afY j t)(hu:afY k u):afY (j+k) (t.mergeQ op u []):=by
 obtain⟨K,h1,h2,h3⟩:=h.am
 obtain⟨M,k1,k2,k3⟩:=hu.am
 refine⟨⟨Tr.mergeQ_all LB op hu.gd.lb t [] h.gd.lb,Tr.mergeQ_all LnQ.ok op hu.gd.ok t [] h.gd.ok⟩,cV (Tr.mergeQ_depth op u t []) (by have:=h.dp;have:=hu.dp;omega),K++M,by rw[aV];omega,fun l hl=>(bV.1 hl).elim (h2 l) (k2 l),?_⟩
 exact(h3.mono fun l hl=>⟨l,bS _ hl, .inl rfl⟩).merge (k3.mono fun l hl=>⟨l,bN _ hl, .inl rfl⟩) []
theorem afY.merge_size{j k:Nat}{op:Int}{t u:Tr}(h:afY j t)(hu:afY k u):(t.mergeQ op u []).size≤(j+k)*(1+(j+k)):=by
 obtain⟨K,h1,h2,h3⟩:=h.am
 obtain⟨M,k1,k2,k3⟩:=hu.am
 have hle:(K++M).length≤j+k:=by rw[aV];omega
 refine cV (Tr.merge_size (K:=K++M) (op:=op) (fun l hl=>(bV.1 hl).elim (h2 l) (k2 l)) h.gd.ok hu.gd.ok (h3.mono fun l hl=>⟨l,bS _ hl, .inl rfl⟩) (k3.mono fun l hl=>⟨l,bN _ hl, .inl rfl⟩)) ?_
 exact iK hle (by omega)
theorem afY.lim{j k:Nat}{op:Int}{t u:Tr}(h:afY j t)(hu:afY k u)(hk:j+k≤200):ajV op t u=some (t.mergeQ op u []):=
 asM (by have:=h.dp;have:=hu.dp;omega) (cV (h.merge_size hu) (cV (iK hk (show 1+(j+k)≤201 by omega)) (by decide)))
theorem apF{rs:List (List ZP)}{fill:Int}(h: ∀r∈rs,abx r)(hn:rs.length≤3):afY 18 (aiW rs fill):=by
 obtain⟨h1,h2⟩:=aej h
 exact((axl (acc:=inR rs fill) h2 rfl).restrict []).mono (by omega)
def aAf(p q:ZP):Int:=if p.1<q.1 then-1 else if q.1<p.1 then 1 else if p.2<q.2 then-1 else if q.2<p.2 then 1 else 0
def av4(x:ZP):List ZP→List ZP
 |[]=>[x]
 |u::t=>if aAf u x<0 then u::av4 x t else if aAf u x=0 then u::t else x::u::t
def anj(l:List ZP):List ZP:=l.foldl (fun out x=>av4 x out) []
theorem aqc{x:ZP}: ∀{l:List ZP},(av4 x l).length≤l.length+1
 |[]=>aM _
 |u::t=>by
  rw[av4]
  have:=aqc (x:=x) (l:=t)
  split
  ·simp;omega
  ·split<;>simp
theorem auB(l:List ZP):(anj l).length≤l.length:=by
 have key: ∀(l o:List ZP),(l.foldl (fun out x=>av4 x out) o).length≤l.length+o.length:=by
  intro l
  induction l with
  |nil=>intro o;simp
  |cons x t ih=>intro o;have:=ih (av4 x o);have:=aqc (x:=x) (l:=o);simp only[lJ,bZ];omega
 have:=key l []
 simpa[anj] using this
def age(a b c d:Int):List ZP:=[(a,b),(c,b),(c,d),(a,d)]
theorem avm{r:List ZP}{i:Nat}(h:i+1<r.length):afT r i=r.getD (i+1) (0,0):=by unfold afT;rw[fQ h]
theorem aq3{r:List ZP}{i:Nat}(h:i+1=r.length):afT r i=r.getD 0 (0,0):=by unfold afT;rw[h,Nat.mod_self]
theorem atu{a b c d:Int}(h1:a.natAbs≤50)(h2:b.natAbs≤50)(h3:c.natAbs≤50)(h4:d.natAbs≤50)(h5:a<c)(h6:b<d):abx (age a b c d):=by
 refine⟨by simp[age],by simp[age],fun p hp=>?_,fun i hi=>?_⟩
 ·simp only[age,aU,mZ,or_false] at hp
  rcases hp with rfl|rfl|rfl|rfl<;>exact⟨by dsimp only;omega,by dsimp only;omega⟩
 ·have:i=0∨i=1∨i=2∨i=3:=by simp[age] at hi;omega
  rcases this with rfl|rfl|rfl|rfl<;>simp[age,afT]<;>omega
def ayr(p u v:ZP):List ZP:=[p,aDH p u,aDH p v]
theorem aCb{p u v:ZP}(h1:ZP.le 40 p)(h2:ZP.le 40 u)(h3:ZP.le 40 v)(h:ajD u v≠0):abx (ayr p u v):=by
 obtain⟨p1,p2⟩:=p
 obtain⟨u1,u2⟩:=u
 obtain⟨v1,v2⟩:=v
 unfold ZP.le at h1 h2 h3
 dsimp only at h1 h2 h3
 unfold ajD at h
 dsimp only at h
 refine⟨by simp[ayr],by simp[ayr],fun p hp=>?_,fun i hi=>?_⟩
 ·simp only[ayr,aDH,aU,mZ,or_false] at hp
  rcases hp with rfl|rfl|rfl<;>exact⟨by dsimp only;omega,by dsimp only;omega⟩
 ·have:i=0∨i=1∨i=2:=by simp[ayr] at hi;omega
  have hu: ¬(u1=0∧u2=0):=fun e=>h (by rw[e.1,e.2];simp)
  have hv: ¬(v1=0∧v2=0):=fun e=>h (by rw[e.1,e.2];simp)
  have huv: ¬(u1=v1∧u2=v2):=fun e=>h (by rw[e.1,e.2,Int.mul_comm];omega)
  rcases this with rfl|rfl|rfl<;>simp[ayr,aDH,afT]<;>omega
def apZ(es:List Int):Nat→Nat→List ZP→List ZP×Nat
 |0,a,out=>(out,a)
 |n+1,a,out=>apZ es n (pF es a).2 (if out.getLast? =some (pF es a).1 then out else out++[(pF es a).1])
structure Adj (r:List ZP):Prop where
 ne: ∀i,i+1<r.length→r.getD i (0,0)≠r.getD (i+1) (0,0)
 le: ∀p∈r,ZP.le 100 p
theorem Adj.snoc{r:List ZP}{p:ZP}(h:Adj r)(hp:ZP.le 100 p)(hl:r.getLast? ≠some p):Adj (r++[p]):=by
 refine⟨fun i hi=>?_,fun q hq=>?_⟩
 ·rw[aV,dS] at hi
  rw[aK,aK]
  by_cases h1:i+1<r.length
  ·rw[fX (by omega),fX h1]
   have:=h.ne i h1
   rwa [aK,aK] at this
  ·have e:i+1=r.length:=by omega
   rw[fX (by omega),e,fV (aM _),oL]
   rw[kR,←e,kZ] at hl
   rw[aZ (by omega)] at hl⊢
   intro c
   exact hl (by simpa using c)
 ·rcases bV.1 hq with hq|hq
  ·exact h.le q hq
  ·rw[aS] at hq;subst hq;exact hp
theorem anZ{es:List Int}: ∀{n a:Nat} {out:List ZP},a≤es.length→Adj out→Adj (apZ es n a out).1∧(apZ es n a out).1.length≤out.length+n∧(apZ es n a out).2≤es.length
 |0,a,out,ha,h=>⟨h,aM _,ha⟩
 |n+1,a,out,ha,h=>by
  obtain⟨h1,h2,h3⟩:=anD ha
  rw[apZ]
  by_cases hl:out.getLast? =some (pF es a).1
  ·rw[if_pos hl]
   obtain⟨k1,k2,k3⟩:=anZ (n:=n) h3 h
   exact⟨k1,by omega,k3⟩
  ·rw[if_neg hl]
   obtain⟨k1,k2,k3⟩:=anZ (n:=n) h3 (h.snoc (p:=(pF es a).1) ⟨by omega,by omega⟩ hl)
   rw[aV,dS] at k2
   exact⟨k1,by omega,k3⟩
def ae6:Nat→List ZP→List ZP
 |0,l=>l
 |n+1,l=>if 1<l.length∧l.getD 0 (0,0)=l.getD (l.length-1) (0,0) then ae6 n l.dropLast else l
theorem Adj.drop{r:List ZP}(h:Adj r):Adj r.dropLast:=by
 refine⟨fun i hi=>?_,fun p hp=>h.le p ((List.dropLast_sublist _).subset hp)⟩
 rw[gU] at hi
 have:=h.ne i (by omega)
 rw[aK,aK] at this⊢
 rw[qS,qS,if_pos (by omega),if_pos (by omega)]
 exact this
theorem ap3: ∀{n:Nat} {l:List ZP},Adj l→l.length≤n+1→Adj (ae6 n l)∧(ae6 n l).length≤l.length∧(1<(ae6 n l).length→(ae6 n l).getD 0 (0,0)≠(ae6 n l).getD ((ae6 n l).length-1) (0,0))
 |0,l,h,hn=>⟨h,aM _,fun k=>absurd k (by unfold ae6;omega)⟩
 |n+1,l,h,hn=>by
  rw[ae6]
  split
  ·obtain⟨h1,h2,h3⟩:=ap3 (n:=n) h.drop (by rw[gU];omega)
   rw[gU] at h2
   exact⟨h1,by omega,h3⟩
  ·rename_i hc
   exact⟨h,aM _,fun k e=>hc ⟨k,e⟩⟩
theorem aAw{r:List ZP}(h:Adj r)(h6:r.length≤6)(hc:1<r.length→r.getD 0 (0,0)≠r.getD (r.length-1) (0,0))(h3:3≤(anj r).length):abx r:=by
 have:=auB r
 refine⟨by omega,h6,h.le,fun i hi=>?_⟩
 by_cases h1:i+1<r.length
 ·rw[avm h1];exact h.ne i h1
 ·have e:i+1=r.length:=by omega
  rw[aq3 e]
  have:=hc (by omega)
  rw[show i=r.length-1 by omega]
  exact fun k=>this k.symm
def aAL:List ZP:=[(0,0),(2,0),(0,2)]
theorem aAE:abx aAL:=⟨by decide,by decide,fun p hp=>by
  simp only[aAL,aU,mZ,or_false] at hp
  rcases hp with rfl|rfl|rfl<;>exact⟨by decide,by decide⟩,fun i hi=>by
  have:i=0∨i=1∨i=2:=by simp[aAL] at hi;omega
  rcases this with rfl|rfl|rfl<;>decide⟩
def auS(es:List Int)(a:Nat):List ZP×Nat:=
 ((if(anj (ae6 6 (apZ es (3+(aae es 4 a).1) (aae es 4 a).2 []).1)).length<3 then aAL else ae6 6 (apZ es (3+(aae es 4 a).1) (aae es 4 a).2 []).1),(apZ es (3+(aae es 4 a).1) (aae es 4 a).2 []).2)
theorem Adj.nil:Adj []:=⟨fun i hi=>by simp at hi,fun p hp=>by cases hp⟩
theorem asy{es:List Int}{a:Nat}(ha:a≤es.length):abx (auS es a).1∧(auS es a).2≤es.length:=by
 have h1:=aa0 (es:=es) (n:=4) (a:=a) (by decide)
 obtain⟨k1,k2,k3⟩:=anZ (n:=3+(aae es 4 a).1) (aat (n:=4) ha) Adj.nil
 obtain⟨t1,t2,t3⟩:=ap3 (n:=6) k1 (by simp at k2;omega)
 refine⟨?_,k3⟩
 unfold auS
 dsimp only
 split
 ·exact aAE
 ·exact aAw t1 (by simp at k2;omega) t3 (by omega)
def sqF(es:List Int)(n m k:Int)(a:Nat):List ZP×Nat:=
 let x:=aae es n a
 let y:=aae es n x.2
 let z:=aae es m y.2
 let w:=aae es m z.2
 (age ((x.1:Int)-k) ((y.1:Int)-k) ((x.1:Int)-k+1+z.1) ((y.1:Int)-k+1+w.1),w.2)
theorem aBp{es:List Int}{n m k:Int}{a:Nat}(ha:a≤es.length)(hn:1≤n)(hn2:n≤10)(hm:1≤m)(hm2:m≤10)(hk:0≤k)(hk2:k≤10):abx (sqF es n m k a).1∧(sqF es n m k a).2≤es.length:=by
 have h1:=aa0 (es:=es) (a:=a) hn
 have h2:=aa0 (es:=es) (a:=(aae es n a).2) hn
 have h3:=aa0 (es:=es) (a:=(aae es n (aae es n a).2).2) hm
 have h4:=aa0 (es:=es) (a:=(aae es m (aae es n (aae es n a).2).2).2) hm
 exact⟨atu (by omega) (by omega) (by omega) (by omega) (by omega) (by omega),aat (aat (aat (aat ha)))⟩
def acT(es:List Int)(a:Nat):List ZP×Nat:=
 let k:=aae es 4 a
 if(k.1:Int)=0 then sqF es 5 4 4 k.2
 else if(k.1:Int)=1 then
  let p:=pF es k.2
  let u:=vF es p.2
  let v:=vF es u.2
  if ajD u.1 v.1≠0 then(ayr p.1 u.1 v.1,v.2) else auS es v.2
 else auS es k.2
theorem aif{es:List Int}{a:Nat}(ha:a≤es.length):abx (acT es a).1∧(acT es a).2≤es.length:=by
 have h0:=aat (n:=4) ha
 unfold acT
 dsimp only
 split
 ·exact aBp h0 (by decide) (by decide) (by decide) (by decide) (by decide) (by decide)
 ·split
  ·obtain⟨p1,p2,p3⟩:=anD h0
   obtain⟨u1,u2,u3,u4⟩:=aqE p3
   obtain⟨v1,v2,v3,v4⟩:=aqE u4
   split
   ·rename_i hc
    exact⟨aCb ⟨by omega,by omega⟩ ⟨by omega,by omega⟩ ⟨by omega,by omega⟩ hc,v4⟩
   ·exact asy v4
  ·exact asy h0
def aFV:List ZP:=[(0,0),(1,0),(0,1)]
def auG(es:List Int)(a:Nat):List ZP×Nat:=
 let k:=aae es 2 a
 if(k.1:Int)=0 then sqF es 3 2 1 k.2
 else
  let x:=aae es 3 k.2
  let y:=aae es 3 x.2
  let u1:=aae es 2 y.2
  let u2:=aae es 3 u1.2
  let v1:=aae es 3 u2.2
  let v2:=aae es 2 v1.2
  (if 0<ajD (1+(u1.1:Int),(u2.1:Int)-1) ((v1.1:Int)-1,1+(v2.1:Int)) then ayr ((x.1:Int)-1,(y.1:Int)-1) (1+(u1.1:Int),(u2.1:Int)-1) ((v1.1:Int)-1,1+(v2.1:Int)) else aFV,v2.2)
def adU(es:List Int)(a:Nat):Tr×Nat:=
 let r:=acT es a
 let k:=aae es 3 r.2
 if(k.1:Int)=0 then
  let s:=acT es k.2
  let f:=aae es 2 s.2
  (aiW [r.1,s.1] (1+(f.1:Int)),f.2)
 else
  let f:=aae es 2 k.2
  (aiW [r.1] (1+(f.1:Int)),f.2)
theorem aek{es:List Int}{a:Nat}(ha:a≤es.length):afY 18 (adU es a).1∧(adU es a).2≤es.length:=by
 obtain⟨r1,r2⟩:=aif ha
 have h3:=aat (n:=3) r2
 unfold adU
 dsimp only
 split
 ·obtain⟨s1,s2⟩:=aif h3
  exact⟨apF (fun r hr=>by simp only[aU,mZ,or_false] at hr;rcases hr with rfl|rfl;exact r1;exact s1) (by simp),aat s2⟩
 ·exact⟨apF (fun r hr=>by simp only[aU,mZ,or_false] at hr;subst hr;exact r1) (by simp),aat h3⟩
def avB(l:LnQ):Tr:=(Tr.node l (.leaf true) (.leaf false)).restrict []
theorem af9: ∀t:Tr,t.lns.length=t.size
 | .leaf _=>rfl
 | .node l x y=>by rw[Tr.lns,bZ,aV,af9 x,af9 y,Tr.size];omega
theorem atX{t:Tr}{k:Nat}(hb:t.all (fun l=>BL l 96))(ho:t.all LnQ.ok)(hs:t.size≤k):afY k t:=
 ⟨⟨act.2 fun l hl=>⟨act.1 hb l hl⟩,ho⟩,cV t.depth_size hs,t.lns,by rw[af9];exact hs,adB ho,au9 fun l hl=>hl⟩
theorem anV{es:List Int}{d a:Nat}(ha:a≤es.length)(hd:d≤4):afY 18 (aa8 es d a).1∧(aa8 es d a).2≤es.length:=by
 obtain⟨h1,h2,h3,h4⟩:=ag9 (d:=d) ha
 have h5:=Tr.size_lt (aa8 es d a).1
 have h6:(2:Nat)^(aa8 es d a).1.depth≤2^4:=bJ (by decide) (by omega)
 exact⟨atX h3 h2 (by omega),h4⟩
theorem atT{l:LnQ}(h:LS l):afY 18 (avB l):=
 (atX (k:=18) (t:= .node l (.leaf true) (.leaf false)) ⟨h.bl,trivial,trivial⟩ ⟨h.ok,trivial,trivial⟩ (by simp[Tr.size])).restrict []
def aah(es:List Int):Nat→Nat→Tr×Nat
 |0,a=>
  let k:=aae es 6 a
  if(k.1:Int)=1 then(avB (lF es k.2).1,(lF es k.2).2)
  else if(k.1:Int)=2 then((aa8 es 3 k.2).1.restrict [],(aa8 es 3 k.2).2)
  else if(k.1:Int)=3 then((adU es k.2).1.compl,(adU es k.2).2)
  else adU es k.2
 |d+1,a=>
  let k:=aae es 6 a
  if(k.1:Int)=0 then
   let x:=aah es d k.2
   let o:=aae es 4 x.2
   let y:=aah es d o.2
   (x.1.mergeQ (1+(o.1:Int)) y.1 [],y.2)
  else if(k.1:Int)=1 then(avB (lF es k.2).1,(lF es k.2).2)
  else if(k.1:Int)=2 then((aa8 es 3 k.2).1.restrict [],(aa8 es 3 k.2).2)
  else if(k.1:Int)=3 then((adU es k.2).1.compl,(adU es k.2).2)
  else adU es k.2
theorem aey{es:List Int}: ∀{d a:Nat},a≤es.length→afY (18*2^d) (aah es d a).1∧(aah es d a).2≤es.length
 |0,a,ha=>by
  have h0:=aat (n:=6) ha
  rw[aah]
  try dsimp only
  split
  ·obtain⟨h1,h2⟩:=aqy h0;exact⟨atT h1,h2⟩
  ·split
   ·obtain⟨h1,h2⟩:=anV (d:=3) h0 (by decide);exact⟨h1.restrict [],h2⟩
   ·split
    ·obtain⟨h1,h2⟩:=aek h0;exact⟨h1.compl,h2⟩
    ·exact aek h0
 |d+1,a,ha=>by
  have h0:=aat (n:=6) ha
  have hp:18≤18*2^(d+1):=nV _ (dY (by decide))
  rw[aah]
  try dsimp only
  split
  ·obtain⟨h1,h2⟩:=aey (d:=d) h0
   obtain⟨h3,h4⟩:=aey (d:=d) (aat (n:=4) h2)
   exact⟨(h1.merge h3).mono (by rw[eX];omega),h4⟩
  ·split
   ·obtain⟨h1,h2⟩:=aqy h0;exact⟨(atT h1).mono hp,h2⟩
   ·split
    ·obtain⟨h1,h2⟩:=anV (d:=3) h0 (by decide);exact⟨(h1.restrict []).mono hp,h2⟩
    ·split
     ·obtain⟨h1,h2⟩:=aek h0;exact⟨h1.compl.mono hp,h2⟩
     ·obtain⟨h1,h2⟩:=aek h0;exact⟨h1.mono hp,h2⟩
def aGU(es:List Int)(a:Nat):Tr×Nat:=
 let k:=aae es 4 a
 if(k.1:Int)=0 then(avB (lF es k.2).1,(lF es k.2).2)
 else if(k.1:Int)=1 then((aa8 es 2 k.2).1.restrict [],(aa8 es 2 k.2).2)
 else(aiW [(auG es k.2).1] 2,(auG es k.2).2)
end Go.Sx
end
section
namespace Go.Sx
open Go
inductive OT where
 |z (π:List (Nat×Bool))
 |q (i:Nat) (t:OT)
 |a (i:Nat) (t:OT)
 |c (i:Nat) (t r:OT)
def OT.sz:OT→Nat
 | .z _=>0
 | .q _ t=>t.sz+1
 | .a _ t=>t.sz+1
 | .c _ t r=>t.sz+r.sz+1
def OT.d:OT→Nat
 | .z π=>π.length
 | .q _ t=>t.d+1
 | .a _ t=>t.d+1
 | .c _ t r=>Nat.max (t.d+1) r.d
section
variable {P:Program} {ops:Array Oper} {Q:Exit→Act→World→Prop} {S:World→Prop} {π₂:List (Nat×Bool)}
def dwN(P:Program)(ops:Array Oper)(Q:Exit→Act→World→Prop)(K:(World→Prop)→Act→World→Prop):List Nat→OT→(World→Prop)→Act→World→Prop
 |ks, .z π,S,a,w=>dwT P ops Q K ks π S a w
 |ks, .q i t,S,a,w=> ∃o v,ops[i]? =some o∧S w∧YieldsIf P ops S o v a∧dwN P ops Q K ks t S (a.put o.dst v) w
 |ks, .a i t,S,a,w=>wpOp P ops Q i (grS S (dwN P ops Q K ks t)) a w∧
   ∀j,(h:j∈ks)→wpOp P ops Q j (grS S (dwN P ops Q K (without ks j) (.a i t))) a w
 |ks, .c i t r,S,a,w=>wpOp P ops Q i (grS S (dwN P ops Q K ks t)) a w∧dwN P ops Q K ks r S a w∧
   ∀j,(h:j∈ks)→wpOp P ops Q j (grS S (dwN P ops Q K (without ks j) (.c i t r))) a w
termination_by ks t=>ks.length+t.sz
decreasing_by
 all_goals (first|(have:=ahe h;simp only[OT.sz] at*;omega)|(simp only[OT.sz];omega))
def adr(ops:Array Oper)(fin:Nat→Bool)(π₂:List (Nat×Bool)):Nat→Bool→List Nat→OT→Array Bool→List Nat→Bool
 |0,_,_,_,_,_=>false
 |n+1,false,ks, .z π,l,_=>agn ops fin π₂ n ks π l
 |_+1,true,_, .z _,_,_=>false
 |n+1,false,ks, .q i t,l,_=>akb ops fin l i&&adr ops fin π₂ n false ks t (l.setIfInBounds i true) []
 |_+1,true,_, .q _ _,_,_=>false
 |n+1,true,ks, .a i t,l,rs=>rs.all (fun j=>Nat.beq j i)&&adr ops fin π₂ n false ks t (l.setIfInBounds i true) []
 |n+1,false,ks, .a i t,l,_=>!(Region.ready .any ops l).isEmpty&&(Region.ready .any ops l).all (fun j=>Nat.beq j i||ks.contains j)&&adr ops fin π₂ n false ks t (l.setIfInBounds i true) []&&ks.all fun j=>adr ops fin π₂ n false (without ks j) (.a i t) (l.setIfInBounds j true) []
 |n+1,true,ks, .c i t r,l,rs=>adr ops fin π₂ n false ks t (l.setIfInBounds i true) []&&adr ops fin π₂ n true ks r l (without rs i)
 |n+1,false,ks, .c i t r,l,_=>!(Region.ready .any ops l).isEmpty&&adr ops fin π₂ n false ks t (l.setIfInBounds i true) []&&adr ops fin π₂ n true ks r l (without ((Region.ready .any ops l).filter fun j=>!ks.contains j) i)&&ks.all fun j=>adr ops fin π₂ n false (without ks j) (.c i t r) (l.setIfInBounds j true) []
end
section
variable {P:Program} {GB:Gh} {C:Ctx} {n:Nat} {fr fr':FrF} {own own' own0 own1 own1':List adu} {bs bs0 bs1 bs1':List aec} {ops:Array Oper} {Q:Exit→Act→World→Prop} {fd:List FD} {π₂:List (Nat×Bool)} {t r:OT}
abbrev dnK (P:Program) (ops:Array Oper) (Q:Exit→Act→World→Prop) (K:(World→Prop)→Act→World→Prop) (t:OT):List Nat→(World→Prop)→Act→World→Prop:=fun ks S=>dwN P ops (acu Q) K ks t S
end
end Go.Sx
end
section
namespace Go.Sx
open Go Go.Proofs Tryz
variable {GB:Gh}
theorem agM{c:List LnQ}{l:LnQ}(hc: ∀m∈c,LB m)(hl:LB l): ∀m∈c++[l],LB m:=by
 rw[qU]
 exact⟨hc,by simpa using hl⟩
theorem LB.rev{l:LnQ}(h:LB l):LB l.rev:=⟨⟨by rw[show l.rev.a= -l.a from rfl,iS];exact h.bl.a,by rw[show l.rev.b= -l.b from rfl,iS];exact h.bl.b,by rw[show l.rev.c= -l.c from rfl,iS];exact h.bl.c⟩⟩
theorem asg{c:List LnQ}{l:LnQ}(hc: ∀m∈c,LB m)(hok: ∀m∈c,m.ok)(hn:c.length≤900)(hl:LB l)(hlo:l.ok):PF GB prog 104 [.sl (c.map eL),eL l] (vI (adY c l)):=by
 have hcl:=aeG c
 refine fn func104 J J ntmps104 J J (fun C=>?_)
 refine ro0 J J<|ap (c.map eL) J J (abI _) rfl<|rf J J<|apf ((c++[l]).map eL) rfl (by rw[bU];rfl) (abI [l]) rfl<|?_
 refine cl rfl (anP (c:=c++[l]) (agM hc hl) (acm hok hlo) (by simp;omega)) rfl<|ro0 J J<|ap (c.map eL) J J (abI _) rfl<|cl rfl (aj0 (l:=l)) rfl<|?_
 refine rf J J<|apf ((c++[l.rev]).map eL) rfl (by rw[bU];rfl) (abI [l.rev]) rfl<|cl rfl (anP (c:=c++[l.rev]) (agM hc hl.rev) (acm hok hlo.rev) (by simp;omega)) rfl<|?_
 refine csb 31 J J J (fun hg31=>?_) (fun hg31=>?_)
 ·
  refine bb J J J (fun hc33=>?_) (fun hc33=>?_)
  ·
   exact rz rfl (by show vI 0=vI _;congr 1;unfold adY;simp_all)
  ·
   refine bb J J J (fun hc34=>?_) (fun hc34=>?_)
   ·
    exact rz rfl (by show vI 1=vI _;congr 1;unfold adY;simp_all)
   ·
    exact rz rfl (by simp[hg31] at hc34)
 ·
  refine bb J J J (fun hc34=>?_) (fun hc34=>?_)
  ·
   exact rz rfl (by simp[hg31] at hc34)
  ·
   exact rz rfl (by show vI (-1)=vI _;congr 1;unfold adY;simp_all)
theorem aeJ{α:Type}{p:α→Bool}: ∀{xs:List α} {n:Nat},n≤xs.length→(∀j (h:j<xs.length),j<n→p xs[j]=true)→(∀h:n<xs.length,p xs[n]=false)→(xs.takeWhile p).length=n
 |[],n,h,_,_=>by simp at h;subst h;rfl
 |x::xs,0,_,_,h3=>by
  have:=h3 (by simp)
  simp only[oQ] at this
  simp[pV,this]
 |x::xs,n+1,h1,h2,h3=>by
  have hx:=h2 0 (by simp) (by omega)
  simp only[oQ] at hx
  rw[pV,if_pos hx,bZ]
  rw[aeJ (n:=n) (by simpa using h1) (fun j h hj=>by have:=h2 (j+1) (by simpa using h) (by omega);simpa using this) (fun h=>by have:=h3 (by simpa using h);simpa using this)]
theorem ano{xs:List LnQ}{l:LnQ}{n:Nat}(h1:n≤xs.length)(h2: ∀j (h:j<xs.length),j<n→aaC xs[j].dir l.dir<0)(h3: ∀h:n<xs.length,¬aaC xs[n].dir l.dir<0):aeY xs l=n:=
 aeJ h1 (fun j h hj=>decide_eq_true (h2 j h hj)) (fun h=>decide_eq_false (h3 h))
theorem amp{xs:List LnQ}{l:LnQ}{n:Nat}(hn:aeY xs l=n)(h:n<xs.length)(e:xs[n]=l):ac5 xs l=xs:=by
 unfold ac5;rw[hn,if_pos (by rw[aZ h,e])]
theorem ahH{xs:List LnQ}{l:LnQ}{n:Nat}(hn:aeY xs l=n)(h: ∀h:n<xs.length,xs[n]≠l):ac5 xs l=xs.take n++l::xs.drop n:=by
 unfold ac5
 rw[hn,if_neg]
 intro e
 obtain⟨h1,h2⟩:=bQ.1 e
 exact h h1 h2
theorem axF(xs:List LnQ)(n:Nat):adx 6 ((xs.map eL).take n):=fun d hd=>abI xs d (cM hd)
theorem as4(xs:List LnQ)(n m:Nat):adx 6 (((xs.map eL).take n).drop m):=fun d hd=>abI xs d (cM (gK hd))
theorem axn(xs:List LnQ)(n m:Nat)(l:LnQ):adx 6 ([eL l]++((xs.map eL).take n).drop m):=fun d hd=>by
 rcases bV.1 hd with h|h
 ·exact abI [l] d h
 ·exact as4 xs n m d h
structure Cst (c:List LnQ) (k:Nat) (xs:List LnQ):Prop where
 le:k≤c.length
 f:ae0 c (c.drop k) xs=ab2 c
 m: ∀m∈xs,m∈c
 n:xs.length≤k
theorem Cst.skip{c xs:List LnQ}{k:Nat}(h:Cst c k xs)(hk:k<c.length)(e:(adg c[k] c IvQ.all).isSome=false):Cst c (k+1) xs:=by
 have:=h.f
 rw[aN hk,ae0,e] at this
 exact⟨hk,this,h.m,by have:=h.n;omega⟩
theorem Cst.ins{c xs ys:List LnQ}{k:Nat}(h:Cst c k xs)(hk:k<c.length)(e:(adg c[k] c IvQ.all).isSome=true)(hy:ac5 xs c[k]=ys)(hl:ys.length≤xs.length+1):Cst c (k+1) ys:=by
 have:=h.f
 rw[aN hk,ae0,e,if_pos rfl,hy] at this
 refine⟨hk,this,fun m hm=>?_,by have:=h.n;omega⟩
 rw[←hy] at hm
 rcases ahU.1 hm with rfl|hm
 ·exact cJ hk
 ·exact h.m m hm
theorem Cst.done{c xs:List LnQ}{k:Nat}(h:Cst c k xs)(hk:k=c.length):ab2 c=xs:=by
 have:=h.f
 rw[hk,fZ,ae0] at this
 exact this.symm
def asU(c:List LnQ):Bool:=if(((c.map eL).length:Nat):Int)=0 then true else decide ((0:Int)<((((ab2 c).map eL).length:Nat):Int))
theorem Cst.nil(c:List LnQ):Cst c 0 []:=⟨bK _,rfl,fun m hm=>absurd hm (by simp),aM _⟩
theorem aAn{c:List LnQ}(hc: ∀m∈c,LB m)(hok: ∀m∈c,m.ok)(hn:c.length≤1000):PF GB prog 169 [.sl (c.map eL)] (.tp [.sl ((ab2 c).map eL),vB (asU c)]):=by
 have hcl:=aeG c
 refine fn (fu:=⟨16⟩) func169 J J ntmps169 J J (fun C=>?_)
 refine eqF 11 (.d (vI (c.length:Nat))) rfl (by rw[hcl];rfl) ?_
 refine gx rfl<|?_
 refine nlC 4 rfl ?_
 refine lp (X:=List LnQ×Nat) (fun⟨xs,k⟩=>[(12, .d (vI (k:Nat))),(11, .d (vI (c.length:Nat))),(10, .d (.sl (c.map eL))),(0, .d (.sl (c.map eL))),(4, .d (.sl (xs.map eL)))]) (fun⟨xs,k⟩=>[]) (fun⟨xs,k⟩=>Cst c k xs) (fun⟨xs,k⟩=>c.length-k) ⟨[],0⟩ rfl (Cst.nil c) (fun _=>rfl) (fun⟨xs,k⟩ hk=>?_)
 try dsimp only at hk⊢
 have hS:=hk
 refine br J J J (fun hc13=>?_) (fun hc13=>?_)
 ·
  have hk:k<c.length:=by omega
  obtain⟨m,hm⟩: ∃m,m=c[k]:=⟨_,rfl⟩
  haveI hmb:LB m:=hm▸hc _ (cJ hk)
  have hmo:m.ok:=hm▸hok _ (cJ hk)
  have hxl:=aeG xs
  have hxn:=hS.n
  refine ix (fu:=⟨1⟩) _ rfl (aeA hk) rfl<|?_
  refine eqF 16 (.d (eL m)) rfl (by rw[hm];rfl) ?_
  refine gx rfl<|cl rfl (axi hc hok hn hk) rfl<|?_
  refine bb (fu2:=⟨8⟩) J J J (fun hc24=>?_) (fun hc24=>?_)
  ·
   have hinv:Cst c (k+1) xs:=hS.skip hk (by rw[←aep];simpa using hc24)
   exact at_ ⟨xs,k+1⟩ (by dsimp only;exact⟨hinv,(by omega)⟩)
  ·
   have hyes:(adg c[k] c IvQ.all).isSome=true:=by rw[←aep];simpa using hc24
   refine mg (fu:=⟨6⟩) (X:=Unit) (fun _=>[(12, .d (vI (k:Nat))),(11, .d (vI (c.length:Nat))),(10, .d (.sl (c.map eL))),(0, .d (.sl (c.map eL))),(4, .d (.sl (xs.map eL))),(6, .ov 6 0),(9, .d (vI (aeY xs m:Nat)))]) (fun _=>[(6,some (.o 88 [.d ((.v (.bool (decide (m.a<0))))), .d (dN m.a.natAbs), .d ((.v (.bool (decide (m.b<0))))), .d (dN m.b.natAbs), .d ((.v (.bool (decide (m.c<0))))), .d (dN m.c.natAbs)] true))]) (fun _=>True) [12,11,10,0,4,6,9] [6] rfl ?_ (fun _=>rfl) (fun _ _=>?_)
   ·
    refine gx rfl<|?_
    refine lp (fu:=⟨6⟩) (X:=Nat) (fun n=>[(12, .d (vI (k:Nat))),(11, .d (vI (c.length:Nat))),(10, .d (.sl (c.map eL))),(0, .d (.sl (c.map eL))),(4, .d (.sl (xs.map eL))),(6, .ov 6 0),(9, .d (vI (n:Nat)))]) (fun n=>[(6,some (.o 88 [.d ((.v (.bool (decide (m.a<0))))), .d (dN m.a.natAbs), .d ((.v (.bool (decide (m.b<0))))), .d (dN m.b.natAbs), .d ((.v (.bool (decide (m.c<0))))), .d (dN m.c.natAbs)] true))]) (fun n=>n≤xs.length∧ ∀j (h:j<xs.length),j<n→aaC xs[j].dir m.dir<0) (fun n=>xs.length-n) 0 rfl ⟨bK _,fun j _ hj=>absurd hj (by omega)⟩ (fun _=>rfl) (fun n hk=>?_)
    obtain⟨n1,n2⟩:=hk
    refine csS J J J J (fun hg28=>?_) (fun hg28=>?_)
    ·
     refine ix _ rfl (aeA (by omega)) rfl<|?_
     haveI:LB (xs[n]'(by omega)):=hc _ (hS.m _ (cJ _))
     refine cl rfl (ant (l:=xs[n]'(by omega))) rfl<|cl rfl (ant (l:=m)) rfl<|cl rfl (aAz (u:=(xs[n]'(by omega)).dir) (v:=m.dir)) rfl<|?_
     refine br J J J (fun hc39=>?_) (fun hc39=>?_)
     ·
      exact at_ (n+1) ⟨⟨by omega,fun j h hj=>by by_cases q:j=n;(subst q;exact hc39);exact n2 j h (by omega)⟩,(by omega)⟩
     ·
      have hidx:aeY xs m=n:=ano n1 n2 (fun h=>hc39)
      exact at_ () trivial
    ·
     have hidx:aeY xs m=n:=ano n1 n2 (fun h=>absurd h (by omega))
     exact at_ () trivial
   ·
    obtain⟨n,hnx⟩: ∃n,aeY xs m=n:=⟨_,rfl⟩
    rw[hnx]
    have hnl:n≤xs.length:=by rw[←hnx];unfold aeY;exact(List.takeWhile_sublist _).length_le
    have hcb: ∀m∈xs,LB m:=fun m hm=>hc m (hS.m m hm)
    refine csS J J J J (fun hg45=>?_) (fun hg45=>?_)
    ·
     refine ix _ rfl (aeA (by omega)) rfl<|cl rfl (aiE (l:=xs[n]'(by omega)) (m:=m) (hl:=hcb _ (cJ (by omega)))) rfl<|?_
     refine br J J J (fun hc54=>?_) (fun hc54=>?_)
     ·
      have hn46:n<xs.length:=by omega
      have hinv:Cst c (k+1) xs:=hS.ins hk hyes (by rw[←hm];exact amp hnx hn46 ((agE _ m).1 hc54)) (by omega)
      exact at_ ⟨xs,k+1⟩ (by dsimp only;exact⟨hinv,(by omega)⟩)
     ·
      have hnew: ∀h:n<xs.length,xs[n]≠m:=fun h e=>hc54 ((agE _ m).2 e)
      obtain⟨ys,hys⟩: ∃ys,ys=xs.take n++m::xs.drop n:=⟨_,rfl⟩
      have hinv:Cst c (k+1) ys:=hS.ins hk hyes (by rw[←hm,ahH hnx hnew,hys]) (by rw[hys];simp;omega)
      refine s3 n _ J J J J (abI _) (by rw[hxl];exact hnl) rfl<|ro J J<|sc' n xs.length _ J J (by rw[hxl]) rfl (abI _) hnl (by omega) rfl<|?_
      refine ap _ J J (as4 _ _ _) rfl<|apf (hv:=by simp only[aai];exact⟨by kernel_rfl,by omega⟩) (ho:=fun _=>⟨axF _ _,by simp⟩) (ys.map eL) rfl (by rw[hys,bU,bW,gV,iM,aT (l:=xs.map eL) (i:=xs.length) (by simp)];rfl) (axn _ _ _ _) rfl<|?_
      exact at_ ⟨ys,k+1⟩ (by dsimp only;exact⟨hinv,(by omega)⟩)
    ·
     have hnew: ∀h:n<xs.length,xs[n]≠m:=fun h=>absurd h (by omega)
     obtain⟨ys,hys⟩: ∃ys,ys=xs.take n++m::xs.drop n:=⟨_,rfl⟩
     have hinv:Cst c (k+1) ys:=hS.ins hk hyes (by rw[←hm,ahH hnx hnew,hys]) (by rw[hys];simp;omega)
     refine s3 n _ J J J J (abI _) (by rw[hxl];exact hnl) rfl<|ro J J<|sc' n xs.length _ J J (by rw[hxl]) rfl (abI _) hnl (by omega) rfl<|?_
     refine ap _ J J (as4 _ _ _) rfl<|apf (hv:=by simp only[aai];exact⟨by kernel_rfl,by omega⟩) (ho:=fun _=>⟨axF _ _,by simp⟩) (ys.map eL) rfl (by rw[hys,bU,bW,gV,iM,aT (l:=xs.map eL) (i:=xs.length) (by simp)];rfl) (axn _ _ _ _) rfl<|?_
     exact at_ ⟨ys,k+1⟩ (by dsimp only;exact⟨hinv,(by omega)⟩)
 ·
  have hfin:ab2 c=xs:=hS.done (by have:=hS.le;omega)
  refine cs 71 J J J (fun hg71=>?_) (fun hg71=>?_)
  ·
   exact rz rfl (by rw[asU,if_pos hg71,hfin];rfl)
  ·
   exact rz rfl (by rw[asU,if_neg hg71,hfin];rfl)
section
variable {α:Type} (c:α→α→Int)
def adE(x:α):List α→List α
 |[]=>[x]
 |u::t=>if c u x<0 then u::adE x t else if c u x=0 then u::t else x::u::t
def akA(x:α)(xs:List α):Nat:=(xs.takeWhile fun u=>decide (c u x<0)).length
theorem aiB(x:α)(xs:List α):akA c x xs≤xs.length:=(List.takeWhile_sublist _).length_le
theorem aee{x:α}{xs:List α}{n:Nat}(h1:n≤xs.length)(h2: ∀j (h:j<xs.length),j<n→c xs[j] x<0)(h3: ∀h:n<xs.length,¬c xs[n] x<0):akA c x xs=n:=
 aeJ h1 (fun j h hj=>decide_eq_true (h2 j h hj)) (fun h=>decide_eq_false (h3 h))
theorem afE{x:α}: ∀{xs:List α} {n:Nat},akA c x xs=n→(h:n<xs.length)→c xs[n] x=0→adE c x xs=xs
 |[],n,_,h,_=>by simp at h
 |u::t,n,hn,h,e=>by
  rw[adE]
  unfold akA at hn
  rw[pV] at hn
  by_cases hu:c u x<0
  ·rw[if_pos hu]
   rw[if_pos (by simpa using hu)] at hn
   obtain⟨k,rfl⟩: ∃k,n=k+1:=⟨n-1,by simp at hn;omega⟩
   rw[afE (xs:=t) (n:=k) (by unfold akA;simpa using hn) (by simpa using h) (by simpa using e)]
  ·rw[if_neg (by simpa using hu)] at hn
   simp at hn;subst hn
   rw[if_neg hu,if_pos (by simpa using e)]
theorem acM{x:α}: ∀{xs:List α} {n:Nat},akA c x xs=n→(∀h:n<xs.length,c xs[n] x≠0)→adE c x xs=xs.take n++x::xs.drop n
 |[],n,hn,_=>by simp[akA] at hn;subst hn;rfl
 |u::t,n,hn,e=>by
  rw[adE]
  unfold akA at hn
  rw[pV] at hn
  by_cases hu:c u x<0
  ·rw[if_pos hu]
   rw[if_pos (by simpa using hu)] at hn
   obtain⟨k,rfl⟩: ∃k,n=k+1:=⟨n-1,by simp at hn;omega⟩
   rw[acM (xs:=t) (n:=k) (by unfold akA;simpa using hn) (fun h=>by have:=e (by simpa using h);simpa using this)]
   simp
  ·rw[if_neg (by simpa using hu)] at hn
   simp at hn;subst hn
   have:=e (by simp)
   rw[if_neg hu,if_neg (by simpa using this)];rfl
theorem aig(x:α): ∀(xs:List α),(adE c x xs).length≤xs.length+1
 |[]=>aM _
 |u::t=>by
  have:=aig x t
  rw[adE]
  split
  ·simp;omega
  ·split<;>simp
theorem alb{x y:α}: ∀{xs:List α},y∈adE c x xs→y=x∨y∈xs
 |[],h=>by rw[adE,aS] at h;exact .inl h
 |u::t,h=>by
  rw[adE] at h
  split at h
  ·rcases aU.1 h with rfl|h
   ·exact .inr aQ
   ·rcases alb h with h|h
    ·exact .inl h
    ·exact .inr (aX _ h)
  ·split at h
   ·exact .inr h
   ·rcases aU.1 h with rfl|h
    ·exact .inl rfl
    ·exact .inr h
def ajP(l:List α):List α:=l.foldl (fun out x=>adE c x out) []
theorem ajv: ∀(l o:List α),(l.foldl (fun out x=>adE c x out) o).length≤l.length+o.length
 |[],o=>by simp
 |x::t,o=>by
  have:=ajv t (adE c x o)
  have:=aig c x o
  simp only[lJ,bZ];omega
theorem afk{y:α}: ∀{l o:List α},y∈l.foldl (fun out x=>adE c x out) o→y∈l∨y∈o
 |[],o,h=> .inr h
 |x::t,o,h=>by
  rcases afk (l:=t) h with h|h
  ·exact .inl (aX _ h)
  ·rcases alb c h with rfl|h
   ·exact .inl aQ
   ·exact .inr h
end
theorem am7{x:Rat}: ∀{l:List Rat},amV x l=adE abh x l
 |[]=>rfl
 |u::t=>by
  have e1:abh u x<0↔u<x:=ajk u x
  have e2:abh u x=0↔u=x:=aeF u x
  rw[amV,adE,am7 (l:=t)]
  by_cases h:u<x
  ·rw[if_pos h,if_pos (e1.2 h)]
  ·rw[if_neg h,if_neg (fun e=>h (e1.1 e))]
   by_cases h2:u=x
   ·rw[if_pos h2,if_pos (e2.2 h2)]
   ·rw[if_neg h2,if_neg (fun e=>h2 (e2.1 e))]
theorem abm{α β:Type}{f:α→β}{l:List α}{k:Nat}{x:α}(h:l[k]? =some x):(l.take k).map f++[f x]=(l.take (k+1)).map f:=by
 rw[iW,h,bU];rfl
theorem aAW{a i:Nat}[ha:BN a i](hi:i≤400000000:=by decide):PF GB prog 144 [dN a] (dN a):=by
 have hl:=aaE (dg a)
 have hb:=aa6 ha.h
 refine fn func144 J J ntmps144 J J (fun C=>?_)
 refine ro0 J J<|ap ((dg a).map dU) J J (amQ _) rfl<|?_
 refine fzE 5 rfl ?_
 exact rz J J
theorem awB{z:Int}{i:Nat}[hz:BI z i](hi:i≤400000000:=by decide):PF GB prog 143 [eI z] (eI z):=by
 refine fn func143 J J ntmps143 J J (fun C=>?_)
 refine cl rfl (aAW (a:=z.natAbs) (i:=i) (ha:=⟨hz.h⟩) hi) rfl<|?_
 exact rz J J
theorem aDV{l:LnQ}(hl:BL l 96):PF GB prog 124 [eL l] (eL l):=by
 haveI h1:BI l.a 96:=⟨hl.a⟩
 haveI h2:BI l.b 96:=⟨hl.b⟩
 haveI h3:BI l.c 96:=⟨hl.c⟩
 refine fn func124 J J ntmps124 J J (fun C=>?_)
 refine cl rfl (awB (z:=l.a)) rfl<|cl rfl (awB (z:=l.b)) rfl<|cl rfl (awB (z:=l.c)) rfl<|?_
 exact rz J J
theorem aFL{ds:List Nat}(hd:DOk ds)(hn:ds.length≤1000000):PF GB prog 134 [dLi ds] (dN (dv ds)):=by
 have hm:=aaE ds
 refine fn func134 J J ntmps134 J J (fun C=>?_)
 refine ro0 J J<|ap (ds.map dU) J J (amQ _) rfl<|fz 5 J J<|cl rfl (afZ (ds:=ds) (by omega)) rfl<|?_
 exact rz rfl (by unfold dN;rw[adk hd];rfl)
theorem aGj{neg:Bool}{ds:List Nat}(hd:DOk ds)(hn:ds.length≤1000000):PF GB prog 136 [.ag [.v (.bool neg),dLi ds]] (eI (ahz neg ds)):=by
 refine fn func136 J J ntmps136 J J (fun C=>?_)
 refine cl rfl (aFL hd hn) rfl<|cl rfl acV rfl<|?_
 exact rz J J
def rlD(r:RL):DV:= .tp [if r.nm then eL r.l else .ag [.v (.bool false), .sl [], .v (.bool false), .sl [], .v (.bool false), .sl []],vB (decide (r.nm∧r.l.ok))]
def smB(n:Int)(ls:List (List Nat)):Bool:=ls.all fun d=>decide ((d.length:Int)≤n)
def RL.smB(n:Int)(r:RL):Bool:=Sx.smB n [r.da,r.db,r.dc]
def rlB(n:Int)(ls:List RL):Bool:=ls.all fun r=>r.smB n
theorem aE1{n i:Nat}[h:BN n i](hi:i≤20000:=by decide):PF GB prog 134 [dN n] (dN n):=by
 have hl:=aa6 h.h
 have:=aFL (GB:=GB) (ds:=dg n) (afa n) (by omega)
 rw[aaV,←azM] at this;exact this
theorem avA(z:Int):ahz (decide (z<0)) (dg z.natAbs)=z:=by
 unfold ahz
 rw[aaV]
 split<;>(rename_i h;simp at h;omega)
theorem aEI{z:Int}{i:Nat}[h:BI z i](hi:i≤20000:=by decide):PF GB prog 136 [eI z] (eI z):=by
 have hl:=aa6 h.h
 have:=aGj (GB:=GB) (neg:=decide (z<0)) (ds:=dg z.natAbs) (afa _) (by omega)
 rw[avA,←azM] at this;exact this
theorem aEX{n:Nat}(h:0<n): ¬((((dg n).map dU).length:Nat):Int)=0:=by
 rw[aJ]
 have:=acw (n:=n)
 omega
instance BQ.m1':BQ (((-1:Int):Int):Rat) 2:=⟨by decide,by decide⟩
instance BQ.m1:BQ (-1:Rat) 2:=⟨by decide,by decide⟩
theorem aFn{q:Rat}{i:Nat}[h:BQ q i](hi:i≤20000:=by decide):PF GB prog 60 [eR q] (eQ q):=by
 have hd:=q.den_pos
 refine fn func60 J J ntmps60 J J (fun C=>?_)
 refine cl (fu:=⟨8⟩) rfl (aE1 (n:=q.den) hi) rfl<|knF rfl (by show some (decide _)=some false;rw[decide_eq_false (aEX hd)]) rfl<|cl rfl (aEI (z:=q.num) hi) rfl<|?_
 refine cl rfl (ajH (x:=q.num) (d:=q.den) hd (by omega) (by omega)) rfl<|?_
 exact rz rfl (by rw[sQ];rfl)
theorem axQ{q:Rat}{i:Nat}[h:BQ q i](hi:i≤400000000:=by decide):PF GB prog 69 [eQ q] (eR q):=by
 refine fn func69 J J ntmps69 J J (fun C=>?_)
 refine cl rfl (awB (z:=q.num) hi) rfl<|cl rfl (ae9 (q:=q)) rfl<|cl rfl (aAW (a:=q.den) hi) rfl<|?_
 exact rz J J
theorem aGf{p:PtQ}{i:Nat}[h:BPt p i](hi:i≤20000:=by decide):PF GB prog 19 [ePt p] (eP p):=by
 refine fn func19 J J ntmps19 J J (fun C=>?_)
 refine cl rfl (aFn (q:=p.x) hi) rfl<|cl rfl (aFn (q:=p.y) hi) rfl<|?_
 exact rz J J
theorem aCQ{p:PtQ}{i:Nat}[h:BPt p i](hi:i≤20000:=by decide):PF GB prog 25 [eP p] (ePt p):=by
 refine fn func25 J J ntmps25 J J (fun C=>?_)
 refine cl rfl (axQ (q:=p.x) (i:=i) (by omega)) rfl<|cl rfl (axQ (q:=p.y) (i:=i) (by omega)) rfl<|?_
 exact rz J J
theorem aaJ{α:Type}(f:α→DV)(l:List α):(l.map f).length=l.length:=aJ ..
theorem aiu(ps:List PtQ):adx 6 (ps.map eP):=fun d hd=>by
 obtain⟨u,_,rfl⟩:=bL.1 hd;exact⟨rfl,rfl⟩
theorem aCZ(ps:List PtQ):adx 6 (ps.map ePt):=fun d hd=>by
 obtain⟨u,_,rfl⟩:=bL.1 hd;exact⟨rfl,rfl⟩
theorem aEf{ps:List PtQ}(hb: ∀p∈ps,BPt p 1200)(hn:ps.length≤1000000):PF GB prog 222 [.sl (ps.map ePt)] (.sl (ps.map eP)):=by
 have hm:=aaJ ePt ps
 refine fn (fu:=⟨15⟩) func222 J J ntmps222 J J (fun C=>?_)
 refine eqF 7 (.d (vI (ps.length:Nat))) rfl (by rw[hm]<;>rfl) ?_
 refine gx rfl<|?_
 refine nr 3 3 58 6 J J J ?_
 refine lp (X:=Nat) (fun k=>[(8, .d (vI (k:Nat))),(3, .rw 3)]) (fun k=>[(3,some (.b 58 6 ((ps.take k).map eP) true))]) (fun k=>k≤ps.length) (fun k=>ps.length-k) 0 rfl (bK _) (fun _=>rfl) (fun k hk=>?_)
 have hml:=aaJ eP (ps.take k)
 rw[cK] at hml
 refine br J J J (fun hc9=>?_) (fun hc9=>?_)
 ·
  obtain⟨z,hz⟩: ∃s,ps[k]? =some s:=⟨_,aZ (by omega)⟩
  have hzm:=bX hz
  refine ix _ rfl (aaB hz) rfl<|cl rfl (aGf (p:=z) (h:=hb z hzm)) rfl<|rf J J<|ap ((ps.take (k+1)).map eP) rfl (abm hz) (aiu [z]) rfl<|?_
  refine rnE 16 3 rfl ?_
  exact at_ (k+1) ⟨(by omega),(by omega)⟩
 ·
  obtain rfl:k=ps.length:=by omega
  refine fzE 3 rfl ?_
  exact rz rfl (by rw[fK];rfl)
theorem aDn{ps:List PtQ}(hb: ∀p∈ps,BPt p 1200)(hn:ps.length≤1000000):PF GB prog 223 [.sl (ps.map eP)] (.sl (ps.map ePt)):=by
 have hm:=aaJ eP ps
 refine fn (fu:=⟨15⟩) func223 J J ntmps223 J J (fun C=>?_)
 refine eqF 7 (.d (vI (ps.length:Nat))) rfl (by rw[hm]<;>rfl) ?_
 refine gx rfl<|?_
 refine nr 3 3 35 6 J J J ?_
 refine lp (X:=Nat) (fun k=>[(8, .d (vI (k:Nat))),(3, .rw 3)]) (fun k=>[(3,some (.b 35 6 ((ps.take k).map ePt) true))]) (fun k=>k≤ps.length) (fun k=>ps.length-k) 0 rfl (bK _) (fun _=>rfl) (fun k hk=>?_)
 have hml:=aaJ ePt (ps.take k)
 rw[cK] at hml
 refine br J J J (fun hc9=>?_) (fun hc9=>?_)
 ·
  obtain⟨z,hz⟩: ∃s,ps[k]? =some s:=⟨_,aZ (by omega)⟩
  have hzm:=bX hz
  refine ix _ rfl (aaB hz) rfl<|cl rfl (aCQ (p:=z) (h:=hb z hzm)) rfl<|rf J J<|ap ((ps.take (k+1)).map ePt) rfl (abm hz) (aCZ [z]) rfl<|?_
  refine rnE 16 3 rfl ?_
  exact at_ (k+1) ⟨(by omega),(by omega)⟩
 ·
  obtain rfl:k=ps.length:=by omega
  refine fzE 3 rfl ?_
  exact rz rfl (by rw[fK];rfl)
theorem axX{p q:PtQ}{i j:Nat}[hp:BPt p i][hq:BPt q j](hi:i≤100000:=by decide)(hj:j≤100000:=by decide):PF GB prog 155 [eP p,eP q] (eP (adH p q (-1))):=by
 refine fn func155 J J ntmps155 J J (fun C=>?_)
 refine cl rfl (al0 (n:= -1) (by decide) (by decide)) rfl<|cl rfl (amr (p:=p) (q:=q) (c:=((-1:Int):Rat)) (i:=i) (j:=j) (k:=2) (by omega) (by omega)) rfl<|?_
 exact rz rfl (by rw[show((-1:Int):Rat)= -1 from rfl];rfl)
theorem apd{a b c:PtQ}{i j k:Nat}[ha:BPt a i][hb:BPt b j][hc:BPt c k](hi:i≤80000:=by decide)(hj:j≤80000:=by decide)(hk:k≤80000:=by decide):PF GB prog 312 [eP a,eP b,eP c] (vI (ak6 a b c)):=by
 refine fn func312 J J ntmps312 J J (fun C=>?_)
 refine cl rfl (axX (p:=b) (q:=a) (i:=j) (j:=i) (by omega) (by omega)) rfl<|cl rfl (axX (p:=c) (q:=a) (i:=k) (j:=i) (by omega) (by omega)) rfl<|?_
 refine cl rfl (ak0 (p:=adH b a (-1)) (q:=adH c a (-1)) (by omega) (by omega)) rfl<|cl rfl (q_S (q:=(adH b a (-1)).cross (adH c a (-1)))) rfl<|?_
 exact rz J J
def agT(p q:PtQ):Int:=if abh p.x q.x≠0 then abh p.x q.x else abh p.y q.y
theorem aky{p q:PtQ}{i j:Nat}[hp:BPt p i][hq:BPt q j](hi:i≤100000:=by decide)(hj:j≤100000:=by decide):PF GB prog 261 [eP p,eP q] (vI (agT p q)):=by
 refine fn func261 J J ntmps261 J J (fun C=>?_)
 refine cl rfl (q_C (a:=p.x) (b:=q.x) (by omega) (by omega)) rfl<|?_
 refine br J J J (fun hc12=>?_) (fun hc12=>?_)
 ·
  exact rz rfl (by unfold agT;rw[if_pos hc12];rfl)
 ·
  refine cl rfl (q_C (a:=p.y) (b:=q.y) (by omega) (by omega)) rfl<|?_
  exact rz rfl (by unfold agT;rw[if_neg hc12];rfl)
def arj(l:LnQ):Bool:=decide (l.a<0∨(l.a=0∧l.b<0))
def LnQ.canon(l:LnQ):LnQ:=if arj l then l.rev else l
theorem agI(a:Int):a.sign<0↔a<0:=by
 rcases kY a 0 with h|h|h
 ·rw[dT h];omega
 ·subst h;simp
 ·rw[eJ h];omega
theorem al8(a:Int):a.sign=0↔a=0:=iT
theorem axG{l:LnQ}(h:l.a<0∨(l.a=0∧l.b<0)):DV.tp [eL l.canon,vB (arj l)]= .tp [eL l.rev,vB true]:=by
 unfold LnQ.canon arj;rw[decide_eq_true h];rfl
theorem auh{l:LnQ}(h: ¬(l.a<0∨(l.a=0∧l.b<0))):DV.tp [eL l.canon,vB (arj l)]= .tp [eL l,vB false]:=by
 unfold LnQ.canon arj;rw[decide_eq_false h];rfl
theorem aoZ{l:LnQ}[hl:LB l]:PF GB prog 89 [eL l] (.tp [eL l.canon,vB (arj l)]):=by
 refine fn func89 J J ntmps89 J J (fun C=>?_)
 refine cl rfl (ao9 (z:=l.a)) rfl<|?_
 refine cs 10 J J J (fun hg10=>?_) (fun hg10=>?_)
 ·
  refine cl rfl (aj0 (l:=l)) rfl<|?_
  exact rz rfl (by rw[axG (.inl ((agI _).1 hg10))];rfl)
 ·
  refine cs 13 J J J (fun hg13=>?_) (fun hg13=>?_)
  ·
   refine cl rfl (ao9 (z:=l.b)) rfl<|?_
   refine br J J J (fun hc19=>?_) (fun hc19=>?_)
   ·
    refine cl rfl (aj0 (l:=l)) rfl<|?_
    exact rz rfl (by rw[axG (.inr ⟨(al8 _).1 hg13,(agI _).1 hc19⟩)];rfl)
   ·
    exact rz rfl (by rw[auh (fun e=>e.elim (fun e=>hg10 ((agI _).2 e)) (fun e=>hc19 ((agI _).2 e.2)))];rfl)
  ·
   exact rz rfl (by rw[auh (fun e=>e.elim (fun e=>hg10 ((agI _).2 e)) (fun e=>hg13 ((al8 _).2 e.1)))];rfl)
instance LB.canon (l:LnQ) [h:LB l]:LB l.canon:=by unfold LnQ.canon;split;exact LB.rev h;exact h
theorem apv{l:LnQ}(h:l.ok):l.canon.ok:=by unfold LnQ.canon;split;exact h.rev;exact h
end Go.Sx
end
