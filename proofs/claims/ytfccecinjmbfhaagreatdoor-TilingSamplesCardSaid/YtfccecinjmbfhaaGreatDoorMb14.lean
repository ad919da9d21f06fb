/- Part 14 of a proof. -/
import Derived.Test.YtfccecinjmbfhaaGreatDoorMb13
set_option linter.unusedSimpArgs false
set_option maxHeartbeats 4000000
set_option maxRecDepth 100000
set_option linter.unusedVariables false
section
namespace Go.Sx
open Go Go.Proofs Tryz
variable {GB:Gh}
def anf(out:List Rat)(s:IvQ):List Rat:=if s.nh then(if s.nl then out else aob s.lo out) else aob s.hi (if s.nl then out else aob s.lo out)
def acZ(l:List IvQ):List Rat:=l.foldl anf []
def auv:List IvQ→Rat→Int
 |[],_=>0
 |s::t,x=>
  let a:=if s.nl then 1 else abc x s.lo
  let b:=if s.nh then-1 else abc x s.hi
  if 0<a∧b<0 then 2 else if(a=0∧b≤0)∨(b=0∧0≤a) then 1 else auv t x
def ace(l:List IvQ)(x:Rat):Bool:=decide (auv l x=2)
def adG(cuts:List Rat)(i:Nat):IvQ:=⟨if i=0 then 0 else cuts.getD (i-1) 0,if i<cuts.length then cuts.getD i 0 else 0,decide (i=0),decide (i=cuts.length)⟩
def ame(v w:IvQ):IvQ:=⟨v.lo,w.hi,v.nl,w.nh⟩
def acg(cuts:List Rat)(marks:List Bool):Nat→List IvQ
 |0=>[]
 |k+1=>
  let out:=acg cuts marks k
  if marks.getD k false then
   (if 0<k∧marks.getD (k-1) false=true then(match out.getLast? with
    |some v=>out.dropLast++[ame v (adG cuts k)]
    |none=>out++[adG cuts k]) else out++[adG cuts k])
  else out
def amo(cuts:List Rat)(marks:List Bool):List IvQ:=acg cuts marks marks.length
def agp(op:Int)(x y:Bool):Bool:=if op=2 then x&&y else if op=3 then x&&!y else if op=4 then x !=y else x||y
def ahc(op:Int)(a b:List IvQ):List IvQ:=amo (acZ (a++b)) ((abW (acZ (a++b))).map fun t=>agp op (ace a t) (ace b t))
def adt(l m:LnQ)(side:Int):List IvQ:=
 if crossI l m=0 then(if(m.value l.base).num.sign=side then [IvQ.all] else [])
 else if(m.value (l.at (abp l (abH l m)+1))).num.sign=side then [⟨abp l (abH l m),0,false,true⟩] else [⟨0,abp l (abH l m),true,false⟩]
def onB(l m:LnQ):Bool:=decide (crossI l m=0∧(m.value l.base).num.sign=0)
def aaV(f:FrQ)(m:LnQ)(side:Int):List FrQ:=if onB f.l m then [] else(ahc 2 [f.v] (adt f.l m side)).map fun v=>⟨f.l,v⟩
theorem agW(l:List IvQ):(acZ l).Pairwise (· < ·)∧ ∀y∈acZ l,∃s∈l,(s.nl=false∧y=s.lo)∨(s.nh=false∧y=s.hi):=by
 have key: ∀(l:List IvQ) (o:List Rat),o.Pairwise (· < ·)→(l.foldl anf o).Pairwise (· < ·)∧ ∀y∈l.foldl anf o,y∈o∨ ∃s∈l,(s.nl=false∧y=s.lo)∨(s.nh=false∧y=s.hi):=by
  intro l
  induction l with
  |nil=>intro o h;exact⟨h,fun y hy=> .inl hy⟩
  |cons s t ih=>
   intro o h
   have h1:(anf o s).Pairwise (· < ·)∧ ∀y∈anf o s,y∈o∨(s.nl=false∧y=s.lo)∨(s.nh=false∧y=s.hi):=by
    unfold anf
    cases e1:s.nl<;>cases e2:s.nh<;>simp only[if_true,iT,if_false]
    ·refine⟨ags (ags h),fun y hy=>?_⟩
     rcases acD.1 hy with h|h
     ·exact .inr (.inr ⟨trivial,h⟩)
     ·rcases acD.1 h with h|h
      ·exact .inr (.inl ⟨trivial,h⟩)
      ·exact .inl h
    ·refine⟨ags h,fun y hy=>?_⟩
     rcases acD.1 hy with h|h
     ·exact .inr (.inl ⟨trivial,h⟩)
     ·exact .inl h
    ·refine⟨ags h,fun y hy=>?_⟩
     rcases acD.1 hy with h|h
     ·exact .inr (.inr ⟨trivial,h⟩)
     ·exact .inl h
    ·exact⟨h,fun y hy=> .inl hy⟩
   obtain⟨k1,k2⟩:=ih (anf o s) h1.1
   refine⟨k1,fun y hy=>?_⟩
   rcases k2 y hy with h2|⟨q,hq,h2⟩
   ·rcases h1.2 y h2 with h3|h3
    ·exact .inl h3
    ·exact .inr ⟨s,aZ,h3⟩
   ·exact .inr ⟨q,aK _ hq,h2⟩
 have:=key l [] List.Pairwise.nil
 refine⟨this.1,fun y hy=>?_⟩
 rcases this.2 y hy with h|h
 ·cases h
 ·exact h
structure aD2 (cuts:List Rat) (v:IvQ):Prop where
 z:IvZ v
 lo:v.nl=true∨v.lo∈cuts
 hi:v.nh=true∨v.hi∈cuts
theorem ayR{cuts:List Rat}{i:Nat}(h:i≤cuts.length):aD2 cuts (adG cuts i):=by
 unfold adG
 refine⟨⟨fun e=>?_,fun e=>?_⟩,?_,?_⟩
 ·simp only[decide_eq_true_eq] at e;simp[e]
 ·simp only[decide_eq_true_eq] at e;simp[e]
 ·by_cases h0:i=0
  ·left;simp[h0]
  ·right
   simp only[if_neg h0]
   rw[aX,aQ (by omega)]
   exact bM _
 ·by_cases h0:i=cuts.length
  ·left;simp[h0]
  ·right
   simp only[if_pos (show i<cuts.length by omega)]
   rw[aX,aQ (by omega)]
   exact bM _
theorem apV{cuts:List Rat}{marks:List Bool}: ∀{k:Nat},k≤cuts.length+1→ ∀v∈acg cuts marks k,aD2 cuts v
 |0,_,v,hv=>by cases hv
 |k+1,hk,v,hv=>by
  have ih:=apV (cuts:=cuts) (marks:=marks) (k:=k) (by omega)
  have hg:=ayR (cuts:=cuts) (i:=k) (by omega)
  rw[acg] at hv
  split at hv
  ·split at hv
   ·split at hv
    ·rename_i w hw
     rcases bS.1 hv with h|h
     ·exact ih v ((qT _).subset h)
     ·rw[aY] at h;subst h
      have hw':=ih w (mK hw)
      exact⟨⟨hw'.z.1,hg.z.2⟩,hw'.lo,hg.hi⟩
    ·rcases bS.1 hv with h|h
     ·exact ih v h
     ·rw[aY] at h;subst h;exact hg
   ·rcases bS.1 hv with h|h
    ·exact ih v h
    ·rw[aY] at h;subst h;exact hg
  ·exact ih v hv
theorem ae3{l:List Rat}:(abW l).length=l.length+1:=by
 have key: ∀(l:List Rat) (a:Rat),(ady (a::l)).length=l.length:=by
  intro l
  induction l with
  |nil=>intro a;rfl
  |cons b t ih=>intro a;rw[ady,bU,ih b,bU]
 cases l with
 |nil=>rfl
 |cons a t=>rw[abW,bU,aW,key];simp
theorem awD{op:Int}{a b:List IvQ}: ∀v∈ahc op a b,aD2 (acZ (a++b)) v:=fun v hv=>by
 unfold ahc amo at hv
 refine apV ?_ v hv
 rw[aJ,ae3];omega
theorem ajA{cuts:List Rat}{marks:List Bool}: ∀{k:Nat},(acg cuts marks k).length≤k
 |0=>aL _
 |k+1=>by
  have ih:=ajA (cuts:=cuts) (marks:=marks) (k:=k)
  rw[acg]
  split
  ·split
   ·split
    ·rename_i w hw
     have:=List.length_pos_of_mem (mK hw)
     rw[aW,gV];simp;omega
    ·rw[aW];simp;omega
   ·rw[aW];simp;omega
  ·omega
structure FOk (f:FrQ):Prop where
 lb:LB f.l
 ok:f.l.ok
 z:IvZ f.v
 lo:BQ f.v.lo 1200
 hi:BQ f.v.hi 1200
theorem BQ.zero1200:BQ (0:Rat) 1200:=BQ.mono (k:=1) ⟨by decide,by decide⟩ (by decide)
theorem an9{l m:LnQ}(hl:LB l)(hm:LB m)(hlo:l.ok){side:Int}: ∀v∈adt l m side,IvZ v∧BQ v.lo 1200∧BQ v.hi 1200:=fun v hv=>by
 unfold adt at hv
 split at hv
 ·split at hv
  ·rw[aY] at hv;subst hv;exact⟨IvZ.all,BQ.zero1200,BQ.zero1200⟩
  ·cases hv
 ·rename_i hc
  have:=ah0 hlo.ne hc
  split at hv
  ·rw[aY] at hv;subst hv;exact⟨⟨fun h=>(by cases h),fun _=>rfl⟩,this,BQ.zero1200⟩
  ·rw[aY] at hv;subst hv;exact⟨⟨fun _=>rfl,fun h=>(by cases h)⟩,BQ.zero1200,this⟩
theorem ahX{f:FrQ}{m:LnQ}(h:FOk f)(hm:LB m){side:Int}: ∀g∈aaV f m side,FOk g∧g.l=f.l∧onB f.l m=false:=fun g hg=>by
 unfold aaV at hg
 split at hg
 ·cases hg
 ·rename_i ho
  obtain⟨v,hv,rfl⟩:=bW.1 hg
  have hi:=awD v hv
  have bd: ∀y∈acZ ([f.v]++adt f.l m side),BQ y 1200:=fun y hy=>by
   obtain⟨s,hs,h1⟩:=(agW _).2 y hy
   rcases bS.1 hs with hs|hs
   ·rw[aY] at hs;subst hs
    rcases h1 with⟨_,rfl⟩|⟨_,rfl⟩
    ·exact h.lo
    ·exact h.hi
   ·have:=an9 h.lb hm h.ok s hs
    rcases h1 with⟨_,rfl⟩|⟨_,rfl⟩
    ·exact this.2.1
    ·exact this.2.2
  refine⟨⟨h.lb,h.ok,hi.z,?_,?_⟩,rfl,by simpa using ho⟩
  ·rcases hi.lo with e|e
   ·rw[hi.z.1 e];exact BQ.zero1200
   ·exact bd _ e
  ·rcases hi.hi with e|e
   ·rw[hi.z.2 e];exact BQ.zero1200
   ·exact bd _ e
def ajE(acc:PtQ→Bool):Nat→List FrQ→List LnQ→Tr
 |_,[],c=> .leaf (acc (ab0 c c))
 |0,_::_,_=> .leaf false
 |n+1,f::t,c=> .node f.l (ajE acc n ((f::t).flatMap fun g=>aaV g f.l 1) (c++[f.l])) (ajE acc n ((f::t).flatMap fun g=>aaV g f.l (-1)) (c++[f.l.rev]))
theorem awE{f g:FrQ}{m:LnQ}{side:Int}(h:g∈aaV f m side):g.l=f.l:=by
 unfold aaV at h
 split at h
 ·cases h
 ·obtain⟨v,_,rfl⟩:=bW.1 h;rfl
theorem aez{acc:PtQ→Bool}{P:LnQ→Prop}: ∀{n:Nat} {l:List FrQ} {c:List LnQ},(∀f∈l,P f.l)→(ajE acc n l c).all P
 |n,[],c,_=>by unfold ajE;trivial
 |0,_::_,_,_=>by unfold ajE;trivial
 |n+1,f::t,c,h=>by
  rw[ajE]
  refine⟨h f aZ,aez fun g hg=>?_,aez fun g hg=>?_⟩<;>
  ·obtain⟨q,hq,hg⟩:=fN.1 hg
   rw[awE hg];exact h q hq
theorem ag9{acc:PtQ→Bool}: ∀{n:Nat} {l:List FrQ} {c:List LnQ},(ajE acc n l c).depth≤n
 |n,[],c=>by unfold ajE;exact aR _
 |0,_::_,_=>by unfold ajE;exact aR _
 |n+1,f::t,c=>by
  rw[ajE,Tr.depth]
  have h1:=ag9 (acc:=acc) (n:=n) (l:=(f::t).flatMap fun g=>aaV g f.l 1) (c:=c++[f.l])
  have h2:=ag9 (acc:=acc) (n:=n) (l:=(f::t).flatMap fun g=>aaV g f.l (-1)) (c:=c++[f.l.rev])
  omega
def Few(n:Nat)(l:List FrQ):Prop:= ∃K:List LnQ,K.length≤n∧ ∀f∈l,∃m∈K,m.same f.l
theorem ang{m:LnQ}(hm:m.Ne):m.value m.base=0:=by
 have h:=adY hm 0
 rw[←af6,abL] at h
 grind
theorem awZ{l m:LnQ}(h:l.same m)(hm:m.Ne):onB m l=true:=by
 unfold onB
 rw[decide_eq_true_iff]
 refine⟨?_,?_⟩
 ·rcases h with rfl|rfl
  ·unfold crossI;omega
  ·unfold crossI LnQ.rev
   show(-l.a)*l.b-l.a*(-l.b)=0
   grind
 ·rw[abN]
  exact aib h.symm (ang hm)
theorem Few.split{n:Nat}{f:FrQ}{t:List FrQ}(h:Few (n+1) (f::t))(hok: ∀g∈f::t,FOk g){side:Int}:Few n ((f::t).flatMap fun g=>aaV g f.l side):=by
 obtain⟨K,hK,hs⟩:=h
 refine⟨K.filter fun m=>!decide (m.same f.l),?_,fun g hg=>?_⟩
 ·obtain⟨m,hm,hm2⟩:=hs f aZ
  have:(K.filter fun m=>!decide (m.same f.l)).length<K.length:=by
   refine oJ.2 ⟨m,hm,by simp[hm2]⟩
  omega
 ·obtain⟨q,hq,hg⟩:=fN.1 hg
  obtain⟨_,e,ho⟩:=ahX (hok q hq) (hok f aZ).lb g hg
  obtain⟨m,hm,hm2⟩:=hs q hq
  refine⟨m,List.mem_filter.2 ⟨hm,?_⟩,by rw[e];exact hm2⟩
  simp only[fS,decide_eq_false_iff_not]
  intro h
  have:=awZ (h.symm.trans hm2) (hok q hq).ok.ne
  rw[this] at ho;cases ho
theorem aB7{p q r:Bool}{a b c:Nat}(h:Nat.gcd a b≠0):LnQ.ok ⟨zv p (a/Nat.gcd (Nat.gcd a b) c),zv q (b/Nat.gcd (Nat.gcd a b) c),zv r (c/Nat.gcd (Nat.gcd a b) c)⟩:=by
 have hg:0<Nat.gcd (Nat.gcd a b) c:=nJ _ (iQ h)
 have d0:Nat.gcd (Nat.gcd a b) c∣Nat.gcd a b:=lT _ _
 have d1:Nat.gcd (Nat.gcd a b) c∣a:=Nat.dvd_trans d0 (lT _ _)
 have d2:Nat.gcd (Nat.gcd a b) c∣b:=Nat.dvd_trans d0 (mJ _ _)
 have d3:Nat.gcd (Nat.gcd a b) c∣c:=mJ _ _
 refine⟨?_,?_⟩
 ·rintro ⟨h1,h2⟩
  have h1':=congrArg Int.natAbs h1
  have h2':=congrArg Int.natAbs h2
  simp only[afM,jS] at h1' h2'
  have e1:=Nat.div_mul_cancel d1
  have e2:=Nat.div_mul_cancel d2
  rw[h1',kS] at e1
  rw[h2',kS] at e2
  exact h (by rw[←e1,←e2];rfl)
 ·simp only[afM]
  rw[Nat.gcd_div d1 d2,Nat.gcd_div d0 d3,Nat.div_self hg]
theorem atn(p:Bool)(a g:Nat):(zv p (a/g)).natAbs≤a:=by rw[afM];exact iV ..
theorem PF.eq{P:Program}{f:FuncId}{vs:List DV}{r r':DV}(h:PF GB P f vs r)(e:r=r'):PF GB P f vs r':=e▸h
def iP(m n:Int):PtQ:=⟨(m:Rat),(n:Rat)⟩
theorem aDz{m:Int}{k:Nat}(h:m.natAbs<2^k):BI m k:=⟨h⟩
theorem biC{m:Int}{k:Nat}(h:m.natAbs≤1000)(hk:10≤k):BI m k:=⟨cM (show m.natAbs<2^10 by omega) (bK (by decide) hk)⟩
instance BPt.int (m n:Int) (i:Nat) [h:BI m i] [k:BI n i]:BPt (iP m n) (i+1):=⟨inferInstanceAs (BQ (m:Rat) (i+1)),inferInstanceAs (BQ (n:Rat) (i+1))⟩
theorem eQI{q:Rat}{k:Int}(h:q=(k:Rat)):eQ q=eQ (k:Rat):=by rw[h]
theorem ePI{p:PtQ}{m n:Int}(h1:p.x=(m:Rat))(h2:p.y=(n:Rat)):eP p=eP (iP m n):=by
 obtain⟨x,y⟩:=p
 simp only at h1 h2
 subst h1 h2
 rfl
def mkL(a b c:Int):LnQ:=
 ⟨zv (decide (a<0)) (a.natAbs/Nat.gcd (Nat.gcd a.natAbs b.natAbs) c.natAbs),zv (decide (b<0)) (b.natAbs/Nat.gcd (Nat.gcd a.natAbs b.natAbs) c.natAbs),zv (decide (c<0)) (c.natAbs/Nat.gcd (Nat.gcd a.natAbs b.natAbs) c.natAbs)⟩
theorem aw7{a b c:Int}(h: ¬(a=0∧b=0)):(mkL a b c).ok:=
 aB7 fun e=>h ⟨lL.1 (mU e),lL.1 (mV e)⟩
theorem axj(a b c:Int):(mkL a b c).a.natAbs≤a.natAbs∧(mkL a b c).b.natAbs≤b.natAbs∧(mkL a b c).c.natAbs≤c.natAbs:=⟨atn ..,atn ..,atn ..⟩
theorem aoD{m n:Int}(hm:m.natAbs≤1000)(hn:n.natAbs≤1000):PF GB prog 64 [.v (.int .i64 m), .v (.int .i64 n)] (eP (iP m n)):=by
 refine fn func64 J J ntmps64 J J (fun C=>?_)
 refine cl rfl (ale (n:=m) (by omega) (by omega)) rfl<|cl rfl (ale (n:=n) (by omega) (by omega)) rfl<|?_
 exact rz J J
theorem apO{m n m' n' k:Int}(hm:m.natAbs≤1000)(hn:n.natAbs≤1000)(hm':m'.natAbs≤1000)(hn':n'.natAbs≤1000)(hk:k.natAbs≤1000):PF GB prog 21 [eP (iP m n),eQ (k:Rat),eP (iP m' n')] (eP (iP (m+k*m') (n+k*n'))):=by
 haveI:=biC (k:=10) hm (by decide)
 haveI:=biC (k:=10) hn (by decide)
 haveI:=biC (k:=10) hm' (by decide)
 haveI:=biC (k:=10) hn' (by decide)
 haveI:=biC (k:=10) hk (by decide)
 exact PF.eq (afQ (p:=iP m n) (q:=iP m' n') (c:=(k:Rat))) (ePI (by show(m:Rat)+(k:Rat)*(m':Rat)=_;push_cast;rfl) (by show(n:Rat)+(k:Rat)*(n':Rat)=_;push_cast;rfl))
theorem aCX{m n m' n':Int}(hm:m.natAbs≤1000)(hn:n.natAbs≤1000)(hm':m'.natAbs≤1000)(hn':n'.natAbs≤1000):PF GB prog 185 [eP (iP m n),eP (iP m' n')] (eP (iP (m-m') (n-n'))):=by
 refine fn func185 J J ntmps185 J J (fun C=>?_)
 refine cl rfl (ale (n:= -1) (by decide) (by decide)) rfl<|cl rfl (apO (m:=m) (n:=n) (m':=m') (n':=n') (k:= -1) hm hn hm' hn' (by decide)) rfl<|?_
 exact rz rfl (by rw[show m-m'=m+ -1*m' by omega,show n-n'=n+ -1*n' by omega];rfl)
theorem alo{m n m' n':Int}(hm:m.natAbs≤1000)(hn:n.natAbs≤1000)(hm':m'.natAbs≤1000)(hn':n'.natAbs≤1000):PF GB prog 46 [eP (iP m n),eP (iP m' n')] (.v (.bool (decide (m=m'∧n=n')))):=by
 haveI:=biC (k:=10) hm (by decide)
 haveI:=biC (k:=10) hn (by decide)
 haveI:=biC (k:=10) hm' (by decide)
 haveI:=biC (k:=10) hn' (by decide)
 refine fn func46 J J ntmps46 J J (fun C=>?_)
 refine cl rfl (q_C (a:=(m:Rat)) (b:=(m':Rat))) rfl<|?_
 refine cs 11 J J J (fun hg11=>?_) (fun hg11=>?_)
 ·
  refine cl rfl (q_C (a:=(n:Rat)) (b:=(n':Rat))) rfl<|?_
  exact rz rfl (by rw[aeA] at hg11;have e:m=m':=(by exact_mod_cast hg11);exact congrArg (fun z=>DV.v (.bool z)) (decide_eq_decide.2 (by rw[aeA,mZ];simp[e])))
 ·
  exact rz rfl (by rw[aeA] at hg11;have e: ¬m=m':=(fun e=>hg11 (by rw[e]));show DV.v (.bool false)=DV.v (.bool _);rw[decide_eq_false (fun h=>e h.1)])
theorem asZ{a b k:Nat}(ha:a<k)(hb:b<k):Nat.gcd a b<k:=by
 rcases fQ a with rfl|p
 ·simpa using hb
 ·exact fX (Nat.gcd_le_left b p) ha
theorem azP{a b c:Int}{i:Nat}(ha:BI a i)(hb:BI b i)(hc:BI c i)(hi:i≤100000000)(h0: ¬(a=0∧b=0)):PF GB prog 187 [eI a,eI b,eI c] (.tp [eL (mkL a b c), .v (.bool true)]):=by
 have hgn:Nat.gcd a.natAbs b.natAbs≠0:=fun h=>h0 ⟨lL.1 (mU h),lL.1 (mV h)⟩
 have hgp:0<Nat.gcd (Nat.gcd a.natAbs b.natAbs) c.natAbs:=nJ _ (iQ hgn)
 haveI hb1:BN (Nat.gcd a.natAbs b.natAbs) i:=⟨asZ ha.h hb.h⟩
 haveI hb2:BN (Nat.gcd (Nat.gcd a.natAbs b.natAbs) c.natAbs) i:=⟨asZ hb1.h hc.h⟩
 refine fn func187 J J ntmps187 J J (fun C=>?_)
 refine cl rfl (ala (a:=a.natAbs) (b:=b.natAbs) (by omega) (by omega)) rfl<|?_
 refine br J J J (fun hc22=>?_) (fun hc22=>?_)
 ·
  exact absurd hc22 (by rw[aJ];intro h;exact hgn (acq.1 (by omega)))
 ·
  refine cl rfl (ala (a:=Nat.gcd a.natAbs b.natAbs) (b:=c.natAbs) (by omega) (by omega)) rfl<|cl rfl (afp (a:=a.natAbs) (b:=Nat.gcd (Nat.gcd a.natAbs b.natAbs) c.natAbs) hgp (by omega) (by omega)) rfl<|?_
  refine cl rfl (afp (a:=b.natAbs) (b:=Nat.gcd (Nat.gcd a.natAbs b.natAbs) c.natAbs) hgp (by omega) (by omega)) rfl<|cl rfl (afp (a:=c.natAbs) (b:=Nat.gcd (Nat.gcd a.natAbs b.natAbs) c.natAbs) hgp (by omega) (by omega)) rfl<|?_
  refine cl rfl (acG (m:=a.natAbs/(Nat.gcd (Nat.gcd a.natAbs b.natAbs) c.natAbs)) (neg:=decide (a<0))) rfl<|cl rfl (acG (m:=b.natAbs/(Nat.gcd (Nat.gcd a.natAbs b.natAbs) c.natAbs)) (neg:=decide (b<0))) rfl<|?_
  refine cl rfl (acG (m:=c.natAbs/(Nat.gcd (Nat.gcd a.natAbs b.natAbs) c.natAbs)) (neg:=decide (c<0))) rfl<|?_
  exact rz J J
def aoy(n n':Int):Int:= -(n'-n)
def an4(m m':Int):Int:=m'-m
def auw(m n m' n':Int):Int:= -(aoy n n'*m+an4 m m'*n)
def alU(m n m' n':Int):LnQ:=mkL (aoy n n') (an4 m m') (auw m n m' n')
theorem afl{a b:Int}(ha:a.natAbs≤2000)(hb:b.natAbs≤1000):(a*b).natAbs≤2000000:=by
 rw[iW];exact jU ha hb
theorem amj{m n m' n':Int}(hm:m.natAbs≤1000)(hn:n.natAbs≤1000)(hm':m'.natAbs≤1000)(hn':n'.natAbs≤1000)(h0: ¬(m=m'∧n=n')):PF GB prog 121 [eP (iP m n),eP (iP m' n')] (.tp [eL (alU m n m' n'), .v (.bool true)]):=by
 obtain⟨a,hA⟩: ∃a,a=aoy n n':=⟨_,rfl⟩
 obtain⟨b,hB⟩: ∃b,b=an4 m m':=⟨_,rfl⟩
 have hA':a= -(n'-n):=hA
 have hB':b=m'-m:=hB
 obtain⟨c,hC⟩: ∃c,c= -(a*m+b*n):=⟨_,rfl⟩
 have e1:=afl (a:=a) (b:=m) (by omega) hm
 have e2:=afl (a:=b) (b:=n) (by omega) hn
 haveI hm0:=biC (k:=10) hm (by decide)
 haveI hn0:=biC (k:=10) hn (by decide)
 haveI ha:BI a 30:=aDz (by omega)
 haveI hb:BI b 30:=aDz (by omega)
 haveI hc:BI c 30:=aDz (by omega)
 have hthr:alU m n m' n'=mkL a b c:=by rw[hC,hA,hB];rfl
 have hne: ¬(a=0∧b=0):=fun h=>h0 (by omega)
 refine fn func121 J J ntmps121 J J (fun C=>?_)
 refine cl rfl (aCX (m:=m') (n:=n') (m':=m) (n':=n) hm' hn' hm hn) rfl<|cl rfl (PF.eq (alI (q:=(((n'-n):Int):Rat))) (eQI (k:=a) (by rw[hA'];push_cast;rfl))) rfl<|?_
 refine cl rfl (PF.eq (abn (a:=(a:Rat)) (b:=(m:Rat))) (eQI (k:=a*m) (by push_cast;rfl))) rfl<|cl rfl (PF.eq (by haveI:BI (m'-m) 30:=(by rw[←hB'];exact hb);exact abn (a:=(((m'-m):Int):Rat)) (b:=(n:Rat))) (eQI (k:=b*n) (by rw[hB'];push_cast;rfl))) rfl<|?_
 refine cl rfl (PF.eq (aeN (a:=((a*m:Int):Rat)) (b:=((b*n:Int):Rat))) (eQI (k:=a*m+b*n) (by push_cast;rfl))) rfl<|cl rfl (PF.eq (alI (q:=((a*m+b*n:Int):Rat))) (eQI (k:=c) (by rw[hC];push_cast;rfl))) rfl<|?_
 refine cl rfl (aeR (q:=(a:Rat))) rfl<|cl rfl (aeR (q:=(((m'-m):Int):Rat))) rfl<|cl rfl (PF.eq (aci (a:=1) (b:=1)) rfl) rfl<|?_
 refine cl rfl (aeR (q:=(c:Rat))) rfl<|cl rfl (PF.eq (aci (a:=1) (b:=1)) rfl) rfl<|cl (fu:=⟨1⟩) rfl (acG (neg:=false) (m:=1)) rfl<|?_
 refine eqF 40 (.d (eQ ((1:Int):Rat))) J J ?_
 refine gx rfl<|cl rfl (PF.eq (abn (a:=(a:Rat)) (b:=((1:Int):Rat))) (eQI (k:=a) (by push_cast;grind))) rfl<|cl rfl (PF.eq (by haveI:BI (m'-m) 30:=(by rw[←hB'];exact hb);exact abn (a:=(((m'-m):Int):Rat)) (b:=((1:Int):Rat))) (eQI (k:=b) (by rw[hB'];push_cast;grind))) rfl<|?_
 refine cl rfl (PF.eq (abn (a:=(c:Rat)) (b:=((1:Int):Rat))) (eQI (k:=c) (by push_cast;grind))) rfl<|cl rfl (azP (a:=a) (b:=b) (c:=c) ha hb hc (by decide) hne) rfl<|?_
 exact rz rfl (by rw[hthr];rfl)
theorem awG{es:List Int}{a:Nat}(h:a<es.length):(es.map vI)[(a:Int).toNat]? =some (vI es[a]):=by simp[h]
theorem awk:eP (iP 0 0)= .ag [.v (.bool false), .sl [], .sl [], .v (.bool false), .sl [], .sl []]:=by
 unfold eP iP
 simp[ac6,dD]
theorem aAZ{m n p q:Int}(hm:m.natAbs≤4)(hn:n.natAbs≤4)(hp:p.natAbs≤4)(hq:q.natAbs≤4)(h: ¬(p=0∧q=0)):LS (alU m n (m+1*p) (n+1*q)):=by
 have e1:aoy n (n+1*q)= -q:=by unfold aoy;omega
 have e2:an4 m (m+1*p)=p:=by unfold an4;omega
 have e3:((-q)*m).natAbs≤4*4:=by rw[iW];exact jU (by omega) hm
 have e4:(p*n).natAbs≤4*4:=by rw[iW];exact jU hp hn
 have e5:auw m n (m+1*p) (n+1*q)= -((-q)*m+p*n):=by unfold auw;rw[e1,e2]
 unfold alU
 obtain⟨k1,k2,k3⟩:=axj (aoy n (n+1*q)) (an4 m (m+1*p)) (auw m n (m+1*p) (n+1*q))
 exact⟨aw7 (by rw[e1,e2];omega),cJ k1 (by rw[e1];omega),cJ k2 (by rw[e2];omega),cJ k3 (by rw[e5];omega)⟩
def aae(es:List Int)(n:Int)(a:Nat):Nat×Nat:=
 if h:a<es.length then((if Int.tmod es[a] n<0 then Int.tmod es[a] n+n else Int.tmod es[a] n).toNat,a+1) else(0,a)
theorem abt{es:List Int}{n:Int}{a:Nat}(hn:1≤n):((aae es n a).1:Int)<n:=by
 unfold aae
 split
 ·rename_i h
  have q2:=Int.tmod_lt_of_pos es[a] (show 0<n by omega)
  dsimp only
  split<;>omega
 ·exact hn
theorem aaF{es:List Int}{n:Int}{a:Nat}(ha:a≤es.length):(aae es n a).2≤es.length:=by
 unfold aae
 split
 ·assumption
 ·exact ha
def pF(es:List Int)(a:Nat):(Int×Int)×Nat:=((((aae es 9 a).1:Int)-4,((aae es 9 (aae es 9 a).2).1:Int)-4),(aae es 9 (aae es 9 a).2).2)
theorem amO{es:List Int}{a:Nat}(ha:a≤es.length):(pF es a).1.1.natAbs≤4∧(pF es a).1.2.natAbs≤4∧(pF es a).2≤es.length:=by
 have h1:=abt (es:=es) (n:=9) (a:=a) (by decide)
 have h2:=abt (es:=es) (n:=9) (a:=(aae es 9 a).2) (by decide)
 have h3:=aaF (n:=9) (aaF (es:=es) (n:=9) ha)
 unfold pF
 exact⟨by dsimp only;omega,by dsimp only;omega,h3⟩
def vF(es:List Int)(a:Nat):(Int×Int)×Nat:=if(pF es a).1.1=0∧(pF es a).1.2=0 then((1,0),(pF es a).2) else pF es a
theorem aqG{es:List Int}{a:Nat}(ha:a≤es.length):(vF es a).1.1.natAbs≤4∧(vF es a).1.2.natAbs≤4∧ ¬((vF es a).1.1=0∧(vF es a).1.2=0)∧(vF es a).2≤es.length:=by
 obtain⟨h1,h2,h3⟩:=amO ha
 unfold vF
 split
 ·exact⟨show(1:Int).natAbs≤4 by decide,show(0:Int).natAbs≤4 by decide,show¬((1:Int)=0∧(0:Int)=0) by decide,h3⟩
 ·rename_i h;exact⟨h1,h2,h,h3⟩
def lF(es:List Int)(a:Nat):LnQ×Nat:=(alU (pF es a).1.1 (pF es a).1.2 ((pF es a).1.1+1*(vF es (pF es a).2).1.1) ((pF es a).1.2+1*(vF es (pF es a).2).1.2),(vF es (pF es a).2).2)
theorem aqx{es:List Int}{a:Nat}(ha:a≤es.length):LS (lF es a).1∧(lF es a).2≤es.length:=by
 obtain⟨h1,h2,h3⟩:=amO ha
 obtain⟨k1,k2,k3,k4⟩:=aqG h3
 exact⟨aAZ h1 h2 k1 k2 k3,k4⟩
def abq(es:List Int):Nat→Nat→Tr×Nat
 |0,a=>(.leaf (decide (((aae es 2 a).1:Int)=1)),(aae es 2 a).2)
 |d+1,a=>if((aae es 4 a).1:Int)=0 then(.leaf (decide (((aae es 2 (aae es 4 a).2).1:Int)=1)),(aae es 2 (aae es 4 a).2).2) else
  (.node (lF es (aae es 4 a).2).1 (abq es d (lF es (aae es 4 a).2).2).1 (abq es d (abq es d (lF es (aae es 4 a).2).2).2).1,(abq es d (abq es d (lF es (aae es 4 a).2).2).2).2)
theorem agc{es:List Int}: ∀{d a:Nat},a≤es.length→(abq es d a).1.depth≤d∧(abq es d a).1.all LnQ.ok∧(abq es d a).1.all (fun l=>BL l 96)∧(abq es d a).2≤es.length
 |0,a,ha=>⟨aR _,trivial,trivial,aaF ha⟩
 |d+1,a,ha=>by
  have h4:=aaF (n:=4) ha
  unfold abq
  split
  ·exact⟨aR _,trivial,trivial,aaF h4⟩
  ·obtain⟨hl,h5⟩:=aqx h4
   obtain⟨d1,o1,b1,h6⟩:=agc (d:=d) h5
   obtain⟨d2,o2,b2,h7⟩:=agc (d:=d) h6
   exact⟨by show 1+max _ _≤_;omega,⟨hl.ok,o1,o2⟩,⟨hl.bl,b1,b2⟩,h7⟩
theorem ab9{b:Nat}{es:List Int}(hes:es.length≤400){a:Nat}(ha:a≤es.length){n:Int}(hn:1≤n)(hn2:n≤1000):PM GB prog 50 (mkP [none,some (.v (.int .i64 n))] b) b 104 [.sl (es.map vI), .v (.int .i64 (a:Nat))] (.v (.int .i64 ((aae es n a).1:Nat))) [.sl (es.map vI), .v (.int .i64 ((aae es n a).2:Nat))]:=by
 have hel:(es.map vI).length=es.length:=by simp
 refine fnM func50 J J ntmps50 J J (fun C b m lo hmb=>?_)
 refine br J J J (fun hc15=>?_) (fun hc15=>?_)
 ·
  have hf:aae es n a=(0,a):=by unfold aae;rw[dif_neg (by omega)]
  exact rzM hmb J J (by rw[hf]<;>rfl) (by rw[hf]<;>rfl)
 ·
  have hal:a<es.length:=by omega
  obtain⟨e,he⟩: ∃e,e=es[a]:=⟨_,rfl⟩
  have q2:=Int.tmod_lt_of_pos e (show 0<n by omega)
  have q3: -n<Int.tmod e n:=by have:=Int.lt_tmod_of_pos e (show 0<n by omega);omega
  refine ix (fu:=⟨1⟩) _ rfl (awG hal) rfl<|?_
  refine eqF 25 (.d (vI e)) rfl (by rw[he]<;>rfl) ?_
  refine gx (hv:=by simp only[aah];exact⟨⟨by omega,by kernel_rfl⟩,by omega⟩) rfl<|?_
  refine br J J J (fun hc36=>?_) (fun hc36=>?_)
  ·
   have hf:aae es n a=((Int.tmod e n+n).toNat,a+1):=by unfold aae;rw[dif_pos hal,←he,if_pos hc36]
   exact rzM hmb J J (by rw[hf];show DV.v (.int .i64 _)=DV.v (.int .i64 _);rw[oN (by omega)]) (by rw[hf]<;>rfl)
  ·
   have hf:aae es n a=((Int.tmod e n).toNat,a+1):=by unfold aae;rw[dif_pos hal,←he,if_neg hc36]
   exact rzM hmb J J (by rw[hf];show DV.v (.int .i64 _)=DV.v (.int .i64 _);rw[oN (by omega)]) (by rw[hf]<;>rfl)
theorem aDo{b:Nat}{es:List Int}(hes:es.length≤400){a:Nat}(ha:a≤es.length):PM GB prog 120 (mkP [none] b) b 104 [.sl (es.map vI), .v (.int .i64 (a:Nat))] (eP (iP (pF es a).1.1 (pF es a).1.2)) [.sl (es.map vI), .v (.int .i64 ((pF es a).2:Nat))]:=by
 have h1:=abt (es:=es) (n:=9) (a:=a) (by decide)
 have h2:=abt (es:=es) (n:=9) (a:=(aae es 9 a).2) (by decide)
 refine fnM func120 J J ntmps120 J J (fun C b m lo hmb=>?_)
 refine cm rfl (fun b=>(ab9 (n:=9) hes ha (by decide) (by decide))) rfl<|cm rfl (fun b=>(ab9 (n:=9) hes (aaF ha) (by decide) (by decide))) rfl<|?_
 refine cl rfl (aoD (m:=((aae es 9 a).1:Int)-4) (n:=((aae es 9 (aae es 9 a).2).1:Int)-4) (by omega) (by omega)) rfl<|?_
 exact rzM hmb J J J J
theorem aDX{b:Nat}{es:List Int}(hes:es.length≤400){a:Nat}(ha:a≤es.length):PM GB prog 122 (mkP [none] b) b 104 [.sl (es.map vI), .v (.int .i64 (a:Nat))] (eP (iP (vF es a).1.1 (vF es a).1.2)) [.sl (es.map vI), .v (.int .i64 ((vF es a).2:Nat))]:=by
 obtain⟨hm,hn,ha1⟩:=amO ha
 refine fnM func122 J J ntmps122 J J (fun C b m lo hmb=>?_)
 refine cm (fu:=⟨9⟩) rfl (fun b=>(aDo hes ha)) rfl<|?_
 refine eqF 7 (.d (eP (iP 0 0))) rfl (by rw[awk]<;>rfl) ?_
 refine gx rfl<|cl rfl (alo (m:=(pF es a).1.1) (n:=(pF es a).1.2) (m':=0) (n':=0) (by omega) (by omega) (by decide) (by decide)) rfl<|?_
 refine bd J J J (fun hc8=>?_) (fun hc8=>?_)
 ·
  have hf:vF es a=((1,0),(pF es a).2):=by unfold vF;rw[if_pos hc8]
  refine cl rfl (aoD (m:=1) (n:=0) (by decide) (by decide)) rfl<|?_
  exact rzM hmb J J (by rw[hf]<;>rfl) (by rw[hf])
 ·
  have hf:vF es a=pF es a:=by unfold vF;rw[if_neg hc8]
  exact rzM hmb J J (by rw[hf]<;>rfl) (by rw[hf])
theorem aEg{b:Nat}{es:List Int}(hes:es.length≤400){a:Nat}(ha:a≤es.length):PM GB prog 53 (mkP [none] b) b 104 [.sl (es.map vI), .v (.int .i64 (a:Nat))] (eL (lF es a).1) [.sl (es.map vI), .v (.int .i64 ((lF es a).2:Nat))]:=by
 obtain⟨hm,hn,ha1⟩:=amO ha
 obtain⟨hp,hq,hz,ha2⟩:=aqG ha1
 refine fnM func53 J J ntmps53 J J (fun C b m lo hmb=>?_)
 refine cm rfl (fun b=>(aDo hes ha)) rfl<|cl rfl (ale (n:=1) (by decide) (by decide)) rfl<|cm rfl (fun b=>(aDX hes ha1)) rfl<|cl rfl (apO (m:=(pF es a).1.1) (n:=(pF es a).1.2) (m':=(vF es (pF es a).2).1.1) (n':=(vF es (pF es a).2).1.2) (k:=1) (by omega) (by omega) (by omega) (by omega) (by decide)) rfl<|?_
 refine cl rfl (amj (m:=(pF es a).1.1) (n:=(pF es a).1.2) (m':=(pF es a).1.1+1*(vF es (pF es a).2).1.1) (n':=(pF es a).1.2+1*(vF es (pF es a).2).1.2) (by omega) (by omega) (by omega) (by omega) (by omega)) rfl<|?_
 exact rzM hmb J J J J
theorem acP{p:Bool}:PF GB prog 54 [.v (.bool p)] (eT (.leaf p)):=by
 refine fn func54 J J ntmps54 J J (fun C=>?_)
 refine fzE 5 rfl ?_
 exact rz J J
theorem am7{b:Nat}{es:List Int}(hes:es.length≤400){a:Nat}(ha:a≤es.length){n:Int}(hn:n=0):PM GB prog 55 (mkP [none,some (.v (.int .i64 n))] b) b 104 [.sl (es.map vI), .v (.int .i64 (a:Nat))] (eT (abq es 0 a).1) [.sl (es.map vI), .v (.int .i64 ((abq es 0 a).2:Nat))]:=by
 refine fnM (fu:=⟨10⟩) func55 J J ntmps55 J J (fun C b m lo hmb=>?_)
 refine kT 8 rfl (by omega) ?_
 refine gx rfl<|cm rfl (fun b=>(ab9 (n:=2) hes ha (by decide) (by decide))) rfl<|cl rfl (acP (p:=decide (((aae es 2 a).1:Int)=1))) rfl<|?_
 exact rzM hmb J J J J
theorem amN{b:Nat}{es:List Int}(hes:es.length≤400){a:Nat}(ha:a≤es.length){d:Nat}{n:Int}(hn:n=((d+1:Nat):Int))(hd:d≤100)(ih: ∀{GB:Gh} {b a:Nat} {n:Int},a≤es.length→n=(d:Int)→PM GB prog 55 (mkP [none,some (.v (.int .i64 n))] b) b 104 [.sl (es.map vI), .v (.int .i64 (a:Nat))] (eT (abq es d a).1) [.sl (es.map vI), .v (.int .i64 ((abq es d a).2:Nat))]):PM GB prog 55 (mkP [none,some (.v (.int .i64 n))] b) b 104 [.sl (es.map vI), .v (.int .i64 (a:Nat))] (eT (abq es (d+1) a).1) [.sl (es.map vI), .v (.int .i64 ((abq es (d+1) a).2:Nat))]:=by
 have h4:=aaF (n:=4) ha
 obtain⟨hl,h5⟩:=aqx h4
 have h6:=(agc (d:=d) h5).2.2.2
 refine fnM (fu:=⟨10⟩) func55 J J ntmps55 J J (fun C b m lo hmb=>?_)
 refine kF 8 rfl (by omega) ?_
 refine gx rfl<|cm rfl (fun b=>(ab9 (n:=4) hes ha (by decide) (by decide))) rfl<|?_
 refine br J J J (fun hc13=>?_) (fun hc13=>?_)
 ·
  have hf:abq es (d+1) a=_:=if_pos hc13
  refine cm rfl (fun b=>(ab9 (n:=2) hes h4 (by decide) (by decide))) rfl<|cl rfl (acP (p:=decide (((aae es 2 (aae es 4 a).2).1:Int)=1))) rfl<|?_
  exact rzM hmb J J (by rw[hf]<;>rfl) (by rw[hf])
 ·
  have hf:abq es (d+1) a=_:=if_neg hc13
  refine cm rfl (fun b=>(aEg hes h4)) rfl<|cm rfl (fun b=>(ih h5 (by omega))) rfl<|cm rfl (fun b=>(ih h6 (by omega))) rfl<|?_
  refine fzE 31 rfl ?_
  exact rzM hmb J J (by rw[hf]<;>rfl) (by rw[hf])
theorem asg{es:List Int}(hes:es.length≤400): ∀{d:Nat} {GB:Gh} {b a:Nat} {n:Int},d≤100→a≤es.length→n=(d:Int)→PM GB prog 55 (mkP [none,some (.v (.int .i64 n))] b) b 104 [.sl (es.map vI), .v (.int .i64 (a:Nat))] (eT (abq es d a).1) [.sl (es.map vI), .v (.int .i64 ((abq es d a).2:Nat))]
 |0,_,_,_,_,_,ha,hn=>am7 hes ha hn
 |d+1,_,_,_,_,hd,ha,hn=>amN hes ha hn (by omega) (fun h1 h2=>asg hes (by omega) h1 h2)
theorem atj{es:List Int}(hes:es.length≤400){a d b:Nat}(ha:a≤es.length)(hd:d≤100):PM GB prog 55 (mkP [none,some (.v (.int .i64 (d:Nat)))] b) b 104 [.sl (es.map vI), .v (.int .i64 (a:Nat))] (eT (abq es d a).1) [.sl (es.map vI), .v (.int .i64 ((abq es d a).2:Nat))]:=asg (GB:=GB) hes hd ha rfl
abbrev ZP:=Int×Int
def ZP.q(p:ZP):PtQ:=iP p.1 p.2
def ZP.le(k:Nat)(p:ZP):Prop:=p.1.natAbs≤k∧p.2.natAbs≤k
def aDm(p q:ZP):ZP:=(p.1+1*q.1,p.2+1*q.2)
def ai8(u v:ZP):Int:=u.1*v.2-u.2*v.1
theorem axR{m n p q:Int}(hm:m.natAbs≤1000)(hn:n.natAbs≤1000)(hp:p.natAbs≤1000)(hq:q.natAbs≤1000)(h: ¬(p=m∧q=n)):LB (alU m n p q)∧(alU m n p q).ok:=by
 have e1:(aoy n q).natAbs≤2000:=by unfold aoy;omega
 have e2:(an4 m p).natAbs≤2000:=by unfold an4;omega
 have e3:=afl e1 hm
 have e4:=afl e2 hn
 have e5:(auw m n p q).natAbs≤4000000:=by unfold auw;omega
 unfold alU
 obtain⟨k1,k2,k3⟩:=axj (aoy n q) (an4 m p) (auw m n p q)
 have hb:(2:Nat)^96=79228162514264337593543950336:=by decide
 refine⟨⟨⟨?_,?_,?_⟩⟩,aw7 ?_⟩
 ·rw[hb];omega
 ·rw[hb];omega
 ·rw[hb];omega
 ·unfold aoy an4;omega
def aeS(v w:ZP):FrQ:=⟨alU v.1 v.2 w.1 w.2,⟨abp (alU v.1 v.2 w.1 w.2) v.q,abp (alU v.1 v.2 w.1 w.2) w.q,false,false⟩⟩
def acE(r:List ZP)(i:Nat):ZP:=r.getD ((i+1)%r.length) (0,0)
def aeV(r:List ZP):Nat→List FrQ
 |0=>[]
 |k+1=>aeV r k++[aeS (r.getD k (0,0)) (acE r k)]
def acC(r:List ZP):List FrQ:=aeV r r.length
structure aaU (r:List ZP):Prop where
 n3:3≤r.length
 n6:r.length≤6
 le: ∀p∈r,ZP.le 100 p
 ne: ∀i<r.length,r.getD i (0,0)≠acE r i
theorem af8{r:List ZP}{i:Nat}(h:i<r.length):r.getD i (0,0)∈r:=by
 rw[aX,aQ h];exact bM h
theorem agz{r:List ZP}{i:Nat}(h:i<r.length):acE r i∈r:=af8 (cS _ (by omega))
theorem BQ.int1200{m:Int}(h:m.natAbs≤1000):BQ (m:Rat) 1200:=by
 haveI:BI m 11:=biC h (by decide)
 exact BQ.mono (inferInstance:BQ (m:Rat) 12) (by decide)
theorem amA{l:LnQ}(hl:LB l)(ho:l.ok){m n:Int}(hm:m.natAbs≤1000)(hn:n.natAbs≤1000):BQ (abp l (iP m n)) 1200:=by
 haveI:=biC (k:=11) hm (by decide)
 haveI:=biC (k:=11) hn (by decide)
 have hd:=amC ho.ne
 have hA:BI (l.a*l.a+l.b*l.b) _:=inferInstance
 have hB:BI (m*l.b-n*l.a) _:=inferInstance
 have hA':=apm (j:=1200) hA (by decide)
 have hB':=apm (j:=1200) hB (by decide)
 have e1:l.dir.dot l.dir=((l.a*l.a+l.b*l.b:Int):Rat):=by
  rw[pK,cV,cV]
  simp only[LnQ.dir,PtQ.dot];grind
 have e2:(iP m n).dot l.dir=((m*l.b-n*l.a:Int):Rat):=by
  rw[jR,cV,cV]
  simp only[LnQ.dir,PtQ.dot,iP];grind
 have hd':((0:Int):Rat)<((l.a*l.a+l.b*l.b:Int):Rat):=by rw[←e1];exact hd
 unfold abp
 rw[e2,e1]
 clear hA hB e1 e2
 generalize l.a*l.a+l.b*l.b=D at*
 generalize m*l.b-n*l.a=M at*
 have hD:0<D:=Rat.intCast_lt_intCast.1 hd'
 refine BQ.of_fracI (n:=M) (D:=D) (by omega) ?_ hB' hA'
 have h0:(D:Rat)≠0:=fun e=>by rw[e] at hd';exact absurd hd' (by decide)
 have:((D.natAbs:Nat):Rat)=(D:Rat):=by
  have h1:((D.natAbs:Nat):Int)=D:=by omega
  rw[←h1];rfl
 rw[this]
 grind
theorem ayg{v w:ZP}(hv:ZP.le 100 v)(hw:ZP.le 100 w)(h:v≠w):FOk (aeS v w):=by
 obtain⟨h1,h2⟩:=axR (m:=v.1) (n:=v.2) (p:=w.1) (q:=w.2) (by have:=hv.1;omega) (by have:=hv.2;omega) (by have:=hw.1;omega) (by have:=hw.2;omega) (fun e=>h (Prod.ext e.1.symm e.2.symm))
 exact⟨h1,h2,⟨fun e=>(by cases e),fun e=>(by cases e)⟩,amA h1 h2 (by have:=hv.1;omega) (by have:=hv.2;omega),amA h1 h2 (by have:=hw.1;omega) (by have:=hw.2;omega)⟩
theorem aiB{r:List ZP}(h:aaU r): ∀{k:Nat},k≤r.length→(aeV r k).length=k∧ ∀f∈aeV r k,FOk f
 |0,_=>⟨rfl,fun f hf=>by cases hf⟩
 |k+1,hk=>by
  obtain⟨h1,h2⟩:=aiB h (k:=k) (by omega)
  rw[aeV]
  refine⟨by simp[h1],fun f hf=>?_⟩
  rcases bS.1 hf with hf|hf
  ·exact h2 f hf
  ·rw[aY] at hf;subst hf
   exact ayg (h.le _ (af8 (by omega))) (h.le _ (agz (by omega))) (h.ne k (by omega))
theorem ahW{r:List ZP}(h:aaU r):(acC r).length=r.length∧ ∀f∈acC r,FOk f:=aiB h (aL _)
def abT(rs:List (List ZP)):List FrQ:=rs.flatMap acC
theorem acw: ∀{rs:List (List ZP)},(∀r∈rs,aaU r)→(abT rs).length≤6*rs.length∧ ∀f∈abT rs,FOk f
 |[],_=>⟨aL _,fun f hf=>by cases hf⟩
 |r::rs,h=>by
  obtain⟨h1,h2⟩:=acw (rs:=rs) fun q hq=>h q (aK _ hq)
  obtain⟨k1,k2⟩:=ahW (h r aZ)
  have:=(h r aZ).n6
  unfold abT at*
  rw[qZ]
  refine⟨by rw[aW,k1,bU];omega,fun f hf=>?_⟩
  rcases bS.1 hf with hf|hf
  ·exact k2 f hf
  ·exact h2 f hf
def ag6(a b c:PtQ):Int:=(PtQ.cross (acu b a (-1)) (acu c a (-1))).num.sign
def atY(v w p:PtQ):Int:=
 (if abc v.y p.y≤0∧ ¬abc w.y p.y≤0∧0<ag6 v w p then 1 else 0)-(if¬abc v.y p.y≤0∧abc w.y p.y≤0∧ag6 v w p<0 then 1 else 0)
def aq0(r:List ZP)(p:PtQ):Nat→Int
 |0=>0
 |k+1=>aq0 r p k+atY (r.getD k (0,0)).q (acE r k).q p
def anx(r:List ZP)(p:PtQ):Int:=aq0 r p r.length
def auZ(fill n:Int):Bool:=(decide (fill=1)&&decide (n.tmod 2≠0))||(decide (fill=2)&&decide (n≠0))
def inR(rs:List (List ZP))(fill:Int)(p:PtQ):Bool:=auZ fill (rs.foldl (fun n r=>n+anx r p) 0)
def az0(rs:List (List ZP))(fill:Int):Tr:=ajE (inR rs fill) (abT rs).length (abT rs) []
def adb(rs:List (List ZP))(fill:Int):Tr:=(az0 rs fill).restrict []
structure aht (k:Nat) (t:Tr):Prop where
 gd:t.gd
 dp:t.depth≤k
 am: ∃K:List LnQ,K.length≤k∧(∀l∈K,l.ok)∧adW K t
theorem att{acc:PtQ→Bool}{n:Nat}{l:List FrQ}(h: ∀f∈l,FOk f)(hn:l.length=n):aht n (ajE acc n l []):=
 ⟨⟨aez fun f hf=>(h f hf).lb,aez fun f hf=>(h f hf).ok⟩,ag9,l.map (·.l),by rw[aJ,hn];exact aL _,fun m hm=>by
  obtain⟨f,hf,rfl⟩:=bW.1 hm;exact(h f hf).ok,aez fun f hf=>⟨f.l,gS hf, .inl rfl⟩⟩
theorem aht.restrict{k:Nat}{t:Tr}(h:aht k t)(c:aag):aht k (t.restrict c):=by
 obtain⟨K,h1,h2,h3⟩:=h.am
 exact⟨anW h.gd c,cJ (t.restrict_depth c) h.dp,K,h1,h2,h3.restrict c⟩
theorem aht.compl{k:Nat}{t:Tr}(h:aht k t):aht k t.compl:=by
 obtain⟨K,h1,h2,h3⟩:=h.am
 exact⟨avY h.gd,by rw[t.compl_depth];exact h.dp,K,h1,h2,h3.compl⟩
theorem aht.mono{j k:Nat}{t:Tr}(h:aht j t)(hk:j≤k):aht k t:=by
 obtain⟨K,h1,h2,h3⟩:=h.am
 exact⟨h.gd,cJ h.dp hk,K,by omega,h2,h3⟩
theorem aht.merge{j k:Nat}{op:Int}{t u:Tr}(h:aht j t)(hu:aht k u):aht (j+k) (t.mergeQ op u []):=by
 obtain⟨K,h1,h2,h3⟩:=h.am
 obtain⟨M,k1,k2,k3⟩:=hu.am
 refine⟨⟨Tr.mergeQ_all LB op hu.gd.lb t [] h.gd.lb,Tr.mergeQ_all LnQ.ok op hu.gd.ok t [] h.gd.ok⟩,cJ (Tr.mergeQ_depth op u t []) (by have:=h.dp;have:=hu.dp;omega),K++M,by rw[aW];omega,fun l hl=>(bS.1 hl).elim (h2 l) (k2 l),?_⟩
 exact(h3.mono fun l hl=>⟨l,cX _ hl, .inl rfl⟩).merge (k3.mono fun l hl=>⟨l,cW _ hl, .inl rfl⟩) []
theorem aoV{rs:List (List ZP)}{fill:Int}(h: ∀r∈rs,aaU r)(hn:rs.length≤3):aht 18 (adb rs fill):=by
 obtain⟨h1,h2⟩:=acw h
 exact((att (acc:=inR rs fill) h2 rfl).restrict []).mono (by omega)
def azY(p q:ZP):Int:=if p.1<q.1 then-1 else if q.1<p.1 then 1 else if p.2<q.2 then-1 else if q.2<p.2 then 1 else 0
def awv(x:ZP):List ZP→List ZP
 |[]=>[x]
 |u::t=>if azY u x<0 then u::awv x t else if azY u x=0 then u::t else x::u::t
def alY(l:List ZP):List ZP:=l.foldl (fun out x=>awv x out) []
theorem aoR{x:ZP}: ∀{l:List ZP},(awv x l).length≤l.length+1
 |[]=>aL _
 |u::t=>by
  rw[awv]
  have:=aoR (x:=x) (l:=t)
  split
  ·simp;omega
  ·split<;>simp
theorem asn(l:List ZP):(alY l).length≤l.length:=by
 have key: ∀(l o:List ZP),(l.foldl (fun out x=>awv x out) o).length≤l.length+o.length:=by
  intro l
  induction l with
  |nil=>intro o;simp
  |cons x t ih=>intro o;have:=ih (awv x o);have:=aoR (x:=x) (l:=o);simp only[kK,bU];omega
 have:=key l []
 simpa[alY] using this
def afW(a b c d:Int):List ZP:=[(a,b),(c,b),(c,d),(a,d)]
theorem agB{r:List ZP}{i:Nat}(h:i+1<r.length):acE r i=r.getD (i+1) (0,0):=by unfold acE;rw[fK h]
theorem aep{r:List ZP}{i:Nat}(h:i+1=r.length):acE r i=r.getD 0 (0,0):=by unfold acE;rw[h,Nat.mod_self]
theorem asm{a b c d:Int}(h1:a.natAbs≤50)(h2:b.natAbs≤50)(h3:c.natAbs≤50)(h4:d.natAbs≤50)(h5:a<c)(h6:b<d):aaU (afW a b c d):=by
 refine⟨by simp[afW],by simp[afW],fun p hp=>?_,fun i hi=>?_⟩
 ·simp only[afW,aS,iY,or_false] at hp
  rcases hp with rfl|rfl|rfl|rfl<;>exact⟨by dsimp only;omega,by dsimp only;omega⟩
 ·have:i=0∨i=1∨i=2∨i=3:=by simp[afW] at hi;omega
  rcases this with rfl|rfl|rfl|rfl<;>simp[afW,acE]<;>omega
def ax6(p u v:ZP):List ZP:=[p,aDm p u,aDm p v]
theorem aBy{p u v:ZP}(h1:ZP.le 40 p)(h2:ZP.le 40 u)(h3:ZP.le 40 v)(h:ai8 u v≠0):aaU (ax6 p u v):=by
 obtain⟨p1,p2⟩:=p
 obtain⟨u1,u2⟩:=u
 obtain⟨v1,v2⟩:=v
 unfold ZP.le at h1 h2 h3
 dsimp only at h1 h2 h3
 unfold ai8 at h
 dsimp only at h
 refine⟨by simp[ax6],by simp[ax6],fun p hp=>?_,fun i hi=>?_⟩
 ·simp only[ax6,aDm,aS,iY,or_false] at hp
  rcases hp with rfl|rfl|rfl<;>exact⟨by dsimp only;omega,by dsimp only;omega⟩
 ·have:i=0∨i=1∨i=2:=by simp[ax6] at hi;omega
  have hu: ¬(u1=0∧u2=0):=fun e=>h (by rw[e.1,e.2];simp)
  have hv: ¬(v1=0∧v2=0):=fun e=>h (by rw[e.1,e.2];simp)
  have huv: ¬(u1=v1∧u2=v2):=fun e=>h (by rw[e.1,e.2,Int.mul_comm];omega)
  rcases this with rfl|rfl|rfl<;>simp[ax6,aDm,acE]<;>omega
def aoF(es:List Int):Nat→Nat→List ZP→List ZP×Nat
 |0,a,out=>(out,a)
 |n+1,a,out=>aoF es n (pF es a).2 (if out.getLast? =some (pF es a).1 then out else out++[(pF es a).1])
structure Adj (r:List ZP):Prop where
 ne: ∀i,i+1<r.length→r.getD i (0,0)≠r.getD (i+1) (0,0)
 le: ∀p∈r,ZP.le 100 p
theorem Adj.snoc{r:List ZP}{p:ZP}(h:Adj r)(hp:ZP.le 100 p)(hl:r.getLast? ≠some p):Adj (r++[p]):=by
 refine⟨fun i hi=>?_,fun q hq=>?_⟩
 ·rw[aW,dK] at hi
  rw[aX,aX]
  by_cases h1:i+1<r.length
  ·rw[gL (by omega),gL h1]
   have:=h.ne i h1
   rwa [aX,aX] at this
  ·have e:i+1=r.length:=by omega
   rw[gL (by omega),e,iS (aL _),Nat.sub_self]
   rw[kV,←e,kU] at hl
   rw[aQ (by omega)] at hl⊢
   intro c
   exact hl (by simpa using c)
 ·rcases bS.1 hq with hq|hq
  ·exact h.le q hq
  ·rw[aY] at hq;subst hq;exact hp
theorem anU{es:List Int}: ∀{n a:Nat} {out:List ZP},a≤es.length→Adj out→Adj (aoF es n a out).1∧(aoF es n a out).1.length≤out.length+n∧(aoF es n a out).2≤es.length
 |0,a,out,ha,h=>⟨h,aL _,ha⟩
 |n+1,a,out,ha,h=>by
  obtain⟨h1,h2,h3⟩:=amO ha
  rw[aoF]
  by_cases hl:out.getLast? =some (pF es a).1
  ·rw[if_pos hl]
   obtain⟨k1,k2,k3⟩:=anU (n:=n) h3 h
   exact⟨k1,by omega,k3⟩
  ·rw[if_neg hl]
   obtain⟨k1,k2,k3⟩:=anU (n:=n) h3 (h.snoc (p:=(pF es a).1) ⟨by omega,by omega⟩ hl)
   rw[aW,dK] at k2
   exact⟨k1,by omega,k3⟩
def aeU:Nat→List ZP→List ZP
 |0,l=>l
 |n+1,l=>if 1<l.length∧l.getD 0 (0,0)=l.getD (l.length-1) (0,0) then aeU n l.dropLast else l
theorem Adj.drop{r:List ZP}(h:Adj r):Adj r.dropLast:=by
 refine⟨fun i hi=>?_,fun p hp=>h.le p ((qT _).subset hp)⟩
 rw[gV] at hi
 have:=h.ne i (by omega)
 rw[aX,aX] at this⊢
 rw[qX,qX,if_pos (by omega),if_pos (by omega)]
 exact this
theorem apD: ∀{n:Nat} {l:List ZP},Adj l→l.length≤n+1→Adj (aeU n l)∧(aeU n l).length≤l.length∧(1<(aeU n l).length→(aeU n l).getD 0 (0,0)≠(aeU n l).getD ((aeU n l).length-1) (0,0))
 |0,l,h,hn=>⟨h,aL _,fun k=>absurd k (by unfold aeU;omega)⟩
 |n+1,l,h,hn=>by
  rw[aeU]
  split
  ·obtain⟨h1,h2,h3⟩:=apD (n:=n) h.drop (by rw[gV];omega)
   rw[gV] at h2
   exact⟨h1,by omega,h3⟩
  ·rename_i hc
   exact⟨h,aL _,fun k e=>hc ⟨k,e⟩⟩
theorem az1{r:List ZP}(h:Adj r)(h6:r.length≤6)(hc:1<r.length→r.getD 0 (0,0)≠r.getD (r.length-1) (0,0))(h3:3≤(alY r).length):aaU r:=by
 have:=asn r
 refine⟨by omega,h6,h.le,fun i hi=>?_⟩
 by_cases h1:i+1<r.length
 ·rw[agB h1];exact h.ne i h1
 ·have e:i+1=r.length:=by omega
  rw[aep e]
  have:=hc (by omega)
  rw[show i=r.length-1 by omega]
  exact fun k=>this k.symm
def aAH:List ZP:=[(0,0),(2,0),(0,2)]
theorem ayo:aaU aAH:=⟨by decide,by decide,fun p hp=>by
  simp only[aAH,aS,iY,or_false] at hp
  rcases hp with rfl|rfl|rfl<;>exact⟨by decide,by decide⟩,fun i hi=>by
  have:i=0∨i=1∨i=2:=by simp[aAH] at hi;omega
  rcases this with rfl|rfl|rfl<;>decide⟩
def auu(es:List Int)(a:Nat):List ZP×Nat:=
 ((if(alY (aeU 6 (aoF es (3+(aae es 4 a).1) (aae es 4 a).2 []).1)).length<3 then aAH else aeU 6 (aoF es (3+(aae es 4 a).1) (aae es 4 a).2 []).1),(aoF es (3+(aae es 4 a).1) (aae es 4 a).2 []).2)
theorem Adj.nil:Adj []:=⟨fun i hi=>by simp at hi,fun p hp=>by cases hp⟩
theorem asc{es:List Int}{a:Nat}(ha:a≤es.length):aaU (auu es a).1∧(auu es a).2≤es.length:=by
 have h1:=abt (es:=es) (n:=4) (a:=a) (by decide)
 obtain⟨k1,k2,k3⟩:=anU (n:=3+(aae es 4 a).1) (aaF (n:=4) ha) Adj.nil
 obtain⟨t1,t2,t3⟩:=apD (n:=6) k1 (by simp at k2;omega)
 refine⟨?_,k3⟩
 unfold auu
 dsimp only
 split
 ·exact ayo
 ·exact az1 t1 (by simp at k2;omega) t3 (by omega)
def sqF(es:List Int)(n m k:Int)(a:Nat):List ZP×Nat:=
 let x:=aae es n a
 let y:=aae es n x.2
 let z:=aae es m y.2
 let w:=aae es m z.2
 (afW ((x.1:Int)-k) ((y.1:Int)-k) ((x.1:Int)-k+1+z.1) ((y.1:Int)-k+1+w.1),w.2)
theorem aCz{es:List Int}{n m k:Int}{a:Nat}(ha:a≤es.length)(hn:1≤n)(hn2:n≤10)(hm:1≤m)(hm2:m≤10)(hk:0≤k)(hk2:k≤10):aaU (sqF es n m k a).1∧(sqF es n m k a).2≤es.length:=by
 have h1:=abt (es:=es) (a:=a) hn
 have h2:=abt (es:=es) (a:=(aae es n a).2) hn
 have h3:=abt (es:=es) (a:=(aae es n (aae es n a).2).2) hm
 have h4:=abt (es:=es) (a:=(aae es m (aae es n (aae es n a).2).2).2) hm
 exact⟨asm (by omega) (by omega) (by omega) (by omega) (by omega) (by omega),aaF (aaF (aaF (aaF ha)))⟩
def acF(es:List Int)(a:Nat):List ZP×Nat:=
 let k:=aae es 4 a
 if(k.1:Int)=0 then sqF es 5 4 4 k.2
 else if(k.1:Int)=1 then
  let p:=pF es k.2
  let u:=vF es p.2
  let v:=vF es u.2
  if ai8 u.1 v.1≠0 then(ax6 p.1 u.1 v.1,v.2) else auu es v.2
 else auu es k.2
theorem ahU{es:List Int}{a:Nat}(ha:a≤es.length):aaU (acF es a).1∧(acF es a).2≤es.length:=by
 have h0:=aaF (n:=4) ha
 unfold acF
 dsimp only
 split
 ·exact aCz h0 (by decide) (by decide) (by decide) (by decide) (by decide) (by decide)
 ·split
  ·obtain⟨p1,p2,p3⟩:=amO h0
   obtain⟨u1,u2,u3,u4⟩:=aqG p3
   obtain⟨v1,v2,v3,v4⟩:=aqG u4
   split
   ·rename_i hc
    exact⟨aBy ⟨by omega,by omega⟩ ⟨by omega,by omega⟩ ⟨by omega,by omega⟩ hc,v4⟩
   ·exact asc v4
  ·exact asc h0
def aF5:List ZP:=[(0,0),(1,0),(0,1)]
def ath(es:List Int)(a:Nat):List ZP×Nat:=
 let k:=aae es 2 a
 if(k.1:Int)=0 then sqF es 3 2 1 k.2
 else
  let x:=aae es 3 k.2
  let y:=aae es 3 x.2
  let u1:=aae es 2 y.2
  let u2:=aae es 3 u1.2
  let v1:=aae es 3 u2.2
  let v2:=aae es 2 v1.2
  (if 0<ai8 (1+(u1.1:Int),(u2.1:Int)-1) ((v1.1:Int)-1,1+(v2.1:Int)) then ax6 ((x.1:Int)-1,(y.1:Int)-1) (1+(u1.1:Int),(u2.1:Int)-1) ((v1.1:Int)-1,1+(v2.1:Int)) else aF5,v2.2)
def ade(es:List Int)(a:Nat):Tr×Nat:=
 let r:=acF es a
 let k:=aae es 3 r.2
 if(k.1:Int)=0 then
  let s:=acF es k.2
  let f:=aae es 2 s.2
  (adb [r.1,s.1] (1+(f.1:Int)),f.2)
 else
  let f:=aae es 2 k.2
  (adb [r.1] (1+(f.1:Int)),f.2)
theorem aec{es:List Int}{a:Nat}(ha:a≤es.length):aht 18 (ade es a).1∧(ade es a).2≤es.length:=by
 obtain⟨r1,r2⟩:=ahU ha
 have h3:=aaF (n:=3) r2
 unfold ade
 dsimp only
 split
 ·obtain⟨s1,s2⟩:=ahU h3
  exact⟨aoV (fun r hr=>by simp only[aS,iY,or_false] at hr;rcases hr with rfl|rfl;exact r1;exact s1) (by simp),aaF s2⟩
 ·exact⟨aoV (fun r hr=>by simp only[aS,iY,or_false] at hr;subst hr;exact r1) (by simp),aaF h3⟩
def awb(l:LnQ):Tr:=(Tr.node l (.leaf true) (.leaf false)).restrict []
theorem anG: ∀t:Tr,t.lns.length=t.size
 | .leaf _=>rfl
 | .node l x y=>by rw[Tr.lns,bU,aW,anG x,anG y,Tr.size];omega
theorem as3{t:Tr}{k:Nat}(hb:t.all (fun l=>BL l 96))(ho:t.all LnQ.ok)(hs:t.size≤k):aht k t:=
 ⟨⟨aeY.2 fun l hl=>⟨aeY.1 hb l hl⟩,ho⟩,cJ t.depth_size hs,t.lns,by rw[anG];exact hs,axw ho,auJ fun l hl=>hl⟩
theorem aoe{es:List Int}{d a:Nat}(ha:a≤es.length)(hd:d≤4):aht 18 (abq es d a).1∧(abq es d a).2≤es.length:=by
 obtain⟨h1,h2,h3,h4⟩:=agc (d:=d) ha
 have h5:=Tr.size_lt (abq es d a).1
 have h6:(2:Nat)^(abq es d a).1.depth≤2^4:=bK (by decide) (by omega)
 exact⟨as3 h3 h2 (by omega),h4⟩
theorem ar9{l:LnQ}(h:LS l):aht 18 (awb l):=
 (as3 (k:=18) (t:= .node l (.leaf true) (.leaf false)) ⟨h.bl,trivial,trivial⟩ ⟨h.ok,trivial,trivial⟩ (by simp[Tr.size])).restrict []
def aaq(es:List Int):Nat→Nat→Tr×Nat
 |0,a=>
  let k:=aae es 6 a
  if(k.1:Int)=1 then(awb (lF es k.2).1,(lF es k.2).2)
  else if(k.1:Int)=2 then((abq es 3 k.2).1.restrict [],(abq es 3 k.2).2)
  else if(k.1:Int)=3 then((ade es k.2).1.compl,(ade es k.2).2)
  else ade es k.2
 |d+1,a=>
  let k:=aae es 6 a
  if(k.1:Int)=0 then
   let x:=aaq es d k.2
   let o:=aae es 4 x.2
   let y:=aaq es d o.2
   (x.1.mergeQ (1+(o.1:Int)) y.1 [],y.2)
  else if(k.1:Int)=1 then(awb (lF es k.2).1,(lF es k.2).2)
  else if(k.1:Int)=2 then((abq es 3 k.2).1.restrict [],(abq es 3 k.2).2)
  else if(k.1:Int)=3 then((ade es k.2).1.compl,(ade es k.2).2)
  else ade es k.2
theorem ad7{es:List Int}: ∀{d a:Nat},a≤es.length→aht (18*2^d) (aaq es d a).1∧(aaq es d a).2≤es.length
 |0,a,ha=>by
  have h0:=aaF (n:=6) ha
  rw[aaq]
  try dsimp only
  split
  ·obtain⟨h1,h2⟩:=aqx h0;exact⟨ar9 h1,h2⟩
  ·split
   ·obtain⟨h1,h2⟩:=aoe (d:=3) h0 (by decide);exact⟨h1.restrict [],h2⟩
   ·split
    ·obtain⟨h1,h2⟩:=aec h0;exact⟨h1.compl,h2⟩
    ·exact aec h0
 |d+1,a,ha=>by
  have h0:=aaF (n:=6) ha
  have hp:18≤18*2^(d+1):=mM _ (dJ (by decide))
  rw[aaq]
  try dsimp only
  split
  ·obtain⟨h1,h2⟩:=ad7 (d:=d) h0
   obtain⟨h3,h4⟩:=ad7 (d:=d) (aaF (n:=4) h2)
   exact⟨(h1.merge h3).mono (by rw[dV];omega),h4⟩
  ·split
   ·obtain⟨h1,h2⟩:=aqx h0;exact⟨(ar9 h1).mono hp,h2⟩
   ·split
    ·obtain⟨h1,h2⟩:=aoe (d:=3) h0 (by decide);exact⟨(h1.restrict []).mono hp,h2⟩
    ·split
     ·obtain⟨h1,h2⟩:=aec h0;exact⟨h1.compl.mono hp,h2⟩
     ·obtain⟨h1,h2⟩:=aec h0;exact⟨h1.mono hp,h2⟩
def aGz(es:List Int)(a:Nat):Tr×Nat:=
 let k:=aae es 4 a
 if(k.1:Int)=0 then(awb (lF es k.2).1,(lF es k.2).2)
 else if(k.1:Int)=1 then((abq es 2 k.2).1.restrict [],(abq es 2 k.2).2)
 else(adb [(ath es k.2).1] 2,(ath es k.2).2)
def aza(op:Int)(a b:Tr):Bool:=decide ((a.mergeQ op b []).isLeaf=true∧(a.mergeQ op b []).code=false)
def aDD(a b:Tr):Int:=if aza 4 a b then 0 else if aza 3 a b then-1 else if aza 3 b a then 1 else 2
def atQ:Tr→PtQ→Bool
 | .leaf b,_=>b
 | .node l x y,p=>if(l.value p).num.sign=1 then atQ x p else if(l.value p).num.sign= -1 then atQ y p else false
theorem afx: ∀{t:Tr} {c:aag} {b:Bool} {e:aag},t.all LnQ.ok→aba c→(b,e)∈t.parts c→aba e∧ ∀p,InD e p→InD c p∧t.val p=b
 | .leaf v,c,b,e,_,hc,h=>by
  rw[Tr.parts,aY] at h
  cases h
  exact⟨hc,fun p hp=>⟨hp,rfl⟩⟩
 | .node l x y,c,b,e,⟨hl,hx,hy⟩,hc,h=>by
  rw[Tr.parts] at h
  rcases bS.1 h with h|h
  ·split at h
   ·rename_i hb
    obtain⟨k1,k2⟩:=abl hc hl hb
    obtain⟨m1,m2⟩:=afx hx k1 h
    refine⟨m1,fun p hp=>?_⟩
    obtain⟨n1,n2⟩:=m2 p hp
    obtain⟨o1,o2⟩:=(k2 p).1 n1
    exact⟨o1,by rw[Tr.val_pos o2,n2]⟩
   ·cases h
  ·split at h
   ·rename_i hb
    obtain⟨k1,k2⟩:=abl hc hl.rev hb
    obtain⟨m1,m2⟩:=afx hy k1 h
    refine⟨m1,fun p hp=>?_⟩
    obtain⟨n1,n2⟩:=m2 p hp
    obtain⟨o1,o2⟩:=(k2 p).1 n1
    rw[aaW] at o2
    exact⟨o1,by rw[Tr.val_neg (by grind),n2]⟩
   ·cases h
def aaC(t:Tr):List aag:=((t.parts []).filter (·.1)).map (·.2)
theorem afo{t:Tr}{e:aag}:e∈aaC t↔(true,e)∈t.parts []:=by
 unfold aaC
 simp
def aFa(l:LnQ)(p:PtQ):aag→Rat→Rat
 |[],f=>f
 |s::c,f=>aFa l p c (if Int.sign (s.l.nor.dot l.nor).num<0 then(if-(s.l.value p/s.l.nor.dot l.nor)<f then-(s.l.value p/s.l.nor.dot l.nor) else f) else f)
def aE8:aag→PtQ
 |[]=>⟨0,0⟩
 |s::c=>acu (s.l.at s.v.sample) s.l.nor (aFa s.l (s.l.at s.v.sample) c 1*mkRat 1 2)
theorem ap0{v k:Rat}(hk:k<0)(hv:0<v):0< -(v/k):=by
 have e: -(v/k)* -k=v:=by grind
 exact(aau (k:= -k) (by grind)).1 (by rw[e];exact hv)
def ayh:Tr→PtQ→PtQ→Bool×Bool
 | .leaf b,_,_=>(b,true)
 | .node l x y,p,v=>match (if(l.value p).num.sign=0 then(l.dir.cross v).num.sign else(l.value p).num.sign) with
  |1=>ayh x p v
  | -1=>ayh y p v
  |_=>(false,false)
theorem atG(l:LnQ)(v:PtQ):l.dir.cross v=l.nor.dot v:=by
 unfold LnQ.dir LnQ.nor PtQ.cross PtQ.dot
 grind
def Gn(L:List LnQ)(p v:PtQ):Prop:= ∀l∈L,l.value p=0→l.nor.dot v≠0
theorem acM(p:PtQ):(p.half=1∧(0<p.y∨(p.y=0∧0<p.x)))∨(p.half=2∧(p.y<0∨(p.y=0∧p.x<0)))∨(p.half=0∧p.y=0∧p.x=0):=by
 unfold PtQ.half
 simp only[ac7,agU,abN]
 split
 ·rename_i h;exact .inl ⟨rfl,h⟩
 ·rename_i h
  split
  ·rename_i h2
   exact .inr (.inl ⟨rfl,by grind⟩)
  ·rename_i h2
   exact .inr (.inr ⟨rfl,by grind,by grind⟩)
theorem alL{p:PtQ}:p.half=1↔(0<p.y∨(p.y=0∧0<p.x)):=by
 rcases acM p with⟨h,k⟩|⟨h,k⟩|⟨h,k⟩<;>rw[h]<;>grind
theorem alz{p:PtQ}:p.half=2↔(p.y<0∨(p.y=0∧p.x<0)):=by
 rcases acM p with⟨h,k⟩|⟨h,k⟩|⟨h,k⟩<;>rw[h]<;>grind
def Bef(u v:PtQ):Prop:=u.half<v.half∨(u.half=v.half∧0<u.cross v)
theorem ahy{u v:PtQ}:aa5 u v<0↔Bef u v:=by
 unfold aa5 Bef
 split
 ·rename_i h;exact⟨fun _=> .inl h,fun _=>by decide⟩
 ·rename_i h
  split
  ·rename_i h2;exact⟨fun e=>absurd e (by decide),fun e=>by omega⟩
  ·rename_i h2
   have e:u.half=v.half:=by omega
   rw[←ac7]
   constructor
   ·intro k;exact .inr ⟨e,by omega⟩
   ·rintro (k|⟨_,k⟩)
    ·omega
    ·omega
def ajG(d:PtQ):PtQ:=⟨-d.x, -d.y⟩
theorem anS{d:PtQ}(h:d.half≠0):d.half=1∨d.half=2:=by
 rcases acM d with⟨e,_⟩|⟨e,_⟩|⟨e,_⟩
 ·exact .inl e
 ·exact .inr e
 ·exact absurd e h
def Nxt(ds:List PtQ)(u w:PtQ):Prop:=(Bef u w∧ ∀d∈ds,¬(Bef u d∧Bef d w))∨((∀d∈ds,¬Bef u d)∧ ∀d∈ds,¬Bef d w)
structure aGM (ds:List PtQ):Prop where
 nz: ∀d∈ds,d.half≠0
 neg: ∀d∈ds,ajG d∈ds
def btw(a b:Rat)(u w:PtQ):PtQ:=⟨a*u.x+b*w.x,a*u.y+b*w.y⟩
end Go.Sx
end
section
namespace Go.Sx
open Go
inductive OT where
 |z (π:List (Nat×Bool))
 |q (i:Nat) (t:OT)
 |a (i:Nat) (t:OT)
 |c (i:Nat) (t r:OT)
def OT.sz:OT→Nat
 | .z _=>0
 | .q _ t=>t.sz+1
 | .a _ t=>t.sz+1
 | .c _ t r=>t.sz+r.sz+1
def OT.d:OT→Nat
 | .z π=>π.length
 | .q _ t=>t.d+1
 | .a _ t=>t.d+1
 | .c _ t r=>Nat.max (t.d+1) r.d
section
variable {P:Program} {ops:Array Oper} {Q:Exit→Act→World→Prop} {S:World→Prop} {π₂:List (Nat×Bool)}
def dwN(P:Program)(ops:Array Oper)(Q:Exit→Act→World→Prop)(K:(World→Prop)→Act→World→Prop):List Nat→OT→(World→Prop)→Act→World→Prop
 |ks, .z π,S,a,w=>dwT P ops Q K ks π S a w
 |ks, .q i t,S,a,w=> ∃o v,ops[i]? =some o∧S w∧YieldsIf P ops S o v a∧dwN P ops Q K ks t S (a.put o.dst v) w
 |ks, .a i t,S,a,w=>wpOp P ops Q i (grS S (dwN P ops Q K ks t)) a w∧
   ∀j,(h:j∈ks)→wpOp P ops Q j (grS S (dwN P ops Q K (without ks j) (.a i t))) a w
 |ks, .c i t r,S,a,w=>wpOp P ops Q i (grS S (dwN P ops Q K ks t)) a w∧dwN P ops Q K ks r S a w∧
   ∀j,(h:j∈ks)→wpOp P ops Q j (grS S (dwN P ops Q K (without ks j) (.c i t r))) a w
termination_by ks t=>ks.length+t.sz
decreasing_by
 all_goals (first|(have:=ag5 h;simp only[OT.sz] at*;omega)|(simp only[OT.sz];omega))
def adf(ops:Array Oper)(fin:Nat→Bool)(π₂:List (Nat×Bool)):Nat→Bool→List Nat→OT→Array Bool→List Nat→Bool
 |0,_,_,_,_,_=>false
 |n+1,false,ks, .z π,l,_=>agx ops fin π₂ n ks π l
 |_+1,true,_, .z _,_,_=>false
 |n+1,false,ks, .q i t,l,_=>aki ops fin l i&&adf ops fin π₂ n false ks t (l.setIfInBounds i true) []
 |_+1,true,_, .q _ _,_,_=>false
 |n+1,true,ks, .a i t,l,rs=>rs.all (fun j=>Nat.beq j i)&&adf ops fin π₂ n false ks t (l.setIfInBounds i true) []
 |n+1,false,ks, .a i t,l,_=>!(Region.ready .any ops l).isEmpty&&(Region.ready .any ops l).all (fun j=>Nat.beq j i||ks.contains j)&&adf ops fin π₂ n false ks t (l.setIfInBounds i true) []&&ks.all fun j=>adf ops fin π₂ n false (without ks j) (.a i t) (l.setIfInBounds j true) []
 |n+1,true,ks, .c i t r,l,rs=>adf ops fin π₂ n false ks t (l.setIfInBounds i true) []&&adf ops fin π₂ n true ks r l (without rs i)
 |n+1,false,ks, .c i t r,l,_=>!(Region.ready .any ops l).isEmpty&&adf ops fin π₂ n false ks t (l.setIfInBounds i true) []&&adf ops fin π₂ n true ks r l (without ((Region.ready .any ops l).filter fun j=>!ks.contains j) i)&&ks.all fun j=>adf ops fin π₂ n false (without ks j) (.c i t r) (l.setIfInBounds j true) []
end
section
variable {P:Program} {GB:Gh} {C:Ctx} {n:Nat} {fr fr':FrF} {own own' own0 own1 own1':List adg} {bs bs0 bs1 bs1':List adX} {ops:Array Oper} {Q:Exit→Act→World→Prop} {fd:List FD} {π₂:List (Nat×Bool)} {t r:OT}
abbrev dnK (P:Program) (ops:Array Oper) (Q:Exit→Act→World→Prop) (K:(World→Prop)→Act→World→Prop) (t:OT):List Nat→(World→Prop)→Act→World→Prop:=fun ks S=>dwN P ops (acp Q) K ks t S
end
end Go.Sx
end
section
namespace Go.Sx
open Go Go.Proofs Tryz
variable {GB:Gh}
theorem agQ{c:List LnQ}{l:LnQ}(hc: ∀m∈c,LB m)(hl:LB l): ∀m∈c++[l],LB m:=by
 rw[pN]
 exact⟨hc,by simpa using hl⟩
theorem LB.rev{l:LnQ}(h:LB l):LB l.rev:=⟨⟨by rw[show l.rev.a= -l.a from rfl,jT];exact h.bl.a,by rw[show l.rev.b= -l.b from rfl,jT];exact h.bl.b,by rw[show l.rev.c= -l.c from rfl,jT];exact h.bl.c⟩⟩
theorem atD{c:List LnQ}{l:LnQ}(hc: ∀m∈c,LB m)(hok: ∀m∈c,m.ok)(hn:c.length≤900)(hl:LB l)(hlo:l.ok):PF GB prog 116 [.sl (c.map eL),eL l] (vI (adQ c l)):=by
 have hcl:=aeB c
 refine fn func116 J J ntmps116 J J (fun C=>?_)
 refine ro0 J J<|ap (c.map eL) J J (acj _) rfl<|rf J J<|apf ((c++[l]).map eL) rfl (by rw[aN];rfl) (acj [l]) rfl<|?_
 refine cl rfl (an2 (c:=c++[l]) (agQ hc hl) (abO hok hlo) (by simp;omega)) rfl<|ro0 J J<|ap (c.map eL) J J (acj _) rfl<|cl rfl (aiH (l:=l)) rfl<|?_
 refine rf J J<|apf ((c++[l.rev]).map eL) rfl (by rw[aN];rfl) (acj [l.rev]) rfl<|cl rfl (an2 (c:=c++[l.rev]) (agQ hc hl.rev) (abO hok hlo.rev) (by simp;omega)) rfl<|?_
 refine csb 31 J J J (fun hg31=>?_) (fun hg31=>?_)
 ·
  refine bb J J J (fun hc33=>?_) (fun hc33=>?_)
  ·
   exact rz rfl (by show vI 0=vI _;congr 1;unfold adQ;simp_all)
  ·
   refine bb J J J (fun hc34=>?_) (fun hc34=>?_)
   ·
    exact rz rfl (by show vI 1=vI _;congr 1;unfold adQ;simp_all)
   ·
    exact rz rfl (by simp[hg31] at hc34)
 ·
  refine bb J J J (fun hc34=>?_) (fun hc34=>?_)
  ·
   exact rz rfl (by simp[hg31] at hc34)
  ·
   exact rz rfl (by show vI (-1)=vI _;congr 1;unfold adQ;simp_all)
theorem aeD{α:Type}{p:α→Bool}: ∀{xs:List α} {n:Nat},n≤xs.length→(∀j (h:j<xs.length),j<n→p xs[j]=true)→(∀h:n<xs.length,p xs[n]=false)→(xs.takeWhile p).length=n
 |[],n,h,_,_=>by simp at h;subst h;rfl
 |x::xs,0,_,_,h3=>by
  have:=h3 (by simp)
  simp only[nR] at this
  simp[mL,this]
 |x::xs,n+1,h1,h2,h3=>by
  have hx:=h2 0 (by simp) (by omega)
  simp only[nR] at hx
  rw[mL,if_pos hx,bU]
  rw[aeD (n:=n) (by simpa using h1) (fun j h hj=>by have:=h2 (j+1) (by simpa using h) (by omega);simpa using this) (fun h=>by have:=h3 (by simpa using h);simpa using this)]
theorem anh{xs:List LnQ}{l:LnQ}{n:Nat}(h1:n≤xs.length)(h2: ∀j (h:j<xs.length),j<n→aa5 xs[j].dir l.dir<0)(h3: ∀h:n<xs.length,¬aa5 xs[n].dir l.dir<0):adS xs l=n:=
 aeD h1 (fun j h hj=>decide_eq_true (h2 j h hj)) (fun h=>decide_eq_false (h3 h))
theorem ane{xs:List LnQ}{l:LnQ}{n:Nat}(hn:adS xs l=n)(h:n<xs.length)(e:xs[n]=l):acm xs l=xs:=by
 unfold acm;rw[hn,if_pos (by rw[aQ h,e])]
theorem ahz{xs:List LnQ}{l:LnQ}{n:Nat}(hn:adS xs l=n)(h: ∀h:n<xs.length,xs[n]≠l):acm xs l=xs.take n++l::xs.drop n:=by
 unfold acm
 rw[hn,if_neg]
 intro e
 obtain⟨h1,h2⟩:=bJ.1 e
 exact h h1 h2
theorem axx(xs:List LnQ)(n:Nat):acI 6 ((xs.map eL).take n):=fun d hd=>acj xs d (eJ hd)
theorem atI(xs:List LnQ)(n m:Nat):acI 6 (((xs.map eL).take n).drop m):=fun d hd=>acj xs d (eJ (fU hd))
theorem ax2(xs:List LnQ)(n m:Nat)(l:LnQ):acI 6 ([eL l]++((xs.map eL).take n).drop m):=fun d hd=>by
 rcases bS.1 hd with h|h
 ·exact acj [l] d h
 ·exact atI xs n m d h
structure Cst (c:List LnQ) (k:Nat) (xs:List LnQ):Prop where
 le:k≤c.length
 f:adR c (c.drop k) xs=aaJ c
 m: ∀m∈xs,m∈c
 n:xs.length≤k
theorem Cst.skip{c xs:List LnQ}{k:Nat}(h:Cst c k xs)(hk:k<c.length)(e:(ab3 c[k] c IvQ.all).isSome=false):Cst c (k+1) xs:=by
 have:=h.f
 rw[bQ hk,adR,e] at this
 exact⟨hk,this,h.m,by have:=h.n;omega⟩
theorem Cst.ins{c xs ys:List LnQ}{k:Nat}(h:Cst c k xs)(hk:k<c.length)(e:(ab3 c[k] c IvQ.all).isSome=true)(hy:acm xs c[k]=ys)(hl:ys.length≤xs.length+1):Cst c (k+1) ys:=by
 have:=h.f
 rw[bQ hk,adR,e,if_pos rfl,hy] at this
 refine⟨hk,this,fun m hm=>?_,by have:=h.n;omega⟩
 rw[←hy] at hm
 rcases afi.1 hm with rfl|hm
 ·exact bM hk
 ·exact h.m m hm
theorem Cst.done{c xs:List LnQ}{k:Nat}(h:Cst c k xs)(hk:k=c.length):aaJ c=xs:=by
 have:=h.f
 rw[hk,dS,adR] at this
 exact this.symm
def afK(c:List LnQ):Bool:=if(((c.map eL).length:Nat):Int)=0 then true else decide ((0:Int)<((((aaJ c).map eL).length:Nat):Int))
theorem Cst.nil(c:List LnQ):Cst c 0 []:=⟨aR _,rfl,fun m hm=>absurd hm (by simp),aL _⟩
theorem aow{c:List LnQ}(hc: ∀m∈c,LB m)(hok: ∀m∈c,m.ok)(hn:c.length≤1000):PF GB prog 183 [.sl (c.map eL)] (.tp [.sl ((aaJ c).map eL),vB (afK c)]):=by
 have hcl:=aeB c
 refine fn (fu:=⟨16⟩) func183 J J ntmps183 J J (fun C=>?_)
 refine eqF 11 (.d (vI (c.length:Nat))) rfl (by rw[hcl];rfl) ?_
 refine gx rfl<|?_
 refine nlC 4 rfl ?_
 refine lp (X:=List LnQ×Nat) (fun⟨xs,k⟩=>[(12, .d (vI (k:Nat))),(11, .d (vI (c.length:Nat))),(10, .d (.sl (c.map eL))),(0, .d (.sl (c.map eL))),(4, .d (.sl (xs.map eL)))]) (fun⟨xs,k⟩=>[]) (fun⟨xs,k⟩=>Cst c k xs) (fun⟨xs,k⟩=>c.length-k) ⟨[],0⟩ rfl (Cst.nil c) (fun _=>rfl) (fun⟨xs,k⟩ hk=>?_)
 try dsimp only at hk⊢
 have hS:=hk
 refine br J J J (fun hc13=>?_) (fun hc13=>?_)
 ·
  have hk:k<c.length:=by omega
  obtain⟨m,hm⟩: ∃m,m=c[k]:=⟨_,rfl⟩
  haveI hmb:LB m:=hm▸hc _ (bM hk)
  have hmo:m.ok:=hm▸hok _ (bM hk)
  have hxl:=aeB xs
  have hxn:=hS.n
  refine ix (fu:=⟨1⟩) _ rfl (aeI hk) rfl<|?_
  refine eqF 16 (.d (eL m)) rfl (by rw[hm];rfl) ?_
  refine gx rfl<|cl rfl (aw6 hc hok hn hk) rfl<|?_
  refine bb (fu2:=⟨8⟩) J J J (fun hc24=>?_) (fun hc24=>?_)
  ·
   have hinv:Cst c (k+1) xs:=hS.skip hk (by rw[←adw];simpa using hc24)
   exact at_ ⟨xs,k+1⟩ (by dsimp only;exact⟨hinv,(by omega)⟩)
  ·
   have hyes:(ab3 c[k] c IvQ.all).isSome=true:=by rw[←adw];simpa using hc24
   refine mg (fu:=⟨6⟩) (X:=Unit) (fun _=>[(12, .d (vI (k:Nat))),(11, .d (vI (c.length:Nat))),(10, .d (.sl (c.map eL))),(0, .d (.sl (c.map eL))),(4, .d (.sl (xs.map eL))),(6, .ov 6 0),(9, .d (vI (adS xs m:Nat)))]) (fun _=>[(6,some (.o 109 [.d ((.v (.bool (decide (m.a<0))))), .d (dN m.a.natAbs), .d ((.v (.bool (decide (m.b<0))))), .d (dN m.b.natAbs), .d ((.v (.bool (decide (m.c<0))))), .d (dN m.c.natAbs)] true))]) (fun _=>True) [12,11,10,0,4,6,9] [6] rfl ?_ (fun _=>rfl) (fun _ _=>?_)
   ·
    refine gx rfl<|?_
    refine lp (fu:=⟨6⟩) (X:=Nat) (fun n=>[(12, .d (vI (k:Nat))),(11, .d (vI (c.length:Nat))),(10, .d (.sl (c.map eL))),(0, .d (.sl (c.map eL))),(4, .d (.sl (xs.map eL))),(6, .ov 6 0),(9, .d (vI (n:Nat)))]) (fun n=>[(6,some (.o 109 [.d ((.v (.bool (decide (m.a<0))))), .d (dN m.a.natAbs), .d ((.v (.bool (decide (m.b<0))))), .d (dN m.b.natAbs), .d ((.v (.bool (decide (m.c<0))))), .d (dN m.c.natAbs)] true))]) (fun n=>n≤xs.length∧ ∀j (h:j<xs.length),j<n→aa5 xs[j].dir m.dir<0) (fun n=>xs.length-n) 0 rfl ⟨aR _,fun j _ hj=>absurd hj (by omega)⟩ (fun _=>rfl) (fun n hk=>?_)
    obtain⟨n1,n2⟩:=hk
    refine csS J J J J (fun hg28=>?_) (fun hg28=>?_)
    ·
     refine ix _ rfl (aeI (by omega)) rfl<|?_
     haveI:LB (xs[n]'(by omega)):=hc _ (hS.m _ (bM _))
     refine cl rfl (ahd (l:=xs[n]'(by omega))) rfl<|cl rfl (ahd (l:=m)) rfl<|cl rfl (ayY (u:=(xs[n]'(by omega)).dir) (v:=m.dir)) rfl<|?_
     refine br J J J (fun hc39=>?_) (fun hc39=>?_)
     ·
      exact at_ (n+1) ⟨⟨by omega,fun j h hj=>by by_cases q:j=n;(subst q;exact hc39);exact n2 j h (by omega)⟩,(by omega)⟩
     ·
      have hidx:adS xs m=n:=anh n1 n2 (fun h=>hc39)
      exact at_ () trivial
    ·
     have hidx:adS xs m=n:=anh n1 n2 (fun h=>absurd h (by omega))
     exact at_ () trivial
   ·
    obtain⟨n,hnx⟩: ∃n,adS xs m=n:=⟨_,rfl⟩
    rw[hnx]
    have hnl:n≤xs.length:=by rw[←hnx];unfold adS;exact(List.takeWhile_sublist _).length_le
    have hcb: ∀m∈xs,LB m:=fun m hm=>hc m (hS.m m hm)
    refine csS J J J J (fun hg45=>?_) (fun hg45=>?_)
    ·
     refine ix _ rfl (aeI (by omega)) rfl<|cl rfl (apJ (l:=xs[n]'(by omega)) (m:=m) (hl:=hcb _ (bM (by omega)))) rfl<|?_
     refine br J J J (fun hc54=>?_) (fun hc54=>?_)
     ·
      have hn46:n<xs.length:=by omega
      have hinv:Cst c (k+1) xs:=hS.ins hk hyes (by rw[←hm];exact ane hnx hn46 ((agt _ m).1 hc54)) (by omega)
      exact at_ ⟨xs,k+1⟩ (by dsimp only;exact⟨hinv,(by omega)⟩)
     ·
      have hnew: ∀h:n<xs.length,xs[n]≠m:=fun h e=>hc54 ((agt _ m).2 e)
      obtain⟨ys,hys⟩: ∃ys,ys=xs.take n++m::xs.drop n:=⟨_,rfl⟩
      have hinv:Cst c (k+1) ys:=hS.ins hk hyes (by rw[←hm,ahz hnx hnew,hys]) (by rw[hys];simp;omega)
      refine s3 n _ J J J J (acj _) (by rw[hxl];exact hnl) rfl<|ro J J<|sc' n xs.length _ J J (by rw[hxl]) rfl (acj _) hnl (by omega) rfl<|?_
      refine ap _ J J (atI _ _ _) rfl<|apf (hv:=by simp only[aah];exact⟨by kernel_rfl,by omega⟩) (ho:=fun _=>⟨axx _ _,by simp⟩) (ys.map eL) rfl (by rw[hys,aN,cZ,gX,iZ,aV (l:=xs.map eL) (i:=xs.length) (by simp)];rfl) (ax2 _ _ _ _) rfl<|?_
      exact at_ ⟨ys,k+1⟩ (by dsimp only;exact⟨hinv,(by omega)⟩)
    ·
     have hnew: ∀h:n<xs.length,xs[n]≠m:=fun h=>absurd h (by omega)
     obtain⟨ys,hys⟩: ∃ys,ys=xs.take n++m::xs.drop n:=⟨_,rfl⟩
     have hinv:Cst c (k+1) ys:=hS.ins hk hyes (by rw[←hm,ahz hnx hnew,hys]) (by rw[hys];simp;omega)
     refine s3 n _ J J J J (acj _) (by rw[hxl];exact hnl) rfl<|ro J J<|sc' n xs.length _ J J (by rw[hxl]) rfl (acj _) hnl (by omega) rfl<|?_
     refine ap _ J J (atI _ _ _) rfl<|apf (hv:=by simp only[aah];exact⟨by kernel_rfl,by omega⟩) (ho:=fun _=>⟨axx _ _,by simp⟩) (ys.map eL) rfl (by rw[hys,aN,cZ,gX,iZ,aV (l:=xs.map eL) (i:=xs.length) (by simp)];rfl) (ax2 _ _ _ _) rfl<|?_
     exact at_ ⟨ys,k+1⟩ (by dsimp only;exact⟨hinv,(by omega)⟩)
 ·
  have hfin:aaJ c=xs:=hS.done (by have:=hS.le;omega)
  refine cs 71 J J J (fun hg71=>?_) (fun hg71=>?_)
  ·
   exact rz rfl (by rw[afK,if_pos hg71,hfin];rfl)
  ·
   exact rz rfl (by rw[afK,if_neg hg71,hfin];rfl)
section
variable {α:Type} (c:α→α→Int)
def afC(x:α):List α→List α
 |[]=>[x]
 |u::t=>if c u x<0 then u::afC x t else if c u x=0 then u::t else x::u::t
def ak8(x:α)(xs:List α):Nat:=(xs.takeWhile fun u=>decide (c u x<0)).length
theorem alS(x:α)(xs:List α):ak8 c x xs≤xs.length:=(List.takeWhile_sublist _).length_le
theorem ae5{x:α}{xs:List α}{n:Nat}(h1:n≤xs.length)(h2: ∀j (h:j<xs.length),j<n→c xs[j] x<0)(h3: ∀h:n<xs.length,¬c xs[n] x<0):ak8 c x xs=n:=
 aeD h1 (fun j h hj=>decide_eq_true (h2 j h hj)) (fun h=>decide_eq_false (h3 h))
theorem af7{x:α}: ∀{xs:List α} {n:Nat},ak8 c x xs=n→(h:n<xs.length)→c xs[n] x=0→afC c x xs=xs
 |[],n,_,h,_=>by simp at h
 |u::t,n,hn,h,e=>by
  rw[afC]
  unfold ak8 at hn
  rw[mL] at hn
  by_cases hu:c u x<0
  ·rw[if_pos hu]
   rw[if_pos (by simpa using hu)] at hn
   obtain⟨k,rfl⟩: ∃k,n=k+1:=⟨n-1,by simp at hn;omega⟩
   rw[af7 (xs:=t) (n:=k) (by unfold ak8;simpa using hn) (by simpa using h) (by simpa using e)]
  ·rw[if_neg (by simpa using hu)] at hn
   simp at hn;subst hn
   rw[if_neg hu,if_pos (by simpa using e)]
theorem adj{x:α}: ∀{xs:List α} {n:Nat},ak8 c x xs=n→(∀h:n<xs.length,c xs[n] x≠0)→afC c x xs=xs.take n++x::xs.drop n
 |[],n,hn,_=>by simp[ak8] at hn;subst hn;rfl
 |u::t,n,hn,e=>by
  rw[afC]
  unfold ak8 at hn
  rw[mL] at hn
  by_cases hu:c u x<0
  ·rw[if_pos hu]
   rw[if_pos (by simpa using hu)] at hn
   obtain⟨k,rfl⟩: ∃k,n=k+1:=⟨n-1,by simp at hn;omega⟩
   rw[adj (xs:=t) (n:=k) (by unfold ak8;simpa using hn) (fun h=>by have:=e (by simpa using h);simpa using this)]
   simp
  ·rw[if_neg (by simpa using hu)] at hn
   simp at hn;subst hn
   have:=e (by simp)
   rw[if_neg hu,if_neg (by simpa using this)];rfl
theorem ah2(x:α): ∀(xs:List α),(afC c x xs).length≤xs.length+1
 |[]=>aL _
 |u::t=>by
  have:=ah2 x t
  rw[afC]
  split
  ·simp;omega
  ·split<;>simp
theorem apH{x y:α}: ∀{xs:List α},y∈afC c x xs→y=x∨y∈xs
 |[],h=>by rw[afC,aY] at h;exact .inl h
 |u::t,h=>by
  rw[afC] at h
  split at h
  ·rcases aS.1 h with rfl|h
   ·exact .inr aZ
   ·rcases apH h with h|h
    ·exact .inl h
    ·exact .inr (aK _ h)
  ·split at h
   ·exact .inr h
   ·rcases aS.1 h with rfl|h
    ·exact .inl rfl
    ·exact .inr h
def alJ(l:List α):List α:=l.foldl (fun out x=>afC c x out) []
theorem amr: ∀(l o:List α),(l.foldl (fun out x=>afC c x out) o).length≤l.length+o.length
 |[],o=>by simp
 |x::t,o=>by
  have:=amr t (afC c x o)
  have:=ah2 c x o
  simp only[kK,bU];omega
theorem amp{y:α}: ∀{l o:List α},y∈l.foldl (fun out x=>afC c x out) o→y∈l∨y∈o
 |[],o,h=> .inr h
 |x::t,o,h=>by
  rcases amp (l:=t) h with h|h
  ·exact .inl (aK _ h)
  ·rcases apH c h with rfl|h
   ·exact .inl aZ
   ·exact .inr h
end
theorem amz{x:Rat}: ∀{l:List Rat},aob x l=afC abc x l
 |[]=>rfl
 |u::t=>by
  have e1:abc u x<0↔u<x:=aeX u x
  have e2:abc u x=0↔u=x:=aeA u x
  rw[aob,afC,amz (l:=t)]
  by_cases h:u<x
  ·rw[if_pos h,if_pos (e1.2 h)]
  ·rw[if_neg h,if_neg (fun e=>h (e1.1 e))]
   by_cases h2:u=x
   ·rw[if_pos h2,if_pos (e2.2 h2)]
   ·rw[if_neg h2,if_neg (fun e=>h2 (e2.1 e))]
theorem abm{α β:Type}{f:α→β}{l:List α}{k:Nat}{x:α}(h:l[k]? =some x):(l.take k).map f++[f x]=(l.take (k+1)).map f:=by
 rw[gQ,h,aN];rfl
theorem aAQ{a i:Nat}[ha:BN a i](hi:i≤400000000:=by decide):PF GB prog 148 [dN a] (dN a):=by
 have hl:=aaA (dg a)
 have hb:=aa1 ha.h
 refine fn func148 J J ntmps148 J J (fun C=>?_)
 refine ro0 J J<|ap ((dg a).map dU) J J (anc _) rfl<|?_
 refine fzE 5 rfl ?_
 exact rz J J
theorem awf{z:Int}{i:Nat}[hz:BI z i](hi:i≤400000000:=by decide):PF GB prog 147 [eI z] (eI z):=by
 refine fn func147 J J ntmps147 J J (fun C=>?_)
 refine cl rfl (aAQ (a:=z.natAbs) (i:=i) (ha:=⟨hz.h⟩) hi) rfl<|?_
 exact rz J J
theorem aEJ{l:LnQ}(hl:BL l 96):PF GB prog 129 [eL l] (eL l):=by
 haveI h1:BI l.a 96:=⟨hl.a⟩
 haveI h2:BI l.b 96:=⟨hl.b⟩
 haveI h3:BI l.c 96:=⟨hl.c⟩
 refine fn func129 J J ntmps129 J J (fun C=>?_)
 refine cl rfl (awf (z:=l.a)) rfl<|cl rfl (awf (z:=l.b)) rfl<|cl rfl (awf (z:=l.c)) rfl<|?_
 exact rz J J
theorem aFg{ds:List Nat}(hd:DOk ds)(hn:ds.length≤1000000):PF GB prog 106 [dLi ds] (dN (dv ds)):=by
 have hm:=aaA ds
 refine fn func106 J J ntmps106 J J (fun C=>?_)
 refine ro0 J J<|ap (ds.map dU) J J (anc _) rfl<|fz 5 J J<|cl rfl (afI (ds:=ds) (by omega)) rfl<|?_
 exact rz rfl (by unfold dN;rw[ada hd];rfl)
theorem aFU{neg:Bool}{ds:List Nat}(hd:DOk ds)(hn:ds.length≤1000000):PF GB prog 107 [.ag [.v (.bool neg),dLi ds]] (eI (ahj neg ds)):=by
 refine fn func107 J J ntmps107 J J (fun C=>?_)
 refine cl rfl (aFg hd hn) rfl<|cl rfl acG rfl<|?_
 exact rz J J
def rlD(r:RL):DV:= .tp [if r.nm then eL r.l else .ag [.v (.bool false), .sl [], .v (.bool false), .sl [], .v (.bool false), .sl []],vB (decide (r.nm∧r.l.ok))]
def smB(n:Int)(ls:List (List Nat)):Bool:=ls.all fun d=>decide ((d.length:Int)≤n)
def RL.smB(n:Int)(r:RL):Bool:=Sx.smB n [r.da,r.db,r.dc]
def rlB(n:Int)(ls:List RL):Bool:=ls.all fun r=>r.smB n
theorem aER{n i:Nat}[h:BN n i](hi:i≤20000:=by decide):PF GB prog 106 [dN n] (dN n):=by
 have hl:=aa1 h.h
 have:=aFg (GB:=GB) (ds:=dg n) (aeQ n) (by omega)
 rw[aaQ,←azK] at this;exact this
theorem awu(z:Int):ahj (decide (z<0)) (dg z.natAbs)=z:=by
 unfold ahj
 rw[aaQ]
 split<;>(rename_i h;simp at h;omega)
theorem aEL{z:Int}{i:Nat}[h:BI z i](hi:i≤20000:=by decide):PF GB prog 107 [eI z] (eI z):=by
 have hl:=aa1 h.h
 have:=aFU (GB:=GB) (neg:=decide (z<0)) (ds:=dg z.natAbs) (aeQ _) (by omega)
 rw[awu,←azK] at this;exact this
theorem aEb{n:Nat}(h:0<n): ¬((((dg n).map dU).length:Nat):Int)=0:=by
 rw[aJ]
 have:=acq (n:=n)
 omega
instance BQ.m1':BQ (((-1:Int):Int):Rat) 2:=⟨by decide,by decide⟩
instance BQ.m1:BQ (-1:Rat) 2:=⟨by decide,by decide⟩
theorem aFA{q:Rat}{i:Nat}[h:BQ q i](hi:i≤20000:=by decide):PF GB prog 42 [eR q] (eQ q):=by
 have hd:=q.den_pos
 refine fn func42 J J ntmps42 J J (fun C=>?_)
 refine cl (fu:=⟨8⟩) rfl (aER (n:=q.den) hi) rfl<|knF rfl (by show some (decide _)=some false;rw[decide_eq_false (aEb hd)]) rfl<|cl rfl (aEL (z:=q.num) hi) rfl<|?_
 refine cl rfl (ajo (x:=q.num) (d:=q.den) hd (by omega) (by omega)) rfl<|?_
 exact rz rfl (by rw[Rat.mkRat_self];rfl)
theorem apP{q:Rat}{i:Nat}[h:BQ q i](hi:i≤400000000:=by decide):PF GB prog 79 [eQ q] (eR q):=by
 refine fn func79 J J ntmps79 J J (fun C=>?_)
 refine cl rfl (awf (z:=q.num) hi) rfl<|cl rfl (aeR (q:=q)) rfl<|cl rfl (aAQ (a:=q.den) hi) rfl<|?_
 exact rz J J
theorem aGa{p:PtQ}{i:Nat}[h:BPt p i](hi:i≤20000:=by decide):PF GB prog 45 [ePt p] (eP p):=by
 refine fn func45 J J ntmps45 J J (fun C=>?_)
 refine cl rfl (aFA (q:=p.x) hi) rfl<|cl rfl (aFA (q:=p.y) hi) rfl<|?_
 exact rz J J
theorem aEW{p:PtQ}{i:Nat}[h:BPt p i](hi:i≤20000:=by decide):PF GB prog 25 [eP p] (ePt p):=by
 refine fn func25 J J ntmps25 J J (fun C=>?_)
 refine cl rfl (apP (q:=p.x) (i:=i) (by omega)) rfl<|cl rfl (apP (q:=p.y) (i:=i) (by omega)) rfl<|?_
 exact rz J J
theorem aaI{α:Type}(f:α→DV)(l:List α):(l.map f).length=l.length:=aJ ..
theorem ai6(ps:List PtQ):acI 6 (ps.map eP):=fun d hd=>by
 obtain⟨u,_,rfl⟩:=bW.1 hd;exact⟨rfl,rfl⟩
theorem arJ(ps:List PtQ):acI 6 (ps.map ePt):=fun d hd=>by
 obtain⟨u,_,rfl⟩:=bW.1 hd;exact⟨rfl,rfl⟩
theorem aEO{ps:List PtQ}(hb: ∀p∈ps,BPt p 1200)(hn:ps.length≤1000000):PF GB prog 135 [.sl (ps.map ePt)] (.sl (ps.map eP)):=by
 have hm:=aaI ePt ps
 refine fn (fu:=⟨15⟩) func135 J J ntmps135 J J (fun C=>?_)
 refine eqF 7 (.d (vI (ps.length:Nat))) rfl (by rw[hm]<;>rfl) ?_
 refine gx rfl<|?_
 refine nr 3 3 54 6 J J J ?_
 refine lp (X:=Nat) (fun k=>[(8, .d (vI (k:Nat))),(3, .rw 3)]) (fun k=>[(3,some (.b 54 6 ((ps.take k).map eP) true))]) (fun k=>k≤ps.length) (fun k=>ps.length-k) 0 rfl (aR _) (fun _=>rfl) (fun k hk=>?_)
 have hml:=aaI eP (ps.take k)
 rw[cK] at hml
 refine br J J J (fun hc9=>?_) (fun hc9=>?_)
 ·
  obtain⟨z,hz⟩: ∃s,ps[k]? =some s:=⟨_,aQ (by omega)⟩
  have hzm:=aM hz
  refine ix _ rfl (aak hz) rfl<|cl rfl (aGa (p:=z) (h:=hb z hzm)) rfl<|rf J J<|ap ((ps.take (k+1)).map eP) rfl (abm hz) (ai6 [z]) rfl<|?_
  refine rnE 16 3 rfl ?_
  exact at_ (k+1) ⟨(by omega),(by omega)⟩
 ·
  obtain rfl:k=ps.length:=by omega
  refine fzE 3 rfl ?_
  exact rz rfl (by rw[fV];rfl)
theorem axE{ps:List PtQ}(hb: ∀p∈ps,BPt p 1200)(hn:ps.length≤1000000):PF GB prog 63 [.sl (ps.map eP)] (.sl (ps.map ePt)):=by
 have hm:=aaI eP ps
 refine fn (fu:=⟨15⟩) func63 J J ntmps63 J J (fun C=>?_)
 refine eqF 7 (.d (vI (ps.length:Nat))) rfl (by rw[hm]<;>rfl) ?_
 refine gx rfl<|?_
 refine nr 3 3 65 6 J J J ?_
 refine lp (X:=Nat) (fun k=>[(8, .d (vI (k:Nat))),(3, .rw 3)]) (fun k=>[(3,some (.b 65 6 ((ps.take k).map ePt) true))]) (fun k=>k≤ps.length) (fun k=>ps.length-k) 0 rfl (aR _) (fun _=>rfl) (fun k hk=>?_)
 have hml:=aaI ePt (ps.take k)
 rw[cK] at hml
 refine br J J J (fun hc9=>?_) (fun hc9=>?_)
 ·
  obtain⟨z,hz⟩: ∃s,ps[k]? =some s:=⟨_,aQ (by omega)⟩
  have hzm:=aM hz
  refine ix _ rfl (aak hz) rfl<|cl rfl (aEW (p:=z) (h:=hb z hzm)) rfl<|rf J J<|ap ((ps.take (k+1)).map ePt) rfl (abm hz) (arJ [z]) rfl<|?_
  refine rnE 16 3 rfl ?_
  exact at_ (k+1) ⟨(by omega),(by omega)⟩
 ·
  obtain rfl:k=ps.length:=by omega
  refine fzE 3 rfl ?_
  exact rz rfl (by rw[fV];rfl)
theorem ax0{p q:PtQ}{i j:Nat}[hp:BPt p i][hq:BPt q j](hi:i≤100000:=by decide)(hj:j≤100000:=by decide):PF GB prog 185 [eP p,eP q] (eP (acu p q (-1))):=by
 refine fn func185 J J ntmps185 J J (fun C=>?_)
 refine cl rfl (ale (n:= -1) (by decide) (by decide)) rfl<|cl rfl (afQ (p:=p) (q:=q) (c:=((-1:Int):Rat)) (i:=i) (j:=j) (k:=2) (by omega) (by omega)) rfl<|?_
 exact rz rfl (by rw[show((-1:Int):Rat)= -1 from rfl];rfl)
theorem aps{a b c:PtQ}{i j k:Nat}[ha:BPt a i][hb:BPt b j][hc:BPt c k](hi:i≤80000:=by decide)(hj:j≤80000:=by decide)(hk:k≤80000:=by decide):PF GB prog 288 [eP a,eP b,eP c] (vI (ag6 a b c)):=by
 refine fn func288 J J ntmps288 J J (fun C=>?_)
 refine cl rfl (ax0 (p:=b) (q:=a) (i:=j) (j:=i) (by omega) (by omega)) rfl<|cl rfl (ax0 (p:=c) (q:=a) (i:=k) (j:=i) (by omega) (by omega)) rfl<|?_
 refine cl rfl (aha (p:=acu b a (-1)) (q:=acu c a (-1)) (by omega) (by omega)) rfl<|cl rfl (q_S (q:=(acu b a (-1)).cross (acu c a (-1)))) rfl<|?_
 exact rz J J
def agu(p q:PtQ):Int:=if abc p.x q.x≠0 then abc p.x q.x else abc p.y q.y
theorem akd{p q:PtQ}{i j:Nat}[hp:BPt p i][hq:BPt q j](hi:i≤100000:=by decide)(hj:j≤100000:=by decide):PF GB prog 244 [eP p,eP q] (vI (agu p q)):=by
 refine fn func244 J J ntmps244 J J (fun C=>?_)
 refine cl rfl (q_C (a:=p.x) (b:=q.x) (by omega) (by omega)) rfl<|?_
 refine br J J J (fun hc12=>?_) (fun hc12=>?_)
 ·
  exact rz rfl (by unfold agu;rw[if_pos hc12];rfl)
 ·
  refine cl rfl (q_C (a:=p.y) (b:=q.y) (by omega) (by omega)) rfl<|?_
  exact rz rfl (by unfold agu;rw[if_neg hc12];rfl)
def azl(l:LnQ):Bool:=decide (l.a<0∨(l.a=0∧l.b<0))
def LnQ.canon(l:LnQ):LnQ:=if azl l then l.rev else l
theorem agP(a:Int):a.sign<0↔a<0:=by
 rcases pM a 0 with h|h|h
 ·rw[fJ h];omega
 ·subst h;simp
 ·rw[gK h];omega
theorem anz(a:Int):a.sign=0↔a=0:=iU
theorem axD{l:LnQ}(h:l.a<0∨(l.a=0∧l.b<0)):DV.tp [eL l.canon,vB (azl l)]= .tp [eL l.rev,vB true]:=by
 unfold LnQ.canon azl;rw[decide_eq_true h];rfl
theorem arF{l:LnQ}(h: ¬(l.a<0∨(l.a=0∧l.b<0))):DV.tp [eL l.canon,vB (azl l)]= .tp [eL l,vB false]:=by
 unfold LnQ.canon azl;rw[decide_eq_false h];rfl
theorem awg{l:LnQ}[hl:LB l]:PF GB prog 194 [eL l] (.tp [eL l.canon,vB (azl l)]):=by
 refine fn func194 J J ntmps194 J J (fun C=>?_)
 refine cl rfl (apR (z:=l.a)) rfl<|?_
 refine cs 10 J J J (fun hg10=>?_) (fun hg10=>?_)
 ·
  refine cl rfl (aiH (l:=l)) rfl<|?_
  exact rz rfl (by rw[axD (.inl ((agP _).1 hg10))];rfl)
 ·
  refine cs 13 J J J (fun hg13=>?_) (fun hg13=>?_)
  ·
   refine cl rfl (apR (z:=l.b)) rfl<|?_
   refine br J J J (fun hc19=>?_) (fun hc19=>?_)
   ·
    refine cl rfl (aiH (l:=l)) rfl<|?_
    exact rz rfl (by rw[axD (.inr ⟨(anz _).1 hg13,(agP _).1 hc19⟩)];rfl)
   ·
    exact rz rfl (by rw[arF (fun e=>e.elim (fun e=>hg10 ((agP _).2 e)) (fun e=>hc19 ((agP _).2 e.2)))];rfl)
  ·
   exact rz rfl (by rw[arF (fun e=>e.elim (fun e=>hg10 ((agP _).2 e)) (fun e=>hg13 ((anz _).2 e.1)))];rfl)
instance LB.canon (l:LnQ) [h:LB l]:LB l.canon:=by unfold LnQ.canon;split;exact LB.rev h;exact h
end Go.Sx
end
