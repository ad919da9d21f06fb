/-
  What the reference does with spans and fragments, as functions; the raw tree. Reference: points with integer coordinates, lines through them. Reference: what is drawn from the tape: numbers, points, lines, trees. The reference's rings, winding numbers, built trees and regions, as functions of the tape. The reference's rings and regions, as functions of the tape. Regions that draw their order, with a tree of orders. Reference: the place of a line, canonical cells, restriction. Insertion into an ascending list, as the reference does it; lists taken apart. Reference: numbers and lines written for package api. Reference: lines as they come. Reference: numbers and points of package api; orientation; canonical lines.
-/
import Derived.Test.YtlnphbkcelfboaaGreatDoorMr14
set_option linter.unusedSimpArgs false
set_option linter.unusedVariables false
section
set_option maxRecDepth 100000
namespace Go.Sx
open Go Go.Proofs
def endS(out:List Rat)(s:IvQ):List Rat:=if s.nh then(if s.nl then out else insR s.lo out) else insR s.hi (if s.nl then out else insR s.lo out)
def endsQ(l:List IvQ):List Rat:=l.foldl endS []
def clsQ:List IvQ→Rat→Int
 |[],_=>0
 |s::t,x=>
  let a:=if s.nl then 1 else rcmp x s.lo
  let b:=if s.nh then-1 else rcmp x s.hi
  if 0<a∧b<0 then 2 else if(a=0∧b≤0)∨(b=0∧0≤a) then 1 else clsQ t x
def insQ2(l:List IvQ)(x:Rat):Bool:=decide (clsQ l x=2)
def gapI(cuts:List Rat)(i:Nat):IvQ:=⟨if i=0 then 0 else cuts.getD (i-1) 0,if i<cuts.length then cuts.getD i 0 else 0,decide (i=0),decide (i=cuts.length)⟩
def setHi(v w:IvQ):IvQ:=⟨v.lo,w.hi,v.nl,w.nh⟩
def fromN(cuts:List Rat)(marks:List Bool):Nat→List IvQ
 |0=>[]
 |k+1=>
  let out:=fromN cuts marks k
  if marks.getD k false then
   (if 0<k∧marks.getD (k-1) false=true then(match out.getLast? with
    |some v=>out.dropLast++[setHi v (gapI cuts k)]
    |none=>out++[gapI cuts k]) else out++[gapI cuts k])
  else out
def fromQ(cuts:List Rat)(marks:List Bool):List IvQ:=fromN cuts marks marks.length
def markQ(op:Int)(x y:Bool):Bool:=if op=2 then x&&y else if op=3 then x&&!y else if op=4 then x !=y else x||y
def combQ(op:Int)(a b:List IvQ):List IvQ:=fromQ (endsQ (a++b)) ((gapsR (endsQ (a++b))).map fun t=>markQ op (insQ2 a t) (insQ2 b t))
def halfQ(l m:LnQ)(side:Int):List IvQ:=
 if crossI l m=0 then(if(m.value l.base).num.sign=side then [IvQ.all] else [])
 else if(m.value (l.at (paramQ l (meetP l m)+1))).num.sign=side then [⟨paramQ l (meetP l m),0,false,true⟩] else [⟨0,paramQ l (meetP l m),true,false⟩]
def onB(l m:LnQ):Bool:=decide (crossI l m=0∧(m.value l.base).num.sign=0)
def splitS(f:FrQ)(m:LnQ)(side:Int):List FrQ:=if onB f.l m then [] else(combQ 2 [f.v] (halfQ f.l m side)).map fun v=>⟨f.l,v⟩
theorem endsQ_spec(l:List IvQ):(endsQ l).Pairwise (· < ·)∧ ∀y∈endsQ l,∃s∈l,(s.nl=false∧y=s.lo)∨(s.nh=false∧y=s.hi):=by
 have key: ∀(l:List IvQ) (o:List Rat),o.Pairwise (· < ·)→(l.foldl endS o).Pairwise (· < ·)∧ ∀y∈l.foldl endS o,y∈o∨ ∃s∈l,(s.nl=false∧y=s.lo)∨(s.nh=false∧y=s.hi):=by
  intro l
  induction l with
  |nil=>intro o h;exact⟨h,fun y hy=> .inl hy⟩
  |cons s t ih=>
   intro o h
   have h1:(endS o s).Pairwise (· < ·)∧ ∀y∈endS o s,y∈o∨(s.nl=false∧y=s.lo)∨(s.nh=false∧y=s.hi):=by
    unfold endS
    cases e1:s.nl<;>cases e2:s.nh<;>simp only[if_true,Bool.false_eq_true,if_false]
    ·refine⟨insR_asc (insR_asc h),fun y hy=>?_⟩
     rcases mem_insR.1 hy with h|h
     ·exact .inr (.inr ⟨trivial,h⟩)
     ·rcases mem_insR.1 h with h|h
      ·exact .inr (.inl ⟨trivial,h⟩)
      ·exact .inl h
    ·refine⟨insR_asc h,fun y hy=>?_⟩
     rcases mem_insR.1 hy with h|h
     ·exact .inr (.inl ⟨trivial,h⟩)
     ·exact .inl h
    ·refine⟨insR_asc h,fun y hy=>?_⟩
     rcases mem_insR.1 hy with h|h
     ·exact .inr (.inr ⟨trivial,h⟩)
     ·exact .inl h
    ·exact⟨h,fun y hy=> .inl hy⟩
   obtain⟨k1,k2⟩:=ih (endS o s) h1.1
   refine⟨k1,fun y hy=>?_⟩
   rcases k2 y hy with h2|⟨q,hq,h2⟩
   ·rcases h1.2 y h2 with h3|h3
    ·exact .inl h3
    ·exact .inr ⟨s,List.mem_cons_self,h3⟩
   ·exact .inr ⟨q,List.mem_cons_of_mem _ hq,h2⟩
 have:=key l [] List.Pairwise.nil
 refine⟨this.1,fun y hy=>?_⟩
 rcases this.2 y hy with h|h
 ·cases h
 ·exact h
structure IvIn (cuts:List Rat) (v:IvQ):Prop where
 z:IvZ v
 lo:v.nl=true∨v.lo∈cuts
 hi:v.nh=true∨v.hi∈cuts
theorem gapI_in{cuts:List Rat}{i:Nat}(h:i≤cuts.length):IvIn cuts (gapI cuts i):=by
 unfold gapI
 refine⟨⟨fun e=>?_,fun e=>?_⟩,?_,?_⟩
 ·simp only[decide_eq_true_eq] at e;simp[e]
 ·simp only[decide_eq_true_eq] at e;simp[e]
 ·by_cases h0:i=0
  ·left;simp[h0]
  ·right
   simp only[if_neg h0]
   rw[List.getD_eq_getElem?_getD,List.getElem?_eq_getElem (by omega)]
   exact List.getElem_mem _
 ·by_cases h0:i=cuts.length
  ·left;simp[h0]
  ·right
   simp only[if_pos (show i<cuts.length by omega)]
   rw[List.getD_eq_getElem?_getD,List.getElem?_eq_getElem (by omega)]
   exact List.getElem_mem _
theorem fromN_in{cuts:List Rat}{marks:List Bool}: ∀{k:Nat},k≤cuts.length+1→ ∀v∈fromN cuts marks k,IvIn cuts v
 |0,_,v,hv=>by cases hv
 |k+1,hk,v,hv=>by
  have ih:=fromN_in (cuts:=cuts) (marks:=marks) (k:=k) (by omega)
  have hg:=gapI_in (cuts:=cuts) (i:=k) (by omega)
  rw[fromN] at hv
  split at hv
  ·split at hv
   ·split at hv
    ·rename_i w hw
     rcases List.mem_append.1 hv with h|h
     ·exact ih v ((List.dropLast_sublist _).subset h)
     ·rw[List.mem_singleton] at h;subst h
      have hw':=ih w (List.mem_of_getLast? hw)
      exact⟨⟨hw'.z.1,hg.z.2⟩,hw'.lo,hg.hi⟩
    ·rcases List.mem_append.1 hv with h|h
     ·exact ih v h
     ·rw[List.mem_singleton] at h;subst h;exact hg
   ·rcases List.mem_append.1 hv with h|h
    ·exact ih v h
    ·rw[List.mem_singleton] at h;subst h;exact hg
  ·exact ih v hv
theorem gapsR_len{l:List Rat}:(gapsR l).length=l.length+1:=by
 have key: ∀(l:List Rat) (a:Rat),(midsR (a::l)).length=l.length:=by
  intro l
  induction l with
  |nil=>intro a;rfl
  |cons b t ih=>intro a;rw[midsR,List.length_cons,ih b,List.length_cons]
 cases l with
 |nil=>rfl
 |cons a t=>rw[gapsR,List.length_cons,List.length_append,key];simp
theorem combQ_in{op:Int}{a b:List IvQ}: ∀v∈combQ op a b,IvIn (endsQ (a++b)) v:=fun v hv=>by
 unfold combQ fromQ at hv
 refine fromN_in ?_ v hv
 rw[List.length_map,gapsR_len];omega
theorem fromN_len{cuts:List Rat}{marks:List Bool}: ∀{k:Nat},(fromN cuts marks k).length≤k
 |0=>Nat.le_refl _
 |k+1=>by
  have ih:=fromN_len (cuts:=cuts) (marks:=marks) (k:=k)
  rw[fromN]
  split
  ·split
   ·split
    ·rename_i w hw
     have:=List.length_pos_of_mem (List.mem_of_getLast? hw)
     rw[List.length_append,List.length_dropLast];simp;omega
    ·rw[List.length_append];simp;omega
   ·rw[List.length_append];simp;omega
  ·omega
structure FOk (f:FrQ):Prop where
 lb:LB f.l
 ok:f.l.ok
 z:IvZ f.v
 lo:BQ f.v.lo 1200
 hi:BQ f.v.hi 1200
theorem BQ.zero1200:BQ (0:Rat) 1200:=BQ.mono (k:=1) ⟨by decide,by decide⟩ (by decide)
theorem half_bd{l m:LnQ}(hl:LB l)(hm:LB m)(hlo:l.ok){side:Int}: ∀v∈halfQ l m side,IvZ v∧BQ v.lo 1200∧BQ v.hi 1200:=fun v hv=>by
 unfold halfQ at hv
 split at hv
 ·split at hv
  ·rw[List.mem_singleton] at hv;subst hv;exact⟨IvZ.all,BQ.zero1200,BQ.zero1200⟩
  ·cases hv
 ·rename_i hc
  have:=param_bd hlo.ne hc
  split at hv
  ·rw[List.mem_singleton] at hv;subst hv;exact⟨⟨fun h=>(by cases h),fun _=>rfl⟩,this,BQ.zero1200⟩
  ·rw[List.mem_singleton] at hv;subst hv;exact⟨⟨fun _=>rfl,fun h=>(by cases h)⟩,BQ.zero1200,this⟩
theorem split_ok{f:FrQ}{m:LnQ}(h:FOk f)(hm:LB m){side:Int}: ∀g∈splitS f m side,FOk g∧g.l=f.l∧onB f.l m=false:=fun g hg=>by
 unfold splitS at hg
 split at hg
 ·cases hg
 ·rename_i ho
  obtain⟨v,hv,rfl⟩:=List.mem_map.1 hg
  have hi:=combQ_in v hv
  have bd: ∀y∈endsQ ([f.v]++halfQ f.l m side),BQ y 1200:=fun y hy=>by
   obtain⟨s,hs,h1⟩:=(endsQ_spec _).2 y hy
   rcases List.mem_append.1 hs with hs|hs
   ·rw[List.mem_singleton] at hs;subst hs
    rcases h1 with⟨_,rfl⟩|⟨_,rfl⟩
    ·exact h.lo
    ·exact h.hi
   ·have:=half_bd h.lb hm h.ok s hs
    rcases h1 with⟨_,rfl⟩|⟨_,rfl⟩
    ·exact this.2.1
    ·exact this.2.2
  refine⟨⟨h.lb,h.ok,hi.z,?_,?_⟩,rfl,by simpa using ho⟩
  ·rcases hi.lo with e|e
   ·rw[hi.z.1 e];exact BQ.zero1200
   ·exact bd _ e
  ·rcases hi.hi with e|e
   ·rw[hi.z.2 e];exact BQ.zero1200
   ·exact bd _ e
def rawT(acc:PtQ→Bool):Nat→List FrQ→List LnQ→Tr
 |_,[],c=> .leaf (acc (innerP c c))
 |0,_::_,_=> .leaf false
 |n+1,f::t,c=> .node f.l (rawT acc n ((f::t).flatMap fun g=>splitS g f.l 1) (c++[f.l])) (rawT acc n ((f::t).flatMap fun g=>splitS g f.l (-1)) (c++[f.l.rev]))
theorem splitS_l{f g:FrQ}{m:LnQ}{side:Int}(h:g∈splitS f m side):g.l=f.l:=by
 unfold splitS at h
 split at h
 ·cases h
 ·obtain⟨v,_,rfl⟩:=List.mem_map.1 h;rfl
theorem rawT_all{acc:PtQ→Bool}{P:LnQ→Prop}: ∀{n:Nat} {l:List FrQ} {c:List LnQ},(∀f∈l,P f.l)→(rawT acc n l c).all P
 |n,[],c,_=>by unfold rawT;trivial
 |0,_::_,_,_=>by unfold rawT;trivial
 |n+1,f::t,c,h=>by
  rw[rawT]
  refine⟨h f List.mem_cons_self,rawT_all fun g hg=>?_,rawT_all fun g hg=>?_⟩<;>
  ·obtain⟨q,hq,hg⟩:=List.mem_flatMap.1 hg
   rw[splitS_l hg];exact h q hq
theorem rawT_depth{acc:PtQ→Bool}: ∀{n:Nat} {l:List FrQ} {c:List LnQ},(rawT acc n l c).depth≤n
 |n,[],c=>by unfold rawT;exact Nat.zero_le _
 |0,_::_,_=>by unfold rawT;exact Nat.zero_le _
 |n+1,f::t,c=>by
  rw[rawT,Tr.depth]
  have h1:=rawT_depth (acc:=acc) (n:=n) (l:=(f::t).flatMap fun g=>splitS g f.l 1) (c:=c++[f.l])
  have h2:=rawT_depth (acc:=acc) (n:=n) (l:=(f::t).flatMap fun g=>splitS g f.l (-1)) (c:=c++[f.l.rev])
  omega
def Few(n:Nat)(l:List FrQ):Prop:= ∃K:List LnQ,K.length≤n∧ ∀f∈l,∃m∈K,m.same f.l
theorem val_selfbase{m:LnQ}(hm:m.Ne):m.value m.base=0:=by
 have h:=at_self hm 0
 rw[←at_ref,val_mov] at h
 grind
theorem onB_same{l m:LnQ}(h:l.same m)(hm:m.Ne):onB m l=true:=by
 unfold onB
 rw[decide_eq_true_iff]
 refine⟨?_,?_⟩
 ·rcases h with rfl|rfl
  ·unfold crossI;omega
  ·unfold crossI LnQ.rev
   show(-l.a)*l.b-l.a*(-l.b)=0
   grind
 ·rw[sgn_zero]
  exact val_same h.symm (val_selfbase hm)
theorem Few.split{n:Nat}{f:FrQ}{t:List FrQ}(h:Few (n+1) (f::t))(hok: ∀g∈f::t,FOk g){side:Int}:Few n ((f::t).flatMap fun g=>splitS g f.l side):=by
 obtain⟨K,hK,hs⟩:=h
 refine⟨K.filter fun m=>!decide (m.same f.l),?_,fun g hg=>?_⟩
 ·obtain⟨m,hm,hm2⟩:=hs f List.mem_cons_self
  have:(K.filter fun m=>!decide (m.same f.l)).length<K.length:=by
   refine List.length_filter_lt_length_iff_exists.2 ⟨m,hm,by simp[hm2]⟩
  omega
 ·obtain⟨q,hq,hg⟩:=List.mem_flatMap.1 hg
  obtain⟨_,e,ho⟩:=split_ok (hok q hq) (hok f List.mem_cons_self).lb g hg
  obtain⟨m,hm,hm2⟩:=hs q hq
  refine⟨m,List.mem_filter.2 ⟨hm,?_⟩,by rw[e];exact hm2⟩
  simp only[Bool.not_eq_true',decide_eq_false_iff_not]
  intro h
  have:=onB_same (h.symm.trans hm2) (hok q hq).ok.ne
  rw[this] at ho;cases ho
end Go.Sx
end

section
set_option maxRecDepth 100000
namespace Go.Sx
open Go Go.Proofs
theorem mkl_ok{p q r:Bool}{a b c:Nat}(h:Nat.gcd a b≠0):LnQ.ok ⟨zv p (a/Nat.gcd (Nat.gcd a b) c),zv q (b/Nat.gcd (Nat.gcd a b) c),zv r (c/Nat.gcd (Nat.gcd a b) c)⟩:=by
 have hg:0<Nat.gcd (Nat.gcd a b) c:=Nat.gcd_pos_of_pos_left _ (Nat.pos_of_ne_zero h)
 have d0:Nat.gcd (Nat.gcd a b) c∣Nat.gcd a b:=Nat.gcd_dvd_left _ _
 have d1:Nat.gcd (Nat.gcd a b) c∣a:=Nat.dvd_trans d0 (Nat.gcd_dvd_left _ _)
 have d2:Nat.gcd (Nat.gcd a b) c∣b:=Nat.dvd_trans d0 (Nat.gcd_dvd_right _ _)
 have d3:Nat.gcd (Nat.gcd a b) c∣c:=Nat.gcd_dvd_right _ _
 refine⟨?_,?_⟩
 ·rintro ⟨h1,h2⟩
  have h1':=congrArg Int.natAbs h1
  have h2':=congrArg Int.natAbs h2
  simp only[zv_abs,Int.natAbs_zero] at h1' h2'
  have e1:=Nat.div_mul_cancel d1
  have e2:=Nat.div_mul_cancel d2
  rw[h1',Nat.zero_mul] at e1
  rw[h2',Nat.zero_mul] at e2
  exact h (by rw[←e1,←e2];rfl)
 ·simp only[zv_abs]
  rw[Nat.gcd_div d1 d2,Nat.gcd_div d0 d3,Nat.div_self hg]
theorem mkl_le(p:Bool)(a g:Nat):(zv p (a/g)).natAbs≤a:=by rw[zv_abs];exact Nat.div_le_self ..
theorem PF.eq{GB:Gh}{P:Program}{f:FuncId}{vs:List DV}{r r':DV}(h:PF GB P f vs r)(e:r=r'):PF GB P f vs r':=e▸h
def iP(m n:Int):PtQ:=⟨(m:Rat),(n:Rat)⟩
theorem biOf{m:Int}{k:Nat}(h:m.natAbs<2^k):BI m k:=⟨h⟩
theorem biC{m:Int}{k:Nat}(h:m.natAbs≤1000)(hk:10≤k):BI m k:=⟨Nat.lt_of_lt_of_le (show m.natAbs<2^10 by omega) (Nat.pow_le_pow_right (by decide) hk)⟩
instance BPt.int (m n:Int) (i:Nat) [h:BI m i] [k:BI n i]:BPt (iP m n) (i+1):=⟨inferInstanceAs (BQ (m:Rat) (i+1)),inferInstanceAs (BQ (n:Rat) (i+1))⟩
theorem eQI{q:Rat}{k:Int}(h:q=(k:Rat)):eQ q=eQ (k:Rat):=by rw[h]
theorem ePI{p:PtQ}{m n:Int}(h1:p.x=(m:Rat))(h2:p.y=(n:Rat)):eP p=eP (iP m n):=by
 obtain⟨x,y⟩:=p
 simp only at h1 h2
 subst h1 h2
 rfl
def mkL(a b c:Int):LnQ:=
 ⟨zv (decide (a<0)) (a.natAbs/Nat.gcd (Nat.gcd a.natAbs b.natAbs) c.natAbs),zv (decide (b<0)) (b.natAbs/Nat.gcd (Nat.gcd a.natAbs b.natAbs) c.natAbs),zv (decide (c<0)) (c.natAbs/Nat.gcd (Nat.gcd a.natAbs b.natAbs) c.natAbs)⟩
theorem mkL_ok{a b c:Int}(h: ¬(a=0∧b=0)):(mkL a b c).ok:=
 mkl_ok fun e=>h ⟨Int.natAbs_eq_zero.1 (Nat.eq_zero_of_gcd_eq_zero_left e),Int.natAbs_eq_zero.1 (Nat.eq_zero_of_gcd_eq_zero_right e)⟩
theorem mkL_le(a b c:Int):(mkL a b c).a.natAbs≤a.natAbs∧(mkL a b c).b.natAbs≤b.natAbs∧(mkL a b c).c.natAbs≤c.natAbs:=⟨mkl_le ..,mkl_le ..,mkl_le ..⟩
theorem q_Xy{GB:Gh}{m n:Int}(hm:m.natAbs≤1000)(hn:n.natAbs≤1000):PF GB Tryz.prog 62 [.v (.int .i64 m), .v (.int .i64 n)] (eP (iP m n)):=by
 refine fn Tryz.func62 rfl rfl Tryz.ntmps62 rfl rfl (fun C=>?_)
 refine cl rfl (q_Of (n:=m) (by omega) (by omega)) rfl<|cl rfl (q_Of (n:=n) (by omega) (by omega)) rfl<|?_
 exact rz rfl rfl
theorem q_AddI{GB:Gh}{m n m' n' k:Int}(hm:m.natAbs≤1000)(hn:n.natAbs≤1000)(hm':m'.natAbs≤1000)(hn':n'.natAbs≤1000)(hk:k.natAbs≤1000):PF GB Tryz.prog 64 [eP (iP m n),eQ (k:Rat),eP (iP m' n')] (eP (iP (m+k*m') (n+k*n'))):=by
 haveI:=biC (k:=10) hm (by decide)
 haveI:=biC (k:=10) hn (by decide)
 haveI:=biC (k:=10) hm' (by decide)
 haveI:=biC (k:=10) hn' (by decide)
 haveI:=biC (k:=10) hk (by decide)
 exact PF.eq (q_PAdd (p:=iP m n) (q:=iP m' n') (c:=(k:Rat))) (ePI (by show(m:Rat)+(k:Rat)*(m':Rat)=_;push_cast;rfl) (by show(n:Rat)+(k:Rat)*(n':Rat)=_;push_cast;rfl))
theorem q_SubI{GB:Gh}{m n m' n':Int}(hm:m.natAbs≤1000)(hn:n.natAbs≤1000)(hm':m'.natAbs≤1000)(hn':n'.natAbs≤1000):PF GB Tryz.prog 116 [eP (iP m n),eP (iP m' n')] (eP (iP (m-m') (n-n'))):=by
 refine fn Tryz.func116 rfl rfl Tryz.ntmps116 rfl rfl (fun C=>?_)
 refine cl rfl (q_Of (n:= -1) (by decide) (by decide)) rfl<|cl rfl (q_AddI (m:=m) (n:=n) (m':=m') (n':=n') (k:= -1) hm hn hm' hn' (by decide)) rfl<|?_
 exact rz rfl (by rw[show m-m'=m+ -1*m' by omega,show n-n'=n+ -1*n' by omega];rfl)
theorem q_SameI'{GB:Gh}{m n m' n':Int}(hm:m.natAbs≤1000)(hn:n.natAbs≤1000)(hm':m'.natAbs≤1000)(hn':n'.natAbs≤1000):PF GB Tryz.prog 125 [eP (iP m n),eP (iP m' n')] (.v (.bool (decide (m=m'∧n=n')))):=by
 haveI:=biC (k:=10) hm (by decide)
 haveI:=biC (k:=10) hn (by decide)
 haveI:=biC (k:=10) hm' (by decide)
 haveI:=biC (k:=10) hn' (by decide)
 refine fn Tryz.func125 rfl rfl Tryz.ntmps125 rfl rfl (fun C=>?_)
 refine cl rfl (q_C (a:=(m:Rat)) (b:=(m':Rat))) rfl<|?_
 refine cs 11 rfl rfl rfl (fun hg11=>?_) (fun hg11=>?_)
 ·
  refine cl rfl (q_C (a:=(n:Rat)) (b:=(n':Rat))) rfl<|?_
  exact rz rfl (by rw[rcmp_eq] at hg11;have e:m=m':=(by exact_mod_cast hg11);exact congrArg (fun z=>DV.v (.bool z)) (decide_eq_decide.2 (by rw[rcmp_eq,Rat.intCast_inj];simp[e])))
 ·
  exact rz rfl (by rw[rcmp_eq] at hg11;have e: ¬m=m':=(fun e=>hg11 (by rw[e]));show DV.v (.bool false)=DV.v (.bool _);rw[decide_eq_false (fun h=>e h.1)])
theorem gcd_ltk{a b k:Nat}(ha:a<k)(hb:b<k):Nat.gcd a b<k:=by
 rcases Nat.eq_zero_or_pos a with rfl|p
 ·simpa using hb
 ·exact Nat.lt_of_le_of_lt (Nat.gcd_le_left b p) ha
set_option maxHeartbeats 1000000 in
theorem q_MakeL{GB:Gh}{a b c:Int}{i:Nat}(ha:BI a i)(hb:BI b i)(hc:BI c i)(hi:i≤100000000)(h0: ¬(a=0∧b=0)):PF GB Tryz.prog 123 [eI a,eI b,eI c] (.tp [eL (mkL a b c), .v (.bool true)]):=by
 have hgn:Nat.gcd a.natAbs b.natAbs≠0:=fun h=>h0 ⟨Int.natAbs_eq_zero.1 (Nat.eq_zero_of_gcd_eq_zero_left h),Int.natAbs_eq_zero.1 (Nat.eq_zero_of_gcd_eq_zero_right h)⟩
 have hgp:0<Nat.gcd (Nat.gcd a.natAbs b.natAbs) c.natAbs:=Nat.gcd_pos_of_pos_left _ (Nat.pos_of_ne_zero hgn)
 haveI hb1:BN (Nat.gcd a.natAbs b.natAbs) i:=⟨gcd_ltk ha.h hb.h⟩
 haveI hb2:BN (Nat.gcd (Nat.gcd a.natAbs b.natAbs) c.natAbs) i:=⟨gcd_ltk hb1.h hc.h⟩
 refine fn Tryz.func123 rfl rfl Tryz.ntmps123 rfl rfl (fun C=>?_)
 refine cl rfl (q_Common (a:=a.natAbs) (b:=b.natAbs) (by omega) (by omega)) rfl<|?_
 refine br rfl rfl rfl (fun hc22=>?_) (fun hc22=>?_)
 ·
  exact absurd hc22 (by rw[List.length_map];intro h;exact hgn (dg_len_zero.1 (by omega)))
 ·
  refine cl rfl (q_Common (a:=Nat.gcd a.natAbs b.natAbs) (b:=c.natAbs) (by omega) (by omega)) rfl<|cl rfl (q_Divide (a:=a.natAbs) (b:=Nat.gcd (Nat.gcd a.natAbs b.natAbs) c.natAbs) hgp (by omega) (by omega)) rfl<|?_
  refine cl rfl (q_Divide (a:=b.natAbs) (b:=Nat.gcd (Nat.gcd a.natAbs b.natAbs) c.natAbs) hgp (by omega) (by omega)) rfl<|cl rfl (q_Divide (a:=c.natAbs) (b:=Nat.gcd (Nat.gcd a.natAbs b.natAbs) c.natAbs) hgp (by omega) (by omega)) rfl<|?_
  refine cl rfl (q_Make (m:=a.natAbs/(Nat.gcd (Nat.gcd a.natAbs b.natAbs) c.natAbs)) (neg:=decide (a<0))) rfl<|cl rfl (q_Make (m:=b.natAbs/(Nat.gcd (Nat.gcd a.natAbs b.natAbs) c.natAbs)) (neg:=decide (b<0))) rfl<|?_
  refine cl rfl (q_Make (m:=c.natAbs/(Nat.gcd (Nat.gcd a.natAbs b.natAbs) c.natAbs)) (neg:=decide (c<0))) rfl<|?_
  exact rz rfl rfl
def thrA(n n':Int):Int:= -(n'-n)
def thrB(m m':Int):Int:=m'-m
def thrC(m n m' n':Int):Int:= -(thrA n n'*m+thrB m m'*n)
def thrL(m n m' n':Int):LnQ:=mkL (thrA n n') (thrB m m') (thrC m n m' n')
theorem mul_le_mil{a b:Int}(ha:a.natAbs≤2000)(hb:b.natAbs≤1000):(a*b).natAbs≤2000000:=by
 rw[Int.natAbs_mul];exact Nat.mul_le_mul ha hb
set_option maxHeartbeats 2000000 in
theorem q_Through{GB:Gh}{m n m' n':Int}(hm:m.natAbs≤1000)(hn:n.natAbs≤1000)(hm':m'.natAbs≤1000)(hn':n'.natAbs≤1000)(h0: ¬(m=m'∧n=n')):PF GB Tryz.prog 61 [eP (iP m n),eP (iP m' n')] (.tp [eL (thrL m n m' n'), .v (.bool true)]):=by
 obtain⟨a,hA⟩: ∃a,a=thrA n n':=⟨_,rfl⟩
 obtain⟨b,hB⟩: ∃b,b=thrB m m':=⟨_,rfl⟩
 have hA':a= -(n'-n):=hA
 have hB':b=m'-m:=hB
 obtain⟨c,hC⟩: ∃c,c= -(a*m+b*n):=⟨_,rfl⟩
 have e1:=mul_le_mil (a:=a) (b:=m) (by omega) hm
 have e2:=mul_le_mil (a:=b) (b:=n) (by omega) hn
 haveI hm0:=biC (k:=10) hm (by decide)
 haveI hn0:=biC (k:=10) hn (by decide)
 haveI ha:BI a 30:=biOf (by omega)
 haveI hb:BI b 30:=biOf (by omega)
 haveI hc:BI c 30:=biOf (by omega)
 have hthr:thrL m n m' n'=mkL a b c:=by rw[hC,hA,hB];rfl
 have hne: ¬(a=0∧b=0):=fun h=>h0 (by omega)
 refine fn Tryz.func61 rfl rfl Tryz.ntmps61 rfl rfl (fun C=>?_)
 refine cl rfl (q_SubI (m:=m') (n:=n') (m':=m) (n':=n) hm' hn' hm hn) rfl<|cl rfl (PF.eq (q_Opp (q:=(((n'-n):Int):Rat))) (eQI (k:=a) (by rw[hA'];push_cast;rfl))) rfl<|?_
 refine cl rfl (PF.eq (q_Times (a:=(a:Rat)) (b:=(m:Rat))) (eQI (k:=a*m) (by push_cast;rfl))) rfl<|cl rfl (PF.eq (by haveI:BI (m'-m) 30:=(by rw[←hB'];exact hb);exact q_Times (a:=(((m'-m):Int):Rat)) (b:=(n:Rat))) (eQI (k:=b*n) (by rw[hB'];push_cast;rfl))) rfl<|?_
 refine cl rfl (PF.eq (q_Plus (a:=((a*m:Int):Rat)) (b:=((b*n:Int):Rat))) (eQI (k:=a*m+b*n) (by push_cast;rfl))) rfl<|cl rfl (PF.eq (q_Opp (q:=((a*m+b*n:Int):Rat))) (eQI (k:=c) (by rw[hC];push_cast;rfl))) rfl<|?_
 refine cl rfl (q_Den (q:=(a:Rat))) rfl<|cl rfl (q_Den (q:=(((m'-m):Int):Rat))) rfl<|cl rfl (PF.eq (q_Product (a:=1) (b:=1)) rfl) rfl<|?_
 refine cl rfl (q_Den (q:=(c:Rat))) rfl<|cl rfl (PF.eq (q_Product (a:=1) (b:=1)) rfl) rfl<|cl (fu:=⟨1⟩) rfl (q_Make (neg:=false) (m:=1)) rfl<|?_
 refine eqF 40 (.d (eQ ((1:Int):Rat))) rfl rfl ?_
 refine gx rfl<|cl rfl (PF.eq (q_Times (a:=(a:Rat)) (b:=((1:Int):Rat))) (eQI (k:=a) (by push_cast;grind))) rfl<|cl rfl (PF.eq (by haveI:BI (m'-m) 30:=(by rw[←hB'];exact hb);exact q_Times (a:=(((m'-m):Int):Rat)) (b:=((1:Int):Rat))) (eQI (k:=b) (by rw[hB'];push_cast;grind))) rfl<|?_
 refine cl rfl (PF.eq (q_Times (a:=(c:Rat)) (b:=((1:Int):Rat))) (eQI (k:=c) (by push_cast;grind))) rfl<|cl rfl (q_MakeL (a:=a) (b:=b) (c:=c) ha hb hc (by decide) hne) rfl<|?_
 exact rz rfl (by rw[hthr];rfl)
end Go.Sx
end

section
set_option maxRecDepth 100000
namespace Go.Sx
open Go Go.Proofs
theorem mapI_get{es:List Int}{a:Nat}(h:a<es.length):(es.map vI)[(a:Int).toNat]? =some (vI es[a]):=by simp[h]
theorem eP_zeroI:eP (iP 0 0)= .ag [.v (.bool false), .sl [], .sl [], .v (.bool false), .sl [], .sl []]:=by
 unfold eP iP
 simp[dN_zero,dD]
theorem thr_LT{m n p q:Int}(hm:m.natAbs≤4)(hn:n.natAbs≤4)(hp:p.natAbs≤4)(hq:q.natAbs≤4)(h: ¬(p=0∧q=0)):LS (thrL m n (m+1*p) (n+1*q)):=by
 have e1:thrA n (n+1*q)= -q:=by unfold thrA;omega
 have e2:thrB m (m+1*p)=p:=by unfold thrB;omega
 have e3:((-q)*m).natAbs≤4*4:=by rw[Int.natAbs_mul];exact Nat.mul_le_mul (by omega) hm
 have e4:(p*n).natAbs≤4*4:=by rw[Int.natAbs_mul];exact Nat.mul_le_mul hp hn
 have e5:thrC m n (m+1*p) (n+1*q)= -((-q)*m+p*n):=by unfold thrC;rw[e1,e2]
 unfold thrL
 obtain⟨k1,k2,k3⟩:=mkL_le (thrA n (n+1*q)) (thrB m (m+1*p)) (thrC m n (m+1*p) (n+1*q))
 exact⟨mkL_ok (by rw[e1,e2];omega),Nat.le_trans k1 (by rw[e1];omega),Nat.le_trans k2 (by rw[e2];omega),Nat.le_trans k3 (by rw[e5];omega)⟩
def nextF(es:List Int)(n:Int)(a:Nat):Nat×Nat:=
 if h:a<es.length then((if Int.tmod es[a] n<0 then Int.tmod es[a] n+n else Int.tmod es[a] n).toNat,a+1) else(0,a)
theorem nextF_lt{es:List Int}{n:Int}{a:Nat}(hn:1≤n):((nextF es n a).1:Int)<n:=by
 unfold nextF
 split
 ·rename_i h
  have q2:=Int.tmod_lt_of_pos es[a] (show 0<n by omega)
  dsimp only
  split<;>omega
 ·exact hn
theorem nextF_le{es:List Int}{n:Int}{a:Nat}(ha:a≤es.length):(nextF es n a).2≤es.length:=by
 unfold nextF
 split
 ·assumption
 ·exact ha
def pF(es:List Int)(a:Nat):(Int×Int)×Nat:=((((nextF es 9 a).1:Int)-4,((nextF es 9 (nextF es 9 a).2).1:Int)-4),(nextF es 9 (nextF es 9 a).2).2)
theorem pF_ok{es:List Int}{a:Nat}(ha:a≤es.length):(pF es a).1.1.natAbs≤4∧(pF es a).1.2.natAbs≤4∧(pF es a).2≤es.length:=by
 have h1:=nextF_lt (es:=es) (n:=9) (a:=a) (by decide)
 have h2:=nextF_lt (es:=es) (n:=9) (a:=(nextF es 9 a).2) (by decide)
 have h3:=nextF_le (n:=9) (nextF_le (es:=es) (n:=9) ha)
 unfold pF
 exact⟨by dsimp only;omega,by dsimp only;omega,h3⟩
def vF(es:List Int)(a:Nat):(Int×Int)×Nat:=if(pF es a).1.1=0∧(pF es a).1.2=0 then((1,0),(pF es a).2) else pF es a
theorem vF_ok{es:List Int}{a:Nat}(ha:a≤es.length):(vF es a).1.1.natAbs≤4∧(vF es a).1.2.natAbs≤4∧ ¬((vF es a).1.1=0∧(vF es a).1.2=0)∧(vF es a).2≤es.length:=by
 obtain⟨h1,h2,h3⟩:=pF_ok ha
 unfold vF
 split
 ·exact⟨show(1:Int).natAbs≤4 by decide,show(0:Int).natAbs≤4 by decide,show¬((1:Int)=0∧(0:Int)=0) by decide,h3⟩
 ·rename_i h;exact⟨h1,h2,h,h3⟩
def lF(es:List Int)(a:Nat):LnQ×Nat:=(thrL (pF es a).1.1 (pF es a).1.2 ((pF es a).1.1+1*(vF es (pF es a).2).1.1) ((pF es a).1.2+1*(vF es (pF es a).2).1.2),(vF es (pF es a).2).2)
theorem lF_ok{es:List Int}{a:Nat}(ha:a≤es.length):LS (lF es a).1∧(lF es a).2≤es.length:=by
 obtain⟨h1,h2,h3⟩:=pF_ok ha
 obtain⟨k1,k2,k3,k4⟩:=vF_ok h3
 exact⟨thr_LT h1 h2 k1 k2 k3,k4⟩
def treeF(es:List Int):Nat→Nat→Tr×Nat
 |0,a=>(.leaf (decide (((nextF es 2 a).1:Int)=1)),(nextF es 2 a).2)
 |d+1,a=>if((nextF es 4 a).1:Int)=0 then(.leaf (decide (((nextF es 2 (nextF es 4 a).2).1:Int)=1)),(nextF es 2 (nextF es 4 a).2).2) else
  (.node (lF es (nextF es 4 a).2).1 (treeF es d (lF es (nextF es 4 a).2).2).1 (treeF es d (treeF es d (lF es (nextF es 4 a).2).2).2).1,(treeF es d (treeF es d (lF es (nextF es 4 a).2).2).2).2)
theorem treeF_ok{es:List Int}: ∀{d a:Nat},a≤es.length→(treeF es d a).1.depth≤d∧(treeF es d a).1.all LnQ.ok∧(treeF es d a).1.all (fun l=>BL l 96)∧(treeF es d a).2≤es.length
 |0,a,ha=>⟨Nat.zero_le _,trivial,trivial,nextF_le ha⟩
 |d+1,a,ha=>by
  have h4:=nextF_le (n:=4) ha
  unfold treeF
  split
  ·exact⟨Nat.zero_le _,trivial,trivial,nextF_le h4⟩
  ·obtain⟨hl,h5⟩:=lF_ok h4
   obtain⟨d1,o1,b1,h6⟩:=treeF_ok (d:=d) h5
   obtain⟨d2,o2,b2,h7⟩:=treeF_ok (d:=d) h6
   exact⟨by show 1+max _ _≤_;omega,⟨hl.ok,o1,o2⟩,⟨hl.bl,b1,b2⟩,h7⟩
theorem q_NextT{GB:Gh}{b:Nat}{es:List Int}(hes:es.length≤400){a:Nat}(ha:a≤es.length){n:Int}(hn:1≤n)(hn2:n≤1000):PM GB Tryz.prog 37 (mkP [none,some (.v (.int .i64 n))] b) b 89 [.sl (es.map vI), .v (.int .i64 (a:Nat))] (.v (.int .i64 ((nextF es n a).1:Nat))) [.sl (es.map vI), .v (.int .i64 ((nextF es n a).2:Nat))]:=by
 have hel:(es.map vI).length=es.length:=by simp
 refine fnM Tryz.func37 rfl rfl Tryz.ntmps37 rfl rfl (fun C b m lo hmb=>?_)
 refine br rfl rfl rfl (fun hc15=>?_) (fun hc15=>?_)
 ·
  have hf:nextF es n a=(0,a):=by unfold nextF;rw[dif_neg (by omega)]
  exact rzM hmb rfl rfl (by rw[hf]<;>rfl) (by rw[hf]<;>rfl)
 ·
  have hal:a<es.length:=by omega
  obtain⟨e,he⟩: ∃e,e=es[a]:=⟨_,rfl⟩
  have q2:=Int.tmod_lt_of_pos e (show 0<n by omega)
  have q3: -n<Int.tmod e n:=by have:=Int.lt_tmod_of_pos e (show 0<n by omega);omega
  refine ix (fu:=⟨1⟩) _ rfl (mapI_get hal) rfl<|?_
  refine eqF 25 (.d (vI e)) rfl (by rw[he]<;>rfl) ?_
  refine gx (hv:=by simp only[allP];exact⟨⟨by omega,by kernel_rfl⟩,by omega⟩) rfl<|?_
  refine br rfl rfl rfl (fun hc36=>?_) (fun hc36=>?_)
  ·
   have hf:nextF es n a=((Int.tmod e n+n).toNat,a+1):=by unfold nextF;rw[dif_pos hal,←he,if_pos hc36]
   exact rzM hmb rfl rfl (by rw[hf];show DV.v (.int .i64 _)=DV.v (.int .i64 _);rw[Int.toNat_of_nonneg (by omega)]) (by rw[hf]<;>rfl)
  ·
   have hf:nextF es n a=((Int.tmod e n).toNat,a+1):=by unfold nextF;rw[dif_pos hal,←he,if_neg hc36]
   exact rzM hmb rfl rfl (by rw[hf];show DV.v (.int .i64 _)=DV.v (.int .i64 _);rw[Int.toNat_of_nonneg (by omega)]) (by rw[hf]<;>rfl)
theorem q_PT{GB:Gh}{b:Nat}{es:List Int}(hes:es.length≤400){a:Nat}(ha:a≤es.length):PM GB Tryz.prog 63 (mkP [none] b) b 89 [.sl (es.map vI), .v (.int .i64 (a:Nat))] (eP (iP (pF es a).1.1 (pF es a).1.2)) [.sl (es.map vI), .v (.int .i64 ((pF es a).2:Nat))]:=by
 have h1:=nextF_lt (es:=es) (n:=9) (a:=a) (by decide)
 have h2:=nextF_lt (es:=es) (n:=9) (a:=(nextF es 9 a).2) (by decide)
 refine fnM Tryz.func63 rfl rfl Tryz.ntmps63 rfl rfl (fun C b m lo hmb=>?_)
 refine cm rfl (fun b=>(q_NextT (n:=9) hes ha (by decide) (by decide))) rfl<|cm rfl (fun b=>(q_NextT (n:=9) hes (nextF_le ha) (by decide) (by decide))) rfl<|?_
 refine cl rfl (q_Xy (m:=((nextF es 9 a).1:Int)-4) (n:=((nextF es 9 (nextF es 9 a).2).1:Int)-4) (by omega) (by omega)) rfl<|?_
 exact rzM hmb rfl rfl rfl rfl
theorem q_VT{GB:Gh}{b:Nat}{es:List Int}(hes:es.length≤400){a:Nat}(ha:a≤es.length):PM GB Tryz.prog 66 (mkP [none] b) b 89 [.sl (es.map vI), .v (.int .i64 (a:Nat))] (eP (iP (vF es a).1.1 (vF es a).1.2)) [.sl (es.map vI), .v (.int .i64 ((vF es a).2:Nat))]:=by
 obtain⟨hm,hn,ha1⟩:=pF_ok ha
 refine fnM Tryz.func66 rfl rfl Tryz.ntmps66 rfl rfl (fun C b m lo hmb=>?_)
 refine cm (fu:=⟨9⟩) rfl (fun b=>(q_PT hes ha)) rfl<|?_
 refine eqF 7 (.d (eP (iP 0 0))) rfl (by rw[eP_zeroI]<;>rfl) ?_
 refine gx rfl<|cl rfl (q_SameI' (m:=(pF es a).1.1) (n:=(pF es a).1.2) (m':=0) (n':=0) (by omega) (by omega) (by decide) (by decide)) rfl<|?_
 refine bd rfl rfl rfl (fun hc8=>?_) (fun hc8=>?_)
 ·
  have hf:vF es a=((1,0),(pF es a).2):=by unfold vF;rw[if_pos hc8]
  refine cl rfl (q_Xy (m:=1) (n:=0) (by decide) (by decide)) rfl<|?_
  exact rzM hmb rfl rfl (by rw[hf]<;>rfl) (by rw[hf])
 ·
  have hf:vF es a=pF es a:=by unfold vF;rw[if_neg hc8]
  exact rzM hmb rfl rfl (by rw[hf]<;>rfl) (by rw[hf])
theorem q_LT{GB:Gh}{b:Nat}{es:List Int}(hes:es.length≤400){a:Nat}(ha:a≤es.length):PM GB Tryz.prog 20 (mkP [none] b) b 89 [.sl (es.map vI), .v (.int .i64 (a:Nat))] (eL (lF es a).1) [.sl (es.map vI), .v (.int .i64 ((lF es a).2:Nat))]:=by
 obtain⟨hm,hn,ha1⟩:=pF_ok ha
 obtain⟨hp,hq,hz,ha2⟩:=vF_ok ha1
 refine fnM Tryz.func20 rfl rfl Tryz.ntmps20 rfl rfl (fun C b m lo hmb=>?_)
 refine cm rfl (fun b=>(q_PT hes ha)) rfl<|cl rfl (q_Of (n:=1) (by decide) (by decide)) rfl<|cm rfl (fun b=>(q_VT hes ha1)) rfl<|cl rfl (q_AddI (m:=(pF es a).1.1) (n:=(pF es a).1.2) (m':=(vF es (pF es a).2).1.1) (n':=(vF es (pF es a).2).1.2) (k:=1) (by omega) (by omega) (by omega) (by omega) (by decide)) rfl<|?_
 refine cl rfl (q_Through (m:=(pF es a).1.1) (n:=(pF es a).1.2) (m':=(pF es a).1.1+1*(vF es (pF es a).2).1.1) (n':=(pF es a).1.2+1*(vF es (pF es a).2).1.2) (by omega) (by omega) (by omega) (by omega) (by omega)) rfl<|?_
 exact rzM hmb rfl rfl rfl rfl
theorem q_CodeT{GB:Gh}{p:Bool}:PF GB Tryz.prog 44 [.v (.bool p)] (eT (.leaf p)):=by
 refine fn Tryz.func44 rfl rfl Tryz.ntmps44 rfl rfl (fun C=>?_)
 refine fzE 5 rfl ?_
 exact rz rfl rfl
theorem q_TreeT_zero{GB:Gh}{b:Nat}{es:List Int}(hes:es.length≤400){a:Nat}(ha:a≤es.length){n:Int}(hn:n=0):PM GB Tryz.prog 50 (mkP [none,some (.v (.int .i64 n))] b) b 89 [.sl (es.map vI), .v (.int .i64 (a:Nat))] (eT (treeF es 0 a).1) [.sl (es.map vI), .v (.int .i64 ((treeF es 0 a).2:Nat))]:=by
 refine fnM (fu:=⟨10⟩) Tryz.func50 rfl rfl Tryz.ntmps50 rfl rfl (fun C b m lo hmb=>?_)
 refine kT 8 rfl (by omega) ?_
 refine gx rfl<|cm rfl (fun b=>(q_NextT (n:=2) hes ha (by decide) (by decide))) rfl<|cl rfl (q_CodeT (p:=decide (((nextF es 2 a).1:Int)=1))) rfl<|?_
 exact rzM hmb rfl rfl rfl rfl
theorem q_TreeT_node{GB:Gh}{b:Nat}{es:List Int}(hes:es.length≤400){a:Nat}(ha:a≤es.length){d:Nat}{n:Int}(hn:n=((d+1:Nat):Int))(hd:d≤100)(ih: ∀{GB:Gh} {b a:Nat} {n:Int},a≤es.length→n=(d:Int)→PM GB Tryz.prog 50 (mkP [none,some (.v (.int .i64 n))] b) b 89 [.sl (es.map vI), .v (.int .i64 (a:Nat))] (eT (treeF es d a).1) [.sl (es.map vI), .v (.int .i64 ((treeF es d a).2:Nat))]):PM GB Tryz.prog 50 (mkP [none,some (.v (.int .i64 n))] b) b 89 [.sl (es.map vI), .v (.int .i64 (a:Nat))] (eT (treeF es (d+1) a).1) [.sl (es.map vI), .v (.int .i64 ((treeF es (d+1) a).2:Nat))]:=by
 have h4:=nextF_le (n:=4) ha
 obtain⟨hl,h5⟩:=lF_ok h4
 have h6:=(treeF_ok (d:=d) h5).2.2.2
 refine fnM (fu:=⟨10⟩) Tryz.func50 rfl rfl Tryz.ntmps50 rfl rfl (fun C b m lo hmb=>?_)
 refine kF 8 rfl (by omega) ?_
 refine gx rfl<|cm rfl (fun b=>(q_NextT (n:=4) hes ha (by decide) (by decide))) rfl<|?_
 refine br rfl rfl rfl (fun hc13=>?_) (fun hc13=>?_)
 ·
  have hf:treeF es (d+1) a=_:=if_pos hc13
  refine cm rfl (fun b=>(q_NextT (n:=2) hes h4 (by decide) (by decide))) rfl<|cl rfl (q_CodeT (p:=decide (((nextF es 2 (nextF es 4 a).2).1:Int)=1))) rfl<|?_
  exact rzM hmb rfl rfl (by rw[hf]<;>rfl) (by rw[hf])
 ·
  have hf:treeF es (d+1) a=_:=if_neg hc13
  refine cm rfl (fun b=>(q_LT hes h4)) rfl<|cm rfl (fun b=>(ih h5 (by omega))) rfl<|cm rfl (fun b=>(ih h6 (by omega))) rfl<|?_
  refine fzE 31 rfl ?_
  exact rzM hmb rfl rfl (by rw[hf]<;>rfl) (by rw[hf])
theorem q_TreeI{es:List Int}(hes:es.length≤400): ∀{d:Nat} {GB:Gh} {b a:Nat} {n:Int},d≤100→a≤es.length→n=(d:Int)→PM GB Tryz.prog 50 (mkP [none,some (.v (.int .i64 n))] b) b 89 [.sl (es.map vI), .v (.int .i64 (a:Nat))] (eT (treeF es d a).1) [.sl (es.map vI), .v (.int .i64 ((treeF es d a).2:Nat))]
 |0,_,_,_,_,_,ha,hn=>q_TreeT_zero hes ha hn
 |d+1,_,_,_,_,hd,ha,hn=>q_TreeT_node hes ha hn (by omega) (fun h1 h2=>q_TreeI hes (by omega) h1 h2)
theorem q_TreeT{GB:Gh}{es:List Int}(hes:es.length≤400){a d b:Nat}(ha:a≤es.length)(hd:d≤100):PM GB Tryz.prog 50 (mkP [none,some (.v (.int .i64 (d:Nat)))] b) b 89 [.sl (es.map vI), .v (.int .i64 (a:Nat))] (eT (treeF es d a).1) [.sl (es.map vI), .v (.int .i64 ((treeF es d a).2:Nat))]:=q_TreeI (GB:=GB) hes hd ha rfl
end Go.Sx
end

section
set_option maxRecDepth 100000
namespace Go.Sx
open Go Go.Proofs
abbrev ZP:=Int×Int
def ZP.q(p:ZP):PtQ:=iP p.1 p.2
def ZP.le(k:Nat)(p:ZP):Prop:=p.1.natAbs≤k∧p.2.natAbs≤k
def addZ(p q:ZP):ZP:=(p.1+1*q.1,p.2+1*q.2)
def crossZ(u v:ZP):Int:=u.1*v.2-u.2*v.1
theorem thr_LB{m n p q:Int}(hm:m.natAbs≤1000)(hn:n.natAbs≤1000)(hp:p.natAbs≤1000)(hq:q.natAbs≤1000)(h: ¬(p=m∧q=n)):LB (thrL m n p q)∧(thrL m n p q).ok:=by
 have e1:(thrA n q).natAbs≤2000:=by unfold thrA;omega
 have e2:(thrB m p).natAbs≤2000:=by unfold thrB;omega
 have e3:=mul_le_mil e1 hm
 have e4:=mul_le_mil e2 hn
 have e5:(thrC m n p q).natAbs≤4000000:=by unfold thrC;omega
 unfold thrL
 obtain⟨k1,k2,k3⟩:=mkL_le (thrA n q) (thrB m p) (thrC m n p q)
 have hb:(2:Nat)^96=79228162514264337593543950336:=by decide
 refine⟨⟨⟨?_,?_,?_⟩⟩,mkL_ok ?_⟩
 ·rw[hb];omega
 ·rw[hb];omega
 ·rw[hb];omega
 ·unfold thrA thrB;omega
def edgeZ(v w:ZP):FrQ:=⟨thrL v.1 v.2 w.1 w.2,⟨paramQ (thrL v.1 v.2 w.1 w.2) v.q,paramQ (thrL v.1 v.2 w.1 w.2) w.q,false,false⟩⟩
def nextZ(r:List ZP)(i:Nat):ZP:=r.getD ((i+1)%r.length) (0,0)
def edgesN(r:List ZP):Nat→List FrQ
 |0=>[]
 |k+1=>edgesN r k++[edgeZ (r.getD k (0,0)) (nextZ r k)]
def edgesZ(r:List ZP):List FrQ:=edgesN r r.length
structure RingOk (r:List ZP):Prop where
 n3:3≤r.length
 n6:r.length≤6
 le: ∀p∈r,ZP.le 100 p
 ne: ∀i<r.length,r.getD i (0,0)≠nextZ r i
theorem getD_mem{r:List ZP}{i:Nat}(h:i<r.length):r.getD i (0,0)∈r:=by
 rw[List.getD_eq_getElem?_getD,List.getElem?_eq_getElem h];exact List.getElem_mem h
theorem nextZ_mem{r:List ZP}{i:Nat}(h:i<r.length):nextZ r i∈r:=getD_mem (Nat.mod_lt _ (by omega))
theorem param_int{l:LnQ}(hl:LB l)(ho:l.ok){m n:Int}(hm:m.natAbs≤1000)(hn:n.natAbs≤1000):BQ (paramQ l (iP m n)) 1200:=by
 haveI:=biC (k:=11) hm (by decide)
 haveI:=biC (k:=11) hn (by decide)
 have hd:=dd_pos ho.ne
 have hA:BI (l.a*l.a+l.b*l.b) _:=inferInstance
 have hB:BI (m*l.b-n*l.a) _:=inferInstance
 have hA':=biMono (j:=1200) hA (by decide)
 have hB':=biMono (j:=1200) hB (by decide)
 have e1:l.dir.dot l.dir=((l.a*l.a+l.b*l.b:Int):Rat):=by
  rw[Rat.intCast_add,Rat.intCast_mul,Rat.intCast_mul]
  simp only[LnQ.dir,PtQ.dot];grind
 have e2:(iP m n).dot l.dir=((m*l.b-n*l.a:Int):Rat):=by
  rw[Rat.intCast_sub,Rat.intCast_mul,Rat.intCast_mul]
  simp only[LnQ.dir,PtQ.dot,iP];grind
 have hd':((0:Int):Rat)<((l.a*l.a+l.b*l.b:Int):Rat):=by rw[←e1];exact hd
 unfold paramQ
 rw[e2,e1]
 clear hA hB e1 e2
 generalize l.a*l.a+l.b*l.b=D at*
 generalize m*l.b-n*l.a=M at*
 have hD:0<D:=Rat.intCast_lt_intCast.1 hd'
 refine BQ.of_fracI (n:=M) (D:=D) (by omega) ?_ hB' hA'
 have h0:(D:Rat)≠0:=fun e=>by rw[e] at hd';exact absurd hd' (by decide)
 have:((D.natAbs:Nat):Rat)=(D:Rat):=by
  have h1:((D.natAbs:Nat):Int)=D:=by omega
  rw[←h1];rfl
 rw[this]
 grind
theorem edge_ok{v w:ZP}(hv:ZP.le 100 v)(hw:ZP.le 100 w)(h:v≠w):FOk (edgeZ v w):=by
 obtain⟨h1,h2⟩:=thr_LB (m:=v.1) (n:=v.2) (p:=w.1) (q:=w.2) (by have:=hv.1;omega) (by have:=hv.2;omega) (by have:=hw.1;omega) (by have:=hw.2;omega) (fun e=>h (Prod.ext e.1.symm e.2.symm))
 exact⟨h1,h2,⟨fun e=>(by cases e),fun e=>(by cases e)⟩,param_int h1 h2 (by have:=hv.1;omega) (by have:=hv.2;omega),param_int h1 h2 (by have:=hw.1;omega) (by have:=hw.2;omega)⟩
theorem edgesN_ok{r:List ZP}(h:RingOk r): ∀{k:Nat},k≤r.length→(edgesN r k).length=k∧ ∀f∈edgesN r k,FOk f
 |0,_=>⟨rfl,fun f hf=>by cases hf⟩
 |k+1,hk=>by
  obtain⟨h1,h2⟩:=edgesN_ok h (k:=k) (by omega)
  rw[edgesN]
  refine⟨by simp[h1],fun f hf=>?_⟩
  rcases List.mem_append.1 hf with hf|hf
  ·exact h2 f hf
  ·rw[List.mem_singleton] at hf;subst hf
   exact edge_ok (h.le _ (getD_mem (by omega))) (h.le _ (nextZ_mem (by omega))) (h.ne k (by omega))
theorem edges_ok{r:List ZP}(h:RingOk r):(edgesZ r).length=r.length∧ ∀f∈edgesZ r,FOk f:=edgesN_ok h (Nat.le_refl _)
def edgesR(rs:List (List ZP)):List FrQ:=rs.flatMap edgesZ
theorem edgesR_ok: ∀{rs:List (List ZP)},(∀r∈rs,RingOk r)→(edgesR rs).length≤6*rs.length∧ ∀f∈edgesR rs,FOk f
 |[],_=>⟨Nat.le_refl _,fun f hf=>by cases hf⟩
 |r::rs,h=>by
  obtain⟨h1,h2⟩:=edgesR_ok (rs:=rs) fun q hq=>h q (List.mem_cons_of_mem _ hq)
  obtain⟨k1,k2⟩:=edges_ok (h r List.mem_cons_self)
  have:=(h r List.mem_cons_self).n6
  unfold edgesR at*
  rw[List.flatMap_cons]
  refine⟨by rw[List.length_append,k1,List.length_cons];omega,fun f hf=>?_⟩
  rcases List.mem_append.1 hf with hf|hf
  ·exact k2 f hf
  ·exact h2 f hf
def orientQ(a b c:PtQ):Int:=(PtQ.cross (movQ b a (-1)) (movQ c a (-1))).num.sign
def wndQ(v w p:PtQ):Int:=
 (if rcmp v.y p.y≤0∧ ¬rcmp w.y p.y≤0∧0<orientQ v w p then 1 else 0)-(if¬rcmp v.y p.y≤0∧rcmp w.y p.y≤0∧orientQ v w p<0 then 1 else 0)
def numN(r:List ZP)(p:PtQ):Nat→Int
 |0=>0
 |k+1=>numN r p k+wndQ (r.getD k (0,0)).q (nextZ r k).q p
def numZ(r:List ZP)(p:PtQ):Int:=numN r p r.length
def accQ(fill n:Int):Bool:=(decide (fill=1)&&decide (n.tmod 2≠0))||(decide (fill=2)&&decide (n≠0))
def inR(rs:List (List ZP))(fill:Int)(p:PtQ):Bool:=accQ fill (rs.foldl (fun n r=>n+numZ r p) 0)
def rawR(rs:List (List ZP))(fill:Int):Tr:=rawT (inR rs fill) (edgesR rs).length (edgesR rs) []
def buildR(rs:List (List ZP))(fill:Int):Tr:=(rawR rs fill).restrict []
structure TrOk (k:Nat) (t:Tr):Prop where
 gd:t.gd
 dp:t.depth≤k
 am: ∃K:List LnQ,K.length≤k∧(∀l∈K,l.ok)∧Among K t
theorem raw_ok{acc:PtQ→Bool}{n:Nat}{l:List FrQ}(h: ∀f∈l,FOk f)(hn:l.length=n):TrOk n (rawT acc n l []):=
 ⟨⟨rawT_all fun f hf=>(h f hf).lb,rawT_all fun f hf=>(h f hf).ok⟩,rawT_depth,l.map (·.l),by rw[List.length_map,hn];exact Nat.le_refl _,fun m hm=>by
  obtain⟨f,hf,rfl⟩:=List.mem_map.1 hm;exact(h f hf).ok,rawT_all fun f hf=>⟨f.l,List.mem_map_of_mem hf, .inl rfl⟩⟩
theorem TrOk.restrict{k:Nat}{t:Tr}(h:TrOk k t)(c:CellQ):TrOk k (t.restrict c):=by
 obtain⟨K,h1,h2,h3⟩:=h.am
 exact⟨restrict_gd h.gd c,Nat.le_trans (t.restrict_depth c) h.dp,K,h1,h2,h3.restrict c⟩
theorem TrOk.compl{k:Nat}{t:Tr}(h:TrOk k t):TrOk k t.compl:=by
 obtain⟨K,h1,h2,h3⟩:=h.am
 exact⟨compl_gd h.gd,by rw[t.compl_depth];exact h.dp,K,h1,h2,h3.compl⟩
theorem TrOk.mono{j k:Nat}{t:Tr}(h:TrOk j t)(hk:j≤k):TrOk k t:=by
 obtain⟨K,h1,h2,h3⟩:=h.am
 exact⟨h.gd,Nat.le_trans h.dp hk,K,by omega,h2,h3⟩
theorem TrOk.merge{j k:Nat}{op:Int}{t u:Tr}(h:TrOk j t)(hu:TrOk k u):TrOk (j+k) (t.mergeQ op u []):=by
 obtain⟨K,h1,h2,h3⟩:=h.am
 obtain⟨M,k1,k2,k3⟩:=hu.am
 refine⟨⟨Tr.mergeQ_all LB op hu.gd.lb t [] h.gd.lb,Tr.mergeQ_all LnQ.ok op hu.gd.ok t [] h.gd.ok⟩,Nat.le_trans (Tr.mergeQ_depth op u t []) (by have:=h.dp;have:=hu.dp;omega),K++M,by rw[List.length_append];omega,fun l hl=>(List.mem_append.1 hl).elim (h2 l) (k2 l),?_⟩
 exact(h3.mono fun l hl=>⟨l,List.mem_append_left _ hl, .inl rfl⟩).merge (k3.mono fun l hl=>⟨l,List.mem_append_right _ hl, .inl rfl⟩) []
theorem TrOk.merge_size{j k:Nat}{op:Int}{t u:Tr}(h:TrOk j t)(hu:TrOk k u):(t.mergeQ op u []).size≤(j+k)*(1+(j+k)):=by
 obtain⟨K,h1,h2,h3⟩:=h.am
 obtain⟨M,k1,k2,k3⟩:=hu.am
 have hle:(K++M).length≤j+k:=by rw[List.length_append];omega
 refine Nat.le_trans (Tr.merge_size (K:=K++M) (op:=op) (fun l hl=>(List.mem_append.1 hl).elim (h2 l) (k2 l)) h.gd.ok hu.gd.ok (h3.mono fun l hl=>⟨l,List.mem_append_left _ hl, .inl rfl⟩) (k3.mono fun l hl=>⟨l,List.mem_append_right _ hl, .inl rfl⟩)) ?_
 exact Nat.mul_le_mul hle (by omega)
theorem TrOk.lim{j k:Nat}{op:Int}{t u:Tr}(h:TrOk j t)(hu:TrOk k u)(hk:j+k≤200):limQ op t u=some (t.mergeQ op u []):=
 limQ_some (by have:=h.dp;have:=hu.dp;omega) (Nat.le_trans (h.merge_size hu) (Nat.le_trans (Nat.mul_le_mul hk (show 1+(j+k)≤201 by omega)) (by decide)))
theorem build_ok{rs:List (List ZP)}{fill:Int}(h: ∀r∈rs,RingOk r)(hn:rs.length≤3):TrOk 18 (buildR rs fill):=by
 obtain⟨h1,h2⟩:=edgesR_ok h
 exact((raw_ok (acc:=inR rs fill) h2 rfl).restrict []).mono (by omega)
end Go.Sx
end

section
set_option maxRecDepth 100000
namespace Go.Sx
open Go Go.Proofs
def cmpZ(p q:ZP):Int:=if p.1<q.1 then-1 else if q.1<p.1 then 1 else if p.2<q.2 then-1 else if q.2<p.2 then 1 else 0
def insZ(x:ZP):List ZP→List ZP
 |[]=>[x]
 |u::t=>if cmpZ u x<0 then u::insZ x t else if cmpZ u x=0 then u::t else x::u::t
def sortZ(l:List ZP):List ZP:=l.foldl (fun out x=>insZ x out) []
theorem insZ_len{x:ZP}: ∀{l:List ZP},(insZ x l).length≤l.length+1
 |[]=>Nat.le_refl _
 |u::t=>by
  rw[insZ]
  have:=insZ_len (x:=x) (l:=t)
  split
  ·simp;omega
  ·split<;>simp
theorem sortZ_len(l:List ZP):(sortZ l).length≤l.length:=by
 have key: ∀(l o:List ZP),(l.foldl (fun out x=>insZ x out) o).length≤l.length+o.length:=by
  intro l
  induction l with
  |nil=>intro o;simp
  |cons x t ih=>intro o;have:=ih (insZ x o);have:=insZ_len (x:=x) (l:=o);simp only[List.foldl_cons,List.length_cons];omega
 have:=key l []
 simpa[sortZ] using this
def squareZ(a b c d:Int):List ZP:=[(a,b),(c,b),(c,d),(a,d)]
theorem nextZ_eq{r:List ZP}{i:Nat}(h:i+1<r.length):nextZ r i=r.getD (i+1) (0,0):=by unfold nextZ;rw[Nat.mod_eq_of_lt h]
theorem nextZ_last{r:List ZP}{i:Nat}(h:i+1=r.length):nextZ r i=r.getD 0 (0,0):=by unfold nextZ;rw[h,Nat.mod_self]
theorem square_ok{a b c d:Int}(h1:a.natAbs≤50)(h2:b.natAbs≤50)(h3:c.natAbs≤50)(h4:d.natAbs≤50)(h5:a<c)(h6:b<d):RingOk (squareZ a b c d):=by
 refine⟨by simp[squareZ],by simp[squareZ],fun p hp=>?_,fun i hi=>?_⟩
 ·simp only[squareZ,List.mem_cons,List.not_mem_nil,or_false] at hp
  rcases hp with rfl|rfl|rfl|rfl<;>exact⟨by dsimp only;omega,by dsimp only;omega⟩
 ·have:i=0∨i=1∨i=2∨i=3:=by simp[squareZ] at hi;omega
  rcases this with rfl|rfl|rfl|rfl<;>simp[squareZ,nextZ]<;>omega
def triZ(p u v:ZP):List ZP:=[p,addZ p u,addZ p v]
theorem tri_ok{p u v:ZP}(h1:ZP.le 40 p)(h2:ZP.le 40 u)(h3:ZP.le 40 v)(h:crossZ u v≠0):RingOk (triZ p u v):=by
 obtain⟨p1,p2⟩:=p
 obtain⟨u1,u2⟩:=u
 obtain⟨v1,v2⟩:=v
 unfold ZP.le at h1 h2 h3
 dsimp only at h1 h2 h3
 unfold crossZ at h
 dsimp only at h
 refine⟨by simp[triZ],by simp[triZ],fun p hp=>?_,fun i hi=>?_⟩
 ·simp only[triZ,addZ,List.mem_cons,List.not_mem_nil,or_false] at hp
  rcases hp with rfl|rfl|rfl<;>exact⟨by dsimp only;omega,by dsimp only;omega⟩
 ·have:i=0∨i=1∨i=2:=by simp[triZ] at hi;omega
  have hu: ¬(u1=0∧u2=0):=fun e=>h (by rw[e.1,e.2];simp)
  have hv: ¬(v1=0∧v2=0):=fun e=>h (by rw[e.1,e.2];simp)
  have huv: ¬(u1=v1∧u2=v2):=fun e=>h (by rw[e.1,e.2,Int.mul_comm];omega)
  rcases this with rfl|rfl|rfl<;>simp[triZ,addZ,nextZ]<;>omega
def ptsF(es:List Int):Nat→Nat→List ZP→List ZP×Nat
 |0,a,out=>(out,a)
 |n+1,a,out=>ptsF es n (pF es a).2 (if out.getLast? =some (pF es a).1 then out else out++[(pF es a).1])
structure Adj (r:List ZP):Prop where
 ne: ∀i,i+1<r.length→r.getD i (0,0)≠r.getD (i+1) (0,0)
 le: ∀p∈r,ZP.le 100 p
theorem Adj.snoc{r:List ZP}{p:ZP}(h:Adj r)(hp:ZP.le 100 p)(hl:r.getLast? ≠some p):Adj (r++[p]):=by
 refine⟨fun i hi=>?_,fun q hq=>?_⟩
 ·rw[List.length_append,List.length_singleton] at hi
  rw[List.getD_eq_getElem?_getD,List.getD_eq_getElem?_getD]
  by_cases h1:i+1<r.length
  ·rw[List.getElem?_append_left (by omega),List.getElem?_append_left h1]
   have:=h.ne i h1
   rwa [List.getD_eq_getElem?_getD,List.getD_eq_getElem?_getD] at this
  ·have e:i+1=r.length:=by omega
   rw[List.getElem?_append_left (by omega),e,List.getElem?_append_right (Nat.le_refl _),Nat.sub_self]
   rw[List.getLast?_eq_getElem?,←e,Nat.add_sub_cancel] at hl
   rw[List.getElem?_eq_getElem (by omega)] at hl⊢
   intro c
   exact hl (by simpa using c)
 ·rcases List.mem_append.1 hq with hq|hq
  ·exact h.le q hq
  ·rw[List.mem_singleton] at hq;subst hq;exact hp
theorem ptsF_ok{es:List Int}: ∀{n a:Nat} {out:List ZP},a≤es.length→Adj out→Adj (ptsF es n a out).1∧(ptsF es n a out).1.length≤out.length+n∧(ptsF es n a out).2≤es.length
 |0,a,out,ha,h=>⟨h,Nat.le_refl _,ha⟩
 |n+1,a,out,ha,h=>by
  obtain⟨h1,h2,h3⟩:=pF_ok ha
  rw[ptsF]
  by_cases hl:out.getLast? =some (pF es a).1
  ·rw[if_pos hl]
   obtain⟨k1,k2,k3⟩:=ptsF_ok (n:=n) h3 h
   exact⟨k1,by omega,k3⟩
  ·rw[if_neg hl]
   obtain⟨k1,k2,k3⟩:=ptsF_ok (n:=n) h3 (h.snoc (p:=(pF es a).1) ⟨by omega,by omega⟩ hl)
   rw[List.length_append,List.length_singleton] at k2
   exact⟨k1,by omega,k3⟩
def trimZ:Nat→List ZP→List ZP
 |0,l=>l
 |n+1,l=>if 1<l.length∧l.getD 0 (0,0)=l.getD (l.length-1) (0,0) then trimZ n l.dropLast else l
theorem Adj.drop{r:List ZP}(h:Adj r):Adj r.dropLast:=by
 refine⟨fun i hi=>?_,fun p hp=>h.le p ((List.dropLast_sublist _).subset hp)⟩
 rw[List.length_dropLast] at hi
 have:=h.ne i (by omega)
 rw[List.getD_eq_getElem?_getD,List.getD_eq_getElem?_getD] at this⊢
 rw[List.getElem?_dropLast,List.getElem?_dropLast,if_pos (by omega),if_pos (by omega)]
 exact this
theorem trimZ_ok: ∀{n:Nat} {l:List ZP},Adj l→l.length≤n+1→Adj (trimZ n l)∧(trimZ n l).length≤l.length∧(1<(trimZ n l).length→(trimZ n l).getD 0 (0,0)≠(trimZ n l).getD ((trimZ n l).length-1) (0,0))
 |0,l,h,hn=>⟨h,Nat.le_refl _,fun k=>absurd k (by unfold trimZ;omega)⟩
 |n+1,l,h,hn=>by
  rw[trimZ]
  split
  ·obtain⟨h1,h2,h3⟩:=trimZ_ok (n:=n) h.drop (by rw[List.length_dropLast];omega)
   rw[List.length_dropLast] at h2
   exact⟨h1,by omega,h3⟩
  ·rename_i hc
   exact⟨h,Nat.le_refl _,fun k e=>hc ⟨k,e⟩⟩
theorem ring_of{r:List ZP}(h:Adj r)(h6:r.length≤6)(hc:1<r.length→r.getD 0 (0,0)≠r.getD (r.length-1) (0,0))(h3:3≤(sortZ r).length):RingOk r:=by
 have:=sortZ_len r
 refine⟨by omega,h6,h.le,fun i hi=>?_⟩
 by_cases h1:i+1<r.length
 ·rw[nextZ_eq h1];exact h.ne i h1
 ·have e:i+1=r.length:=by omega
  rw[nextZ_last e]
  have:=hc (by omega)
  rw[show i=r.length-1 by omega]
  exact fun k=>this k.symm
def tri0:List ZP:=[(0,0),(2,0),(0,2)]
theorem tri0_ok:RingOk tri0:=⟨by decide,by decide,fun p hp=>by
  simp only[tri0,List.mem_cons,List.not_mem_nil,or_false] at hp
  rcases hp with rfl|rfl|rfl<;>exact⟨by decide,by decide⟩,fun i hi=>by
  have:i=0∨i=1∨i=2:=by simp[tri0] at hi;omega
  rcases this with rfl|rfl|rfl<;>decide⟩
def genF(es:List Int)(a:Nat):List ZP×Nat:=
 ((if(sortZ (trimZ 6 (ptsF es (3+(nextF es 4 a).1) (nextF es 4 a).2 []).1)).length<3 then tri0 else trimZ 6 (ptsF es (3+(nextF es 4 a).1) (nextF es 4 a).2 []).1),(ptsF es (3+(nextF es 4 a).1) (nextF es 4 a).2 []).2)
theorem Adj.nil:Adj []:=⟨fun i hi=>by simp at hi,fun p hp=>by cases hp⟩
theorem genF_ok{es:List Int}{a:Nat}(ha:a≤es.length):RingOk (genF es a).1∧(genF es a).2≤es.length:=by
 have h1:=nextF_lt (es:=es) (n:=4) (a:=a) (by decide)
 obtain⟨k1,k2,k3⟩:=ptsF_ok (n:=3+(nextF es 4 a).1) (nextF_le (n:=4) ha) Adj.nil
 obtain⟨t1,t2,t3⟩:=trimZ_ok (n:=6) k1 (by simp at k2;omega)
 refine⟨?_,k3⟩
 unfold genF
 dsimp only
 split
 ·exact tri0_ok
 ·exact ring_of t1 (by simp at k2;omega) t3 (by omega)
def sqF(es:List Int)(n m k:Int)(a:Nat):List ZP×Nat:=
 let x:=nextF es n a
 let y:=nextF es n x.2
 let z:=nextF es m y.2
 let w:=nextF es m z.2
 (squareZ ((x.1:Int)-k) ((y.1:Int)-k) ((x.1:Int)-k+1+z.1) ((y.1:Int)-k+1+w.1),w.2)
theorem sqF_ok{es:List Int}{n m k:Int}{a:Nat}(ha:a≤es.length)(hn:1≤n)(hn2:n≤10)(hm:1≤m)(hm2:m≤10)(hk:0≤k)(hk2:k≤10):RingOk (sqF es n m k a).1∧(sqF es n m k a).2≤es.length:=by
 have h1:=nextF_lt (es:=es) (a:=a) hn
 have h2:=nextF_lt (es:=es) (a:=(nextF es n a).2) hn
 have h3:=nextF_lt (es:=es) (a:=(nextF es n (nextF es n a).2).2) hm
 have h4:=nextF_lt (es:=es) (a:=(nextF es m (nextF es n (nextF es n a).2).2).2) hm
 exact⟨square_ok (by omega) (by omega) (by omega) (by omega) (by omega) (by omega),nextF_le (nextF_le (nextF_le (nextF_le ha)))⟩
def ringF(es:List Int)(a:Nat):List ZP×Nat:=
 let k:=nextF es 4 a
 if(k.1:Int)=0 then sqF es 5 4 4 k.2
 else if(k.1:Int)=1 then
  let p:=pF es k.2
  let u:=vF es p.2
  let v:=vF es u.2
  if crossZ u.1 v.1≠0 then(triZ p.1 u.1 v.1,v.2) else genF es v.2
 else genF es k.2
theorem ringF_ok{es:List Int}{a:Nat}(ha:a≤es.length):RingOk (ringF es a).1∧(ringF es a).2≤es.length:=by
 have h0:=nextF_le (n:=4) ha
 unfold ringF
 dsimp only
 split
 ·exact sqF_ok h0 (by decide) (by decide) (by decide) (by decide) (by decide) (by decide)
 ·split
  ·obtain⟨p1,p2,p3⟩:=pF_ok h0
   obtain⟨u1,u2,u3,u4⟩:=vF_ok p3
   obtain⟨v1,v2,v3,v4⟩:=vF_ok u4
   split
   ·rename_i hc
    exact⟨tri_ok ⟨by omega,by omega⟩ ⟨by omega,by omega⟩ ⟨by omega,by omega⟩ hc,v4⟩
   ·exact genF_ok v4
  ·exact genF_ok h0
def tri1:List ZP:=[(0,0),(1,0),(0,1)]
def convexF(es:List Int)(a:Nat):List ZP×Nat:=
 let k:=nextF es 2 a
 if(k.1:Int)=0 then sqF es 3 2 1 k.2
 else
  let x:=nextF es 3 k.2
  let y:=nextF es 3 x.2
  let u1:=nextF es 2 y.2
  let u2:=nextF es 3 u1.2
  let v1:=nextF es 3 u2.2
  let v2:=nextF es 2 v1.2
  (if 0<crossZ (1+(u1.1:Int),(u2.1:Int)-1) ((v1.1:Int)-1,1+(v2.1:Int)) then triZ ((x.1:Int)-1,(y.1:Int)-1) (1+(u1.1:Int),(u2.1:Int)-1) ((v1.1:Int)-1,1+(v2.1:Int)) else tri1,v2.2)
def boundF(es:List Int)(a:Nat):Tr×Nat:=
 let r:=ringF es a
 let k:=nextF es 3 r.2
 if(k.1:Int)=0 then
  let s:=ringF es k.2
  let f:=nextF es 2 s.2
  (buildR [r.1,s.1] (1+(f.1:Int)),f.2)
 else
  let f:=nextF es 2 k.2
  (buildR [r.1] (1+(f.1:Int)),f.2)
theorem boundF_ok{es:List Int}{a:Nat}(ha:a≤es.length):TrOk 18 (boundF es a).1∧(boundF es a).2≤es.length:=by
 obtain⟨r1,r2⟩:=ringF_ok ha
 have h3:=nextF_le (n:=3) r2
 unfold boundF
 dsimp only
 split
 ·obtain⟨s1,s2⟩:=ringF_ok h3
  exact⟨build_ok (fun r hr=>by simp only[List.mem_cons,List.not_mem_nil,or_false] at hr;rcases hr with rfl|rfl;exact r1;exact s1) (by simp),nextF_le s2⟩
 ·exact⟨build_ok (fun r hr=>by simp only[List.mem_cons,List.not_mem_nil,or_false] at hr;subst hr;exact r1) (by simp),nextF_le h3⟩
def halfT(l:LnQ):Tr:=(Tr.node l (.leaf true) (.leaf false)).restrict []
theorem lns_len: ∀t:Tr,t.lns.length=t.size
 | .leaf _=>rfl
 | .node l x y=>by rw[Tr.lns,List.length_cons,List.length_append,lns_len x,lns_len y,Tr.size];omega
theorem trOk_of{t:Tr}{k:Nat}(hb:t.all (fun l=>BL l 96))(ho:t.all LnQ.ok)(hs:t.size≤k):TrOk k t:=
 ⟨⟨lns_all.2 fun l hl=>⟨lns_all.1 hb l hl⟩,ho⟩,Nat.le_trans t.depth_size hs,t.lns,by rw[lns_len];exact hs,lns_ok ho,among_of fun l hl=>hl⟩
theorem tree_ok{es:List Int}{d a:Nat}(ha:a≤es.length)(hd:d≤4):TrOk 18 (treeF es d a).1∧(treeF es d a).2≤es.length:=by
 obtain⟨h1,h2,h3,h4⟩:=treeF_ok (d:=d) ha
 have h5:=Tr.size_lt (treeF es d a).1
 have h6:(2:Nat)^(treeF es d a).1.depth≤2^4:=Nat.pow_le_pow_right (by decide) (by omega)
 exact⟨trOk_of h3 h2 (by omega),h4⟩
theorem half_ok{l:LnQ}(h:LS l):TrOk 18 (halfT l):=
 (trOk_of (k:=18) (t:= .node l (.leaf true) (.leaf false)) ⟨h.bl,trivial,trivial⟩ ⟨h.ok,trivial,trivial⟩ (by simp[Tr.size])).restrict []
def regionF(es:List Int):Nat→Nat→Tr×Nat
 |0,a=>
  let k:=nextF es 6 a
  if(k.1:Int)=1 then(halfT (lF es k.2).1,(lF es k.2).2)
  else if(k.1:Int)=2 then((treeF es 3 k.2).1.restrict [],(treeF es 3 k.2).2)
  else if(k.1:Int)=3 then((boundF es k.2).1.compl,(boundF es k.2).2)
  else boundF es k.2
 |d+1,a=>
  let k:=nextF es 6 a
  if(k.1:Int)=0 then
   let x:=regionF es d k.2
   let o:=nextF es 4 x.2
   let y:=regionF es d o.2
   (x.1.mergeQ (1+(o.1:Int)) y.1 [],y.2)
  else if(k.1:Int)=1 then(halfT (lF es k.2).1,(lF es k.2).2)
  else if(k.1:Int)=2 then((treeF es 3 k.2).1.restrict [],(treeF es 3 k.2).2)
  else if(k.1:Int)=3 then((boundF es k.2).1.compl,(boundF es k.2).2)
  else boundF es k.2
theorem regionF_ok{es:List Int}: ∀{d a:Nat},a≤es.length→TrOk (18*2^d) (regionF es d a).1∧(regionF es d a).2≤es.length
 |0,a,ha=>by
  have h0:=nextF_le (n:=6) ha
  rw[regionF]
  try dsimp only
  split
  ·obtain⟨h1,h2⟩:=lF_ok h0;exact⟨half_ok h1,h2⟩
  ·split
   ·obtain⟨h1,h2⟩:=tree_ok (d:=3) h0 (by decide);exact⟨h1.restrict [],h2⟩
   ·split
    ·obtain⟨h1,h2⟩:=boundF_ok h0;exact⟨h1.compl,h2⟩
    ·exact boundF_ok h0
 |d+1,a,ha=>by
  have h0:=nextF_le (n:=6) ha
  have hp:18≤18*2^(d+1):=Nat.le_mul_of_pos_right _ (Nat.pow_pos (by decide))
  rw[regionF]
  try dsimp only
  split
  ·obtain⟨h1,h2⟩:=regionF_ok (d:=d) h0
   obtain⟨h3,h4⟩:=regionF_ok (d:=d) (nextF_le (n:=4) h2)
   exact⟨(h1.merge h3).mono (by rw[Nat.pow_succ];omega),h4⟩
  ·split
   ·obtain⟨h1,h2⟩:=lF_ok h0;exact⟨(half_ok h1).mono hp,h2⟩
   ·split
    ·obtain⟨h1,h2⟩:=tree_ok (d:=3) h0 (by decide);exact⟨(h1.restrict []).mono hp,h2⟩
    ·split
     ·obtain⟨h1,h2⟩:=boundF_ok h0;exact⟨h1.compl.mono hp,h2⟩
     ·obtain⟨h1,h2⟩:=boundF_ok h0;exact⟨h1.mono hp,h2⟩
def fewF(es:List Int)(a:Nat):Tr×Nat:=
 let k:=nextF es 4 a
 if(k.1:Int)=0 then(halfT (lF es k.2).1,(lF es k.2).2)
 else if(k.1:Int)=1 then((treeF es 2 k.2).1.restrict [],(treeF es 2 k.2).2)
 else(buildR [(convexF es k.2).1] 2,(convexF es k.2).2)
end Go.Sx
end

section
set_option maxRecDepth 100000
namespace Go.Sx
open Go
inductive OT where
 |z (π:List (Nat×Bool))
 |q (i:Nat) (t:OT)
 |a (i:Nat) (t:OT)
 |c (i:Nat) (t r:OT)
def OT.sz:OT→Nat
 | .z _=>0
 | .q _ t=>t.sz+1
 | .a _ t=>t.sz+1
 | .c _ t r=>t.sz+r.sz+1
def OT.d:OT→Nat
 | .z π=>π.length
 | .q _ t=>t.d+1
 | .a _ t=>t.d+1
 | .c _ t r=>Nat.max (t.d+1) r.d
section
variable {P:Program} {ops:Array Oper} {Q:Exit→Act→World→Prop} {S:World→Prop} {π₂:List (Nat×Bool)}
def dwN(P:Program)(ops:Array Oper)(Q:Exit→Act→World→Prop)(K:(World→Prop)→Act→World→Prop):List Nat→OT→(World→Prop)→Act→World→Prop
 |ks, .z π,S,a,w=>dwT P ops Q K ks π S a w
 |ks, .q i t,S,a,w=> ∃o v,ops[i]? =some o∧S w∧YieldsIf P ops S o v a∧dwN P ops Q K ks t S (a.put o.dst v) w
 |ks, .a i t,S,a,w=>wpOp P ops Q i (grS S (dwN P ops Q K ks t)) a w∧
   ∀j,(h:j∈ks)→wpOp P ops Q j (grS S (dwN P ops Q K (without ks j) (.a i t))) a w
 |ks, .c i t r,S,a,w=>wpOp P ops Q i (grS S (dwN P ops Q K ks t)) a w∧dwN P ops Q K ks r S a w∧
   ∀j,(h:j∈ks)→wpOp P ops Q j (grS S (dwN P ops Q K (without ks j) (.c i t r))) a w
termination_by ks t=>ks.length+t.sz
decreasing_by
 all_goals (first|(have:=without_lt h;simp only[OT.sz] at*;omega)|(simp only[OT.sz];omega))
def orderOkN(ops:Array Oper)(fin:Nat→Bool)(π₂:List (Nat×Bool)):Nat→Bool→List Nat→OT→Array Bool→List Nat→Bool
 |0,_,_,_,_,_=>false
 |n+1,false,ks, .z π,l,_=>orderOkG ops fin π₂ n ks π l
 |_+1,true,_, .z _,_,_=>false
 |n+1,false,ks, .q i t,l,_=>takeOk ops fin l i&&orderOkN ops fin π₂ n false ks t (l.setIfInBounds i true) []
 |_+1,true,_, .q _ _,_,_=>false
 |n+1,true,ks, .a i t,l,rs=>rs.all (fun j=>Nat.beq j i)&&orderOkN ops fin π₂ n false ks t (l.setIfInBounds i true) []
 |n+1,false,ks, .a i t,l,_=>!(Region.ready .any ops l).isEmpty&&(Region.ready .any ops l).all (fun j=>Nat.beq j i||ks.contains j)&&orderOkN ops fin π₂ n false ks t (l.setIfInBounds i true) []&&ks.all fun j=>orderOkN ops fin π₂ n false (without ks j) (.a i t) (l.setIfInBounds j true) []
 |n+1,true,ks, .c i t r,l,rs=>orderOkN ops fin π₂ n false ks t (l.setIfInBounds i true) []&&orderOkN ops fin π₂ n true ks r l (without rs i)
 |n+1,false,ks, .c i t r,l,_=>!(Region.ready .any ops l).isEmpty&&orderOkN ops fin π₂ n false ks t (l.setIfInBounds i true) []&&orderOkN ops fin π₂ n true ks r l (without ((Region.ready .any ops l).filter fun j=>!ks.contains j) i)&&ks.all fun j=>orderOkN ops fin π₂ n false (without ks j) (.c i t r) (l.setIfInBounds j true) []
end
section
variable {P:Program} {GB:Gh} {C:Ctx} {n:Nat} {fr fr':FrF} {own own' own0 own1 own1':List OwnD} {bs bs0 bs1 bs1':List BufD} {ops:Array Oper} {Q:Exit→Act→World→Prop} {fd:List FD} {π₂:List (Nat×Bool)} {t r:OT}
abbrev dnK (P:Program) (ops:Array Oper) (Q:Exit→Act→World→Prop) (K:(World→Prop)→Act→World→Prop) (t:OT):List Nat→(World→Prop)→Act→World→Prop:=fun ks S=>dwN P ops (NoPan Q) K ks t S
end
end Go.Sx
end

section
set_option maxRecDepth 100000
namespace Go.Sx
open Go Go.Proofs
theorem lb_app{c:List LnQ}{l:LnQ}(hc: ∀m∈c,LB m)(hl:LB l): ∀m∈c++[l],LB m:=by
 rw[List.forall_mem_append]
 exact⟨hc,by simpa using hl⟩
theorem LB.rev{l:LnQ}(h:LB l):LB l.rev:=⟨⟨by rw[show l.rev.a= -l.a from rfl,Int.natAbs_neg];exact h.bl.a,by rw[show l.rev.b= -l.b from rfl,Int.natAbs_neg];exact h.bl.b,by rw[show l.rev.c= -l.c from rfl,Int.natAbs_neg];exact h.bl.c⟩⟩
set_option maxHeartbeats 2000000 in
theorem q_Place{GB:Gh}{c:List LnQ}{l:LnQ}(hc: ∀m∈c,LB m)(hok: ∀m∈c,m.ok)(hn:c.length≤900)(hl:LB l)(hlo:l.ok):PF GB Tryz.prog 82 [.sl (c.map eL),eL l] (vI (placeL c l)):=by
 have hcl:=mapL_len c
 refine fn Tryz.func82 rfl rfl Tryz.ntmps82 rfl rfl (fun C=>?_)
 refine ro0 rfl rfl<|ap (c.map eL) rfl rfl (slOkL _) rfl<|rf rfl rfl<|apf ((c++[l]).map eL) rfl (by rw[List.map_append];rfl) (slOkL [l]) rfl<|?_
 refine cl rfl (q_Inner (c:=c++[l]) (lb_app hc hl) (ok_app hok hlo) (by simp;omega)) rfl<|ro0 rfl rfl<|ap (c.map eL) rfl rfl (slOkL _) rfl<|cl rfl (q_sRev (l:=l)) rfl<|?_
 refine rf rfl rfl<|apf ((c++[l.rev]).map eL) rfl (by rw[List.map_append];rfl) (slOkL [l.rev]) rfl<|cl rfl (q_Inner (c:=c++[l.rev]) (lb_app hc hl.rev) (ok_app hok hlo.rev) (by simp;omega)) rfl<|?_
 refine csb 31 rfl rfl rfl (fun hg31=>?_) (fun hg31=>?_)
 ·
  refine bb rfl rfl rfl (fun hc33=>?_) (fun hc33=>?_)
  ·
   exact rz rfl (by show vI 0=vI _;congr 1;unfold placeL;simp_all)
  ·
   refine bb rfl rfl rfl (fun hc34=>?_) (fun hc34=>?_)
   ·
    exact rz rfl (by show vI 1=vI _;congr 1;unfold placeL;simp_all)
   ·
    exact rz rfl (by simp[hg31] at hc34)
 ·
  refine bb rfl rfl rfl (fun hc34=>?_) (fun hc34=>?_)
  ·
   exact rz rfl (by simp[hg31] at hc34)
  ·
   exact rz rfl (by show vI (-1)=vI _;congr 1;unfold placeL;simp_all)
theorem takeWhile_len{α:Type}{p:α→Bool}: ∀{xs:List α} {n:Nat},n≤xs.length→(∀j (h:j<xs.length),j<n→p xs[j]=true)→(∀h:n<xs.length,p xs[n]=false)→(xs.takeWhile p).length=n
 |[],n,h,_,_=>by simp at h;subst h;rfl
 |x::xs,0,_,_,h3=>by
  have:=h3 (by simp)
  simp only[List.getElem_cons_zero] at this
  simp[List.takeWhile_cons,this]
 |x::xs,n+1,h1,h2,h3=>by
  have hx:=h2 0 (by simp) (by omega)
  simp only[List.getElem_cons_zero] at hx
  rw[List.takeWhile_cons,if_pos hx,List.length_cons]
  rw[takeWhile_len (n:=n) (by simpa using h1) (fun j h hj=>by have:=h2 (j+1) (by simpa using h) (by omega);simpa using this) (fun h=>by have:=h3 (by simpa using h);simpa using this)]
theorem angIdx_eq{xs:List LnQ}{l:LnQ}{n:Nat}(h1:n≤xs.length)(h2: ∀j (h:j<xs.length),j<n→angleQ xs[j].dir l.dir<0)(h3: ∀h:n<xs.length,¬angleQ xs[n].dir l.dir<0):angIdx xs l=n:=
 takeWhile_len h1 (fun j h hj=>decide_eq_true (h2 j h hj)) (fun h=>decide_eq_false (h3 h))
theorem canonIns_old{xs:List LnQ}{l:LnQ}{n:Nat}(hn:angIdx xs l=n)(h:n<xs.length)(e:xs[n]=l):canonIns xs l=xs:=by
 unfold canonIns;rw[hn,if_pos (by rw[List.getElem?_eq_getElem h,e])]
theorem canonIns_new{xs:List LnQ}{l:LnQ}{n:Nat}(hn:angIdx xs l=n)(h: ∀h:n<xs.length,xs[n]≠l):canonIns xs l=xs.take n++l::xs.drop n:=by
 unfold canonIns
 rw[hn,if_neg]
 intro e
 obtain⟨h1,h2⟩:=List.getElem?_eq_some_iff.1 e
 exact h h1 h2
theorem slOkLt(xs:List LnQ)(n:Nat):slOk 6 ((xs.map eL).take n):=fun d hd=>slOkL xs d (List.mem_of_mem_take hd)
theorem slOkLd(xs:List LnQ)(n m:Nat):slOk 6 (((xs.map eL).take n).drop m):=fun d hd=>slOkL xs d (List.mem_of_mem_take (List.mem_of_mem_drop hd))
theorem slOkLi(xs:List LnQ)(n m:Nat)(l:LnQ):slOk 6 ([eL l]++((xs.map eL).take n).drop m):=fun d hd=>by
 rcases List.mem_append.1 hd with h|h
 ·exact slOkL [l] d h
 ·exact slOkLd xs n m d h
structure Cst (c:List LnQ) (k:Nat) (xs:List LnQ):Prop where
 le:k≤c.length
 f:canonF c (c.drop k) xs=canonL c
 m: ∀m∈xs,m∈c
 n:xs.length≤k
theorem Cst.skip{c xs:List LnQ}{k:Nat}(h:Cst c k xs)(hk:k<c.length)(e:(partL c[k] c IvQ.all).isSome=false):Cst c (k+1) xs:=by
 have:=h.f
 rw[List.drop_eq_getElem_cons hk,canonF,e] at this
 exact⟨hk,this,h.m,by have:=h.n;omega⟩
theorem Cst.ins{c xs ys:List LnQ}{k:Nat}(h:Cst c k xs)(hk:k<c.length)(e:(partL c[k] c IvQ.all).isSome=true)(hy:canonIns xs c[k]=ys)(hl:ys.length≤xs.length+1):Cst c (k+1) ys:=by
 have:=h.f
 rw[List.drop_eq_getElem_cons hk,canonF,e,if_pos rfl,hy] at this
 refine⟨hk,this,fun m hm=>?_,by have:=h.n;omega⟩
 rw[←hy] at hm
 rcases mem_canonIns.1 hm with rfl|hm
 ·exact List.getElem_mem hk
 ·exact h.m m hm
theorem Cst.done{c xs:List LnQ}{k:Nat}(h:Cst c k xs)(hk:k=c.length):canonL c=xs:=by
 have:=h.f
 rw[hk,List.drop_length,canonF] at this
 exact this.symm
def canonB(c:List LnQ):Bool:=if(((c.map eL).length:Nat):Int)=0 then true else decide ((0:Int)<((((canonL c).map eL).length:Nat):Int))
theorem Cst.nil(c:List LnQ):Cst c 0 []:=⟨Nat.zero_le _,rfl,fun m hm=>absurd hm (by simp),Nat.le_refl _⟩
set_option maxHeartbeats 4000000 in
theorem q_Canon{GB:Gh}{c:List LnQ}(hc: ∀m∈c,LB m)(hok: ∀m∈c,m.ok)(hn:c.length≤1000):PF GB Tryz.prog 140 [.sl (c.map eL)] (.tp [.sl ((canonL c).map eL),vB (canonB c)]):=by
 have hcl:=mapL_len c
 refine fn (fu:=⟨16⟩) Tryz.func140 rfl rfl Tryz.ntmps140 rfl rfl (fun C=>?_)
 refine eqF 11 (.d (vI (c.length:Nat))) rfl (by rw[hcl];rfl) ?_
 refine gx rfl<|?_
 refine nlC 4 rfl ?_
 refine lp (X:=List LnQ×Nat) (fun⟨xs,k⟩=>[(12, .d (vI (k:Nat))),(11, .d (vI (c.length:Nat))),(10, .d (.sl (c.map eL))),(0, .d (.sl (c.map eL))),(4, .d (.sl (xs.map eL)))]) (fun⟨xs,k⟩=>[]) (fun⟨xs,k⟩=>Cst c k xs) (fun⟨xs,k⟩=>c.length-k) ⟨[],0⟩ rfl (Cst.nil c) (fun _=>rfl) (fun⟨xs,k⟩ hk=>?_)
 try dsimp only at hk⊢
 have hS:=hk
 refine br rfl rfl rfl (fun hc13=>?_) (fun hc13=>?_)
 ·
  have hk:k<c.length:=by omega
  obtain⟨m,hm⟩: ∃m,m=c[k]:=⟨_,rfl⟩
  haveI hmb:LB m:=hm▸hc _ (List.getElem_mem hk)
  have hmo:m.ok:=hm▸hok _ (List.getElem_mem hk)
  have hxl:=mapL_len xs
  have hxn:=hS.n
  refine ix (fu:=⟨1⟩) _ rfl (mapL_get hk) rfl<|?_
  refine eqF 16 (.d (eL m)) rfl (by rw[hm];rfl) ?_
  refine gx rfl<|cl rfl (q_edge hc hok hn hk) rfl<|?_
  refine bb (fu2:=⟨8⟩) rfl rfl rfl (fun hc24=>?_) (fun hc24=>?_)
  ·
   have hinv:Cst c (k+1) xs:=hS.skip hk (by rw[←edgeV_snd];simpa using hc24)
   exact at_ ⟨xs,k+1⟩ (by dsimp only;exact⟨hinv,(by omega)⟩)
  ·
   have hyes:(partL c[k] c IvQ.all).isSome=true:=by rw[←edgeV_snd];simpa using hc24
   refine mg (fu:=⟨6⟩) (X:=Unit) (fun _=>[(12, .d (vI (k:Nat))),(11, .d (vI (c.length:Nat))),(10, .d (.sl (c.map eL))),(0, .d (.sl (c.map eL))),(4, .d (.sl (xs.map eL))),(6, .ov 6 0),(9, .d (vI (angIdx xs m:Nat)))]) (fun _=>[(6,some (.o 46 [.d ((.v (.bool (decide (m.a<0))))), .d (dN m.a.natAbs), .d ((.v (.bool (decide (m.b<0))))), .d (dN m.b.natAbs), .d ((.v (.bool (decide (m.c<0))))), .d (dN m.c.natAbs)] true))]) (fun _=>True) [12,11,10,0,4,6,9] [6] rfl ?_ (fun _=>rfl) (fun _ _=>?_)
   ·
    refine gx rfl<|?_
    refine lp (fu:=⟨6⟩) (X:=Nat) (fun n=>[(12, .d (vI (k:Nat))),(11, .d (vI (c.length:Nat))),(10, .d (.sl (c.map eL))),(0, .d (.sl (c.map eL))),(4, .d (.sl (xs.map eL))),(6, .ov 6 0),(9, .d (vI (n:Nat)))]) (fun n=>[(6,some (.o 46 [.d ((.v (.bool (decide (m.a<0))))), .d (dN m.a.natAbs), .d ((.v (.bool (decide (m.b<0))))), .d (dN m.b.natAbs), .d ((.v (.bool (decide (m.c<0))))), .d (dN m.c.natAbs)] true))]) (fun n=>n≤xs.length∧ ∀j (h:j<xs.length),j<n→angleQ xs[j].dir m.dir<0) (fun n=>xs.length-n) 0 rfl ⟨Nat.zero_le _,fun j _ hj=>absurd hj (by omega)⟩ (fun _=>rfl) (fun n hk=>?_)
    obtain⟨n1,n2⟩:=hk
    refine csS rfl rfl rfl rfl (fun hg28=>?_) (fun hg28=>?_)
    ·
     refine ix _ rfl (mapL_get (by omega)) rfl<|?_
     haveI:LB (xs[n]'(by omega)):=hc _ (hS.m _ (List.getElem_mem _))
     refine cl rfl (q_Dir (l:=xs[n]'(by omega))) rfl<|cl rfl (q_Dir (l:=m)) rfl<|cl rfl (q_Angle (u:=(xs[n]'(by omega)).dir) (v:=m.dir)) rfl<|?_
     refine br rfl rfl rfl (fun hc39=>?_) (fun hc39=>?_)
     ·
      exact at_ (n+1) ⟨⟨by omega,fun j h hj=>by by_cases q:j=n;(subst q;exact hc39);exact n2 j h (by omega)⟩,(by omega)⟩
     ·
      have hidx:angIdx xs m=n:=angIdx_eq n1 n2 (fun h=>hc39)
      exact at_ () trivial
    ·
     have hidx:angIdx xs m=n:=angIdx_eq n1 n2 (fun h=>absurd h (by omega))
     exact at_ () trivial
   ·
    obtain⟨n,hnx⟩: ∃n,angIdx xs m=n:=⟨_,rfl⟩
    rw[hnx]
    have hnl:n≤xs.length:=by rw[←hnx];unfold angIdx;exact(List.takeWhile_sublist _).length_le
    have hcb: ∀m∈xs,LB m:=fun m hm=>hc m (hS.m m hm)
    refine csS rfl rfl rfl rfl (fun hg45=>?_) (fun hg45=>?_)
    ·
     refine ix _ rfl (mapL_get (by omega)) rfl<|cl rfl (q_LCmp (l:=xs[n]'(by omega)) (m:=m) (hl:=hcb _ (List.getElem_mem (by omega)))) rfl<|?_
     refine br rfl rfl rfl (fun hc54=>?_) (fun hc54=>?_)
     ·
      have hn46:n<xs.length:=by omega
      have hinv:Cst c (k+1) xs:=hS.ins hk hyes (by rw[←hm];exact canonIns_old hnx hn46 ((lcmp_zero _ m).1 hc54)) (by omega)
      exact at_ ⟨xs,k+1⟩ (by dsimp only;exact⟨hinv,(by omega)⟩)
     ·
      have hnew: ∀h:n<xs.length,xs[n]≠m:=fun h e=>hc54 ((lcmp_zero _ m).2 e)
      obtain⟨ys,hys⟩: ∃ys,ys=xs.take n++m::xs.drop n:=⟨_,rfl⟩
      have hinv:Cst c (k+1) ys:=hS.ins hk hyes (by rw[←hm,canonIns_new hnx hnew,hys]) (by rw[hys];simp;omega)
      refine s3 n _ rfl rfl rfl rfl (slOkL _) (by rw[hxl];exact hnl) rfl<|ro rfl rfl<|sc' n xs.length _ rfl rfl (by rw[hxl]) rfl (slOkL _) hnl (by omega) rfl<|?_
      refine ap _ rfl rfl (slOkLd _ _ _) rfl<|apf (hv:=by simp only[allP];exact⟨by kernel_rfl,by omega⟩) (ho:=fun _=>⟨slOkLt _ _,by simp⟩) (ys.map eL) rfl (by rw[hys,List.map_append,List.map_cons,List.map_take,List.map_drop,List.take_of_length_le (l:=xs.map eL) (i:=xs.length) (by simp)];rfl) (slOkLi _ _ _ _) rfl<|?_
      exact at_ ⟨ys,k+1⟩ (by dsimp only;exact⟨hinv,(by omega)⟩)
    ·
     have hnew: ∀h:n<xs.length,xs[n]≠m:=fun h=>absurd h (by omega)
     obtain⟨ys,hys⟩: ∃ys,ys=xs.take n++m::xs.drop n:=⟨_,rfl⟩
     have hinv:Cst c (k+1) ys:=hS.ins hk hyes (by rw[←hm,canonIns_new hnx hnew,hys]) (by rw[hys];simp;omega)
     refine s3 n _ rfl rfl rfl rfl (slOkL _) (by rw[hxl];exact hnl) rfl<|ro rfl rfl<|sc' n xs.length _ rfl rfl (by rw[hxl]) rfl (slOkL _) hnl (by omega) rfl<|?_
     refine ap _ rfl rfl (slOkLd _ _ _) rfl<|apf (hv:=by simp only[allP];exact⟨by kernel_rfl,by omega⟩) (ho:=fun _=>⟨slOkLt _ _,by simp⟩) (ys.map eL) rfl (by rw[hys,List.map_append,List.map_cons,List.map_take,List.map_drop,List.take_of_length_le (l:=xs.map eL) (i:=xs.length) (by simp)];rfl) (slOkLi _ _ _ _) rfl<|?_
     exact at_ ⟨ys,k+1⟩ (by dsimp only;exact⟨hinv,(by omega)⟩)
 ·
  have hfin:canonL c=xs:=hS.done (by have:=hS.le;omega)
  refine cs 71 rfl rfl rfl (fun hg71=>?_) (fun hg71=>?_)
  ·
   exact rz rfl (by rw[canonB,if_pos hg71,hfin];rfl)
  ·
   exact rz rfl (by rw[canonB,if_neg hg71,hfin];rfl)
end Go.Sx
end

section
set_option maxRecDepth 100000
namespace Go.Sx
open Go Go.Proofs
section
variable {α:Type} (c:α→α→Int)
def insG(x:α):List α→List α
 |[]=>[x]
 |u::t=>if c u x<0 then u::insG x t else if c u x=0 then u::t else x::u::t
def idxG(x:α)(xs:List α):Nat:=(xs.takeWhile fun u=>decide (c u x<0)).length
theorem idxG_le(x:α)(xs:List α):idxG c x xs≤xs.length:=(List.takeWhile_sublist _).length_le
theorem idxG_eq{x:α}{xs:List α}{n:Nat}(h1:n≤xs.length)(h2: ∀j (h:j<xs.length),j<n→c xs[j] x<0)(h3: ∀h:n<xs.length,¬c xs[n] x<0):idxG c x xs=n:=
 takeWhile_len h1 (fun j h hj=>decide_eq_true (h2 j h hj)) (fun h=>decide_eq_false (h3 h))
theorem insG_old{x:α}: ∀{xs:List α} {n:Nat},idxG c x xs=n→(h:n<xs.length)→c xs[n] x=0→insG c x xs=xs
 |[],n,_,h,_=>by simp at h
 |u::t,n,hn,h,e=>by
  rw[insG]
  unfold idxG at hn
  rw[List.takeWhile_cons] at hn
  by_cases hu:c u x<0
  ·rw[if_pos hu]
   rw[if_pos (by simpa using hu)] at hn
   obtain⟨k,rfl⟩: ∃k,n=k+1:=⟨n-1,by simp at hn;omega⟩
   rw[insG_old (xs:=t) (n:=k) (by unfold idxG;simpa using hn) (by simpa using h) (by simpa using e)]
  ·rw[if_neg (by simpa using hu)] at hn
   simp at hn;subst hn
   rw[if_neg hu,if_pos (by simpa using e)]
theorem insG_new{x:α}: ∀{xs:List α} {n:Nat},idxG c x xs=n→(∀h:n<xs.length,c xs[n] x≠0)→insG c x xs=xs.take n++x::xs.drop n
 |[],n,hn,_=>by simp[idxG] at hn;subst hn;rfl
 |u::t,n,hn,e=>by
  rw[insG]
  unfold idxG at hn
  rw[List.takeWhile_cons] at hn
  by_cases hu:c u x<0
  ·rw[if_pos hu]
   rw[if_pos (by simpa using hu)] at hn
   obtain⟨k,rfl⟩: ∃k,n=k+1:=⟨n-1,by simp at hn;omega⟩
   rw[insG_new (xs:=t) (n:=k) (by unfold idxG;simpa using hn) (fun h=>by have:=e (by simpa using h);simpa using this)]
   simp
  ·rw[if_neg (by simpa using hu)] at hn
   simp at hn;subst hn
   have:=e (by simp)
   rw[if_neg hu,if_neg (by simpa using this)];rfl
theorem insG_len(x:α): ∀(xs:List α),(insG c x xs).length≤xs.length+1
 |[]=>Nat.le_refl _
 |u::t=>by
  have:=insG_len x t
  rw[insG]
  split
  ·simp;omega
  ·split<;>simp
theorem mem_insG{x y:α}: ∀{xs:List α},y∈insG c x xs→y=x∨y∈xs
 |[],h=>by rw[insG,List.mem_singleton] at h;exact .inl h
 |u::t,h=>by
  rw[insG] at h
  split at h
  ·rcases List.mem_cons.1 h with rfl|h
   ·exact .inr List.mem_cons_self
   ·rcases mem_insG h with h|h
    ·exact .inl h
    ·exact .inr (List.mem_cons_of_mem _ h)
  ·split at h
   ·exact .inr h
   ·rcases List.mem_cons.1 h with rfl|h
    ·exact .inl rfl
    ·exact .inr h
def sortG(l:List α):List α:=l.foldl (fun out x=>insG c x out) []
theorem foldG_len: ∀(l o:List α),(l.foldl (fun out x=>insG c x out) o).length≤l.length+o.length
 |[],o=>by simp
 |x::t,o=>by
  have:=foldG_len t (insG c x o)
  have:=insG_len c x o
  simp only[List.foldl_cons,List.length_cons];omega
theorem foldG_mem{y:α}: ∀{l o:List α},y∈l.foldl (fun out x=>insG c x out) o→y∈l∨y∈o
 |[],o,h=> .inr h
 |x::t,o,h=>by
  rcases foldG_mem (l:=t) h with h|h
  ·exact .inl (List.mem_cons_of_mem _ h)
  ·rcases mem_insG c h with rfl|h
   ·exact .inl List.mem_cons_self
   ·exact .inr h
end
theorem insR_G{x:Rat}: ∀{l:List Rat},insR x l=insG rcmp x l
 |[]=>rfl
 |u::t=>by
  have e1:rcmp u x<0↔u<x:=rcmp_neg' u x
  have e2:rcmp u x=0↔u=x:=rcmp_eq u x
  rw[insR,insG,insR_G (l:=t)]
  by_cases h:u<x
  ·rw[if_pos h,if_pos (e1.2 h)]
  ·rw[if_neg h,if_neg (fun e=>h (e1.1 e))]
   by_cases h2:u=x
   ·rw[if_pos h2,if_pos (e2.2 h2)]
   ·rw[if_neg h2,if_neg (fun e=>h2 (e2.1 e))]
theorem take_map_snoc{α β:Type}{f:α→β}{l:List α}{k:Nat}{x:α}(h:l[k]? =some x):(l.take k).map f++[f x]=(l.take (k+1)).map f:=by
 rw[List.take_add_one,h,List.map_append];rfl
end Go.Sx
end

section
set_option maxRecDepth 100000
namespace Go.Sx
open Go Go.Proofs
theorem q_ToN{GB:Gh}{a i:Nat}[ha:BN a i](hi:i≤400000000:=by decide):PF GB Tryz.prog 216 [dN a] (dN a):=by
 have hl:=mapU_len (dg a)
 have hb:=dg_len_le ha.h
 refine fn Tryz.func216 rfl rfl Tryz.ntmps216 rfl rfl (fun C=>?_)
 refine ro0 rfl rfl<|ap ((dg a).map dU) rfl rfl (slOkU _) rfl<|?_
 refine fzE 5 rfl ?_
 exact rz rfl rfl
theorem q_ToI{GB:Gh}{z:Int}{i:Nat}[hz:BI z i](hi:i≤400000000:=by decide):PF GB Tryz.prog 171 [eI z] (eI z):=by
 refine fn Tryz.func171 rfl rfl Tryz.ntmps171 rfl rfl (fun C=>?_)
 refine cl rfl (q_ToN (a:=z.natAbs) (i:=i) (ha:=⟨hz.h⟩) hi) rfl<|?_
 exact rz rfl rfl
theorem q_ToL{GB:Gh}{l:LnQ}(hl:BL l 96):PF GB Tryz.prog 103 [eL l] (eL l):=by
 haveI h1:BI l.a 96:=⟨hl.a⟩
 haveI h2:BI l.b 96:=⟨hl.b⟩
 haveI h3:BI l.c 96:=⟨hl.c⟩
 refine fn Tryz.func103 rfl rfl Tryz.ntmps103 rfl rfl (fun C=>?_)
 refine cl rfl (q_ToI (z:=l.a)) rfl<|cl rfl (q_ToI (z:=l.b)) rfl<|cl rfl (q_ToI (z:=l.c)) rfl<|?_
 exact rz rfl rfl
end Go.Sx
end

section
set_option maxRecDepth 100000
namespace Go.Sx
open Go Go.Proofs
theorem q_RN{GB:Gh}{ds:List Nat}(hd:DOk ds)(hn:ds.length≤1000000):PF GB Tryz.prog 168 [dLi ds] (dN (dv ds)):=by
 have hm:=mapU_len ds
 refine fn Tryz.func168 rfl rfl Tryz.ntmps168 rfl rfl (fun C=>?_)
 refine ro0 rfl rfl<|ap (ds.map dU) rfl rfl (slOkU _) rfl<|fz 5 rfl rfl<|cl rfl (q_Trim (ds:=ds) (by omega)) rfl<|?_
 exact rz rfl (by unfold dN;rw[dg_trim hd];rfl)
theorem q_RI{GB:Gh}{neg:Bool}{ds:List Nat}(hd:DOk ds)(hn:ds.length≤1000000):PF GB Tryz.prog 170 [.ag [.v (.bool neg),dLi ds]] (eI (ivalR neg ds)):=by
 refine fn Tryz.func170 rfl rfl Tryz.ntmps170 rfl rfl (fun C=>?_)
 refine cl rfl (q_RN hd hn) rfl<|cl rfl q_Make rfl<|?_
 exact rz rfl rfl
def rlD(r:RL):DV:= .tp [if r.nm then eL r.l else .ag [.v (.bool false), .sl [], .v (.bool false), .sl [], .v (.bool false), .sl []],vB (decide (r.nm∧r.l.ok))]
def smB(n:Int)(ls:List (List Nat)):Bool:=ls.all fun d=>decide ((d.length:Int)≤n)
def RL.smB(n:Int)(r:RL):Bool:=Sx.smB n [r.da,r.db,r.dc]
def rlB(n:Int)(ls:List RL):Bool:=ls.all fun r=>r.smB n
end Go.Sx
end

section
set_option maxRecDepth 100000
namespace Go.Sx
open Go Go.Proofs
theorem q_RNn{GB:Gh}{n i:Nat}[h:BN n i](hi:i≤20000:=by decide):PF GB Tryz.prog 168 [dN n] (dN n):=by
 have hl:=dg_len_le h.h
 have:=q_RN (GB:=GB) (ds:=dg n) (dg_ok n) (by omega)
 rw[dv_dg,←dN_dg] at this;exact this
theorem ivalR_dg(z:Int):ivalR (decide (z<0)) (dg z.natAbs)=z:=by
 unfold ivalR
 rw[dv_dg]
 split<;>(rename_i h;simp at h;omega)
theorem q_RIi{GB:Gh}{z:Int}{i:Nat}[h:BI z i](hi:i≤20000:=by decide):PF GB Tryz.prog 170 [eI z] (eI z):=by
 have hl:=dg_len_le h.h
 have:=q_RI (GB:=GB) (neg:=decide (z<0)) (ds:=dg z.natAbs) (dg_ok _) (by omega)
 rw[ivalR_dg,←dN_dg] at this;exact this
theorem dN_ne{n:Nat}(h:0<n): ¬((((dg n).map dU).length:Nat):Int)=0:=by
 rw[List.length_map]
 have:=dg_len_zero (n:=n)
 omega
instance BQ.m1':BQ (((-1:Int):Int):Rat) 2:=⟨by decide,by decide⟩
instance BQ.m1:BQ (-1:Rat) 2:=⟨by decide,by decide⟩
theorem q_RQ{GB:Gh}{q:Rat}{i:Nat}[h:BQ q i](hi:i≤20000:=by decide):PF GB Tryz.prog 102 [eR q] (eQ q):=by
 have hd:=q.den_pos
 refine fn Tryz.func102 rfl rfl Tryz.ntmps102 rfl rfl (fun C=>?_)
 refine cl (fu:=⟨8⟩) rfl (q_RNn (n:=q.den) hi) rfl<|knF rfl (by show some (decide _)=some false;rw[decide_eq_false (dN_ne hd)]) rfl<|cl rfl (q_RIi (z:=q.num) hi) rfl<|?_
 refine cl rfl (q_Frac (x:=q.num) (d:=q.den) hd (by omega) (by omega)) rfl<|?_
 exact rz rfl (by rw[Rat.mkRat_self];rfl)
theorem q_RToQ{GB:Gh}{q:Rat}{i:Nat}[h:BQ q i](hi:i≤400000000:=by decide):PF GB Tryz.prog 161 [eQ q] (eR q):=by
 refine fn Tryz.func161 rfl rfl Tryz.ntmps161 rfl rfl (fun C=>?_)
 refine cl rfl (q_ToI (z:=q.num) hi) rfl<|cl rfl (q_Den (q:=q)) rfl<|cl rfl (q_ToN (a:=q.den) hi) rfl<|?_
 exact rz rfl rfl
theorem q_Pt{GB:Gh}{p:PtQ}{i:Nat}[h:BPt p i](hi:i≤20000:=by decide):PF GB Tryz.prog 48 [ePt p] (eP p):=by
 refine fn Tryz.func48 rfl rfl Tryz.ntmps48 rfl rfl (fun C=>?_)
 refine cl rfl (q_RQ (q:=p.x) hi) rfl<|cl rfl (q_RQ (q:=p.y) hi) rfl<|?_
 exact rz rfl rfl
theorem q_ToP{GB:Gh}{p:PtQ}{i:Nat}[h:BPt p i](hi:i≤20000:=by decide):PF GB Tryz.prog 175 [eP p] (ePt p):=by
 refine fn Tryz.func175 rfl rfl Tryz.ntmps175 rfl rfl (fun C=>?_)
 refine cl rfl (q_RToQ (q:=p.x) (i:=i) (by omega)) rfl<|cl rfl (q_RToQ (q:=p.y) (i:=i) (by omega)) rfl<|?_
 exact rz rfl rfl
theorem map_len'{α:Type}(f:α→DV)(l:List α):(l.map f).length=l.length:=List.length_map ..
theorem slOkP(ps:List PtQ):slOk 6 (ps.map eP):=fun d hd=>by
 obtain⟨u,_,rfl⟩:=List.mem_map.1 hd;exact⟨rfl,rfl⟩
theorem slOkPt(ps:List PtQ):slOk 6 (ps.map ePt):=fun d hd=>by
 obtain⟨u,_,rfl⟩:=List.mem_map.1 hd;exact⟨rfl,rfl⟩
theorem q_Pts{GB:Gh}{ps:List PtQ}(hb: ∀p∈ps,BPt p 1200)(hn:ps.length≤1000000):PF GB Tryz.prog 106 [.sl (ps.map ePt)] (.sl (ps.map eP)):=by
 have hm:=map_len' ePt ps
 refine fn (fu:=⟨15⟩) Tryz.func106 rfl rfl Tryz.ntmps106 rfl rfl (fun C=>?_)
 refine eqF 7 (.d (vI (ps.length:Nat))) rfl (by rw[hm]<;>rfl) ?_
 refine gx rfl<|?_
 refine nr 3 3 86 6 rfl rfl rfl ?_
 refine lp (X:=Nat) (fun k=>[(8, .d (vI (k:Nat))),(3, .rw 3)]) (fun k=>[(3,some (.b 86 6 ((ps.take k).map eP) true))]) (fun k=>k≤ps.length) (fun k=>ps.length-k) 0 rfl (Nat.zero_le _) (fun _=>rfl) (fun k hk=>?_)
 have hml:=map_len' eP (ps.take k)
 rw[List.length_take] at hml
 refine br rfl rfl rfl (fun hc9=>?_) (fun hc9=>?_)
 ·
  obtain⟨z,hz⟩: ∃s,ps[k]? =some s:=⟨_,List.getElem?_eq_getElem (by omega)⟩
  have hzm:=List.mem_of_getElem? hz
  refine ix _ rfl (map_getS hz) rfl<|cl rfl (q_Pt (p:=z) (h:=hb z hzm)) rfl<|rf rfl rfl<|ap ((ps.take (k+1)).map eP) rfl (take_map_snoc hz) (slOkP [z]) rfl<|?_
  refine rnE 16 3 rfl ?_
  exact at_ (k+1) ⟨(by omega),(by omega)⟩
 ·
  obtain rfl:k=ps.length:=by omega
  refine fzE 3 rfl ?_
  exact rz rfl (by rw[List.take_length];rfl)
theorem q_ToPs{GB:Gh}{ps:List PtQ}(hb: ∀p∈ps,BPt p 1200)(hn:ps.length≤1000000):PF GB Tryz.prog 107 [.sl (ps.map eP)] (.sl (ps.map ePt)):=by
 have hm:=map_len' eP ps
 refine fn (fu:=⟨15⟩) Tryz.func107 rfl rfl Tryz.ntmps107 rfl rfl (fun C=>?_)
 refine eqF 7 (.d (vI (ps.length:Nat))) rfl (by rw[hm]<;>rfl) ?_
 refine gx rfl<|?_
 refine nr 3 3 73 6 rfl rfl rfl ?_
 refine lp (X:=Nat) (fun k=>[(8, .d (vI (k:Nat))),(3, .rw 3)]) (fun k=>[(3,some (.b 73 6 ((ps.take k).map ePt) true))]) (fun k=>k≤ps.length) (fun k=>ps.length-k) 0 rfl (Nat.zero_le _) (fun _=>rfl) (fun k hk=>?_)
 have hml:=map_len' ePt (ps.take k)
 rw[List.length_take] at hml
 refine br rfl rfl rfl (fun hc9=>?_) (fun hc9=>?_)
 ·
  obtain⟨z,hz⟩: ∃s,ps[k]? =some s:=⟨_,List.getElem?_eq_getElem (by omega)⟩
  have hzm:=List.mem_of_getElem? hz
  refine ix _ rfl (map_getS hz) rfl<|cl rfl (q_ToP (p:=z) (h:=hb z hzm)) rfl<|rf rfl rfl<|ap ((ps.take (k+1)).map ePt) rfl (take_map_snoc hz) (slOkPt [z]) rfl<|?_
  refine rnE 16 3 rfl ?_
  exact at_ (k+1) ⟨(by omega),(by omega)⟩
 ·
  obtain rfl:k=ps.length:=by omega
  refine fzE 3 rfl ?_
  exact rz rfl (by rw[List.take_length];rfl)
theorem q_PSub{GB:Gh}{p q:PtQ}{i j:Nat}[hp:BPt p i][hq:BPt q j](hi:i≤100000:=by decide)(hj:j≤100000:=by decide):PF GB Tryz.prog 116 [eP p,eP q] (eP (movQ p q (-1))):=by
 refine fn Tryz.func116 rfl rfl Tryz.ntmps116 rfl rfl (fun C=>?_)
 refine cl rfl (q_Of (n:= -1) (by decide) (by decide)) rfl<|cl rfl (q_PAdd (p:=p) (q:=q) (c:=((-1:Int):Rat)) (i:=i) (j:=j) (k:=2) (by omega) (by omega)) rfl<|?_
 exact rz rfl (by rw[show((-1:Int):Rat)= -1 from rfl];rfl)
theorem q_Orient{GB:Gh}{a b c:PtQ}{i j k:Nat}[ha:BPt a i][hb:BPt b j][hc:BPt c k](hi:i≤80000:=by decide)(hj:j≤80000:=by decide)(hk:k≤80000:=by decide):PF GB Tryz.prog 176 [eP a,eP b,eP c] (vI (orientQ a b c)):=by
 refine fn Tryz.func176 rfl rfl Tryz.ntmps176 rfl rfl (fun C=>?_)
 refine cl rfl (q_PSub (p:=b) (q:=a) (i:=j) (j:=i) (by omega) (by omega)) rfl<|cl rfl (q_PSub (p:=c) (q:=a) (i:=k) (j:=i) (by omega) (by omega)) rfl<|?_
 refine cl rfl (q_Cross (p:=movQ b a (-1)) (q:=movQ c a (-1)) (by omega) (by omega)) rfl<|cl rfl (q_S (q:=(movQ b a (-1)).cross (movQ c a (-1)))) rfl<|?_
 exact rz rfl rfl
def cmpP(p q:PtQ):Int:=if rcmp p.x q.x≠0 then rcmp p.x q.x else rcmp p.y q.y
theorem q_PCompare{GB:Gh}{p q:PtQ}{i j:Nat}[hp:BPt p i][hq:BPt q j](hi:i≤100000:=by decide)(hj:j≤100000:=by decide):PF GB Tryz.prog 244 [eP p,eP q] (vI (cmpP p q)):=by
 refine fn Tryz.func244 rfl rfl Tryz.ntmps244 rfl rfl (fun C=>?_)
 refine cl rfl (q_C (a:=p.x) (b:=q.x) (by omega) (by omega)) rfl<|?_
 refine br rfl rfl rfl (fun hc12=>?_) (fun hc12=>?_)
 ·
  exact rz rfl (by unfold cmpP;rw[if_pos hc12];rfl)
 ·
  refine cl rfl (q_C (a:=p.y) (b:=q.y) (by omega) (by omega)) rfl<|?_
  exact rz rfl (by unfold cmpP;rw[if_neg hc12];rfl)
def revB(l:LnQ):Bool:=decide (l.a<0∨(l.a=0∧l.b<0))
def LnQ.canon(l:LnQ):LnQ:=if revB l then l.rev else l
theorem sgnI_neg(a:Int):a.sign<0↔a<0:=by
 rcases Int.lt_trichotomy a 0 with h|h|h
 ·rw[Int.sign_eq_neg_one_of_neg h];omega
 ·subst h;simp
 ·rw[Int.sign_eq_one_of_pos h];omega
theorem sgnI_zero(a:Int):a.sign=0↔a=0:=Int.sign_eq_zero_iff_zero
theorem canonT{l:LnQ}(h:l.a<0∨(l.a=0∧l.b<0)):DV.tp [eL l.canon,vB (revB l)]= .tp [eL l.rev,vB true]:=by
 unfold LnQ.canon revB;rw[decide_eq_true h];rfl
theorem canonF'{l:LnQ}(h: ¬(l.a<0∨(l.a=0∧l.b<0))):DV.tp [eL l.canon,vB (revB l)]= .tp [eL l,vB false]:=by
 unfold LnQ.canon revB;rw[decide_eq_false h];rfl
theorem q_LCanon{GB:Gh}{l:LnQ}[hl:LB l]:PF GB Tryz.prog 135 [eL l] (.tp [eL l.canon,vB (revB l)]):=by
 refine fn Tryz.func135 rfl rfl Tryz.ntmps135 rfl rfl (fun C=>?_)
 refine cl rfl (q_Sign (z:=l.a)) rfl<|?_
 refine cs 10 rfl rfl rfl (fun hg10=>?_) (fun hg10=>?_)
 ·
  refine cl rfl (q_sRev (l:=l)) rfl<|?_
  exact rz rfl (by rw[canonT (.inl ((sgnI_neg _).1 hg10))];rfl)
 ·
  refine cs 13 rfl rfl rfl (fun hg13=>?_) (fun hg13=>?_)
  ·
   refine cl rfl (q_Sign (z:=l.b)) rfl<|?_
   refine br rfl rfl rfl (fun hc19=>?_) (fun hc19=>?_)
   ·
    refine cl rfl (q_sRev (l:=l)) rfl<|?_
    exact rz rfl (by rw[canonT (.inr ⟨(sgnI_zero _).1 hg13,(sgnI_neg _).1 hc19⟩)];rfl)
   ·
    exact rz rfl (by rw[canonF' (fun e=>e.elim (fun e=>hg10 ((sgnI_neg _).2 e)) (fun e=>hc19 ((sgnI_neg _).2 e.2)))];rfl)
  ·
   exact rz rfl (by rw[canonF' (fun e=>e.elim (fun e=>hg10 ((sgnI_neg _).2 e)) (fun e=>hg13 ((sgnI_zero _).2 e.1)))];rfl)
instance LB.canon (l:LnQ) [h:LB l]:LB l.canon:=by unfold LnQ.canon;split;exact LB.rev h;exact h
end Go.Sx
end
