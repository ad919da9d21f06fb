/-
  Plane geometry of the cells: clipping a cell with an interior cuts it exactly; the place of a cell; trees restricted twice. What the reference does with cells and trees: the same as the code, since both go by the points inside. Package geo: intervals. Package geo: Sample, Cut, Cmp, Equal, half, Angle. Package geo: cells; part, Place. Package geo: Place, the order of sides, binary search. Binary search and insertion in rows of sides. Insertion into a row of sides. Package geo: Clip, Divide. Package geo: Divide. Package bsp: trees in memory; Leaf, New, Join, Restrict, Reduce, Depth. Package bsp: the reader of trees. Package bsp: Of, and lines in the form of package api. Package bsp: trees written for package api. Package bsp: Parts; package reduce: read, Reduce; package cells: parts. Package geo: LinesOf, Canon; package reduce: Restrict. Reference: the arithmetic of fractions in plain Lean. Reference: integers and fractions of any size. Reference: fractions of any size.
-/
import Derived.Test.YtlnphbkcelfboaaGreatDoorMn10
set_option linter.unusedSimpArgs false
set_option linter.unusedVariables false
section
set_option maxRecDepth 100000
namespace Go.Sx
open Go
/-! ### values -/
theorem val_def(l:LnQ)(p:PtQ):l.value p=(l.a:Rat)*p.x+(l.b:Rat)*p.y+(l.c:Rat):=rfl
theorem val_rev(l:LnQ)(p:PtQ):l.rev.value p= -l.value p:=by
 rw[val_def,val_def]
 have h1:((l.rev.a:Int):Rat)= -(l.a:Rat):=(rat_neg_int l.a).symm
 have h2:((l.rev.b:Int):Rat)= -(l.b:Rat):=(rat_neg_int l.b).symm
 have h3:((l.rev.c:Int):Rat)= -(l.c:Rat):=(rat_neg_int l.c).symm
 rw[h1,h2,h3];grind
def segQ(q p:PtQ)(e:Rat):PtQ:=⟨q.x+e*(p.x-q.x),q.y+e*(p.y-q.y)⟩
theorem val_seg(l:LnQ)(q p:PtQ)(e:Rat):l.value (segQ q p e)=l.value q+e*(l.value p-l.value q):=by
 simp only[val_def,segQ];grind
def movQ(q u:PtQ)(e:Rat):PtQ:=⟨q.x+e*u.x,q.y+e*u.y⟩
theorem val_mov(l:LnQ)(q u:PtQ)(e:Rat):l.value (movQ q u e)=l.value q+e*l.nor.dot u:=by
 simp only[val_def,movQ,LnQ.nor,PtQ.dot];grind
theorem rat_mul_pos{a b:Rat}(ha:0<a)(hb:0<b):0<a*b:=Rat.mul_pos ha hb
theorem rat_mul_nonneg{a b:Rat}(ha:0≤a)(hb:0≤b):0≤a*b:=Rat.mul_nonneg ha hb
theorem rat_sq_nonneg(a:Rat):0≤a*a:=by
 by_cases h:0≤a
 ·exact rat_mul_nonneg h h
 ·have:=rat_mul_nonneg (a:= -a) (b:= -a) (by grind) (by grind)
  grind
theorem rat_mul_pos_iff{s k:Rat}(hk:0<k):0<s*k↔0<s:=by
 constructor
 ·intro h
  by_cases hs:0<s
  ·exact hs
  ·have:=rat_mul_nonneg (a:= -s) (b:=k) (by grind) (by grind)
   grind
 ·intro h;exact rat_mul_pos h hk
theorem rat_mul_nonneg_iff{s k:Rat}(hk:0<k):0≤s*k↔0≤s:=by
 constructor
 ·intro h
  by_cases hs:0≤s
  ·exact hs
  ·have:=rat_mul_pos (a:= -s) (b:=k) (by grind) hk
   grind
 ·intro h;exact rat_mul_nonneg h (by grind)
theorem lin_between{A B u v:Rat}(h0:0≤A)(h1:0≤A+v*B)(hu:0≤u)(huv:u≤v):0≤A+u*B:=by
 by_cases hB:0≤B
 ·have:=rat_mul_nonneg hu hB;grind
 ·have:=rat_mul_nonneg (a:=v-u) (b:= -B) (by grind) (by grind)
  grind
def LnQ.Ne(l:LnQ):Prop:= ¬(l.a=0∧l.b=0)
theorem LnQ.ok.ne{l:LnQ}(h:l.ok):l.Ne:=h.1
theorem nn_pos{l:LnQ}(h:l.Ne):0<l.nor.dot l.nor:=by
 show 0<(l.a:Rat)*l.a+(l.b:Rat)*l.b
 have h1:=rat_sq_nonneg (l.a:Rat)
 have h2:=rat_sq_nonneg (l.b:Rat)
 by_cases ha:l.a=0
 ·have hb:l.b≠0:=fun hb=>h ⟨ha,hb⟩
  have hb':(l.b:Rat)≠0:=fun e=>hb (Rat.intCast_eq_zero_iff.1 e)
  have:(l.b:Rat)*l.b≠0:=by grind
  grind
 ·have ha':(l.a:Rat)≠0:=fun e=>ha (Rat.intCast_eq_zero_iff.1 e)
  have:(l.a:Rat)*l.a≠0:=by grind
  grind
theorem base_q{l:LnQ}(h:l.Ne): ∃q:Rat,l.nor.dot l.nor*q= -(l.c:Rat)∧l.base=⟨(l.a:Rat)*q,(l.b:Rat)*q⟩:=by
 refine⟨-(l.c:Rat)/l.nor.dot l.nor,?_,rfl⟩
 have:=nn_pos h
 grind
theorem val_at(l m:LnQ)(t:Rat):m.value (l.at t)=l.cutC m+t*l.cutK m:=by
 simp only[LnQ.cutC,LnQ.cutK,val_def,LnQ.at,PtQ.add,PtQ.scale,LnQ.dir,LnQ.nor,PtQ.dot];grind
theorem at_self{l:LnQ}(h:l.Ne)(t:Rat):l.value (l.at t)=0:=by
 obtain⟨q,h1,h2⟩:=base_q h
 simp only[val_def,LnQ.at,h2,PtQ.add,PtQ.scale,LnQ.dir]
 simp only[LnQ.nor,PtQ.dot] at h1
 grind
theorem on_at{l:LnQ}(h:l.Ne){p:PtQ}(hp:l.value p=0): ∃t,p=l.at t:=by
 obtain⟨q,h1,h2⟩:=base_q h
 have hn:=nn_pos h
 obtain⟨x,y⟩:=p
 rw[val_def] at hp
 simp only[LnQ.nor,PtQ.dot] at h1 hn
 refine⟨((l.b:Rat)*x-(l.a:Rat)*y)/((l.a:Rat)*l.a+(l.b:Rat)*l.b),?_⟩
 generalize ht:((l.b:Rat)*x-(l.a:Rat)*y)/((l.a:Rat)*l.a+(l.b:Rat)*l.b)=t
 have ht':((l.a:Rat)*l.a+(l.b:Rat)*l.b)*t=(l.b:Rat)*x-(l.a:Rat)*y:=by grind
 simp only[LnQ.at,h2,PtQ.add,PtQ.scale,LnQ.dir,PtQ.mk.injEq]
 generalize (l.a:Rat)=a at*
 generalize (l.b:Rat)=b at*
 generalize (l.c:Rat)=c at*
 have e1:(a*a+b*b)*(x-(a*q+b*t))=0:=by grind
 have e2:(a*a+b*b)*(y-(b*q+ -a*t))=0:=by grind
 constructor<;>grind
/-! ### intervals -/
def IvQ.has(v:IvQ)(t:Rat):Prop:=(v.nl=true∨v.lo≤t)∧(v.nh=true∨t≤v.hi)
def IvQ.ins(v:IvQ)(t:Rat):Prop:=(v.nl=true∨v.lo<t)∧(v.nh=true∨t<v.hi)
def IvQ.Pos(v:IvQ):Prop:=v.nl=true∨v.nh=true∨v.lo<v.hi
theorem rcmp_nonneg(a b:Rat):0≤rcmp a b↔b≤a:=by
 unfold rcmp;split
 ·constructor
  ·intro h;exact absurd h (by decide)
  ·intro h;grind
 ·split
  ·constructor
   ·intro _;grind
   ·intro _;decide
  ·constructor
   ·intro _;grind
   ·intro _;decide
theorem empty_iff(v:IvQ):v.empty=false↔v.Pos:=by
 obtain⟨lo,hi,nl,nh⟩:=v
 unfold IvQ.empty IvQ.Pos
 cases nl<;>cases nh<;>simp[rcmp_nonneg]
 first|exact Rat.not_le|grind
theorem IvQ.ins.has{v:IvQ}{t:Rat}(h:v.ins t):v.has t:=by
 obtain⟨h1,h2⟩:=h
 exact⟨h1.imp id (fun h=>Rat.le_of_lt h),h2.imp id (fun h=>Rat.le_of_lt h)⟩
theorem half_eq:mkRat 1 2=(1:Rat)/2:=by rw[Rat.mkRat_eq_div];rfl
theorem ins_sample{v:IvQ}(h:v.Pos):v.ins v.sample:=by
 obtain⟨lo,hi,nl,nh⟩:=v
 unfold IvQ.Pos at h
 unfold IvQ.ins IvQ.sample
 rw[half_eq]
 cases nl<;>cases nh<;>simp at* <;>grind
theorem meet_has(v w:IvQ)(t:Rat):(v.meet w).has t↔v.has t∧w.has t:=by
 obtain⟨lo,hi,nl,nh⟩:=v
 obtain⟨lo',hi',nl',nh'⟩:=w
 unfold IvQ.has IvQ.meet
 cases nl<;>cases nh<;>cases nl'<;>cases nh'<;>simp<;>grind
theorem meet_ins(v w:IvQ)(t:Rat):(v.meet w).ins t↔v.ins t∧w.ins t:=by
 obtain⟨lo,hi,nl,nh⟩:=v
 obtain⟨lo',hi',nl',nh'⟩:=w
 unfold IvQ.ins IvQ.meet
 cases nl<;>cases nh<;>cases nl'<;>cases nh'<;>simp<;>grind
theorem all_has(t:Rat):IvQ.all.has t:=⟨.inl rfl, .inl rfl⟩
theorem all_Pos:IvQ.all.Pos:= .inl rfl
theorem sgn_zero(k:Rat):Int.sign k.num=0↔k=0:=by rw[Int.sign_eq_zero_iff_zero,Rat.num_eq_zero]
theorem num_pos'(k:Rat):0<k.num↔0<k:=by
 have h1:0≤k.num↔0≤k:=Rat.num_nonneg
 have h2:k.num=0↔k=0:=Rat.num_eq_zero
 constructor
 ·intro h
  have a:=h1.1 (by omega)
  have b:k≠0:=fun e=>by have:=h2.2 e;omega
  grind
 ·intro h
  have a:=h1.2 (by grind)
  have b:k.num≠0:=fun e=>by have:=h2.1 e;grind
  omega
theorem sgn_one(k:Rat):Int.sign k.num=1↔0<k:=by rw[Int.sign_eq_one_iff_pos,num_pos']
theorem sgn_pos(k:Rat):0<Int.sign k.num↔0<k:=by
 rw[←sgn_one]
 rcases Int.lt_trichotomy k.num 0 with h|h|h
 ·rw[Int.sign_eq_neg_one_of_neg h];decide
 ·rw[h];decide
 ·rw[Int.sign_eq_one_of_pos h];decide
theorem cut_zero{l m:LnQ}(v:IvQ)(hk:l.cutK m=0):l.cutV v m=v∧(l.cutB v m=true↔0<l.cutC m):=by
 have h:=(sgn_zero (l.cutK m)).2 hk
 unfold LnQ.cutV LnQ.cutB
 rw[if_pos h,if_pos h,decide_eq_true_iff,sgn_pos]
 exact⟨rfl,Iff.rfl⟩
theorem cut_up{l m:LnQ}(v:IvQ)(hk:0<l.cutK m):l.cutV v m=v.meet ⟨-(l.cutC m/l.cutK m),0,false,true⟩∧(l.cutB v m=true↔(l.cutV v m).Pos):=by
 have h0: ¬Int.sign (l.cutK m).num=0:=fun e=>by have:=(sgn_zero _).1 e;grind
 have h1:=(sgn_one (l.cutK m)).2 hk
 constructor
 ·unfold LnQ.cutV;rw[if_neg h0,if_pos h1]
 ·unfold LnQ.cutB;rw[if_neg h0,←empty_iff];simp
theorem cut_dn{l m:LnQ}(v:IvQ)(hk:l.cutK m<0):l.cutV v m=v.meet ⟨0, -(l.cutC m/l.cutK m),true,false⟩∧(l.cutB v m=true↔(l.cutV v m).Pos):=by
 have h0: ¬Int.sign (l.cutK m).num=0:=fun e=>by have:=(sgn_zero _).1 e;grind
 have h1: ¬Int.sign (l.cutK m).num=1:=fun e=>by have:=(sgn_one _).1 e;grind
 constructor
 ·unfold LnQ.cutV;rw[if_neg h0,if_neg h1]
 ·unfold LnQ.cutB;rw[if_neg h0,←empty_iff];simp
theorem up_le{C K t:Rat}(hk:0<K): -(C/K)≤t↔0≤C+t*K:=by
 have e:C=C/K*K:=by grind
 generalize C/K=d at*
 rw[e,show d*K+t*K=(d+t)*K from by grind,rat_mul_nonneg_iff hk]
 grind
theorem up_lt{C K t:Rat}(hk:0<K): -(C/K)<t↔0<C+t*K:=by
 have e:C=C/K*K:=by grind
 generalize C/K=d at*
 rw[e,show d*K+t*K=(d+t)*K from by grind,rat_mul_pos_iff hk]
 grind
theorem dn_le{C K t:Rat}(hk:K<0):t≤ -(C/K)↔0≤C+t*K:=by
 have e:C=C/K*K:=by grind
 generalize C/K=d at*
 rw[e,show d*K+t*K=(-(d+t))*(-K) from by grind,rat_mul_nonneg_iff (by grind)]
 grind
theorem dn_lt{C K t:Rat}(hk:K<0):t< -(C/K)↔0<C+t*K:=by
 have e:C=C/K*K:=by grind
 generalize C/K=d at*
 rw[e,show d*K+t*K=(-(d+t))*(-K) from by grind,rat_mul_pos_iff (by grind)]
 grind
theorem rat_tri(k:Rat):k=0∨0<k∨k<0:=by grind
theorem cut_has{l m:LnQ}{v:IvQ}(hb:l.cutB v m=true)(t:Rat):(l.cutV v m).has t↔v.has t∧0≤m.value (l.at t):=by
 rw[val_at]
 rcases rat_tri (l.cutK m) with hk|hk|hk
 ·obtain⟨h1,h2⟩:=cut_zero v hk
  rw[h1,hk]
  have:=h2.1 hb
  constructor
  ·intro h;exact⟨h,by grind⟩
  ·exact fun h=>h.1
 ·rw[(cut_up v hk).1,meet_has,←up_le hk]
  simp[IvQ.has]
 ·rw[(cut_dn v hk).1,meet_has,←dn_le hk]
  simp[IvQ.has]
theorem cut_ins{l m:LnQ}{v:IvQ}(hb:l.cutB v m=true)(t:Rat):(l.cutV v m).ins t↔v.ins t∧0<m.value (l.at t):=by
 rw[val_at]
 rcases rat_tri (l.cutK m) with hk|hk|hk
 ·obtain⟨h1,h2⟩:=cut_zero v hk
  rw[h1,hk]
  have:=h2.1 hb
  constructor
  ·intro h;exact⟨h,by grind⟩
  ·exact fun h=>h.1
 ·rw[(cut_up v hk).1,meet_ins,←up_lt hk]
  simp[IvQ.ins]
 ·rw[(cut_dn v hk).1,meet_ins,←dn_lt hk]
  simp[IvQ.ins]
theorem cut_Pos{l m:LnQ}{v:IvQ}(hv:v.Pos)(hb:l.cutB v m=true):(l.cutV v m).Pos:=by
 rcases rat_tri (l.cutK m) with hk|hk|hk
 ·rw[(cut_zero v hk).1];exact hv
 ·exact(cut_up v hk).2.1 hb
 ·exact(cut_dn v hk).2.1 hb
theorem cut_no{l m:LnQ}{v:IvQ}(hv:v.Pos)(hb:l.cutB v m=false){t:Rat}(ht:v.has t):m.value (l.at t)≤0:=by
 rw[val_at]
 have hb': ¬l.cutB v m=true:=by rw[hb];decide
 rcases rat_tri (l.cutK m) with hk|hk|hk
 ·have h2:=(cut_zero v hk).2
  have: ¬0<l.cutC m:=fun h=>hb' (h2.2 h)
  rw[hk];grind
 ·obtain⟨h1,h2⟩:=cut_up v hk
  have hn: ¬(l.cutV v m).Pos:=fun h=>hb' (h2.2 h)
  rw[h1] at hn
  have h3:=up_lt (C:=l.cutC m) (t:=t) hk
  suffices¬(-(l.cutC m/l.cutK m)<t) by grind
  generalize-(l.cutC m/l.cutK m)=d at*
  obtain⟨lo,hi,nl,nh⟩:=v
  unfold IvQ.Pos IvQ.meet at hn
  unfold IvQ.Pos at hv
  unfold IvQ.has at ht
  cases nl<;>cases nh<;>simp at* <;>grind
 ·obtain⟨h1,h2⟩:=cut_dn v hk
  have hn: ¬(l.cutV v m).Pos:=fun h=>hb' (h2.2 h)
  rw[h1] at hn
  have h3:=dn_lt (C:=l.cutC m) (t:=t) hk
  suffices¬(t< -(l.cutC m/l.cutK m)) by grind
  generalize-(l.cutC m/l.cutK m)=d at*
  obtain⟨lo,hi,nl,nh⟩:=v
  unfold IvQ.Pos IvQ.meet at hn
  unfold IvQ.Pos at hv
  unfold IvQ.has at ht
  cases nl<;>cases nh<;>simp at* <;>grind
/-! ### cells -/
def InD(c:CellQ)(p:PtQ):Prop:= ∀s∈c,0<s.l.value p
def InC(c:CellQ)(p:PtQ):Prop:= ∀s∈c,0≤s.l.value p
theorem partV_some(l:LnQ): ∀(c:CellQ) (v w:IvQ),v.Pos→partV l c v=some w→
  w.Pos∧(∀t,w.has t↔v.has t∧InC c (l.at t))∧(∀t,w.ins t↔v.ins t∧InD c (l.at t))
 |[],v,w,hv,h=>by
  obtain rfl:v=w:=by simpa[partV] using h
  exact⟨hv,fun t=>⟨fun h=>⟨h,fun s hs=>absurd hs (by simp)⟩,fun h=>h.1⟩,fun t=>⟨fun h=>⟨h,fun s hs=>absurd hs (by simp)⟩,fun h=>h.1⟩⟩
 |s::c,v,w,hv,h=>by
  rw[partV] at h
  split at h
  ·rename_i hb
   obtain⟨h1,h2,h3⟩:=partV_some l c _ w (cut_Pos hv hb) h
   refine⟨h1,fun t=>?_,fun t=>?_⟩
   ·rw[h2,cut_has hb]
    simp only[InC,List.forall_mem_cons]
    exact and_assoc
   ·rw[h3,cut_ins hb]
    simp only[InD,List.forall_mem_cons]
    exact and_assoc
  ·exact absurd h (by simp)
theorem partV_none(l:LnQ): ∀(c:CellQ) (v:IvQ),v.Pos→partV l c v=none→ ∀t,v.has t→ ¬InD c (l.at t)
 |[],v,hv,h=>by simp[partV] at h
 |s::c,v,hv,h=>by
  intro t ht hd
  have hd':=List.forall_mem_cons.1 hd
  rw[partV] at h
  split at h
  ·rename_i hb
   exact partV_none l c _ (cut_Pos hv hb) h t ((cut_has hb t).2 ⟨ht,Rat.le_of_lt hd'.1⟩) hd'.2
  ·rename_i hb
   have:=cut_no hv (by simpa using hb) ht
   have:=hd'.1
   grind
theorem InD.open: ∀{c:CellQ} {q:PtQ} (u:PtQ),InD c q→ ∃e:Rat,0<e∧ ∀d,0≤d→d≤e→InD c (movQ q u d)
 |[],q,u,_=>⟨1,by decide,fun d _ _ s hs=>absurd hs (by simp)⟩
 |s::c,q,u,h=>by
  have h':=List.forall_mem_cons.1 h
  obtain⟨e,he,hd⟩:=InD.open (c:=c) u h'.2
  have hs:=h'.1
  generalize hk:s.l.nor.dot u=k
  have hf: ∃f:Rat,0<f∧ ∀d,0≤d→d≤f→0<s.l.value q+d*k:=by
   by_cases hk0:0≤k
   ·exact⟨1,by decide,fun d h1 _=>by have:=rat_mul_nonneg h1 hk0;grind⟩
   ·refine⟨s.l.value q/(2* -k),?_,fun d h1 h2=>?_⟩
    ·have e1:s.l.value q/(2* -k)*(2* -k)=s.l.value q:=by grind
     exact(rat_mul_pos_iff (k:=2* -k) (by grind)).1 (by rw[e1];exact hs)
    ·have e1:s.l.value q/(2* -k)*(2* -k)=s.l.value q:=by grind
     generalize s.l.value q/(2* -k)=f at*
     have:=rat_mul_nonneg (a:=f-d) (b:= -k) (by grind) (by grind)
     grind
  obtain⟨f,hf0,hf⟩:=hf
  by_cases hef:e≤f
  ·refine⟨e,he,fun d h1 h2=>List.forall_mem_cons.2 ⟨?_,hd d h1 h2⟩⟩
   rw[val_mov,hk];exact hf d h1 (by grind)
  ·refine⟨f,hf0,fun d h1 h2=>List.forall_mem_cons.2 ⟨?_,hd d h1 (by grind)⟩⟩
   rw[val_mov,hk];exact hf d h1 h2
theorem first_exit: ∀{c:CellQ} {q p:PtQ},InD c q→(∃s∈c,s.l.value p≤0)→
  ∃e:Rat,0≤e∧e≤1∧(∃s∈c,s.l.value p≤0∧s.l.value (segQ q p e)=0)∧InC c (segQ q p e)
 |[],q,p,_,h=>by obtain⟨s,hs,_⟩:=h;exact absurd hs (by simp)
 |s::c,q,p,h,hex=>by
  have h':=List.forall_mem_cons.1 h
  have hs:=h'.1
  by_cases hc: ∃s∈c,s.l.value p≤0
  ·obtain⟨e,h0,h1,⟨s1,m1,n1,z1⟩,hC⟩:=first_exit h'.2 hc
   by_cases hp:0≤s.l.value (segQ q p e)
   ·exact⟨e,h0,h1,⟨s1,List.mem_cons_of_mem _ m1,n1,z1⟩,List.forall_mem_cons.2 ⟨hp,hC⟩⟩
   ·rw[val_seg] at hp
    generalize hB:s.l.value p-s.l.value q=B at*
    have hB0:B<0:=by
     by_cases hB0:0≤B
     ·have:=rat_mul_nonneg h0 hB0;grind
     ·grind
    have e1:s.l.value q/(-B)*(-B)=s.l.value q:=by grind
    generalize hf:s.l.value q/(-B)=f at*
    have f0:0≤f:=(rat_mul_nonneg_iff (k:= -B) (by grind)).1 (by rw[e1];grind)
    have f1:f≤e:=by
     have:=(rat_mul_nonneg_iff (s:=e-f) (k:= -B) (by grind)).1 (by grind)
     grind
    have z:s.l.value (segQ q p f)=0:=by rw[val_seg,hB];grind
    have np:s.l.value p≤0:=by
     have:=rat_mul_nonneg (a:=1-e) (b:= -B) (by grind) (by grind)
     grind
    refine⟨f,f0,by grind,⟨s,List.mem_cons_self,np,z⟩,List.forall_mem_cons.2 ⟨by rw[z];exact Rat.le_refl,fun s2 m2=>?_⟩⟩
    have a1:=h'.2 s2 m2
    have a2:=hC s2 m2
    rw[val_seg] at a2⊢
    exact lin_between (Rat.le_of_lt a1) a2 f0 f1
  ·have np:s.l.value p≤0:=by
    obtain⟨s1,m1,n1⟩:=hex
    rcases List.mem_cons.1 m1 with rfl|m1
    ·exact n1
    ·exact absurd ⟨s1,m1,n1⟩ hc
   generalize hB:s.l.value p-s.l.value q=B at*
   have hB0:B<0:=by grind
   have e1:s.l.value q/(-B)*(-B)=s.l.value q:=by grind
   generalize hf:s.l.value q/(-B)=f at*
   have f0:0≤f:=(rat_mul_nonneg_iff (k:= -B) (by grind)).1 (by rw[e1];grind)
   have f1:f≤1:=by
    have:=(rat_mul_nonneg_iff (s:=1-f) (k:= -B) (by grind)).1 (by grind)
    grind
   have z:s.l.value (segQ q p f)=0:=by rw[val_seg,hB];grind
   refine⟨f,f0,f1,⟨s,List.mem_cons_self,np,z⟩,List.forall_mem_cons.2 ⟨by rw[z];exact Rat.le_refl,fun s2 m2=>?_⟩⟩
   have a1:=h'.2 s2 m2
   have a2:0<s2.l.value p:=by
    by_cases h:0<s2.l.value p
    ·exact h
    ·exact absurd ⟨s2,m2,by grind⟩ hc
   rw[val_seg]
   have:=lin_between (A:=s2.l.value q) (B:=s2.l.value p-s2.l.value q) (u:=f) (v:=1) (Rat.le_of_lt a1) (by grind) f0 f1
   exact this
structure GoodC (c:CellQ):Prop where
 ne: ∃p,InD c p
 ok: ∀s∈c,s.l.ok
 edge: ∀s∈c,s.v.Pos∧ ∀t,s.v.has t↔InC c (s.l.at t)
theorem GoodC.nil:GoodC []:=⟨⟨⟨0,0⟩,fun s hs=>absurd hs (by simp)⟩,fun s hs=>absurd hs (by simp),fun s hs=>absurd hs (by simp)⟩
theorem closure_nonneg{c:CellQ}{m:LnQ}(hne: ∃q,InD c q)(h: ∀p,InD c p→0<m.value p){p:PtQ}(hp:InC c p):0≤m.value p:=by
 obtain⟨q,hq⟩:=hne
 have mq:=h q hq
 by_cases hm:0≤m.value p
 ·exact hm
 ·exfalso
  generalize hB:m.value q-m.value p=B
  have hB0:0<B:=by grind
  have e1: -m.value p/B*B= -m.value p:=by grind
  generalize-m.value p/B=e at*
  have e0:0<e:=(rat_mul_pos_iff hB0).1 (by rw[e1];grind)
  have e2:e≤1:=by
   have:=(rat_mul_nonneg_iff (s:=1-e) hB0).1 (by grind)
   grind
  have hd:InD c (segQ p q e):=fun s hs=>by
   rw[val_seg]
   have a:=hp s hs
   have b:=hq s hs
   have:=rat_mul_pos e0 b
   have:=rat_mul_nonneg (a:=1-e) (b:=s.l.value p) (by grind) a
   grind
  have:=h _ hd
  rw[val_seg,hB,e1] at this
  grind
theorem mem_cutsV{l:LnQ}{s':FrQ}: ∀{c:CellQ},s'∈cutsV l c↔ ∃s∈c,s.l.cutB s.v l=true∧s'=⟨s.l,s.l.cutV s.v l⟩
 |[]=>by simp[cutsV]
 |s::c=>by
  rw[cutsV]
  split
  ·rename_i hb
   rw[List.mem_cons,mem_cutsV (c:=c)]
   constructor
   ·rintro (rfl|⟨s1,h1,h2⟩)
    ·exact⟨s,List.mem_cons_self,hb,rfl⟩
    ·exact⟨s1,List.mem_cons_of_mem _ h1,h2⟩
   ·rintro ⟨s1,h1,h2,h3⟩
    rcases List.mem_cons.1 h1 with rfl|h1
    ·exact .inl h3
    ·exact .inr ⟨s1,h1,h2,h3⟩
  ·rename_i hb
   rw[mem_cutsV (c:=c)]
   constructor
   ·rintro ⟨s1,h1,h2⟩;exact⟨s1,List.mem_cons_of_mem _ h1,h2⟩
   ·rintro ⟨s1,h1,h2,h3⟩
    rcases List.mem_cons.1 h1 with rfl|h1
    ·exact absurd h2 hb
    ·exact⟨s1,h1,h2,h3⟩
theorem mem_insQ{c:CellQ}{l:LnQ}{v:IvQ}{s:FrQ}:s∈insQ c l v↔s=⟨l,v⟩∨s∈c:=by
 unfold insQ
 generalize bsq (angAt c l) 0 c.length=n
 rw[List.mem_append,List.mem_cons]
 have h:=List.take_append_drop n c
 constructor
 ·rintro (h1|h1|h1)
  ·exact .inr (List.mem_of_mem_take h1)
  ·exact .inl h1
  ·exact .inr (List.mem_of_mem_drop h1)
 ·rintro (h1|h1)
  ·exact .inr (.inl h1)
  ·rw[←h,List.mem_append] at h1
   rcases h1 with h1|h1
   ·exact .inl h1
   ·exact .inr (.inr h1)
theorem off_line{c:CellQ}{l:LnQ}(hl:l.Ne)(hp:partQ c l=none){p:PtQ}(h:InD c p):l.value p≠0:=by
 intro h0
 obtain⟨t,rfl⟩:=on_at hl h0
 exact partV_none l c _ all_Pos hp t (all_has t) h
theorem some_sides{c:CellQ}{l:LnQ}(hl:l.Ne){v:IvQ}(hp:partQ c l=some v):(∃q,InD c q∧0<l.value q)∧ ∃q,InD c q∧l.value q<0:=by
 obtain⟨h1,_,h3⟩:=partV_some l c _ v all_Pos hp
 have hd:=((h3 v.sample).1 (ins_sample h1)).2
 have h0:=at_self hl v.sample
 have hn:=nn_pos hl
 constructor
 ·obtain⟨e,he,hm⟩:=hd.open l.nor
  refine⟨_,hm e (Rat.le_of_lt he) Rat.le_refl,?_⟩
  rw[val_mov,h0]
  have:=rat_mul_pos he hn
  grind
 ·obtain⟨e,he,hm⟩:=hd.open ⟨-l.nor.x, -l.nor.y⟩
  refine⟨_,hm e (Rat.le_of_lt he) Rat.le_refl,?_⟩
  rw[val_mov,h0]
  have:=rat_mul_pos he hn
  simp only[PtQ.dot] at this⊢
  grind
theorem clip_some{c:CellQ}{l:LnQ}{v:IvQ}(hc:GoodC c)(hl:l.ok)(hp:partQ c l=some v):
  GoodC (insQ (cutsV l c) l v)∧ ∀p,InD (insQ (cutsV l c) l v) p↔InD c p∧0<l.value p:=by
 obtain⟨⟨q,hq,lq⟩,_⟩:=some_sides hl.ne hp
 obtain⟨v1,v2,v3⟩:=partV_some l c _ v all_Pos hp
 have hD: ∀p,InD (insQ (cutsV l c) l v) p↔InD c p∧0<l.value p:=by
  intro p
  constructor
  ·intro h
   have lp:0<l.value p:=h ⟨l,v⟩ (mem_insQ.2 (.inl rfl))
   refine⟨fun s0 hs0=>?_,lp⟩
   by_cases h0:0<s0.l.value p
   ·exact h0
   ·exfalso
    obtain⟨e,e0,e1,⟨s,ms,ns,zs⟩,hC⟩:=first_exit (p:=p) hq ⟨s0,hs0,by grind⟩
    obtain⟨t,ht⟩:=on_at (hc.ok s ms).ne zs
    rw[ht] at hC
    obtain⟨p1,p2⟩:=hc.edge s ms
    have hh:=(p2 t).2 hC
    have lr:0<l.value (s.l.at t):=by
     rw[←ht,val_seg]
     by_cases hB:0≤l.value p-l.value q
     ·have:=rat_mul_nonneg e0 hB;grind
     ·have:=rat_mul_nonneg (a:=1-e) (b:= -(l.value p-l.value q)) (by grind) (by grind)
      grind
    have hb:s.l.cutB s.v l=true:=by
     cases hb:s.l.cutB s.v l with
     |true=>rfl
     |false=>have:=cut_no p1 hb hh;grind
    have:=h ⟨s.l,s.l.cutV s.v l⟩ (mem_insQ.2 (.inr (mem_cutsV.2 ⟨s,ms,hb,rfl⟩)))
    simp only at this
    grind
  ·rintro ⟨h1,h2⟩ s hs
   rcases mem_insQ.1 hs with rfl|hs
   ·exact h2
   ·obtain⟨s1,m1,_,rfl⟩:=mem_cutsV.1 hs
    exact h1 s1 m1
 have hne: ∃p,InD (insQ (cutsV l c) l v) p:=⟨q,(hD q).2 ⟨hq,lq⟩⟩
 have hC: ∀p,InC (insQ (cutsV l c) l v) p↔InC c p∧0≤l.value p:=by
  intro p
  constructor
  ·intro h
   refine⟨fun s hs=>?_,h ⟨l,v⟩ (mem_insQ.2 (.inl rfl))⟩
   exact closure_nonneg hne (fun p hp=>((hD p).1 hp).1 s hs) h
  ·rintro ⟨h1,h2⟩ s hs
   rcases mem_insQ.1 hs with rfl|hs
   ·exact h2
   ·obtain⟨s1,m1,_,rfl⟩:=mem_cutsV.1 hs
    exact h1 s1 m1
 refine⟨⟨hne,fun s hs=>?_,fun s hs=>?_⟩,hD⟩
 ·rcases mem_insQ.1 hs with rfl|hs
  ·exact hl
  ·obtain⟨s1,m1,_,rfl⟩:=mem_cutsV.1 hs
   exact hc.ok s1 m1
 ·rcases mem_insQ.1 hs with rfl|hs
  ·refine⟨v1,fun t=>?_⟩
   rw[hC]
   simp only
   rw[v2]
   have h0:=at_self hl.ne t
   constructor
   ·intro h;exact⟨h.2,by rw[h0];exact Rat.le_refl⟩
   ·intro h;exact⟨all_has t,h.1⟩
  ·obtain⟨s1,m1,hb,rfl⟩:=mem_cutsV.1 hs
   obtain⟨p1,p2⟩:=hc.edge s1 m1
   refine⟨cut_Pos p1 hb,fun t=>?_⟩
   rw[hC]
   simp only
   rw[cut_has hb,p2]
theorem InD.seg{c:CellQ}{q p:PtQ}{e:Rat}(hq:InD c q)(hp:InD c p)(h0:0≤e)(h1:e≤1):InD c (segQ q p e):=fun s hs=>by
 rw[val_seg]
 have a:=hq s hs
 have b:=hp s hs
 by_cases he:e=0
 ·subst he;grind
 ·have:=rat_mul_pos (a:=e) (by grind) b
  have:=rat_mul_nonneg (a:=1-e) (b:=s.l.value q) (by grind) (by grind)
  grind
theorem ins_near{v:IvQ}{t:Rat}(h:v.ins t):(∃u,u<t∧v.has u)∧ ∃u,t<u∧v.has u:=by
 obtain⟨lo,hi,nl,nh⟩:=v
 unfold IvQ.ins at h
 unfold IvQ.has
 refine⟨⟨if nl=true then t-1 else lo,?_⟩,⟨if nh=true then t+1 else hi,?_⟩⟩<;>cases nl<;>cases nh<;>simp at* <;>grind
theorem dvd_of_prop{a b c x y z:Nat}(h1:x*b=a*y)(h2:x*c=a*z)(g:Nat.gcd (Nat.gcd a b) c=1):a∣x:=by
 have e:x=Nat.gcd (Nat.gcd (x*a) (x*b)) (x*c):=by
  rw[Nat.gcd_mul_left,Nat.gcd_mul_left,g,Nat.mul_one]
 rw[e]
 exact Nat.dvd_gcd (Nat.dvd_gcd (Nat.dvd_mul_left ..) (h1▸Nat.dvd_mul_right ..)) (h2▸Nat.dvd_mul_right ..)
theorem prim_same{a b c x y z:Int}(h1:a*y=b*x)(h2:a*z=c*x)(h3:b*z=c*y)
  (g1:Nat.gcd (Nat.gcd a.natAbs b.natAbs) c.natAbs=1)(g2:Nat.gcd (Nat.gcd x.natAbs y.natAbs) z.natAbs=1):
  (a=x∧b=y∧c=z)∨(a= -x∧b= -y∧c= -z):=by
 have n1:a.natAbs*y.natAbs=b.natAbs*x.natAbs:=by rw[←Int.natAbs_mul,←Int.natAbs_mul,h1]
 have n2:a.natAbs*z.natAbs=c.natAbs*x.natAbs:=by rw[←Int.natAbs_mul,←Int.natAbs_mul,h2]
 have n3:b.natAbs*z.natAbs=c.natAbs*y.natAbs:=by rw[←Int.natAbs_mul,←Int.natAbs_mul,h3]
 generalize ha:a.natAbs=A at*
 generalize hb:b.natAbs=B at*
 generalize hc:c.natAbs=C at*
 generalize hx:x.natAbs=X at*
 generalize hy:y.natAbs=Y at*
 generalize hz:z.natAbs=Z at*
 have gB:Nat.gcd (Nat.gcd B A) C=1:=by rw[Nat.gcd_comm B A];exact g1
 have gC:Nat.gcd (Nat.gcd C A) B=1:=by rw[Nat.gcd_assoc,Nat.gcd_comm];exact g1
 have gY:Nat.gcd (Nat.gcd Y X) Z=1:=by rw[Nat.gcd_comm Y X];exact g2
 have gZ:Nat.gcd (Nat.gcd Z X) Y=1:=by rw[Nat.gcd_assoc,Nat.gcd_comm];exact g2
 have e1:A=X:=Nat.dvd_antisymm (dvd_of_prop (x:=X) (y:=Y) (z:=Z) (by grind) (by grind) g1) (dvd_of_prop (x:=A) (y:=B) (z:=C) (by grind) (by grind) g2)
 have e2:B=Y:=Nat.dvd_antisymm (dvd_of_prop (x:=Y) (y:=X) (z:=Z) (by grind) (by grind) gB) (dvd_of_prop (x:=B) (y:=A) (z:=C) (by grind) (by grind) gY)
 have e3:C=Z:=Nat.dvd_antisymm (dvd_of_prop (x:=Z) (y:=X) (z:=Y) (by grind) (by grind) gC) (dvd_of_prop (x:=C) (y:=A) (z:=B) (by grind) (by grind) gZ)
 have s1:a=x∨a= -x:=by omega
 have s2:b=y∨b= -y:=by omega
 have s3:c=z∨c= -z:=by omega
 clear ha hb hc hx hy hz n1 n2 n3 g1 g2 gB gC gY gZ e1 e2 e3
 have z1:= @Int.mul_eq_zero x y
 have z2:= @Int.mul_eq_zero x z
 have z3:= @Int.mul_eq_zero y z
 rcases s1 with rfl|rfl<;>rcases s2 with rfl|rfl<;>rcases s3 with rfl|rfl<;>grind
theorem same_line{l m:LnQ}(hl:l.ok)(hm:m.ok)(h: ∀t,l.value (m.at t)=0):l=m∨l=m.rev:=by
 have h0:=h 0
 have h1:=h 1
 rw[val_at] at h0 h1
 have hC:m.cutC l=0:=by grind
 have hK:m.cutK l=0:=by grind
 obtain⟨q,q1,q2⟩:=base_q hm.ne
 have hn:=nn_pos hm.ne
 unfold LnQ.cutC at hC
 rw[q2,val_def] at hC
 unfold LnQ.cutK at hK
 simp only[LnQ.nor,LnQ.dir,PtQ.dot] at hK q1 hn hC
 obtain⟨a,b,c⟩:=l
 obtain⟨x,y,z⟩:=m
 simp only at*
 have e1:a*y=b*x:=by
  have:((a*y:Int):Rat)=((b*x:Int):Rat):=by rw[Rat.intCast_mul,Rat.intCast_mul];grind
  exact Rat.intCast_inj.1 this
 have e2:a*z=c*x:=by
  have:((a*z:Int):Rat)=((c*x:Int):Rat):=by rw[Rat.intCast_mul,Rat.intCast_mul];grind
  exact Rat.intCast_inj.1 this
 have e3:b*z=c*y:=by
  have:((b*z:Int):Rat)=((c*y:Int):Rat):=by rw[Rat.intCast_mul,Rat.intCast_mul];grind
  exact Rat.intCast_inj.1 this
 rcases prim_same e1 e2 e3 hl.2 hm.2 with⟨rfl,rfl,rfl⟩|⟨rfl,rfl,rfl⟩
 ·exact .inl rfl
 ·exact .inr rfl
theorem LnQ.ok.rev{l:LnQ}(h:l.ok):l.rev.ok:=by
 obtain⟨h1,h2⟩:=h
 refine⟨?_,?_⟩
 ·simp only[LnQ.rev];omega
 ·simp only[LnQ.rev,Int.natAbs_neg];exact h2
theorem place_neg(l:LnQ): ∀c:CellQ,(∀s∈c,sideAt l s≤0∧s.l≠l)→ ¬0<placeV l c
 |[],_=>by simp[placeV]
 |s::c,h=>by
  have h':=List.forall_mem_cons.1 h
  unfold placeV
  rw[if_neg h'.1.2]
  split
  ·have:=h'.1.1;omega
  ·exact place_neg l c h'.2
theorem place_spec{c:CellQ}{l:LnQ}(hc:GoodC c)(hl:l.ok)(hp:partQ c l=none):
  (0<placeV l c∧ ∀p,InD c p→0<l.value p)∨(¬0<placeV l c∧ ∀p,InD c p→l.value p<0):=by
 have hoff:=fun p (h:InD c p)=>off_line hl.ne hp h
 by_cases hq: ∃q,InD c q∧0<l.value q
 ·left
  obtain⟨q,hq,lq⟩:=hq
  have hall: ∀p,InD c p→0<l.value p:=by
   intro p h
   have:=hoff p h
   by_cases h0:0<l.value p
   ·exact h0
   ·exfalso
    have hn:l.value p<0:=by grind
    have e1:l.value q/(l.value q-l.value p)*(l.value q-l.value p)=l.value q:=by grind
    generalize l.value q/(l.value q-l.value p)=e at*
    have f0:0≤e:=(rat_mul_nonneg_iff (k:=l.value q-l.value p) (by grind)).1 (by grind)
    have f1:e≤1:=by
     have:=(rat_mul_nonneg_iff (s:=1-e) (k:=l.value q-l.value p) (by grind)).1 (by grind)
     grind
    exact hoff _ (hq.seg h f0 f1) (by rw[val_seg];grind)
  refine⟨?_,hall⟩
  cases c with
  |nil=>simp[partQ,partV] at hp
  |cons s c=>
   obtain⟨p1,p2⟩:=hc.edge s List.mem_cons_self
   have hi:=ins_sample p1
   have hr:=closure_nonneg hc.ne hall ((p2 _).1 hi.has)
   unfold placeV
   by_cases h0:sideAt l s=0
   ·rw[if_neg (by simpa using h0)]
    have hz:l.value (s.l.at s.v.sample)=0:=(sgn_zero _).1 h0
    have hge: ∀t,s.v.has t→0≤l.value (s.l.at t):=fun t ht=>closure_nonneg hc.ne hall ((p2 t).1 ht)
    obtain⟨⟨u1,m1,n1⟩,⟨u2,m2,n2⟩⟩:=ins_near hi
    have g1:=hge _ n1
    have g2:=hge _ n2
    rw[val_at] at hz g1 g2
    have hK:s.l.cutK l=0:=by
     rcases rat_tri (s.l.cutK l) with h|h|h
     ·exact h
     ·exfalso
      have:=rat_mul_pos (a:=s.v.sample-u1) (b:=s.l.cutK l) (by grind) h
      grind
     ·exfalso
      have:=rat_mul_pos (a:=u2-s.v.sample) (b:= -s.l.cutK l) (by grind) (by grind)
      grind
    have hz2: ∀t,l.value (s.l.at t)=0:=fun t=>by rw[val_at,hK];rw[hK] at hz;grind
    rcases same_line hl (hc.ok s List.mem_cons_self) hz2 with h|h
    ·rw[if_pos h.symm];decide
    ·exfalso
     have:=hall q hq
     rw[h,val_rev] at this
     have:=hq s List.mem_cons_self
     grind
   ·rw[if_pos h0]
    have hz:l.value (s.l.at s.v.sample)≠0:=fun e=>h0 ((sgn_zero _).2 e)
    exact(sgn_pos _).2 (by grind)
 ·right
  have hall: ∀p,InD c p→l.value p<0:=fun p h=>by
   have:=hoff p h
   have: ¬0<l.value p:=fun h'=>hq ⟨p,h,h'⟩
   grind
  refine⟨place_neg l c fun s hs=>?_,hall⟩
  obtain⟨p1,p2⟩:=hc.edge s hs
  have hr:=closure_nonneg (m:=l.rev) hc.ne (fun p h=>by rw[val_rev];have:=hall p h;grind) ((p2 _).1 (ins_sample p1).has)
  rw[val_rev] at hr
  constructor
  ·have: ¬0<sideAt l s:=fun h=>by have:=(sgn_pos _).1 h;grind
   omega
  ·rintro rfl
   obtain⟨p,hp⟩:=hc.ne
   have:=hall p hp
   have:=hp s hs
   grind
/-! ### clipping -/
theorem clip_iff{c:CellQ}{l:LnQ}(hc:GoodC c)(hl:l.ok):clipB c l=true↔ ∃p,InD c p∧0<l.value p:=by
 unfold clipB
 cases hp:partQ c l with
 |some v=>exact⟨fun _=>(some_sides hl.ne hp).1,fun _=>rfl⟩
 |none=>
  simp only[placeQ,hp,Option.isSome_none,Bool.false_eq_true,if_false,decide_eq_true_iff]
  rcases place_spec hc hl hp with⟨h1,h2⟩|⟨h1,h2⟩
  ·refine⟨fun _=>?_,fun _=>h1⟩
   obtain⟨p,hp⟩:=hc.ne
   exact⟨p,hp,h2 p hp⟩
  ·refine⟨fun h=>absurd h h1,?_⟩
   rintro ⟨p,hp,h⟩
   have:=h2 p hp
   grind
theorem clip_good{c:CellQ}{l:LnQ}(hc:GoodC c)(hl:l.ok)(hb:clipB c l=true):GoodC (clipC c l)∧ ∀p,InD (clipC c l) p↔InD c p∧0<l.value p:=by
 unfold clipC
 cases hp:partQ c l with
 |some v=>exact clip_some hc hl hp
 |none=>
  refine⟨hc,fun p=>?_⟩
  unfold clipB at hb
  simp only[hp,placeQ,Option.isSome_none,Bool.false_eq_true,if_false,decide_eq_true_iff] at hb
  rcases place_spec hc hl hp with⟨h1,h2⟩|⟨h1,h2⟩
  ·exact⟨fun h=>⟨h,h2 p h⟩,fun h=>h.1⟩
  ·exact absurd hb h1
theorem not_zero{c:CellQ}{l:LnQ}(hl:l.ok){p:PtQ}(hp:InD c p)(h0:l.value p=0):(∃q,InD c q∧0<l.value q)∧ ∃q,InD c q∧l.value q<0:=by
 have hn:=nn_pos hl.ne
 constructor
 ·obtain⟨e,he,hm⟩:=hp.open l.nor
  refine⟨_,hm e (Rat.le_of_lt he) Rat.le_refl,?_⟩
  rw[val_mov,h0]
  have:=rat_mul_pos he hn
  grind
 ·obtain⟨e,he,hm⟩:=hp.open ⟨-l.nor.x, -l.nor.y⟩
  refine⟨_,hm e (Rat.le_of_lt he) Rat.le_refl,?_⟩
  rw[val_mov,h0]
  have:=rat_mul_pos he hn
  simp only[PtQ.dot] at this⊢
  grind
inductive Lies (c:CellQ) (l:LnQ):Prop
 |left (h1:clipB c l.rev=false) (h: ∀p,InD c p→0<l.value p)
 |right (h1:clipB c l.rev=true) (h2:clipB c l=false) (h: ∀p,InD c p→l.value p<0)
 |both (h1:clipB c l.rev=true) (h2:clipB c l=true) (g1:GoodC (clipC c l)) (g2:GoodC (clipC c l.rev))
   (e1: ∀p,InD (clipC c l) p↔InD c p∧0<l.value p) (e2: ∀p,InD (clipC c l.rev) p↔InD c p∧l.value p<0)
theorem lies{c:CellQ}{l:LnQ}(hc:GoodC c)(hl:l.ok):Lies c l:=by
 have hr:=clip_iff hc hl.rev
 have hi:=clip_iff hc hl
 cases h1:clipB c l.rev with
 |false=>
  refine .left h1 fun p hp=>?_
  have hn: ¬ ∃q,InD c q∧l.value q<0:=by
   rintro ⟨q,a,b⟩
   have:=hr.2 ⟨q,a,by rw[val_rev];grind⟩
   rw[h1] at this;exact absurd this (by decide)
  have n1: ¬l.value p<0:=fun h=>hn ⟨p,hp,h⟩
  have n2:l.value p≠0:=fun h=>hn (not_zero hl hp h).2
  grind
 |true=>
  cases h2:clipB c l with
  |false=>
   refine .right h1 h2 fun p hp=>?_
   have hn: ¬ ∃q,InD c q∧0<l.value q:=by
    intro h
    have:=hi.2 h
    rw[h2] at this;exact absurd this (by decide)
   have n1: ¬0<l.value p:=fun h=>hn ⟨p,hp,h⟩
   have n2:l.value p≠0:=fun h=>hn (not_zero hl hp h).1
   grind
  |true=>
   obtain⟨g1,e1⟩:=clip_good hc hl h2
   obtain⟨g2,e2⟩:=clip_good hc hl.rev h1
   refine .both h1 h2 g1 g2 e1 fun p=>?_
   rw[e2,val_rev]
   constructor<;>rintro ⟨a,b⟩<;>exact⟨a,by grind⟩
/-! ### trees -/
theorem Tr.restrict_A{l:LnQ}{e:CellQ}(X Y:Tr)(h:clipB e l.rev=false):(Tr.node l X Y).restrict e=X.restrict e:=by
 rw[Tr.restrict,h];rfl
theorem Tr.restrict_B{l:LnQ}{e:CellQ}(X Y:Tr)(h:clipB e l.rev=true)(h2:clipB e l=false):(Tr.node l X Y).restrict e=Y.restrict e:=by
 rw[Tr.restrict,h,h2];rfl
theorem Tr.restrict_C{l:LnQ}{e:CellQ}(X Y:Tr)(h:clipB e l.rev=true)(h2:clipB e l=true):(Tr.node l X Y).restrict e=Tr.joinQ l (X.restrict (clipC e l)) (Y.restrict (clipC e l.rev)):=by
 rw[Tr.restrict,h,h2];rfl
def canonQ:List LnQ→CellQ→Option CellQ
 |[],c=>some c
 |l::t,c=>if clipB c l then canonQ t (clipC c l) else none
theorem canon_good: ∀{ls:List LnQ} {c e:CellQ},GoodC c→(∀l∈ls,l.ok)→canonQ ls c=some e→GoodC e∧ ∀p,InD e p↔InD c p∧ ∀l∈ls,0<l.value p
 |[],c,e,hc,_,h=>by
  obtain rfl:c=e:=by simpa[canonQ] using h
  exact⟨hc,fun p=>⟨fun h=>⟨h,fun l hl=>absurd hl (by simp)⟩,fun h=>h.1⟩⟩
 |l::t,c,e,hc,hl,h=>by
  have hl':=List.forall_mem_cons.1 hl
  rw[canonQ] at h
  split at h
  ·rename_i hb
   obtain⟨g1,g2⟩:=clip_good hc hl'.1 hb
   obtain⟨k1,k2⟩:=canon_good g1 hl'.2 h
   refine⟨k1,fun p=>?_⟩
   rw[k2,g2,List.forall_mem_cons,and_assoc]
  ·exact absurd h (by simp)
theorem canon_some: ∀{ls:List LnQ} {c:CellQ},GoodC c→(∀l∈ls,l.ok)→(∃p,InD c p∧ ∀l∈ls,0<l.value p)→ ∃e,canonQ ls c=some e
 |[],c,_,_,_=>⟨c,rfl⟩
 |l::t,c,hc,hl,⟨p,h1,h2⟩=>by
  have hl':=List.forall_mem_cons.1 hl
  have h2':=List.forall_mem_cons.1 h2
  have hb:=(clip_iff hc hl'.1).2 ⟨p,h1,h2'.1⟩
  obtain⟨g1,g2⟩:=clip_good hc hl'.1 hb
  rw[canonQ,if_pos hb]
  exact canon_some g1 hl'.2 ⟨p,(g2 p).2 ⟨h1,h2'.1⟩,h2'.2⟩
end Go.Sx
end

section
set_option maxRecDepth 100000
namespace Go.Sx
open Go
theorem edge_zero{c:CellQ}(hc:GoodC c){s:FrQ}(hs:s∈c){m:LnQ}(hm:m.ok)(h: ∀p,InD c p→0<m.value p)(hz:m.value (s.l.at s.v.sample)=0):m=s.l:=by
 obtain⟨p1,p2⟩:=hc.edge s hs
 have hi:=ins_sample p1
 have hge: ∀t,s.v.has t→0≤m.value (s.l.at t):=fun t ht=>closure_nonneg hc.ne h ((p2 t).1 ht)
 obtain⟨⟨u1,m1,n1⟩,⟨u2,m2,n2⟩⟩:=ins_near hi
 have g1:=hge _ n1
 have g2:=hge _ n2
 rw[val_at] at hz g1 g2
 have hK:s.l.cutK m=0:=by
  rcases rat_tri (s.l.cutK m) with h|h|h
  ·exact h
  ·exfalso
   have:=rat_mul_pos (a:=s.v.sample-u1) (b:=s.l.cutK m) (by grind) h
   grind
  ·exfalso
   have:=rat_mul_pos (a:=u2-s.v.sample) (b:= -s.l.cutK m) (by grind) (by grind)
   grind
 have hz2: ∀t,m.value (s.l.at t)=0:=fun t=>by rw[val_at,hK];rw[hK] at hz;grind
 rcases same_line hm (hc.ok s hs) hz2 with h'|h'
 ·exact h'
 ·exfalso
  obtain⟨q,hq⟩:=hc.ne
  have:=h q hq
  rw[h',val_rev] at this
  have:=hq s hs
  grind
def partL(l:LnQ):List LnQ→IvQ→Option IvQ
 |[],v=>some v
 |m::t,v=>if m=l then partL l t v else if l.cutB v m then partL l t (l.cutV v m) else none
def InL(c:List LnQ)(p:PtQ):Prop:= ∀m∈c,0<m.value p
theorem partL_some(l:LnQ): ∀(c:List LnQ) (v w:IvQ),v.Pos→partL l c v=some w→
  w.Pos∧(∀t,w.ins t↔v.ins t∧ ∀m∈c,m≠l→0<m.value (l.at t))
 |[],v,w,hv,h=>by
  obtain rfl:v=w:=by simpa[partL] using h
  exact⟨hv,fun t=>⟨fun h=>⟨h,fun s hs=>absurd hs (by simp)⟩,fun h=>h.1⟩⟩
 |m::c,v,w,hv,h=>by
  rw[partL] at h
  split at h
  ·rename_i hm
   obtain⟨h1,h2⟩:=partL_some l c _ w hv h
   refine⟨h1,fun t=>?_⟩
   rw[h2,List.forall_mem_cons]
   exact⟨fun h=>⟨h.1,fun h'=>absurd hm h',h.2⟩,fun h=>⟨h.1,h.2.2⟩⟩
  ·rename_i hm
   split at h
   ·rename_i hb
    obtain⟨h1,h2⟩:=partL_some l c _ w (cut_Pos hv hb) h
    refine⟨h1,fun t=>?_⟩
    rw[h2,cut_ins hb,List.forall_mem_cons,and_assoc]
    exact⟨fun h=>⟨h.1,fun _=>h.2.1,h.2.2⟩,fun h=>⟨h.1,h.2.1 hm,h.2.2⟩⟩
   ·exact absurd h (by simp)
theorem partL_none(l:LnQ): ∀(c:List LnQ) (v:IvQ),v.Pos→partL l c v=none→ ∀t,v.has t→ ¬ ∀m∈c,m≠l→0<m.value (l.at t)
 |[],v,hv,h=>by simp[partL] at h
 |m::c,v,hv,h=>by
  intro t ht hd
  have hd':=List.forall_mem_cons.1 hd
  rw[partL] at h
  split at h
  ·exact partL_none l c _ hv h t ht hd'.2
  ·rename_i hm
   split at h
   ·rename_i hb
    exact partL_none l c _ (cut_Pos hv hb) h t ((cut_has hb t).2 ⟨ht,Rat.le_of_lt (hd'.1 hm)⟩) hd'.2
   ·rename_i hb
    have:=cut_no hv (by simpa using hb) ht
    have:=hd'.1 hm
    grind
def innerB(c:List LnQ):Bool:=c.isEmpty||c.any (fun l=>(partL l c IvQ.all).isSome)
theorem mem_canonQ: ∀{ls:List LnQ} {c e:CellQ},canonQ ls c=some e→ ∀s∈e,s.l∈ls∨ ∃s'∈c,s'.l=s.l
 |[],c,e,h,s,hs=>by
  obtain rfl:c=e:=by simpa[canonQ] using h
  exact .inr ⟨s,hs,rfl⟩
 |l::t,c,e,h,s,hs=>by
  rw[canonQ] at h
  split at h
  ·rcases mem_canonQ h s hs with h1|⟨s',h1,h2⟩
   ·exact .inl (List.mem_cons_of_mem _ h1)
   ·unfold clipC at h1
    split at h1
    ·rcases mem_insQ.1 h1 with rfl|h1
     ·exact .inl (by rw[←h2];exact List.mem_cons_self)
     ·obtain⟨s1,m1,_,rfl⟩:=mem_cutsV.1 h1
      exact .inr ⟨s1,m1,h2⟩
    ·exact .inr ⟨s',h1,h2⟩
  ·exact absurd h (by simp)
theorem canon_sides{c:List LnQ}(hok: ∀l∈c,l.ok)(hne: ∃p,InL c p): ∃e,canonQ c []=some e∧GoodC e∧(∀p,InD e p↔InL c p)∧ ∀s∈e,s.l∈c∧(partL s.l c IvQ.all).isSome=true:=by
 obtain⟨p,hp⟩:=hne
 obtain⟨e,he⟩:=canon_some GoodC.nil hok ⟨p,fun s hs=>absurd hs (by simp),hp⟩
 obtain⟨g1,g2⟩:=canon_good GoodC.nil hok he
 have g3: ∀p,InD e p↔InL c p:=fun p=>by
  rw[g2]
  exact⟨fun h=>h.2,fun h=>⟨fun s hs=>absurd hs (by simp),h⟩⟩
 refine⟨e,he,g1,g3,fun s hs=>?_⟩
 have hm:s.l∈c:=by
  rcases mem_canonQ he s hs with h|⟨_,h,_⟩
  ·exact h
  ·exact absurd h (by simp)
 refine⟨hm,?_⟩
 cases hp:partL s.l c IvQ.all with
 |some w=>rfl
 |none=>
  exfalso
  obtain⟨p1,p2⟩:=g1.edge s hs
  have hC:=(p2 s.v.sample).1 (ins_sample p1).has
  refine partL_none s.l c _ all_Pos hp s.v.sample (all_has _) fun m hmc hne=>?_
  have hall: ∀p,InD e p→0<m.value p:=fun p hp=>(g3 p).1 hp m hmc
  have h0:=closure_nonneg g1.ne hall hC
  have h1:m.value (s.l.at s.v.sample)≠0:=fun hz=>hne (edge_zero g1 hs (hok m hmc) hall hz)
  grind
theorem inner_iff{c:List LnQ}(hok: ∀l∈c,l.ok):innerB c=true↔ ∃p,InL c p:=by
 unfold innerB
 rw[Bool.or_eq_true,List.isEmpty_iff,List.any_eq_true]
 constructor
 ·rintro (rfl|⟨l,hl,h⟩)
  ·exact⟨⟨0,0⟩,fun m hm=>absurd hm (by simp)⟩
  ·obtain⟨w,hw⟩:=Option.isSome_iff_exists.1 h
   obtain⟨w1,w2⟩:=partL_some l c _ w all_Pos hw
   have hi:=((w2 w.sample).1 (ins_sample w1)).2
   have h0:=at_self (hok l hl).ne w.sample
   have hd:InD ((c.filter (fun m=>decide (m≠l))).map (fun m=>(⟨m,IvQ.all⟩:FrQ))) (l.at w.sample):=by
    intro s hs
    obtain⟨m,hm,rfl⟩:=List.mem_map.1 hs
    rw[List.mem_filter,decide_eq_true_iff] at hm
    exact hi m hm.1 hm.2
   obtain⟨e,he,ho⟩:=hd.open l.nor
   refine⟨movQ (l.at w.sample) l.nor e,fun m hm=>?_⟩
   by_cases hml:m=l
   ·subst hml
    rw[val_mov,h0]
    have:=rat_mul_pos he (nn_pos (hok m hl).ne)
    grind
   ·exact ho e (Rat.le_of_lt he) Rat.le_refl ⟨m,IvQ.all⟩ (List.mem_map.2 ⟨m,List.mem_filter.2 ⟨hm,by simpa using hml⟩,rfl⟩)
 ·intro hne
  obtain⟨e,h1,h2,h3,h4⟩:=canon_sides hok hne
  cases c with
  |nil=>exact .inl rfl
  |cons l c=>
   right
   cases e with
   |nil=>
    exfalso
    have:=(h3 (l.at 0)).1 (fun s hs=>absurd hs (by simp)) l List.mem_cons_self
    rw[at_self (hok l List.mem_cons_self).ne] at this
    exact absurd this (by decide)
   |cons s e=>
    obtain⟨a,b⟩:=h4 s List.mem_cons_self
    exact⟨s.l,a,b⟩
def angIdx(out:List LnQ)(l:LnQ):Nat:=(out.takeWhile (fun x=>decide (angleQ x.dir l.dir<0))).length
def canonIns(out:List LnQ)(l:LnQ):List LnQ:=if out[angIdx out l]? =some l then out else out.take (angIdx out l)++l::out.drop (angIdx out l)
def canonF(c:List LnQ):List LnQ→List LnQ→List LnQ
 |[],out=>out
 |l::t,out=>canonF c t (if(partL l c IvQ.all).isSome then canonIns out l else out)
def canonL(c:List LnQ):List LnQ:=canonF c c []
theorem mem_canonIns{out:List LnQ}{l m:LnQ}:m∈canonIns out l↔m=l∨m∈out:=by
 unfold canonIns
 split
 ·rename_i h
  exact⟨fun h=> .inr h,fun h'=>h'.elim (fun e=>e▸List.mem_of_getElem? h) id⟩
 ·generalize angIdx out l=n
  have h:=List.take_append_drop n out
  rw[List.mem_append,List.mem_cons]
  constructor
  ·rintro (h1|h1|h1)
   ·exact .inr (List.mem_of_mem_take h1)
   ·exact .inl h1
   ·exact .inr (List.mem_of_mem_drop h1)
  ·rintro (h1|h1)
   ·exact .inr (.inl h1)
   ·rw[←h,List.mem_append] at h1
    rcases h1 with h1|h1
    ·exact .inl h1
    ·exact .inr (.inr h1)
theorem mem_canonF{c:List LnQ}{m:LnQ}: ∀{t out:List LnQ},m∈canonF c t out↔m∈out∨m∈t∧(partL m c IvQ.all).isSome=true
 |[],out=>by simp[canonF]
 |l::t,out=>by
  rw[canonF,mem_canonF]
  split
  ·rename_i h
   rw[mem_canonIns,List.mem_cons]
   constructor
   ·rintro ((rfl|h1)|⟨h1,h2⟩)
    ·exact .inr ⟨.inl rfl,h⟩
    ·exact .inl h1
    ·exact .inr ⟨.inr h1,h2⟩
   ·rintro (h1|⟨rfl|h1,h2⟩)
    ·exact .inl (.inr h1)
    ·exact .inl (.inl rfl)
    ·exact .inr ⟨h1,h2⟩
  ·rename_i h
   rw[List.mem_cons]
   constructor
   ·rintro (h1|⟨h1,h2⟩)
    ·exact .inl h1
    ·exact .inr ⟨.inr h1,h2⟩
   ·rintro (h1|⟨rfl|h1,h2⟩)
    ·exact .inl h1
    ·exact absurd h2 h
    ·exact .inr ⟨h1,h2⟩
theorem mem_canonL{c:List LnQ}{m:LnQ}:m∈canonL c↔m∈c∧(partL m c IvQ.all).isSome=true:=by
 unfold canonL;rw[mem_canonF];simp
theorem canonL_in{c:List LnQ}(hok: ∀l∈c,l.ok)(hne: ∃p,InL c p)(p:PtQ):InL (canonL c) p↔InL c p:=by
 constructor
 ·intro h
  obtain⟨e,h1,h2,h3,h4⟩:=canon_sides hok hne
  exact(h3 p).1 fun s hs=>h s.l (mem_canonL.2 (h4 s hs))
 ·intro h m hm;exact h m (mem_canonL.1 hm).1
def placeL(c:List LnQ)(l:LnQ):Int:=if innerB (c++[l])&&innerB (c++[l.rev]) then 0 else if innerB (c++[l]) then 1 else-1
def Tr.restrictL:Tr→List LnQ→Tr
 | .leaf b,_=> .leaf b
 | .node l x y,c=>if placeL c l=1 then x.restrictL c else if placeL c l= -1 then y.restrictL c else joinQ l (x.restrictL (canonL (c++[l]))) (y.restrictL (canonL (c++[l.rev])))
theorem InL_app{c:List LnQ}{l:LnQ}{p:PtQ}:InL (c++[l]) p↔InL c p∧0<l.value p:=by
 unfold InL
 rw[List.forall_mem_append]
 simp
theorem ok_app{c:List LnQ}{l:LnQ}(hok: ∀m∈c,m.ok)(hl:l.ok): ∀m∈c++[l],m.ok:=by
 rw[List.forall_mem_append]
 exact⟨hok,by simpa using hl⟩
theorem Tr.restrictL_eq: ∀(t:Tr) (c:List LnQ) (d:CellQ),t.all LnQ.ok→(∀l∈c,l.ok)→GoodC d→(∀p,InD d p↔InL c p)→t.restrictL c=t.restrict d
 | .leaf b,c,d,_,_,_,_=>rfl
 | .node l x y,c,d,h,hc,hd,he=>by
  obtain⟨hl,hx,hy⟩:=h
  have i1:=inner_iff (ok_app hc hl)
  have i2:=inner_iff (ok_app hc hl.rev)
  obtain⟨p0,hp0⟩:=hd.ne
  rcases lies hd hl with⟨a1,a⟩|⟨a1,a2,a⟩|⟨a1,a2,ag1,ag2,ae1,ae2⟩
  ·have b1:innerB (c++[l])=true:=i1.2 ⟨p0,InL_app.2 ⟨(he p0).1 hp0,a p0 hp0⟩⟩
   have b2:innerB (c++[l.rev])=false:=by
    rw[←Bool.not_eq_true,i2]
    rintro ⟨p,hp⟩
    have hp:=InL_app.1 hp
    have:=a p ((he p).2 hp.1)
    rw[val_rev] at hp
    grind
   rw[Tr.restrict_A _ _ a1,Tr.restrictL,placeL,b1,b2]
   exact x.restrictL_eq c d hx hc hd he
  ·have b2:innerB (c++[l.rev])=true:=i2.2 ⟨p0,InL_app.2 ⟨(he p0).1 hp0,by rw[val_rev];have:=a p0 hp0;grind⟩⟩
   have b1:innerB (c++[l])=false:=by
    rw[←Bool.not_eq_true,i1]
    rintro ⟨p,hp⟩
    have hp:=InL_app.1 hp
    have:=a p ((he p).2 hp.1)
    grind
   rw[Tr.restrict_B _ _ a1 a2,Tr.restrictL,placeL,b1,b2]
   exact y.restrictL_eq c d hy hc hd he
  ·have n1: ∃p,InL (c++[l]) p:=by
    obtain⟨p,hp⟩:=ag1.ne
    exact⟨p,InL_app.2 ⟨(he p).1 ((ae1 p).1 hp).1,((ae1 p).1 hp).2⟩⟩
   have n2: ∃p,InL (c++[l.rev]) p:=by
    obtain⟨p,hp⟩:=ag2.ne
    exact⟨p,InL_app.2 ⟨(he p).1 ((ae2 p).1 hp).1,by rw[val_rev];have:=((ae2 p).1 hp).2;grind⟩⟩
   rw[Tr.restrict_C _ _ a1 a2,Tr.restrictL,placeL,i1.2 n1,i2.2 n2]
   have k1:=x.restrictL_eq (canonL (c++[l])) (clipC d l) hx (fun m hm=>ok_app hc hl m (mem_canonL.1 hm).1) ag1 fun p=>by
    rw[canonL_in (ok_app hc hl) n1,ae1,InL_app,he]
   have k2:=y.restrictL_eq (canonL (c++[l.rev])) (clipC d l.rev) hy (fun m hm=>ok_app hc hl.rev m (mem_canonL.1 hm).1) ag2 fun p=>by
    rw[canonL_in (ok_app hc hl.rev) n2,ae2,InL_app,he,val_rev]
    constructor<;>rintro ⟨a,b⟩<;>exact⟨a,by grind⟩
   rw[k1,k2]
   rfl
end Go.Sx
end

section
set_option maxRecDepth 100000
namespace Go.Sx
open Go Go.Proofs
structure IvV where
 lo:RV
 hi:RV
 nl:Bool
 nh:Bool
def IvV.v(z:IvV):Value:= .agg ⟨[.int .i64 z.lo.n, .int .i64 z.lo.d, .pointer z.lo.p, .int .i64 z.hi.n, .int .i64 z.hi.d, .pointer z.hi.p, .bool z.nl, .bool z.nh]⟩
section
variable {P:Program} {C:Ctx} {n:Nat} {fr:Fr} {own own' own1:List Own} {G:Gh} {Φ:Act→World→Prop}
variable {dst:Option Nat} {t t' ty':TypeId} {pos:String} {af:Array Edge} {gd:Option (Nat×Bool)} {x y:Operand} {e s by_:Nat}
theorem chS{v:Value}{b off k:Nat}{cs cs':List Value}{ty:TypeId}{lo:Bool}(hx:opv fr x=some (.pointer (some ⟨b,off,none⟩)))(hy:opv fr y=some v)[hs:TyA P t k][ho:OAt own b cs ty lo]
  (hk:(cellsL v).length=k)(hl:off+k≤cs.length)(hf:(cellsL v).all flat=true)(hd:dstOk n dst=true)(h:St C n (put fr dst undef) own' G Φ)
  (hc:ovw cs off (cellsL v)=cs':=by first|(dsimp only[ovw,cellsL,zs1,zs2,Nat.reduceAdd,RV.v,LV.v,PV.v,IvV.v];done)|exact rfl)(hu:OUpd own b cs ty lo cs' own':=by repeat (first|exact .hd .. |apply OUpd.tl)):
  Ch P C n fr own G ⟨dst, .store t x y,ty',pos,af,gd⟩ Φ:=ch_store hx hy (hc▸hu) hk hl hf hd h
end
structure IsIv (k:Nat) (G:Gh) (z:IvV) (v:IvQ):Prop where
 lo:IsR k G z.lo v.lo
 hi:IsR k G z.hi v.hi
 nl:z.nl=v.nl
 nh:z.nh=v.nh
end Go.Sx
end

section
set_option maxRecDepth 100000
namespace Go.Sx
open Go Go.Proofs
def orQ:List Int→Int
 |[]=>0
 |x::t=>if x≠0 then x else orQ t
def cmpQ(l m:LnQ):Int:=orQ [rcmp l.a m.a,rcmp l.b m.b,rcmp l.c m.c]
end Go.Sx
end

section
set_option maxRecDepth 100000
namespace Go.Sx
open Go Go.Proofs
structure FrV where
 l:LV
 v:IvV
def FrV.val(z:FrV):Value:= .agg ⟨[.int .i64 z.l.a.n, .int .i64 z.l.a.d, .pointer z.l.a.p, .int .i64 z.l.b.n, .int .i64 z.l.b.d, .pointer z.l.b.p, .int .i64 z.l.c.n, .int .i64 z.l.c.d, .pointer z.l.c.p, .int .i64 z.v.lo.n, .int .i64 z.v.lo.d, .pointer z.v.lo.p, .int .i64 z.v.hi.n, .int .i64 z.v.hi.d, .pointer z.v.hi.p, .bool z.v.nl, .bool z.v.nh]⟩
structure IsFr (k:Nat) (G:Gh) (z:FrV) (f:FrQ):Prop where
 l:IsL k G z.l f.l
 v:IsIv (25*k+6) G z.v f.v
inductive All2 {α β:Type} (R:α→β→Prop):List α→List β→Prop
 |nil:All2 R [] []
 |cons {a b us bs} (h:R a b) (t:All2 R us bs):All2 R (a::us) (b::bs)
theorem All2.len{α β:Type}{R:α→β→Prop}{us:List α}{bs:List β}(h:All2 R us bs):us.length=bs.length:=by
 induction h with
 |nil=>rfl
 |cons _ _ ih=>simp[ih]
theorem All2.imp{α β:Type}{R S:α→β→Prop}{us:List α}{bs:List β}(h:All2 R us bs)(k: ∀a b,R a b→S a b):All2 S us bs:=by
 induction h with
 |nil=>exact .nil
 |cons h _ ih=>exact .cons (k _ _ h) ih
theorem All2.get{α β:Type}{R:α→β→Prop}{us:List α}{bs:List β}(h:All2 R us bs){i:Nat}{b:β}(hi:bs[i]? =some b): ∃a,us[i]? =some a∧R a b:=by
 induction h generalizing i with
 |nil=>simp at hi
 | @cons a b' us bs h t ih=>
  cases i with
  |zero=>simp at hi;subst hi;exact⟨a,rfl,h⟩
  |succ i=>simpa using ih (i:=i) (by simpa using hi)
theorem All2.app{α β:Type}{R:α→β→Prop}{us us':List α}{bs bs':List β}(h:All2 R us bs)(k:All2 R us' bs'):All2 R (us++us') (bs++bs'):=by
 induction h with
 |nil=>exact k
 |cons h _ ih=>exact .cons h ih
structure IsC (k:Nat) (G:Gh) (x:SV) (c:CellQ):Prop where
 ex: ∃fs:List FrV,IsSl G 17 x (fs.map FrV.val)∧All2 (IsFr k G) fs c
end Go.Sx
end

section
set_option maxRecDepth 100000
namespace Go.Sx
open Go Go.Proofs
end Go.Sx
end

section
set_option maxRecDepth 100000
namespace Go.Sx
open Go Go.Proofs
section
variable {P:Program} {C:Ctx} {n:Nat} {fr:Fr} {own own':List Own} {G:Gh} {Φ:Act→World→Prop}
variable {dst:Option Nat} {t t' ty':TypeId} {pos:String} {af:Array Edge} {gd:Option (Nat×Bool)} {x y:Operand} {e s by_:Nat}
theorem st_apart{o1 o2:Own}{rest:List Own}(h:o1.b≠o2.b→St C n fr (o1::o2::rest) G Φ):St C n fr (o1::o2::rest) G Φ:=
 fun a w rl=>h ((List.pairwise_cons.1 rl.h.nd).1 _ List.mem_cons_self) a w rl
theorem yd_slice_loB[hT:TySl P t e s by_]{k:IntKind}{b off len cap:Nat}{l:Int}(hx:opv fr x=some (.slice (some ⟨b,off,none⟩) len cap))(hy:opv fr y=some (.int k l))(h0:0≤l)(h1:l≤len)(h2:l<cap):
  Yd P C fr own G ⟨dst, .slice t x (some y) none none,ty',pos,af,gd⟩ (.slice (some ⟨b,off+l.toNat*s,none⟩) (len-l.toNat) (cap-l.toNat)):=by
 have h:=yd_slice_lo (P:=P) (C:=C) (own:=own) (G:=G) (t:=t) (dst:=dst) (ty':=ty') (pos:=pos) (af:=af) (gd:=gd) (by_:=by_) hx hy h0 h1
 unfold slTo at h
 rw[if_neg (by omega)] at h
 simpa[addr_add] using h
end
end Go.Sx
end

section
set_option maxRecDepth 100000
namespace Go.Sx
open Go Go.Proofs
end Go.Sx
end

section
set_option maxRecDepth 100000
namespace Go.Sx
open Go Go.Proofs
section
variable {P:Program} {C:Ctx} {n:Nat} {fr:Fr} {own own':List Own} {G:Gh} {Φ:Act→World→Prop}
variable {dst:Option Nat} {t t' ty':TypeId} {pos:String} {af:Array Edge} {gd:Option (Nat×Bool)} {x y:Operand} {e s by_:Nat}
end
end Go.Sx
end

section
set_option maxRecDepth 100000
namespace Go.Sx
open Go Go.Proofs
end Go.Sx
end

section
set_option maxRecDepth 100000
namespace Go.Sx
open Go Go.Proofs
def IsT(k:Nat)(G:Gh):Tr→Option Addr→Prop
 | .leaf b,p=> ∃n,p=some ⟨n,0,none⟩∧G n=some [.int .i64 0, .int .i64 0, .pointer none, .int .i64 0, .int .i64 0, .pointer none, .int .i64 0, .int .i64 0, .pointer none, .pointer none, .pointer none, .bool b]
 | .node l x y,p=> ∃(n:Nat) (z:LV) (q r:Option Addr),p=some ⟨n,0,none⟩∧G n=some [.int .i64 z.a.n, .int .i64 z.a.d, .pointer z.a.p, .int .i64 z.b.n, .int .i64 z.b.d, .pointer z.b.p, .int .i64 z.c.n, .int .i64 z.c.d, .pointer z.c.p, .pointer q, .pointer r, .bool false]∧IsL k G z l∧IsT k G x q∧IsT k G y r
end Go.Sx
end

section
set_option maxRecDepth 100000
namespace Go.Sx
open Go Go.Proofs
structure ND where
 a:IV
 b:IV
 c:IV
 l:Int
 r:Int
def ND.val(z:ND):Value:= .agg ⟨[.bool z.a.neg, .slice z.a.a.a z.a.a.n z.a.a.c, .bool z.b.neg, .slice z.b.a.a z.b.a.n z.b.a.c, .bool z.c.neg, .slice z.c.a.a z.c.a.n z.c.a.c, .int .i64 z.l, .int .i64 z.r]⟩
structure IsND (k:Nat) (G:Gh) (z:ND) (n:NQ):Prop where
 a:IsI k G z.a n.l.a
 b:IsI k G z.b n.l.b
 c:IsI k G z.c n.l.c
 l:z.l=n.a
 r:z.r=n.b
theorem IsND.up{k:Nat}{A G:Gh}{z:ND}{n:NQ}(h:IsND k A z n)[GL A G]:IsND k G z n:=⟨h.a.up,h.b.up,h.c.up,h.l,h.r⟩
structure IsNs (k:Nat) (G:Gh) (x:SV) (ns:List NQ):Prop where
 ex: ∃zs:List ND,IsSl G 8 x (zs.map ND.val)∧All2 (IsND k G) zs ns
def seenL(n i:Nat):List Value:=(List.range n).map fun j=> .bool (decide (j<i))
end Go.Sx
end

section
set_option maxRecDepth 100000
namespace Go.Sx
open Go Go.Proofs
end Go.Sx
end

section
set_option maxRecDepth 100000
namespace Go.Sx
open Go Go.Proofs
theorem ND.len8(zs:List ND): ∀v∈zs.map ND.val,(cellsL v).length=8:=fun v hv=>by
 obtain⟨f,_,rfl⟩:=List.mem_map.1 hv;rfl
theorem ND.flat(zs:List ND): ∀v∈zs.map ND.val,∀c∈cellsL v,Sx.flat c=true:=fun v hv c hc=>by
 obtain⟨f,_,rfl⟩:=List.mem_map.1 hv
 simp only[ND.val,cellsL,List.mem_cons,List.not_mem_nil,or_false] at hc
 rcases hc with rfl|rfl|rfl|rfl|rfl|rfl|rfl|rfl<;>rfl
theorem All2.set{α β:Type}{R:α→β→Prop}{us:List α}{bs:List β}(h:All2 R us bs){a:α}{b:β}(hr:R a b)(i:Nat):All2 R (us.set i a) (bs.set i b):=by
 induction h generalizing i with
 |nil=>simp;exact .nil
 |cons h t ih=>
  cases i with
  |zero=>exact .cons hr t
  |succ i=>exact .cons h (ih i)
theorem nodes_set(zs:List ND)(rest:List Value)(i j:Nat)(x:Value)(z:ND)(hi:i<zs.length)(hj:j<8)(hz:cellsL z.val=(cellsL (zs[i]).val).set j x):
  (flatL (zs.map ND.val)++rest).set (i*8+j) x=flatL ((zs.set i z).map ND.val)++rest:=by
 have hi':i<(zs.map ND.val).length:=by simpa using hi
 rw[flat_set hj _ i hi' (ND.len8 zs),List.getElem_map,←hz,List.map_set,List.set_eq_take_append_cons_drop,if_pos hi',flatL_app]
 have e:flatL (z.val::(zs.map ND.val).drop (i+1))=cellsL z.val++flatL ((zs.map ND.val).drop (i+1)):=by simp[flatL]
 rw[e]
 simp[List.append_assoc]
def apiClo(ob wb:Nat):Value:= .func (.func 111) #[] #[.pointer (some ⟨ob,0,none⟩), .pointer (some ⟨wb,0,none⟩)]
end Go.Sx
end

section
set_option maxRecDepth 100000
namespace Go.Sx
open Go Go.Proofs
structure PtV where
 x:SV
 p:Option Addr
def PtV.val(z:PtV):Value:= .agg ⟨[.slice z.x.a z.x.n z.x.c, .pointer z.p]⟩
structure IsPt (k:Nat) (G:Gh) (z:PtV) (b:Bool×CellQ):Prop where
 c:IsC k G z.x b.2
 t:IsT k G (.leaf b.1) z.p
structure IsPs (k:Nat) (G:Gh) (w:SV) (ps:List (Bool×CellQ)):Prop where
 ex: ∃zs:List PtV,IsSl G 2 w (zs.map PtV.val)∧All2 (IsPt k G) zs ps
end Go.Sx
end

section
set_option maxRecDepth 100000
namespace Go.Sx
open Go Go.Proofs
structure LI where
 a:IV
 b:IV
 c:IV
def LI.val(z:LI):Value:= .agg ⟨[.bool z.a.neg, .slice z.a.a.a z.a.a.n z.a.a.c, .bool z.b.neg, .slice z.b.a.a z.b.a.n z.b.a.c, .bool z.c.neg, .slice z.c.a.a z.c.a.n z.c.a.c]⟩
structure IsLI (k:Nat) (G:Gh) (z:LI) (l:LnQ):Prop where
 a:IsI k G z.a l.a
 b:IsI k G z.b l.b
 c:IsI k G z.c l.c
structure IsLIs (k:Nat) (G:Gh) (x:SV) (ls:List LnQ):Prop where
 ex: ∃zs:List LI,IsSl G 6 x (zs.map LI.val)∧All2 (IsLI k G) zs ls
structure IsLns (k:Nat) (G:Gh) (x:SV) (ls:List LnQ):Prop where
 ex: ∃zs:List LV,IsSl G 9 x (zs.map LV.v)∧All2 (IsL k G) zs ls
end Go.Sx
end

section
set_option maxRecDepth 100000
namespace Go.Sx
open Go Go.Proofs
theorem eI_eq{a b:Int}(h:a=b):eI a=eI b:=by rw[h]
theorem eQ_int(z:Int):eQ (z:Rat)= .ag [.v (.bool (decide (z<0))),dN z.natAbs, .sl []]:=by unfold eQ;rw[Rat.num_intCast,Rat.den_intCast];rfl
theorem rat_of_den{a:Rat}(h:a.den=1):((a.num:Int):Rat)=a:=Rat.ext (Rat.num_intCast _) (by rw[Rat.den_intCast,h])
theorem plus_int{a b:Rat}(ha:a.den=1)(hb:b.den=1):a+b=((a.num+b.num:Int):Rat):=by
 rw[Rat.intCast_add,rat_of_den ha,rat_of_den hb]
theorem times_int{a b:Rat}(ha:a.den=1)(hb:b.den=1):a*b=((a.num*b.num:Int):Rat):=by
 rw[Rat.intCast_mul,rat_of_den ha,rat_of_den hb]
theorem dD_len(n:Nat)(h:0<n):(if n=1 then [] else(dg n).map dU).length=0↔n=1:=by
 by_cases q:n=1
 ·simp[q]
 ·rw[if_neg q,List.length_map,dg_len_zero];omega
theorem dD_of{n:Nat}(h:n≠1):dD n=dN n:=by unfold dD;rw[if_neg h];rfl
theorem cmpN_one{g:Nat}:(cmpN g 1=0)↔g=1:=by
 unfold cmpN
 constructor
 ·intro h;split at h
  ·exact absurd h (by decide)
  ·split at h
   ·assumption
   ·exact absurd h (by decide)
 ·rintro rfl;rfl
theorem mk_num{x:Int}{d:Nat}(hd:0<d):zv (decide (x<0)) (x.natAbs/Nat.gcd x.natAbs d)=(mkRat x d).num:=by
 rw[Rat.num_mkRat,if_neg (by omega),Nat.gcd_comm]
 have hg:0<Nat.gcd d x.natAbs:=Nat.gcd_pos_of_pos_left _ hd
 obtain⟨c,hc⟩:Nat.gcd d x.natAbs∣x.natAbs:=Nat.gcd_dvd_right _ _
 generalize Nat.gcd d x.natAbs=g at*
 rw[hc,Nat.mul_div_cancel_left _ hg]
 unfold zv
 by_cases q:x<0
 ·rw[if_pos (by simpa using q),show x=(g:Int)*(-(c:Int)) by rw[Int.mul_neg,←Int.natCast_mul];omega,Int.mul_ediv_cancel_left _ (by omega)]
 ·rw[if_neg (by simpa using q),show x=(g:Int)*(c:Int) by rw[←Int.natCast_mul];omega,Int.mul_ediv_cancel_left _ (by omega)]
theorem mk_den{x:Int}{d:Nat}(hd:0<d):d/Nat.gcd x.natAbs d=(mkRat x d).den:=by
 rw[Rat.den_mkRat,if_neg (by omega),Nat.gcd_comm]
theorem mk_one{x:Int}{d:Nat}(hd:0<d)(h:Nat.gcd x.natAbs d=1):(mkRat x d).num=x∧(mkRat x d).den=d:=by
 rw[←mk_num hd,←mk_den hd,h,Nat.div_one,Nat.div_one]
 exact⟨zv_eta x,rfl⟩
end Go.Sx
end

section
set_option maxRecDepth 100000
namespace Go.Sx
open Go Go.Proofs
instance BI.zv (neg:Bool) (m i:Nat) [h:BN m i]:BI (zv neg m) i:=⟨by rw[zv_abs];exact h.h⟩
section
variable {GB:Gh} {C:Ctx} {n:Nat} {Q0:Exit→Act→World→Prop} {fr fr':FrX} {own own':OwX} {cf cf':Cf} {vc:List Prop}
def cvwA(fr:FrX)(cf:Cf):Option Int:=match opC fr cf with
 |some ⟨_, .convert t t' x,_,_,_,_⟩=>match lookT tt t,lookT tt t' with
  |some ⟨.int .i64,_,_,_⟩,some ⟨.int .u64,_,_,_⟩=>match evX (lkC fr cf) x with
   |some (.d (.v (.int .i64 p)))=>some p
   |_=>none
  |_,_=>none
 |_=>none
theorem cvw[fu:Fu]{p:Int}(q:Int)(h:cvwA fr cf=some p)(e:p%18446744073709551616=q)(hgo:goA tt n fu.n fr own cf (.d (.v (.int .u64 q))) [] []=⟨vc,fr',own',cf'⟩)(k:CfS Tryz.prog GB C n Q0 fr' own' cf')
  (hv:allP vc:=by first|exact trivial|(simp only[allP];omega)):CfS Tryz.prog GB C n Q0 fr own cf:=by
 unfold cvwA at h
 split at h<;>try (cases h;done)
 rename_i hh
 split at h<;>try (cases h;done)
 rename_i hT hT'
 split at h<;>cases h
 rename_i hx
 have:=ti_int (tt_ok _ _ hT) rfl
 have:=ti_int (tt_ok _ _ hT') rfl
 refine us hh (.x1 hx fun ρ G ov a w y _ r h1 h2=>?_) hgo hv k
 rw[isX_int] at h2;subst h2
 refine⟨_,isX_int.2 rfl,?_⟩
 rw[←e,←wrap_u64]
 exact yd_conv h1
def ngwA(fr:FrX)(cf:Cf):Option Int:=match opC fr cf with
 |some ⟨_, .unOp .neg _ x,_,_,_,_⟩=>match evX (lkC fr cf) x with
  |some (.d (.v (.int .u64 p)))=>some p
  |_=>none
 |_=>none
theorem ngw[fu:Fu]{p:Int}(q:Int)(h:ngwA fr cf=some p)(e:(0-p)%18446744073709551616=q)(hgo:goA tt n fu.n fr own cf (.d (.v (.int .u64 q))) [] []=⟨vc,fr',own',cf'⟩)(k:CfS Tryz.prog GB C n Q0 fr' own' cf')
  (hv:allP vc:=by first|exact trivial|(simp only[allP];omega)):CfS Tryz.prog GB C n Q0 fr own cf:=by
 unfold ngwA at h
 split at h<;>try (cases h;done)
 rename_i hh
 split at h<;>cases h
 rename_i hx
 refine us hh (.x1 hx fun ρ G ov a w y _ r h1 h2=>?_) hgo hv k
 rw[isX_int] at h2;subst h2
 refine⟨_,isX_int.2 rfl,?_⟩
 rw[←e,←wrap_u64]
 exact yd_neg h1
end
theorem q_Int{GB:Gh}{n:Int}(h0: -4611686018427387904≤n)(h1:n≤4611686018427387904):PF GB Tryz.prog 124 [.v (.int .i64 n)] (eI n):=by
 refine fn Tryz.func124 rfl rfl Tryz.ntmps124 rfl rfl (fun C=>?_)
 refine br (fu1:=⟨3⟩) (fu2:=⟨6⟩) rfl rfl rfl (fun hc4=>?_) (fun hc4=>?_)
 ·
  refine cvw (fu:=⟨0⟩) (18446744073709551616+n) rfl (by omega) rfl<|ngw (n.natAbs:Nat) rfl (by omega) rfl<|cl rfl (q_Word (u:=n.natAbs) (by omega)) rfl<|?_
  refine cl rfl q_Make rfl<|?_
  exact rz rfl (eI_eq (by unfold zv;rw[if_pos rfl];omega))
 ·
  refine eqF 11 (.d (.v (.int .u64 (n.natAbs:Nat)))) rfl (by show FX.d (.v (.int _ _))= .d (.v (.int _ _));congr 3;omega) ?_
  refine gx rfl<|cl rfl (q_Word (u:=n.natAbs) (by omega)) rfl<|cl rfl q_Make rfl<|?_
  exact rz rfl (eI_eq (by unfold zv;rw[if_neg (by decide)];omega))
theorem q_Sign{GB:Gh}{z:Int}:PF GB Tryz.prog 128 [eI z] (vI z.sign):=by
 have hl:=mapU_len (dg z.natAbs)
 have hz:= @dg_len_zero z.natAbs
 refine fn Tryz.func128 rfl rfl Tryz.ntmps128 rfl rfl (fun C=>?_)
 refine br rfl rfl rfl (fun hc6=>?_) (fun hc6=>?_)
 ·
  exact rz rfl (by show DV.v (.int _ 0)=DV.v (.int _ _);rw[show z=0 by omega];rfl)
 ·
  refine bd rfl rfl rfl (fun hc8=>?_) (fun hc8=>?_)
  ·
   exact rz rfl (by show DV.v (.int _ (-1))=DV.v (.int _ _);rw[Int.sign_eq_neg_one_of_neg (by omega)])
  ·
   exact rz rfl (by show DV.v (.int _ 1)=DV.v (.int _ _);rw[Int.sign_eq_one_of_pos (by omega)])
theorem q_Minus{GB:Gh}{z:Int}:PF GB Tryz.prog 141 [eI z] (eI (-z)):=by
 refine fn Tryz.func141 rfl rfl Tryz.ntmps141 rfl rfl (fun C=>?_)
 refine cl rfl q_Make rfl<|?_
 exact rz rfl (eI_eq (zv_opp z))
theorem add_same{a b:Int}(h:decide (a<0)=decide (b<0)):zv (decide (a<0)) (a.natAbs+b.natAbs)=a+b:=by
 unfold zv
 have h':a<0↔b<0:=by simpa using h
 by_cases q:a<0
 ·have:=h'.1 q
  simp[q];omega
 ·have: ¬b<0:=fun w=>q (h'.2 w)
  simp[q];omega
theorem add_lt'{a b:Int}(h: ¬decide (a<0)=decide (b<0))(k:a.natAbs<b.natAbs):zv (decide (b<0)) (b.natAbs-a.natAbs)=a+b:=by
 unfold zv
 have h': ¬(a<0↔b<0):=by simpa using h
 by_cases q:b<0
 ·have: ¬a<0:=fun w=>h' ⟨fun _=>q,fun _=>w⟩
  simp[q];omega
 ·have:a<0:=Int.not_le.1 fun w=>h' ⟨fun e=>by omega,fun e=>absurd e q⟩
  simp[q];omega
theorem add_ge'{a b:Int}(h: ¬decide (a<0)=decide (b<0))(k:b.natAbs≤a.natAbs):zv (decide (a<0)) (a.natAbs-b.natAbs)=a+b:=by
 unfold zv
 have h': ¬(a<0↔b<0):=by simpa using h
 by_cases q:a<0
 ·have: ¬b<0:=fun w=>h' ⟨fun _=>w,fun _=>q⟩
  simp[q];omega
 ·have:b<0:=Int.not_le.1 fun w=>h' ⟨fun e=>absurd e q,fun e=>by omega⟩
  simp[q];omega
set_option maxHeartbeats 1000000 in
theorem q_Add{GB:Gh}{a b:Int}{i j:Nat}[ha:BI a i][hb:BI b j](hi:i≤400000000:=by decide)(hj:j≤400000000:=by decide):PF GB Tryz.prog 182 [eI a,eI b] (eI (a+b)):=by
 have hba:=dg_len_le ha.h
 have hbb:=dg_len_le hb.h
 refine fn (fu:=⟨15⟩) Tryz.func182 rfl rfl Tryz.ntmps182 rfl rfl (fun C=>?_)
 refine eqF 9 (.d (.v (.bool (decide (decide (a<0)=decide (b<0)))))) rfl (by congr 2) ?_
 refine gx rfl<|?_
 refine bd rfl rfl rfl (fun hc9=>?_) (fun hc9=>?_)
 ·
  refine cl rfl (q_Sum (by omega) (by omega)) rfl<|cl rfl q_Make rfl<|?_
  exact rz rfl (eI_eq (add_same hc9))
 ·
  refine cl rfl (q_Cmp (by omega) (by omega)) rfl<|?_
  refine br rfl rfl rfl (fun hc23=>?_) (fun hc23=>?_)
  ·
   refine cl rfl (q_Less (by have:=cmpN_neg.1 hc23;omega) (by omega)) rfl<|cl rfl q_Make rfl<|?_
   exact rz rfl (eI_eq (add_lt' hc9 (cmpN_neg.1 hc23)))
  ·
   refine cl rfl (q_Less (Nat.le_of_not_lt fun q=>hc23 (cmpN_neg.2 q)) (by omega)) rfl<|cl rfl q_Make rfl<|?_
   exact rz rfl (eI_eq (add_ge' hc9 (Nat.le_of_not_lt fun q=>hc23 (cmpN_neg.2 q))))
set_option maxHeartbeats 1000000 in
theorem q_Mul{GB:Gh}{a b:Int}{i j:Nat}[ha:BI a i][hb:BI b j](hi:i≤400000000:=by decide)(hj:j≤400000000:=by decide):PF GB Tryz.prog 183 [eI a,eI b] (eI (a*b)):=by
 refine fn Tryz.func183 rfl rfl Tryz.ntmps183 rfl rfl (fun C=>?_)
 refine cl rfl (q_Product (by omega) (by omega)) rfl<|cl rfl q_Make rfl<|?_
 exact rz rfl (eI_eq (zv_mulI a b))
theorem q_CompareI{GB:Gh}{a b:Int}{i j:Nat}[ha:BI a i][hb:BI b j](hi:i≤400000000:=by decide)(hj:j≤400000000:=by decide):PF GB Tryz.prog 193 [eI a,eI b] (vI (a-b).sign):=by
 refine fn Tryz.func193 rfl rfl Tryz.ntmps193 rfl rfl (fun C=>?_)
 refine cl rfl q_Minus rfl<|cl rfl (q_Add (by omega) (by omega)) rfl<|cl rfl q_Sign rfl<|?_
 exact rz rfl (by rw[Int.sub_eq_add_neg];rfl)
theorem q_Den{GB:Gh}{q:Rat}:PF GB Tryz.prog 121 [eQ q] (dN q.den):=by
 refine fn Tryz.func121 rfl rfl Tryz.ntmps121 rfl rfl (fun C=>?_)
 refine br rfl rfl rfl (fun hc6=>?_) (fun hc6=>?_)
 ·
  refine cl rfl q_One rfl<|?_
  exact rz rfl (by rw[(dD_len q.den (den_pos' q)).1 (by omega)];rfl)
 ·
  exact rz rfl (by exact dD_of (fun e=>hc6 (by exact congrArg Int.ofNat ((dD_len q.den (den_pos' q)).2 e))))
theorem dg_len_small{n k:Nat}[h:BN n k](hk:k≤500000000):(dg n).length≤100000000:=by have:=dg_len_le h.h;omega
set_option maxHeartbeats 1000000 in
theorem q_Frac{GB:Gh}{x:Int}{d i j:Nat}[hx:BI x i][hd:BN d j](hd0:0<d)(hi:i≤200000000:=by decide)(hj:j≤200000000:=by decide):PF GB Tryz.prog 169 [eI x,dN d] (eQ (mkRat x d)):=by
 obtain⟨q,hq⟩: ∃q,q=mkRat x d:=⟨_,rfl⟩
 obtain⟨g,hg⟩: ∃g,g=Nat.gcd x.natAbs d:=⟨_,rfl⟩
 have hg0:0<g:=hg▸Nat.gcd_pos_of_pos_right _ hd0
 haveI hgB:BN g (i+j):=hg▸inferInstance
 have hg1:(dg g).length≤100000000:=dg_len_small (k:=i+j) (by omega)
 have ho1:(dg 1).length≤100000000:=by rw[dg_one];decide
 haveI hqB:BQ q (i+j):=hq▸mkRat_bd hd0 (Nat.lt_of_lt_of_le hx.h (Nat.pow_le_pow_right (by decide) (by omega))) (Nat.lt_of_lt_of_le hd.h (Nat.pow_le_pow_right (by decide) (by omega)))
 refine fn Tryz.func169 rfl rfl Tryz.ntmps169 rfl rfl (fun C=>?_)
 refine cl (fu:=⟨0⟩) rfl (q_Common (by omega) (by omega)) rfl<|?_
 refine eqF 11 (.d (dN g)) rfl (by rw[hg]) ?_
 refine gx (fu:=⟨4⟩) rfl<|?_
 refine mg (fu:=⟨1⟩) (X:=Unit) (fun _=>[(1, .d (dN q.den)),(2, .ov 2 0),(4, .ov 4 0)]) (fun _=>[(4,some (.o 84 [.ff, .nl, .nl] true)),(2,some (.o 44 [.d (.v (.bool (decide (q.num<0)))), .d (dN q.num.natAbs)] true))]) (fun _=>True) [1,2,4] [4,2] rfl ?_ (fun _=>rfl) (fun _ hm=>?_)
 ·
  refine gx rfl<|cl rfl q_One rfl<|cl rfl (q_Cmp hg1 ho1) rfl<|?_
  refine br rfl rfl rfl (fun hc15=>?_) (fun hc15=>?_)
  ·
   refine cl rfl (q_Divide hg0 (by omega) (by omega)) rfl<|cl (fu:=⟨0⟩) rfl q_Make rfl<|?_
   refine eqF 26 (.d (eI q.num)) rfl (by show FX.d (eI (zv _ _))=_;rw[hg,mk_num hd0,hq]) ?_
   refine gx rfl<|cl (fu:=⟨2⟩) rfl (q_Divide hg0 (by omega) (by omega)) rfl<|?_
   refine eqF 31 (.d (dN q.den)) rfl (by rw[hg,mk_den hd0,hq]) ?_
   refine gx rfl<|?_
   exact at_ () trivial
  ·
   have hm:=mk_one (x:=x) hd0 (by rw[←hg];exact cmpN_one.1 (Decidable.not_not.1 hc15))
   rw[←hq] at hm
   refine eqF 1 (.d (dN q.den)) rfl (by rw[hm.2]) ?_
   exact at_ () trivial (hO:=⟨rfl,by rw[hm.1];rfl,trivial⟩)
 ·
  refine mg (X:=Unit) (fun _=>[(1, .d (dD q.den)),(2, .ov 2 0),(4, .ov 4 0)]) (fun _=>[(4,some (.o 84 [.ff, .nl, .nl] true)),(2,some (.o 44 [.d (.v (.bool (decide (q.num<0)))), .d (dN q.num.natAbs)] true))]) (fun _=>True) [1,2,4] [4,2] rfl ?_ (fun _=>rfl) (fun _ hm=>?_)
  ·
   refine gx rfl<|cl rfl q_One rfl<|cl rfl (q_Cmp (dg_len_small (k:=i+j) (by omega)) ho1) rfl<|?_
   refine br rfl rfl rfl (fun hc36=>?_) (fun hc36=>?_)
   ·
    refine nlD 1 rfl ?_
    refine eqF 1 (.d (dD q.den)) rfl (by rw[cmpN_one.1 hc36];rfl) ?_
    exact at_ () trivial
   ·
    refine eqF 1 (.d (dD q.den)) rfl (by rw[dD_of (fun e=>hc36 (cmpN_one.2 e))]) ?_
    exact at_ () trivial
  ·
   exact rz rfl (by rw[←hq];rfl)
end Go.Sx
end

section
set_option maxRecDepth 100000
namespace Go.Sx
open Go Go.Proofs
theorem mkRat_self'(a:Rat):mkRat a.num a.den=a:=by simp[Rat.mkRat_self]
theorem over_mk{a b:Rat}(h:b≠0):a/b=mkRat (a.num*zv (decide (b.num<0)) b.den) (a.den*b.num.natAbs):=by
 rw[Rat.mkRat_eq_div]
 have ha:(a.num:Rat)/(a.den:Rat)=a:=by rw[←Rat.mkRat_eq_div,mkRat_self']
 have hb:(b.num:Rat)/(b.den:Rat)=b:=by rw[←Rat.mkRat_eq_div,mkRat_self']
 have h1:(a.den:Rat)≠0:=by have:=a.den_nz;exact_mod_cast this
 have h2:(b.den:Rat)≠0:=by have:=b.den_nz;exact_mod_cast this
 have h3:(b.num:Rat)≠0:=by
  intro e
  rw[e] at hb
  apply h;rw[←hb];grind
 rw[Rat.intCast_mul,Rat.natCast_mul]
 by_cases q:b.num<0
 ·have e1:((zv (decide (b.num<0)) b.den:Int):Rat)= -(b.den:Rat):=by
   unfold zv;rw[if_pos (by simpa using q),Rat.intCast_neg];rfl
  have e2:((b.num.natAbs:Nat):Rat)= -(b.num:Rat):=by
   have:((b.num.natAbs:Nat):Int)= -b.num:=by omega
   rw[←Rat.intCast_neg,←this];rfl
  rw[e1,e2]
  generalize (a.num:Rat)=an at*
  generalize (a.den:Rat)=ad at*
  generalize (b.num:Rat)=bn at*
  generalize (b.den:Rat)=bd at*
  subst ha hb
  grind
 ·have e1:((zv (decide (b.num<0)) b.den:Int):Rat)=(b.den:Rat):=by
   unfold zv;rw[if_neg (by simpa using q)];rfl
  have e2:((b.num.natAbs:Nat):Rat)=(b.num:Rat):=by
   have:((b.num.natAbs:Nat):Int)=b.num:=by omega
   rw[←this];rfl
  rw[e1,e2]
  generalize (a.num:Rat)=an at*
  generalize (a.den:Rat)=ad at*
  generalize (b.num:Rat)=bn at*
  generalize (b.den:Rat)=bd at*
  subst ha hb
  grind
theorem le_of_frac{q:Rat}{n:Int}{d:Nat}(hd:0<d)(h:q*(d:Rat)=(n:Rat)):q.num.natAbs≤n.natAbs∧q.den≤d:=by
 have e:q=mkRat n d:=by
  rw[Rat.mkRat_eq_div]
  have:(d:Rat)≠0:=by exact_mod_cast (by omega:d≠0)
  rw[←h];grind
 rw[e,Rat.num_mkRat,Rat.den_mkRat,if_neg (by omega),if_neg (by omega)]
 exact⟨Int.natAbs_ediv_le_natAbs n (d.gcd n.natAbs:Nat),Nat.div_le_self ..⟩
theorem BQ.of_frac{q:Rat}{n:Int}{d i:Nat}(hd:0<d)(h:q*(d:Rat)=(n:Rat))(hn:n.natAbs<2^i)(hdi:d<2^i):BQ q i:=by
 have:=le_of_frac hd h
 exact⟨by omega,by omega⟩
theorem num_pos_of{b:Rat}(h:b≠0):0<b.num.natAbs:=by
 have:b.num≠0:=fun e=>h (Rat.num_eq_zero.1 e)
 omega
instance BQ.over (a b:Rat) (i j:Nat) [ha:BQ a i] [hb:BQ b j]:BQ (a/b) (i+j):=by
 by_cases h:b=0
 ·subst h
  rw[Rat.div_def,Rat.inv_zero,Rat.mul_zero]
  have h2:=ha.hd
  have h3:0<a.den:=den_pos' a
  have h4:2^i*1≤2^i*2^j:=Nat.mul_le_mul_left _ (Nat.pow_pos (by decide))
  rw[←Nat.pow_add] at h4
  exact⟨by show 0<_;omega,by show 1<_;omega⟩
 ·rw[over_mk h]
  have hb0:=num_pos_of h
  refine mkRat_bd (Nat.mul_pos (den_pos' a) hb0) ?_ (mul_lt_pow ha.hd hb.hn)
  rw[Int.natAbs_mul,zv_abs]
  exact mul_lt_pow ha.hn hb.hd
theorem q_Of{GB:Gh}{n:Int}(h0: -4611686018427387904≤n)(h1:n≤4611686018427387904):PF GB Tryz.prog 65 [.v (.int .i64 n)] (eQ (n:Rat)):=by
 refine fn Tryz.func65 rfl rfl Tryz.ntmps65 rfl rfl (fun C=>?_)
 refine cl rfl (q_Int (by omega) (by omega)) rfl<|?_
 exact rz rfl (by rw[eQ_int];rfl)
theorem q_S{GB:Gh}{q:Rat}:PF GB Tryz.prog 165 [eQ q] (vI q.num.sign):=by
 refine fn Tryz.func165 rfl rfl Tryz.ntmps165 rfl rfl (fun C=>?_)
 refine cl rfl q_Sign rfl<|?_
 exact rz rfl rfl
theorem q_Opp{GB:Gh}{q:Rat}:PF GB Tryz.prog 117 [eQ q] (eQ (-q)):=by
 refine fn Tryz.func117 rfl rfl Tryz.ntmps117 rfl rfl (fun C=>?_)
 refine cl rfl q_Minus rfl<|?_
 exact rz rfl (by unfold eQ;rw[Rat.neg_num,Rat.neg_den];rfl)
set_option maxHeartbeats 1000000 in
theorem q_Times{GB:Gh}{a b:Rat}{i j:Nat}[ha:BQ a i][hb:BQ b j](hi:i≤20000000:=by decide)(hj:j≤20000000:=by decide):PF GB Tryz.prog 119 [eQ a,eQ b] (eQ (a*b)):=by
 have had:=den_pos' a
 have hbd:=den_pos' b
 have hdp:=Nat.mul_pos had hbd
 have e1:=dD_len a.den had
 have e2:=dD_len b.den hbd
 refine fn Tryz.func119 rfl rfl Tryz.ntmps119 rfl rfl (fun C=>?_)
 refine cs 9 rfl rfl rfl (fun hg9=>?_) (fun hg9=>?_)
 ·
  refine br rfl rfl rfl (fun hc14=>?_) (fun hc14=>?_)
  ·
   refine cl rfl (q_Mul (a:=a.num) (b:=b.num) (by omega) (by omega)) rfl<|?_
   exact rz rfl (by rw[times_int (e1.1 (by omega)) (e2.1 (by omega)),eQ_int];rfl)
  ·
   refine cl rfl (q_Mul (a:=a.num) (b:=b.num) (by omega) (by omega)) rfl<|cl rfl q_Den rfl<|cl rfl q_Den rfl<|cl rfl (q_Product (by omega) (by omega)) rfl<|?_
   refine cl rfl (q_Frac hdp (by omega) (by omega)) rfl<|?_
   exact rz rfl (by rw[rat_mul_mk];rfl)
 ·
  refine cl rfl (q_Mul (a:=a.num) (b:=b.num) (by omega) (by omega)) rfl<|cl rfl q_Den rfl<|cl rfl q_Den rfl<|cl rfl (q_Product (by omega) (by omega)) rfl<|?_
  refine cl rfl (q_Frac hdp (by omega) (by omega)) rfl<|?_
  exact rz rfl (by rw[rat_mul_mk];rfl)
set_option maxHeartbeats 1000000 in
theorem q_Plus{GB:Gh}{a b:Rat}{i j:Nat}[ha:BQ a i][hb:BQ b j](hi:i≤20000000:=by decide)(hj:j≤20000000:=by decide):PF GB Tryz.prog 118 [eQ a,eQ b] (eQ (a+b)):=by
 have had:=den_pos' a
 have hbd:=den_pos' b
 have hdp:=Nat.mul_pos had hbd
 have e1:=dD_len a.den had
 have e2:=dD_len b.den hbd
 refine fn Tryz.func118 rfl rfl Tryz.ntmps118 rfl rfl (fun C=>?_)
 refine cs 9 rfl rfl rfl (fun hg9=>?_) (fun hg9=>?_)
 ·
  refine br rfl rfl rfl (fun hc14=>?_) (fun hc14=>?_)
  ·
   refine cl rfl (q_Add (by omega) (by omega)) rfl<|?_
   exact rz rfl (by rw[plus_int (e1.1 (by omega)) (e2.1 (by omega)),eQ_int];rfl)
  ·
   refine cl rfl q_Den rfl<|cl rfl q_Make rfl<|cl rfl (q_Mul (a:=a.num) (b:=zv false b.den) (by omega) (by omega)) rfl<|cl rfl q_Den rfl<|cl rfl q_Make rfl<|?_
   refine cl rfl (q_Mul (a:=b.num) (b:=zv false a.den) (by omega) (by omega)) rfl<|cl rfl (q_Add (by omega) (by omega)) rfl<|cl rfl q_Den rfl<|?_
   refine cl rfl q_Den rfl<|cl rfl (q_Product (by omega) (by omega)) rfl<|cl rfl (q_Frac hdp (by omega) (by omega)) rfl<|?_
   exact rz rfl (by rw[rat_add_mk];rfl)
 ·
  refine cl rfl q_Den rfl<|cl rfl q_Make rfl<|cl rfl (q_Mul (a:=a.num) (b:=zv false b.den) (by omega) (by omega)) rfl<|cl rfl q_Den rfl<|?_
  refine cl rfl q_Make rfl<|cl rfl (q_Mul (a:=b.num) (b:=zv false a.den) (by omega) (by omega)) rfl<|cl rfl (q_Add (by omega) (by omega)) rfl<|?_
  refine cl rfl q_Den rfl<|cl rfl q_Den rfl<|cl rfl (q_Product (by omega) (by omega)) rfl<|cl rfl (q_Frac hdp (by omega) (by omega)) rfl<|?_
  exact rz rfl (by rw[rat_add_mk];rfl)
theorem q_Sub{GB:Gh}{a b:Rat}{i j:Nat}[ha:BQ a i][hb:BQ b j](hi:i≤20000000:=by decide)(hj:j≤20000000:=by decide):PF GB Tryz.prog 191 [eQ a,eQ b] (eQ (a-b)):=by
 refine fn Tryz.func191 rfl rfl Tryz.ntmps191 rfl rfl (fun C=>?_)
 refine cl rfl (q_Opp (q:=b)) rfl<|cl rfl (q_Plus (a:=a) (b:= -b) hi hj) rfl<|?_
 exact rz rfl (by rw[Rat.sub_eq_add_neg];rfl)
set_option maxHeartbeats 1000000 in
theorem q_Over{GB:Gh}{a b:Rat}{i j:Nat}[ha:BQ a i][hb:BQ b j](hb0:b≠0)(hi:i≤20000000:=by decide)(hj:j≤20000000:=by decide):PF GB Tryz.prog 133 [eQ a,eQ b] (eQ (a/b)):=by
 have hbp:=num_pos_of hb0
 have hdp:=Nat.mul_pos (den_pos' a) hbp
 refine fn Tryz.func133 rfl rfl Tryz.ntmps133 rfl rfl (fun C=>?_)
 refine cl rfl q_Den rfl<|cl rfl q_Make rfl<|cl rfl (q_Mul (a:=a.num) (b:=zv (decide (b.num<0)) b.den) (by omega) (by omega)) rfl<|cl rfl q_Den rfl<|?_
 refine cl rfl (q_Product (a:=a.den) (b:=b.num.natAbs) (by omega) (by omega)) rfl<|cl rfl (q_Frac (x:=a.num*zv (decide (b.num<0)) b.den) (d:=a.den*b.num.natAbs) hdp (by omega) (by omega)) rfl<|?_
 exact rz rfl (by rw[over_mk hb0];rfl)
theorem q_C{GB:Gh}{a b:Rat}{i j:Nat}[ha:BQ a i][hb:BQ b j](hi:i≤20000000:=by decide)(hj:j≤20000000:=by decide):PF GB Tryz.prog 189 [eQ a,eQ b] (vI (rcmp a b)):=by
 refine fn Tryz.func189 rfl rfl Tryz.ntmps189 rfl rfl (fun C=>?_)
 refine cl rfl (q_Sub hi hj) rfl<|cl rfl q_S rfl<|?_
 exact rz rfl (by show vI _=vI _;rw[sign_sub])
theorem two_ne:((2:Int):Rat)≠0:=by decide
instance BI.two:BI 2 2:=⟨by decide⟩
theorem q_Half{GB:Gh}{a:Rat}{i:Nat}[ha:BQ a i](hi:i≤20000000:=by decide):PF GB Tryz.prog 239 [eQ a] (eQ (a/2)):=by
 refine fn Tryz.func239 rfl rfl Tryz.ntmps239 rfl rfl (fun C=>?_)
 refine cl rfl (q_Of (n:=2) (by decide) (by decide)) rfl<|cl rfl (q_Over (a:=a) (b:=((2:Int):Rat)) two_ne hi (by decide)) rfl<|?_
 exact rz rfl rfl
theorem q_Mid{GB:Gh}{a b:Rat}{i j:Nat}[ha:BQ a i][hb:BQ b j](hi:i≤2000000:=by decide)(hj:j≤2000000:=by decide):PF GB Tryz.prog 192 [eQ a,eQ b] (eQ ((a+b)/2)):=by
 refine fn Tryz.func192 rfl rfl Tryz.ntmps192 rfl rfl (fun C=>?_)
 refine cl rfl (q_Plus (by omega) (by omega)) rfl<|cl rfl (q_Half (a:=a+b) (by omega)) rfl<|?_
 exact rz rfl rfl
end Go.Sx
end
