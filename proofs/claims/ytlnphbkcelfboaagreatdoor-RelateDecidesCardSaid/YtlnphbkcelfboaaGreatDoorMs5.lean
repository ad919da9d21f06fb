/-
  Plane geometry of the cells: clipping a cell with an interior cuts it exactly; the place of a cell; trees restricted twice. What the reference does with cells and trees: the same as the code, since both go by the points inside. What the reference computes of lines and points. Calls that take blocks over and hand blocks back, new ones among them. cap, copy, append with room, slices.overlaps; rows of values of several cells. Drawn regions that read few blocks. Drawn regions with several allocs that may come at any time. Rows that grow by append and are handed on from call to call.
-/
import Derived.Test.YtlnphbkcelfboaaGreatDoorMs4
import Derived.Laws.Externs
import Derived.Lib.Overlaps
set_option linter.unusedSimpArgs false
set_option linter.unusedVariables false
section
set_option maxRecDepth 100000
namespace Go.Sx
open Go
/-! ### values -/
theorem val_def(l:LnQ)(p:PtQ):l.value p=(l.a:Rat)*p.x+(l.b:Rat)*p.y+(l.c:Rat):=rfl
theorem val_rev(l:LnQ)(p:PtQ):l.rev.value p= -l.value p:=by
 rw[val_def,val_def]
 have h1:((l.rev.a:Int):Rat)= -(l.a:Rat):=(rat_neg_int l.a).symm
 have h2:((l.rev.b:Int):Rat)= -(l.b:Rat):=(rat_neg_int l.b).symm
 have h3:((l.rev.c:Int):Rat)= -(l.c:Rat):=(rat_neg_int l.c).symm
 rw[h1,h2,h3];grind
def segQ(q p:PtQ)(e:Rat):PtQ:=⟨q.x+e*(p.x-q.x),q.y+e*(p.y-q.y)⟩
theorem val_seg(l:LnQ)(q p:PtQ)(e:Rat):l.value (segQ q p e)=l.value q+e*(l.value p-l.value q):=by
 simp only[val_def,segQ];grind
def movQ(q u:PtQ)(e:Rat):PtQ:=⟨q.x+e*u.x,q.y+e*u.y⟩
theorem val_mov(l:LnQ)(q u:PtQ)(e:Rat):l.value (movQ q u e)=l.value q+e*l.nor.dot u:=by
 simp only[val_def,movQ,LnQ.nor,PtQ.dot];grind
theorem rat_mul_pos{a b:Rat}(ha:0<a)(hb:0<b):0<a*b:=Rat.mul_pos ha hb
theorem rat_mul_nonneg{a b:Rat}(ha:0≤a)(hb:0≤b):0≤a*b:=Rat.mul_nonneg ha hb
theorem rat_sq_nonneg(a:Rat):0≤a*a:=by
 by_cases h:0≤a
 ·exact rat_mul_nonneg h h
 ·have:=rat_mul_nonneg (a:= -a) (b:= -a) (by grind) (by grind)
  grind
theorem rat_mul_pos_iff{s k:Rat}(hk:0<k):0<s*k↔0<s:=by
 constructor
 ·intro h
  by_cases hs:0<s
  ·exact hs
  ·have:=rat_mul_nonneg (a:= -s) (b:=k) (by grind) (by grind)
   grind
 ·intro h;exact rat_mul_pos h hk
theorem rat_mul_nonneg_iff{s k:Rat}(hk:0<k):0≤s*k↔0≤s:=by
 constructor
 ·intro h
  by_cases hs:0≤s
  ·exact hs
  ·have:=rat_mul_pos (a:= -s) (b:=k) (by grind) hk
   grind
 ·intro h;exact rat_mul_nonneg h (by grind)
theorem lin_between{A B u v:Rat}(h0:0≤A)(h1:0≤A+v*B)(hu:0≤u)(huv:u≤v):0≤A+u*B:=by
 by_cases hB:0≤B
 ·have:=rat_mul_nonneg hu hB;grind
 ·have:=rat_mul_nonneg (a:=v-u) (b:= -B) (by grind) (by grind)
  grind
def LnQ.Ne(l:LnQ):Prop:= ¬(l.a=0∧l.b=0)
theorem LnQ.ok.ne{l:LnQ}(h:l.ok):l.Ne:=h.1
theorem nn_pos{l:LnQ}(h:l.Ne):0<l.nor.dot l.nor:=by
 show 0<(l.a:Rat)*l.a+(l.b:Rat)*l.b
 have h1:=rat_sq_nonneg (l.a:Rat)
 have h2:=rat_sq_nonneg (l.b:Rat)
 by_cases ha:l.a=0
 ·have hb:l.b≠0:=fun hb=>h ⟨ha,hb⟩
  have hb':(l.b:Rat)≠0:=fun e=>hb (Rat.intCast_eq_zero_iff.1 e)
  have:(l.b:Rat)*l.b≠0:=by grind
  grind
 ·have ha':(l.a:Rat)≠0:=fun e=>ha (Rat.intCast_eq_zero_iff.1 e)
  have:(l.a:Rat)*l.a≠0:=by grind
  grind
theorem base_q{l:LnQ}(h:l.Ne): ∃q:Rat,l.nor.dot l.nor*q= -(l.c:Rat)∧l.base=⟨(l.a:Rat)*q,(l.b:Rat)*q⟩:=by
 refine⟨-(l.c:Rat)/l.nor.dot l.nor,?_,rfl⟩
 have:=nn_pos h
 grind
theorem val_at(l m:LnQ)(t:Rat):m.value (l.at t)=l.cutC m+t*l.cutK m:=by
 simp only[LnQ.cutC,LnQ.cutK,val_def,LnQ.at,PtQ.add,PtQ.scale,LnQ.dir,LnQ.nor,PtQ.dot];grind
theorem at_self{l:LnQ}(h:l.Ne)(t:Rat):l.value (l.at t)=0:=by
 obtain⟨q,h1,h2⟩:=base_q h
 simp only[val_def,LnQ.at,h2,PtQ.add,PtQ.scale,LnQ.dir]
 simp only[LnQ.nor,PtQ.dot] at h1
 grind
theorem on_at{l:LnQ}(h:l.Ne){p:PtQ}(hp:l.value p=0): ∃t,p=l.at t:=by
 obtain⟨q,h1,h2⟩:=base_q h
 have hn:=nn_pos h
 obtain⟨x,y⟩:=p
 rw[val_def] at hp
 simp only[LnQ.nor,PtQ.dot] at h1 hn
 refine⟨((l.b:Rat)*x-(l.a:Rat)*y)/((l.a:Rat)*l.a+(l.b:Rat)*l.b),?_⟩
 generalize ht:((l.b:Rat)*x-(l.a:Rat)*y)/((l.a:Rat)*l.a+(l.b:Rat)*l.b)=t
 have ht':((l.a:Rat)*l.a+(l.b:Rat)*l.b)*t=(l.b:Rat)*x-(l.a:Rat)*y:=by grind
 simp only[LnQ.at,h2,PtQ.add,PtQ.scale,LnQ.dir,PtQ.mk.injEq]
 generalize (l.a:Rat)=a at*
 generalize (l.b:Rat)=b at*
 generalize (l.c:Rat)=c at*
 have e1:(a*a+b*b)*(x-(a*q+b*t))=0:=by grind
 have e2:(a*a+b*b)*(y-(b*q+ -a*t))=0:=by grind
 constructor<;>grind
/-! ### intervals -/
def IvQ.has(v:IvQ)(t:Rat):Prop:=(v.nl=true∨v.lo≤t)∧(v.nh=true∨t≤v.hi)
def IvQ.ins(v:IvQ)(t:Rat):Prop:=(v.nl=true∨v.lo<t)∧(v.nh=true∨t<v.hi)
def IvQ.Pos(v:IvQ):Prop:=v.nl=true∨v.nh=true∨v.lo<v.hi
theorem rcmp_nonneg(a b:Rat):0≤rcmp a b↔b≤a:=by
 unfold rcmp;split
 ·constructor
  ·intro h;exact absurd h (by decide)
  ·intro h;grind
 ·split
  ·constructor
   ·intro _;grind
   ·intro _;decide
  ·constructor
   ·intro _;grind
   ·intro _;decide
theorem empty_iff(v:IvQ):v.empty=false↔v.Pos:=by
 obtain⟨lo,hi,nl,nh⟩:=v
 unfold IvQ.empty IvQ.Pos
 cases nl<;>cases nh<;>simp[rcmp_nonneg]
 first|exact Rat.not_le|grind
theorem IvQ.ins.has{v:IvQ}{t:Rat}(h:v.ins t):v.has t:=by
 obtain⟨h1,h2⟩:=h
 exact⟨h1.imp id (fun h=>Rat.le_of_lt h),h2.imp id (fun h=>Rat.le_of_lt h)⟩
theorem half_eq:mkRat 1 2=(1:Rat)/2:=by rw[Rat.mkRat_eq_div];rfl
theorem ins_sample{v:IvQ}(h:v.Pos):v.ins v.sample:=by
 obtain⟨lo,hi,nl,nh⟩:=v
 unfold IvQ.Pos at h
 unfold IvQ.ins IvQ.sample
 rw[half_eq]
 cases nl<;>cases nh<;>simp at* <;>grind
theorem meet_has(v w:IvQ)(t:Rat):(v.meet w).has t↔v.has t∧w.has t:=by
 obtain⟨lo,hi,nl,nh⟩:=v
 obtain⟨lo',hi',nl',nh'⟩:=w
 unfold IvQ.has IvQ.meet
 cases nl<;>cases nh<;>cases nl'<;>cases nh'<;>simp<;>grind
theorem meet_ins(v w:IvQ)(t:Rat):(v.meet w).ins t↔v.ins t∧w.ins t:=by
 obtain⟨lo,hi,nl,nh⟩:=v
 obtain⟨lo',hi',nl',nh'⟩:=w
 unfold IvQ.ins IvQ.meet
 cases nl<;>cases nh<;>cases nl'<;>cases nh'<;>simp<;>grind
theorem all_has(t:Rat):IvQ.all.has t:=⟨.inl rfl, .inl rfl⟩
theorem all_Pos:IvQ.all.Pos:= .inl rfl
theorem sgn_zero(k:Rat):Int.sign k.num=0↔k=0:=by rw[Int.sign_eq_zero_iff_zero,Rat.num_eq_zero]
theorem num_pos'(k:Rat):0<k.num↔0<k:=by
 have h1:0≤k.num↔0≤k:=Rat.num_nonneg
 have h2:k.num=0↔k=0:=Rat.num_eq_zero
 constructor
 ·intro h
  have a:=h1.1 (by omega)
  have b:k≠0:=fun e=>by have:=h2.2 e;omega
  grind
 ·intro h
  have a:=h1.2 (by grind)
  have b:k.num≠0:=fun e=>by have:=h2.1 e;grind
  omega
theorem sgn_one(k:Rat):Int.sign k.num=1↔0<k:=by rw[Int.sign_eq_one_iff_pos,num_pos']
theorem sgn_pos(k:Rat):0<Int.sign k.num↔0<k:=by
 rw[←sgn_one]
 rcases Int.lt_trichotomy k.num 0 with h|h|h
 ·rw[Int.sign_eq_neg_one_of_neg h];decide
 ·rw[h];decide
 ·rw[Int.sign_eq_one_of_pos h];decide
theorem sgn_neg(k:Rat):Int.sign k.num<0↔k<0:=by
 have h1:=sgn_zero k
 have h2:=sgn_pos k
 constructor
 ·intro h
  by_cases hk:0<k
  ·have:=h2.2 hk;omega
  ·by_cases h0:k=0
   ·have:=h1.2 h0;omega
   ·grind
 ·intro h
  have a1: ¬Int.sign k.num=0:=fun e=>by have:=h1.1 e;grind
  have a2: ¬0<Int.sign k.num:=fun e=>by have:=h2.1 e;grind
  omega
theorem cut_zero{l m:LnQ}(v:IvQ)(hk:l.cutK m=0):l.cutV v m=v∧(l.cutB v m=true↔0<l.cutC m):=by
 have h:=(sgn_zero (l.cutK m)).2 hk
 unfold LnQ.cutV LnQ.cutB
 rw[if_pos h,if_pos h,decide_eq_true_iff,sgn_pos]
 exact⟨rfl,Iff.rfl⟩
theorem cut_up{l m:LnQ}(v:IvQ)(hk:0<l.cutK m):l.cutV v m=v.meet ⟨-(l.cutC m/l.cutK m),0,false,true⟩∧(l.cutB v m=true↔(l.cutV v m).Pos):=by
 have h0: ¬Int.sign (l.cutK m).num=0:=fun e=>by have:=(sgn_zero _).1 e;grind
 have h1:=(sgn_one (l.cutK m)).2 hk
 constructor
 ·unfold LnQ.cutV;rw[if_neg h0,if_pos h1]
 ·unfold LnQ.cutB;rw[if_neg h0,←empty_iff];simp
theorem cut_dn{l m:LnQ}(v:IvQ)(hk:l.cutK m<0):l.cutV v m=v.meet ⟨0, -(l.cutC m/l.cutK m),true,false⟩∧(l.cutB v m=true↔(l.cutV v m).Pos):=by
 have h0: ¬Int.sign (l.cutK m).num=0:=fun e=>by have:=(sgn_zero _).1 e;grind
 have h1: ¬Int.sign (l.cutK m).num=1:=fun e=>by have:=(sgn_one _).1 e;grind
 constructor
 ·unfold LnQ.cutV;rw[if_neg h0,if_neg h1]
 ·unfold LnQ.cutB;rw[if_neg h0,←empty_iff];simp
theorem up_le{C K t:Rat}(hk:0<K): -(C/K)≤t↔0≤C+t*K:=by
 have e:C=C/K*K:=by grind
 generalize C/K=d at*
 rw[e,show d*K+t*K=(d+t)*K from by grind,rat_mul_nonneg_iff hk]
 grind
theorem up_lt{C K t:Rat}(hk:0<K): -(C/K)<t↔0<C+t*K:=by
 have e:C=C/K*K:=by grind
 generalize C/K=d at*
 rw[e,show d*K+t*K=(d+t)*K from by grind,rat_mul_pos_iff hk]
 grind
theorem dn_le{C K t:Rat}(hk:K<0):t≤ -(C/K)↔0≤C+t*K:=by
 have e:C=C/K*K:=by grind
 generalize C/K=d at*
 rw[e,show d*K+t*K=(-(d+t))*(-K) from by grind,rat_mul_nonneg_iff (by grind)]
 grind
theorem dn_lt{C K t:Rat}(hk:K<0):t< -(C/K)↔0<C+t*K:=by
 have e:C=C/K*K:=by grind
 generalize C/K=d at*
 rw[e,show d*K+t*K=(-(d+t))*(-K) from by grind,rat_mul_pos_iff (by grind)]
 grind
theorem rat_tri(k:Rat):k=0∨0<k∨k<0:=by grind
theorem cut_has{l m:LnQ}{v:IvQ}(hb:l.cutB v m=true)(t:Rat):(l.cutV v m).has t↔v.has t∧0≤m.value (l.at t):=by
 rw[val_at]
 rcases rat_tri (l.cutK m) with hk|hk|hk
 ·obtain⟨h1,h2⟩:=cut_zero v hk
  rw[h1,hk]
  have:=h2.1 hb
  constructor
  ·intro h;exact⟨h,by grind⟩
  ·exact fun h=>h.1
 ·rw[(cut_up v hk).1,meet_has,←up_le hk]
  simp[IvQ.has]
 ·rw[(cut_dn v hk).1,meet_has,←dn_le hk]
  simp[IvQ.has]
theorem cut_ins{l m:LnQ}{v:IvQ}(hb:l.cutB v m=true)(t:Rat):(l.cutV v m).ins t↔v.ins t∧0<m.value (l.at t):=by
 rw[val_at]
 rcases rat_tri (l.cutK m) with hk|hk|hk
 ·obtain⟨h1,h2⟩:=cut_zero v hk
  rw[h1,hk]
  have:=h2.1 hb
  constructor
  ·intro h;exact⟨h,by grind⟩
  ·exact fun h=>h.1
 ·rw[(cut_up v hk).1,meet_ins,←up_lt hk]
  simp[IvQ.ins]
 ·rw[(cut_dn v hk).1,meet_ins,←dn_lt hk]
  simp[IvQ.ins]
theorem cut_Pos{l m:LnQ}{v:IvQ}(hv:v.Pos)(hb:l.cutB v m=true):(l.cutV v m).Pos:=by
 rcases rat_tri (l.cutK m) with hk|hk|hk
 ·rw[(cut_zero v hk).1];exact hv
 ·exact(cut_up v hk).2.1 hb
 ·exact(cut_dn v hk).2.1 hb
theorem cut_no{l m:LnQ}{v:IvQ}(hv:v.Pos)(hb:l.cutB v m=false){t:Rat}(ht:v.has t):m.value (l.at t)≤0:=by
 rw[val_at]
 have hb': ¬l.cutB v m=true:=by rw[hb];decide
 rcases rat_tri (l.cutK m) with hk|hk|hk
 ·have h2:=(cut_zero v hk).2
  have: ¬0<l.cutC m:=fun h=>hb' (h2.2 h)
  rw[hk];grind
 ·obtain⟨h1,h2⟩:=cut_up v hk
  have hn: ¬(l.cutV v m).Pos:=fun h=>hb' (h2.2 h)
  rw[h1] at hn
  have h3:=up_lt (C:=l.cutC m) (t:=t) hk
  suffices¬(-(l.cutC m/l.cutK m)<t) by grind
  generalize-(l.cutC m/l.cutK m)=d at*
  obtain⟨lo,hi,nl,nh⟩:=v
  unfold IvQ.Pos IvQ.meet at hn
  unfold IvQ.Pos at hv
  unfold IvQ.has at ht
  cases nl<;>cases nh<;>simp at* <;>grind
 ·obtain⟨h1,h2⟩:=cut_dn v hk
  have hn: ¬(l.cutV v m).Pos:=fun h=>hb' (h2.2 h)
  rw[h1] at hn
  have h3:=dn_lt (C:=l.cutC m) (t:=t) hk
  suffices¬(t< -(l.cutC m/l.cutK m)) by grind
  generalize-(l.cutC m/l.cutK m)=d at*
  obtain⟨lo,hi,nl,nh⟩:=v
  unfold IvQ.Pos IvQ.meet at hn
  unfold IvQ.Pos at hv
  unfold IvQ.has at ht
  cases nl<;>cases nh<;>simp at* <;>grind
/-! ### cells -/
def InD(c:CellQ)(p:PtQ):Prop:= ∀s∈c,0<s.l.value p
def InC(c:CellQ)(p:PtQ):Prop:= ∀s∈c,0≤s.l.value p
theorem partV_some(l:LnQ): ∀(c:CellQ) (v w:IvQ),v.Pos→partV l c v=some w→
  w.Pos∧(∀t,w.has t↔v.has t∧InC c (l.at t))∧(∀t,w.ins t↔v.ins t∧InD c (l.at t))
 |[],v,w,hv,h=>by
  obtain rfl:v=w:=by simpa[partV] using h
  exact⟨hv,fun t=>⟨fun h=>⟨h,fun s hs=>absurd hs (by simp)⟩,fun h=>h.1⟩,fun t=>⟨fun h=>⟨h,fun s hs=>absurd hs (by simp)⟩,fun h=>h.1⟩⟩
 |s::c,v,w,hv,h=>by
  rw[partV] at h
  split at h
  ·rename_i hb
   obtain⟨h1,h2,h3⟩:=partV_some l c _ w (cut_Pos hv hb) h
   refine⟨h1,fun t=>?_,fun t=>?_⟩
   ·rw[h2,cut_has hb]
    simp only[InC,List.forall_mem_cons]
    exact and_assoc
   ·rw[h3,cut_ins hb]
    simp only[InD,List.forall_mem_cons]
    exact and_assoc
  ·exact absurd h (by simp)
theorem partV_none(l:LnQ): ∀(c:CellQ) (v:IvQ),v.Pos→partV l c v=none→ ∀t,v.has t→ ¬InD c (l.at t)
 |[],v,hv,h=>by simp[partV] at h
 |s::c,v,hv,h=>by
  intro t ht hd
  have hd':=List.forall_mem_cons.1 hd
  rw[partV] at h
  split at h
  ·rename_i hb
   exact partV_none l c _ (cut_Pos hv hb) h t ((cut_has hb t).2 ⟨ht,Rat.le_of_lt hd'.1⟩) hd'.2
  ·rename_i hb
   have:=cut_no hv (by simpa using hb) ht
   have:=hd'.1
   grind
theorem InD.open: ∀{c:CellQ} {q:PtQ} (u:PtQ),InD c q→ ∃e:Rat,0<e∧ ∀d,0≤d→d≤e→InD c (movQ q u d)
 |[],q,u,_=>⟨1,by decide,fun d _ _ s hs=>absurd hs (by simp)⟩
 |s::c,q,u,h=>by
  have h':=List.forall_mem_cons.1 h
  obtain⟨e,he,hd⟩:=InD.open (c:=c) u h'.2
  have hs:=h'.1
  generalize hk:s.l.nor.dot u=k
  have hf: ∃f:Rat,0<f∧ ∀d,0≤d→d≤f→0<s.l.value q+d*k:=by
   by_cases hk0:0≤k
   ·exact⟨1,by decide,fun d h1 _=>by have:=rat_mul_nonneg h1 hk0;grind⟩
   ·refine⟨s.l.value q/(2* -k),?_,fun d h1 h2=>?_⟩
    ·have e1:s.l.value q/(2* -k)*(2* -k)=s.l.value q:=by grind
     exact(rat_mul_pos_iff (k:=2* -k) (by grind)).1 (by rw[e1];exact hs)
    ·have e1:s.l.value q/(2* -k)*(2* -k)=s.l.value q:=by grind
     generalize s.l.value q/(2* -k)=f at*
     have:=rat_mul_nonneg (a:=f-d) (b:= -k) (by grind) (by grind)
     grind
  obtain⟨f,hf0,hf⟩:=hf
  by_cases hef:e≤f
  ·refine⟨e,he,fun d h1 h2=>List.forall_mem_cons.2 ⟨?_,hd d h1 h2⟩⟩
   rw[val_mov,hk];exact hf d h1 (by grind)
  ·refine⟨f,hf0,fun d h1 h2=>List.forall_mem_cons.2 ⟨?_,hd d h1 (by grind)⟩⟩
   rw[val_mov,hk];exact hf d h1 h2
theorem first_exit: ∀{c:CellQ} {q p:PtQ},InD c q→(∃s∈c,s.l.value p≤0)→
  ∃e:Rat,0≤e∧e≤1∧(∃s∈c,s.l.value p≤0∧s.l.value (segQ q p e)=0)∧InC c (segQ q p e)
 |[],q,p,_,h=>by obtain⟨s,hs,_⟩:=h;exact absurd hs (by simp)
 |s::c,q,p,h,hex=>by
  have h':=List.forall_mem_cons.1 h
  have hs:=h'.1
  by_cases hc: ∃s∈c,s.l.value p≤0
  ·obtain⟨e,h0,h1,⟨s1,m1,n1,z1⟩,hC⟩:=first_exit h'.2 hc
   by_cases hp:0≤s.l.value (segQ q p e)
   ·exact⟨e,h0,h1,⟨s1,List.mem_cons_of_mem _ m1,n1,z1⟩,List.forall_mem_cons.2 ⟨hp,hC⟩⟩
   ·rw[val_seg] at hp
    generalize hB:s.l.value p-s.l.value q=B at*
    have hB0:B<0:=by
     by_cases hB0:0≤B
     ·have:=rat_mul_nonneg h0 hB0;grind
     ·grind
    have e1:s.l.value q/(-B)*(-B)=s.l.value q:=by grind
    generalize hf:s.l.value q/(-B)=f at*
    have f0:0≤f:=(rat_mul_nonneg_iff (k:= -B) (by grind)).1 (by rw[e1];grind)
    have f1:f≤e:=by
     have:=(rat_mul_nonneg_iff (s:=e-f) (k:= -B) (by grind)).1 (by grind)
     grind
    have z:s.l.value (segQ q p f)=0:=by rw[val_seg,hB];grind
    have np:s.l.value p≤0:=by
     have:=rat_mul_nonneg (a:=1-e) (b:= -B) (by grind) (by grind)
     grind
    refine⟨f,f0,by grind,⟨s,List.mem_cons_self,np,z⟩,List.forall_mem_cons.2 ⟨by rw[z];exact Rat.le_refl,fun s2 m2=>?_⟩⟩
    have a1:=h'.2 s2 m2
    have a2:=hC s2 m2
    rw[val_seg] at a2⊢
    exact lin_between (Rat.le_of_lt a1) a2 f0 f1
  ·have np:s.l.value p≤0:=by
    obtain⟨s1,m1,n1⟩:=hex
    rcases List.mem_cons.1 m1 with rfl|m1
    ·exact n1
    ·exact absurd ⟨s1,m1,n1⟩ hc
   generalize hB:s.l.value p-s.l.value q=B at*
   have hB0:B<0:=by grind
   have e1:s.l.value q/(-B)*(-B)=s.l.value q:=by grind
   generalize hf:s.l.value q/(-B)=f at*
   have f0:0≤f:=(rat_mul_nonneg_iff (k:= -B) (by grind)).1 (by rw[e1];grind)
   have f1:f≤1:=by
    have:=(rat_mul_nonneg_iff (s:=1-f) (k:= -B) (by grind)).1 (by grind)
    grind
   have z:s.l.value (segQ q p f)=0:=by rw[val_seg,hB];grind
   refine⟨f,f0,f1,⟨s,List.mem_cons_self,np,z⟩,List.forall_mem_cons.2 ⟨by rw[z];exact Rat.le_refl,fun s2 m2=>?_⟩⟩
   have a1:=h'.2 s2 m2
   have a2:0<s2.l.value p:=by
    by_cases h:0<s2.l.value p
    ·exact h
    ·exact absurd ⟨s2,m2,by grind⟩ hc
   rw[val_seg]
   have:=lin_between (A:=s2.l.value q) (B:=s2.l.value p-s2.l.value q) (u:=f) (v:=1) (Rat.le_of_lt a1) (by grind) f0 f1
   exact this
structure GoodC (c:CellQ):Prop where
 ne: ∃p,InD c p
 ok: ∀s∈c,s.l.ok
 edge: ∀s∈c,s.v.Pos∧ ∀t,s.v.has t↔InC c (s.l.at t)
theorem GoodC.nil:GoodC []:=⟨⟨⟨0,0⟩,fun s hs=>absurd hs (by simp)⟩,fun s hs=>absurd hs (by simp),fun s hs=>absurd hs (by simp)⟩
theorem closure_nonneg{c:CellQ}{m:LnQ}(hne: ∃q,InD c q)(h: ∀p,InD c p→0<m.value p){p:PtQ}(hp:InC c p):0≤m.value p:=by
 obtain⟨q,hq⟩:=hne
 have mq:=h q hq
 by_cases hm:0≤m.value p
 ·exact hm
 ·exfalso
  generalize hB:m.value q-m.value p=B
  have hB0:0<B:=by grind
  have e1: -m.value p/B*B= -m.value p:=by grind
  generalize-m.value p/B=e at*
  have e0:0<e:=(rat_mul_pos_iff hB0).1 (by rw[e1];grind)
  have e2:e≤1:=by
   have:=(rat_mul_nonneg_iff (s:=1-e) hB0).1 (by grind)
   grind
  have hd:InD c (segQ p q e):=fun s hs=>by
   rw[val_seg]
   have a:=hp s hs
   have b:=hq s hs
   have:=rat_mul_pos e0 b
   have:=rat_mul_nonneg (a:=1-e) (b:=s.l.value p) (by grind) a
   grind
  have:=h _ hd
  rw[val_seg,hB,e1] at this
  grind
theorem mem_cutsV{l:LnQ}{s':FrQ}: ∀{c:CellQ},s'∈cutsV l c↔ ∃s∈c,s.l.cutB s.v l=true∧s'=⟨s.l,s.l.cutV s.v l⟩
 |[]=>by simp[cutsV]
 |s::c=>by
  rw[cutsV]
  split
  ·rename_i hb
   rw[List.mem_cons,mem_cutsV (c:=c)]
   constructor
   ·rintro (rfl|⟨s1,h1,h2⟩)
    ·exact⟨s,List.mem_cons_self,hb,rfl⟩
    ·exact⟨s1,List.mem_cons_of_mem _ h1,h2⟩
   ·rintro ⟨s1,h1,h2,h3⟩
    rcases List.mem_cons.1 h1 with rfl|h1
    ·exact .inl h3
    ·exact .inr ⟨s1,h1,h2,h3⟩
  ·rename_i hb
   rw[mem_cutsV (c:=c)]
   constructor
   ·rintro ⟨s1,h1,h2⟩;exact⟨s1,List.mem_cons_of_mem _ h1,h2⟩
   ·rintro ⟨s1,h1,h2,h3⟩
    rcases List.mem_cons.1 h1 with rfl|h1
    ·exact absurd h2 hb
    ·exact⟨s1,h1,h2,h3⟩
theorem mem_insQ{c:CellQ}{l:LnQ}{v:IvQ}{s:FrQ}:s∈insQ c l v↔s=⟨l,v⟩∨s∈c:=by
 unfold insQ
 generalize bsq (angAt c l) 0 c.length=n
 rw[List.mem_append,List.mem_cons]
 have h:=List.take_append_drop n c
 constructor
 ·rintro (h1|h1|h1)
  ·exact .inr (List.mem_of_mem_take h1)
  ·exact .inl h1
  ·exact .inr (List.mem_of_mem_drop h1)
 ·rintro (h1|h1)
  ·exact .inr (.inl h1)
  ·rw[←h,List.mem_append] at h1
   rcases h1 with h1|h1
   ·exact .inl h1
   ·exact .inr (.inr h1)
theorem off_line{c:CellQ}{l:LnQ}(hl:l.Ne)(hp:partQ c l=none){p:PtQ}(h:InD c p):l.value p≠0:=by
 intro h0
 obtain⟨t,rfl⟩:=on_at hl h0
 exact partV_none l c _ all_Pos hp t (all_has t) h
theorem some_sides{c:CellQ}{l:LnQ}(hl:l.Ne){v:IvQ}(hp:partQ c l=some v):(∃q,InD c q∧0<l.value q)∧ ∃q,InD c q∧l.value q<0:=by
 obtain⟨h1,_,h3⟩:=partV_some l c _ v all_Pos hp
 have hd:=((h3 v.sample).1 (ins_sample h1)).2
 have h0:=at_self hl v.sample
 have hn:=nn_pos hl
 constructor
 ·obtain⟨e,he,hm⟩:=hd.open l.nor
  refine⟨_,hm e (Rat.le_of_lt he) Rat.le_refl,?_⟩
  rw[val_mov,h0]
  have:=rat_mul_pos he hn
  grind
 ·obtain⟨e,he,hm⟩:=hd.open ⟨-l.nor.x, -l.nor.y⟩
  refine⟨_,hm e (Rat.le_of_lt he) Rat.le_refl,?_⟩
  rw[val_mov,h0]
  have:=rat_mul_pos he hn
  simp only[PtQ.dot] at this⊢
  grind
theorem clip_some{c:CellQ}{l:LnQ}{v:IvQ}(hc:GoodC c)(hl:l.ok)(hp:partQ c l=some v):
  GoodC (insQ (cutsV l c) l v)∧ ∀p,InD (insQ (cutsV l c) l v) p↔InD c p∧0<l.value p:=by
 obtain⟨⟨q,hq,lq⟩,_⟩:=some_sides hl.ne hp
 obtain⟨v1,v2,v3⟩:=partV_some l c _ v all_Pos hp
 have hD: ∀p,InD (insQ (cutsV l c) l v) p↔InD c p∧0<l.value p:=by
  intro p
  constructor
  ·intro h
   have lp:0<l.value p:=h ⟨l,v⟩ (mem_insQ.2 (.inl rfl))
   refine⟨fun s0 hs0=>?_,lp⟩
   by_cases h0:0<s0.l.value p
   ·exact h0
   ·exfalso
    obtain⟨e,e0,e1,⟨s,ms,ns,zs⟩,hC⟩:=first_exit (p:=p) hq ⟨s0,hs0,by grind⟩
    obtain⟨t,ht⟩:=on_at (hc.ok s ms).ne zs
    rw[ht] at hC
    obtain⟨p1,p2⟩:=hc.edge s ms
    have hh:=(p2 t).2 hC
    have lr:0<l.value (s.l.at t):=by
     rw[←ht,val_seg]
     by_cases hB:0≤l.value p-l.value q
     ·have:=rat_mul_nonneg e0 hB;grind
     ·have:=rat_mul_nonneg (a:=1-e) (b:= -(l.value p-l.value q)) (by grind) (by grind)
      grind
    have hb:s.l.cutB s.v l=true:=by
     cases hb:s.l.cutB s.v l with
     |true=>rfl
     |false=>have:=cut_no p1 hb hh;grind
    have:=h ⟨s.l,s.l.cutV s.v l⟩ (mem_insQ.2 (.inr (mem_cutsV.2 ⟨s,ms,hb,rfl⟩)))
    simp only at this
    grind
  ·rintro ⟨h1,h2⟩ s hs
   rcases mem_insQ.1 hs with rfl|hs
   ·exact h2
   ·obtain⟨s1,m1,_,rfl⟩:=mem_cutsV.1 hs
    exact h1 s1 m1
 have hne: ∃p,InD (insQ (cutsV l c) l v) p:=⟨q,(hD q).2 ⟨hq,lq⟩⟩
 have hC: ∀p,InC (insQ (cutsV l c) l v) p↔InC c p∧0≤l.value p:=by
  intro p
  constructor
  ·intro h
   refine⟨fun s hs=>?_,h ⟨l,v⟩ (mem_insQ.2 (.inl rfl))⟩
   exact closure_nonneg hne (fun p hp=>((hD p).1 hp).1 s hs) h
  ·rintro ⟨h1,h2⟩ s hs
   rcases mem_insQ.1 hs with rfl|hs
   ·exact h2
   ·obtain⟨s1,m1,_,rfl⟩:=mem_cutsV.1 hs
    exact h1 s1 m1
 refine⟨⟨hne,fun s hs=>?_,fun s hs=>?_⟩,hD⟩
 ·rcases mem_insQ.1 hs with rfl|hs
  ·exact hl
  ·obtain⟨s1,m1,_,rfl⟩:=mem_cutsV.1 hs
   exact hc.ok s1 m1
 ·rcases mem_insQ.1 hs with rfl|hs
  ·refine⟨v1,fun t=>?_⟩
   rw[hC]
   simp only
   rw[v2]
   have h0:=at_self hl.ne t
   constructor
   ·intro h;exact⟨h.2,by rw[h0];exact Rat.le_refl⟩
   ·intro h;exact⟨all_has t,h.1⟩
  ·obtain⟨s1,m1,hb,rfl⟩:=mem_cutsV.1 hs
   obtain⟨p1,p2⟩:=hc.edge s1 m1
   refine⟨cut_Pos p1 hb,fun t=>?_⟩
   rw[hC]
   simp only
   rw[cut_has hb,p2]
theorem InD.seg{c:CellQ}{q p:PtQ}{e:Rat}(hq:InD c q)(hp:InD c p)(h0:0≤e)(h1:e≤1):InD c (segQ q p e):=fun s hs=>by
 rw[val_seg]
 have a:=hq s hs
 have b:=hp s hs
 by_cases he:e=0
 ·subst he;grind
 ·have:=rat_mul_pos (a:=e) (by grind) b
  have:=rat_mul_nonneg (a:=1-e) (b:=s.l.value q) (by grind) (by grind)
  grind
theorem ins_near{v:IvQ}{t:Rat}(h:v.ins t):(∃u,u<t∧v.has u)∧ ∃u,t<u∧v.has u:=by
 obtain⟨lo,hi,nl,nh⟩:=v
 unfold IvQ.ins at h
 unfold IvQ.has
 refine⟨⟨if nl=true then t-1 else lo,?_⟩,⟨if nh=true then t+1 else hi,?_⟩⟩<;>cases nl<;>cases nh<;>simp at* <;>grind
theorem dvd_of_prop{a b c x y z:Nat}(h1:x*b=a*y)(h2:x*c=a*z)(g:Nat.gcd (Nat.gcd a b) c=1):a∣x:=by
 have e:x=Nat.gcd (Nat.gcd (x*a) (x*b)) (x*c):=by
  rw[Nat.gcd_mul_left,Nat.gcd_mul_left,g,Nat.mul_one]
 rw[e]
 exact Nat.dvd_gcd (Nat.dvd_gcd (Nat.dvd_mul_left ..) (h1▸Nat.dvd_mul_right ..)) (h2▸Nat.dvd_mul_right ..)
theorem prim_same{a b c x y z:Int}(h1:a*y=b*x)(h2:a*z=c*x)(h3:b*z=c*y)
  (g1:Nat.gcd (Nat.gcd a.natAbs b.natAbs) c.natAbs=1)(g2:Nat.gcd (Nat.gcd x.natAbs y.natAbs) z.natAbs=1):
  (a=x∧b=y∧c=z)∨(a= -x∧b= -y∧c= -z):=by
 have n1:a.natAbs*y.natAbs=b.natAbs*x.natAbs:=by rw[←Int.natAbs_mul,←Int.natAbs_mul,h1]
 have n2:a.natAbs*z.natAbs=c.natAbs*x.natAbs:=by rw[←Int.natAbs_mul,←Int.natAbs_mul,h2]
 have n3:b.natAbs*z.natAbs=c.natAbs*y.natAbs:=by rw[←Int.natAbs_mul,←Int.natAbs_mul,h3]
 generalize ha:a.natAbs=A at*
 generalize hb:b.natAbs=B at*
 generalize hc:c.natAbs=C at*
 generalize hx:x.natAbs=X at*
 generalize hy:y.natAbs=Y at*
 generalize hz:z.natAbs=Z at*
 have gB:Nat.gcd (Nat.gcd B A) C=1:=by rw[Nat.gcd_comm B A];exact g1
 have gC:Nat.gcd (Nat.gcd C A) B=1:=by rw[Nat.gcd_assoc,Nat.gcd_comm];exact g1
 have gY:Nat.gcd (Nat.gcd Y X) Z=1:=by rw[Nat.gcd_comm Y X];exact g2
 have gZ:Nat.gcd (Nat.gcd Z X) Y=1:=by rw[Nat.gcd_assoc,Nat.gcd_comm];exact g2
 have e1:A=X:=Nat.dvd_antisymm (dvd_of_prop (x:=X) (y:=Y) (z:=Z) (by grind) (by grind) g1) (dvd_of_prop (x:=A) (y:=B) (z:=C) (by grind) (by grind) g2)
 have e2:B=Y:=Nat.dvd_antisymm (dvd_of_prop (x:=Y) (y:=X) (z:=Z) (by grind) (by grind) gB) (dvd_of_prop (x:=B) (y:=A) (z:=C) (by grind) (by grind) gY)
 have e3:C=Z:=Nat.dvd_antisymm (dvd_of_prop (x:=Z) (y:=X) (z:=Y) (by grind) (by grind) gC) (dvd_of_prop (x:=C) (y:=A) (z:=B) (by grind) (by grind) gZ)
 have s1:a=x∨a= -x:=by omega
 have s2:b=y∨b= -y:=by omega
 have s3:c=z∨c= -z:=by omega
 clear ha hb hc hx hy hz n1 n2 n3 g1 g2 gB gC gY gZ e1 e2 e3
 have z1:= @Int.mul_eq_zero x y
 have z2:= @Int.mul_eq_zero x z
 have z3:= @Int.mul_eq_zero y z
 rcases s1 with rfl|rfl<;>rcases s2 with rfl|rfl<;>rcases s3 with rfl|rfl<;>grind
theorem same_line{l m:LnQ}(hl:l.ok)(hm:m.ok)(h: ∀t,l.value (m.at t)=0):l=m∨l=m.rev:=by
 have h0:=h 0
 have h1:=h 1
 rw[val_at] at h0 h1
 have hC:m.cutC l=0:=by grind
 have hK:m.cutK l=0:=by grind
 obtain⟨q,q1,q2⟩:=base_q hm.ne
 have hn:=nn_pos hm.ne
 unfold LnQ.cutC at hC
 rw[q2,val_def] at hC
 unfold LnQ.cutK at hK
 simp only[LnQ.nor,LnQ.dir,PtQ.dot] at hK q1 hn hC
 obtain⟨a,b,c⟩:=l
 obtain⟨x,y,z⟩:=m
 simp only at*
 have e1:a*y=b*x:=by
  have:((a*y:Int):Rat)=((b*x:Int):Rat):=by rw[Rat.intCast_mul,Rat.intCast_mul];grind
  exact Rat.intCast_inj.1 this
 have e2:a*z=c*x:=by
  have:((a*z:Int):Rat)=((c*x:Int):Rat):=by rw[Rat.intCast_mul,Rat.intCast_mul];grind
  exact Rat.intCast_inj.1 this
 have e3:b*z=c*y:=by
  have:((b*z:Int):Rat)=((c*y:Int):Rat):=by rw[Rat.intCast_mul,Rat.intCast_mul];grind
  exact Rat.intCast_inj.1 this
 rcases prim_same e1 e2 e3 hl.2 hm.2 with⟨rfl,rfl,rfl⟩|⟨rfl,rfl,rfl⟩
 ·exact .inl rfl
 ·exact .inr rfl
theorem LnQ.ok.rev{l:LnQ}(h:l.ok):l.rev.ok:=by
 obtain⟨h1,h2⟩:=h
 refine⟨?_,?_⟩
 ·simp only[LnQ.rev];omega
 ·simp only[LnQ.rev,Int.natAbs_neg];exact h2
theorem place_neg(l:LnQ): ∀c:CellQ,(∀s∈c,sideAt l s≤0∧s.l≠l)→ ¬0<placeV l c
 |[],_=>by simp[placeV]
 |s::c,h=>by
  have h':=List.forall_mem_cons.1 h
  unfold placeV
  rw[if_neg h'.1.2]
  split
  ·have:=h'.1.1;omega
  ·exact place_neg l c h'.2
theorem place_spec{c:CellQ}{l:LnQ}(hc:GoodC c)(hl:l.ok)(hp:partQ c l=none):
  (0<placeV l c∧ ∀p,InD c p→0<l.value p)∨(¬0<placeV l c∧ ∀p,InD c p→l.value p<0):=by
 have hoff:=fun p (h:InD c p)=>off_line hl.ne hp h
 by_cases hq: ∃q,InD c q∧0<l.value q
 ·left
  obtain⟨q,hq,lq⟩:=hq
  have hall: ∀p,InD c p→0<l.value p:=by
   intro p h
   have:=hoff p h
   by_cases h0:0<l.value p
   ·exact h0
   ·exfalso
    have hn:l.value p<0:=by grind
    have e1:l.value q/(l.value q-l.value p)*(l.value q-l.value p)=l.value q:=by grind
    generalize l.value q/(l.value q-l.value p)=e at*
    have f0:0≤e:=(rat_mul_nonneg_iff (k:=l.value q-l.value p) (by grind)).1 (by grind)
    have f1:e≤1:=by
     have:=(rat_mul_nonneg_iff (s:=1-e) (k:=l.value q-l.value p) (by grind)).1 (by grind)
     grind
    exact hoff _ (hq.seg h f0 f1) (by rw[val_seg];grind)
  refine⟨?_,hall⟩
  cases c with
  |nil=>simp[partQ,partV] at hp
  |cons s c=>
   obtain⟨p1,p2⟩:=hc.edge s List.mem_cons_self
   have hi:=ins_sample p1
   have hr:=closure_nonneg hc.ne hall ((p2 _).1 hi.has)
   unfold placeV
   by_cases h0:sideAt l s=0
   ·rw[if_neg (by simpa using h0)]
    have hz:l.value (s.l.at s.v.sample)=0:=(sgn_zero _).1 h0
    have hge: ∀t,s.v.has t→0≤l.value (s.l.at t):=fun t ht=>closure_nonneg hc.ne hall ((p2 t).1 ht)
    obtain⟨⟨u1,m1,n1⟩,⟨u2,m2,n2⟩⟩:=ins_near hi
    have g1:=hge _ n1
    have g2:=hge _ n2
    rw[val_at] at hz g1 g2
    have hK:s.l.cutK l=0:=by
     rcases rat_tri (s.l.cutK l) with h|h|h
     ·exact h
     ·exfalso
      have:=rat_mul_pos (a:=s.v.sample-u1) (b:=s.l.cutK l) (by grind) h
      grind
     ·exfalso
      have:=rat_mul_pos (a:=u2-s.v.sample) (b:= -s.l.cutK l) (by grind) (by grind)
      grind
    have hz2: ∀t,l.value (s.l.at t)=0:=fun t=>by rw[val_at,hK];rw[hK] at hz;grind
    rcases same_line hl (hc.ok s List.mem_cons_self) hz2 with h|h
    ·rw[if_pos h.symm];decide
    ·exfalso
     have:=hall q hq
     rw[h,val_rev] at this
     have:=hq s List.mem_cons_self
     grind
   ·rw[if_pos h0]
    have hz:l.value (s.l.at s.v.sample)≠0:=fun e=>h0 ((sgn_zero _).2 e)
    exact(sgn_pos _).2 (by grind)
 ·right
  have hall: ∀p,InD c p→l.value p<0:=fun p h=>by
   have:=hoff p h
   have: ¬0<l.value p:=fun h'=>hq ⟨p,h,h'⟩
   grind
  refine⟨place_neg l c fun s hs=>?_,hall⟩
  obtain⟨p1,p2⟩:=hc.edge s hs
  have hr:=closure_nonneg (m:=l.rev) hc.ne (fun p h=>by rw[val_rev];have:=hall p h;grind) ((p2 _).1 (ins_sample p1).has)
  rw[val_rev] at hr
  constructor
  ·have: ¬0<sideAt l s:=fun h=>by have:=(sgn_pos _).1 h;grind
   omega
  ·rintro rfl
   obtain⟨p,hp⟩:=hc.ne
   have:=hall p hp
   have:=hp s hs
   grind
/-! ### clipping -/
theorem clip_iff{c:CellQ}{l:LnQ}(hc:GoodC c)(hl:l.ok):clipB c l=true↔ ∃p,InD c p∧0<l.value p:=by
 unfold clipB
 cases hp:partQ c l with
 |some v=>exact⟨fun _=>(some_sides hl.ne hp).1,fun _=>rfl⟩
 |none=>
  simp only[placeQ,hp,Option.isSome_none,Bool.false_eq_true,if_false,decide_eq_true_iff]
  rcases place_spec hc hl hp with⟨h1,h2⟩|⟨h1,h2⟩
  ·refine⟨fun _=>?_,fun _=>h1⟩
   obtain⟨p,hp⟩:=hc.ne
   exact⟨p,hp,h2 p hp⟩
  ·refine⟨fun h=>absurd h h1,?_⟩
   rintro ⟨p,hp,h⟩
   have:=h2 p hp
   grind
theorem clip_good{c:CellQ}{l:LnQ}(hc:GoodC c)(hl:l.ok)(hb:clipB c l=true):GoodC (clipC c l)∧ ∀p,InD (clipC c l) p↔InD c p∧0<l.value p:=by
 unfold clipC
 cases hp:partQ c l with
 |some v=>exact clip_some hc hl hp
 |none=>
  refine⟨hc,fun p=>?_⟩
  unfold clipB at hb
  simp only[hp,placeQ,Option.isSome_none,Bool.false_eq_true,if_false,decide_eq_true_iff] at hb
  rcases place_spec hc hl hp with⟨h1,h2⟩|⟨h1,h2⟩
  ·exact⟨fun h=>⟨h,h2 p h⟩,fun h=>h.1⟩
  ·exact absurd hb h1
theorem not_zero{c:CellQ}{l:LnQ}(hl:l.ok){p:PtQ}(hp:InD c p)(h0:l.value p=0):(∃q,InD c q∧0<l.value q)∧ ∃q,InD c q∧l.value q<0:=by
 have hn:=nn_pos hl.ne
 constructor
 ·obtain⟨e,he,hm⟩:=hp.open l.nor
  refine⟨_,hm e (Rat.le_of_lt he) Rat.le_refl,?_⟩
  rw[val_mov,h0]
  have:=rat_mul_pos he hn
  grind
 ·obtain⟨e,he,hm⟩:=hp.open ⟨-l.nor.x, -l.nor.y⟩
  refine⟨_,hm e (Rat.le_of_lt he) Rat.le_refl,?_⟩
  rw[val_mov,h0]
  have:=rat_mul_pos he hn
  simp only[PtQ.dot] at this⊢
  grind
inductive Lies (c:CellQ) (l:LnQ):Prop
 |left (h1:clipB c l.rev=false) (h: ∀p,InD c p→0<l.value p)
 |right (h1:clipB c l.rev=true) (h2:clipB c l=false) (h: ∀p,InD c p→l.value p<0)
 |both (h1:clipB c l.rev=true) (h2:clipB c l=true) (g1:GoodC (clipC c l)) (g2:GoodC (clipC c l.rev))
   (e1: ∀p,InD (clipC c l) p↔InD c p∧0<l.value p) (e2: ∀p,InD (clipC c l.rev) p↔InD c p∧l.value p<0)
theorem lies{c:CellQ}{l:LnQ}(hc:GoodC c)(hl:l.ok):Lies c l:=by
 have hr:=clip_iff hc hl.rev
 have hi:=clip_iff hc hl
 cases h1:clipB c l.rev with
 |false=>
  refine .left h1 fun p hp=>?_
  have hn: ¬ ∃q,InD c q∧l.value q<0:=by
   rintro ⟨q,a,b⟩
   have:=hr.2 ⟨q,a,by rw[val_rev];grind⟩
   rw[h1] at this;exact absurd this (by decide)
  have n1: ¬l.value p<0:=fun h=>hn ⟨p,hp,h⟩
  have n2:l.value p≠0:=fun h=>hn (not_zero hl hp h).2
  grind
 |true=>
  cases h2:clipB c l with
  |false=>
   refine .right h1 h2 fun p hp=>?_
   have hn: ¬ ∃q,InD c q∧0<l.value q:=by
    intro h
    have:=hi.2 h
    rw[h2] at this;exact absurd this (by decide)
   have n1: ¬0<l.value p:=fun h=>hn ⟨p,hp,h⟩
   have n2:l.value p≠0:=fun h=>hn (not_zero hl hp h).1
   grind
  |true=>
   obtain⟨g1,e1⟩:=clip_good hc hl h2
   obtain⟨g2,e2⟩:=clip_good hc hl.rev h1
   refine .both h1 h2 g1 g2 e1 fun p=>?_
   rw[e2,val_rev]
   constructor<;>rintro ⟨a,b⟩<;>exact⟨a,by grind⟩
/-! ### trees -/
theorem Tr.restrict_A{l:LnQ}{e:CellQ}(X Y:Tr)(h:clipB e l.rev=false):(Tr.node l X Y).restrict e=X.restrict e:=by
 rw[Tr.restrict,h];rfl
theorem Tr.restrict_B{l:LnQ}{e:CellQ}(X Y:Tr)(h:clipB e l.rev=true)(h2:clipB e l=false):(Tr.node l X Y).restrict e=Y.restrict e:=by
 rw[Tr.restrict,h,h2];rfl
theorem Tr.restrict_C{l:LnQ}{e:CellQ}(X Y:Tr)(h:clipB e l.rev=true)(h2:clipB e l=true):(Tr.node l X Y).restrict e=Tr.joinQ l (X.restrict (clipC e l)) (Y.restrict (clipC e l.rev)):=by
 rw[Tr.restrict,h,h2];rfl
def canonQ:List LnQ→CellQ→Option CellQ
 |[],c=>some c
 |l::t,c=>if clipB c l then canonQ t (clipC c l) else none
theorem canon_good: ∀{ls:List LnQ} {c e:CellQ},GoodC c→(∀l∈ls,l.ok)→canonQ ls c=some e→GoodC e∧ ∀p,InD e p↔InD c p∧ ∀l∈ls,0<l.value p
 |[],c,e,hc,_,h=>by
  obtain rfl:c=e:=by simpa[canonQ] using h
  exact⟨hc,fun p=>⟨fun h=>⟨h,fun l hl=>absurd hl (by simp)⟩,fun h=>h.1⟩⟩
 |l::t,c,e,hc,hl,h=>by
  have hl':=List.forall_mem_cons.1 hl
  rw[canonQ] at h
  split at h
  ·rename_i hb
   obtain⟨g1,g2⟩:=clip_good hc hl'.1 hb
   obtain⟨k1,k2⟩:=canon_good g1 hl'.2 h
   refine⟨k1,fun p=>?_⟩
   rw[k2,g2,List.forall_mem_cons,and_assoc]
  ·exact absurd h (by simp)
theorem canon_some: ∀{ls:List LnQ} {c:CellQ},GoodC c→(∀l∈ls,l.ok)→(∃p,InD c p∧ ∀l∈ls,0<l.value p)→ ∃e,canonQ ls c=some e
 |[],c,_,_,_=>⟨c,rfl⟩
 |l::t,c,hc,hl,⟨p,h1,h2⟩=>by
  have hl':=List.forall_mem_cons.1 hl
  have h2':=List.forall_mem_cons.1 h2
  have hb:=(clip_iff hc hl'.1).2 ⟨p,h1,h2'.1⟩
  obtain⟨g1,g2⟩:=clip_good hc hl'.1 hb
  rw[canonQ,if_pos hb]
  exact canon_some g1 hl'.2 ⟨p,(g2 p).2 ⟨h1,h2'.1⟩,h2'.2⟩
end Go.Sx
end

section
set_option maxRecDepth 100000
namespace Go.Sx
open Go
theorem edge_zero{c:CellQ}(hc:GoodC c){s:FrQ}(hs:s∈c){m:LnQ}(hm:m.ok)(h: ∀p,InD c p→0<m.value p)(hz:m.value (s.l.at s.v.sample)=0):m=s.l:=by
 obtain⟨p1,p2⟩:=hc.edge s hs
 have hi:=ins_sample p1
 have hge: ∀t,s.v.has t→0≤m.value (s.l.at t):=fun t ht=>closure_nonneg hc.ne h ((p2 t).1 ht)
 obtain⟨⟨u1,m1,n1⟩,⟨u2,m2,n2⟩⟩:=ins_near hi
 have g1:=hge _ n1
 have g2:=hge _ n2
 rw[val_at] at hz g1 g2
 have hK:s.l.cutK m=0:=by
  rcases rat_tri (s.l.cutK m) with h|h|h
  ·exact h
  ·exfalso
   have:=rat_mul_pos (a:=s.v.sample-u1) (b:=s.l.cutK m) (by grind) h
   grind
  ·exfalso
   have:=rat_mul_pos (a:=u2-s.v.sample) (b:= -s.l.cutK m) (by grind) (by grind)
   grind
 have hz2: ∀t,m.value (s.l.at t)=0:=fun t=>by rw[val_at,hK];rw[hK] at hz;grind
 rcases same_line hm (hc.ok s hs) hz2 with h'|h'
 ·exact h'
 ·exfalso
  obtain⟨q,hq⟩:=hc.ne
  have:=h q hq
  rw[h',val_rev] at this
  have:=hq s hs
  grind
def partL(l:LnQ):List LnQ→IvQ→Option IvQ
 |[],v=>some v
 |m::t,v=>if m=l then partL l t v else if l.cutB v m then partL l t (l.cutV v m) else none
def InL(c:List LnQ)(p:PtQ):Prop:= ∀m∈c,0<m.value p
theorem partL_some(l:LnQ): ∀(c:List LnQ) (v w:IvQ),v.Pos→partL l c v=some w→
  w.Pos∧(∀t,w.ins t↔v.ins t∧ ∀m∈c,m≠l→0<m.value (l.at t))
 |[],v,w,hv,h=>by
  obtain rfl:v=w:=by simpa[partL] using h
  exact⟨hv,fun t=>⟨fun h=>⟨h,fun s hs=>absurd hs (by simp)⟩,fun h=>h.1⟩⟩
 |m::c,v,w,hv,h=>by
  rw[partL] at h
  split at h
  ·rename_i hm
   obtain⟨h1,h2⟩:=partL_some l c _ w hv h
   refine⟨h1,fun t=>?_⟩
   rw[h2,List.forall_mem_cons]
   exact⟨fun h=>⟨h.1,fun h'=>absurd hm h',h.2⟩,fun h=>⟨h.1,h.2.2⟩⟩
  ·rename_i hm
   split at h
   ·rename_i hb
    obtain⟨h1,h2⟩:=partL_some l c _ w (cut_Pos hv hb) h
    refine⟨h1,fun t=>?_⟩
    rw[h2,cut_ins hb,List.forall_mem_cons,and_assoc]
    exact⟨fun h=>⟨h.1,fun _=>h.2.1,h.2.2⟩,fun h=>⟨h.1,h.2.1 hm,h.2.2⟩⟩
   ·exact absurd h (by simp)
theorem partL_none(l:LnQ): ∀(c:List LnQ) (v:IvQ),v.Pos→partL l c v=none→ ∀t,v.has t→ ¬ ∀m∈c,m≠l→0<m.value (l.at t)
 |[],v,hv,h=>by simp[partL] at h
 |m::c,v,hv,h=>by
  intro t ht hd
  have hd':=List.forall_mem_cons.1 hd
  rw[partL] at h
  split at h
  ·exact partL_none l c _ hv h t ht hd'.2
  ·rename_i hm
   split at h
   ·rename_i hb
    exact partL_none l c _ (cut_Pos hv hb) h t ((cut_has hb t).2 ⟨ht,Rat.le_of_lt (hd'.1 hm)⟩) hd'.2
   ·rename_i hb
    have:=cut_no hv (by simpa using hb) ht
    have:=hd'.1 hm
    grind
def innerB(c:List LnQ):Bool:=c.isEmpty||c.any (fun l=>(partL l c IvQ.all).isSome)
theorem mem_canonQ: ∀{ls:List LnQ} {c e:CellQ},canonQ ls c=some e→ ∀s∈e,s.l∈ls∨ ∃s'∈c,s'.l=s.l
 |[],c,e,h,s,hs=>by
  obtain rfl:c=e:=by simpa[canonQ] using h
  exact .inr ⟨s,hs,rfl⟩
 |l::t,c,e,h,s,hs=>by
  rw[canonQ] at h
  split at h
  ·rcases mem_canonQ h s hs with h1|⟨s',h1,h2⟩
   ·exact .inl (List.mem_cons_of_mem _ h1)
   ·unfold clipC at h1
    split at h1
    ·rcases mem_insQ.1 h1 with rfl|h1
     ·exact .inl (by rw[←h2];exact List.mem_cons_self)
     ·obtain⟨s1,m1,_,rfl⟩:=mem_cutsV.1 h1
      exact .inr ⟨s1,m1,h2⟩
    ·exact .inr ⟨s',h1,h2⟩
  ·exact absurd h (by simp)
theorem canon_sides{c:List LnQ}(hok: ∀l∈c,l.ok)(hne: ∃p,InL c p): ∃e,canonQ c []=some e∧GoodC e∧(∀p,InD e p↔InL c p)∧ ∀s∈e,s.l∈c∧(partL s.l c IvQ.all).isSome=true:=by
 obtain⟨p,hp⟩:=hne
 obtain⟨e,he⟩:=canon_some GoodC.nil hok ⟨p,fun s hs=>absurd hs (by simp),hp⟩
 obtain⟨g1,g2⟩:=canon_good GoodC.nil hok he
 have g3: ∀p,InD e p↔InL c p:=fun p=>by
  rw[g2]
  exact⟨fun h=>h.2,fun h=>⟨fun s hs=>absurd hs (by simp),h⟩⟩
 refine⟨e,he,g1,g3,fun s hs=>?_⟩
 have hm:s.l∈c:=by
  rcases mem_canonQ he s hs with h|⟨_,h,_⟩
  ·exact h
  ·exact absurd h (by simp)
 refine⟨hm,?_⟩
 cases hp:partL s.l c IvQ.all with
 |some w=>rfl
 |none=>
  exfalso
  obtain⟨p1,p2⟩:=g1.edge s hs
  have hC:=(p2 s.v.sample).1 (ins_sample p1).has
  refine partL_none s.l c _ all_Pos hp s.v.sample (all_has _) fun m hmc hne=>?_
  have hall: ∀p,InD e p→0<m.value p:=fun p hp=>(g3 p).1 hp m hmc
  have h0:=closure_nonneg g1.ne hall hC
  have h1:m.value (s.l.at s.v.sample)≠0:=fun hz=>hne (edge_zero g1 hs (hok m hmc) hall hz)
  grind
theorem inner_iff{c:List LnQ}(hok: ∀l∈c,l.ok):innerB c=true↔ ∃p,InL c p:=by
 unfold innerB
 rw[Bool.or_eq_true,List.isEmpty_iff,List.any_eq_true]
 constructor
 ·rintro (rfl|⟨l,hl,h⟩)
  ·exact⟨⟨0,0⟩,fun m hm=>absurd hm (by simp)⟩
  ·obtain⟨w,hw⟩:=Option.isSome_iff_exists.1 h
   obtain⟨w1,w2⟩:=partL_some l c _ w all_Pos hw
   have hi:=((w2 w.sample).1 (ins_sample w1)).2
   have h0:=at_self (hok l hl).ne w.sample
   have hd:InD ((c.filter (fun m=>decide (m≠l))).map (fun m=>(⟨m,IvQ.all⟩:FrQ))) (l.at w.sample):=by
    intro s hs
    obtain⟨m,hm,rfl⟩:=List.mem_map.1 hs
    rw[List.mem_filter,decide_eq_true_iff] at hm
    exact hi m hm.1 hm.2
   obtain⟨e,he,ho⟩:=hd.open l.nor
   refine⟨movQ (l.at w.sample) l.nor e,fun m hm=>?_⟩
   by_cases hml:m=l
   ·subst hml
    rw[val_mov,h0]
    have:=rat_mul_pos he (nn_pos (hok m hl).ne)
    grind
   ·exact ho e (Rat.le_of_lt he) Rat.le_refl ⟨m,IvQ.all⟩ (List.mem_map.2 ⟨m,List.mem_filter.2 ⟨hm,by simpa using hml⟩,rfl⟩)
 ·intro hne
  obtain⟨e,h1,h2,h3,h4⟩:=canon_sides hok hne
  cases c with
  |nil=>exact .inl rfl
  |cons l c=>
   right
   cases e with
   |nil=>
    exfalso
    have:=(h3 (l.at 0)).1 (fun s hs=>absurd hs (by simp)) l List.mem_cons_self
    rw[at_self (hok l List.mem_cons_self).ne] at this
    exact absurd this (by decide)
   |cons s e=>
    obtain⟨a,b⟩:=h4 s List.mem_cons_self
    exact⟨s.l,a,b⟩
def angIdx(out:List LnQ)(l:LnQ):Nat:=(out.takeWhile (fun x=>decide (angleQ x.dir l.dir<0))).length
def canonIns(out:List LnQ)(l:LnQ):List LnQ:=if out[angIdx out l]? =some l then out else out.take (angIdx out l)++l::out.drop (angIdx out l)
def canonF(c:List LnQ):List LnQ→List LnQ→List LnQ
 |[],out=>out
 |l::t,out=>canonF c t (if(partL l c IvQ.all).isSome then canonIns out l else out)
def canonL(c:List LnQ):List LnQ:=canonF c c []
theorem mem_canonIns{out:List LnQ}{l m:LnQ}:m∈canonIns out l↔m=l∨m∈out:=by
 unfold canonIns
 split
 ·rename_i h
  exact⟨fun h=> .inr h,fun h'=>h'.elim (fun e=>e▸List.mem_of_getElem? h) id⟩
 ·generalize angIdx out l=n
  have h:=List.take_append_drop n out
  rw[List.mem_append,List.mem_cons]
  constructor
  ·rintro (h1|h1|h1)
   ·exact .inr (List.mem_of_mem_take h1)
   ·exact .inl h1
   ·exact .inr (List.mem_of_mem_drop h1)
  ·rintro (h1|h1)
   ·exact .inr (.inl h1)
   ·rw[←h,List.mem_append] at h1
    rcases h1 with h1|h1
    ·exact .inl h1
    ·exact .inr (.inr h1)
theorem mem_canonF{c:List LnQ}{m:LnQ}: ∀{t out:List LnQ},m∈canonF c t out↔m∈out∨m∈t∧(partL m c IvQ.all).isSome=true
 |[],out=>by simp[canonF]
 |l::t,out=>by
  rw[canonF,mem_canonF]
  split
  ·rename_i h
   rw[mem_canonIns,List.mem_cons]
   constructor
   ·rintro ((rfl|h1)|⟨h1,h2⟩)
    ·exact .inr ⟨.inl rfl,h⟩
    ·exact .inl h1
    ·exact .inr ⟨.inr h1,h2⟩
   ·rintro (h1|⟨rfl|h1,h2⟩)
    ·exact .inl (.inr h1)
    ·exact .inl (.inl rfl)
    ·exact .inr ⟨h1,h2⟩
  ·rename_i h
   rw[List.mem_cons]
   constructor
   ·rintro (h1|⟨h1,h2⟩)
    ·exact .inl h1
    ·exact .inr ⟨.inr h1,h2⟩
   ·rintro (h1|⟨rfl|h1,h2⟩)
    ·exact .inl h1
    ·exact absurd h2 h
    ·exact .inr ⟨h1,h2⟩
theorem mem_canonL{c:List LnQ}{m:LnQ}:m∈canonL c↔m∈c∧(partL m c IvQ.all).isSome=true:=by
 unfold canonL;rw[mem_canonF];simp
theorem canonL_in{c:List LnQ}(hok: ∀l∈c,l.ok)(hne: ∃p,InL c p)(p:PtQ):InL (canonL c) p↔InL c p:=by
 constructor
 ·intro h
  obtain⟨e,h1,h2,h3,h4⟩:=canon_sides hok hne
  exact(h3 p).1 fun s hs=>h s.l (mem_canonL.2 (h4 s hs))
 ·intro h m hm;exact h m (mem_canonL.1 hm).1
def placeL(c:List LnQ)(l:LnQ):Int:=if innerB (c++[l])&&innerB (c++[l.rev]) then 0 else if innerB (c++[l]) then 1 else-1
def Tr.restrictL:Tr→List LnQ→Tr
 | .leaf b,_=> .leaf b
 | .node l x y,c=>if placeL c l=1 then x.restrictL c else if placeL c l= -1 then y.restrictL c else joinQ l (x.restrictL (canonL (c++[l]))) (y.restrictL (canonL (c++[l.rev])))
theorem InL_app{c:List LnQ}{l:LnQ}{p:PtQ}:InL (c++[l]) p↔InL c p∧0<l.value p:=by
 unfold InL
 rw[List.forall_mem_append]
 simp
theorem ok_app{c:List LnQ}{l:LnQ}(hok: ∀m∈c,m.ok)(hl:l.ok): ∀m∈c++[l],m.ok:=by
 rw[List.forall_mem_append]
 exact⟨hok,by simpa using hl⟩
theorem Tr.restrictL_eq: ∀(t:Tr) (c:List LnQ) (d:CellQ),t.all LnQ.ok→(∀l∈c,l.ok)→GoodC d→(∀p,InD d p↔InL c p)→t.restrictL c=t.restrict d
 | .leaf b,c,d,_,_,_,_=>rfl
 | .node l x y,c,d,h,hc,hd,he=>by
  obtain⟨hl,hx,hy⟩:=h
  have i1:=inner_iff (ok_app hc hl)
  have i2:=inner_iff (ok_app hc hl.rev)
  obtain⟨p0,hp0⟩:=hd.ne
  rcases lies hd hl with⟨a1,a⟩|⟨a1,a2,a⟩|⟨a1,a2,ag1,ag2,ae1,ae2⟩
  ·have b1:innerB (c++[l])=true:=i1.2 ⟨p0,InL_app.2 ⟨(he p0).1 hp0,a p0 hp0⟩⟩
   have b2:innerB (c++[l.rev])=false:=by
    rw[←Bool.not_eq_true,i2]
    rintro ⟨p,hp⟩
    have hp:=InL_app.1 hp
    have:=a p ((he p).2 hp.1)
    rw[val_rev] at hp
    grind
   rw[Tr.restrict_A _ _ a1,Tr.restrictL,placeL,b1,b2]
   exact x.restrictL_eq c d hx hc hd he
  ·have b2:innerB (c++[l.rev])=true:=i2.2 ⟨p0,InL_app.2 ⟨(he p0).1 hp0,by rw[val_rev];have:=a p0 hp0;grind⟩⟩
   have b1:innerB (c++[l])=false:=by
    rw[←Bool.not_eq_true,i1]
    rintro ⟨p,hp⟩
    have hp:=InL_app.1 hp
    have:=a p ((he p).2 hp.1)
    grind
   rw[Tr.restrict_B _ _ a1 a2,Tr.restrictL,placeL,b1,b2]
   exact y.restrictL_eq c d hy hc hd he
  ·have n1: ∃p,InL (c++[l]) p:=by
    obtain⟨p,hp⟩:=ag1.ne
    exact⟨p,InL_app.2 ⟨(he p).1 ((ae1 p).1 hp).1,((ae1 p).1 hp).2⟩⟩
   have n2: ∃p,InL (c++[l.rev]) p:=by
    obtain⟨p,hp⟩:=ag2.ne
    exact⟨p,InL_app.2 ⟨(he p).1 ((ae2 p).1 hp).1,by rw[val_rev];have:=((ae2 p).1 hp).2;grind⟩⟩
   rw[Tr.restrict_C _ _ a1 a2,Tr.restrictL,placeL,i1.2 n1,i2.2 n2]
   have k1:=x.restrictL_eq (canonL (c++[l])) (clipC d l) hx (fun m hm=>ok_app hc hl m (mem_canonL.1 hm).1) ag1 fun p=>by
    rw[canonL_in (ok_app hc hl) n1,ae1,InL_app,he]
   have k2:=y.restrictL_eq (canonL (c++[l.rev])) (clipC d l.rev) hy (fun m hm=>ok_app hc hl.rev m (mem_canonL.1 hm).1) ag2 fun p=>by
    rw[canonL_in (ok_app hc hl.rev) n2,ae2,InL_app,he,val_rev]
    constructor<;>rintro ⟨a,b⟩<;>exact⟨a,by grind⟩
   rw[k1,k2]
   rfl
end Go.Sx
end

section
set_option maxRecDepth 100000
namespace Go.Sx
open Go
def crossI(l m:LnQ):Int:=l.a*m.b-m.a*l.b
def meetX(l m:LnQ):Int:=l.b*m.c-m.b*l.c
def meetY(l m:LnQ):Int:=m.a*l.c-l.a*m.c
def meetP(l m:LnQ):PtQ:=if crossI l m=0 then⟨0,0⟩ else⟨(meetX l m:Rat)/(crossI l m:Rat),(meetY l m:Rat)/(crossI l m:Rat)⟩
def paramQ(l:LnQ)(p:PtQ):Rat:=p.dot l.dir/l.dir.dot l.dir
theorem dd_nn(l:LnQ):l.dir.dot l.dir=l.nor.dot l.nor:=by
 simp only[LnQ.dir,LnQ.nor,PtQ.dot];grind
theorem dd_pos{l:LnQ}(h:l.Ne):0<l.dir.dot l.dir:=by rw[dd_nn];exact nn_pos h
theorem cross_cast(l m:LnQ):((crossI l m:Int):Rat)=(l.a:Rat)*m.b-(m.a:Rat)*l.b:=by
 unfold crossI;rw[Rat.intCast_sub,Rat.intCast_mul,Rat.intCast_mul]
theorem meetX_cast(l m:LnQ):((meetX l m:Int):Rat)=(l.b:Rat)*m.c-(m.b:Rat)*l.c:=by
 unfold meetX;rw[Rat.intCast_sub,Rat.intCast_mul,Rat.intCast_mul]
theorem meetY_cast(l m:LnQ):((meetY l m:Int):Rat)=(m.a:Rat)*l.c-(l.a:Rat)*m.c:=by
 unfold meetY;rw[Rat.intCast_sub,Rat.intCast_mul,Rat.intCast_mul]
theorem cutK_cross(l m:LnQ):l.cutK m= -((crossI l m:Int):Rat):=by
 rw[cross_cast];simp only[LnQ.cutK,LnQ.nor,LnQ.dir,PtQ.dot];grind
theorem cutK_dir(l m:LnQ):m.dir.cross l.dir=l.cutK m:=by
 simp only[LnQ.cutK,LnQ.nor,LnQ.dir,PtQ.dot,PtQ.cross];grind
theorem base_ref{l:LnQ}:(⟨-((l.c:Rat)/l.dir.dot l.dir)*(l.a:Rat), -((l.c:Rat)/l.dir.dot l.dir)*(l.b:Rat)⟩:PtQ)=l.base:=by
 unfold LnQ.base
 rw[dd_nn]
 simp only[LnQ.nor,PtQ.scale,PtQ.mk.injEq]
 constructor<;>grind
theorem at_ref(l:LnQ)(t:Rat):movQ l.base l.dir t=l.at t:=by
 simp only[movQ,LnQ.at,PtQ.add,PtQ.scale,PtQ.mk.injEq]
 constructor<;>grind
theorem param_meet{l m:LnQ}(hl:l.Ne)(h:crossI l m≠0):paramQ l (meetP l m)= -(l.cutC m/l.cutK m):=by
 have hd:((crossI l m:Int):Rat)≠0:=fun e=>h (Rat.intCast_eq_zero_iff.1 e)
 have hn:=dd_pos hl
 obtain⟨q,q1,q2⟩:=base_q hl
 rw[cutK_cross]
 unfold paramQ meetP LnQ.cutC
 rw[if_neg h,q2,val_def,meetX_cast,meetY_cast]
 have hc:=cross_cast l m
 rw[dd_nn] at hn⊢
 simp only[LnQ.dir,LnQ.nor,PtQ.dot] at hn q1⊢
 generalize ((crossI l m:Int):Rat)=d at*
 generalize (l.a:Rat)=a at*
 generalize (l.b:Rat)=b at*
 generalize (l.c:Rat)=c at*
 generalize (m.a:Rat)=x at*
 generalize (m.b:Rat)=y at*
 generalize (m.c:Rat)=z at*
 have hn':a*a+b*b≠0:=by grind
 have e:((b*z-y*c)/d*b+(x*c-a*z)/d* -a)=((b*z-y*c)*b-(x*c-a*z)*a)/d:=by grind
 rw[e]
 have k1:(b*z-y*c)*b-(x*c-a*z)*a=(a*a+b*b)*(x*(a*q)+y*(b*q)+z):=by grind
 rw[k1]
 grind
theorem param_frac{l m:LnQ}(hl:l.Ne)(h:crossI l m≠0):paramQ l (meetP l m)*((crossI l m*(l.a*l.a+l.b*l.b):Int):Rat)=((meetX l m*l.b-meetY l m*l.a:Int):Rat):=by
 have hd:((crossI l m:Int):Rat)≠0:=fun e=>h (Rat.intCast_eq_zero_iff.1 e)
 have hn:=dd_pos hl
 unfold paramQ meetP
 rw[if_neg h]
 simp only[Rat.intCast_mul,Rat.intCast_sub,Rat.intCast_add]
 simp only[LnQ.dir,PtQ.dot] at hn⊢
 generalize ((crossI l m:Int):Rat)=d at*
 generalize ((meetX l m:Int):Rat)=x at*
 generalize ((meetY l m:Int):Rat)=y at*
 generalize (l.a:Rat)=a at*
 generalize (l.b:Rat)=b at*
 have hn':b*b+ -a* -a≠0:=by grind
 grind
theorem partL_cons(l m:LnQ)(t:List LnQ)(v:IvQ):partL l (m::t) v=if m=l then partL l t v else if l.cutB v m then partL l t (l.cutV v m) else none:=rfl
def updLo(v:IvQ)(t:Rat):IvQ:=if v.nl=true∨0<rcmp t v.lo then⟨t,v.hi,false,v.nh⟩ else v
def updHi(v:IvQ)(t:Rat):IvQ:=if v.nh=true∨rcmp t v.hi<0 then⟨v.lo,t,v.nl,false⟩ else v
structure IvZ (v:IvQ):Prop where
 lo:v.nl=true→v.lo=0
 hi:v.nh=true→v.hi=0
theorem rcmp_pos'(a b:Rat):0<rcmp a b↔b<a:=by
 unfold rcmp;split
 ·constructor
  ·intro h;exact absurd h (by decide)
  ·intro h;grind
 ·split
  ·exact⟨fun _=>by assumption,fun _=>by decide⟩
  ·constructor
   ·intro h;exact absurd h (by decide)
   ·intro h;exact absurd h (by assumption)
theorem rcmp_neg'(a b:Rat):rcmp a b<0↔a<b:=by
 unfold rcmp;split
 ·exact⟨fun _=>by assumption,fun _=>by decide⟩
 ·split
  ·constructor
   ·intro h;exact absurd h (by decide)
   ·intro h;grind
  ·constructor
   ·intro h;exact absurd h (by decide)
   ·intro h;exact absurd h (by assumption)
theorem updLo_meet{v:IvQ}(h:IvZ v)(t:Rat):updLo v t=v.meet ⟨t,0,false,true⟩:=by
 obtain⟨lo,hi,nl,nh⟩:=v
 obtain⟨h1,h2⟩:=h
 unfold updLo IvQ.meet
 simp only[rcmp_pos'] at*
 cases nl<;>cases nh<;>simp at* <;>(try (split<;>split<;>simp_all<;>grind))<;>grind
theorem updHi_meet{v:IvQ}(h:IvZ v)(t:Rat):updHi v t=v.meet ⟨0,t,true,false⟩:=by
 obtain⟨lo,hi,nl,nh⟩:=v
 obtain⟨h1,h2⟩:=h
 unfold updHi IvQ.meet
 simp only[rcmp_neg'] at*
 cases nl<;>cases nh<;>simp at* <;>(try (split<;>split<;>simp_all<;>grind))<;>grind
theorem IvZ.all:IvZ IvQ.all:=⟨fun _=>rfl,fun _=>rfl⟩
theorem IvZ.lo'{v:IvQ}(h:IvZ v)(t:Rat):IvZ (updLo v t):=by
 obtain⟨lo,hi,nl,nh⟩:=v
 unfold updLo;split
 ·exact⟨fun h=>by simp at h,h.hi⟩
 ·exact h
theorem IvZ.hi'{v:IvQ}(h:IvZ v)(t:Rat):IvZ (updHi v t):=by
 obtain⟨lo,hi,nl,nh⟩:=v
 unfold updHi;split
 ·exact⟨h.lo,fun h=>by simp at h⟩
 ·exact h
theorem step_par{l m:LnQ}{v:IvQ}(h:crossI l m=0):l.cutV v m=v∧(l.cutB v m=true↔0<m.value l.base):=by
 have hk:l.cutK m=0:=by rw[cutK_cross,h];rfl
 exact cut_zero v hk
theorem step_lo{l m:LnQ}{v:IvQ}(hl:l.Ne)(hz:IvZ v)(h:0<m.dir.cross l.dir):crossI l m≠0∧l.cutV v m=updLo v (paramQ l (meetP l m))∧l.cutB v m=!(updLo v (paramQ l (meetP l m))).empty:=by
 rw[cutK_dir] at h
 have hc:crossI l m≠0:=fun e=>by rw[cutK_cross,e] at h;exact absurd h (by decide)
 obtain⟨h1,h2⟩:=cut_up v h
 refine⟨hc,?_,?_⟩
 ·rw[updLo_meet hz,param_meet hl hc,h1]
 ·rw[updLo_meet hz,param_meet hl hc,←h1]
  rw[←empty_iff] at h2
  cases hb:l.cutB v m<;>cases he:(l.cutV v m).empty<;>simp_all
theorem step_hi{l m:LnQ}{v:IvQ}(hl:l.Ne)(hz:IvZ v)(h0:crossI l m≠0)(h: ¬0<m.dir.cross l.dir):l.cutV v m=updHi v (paramQ l (meetP l m))∧l.cutB v m=!(updHi v (paramQ l (meetP l m))).empty:=by
 rw[cutK_dir] at h
 have hk:l.cutK m≠0:=fun e=>by
  rw[cutK_cross] at e
  have:((crossI l m:Int):Rat)=0:=by grind
  exact h0 (Rat.intCast_eq_zero_iff.1 this)
 obtain⟨h1,h2⟩:=cut_dn (l:=l) (m:=m) v (by grind)
 refine⟨?_,?_⟩
 ·rw[updHi_meet hz,param_meet hl h0,h1]
 ·rw[updHi_meet hz,param_meet hl h0,←h1]
  rw[←empty_iff] at h2
  cases hb:l.cutB v m<;>cases he:(l.cutV v m).empty<;>simp_all
end Go.Sx
end

section
namespace Go.Sx
open Go
def relo(fl:Nat→Bool)(o:Own):Own:={o with lo:=fl o.b}
structure FnO (P:Program) (f:FuncId) (vs:List Value) (M:List Own) (G:Gh) (K:Value→List Own→Gh→Prop):Prop where
 able:Callable P f
 run: ∀w,HRel ⟨w,G,M.map (·.b)⟩ (asB M) G w→
  Calls P f ⟨vs⟩ w fun e w'=> ∃v own' G',e= .returned v∧HRel ⟨w,G,M.map (·.b)⟩ own' G' w'∧K v own' G'
def flM(M:List Own)(b:Nat):Bool:=M.all fun m=>!Nat.beq m.b b||m.lo
theorem HRel.calledO{C:Ctx}{M rest own':List Own}{G G':Gh}{w w':World}(h:HRel C (M++rest) G w)(k:HRel ⟨w,G,M.map (·.b)⟩ own' G' w'):
  HRel C (own'.map (relo (flM M))++rest) G' w':=by
 have hsz:w.heap.size≤w'.heap.size:=k.size
 have hnd:=h.nd
 have inM: ∀b,b∈M.map (·.b)→ ∀o∈rest,o.b≠b:=fun b hb o ho e=>by
  obtain⟨m,hm,rfl⟩:=List.mem_map.1 hb
  exact(List.pairwise_append.1 hnd).2.2 m hm o ho e.symm
 have bnd: ∀o∈own',o.b∉M.map (·.b)→w.heap.size≤o.b:=fun o ho hb=>by
  obtain⟨_,_,h3,h4⟩:=k.hown o ho
  cases hlo:o.lo with
  |true=>exact h3 hlo
  |false=>exact absurd (h4 hlo) hb
 refine⟨k.os.trans h.os,k.tape.trans h.tape,k.output.trans h.output,Nat.le_trans h.size hsz,?_,k.sub,h.gle.trans k.gle,?_,?_,?_⟩
 ·intro b hb hm
  have hs:=h.size
  have hnM:b∉M.map (·.b):=fun hb'=>by
   obtain⟨m,hmM,rfl⟩:=List.mem_map.1 hb'
   obtain⟨_,_,h3,h4⟩:=h.hown m (List.mem_append_left _ hmM)
   cases hlo:m.lo with
   |true=>have:=h3 hlo;omega
   |false=>exact hm (h4 hlo)
  rw[k.keep b (by show b<w.heap.size;omega) hnM];exact h.keep b hb hm
 ·intro b hb;have:=h.size;rw[k.gold b (by show b<w.heap.size;omega)];exact h.gold b hb
 ·intro o ho
  have hs:=h.size
  rcases List.mem_append.1 ho with ho|ho
  ·obtain⟨o',ho',rfl⟩:=List.mem_map.1 ho
   obtain⟨k1,k2,k3,k4⟩:=k.hown _ ho'
   refine⟨k1,k2,fun hl=>?_,fun hl=>?_⟩
   ·show C.w0.heap.size≤o'.b
    by_cases hb:o'.b∈M.map (·.b)
    ·obtain⟨m,hm,hmb⟩:=List.mem_map.1 hb
     have hl':flM M o'.b=true:=hl
     have:=List.all_eq_true.1 hl' m hm
     simp only[hmb,Bool.or_eq_true,Bool.not_eq_true',Nat.beq_refl] at this
     obtain⟨_,_,h3,_⟩:=h.hown m (List.mem_append_left _ hm)
     rw[←hmb]
     exact h3 (by rcases this with h|h;(cases h);(exact h))
    ·have:=bnd o' ho' hb;omega
   ·show o'.b∈C.mb
    have hl':flM M o'.b=false:=hl
    obtain⟨m,hm,hmb⟩:=List.all_eq_false.1 hl'
    simp only[Bool.or_eq_true,Bool.not_eq_true',not_or] at hmb
    obtain⟨h1,h2⟩:=hmb
    have e:m.b=o'.b:=by
     cases hq:Nat.beq m.b o'.b with
     |true=>exact Nat.eq_of_beq_eq_true hq
     |false=>exact absurd hq h1
    obtain⟨_,_,_,h4⟩:=h.hown m (List.mem_append_left _ hm)
    rw[←e]
    exact h4 (by cases hq:m.lo with
     |true=>exact absurd hq h2
     |false=>rfl)
  ·obtain⟨h1,h2,h3⟩:=h.hown o (List.mem_append_right _ ho)
   have hnM:o.b∉M.map (·.b):=fun hb=>inM _ hb o ho rfl
   exact⟨by rw[k.keep _ (blk_lt h1) hnM];exact h1,by rw[k.gold _ (blk_lt h1)];exact h2,h3⟩
 ·refine List.pairwise_append.2 ⟨?_,(List.pairwise_append.1 hnd).2.1,?_⟩
  ·rw[List.pairwise_map];exact k.nd
  ·intro x hx y hy
   obtain⟨o',ho',rfl⟩:=List.mem_map.1 hx
   show o'.b≠y.b
   by_cases hb:o'.b∈M.map (·.b)
   ·exact fun e=>inM _ hb y hy e.symm
   ·have h1:=bnd o' ho' hb
    have h2:=blk_lt (h.hown y (List.mem_append_right _ hy)).1
    omega
def RPostO(C:Ctx)(K:Value→List Own→Gh→Prop):Ending→World→Prop:=fun e w'=> ∃v own' G',e= .returned v∧HRel C own' G' w'∧K v own' G'
theorem FnO.intro{P:Program}{G:Gh}{f:FuncId}{fn:Func}{c:Code}{vs:List Value}{m:Nat}{M:List Own}{K:Value→List Own→Gh→Prop}(hf:P.funcs[f]? =some fn)(hb:fn.body=some c)(hn:(fn.name== "runtime.NumGoroutine")=false)(hm:fn.ntmps=m)(hlen:Nat.ble vs.length m=true)
  (h: ∀C:Ctx,C.G0=G→C.mb=M.map (·.b)→St C m (args0 0 vs) (asB M) G (c.wp P (bodyPost P fn (RPostO C K)))):FnO P f vs M G K:=by
 refine⟨⟨fn,hf,hn,by simp[hb]⟩,fun w hw=>?_⟩
 have hlen':vs.length≤m:=by simpa using hlen
 have:=calls_of_wp (P:=P) (f:=f) (args:=⟨vs⟩) (w:=w) (R:=RPostO ⟨w,G,M.map (·.b)⟩ K) hf hb (h ⟨w,G,M.map (·.b)⟩ J J _ w
  ⟨hw,by simp;omega,fun k v hk=>by
   obtain⟨j,rfl,hj⟩:=look_args0 vs 0 k v hk
   have hj':=(List.getElem?_eq_some_iff.1 hj).1
   rw[Array.getElem?_append_left (by simpa using hj')]
   simpa using hj,rfl⟩)
 exact this
section
variable {P:Program} {C:Ctx} {n:Nat} {fr:Fr} {own own':List Own} {G:Gh} {Φ:Act→World→Prop}
variable {dst:Option Nat} {t t' ty':TypeId} {pos:String} {af:Array Edge} {gd:Option (Nat×Bool)} {x y:Operand}
theorem st_doneO{fn:Func}{K:Value→List Own→Gh→Prop}{vs:List Value}(hr:RVs P fr own fn.results.toList vs)(own2 own3:List Own)(hp:own.Perm own2)(hs:own3.Sublist own2)(hk:K (tupled vs) own3 G):St C n fr own G (bodyPost P fn (RPostO C K) .ret):=
 fun a w rl=>⟨rl.df,_,run_results hr rl.fr rl.h,_,own3,G,rfl,(rl.h.perm hp).drop hs,hk⟩
theorem ch_callcO{f:FuncId}{fo:Operand}{args:Array Operand}{tys:Array TypeId}{vs c1 c2:List Value}{M rest:List Own}{K:Value→List Own→Gh→Prop}(ho:opv fr fo=some (.func (.func f) ⟨c1⟩ ⟨c2⟩))(hv:opvs fr args.toList=some vs)
  (hp:own.Perm (M++rest))(hF:FnO P f (c1++vs++c2) M G K)(hd:dstOk n dst=true)(h: ∀v own1 (G':Gh),[GE G G']→K v own1 G'→St C n (put fr dst v) (own1.map (relo (flM M))++rest) G' Φ):
  Ch P C n fr own G ⟨dst, .call ⟨.value fo,args,tys⟩,ty',pos,af,gd⟩ Φ:=by
 intro a w Q rl
 have h2:=run_call (P:=P) (dst:=dst) (ty':=ty') (pos:=pos) (af:=af) (gd:=gd) (tys:=tys) (w:=w) hF.able rl.fr ho hv
 simp only[Oper.wp,h2,Oper.upon]
 have hh0:=rl.h.perm hp
 refine(hF.run w hh0.lend).mono ?_
 rintro e w' ⟨v,own1,G',rfl,hh,hK⟩
 exact @h v own1 G' ⟨hh.gle⟩ hK _ _ ((rl.heap (hh0.calledO hh)).put _ hd)
theorem ch_callO{f:FuncId}{fo:Operand}{args:Array Operand}{tys:Array TypeId}{vs:List Value}{M rest:List Own}{K:Value→List Own→Gh→Prop}(ho:opv fr fo=some (.func (.func f) #[] #[]))(hv:opvs fr args.toList=some vs)
  (hp:own.Perm (M++rest))(hF:FnO P f vs M G K)(hd:dstOk n dst=true)(h: ∀v own1 (G':Gh),[GE G G']→K v own1 G'→St C n (put fr dst v) (own1.map (relo (flM M))++rest) G' Φ):
  Ch P C n fr own G ⟨dst, .call ⟨.value fo,args,tys⟩,ty',pos,af,gd⟩ Φ:=
 ch_callcO (c1:=[]) (c2:=[]) ho hv hp (by simpa using hF) hd h
end
end Go.Sx
end

section
namespace Go.Sx
open Go
section
variable {P:Program} {C:Ctx} {n:Nat} {fr:Fr} {own own' own1:List Own} {G:Gh} {Φ:Act→World→Prop}
variable {dst:Option Nat} {t t' ty':TypeId} {pos:String} {af:Array Edge} {gd:Option (Nat×Bool)} {x y:Operand} {e s by_:Nat}
theorem ch_storeN{v:Value}{b off k:Nat}{cs cs':List Value}{ty:TypeId}{lo:Bool}(hx:opv fr x=some (.pointer (some ⟨b,off,none⟩)))(hy:opv fr y=some v)[hs:TyA P t k][ho:OAt own b cs ty lo]
  (hc:ovw cs off (cellsL v)=cs')(hu:OUpd own b cs ty lo cs' own')(hk:(cellsL v).length=k)(hl:off+k≤cs.length)(hf:(cellsL v).all flat=true)(hd:dstOk n dst=true)(h:St C n (put fr dst undef) own' G Φ):
  Ch P C n fr own G ⟨dst, .store t x y,ty',pos,af,gd⟩ Φ:=ch_store hx hy (hc▸hu) hk hl hf hd h
theorem ch_storeN1{v:Value}{b off:Nat}{cs cs':List Value}{ty:TypeId}{lo:Bool}(hx:opv fr x=some (.pointer (some ⟨b,off,none⟩)))(hy:opv fr y=some v)[hs:TyS P t][ho:OAt own b cs ty lo]
  (hc:cs.set off v=cs')(hu:OUpd own b cs ty lo cs' own')(hl:off<cs.length)(hf:flat v=true)(hd:dstOk n dst=true)(h:St C n (put fr dst undef) own' G Φ):
  Ch P C n fr own G ⟨dst, .store t x y,ty',pos,af,gd⟩ Φ:=ch_store1 hx hy (hc▸hu) hl hf hd h
theorem yd_cap[hT:TySl P t e s by_]{ad:Option Addr}{len cap:Nat}(hx:opv fr x=some (.slice ad len cap)):
  Yd P C fr own G ⟨dst, .call ⟨.builtin .cap, #[x], #[t]⟩,ty',pos,af,gd⟩ (.int .i64 cap):=by
 intro a w hf hh
 simp only[execOp,resolve,List.map_toArray,List.map_cons,List.map_nil,opv_eval hf hx]
 have h1:(Builtin.cap_ #[t] ty' #[.slice ad len cap]).run P w= .ok (.int .i64 cap) w:=by
  simp only[Builtin.cap_]
  show(underlying t>>=_).run P w=_
  rw[run_ok_bind (hT.u w)]
  rfl
 exact value_of h1
theorem run_copy{w:World}[hT:TySl P t e s by_]{b off l c l2 c2 m:Nat}{ad2:Option Addr}{cs ys:List Value}{ty:TypeId}(hm:Nat.min l2 l=m)
  (hb:w.heap[b]? =some (.cells ⟨cs⟩ ty (0,0)))(hsy:(Builtin.firstCells s m (.slice ad2 l2 c2)).run P w= .ok ⟨ys⟩ w)(hf: ∀v∈ys,flat v=true)(hl:off+ys.length≤cs.length):
  (Builtin.copy_ #[t,t'] ty' #[.slice (some ⟨b,off,none⟩) l c, .slice ad2 l2 c2]).run P w=
   .ok (.int .i64 m) (setBlk w b (.cells ⟨ovw cs off ys⟩ ty (0,0))):=by
 obtain⟨i,hi,his,hib⟩:=hT.info
 subst his
 have hst:=run_storeCells (P:=P) ys w off 0 cs hf hb (by omega)
 rw[Nat.add_zero] at hst
 subst hm
 simp[Builtin.copy_,run_underlying hT.un,sizeOf,typeInfo,hi,Builtin.lenOf,hsy,hst]
 rfl
theorem ch_copy[hT:TySl P t e s by_]{b off l c l2 c2 m:Nat}{ad2:Option Addr}{cs ys:List Value}{ty:TypeId}{lo:Bool}(hx:opv fr x=some (.slice (some ⟨b,off,none⟩) l c))(hy:opv fr y=some (.slice ad2 l2 c2))
  (hm:Nat.min l2 l=m)(hsy:Src P C own G s m (.slice ad2 l2 c2) ys)(hf: ∀v∈ys,flat v=true)(hl:off+ys.length≤cs.length)(hu:OUpd own b cs ty lo (ovw cs off ys) own')(hd:dstOk n dst=true)
  (h:St C n (put fr dst (.int .i64 m)) own' G Φ):Ch P C n fr own G ⟨dst, .call ⟨.builtin .copy, #[x,y], #[t,t']⟩,ty',pos,af,gd⟩ Φ:=by
 intro a w Q rl
 have hb:=(rl.h.hown _ (hu.spec rl.h.nd).1).1
 refine ch_value (v:= .int .i64 m) (w':=setBlk w b (.cells ⟨ovw cs off ys⟩ ty (0,0))) ?_ (h _ _ ((rl.heap (rl.h.store hu)).put _ hd))
 simp only[execOp,resolve,List.map_toArray,List.map_cons,List.map_nil,opv_eval rl.fr hx,opv_eval rl.fr hy]
 exact value_of (run_copy hm hb (hsy w rl.h) hf hl)
theorem ch_append_room[hT:TySl P t e s by_][hN:TyN P t']{b len cap m cap2:Nat}{ad2:Option Addr}{cs ys:List Value}{lo:Bool}
  (hx:opv fr x=some (.slice (some ⟨b,0,none⟩) len cap))(hy:opv fr y=some (.slice ad2 m cap2))(hu:OUpd own b cs e lo (ovw cs (len*s) ys) own')(hcs:cs.length=cap*s)
  (hsy:Src P C own G s m (.slice ad2 m cap2) ys)(hys:ys.length=m*s)(hf: ∀v∈ys,flat v=true)(hneed:len+m≤cap)(hd:dstOk n dst=true)
  (h:St C n (put fr dst (.slice (some ⟨b,0,none⟩) (len+m) cap)) own' G Φ):
  Ch P C n fr own G ⟨dst, .call ⟨.builtin .append, #[x,y], #[t,t']⟩,ty',pos,af,gd⟩ Φ:=by
 intro a w Q rl
 have hb:=(rl.h.hown _ (hu.spec rl.h.nd).1).1
 refine ch_value (v:= .slice (some ⟨b,0,none⟩) (len+m) cap) (w':=setBlk w b (.cells ⟨ovw cs (len*s) ys⟩ e (0,0))) ?_ (h _ _ ((rl.heap (rl.h.store hu)).put _ hd))
 simp only[execOp,resolve,List.map_toArray,List.map_cons,List.map_nil,opv_eval rl.fr hx,opv_eval rl.fr hy]
 exact value_of (run_append_room hb hcs (hsy w rl.h) hys hf hneed)
theorem ch_append_any[hT:TySl P t e s by_][hN:TyN P t']{z:Value}[hz:TyZ P e z]{b len cap m cap2:Nat}{ad2:Option Addr}{xs ys rest:List Value}{lo:Bool}
  (hx:opv fr x=some (.slice (some ⟨b,0,none⟩) len cap))(hy:opv fr y=some (.slice ad2 m cap2))(hr:ORem own ⟨b,xs++rest,e,lo⟩ own1)(hxs:xs.length=len*s)(hcap:xs.length+rest.length=cap*s)(hlc:len≤cap)
  (hsy:Src P C own G s m (.slice ad2 m cap2) ys)(hys:ys.length=m*s)(hf: ∀v∈ys,flat v=true)
  (hby:0<by_)(hb:(len+m)*by_≤140737488355328)(hzs:(cellsL z).length=s)(hd:dstOk n dst=true)
  (h: ∀b lo' cap' rest',len+m≤cap'→rest'.length+(len+m)*s=cap'*s→St C n (put fr dst (.slice (some ⟨b,0,none⟩) (len+m) cap')) (⟨b,xs++ys++rest',e,lo'⟩::own1) G Φ):
  Ch P C n fr own G ⟨dst, .call ⟨.builtin .append, #[x,y], #[t,t']⟩,ty',pos,af,gd⟩ Φ:=by
 intro a w Q rl
 have hp:=rl.h.perm hr.perm
 have hblk:=(hp.hown _ List.mem_cons_self).1
 simp only[] at hblk
 by_cases hneed:len+m≤cap
 ·have hcs:(xs++rest).length=cap*s:=by simp;omega
  have hrun:=run_append_room (P:=P) (t:=t) (t':=t') (ty':=ty') (w:=w) (len:=len) hblk hcs (hsy w rl.h) hys hf hneed
  have hle:len*s+m*s≤cap*s:=by rw[←Nat.add_mul];exact Nat.mul_le_mul_right _ hneed
  have hov:ovw (xs++rest) (len*s) ys=xs++ys++rest.drop (m*s):=by
   rw[ovw_spec _ _ _ (by rw[hys];omega),←hxs]
   simp[hys,List.drop_append]
  refine ch_value (v:= .slice (some ⟨b,0,none⟩) (len+m) cap) (w':=setBlk w b (.cells ⟨ovw (xs++rest) (len*s) ys⟩ e (0,0))) ?_ ?_
  ·simp only[execOp,resolve,List.map_toArray,List.map_cons,List.map_nil,opv_eval rl.fr hx,opv_eval rl.fr hy]
   exact value_of hrun
  ·rw[hov]
   refine h b lo cap (rest.drop (m*s)) hneed ?_ _ _ ((rl.heap (hp.store (.hd ..))).put _ hd)
   rw[List.length_drop,Nat.add_mul]
   omega
 ·have hx':Src P C own G s len (.slice (some ⟨b,0,none⟩) len cap) xs:=fun w' hw'=>by
   have hb':=(((hw'.perm hr.perm).hown _ List.mem_cons_self).1)
   refine run_loadCells hb' ?_
   rw[takeL_of _ _ _ (by simp;omega),←hxs]
   simp
  have hcap':len+m≤grownCap w (len+m) cap e:=by unfold grownCap;simp only[Question.cut];omega
  have hrun:=run_append_grow (P:=P) (t:=t) (t':=t') (ty':=ty') (w:=w) (w':=w) (hx' _ rl.h.drew) (hsy _ rl.h.drew) (by omega) hby hb
  refine ch_value (v:= .slice (some ⟨w.heap.size,0,none⟩) (len+m) (grownCap w (len+m) cap e)) (w':=w.drew.alloc (.cells ⟨xs++ys++zeros z (grownCap w (len+m) cap e-(len+m))⟩ e)) ?_ ?_
  ·simp only[execOp,resolve,List.map_toArray,List.map_cons,List.map_nil,opv_eval rl.fr hx,opv_eval rl.fr hy]
   exact value_of hrun
  ·refine h w.heap.size _ _ _ hcap' ?_ _ _ ((rl.heap (((hp.drew).drop (List.sublist_cons_self _ _)).alloc _ _)).put _ hd)
   rw[zeros_len,hzs,←Nat.add_mul]
   congr 1
   omega
theorem yd_overlaps{f:FuncId}{fn:Func}{tS tR:TypeId}(hf:P.funcs[f]? =some fn)(hname:(fn.name== "runtime.NumGoroutine")=false)(hb:fn.body.isNone=true)(hn:Extern.findNext fn=none)
  (he:Extern.find fn=some (Extern.SlicesOverlaps.overlaps #[tS,tS] #[tR]))[hT:TySl P tS e s by_]{args:Array Operand}{tys:Array TypeId}{fo:Operand}
  {b1 b2 o1 o2 l1 l2 c1 c2:Nat}{cs1 cs2:List Value}{t1 t2:TypeId}{lo1 lo2:Bool}(ho:opv fr fo=some (.func (.func f) #[] #[]))
  (hv:opvs fr args.toList=some [.slice (some ⟨b1,o1,none⟩) l1 c1, .slice (some ⟨b2,o2,none⟩) l2 c2])[h1:OAt own b1 cs1 t1 lo1][h2:OAt own b2 cs2 t2 lo2](hne:b1≠b2)(hc2:cs2≠[]):
  Yd P C fr own G ⟨dst, .call ⟨.value fo,args,tys⟩,ty',pos,af,gd⟩ (.bool false):=by
 intro a w hfr hh
 have e1:=(hh.hown _ h1.mem).1
 have e2:=(hh.hown _ h2.mem).1
 have ev:args.map a.eval=⟨[.slice (some ⟨b1,o1,none⟩) l1 c1, .slice (some ⟨b2,o2,none⟩) l2 c2]⟩:=by apply Array.ext';simpa using opvs_eval hfr hv
 simp only[] at e1 e2
 have hrun:=Lib.run_overlaps_apart (P:=P) w tS tR e hT.un s hT.siz ⟨b1,o1,none⟩ ⟨b2,o2,none⟩ l1 c1 l2 c2 hne t1 t2 cs1.length cs2.length
  (by simp[World.shape?,e1]) (by simp[World.shape?,e2]) (by simpa using hc2) (by simp[World.frozen?,e1]) (by simp[World.frozen?,e1])
 simp only[execOp,resolve,opv_eval hfr ho,ev,Deferred.ofValue]
 show(invoke (.fn (.func f) #[]) _).run P w=_
 simp only[invoke]
 have h3:=run_callFunc_extern (P:=P) hf hname hb hn he
 rw[h3]
 simp[hrun,Result.andThen]
end
instance SubL.cons2 (l m:List Own) (o:Own) [h:SubL l m]:SubL (o::l) (o::m):=⟨h.s.cons_cons o⟩
theorem dr0{P:Program}{C:Ctx}{n:Nat}{fr:Fr}{own own0:List Own}{G:Gh}{ops:Array Oper}{Q:Exit→Act→World→Prop}{b:Nat}{cs:List Value}{ty:TypeId}{lo:Bool}(fin:Nat→Bool)(π:List (Nat×Bool)){id:Nat}(hm:P.follows .mixedOrders=true)(_hr:ORem own ⟨b,cs,ty,lo⟩ own0)(ho:(orderOk ops fin π (Array.replicate ops.size false)&&Nat.ble π.length ops.size)=true)
  (h:St C n fr own G (dwL P ops (NoPan Q) (HS C own0 G) fin π)):St C n fr own G ((Code.region id ops true).wp P Q):=by
 simp only[Bool.and_eq_true] at ho
 intro a w rl
 exact wp_mono (wp_region_any hm (wpAny_of_Z _ _ _ _ (wpAnyZ_of_order (fun _ _ _ _ _ h=>h) π _ a _ ho.1 (h a _ (rl.heap rl.h.drew)) _ (by simpa using ho.2)))) NoPan.imp
/-! ### rows of values of several cells -/
def flatL(vs:List Value):List Value:=(vs.map cellsL).flatten
theorem flatL_len{s:Nat}: ∀(vs:List Value),(∀v∈vs,(cellsL v).length=s)→(flatL vs).length=vs.length*s
 |[],_=>by simp[flatL]
 |v::vs,h=>by
  have h1:=flatL_len vs (fun u hu=>h u (List.mem_cons_of_mem _ hu))
  have h2:=h v List.mem_cons_self
  unfold flatL at*
  simp only[List.map_cons,List.flatten_cons,List.length_append,List.length_cons,h1,h2,Nat.succ_mul]
  omega
theorem flatL_app(us vs:List Value):flatL (us++vs)=flatL us++flatL vs:=by simp[flatL]
theorem flatL_one(v:Value):flatL [v]=cellsL v:=by simp[flatL]
theorem flatL_take{s:Nat}: ∀(vs:List Value) (i:Nat),(∀v∈vs,(cellsL v).length=s)→i≤vs.length→(flatL vs).take (i*s)=flatL (vs.take i)
 |vs,0,_,_=>by simp[flatL]
 |[],i+1,_,h=>by simp at h
 |v::vs,i+1,h,hi=>by
  have h1:=flatL_take vs i (fun u hu=>h u (List.mem_cons_of_mem _ hu)) (by simpa using hi)
  have h2:=h v List.mem_cons_self
  unfold flatL at*
  simp only[List.map_cons,List.flatten_cons,List.take_succ_cons]
  rw[List.take_append,h2,List.take_of_length_le (by rw[h2,Nat.succ_mul];omega),Nat.succ_mul,Nat.add_sub_cancel,h1]
theorem flatL_drop{s:Nat}: ∀(vs:List Value) (i:Nat),(∀v∈vs,(cellsL v).length=s)→i≤vs.length→(flatL vs).drop (i*s)=flatL (vs.drop i)
 |vs,0,_,_=>by simp
 |[],i+1,_,h=>by simp at h
 |v::vs,i+1,h,hi=>by
  have h1:=flatL_drop vs i (fun u hu=>h u (List.mem_cons_of_mem _ hu)) (by simpa using hi)
  have h2:=h v List.mem_cons_self
  unfold flatL at*
  simp only[List.map_cons,List.flatten_cons,List.drop_succ_cons]
  rw[List.drop_append,h2,List.drop_eq_nil_of_le (by rw[h2,Nat.succ_mul];omega),Nat.succ_mul,Nat.add_sub_cancel,h1,List.nil_append]
theorem takeL_flat{s:Nat}{vs rest:List Value}(h: ∀v∈vs,(cellsL v).length=s){i:Nat}(hi:i<vs.length):takeL (flatL vs++rest) (i*s) s=some (cellsL vs[i]):=by
 have hl:=flatL_len vs h
 have hle:i*s+s≤vs.length*s:=by rw[←Nat.succ_mul];exact Nat.mul_le_mul_right _ hi
 rw[takeL_of _ _ _ (by simp only[List.length_append];omega)]
 congr 1
 rw[List.drop_append_of_le_length (by omega),flatL_drop vs i h (by omega),List.drop_eq_getElem_cons hi]
 have h2:=h vs[i] (List.getElem_mem hi)
 rw[show(vs[i]::vs.drop (i+1))=[vs[i]]++vs.drop (i+1) from rfl,flatL_app,flatL_one,List.append_assoc,List.take_append_of_le_length (by omega),List.take_of_length_le (by omega)]
theorem IsSl.of_flat{G:Gh}{b c s:Nat}{vs rest:List Value}(h: ∀v∈vs,(cellsL v).length=s)(hg:G b=some (flatL vs++rest))(hc:vs.length≤c):IsSl G s ⟨some ⟨b,0,none⟩,vs.length,c⟩ vs:=
 ⟨rfl,hc, .inr ⟨b,0,_,rfl,hg,fun i hi=>by rw[Nat.zero_add];exact takeL_flat h hi⟩⟩
end Go.Sx
end

section
namespace Go.Sx
open Go
section
variable {P:Program} {C:Ctx} {n:Nat} {fr:Fr} {own own':List Own} {G:Gh} {Φ:Act→World→Prop}
variable {dst:Option Nat} {ty':TypeId} {pos:String} {af:Array Edge} {gd:Option (Nat×Bool)} {x y:Operand} {tys:Array TypeId}
theorem drS{ops:Array Oper}{Q:Exit→Act→World→Prop}(own0:List Own)(fin:Nat→Bool)(π:List (Nat×Bool)){id:Nat}(hm:P.follows .mixedOrders=true)(ho:(orderOk ops fin π (Array.replicate ops.size false)&&Nat.ble π.length ops.size)=true)
  (h:St C n fr own G (dwL P ops (NoPan Q) (HS C own0 G) fin π)):St C n fr own G ((Code.region id ops true).wp P Q):=by
 simp only[Bool.and_eq_true] at ho
 intro a w rl
 exact wp_mono (wp_region_any hm (wpAny_of_Z _ _ _ _ (wpAnyZ_of_order (fun _ _ _ _ _ h=>h) π _ a _ ho.1 (h a _ (rl.heap rl.h.drew)) _ (by simpa using ho.2)))) NoPan.imp
end
end Go.Sx
end

section
set_option maxRecDepth 100000
namespace Go.Sx
open Go
section
variable {P:Program} {ops:Array Oper} {Q:Exit→Act→World→Prop} {S:World→Prop} {fin:Nat→Bool} {π₂:List (Nat×Bool)}
def without(l:List Nat)(k:Nat):List Nat:=l.filter fun j=>!Nat.beq j k
theorem without_lt{l:List Nat}{k:Nat}(h:k∈l):(without l k).length<l.length:=by
 unfold without
 rw[List.length_filter_lt_length_iff_exists]
 exact⟨k,h,by simp⟩
def orderOkG(ops:Array Oper)(fin:Nat→Bool)(π₂:List (Nat×Bool)):Nat→List Nat→List (Nat×Bool)→Array Bool→Bool
 |0,_,_,_=>false
 |_+1,[],[],listed=>orderOk ops fin π₂ listed
 |n+1,k::ks,[],listed=>!(Region.ready .any ops listed).isEmpty&&(Region.ready .any ops listed).all (fun j=>(k::ks).contains j)&&(k::ks).all fun j=>orderOkG ops fin π₂ n (without (k::ks) j) [] (listed.setIfInBounds j true)
 |n+1,ks,(i,true)::r,listed=>takeOk ops fin listed i&&orderOkG ops fin π₂ n ks r (listed.setIfInBounds i true)
 |n+1,ks,(i,false)::r,listed=>!(Region.ready .any ops listed).isEmpty&&(Region.ready .any ops listed).all (fun j=>Nat.beq j i||ks.contains j)&&orderOkG ops fin π₂ n ks r (listed.setIfInBounds i true)&&ks.all fun j=>orderOkG ops fin π₂ n (without ks j) ((i,false)::r) (listed.setIfInBounds j true)
def dwG(P:Program)(ops:Array Oper)(Q:Exit→Act→World→Prop)(S:World→Prop)(fin:Nat→Bool)(π₂:List (Nat×Bool)):List Nat→List (Nat×Bool)→Act→World→Prop
 |[],[],a,w=>dwL P ops Q S fin π₂ a w
 |k::ks,[],a,w=> ∀j,(h:j∈k::ks)→wpOp P ops Q j (fun a' w'=>(fin j=true∨S w')∧dwG P ops Q S fin π₂ (without (k::ks) j) [] a' w') a w
 |ks,(i,true)::r,a,w=> ∃o v,ops[i]? =some o∧S w∧YieldsIf P ops S o v a∧dwG P ops Q S fin π₂ ks r (a.put o.dst v) w
 |ks,(i,false)::r,a,w=>wpOp P ops Q i (fun a' w'=>(fin i=true∨S w')∧dwG P ops Q S fin π₂ ks r a' w') a w∧
   ∀j,(h:j∈ks)→wpOp P ops Q j (fun a' w'=>(fin j=true∨S w')∧dwG P ops Q S fin π₂ (without ks j) ((i,false)::r) a' w') a w
termination_by ks π=>ks.length+π.length
decreasing_by
 all_goals (first|(have:=without_lt h;simp only[List.length_cons,List.length_nil] at*;omega)|(simp only[List.length_cons];omega))
end
structure FD where
 k:Nat
 d:Nat
 t:TypeId
 z:Value
abbrev Fs:=Nat→Option Nat
def fFs:List FD→Fs→Fr
 |[],_=>[]
 |f::r,fs=>fF f.d (fs f.k)++fFs r fs
def fOs:List FD→Fs→List Own
 |[],_=>[]
 |f::r,fs=>fO f.t f.z (fs f.k)++fOs r fs
def pend(fd:List FD)(fs:Fs):List Nat:=(fd.filter fun f=>(fs f.k).isNone).map (·.k)
def updF(fs:Fs)(k b:Nat):Fs:=fun j=>if j=k then some b else fs j
theorem look_app(x y:Fr)(j:Nat):look (x++y) j=match look x j with|some v=>some v|none=>look y j:=by
 induction x with
 |nil=>rfl
 |cons e t ih=>
  obtain⟨k,v⟩:=e
  rw[List.cons_append,look_cons,look_cons]
  split
  ·rfl
  ·exact ih
structure FDok (P:Program) (ops:Array Oper) (n:Nat) (fd:List FD):Prop where
 op: ∀f∈fd,∃ty' pos af,ops[f.k]? =some ⟨some f.d, .alloc f.t,ty',pos,af,none⟩∧dstOk n (some f.d)=true
 z: ∀f∈fd,TyZ P f.t f.z
 nd:(fd.map (·.k)).Nodup
 dd: ∀f∈fd,∀g∈fd,f.d=g.d→f.k=g.k
section
variable {P:Program} {C:Ctx} {n:Nat} {fr:Fr} {own own0:List Own} {G G0:Gh} {ops:Array Oper} {Q:Exit→Act→World→Prop} {fin:Nat→Bool} {π π₂:List (Nat×Bool)} {fd:List FD}
def dwH(P:Program)(ops:Array Oper)(Q:Exit→Act→World→Prop)(S:World→Prop)(fin:Nat→Bool)(π₂:List (Nat×Bool))(fd:List FD)(fs:Fs)(π:List (Nat×Bool)):Act→World→Prop:=dwG P ops Q S fin π₂ (pend fd fs) π
end
theorem FDok.o{P:Program}{ops:Array Oper}{n:Nat}{f:FD}(h: ∃ty' pos af,ops[f.k]? =some ⟨some f.d, .alloc f.t,ty',pos,af,none⟩∧dstOk n (some f.d)=true)(z:TyZ P f.t f.z):FDok P ops n [f]:=
 ⟨List.forall_mem_cons.2 ⟨h,List.forall_mem_nil _⟩,List.forall_mem_cons.2 ⟨z,List.forall_mem_nil _⟩,by simp,by simp⟩
end Go.Sx
end

section
namespace Go.Sx
open Go
def Buf(s:Nat)(ty:TypeId)(x:SV)(vs:List Value)(B:List Own):Prop:=
 (vs=[]∧x=⟨none,0,0⟩∧B=[])∨
 ∃b rest lo,x=⟨some ⟨b,0,none⟩,vs.length,x.c⟩∧B=[⟨b,flatL vs++rest,ty,lo⟩]∧(flatL vs).length=vs.length*s∧(flatL vs).length+rest.length=x.c*s∧vs.length≤x.c
theorem Buf.relo{s:Nat}{ty:TypeId}{x:SV}{vs:List Value}{B:List Own}(h:Buf s ty x vs B)(fl:Nat→Bool):Buf s ty x vs (B.map (Go.Sx.relo fl)):=by
 rcases h with⟨h1,h2,h3⟩|⟨b,rest,lo,h1,h2,h3,h4,h5⟩
 ·exact .inl ⟨h1,h2,by rw[h3];rfl⟩
 ·exact .inr ⟨b,rest,fl b,h1,by rw[h2];rfl,h3,h4,h5⟩
theorem Buf.asB{s:Nat}{ty:TypeId}{x:SV}{vs:List Value}{B:List Own}(h:Buf s ty x vs B):Buf s ty x vs (asB B):=by
 rcases h with⟨h1,h2,h3⟩|⟨b,rest,lo,h1,h2,h3,h4,h5⟩
 ·exact .inl ⟨h1,h2,by rw[h3];rfl⟩
 ·exact .inr ⟨b,rest,false,h1,by rw[h2];rfl,h3,h4,h5⟩
theorem Buf.len{s:Nat}{ty:TypeId}{x:SV}{vs:List Value}{B:List Own}(h:Buf s ty x vs B):x.n=vs.length:=by
 rcases h with⟨h1,h2,h3⟩|⟨b,rest,lo,h1,h2,h3,h4,h5⟩
 ·rw[h2,h1];rfl
 ·rw[h1]
theorem flM_false{M:List Own}{m:Own}(h:m∈M)(hl:m.lo=false):flM M m.b=false:=by
 refine List.all_eq_false.2 ⟨m,h,?_⟩
 simp[hl]
theorem flM_true{M:List Own}(b:Nat)(h: ∀m∈M,m.lo=true):flM M b=true:=by
 refine List.all_eq_true.2 fun m hm=>?_
 simp[h m hm]
section
variable {P:Program} {C:Ctx} {n:Nat} {fr:Fr} {own own':List Own} {G:Gh} {Φ:Act→World→Prop}
variable {dst:Option Nat} {t t' ty':TypeId} {pos:String} {af:Array Edge} {gd:Option (Nat×Bool)} {x y:Operand} {e s by_:Nat}
end
instance SubL.nil (l:List Own):SubL [] l:=⟨List.nil_sublist l⟩
theorem ch_callcO'{P:Program}{C:Ctx}{n:Nat}{fr:Fr}{own:List Own}{G:Gh}{Φ:Act→World→Prop}{dst:Option Nat}{ty':TypeId}{pos:String}{af:Array Edge}{gd:Option (Nat×Bool)}{f:FuncId}{fo:Operand}{args:Array Operand}{tys:Array TypeId}{vs c1 c2:List Value}{M rest:List Own}{K:Value→List Own→Gh→Prop}(ho:opv fr fo=some (.func (.func f) ⟨c1⟩ ⟨c2⟩))(hv:opvs fr args.toList=some vs)
  (hp:own.Perm (M++rest))(hF:FnO P f (c1++vs++c2) M G K)(hd:dstOk n dst=true)
  (h: ∀v own1 (G':Gh) (fl:Nat→Bool),[GE G G']→(∀m∈M,m.lo=false→fl m.b=false)→((∀m∈M,m.lo=true)→ ∀b,fl b=true)→K v own1 G'→St C n (put fr dst v) (own1.map (relo fl)++rest) G' Φ):
  Ch P C n fr own G ⟨dst, .call ⟨.value fo,args,tys⟩,ty',pos,af,gd⟩ Φ:=
 ch_callcO ho hv hp hF hd (fun v own1 G' _ hK=>h v own1 G' (flM M) (fun _ hm hl=>flM_false hm hl) (fun hl b=>flM_true b hl) hK)
theorem flat_set{s:Nat}{rest:List Value}{x:Value}{j:Nat}(hj:j<s): ∀(vs:List Value) (n:Nat) (hn:n<vs.length),(∀v∈vs,(cellsL v).length=s)→
  (flatL vs++rest).set (n*s+j) x=flatL (vs.take n)++((cellsL vs[n]).set j x++(flatL (vs.drop (n+1))++rest))
 |[],n,hn,_=>by simp at hn
 |v::vs,0,hn,h=>by
  have h2:=h v List.mem_cons_self
  have e:flatL (v::vs)=cellsL v++flatL vs:=by simp[flatL]
  rw[e,List.append_assoc,Nat.zero_mul,Nat.zero_add,List.set_append_left _ _ (by omega)]
  simp[flatL]
 |v::vs,n+1,hn,h=>by
  have h2:=h v List.mem_cons_self
  have ih:=flat_set (rest:=rest) (x:=x) hj vs n (by simpa using hn) (fun u hu=>h u (List.mem_cons_of_mem _ hu))
  have e:flatL (v::vs)=cellsL v++flatL vs:=by simp[flatL]
  rw[e,List.append_assoc,List.set_append_right _ _ (by rw[h2,Nat.succ_mul];omega),h2,show(n+1)*s+j-s=n*s+j by rw[Nat.succ_mul];omega,ih]
  simp[flatL]
end Go.Sx
end
