/- Part 5 of a proof. -/
import Derived.Test.YtopfgminkdfpkaaGreatDoorMp4
import Derived.Laws.Externs
import Derived.Lib.Overlaps
set_option linter.unusedSimpArgs false
set_option maxRecDepth 100000
set_option linter.unusedVariables false
section
namespace Go.Sx
open Go
/-! ### values -/
theorem adl(l:LnQ)(p:PtQ):l.value p=(l.a:Rat)*p.x+(l.b:Rat)*p.y+(l.c:Rat):=rfl
theorem aaP(l:LnQ)(p:PtQ):l.rev.value p= -l.value p:=by
 rw[adl,adl]
 have h1:((l.rev.a:Int):Rat)= -(l.a:Rat):=(agi l.a).symm
 have h2:((l.rev.b:Int):Rat)= -(l.b:Rat):=(agi l.b).symm
 have h3:((l.rev.c:Int):Rat)= -(l.c:Rat):=(agi l.c).symm
 rw[h1,h2,h3];grind
def aqZ(q p:PtQ)(e:Rat):PtQ:=⟨q.x+e*(p.x-q.x),q.y+e*(p.y-q.y)⟩
theorem ac3(l:LnQ)(q p:PtQ)(e:Rat):l.value (aqZ q p e)=l.value q+e*(l.value p-l.value q):=by
 simp only[adl,aqZ];grind
def adB(q u:PtQ)(e:Rat):PtQ:=⟨q.x+e*u.x,q.y+e*u.y⟩
theorem abP(l:LnQ)(q u:PtQ)(e:Rat):l.value (adB q u e)=l.value q+e*l.nor.dot u:=by
 simp only[adl,adB,LnQ.nor,PtQ.dot];grind
theorem aab{a b:Rat}(ha:0<a)(hb:0<b):0<a*b:=Rat.mul_pos ha hb
theorem aai{a b:Rat}(ha:0≤a)(hb:0≤b):0≤a*b:=nK ha hb
theorem abt(a:Rat):0≤a*a:=by
 by_cases h:0≤a
 ·exact aai h h
 ·have:=aai (a:= -a) (b:= -a) (by grind) (by grind)
  grind
theorem aaj{s k:Rat}(hk:0<k):0<s*k↔0<s:=by
 constructor
 ·intro h
  by_cases hs:0<s
  ·exact hs
  ·have:=aai (a:= -s) (b:=k) (by grind) (by grind)
   grind
 ·intro h;exact aab h hk
theorem aaq{s k:Rat}(hk:0<k):0≤s*k↔0≤s:=by
 constructor
 ·intro h
  by_cases hs:0≤s
  ·exact hs
  ·have:=aab (a:= -s) (b:=k) (by grind) hk
   grind
 ·intro h;exact aai h (by grind)
theorem aiM{A B u v:Rat}(h0:0≤A)(h1:0≤A+v*B)(hu:0≤u)(huv:u≤v):0≤A+u*B:=by
 by_cases hB:0≤B
 ·have:=aai hu hB;grind
 ·have:=aai (a:=v-u) (b:= -B) (by grind) (by grind)
  grind
def LnQ.Ne(l:LnQ):Prop:= ¬(l.a=0∧l.b=0)
theorem LnQ.ok.ne{l:LnQ}(h:l.ok):l.Ne:=h.1
theorem ahZ{l:LnQ}(h:l.Ne):0<l.nor.dot l.nor:=by
 show 0<(l.a:Rat)*l.a+(l.b:Rat)*l.b
 have h1:=abt (l.a:Rat)
 have h2:=abt (l.b:Rat)
 by_cases ha:l.a=0
 ·have hb:l.b≠0:=fun hb=>h ⟨ha,hb⟩
  have hb':(l.b:Rat)≠0:=fun e=>hb (cZ.1 e)
  have:(l.b:Rat)*l.b≠0:=by grind
  grind
 ·have ha':(l.a:Rat)≠0:=fun e=>ha (cZ.1 e)
  have:(l.a:Rat)*l.a≠0:=by grind
  grind
theorem amk{l:LnQ}(h:l.Ne): ∃q:Rat,l.nor.dot l.nor*q= -(l.c:Rat)∧l.base=⟨(l.a:Rat)*q,(l.b:Rat)*q⟩:=by
 refine⟨-(l.c:Rat)/l.nor.dot l.nor,?_,rfl⟩
 have:=ahZ h
 grind
theorem afu(l m:LnQ)(t:Rat):m.value (l.at t)=l.cutC m+t*l.cutK m:=by
 simp only[LnQ.cutC,LnQ.cutK,adl,LnQ.at,PtQ.add,PtQ.scale,LnQ.dir,LnQ.nor,PtQ.dot];grind
theorem aiU{l:LnQ}(h:l.Ne)(t:Rat):l.value (l.at t)=0:=by
 obtain⟨q,h1,h2⟩:=amk h
 simp only[adl,LnQ.at,h2,PtQ.add,PtQ.scale,LnQ.dir]
 simp only[LnQ.nor,PtQ.dot] at h1
 grind
theorem avS{l:LnQ}(h:l.Ne){p:PtQ}(hp:l.value p=0): ∃t,p=l.at t:=by
 obtain⟨q,h1,h2⟩:=amk h
 have hn:=ahZ h
 obtain⟨x,y⟩:=p
 rw[adl] at hp
 simp only[LnQ.nor,PtQ.dot] at h1 hn
 refine⟨((l.b:Rat)*x-(l.a:Rat)*y)/((l.a:Rat)*l.a+(l.b:Rat)*l.b),?_⟩
 generalize ht:((l.b:Rat)*x-(l.a:Rat)*y)/((l.a:Rat)*l.a+(l.b:Rat)*l.b)=t
 have ht':((l.a:Rat)*l.a+(l.b:Rat)*l.b)*t=(l.b:Rat)*x-(l.a:Rat)*y:=by grind
 simp only[LnQ.at,h2,PtQ.add,PtQ.scale,LnQ.dir,PtQ.mk.injEq]
 generalize (l.a:Rat)=a at*
 generalize (l.b:Rat)=b at*
 generalize (l.c:Rat)=c at*
 have e1:(a*a+b*b)*(x-(a*q+b*t))=0:=by grind
 have e2:(a*a+b*b)*(y-(b*q+ -a*t))=0:=by grind
 constructor<;>grind
/-! ### intervals -/
def IvQ.has(v:IvQ)(t:Rat):Prop:=(v.nl=true∨v.lo≤t)∧(v.nh=true∨t≤v.hi)
def IvQ.ins(v:IvQ)(t:Rat):Prop:=(v.nl=true∨v.lo<t)∧(v.nh=true∨t<v.hi)
def IvQ.Pos(v:IvQ):Prop:=v.nl=true∨v.nh=true∨v.lo<v.hi
theorem an8(a b:Rat):0≤aa2 a b↔b≤a:=by
 unfold aa2;split
 ·constructor
  ·intro h;exact absurd h (by decide)
  ·intro h;grind
 ·split
  ·constructor
   ·intro _;grind
   ·intro _;decide
  ·constructor
   ·intro _;grind
   ·intro _;decide
theorem agW(v:IvQ):v.empty=false↔v.Pos:=by
 obtain⟨lo,hi,nl,nh⟩:=v
 unfold IvQ.empty IvQ.Pos
 cases nl<;>cases nh<;>simp[an8]
 first|exact Rat.not_le|grind
theorem IvQ.ins.has{v:IvQ}{t:Rat}(h:v.ins t):v.has t:=by
 obtain⟨h1,h2⟩:=h
 exact⟨h1.imp id (fun h=>gK h),h2.imp id (fun h=>gK h)⟩
theorem aAJ:mkRat 1 2=(1:Rat)/2:=by rw[nV];rfl
theorem adE{v:IvQ}(h:v.Pos):v.ins v.sample:=by
 obtain⟨lo,hi,nl,nh⟩:=v
 unfold IvQ.Pos at h
 unfold IvQ.ins IvQ.sample
 rw[aAJ]
 cases nl<;>cases nh<;>simp at* <;>grind
theorem aqm(v w:IvQ)(t:Rat):(v.meet w).has t↔v.has t∧w.has t:=by
 obtain⟨lo,hi,nl,nh⟩:=v
 obtain⟨lo',hi',nl',nh'⟩:=w
 unfold IvQ.has IvQ.meet
 cases nl<;>cases nh<;>cases nl'<;>cases nh'<;>simp<;>grind
theorem aoY(v w:IvQ)(t:Rat):(v.meet w).ins t↔v.ins t∧w.ins t:=by
 obtain⟨lo,hi,nl,nh⟩:=v
 obtain⟨lo',hi',nl',nh'⟩:=w
 unfold IvQ.ins IvQ.meet
 cases nl<;>cases nh<;>cases nl'<;>cases nh'<;>simp<;>grind
theorem aoh(t:Rat):IvQ.all.has t:=⟨.inl rfl, .inl rfl⟩
theorem ai3:IvQ.all.Pos:= .inl rfl
theorem abN(k:Rat):Int.sign k.num=0↔k=0:=by rw[fK,lX]
theorem alb(k:Rat):0<k.num↔0<k:=by
 have h1:0≤k.num↔0≤k:=Rat.num_nonneg
 have h2:k.num=0↔k=0:=lX
 constructor
 ·intro h
  have a:=h1.1 (by omega)
  have b:k≠0:=fun e=>by have:=h2.2 e;omega
  grind
 ·intro h
  have a:=h1.2 (by grind)
  have b:k.num≠0:=fun e=>by have:=h2.1 e;grind
  omega
theorem adr(k:Rat):Int.sign k.num=1↔0<k:=by rw[Int.sign_eq_one_iff_pos,alb]
theorem acC(k:Rat):0<Int.sign k.num↔0<k:=by
 rw[←adr]
 rcases kU k.num 0 with h|h|h
 ·rw[dS h];decide
 ·rw[h];decide
 ·rw[eJ h];decide
theorem ahw(k:Rat):Int.sign k.num<0↔k<0:=by
 have h1:=abN k
 have h2:=acC k
 constructor
 ·intro h
  by_cases hk:0<k
  ·have:=h2.2 hk;omega
  ·by_cases h0:k=0
   ·have:=h1.2 h0;omega
   ·grind
 ·intro h
  have a1: ¬Int.sign k.num=0:=fun e=>by have:=h1.1 e;grind
  have a2: ¬0<Int.sign k.num:=fun e=>by have:=h2.1 e;grind
  omega
theorem agw{l m:LnQ}(v:IvQ)(hk:l.cutK m=0):l.cutV v m=v∧(l.cutB v m=true↔0<l.cutC m):=by
 have h:=(abN (l.cutK m)).2 hk
 unfold LnQ.cutV LnQ.cutB
 rw[if_pos h,if_pos h,decide_eq_true_iff,acC]
 exact⟨rfl,Iff.rfl⟩
theorem anw{l m:LnQ}(v:IvQ)(hk:0<l.cutK m):l.cutV v m=v.meet ⟨-(l.cutC m/l.cutK m),0,false,true⟩∧(l.cutB v m=true↔(l.cutV v m).Pos):=by
 have h0: ¬Int.sign (l.cutK m).num=0:=fun e=>by have:=(abN _).1 e;grind
 have h1:=(adr (l.cutK m)).2 hk
 constructor
 ·unfold LnQ.cutV;rw[if_neg h0,if_pos h1]
 ·unfold LnQ.cutB;rw[if_neg h0,←agW];simp
theorem amq{l m:LnQ}(v:IvQ)(hk:l.cutK m<0):l.cutV v m=v.meet ⟨0, -(l.cutC m/l.cutK m),true,false⟩∧(l.cutB v m=true↔(l.cutV v m).Pos):=by
 have h0: ¬Int.sign (l.cutK m).num=0:=fun e=>by have:=(abN _).1 e;grind
 have h1: ¬Int.sign (l.cutK m).num=1:=fun e=>by have:=(adr _).1 e;grind
 constructor
 ·unfold LnQ.cutV;rw[if_neg h0,if_neg h1]
 ·unfold LnQ.cutB;rw[if_neg h0,←agW];simp
theorem aEQ{C K t:Rat}(hk:0<K): -(C/K)≤t↔0≤C+t*K:=by
 have e:C=C/K*K:=by grind
 generalize C/K=d at*
 rw[e,show d*K+t*K=(d+t)*K from by grind,aaq hk]
 grind
theorem aA1{C K t:Rat}(hk:0<K): -(C/K)<t↔0<C+t*K:=by
 have e:C=C/K*K:=by grind
 generalize C/K=d at*
 rw[e,show d*K+t*K=(d+t)*K from by grind,aaj hk]
 grind
theorem aEy{C K t:Rat}(hk:K<0):t≤ -(C/K)↔0≤C+t*K:=by
 have e:C=C/K*K:=by grind
 generalize C/K=d at*
 rw[e,show d*K+t*K=(-(d+t))*(-K) from by grind,aaq (by grind)]
 grind
theorem aBs{C K t:Rat}(hk:K<0):t< -(C/K)↔0<C+t*K:=by
 have e:C=C/K*K:=by grind
 generalize C/K=d at*
 rw[e,show d*K+t*K=(-(d+t))*(-K) from by grind,aaj (by grind)]
 grind
theorem aaW(k:Rat):k=0∨0<k∨k<0:=by grind
theorem alU{l m:LnQ}{v:IvQ}(hb:l.cutB v m=true)(t:Rat):(l.cutV v m).has t↔v.has t∧0≤m.value (l.at t):=by
 rw[afu]
 rcases aaW (l.cutK m) with hk|hk|hk
 ·obtain⟨h1,h2⟩:=agw v hk
  rw[h1,hk]
  have:=h2.1 hb
  constructor
  ·intro h;exact⟨h,by grind⟩
  ·exact fun h=>h.1
 ·rw[(anw v hk).1,aqm,←aEQ hk]
  simp[IvQ.has]
 ·rw[(amq v hk).1,aqm,←aEy hk]
  simp[IvQ.has]
theorem asD{l m:LnQ}{v:IvQ}(hb:l.cutB v m=true)(t:Rat):(l.cutV v m).ins t↔v.ins t∧0<m.value (l.at t):=by
 rw[afu]
 rcases aaW (l.cutK m) with hk|hk|hk
 ·obtain⟨h1,h2⟩:=agw v hk
  rw[h1,hk]
  have:=h2.1 hb
  constructor
  ·intro h;exact⟨h,by grind⟩
  ·exact fun h=>h.1
 ·rw[(anw v hk).1,aoY,←aA1 hk]
  simp[IvQ.ins]
 ·rw[(amq v hk).1,aoY,←aBs hk]
  simp[IvQ.ins]
theorem aiQ{l m:LnQ}{v:IvQ}(hv:v.Pos)(hb:l.cutB v m=true):(l.cutV v m).Pos:=by
 rcases aaW (l.cutK m) with hk|hk|hk
 ·rw[(agw v hk).1];exact hv
 ·exact(anw v hk).2.1 hb
 ·exact(amq v hk).2.1 hb
theorem atb{l m:LnQ}{v:IvQ}(hv:v.Pos)(hb:l.cutB v m=false){t:Rat}(ht:v.has t):m.value (l.at t)≤0:=by
 rw[afu]
 have hb': ¬l.cutB v m=true:=by rw[hb];decide
 rcases aaW (l.cutK m) with hk|hk|hk
 ·have h2:=(agw v hk).2
  have: ¬0<l.cutC m:=fun h=>hb' (h2.2 h)
  rw[hk];grind
 ·obtain⟨h1,h2⟩:=anw v hk
  have hn: ¬(l.cutV v m).Pos:=fun h=>hb' (h2.2 h)
  rw[h1] at hn
  have h3:=aA1 (C:=l.cutC m) (t:=t) hk
  suffices¬(-(l.cutC m/l.cutK m)<t) by grind
  generalize-(l.cutC m/l.cutK m)=d at*
  obtain⟨lo,hi,nl,nh⟩:=v
  unfold IvQ.Pos IvQ.meet at hn
  unfold IvQ.Pos at hv
  unfold IvQ.has at ht
  cases nl<;>cases nh<;>simp at* <;>grind
 ·obtain⟨h1,h2⟩:=amq v hk
  have hn: ¬(l.cutV v m).Pos:=fun h=>hb' (h2.2 h)
  rw[h1] at hn
  have h3:=aBs (C:=l.cutC m) (t:=t) hk
  suffices¬(t< -(l.cutC m/l.cutK m)) by grind
  generalize-(l.cutC m/l.cutK m)=d at*
  obtain⟨lo,hi,nl,nh⟩:=v
  unfold IvQ.Pos IvQ.meet at hn
  unfold IvQ.Pos at hv
  unfold IvQ.has at ht
  cases nl<;>cases nh<;>simp at* <;>grind
/-! ### cells -/
def InD(c:aan)(p:PtQ):Prop:= ∀s∈c,0<s.l.value p
def InC(c:aan)(p:PtQ):Prop:= ∀s∈c,0≤s.l.value p
theorem aht(l:LnQ): ∀(c:aan) (v w:IvQ),v.Pos→agR l c v=some w→
  w.Pos∧(∀t,w.has t↔v.has t∧InC c (l.at t))∧(∀t,w.ins t↔v.ins t∧InD c (l.at t))
 |[],v,w,hv,h=>by
  obtain rfl:v=w:=by simpa[agR] using h
  exact⟨hv,fun t=>⟨fun h=>⟨h,fun s hs=>absurd hs (by simp)⟩,fun h=>h.1⟩,fun t=>⟨fun h=>⟨h,fun s hs=>absurd hs (by simp)⟩,fun h=>h.1⟩⟩
 |s::c,v,w,hv,h=>by
  rw[agR] at h
  split at h
  ·rename_i hb
   obtain⟨h1,h2,h3⟩:=aht l c _ w (aiQ hv hb) h
   refine⟨h1,fun t=>?_,fun t=>?_⟩
   ·rw[h2,alU hb]
    simp only[InC,dX]
    exact and_assoc
   ·rw[h3,asD hb]
    simp only[InD,dX]
    exact and_assoc
  ·exact absurd h (by simp)
theorem akk(l:LnQ): ∀(c:aan) (v:IvQ),v.Pos→agR l c v=none→ ∀t,v.has t→ ¬InD c (l.at t)
 |[],v,hv,h=>by simp[agR] at h
 |s::c,v,hv,h=>by
  intro t ht hd
  have hd':=dX.1 hd
  rw[agR] at h
  split at h
  ·rename_i hb
   exact akk l c _ (aiQ hv hb) h t ((alU hb t).2 ⟨ht,gK hd'.1⟩) hd'.2
  ·rename_i hb
   have:=atb hv (by simpa using hb) ht
   have:=hd'.1
   grind
theorem InD.open: ∀{c:aan} {q:PtQ} (u:PtQ),InD c q→ ∃e:Rat,0<e∧ ∀d,0≤d→d≤e→InD c (adB q u d)
 |[],q,u,_=>⟨1,by decide,fun d _ _ s hs=>absurd hs (by simp)⟩
 |s::c,q,u,h=>by
  have h':=dX.1 h
  obtain⟨e,he,hd⟩:=InD.open (c:=c) u h'.2
  have hs:=h'.1
  generalize hk:s.l.nor.dot u=k
  have hf: ∃f:Rat,0<f∧ ∀d,0≤d→d≤f→0<s.l.value q+d*k:=by
   by_cases hk0:0≤k
   ·exact⟨1,by decide,fun d h1 _=>by have:=aai h1 hk0;grind⟩
   ·refine⟨s.l.value q/(2* -k),?_,fun d h1 h2=>?_⟩
    ·have e1:s.l.value q/(2* -k)*(2* -k)=s.l.value q:=by grind
     exact(aaj (k:=2* -k) (by grind)).1 (by rw[e1];exact hs)
    ·have e1:s.l.value q/(2* -k)*(2* -k)=s.l.value q:=by grind
     generalize s.l.value q/(2* -k)=f at*
     have:=aai (a:=f-d) (b:= -k) (by grind) (by grind)
     grind
  obtain⟨f,hf0,hf⟩:=hf
  by_cases hef:e≤f
  ·refine⟨e,he,fun d h1 h2=>dX.2 ⟨?_,hd d h1 h2⟩⟩
   rw[abP,hk];exact hf d h1 (by grind)
  ·refine⟨f,hf0,fun d h1 h2=>dX.2 ⟨?_,hd d h1 (by grind)⟩⟩
   rw[abP,hk];exact hf d h1 h2
theorem ako: ∀{c:aan} {q p:PtQ},InD c q→(∃s∈c,s.l.value p≤0)→
  ∃e:Rat,0≤e∧e≤1∧(∃s∈c,s.l.value p≤0∧s.l.value (aqZ q p e)=0)∧InC c (aqZ q p e)
 |[],q,p,_,h=>by obtain⟨s,hs,_⟩:=h;exact absurd hs (by simp)
 |s::c,q,p,h,hex=>by
  have h':=dX.1 h
  have hs:=h'.1
  by_cases hc: ∃s∈c,s.l.value p≤0
  ·obtain⟨e,h0,h1,⟨s1,m1,n1,z1⟩,hC⟩:=ako h'.2 hc
   by_cases hp:0≤s.l.value (aqZ q p e)
   ·exact⟨e,h0,h1,⟨s1,aX _ m1,n1,z1⟩,dX.2 ⟨hp,hC⟩⟩
   ·rw[ac3] at hp
    generalize hB:s.l.value p-s.l.value q=B at*
    have hB0:B<0:=by
     by_cases hB0:0≤B
     ·have:=aai h0 hB0;grind
     ·grind
    have e1:s.l.value q/(-B)*(-B)=s.l.value q:=by grind
    generalize hf:s.l.value q/(-B)=f at*
    have f0:0≤f:=(aaq (k:= -B) (by grind)).1 (by rw[e1];grind)
    have f1:f≤e:=by
     have:=(aaq (s:=e-f) (k:= -B) (by grind)).1 (by grind)
     grind
    have z:s.l.value (aqZ q p f)=0:=by rw[ac3,hB];grind
    have np:s.l.value p≤0:=by
     have:=aai (a:=1-e) (b:= -B) (by grind) (by grind)
     grind
    refine⟨f,f0,by grind,⟨s,aQ,np,z⟩,dX.2 ⟨by rw[z];exact iR,fun s2 m2=>?_⟩⟩
    have a1:=h'.2 s2 m2
    have a2:=hC s2 m2
    rw[ac3] at a2⊢
    exact aiM (gK a1) a2 f0 f1
  ·have np:s.l.value p≤0:=by
    obtain⟨s1,m1,n1⟩:=hex
    rcases aW.1 m1 with rfl|m1
    ·exact n1
    ·exact absurd ⟨s1,m1,n1⟩ hc
   generalize hB:s.l.value p-s.l.value q=B at*
   have hB0:B<0:=by grind
   have e1:s.l.value q/(-B)*(-B)=s.l.value q:=by grind
   generalize hf:s.l.value q/(-B)=f at*
   have f0:0≤f:=(aaq (k:= -B) (by grind)).1 (by rw[e1];grind)
   have f1:f≤1:=by
    have:=(aaq (s:=1-f) (k:= -B) (by grind)).1 (by grind)
    grind
   have z:s.l.value (aqZ q p f)=0:=by rw[ac3,hB];grind
   refine⟨f,f0,f1,⟨s,aQ,np,z⟩,dX.2 ⟨by rw[z];exact iR,fun s2 m2=>?_⟩⟩
   have a1:=h'.2 s2 m2
   have a2:0<s2.l.value p:=by
    by_cases h:0<s2.l.value p
    ·exact h
    ·exact absurd ⟨s2,m2,by grind⟩ hc
   rw[ac3]
   have:=aiM (A:=s2.l.value q) (B:=s2.l.value p-s2.l.value q) (u:=f) (v:=1) (gK a1) (by grind) f0 f1
   exact this
structure acg (c:aan):Prop where
 ne: ∃p,InD c p
 ok: ∀s∈c,s.l.ok
 edge: ∀s∈c,s.v.Pos∧ ∀t,s.v.has t↔InC c (s.l.at t)
theorem acg.nil:acg []:=⟨⟨⟨0,0⟩,fun s hs=>absurd hs (by simp)⟩,fun s hs=>absurd hs (by simp),fun s hs=>absurd hs (by simp)⟩
theorem abX{c:aan}{m:LnQ}(hne: ∃q,InD c q)(h: ∀p,InD c p→0<m.value p){p:PtQ}(hp:InC c p):0≤m.value p:=by
 obtain⟨q,hq⟩:=hne
 have mq:=h q hq
 by_cases hm:0≤m.value p
 ·exact hm
 ·exfalso
  generalize hB:m.value q-m.value p=B
  have hB0:0<B:=by grind
  have e1: -m.value p/B*B= -m.value p:=by grind
  generalize-m.value p/B=e at*
  have e0:0<e:=(aaj hB0).1 (by rw[e1];grind)
  have e2:e≤1:=by
   have:=(aaq (s:=1-e) hB0).1 (by grind)
   grind
  have hd:InD c (aqZ p q e):=fun s hs=>by
   rw[ac3]
   have a:=hp s hs
   have b:=hq s hs
   have:=aab e0 b
   have:=aai (a:=1-e) (b:=s.l.value p) (by grind) a
   grind
  have:=h _ hd
  rw[ac3,hB,e1] at this
  grind
theorem adj{l:LnQ}{s':FrQ}: ∀{c:aan},s'∈acJ l c↔ ∃s∈c,s.l.cutB s.v l=true∧s'=⟨s.l,s.l.cutV s.v l⟩
 |[]=>by simp[acJ]
 |s::c=>by
  rw[acJ]
  split
  ·rename_i hb
   rw[aW,adj (c:=c)]
   constructor
   ·rintro (rfl|⟨s1,h1,h2⟩)
    ·exact⟨s,aQ,hb,rfl⟩
    ·exact⟨s1,aX _ h1,h2⟩
   ·rintro ⟨s1,h1,h2,h3⟩
    rcases aW.1 h1 with rfl|h1
    ·exact .inl h3
    ·exact .inr ⟨s1,h1,h2,h3⟩
  ·rename_i hb
   rw[adj (c:=c)]
   constructor
   ·rintro ⟨s1,h1,h2⟩;exact⟨s1,aX _ h1,h2⟩
   ·rintro ⟨s1,h1,h2,h3⟩
    rcases aW.1 h1 with rfl|h1
    ·exact absurd h2 hb
    ·exact⟨s1,h1,h2,h3⟩
theorem ad1{c:aan}{l:LnQ}{v:IvQ}{s:FrQ}:s∈aru c l v↔s=⟨l,v⟩∨s∈c:=by
 unfold aru
 generalize bsq (ag3 c l) 0 c.length=n
 rw[bK,aW]
 have h:=jU n c
 constructor
 ·rintro (h1|h1|h1)
  ·exact .inr (cS h1)
  ·exact .inl h1
  ·exact .inr (fN h1)
 ·rintro (h1|h1)
  ·exact .inr (.inl h1)
  ·rw[←h,bK] at h1
   rcases h1 with h1|h1
   ·exact .inl h1
   ·exact .inr (.inr h1)
theorem awL{c:aan}{l:LnQ}(hl:l.Ne)(hp:af0 c l=none){p:PtQ}(h:InD c p):l.value p≠0:=by
 intro h0
 obtain⟨t,rfl⟩:=avS hl h0
 exact akk l c _ ai3 hp t (aoh t) h
theorem akK{c:aan}{l:LnQ}(hl:l.Ne){v:IvQ}(hp:af0 c l=some v):(∃q,InD c q∧0<l.value q)∧ ∃q,InD c q∧l.value q<0:=by
 obtain⟨h1,_,h3⟩:=aht l c _ v ai3 hp
 have hd:=((h3 v.sample).1 (adE h1)).2
 have h0:=aiU hl v.sample
 have hn:=ahZ hl
 constructor
 ·obtain⟨e,he,hm⟩:=hd.open l.nor
  refine⟨_,hm e (gK he) iR,?_⟩
  rw[abP,h0]
  have:=aab he hn
  grind
 ·obtain⟨e,he,hm⟩:=hd.open ⟨-l.nor.x, -l.nor.y⟩
  refine⟨_,hm e (gK he) iR,?_⟩
  rw[abP,h0]
  have:=aab he hn
  simp only[PtQ.dot] at this⊢
  grind
theorem aud{c:aan}{l:LnQ}{v:IvQ}(hc:acg c)(hl:l.ok)(hp:af0 c l=some v):
  acg (aru (acJ l c) l v)∧ ∀p,InD (aru (acJ l c) l v) p↔InD c p∧0<l.value p:=by
 obtain⟨⟨q,hq,lq⟩,_⟩:=akK hl.ne hp
 obtain⟨v1,v2,v3⟩:=aht l c _ v ai3 hp
 have hD: ∀p,InD (aru (acJ l c) l v) p↔InD c p∧0<l.value p:=by
  intro p
  constructor
  ·intro h
   have lp:0<l.value p:=h ⟨l,v⟩ (ad1.2 (.inl rfl))
   refine⟨fun s0 hs0=>?_,lp⟩
   by_cases h0:0<s0.l.value p
   ·exact h0
   ·exfalso
    obtain⟨e,e0,e1,⟨s,ms,ns,zs⟩,hC⟩:=ako (p:=p) hq ⟨s0,hs0,by grind⟩
    obtain⟨t,ht⟩:=avS (hc.ok s ms).ne zs
    rw[ht] at hC
    obtain⟨p1,p2⟩:=hc.edge s ms
    have hh:=(p2 t).2 hC
    have lr:0<l.value (s.l.at t):=by
     rw[←ht,ac3]
     by_cases hB:0≤l.value p-l.value q
     ·have:=aai e0 hB;grind
     ·have:=aai (a:=1-e) (b:= -(l.value p-l.value q)) (by grind) (by grind)
      grind
    have hb:s.l.cutB s.v l=true:=by
     cases hb:s.l.cutB s.v l with
     |true=>rfl
     |false=>have:=atb p1 hb hh;grind
    have:=h ⟨s.l,s.l.cutV s.v l⟩ (ad1.2 (.inr (adj.2 ⟨s,ms,hb,rfl⟩)))
    simp only at this
    grind
  ·rintro ⟨h1,h2⟩ s hs
   rcases ad1.1 hs with rfl|hs
   ·exact h2
   ·obtain⟨s1,m1,_,rfl⟩:=adj.1 hs
    exact h1 s1 m1
 have hne: ∃p,InD (aru (acJ l c) l v) p:=⟨q,(hD q).2 ⟨hq,lq⟩⟩
 have hC: ∀p,InC (aru (acJ l c) l v) p↔InC c p∧0≤l.value p:=by
  intro p
  constructor
  ·intro h
   refine⟨fun s hs=>?_,h ⟨l,v⟩ (ad1.2 (.inl rfl))⟩
   exact abX hne (fun p hp=>((hD p).1 hp).1 s hs) h
  ·rintro ⟨h1,h2⟩ s hs
   rcases ad1.1 hs with rfl|hs
   ·exact h2
   ·obtain⟨s1,m1,_,rfl⟩:=adj.1 hs
    exact h1 s1 m1
 refine⟨⟨hne,fun s hs=>?_,fun s hs=>?_⟩,hD⟩
 ·rcases ad1.1 hs with rfl|hs
  ·exact hl
  ·obtain⟨s1,m1,_,rfl⟩:=adj.1 hs
   exact hc.ok s1 m1
 ·rcases ad1.1 hs with rfl|hs
  ·refine⟨v1,fun t=>?_⟩
   rw[hC]
   simp only
   rw[v2]
   have h0:=aiU hl.ne t
   constructor
   ·intro h;exact⟨h.2,by rw[h0];exact iR⟩
   ·intro h;exact⟨aoh t,h.1⟩
  ·obtain⟨s1,m1,hb,rfl⟩:=adj.1 hs
   obtain⟨p1,p2⟩:=hc.edge s1 m1
   refine⟨aiQ p1 hb,fun t=>?_⟩
   rw[hC]
   simp only
   rw[alU hb,p2]
theorem InD.seg{c:aan}{q p:PtQ}{e:Rat}(hq:InD c q)(hp:InD c p)(h0:0≤e)(h1:e≤1):InD c (aqZ q p e):=fun s hs=>by
 rw[ac3]
 have a:=hq s hs
 have b:=hp s hs
 by_cases he:e=0
 ·subst he;grind
 ·have:=aab (a:=e) (by grind) b
  have:=aai (a:=1-e) (b:=s.l.value q) (by grind) (by grind)
  grind
theorem aqw{v:IvQ}{t:Rat}(h:v.ins t):(∃u,u<t∧v.has u)∧ ∃u,t<u∧v.has u:=by
 obtain⟨lo,hi,nl,nh⟩:=v
 unfold IvQ.ins at h
 unfold IvQ.has
 refine⟨⟨if nl=true then t-1 else lo,?_⟩,⟨if nh=true then t+1 else hi,?_⟩⟩<;>cases nl<;>cases nh<;>simp at* <;>grind
theorem ac2{a b c x y z:Nat}(h1:x*b=a*y)(h2:x*c=a*z)(g:Nat.gcd (Nat.gcd a b) c=1):a∣x:=by
 have e:x=Nat.gcd (Nat.gcd (x*a) (x*b)) (x*c):=by
  rw[Nat.gcd_mul_left,Nat.gcd_mul_left,g,gT]
 rw[e]
 exact Nat.dvd_gcd (Nat.dvd_gcd (Nat.dvd_mul_left ..) (h1▸Nat.dvd_mul_right ..)) (h2▸Nat.dvd_mul_right ..)
theorem atX{a b c x y z:Int}(h1:a*y=b*x)(h2:a*z=c*x)(h3:b*z=c*y)
  (g1:Nat.gcd (Nat.gcd a.natAbs b.natAbs) c.natAbs=1)(g2:Nat.gcd (Nat.gcd x.natAbs y.natAbs) z.natAbs=1):
  (a=x∧b=y∧c=z)∨(a= -x∧b= -y∧c= -z):=by
 have n1:a.natAbs*y.natAbs=b.natAbs*x.natAbs:=by rw[←iY,←iY,h1]
 have n2:a.natAbs*z.natAbs=c.natAbs*x.natAbs:=by rw[←iY,←iY,h2]
 have n3:b.natAbs*z.natAbs=c.natAbs*y.natAbs:=by rw[←iY,←iY,h3]
 generalize ha:a.natAbs=A at*
 generalize hb:b.natAbs=B at*
 generalize hc:c.natAbs=C at*
 generalize hx:x.natAbs=X at*
 generalize hy:y.natAbs=Y at*
 generalize hz:z.natAbs=Z at*
 have gB:Nat.gcd (Nat.gcd B A) C=1:=by rw[iK B A];exact g1
 have gC:Nat.gcd (Nat.gcd C A) B=1:=by rw[Nat.gcd_assoc,iK];exact g1
 have gY:Nat.gcd (Nat.gcd Y X) Z=1:=by rw[iK Y X];exact g2
 have gZ:Nat.gcd (Nat.gcd Z X) Y=1:=by rw[Nat.gcd_assoc,iK];exact g2
 have e1:A=X:=Nat.dvd_antisymm (ac2 (x:=X) (y:=Y) (z:=Z) (by grind) (by grind) g1) (ac2 (x:=A) (y:=B) (z:=C) (by grind) (by grind) g2)
 have e2:B=Y:=Nat.dvd_antisymm (ac2 (x:=Y) (y:=X) (z:=Z) (by grind) (by grind) gB) (ac2 (x:=B) (y:=A) (z:=C) (by grind) (by grind) gY)
 have e3:C=Z:=Nat.dvd_antisymm (ac2 (x:=Z) (y:=X) (z:=Y) (by grind) (by grind) gC) (ac2 (x:=C) (y:=A) (z:=B) (by grind) (by grind) gZ)
 have s1:a=x∨a= -x:=by omega
 have s2:b=y∨b= -y:=by omega
 have s3:c=z∨c= -z:=by omega
 clear ha hb hc hx hy hz n1 n2 n3 g1 g2 gB gC gY gZ e1 e2 e3
 have z1:= @rT x y
 have z2:= @rT x z
 have z3:= @rT y z
 rcases s1 with rfl|rfl<;>rcases s2 with rfl|rfl<;>rcases s3 with rfl|rfl<;>grind
theorem agC{l m:LnQ}(hl:l.ok)(hm:m.ok)(h: ∀t,l.value (m.at t)=0):l=m∨l=m.rev:=by
 have h0:=h 0
 have h1:=h 1
 rw[afu] at h0 h1
 have hC:m.cutC l=0:=by grind
 have hK:m.cutK l=0:=by grind
 obtain⟨q,q1,q2⟩:=amk hm.ne
 have hn:=ahZ hm.ne
 unfold LnQ.cutC at hC
 rw[q2,adl] at hC
 unfold LnQ.cutK at hK
 simp only[LnQ.nor,LnQ.dir,PtQ.dot] at hK q1 hn hC
 obtain⟨a,b,c⟩:=l
 obtain⟨x,y,z⟩:=m
 simp only at*
 have e1:a*y=b*x:=by
  have:((a*y:Int):Rat)=((b*x:Int):Rat):=by rw[eK,eK];grind
  exact mW.1 this
 have e2:a*z=c*x:=by
  have:((a*z:Int):Rat)=((c*x:Int):Rat):=by rw[eK,eK];grind
  exact mW.1 this
 have e3:b*z=c*y:=by
  have:((b*z:Int):Rat)=((c*y:Int):Rat):=by rw[eK,eK];grind
  exact mW.1 this
 rcases atX e1 e2 e3 hl.2 hm.2 with⟨rfl,rfl,rfl⟩|⟨rfl,rfl,rfl⟩
 ·exact .inl rfl
 ·exact .inr rfl
theorem LnQ.ok.rev{l:LnQ}(h:l.ok):l.rev.ok:=by
 obtain⟨h1,h2⟩:=h
 refine⟨?_,?_⟩
 ·simp only[LnQ.rev];omega
 ·simp only[LnQ.rev,iL];exact h2
theorem anO(l:LnQ): ∀c:aan,(∀s∈c,aez l s≤0∧s.l≠l)→ ¬0<aeA l c
 |[],_=>by simp[aeA]
 |s::c,h=>by
  have h':=dX.1 h
  unfold aeA
  rw[if_neg h'.1.2]
  split
  ·have:=h'.1.1;omega
  ·exact anO l c h'.2
theorem akg{c:aan}{l:LnQ}(hc:acg c)(hl:l.ok)(hp:af0 c l=none):
  (0<aeA l c∧ ∀p,InD c p→0<l.value p)∨(¬0<aeA l c∧ ∀p,InD c p→l.value p<0):=by
 have hoff:=fun p (h:InD c p)=>awL hl.ne hp h
 by_cases hq: ∃q,InD c q∧0<l.value q
 ·left
  obtain⟨q,hq,lq⟩:=hq
  have hall: ∀p,InD c p→0<l.value p:=by
   intro p h
   have:=hoff p h
   by_cases h0:0<l.value p
   ·exact h0
   ·exfalso
    have hn:l.value p<0:=by grind
    have e1:l.value q/(l.value q-l.value p)*(l.value q-l.value p)=l.value q:=by grind
    generalize l.value q/(l.value q-l.value p)=e at*
    have f0:0≤e:=(aaq (k:=l.value q-l.value p) (by grind)).1 (by grind)
    have f1:e≤1:=by
     have:=(aaq (s:=1-e) (k:=l.value q-l.value p) (by grind)).1 (by grind)
     grind
    exact hoff _ (hq.seg h f0 f1) (by rw[ac3];grind)
  refine⟨?_,hall⟩
  cases c with
  |nil=>simp[af0,agR] at hp
  |cons s c=>
   obtain⟨p1,p2⟩:=hc.edge s aQ
   have hi:=adE p1
   have hr:=abX hc.ne hall ((p2 _).1 hi.has)
   unfold aeA
   by_cases h0:aez l s=0
   ·rw[if_neg (by simpa using h0)]
    have hz:l.value (s.l.at s.v.sample)=0:=(abN _).1 h0
    have hge: ∀t,s.v.has t→0≤l.value (s.l.at t):=fun t ht=>abX hc.ne hall ((p2 t).1 ht)
    obtain⟨⟨u1,m1,n1⟩,⟨u2,m2,n2⟩⟩:=aqw hi
    have g1:=hge _ n1
    have g2:=hge _ n2
    rw[afu] at hz g1 g2
    have hK:s.l.cutK l=0:=by
     rcases aaW (s.l.cutK l) with h|h|h
     ·exact h
     ·exfalso
      have:=aab (a:=s.v.sample-u1) (b:=s.l.cutK l) (by grind) h
      grind
     ·exfalso
      have:=aab (a:=u2-s.v.sample) (b:= -s.l.cutK l) (by grind) (by grind)
      grind
    have hz2: ∀t,l.value (s.l.at t)=0:=fun t=>by rw[afu,hK];rw[hK] at hz;grind
    rcases agC hl (hc.ok s aQ) hz2 with h|h
    ·rw[if_pos h.symm];decide
    ·exfalso
     have:=hall q hq
     rw[h,aaP] at this
     have:=hq s aQ
     grind
   ·rw[if_pos h0]
    have hz:l.value (s.l.at s.v.sample)≠0:=fun e=>h0 ((abN _).2 e)
    exact(acC _).2 (by grind)
 ·right
  have hall: ∀p,InD c p→l.value p<0:=fun p h=>by
   have:=hoff p h
   have: ¬0<l.value p:=fun h'=>hq ⟨p,h,h'⟩
   grind
  refine⟨anO l c fun s hs=>?_,hall⟩
  obtain⟨p1,p2⟩:=hc.edge s hs
  have hr:=abX (m:=l.rev) hc.ne (fun p h=>by rw[aaP];have:=hall p h;grind) ((p2 _).1 (adE p1).has)
  rw[aaP] at hr
  constructor
  ·have: ¬0<aez l s:=fun h=>by have:=(acC _).1 h;grind
   omega
  ·rintro rfl
   obtain⟨p,hp⟩:=hc.ne
   have:=hall p hp
   have:=hp s hs
   grind
/-! ### clipping -/
theorem aeF{c:aan}{l:LnQ}(hc:acg c)(hl:l.ok):abq c l=true↔ ∃p,InD c p∧0<l.value p:=by
 unfold abq
 cases hp:af0 c l with
 |some v=>exact⟨fun _=>(akK hl.ne hp).1,fun _=>rfl⟩
 |none=>
  simp only[aiC,hp,Option.isSome_none,iN,if_false,decide_eq_true_iff]
  rcases akg hc hl hp with⟨h1,h2⟩|⟨h1,h2⟩
  ·refine⟨fun _=>?_,fun _=>h1⟩
   obtain⟨p,hp⟩:=hc.ne
   exact⟨p,hp,h2 p hp⟩
  ·refine⟨fun h=>absurd h h1,?_⟩
   rintro ⟨p,hp,h⟩
   have:=h2 p hp
   grind
theorem abR{c:aan}{l:LnQ}(hc:acg c)(hl:l.ok)(hb:abq c l=true):acg (aaS c l)∧ ∀p,InD (aaS c l) p↔InD c p∧0<l.value p:=by
 unfold aaS
 cases hp:af0 c l with
 |some v=>exact aud hc hl hp
 |none=>
  refine⟨hc,fun p=>?_⟩
  unfold abq at hb
  simp only[hp,aiC,Option.isSome_none,iN,if_false,decide_eq_true_iff] at hb
  rcases akg hc hl hp with⟨h1,h2⟩|⟨h1,h2⟩
  ·exact⟨fun h=>⟨h,h2 p h⟩,fun h=>h.1⟩
  ·exact absurd hb h1
theorem ap6{c:aan}{l:LnQ}(hl:l.ok){p:PtQ}(hp:InD c p)(h0:l.value p=0):(∃q,InD c q∧0<l.value q)∧ ∃q,InD c q∧l.value q<0:=by
 have hn:=ahZ hl.ne
 constructor
 ·obtain⟨e,he,hm⟩:=hp.open l.nor
  refine⟨_,hm e (gK he) iR,?_⟩
  rw[abP,h0]
  have:=aab he hn
  grind
 ·obtain⟨e,he,hm⟩:=hp.open ⟨-l.nor.x, -l.nor.y⟩
  refine⟨_,hm e (gK he) iR,?_⟩
  rw[abP,h0]
  have:=aab he hn
  simp only[PtQ.dot] at this⊢
  grind
inductive aGm (c:aan) (l:LnQ):Prop
 |left (h1:abq c l.rev=false) (h: ∀p,InD c p→0<l.value p)
 |right (h1:abq c l.rev=true) (h2:abq c l=false) (h: ∀p,InD c p→l.value p<0)
 |both (h1:abq c l.rev=true) (h2:abq c l=true) (g1:acg (aaS c l)) (g2:acg (aaS c l.rev))
   (e1: ∀p,InD (aaS c l) p↔InD c p∧0<l.value p) (e2: ∀p,InD (aaS c l.rev) p↔InD c p∧l.value p<0)
theorem lies{c:aan}{l:LnQ}(hc:acg c)(hl:l.ok):aGm c l:=by
 have hr:=aeF hc hl.rev
 have hi:=aeF hc hl
 cases h1:abq c l.rev with
 |false=>
  refine .left h1 fun p hp=>?_
  have hn: ¬ ∃q,InD c q∧l.value q<0:=by
   rintro ⟨q,a,b⟩
   have:=hr.2 ⟨q,a,by rw[aaP];grind⟩
   rw[h1] at this;exact absurd this (by decide)
  have n1: ¬l.value p<0:=fun h=>hn ⟨p,hp,h⟩
  have n2:l.value p≠0:=fun h=>hn (ap6 hl hp h).2
  grind
 |true=>
  cases h2:abq c l with
  |false=>
   refine .right h1 h2 fun p hp=>?_
   have hn: ¬ ∃q,InD c q∧0<l.value q:=by
    intro h
    have:=hi.2 h
    rw[h2] at this;exact absurd this (by decide)
   have n1: ¬0<l.value p:=fun h=>hn ⟨p,hp,h⟩
   have n2:l.value p≠0:=fun h=>hn (ap6 hl hp h).1
   grind
  |true=>
   obtain⟨g1,e1⟩:=abR hc hl h2
   obtain⟨g2,e2⟩:=abR hc hl.rev h1
   refine .both h1 h2 g1 g2 e1 fun p=>?_
   rw[e2,aaP]
   constructor<;>rintro ⟨a,b⟩<;>exact⟨a,by grind⟩
/-! ### trees -/
theorem Tr.restrict_A{l:LnQ}{e:aan}(X Y:Tr)(h:abq e l.rev=false):(Tr.node l X Y).restrict e=X.restrict e:=by
 rw[Tr.restrict,h];rfl
theorem Tr.restrict_B{l:LnQ}{e:aan}(X Y:Tr)(h:abq e l.rev=true)(h2:abq e l=false):(Tr.node l X Y).restrict e=Y.restrict e:=by
 rw[Tr.restrict,h,h2];rfl
theorem Tr.restrict_C{l:LnQ}{e:aan}(X Y:Tr)(h:abq e l.rev=true)(h2:abq e l=true):(Tr.node l X Y).restrict e=Tr.joinQ l (X.restrict (aaS e l)) (Y.restrict (aaS e l.rev)):=by
 rw[Tr.restrict,h,h2];rfl
def afv:List LnQ→aan→Option aan
 |[],c=>some c
 |l::t,c=>if abq c l then afv t (aaS c l) else none
theorem aku: ∀{ls:List LnQ} {c e:aan},acg c→(∀l∈ls,l.ok)→afv ls c=some e→acg e∧ ∀p,InD e p↔InD c p∧ ∀l∈ls,0<l.value p
 |[],c,e,hc,_,h=>by
  obtain rfl:c=e:=by simpa[afv] using h
  exact⟨hc,fun p=>⟨fun h=>⟨h,fun l hl=>absurd hl (by simp)⟩,fun h=>h.1⟩⟩
 |l::t,c,e,hc,hl,h=>by
  have hl':=dX.1 hl
  rw[afv] at h
  split at h
  ·rename_i hb
   obtain⟨g1,g2⟩:=abR hc hl'.1 hb
   obtain⟨k1,k2⟩:=aku g1 hl'.2 h
   refine⟨k1,fun p=>?_⟩
   rw[k2,g2,dX,and_assoc]
  ·exact absurd h (by simp)
theorem akr: ∀{ls:List LnQ} {c:aan},acg c→(∀l∈ls,l.ok)→(∃p,InD c p∧ ∀l∈ls,0<l.value p)→ ∃e,afv ls c=some e
 |[],c,_,_,_=>⟨c,rfl⟩
 |l::t,c,hc,hl,⟨p,h1,h2⟩=>by
  have hl':=dX.1 hl
  have h2':=dX.1 h2
  have hb:=(aeF hc hl'.1).2 ⟨p,h1,h2'.1⟩
  obtain⟨g1,g2⟩:=abR hc hl'.1 hb
  rw[afv,if_pos hb]
  exact akr g1 hl'.2 ⟨p,(g2 p).2 ⟨h1,h2'.1⟩,h2'.2⟩
theorem ato{c:aan}(hc:acg c){s:FrQ}(hs:s∈c){m:LnQ}(hm:m.ok)(h: ∀p,InD c p→0<m.value p)(hz:m.value (s.l.at s.v.sample)=0):m=s.l:=by
 obtain⟨p1,p2⟩:=hc.edge s hs
 have hi:=adE p1
 have hge: ∀t,s.v.has t→0≤m.value (s.l.at t):=fun t ht=>abX hc.ne h ((p2 t).1 ht)
 obtain⟨⟨u1,m1,n1⟩,⟨u2,m2,n2⟩⟩:=aqw hi
 have g1:=hge _ n1
 have g2:=hge _ n2
 rw[afu] at hz g1 g2
 have hK:s.l.cutK m=0:=by
  rcases aaW (s.l.cutK m) with h|h|h
  ·exact h
  ·exfalso
   have:=aab (a:=s.v.sample-u1) (b:=s.l.cutK m) (by grind) h
   grind
  ·exfalso
   have:=aab (a:=u2-s.v.sample) (b:= -s.l.cutK m) (by grind) (by grind)
   grind
 have hz2: ∀t,m.value (s.l.at t)=0:=fun t=>by rw[afu,hK];rw[hK] at hz;grind
 rcases agC hm (hc.ok s hs) hz2 with h'|h'
 ·exact h'
 ·exfalso
  obtain⟨q,hq⟩:=hc.ne
  have:=h q hq
  rw[h',aaP] at this
  have:=hq s hs
  grind
def adb(l:LnQ):List LnQ→IvQ→Option IvQ
 |[],v=>some v
 |m::t,v=>if m=l then adb l t v else if l.cutB v m then adb l t (l.cutV v m) else none
def InL(c:List LnQ)(p:PtQ):Prop:= ∀m∈c,0<m.value p
theorem ahz(l:LnQ): ∀(c:List LnQ) (v w:IvQ),v.Pos→adb l c v=some w→
  w.Pos∧(∀t,w.ins t↔v.ins t∧ ∀m∈c,m≠l→0<m.value (l.at t))
 |[],v,w,hv,h=>by
  obtain rfl:v=w:=by simpa[adb] using h
  exact⟨hv,fun t=>⟨fun h=>⟨h,fun s hs=>absurd hs (by simp)⟩,fun h=>h.1⟩⟩
 |m::c,v,w,hv,h=>by
  rw[adb] at h
  split at h
  ·rename_i hm
   obtain⟨h1,h2⟩:=ahz l c _ w hv h
   refine⟨h1,fun t=>?_⟩
   rw[h2,dX]
   exact⟨fun h=>⟨h.1,fun h'=>absurd hm h',h.2⟩,fun h=>⟨h.1,h.2.2⟩⟩
  ·rename_i hm
   split at h
   ·rename_i hb
    obtain⟨h1,h2⟩:=ahz l c _ w (aiQ hv hb) h
    refine⟨h1,fun t=>?_⟩
    rw[h2,asD hb,dX,and_assoc]
    exact⟨fun h=>⟨h.1,fun _=>h.2.1,h.2.2⟩,fun h=>⟨h.1,h.2.1 hm,h.2.2⟩⟩
   ·exact absurd h (by simp)
theorem ahp(l:LnQ): ∀(c:List LnQ) (v:IvQ),v.Pos→adb l c v=none→ ∀t,v.has t→ ¬ ∀m∈c,m≠l→0<m.value (l.at t)
 |[],v,hv,h=>by simp[adb] at h
 |m::c,v,hv,h=>by
  intro t ht hd
  have hd':=dX.1 hd
  rw[adb] at h
  split at h
  ·exact ahp l c _ hv h t ht hd'.2
  ·rename_i hm
   split at h
   ·rename_i hb
    exact ahp l c _ (aiQ hv hb) h t ((alU hb t).2 ⟨ht,gK (hd'.1 hm)⟩) hd'.2
   ·rename_i hb
    have:=atb hv (by simpa using hb) ht
    have:=hd'.1 hm
    grind
def acq(c:List LnQ):Bool:=c.isEmpty||c.any (fun l=>(adb l c IvQ.all).isSome)
theorem ake: ∀{ls:List LnQ} {c e:aan},afv ls c=some e→ ∀s∈e,s.l∈ls∨ ∃s'∈c,s'.l=s.l
 |[],c,e,h,s,hs=>by
  obtain rfl:c=e:=by simpa[afv] using h
  exact .inr ⟨s,hs,rfl⟩
 |l::t,c,e,h,s,hs=>by
  rw[afv] at h
  split at h
  ·rcases ake h s hs with h1|⟨s',h1,h2⟩
   ·exact .inl (aX _ h1)
   ·unfold aaS at h1
    split at h1
    ·rcases ad1.1 h1 with rfl|h1
     ·exact .inl (by rw[←h2];exact aQ)
     ·obtain⟨s1,m1,_,rfl⟩:=adj.1 h1
      exact .inr ⟨s1,m1,h2⟩
    ·exact .inr ⟨s',h1,h2⟩
  ·exact absurd h (by simp)
theorem aiP{c:List LnQ}(hok: ∀l∈c,l.ok)(hne: ∃p,InL c p): ∃e,afv c []=some e∧acg e∧(∀p,InD e p↔InL c p)∧ ∀s∈e,s.l∈c∧(adb s.l c IvQ.all).isSome=true:=by
 obtain⟨p,hp⟩:=hne
 obtain⟨e,he⟩:=akr acg.nil hok ⟨p,fun s hs=>absurd hs (by simp),hp⟩
 obtain⟨g1,g2⟩:=aku acg.nil hok he
 have g3: ∀p,InD e p↔InL c p:=fun p=>by
  rw[g2]
  exact⟨fun h=>h.2,fun h=>⟨fun s hs=>absurd hs (by simp),h⟩⟩
 refine⟨e,he,g1,g3,fun s hs=>?_⟩
 have hm:s.l∈c:=by
  rcases ake he s hs with h|⟨_,h,_⟩
  ·exact h
  ·exact absurd h (by simp)
 refine⟨hm,?_⟩
 cases hp:adb s.l c IvQ.all with
 |some w=>rfl
 |none=>
  exfalso
  obtain⟨p1,p2⟩:=g1.edge s hs
  have hC:=(p2 s.v.sample).1 (adE p1).has
  refine ahp s.l c _ ai3 hp s.v.sample (aoh _) fun m hmc hne=>?_
  have hall: ∀p,InD e p→0<m.value p:=fun p hp=>(g3 p).1 hp m hmc
  have h0:=abX g1.ne hall hC
  have h1:m.value (s.l.at s.v.sample)≠0:=fun hz=>hne (ato g1 hs (hok m hmc) hall hz)
  grind
theorem aff{c:List LnQ}(hok: ∀l∈c,l.ok):acq c=true↔ ∃p,InL c p:=by
 unfold acq
 rw[gN,List.isEmpty_iff,kX]
 constructor
 ·rintro (rfl|⟨l,hl,h⟩)
  ·exact⟨⟨0,0⟩,fun m hm=>absurd hm (by simp)⟩
  ·obtain⟨w,hw⟩:=Option.isSome_iff_exists.1 h
   obtain⟨w1,w2⟩:=ahz l c _ w ai3 hw
   have hi:=((w2 w.sample).1 (adE w1)).2
   have h0:=aiU (hok l hl).ne w.sample
   have hd:InD ((c.filter (fun m=>decide (m≠l))).map (fun m=>(⟨m,IvQ.all⟩:FrQ))) (l.at w.sample):=by
    intro s hs
    obtain⟨m,hm,rfl⟩:=bU.1 hs
    rw[iQ,decide_eq_true_iff] at hm
    exact hi m hm.1 hm.2
   obtain⟨e,he,ho⟩:=hd.open l.nor
   refine⟨adB (l.at w.sample) l.nor e,fun m hm=>?_⟩
   by_cases hml:m=l
   ·subst hml
    rw[abP,h0]
    have:=aab he (ahZ (hok m hl).ne)
    grind
   ·exact ho e (gK he) iR ⟨m,IvQ.all⟩ (bU.2 ⟨m,iQ.2 ⟨hm,by simpa using hml⟩,rfl⟩)
 ·intro hne
  obtain⟨e,h1,h2,h3,h4⟩:=aiP hok hne
  cases c with
  |nil=>exact .inl rfl
  |cons l c=>
   right
   cases e with
   |nil=>
    exfalso
    have:=(h3 (l.at 0)).1 (fun s hs=>absurd hs (by simp)) l aQ
    rw[aiU (hok l aQ).ne] at this
    exact absurd this (by decide)
   |cons s e=>
    obtain⟨a,b⟩:=h4 s aQ
    exact⟨s.l,a,b⟩
def ae5(out:List LnQ)(l:LnQ):Nat:=(out.takeWhile (fun x=>decide (aaD x.dir l.dir<0))).length
def ac8(out:List LnQ)(l:LnQ):List LnQ:=if out[ae5 out l]? =some l then out else out.take (ae5 out l)++l::out.drop (ae5 out l)
def ae6(c:List LnQ):List LnQ→List LnQ→List LnQ
 |[],out=>out
 |l::t,out=>ae6 c t (if(adb l c IvQ.all).isSome then ac8 out l else out)
def aaR(c:List LnQ):List LnQ:=ae6 c c []
theorem ah0{out:List LnQ}{l m:LnQ}:m∈ac8 out l↔m=l∨m∈out:=by
 unfold ac8
 split
 ·rename_i h
  exact⟨fun h=> .inr h,fun h'=>h'.elim (fun e=>e▸aM h) id⟩
 ·generalize ae5 out l=n
  have h:=jU n out
  rw[bK,aW]
  constructor
  ·rintro (h1|h1|h1)
   ·exact .inr (cS h1)
   ·exact .inl h1
   ·exact .inr (fN h1)
  ·rintro (h1|h1)
   ·exact .inr (.inl h1)
   ·rw[←h,bK] at h1
    rcases h1 with h1|h1
    ·exact .inl h1
    ·exact .inr (.inr h1)
theorem akA{c:List LnQ}{m:LnQ}: ∀{t out:List LnQ},m∈ae6 c t out↔m∈out∨m∈t∧(adb m c IvQ.all).isSome=true
 |[],out=>by simp[ae6]
 |l::t,out=>by
  rw[ae6,akA]
  split
  ·rename_i h
   rw[ah0,aW]
   constructor
   ·rintro ((rfl|h1)|⟨h1,h2⟩)
    ·exact .inr ⟨.inl rfl,h⟩
    ·exact .inl h1
    ·exact .inr ⟨.inr h1,h2⟩
   ·rintro (h1|⟨rfl|h1,h2⟩)
    ·exact .inl (.inr h1)
    ·exact .inl (.inl rfl)
    ·exact .inr ⟨h1,h2⟩
  ·rename_i h
   rw[aW]
   constructor
   ·rintro (h1|⟨h1,h2⟩)
    ·exact .inl h1
    ·exact .inr ⟨.inr h1,h2⟩
   ·rintro (h1|⟨rfl|h1,h2⟩)
    ·exact .inl h1
    ·exact absurd h2 h
    ·exact .inr ⟨h1,h2⟩
theorem aa5{c:List LnQ}{m:LnQ}:m∈aaR c↔m∈c∧(adb m c IvQ.all).isSome=true:=by
 unfold aaR;rw[akA];simp
theorem adW{c:List LnQ}(hok: ∀l∈c,l.ok)(hne: ∃p,InL c p)(p:PtQ):InL (aaR c) p↔InL c p:=by
 constructor
 ·intro h
  obtain⟨e,h1,h2,h3,h4⟩:=aiP hok hne
  exact(h3 p).1 fun s hs=>h s.l (aa5.2 (h4 s hs))
 ·intro h m hm;exact h m (aa5.1 hm).1
def ad7(c:List LnQ)(l:LnQ):Int:=if acq (c++[l])&&acq (c++[l.rev]) then 0 else if acq (c++[l]) then 1 else-1
def Tr.restrictL:Tr→List LnQ→Tr
 | .leaf b,_=> .leaf b
 | .node l x y,c=>if ad7 c l=1 then x.restrictL c else if ad7 c l= -1 then y.restrictL c else joinQ l (x.restrictL (aaR (c++[l]))) (y.restrictL (aaR (c++[l.rev])))
theorem aci{c:List LnQ}{l:LnQ}{p:PtQ}:InL (c++[l]) p↔InL c p∧0<l.value p:=by
 unfold InL
 rw[qU]
 simp
theorem acm{c:List LnQ}{l:LnQ}(hok: ∀m∈c,m.ok)(hl:l.ok): ∀m∈c++[l],m.ok:=by
 rw[qU]
 exact⟨hok,by simpa using hl⟩
theorem Tr.restrictL_eq: ∀(t:Tr) (c:List LnQ) (d:aan),t.all LnQ.ok→(∀l∈c,l.ok)→acg d→(∀p,InD d p↔InL c p)→t.restrictL c=t.restrict d
 | .leaf b,c,d,_,_,_,_=>rfl
 | .node l x y,c,d,h,hc,hd,he=>by
  obtain⟨hl,hx,hy⟩:=h
  have i1:=aff (acm hc hl)
  have i2:=aff (acm hc hl.rev)
  obtain⟨p0,hp0⟩:=hd.ne
  rcases lies hd hl with⟨a1,a⟩|⟨a1,a2,a⟩|⟨a1,a2,ag1,ag2,ae1,ae2⟩
  ·have b1:acq (c++[l])=true:=i1.2 ⟨p0,aci.2 ⟨(he p0).1 hp0,a p0 hp0⟩⟩
   have b2:acq (c++[l.rev])=false:=by
    rw[←lS,i2]
    rintro ⟨p,hp⟩
    have hp:=aci.1 hp
    have:=a p ((he p).2 hp.1)
    rw[aaP] at hp
    grind
   rw[Tr.restrict_A _ _ a1,Tr.restrictL,ad7,b1,b2]
   exact x.restrictL_eq c d hx hc hd he
  ·have b2:acq (c++[l.rev])=true:=i2.2 ⟨p0,aci.2 ⟨(he p0).1 hp0,by rw[aaP];have:=a p0 hp0;grind⟩⟩
   have b1:acq (c++[l])=false:=by
    rw[←lS,i1]
    rintro ⟨p,hp⟩
    have hp:=aci.1 hp
    have:=a p ((he p).2 hp.1)
    grind
   rw[Tr.restrict_B _ _ a1 a2,Tr.restrictL,ad7,b1,b2]
   exact y.restrictL_eq c d hy hc hd he
  ·have n1: ∃p,InL (c++[l]) p:=by
    obtain⟨p,hp⟩:=ag1.ne
    exact⟨p,aci.2 ⟨(he p).1 ((ae1 p).1 hp).1,((ae1 p).1 hp).2⟩⟩
   have n2: ∃p,InL (c++[l.rev]) p:=by
    obtain⟨p,hp⟩:=ag2.ne
    exact⟨p,aci.2 ⟨(he p).1 ((ae2 p).1 hp).1,by rw[aaP];have:=((ae2 p).1 hp).2;grind⟩⟩
   rw[Tr.restrict_C _ _ a1 a2,Tr.restrictL,ad7,i1.2 n1,i2.2 n2]
   have k1:=x.restrictL_eq (aaR (c++[l])) (aaS d l) hx (fun m hm=>acm hc hl m (aa5.1 hm).1) ag1 fun p=>by
    rw[adW (acm hc hl) n1,ae1,aci,he]
   have k2:=y.restrictL_eq (aaR (c++[l.rev])) (aaS d l.rev) hy (fun m hm=>acm hc hl.rev m (aa5.1 hm).1) ag2 fun p=>by
    rw[adW (acm hc hl.rev) n2,ae2,aci,he,aaP]
    constructor<;>rintro ⟨a,b⟩<;>exact⟨a,by grind⟩
   rw[k1,k2]
   rfl
def crossI(l m:LnQ):Int:=l.a*m.b-m.a*l.b
def meetX(l m:LnQ):Int:=l.b*m.c-m.b*l.c
def meetY(l m:LnQ):Int:=m.a*l.c-l.a*m.c
def ach(l m:LnQ):PtQ:=if crossI l m=0 then⟨0,0⟩ else⟨(meetX l m:Rat)/(crossI l m:Rat),(meetY l m:Rat)/(crossI l m:Rat)⟩
def acr(l:LnQ)(p:PtQ):Rat:=p.dot l.dir/l.dir.dot l.dir
theorem aAi(l:LnQ):l.dir.dot l.dir=l.nor.dot l.nor:=by
 simp only[LnQ.dir,LnQ.nor,PtQ.dot];grind
theorem anE{l:LnQ}(h:l.Ne):0<l.dir.dot l.dir:=by rw[aAi];exact ahZ h
theorem ac1(l m:LnQ):((crossI l m:Int):Rat)=(l.a:Rat)*m.b-(m.a:Rat)*l.b:=by
 unfold crossI;rw[pR,eK,eK]
theorem aho(l m:LnQ):((meetX l m:Int):Rat)=(l.b:Rat)*m.c-(m.b:Rat)*l.c:=by
 unfold meetX;rw[pR,eK,eK]
theorem akP(l m:LnQ):((meetY l m:Int):Rat)=(m.a:Rat)*l.c-(l.a:Rat)*m.c:=by
 unfold meetY;rw[pR,eK,eK]
theorem afN(l m:LnQ):l.cutK m= -((crossI l m:Int):Rat):=by
 rw[ac1];simp only[LnQ.cutK,LnQ.nor,LnQ.dir,PtQ.dot];grind
theorem ap9(l m:LnQ):m.dir.cross l.dir=l.cutK m:=by
 simp only[LnQ.cutK,LnQ.nor,LnQ.dir,PtQ.dot,PtQ.cross];grind
theorem aqf{l:LnQ}:(⟨-((l.c:Rat)/l.dir.dot l.dir)*(l.a:Rat), -((l.c:Rat)/l.dir.dot l.dir)*(l.b:Rat)⟩:PtQ)=l.base:=by
 unfold LnQ.base
 rw[aAi]
 simp only[LnQ.nor,PtQ.scale,PtQ.mk.injEq]
 constructor<;>grind
theorem aue(l:LnQ)(t:Rat):adB l.base l.dir t=l.at t:=by
 simp only[adB,LnQ.at,PtQ.add,PtQ.scale,PtQ.mk.injEq]
 constructor<;>grind
theorem afI{l m:LnQ}(hl:l.Ne)(h:crossI l m≠0):acr l (ach l m)= -(l.cutC m/l.cutK m):=by
 have hd:((crossI l m:Int):Rat)≠0:=fun e=>h (cZ.1 e)
 have hn:=anE hl
 obtain⟨q,q1,q2⟩:=amk hl
 rw[afN]
 unfold acr ach LnQ.cutC
 rw[if_neg h,q2,adl,aho,akP]
 have hc:=ac1 l m
 rw[aAi] at hn⊢
 simp only[LnQ.dir,LnQ.nor,PtQ.dot] at hn q1⊢
 generalize ((crossI l m:Int):Rat)=d at*
 generalize (l.a:Rat)=a at*
 generalize (l.b:Rat)=b at*
 generalize (l.c:Rat)=c at*
 generalize (m.a:Rat)=x at*
 generalize (m.b:Rat)=y at*
 generalize (m.c:Rat)=z at*
 have hn':a*a+b*b≠0:=by grind
 have e:((b*z-y*c)/d*b+(x*c-a*z)/d* -a)=((b*z-y*c)*b-(x*c-a*z)*a)/d:=by grind
 rw[e]
 have k1:(b*z-y*c)*b-(x*c-a*z)*a=(a*a+b*b)*(x*(a*q)+y*(b*q)+z):=by grind
 rw[k1]
 grind
theorem aq7{l m:LnQ}(hl:l.Ne)(h:crossI l m≠0):acr l (ach l m)*((crossI l m*(l.a*l.a+l.b*l.b):Int):Rat)=((meetX l m*l.b-meetY l m*l.a:Int):Rat):=by
 have hd:((crossI l m:Int):Rat)≠0:=fun e=>h (cZ.1 e)
 have hn:=anE hl
 unfold acr ach
 rw[if_neg h]
 simp only[eK,pR,pS]
 simp only[LnQ.dir,PtQ.dot] at hn⊢
 generalize ((crossI l m:Int):Rat)=d at*
 generalize ((meetX l m:Int):Rat)=x at*
 generalize ((meetY l m:Int):Rat)=y at*
 generalize (l.a:Rat)=a at*
 generalize (l.b:Rat)=b at*
 have hn':b*b+ -a* -a≠0:=by grind
 grind
theorem ahv(l m:LnQ)(t:List LnQ)(v:IvQ):adb l (m::t) v=if m=l then adb l t v else if l.cutB v m then adb l t (l.cutV v m) else none:=rfl
def ah8(v:IvQ)(t:Rat):IvQ:=if v.nl=true∨0<aa2 t v.lo then⟨t,v.hi,false,v.nh⟩ else v
def ah6(v:IvQ)(t:Rat):IvQ:=if v.nh=true∨aa2 t v.hi<0 then⟨v.lo,t,v.nl,false⟩ else v
structure IvZ (v:IvQ):Prop where
 lo:v.nl=true→v.lo=0
 hi:v.nh=true→v.hi=0
theorem asq(a b:Rat):0<aa2 a b↔b<a:=by
 unfold aa2;split
 ·constructor
  ·intro h;exact absurd h (by decide)
  ·intro h;grind
 ·split
  ·exact⟨fun _=>by assumption,fun _=>by decide⟩
  ·constructor
   ·intro h;exact absurd h (by decide)
   ·intro h;exact absurd h (by assumption)
theorem ajW(a b:Rat):aa2 a b<0↔a<b:=by
 unfold aa2;split
 ·exact⟨fun _=>by assumption,fun _=>by decide⟩
 ·split
  ·constructor
   ·intro h;exact absurd h (by decide)
   ·intro h;grind
  ·constructor
   ·intro h;exact absurd h (by decide)
   ·intro h;exact absurd h (by assumption)
theorem akB{v:IvQ}(h:IvZ v)(t:Rat):ah8 v t=v.meet ⟨t,0,false,true⟩:=by
 obtain⟨lo,hi,nl,nh⟩:=v
 obtain⟨h1,h2⟩:=h
 unfold ah8 IvQ.meet
 simp only[asq] at*
 cases nl<;>cases nh<;>simp at* <;>(try (split<;>split<;>simp_all<;>grind))<;>grind
theorem akG{v:IvQ}(h:IvZ v)(t:Rat):ah6 v t=v.meet ⟨0,t,true,false⟩:=by
 obtain⟨lo,hi,nl,nh⟩:=v
 obtain⟨h1,h2⟩:=h
 unfold ah6 IvQ.meet
 simp only[ajW] at*
 cases nl<;>cases nh<;>simp at* <;>(try (split<;>split<;>simp_all<;>grind))<;>grind
theorem IvZ.all:IvZ IvQ.all:=⟨fun _=>rfl,fun _=>rfl⟩
theorem IvZ.lo'{v:IvQ}(h:IvZ v)(t:Rat):IvZ (ah8 v t):=by
 obtain⟨lo,hi,nl,nh⟩:=v
 unfold ah8;split
 ·exact⟨fun h=>by simp at h,h.hi⟩
 ·exact h
theorem IvZ.hi'{v:IvQ}(h:IvZ v)(t:Rat):IvZ (ah6 v t):=by
 obtain⟨lo,hi,nl,nh⟩:=v
 unfold ah6;split
 ·exact⟨h.lo,fun h=>by simp at h⟩
 ·exact h
theorem agT{l m:LnQ}{v:IvQ}(h:crossI l m=0):l.cutV v m=v∧(l.cutB v m=true↔0<m.value l.base):=by
 have hk:l.cutK m=0:=by rw[afN,h];rfl
 exact agw v hk
theorem azw{l m:LnQ}{v:IvQ}(hl:l.Ne)(hz:IvZ v)(h:0<m.dir.cross l.dir):crossI l m≠0∧l.cutV v m=ah8 v (acr l (ach l m))∧l.cutB v m=!(ah8 v (acr l (ach l m))).empty:=by
 rw[ap9] at h
 have hc:crossI l m≠0:=fun e=>by rw[afN,e] at h;exact absurd h (by decide)
 obtain⟨h1,h2⟩:=anw v h
 refine⟨hc,?_,?_⟩
 ·rw[akB hz,afI hl hc,h1]
 ·rw[akB hz,afI hl hc,←h1]
  rw[←agW] at h2
  cases hb:l.cutB v m<;>cases he:(l.cutV v m).empty<;>simp_all
theorem ayW{l m:LnQ}{v:IvQ}(hl:l.Ne)(hz:IvZ v)(h0:crossI l m≠0)(h: ¬0<m.dir.cross l.dir):l.cutV v m=ah6 v (acr l (ach l m))∧l.cutB v m=!(ah6 v (acr l (ach l m))).empty:=by
 rw[ap9] at h
 have hk:l.cutK m≠0:=fun e=>by
  rw[afN] at e
  have:((crossI l m:Int):Rat)=0:=by grind
  exact h0 (cZ.1 this)
 obtain⟨h1,h2⟩:=amq (l:=l) (m:=m) v (by grind)
 refine⟨?_,?_⟩
 ·rw[akG hz,afI hl h0,h1]
 ·rw[akG hz,afI hl h0,←h1]
  rw[←agW] at h2
  cases hb:l.cutB v m<;>cases he:(l.cutV v m).empty<;>simp_all
def relo(fl:Nat→Bool)(o:Own):Own:={o with lo:=fl o.b}
structure FnO (P:Program) (f:FuncId) (vs:List Value) (M:List Own) (G:Gh) (K:Value→List Own→Gh→Prop):Prop where
 able:adA P f
 run: ∀w,ace ⟨w,G,M.map (·.b)⟩ (asB M) G w→
  Calls P f ⟨vs⟩ w fun e w'=> ∃v own' G',e= .returned v∧ace ⟨w,G,M.map (·.b)⟩ own' G' w'∧K v own' G'
def flM(M:List Own)(b:Nat):Bool:=M.all fun m=>!Nat.beq m.b b||m.lo
theorem ace.calledO{C:Ctx}{M rest own':List Own}{G G':Gh}{w w':World}(h:ace C (M++rest) G w)(k:ace ⟨w,G,M.map (·.b)⟩ own' G' w'):
  ace C (own'.map (relo (flM M))++rest) G' w':=by
 have hsz:w.heap.size≤w'.heap.size:=k.size
 have hnd:=h.nd
 have inM: ∀b,b∈M.map (·.b)→ ∀o∈rest,o.b≠b:=fun b hb o ho e=>by
  obtain⟨m,hm,rfl⟩:=bU.1 hb
  exact(gU.1 hnd).2.2 m hm o ho e.symm
 have bnd: ∀o∈own',o.b∉M.map (·.b)→w.heap.size≤o.b:=fun o ho hb=>by
  obtain⟨_,_,h3,h4⟩:=k.hown o ho
  cases hlo:o.lo with
  |true=>exact h3 hlo
  |false=>exact absurd (h4 hlo) hb
 refine⟨k.os.trans h.os,k.tape.trans h.tape,k.output.trans h.output,cW h.size hsz,?_,k.sub,h.gle.trans k.gle,?_,?_,?_,cW h.dr k.dr⟩
 ·intro b hb hm
  have hs:=h.size
  have hnM:b∉M.map (·.b):=fun hb'=>by
   obtain⟨m,hmM,rfl⟩:=bU.1 hb'
   obtain⟨_,_,h3,h4⟩:=h.hown m (bL _ hmM)
   cases hlo:m.lo with
   |true=>have:=h3 hlo;omega
   |false=>exact hm (h4 hlo)
  rw[k.keep b (by show b<w.heap.size;omega) hnM];exact h.keep b hb hm
 ·intro b hb;have:=h.size;rw[k.gold b (by show b<w.heap.size;omega)];exact h.gold b hb
 ·intro o ho
  have hs:=h.size
  rcases bK.1 ho with ho|ho
  ·obtain⟨o',ho',rfl⟩:=bU.1 ho
   obtain⟨k1,k2,k3,k4⟩:=k.hown _ ho'
   refine⟨k1,k2,fun hl=>?_,fun hl=>?_⟩
   ·show C.w0.heap.size≤o'.b
    by_cases hb:o'.b∈M.map (·.b)
    ·obtain⟨m,hm,hmb⟩:=bU.1 hb
     have hl':flM M o'.b=true:=hl
     have:=fU.1 hl' m hm
     simp only[hmb,gN,gX,mS] at this
     obtain⟨_,_,h3,_⟩:=h.hown m (bL _ hm)
     rw[←hmb]
     exact h3 (by rcases this with h|h;(cases h);(exact h))
    ·have:=bnd o' ho' hb;omega
   ·show o'.b∈C.mb
    have hl':flM M o'.b=false:=hl
    obtain⟨m,hm,hmb⟩:=List.all_eq_false.1 hl'
    simp only[gN,gX,not_or] at hmb
    obtain⟨h1,h2⟩:=hmb
    have e:m.b=o'.b:=by
     cases hq:Nat.beq m.b o'.b with
     |true=>exact aR hq
     |false=>exact absurd hq h1
    obtain⟨_,_,_,h4⟩:=h.hown m (bL _ hm)
    rw[←e]
    exact h4 (by cases hq:m.lo with
     |true=>exact absurd hq h2
     |false=>rfl)
  ·obtain⟨h1,h2,h3⟩:=h.hown o (bY _ ho)
   have hnM:o.b∉M.map (·.b):=fun hb=>inM _ hb o ho rfl
   exact⟨by rw[k.keep _ (acU h1) hnM];exact h1,by rw[k.gold _ (acU h1)];exact h2,h3⟩
 ·refine gU.2 ⟨?_,(gU.1 hnd).2.1,?_⟩
  ·rw[qV];exact k.nd
  ·intro x hx y hy
   obtain⟨o',ho',rfl⟩:=bU.1 hx
   show o'.b≠y.b
   by_cases hb:o'.b∈M.map (·.b)
   ·exact fun e=>inM _ hb y hy e.symm
   ·have h1:=bnd o' ho' hb
    have h2:=acU (h.hown y (bY _ hy)).1
    omega
def agc(C:Ctx)(K:Value→List Own→Gh→Prop):Ending→World→Prop:=fun e w'=> ∃v own' G',e= .returned v∧ace C own' G' w'∧K v own' G'
theorem FnO.intro{P:Program}{G:Gh}{f:FuncId}{fn:Func}{c:Code}{vs:List Value}{m:Nat}{M:List Own}{K:Value→List Own→Gh→Prop}(hf:P.funcs[f]? =some fn)(hb:fn.body=some c)(hn:(fn.name== "runtime.NumGoroutine")=false)(hm:fn.ntmps=m)(hlen:Nat.ble vs.length m=true)
  (h: ∀C:Ctx,C.G0=G→C.mb=M.map (·.b)→St C m (ajE 0 vs) (asB M) G (c.wp P (bodyPost P fn (agc C K)))):FnO P f vs M G K:=by
 refine⟨⟨fn,hf,hn,by simp[hb]⟩,fun w hw=>?_⟩
 have hlen':vs.length≤m:=by simpa using hlen
 have:=calls_of_wp (P:=P) (f:=f) (args:=⟨vs⟩) (w:=w) (R:=agc ⟨w,G,M.map (·.b)⟩ K) hf hb (h ⟨w,G,M.map (·.b)⟩ J J _ w
  ⟨hw,by simp;omega,fun k v hk=>by
   obtain⟨j,rfl,hj⟩:=aeu vs 0 k v hk
   have hj':=(aL.1 hj).1
   rw[lM (by simpa using hj')]
   simpa using hj,rfl⟩)
 exact this
section
variable {P:Program} {C:Ctx} {n:Nat} {fr:Fr} {own own':List Own} {G:Gh} {Φ:Act→World→Prop}
variable {dst:Option Nat} {t t' ty':TypeId} {pos:String} {af:Array Edge} {gd:Option (Nat×Bool)} {x y:Operand}
theorem aiq{fn:Func}{K:Value→List Own→Gh→Prop}{vs:List Value}(hr:RVs P fr own fn.results.toList vs)(own2 own3:List Own)(hp:own.Perm own2)(hs:own3.Sublist own2)(hk:K (abT vs) own3 G):St C n fr own G (bodyPost P fn (agc C K) .ret):=
 fun a w rl=>⟨rl.df,_,acX hr rl.fr rl.h,_,own3,G,rfl,(rl.h.perm hp).drop hs,hk⟩
theorem am6{f:FuncId}{fo:Operand}{args:Array Operand}{tys:Array TypeId}{vs c1 c2:List Value}{M rest:List Own}{K:Value→List Own→Gh→Prop}(ho:opv fr fo=some (.func (.func f) ⟨c1⟩ ⟨c2⟩))(hv:af6 fr args.toList=some vs)
  (hp:own.Perm (M++rest))(hF:FnO P f (c1++vs++c2) M G K)(hd:aaQ n dst=true)(h: ∀v own1 (G':Gh),[GE G G']→K v own1 G'→St C n (put fr dst v) (own1.map (relo (flM M))++rest) G' Φ):
  Ch P C n fr own G ⟨dst, .call ⟨.value fo,args,tys⟩,ty',pos,af,gd⟩ Φ:=by
 intro a w Q rl
 have h2:=aix (P:=P) (dst:=dst) (ty':=ty') (pos:=pos) (af:=af) (gd:=gd) (tys:=tys) (w:=w) hF.able rl.fr ho hv
 simp only[Oper.wp,h2,Oper.upon]
 have hh0:=rl.h.perm hp
 refine(hF.run w hh0.lend).mono ?_
 rintro e w' ⟨v,own1,G',rfl,hh,hK⟩
 exact @h v own1 G' ⟨hh.gle⟩ hK _ _ ((rl.heap (hh0.calledO hh)).put _ hd)
theorem aec{f:FuncId}{fo:Operand}{args:Array Operand}{tys:Array TypeId}{vs:List Value}{M rest:List Own}{K:Value→List Own→Gh→Prop}(ho:opv fr fo=some (.func (.func f) #[] #[]))(hv:af6 fr args.toList=some vs)
  (hp:own.Perm (M++rest))(hF:FnO P f vs M G K)(hd:aaQ n dst=true)(h: ∀v own1 (G':Gh),[GE G G']→K v own1 G'→St C n (put fr dst v) (own1.map (relo (flM M))++rest) G' Φ):
  Ch P C n fr own G ⟨dst, .call ⟨.value fo,args,tys⟩,ty',pos,af,gd⟩ Φ:=
 am6 (c1:=[]) (c2:=[]) ho hv hp (by simpa using hF) hd h
end
section
variable {P:Program} {C:Ctx} {n:Nat} {fr:Fr} {own own' own1:List Own} {G:Gh} {Φ:Act→World→Prop}
variable {dst:Option Nat} {t t' ty':TypeId} {pos:String} {af:Array Edge} {gd:Option (Nat×Bool)} {x y:Operand} {e s by_:Nat}
theorem agM{v:Value}{b off k:Nat}{cs cs':List Value}{ty:TypeId}{lo:Bool}(hx:opv fr x=some (.pointer (some ⟨b,off,none⟩)))(hy:opv fr y=some v)[hs:TyA P t k][ho:OAt own b cs ty lo]
  (hc:ovw cs off (aae v)=cs')(hu:agm own b cs ty lo cs' own')(hk:(aae v).length=k)(hl:off+k≤cs.length)(hf:(aae v).all flat=true)(hd:aaQ n dst=true)(h:St C n (put fr dst undef) own' G Φ):
  Ch P C n fr own G ⟨dst, .store t x y,ty',pos,af,gd⟩ Φ:=ak3 hx hy (hc▸hu) hk hl hf hd h
theorem acE{v:Value}{b off:Nat}{cs cs':List Value}{ty:TypeId}{lo:Bool}(hx:opv fr x=some (.pointer (some ⟨b,off,none⟩)))(hy:opv fr y=some v)[hs:TyS P t][ho:OAt own b cs ty lo]
  (hc:cs.set off v=cs')(hu:agm own b cs ty lo cs' own')(hl:off<cs.length)(hf:flat v=true)(hd:aaQ n dst=true)(h:St C n (put fr dst undef) own' G Φ):
  Ch P C n fr own G ⟨dst, .store t x y,ty',pos,af,gd⟩ Φ:=adR hx hy (hc▸hu) hl hf hd h
theorem aA4[hT:acH P t e s by_]{ad:Option Addr}{len cap:Nat}(hx:opv fr x=some (.slice ad len cap)):
  Yd P C fr own G ⟨dst, .call ⟨.builtin .cap, #[x], #[t]⟩,ty',pos,af,gd⟩ (.int .i64 cap):=by
 intro a w hf hh
 simp only[execOp,resolve,fR,bM,gW,aad hf hx]
 have h1:(Builtin.cap_ #[t] ty' #[.slice ad len cap]).run P w= .ok (.int .i64 cap) w:=by
  simp only[Builtin.cap_]
  show(underlying t>>=_).run P w=_
  rw[aaa (hT.u w)]
  rfl
 exact aam h1
theorem aw7{w:World}[hT:acH P t e s by_]{b off l c l2 c2 m:Nat}{ad2:Option Addr}{cs ys:List Value}{ty:TypeId}(hm:Nat.min l2 l=m)
  (hb:w.heap[b]? =some (.cells ⟨cs⟩ ty (0,0)))(hsy:(Builtin.firstCells s m (.slice ad2 l2 c2)).run P w= .ok ⟨ys⟩ w)(hf: ∀v∈ys,flat v=true)(hl:off+ys.length≤cs.length):
  (Builtin.copy_ #[t,t'] ty' #[.slice (some ⟨b,off,none⟩) l c, .slice ad2 l2 c2]).run P w=
   .ok (.int .i64 m) (abA w b (.cells ⟨ovw cs off ys⟩ ty (0,0))):=by
 obtain⟨i,hi,his,hib⟩:=hT.info
 subst his
 have hst:=abV (P:=P) ys w off 0 cs hf hb (by omega)
 rw[dY] at hst
 subst hm
 simp[Builtin.copy_,run_underlying hT.un,sizeOf,typeInfo,hi,Builtin.lenOf,hsy,hst]
 rfl
theorem ast[hT:acH P t e s by_]{b off l c l2 c2 m:Nat}{ad2:Option Addr}{cs ys:List Value}{ty:TypeId}{lo:Bool}(hx:opv fr x=some (.slice (some ⟨b,off,none⟩) l c))(hy:opv fr y=some (.slice ad2 l2 c2))
  (hm:Nat.min l2 l=m)(hsy:Src P C own G s m (.slice ad2 l2 c2) ys)(hf: ∀v∈ys,flat v=true)(hl:off+ys.length≤cs.length)(hu:agm own b cs ty lo (ovw cs off ys) own')(hd:aaQ n dst=true)
  (h:St C n (put fr dst (.int .i64 m)) own' G Φ):Ch P C n fr own G ⟨dst, .call ⟨.builtin .copy, #[x,y], #[t,t']⟩,ty',pos,af,gd⟩ Φ:=by
 intro a w Q rl
 have hb:=(rl.h.hown _ (hu.spec rl.h.nd).1).1
 refine abb (v:= .int .i64 m) (w':=abA w b (.cells ⟨ovw cs off ys⟩ ty (0,0))) ?_ (h _ _ ((rl.heap (rl.h.store hu)).put _ hd))
 simp only[execOp,resolve,fR,bM,gW,aad rl.fr hx,aad rl.fr hy]
 exact aam (aw7 hm hb (hsy w rl.h) hf hl)
theorem af9[hT:acH P t e s by_][hN:TyN P t']{b len cap m cap2:Nat}{ad2:Option Addr}{cs ys:List Value}{lo:Bool}
  (hx:opv fr x=some (.slice (some ⟨b,0,none⟩) len cap))(hy:opv fr y=some (.slice ad2 m cap2))(hu:agm own b cs e lo (ovw cs (len*s) ys) own')(hcs:cs.length=cap*s)
  (hsy:Src P C own G s m (.slice ad2 m cap2) ys)(hys:ys.length=m*s)(hf: ∀v∈ys,flat v=true)(hneed:len+m≤cap)(hd:aaQ n dst=true)
  (h:St C n (put fr dst (.slice (some ⟨b,0,none⟩) (len+m) cap)) own' G Φ):
  Ch P C n fr own G ⟨dst, .call ⟨.builtin .append, #[x,y], #[t,t']⟩,ty',pos,af,gd⟩ Φ:=by
 intro a w Q rl
 have hb:=(rl.h.hown _ (hu.spec rl.h.nd).1).1
 refine abb (v:= .slice (some ⟨b,0,none⟩) (len+m) cap) (w':=abA w b (.cells ⟨ovw cs (len*s) ys⟩ e (0,0))) ?_ (h _ _ ((rl.heap (rl.h.store hu)).put _ hd))
 simp only[execOp,resolve,fR,bM,gW,aad rl.fr hx,aad rl.fr hy]
 exact aam (adU hb hcs (hsy w rl.h) hys hf hneed)
theorem agr[hT:acH P t e s by_][hN:TyN P t']{z:Value}[hz:TyZ P e z]{b len cap m cap2:Nat}{ad2:Option Addr}{xs ys rest:List Value}{lo:Bool}
  (hx:opv fr x=some (.slice (some ⟨b,0,none⟩) len cap))(hy:opv fr y=some (.slice ad2 m cap2))(hr:alI own ⟨b,xs++rest,e,lo⟩ own1)(hxs:xs.length=len*s)(hcap:xs.length+rest.length=cap*s)(hlc:len≤cap)
  (hsy:Src P C own G s m (.slice ad2 m cap2) ys)(hys:ys.length=m*s)(hf: ∀v∈ys,flat v=true)
  (hby:0<by_)(hb:(len+m)*by_≤140737488355328)(hzs:(aae z).length=s)(hd:aaQ n dst=true)
  (h: ∀b lo' cap' rest',len+m≤cap'→rest'.length+(len+m)*s=cap'*s→St C n (put fr dst (.slice (some ⟨b,0,none⟩) (len+m) cap')) (⟨b,xs++ys++rest',e,lo'⟩::own1) G Φ):
  Ch P C n fr own G ⟨dst, .call ⟨.builtin .append, #[x,y], #[t,t']⟩,ty',pos,af,gd⟩ Φ:=by
 intro a w Q rl
 have hp:=rl.h.perm hr.perm
 have hblk:=(hp.hown _ aQ).1
 simp only[] at hblk
 by_cases hneed:len+m≤cap
 ·have hcs:(xs++rest).length=cap*s:=by simp;omega
  have hrun:=adU (P:=P) (t:=t) (t':=t') (ty':=ty') (w:=w) (len:=len) hblk hcs (hsy w rl.h) hys hf hneed
  have hle:len*s+m*s≤cap*s:=by rw[←cY];exact bT _ hneed
  have hov:ovw (xs++rest) (len*s) ys=xs++ys++rest.drop (m*s):=by
   rw[act _ _ _ (by rw[hys];omega),←hxs]
   simp[hys,lU]
  refine abb (v:= .slice (some ⟨b,0,none⟩) (len+m) cap) (w':=abA w b (.cells ⟨ovw (xs++rest) (len*s) ys⟩ e (0,0))) ?_ ?_
  ·simp only[execOp,resolve,fR,bM,gW,aad rl.fr hx,aad rl.fr hy]
   exact aam hrun
  ·rw[hov]
   refine h b lo cap (rest.drop (m*s)) hneed ?_ _ _ ((rl.heap (hp.store (.hd ..))).put _ hd)
   rw[gJ,cY]
   omega
 ·have hx':Src P C own G s len (.slice (some ⟨b,0,none⟩) len cap) xs:=fun w' hw'=>by
   have hb':=(((hw'.perm hr.perm).hown _ aQ).1)
   refine ady hb' ?_
   rw[abM _ _ _ (by simp;omega),←hxs]
   simp
  have hcap':len+m≤grownCap w (len+m) cap e:=by unfold grownCap;simp only[Question.cut];omega
  have hrun:=adP (P:=P) (t:=t) (t':=t') (ty':=ty') (w:=w) (w':=w) (hx' _ rl.h.drew) (hsy _ rl.h.drew) (by omega) hby hb
  refine abb (v:= .slice (some ⟨w.heap.size,0,none⟩) (len+m) (grownCap w (len+m) cap e)) (w':=w.drew.alloc (.cells ⟨xs++ys++aa7 z (grownCap w (len+m) cap e-(len+m))⟩ e)) ?_ ?_
  ·simp only[execOp,resolve,fR,bM,gW,aad rl.fr hx,aad rl.fr hy]
   exact aam hrun
  ·refine h w.heap.size _ _ _ hcap' ?_ _ _ ((rl.heap (((hp.drew).drop (nS _ _)).alloc _ _)).put _ hd)
   rw[abG,hzs,←cY]
   congr 1
   omega
theorem aof{f:FuncId}{fn:Func}{tS tR:TypeId}(hf:P.funcs[f]? =some fn)(hname:(fn.name== "runtime.NumGoroutine")=false)(hb:fn.body.isNone=true)(hn:Extern.findNext fn=none)
  (he:Extern.find fn=some (Extern.SlicesOverlaps.overlaps #[tS,tS] #[tR]))[hT:acH P tS e s by_]{args:Array Operand}{tys:Array TypeId}{fo:Operand}
  {b1 b2 o1 o2 l1 l2 c1 c2:Nat}{cs1 cs2:List Value}{t1 t2:TypeId}{lo1 lo2:Bool}(ho:opv fr fo=some (.func (.func f) #[] #[]))
  (hv:af6 fr args.toList=some [.slice (some ⟨b1,o1,none⟩) l1 c1, .slice (some ⟨b2,o2,none⟩) l2 c2])[h1:OAt own b1 cs1 t1 lo1][h2:OAt own b2 cs2 t2 lo2](hne:b1≠b2)(hc2:cs2≠[]):
  Yd P C fr own G ⟨dst, .call ⟨.value fo,args,tys⟩,ty',pos,af,gd⟩ (.bool false):=by
 intro a w hfr hh
 have e1:=(hh.hown _ h1.mem).1
 have e2:=(hh.hown _ h2.mem).1
 have ev:args.map a.eval=⟨[.slice (some ⟨b1,o1,none⟩) l1 c1, .slice (some ⟨b2,o2,none⟩) l2 c2]⟩:=by apply Array.ext';simpa using aiZ hfr hv
 simp only[] at e1 e2
 have hrun:=Lib.run_overlaps_apart (P:=P) w tS tR e hT.un s hT.siz ⟨b1,o1,none⟩ ⟨b2,o2,none⟩ l1 c1 l2 c2 hne t1 t2 cs1.length cs2.length
  (by simp[World.shape?,e1]) (by simp[World.shape?,e2]) (by simpa using hc2) (by simp[World.frozen?,e1]) (by simp[World.frozen?,e1])
 simp only[execOp,resolve,aad hfr ho,ev,Deferred.ofValue]
 show(invoke (.fn (.func f) #[]) _).run P w=_
 simp only[invoke]
 have h3:=run_callFunc_extern (P:=P) hf hname hb hn he
 rw[h3]
 simp[hrun,Result.andThen]
end
instance alX.cons2 (l m:List Own) (o:Own) [h:alX l m]:alX (o::l) (o::m):=⟨h.s.cons_cons o⟩
theorem dr0{P:Program}{C:Ctx}{n:Nat}{fr:Fr}{own own0:List Own}{G:Gh}{ops:Array Oper}{Q:Exit→Act→World→Prop}{b:Nat}{cs:List Value}{ty:TypeId}{lo:Bool}(fin:Nat→Bool)(π:List (Nat×Bool)){id:Nat}(hm:P.follows .mixedOrders=true)(_hr:alI own ⟨b,cs,ty,lo⟩ own0)(ho:(adN ops fin π (Array.replicate ops.size false)&&Nat.ble π.length ops.size)=true)
  (h:St C n fr own G (dwL P ops (acy Q) (HS C own0 G) fin π)):St C n fr own G ((Code.region id ops true).wp P Q):=by
 simp only[cJ] at ho
 intro a w rl
 exact wp_mono (wp_region_any hm (afO _ _ _ _ (ab8 (fun _ _ _ _ _ h=>h) π _ a _ ho.1 (h a _ (rl.heap rl.h.drew)) _ (by simpa using ho.2)))) acy.imp
/-! ### rows of values of several cells -/
def aah(vs:List Value):List Value:=(vs.map aae).flatten
theorem aap{s:Nat}: ∀(vs:List Value),(∀v∈vs,(aae v).length=s)→(aah vs).length=vs.length*s
 |[],_=>by simp[aah]
 |v::vs,h=>by
  have h1:=aap vs (fun u hu=>h u (aX _ hu))
  have h2:=h v aQ
  unfold aah at*
  simp only[bM,kK,aV,bV,h1,h2,iV]
  omega
theorem ab7(us vs:List Value):aah (us++vs)=aah us++aah vs:=by simp[aah]
theorem aiV(v:Value):aah [v]=aae v:=by simp[aah]
theorem afV{s:Nat}: ∀(vs:List Value) (i:Nat),(∀v∈vs,(aae v).length=s)→i≤vs.length→(aah vs).take (i*s)=aah (vs.take i)
 |vs,0,_,_=>by simp[aah]
 |[],i+1,_,h=>by simp at h
 |v::vs,i+1,h,hi=>by
  have h1:=afV vs i (fun u hu=>h u (aX _ hu)) (by simpa using hi)
  have h2:=h v aQ
  unfold aah at*
  simp only[bM,kK,nQ]
  rw[List.take_append,h2,aT (by rw[h2,iV];omega),iV,kQ,h1]
theorem afF{s:Nat}: ∀(vs:List Value) (i:Nat),(∀v∈vs,(aae v).length=s)→i≤vs.length→(aah vs).drop (i*s)=aah (vs.drop i)
 |vs,0,_,_=>by simp
 |[],i+1,_,h=>by simp at h
 |v::vs,i+1,h,hi=>by
  have h1:=afF vs i (fun u hu=>h u (aX _ hu)) (by simpa using hi)
  have h2:=h v aQ
  unfold aah at*
  simp only[bM,kK,rM]
  rw[lU,h2,jK (by rw[h2,iV];omega),iV,kQ,h1,jS]
theorem ahi{s:Nat}{vs rest:List Value}(h: ∀v∈vs,(aae v).length=s){i:Nat}(hi:i<vs.length):aa1 (aah vs++rest) (i*s) s=some (aae vs[i]):=by
 have hl:=aap vs h
 have hle:i*s+s≤vs.length*s:=by rw[←iV];exact bT _ hi
 rw[abM _ _ _ (by simp only[aV];omega)]
 congr 1
 rw[iS (by omega),afF vs i h (by omega),aS hi]
 have h2:=h vs[i] (cK hi)
 rw[show(vs[i]::vs.drop (i+1))=[vs[i]]++vs.drop (i+1) from rfl,ab7,aiV,fQ,dW (by omega),aT (by omega)]
theorem afw.of_flat{G:Gh}{b c s:Nat}{vs rest:List Value}(h: ∀v∈vs,(aae v).length=s)(hg:G b=some (aah vs++rest))(hc:vs.length≤c):afw G s ⟨some ⟨b,0,none⟩,vs.length,c⟩ vs:=
 ⟨rfl,hc, .inr ⟨b,0,_,rfl,hg,fun i hi=>by rw[dT];exact ahi h hi⟩⟩
section
variable {P:Program} {C:Ctx} {n:Nat} {fr:Fr} {own own':List Own} {G:Gh} {Φ:Act→World→Prop}
variable {dst:Option Nat} {ty':TypeId} {pos:String} {af:Array Edge} {gd:Option (Nat×Bool)} {x y:Operand} {tys:Array TypeId}
theorem drS{ops:Array Oper}{Q:Exit→Act→World→Prop}(own0:List Own)(fin:Nat→Bool)(π:List (Nat×Bool)){id:Nat}(hm:P.follows .mixedOrders=true)(ho:(adN ops fin π (Array.replicate ops.size false)&&Nat.ble π.length ops.size)=true)
  (h:St C n fr own G (dwL P ops (acy Q) (HS C own0 G) fin π)):St C n fr own G ((Code.region id ops true).wp P Q):=by
 simp only[cJ] at ho
 intro a w rl
 exact wp_mono (wp_region_any hm (afO _ _ _ _ (ab8 (fun _ _ _ _ _ h=>h) π _ a _ ho.1 (h a _ (rl.heap rl.h.drew)) _ (by simpa using ho.2)))) acy.imp
end
section
variable {P:Program} {ops:Array Oper} {Q:Exit→Act→World→Prop} {S:World→Prop} {fin:Nat→Bool} {π₂:List (Nat×Bool)}
def without(l:List Nat)(k:Nat):List Nat:=l.filter fun j=>!Nat.beq j k
theorem ahq{l:List Nat}{k:Nat}(h:k∈l):(without l k).length<l.length:=by
 unfold without
 rw[oV]
 exact⟨k,h,by simp⟩
def ag8(ops:Array Oper)(fin:Nat→Bool)(π₂:List (Nat×Bool)):Nat→List Nat→List (Nat×Bool)→Array Bool→Bool
 |0,_,_,_=>false
 |_+1,[],[],listed=>adN ops fin π₂ listed
 |n+1,k::ks,[],listed=>!(Region.ready .any ops listed).isEmpty&&(Region.ready .any ops listed).all (fun j=>(k::ks).contains j)&&(k::ks).all fun j=>ag8 ops fin π₂ n (without (k::ks) j) [] (listed.setIfInBounds j true)
 |n+1,ks,(i,true)::r,listed=>akx ops fin listed i&&ag8 ops fin π₂ n ks r (listed.setIfInBounds i true)
 |n+1,ks,(i,false)::r,listed=>!(Region.ready .any ops listed).isEmpty&&(Region.ready .any ops listed).all (fun j=>Nat.beq j i||ks.contains j)&&ag8 ops fin π₂ n ks r (listed.setIfInBounds i true)&&ks.all fun j=>ag8 ops fin π₂ n (without ks j) ((i,false)::r) (listed.setIfInBounds j true)
def dwG(P:Program)(ops:Array Oper)(Q:Exit→Act→World→Prop)(S:World→Prop)(fin:Nat→Bool)(π₂:List (Nat×Bool)):List Nat→List (Nat×Bool)→Act→World→Prop
 |[],[],a,w=>dwL P ops Q S fin π₂ a w
 |k::ks,[],a,w=> ∀j,(h:j∈k::ks)→wpOp P ops Q j (fun a' w'=>(fin j=true∨S w')∧dwG P ops Q S fin π₂ (without (k::ks) j) [] a' w') a w
 |ks,(i,true)::r,a,w=> ∃o v,ops[i]? =some o∧S w∧YieldsIf P ops S o v a∧dwG P ops Q S fin π₂ ks r (a.put o.dst v) w
 |ks,(i,false)::r,a,w=>wpOp P ops Q i (fun a' w'=>(fin i=true∨S w')∧dwG P ops Q S fin π₂ ks r a' w') a w∧
   ∀j,(h:j∈ks)→wpOp P ops Q j (fun a' w'=>(fin j=true∨S w')∧dwG P ops Q S fin π₂ (without ks j) ((i,false)::r) a' w') a w
termination_by ks π=>ks.length+π.length
decreasing_by
 all_goals (first|(have:=ahq h;simp only[bV,dV] at*;omega)|(simp only[bV];omega))
end
structure FD where
 k:Nat
 d:Nat
 t:TypeId
 z:Value
abbrev Fs:=Nat→Option Nat
def fFs:List FD→Fs→Fr
 |[],_=>[]
 |f::r,fs=>fF f.d (fs f.k)++fFs r fs
def fOs:List FD→Fs→List Own
 |[],_=>[]
 |f::r,fs=>fO f.t f.z (fs f.k)++fOs r fs
def aEC(fd:List FD)(fs:Fs):List Nat:=(fd.filter fun f=>(fs f.k).isNone).map (·.k)
def aGG(fs:Fs)(k b:Nat):Fs:=fun j=>if j=k then some b else fs j
structure aGC (P:Program) (ops:Array Oper) (n:Nat) (fd:List FD):Prop where
 op: ∀f∈fd,∃ty' pos af,ops[f.k]? =some ⟨some f.d, .alloc f.t,ty',pos,af,none⟩∧aaQ n (some f.d)=true
 z: ∀f∈fd,TyZ P f.t f.z
 nd:(fd.map (·.k)).Nodup
 dd: ∀f∈fd,∀g∈fd,f.d=g.d→f.k=g.k
section
variable {P:Program} {C:Ctx} {n:Nat} {fr:Fr} {own own0:List Own} {G G0:Gh} {ops:Array Oper} {Q:Exit→Act→World→Prop} {fin:Nat→Bool} {π π₂:List (Nat×Bool)} {fd:List FD}
def dwH(P:Program)(ops:Array Oper)(Q:Exit→Act→World→Prop)(S:World→Prop)(fin:Nat→Bool)(π₂:List (Nat×Bool))(fd:List FD)(fs:Fs)(π:List (Nat×Bool)):Act→World→Prop:=dwG P ops Q S fin π₂ (aEC fd fs) π
end
def Buf(s:Nat)(ty:TypeId)(x:SV)(vs:List Value)(B:List Own):Prop:=
 (vs=[]∧x=⟨none,0,0⟩∧B=[])∨
 ∃b rest lo,x=⟨some ⟨b,0,none⟩,vs.length,x.c⟩∧B=[⟨b,aah vs++rest,ty,lo⟩]∧(aah vs).length=vs.length*s∧(aah vs).length+rest.length=x.c*s∧vs.length≤x.c
theorem Buf.nil(s:Nat)(ty:TypeId):Buf s ty ⟨none,0,0⟩ [] []:= .inl ⟨rfl,rfl,rfl⟩
theorem Buf.relo{s:Nat}{ty:TypeId}{x:SV}{vs:List Value}{B:List Own}(h:Buf s ty x vs B)(fl:Nat→Bool):Buf s ty x vs (B.map (Go.Sx.relo fl)):=by
 rcases h with⟨h1,h2,h3⟩|⟨b,rest,lo,h1,h2,h3,h4,h5⟩
 ·exact .inl ⟨h1,h2,by rw[h3];rfl⟩
 ·exact .inr ⟨b,rest,fl b,h1,by rw[h2];rfl,h3,h4,h5⟩
theorem Buf.asB{s:Nat}{ty:TypeId}{x:SV}{vs:List Value}{B:List Own}(h:Buf s ty x vs B):Buf s ty x vs (asB B):=by
 rcases h with⟨h1,h2,h3⟩|⟨b,rest,lo,h1,h2,h3,h4,h5⟩
 ·exact .inl ⟨h1,h2,by rw[h3];rfl⟩
 ·exact .inr ⟨b,rest,false,h1,by rw[h2];rfl,h3,h4,h5⟩
theorem Buf.len{s:Nat}{ty:TypeId}{x:SV}{vs:List Value}{B:List Own}(h:Buf s ty x vs B):x.n=vs.length:=by
 rcases h with⟨h1,h2,h3⟩|⟨b,rest,lo,h1,h2,h3,h4,h5⟩
 ·rw[h2,h1];rfl
 ·rw[h1]
theorem arT{M:List Own}{m:Own}(h:m∈M)(hl:m.lo=false):flM M m.b=false:=by
 refine List.all_eq_false.2 ⟨m,h,?_⟩
 simp[hl]
theorem ag4{M:List Own}(b:Nat)(h: ∀m∈M,m.lo=true):flM M b=true:=by
 refine fU.2 fun m hm=>?_
 simp[h m hm]
section
variable {P:Program} {C:Ctx} {n:Nat} {fr:Fr} {own own':List Own} {G:Gh} {Φ:Act→World→Prop}
variable {dst:Option Nat} {t t' ty':TypeId} {pos:String} {af:Array Edge} {gd:Option (Nat×Bool)} {x y:Operand} {e s by_:Nat}
end
instance alX.nil (l:List Own):alX [] l:=⟨kL l⟩
theorem ak0{P:Program}{C:Ctx}{n:Nat}{fr:Fr}{own:List Own}{G:Gh}{Φ:Act→World→Prop}{dst:Option Nat}{ty':TypeId}{pos:String}{af:Array Edge}{gd:Option (Nat×Bool)}{f:FuncId}{fo:Operand}{args:Array Operand}{tys:Array TypeId}{vs c1 c2:List Value}{M rest:List Own}{K:Value→List Own→Gh→Prop}(ho:opv fr fo=some (.func (.func f) ⟨c1⟩ ⟨c2⟩))(hv:af6 fr args.toList=some vs)
  (hp:own.Perm (M++rest))(hF:FnO P f (c1++vs++c2) M G K)(hd:aaQ n dst=true)
  (h: ∀v own1 (G':Gh) (fl:Nat→Bool),[GE G G']→(∀m∈M,m.lo=false→fl m.b=false)→((∀m∈M,m.lo=true)→ ∀b,fl b=true)→K v own1 G'→St C n (put fr dst v) (own1.map (relo fl)++rest) G' Φ):
  Ch P C n fr own G ⟨dst, .call ⟨.value fo,args,tys⟩,ty',pos,af,gd⟩ Φ:=
 am6 ho hv hp hF hd (fun v own1 G' _ hK=>h v own1 G' (flM M) (fun _ hm hl=>arT hm hl) (fun hl b=>ag4 b hl) hK)
end Go.Sx
end
