/- Part 5 of a proof. -/
import Derived.Test.YtopfgminkdfpkaaGreatDoorMx4
import Derived.Laws.Externs
import Derived.Lib.Overlaps
set_option linter.unusedSimpArgs false
set_option maxRecDepth 100000
set_option linter.unusedVariables false
section
namespace Go.Sx
open Go
/-! ### values -/
theorem adO(l:LnQ)(p:PtQ):l.value p=(l.a:Rat)*p.x+(l.b:Rat)*p.y+(l.c:Rat):=rfl
theorem aaY(l:LnQ)(p:PtQ):l.rev.value p= -l.value p:=by
 rw[adO,adO]
 have h1:((l.rev.a:Int):Rat)= -(l.a:Rat):=(agh l.a).symm
 have h2:((l.rev.b:Int):Rat)= -(l.b:Rat):=(agh l.b).symm
 have h3:((l.rev.c:Int):Rat)= -(l.c:Rat):=(agh l.c).symm
 rw[h1,h2,h3];grind
def ara(q p:PtQ)(e:Rat):PtQ:=⟨q.x+e*(p.x-q.x),q.y+e*(p.y-q.y)⟩
theorem ac1(l:LnQ)(q p:PtQ)(e:Rat):l.value (ara q p e)=l.value q+e*(l.value p-l.value q):=by
 simp only[adO,ara];grind
def aeF(q u:PtQ)(e:Rat):PtQ:=⟨q.x+e*u.x,q.y+e*u.y⟩
theorem aci(l:LnQ)(q u:PtQ)(e:Rat):l.value (aeF q u e)=l.value q+e*l.nor.dot u:=by
 simp only[adO,aeF,LnQ.nor,PtQ.dot];grind
theorem aad{a b:Rat}(ha:0<a)(hb:0<b):0<a*b:=Rat.mul_pos ha hb
theorem aal{a b:Rat}(ha:0≤a)(hb:0≤b):0≤a*b:=nY ha hb
theorem abq(a:Rat):0≤a*a:=by
 by_cases h:0≤a
 ·exact aal h h
 ·have:=aal (a:= -a) (b:= -a) (by grind) (by grind)
  grind
theorem aaD{s k:Rat}(hk:0<k):0<s*k↔0<s:=by
 constructor
 ·intro h
  by_cases hs:0<s
  ·exact hs
  ·have:=aal (a:= -s) (b:=k) (by grind) (by grind)
   grind
 ·intro h;exact aad h hk
theorem aat{s k:Rat}(hk:0<k):0≤s*k↔0≤s:=by
 constructor
 ·intro h
  by_cases hs:0≤s
  ·exact hs
  ·have:=aad (a:= -s) (b:=k) (by grind) hk
   grind
 ·intro h;exact aal h (by grind)
theorem ajz{A B u v:Rat}(h0:0≤A)(h1:0≤A+v*B)(hu:0≤u)(huv:u≤v):0≤A+u*B:=by
 by_cases hB:0≤B
 ·have:=aal hu hB;grind
 ·have:=aal (a:=v-u) (b:= -B) (by grind) (by grind)
  grind
def LnQ.Ne(l:LnQ):Prop:= ¬(l.a=0∧l.b=0)
theorem LnQ.ok.ne{l:LnQ}(h:l.ok):l.Ne:=h.1
theorem ahP{l:LnQ}(h:l.Ne):0<l.nor.dot l.nor:=by
 show 0<(l.a:Rat)*l.a+(l.b:Rat)*l.b
 have h1:=abq (l.a:Rat)
 have h2:=abq (l.b:Rat)
 by_cases ha:l.a=0
 ·have hb:l.b≠0:=fun hb=>h ⟨ha,hb⟩
  have hb':(l.b:Rat)≠0:=fun e=>hb (cY.1 e)
  have:(l.b:Rat)*l.b≠0:=by grind
  grind
 ·have ha':(l.a:Rat)≠0:=fun e=>ha (cY.1 e)
  have:(l.a:Rat)*l.a≠0:=by grind
  grind
theorem anf{l:LnQ}(h:l.Ne): ∃q:Rat,l.nor.dot l.nor*q= -(l.c:Rat)∧l.base=⟨(l.a:Rat)*q,(l.b:Rat)*q⟩:=by
 refine⟨-(l.c:Rat)/l.nor.dot l.nor,?_,rfl⟩
 have:=ahP h
 grind
theorem afn(l m:LnQ)(t:Rat):m.value (l.at t)=l.cutC m+t*l.cutK m:=by
 simp only[LnQ.cutC,LnQ.cutK,adO,LnQ.at,PtQ.add,PtQ.scale,LnQ.dir,LnQ.nor,PtQ.dot];grind
theorem ai9{l:LnQ}(h:l.Ne)(t:Rat):l.value (l.at t)=0:=by
 obtain⟨q,h1,h2⟩:=anf h
 simp only[adO,LnQ.at,h2,PtQ.add,PtQ.scale,LnQ.dir]
 simp only[LnQ.nor,PtQ.dot] at h1
 grind
theorem axw{l:LnQ}(h:l.Ne){p:PtQ}(hp:l.value p=0): ∃t,p=l.at t:=by
 obtain⟨q,h1,h2⟩:=anf h
 have hn:=ahP h
 obtain⟨x,y⟩:=p
 rw[adO] at hp
 simp only[LnQ.nor,PtQ.dot] at h1 hn
 refine⟨((l.b:Rat)*x-(l.a:Rat)*y)/((l.a:Rat)*l.a+(l.b:Rat)*l.b),?_⟩
 generalize ht:((l.b:Rat)*x-(l.a:Rat)*y)/((l.a:Rat)*l.a+(l.b:Rat)*l.b)=t
 have ht':((l.a:Rat)*l.a+(l.b:Rat)*l.b)*t=(l.b:Rat)*x-(l.a:Rat)*y:=by grind
 simp only[LnQ.at,h2,PtQ.add,PtQ.scale,LnQ.dir,PtQ.mk.injEq]
 generalize (l.a:Rat)=a at*
 generalize (l.b:Rat)=b at*
 generalize (l.c:Rat)=c at*
 have e1:(a*a+b*b)*(x-(a*q+b*t))=0:=by grind
 have e2:(a*a+b*b)*(y-(b*q+ -a*t))=0:=by grind
 constructor<;>grind
/-! ### intervals -/
def IvQ.has(v:IvQ)(t:Rat):Prop:=(v.nl=true∨v.lo≤t)∧(v.nh=true∨t≤v.hi)
def IvQ.ins(v:IvQ)(t:Rat):Prop:=(v.nl=true∨v.lo<t)∧(v.nh=true∨t<v.hi)
def IvQ.Pos(v:IvQ):Prop:=v.nl=true∨v.nh=true∨v.lo<v.hi
theorem ao0(a b:Rat):0≤aa0 a b↔b≤a:=by
 unfold aa0;split
 ·constructor
  ·intro h;exact absurd h (by decide)
  ·intro h;grind
 ·split
  ·constructor
   ·intro _;grind
   ·intro _;decide
  ·constructor
   ·intro _;grind
   ·intro _;decide
theorem agN(v:IvQ):v.empty=false↔v.Pos:=by
 obtain⟨lo,hi,nl,nh⟩:=v
 unfold IvQ.empty IvQ.Pos
 cases nl<;>cases nh<;>simp[ao0]
 first|exact Rat.not_le|grind
theorem IvQ.ins.has{v:IvQ}{t:Rat}(h:v.ins t):v.has t:=by
 obtain⟨h1,h2⟩:=h
 exact⟨h1.imp id (fun h=>gN h),h2.imp id (fun h=>gN h)⟩
theorem azG:mkRat 1 2=(1:Rat)/2:=by rw[nU];rfl
theorem adA{v:IvQ}(h:v.Pos):v.ins v.sample:=by
 obtain⟨lo,hi,nl,nh⟩:=v
 unfold IvQ.Pos at h
 unfold IvQ.ins IvQ.sample
 rw[azG]
 cases nl<;>cases nh<;>simp at* <;>grind
theorem ap2(v w:IvQ)(t:Rat):(v.meet w).has t↔v.has t∧w.has t:=by
 obtain⟨lo,hi,nl,nh⟩:=v
 obtain⟨lo',hi',nl',nh'⟩:=w
 unfold IvQ.has IvQ.meet
 cases nl<;>cases nh<;>cases nl'<;>cases nh'<;>simp<;>grind
theorem apn(v w:IvQ)(t:Rat):(v.meet w).ins t↔v.ins t∧w.ins t:=by
 obtain⟨lo,hi,nl,nh⟩:=v
 obtain⟨lo',hi',nl',nh'⟩:=w
 unfold IvQ.ins IvQ.meet
 cases nl<;>cases nh<;>cases nl'<;>cases nh'<;>simp<;>grind
theorem aoc(t:Rat):IvQ.all.has t:=⟨.inl rfl, .inl rfl⟩
theorem ajM:IvQ.all.Pos:= .inl rfl
theorem ab3(k:Rat):Int.sign k.num=0↔k=0:=by rw[fJ,lJ]
theorem alq(k:Rat):0<k.num↔0<k:=by
 have h1:0≤k.num↔0≤k:=Rat.num_nonneg
 have h2:k.num=0↔k=0:=lJ
 constructor
 ·intro h
  have a:=h1.1 (by omega)
  have b:k≠0:=fun e=>by have:=h2.2 e;omega
  grind
 ·intro h
  have a:=h1.2 (by grind)
  have b:k.num≠0:=fun e=>by have:=h2.1 e;grind
  omega
theorem adF(k:Rat):Int.sign k.num=1↔0<k:=by rw[Int.sign_eq_one_iff_pos,alq]
theorem acZ(k:Rat):0<Int.sign k.num↔0<k:=by
 rw[←adF]
 rcases mL k.num 0 with h|h|h
 ·rw[dR h];decide
 ·rw[h];decide
 ·rw[fU h];decide
theorem ajd(k:Rat):Int.sign k.num<0↔k<0:=by
 have h1:=ab3 k
 have h2:=acZ k
 constructor
 ·intro h
  by_cases hk:0<k
  ·have:=h2.2 hk;omega
  ·by_cases h0:k=0
   ·have:=h1.2 h0;omega
   ·grind
 ·intro h
  have a1: ¬Int.sign k.num=0:=fun e=>by have:=h1.1 e;grind
  have a2: ¬0<Int.sign k.num:=fun e=>by have:=h2.1 e;grind
  omega
theorem ag4{l m:LnQ}(v:IvQ)(hk:l.cutK m=0):l.cutV v m=v∧(l.cutB v m=true↔0<l.cutC m):=by
 have h:=(ab3 (l.cutK m)).2 hk
 unfold LnQ.cutV LnQ.cutB
 rw[if_pos h,if_pos h,decide_eq_true_iff,acZ]
 exact⟨rfl,Iff.rfl⟩
theorem ami{l m:LnQ}(v:IvQ)(hk:0<l.cutK m):l.cutV v m=v.meet ⟨-(l.cutC m/l.cutK m),0,false,true⟩∧(l.cutB v m=true↔(l.cutV v m).Pos):=by
 have h0: ¬Int.sign (l.cutK m).num=0:=fun e=>by have:=(ab3 _).1 e;grind
 have h1:=(adF (l.cutK m)).2 hk
 constructor
 ·unfold LnQ.cutV;rw[if_neg h0,if_pos h1]
 ·unfold LnQ.cutB;rw[if_neg h0,←agN];simp
theorem amH{l m:LnQ}(v:IvQ)(hk:l.cutK m<0):l.cutV v m=v.meet ⟨0, -(l.cutC m/l.cutK m),true,false⟩∧(l.cutB v m=true↔(l.cutV v m).Pos):=by
 have h0: ¬Int.sign (l.cutK m).num=0:=fun e=>by have:=(ab3 _).1 e;grind
 have h1: ¬Int.sign (l.cutK m).num=1:=fun e=>by have:=(adF _).1 e;grind
 constructor
 ·unfold LnQ.cutV;rw[if_neg h0,if_neg h1]
 ·unfold LnQ.cutB;rw[if_neg h0,←agN];simp
theorem aEj{C K t:Rat}(hk:0<K): -(C/K)≤t↔0≤C+t*K:=by
 have e:C=C/K*K:=by grind
 generalize C/K=d at*
 rw[e,show d*K+t*K=(d+t)*K from by grind,aat hk]
 grind
theorem aDG{C K t:Rat}(hk:0<K): -(C/K)<t↔0<C+t*K:=by
 have e:C=C/K*K:=by grind
 generalize C/K=d at*
 rw[e,show d*K+t*K=(d+t)*K from by grind,aaD hk]
 grind
theorem aEl{C K t:Rat}(hk:K<0):t≤ -(C/K)↔0≤C+t*K:=by
 have e:C=C/K*K:=by grind
 generalize C/K=d at*
 rw[e,show d*K+t*K=(-(d+t))*(-K) from by grind,aat (by grind)]
 grind
theorem aDI{C K t:Rat}(hk:K<0):t< -(C/K)↔0<C+t*K:=by
 have e:C=C/K*K:=by grind
 generalize C/K=d at*
 rw[e,show d*K+t*K=(-(d+t))*(-K) from by grind,aaD (by grind)]
 grind
theorem abk(k:Rat):k=0∨0<k∨k<0:=by grind
theorem alp{l m:LnQ}{v:IvQ}(hb:l.cutB v m=true)(t:Rat):(l.cutV v m).has t↔v.has t∧0≤m.value (l.at t):=by
 rw[afn]
 rcases abk (l.cutK m) with hk|hk|hk
 ·obtain⟨h1,h2⟩:=ag4 v hk
  rw[h1,hk]
  have:=h2.1 hb
  constructor
  ·intro h;exact⟨h,by grind⟩
  ·exact fun h=>h.1
 ·rw[(ami v hk).1,ap2,←aEj hk]
  simp[IvQ.has]
 ·rw[(amH v hk).1,ap2,←aEl hk]
  simp[IvQ.has]
theorem atg{l m:LnQ}{v:IvQ}(hb:l.cutB v m=true)(t:Rat):(l.cutV v m).ins t↔v.ins t∧0<m.value (l.at t):=by
 rw[afn]
 rcases abk (l.cutK m) with hk|hk|hk
 ·obtain⟨h1,h2⟩:=ag4 v hk
  rw[h1,hk]
  have:=h2.1 hb
  constructor
  ·intro h;exact⟨h,by grind⟩
  ·exact fun h=>h.1
 ·rw[(ami v hk).1,apn,←aDG hk]
  simp[IvQ.ins]
 ·rw[(amH v hk).1,apn,←aDI hk]
  simp[IvQ.ins]
theorem ajn{l m:LnQ}{v:IvQ}(hv:v.Pos)(hb:l.cutB v m=true):(l.cutV v m).Pos:=by
 rcases abk (l.cutK m) with hk|hk|hk
 ·rw[(ag4 v hk).1];exact hv
 ·exact(ami v hk).2.1 hb
 ·exact(amH v hk).2.1 hb
theorem auU{l m:LnQ}{v:IvQ}(hv:v.Pos)(hb:l.cutB v m=false){t:Rat}(ht:v.has t):m.value (l.at t)≤0:=by
 rw[afn]
 have hb': ¬l.cutB v m=true:=by rw[hb];decide
 rcases abk (l.cutK m) with hk|hk|hk
 ·have h2:=(ag4 v hk).2
  have: ¬0<l.cutC m:=fun h=>hb' (h2.2 h)
  rw[hk];grind
 ·obtain⟨h1,h2⟩:=ami v hk
  have hn: ¬(l.cutV v m).Pos:=fun h=>hb' (h2.2 h)
  rw[h1] at hn
  have h3:=aDG (C:=l.cutC m) (t:=t) hk
  suffices¬(-(l.cutC m/l.cutK m)<t) by grind
  generalize-(l.cutC m/l.cutK m)=d at*
  obtain⟨lo,hi,nl,nh⟩:=v
  unfold IvQ.Pos IvQ.meet at hn
  unfold IvQ.Pos at hv
  unfold IvQ.has at ht
  cases nl<;>cases nh<;>simp at* <;>grind
 ·obtain⟨h1,h2⟩:=amH v hk
  have hn: ¬(l.cutV v m).Pos:=fun h=>hb' (h2.2 h)
  rw[h1] at hn
  have h3:=aDI (C:=l.cutC m) (t:=t) hk
  suffices¬(t< -(l.cutC m/l.cutK m)) by grind
  generalize-(l.cutC m/l.cutK m)=d at*
  obtain⟨lo,hi,nl,nh⟩:=v
  unfold IvQ.Pos IvQ.meet at hn
  unfold IvQ.Pos at hv
  unfold IvQ.has at ht
  cases nl<;>cases nh<;>simp at* <;>grind
/-! ### cells -/
def InD(c:aan)(p:PtQ):Prop:= ∀s∈c,0<s.l.value p
def InC(c:aan)(p:PtQ):Prop:= ∀s∈c,0≤s.l.value p
theorem ahr(l:LnQ): ∀(c:aan) (v w:IvQ),v.Pos→agt l c v=some w→
  w.Pos∧(∀t,w.has t↔v.has t∧InC c (l.at t))∧(∀t,w.ins t↔v.ins t∧InD c (l.at t))
 |[],v,w,hv,h=>by
  obtain rfl:v=w:=by simpa[agt] using h
  exact⟨hv,fun t=>⟨fun h=>⟨h,fun s hs=>absurd hs (by simp)⟩,fun h=>h.1⟩,fun t=>⟨fun h=>⟨h,fun s hs=>absurd hs (by simp)⟩,fun h=>h.1⟩⟩
 |s::c,v,w,hv,h=>by
  rw[agt] at h
  split at h
  ·rename_i hb
   obtain⟨h1,h2,h3⟩:=ahr l c _ w (ajn hv hb) h
   refine⟨h1,fun t=>?_,fun t=>?_⟩
   ·rw[h2,alp hb]
    simp only[InC,dJ]
    exact and_assoc
   ·rw[h3,atg hb]
    simp only[InD,dJ]
    exact and_assoc
  ·exact absurd h (by simp)
theorem akS(l:LnQ): ∀(c:aan) (v:IvQ),v.Pos→agt l c v=none→ ∀t,v.has t→ ¬InD c (l.at t)
 |[],v,hv,h=>by simp[agt] at h
 |s::c,v,hv,h=>by
  intro t ht hd
  have hd':=dJ.1 hd
  rw[agt] at h
  split at h
  ·rename_i hb
   exact akS l c _ (ajn hv hb) h t ((alp hb t).2 ⟨ht,gN hd'.1⟩) hd'.2
  ·rename_i hb
   have:=auU hv (by simpa using hb) ht
   have:=hd'.1
   grind
theorem InD.open: ∀{c:aan} {q:PtQ} (u:PtQ),InD c q→ ∃e:Rat,0<e∧ ∀d,0≤d→d≤e→InD c (aeF q u d)
 |[],q,u,_=>⟨1,by decide,fun d _ _ s hs=>absurd hs (by simp)⟩
 |s::c,q,u,h=>by
  have h':=dJ.1 h
  obtain⟨e,he,hd⟩:=InD.open (c:=c) u h'.2
  have hs:=h'.1
  generalize hk:s.l.nor.dot u=k
  have hf: ∃f:Rat,0<f∧ ∀d,0≤d→d≤f→0<s.l.value q+d*k:=by
   by_cases hk0:0≤k
   ·exact⟨1,by decide,fun d h1 _=>by have:=aal h1 hk0;grind⟩
   ·refine⟨s.l.value q/(2* -k),?_,fun d h1 h2=>?_⟩
    ·have e1:s.l.value q/(2* -k)*(2* -k)=s.l.value q:=by grind
     exact(aaD (k:=2* -k) (by grind)).1 (by rw[e1];exact hs)
    ·have e1:s.l.value q/(2* -k)*(2* -k)=s.l.value q:=by grind
     generalize s.l.value q/(2* -k)=f at*
     have:=aal (a:=f-d) (b:= -k) (by grind) (by grind)
     grind
  obtain⟨f,hf0,hf⟩:=hf
  by_cases hef:e≤f
  ·refine⟨e,he,fun d h1 h2=>dJ.2 ⟨?_,hd d h1 h2⟩⟩
   rw[aci,hk];exact hf d h1 (by grind)
  ·refine⟨f,hf0,fun d h1 h2=>dJ.2 ⟨?_,hd d h1 (by grind)⟩⟩
   rw[aci,hk];exact hf d h1 h2
theorem akr: ∀{c:aan} {q p:PtQ},InD c q→(∃s∈c,s.l.value p≤0)→
  ∃e:Rat,0≤e∧e≤1∧(∃s∈c,s.l.value p≤0∧s.l.value (ara q p e)=0)∧InC c (ara q p e)
 |[],q,p,_,h=>by obtain⟨s,hs,_⟩:=h;exact absurd hs (by simp)
 |s::c,q,p,h,hex=>by
  have h':=dJ.1 h
  have hs:=h'.1
  by_cases hc: ∃s∈c,s.l.value p≤0
  ·obtain⟨e,h0,h1,⟨s1,m1,n1,z1⟩,hC⟩:=akr h'.2 hc
   by_cases hp:0≤s.l.value (ara q p e)
   ·exact⟨e,h0,h1,⟨s1,aX _ m1,n1,z1⟩,dJ.2 ⟨hp,hC⟩⟩
   ·rw[ac1] at hp
    generalize hB:s.l.value p-s.l.value q=B at*
    have hB0:B<0:=by
     by_cases hB0:0≤B
     ·have:=aal h0 hB0;grind
     ·grind
    have e1:s.l.value q/(-B)*(-B)=s.l.value q:=by grind
    generalize hf:s.l.value q/(-B)=f at*
    have f0:0≤f:=(aat (k:= -B) (by grind)).1 (by rw[e1];grind)
    have f1:f≤e:=by
     have:=(aat (s:=e-f) (k:= -B) (by grind)).1 (by grind)
     grind
    have z:s.l.value (ara q p f)=0:=by rw[ac1,hB];grind
    have np:s.l.value p≤0:=by
     have:=aal (a:=1-e) (b:= -B) (by grind) (by grind)
     grind
    refine⟨f,f0,by grind,⟨s,aQ,np,z⟩,dJ.2 ⟨by rw[z];exact kU,fun s2 m2=>?_⟩⟩
    have a1:=h'.2 s2 m2
    have a2:=hC s2 m2
    rw[ac1] at a2⊢
    exact ajz (gN a1) a2 f0 f1
  ·have np:s.l.value p≤0:=by
    obtain⟨s1,m1,n1⟩:=hex
    rcases aT.1 m1 with rfl|m1
    ·exact n1
    ·exact absurd ⟨s1,m1,n1⟩ hc
   generalize hB:s.l.value p-s.l.value q=B at*
   have hB0:B<0:=by grind
   have e1:s.l.value q/(-B)*(-B)=s.l.value q:=by grind
   generalize hf:s.l.value q/(-B)=f at*
   have f0:0≤f:=(aat (k:= -B) (by grind)).1 (by rw[e1];grind)
   have f1:f≤1:=by
    have:=(aat (s:=1-f) (k:= -B) (by grind)).1 (by grind)
    grind
   have z:s.l.value (ara q p f)=0:=by rw[ac1,hB];grind
   refine⟨f,f0,f1,⟨s,aQ,np,z⟩,dJ.2 ⟨by rw[z];exact kU,fun s2 m2=>?_⟩⟩
   have a1:=h'.2 s2 m2
   have a2:0<s2.l.value p:=by
    by_cases h:0<s2.l.value p
    ·exact h
    ·exact absurd ⟨s2,m2,by grind⟩ hc
   rw[ac1]
   have:=ajz (A:=s2.l.value q) (B:=s2.l.value p-s2.l.value q) (u:=f) (v:=1) (gN a1) (by grind) f0 f1
   exact this
structure acf (c:aan):Prop where
 ne: ∃p,InD c p
 ok: ∀s∈c,s.l.ok
 edge: ∀s∈c,s.v.Pos∧ ∀t,s.v.has t↔InC c (s.l.at t)
theorem acf.nil:acf []:=⟨⟨⟨0,0⟩,fun s hs=>absurd hs (by simp)⟩,fun s hs=>absurd hs (by simp),fun s hs=>absurd hs (by simp)⟩
theorem abU{c:aan}{m:LnQ}(hne: ∃q,InD c q)(h: ∀p,InD c p→0<m.value p){p:PtQ}(hp:InC c p):0≤m.value p:=by
 obtain⟨q,hq⟩:=hne
 have mq:=h q hq
 by_cases hm:0≤m.value p
 ·exact hm
 ·exfalso
  generalize hB:m.value q-m.value p=B
  have hB0:0<B:=by grind
  have e1: -m.value p/B*B= -m.value p:=by grind
  generalize-m.value p/B=e at*
  have e0:0<e:=(aaD hB0).1 (by rw[e1];grind)
  have e2:e≤1:=by
   have:=(aat (s:=1-e) hB0).1 (by grind)
   grind
  have hd:InD c (ara p q e):=fun s hs=>by
   rw[ac1]
   have a:=hp s hs
   have b:=hq s hs
   have:=aad e0 b
   have:=aal (a:=1-e) (b:=s.l.value p) (by grind) a
   grind
  have:=h _ hd
  rw[ac1,hB,e1] at this
  grind
theorem adh{l:LnQ}{s':FrQ}: ∀{c:aan},s'∈acK l c↔ ∃s∈c,s.l.cutB s.v l=true∧s'=⟨s.l,s.l.cutV s.v l⟩
 |[]=>by simp[acK]
 |s::c=>by
  rw[acK]
  split
  ·rename_i hb
   rw[aT,adh (c:=c)]
   constructor
   ·rintro (rfl|⟨s1,h1,h2⟩)
    ·exact⟨s,aQ,hb,rfl⟩
    ·exact⟨s1,aX _ h1,h2⟩
   ·rintro ⟨s1,h1,h2,h3⟩
    rcases aT.1 h1 with rfl|h1
    ·exact .inl h3
    ·exact .inr ⟨s1,h1,h2,h3⟩
  ·rename_i hb
   rw[adh (c:=c)]
   constructor
   ·rintro ⟨s1,h1,h2⟩;exact⟨s1,aX _ h1,h2⟩
   ·rintro ⟨s1,h1,h2,h3⟩
    rcases aT.1 h1 with rfl|h1
    ·exact absurd h2 hb
    ·exact⟨s1,h1,h2,h3⟩
theorem ad1{c:aan}{l:LnQ}{v:IvQ}{s:FrQ}:s∈arz c l v↔s=⟨l,v⟩∨s∈c:=by
 unfold arz
 generalize bsq (agQ c l) 0 c.length=n
 rw[bV,aT]
 have h:=jR n c
 constructor
 ·rintro (h1|h1|h1)
  ·exact .inr (cM h1)
  ·exact .inl h1
  ·exact .inr (fN h1)
 ·rintro (h1|h1)
  ·exact .inr (.inl h1)
  ·rw[←h,bV] at h1
   rcases h1 with h1|h1
   ·exact .inl h1
   ·exact .inr (.inr h1)
theorem avy{c:aan}{l:LnQ}(hl:l.Ne)(hp:af0 c l=none){p:PtQ}(h:InD c p):l.value p≠0:=by
 intro h0
 obtain⟨t,rfl⟩:=axw hl h0
 exact akS l c _ ajM hp t (aoc t) h
theorem akd{c:aan}{l:LnQ}(hl:l.Ne){v:IvQ}(hp:af0 c l=some v):(∃q,InD c q∧0<l.value q)∧ ∃q,InD c q∧l.value q<0:=by
 obtain⟨h1,_,h3⟩:=ahr l c _ v ajM hp
 have hd:=((h3 v.sample).1 (adA h1)).2
 have h0:=ai9 hl v.sample
 have hn:=ahP hl
 constructor
 ·obtain⟨e,he,hm⟩:=hd.open l.nor
  refine⟨_,hm e (gN he) kU,?_⟩
  rw[aci,h0]
  have:=aad he hn
  grind
 ·obtain⟨e,he,hm⟩:=hd.open ⟨-l.nor.x, -l.nor.y⟩
  refine⟨_,hm e (gN he) kU,?_⟩
  rw[aci,h0]
  have:=aad he hn
  simp only[PtQ.dot] at this⊢
  grind
theorem auf{c:aan}{l:LnQ}{v:IvQ}(hc:acf c)(hl:l.ok)(hp:af0 c l=some v):
  acf (arz (acK l c) l v)∧ ∀p,InD (arz (acK l c) l v) p↔InD c p∧0<l.value p:=by
 obtain⟨⟨q,hq,lq⟩,_⟩:=akd hl.ne hp
 obtain⟨v1,v2,v3⟩:=ahr l c _ v ajM hp
 have hD: ∀p,InD (arz (acK l c) l v) p↔InD c p∧0<l.value p:=by
  intro p
  constructor
  ·intro h
   have lp:0<l.value p:=h ⟨l,v⟩ (ad1.2 (.inl rfl))
   refine⟨fun s0 hs0=>?_,lp⟩
   by_cases h0:0<s0.l.value p
   ·exact h0
   ·exfalso
    obtain⟨e,e0,e1,⟨s,ms,ns,zs⟩,hC⟩:=akr (p:=p) hq ⟨s0,hs0,by grind⟩
    obtain⟨t,ht⟩:=axw (hc.ok s ms).ne zs
    rw[ht] at hC
    obtain⟨p1,p2⟩:=hc.edge s ms
    have hh:=(p2 t).2 hC
    have lr:0<l.value (s.l.at t):=by
     rw[←ht,ac1]
     by_cases hB:0≤l.value p-l.value q
     ·have:=aal e0 hB;grind
     ·have:=aal (a:=1-e) (b:= -(l.value p-l.value q)) (by grind) (by grind)
      grind
    have hb:s.l.cutB s.v l=true:=by
     cases hb:s.l.cutB s.v l with
     |true=>rfl
     |false=>have:=auU p1 hb hh;grind
    have:=h ⟨s.l,s.l.cutV s.v l⟩ (ad1.2 (.inr (adh.2 ⟨s,ms,hb,rfl⟩)))
    simp only at this
    grind
  ·rintro ⟨h1,h2⟩ s hs
   rcases ad1.1 hs with rfl|hs
   ·exact h2
   ·obtain⟨s1,m1,_,rfl⟩:=adh.1 hs
    exact h1 s1 m1
 have hne: ∃p,InD (arz (acK l c) l v) p:=⟨q,(hD q).2 ⟨hq,lq⟩⟩
 have hC: ∀p,InC (arz (acK l c) l v) p↔InC c p∧0≤l.value p:=by
  intro p
  constructor
  ·intro h
   refine⟨fun s hs=>?_,h ⟨l,v⟩ (ad1.2 (.inl rfl))⟩
   exact abU hne (fun p hp=>((hD p).1 hp).1 s hs) h
  ·rintro ⟨h1,h2⟩ s hs
   rcases ad1.1 hs with rfl|hs
   ·exact h2
   ·obtain⟨s1,m1,_,rfl⟩:=adh.1 hs
    exact h1 s1 m1
 refine⟨⟨hne,fun s hs=>?_,fun s hs=>?_⟩,hD⟩
 ·rcases ad1.1 hs with rfl|hs
  ·exact hl
  ·obtain⟨s1,m1,_,rfl⟩:=adh.1 hs
   exact hc.ok s1 m1
 ·rcases ad1.1 hs with rfl|hs
  ·refine⟨v1,fun t=>?_⟩
   rw[hC]
   simp only
   rw[v2]
   have h0:=ai9 hl.ne t
   constructor
   ·intro h;exact⟨h.2,by rw[h0];exact kU⟩
   ·intro h;exact⟨aoc t,h.1⟩
  ·obtain⟨s1,m1,hb,rfl⟩:=adh.1 hs
   obtain⟨p1,p2⟩:=hc.edge s1 m1
   refine⟨ajn p1 hb,fun t=>?_⟩
   rw[hC]
   simp only
   rw[alp hb,p2]
theorem InD.seg{c:aan}{q p:PtQ}{e:Rat}(hq:InD c q)(hp:InD c p)(h0:0≤e)(h1:e≤1):InD c (ara q p e):=fun s hs=>by
 rw[ac1]
 have a:=hq s hs
 have b:=hp s hs
 by_cases he:e=0
 ·subst he;grind
 ·have:=aad (a:=e) (by grind) b
  have:=aal (a:=1-e) (b:=s.l.value q) (by grind) (by grind)
  grind
theorem ao8{v:IvQ}{t:Rat}(h:v.ins t):(∃u,u<t∧v.has u)∧ ∃u,t<u∧v.has u:=by
 obtain⟨lo,hi,nl,nh⟩:=v
 unfold IvQ.ins at h
 unfold IvQ.has
 refine⟨⟨if nl=true then t-1 else lo,?_⟩,⟨if nh=true then t+1 else hi,?_⟩⟩<;>cases nl<;>cases nh<;>simp at* <;>grind
theorem ac4{a b c x y z:Nat}(h1:x*b=a*y)(h2:x*c=a*z)(g:Nat.gcd (Nat.gcd a b) c=1):a∣x:=by
 have e:x=Nat.gcd (Nat.gcd (x*a) (x*b)) (x*c):=by
  rw[Nat.gcd_mul_left,Nat.gcd_mul_left,g,gT]
 rw[e]
 exact Nat.dvd_gcd (Nat.dvd_gcd (Nat.dvd_mul_left ..) (h1▸Nat.dvd_mul_right ..)) (h2▸Nat.dvd_mul_right ..)
theorem ar8{a b c x y z:Int}(h1:a*y=b*x)(h2:a*z=c*x)(h3:b*z=c*y)
  (g1:Nat.gcd (Nat.gcd a.natAbs b.natAbs) c.natAbs=1)(g2:Nat.gcd (Nat.gcd x.natAbs y.natAbs) z.natAbs=1):
  (a=x∧b=y∧c=z)∨(a= -x∧b= -y∧c= -z):=by
 have n1:a.natAbs*y.natAbs=b.natAbs*x.natAbs:=by rw[←iY,←iY,h1]
 have n2:a.natAbs*z.natAbs=c.natAbs*x.natAbs:=by rw[←iY,←iY,h2]
 have n3:b.natAbs*z.natAbs=c.natAbs*y.natAbs:=by rw[←iY,←iY,h3]
 generalize ha:a.natAbs=A at*
 generalize hb:b.natAbs=B at*
 generalize hc:c.natAbs=C at*
 generalize hx:x.natAbs=X at*
 generalize hy:y.natAbs=Y at*
 generalize hz:z.natAbs=Z at*
 have gB:Nat.gcd (Nat.gcd B A) C=1:=by rw[iV B A];exact g1
 have gC:Nat.gcd (Nat.gcd C A) B=1:=by rw[Nat.gcd_assoc,iV];exact g1
 have gY:Nat.gcd (Nat.gcd Y X) Z=1:=by rw[iV Y X];exact g2
 have gZ:Nat.gcd (Nat.gcd Z X) Y=1:=by rw[Nat.gcd_assoc,iV];exact g2
 have e1:A=X:=Nat.dvd_antisymm (ac4 (x:=X) (y:=Y) (z:=Z) (by grind) (by grind) g1) (ac4 (x:=A) (y:=B) (z:=C) (by grind) (by grind) g2)
 have e2:B=Y:=Nat.dvd_antisymm (ac4 (x:=Y) (y:=X) (z:=Z) (by grind) (by grind) gB) (ac4 (x:=B) (y:=A) (z:=C) (by grind) (by grind) gY)
 have e3:C=Z:=Nat.dvd_antisymm (ac4 (x:=Z) (y:=X) (z:=Y) (by grind) (by grind) gC) (ac4 (x:=C) (y:=A) (z:=B) (by grind) (by grind) gZ)
 have s1:a=x∨a= -x:=by omega
 have s2:b=y∨b= -y:=by omega
 have s3:c=z∨c= -z:=by omega
 clear ha hb hc hx hy hz n1 n2 n3 g1 g2 gB gC gY gZ e1 e2 e3
 have z1:= @rT x y
 have z2:= @rT x z
 have z3:= @rT y z
 rcases s1 with rfl|rfl<;>rcases s2 with rfl|rfl<;>rcases s3 with rfl|rfl<;>grind
theorem agT{l m:LnQ}(hl:l.ok)(hm:m.ok)(h: ∀t,l.value (m.at t)=0):l=m∨l=m.rev:=by
 have h0:=h 0
 have h1:=h 1
 rw[afn] at h0 h1
 have hC:m.cutC l=0:=by grind
 have hK:m.cutK l=0:=by grind
 obtain⟨q,q1,q2⟩:=anf hm.ne
 have hn:=ahP hm.ne
 unfold LnQ.cutC at hC
 rw[q2,adO] at hC
 unfold LnQ.cutK at hK
 simp only[LnQ.nor,LnQ.dir,PtQ.dot] at hK q1 hn hC
 obtain⟨a,b,c⟩:=l
 obtain⟨x,y,z⟩:=m
 simp only at*
 have e1:a*y=b*x:=by
  have:((a*y:Int):Rat)=((b*x:Int):Rat):=by rw[eJ,eJ];grind
  exact mU.1 this
 have e2:a*z=c*x:=by
  have:((a*z:Int):Rat)=((c*x:Int):Rat):=by rw[eJ,eJ];grind
  exact mU.1 this
 have e3:b*z=c*y:=by
  have:((b*z:Int):Rat)=((c*y:Int):Rat):=by rw[eJ,eJ];grind
  exact mU.1 this
 rcases ar8 e1 e2 e3 hl.2 hm.2 with⟨rfl,rfl,rfl⟩|⟨rfl,rfl,rfl⟩
 ·exact .inl rfl
 ·exact .inr rfl
theorem LnQ.ok.rev{l:LnQ}(h:l.ok):l.rev.ok:=by
 obtain⟨h1,h2⟩:=h
 refine⟨?_,?_⟩
 ·simp only[LnQ.rev];omega
 ·simp only[LnQ.rev,iL];exact h2
theorem amJ(l:LnQ): ∀c:aan,(∀s∈c,aeo l s≤0∧s.l≠l)→ ¬0<aes l c
 |[],_=>by simp[aes]
 |s::c,h=>by
  have h':=dJ.1 h
  unfold aes
  rw[if_neg h'.1.2]
  split
  ·have:=h'.1.1;omega
  ·exact amJ l c h'.2
theorem akM{c:aan}{l:LnQ}(hc:acf c)(hl:l.ok)(hp:af0 c l=none):
  (0<aes l c∧ ∀p,InD c p→0<l.value p)∨(¬0<aes l c∧ ∀p,InD c p→l.value p<0):=by
 have hoff:=fun p (h:InD c p)=>avy hl.ne hp h
 by_cases hq: ∃q,InD c q∧0<l.value q
 ·left
  obtain⟨q,hq,lq⟩:=hq
  have hall: ∀p,InD c p→0<l.value p:=by
   intro p h
   have:=hoff p h
   by_cases h0:0<l.value p
   ·exact h0
   ·exfalso
    have hn:l.value p<0:=by grind
    have e1:l.value q/(l.value q-l.value p)*(l.value q-l.value p)=l.value q:=by grind
    generalize l.value q/(l.value q-l.value p)=e at*
    have f0:0≤e:=(aat (k:=l.value q-l.value p) (by grind)).1 (by grind)
    have f1:e≤1:=by
     have:=(aat (s:=1-e) (k:=l.value q-l.value p) (by grind)).1 (by grind)
     grind
    exact hoff _ (hq.seg h f0 f1) (by rw[ac1];grind)
  refine⟨?_,hall⟩
  cases c with
  |nil=>simp[af0,agt] at hp
  |cons s c=>
   obtain⟨p1,p2⟩:=hc.edge s aQ
   have hi:=adA p1
   have hr:=abU hc.ne hall ((p2 _).1 hi.has)
   unfold aes
   by_cases h0:aeo l s=0
   ·rw[if_neg (by simpa using h0)]
    have hz:l.value (s.l.at s.v.sample)=0:=(ab3 _).1 h0
    have hge: ∀t,s.v.has t→0≤l.value (s.l.at t):=fun t ht=>abU hc.ne hall ((p2 t).1 ht)
    obtain⟨⟨u1,m1,n1⟩,⟨u2,m2,n2⟩⟩:=ao8 hi
    have g1:=hge _ n1
    have g2:=hge _ n2
    rw[afn] at hz g1 g2
    have hK:s.l.cutK l=0:=by
     rcases abk (s.l.cutK l) with h|h|h
     ·exact h
     ·exfalso
      have:=aad (a:=s.v.sample-u1) (b:=s.l.cutK l) (by grind) h
      grind
     ·exfalso
      have:=aad (a:=u2-s.v.sample) (b:= -s.l.cutK l) (by grind) (by grind)
      grind
    have hz2: ∀t,l.value (s.l.at t)=0:=fun t=>by rw[afn,hK];rw[hK] at hz;grind
    rcases agT hl (hc.ok s aQ) hz2 with h|h
    ·rw[if_pos h.symm];decide
    ·exfalso
     have:=hall q hq
     rw[h,aaY] at this
     have:=hq s aQ
     grind
   ·rw[if_pos h0]
    have hz:l.value (s.l.at s.v.sample)≠0:=fun e=>h0 ((ab3 _).2 e)
    exact(acZ _).2 (by grind)
 ·right
  have hall: ∀p,InD c p→l.value p<0:=fun p h=>by
   have:=hoff p h
   have: ¬0<l.value p:=fun h'=>hq ⟨p,h,h'⟩
   grind
  refine⟨amJ l c fun s hs=>?_,hall⟩
  obtain⟨p1,p2⟩:=hc.edge s hs
  have hr:=abU (m:=l.rev) hc.ne (fun p h=>by rw[aaY];have:=hall p h;grind) ((p2 _).1 (adA p1).has)
  rw[aaY] at hr
  constructor
  ·have: ¬0<aeo l s:=fun h=>by have:=(acZ _).1 h;grind
   omega
  ·rintro rfl
   obtain⟨p,hp⟩:=hc.ne
   have:=hall p hp
   have:=hp s hs
   grind
/-! ### clipping -/
theorem aeO{c:aan}{l:LnQ}(hc:acf c)(hl:l.ok):abt c l=true↔ ∃p,InD c p∧0<l.value p:=by
 unfold abt
 cases hp:af0 c l with
 |some v=>exact⟨fun _=>(akd hl.ne hp).1,fun _=>rfl⟩
 |none=>
  simp only[ajf,hp,Option.isSome_none,jZ,if_false,decide_eq_true_iff]
  rcases akM hc hl hp with⟨h1,h2⟩|⟨h1,h2⟩
  ·refine⟨fun _=>?_,fun _=>h1⟩
   obtain⟨p,hp⟩:=hc.ne
   exact⟨p,hp,h2 p hp⟩
  ·refine⟨fun h=>absurd h h1,?_⟩
   rintro ⟨p,hp,h⟩
   have:=h2 p hp
   grind
theorem abQ{c:aan}{l:LnQ}(hc:acf c)(hl:l.ok)(hb:abt c l=true):acf (aaR c l)∧ ∀p,InD (aaR c l) p↔InD c p∧0<l.value p:=by
 unfold aaR
 cases hp:af0 c l with
 |some v=>exact auf hc hl hp
 |none=>
  refine⟨hc,fun p=>?_⟩
  unfold abt at hb
  simp only[hp,ajf,Option.isSome_none,jZ,if_false,decide_eq_true_iff] at hb
  rcases akM hc hl hp with⟨h1,h2⟩|⟨h1,h2⟩
  ·exact⟨fun h=>⟨h,h2 p h⟩,fun h=>h.1⟩
  ·exact absurd hb h1
theorem aqI{c:aan}{l:LnQ}(hl:l.ok){p:PtQ}(hp:InD c p)(h0:l.value p=0):(∃q,InD c q∧0<l.value q)∧ ∃q,InD c q∧l.value q<0:=by
 have hn:=ahP hl.ne
 constructor
 ·obtain⟨e,he,hm⟩:=hp.open l.nor
  refine⟨_,hm e (gN he) kU,?_⟩
  rw[aci,h0]
  have:=aad he hn
  grind
 ·obtain⟨e,he,hm⟩:=hp.open ⟨-l.nor.x, -l.nor.y⟩
  refine⟨_,hm e (gN he) kU,?_⟩
  rw[aci,h0]
  have:=aad he hn
  simp only[PtQ.dot] at this⊢
  grind
inductive aF8 (c:aan) (l:LnQ):Prop
 |left (h1:abt c l.rev=false) (h: ∀p,InD c p→0<l.value p)
 |right (h1:abt c l.rev=true) (h2:abt c l=false) (h: ∀p,InD c p→l.value p<0)
 |both (h1:abt c l.rev=true) (h2:abt c l=true) (g1:acf (aaR c l)) (g2:acf (aaR c l.rev))
   (e1: ∀p,InD (aaR c l) p↔InD c p∧0<l.value p) (e2: ∀p,InD (aaR c l.rev) p↔InD c p∧l.value p<0)
theorem lies{c:aan}{l:LnQ}(hc:acf c)(hl:l.ok):aF8 c l:=by
 have hr:=aeO hc hl.rev
 have hi:=aeO hc hl
 cases h1:abt c l.rev with
 |false=>
  refine .left h1 fun p hp=>?_
  have hn: ¬ ∃q,InD c q∧l.value q<0:=by
   rintro ⟨q,a,b⟩
   have:=hr.2 ⟨q,a,by rw[aaY];grind⟩
   rw[h1] at this;exact absurd this (by decide)
  have n1: ¬l.value p<0:=fun h=>hn ⟨p,hp,h⟩
  have n2:l.value p≠0:=fun h=>hn (aqI hl hp h).2
  grind
 |true=>
  cases h2:abt c l with
  |false=>
   refine .right h1 h2 fun p hp=>?_
   have hn: ¬ ∃q,InD c q∧0<l.value q:=by
    intro h
    have:=hi.2 h
    rw[h2] at this;exact absurd this (by decide)
   have n1: ¬0<l.value p:=fun h=>hn ⟨p,hp,h⟩
   have n2:l.value p≠0:=fun h=>hn (aqI hl hp h).1
   grind
  |true=>
   obtain⟨g1,e1⟩:=abQ hc hl h2
   obtain⟨g2,e2⟩:=abQ hc hl.rev h1
   refine .both h1 h2 g1 g2 e1 fun p=>?_
   rw[e2,aaY]
   constructor<;>rintro ⟨a,b⟩<;>exact⟨a,by grind⟩
/-! ### trees -/
theorem Tr.restrict_A{l:LnQ}{e:aan}(X Y:Tr)(h:abt e l.rev=false):(Tr.node l X Y).restrict e=X.restrict e:=by
 rw[Tr.restrict,h];rfl
theorem Tr.restrict_B{l:LnQ}{e:aan}(X Y:Tr)(h:abt e l.rev=true)(h2:abt e l=false):(Tr.node l X Y).restrict e=Y.restrict e:=by
 rw[Tr.restrict,h,h2];rfl
theorem Tr.restrict_C{l:LnQ}{e:aan}(X Y:Tr)(h:abt e l.rev=true)(h2:abt e l=true):(Tr.node l X Y).restrict e=Tr.joinQ l (X.restrict (aaR e l)) (Y.restrict (aaR e l.rev)):=by
 rw[Tr.restrict,h,h2];rfl
def afk:List LnQ→aan→Option aan
 |[],c=>some c
 |l::t,c=>if abt c l then afk t (aaR c l) else none
theorem akO: ∀{ls:List LnQ} {c e:aan},acf c→(∀l∈ls,l.ok)→afk ls c=some e→acf e∧ ∀p,InD e p↔InD c p∧ ∀l∈ls,0<l.value p
 |[],c,e,hc,_,h=>by
  obtain rfl:c=e:=by simpa[afk] using h
  exact⟨hc,fun p=>⟨fun h=>⟨h,fun l hl=>absurd hl (by simp)⟩,fun h=>h.1⟩⟩
 |l::t,c,e,hc,hl,h=>by
  have hl':=dJ.1 hl
  rw[afk] at h
  split at h
  ·rename_i hb
   obtain⟨g1,g2⟩:=abQ hc hl'.1 hb
   obtain⟨k1,k2⟩:=akO g1 hl'.2 h
   refine⟨k1,fun p=>?_⟩
   rw[k2,g2,dJ,and_assoc]
  ·exact absurd h (by simp)
theorem akW: ∀{ls:List LnQ} {c:aan},acf c→(∀l∈ls,l.ok)→(∃p,InD c p∧ ∀l∈ls,0<l.value p)→ ∃e,afk ls c=some e
 |[],c,_,_,_=>⟨c,rfl⟩
 |l::t,c,hc,hl,⟨p,h1,h2⟩=>by
  have hl':=dJ.1 hl
  have h2':=dJ.1 h2
  have hb:=(aeO hc hl'.1).2 ⟨p,h1,h2'.1⟩
  obtain⟨g1,g2⟩:=abQ hc hl'.1 hb
  rw[afk,if_pos hb]
  exact akW g1 hl'.2 ⟨p,(g2 p).2 ⟨h1,h2'.1⟩,h2'.2⟩
theorem atD{c:aan}(hc:acf c){s:FrQ}(hs:s∈c){m:LnQ}(hm:m.ok)(h: ∀p,InD c p→0<m.value p)(hz:m.value (s.l.at s.v.sample)=0):m=s.l:=by
 obtain⟨p1,p2⟩:=hc.edge s hs
 have hi:=adA p1
 have hge: ∀t,s.v.has t→0≤m.value (s.l.at t):=fun t ht=>abU hc.ne h ((p2 t).1 ht)
 obtain⟨⟨u1,m1,n1⟩,⟨u2,m2,n2⟩⟩:=ao8 hi
 have g1:=hge _ n1
 have g2:=hge _ n2
 rw[afn] at hz g1 g2
 have hK:s.l.cutK m=0:=by
  rcases abk (s.l.cutK m) with h|h|h
  ·exact h
  ·exfalso
   have:=aad (a:=s.v.sample-u1) (b:=s.l.cutK m) (by grind) h
   grind
  ·exfalso
   have:=aad (a:=u2-s.v.sample) (b:= -s.l.cutK m) (by grind) (by grind)
   grind
 have hz2: ∀t,m.value (s.l.at t)=0:=fun t=>by rw[afn,hK];rw[hK] at hz;grind
 rcases agT hm (hc.ok s hs) hz2 with h'|h'
 ·exact h'
 ·exfalso
  obtain⟨q,hq⟩:=hc.ne
  have:=h q hq
  rw[h',aaY] at this
  have:=hq s hs
  grind
def adj(l:LnQ):List LnQ→IvQ→Option IvQ
 |[],v=>some v
 |m::t,v=>if m=l then adj l t v else if l.cutB v m then adj l t (l.cutV v m) else none
def InL(c:List LnQ)(p:PtQ):Prop:= ∀m∈c,0<m.value p
theorem ahm(l:LnQ): ∀(c:List LnQ) (v w:IvQ),v.Pos→adj l c v=some w→
  w.Pos∧(∀t,w.ins t↔v.ins t∧ ∀m∈c,m≠l→0<m.value (l.at t))
 |[],v,w,hv,h=>by
  obtain rfl:v=w:=by simpa[adj] using h
  exact⟨hv,fun t=>⟨fun h=>⟨h,fun s hs=>absurd hs (by simp)⟩,fun h=>h.1⟩⟩
 |m::c,v,w,hv,h=>by
  rw[adj] at h
  split at h
  ·rename_i hm
   obtain⟨h1,h2⟩:=ahm l c _ w hv h
   refine⟨h1,fun t=>?_⟩
   rw[h2,dJ]
   exact⟨fun h=>⟨h.1,fun h'=>absurd hm h',h.2⟩,fun h=>⟨h.1,h.2.2⟩⟩
  ·rename_i hm
   split at h
   ·rename_i hb
    obtain⟨h1,h2⟩:=ahm l c _ w (ajn hv hb) h
    refine⟨h1,fun t=>?_⟩
    rw[h2,atg hb,dJ,and_assoc]
    exact⟨fun h=>⟨h.1,fun _=>h.2.1,h.2.2⟩,fun h=>⟨h.1,h.2.1 hm,h.2.2⟩⟩
   ·exact absurd h (by simp)
theorem ahy(l:LnQ): ∀(c:List LnQ) (v:IvQ),v.Pos→adj l c v=none→ ∀t,v.has t→ ¬ ∀m∈c,m≠l→0<m.value (l.at t)
 |[],v,hv,h=>by simp[adj] at h
 |m::c,v,hv,h=>by
  intro t ht hd
  have hd':=dJ.1 hd
  rw[adj] at h
  split at h
  ·exact ahy l c _ hv h t ht hd'.2
  ·rename_i hm
   split at h
   ·rename_i hb
    exact ahy l c _ (ajn hv hb) h t ((alp hb t).2 ⟨ht,gN (hd'.1 hm)⟩) hd'.2
   ·rename_i hb
    have:=auU hv (by simpa using hb) ht
    have:=hd'.1 hm
    grind
def acI(c:List LnQ):Bool:=c.isEmpty||c.any (fun l=>(adj l c IvQ.all).isSome)
theorem akR: ∀{ls:List LnQ} {c e:aan},afk ls c=some e→ ∀s∈e,s.l∈ls∨ ∃s'∈c,s'.l=s.l
 |[],c,e,h,s,hs=>by
  obtain rfl:c=e:=by simpa[afk] using h
  exact .inr ⟨s,hs,rfl⟩
 |l::t,c,e,h,s,hs=>by
  rw[afk] at h
  split at h
  ·rcases akR h s hs with h1|⟨s',h1,h2⟩
   ·exact .inl (aX _ h1)
   ·unfold aaR at h1
    split at h1
    ·rcases ad1.1 h1 with rfl|h1
     ·exact .inl (by rw[←h2];exact aQ)
     ·obtain⟨s1,m1,_,rfl⟩:=adh.1 h1
      exact .inr ⟨s1,m1,h2⟩
    ·exact .inr ⟨s',h1,h2⟩
  ·exact absurd h (by simp)
theorem ajU{c:List LnQ}(hok: ∀l∈c,l.ok)(hne: ∃p,InL c p): ∃e,afk c []=some e∧acf e∧(∀p,InD e p↔InL c p)∧ ∀s∈e,s.l∈c∧(adj s.l c IvQ.all).isSome=true:=by
 obtain⟨p,hp⟩:=hne
 obtain⟨e,he⟩:=akW acf.nil hok ⟨p,fun s hs=>absurd hs (by simp),hp⟩
 obtain⟨g1,g2⟩:=akO acf.nil hok he
 have g3: ∀p,InD e p↔InL c p:=fun p=>by
  rw[g2]
  exact⟨fun h=>h.2,fun h=>⟨fun s hs=>absurd hs (by simp),h⟩⟩
 refine⟨e,he,g1,g3,fun s hs=>?_⟩
 have hm:s.l∈c:=by
  rcases akR he s hs with h|⟨_,h,_⟩
  ·exact h
  ·exact absurd h (by simp)
 refine⟨hm,?_⟩
 cases hp:adj s.l c IvQ.all with
 |some w=>rfl
 |none=>
  exfalso
  obtain⟨p1,p2⟩:=g1.edge s hs
  have hC:=(p2 s.v.sample).1 (adA p1).has
  refine ahy s.l c _ ajM hp s.v.sample (aoc _) fun m hmc hne=>?_
  have hall: ∀p,InD e p→0<m.value p:=fun p hp=>(g3 p).1 hp m hmc
  have h0:=abU g1.ne hall hC
  have h1:m.value (s.l.at s.v.sample)≠0:=fun hz=>hne (atD g1 hs (hok m hmc) hall hz)
  grind
theorem agu{c:List LnQ}(hok: ∀l∈c,l.ok):acI c=true↔ ∃p,InL c p:=by
 unfold acI
 rw[iZ,List.isEmpty_iff,kN]
 constructor
 ·rintro (rfl|⟨l,hl,h⟩)
  ·exact⟨⟨0,0⟩,fun m hm=>absurd hm (by simp)⟩
  ·obtain⟨w,hw⟩:=Option.isSome_iff_exists.1 h
   obtain⟨w1,w2⟩:=ahm l c _ w ajM hw
   have hi:=((w2 w.sample).1 (adA w1)).2
   have h0:=ai9 (hok l hl).ne w.sample
   have hd:InD ((c.filter (fun m=>decide (m≠l))).map (fun m=>(⟨m,IvQ.all⟩:FrQ))) (l.at w.sample):=by
    intro s hs
    obtain⟨m,hm,rfl⟩:=bR.1 hs
    rw[kQ,decide_eq_true_iff] at hm
    exact hi m hm.1 hm.2
   obtain⟨e,he,ho⟩:=hd.open l.nor
   refine⟨aeF (l.at w.sample) l.nor e,fun m hm=>?_⟩
   by_cases hml:m=l
   ·subst hml
    rw[aci,h0]
    have:=aad he (ahP (hok m hl).ne)
    grind
   ·exact ho e (gN he) kU ⟨m,IvQ.all⟩ (bR.2 ⟨m,kQ.2 ⟨hm,by simpa using hml⟩,rfl⟩)
 ·intro hne
  obtain⟨e,h1,h2,h3,h4⟩:=ajU hok hne
  cases c with
  |nil=>exact .inl rfl
  |cons l c=>
   right
   cases e with
   |nil=>
    exfalso
    have:=(h3 (l.at 0)).1 (fun s hs=>absurd hs (by simp)) l aQ
    rw[ai9 (hok l aQ).ne] at this
    exact absurd this (by decide)
   |cons s e=>
    obtain⟨a,b⟩:=h4 s aQ
    exact⟨s.l,a,b⟩
def ae6(out:List LnQ)(l:LnQ):Nat:=(out.takeWhile (fun x=>decide (aaE x.dir l.dir<0))).length
def ac8(out:List LnQ)(l:LnQ):List LnQ:=if out[ae6 out l]? =some l then out else out.take (ae6 out l)++l::out.drop (ae6 out l)
def ae7(c:List LnQ):List LnQ→List LnQ→List LnQ
 |[],out=>out
 |l::t,out=>ae7 c t (if(adj l c IvQ.all).isSome then ac8 out l else out)
def abZ(c:List LnQ):List LnQ:=ae7 c c []
theorem ah2{out:List LnQ}{l m:LnQ}:m∈ac8 out l↔m=l∨m∈out:=by
 unfold ac8
 split
 ·rename_i h
  exact⟨fun h=> .inr h,fun h'=>h'.elim (fun e=>e▸bQ h) id⟩
 ·generalize ae6 out l=n
  have h:=jR n out
  rw[bV,aT]
  constructor
  ·rintro (h1|h1|h1)
   ·exact .inr (cM h1)
   ·exact .inl h1
   ·exact .inr (fN h1)
  ·rintro (h1|h1)
   ·exact .inr (.inl h1)
   ·rw[←h,bV] at h1
    rcases h1 with h1|h1
    ·exact .inl h1
    ·exact .inr (.inr h1)
theorem aj9{c:List LnQ}{m:LnQ}: ∀{t out:List LnQ},m∈ae7 c t out↔m∈out∨m∈t∧(adj m c IvQ.all).isSome=true
 |[],out=>by simp[ae7]
 |l::t,out=>by
  rw[ae7,aj9]
  split
  ·rename_i h
   rw[ah2,aT]
   constructor
   ·rintro ((rfl|h1)|⟨h1,h2⟩)
    ·exact .inr ⟨.inl rfl,h⟩
    ·exact .inl h1
    ·exact .inr ⟨.inr h1,h2⟩
   ·rintro (h1|⟨rfl|h1,h2⟩)
    ·exact .inl (.inr h1)
    ·exact .inl (.inl rfl)
    ·exact .inr ⟨h1,h2⟩
  ·rename_i h
   rw[aT]
   constructor
   ·rintro (h1|⟨h1,h2⟩)
    ·exact .inl h1
    ·exact .inr ⟨.inr h1,h2⟩
   ·rintro (h1|⟨rfl|h1,h2⟩)
    ·exact .inl h1
    ·exact absurd h2 h
    ·exact .inr ⟨h1,h2⟩
theorem acJ{c:List LnQ}{m:LnQ}:m∈abZ c↔m∈c∧(adj m c IvQ.all).isSome=true:=by
 unfold abZ;rw[aj9];simp
theorem agy{c:List LnQ}(hok: ∀l∈c,l.ok)(hne: ∃p,InL c p)(p:PtQ):InL (abZ c) p↔InL c p:=by
 constructor
 ·intro h
  obtain⟨e,h1,h2,h3,h4⟩:=ajU hok hne
  exact(h3 p).1 fun s hs=>h s.l (acJ.2 (h4 s hs))
 ·intro h m hm;exact h m (acJ.1 hm).1
def ad5(c:List LnQ)(l:LnQ):Int:=if acI (c++[l])&&acI (c++[l.rev]) then 0 else if acI (c++[l]) then 1 else-1
def Tr.restrictL:Tr→List LnQ→Tr
 | .leaf b,_=> .leaf b
 | .node l x y,c=>if ad5 c l=1 then x.restrictL c else if ad5 c l= -1 then y.restrictL c else joinQ l (x.restrictL (abZ (c++[l]))) (y.restrictL (abZ (c++[l.rev])))
theorem acj{c:List LnQ}{l:LnQ}{p:PtQ}:InL (c++[l]) p↔InL c p∧0<l.value p:=by
 unfold InL
 rw[qU]
 simp
theorem acm{c:List LnQ}{l:LnQ}(hok: ∀m∈c,m.ok)(hl:l.ok): ∀m∈c++[l],m.ok:=by
 rw[qU]
 exact⟨hok,by simpa using hl⟩
theorem Tr.restrictL_eq: ∀(t:Tr) (c:List LnQ) (d:aan),t.all LnQ.ok→(∀l∈c,l.ok)→acf d→(∀p,InD d p↔InL c p)→t.restrictL c=t.restrict d
 | .leaf b,c,d,_,_,_,_=>rfl
 | .node l x y,c,d,h,hc,hd,he=>by
  obtain⟨hl,hx,hy⟩:=h
  have i1:=agu (acm hc hl)
  have i2:=agu (acm hc hl.rev)
  obtain⟨p0,hp0⟩:=hd.ne
  rcases lies hd hl with⟨a1,a⟩|⟨a1,a2,a⟩|⟨a1,a2,ag1,ag2,ae1,ae2⟩
  ·have b1:acI (c++[l])=true:=i1.2 ⟨p0,acj.2 ⟨(he p0).1 hp0,a p0 hp0⟩⟩
   have b2:acI (c++[l.rev])=false:=by
    rw[←lL,i2]
    rintro ⟨p,hp⟩
    have hp:=acj.1 hp
    have:=a p ((he p).2 hp.1)
    rw[aaY] at hp
    grind
   rw[Tr.restrict_A _ _ a1,Tr.restrictL,ad5,b1,b2]
   exact x.restrictL_eq c d hx hc hd he
  ·have b2:acI (c++[l.rev])=true:=i2.2 ⟨p0,acj.2 ⟨(he p0).1 hp0,by rw[aaY];have:=a p0 hp0;grind⟩⟩
   have b1:acI (c++[l])=false:=by
    rw[←lL,i1]
    rintro ⟨p,hp⟩
    have hp:=acj.1 hp
    have:=a p ((he p).2 hp.1)
    grind
   rw[Tr.restrict_B _ _ a1 a2,Tr.restrictL,ad5,b1,b2]
   exact y.restrictL_eq c d hy hc hd he
  ·have n1: ∃p,InL (c++[l]) p:=by
    obtain⟨p,hp⟩:=ag1.ne
    exact⟨p,acj.2 ⟨(he p).1 ((ae1 p).1 hp).1,((ae1 p).1 hp).2⟩⟩
   have n2: ∃p,InL (c++[l.rev]) p:=by
    obtain⟨p,hp⟩:=ag2.ne
    exact⟨p,acj.2 ⟨(he p).1 ((ae2 p).1 hp).1,by rw[aaY];have:=((ae2 p).1 hp).2;grind⟩⟩
   rw[Tr.restrict_C _ _ a1 a2,Tr.restrictL,ad5,i1.2 n1,i2.2 n2]
   have k1:=x.restrictL_eq (abZ (c++[l])) (aaR d l) hx (fun m hm=>acm hc hl m (acJ.1 hm).1) ag1 fun p=>by
    rw[agy (acm hc hl) n1,ae1,acj,he]
   have k2:=y.restrictL_eq (abZ (c++[l.rev])) (aaR d l.rev) hy (fun m hm=>acm hc hl.rev m (acJ.1 hm).1) ag2 fun p=>by
    rw[agy (acm hc hl.rev) n2,ae2,acj,he,aaY]
    constructor<;>rintro ⟨a,b⟩<;>exact⟨a,by grind⟩
   rw[k1,k2]
   rfl
def crossI(l m:LnQ):Int:=l.a*m.b-m.a*l.b
def meetX(l m:LnQ):Int:=l.b*m.c-m.b*l.c
def meetY(l m:LnQ):Int:=m.a*l.c-l.a*m.c
def acM(l m:LnQ):PtQ:=if crossI l m=0 then⟨0,0⟩ else⟨(meetX l m:Rat)/(crossI l m:Rat),(meetY l m:Rat)/(crossI l m:Rat)⟩
def acn(l:LnQ)(p:PtQ):Rat:=p.dot l.dir/l.dir.dot l.dir
theorem ayU(l:LnQ):l.dir.dot l.dir=l.nor.dot l.nor:=by
 simp only[LnQ.dir,LnQ.nor,PtQ.dot];grind
theorem an0{l:LnQ}(h:l.Ne):0<l.dir.dot l.dir:=by rw[ayU];exact ahP h
theorem aeh(l m:LnQ):((crossI l m:Int):Rat)=(l.a:Rat)*m.b-(m.a:Rat)*l.b:=by
 unfold crossI;rw[pR,eJ,eJ]
theorem akA(l m:LnQ):((meetX l m:Int):Rat)=(l.b:Rat)*m.c-(m.b:Rat)*l.c:=by
 unfold meetX;rw[pR,eJ,eJ]
theorem akF(l m:LnQ):((meetY l m:Int):Rat)=(m.a:Rat)*l.c-(l.a:Rat)*m.c:=by
 unfold meetY;rw[pR,eJ,eJ]
theorem afR(l m:LnQ):l.cutK m= -((crossI l m:Int):Rat):=by
 rw[aeh];simp only[LnQ.cutK,LnQ.nor,LnQ.dir,PtQ.dot];grind
theorem apZ(l m:LnQ):m.dir.cross l.dir=l.cutK m:=by
 simp only[LnQ.cutK,LnQ.nor,LnQ.dir,PtQ.dot,PtQ.cross];grind
theorem ao6{l:LnQ}:(⟨-((l.c:Rat)/l.dir.dot l.dir)*(l.a:Rat), -((l.c:Rat)/l.dir.dot l.dir)*(l.b:Rat)⟩:PtQ)=l.base:=by
 unfold LnQ.base
 rw[ayU]
 simp only[LnQ.nor,PtQ.scale,PtQ.mk.injEq]
 constructor<;>grind
theorem aum(l:LnQ)(t:Rat):aeF l.base l.dir t=l.at t:=by
 simp only[aeF,LnQ.at,PtQ.add,PtQ.scale,PtQ.mk.injEq]
 constructor<;>grind
theorem afF{l m:LnQ}(hl:l.Ne)(h:crossI l m≠0):acn l (acM l m)= -(l.cutC m/l.cutK m):=by
 have hd:((crossI l m:Int):Rat)≠0:=fun e=>h (cY.1 e)
 have hn:=an0 hl
 obtain⟨q,q1,q2⟩:=anf hl
 rw[afR]
 unfold acn acM LnQ.cutC
 rw[if_neg h,q2,adO,akA,akF]
 have hc:=aeh l m
 rw[ayU] at hn⊢
 simp only[LnQ.dir,LnQ.nor,PtQ.dot] at hn q1⊢
 generalize ((crossI l m:Int):Rat)=d at*
 generalize (l.a:Rat)=a at*
 generalize (l.b:Rat)=b at*
 generalize (l.c:Rat)=c at*
 generalize (m.a:Rat)=x at*
 generalize (m.b:Rat)=y at*
 generalize (m.c:Rat)=z at*
 have hn':a*a+b*b≠0:=by grind
 have e:((b*z-y*c)/d*b+(x*c-a*z)/d* -a)=((b*z-y*c)*b-(x*c-a*z)*a)/d:=by grind
 rw[e]
 have k1:(b*z-y*c)*b-(x*c-a*z)*a=(a*a+b*b)*(x*(a*q)+y*(b*q)+z):=by grind
 rw[k1]
 grind
theorem arr{l m:LnQ}(hl:l.Ne)(h:crossI l m≠0):acn l (acM l m)*((crossI l m*(l.a*l.a+l.b*l.b):Int):Rat)=((meetX l m*l.b-meetY l m*l.a:Int):Rat):=by
 have hd:((crossI l m:Int):Rat)≠0:=fun e=>h (cY.1 e)
 have hn:=an0 hl
 unfold acn acM
 rw[if_neg h]
 simp only[eJ,pR,pS]
 simp only[LnQ.dir,PtQ.dot] at hn⊢
 generalize ((crossI l m:Int):Rat)=d at*
 generalize ((meetX l m:Int):Rat)=x at*
 generalize ((meetY l m:Int):Rat)=y at*
 generalize (l.a:Rat)=a at*
 generalize (l.b:Rat)=b at*
 have hn':b*b+ -a* -a≠0:=by grind
 grind
theorem ahp(l m:LnQ)(t:List LnQ)(v:IvQ):adj l (m::t) v=if m=l then adj l t v else if l.cutB v m then adj l t (l.cutV v m) else none:=rfl
def ah4(v:IvQ)(t:Rat):IvQ:=if v.nl=true∨0<aa0 t v.lo then⟨t,v.hi,false,v.nh⟩ else v
def aic(v:IvQ)(t:Rat):IvQ:=if v.nh=true∨aa0 t v.hi<0 then⟨v.lo,t,v.nl,false⟩ else v
structure IvZ (v:IvQ):Prop where
 lo:v.nl=true→v.lo=0
 hi:v.nh=true→v.hi=0
theorem atH(a b:Rat):0<aa0 a b↔b<a:=by
 unfold aa0;split
 ·constructor
  ·intro h;exact absurd h (by decide)
  ·intro h;grind
 ·split
  ·exact⟨fun _=>by assumption,fun _=>by decide⟩
  ·constructor
   ·intro h;exact absurd h (by decide)
   ·intro h;exact absurd h (by assumption)
theorem aji(a b:Rat):aa0 a b<0↔a<b:=by
 unfold aa0;split
 ·exact⟨fun _=>by assumption,fun _=>by decide⟩
 ·split
  ·constructor
   ·intro h;exact absurd h (by decide)
   ·intro h;grind
  ·constructor
   ·intro h;exact absurd h (by decide)
   ·intro h;exact absurd h (by assumption)
theorem aka{v:IvQ}(h:IvZ v)(t:Rat):ah4 v t=v.meet ⟨t,0,false,true⟩:=by
 obtain⟨lo,hi,nl,nh⟩:=v
 obtain⟨h1,h2⟩:=h
 unfold ah4 IvQ.meet
 simp only[atH] at*
 cases nl<;>cases nh<;>simp at* <;>(try (split<;>split<;>simp_all<;>grind))<;>grind
theorem ako{v:IvQ}(h:IvZ v)(t:Rat):aic v t=v.meet ⟨0,t,true,false⟩:=by
 obtain⟨lo,hi,nl,nh⟩:=v
 obtain⟨h1,h2⟩:=h
 unfold aic IvQ.meet
 simp only[aji] at*
 cases nl<;>cases nh<;>simp at* <;>(try (split<;>split<;>simp_all<;>grind))<;>grind
theorem IvZ.all:IvZ IvQ.all:=⟨fun _=>rfl,fun _=>rfl⟩
theorem IvZ.lo'{v:IvQ}(h:IvZ v)(t:Rat):IvZ (ah4 v t):=by
 obtain⟨lo,hi,nl,nh⟩:=v
 unfold ah4;split
 ·exact⟨fun h=>by simp at h,h.hi⟩
 ·exact h
theorem IvZ.hi'{v:IvQ}(h:IvZ v)(t:Rat):IvZ (aic v t):=by
 obtain⟨lo,hi,nl,nh⟩:=v
 unfold aic;split
 ·exact⟨h.lo,fun h=>by simp at h⟩
 ·exact h
theorem agJ{l m:LnQ}{v:IvQ}(h:crossI l m=0):l.cutV v m=v∧(l.cutB v m=true↔0<m.value l.base):=by
 have hk:l.cutK m=0:=by rw[afR,h];rfl
 exact ag4 v hk
theorem ayZ{l m:LnQ}{v:IvQ}(hl:l.Ne)(hz:IvZ v)(h:0<m.dir.cross l.dir):crossI l m≠0∧l.cutV v m=ah4 v (acn l (acM l m))∧l.cutB v m=!(ah4 v (acn l (acM l m))).empty:=by
 rw[apZ] at h
 have hc:crossI l m≠0:=fun e=>by rw[afR,e] at h;exact absurd h (by decide)
 obtain⟨h1,h2⟩:=ami v h
 refine⟨hc,?_,?_⟩
 ·rw[aka hz,afF hl hc,h1]
 ·rw[aka hz,afF hl hc,←h1]
  rw[←agN] at h2
  cases hb:l.cutB v m<;>cases he:(l.cutV v m).empty<;>simp_all
theorem aAE{l m:LnQ}{v:IvQ}(hl:l.Ne)(hz:IvZ v)(h0:crossI l m≠0)(h: ¬0<m.dir.cross l.dir):l.cutV v m=aic v (acn l (acM l m))∧l.cutB v m=!(aic v (acn l (acM l m))).empty:=by
 rw[apZ] at h
 have hk:l.cutK m≠0:=fun e=>by
  rw[afR] at e
  have:((crossI l m:Int):Rat)=0:=by grind
  exact h0 (cY.1 this)
 obtain⟨h1,h2⟩:=amH (l:=l) (m:=m) v (by grind)
 refine⟨?_,?_⟩
 ·rw[ako hz,afF hl h0,h1]
 ·rw[ako hz,afF hl h0,←h1]
  rw[←agN] at h2
  cases hb:l.cutB v m<;>cases he:(l.cutV v m).empty<;>simp_all
def relo(fl:Nat→Bool)(o:Own):Own:={o with lo:=fl o.b}
structure FnO (P:Program) (f:FuncId) (vs:List Value) (M:List Own) (G:Gh) (K:Value→List Own→Gh→Prop):Prop where
 able:ads P f
 run: ∀w,acb ⟨w,G,M.map (·.b)⟩ (asB M) G w→
  Calls P f ⟨vs⟩ w fun e w'=> ∃v own' G',e= .returned v∧acb ⟨w,G,M.map (·.b)⟩ own' G' w'∧K v own' G'
def flM(M:List Own)(b:Nat):Bool:=M.all fun m=>!Nat.beq m.b b||m.lo
theorem acb.calledO{C:Ctx}{M rest own':List Own}{G G':Gh}{w w':World}(h:acb C (M++rest) G w)(k:acb ⟨w,G,M.map (·.b)⟩ own' G' w'):
  acb C (own'.map (relo (flM M))++rest) G' w':=by
 have hsz:w.heap.size≤w'.heap.size:=k.size
 have hnd:=h.nd
 have inM: ∀b,b∈M.map (·.b)→ ∀o∈rest,o.b≠b:=fun b hb o ho e=>by
  obtain⟨m,hm,rfl⟩:=bR.1 hb
  exact(gU.1 hnd).2.2 m hm o ho e.symm
 have bnd: ∀o∈own',o.b∉M.map (·.b)→w.heap.size≤o.b:=fun o ho hb=>by
  obtain⟨_,_,h3,h4⟩:=k.hown o ho
  cases hlo:o.lo with
  |true=>exact h3 hlo
  |false=>exact absurd (h4 hlo) hb
 refine⟨k.os.trans h.os,k.tape.trans h.tape,k.output.trans h.output,cV h.size hsz,?_,k.sub,h.gle.trans k.gle,?_,?_,?_,cV h.dr k.dr⟩
 ·intro b hb hm
  have hs:=h.size
  have hnM:b∉M.map (·.b):=fun hb'=>by
   obtain⟨m,hmM,rfl⟩:=bR.1 hb'
   obtain⟨_,_,h3,h4⟩:=h.hown m (bN _ hmM)
   cases hlo:m.lo with
   |true=>have:=h3 hlo;omega
   |false=>exact hm (h4 hlo)
  rw[k.keep b (by show b<w.heap.size;omega) hnM];exact h.keep b hb hm
 ·intro b hb;have:=h.size;rw[k.gold b (by show b<w.heap.size;omega)];exact h.gold b hb
 ·intro o ho
  have hs:=h.size
  rcases bV.1 ho with ho|ho
  ·obtain⟨o',ho',rfl⟩:=bR.1 ho
   obtain⟨k1,k2,k3,k4⟩:=k.hown _ ho'
   refine⟨k1,k2,fun hl=>?_,fun hl=>?_⟩
   ·show C.w0.heap.size≤o'.b
    by_cases hb:o'.b∈M.map (·.b)
    ·obtain⟨m,hm,hmb⟩:=bR.1 hb
     have hl':flM M o'.b=true:=hl
     have:=gJ.1 hl' m hm
     simp only[hmb,iZ,gX,mM] at this
     obtain⟨_,_,h3,_⟩:=h.hown m (bN _ hm)
     rw[←hmb]
     exact h3 (by rcases this with h|h;(cases h);(exact h))
    ·have:=bnd o' ho' hb;omega
   ·show o'.b∈C.mb
    have hl':flM M o'.b=false:=hl
    obtain⟨m,hm,hmb⟩:=List.all_eq_false.1 hl'
    simp only[iZ,gX,not_or] at hmb
    obtain⟨h1,h2⟩:=hmb
    have e:m.b=o'.b:=by
     cases hq:Nat.beq m.b o'.b with
     |true=>exact aU hq
     |false=>exact absurd hq h1
    obtain⟨_,_,_,h4⟩:=h.hown m (bN _ hm)
    rw[←e]
    exact h4 (by cases hq:m.lo with
     |true=>exact absurd hq h2
     |false=>rfl)
  ·obtain⟨h1,h2,h3⟩:=h.hown o (cJ _ ho)
   have hnM:o.b∉M.map (·.b):=fun hb=>inM _ hb o ho rfl
   exact⟨by rw[k.keep _ (acX h1) hnM];exact h1,by rw[k.gold _ (acX h1)];exact h2,h3⟩
 ·refine gU.2 ⟨?_,(gU.1 hnd).2.1,?_⟩
  ·rw[qV];exact k.nd
  ·intro x hx y hy
   obtain⟨o',ho',rfl⟩:=bR.1 hx
   show o'.b≠y.b
   by_cases hb:o'.b∈M.map (·.b)
   ·exact fun e=>inM _ hb y hy e.symm
   ·have h1:=bnd o' ho' hb
    have h2:=acX (h.hown y (cJ _ hy)).1
    omega
def af2(C:Ctx)(K:Value→List Own→Gh→Prop):Ending→World→Prop:=fun e w'=> ∃v own' G',e= .returned v∧acb C own' G' w'∧K v own' G'
theorem FnO.intro{P:Program}{G:Gh}{f:FuncId}{fn:Func}{c:Code}{vs:List Value}{m:Nat}{M:List Own}{K:Value→List Own→Gh→Prop}(hf:P.funcs[f]? =some fn)(hb:fn.body=some c)(hn:(fn.name== "runtime.NumGoroutine")=false)(hm:fn.ntmps=m)(hlen:Nat.ble vs.length m=true)
  (h: ∀C:Ctx,C.G0=G→C.mb=M.map (·.b)→St C m (ajr 0 vs) (asB M) G (c.wp P (bodyPost P fn (af2 C K)))):FnO P f vs M G K:=by
 refine⟨⟨fn,hf,hn,by simp[hb]⟩,fun w hw=>?_⟩
 have hlen':vs.length≤m:=by simpa using hlen
 have:=calls_of_wp (P:=P) (f:=f) (args:=⟨vs⟩) (w:=w) (R:=af2 ⟨w,G,M.map (·.b)⟩ K) hf hb (h ⟨w,G,M.map (·.b)⟩ J J _ w
  ⟨hw,by simp;omega,fun k v hk=>by
   obtain⟨j,rfl,hj⟩:=aeq vs 0 k v hk
   have hj':=(aN.1 hj).1
   rw[mQ (by simpa using hj')]
   simpa using hj,rfl⟩)
 exact this
section
variable {P:Program} {C:Ctx} {n:Nat} {fr:Fr} {own own':List Own} {G:Gh} {Φ:Act→World→Prop}
variable {dst:Option Nat} {t t' ty':TypeId} {pos:String} {af:Array Edge} {gd:Option (Nat×Bool)} {x y:Operand}
theorem aeH{fn:Func}{K:Value→List Own→Gh→Prop}{vs:List Value}(hr:RVs P fr own fn.results.toList vs)(own2 own3:List Own)(hp:own.Perm own2)(hs:own3.Sublist own2)(hk:K (abO vs) own3 G):St C n fr own G (bodyPost P fn (af2 C K) .ret):=
 fun a w rl=>⟨rl.df,_,ac3 hr rl.fr rl.h,_,own3,G,rfl,(rl.h.perm hp).drop hs,hk⟩
theorem amL{f:FuncId}{fo:Operand}{args:Array Operand}{tys:Array TypeId}{vs c1 c2:List Value}{M rest:List Own}{K:Value→List Own→Gh→Prop}(ho:opv fr fo=some (.func (.func f) ⟨c1⟩ ⟨c2⟩))(hv:af4 fr args.toList=some vs)
  (hp:own.Perm (M++rest))(hF:FnO P f (c1++vs++c2) M G K)(hd:aaN n dst=true)(h: ∀v own1 (G':Gh),[GE G G']→K v own1 G'→St C n (put fr dst v) (own1.map (relo (flM M))++rest) G' Φ):
  Ch P C n fr own G ⟨dst, .call ⟨.value fo,args,tys⟩,ty',pos,af,gd⟩ Φ:=by
 intro a w Q rl
 have h2:=aie (P:=P) (dst:=dst) (ty':=ty') (pos:=pos) (af:=af) (gd:=gd) (tys:=tys) (w:=w) hF.able rl.fr ho hv
 simp only[Oper.wp,h2,Oper.upon]
 have hh0:=rl.h.perm hp
 refine(hF.run w hh0.lend).mono ?_
 rintro e w' ⟨v,own1,G',rfl,hh,hK⟩
 exact @h v own1 G' ⟨hh.gle⟩ hK _ _ ((rl.heap (hh0.calledO hh)).put _ hd)
theorem ad3{f:FuncId}{fo:Operand}{args:Array Operand}{tys:Array TypeId}{vs:List Value}{M rest:List Own}{K:Value→List Own→Gh→Prop}(ho:opv fr fo=some (.func (.func f) #[] #[]))(hv:af4 fr args.toList=some vs)
  (hp:own.Perm (M++rest))(hF:FnO P f vs M G K)(hd:aaN n dst=true)(h: ∀v own1 (G':Gh),[GE G G']→K v own1 G'→St C n (put fr dst v) (own1.map (relo (flM M))++rest) G' Φ):
  Ch P C n fr own G ⟨dst, .call ⟨.value fo,args,tys⟩,ty',pos,af,gd⟩ Φ:=
 amL (c1:=[]) (c2:=[]) ho hv hp (by simpa using hF) hd h
theorem aDe{b:Nat}{cs:List Value}{ty:TypeId}{lo:Bool}(hC:C.mb=[])(h:St C n fr (⟨b,cs,ty,true⟩::own) G Φ):St C n fr (⟨b,cs,ty,lo⟩::own) G Φ:=by
 intro a w rl
 cases lo with
 |true=>exact h a w rl
 |false=>
  have:=(rl.h.hown _ aQ).2.2.2 rfl
  rw[hC] at this;cases this
end
section
variable {P:Program} {C:Ctx} {n:Nat} {fr:Fr} {own own' own1:List Own} {G:Gh} {Φ:Act→World→Prop}
variable {dst:Option Nat} {t t' ty':TypeId} {pos:String} {af:Array Edge} {gd:Option (Nat×Bool)} {x y:Operand} {e s by_:Nat}
theorem afx{v:Value}{b off k:Nat}{cs cs':List Value}{ty:TypeId}{lo:Bool}(hx:opv fr x=some (.pointer (some ⟨b,off,none⟩)))(hy:opv fr y=some v)[hs:TyA P t k][ho:OAt own b cs ty lo]
  (hc:ovw cs off (aae v)=cs')(hu:agp own b cs ty lo cs' own')(hk:(aae v).length=k)(hl:off+k≤cs.length)(hf:(aae v).all flat=true)(hd:aaN n dst=true)(h:St C n (put fr dst undef) own' G Φ):
  Ch P C n fr own G ⟨dst, .store t x y,ty',pos,af,gd⟩ Φ:=al2 hx hy (hc▸hu) hk hl hf hd h
theorem abI{v:Value}{b off:Nat}{cs cs':List Value}{ty:TypeId}{lo:Bool}(hx:opv fr x=some (.pointer (some ⟨b,off,none⟩)))(hy:opv fr y=some v)[hs:TyS P t][ho:OAt own b cs ty lo]
  (hc:cs.set off v=cs')(hu:agp own b cs ty lo cs' own')(hl:off<cs.length)(hf:flat v=true)(hd:aaN n dst=true)(h:St C n (put fr dst undef) own' G Φ):
  Ch P C n fr own G ⟨dst, .store t x y,ty',pos,af,gd⟩ Φ:=acS hx hy (hc▸hu) hl hf hd h
theorem aDH[hT:acz P t e s by_]{ad:Option Addr}{len cap:Nat}(hx:opv fr x=some (.slice ad len cap)):
  Yd P C fr own G ⟨dst, .call ⟨.builtin .cap, #[x], #[t]⟩,ty',pos,af,gd⟩ (.int .i64 cap):=by
 intro a w hf hh
 simp only[execOp,resolve,fR,bY,gW,aac hf hx]
 have h1:(Builtin.cap_ #[t] ty' #[.slice ad len cap]).run P w= .ok (.int .i64 cap) w:=by
  simp only[Builtin.cap_]
  show(underlying t>>=_).run P w=_
  rw[aaa (hT.u w)]
  rfl
 exact aam h1
theorem axr{w:World}[hT:acz P t e s by_]{b off l c l2 c2 m:Nat}{ad2:Option Addr}{cs ys:List Value}{ty:TypeId}(hm:Nat.min l2 l=m)
  (hb:w.heap[b]? =some (.cells ⟨cs⟩ ty (0,0)))(hsy:(Builtin.firstCells s m (.slice ad2 l2 c2)).run P w= .ok ⟨ys⟩ w)(hf: ∀v∈ys,flat v=true)(hl:off+ys.length≤cs.length):
  (Builtin.copy_ #[t,t'] ty' #[.slice (some ⟨b,off,none⟩) l c, .slice ad2 l2 c2]).run P w=
   .ok (.int .i64 m) (abx w b (.cells ⟨ovw cs off ys⟩ ty (0,0))):=by
 obtain⟨i,hi,his,hib⟩:=hT.info
 subst his
 have hst:=abS (P:=P) ys w off 0 cs hf hb (by omega)
 rw[dY] at hst
 subst hm
 simp[Builtin.copy_,run_underlying hT.un,sizeOf,typeInfo,hi,Builtin.lenOf,hsy,hst]
 rfl
theorem aso[hT:acz P t e s by_]{b off l c l2 c2 m:Nat}{ad2:Option Addr}{cs ys:List Value}{ty:TypeId}{lo:Bool}(hx:opv fr x=some (.slice (some ⟨b,off,none⟩) l c))(hy:opv fr y=some (.slice ad2 l2 c2))
  (hm:Nat.min l2 l=m)(hsy:Src P C own G s m (.slice ad2 l2 c2) ys)(hf: ∀v∈ys,flat v=true)(hl:off+ys.length≤cs.length)(hu:agp own b cs ty lo (ovw cs off ys) own')(hd:aaN n dst=true)
  (h:St C n (put fr dst (.int .i64 m)) own' G Φ):Ch P C n fr own G ⟨dst, .call ⟨.builtin .copy, #[x,y], #[t,t']⟩,ty',pos,af,gd⟩ Φ:=by
 intro a w Q rl
 have hb:=(rl.h.hown _ (hu.spec rl.h.nd).1).1
 refine aba (v:= .int .i64 m) (w':=abx w b (.cells ⟨ovw cs off ys⟩ ty (0,0))) ?_ (h _ _ ((rl.heap (rl.h.store hu)).put _ hd))
 simp only[execOp,resolve,fR,bY,gW,aac rl.fr hx,aac rl.fr hy]
 exact aam (axr hm hb (hsy w rl.h) hf hl)
theorem af6[hT:acz P t e s by_][hN:TyN P t']{b len cap m cap2:Nat}{ad2:Option Addr}{cs ys:List Value}{lo:Bool}
  (hx:opv fr x=some (.slice (some ⟨b,0,none⟩) len cap))(hy:opv fr y=some (.slice ad2 m cap2))(hu:agp own b cs e lo (ovw cs (len*s) ys) own')(hcs:cs.length=cap*s)
  (hsy:Src P C own G s m (.slice ad2 m cap2) ys)(hys:ys.length=m*s)(hf: ∀v∈ys,flat v=true)(hneed:len+m≤cap)(hd:aaN n dst=true)
  (h:St C n (put fr dst (.slice (some ⟨b,0,none⟩) (len+m) cap)) own' G Φ):
  Ch P C n fr own G ⟨dst, .call ⟨.builtin .append, #[x,y], #[t,t']⟩,ty',pos,af,gd⟩ Φ:=by
 intro a w Q rl
 have hb:=(rl.h.hown _ (hu.spec rl.h.nd).1).1
 refine aba (v:= .slice (some ⟨b,0,none⟩) (len+m) cap) (w':=abx w b (.cells ⟨ovw cs (len*s) ys⟩ e (0,0))) ?_ (h _ _ ((rl.heap (rl.h.store hu)).put _ hd))
 simp only[execOp,resolve,fR,bY,gW,aac rl.fr hx,aac rl.fr hy]
 exact aam (adD hb hcs (hsy w rl.h) hys hf hneed)
theorem aeX[hT:acz P t e s by_][hN:TyN P t']{z:Value}[hz:TyZ P e z]{b len cap m cap2:Nat}{ad2:Option Addr}{xs ys rest:List Value}{lo:Bool}
  (hx:opv fr x=some (.slice (some ⟨b,0,none⟩) len cap))(hy:opv fr y=some (.slice ad2 m cap2))(hr:akQ own ⟨b,xs++rest,e,lo⟩ own1)(hxs:xs.length=len*s)(hcap:xs.length+rest.length=cap*s)(hlc:len≤cap)
  (hsy:Src P C own G s m (.slice ad2 m cap2) ys)(hys:ys.length=m*s)(hf: ∀v∈ys,flat v=true)
  (hby:0<by_)(hb:(len+m)*by_≤140737488355328)(hzs:(aae z).length=s)(hd:aaN n dst=true)
  (h: ∀b lo' cap' rest',len+m≤cap'→rest'.length+(len+m)*s=cap'*s→St C n (put fr dst (.slice (some ⟨b,0,none⟩) (len+m) cap')) (⟨b,xs++ys++rest',e,lo'⟩::own1) G Φ):
  Ch P C n fr own G ⟨dst, .call ⟨.builtin .append, #[x,y], #[t,t']⟩,ty',pos,af,gd⟩ Φ:=by
 intro a w Q rl
 have hp:=rl.h.perm hr.perm
 have hblk:=(hp.hown _ aQ).1
 simp only[] at hblk
 by_cases hneed:len+m≤cap
 ·have hcs:(xs++rest).length=cap*s:=by simp;omega
  have hrun:=adD (P:=P) (t:=t) (t':=t') (ty':=ty') (w:=w) (len:=len) hblk hcs (hsy w rl.h) hys hf hneed
  have hle:len*s+m*s≤cap*s:=by rw[←cW];exact bU _ hneed
  have hov:ovw (xs++rest) (len*s) ys=xs++ys++rest.drop (m*s):=by
   rw[acs _ _ _ (by rw[hys];omega),←hxs]
   simp[hys,lR]
  refine aba (v:= .slice (some ⟨b,0,none⟩) (len+m) cap) (w':=abx w b (.cells ⟨ovw (xs++rest) (len*s) ys⟩ e (0,0))) ?_ ?_
  ·simp only[execOp,resolve,fR,bY,gW,aac rl.fr hx,aac rl.fr hy]
   exact aam hrun
  ·rw[hov]
   refine h b lo cap (rest.drop (m*s)) hneed ?_ _ _ ((rl.heap (hp.store (.hd ..))).put _ hd)
   rw[gK,cW]
   omega
 ·have hx':Src P C own G s len (.slice (some ⟨b,0,none⟩) len cap) xs:=fun w' hw'=>by
   have hb':=(((hw'.perm hr.perm).hown _ aQ).1)
   refine adt hb' ?_
   rw[abL _ _ _ (by simp;omega),←hxs]
   simp
  have hcap':len+m≤grownCap w (len+m) cap e:=by unfold grownCap;simp only[Question.cut];omega
  have hrun:=adI (P:=P) (t:=t) (t':=t') (ty':=ty') (w:=w) (w':=w) (hx' _ rl.h.drew) (hsy _ rl.h.drew) (by omega) hby hb
  refine aba (v:= .slice (some ⟨w.heap.size,0,none⟩) (len+m) (grownCap w (len+m) cap e)) (w':=w.drew.alloc (.cells ⟨xs++ys++aa2 z (grownCap w (len+m) cap e-(len+m))⟩ e)) ?_ ?_
  ·simp only[execOp,resolve,fR,bY,gW,aac rl.fr hx,aac rl.fr hy]
   exact aam hrun
  ·refine h w.heap.size _ _ _ hcap' ?_ _ _ ((rl.heap (((hp.drew).drop (lV _ _)).alloc _ _)).put _ hd)
   rw[abu,hzs,←cW]
   congr 1
   omega
theorem an8{f:FuncId}{fn:Func}{tS tR:TypeId}(hf:P.funcs[f]? =some fn)(hname:(fn.name== "runtime.NumGoroutine")=false)(hb:fn.body.isNone=true)(hn:Extern.findNext fn=none)
  (he:Extern.find fn=some (Extern.SlicesOverlaps.overlaps #[tS,tS] #[tR]))[hT:acz P tS e s by_]{args:Array Operand}{tys:Array TypeId}{fo:Operand}
  {b1 b2 o1 o2 l1 l2 c1 c2:Nat}{cs1 cs2:List Value}{t1 t2:TypeId}{lo1 lo2:Bool}(ho:opv fr fo=some (.func (.func f) #[] #[]))
  (hv:af4 fr args.toList=some [.slice (some ⟨b1,o1,none⟩) l1 c1, .slice (some ⟨b2,o2,none⟩) l2 c2])[h1:OAt own b1 cs1 t1 lo1][h2:OAt own b2 cs2 t2 lo2](hne:b1≠b2)(hc2:cs2≠[]):
  Yd P C fr own G ⟨dst, .call ⟨.value fo,args,tys⟩,ty',pos,af,gd⟩ (.bool false):=by
 intro a w hfr hh
 have e1:=(hh.hown _ h1.mem).1
 have e2:=(hh.hown _ h2.mem).1
 have ev:args.map a.eval=⟨[.slice (some ⟨b1,o1,none⟩) l1 c1, .slice (some ⟨b2,o2,none⟩) l2 c2]⟩:=by apply Array.ext';simpa using ajA hfr hv
 simp only[] at e1 e2
 have hrun:=Lib.run_overlaps_apart (P:=P) w tS tR e hT.un s hT.siz ⟨b1,o1,none⟩ ⟨b2,o2,none⟩ l1 c1 l2 c2 hne t1 t2 cs1.length cs2.length
  (by simp[World.shape?,e1]) (by simp[World.shape?,e2]) (by simpa using hc2) (by simp[World.frozen?,e1]) (by simp[World.frozen?,e1])
 simp only[execOp,resolve,aac hfr ho,ev,Deferred.ofValue]
 show(invoke (.fn (.func f) #[]) _).run P w=_
 simp only[invoke]
 have h3:=run_callFunc_extern (P:=P) hf hname hb hn he
 rw[h3]
 simp[hrun,Result.andThen]
end
instance ali.cons2 (l m:List Own) (o:Own) [h:ali l m]:ali (o::l) (o::m):=⟨h.s.cons_cons o⟩
theorem dr0{P:Program}{C:Ctx}{n:Nat}{fr:Fr}{own own0:List Own}{G:Gh}{ops:Array Oper}{Q:Exit→Act→World→Prop}{b:Nat}{cs:List Value}{ty:TypeId}{lo:Bool}(fin:Nat→Bool)(π:List (Nat×Bool)){id:Nat}(hm:P.follows .mixedOrders=true)(_hr:akQ own ⟨b,cs,ty,lo⟩ own0)(ho:(adL ops fin π (Array.replicate ops.size false)&&Nat.ble π.length ops.size)=true)
  (h:St C n fr own G (dwL P ops (acC Q) (HS C own0 G) fin π)):St C n fr own G ((Code.region id ops true).wp P Q):=by
 simp only[cZ] at ho
 intro a w rl
 exact wp_mono (wp_region_any hm (afG _ _ _ _ (ab5 (fun _ _ _ _ _ h=>h) π _ a _ ho.1 (h a _ (rl.heap rl.h.drew)) _ (by simpa using ho.2)))) acC.imp
/-! ### rows of values of several cells -/
def aag(vs:List Value):List Value:=(vs.map aae).flatten
theorem aao{s:Nat}: ∀(vs:List Value),(∀v∈vs,(aae v).length=s)→(aag vs).length=vs.length*s
 |[],_=>by simp[aag]
 |v::vs,h=>by
  have h1:=aao vs (fun u hu=>h u (aX _ hu))
  have h2:=h v aQ
  unfold aag at*
  simp only[bY,kV,aV,bJ,h1,h2,fM]
  omega
theorem abf(us vs:List Value):aag (us++vs)=aag us++aag vs:=by simp[aag]
theorem adE(v:Value):aag [v]=aae v:=by simp[aag]
theorem afS{s:Nat}: ∀(vs:List Value) (i:Nat),(∀v∈vs,(aae v).length=s)→i≤vs.length→(aag vs).take (i*s)=aag (vs.take i)
 |vs,0,_,_=>by simp[aag]
 |[],i+1,_,h=>by simp at h
 |v::vs,i+1,h,hi=>by
  have h1:=afS vs i (fun u hu=>h u (aX _ hu)) (by simpa using hi)
  have h2:=h v aQ
  unfold aag at*
  simp only[bY,kV,nX]
  rw[List.take_append,h2,aY (by rw[h2,fM];omega),fM,kX,h1]
theorem afT{s:Nat}: ∀(vs:List Value) (i:Nat),(∀v∈vs,(aae v).length=s)→i≤vs.length→(aag vs).drop (i*s)=aag (vs.drop i)
 |vs,0,_,_=>by simp
 |[],i+1,_,h=>by simp at h
 |v::vs,i+1,h,hi=>by
  have h1:=afT vs i (fun u hu=>h u (aX _ hu)) (by simpa using hi)
  have h2:=h v aQ
  unfold aag at*
  simp only[bY,kV,rM]
  rw[lR,h2,jW (by rw[h2,fM];omega),fM,kX,h1,iS]
theorem ahz{s:Nat}{vs rest:List Value}(h: ∀v∈vs,(aae v).length=s){i:Nat}(hi:i<vs.length):aaX (aag vs++rest) (i*s) s=some (aae vs[i]):=by
 have hl:=aao vs h
 have hle:i*s+s≤vs.length*s:=by rw[←fM];exact bU _ hi
 rw[abL _ _ _ (by simp only[aV];omega)]
 congr 1
 rw[iR (by omega),afT vs i h (by omega),aM hi]
 have h2:=h vs[i] (cX hi)
 rw[show(vs[i]::vs.drop (i+1))=[vs[i]]++vs.drop (i+1) from rfl,abf,adE,cR,dW (by omega),aY (by omega)]
theorem ae8.of_flat{G:Gh}{b c s:Nat}{vs rest:List Value}(h: ∀v∈vs,(aae v).length=s)(hg:G b=some (aag vs++rest))(hc:vs.length≤c):ae8 G s ⟨some ⟨b,0,none⟩,vs.length,c⟩ vs:=
 ⟨rfl,hc, .inr ⟨b,0,_,rfl,hg,fun i hi=>by rw[dK];exact ahz h hi⟩⟩
section
variable {P:Program} {C:Ctx} {n:Nat} {fr:Fr} {own own':List Own} {G:Gh} {Φ:Act→World→Prop}
variable {dst:Option Nat} {ty':TypeId} {pos:String} {af:Array Edge} {gd:Option (Nat×Bool)} {x y:Operand} {tys:Array TypeId}
theorem drS{ops:Array Oper}{Q:Exit→Act→World→Prop}(own0:List Own)(fin:Nat→Bool)(π:List (Nat×Bool)){id:Nat}(hm:P.follows .mixedOrders=true)(ho:(adL ops fin π (Array.replicate ops.size false)&&Nat.ble π.length ops.size)=true)
  (h:St C n fr own G (dwL P ops (acC Q) (HS C own0 G) fin π)):St C n fr own G ((Code.region id ops true).wp P Q):=by
 simp only[cZ] at ho
 intro a w rl
 exact wp_mono (wp_region_any hm (afG _ _ _ _ (ab5 (fun _ _ _ _ _ h=>h) π _ a _ ho.1 (h a _ (rl.heap rl.h.drew)) _ (by simpa using ho.2)))) acC.imp
end
section
variable {P:Program} {ops:Array Oper} {Q:Exit→Act→World→Prop} {S:World→Prop} {fin:Nat→Bool} {π₂:List (Nat×Bool)}
def without(l:List Nat)(k:Nat):List Nat:=l.filter fun j=>!Nat.beq j k
theorem ahC{l:List Nat}{k:Nat}(h:k∈l):(without l k).length<l.length:=by
 unfold without
 rw[oK]
 exact⟨k,h,by simp⟩
def ahk(ops:Array Oper)(fin:Nat→Bool)(π₂:List (Nat×Bool)):Nat→List Nat→List (Nat×Bool)→Array Bool→Bool
 |0,_,_,_=>false
 |_+1,[],[],listed=>adL ops fin π₂ listed
 |n+1,k::ks,[],listed=>!(Region.ready .any ops listed).isEmpty&&(Region.ready .any ops listed).all (fun j=>(k::ks).contains j)&&(k::ks).all fun j=>ahk ops fin π₂ n (without (k::ks) j) [] (listed.setIfInBounds j true)
 |n+1,ks,(i,true)::r,listed=>akc ops fin listed i&&ahk ops fin π₂ n ks r (listed.setIfInBounds i true)
 |n+1,ks,(i,false)::r,listed=>!(Region.ready .any ops listed).isEmpty&&(Region.ready .any ops listed).all (fun j=>Nat.beq j i||ks.contains j)&&ahk ops fin π₂ n ks r (listed.setIfInBounds i true)&&ks.all fun j=>ahk ops fin π₂ n (without ks j) ((i,false)::r) (listed.setIfInBounds j true)
def dwG(P:Program)(ops:Array Oper)(Q:Exit→Act→World→Prop)(S:World→Prop)(fin:Nat→Bool)(π₂:List (Nat×Bool)):List Nat→List (Nat×Bool)→Act→World→Prop
 |[],[],a,w=>dwL P ops Q S fin π₂ a w
 |k::ks,[],a,w=> ∀j,(h:j∈k::ks)→wpOp P ops Q j (fun a' w'=>(fin j=true∨S w')∧dwG P ops Q S fin π₂ (without (k::ks) j) [] a' w') a w
 |ks,(i,true)::r,a,w=> ∃o v,ops[i]? =some o∧S w∧YieldsIf P ops S o v a∧dwG P ops Q S fin π₂ ks r (a.put o.dst v) w
 |ks,(i,false)::r,a,w=>wpOp P ops Q i (fun a' w'=>(fin i=true∨S w')∧dwG P ops Q S fin π₂ ks r a' w') a w∧
   ∀j,(h:j∈ks)→wpOp P ops Q j (fun a' w'=>(fin j=true∨S w')∧dwG P ops Q S fin π₂ (without ks j) ((i,false)::r) a' w') a w
termination_by ks π=>ks.length+π.length
decreasing_by
 all_goals (first|(have:=ahC h;simp only[bJ,dV] at*;omega)|(simp only[bJ];omega))
end
structure FD where
 k:Nat
 d:Nat
 t:TypeId
 z:Value
abbrev Fs:=Nat→Option Nat
def fFs:List FD→Fs→Fr
 |[],_=>[]
 |f::r,fs=>fF f.d (fs f.k)++fFs r fs
def fOs:List FD→Fs→List Own
 |[],_=>[]
 |f::r,fs=>fO f.t f.z (fs f.k)++fOs r fs
def aEb(fd:List FD)(fs:Fs):List Nat:=(fd.filter fun f=>(fs f.k).isNone).map (·.k)
def aHa(fs:Fs)(k b:Nat):Fs:=fun j=>if j=k then some b else fs j
structure aG5 (P:Program) (ops:Array Oper) (n:Nat) (fd:List FD):Prop where
 op: ∀f∈fd,∃ty' pos af,ops[f.k]? =some ⟨some f.d, .alloc f.t,ty',pos,af,none⟩∧aaN n (some f.d)=true
 z: ∀f∈fd,TyZ P f.t f.z
 nd:(fd.map (·.k)).Nodup
 dd: ∀f∈fd,∀g∈fd,f.d=g.d→f.k=g.k
section
variable {P:Program} {C:Ctx} {n:Nat} {fr:Fr} {own own0:List Own} {G G0:Gh} {ops:Array Oper} {Q:Exit→Act→World→Prop} {fin:Nat→Bool} {π π₂:List (Nat×Bool)} {fd:List FD}
def dwH(P:Program)(ops:Array Oper)(Q:Exit→Act→World→Prop)(S:World→Prop)(fin:Nat→Bool)(π₂:List (Nat×Bool))(fd:List FD)(fs:Fs)(π:List (Nat×Bool)):Act→World→Prop:=dwG P ops Q S fin π₂ (aEb fd fs) π
end
def Buf(s:Nat)(ty:TypeId)(x:SV)(vs:List Value)(B:List Own):Prop:=
 (vs=[]∧x=⟨none,0,0⟩∧B=[])∨
 ∃b rest lo,x=⟨some ⟨b,0,none⟩,vs.length,x.c⟩∧B=[⟨b,aag vs++rest,ty,lo⟩]∧(aag vs).length=vs.length*s∧(aag vs).length+rest.length=x.c*s∧vs.length≤x.c
theorem Buf.nil(s:Nat)(ty:TypeId):Buf s ty ⟨none,0,0⟩ [] []:= .inl ⟨rfl,rfl,rfl⟩
theorem Buf.relo{s:Nat}{ty:TypeId}{x:SV}{vs:List Value}{B:List Own}(h:Buf s ty x vs B)(fl:Nat→Bool):Buf s ty x vs (B.map (Go.Sx.relo fl)):=by
 rcases h with⟨h1,h2,h3⟩|⟨b,rest,lo,h1,h2,h3,h4,h5⟩
 ·exact .inl ⟨h1,h2,by rw[h3];rfl⟩
 ·exact .inr ⟨b,rest,fl b,h1,by rw[h2];rfl,h3,h4,h5⟩
theorem Buf.asB{s:Nat}{ty:TypeId}{x:SV}{vs:List Value}{B:List Own}(h:Buf s ty x vs B):Buf s ty x vs (asB B):=by
 rcases h with⟨h1,h2,h3⟩|⟨b,rest,lo,h1,h2,h3,h4,h5⟩
 ·exact .inl ⟨h1,h2,by rw[h3];rfl⟩
 ·exact .inr ⟨b,rest,false,h1,by rw[h2];rfl,h3,h4,h5⟩
theorem Buf.len{s:Nat}{ty:TypeId}{x:SV}{vs:List Value}{B:List Own}(h:Buf s ty x vs B):x.n=vs.length:=by
 rcases h with⟨h1,h2,h3⟩|⟨b,rest,lo,h1,h2,h3,h4,h5⟩
 ·rw[h2,h1];rfl
 ·rw[h1]
theorem arQ{M:List Own}{m:Own}(h:m∈M)(hl:m.lo=false):flM M m.b=false:=by
 refine List.all_eq_false.2 ⟨m,h,?_⟩
 simp[hl]
theorem ahc{M:List Own}(b:Nat)(h: ∀m∈M,m.lo=true):flM M b=true:=by
 refine gJ.2 fun m hm=>?_
 simp[h m hm]
section
variable {P:Program} {C:Ctx} {n:Nat} {fr:Fr} {own own':List Own} {G:Gh} {Φ:Act→World→Prop}
variable {dst:Option Nat} {t t' ty':TypeId} {pos:String} {af:Array Edge} {gd:Option (Nat×Bool)} {x y:Operand} {e s by_:Nat}
theorem al7[hT:acz P t e s by_][hN:TyN P t']{z:Value}[hz:TyZ P e z]{w:SV}{vs:List Value}{v:Value}{B:List Own}(L:List Own){ad2:Option Addr}{cap2:Nat}
  (ho:own=L++B)(hB:Buf s e w vs B)(hx:opv fr x=some (.slice w.a w.n w.c))(hy:opv fr y=some (.slice ad2 1 cap2))
  (hsy:Src P C own G s 1 (.slice ad2 1 cap2) (aae v))(hv:(aae v).length=s)(hf: ∀c∈aae v,flat c=true)
  (hby:0<by_)(hb:(vs.length+1)*by_≤140737488355328)(hzs:(aae z).length=s)(hd:aaN n dst=true)
  (h: ∀w' B',Buf s e w' (vs++[v]) B'→St C n (put fr dst (.slice w'.a w'.n w'.c)) (L++B') G Φ):
  Ch P C n fr own G ⟨dst, .call ⟨.builtin .append, #[x,y], #[t,t']⟩,ty',pos,af,gd⟩ Φ:=by
 subst ho
 rcases hB with⟨h1,h2,h3⟩|⟨b,rest,lo,h1,h2,h3,h4,h5⟩
 ·subst h1 h2 h3
  rw[gL] at hsy⊢
  refine acq (z:=z) (xs:=[]) (ys:=aae v) hx hy (adV) hsy (by show 0<0+1;omega) hby (by simpa using hb) hd (fun b cap' hc=>?_)
  refine aiB (L++[⟨b,[]++aae v++aa2 z (cap'-(0+1)),e,true⟩]) ?_ (h ⟨some ⟨b,0,none⟩,1,cap'⟩ _ (.inr ⟨b,aa2 z (cap'-(0+1)),true,rfl,?_,?_,?_,by simpa using hc⟩))
  ·exact(iN (l₁:=[_]) (l₂:=L))
  ·simp[aag]
  ·simp[aag,hv]
  ·simp only[iS,adE,hv,abu,hzs]
   obtain⟨c,rfl⟩: ∃c,cap'=c+1:=⟨cap'-1,by have:0+1≤cap':=hc;omega⟩
   rw[show c+1-(0+1)=c by omega,fM,jQ]
 ·have hwc:w.a=some ⟨b,0,none⟩∧w.n=vs.length:=by rw[h1];exact⟨rfl,rfl⟩
  rw[hwc.1,hwc.2] at hx
  subst h2
  have hsub:akQ (L++[⟨b,aag vs++rest,e,lo⟩]) ⟨b,aag vs++rest,e,lo⟩ L:=by
   clear hsy h
   induction L with
   |nil=>exact .hd ..
   |cons a l ih=>exact .tl _ _ _ _ ih
  refine aeX (z:=z) (xs:=aag vs) (ys:=aae v) (rest:=rest) hx hy hsub h3 h4 h5 hsy (by rw[hv,lU]) hf hby hb hzs hd (fun b' lo' cap' rest' hc hr=>?_)
  refine aiB (L++[⟨b',aag vs++aae v++rest',e,lo'⟩]) ?_ (h ⟨some ⟨b',0,none⟩,vs.length+1,cap'⟩ _ (.inr ⟨b',rest',lo',by simp,?_,?_,?_,by simpa using hc⟩))
  ·exact(iN (l₁:=[_]) (l₂:=L))
  ·rw[abf,adE]
  ·rw[abf,adE,aV,h3,hv,aV,dS,fM]
  ·rw[abf,adE,aV,h3,hv]
   rw[fM] at hr
   show vs.length*s+s+rest'.length=cap'*s
   omega
end
instance ali.nil (l:List Own):ali [] l:=⟨kL l⟩
theorem aor{C:Ctx}{n:Nat}{fr:Fr}{own own':List Own}{G:Gh}{Φ:Act→World→Prop}(e:own=own')(h:St C n fr own' G Φ):St C n fr own G Φ:=e▸h
theorem aei{P:Program}{C:Ctx}{n:Nat}{fr:Fr}{own:List Own}{G:Gh}{Φ:Act→World→Prop}{dst:Option Nat}{ty':TypeId}{pos:String}{af:Array Edge}{gd:Option (Nat×Bool)}{f:FuncId}{fo:Operand}{args:Array Operand}{tys:Array TypeId}{vs c1 c2:List Value}{M rest:List Own}{K:Value→List Own→Gh→Prop}(ho:opv fr fo=some (.func (.func f) ⟨c1⟩ ⟨c2⟩))(hv:af4 fr args.toList=some vs)
  (hp:own.Perm (M++rest))(hF:FnO P f (c1++vs++c2) M G K)(hd:aaN n dst=true)
  (h: ∀v own1 (G':Gh) (fl:Nat→Bool),[GE G G']→(∀m∈M,m.lo=false→fl m.b=false)→((∀m∈M,m.lo=true)→ ∀b,fl b=true)→K v own1 G'→St C n (put fr dst v) (own1.map (relo fl)++rest) G' Φ):
  Ch P C n fr own G ⟨dst, .call ⟨.value fo,args,tys⟩,ty',pos,af,gd⟩ Φ:=
 amL ho hv hp hF hd (fun v own1 G' _ hK=>h v own1 G' (flM M) (fun _ hm hl=>arQ hm hl) (fun hl b=>ahc b hl) hK)
theorem apP{s:Nat}{rest:List Value}{x:Value}{j:Nat}(hj:j<s): ∀(vs:List Value) (n:Nat) (hn:n<vs.length),(∀v∈vs,(aae v).length=s)→
  (aag vs++rest).set (n*s+j) x=aag (vs.take n)++((aae vs[n]).set j x++(aag (vs.drop (n+1))++rest))
 |[],n,hn,_=>by simp at hn
 |v::vs,0,hn,h=>by
  have h2:=h v aQ
  have e:aag (v::vs)=aae v++aag vs:=by simp[aag]
  rw[e,cR,jM,dK,List.set_append_left _ _ (by omega)]
  simp[aag]
 |v::vs,n+1,hn,h=>by
  have h2:=h v aQ
  have ih:=apP (rest:=rest) (x:=x) hj vs n (by simpa using hn) (fun u hu=>h u (aX _ hu))
  have e:aag (v::vs)=aae v++aag vs:=by simp[aag]
  rw[e,cR,oZ _ _ (by rw[h2,fM];omega),h2,show(n+1)*s+j-s=n*s+j by rw[fM];omega,ih]
  simp[aag]
theorem amu{C:Ctx}{n:Nat}{fr:Fr}{L B:List Own}{G:Gh}{Φ:Act→World→Prop}{s:Nat}{ty:TypeId}{x:SV}{vs:List Value}(hC:C.mb=[])(hB:Buf s ty x vs B)(hvs: ∀v∈vs,(aae v).length=s)
  (h: ∀G':Gh,[GE G G']→ae8 G' s x vs→St C n fr L G' Φ):St C n fr (L++B) G Φ:=by
 rcases hB with⟨h1,h2,h3⟩|⟨b,rest,lo,h1,h2,h3,h4,h5⟩
 ·subst h1 h2 h3
  rw[gL]
  exact @h G ⟨GLe.refl _⟩ (ae8.nil _ _)
 ·subst h2
  refine aiB (⟨b,aag vs++rest,ty,lo⟩::L) iN ?_
  refine aDe hC ?_
  refine ab7 b (.hd ..) ?_
  intro G' hG hg
  refine @h G' hG ?_
  rw[h1]
  exact ae8.of_flat hvs hg.h h5
end Go.Sx
end
