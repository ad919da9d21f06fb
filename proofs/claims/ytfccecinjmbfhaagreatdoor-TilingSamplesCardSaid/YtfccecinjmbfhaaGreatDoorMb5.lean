/- Part 5 of a proof. -/
import Derived.Test.YtfccecinjmbfhaaGreatDoorMb4
import Derived.Laws.Externs
import Derived.Lib.Overlaps
set_option linter.unusedSimpArgs false
set_option maxRecDepth 100000
set_option linter.unusedVariables false
section
namespace Go.Sx
open Go
/-! ### values -/
theorem acK(l:LnQ)(p:PtQ):l.value p=(l.a:Rat)*p.x+(l.b:Rat)*p.y+(l.c:Rat):=rfl
theorem aaW(l:LnQ)(p:PtQ):l.rev.value p= -l.value p:=by
 rw[acK,acK]
 have h1:((l.rev.a:Int):Rat)= -(l.a:Rat):=(af1 l.a).symm
 have h2:((l.rev.b:Int):Rat)= -(l.b:Rat):=(af1 l.b).symm
 have h3:((l.rev.c:Int):Rat)= -(l.c:Rat):=(af1 l.c).symm
 rw[h1,h2,h3];grind
def abg(q p:PtQ)(e:Rat):PtQ:=⟨q.x+e*(p.x-q.x),q.y+e*(p.y-q.y)⟩
theorem acB(l:LnQ)(q p:PtQ)(e:Rat):l.value (abg q p e)=l.value q+e*(l.value p-l.value q):=by
 simp only[acK,abg];grind
def acu(q u:PtQ)(e:Rat):PtQ:=⟨q.x+e*u.x,q.y+e*u.y⟩
theorem abL(l:LnQ)(q u:PtQ)(e:Rat):l.value (acu q u e)=l.value q+e*l.nor.dot u:=by
 simp only[acK,acu,LnQ.nor,PtQ.dot];grind
theorem aao{a b:Rat}(ha:0<a)(hb:0<b):0<a*b:=Rat.mul_pos ha hb
theorem aad{a b:Rat}(ha:0≤a)(hb:0≤b):0≤a*b:=Rat.mul_nonneg ha hb
theorem agi(a:Rat):0≤a*a:=by
 by_cases h:0≤a
 ·exact aad h h
 ·have:=aad (a:= -a) (b:= -a) (by grind) (by grind)
  grind
theorem aau{s k:Rat}(hk:0<k):0<s*k↔0<s:=by
 constructor
 ·intro h
  by_cases hs:0<s
  ·exact hs
  ·have:=aad (a:= -s) (b:=k) (by grind) (by grind)
   grind
 ·intro h;exact aao h hk
theorem aan{s k:Rat}(hk:0<k):0≤s*k↔0≤s:=by
 constructor
 ·intro h
  by_cases hs:0≤s
  ·exact hs
  ·have:=aao (a:= -s) (b:=k) (by grind) hk
   grind
 ·intro h;exact aad h (by grind)
theorem ajC{A B u v:Rat}(h0:0≤A)(h1:0≤A+v*B)(hu:0≤u)(huv:u≤v):0≤A+u*B:=by
 by_cases hB:0≤B
 ·have:=aad hu hB;grind
 ·have:=aad (a:=v-u) (b:= -B) (by grind) (by grind)
  grind
def LnQ.Ne(l:LnQ):Prop:= ¬(l.a=0∧l.b=0)
theorem LnQ.ok.ne{l:LnQ}(h:l.ok):l.Ne:=h.1
theorem afJ{l:LnQ}(h:l.Ne):0<l.nor.dot l.nor:=by
 show 0<(l.a:Rat)*l.a+(l.b:Rat)*l.b
 have h1:=agi (l.a:Rat)
 have h2:=agi (l.b:Rat)
 by_cases ha:l.a=0
 ·have hb:l.b≠0:=fun hb=>h ⟨ha,hb⟩
  have hb':(l.b:Rat)≠0:=fun e=>hb (cR.1 e)
  have:(l.b:Rat)*l.b≠0:=by grind
  grind
 ·have ha':(l.a:Rat)≠0:=fun e=>ha (cR.1 e)
  have:(l.a:Rat)*l.a≠0:=by grind
  grind
theorem al0{l:LnQ}(h:l.Ne): ∃q:Rat,l.nor.dot l.nor*q= -(l.c:Rat)∧l.base=⟨(l.a:Rat)*q,(l.b:Rat)*q⟩:=by
 refine⟨-(l.c:Rat)/l.nor.dot l.nor,?_,rfl⟩
 have:=afJ h
 grind
theorem ab7(l m:LnQ)(t:Rat):m.value (l.at t)=l.cutC m+t*l.cutK m:=by
 simp only[LnQ.cutC,LnQ.cutK,acK,LnQ.at,PtQ.add,PtQ.scale,LnQ.dir,LnQ.nor,PtQ.dot];grind
theorem adY{l:LnQ}(h:l.Ne)(t:Rat):l.value (l.at t)=0:=by
 obtain⟨q,h1,h2⟩:=al0 h
 simp only[acK,LnQ.at,h2,PtQ.add,PtQ.scale,LnQ.dir]
 simp only[LnQ.nor,PtQ.dot] at h1
 grind
theorem awU{l:LnQ}(h:l.Ne){p:PtQ}(hp:l.value p=0): ∃t,p=l.at t:=by
 obtain⟨q,h1,h2⟩:=al0 h
 have hn:=afJ h
 obtain⟨x,y⟩:=p
 rw[acK] at hp
 simp only[LnQ.nor,PtQ.dot] at h1 hn
 refine⟨((l.b:Rat)*x-(l.a:Rat)*y)/((l.a:Rat)*l.a+(l.b:Rat)*l.b),?_⟩
 generalize ht:((l.b:Rat)*x-(l.a:Rat)*y)/((l.a:Rat)*l.a+(l.b:Rat)*l.b)=t
 have ht':((l.a:Rat)*l.a+(l.b:Rat)*l.b)*t=(l.b:Rat)*x-(l.a:Rat)*y:=by grind
 simp only[LnQ.at,h2,PtQ.add,PtQ.scale,LnQ.dir,PtQ.mk.injEq]
 generalize (l.a:Rat)=a at*
 generalize (l.b:Rat)=b at*
 generalize (l.c:Rat)=c at*
 have e1:(a*a+b*b)*(x-(a*q+b*t))=0:=by grind
 have e2:(a*a+b*b)*(y-(b*q+ -a*t))=0:=by grind
 constructor<;>grind
/-! ### intervals -/
def IvQ.has(v:IvQ)(t:Rat):Prop:=(v.nl=true∨v.lo≤t)∧(v.nh=true∨t≤v.hi)
def IvQ.ins(v:IvQ)(t:Rat):Prop:=(v.nl=true∨v.lo<t)∧(v.nh=true∨t<v.hi)
def IvQ.Pos(v:IvQ):Prop:=v.nl=true∨v.nh=true∨v.lo<v.hi
theorem aoa(a b:Rat):0≤abc a b↔b≤a:=by
 unfold abc;split
 ·constructor
  ·intro h;exact absurd h (by decide)
  ·intro h;grind
 ·split
  ·constructor
   ·intro _;grind
   ·intro _;decide
  ·constructor
   ·intro _;grind
   ·intro _;decide
theorem agK(v:IvQ):v.empty=false↔v.Pos:=by
 obtain⟨lo,hi,nl,nh⟩:=v
 unfold IvQ.empty IvQ.Pos
 cases nl<;>cases nh<;>simp[aoa]
 first|exact Rat.not_le|grind
theorem IvQ.ins.has{v:IvQ}{t:Rat}(h:v.ins t):v.has t:=by
 obtain⟨h1,h2⟩:=h
 exact⟨h1.imp id (fun h=>dR h),h2.imp id (fun h=>dR h)⟩
theorem ay3:mkRat 1 2=(1:Rat)/2:=by rw[lY];rfl
theorem aa9{v:IvQ}(h:v.Pos):v.ins v.sample:=by
 obtain⟨lo,hi,nl,nh⟩:=v
 unfold IvQ.Pos at h
 unfold IvQ.ins IvQ.sample
 rw[ay3]
 cases nl<;>cases nh<;>simp at* <;>grind
theorem aoM(v w:IvQ)(t:Rat):(v.meet w).has t↔v.has t∧w.has t:=by
 obtain⟨lo,hi,nl,nh⟩:=v
 obtain⟨lo',hi',nl',nh'⟩:=w
 unfold IvQ.has IvQ.meet
 cases nl<;>cases nh<;>cases nl'<;>cases nh'<;>simp<;>grind
theorem apo(v w:IvQ)(t:Rat):(v.meet w).ins t↔v.ins t∧w.ins t:=by
 obtain⟨lo,hi,nl,nh⟩:=v
 obtain⟨lo',hi',nl',nh'⟩:=w
 unfold IvQ.ins IvQ.meet
 cases nl<;>cases nh<;>cases nl'<;>cases nh'<;>simp<;>grind
theorem an6(t:Rat):IvQ.all.has t:=⟨.inl rfl, .inl rfl⟩
theorem ayt(t:Rat):IvQ.all.ins t:=⟨.inl rfl, .inl rfl⟩
theorem afT:IvQ.all.Pos:= .inl rfl
theorem abN(k:Rat):Int.sign k.num=0↔k=0:=by rw[iU,nL]
theorem avN(k:Rat):0<k.num↔0<k:=by
 have h1:0≤k.num↔0≤k:=Rat.num_nonneg
 have h2:k.num=0↔k=0:=nL
 constructor
 ·intro h
  have a:=h1.1 (by omega)
  have b:k≠0:=fun e=>by have:=h2.2 e;omega
  grind
 ·intro h
  have a:=h1.2 (by grind)
  have b:k.num≠0:=fun e=>by have:=h2.1 e;grind
  omega
theorem ahs(k:Rat):Int.sign k.num=1↔0<k:=by rw[Int.sign_eq_one_iff_pos,avN]
theorem ac7(k:Rat):0<Int.sign k.num↔0<k:=by
 rw[←ahs]
 rcases pM k.num 0 with h|h|h
 ·rw[fJ h];decide
 ·rw[h];decide
 ·rw[gK h];decide
theorem agU(k:Rat):Int.sign k.num<0↔k<0:=by
 have h1:=abN k
 have h2:=ac7 k
 constructor
 ·intro h
  by_cases hk:0<k
  ·have:=h2.2 hk;omega
  ·by_cases h0:k=0
   ·have:=h1.2 h0;omega
   ·grind
 ·intro h
  have a1: ¬Int.sign k.num=0:=fun e=>by have:=h1.1 e;grind
  have a2: ¬0<Int.sign k.num:=fun e=>by have:=h2.1 e;grind
  omega
theorem af9{l m:LnQ}(v:IvQ)(hk:l.cutK m=0):l.cutV v m=v∧(l.cutB v m=true↔0<l.cutC m):=by
 have h:=(abN (l.cutK m)).2 hk
 unfold LnQ.cutV LnQ.cutB
 rw[if_pos h,if_pos h,decide_eq_true_iff,ac7]
 exact⟨rfl,Iff.rfl⟩
theorem amU{l m:LnQ}(v:IvQ)(hk:0<l.cutK m):l.cutV v m=v.meet ⟨-(l.cutC m/l.cutK m),0,false,true⟩∧(l.cutB v m=true↔(l.cutV v m).Pos):=by
 have h0: ¬Int.sign (l.cutK m).num=0:=fun e=>by have:=(abN _).1 e;grind
 have h1:=(ahs (l.cutK m)).2 hk
 constructor
 ·unfold LnQ.cutV;rw[if_neg h0,if_pos h1]
 ·unfold LnQ.cutB;rw[if_neg h0,←agK];simp
theorem anp{l m:LnQ}(v:IvQ)(hk:l.cutK m<0):l.cutV v m=v.meet ⟨0, -(l.cutC m/l.cutK m),true,false⟩∧(l.cutB v m=true↔(l.cutV v m).Pos):=by
 have h0: ¬Int.sign (l.cutK m).num=0:=fun e=>by have:=(abN _).1 e;grind
 have h1: ¬Int.sign (l.cutK m).num=1:=fun e=>by have:=(ahs _).1 e;grind
 constructor
 ·unfold LnQ.cutV;rw[if_neg h0,if_neg h1]
 ·unfold LnQ.cutB;rw[if_neg h0,←agK];simp
theorem aEV{C K t:Rat}(hk:0<K): -(C/K)≤t↔0≤C+t*K:=by
 have e:C=C/K*K:=by grind
 generalize C/K=d at*
 rw[e,show d*K+t*K=(d+t)*K from by grind,aan hk]
 grind
theorem aB2{C K t:Rat}(hk:0<K): -(C/K)<t↔0<C+t*K:=by
 have e:C=C/K*K:=by grind
 generalize C/K=d at*
 rw[e,show d*K+t*K=(d+t)*K from by grind,aau hk]
 grind
theorem aDP{C K t:Rat}(hk:K<0):t≤ -(C/K)↔0≤C+t*K:=by
 have e:C=C/K*K:=by grind
 generalize C/K=d at*
 rw[e,show d*K+t*K=(-(d+t))*(-K) from by grind,aan (by grind)]
 grind
theorem aBU{C K t:Rat}(hk:K<0):t< -(C/K)↔0<C+t*K:=by
 have e:C=C/K*K:=by grind
 generalize C/K=d at*
 rw[e,show d*K+t*K=(-(d+t))*(-K) from by grind,aau (by grind)]
 grind
theorem acO(k:Rat):k=0∨0<k∨k<0:=by grind
theorem akD{l m:LnQ}{v:IvQ}(hb:l.cutB v m=true)(t:Rat):(l.cutV v m).has t↔v.has t∧0≤m.value (l.at t):=by
 rw[ab7]
 rcases acO (l.cutK m) with hk|hk|hk
 ·obtain⟨h1,h2⟩:=af9 v hk
  rw[h1,hk]
  have:=h2.1 hb
  constructor
  ·intro h;exact⟨h,by grind⟩
  ·exact fun h=>h.1
 ·rw[(amU v hk).1,aoM,←aEV hk]
  simp[IvQ.has]
 ·rw[(anp v hk).1,aoM,←aDP hk]
  simp[IvQ.has]
theorem arV{l m:LnQ}{v:IvQ}(hb:l.cutB v m=true)(t:Rat):(l.cutV v m).ins t↔v.ins t∧0<m.value (l.at t):=by
 rw[ab7]
 rcases acO (l.cutK m) with hk|hk|hk
 ·obtain⟨h1,h2⟩:=af9 v hk
  rw[h1,hk]
  have:=h2.1 hb
  constructor
  ·intro h;exact⟨h,by grind⟩
  ·exact fun h=>h.1
 ·rw[(amU v hk).1,apo,←aB2 hk]
  simp[IvQ.ins]
 ·rw[(anp v hk).1,apo,←aBU hk]
  simp[IvQ.ins]
theorem aiZ{l m:LnQ}{v:IvQ}(hv:v.Pos)(hb:l.cutB v m=true):(l.cutV v m).Pos:=by
 rcases acO (l.cutK m) with hk|hk|hk
 ·rw[(af9 v hk).1];exact hv
 ·exact(amU v hk).2.1 hb
 ·exact(anp v hk).2.1 hb
theorem atH{l m:LnQ}{v:IvQ}(hv:v.Pos)(hb:l.cutB v m=false){t:Rat}(ht:v.has t):m.value (l.at t)≤0:=by
 rw[ab7]
 have hb': ¬l.cutB v m=true:=by rw[hb];decide
 rcases acO (l.cutK m) with hk|hk|hk
 ·have h2:=(af9 v hk).2
  have: ¬0<l.cutC m:=fun h=>hb' (h2.2 h)
  rw[hk];grind
 ·obtain⟨h1,h2⟩:=amU v hk
  have hn: ¬(l.cutV v m).Pos:=fun h=>hb' (h2.2 h)
  rw[h1] at hn
  have h3:=aB2 (C:=l.cutC m) (t:=t) hk
  suffices¬(-(l.cutC m/l.cutK m)<t) by grind
  generalize-(l.cutC m/l.cutK m)=d at*
  obtain⟨lo,hi,nl,nh⟩:=v
  unfold IvQ.Pos IvQ.meet at hn
  unfold IvQ.Pos at hv
  unfold IvQ.has at ht
  cases nl<;>cases nh<;>simp at* <;>grind
 ·obtain⟨h1,h2⟩:=anp v hk
  have hn: ¬(l.cutV v m).Pos:=fun h=>hb' (h2.2 h)
  rw[h1] at hn
  have h3:=aBU (C:=l.cutC m) (t:=t) hk
  suffices¬(t< -(l.cutC m/l.cutK m)) by grind
  generalize-(l.cutC m/l.cutK m)=d at*
  obtain⟨lo,hi,nl,nh⟩:=v
  unfold IvQ.Pos IvQ.meet at hn
  unfold IvQ.Pos at hv
  unfold IvQ.has at ht
  cases nl<;>cases nh<;>simp at* <;>grind
/-! ### cells -/
def InD(c:aag)(p:PtQ):Prop:= ∀s∈c,0<s.l.value p
def InC(c:aag)(p:PtQ):Prop:= ∀s∈c,0≤s.l.value p
theorem ahu(l:LnQ): ∀(c:aag) (v w:IvQ),v.Pos→agL l c v=some w→
  w.Pos∧(∀t,w.has t↔v.has t∧InC c (l.at t))∧(∀t,w.ins t↔v.ins t∧InD c (l.at t))
 |[],v,w,hv,h=>by
  obtain rfl:v=w:=by simpa[agL] using h
  exact⟨hv,fun t=>⟨fun h=>⟨h,fun s hs=>absurd hs (by simp)⟩,fun h=>h.1⟩,fun t=>⟨fun h=>⟨h,fun s hs=>absurd hs (by simp)⟩,fun h=>h.1⟩⟩
 |s::c,v,w,hv,h=>by
  rw[agL] at h
  split at h
  ·rename_i hb
   obtain⟨h1,h2,h3⟩:=ahu l c _ w (aiZ hv hb) h
   refine⟨h1,fun t=>?_,fun t=>?_⟩
   ·rw[h2,akD hb]
    simp only[InC,dZ]
    exact and_assoc
   ·rw[h3,arV hb]
    simp only[InD,dZ]
    exact and_assoc
  ·exact absurd h (by simp)
theorem akr(l:LnQ): ∀(c:aag) (v:IvQ),v.Pos→agL l c v=none→ ∀t,v.has t→ ¬InD c (l.at t)
 |[],v,hv,h=>by simp[agL] at h
 |s::c,v,hv,h=>by
  intro t ht hd
  have hd':=dZ.1 hd
  rw[agL] at h
  split at h
  ·rename_i hb
   exact akr l c _ (aiZ hv hb) h t ((akD hb t).2 ⟨ht,dR hd'.1⟩) hd'.2
  ·rename_i hb
   have:=atH hv (by simpa using hb) ht
   have:=hd'.1
   grind
theorem InD.open: ∀{c:aag} {q:PtQ} (u:PtQ),InD c q→ ∃e:Rat,0<e∧ ∀d,0≤d→d≤e→InD c (acu q u d)
 |[],q,u,_=>⟨1,by decide,fun d _ _ s hs=>absurd hs (by simp)⟩
 |s::c,q,u,h=>by
  have h':=dZ.1 h
  obtain⟨e,he,hd⟩:=InD.open (c:=c) u h'.2
  have hs:=h'.1
  generalize hk:s.l.nor.dot u=k
  have hf: ∃f:Rat,0<f∧ ∀d,0≤d→d≤f→0<s.l.value q+d*k:=by
   by_cases hk0:0≤k
   ·exact⟨1,by decide,fun d h1 _=>by have:=aad h1 hk0;grind⟩
   ·refine⟨s.l.value q/(2* -k),?_,fun d h1 h2=>?_⟩
    ·have e1:s.l.value q/(2* -k)*(2* -k)=s.l.value q:=by grind
     exact(aau (k:=2* -k) (by grind)).1 (by rw[e1];exact hs)
    ·have e1:s.l.value q/(2* -k)*(2* -k)=s.l.value q:=by grind
     generalize s.l.value q/(2* -k)=f at*
     have:=aad (a:=f-d) (b:= -k) (by grind) (by grind)
     grind
  obtain⟨f,hf0,hf⟩:=hf
  by_cases hef:e≤f
  ·refine⟨e,he,fun d h1 h2=>dZ.2 ⟨?_,hd d h1 h2⟩⟩
   rw[abL,hk];exact hf d h1 (by grind)
  ·refine⟨f,hf0,fun d h1 h2=>dZ.2 ⟨?_,hd d h1 (by grind)⟩⟩
   rw[abL,hk];exact hf d h1 h2
theorem akB: ∀{c:aag} {q p:PtQ},InD c q→(∃s∈c,s.l.value p≤0)→
  ∃e:Rat,0≤e∧e≤1∧(∃s∈c,s.l.value p≤0∧s.l.value (abg q p e)=0)∧InC c (abg q p e)
 |[],q,p,_,h=>by obtain⟨s,hs,_⟩:=h;exact absurd hs (by simp)
 |s::c,q,p,h,hex=>by
  have h':=dZ.1 h
  have hs:=h'.1
  by_cases hc: ∃s∈c,s.l.value p≤0
  ·obtain⟨e,h0,h1,⟨s1,m1,n1,z1⟩,hC⟩:=akB h'.2 hc
   by_cases hp:0≤s.l.value (abg q p e)
   ·exact⟨e,h0,h1,⟨s1,aK _ m1,n1,z1⟩,dZ.2 ⟨hp,hC⟩⟩
   ·rw[acB] at hp
    generalize hB:s.l.value p-s.l.value q=B at*
    have hB0:B<0:=by
     by_cases hB0:0≤B
     ·have:=aad h0 hB0;grind
     ·grind
    have e1:s.l.value q/(-B)*(-B)=s.l.value q:=by grind
    generalize hf:s.l.value q/(-B)=f at*
    have f0:0≤f:=(aan (k:= -B) (by grind)).1 (by rw[e1];grind)
    have f1:f≤e:=by
     have:=(aan (s:=e-f) (k:= -B) (by grind)).1 (by grind)
     grind
    have z:s.l.value (abg q p f)=0:=by rw[acB,hB];grind
    have np:s.l.value p≤0:=by
     have:=aad (a:=1-e) (b:= -B) (by grind) (by grind)
     grind
    refine⟨f,f0,by grind,⟨s,aZ,np,z⟩,dZ.2 ⟨by rw[z];exact fR,fun s2 m2=>?_⟩⟩
    have a1:=h'.2 s2 m2
    have a2:=hC s2 m2
    rw[acB] at a2⊢
    exact ajC (dR a1) a2 f0 f1
  ·have np:s.l.value p≤0:=by
    obtain⟨s1,m1,n1⟩:=hex
    rcases aS.1 m1 with rfl|m1
    ·exact n1
    ·exact absurd ⟨s1,m1,n1⟩ hc
   generalize hB:s.l.value p-s.l.value q=B at*
   have hB0:B<0:=by grind
   have e1:s.l.value q/(-B)*(-B)=s.l.value q:=by grind
   generalize hf:s.l.value q/(-B)=f at*
   have f0:0≤f:=(aan (k:= -B) (by grind)).1 (by rw[e1];grind)
   have f1:f≤1:=by
    have:=(aan (s:=1-f) (k:= -B) (by grind)).1 (by grind)
    grind
   have z:s.l.value (abg q p f)=0:=by rw[acB,hB];grind
   refine⟨f,f0,f1,⟨s,aZ,np,z⟩,dZ.2 ⟨by rw[z];exact fR,fun s2 m2=>?_⟩⟩
   have a1:=h'.2 s2 m2
   have a2:0<s2.l.value p:=by
    by_cases h:0<s2.l.value p
    ·exact h
    ·exact absurd ⟨s2,m2,by grind⟩ hc
   rw[acB]
   have:=ajC (A:=s2.l.value q) (B:=s2.l.value p-s2.l.value q) (u:=f) (v:=1) (dR a1) (by grind) f0 f1
   exact this
structure aba (c:aag):Prop where
 ne: ∃p,InD c p
 ok: ∀s∈c,s.l.ok
 edge: ∀s∈c,s.v.Pos∧ ∀t,s.v.has t↔InC c (s.l.at t)
theorem aba.nil:aba []:=⟨⟨⟨0,0⟩,fun s hs=>absurd hs (by simp)⟩,fun s hs=>absurd hs (by simp),fun s hs=>absurd hs (by simp)⟩
theorem aaZ{c:aag}{m:LnQ}(hne: ∃q,InD c q)(h: ∀p,InD c p→0<m.value p){p:PtQ}(hp:InC c p):0≤m.value p:=by
 obtain⟨q,hq⟩:=hne
 have mq:=h q hq
 by_cases hm:0≤m.value p
 ·exact hm
 ·exfalso
  generalize hB:m.value q-m.value p=B
  have hB0:0<B:=by grind
  have e1: -m.value p/B*B= -m.value p:=by grind
  generalize-m.value p/B=e at*
  have e0:0<e:=(aau hB0).1 (by rw[e1];grind)
  have e2:e≤1:=by
   have:=(aan (s:=1-e) hB0).1 (by grind)
   grind
  have hd:InD c (abg p q e):=fun s hs=>by
   rw[acB]
   have a:=hp s hs
   have b:=hq s hs
   have:=aao e0 b
   have:=aad (a:=1-e) (b:=s.l.value p) (by grind) a
   grind
  have:=h _ hd
  rw[acB,hB,e1] at this
  grind
theorem acz{l:LnQ}{s':FrQ}: ∀{c:aag},s'∈abM l c↔ ∃s∈c,s.l.cutB s.v l=true∧s'=⟨s.l,s.l.cutV s.v l⟩
 |[]=>by simp[abM]
 |s::c=>by
  rw[abM]
  split
  ·rename_i hb
   rw[aS,acz (c:=c)]
   constructor
   ·rintro (rfl|⟨s1,h1,h2⟩)
    ·exact⟨s,aZ,hb,rfl⟩
    ·exact⟨s1,aK _ h1,h2⟩
   ·rintro ⟨s1,h1,h2,h3⟩
    rcases aS.1 h1 with rfl|h1
    ·exact .inl h3
    ·exact .inr ⟨s1,h1,h2,h3⟩
  ·rename_i hb
   rw[acz (c:=c)]
   constructor
   ·rintro ⟨s1,h1,h2⟩;exact⟨s1,aK _ h1,h2⟩
   ·rintro ⟨s1,h1,h2,h3⟩
    rcases aS.1 h1 with rfl|h1
    ·exact absurd h2 hb
    ·exact⟨s1,h1,h2,h3⟩
theorem acT{c:aag}{l:LnQ}{v:IvQ}{s:FrQ}:s∈aoz c l v↔s=⟨l,v⟩∨s∈c:=by
 unfold aoz
 generalize bsq (aeg c l) 0 c.length=n
 rw[bS,aS]
 have h:=jW n c
 constructor
 ·rintro (h1|h1|h1)
  ·exact .inr (eJ h1)
  ·exact .inl h1
  ·exact .inr (fU h1)
 ·rintro (h1|h1)
  ·exact .inr (.inl h1)
  ·rw[←h,bS] at h1
   rcases h1 with h1|h1
   ·exact .inl h1
   ·exact .inr (.inr h1)
theorem auD{c:aag}{l:LnQ}(hl:l.Ne)(hp:aeW c l=none){p:PtQ}(h:InD c p):l.value p≠0:=by
 intro h0
 obtain⟨t,rfl⟩:=awU hl h0
 exact akr l c _ afT hp t (an6 t) h
theorem ahf{c:aag}{l:LnQ}(hl:l.Ne){v:IvQ}(hp:aeW c l=some v):(∃q,InD c q∧0<l.value q)∧ ∃q,InD c q∧l.value q<0:=by
 obtain⟨h1,_,h3⟩:=ahu l c _ v afT hp
 have hd:=((h3 v.sample).1 (aa9 h1)).2
 have h0:=adY hl v.sample
 have hn:=afJ hl
 constructor
 ·obtain⟨e,he,hm⟩:=hd.open l.nor
  refine⟨_,hm e (dR he) fR,?_⟩
  rw[abL,h0]
  have:=aao he hn
  grind
 ·obtain⟨e,he,hm⟩:=hd.open ⟨-l.nor.x, -l.nor.y⟩
  refine⟨_,hm e (dR he) fR,?_⟩
  rw[abL,h0]
  have:=aao he hn
  simp only[PtQ.dot] at this⊢
  grind
theorem atL{c:aag}{l:LnQ}{v:IvQ}(hc:aba c)(hl:l.ok)(hp:aeW c l=some v):
  aba (aoz (abM l c) l v)∧ ∀p,InD (aoz (abM l c) l v) p↔InD c p∧0<l.value p:=by
 obtain⟨⟨q,hq,lq⟩,_⟩:=ahf hl.ne hp
 obtain⟨v1,v2,v3⟩:=ahu l c _ v afT hp
 have hD: ∀p,InD (aoz (abM l c) l v) p↔InD c p∧0<l.value p:=by
  intro p
  constructor
  ·intro h
   have lp:0<l.value p:=h ⟨l,v⟩ (acT.2 (.inl rfl))
   refine⟨fun s0 hs0=>?_,lp⟩
   by_cases h0:0<s0.l.value p
   ·exact h0
   ·exfalso
    obtain⟨e,e0,e1,⟨s,ms,ns,zs⟩,hC⟩:=akB (p:=p) hq ⟨s0,hs0,by grind⟩
    obtain⟨t,ht⟩:=awU (hc.ok s ms).ne zs
    rw[ht] at hC
    obtain⟨p1,p2⟩:=hc.edge s ms
    have hh:=(p2 t).2 hC
    have lr:0<l.value (s.l.at t):=by
     rw[←ht,acB]
     by_cases hB:0≤l.value p-l.value q
     ·have:=aad e0 hB;grind
     ·have:=aad (a:=1-e) (b:= -(l.value p-l.value q)) (by grind) (by grind)
      grind
    have hb:s.l.cutB s.v l=true:=by
     cases hb:s.l.cutB s.v l with
     |true=>rfl
     |false=>have:=atH p1 hb hh;grind
    have:=h ⟨s.l,s.l.cutV s.v l⟩ (acT.2 (.inr (acz.2 ⟨s,ms,hb,rfl⟩)))
    simp only at this
    grind
  ·rintro ⟨h1,h2⟩ s hs
   rcases acT.1 hs with rfl|hs
   ·exact h2
   ·obtain⟨s1,m1,_,rfl⟩:=acz.1 hs
    exact h1 s1 m1
 have hne: ∃p,InD (aoz (abM l c) l v) p:=⟨q,(hD q).2 ⟨hq,lq⟩⟩
 have hC: ∀p,InC (aoz (abM l c) l v) p↔InC c p∧0≤l.value p:=by
  intro p
  constructor
  ·intro h
   refine⟨fun s hs=>?_,h ⟨l,v⟩ (acT.2 (.inl rfl))⟩
   exact aaZ hne (fun p hp=>((hD p).1 hp).1 s hs) h
  ·rintro ⟨h1,h2⟩ s hs
   rcases acT.1 hs with rfl|hs
   ·exact h2
   ·obtain⟨s1,m1,_,rfl⟩:=acz.1 hs
    exact h1 s1 m1
 refine⟨⟨hne,fun s hs=>?_,fun s hs=>?_⟩,hD⟩
 ·rcases acT.1 hs with rfl|hs
  ·exact hl
  ·obtain⟨s1,m1,_,rfl⟩:=acz.1 hs
   exact hc.ok s1 m1
 ·rcases acT.1 hs with rfl|hs
  ·refine⟨v1,fun t=>?_⟩
   rw[hC]
   simp only
   rw[v2]
   have h0:=adY hl.ne t
   constructor
   ·intro h;exact⟨h.2,by rw[h0];exact fR⟩
   ·intro h;exact⟨an6 t,h.1⟩
  ·obtain⟨s1,m1,hb,rfl⟩:=acz.1 hs
   obtain⟨p1,p2⟩:=hc.edge s1 m1
   refine⟨aiZ p1 hb,fun t=>?_⟩
   rw[hC]
   simp only
   rw[akD hb,p2]
theorem InD.seg{c:aag}{q p:PtQ}{e:Rat}(hq:InD c q)(hp:InD c p)(h0:0≤e)(h1:e≤1):InD c (abg q p e):=fun s hs=>by
 rw[acB]
 have a:=hq s hs
 have b:=hp s hs
 by_cases he:e=0
 ·subst he;grind
 ·have:=aao (a:=e) (by grind) b
  have:=aad (a:=1-e) (b:=s.l.value q) (by grind) (by grind)
  grind
theorem akF{v:IvQ}{t:Rat}(h:v.ins t):(∃u,u<t∧v.has u)∧ ∃u,t<u∧v.has u:=by
 obtain⟨lo,hi,nl,nh⟩:=v
 unfold IvQ.ins at h
 unfold IvQ.has
 refine⟨⟨if nl=true then t-1 else lo,?_⟩,⟨if nh=true then t+1 else hi,?_⟩⟩<;>cases nl<;>cases nh<;>simp at* <;>grind
theorem acL{a b c x y z:Nat}(h1:x*b=a*y)(h2:x*c=a*z)(g:Nat.gcd (Nat.gcd a b) c=1):a∣x:=by
 have e:x=Nat.gcd (Nat.gcd (x*a) (x*b)) (x*c):=by
  rw[Nat.gcd_mul_left,Nat.gcd_mul_left,g,gR]
 rw[e]
 exact Nat.dvd_gcd (Nat.dvd_gcd (Nat.dvd_mul_left ..) (h1▸Nat.dvd_mul_right ..)) (h2▸Nat.dvd_mul_right ..)
theorem atB{a b c x y z:Int}(h1:a*y=b*x)(h2:a*z=c*x)(h3:b*z=c*y)
  (g1:Nat.gcd (Nat.gcd a.natAbs b.natAbs) c.natAbs=1)(g2:Nat.gcd (Nat.gcd x.natAbs y.natAbs) z.natAbs=1):
  (a=x∧b=y∧c=z)∨(a= -x∧b= -y∧c= -z):=by
 have n1:a.natAbs*y.natAbs=b.natAbs*x.natAbs:=by rw[←iW,←iW,h1]
 have n2:a.natAbs*z.natAbs=c.natAbs*x.natAbs:=by rw[←iW,←iW,h2]
 have n3:b.natAbs*z.natAbs=c.natAbs*y.natAbs:=by rw[←iW,←iW,h3]
 generalize ha:a.natAbs=A at*
 generalize hb:b.natAbs=B at*
 generalize hc:c.natAbs=C at*
 generalize hx:x.natAbs=X at*
 generalize hy:y.natAbs=Y at*
 generalize hz:z.natAbs=Z at*
 have gB:Nat.gcd (Nat.gcd B A) C=1:=by rw[iX B A];exact g1
 have gC:Nat.gcd (Nat.gcd C A) B=1:=by rw[Nat.gcd_assoc,iX];exact g1
 have gY:Nat.gcd (Nat.gcd Y X) Z=1:=by rw[iX Y X];exact g2
 have gZ:Nat.gcd (Nat.gcd Z X) Y=1:=by rw[Nat.gcd_assoc,iX];exact g2
 have e1:A=X:=Nat.dvd_antisymm (acL (x:=X) (y:=Y) (z:=Z) (by grind) (by grind) g1) (acL (x:=A) (y:=B) (z:=C) (by grind) (by grind) g2)
 have e2:B=Y:=Nat.dvd_antisymm (acL (x:=Y) (y:=X) (z:=Z) (by grind) (by grind) gB) (acL (x:=B) (y:=A) (z:=C) (by grind) (by grind) gY)
 have e3:C=Z:=Nat.dvd_antisymm (acL (x:=Z) (y:=X) (z:=Y) (by grind) (by grind) gC) (acL (x:=C) (y:=A) (z:=B) (by grind) (by grind) gZ)
 have s1:a=x∨a= -x:=by omega
 have s2:b=y∨b= -y:=by omega
 have s3:c=z∨c= -z:=by omega
 clear ha hb hc hx hy hz n1 n2 n3 g1 g2 gB gC gY gZ e1 e2 e3
 have z1:= @rJ x y
 have z2:= @rJ x z
 have z3:= @rJ y z
 rcases s1 with rfl|rfl<;>rcases s2 with rfl|rfl<;>rcases s3 with rfl|rfl<;>grind
theorem afd{l m:LnQ}(hl:l.ok)(hm:m.ok)(h: ∀t,l.value (m.at t)=0):l=m∨l=m.rev:=by
 have h0:=h 0
 have h1:=h 1
 rw[ab7] at h0 h1
 have hC:m.cutC l=0:=by grind
 have hK:m.cutK l=0:=by grind
 obtain⟨q,q1,q2⟩:=al0 hm.ne
 have hn:=afJ hm.ne
 unfold LnQ.cutC at hC
 rw[q2,acK] at hC
 unfold LnQ.cutK at hK
 simp only[LnQ.nor,LnQ.dir,PtQ.dot] at hK q1 hn hC
 obtain⟨a,b,c⟩:=l
 obtain⟨x,y,z⟩:=m
 simp only at*
 have e1:a*y=b*x:=by
  have:((a*y:Int):Rat)=((b*x:Int):Rat):=by rw[cV,cV];grind
  exact mZ.1 this
 have e2:a*z=c*x:=by
  have:((a*z:Int):Rat)=((c*x:Int):Rat):=by rw[cV,cV];grind
  exact mZ.1 this
 have e3:b*z=c*y:=by
  have:((b*z:Int):Rat)=((c*y:Int):Rat):=by rw[cV,cV];grind
  exact mZ.1 this
 rcases atB e1 e2 e3 hl.2 hm.2 with⟨rfl,rfl,rfl⟩|⟨rfl,rfl,rfl⟩
 ·exact .inl rfl
 ·exact .inr rfl
theorem LnQ.ok.rev{l:LnQ}(h:l.ok):l.rev.ok:=by
 obtain⟨h1,h2⟩:=h
 refine⟨?_,?_⟩
 ·simp only[LnQ.rev];omega
 ·simp only[LnQ.rev,jT];exact h2
theorem amD(l:LnQ): ∀c:aag,(∀s∈c,ael l s≤0∧s.l≠l)→ ¬0<ad8 l c
 |[],_=>by simp[ad8]
 |s::c,h=>by
  have h':=dZ.1 h
  unfold ad8
  rw[if_neg h'.1.2]
  split
  ·have:=h'.1.1;omega
  ·exact amD l c h'.2
theorem aj3{c:aag}{l:LnQ}(hc:aba c)(hl:l.ok)(hp:aeW c l=none):
  (0<ad8 l c∧ ∀p,InD c p→0<l.value p)∨(¬0<ad8 l c∧ ∀p,InD c p→l.value p<0):=by
 have hoff:=fun p (h:InD c p)=>auD hl.ne hp h
 by_cases hq: ∃q,InD c q∧0<l.value q
 ·left
  obtain⟨q,hq,lq⟩:=hq
  have hall: ∀p,InD c p→0<l.value p:=by
   intro p h
   have:=hoff p h
   by_cases h0:0<l.value p
   ·exact h0
   ·exfalso
    have hn:l.value p<0:=by grind
    have e1:l.value q/(l.value q-l.value p)*(l.value q-l.value p)=l.value q:=by grind
    generalize l.value q/(l.value q-l.value p)=e at*
    have f0:0≤e:=(aan (k:=l.value q-l.value p) (by grind)).1 (by grind)
    have f1:e≤1:=by
     have:=(aan (s:=1-e) (k:=l.value q-l.value p) (by grind)).1 (by grind)
     grind
    exact hoff _ (hq.seg h f0 f1) (by rw[acB];grind)
  refine⟨?_,hall⟩
  cases c with
  |nil=>simp[aeW,agL] at hp
  |cons s c=>
   obtain⟨p1,p2⟩:=hc.edge s aZ
   have hi:=aa9 p1
   have hr:=aaZ hc.ne hall ((p2 _).1 hi.has)
   unfold ad8
   by_cases h0:ael l s=0
   ·rw[if_neg (by simpa using h0)]
    have hz:l.value (s.l.at s.v.sample)=0:=(abN _).1 h0
    have hge: ∀t,s.v.has t→0≤l.value (s.l.at t):=fun t ht=>aaZ hc.ne hall ((p2 t).1 ht)
    obtain⟨⟨u1,m1,n1⟩,⟨u2,m2,n2⟩⟩:=akF hi
    have g1:=hge _ n1
    have g2:=hge _ n2
    rw[ab7] at hz g1 g2
    have hK:s.l.cutK l=0:=by
     rcases acO (s.l.cutK l) with h|h|h
     ·exact h
     ·exfalso
      have:=aao (a:=s.v.sample-u1) (b:=s.l.cutK l) (by grind) h
      grind
     ·exfalso
      have:=aao (a:=u2-s.v.sample) (b:= -s.l.cutK l) (by grind) (by grind)
      grind
    have hz2: ∀t,l.value (s.l.at t)=0:=fun t=>by rw[ab7,hK];rw[hK] at hz;grind
    rcases afd hl (hc.ok s aZ) hz2 with h|h
    ·rw[if_pos h.symm];decide
    ·exfalso
     have:=hall q hq
     rw[h,aaW] at this
     have:=hq s aZ
     grind
   ·rw[if_pos h0]
    have hz:l.value (s.l.at s.v.sample)≠0:=fun e=>h0 ((abN _).2 e)
    exact(ac7 _).2 (by grind)
 ·right
  have hall: ∀p,InD c p→l.value p<0:=fun p h=>by
   have:=hoff p h
   have: ¬0<l.value p:=fun h'=>hq ⟨p,h,h'⟩
   grind
  refine⟨amD l c fun s hs=>?_,hall⟩
  obtain⟨p1,p2⟩:=hc.edge s hs
  have hr:=aaZ (m:=l.rev) hc.ne (fun p h=>by rw[aaW];have:=hall p h;grind) ((p2 _).1 (aa9 p1).has)
  rw[aaW] at hr
  constructor
  ·have: ¬0<ael l s:=fun h=>by have:=(ac7 _).1 h;grind
   omega
  ·rintro rfl
   obtain⟨p,hp⟩:=hc.ne
   have:=hall p hp
   have:=hp s hs
   grind
/-! ### clipping -/
theorem adP{c:aag}{l:LnQ}(hc:aba c)(hl:l.ok):abo c l=true↔ ∃p,InD c p∧0<l.value p:=by
 unfold abo
 cases hp:aeW c l with
 |some v=>exact⟨fun _=>(ahf hl.ne hp).1,fun _=>rfl⟩
 |none=>
  simp only[aii,hp,Option.isSome_none,iT,if_false,decide_eq_true_iff]
  rcases aj3 hc hl hp with⟨h1,h2⟩|⟨h1,h2⟩
  ·refine⟨fun _=>?_,fun _=>h1⟩
   obtain⟨p,hp⟩:=hc.ne
   exact⟨p,hp,h2 p hp⟩
  ·refine⟨fun h=>absurd h h1,?_⟩
   rintro ⟨p,hp,h⟩
   have:=h2 p hp
   grind
theorem abl{c:aag}{l:LnQ}(hc:aba c)(hl:l.ok)(hb:abo c l=true):aba (aaN c l)∧ ∀p,InD (aaN c l) p↔InD c p∧0<l.value p:=by
 unfold aaN
 cases hp:aeW c l with
 |some v=>exact atL hc hl hp
 |none=>
  refine⟨hc,fun p=>?_⟩
  unfold abo at hb
  simp only[hp,aii,Option.isSome_none,iT,if_false,decide_eq_true_iff] at hb
  rcases aj3 hc hl hp with⟨h1,h2⟩|⟨h1,h2⟩
  ·exact⟨fun h=>⟨h,h2 p h⟩,fun h=>h.1⟩
  ·exact absurd hb h1
theorem aoN{c:aag}{l:LnQ}(hl:l.ok){p:PtQ}(hp:InD c p)(h0:l.value p=0):(∃q,InD c q∧0<l.value q)∧ ∃q,InD c q∧l.value q<0:=by
 have hn:=afJ hl.ne
 constructor
 ·obtain⟨e,he,hm⟩:=hp.open l.nor
  refine⟨_,hm e (dR he) fR,?_⟩
  rw[abL,h0]
  have:=aao he hn
  grind
 ·obtain⟨e,he,hm⟩:=hp.open ⟨-l.nor.x, -l.nor.y⟩
  refine⟨_,hm e (dR he) fR,?_⟩
  rw[abL,h0]
  have:=aao he hn
  simp only[PtQ.dot] at this⊢
  grind
inductive aFT (c:aag) (l:LnQ):Prop
 |left (h1:abo c l.rev=false) (h: ∀p,InD c p→0<l.value p)
 |right (h1:abo c l.rev=true) (h2:abo c l=false) (h: ∀p,InD c p→l.value p<0)
 |both (h1:abo c l.rev=true) (h2:abo c l=true) (g1:aba (aaN c l)) (g2:aba (aaN c l.rev))
   (e1: ∀p,InD (aaN c l) p↔InD c p∧0<l.value p) (e2: ∀p,InD (aaN c l.rev) p↔InD c p∧l.value p<0)
theorem lies{c:aag}{l:LnQ}(hc:aba c)(hl:l.ok):aFT c l:=by
 have hr:=adP hc hl.rev
 have hi:=adP hc hl
 cases h1:abo c l.rev with
 |false=>
  refine .left h1 fun p hp=>?_
  have hn: ¬ ∃q,InD c q∧l.value q<0:=by
   rintro ⟨q,a,b⟩
   have:=hr.2 ⟨q,a,by rw[aaW];grind⟩
   rw[h1] at this;exact absurd this (by decide)
  have n1: ¬l.value p<0:=fun h=>hn ⟨p,hp,h⟩
  have n2:l.value p≠0:=fun h=>hn (aoN hl hp h).2
  grind
 |true=>
  cases h2:abo c l with
  |false=>
   refine .right h1 h2 fun p hp=>?_
   have hn: ¬ ∃q,InD c q∧0<l.value q:=by
    intro h
    have:=hi.2 h
    rw[h2] at this;exact absurd this (by decide)
   have n1: ¬0<l.value p:=fun h=>hn ⟨p,hp,h⟩
   have n2:l.value p≠0:=fun h=>hn (aoN hl hp h).1
   grind
  |true=>
   obtain⟨g1,e1⟩:=abl hc hl h2
   obtain⟨g2,e2⟩:=abl hc hl.rev h1
   refine .both h1 h2 g1 g2 e1 fun p=>?_
   rw[e2,aaW]
   constructor<;>rintro ⟨a,b⟩<;>exact⟨a,by grind⟩
/-! ### trees -/
theorem Tr.restrict_A{l:LnQ}{e:aag}(X Y:Tr)(h:abo e l.rev=false):(Tr.node l X Y).restrict e=X.restrict e:=by
 rw[Tr.restrict,h];rfl
theorem Tr.restrict_B{l:LnQ}{e:aag}(X Y:Tr)(h:abo e l.rev=true)(h2:abo e l=false):(Tr.node l X Y).restrict e=Y.restrict e:=by
 rw[Tr.restrict,h,h2];rfl
theorem Tr.restrict_C{l:LnQ}{e:aag}(X Y:Tr)(h:abo e l.rev=true)(h2:abo e l=true):(Tr.node l X Y).restrict e=Tr.joinQ l (X.restrict (aaN e l)) (Y.restrict (aaN e l.rev)):=by
 rw[Tr.restrict,h,h2];rfl
def ae7:List LnQ→aag→Option aag
 |[],c=>some c
 |l::t,c=>if abo c l then ae7 t (aaN c l) else none
theorem akx: ∀{ls:List LnQ} {c e:aag},aba c→(∀l∈ls,l.ok)→ae7 ls c=some e→aba e∧ ∀p,InD e p↔InD c p∧ ∀l∈ls,0<l.value p
 |[],c,e,hc,_,h=>by
  obtain rfl:c=e:=by simpa[ae7] using h
  exact⟨hc,fun p=>⟨fun h=>⟨h,fun l hl=>absurd hl (by simp)⟩,fun h=>h.1⟩⟩
 |l::t,c,e,hc,hl,h=>by
  have hl':=dZ.1 hl
  rw[ae7] at h
  split at h
  ·rename_i hb
   obtain⟨g1,g2⟩:=abl hc hl'.1 hb
   obtain⟨k1,k2⟩:=akx g1 hl'.2 h
   refine⟨k1,fun p=>?_⟩
   rw[k2,g2,dZ,and_assoc]
  ·exact absurd h (by simp)
theorem ajP: ∀{ls:List LnQ} {c:aag},aba c→(∀l∈ls,l.ok)→(∃p,InD c p∧ ∀l∈ls,0<l.value p)→ ∃e,ae7 ls c=some e
 |[],c,_,_,_=>⟨c,rfl⟩
 |l::t,c,hc,hl,⟨p,h1,h2⟩=>by
  have hl':=dZ.1 hl
  have h2':=dZ.1 h2
  have hb:=(adP hc hl'.1).2 ⟨p,h1,h2'.1⟩
  obtain⟨g1,g2⟩:=abl hc hl'.1 hb
  rw[ae7,if_pos hb]
  exact ajP g1 hl'.2 ⟨p,(g2 p).2 ⟨h1,h2'.1⟩,h2'.2⟩
theorem al6{c:aag}(hc:aba c){s:FrQ}(hs:s∈c){m:LnQ}(hm:m.ok)(h: ∀p,InD c p→0<m.value p)(hz:m.value (s.l.at s.v.sample)=0):m=s.l:=by
 obtain⟨p1,p2⟩:=hc.edge s hs
 have hi:=aa9 p1
 have hge: ∀t,s.v.has t→0≤m.value (s.l.at t):=fun t ht=>aaZ hc.ne h ((p2 t).1 ht)
 obtain⟨⟨u1,m1,n1⟩,⟨u2,m2,n2⟩⟩:=akF hi
 have g1:=hge _ n1
 have g2:=hge _ n2
 rw[ab7] at hz g1 g2
 have hK:s.l.cutK m=0:=by
  rcases acO (s.l.cutK m) with h|h|h
  ·exact h
  ·exfalso
   have:=aao (a:=s.v.sample-u1) (b:=s.l.cutK m) (by grind) h
   grind
  ·exfalso
   have:=aao (a:=u2-s.v.sample) (b:= -s.l.cutK m) (by grind) (by grind)
   grind
 have hz2: ∀t,m.value (s.l.at t)=0:=fun t=>by rw[ab7,hK];rw[hK] at hz;grind
 rcases afd hm (hc.ok s hs) hz2 with h'|h'
 ·exact h'
 ·exfalso
  obtain⟨q,hq⟩:=hc.ne
  have:=h q hq
  rw[h',aaW] at this
  have:=hq s hs
  grind
def ab3(l:LnQ):List LnQ→IvQ→Option IvQ
 |[],v=>some v
 |m::t,v=>if m=l then ab3 l t v else if l.cutB v m then ab3 l t (l.cutV v m) else none
def InL(c:List LnQ)(p:PtQ):Prop:= ∀m∈c,0<m.value p
theorem aed(l:LnQ): ∀(c:List LnQ) (v w:IvQ),v.Pos→ab3 l c v=some w→
  w.Pos∧(∀t,w.ins t↔v.ins t∧ ∀m∈c,m≠l→0<m.value (l.at t))
 |[],v,w,hv,h=>by
  obtain rfl:v=w:=by simpa[ab3] using h
  exact⟨hv,fun t=>⟨fun h=>⟨h,fun s hs=>absurd hs (by simp)⟩,fun h=>h.1⟩⟩
 |m::c,v,w,hv,h=>by
  rw[ab3] at h
  split at h
  ·rename_i hm
   obtain⟨h1,h2⟩:=aed l c _ w hv h
   refine⟨h1,fun t=>?_⟩
   rw[h2,dZ]
   exact⟨fun h=>⟨h.1,fun h'=>absurd hm h',h.2⟩,fun h=>⟨h.1,h.2.2⟩⟩
  ·rename_i hm
   split at h
   ·rename_i hb
    obtain⟨h1,h2⟩:=aed l c _ w (aiZ hv hb) h
    refine⟨h1,fun t=>?_⟩
    rw[h2,arV hb,dZ,and_assoc]
    exact⟨fun h=>⟨h.1,fun _=>h.2.1,h.2.2⟩,fun h=>⟨h.1,h.2.1 hm,h.2.2⟩⟩
   ·exact absurd h (by simp)
theorem ahw(l:LnQ): ∀(c:List LnQ) (v:IvQ),v.Pos→ab3 l c v=none→ ∀t,v.has t→ ¬ ∀m∈c,m≠l→0<m.value (l.at t)
 |[],v,hv,h=>by simp[ab3] at h
 |m::c,v,hv,h=>by
  intro t ht hd
  have hd':=dZ.1 hd
  rw[ab3] at h
  split at h
  ·exact ahw l c _ hv h t ht hd'.2
  ·rename_i hm
   split at h
   ·rename_i hb
    exact ahw l c _ (aiZ hv hb) h t ((akD hb t).2 ⟨ht,dR (hd'.1 hm)⟩) hd'.2
   ·rename_i hb
    have:=atH hv (by simpa using hb) ht
    have:=hd'.1 hm
    grind
def abZ(c:List LnQ):Bool:=c.isEmpty||c.any (fun l=>(ab3 l c IvQ.all).isSome)
theorem akc: ∀{ls:List LnQ} {c e:aag},ae7 ls c=some e→ ∀s∈e,s.l∈ls∨ ∃s'∈c,s'.l=s.l
 |[],c,e,h,s,hs=>by
  obtain rfl:c=e:=by simpa[ae7] using h
  exact .inr ⟨s,hs,rfl⟩
 |l::t,c,e,h,s,hs=>by
  rw[ae7] at h
  split at h
  ·rcases akc h s hs with h1|⟨s',h1,h2⟩
   ·exact .inl (aK _ h1)
   ·unfold aaN at h1
    split at h1
    ·rcases acT.1 h1 with rfl|h1
     ·exact .inl (by rw[←h2];exact aZ)
     ·obtain⟨s1,m1,_,rfl⟩:=acz.1 h1
      exact .inr ⟨s1,m1,h2⟩
    ·exact .inr ⟨s',h1,h2⟩
  ·exact absurd h (by simp)
theorem aeL{c:List LnQ}(hok: ∀l∈c,l.ok)(hne: ∃p,InL c p): ∃e,ae7 c []=some e∧aba e∧(∀p,InD e p↔InL c p)∧ ∀s∈e,s.l∈c∧(ab3 s.l c IvQ.all).isSome=true:=by
 obtain⟨p,hp⟩:=hne
 obtain⟨e,he⟩:=ajP aba.nil hok ⟨p,fun s hs=>absurd hs (by simp),hp⟩
 obtain⟨g1,g2⟩:=akx aba.nil hok he
 have g3: ∀p,InD e p↔InL c p:=fun p=>by
  rw[g2]
  exact⟨fun h=>h.2,fun h=>⟨fun s hs=>absurd hs (by simp),h⟩⟩
 refine⟨e,he,g1,g3,fun s hs=>?_⟩
 have hm:s.l∈c:=by
  rcases akc he s hs with h|⟨_,h,_⟩
  ·exact h
  ·exact absurd h (by simp)
 refine⟨hm,?_⟩
 cases hp:ab3 s.l c IvQ.all with
 |some w=>rfl
 |none=>
  exfalso
  obtain⟨p1,p2⟩:=g1.edge s hs
  have hC:=(p2 s.v.sample).1 (aa9 p1).has
  refine ahw s.l c _ afT hp s.v.sample (an6 _) fun m hmc hne=>?_
  have hall: ∀p,InD e p→0<m.value p:=fun p hp=>(g3 p).1 hp m hmc
  have h0:=aaZ g1.ne hall hC
  have h1:m.value (s.l.at s.v.sample)≠0:=fun hz=>hne (al6 g1 hs (hok m hmc) hall hz)
  grind
theorem aei{c:List LnQ}(hok: ∀l∈c,l.ok):abZ c=true↔ ∃p,InL c p:=by
 unfold abZ
 rw[gU,List.isEmpty_iff,jL]
 constructor
 ·rintro (rfl|⟨l,hl,h⟩)
  ·exact⟨⟨0,0⟩,fun m hm=>absurd hm (by simp)⟩
  ·obtain⟨w,hw⟩:=pQ.1 h
   obtain⟨w1,w2⟩:=aed l c _ w afT hw
   have hi:=((w2 w.sample).1 (aa9 w1)).2
   have h0:=adY (hok l hl).ne w.sample
   have hd:InD ((c.filter (fun m=>decide (m≠l))).map (fun m=>(⟨m,IvQ.all⟩:FrQ))) (l.at w.sample):=by
    intro s hs
    obtain⟨m,hm,rfl⟩:=bW.1 hs
    rw[List.mem_filter,decide_eq_true_iff] at hm
    exact hi m hm.1 hm.2
   obtain⟨e,he,ho⟩:=hd.open l.nor
   refine⟨acu (l.at w.sample) l.nor e,fun m hm=>?_⟩
   by_cases hml:m=l
   ·subst hml
    rw[abL,h0]
    have:=aao he (afJ (hok m hl).ne)
    grind
   ·exact ho e (dR he) fR ⟨m,IvQ.all⟩ (bW.2 ⟨m,List.mem_filter.2 ⟨hm,by simpa using hml⟩,rfl⟩)
 ·intro hne
  obtain⟨e,h1,h2,h3,h4⟩:=aeL hok hne
  cases c with
  |nil=>exact .inl rfl
  |cons l c=>
   right
   cases e with
   |nil=>
    exfalso
    have:=(h3 (l.at 0)).1 (fun s hs=>absurd hs (by simp)) l aZ
    rw[adY (hok l aZ).ne] at this
    exact absurd this (by decide)
   |cons s e=>
    obtain⟨a,b⟩:=h4 s aZ
    exact⟨s.l,a,b⟩
def adS(out:List LnQ)(l:LnQ):Nat:=(out.takeWhile (fun x=>decide (aa5 x.dir l.dir<0))).length
def acm(out:List LnQ)(l:LnQ):List LnQ:=if out[adS out l]? =some l then out else out.take (adS out l)++l::out.drop (adS out l)
def adR(c:List LnQ):List LnQ→List LnQ→List LnQ
 |[],out=>out
 |l::t,out=>adR c t (if(ab3 l c IvQ.all).isSome then acm out l else out)
def aaJ(c:List LnQ):List LnQ:=adR c c []
theorem afi{out:List LnQ}{l m:LnQ}:m∈acm out l↔m=l∨m∈out:=by
 unfold acm
 split
 ·rename_i h
  exact⟨fun h=> .inr h,fun h'=>h'.elim (fun e=>e▸aM h) id⟩
 ·generalize adS out l=n
  have h:=jW n out
  rw[bS,aS]
  constructor
  ·rintro (h1|h1|h1)
   ·exact .inr (eJ h1)
   ·exact .inl h1
   ·exact .inr (fU h1)
  ·rintro (h1|h1)
   ·exact .inr (.inl h1)
   ·rw[←h,bS] at h1
    rcases h1 with h1|h1
    ·exact .inl h1
    ·exact .inr (.inr h1)
theorem aj1{c:List LnQ}{m:LnQ}: ∀{t out:List LnQ},m∈adR c t out↔m∈out∨m∈t∧(ab3 m c IvQ.all).isSome=true
 |[],out=>by simp[adR]
 |l::t,out=>by
  rw[adR,aj1]
  split
  ·rename_i h
   rw[afi,aS]
   constructor
   ·rintro ((rfl|h1)|⟨h1,h2⟩)
    ·exact .inr ⟨.inl rfl,h⟩
    ·exact .inl h1
    ·exact .inr ⟨.inr h1,h2⟩
   ·rintro (h1|⟨rfl|h1,h2⟩)
    ·exact .inl (.inr h1)
    ·exact .inl (.inl rfl)
    ·exact .inr ⟨h1,h2⟩
  ·rename_i h
   rw[aS]
   constructor
   ·rintro (h1|⟨h1,h2⟩)
    ·exact .inl h1
    ·exact .inr ⟨.inr h1,h2⟩
   ·rintro (h1|⟨rfl|h1,h2⟩)
    ·exact .inl h1
    ·exact absurd h2 h
    ·exact .inr ⟨h1,h2⟩
theorem aa4{c:List LnQ}{m:LnQ}:m∈aaJ c↔m∈c∧(ab3 m c IvQ.all).isSome=true:=by
 unfold aaJ;rw[aj1];simp
theorem ae4{c:List LnQ}(hok: ∀l∈c,l.ok)(hne: ∃p,InL c p)(p:PtQ):InL (aaJ c) p↔InL c p:=by
 constructor
 ·intro h
  obtain⟨e,h1,h2,h3,h4⟩:=aeL hok hne
  exact(h3 p).1 fun s hs=>h s.l (aa4.2 (h4 s hs))
 ·intro h m hm;exact h m (aa4.1 hm).1
def adQ(c:List LnQ)(l:LnQ):Int:=if abZ (c++[l])&&abZ (c++[l.rev]) then 0 else if abZ (c++[l]) then 1 else-1
def Tr.restrictL:Tr→List LnQ→Tr
 | .leaf b,_=> .leaf b
 | .node l x y,c=>if adQ c l=1 then x.restrictL c else if adQ c l= -1 then y.restrictL c else joinQ l (x.restrictL (aaJ (c++[l]))) (y.restrictL (aaJ (c++[l.rev])))
theorem abz{c:List LnQ}{l:LnQ}{p:PtQ}:InL (c++[l]) p↔InL c p∧0<l.value p:=by
 unfold InL
 rw[pN]
 simp
theorem abO{c:List LnQ}{l:LnQ}(hok: ∀m∈c,m.ok)(hl:l.ok): ∀m∈c++[l],m.ok:=by
 rw[pN]
 exact⟨hok,by simpa using hl⟩
theorem Tr.restrictL_eq: ∀(t:Tr) (c:List LnQ) (d:aag),t.all LnQ.ok→(∀l∈c,l.ok)→aba d→(∀p,InD d p↔InL c p)→t.restrictL c=t.restrict d
 | .leaf b,c,d,_,_,_,_=>rfl
 | .node l x y,c,d,h,hc,hd,he=>by
  obtain⟨hl,hx,hy⟩:=h
  have i1:=aei (abO hc hl)
  have i2:=aei (abO hc hl.rev)
  obtain⟨p0,hp0⟩:=hd.ne
  rcases lies hd hl with⟨a1,a⟩|⟨a1,a2,a⟩|⟨a1,a2,ag1,ag2,ae1,ae2⟩
  ·have b1:abZ (c++[l])=true:=i1.2 ⟨p0,abz.2 ⟨(he p0).1 hp0,a p0 hp0⟩⟩
   have b2:abZ (c++[l.rev])=false:=by
    rw[←lU,i2]
    rintro ⟨p,hp⟩
    have hp:=abz.1 hp
    have:=a p ((he p).2 hp.1)
    rw[aaW] at hp
    grind
   rw[Tr.restrict_A _ _ a1,Tr.restrictL,adQ,b1,b2]
   exact x.restrictL_eq c d hx hc hd he
  ·have b2:abZ (c++[l.rev])=true:=i2.2 ⟨p0,abz.2 ⟨(he p0).1 hp0,by rw[aaW];have:=a p0 hp0;grind⟩⟩
   have b1:abZ (c++[l])=false:=by
    rw[←lU,i1]
    rintro ⟨p,hp⟩
    have hp:=abz.1 hp
    have:=a p ((he p).2 hp.1)
    grind
   rw[Tr.restrict_B _ _ a1 a2,Tr.restrictL,adQ,b1,b2]
   exact y.restrictL_eq c d hy hc hd he
  ·have n1: ∃p,InL (c++[l]) p:=by
    obtain⟨p,hp⟩:=ag1.ne
    exact⟨p,abz.2 ⟨(he p).1 ((ae1 p).1 hp).1,((ae1 p).1 hp).2⟩⟩
   have n2: ∃p,InL (c++[l.rev]) p:=by
    obtain⟨p,hp⟩:=ag2.ne
    exact⟨p,abz.2 ⟨(he p).1 ((ae2 p).1 hp).1,by rw[aaW];have:=((ae2 p).1 hp).2;grind⟩⟩
   rw[Tr.restrict_C _ _ a1 a2,Tr.restrictL,adQ,i1.2 n1,i2.2 n2]
   have k1:=x.restrictL_eq (aaJ (c++[l])) (aaN d l) hx (fun m hm=>abO hc hl m (aa4.1 hm).1) ag1 fun p=>by
    rw[ae4 (abO hc hl) n1,ae1,abz,he]
   have k2:=y.restrictL_eq (aaJ (c++[l.rev])) (aaN d l.rev) hy (fun m hm=>abO hc hl.rev m (aa4.1 hm).1) ag2 fun p=>by
    rw[ae4 (abO hc hl.rev) n2,ae2,abz,he,aaW]
    constructor<;>rintro ⟨a,b⟩<;>exact⟨a,by grind⟩
   rw[k1,k2]
   rfl
def crossI(l m:LnQ):Int:=l.a*m.b-m.a*l.b
def meetX(l m:LnQ):Int:=l.b*m.c-m.b*l.c
def meetY(l m:LnQ):Int:=m.a*l.c-l.a*m.c
def abH(l m:LnQ):PtQ:=if crossI l m=0 then⟨0,0⟩ else⟨(meetX l m:Rat)/(crossI l m:Rat),(meetY l m:Rat)/(crossI l m:Rat)⟩
def abp(l:LnQ)(p:PtQ):Rat:=p.dot l.dir/l.dir.dot l.dir
theorem ayj(l:LnQ):l.dir.dot l.dir=l.nor.dot l.nor:=by
 simp only[LnQ.dir,LnQ.nor,PtQ.dot];grind
theorem amC{l:LnQ}(h:l.Ne):0<l.dir.dot l.dir:=by rw[ayj];exact afJ h
theorem aea(l m:LnQ):((crossI l m:Int):Rat)=(l.a:Rat)*m.b-(m.a:Rat)*l.b:=by
 unfold crossI;rw[jR,cV,cV]
theorem akk(l m:LnQ):((meetX l m:Int):Rat)=(l.b:Rat)*m.c-(m.b:Rat)*l.c:=by
 unfold meetX;rw[jR,cV,cV]
theorem ajO(l m:LnQ):((meetY l m:Int):Rat)=(m.a:Rat)*l.c-(l.a:Rat)*m.c:=by
 unfold meetY;rw[jR,cV,cV]
theorem afn(l m:LnQ):l.cutK m= -((crossI l m:Int):Rat):=by
 rw[aea];simp only[LnQ.cutK,LnQ.nor,LnQ.dir,PtQ.dot];grind
theorem apr(l m:LnQ):m.dir.cross l.dir=l.cutK m:=by
 simp only[LnQ.cutK,LnQ.nor,LnQ.dir,PtQ.dot,PtQ.cross];grind
theorem ap3{l:LnQ}:(⟨-((l.c:Rat)/l.dir.dot l.dir)*(l.a:Rat), -((l.c:Rat)/l.dir.dot l.dir)*(l.b:Rat)⟩:PtQ)=l.base:=by
 unfold LnQ.base
 rw[ayj]
 simp only[LnQ.nor,PtQ.scale,PtQ.mk.injEq]
 constructor<;>grind
theorem af6(l:LnQ)(t:Rat):acu l.base l.dir t=l.at t:=by
 simp only[acu,LnQ.at,PtQ.add,PtQ.scale,PtQ.mk.injEq]
 constructor<;>grind
theorem aeo{l m:LnQ}(hl:l.Ne)(h:crossI l m≠0):abp l (abH l m)= -(l.cutC m/l.cutK m):=by
 have hd:((crossI l m:Int):Rat)≠0:=fun e=>h (cR.1 e)
 have hn:=amC hl
 obtain⟨q,q1,q2⟩:=al0 hl
 rw[afn]
 unfold abp abH LnQ.cutC
 rw[if_neg h,q2,acK,akk,ajO]
 have hc:=aea l m
 rw[ayj] at hn⊢
 simp only[LnQ.dir,LnQ.nor,PtQ.dot] at hn q1⊢
 generalize ((crossI l m:Int):Rat)=d at*
 generalize (l.a:Rat)=a at*
 generalize (l.b:Rat)=b at*
 generalize (l.c:Rat)=c at*
 generalize (m.a:Rat)=x at*
 generalize (m.b:Rat)=y at*
 generalize (m.c:Rat)=z at*
 have hn':a*a+b*b≠0:=by grind
 have e:((b*z-y*c)/d*b+(x*c-a*z)/d* -a)=((b*z-y*c)*b-(x*c-a*z)*a)/d:=by grind
 rw[e]
 have k1:(b*z-y*c)*b-(x*c-a*z)*a=(a*a+b*b)*(x*(a*q)+y*(b*q)+z):=by grind
 rw[k1]
 grind
theorem aqE{l m:LnQ}(hl:l.Ne)(h:crossI l m≠0):abp l (abH l m)*((crossI l m*(l.a*l.a+l.b*l.b):Int):Rat)=((meetX l m*l.b-meetY l m*l.a:Int):Rat):=by
 have hd:((crossI l m:Int):Rat)≠0:=fun e=>h (cR.1 e)
 have hn:=amC hl
 unfold abp abH
 rw[if_neg h]
 simp only[cV,jR,pK]
 simp only[LnQ.dir,PtQ.dot] at hn⊢
 generalize ((crossI l m:Int):Rat)=d at*
 generalize ((meetX l m:Int):Rat)=x at*
 generalize ((meetY l m:Int):Rat)=y at*
 generalize (l.a:Rat)=a at*
 generalize (l.b:Rat)=b at*
 have hn':b*b+ -a* -a≠0:=by grind
 grind
theorem ahg(l m:LnQ)(t:List LnQ)(v:IvQ):ab3 l (m::t) v=if m=l then ab3 l t v else if l.cutB v m then ab3 l t (l.cutV v m) else none:=rfl
def ahO(v:IvQ)(t:Rat):IvQ:=if v.nl=true∨0<abc t v.lo then⟨t,v.hi,false,v.nh⟩ else v
def ahQ(v:IvQ)(t:Rat):IvQ:=if v.nh=true∨abc t v.hi<0 then⟨v.lo,t,v.nl,false⟩ else v
structure IvZ (v:IvQ):Prop where
 lo:v.nl=true→v.lo=0
 hi:v.nh=true→v.hi=0
theorem aiX(a b:Rat):0<abc a b↔b<a:=by
 unfold abc;split
 ·constructor
  ·intro h;exact absurd h (by decide)
  ·intro h;grind
 ·split
  ·exact⟨fun _=>by assumption,fun _=>by decide⟩
  ·constructor
   ·intro h;exact absurd h (by decide)
   ·intro h;exact absurd h (by assumption)
theorem aeX(a b:Rat):abc a b<0↔a<b:=by
 unfold abc;split
 ·exact⟨fun _=>by assumption,fun _=>by decide⟩
 ·split
  ·constructor
   ·intro h;exact absurd h (by decide)
   ·intro h;grind
  ·constructor
   ·intro h;exact absurd h (by decide)
   ·intro h;exact absurd h (by assumption)
theorem ajQ{v:IvQ}(h:IvZ v)(t:Rat):ahO v t=v.meet ⟨t,0,false,true⟩:=by
 obtain⟨lo,hi,nl,nh⟩:=v
 obtain⟨h1,h2⟩:=h
 unfold ahO IvQ.meet
 simp only[aiX] at*
 cases nl<;>cases nh<;>simp at* <;>(try (split<;>split<;>simp_all<;>grind))<;>grind
theorem ajW{v:IvQ}(h:IvZ v)(t:Rat):ahQ v t=v.meet ⟨0,t,true,false⟩:=by
 obtain⟨lo,hi,nl,nh⟩:=v
 obtain⟨h1,h2⟩:=h
 unfold ahQ IvQ.meet
 simp only[aeX] at*
 cases nl<;>cases nh<;>simp at* <;>(try (split<;>split<;>simp_all<;>grind))<;>grind
theorem IvZ.all:IvZ IvQ.all:=⟨fun _=>rfl,fun _=>rfl⟩
theorem IvZ.lo'{v:IvQ}(h:IvZ v)(t:Rat):IvZ (ahO v t):=by
 obtain⟨lo,hi,nl,nh⟩:=v
 unfold ahO;split
 ·exact⟨fun h=>by simp at h,h.hi⟩
 ·exact h
theorem IvZ.hi'{v:IvQ}(h:IvZ v)(t:Rat):IvZ (ahQ v t):=by
 obtain⟨lo,hi,nl,nh⟩:=v
 unfold ahQ;split
 ·exact⟨h.lo,fun h=>by simp at h⟩
 ·exact h
theorem agS{l m:LnQ}{v:IvQ}(h:crossI l m=0):l.cutV v m=v∧(l.cutB v m=true↔0<m.value l.base):=by
 have hk:l.cutK m=0:=by rw[afn,h];rfl
 exact af9 v hk
theorem aye{l m:LnQ}{v:IvQ}(hl:l.Ne)(hz:IvZ v)(h:0<m.dir.cross l.dir):crossI l m≠0∧l.cutV v m=ahO v (abp l (abH l m))∧l.cutB v m=!(ahO v (abp l (abH l m))).empty:=by
 rw[apr] at h
 have hc:crossI l m≠0:=fun e=>by rw[afn,e] at h;exact absurd h (by decide)
 obtain⟨h1,h2⟩:=amU v h
 refine⟨hc,?_,?_⟩
 ·rw[ajQ hz,aeo hl hc,h1]
 ·rw[ajQ hz,aeo hl hc,←h1]
  rw[←agK] at h2
  cases hb:l.cutB v m<;>cases he:(l.cutV v m).empty<;>simp_all
theorem aAa{l m:LnQ}{v:IvQ}(hl:l.Ne)(hz:IvZ v)(h0:crossI l m≠0)(h: ¬0<m.dir.cross l.dir):l.cutV v m=ahQ v (abp l (abH l m))∧l.cutB v m=!(ahQ v (abp l (abH l m))).empty:=by
 rw[apr] at h
 have hk:l.cutK m≠0:=fun e=>by
  rw[afn] at e
  have:((crossI l m:Int):Rat)=0:=by grind
  exact h0 (cR.1 this)
 obtain⟨h1,h2⟩:=anp (l:=l) (m:=m) v (by grind)
 refine⟨?_,?_⟩
 ·rw[ajW hz,aeo hl h0,h1]
 ·rw[ajW hz,aeo hl h0,←h1]
  rw[←agK] at h2
  cases hb:l.cutB v m<;>cases he:(l.cutV v m).empty<;>simp_all
def relo(fl:Nat→Bool)(o:Own):Own:={o with lo:=fl o.b}
structure FnO (P:Program) (f:FuncId) (vs:List Value) (M:List Own) (G:Gh) (K:Value→List Own→Gh→Prop):Prop where
 able:adN P f
 run: ∀w,ab5 ⟨w,G,M.map (·.b)⟩ (asB M) G w→
  Calls P f ⟨vs⟩ w fun e w'=> ∃v own' G',e= .returned v∧ab5 ⟨w,G,M.map (·.b)⟩ own' G' w'∧K v own' G'
def flM(M:List Own)(b:Nat):Bool:=M.all fun m=>!Nat.beq m.b b||m.lo
theorem ab5.calledO{C:Ctx}{M rest own':List Own}{G G':Gh}{w w':World}(h:ab5 C (M++rest) G w)(k:ab5 ⟨w,G,M.map (·.b)⟩ own' G' w'):
  ab5 C (own'.map (relo (flM M))++rest) G' w':=by
 have hsz:w.heap.size≤w'.heap.size:=k.size
 have hnd:=h.nd
 have inM: ∀b,b∈M.map (·.b)→ ∀o∈rest,o.b≠b:=fun b hb o ho e=>by
  obtain⟨m,hm,rfl⟩:=bW.1 hb
  exact(fW.1 hnd).2.2 m hm o ho e.symm
 have bnd: ∀o∈own',o.b∉M.map (·.b)→w.heap.size≤o.b:=fun o ho hb=>by
  obtain⟨_,_,h3,h4⟩:=k.hown o ho
  cases hlo:o.lo with
  |true=>exact h3 hlo
  |false=>exact absurd (h4 hlo) hb
 refine⟨k.os.trans h.os,k.tape.trans h.tape,k.output.trans h.output,cJ h.size hsz,?_,k.sub,h.gle.trans k.gle,?_,?_,?_,cJ h.dr k.dr⟩
 ·intro b hb hm
  have hs:=h.size
  have hnM:b∉M.map (·.b):=fun hb'=>by
   obtain⟨m,hmM,rfl⟩:=bW.1 hb'
   obtain⟨_,_,h3,h4⟩:=h.hown m (cX _ hmM)
   cases hlo:m.lo with
   |true=>have:=h3 hlo;omega
   |false=>exact hm (h4 hlo)
  rw[k.keep b (by show b<w.heap.size;omega) hnM];exact h.keep b hb hm
 ·intro b hb;have:=h.size;rw[k.gold b (by show b<w.heap.size;omega)];exact h.gold b hb
 ·intro o ho
  have hs:=h.size
  rcases bS.1 ho with ho|ho
  ·obtain⟨o',ho',rfl⟩:=bW.1 ho
   obtain⟨k1,k2,k3,k4⟩:=k.hown _ ho'
   refine⟨k1,k2,fun hl=>?_,fun hl=>?_⟩
   ·show C.w0.heap.size≤o'.b
    by_cases hb:o'.b∈M.map (·.b)
    ·obtain⟨m,hm,hmb⟩:=bW.1 hb
     have hl':flM M o'.b=true:=hl
     have:=eX.1 hl' m hm
     simp only[hmb,gU,fS,nT] at this
     obtain⟨_,_,h3,_⟩:=h.hown m (cX _ hm)
     rw[←hmb]
     exact h3 (by rcases this with h|h;(cases h);(exact h))
    ·have:=bnd o' ho' hb;omega
   ·show o'.b∈C.mb
    have hl':flM M o'.b=false:=hl
    obtain⟨m,hm,hmb⟩:=List.all_eq_false.1 hl'
    simp only[gU,fS,not_or] at hmb
    obtain⟨h1,h2⟩:=hmb
    have e:m.b=o'.b:=by
     cases hq:Nat.beq m.b o'.b with
     |true=>exact aT hq
     |false=>exact absurd hq h1
    obtain⟨_,_,_,h4⟩:=h.hown m (cX _ hm)
    rw[←e]
    exact h4 (by cases hq:m.lo with
     |true=>exact absurd hq h2
     |false=>rfl)
  ·obtain⟨h1,h2,h3⟩:=h.hown o (cW _ ho)
   have hnM:o.b∉M.map (·.b):=fun hb=>inM _ hb o ho rfl
   exact⟨by rw[k.keep _ (adc h1) hnM];exact h1,by rw[k.gold _ (adc h1)];exact h2,h3⟩
 ·refine fW.2 ⟨?_,(fW.1 hnd).2.1,?_⟩
  ·rw[List.pairwise_map];exact k.nd
  ·intro x hx y hy
   obtain⟨o',ho',rfl⟩:=bW.1 hx
   show o'.b≠y.b
   by_cases hb:o'.b∈M.map (·.b)
   ·exact fun e=>inM _ hb y hy e.symm
   ·have h1:=bnd o' ho' hb
    have h2:=adc (h.hown y (cW _ hy)).1
    omega
def af3(C:Ctx)(K:Value→List Own→Gh→Prop):Ending→World→Prop:=fun e w'=> ∃v own' G',e= .returned v∧ab5 C own' G' w'∧K v own' G'
theorem FnO.intro{P:Program}{G:Gh}{f:FuncId}{fn:Func}{c:Code}{vs:List Value}{m:Nat}{M:List Own}{K:Value→List Own→Gh→Prop}(hf:P.funcs[f]? =some fn)(hb:fn.body=some c)(hn:(fn.name== "runtime.NumGoroutine")=false)(hm:fn.ntmps=m)(hlen:Nat.ble vs.length m=true)
  (h: ∀C:Ctx,C.G0=G→C.mb=M.map (·.b)→St C m (ajj 0 vs) (asB M) G (c.wp P (bodyPost P fn (af3 C K)))):FnO P f vs M G K:=by
 refine⟨⟨fn,hf,hn,by simp[hb]⟩,fun w hw=>?_⟩
 have hlen':vs.length≤m:=by simpa using hlen
 have:=calls_of_wp (P:=P) (f:=f) (args:=⟨vs⟩) (w:=w) (R:=af3 ⟨w,G,M.map (·.b)⟩ K) hf hb (h ⟨w,G,M.map (·.b)⟩ J J _ w
  ⟨hw,by simp;omega,fun k v hk=>by
   obtain⟨j,rfl,hj⟩:=ad9 vs 0 k v hk
   have hj':=(bJ.1 hj).1
   rw[oV (by simpa using hj')]
   simpa using hj,rfl⟩)
 exact this
section
variable {P:Program} {C:Ctx} {n:Nat} {fr:Fr} {own own':List Own} {G:Gh} {Φ:Act→World→Prop}
variable {dst:Option Nat} {t t' ty':TypeId} {pos:String} {af:Array Edge} {gd:Option (Nat×Bool)} {x y:Operand}
theorem ah3{fn:Func}{K:Value→List Own→Gh→Prop}{vs:List Value}(hr:RVs P fr own fn.results.toList vs)(own2 own3:List Own)(hp:own.Perm own2)(hs:own3.Sublist own2)(hk:K (abP vs) own3 G):St C n fr own G (bodyPost P fn (af3 C K) .ret):=
 fun a w rl=>⟨rl.df,_,adD hr rl.fr rl.h,_,own3,G,rfl,(rl.h.perm hp).drop hs,hk⟩
theorem aul{f:FuncId}{fo:Operand}{args:Array Operand}{tys:Array TypeId}{vs c1 c2:List Value}{M rest:List Own}{K:Value→List Own→Gh→Prop}(ho:opv fr fo=some (.func (.func f) ⟨c1⟩ ⟨c2⟩))(hv:af2 fr args.toList=some vs)
  (hp:own.Perm (M++rest))(hF:FnO P f (c1++vs++c2) M G K)(hd:aaO n dst=true)(h: ∀v own1 (G':Gh),[GE G G']→K v own1 G'→St C n (put fr dst v) (own1.map (relo (flM M))++rest) G' Φ):
  Ch P C n fr own G ⟨dst, .call ⟨.value fo,args,tys⟩,ty',pos,af,gd⟩ Φ:=by
 intro a w Q rl
 have h2:=ah9 (P:=P) (dst:=dst) (ty':=ty') (pos:=pos) (af:=af) (gd:=gd) (tys:=tys) (w:=w) hF.able rl.fr ho hv
 simp only[Oper.wp,h2,Oper.upon]
 have hh0:=rl.h.perm hp
 refine(hF.run w hh0.lend).mono ?_
 rintro e w' ⟨v,own1,G',rfl,hh,hK⟩
 exact @h v own1 G' ⟨hh.gle⟩ hK _ _ ((rl.heap (hh0.calledO hh)).put _ hd)
theorem aew{f:FuncId}{fo:Operand}{args:Array Operand}{tys:Array TypeId}{vs:List Value}{M rest:List Own}{K:Value→List Own→Gh→Prop}(ho:opv fr fo=some (.func (.func f) #[] #[]))(hv:af2 fr args.toList=some vs)
  (hp:own.Perm (M++rest))(hF:FnO P f vs M G K)(hd:aaO n dst=true)(h: ∀v own1 (G':Gh),[GE G G']→K v own1 G'→St C n (put fr dst v) (own1.map (relo (flM M))++rest) G' Φ):
  Ch P C n fr own G ⟨dst, .call ⟨.value fo,args,tys⟩,ty',pos,af,gd⟩ Φ:=
 aul (c1:=[]) (c2:=[]) ho hv hp (by simpa using hF) hd h
end
section
variable {P:Program} {C:Ctx} {n:Nat} {fr:Fr} {own own' own1:List Own} {G:Gh} {Φ:Act→World→Prop}
variable {dst:Option Nat} {t t' ty':TypeId} {pos:String} {af:Array Edge} {gd:Option (Nat×Bool)} {x y:Operand} {e s by_:Nat}
theorem agC{v:Value}{b off k:Nat}{cs cs':List Value}{ty:TypeId}{lo:Bool}(hx:opv fr x=some (.pointer (some ⟨b,off,none⟩)))(hy:opv fr y=some v)[hs:TyA P t k][ho:OAt own b cs ty lo]
  (hc:ovw cs off (aaf v)=cs')(hu:agl own b cs ty lo cs' own')(hk:(aaf v).length=k)(hl:off+k≤cs.length)(hf:(aaf v).all flat=true)(hd:aaO n dst=true)(h:St C n (put fr dst undef) own' G Φ):
  Ch P C n fr own G ⟨dst, .store t x y,ty',pos,af,gd⟩ Φ:=alB hx hy (hc▸hu) hk hl hf hd h
theorem adm{v:Value}{b off:Nat}{cs cs':List Value}{ty:TypeId}{lo:Bool}(hx:opv fr x=some (.pointer (some ⟨b,off,none⟩)))(hy:opv fr y=some v)[hs:TyS P t][ho:OAt own b cs ty lo]
  (hc:cs.set off v=cs')(hu:agl own b cs ty lo cs' own')(hl:off<cs.length)(hf:flat v=true)(hd:aaO n dst=true)(h:St C n (put fr dst undef) own' G Φ):
  Ch P C n fr own G ⟨dst, .store t x y,ty',pos,af,gd⟩ Φ:=ado hx hy (hc▸hu) hl hf hd h
theorem aCP[hT:acN P t e s by_]{ad:Option Addr}{len cap:Nat}(hx:opv fr x=some (.slice ad len cap)):
  Yd P C fr own G ⟨dst, .call ⟨.builtin .cap, #[x], #[t]⟩,ty',pos,af,gd⟩ (.int .i64 cap):=by
 intro a w hf hh
 simp only[execOp,resolve,gW,cZ,iN,aab hf hx]
 have h1:(Builtin.cap_ #[t] ty' #[.slice ad len cap]).run P w= .ok (.int .i64 cap) w:=by
  simp only[Builtin.cap_]
  show(underlying t>>=_).run P w=_
  rw[aaa (hT.u w)]
  rfl
 exact aam h1
theorem avA{w:World}[hT:acN P t e s by_]{b off l c l2 c2 m:Nat}{ad2:Option Addr}{cs ys:List Value}{ty:TypeId}(hm:Nat.min l2 l=m)
  (hb:w.heap[b]? =some (.cells ⟨cs⟩ ty (0,0)))(hsy:(Builtin.firstCells s m (.slice ad2 l2 c2)).run P w= .ok ⟨ys⟩ w)(hf: ∀v∈ys,flat v=true)(hl:off+ys.length≤cs.length):
  (Builtin.copy_ #[t,t'] ty' #[.slice (some ⟨b,off,none⟩) l c, .slice ad2 l2 c2]).run P w=
   .ok (.int .i64 m) (abE w b (.cells ⟨ovw cs off ys⟩ ty (0,0))):=by
 obtain⟨i,hi,his,hib⟩:=hT.info
 subst his
 have hst:=acf (P:=P) ys w off 0 cs hf hb (by omega)
 rw[dT] at hst
 subst hm
 simp[Builtin.copy_,run_underlying hT.un,sizeOf,typeInfo,hi,Builtin.lenOf,hsy,hst]
 rfl
theorem arx[hT:acN P t e s by_]{b off l c l2 c2 m:Nat}{ad2:Option Addr}{cs ys:List Value}{ty:TypeId}{lo:Bool}(hx:opv fr x=some (.slice (some ⟨b,off,none⟩) l c))(hy:opv fr y=some (.slice ad2 l2 c2))
  (hm:Nat.min l2 l=m)(hsy:Src P C own G s m (.slice ad2 l2 c2) ys)(hf: ∀v∈ys,flat v=true)(hl:off+ys.length≤cs.length)(hu:agl own b cs ty lo (ovw cs off ys) own')(hd:aaO n dst=true)
  (h:St C n (put fr dst (.int .i64 m)) own' G Φ):Ch P C n fr own G ⟨dst, .call ⟨.builtin .copy, #[x,y], #[t,t']⟩,ty',pos,af,gd⟩ Φ:=by
 intro a w Q rl
 have hb:=(rl.h.hown _ (hu.spec rl.h.nd).1).1
 refine abu (v:= .int .i64 m) (w':=abE w b (.cells ⟨ovw cs off ys⟩ ty (0,0))) ?_ (h _ _ ((rl.heap (rl.h.store hu)).put _ hd))
 simp only[execOp,resolve,gW,cZ,iN,aab rl.fr hx,aab rl.fr hy]
 exact aam (avA hm hb (hsy w rl.h) hf hl)
theorem afP[hT:acN P t e s by_][hN:TyN P t']{b len cap m cap2:Nat}{ad2:Option Addr}{cs ys:List Value}{lo:Bool}
  (hx:opv fr x=some (.slice (some ⟨b,0,none⟩) len cap))(hy:opv fr y=some (.slice ad2 m cap2))(hu:agl own b cs e lo (ovw cs (len*s) ys) own')(hcs:cs.length=cap*s)
  (hsy:Src P C own G s m (.slice ad2 m cap2) ys)(hys:ys.length=m*s)(hf: ∀v∈ys,flat v=true)(hneed:len+m≤cap)(hd:aaO n dst=true)
  (h:St C n (put fr dst (.slice (some ⟨b,0,none⟩) (len+m) cap)) own' G Φ):
  Ch P C n fr own G ⟨dst, .call ⟨.builtin .append, #[x,y], #[t,t']⟩,ty',pos,af,gd⟩ Φ:=by
 intro a w Q rl
 have hb:=(rl.h.hown _ (hu.spec rl.h.nd).1).1
 refine abu (v:= .slice (some ⟨b,0,none⟩) (len+m) cap) (w':=abE w b (.cells ⟨ovw cs (len*s) ys⟩ e (0,0))) ?_ (h _ _ ((rl.heap (rl.h.store hu)).put _ hd))
 simp only[execOp,resolve,gW,cZ,iN,aab rl.fr hx,aab rl.fr hy]
 exact aam (adC hb hcs (hsy w rl.h) hys hf hneed)
theorem akM[hT:acN P t e s by_][hN:TyN P t']{z:Value}[hz:TyZ P e z]{b len cap m cap2:Nat}{ad2:Option Addr}{xs ys rest:List Value}{lo:Bool}
  (hx:opv fr x=some (.slice (some ⟨b,0,none⟩) len cap))(hy:opv fr y=some (.slice ad2 m cap2))(hr:alc own ⟨b,xs++rest,e,lo⟩ own1)(hxs:xs.length=len*s)(hcap:xs.length+rest.length=cap*s)(hlc:len≤cap)
  (hsy:Src P C own G s m (.slice ad2 m cap2) ys)(hys:ys.length=m*s)(hf: ∀v∈ys,flat v=true)
  (hby:0<by_)(hb:(len+m)*by_≤140737488355328)(hzs:(aaf z).length=s)(hd:aaO n dst=true)
  (h: ∀b lo' cap' rest',len+m≤cap'→rest'.length+(len+m)*s=cap'*s→St C n (put fr dst (.slice (some ⟨b,0,none⟩) (len+m) cap')) (⟨b,xs++ys++rest',e,lo'⟩::own1) G Φ):
  Ch P C n fr own G ⟨dst, .call ⟨.builtin .append, #[x,y], #[t,t']⟩,ty',pos,af,gd⟩ Φ:=by
 intro a w Q rl
 have hp:=rl.h.perm hr.perm
 have hblk:=(hp.hown _ aZ).1
 simp only[] at hblk
 by_cases hneed:len+m≤cap
 ·have hcs:(xs++rest).length=cap*s:=by simp;omega
  have hrun:=adC (P:=P) (t:=t) (t':=t') (ty':=ty') (w:=w) (len:=len) hblk hcs (hsy w rl.h) hys hf hneed
  have hle:len*s+m*s≤cap*s:=by rw[←cY];exact bV _ hneed
  have hov:ovw (xs++rest) (len*s) ys=xs++ys++rest.drop (m*s):=by
   rw[acA _ _ _ (by rw[hys];omega),←hxs]
   simp[hys,lV]
  refine abu (v:= .slice (some ⟨b,0,none⟩) (len+m) cap) (w':=abE w b (.cells ⟨ovw (xs++rest) (len*s) ys⟩ e (0,0))) ?_ ?_
  ·simp only[execOp,resolve,gW,cZ,iN,aab rl.fr hx,aab rl.fr hy]
   exact aam hrun
  ·rw[hov]
   refine h b lo cap (rest.drop (m*s)) hneed ?_ _ _ ((rl.heap (hp.store (.hd ..))).put _ hd)
   rw[fM,cY]
   omega
 ·have hx':Src P C own G s len (.slice (some ⟨b,0,none⟩) len cap) xs:=fun w' hw'=>by
   have hb':=(((hw'.perm hr.perm).hown _ aZ).1)
   refine adk hb' ?_
   rw[abG _ _ _ (by simp;omega),←hxs]
   simp
  have hcap':len+m≤grownCap w (len+m) cap e:=by unfold grownCap;simp only[Question.cut];omega
  have hrun:=adF (P:=P) (t:=t) (t':=t') (ty':=ty') (w:=w) (w':=w) (hx' _ rl.h.drew) (hsy _ rl.h.drew) (by omega) hby hb
  refine abu (v:= .slice (some ⟨w.heap.size,0,none⟩) (len+m) (grownCap w (len+m) cap e)) (w':=w.drew.alloc (.cells ⟨xs++ys++abC z (grownCap w (len+m) cap e-(len+m))⟩ e)) ?_ ?_
  ·simp only[execOp,resolve,gW,cZ,iN,aab rl.fr hx,aab rl.fr hy]
   exact aam hrun
  ·refine h w.heap.size _ _ _ hcap' ?_ _ _ ((rl.heap (((hp.drew).drop (List.sublist_cons_self _ _)).alloc _ _)).put _ hd)
   rw[abY,hzs,←cY]
   congr 1
   omega
theorem aom{f:FuncId}{fn:Func}{tS tR:TypeId}(hf:P.funcs[f]? =some fn)(hname:(fn.name== "runtime.NumGoroutine")=false)(hb:fn.body.isNone=true)(hn:Extern.findNext fn=none)
  (he:Extern.find fn=some (Extern.SlicesOverlaps.overlaps #[tS,tS] #[tR]))[hT:acN P tS e s by_]{args:Array Operand}{tys:Array TypeId}{fo:Operand}
  {b1 b2 o1 o2 l1 l2 c1 c2:Nat}{cs1 cs2:List Value}{t1 t2:TypeId}{lo1 lo2:Bool}(ho:opv fr fo=some (.func (.func f) #[] #[]))
  (hv:af2 fr args.toList=some [.slice (some ⟨b1,o1,none⟩) l1 c1, .slice (some ⟨b2,o2,none⟩) l2 c2])[h1:OAt own b1 cs1 t1 lo1][h2:OAt own b2 cs2 t2 lo2](hne:b1≠b2)(hc2:cs2≠[]):
  Yd P C fr own G ⟨dst, .call ⟨.value fo,args,tys⟩,ty',pos,af,gd⟩ (.bool false):=by
 intro a w hfr hh
 have e1:=(hh.hown _ h1.mem).1
 have e2:=(hh.hown _ h2.mem).1
 have ev:args.map a.eval=⟨[.slice (some ⟨b1,o1,none⟩) l1 c1, .slice (some ⟨b2,o2,none⟩) l2 c2]⟩:=by apply Array.ext';simpa using aiV hfr hv
 simp only[] at e1 e2
 have hrun:=Lib.run_overlaps_apart (P:=P) w tS tR e hT.un s hT.siz ⟨b1,o1,none⟩ ⟨b2,o2,none⟩ l1 c1 l2 c2 hne t1 t2 cs1.length cs2.length
  (by simp[World.shape?,e1]) (by simp[World.shape?,e2]) (by simpa using hc2) (by simp[World.frozen?,e1]) (by simp[World.frozen?,e1])
 simp only[execOp,resolve,aab hfr ho,ev,Deferred.ofValue]
 show(invoke (.fn (.func f) #[]) _).run P w=_
 simp only[invoke]
 have h3:=run_callFunc_extern (P:=P) hf hname hb hn he
 rw[h3]
 simp[hrun,Result.andThen]
end
instance akW.cons2 (l m:List Own) (o:Own) [h:akW l m]:akW (o::l) (o::m):=⟨h.s.cons_cons o⟩
theorem dr0{P:Program}{C:Ctx}{n:Nat}{fr:Fr}{own own0:List Own}{G:Gh}{ops:Array Oper}{Q:Exit→Act→World→Prop}{b:Nat}{cs:List Value}{ty:TypeId}{lo:Bool}(fin:Nat→Bool)(π:List (Nat×Bool)){id:Nat}(hm:P.follows .mixedOrders=true)(_hr:alc own ⟨b,cs,ty,lo⟩ own0)(ho:(adp ops fin π (Array.replicate ops.size false)&&Nat.ble π.length ops.size)=true)
  (h:St C n fr own G (dwL P ops (acp Q) (HS C own0 G) fin π)):St C n fr own G ((Code.region id ops true).wp P Q):=by
 simp only[bL] at ho
 intro a w rl
 exact wp_mono (wp_region_any hm (afq _ _ _ _ (abU (fun _ _ _ _ _ h=>h) π _ a _ ho.1 (h a _ (rl.heap rl.h.drew)) _ (by simpa using ho.2)))) acp.imp
/-! ### rows of values of several cells -/
def aai(vs:List Value):List Value:=(vs.map aaf).flatten
theorem aav{s:Nat}: ∀(vs:List Value),(∀v∈vs,(aaf v).length=s)→(aai vs).length=vs.length*s
 |[],_=>by simp[aai]
 |v::vs,h=>by
  have h1:=aav vs (fun u hu=>h u (aK _ hu))
  have h2:=h v aZ
  unfold aai at*
  simp only[cZ,oZ,aW,bU,h1,h2,iJ]
  omega
theorem ac1(us vs:List Value):aai (us++vs)=aai us++aai vs:=by simp[aai]
theorem aiu(v:Value):aai [v]=aaf v:=by simp[aai]
theorem agV{s:Nat}: ∀(vs:List Value) (i:Nat),(∀v∈vs,(aaf v).length=s)→i≤vs.length→(aai vs).take (i*s)=aai (vs.take i)
 |vs,0,_,_=>by simp[aai]
 |[],i+1,_,h=>by simp at h
 |v::vs,i+1,h,hi=>by
  have h1:=agV vs i (fun u hu=>h u (aK _ hu)) (by simpa using hi)
  have h2:=h v aZ
  unfold aai at*
  simp only[cZ,oZ,mT]
  rw[List.take_append,h2,aV (by rw[h2,iJ];omega),iJ,kU,h1]
theorem afw{s:Nat}: ∀(vs:List Value) (i:Nat),(∀v∈vs,(aaf v).length=s)→i≤vs.length→(aai vs).drop (i*s)=aai (vs.drop i)
 |vs,0,_,_=>by simp
 |[],i+1,_,h=>by simp at h
 |v::vs,i+1,h,hi=>by
  have h1:=afw vs i (fun u hu=>h u (aK _ hu)) (by simpa using hi)
  have h2:=h v aZ
  unfold aai at*
  simp only[cZ,oZ,rW]
  rw[lV,h2,iM (by rw[h2,iJ];omega),iJ,kU,h1,lQ]
theorem ahm{s:Nat}{vs rest:List Value}(h: ∀v∈vs,(aaf v).length=s){i:Nat}(hi:i<vs.length):aaX (aai vs++rest) (i*s) s=some (aaf vs[i]):=by
 have hl:=aav vs h
 have hle:i*s+s≤vs.length*s:=by rw[←iJ];exact bV _ hi
 rw[abG _ _ _ (by simp only[aW];omega)]
 congr 1
 rw[jV (by omega),afw vs i h (by omega),bQ hi]
 have h2:=h vs[i] (bM hi)
 rw[show(vs[i]::vs.drop (i+1))=[vs[i]]++vs.drop (i+1) from rfl,ac1,aiu,fL,eM (by omega),aV (by omega)]
theorem afb.of_flat{G:Gh}{b c s:Nat}{vs rest:List Value}(h: ∀v∈vs,(aaf v).length=s)(hg:G b=some (aai vs++rest))(hc:vs.length≤c):afb G s ⟨some ⟨b,0,none⟩,vs.length,c⟩ vs:=
 ⟨rfl,hc, .inr ⟨b,0,_,rfl,hg,fun i hi=>by rw[eY];exact ahm h hi⟩⟩
section
variable {P:Program} {C:Ctx} {n:Nat} {fr:Fr} {own own':List Own} {G:Gh} {Φ:Act→World→Prop}
variable {dst:Option Nat} {ty':TypeId} {pos:String} {af:Array Edge} {gd:Option (Nat×Bool)} {x y:Operand} {tys:Array TypeId}
theorem drS{ops:Array Oper}{Q:Exit→Act→World→Prop}(own0:List Own)(fin:Nat→Bool)(π:List (Nat×Bool)){id:Nat}(hm:P.follows .mixedOrders=true)(ho:(adp ops fin π (Array.replicate ops.size false)&&Nat.ble π.length ops.size)=true)
  (h:St C n fr own G (dwL P ops (acp Q) (HS C own0 G) fin π)):St C n fr own G ((Code.region id ops true).wp P Q):=by
 simp only[bL] at ho
 intro a w rl
 exact wp_mono (wp_region_any hm (afq _ _ _ _ (abU (fun _ _ _ _ _ h=>h) π _ a _ ho.1 (h a _ (rl.heap rl.h.drew)) _ (by simpa using ho.2)))) acp.imp
end
section
variable {P:Program} {ops:Array Oper} {Q:Exit→Act→World→Prop} {S:World→Prop} {fin:Nat→Bool} {π₂:List (Nat×Bool)}
def without(l:List Nat)(k:Nat):List Nat:=l.filter fun j=>!Nat.beq j k
theorem ag5{l:List Nat}{k:Nat}(h:k∈l):(without l k).length<l.length:=by
 unfold without
 rw[oJ]
 exact⟨k,h,by simp⟩
def agx(ops:Array Oper)(fin:Nat→Bool)(π₂:List (Nat×Bool)):Nat→List Nat→List (Nat×Bool)→Array Bool→Bool
 |0,_,_,_=>false
 |_+1,[],[],listed=>adp ops fin π₂ listed
 |n+1,k::ks,[],listed=>!(Region.ready .any ops listed).isEmpty&&(Region.ready .any ops listed).all (fun j=>(k::ks).contains j)&&(k::ks).all fun j=>agx ops fin π₂ n (without (k::ks) j) [] (listed.setIfInBounds j true)
 |n+1,ks,(i,true)::r,listed=>aki ops fin listed i&&agx ops fin π₂ n ks r (listed.setIfInBounds i true)
 |n+1,ks,(i,false)::r,listed=>!(Region.ready .any ops listed).isEmpty&&(Region.ready .any ops listed).all (fun j=>Nat.beq j i||ks.contains j)&&agx ops fin π₂ n ks r (listed.setIfInBounds i true)&&ks.all fun j=>agx ops fin π₂ n (without ks j) ((i,false)::r) (listed.setIfInBounds j true)
def dwG(P:Program)(ops:Array Oper)(Q:Exit→Act→World→Prop)(S:World→Prop)(fin:Nat→Bool)(π₂:List (Nat×Bool)):List Nat→List (Nat×Bool)→Act→World→Prop
 |[],[],a,w=>dwL P ops Q S fin π₂ a w
 |k::ks,[],a,w=> ∀j,(h:j∈k::ks)→wpOp P ops Q j (fun a' w'=>(fin j=true∨S w')∧dwG P ops Q S fin π₂ (without (k::ks) j) [] a' w') a w
 |ks,(i,true)::r,a,w=> ∃o v,ops[i]? =some o∧S w∧YieldsIf P ops S o v a∧dwG P ops Q S fin π₂ ks r (a.put o.dst v) w
 |ks,(i,false)::r,a,w=>wpOp P ops Q i (fun a' w'=>(fin i=true∨S w')∧dwG P ops Q S fin π₂ ks r a' w') a w∧
   ∀j,(h:j∈ks)→wpOp P ops Q j (fun a' w'=>(fin j=true∨S w')∧dwG P ops Q S fin π₂ (without ks j) ((i,false)::r) a' w') a w
termination_by ks π=>ks.length+π.length
decreasing_by
 all_goals (first|(have:=ag5 h;simp only[bU,fY] at*;omega)|(simp only[bU];omega))
end
structure FD where
 k:Nat
 d:Nat
 t:TypeId
 z:Value
abbrev Fs:=Nat→Option Nat
def fFs:List FD→Fs→Fr
 |[],_=>[]
 |f::r,fs=>fF f.d (fs f.k)++fFs r fs
def fOs:List FD→Fs→List Own
 |[],_=>[]
 |f::r,fs=>fO f.t f.z (fs f.k)++fOs r fs
def aD3(fd:List FD)(fs:Fs):List Nat:=(fd.filter fun f=>(fs f.k).isNone).map (·.k)
def aGw(fs:Fs)(k b:Nat):Fs:=fun j=>if j=k then some b else fs j
structure aGV (P:Program) (ops:Array Oper) (n:Nat) (fd:List FD):Prop where
 op: ∀f∈fd,∃ty' pos af,ops[f.k]? =some ⟨some f.d, .alloc f.t,ty',pos,af,none⟩∧aaO n (some f.d)=true
 z: ∀f∈fd,TyZ P f.t f.z
 nd:(fd.map (·.k)).Nodup
 dd: ∀f∈fd,∀g∈fd,f.d=g.d→f.k=g.k
section
variable {P:Program} {C:Ctx} {n:Nat} {fr:Fr} {own own0:List Own} {G G0:Gh} {ops:Array Oper} {Q:Exit→Act→World→Prop} {fin:Nat→Bool} {π π₂:List (Nat×Bool)} {fd:List FD}
def dwH(P:Program)(ops:Array Oper)(Q:Exit→Act→World→Prop)(S:World→Prop)(fin:Nat→Bool)(π₂:List (Nat×Bool))(fd:List FD)(fs:Fs)(π:List (Nat×Bool)):Act→World→Prop:=dwG P ops Q S fin π₂ (aD3 fd fs) π
end
def Buf(s:Nat)(ty:TypeId)(x:SV)(vs:List Value)(B:List Own):Prop:=
 (vs=[]∧x=⟨none,0,0⟩∧B=[])∨
 ∃b rest lo,x=⟨some ⟨b,0,none⟩,vs.length,x.c⟩∧B=[⟨b,aai vs++rest,ty,lo⟩]∧(aai vs).length=vs.length*s∧(aai vs).length+rest.length=x.c*s∧vs.length≤x.c
theorem Buf.nil(s:Nat)(ty:TypeId):Buf s ty ⟨none,0,0⟩ [] []:= .inl ⟨rfl,rfl,rfl⟩
theorem Buf.relo{s:Nat}{ty:TypeId}{x:SV}{vs:List Value}{B:List Own}(h:Buf s ty x vs B)(fl:Nat→Bool):Buf s ty x vs (B.map (Go.Sx.relo fl)):=by
 rcases h with⟨h1,h2,h3⟩|⟨b,rest,lo,h1,h2,h3,h4,h5⟩
 ·exact .inl ⟨h1,h2,by rw[h3];rfl⟩
 ·exact .inr ⟨b,rest,fl b,h1,by rw[h2];rfl,h3,h4,h5⟩
theorem Buf.asB{s:Nat}{ty:TypeId}{x:SV}{vs:List Value}{B:List Own}(h:Buf s ty x vs B):Buf s ty x vs (asB B):=by
 rcases h with⟨h1,h2,h3⟩|⟨b,rest,lo,h1,h2,h3,h4,h5⟩
 ·exact .inl ⟨h1,h2,by rw[h3];rfl⟩
 ·exact .inr ⟨b,rest,false,h1,by rw[h2];rfl,h3,h4,h5⟩
theorem Buf.len{s:Nat}{ty:TypeId}{x:SV}{vs:List Value}{B:List Own}(h:Buf s ty x vs B):x.n=vs.length:=by
 rcases h with⟨h1,h2,h3⟩|⟨b,rest,lo,h1,h2,h3,h4,h5⟩
 ·rw[h2,h1];rfl
 ·rw[h1]
theorem ak6{M:List Own}(b:Nat)(h: ∀m∈M,m.lo=true):flM M b=true:=by
 refine eX.2 fun m hm=>?_
 simp[h m hm]
section
variable {P:Program} {C:Ctx} {n:Nat} {fr:Fr} {own own':List Own} {G:Gh} {Φ:Act→World→Prop}
variable {dst:Option Nat} {t t' ty':TypeId} {pos:String} {af:Array Edge} {gd:Option (Nat×Bool)} {x y:Operand} {e s by_:Nat}
end
instance akW.nil (l:List Own):akW [] l:=⟨kW l⟩
inductive DV where
 |v (x:Value)
 |ag (l:List DV)
 |tp (l:List DV)
 |pt (l:List DV)
 |op (b:Bool) (l:List DV)
 |sl (l:List DV)
mutual
def Is(G:Gh):DV→Value→Prop
 | .v x,y=>y=x
 | .ag l,y=> ∃m,y= .agg ⟨m⟩∧IsLs G l m
 | .tp l,y=> ∃m,y= .tuple ⟨m⟩∧IsLs G l m
 | .pt l,y=> ∃b m,y= .pointer (some ⟨b,0,none⟩)∧G b=some m∧IsLs G l m
 | .op b l,y=>(b=false∧y= .pointer none)∨(b=true∧ ∃b m,y= .pointer (some ⟨b,0,none⟩)∧G b=some m∧IsLs G l m)
 | .sl l,y=> ∃(s:Nat) (x:SV) (es:List Value),y= .slice x.a x.n x.c∧afb G s x es∧IsLs G l es
def IsLs(G:Gh):List DV→List Value→Prop
 |[],m=>m=[]
 |d::t,m=> ∃y n,m=y::n∧Is G d y∧IsLs G t n
end
mutual
theorem Is.up'{A G:Gh}(h:GLe A G): ∀(d:DV) (y:Value),Is A d y→Is G d y
 | .v x,y,k=>by simp only[Is] at k⊢;exact k
 | .ag l,y,k=>by simp only[Is] at k⊢;obtain⟨m,e,k⟩:=k;exact⟨m,e,IsLs.up' h l m k⟩
 | .tp l,y,k=>by simp only[Is] at k⊢;obtain⟨m,e,k⟩:=k;exact⟨m,e,IsLs.up' h l m k⟩
 | .pt l,y,k=>by simp only[Is] at k⊢;obtain⟨b,m,e,hb,k⟩:=k;exact⟨b,m,e,h _ _ hb,IsLs.up' h l m k⟩
 | .op _ l,y,k=>by simp only[Is] at k⊢;exact k.imp id fun⟨e1,b,m,e,hb,k⟩=>⟨e1,b,m,e,h _ _ hb,IsLs.up' h l m k⟩
 | .sl l,y,k=>by simp only[Is] at k⊢;obtain⟨s,x,es,e,hs,k⟩:=k;exact⟨s,x,es,e,hs.up' h,IsLs.up' h l es k⟩
theorem IsLs.up'{A G:Gh}(h:GLe A G): ∀(d:List DV) (y:List Value),IsLs A d y→IsLs G d y
 |[],y,k=>by simp only[IsLs] at k⊢;exact k
 |d::t,y,k=>by simp only[IsLs] at k⊢;obtain⟨u,n,e,h1,h2⟩:=k;exact⟨u,n,e,Is.up' h d u h1,IsLs.up' h t n h2⟩
end
section
variable {G:Gh}
theorem Is.up{A:Gh}{d:DV}{y:Value}(k:Is A d y)(h:GLe A G):Is G d y:=Is.up' h d y k
theorem IsLs.up{A:Gh}{d:List DV}{y:List Value}(k:IsLs A d y)(h:GLe A G):IsLs G d y:=IsLs.up' h d y k
theorem aa2{x y:Value}:Is G (.v x) y↔y=x:=by simp only[Is]
theorem acn{l:List DV}{y:Value}:Is G (.ag l) y↔ ∃m,y= .agg ⟨m⟩∧IsLs G l m:=by simp only[Is]
theorem ad1{l:List DV}{y:Value}:Is G (.tp l) y↔ ∃m,y= .tuple ⟨m⟩∧IsLs G l m:=by simp only[Is]
theorem akV{l:List DV}{y:Value}:Is G (.pt l) y↔ ∃b m,y= .pointer (some ⟨b,0,none⟩)∧G b=some m∧IsLs G l m:=by simp only[Is]
theorem aoo{b:Bool}{l:List DV}{y:Value}:Is G (.op b l) y↔(b=false∧y= .pointer none)∨(b=true∧Is G (.pt l) y):=by simp only[Is]
theorem adH{l:List DV}{y:Value}:Is G (.sl l) y↔ ∃(s:Nat) (x:SV) (es:List Value),y= .slice x.a x.n x.c∧afb G s x es∧IsLs G l es:=by simp only[Is]
theorem aaM{m:List Value}:IsLs G [] m↔m=[]:=by simp only[IsLs]
theorem aac{d:DV}{t:List DV}{m:List Value}:IsLs G (d::t) m↔ ∃y n,m=y::n∧Is G d y∧IsLs G t n:=by simp only[IsLs]
theorem IsLs.nil:IsLs G [] []:=aaM.2 rfl
theorem IsLs.cons{d:DV}{t:List DV}{y:Value}{n:List Value}(h:Is G d y)(k:IsLs G t n):IsLs G (d::t) (y::n):=aac.2 ⟨y,n,rfl,h,k⟩
theorem IsLs.uncons{d:DV}{t:List DV}{y:Value}{n:List Value}(h:IsLs G (d::t) (y::n)):Is G d y∧IsLs G t n:=by
 obtain⟨u,m,e,h1,h2⟩:=aac.1 h
 cases e
 exact⟨h1,h2⟩
theorem IsLs.len: ∀{d:List DV} {m:List Value},IsLs G d m→m.length=d.length
 |[],m,h=>by rw[aaM.1 h];rfl
 |d::t,m,h=>by
  obtain⟨y,n,rfl,_,h2⟩:=aac.1 h
  simp[h2.len]
theorem IsLs.get: ∀{l:List DV} {m:List Value} {i:Nat} {d:DV},IsLs G l m→l[i]? =some d→ ∃y,m[i]? =some y∧Is G d y
 |[],m,i,d,h,e=>by simp at e
 |x::t,m,0,d,h,e=>by
  obtain⟨y,n,rfl,h1,h2⟩:=aac.1 h
  simp at e;subst e;exact⟨y,rfl,h1⟩
 |x::t,m,i+1,d,h,e=>by
  obtain⟨y,n,rfl,h1,h2⟩:=aac.1 h
  simp at e;simpa using h2.get e
theorem IsLs.app: ∀{a b:List DV} {m n:List Value},IsLs G a m→IsLs G b n→IsLs G (a++b) (m++n)
 |[],b,m,n,h,k=>by rw[aaM.1 h];exact k
 |d::t,b,m,n,h,k=>by
  obtain⟨y,m',rfl,h1,h2⟩:=aac.1 h
  exact .cons h1 (h2.app k)
theorem IsLs.unapp: ∀{a b:List DV} {m:List Value},IsLs G (a++b) m→ ∃x y,m=x++y∧IsLs G a x∧IsLs G b y
 |[],b,m,h=>⟨[],m,rfl, .nil,h⟩
 |d::t,b,m,h=>by
  obtain⟨y,m',rfl,h1,h2⟩:=aac.1 h
  obtain⟨u,v,rfl,h3,h4⟩:=h2.unapp
  exact⟨y::u,v,rfl, .cons h1 h3,h4⟩
theorem IsLs.drop: ∀{a:List DV} {m:List Value} (k:Nat),IsLs G a m→IsLs G (a.drop k) (m.drop k)
 |_,_,0,h=>h
 |[],m,k+1,h=>by rw[aaM.1 h];exact .nil
 |d::t,m,k+1,h=>by
  obtain⟨y,m',rfl,h1,h2⟩:=aac.1 h
  exact h2.drop k
theorem IsLs.take: ∀{a:List DV} {m:List Value} (k:Nat),IsLs G a m→IsLs G (a.take k) (m.take k)
 |_,_,0,h=> .nil
 |[],m,k+1,h=>by rw[aaM.1 h];exact .nil
 |d::t,m,k+1,h=>by
  obtain⟨y,m',rfl,h1,h2⟩:=aac.1 h
  exact .cons h1 (h2.take k)
theorem IsLs.set: ∀{a:List DV} {m:List Value} (k:Nat) {d:DV} {y:Value},IsLs G a m→Is G d y→IsLs G (a.set k d) (m.set k y)
 |[],m,k,d,y,h,_=>by rw[aaM.1 h];exact .nil
 |x::t,m,0,d,y,h,k=>by
  obtain⟨u,m',rfl,h1,h2⟩:=aac.1 h
  exact .cons k h2
 |x::t,m,j+1,d,y,h,k=>by
  obtain⟨u,m',rfl,h1,h2⟩:=aac.1 h
  exact .cons h1 (h2.set j k)
end
def DV.flat:DV→Bool
 | .v x=>Go.Sx.flat x
 | .ag _=>false
 | .tp _=>false
 | .pt _=>true
 | .op .. =>true
 | .sl .. =>true
def DV.okc:DV→Bool
 | .ag l=>l.all DV.flat
 |d=>d.flat
def DV.cells:DV→List DV
 | .ag l=>l
 |d=>[d]
section
variable {G:Gh}
theorem Is.flat{d:DV}{y:Value}(h:Is G d y)(k:d.flat=true):Go.Sx.flat y=true:=by
 cases d with
 |v x=>rw[aa2.1 h];exact k
 |ag l=>cases k
 |tp l=>cases k
 |pt l=>obtain⟨b,m,rfl,_⟩:=akV.1 h;rfl
 |op b l=>
  rcases aoo.1 h with⟨_,rfl⟩|⟨_,h⟩
  ·rfl
  ·obtain⟨b,m,rfl,_⟩:=akV.1 h;rfl
 |sl l=>obtain⟨s,x,es,rfl,_⟩:=adH.1 h;rfl
theorem adq{y:Value}(h:Go.Sx.flat y=true):aaf y=[y]:=by cases y<;>first|rfl|(simp[Go.Sx.flat] at h)
theorem IsLs.flat: ∀{l:List DV} {m:List Value},IsLs G l m→l.all DV.flat=true→ ∀v∈m,Go.Sx.flat v=true
 |[],m,h,_,v,hv=>by rw[aaM.1 h] at hv;cases hv
 |d::t,m,h,k,v,hv=>by
  obtain⟨y,n,rfl,h1,h2⟩:=aac.1 h
  simp only[qM,bL] at k
  rcases aS.1 hv with rfl|hv
  ·exact h1.flat k.1
  ·exact h2.flat k.2 v hv
theorem Is.cells{d:DV}{y:Value}(h:Is G d y)(k:d.okc=true):IsLs G d.cells (aaf y)∧ ∀v∈aaf y,Go.Sx.flat v=true:=by
 cases d with
 |ag l=>obtain⟨m,rfl,hm⟩:=acn.1 h;exact⟨hm,hm.flat k⟩
 |_=>
  have:=h.flat k
  rw[adq this]
  exact⟨.cons h .nil,fun v hv=>by rw[aY.1 hv];exact this⟩
end
def takeD:List DV→Nat→Nat→Option (List DV)
 |_,0,0=>some []
 |[],0,_+1=>none
 |v::t,0,k+1=>match takeD t 0 k with|some l=>some (v::l)|none=>none
 |[],_+1,_=>none
 |_::t,off+1,k=>takeD t off k
def ovD:List DV→Nat→List DV→List DV
 |cs,_,[]=>cs
 |cs,off,v::vs=>ovD (cs.set off v) (off+1) vs
section
variable {G:Gh}
theorem IsLs.takeD: ∀{ds:List DV} {m:List Value} {off k:Nat} {l:List DV},IsLs G ds m→takeD ds off k=some l→ ∃n,aaX m off k=some n∧IsLs G l n
 |[],m,0,0,l,h,e=>by rw[aaM.1 h];simp only[Sx.takeD] at e;cases e;exact⟨[],rfl, .nil⟩
 |d::t,m,0,0,l,h,e=>by
  obtain⟨y,m',rfl,h1,h2⟩:=aac.1 h
  simp only[Sx.takeD] at e;cases e;exact⟨[],rfl, .nil⟩
 |[],m,0,k+1,l,h,e=>by simp[Sx.takeD] at e
 |d::t,m,0,k+1,l,h,e=>by
  obtain⟨y,m',rfl,h1,h2⟩:=aac.1 h
  simp only[Sx.takeD] at e
  split at e
  ·rename_i l' hl'
   cases e
   obtain⟨n,hn,hl⟩:=h2.takeD hl'
   exact⟨y::n,by simp only[aaX,hn], .cons h1 hl⟩
  ·cases e
 |[],m,off+1,k,l,h,e=>by simp[Sx.takeD] at e
 |d::t,m,off+1,k,l,h,e=>by
  obtain⟨y,m',rfl,h1,h2⟩:=aac.1 h
  exact h2.takeD (off:=off) (k:=k) e
theorem IsLs.ov: ∀{vs ds:List DV} {n m:List Value} {off:Nat},IsLs G ds m→IsLs G vs n→IsLs G (ovD ds off vs) (ovw m off n)
 |[],ds,n,m,off,h,k=>by rw[aaM.1 k];exact h
 |v::vs,ds,n,m,off,h,k=>by
  obtain⟨y,n',rfl,h1,h2⟩:=aac.1 k
  exact(h.set off h1).ov h2
end
/-! ### frames -/
inductive FV where
 |d (x:DV)
 /-- a pointer to cells that are written no more -/
 |ep (l:List DV)
 /-- a pointer to a cell of element i of a row of the call's own -/
 |be (x:SV) (s i j:Nat)
 /-- a slice without room behind it -/
 |ct (l:List DV)
abbrev FrF:=List (Nat×FV)
def IsF(G:Gh):FV→Value→Prop
 | .d x,y=>Is G x y
 | .ep l,y=> ∃b off cs m,y= .pointer (some ⟨b,off,none⟩)∧G b=some cs∧aaX cs off l.length=some m∧IsLs G l m
 | .be x s i j,y=> ∃b,x.a=some ⟨b,0,none⟩∧y= .pointer (some ⟨b,i*s+j,none⟩)
 | .ct l,y=>(∃a n,y= .slice a n n)∧Is G (.sl l) y
def aon:FrF→Nat→Option FV
 |[],_=>none
 |(k,v)::t,j=>bif Nat.beq k j then some v else aon t j
def aGY(fr:FrF)(dst:Option Nat)(v:FV):FrF:=match dst with|some d=>(d,v)::fr|none=>fr
def aDq(G:Gh):FrF→Fr→Prop
 |[],m=>m=[]
 |(k,f)::t,m=> ∃y n,m=(k,y)::n∧IsF G f y∧aDq G t n
def opF(fr:FrF):Operand→Option FV
 | .tmp k=>aon fr k
 | .const v=>some (.d (.v v))
 | .global g=>some (.d (.v (.pointer (some ⟨g,0,none⟩))))
 | .func f=>some (.d (.v (.func (.func f) #[] #[])))
def toD:FV→Option DV
 | .d (.v (.slice none 0 0))=>some (.sl [])
 | .d d=>some d
 | .ct l=>some (.sl l)
 |_=>none
def opD(fr:FrF)(x:Operand):Option DV:=(opF fr x).bind toD
def aF1(fr:FrF):List Operand→Option (List DV)
 |[]=>some []
 |x::t=>match opD fr x,aF1 fr t with
  |some d,some l=>some (d::l)
  |_,_=>none
/-! ### blocks of the call's own: variables, rows -/
structure adg where
 b:Nat
 cs:List DV
 ty:TypeId
 lo:Bool
structure adX where
 x:SV
 s:Nat
 ty:TypeId
 ds:List DV
 lo:Bool
class ayQ (own:List adg) (b:Nat) (cs:outParam (List DV)) (ty:outParam TypeId) (lo:outParam Bool):Prop where
 mem:⟨b,cs,ty,lo⟩∈own
instance ayQ.i1 (b:Nat) (cs:List DV) (ty:TypeId) (lo:Bool) (t:List adg):ayQ (⟨b,cs,ty,lo⟩::t) b cs ty lo:=⟨aZ⟩
instance ayQ.i2 (o:adg) (t:List adg) (b:Nat) (cs:List DV) (ty:TypeId) (lo:Bool) [h:ayQ t b cs ty lo]:ayQ (o::t) b cs ty lo:=⟨aK _ h.mem⟩
class aCU (bs:List adX) (x:SV) (s:outParam Nat) (ty:outParam TypeId) (ds:outParam (List DV)) (lo:outParam Bool):Prop where
 mem:⟨x,s,ty,ds,lo⟩∈bs
instance aCU.i1 (x:SV) (s:Nat) (ty:TypeId) (ds:List DV) (lo:Bool) (t:List adX):aCU (⟨x,s,ty,ds,lo⟩::t) x s ty ds lo:=⟨aZ⟩
instance aCU.i2 (o:adX) (t:List adX) (x:SV) (s:Nat) (ty:TypeId) (ds:List DV) (lo:Bool) [h:aCU t x s ty ds lo]:aCU (o::t) x s ty ds lo:=⟨aK _ h.mem⟩
def axc(G:Gh):List adg→List Own→Prop
 |[],m=>m=[]
 |o::t,m=> ∃cs n,m=⟨o.b,cs,o.ty,o.lo⟩::n∧IsLs G o.cs cs∧axc G t n
def abx(G:Gh)(β:adX)(B:List Own):Prop:=
 ∃vs,Buf β.s β.ty β.x vs B∧IsLs G β.ds vs∧(∀v∈vs,(aaf v).length=β.s)∧(β.lo=true→ ∀o∈B,o.lo=true)
def axM(G:Gh):List adX→List Own→Prop
 |[],m=>m=[]
 |β::t,m=> ∃B n,m=B++n∧abx G β B∧axM G t n
def OB(G:Gh)(own:List adg)(bs:List adX)(ov:List Own):Prop:= ∃a b,ov=a++b∧axc G own a∧axM G bs b
structure Sr (GB G:Gh) (fr:FrF) (own:List adg) (bs:List adX) (frv:Fr) (ov:List Own):Prop where
 gb:GLe GB G
 fr:aDq G fr frv
 ob:OB G own bs ov
structure Ext where
 fr:Fr
 own:List Own
def E0:Ext:=⟨[],[]⟩
structure SD (GB:Gh) (C:Ctx) (n:Nat) (E:Ext) (fr:FrF) (own:List adg) (bs:List adX) (Φ:Act→World→Prop):Prop where
 run: ∀G frv ov,Sr GB G fr own bs frv ov→St C n (frv++E.fr) (ov++E.own) G Φ
instance {GB:Gh} {C:Ctx} {n:Nat} {E:Ext} {fr:FrF} {own:List adg} {bs:List adX} {Φ:Act→World→Prop}:CoeFun (SD GB C n E fr own bs Φ) (fun _=> ∀G frv ov,Sr GB G fr own bs frv ov→St C n (frv++E.fr) (ov++E.own) G Φ):=⟨SD.run⟩
def YD(P:Program)(GB:Gh)(C:Ctx)(fr:FrF)(own:List adg)(bs:List adX)(o:Oper)(f:FV):Prop:=
 ∀G frv ov,Sr GB G fr own bs frv ov→ ∃y,IsF G f y∧ ∀G',GLe G G'→Yd P C frv ov G' o y
def CD(P:Program)(GB:Gh)(C:Ctx)(n:Nat)(E:Ext)(fr:FrF)(own:List adg)(bs:List adX)(o:Oper)(Φ:Act→World→Prop):Prop:=
 ∀G frv ov,Sr GB G fr own bs frv ov→Ch P C n (frv++E.fr) (ov++E.own) G o Φ
def TD(P:Program)(GB:Gh)(C:Ctx)(n:Nat)(fr:FrF)(own:List adg)(bs:List adX)(o:Oper)(fr':FrF)(own':List adg)(bs':List adX):Prop:=
 ∀(GB':Gh) (E:Ext) (Φ:Act→World→Prop),GLe GB GB'→SD GB' C n E fr' own' bs' Φ→CD P GB' C n E fr own bs o Φ
def TF(P:Program)(GB:Gh)(C:Ctx)(n:Nat)(fr:FrF)(own:List adg)(bs:List adX)(o:Oper)(ι:Type)(fr':ι→FrF)(own':ι→List adg)(bs':ι→List adX):Prop:=
 ∀(GB':Gh) (E:Ext) (Φ:Act→World→Prop),GLe GB GB'→(∀x,SD GB' C n E (fr' x) (own' x) (bs' x) Φ)→CD P GB' C n E fr own bs o Φ
section
variable {P:Program} {GB:Gh} {C:Ctx} {n:Nat} {E:Ext} {fr fr':FrF} {own own':List adg} {bs bs':List adX} {ops:Array Oper} {Q:Exit→Act→World→Prop} {r:List Oper} {Φ:Act→World→Prop}
/-! ### code -/
def aGZ(P:Program)(y:Code)(Q:Exit→Act→World→Prop):Exit→Act→World→Prop:=Exit.then (y.wp P Q) Q
/-! ### another spelling of the state -/
def aGt(fr' fr:FrF):Prop:= ∀e∈fr',aon fr e.1=some e.2
/-! ### loops, and where ways meet again -/
def aFd(GB:Gh)(C:Ctx)(n:Nat){X:Type}(F:X→FrF)(O:X→List adg)(B:X→List adX)(I:X→Prop)(μ:X→Nat)(m:Nat)(a:Act)(w:World):Prop:=
 ∃x G frv ov,I x∧μ x<m∧Sr GB G (F x) (O x) (B x) frv ov∧Rel C n frv ov G a w
def AtD(GB:Gh)(C:Ctx)(n:Nat){X:Type}(F:X→FrF)(O:X→List adg)(B:X→List adX)(I:X→Prop)(a:Act)(w:World):Prop:=
 ∃x G frv ov,I x∧Sr GB G (F x) (O x) (B x) frv ov∧Rel C n frv ov G a w
/-! ### calls and results -/
def PF(GB:Gh)(P:Program)(f:FuncId)(ds:List DV)(r:DV):Prop:=
 ∀G vs,GLe GB G→IsLs G ds vs→Fn P f vs G (fun v G'=>Is G' r v)
def PM(GB:Gh)(P:Program)(f:FuncId)(ds:List DV)(b:Nat)(ty:TypeId)(cs:List DV)(r:DV)(cs':List DV):Prop:=
 ∀G vs m lo,GLe GB G→IsLs G ds vs→IsLs G cs m→FnM P f vs [⟨b,m,ty,lo⟩] G (fun v css G'=>Is G' r v∧ ∃m',css=[m']∧IsLs G' cs' m')
def aCn:Nat→List DV→FrF
 |_,[]=>[]
 |i,v::t=>(i, .d v)::aCn (i+1) t
inductive RVD (P:Program) (fr:FrF) (own:List adg):List ResultVar→List DV→Prop
 |nil:RVD P fr own [] []
 |tmp {t:Nat} {v:DV} {rs:List ResultVar} {vs:List DV} (h:(aon fr t).bind toD=some v) (k:RVD P fr own rs vs):RVD P fr own (.tmp t::rs) (v::vs)
 |agg {a b k:Nat} {t:TypeId} {cs l:List DV} {ty:TypeId} {lo:Bool} {rs:List ResultVar} {vs:List DV} (h:aon fr a=some (.d (.v (.pointer (some ⟨b,0,none⟩))))) (ho:ayQ own b cs ty lo) (ht:TyA P t k) (hl:takeD cs 0 k=some l) (h2:RVD P fr own rs vs):
   RVD P fr own (.cell a t::rs) (.ag l::vs)
 |sc {a b:Nat} {t:TypeId} {cs:List DV} {v:DV} {ty:TypeId} {lo:Bool} {rs:List ResultVar} {vs:List DV} (h:aon fr a=some (.d (.v (.pointer (some ⟨b,0,none⟩))))) (ho:ayQ own b cs ty lo) (ht:TyS P t) (hl:cs[0]? =some v) (h2:RVD P fr own rs vs):
   RVD P fr own (.cell a t::rs) (v::vs)
def ajM:List DV→DV
 |[d]=>d
 |l=> .tp l
theorem aoh{G:Gh}{ds:List DV}{vs:List Value}(h:IsLs G ds vs):Is G (ajM ds) (abP vs):=by
 match ds,h with
 |[],h=>rw[aaM.1 h];exact ad1.2 ⟨[],rfl, .nil⟩
 |[d],h=>
  obtain⟨y,m,rfl,h1,h2⟩:=aac.1 h
  rw[aaM.1 h2]
  exact h1
 |a::b::t,h=>
  obtain⟨y,m,rfl,h1,h2⟩:=aac.1 h
  obtain⟨z,m',rfl,h3,h4⟩:=aac.1 h2
  exact ad1.2 ⟨_,rfl,h⟩
end
end Go.Sx
end
