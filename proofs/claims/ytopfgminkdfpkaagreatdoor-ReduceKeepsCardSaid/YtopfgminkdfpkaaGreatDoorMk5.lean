/- Part 5 of a proof. -/
import Derived.Test.YtopfgminkdfpkaaGreatDoorMk4
import Derived.Laws.Externs
import Derived.Lib.Overlaps
set_option linter.unusedSimpArgs false
set_option maxRecDepth 100000
set_option linter.unusedVariables false
section
namespace Go.Sx
open Go
/-! ### values -/
theorem adI(l:LnQ)(p:PtQ):l.value p=(l.a:Rat)*p.x+(l.b:Rat)*p.y+(l.c:Rat):=rfl
theorem ad7(l:LnQ)(p:PtQ):l.rev.value p= -l.value p:=by
 rw[adI,adI]
 have h1:((l.rev.a:Int):Rat)= -(l.a:Rat):=(aeI l.a).symm
 have h2:((l.rev.b:Int):Rat)= -(l.b:Rat):=(aeI l.b).symm
 have h3:((l.rev.c:Int):Rat)= -(l.c:Rat):=(aeI l.c).symm
 rw[h1,h2,h3];grind
def asm(q p:PtQ)(e:Rat):PtQ:=⟨q.x+e*(p.x-q.x),q.y+e*(p.y-q.y)⟩
theorem adi(l:LnQ)(q p:PtQ)(e:Rat):l.value (asm q p e)=l.value q+e*(l.value p-l.value q):=by
 simp only[adI,asm];grind
def aeS(q u:PtQ)(e:Rat):PtQ:=⟨q.x+e*u.x,q.y+e*u.y⟩
theorem ab2(l:LnQ)(q u:PtQ)(e:Rat):l.value (aeS q u e)=l.value q+e*l.nor.dot u:=by
 simp only[adI,aeS,LnQ.nor,PtQ.dot];grind
theorem aae{a b:Rat}(ha:0<a)(hb:0<b):0<a*b:=Rat.mul_pos ha hb
theorem aai{a b:Rat}(ha:0≤a)(hb:0≤b):0≤a*b:=lR ha hb
theorem abb(a:Rat):0≤a*a:=by
 by_cases h:0≤a
 ·exact aai h h
 ·have:=aai (a:= -a) (b:= -a) (by grind) (by grind)
  grind
theorem aaw{s k:Rat}(hk:0<k):0<s*k↔0<s:=by
 constructor
 ·intro h
  by_cases hs:0<s
  ·exact hs
  ·have:=aai (a:= -s) (b:=k) (by grind) (by grind)
   grind
 ·intro h;exact aae h hk
theorem aaF{s k:Rat}(hk:0<k):0≤s*k↔0≤s:=by
 constructor
 ·intro h
  by_cases hs:0≤s
  ·exact hs
  ·have:=aae (a:= -s) (b:=k) (by grind) hk
   grind
 ·intro h;exact aai h (by grind)
theorem agD{A B u v:Rat}(h0:0≤A)(h1:0≤A+v*B)(hu:0≤u)(huv:u≤v):0≤A+u*B:=by
 by_cases hB:0≤B
 ·have:=aai hu hB;grind
 ·have:=aai (a:=v-u) (b:= -B) (by grind) (by grind)
  grind
def LnQ.Ne(l:LnQ):Prop:= ¬(l.a=0∧l.b=0)
theorem LnQ.ok.ne{l:LnQ}(h:l.ok):l.Ne:=h.1
theorem ah3{l:LnQ}(h:l.Ne):0<l.nor.dot l.nor:=by
 show 0<(l.a:Rat)*l.a+(l.b:Rat)*l.b
 have h1:=abb (l.a:Rat)
 have h2:=abb (l.b:Rat)
 by_cases ha:l.a=0
 ·have hb:l.b≠0:=fun hb=>h ⟨ha,hb⟩
  have hb':(l.b:Rat)≠0:=fun e=>hb (cR.1 e)
  have:(l.b:Rat)*l.b≠0:=by grind
  grind
 ·have ha':(l.a:Rat)≠0:=fun e=>ha (cR.1 e)
  have:(l.a:Rat)*l.a≠0:=by grind
  grind
theorem alB{l:LnQ}(h:l.Ne): ∃q:Rat,l.nor.dot l.nor*q= -(l.c:Rat)∧l.base=⟨(l.a:Rat)*q,(l.b:Rat)*q⟩:=by
 refine⟨-(l.c:Rat)/l.nor.dot l.nor,?_,rfl⟩
 have:=ah3 h
 grind
theorem agR(l m:LnQ)(t:Rat):m.value (l.at t)=l.cutC m+t*l.cutK m:=by
 simp only[LnQ.cutC,LnQ.cutK,adI,LnQ.at,PtQ.add,PtQ.scale,LnQ.dir,LnQ.nor,PtQ.dot];grind
theorem apY{l:LnQ}(h:l.Ne)(t:Rat):l.value (l.at t)=0:=by
 obtain⟨q,h1,h2⟩:=alB h
 simp only[adI,LnQ.at,h2,PtQ.add,PtQ.scale,LnQ.dir]
 simp only[LnQ.nor,PtQ.dot] at h1
 grind
theorem aua{l:LnQ}(h:l.Ne){p:PtQ}(hp:l.value p=0): ∃t,p=l.at t:=by
 obtain⟨q,h1,h2⟩:=alB h
 have hn:=ah3 h
 obtain⟨x,y⟩:=p
 rw[adI] at hp
 simp only[LnQ.nor,PtQ.dot] at h1 hn
 refine⟨((l.b:Rat)*x-(l.a:Rat)*y)/((l.a:Rat)*l.a+(l.b:Rat)*l.b),?_⟩
 generalize ht:((l.b:Rat)*x-(l.a:Rat)*y)/((l.a:Rat)*l.a+(l.b:Rat)*l.b)=t
 have ht':((l.a:Rat)*l.a+(l.b:Rat)*l.b)*t=(l.b:Rat)*x-(l.a:Rat)*y:=by grind
 simp only[LnQ.at,h2,PtQ.add,PtQ.scale,LnQ.dir,PtQ.mk.injEq]
 generalize (l.a:Rat)=a at*
 generalize (l.b:Rat)=b at*
 generalize (l.c:Rat)=c at*
 have e1:(a*a+b*b)*(x-(a*q+b*t))=0:=by grind
 have e2:(a*a+b*b)*(y-(b*q+ -a*t))=0:=by grind
 constructor<;>grind
/-! ### intervals -/
def IvQ.has(v:IvQ)(t:Rat):Prop:=(v.nl=true∨v.lo≤t)∧(v.nh=true∨t≤v.hi)
def IvQ.ins(v:IvQ)(t:Rat):Prop:=(v.nl=true∨v.lo<t)∧(v.nh=true∨t<v.hi)
def IvQ.Pos(v:IvQ):Prop:=v.nl=true∨v.nh=true∨v.lo<v.hi
theorem akE(a b:Rat):0≤adE a b↔b≤a:=by
 unfold adE;split
 ·constructor
  ·intro h;exact absurd h (by decide)
  ·intro h;grind
 ·split
  ·constructor
   ·intro _;grind
   ·intro _;decide
  ·constructor
   ·intro _;grind
   ·intro _;decide
theorem ae8(v:IvQ):v.empty=false↔v.Pos:=by
 obtain⟨lo,hi,nl,nh⟩:=v
 unfold IvQ.empty IvQ.Pos
 cases nl<;>cases nh<;>simp[akE]
 first|exact Rat.not_le|grind
theorem IvQ.ins.has{v:IvQ}{t:Rat}(h:v.ins t):v.has t:=by
 obtain⟨h1,h2⟩:=h
 exact⟨h1.imp id (fun h=>iM h),h2.imp id (fun h=>iM h)⟩
theorem avY:mkRat 1 2=(1:Rat)/2:=by rw[lS];rfl
theorem afI{v:IvQ}(h:v.Pos):v.ins v.sample:=by
 obtain⟨lo,hi,nl,nh⟩:=v
 unfold IvQ.Pos at h
 unfold IvQ.ins IvQ.sample
 rw[avY]
 cases nl<;>cases nh<;>simp at* <;>grind
theorem alD(v w:IvQ)(t:Rat):(v.meet w).has t↔v.has t∧w.has t:=by
 obtain⟨lo,hi,nl,nh⟩:=v
 obtain⟨lo',hi',nl',nh'⟩:=w
 unfold IvQ.has IvQ.meet
 cases nl<;>cases nh<;>cases nl'<;>cases nh'<;>simp<;>grind
theorem amm(v w:IvQ)(t:Rat):(v.meet w).ins t↔v.ins t∧w.ins t:=by
 obtain⟨lo,hi,nl,nh⟩:=v
 obtain⟨lo',hi',nl',nh'⟩:=w
 unfold IvQ.ins IvQ.meet
 cases nl<;>cases nh<;>cases nl'<;>cases nh'<;>simp<;>grind
theorem aoF(t:Rat):IvQ.all.has t:=⟨.inl rfl, .inl rfl⟩
theorem ak4:IvQ.all.Pos:= .inl rfl
theorem abO(k:Rat):Int.sign k.num=0↔k=0:=by rw[nU,kQ]
theorem aiD(k:Rat):0<k.num↔0<k:=by
 have h1:0≤k.num↔0≤k:=Rat.num_nonneg
 have h2:k.num=0↔k=0:=kQ
 constructor
 ·intro h
  have a:=h1.1 (by omega)
  have b:k≠0:=fun e=>by have:=h2.2 e;omega
  grind
 ·intro h
  have a:=h1.2 (by grind)
  have b:k.num≠0:=fun e=>by have:=h2.1 e;grind
  omega
theorem acK(k:Rat):Int.sign k.num=1↔0<k:=by rw[Int.sign_eq_one_iff_pos,aiD]
theorem acy(k:Rat):0<Int.sign k.num↔0<k:=by
 rw[←acK]
 rcases jN k.num 0 with h|h|h
 ·rw[dJ h];decide
 ·rw[h];decide
 ·rw[dV h];decide
theorem afN(k:Rat):Int.sign k.num<0↔k<0:=by
 have h1:=abO k
 have h2:=acy k
 constructor
 ·intro h
  by_cases hk:0<k
  ·have:=h2.2 hk;omega
  ·by_cases h0:k=0
   ·have:=h1.2 h0;omega
   ·grind
 ·intro h
  have a1: ¬Int.sign k.num=0:=fun e=>by have:=h1.1 e;grind
  have a2: ¬0<Int.sign k.num:=fun e=>by have:=h2.1 e;grind
  omega
theorem afs{l m:LnQ}(v:IvQ)(hk:l.cutK m=0):l.cutV v m=v∧(l.cutB v m=true↔0<l.cutC m):=by
 have h:=(abO (l.cutK m)).2 hk
 unfold LnQ.cutV LnQ.cutB
 rw[if_pos h,if_pos h,decide_eq_true_iff,acy]
 exact⟨rfl,Iff.rfl⟩
theorem aj4{l m:LnQ}(v:IvQ)(hk:0<l.cutK m):l.cutV v m=v.meet ⟨-(l.cutC m/l.cutK m),0,false,true⟩∧(l.cutB v m=true↔(l.cutV v m).Pos):=by
 have h0: ¬Int.sign (l.cutK m).num=0:=fun e=>by have:=(abO _).1 e;grind
 have h1:=(acK (l.cutK m)).2 hk
 constructor
 ·unfold LnQ.cutV;rw[if_neg h0,if_pos h1]
 ·unfold LnQ.cutB;rw[if_neg h0,←ae8];simp
theorem ajH{l m:LnQ}(v:IvQ)(hk:l.cutK m<0):l.cutV v m=v.meet ⟨0, -(l.cutC m/l.cutK m),true,false⟩∧(l.cutB v m=true↔(l.cutV v m).Pos):=by
 have h0: ¬Int.sign (l.cutK m).num=0:=fun e=>by have:=(abO _).1 e;grind
 have h1: ¬Int.sign (l.cutK m).num=1:=fun e=>by have:=(acK _).1 e;grind
 constructor
 ·unfold LnQ.cutV;rw[if_neg h0,if_neg h1]
 ·unfold LnQ.cutB;rw[if_neg h0,←ae8];simp
theorem ayV{C K t:Rat}(hk:0<K): -(C/K)≤t↔0≤C+t*K:=by
 have e:C=C/K*K:=by grind
 generalize C/K=d at*
 rw[e,show d*K+t*K=(d+t)*K from by grind,aaF hk]
 grind
theorem ayp{C K t:Rat}(hk:0<K): -(C/K)<t↔0<C+t*K:=by
 have e:C=C/K*K:=by grind
 generalize C/K=d at*
 rw[e,show d*K+t*K=(d+t)*K from by grind,aaw hk]
 grind
theorem azt{C K t:Rat}(hk:K<0):t≤ -(C/K)↔0≤C+t*K:=by
 have e:C=C/K*K:=by grind
 generalize C/K=d at*
 rw[e,show d*K+t*K=(-(d+t))*(-K) from by grind,aaF (by grind)]
 grind
theorem axf{C K t:Rat}(hk:K<0):t< -(C/K)↔0<C+t*K:=by
 have e:C=C/K*K:=by grind
 generalize C/K=d at*
 rw[e,show d*K+t*K=(-(d+t))*(-K) from by grind,aaw (by grind)]
 grind
theorem aaU(k:Rat):k=0∨0<k∨k<0:=by grind
theorem alg{l m:LnQ}{v:IvQ}(hb:l.cutB v m=true)(t:Rat):(l.cutV v m).has t↔v.has t∧0≤m.value (l.at t):=by
 rw[agR]
 rcases aaU (l.cutK m) with hk|hk|hk
 ·obtain⟨h1,h2⟩:=afs v hk
  rw[h1,hk]
  have:=h2.1 hb
  constructor
  ·intro h;exact⟨h,by grind⟩
  ·exact fun h=>h.1
 ·rw[(aj4 v hk).1,alD,←ayV hk]
  simp[IvQ.has]
 ·rw[(ajH v hk).1,alD,←azt hk]
  simp[IvQ.has]
theorem atX{l m:LnQ}{v:IvQ}(hb:l.cutB v m=true)(t:Rat):(l.cutV v m).ins t↔v.ins t∧0<m.value (l.at t):=by
 rw[agR]
 rcases aaU (l.cutK m) with hk|hk|hk
 ·obtain⟨h1,h2⟩:=afs v hk
  rw[h1,hk]
  have:=h2.1 hb
  constructor
  ·intro h;exact⟨h,by grind⟩
  ·exact fun h=>h.1
 ·rw[(aj4 v hk).1,amm,←ayp hk]
  simp[IvQ.ins]
 ·rw[(ajH v hk).1,amm,←axf hk]
  simp[IvQ.ins]
theorem akG{l m:LnQ}{v:IvQ}(hv:v.Pos)(hb:l.cutB v m=true):(l.cutV v m).Pos:=by
 rcases aaU (l.cutK m) with hk|hk|hk
 ·rw[(afs v hk).1];exact hv
 ·exact(aj4 v hk).2.1 hb
 ·exact(ajH v hk).2.1 hb
theorem atc{l m:LnQ}{v:IvQ}(hv:v.Pos)(hb:l.cutB v m=false){t:Rat}(ht:v.has t):m.value (l.at t)≤0:=by
 rw[agR]
 have hb': ¬l.cutB v m=true:=by rw[hb];decide
 rcases aaU (l.cutK m) with hk|hk|hk
 ·have h2:=(afs v hk).2
  have: ¬0<l.cutC m:=fun h=>hb' (h2.2 h)
  rw[hk];grind
 ·obtain⟨h1,h2⟩:=aj4 v hk
  have hn: ¬(l.cutV v m).Pos:=fun h=>hb' (h2.2 h)
  rw[h1] at hn
  have h3:=ayp (C:=l.cutC m) (t:=t) hk
  suffices¬(-(l.cutC m/l.cutK m)<t) by grind
  generalize-(l.cutC m/l.cutK m)=d at*
  obtain⟨lo,hi,nl,nh⟩:=v
  unfold IvQ.Pos IvQ.meet at hn
  unfold IvQ.Pos at hv
  unfold IvQ.has at ht
  cases nl<;>cases nh<;>simp at* <;>grind
 ·obtain⟨h1,h2⟩:=ajH v hk
  have hn: ¬(l.cutV v m).Pos:=fun h=>hb' (h2.2 h)
  rw[h1] at hn
  have h3:=axf (C:=l.cutC m) (t:=t) hk
  suffices¬(t< -(l.cutC m/l.cutK m)) by grind
  generalize-(l.cutC m/l.cutK m)=d at*
  obtain⟨lo,hi,nl,nh⟩:=v
  unfold IvQ.Pos IvQ.meet at hn
  unfold IvQ.Pos at hv
  unfold IvQ.has at ht
  cases nl<;>cases nh<;>simp at* <;>grind
/-! ### cells -/
def InD(c:aat)(p:PtQ):Prop:= ∀s∈c,0<s.l.value p
def InC(c:aat)(p:PtQ):Prop:= ∀s∈c,0≤s.l.value p
theorem afK(l:LnQ): ∀(c:aat) (v w:IvQ),v.Pos→aeV l c v=some w→
  w.Pos∧(∀t,w.has t↔v.has t∧InC c (l.at t))∧(∀t,w.ins t↔v.ins t∧InD c (l.at t))
 |[],v,w,hv,h=>by
  obtain rfl:v=w:=by simpa[aeV] using h
  exact⟨hv,fun t=>⟨fun h=>⟨h,fun s hs=>absurd hs (by simp)⟩,fun h=>h.1⟩,fun t=>⟨fun h=>⟨h,fun s hs=>absurd hs (by simp)⟩,fun h=>h.1⟩⟩
 |s::c,v,w,hv,h=>by
  rw[aeV] at h
  split at h
  ·rename_i hb
   obtain⟨h1,h2,h3⟩:=afK l c _ w (akG hv hb) h
   refine⟨h1,fun t=>?_,fun t=>?_⟩
   ·rw[h2,alg hb]
    simp only[InC,fW]
    exact and_assoc
   ·rw[h3,atX hb]
    simp only[InD,fW]
    exact and_assoc
  ·exact absurd h (by simp)
theorem ah5(l:LnQ): ∀(c:aat) (v:IvQ),v.Pos→aeV l c v=none→ ∀t,v.has t→ ¬InD c (l.at t)
 |[],v,hv,h=>by simp[aeV] at h
 |s::c,v,hv,h=>by
  intro t ht hd
  have hd':=fW.1 hd
  rw[aeV] at h
  split at h
  ·rename_i hb
   exact ah5 l c _ (akG hv hb) h t ((alg hb t).2 ⟨ht,iM hd'.1⟩) hd'.2
  ·rename_i hb
   have:=atc hv (by simpa using hb) ht
   have:=hd'.1
   grind
theorem InD.open: ∀{c:aat} {q:PtQ} (u:PtQ),InD c q→ ∃e:Rat,0<e∧ ∀d,0≤d→d≤e→InD c (aeS q u d)
 |[],q,u,_=>⟨1,by decide,fun d _ _ s hs=>absurd hs (by simp)⟩
 |s::c,q,u,h=>by
  have h':=fW.1 h
  obtain⟨e,he,hd⟩:=InD.open (c:=c) u h'.2
  have hs:=h'.1
  generalize hk:s.l.nor.dot u=k
  have hf: ∃f:Rat,0<f∧ ∀d,0≤d→d≤f→0<s.l.value q+d*k:=by
   by_cases hk0:0≤k
   ·exact⟨1,by decide,fun d h1 _=>by have:=aai h1 hk0;grind⟩
   ·refine⟨s.l.value q/(2* -k),?_,fun d h1 h2=>?_⟩
    ·have e1:s.l.value q/(2* -k)*(2* -k)=s.l.value q:=by grind
     exact(aaw (k:=2* -k) (by grind)).1 (by rw[e1];exact hs)
    ·have e1:s.l.value q/(2* -k)*(2* -k)=s.l.value q:=by grind
     generalize s.l.value q/(2* -k)=f at*
     have:=aai (a:=f-d) (b:= -k) (by grind) (by grind)
     grind
  obtain⟨f,hf0,hf⟩:=hf
  by_cases hef:e≤f
  ·refine⟨e,he,fun d h1 h2=>fW.2 ⟨?_,hd d h1 h2⟩⟩
   rw[ab2,hk];exact hf d h1 (by grind)
  ·refine⟨f,hf0,fun d h1 h2=>fW.2 ⟨?_,hd d h1 (by grind)⟩⟩
   rw[ab2,hk];exact hf d h1 h2
theorem ahE: ∀{c:aat} {q p:PtQ},InD c q→(∃s∈c,s.l.value p≤0)→
  ∃e:Rat,0≤e∧e≤1∧(∃s∈c,s.l.value p≤0∧s.l.value (asm q p e)=0)∧InC c (asm q p e)
 |[],q,p,_,h=>by obtain⟨s,hs,_⟩:=h;exact absurd hs (by simp)
 |s::c,q,p,h,hex=>by
  have h':=fW.1 h
  have hs:=h'.1
  by_cases hc: ∃s∈c,s.l.value p≤0
  ·obtain⟨e,h0,h1,⟨s1,m1,n1,z1⟩,hC⟩:=ahE h'.2 hc
   by_cases hp:0≤s.l.value (asm q p e)
   ·exact⟨e,h0,h1,⟨s1,aZ _ m1,n1,z1⟩,fW.2 ⟨hp,hC⟩⟩
   ·rw[adi] at hp
    generalize hB:s.l.value p-s.l.value q=B at*
    have hB0:B<0:=by
     by_cases hB0:0≤B
     ·have:=aai h0 hB0;grind
     ·grind
    have e1:s.l.value q/(-B)*(-B)=s.l.value q:=by grind
    generalize hf:s.l.value q/(-B)=f at*
    have f0:0≤f:=(aaF (k:= -B) (by grind)).1 (by rw[e1];grind)
    have f1:f≤e:=by
     have:=(aaF (s:=e-f) (k:= -B) (by grind)).1 (by grind)
     grind
    have z:s.l.value (asm q p f)=0:=by rw[adi,hB];grind
    have np:s.l.value p≤0:=by
     have:=aai (a:=1-e) (b:= -B) (by grind) (by grind)
     grind
    refine⟨f,f0,by grind,⟨s,aQ,np,z⟩,fW.2 ⟨by rw[z];exact lM,fun s2 m2=>?_⟩⟩
    have a1:=h'.2 s2 m2
    have a2:=hC s2 m2
    rw[adi] at a2⊢
    exact agD (iM a1) a2 f0 f1
  ·have np:s.l.value p≤0:=by
    obtain⟨s1,m1,n1⟩:=hex
    rcases aS.1 m1 with rfl|m1
    ·exact n1
    ·exact absurd ⟨s1,m1,n1⟩ hc
   generalize hB:s.l.value p-s.l.value q=B at*
   have hB0:B<0:=by grind
   have e1:s.l.value q/(-B)*(-B)=s.l.value q:=by grind
   generalize hf:s.l.value q/(-B)=f at*
   have f0:0≤f:=(aaF (k:= -B) (by grind)).1 (by rw[e1];grind)
   have f1:f≤1:=by
    have:=(aaF (s:=1-f) (k:= -B) (by grind)).1 (by grind)
    grind
   have z:s.l.value (asm q p f)=0:=by rw[adi,hB];grind
   refine⟨f,f0,f1,⟨s,aQ,np,z⟩,fW.2 ⟨by rw[z];exact lM,fun s2 m2=>?_⟩⟩
   have a1:=h'.2 s2 m2
   have a2:0<s2.l.value p:=by
    by_cases h:0<s2.l.value p
    ·exact h
    ·exact absurd ⟨s2,m2,by grind⟩ hc
   rw[adi]
   have:=agD (A:=s2.l.value q) (B:=s2.l.value p-s2.l.value q) (u:=f) (v:=1) (iM a1) (by grind) f0 f1
   exact this
structure ae1 (c:aat):Prop where
 ne: ∃p,InD c p
 ok: ∀s∈c,s.l.ok
 edge: ∀s∈c,s.v.Pos∧ ∀t,s.v.has t↔InC c (s.l.at t)
theorem ae1.nil:ae1 []:=⟨⟨⟨0,0⟩,fun s hs=>absurd hs (by simp)⟩,fun s hs=>absurd hs (by simp),fun s hs=>absurd hs (by simp)⟩
theorem acp{c:aat}{m:LnQ}(hne: ∃q,InD c q)(h: ∀p,InD c p→0<m.value p){p:PtQ}(hp:InC c p):0≤m.value p:=by
 obtain⟨q,hq⟩:=hne
 have mq:=h q hq
 by_cases hm:0≤m.value p
 ·exact hm
 ·exfalso
  generalize hB:m.value q-m.value p=B
  have hB0:0<B:=by grind
  have e1: -m.value p/B*B= -m.value p:=by grind
  generalize-m.value p/B=e at*
  have e0:0<e:=(aaw hB0).1 (by rw[e1];grind)
  have e2:e≤1:=by
   have:=(aaF (s:=1-e) hB0).1 (by grind)
   grind
  have hd:InD c (asm p q e):=fun s hs=>by
   rw[adi]
   have a:=hp s hs
   have b:=hq s hs
   have:=aae e0 b
   have:=aai (a:=1-e) (b:=s.l.value p) (by grind) a
   grind
  have:=h _ hd
  rw[adi,hB,e1] at this
  grind
theorem ac0{l:LnQ}{s':FrQ}: ∀{c:aat},s'∈ab8 l c↔ ∃s∈c,s.l.cutB s.v l=true∧s'=⟨s.l,s.l.cutV s.v l⟩
 |[]=>by simp[ab8]
 |s::c=>by
  rw[ab8]
  split
  ·rename_i hb
   rw[aS,ac0 (c:=c)]
   constructor
   ·rintro (rfl|⟨s1,h1,h2⟩)
    ·exact⟨s,aQ,hb,rfl⟩
    ·exact⟨s1,aZ _ h1,h2⟩
   ·rintro ⟨s1,h1,h2,h3⟩
    rcases aS.1 h1 with rfl|h1
    ·exact .inl h3
    ·exact .inr ⟨s1,h1,h2,h3⟩
  ·rename_i hb
   rw[ac0 (c:=c)]
   constructor
   ·rintro ⟨s1,h1,h2⟩;exact⟨s1,aZ _ h1,h2⟩
   ·rintro ⟨s1,h1,h2,h3⟩
    rcases aS.1 h1 with rfl|h1
    ·exact absurd h2 hb
    ·exact⟨s1,h1,h2,h3⟩
theorem adJ{c:aat}{l:LnQ}{v:IvQ}{s:FrQ}:s∈anr c l v↔s=⟨l,v⟩∨s∈c:=by
 unfold anr
 generalize bsq (afd c l) 0 c.length=n
 rw[bS,aS]
 have h:=kM n c
 constructor
 ·rintro (h1|h1|h1)
  ·exact .inr (dT h1)
  ·exact .inl h1
  ·exact .inr (gT h1)
 ·rintro (h1|h1)
  ·exact .inr (.inl h1)
  ·rw[←h,bS] at h1
   rcases h1 with h1|h1
   ·exact .inl h1
   ·exact .inr (.inr h1)
theorem arp{c:aat}{l:LnQ}(hl:l.Ne)(hp:aex c l=none){p:PtQ}(h:InD c p):l.value p≠0:=by
 intro h0
 obtain⟨t,rfl⟩:=aua hl h0
 exact ah5 l c _ ak4 hp t (aoF t) h
theorem ahY{c:aat}{l:LnQ}(hl:l.Ne){v:IvQ}(hp:aex c l=some v):(∃q,InD c q∧0<l.value q)∧ ∃q,InD c q∧l.value q<0:=by
 obtain⟨h1,_,h3⟩:=afK l c _ v ak4 hp
 have hd:=((h3 v.sample).1 (afI h1)).2
 have h0:=apY hl v.sample
 have hn:=ah3 hl
 constructor
 ·obtain⟨e,he,hm⟩:=hd.open l.nor
  refine⟨_,hm e (iM he) lM,?_⟩
  rw[ab2,h0]
  have:=aae he hn
  grind
 ·obtain⟨e,he,hm⟩:=hd.open ⟨-l.nor.x, -l.nor.y⟩
  refine⟨_,hm e (iM he) lM,?_⟩
  rw[ab2,h0]
  have:=aae he hn
  simp only[PtQ.dot] at this⊢
  grind
theorem apy{c:aat}{l:LnQ}{v:IvQ}(hc:ae1 c)(hl:l.ok)(hp:aex c l=some v):
  ae1 (anr (ab8 l c) l v)∧ ∀p,InD (anr (ab8 l c) l v) p↔InD c p∧0<l.value p:=by
 obtain⟨⟨q,hq,lq⟩,_⟩:=ahY hl.ne hp
 obtain⟨v1,v2,v3⟩:=afK l c _ v ak4 hp
 have hD: ∀p,InD (anr (ab8 l c) l v) p↔InD c p∧0<l.value p:=by
  intro p
  constructor
  ·intro h
   have lp:0<l.value p:=h ⟨l,v⟩ (adJ.2 (.inl rfl))
   refine⟨fun s0 hs0=>?_,lp⟩
   by_cases h0:0<s0.l.value p
   ·exact h0
   ·exfalso
    obtain⟨e,e0,e1,⟨s,ms,ns,zs⟩,hC⟩:=ahE (p:=p) hq ⟨s0,hs0,by grind⟩
    obtain⟨t,ht⟩:=aua (hc.ok s ms).ne zs
    rw[ht] at hC
    obtain⟨p1,p2⟩:=hc.edge s ms
    have hh:=(p2 t).2 hC
    have lr:0<l.value (s.l.at t):=by
     rw[←ht,adi]
     by_cases hB:0≤l.value p-l.value q
     ·have:=aai e0 hB;grind
     ·have:=aai (a:=1-e) (b:= -(l.value p-l.value q)) (by grind) (by grind)
      grind
    have hb:s.l.cutB s.v l=true:=by
     cases hb:s.l.cutB s.v l with
     |true=>rfl
     |false=>have:=atc p1 hb hh;grind
    have:=h ⟨s.l,s.l.cutV s.v l⟩ (adJ.2 (.inr (ac0.2 ⟨s,ms,hb,rfl⟩)))
    simp only at this
    grind
  ·rintro ⟨h1,h2⟩ s hs
   rcases adJ.1 hs with rfl|hs
   ·exact h2
   ·obtain⟨s1,m1,_,rfl⟩:=ac0.1 hs
    exact h1 s1 m1
 have hne: ∃p,InD (anr (ab8 l c) l v) p:=⟨q,(hD q).2 ⟨hq,lq⟩⟩
 have hC: ∀p,InC (anr (ab8 l c) l v) p↔InC c p∧0≤l.value p:=by
  intro p
  constructor
  ·intro h
   refine⟨fun s hs=>?_,h ⟨l,v⟩ (adJ.2 (.inl rfl))⟩
   exact acp hne (fun p hp=>((hD p).1 hp).1 s hs) h
  ·rintro ⟨h1,h2⟩ s hs
   rcases adJ.1 hs with rfl|hs
   ·exact h2
   ·obtain⟨s1,m1,_,rfl⟩:=ac0.1 hs
    exact h1 s1 m1
 refine⟨⟨hne,fun s hs=>?_,fun s hs=>?_⟩,hD⟩
 ·rcases adJ.1 hs with rfl|hs
  ·exact hl
  ·obtain⟨s1,m1,_,rfl⟩:=ac0.1 hs
   exact hc.ok s1 m1
 ·rcases adJ.1 hs with rfl|hs
  ·refine⟨v1,fun t=>?_⟩
   rw[hC]
   simp only
   rw[v2]
   have h0:=apY hl.ne t
   constructor
   ·intro h;exact⟨h.2,by rw[h0];exact lM⟩
   ·intro h;exact⟨aoF t,h.1⟩
  ·obtain⟨s1,m1,hb,rfl⟩:=ac0.1 hs
   obtain⟨p1,p2⟩:=hc.edge s1 m1
   refine⟨akG p1 hb,fun t=>?_⟩
   rw[hC]
   simp only
   rw[alg hb,p2]
theorem InD.seg{c:aat}{q p:PtQ}{e:Rat}(hq:InD c q)(hp:InD c p)(h0:0≤e)(h1:e≤1):InD c (asm q p e):=fun s hs=>by
 rw[adi]
 have a:=hq s hs
 have b:=hp s hs
 by_cases he:e=0
 ·subst he;grind
 ·have:=aae (a:=e) (by grind) b
  have:=aai (a:=1-e) (b:=s.l.value q) (by grind) (by grind)
  grind
theorem arP{v:IvQ}{t:Rat}(h:v.ins t):(∃u,u<t∧v.has u)∧ ∃u,t<u∧v.has u:=by
 obtain⟨lo,hi,nl,nh⟩:=v
 unfold IvQ.ins at h
 unfold IvQ.has
 refine⟨⟨if nl=true then t-1 else lo,?_⟩,⟨if nh=true then t+1 else hi,?_⟩⟩<;>cases nl<;>cases nh<;>simp at* <;>grind
theorem acj{a b c x y z:Nat}(h1:x*b=a*y)(h2:x*c=a*z)(g:Nat.gcd (Nat.gcd a b) c=1):a∣x:=by
 have e:x=Nat.gcd (Nat.gcd (x*a) (x*b)) (x*c):=by
  rw[Nat.gcd_mul_left,Nat.gcd_mul_left,g,fS]
 rw[e]
 exact Nat.dvd_gcd (Nat.dvd_gcd (Nat.dvd_mul_left ..) (h1▸Nat.dvd_mul_right ..)) (h2▸Nat.dvd_mul_right ..)
theorem anQ{a b c x y z:Int}(h1:a*y=b*x)(h2:a*z=c*x)(h3:b*z=c*y)
  (g1:Nat.gcd (Nat.gcd a.natAbs b.natAbs) c.natAbs=1)(g2:Nat.gcd (Nat.gcd x.natAbs y.natAbs) z.natAbs=1):
  (a=x∧b=y∧c=z)∨(a= -x∧b= -y∧c= -z):=by
 have n1:a.natAbs*y.natAbs=b.natAbs*x.natAbs:=by rw[←gU,←gU,h1]
 have n2:a.natAbs*z.natAbs=c.natAbs*x.natAbs:=by rw[←gU,←gU,h2]
 have n3:b.natAbs*z.natAbs=c.natAbs*y.natAbs:=by rw[←gU,←gU,h3]
 generalize ha:a.natAbs=A at*
 generalize hb:b.natAbs=B at*
 generalize hc:c.natAbs=C at*
 generalize hx:x.natAbs=X at*
 generalize hy:y.natAbs=Y at*
 generalize hz:z.natAbs=Z at*
 have gB:Nat.gcd (Nat.gcd B A) C=1:=by rw[gX B A];exact g1
 have gC:Nat.gcd (Nat.gcd C A) B=1:=by rw[Nat.gcd_assoc,gX];exact g1
 have gY:Nat.gcd (Nat.gcd Y X) Z=1:=by rw[gX Y X];exact g2
 have gZ:Nat.gcd (Nat.gcd Z X) Y=1:=by rw[Nat.gcd_assoc,gX];exact g2
 have e1:A=X:=Nat.dvd_antisymm (acj (x:=X) (y:=Y) (z:=Z) (by grind) (by grind) g1) (acj (x:=A) (y:=B) (z:=C) (by grind) (by grind) g2)
 have e2:B=Y:=Nat.dvd_antisymm (acj (x:=Y) (y:=X) (z:=Z) (by grind) (by grind) gB) (acj (x:=B) (y:=A) (z:=C) (by grind) (by grind) gY)
 have e3:C=Z:=Nat.dvd_antisymm (acj (x:=Z) (y:=X) (z:=Y) (by grind) (by grind) gC) (acj (x:=C) (y:=A) (z:=B) (by grind) (by grind) gZ)
 have s1:a=x∨a= -x:=by omega
 have s2:b=y∨b= -y:=by omega
 have s3:c=z∨c= -z:=by omega
 clear ha hb hc hx hy hz n1 n2 n3 g1 g2 gB gC gY gZ e1 e2 e3
 have z1:= @qZ x y
 have z2:= @qZ x z
 have z3:= @qZ y z
 rcases s1 with rfl|rfl<;>rcases s2 with rfl|rfl<;>rcases s3 with rfl|rfl<;>grind
theorem aj9{l m:LnQ}(hl:l.ok)(hm:m.ok)(h: ∀t,l.value (m.at t)=0):l=m∨l=m.rev:=by
 have h0:=h 0
 have h1:=h 1
 rw[agR] at h0 h1
 have hC:m.cutC l=0:=by grind
 have hK:m.cutK l=0:=by grind
 obtain⟨q,q1,q2⟩:=alB hm.ne
 have hn:=ah3 hm.ne
 unfold LnQ.cutC at hC
 rw[q2,adI] at hC
 unfold LnQ.cutK at hK
 simp only[LnQ.nor,LnQ.dir,PtQ.dot] at hK q1 hn hC
 obtain⟨a,b,c⟩:=l
 obtain⟨x,y,z⟩:=m
 simp only at*
 have e1:a*y=b*x:=by
  have:((a*y:Int):Rat)=((b*x:Int):Rat):=by rw[eM,eM];grind
  exact mK.1 this
 have e2:a*z=c*x:=by
  have:((a*z:Int):Rat)=((c*x:Int):Rat):=by rw[eM,eM];grind
  exact mK.1 this
 have e3:b*z=c*y:=by
  have:((b*z:Int):Rat)=((c*y:Int):Rat):=by rw[eM,eM];grind
  exact mK.1 this
 rcases anQ e1 e2 e3 hl.2 hm.2 with⟨rfl,rfl,rfl⟩|⟨rfl,rfl,rfl⟩
 ·exact .inl rfl
 ·exact .inr rfl
theorem LnQ.ok.rev{l:LnQ}(h:l.ok):l.rev.ok:=by
 obtain⟨h1,h2⟩:=h
 refine⟨?_,?_⟩
 ·simp only[LnQ.rev];omega
 ·simp only[LnQ.rev,hJ];exact h2
theorem aj5(l:LnQ): ∀c:aat,(∀s∈c,ads l s≤0∧s.l≠l)→ ¬0<adx l c
 |[],_=>by simp[adx]
 |s::c,h=>by
  have h':=fW.1 h
  unfold adx
  rw[if_neg h'.1.2]
  split
  ·have:=h'.1.1;omega
  ·exact aj5 l c h'.2
theorem ah6{c:aat}{l:LnQ}(hc:ae1 c)(hl:l.ok)(hp:aex c l=none):
  (0<adx l c∧ ∀p,InD c p→0<l.value p)∨(¬0<adx l c∧ ∀p,InD c p→l.value p<0):=by
 have hoff:=fun p (h:InD c p)=>arp hl.ne hp h
 by_cases hq: ∃q,InD c q∧0<l.value q
 ·left
  obtain⟨q,hq,lq⟩:=hq
  have hall: ∀p,InD c p→0<l.value p:=by
   intro p h
   have:=hoff p h
   by_cases h0:0<l.value p
   ·exact h0
   ·exfalso
    have hn:l.value p<0:=by grind
    have e1:l.value q/(l.value q-l.value p)*(l.value q-l.value p)=l.value q:=by grind
    generalize l.value q/(l.value q-l.value p)=e at*
    have f0:0≤e:=(aaF (k:=l.value q-l.value p) (by grind)).1 (by grind)
    have f1:e≤1:=by
     have:=(aaF (s:=1-e) (k:=l.value q-l.value p) (by grind)).1 (by grind)
     grind
    exact hoff _ (hq.seg h f0 f1) (by rw[adi];grind)
  refine⟨?_,hall⟩
  cases c with
  |nil=>simp[aex,aeV] at hp
  |cons s c=>
   obtain⟨p1,p2⟩:=hc.edge s aQ
   have hi:=afI p1
   have hr:=acp hc.ne hall ((p2 _).1 hi.has)
   unfold adx
   by_cases h0:ads l s=0
   ·rw[if_neg (by simpa using h0)]
    have hz:l.value (s.l.at s.v.sample)=0:=(abO _).1 h0
    have hge: ∀t,s.v.has t→0≤l.value (s.l.at t):=fun t ht=>acp hc.ne hall ((p2 t).1 ht)
    obtain⟨⟨u1,m1,n1⟩,⟨u2,m2,n2⟩⟩:=arP hi
    have g1:=hge _ n1
    have g2:=hge _ n2
    rw[agR] at hz g1 g2
    have hK:s.l.cutK l=0:=by
     rcases aaU (s.l.cutK l) with h|h|h
     ·exact h
     ·exfalso
      have:=aae (a:=s.v.sample-u1) (b:=s.l.cutK l) (by grind) h
      grind
     ·exfalso
      have:=aae (a:=u2-s.v.sample) (b:= -s.l.cutK l) (by grind) (by grind)
      grind
    have hz2: ∀t,l.value (s.l.at t)=0:=fun t=>by rw[agR,hK];rw[hK] at hz;grind
    rcases aj9 hl (hc.ok s aQ) hz2 with h|h
    ·rw[if_pos h.symm];decide
    ·exfalso
     have:=hall q hq
     rw[h,ad7] at this
     have:=hq s aQ
     grind
   ·rw[if_pos h0]
    have hz:l.value (s.l.at s.v.sample)≠0:=fun e=>h0 ((abO _).2 e)
    exact(acy _).2 (by grind)
 ·right
  have hall: ∀p,InD c p→l.value p<0:=fun p h=>by
   have:=hoff p h
   have: ¬0<l.value p:=fun h'=>hq ⟨p,h,h'⟩
   grind
  refine⟨aj5 l c fun s hs=>?_,hall⟩
  obtain⟨p1,p2⟩:=hc.edge s hs
  have hr:=acp (m:=l.rev) hc.ne (fun p h=>by rw[ad7];have:=hall p h;grind) ((p2 _).1 (afI p1).has)
  rw[ad7] at hr
  constructor
  ·have: ¬0<ads l s:=fun h=>by have:=(acy _).1 h;grind
   omega
  ·rintro rfl
   obtain⟨p,hp⟩:=hc.ne
   have:=hall p hp
   have:=hp s hs
   grind
/-! ### clipping -/
theorem amE{c:aat}{l:LnQ}(hc:ae1 c)(hl:l.ok):abv c l=true↔ ∃p,InD c p∧0<l.value p:=by
 unfold abv
 cases hp:aex c l with
 |some v=>exact⟨fun _=>(ahY hl.ne hp).1,fun _=>rfl⟩
 |none=>
  simp only[agE,hp,Option.isSome_none,iN,if_false,decide_eq_true_iff]
  rcases ah6 hc hl hp with⟨h1,h2⟩|⟨h1,h2⟩
  ·refine⟨fun _=>?_,fun _=>h1⟩
   obtain⟨p,hp⟩:=hc.ne
   exact⟨p,hp,h2 p hp⟩
  ·refine⟨fun h=>absurd h h1,?_⟩
   rintro ⟨p,hp,h⟩
   have:=h2 p hp
   grind
theorem aj7{c:aat}{l:LnQ}(hc:ae1 c)(hl:l.ok)(hb:abv c l=true):ae1 (abg c l)∧ ∀p,InD (abg c l) p↔InD c p∧0<l.value p:=by
 unfold abg
 cases hp:aex c l with
 |some v=>exact apy hc hl hp
 |none=>
  refine⟨hc,fun p=>?_⟩
  unfold abv at hb
  simp only[hp,agE,Option.isSome_none,iN,if_false,decide_eq_true_iff] at hb
  rcases ah6 hc hl hp with⟨h1,h2⟩|⟨h1,h2⟩
  ·exact⟨fun h=>⟨h,h2 p h⟩,fun h=>h.1⟩
  ·exact absurd hb h1
inductive aCp (c:aat) (l:LnQ):Prop
 |left (h1:abv c l.rev=false) (h: ∀p,InD c p→0<l.value p)
 |right (h1:abv c l.rev=true) (h2:abv c l=false) (h: ∀p,InD c p→l.value p<0)
 |both (h1:abv c l.rev=true) (h2:abv c l=true) (g1:ae1 (abg c l)) (g2:ae1 (abg c l.rev))
   (e1: ∀p,InD (abg c l) p↔InD c p∧0<l.value p) (e2: ∀p,InD (abg c l.rev) p↔InD c p∧l.value p<0)
/-! ### trees -/
theorem Tr.restrict_A{l:LnQ}{e:aat}(X Y:Tr)(h:abv e l.rev=false):(Tr.node l X Y).restrict e=X.restrict e:=by
 rw[Tr.restrict,h];rfl
theorem Tr.restrict_B{l:LnQ}{e:aat}(X Y:Tr)(h:abv e l.rev=true)(h2:abv e l=false):(Tr.node l X Y).restrict e=Y.restrict e:=by
 rw[Tr.restrict,h,h2];rfl
theorem Tr.restrict_C{l:LnQ}{e:aat}(X Y:Tr)(h:abv e l.rev=true)(h2:abv e l=true):(Tr.node l X Y).restrict e=Tr.joinQ l (X.restrict (abg e l)) (Y.restrict (abg e l.rev)):=by
 rw[Tr.restrict,h,h2];rfl
def atH:List LnQ→aat→Option aat
 |[],c=>some c
 |l::t,c=>if abv c l then atH t (abg c l) else none
def am5(l:LnQ):List LnQ→IvQ→Option IvQ
 |[],v=>some v
 |m::t,v=>if m=l then am5 l t v else if l.cutB v m then am5 l t (l.cutV v m) else none
def InL(c:List LnQ)(p:PtQ):Prop:= ∀m∈c,0<m.value p
def anu(c:List LnQ):Bool:=c.isEmpty||c.any (fun l=>(am5 l c IvQ.all).isSome)
def aoI(out:List LnQ)(l:LnQ):Nat:=(out.takeWhile (fun x=>decide (aaG x.dir l.dir<0))).length
def asa(out:List LnQ)(l:LnQ):List LnQ:=if out[aoI out l]? =some l then out else out.take (aoI out l)++l::out.drop (aoI out l)
def apb(c:List LnQ):List LnQ→List LnQ→List LnQ
 |[],out=>out
 |l::t,out=>apb c t (if(am5 l c IvQ.all).isSome then asa out l else out)
def ahS(c:List LnQ):List LnQ:=apb c c []
def amz(c:List LnQ)(l:LnQ):Int:=if anu (c++[l])&&anu (c++[l.rev]) then 0 else if anu (c++[l]) then 1 else-1
def Tr.restrictL:Tr→List LnQ→Tr
 | .leaf b,_=> .leaf b
 | .node l x y,c=>if amz c l=1 then x.restrictL c else if amz c l= -1 then y.restrictL c else joinQ l (x.restrictL (ahS (c++[l]))) (y.restrictL (ahS (c++[l.rev])))
def crossI(l m:LnQ):Int:=l.a*m.b-m.a*l.b
def meetX(l m:LnQ):Int:=l.b*m.c-m.b*l.c
def meetY(l m:LnQ):Int:=m.a*l.c-l.a*m.c
def acF(l m:LnQ):PtQ:=if crossI l m=0 then⟨0,0⟩ else⟨(meetX l m:Rat)/(crossI l m:Rat),(meetY l m:Rat)/(crossI l m:Rat)⟩
def acC(l:LnQ)(p:PtQ):Rat:=p.dot l.dir/l.dir.dot l.dir
theorem at3(l:LnQ):l.dir.dot l.dir=l.nor.dot l.nor:=by
 simp only[LnQ.dir,LnQ.nor,PtQ.dot];grind
theorem alx{l:LnQ}(h:l.Ne):0<l.dir.dot l.dir:=by rw[at3];exact ah3 h
theorem ado(l m:LnQ):((crossI l m:Int):Rat)=(l.a:Rat)*m.b-(m.a:Rat)*l.b:=by
 unfold crossI;rw[mV,eM,eM]
theorem ahD(l m:LnQ):((meetX l m:Int):Rat)=(l.b:Rat)*m.c-(m.b:Rat)*l.c:=by
 unfold meetX;rw[mV,eM,eM]
theorem ahT(l m:LnQ):((meetY l m:Int):Rat)=(m.a:Rat)*l.c-(l.a:Rat)*m.c:=by
 unfold meetY;rw[mV,eM,eM]
theorem aej(l m:LnQ):l.cutK m= -((crossI l m:Int):Rat):=by
 rw[ado];simp only[LnQ.cutK,LnQ.nor,LnQ.dir,PtQ.dot];grind
theorem ams(l m:LnQ):m.dir.cross l.dir=l.cutK m:=by
 simp only[LnQ.cutK,LnQ.nor,LnQ.dir,PtQ.dot,PtQ.cross];grind
theorem amC{l:LnQ}:(⟨-((l.c:Rat)/l.dir.dot l.dir)*(l.a:Rat), -((l.c:Rat)/l.dir.dot l.dir)*(l.b:Rat)⟩:PtQ)=l.base:=by
 unfold LnQ.base
 rw[at3]
 simp only[LnQ.nor,PtQ.scale,PtQ.mk.injEq]
 constructor<;>grind
theorem atj(l:LnQ)(t:Rat):aeS l.base l.dir t=l.at t:=by
 simp only[aeS,LnQ.at,PtQ.add,PtQ.scale,PtQ.mk.injEq]
 constructor<;>grind
theorem aep{l m:LnQ}(hl:l.Ne)(h:crossI l m≠0):acC l (acF l m)= -(l.cutC m/l.cutK m):=by
 have hd:((crossI l m:Int):Rat)≠0:=fun e=>h (cR.1 e)
 have hn:=alx hl
 obtain⟨q,q1,q2⟩:=alB hl
 rw[aej]
 unfold acC acF LnQ.cutC
 rw[if_neg h,q2,adI,ahD,ahT]
 have hc:=ado l m
 rw[at3] at hn⊢
 simp only[LnQ.dir,LnQ.nor,PtQ.dot] at hn q1⊢
 generalize ((crossI l m:Int):Rat)=d at*
 generalize (l.a:Rat)=a at*
 generalize (l.b:Rat)=b at*
 generalize (l.c:Rat)=c at*
 generalize (m.a:Rat)=x at*
 generalize (m.b:Rat)=y at*
 generalize (m.c:Rat)=z at*
 have hn':a*a+b*b≠0:=by grind
 have e:((b*z-y*c)/d*b+(x*c-a*z)/d* -a)=((b*z-y*c)*b-(x*c-a*z)*a)/d:=by grind
 rw[e]
 have k1:(b*z-y*c)*b-(x*c-a*z)*a=(a*a+b*b)*(x*(a*q)+y*(b*q)+z):=by grind
 rw[k1]
 grind
theorem am6{l m:LnQ}(hl:l.Ne)(h:crossI l m≠0):acC l (acF l m)*((crossI l m*(l.a*l.a+l.b*l.b):Int):Rat)=((meetX l m*l.b-meetY l m*l.a:Int):Rat):=by
 have hd:((crossI l m:Int):Rat)≠0:=fun e=>h (cR.1 e)
 have hn:=alx hl
 unfold acC acF
 rw[if_neg h]
 simp only[eM,mV,qX]
 simp only[LnQ.dir,PtQ.dot] at hn⊢
 generalize ((crossI l m:Int):Rat)=d at*
 generalize ((meetX l m:Int):Rat)=x at*
 generalize ((meetY l m:Int):Rat)=y at*
 generalize (l.a:Rat)=a at*
 generalize (l.b:Rat)=b at*
 have hn':b*b+ -a* -a≠0:=by grind
 grind
def aka(v:IvQ)(t:Rat):IvQ:=if v.nl=true∨0<adE t v.lo then⟨t,v.hi,false,v.nh⟩ else v
def ajr(v:IvQ)(t:Rat):IvQ:=if v.nh=true∨adE t v.hi<0 then⟨v.lo,t,v.nl,false⟩ else v
structure IvZ (v:IvQ):Prop where
 lo:v.nl=true→v.lo=0
 hi:v.nh=true→v.hi=0
theorem aoG(a b:Rat):0<adE a b↔b<a:=by
 unfold adE;split
 ·constructor
  ·intro h;exact absurd h (by decide)
  ·intro h;grind
 ·split
  ·exact⟨fun _=>by assumption,fun _=>by decide⟩
  ·constructor
   ·intro h;exact absurd h (by decide)
   ·intro h;exact absurd h (by assumption)
theorem aoD(a b:Rat):adE a b<0↔a<b:=by
 unfold adE;split
 ·exact⟨fun _=>by assumption,fun _=>by decide⟩
 ·split
  ·constructor
   ·intro h;exact absurd h (by decide)
   ·intro h;grind
  ·constructor
   ·intro h;exact absurd h (by decide)
   ·intro h;exact absurd h (by assumption)
theorem ahJ{v:IvQ}(h:IvZ v)(t:Rat):aka v t=v.meet ⟨t,0,false,true⟩:=by
 obtain⟨lo,hi,nl,nh⟩:=v
 obtain⟨h1,h2⟩:=h
 unfold aka IvQ.meet
 simp only[aoG] at*
 cases nl<;>cases nh<;>simp at* <;>(try (split<;>split<;>simp_all<;>grind))<;>grind
theorem ah1{v:IvQ}(h:IvZ v)(t:Rat):ajr v t=v.meet ⟨0,t,true,false⟩:=by
 obtain⟨lo,hi,nl,nh⟩:=v
 obtain⟨h1,h2⟩:=h
 unfold ajr IvQ.meet
 simp only[aoD] at*
 cases nl<;>cases nh<;>simp at* <;>(try (split<;>split<;>simp_all<;>grind))<;>grind
theorem IvZ.lo'{v:IvQ}(h:IvZ v)(t:Rat):IvZ (aka v t):=by
 obtain⟨lo,hi,nl,nh⟩:=v
 unfold aka;split
 ·exact⟨fun h=>by simp at h,h.hi⟩
 ·exact h
theorem IvZ.hi'{v:IvQ}(h:IvZ v)(t:Rat):IvZ (ajr v t):=by
 obtain⟨lo,hi,nl,nh⟩:=v
 unfold ajr;split
 ·exact⟨h.lo,fun h=>by simp at h⟩
 ·exact h
theorem aqx{l m:LnQ}{v:IvQ}(h:crossI l m=0):l.cutV v m=v∧(l.cutB v m=true↔0<m.value l.base):=by
 have hk:l.cutK m=0:=by rw[aej,h];rfl
 exact afs v hk
theorem avk{l m:LnQ}{v:IvQ}(hl:l.Ne)(hz:IvZ v)(h:0<m.dir.cross l.dir):crossI l m≠0∧l.cutV v m=aka v (acC l (acF l m))∧l.cutB v m=!(aka v (acC l (acF l m))).empty:=by
 rw[ams] at h
 have hc:crossI l m≠0:=fun e=>by rw[aej,e] at h;exact absurd h (by decide)
 obtain⟨h1,h2⟩:=aj4 v h
 refine⟨hc,?_,?_⟩
 ·rw[ahJ hz,aep hl hc,h1]
 ·rw[ahJ hz,aep hl hc,←h1]
  rw[←ae8] at h2
  cases hb:l.cutB v m<;>cases he:(l.cutV v m).empty<;>simp_all
theorem aup{l m:LnQ}{v:IvQ}(hl:l.Ne)(hz:IvZ v)(h0:crossI l m≠0)(h: ¬0<m.dir.cross l.dir):l.cutV v m=ajr v (acC l (acF l m))∧l.cutB v m=!(ajr v (acC l (acF l m))).empty:=by
 rw[ams] at h
 have hk:l.cutK m≠0:=fun e=>by
  rw[aej] at e
  have:((crossI l m:Int):Rat)=0:=by grind
  exact h0 (cR.1 this)
 obtain⟨h1,h2⟩:=ajH (l:=l) (m:=m) v (by grind)
 refine⟨?_,?_⟩
 ·rw[ah1 hz,aep hl h0,h1]
 ·rw[ah1 hz,aep hl h0,←h1]
  rw[←ae8] at h2
  cases hb:l.cutB v m<;>cases he:(l.cutV v m).empty<;>simp_all
def relo(fl:Nat→Bool)(o:Own):Own:={o with lo:=fl o.b}
structure FnO (P:Program) (f:FuncId) (vs:List Value) (M:List Own) (G:Gh) (K:Value→List Own→Gh→Prop):Prop where
 able:acD P f
 run: ∀w,abR ⟨w,G,M.map (·.b)⟩ (asB M) G w→
  Calls P f ⟨vs⟩ w fun e w'=> ∃v own' G',e= .returned v∧abR ⟨w,G,M.map (·.b)⟩ own' G' w'∧K v own' G'
def flM(M:List Own)(b:Nat):Bool:=M.all fun m=>!Nat.beq m.b b||m.lo
theorem abR.calledO{C:Ctx}{M rest own':List Own}{G G':Gh}{w w':World}(h:abR C (M++rest) G w)(k:abR ⟨w,G,M.map (·.b)⟩ own' G' w'):
  abR C (own'.map (relo (flM M))++rest) G' w':=by
 have hsz:w.heap.size≤w'.heap.size:=k.size
 have hnd:=h.nd
 have inM: ∀b,b∈M.map (·.b)→ ∀o∈rest,o.b≠b:=fun b hb o ho e=>by
  obtain⟨m,hm,rfl⟩:=bM.1 hb
  exact(fV.1 hnd).2.2 m hm o ho e.symm
 have bnd: ∀o∈own',o.b∉M.map (·.b)→w.heap.size≤o.b:=fun o ho hb=>by
  obtain⟨_,_,h3,h4⟩:=k.hown o ho
  cases hlo:o.lo with
  |true=>exact h3 hlo
  |false=>exact absurd (h4 hlo) hb
 refine⟨k.os.trans h.os,k.tape.trans h.tape,k.output.trans h.output,dK h.size hsz,?_,k.sub,h.gle.trans k.gle,?_,?_,?_,dK h.dr k.dr⟩
 ·intro b hb hm
  have hs:=h.size
  have hnM:b∉M.map (·.b):=fun hb'=>by
   obtain⟨m,hmM,rfl⟩:=bM.1 hb'
   obtain⟨_,_,h3,h4⟩:=h.hown m (bW _ hmM)
   cases hlo:m.lo with
   |true=>have:=h3 hlo;omega
   |false=>exact hm (h4 hlo)
  rw[k.keep b (by show b<w.heap.size;omega) hnM];exact h.keep b hb hm
 ·intro b hb;have:=h.size;rw[k.gold b (by show b<w.heap.size;omega)];exact h.gold b hb
 ·intro o ho
  have hs:=h.size
  rcases bS.1 ho with ho|ho
  ·obtain⟨o',ho',rfl⟩:=bM.1 ho
   obtain⟨k1,k2,k3,k4⟩:=k.hown _ ho'
   refine⟨k1,k2,fun hl=>?_,fun hl=>?_⟩
   ·show C.w0.heap.size≤o'.b
    by_cases hb:o'.b∈M.map (·.b)
    ·obtain⟨m,hm,hmb⟩:=bM.1 hb
     have hl':flM M o'.b=true:=hl
     have:=fY.1 hl' m hm
     simp only[hmb,iY,fT,mX] at this
     obtain⟨_,_,h3,_⟩:=h.hown m (bW _ hm)
     rw[←hmb]
     exact h3 (by rcases this with h|h;(cases h);(exact h))
    ·have:=bnd o' ho' hb;omega
   ·show o'.b∈C.mb
    have hl':flM M o'.b=false:=hl
    obtain⟨m,hm,hmb⟩:=List.all_eq_false.1 hl'
    simp only[iY,fT,not_or] at hmb
    obtain⟨h1,h2⟩:=hmb
    have e:m.b=o'.b:=by
     cases hq:Nat.beq m.b o'.b with
     |true=>exact aW hq
     |false=>exact absurd hq h1
    obtain⟨_,_,_,h4⟩:=h.hown m (bW _ hm)
    rw[←e]
    exact h4 (by cases hq:m.lo with
     |true=>exact absurd hq h2
     |false=>rfl)
  ·obtain⟨h1,h2,h3⟩:=h.hown o (bR _ ho)
   have hnM:o.b∉M.map (·.b):=fun hb=>inM _ hb o ho rfl
   exact⟨by rw[k.keep _ (ach h1) hnM];exact h1,by rw[k.gold _ (ach h1)];exact h2,h3⟩
 ·refine fV.2 ⟨?_,(fV.1 hnd).2.1,?_⟩
  ·rw[oU];exact k.nd
  ·intro x hx y hy
   obtain⟨o',ho',rfl⟩:=bM.1 hx
   show o'.b≠y.b
   by_cases hb:o'.b∈M.map (·.b)
   ·exact fun e=>inM _ hb y hy e.symm
   ·have h1:=bnd o' ho' hb
    have h2:=ach (h.hown y (bR _ hy)).1
    omega
def afw(C:Ctx)(K:Value→List Own→Gh→Prop):Ending→World→Prop:=fun e w'=> ∃v own' G',e= .returned v∧abR C own' G' w'∧K v own' G'
theorem FnO.intro{P:Program}{G:Gh}{f:FuncId}{fn:Func}{c:Code}{vs:List Value}{m:Nat}{M:List Own}{K:Value→List Own→Gh→Prop}(hf:P.funcs[f]? =some fn)(hb:fn.body=some c)(hn:(fn.name== "runtime.NumGoroutine")=false)(hm:fn.ntmps=m)(hlen:Nat.ble vs.length m=true)
  (h: ∀C:Ctx,C.G0=G→C.mb=M.map (·.b)→St C m (agC 0 vs) (asB M) G (c.wp P (bodyPost P fn (afw C K)))):FnO P f vs M G K:=by
 refine⟨⟨fn,hf,hn,by simp[hb]⟩,fun w hw=>?_⟩
 have hlen':vs.length≤m:=by simpa using hlen
 have:=calls_of_wp (P:=P) (f:=f) (args:=⟨vs⟩) (w:=w) (R:=afw ⟨w,G,M.map (·.b)⟩ K) hf hb (h ⟨w,G,M.map (·.b)⟩ J J _ w
  ⟨hw,by simp;omega,fun k v hk=>by
   obtain⟨j,rfl,hj⟩:=adu vs 0 k v hk
   have hj':=(bZ.1 hj).1
   rw[kY (by simpa using hj')]
   simpa using hj,rfl⟩)
 exact this
section
variable {P:Program} {C:Ctx} {n:Nat} {fr:Fr} {own own':List Own} {G:Gh} {Φ:Act→World→Prop}
variable {dst:Option Nat} {t t' ty':TypeId} {pos:String} {af:Array Edge} {gd:Option (Nat×Bool)} {x y:Operand}
theorem adL{fn:Func}{K:Value→List Own→Gh→Prop}{vs:List Value}(hr:RVs P fr own fn.results.toList vs)(own2 own3:List Own)(hp:own.Perm own2)(hs:own3.Sublist own2)(hk:K (abE vs) own3 G):St C n fr own G (bodyPost P fn (afw C K) .ret):=
 fun a w rl=>⟨rl.df,_,acZ hr rl.fr rl.h,_,own3,G,rfl,(rl.h.perm hp).drop hs,hk⟩
theorem ajF{f:FuncId}{fo:Operand}{args:Array Operand}{tys:Array TypeId}{vs c1 c2:List Value}{M rest:List Own}{K:Value→List Own→Gh→Prop}(ho:opv fr fo=some (.func (.func f) ⟨c1⟩ ⟨c2⟩))(hv:aeM fr args.toList=some vs)
  (hp:own.Perm (M++rest))(hF:FnO P f (c1++vs++c2) M G K)(hd:aaJ n dst=true)(h: ∀v own1 (G':Gh),[GE G G']→K v own1 G'→St C n (put fr dst v) (own1.map (relo (flM M))++rest) G' Φ):
  Ch P C n fr own G ⟨dst, .call ⟨.value fo,args,tys⟩,ty',pos,af,gd⟩ Φ:=by
 intro a w Q rl
 have h2:=agl (P:=P) (dst:=dst) (ty':=ty') (pos:=pos) (af:=af) (gd:=gd) (tys:=tys) (w:=w) hF.able rl.fr ho hv
 simp only[Oper.wp,h2,Oper.upon]
 have hh0:=rl.h.perm hp
 refine(hF.run w hh0.lend).mono ?_
 rintro e w' ⟨v,own1,G',rfl,hh,hK⟩
 exact @h v own1 G' ⟨hh.gle⟩ hK _ _ ((rl.heap (hh0.calledO hh)).put _ hd)
theorem ac3{f:FuncId}{fo:Operand}{args:Array Operand}{tys:Array TypeId}{vs:List Value}{M rest:List Own}{K:Value→List Own→Gh→Prop}(ho:opv fr fo=some (.func (.func f) #[] #[]))(hv:aeM fr args.toList=some vs)
  (hp:own.Perm (M++rest))(hF:FnO P f vs M G K)(hd:aaJ n dst=true)(h: ∀v own1 (G':Gh),[GE G G']→K v own1 G'→St C n (put fr dst v) (own1.map (relo (flM M))++rest) G' Φ):
  Ch P C n fr own G ⟨dst, .call ⟨.value fo,args,tys⟩,ty',pos,af,gd⟩ Φ:=
 ajF (c1:=[]) (c2:=[]) ho hv hp (by simpa using hF) hd h
theorem axO{b:Nat}{cs:List Value}{ty:TypeId}{lo:Bool}(hC:C.mb=[])(h:St C n fr (⟨b,cs,ty,true⟩::own) G Φ):St C n fr (⟨b,cs,ty,lo⟩::own) G Φ:=by
 intro a w rl
 cases lo with
 |true=>exact h a w rl
 |false=>
  have:=(rl.h.hown _ aQ).2.2.2 rfl
  rw[hC] at this;cases this
end
section
variable {P:Program} {C:Ctx} {n:Nat} {fr:Fr} {own own' own1:List Own} {G:Gh} {Φ:Act→World→Prop}
variable {dst:Option Nat} {t t' ty':TypeId} {pos:String} {af:Array Edge} {gd:Option (Nat×Bool)} {x y:Operand} {e s by_:Nat}
theorem aea{v:Value}{b off k:Nat}{cs cs':List Value}{ty:TypeId}{lo:Bool}(hx:opv fr x=some (.pointer (some ⟨b,off,none⟩)))(hy:opv fr y=some v)[hs:TyA P t k][ho:OAt own b cs ty lo]
  (hc:ovw cs off (aad v)=cs')(hu:aeR own b cs ty lo cs' own')(hk:(aad v).length=k)(hl:off+k≤cs.length)(hf:(aad v).all flat=true)(hd:aaJ n dst=true)(h:St C n (put fr dst undef) own' G Φ):
  Ch P C n fr own G ⟨dst, .store t x y,ty',pos,af,gd⟩ Φ:=ai1 hx hy (hc▸hu) hk hl hf hd h
theorem abN{v:Value}{b off:Nat}{cs cs':List Value}{ty:TypeId}{lo:Bool}(hx:opv fr x=some (.pointer (some ⟨b,off,none⟩)))(hy:opv fr y=some v)[hs:TyS P t][ho:OAt own b cs ty lo]
  (hc:cs.set off v=cs')(hu:aeR own b cs ty lo cs' own')(hl:off<cs.length)(hf:flat v=true)(hd:aaJ n dst=true)(h:St C n (put fr dst undef) own' G Φ):
  Ch P C n fr own G ⟨dst, .store t x y,ty',pos,af,gd⟩ Φ:=acf hx hy (hc▸hu) hl hf hd h
theorem ays[hT:ab7 P t e s by_]{ad:Option Addr}{len cap:Nat}(hx:opv fr x=some (.slice ad len cap)):
  Yd P C fr own G ⟨dst, .call ⟨.builtin .cap, #[x], #[t]⟩,ty',pos,af,gd⟩ (.int .i64 cap):=by
 intro a w hf hh
 simp only[execOp,resolve,eK,bL,gM,aac hf hx]
 have h1:(Builtin.cap_ #[t] ty' #[.slice ad len cap]).run P w= .ok (.int .i64 cap) w:=by
  simp only[Builtin.cap_]
  show(underlying t>>=_).run P w=_
  rw[aaa (hT.u w)]
  rfl
 exact aal h1
theorem asv{w:World}[hT:ab7 P t e s by_]{b off l c l2 c2 m:Nat}{ad2:Option Addr}{cs ys:List Value}{ty:TypeId}(hm:Nat.min l2 l=m)
  (hb:w.heap[b]? =some (.cells ⟨cs⟩ ty (0,0)))(hsy:(Builtin.firstCells s m (.slice ad2 l2 c2)).run P w= .ok ⟨ys⟩ w)(hf: ∀v∈ys,flat v=true)(hl:off+ys.length≤cs.length):
  (Builtin.copy_ #[t,t'] ty' #[.slice (some ⟨b,off,none⟩) l c, .slice ad2 l2 c2]).run P w=
   .ok (.int .i64 m) (abh w b (.cells ⟨ovw cs off ys⟩ ty (0,0))):=by
 obtain⟨i,hi,his,hib⟩:=hT.info
 subst his
 have hst:=abz (P:=P) ys w off 0 cs hf hb (by omega)
 rw[dQ] at hst
 subst hm
 simp[Builtin.copy_,run_underlying hT.un,sizeOf,typeInfo,hi,Builtin.lenOf,hsy,hst]
 rfl
theorem aoC[hT:ab7 P t e s by_]{b off l c l2 c2 m:Nat}{ad2:Option Addr}{cs ys:List Value}{ty:TypeId}{lo:Bool}(hx:opv fr x=some (.slice (some ⟨b,off,none⟩) l c))(hy:opv fr y=some (.slice ad2 l2 c2))
  (hm:Nat.min l2 l=m)(hsy:Src P C own G s m (.slice ad2 l2 c2) ys)(hf: ∀v∈ys,flat v=true)(hl:off+ys.length≤cs.length)(hu:aeR own b cs ty lo (ovw cs off ys) own')(hd:aaJ n dst=true)
  (h:St C n (put fr dst (.int .i64 m)) own' G Φ):Ch P C n fr own G ⟨dst, .call ⟨.builtin .copy, #[x,y], #[t,t']⟩,ty',pos,af,gd⟩ Φ:=by
 intro a w Q rl
 have hb:=(rl.h.hown _ (hu.spec rl.h.nd).1).1
 refine aa6 (v:= .int .i64 m) (w':=abh w b (.cells ⟨ovw cs off ys⟩ ty (0,0))) ?_ (h _ _ ((rl.heap (rl.h.store hu)).put _ hd))
 simp only[execOp,resolve,eK,bL,gM,aac rl.fr hx,aac rl.fr hy]
 exact aal (asv hm hb (hsy w rl.h) hf hl)
theorem aeB[hT:ab7 P t e s by_][hN:TyN P t']{b len cap m cap2:Nat}{ad2:Option Addr}{cs ys:List Value}{lo:Bool}
  (hx:opv fr x=some (.slice (some ⟨b,0,none⟩) len cap))(hy:opv fr y=some (.slice ad2 m cap2))(hu:aeR own b cs e lo (ovw cs (len*s) ys) own')(hcs:cs.length=cap*s)
  (hsy:Src P C own G s m (.slice ad2 m cap2) ys)(hys:ys.length=m*s)(hf: ∀v∈ys,flat v=true)(hneed:len+m≤cap)(hd:aaJ n dst=true)
  (h:St C n (put fr dst (.slice (some ⟨b,0,none⟩) (len+m) cap)) own' G Φ):
  Ch P C n fr own G ⟨dst, .call ⟨.builtin .append, #[x,y], #[t,t']⟩,ty',pos,af,gd⟩ Φ:=by
 intro a w Q rl
 have hb:=(rl.h.hown _ (hu.spec rl.h.nd).1).1
 refine aa6 (v:= .slice (some ⟨b,0,none⟩) (len+m) cap) (w':=abh w b (.cells ⟨ovw cs (len*s) ys⟩ e (0,0))) ?_ (h _ _ ((rl.heap (rl.h.store hu)).put _ hd))
 simp only[execOp,resolve,eK,bL,gM,aac rl.fr hx,aac rl.fr hy]
 exact aal (acO hb hcs (hsy w rl.h) hys hf hneed)
theorem aff[hT:ab7 P t e s by_][hN:TyN P t']{z:Value}[hz:TyZ P e z]{b len cap m cap2:Nat}{ad2:Option Addr}{xs ys rest:List Value}{lo:Bool}
  (hx:opv fr x=some (.slice (some ⟨b,0,none⟩) len cap))(hy:opv fr y=some (.slice ad2 m cap2))(hr:ahB own ⟨b,xs++rest,e,lo⟩ own1)(hxs:xs.length=len*s)(hcap:xs.length+rest.length=cap*s)(hlc:len≤cap)
  (hsy:Src P C own G s m (.slice ad2 m cap2) ys)(hys:ys.length=m*s)(hf: ∀v∈ys,flat v=true)
  (hby:0<by_)(hb:(len+m)*by_≤140737488355328)(hzs:(aad z).length=s)(hd:aaJ n dst=true)
  (h: ∀b lo' cap' rest',len+m≤cap'→rest'.length+(len+m)*s=cap'*s→St C n (put fr dst (.slice (some ⟨b,0,none⟩) (len+m) cap')) (⟨b,xs++ys++rest',e,lo'⟩::own1) G Φ):
  Ch P C n fr own G ⟨dst, .call ⟨.builtin .append, #[x,y], #[t,t']⟩,ty',pos,af,gd⟩ Φ:=by
 intro a w Q rl
 have hp:=rl.h.perm hr.perm
 have hblk:=(hp.hown _ aQ).1
 simp only[] at hblk
 by_cases hneed:len+m≤cap
 ·have hcs:(xs++rest).length=cap*s:=by simp;omega
  have hrun:=acO (P:=P) (t:=t) (t':=t') (ty':=ty') (w:=w) (len:=len) hblk hcs (hsy w rl.h) hys hf hneed
  have hle:len*s+m*s≤cap*s:=by rw[←bN];exact aM _ hneed
  have hov:ovw (xs++rest) (len*s) ys=xs++ys++rest.drop (m*s):=by
   rw[abZ _ _ _ (by rw[hys];omega),←hxs]
   simp[hys,kV]
  refine aa6 (v:= .slice (some ⟨b,0,none⟩) (len+m) cap) (w':=abh w b (.cells ⟨ovw (xs++rest) (len*s) ys⟩ e (0,0))) ?_ ?_
  ·simp only[execOp,resolve,eK,bL,gM,aac rl.fr hx,aac rl.fr hy]
   exact aal hrun
  ·rw[hov]
   refine h b lo cap (rest.drop (m*s)) hneed ?_ _ _ ((rl.heap (hp.store (.hd ..))).put _ hd)
   rw[fU,bN]
   omega
 ·have hx':Src P C own G s len (.slice (some ⟨b,0,none⟩) len cap) xs:=fun w' hw'=>by
   have hb':=(((hw'.perm hr.perm).hown _ aQ).1)
   refine acH hb' ?_
   rw[abo _ _ _ (by simp;omega),←hxs]
   simp
  have hcap':len+m≤grownCap w (len+m) cap e:=by unfold grownCap;simp only[Question.cut];omega
  have hrun:=acU (P:=P) (t:=t) (t':=t') (ty':=ty') (w:=w) (w':=w) (hx' _ rl.h.drew) (hsy _ rl.h.drew) (by omega) hby hb
  refine aa6 (v:= .slice (some ⟨w.heap.size,0,none⟩) (len+m) (grownCap w (len+m) cap e)) (w':=w.drew.alloc (.cells ⟨xs++ys++aaT z (grownCap w (len+m) cap e-(len+m))⟩ e)) ?_ ?_
  ·simp only[execOp,resolve,eK,bL,gM,aac rl.fr hx,aac rl.fr hy]
   exact aal hrun
  ·refine h w.heap.size _ _ _ hcap' ?_ _ _ ((rl.heap (((hp.drew).drop (oT _ _)).alloc _ _)).put _ hd)
   rw[abe,hzs,←bN]
   congr 1
   omega
theorem alp{f:FuncId}{fn:Func}{tS tR:TypeId}(hf:P.funcs[f]? =some fn)(hname:(fn.name== "runtime.NumGoroutine")=false)(hb:fn.body.isNone=true)(hn:Extern.findNext fn=none)
  (he:Extern.find fn=some (Extern.SlicesOverlaps.overlaps #[tS,tS] #[tR]))[hT:ab7 P tS e s by_]{args:Array Operand}{tys:Array TypeId}{fo:Operand}
  {b1 b2 o1 o2 l1 l2 c1 c2:Nat}{cs1 cs2:List Value}{t1 t2:TypeId}{lo1 lo2:Bool}(ho:opv fr fo=some (.func (.func f) #[] #[]))
  (hv:aeM fr args.toList=some [.slice (some ⟨b1,o1,none⟩) l1 c1, .slice (some ⟨b2,o2,none⟩) l2 c2])[h1:OAt own b1 cs1 t1 lo1][h2:OAt own b2 cs2 t2 lo2](hne:b1≠b2)(hc2:cs2≠[]):
  Yd P C fr own G ⟨dst, .call ⟨.value fo,args,tys⟩,ty',pos,af,gd⟩ (.bool false):=by
 intro a w hfr hh
 have e1:=(hh.hown _ h1.mem).1
 have e2:=(hh.hown _ h2.mem).1
 have ev:args.map a.eval=⟨[.slice (some ⟨b1,o1,none⟩) l1 c1, .slice (some ⟨b2,o2,none⟩) l2 c2]⟩:=by apply Array.ext';simpa using aho hfr hv
 simp only[] at e1 e2
 have hrun:=Lib.run_overlaps_apart (P:=P) w tS tR e hT.un s hT.siz ⟨b1,o1,none⟩ ⟨b2,o2,none⟩ l1 c1 l2 c2 hne t1 t2 cs1.length cs2.length
  (by simp[World.shape?,e1]) (by simp[World.shape?,e2]) (by simpa using hc2) (by simp[World.frozen?,e1]) (by simp[World.frozen?,e1])
 simp only[execOp,resolve,aac hfr ho,ev,Deferred.ofValue]
 show(invoke (.fn (.func f) #[]) _).run P w=_
 simp only[invoke]
 have h3:=run_callFunc_extern (P:=P) hf hname hb hn he
 rw[h3]
 simp[hrun,Result.andThen]
end
instance ain.cons2 (l m:List Own) (o:Own) [h:ain l m]:ain (o::l) (o::m):=⟨h.s.cons_cons o⟩
theorem dr0{P:Program}{C:Ctx}{n:Nat}{fr:Fr}{own own0:List Own}{G:Gh}{ops:Array Oper}{Q:Exit→Act→World→Prop}{b:Nat}{cs:List Value}{ty:TypeId}{lo:Bool}(fin:Nat→Bool)(π:List (Nat×Bool)){id:Nat}(hm:P.follows .mixedOrders=true)(_hr:ahB own ⟨b,cs,ty,lo⟩ own0)(ho:(acW ops fin π (Array.replicate ops.size false)&&Nat.ble π.length ops.size)=true)
  (h:St C n fr own G (dwL P ops (ab4 Q) (HS C own0 G) fin π)):St C n fr own G ((Code.region id ops true).wp P Q):=by
 simp only[bK] at ho
 intro a w rl
 exact wp_mono (wp_region_any hm (aen _ _ _ _ (abK (fun _ _ _ _ _ h=>h) π _ a _ ho.1 (h a _ (rl.heap rl.h.drew)) _ (by simpa using ho.2)))) ab4.imp
/-! ### rows of values of several cells -/
def aaf(vs:List Value):List Value:=(vs.map aad).flatten
theorem aam{s:Nat}: ∀(vs:List Value),(∀v∈vs,(aad v).length=s)→(aaf vs).length=vs.length*s
 |[],_=>by simp[aaf]
 |v::vs,h=>by
  have h1:=aam vs (fun u hu=>h u (aZ _ hu))
  have h2:=h v aQ
  unfold aaf at*
  simp only[bL,jX,aU,bY,h1,h2,fK]
  omega
theorem aa2(us vs:List Value):aaf (us++vs)=aaf us++aaf vs:=by simp[aaf]
theorem acT(v:Value):aaf [v]=aad v:=by simp[aaf]
theorem aem{s:Nat}: ∀(vs:List Value) (i:Nat),(∀v∈vs,(aad v).length=s)→i≤vs.length→(aaf vs).take (i*s)=aaf (vs.take i)
 |vs,0,_,_=>by simp[aaf]
 |[],i+1,_,h=>by simp at h
 |v::vs,i+1,h,hi=>by
  have h1:=aem vs i (fun u hu=>h u (aZ _ hu)) (by simpa using hi)
  have h2:=h v aQ
  unfold aaf at*
  simp only[bL,jX,lY]
  rw[List.take_append,h2,aR (by rw[h2,fK];omega),fK,kS,h1]
theorem aer{s:Nat}: ∀(vs:List Value) (i:Nat),(∀v∈vs,(aad v).length=s)→i≤vs.length→(aaf vs).drop (i*s)=aaf (vs.drop i)
 |vs,0,_,_=>by simp
 |[],i+1,_,h=>by simp at h
 |v::vs,i+1,h,hi=>by
  have h1:=aer vs i (fun u hu=>h u (aZ _ hu)) (by simpa using hi)
  have h2:=h v aQ
  unfold aaf at*
  simp only[bL,jX,qW]
  rw[kV,h2,lN (by rw[h2,fK];omega),fK,kS,h1,gN]
theorem afJ{s:Nat}{vs rest:List Value}(h: ∀v∈vs,(aad v).length=s){i:Nat}(hi:i<vs.length):aaR (aaf vs++rest) (i*s) s=some (aad vs[i]):=by
 have hl:=aam vs h
 have hle:i*s+s≤vs.length*s:=by rw[←fK];exact aM _ hi
 rw[abo _ _ _ (by simp only[aU];omega)]
 congr 1
 rw[gS (by omega),aer vs i h (by omega),bT hi]
 have h2:=h vs[i] (fM hi)
 rw[show(vs[i]::vs.drop (i+1))=[vs[i]]++vs.drop (i+1) from rfl,aa2,acT,cY,cM (by omega),aR (by omega)]
theorem adW.of_flat{G:Gh}{b c s:Nat}{vs rest:List Value}(h: ∀v∈vs,(aad v).length=s)(hg:G b=some (aaf vs++rest))(hc:vs.length≤c):adW G s ⟨some ⟨b,0,none⟩,vs.length,c⟩ vs:=
 ⟨rfl,hc, .inr ⟨b,0,_,rfl,hg,fun i hi=>by rw[cN];exact afJ h hi⟩⟩
section
variable {P:Program} {C:Ctx} {n:Nat} {fr:Fr} {own own':List Own} {G:Gh} {Φ:Act→World→Prop}
variable {dst:Option Nat} {ty':TypeId} {pos:String} {af:Array Edge} {gd:Option (Nat×Bool)} {x y:Operand} {tys:Array TypeId}
theorem drS{ops:Array Oper}{Q:Exit→Act→World→Prop}(own0:List Own)(fin:Nat→Bool)(π:List (Nat×Bool)){id:Nat}(hm:P.follows .mixedOrders=true)(ho:(acW ops fin π (Array.replicate ops.size false)&&Nat.ble π.length ops.size)=true)
  (h:St C n fr own G (dwL P ops (ab4 Q) (HS C own0 G) fin π)):St C n fr own G ((Code.region id ops true).wp P Q):=by
 simp only[bK] at ho
 intro a w rl
 exact wp_mono (wp_region_any hm (aen _ _ _ _ (abK (fun _ _ _ _ _ h=>h) π _ a _ ho.1 (h a _ (rl.heap rl.h.drew)) _ (by simpa using ho.2)))) ab4.imp
end
section
variable {P:Program} {ops:Array Oper} {Q:Exit→Act→World→Prop} {S:World→Prop} {fin:Nat→Bool} {π₂:List (Nat×Bool)}
def without(l:List Nat)(k:Nat):List Nat:=l.filter fun j=>!Nat.beq j k
theorem afT{l:List Nat}{k:Nat}(h:k∈l):(without l k).length<l.length:=by
 unfold without
 rw[List.length_filter_lt_length_iff_exists]
 exact⟨k,h,by simp⟩
def afa(ops:Array Oper)(fin:Nat→Bool)(π₂:List (Nat×Bool)):Nat→List Nat→List (Nat×Bool)→Array Bool→Bool
 |0,_,_,_=>false
 |_+1,[],[],listed=>acW ops fin π₂ listed
 |n+1,k::ks,[],listed=>!(Region.ready .any ops listed).isEmpty&&(Region.ready .any ops listed).all (fun j=>(k::ks).contains j)&&(k::ks).all fun j=>afa ops fin π₂ n (without (k::ks) j) [] (listed.setIfInBounds j true)
 |n+1,ks,(i,true)::r,listed=>ahQ ops fin listed i&&afa ops fin π₂ n ks r (listed.setIfInBounds i true)
 |n+1,ks,(i,false)::r,listed=>!(Region.ready .any ops listed).isEmpty&&(Region.ready .any ops listed).all (fun j=>Nat.beq j i||ks.contains j)&&afa ops fin π₂ n ks r (listed.setIfInBounds i true)&&ks.all fun j=>afa ops fin π₂ n (without ks j) ((i,false)::r) (listed.setIfInBounds j true)
def dwG(P:Program)(ops:Array Oper)(Q:Exit→Act→World→Prop)(S:World→Prop)(fin:Nat→Bool)(π₂:List (Nat×Bool)):List Nat→List (Nat×Bool)→Act→World→Prop
 |[],[],a,w=>dwL P ops Q S fin π₂ a w
 |k::ks,[],a,w=> ∀j,(h:j∈k::ks)→wpOp P ops Q j (fun a' w'=>(fin j=true∨S w')∧dwG P ops Q S fin π₂ (without (k::ks) j) [] a' w') a w
 |ks,(i,true)::r,a,w=> ∃o v,ops[i]? =some o∧S w∧YieldsIf P ops S o v a∧dwG P ops Q S fin π₂ ks r (a.put o.dst v) w
 |ks,(i,false)::r,a,w=>wpOp P ops Q i (fun a' w'=>(fin i=true∨S w')∧dwG P ops Q S fin π₂ ks r a' w') a w∧
   ∀j,(h:j∈ks)→wpOp P ops Q j (fun a' w'=>(fin j=true∨S w')∧dwG P ops Q S fin π₂ (without ks j) ((i,false)::r) a' w') a w
termination_by ks π=>ks.length+π.length
decreasing_by
 all_goals (first|(have:=afT h;simp only[bY,eY] at*;omega)|(simp only[bY];omega))
end
structure FD where
 k:Nat
 d:Nat
 t:TypeId
 z:Value
abbrev Fs:=Nat→Option Nat
def fFs:List FD→Fs→Fr
 |[],_=>[]
 |f::r,fs=>fF f.d (fs f.k)++fFs r fs
def fOs:List FD→Fs→List Own
 |[],_=>[]
 |f::r,fs=>fO f.t f.z (fs f.k)++fOs r fs
def azS(fd:List FD)(fs:Fs):List Nat:=(fd.filter fun f=>(fs f.k).isNone).map (·.k)
def aCv(fs:Fs)(k b:Nat):Fs:=fun j=>if j=k then some b else fs j
structure aB0 (P:Program) (ops:Array Oper) (n:Nat) (fd:List FD):Prop where
 op: ∀f∈fd,∃ty' pos af,ops[f.k]? =some ⟨some f.d, .alloc f.t,ty',pos,af,none⟩∧aaJ n (some f.d)=true
 z: ∀f∈fd,TyZ P f.t f.z
 nd:(fd.map (·.k)).Nodup
 dd: ∀f∈fd,∀g∈fd,f.d=g.d→f.k=g.k
section
variable {P:Program} {C:Ctx} {n:Nat} {fr:Fr} {own own0:List Own} {G G0:Gh} {ops:Array Oper} {Q:Exit→Act→World→Prop} {fin:Nat→Bool} {π π₂:List (Nat×Bool)} {fd:List FD}
def dwH(P:Program)(ops:Array Oper)(Q:Exit→Act→World→Prop)(S:World→Prop)(fin:Nat→Bool)(π₂:List (Nat×Bool))(fd:List FD)(fs:Fs)(π:List (Nat×Bool)):Act→World→Prop:=dwG P ops Q S fin π₂ (azS fd fs) π
end
def Buf(s:Nat)(ty:TypeId)(x:SV)(vs:List Value)(B:List Own):Prop:=
 (vs=[]∧x=⟨none,0,0⟩∧B=[])∨
 ∃b rest lo,x=⟨some ⟨b,0,none⟩,vs.length,x.c⟩∧B=[⟨b,aaf vs++rest,ty,lo⟩]∧(aaf vs).length=vs.length*s∧(aaf vs).length+rest.length=x.c*s∧vs.length≤x.c
theorem Buf.nil(s:Nat)(ty:TypeId):Buf s ty ⟨none,0,0⟩ [] []:= .inl ⟨rfl,rfl,rfl⟩
theorem Buf.relo{s:Nat}{ty:TypeId}{x:SV}{vs:List Value}{B:List Own}(h:Buf s ty x vs B)(fl:Nat→Bool):Buf s ty x vs (B.map (Go.Sx.relo fl)):=by
 rcases h with⟨h1,h2,h3⟩|⟨b,rest,lo,h1,h2,h3,h4,h5⟩
 ·exact .inl ⟨h1,h2,by rw[h3];rfl⟩
 ·exact .inr ⟨b,rest,fl b,h1,by rw[h2];rfl,h3,h4,h5⟩
theorem Buf.asB{s:Nat}{ty:TypeId}{x:SV}{vs:List Value}{B:List Own}(h:Buf s ty x vs B):Buf s ty x vs (asB B):=by
 rcases h with⟨h1,h2,h3⟩|⟨b,rest,lo,h1,h2,h3,h4,h5⟩
 ·exact .inl ⟨h1,h2,by rw[h3];rfl⟩
 ·exact .inr ⟨b,rest,false,h1,by rw[h2];rfl,h3,h4,h5⟩
theorem Buf.len{s:Nat}{ty:TypeId}{x:SV}{vs:List Value}{B:List Own}(h:Buf s ty x vs B):x.n=vs.length:=by
 rcases h with⟨h1,h2,h3⟩|⟨b,rest,lo,h1,h2,h3,h4,h5⟩
 ·rw[h2,h1];rfl
 ·rw[h1]
theorem apV{M:List Own}{m:Own}(h:m∈M)(hl:m.lo=false):flM M m.b=false:=by
 refine List.all_eq_false.2 ⟨m,h,?_⟩
 simp[hl]
theorem afb{M:List Own}(b:Nat)(h: ∀m∈M,m.lo=true):flM M b=true:=by
 refine fY.2 fun m hm=>?_
 simp[h m hm]
section
variable {P:Program} {C:Ctx} {n:Nat} {fr:Fr} {own own':List Own} {G:Gh} {Φ:Act→World→Prop}
variable {dst:Option Nat} {t t' ty':TypeId} {pos:String} {af:Array Edge} {gd:Option (Nat×Bool)} {x y:Operand} {e s by_:Nat}
theorem aiC[hT:ab7 P t e s by_][hN:TyN P t']{z:Value}[hz:TyZ P e z]{w:SV}{vs:List Value}{v:Value}{B:List Own}(L:List Own){ad2:Option Addr}{cap2:Nat}
  (ho:own=L++B)(hB:Buf s e w vs B)(hx:opv fr x=some (.slice w.a w.n w.c))(hy:opv fr y=some (.slice ad2 1 cap2))
  (hsy:Src P C own G s 1 (.slice ad2 1 cap2) (aad v))(hv:(aad v).length=s)(hf: ∀c∈aad v,flat c=true)
  (hby:0<by_)(hb:(vs.length+1)*by_≤140737488355328)(hzs:(aad z).length=s)(hd:aaJ n dst=true)
  (h: ∀w' B',Buf s e w' (vs++[v]) B'→St C n (put fr dst (.slice w'.a w'.n w'.c)) (L++B') G Φ):
  Ch P C n fr own G ⟨dst, .call ⟨.builtin .append, #[x,y], #[t,t']⟩,ty',pos,af,gd⟩ Φ:=by
 subst ho
 rcases hB with⟨h1,h2,h3⟩|⟨b,rest,lo,h1,h2,h3,h4,h5⟩
 ·subst h1 h2 h3
  rw[gV] at hsy⊢
  refine abU (z:=z) (xs:=[]) (ys:=aad v) hx hy (adb) hsy (by show 0<0+1;omega) hby (by simpa using hb) hd (fun b cap' hc=>?_)
  refine aiz (L++[⟨b,[]++aad v++aaT z (cap'-(0+1)),e,true⟩]) ?_ (h ⟨some ⟨b,0,none⟩,1,cap'⟩ _ (.inr ⟨b,aaT z (cap'-(0+1)),true,rfl,?_,?_,?_,by simpa using hc⟩))
  ·exact(jV (l₁:=[_]) (l₂:=L))
  ·simp[aaf]
  ·simp[aaf,hv]
  ·simp only[gN,acT,hv,abe,hzs]
   obtain⟨c,rfl⟩: ∃c,cap'=c+1:=⟨cap'-1,by have:0+1≤cap':=hc;omega⟩
   rw[show c+1-(0+1)=c by omega,fK,iZ]
 ·have hwc:w.a=some ⟨b,0,none⟩∧w.n=vs.length:=by rw[h1];exact⟨rfl,rfl⟩
  rw[hwc.1,hwc.2] at hx
  subst h2
  have hsub:ahB (L++[⟨b,aaf vs++rest,e,lo⟩]) ⟨b,aaf vs++rest,e,lo⟩ L:=by
   clear hsy h
   induction L with
   |nil=>exact .hd ..
   |cons a l ih=>exact .tl _ _ _ _ ih
  refine aff (z:=z) (xs:=aaf vs) (ys:=aad v) (rest:=rest) hx hy hsub h3 h4 h5 hsy (by rw[hv,kJ]) hf hby hb hzs hd (fun b' lo' cap' rest' hc hr=>?_)
  refine aiz (L++[⟨b',aaf vs++aad v++rest',e,lo'⟩]) ?_ (h ⟨some ⟨b',0,none⟩,vs.length+1,cap'⟩ _ (.inr ⟨b',rest',lo',by simp,?_,?_,?_,by simpa using hc⟩))
  ·exact(jV (l₁:=[_]) (l₂:=L))
  ·rw[aa2,acT]
  ·rw[aa2,acT,aU,h3,hv,aU,pK,fK]
  ·rw[aa2,acT,aU,h3,hv]
   rw[fK] at hr
   show vs.length*s+s+rest'.length=cap'*s
   omega
end
instance ain.nil (l:List Own):ain [] l:=⟨jY l⟩
theorem ak1{C:Ctx}{n:Nat}{fr:Fr}{own own':List Own}{G:Gh}{Φ:Act→World→Prop}(e:own=own')(h:St C n fr own' G Φ):St C n fr own G Φ:=e▸h
theorem afG{P:Program}{C:Ctx}{n:Nat}{fr:Fr}{own:List Own}{G:Gh}{Φ:Act→World→Prop}{dst:Option Nat}{ty':TypeId}{pos:String}{af:Array Edge}{gd:Option (Nat×Bool)}{f:FuncId}{fo:Operand}{args:Array Operand}{tys:Array TypeId}{vs c1 c2:List Value}{M rest:List Own}{K:Value→List Own→Gh→Prop}(ho:opv fr fo=some (.func (.func f) ⟨c1⟩ ⟨c2⟩))(hv:aeM fr args.toList=some vs)
  (hp:own.Perm (M++rest))(hF:FnO P f (c1++vs++c2) M G K)(hd:aaJ n dst=true)
  (h: ∀v own1 (G':Gh) (fl:Nat→Bool),[GE G G']→(∀m∈M,m.lo=false→fl m.b=false)→((∀m∈M,m.lo=true)→ ∀b,fl b=true)→K v own1 G'→St C n (put fr dst v) (own1.map (relo fl)++rest) G' Φ):
  Ch P C n fr own G ⟨dst, .call ⟨.value fo,args,tys⟩,ty',pos,af,gd⟩ Φ:=
 ajF ho hv hp hF hd (fun v own1 G' _ hK=>h v own1 G' (flM M) (fun _ hm hl=>apV hm hl) (fun hl b=>afb b hl) hK)
theorem als{s:Nat}{rest:List Value}{x:Value}{j:Nat}(hj:j<s): ∀(vs:List Value) (n:Nat) (hn:n<vs.length),(∀v∈vs,(aad v).length=s)→
  (aaf vs++rest).set (n*s+j) x=aaf (vs.take n)++((aad vs[n]).set j x++(aaf (vs.drop (n+1))++rest))
 |[],n,hn,_=>by simp at hn
 |v::vs,0,hn,h=>by
  have h2:=h v aQ
  have e:aaf (v::vs)=aad v++aaf vs:=by simp[aaf]
  rw[e,cY,iS,cN,List.set_append_left _ _ (by omega)]
  simp[aaf]
 |v::vs,n+1,hn,h=>by
  have h2:=h v aQ
  have ih:=als (rest:=rest) (x:=x) hj vs n (by simpa using hn) (fun u hu=>h u (aZ _ hu))
  have e:aaf (v::vs)=aad v++aaf vs:=by simp[aaf]
  rw[e,cY,mU _ _ (by rw[h2,fK];omega),h2,show(n+1)*s+j-s=n*s+j by rw[fK];omega,ih]
  simp[aaf]
theorem aki{C:Ctx}{n:Nat}{fr:Fr}{L B:List Own}{G:Gh}{Φ:Act→World→Prop}{s:Nat}{ty:TypeId}{x:SV}{vs:List Value}(hC:C.mb=[])(hB:Buf s ty x vs B)(hvs: ∀v∈vs,(aad v).length=s)
  (h: ∀G':Gh,[GE G G']→adW G' s x vs→St C n fr L G' Φ):St C n fr (L++B) G Φ:=by
 rcases hB with⟨h1,h2,h3⟩|⟨b,rest,lo,h1,h2,h3,h4,h5⟩
 ·subst h1 h2 h3
  rw[gV]
  exact @h G ⟨GLe.refl _⟩ (adW.nil _ _)
 ·subst h2
  refine aiz (⟨b,aaf vs++rest,ty,lo⟩::L) jV ?_
  refine axO hC ?_
  refine abL b (.hd ..) ?_
  intro G' hG hg
  refine @h G' hG ?_
  rw[h1]
  exact adW.of_flat hvs hg.h h5
inductive DV where
 |v (x:Value)
 |ag (l:List DV)
 |tp (l:List DV)
 |pt (l:List DV)
 |op (b:Bool) (l:List DV)
 |sl (l:List DV)
mutual
def Is(G:Gh):DV→Value→Prop
 | .v x,y=>y=x
 | .ag l,y=> ∃m,y= .agg ⟨m⟩∧IsLs G l m
 | .tp l,y=> ∃m,y= .tuple ⟨m⟩∧IsLs G l m
 | .pt l,y=> ∃b m,y= .pointer (some ⟨b,0,none⟩)∧G b=some m∧IsLs G l m
 | .op b l,y=>(b=false∧y= .pointer none)∨(b=true∧ ∃b m,y= .pointer (some ⟨b,0,none⟩)∧G b=some m∧IsLs G l m)
 | .sl l,y=> ∃(s:Nat) (x:SV) (es:List Value),y= .slice x.a x.n x.c∧adW G s x es∧IsLs G l es
def IsLs(G:Gh):List DV→List Value→Prop
 |[],m=>m=[]
 |d::t,m=> ∃y n,m=y::n∧Is G d y∧IsLs G t n
end
mutual
theorem Is.up'{A G:Gh}(h:GLe A G): ∀(d:DV) (y:Value),Is A d y→Is G d y
 | .v x,y,k=>by simp only[Is] at k⊢;exact k
 | .ag l,y,k=>by simp only[Is] at k⊢;obtain⟨m,e,k⟩:=k;exact⟨m,e,IsLs.up' h l m k⟩
 | .tp l,y,k=>by simp only[Is] at k⊢;obtain⟨m,e,k⟩:=k;exact⟨m,e,IsLs.up' h l m k⟩
 | .pt l,y,k=>by simp only[Is] at k⊢;obtain⟨b,m,e,hb,k⟩:=k;exact⟨b,m,e,h _ _ hb,IsLs.up' h l m k⟩
 | .op _ l,y,k=>by simp only[Is] at k⊢;exact k.imp id fun⟨e1,b,m,e,hb,k⟩=>⟨e1,b,m,e,h _ _ hb,IsLs.up' h l m k⟩
 | .sl l,y,k=>by simp only[Is] at k⊢;obtain⟨s,x,es,e,hs,k⟩:=k;exact⟨s,x,es,e,hs.up' h,IsLs.up' h l es k⟩
theorem IsLs.up'{A G:Gh}(h:GLe A G): ∀(d:List DV) (y:List Value),IsLs A d y→IsLs G d y
 |[],y,k=>by simp only[IsLs] at k⊢;exact k
 |d::t,y,k=>by simp only[IsLs] at k⊢;obtain⟨u,n,e,h1,h2⟩:=k;exact⟨u,n,e,Is.up' h d u h1,IsLs.up' h t n h2⟩
end
section
variable {G:Gh}
theorem Is.up{A:Gh}{d:DV}{y:Value}(k:Is A d y)(h:GLe A G):Is G d y:=Is.up' h d y k
theorem IsLs.up{A:Gh}{d:List DV}{y:List Value}(k:IsLs A d y)(h:GLe A G):IsLs G d y:=IsLs.up' h d y k
theorem aaM{x y:Value}:Is G (.v x) y↔y=x:=by simp only[Is]
theorem abl{l:List DV}{y:Value}:Is G (.ag l) y↔ ∃m,y= .agg ⟨m⟩∧IsLs G l m:=by simp only[Is]
theorem acQ{l:List DV}{y:Value}:Is G (.tp l) y↔ ∃m,y= .tuple ⟨m⟩∧IsLs G l m:=by simp only[Is]
theorem ahh{l:List DV}{y:Value}:Is G (.pt l) y↔ ∃b m,y= .pointer (some ⟨b,0,none⟩)∧G b=some m∧IsLs G l m:=by simp only[Is]
theorem alr{b:Bool}{l:List DV}{y:Value}:Is G (.op b l) y↔(b=false∧y= .pointer none)∨(b=true∧Is G (.pt l) y):=by simp only[Is]
theorem acz{l:List DV}{y:Value}:Is G (.sl l) y↔ ∃(s:Nat) (x:SV) (es:List Value),y= .slice x.a x.n x.c∧adW G s x es∧IsLs G l es:=by simp only[Is]
theorem aaz{m:List Value}:IsLs G [] m↔m=[]:=by simp only[IsLs]
theorem aab{d:DV}{t:List DV}{m:List Value}:IsLs G (d::t) m↔ ∃y n,m=y::n∧Is G d y∧IsLs G t n:=by simp only[IsLs]
theorem IsLs.nil:IsLs G [] []:=aaz.2 rfl
theorem IsLs.cons{d:DV}{t:List DV}{y:Value}{n:List Value}(h:Is G d y)(k:IsLs G t n):IsLs G (d::t) (y::n):=aab.2 ⟨y,n,rfl,h,k⟩
theorem IsLs.uncons{d:DV}{t:List DV}{y:Value}{n:List Value}(h:IsLs G (d::t) (y::n)):Is G d y∧IsLs G t n:=by
 obtain⟨u,m,e,h1,h2⟩:=aab.1 h
 cases e
 exact⟨h1,h2⟩
theorem IsLs.len: ∀{d:List DV} {m:List Value},IsLs G d m→m.length=d.length
 |[],m,h=>by rw[aaz.1 h];rfl
 |d::t,m,h=>by
  obtain⟨y,n,rfl,_,h2⟩:=aab.1 h
  simp[h2.len]
theorem IsLs.get: ∀{l:List DV} {m:List Value} {i:Nat} {d:DV},IsLs G l m→l[i]? =some d→ ∃y,m[i]? =some y∧Is G d y
 |[],m,i,d,h,e=>by simp at e
 |x::t,m,0,d,h,e=>by
  obtain⟨y,n,rfl,h1,h2⟩:=aab.1 h
  simp at e;subst e;exact⟨y,rfl,h1⟩
 |x::t,m,i+1,d,h,e=>by
  obtain⟨y,n,rfl,h1,h2⟩:=aab.1 h
  simp at e;simpa using h2.get e
theorem IsLs.app: ∀{a b:List DV} {m n:List Value},IsLs G a m→IsLs G b n→IsLs G (a++b) (m++n)
 |[],b,m,n,h,k=>by rw[aaz.1 h];exact k
 |d::t,b,m,n,h,k=>by
  obtain⟨y,m',rfl,h1,h2⟩:=aab.1 h
  exact .cons h1 (h2.app k)
theorem IsLs.unapp: ∀{a b:List DV} {m:List Value},IsLs G (a++b) m→ ∃x y,m=x++y∧IsLs G a x∧IsLs G b y
 |[],b,m,h=>⟨[],m,rfl, .nil,h⟩
 |d::t,b,m,h=>by
  obtain⟨y,m',rfl,h1,h2⟩:=aab.1 h
  obtain⟨u,v,rfl,h3,h4⟩:=h2.unapp
  exact⟨y::u,v,rfl, .cons h1 h3,h4⟩
theorem IsLs.drop: ∀{a:List DV} {m:List Value} (k:Nat),IsLs G a m→IsLs G (a.drop k) (m.drop k)
 |_,_,0,h=>h
 |[],m,k+1,h=>by rw[aaz.1 h];exact .nil
 |d::t,m,k+1,h=>by
  obtain⟨y,m',rfl,h1,h2⟩:=aab.1 h
  exact h2.drop k
theorem IsLs.take: ∀{a:List DV} {m:List Value} (k:Nat),IsLs G a m→IsLs G (a.take k) (m.take k)
 |_,_,0,h=> .nil
 |[],m,k+1,h=>by rw[aaz.1 h];exact .nil
 |d::t,m,k+1,h=>by
  obtain⟨y,m',rfl,h1,h2⟩:=aab.1 h
  exact .cons h1 (h2.take k)
theorem IsLs.set: ∀{a:List DV} {m:List Value} (k:Nat) {d:DV} {y:Value},IsLs G a m→Is G d y→IsLs G (a.set k d) (m.set k y)
 |[],m,k,d,y,h,_=>by rw[aaz.1 h];exact .nil
 |x::t,m,0,d,y,h,k=>by
  obtain⟨u,m',rfl,h1,h2⟩:=aab.1 h
  exact .cons k h2
 |x::t,m,j+1,d,y,h,k=>by
  obtain⟨u,m',rfl,h1,h2⟩:=aab.1 h
  exact .cons h1 (h2.set j k)
end
def DV.flat:DV→Bool
 | .v x=>Go.Sx.flat x
 | .ag _=>false
 | .tp _=>false
 | .pt _=>true
 | .op .. =>true
 | .sl .. =>true
def DV.okc:DV→Bool
 | .ag l=>l.all DV.flat
 |d=>d.flat
def DV.cells:DV→List DV
 | .ag l=>l
 |d=>[d]
section
variable {G:Gh}
theorem Is.flat{d:DV}{y:Value}(h:Is G d y)(k:d.flat=true):Go.Sx.flat y=true:=by
 cases d with
 |v x=>rw[aaM.1 h];exact k
 |ag l=>cases k
 |tp l=>cases k
 |pt l=>obtain⟨b,m,rfl,_⟩:=ahh.1 h;rfl
 |op b l=>
  rcases alr.1 h with⟨_,rfl⟩|⟨_,h⟩
  ·rfl
  ·obtain⟨b,m,rfl,_⟩:=ahh.1 h;rfl
 |sl l=>obtain⟨s,x,es,rfl,_⟩:=acz.1 h;rfl
theorem acY{y:Value}(h:Go.Sx.flat y=true):aad y=[y]:=by cases y<;>first|rfl|(simp[Go.Sx.flat] at h)
theorem IsLs.flat: ∀{l:List DV} {m:List Value},IsLs G l m→l.all DV.flat=true→ ∀v∈m,Go.Sx.flat v=true
 |[],m,h,_,v,hv=>by rw[aaz.1 h] at hv;cases hv
 |d::t,m,h,k,v,hv=>by
  obtain⟨y,n,rfl,h1,h2⟩:=aab.1 h
  simp only[List.all_cons,bK] at k
  rcases aS.1 hv with rfl|hv
  ·exact h1.flat k.1
  ·exact h2.flat k.2 v hv
theorem Is.cells{d:DV}{y:Value}(h:Is G d y)(k:d.okc=true):IsLs G d.cells (aad y)∧ ∀v∈aad y,Go.Sx.flat v=true:=by
 cases d with
 |ag l=>obtain⟨m,rfl,hm⟩:=abl.1 h;exact⟨hm,hm.flat k⟩
 |_=>
  have:=h.flat k
  rw[acY this]
  exact⟨.cons h .nil,fun v hv=>by rw[aN.1 hv];exact this⟩
end
def takeD:List DV→Nat→Nat→Option (List DV)
 |_,0,0=>some []
 |[],0,_+1=>none
 |v::t,0,k+1=>match takeD t 0 k with|some l=>some (v::l)|none=>none
 |[],_+1,_=>none
 |_::t,off+1,k=>takeD t off k
def ovD:List DV→Nat→List DV→List DV
 |cs,_,[]=>cs
 |cs,off,v::vs=>ovD (cs.set off v) (off+1) vs
section
variable {G:Gh}
theorem IsLs.takeD: ∀{ds:List DV} {m:List Value} {off k:Nat} {l:List DV},IsLs G ds m→takeD ds off k=some l→ ∃n,aaR m off k=some n∧IsLs G l n
 |[],m,0,0,l,h,e=>by rw[aaz.1 h];simp only[Sx.takeD] at e;cases e;exact⟨[],rfl, .nil⟩
 |d::t,m,0,0,l,h,e=>by
  obtain⟨y,m',rfl,h1,h2⟩:=aab.1 h
  simp only[Sx.takeD] at e;cases e;exact⟨[],rfl, .nil⟩
 |[],m,0,k+1,l,h,e=>by simp[Sx.takeD] at e
 |d::t,m,0,k+1,l,h,e=>by
  obtain⟨y,m',rfl,h1,h2⟩:=aab.1 h
  simp only[Sx.takeD] at e
  split at e
  ·rename_i l' hl'
   cases e
   obtain⟨n,hn,hl⟩:=h2.takeD hl'
   exact⟨y::n,by simp only[aaR,hn], .cons h1 hl⟩
  ·cases e
 |[],m,off+1,k,l,h,e=>by simp[Sx.takeD] at e
 |d::t,m,off+1,k,l,h,e=>by
  obtain⟨y,m',rfl,h1,h2⟩:=aab.1 h
  exact h2.takeD (off:=off) (k:=k) e
theorem IsLs.ov: ∀{vs ds:List DV} {n m:List Value} {off:Nat},IsLs G ds m→IsLs G vs n→IsLs G (ovD ds off vs) (ovw m off n)
 |[],ds,n,m,off,h,k=>by rw[aaz.1 k];exact h
 |v::vs,ds,n,m,off,h,k=>by
  obtain⟨y,n',rfl,h1,h2⟩:=aab.1 k
  exact(h.set off h1).ov h2
end
/-! ### frames -/
inductive FV where
 |d (x:DV)
 /-- a pointer to cells that are written no more -/
 |ep (l:List DV)
 /-- a pointer to a cell of element i of a row of the call's own -/
 |be (x:SV) (s i j:Nat)
 /-- a slice without room behind it -/
 |ct (l:List DV)
abbrev FrF:=List (Nat×FV)
def IsF(G:Gh):FV→Value→Prop
 | .d x,y=>Is G x y
 | .ep l,y=> ∃b off cs m,y= .pointer (some ⟨b,off,none⟩)∧G b=some cs∧aaR cs off l.length=some m∧IsLs G l m
 | .be x s i j,y=> ∃b,x.a=some ⟨b,0,none⟩∧y= .pointer (some ⟨b,i*s+j,none⟩)
 | .ct l,y=>(∃a n,y= .slice a n n)∧Is G (.sl l) y
def akO:FrF→Nat→Option FV
 |[],_=>none
 |(k,v)::t,j=>bif Nat.beq k j then some v else akO t j
def aB2(fr:FrF)(dst:Option Nat)(v:FV):FrF:=match dst with|some d=>(d,v)::fr|none=>fr
def ayH(G:Gh):FrF→Fr→Prop
 |[],m=>m=[]
 |(k,f)::t,m=> ∃y n,m=(k,y)::n∧IsF G f y∧ayH G t n
def opF(fr:FrF):Operand→Option FV
 | .tmp k=>akO fr k
 | .const v=>some (.d (.v v))
 | .global g=>some (.d (.v (.pointer (some ⟨g,0,none⟩))))
 | .func f=>some (.d (.v (.func (.func f) #[] #[])))
def toD:FV→Option DV
 | .d (.v (.slice none 0 0))=>some (.sl [])
 | .d d=>some d
 | .ct l=>some (.sl l)
 |_=>none
def opD(fr:FrF)(x:Operand):Option DV:=(opF fr x).bind toD
def aA5(fr:FrF):List Operand→Option (List DV)
 |[]=>some []
 |x::t=>match opD fr x,aA5 fr t with
  |some d,some l=>some (d::l)
  |_,_=>none
/-! ### blocks of the call's own: variables, rows -/
structure acI where
 b:Nat
 cs:List DV
 ty:TypeId
 lo:Bool
structure adj where
 x:SV
 s:Nat
 ty:TypeId
 ds:List DV
 lo:Bool
class aum (own:List acI) (b:Nat) (cs:outParam (List DV)) (ty:outParam TypeId) (lo:outParam Bool):Prop where
 mem:⟨b,cs,ty,lo⟩∈own
instance aum.i1 (b:Nat) (cs:List DV) (ty:TypeId) (lo:Bool) (t:List acI):aum (⟨b,cs,ty,lo⟩::t) b cs ty lo:=⟨aQ⟩
instance aum.i2 (o:acI) (t:List acI) (b:Nat) (cs:List DV) (ty:TypeId) (lo:Bool) [h:aum t b cs ty lo]:aum (o::t) b cs ty lo:=⟨aZ _ h.mem⟩
class ayq (bs:List adj) (x:SV) (s:outParam Nat) (ty:outParam TypeId) (ds:outParam (List DV)) (lo:outParam Bool):Prop where
 mem:⟨x,s,ty,ds,lo⟩∈bs
instance ayq.i1 (x:SV) (s:Nat) (ty:TypeId) (ds:List DV) (lo:Bool) (t:List adj):ayq (⟨x,s,ty,ds,lo⟩::t) x s ty ds lo:=⟨aQ⟩
instance ayq.i2 (o:adj) (t:List adj) (x:SV) (s:Nat) (ty:TypeId) (ds:List DV) (lo:Bool) [h:ayq t x s ty ds lo]:ayq (o::t) x s ty ds lo:=⟨aZ _ h.mem⟩
def as3(G:Gh):List acI→List Own→Prop
 |[],m=>m=[]
 |o::t,m=> ∃cs n,m=⟨o.b,cs,o.ty,o.lo⟩::n∧IsLs G o.cs cs∧as3 G t n
def aaX(G:Gh)(β:adj)(B:List Own):Prop:=
 ∃vs,Buf β.s β.ty β.x vs B∧IsLs G β.ds vs∧(∀v∈vs,(aad v).length=β.s)∧(β.lo=true→ ∀o∈B,o.lo=true)
def as4(G:Gh):List adj→List Own→Prop
 |[],m=>m=[]
 |β::t,m=> ∃B n,m=B++n∧aaX G β B∧as4 G t n
def OB(G:Gh)(own:List acI)(bs:List adj)(ov:List Own):Prop:= ∃a b,ov=a++b∧as3 G own a∧as4 G bs b
structure Sr (GB G:Gh) (fr:FrF) (own:List acI) (bs:List adj) (frv:Fr) (ov:List Own):Prop where
 gb:GLe GB G
 fr:ayH G fr frv
 ob:OB G own bs ov
structure Ext where
 fr:Fr
 own:List Own
def E0:Ext:=⟨[],[]⟩
structure SD (GB:Gh) (C:Ctx) (n:Nat) (E:Ext) (fr:FrF) (own:List acI) (bs:List adj) (Φ:Act→World→Prop):Prop where
 run: ∀G frv ov,Sr GB G fr own bs frv ov→St C n (frv++E.fr) (ov++E.own) G Φ
instance {GB:Gh} {C:Ctx} {n:Nat} {E:Ext} {fr:FrF} {own:List acI} {bs:List adj} {Φ:Act→World→Prop}:CoeFun (SD GB C n E fr own bs Φ) (fun _=> ∀G frv ov,Sr GB G fr own bs frv ov→St C n (frv++E.fr) (ov++E.own) G Φ):=⟨SD.run⟩
def YD(P:Program)(GB:Gh)(C:Ctx)(fr:FrF)(own:List acI)(bs:List adj)(o:Oper)(f:FV):Prop:=
 ∀G frv ov,Sr GB G fr own bs frv ov→ ∃y,IsF G f y∧ ∀G',GLe G G'→Yd P C frv ov G' o y
def CD(P:Program)(GB:Gh)(C:Ctx)(n:Nat)(E:Ext)(fr:FrF)(own:List acI)(bs:List adj)(o:Oper)(Φ:Act→World→Prop):Prop:=
 ∀G frv ov,Sr GB G fr own bs frv ov→Ch P C n (frv++E.fr) (ov++E.own) G o Φ
def TD(P:Program)(GB:Gh)(C:Ctx)(n:Nat)(fr:FrF)(own:List acI)(bs:List adj)(o:Oper)(fr':FrF)(own':List acI)(bs':List adj):Prop:=
 ∀(GB':Gh) (E:Ext) (Φ:Act→World→Prop),GLe GB GB'→SD GB' C n E fr' own' bs' Φ→CD P GB' C n E fr own bs o Φ
def TF(P:Program)(GB:Gh)(C:Ctx)(n:Nat)(fr:FrF)(own:List acI)(bs:List adj)(o:Oper)(ι:Type)(fr':ι→FrF)(own':ι→List acI)(bs':ι→List adj):Prop:=
 ∀(GB':Gh) (E:Ext) (Φ:Act→World→Prop),GLe GB GB'→(∀x,SD GB' C n E (fr' x) (own' x) (bs' x) Φ)→CD P GB' C n E fr own bs o Φ
section
variable {P:Program} {GB:Gh} {C:Ctx} {n:Nat} {E:Ext} {fr fr':FrF} {own own':List acI} {bs bs':List adj} {ops:Array Oper} {Q:Exit→Act→World→Prop} {r:List Oper} {Φ:Act→World→Prop}
/-! ### code -/
def aCB(P:Program)(y:Code)(Q:Exit→Act→World→Prop):Exit→Act→World→Prop:=Exit.then (y.wp P Q) Q
/-! ### another spelling of the state -/
def aB4(fr' fr:FrF):Prop:= ∀e∈fr',akO fr e.1=some e.2
/-! ### loops, and where ways meet again -/
def aA0(GB:Gh)(C:Ctx)(n:Nat){X:Type}(F:X→FrF)(O:X→List acI)(B:X→List adj)(I:X→Prop)(μ:X→Nat)(m:Nat)(a:Act)(w:World):Prop:=
 ∃x G frv ov,I x∧μ x<m∧Sr GB G (F x) (O x) (B x) frv ov∧Rel C n frv ov G a w
def AtD(GB:Gh)(C:Ctx)(n:Nat){X:Type}(F:X→FrF)(O:X→List acI)(B:X→List adj)(I:X→Prop)(a:Act)(w:World):Prop:=
 ∃x G frv ov,I x∧Sr GB G (F x) (O x) (B x) frv ov∧Rel C n frv ov G a w
/-! ### calls and results -/
def PF(GB:Gh)(P:Program)(f:FuncId)(ds:List DV)(r:DV):Prop:=
 ∀G vs,GLe GB G→IsLs G ds vs→Fn P f vs G (fun v G'=>Is G' r v)
def PM(GB:Gh)(P:Program)(f:FuncId)(ds:List DV)(b:Nat)(ty:TypeId)(cs:List DV)(r:DV)(cs':List DV):Prop:=
 ∀G vs m lo,GLe GB G→IsLs G ds vs→IsLs G cs m→FnM P f vs [⟨b,m,ty,lo⟩] G (fun v css G'=>Is G' r v∧ ∃m',css=[m']∧IsLs G' cs' m')
def axs:Nat→List DV→FrF
 |_,[]=>[]
 |i,v::t=>(i, .d v)::axs (i+1) t
inductive RVD (P:Program) (fr:FrF) (own:List acI):List ResultVar→List DV→Prop
 |nil:RVD P fr own [] []
 |tmp {t:Nat} {v:DV} {rs:List ResultVar} {vs:List DV} (h:(akO fr t).bind toD=some v) (k:RVD P fr own rs vs):RVD P fr own (.tmp t::rs) (v::vs)
 |agg {a b k:Nat} {t:TypeId} {cs l:List DV} {ty:TypeId} {lo:Bool} {rs:List ResultVar} {vs:List DV} (h:akO fr a=some (.d (.v (.pointer (some ⟨b,0,none⟩))))) (ho:aum own b cs ty lo) (ht:TyA P t k) (hl:takeD cs 0 k=some l) (h2:RVD P fr own rs vs):
   RVD P fr own (.cell a t::rs) (.ag l::vs)
 |sc {a b:Nat} {t:TypeId} {cs:List DV} {v:DV} {ty:TypeId} {lo:Bool} {rs:List ResultVar} {vs:List DV} (h:akO fr a=some (.d (.v (.pointer (some ⟨b,0,none⟩))))) (ho:aum own b cs ty lo) (ht:TyS P t) (hl:cs[0]? =some v) (h2:RVD P fr own rs vs):
   RVD P fr own (.cell a t::rs) (v::vs)
def ahX:List DV→DV
 |[d]=>d
 |l=> .tp l
theorem akZ{G:Gh}{ds:List DV}{vs:List Value}(h:IsLs G ds vs):Is G (ahX ds) (abE vs):=by
 match ds,h with
 |[],h=>rw[aaz.1 h];exact acQ.2 ⟨[],rfl, .nil⟩
 |[d],h=>
  obtain⟨y,m,rfl,h1,h2⟩:=aab.1 h
  rw[aaz.1 h2]
  exact h1
 |a::b::t,h=>
  obtain⟨y,m,rfl,h1,h2⟩:=aab.1 h
  obtain⟨z,m',rfl,h3,h4⟩:=aab.1 h2
  exact acQ.2 ⟨_,rfl,h⟩
end
theorem ae2{cs l:List Value}{o k:Nat}(h:aaR cs o k=some l):l.length=k:=(abk _ _ _ _ h).1
theorem agn: ∀{cs m:List Value} {o k:Nat},aaR cs o k=some m→ ∀{d:Nat},d≤k→aaR cs (o+d) (k-d)=some (m.drop d)
 |cs,m,o,k,h,0,_=>by simpa using h
 |[],m,0,0,h,d+1,hd=>by omega
 |v::t,m,0,0,h,d+1,hd=>by omega
 |[],m,0,k+1,h,d+1,hd=>by simp[aaR] at h
 |v::t,m,0,k+1,h,d+1,hd=>by
  simp only[aaR] at h
  split at h
  ·rename_i l hl
   cases h
   have:=agn hl (d:=d) (by omega)
   rw[cN] at this
   rw[cN,Nat.add_sub_add_right,qW]
   exact this
  ·cases h
 |[],m,o+1,k,h,d+1,hd=>by simp[aaR] at h
 |v::t,m,o+1,k,h,d+1,hd=>by
  simp only[aaR] at h
  have:=agn h (d:=d+1) hd
  rw[show o+1+(d+1)=(o+(d+1))+1 by omega]
  exact this
theorem ag4: ∀{cs m:List Value} {o k:Nat},aaR cs o k=some m→ ∀{j:Nat},j≤k→aaR cs o j=some (m.take j)
 |cs,m,0,k,h,0,_=>by cases cs<;>rfl
 |[],m,0,0,h,j+1,hd=>by omega
 |v::t,m,0,0,h,j+1,hd=>by omega
 |[],m,0,k+1,h,j+1,hd=>by simp[aaR] at h
 |v::t,m,0,k+1,h,j+1,hd=>by
  simp only[aaR] at h
  split at h
  ·rename_i l hl
   cases h
   have:=ag4 hl (j:=j) (by omega)
   simp[aaR,this]
  ·cases h
 |[],m,o+1,k,h,j,hd=>by simp[aaR] at h
 |v::t,m,o+1,k,h,j,hd=>by
  simp only[aaR] at h⊢
  exact ag4 h hd
theorem afh{m l:List Value}{j k:Nat}(h:aaR m j k=some l):j+k≤m.length∧l=(m.drop j).take k:=by
 obtain⟨h1,h2⟩:=abk _ _ _ _ h
 have hle:j≤m.length:=by
  clear h1 h2
  induction m generalizing j with
  |nil=>cases j with
   |zero=>exact bQ _
   |succ j=>simp[aaR] at h
  |cons v t ih=>cases j with
   |zero=>exact cX _
   |succ j=>have:=ih (j:=j) h;simp;omega
 have hlen:j+k≤m.length:=by
  rcases dZ k with h0|h0
  ·omega
  ·have h3:=h2 (k-1) (by omega)
   rw[aJ (by omega:k-1<l.length)] at h3
   have:=(bZ.1 h3).1
   omega
 rw[abo _ _ _ hlen] at h
 cases h
 exact⟨hlen,rfl⟩
theorem aj8{cs m l:List Value}{o s j k:Nat}(h:aaR cs o s=some m)(hm:aaR m j k=some l):aaR cs (o+j) k=some l:=by
 obtain⟨h1,rfl⟩:=afh hm
 have hl:=ae2 h
 have h2:=agn h (d:=j) (by omega)
 exact ag4 h2 (j:=k) (by omega)
theorem aqs{cs:List Value}{o:Nat}{v:Value}:aaR cs o 1=some [v]↔cs[o]? =some v:=by
 constructor
 ·intro h
  obtain⟨_,h2⟩:=abk _ _ _ _ h
  simpa using h2 0 (by omega)
 ·intro h
  obtain⟨h1,h2⟩:=bZ.1 h
  rw[abo _ _ _ (by omega),bT h1,lY,h2]
  rfl
theorem af9{m l:List Value}{j k i:Nat}(h:aaR m j k=some l)(hi:i<k):m[j+i]? =l[i]? :=(abk _ _ _ _ h).2 i hi
/-! ### lenses -/
inductive au9:List acI→Nat→List DV→TypeId→Bool→List DV→List acI→Prop
 |hd (b:Nat) (cs cs':List DV) (ty:TypeId) (lo:Bool) (t:List acI):au9 (⟨b,cs,ty,lo⟩::t) b cs ty lo cs' (⟨b,cs',ty,lo⟩::t)
 |tl (o:acI) (t t':List acI) (b:Nat) (cs cs':List DV) (ty:TypeId) (lo:Bool) (h:au9 t b cs ty lo cs' t'):au9 (o::t) b cs ty lo cs' (o::t')
inductive avm:List acI→Nat→List DV→TypeId→Bool→List acI→Prop
 |hd (b:Nat) (cs:List DV) (ty:TypeId) (lo:Bool) (t:List acI):avm (⟨b,cs,ty,lo⟩::t) b cs ty lo t
 |tl (o:acI) (t t':List acI) (b:Nat) (cs:List DV) (ty:TypeId) (lo:Bool) (h:avm t b cs ty lo t'):avm (o::t) b cs ty lo (o::t')
inductive au0:List adj→adj→List adj→Prop
 |hd (β:adj) (t:List adj):au0 (β::t) β t
 |tl (o:adj) (t t':List adj) (β:adj) (h:au0 t β t'):au0 (o::t) β (o::t')
section
variable {P:Program} {GB:Gh} {C:Ctx} {n:Nat} {E:Ext} {fr fr':FrF} {own own':List acI} {bs bs':List adj} {ops:Array Oper} {Q:Exit→Act→World→Prop} {r:List Oper} {Φ:Act→World→Prop}
variable {dst:Option Nat} {t t' ty':TypeId} {pos:String} {af:Array Edge} {gd:Option (Nat×Bool)} {x y z:Operand} {e s by_:Nat}
/-! loads -/
theorem aaX.elem{G:Gh}{β:adj}{B:List Own}(h:aaX G β B){i:Nat}{d:DV}(hi:β.ds[i]? =some d)(hd:d.okc=true):
  ∃b m rest lo l,β.x.a=some ⟨b,0,none⟩∧B=[⟨b,m++rest,β.ty,lo⟩]∧aaR (m++rest) (i*β.s) β.s=some l∧IsLs G d.cells l:=by
 obtain⟨vs,hB,hv,hs,_⟩:=h
 obtain⟨v,h1,h2⟩:=hv.get hi
 rcases hB with⟨e,_,_⟩|⟨b,rest,lo,h3,h4,h5,h6,h7⟩
 ·rw[e] at h1;simp at h1
 ·obtain⟨h8,h9⟩:=bZ.1 h1
  refine⟨b,aaf vs,rest,lo,aad v,by rw[h3],h4,?_,(h2.cells hd).1⟩
  have:=afJ (rest:=rest) hs h8
  rw[h9] at this
  exact this
/-! structs, tuples -/
def aBg(fr:FrF)(offs:List (Nat×Nat)):List DV→List (Nat×Operand)→Option (List DV)
 |cs,[]=>some cs
 |cs,(i,x)::r=>match offs[i]?,opD fr x with
  |some (off,k),some d=>bif d.okc&&(Nat.beq d.cells.length k&&Nat.ble (off+k) cs.length) then aBg fr offs (ovD cs off d.cells) r else none
  |_,_=>none
class aCi (P:Program) (t:TypeId) (z:outParam Value) (cs:outParam (List DV)):Prop where
 tz:TyZ P t z
 iz:IsLs (fun _=>none) cs (aad z)
/-! slices -/
theorem IsLs.all{G:Gh}: ∀{l:List DV} {m:List Value},IsLs G l m→ ∀v∈m,∃d∈l,Is G d v
 |[],m,h,v,hv=>by rw[aaz.1 h] at hv;cases hv
 |d::t,m,h,v,hv=>by
  obtain⟨y,n,rfl,h1,h2⟩:=aab.1 h
  rcases aS.1 hv with rfl|hv
  ·exact⟨d,aQ,h1⟩
  ·obtain⟨d',hd,h3⟩:=h2.all v hv
   exact⟨d',aZ _ hd,h3⟩
theorem adW.sub{G:Gh}{s:Nat}{x:SV}{es:List Value}(h:adW G s x es)(lo hi mx:Nat)(h1:lo≤hi)(h2:hi≤es.length)(h3:hi≤mx)(_h4:mx≤x.c):
  adW G s ⟨if mx=lo then x.a else x.a.map (·.add (lo*s)),hi-lo,mx-lo⟩ ((es.take hi).drop lo):=by
 refine⟨by simp;omega,by simp only[];omega,?_⟩
 rcases h.mem with h0|⟨b,off,cs,ha,hg,hc⟩
 ·left;simp[h0]
 ·by_cases he:hi=lo
  ·left;simp[he]
  ·right
   refine⟨b,off+lo*s,cs,?_,hg,fun i hi'=>?_⟩
   ·simp only[]
    rw[if_neg (by omega),ha]
    simp[ace]
   ·simp only[fU,cW] at hi'
    have:=hc (lo+i) (by omega)
    rw[iW,←bN,this]
    simp
def aef(s:Nat)(l:List DV):Prop:= ∀d∈l,d.okc=true∧d.cells.length=s
theorem ad5{G:Gh}{l:List DV}{s' s:Nat}{w:SV}{es:List Value}(hsl:adW G s' w es)(hl:IsLs G l es)(ho:aef s l):es=[]∨s'=s:=by
 rcases hsl.mem with h|⟨b,off,cs,ha,hg,hcs⟩
 ·exact .inl h
 ·cases es with
  |nil=>exact .inl rfl
  |cons v t=>
   right
   have h1:=hcs 0 (by simp)
   have h2:=ae2 h1
   obtain⟨d,hd,h3⟩:=hl.all v aQ
   obtain⟨h4,h5⟩:=ho d hd
   have:=(h3.cells h4).1.len
   simp only[mJ] at h2
   omega
end
section
variable {P:Program} {GB:Gh} {C:Ctx} {n:Nat} {E:Ext} {fr:FrF} {own:List acI} {bs:List adj} {ops:Array Oper} {Q:Exit→Act→World→Prop} {r:List Oper} {dst:Option Nat} {ty':TypeId} {pos:String} {af:Array Edge} {x:Operand}
end
end Go.Sx
end
