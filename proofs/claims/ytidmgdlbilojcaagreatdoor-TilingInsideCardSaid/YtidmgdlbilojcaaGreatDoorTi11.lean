import Derived.Test.YtidmgdlbilojcaaGreatDoorTi10
set_option linter.unusedSimpArgs false
set_option maxHeartbeats 1000000
set_option maxRecDepth 100000
set_option linter.unusedVariables false
section
namespace Go.Sx
open Go
theorem abH(l:LnQ)(p:PtQ):l.value p=(l.a:Rat)*p.x+(l.b:Rat)*p.y+(l.c:Rat):=rfl
theorem aaI(l:LnQ)(p:PtQ):l.rev.value p= -l.value p:=by
 rw[abH,abH]
 have h1:((l.rev.a:Int):Rat)= -(l.a:Rat):=(agl l.a).symm
 have h2:((l.rev.b:Int):Rat)= -(l.b:Rat):=(agl l.b).symm
 have h3:((l.rev.c:Int):Rat)= -(l.c:Rat):=(agl l.c).symm
 rw[h1,h2,h3];grind
def abn(q p:PtQ)(e:Rat):PtQ:=⟨q.x+e*(p.x-q.x),q.y+e*(p.y-q.y)⟩
theorem acU(l:LnQ)(q p:PtQ)(e:Rat):l.value (abn q p e)=l.value q+e*(l.value p-l.value q):=by
 simp only[abH,abn];grind
def act(q u:PtQ)(e:Rat):PtQ:=⟨q.x+e*u.x,q.y+e*u.y⟩
theorem abc(l:LnQ)(q u:PtQ)(e:Rat):l.value (act q u e)=l.value q+e*l.nor.dot u:=by
 simp only[abH,act,LnQ.nor,PtQ.dot];grind
theorem aab{a b:Rat}(ha:0<a)(hb:0<b):0<a*b:=Rat.mul_pos ha hb
theorem aac{a b:Rat}(ha:0≤a)(hb:0≤b):0≤a*b:=oV ha hb
theorem abu(a:Rat):0≤a*a:=by
 by_cases h:0≤a
 ·exact aac h h
 ·have:=aac (a:= -a) (b:= -a) (by grind) (by grind)
  grind
theorem aai{s k:Rat}(hk:0<k):0<s*k↔0<s:=by
 constructor
 ·intro h
  by_cases hs:0<s
  ·exact hs
  ·have:=aac (a:= -s) (b:=k) (by grind) (by grind)
   grind
 ·intro h;exact aab h hk
theorem aam{s k:Rat}(hk:0<k):0≤s*k↔0≤s:=by
 constructor
 ·intro h
  by_cases hs:0≤s
  ·exact hs
  ·have:=aab (a:= -s) (b:=k) (by grind) hk
   grind
 ·intro h;exact aac h (by grind)
theorem ago{A B u v:Rat}(h0:0≤A)(h1:0≤A+v*B)(hu:0≤u)(huv:u≤v):0≤A+u*B:=by
 by_cases hB:0≤B
 ·have:=aac hu hB;grind
 ·have:=aac (a:=v-u) (b:= -B) (by grind) (by grind)
  grind
def LnQ.Ne(l:LnQ):Prop:= ¬(l.a=0∧l.b=0)
theorem LnQ.ok.ne{l:LnQ}(h:l.ok):l.Ne:=h.1
theorem afZ{l:LnQ}(h:l.Ne):0<l.nor.dot l.nor:=by
 show 0<(l.a:Rat)*l.a+(l.b:Rat)*l.b
 have h1:=abu (l.a:Rat)
 have h2:=abu (l.b:Rat)
 by_cases ha:l.a=0
 ·have hb:l.b≠0:=fun hb=>h ⟨ha,hb⟩
  have hb':(l.b:Rat)≠0:=fun e=>hb (dQ.1 e)
  have:(l.b:Rat)*l.b≠0:=by grind
  grind
 ·have ha':(l.a:Rat)≠0:=fun e=>ha (dQ.1 e)
  have:(l.a:Rat)*l.a≠0:=by grind
  grind
theorem an0{l:LnQ}(h:l.Ne): ∃q:Rat,l.nor.dot l.nor*q= -(l.c:Rat)∧l.base=⟨(l.a:Rat)*q,(l.b:Rat)*q⟩:=by
 refine⟨-(l.c:Rat)/l.nor.dot l.nor,?_,rfl⟩
 have:=afZ h
 grind
theorem acR(l m:LnQ)(t:Rat):m.value (l.at t)=l.cutC m+t*l.cutK m:=by
 simp only[LnQ.cutC,LnQ.cutK,abH,LnQ.at,PtQ.add,PtQ.scale,LnQ.dir,LnQ.nor,PtQ.dot];grind
theorem acF{l:LnQ}(h:l.Ne)(t:Rat):l.value (l.at t)=0:=by
 obtain⟨q,h1,h2⟩:=an0 h
 simp only[abH,LnQ.at,h2,PtQ.add,PtQ.scale,LnQ.dir]
 simp only[LnQ.nor,PtQ.dot] at h1
 grind
theorem asz{l:LnQ}(h:l.Ne){p:PtQ}(hp:l.value p=0): ∃t,p=l.at t:=by
 obtain⟨q,h1,h2⟩:=an0 h
 have hn:=afZ h
 obtain⟨x,y⟩:=p
 rw[abH] at hp
 simp only[LnQ.nor,PtQ.dot] at h1 hn
 refine⟨((l.b:Rat)*x-(l.a:Rat)*y)/((l.a:Rat)*l.a+(l.b:Rat)*l.b),?_⟩
 generalize ht:((l.b:Rat)*x-(l.a:Rat)*y)/((l.a:Rat)*l.a+(l.b:Rat)*l.b)=t
 have ht':((l.a:Rat)*l.a+(l.b:Rat)*l.b)*t=(l.b:Rat)*x-(l.a:Rat)*y:=by grind
 simp only[LnQ.at,h2,PtQ.add,PtQ.scale,LnQ.dir,PtQ.mk.injEq]
 generalize (l.a:Rat)=a at*
 generalize (l.b:Rat)=b at*
 generalize (l.c:Rat)=c at*
 have e1:(a*a+b*b)*(x-(a*q+b*t))=0:=by grind
 have e2:(a*a+b*b)*(y-(b*q+ -a*t))=0:=by grind
 constructor<;>grind
def IvQ.has(v:IvQ)(t:Rat):Prop:=(v.nl=true∨v.lo≤t)∧(v.nh=true∨t≤v.hi)
def IvQ.ins(v:IvQ)(t:Rat):Prop:=(v.nl=true∨v.lo<t)∧(v.nh=true∨t<v.hi)
def IvQ.Pos(v:IvQ):Prop:=v.nl=true∨v.nh=true∨v.lo<v.hi
theorem aoZ(a b:Rat):0≤abg a b↔b≤a:=by
 unfold abg;split
 ·constructor
  ·intro h;exact absurd h (by decide)
  ·intro h;grind
 ·split
  ·constructor
   ·intro _;grind
   ·intro _;decide
  ·constructor
   ·intro _;grind
   ·intro _;decide
theorem agx(v:IvQ):v.empty=false↔v.Pos:=by
 obtain⟨lo,hi,nl,nh⟩:=v
 unfold IvQ.empty IvQ.Pos
 cases nl<;>cases nh<;>simp[aoZ]
 first|exact Rat.not_le|grind
theorem IvQ.ins.has{v:IvQ}{t:Rat}(h:v.ins t):v.has t:=by
 obtain⟨h1,h2⟩:=h
 exact⟨h1.imp id (fun h=>cM h),h2.imp id (fun h=>cM h)⟩
theorem azV:mkRat 1 2=(1:Rat)/2:=by rw[oW];rfl
theorem abr{v:IvQ}(h:v.Pos):v.ins v.sample:=by
 obtain⟨lo,hi,nl,nh⟩:=v
 unfold IvQ.Pos at h
 unfold IvQ.ins IvQ.sample
 rw[azV]
 cases nl<;>cases nh<;>simp at* <;>grind
theorem aqk(v w:IvQ)(t:Rat):(v.meet w).has t↔v.has t∧w.has t:=by
 obtain⟨lo,hi,nl,nh⟩:=v
 obtain⟨lo',hi',nl',nh'⟩:=w
 unfold IvQ.has IvQ.meet
 cases nl<;>cases nh<;>cases nl'<;>cases nh'<;>simp<;>grind
theorem ap2(v w:IvQ)(t:Rat):(v.meet w).ins t↔v.ins t∧w.ins t:=by
 obtain⟨lo,hi,nl,nh⟩:=v
 obtain⟨lo',hi',nl',nh'⟩:=w
 unfold IvQ.ins IvQ.meet
 cases nl<;>cases nh<;>cases nl'<;>cases nh'<;>simp<;>grind
theorem aoD(t:Rat):IvQ.all.has t:=⟨.inl rfl, .inl rfl⟩
theorem aBH(t:Rat):IvQ.all.ins t:=⟨.inl rfl, .inl rfl⟩
theorem agb:IvQ.all.Pos:= .inl rfl
theorem abx(k:Rat):Int.sign k.num=0↔k=0:=by rw[iM,lN]
theorem aly(k:Rat):0<k.num↔0<k:=by
 have h1:0≤k.num↔0≤k:=Rat.num_nonneg
 have h2:k.num=0↔k=0:=lN
 constructor
 ·intro h
  have a:=h1.1 (by omega)
  have b:k≠0:=fun e=>by have:=h2.2 e;omega
  grind
 ·intro h
  have a:=h1.2 (by grind)
  have b:k.num≠0:=fun e=>by have:=h2.1 e;grind
  omega
theorem acN(k:Rat):Int.sign k.num=1↔0<k:=by rw[Int.sign_eq_one_iff_pos,aly]
theorem abW(k:Rat):0<Int.sign k.num↔0<k:=by
 rw[←acN]
 rcases lQ k.num 0 with h|h|h
 ·rw[dT h];decide
 ·rw[h];decide
 ·rw[dS h];decide
theorem ael(k:Rat):Int.sign k.num<0↔k<0:=by
 have h1:=abx k
 have h2:=abW k
 constructor
 ·intro h
  by_cases hk:0<k
  ·have:=h2.2 hk;omega
  ·by_cases h0:k=0
   ·have:=h1.2 h0;omega
   ·grind
 ·intro h
  have a1: ¬Int.sign k.num=0:=fun e=>by have:=h1.1 e;grind
  have a2: ¬0<Int.sign k.num:=fun e=>by have:=h2.1 e;grind
  omega
theorem ahd{l m:LnQ}(v:IvQ)(hk:l.cutK m=0):l.cutV v m=v∧(l.cutB v m=true↔0<l.cutC m):=by
 have h:=(abx (l.cutK m)).2 hk
 unfold LnQ.cutV LnQ.cutB
 rw[if_pos h,if_pos h,decide_eq_true_iff,abW]
 exact⟨rfl,Iff.rfl⟩
theorem anO{l m:LnQ}(v:IvQ)(hk:0<l.cutK m):l.cutV v m=v.meet ⟨-(l.cutC m/l.cutK m),0,false,true⟩∧(l.cutB v m=true↔(l.cutV v m).Pos):=by
 have h0: ¬Int.sign (l.cutK m).num=0:=fun e=>by have:=(abx _).1 e;grind
 have h1:=(acN (l.cutK m)).2 hk
 constructor
 ·unfold LnQ.cutV;rw[if_neg h0,if_pos h1]
 ·unfold LnQ.cutB;rw[if_neg h0,←agx];simp
theorem amR{l m:LnQ}(v:IvQ)(hk:l.cutK m<0):l.cutV v m=v.meet ⟨0, -(l.cutC m/l.cutK m),true,false⟩∧(l.cutB v m=true↔(l.cutV v m).Pos):=by
 have h0: ¬Int.sign (l.cutK m).num=0:=fun e=>by have:=(abx _).1 e;grind
 have h1: ¬Int.sign (l.cutK m).num=1:=fun e=>by have:=(acN _).1 e;grind
 constructor
 ·unfold LnQ.cutV;rw[if_neg h0,if_neg h1]
 ·unfold LnQ.cutB;rw[if_neg h0,←agx];simp
theorem aGj{C K t:Rat}(hk:0<K): -(C/K)≤t↔0≤C+t*K:=by
 have e:C=C/K*K:=by grind
 generalize C/K=d at*
 rw[e,show d*K+t*K=(d+t)*K from by grind,aam hk]
 grind
theorem aEG{C K t:Rat}(hk:0<K): -(C/K)<t↔0<C+t*K:=by
 have e:C=C/K*K:=by grind
 generalize C/K=d at*
 rw[e,show d*K+t*K=(d+t)*K from by grind,aai hk]
 grind
theorem aGJ{C K t:Rat}(hk:K<0):t≤ -(C/K)↔0≤C+t*K:=by
 have e:C=C/K*K:=by grind
 generalize C/K=d at*
 rw[e,show d*K+t*K=(-(d+t))*(-K) from by grind,aam (by grind)]
 grind
theorem aEC{C K t:Rat}(hk:K<0):t< -(C/K)↔0<C+t*K:=by
 have e:C=C/K*K:=by grind
 generalize C/K=d at*
 rw[e,show d*K+t*K=(-(d+t))*(-K) from by grind,aai (by grind)]
 grind
theorem aaR(k:Rat):k=0∨0<k∨k<0:=by grind
theorem alV{l m:LnQ}{v:IvQ}(hb:l.cutB v m=true)(t:Rat):(l.cutV v m).has t↔v.has t∧0≤m.value (l.at t):=by
 rw[acR]
 rcases aaR (l.cutK m) with hk|hk|hk
 ·obtain⟨h1,h2⟩:=ahd v hk
  rw[h1,hk]
  have:=h2.1 hb
  constructor
  ·intro h;exact⟨h,by grind⟩
  ·exact fun h=>h.1
 ·rw[(anO v hk).1,aqk,←aGj hk]
  simp[IvQ.has]
 ·rw[(amR v hk).1,aqk,←aGJ hk]
  simp[IvQ.has]
theorem aty{l m:LnQ}{v:IvQ}(hb:l.cutB v m=true)(t:Rat):(l.cutV v m).ins t↔v.ins t∧0<m.value (l.at t):=by
 rw[acR]
 rcases aaR (l.cutK m) with hk|hk|hk
 ·obtain⟨h1,h2⟩:=ahd v hk
  rw[h1,hk]
  have:=h2.1 hb
  constructor
  ·intro h;exact⟨h,by grind⟩
  ·exact fun h=>h.1
 ·rw[(anO v hk).1,ap2,←aEG hk]
  simp[IvQ.ins]
 ·rw[(amR v hk).1,ap2,←aEC hk]
  simp[IvQ.ins]
theorem ajt{l m:LnQ}{v:IvQ}(hv:v.Pos)(hb:l.cutB v m=true):(l.cutV v m).Pos:=by
 rcases aaR (l.cutK m) with hk|hk|hk
 ·rw[(ahd v hk).1];exact hv
 ·exact(anO v hk).2.1 hb
 ·exact(amR v hk).2.1 hb
theorem atX{l m:LnQ}{v:IvQ}(hv:v.Pos)(hb:l.cutB v m=false){t:Rat}(ht:v.has t):m.value (l.at t)≤0:=by
 rw[acR]
 have hb': ¬l.cutB v m=true:=by rw[hb];decide
 rcases aaR (l.cutK m) with hk|hk|hk
 ·have h2:=(ahd v hk).2
  have: ¬0<l.cutC m:=fun h=>hb' (h2.2 h)
  rw[hk];grind
 ·obtain⟨h1,h2⟩:=anO v hk
  have hn: ¬(l.cutV v m).Pos:=fun h=>hb' (h2.2 h)
  rw[h1] at hn
  have h3:=aEG (C:=l.cutC m) (t:=t) hk
  suffices¬(-(l.cutC m/l.cutK m)<t) by grind
  generalize-(l.cutC m/l.cutK m)=d at*
  obtain⟨lo,hi,nl,nh⟩:=v
  unfold IvQ.Pos IvQ.meet at hn
  unfold IvQ.Pos at hv
  unfold IvQ.has at ht
  cases nl<;>cases nh<;>simp at* <;>grind
 ·obtain⟨h1,h2⟩:=amR v hk
  have hn: ¬(l.cutV v m).Pos:=fun h=>hb' (h2.2 h)
  rw[h1] at hn
  have h3:=aEC (C:=l.cutC m) (t:=t) hk
  suffices¬(t< -(l.cutC m/l.cutK m)) by grind
  generalize-(l.cutC m/l.cutK m)=d at*
  obtain⟨lo,hi,nl,nh⟩:=v
  unfold IvQ.Pos IvQ.meet at hn
  unfold IvQ.Pos at hv
  unfold IvQ.has at ht
  cases nl<;>cases nh<;>simp at* <;>grind
def InD(c:aah)(p:PtQ):Prop:= ∀s∈c,0<s.l.value p
def InC(c:aah)(p:PtQ):Prop:= ∀s∈c,0≤s.l.value p
theorem ahs(l:LnQ): ∀(c:aah) (v w:IvQ),v.Pos→agA l c v=some w→
  w.Pos∧(∀t,w.has t↔v.has t∧InC c (l.at t))∧(∀t,w.ins t↔v.ins t∧InD c (l.at t))
 |[],v,w,hv,h=>by
  obtain rfl:v=w:=by simpa[agA] using h
  exact⟨hv,fun t=>⟨fun h=>⟨h,fun s hs=>absurd hs (by simp)⟩,fun h=>h.1⟩,fun t=>⟨fun h=>⟨h,fun s hs=>absurd hs (by simp)⟩,fun h=>h.1⟩⟩
 |s::c,v,w,hv,h=>by
  rw[agA] at h
  split at h
  ·rename_i hb
   obtain⟨h1,h2,h3⟩:=ahs l c _ w (ajt hv hb) h
   refine⟨h1,fun t=>?_,fun t=>?_⟩
   ·rw[h2,alV hb]
    simp only[InC,dK]
    exact and_assoc
   ·rw[h3,aty hb]
    simp only[InD,dK]
    exact and_assoc
  ·exact absurd h (by simp)
theorem akN(l:LnQ): ∀(c:aah) (v:IvQ),v.Pos→agA l c v=none→ ∀t,v.has t→ ¬InD c (l.at t)
 |[],v,hv,h=>by simp[agA] at h
 |s::c,v,hv,h=>by
  intro t ht hd
  have hd':=dK.1 hd
  rw[agA] at h
  split at h
  ·rename_i hb
   exact akN l c _ (ajt hv hb) h t ((alV hb t).2 ⟨ht,cM hd'.1⟩) hd'.2
  ·rename_i hb
   have:=atX hv (by simpa using hb) ht
   have:=hd'.1
   grind
theorem InD.open: ∀{c:aah} {q:PtQ} (u:PtQ),InD c q→ ∃e:Rat,0<e∧ ∀d,0≤d→d≤e→InD c (act q u d)
 |[],q,u,_=>⟨1,by decide,fun d _ _ s hs=>absurd hs (by simp)⟩
 |s::c,q,u,h=>by
  have h':=dK.1 h
  obtain⟨e,he,hd⟩:=InD.open (c:=c) u h'.2
  have hs:=h'.1
  generalize hk:s.l.nor.dot u=k
  have hf: ∃f:Rat,0<f∧ ∀d,0≤d→d≤f→0<s.l.value q+d*k:=by
   by_cases hk0:0≤k
   ·exact⟨1,by decide,fun d h1 _=>by have:=aac h1 hk0;grind⟩
   ·refine⟨s.l.value q/(2* -k),?_,fun d h1 h2=>?_⟩
    ·have e1:s.l.value q/(2* -k)*(2* -k)=s.l.value q:=by grind
     exact(aai (k:=2* -k) (by grind)).1 (by rw[e1];exact hs)
    ·have e1:s.l.value q/(2* -k)*(2* -k)=s.l.value q:=by grind
     generalize s.l.value q/(2* -k)=f at*
     have:=aac (a:=f-d) (b:= -k) (by grind) (by grind)
     grind
  obtain⟨f,hf0,hf⟩:=hf
  by_cases hef:e≤f
  ·refine⟨e,he,fun d h1 h2=>dK.2 ⟨?_,hd d h1 h2⟩⟩
   rw[abc,hk];exact hf d h1 (by grind)
  ·refine⟨f,hf0,fun d h1 h2=>dK.2 ⟨?_,hd d h1 (by grind)⟩⟩
   rw[abc,hk];exact hf d h1 h2
theorem akQ: ∀{c:aah} {q p:PtQ},InD c q→(∃s∈c,s.l.value p≤0)→
  ∃e:Rat,0≤e∧e≤1∧(∃s∈c,s.l.value p≤0∧s.l.value (abn q p e)=0)∧InC c (abn q p e)
 |[],q,p,_,h=>by obtain⟨s,hs,_⟩:=h;exact absurd hs (by simp)
 |s::c,q,p,h,hex=>by
  have h':=dK.1 h
  have hs:=h'.1
  by_cases hc: ∃s∈c,s.l.value p≤0
  ·obtain⟨e,h0,h1,⟨s1,m1,n1,z1⟩,hC⟩:=akQ h'.2 hc
   by_cases hp:0≤s.l.value (abn q p e)
   ·exact⟨e,h0,h1,⟨s1,aJ _ m1,n1,z1⟩,dK.2 ⟨hp,hC⟩⟩
   ·rw[acU] at hp
    generalize hB:s.l.value p-s.l.value q=B at*
    have hB0:B<0:=by
     by_cases hB0:0≤B
     ·have:=aac h0 hB0;grind
     ·grind
    have e1:s.l.value q/(-B)*(-B)=s.l.value q:=by grind
    generalize hf:s.l.value q/(-B)=f at*
    have f0:0≤f:=(aam (k:= -B) (by grind)).1 (by rw[e1];grind)
    have f1:f≤e:=by
     have:=(aam (s:=e-f) (k:= -B) (by grind)).1 (by grind)
     grind
    have z:s.l.value (abn q p f)=0:=by rw[acU,hB];grind
    have np:s.l.value p≤0:=by
     have:=aac (a:=1-e) (b:= -B) (by grind) (by grind)
     grind
    refine⟨f,f0,by grind,⟨s,aZ,np,z⟩,dK.2 ⟨by rw[z];exact fW,fun s2 m2=>?_⟩⟩
    have a1:=h'.2 s2 m2
    have a2:=hC s2 m2
    rw[acU] at a2⊢
    exact ago (cM a1) a2 f0 f1
  ·have np:s.l.value p≤0:=by
    obtain⟨s1,m1,n1⟩:=hex
    rcases aU.1 m1 with rfl|m1
    ·exact n1
    ·exact absurd ⟨s1,m1,n1⟩ hc
   generalize hB:s.l.value p-s.l.value q=B at*
   have hB0:B<0:=by grind
   have e1:s.l.value q/(-B)*(-B)=s.l.value q:=by grind
   generalize hf:s.l.value q/(-B)=f at*
   have f0:0≤f:=(aam (k:= -B) (by grind)).1 (by rw[e1];grind)
   have f1:f≤1:=by
    have:=(aam (s:=1-f) (k:= -B) (by grind)).1 (by grind)
    grind
   have z:s.l.value (abn q p f)=0:=by rw[acU,hB];grind
   refine⟨f,f0,f1,⟨s,aZ,np,z⟩,dK.2 ⟨by rw[z];exact fW,fun s2 m2=>?_⟩⟩
   have a1:=h'.2 s2 m2
   have a2:0<s2.l.value p:=by
    by_cases h:0<s2.l.value p
    ·exact h
    ·exact absurd ⟨s2,m2,by grind⟩ hc
   rw[acU]
   have:=ago (A:=s2.l.value q) (B:=s2.l.value p-s2.l.value q) (u:=f) (v:=1) (cM a1) (by grind) f0 f1
   exact this
structure aaT (c:aah):Prop where
 ne: ∃p,InD c p
 ok: ∀s∈c,s.l.ok
 edge: ∀s∈c,s.v.Pos∧ ∀t,s.v.has t↔InC c (s.l.at t)
theorem aaT.nil:aaT []:=⟨⟨⟨0,0⟩,fun s hs=>absurd hs (by simp)⟩,fun s hs=>absurd hs (by simp),fun s hs=>absurd hs (by simp)⟩
theorem aa3{c:aah}{m:LnQ}(hne: ∃q,InD c q)(h: ∀p,InD c p→0<m.value p){p:PtQ}(hp:InC c p):0≤m.value p:=by
 obtain⟨q,hq⟩:=hne
 have mq:=h q hq
 by_cases hm:0≤m.value p
 ·exact hm
 ·exfalso
  generalize hB:m.value q-m.value p=B
  have hB0:0<B:=by grind
  have e1: -m.value p/B*B= -m.value p:=by grind
  generalize-m.value p/B=e at*
  have e0:0<e:=(aai hB0).1 (by rw[e1];grind)
  have e2:e≤1:=by
   have:=(aam (s:=1-e) hB0).1 (by grind)
   grind
  have hd:InD c (abn p q e):=fun s hs=>by
   rw[acU]
   have a:=hp s hs
   have b:=hq s hs
   have:=aab e0 b
   have:=aac (a:=1-e) (b:=s.l.value p) (by grind) a
   grind
  have:=h _ hd
  rw[acU,hB,e1] at this
  grind
theorem acM{l:LnQ}{s':FrQ}: ∀{c:aah},s'∈abZ l c↔ ∃s∈c,s.l.cutB s.v l=true∧s'=⟨s.l,s.l.cutV s.v l⟩
 |[]=>by simp[abZ]
 |s::c=>by
  rw[abZ]
  split
  ·rename_i hb
   rw[aU,acM (c:=c)]
   constructor
   ·rintro (rfl|⟨s1,h1,h2⟩)
    ·exact⟨s,aZ,hb,rfl⟩
    ·exact⟨s1,aJ _ h1,h2⟩
   ·rintro ⟨s1,h1,h2,h3⟩
    rcases aU.1 h1 with rfl|h1
    ·exact .inl h3
    ·exact .inr ⟨s1,h1,h2,h3⟩
  ·rename_i hb
   rw[acM (c:=c)]
   constructor
   ·rintro ⟨s1,h1,h2⟩;exact⟨s1,aJ _ h1,h2⟩
   ·rintro ⟨s1,h1,h2,h3⟩
    rcases aU.1 h1 with rfl|h1
    ·exact absurd h2 hb
    ·exact⟨s1,h1,h2,h3⟩
theorem ade{c:aah}{l:LnQ}{v:IvQ}{s:FrQ}:s∈aoM c l v↔s=⟨l,v⟩∨s∈c:=by
 unfold aoM
 generalize bsq (aeu c l) 0 c.length=n
 rw[bZ,aU]
 have h:=jK n c
 constructor
 ·rintro (h1|h1|h1)
  ·exact .inr (dZ h1)
  ·exact .inl h1
  ·exact .inr (gK h1)
 ·rintro (h1|h1)
  ·exact .inr (.inl h1)
  ·rw[←h,bZ] at h1
   rcases h1 with h1|h1
   ·exact .inl h1
   ·exact .inr (.inr h1)
theorem axb{c:aah}{l:LnQ}(hl:l.Ne)(hp:afz c l=none){p:PtQ}(h:InD c p):l.value p≠0:=by
 intro h0
 obtain⟨t,rfl⟩:=asz hl h0
 exact akN l c _ agb hp t (aoD t) h
theorem ahE{c:aah}{l:LnQ}(hl:l.Ne){v:IvQ}(hp:afz c l=some v):(∃q,InD c q∧0<l.value q)∧ ∃q,InD c q∧l.value q<0:=by
 obtain⟨h1,_,h3⟩:=ahs l c _ v agb hp
 have hd:=((h3 v.sample).1 (abr h1)).2
 have h0:=acF hl v.sample
 have hn:=afZ hl
 constructor
 ·obtain⟨e,he,hm⟩:=hd.open l.nor
  refine⟨_,hm e (cM he) fW,?_⟩
  rw[abc,h0]
  have:=aab he hn
  grind
 ·obtain⟨e,he,hm⟩:=hd.open ⟨-l.nor.x, -l.nor.y⟩
  refine⟨_,hm e (cM he) fW,?_⟩
  rw[abc,h0]
  have:=aab he hn
  simp only[PtQ.dot] at this⊢
  grind
theorem avb{c:aah}{l:LnQ}{v:IvQ}(hc:aaT c)(hl:l.ok)(hp:afz c l=some v):
  aaT (aoM (abZ l c) l v)∧ ∀p,InD (aoM (abZ l c) l v) p↔InD c p∧0<l.value p:=by
 obtain⟨⟨q,hq,lq⟩,_⟩:=ahE hl.ne hp
 obtain⟨v1,v2,v3⟩:=ahs l c _ v agb hp
 have hD: ∀p,InD (aoM (abZ l c) l v) p↔InD c p∧0<l.value p:=by
  intro p
  constructor
  ·intro h
   have lp:0<l.value p:=h ⟨l,v⟩ (ade.2 (.inl rfl))
   refine⟨fun s0 hs0=>?_,lp⟩
   by_cases h0:0<s0.l.value p
   ·exact h0
   ·exfalso
    obtain⟨e,e0,e1,⟨s,ms,ns,zs⟩,hC⟩:=akQ (p:=p) hq ⟨s0,hs0,by grind⟩
    obtain⟨t,ht⟩:=asz (hc.ok s ms).ne zs
    rw[ht] at hC
    obtain⟨p1,p2⟩:=hc.edge s ms
    have hh:=(p2 t).2 hC
    have lr:0<l.value (s.l.at t):=by
     rw[←ht,acU]
     by_cases hB:0≤l.value p-l.value q
     ·have:=aac e0 hB;grind
     ·have:=aac (a:=1-e) (b:= -(l.value p-l.value q)) (by grind) (by grind)
      grind
    have hb:s.l.cutB s.v l=true:=by
     cases hb:s.l.cutB s.v l with
     |true=>rfl
     |false=>have:=atX p1 hb hh;grind
    have:=h ⟨s.l,s.l.cutV s.v l⟩ (ade.2 (.inr (acM.2 ⟨s,ms,hb,rfl⟩)))
    simp only at this
    grind
  ·rintro ⟨h1,h2⟩ s hs
   rcases ade.1 hs with rfl|hs
   ·exact h2
   ·obtain⟨s1,m1,_,rfl⟩:=acM.1 hs
    exact h1 s1 m1
 have hne: ∃p,InD (aoM (abZ l c) l v) p:=⟨q,(hD q).2 ⟨hq,lq⟩⟩
 have hC: ∀p,InC (aoM (abZ l c) l v) p↔InC c p∧0≤l.value p:=by
  intro p
  constructor
  ·intro h
   refine⟨fun s hs=>?_,h ⟨l,v⟩ (ade.2 (.inl rfl))⟩
   exact aa3 hne (fun p hp=>((hD p).1 hp).1 s hs) h
  ·rintro ⟨h1,h2⟩ s hs
   rcases ade.1 hs with rfl|hs
   ·exact h2
   ·obtain⟨s1,m1,_,rfl⟩:=acM.1 hs
    exact h1 s1 m1
 refine⟨⟨hne,fun s hs=>?_,fun s hs=>?_⟩,hD⟩
 ·rcases ade.1 hs with rfl|hs
  ·exact hl
  ·obtain⟨s1,m1,_,rfl⟩:=acM.1 hs
   exact hc.ok s1 m1
 ·rcases ade.1 hs with rfl|hs
  ·refine⟨v1,fun t=>?_⟩
   rw[hC]
   simp only
   rw[v2]
   have h0:=acF hl.ne t
   constructor
   ·intro h;exact⟨h.2,by rw[h0];exact fW⟩
   ·intro h;exact⟨aoD t,h.1⟩
  ·obtain⟨s1,m1,hb,rfl⟩:=acM.1 hs
   obtain⟨p1,p2⟩:=hc.edge s1 m1
   refine⟨ajt p1 hb,fun t=>?_⟩
   rw[hC]
   simp only
   rw[alV hb,p2]
theorem InD.seg{c:aah}{q p:PtQ}{e:Rat}(hq:InD c q)(hp:InD c p)(h0:0≤e)(h1:e≤1):InD c (abn q p e):=fun s hs=>by
 rw[acU]
 have a:=hq s hs
 have b:=hp s hs
 by_cases he:e=0
 ·subst he;grind
 ·have:=aab (a:=e) (by grind) b
  have:=aac (a:=1-e) (b:=s.l.value q) (by grind) (by grind)
  grind
theorem al9{v:IvQ}{t:Rat}(h:v.ins t):(∃u,u<t∧v.has u)∧ ∃u,t<u∧v.has u:=by
 obtain⟨lo,hi,nl,nh⟩:=v
 unfold IvQ.ins at h
 unfold IvQ.has
 refine⟨⟨if nl=true then t-1 else lo,?_⟩,⟨if nh=true then t+1 else hi,?_⟩⟩<;>cases nl<;>cases nh<;>simp at* <;>grind
theorem ac3{a b c x y z:Nat}(h1:x*b=a*y)(h2:x*c=a*z)(g:Nat.gcd (Nat.gcd a b) c=1):a∣x:=by
 have e:x=Nat.gcd (Nat.gcd (x*a) (x*b)) (x*c):=by
  rw[Nat.gcd_mul_left,Nat.gcd_mul_left,g,gN]
 rw[e]
 exact Nat.dvd_gcd (Nat.dvd_gcd (Nat.dvd_mul_left ..) (h1▸Nat.dvd_mul_right ..)) (h2▸Nat.dvd_mul_right ..)
theorem avD{a b c x y z:Int}(h1:a*y=b*x)(h2:a*z=c*x)(h3:b*z=c*y)
  (g1:Nat.gcd (Nat.gcd a.natAbs b.natAbs) c.natAbs=1)(g2:Nat.gcd (Nat.gcd x.natAbs y.natAbs) z.natAbs=1):
  (a=x∧b=y∧c=z)∨(a= -x∧b= -y∧c= -z):=by
 have n1:a.natAbs*y.natAbs=b.natAbs*x.natAbs:=by rw[←jW,←jW,h1]
 have n2:a.natAbs*z.natAbs=c.natAbs*x.natAbs:=by rw[←jW,←jW,h2]
 have n3:b.natAbs*z.natAbs=c.natAbs*y.natAbs:=by rw[←jW,←jW,h3]
 generalize ha:a.natAbs=A at*
 generalize hb:b.natAbs=B at*
 generalize hc:c.natAbs=C at*
 generalize hx:x.natAbs=X at*
 generalize hy:y.natAbs=Y at*
 generalize hz:z.natAbs=Z at*
 have gB:Nat.gcd (Nat.gcd B A) C=1:=by rw[iY B A];exact g1
 have gC:Nat.gcd (Nat.gcd C A) B=1:=by rw[Nat.gcd_assoc,iY];exact g1
 have gY:Nat.gcd (Nat.gcd Y X) Z=1:=by rw[iY Y X];exact g2
 have gZ:Nat.gcd (Nat.gcd Z X) Y=1:=by rw[Nat.gcd_assoc,iY];exact g2
 have e1:A=X:=Nat.dvd_antisymm (ac3 (x:=X) (y:=Y) (z:=Z) (by grind) (by grind) g1) (ac3 (x:=A) (y:=B) (z:=C) (by grind) (by grind) g2)
 have e2:B=Y:=Nat.dvd_antisymm (ac3 (x:=Y) (y:=X) (z:=Z) (by grind) (by grind) gB) (ac3 (x:=B) (y:=A) (z:=C) (by grind) (by grind) gY)
 have e3:C=Z:=Nat.dvd_antisymm (ac3 (x:=Z) (y:=X) (z:=Y) (by grind) (by grind) gC) (ac3 (x:=C) (y:=A) (z:=B) (by grind) (by grind) gZ)
 have s1:a=x∨a= -x:=by omega
 have s2:b=y∨b= -y:=by omega
 have s3:c=z∨c= -z:=by omega
 clear ha hb hc hx hy hz n1 n2 n3 g1 g2 gB gC gY gZ e1 e2 e3
 have z1:= @sJ x y
 have z2:= @sJ x z
 have z3:= @sJ y z
 rcases s1 with rfl|rfl<;>rcases s2 with rfl|rfl<;>rcases s3 with rfl|rfl<;>grind
theorem aex{l m:LnQ}(hl:l.ok)(hm:m.ok)(h: ∀t,l.value (m.at t)=0):l=m∨l=m.rev:=by
 have h0:=h 0
 have h1:=h 1
 rw[acR] at h0 h1
 have hC:m.cutC l=0:=by grind
 have hK:m.cutK l=0:=by grind
 obtain⟨q,q1,q2⟩:=an0 hm.ne
 have hn:=afZ hm.ne
 unfold LnQ.cutC at hC
 rw[q2,abH] at hC
 unfold LnQ.cutK at hK
 simp only[LnQ.nor,LnQ.dir,PtQ.dot] at hK q1 hn hC
 obtain⟨a,b,c⟩:=l
 obtain⟨x,y,z⟩:=m
 simp only at*
 have e1:a*y=b*x:=by
  have:((a*y:Int):Rat)=((b*x:Int):Rat):=by rw[cW,cW];grind
  exact nV.1 this
 have e2:a*z=c*x:=by
  have:((a*z:Int):Rat)=((c*x:Int):Rat):=by rw[cW,cW];grind
  exact nV.1 this
 have e3:b*z=c*y:=by
  have:((b*z:Int):Rat)=((c*y:Int):Rat):=by rw[cW,cW];grind
  exact nV.1 this
 rcases avD e1 e2 e3 hl.2 hm.2 with⟨rfl,rfl,rfl⟩|⟨rfl,rfl,rfl⟩
 ·exact .inl rfl
 ·exact .inr rfl
theorem LnQ.ok.rev{l:LnQ}(h:l.ok):l.rev.ok:=by
 obtain⟨h1,h2⟩:=h
 refine⟨?_,?_⟩
 ·simp only[LnQ.rev];omega
 ·simp only[LnQ.rev,jX];exact h2
theorem anA(l:LnQ): ∀c:aah,(∀s∈c,aeq l s≤0∧s.l≠l)→ ¬0<aev l c
 |[],_=>by simp[aev]
 |s::c,h=>by
  have h':=dK.1 h
  unfold aev
  rw[if_neg h'.1.2]
  split
  ·have:=h'.1.1;omega
  ·exact anA l c h'.2
theorem ak8{c:aah}{l:LnQ}(hc:aaT c)(hl:l.ok)(hp:afz c l=none):
  (0<aev l c∧ ∀p,InD c p→0<l.value p)∨(¬0<aev l c∧ ∀p,InD c p→l.value p<0):=by
 have hoff:=fun p (h:InD c p)=>axb hl.ne hp h
 by_cases hq: ∃q,InD c q∧0<l.value q
 ·left
  obtain⟨q,hq,lq⟩:=hq
  have hall: ∀p,InD c p→0<l.value p:=by
   intro p h
   have:=hoff p h
   by_cases h0:0<l.value p
   ·exact h0
   ·exfalso
    have hn:l.value p<0:=by grind
    have e1:l.value q/(l.value q-l.value p)*(l.value q-l.value p)=l.value q:=by grind
    generalize l.value q/(l.value q-l.value p)=e at*
    have f0:0≤e:=(aam (k:=l.value q-l.value p) (by grind)).1 (by grind)
    have f1:e≤1:=by
     have:=(aam (s:=1-e) (k:=l.value q-l.value p) (by grind)).1 (by grind)
     grind
    exact hoff _ (hq.seg h f0 f1) (by rw[acU];grind)
  refine⟨?_,hall⟩
  cases c with
  |nil=>simp[afz,agA] at hp
  |cons s c=>
   obtain⟨p1,p2⟩:=hc.edge s aZ
   have hi:=abr p1
   have hr:=aa3 hc.ne hall ((p2 _).1 hi.has)
   unfold aev
   by_cases h0:aeq l s=0
   ·rw[if_neg (by simpa using h0)]
    have hz:l.value (s.l.at s.v.sample)=0:=(abx _).1 h0
    have hge: ∀t,s.v.has t→0≤l.value (s.l.at t):=fun t ht=>aa3 hc.ne hall ((p2 t).1 ht)
    obtain⟨⟨u1,m1,n1⟩,⟨u2,m2,n2⟩⟩:=al9 hi
    have g1:=hge _ n1
    have g2:=hge _ n2
    rw[acR] at hz g1 g2
    have hK:s.l.cutK l=0:=by
     rcases aaR (s.l.cutK l) with h|h|h
     ·exact h
     ·exfalso
      have:=aab (a:=s.v.sample-u1) (b:=s.l.cutK l) (by grind) h
      grind
     ·exfalso
      have:=aab (a:=u2-s.v.sample) (b:= -s.l.cutK l) (by grind) (by grind)
      grind
    have hz2: ∀t,l.value (s.l.at t)=0:=fun t=>by rw[acR,hK];rw[hK] at hz;grind
    rcases aex hl (hc.ok s aZ) hz2 with h|h
    ·rw[if_pos h.symm];decide
    ·exfalso
     have:=hall q hq
     rw[h,aaI] at this
     have:=hq s aZ
     grind
   ·rw[if_pos h0]
    have hz:l.value (s.l.at s.v.sample)≠0:=fun e=>h0 ((abx _).2 e)
    exact(abW _).2 (by grind)
 ·right
  have hall: ∀p,InD c p→l.value p<0:=fun p h=>by
   have:=hoff p h
   have: ¬0<l.value p:=fun h'=>hq ⟨p,h,h'⟩
   grind
  refine⟨anA l c fun s hs=>?_,hall⟩
  obtain⟨p1,p2⟩:=hc.edge s hs
  have hr:=aa3 (m:=l.rev) hc.ne (fun p h=>by rw[aaI];have:=hall p h;grind) ((p2 _).1 (abr p1).has)
  rw[aaI] at hr
  constructor
  ·have: ¬0<aeq l s:=fun h=>by have:=(abW _).1 h;grind
   omega
  ·rintro rfl
   obtain⟨p,hp⟩:=hc.ne
   have:=hall p hp
   have:=hp s hs
   grind
theorem ad8{c:aah}{l:LnQ}(hc:aaT c)(hl:l.ok):abh c l=true↔ ∃p,InD c p∧0<l.value p:=by
 unfold abh
 cases hp:afz c l with
 |some v=>exact⟨fun _=>(ahE hl.ne hp).1,fun _=>rfl⟩
 |none=>
  simp only[ajc,hp,Option.isSome_none,jQ,if_false,decide_eq_true_iff]
  rcases ak8 hc hl hp with⟨h1,h2⟩|⟨h1,h2⟩
  ·refine⟨fun _=>?_,fun _=>h1⟩
   obtain⟨p,hp⟩:=hc.ne
   exact⟨p,hp,h2 p hp⟩
  ·refine⟨fun h=>absurd h h1,?_⟩
   rintro ⟨p,hp,h⟩
   have:=h2 p hp
   grind
theorem aa0{c:aah}{l:LnQ}(hc:aaT c)(hl:l.ok)(hb:abh c l=true):aaT (aaP c l)∧ ∀p,InD (aaP c l) p↔InD c p∧0<l.value p:=by
 unfold aaP
 cases hp:afz c l with
 |some v=>exact avb hc hl hp
 |none=>
  refine⟨hc,fun p=>?_⟩
  unfold abh at hb
  simp only[hp,ajc,Option.isSome_none,jQ,if_false,decide_eq_true_iff] at hb
  rcases ak8 hc hl hp with⟨h1,h2⟩|⟨h1,h2⟩
  ·exact⟨fun h=>⟨h,h2 p h⟩,fun h=>h.1⟩
  ·exact absurd hb h1
theorem aq3{c:aah}{l:LnQ}(hl:l.ok){p:PtQ}(hp:InD c p)(h0:l.value p=0):(∃q,InD c q∧0<l.value q)∧ ∃q,InD c q∧l.value q<0:=by
 have hn:=afZ hl.ne
 constructor
 ·obtain⟨e,he,hm⟩:=hp.open l.nor
  refine⟨_,hm e (cM he) fW,?_⟩
  rw[abc,h0]
  have:=aab he hn
  grind
 ·obtain⟨e,he,hm⟩:=hp.open ⟨-l.nor.x, -l.nor.y⟩
  refine⟨_,hm e (cM he) fW,?_⟩
  rw[abc,h0]
  have:=aab he hn
  simp only[PtQ.dot] at this⊢
  grind
inductive aIq (c:aah) (l:LnQ):Prop
 |left (h1:abh c l.rev=false) (h: ∀p,InD c p→0<l.value p)
 |right (h1:abh c l.rev=true) (h2:abh c l=false) (h: ∀p,InD c p→l.value p<0)
 |both (h1:abh c l.rev=true) (h2:abh c l=true) (g1:aaT (aaP c l)) (g2:aaT (aaP c l.rev))
   (e1: ∀p,InD (aaP c l) p↔InD c p∧0<l.value p) (e2: ∀p,InD (aaP c l.rev) p↔InD c p∧l.value p<0)
theorem lies{c:aah}{l:LnQ}(hc:aaT c)(hl:l.ok):aIq c l:=by
 have hr:=ad8 hc hl.rev
 have hi:=ad8 hc hl
 cases h1:abh c l.rev with
 |false=>
  refine .left h1 fun p hp=>?_
  have hn: ¬ ∃q,InD c q∧l.value q<0:=by
   rintro ⟨q,a,b⟩
   have:=hr.2 ⟨q,a,by rw[aaI];grind⟩
   rw[h1] at this;exact absurd this (by decide)
  have n1: ¬l.value p<0:=fun h=>hn ⟨p,hp,h⟩
  have n2:l.value p≠0:=fun h=>hn (aq3 hl hp h).2
  grind
 |true=>
  cases h2:abh c l with
  |false=>
   refine .right h1 h2 fun p hp=>?_
   have hn: ¬ ∃q,InD c q∧0<l.value q:=by
    intro h
    have:=hi.2 h
    rw[h2] at this;exact absurd this (by decide)
   have n1: ¬0<l.value p:=fun h=>hn ⟨p,hp,h⟩
   have n2:l.value p≠0:=fun h=>hn (aq3 hl hp h).1
   grind
  |true=>
   obtain⟨g1,e1⟩:=aa0 hc hl h2
   obtain⟨g2,e2⟩:=aa0 hc hl.rev h1
   refine .both h1 h2 g1 g2 e1 fun p=>?_
   rw[e2,aaI]
   constructor<;>rintro ⟨a,b⟩<;>exact⟨a,by grind⟩
theorem Tr.restrict_A{l:LnQ}{e:aah}(X Y:Tr)(h:abh e l.rev=false):(Tr.node l X Y).restrict e=X.restrict e:=by
 rw[Tr.restrict,h];rfl
theorem Tr.restrict_B{l:LnQ}{e:aah}(X Y:Tr)(h:abh e l.rev=true)(h2:abh e l=false):(Tr.node l X Y).restrict e=Y.restrict e:=by
 rw[Tr.restrict,h,h2];rfl
theorem Tr.restrict_C{l:LnQ}{e:aah}(X Y:Tr)(h:abh e l.rev=true)(h2:abh e l=true):(Tr.node l X Y).restrict e=Tr.joinQ l (X.restrict (aaP e l)) (Y.restrict (aaP e l.rev)):=by
 rw[Tr.restrict,h,h2];rfl
def afB:List LnQ→aah→Option aah
 |[],c=>some c
 |l::t,c=>if abh c l then afB t (aaP c l) else none
theorem akI: ∀{ls:List LnQ} {c e:aah},aaT c→(∀l∈ls,l.ok)→afB ls c=some e→aaT e∧ ∀p,InD e p↔InD c p∧ ∀l∈ls,0<l.value p
 |[],c,e,hc,_,h=>by
  obtain rfl:c=e:=by simpa[afB] using h
  exact⟨hc,fun p=>⟨fun h=>⟨h,fun l hl=>absurd hl (by simp)⟩,fun h=>h.1⟩⟩
 |l::t,c,e,hc,hl,h=>by
  have hl':=dK.1 hl
  rw[afB] at h
  split at h
  ·rename_i hb
   obtain⟨g1,g2⟩:=aa0 hc hl'.1 hb
   obtain⟨k1,k2⟩:=akI g1 hl'.2 h
   refine⟨k1,fun p=>?_⟩
   rw[k2,g2,dK,and_assoc]
  ·exact absurd h (by simp)
theorem akp: ∀{ls:List LnQ} {c:aah},aaT c→(∀l∈ls,l.ok)→(∃p,InD c p∧ ∀l∈ls,0<l.value p)→ ∃e,afB ls c=some e
 |[],c,_,_,_=>⟨c,rfl⟩
 |l::t,c,hc,hl,⟨p,h1,h2⟩=>by
  have hl':=dK.1 hl
  have h2':=dK.1 h2
  have hb:=(ad8 hc hl'.1).2 ⟨p,h1,h2'.1⟩
  obtain⟨g1,g2⟩:=aa0 hc hl'.1 hb
  rw[afB,if_pos hb]
  exact akp g1 hl'.2 ⟨p,(g2 p).2 ⟨h1,h2'.1⟩,h2'.2⟩
theorem amW{c:aah}(hc:aaT c){s:FrQ}(hs:s∈c){m:LnQ}(hm:m.ok)(h: ∀p,InD c p→0<m.value p)(hz:m.value (s.l.at s.v.sample)=0):m=s.l:=by
 obtain⟨p1,p2⟩:=hc.edge s hs
 have hi:=abr p1
 have hge: ∀t,s.v.has t→0≤m.value (s.l.at t):=fun t ht=>aa3 hc.ne h ((p2 t).1 ht)
 obtain⟨⟨u1,m1,n1⟩,⟨u2,m2,n2⟩⟩:=al9 hi
 have g1:=hge _ n1
 have g2:=hge _ n2
 rw[acR] at hz g1 g2
 have hK:s.l.cutK m=0:=by
  rcases aaR (s.l.cutK m) with h|h|h
  ·exact h
  ·exfalso
   have:=aab (a:=s.v.sample-u1) (b:=s.l.cutK m) (by grind) h
   grind
  ·exfalso
   have:=aab (a:=u2-s.v.sample) (b:= -s.l.cutK m) (by grind) (by grind)
   grind
 have hz2: ∀t,m.value (s.l.at t)=0:=fun t=>by rw[acR,hK];rw[hK] at hz;grind
 rcases aex hm (hc.ok s hs) hz2 with h'|h'
 ·exact h'
 ·exfalso
  obtain⟨q,hq⟩:=hc.ne
  have:=h q hq
  rw[h',aaI] at this
  have:=hq s hs
  grind
def ach(l:LnQ):List LnQ→IvQ→Option IvQ
 |[],v=>some v
 |m::t,v=>if m=l then ach l t v else if l.cutB v m then ach l t (l.cutV v m) else none
def InL(c:List LnQ)(p:PtQ):Prop:= ∀m∈c,0<m.value p
theorem aep(l:LnQ): ∀(c:List LnQ) (v w:IvQ),v.Pos→ach l c v=some w→
  w.Pos∧(∀t,w.ins t↔v.ins t∧ ∀m∈c,m≠l→0<m.value (l.at t))
 |[],v,w,hv,h=>by
  obtain rfl:v=w:=by simpa[ach] using h
  exact⟨hv,fun t=>⟨fun h=>⟨h,fun s hs=>absurd hs (by simp)⟩,fun h=>h.1⟩⟩
 |m::c,v,w,hv,h=>by
  rw[ach] at h
  split at h
  ·rename_i hm
   obtain⟨h1,h2⟩:=aep l c _ w hv h
   refine⟨h1,fun t=>?_⟩
   rw[h2,dK]
   exact⟨fun h=>⟨h.1,fun h'=>absurd hm h',h.2⟩,fun h=>⟨h.1,h.2.2⟩⟩
  ·rename_i hm
   split at h
   ·rename_i hb
    obtain⟨h1,h2⟩:=aep l c _ w (ajt hv hb) h
    refine⟨h1,fun t=>?_⟩
    rw[h2,aty hb,dK,and_assoc]
    exact⟨fun h=>⟨h.1,fun _=>h.2.1,h.2.2⟩,fun h=>⟨h.1,h.2.1 hm,h.2.2⟩⟩
   ·exact absurd h (by simp)
theorem ahO(l:LnQ): ∀(c:List LnQ) (v:IvQ),v.Pos→ach l c v=none→ ∀t,v.has t→ ¬ ∀m∈c,m≠l→0<m.value (l.at t)
 |[],v,hv,h=>by simp[ach] at h
 |m::c,v,hv,h=>by
  intro t ht hd
  have hd':=dK.1 hd
  rw[ach] at h
  split at h
  ·exact ahO l c _ hv h t ht hd'.2
  ·rename_i hm
   split at h
   ·rename_i hb
    exact ahO l c _ (ajt hv hb) h t ((alV hb t).2 ⟨ht,cM (hd'.1 hm)⟩) hd'.2
   ·rename_i hb
    have:=atX hv (by simpa using hb) ht
    have:=hd'.1 hm
    grind
def acf(c:List LnQ):Bool:=c.isEmpty||c.any (fun l=>(ach l c IvQ.all).isSome)
theorem akO: ∀{ls:List LnQ} {c e:aah},afB ls c=some e→ ∀s∈e,s.l∈ls∨ ∃s'∈c,s'.l=s.l
 |[],c,e,h,s,hs=>by
  obtain rfl:c=e:=by simpa[afB] using h
  exact .inr ⟨s,hs,rfl⟩
 |l::t,c,e,h,s,hs=>by
  rw[afB] at h
  split at h
  ·rcases akO h s hs with h1|⟨s',h1,h2⟩
   ·exact .inl (aJ _ h1)
   ·unfold aaP at h1
    split at h1
    ·rcases ade.1 h1 with rfl|h1
     ·exact .inl (by rw[←h2];exact aZ)
     ·obtain⟨s1,m1,_,rfl⟩:=acM.1 h1
      exact .inr ⟨s1,m1,h2⟩
    ·exact .inr ⟨s',h1,h2⟩
  ·exact absurd h (by simp)
theorem aeP{c:List LnQ}(hok: ∀l∈c,l.ok)(hne: ∃p,InL c p): ∃e,afB c []=some e∧aaT e∧(∀p,InD e p↔InL c p)∧ ∀s∈e,s.l∈c∧(ach s.l c IvQ.all).isSome=true:=by
 obtain⟨p,hp⟩:=hne
 obtain⟨e,he⟩:=akp aaT.nil hok ⟨p,fun s hs=>absurd hs (by simp),hp⟩
 obtain⟨g1,g2⟩:=akI aaT.nil hok he
 have g3: ∀p,InD e p↔InL c p:=fun p=>by
  rw[g2]
  exact⟨fun h=>h.2,fun h=>⟨fun s hs=>absurd hs (by simp),h⟩⟩
 refine⟨e,he,g1,g3,fun s hs=>?_⟩
 have hm:s.l∈c:=by
  rcases akO he s hs with h|⟨_,h,_⟩
  ·exact h
  ·exact absurd h (by simp)
 refine⟨hm,?_⟩
 cases hp:ach s.l c IvQ.all with
 |some w=>rfl
 |none=>
  exfalso
  obtain⟨p1,p2⟩:=g1.edge s hs
  have hC:=(p2 s.v.sample).1 (abr p1).has
  refine ahO s.l c _ agb hp s.v.sample (aoD _) fun m hmc hne=>?_
  have hall: ∀p,InD e p→0<m.value p:=fun p hp=>(g3 p).1 hp m hmc
  have h0:=aa3 g1.ne hall hC
  have h1:m.value (s.l.at s.v.sample)≠0:=fun hz=>hne (amW g1 hs (hok m hmc) hall hz)
  grind
theorem aeB{c:List LnQ}(hok: ∀l∈c,l.ok):acf c=true↔ ∃p,InL c p:=by
 unfold acf
 rw[gM,List.isEmpty_iff,jS]
 constructor
 ·rintro (rfl|⟨l,hl,h⟩)
  ·exact⟨⟨0,0⟩,fun m hm=>absurd hm (by simp)⟩
  ·obtain⟨w,hw⟩:=qV.1 h
   obtain⟨w1,w2⟩:=aep l c _ w agb hw
   have hi:=((w2 w.sample).1 (abr w1)).2
   have h0:=acF (hok l hl).ne w.sample
   have hd:InD ((c.filter (fun m=>decide (m≠l))).map (fun m=>(⟨m,IvQ.all⟩:FrQ))) (l.at w.sample):=by
    intro s hs
    obtain⟨m,hm,rfl⟩:=bJ.1 hs
    rw[kX,decide_eq_true_iff] at hm
    exact hi m hm.1 hm.2
   obtain⟨e,he,ho⟩:=hd.open l.nor
   refine⟨act (l.at w.sample) l.nor e,fun m hm=>?_⟩
   by_cases hml:m=l
   ·subst hml
    rw[abc,h0]
    have:=aab he (afZ (hok m hl).ne)
    grind
   ·exact ho e (cM he) fW ⟨m,IvQ.all⟩ (bJ.2 ⟨m,kX.2 ⟨hm,by simpa using hml⟩,rfl⟩)
 ·intro hne
  obtain⟨e,h1,h2,h3,h4⟩:=aeP hok hne
  cases c with
  |nil=>exact .inl rfl
  |cons l c=>
   right
   cases e with
   |nil=>
    exfalso
    have:=(h3 (l.at 0)).1 (fun s hs=>absurd hs (by simp)) l aZ
    rw[acF (hok l aZ).ne] at this
    exact absurd this (by decide)
   |cons s e=>
    obtain⟨a,b⟩:=h4 s aZ
    exact⟨s.l,a,b⟩
def aed(out:List LnQ)(l:LnQ):Nat:=(out.takeWhile (fun x=>decide (aay x.dir l.dir<0))).length
def acy(out:List LnQ)(l:LnQ):List LnQ:=if out[aed out l]? =some l then out else out.take (aed out l)++l::out.drop (aed out l)
def aec(c:List LnQ):List LnQ→List LnQ→List LnQ
 |[],out=>out
 |l::t,out=>aec c t (if(ach l c IvQ.all).isSome then acy out l else out)
def aa7(c:List LnQ):List LnQ:=aec c c []
theorem afu{out:List LnQ}{l m:LnQ}:m∈acy out l↔m=l∨m∈out:=by
 unfold acy
 split
 ·rename_i h
  exact⟨fun h=> .inr h,fun h'=>h'.elim (fun e=>e▸aS h) id⟩
 ·generalize aed out l=n
  have h:=jK n out
  rw[bZ,aU]
  constructor
  ·rintro (h1|h1|h1)
   ·exact .inr (dZ h1)
   ·exact .inl h1
   ·exact .inr (gK h1)
  ·rintro (h1|h1)
   ·exact .inr (.inl h1)
   ·rw[←h,bZ] at h1
    rcases h1 with h1|h1
    ·exact .inl h1
    ·exact .inr (.inr h1)
theorem akX{c:List LnQ}{m:LnQ}: ∀{t out:List LnQ},m∈aec c t out↔m∈out∨m∈t∧(ach m c IvQ.all).isSome=true
 |[],out=>by simp[aec]
 |l::t,out=>by
  rw[aec,akX]
  split
  ·rename_i h
   rw[afu,aU]
   constructor
   ·rintro ((rfl|h1)|⟨h1,h2⟩)
    ·exact .inr ⟨.inl rfl,h⟩
    ·exact .inl h1
    ·exact .inr ⟨.inr h1,h2⟩
   ·rintro (h1|⟨rfl|h1,h2⟩)
    ·exact .inl (.inr h1)
    ·exact .inl (.inl rfl)
    ·exact .inr ⟨h1,h2⟩
  ·rename_i h
   rw[aU]
   constructor
   ·rintro (h1|⟨h1,h2⟩)
    ·exact .inl h1
    ·exact .inr ⟨.inr h1,h2⟩
   ·rintro (h1|⟨rfl|h1,h2⟩)
    ·exact .inl h1
    ·exact absurd h2 h
    ·exact .inr ⟨h1,h2⟩
theorem abd{c:List LnQ}{m:LnQ}:m∈aa7 c↔m∈c∧(ach m c IvQ.all).isSome=true:=by
 unfold aa7;rw[akX];simp
theorem afn{c:List LnQ}(hok: ∀l∈c,l.ok)(hne: ∃p,InL c p)(p:PtQ):InL (aa7 c) p↔InL c p:=by
 constructor
 ·intro h
  obtain⟨e,h1,h2,h3,h4⟩:=aeP hok hne
  exact(h3 p).1 fun s hs=>h s.l (abd.2 (h4 s hs))
 ·intro h m hm;exact h m (abd.1 hm).1
def ad7(c:List LnQ)(l:LnQ):Int:=if acf (c++[l])&&acf (c++[l.rev]) then 0 else if acf (c++[l]) then 1 else-1
def Tr.restrictL:Tr→List LnQ→Tr
 | .leaf b,_=> .leaf b
 | .node l x y,c=>if ad7 c l=1 then x.restrictL c else if ad7 c l= -1 then y.restrictL c else joinQ l (x.restrictL (aa7 (c++[l]))) (y.restrictL (aa7 (c++[l.rev])))
theorem abL{c:List LnQ}{l:LnQ}{p:PtQ}:InL (c++[l]) p↔InL c p∧0<l.value p:=by
 unfold InL
 rw[rK]
 simp
theorem ab1{c:List LnQ}{l:LnQ}(hok: ∀m∈c,m.ok)(hl:l.ok): ∀m∈c++[l],m.ok:=by
 rw[rK]
 exact⟨hok,by simpa using hl⟩
theorem Tr.restrictL_eq: ∀(t:Tr) (c:List LnQ) (d:aah),t.all LnQ.ok→(∀l∈c,l.ok)→aaT d→(∀p,InD d p↔InL c p)→t.restrictL c=t.restrict d
 | .leaf b,c,d,_,_,_,_=>rfl
 | .node l x y,c,d,h,hc,hd,he=>by
  obtain⟨hl,hx,hy⟩:=h
  have i1:=aeB (ab1 hc hl)
  have i2:=aeB (ab1 hc hl.rev)
  obtain⟨p0,hp0⟩:=hd.ne
  rcases lies hd hl with⟨a1,a⟩|⟨a1,a2,a⟩|⟨a1,a2,ag1,ag2,ae1,ae2⟩
  ·have b1:acf (c++[l])=true:=i1.2 ⟨p0,abL.2 ⟨(he p0).1 hp0,a p0 hp0⟩⟩
   have b2:acf (c++[l.rev])=false:=by
    rw[←mS,i2]
    rintro ⟨p,hp⟩
    have hp:=abL.1 hp
    have:=a p ((he p).2 hp.1)
    rw[aaI] at hp
    grind
   rw[Tr.restrict_A _ _ a1,Tr.restrictL,ad7,b1,b2]
   exact x.restrictL_eq c d hx hc hd he
  ·have b2:acf (c++[l.rev])=true:=i2.2 ⟨p0,abL.2 ⟨(he p0).1 hp0,by rw[aaI];have:=a p0 hp0;grind⟩⟩
   have b1:acf (c++[l])=false:=by
    rw[←mS,i1]
    rintro ⟨p,hp⟩
    have hp:=abL.1 hp
    have:=a p ((he p).2 hp.1)
    grind
   rw[Tr.restrict_B _ _ a1 a2,Tr.restrictL,ad7,b1,b2]
   exact y.restrictL_eq c d hy hc hd he
  ·have n1: ∃p,InL (c++[l]) p:=by
    obtain⟨p,hp⟩:=ag1.ne
    exact⟨p,abL.2 ⟨(he p).1 ((ae1 p).1 hp).1,((ae1 p).1 hp).2⟩⟩
   have n2: ∃p,InL (c++[l.rev]) p:=by
    obtain⟨p,hp⟩:=ag2.ne
    exact⟨p,abL.2 ⟨(he p).1 ((ae2 p).1 hp).1,by rw[aaI];have:=((ae2 p).1 hp).2;grind⟩⟩
   rw[Tr.restrict_C _ _ a1 a2,Tr.restrictL,ad7,i1.2 n1,i2.2 n2]
   have k1:=x.restrictL_eq (aa7 (c++[l])) (aaP d l) hx (fun m hm=>ab1 hc hl m (abd.1 hm).1) ag1 fun p=>by
    rw[afn (ab1 hc hl) n1,ae1,abL,he]
   have k2:=y.restrictL_eq (aa7 (c++[l.rev])) (aaP d l.rev) hy (fun m hm=>ab1 hc hl.rev m (abd.1 hm).1) ag2 fun p=>by
    rw[afn (ab1 hc hl.rev) n2,ae2,abL,he,aaI]
    constructor<;>rintro ⟨a,b⟩<;>exact⟨a,by grind⟩
   rw[k1,k2]
   rfl
end Go.Sx
end
section
namespace Go.Sx
open Go Go.Proofs Tryz
variable {GB:Gh}
structure IvV where
 lo:RV
 hi:RV
 nl:Bool
 nh:Bool
def IvV.v(z:IvV):Value:= .agg ⟨[.int .i64 z.lo.n, .int .i64 z.lo.d, .pointer z.lo.p, .int .i64 z.hi.n, .int .i64 z.hi.d, .pointer z.hi.p, .bool z.nl, .bool z.nh]⟩
section
variable {P:Program} {C:Ctx} {n:Nat} {fr:Fr} {own own' own1:List Own} {G:Gh} {Φ:Act→World→Prop}
variable {dst:Option Nat} {t t' ty':TypeId} {pos:String} {af:Array Edge} {gd:Option (Nat×Bool)} {x y:Operand} {e s by_:Nat}
end
structure aID (k:Nat) (G:Gh) (z:IvV) (v:IvQ):Prop where
 lo:IsR k G z.lo v.lo
 hi:IsR k G z.hi v.hi
 nl:z.nl=v.nl
 nh:z.nh=v.nh
def orQ:List Int→Int
 |[]=>0
 |x::t=>if x≠0 then x else orQ t
def aIQ(l m:LnQ):Int:=orQ [abg l.a m.a,abg l.b m.b,abg l.c m.c]
structure FrV where
 l:LV
 v:IvV
def FrV.val(z:FrV):Value:= .agg ⟨[.int .i64 z.l.a.n, .int .i64 z.l.a.d, .pointer z.l.a.p, .int .i64 z.l.b.n, .int .i64 z.l.b.d, .pointer z.l.b.p, .int .i64 z.l.c.n, .int .i64 z.l.c.d, .pointer z.l.c.p, .int .i64 z.v.lo.n, .int .i64 z.v.lo.d, .pointer z.v.lo.p, .int .i64 z.v.hi.n, .int .i64 z.v.hi.d, .pointer z.v.hi.p, .bool z.v.nl, .bool z.v.nh]⟩
structure aIu (k:Nat) (G:Gh) (z:FrV) (f:FrQ):Prop where
 l:IsL k G z.l f.l
 v:aID (25*k+6) G z.v f.v
inductive awL {α β:Type} (R:α→β→Prop):List α→List β→Prop
 |nil:awL R [] []
 |cons {a b us bs} (h:R a b) (t:awL R us bs):awL R (a::us) (b::bs)
structure IsC (k:Nat) (G:Gh) (x:SV) (c:aah):Prop where
 ex: ∃fs:List FrV,afs G 17 x (fs.map FrV.val)∧awL (aIu k G) fs c

section
variable {P:Program} {C:Ctx} {n:Nat} {fr:Fr} {own own':List Own} {G:Gh} {Φ:Act→World→Prop}
variable {dst:Option Nat} {t t' ty':TypeId} {pos:String} {af:Array Edge} {gd:Option (Nat×Bool)} {x y:Operand} {e s by_:Nat}
theorem axR{o1 o2:Own}{rest:List Own}(h:o1.b≠o2.b→St C n fr (o1::o2::rest) G Φ):St C n fr (o1::o2::rest) G Φ:=
 fun a w rl=>h ((bR.1 rl.h.nd).1 _ aZ) a w rl
theorem ad1[hT:acJ P t e s by_]{k:IntKind}{b off len cap:Nat}{l:Int}(hx:opv fr x=some (.slice (some ⟨b,off,none⟩) len cap))(hy:opv fr y=some (.int k l))(h0:0≤l)(h1:l≤len)(h2:l<cap):
  Yd P C fr own G ⟨dst, .slice t x (some y) none none,ty',pos,af,gd⟩ (.slice (some ⟨b,off+l.toNat*s,none⟩) (len-l.toNat) (cap-l.toNat)):=by
 have h:=aeL (P:=P) (C:=C) (own:=own) (G:=G) (t:=t) (dst:=dst) (ty':=ty') (pos:=pos) (af:=af) (gd:=gd) (by_:=by_) hx hy h0 h1
 unfold aoA at h
 rw[if_neg (by omega)] at h
 simpa[acx] using h
end

section
variable {P:Program} {C:Ctx} {n:Nat} {fr:Fr} {own own':List Own} {G:Gh} {Φ:Act→World→Prop}
variable {dst:Option Nat} {t t' ty':TypeId} {pos:String} {af:Array Edge} {gd:Option (Nat×Bool)} {x y:Operand} {e s by_:Nat}
end

def IsT(k:Nat)(G:Gh):Tr→Option Addr→Prop
 | .leaf b,p=> ∃n,p=some ⟨n,0,none⟩∧G n=some [.int .i64 0, .int .i64 0, .pointer none, .int .i64 0, .int .i64 0, .pointer none, .int .i64 0, .int .i64 0, .pointer none, .pointer none, .pointer none, .bool b]
 | .node l x y,p=> ∃(n:Nat) (z:LV) (q r:Option Addr),p=some ⟨n,0,none⟩∧G n=some [.int .i64 z.a.n, .int .i64 z.a.d, .pointer z.a.p, .int .i64 z.b.n, .int .i64 z.b.d, .pointer z.b.p, .int .i64 z.c.n, .int .i64 z.c.d, .pointer z.c.p, .pointer q, .pointer r, .bool false]∧IsL k G z l∧IsT k G x q∧IsT k G y r
structure ND where
 a:IV
 b:IV
 c:IV
 l:Int
 r:Int
def ND.val(z:ND):Value:= .agg ⟨[.bool z.a.neg, .slice z.a.a.a z.a.a.n z.a.a.c, .bool z.b.neg, .slice z.b.a.a z.b.a.n z.b.a.c, .bool z.c.neg, .slice z.c.a.a z.c.a.n z.c.a.c, .int .i64 z.l, .int .i64 z.r]⟩
structure aIB (k:Nat) (G:Gh) (z:ND) (n:NQ):Prop where
 a:IsI k G z.a n.l.a
 b:IsI k G z.b n.l.b
 c:IsI k G z.c n.l.c
 l:z.l=n.a
 r:z.r=n.b
structure aII (k:Nat) (G:Gh) (x:SV) (ns:List NQ):Prop where
 ex: ∃zs:List ND,afs G 8 x (zs.map ND.val)∧awL (aIB k G) zs ns
def aH6(n i:Nat):List Value:=(List.range n).map fun j=> .bool (decide (j<i))

def aHp(ob wb:Nat):Value:= .func (.func 129) #[] #[.pointer (some ⟨ob,0,none⟩), .pointer (some ⟨wb,0,none⟩)]
structure PtV where
 x:SV
 p:Option Addr
def PtV.val(z:PtV):Value:= .agg ⟨[.slice z.x.a z.x.n z.x.c, .pointer z.p]⟩
structure aIa (k:Nat) (G:Gh) (z:PtV) (b:Bool×aah):Prop where
 c:IsC k G z.x b.2
 t:IsT k G (.leaf b.1) z.p
structure aIL (k:Nat) (G:Gh) (w:SV) (ps:List (Bool×aah)):Prop where
 ex: ∃zs:List PtV,afs G 2 w (zs.map PtV.val)∧awL (aIa k G) zs ps
structure LI where
 a:IV
 b:IV
 c:IV
def LI.val(z:LI):Value:= .agg ⟨[.bool z.a.neg, .slice z.a.a.a z.a.a.n z.a.a.c, .bool z.b.neg, .slice z.b.a.a z.b.a.n z.b.a.c, .bool z.c.neg, .slice z.c.a.a z.c.a.n z.c.a.c]⟩
structure aIf (k:Nat) (G:Gh) (z:LI) (l:LnQ):Prop where
 a:IsI k G z.a l.a
 b:IsI k G z.b l.b
 c:IsI k G z.c l.c
structure aHV (k:Nat) (G:Gh) (x:SV) (ls:List LnQ):Prop where
 ex: ∃zs:List LI,afs G 6 x (zs.map LI.val)∧awL (aIf k G) zs ls
structure aIl (k:Nat) (G:Gh) (x:SV) (ls:List LnQ):Prop where
 ex: ∃zs:List LV,afs G 9 x (zs.map LV.v)∧awL (IsL k G) zs ls
theorem apt{a b:Int}(h:a=b):eI a=eI b:=by rw[h]
theorem aq5(z:Int):eQ (z:Rat)= .ag [.v (.bool (decide (z<0))),dN z.natAbs, .sl []]:=by unfold eQ;rw[qU,qT];rfl
theorem afG{a:Rat}(h:a.den=1):((a.num:Int):Rat)=a:=Rat.ext (qU _) (by rw[qT,h])
theorem ayi{a b:Rat}(ha:a.den=1)(hb:b.den=1):a+b=((a.num+b.num:Int):Rat):=by
 rw[qR,afG ha,afG hb]
theorem avj{a b:Rat}(ha:a.den=1)(hb:b.den=1):a*b=((a.num*b.num:Int):Rat):=by
 rw[cW,afG ha,afG hb]
theorem akR(n:Nat)(h:0<n):(if n=1 then [] else(dg n).map dU).length=0↔n=1:=by
 by_cases q:n=1
 ·simp[q]
 ·rw[if_neg q,aK,acC];omega
theorem aEn{n:Nat}(h:n≠1):dD n=dN n:=by unfold dD;rw[if_neg h];rfl
theorem alC{g:Nat}:(ahC g 1=0)↔g=1:=by
 unfold ahC
 constructor
 ·intro h;split at h
  ·exact absurd h (by decide)
  ·split at h
   ·assumption
   ·exact absurd h (by decide)
 ·rintro rfl;rfl
theorem ayu{x:Int}{d:Nat}(hd:0<d):zv (decide (x<0)) (x.natAbs/Nat.gcd x.natAbs d)=(mkRat x d).num:=by
 rw[Rat.num_mkRat,if_neg (by omega),iY]
 have hg:0<Nat.gcd d x.natAbs:=lL _ hd
 obtain⟨c,hc⟩:Nat.gcd d x.natAbs∣x.natAbs:=nT _ _
 generalize Nat.gcd d x.natAbs=g at*
 rw[hc,Nat.mul_div_cancel_left _ hg]
 unfold zv
 by_cases q:x<0
 ·rw[if_pos (by simpa using q),show x=(g:Int)*(-(c:Int)) by rw[Int.mul_neg,←iU];omega,Int.mul_ediv_cancel_left _ (by omega)]
 ·rw[if_neg (by simpa using q),show x=(g:Int)*(c:Int) by rw[←iU];omega,Int.mul_ediv_cancel_left _ (by omega)]
theorem ay4{x:Int}{d:Nat}(hd:0<d):d/Nat.gcd x.natAbs d=(mkRat x d).den:=by
 rw[Rat.den_mkRat,if_neg (by omega),iY]
theorem aE4{x:Int}{d:Nat}(hd:0<d)(h:Nat.gcd x.natAbs d=1):(mkRat x d).num=x∧(mkRat x d).den=d:=by
 rw[←ayu hd,←ay4 hd,h,sN,sN]
 exact⟨adw x,rfl⟩
instance BI.zv (neg:Bool) (m i:Nat) [h:BN m i]:BI (zv neg m) i:=⟨by rw[af2];exact h.h⟩
section
variable {GB:Gh} {C:Ctx} {n:Nat} {Q0:Exit→Act→World→Prop} {fr fr':FrX} {own own':OwX} {cf cf':Cf} {vc:List Prop}
def aHI(fr:FrX)(cf:Cf):Option Int:=match opC fr cf with
 |some ⟨_, .convert t t' x,_,_,_,_⟩=>match abi tt t,abi tt t' with
  |some ⟨.int .i64,_,_,_⟩,some ⟨.int .u64,_,_,_⟩=>match evX (lkC fr cf) x with
   |some (.d (.v (.int .i64 p)))=>some p
   |_=>none
  |_,_=>none
 |_=>none
theorem cvw[fu:Fu]{p:Int}(q:Int)(h:aHI fr cf=some p)(e:p%18446744073709551616=q)(hgo:goA tt n fu.n fr own cf (.d (.v (.int .u64 q))) [] []=⟨vc,fr',own',cf'⟩)(k:CfS prog GB C n Q0 fr' own' cf')
  (hv:aaj vc:=by first|exact trivial|(simp only[aaj];omega)):CfS prog GB C n Q0 fr own cf:=by
 unfold aHI at h
 split at h<;>try (cases h;done)
 rename_i hh
 split at h<;>try (cases h;done)
 rename_i hT hT'
 split at h<;>cases h
 rename_i hx
 have:=akF (abM _ _ hT) rfl
 have:=akF (abM _ _ hT') rfl
 refine us hh (.x1 hx fun ρ G ov a w y _ r h1 h2=>?_) hgo hv k
 rw[aaw] at h2;subst h2
 refine⟨_,aaw.2 rfl,?_⟩
 rw[←e,←ab6]
 exact alk h1
def aHL(fr:FrX)(cf:Cf):Option Int:=match opC fr cf with
 |some ⟨_, .unOp .neg _ x,_,_,_,_⟩=>match evX (lkC fr cf) x with
  |some (.d (.v (.int .u64 p)))=>some p
  |_=>none
 |_=>none
theorem ngw[fu:Fu]{p:Int}(q:Int)(h:aHL fr cf=some p)(e:(0-p)%18446744073709551616=q)(hgo:goA tt n fu.n fr own cf (.d (.v (.int .u64 q))) [] []=⟨vc,fr',own',cf'⟩)(k:CfS prog GB C n Q0 fr' own' cf')
  (hv:aaj vc:=by first|exact trivial|(simp only[aaj];omega)):CfS prog GB C n Q0 fr own cf:=by
 unfold aHL at h
 split at h<;>try (cases h;done)
 rename_i hh
 split at h<;>cases h
 rename_i hx
 refine us hh (.x1 hx fun ρ G ov a w y _ r h1 h2=>?_) hgo hv k
 rw[aaw] at h2;subst h2
 refine⟨_,aaw.2 rfl,?_⟩
 rw[←e,←ab6]
 exact as2 h1
end
theorem aFO{n:Int}(h0: -4611686018427387904≤n)(h1:n≤4611686018427387904):PF GB prog 70 [.v (.int .i64 n)] (eI n):=by
 refine fn func70 J J ntmps70 J J (fun C=>?_)
 refine br (fu1:=⟨3⟩) (fu2:=⟨6⟩) J J J (fun hc4=>?_) (fun hc4=>?_)
 ·
  refine cvw (fu:=⟨0⟩) (18446744073709551616+n) rfl (by omega) rfl<|ngw (n.natAbs:Nat) rfl (by omega) rfl<|cl rfl (ah9 (u:=n.natAbs) (by omega)) rfl<|?_
  refine cl rfl ac1 rfl<|?_
  exact rz rfl (apt (by unfold zv;rw[if_pos rfl];omega))
 ·
  refine eqF 11 (.d (.v (.int .u64 (n.natAbs:Nat)))) rfl (by show FX.d (.v (.int _ _))= .d (.v (.int _ _));congr 3;omega) ?_
  refine gx rfl<|cl rfl (ah9 (u:=n.natAbs) (by omega)) rfl<|cl rfl ac1 rfl<|?_
  exact rz rfl (apt (by unfold zv;rw[if_neg (by decide)];omega))
theorem arc{z:Int}:PF GB prog 63 [eI z] (vI z.sign):=by
 have hl:=aaB (dg z.natAbs)
 have hz:= @acC z.natAbs
 refine fn func63 J J ntmps63 J J (fun C=>?_)
 refine br J J J (fun hc6=>?_) (fun hc6=>?_)
 ·
  exact rz rfl (by show DV.v (.int _ 0)=DV.v (.int _ _);rw[show z=0 by omega];rfl)
 ·
  refine bd J J J (fun hc8=>?_) (fun hc8=>?_)
  ·
   exact rz rfl (by show DV.v (.int _ (-1))=DV.v (.int _ _);rw[dT (by omega)])
  ·
   exact rz rfl (by show DV.v (.int _ 1)=DV.v (.int _ _);rw[dS (by omega)])
theorem ajq{z:Int}:PF GB prog 152 [eI z] (eI (-z)):=by
 refine fn func152 J J ntmps152 J J (fun C=>?_)
 refine cl rfl ac1 rfl<|?_
 exact rz rfl (apt (aDW z))
theorem ax7{a b:Int}(h:decide (a<0)=decide (b<0)):zv (decide (a<0)) (a.natAbs+b.natAbs)=a+b:=by
 unfold zv
 have h':a<0↔b<0:=by simpa using h
 by_cases q:a<0
 ·have:=h'.1 q
  simp[q];omega
 ·have: ¬b<0:=fun w=>q (h'.2 w)
  simp[q];omega
theorem aAS{a b:Int}(h: ¬decide (a<0)=decide (b<0))(k:a.natAbs<b.natAbs):zv (decide (b<0)) (b.natAbs-a.natAbs)=a+b:=by
 unfold zv
 have h': ¬(a<0↔b<0):=by simpa using h
 by_cases q:b<0
 ·have: ¬a<0:=fun w=>h' ⟨fun _=>q,fun _=>w⟩
  simp[q];omega
 ·have:a<0:=Int.not_le.1 fun w=>h' ⟨fun e=>by omega,fun e=>absurd e q⟩
  simp[q];omega
theorem aAQ{a b:Int}(h: ¬decide (a<0)=decide (b<0))(k:b.natAbs≤a.natAbs):zv (decide (a<0)) (a.natAbs-b.natAbs)=a+b:=by
 unfold zv
 have h': ¬(a<0↔b<0):=by simpa using h
 by_cases q:a<0
 ·have: ¬b<0:=fun w=>h' ⟨fun _=>w,fun _=>q⟩
  simp[q];omega
 ·have:b<0:=Int.not_le.1 fun w=>h' ⟨fun e=>absurd e q,fun e=>by omega⟩
  simp[q];omega
theorem axH{a b:Int}{i j:Nat}[ha:BI a i][hb:BI b j](hi:i≤400000000:=by decide)(hj:j≤400000000:=by decide):PF GB prog 46 [eI a,eI b] (eI (a+b)):=by
 have hba:=aa8 ha.h
 have hbb:=aa8 hb.h
 refine fn (fu:=⟨15⟩) func46 J J ntmps46 J J (fun C=>?_)
 refine eqF 9 (.d (.v (.bool (decide (decide (a<0)=decide (b<0)))))) rfl (by congr 2) ?_
 refine gx rfl<|?_
 refine bd J J J (fun hc9=>?_) (fun hc9=>?_)
 ·
  refine cl rfl (aFX (by omega) (by omega)) rfl<|cl rfl ac1 rfl<|?_
  exact rz rfl (apt (ax7 hc9))
 ·
  refine cl rfl (asC (by omega) (by omega)) rfl<|?_
  refine br J J J (fun hc23=>?_) (fun hc23=>?_)
  ·
   refine cl rfl (as5 (by have:=afQ.1 hc23;omega) (by omega)) rfl<|cl rfl ac1 rfl<|?_
   exact rz rfl (apt (aAS hc9 (afQ.1 hc23)))
  ·
   refine cl rfl (as5 (rM fun q=>hc23 (afQ.2 q)) (by omega)) rfl<|cl rfl ac1 rfl<|?_
   exact rz rfl (apt (aAQ hc9 (rM fun q=>hc23 (afQ.2 q))))
theorem am0{a b:Int}{i j:Nat}[ha:BI a i][hb:BI b j](hi:i≤400000000:=by decide)(hj:j≤400000000:=by decide):PF GB prog 48 [eI a,eI b] (eI (a*b)):=by
 refine fn func48 J J ntmps48 J J (fun C=>?_)
 refine cl rfl (acq (by omega) (by omega)) rfl<|cl rfl ac1 rfl<|?_
 exact rz rfl (apt (aCu a b))
theorem ahF{a b:Int}{i j:Nat}[ha:BI a i][hb:BI b j](hi:i≤400000000:=by decide)(hj:j≤400000000:=by decide):PF GB prog 240 [eI a,eI b] (vI (a-b).sign):=by
 refine fn func240 J J ntmps240 J J (fun C=>?_)
 refine cl rfl ajq rfl<|cl rfl (axH (by omega) (by omega)) rfl<|cl rfl arc rfl<|?_
 exact rz rfl (by rw[Int.sub_eq_add_neg];rfl)
theorem afd{q:Rat}:PF GB prog 50 [eQ q] (dN q.den):=by
 refine fn func50 J J ntmps50 J J (fun C=>?_)
 refine br J J J (fun hc6=>?_) (fun hc6=>?_)
 ·
  refine cl rfl aBO rfl<|?_
  exact rz rfl (by rw[(akR q.den (abO q)).1 (by omega)];rfl)
 ·
  exact rz rfl (by exact aEn (fun e=>hc6 (by exact congrArg Int.ofNat ((akR q.den (abO q)).2 e))))
theorem aic{n k:Nat}[h:BN n k](hk:k≤500000000):(dg n).length≤100000000:=by have:=aa8 h.h;omega
theorem ak5{x:Int}{d i j:Nat}[hx:BI x i][hd:BN d j](hd0:0<d)(hi:i≤200000000:=by decide)(hj:j≤200000000:=by decide):PF GB prog 47 [eI x,dN d] (eQ (mkRat x d)):=by
 obtain⟨q,hq⟩: ∃q,q=mkRat x d:=⟨_,rfl⟩
 obtain⟨g,hg⟩: ∃g,g=Nat.gcd x.natAbs d:=⟨_,rfl⟩
 have hg0:0<g:=hg▸nN _ hd0
 haveI hgB:BN g (i+j):=hg▸inferInstance
 have hg1:(dg g).length≤100000000:=aic (k:=i+j) (by omega)
 have ho1:(dg 1).length≤100000000:=by rw[an7];decide
 haveI hqB:BQ q (i+j):=hq▸ahk hd0 (dX hx.h (bT (by decide) (by omega))) (dX hd.h (bT (by decide) (by omega)))
 refine fn func47 J J ntmps47 J J (fun C=>?_)
 refine cl (fu:=⟨0⟩) rfl (amc (by omega) (by omega)) rfl<|?_
 refine eqF 11 (.d (dN g)) rfl (by rw[hg]) ?_
 refine gx (fu:=⟨4⟩) rfl<|?_
 refine mg (fu:=⟨1⟩) (X:=Unit) (fun _=>[(1, .d (dN q.den)),(2, .ov 2 0),(4, .ov 4 0)]) (fun _=>[(4,some (.o 48 [.ff, .nl, .nl] true)),(2,some (.o 46 [.d (.v (.bool (decide (q.num<0)))), .d (dN q.num.natAbs)] true))]) (fun _=>True) [1,2,4] [4,2] rfl ?_ (fun _=>rfl) (fun _ hm=>?_)
 ·
  refine gx rfl<|cl rfl aBO rfl<|cl rfl (asC hg1 ho1) rfl<|?_
  refine br J J J (fun hc15=>?_) (fun hc15=>?_)
  ·
   refine cl rfl (afM hg0 (by omega) (by omega)) rfl<|cl (fu:=⟨0⟩) rfl ac1 rfl<|?_
   refine eqF 26 (.d (eI q.num)) rfl (by show FX.d (eI (zv _ _))=_;rw[hg,ayu hd0,hq]) ?_
   refine gx rfl<|cl (fu:=⟨2⟩) rfl (afM hg0 (by omega) (by omega)) rfl<|?_
   refine eqF 31 (.d (dN q.den)) rfl (by rw[hg,ay4 hd0,hq]) ?_
   refine gx rfl<|?_
   exact at_ () trivial
  ·
   have hm:=aE4 (x:=x) hd0 (by rw[←hg];exact alC.1 (Decidable.not_not.1 hc15))
   rw[←hq] at hm
   refine eqF 1 (.d (dN q.den)) rfl (by rw[hm.2]) ?_
   exact at_ () trivial (hO:=⟨rfl,by rw[hm.1];rfl,trivial⟩)
 ·
  refine mg (X:=Unit) (fun _=>[(1, .d (dD q.den)),(2, .ov 2 0),(4, .ov 4 0)]) (fun _=>[(4,some (.o 48 [.ff, .nl, .nl] true)),(2,some (.o 46 [.d (.v (.bool (decide (q.num<0)))), .d (dN q.num.natAbs)] true))]) (fun _=>True) [1,2,4] [4,2] rfl ?_ (fun _=>rfl) (fun _ hm=>?_)
  ·
   refine gx rfl<|cl rfl aBO rfl<|cl rfl (asC (aic (k:=i+j) (by omega)) ho1) rfl<|?_
   refine br J J J (fun hc36=>?_) (fun hc36=>?_)
   ·
    refine nlD 1 rfl ?_
    refine eqF 1 (.d (dD q.den)) rfl (by rw[alC.1 hc36];rfl) ?_
    exact at_ () trivial
   ·
    refine eqF 1 (.d (dD q.den)) rfl (by rw[aEn (fun e=>hc36 (alC.2 e))]) ?_
    exact at_ () trivial
  ·
   exact rz rfl (by rw[←hq];rfl)
theorem ai3(a:Rat):mkRat a.num a.den=a:=by simp[sL]
theorem atE{a b:Rat}(h:b≠0):a/b=mkRat (a.num*zv (decide (b.num<0)) b.den) (a.den*b.num.natAbs):=by
 rw[oW]
 have ha:(a.num:Rat)/(a.den:Rat)=a:=by rw[←oW,ai3]
 have hb:(b.num:Rat)/(b.den:Rat)=b:=by rw[←oW,ai3]
 have h1:(a.den:Rat)≠0:=by have:=a.den_nz;exact_mod_cast this
 have h2:(b.den:Rat)≠0:=by have:=b.den_nz;exact_mod_cast this
 have h3:(b.num:Rat)≠0:=by
  intro e
  rw[e] at hb
  apply h;rw[←hb];grind
 rw[cW,Rat.natCast_mul]
 by_cases q:b.num<0
 ·have e1:((zv (decide (b.num<0)) b.den:Int):Rat)= -(b.den:Rat):=by
   unfold zv;rw[if_pos (by simpa using q),oN];rfl
  have e2:((b.num.natAbs:Nat):Rat)= -(b.num:Rat):=by
   have:((b.num.natAbs:Nat):Int)= -b.num:=by omega
   rw[←oN,←this];rfl
  rw[e1,e2]
  generalize (a.num:Rat)=an at*
  generalize (a.den:Rat)=ad at*
  generalize (b.num:Rat)=bn at*
  generalize (b.den:Rat)=bd at*
  subst ha hb
  grind
 ·have e1:((zv (decide (b.num<0)) b.den:Int):Rat)=(b.den:Rat):=by
   unfold zv;rw[if_neg (by simpa using q)];rfl
  have e2:((b.num.natAbs:Nat):Rat)=(b.num:Rat):=by
   have:((b.num.natAbs:Nat):Int)=b.num:=by omega
   rw[←this];rfl
  rw[e1,e2]
  generalize (a.num:Rat)=an at*
  generalize (a.den:Rat)=ad at*
  generalize (b.num:Rat)=bn at*
  generalize (b.den:Rat)=bd at*
  subst ha hb
  grind
theorem ar0{q:Rat}{n:Int}{d:Nat}(hd:0<d)(h:q*(d:Rat)=(n:Rat)):q.num.natAbs≤n.natAbs∧q.den≤d:=by
 have e:q=mkRat n d:=by
  rw[oW]
  have:(d:Rat)≠0:=by exact_mod_cast (by omega:d≠0)
  rw[←h];grind
 rw[e,Rat.num_mkRat,Rat.den_mkRat,if_neg (by omega),if_neg (by omega)]
 exact⟨nK n (d.gcd n.natAbs:Nat),iT ..⟩
theorem BQ.of_frac{q:Rat}{n:Int}{d i:Nat}(hd:0<d)(h:q*(d:Rat)=(n:Rat))(hn:n.natAbs<2^i)(hdi:d<2^i):BQ q i:=by
 have:=ar0 hd h
 exact⟨by omega,by omega⟩
theorem ak6{b:Rat}(h:b≠0):0<b.num.natAbs:=by
 have:b.num≠0:=fun e=>h (lN.1 e)
 omega
instance BQ.over (a b:Rat) (i j:Nat) [ha:BQ a i] [hb:BQ b j]:BQ (a/b) (i+j):=by
 by_cases h:b=0
 ·subst h
  rw[Rat.div_def,Rat.inv_zero,Rat.mul_zero]
  have h2:=ha.hd
  have h3:0<a.den:=abO a
  have h4:2^i*1≤2^i*2^j:=eY _ (eX (by decide))
  rw[←fV] at h4
  exact⟨by show 0<_;omega,by show 1<_;omega⟩
 ·rw[atE h]
  have hb0:=ak6 h
  refine ahk (iL (abO a) hb0) ?_ (abq ha.hd hb.hn)
  rw[jW,af2]
  exact abq ha.hn hb.hd
theorem aoo{n:Int}(h0: -4611686018427387904≤n)(h1:n≤4611686018427387904):PF GB prog 20 [.v (.int .i64 n)] (eQ (n:Rat)):=by
 refine fn func20 J J ntmps20 J J (fun C=>?_)
 refine cl rfl (aFO (by omega) (by omega)) rfl<|?_
 exact rz rfl (by rw[aq5];rfl)
theorem q_S{q:Rat}:PF GB prog 17 [eQ q] (vI q.num.sign):=by
 refine fn func17 J J ntmps17 J J (fun C=>?_)
 refine cl rfl arc rfl<|?_
 exact rz J J
theorem aoX{q:Rat}:PF GB prog 180 [eQ q] (eQ (-q)):=by
 refine fn func180 J J ntmps180 J J (fun C=>?_)
 refine cl rfl ajq rfl<|?_
 exact rz rfl (by unfold eQ;rw[mK,pW];rfl)
theorem abz{a b:Rat}{i j:Nat}[ha:BQ a i][hb:BQ b j](hi:i≤20000000:=by decide)(hj:j≤20000000:=by decide):PF GB prog 21 [eQ a,eQ b] (eQ (a*b)):=by
 have had:=abO a
 have hbd:=abO b
 have hdp:=iL had hbd
 have e1:=akR a.den had
 have e2:=akR b.den hbd
 refine fn func21 J J ntmps21 J J (fun C=>?_)
 refine cs 9 J J J (fun hg9=>?_) (fun hg9=>?_)
 ·
  refine br J J J (fun hc14=>?_) (fun hc14=>?_)
  ·
   refine cl rfl (am0 (a:=a.num) (b:=b.num) (by omega) (by omega)) rfl<|?_
   exact rz rfl (by rw[avj (e1.1 (by omega)) (e2.1 (by omega)),aq5];rfl)
  ·
   refine cl rfl (am0 (a:=a.num) (b:=b.num) (by omega) (by omega)) rfl<|cl rfl afd rfl<|cl rfl afd rfl<|cl rfl (acq (by omega) (by omega)) rfl<|?_
   refine cl rfl (ak5 hdp (by omega) (by omega)) rfl<|?_
   exact rz rfl (by rw[aeG];rfl)
 ·
  refine cl rfl (am0 (a:=a.num) (b:=b.num) (by omega) (by omega)) rfl<|cl rfl afd rfl<|cl rfl afd rfl<|cl rfl (acq (by omega) (by omega)) rfl<|?_
  refine cl rfl (ak5 hdp (by omega) (by omega)) rfl<|?_
  exact rz rfl (by rw[aeG];rfl)
theorem ae7{a b:Rat}{i j:Nat}[ha:BQ a i][hb:BQ b j](hi:i≤20000000:=by decide)(hj:j≤20000000:=by decide):PF GB prog 13 [eQ a,eQ b] (eQ (a+b)):=by
 have had:=abO a
 have hbd:=abO b
 have hdp:=iL had hbd
 have e1:=akR a.den had
 have e2:=akR b.den hbd
 refine fn func13 J J ntmps13 J J (fun C=>?_)
 refine cs 9 J J J (fun hg9=>?_) (fun hg9=>?_)
 ·
  refine br J J J (fun hc14=>?_) (fun hc14=>?_)
  ·
   refine cl rfl (axH (by omega) (by omega)) rfl<|?_
   exact rz rfl (by rw[ayi (e1.1 (by omega)) (e2.1 (by omega)),aq5];rfl)
  ·
   refine cl rfl afd rfl<|cl rfl ac1 rfl<|cl rfl (am0 (a:=a.num) (b:=zv false b.den) (by omega) (by omega)) rfl<|cl rfl afd rfl<|cl rfl ac1 rfl<|?_
   refine cl rfl (am0 (a:=b.num) (b:=zv false a.den) (by omega) (by omega)) rfl<|cl rfl (axH (by omega) (by omega)) rfl<|cl rfl afd rfl<|?_
   refine cl rfl afd rfl<|cl rfl (acq (by omega) (by omega)) rfl<|cl rfl (ak5 hdp (by omega) (by omega)) rfl<|?_
   exact rz rfl (by rw[aet];rfl)
 ·
  refine cl rfl afd rfl<|cl rfl ac1 rfl<|cl rfl (am0 (a:=a.num) (b:=zv false b.den) (by omega) (by omega)) rfl<|cl rfl afd rfl<|?_
  refine cl rfl ac1 rfl<|cl rfl (am0 (a:=b.num) (b:=zv false a.den) (by omega) (by omega)) rfl<|cl rfl (axH (by omega) (by omega)) rfl<|?_
  refine cl rfl afd rfl<|cl rfl afd rfl<|cl rfl (acq (by omega) (by omega)) rfl<|cl rfl (ak5 hdp (by omega) (by omega)) rfl<|?_
  exact rz rfl (by rw[aet];rfl)
theorem alh{a b:Rat}{i j:Nat}[ha:BQ a i][hb:BQ b j](hi:i≤20000000:=by decide)(hj:j≤20000000:=by decide):PF GB prog 122 [eQ a,eQ b] (eQ (a-b)):=by
 refine fn func122 J J ntmps122 J J (fun C=>?_)
 refine cl rfl (aoX (q:=b)) rfl<|cl rfl (ae7 (a:=a) (b:= -b) hi hj) rfl<|?_
 exact rz rfl (by rw[Rat.sub_eq_add_neg];rfl)
theorem ak0{a b:Rat}{i j:Nat}[ha:BQ a i][hb:BQ b j](hb0:b≠0)(hi:i≤20000000:=by decide)(hj:j≤20000000:=by decide):PF GB prog 259 [eQ a,eQ b] (eQ (a/b)):=by
 have hbp:=ak6 hb0
 have hdp:=iL (abO a) hbp
 refine fn func259 J J ntmps259 J J (fun C=>?_)
 refine cl rfl afd rfl<|cl rfl ac1 rfl<|cl rfl (am0 (a:=a.num) (b:=zv (decide (b.num<0)) b.den) (by omega) (by omega)) rfl<|cl rfl afd rfl<|?_
 refine cl rfl (acq (a:=a.den) (b:=b.num.natAbs) (by omega) (by omega)) rfl<|cl rfl (ak5 (x:=a.num*zv (decide (b.num<0)) b.den) (d:=a.den*b.num.natAbs) hdp (by omega) (by omega)) rfl<|?_
 exact rz rfl (by rw[atE hb0];rfl)
theorem q_C{a b:Rat}{i j:Nat}[ha:BQ a i][hb:BQ b j](hi:i≤20000000:=by decide)(hj:j≤20000000:=by decide):PF GB prog 59 [eQ a,eQ b] (vI (abg a b)):=by
 refine fn func59 J J ntmps59 J J (fun C=>?_)
 refine cl rfl (alh hi hj) rfl<|cl rfl q_S rfl<|?_
 exact rz rfl (by show vI _=vI _;rw[air])
theorem aES:((2:Int):Rat)≠0:=by decide
instance BI.two:BI 2 2:=⟨by decide⟩
theorem asY{a:Rat}{i:Nat}[ha:BQ a i](hi:i≤20000000:=by decide):PF GB prog 260 [eQ a] (eQ (a/2)):=by
 refine fn func260 J J ntmps260 J J (fun C=>?_)
 refine cl rfl (aoo (n:=2) (by decide) (by decide)) rfl<|cl rfl (ak0 (a:=a) (b:=((2:Int):Rat)) aES hi (by decide)) rfl<|?_
 exact rz J J
theorem aCt{a b:Rat}{i j:Nat}[ha:BQ a i][hb:BQ b j](hi:i≤2000000:=by decide)(hj:j≤2000000:=by decide):PF GB prog 261 [eQ a,eQ b] (eQ ((a+b)/2)):=by
 refine fn func261 J J ntmps261 J J (fun C=>?_)
 refine cl rfl (ae7 (by omega) (by omega)) rfl<|cl rfl (asY (a:=a+b) (by omega)) rfl<|?_
 exact rz J J
end Go.Sx
end
