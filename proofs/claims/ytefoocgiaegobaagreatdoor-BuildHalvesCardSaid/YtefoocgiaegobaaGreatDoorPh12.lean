import Derived.Test.YtefoocgiaegobaaGreatDoorPh11
set_option linter.all false
set_option maxHeartbeats 1000000
set_option maxRecDepth 100000
section
namespace Go.Sx
open Go
def me(l:ab)(p:aa):l.value p=(l.a:Rat)*p.x+(l.b:Rat)*p.y+(l.c:Rat):=rfl
def fI(l:ab)(p:aa):l.rev.value p= -l.value p:=by
 rw[me,me];have h1:((l.rev.a:Int):Rat)= -(l.a:Rat):=(Fh l.a).symm;have h2:((l.rev.b:Int):Rat)= -(l.b:Rat):=(Fh l.b).symm;have h3:((l.rev.c:Int):Rat)= -(l.c:Rat):=(Fh l.c).symm;rw[h1,h2,h3];grind
def bp(q p:aa)(e:Rat):aa:=⟨q.x+e*(p.x-q.x),q.y+e*(p.y-q.y)⟩
def ku(l:ab)(q p:aa)(e:Rat):l.value (bp q p e)=l.value q+e*(l.value p-l.value q):=by
 simp only[me,bp];grind
def cd(q u:aa)(e:Rat):aa:=⟨q.x+e*u.x,q.y+e*u.y⟩
def ie(l:ab)(q u:aa)(e:Rat):l.value (cd q u e)=l.value q+e*l.nor.dot u:=by
 simp only[me,cd,ab.nor,aa.dot];grind
def b9{a b:Rat}(ha:0<a)(hb:0<b):0<a*b:=Rat.mul_pos ha hb
def er{a b:Rat}(ha:0<=a)(hb:0<=b):0<=a*b:=oK ha hb
def sF(a:Rat):0<=a*a:=by
 by_cases h:0<=a
 ·exact er h h
 ·have:=er (a:= -a) (b:= -a) (by grind) (by grind)
  grind
def iH{s k:Rat}(hk:0<k):0<s*k↔0<s:=by
 constructor
 ·intro h
  by_cases hs:0<s
  ·exact hs
  ·have:=er (a:= -s) (b:=k) (by grind) (by grind)
   grind
 ·intro h;exact b9 h hk
def jt{s k:Rat}(hk:0<k):0<=s*k↔0<=s:=by
 constructor
 ·intro h
  by_cases hs:0<=s
  ·exact hs
  ·have:=b9 (a:= -s) (b:=k) (by grind) hk
   grind
 ·intro h;exact er h (by grind)
def OL{A B u v:Rat}(h0:0<=A)(h1:0<=A+v*B)(hu:0<=u)(huv:u<=v):0<=A+u*B:=by
 by_cases hB:0<=B
 ·have:=er hu hB;grind
 ·have:=er (a:=v-u) (b:= -B) (by grind) (by grind)
  grind
def ab.Ne(l:ab):Prop:= ¬(l.a=0/\l.b=0)
def ab.ok.ne{l:ab}(h:l.ok):l.Ne:=h.1
def n4{l:ab}(h:l.Ne):0<l.nor.dot l.nor:=by
 show 0<(l.a:Rat)*l.a+(l.b:Rat)*l.b;have h1:=sF (l.a:Rat);have h2:=sF (l.b:Rat);by_cases ha:l.a=0
 ·have hb:l.b≠0:=fun hb=>h ⟨ha,hb⟩
  have hb':(l.b:Rat)≠0:=fun e=>hb (dV.1 e);have:(l.b:Rat)*l.b≠0:=by grind
  grind
 ·have ha':(l.a:Rat)≠0:=fun e=>ha (dV.1 e)
  have:(l.a:Rat)*l.a≠0:=by grind
  grind
def xJ{l:ab}(h:l.Ne): ∃q:Rat,l.nor.dot l.nor*q= -(l.c:Rat)/\l.base=⟨(l.a:Rat)*q,(l.b:Rat)*q⟩:=by
 refine⟨-(l.c:Rat)/l.nor.dot l.nor,?_,J⟩;have:=n4 h;grind
def mr(l m:ab)(t:Rat):m.value (l.at t)=l.cutC m+t*l.cutK m:=by
 simp only[ab.cutC,ab.cutK,me,ab.at,aa.add,aa.scale,ab.dir,ab.nor,aa.dot];grind
def rm{l:ab}(h:l.Ne)(t:Rat):l.value (l.at t)=0:=by
 obtain⟨q,h1,h2⟩:=xJ h;simp only[me,ab.at,h2,aa.add,aa.scale,ab.dir];simp only[ab.nor,aa.dot] at h1;grind
def yj{l:ab}(h:l.Ne){p:aa}(hp:l.value p=0): ∃t,p=l.at t:=by
 obtain⟨q,h1,h2⟩:=xJ h;have hn:=n4 h;obtain⟨x,y⟩:=p;rw[me] at hp;simp only[ab.nor,aa.dot] at h1 hn;refine⟨((l.b:Rat)*x-(l.a:Rat)*y)/((l.a:Rat)*l.a+(l.b:Rat)*l.b),?_⟩;generalize ht:((l.b:Rat)*x-(l.a:Rat)*y)/((l.a:Rat)*l.a+(l.b:Rat)*l.b)=t;have ht':((l.a:Rat)*l.a+(l.b:Rat)*l.b)*t=(l.b:Rat)*x-(l.a:Rat)*y:=by grind
 simp only[ab.at,h2,aa.add,aa.scale,ab.dir,aa.mk.injEq];generalize (l.a:Rat)=a at*;generalize (l.b:Rat)=b at*;generalize (l.c:Rat)=c at*;have e1:(a*a+b*b)*(x-(a*q+b*t))=0:=by grind
 have e2:(a*a+b*b)*(y-(b*q+ -a*t))=0:=by grind
 constructor<;>grind
def ao.has(v:ao)(t:Rat):Prop:=(v.nl=true\/v.lo<=t)/\(v.nh=true\/t<=v.hi)
def ao.ins(v:ao)(t:Rat):Prop:=(v.nl=true\/v.lo<t)/\(v.nh=true\/t<v.hi)
def ao.Pos(v:ao):Prop:=v.nl=true\/v.nh=true\/v.lo<v.hi
def Xx(a b:Rat):0<=cp a b↔b<=a:=by
 unfold cp;split
 ·constructor
  ·intro h;exact absurd h (by decide)
  ·intro h;grind
 ·split
  ·constructor
   ·intro _;grind
   ·intro _;decide
  ·constructor
   ·intro _;grind
   ·intro _;decide
def Ab(v:ao):v.empty=false↔v.Pos:=by
 obtain⟨lo,hi,nl,nh⟩:=v;unfold ao.empty ao.Pos
 cases nl<;>cases nh<;>simp[Xx]
 first|exact Rat.not_le|grind
def ao.ins.has{v:ao}{t:Rat}(h:v.ins t):v.has t:=by
 obtain⟨h1,h2⟩:=h;exact⟨h1.imp id (fun h=>fQ h),h2.imp id (fun h=>fQ h)⟩
def Pk:mkRat 1 2=(1:Rat)/2:=by rw[lN];rfl
def uj{v:ao}(h:v.Pos):v.ins v.sample:=by
 obtain⟨lo,hi,nl,nh⟩:=v;unfold ao.Pos at h;unfold ao.ins ao.sample;rw[Pk]
 cases nl<;>cases nh<;>simp at* <;>grind
def Jb(v w:ao)(t:Rat):(v.meet w).has t↔v.has t/\w.has t:=by
 obtain⟨lo,hi,nl,nh⟩:=v;obtain⟨lo',hi',nl',nh'⟩:=w;unfold ao.has ao.meet
 cases nl<;>cases nh<;>cases nl'<;>cases nh'<;>simp<;>grind
def IX(v w:ao)(t:Rat):(v.meet w).ins t↔v.ins t/\w.ins t:=by
 obtain⟨lo,hi,nl,nh⟩:=v;obtain⟨lo',hi',nl',nh'⟩:=w;unfold ao.ins ao.meet
 cases nl<;>cases nh<;>cases nl'<;>cases nh'<;>simp<;>grind
def GK(t:Rat):ao.all.has t:=⟨.inl J, .inl J⟩
def azo(t:Rat):ao.all.ins t:=⟨.inl J, .inl J⟩
def vA:ao.all.Pos:= .inl J
def ke(k:Rat):Int.sign k.num=0↔k=0:=by rw[Int.sign_eq_zero_iff_zero,kQ]
def Ey(k:Rat):0<k.num↔0<k:=by
 have h1:0<=k.num↔0<=k:=sS;have h2:k.num=0↔k=0:=kQ;constructor
 ·intro h
  have a:=h1.1 (by omega);have b:k≠0:=fun e=>by have:=h2.2 e;omega
  grind
 ·intro h
  have a:=h1.2 (by grind);have b:k.num≠0:=fun e=>by have:=h2.1 e;grind
  omega
def i9(k:Rat):Int.sign k.num=1↔0<k:=by rw[Int.sign_eq_one_iff_pos,Ey]
def mD(k:Rat):0<Int.sign k.num↔0<k:=by
 rw[<-i9];rcases lK k.num 0 with h|h|h
 ·rw[dY h];decide
 ·rw[h];decide
 ·rw[dS h];decide
def kD(k:Rat):Int.sign k.num<0↔k<0:=by
 have h1:=ke k;have h2:=mD k;constructor
 ·intro h
  by_cases hk:0<k
  ·have:=h2.2 hk;omega
  ·by_cases h0:k=0
   ·have:=h1.2 h0;omega
   ·grind
 ·intro h
  have a1: ¬Int.sign k.num=0:=fun e=>by have:=h1.1 e;grind
  have a2: ¬0<Int.sign k.num:=fun e=>by have:=h2.1 e;grind
  omega
def wF{l m:ab}(v:ao)(hk:l.cutK m=0):l.cutV v m=v/\(l.cutB v m=true↔0<l.cutC m):=by
 have h:=(ke (l.cutK m)).2 hk;unfold ab.cutV ab.cutB;rw[if_pos h,if_pos h,decide_eq_true_iff,mD];exact⟨J,Iff.rfl⟩
def vN{l m:ab}(v:ao)(hk:0<l.cutK m):l.cutV v m=v.meet ⟨-(l.cutC m/l.cutK m),0,false,true⟩/\(l.cutB v m=true↔(l.cutV v m).Pos):=by
 have h0: ¬Int.sign (l.cutK m).num=0:=fun e=>by have:=(ke _).1 e;grind
 have h1:=(i9 (l.cutK m)).2 hk;constructor
 ·unfold ab.cutV;rw[if_neg h0,if_pos h1]
 ·unfold ab.cutB;rw[if_neg h0,<-Ab];simp
def xo{l m:ab}(v:ao)(hk:l.cutK m<0):l.cutV v m=v.meet ⟨0, -(l.cutC m/l.cutK m),true,false⟩/\(l.cutB v m=true↔(l.cutV v m).Pos):=by
 have h0: ¬Int.sign (l.cutK m).num=0:=fun e=>by have:=(ke _).1 e;grind
 have h1: ¬Int.sign (l.cutK m).num=1:=fun e=>by have:=(i9 _).1 e;grind
 constructor
 ·unfold ab.cutV;rw[if_neg h0,if_neg h1]
 ·unfold ab.cutB;rw[if_neg h0,<-Ab];simp
def Sl{C K t:Rat}(hk:0<K): -(C/K)<=t↔0<=C+t*K:=by
 have e:C=C/K*K:=by grind
 generalize C/K=d at*;rw[e,show d*K+t*K=(d+t)*K from by grind,jt hk];grind
def K4{C K t:Rat}(hk:0<K): -(C/K)<t↔0<C+t*K:=by
 have e:C=C/K*K:=by grind
 generalize C/K=d at*;rw[e,show d*K+t*K=(d+t)*K from by grind,iH hk];grind
def VE{C K t:Rat}(hk:K<0):t<= -(C/K)↔0<=C+t*K:=by
 have e:C=C/K*K:=by grind
 generalize C/K=d at*;rw[e,show d*K+t*K=(-(d+t))*(-K) from by grind,jt (by grind)];grind
def Lu{C K t:Rat}(hk:K<0):t< -(C/K)↔0<C+t*K:=by
 have e:C=C/K*K:=by grind
 generalize C/K=d at*;rw[e,show d*K+t*K=(-(d+t))*(-K) from by grind,iH (by grind)];grind
def fp(k:Rat):k=0\/0<k\/k<0:=by grind
def AI{l m:ab}{v:ao}(hb:l.cutB v m=true)(t:Rat):(l.cutV v m).has t↔v.has t/\0<=m.value (l.at t):=by
 rw[mr];rcases fp (l.cutK m) with hk|hk|hk
 ·obtain⟨h1,h2⟩:=wF v hk
  rw[h1,hk];have:=h2.1 hb;constructor
  ·intro h;exact⟨h,by grind⟩
  ·exact fun h=>h.1
 ·rw[(vN v hk).1,Jb,<-Sl hk]
  simp[ao.has]
 ·rw[(xo v hk).1,Jb,<-VE hk]
  simp[ao.has]
def zO{l m:ab}{v:ao}(hb:l.cutB v m=true)(t:Rat):(l.cutV v m).ins t↔v.ins t/\0<m.value (l.at t):=by
 rw[mr];rcases fp (l.cutK m) with hk|hk|hk
 ·obtain⟨h1,h2⟩:=wF v hk
  rw[h1,hk];have:=h2.1 hb;constructor
  ·intro h;exact⟨h,by grind⟩
  ·exact fun h=>h.1
 ·rw[(vN v hk).1,IX,<-K4 hk]
  simp[ao.ins]
 ·rw[(xo v hk).1,IX,<-Lu hk]
  simp[ao.ins]
def xd{l m:ab}{v:ao}(hv:v.Pos)(hb:l.cutB v m=true):(l.cutV v m).Pos:=by
 rcases fp (l.cutK m) with hk|hk|hk
 ·rw[(wF v hk).1];exact hv
 ·exact(vN v hk).2.1 hb
 ·exact(xo v hk).2.1 hb
def z8{l m:ab}{v:ao}(hv:v.Pos)(hb:l.cutB v m=false){t:Rat}(ht:v.has t):m.value (l.at t)<=0:=by
 rw[mr];have hb': ¬l.cutB v m=true:=by rw[hb];decide
 rcases fp (l.cutK m) with hk|hk|hk
 ·have h2:=(wF v hk).2
  have: ¬0<l.cutC m:=fun h=>hb' (h2.2 h);rw[hk];grind
 ·obtain⟨h1,h2⟩:=vN v hk
  have hn: ¬(l.cutV v m).Pos:=fun h=>hb' (h2.2 h);rw[h1] at hn;have h3:=K4 (C:=l.cutC m) (t:=t) hk
  suffices¬(-(l.cutC m/l.cutK m)<t) by grind
  generalize-(l.cutC m/l.cutK m)=d at*;obtain⟨lo,hi,nl,nh⟩:=v;unfold ao.Pos ao.meet at hn;unfold ao.Pos at hv;unfold ao.has at ht
  cases nl<;>cases nh<;>simp at* <;>grind
 ·obtain⟨h1,h2⟩:=xo v hk
  have hn: ¬(l.cutV v m).Pos:=fun h=>hb' (h2.2 h);rw[h1] at hn;have h3:=Lu (C:=l.cutC m) (t:=t) hk
  suffices¬(t< -(l.cutC m/l.cutK m)) by grind
  generalize-(l.cutC m/l.cutK m)=d at*;obtain⟨lo,hi,nl,nh⟩:=v;unfold ao.Pos ao.meet at hn;unfold ao.Pos at hv;unfold ao.has at ht
  cases nl<;>cases nh<;>simp at* <;>grind
def bH(c:aE)(p:aa):Prop:= ∀s∈c,0<s.l.value p
def vj(c:aE)(p:aa):Prop:= ∀s∈c,0<=s.l.value p
def Hc(l:ab): ∀(c:aE) (v w:ao),v.Pos->mf l c v=some w->
  w.Pos/\(∀t,w.has t↔v.has t/\vj c (l.at t))/\(∀t,w.ins t↔v.ins t/\bH c (l.at t))
 |[],v,w,hv,h=>by
  obtain rfl:v=w:=by simpa[mf] using h
  exact⟨hv,fun t=>⟨fun h=>⟨h,fun s hs=>absurd hs (by simp)⟩,fun h=>h.1⟩,fun t=>⟨fun h=>⟨h,fun s hs=>absurd hs (by simp)⟩,fun h=>h.1⟩⟩
 |s::c,v,w,hv,h=>by
  rw[mf] at h;split at h
  ·rename_i hb
   obtain⟨h1,h2,h3⟩:=Hc l c _ w (xd hv hb) h;refine⟨h1,fun t=>?_,fun t=>?_⟩
   ·rw[h2,AI hb]
    simp only[vj,dX];exact and_assoc
   ·rw[h3,zO hb]
    simp only[bH,dX];exact and_assoc
  ·exact absurd h (by simp)
def Oj(l:ab): ∀(c:aE) (v:ao),v.Pos->mf l c v=none-> ∀t,v.has t-> ¬bH c (l.at t)
 |[],v,hv,h=>by simp[mf] at h
 |s::c,v,hv,h=>by
  intro t ht hd;have hd':=dX.1 hd;rw[mf] at h;split at h
  ·rename_i hb
   exact Oj l c _ (xd hv hb) h t ((AI hb t).2 ⟨ht,fQ hd'.1⟩) hd'.2
  ·rename_i hb
   have:=z8 hv (by simpa using hb) ht;have:=hd'.1;grind
def bH.open: ∀{c:aE} {q:aa} (u:aa),bH c q-> ∃e:Rat,0<e/\ ∀d,0<=d->d<=e->bH c (cd q u d)
 |[],q,u,_=>⟨1,by decide,fun d _ _ s hs=>absurd hs (by simp)⟩
 |s::c,q,u,h=>by
  have h':=dX.1 h;obtain⟨e,he,hd⟩:=bH.open (c:=c) u h'.2;have hs:=h'.1;generalize hk:s.l.nor.dot u=k;have hf: ∃f:Rat,0<f/\ ∀d,0<=d->d<=f->0<s.l.value q+d*k:=by
   by_cases hk0:0<=k
   ·exact⟨1,by decide,fun d h1 _=>by have:=er h1 hk0;grind⟩
   ·refine⟨s.l.value q/(2* -k),?_,fun d h1 h2=>?_⟩
    ·have e1:s.l.value q/(2* -k)*(2* -k)=s.l.value q:=by grind
     exact(iH (k:=2* -k) (by grind)).1 (by rw[e1];exact hs)
    ·have e1:s.l.value q/(2* -k)*(2* -k)=s.l.value q:=by grind
     generalize s.l.value q/(2* -k)=f at*;have:=er (a:=f-d) (b:= -k) (by grind) (by grind);grind
  obtain⟨f,hf0,hf⟩:=hf;by_cases hef:e<=f
  ·refine⟨e,he,fun d h1 h2=>dX.2 ⟨?_,hd d h1 h2⟩⟩
   rw[ie,hk];exact hf d h1 (by grind)
  ·refine⟨f,hf0,fun d h1 h2=>dX.2 ⟨?_,hd d h1 (by grind)⟩⟩
   rw[ie,hk];exact hf d h1 h2
def PE: ∀{c:aE} {q p:aa},bH c q->(∃s∈c,s.l.value p<=0)->
  ∃e:Rat,0<=e/\e<=1/\(∃s∈c,s.l.value p<=0/\s.l.value (bp q p e)=0)/\vj c (bp q p e)
 |[],q,p,_,h=>by obtain⟨s,hs,_⟩:=h;exact absurd hs (by simp)
 |s::c,q,p,h,hex=>by
  have h':=dX.1 h;have hs:=h'.1;by_cases hc: ∃s∈c,s.l.value p<=0
  ·obtain⟨e,h0,h1,⟨s1,m1,n1,z1⟩,hC⟩:=PE h'.2 hc
   by_cases hp:0<=s.l.value (bp q p e)
   ·exact⟨e,h0,h1,⟨s1,aZ _ m1,n1,z1⟩,dX.2 ⟨hp,hC⟩⟩
   ·rw[ku] at hp
    generalize hB:s.l.value p-s.l.value q=B at*;have hB0:B<0:=by
     by_cases hB0:0<=B
     ·have:=er h0 hB0;grind
     ·grind
    have e1:s.l.value q/(-B)*(-B)=s.l.value q:=by grind
    generalize hf:s.l.value q/(-B)=f at*;have f0:0<=f:=(jt (k:= -B) (by grind)).1 (by rw[e1];grind);have f1:f<=e:=by
     have:=(jt (s:=e-f) (k:= -B) (by grind)).1 (by grind);grind
    have z:s.l.value (bp q p f)=0:=by rw[ku,hB];grind
    have np:s.l.value p<=0:=by
     have:=er (a:=1-e) (b:= -B) (by grind) (by grind);grind
    refine⟨f,f0,by grind,⟨s,aQ,np,z⟩,dX.2 ⟨by rw[z];exact gS,fun s2 m2=>?_⟩⟩;have a1:=h'.2 s2 m2;have a2:=hC s2 m2;rw[ku] at a2⊢;exact OL (fQ a1) a2 f0 f1
  ·have np:s.l.value p<=0:=by
    obtain⟨s1,m1,n1⟩:=hex;rcases aU.1 m1 with rfl|m1
    ·exact n1
    ·exact absurd ⟨s1,m1,n1⟩ hc
   generalize hB:s.l.value p-s.l.value q=B at*;have hB0:B<0:=by grind
   have e1:s.l.value q/(-B)*(-B)=s.l.value q:=by grind
   generalize hf:s.l.value q/(-B)=f at*;have f0:0<=f:=(jt (k:= -B) (by grind)).1 (by rw[e1];grind);have f1:f<=1:=by
    have:=(jt (s:=1-f) (k:= -B) (by grind)).1 (by grind);grind
   have z:s.l.value (bp q p f)=0:=by rw[ku,hB];grind
   refine⟨f,f0,f1,⟨s,aQ,np,z⟩,dX.2 ⟨by rw[z];exact gS,fun s2 m2=>?_⟩⟩;have a1:=h'.2 s2 m2;have a2:0<s2.l.value p:=by
    by_cases h:0<s2.l.value p
    ·exact h
    ·exact absurd ⟨s2,m2,by grind⟩ hc
   rw[ku];have:=OL (A:=s2.l.value q) (B:=s2.l.value p-s2.l.value q) (u:=f) (v:=1) (fQ a1) (by grind) f0 f1;exact this
structure dG (c:aE):Prop where
 ne: ∃p,bH c p
 ok: ∀s∈c,s.l.ok
 edge: ∀s∈c,s.v.Pos/\ ∀t,s.v.has t↔vj c (s.l.at t)
def dG.nil:dG []:=⟨⟨⟨0,0⟩,fun s hs=>absurd hs (by simp)⟩,fun s hs=>absurd hs (by simp),fun s hs=>absurd hs (by simp)⟩
def wU{c:aE}{m:ab}(hne: ∃q,bH c q)(h: ∀p,bH c p->0<m.value p){p:aa}(hp:vj c p):0<=m.value p:=by
 obtain⟨q,hq⟩:=hne;have mq:=h q hq;by_cases hm:0<=m.value p
 ·exact hm
 ·exfalso
  generalize hB:m.value q-m.value p=B;have hB0:0<B:=by grind
  have e1: -m.value p/B*B= -m.value p:=by grind
  generalize-m.value p/B=e at*;have e0:0<e:=(iH hB0).1 (by rw[e1];grind);have e2:e<=1:=by
   have:=(jt (s:=1-e) hB0).1 (by grind);grind
  have hd:bH c (bp p q e):=fun s hs=>by
   rw[ku];have a:=hp s hs;have b:=hq s hs;have:=b9 e0 b;have:=er (a:=1-e) (b:=s.l.value p) (by grind) a;grind
  have:=h _ hd;rw[ku,hB,e1] at this;grind
def tI{l:ab}{s':aP}: ∀{c:aE},s'∈fA l c↔ ∃s∈c,s.l.cutB s.v l=true/\s'=⟨s.l,s.l.cutV s.v l⟩
 |[]=>by simp[fA]
 |s::c=>by
  rw[fA];split
  ·rename_i hb
   rw[aU,tI (c:=c)];constructor
   ·rintro (rfl|⟨s1,h1,h2⟩)
    ·exact⟨s,aQ,hb,J⟩
    ·exact⟨s1,aZ _ h1,h2⟩
   ·rintro ⟨s1,h1,h2,h3⟩
    rcases aU.1 h1 with rfl|h1
    ·exact .inl h3
    ·exact .inr ⟨s1,h1,h2,h3⟩
  ·rename_i hb
   rw[tI (c:=c)];constructor
   ·rintro ⟨s1,h1,h2⟩;exact⟨s1,aZ _ h1,h2⟩
   ·rintro ⟨s1,h1,h2,h3⟩
    rcases aU.1 h1 with rfl|h1
    ·exact absurd h2 hb
    ·exact⟨s1,h1,h2,h3⟩
def tJ{c:aE}{l:ab}{v:ao}{s:aP}:s∈om c l v↔s=⟨l,v⟩\/s∈c:=by
 unfold om;generalize ip (mc c l) 0 c.length=n;rw[bV,aU];have h:=nX n c;constructor
 ·rintro (h1|h1|h1)
  ·exact .inr (gT h1)
  ·exact .inl h1
  ·exact .inr (jN h1)
 ·rintro (h1|h1)
  ·exact .inr (.inl h1)
  ·rw[<-h,bV] at h1
   rcases h1 with h1|h1
   ·exact .inl h1
   ·exact .inr (.inr h1)
def Qn{c:aE}{l:ab}(hl:l.Ne)(hp:lc c l=none){p:aa}(h:bH c p):l.value p≠0:=by
 intro h0;obtain⟨t,rfl⟩:=yj hl h0;exact Oj l c _ vA hp t (GK t) h
def Jd{c:aE}{l:ab}(hl:l.Ne){v:ao}(hp:lc c l=some v):(∃q,bH c q/\0<l.value q)/\ ∃q,bH c q/\l.value q<0:=by
 obtain⟨h1,_,h3⟩:=Hc l c _ v vA hp;have hd:=((h3 v.sample).1 (uj h1)).2;have h0:=rm hl v.sample;have hn:=n4 hl;constructor
 ·obtain⟨e,he,hm⟩:=hd.open l.nor
  refine⟨_,hm e (fQ he) gS,?_⟩;rw[ie,h0];have:=b9 he hn;grind
 ·obtain⟨e,he,hm⟩:=hd.open ⟨-l.nor.x, -l.nor.y⟩
  refine⟨_,hm e (fQ he) gS,?_⟩;rw[ie,h0];have:=b9 he hn;simp only[aa.dot] at this⊢;grind
def Wh{c:aE}{l:ab}{v:ao}(hc:dG c)(hl:l.ok)(hp:lc c l=some v):
  dG (om (fA l c) l v)/\ ∀p,bH (om (fA l c) l v) p↔bH c p/\0<l.value p:=by
 obtain⟨⟨q,hq,lq⟩,_⟩:=Jd hl.ne hp;obtain⟨v1,v2,v3⟩:=Hc l c _ v vA hp;have hD: ∀p,bH (om (fA l c) l v) p↔bH c p/\0<l.value p:=by
  intro p;constructor
  ·intro h
   have lp:0<l.value p:=h ⟨l,v⟩ (tJ.2 (.inl J));refine⟨fun s0 hs0=>?_,lp⟩;by_cases h0:0<s0.l.value p
   ·exact h0
   ·exfalso
    obtain⟨e,e0,e1,⟨s,ms,ns,zs⟩,hC⟩:=PE (p:=p) hq ⟨s0,hs0,by grind⟩;obtain⟨t,ht⟩:=yj (hc.ok s ms).ne zs;rw[ht] at hC;obtain⟨p1,p2⟩:=hc.edge s ms;have hh:=(p2 t).2 hC;have lr:0<l.value (s.l.at t):=by
     rw[<-ht,ku];by_cases hB:0<=l.value p-l.value q
     ·have:=er e0 hB;grind
     ·have:=er (a:=1-e) (b:= -(l.value p-l.value q)) (by grind) (by grind)
      grind
    have hb:s.l.cutB s.v l=true:=by
     cases hb:s.l.cutB s.v l with
     |true=>rfl
     |false=>have:=z8 p1 hb hh;grind
    have:=h ⟨s.l,s.l.cutV s.v l⟩ (tJ.2 (.inr (tI.2 ⟨s,ms,hb,J⟩)));simp only at this;grind
  ·rintro ⟨h1,h2⟩ s hs
   rcases tJ.1 hs with rfl|hs
   ·exact h2
   ·obtain⟨s1,m1,_,rfl⟩:=tI.1 hs
    exact h1 s1 m1
 have hne: ∃p,bH (om (fA l c) l v) p:=⟨q,(hD q).2 ⟨hq,lq⟩⟩;have hC: ∀p,vj (om (fA l c) l v) p↔vj c p/\0<=l.value p:=by
  intro p;constructor
  ·intro h
   refine⟨fun s hs=>?_,h ⟨l,v⟩ (tJ.2 (.inl J))⟩;exact wU hne (fun p hp=>((hD p).1 hp).1 s hs) h
  ·rintro ⟨h1,h2⟩ s hs
   rcases tJ.1 hs with rfl|hs
   ·exact h2
   ·obtain⟨s1,m1,_,rfl⟩:=tI.1 hs
    exact h1 s1 m1
 refine⟨⟨hne,fun s hs=>?_,fun s hs=>?_⟩,hD⟩
 ·rcases tJ.1 hs with rfl|hs
  ·exact hl
  ·obtain⟨s1,m1,_,rfl⟩:=tI.1 hs
   exact hc.ok s1 m1
 ·rcases tJ.1 hs with rfl|hs
  ·refine⟨v1,fun t=>?_⟩
   rw[hC];simp only;rw[v2];have h0:=rm hl.ne t;constructor
   ·intro h;exact⟨h.2,by rw[h0];exact gS⟩
   ·intro h;exact⟨GK t,h.1⟩
  ·obtain⟨s1,m1,hb,rfl⟩:=tI.1 hs
   obtain⟨p1,p2⟩:=hc.edge s1 m1;refine⟨xd p1 hb,fun t=>?_⟩;rw[hC];simp only;rw[AI hb,p2]
def bH.seg{c:aE}{q p:aa}{e:Rat}(hq:bH c q)(hp:bH c p)(h0:0<=e)(h1:e<=1):bH c (bp q p e):=fun s hs=>by
 rw[ku];have a:=hq s hs;have b:=hp s hs;by_cases he:e=0
 ·subst he;grind
 ·have:=b9 (a:=e) (by grind) b
  have:=er (a:=1-e) (b:=s.l.value q) (by grind) (by grind);grind
def MB{v:ao}{t:Rat}(h:v.ins t):(∃u,u<t/\v.has u)/\ ∃u,t<u/\v.has u:=by
 obtain⟨lo,hi,nl,nh⟩:=v;unfold ao.ins at h;unfold ao.has;refine⟨⟨if nl=true then t-1 else lo,?_⟩,⟨if nh=true then t+1 else hi,?_⟩⟩<;>cases nl<;>cases nh<;>simp at* <;>grind
def vO{a b c x y z:Nat}(h1:x*b=a*y)(h2:x*c=a*z)(g:Nat.gcd (Nat.gcd a b) c=1):a∣x:=by
 have e:x=Nat.gcd (Nat.gcd (x*a) (x*b)) (x*c):=by
  rw[Nat.gcd_mul_left,Nat.gcd_mul_left,g,iW]
 rw[e];exact Nat.dvd_gcd (Nat.dvd_gcd (Nat.dvd_mul_left ..) (h1▸Nat.dvd_mul_right ..)) (h2▸Nat.dvd_mul_right ..)
def ZU{a b c x y z:Int}(h1:a*y=b*x)(h2:a*z=c*x)(h3:b*z=c*y)
  (g1:Nat.gcd (Nat.gcd a.natAbs b.natAbs) c.natAbs=1)(g2:Nat.gcd (Nat.gcd x.natAbs y.natAbs) z.natAbs=1):
  (a=x/\b=y/\c=z)\/(a= -x/\b= -y/\c= -z):=by
 have n1:a.natAbs*y.natAbs=b.natAbs*x.natAbs:=by rw[<-gX,<-gX,h1]
 have n2:a.natAbs*z.natAbs=c.natAbs*x.natAbs:=by rw[<-gX,<-gX,h2]
 have n3:b.natAbs*z.natAbs=c.natAbs*y.natAbs:=by rw[<-gX,<-gX,h3]
 generalize ha:a.natAbs=A at*;generalize hb:b.natAbs=B at*;generalize hc:c.natAbs=C at*;generalize hx:x.natAbs=X at*;generalize hy:y.natAbs=Y at*;generalize hz:z.natAbs=Z at*;have gB:Nat.gcd (Nat.gcd B A) C=1:=by rw[iM B A];exact g1
 have gC:Nat.gcd (Nat.gcd C A) B=1:=by rw[Nat.gcd_assoc,iM];exact g1
 have gY:Nat.gcd (Nat.gcd Y X) Z=1:=by rw[iM Y X];exact g2
 have gZ:Nat.gcd (Nat.gcd Z X) Y=1:=by rw[Nat.gcd_assoc,iM];exact g2
 have e1:A=X:=Nat.dvd_antisymm (vO (x:=X) (y:=Y) (z:=Z) (by grind) (by grind) g1) (vO (x:=A) (y:=B) (z:=C) (by grind) (by grind) g2);have e2:B=Y:=Nat.dvd_antisymm (vO (x:=Y) (y:=X) (z:=Z) (by grind) (by grind) gB) (vO (x:=B) (y:=A) (z:=C) (by grind) (by grind) gY);have e3:C=Z:=Nat.dvd_antisymm (vO (x:=Z) (y:=X) (z:=Y) (by grind) (by grind) gC) (vO (x:=C) (y:=A) (z:=B) (by grind) (by grind) gZ);have s1:a=x\/a= -x:=by omega
 have s2:b=y\/b= -y:=by omega
 have s3:c=z\/c= -z:=by omega
 clear ha hb hc hx hy hz n1 n2 n3 g1 g2 gB gC gY gZ e1 e2 e3;have z1:= @oR x y;have z2:= @oR x z;have z3:= @oR y z;rcases s1 with rfl|rfl<;>rcases s2 with rfl|rfl<;>rcases s3 with rfl|rfl<;>grind
def Cs{l m:ab}(hl:l.ok)(hm:m.ok)(h: ∀t,l.value (m.at t)=0):l=m\/l=m.rev:=by
 have h0:=h 0;have h1:=h 1;rw[mr] at h0 h1;have hC:m.cutC l=0:=by grind
 have hK:m.cutK l=0:=by grind
 obtain⟨q,q1,q2⟩:=xJ hm.ne;have hn:=n4 hm.ne;unfold ab.cutC at hC;rw[q2,me] at hC;unfold ab.cutK at hK;simp only[ab.nor,ab.dir,aa.dot] at hK q1 hn hC;obtain⟨a,b,c⟩:=l;obtain⟨x,y,z⟩:=m;simp only at*;have e1:a*y=b*x:=by
  have:((a*y:Int):Rat)=((b*x:Int):Rat):=by rw[cR,cR];grind
  exact qU.1 this
 have e2:a*z=c*x:=by
  have:((a*z:Int):Rat)=((c*x:Int):Rat):=by rw[cR,cR];grind
  exact qU.1 this
 have e3:b*z=c*y:=by
  have:((b*z:Int):Rat)=((c*y:Int):Rat):=by rw[cR,cR];grind
  exact qU.1 this
 rcases ZU e1 e2 e3 hl.2 hm.2 with⟨rfl,rfl,rfl⟩|⟨rfl,rfl,rfl⟩
 ·exact .inl J
 ·exact .inr J
def ab.ok.rev{l:ab}(h:l.ok):l.rev.ok:=by
 obtain⟨h1,h2⟩:=h;refine⟨?_,?_⟩
 ·simp only[ab.rev];omega
 ·simp only[ab.rev,jU];exact h2
def H4(l:ab): ∀c:aE,(∀s∈c,nf l s<=0/\s.l≠l)-> ¬0<nB l c
 |[],_=>by simp[nB]
 |s::c,h=>by
  have h':=dX.1 h;unfold nB;rw[if_neg h'.1.2];split
  ·have:=h'.1.1;omega
  ·exact H4 l c h'.2
def Nk{c:aE}{l:ab}(hc:dG c)(hl:l.ok)(hp:lc c l=none):
  (0<nB l c/\ ∀p,bH c p->0<l.value p)\/(¬0<nB l c/\ ∀p,bH c p->l.value p<0):=by
 have hoff:=fun p (h:bH c p)=>Qn hl.ne hp h;by_cases hq: ∃q,bH c q/\0<l.value q
 ·left
  obtain⟨q,hq,lq⟩:=hq;have hall: ∀p,bH c p->0<l.value p:=by
   intro p h;have:=hoff p h;by_cases h0:0<l.value p
   ·exact h0
   ·exfalso
    have hn:l.value p<0:=by grind
    have e1:l.value q/(l.value q-l.value p)*(l.value q-l.value p)=l.value q:=by grind
    generalize l.value q/(l.value q-l.value p)=e at*;have f0:0<=e:=(jt (k:=l.value q-l.value p) (by grind)).1 (by grind);have f1:e<=1:=by
     have:=(jt (s:=1-e) (k:=l.value q-l.value p) (by grind)).1 (by grind);grind
    exact hoff _ (hq.seg h f0 f1) (by rw[ku];grind)
  refine⟨?_,hall⟩
  cases c with
  |nil=>simp[lc,mf] at hp
  |cons s c=>
   obtain⟨p1,p2⟩:=hc.edge s aQ;have hi:=uj p1;have hr:=wU hc.ne hall ((p2 _).1 hi.has);unfold nB;by_cases h0:nf l s=0
   ·rw[if_neg (by simpa using h0)]
    have hz:l.value (s.l.at s.v.sample)=0:=(ke _).1 h0;have hge: ∀t,s.v.has t->0<=l.value (s.l.at t):=fun t ht=>wU hc.ne hall ((p2 t).1 ht);obtain⟨⟨u1,m1,n1⟩,⟨u2,m2,n2⟩⟩:=MB hi;have g1:=hge _ n1;have g2:=hge _ n2;rw[mr] at hz g1 g2;have hK:s.l.cutK l=0:=by
     rcases fp (s.l.cutK l) with h|h|h
     ·exact h
     ·exfalso
      have:=b9 (a:=s.v.sample-u1) (b:=s.l.cutK l) (by grind) h;grind
     ·exfalso
      have:=b9 (a:=u2-s.v.sample) (b:= -s.l.cutK l) (by grind) (by grind);grind
    have hz2: ∀t,l.value (s.l.at t)=0:=fun t=>by rw[mr,hK];rw[hK] at hz;grind
    rcases Cs hl (hc.ok s aQ) hz2 with h|h
    ·rw[if_pos h.symm];decide
    ·exfalso
     have:=hall q hq;rw[h,fI] at this;have:=hq s aQ;grind
   ·rw[if_pos h0]
    have hz:l.value (s.l.at s.v.sample)≠0:=fun e=>h0 ((ke _).2 e);exact(mD _).2 (by grind)
 ·right
  have hall: ∀p,bH c p->l.value p<0:=fun p h=>by
   have:=hoff p h;have: ¬0<l.value p:=fun h'=>hq ⟨p,h,h'⟩;grind
  refine⟨H4 l c fun s hs=>?_,hall⟩;obtain⟨p1,p2⟩:=hc.edge s hs;have hr:=wU (m:=l.rev) hc.ne (fun p h=>by rw[fI];have:=hall p h;grind) ((p2 _).1 (uj p1).has);rw[fI] at hr;constructor
  ·have: ¬0<nf l s:=fun h=>by have:=(mD _).1 h;grind
   omega
  ·rintro rfl
   obtain⟨p,hp⟩:=hc.ne;have:=hall p hp;have:=hp s hs;grind
def rG{c:aE}{l:ab}(hc:dG c)(hl:l.ok):cP c l=true↔ ∃p,bH c p/\0<l.value p:=by
 unfold cP
 cases hp:lc c l with
 |some v=>exact⟨fun _=>(Jd hl.ne hp).1,fun _=>J⟩
 |none=>
  simp only[ui,hp,Option.isSome_none,cM,if_false,decide_eq_true_iff];rcases Nk hc hl hp with⟨h1,h2⟩|⟨h1,h2⟩
  ·refine⟨fun _=>?_,fun _=>h1⟩
   obtain⟨p,hp⟩:=hc.ne;exact⟨p,hp,h2 p hp⟩
  ·refine⟨fun h=>absurd h h1,?_⟩
   rintro ⟨p,hp,h⟩;have:=h2 p hp;grind
def j'{c:aE}{l:ab}(hc:dG c)(hl:l.ok)(hb:cP c l=true):dG (bF c l)/\ ∀p,bH (bF c l) p↔bH c p/\0<l.value p:=by
 unfold bF
 cases hp:lc c l with
 |some v=>exact Wh hc hl hp
 |none=>
  refine⟨hc,fun p=>?_⟩;unfold cP at hb;simp only[hp,ui,Option.isSome_none,cM,if_false,decide_eq_true_iff] at hb;rcases Nk hc hl hp with⟨h1,h2⟩|⟨h1,h2⟩
  ·exact⟨fun h=>⟨h,h2 p h⟩,fun h=>h.1⟩
  ·exact absurd hb h1
inductive aIr (c:aE) (l:ab):Prop
 |left (h1:cP c l.rev=false) (h: ∀p,bH c p->0<l.value p)
 |right (h1:cP c l.rev=true) (h2:cP c l=false) (h: ∀p,bH c p->l.value p<0)
 |both (h1:cP c l.rev=true) (h2:cP c l=true) (g1:dG (bF c l)) (g2:dG (bF c l.rev))
   (e1: ∀p,bH (bF c l) p↔bH c p/\0<l.value p) (e2: ∀p,bH (bF c l.rev) p↔bH c p/\l.value p<0)
def Tr.restrict_A{l:ab}{e:aE}(X Y:Tr)(h:cP e l.rev=false):(Tr.node l X Y).restrict e=X.restrict e:=by
 rw[Tr.restrict,h];rfl
def Tr.restrict_B{l:ab}{e:aE}(X Y:Tr)(h:cP e l.rev=true)(h2:cP e l=false):(Tr.node l X Y).restrict e=Y.restrict e:=by
 rw[Tr.restrict,h,h2];rfl
def Tr.restrict_C{l:ab}{e:aE}(X Y:Tr)(h:cP e l.rev=true)(h2:cP e l=true):(Tr.node l X Y).restrict e=Tr.joinQ l (X.restrict (bF e l)) (Y.restrict (bF e l.rev)):=by
 rw[Tr.restrict,h,h2];rfl
def pg:List ab->aE->Option aE
 |[],c=>some c
 |l::t,c=>if cP c l then pg t (bF c l) else none
def Mg: ∀{ls:List ab} {c e:aE},dG c->(∀l∈ls,l.ok)->pg ls c=some e->dG e/\ ∀p,bH e p↔bH c p/\ ∀l∈ls,0<l.value p
 |[],c,e,hc,_,h=>by
  obtain rfl:c=e:=by simpa[pg] using h
  exact⟨hc,fun p=>⟨fun h=>⟨h,fun l hl=>absurd hl (by simp)⟩,fun h=>h.1⟩⟩
 |l::t,c,e,hc,hl,h=>by
  have hl':=dX.1 hl;rw[pg] at h;split at h
  ·rename_i hb
   obtain⟨g1,g2⟩:=j' hc hl'.1 hb;obtain⟨k1,k2⟩:=Mg g1 hl'.2 h;refine⟨k1,fun p=>?_⟩;rw[k2,g2,dX,and_assoc]
  ·exact absurd h (by simp)
def Mk: ∀{ls:List ab} {c:aE},dG c->(∀l∈ls,l.ok)->(∃p,bH c p/\ ∀l∈ls,0<l.value p)-> ∃e,pg ls c=some e
 |[],c,_,_,_=>⟨c,J⟩
 |l::t,c,hc,hl,⟨p,h1,h2⟩=>by
  have hl':=dX.1 hl;have h2':=dX.1 h2;have hb:=(rG hc hl'.1).2 ⟨p,h1,h2'.1⟩;obtain⟨g1,g2⟩:=j' hc hl'.1 hb;rw[pg,if_pos hb];exact Mk g1 hl'.2 ⟨p,(g2 p).2 ⟨h1,h2'.1⟩,h2'.2⟩
def Ko{c:aE}(hc:dG c){s:aP}(hs:s∈c){m:ab}(hm:m.ok)(h: ∀p,bH c p->0<m.value p)(hz:m.value (s.l.at s.v.sample)=0):m=s.l:=by
 obtain⟨p1,p2⟩:=hc.edge s hs;have hi:=uj p1;have hge: ∀t,s.v.has t->0<=m.value (s.l.at t):=fun t ht=>wU hc.ne h ((p2 t).1 ht);obtain⟨⟨u1,m1,n1⟩,⟨u2,m2,n2⟩⟩:=MB hi;have g1:=hge _ n1;have g2:=hge _ n2;rw[mr] at hz g1 g2;have hK:s.l.cutK m=0:=by
  rcases fp (s.l.cutK m) with h|h|h
  ·exact h
  ·exfalso
   have:=b9 (a:=s.v.sample-u1) (b:=s.l.cutK m) (by grind) h;grind
  ·exfalso
   have:=b9 (a:=u2-s.v.sample) (b:= -s.l.cutK m) (by grind) (by grind);grind
 have hz2: ∀t,m.value (s.l.at t)=0:=fun t=>by rw[mr,hK];rw[hK] at hz;grind
 rcases Cs hm (hc.ok s hs) hz2 with h'|h'
 ·exact h'
 ·exfalso
  obtain⟨q,hq⟩:=hc.ne;have:=h q hq;rw[h',fI] at this;have:=hq s hs;grind
def iG(l:ab):List ab->ao->Option ao
 |[],v=>some v
 |m::t,v=>if m=l then iG l t v else if l.cutB v m then iG l t (l.cutV v m) else none
def ek(c:List ab)(p:aa):Prop:= ∀m∈c,0<m.value p
def AD(l:ab): ∀(c:List ab) (v w:ao),v.Pos->iG l c v=some w->
  w.Pos/\(∀t,w.ins t↔v.ins t/\ ∀m∈c,m≠l->0<m.value (l.at t))
 |[],v,w,hv,h=>by
  obtain rfl:v=w:=by simpa[iG] using h
  exact⟨hv,fun t=>⟨fun h=>⟨h,fun s hs=>absurd hs (by simp)⟩,fun h=>h.1⟩⟩
 |m::c,v,w,hv,h=>by
  rw[iG] at h;split at h
  ·rename_i hm
   obtain⟨h1,h2⟩:=AD l c _ w hv h;refine⟨h1,fun t=>?_⟩;rw[h2,dX];exact⟨fun h=>⟨h.1,fun h'=>absurd hm h',h.2⟩,fun h=>⟨h.1,h.2.2⟩⟩
  ·rename_i hm
   split at h
   ·rename_i hb
    obtain⟨h1,h2⟩:=AD l c _ w (xd hv hb) h;refine⟨h1,fun t=>?_⟩;rw[h2,zO hb,dX,and_assoc];exact⟨fun h=>⟨h.1,fun _=>h.2.1,h.2.2⟩,fun h=>⟨h.1,h.2.1 hm,h.2.2⟩⟩
   ·exact absurd h (by simp)
def Gk(l:ab): ∀(c:List ab) (v:ao),v.Pos->iG l c v=none-> ∀t,v.has t-> ¬ ∀m∈c,m≠l->0<m.value (l.at t)
 |[],v,hv,h=>by simp[iG] at h
 |m::c,v,hv,h=>by
  intro t ht hd;have hd':=dX.1 hd;rw[iG] at h;split at h
  ·exact Gk l c _ hv h t ht hd'.2
  ·rename_i hm
   split at h
   ·rename_i hb
    exact Gk l c _ (xd hv hb) h t ((AI hb t).2 ⟨ht,fQ (hd'.1 hm)⟩) hd'.2
   ·rename_i hb
    have:=z8 hv (by simpa using hb) ht;have:=hd'.1 hm;grind
def uk(c:List ab):Bool:=c.isEmpty||c.any (fun l=>(iG l c ao.all).isSome)
def Ik: ∀{ls:List ab} {c e:aE},pg ls c=some e-> ∀s∈e,s.l∈ls\/ ∃s'∈c,s'.l=s.l
 |[],c,e,h,s,hs=>by
  obtain rfl:c=e:=by simpa[pg] using h
  exact .inr ⟨s,hs,J⟩
 |l::t,c,e,h,s,hs=>by
  rw[pg] at h;split at h
  ·rcases Ik h s hs with h1|⟨s',h1,h2⟩
   ·exact .inl (aZ _ h1)
   ·unfold bF at h1
    split at h1
    ·rcases tJ.1 h1 with rfl|h1
     ·exact .inl (by rw[<-h2];exact aQ)
     ·obtain⟨s1,m1,_,rfl⟩:=tI.1 h1
      exact .inr ⟨s1,m1,h2⟩
    ·exact .inr ⟨s',h1,h2⟩
  ·exact absurd h (by simp)
def Zw{c:List ab}(hok: ∀l∈c,l.ok)(hne: ∃p,ek c p): ∃e,pg c []=some e/\dG e/\(∀p,bH e p↔ek c p)/\ ∀s∈e,s.l∈c/\(iG s.l c ao.all).isSome=true:=by
 obtain⟨p,hp⟩:=hne;obtain⟨e,he⟩:=Mk dG.nil hok ⟨p,fun s hs=>absurd hs (by simp),hp⟩;obtain⟨g1,g2⟩:=Mg dG.nil hok he;have g3: ∀p,bH e p↔ek c p:=fun p=>by
  rw[g2];exact⟨fun h=>h.2,fun h=>⟨fun s hs=>absurd hs (by simp),h⟩⟩
 refine⟨e,he,g1,g3,fun s hs=>?_⟩;have hm:s.l∈c:=by
  rcases Ik he s hs with h|⟨_,h,_⟩
  ·exact h
  ·exact absurd h (by simp)
 refine⟨hm,?_⟩
 cases hp:iG s.l c ao.all with
 |some w=>rfl
 |none=>
  exfalso;obtain⟨p1,p2⟩:=g1.edge s hs;have hC:=(p2 s.v.sample).1 (uj p1).has;refine Gk s.l c _ vA hp s.v.sample (GK _) fun m hmc hne=>?_;have hall: ∀p,bH e p->0<m.value p:=fun p hp=>(g3 p).1 hp m hmc;have h0:=wU g1.ne hall hC;have h1:m.value (s.l.at s.v.sample)≠0:=fun hz=>hne (Ko g1 hs (hok m hmc) hall hz);grind
def R3{c:List ab}(hok: ∀l∈c,l.ok):uk c=true↔ ∃p,ek c p:=by
 unfold uk;rw[iN,List.isEmpty_iff,jR];constructor
 ·rintro (rfl|⟨l,hl,h⟩)
  ·exact⟨⟨0,0⟩,fun m hm=>absurd hm (by simp)⟩
  ·obtain⟨w,hw⟩:=Option.isSome_iff_exists.1 h
   obtain⟨w1,w2⟩:=AD l c _ w vA hw;have hi:=((w2 w.sample).1 (uj w1)).2;have h0:=rm (hok l hl).ne w.sample;have hd:bH ((c.filter (fun m=>decide (m≠l))).map (fun m=>(⟨m,ao.all⟩:aP))) (l.at w.sample):=by
    intro s hs;obtain⟨m,hm,rfl⟩:=bW.1 hs;rw[kU,decide_eq_true_iff] at hm;exact hi m hm.1 hm.2
   obtain⟨e,he,ho⟩:=hd.open l.nor;refine⟨cd (l.at w.sample) l.nor e,fun m hm=>?_⟩;by_cases hml:m=l
   ·subst hml
    rw[ie,h0];have:=b9 he (n4 (hok m hl).ne);grind
   ·exact ho e (fQ he) gS ⟨m,ao.all⟩ (bW.2 ⟨m,kU.2 ⟨hm,by simpa using hml⟩,J⟩)
 ·intro hne
  obtain⟨e,h1,h2,h3,h4⟩:=Zw hok hne
  cases c with
  |nil=>exact .inl J
  |cons l c=>
   right
   cases e with
   |nil=>
    exfalso;have:=(h3 (l.at 0)).1 (fun s hs=>absurd hs (by simp)) l aQ;rw[rm (hok l aQ).ne] at this;exact absurd this (by decide)
   |cons s e=>
    obtain⟨a,b⟩:=h4 s aQ;exact⟨s.l,a,b⟩
def CQ(out:List ab)(l:ab):Nat:=(out.takeWhile (fun x=>decide (di x.dir l.dir<0))).length
def TH(out:List ab)(l:ab):List ab:=if out[CQ out l]? =some l then out else out.take (CQ out l)++l::out.drop (CQ out l)
def F7(c:List ab):List ab->List ab->List ab
 |[],out=>out
 |l::t,out=>F7 c t (if(iG l c ao.all).isSome then TH out l else out)
def rp(c:List ab):List ab:=F7 c c []
def BR(c:List ab)(l:ab):Int:=if uk (c++[l])&&uk (c++[l.rev]) then 0 else if uk (c++[l]) then 1 else-1
def Tr.restrictL:Tr->List ab->Tr
 | .leaf b,_=> .leaf b
 | .node l x y,c=>if BR c l=1 then x.restrictL c else if BR c l= -1 then y.restrictL c else joinQ l (x.restrictL (rp (c++[l]))) (y.restrictL (rp (c++[l.rev])))
def Ez{c:List ab}{l:ab}{p:aa}:ek (c++[l]) p↔ek c p/\0<l.value p:=by
 unfold ek;rw[List.forall_mem_append];simp
def Og{c:List ab}{l:ab}(hok: ∀m∈c,m.ok)(hl:l.ok): ∀m∈c++[l],m.ok:=by
 rw[List.forall_mem_append];exact⟨hok,by simpa using hl⟩
end Go.Sx
end
section
namespace Go.Sx
open Go Go.Proofs Tryz
variable {GB:Gh}
structure BC where
 lo:RV
 hi:RV
 nl:Bool
 nh:Bool
def BC.v(z:BC):Value:= .agg ⟨[.int .i64 z.lo.n, .int .i64 z.lo.d, .pointer z.lo.p, .int .i64 z.hi.n, .int .i64 z.hi.d, .pointer z.hi.p, .bool z.nl, .bool z.nh]⟩
section
variable {P:Program} {C:aC} {n:Nat} {fr:Fr} {own own' own1:List aj} {G:Gh} {Φ:Act->World->Prop}
variable {dst:Option Nat} {t t' ty':TypeId} {pos:String} {af:Array Edge} {gd:Option (Nat×Bool)} {x y:Operand} {e s by_:Nat}
end
structure TX (k:Nat) (G:Gh) (z:BC) (v:ao):Prop where
 lo:uF k G z.lo v.lo
 hi:uF k G z.hi v.hi
 nl:z.nl=v.nl
 nh:z.nh=v.nh
def OH:List Int->Int
 |[]=>0
 |x::t=>if x≠0 then x else OH t
def aIz(l m:ab):Int:=OH [cp l.a m.a,cp l.b m.b,cp l.c m.c]
structure xv where
 l:LV
 v:BC
def xv.val(z:xv):Value:= .agg ⟨[.int .i64 z.l.a.n, .int .i64 z.l.a.d, .pointer z.l.a.p, .int .i64 z.l.b.n, .int .i64 z.l.b.d, .pointer z.l.b.p, .int .i64 z.l.c.n, .int .i64 z.l.c.d, .pointer z.l.c.p, .int .i64 z.v.lo.n, .int .i64 z.v.lo.d, .pointer z.v.lo.p, .int .i64 z.v.hi.n, .int .i64 z.v.hi.d, .pointer z.v.hi.p, .bool z.v.nl, .bool z.v.nh]⟩
structure aHI (k:Nat) (G:Gh) (z:xv) (f:aP):Prop where
 l:FI k G z.l f.l
 v:TX (25*k+6) G z.v f.v
inductive f4 {α β:Type} (R:α->β->Prop):List α->List β->Prop
 |nil:f4 R [] []
 |cons {a b us bs} (h:R a b) (t:f4 R us bs):f4 R (a::us) (b::bs)
def f4.len{α β:Type}{R:α->β->Prop}{us:List α}{bs:List β}(h:f4 R us bs):us.length=bs.length:=by
 induction h with
 |nil=>rfl
 |cons _ _ ih=>simp[ih]
def f4.imp{α β:Type}{R S:α->β->Prop}{us:List α}{bs:List β}(h:f4 R us bs)(k: ∀a b,R a b->S a b):f4 S us bs:=by
 induction h with
 |nil=>exact .nil
 |cons h _ ih=>exact .cons (k _ _ h) ih
def f4.get{α β:Type}{R:α->β->Prop}{us:List α}{bs:List β}(h:f4 R us bs){i:Nat}{b:β}(hi:bs[i]? =some b): ∃a,us[i]? =some a/\R a b:=by
 induction h generalizing i with
 |nil=>simp at hi
 | @cons a b' us bs h t ih=>
  cases i with
  |zero=>simp at hi;subst hi;exact⟨a,J,h⟩
  |succ i=>simpa using ih (i:=i) (by simpa using hi)
def f4.app{α β:Type}{R:α->β->Prop}{us us':List α}{bs bs':List β}(h:f4 R us bs)(k:f4 R us' bs'):f4 R (us++us') (bs++bs'):=by
 induction h with
 |nil=>exact k
 |cons h _ ih=>exact .cons h ih
structure Ri (k:Nat) (G:Gh) (x:SV) (c:aE):Prop where
 ex: ∃fs:List xv,ee G 17 x (fs.map xv.val)/\f4 (aHI k G) fs c

section
variable {P:Program} {C:aC} {n:Nat} {fr:Fr} {own own':List aj} {G:Gh} {Φ:Act->World->Prop}
variable {dst:Option Nat} {t t' ty':TypeId} {pos:String} {af:Array Edge} {gd:Option (Nat×Bool)} {x y:Operand} {e s by_:Nat}
def Qe{o1 o2:aj}{rest:List aj}(h:o1.b≠o2.b->St C n fr (o1::o2::rest) G Φ):St C n fr (o1::o2::rest) G Φ:=
 fun a w rl=>h ((bY.1 rl.h.nd).1 _ aQ) a w rl
def BH[hT:ce P t e s by_]{k:IntKind}{b off len cap:Nat}{l:Int}(hx:av fr x=some (.slice (some ⟨b,off,none⟩) len cap))(hy:av fr y=some (.int k l))(h0:0<=l)(h1:l<=len)(h2:l<cap):
  Yd P C fr own G ⟨dst, .slice t x (some y) none none,ty',pos,af,gd⟩ (.slice (some ⟨b,off+l.toNat*s,none⟩) (len-l.toNat) (cap-l.toNat)):=by
 have h:=A3 (P:=P) (C:=C) (own:=own) (G:=G) (t:=t) (dst:=dst) (ty':=ty') (pos:=pos) (af:=af) (gd:=gd) (by_:=by_) hx hy h0 h1;unfold lA at h;rw[if_neg (by omega)] at h;simpa[n7] using h
end

section
variable {P:Program} {C:aC} {n:Nat} {fr:Fr} {own own':List aj} {G:Gh} {Φ:Act->World->Prop}
variable {dst:Option Nat} {t t' ty':TypeId} {pos:String} {af:Array Edge} {gd:Option (Nat×Bool)} {x y:Operand} {e s by_:Nat}
end

def C4(k:Nat)(G:Gh):Tr->Option Addr->Prop
 | .leaf b,p=> ∃n,p=some ⟨n,0,none⟩/\G n=some [.int .i64 0, .int .i64 0, .pointer none, .int .i64 0, .int .i64 0, .pointer none, .int .i64 0, .int .i64 0, .pointer none, .pointer none, .pointer none, .bool b]
 | .node l x y,p=> ∃(n:Nat) (z:LV) (q r:Option Addr),p=some ⟨n,0,none⟩/\G n=some [.int .i64 z.a.n, .int .i64 z.a.d, .pointer z.a.p, .int .i64 z.b.n, .int .i64 z.b.d, .pointer z.b.p, .int .i64 z.c.n, .int .i64 z.c.d, .pointer z.c.p, .pointer q, .pointer r, .bool false]/\FI k G z l/\C4 k G x q/\C4 k G y r
structure ND where
 a:IV
 b:IV
 c:IV
 l:Int
 r:Int
def ND.val(z:ND):Value:= .agg ⟨[.bool z.a.neg, .slice z.a.a.a z.a.a.n z.a.a.c, .bool z.b.neg, .slice z.b.a.a z.b.a.n z.b.a.c, .bool z.c.neg, .slice z.c.a.a z.c.a.n z.c.a.c, .int .i64 z.l, .int .i64 z.r]⟩
structure qp (k:Nat) (G:Gh) (z:ND) (n:NQ):Prop where
 a:lC k G z.a n.l.a
 b:lC k G z.b n.l.b
 c:lC k G z.c n.l.c
 l:z.l=n.a
 r:z.r=n.b
def qp.up{k:Nat}{A G:Gh}{z:ND}{n:NQ}(h:qp k A z n)[GL A G]:qp k G z n:=⟨h.a.up,h.b.up,h.c.up,h.l,h.r⟩
structure Q8 (k:Nat) (G:Gh) (x:SV) (ns:List NQ):Prop where
 ex: ∃zs:List ND,ee G 8 x (zs.map ND.val)/\f4 (qp k G) zs ns
def aHD(n i:Nat):List Value:=(List.range n).map fun j=> .bool (decide (j<i))

def ND.len8(zs:List ND): ∀v∈zs.map ND.val,(aD v).length=8:=fun v hv=>by
 obtain⟨f,_,rfl⟩:=bW.1 hv;rfl
def ND.flat(zs:List ND): ∀v∈zs.map ND.val,∀c∈aD v,Sx.flat c=true:=fun v hv c hc=>by
 obtain⟨f,_,rfl⟩:=bW.1 hv;simp only[ND.val,aD,aU,jL,or_false] at hc;rcases hc with rfl|rfl|rfl|rfl|rfl|rfl|rfl|rfl<;>rfl
def f4.set{α β:Type}{R:α->β->Prop}{us:List α}{bs:List β}(h:f4 R us bs){a:α}{b:β}(hr:R a b)(i:Nat):f4 R (us.set i a) (bs.set i b):=by
 induction h generalizing i with
 |nil=>simp;exact .nil
 |cons h t ih=>
  cases i with
  |zero=>exact .cons hr t
  |succ i=>exact .cons h (ih i)
def KF(zs:List ND)(rest:List Value)(i j:Nat)(x:Value)(z:ND)(hi:i<zs.length)(hj:j<8)(hz:aD z.val=(aD (zs[i]).val).set j x):
  (aB (zs.map ND.val)++rest).set (i*8+j) x=aB ((zs.set i z).map ND.val)++rest:=by
 have hi':i<(zs.map ND.val).length:=by simpa using hi
 rw[Ij hj _ i hi' (ND.len8 zs),List.getElem_map,<-hz,pV,List.set_eq_take_append_cons_drop,if_pos hi',lG];have e:aB (z.val::(zs.map ND.val).drop (i+1))=aD z.val++aB ((zs.map ND.val).drop (i+1)):=by simp[aB]
 rw[e];simp[dQ]
def nk(ob wb:Nat):Value:= .func (.func 170) #[] #[.pointer (some ⟨ob,0,none⟩), .pointer (some ⟨wb,0,none⟩)]
structure zy where
 x:SV
 p:Option Addr
def zy.val(z:zy):Value:= .agg ⟨[.slice z.x.a z.x.n z.x.c, .pointer z.p]⟩
structure VB (k:Nat) (G:Gh) (z:zy) (b:Bool×aE):Prop where
 c:Ri k G z.x b.2
 t:C4 k G (.leaf b.1) z.p
structure aIJ (k:Nat) (G:Gh) (w:SV) (ps:List (Bool×aE)):Prop where
 ex: ∃zs:List zy,ee G 2 w (zs.map zy.val)/\f4 (VB k G) zs ps
structure LI where
 a:IV
 b:IV
 c:IV
def LI.val(z:LI):Value:= .agg ⟨[.bool z.a.neg, .slice z.a.a.a z.a.a.n z.a.a.c, .bool z.b.neg, .slice z.b.a.a z.b.a.n z.b.a.c, .bool z.c.neg, .slice z.c.a.a z.c.a.n z.c.a.c]⟩
structure SH (k:Nat) (G:Gh) (z:LI) (l:ab):Prop where
 a:lC k G z.a l.a
 b:lC k G z.b l.b
 c:lC k G z.c l.c
structure aHH (k:Nat) (G:Gh) (x:SV) (ls:List ab):Prop where
 ex: ∃zs:List LI,ee G 6 x (zs.map LI.val)/\f4 (SH k G) zs ls
structure aHP (k:Nat) (G:Gh) (x:SV) (ls:List ab):Prop where
 ex: ∃zs:List LV,ee G 9 x (zs.map LV.v)/\f4 (FI k G) zs ls
def ut{a b:Int}(h:a=b):eI a=eI b:=by rw[h]
def CE(z:Int):eQ (z:Rat)= .ag [.v (.bool (decide (z<0))),dN z.natAbs, .sl []]:=by unfold eQ;rw[sJ,qY];rfl
def Cl{a:Rat}(h:a.den=1):((a.num:Int):Rat)=a:=Rat.ext (sJ _) (by rw[qY,h])
def VI{a b:Rat}(ha:a.den=1)(hb:b.den=1):a+b=((a.num+b.num:Int):Rat):=by
 rw[oS,Cl ha,Cl hb]
def Tx{a b:Rat}(ha:a.den=1)(hb:b.den=1):a*b=((a.num*b.num:Int):Rat):=by
 rw[cR,Cl ha,Cl hb]
def wE(n:Nat)(h:0<n):(if n=1 then [] else(dg n).map dU).length=0↔n=1:=by
 by_cases q:n=1
 ·simp[q]
 ·rw[if_neg q,aJ,wV];omega
def Ll{n:Nat}(h:n≠1):dD n=dN n:=by unfold dD;rw[if_neg h];rfl
def D4{g:Nat}:(gg g 1=0)↔g=1:=by
 unfold gg;constructor
 ·intro h;split at h
  ·exact absurd h (by decide)
  ·split at h
   ·assumption
   ·exact absurd h (by decide)
 ·rintro rfl;rfl
def Ml{x:Int}{d:Nat}(hd:0<d):zv (decide (x<0)) (x.natAbs/Nat.gcd x.natAbs d)=(mkRat x d).num:=by
 rw[Rat.num_mkRat,if_neg (by omega),iM];have hg:0<Nat.gcd d x.natAbs:=kS _ hd;obtain⟨c,hc⟩:Nat.gcd d x.natAbs∣x.natAbs:=jM _ _;generalize Nat.gcd d x.natAbs=g at*;rw[hc,qL _ hg];unfold zv;by_cases q:x<0
 ·rw[if_pos (by simpa using q),show x=(g:Int)*(-(c:Int)) by rw[Int.mul_neg,<-jQ];omega,Int.mul_ediv_cancel_left _ (by omega)]
 ·rw[if_neg (by simpa using q),show x=(g:Int)*(c:Int) by rw[<-jQ];omega,Int.mul_ediv_cancel_left _ (by omega)]
def Ot{x:Int}{d:Nat}(hd:0<d):d/Nat.gcd x.natAbs d=(mkRat x d).den:=by
 rw[Rat.den_mkRat,if_neg (by omega),iM]
def P5{x:Int}{d:Nat}(hd:0<d)(h:Nat.gcd x.natAbs d=1):(mkRat x d).num=x/\(mkRat x d).den=d:=by
 rw[<-Ml hd,<-Ot hd,h,sM,sM];exact⟨kE x,J⟩
instance BI.zv (neg:Bool) (m i:Nat) [h:BN m i]:BI (zv neg m) i:=⟨by rw[o4];exact h.h⟩
section
variable {GB:Gh} {C:aC} {n:Nat} {Q0:Exit->Act->World->Prop} {fr fr':aw} {own own':aH} {cf cf':Cf} {vc:List Prop}
def Jh(fr:aw)(cf:Cf):Option Int:=match cb fr cf with
 |some ⟨_, .convert t t' x,_,_,_,_⟩=>match dh tt t,dh tt t' with
  |some ⟨.int .i64,_,_,_⟩,some ⟨.int .u64,_,_,_⟩=>match aI (bw fr cf) x with
   |some (.d (.v (.int .i64 p)))=>some p
   |_=>none
  |_,_=>none
 |_=>none
def Un[fu:Fu]{p:Int}(q:Int)(h:Jh fr cf=some p)(e:p%18446744073709551616=q)(hgo:cD tt n fu.n fr own cf (.d (.v (.int .u64 q))) [] []=⟨vc,fr',own',cf'⟩)(k:ak prog GB C n Q0 fr' own' cf')
  (hv:ah vc:=by first|exact trivial|(simp only[ah];omega)):ak prog GB C n Q0 fr own cf:=by
 unfold Jh at h;split at h<;>try (cases h;done)
 rename_i hh;split at h<;>try (cases h;done)
 rename_i hT hT';split at h<;>cases h;rename_i hx;have:=xl (d7 _ _ hT) J;have:=xl (d7 _ _ hT') J;refine us hh (.x1 hx fun ρ G ov a w y _ r h1 h2=>?_) hgo hv k;rw[c8] at h2;subst h2;refine⟨_,c8.2 J,?_⟩;rw[<-e,<-mi];exact Aw h1
def NB(fr:aw)(cf:Cf):Option Int:=match cb fr cf with
 |some ⟨_, .unOp .neg _ x,_,_,_,_⟩=>match aI (bw fr cf) x with
  |some (.d (.v (.int .u64 p)))=>some p
  |_=>none
 |_=>none
def S8[fu:Fu]{p:Int}(q:Int)(h:NB fr cf=some p)(e:(0-p)%18446744073709551616=q)(hgo:cD tt n fu.n fr own cf (.d (.v (.int .u64 q))) [] []=⟨vc,fr',own',cf'⟩)(k:ak prog GB C n Q0 fr' own' cf')
  (hv:ah vc:=by first|exact trivial|(simp only[ah];omega)):ak prog GB C n Q0 fr own cf:=by
 unfold NB at h;split at h<;>try (cases h;done)
 rename_i hh;split at h<;>cases h;rename_i hx;refine us hh (.x1 hx fun ρ G ov a w y _ r h1 h2=>?_) hgo hv k;rw[c8] at h2;subst h2;refine⟨_,c8.2 J,?_⟩;rw[<-e,<-mi];exact Dk h1
end
def L9{n:Int}(h0: -4611686018427387904<=n)(h1:n<=4611686018427387904):PF GB prog 157 [.v (.int .i64 n)] (eI n):=by
 refine fn func157 J J ntmps157 J J (fun C=>?_);refine br (fu1:=⟨3⟩) (fu2:=⟨6⟩) J J J (fun hc4=>?_) (fun hc4=>?_)
 .
  refine Un (fu:=⟨0⟩) (18446744073709551616+n) J (by omega) J<|S8 (n.natAbs:Nat) J (by omega) J<|cl J (qE (u:=n.natAbs) (by omega)) J<|?_;refine cl J n9 J<|?_;exact rz J (ut (by unfold zv;rw[if_pos J];omega))
 .
  refine aA 11 (.d (.v (.int .u64 (n.natAbs:Nat)))) J (by show FX.d (.v (.int _ _))= .d (.v (.int _ _));congr 3;omega) ?_;refine gx J<|cl J (qE (u:=n.natAbs) (by omega)) J<|cl J n9 J<|?_;exact rz J (ut (by unfold zv;rw[if_neg (by decide)];omega))
def UF{z:Int}:PF GB prog 123 [eI z] (vI z.sign):=by
 have hl:=fj (dg z.natAbs);have hz:= @wV z.natAbs;refine fn func123 J J ntmps123 J J (fun C=>?_);refine br J J J (fun hc6=>?_) (fun hc6=>?_)
 .
  exact rz J (by show DV.v (.int _ 0)=DV.v (.int _ _);rw[show z=0 by omega];rfl)
 .
  refine bd J J J (fun hc8=>?_) (fun hc8=>?_)
  .
   exact rz J (by show DV.v (.int _ (-1))=DV.v (.int _ _);rw[dY (by omega)])
  .
   exact rz J (by show DV.v (.int _ 1)=DV.v (.int _ _);rw[dS (by omega)])
def SW{z:Int}:PF GB prog 124 [eI z] (eI (-z)):=by
 refine fn func124 J J ntmps124 J J (fun C=>?_);refine cl J n9 J<|?_;exact rz J (ut (VC z))
def avA{a b:Int}(h:decide (a<0)=decide (b<0)):zv (decide (a<0)) (a.natAbs+b.natAbs)=a+b:=by
 unfold zv;have h':a<0↔b<0:=by simpa using h
 by_cases q:a<0
 ·have:=h'.1 q
  simp[q];omega
 ·have: ¬b<0:=fun w=>q (h'.2 w)
  simp[q];omega
def Td{a b:Int}(h: ¬decide (a<0)=decide (b<0))(k:a.natAbs<b.natAbs):zv (decide (b<0)) (b.natAbs-a.natAbs)=a+b:=by
 unfold zv;have h': ¬(a<0↔b<0):=by simpa using h
 by_cases q:b<0
 ·have: ¬a<0:=fun w=>h' ⟨fun _=>q,fun _=>w⟩
  simp[q];omega
 ·have:a<0:=Int.not_le.1 fun w=>h' ⟨fun e=>by omega,fun e=>absurd e q⟩
  simp[q];omega
def X0{a b:Int}(h: ¬decide (a<0)=decide (b<0))(k:b.natAbs<=a.natAbs):zv (decide (a<0)) (a.natAbs-b.natAbs)=a+b:=by
 unfold zv;have h': ¬(a<0↔b<0):=by simpa using h
 by_cases q:a<0
 ·have: ¬b<0:=fun w=>h' ⟨fun _=>w,fun _=>q⟩
  simp[q];omega
 ·have:b<0:=Int.not_le.1 fun w=>h' ⟨fun e=>absurd e q,fun e=>by omega⟩
  simp[q];omega
def Hw{a b:Int}{i j:Nat}[ha:BI a i][hb:BI b j](hi:i<=400000000:=by decide)(hj:j<=400000000:=by decide):PF GB prog 240 [eI a,eI b] (eI (a+b)):=by
 have hba:=ma ha.h;have hbb:=ma hb.h;refine fn (fu:=⟨15⟩) func240 J J ntmps240 J J (fun C=>?_);refine aA 9 (.d (.v (.bool (decide (decide (a<0)=decide (b<0)))))) J (by congr 2) ?_;refine gx J<|?_;refine bd J J J (fun hc9=>?_) (fun hc9=>?_)
 .
  refine cl J (XB (by omega) (by omega)) J<|cl J n9 J<|?_;exact rz J (ut (avA hc9))
 .
  refine cl J (yU (by omega) (by omega)) J<|?_;refine br J J J (fun hc23=>?_) (fun hc23=>?_)
  .
   refine cl J (Gl (by have:=xg.1 hc23;omega) (by omega)) J<|cl J n9 J<|?_;exact rz J (ut (Td hc9 (xg.1 hc23)))
  .
   refine cl J (Gl (rR fun q=>hc23 (xg.2 q)) (by omega)) J<|cl J n9 J<|?_;exact rz J (ut (X0 hc9 (rR fun q=>hc23 (xg.2 q))))
def uA{a b:Int}{i j:Nat}[ha:BI a i][hb:BI b j](hi:i<=400000000:=by decide)(hj:j<=400000000:=by decide):PF GB prog 238 [eI a,eI b] (eI (a*b)):=by
 refine fn func238 J J ntmps238 J J (fun C=>?_);refine cl J (u9 (by omega) (by omega)) J<|cl J n9 J<|?_;exact rz J (ut (Ug a b))
def nq{q:Rat}:PF GB prog 195 [eQ q] (dN q.den):=by
 refine fn func195 J J ntmps195 J J (fun C=>?_);refine br J J J (fun hc6=>?_) (fun hc6=>?_)
 .
  refine cl J CY J<|?_;exact rz J (by rw[(wE q.den (mh q)).1 (by omega)];rfl)
 .
  exact rz J (by exact Ll (fun e=>hc6 (by exact congrArg Int.ofNat ((wE q.den (mh q)).2 e))))
def K1{n k:Nat}[h:BN n k](hk:k<=500000000):(dg n).length<=100000000:=by have:=ma h.h;omega
def zk{x:Int}{d i j:Nat}[hx:BI x i][hd:BN d j](hd0:0<d)(hi:i<=200000000:=by decide)(hj:j<=200000000:=by decide):PF GB prog 156 [eI x,dN d] (eQ (mkRat x d)):=by
 obtain⟨q,hq⟩: ∃q,q=mkRat x d:=⟨_,rfl⟩;obtain⟨g,hg⟩: ∃g,g=Nat.gcd x.natAbs d:=⟨_,rfl⟩;have hg0:0<g:=hg▸nS _ hd0;haveI hgB:BN g (i+j):=hg▸inferInstance;have hg1:(dg g).length<=100000000:=K1 (k:=i+j) (by omega);have ho1:(dg 1).length<=100000000:=by rw[x5];decide
 haveI hqB:BQ q (i+j):=hq▸rD hd0 (cS hx.h (bZ (by decide) (by omega))) (cS hd.h (bZ (by decide) (by omega)));refine fn func156 J J ntmps156 J J (fun C=>?_);refine cl (fu:=⟨0⟩) J (SB (by omega) (by omega)) J<|?_;refine aA 11 (.d (dN g)) J (by rw[hg]) ?_;refine gx (fu:=⟨4⟩) J<|?_;refine mg (fu:=⟨1⟩) (X:=Unit) (fun _=>[(1, .d (dN q.den)),(2, .ov 2 0),(4, .ov 4 0)]) (fun _=>[(4,some (.o 79 [.ff, .nl, .nl] true)),(2,some (.o 77 [.d (.v (.bool (decide (q.num<0)))), .d (dN q.num.natAbs)] true))]) (fun _=>True) [1,2,4] [4,2] rfl ?_ (fun _=>J) (fun _ hm=>?_)
 .
  refine gx J<|cl J CY J<|cl J (yU hg1 ho1) J<|?_;refine br J J J (fun hc15=>?_) (fun hc15=>?_)
  .
   refine cl J (Cw hg0 (by omega) (by omega)) J<|cl (fu:=⟨0⟩) J n9 J<|?_;refine aA 26 (.d (eI q.num)) J (by show FX.d (eI (zv _ _))=_;rw[hg,Ml hd0,hq]) ?_;refine gx J<|cl (fu:=⟨2⟩) J (Cw hg0 (by omega) (by omega)) J<|?_;refine aA 31 (.d (dN q.den)) J (by rw[hg,Ot hd0,hq]) ?_;refine gx J<|?_;exact at_ () trivial
  .
   have hm:=P5 (x:=x) hd0 (by rw[<-hg];exact D4.1 (Decidable.not_not.1 hc15));rw[<-hq] at hm;refine aA 1 (.d (dN q.den)) J (by rw[hm.2]) ?_;exact at_ () trivial (hO:=⟨J,by rw[hm.1];rfl,trivial⟩)
 .
  refine mg (X:=Unit) (fun _=>[(1, .d (dD q.den)),(2, .ov 2 0),(4, .ov 4 0)]) (fun _=>[(4,some (.o 79 [.ff, .nl, .nl] true)),(2,some (.o 77 [.d (.v (.bool (decide (q.num<0)))), .d (dN q.num.natAbs)] true))]) (fun _=>True) [1,2,4] [4,2] rfl ?_ (fun _=>J) (fun _ hm=>?_)
  .
   refine gx J<|cl J CY J<|cl J (yU (K1 (k:=i+j) (by omega)) ho1) J<|?_;refine br J J J (fun hc36=>?_) (fun hc36=>?_)
   .
    refine RU 1 J ?_;refine aA 1 (.d (dD q.den)) J (by rw[D4.1 hc36];rfl) ?_;exact at_ () trivial
   .
    refine aA 1 (.d (dD q.den)) J (by rw[Ll (fun e=>hc36 (D4.2 e))]) ?_;exact at_ () trivial
  .
   exact rz J (by rw[<-hq];rfl)
def Mv(a:Rat):mkRat a.num a.den=a:=by simp[sT]
def YA{a b:Rat}(h:b≠0):a/b=mkRat (a.num*zv (decide (b.num<0)) b.den) (a.den*b.num.natAbs):=by
 rw[lN];have ha:(a.num:Rat)/(a.den:Rat)=a:=by rw[<-lN,Mv]
 have hb:(b.num:Rat)/(b.den:Rat)=b:=by rw[<-lN,Mv]
 have h1:(a.den:Rat)≠0:=by have:=a.den_nz;exact_mod_cast this
 have h2:(b.den:Rat)≠0:=by have:=b.den_nz;exact_mod_cast this
 have h3:(b.num:Rat)≠0:=by
  intro e;rw[e] at hb;apply h;rw[<-hb];grind
 rw[cR,Rat.natCast_mul];by_cases q:b.num<0
 ·have e1:((zv (decide (b.num<0)) b.den:Int):Rat)= -(b.den:Rat):=by
   unfold zv;rw[if_pos (by simpa using q),oL];rfl
  have e2:((b.num.natAbs:Nat):Rat)= -(b.num:Rat):=by
   have:((b.num.natAbs:Nat):Int)= -b.num:=by omega
   rw[<-oL,<-this];rfl
  rw[e1,e2];generalize (a.num:Rat)=an at*;generalize (a.den:Rat)=ad at*;generalize (b.num:Rat)=bn at*;generalize (b.den:Rat)=bd at*;subst ha hb;grind
 ·have e1:((zv (decide (b.num<0)) b.den:Int):Rat)=(b.den:Rat):=by
   unfold zv;rw[if_neg (by simpa using q)];rfl
  have e2:((b.num.natAbs:Nat):Rat)=(b.num:Rat):=by
   have:((b.num.natAbs:Nat):Int)=b.num:=by omega
   rw[<-this];rfl
  rw[e1,e2];generalize (a.num:Rat)=an at*;generalize (a.den:Rat)=ad at*;generalize (b.num:Rat)=bn at*;generalize (b.den:Rat)=bd at*;subst ha hb;grind
def WG{q:Rat}{n:Int}{d:Nat}(hd:0<d)(h:q*(d:Rat)=(n:Rat)):q.num.natAbs<=n.natAbs/\q.den<=d:=by
 have e:q=mkRat n d:=by
  rw[lN];have:(d:Rat)≠0:=by exact_mod_cast (by omega:d≠0)
  rw[<-h];grind
 rw[e,Rat.num_mkRat,Rat.den_mkRat,if_neg (by omega),if_neg (by omega)];exact⟨nK n (d.gcd n.natAbs:Nat),kY ..⟩
theorem BQ.of_frac{q:Rat}{n:Int}{d i:Nat}(hd:0<d)(h:q*(d:Rat)=(n:Rat))(hn:n.natAbs<2^i)(hdi:d<2^i):BQ q i:=by
 have:=WG hd h;exact⟨by omega,by omega⟩
def Rw{b:Rat}(h:b≠0):0<b.num.natAbs:=by
 have:b.num≠0:=fun e=>h (kQ.1 e);omega
instance BQ.over (a b:Rat) (i j:Nat) [ha:BQ a i] [hb:BQ b j]:BQ (a/b) (i+j):=by
 by_cases h:b=0
 ·subst h
  rw[Rat.div_def,Rat.inv_zero,Rat.mul_zero];have h2:=ha.hd;have h3:0<a.den:=mh a;have h4:2^i*1<=2^i*2^j:=fY _ (fX (by decide));rw[<-fJ] at h4;exact⟨by show 0<_;omega,by show 1<_;omega⟩
 ·rw[YA h]
  have hb0:=Rw h;refine rD (iX (mh a) hb0) ?_ (l8 ha.hd hb.hn);rw[gX,o4];exact l8 ha.hn hb.hd
def zS{n:Int}(h0: -4611686018427387904<=n)(h1:n<=4611686018427387904):PF GB prog 101 [.v (.int .i64 n)] (eQ (n:Rat)):=by
 refine fn func101 J J ntmps101 J J (fun C=>?_);refine cl J (L9 (by omega) (by omega)) J<|?_;exact rz J (by rw[CE];rfl)
def HI{q:Rat}:PF GB prog 44 [eQ q] (vI q.num.sign):=by
 refine fn func44 J J ntmps44 J J (fun C=>?_);refine cl J UF J<|?_;exact rz J J
def X5{q:Rat}:PF GB prog 45 [eQ q] (eQ (-q)):=by
 refine fn func45 J J ntmps45 J J (fun C=>?_);refine cl J SW J<|?_;exact rz J (by unfold eQ;rw[mU,pJ];rfl)
def Bt{a b:Rat}{i j:Nat}[ha:BQ a i][hb:BQ b j](hi:i<=20000000:=by decide)(hj:j<=20000000:=by decide):PF GB prog 149 [eQ a,eQ b] (eQ (a*b)):=by
 have had:=mh a;have hbd:=mh b;have hdp:=iX had hbd;have e1:=wE a.den had;have e2:=wE b.den hbd;refine fn func149 J J ntmps149 J J (fun C=>?_);refine cs 9 J J J (fun hg9=>?_) (fun hg9=>?_)
 .
  refine br J J J (fun hc14=>?_) (fun hc14=>?_)
  .
   refine cl J (uA (a:=a.num) (b:=b.num) (by omega) (by omega)) J<|?_;exact rz J (by rw[Tx (e1.1 (by omega)) (e2.1 (by omega)),CE];rfl)
  .
   refine cl J (uA (a:=a.num) (b:=b.num) (by omega) (by omega)) J<|cl J nq J<|cl J nq J<|cl J (u9 (by omega) (by omega)) J<|?_;refine cl J (zk hdp (by omega) (by omega)) J<|?_;exact rz J (by rw[y6];rfl)
 .
  refine cl J (uA (a:=a.num) (b:=b.num) (by omega) (by omega)) J<|cl J nq J<|cl J nq J<|cl J (u9 (by omega) (by omega)) J<|?_;refine cl J (zk hdp (by omega) (by omega)) J<|?_;exact rz J (by rw[y6];rfl)
def GJ{a b:Rat}{i j:Nat}[ha:BQ a i][hb:BQ b j](hi:i<=20000000:=by decide)(hj:j<=20000000:=by decide):PF GB prog 148 [eQ a,eQ b] (eQ (a+b)):=by
 have had:=mh a;have hbd:=mh b;have hdp:=iX had hbd;have e1:=wE a.den had;have e2:=wE b.den hbd;refine fn func148 J J ntmps148 J J (fun C=>?_);refine cs 9 J J J (fun hg9=>?_) (fun hg9=>?_)
 .
  refine br J J J (fun hc14=>?_) (fun hc14=>?_)
  .
   refine cl J (Hw (by omega) (by omega)) J<|?_;exact rz J (by rw[VI (e1.1 (by omega)) (e2.1 (by omega)),CE];rfl)
  .
   refine cl J nq J<|cl J n9 J<|cl J (uA (a:=a.num) (b:=zv false b.den) (by omega) (by omega)) J<|cl J nq J<|cl J n9 J<|?_;refine cl J (uA (a:=b.num) (b:=zv false a.den) (by omega) (by omega)) J<|cl J (Hw (by omega) (by omega)) J<|cl J nq J<|?_;refine cl J nq J<|cl J (u9 (by omega) (by omega)) J<|cl J (zk hdp (by omega) (by omega)) J<|?_;exact rz J (by rw[xP];rfl)
 .
  refine cl J nq J<|cl J n9 J<|cl J (uA (a:=a.num) (b:=zv false b.den) (by omega) (by omega)) J<|cl J nq J<|?_;refine cl J n9 J<|cl J (uA (a:=b.num) (b:=zv false a.den) (by omega) (by omega)) J<|cl J (Hw (by omega) (by omega)) J<|?_;refine cl J nq J<|cl J nq J<|cl J (u9 (by omega) (by omega)) J<|cl J (zk hdp (by omega) (by omega)) J<|?_;exact rz J (by rw[xP];rfl)
def IE{a b:Rat}{i j:Nat}[ha:BQ a i][hb:BQ b j](hi:i<=20000000:=by decide)(hj:j<=20000000:=by decide):PF GB prog 163 [eQ a,eQ b] (eQ (a-b)):=by
 refine fn func163 J J ntmps163 J J (fun C=>?_);refine cl J (X5 (q:=b)) J<|cl J (GJ (a:=a) (b:= -b) hi hj) J<|?_;exact rz J (by rw[Rat.sub_eq_add_neg];rfl)
def O'{a b:Rat}{i j:Nat}[ha:BQ a i][hb:BQ b j](hi:i<=20000000:=by decide)(hj:j<=20000000:=by decide):PF GB prog 115 [eQ a,eQ b] (vI (cp a b)):=by
 refine fn func115 J J ntmps115 J J (fun C=>?_);refine cl J (IE hi hj) J<|cl J HI J<|?_;exact rz J (by show vI _=vI _;rw[AQ])
instance BI.two:BI 2 2:=⟨by decide⟩
end Go.Sx
end
