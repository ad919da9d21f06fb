import Derived.Test.YtefoocgiaegobaaGreatDoorPf11
set_option linter.all false
set_option maxHeartbeats 1000000
set_option maxRecDepth 100000
section
namespace Go.Sx
open Go
def m8(l:ab)(p:aa):l.value p=(l.a:Rat)*p.x+(l.b:Rat)*p.y+(l.c:Rat):=rfl
def ij(l:ab)(p:aa):l.rev.value p= -l.value p:=by
 rw[m8,m8];have h1:((l.rev.a:Int):Rat)= -(l.a:Rat):=(HC l.a).symm;have h2:((l.rev.b:Int):Rat)= -(l.b:Rat):=(HC l.b).symm;have h3:((l.rev.c:Int):Rat)= -(l.c:Rat):=(HC l.c).symm;rw[h1,h2,h3];grind
def bu(q p:aa)(e:Rat):aa:=⟨q.x+e*(p.x-q.x),q.y+e*(p.y-q.y)⟩
def lx(l:ab)(q p:aa)(e:Rat):l.value (bu q p e)=l.value q+e*(l.value p-l.value q):=by
 simp only[m8,bu];grind
def dC(q u:aa)(e:Rat):aa:=⟨q.x+e*u.x,q.y+e*u.y⟩
def jG(l:ab)(q u:aa)(e:Rat):l.value (dC q u e)=l.value q+e*l.nor.dot u:=by
 simp only[m8,dC,ab.nor,aa.dot];grind
def ce{a b:Rat}(ha:0<a)(hb:0<b):0<a*b:=Rat.mul_pos ha hb
def fy{a b:Rat}(ha:0<=a)(hb:0<=b):0<=a*b:=oU ha hb
def uz(a:Rat):0<=a*a:=by
 by_cases h:0<=a
 ·exact fy h h
 ·have:=fy (a:= -a) (b:= -a) (by grind) (by grind)
  grind
def ke{s k:Rat}(hk:0<k):0<s*k↔0<s:=by
 constructor
 ·intro h
  by_cases hs:0<s
  ·exact hs
  ·have:=fy (a:= -s) (b:=k) (by grind) (by grind)
   grind
 ·intro h;exact ce h hk
def j0{s k:Rat}(hk:0<k):0<=s*k↔0<=s:=by
 constructor
 ·intro h
  by_cases hs:0<=s
  ·exact hs
  ·have:=ce (a:= -s) (b:=k) (by grind) hk
   grind
 ·intro h;exact fy h (by grind)
def N6{A B u v:Rat}(h0:0<=A)(h1:0<=A+v*B)(hu:0<=u)(huv:u<=v):0<=A+u*B:=by
 by_cases hB:0<=B
 ·have:=fy hu hB;grind
 ·have:=fy (a:=v-u) (b:= -B) (by grind) (by grind)
  grind
def ab.Ne(l:ab):Prop:= ¬(l.a=0/\l.b=0)
def ab.ok.ne{l:ab}(h:l.ok):l.Ne:=h.1
def pP{l:ab}(h:l.Ne):0<l.nor.dot l.nor:=by
 show 0<(l.a:Rat)*l.a+(l.b:Rat)*l.b;have h1:=uz (l.a:Rat);have h2:=uz (l.b:Rat);by_cases ha:l.a=0
 ·have hb:l.b≠0:=fun hb=>h ⟨ha,hb⟩
  have hb':(l.b:Rat)≠0:=fun e=>hb (cW.1 e);have:(l.b:Rat)*l.b≠0:=by grind
  grind
 ·have ha':(l.a:Rat)≠0:=fun e=>ha (cW.1 e)
  have:(l.a:Rat)*l.a≠0:=by grind
  grind
def yv{l:ab}(h:l.Ne): ∃q:Rat,l.nor.dot l.nor*q= -(l.c:Rat)/\l.base=⟨(l.a:Rat)*q,(l.b:Rat)*q⟩:=by
 refine⟨-(l.c:Rat)/l.nor.dot l.nor,?_,J⟩;have:=pP h;grind
def nH(l m:ab)(t:Rat):m.value (l.at t)=l.cutC m+t*l.cutK m:=by
 simp only[ab.cutC,ab.cutK,m8,ab.at,aa.add,aa.scale,ab.dir,ab.nor,aa.dot];grind
def sP{l:ab}(h:l.Ne)(t:Rat):l.value (l.at t)=0:=by
 obtain⟨q,h1,h2⟩:=yv h;simp only[m8,ab.at,h2,aa.add,aa.scale,ab.dir];simp only[ab.nor,aa.dot] at h1;grind
def zR{l:ab}(h:l.Ne){p:aa}(hp:l.value p=0): ∃t,p=l.at t:=by
 obtain⟨q,h1,h2⟩:=yv h;have hn:=pP h;obtain⟨x,y⟩:=p;rw[m8] at hp;simp only[ab.nor,aa.dot] at h1 hn;refine⟨((l.b:Rat)*x-(l.a:Rat)*y)/((l.a:Rat)*l.a+(l.b:Rat)*l.b),?_⟩;generalize ht:((l.b:Rat)*x-(l.a:Rat)*y)/((l.a:Rat)*l.a+(l.b:Rat)*l.b)=t;have ht':((l.a:Rat)*l.a+(l.b:Rat)*l.b)*t=(l.b:Rat)*x-(l.a:Rat)*y:=by grind
 simp only[ab.at,h2,aa.add,aa.scale,ab.dir,aa.mk.injEq];generalize (l.a:Rat)=a at*;generalize (l.b:Rat)=b at*;generalize (l.c:Rat)=c at*;have e1:(a*a+b*b)*(x-(a*q+b*t))=0:=by grind
 have e2:(a*a+b*b)*(y-(b*q+ -a*t))=0:=by grind
 constructor<;>grind
def av.has(v:av)(t:Rat):Prop:=(v.nl=true\/v.lo<=t)/\(v.nh=true\/t<=v.hi)
def av.ins(v:av)(t:Rat):Prop:=(v.nl=true\/v.lo<t)/\(v.nh=true\/t<v.hi)
def av.Pos(v:av):Prop:=v.nl=true\/v.nh=true\/v.lo<v.hi
def QE(a b:Rat):0<=bO a b↔b<=a:=by
 unfold bO;split
 ·constructor
  ·intro h;exact absurd h (by decide)
  ·intro h;grind
 ·split
  ·constructor
   ·intro _;grind
   ·intro _;decide
  ·constructor
   ·intro _;grind
   ·intro _;decide
def DS(v:av):v.empty=false↔v.Pos:=by
 obtain⟨lo,hi,nl,nh⟩:=v;unfold av.empty av.Pos
 cases nl<;>cases nh<;>simp[QE]
 first|exact Rat.not_le|grind
def av.ins.has{v:av}{t:Rat}(h:v.ins t):v.has t:=by
 obtain⟨h1,h2⟩:=h;exact⟨h1.imp id (fun h=>fY h),h2.imp id (fun h=>fY h)⟩
def Oh:mkRat 1 2=(1:Rat)/2:=by rw[oT];rfl
def wx{v:av}(h:v.Pos):v.ins v.sample:=by
 obtain⟨lo,hi,nl,nh⟩:=v;unfold av.Pos at h;unfold av.ins av.sample;rw[Oh]
 cases nl<;>cases nh<;>simp at* <;>grind
def LE(v w:av)(t:Rat):(v.meet w).has t↔v.has t/\w.has t:=by
 obtain⟨lo,hi,nl,nh⟩:=v;obtain⟨lo',hi',nl',nh'⟩:=w;unfold av.has av.meet
 cases nl<;>cases nh<;>cases nl'<;>cases nh'<;>simp<;>grind
def QF(v w:av)(t:Rat):(v.meet w).ins t↔v.ins t/\w.ins t:=by
 obtain⟨lo,hi,nl,nh⟩:=v;obtain⟨lo',hi',nl',nh'⟩:=w;unfold av.ins av.meet
 cases nl<;>cases nh<;>cases nl'<;>cases nh'<;>simp<;>grind
def FA(t:Rat):av.all.has t:=⟨.inl J, .inl J⟩
def VG(t:Rat):av.all.ins t:=⟨.inl J, .inl J⟩
def wU:av.all.Pos:= .inl J
def kg(k:Rat):Int.sign k.num=0↔k=0:=by rw[fM,mW]
def Gj(k:Rat):0<k.num↔0<k:=by
 have h1:0<=k.num↔0<=k:=Rat.num_nonneg;have h2:k.num=0↔k=0:=mW;constructor
 ·intro h
  have a:=h1.1 (by omega);have b:k≠0:=fun e=>by have:=h2.2 e;omega
  grind
 ·intro h
  have a:=h1.2 (by grind);have b:k.num≠0:=fun e=>by have:=h2.1 e;grind
  omega
def kd(k:Rat):Int.sign k.num=1↔0<k:=by rw[Int.sign_eq_one_iff_pos,Gj]
def nk(k:Rat):0<Int.sign k.num↔0<k:=by
 rw[<-kd];rcases nM k.num 0 with h|h|h
 ·rw[fZ h];decide
 ·rw[h];decide
 ·rw[gJ h];decide
def mI(k:Rat):Int.sign k.num<0↔k<0:=by
 have h1:=kg k;have h2:=nk k;constructor
 ·intro h
  by_cases hk:0<k
  ·have:=h2.2 hk;omega
  ·by_cases h0:k=0
   ·have:=h1.2 h0;omega
   ·grind
 ·intro h
  have a1: ¬Int.sign k.num=0:=fun e=>by have:=h1.1 e;grind
  have a2: ¬0<Int.sign k.num:=fun e=>by have:=h2.1 e;grind
  omega
def xQ{l m:ab}(v:av)(hk:l.cutK m=0):l.cutV v m=v/\(l.cutB v m=true↔0<l.cutC m):=by
 have h:=(kg (l.cutK m)).2 hk;unfold ab.cutV ab.cutB;rw[if_pos h,if_pos h,decide_eq_true_iff,nk];exact⟨J,Iff.rfl⟩
def yN{l m:ab}(v:av)(hk:0<l.cutK m):l.cutV v m=v.meet ⟨-(l.cutC m/l.cutK m),0,false,true⟩/\(l.cutB v m=true↔(l.cutV v m).Pos):=by
 have h0: ¬Int.sign (l.cutK m).num=0:=fun e=>by have:=(kg _).1 e;grind
 have h1:=(kd (l.cutK m)).2 hk;constructor
 ·unfold ab.cutV;rw[if_neg h0,if_pos h1]
 ·unfold ab.cutB;rw[if_neg h0,<-DS];simp
def xH{l m:ab}(v:av)(hk:l.cutK m<0):l.cutV v m=v.meet ⟨0, -(l.cutC m/l.cutK m),true,false⟩/\(l.cutB v m=true↔(l.cutV v m).Pos):=by
 have h0: ¬Int.sign (l.cutK m).num=0:=fun e=>by have:=(kg _).1 e;grind
 have h1: ¬Int.sign (l.cutK m).num=1:=fun e=>by have:=(kd _).1 e;grind
 constructor
 ·unfold ab.cutV;rw[if_neg h0,if_neg h1]
 ·unfold ab.cutB;rw[if_neg h0,<-DS];simp
def Tc{C K t:Rat}(hk:0<K): -(C/K)<=t↔0<=C+t*K:=by
 have e:C=C/K*K:=by grind
 generalize C/K=d at*;rw[e,show d*K+t*K=(d+t)*K from by grind,j0 hk];grind
def Jp{C K t:Rat}(hk:0<K): -(C/K)<t↔0<C+t*K:=by
 have e:C=C/K*K:=by grind
 generalize C/K=d at*;rw[e,show d*K+t*K=(d+t)*K from by grind,ke hk];grind
def aGM{C K t:Rat}(hk:K<0):t<= -(C/K)↔0<=C+t*K:=by
 have e:C=C/K*K:=by grind
 generalize C/K=d at*;rw[e,show d*K+t*K=(-(d+t))*(-K) from by grind,j0 (by grind)];grind
def I5{C K t:Rat}(hk:K<0):t< -(C/K)↔0<C+t*K:=by
 have e:C=C/K*K:=by grind
 generalize C/K=d at*;rw[e,show d*K+t*K=(-(d+t))*(-K) from by grind,ke (by grind)];grind
def gP(k:Rat):k=0\/0<k\/k<0:=by grind
def AZ{l m:ab}{v:av}(hb:l.cutB v m=true)(t:Rat):(l.cutV v m).has t↔v.has t/\0<=m.value (l.at t):=by
 rw[nH];rcases gP (l.cutK m) with hk|hk|hk
 ·obtain⟨h1,h2⟩:=xQ v hk
  rw[h1,hk];have:=h2.1 hb;constructor
  ·intro h;exact⟨h,by grind⟩
  ·exact fun h=>h.1
 ·rw[(yN v hk).1,LE,<-Tc hk]
  simp[av.has]
 ·rw[(xH v hk).1,LE,<-aGM hk]
  simp[av.has]
def Cd{l m:ab}{v:av}(hb:l.cutB v m=true)(t:Rat):(l.cutV v m).ins t↔v.ins t/\0<m.value (l.at t):=by
 rw[nH];rcases gP (l.cutK m) with hk|hk|hk
 ·obtain⟨h1,h2⟩:=xQ v hk
  rw[h1,hk];have:=h2.1 hb;constructor
  ·intro h;exact⟨h,by grind⟩
  ·exact fun h=>h.1
 ·rw[(yN v hk).1,QF,<-Jp hk]
  simp[av.ins]
 ·rw[(xH v hk).1,QF,<-I5 hk]
  simp[av.ins]
def ym{l m:ab}{v:av}(hv:v.Pos)(hb:l.cutB v m=true):(l.cutV v m).Pos:=by
 rcases gP (l.cutK m) with hk|hk|hk
 ·rw[(xQ v hk).1];exact hv
 ·exact(yN v hk).2.1 hb
 ·exact(xH v hk).2.1 hb
def AS{l m:ab}{v:av}(hv:v.Pos)(hb:l.cutB v m=false){t:Rat}(ht:v.has t):m.value (l.at t)<=0:=by
 rw[nH];have hb': ¬l.cutB v m=true:=by rw[hb];decide
 rcases gP (l.cutK m) with hk|hk|hk
 ·have h2:=(xQ v hk).2
  have: ¬0<l.cutC m:=fun h=>hb' (h2.2 h);rw[hk];grind
 ·obtain⟨h1,h2⟩:=yN v hk
  have hn: ¬(l.cutV v m).Pos:=fun h=>hb' (h2.2 h);rw[h1] at hn;have h3:=Jp (C:=l.cutC m) (t:=t) hk
  suffices¬(-(l.cutC m/l.cutK m)<t) by grind
  generalize-(l.cutC m/l.cutK m)=d at*;obtain⟨lo,hi,nl,nh⟩:=v;unfold av.Pos av.meet at hn;unfold av.Pos at hv;unfold av.has at ht
  cases nl<;>cases nh<;>simp at* <;>grind
 ·obtain⟨h1,h2⟩:=xH v hk
  have hn: ¬(l.cutV v m).Pos:=fun h=>hb' (h2.2 h);rw[h1] at hn;have h3:=I5 (C:=l.cutC m) (t:=t) hk
  suffices¬(t< -(l.cutC m/l.cutK m)) by grind
  generalize-(l.cutC m/l.cutK m)=d at*;obtain⟨lo,hi,nl,nh⟩:=v;unfold av.Pos av.meet at hn;unfold av.Pos at hv;unfold av.has at ht
  cases nl<;>cases nh<;>simp at* <;>grind
def bP(c:aF)(p:aa):Prop:= ∀s∈c,0<s.l.value p
def vh(c:aF)(p:aa):Prop:= ∀s∈c,0<=s.l.value p
def Hp(l:ab): ∀(c:aF) (v w:av),v.Pos->nf l c v=some w->
  w.Pos/\(∀t,w.has t↔v.has t/\vh c (l.at t))/\(∀t,w.ins t↔v.ins t/\bP c (l.at t))
 |[],v,w,hv,h=>by
  obtain rfl:v=w:=by simpa[nf] using h
  exact⟨hv,fun t=>⟨fun h=>⟨h,fun s hs=>absurd hs (by simp)⟩,fun h=>h.1⟩,fun t=>⟨fun h=>⟨h,fun s hs=>absurd hs (by simp)⟩,fun h=>h.1⟩⟩
 |s::c,v,w,hv,h=>by
  rw[nf] at h;split at h
  ·rename_i hb
   obtain⟨h1,h2,h3⟩:=Hp l c _ w (ym hv hb) h;refine⟨h1,fun t=>?_,fun t=>?_⟩
   ·rw[h2,AZ hb]
    simp only[vh,dW];exact and_assoc
   ·rw[h3,Cd hb]
    simp only[bP,dW];exact and_assoc
  ·exact absurd h (by simp)
def Kj(l:ab): ∀(c:aF) (v:av),v.Pos->nf l c v=none-> ∀t,v.has t-> ¬bP c (l.at t)
 |[],v,hv,h=>by simp[nf] at h
 |s::c,v,hv,h=>by
  intro t ht hd;have hd':=dW.1 hd;rw[nf] at h;split at h
  ·rename_i hb
   exact Kj l c _ (ym hv hb) h t ((AZ hb t).2 ⟨ht,fY hd'.1⟩) hd'.2
  ·rename_i hb
   have:=AS hv (by simpa using hb) ht;have:=hd'.1;grind
def bP.open: ∀{c:aF} {q:aa} (u:aa),bP c q-> ∃e:Rat,0<e/\ ∀d,0<=d->d<=e->bP c (dC q u d)
 |[],q,u,_=>⟨1,by decide,fun d _ _ s hs=>absurd hs (by simp)⟩
 |s::c,q,u,h=>by
  have h':=dW.1 h;obtain⟨e,he,hd⟩:=bP.open (c:=c) u h'.2;have hs:=h'.1;generalize hk:s.l.nor.dot u=k;have hf: ∃f:Rat,0<f/\ ∀d,0<=d->d<=f->0<s.l.value q+d*k:=by
   by_cases hk0:0<=k
   ·exact⟨1,by decide,fun d h1 _=>by have:=fy h1 hk0;grind⟩
   ·refine⟨s.l.value q/(2* -k),?_,fun d h1 h2=>?_⟩
    ·have e1:s.l.value q/(2* -k)*(2* -k)=s.l.value q:=by grind
     exact(ke (k:=2* -k) (by grind)).1 (by rw[e1];exact hs)
    ·have e1:s.l.value q/(2* -k)*(2* -k)=s.l.value q:=by grind
     generalize s.l.value q/(2* -k)=f at*;have:=fy (a:=f-d) (b:= -k) (by grind) (by grind);grind
  obtain⟨f,hf0,hf⟩:=hf;by_cases hef:e<=f
  ·refine⟨e,he,fun d h1 h2=>dW.2 ⟨?_,hd d h1 h2⟩⟩
   rw[jG,hk];exact hf d h1 (by grind)
  ·refine⟨f,hf0,fun d h1 h2=>dW.2 ⟨?_,hd d h1 (by grind)⟩⟩
   rw[jG,hk];exact hf d h1 h2
def Pw: ∀{c:aF} {q p:aa},bP c q->(∃s∈c,s.l.value p<=0)->
  ∃e:Rat,0<=e/\e<=1/\(∃s∈c,s.l.value p<=0/\s.l.value (bu q p e)=0)/\vh c (bu q p e)
 |[],q,p,_,h=>by obtain⟨s,hs,_⟩:=h;exact absurd hs (by simp)
 |s::c,q,p,h,hex=>by
  have h':=dW.1 h;have hs:=h'.1;by_cases hc: ∃s∈c,s.l.value p<=0
  ·obtain⟨e,h0,h1,⟨s1,m1,n1,z1⟩,hC⟩:=Pw h'.2 hc
   by_cases hp:0<=s.l.value (bu q p e)
   ·exact⟨e,h0,h1,⟨s1,aZ _ m1,n1,z1⟩,dW.2 ⟨hp,hC⟩⟩
   ·rw[lx] at hp
    generalize hB:s.l.value p-s.l.value q=B at*;have hB0:B<0:=by
     by_cases hB0:0<=B
     ·have:=fy h0 hB0;grind
     ·grind
    have e1:s.l.value q/(-B)*(-B)=s.l.value q:=by grind
    generalize hf:s.l.value q/(-B)=f at*;have f0:0<=f:=(j0 (k:= -B) (by grind)).1 (by rw[e1];grind);have f1:f<=e:=by
     have:=(j0 (s:=e-f) (k:= -B) (by grind)).1 (by grind);grind
    have z:s.l.value (bu q p f)=0:=by rw[lx,hB];grind
    have np:s.l.value p<=0:=by
     have:=fy (a:=1-e) (b:= -B) (by grind) (by grind);grind
    refine⟨f,f0,by grind,⟨s,aQ,np,z⟩,dW.2 ⟨by rw[z];exact iZ,fun s2 m2=>?_⟩⟩;have a1:=h'.2 s2 m2;have a2:=hC s2 m2;rw[lx] at a2⊢;exact N6 (fY a1) a2 f0 f1
  ·have np:s.l.value p<=0:=by
    obtain⟨s1,m1,n1⟩:=hex;rcases aV.1 m1 with rfl|m1
    ·exact n1
    ·exact absurd ⟨s1,m1,n1⟩ hc
   generalize hB:s.l.value p-s.l.value q=B at*;have hB0:B<0:=by grind
   have e1:s.l.value q/(-B)*(-B)=s.l.value q:=by grind
   generalize hf:s.l.value q/(-B)=f at*;have f0:0<=f:=(j0 (k:= -B) (by grind)).1 (by rw[e1];grind);have f1:f<=1:=by
    have:=(j0 (s:=1-f) (k:= -B) (by grind)).1 (by grind);grind
   have z:s.l.value (bu q p f)=0:=by rw[lx,hB];grind
   refine⟨f,f0,f1,⟨s,aQ,np,z⟩,dW.2 ⟨by rw[z];exact iZ,fun s2 m2=>?_⟩⟩;have a1:=h'.2 s2 m2;have a2:0<s2.l.value p:=by
    by_cases h:0<s2.l.value p
    ·exact h
    ·exact absurd ⟨s2,m2,by grind⟩ hc
   rw[lx];have:=N6 (A:=s2.l.value q) (B:=s2.l.value p-s2.l.value q) (u:=f) (v:=1) (fY a1) (by grind) f0 f1;exact this
structure d8 (c:aF):Prop where
 ne: ∃p,bP c p
 ok: ∀s∈c,s.l.ok
 edge: ∀s∈c,s.v.Pos/\ ∀t,s.v.has t↔vh c (s.l.at t)
def d8.nil:d8 []:=⟨⟨⟨0,0⟩,fun s hs=>absurd hs (by simp)⟩,fun s hs=>absurd hs (by simp),fun s hs=>absurd hs (by simp)⟩
def xP{c:aF}{m:ab}(hne: ∃q,bP c q)(h: ∀p,bP c p->0<m.value p){p:aa}(hp:vh c p):0<=m.value p:=by
 obtain⟨q,hq⟩:=hne;have mq:=h q hq;by_cases hm:0<=m.value p
 ·exact hm
 ·exfalso
  generalize hB:m.value q-m.value p=B;have hB0:0<B:=by grind
  have e1: -m.value p/B*B= -m.value p:=by grind
  generalize-m.value p/B=e at*;have e0:0<e:=(ke hB0).1 (by rw[e1];grind);have e2:e<=1:=by
   have:=(j0 (s:=1-e) hB0).1 (by grind);grind
  have hd:bP c (bu p q e):=fun s hs=>by
   rw[lx];have a:=hp s hs;have b:=hq s hs;have:=ce e0 b;have:=fy (a:=1-e) (b:=s.l.value p) (by grind) a;grind
  have:=h _ hd;rw[lx,hB,e1] at this;grind
def uw{l:ab}{s':aH}: ∀{c:aF},s'∈fI l c↔ ∃s∈c,s.l.cutB s.v l=true/\s'=⟨s.l,s.l.cutV s.v l⟩
 |[]=>by simp[fI]
 |s::c=>by
  rw[fI];split
  ·rename_i hb
   rw[aV,uw (c:=c)];constructor
   ·rintro (rfl|⟨s1,h1,h2⟩)
    ·exact⟨s,aQ,hb,J⟩
    ·exact⟨s1,aZ _ h1,h2⟩
   ·rintro ⟨s1,h1,h2,h3⟩
    rcases aV.1 h1 with rfl|h1
    ·exact .inl h3
    ·exact .inr ⟨s1,h1,h2,h3⟩
  ·rename_i hb
   rw[uw (c:=c)];constructor
   ·rintro ⟨s1,h1,h2⟩;exact⟨s1,aZ _ h1,h2⟩
   ·rintro ⟨s1,h1,h2,h3⟩
    rcases aV.1 h1 with rfl|h1
    ·exact absurd h2 hb
    ·exact⟨s1,h1,h2,h3⟩
def uY{c:aF}{l:ab}{v:av}{s:aH}:s∈oI c l v↔s=⟨l,v⟩\/s∈c:=by
 unfold oI;generalize i6 (nG c l) 0 c.length=n;rw[bS,aV];have h:=lR n c;constructor
 ·rintro (h1|h1|h1)
  ·exact .inr (fV h1)
  ·exact .inl h1
  ·exact .inr (iL h1)
 ·rintro (h1|h1)
  ·exact .inr (.inl h1)
  ·rw[<-h,bS] at h1
   rcases h1 with h1|h1
   ·exact .inl h1
   ·exact .inr (.inr h1)
def Xk{c:aF}{l:ab}(hl:l.Ne)(hp:lP c l=none){p:aa}(h:bP c p):l.value p≠0:=by
 intro h0;obtain⟨t,rfl⟩:=zR hl h0;exact Kj l c _ wU hp t (FA t) h
def NI{c:aF}{l:ab}(hl:l.Ne){v:av}(hp:lP c l=some v):(∃q,bP c q/\0<l.value q)/\ ∃q,bP c q/\l.value q<0:=by
 obtain⟨h1,_,h3⟩:=Hp l c _ v wU hp;have hd:=((h3 v.sample).1 (wx h1)).2;have h0:=sP hl v.sample;have hn:=pP hl;constructor
 ·obtain⟨e,he,hm⟩:=hd.open l.nor
  refine⟨_,hm e (fY he) iZ,?_⟩;rw[jG,h0];have:=ce he hn;grind
 ·obtain⟨e,he,hm⟩:=hd.open ⟨-l.nor.x, -l.nor.y⟩
  refine⟨_,hm e (fY he) iZ,?_⟩;rw[jG,h0];have:=ce he hn;simp only[aa.dot] at this⊢;grind
def asj{c:aF}{l:ab}{v:av}(hc:d8 c)(hl:l.ok)(hp:lP c l=some v):
  d8 (oI (fI l c) l v)/\ ∀p,bP (oI (fI l c) l v) p↔bP c p/\0<l.value p:=by
 obtain⟨⟨q,hq,lq⟩,_⟩:=NI hl.ne hp;obtain⟨v1,v2,v3⟩:=Hp l c _ v wU hp;have hD: ∀p,bP (oI (fI l c) l v) p↔bP c p/\0<l.value p:=by
  intro p;constructor
  ·intro h
   have lp:0<l.value p:=h ⟨l,v⟩ (uY.2 (.inl J));refine⟨fun s0 hs0=>?_,lp⟩;by_cases h0:0<s0.l.value p
   ·exact h0
   ·exfalso
    obtain⟨e,e0,e1,⟨s,ms,ns,zs⟩,hC⟩:=Pw (p:=p) hq ⟨s0,hs0,by grind⟩;obtain⟨t,ht⟩:=zR (hc.ok s ms).ne zs;rw[ht] at hC;obtain⟨p1,p2⟩:=hc.edge s ms;have hh:=(p2 t).2 hC;have lr:0<l.value (s.l.at t):=by
     rw[<-ht,lx];by_cases hB:0<=l.value p-l.value q
     ·have:=fy e0 hB;grind
     ·have:=fy (a:=1-e) (b:= -(l.value p-l.value q)) (by grind) (by grind)
      grind
    have hb:s.l.cutB s.v l=true:=by
     cases hb:s.l.cutB s.v l with
     |true=>rfl
     |false=>have:=AS p1 hb hh;grind
    have:=h ⟨s.l,s.l.cutV s.v l⟩ (uY.2 (.inr (uw.2 ⟨s,ms,hb,J⟩)));simp only at this;grind
  ·rintro ⟨h1,h2⟩ s hs
   rcases uY.1 hs with rfl|hs
   ·exact h2
   ·obtain⟨s1,m1,_,rfl⟩:=uw.1 hs
    exact h1 s1 m1
 have hne: ∃p,bP (oI (fI l c) l v) p:=⟨q,(hD q).2 ⟨hq,lq⟩⟩;have hC: ∀p,vh (oI (fI l c) l v) p↔vh c p/\0<=l.value p:=by
  intro p;constructor
  ·intro h
   refine⟨fun s hs=>?_,h ⟨l,v⟩ (uY.2 (.inl J))⟩;exact xP hne (fun p hp=>((hD p).1 hp).1 s hs) h
  ·rintro ⟨h1,h2⟩ s hs
   rcases uY.1 hs with rfl|hs
   ·exact h2
   ·obtain⟨s1,m1,_,rfl⟩:=uw.1 hs
    exact h1 s1 m1
 refine⟨⟨hne,fun s hs=>?_,fun s hs=>?_⟩,hD⟩
 ·rcases uY.1 hs with rfl|hs
  ·exact hl
  ·obtain⟨s1,m1,_,rfl⟩:=uw.1 hs
   exact hc.ok s1 m1
 ·rcases uY.1 hs with rfl|hs
  ·refine⟨v1,fun t=>?_⟩
   rw[hC];simp only;rw[v2];have h0:=sP hl.ne t;constructor
   ·intro h;exact⟨h.2,by rw[h0];exact iZ⟩
   ·intro h;exact⟨FA t,h.1⟩
  ·obtain⟨s1,m1,hb,rfl⟩:=uw.1 hs
   obtain⟨p1,p2⟩:=hc.edge s1 m1;refine⟨ym p1 hb,fun t=>?_⟩;rw[hC];simp only;rw[AZ hb,p2]
def bP.seg{c:aF}{q p:aa}{e:Rat}(hq:bP c q)(hp:bP c p)(h0:0<=e)(h1:e<=1):bP c (bu q p e):=fun s hs=>by
 rw[lx];have a:=hq s hs;have b:=hp s hs;by_cases he:e=0
 ·subst he;grind
 ·have:=ce (a:=e) (by grind) b
  have:=fy (a:=1-e) (b:=s.l.value q) (by grind) (by grind);grind
def Lo{v:av}{t:Rat}(h:v.ins t):(∃u,u<t/\v.has u)/\ ∃u,t<u/\v.has u:=by
 obtain⟨lo,hi,nl,nh⟩:=v;unfold av.ins at h;unfold av.has;refine⟨⟨if nl=true then t-1 else lo,?_⟩,⟨if nh=true then t+1 else hi,?_⟩⟩<;>cases nl<;>cases nh<;>simp at* <;>grind
def yq{a b c x y z:Nat}(h1:x*b=a*y)(h2:x*c=a*z)(g:Nat.gcd (Nat.gcd a b) c=1):a∣x:=by
 have e:x=Nat.gcd (Nat.gcd (x*a) (x*b)) (x*c):=by
  rw[Nat.gcd_mul_left,Nat.gcd_mul_left,g,iU]
 rw[e];exact Nat.dvd_gcd (Nat.dvd_gcd (Nat.dvd_mul_left ..) (h1▸Nat.dvd_mul_right ..)) (h2▸Nat.dvd_mul_right ..)
def Zj{a b c x y z:Int}(h1:a*y=b*x)(h2:a*z=c*x)(h3:b*z=c*y)
  (g1:Nat.gcd (Nat.gcd a.natAbs b.natAbs) c.natAbs=1)(g2:Nat.gcd (Nat.gcd x.natAbs y.natAbs) z.natAbs=1):
  (a=x/\b=y/\c=z)\/(a= -x/\b= -y/\c= -z):=by
 have n1:a.natAbs*y.natAbs=b.natAbs*x.natAbs:=by rw[<-jV,<-jV,h1]
 have n2:a.natAbs*z.natAbs=c.natAbs*x.natAbs:=by rw[<-jV,<-jV,h2]
 have n3:b.natAbs*z.natAbs=c.natAbs*y.natAbs:=by rw[<-jV,<-jV,h3]
 generalize ha:a.natAbs=A at*;generalize hb:b.natAbs=B at*;generalize hc:c.natAbs=C at*;generalize hx:x.natAbs=X at*;generalize hy:y.natAbs=Y at*;generalize hz:z.natAbs=Z at*;have gB:Nat.gcd (Nat.gcd B A) C=1:=by rw[iN B A];exact g1
 have gC:Nat.gcd (Nat.gcd C A) B=1:=by rw[Nat.gcd_assoc,iN];exact g1
 have gY:Nat.gcd (Nat.gcd Y X) Z=1:=by rw[iN Y X];exact g2
 have gZ:Nat.gcd (Nat.gcd Z X) Y=1:=by rw[Nat.gcd_assoc,iN];exact g2
 have e1:A=X:=Nat.dvd_antisymm (yq (x:=X) (y:=Y) (z:=Z) (by grind) (by grind) g1) (yq (x:=A) (y:=B) (z:=C) (by grind) (by grind) g2);have e2:B=Y:=Nat.dvd_antisymm (yq (x:=Y) (y:=X) (z:=Z) (by grind) (by grind) gB) (yq (x:=B) (y:=A) (z:=C) (by grind) (by grind) gY);have e3:C=Z:=Nat.dvd_antisymm (yq (x:=Z) (y:=X) (z:=Y) (by grind) (by grind) gC) (yq (x:=C) (y:=A) (z:=B) (by grind) (by grind) gZ);have s1:a=x\/a= -x:=by omega
 have s2:b=y\/b= -y:=by omega
 have s3:c=z\/c= -z:=by omega
 clear ha hb hc hx hy hz n1 n2 n3 g1 g2 gB gC gY gZ e1 e2 e3;have z1:= @sS x y;have z2:= @sS x z;have z3:= @sS y z;rcases s1 with rfl|rfl<;>rcases s2 with rfl|rfl<;>rcases s3 with rfl|rfl<;>grind
def DM{l m:ab}(hl:l.ok)(hm:m.ok)(h: ∀t,l.value (m.at t)=0):l=m\/l=m.rev:=by
 have h0:=h 0;have h1:=h 1;rw[nH] at h0 h1;have hC:m.cutC l=0:=by grind
 have hK:m.cutK l=0:=by grind
 obtain⟨q,q1,q2⟩:=yv hm.ne;have hn:=pP hm.ne;unfold ab.cutC at hC;rw[q2,m8] at hC;unfold ab.cutK at hK;simp only[ab.nor,ab.dir,aa.dot] at hK q1 hn hC;obtain⟨a,b,c⟩:=l;obtain⟨x,y,z⟩:=m;simp only at*;have e1:a*y=b*x:=by
  have:((a*y:Int):Rat)=((b*x:Int):Rat):=by rw[cM,cM];grind
  exact nT.1 this
 have e2:a*z=c*x:=by
  have:((a*z:Int):Rat)=((c*x:Int):Rat):=by rw[cM,cM];grind
  exact nT.1 this
 have e3:b*z=c*y:=by
  have:((b*z:Int):Rat)=((c*y:Int):Rat):=by rw[cM,cM];grind
  exact nT.1 this
 rcases Zj e1 e2 e3 hl.2 hm.2 with⟨rfl,rfl,rfl⟩|⟨rfl,rfl,rfl⟩
 ·exact .inl J
 ·exact .inr J
def ab.ok.rev{l:ab}(h:l.ok):l.rev.ok:=by
 obtain⟨h1,h2⟩:=h;refine⟨?_,?_⟩
 ·simp only[ab.rev];omega
 ·simp only[ab.rev,jR];exact h2
def KT(l:ab): ∀c:aF,(∀s∈c,ow l s<=0/\s.l≠l)-> ¬0<n0 l c
 |[],_=>by simp[n0]
 |s::c,h=>by
  have h':=dW.1 h;unfold n0;rw[if_neg h'.1.2];split
  ·have:=h'.1.1;omega
  ·exact KT l c h'.2
def NU{c:aF}{l:ab}(hc:d8 c)(hl:l.ok)(hp:lP c l=none):
  (0<n0 l c/\ ∀p,bP c p->0<l.value p)\/(¬0<n0 l c/\ ∀p,bP c p->l.value p<0):=by
 have hoff:=fun p (h:bP c p)=>Xk hl.ne hp h;by_cases hq: ∃q,bP c q/\0<l.value q
 ·left
  obtain⟨q,hq,lq⟩:=hq;have hall: ∀p,bP c p->0<l.value p:=by
   intro p h;have:=hoff p h;by_cases h0:0<l.value p
   ·exact h0
   ·exfalso
    have hn:l.value p<0:=by grind
    have e1:l.value q/(l.value q-l.value p)*(l.value q-l.value p)=l.value q:=by grind
    generalize l.value q/(l.value q-l.value p)=e at*;have f0:0<=e:=(j0 (k:=l.value q-l.value p) (by grind)).1 (by grind);have f1:e<=1:=by
     have:=(j0 (s:=1-e) (k:=l.value q-l.value p) (by grind)).1 (by grind);grind
    exact hoff _ (hq.seg h f0 f1) (by rw[lx];grind)
  refine⟨?_,hall⟩
  cases c with
  |nil=>simp[lP,nf] at hp
  |cons s c=>
   obtain⟨p1,p2⟩:=hc.edge s aQ;have hi:=wx p1;have hr:=xP hc.ne hall ((p2 _).1 hi.has);unfold n0;by_cases h0:ow l s=0
   ·rw[if_neg (by simpa using h0)]
    have hz:l.value (s.l.at s.v.sample)=0:=(kg _).1 h0;have hge: ∀t,s.v.has t->0<=l.value (s.l.at t):=fun t ht=>xP hc.ne hall ((p2 t).1 ht);obtain⟨⟨u1,m1,n1⟩,⟨u2,m2,n2⟩⟩:=Lo hi;have g1:=hge _ n1;have g2:=hge _ n2;rw[nH] at hz g1 g2;have hK:s.l.cutK l=0:=by
     rcases gP (s.l.cutK l) with h|h|h
     ·exact h
     ·exfalso
      have:=ce (a:=s.v.sample-u1) (b:=s.l.cutK l) (by grind) h;grind
     ·exfalso
      have:=ce (a:=u2-s.v.sample) (b:= -s.l.cutK l) (by grind) (by grind);grind
    have hz2: ∀t,l.value (s.l.at t)=0:=fun t=>by rw[nH,hK];rw[hK] at hz;grind
    rcases DM hl (hc.ok s aQ) hz2 with h|h
    ·rw[if_pos h.symm];decide
    ·exfalso
     have:=hall q hq;rw[h,ij] at this;have:=hq s aQ;grind
   ·rw[if_pos h0]
    have hz:l.value (s.l.at s.v.sample)≠0:=fun e=>h0 ((kg _).2 e);exact(nk _).2 (by grind)
 ·right
  have hall: ∀p,bP c p->l.value p<0:=fun p h=>by
   have:=hoff p h;have: ¬0<l.value p:=fun h'=>hq ⟨p,h,h'⟩;grind
  refine⟨KT l c fun s hs=>?_,hall⟩;obtain⟨p1,p2⟩:=hc.edge s hs;have hr:=xP (m:=l.rev) hc.ne (fun p h=>by rw[ij];have:=hall p h;grind) ((p2 _).1 (wx p1).has);rw[ij] at hr;constructor
  ·have: ¬0<ow l s:=fun h=>by have:=(nk _).1 h;grind
   omega
  ·rintro rfl
   obtain⟨p,hp⟩:=hc.ne;have:=hall p hp;have:=hp s hs;grind
def sr{c:aF}{l:ab}(hc:d8 c)(hl:l.ok):cP c l=true↔ ∃p,bP c p/\0<l.value p:=by
 unfold cP
 cases hp:lP c l with
 |some v=>exact⟨fun _=>(NI hl.ne hp).1,fun _=>J⟩
 |none=>
  simp only[vK,hp,Option.isSome_none,dJ,if_false,decide_eq_true_iff];rcases NU hc hl hp with⟨h1,h2⟩|⟨h1,h2⟩
  ·refine⟨fun _=>?_,fun _=>h1⟩
   obtain⟨p,hp⟩:=hc.ne;exact⟨p,hp,h2 p hp⟩
  ·refine⟨fun h=>absurd h h1,?_⟩
   rintro ⟨p,hp,h⟩;have:=h2 p hp;grind
def kC{c:aF}{l:ab}(hc:d8 c)(hl:l.ok)(hb:cP c l=true):d8 (bF c l)/\ ∀p,bP (bF c l) p↔bP c p/\0<l.value p:=by
 unfold bF
 cases hp:lP c l with
 |some v=>exact asj hc hl hp
 |none=>
  refine⟨hc,fun p=>?_⟩;unfold cP at hb;simp only[hp,vK,Option.isSome_none,dJ,if_false,decide_eq_true_iff] at hb;rcases NU hc hl hp with⟨h1,h2⟩|⟨h1,h2⟩
  ·exact⟨fun h=>⟨h,h2 p h⟩,fun h=>h.1⟩
  ·exact absurd hb h1
inductive aKd (c:aF) (l:ab):Prop
 |left (h1:cP c l.rev=false) (h: ∀p,bP c p->0<l.value p)
 |right (h1:cP c l.rev=true) (h2:cP c l=false) (h: ∀p,bP c p->l.value p<0)
 |both (h1:cP c l.rev=true) (h2:cP c l=true) (g1:d8 (bF c l)) (g2:d8 (bF c l.rev))
   (e1: ∀p,bP (bF c l) p↔bP c p/\0<l.value p) (e2: ∀p,bP (bF c l.rev) p↔bP c p/\l.value p<0)
def Tr.restrict_A{l:ab}{e:aF}(X Y:Tr)(h:cP e l.rev=false):(Tr.node l X Y).restrict e=X.restrict e:=by
 rw[Tr.restrict,h];rfl
def Tr.restrict_B{l:ab}{e:aF}(X Y:Tr)(h:cP e l.rev=true)(h2:cP e l=false):(Tr.node l X Y).restrict e=Y.restrict e:=by
 rw[Tr.restrict,h,h2];rfl
def Tr.restrict_C{l:ab}{e:aF}(X Y:Tr)(h:cP e l.rev=true)(h2:cP e l=true):(Tr.node l X Y).restrict e=Tr.joinQ l (X.restrict (bF e l)) (Y.restrict (bF e l.rev)):=by
 rw[Tr.restrict,h,h2];rfl
def qb:List ab->aF->Option aF
 |[],c=>some c
 |l::t,c=>if cP c l then qb t (bF c l) else none
def O6: ∀{ls:List ab} {c e:aF},d8 c->(∀l∈ls,l.ok)->qb ls c=some e->d8 e/\ ∀p,bP e p↔bP c p/\ ∀l∈ls,0<l.value p
 |[],c,e,hc,_,h=>by
  obtain rfl:c=e:=by simpa[qb] using h
  exact⟨hc,fun p=>⟨fun h=>⟨h,fun l hl=>absurd hl (by simp)⟩,fun h=>h.1⟩⟩
 |l::t,c,e,hc,hl,h=>by
  have hl':=dW.1 hl;rw[qb] at h;split at h
  ·rename_i hb
   obtain⟨g1,g2⟩:=kC hc hl'.1 hb;obtain⟨k1,k2⟩:=O6 g1 hl'.2 h;refine⟨k1,fun p=>?_⟩;rw[k2,g2,dW,and_assoc]
  ·exact absurd h (by simp)
def Lh: ∀{ls:List ab} {c:aF},d8 c->(∀l∈ls,l.ok)->(∃p,bP c p/\ ∀l∈ls,0<l.value p)-> ∃e,qb ls c=some e
 |[],c,_,_,_=>⟨c,J⟩
 |l::t,c,hc,hl,⟨p,h1,h2⟩=>by
  have hl':=dW.1 hl;have h2':=dW.1 h2;have hb:=(sr hc hl'.1).2 ⟨p,h1,h2'.1⟩;obtain⟨g1,g2⟩:=kC hc hl'.1 hb;rw[qb,if_pos hb];exact Lh g1 hl'.2 ⟨p,(g2 p).2 ⟨h1,h2'.1⟩,h2'.2⟩
def KF{c:aF}(hc:d8 c){s:aH}(hs:s∈c){m:ab}(hm:m.ok)(h: ∀p,bP c p->0<m.value p)(hz:m.value (s.l.at s.v.sample)=0):m=s.l:=by
 obtain⟨p1,p2⟩:=hc.edge s hs;have hi:=wx p1;have hge: ∀t,s.v.has t->0<=m.value (s.l.at t):=fun t ht=>xP hc.ne h ((p2 t).1 ht);obtain⟨⟨u1,m1,n1⟩,⟨u2,m2,n2⟩⟩:=Lo hi;have g1:=hge _ n1;have g2:=hge _ n2;rw[nH] at hz g1 g2;have hK:s.l.cutK m=0:=by
  rcases gP (s.l.cutK m) with h|h|h
  ·exact h
  ·exfalso
   have:=ce (a:=s.v.sample-u1) (b:=s.l.cutK m) (by grind) h;grind
  ·exfalso
   have:=ce (a:=u2-s.v.sample) (b:= -s.l.cutK m) (by grind) (by grind);grind
 have hz2: ∀t,m.value (s.l.at t)=0:=fun t=>by rw[nH,hK];rw[hK] at hz;grind
 rcases DM hm (hc.ok s hs) hz2 with h'|h'
 ·exact h'
 ·exfalso
  obtain⟨q,hq⟩:=hc.ne;have:=h q hq;rw[h',ij] at this;have:=hq s hs;grind
def je(l:ab):List ab->av->Option av
 |[],v=>some v
 |m::t,v=>if m=l then je l t v else if l.cutB v m then je l t (l.cutV v m) else none
def fp(c:List ab)(p:aa):Prop:= ∀m∈c,0<m.value p
def DO(l:ab): ∀(c:List ab) (v w:av),v.Pos->je l c v=some w->
  w.Pos/\(∀t,w.ins t↔v.ins t/\ ∀m∈c,m≠l->0<m.value (l.at t))
 |[],v,w,hv,h=>by
  obtain rfl:v=w:=by simpa[je] using h
  exact⟨hv,fun t=>⟨fun h=>⟨h,fun s hs=>absurd hs (by simp)⟩,fun h=>h.1⟩⟩
 |m::c,v,w,hv,h=>by
  rw[je] at h;split at h
  ·rename_i hm
   obtain⟨h1,h2⟩:=DO l c _ w hv h;refine⟨h1,fun t=>?_⟩;rw[h2,dW];exact⟨fun h=>⟨h.1,fun h'=>absurd hm h',h.2⟩,fun h=>⟨h.1,h.2.2⟩⟩
  ·rename_i hm
   split at h
   ·rename_i hb
    obtain⟨h1,h2⟩:=DO l c _ w (ym hv hb) h;refine⟨h1,fun t=>?_⟩;rw[h2,Cd hb,dW,and_assoc];exact⟨fun h=>⟨h.1,fun _=>h.2.1,h.2.2⟩,fun h=>⟨h.1,h.2.1 hm,h.2.2⟩⟩
   ·exact absurd h (by simp)
def Gp(l:ab): ∀(c:List ab) (v:av),v.Pos->je l c v=none-> ∀t,v.has t-> ¬ ∀m∈c,m≠l->0<m.value (l.at t)
 |[],v,hv,h=>by simp[je] at h
 |m::c,v,hv,h=>by
  intro t ht hd;have hd':=dW.1 hd;rw[je] at h;split at h
  ·exact Gp l c _ hv h t ht hd'.2
  ·rename_i hm
   split at h
   ·rename_i hb
    exact Gp l c _ (ym hv hb) h t ((AZ hb t).2 ⟨ht,fY (hd'.1 hm)⟩) hd'.2
   ·rename_i hb
    have:=AS hv (by simpa using hb) ht;have:=hd'.1 hm;grind
def vN(c:List ab):Bool:=c.isEmpty||c.any (fun l=>(je l c av.all).isSome)
def NY: ∀{ls:List ab} {c e:aF},qb ls c=some e-> ∀s∈e,s.l∈ls\/ ∃s'∈c,s'.l=s.l
 |[],c,e,h,s,hs=>by
  obtain rfl:c=e:=by simpa[qb] using h
  exact .inr ⟨s,hs,J⟩
 |l::t,c,e,h,s,hs=>by
  rw[qb] at h;split at h
  ·rcases NY h s hs with h1|⟨s',h1,h2⟩
   ·exact .inl (aZ _ h1)
   ·unfold bF at h1
    split at h1
    ·rcases uY.1 h1 with rfl|h1
     ·exact .inl (by rw[<-h2];exact aQ)
     ·obtain⟨s1,m1,_,rfl⟩:=uw.1 h1
      exact .inr ⟨s1,m1,h2⟩
    ·exact .inr ⟨s',h1,h2⟩
  ·exact absurd h (by simp)
def Y2{c:List ab}(hok: ∀l∈c,l.ok)(hne: ∃p,fp c p): ∃e,qb c []=some e/\d8 e/\(∀p,bP e p↔fp c p)/\ ∀s∈e,s.l∈c/\(je s.l c av.all).isSome=true:=by
 obtain⟨p,hp⟩:=hne;obtain⟨e,he⟩:=Lh d8.nil hok ⟨p,fun s hs=>absurd hs (by simp),hp⟩;obtain⟨g1,g2⟩:=O6 d8.nil hok he;have g3: ∀p,bP e p↔fp c p:=fun p=>by
  rw[g2];exact⟨fun h=>h.2,fun h=>⟨fun s hs=>absurd hs (by simp),h⟩⟩
 refine⟨e,he,g1,g3,fun s hs=>?_⟩;have hm:s.l∈c:=by
  rcases NY he s hs with h|⟨_,h,_⟩
  ·exact h
  ·exact absurd h (by simp)
 refine⟨hm,?_⟩
 cases hp:je s.l c av.all with
 |some w=>rfl
 |none=>
  exfalso;obtain⟨p1,p2⟩:=g1.edge s hs;have hC:=(p2 s.v.sample).1 (wx p1).has;refine Gp s.l c _ wU hp s.v.sample (FA _) fun m hmc hne=>?_;have hall: ∀p,bP e p->0<m.value p:=fun p hp=>(g3 p).1 hp m hmc;have h0:=xP g1.ne hall hC;have h1:m.value (s.l.at s.v.sample)≠0:=fun hz=>hne (KF g1 hs (hok m hmc) hall hz);grind
def Z0{c:List ab}(hok: ∀l∈c,l.ok):vN c=true↔ ∃p,fp c p:=by
 unfold vN;rw[iR,List.isEmpty_iff,kU];constructor
 ·rintro (rfl|⟨l,hl,h⟩)
  ·exact⟨⟨0,0⟩,fun m hm=>absurd hm (by simp)⟩
  ·obtain⟨w,hw⟩:=Option.isSome_iff_exists.1 h
   obtain⟨w1,w2⟩:=DO l c _ w wU hw;have hi:=((w2 w.sample).1 (wx w1)).2;have h0:=sP (hok l hl).ne w.sample;have hd:bP ((c.filter (fun m=>decide (m≠l))).map (fun m=>(⟨m,av.all⟩:aH))) (l.at w.sample):=by
    intro s hs;obtain⟨m,hm,rfl⟩:=bV.1 hs;rw[jN,decide_eq_true_iff] at hm;exact hi m hm.1 hm.2
   obtain⟨e,he,ho⟩:=hd.open l.nor;refine⟨dC (l.at w.sample) l.nor e,fun m hm=>?_⟩;by_cases hml:m=l
   ·subst hml
    rw[jG,h0];have:=ce he (pP (hok m hl).ne);grind
   ·exact ho e (fY he) iZ ⟨m,av.all⟩ (bV.2 ⟨m,jN.2 ⟨hm,by simpa using hml⟩,J⟩)
 ·intro hne
  obtain⟨e,h1,h2,h3,h4⟩:=Y2 hok hne
  cases c with
  |nil=>exact .inl J
  |cons l c=>
   right
   cases e with
   |nil=>
    exfalso;have:=(h3 (l.at 0)).1 (fun s hs=>absurd hs (by simp)) l aQ;rw[sP (hok l aQ).ne] at this;exact absurd this (by decide)
   |cons s e=>
    obtain⟨a,b⟩:=h4 s aQ;exact⟨s.l,a,b⟩
def Hc(out:List ab)(l:ab):Nat:=(out.takeWhile (fun x=>decide (di x.dir l.dir<0))).length
def ayq(out:List ab)(l:ab):List ab:=if out[Hc out l]? =some l then out else out.take (Hc out l)++l::out.drop (Hc out l)
def Gc(c:List ab):List ab->List ab->List ab
 |[],out=>out
 |l::t,out=>Gc c t (if(je l c av.all).isSome then ayq out l else out)
def s7(c:List ab):List ab:=Gc c c []
def DH(c:List ab)(l:ab):Int:=if vN (c++[l])&&vN (c++[l.rev]) then 0 else if vN (c++[l]) then 1 else-1
def Tr.restrictL:Tr->List ab->Tr
 | .leaf b,_=> .leaf b
 | .node l x y,c=>if DH c l=1 then x.restrictL c else if DH c l= -1 then y.restrictL c else joinQ l (x.restrictL (s7 (c++[l]))) (y.restrictL (s7 (c++[l.rev])))
def E3{c:List ab}{l:ab}{p:aa}:fp (c++[l]) p↔fp c p/\0<l.value p:=by
 unfold fp;rw[List.forall_mem_append];simp
def OR{c:List ab}{l:ab}(hok: ∀m∈c,m.ok)(hl:l.ok): ∀m∈c++[l],m.ok:=by
 rw[List.forall_mem_append];exact⟨hok,by simpa using hl⟩
end Go.Sx
end
section
namespace Go.Sx
open Go Go.Proofs Tryz
variable {GB:Gh}
structure A5 where
 lo:RV
 hi:RV
 nl:Bool
 nh:Bool
def A5.v(z:A5):Value:= .agg ⟨[.int .i64 z.lo.n, .int .i64 z.lo.d, .pointer z.lo.p, .int .i64 z.hi.n, .int .i64 z.hi.d, .pointer z.hi.p, .bool z.nl, .bool z.nh]⟩
section
variable {P:Program} {C:aD} {n:Nat} {fr:Fr} {own own' own1:List ak} {G:Gh} {Φ:Act->World->Prop}
variable {dst:Option Nat} {t t' ty':TypeId} {pos:String} {af:Array Edge} {gd:Option (Nat×Bool)} {x y:Operand} {e s by_:Nat}
end
structure TJ (k:Nat) (G:Gh) (z:A5) (v:av):Prop where
 lo:vw k G z.lo v.lo
 hi:vw k G z.hi v.hi
 nl:z.nl=v.nl
 nh:z.nh=v.nh
def Ll:List Int->Int
 |[]=>0
 |x::t=>if x≠0 then x else Ll t
def aKQ(l m:ab):Int:=Ll [bO l.a m.a,bO l.b m.b,bO l.c m.c]
structure Aa where
 l:LV
 v:A5
def Aa.val(z:Aa):Value:= .agg ⟨[.int .i64 z.l.a.n, .int .i64 z.l.a.d, .pointer z.l.a.p, .int .i64 z.l.b.n, .int .i64 z.l.b.d, .pointer z.l.b.p, .int .i64 z.l.c.n, .int .i64 z.l.c.d, .pointer z.l.c.p, .int .i64 z.v.lo.n, .int .i64 z.v.lo.d, .pointer z.v.lo.p, .int .i64 z.v.hi.n, .int .i64 z.v.hi.d, .pointer z.v.hi.p, .bool z.v.nl, .bool z.v.nh]⟩
structure VQ (k:Nat) (G:Gh) (z:Aa) (f:aH):Prop where
 l:Fb k G z.l f.l
 v:TJ (25*k+6) G z.v f.v
inductive gi {α β:Type} (R:α->β->Prop):List α->List β->Prop
 |nil:gi R [] []
 |cons {a b us bs} (h:R a b) (t:gi R us bs):gi R (a::us) (b::bs)
def gi.len{α β:Type}{R:α->β->Prop}{us:List α}{bs:List β}(h:gi R us bs):us.length=bs.length:=by
 induction h with
 |nil=>rfl
 |cons _ _ ih=>simp[ih]
def gi.imp{α β:Type}{R S:α->β->Prop}{us:List α}{bs:List β}(h:gi R us bs)(k: ∀a b,R a b->S a b):gi S us bs:=by
 induction h with
 |nil=>exact .nil
 |cons h _ ih=>exact .cons (k _ _ h) ih
def gi.get{α β:Type}{R:α->β->Prop}{us:List α}{bs:List β}(h:gi R us bs){i:Nat}{b:β}(hi:bs[i]? =some b): ∃a,us[i]? =some a/\R a b:=by
 induction h generalizing i with
 |nil=>simp at hi
 | @cons a b' us bs h t ih=>
  cases i with
  |zero=>simp at hi;subst hi;exact⟨a,J,h⟩
  |succ i=>simpa using ih (i:=i) (by simpa using hi)
def gi.app{α β:Type}{R:α->β->Prop}{us us':List α}{bs bs':List β}(h:gi R us bs)(k:gi R us' bs'):gi R (us++us') (bs++bs'):=by
 induction h with
 |nil=>exact k
 |cons h _ ih=>exact .cons h ih
structure Z2 (k:Nat) (G:Gh) (x:SV) (c:aF):Prop where
 ex: ∃fs:List Aa,eB G 17 x (fs.map Aa.val)/\gi (VQ k G) fs c

section
variable {P:Program} {C:aD} {n:Nat} {fr:Fr} {own own':List ak} {G:Gh} {Φ:Act->World->Prop}
variable {dst:Option Nat} {t t' ty':TypeId} {pos:String} {af:Array Edge} {gd:Option (Nat×Bool)} {x y:Operand} {e s by_:Nat}
def ayn{o1 o2:ak}{rest:List ak}(h:o1.b≠o2.b->St C n fr (o1::o2::rest) G Φ):St C n fr (o1::o2::rest) G Φ:=
 fun a w rl=>h ((bJ.1 rl.h.nd).1 _ aQ) a w rl
def By[hT:cg P t e s by_]{k:IntKind}{b off len cap:Nat}{l:Int}(hx:aw fr x=some (.slice (some ⟨b,off,none⟩) len cap))(hy:aw fr y=some (.int k l))(h0:0<=l)(h1:l<=len)(h2:l<cap):
  Yd P C fr own G ⟨dst, .slice t x (some y) none none,ty',pos,af,gd⟩ (.slice (some ⟨b,off+l.toNat*s,none⟩) (len-l.toNat) (cap-l.toNat)):=by
 have h:=CQ (P:=P) (C:=C) (own:=own) (G:=G) (t:=t) (dst:=dst) (ty':=ty') (pos:=pos) (af:=af) (gd:=gd) (by_:=by_) hx hy h0 h1;unfold mp at h;rw[if_neg (by omega)] at h;simpa[o8] using h
end

section
variable {P:Program} {C:aD} {n:Nat} {fr:Fr} {own own':List ak} {G:Gh} {Φ:Act->World->Prop}
variable {dst:Option Nat} {t t' ty':TypeId} {pos:String} {af:Array Edge} {gd:Option (Nat×Bool)} {x y:Operand} {e s by_:Nat}
end

def Iu(k:Nat)(G:Gh):Tr->Option Addr->Prop
 | .leaf b,p=> ∃n,p=some ⟨n,0,none⟩/\G n=some [.int .i64 0, .int .i64 0, .pointer none, .int .i64 0, .int .i64 0, .pointer none, .int .i64 0, .int .i64 0, .pointer none, .pointer none, .pointer none, .bool b]
 | .node l x y,p=> ∃(n:Nat) (z:LV) (q r:Option Addr),p=some ⟨n,0,none⟩/\G n=some [.int .i64 z.a.n, .int .i64 z.a.d, .pointer z.a.p, .int .i64 z.b.n, .int .i64 z.b.d, .pointer z.b.p, .int .i64 z.c.n, .int .i64 z.c.d, .pointer z.c.p, .pointer q, .pointer r, .bool false]/\Fb k G z l/\Iu k G x q/\Iu k G y r
structure ND where
 a:IV
 b:IV
 c:IV
 l:Int
 r:Int
def ND.val(z:ND):Value:= .agg ⟨[.bool z.a.neg, .slice z.a.a.a z.a.a.n z.a.a.c, .bool z.b.neg, .slice z.b.a.a z.b.a.n z.b.a.c, .bool z.c.neg, .slice z.c.a.a z.c.a.n z.c.a.c, .int .i64 z.l, .int .i64 z.r]⟩
structure qB (k:Nat) (G:Gh) (z:ND) (n:NQ):Prop where
 a:mv k G z.a n.l.a
 b:mv k G z.b n.l.b
 c:mv k G z.c n.l.c
 l:z.l=n.a
 r:z.r=n.b
def qB.up{k:Nat}{A G:Gh}{z:ND}{n:NQ}(h:qB k A z n)[GL A G]:qB k G z n:=⟨h.a.up,h.b.up,h.c.up,h.l,h.r⟩
structure XB (k:Nat) (G:Gh) (x:SV) (ns:List NQ):Prop where
 ex: ∃zs:List ND,eB G 8 x (zs.map ND.val)/\gi (qB k G) zs ns
def aJG(n i:Nat):List Value:=(List.range n).map fun j=> .bool (decide (j<i))

def ND.len8(zs:List ND): ∀v∈zs.map ND.val,(aE v).length=8:=fun v hv=>by
 obtain⟨f,_,rfl⟩:=bV.1 hv;rfl
def ND.flat(zs:List ND): ∀v∈zs.map ND.val,∀c∈aE v,Sx.flat c=true:=fun v hv c hc=>by
 obtain⟨f,_,rfl⟩:=bV.1 hv;simp only[ND.val,aE,aV,kX,or_false] at hc;rcases hc with rfl|rfl|rfl|rfl|rfl|rfl|rfl|rfl<;>rfl
def gi.set{α β:Type}{R:α->β->Prop}{us:List α}{bs:List β}(h:gi R us bs){a:α}{b:β}(hr:R a b)(i:Nat):gi R (us.set i a) (bs.set i b):=by
 induction h generalizing i with
 |nil=>simp;exact .nil
 |cons h t ih=>
  cases i with
  |zero=>exact .cons hr t
  |succ i=>exact .cons h (ih i)
def OK(zs:List ND)(rest:List Value)(i j:Nat)(x:Value)(z:ND)(hi:i<zs.length)(hj:j<8)(hz:aE z.val=(aE (zs[i]).val).set j x):
  (aC (zs.map ND.val)++rest).set (i*8+j) x=aC ((zs.set i z).map ND.val)++rest:=by
 have hi':i<(zs.map ND.val).length:=by simpa using hi
 rw[Ju hj _ i hi' (ND.len8 zs),List.getElem_map,<-hz,pT,List.set_eq_take_append_cons_drop,if_pos hi',mE];have e:aC (z.val::(zs.map ND.val).drop (i+1))=aE z.val++aC ((zs.map ND.val).drop (i+1)):=by simp[aC]
 rw[e];simp[dQ]
def oo(ob wb:Nat):Value:= .func (.func 170) #[] #[.pointer (some ⟨ob,0,none⟩), .pointer (some ⟨wb,0,none⟩)]
structure zX where
 x:SV
 p:Option Addr
def zX.val(z:zX):Value:= .agg ⟨[.slice z.x.a z.x.n z.x.c, .pointer z.p]⟩
structure aJb (k:Nat) (G:Gh) (z:zX) (b:Bool×aF):Prop where
 c:Z2 k G z.x b.2
 t:Iu k G (.leaf b.1) z.p
structure aKh (k:Nat) (G:Gh) (w:SV) (ps:List (Bool×aF)):Prop where
 ex: ∃zs:List zX,eB G 2 w (zs.map zX.val)/\gi (aJb k G) zs ps
structure LI where
 a:IV
 b:IV
 c:IV
def LI.val(z:LI):Value:= .agg ⟨[.bool z.a.neg, .slice z.a.a.a z.a.a.n z.a.a.c, .bool z.b.neg, .slice z.b.a.a z.b.a.n z.b.a.c, .bool z.c.neg, .slice z.c.a.a z.c.a.n z.c.a.c]⟩
structure aJT (k:Nat) (G:Gh) (z:LI) (l:ab):Prop where
 a:mv k G z.a l.a
 b:mv k G z.b l.b
 c:mv k G z.c l.c
structure aJw (k:Nat) (G:Gh) (x:SV) (ls:List ab):Prop where
 ex: ∃zs:List LI,eB G 6 x (zs.map LI.val)/\gi (aJT k G) zs ls
structure aJx (k:Nat) (G:Gh) (x:SV) (ls:List ab):Prop where
 ex: ∃zs:List LV,eB G 9 x (zs.map LV.v)/\gi (Fb k G) zs ls
def vi{a b:Int}(h:a=b):eI a=eI b:=by rw[h]
def Cw(z:Int):eQ (z:Rat)= .ag [.v (.bool (decide (z<0))),dN z.natAbs, .sl []]:=by unfold eQ;rw[qL,qM];rfl
def CH{a:Rat}(h:a.den=1):((a.num:Int):Rat)=a:=Rat.ext (qL _) (by rw[qM,h])
def Ya{a b:Rat}(ha:a.den=1)(hb:b.den=1):a+b=((a.num+b.num:Int):Rat):=by
 rw[pQ,CH ha,CH hb]
def V7{a b:Rat}(ha:a.den=1)(hb:b.den=1):a*b=((a.num*b.num:Int):Rat):=by
 rw[cM,CH ha,CH hb]
def wY(n:Nat)(h:0<n):(if n=1 then [] else(dg n).map dU).length=0↔n=1:=by
 by_cases q:n=1
 ·simp[q]
 ·rw[if_neg q,aJ,um];omega
def Qu{n:Nat}(h:n≠1):dD n=dN n:=by unfold dD;rw[if_neg h];rfl
def Gf{g:Nat}:(gn g 1=0)↔g=1:=by
 unfold gn;constructor
 ·intro h;split at h
  ·exact absurd h (by decide)
  ·split at h
   ·assumption
   ·exact absurd h (by decide)
 ·rintro rfl;rfl
def LU{x:Int}{d:Nat}(hd:0<d):zv (decide (x<0)) (x.natAbs/Nat.gcd x.natAbs d)=(mkRat x d).num:=by
 rw[Rat.num_mkRat,if_neg (by omega),iN];have hg:0<Nat.gcd d x.natAbs:=kR _ hd;obtain⟨c,hc⟩:Nat.gcd d x.natAbs∣x.natAbs:=lK _ _;generalize Nat.gcd d x.natAbs=g at*;rw[hc,rK _ hg];unfold zv;by_cases q:x<0
 ·rw[if_pos (by simpa using q),show x=(g:Int)*(-(c:Int)) by rw[Int.mul_neg,<-jQ];omega,Int.mul_ediv_cancel_left _ (by omega)]
 ·rw[if_neg (by simpa using q),show x=(g:Int)*(c:Int) by rw[<-jQ];omega,Int.mul_ediv_cancel_left _ (by omega)]
def L'{x:Int}{d:Nat}(hd:0<d):d/Nat.gcd x.natAbs d=(mkRat x d).den:=by
 rw[Rat.den_mkRat,if_neg (by omega),iN]
def aD7{x:Int}{d:Nat}(hd:0<d)(h:Nat.gcd x.natAbs d=1):(mkRat x d).num=x/\(mkRat x d).den=d:=by
 rw[<-LU hd,<-L' hd,h,tK,tK];exact⟨l5 x,J⟩
instance BI.zv (neg:Bool) (m i:Nat) [h:BN m i]:BI (zv neg m) i:=⟨by rw[qi];exact h.h⟩
section
variable {GB:Gh} {C:aD} {n:Nat} {Q0:Exit->Act->World->Prop} {fr fr':aA} {own own':aO} {cf cf':Cf} {vc:List Prop}
def Kh(fr:aA)(cf:Cf):Option Int:=match cd fr cf with
 |some ⟨_, .convert t t' x,_,_,_,_⟩=>match dh tt t,dh tt t' with
  |some ⟨.int .i64,_,_,_⟩,some ⟨.int .u64,_,_,_⟩=>match aP (bz fr cf) x with
   |some (.d (.v (.int .i64 p)))=>some p
   |_=>none
  |_,_=>none
 |_=>none
def ZN[fu:Fu]{p:Int}(q:Int)(h:Kh fr cf=some p)(e:p%18446744073709551616=q)(hgo:cA tt n fu.n fr own cf (.d (.v (.int .u64 q))) [] []=⟨vc,fr',own',cf'⟩)(k:aj prog GB C n Q0 fr' own' cf')
  (hv:ah vc:=by first|exact trivial|(simp only[ah];omega)):aj prog GB C n Q0 fr own cf:=by
 unfold Kh at h;split at h<;>try (cases h;done)
 rename_i hh;split at h<;>try (cases h;done)
 rename_i hT hT';split at h<;>cases h;rename_i hx;have:=xd (er _ _ hT) J;have:=xd (er _ _ hT') J;refine us hh (.x1 hx fun ρ G ov a w y _ r h1 h2=>?_) hgo hv k;rw[c8] at h2;subst h2;refine⟨_,c8.2 J,?_⟩;rw[<-e,<-nF];exact B4 h1
def OI(fr:aA)(cf:Cf):Option Int:=match cd fr cf with
 |some ⟨_, .unOp .neg _ x,_,_,_,_⟩=>match aP (bz fr cf) x with
  |some (.d (.v (.int .u64 p)))=>some p
  |_=>none
 |_=>none
def SC[fu:Fu]{p:Int}(q:Int)(h:OI fr cf=some p)(e:(0-p)%18446744073709551616=q)(hgo:cA tt n fu.n fr own cf (.d (.v (.int .u64 q))) [] []=⟨vc,fr',own',cf'⟩)(k:aj prog GB C n Q0 fr' own' cf')
  (hv:ah vc:=by first|exact trivial|(simp only[ah];omega)):aj prog GB C n Q0 fr own cf:=by
 unfold OI at h;split at h<;>try (cases h;done)
 rename_i hh;split at h<;>cases h;rename_i hx;refine us hh (.x1 hx fun ρ G ov a w y _ r h1 h2=>?_) hgo hv k;rw[c8] at h2;subst h2;refine⟨_,c8.2 J,?_⟩;rw[<-e,<-nF];exact IS h1
end
def aG1{n:Int}(h0: -4611686018427387904<=n)(h1:n<=4611686018427387904):PF GB prog 157 [.v (.int .i64 n)] (eI n):=by
 refine fn func157 J J ntmps157 J J (fun C=>?_);refine br (fu1:=⟨3⟩) (fu2:=⟨6⟩) J J J (fun hc4=>?_) (fun hc4=>?_)
 .
  refine ZN (fu:=⟨0⟩) (18446744073709551616+n) J (by omega) J<|SC (n.natAbs:Nat) J (by omega) J<|cl J (u6 (u:=n.natAbs) (by omega)) J<|?_;refine cl J kB J<|?_;exact rz J (vi (by unfold zv;rw[if_pos J];omega))
 .
  refine ao 11 (.d (.v (.int .u64 (n.natAbs:Nat)))) J (by show FX.d (.v (.int _ _))= .d (.v (.int _ _));congr 3;omega) ?_;refine gx J<|cl J (u6 (u:=n.natAbs) (by omega)) J<|cl J kB J<|?_;exact rz J (vi (by unfold zv;rw[if_neg (by decide)];omega))
def yF{z:Int}:PF GB prog 123 [eI z] (vI z.sign):=by
 have hl:=fA (dg z.natAbs);have hz:= @um z.natAbs;refine fn func123 J J ntmps123 J J (fun C=>?_);refine br J J J (fun hc6=>?_) (fun hc6=>?_)
 .
  exact rz J (by show DV.v (.int _ 0)=DV.v (.int _ _);rw[show z=0 by omega];rfl)
 .
  refine bd J J J (fun hc8=>?_) (fun hc8=>?_)
  .
   exact rz J (by show DV.v (.int _ (-1))=DV.v (.int _ _);rw[fZ (by omega)])
  .
   exact rz J (by show DV.v (.int _ 1)=DV.v (.int _ _);rw[gJ (by omega)])
def AI{z:Int}:PF GB prog 124 [eI z] (eI (-z)):=by
 refine fn func124 J J ntmps124 J J (fun C=>?_);refine cl J kB J<|?_;exact rz J (vi (T9 z))
def awH{a b:Int}(h:decide (a<0)=decide (b<0)):zv (decide (a<0)) (a.natAbs+b.natAbs)=a+b:=by
 unfold zv;have h':a<0↔b<0:=by simpa using h
 by_cases q:a<0
 ·have:=h'.1 q
  simp[q];omega
 ·have: ¬b<0:=fun w=>q (h'.2 w)
  simp[q];omega
def aAB{a b:Int}(h: ¬decide (a<0)=decide (b<0))(k:a.natAbs<b.natAbs):zv (decide (b<0)) (b.natAbs-a.natAbs)=a+b:=by
 unfold zv;have h': ¬(a<0↔b<0):=by simpa using h
 by_cases q:b<0
 ·have: ¬a<0:=fun w=>h' ⟨fun _=>q,fun _=>w⟩
  simp[q];omega
 ·have:a<0:=Int.not_le.1 fun w=>h' ⟨fun e=>by omega,fun e=>absurd e q⟩
  simp[q];omega
def WJ{a b:Int}(h: ¬decide (a<0)=decide (b<0))(k:b.natAbs<=a.natAbs):zv (decide (a<0)) (a.natAbs-b.natAbs)=a+b:=by
 unfold zv;have h': ¬(a<0↔b<0):=by simpa using h
 by_cases q:a<0
 ·have: ¬b<0:=fun w=>h' ⟨fun _=>w,fun _=>q⟩
  simp[q];omega
 ·have:b<0:=Int.not_le.1 fun w=>h' ⟨fun e=>absurd e q,fun e=>by omega⟩
  simp[q];omega
def DI{a b:Int}{i j:Nat}[ha:BI a i][hb:BI b j](hi:i<=400000000:=by decide)(hj:j<=400000000:=by decide):PF GB prog 240 [eI a,eI b] (eI (a+b)):=by
 have hba:=lC ha.h;have hbb:=lC hb.h;refine fn (fu:=⟨15⟩) func240 J J ntmps240 J J (fun C=>?_);refine ao 9 (.d (.v (.bool (decide (decide (a<0)=decide (b<0)))))) J (by congr 2) ?_;refine gx J<|?_;refine bd J J J (fun hc9=>?_) (fun hc9=>?_)
 .
  refine cl J (aGs (by omega) (by omega)) J<|cl J kB J<|?_;exact rz J (vi (awH hc9))
 .
  refine cl J (zk (by omega) (by omega)) J<|?_;refine br J J J (fun hc23=>?_) (fun hc23=>?_)
  .
   refine cl J (Ik (by have:=xD.1 hc23;omega) (by omega)) J<|cl J kB J<|?_;exact rz J (vi (aAB hc9 (xD.1 hc23)))
  .
   refine cl J (Ik (sK fun q=>hc23 (xD.2 q)) (by omega)) J<|cl J kB J<|?_;exact rz J (vi (WJ hc9 (sK fun q=>hc23 (xD.2 q))))
def tD{a b:Int}{i j:Nat}[ha:BI a i][hb:BI b j](hi:i<=400000000:=by decide)(hj:j<=400000000:=by decide):PF GB prog 238 [eI a,eI b] (eI (a*b)):=by
 refine fn func238 J J ntmps238 J J (fun C=>?_);refine cl J (rk (by omega) (by omega)) J<|cl J kB J<|?_;exact rz J (vi (aAj a b))
def HB{a b:Int}{i j:Nat}[ha:BI a i][hb:BI b j](hi:i<=400000000:=by decide)(hj:j<=400000000:=by decide):PF GB prog 268 [eI a,eI b] (vI (a-b).sign):=by
 refine fn func268 J J ntmps268 J J (fun C=>?_);refine cl J AI J<|cl J (DI (by omega) (by omega)) J<|cl J yF J<|?_;exact rz J (by rw[Int.sub_eq_add_neg];rfl)
def kI{q:Rat}:PF GB prog 195 [eQ q] (dN q.den):=by
 refine fn func195 J J ntmps195 J J (fun C=>?_);refine br J J J (fun hc6=>?_) (fun hc6=>?_)
 .
  refine cl J HG J<|?_;exact rz J (by rw[(wY q.den (mj q)).1 (by omega)];rfl)
 .
  exact rz J (by exact Qu (fun e=>hc6 (by exact congrArg Int.ofNat ((wY q.den (mj q)).2 e))))
def La{n k:Nat}[h:BN n k](hk:k<=500000000):(dg n).length<=100000000:=by have:=lC h.h;omega
def xS{x:Int}{d i j:Nat}[hx:BI x i][hd:BN d j](hd0:0<d)(hi:i<=200000000:=by decide)(hj:j<=200000000:=by decide):PF GB prog 156 [eI x,dN d] (eQ (mkRat x d)):=by
 obtain⟨q,hq⟩: ∃q,q=mkRat x d:=⟨_,rfl⟩;obtain⟨g,hg⟩: ∃g,g=Nat.gcd x.natAbs d:=⟨_,rfl⟩;have hg0:0<g:=hg▸oX _ hd0;haveI hgB:BN g (i+j):=hg▸inferInstance;have hg1:(dg g).length<=100000000:=La (k:=i+j) (by omega);have ho1:(dg 1).length<=100000000:=by rw[AP];decide
 haveI hqB:BQ q (i+j):=hq▸Ac hd0 (dK hx.h (bR (by decide) (by omega))) (dK hd.h (bR (by decide) (by omega)));refine fn func156 J J ntmps156 J J (fun C=>?_);refine cl (fu:=⟨0⟩) J (F0 (by omega) (by omega)) J<|?_;refine ao 11 (.d (dN g)) J (by rw[hg]) ?_;refine gx (fu:=⟨4⟩) J<|?_;refine mg (fu:=⟨1⟩) (X:=Unit) (fun _=>[(1, .d (dN q.den)),(2, .ov 2 0),(4, .ov 4 0)]) (fun _=>[(4,some (.o 79 [.ff, .nl, .nl] true)),(2,some (.o 77 [.d (.v (.bool (decide (q.num<0)))), .d (dN q.num.natAbs)] true))]) (fun _=>True) [1,2,4] [4,2] rfl ?_ (fun _=>J) (fun _ hm=>?_)
 .
  refine gx J<|cl J HG J<|cl J (zk hg1 ho1) J<|?_;refine br J J J (fun hc15=>?_) (fun hc15=>?_)
  .
   refine cl J (yh hg0 (by omega) (by omega)) J<|cl (fu:=⟨0⟩) J kB J<|?_;refine ao 26 (.d (eI q.num)) J (by show FX.d (eI (zv _ _))=_;rw[hg,LU hd0,hq]) ?_;refine gx J<|cl (fu:=⟨2⟩) J (yh hg0 (by omega) (by omega)) J<|?_;refine ao 31 (.d (dN q.den)) J (by rw[hg,L' hd0,hq]) ?_;refine gx J<|?_;exact at_ () trivial
  .
   have hm:=aD7 (x:=x) hd0 (by rw[<-hg];exact Gf.1 (Decidable.not_not.1 hc15));rw[<-hq] at hm;refine ao 1 (.d (dN q.den)) J (by rw[hm.2]) ?_;exact at_ () trivial (hO:=⟨J,by rw[hm.1];rfl,trivial⟩)
 .
  refine mg (X:=Unit) (fun _=>[(1, .d (dD q.den)),(2, .ov 2 0),(4, .ov 4 0)]) (fun _=>[(4,some (.o 79 [.ff, .nl, .nl] true)),(2,some (.o 77 [.d (.v (.bool (decide (q.num<0)))), .d (dN q.num.natAbs)] true))]) (fun _=>True) [1,2,4] [4,2] rfl ?_ (fun _=>J) (fun _ hm=>?_)
  .
   refine gx J<|cl J HG J<|cl J (zk (La (k:=i+j) (by omega)) ho1) J<|?_;refine br J J J (fun hc36=>?_) (fun hc36=>?_)
   .
    refine nlD 1 J ?_;refine ao 1 (.d (dD q.den)) J (by rw[Gf.1 hc36];rfl) ?_;exact at_ () trivial
   .
    refine ao 1 (.d (dD q.den)) J (by rw[Qu (fun e=>hc36 (Gf.2 e))]) ?_;exact at_ () trivial
  .
   exact rz J (by rw[<-hq];rfl)
def J3(a:Rat):mkRat a.num a.den=a:=by simp[tX]
def J7{a b:Rat}(h:b≠0):a/b=mkRat (a.num*zv (decide (b.num<0)) b.den) (a.den*b.num.natAbs):=by
 rw[oT];have ha:(a.num:Rat)/(a.den:Rat)=a:=by rw[<-oT,J3]
 have hb:(b.num:Rat)/(b.den:Rat)=b:=by rw[<-oT,J3]
 have h1:(a.den:Rat)≠0:=by have:=a.den_nz;exact_mod_cast this
 have h2:(b.den:Rat)≠0:=by have:=b.den_nz;exact_mod_cast this
 have h3:(b.num:Rat)≠0:=by
  intro e;rw[e] at hb;apply h;rw[<-hb];grind
 rw[cM,Rat.natCast_mul];by_cases q:b.num<0
 ·have e1:((zv (decide (b.num<0)) b.den:Int):Rat)= -(b.den:Rat):=by
   unfold zv;rw[if_pos (by simpa using q),pZ];rfl
  have e2:((b.num.natAbs:Nat):Rat)= -(b.num:Rat):=by
   have:((b.num.natAbs:Nat):Int)= -b.num:=by omega
   rw[<-pZ,<-this];rfl
  rw[e1,e2];generalize (a.num:Rat)=an at*;generalize (a.den:Rat)=ad at*;generalize (b.num:Rat)=bn at*;generalize (b.den:Rat)=bd at*;subst ha hb;grind
 ·have e1:((zv (decide (b.num<0)) b.den:Int):Rat)=(b.den:Rat):=by
   unfold zv;rw[if_neg (by simpa using q)];rfl
  have e2:((b.num.natAbs:Nat):Rat)=(b.num:Rat):=by
   have:((b.num.natAbs:Nat):Int)=b.num:=by omega
   rw[<-this];rfl
  rw[e1,e2];generalize (a.num:Rat)=an at*;generalize (a.den:Rat)=ad at*;generalize (b.num:Rat)=bn at*;generalize (b.den:Rat)=bd at*;subst ha hb;grind
def arC{q:Rat}{n:Int}{d:Nat}(hd:0<d)(h:q*(d:Rat)=(n:Rat)):q.num.natAbs<=n.natAbs/\q.den<=d:=by
 have e:q=mkRat n d:=by
  rw[oT];have:(d:Rat)≠0:=by exact_mod_cast (by omega:d≠0)
  rw[<-h];grind
 rw[e,Rat.num_mkRat,Rat.den_mkRat,if_neg (by omega),if_neg (by omega)];exact⟨nY n (d.gcd n.natAbs:Nat),kW ..⟩
theorem BQ.of_frac{q:Rat}{n:Int}{d i:Nat}(hd:0<d)(h:q*(d:Rat)=(n:Rat))(hn:n.natAbs<2^i)(hdi:d<2^i):BQ q i:=by
 have:=arC hd h;exact⟨by omega,by omega⟩
def KA{b:Rat}(h:b≠0):0<b.num.natAbs:=by
 have:b.num≠0:=fun e=>h (mW.1 e);omega
instance BQ.over (a b:Rat) (i j:Nat) [ha:BQ a i] [hb:BQ b j]:BQ (a/b) (i+j):=by
 by_cases h:b=0
 ·subst h
  rw[Rat.div_def,Rat.inv_zero,Rat.mul_zero];have h2:=ha.hd;have h3:0<a.den:=mj a;have h4:2^i*1<=2^i*2^j:=fL _ (fW (by decide));rw[<-fS] at h4;exact⟨by show 0<_;omega,by show 1<_;omega⟩
 ·rw[J7 h]
  have hb0:=KA h;refine Ac (jU (mj a) hb0) ?_ (o5 ha.hd hb.hn);rw[jV,qi];exact o5 ha.hn hb.hd
def uK{n:Int}(h0: -4611686018427387904<=n)(h1:n<=4611686018427387904):PF GB prog 101 [.v (.int .i64 n)] (eQ (n:Rat)):=by
 refine fn func101 J J ntmps101 J J (fun C=>?_);refine cl J (aG1 (by omega) (by omega)) J<|?_;exact rz J (by rw[Cw];rfl)
def Io{q:Rat}:PF GB prog 44 [eQ q] (vI q.num.sign):=by
 refine fn func44 J J ntmps44 J J (fun C=>?_);refine cl J yF J<|?_;exact rz J J
def yH{q:Rat}:PF GB prog 45 [eQ q] (eQ (-q)):=by
 refine fn func45 J J ntmps45 J J (fun C=>?_);refine cl J AI J<|?_;exact rz J (by unfold eQ;rw[mR,pW];rfl)
def ji{a b:Rat}{i j:Nat}[ha:BQ a i][hb:BQ b j](hi:i<=20000000:=by decide)(hj:j<=20000000:=by decide):PF GB prog 149 [eQ a,eQ b] (eQ (a*b)):=by
 have had:=mj a;have hbd:=mj b;have hdp:=jU had hbd;have e1:=wY a.den had;have e2:=wY b.den hbd;refine fn func149 J J ntmps149 J J (fun C=>?_);refine cs 9 J J J (fun hg9=>?_) (fun hg9=>?_)
 .
  refine br J J J (fun hc14=>?_) (fun hc14=>?_)
  .
   refine cl J (tD (a:=a.num) (b:=b.num) (by omega) (by omega)) J<|?_;exact rz J (by rw[V7 (e1.1 (by omega)) (e2.1 (by omega)),Cw];rfl)
  .
   refine cl J (tD (a:=a.num) (b:=b.num) (by omega) (by omega)) J<|cl J kI J<|cl J kI J<|cl J (rk (by omega) (by omega)) J<|?_;refine cl J (xS hdp (by omega) (by omega)) J<|?_;exact rz J (by rw[zb];rfl)
 .
  refine cl J (tD (a:=a.num) (b:=b.num) (by omega) (by omega)) J<|cl J kI J<|cl J kI J<|cl J (rk (by omega) (by omega)) J<|?_;refine cl J (xS hdp (by omega) (by omega)) J<|?_;exact rz J (by rw[zb];rfl)
def uk{a b:Rat}{i j:Nat}[ha:BQ a i][hb:BQ b j](hi:i<=20000000:=by decide)(hj:j<=20000000:=by decide):PF GB prog 148 [eQ a,eQ b] (eQ (a+b)):=by
 have had:=mj a;have hbd:=mj b;have hdp:=jU had hbd;have e1:=wY a.den had;have e2:=wY b.den hbd;refine fn func148 J J ntmps148 J J (fun C=>?_);refine cs 9 J J J (fun hg9=>?_) (fun hg9=>?_)
 .
  refine br J J J (fun hc14=>?_) (fun hc14=>?_)
  .
   refine cl J (DI (by omega) (by omega)) J<|?_;exact rz J (by rw[Ya (e1.1 (by omega)) (e2.1 (by omega)),Cw];rfl)
  .
   refine cl J kI J<|cl J kB J<|cl J (tD (a:=a.num) (b:=zv false b.den) (by omega) (by omega)) J<|cl J kI J<|cl J kB J<|?_;refine cl J (tD (a:=b.num) (b:=zv false a.den) (by omega) (by omega)) J<|cl J (DI (by omega) (by omega)) J<|cl J kI J<|?_;refine cl J kI J<|cl J (rk (by omega) (by omega)) J<|cl J (xS hdp (by omega) (by omega)) J<|?_;exact rz J (by rw[y6];rfl)
 .
  refine cl J kI J<|cl J kB J<|cl J (tD (a:=a.num) (b:=zv false b.den) (by omega) (by omega)) J<|cl J kI J<|?_;refine cl J kB J<|cl J (tD (a:=b.num) (b:=zv false a.den) (by omega) (by omega)) J<|cl J (DI (by omega) (by omega)) J<|?_;refine cl J kI J<|cl J kI J<|cl J (rk (by omega) (by omega)) J<|cl J (xS hdp (by omega) (by omega)) J<|?_;exact rz J (by rw[y6];rfl)
def yD{a b:Rat}{i j:Nat}[ha:BQ a i][hb:BQ b j](hi:i<=20000000:=by decide)(hj:j<=20000000:=by decide):PF GB prog 163 [eQ a,eQ b] (eQ (a-b)):=by
 refine fn func163 J J ntmps163 J J (fun C=>?_);refine cl J (yH (q:=b)) J<|cl J (uk (a:=a) (b:= -b) hi hj) J<|?_;exact rz J (by rw[Rat.sub_eq_add_neg];rfl)
def yp{a b:Rat}{i j:Nat}[ha:BQ a i][hb:BQ b j](hb0:b≠0)(hi:i<=20000000:=by decide)(hj:j<=20000000:=by decide):PF GB prog 147 [eQ a,eQ b] (eQ (a/b)):=by
 have hbp:=KA hb0;have hdp:=jU (mj a) hbp;refine fn func147 J J ntmps147 J J (fun C=>?_);refine cl J kI J<|cl J kB J<|cl J (tD (a:=a.num) (b:=zv (decide (b.num<0)) b.den) (by omega) (by omega)) J<|cl J kI J<|?_;refine cl J (rk (a:=a.den) (b:=b.num.natAbs) (by omega) (by omega)) J<|cl J (xS (x:=a.num*zv (decide (b.num<0)) b.den) (d:=a.den*b.num.natAbs) hdp (by omega) (by omega)) J<|?_;exact rz J (by rw[J7 hb0];rfl)
def wL{a b:Rat}{i j:Nat}[ha:BQ a i][hb:BQ b j](hi:i<=20000000:=by decide)(hj:j<=20000000:=by decide):PF GB prog 115 [eQ a,eQ b] (vI (bO a b)):=by
 refine fn func115 J J ntmps115 J J (fun C=>?_);refine cl J (yD hi hj) J<|cl J Io J<|?_;exact rz J (by show vI _=vI _;rw[DD])
def U7:((2:Int):Rat)≠0:=by decide
instance BI.two:BI 2 2:=⟨by decide⟩
def S6{a:Rat}{i:Nat}[ha:BQ a i](hi:i<=20000000:=by decide):PF GB prog 121 [eQ a] (eQ (a/2)):=by
 refine fn func121 J J ntmps121 J J (fun C=>?_);refine cl J (uK (n:=2) (by decide) (by decide)) J<|cl J (yp (a:=a) (b:=((2:Int):Rat)) U7 hi (by decide)) J<|?_;exact rz J J
def Xg{a b:Rat}{i j:Nat}[ha:BQ a i][hb:BQ b j](hi:i<=2000000:=by decide)(hj:j<=2000000:=by decide):PF GB prog 237 [eQ a,eQ b] (eQ ((a+b)/2)):=by
 refine fn func237 J J ntmps237 J J (fun C=>?_);refine cl J (uk (by omega) (by omega)) J<|cl J (S6 (a:=a+b) (by omega)) J<|?_;exact rz J J
end Go.Sx
end
