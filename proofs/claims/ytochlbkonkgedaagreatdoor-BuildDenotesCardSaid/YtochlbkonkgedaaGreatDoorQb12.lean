import Derived.Test.YtochlbkonkgedaaGreatDoorQb11
set_option linter.all false
set_option maxHeartbeats 1000000
set_option maxRecDepth 100000
section
namespace Go.Sx
open Go
def n5(l:ab)(p:aa):l.value p=(l.a:Rat)*p.x+(l.b:Rat)*p.y+(l.c:Rat):=rfl
def iE(l:ab)(p:aa):l.rev.value p= -l.value p:=by
 rw[n5,n5];have h1:((l.rev.a:Int):Rat)= -(l.a:Rat):=(Ku l.a).symm;have h2:((l.rev.b:Int):Rat)= -(l.b:Rat):=(Ku l.b).symm;have h3:((l.rev.c:Int):Rat)= -(l.c:Rat):=(Ku l.c).symm;rw[h1,h2,h3];grind
def ba(q p:aa)(e:Rat):aa:=⟨q.x+e*(p.x-q.x),q.y+e*(p.y-q.y)⟩
def kt(l:ab)(q p:aa)(e:Rat):l.value (ba q p e)=l.value q+e*(l.value p-l.value q):=by
 simp only[n5,ba];grind
def bt(q u:aa)(e:Rat):aa:=⟨q.x+e*u.x,q.y+e*u.y⟩
def i6(l:ab)(q u:aa)(e:Rat):l.value (bt q u e)=l.value q+e*l.nor.dot u:=by
 simp only[n5,bt,ab.nor,aa.dot];grind
def bF{a b:Rat}(ha:0<a)(hb:0<b):0<a*b:=Rat.mul_pos ha hb
def cj{a b:Rat}(ha:0<=a)(hb:0<=b):0<=a*b:=oL ha hb
def rO(a:Rat):0<=a*a:=by
 by_cases h:0<=a
 ·exact cj h h
 ·have:=cj (a:= -a) (b:= -a) (by grind) (by grind)
  grind
def gp{s k:Rat}(hk:0<k):0<s*k↔0<s:=by
 constructor
 ·intro h
  by_cases hs:0<s
  ·exact hs
  ·have:=cj (a:= -s) (b:=k) (by grind) (by grind)
   grind
 ·intro h;exact bF h hk
def ig{s k:Rat}(hk:0<k):0<=s*k↔0<=s:=by
 constructor
 ·intro h
  by_cases hs:0<=s
  ·exact hs
  ·have:=bF (a:= -s) (b:=k) (by grind) hk
   grind
 ·intro h;exact cj h (by grind)
def Te{A B u v:Rat}(h0:0<=A)(h1:0<=A+v*B)(hu:0<=u)(huv:u<=v):0<=A+u*B:=by
 by_cases hB:0<=B
 ·have:=cj hu hB;grind
 ·have:=cj (a:=v-u) (b:= -B) (by grind) (by grind)
  grind
def ab.Ne(l:ab):Prop:= ¬(l.a=0/\l.b=0)
def ab.ok.ne{l:ab}(h:l.ok):l.Ne:=h.1
def qn{l:ab}(h:l.Ne):0<l.nor.dot l.nor:=by
 show 0<(l.a:Rat)*l.a+(l.b:Rat)*l.b;have h1:=rO (l.a:Rat);have h2:=rO (l.b:Rat);by_cases ha:l.a=0
 ·have hb:l.b≠0:=fun hb=>h ⟨ha,hb⟩
  have hb':(l.b:Rat)≠0:=fun e=>hb (dY.1 e);have:(l.b:Rat)*l.b≠0:=by grind
  grind
 ·have ha':(l.a:Rat)≠0:=fun e=>ha (dY.1 e)
  have:(l.a:Rat)*l.a≠0:=by grind
  grind
def BD{l:ab}(h:l.Ne): ∃q:Rat,l.nor.dot l.nor*q= -(l.c:Rat)/\l.base=⟨(l.a:Rat)*q,(l.b:Rat)*q⟩:=by
 refine⟨-(l.c:Rat)/l.nor.dot l.nor,?_,J⟩;have:=qn h;grind
def oc(l m:ab)(t:Rat):m.value (l.at t)=l.cutC m+t*l.cutK m:=by
 simp only[ab.cutC,ab.cutK,n5,ab.at,aa.add,aa.scale,ab.dir,ab.nor,aa.dot];grind
def pn{l:ab}(h:l.Ne)(t:Rat):l.value (l.at t)=0:=by
 obtain⟨q,h1,h2⟩:=BD h;simp only[n5,ab.at,h2,aa.add,aa.scale,ab.dir];simp only[ab.nor,aa.dot] at h1;grind
def Dt{l:ab}(h:l.Ne){p:aa}(hp:l.value p=0): ∃t,p=l.at t:=by
 obtain⟨q,h1,h2⟩:=BD h;have hn:=qn h;obtain⟨x,y⟩:=p;rw[n5] at hp;simp only[ab.nor,aa.dot] at h1 hn;refine⟨((l.b:Rat)*x-(l.a:Rat)*y)/((l.a:Rat)*l.a+(l.b:Rat)*l.b),?_⟩;generalize ht:((l.b:Rat)*x-(l.a:Rat)*y)/((l.a:Rat)*l.a+(l.b:Rat)*l.b)=t;have ht':((l.a:Rat)*l.a+(l.b:Rat)*l.b)*t=(l.b:Rat)*x-(l.a:Rat)*y:=by grind
 simp only[ab.at,h2,aa.add,aa.scale,ab.dir,aa.mk.injEq];generalize (l.a:Rat)=a at*;generalize (l.b:Rat)=b at*;generalize (l.c:Rat)=c at*;have e1:(a*a+b*b)*(x-(a*q+b*t))=0:=by grind
 have e2:(a*a+b*b)*(y-(b*q+ -a*t))=0:=by grind
 constructor<;>grind
def av.has(v:av)(t:Rat):Prop:=(v.nl=true\/v.lo<=t)/\(v.nh=true\/t<=v.hi)
def av.ins(v:av)(t:Rat):Prop:=(v.nl=true\/v.lo<t)/\(v.nh=true\/t<v.hi)
def av.Pos(v:av):Prop:=v.nl=true\/v.nh=true\/v.lo<v.hi
def OD(a b:Rat):0<=cg a b↔b<=a:=by
 unfold cg;split
 ·constructor
  ·intro h;exact absurd h (by decide)
  ·intro h;grind
 ·split
  ·constructor
   ·intro _;grind
   ·intro _;decide
  ·constructor
   ·intro _;grind
   ·intro _;decide
def FF(v:av):v.empty=false↔v.Pos:=by
 obtain⟨lo,hi,nl,nh⟩:=v;unfold av.empty av.Pos
 cases nl<;>cases nh<;>simp[OD]
 first|exact Rat.not_le|grind
def av.ins.has{v:av}{t:Rat}(h:v.ins t):v.has t:=by
 obtain⟨h1,h2⟩:=h;exact⟨h1.imp id (fun h=>cM h),h2.imp id (fun h=>cM h)⟩
def Nt:mkRat 1 2=(1:Rat)/2:=by rw[oM];rfl
def xg{v:av}(h:v.Pos):v.ins v.sample:=by
 obtain⟨lo,hi,nl,nh⟩:=v;unfold av.Pos at h;unfold av.ins av.sample;rw[Nt]
 cases nl<;>cases nh<;>simp at* <;>grind
def PG(v w:av)(t:Rat):(v.meet w).has t↔v.has t/\w.has t:=by
 obtain⟨lo,hi,nl,nh⟩:=v;obtain⟨lo',hi',nl',nh'⟩:=w;unfold av.has av.meet
 cases nl<;>cases nh<;>cases nl'<;>cases nh'<;>simp<;>grind
def Og(v w:av)(t:Rat):(v.meet w).ins t↔v.ins t/\w.ins t:=by
 obtain⟨lo,hi,nl,nh⟩:=v;obtain⟨lo',hi',nl',nh'⟩:=w;unfold av.ins av.meet
 cases nl<;>cases nh<;>cases nl'<;>cases nh'<;>simp<;>grind
def Kh(t:Rat):av.all.has t:=⟨.inl J, .inl J⟩
def Zd(t:Rat):av.all.ins t:=⟨.inl J, .inl J⟩
def A8:av.all.Pos:= .inl J
def jA(k:Rat):Int.sign k.num=0↔k=0:=by rw[jL,mR]
def Lv(k:Rat):0<k.num↔0<k:=by
 have h1:0<=k.num↔0<=k:=Rat.num_nonneg;have h2:k.num=0↔k=0:=mR;constructor
 ·intro h
  have a:=h1.1 (by omega);have b:k≠0:=fun e=>by have:=h2.2 e;omega
  grind
 ·intro h
  have a:=h1.2 (by grind);have b:k.num≠0:=fun e=>by have:=h2.1 e;grind
  omega
def jd(k:Rat):Int.sign k.num=1↔0<k:=by rw[Int.sign_eq_one_iff_pos,Lv]
def kC(k:Rat):0<Int.sign k.num↔0<k:=by
 rw[<-jd];rcases lW k.num 0 with h|h|h
 ·rw[fY h];decide
 ·rw[h];decide
 ·rw[fT h];decide
def lc(k:Rat):Int.sign k.num<0↔k<0:=by
 have h1:=jA k;have h2:=kC k;constructor
 ·intro h
  by_cases hk:0<k
  ·have:=h2.2 hk;omega
  ·by_cases h0:k=0
   ·have:=h1.2 h0;omega
   ·grind
 ·intro h
  have a1: ¬Int.sign k.num=0:=fun e=>by have:=h1.1 e;grind
  have a2: ¬0<Int.sign k.num:=fun e=>by have:=h2.1 e;grind
  omega
def A5{l m:ab}(v:av)(hk:l.cutK m=0):l.cutV v m=v/\(l.cutB v m=true↔0<l.cutC m):=by
 have h:=(jA (l.cutK m)).2 hk;unfold ab.cutV ab.cutB;rw[if_pos h,if_pos h,decide_eq_true_iff,kC];exact⟨J,Iff.rfl⟩
def Bl{l m:ab}(v:av)(hk:0<l.cutK m):l.cutV v m=v.meet ⟨-(l.cutC m/l.cutK m),0,false,true⟩/\(l.cutB v m=true↔(l.cutV v m).Pos):=by
 have h0: ¬Int.sign (l.cutK m).num=0:=fun e=>by have:=(jA _).1 e;grind
 have h1:=(jd (l.cutK m)).2 hk;constructor
 ·unfold ab.cutV;rw[if_neg h0,if_pos h1]
 ·unfold ab.cutB;rw[if_neg h0,<-FF];simp
def zp{l m:ab}(v:av)(hk:l.cutK m<0):l.cutV v m=v.meet ⟨0, -(l.cutC m/l.cutK m),true,false⟩/\(l.cutB v m=true↔(l.cutV v m).Pos):=by
 have h0: ¬Int.sign (l.cutK m).num=0:=fun e=>by have:=(jA _).1 e;grind
 have h1: ¬Int.sign (l.cutK m).num=1:=fun e=>by have:=(jd _).1 e;grind
 constructor
 ·unfold ab.cutV;rw[if_neg h0,if_neg h1]
 ·unfold ab.cutB;rw[if_neg h0,<-FF];simp
def Xs{C K t:Rat}(hk:0<K): -(C/K)<=t↔0<=C+t*K:=by
 have e:C=C/K*K:=by grind
 generalize C/K=d at*;rw[e,show d*K+t*K=(d+t)*K from by grind,ig hk];grind
def Rz{C K t:Rat}(hk:0<K): -(C/K)<t↔0<C+t*K:=by
 have e:C=C/K*K:=by grind
 generalize C/K=d at*;rw[e,show d*K+t*K=(d+t)*K from by grind,gp hk];grind
def Yb{C K t:Rat}(hk:K<0):t<= -(C/K)↔0<=C+t*K:=by
 have e:C=C/K*K:=by grind
 generalize C/K=d at*;rw[e,show d*K+t*K=(-(d+t))*(-K) from by grind,ig (by grind)];grind
def MO{C K t:Rat}(hk:K<0):t< -(C/K)↔0<C+t*K:=by
 have e:C=C/K*K:=by grind
 generalize C/K=d at*;rw[e,show d*K+t*K=(-(d+t))*(-K) from by grind,gp (by grind)];grind
def eB(k:Rat):k=0\/0<k\/k<0:=by grind
def Gw{l m:ab}{v:av}(hb:l.cutB v m=true)(t:Rat):(l.cutV v m).has t↔v.has t/\0<=m.value (l.at t):=by
 rw[oc];rcases eB (l.cutK m) with hk|hk|hk
 ·obtain⟨h1,h2⟩:=A5 v hk
  rw[h1,hk];have:=h2.1 hb;constructor
  ·intro h;exact⟨h,by grind⟩
  ·exact fun h=>h.1
 ·rw[(Bl v hk).1,PG,<-Xs hk]
  simp[av.has]
 ·rw[(zp v hk).1,PG,<-Yb hk]
  simp[av.has]
def EC{l m:ab}{v:av}(hb:l.cutB v m=true)(t:Rat):(l.cutV v m).ins t↔v.ins t/\0<m.value (l.at t):=by
 rw[oc];rcases eB (l.cutK m) with hk|hk|hk
 ·obtain⟨h1,h2⟩:=A5 v hk
  rw[h1,hk];have:=h2.1 hb;constructor
  ·intro h;exact⟨h,by grind⟩
  ·exact fun h=>h.1
 ·rw[(Bl v hk).1,Og,<-Rz hk]
  simp[av.ins]
 ·rw[(zp v hk).1,Og,<-MO hk]
  simp[av.ins]
def AD{l m:ab}{v:av}(hv:v.Pos)(hb:l.cutB v m=true):(l.cutV v m).Pos:=by
 rcases eB (l.cutK m) with hk|hk|hk
 ·rw[(A5 v hk).1];exact hv
 ·exact(Bl v hk).2.1 hb
 ·exact(zp v hk).2.1 hb
def Fc{l m:ab}{v:av}(hv:v.Pos)(hb:l.cutB v m=false){t:Rat}(ht:v.has t):m.value (l.at t)<=0:=by
 rw[oc];have hb': ¬l.cutB v m=true:=by rw[hb];decide
 rcases eB (l.cutK m) with hk|hk|hk
 ·have h2:=(A5 v hk).2
  have: ¬0<l.cutC m:=fun h=>hb' (h2.2 h);rw[hk];grind
 ·obtain⟨h1,h2⟩:=Bl v hk
  have hn: ¬(l.cutV v m).Pos:=fun h=>hb' (h2.2 h);rw[h1] at hn;have h3:=Rz (C:=l.cutC m) (t:=t) hk
  suffices¬(-(l.cutC m/l.cutK m)<t) by grind
  generalize-(l.cutC m/l.cutK m)=d at*;obtain⟨lo,hi,nl,nh⟩:=v;unfold av.Pos av.meet at hn;unfold av.Pos at hv;unfold av.has at ht
  cases nl<;>cases nh<;>simp at* <;>grind
 ·obtain⟨h1,h2⟩:=zp v hk
  have hn: ¬(l.cutV v m).Pos:=fun h=>hb' (h2.2 h);rw[h1] at hn;have h3:=MO (C:=l.cutC m) (t:=t) hk
  suffices¬(t< -(l.cutC m/l.cutK m)) by grind
  generalize-(l.cutC m/l.cutK m)=d at*;obtain⟨lo,hi,nl,nh⟩:=v;unfold av.Pos av.meet at hn;unfold av.Pos at hv;unfold av.has at ht
  cases nl<;>cases nh<;>simp at* <;>grind
def b9(c:aG)(p:aa):Prop:= ∀s∈c,0<s.l.value p
def yx(c:aG)(p:aa):Prop:= ∀s∈c,0<=s.l.value p
def JM(l:ab): ∀(c:aG) (v w:av),v.Pos->od l c v=some w->
  w.Pos/\(∀t,w.has t↔v.has t/\yx c (l.at t))/\(∀t,w.ins t↔v.ins t/\b9 c (l.at t))
 |[],v,w,hv,h=>by
  obtain rfl:v=w:=by simpa[od] using h
  exact⟨hv,fun t=>⟨fun h=>⟨h,fun s hs=>absurd hs (by simp)⟩,fun h=>h.1⟩,fun t=>⟨fun h=>⟨h,fun s hs=>absurd hs (by simp)⟩,fun h=>h.1⟩⟩
 |s::c,v,w,hv,h=>by
  rw[od] at h;split at h
  ·rename_i hb
   obtain⟨h1,h2,h3⟩:=JM l c _ w (AD hv hb) h;refine⟨h1,fun t=>?_,fun t=>?_⟩
   ·rw[h2,Gw hb]
    simp only[yx,eJ];exact and_assoc
   ·rw[h3,EC hb]
    simp only[b9,eJ];exact and_assoc
  ·exact absurd h (by simp)
def P'(l:ab): ∀(c:aG) (v:av),v.Pos->od l c v=none-> ∀t,v.has t-> ¬b9 c (l.at t)
 |[],v,hv,h=>by simp[od] at h
 |s::c,v,hv,h=>by
  intro t ht hd;have hd':=eJ.1 hd;rw[od] at h;split at h
  ·rename_i hb
   exact P' l c _ (AD hv hb) h t ((Gw hb t).2 ⟨ht,cM hd'.1⟩) hd'.2
  ·rename_i hb
   have:=Fc hv (by simpa using hb) ht;have:=hd'.1;grind
def b9.open: ∀{c:aG} {q:aa} (u:aa),b9 c q-> ∃e:Rat,0<e/\ ∀d,0<=d->d<=e->b9 c (bt q u d)
 |[],q,u,_=>⟨1,by decide,fun d _ _ s hs=>absurd hs (by simp)⟩
 |s::c,q,u,h=>by
  have h':=eJ.1 h;obtain⟨e,he,hd⟩:=b9.open (c:=c) u h'.2;have hs:=h'.1;generalize hk:s.l.nor.dot u=k;have hf: ∃f:Rat,0<f/\ ∀d,0<=d->d<=f->0<s.l.value q+d*k:=by
   by_cases hk0:0<=k
   ·exact⟨1,by decide,fun d h1 _=>by have:=cj h1 hk0;grind⟩
   ·refine⟨s.l.value q/(2* -k),?_,fun d h1 h2=>?_⟩
    ·have e1:s.l.value q/(2* -k)*(2* -k)=s.l.value q:=by grind
     exact(gp (k:=2* -k) (by grind)).1 (by rw[e1];exact hs)
    ·have e1:s.l.value q/(2* -k)*(2* -k)=s.l.value q:=by grind
     generalize s.l.value q/(2* -k)=f at*;have:=cj (a:=f-d) (b:= -k) (by grind) (by grind);grind
  obtain⟨f,hf0,hf⟩:=hf;by_cases hef:e<=f
  ·refine⟨e,he,fun d h1 h2=>eJ.2 ⟨?_,hd d h1 h2⟩⟩
   rw[i6,hk];exact hf d h1 (by grind)
  ·refine⟨f,hf0,fun d h1 h2=>eJ.2 ⟨?_,hd d h1 (by grind)⟩⟩
   rw[i6,hk];exact hf d h1 h2
def Px: ∀{c:aG} {q p:aa},b9 c q->(∃s∈c,s.l.value p<=0)->
  ∃e:Rat,0<=e/\e<=1/\(∃s∈c,s.l.value p<=0/\s.l.value (ba q p e)=0)/\yx c (ba q p e)
 |[],q,p,_,h=>by obtain⟨s,hs,_⟩:=h;exact absurd hs (by simp)
 |s::c,q,p,h,hex=>by
  have h':=eJ.1 h;have hs:=h'.1;by_cases hc: ∃s∈c,s.l.value p<=0
  ·obtain⟨e,h0,h1,⟨s1,m1,n1,z1⟩,hC⟩:=Px h'.2 hc
   by_cases hp:0<=s.l.value (ba q p e)
   ·exact⟨e,h0,h1,⟨s1,aZ _ m1,n1,z1⟩,eJ.2 ⟨hp,hC⟩⟩
   ·rw[kt] at hp
    generalize hB:s.l.value p-s.l.value q=B at*;have hB0:B<0:=by
     by_cases hB0:0<=B
     ·have:=cj h0 hB0;grind
     ·grind
    have e1:s.l.value q/(-B)*(-B)=s.l.value q:=by grind
    generalize hf:s.l.value q/(-B)=f at*;have f0:0<=f:=(ig (k:= -B) (by grind)).1 (by rw[e1];grind);have f1:f<=e:=by
     have:=(ig (s:=e-f) (k:= -B) (by grind)).1 (by grind);grind
    have z:s.l.value (ba q p f)=0:=by rw[kt,hB];grind
    have np:s.l.value p<=0:=by
     have:=cj (a:=1-e) (b:= -B) (by grind) (by grind);grind
    refine⟨f,f0,by grind,⟨s,aQ,np,z⟩,eJ.2 ⟨by rw[z];exact fZ,fun s2 m2=>?_⟩⟩;have a1:=h'.2 s2 m2;have a2:=hC s2 m2;rw[kt] at a2⊢;exact Te (cM a1) a2 f0 f1
  ·have np:s.l.value p<=0:=by
    obtain⟨s1,m1,n1⟩:=hex;rcases aW.1 m1 with rfl|m1
    ·exact n1
    ·exact absurd ⟨s1,m1,n1⟩ hc
   generalize hB:s.l.value p-s.l.value q=B at*;have hB0:B<0:=by grind
   have e1:s.l.value q/(-B)*(-B)=s.l.value q:=by grind
   generalize hf:s.l.value q/(-B)=f at*;have f0:0<=f:=(ig (k:= -B) (by grind)).1 (by rw[e1];grind);have f1:f<=1:=by
    have:=(ig (s:=1-f) (k:= -B) (by grind)).1 (by grind);grind
   have z:s.l.value (ba q p f)=0:=by rw[kt,hB];grind
   refine⟨f,f0,f1,⟨s,aQ,np,z⟩,eJ.2 ⟨by rw[z];exact fZ,fun s2 m2=>?_⟩⟩;have a1:=h'.2 s2 m2;have a2:0<s2.l.value p:=by
    by_cases h:0<s2.l.value p
    ·exact h
    ·exact absurd ⟨s2,m2,by grind⟩ hc
   rw[kt];have:=Te (A:=s2.l.value q) (B:=s2.l.value p-s2.l.value q) (u:=f) (v:=1) (cM a1) (by grind) f0 f1;exact this
structure d8 (c:aG):Prop where
 ne: ∃p,b9 c p
 ok: ∀s∈c,s.l.ok
 edge: ∀s∈c,s.v.Pos/\ ∀t,s.v.has t↔yx c (s.l.at t)
def d8.nil:d8 []:=⟨⟨⟨0,0⟩,fun s hs=>absurd hs (by simp)⟩,fun s hs=>absurd hs (by simp),fun s hs=>absurd hs (by simp)⟩
def zb{c:aG}{m:ab}(hne: ∃q,b9 c q)(h: ∀p,b9 c p->0<m.value p){p:aa}(hp:yx c p):0<=m.value p:=by
 obtain⟨q,hq⟩:=hne;have mq:=h q hq;by_cases hm:0<=m.value p
 ·exact hm
 ·exfalso
  generalize hB:m.value q-m.value p=B;have hB0:0<B:=by grind
  have e1: -m.value p/B*B= -m.value p:=by grind
  generalize-m.value p/B=e at*;have e0:0<e:=(gp hB0).1 (by rw[e1];grind);have e2:e<=1:=by
   have:=(ig (s:=1-e) hB0).1 (by grind);grind
  have hd:b9 c (ba p q e):=fun s hs=>by
   rw[kt];have a:=hp s hs;have b:=hq s hs;have:=bF e0 b;have:=cj (a:=1-e) (b:=s.l.value p) (by grind) a;grind
  have:=h _ hd;rw[kt,hB,e1] at this;grind
def vi{l:ab}{s':aE}: ∀{c:aG},s'∈f7 l c↔ ∃s∈c,s.l.cutB s.v l=true/\s'=⟨s.l,s.l.cutV s.v l⟩
 |[]=>by simp[f7]
 |s::c=>by
  rw[f7];split
  ·rename_i hb
   rw[aW,vi (c:=c)];constructor
   ·rintro (rfl|⟨s1,h1,h2⟩)
    ·exact⟨s,aQ,hb,J⟩
    ·exact⟨s1,aZ _ h1,h2⟩
   ·rintro ⟨s1,h1,h2,h3⟩
    rcases aW.1 h1 with rfl|h1
    ·exact .inl h3
    ·exact .inr ⟨s1,h1,h2,h3⟩
  ·rename_i hb
   rw[vi (c:=c)];constructor
   ·rintro ⟨s1,h1,h2⟩;exact⟨s1,aZ _ h1,h2⟩
   ·rintro ⟨s1,h1,h2,h3⟩
    rcases aW.1 h1 with rfl|h1
    ·exact absurd h2 hb
    ·exact⟨s1,h1,h2,h3⟩
def uQ{c:aG}{l:ab}{v:av}{s:aE}:s∈pg c l v↔s=⟨l,v⟩\/s∈c:=by
 unfold pg;generalize jb (ol c l) 0 c.length=n;rw[bW,aW];have h:=lM n c;constructor
 ·rintro (h1|h1|h1)
  ·exact .inr (fL h1)
  ·exact .inl h1
  ·exact .inr (jT h1)
 ·rintro (h1|h1)
  ·exact .inr (.inl h1)
  ·rw[<-h,bW] at h1
   rcases h1 with h1|h1
   ·exact .inl h1
   ·exact .inr (.inr h1)
def ax1{c:aG}{l:ab}(hl:l.Ne)(hp:mh c l=none){p:aa}(h:b9 c p):l.value p≠0:=by
 intro h0;obtain⟨t,rfl⟩:=Dt hl h0;exact P' l c _ A8 hp t (Kh t) h
def Sp{c:aG}{l:ab}(hl:l.Ne){v:av}(hp:mh c l=some v):(∃q,b9 c q/\0<l.value q)/\ ∃q,b9 c q/\l.value q<0:=by
 obtain⟨h1,_,h3⟩:=JM l c _ v A8 hp;have hd:=((h3 v.sample).1 (xg h1)).2;have h0:=pn hl v.sample;have hn:=qn hl;constructor
 ·obtain⟨e,he,hm⟩:=hd.open l.nor
  refine⟨_,hm e (cM he) fZ,?_⟩;rw[i6,h0];have:=bF he hn;grind
 ·obtain⟨e,he,hm⟩:=hd.open ⟨-l.nor.x, -l.nor.y⟩
  refine⟨_,hm e (cM he) fZ,?_⟩;rw[i6,h0];have:=bF he hn;simp only[aa.dot] at this⊢;grind
def atK{c:aG}{l:ab}{v:av}(hc:d8 c)(hl:l.ok)(hp:mh c l=some v):
  d8 (pg (f7 l c) l v)/\ ∀p,b9 (pg (f7 l c) l v) p↔b9 c p/\0<l.value p:=by
 obtain⟨⟨q,hq,lq⟩,_⟩:=Sp hl.ne hp;obtain⟨v1,v2,v3⟩:=JM l c _ v A8 hp;have hD: ∀p,b9 (pg (f7 l c) l v) p↔b9 c p/\0<l.value p:=by
  intro p;constructor
  ·intro h
   have lp:0<l.value p:=h ⟨l,v⟩ (uQ.2 (.inl J));refine⟨fun s0 hs0=>?_,lp⟩;by_cases h0:0<s0.l.value p
   ·exact h0
   ·exfalso
    obtain⟨e,e0,e1,⟨s,ms,ns,zs⟩,hC⟩:=Px (p:=p) hq ⟨s0,hs0,by grind⟩;obtain⟨t,ht⟩:=Dt (hc.ok s ms).ne zs;rw[ht] at hC;obtain⟨p1,p2⟩:=hc.edge s ms;have hh:=(p2 t).2 hC;have lr:0<l.value (s.l.at t):=by
     rw[<-ht,kt];by_cases hB:0<=l.value p-l.value q
     ·have:=cj e0 hB;grind
     ·have:=cj (a:=1-e) (b:= -(l.value p-l.value q)) (by grind) (by grind)
      grind
    have hb:s.l.cutB s.v l=true:=by
     cases hb:s.l.cutB s.v l with
     |true=>rfl
     |false=>have:=Fc p1 hb hh;grind
    have:=h ⟨s.l,s.l.cutV s.v l⟩ (uQ.2 (.inr (vi.2 ⟨s,ms,hb,J⟩)));simp only at this;grind
  ·rintro ⟨h1,h2⟩ s hs
   rcases uQ.1 hs with rfl|hs
   ·exact h2
   ·obtain⟨s1,m1,_,rfl⟩:=vi.1 hs
    exact h1 s1 m1
 have hne: ∃p,b9 (pg (f7 l c) l v) p:=⟨q,(hD q).2 ⟨hq,lq⟩⟩;have hC: ∀p,yx (pg (f7 l c) l v) p↔yx c p/\0<=l.value p:=by
  intro p;constructor
  ·intro h
   refine⟨fun s hs=>?_,h ⟨l,v⟩ (uQ.2 (.inl J))⟩;exact zb hne (fun p hp=>((hD p).1 hp).1 s hs) h
  ·rintro ⟨h1,h2⟩ s hs
   rcases uQ.1 hs with rfl|hs
   ·exact h2
   ·obtain⟨s1,m1,_,rfl⟩:=vi.1 hs
    exact h1 s1 m1
 refine⟨⟨hne,fun s hs=>?_,fun s hs=>?_⟩,hD⟩
 ·rcases uQ.1 hs with rfl|hs
  ·exact hl
  ·obtain⟨s1,m1,_,rfl⟩:=vi.1 hs
   exact hc.ok s1 m1
 ·rcases uQ.1 hs with rfl|hs
  ·refine⟨v1,fun t=>?_⟩
   rw[hC];simp only;rw[v2];have h0:=pn hl.ne t;constructor
   ·intro h;exact⟨h.2,by rw[h0];exact fZ⟩
   ·intro h;exact⟨Kh t,h.1⟩
  ·obtain⟨s1,m1,hb,rfl⟩:=vi.1 hs
   obtain⟨p1,p2⟩:=hc.edge s1 m1;refine⟨AD p1 hb,fun t=>?_⟩;rw[hC];simp only;rw[Gw hb,p2]
def b9.seg{c:aG}{q p:aa}{e:Rat}(hq:b9 c q)(hp:b9 c p)(h0:0<=e)(h1:e<=1):b9 c (ba q p e):=fun s hs=>by
 rw[kt];have a:=hq s hs;have b:=hp s hs;by_cases he:e=0
 ·subst he;grind
 ·have:=bF (a:=e) (by grind) b
  have:=cj (a:=1-e) (b:=s.l.value q) (by grind) (by grind);grind
def N5{v:av}{t:Rat}(h:v.ins t):(∃u,u<t/\v.has u)/\ ∃u,t<u/\v.has u:=by
 obtain⟨lo,hi,nl,nh⟩:=v;unfold av.ins at h;unfold av.has;refine⟨⟨if nl=true then t-1 else lo,?_⟩,⟨if nh=true then t+1 else hi,?_⟩⟩<;>cases nl<;>cases nh<;>simp at* <;>grind
def zk{a b c x y z:Nat}(h1:x*b=a*y)(h2:x*c=a*z)(g:Nat.gcd (Nat.gcd a b) c=1):a∣x:=by
 have e:x=Nat.gcd (Nat.gcd (x*a) (x*b)) (x*c):=by
  rw[Nat.gcd_mul_left,Nat.gcd_mul_left,g,iR]
 rw[e];exact Nat.dvd_gcd (Nat.dvd_gcd (Nat.dvd_mul_left ..) (h1▸Nat.dvd_mul_right ..)) (h2▸Nat.dvd_mul_right ..)
def asO{a b c x y z:Int}(h1:a*y=b*x)(h2:a*z=c*x)(h3:b*z=c*y)
  (g1:Nat.gcd (Nat.gcd a.natAbs b.natAbs) c.natAbs=1)(g2:Nat.gcd (Nat.gcd x.natAbs y.natAbs) z.natAbs=1):
  (a=x/\b=y/\c=z)\/(a= -x/\b= -y/\c= -z):=by
 have n1:a.natAbs*y.natAbs=b.natAbs*x.natAbs:=by rw[<-jU,<-jU,h1]
 have n2:a.natAbs*z.natAbs=c.natAbs*x.natAbs:=by rw[<-jU,<-jU,h2]
 have n3:b.natAbs*z.natAbs=c.natAbs*y.natAbs:=by rw[<-jU,<-jU,h3]
 generalize ha:a.natAbs=A at*;generalize hb:b.natAbs=B at*;generalize hc:c.natAbs=C at*;generalize hx:x.natAbs=X at*;generalize hy:y.natAbs=Y at*;generalize hz:z.natAbs=Z at*;have gB:Nat.gcd (Nat.gcd B A) C=1:=by rw[jZ B A];exact g1
 have gC:Nat.gcd (Nat.gcd C A) B=1:=by rw[Nat.gcd_assoc,jZ];exact g1
 have gY:Nat.gcd (Nat.gcd Y X) Z=1:=by rw[jZ Y X];exact g2
 have gZ:Nat.gcd (Nat.gcd Z X) Y=1:=by rw[Nat.gcd_assoc,jZ];exact g2
 have e1:A=X:=Nat.dvd_antisymm (zk (x:=X) (y:=Y) (z:=Z) (by grind) (by grind) g1) (zk (x:=A) (y:=B) (z:=C) (by grind) (by grind) g2);have e2:B=Y:=Nat.dvd_antisymm (zk (x:=Y) (y:=X) (z:=Z) (by grind) (by grind) gB) (zk (x:=B) (y:=A) (z:=C) (by grind) (by grind) gY);have e3:C=Z:=Nat.dvd_antisymm (zk (x:=Z) (y:=X) (z:=Y) (by grind) (by grind) gC) (zk (x:=C) (y:=A) (z:=B) (by grind) (by grind) gZ);have s1:a=x\/a= -x:=by omega
 have s2:b=y\/b= -y:=by omega
 have s3:c=z\/c= -z:=by omega
 clear ha hb hc hx hy hz n1 n2 n3 g1 g2 gB gC gY gZ e1 e2 e3;have z1:= @tZ x y;have z2:= @tZ x z;have z3:= @tZ y z;rcases s1 with rfl|rfl<;>rcases s2 with rfl|rfl<;>rcases s3 with rfl|rfl<;>grind
def Gs{l m:ab}(hl:l.ok)(hm:m.ok)(h: ∀t,l.value (m.at t)=0):l=m\/l=m.rev:=by
 have h0:=h 0;have h1:=h 1;rw[oc] at h0 h1;have hC:m.cutC l=0:=by grind
 have hK:m.cutK l=0:=by grind
 obtain⟨q,q1,q2⟩:=BD hm.ne;have hn:=qn hm.ne;unfold ab.cutC at hC;rw[q2,n5] at hC;unfold ab.cutK at hK;simp only[ab.nor,ab.dir,aa.dot] at hK q1 hn hC;obtain⟨a,b,c⟩:=l;obtain⟨x,y,z⟩:=m;simp only at*;have e1:a*y=b*x:=by
  have:((a*y:Int):Rat)=((b*x:Int):Rat):=by rw[dZ,dZ];grind
  exact nM.1 this
 have e2:a*z=c*x:=by
  have:((a*z:Int):Rat)=((c*x:Int):Rat):=by rw[dZ,dZ];grind
  exact nM.1 this
 have e3:b*z=c*y:=by
  have:((b*z:Int):Rat)=((c*y:Int):Rat):=by rw[dZ,dZ];grind
  exact nM.1 this
 rcases asO e1 e2 e3 hl.2 hm.2 with⟨rfl,rfl,rfl⟩|⟨rfl,rfl,rfl⟩
 ·exact .inl J
 ·exact .inr J
def ab.ok.rev{l:ab}(h:l.ok):l.rev.ok:=by
 obtain⟨h1,h2⟩:=h;refine⟨?_,?_⟩
 ·simp only[ab.rev];omega
 ·simp only[ab.rev,jN];exact h2
def Rd(l:ab): ∀c:aG,(∀s∈c,o7 l s<=0/\s.l≠l)-> ¬0<oD l c
 |[],_=>by simp[oD]
 |s::c,h=>by
  have h':=eJ.1 h;unfold oD;rw[if_neg h'.1.2];split
  ·have:=h'.1.1;omega
  ·exact Rd l c h'.2
def Ql{c:aG}{l:ab}(hc:d8 c)(hl:l.ok)(hp:mh c l=none):
  (0<oD l c/\ ∀p,b9 c p->0<l.value p)\/(¬0<oD l c/\ ∀p,b9 c p->l.value p<0):=by
 have hoff:=fun p (h:b9 c p)=>ax1 hl.ne hp h;by_cases hq: ∃q,b9 c q/\0<l.value q
 ·left
  obtain⟨q,hq,lq⟩:=hq;have hall: ∀p,b9 c p->0<l.value p:=by
   intro p h;have:=hoff p h;by_cases h0:0<l.value p
   ·exact h0
   ·exfalso
    have hn:l.value p<0:=by grind
    have e1:l.value q/(l.value q-l.value p)*(l.value q-l.value p)=l.value q:=by grind
    generalize l.value q/(l.value q-l.value p)=e at*;have f0:0<=e:=(ig (k:=l.value q-l.value p) (by grind)).1 (by grind);have f1:e<=1:=by
     have:=(ig (s:=1-e) (k:=l.value q-l.value p) (by grind)).1 (by grind);grind
    exact hoff _ (hq.seg h f0 f1) (by rw[kt];grind)
  refine⟨?_,hall⟩
  cases c with
  |nil=>simp[mh,od] at hp
  |cons s c=>
   obtain⟨p1,p2⟩:=hc.edge s aQ;have hi:=xg p1;have hr:=zb hc.ne hall ((p2 _).1 hi.has);unfold oD;by_cases h0:o7 l s=0
   ·rw[if_neg (by simpa using h0)]
    have hz:l.value (s.l.at s.v.sample)=0:=(jA _).1 h0;have hge: ∀t,s.v.has t->0<=l.value (s.l.at t):=fun t ht=>zb hc.ne hall ((p2 t).1 ht);obtain⟨⟨u1,m1,n1⟩,⟨u2,m2,n2⟩⟩:=N5 hi;have g1:=hge _ n1;have g2:=hge _ n2;rw[oc] at hz g1 g2;have hK:s.l.cutK l=0:=by
     rcases eB (s.l.cutK l) with h|h|h
     ·exact h
     ·exfalso
      have:=bF (a:=s.v.sample-u1) (b:=s.l.cutK l) (by grind) h;grind
     ·exfalso
      have:=bF (a:=u2-s.v.sample) (b:= -s.l.cutK l) (by grind) (by grind);grind
    have hz2: ∀t,l.value (s.l.at t)=0:=fun t=>by rw[oc,hK];rw[hK] at hz;grind
    rcases Gs hl (hc.ok s aQ) hz2 with h|h
    ·rw[if_pos h.symm];decide
    ·exfalso
     have:=hall q hq;rw[h,iE] at this;have:=hq s aQ;grind
   ·rw[if_pos h0]
    have hz:l.value (s.l.at s.v.sample)≠0:=fun e=>h0 ((jA _).2 e);exact(kC _).2 (by grind)
 ·right
  have hall: ∀p,b9 c p->l.value p<0:=fun p h=>by
   have:=hoff p h;have: ¬0<l.value p:=fun h'=>hq ⟨p,h,h'⟩;grind
  refine⟨Rd l c fun s hs=>?_,hall⟩;obtain⟨p1,p2⟩:=hc.edge s hs;have hr:=zb (m:=l.rev) hc.ne (fun p h=>by rw[iE];have:=hall p h;grind) ((p2 _).1 (xg p1).has);rw[iE] at hr;constructor
  ·have: ¬0<o7 l s:=fun h=>by have:=(kC _).1 h;grind
   omega
  ·rintro rfl
   obtain⟨p,hp⟩:=hc.ne;have:=hall p hp;have:=hp s hs;grind
def tL{c:aG}{l:ab}(hc:d8 c)(hl:l.ok):de c l=true↔ ∃p,b9 c p/\0<l.value p:=by
 unfold de
 cases hp:mh c l with
 |some v=>exact⟨fun _=>(Sp hl.ne hp).1,fun _=>J⟩
 |none=>
  simp only[x9,hp,Option.isSome_none,dJ,if_false,decide_eq_true_iff];rcases Ql hc hl hp with⟨h1,h2⟩|⟨h1,h2⟩
  ·refine⟨fun _=>?_,fun _=>h1⟩
   obtain⟨p,hp⟩:=hc.ne;exact⟨p,hp,h2 p hp⟩
  ·refine⟨fun h=>absurd h h1,?_⟩
   rintro ⟨p,hp,h⟩;have:=h2 p hp;grind
def lu{c:aG}{l:ab}(hc:d8 c)(hl:l.ok)(hb:de c l=true):d8 (bP c l)/\ ∀p,b9 (bP c l) p↔b9 c p/\0<l.value p:=by
 unfold bP
 cases hp:mh c l with
 |some v=>exact atK hc hl hp
 |none=>
  refine⟨hc,fun p=>?_⟩;unfold de at hb;simp only[hp,x9,Option.isSome_none,dJ,if_false,decide_eq_true_iff] at hb;rcases Ql hc hl hp with⟨h1,h2⟩|⟨h1,h2⟩
  ·exact⟨fun h=>⟨h,h2 p h⟩,fun h=>h.1⟩
  ·exact absurd hb h1
inductive aJQ (c:aG) (l:ab):Prop
 |left (h1:de c l.rev=false) (h: ∀p,b9 c p->0<l.value p)
 |right (h1:de c l.rev=true) (h2:de c l=false) (h: ∀p,b9 c p->l.value p<0)
 |both (h1:de c l.rev=true) (h2:de c l=true) (g1:d8 (bP c l)) (g2:d8 (bP c l.rev))
   (e1: ∀p,b9 (bP c l) p↔b9 c p/\0<l.value p) (e2: ∀p,b9 (bP c l.rev) p↔b9 c p/\l.value p<0)
def Tr.restrict_A{l:ab}{e:aG}(X Y:Tr)(h:de e l.rev=false):(Tr.node l X Y).restrict e=X.restrict e:=by
 rw[Tr.restrict,h];rfl
def Tr.restrict_B{l:ab}{e:aG}(X Y:Tr)(h:de e l.rev=true)(h2:de e l=false):(Tr.node l X Y).restrict e=Y.restrict e:=by
 rw[Tr.restrict,h,h2];rfl
def Tr.restrict_C{l:ab}{e:aG}(X Y:Tr)(h:de e l.rev=true)(h2:de e l=true):(Tr.node l X Y).restrict e=Tr.joinQ l (X.restrict (bP e l)) (Y.restrict (bP e l.rev)):=by
 rw[Tr.restrict,h,h2];rfl
def qO:List ab->aG->Option aG
 |[],c=>some c
 |l::t,c=>if de c l then qO t (bP c l) else none
def P9: ∀{ls:List ab} {c e:aG},d8 c->(∀l∈ls,l.ok)->qO ls c=some e->d8 e/\ ∀p,b9 e p↔b9 c p/\ ∀l∈ls,0<l.value p
 |[],c,e,hc,_,h=>by
  obtain rfl:c=e:=by simpa[qO] using h
  exact⟨hc,fun p=>⟨fun h=>⟨h,fun l hl=>absurd hl (by simp)⟩,fun h=>h.1⟩⟩
 |l::t,c,e,hc,hl,h=>by
  have hl':=eJ.1 hl;rw[qO] at h;split at h
  ·rename_i hb
   obtain⟨g1,g2⟩:=lu hc hl'.1 hb;obtain⟨k1,k2⟩:=P9 g1 hl'.2 h;refine⟨k1,fun p=>?_⟩;rw[k2,g2,eJ,and_assoc]
  ·exact absurd h (by simp)
def TC: ∀{ls:List ab} {c:aG},d8 c->(∀l∈ls,l.ok)->(∃p,b9 c p/\ ∀l∈ls,0<l.value p)-> ∃e,qO ls c=some e
 |[],c,_,_,_=>⟨c,J⟩
 |l::t,c,hc,hl,⟨p,h1,h2⟩=>by
  have hl':=eJ.1 hl;have h2':=eJ.1 h2;have hb:=(tL hc hl'.1).2 ⟨p,h1,h2'.1⟩;obtain⟨g1,g2⟩:=lu hc hl'.1 hb;rw[qO,if_pos hb];exact TC g1 hl'.2 ⟨p,(g2 p).2 ⟨h1,h2'.1⟩,h2'.2⟩
def S3{c:aG}(hc:d8 c){s:aE}(hs:s∈c){m:ab}(hm:m.ok)(h: ∀p,b9 c p->0<m.value p)(hz:m.value (s.l.at s.v.sample)=0):m=s.l:=by
 obtain⟨p1,p2⟩:=hc.edge s hs;have hi:=xg p1;have hge: ∀t,s.v.has t->0<=m.value (s.l.at t):=fun t ht=>zb hc.ne h ((p2 t).1 ht);obtain⟨⟨u1,m1,n1⟩,⟨u2,m2,n2⟩⟩:=N5 hi;have g1:=hge _ n1;have g2:=hge _ n2;rw[oc] at hz g1 g2;have hK:s.l.cutK m=0:=by
  rcases eB (s.l.cutK m) with h|h|h
  ·exact h
  ·exfalso
   have:=bF (a:=s.v.sample-u1) (b:=s.l.cutK m) (by grind) h;grind
  ·exfalso
   have:=bF (a:=u2-s.v.sample) (b:= -s.l.cutK m) (by grind) (by grind);grind
 have hz2: ∀t,m.value (s.l.at t)=0:=fun t=>by rw[oc,hK];rw[hK] at hz;grind
 rcases Gs hm (hc.ok s hs) hz2 with h'|h'
 ·exact h'
 ·exfalso
  obtain⟨q,hq⟩:=hc.ne;have:=h q hq;rw[h',iE] at this;have:=hq s hs;grind
def jm(l:ab):List ab->av->Option av
 |[],v=>some v
 |m::t,v=>if m=l then jm l t v else if l.cutB v m then jm l t (l.cutV v m) else none
def fA(c:List ab)(p:aa):Prop:= ∀m∈c,0<m.value p
def FT(l:ab): ∀(c:List ab) (v w:av),v.Pos->jm l c v=some w->
  w.Pos/\(∀t,w.ins t↔v.ins t/\ ∀m∈c,m≠l->0<m.value (l.at t))
 |[],v,w,hv,h=>by
  obtain rfl:v=w:=by simpa[jm] using h
  exact⟨hv,fun t=>⟨fun h=>⟨h,fun s hs=>absurd hs (by simp)⟩,fun h=>h.1⟩⟩
 |m::c,v,w,hv,h=>by
  rw[jm] at h;split at h
  ·rename_i hm
   obtain⟨h1,h2⟩:=FT l c _ w hv h;refine⟨h1,fun t=>?_⟩;rw[h2,eJ];exact⟨fun h=>⟨h.1,fun h'=>absurd hm h',h.2⟩,fun h=>⟨h.1,h.2.2⟩⟩
  ·rename_i hm
   split at h
   ·rename_i hb
    obtain⟨h1,h2⟩:=FT l c _ w (AD hv hb) h;refine⟨h1,fun t=>?_⟩;rw[h2,EC hb,eJ,and_assoc];exact⟨fun h=>⟨h.1,fun _=>h.2.1,h.2.2⟩,fun h=>⟨h.1,h.2.1 hm,h.2.2⟩⟩
   ·exact absurd h (by simp)
def Jq(l:ab): ∀(c:List ab) (v:av),v.Pos->jm l c v=none-> ∀t,v.has t-> ¬ ∀m∈c,m≠l->0<m.value (l.at t)
 |[],v,hv,h=>by simp[jm] at h
 |m::c,v,hv,h=>by
  intro t ht hd;have hd':=eJ.1 hd;rw[jm] at h;split at h
  ·exact Jq l c _ hv h t ht hd'.2
  ·rename_i hm
   split at h
   ·rename_i hb
    exact Jq l c _ (AD hv hb) h t ((Gw hb t).2 ⟨ht,cM (hd'.1 hm)⟩) hd'.2
   ·rename_i hb
    have:=Fc hv (by simpa using hb) ht;have:=hd'.1 hm;grind
def wv(c:List ab):Bool:=c.isEmpty||c.any (fun l=>(jm l c av.all).isSome)
def PA: ∀{ls:List ab} {c e:aG},qO ls c=some e-> ∀s∈e,s.l∈ls\/ ∃s'∈c,s'.l=s.l
 |[],c,e,h,s,hs=>by
  obtain rfl:c=e:=by simpa[qO] using h
  exact .inr ⟨s,hs,J⟩
 |l::t,c,e,h,s,hs=>by
  rw[qO] at h;split at h
  ·rcases PA h s hs with h1|⟨s',h1,h2⟩
   ·exact .inl (aZ _ h1)
   ·unfold bP at h1
    split at h1
    ·rcases uQ.1 h1 with rfl|h1
     ·exact .inl (by rw[<-h2];exact aQ)
     ·obtain⟨s1,m1,_,rfl⟩:=vi.1 h1
      exact .inr ⟨s1,m1,h2⟩
    ·exact .inr ⟨s',h1,h2⟩
  ·exact absurd h (by simp)
def YA{c:List ab}(hok: ∀l∈c,l.ok)(hne: ∃p,fA c p): ∃e,qO c []=some e/\d8 e/\(∀p,b9 e p↔fA c p)/\ ∀s∈e,s.l∈c/\(jm s.l c av.all).isSome=true:=by
 obtain⟨p,hp⟩:=hne;obtain⟨e,he⟩:=TC d8.nil hok ⟨p,fun s hs=>absurd hs (by simp),hp⟩;obtain⟨g1,g2⟩:=P9 d8.nil hok he;have g3: ∀p,b9 e p↔fA c p:=fun p=>by
  rw[g2];exact⟨fun h=>h.2,fun h=>⟨fun s hs=>absurd hs (by simp),h⟩⟩
 refine⟨e,he,g1,g3,fun s hs=>?_⟩;have hm:s.l∈c:=by
  rcases PA he s hs with h|⟨_,h,_⟩
  ·exact h
  ·exact absurd h (by simp)
 refine⟨hm,?_⟩
 cases hp:jm s.l c av.all with
 |some w=>rfl
 |none=>
  exfalso;obtain⟨p1,p2⟩:=g1.edge s hs;have hC:=(p2 s.v.sample).1 (xg p1).has;refine Jq s.l c _ A8 hp s.v.sample (Kh _) fun m hmc hne=>?_;have hall: ∀p,b9 e p->0<m.value p:=fun p hp=>(g3 p).1 hp m hmc;have h0:=zb g1.ne hall hC;have h1:m.value (s.l.at s.v.sample)≠0:=fun hz=>hne (S3 g1 hs (hok m hmc) hall hz);grind
def auT{c:List ab}(hok: ∀l∈c,l.ok):wv c=true↔ ∃p,fA c p:=by
 unfold wv;rw[iL,List.isEmpty_iff,mX];constructor
 ·rintro (rfl|⟨l,hl,h⟩)
  ·exact⟨⟨0,0⟩,fun m hm=>absurd hm (by simp)⟩
  ·obtain⟨w,hw⟩:=Option.isSome_iff_exists.1 h
   obtain⟨w1,w2⟩:=FT l c _ w A8 hw;have hi:=((w2 w.sample).1 (xg w1)).2;have h0:=pn (hok l hl).ne w.sample;have hd:b9 ((c.filter (fun m=>decide (m≠l))).map (fun m=>(⟨m,av.all⟩:aE))) (l.at w.sample):=by
    intro s hs;obtain⟨m,hm,rfl⟩:=bJ.1 hs;rw[jJ,decide_eq_true_iff] at hm;exact hi m hm.1 hm.2
   obtain⟨e,he,ho⟩:=hd.open l.nor;refine⟨bt (l.at w.sample) l.nor e,fun m hm=>?_⟩;by_cases hml:m=l
   ·subst hml
    rw[i6,h0];have:=bF he (qn (hok m hl).ne);grind
   ·exact ho e (cM he) fZ ⟨m,av.all⟩ (bJ.2 ⟨m,jJ.2 ⟨hm,by simpa using hml⟩,J⟩)
 ·intro hne
  obtain⟨e,h1,h2,h3,h4⟩:=YA hok hne
  cases c with
  |nil=>exact .inl J
  |cons l c=>
   right
   cases e with
   |nil=>
    exfalso;have:=(h3 (l.at 0)).1 (fun s hs=>absurd hs (by simp)) l aQ;rw[pn (hok l aQ).ne] at this;exact absurd this (by decide)
   |cons s e=>
    obtain⟨a,b⟩:=h4 s aQ;exact⟨s.l,a,b⟩
def JX(out:List ab)(l:ab):Nat:=(out.takeWhile (fun x=>decide (cO x.dir l.dir<0))).length
def Z7(out:List ab)(l:ab):List ab:=if out[JX out l]? =some l then out else out.take (JX out l)++l::out.drop (JX out l)
def KN(c:List ab):List ab->List ab->List ab
 |[],out=>out
 |l::t,out=>KN c t (if(jm l c av.all).isSome then Z7 out l else out)
def tN(c:List ab):List ab:=KN c c []
def Gj(c:List ab)(l:ab):Int:=if wv (c++[l])&&wv (c++[l.rev]) then 0 else if wv (c++[l]) then 1 else-1
def Tr.restrictL:Tr->List ab->Tr
 | .leaf b,_=> .leaf b
 | .node l x y,c=>if Gj c l=1 then x.restrictL c else if Gj c l= -1 then y.restrictL c else joinQ l (x.restrictL (tN (c++[l]))) (y.restrictL (tN (c++[l.rev])))
def HX{c:List ab}{l:ab}{p:aa}:fA (c++[l]) p↔fA c p/\0<l.value p:=by
 unfold fA;rw[List.forall_mem_append];simp
def Ns{c:List ab}{l:ab}(hok: ∀m∈c,m.ok)(hl:l.ok): ∀m∈c++[l],m.ok:=by
 rw[List.forall_mem_append];exact⟨hok,by simpa using hl⟩
end Go.Sx
end
section
namespace Go.Sx
open Go Go.Proofs Tryz
variable {GB:Gh}
structure D6 where
 lo:RV
 hi:RV
 nl:Bool
 nh:Bool
def D6.v(z:D6):Value:= .agg ⟨[.int .i64 z.lo.n, .int .i64 z.lo.d, .pointer z.lo.p, .int .i64 z.hi.n, .int .i64 z.hi.d, .pointer z.hi.p, .bool z.nl, .bool z.nh]⟩
section
variable {P:Program} {C:aD} {n:Nat} {fr:Fr} {own own' own1:List ak} {G:Gh} {Φ:Act->World->Prop}
variable {dst:Option Nat} {t t' ty':TypeId} {pos:String} {af:Array Edge} {gd:Option (Nat×Bool)} {x y:Operand} {e s by_:Nat}
end
structure ZT (k:Nat) (G:Gh) (z:D6) (v:av):Prop where
 lo:yp k G z.lo v.lo
 hi:yp k G z.hi v.hi
 nl:z.nl=v.nl
 nh:z.nh=v.nh
def Rx:List Int->Int
 |[]=>0
 |x::t=>if x≠0 then x else Rx t
def aJJ(l m:ab):Int:=Rx [cg l.a m.a,cg l.b m.b,cg l.c m.c]
structure CW where
 l:LV
 v:D6
def CW.val(z:CW):Value:= .agg ⟨[.int .i64 z.l.a.n, .int .i64 z.l.a.d, .pointer z.l.a.p, .int .i64 z.l.b.n, .int .i64 z.l.b.d, .pointer z.l.b.p, .int .i64 z.l.c.n, .int .i64 z.l.c.d, .pointer z.l.c.p, .int .i64 z.v.lo.n, .int .i64 z.v.lo.d, .pointer z.v.lo.p, .int .i64 z.v.hi.n, .int .i64 z.v.hi.d, .pointer z.v.hi.p, .bool z.v.nl, .bool z.v.nh]⟩
structure Vp (k:Nat) (G:Gh) (z:CW) (f:aE):Prop where
 l:KT k G z.l f.l
 v:ZT (25*k+6) G z.v f.v
inductive gi {α β:Type} (R:α->β->Prop):List α->List β->Prop
 |nil:gi R [] []
 |cons {a b us bs} (h:R a b) (t:gi R us bs):gi R (a::us) (b::bs)
def gi.len{α β:Type}{R:α->β->Prop}{us:List α}{bs:List β}(h:gi R us bs):us.length=bs.length:=by
 induction h with
 |nil=>rfl
 |cons _ _ ih=>simp[ih]
def gi.imp{α β:Type}{R S:α->β->Prop}{us:List α}{bs:List β}(h:gi R us bs)(k: ∀a b,R a b->S a b):gi S us bs:=by
 induction h with
 |nil=>exact .nil
 |cons h _ ih=>exact .cons (k _ _ h) ih
def gi.get{α β:Type}{R:α->β->Prop}{us:List α}{bs:List β}(h:gi R us bs){i:Nat}{b:β}(hi:bs[i]? =some b): ∃a,us[i]? =some a/\R a b:=by
 induction h generalizing i with
 |nil=>simp at hi
 | @cons a b' us bs h t ih=>
  cases i with
  |zero=>simp at hi;subst hi;exact⟨a,J,h⟩
  |succ i=>simpa using ih (i:=i) (by simpa using hi)
def gi.app{α β:Type}{R:α->β->Prop}{us us':List α}{bs bs':List β}(h:gi R us bs)(k:gi R us' bs'):gi R (us++us') (bs++bs'):=by
 induction h with
 |nil=>exact k
 |cons h _ ih=>exact .cons h ih
structure VX (k:Nat) (G:Gh) (x:SV) (c:aG):Prop where
 ex: ∃fs:List CW,eH G 17 x (fs.map CW.val)/\gi (Vp k G) fs c

section
variable {P:Program} {C:aD} {n:Nat} {fr:Fr} {own own':List ak} {G:Gh} {Φ:Act->World->Prop}
variable {dst:Option Nat} {t t' ty':TypeId} {pos:String} {af:Array Edge} {gd:Option (Nat×Bool)} {x y:Operand} {e s by_:Nat}
def axJ{o1 o2:ak}{rest:List ak}(h:o1.b≠o2.b->St C n fr (o1::o2::rest) G Φ):St C n fr (o1::o2::rest) G Φ:=
 fun a w rl=>h ((bK.1 rl.h.nd).1 _ aQ) a w rl
def DK[hT:cv P t e s by_]{k:IntKind}{b off len cap:Nat}{l:Int}(hx:aw fr x=some (.slice (some ⟨b,off,none⟩) len cap))(hy:aw fr y=some (.int k l))(h0:0<=l)(h1:l<=len)(h2:l<cap):
  Yd P C fr own G ⟨dst, .slice t x (some y) none none,ty',pos,af,gd⟩ (.slice (some ⟨b,off+l.toNat*s,none⟩) (len-l.toNat) (cap-l.toNat)):=by
 have h:=D0 (P:=P) (C:=C) (own:=own) (G:=G) (t:=t) (dst:=dst) (ty':=ty') (pos:=pos) (af:=af) (gd:=gd) (by_:=by_) hx hy h0 h1;unfold nn at h;rw[if_neg (by omega)] at h;simpa[pB] using h
end

section
variable {P:Program} {C:aD} {n:Nat} {fr:Fr} {own own':List ak} {G:Gh} {Φ:Act->World->Prop}
variable {dst:Option Nat} {t t' ty':TypeId} {pos:String} {af:Array Edge} {gd:Option (Nat×Bool)} {x y:Operand} {e s by_:Nat}
end

def Hr(k:Nat)(G:Gh):Tr->Option Addr->Prop
 | .leaf b,p=> ∃n,p=some ⟨n,0,none⟩/\G n=some [.int .i64 0, .int .i64 0, .pointer none, .int .i64 0, .int .i64 0, .pointer none, .int .i64 0, .int .i64 0, .pointer none, .pointer none, .pointer none, .bool b]
 | .node l x y,p=> ∃(n:Nat) (z:LV) (q r:Option Addr),p=some ⟨n,0,none⟩/\G n=some [.int .i64 z.a.n, .int .i64 z.a.d, .pointer z.a.p, .int .i64 z.b.n, .int .i64 z.b.d, .pointer z.b.p, .int .i64 z.c.n, .int .i64 z.c.d, .pointer z.c.p, .pointer q, .pointer r, .bool false]/\KT k G z l/\Hr k G x q/\Hr k G y r
structure ND where
 a:IV
 b:IV
 c:IV
 l:Int
 r:Int
def ND.val(z:ND):Value:= .agg ⟨[.bool z.a.neg, .slice z.a.a.a z.a.a.n z.a.a.c, .bool z.b.neg, .slice z.b.a.a z.b.a.n z.b.a.c, .bool z.c.neg, .slice z.c.a.a z.c.a.n z.c.a.c, .int .i64 z.l, .int .i64 z.r]⟩
structure si (k:Nat) (G:Gh) (z:ND) (n:NQ):Prop where
 a:m8 k G z.a n.l.a
 b:m8 k G z.b n.l.b
 c:m8 k G z.c n.l.c
 l:z.l=n.a
 r:z.r=n.b
def si.up{k:Nat}{A G:Gh}{z:ND}{n:NQ}(h:si k A z n)[GL A G]:si k G z n:=⟨h.a.up,h.b.up,h.c.up,h.l,h.r⟩
structure Y5 (k:Nat) (G:Gh) (x:SV) (ns:List NQ):Prop where
 ex: ∃zs:List ND,eH G 8 x (zs.map ND.val)/\gi (si k G) zs ns
def aIQ(n i:Nat):List Value:=(List.range n).map fun j=> .bool (decide (j<i))

def ND.len8(zs:List ND): ∀v∈zs.map ND.val,(aF v).length=8:=fun v hv=>by
 obtain⟨f,_,rfl⟩:=bJ.1 hv;rfl
def ND.flat(zs:List ND): ∀v∈zs.map ND.val,∀c∈aF v,Sx.flat c=true:=fun v hv c hc=>by
 obtain⟨f,_,rfl⟩:=bJ.1 hv;simp only[ND.val,aF,aW,kV,or_false] at hc;rcases hc with rfl|rfl|rfl|rfl|rfl|rfl|rfl|rfl<;>rfl
def gi.set{α β:Type}{R:α->β->Prop}{us:List α}{bs:List β}(h:gi R us bs){a:α}{b:β}(hr:R a b)(i:Nat):gi R (us.set i a) (bs.set i b):=by
 induction h generalizing i with
 |nil=>simp;exact .nil
 |cons h t ih=>
  cases i with
  |zero=>exact .cons hr t
  |succ i=>exact .cons h (ih i)
def LG(zs:List ND)(rest:List Value)(i j:Nat)(x:Value)(z:ND)(hi:i<zs.length)(hj:j<8)(hz:aF z.val=(aF (zs[i]).val).set j x):
  (aC (zs.map ND.val)++rest).set (i*8+j) x=aC ((zs.set i z).map ND.val)++rest:=by
 have hi':i<(zs.map ND.val).length:=by simpa using hi
 rw[Tx hj _ i hi' (ND.len8 zs),List.getElem_map,<-hz,qQ,List.set_eq_take_append_cons_drop,if_pos hi',nq];have e:aC (z.val::(zs.map ND.val).drop (i+1))=aF z.val++aC ((zs.map ND.val).drop (i+1)):=by simp[aC]
 rw[e];simp[dX]
def o5(ob wb:Nat):Value:= .func (.func 60) #[] #[.pointer (some ⟨ob,0,none⟩), .pointer (some ⟨wb,0,none⟩)]
structure BE where
 x:SV
 p:Option Addr
def BE.val(z:BE):Value:= .agg ⟨[.slice z.x.a z.x.n z.x.c, .pointer z.p]⟩
structure Yf (k:Nat) (G:Gh) (z:BE) (b:Bool×aG):Prop where
 c:VX k G z.x b.2
 t:Hr k G (.leaf b.1) z.p
structure aKb (k:Nat) (G:Gh) (w:SV) (ps:List (Bool×aG)):Prop where
 ex: ∃zs:List BE,eH G 2 w (zs.map BE.val)/\gi (Yf k G) zs ps
structure LI where
 a:IV
 b:IV
 c:IV
def LI.val(z:LI):Value:= .agg ⟨[.bool z.a.neg, .slice z.a.a.a z.a.a.n z.a.a.c, .bool z.b.neg, .slice z.b.a.a z.b.a.n z.b.a.c, .bool z.c.neg, .slice z.c.a.a z.c.a.n z.c.a.c]⟩
structure Vv (k:Nat) (G:Gh) (z:LI) (l:ab):Prop where
 a:m8 k G z.a l.a
 b:m8 k G z.b l.b
 c:m8 k G z.c l.c
structure aJv (k:Nat) (G:Gh) (x:SV) (ls:List ab):Prop where
 ex: ∃zs:List LI,eH G 6 x (zs.map LI.val)/\gi (Vv k G) zs ls
structure aI0 (k:Nat) (G:Gh) (x:SV) (ls:List ab):Prop where
 ex: ∃zs:List LV,eH G 9 x (zs.map LV.v)/\gi (KT k G) zs ls
def ya{a b:Int}(h:a=b):eI a=eI b:=by rw[h]
def GA(z:Int):eQ (z:Rat)= .ag [.v (.bool (decide (z<0))),dN z.natAbs, .sl []]:=by unfold eQ;rw[rX,rJ];rfl
def Fg{a:Rat}(h:a.den=1):((a.num:Int):Rat)=a:=Rat.ext (rX _) (by rw[rJ,h])
def Zx{a b:Rat}(ha:a.den=1)(hb:b.den=1):a+b=((a.num+b.num:Int):Rat):=by
 rw[pV,Fg ha,Fg hb]
def awc{a b:Rat}(ha:a.den=1)(hb:b.den=1):a*b=((a.num*b.num:Int):Rat):=by
 rw[dZ,Fg ha,Fg hb]
def Am(n:Nat)(h:0<n):(if n=1 then [] else(dg n).map dU).length=0↔n=1:=by
 by_cases q:n=1
 ·simp[q]
 ·rw[if_neg q,aJ,uX];omega
def PO{n:Nat}(h:n≠1):dD n=dN n:=by unfold dD;rw[if_neg h];rfl
def Hf{g:Nat}:(gq g 1=0)↔g=1:=by
 unfold gq;constructor
 ·intro h;split at h
  ·exact absurd h (by decide)
  ·split at h
   ·assumption
   ·exact absurd h (by decide)
 ·rintro rfl;rfl
def Sv{x:Int}{d:Nat}(hd:0<d):zv (decide (x<0)) (x.natAbs/Nat.gcd x.natAbs d)=(mkRat x d).num:=by
 rw[Rat.num_mkRat,if_neg (by omega),jZ];have hg:0<Nat.gcd d x.natAbs:=kS _ hd;obtain⟨c,hc⟩:Nat.gcd d x.natAbs∣x.natAbs:=lY _ _;generalize Nat.gcd d x.natAbs=g at*;rw[hc,rT _ hg];unfold zv;by_cases q:x<0
 ·rw[if_pos (by simpa using q),show x=(g:Int)*(-(c:Int)) by rw[Int.mul_neg,<-jX];omega,Int.mul_ediv_cancel_left _ (by omega)]
 ·rw[if_neg (by simpa using q),show x=(g:Int)*(c:Int) by rw[<-jX];omega,Int.mul_ediv_cancel_left _ (by omega)]
def QK{x:Int}{d:Nat}(hd:0<d):d/Nat.gcd x.natAbs d=(mkRat x d).den:=by
 rw[Rat.den_mkRat,if_neg (by omega),jZ]
def YK{x:Int}{d:Nat}(hd:0<d)(h:Nat.gcd x.natAbs d=1):(mkRat x d).num=x/\(mkRat x d).den=d:=by
 rw[<-Sv hd,<-QK hd,h,tT,tT];exact⟨my x,J⟩
instance BI.zv (neg:Bool) (m i:Nat) [h:BN m i]:BI (zv neg m) i:=⟨by rw[q7];exact h.h⟩
section
variable {GB:Gh} {C:aD} {n:Nat} {Q0:Exit->Act->World->Prop} {fr fr':aA} {own own':aI} {cf cf':Cf} {vc:List Prop}
def Tj(fr:aA)(cf:Cf):Option Int:=match ce fr cf with
 |some ⟨_, .convert t t' x,_,_,_,_⟩=>match dB tt t,dB tt t' with
  |some ⟨.int .i64,_,_,_⟩,some ⟨.int .u64,_,_,_⟩=>match aO (bE fr cf) x with
   |some (.d (.v (.int .i64 p)))=>some p
   |_=>none
  |_,_=>none
 |_=>none
def Wn[fu:Fu]{p:Int}(q:Int)(h:Tj fr cf=some p)(e:p%18446744073709551616=q)(hgo:cI tt n fu.n fr own cf (.d (.v (.int .u64 q))) [] []=⟨vc,fr',own',cf'⟩)(k:aj prog GB C n Q0 fr' own' cf')
  (hv:ah vc:=by first|exact trivial|(simp only[ah];omega)):aj prog GB C n Q0 fr own cf:=by
 unfold Tj at h;split at h<;>try (cases h;done)
 rename_i hh;split at h<;>try (cases h;done)
 rename_i hT hT';split at h<;>cases h;rename_i hx;have:=A9 (d9 _ _ hT) J;have:=A9 (d9 _ _ hT') J;refine us hh (.x1 hx fun ρ G ov a w y _ r h1 h2=>?_) hgo hv k;rw[dl] at h2;subst h2;refine⟨_,dl.2 J,?_⟩;rw[<-e,<-nO];exact Eb h1
def Nn(fr:aA)(cf:Cf):Option Int:=match ce fr cf with
 |some ⟨_, .unOp .neg _ x,_,_,_,_⟩=>match aO (bE fr cf) x with
  |some (.d (.v (.int .u64 p)))=>some p
  |_=>none
 |_=>none
def ngw[fu:Fu]{p:Int}(q:Int)(h:Nn fr cf=some p)(e:(0-p)%18446744073709551616=q)(hgo:cI tt n fu.n fr own cf (.d (.v (.int .u64 q))) [] []=⟨vc,fr',own',cf'⟩)(k:aj prog GB C n Q0 fr' own' cf')
  (hv:ah vc:=by first|exact trivial|(simp only[ah];omega)):aj prog GB C n Q0 fr own cf:=by
 unfold Nn at h;split at h<;>try (cases h;done)
 rename_i hh;split at h<;>cases h;rename_i hx;refine us hh (.x1 hx fun ρ G ov a w y _ r h1 h2=>?_) hgo hv k;rw[dl] at h2;subst h2;refine⟨_,dl.2 J,?_⟩;rw[<-e,<-nO];exact KA h1
end
def P6{n:Int}(h0: -4611686018427387904<=n)(h1:n<=4611686018427387904):PF GB prog 76 [.v (.int .i64 n)] (eI n):=by
 refine fn func76 J J ntmps76 J J (fun C=>?_);refine br (fu1:=⟨3⟩) (fu2:=⟨6⟩) J J J (fun hc4=>?_) (fun hc4=>?_)
 .
  refine Wn (fu:=⟨0⟩) (18446744073709551616+n) J (by omega) J<|ngw (n.natAbs:Nat) J (by omega) J<|cl J (tg (u:=n.natAbs) (by omega)) J<|?_;refine cl J lf J<|?_;exact rz J (ya (by unfold zv;rw[if_pos J];omega))
 .
  refine ao 11 (.d (.v (.int .u64 (n.natAbs:Nat)))) J (by show FX.d (.v (.int _ _))= .d (.v (.int _ _));congr 3;omega) ?_;refine gx J<|cl J (tg (u:=n.natAbs) (by omega)) J<|cl J lf J<|?_;exact rz J (ya (by unfold zv;rw[if_neg (by decide)];omega))
def GG{z:Int}:PF GB prog 73 [eI z] (vI z.sign):=by
 have hl:=fB (dg z.natAbs);have hz:= @uX z.natAbs;refine fn func73 J J ntmps73 J J (fun C=>?_);refine br J J J (fun hc6=>?_) (fun hc6=>?_)
 .
  exact rz J (by show DV.v (.int _ 0)=DV.v (.int _ _);rw[show z=0 by omega];rfl)
 .
  refine bd J J J (fun hc8=>?_) (fun hc8=>?_)
  .
   exact rz J (by show DV.v (.int _ (-1))=DV.v (.int _ _);rw[fY (by omega)])
  .
   exact rz J (by show DV.v (.int _ 1)=DV.v (.int _ _);rw[fT (by omega)])
def Cw{z:Int}:PF GB prog 116 [eI z] (eI (-z)):=by
 refine fn func116 J J ntmps116 J J (fun C=>?_);refine cl J lf J<|?_;exact rz J (ya (VC z))
def V4{a b:Int}(h:decide (a<0)=decide (b<0)):zv (decide (a<0)) (a.natAbs+b.natAbs)=a+b:=by
 unfold zv;have h':a<0↔b<0:=by simpa using h
 by_cases q:a<0
 ·have:=h'.1 q
  simp[q];omega
 ·have: ¬b<0:=fun w=>q (h'.2 w)
  simp[q];omega
def VE{a b:Int}(h: ¬decide (a<0)=decide (b<0))(k:a.natAbs<b.natAbs):zv (decide (b<0)) (b.natAbs-a.natAbs)=a+b:=by
 unfold zv;have h': ¬(a<0↔b<0):=by simpa using h
 by_cases q:b<0
 ·have: ¬a<0:=fun w=>h' ⟨fun _=>q,fun _=>w⟩
  simp[q];omega
 ·have:a<0:=Int.not_le.1 fun w=>h' ⟨fun e=>by omega,fun e=>absurd e q⟩
  simp[q];omega
def YO{a b:Int}(h: ¬decide (a<0)=decide (b<0))(k:b.natAbs<=a.natAbs):zv (decide (a<0)) (a.natAbs-b.natAbs)=a+b:=by
 unfold zv;have h': ¬(a<0↔b<0):=by simpa using h
 by_cases q:a<0
 ·have: ¬b<0:=fun w=>h' ⟨fun _=>w,fun _=>q⟩
  simp[q];omega
 ·have:b<0:=Int.not_le.1 fun w=>h' ⟨fun e=>absurd e q,fun e=>by omega⟩
  simp[q];omega
def FY{a b:Int}{i j:Nat}[ha:BI a i][hb:BI b j](hi:i<=400000000:=by decide)(hj:j<=400000000:=by decide):PF GB prog 115 [eI a,eI b] (eI (a+b)):=by
 have hba:=mi ha.h;have hbb:=mi hb.h;refine fn (fu:=⟨15⟩) func115 J J ntmps115 J J (fun C=>?_);refine ao 9 (.d (.v (.bool (decide (decide (a<0)=decide (b<0)))))) J (by congr 2) ?_;refine gx J<|?_;refine bd J J J (fun hc9=>?_) (fun hc9=>?_)
 .
  refine cl J (aGO (by omega) (by omega)) J<|cl J lf J<|?_;exact rz J (ya (V4 hc9))
 .
  refine cl J (Bu (by omega) (by omega)) J<|?_;refine br J J J (fun hc23=>?_) (fun hc23=>?_)
  .
   refine cl J (Kw (by have:=AW.1 hc23;omega) (by omega)) J<|cl J lf J<|?_;exact rz J (ya (VE hc9 (AW.1 hc23)))
  .
   refine cl J (Kw (sY fun q=>hc23 (AW.2 q)) (by omega)) J<|cl J lf J<|?_;exact rz J (ya (YO hc9 (sY fun q=>hc23 (AW.2 q))))
def uS{a b:Int}{i j:Nat}[ha:BI a i][hb:BI b j](hi:i<=400000000:=by decide)(hj:j<=400000000:=by decide):PF GB prog 69 [eI a,eI b] (eI (a*b)):=by
 refine fn func69 J J ntmps69 J J (fun C=>?_);refine cl J (sG (by omega) (by omega)) J<|cl J lf J<|?_;exact rz J (ya (aB9 a b))
def Ip{a b:Int}{i j:Nat}[ha:BI a i][hb:BI b j](hi:i<=400000000:=by decide)(hj:j<=400000000:=by decide):PF GB prog 114 [eI a,eI b] (vI (a-b).sign):=by
 refine fn func114 J J ntmps114 J J (fun C=>?_);refine cl J Cw J<|cl J (FY (by omega) (by omega)) J<|cl J GG J<|?_;exact rz J (by rw[Int.sub_eq_add_neg];rfl)
def kH{q:Rat}:PF GB prog 72 [eQ q] (dN q.den):=by
 refine fn func72 J J ntmps72 J J (fun C=>?_);refine br J J J (fun hc6=>?_) (fun hc6=>?_)
 .
  refine cl J Kl J<|?_;exact rz J (by rw[(Am q.den (nB q)).1 (by omega)];rfl)
 .
  exact rz J (by exact PO (fun e=>hc6 (by exact congrArg Int.ofNat ((Am q.den (nB q)).2 e))))
def NW{n k:Nat}[h:BN n k](hk:k<=500000000):(dg n).length<=100000000:=by have:=mi h.h;omega
def yj{x:Int}{d i j:Nat}[hx:BI x i][hd:BN d j](hd0:0<d)(hi:i<=200000000:=by decide)(hj:j<=200000000:=by decide):PF GB prog 70 [eI x,dN d] (eQ (mkRat x d)):=by
 obtain⟨q,hq⟩: ∃q,q=mkRat x d:=⟨_,rfl⟩;obtain⟨g,hg⟩: ∃g,g=Nat.gcd x.natAbs d:=⟨_,rfl⟩;have hg0:0<g:=hg▸oV _ hd0;haveI hgB:BN g (i+j):=hg▸inferInstance;have hg1:(dg g).length<=100000000:=NW (k:=i+j) (by omega);have ho1:(dg 1).length<=100000000:=by rw[Cl];decide
 haveI hqB:BQ q (i+j):=hq▸wq hd0 (dR hx.h (bS (by decide) (by omega))) (dR hd.h (bS (by decide) (by omega)));refine fn func70 J J ntmps70 J J (fun C=>?_);refine cl (fu:=⟨0⟩) J (HW (by omega) (by omega)) J<|?_;refine ao 11 (.d (dN g)) J (by rw[hg]) ?_;refine gx (fu:=⟨4⟩) J<|?_;refine mg (fu:=⟨1⟩) (X:=Unit) (fun _=>[(1, .d (dN q.den)),(2, .ov 2 0),(4, .ov 4 0)]) (fun _=>[(4,some (.o 46 [.ff, .nl, .nl] true)),(2,some (.o 44 [.d (.v (.bool (decide (q.num<0)))), .d (dN q.num.natAbs)] true))]) (fun _=>True) [1,2,4] [4,2] rfl ?_ (fun _=>J) (fun _ hm=>?_)
 .
  refine gx J<|cl J Kl J<|cl J (Bu hg1 ho1) J<|?_;refine br J J J (fun hc15=>?_) (fun hc15=>?_)
  .
   refine cl J (Bd hg0 (by omega) (by omega)) J<|cl (fu:=⟨0⟩) J lf J<|?_;refine ao 26 (.d (eI q.num)) J (by show FX.d (eI (zv _ _))=_;rw[hg,Sv hd0,hq]) ?_;refine gx J<|cl (fu:=⟨2⟩) J (Bd hg0 (by omega) (by omega)) J<|?_;refine ao 31 (.d (dN q.den)) J (by rw[hg,QK hd0,hq]) ?_;refine gx J<|?_;exact at_ () trivial
  .
   have hm:=YK (x:=x) hd0 (by rw[<-hg];exact Hf.1 (Decidable.not_not.1 hc15));rw[<-hq] at hm;refine ao 1 (.d (dN q.den)) J (by rw[hm.2]) ?_;exact at_ () trivial (hO:=⟨J,by rw[hm.1];rfl,trivial⟩)
 .
  refine mg (X:=Unit) (fun _=>[(1, .d (dD q.den)),(2, .ov 2 0),(4, .ov 4 0)]) (fun _=>[(4,some (.o 46 [.ff, .nl, .nl] true)),(2,some (.o 44 [.d (.v (.bool (decide (q.num<0)))), .d (dN q.num.natAbs)] true))]) (fun _=>True) [1,2,4] [4,2] rfl ?_ (fun _=>J) (fun _ hm=>?_)
  .
   refine gx J<|cl J Kl J<|cl J (Bu (NW (k:=i+j) (by omega)) ho1) J<|?_;refine br J J J (fun hc36=>?_) (fun hc36=>?_)
   .
    refine nlD 1 J ?_;refine ao 1 (.d (dD q.den)) J (by rw[Hf.1 hc36];rfl) ?_;exact at_ () trivial
   .
    refine ao 1 (.d (dD q.den)) J (by rw[PO (fun e=>hc36 (Hf.2 e))]) ?_;exact at_ () trivial
  .
   exact rz J (by rw[<-hq];rfl)
def Tv(a:Rat):mkRat a.num a.den=a:=by simp[tY]
def Tw{a b:Rat}(h:b≠0):a/b=mkRat (a.num*zv (decide (b.num<0)) b.den) (a.den*b.num.natAbs):=by
 rw[oM];have ha:(a.num:Rat)/(a.den:Rat)=a:=by rw[<-oM,Tv]
 have hb:(b.num:Rat)/(b.den:Rat)=b:=by rw[<-oM,Tv]
 have h1:(a.den:Rat)≠0:=by have:=a.den_nz;exact_mod_cast this
 have h2:(b.den:Rat)≠0:=by have:=b.den_nz;exact_mod_cast this
 have h3:(b.num:Rat)≠0:=by
  intro e;rw[e] at hb;apply h;rw[<-hb];grind
 rw[dZ,Rat.natCast_mul];by_cases q:b.num<0
 ·have e1:((zv (decide (b.num<0)) b.den:Int):Rat)= -(b.den:Rat):=by
   unfold zv;rw[if_pos (by simpa using q),pW];rfl
  have e2:((b.num.natAbs:Nat):Rat)= -(b.num:Rat):=by
   have:((b.num.natAbs:Nat):Int)= -b.num:=by omega
   rw[<-pW,<-this];rfl
  rw[e1,e2];generalize (a.num:Rat)=an at*;generalize (a.den:Rat)=ad at*;generalize (b.num:Rat)=bn at*;generalize (b.den:Rat)=bd at*;subst ha hb;grind
 ·have e1:((zv (decide (b.num<0)) b.den:Int):Rat)=(b.den:Rat):=by
   unfold zv;rw[if_neg (by simpa using q)];rfl
  have e2:((b.num.natAbs:Nat):Rat)=(b.num:Rat):=by
   have:((b.num.natAbs:Nat):Int)=b.num:=by omega
   rw[<-this];rfl
  rw[e1,e2];generalize (a.num:Rat)=an at*;generalize (a.den:Rat)=ad at*;generalize (b.num:Rat)=bn at*;generalize (b.den:Rat)=bd at*;subst ha hb;grind
def XO{q:Rat}{n:Int}{d:Nat}(hd:0<d)(h:q*(d:Rat)=(n:Rat)):q.num.natAbs<=n.natAbs/\q.den<=d:=by
 have e:q=mkRat n d:=by
  rw[oM];have:(d:Rat)≠0:=by exact_mod_cast (by omega:d≠0)
  rw[<-h];grind
 rw[e,Rat.num_mkRat,Rat.den_mkRat,if_neg (by omega),if_neg (by omega)];exact⟨nS n (d.gcd n.natAbs:Nat),kU ..⟩
theorem BQ.of_frac{q:Rat}{n:Int}{d i:Nat}(hd:0<d)(h:q*(d:Rat)=(n:Rat))(hn:n.natAbs<2^i)(hdi:d<2^i):BQ q i:=by
 have:=XO hd h;exact⟨by omega,by omega⟩
def Qo{b:Rat}(h:b≠0):0<b.num.natAbs:=by
 have:b.num≠0:=fun e=>h (mR.1 e);omega
instance BQ.over (a b:Rat) (i j:Nat) [ha:BQ a i] [hb:BQ b j]:BQ (a/b) (i+j):=by
 by_cases h:b=0
 ·subst h
  rw[Rat.div_def,Rat.inv_zero,Rat.mul_zero];have h2:=ha.hd;have h3:0<a.den:=nB a;have h4:2^i*1<=2^i*2^j:=gK _ (fM (by decide));rw[<-gJ] at h4;exact⟨by show 0<_;omega,by show 1<_;omega⟩
 ·rw[Tw h]
  have hb0:=Qo h;refine wq (jS (nB a) hb0) ?_ (po ha.hd hb.hn);rw[jU,q7];exact po ha.hn hb.hd
def zz{n:Int}(h0: -4611686018427387904<=n)(h1:n<=4611686018427387904):PF GB prog 39 [.v (.int .i64 n)] (eQ (n:Rat)):=by
 refine fn func39 J J ntmps39 J J (fun C=>?_);refine cl J (P6 (by omega) (by omega)) J<|?_;exact rz J (by rw[GA];rfl)
def Hi{q:Rat}:PF GB prog 33 [eQ q] (vI q.num.sign):=by
 refine fn func33 J J ntmps33 J J (fun C=>?_);refine cl J GG J<|?_;exact rz J J
def CO{q:Rat}:PF GB prog 68 [eQ q] (eQ (-q)):=by
 refine fn func68 J J ntmps68 J J (fun C=>?_);refine cl J Cw J<|?_;exact rz J (by unfold eQ;rw[nQ,pS];rfl)
def kh{a b:Rat}{i j:Nat}[ha:BQ a i][hb:BQ b j](hi:i<=20000000:=by decide)(hj:j<=20000000:=by decide):PF GB prog 31 [eQ a,eQ b] (eQ (a*b)):=by
 have had:=nB a;have hbd:=nB b;have hdp:=jS had hbd;have e1:=Am a.den had;have e2:=Am b.den hbd;refine fn func31 J J ntmps31 J J (fun C=>?_);refine cs 9 J J J (fun hg9=>?_) (fun hg9=>?_)
 .
  refine br J J J (fun hc14=>?_) (fun hc14=>?_)
  .
   refine cl J (uS (a:=a.num) (b:=b.num) (by omega) (by omega)) J<|?_;exact rz J (by rw[awc (e1.1 (by omega)) (e2.1 (by omega)),GA];rfl)
  .
   refine cl J (uS (a:=a.num) (b:=b.num) (by omega) (by omega)) J<|cl J kH J<|cl J kH J<|cl J (sG (by omega) (by omega)) J<|?_;refine cl J (yj hdp (by omega) (by omega)) J<|?_;exact rz J (by rw[B5];rfl)
 .
  refine cl J (uS (a:=a.num) (b:=b.num) (by omega) (by omega)) J<|cl J kH J<|cl J kH J<|cl J (sG (by omega) (by omega)) J<|?_;refine cl J (yj hdp (by omega) (by omega)) J<|?_;exact rz J (by rw[B5];rfl)
def Cz{a b:Rat}{i j:Nat}[ha:BQ a i][hb:BQ b j](hi:i<=20000000:=by decide)(hj:j<=20000000:=by decide):PF GB prog 67 [eQ a,eQ b] (eQ (a+b)):=by
 have had:=nB a;have hbd:=nB b;have hdp:=jS had hbd;have e1:=Am a.den had;have e2:=Am b.den hbd;refine fn func67 J J ntmps67 J J (fun C=>?_);refine cs 9 J J J (fun hg9=>?_) (fun hg9=>?_)
 .
  refine br J J J (fun hc14=>?_) (fun hc14=>?_)
  .
   refine cl J (FY (by omega) (by omega)) J<|?_;exact rz J (by rw[Zx (e1.1 (by omega)) (e2.1 (by omega)),GA];rfl)
  .
   refine cl J kH J<|cl J lf J<|cl J (uS (a:=a.num) (b:=zv false b.den) (by omega) (by omega)) J<|cl J kH J<|cl J lf J<|?_;refine cl J (uS (a:=b.num) (b:=zv false a.den) (by omega) (by omega)) J<|cl J (FY (by omega) (by omega)) J<|cl J kH J<|?_;refine cl J kH J<|cl J (sG (by omega) (by omega)) J<|cl J (yj hdp (by omega) (by omega)) J<|?_;exact rz J (by rw[BP];rfl)
 .
  refine cl J kH J<|cl J lf J<|cl J (uS (a:=a.num) (b:=zv false b.den) (by omega) (by omega)) J<|cl J kH J<|?_;refine cl J lf J<|cl J (uS (a:=b.num) (b:=zv false a.den) (by omega) (by omega)) J<|cl J (FY (by omega) (by omega)) J<|?_;refine cl J kH J<|cl J kH J<|cl J (sG (by omega) (by omega)) J<|cl J (yj hdp (by omega) (by omega)) J<|?_;exact rz J (by rw[BP];rfl)
def Cu{a b:Rat}{i j:Nat}[ha:BQ a i][hb:BQ b j](hi:i<=20000000:=by decide)(hj:j<=20000000:=by decide):PF GB prog 30 [eQ a,eQ b] (eQ (a-b)):=by
 refine fn func30 J J ntmps30 J J (fun C=>?_);refine cl J (CO (q:=b)) J<|cl J (Cz (a:=a) (b:= -b) hi hj) J<|?_;exact rz J (by rw[Rat.sub_eq_add_neg];rfl)
def D7{a b:Rat}{i j:Nat}[ha:BQ a i][hb:BQ b j](hb0:b≠0)(hi:i<=20000000:=by decide)(hj:j<=20000000:=by decide):PF GB prog 34 [eQ a,eQ b] (eQ (a/b)):=by
 have hbp:=Qo hb0;have hdp:=jS (nB a) hbp;refine fn func34 J J ntmps34 J J (fun C=>?_);refine cl J kH J<|cl J lf J<|cl J (uS (a:=a.num) (b:=zv (decide (b.num<0)) b.den) (by omega) (by omega)) J<|cl J kH J<|?_;refine cl J (sG (a:=a.den) (b:=b.num.natAbs) (by omega) (by omega)) J<|cl J (yj (x:=a.num*zv (decide (b.num<0)) b.den) (d:=a.den*b.num.natAbs) hdp (by omega) (by omega)) J<|?_;exact rz J (by rw[Tw hb0];rfl)
def Fl{a b:Rat}{i j:Nat}[ha:BQ a i][hb:BQ b j](hi:i<=20000000:=by decide)(hj:j<=20000000:=by decide):PF GB prog 88 [eQ a,eQ b] (vI (cg a b)):=by
 refine fn func88 J J ntmps88 J J (fun C=>?_);refine cl J (Cu hi hj) J<|cl J Hi J<|?_;exact rz J (by show vI _=vI _;rw[DU])
instance BI.two:BI 2 2:=⟨by decide⟩
end Go.Sx
end
