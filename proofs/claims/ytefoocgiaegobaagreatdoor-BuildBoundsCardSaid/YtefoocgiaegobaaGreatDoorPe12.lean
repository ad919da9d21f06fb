import Derived.Test.YtefoocgiaegobaaGreatDoorPe11
set_option linter.all false
set_option maxHeartbeats 1000000
set_option maxRecDepth 100000
section
namespace Go.Sx
open Go
def nf(l:aa)(p:ab):l.value p=(l.a:Rat)*p.x+(l.b:Rat)*p.y+(l.c:Rat):=rfl
def ik(l:aa)(p:ab):l.rev.value p= -l.value p:=by
 rw[nf,nf];have h1:((l.rev.a:Int):Rat)= -(l.a:Rat):=(Fy l.a).symm;have h2:((l.rev.b:Int):Rat)= -(l.b:Rat):=(Fy l.b).symm;have h3:((l.rev.c:Int):Rat)= -(l.c:Rat):=(Fy l.c).symm;rw[h1,h2,h3];grind
def bp(q p:ab)(e:Rat):ab:=⟨q.x+e*(p.x-q.x),q.y+e*(p.y-q.y)⟩
def jP(l:aa)(q p:ab)(e:Rat):l.value (bp q p e)=l.value q+e*(l.value p-l.value q):=by
 simp only[nf,bp];grind
def dG(q u:ab)(e:Rat):ab:=⟨q.x+e*u.x,q.y+e*u.y⟩
def jG(l:aa)(q u:ab)(e:Rat):l.value (dG q u e)=l.value q+e*l.nor.dot u:=by
 simp only[nf,dG,aa.nor,ab.dot];grind
def ji{a b:Rat}(ha:0<a)(hb:0<b):0<a*b:=Rat.mul_pos ha hb
def fG{a b:Rat}(ha:0<=a)(hb:0<=b):0<=a*b:=Rat.mul_nonneg ha hb
def OP(a:Rat):0<=a*a:=by
 by_cases h:0<=a
 ·exact fG h h
 ·have:=fG (a:= -a) (b:= -a) (by grind) (by grind)
  grind
def n7{s k:Rat}(hk:0<k):0<s*k↔0<s:=by
 constructor
 ·intro h
  by_cases hs:0<s
  ·exact hs
  ·have:=fG (a:= -s) (b:=k) (by grind) (by grind)
   grind
 ·intro h;exact ji h hk
def jd{s k:Rat}(hk:0<k):0<=s*k↔0<=s:=by
 constructor
 ·intro h
  by_cases hs:0<=s
  ·exact hs
  ·have:=ji (a:= -s) (b:=k) (by grind) hk
   grind
 ·intro h;exact fG h (by grind)
def PC{A B u v:Rat}(h0:0<=A)(h1:0<=A+v*B)(hu:0<=u)(huv:u<=v):0<=A+u*B:=by
 by_cases hB:0<=B
 ·have:=fG hu hB;grind
 ·have:=fG (a:=v-u) (b:= -B) (by grind) (by grind)
  grind
def aa.Ne(l:aa):Prop:= ¬(l.a=0/\l.b=0)
def aa.ok.ne{l:aa}(h:l.ok):l.Ne:=h.1
def oF{l:aa}(h:l.Ne):0<l.nor.dot l.nor:=by
 show 0<(l.a:Rat)*l.a+(l.b:Rat)*l.b;have h1:=OP (l.a:Rat);have h2:=OP (l.b:Rat);by_cases ha:l.a=0
 ·have hb:l.b≠0:=fun hb=>h ⟨ha,hb⟩
  have hb':(l.b:Rat)≠0:=fun e=>hb (fZ.1 e);have:(l.b:Rat)*l.b≠0:=by grind
  grind
 ·have ha':(l.a:Rat)≠0:=fun e=>ha (fZ.1 e)
  have:(l.a:Rat)*l.a≠0:=by grind
  grind
def xq{l:aa}(h:l.Ne): ∃q:Rat,l.nor.dot l.nor*q= -(l.c:Rat)/\l.base=⟨(l.a:Rat)*q,(l.b:Rat)*q⟩:=by
 refine⟨-(l.c:Rat)/l.nor.dot l.nor,?_,J⟩;have:=oF h;grind
def mf(l m:aa)(t:Rat):m.value (l.at t)=l.cutC m+t*l.cutK m:=by
 simp only[aa.cutC,aa.cutK,nf,aa.at,ab.add,ab.scale,aa.dir,aa.nor,ab.dot];grind
def qq{l:aa}(h:l.Ne)(t:Rat):l.value (l.at t)=0:=by
 obtain⟨q,h1,h2⟩:=xq h;simp only[nf,aa.at,h2,ab.add,ab.scale,aa.dir];simp only[aa.nor,ab.dot] at h1;grind
def CA{l:aa}(h:l.Ne){p:ab}(hp:l.value p=0): ∃t,p=l.at t:=by
 obtain⟨q,h1,h2⟩:=xq h;have hn:=oF h;obtain⟨x,y⟩:=p;rw[nf] at hp;simp only[aa.nor,ab.dot] at h1 hn;refine⟨((l.b:Rat)*x-(l.a:Rat)*y)/((l.a:Rat)*l.a+(l.b:Rat)*l.b),?_⟩;generalize ht:((l.b:Rat)*x-(l.a:Rat)*y)/((l.a:Rat)*l.a+(l.b:Rat)*l.b)=t;have ht':((l.a:Rat)*l.a+(l.b:Rat)*l.b)*t=(l.b:Rat)*x-(l.a:Rat)*y:=by grind
 simp only[aa.at,h2,ab.add,ab.scale,aa.dir,ab.mk.injEq];generalize (l.a:Rat)=a at*;generalize (l.b:Rat)=b at*;generalize (l.c:Rat)=c at*;have e1:(a*a+b*b)*(x-(a*q+b*t))=0:=by grind
 have e2:(a*a+b*b)*(y-(b*q+ -a*t))=0:=by grind
 constructor<;>grind
def ao.has(v:ao)(t:Rat):Prop:=(v.nl=true\/v.lo<=t)/\(v.nh=true\/t<=v.hi)
def ao.ins(v:ao)(t:Rat):Prop:=(v.nl=true\/v.lo<t)/\(v.nh=true\/t<v.hi)
def ao.Pos(v:ao):Prop:=v.nl=true\/v.nh=true\/v.lo<v.hi
def WV(a b:Rat):0<=b9 a b↔b<=a:=by
 unfold b9;split
 ·constructor
  ·intro h;exact absurd h (by decide)
  ·intro h;grind
 ·split
  ·constructor
   ·intro _;grind
   ·intro _;decide
  ·constructor
   ·intro _;grind
   ·intro _;decide
def Az(v:ao):v.empty=false↔v.Pos:=by
 obtain⟨lo,hi,nl,nh⟩:=v;unfold ao.empty ao.Pos
 cases nl<;>cases nh<;>simp[WV]
 first|exact Rat.not_le|grind
def ao.ins.has{v:ao}{t:Rat}(h:v.ins t):v.has t:=by
 obtain⟨h1,h2⟩:=h;exact⟨h1.imp id (fun h=>gJ h),h2.imp id (fun h=>gJ h)⟩
def JR:mkRat 1 2=(1:Rat)/2:=by rw[pY];rfl
def uC{v:ao}(h:v.Pos):v.ins v.sample:=by
 obtain⟨lo,hi,nl,nh⟩:=v;unfold ao.Pos at h;unfold ao.ins ao.sample;rw[JR]
 cases nl<;>cases nh<;>simp at* <;>grind
def NR(v w:ao)(t:Rat):(v.meet w).has t↔v.has t/\w.has t:=by
 obtain⟨lo,hi,nl,nh⟩:=v;obtain⟨lo',hi',nl',nh'⟩:=w;unfold ao.has ao.meet
 cases nl<;>cases nh<;>cases nl'<;>cases nh'<;>simp<;>grind
def MF(v w:ao)(t:Rat):(v.meet w).ins t↔v.ins t/\w.ins t:=by
 obtain⟨lo,hi,nl,nh⟩:=v;obtain⟨lo',hi',nl',nh'⟩:=w;unfold ao.ins ao.meet
 cases nl<;>cases nh<;>cases nl'<;>cases nh'<;>simp<;>grind
def Gc(t:Rat):ao.all.has t:=⟨.inl J, .inl J⟩
def Rq(t:Rat):ao.all.ins t:=⟨.inl J, .inl J⟩
def vV:ao.all.Pos:= .inl J
def nG(k:Rat):Int.sign k.num=0↔k=0:=by rw[jX,oY]
def Qe(k:Rat):0<k.num↔0<k:=by
 have h1:0<=k.num↔0<=k:=Rat.num_nonneg;have h2:k.num=0↔k=0:=oY;constructor
 ·intro h
  have a:=h1.1 (by omega);have b:k≠0:=fun e=>by have:=h2.2 e;omega
  grind
 ·intro h
  have a:=h1.2 (by grind);have b:k.num≠0:=fun e=>by have:=h2.1 e;grind
  omega
def m9(k:Rat):Int.sign k.num=1↔0<k:=by rw[Int.sign_eq_one_iff_pos,Qe]
def sD(k:Rat):0<Int.sign k.num↔0<k:=by
 rw[<-m9];rcases nX k.num 0 with h|h|h
 ·rw[eY h];decide
 ·rw[h];decide
 ·rw[fL h];decide
def oO(k:Rat):Int.sign k.num<0↔k<0:=by
 have h1:=nG k;have h2:=sD k;constructor
 ·intro h
  by_cases hk:0<k
  ·have:=h2.2 hk;omega
  ·by_cases h0:k=0
   ·have:=h1.2 h0;omega
   ·grind
 ·intro h
  have a1: ¬Int.sign k.num=0:=fun e=>by have:=h1.1 e;grind
  have a2: ¬0<Int.sign k.num:=fun e=>by have:=h2.1 e;grind
  omega
def wy{l m:aa}(v:ao)(hk:l.cutK m=0):l.cutV v m=v/\(l.cutB v m=true↔0<l.cutC m):=by
 have h:=(nG (l.cutK m)).2 hk;unfold aa.cutV aa.cutB;rw[if_pos h,if_pos h,decide_eq_true_iff,sD];exact⟨J,Iff.rfl⟩
def vf{l m:aa}(v:ao)(hk:0<l.cutK m):l.cutV v m=v.meet ⟨-(l.cutC m/l.cutK m),0,false,true⟩/\(l.cutB v m=true↔(l.cutV v m).Pos):=by
 have h0: ¬Int.sign (l.cutK m).num=0:=fun e=>by have:=(nG _).1 e;grind
 have h1:=(m9 (l.cutK m)).2 hk;constructor
 ·unfold aa.cutV;rw[if_neg h0,if_pos h1]
 ·unfold aa.cutB;rw[if_neg h0,<-Az];simp
def wg{l m:aa}(v:ao)(hk:l.cutK m<0):l.cutV v m=v.meet ⟨0, -(l.cutC m/l.cutK m),true,false⟩/\(l.cutB v m=true↔(l.cutV v m).Pos):=by
 have h0: ¬Int.sign (l.cutK m).num=0:=fun e=>by have:=(nG _).1 e;grind
 have h1: ¬Int.sign (l.cutK m).num=1:=fun e=>by have:=(m9 _).1 e;grind
 constructor
 ·unfold aa.cutV;rw[if_neg h0,if_neg h1]
 ·unfold aa.cutB;rw[if_neg h0,<-Az];simp
def Wf{C K t:Rat}(hk:0<K): -(C/K)<=t↔0<=C+t*K:=by
 have e:C=C/K*K:=by grind
 generalize C/K=d at*;rw[e,show d*K+t*K=(d+t)*K from by grind,jd hk];grind
def KJ{C K t:Rat}(hk:0<K): -(C/K)<t↔0<C+t*K:=by
 have e:C=C/K*K:=by grind
 generalize C/K=d at*;rw[e,show d*K+t*K=(d+t)*K from by grind,n7 hk];grind
def WF{C K t:Rat}(hk:K<0):t<= -(C/K)↔0<=C+t*K:=by
 have e:C=C/K*K:=by grind
 generalize C/K=d at*;rw[e,show d*K+t*K=(-(d+t))*(-K) from by grind,jd (by grind)];grind
def M1{C K t:Rat}(hk:K<0):t< -(C/K)↔0<C+t*K:=by
 have e:C=C/K*K:=by grind
 generalize C/K=d at*;rw[e,show d*K+t*K=(-(d+t))*(-K) from by grind,n7 (by grind)];grind
def n8(k:Rat):k=0\/0<k\/k<0:=by grind
def BT{l m:aa}{v:ao}(hb:l.cutB v m=true)(t:Rat):(l.cutV v m).has t↔v.has t/\0<=m.value (l.at t):=by
 rw[mf];rcases n8 (l.cutK m) with hk|hk|hk
 ·obtain⟨h1,h2⟩:=wy v hk
  rw[h1,hk];have:=h2.1 hb;constructor
  ·intro h;exact⟨h,by grind⟩
  ·exact fun h=>h.1
 ·rw[(vf v hk).1,NR,<-Wf hk]
  simp[ao.has]
 ·rw[(wg v hk).1,NR,<-WF hk]
  simp[ao.has]
def Cl{l m:aa}{v:ao}(hb:l.cutB v m=true)(t:Rat):(l.cutV v m).ins t↔v.ins t/\0<m.value (l.at t):=by
 rw[mf];rcases n8 (l.cutK m) with hk|hk|hk
 ·obtain⟨h1,h2⟩:=wy v hk
  rw[h1,hk];have:=h2.1 hb;constructor
  ·intro h;exact⟨h,by grind⟩
  ·exact fun h=>h.1
 ·rw[(vf v hk).1,MF,<-KJ hk]
  simp[ao.ins]
 ·rw[(wg v hk).1,MF,<-M1 hk]
  simp[ao.ins]
def uT{l m:aa}{v:ao}(hv:v.Pos)(hb:l.cutB v m=true):(l.cutV v m).Pos:=by
 rcases n8 (l.cutK m) with hk|hk|hk
 ·rw[(wy v hk).1];exact hv
 ·exact(vf v hk).2.1 hb
 ·exact(wg v hk).2.1 hb
def AE{l m:aa}{v:ao}(hv:v.Pos)(hb:l.cutB v m=false){t:Rat}(ht:v.has t):m.value (l.at t)<=0:=by
 rw[mf];have hb': ¬l.cutB v m=true:=by rw[hb];decide
 rcases n8 (l.cutK m) with hk|hk|hk
 ·have h2:=(wy v hk).2
  have: ¬0<l.cutC m:=fun h=>hb' (h2.2 h);rw[hk];grind
 ·obtain⟨h1,h2⟩:=vf v hk
  have hn: ¬(l.cutV v m).Pos:=fun h=>hb' (h2.2 h);rw[h1] at hn;have h3:=KJ (C:=l.cutC m) (t:=t) hk
  suffices¬(-(l.cutC m/l.cutK m)<t) by grind
  generalize-(l.cutC m/l.cutK m)=d at*;obtain⟨lo,hi,nl,nh⟩:=v;unfold ao.Pos ao.meet at hn;unfold ao.Pos at hv;unfold ao.has at ht
  cases nl<;>cases nh<;>simp at* <;>grind
 ·obtain⟨h1,h2⟩:=wg v hk
  have hn: ¬(l.cutV v m).Pos:=fun h=>hb' (h2.2 h);rw[h1] at hn;have h3:=M1 (C:=l.cutC m) (t:=t) hk
  suffices¬(t< -(l.cutC m/l.cutK m)) by grind
  generalize-(l.cutC m/l.cutK m)=d at*;obtain⟨lo,hi,nl,nh⟩:=v;unfold ao.Pos ao.meet at hn;unfold ao.Pos at hv;unfold ao.has at ht
  cases nl<;>cases nh<;>simp at* <;>grind
def bO(c:aF)(p:ab):Prop:= ∀s∈c,0<s.l.value p
def tE(c:aF)(p:ab):Prop:= ∀s∈c,0<=s.l.value p
def FL(l:aa): ∀(c:aF) (v w:ao),v.Pos->l7 l c v=some w->
  w.Pos/\(∀t,w.has t↔v.has t/\tE c (l.at t))/\(∀t,w.ins t↔v.ins t/\bO c (l.at t))
 |[],v,w,hv,h=>by
  obtain rfl:v=w:=by simpa[l7] using h
  exact⟨hv,fun t=>⟨fun h=>⟨h,fun s hs=>absurd hs (by simp)⟩,fun h=>h.1⟩,fun t=>⟨fun h=>⟨h,fun s hs=>absurd hs (by simp)⟩,fun h=>h.1⟩⟩
 |s::c,v,w,hv,h=>by
  rw[l7] at h;split at h
  ·rename_i hb
   obtain⟨h1,h2,h3⟩:=FL l c _ w (uT hv hb) h;refine⟨h1,fun t=>?_,fun t=>?_⟩
   ·rw[h2,BT hb]
    simp only[tE,dX];exact and_assoc
   ·rw[h3,Cl hb]
    simp only[bO,dX];exact and_assoc
  ·exact absurd h (by simp)
def Jn(l:aa): ∀(c:aF) (v:ao),v.Pos->l7 l c v=none-> ∀t,v.has t-> ¬bO c (l.at t)
 |[],v,hv,h=>by simp[l7] at h
 |s::c,v,hv,h=>by
  intro t ht hd;have hd':=dX.1 hd;rw[l7] at h;split at h
  ·rename_i hb
   exact Jn l c _ (uT hv hb) h t ((BT hb t).2 ⟨ht,gJ hd'.1⟩) hd'.2
  ·rename_i hb
   have:=AE hv (by simpa using hb) ht;have:=hd'.1;grind
def bO.open: ∀{c:aF} {q:ab} (u:ab),bO c q-> ∃e:Rat,0<e/\ ∀d,0<=d->d<=e->bO c (dG q u d)
 |[],q,u,_=>⟨1,by decide,fun d _ _ s hs=>absurd hs (by simp)⟩
 |s::c,q,u,h=>by
  have h':=dX.1 h;obtain⟨e,he,hd⟩:=bO.open (c:=c) u h'.2;have hs:=h'.1;generalize hk:s.l.nor.dot u=k;have hf: ∃f:Rat,0<f/\ ∀d,0<=d->d<=f->0<s.l.value q+d*k:=by
   by_cases hk0:0<=k
   ·exact⟨1,by decide,fun d h1 _=>by have:=fG h1 hk0;grind⟩
   ·refine⟨s.l.value q/(2* -k),?_,fun d h1 h2=>?_⟩
    ·have e1:s.l.value q/(2* -k)*(2* -k)=s.l.value q:=by grind
     exact(n7 (k:=2* -k) (by grind)).1 (by rw[e1];exact hs)
    ·have e1:s.l.value q/(2* -k)*(2* -k)=s.l.value q:=by grind
     generalize s.l.value q/(2* -k)=f at*;have:=fG (a:=f-d) (b:= -k) (by grind) (by grind);grind
  obtain⟨f,hf0,hf⟩:=hf;by_cases hef:e<=f
  ·refine⟨e,he,fun d h1 h2=>dX.2 ⟨?_,hd d h1 h2⟩⟩
   rw[jG,hk];exact hf d h1 (by grind)
  ·refine⟨f,hf0,fun d h1 h2=>dX.2 ⟨?_,hd d h1 (by grind)⟩⟩
   rw[jG,hk];exact hf d h1 h2
def Nq: ∀{c:aF} {q p:ab},bO c q->(∃s∈c,s.l.value p<=0)->
  ∃e:Rat,0<=e/\e<=1/\(∃s∈c,s.l.value p<=0/\s.l.value (bp q p e)=0)/\tE c (bp q p e)
 |[],q,p,_,h=>by obtain⟨s,hs,_⟩:=h;exact absurd hs (by simp)
 |s::c,q,p,h,hex=>by
  have h':=dX.1 h;have hs:=h'.1;by_cases hc: ∃s∈c,s.l.value p<=0
  ·obtain⟨e,h0,h1,⟨s1,m1,n1,z1⟩,hC⟩:=Nq h'.2 hc
   by_cases hp:0<=s.l.value (bp q p e)
   ·exact⟨e,h0,h1,⟨s1,aZ _ m1,n1,z1⟩,dX.2 ⟨hp,hC⟩⟩
   ·rw[jP] at hp
    generalize hB:s.l.value p-s.l.value q=B at*;have hB0:B<0:=by
     by_cases hB0:0<=B
     ·have:=fG h0 hB0;grind
     ·grind
    have e1:s.l.value q/(-B)*(-B)=s.l.value q:=by grind
    generalize hf:s.l.value q/(-B)=f at*;have f0:0<=f:=(jd (k:= -B) (by grind)).1 (by rw[e1];grind);have f1:f<=e:=by
     have:=(jd (s:=e-f) (k:= -B) (by grind)).1 (by grind);grind
    have z:s.l.value (bp q p f)=0:=by rw[jP,hB];grind
    have np:s.l.value p<=0:=by
     have:=fG (a:=1-e) (b:= -B) (by grind) (by grind);grind
    refine⟨f,f0,by grind,⟨s,aQ,np,z⟩,dX.2 ⟨by rw[z];exact iQ,fun s2 m2=>?_⟩⟩;have a1:=h'.2 s2 m2;have a2:=hC s2 m2;rw[jP] at a2⊢;exact PC (gJ a1) a2 f0 f1
  ·have np:s.l.value p<=0:=by
    obtain⟨s1,m1,n1⟩:=hex;rcases aW.1 m1 with rfl|m1
    ·exact n1
    ·exact absurd ⟨s1,m1,n1⟩ hc
   generalize hB:s.l.value p-s.l.value q=B at*;have hB0:B<0:=by grind
   have e1:s.l.value q/(-B)*(-B)=s.l.value q:=by grind
   generalize hf:s.l.value q/(-B)=f at*;have f0:0<=f:=(jd (k:= -B) (by grind)).1 (by rw[e1];grind);have f1:f<=1:=by
    have:=(jd (s:=1-f) (k:= -B) (by grind)).1 (by grind);grind
   have z:s.l.value (bp q p f)=0:=by rw[jP,hB];grind
   refine⟨f,f0,f1,⟨s,aQ,np,z⟩,dX.2 ⟨by rw[z];exact iQ,fun s2 m2=>?_⟩⟩;have a1:=h'.2 s2 m2;have a2:0<s2.l.value p:=by
    by_cases h:0<s2.l.value p
    ·exact h
    ·exact absurd ⟨s2,m2,by grind⟩ hc
   rw[jP];have:=PC (A:=s2.l.value q) (B:=s2.l.value p-s2.l.value q) (u:=f) (v:=1) (gJ a1) (by grind) f0 f1;exact this
structure dw (c:aF):Prop where
 ne: ∃p,bO c p
 ok: ∀s∈c,s.l.ok
 edge: ∀s∈c,s.v.Pos/\ ∀t,s.v.has t↔tE c (s.l.at t)
def dw.nil:dw []:=⟨⟨⟨0,0⟩,fun s hs=>absurd hs (by simp)⟩,fun s hs=>absurd hs (by simp),fun s hs=>absurd hs (by simp)⟩
def wl{c:aF}{m:aa}(hne: ∃q,bO c q)(h: ∀p,bO c p->0<m.value p){p:ab}(hp:tE c p):0<=m.value p:=by
 obtain⟨q,hq⟩:=hne;have mq:=h q hq;by_cases hm:0<=m.value p
 ·exact hm
 ·exfalso
  generalize hB:m.value q-m.value p=B;have hB0:0<B:=by grind
  have e1: -m.value p/B*B= -m.value p:=by grind
  generalize-m.value p/B=e at*;have e0:0<e:=(n7 hB0).1 (by rw[e1];grind);have e2:e<=1:=by
   have:=(jd (s:=1-e) hB0).1 (by grind);grind
  have hd:bO c (bp p q e):=fun s hs=>by
   rw[jP];have a:=hp s hs;have b:=hq s hs;have:=ji e0 b;have:=fG (a:=1-e) (b:=s.l.value p) (by grind) a;grind
  have:=h _ hd;rw[jP,hB,e1] at this;grind
def tu{l:aa}{s':aO}: ∀{c:aF},s'∈e8 l c↔ ∃s∈c,s.l.cutB s.v l=true/\s'=⟨s.l,s.l.cutV s.v l⟩
 |[]=>by simp[e8]
 |s::c=>by
  rw[e8];split
  ·rename_i hb
   rw[aW,tu (c:=c)];constructor
   ·rintro (rfl|⟨s1,h1,h2⟩)
    ·exact⟨s,aQ,hb,J⟩
    ·exact⟨s1,aZ _ h1,h2⟩
   ·rintro ⟨s1,h1,h2,h3⟩
    rcases aW.1 h1 with rfl|h1
    ·exact .inl h3
    ·exact .inr ⟨s1,h1,h2,h3⟩
  ·rename_i hb
   rw[tu (c:=c)];constructor
   ·rintro ⟨s1,h1,h2⟩;exact⟨s1,aZ _ h1,h2⟩
   ·rintro ⟨s1,h1,h2,h3⟩
    rcases aW.1 h1 with rfl|h1
    ·exact absurd h2 hb
    ·exact⟨s1,h1,h2,h3⟩
def sP{c:aF}{l:aa}{v:ao}{s:aO}:s∈nF c l v↔s=⟨l,v⟩\/s∈c:=by
 unfold nF;generalize ig (lP c l) 0 c.length=n;rw[cX,aW];have h:=mU n c;constructor
 ·rintro (h1|h1|h1)
  ·exact .inr (eK h1)
  ·exact .inl h1
  ·exact .inr (jQ h1)
 ·rintro (h1|h1)
  ·exact .inr (.inl h1)
  ·rw[<-h,cX] at h1
   rcases h1 with h1|h1
   ·exact .inl h1
   ·exact .inr (.inr h1)
def Tg{c:aF}{l:aa}(hl:l.Ne)(hp:kw c l=none){p:ab}(h:bO c p):l.value p≠0:=by
 intro h0;obtain⟨t,rfl⟩:=CA hl h0;exact Jn l c _ vV hp t (Gc t) h
def MQ{c:aF}{l:aa}(hl:l.Ne){v:ao}(hp:kw c l=some v):(∃q,bO c q/\0<l.value q)/\ ∃q,bO c q/\l.value q<0:=by
 obtain⟨h1,_,h3⟩:=FL l c _ v vV hp;have hd:=((h3 v.sample).1 (uC h1)).2;have h0:=qq hl v.sample;have hn:=oF hl;constructor
 ·obtain⟨e,he,hm⟩:=hd.open l.nor
  refine⟨_,hm e (gJ he) iQ,?_⟩;rw[jG,h0];have:=ji he hn;grind
 ·obtain⟨e,he,hm⟩:=hd.open ⟨-l.nor.x, -l.nor.y⟩
  refine⟨_,hm e (gJ he) iQ,?_⟩;rw[jG,h0];have:=ji he hn;simp only[ab.dot] at this⊢;grind
def Zo{c:aF}{l:aa}{v:ao}(hc:dw c)(hl:l.ok)(hp:kw c l=some v):
  dw (nF (e8 l c) l v)/\ ∀p,bO (nF (e8 l c) l v) p↔bO c p/\0<l.value p:=by
 obtain⟨⟨q,hq,lq⟩,_⟩:=MQ hl.ne hp;obtain⟨v1,v2,v3⟩:=FL l c _ v vV hp;have hD: ∀p,bO (nF (e8 l c) l v) p↔bO c p/\0<l.value p:=by
  intro p;constructor
  ·intro h
   have lp:0<l.value p:=h ⟨l,v⟩ (sP.2 (.inl J));refine⟨fun s0 hs0=>?_,lp⟩;by_cases h0:0<s0.l.value p
   ·exact h0
   ·exfalso
    obtain⟨e,e0,e1,⟨s,ms,ns,zs⟩,hC⟩:=Nq (p:=p) hq ⟨s0,hs0,by grind⟩;obtain⟨t,ht⟩:=CA (hc.ok s ms).ne zs;rw[ht] at hC;obtain⟨p1,p2⟩:=hc.edge s ms;have hh:=(p2 t).2 hC;have lr:0<l.value (s.l.at t):=by
     rw[<-ht,jP];by_cases hB:0<=l.value p-l.value q
     ·have:=fG e0 hB;grind
     ·have:=fG (a:=1-e) (b:= -(l.value p-l.value q)) (by grind) (by grind)
      grind
    have hb:s.l.cutB s.v l=true:=by
     cases hb:s.l.cutB s.v l with
     |true=>rfl
     |false=>have:=AE p1 hb hh;grind
    have:=h ⟨s.l,s.l.cutV s.v l⟩ (sP.2 (.inr (tu.2 ⟨s,ms,hb,J⟩)));simp only at this;grind
  ·rintro ⟨h1,h2⟩ s hs
   rcases sP.1 hs with rfl|hs
   ·exact h2
   ·obtain⟨s1,m1,_,rfl⟩:=tu.1 hs
    exact h1 s1 m1
 have hne: ∃p,bO (nF (e8 l c) l v) p:=⟨q,(hD q).2 ⟨hq,lq⟩⟩;have hC: ∀p,tE (nF (e8 l c) l v) p↔tE c p/\0<=l.value p:=by
  intro p;constructor
  ·intro h
   refine⟨fun s hs=>?_,h ⟨l,v⟩ (sP.2 (.inl J))⟩;exact wl hne (fun p hp=>((hD p).1 hp).1 s hs) h
  ·rintro ⟨h1,h2⟩ s hs
   rcases sP.1 hs with rfl|hs
   ·exact h2
   ·obtain⟨s1,m1,_,rfl⟩:=tu.1 hs
    exact h1 s1 m1
 refine⟨⟨hne,fun s hs=>?_,fun s hs=>?_⟩,hD⟩
 ·rcases sP.1 hs with rfl|hs
  ·exact hl
  ·obtain⟨s1,m1,_,rfl⟩:=tu.1 hs
   exact hc.ok s1 m1
 ·rcases sP.1 hs with rfl|hs
  ·refine⟨v1,fun t=>?_⟩
   rw[hC];simp only;rw[v2];have h0:=qq hl.ne t;constructor
   ·intro h;exact⟨h.2,by rw[h0];exact iQ⟩
   ·intro h;exact⟨Gc t,h.1⟩
  ·obtain⟨s1,m1,hb,rfl⟩:=tu.1 hs
   obtain⟨p1,p2⟩:=hc.edge s1 m1;refine⟨uT p1 hb,fun t=>?_⟩;rw[hC];simp only;rw[BT hb,p2]
def bO.seg{c:aF}{q p:ab}{e:Rat}(hq:bO c q)(hp:bO c p)(h0:0<=e)(h1:e<=1):bO c (bp q p e):=fun s hs=>by
 rw[jP];have a:=hq s hs;have b:=hp s hs;by_cases he:e=0
 ·subst he;grind
 ·have:=ji (a:=e) (by grind) b
  have:=fG (a:=1-e) (b:=s.l.value q) (by grind) (by grind);grind
def LH{v:ao}{t:Rat}(h:v.ins t):(∃u,u<t/\v.has u)/\ ∃u,t<u/\v.has u:=by
 obtain⟨lo,hi,nl,nh⟩:=v;unfold ao.ins at h;unfold ao.has;refine⟨⟨if nl=true then t-1 else lo,?_⟩,⟨if nh=true then t+1 else hi,?_⟩⟩<;>cases nl<;>cases nh<;>simp at* <;>grind
def u7{a b c x y z:Nat}(h1:x*b=a*y)(h2:x*c=a*z)(g:Nat.gcd (Nat.gcd a b) c=1):a∣x:=by
 have e:x=Nat.gcd (Nat.gcd (x*a) (x*b)) (x*c):=by
  rw[Nat.gcd_mul_left,Nat.gcd_mul_left,g,iK]
 rw[e];exact Nat.dvd_gcd (Nat.dvd_gcd (Nat.dvd_mul_left ..) (h1▸Nat.dvd_mul_right ..)) (h2▸Nat.dvd_mul_right ..)
def S4{a b c x y z:Int}(h1:a*y=b*x)(h2:a*z=c*x)(h3:b*z=c*y)
  (g1:Nat.gcd (Nat.gcd a.natAbs b.natAbs) c.natAbs=1)(g2:Nat.gcd (Nat.gcd x.natAbs y.natAbs) z.natAbs=1):
  (a=x/\b=y/\c=z)\/(a= -x/\b= -y/\c= -z):=by
 have n1:a.natAbs*y.natAbs=b.natAbs*x.natAbs:=by rw[<-iN,<-iN,h1]
 have n2:a.natAbs*z.natAbs=c.natAbs*x.natAbs:=by rw[<-iN,<-iN,h2]
 have n3:b.natAbs*z.natAbs=c.natAbs*y.natAbs:=by rw[<-iN,<-iN,h3]
 generalize ha:a.natAbs=A at*;generalize hb:b.natAbs=B at*;generalize hc:c.natAbs=C at*;generalize hx:x.natAbs=X at*;generalize hy:y.natAbs=Y at*;generalize hz:z.natAbs=Z at*;have gB:Nat.gcd (Nat.gcd B A) C=1:=by rw[iU B A];exact g1
 have gC:Nat.gcd (Nat.gcd C A) B=1:=by rw[Nat.gcd_assoc,iU];exact g1
 have gY:Nat.gcd (Nat.gcd Y X) Z=1:=by rw[iU Y X];exact g2
 have gZ:Nat.gcd (Nat.gcd Z X) Y=1:=by rw[Nat.gcd_assoc,iU];exact g2
 have e1:A=X:=Nat.dvd_antisymm (u7 (x:=X) (y:=Y) (z:=Z) (by grind) (by grind) g1) (u7 (x:=A) (y:=B) (z:=C) (by grind) (by grind) g2);have e2:B=Y:=Nat.dvd_antisymm (u7 (x:=Y) (y:=X) (z:=Z) (by grind) (by grind) gB) (u7 (x:=B) (y:=A) (z:=C) (by grind) (by grind) gY);have e3:C=Z:=Nat.dvd_antisymm (u7 (x:=Z) (y:=X) (z:=Y) (by grind) (by grind) gC) (u7 (x:=C) (y:=A) (z:=B) (by grind) (by grind) gZ);have s1:a=x\/a= -x:=by omega
 have s2:b=y\/b= -y:=by omega
 have s3:c=z\/c= -z:=by omega
 clear ha hb hc hx hy hz n1 n2 n3 g1 g2 gB gC gY gZ e1 e2 e3;have z1:= @sZ x y;have z2:= @sZ x z;have z3:= @sZ y z;rcases s1 with rfl|rfl<;>rcases s2 with rfl|rfl<;>rcases s3 with rfl|rfl<;>grind
def Dz{l m:aa}(hl:l.ok)(hm:m.ok)(h: ∀t,l.value (m.at t)=0):l=m\/l=m.rev:=by
 have h0:=h 0;have h1:=h 1;rw[mf] at h0 h1;have hC:m.cutC l=0:=by grind
 have hK:m.cutK l=0:=by grind
 obtain⟨q,q1,q2⟩:=xq hm.ne;have hn:=oF hm.ne;unfold aa.cutC at hC;rw[q2,nf] at hC;unfold aa.cutK at hK;simp only[aa.nor,aa.dir,ab.dot] at hK q1 hn hC;obtain⟨a,b,c⟩:=l;obtain⟨x,y,z⟩:=m;simp only at*;have e1:a*y=b*x:=by
  have:((a*y:Int):Rat)=((b*x:Int):Rat):=by rw[cR,cR];grind
  exact mM.1 this
 have e2:a*z=c*x:=by
  have:((a*z:Int):Rat)=((c*x:Int):Rat):=by rw[cR,cR];grind
  exact mM.1 this
 have e3:b*z=c*y:=by
  have:((b*z:Int):Rat)=((c*y:Int):Rat):=by rw[cR,cR];grind
  exact mM.1 this
 rcases S4 e1 e2 e3 hl.2 hm.2 with⟨rfl,rfl,rfl⟩|⟨rfl,rfl,rfl⟩
 ·exact .inl J
 ·exact .inr J
def aa.ok.rev{l:aa}(h:l.ok):l.rev.ok:=by
 obtain⟨h1,h2⟩:=h;refine⟨?_,?_⟩
 ·simp only[aa.rev];omega
 ·simp only[aa.rev,kZ];exact h2
def Mo(l:aa): ∀c:aF,(∀s∈c,mm l s<=0/\s.l≠l)-> ¬0<mh l c
 |[],_=>by simp[mh]
 |s::c,h=>by
  have h':=dX.1 h;unfold mh;rw[if_neg h'.1.2];split
  ·have:=h'.1.1;omega
  ·exact Mo l c h'.2
def Pt{c:aF}{l:aa}(hc:dw c)(hl:l.ok)(hp:kw c l=none):
  (0<mh l c/\ ∀p,bO c p->0<l.value p)\/(¬0<mh l c/\ ∀p,bO c p->l.value p<0):=by
 have hoff:=fun p (h:bO c p)=>Tg hl.ne hp h;by_cases hq: ∃q,bO c q/\0<l.value q
 ·left
  obtain⟨q,hq,lq⟩:=hq;have hall: ∀p,bO c p->0<l.value p:=by
   intro p h;have:=hoff p h;by_cases h0:0<l.value p
   ·exact h0
   ·exfalso
    have hn:l.value p<0:=by grind
    have e1:l.value q/(l.value q-l.value p)*(l.value q-l.value p)=l.value q:=by grind
    generalize l.value q/(l.value q-l.value p)=e at*;have f0:0<=e:=(jd (k:=l.value q-l.value p) (by grind)).1 (by grind);have f1:e<=1:=by
     have:=(jd (s:=1-e) (k:=l.value q-l.value p) (by grind)).1 (by grind);grind
    exact hoff _ (hq.seg h f0 f1) (by rw[jP];grind)
  refine⟨?_,hall⟩
  cases c with
  |nil=>simp[kw,l7] at hp
  |cons s c=>
   obtain⟨p1,p2⟩:=hc.edge s aQ;have hi:=uC p1;have hr:=wl hc.ne hall ((p2 _).1 hi.has);unfold mh;by_cases h0:mm l s=0
   ·rw[if_neg (by simpa using h0)]
    have hz:l.value (s.l.at s.v.sample)=0:=(nG _).1 h0;have hge: ∀t,s.v.has t->0<=l.value (s.l.at t):=fun t ht=>wl hc.ne hall ((p2 t).1 ht);obtain⟨⟨u1,m1,n1⟩,⟨u2,m2,n2⟩⟩:=LH hi;have g1:=hge _ n1;have g2:=hge _ n2;rw[mf] at hz g1 g2;have hK:s.l.cutK l=0:=by
     rcases n8 (s.l.cutK l) with h|h|h
     ·exact h
     ·exfalso
      have:=ji (a:=s.v.sample-u1) (b:=s.l.cutK l) (by grind) h;grind
     ·exfalso
      have:=ji (a:=u2-s.v.sample) (b:= -s.l.cutK l) (by grind) (by grind);grind
    have hz2: ∀t,l.value (s.l.at t)=0:=fun t=>by rw[mf,hK];rw[hK] at hz;grind
    rcases Dz hl (hc.ok s aQ) hz2 with h|h
    ·rw[if_pos h.symm];decide
    ·exfalso
     have:=hall q hq;rw[h,ik] at this;have:=hq s aQ;grind
   ·rw[if_pos h0]
    have hz:l.value (s.l.at s.v.sample)≠0:=fun e=>h0 ((nG _).2 e);exact(sD _).2 (by grind)
 ·right
  have hall: ∀p,bO c p->l.value p<0:=fun p h=>by
   have:=hoff p h;have: ¬0<l.value p:=fun h'=>hq ⟨p,h,h'⟩;grind
  refine⟨Mo l c fun s hs=>?_,hall⟩;obtain⟨p1,p2⟩:=hc.edge s hs;have hr:=wl (m:=l.rev) hc.ne (fun p h=>by rw[ik];have:=hall p h;grind) ((p2 _).1 (uC p1).has);rw[ik] at hr;constructor
  ·have: ¬0<mm l s:=fun h=>by have:=(sD _).1 h;grind
   omega
  ·rintro rfl
   obtain⟨p,hp⟩:=hc.ne;have:=hall p hp;have:=hp s hs;grind
def ri{c:aF}{l:aa}(hc:dw c)(hl:l.ok):cE c l=true↔ ∃p,bO c p/\0<l.value p:=by
 unfold cE
 cases hp:kw c l with
 |some v=>exact⟨fun _=>(MQ hl.ne hp).1,fun _=>J⟩
 |none=>
  simp only[uy,hp,Option.isSome_none,cM,if_false,decide_eq_true_iff];rcases Pt hc hl hp with⟨h1,h2⟩|⟨h1,h2⟩
  ·refine⟨fun _=>?_,fun _=>h1⟩
   obtain⟨p,hp⟩:=hc.ne;exact⟨p,hp,h2 p hp⟩
  ·refine⟨fun h=>absurd h h1,?_⟩
   rintro ⟨p,hp,h⟩;have:=h2 p hp;grind
def js{c:aF}{l:aa}(hc:dw c)(hl:l.ok)(hb:cE c l=true):dw (bF c l)/\ ∀p,bO (bF c l) p↔bO c p/\0<l.value p:=by
 unfold bF
 cases hp:kw c l with
 |some v=>exact Zo hc hl hp
 |none=>
  refine⟨hc,fun p=>?_⟩;unfold cE at hb;simp only[hp,uy,Option.isSome_none,cM,if_false,decide_eq_true_iff] at hb;rcases Pt hc hl hp with⟨h1,h2⟩|⟨h1,h2⟩
  ·exact⟨fun h=>⟨h,h2 p h⟩,fun h=>h.1⟩
  ·exact absurd hb h1
inductive aGA (c:aF) (l:aa):Prop
 |left (h1:cE c l.rev=false) (h: ∀p,bO c p->0<l.value p)
 |right (h1:cE c l.rev=true) (h2:cE c l=false) (h: ∀p,bO c p->l.value p<0)
 |both (h1:cE c l.rev=true) (h2:cE c l=true) (g1:dw (bF c l)) (g2:dw (bF c l.rev))
   (e1: ∀p,bO (bF c l) p↔bO c p/\0<l.value p) (e2: ∀p,bO (bF c l.rev) p↔bO c p/\l.value p<0)
def Tr.restrict_A{l:aa}{e:aF}(X Y:Tr)(h:cE e l.rev=false):(Tr.node l X Y).restrict e=X.restrict e:=by
 rw[Tr.restrict,h];rfl
def Tr.restrict_B{l:aa}{e:aF}(X Y:Tr)(h:cE e l.rev=true)(h2:cE e l=false):(Tr.node l X Y).restrict e=Y.restrict e:=by
 rw[Tr.restrict,h,h2];rfl
def Tr.restrict_C{l:aa}{e:aF}(X Y:Tr)(h:cE e l.rev=true)(h2:cE e l=true):(Tr.node l X Y).restrict e=Tr.joinQ l (X.restrict (bF e l)) (Y.restrict (bF e l.rev)):=by
 rw[Tr.restrict,h,h2];rfl
def oI:List aa->aF->Option aF
 |[],c=>some c
 |l::t,c=>if cE c l then oI t (bF c l) else none
def M': ∀{ls:List aa} {c e:aF},dw c->(∀l∈ls,l.ok)->oI ls c=some e->dw e/\ ∀p,bO e p↔bO c p/\ ∀l∈ls,0<l.value p
 |[],c,e,hc,_,h=>by
  obtain rfl:c=e:=by simpa[oI] using h
  exact⟨hc,fun p=>⟨fun h=>⟨h,fun l hl=>absurd hl (by simp)⟩,fun h=>h.1⟩⟩
 |l::t,c,e,hc,hl,h=>by
  have hl':=dX.1 hl;rw[oI] at h;split at h
  ·rename_i hb
   obtain⟨g1,g2⟩:=js hc hl'.1 hb;obtain⟨k1,k2⟩:=M' g1 hl'.2 h;refine⟨k1,fun p=>?_⟩;rw[k2,g2,dX,and_assoc]
  ·exact absurd h (by simp)
def O5: ∀{ls:List aa} {c:aF},dw c->(∀l∈ls,l.ok)->(∃p,bO c p/\ ∀l∈ls,0<l.value p)-> ∃e,oI ls c=some e
 |[],c,_,_,_=>⟨c,J⟩
 |l::t,c,hc,hl,⟨p,h1,h2⟩=>by
  have hl':=dX.1 hl;have h2':=dX.1 h2;have hb:=(ri hc hl'.1).2 ⟨p,h1,h2'.1⟩;obtain⟨g1,g2⟩:=js hc hl'.1 hb;rw[oI,if_pos hb];exact O5 g1 hl'.2 ⟨p,(g2 p).2 ⟨h1,h2'.1⟩,h2'.2⟩
def LA{c:aF}(hc:dw c){s:aO}(hs:s∈c){m:aa}(hm:m.ok)(h: ∀p,bO c p->0<m.value p)(hz:m.value (s.l.at s.v.sample)=0):m=s.l:=by
 obtain⟨p1,p2⟩:=hc.edge s hs;have hi:=uC p1;have hge: ∀t,s.v.has t->0<=m.value (s.l.at t):=fun t ht=>wl hc.ne h ((p2 t).1 ht);obtain⟨⟨u1,m1,n1⟩,⟨u2,m2,n2⟩⟩:=LH hi;have g1:=hge _ n1;have g2:=hge _ n2;rw[mf] at hz g1 g2;have hK:s.l.cutK m=0:=by
  rcases n8 (s.l.cutK m) with h|h|h
  ·exact h
  ·exfalso
   have:=ji (a:=s.v.sample-u1) (b:=s.l.cutK m) (by grind) h;grind
  ·exfalso
   have:=ji (a:=u2-s.v.sample) (b:= -s.l.cutK m) (by grind) (by grind);grind
 have hz2: ∀t,m.value (s.l.at t)=0:=fun t=>by rw[mf,hK];rw[hK] at hz;grind
 rcases Dz hm (hc.ok s hs) hz2 with h'|h'
 ·exact h'
 ·exfalso
  obtain⟨q,hq⟩:=hc.ne;have:=h q hq;rw[h',ik] at this;have:=hq s hs;grind
def il(l:aa):List aa->ao->Option ao
 |[],v=>some v
 |m::t,v=>if m=l then il l t v else if l.cutB v m then il l t (l.cutV v m) else none
def et(c:List aa)(p:ab):Prop:= ∀m∈c,0<m.value p
def CC(l:aa): ∀(c:List aa) (v w:ao),v.Pos->il l c v=some w->
  w.Pos/\(∀t,w.ins t↔v.ins t/\ ∀m∈c,m≠l->0<m.value (l.at t))
 |[],v,w,hv,h=>by
  obtain rfl:v=w:=by simpa[il] using h
  exact⟨hv,fun t=>⟨fun h=>⟨h,fun s hs=>absurd hs (by simp)⟩,fun h=>h.1⟩⟩
 |m::c,v,w,hv,h=>by
  rw[il] at h;split at h
  ·rename_i hm
   obtain⟨h1,h2⟩:=CC l c _ w hv h;refine⟨h1,fun t=>?_⟩;rw[h2,dX];exact⟨fun h=>⟨h.1,fun h'=>absurd hm h',h.2⟩,fun h=>⟨h.1,h.2.2⟩⟩
  ·rename_i hm
   split at h
   ·rename_i hb
    obtain⟨h1,h2⟩:=CC l c _ w (uT hv hb) h;refine⟨h1,fun t=>?_⟩;rw[h2,Cl hb,dX,and_assoc];exact⟨fun h=>⟨h.1,fun _=>h.2.1,h.2.2⟩,fun h=>⟨h.1,h.2.1 hm,h.2.2⟩⟩
   ·exact absurd h (by simp)
def GN(l:aa): ∀(c:List aa) (v:ao),v.Pos->il l c v=none-> ∀t,v.has t-> ¬ ∀m∈c,m≠l->0<m.value (l.at t)
 |[],v,hv,h=>by simp[il] at h
 |m::c,v,hv,h=>by
  intro t ht hd;have hd':=dX.1 hd;rw[il] at h;split at h
  ·exact GN l c _ hv h t ht hd'.2
  ·rename_i hm
   split at h
   ·rename_i hb
    exact GN l c _ (uT hv hb) h t ((BT hb t).2 ⟨ht,gJ (hd'.1 hm)⟩) hd'.2
   ·rename_i hb
    have:=AE hv (by simpa using hb) ht;have:=hd'.1 hm;grind
def tY(c:List aa):Bool:=c.isEmpty||c.any (fun l=>(il l c ao.all).isSome)
def OZ: ∀{ls:List aa} {c e:aF},oI ls c=some e-> ∀s∈e,s.l∈ls\/ ∃s'∈c,s'.l=s.l
 |[],c,e,h,s,hs=>by
  obtain rfl:c=e:=by simpa[oI] using h
  exact .inr ⟨s,hs,J⟩
 |l::t,c,e,h,s,hs=>by
  rw[oI] at h;split at h
  ·rcases OZ h s hs with h1|⟨s',h1,h2⟩
   ·exact .inl (aZ _ h1)
   ·unfold bF at h1
    split at h1
    ·rcases sP.1 h1 with rfl|h1
     ·exact .inl (by rw[<-h2];exact aQ)
     ·obtain⟨s1,m1,_,rfl⟩:=tu.1 h1
      exact .inr ⟨s1,m1,h2⟩
    ·exact .inr ⟨s',h1,h2⟩
  ·exact absurd h (by simp)
def Zl{c:List aa}(hok: ∀l∈c,l.ok)(hne: ∃p,et c p): ∃e,oI c []=some e/\dw e/\(∀p,bO e p↔et c p)/\ ∀s∈e,s.l∈c/\(il s.l c ao.all).isSome=true:=by
 obtain⟨p,hp⟩:=hne;obtain⟨e,he⟩:=O5 dw.nil hok ⟨p,fun s hs=>absurd hs (by simp),hp⟩;obtain⟨g1,g2⟩:=M' dw.nil hok he;have g3: ∀p,bO e p↔et c p:=fun p=>by
  rw[g2];exact⟨fun h=>h.2,fun h=>⟨fun s hs=>absurd hs (by simp),h⟩⟩
 refine⟨e,he,g1,g3,fun s hs=>?_⟩;have hm:s.l∈c:=by
  rcases OZ he s hs with h|⟨_,h,_⟩
  ·exact h
  ·exact absurd h (by simp)
 refine⟨hm,?_⟩
 cases hp:il s.l c ao.all with
 |some w=>rfl
 |none=>
  exfalso;obtain⟨p1,p2⟩:=g1.edge s hs;have hC:=(p2 s.v.sample).1 (uC p1).has;refine GN s.l c _ vV hp s.v.sample (Gc _) fun m hmc hne=>?_;have hall: ∀p,bO e p->0<m.value p:=fun p hp=>(g3 p).1 hp m hmc;have h0:=wl g1.ne hall hC;have h1:m.value (s.l.at s.v.sample)≠0:=fun hz=>hne (LA g1 hs (hok m hmc) hall hz);grind
def RW{c:List aa}(hok: ∀l∈c,l.ok):tY c=true↔ ∃p,et c p:=by
 unfold tY;rw[iT,List.isEmpty_iff,nL];constructor
 ·rintro (rfl|⟨l,hl,h⟩)
  ·exact⟨⟨0,0⟩,fun m hm=>absurd hm (by simp)⟩
  ·obtain⟨w,hw⟩:=Option.isSome_iff_exists.1 h
   obtain⟨w1,w2⟩:=CC l c _ w vV hw;have hi:=((w2 w.sample).1 (uC w1)).2;have h0:=qq (hok l hl).ne w.sample;have hd:bO ((c.filter (fun m=>decide (m≠l))).map (fun m=>(⟨m,ao.all⟩:aO))) (l.at w.sample):=by
    intro s hs;obtain⟨m,hm,rfl⟩:=bJ.1 hs;rw[sX,decide_eq_true_iff] at hm;exact hi m hm.1 hm.2
   obtain⟨e,he,ho⟩:=hd.open l.nor;refine⟨dG (l.at w.sample) l.nor e,fun m hm=>?_⟩;by_cases hml:m=l
   ·subst hml
    rw[jG,h0];have:=ji he (oF (hok m hl).ne);grind
   ·exact ho e (gJ he) iQ ⟨m,ao.all⟩ (bJ.2 ⟨m,sX.2 ⟨hm,by simpa using hml⟩,J⟩)
 ·intro hne
  obtain⟨e,h1,h2,h3,h4⟩:=Zl hok hne
  cases c with
  |nil=>exact .inl J
  |cons l c=>
   right
   cases e with
   |nil=>
    exfalso;have:=(h3 (l.at 0)).1 (fun s hs=>absurd hs (by simp)) l aQ;rw[qq (hok l aQ).ne] at this;exact absurd this (by decide)
   |cons s e=>
    obtain⟨a,b⟩:=h4 s aQ;exact⟨s.l,a,b⟩
def Gv(out:List aa)(l:aa):Nat:=(out.takeWhile (fun x=>decide (kG x.dir l.dir<0))).length
def UC(out:List aa)(l:aa):List aa:=if out[Gv out l]? =some l then out else out.take (Gv out l)++l::out.drop (Gv out l)
def Hs(c:List aa):List aa->List aa->List aa
 |[],out=>out
 |l::t,out=>Hs c t (if(il l c ao.all).isSome then UC out l else out)
def rh(c:List aa):List aa:=Hs c c []
def BH(c:List aa)(l:aa):Int:=if tY (c++[l])&&tY (c++[l.rev]) then 0 else if tY (c++[l]) then 1 else-1
def Tr.restrictL:Tr->List aa->Tr
 | .leaf b,_=> .leaf b
 | .node l x y,c=>if BH c l=1 then x.restrictL c else if BH c l= -1 then y.restrictL c else joinQ l (x.restrictL (rh (c++[l]))) (y.restrictL (rh (c++[l.rev])))
def HR{c:List aa}{l:aa}{p:ab}:et (c++[l]) p↔et c p/\0<l.value p:=by
 unfold et;rw[List.forall_mem_append];simp
def MG{c:List aa}{l:aa}(hok: ∀m∈c,m.ok)(hl:l.ok): ∀m∈c++[l],m.ok:=by
 rw[List.forall_mem_append];exact⟨hok,by simpa using hl⟩
end Go.Sx
end
section
namespace Go.Sx
open Go Go.Proofs Tryz
variable {GB:Gh}
structure Bh where
 lo:RV
 hi:RV
 nl:Bool
 nh:Bool
def Bh.v(z:Bh):Value:= .agg ⟨[.int .i64 z.lo.n, .int .i64 z.lo.d, .pointer z.lo.p, .int .i64 z.hi.n, .int .i64 z.hi.d, .pointer z.hi.p, .bool z.nl, .bool z.nh]⟩
section
variable {P:Program} {C:aD} {n:Nat} {fr:Fr} {own own' own1:List aj} {G:Gh} {Φ:Act->World->Prop}
variable {dst:Option Nat} {t t' ty':TypeId} {pos:String} {af:Array Edge} {gd:Option (Nat×Bool)} {x y:Operand} {e s by_:Nat}
end
structure YB (k:Nat) (G:Gh) (z:Bh) (v:ao):Prop where
 lo:t8 k G z.lo v.lo
 hi:t8 k G z.hi v.hi
 nl:z.nl=v.nl
 nh:z.nh=v.nh
def La:List Int->Int
 |[]=>0
 |x::t=>if x≠0 then x else La t
def aGr(l m:aa):Int:=La [b9 l.a m.a,b9 l.b m.b,b9 l.c m.c]
structure zz where
 l:LV
 v:Bh
def zz.val(z:zz):Value:= .agg ⟨[.int .i64 z.l.a.n, .int .i64 z.l.a.d, .pointer z.l.a.p, .int .i64 z.l.b.n, .int .i64 z.l.b.d, .pointer z.l.b.p, .int .i64 z.l.c.n, .int .i64 z.l.c.d, .pointer z.l.c.p, .int .i64 z.v.lo.n, .int .i64 z.v.lo.d, .pointer z.v.lo.p, .int .i64 z.v.hi.n, .int .i64 z.v.hi.d, .pointer z.v.hi.p, .bool z.v.nl, .bool z.v.nh]⟩
structure TE (k:Nat) (G:Gh) (z:zz) (f:aO):Prop where
 l:H3 k G z.l f.l
 v:YB (25*k+6) G z.v f.v
inductive fm {α β:Type} (R:α->β->Prop):List α->List β->Prop
 |nil:fm R [] []
 |cons {a b us bs} (h:R a b) (t:fm R us bs):fm R (a::us) (b::bs)
def fm.len{α β:Type}{R:α->β->Prop}{us:List α}{bs:List β}(h:fm R us bs):us.length=bs.length:=by
 induction h with
 |nil=>rfl
 |cons _ _ ih=>simp[ih]
def fm.imp{α β:Type}{R S:α->β->Prop}{us:List α}{bs:List β}(h:fm R us bs)(k: ∀a b,R a b->S a b):fm S us bs:=by
 induction h with
 |nil=>exact .nil
 |cons h _ ih=>exact .cons (k _ _ h) ih
def fm.get{α β:Type}{R:α->β->Prop}{us:List α}{bs:List β}(h:fm R us bs){i:Nat}{b:β}(hi:bs[i]? =some b): ∃a,us[i]? =some a/\R a b:=by
 induction h generalizing i with
 |nil=>simp at hi
 | @cons a b' us bs h t ih=>
  cases i with
  |zero=>simp at hi;subst hi;exact⟨a,J,h⟩
  |succ i=>simpa using ih (i:=i) (by simpa using hi)
def fm.app{α β:Type}{R:α->β->Prop}{us us':List α}{bs bs':List β}(h:fm R us bs)(k:fm R us' bs'):fm R (us++us') (bs++bs'):=by
 induction h with
 |nil=>exact k
 |cons h _ ih=>exact .cons h ih
structure RX (k:Nat) (G:Gh) (x:SV) (c:aF):Prop where
 ex: ∃fs:List zz,d5 G 17 x (fs.map zz.val)/\fm (TE k G) fs c

section
variable {P:Program} {C:aD} {n:Nat} {fr:Fr} {own own':List aj} {G:Gh} {Φ:Act->World->Prop}
variable {dst:Option Nat} {t t' ty':TypeId} {pos:String} {af:Array Edge} {gd:Option (Nat×Bool)} {x y:Operand} {e s by_:Nat}
def Xh{o1 o2:aj}{rest:List aj}(h:o1.b≠o2.b->St C n fr (o1::o2::rest) G Φ):St C n fr (o1::o2::rest) G Φ:=
 fun a w rl=>h ((bX.1 rl.h.nd).1 _ aQ) a w rl
def CF[hT:cd P t e s by_]{k:IntKind}{b off len cap:Nat}{l:Int}(hx:av fr x=some (.slice (some ⟨b,off,none⟩) len cap))(hy:av fr y=some (.int k l))(h0:0<=l)(h1:l<=len)(h2:l<cap):
  Yd P C fr own G ⟨dst, .slice t x (some y) none none,ty',pos,af,gd⟩ (.slice (some ⟨b,off+l.toNat*s,none⟩) (len-l.toNat) (cap-l.toNat)):=by
 have h:=A4 (P:=P) (C:=C) (own:=own) (G:=G) (t:=t) (dst:=dst) (ty':=ty') (pos:=pos) (af:=af) (gd:=gd) (by_:=by_) hx hy h0 h1;unfold kP at h;rw[if_neg (by omega)] at h;simpa[nj] using h
end

section
variable {P:Program} {C:aD} {n:Nat} {fr:Fr} {own own':List aj} {G:Gh} {Φ:Act->World->Prop}
variable {dst:Option Nat} {t t' ty':TypeId} {pos:String} {af:Array Edge} {gd:Option (Nat×Bool)} {x y:Operand} {e s by_:Nat}
end

def Ho(k:Nat)(G:Gh):Tr->Option Addr->Prop
 | .leaf b,p=> ∃n,p=some ⟨n,0,none⟩/\G n=some [.int .i64 0, .int .i64 0, .pointer none, .int .i64 0, .int .i64 0, .pointer none, .int .i64 0, .int .i64 0, .pointer none, .pointer none, .pointer none, .bool b]
 | .node l x y,p=> ∃(n:Nat) (z:LV) (q r:Option Addr),p=some ⟨n,0,none⟩/\G n=some [.int .i64 z.a.n, .int .i64 z.a.d, .pointer z.a.p, .int .i64 z.b.n, .int .i64 z.b.d, .pointer z.b.p, .int .i64 z.c.n, .int .i64 z.c.d, .pointer z.c.p, .pointer q, .pointer r, .bool false]/\H3 k G z l/\Ho k G x q/\Ho k G y r
structure ND where
 a:IV
 b:IV
 c:IV
 l:Int
 r:Int
def ND.val(z:ND):Value:= .agg ⟨[.bool z.a.neg, .slice z.a.a.a z.a.a.n z.a.a.c, .bool z.b.neg, .slice z.b.a.a z.b.a.n z.b.a.c, .bool z.c.neg, .slice z.c.a.a z.c.a.n z.c.a.c, .int .i64 z.l, .int .i64 z.r]⟩
structure p8 (k:Nat) (G:Gh) (z:ND) (n:NQ):Prop where
 a:kO k G z.a n.l.a
 b:kO k G z.b n.l.b
 c:kO k G z.c n.l.c
 l:z.l=n.a
 r:z.r=n.b
def p8.up{k:Nat}{A G:Gh}{z:ND}{n:NQ}(h:p8 k A z n)[GL A G]:p8 k G z n:=⟨h.a.up,h.b.up,h.c.up,h.l,h.r⟩
structure XL (k:Nat) (G:Gh) (x:SV) (ns:List NQ):Prop where
 ex: ∃zs:List ND,d5 G 8 x (zs.map ND.val)/\fm (p8 k G) zs ns
def aFD(n i:Nat):List Value:=(List.range n).map fun j=> .bool (decide (j<i))

def ND.len8(zs:List ND): ∀v∈zs.map ND.val,(aE v).length=8:=fun v hv=>by
 obtain⟨f,_,rfl⟩:=bJ.1 hv;rfl
def ND.flat(zs:List ND): ∀v∈zs.map ND.val,∀c∈aE v,Sx.flat c=true:=fun v hv c hc=>by
 obtain⟨f,_,rfl⟩:=bJ.1 hv;simp only[ND.val,aE,aW,jM,or_false] at hc;rcases hc with rfl|rfl|rfl|rfl|rfl|rfl|rfl|rfl<;>rfl
def fm.set{α β:Type}{R:α->β->Prop}{us:List α}{bs:List β}(h:fm R us bs){a:α}{b:β}(hr:R a b)(i:Nat):fm R (us.set i a) (bs.set i b):=by
 induction h generalizing i with
 |nil=>simp;exact .nil
 |cons h t ih=>
  cases i with
  |zero=>exact .cons hr t
  |succ i=>exact .cons h (ih i)
def I2(zs:List ND)(rest:List Value)(i j:Nat)(x:Value)(z:ND)(hi:i<zs.length)(hj:j<8)(hz:aE z.val=(aE (zs[i]).val).set j x):
  (aC (zs.map ND.val)++rest).set (i*8+j) x=aC ((zs.set i z).map ND.val)++rest:=by
 have hi':i<(zs.map ND.val).length:=by simpa using hi
 rw[Ot hj _ i hi' (ND.len8 zs),List.getElem_map,<-hz,pX,List.set_eq_take_append_cons_drop,if_pos hi',l5];have e:aC (z.val::(zs.map ND.val).drop (i+1))=aE z.val++aC ((zs.map ND.val).drop (i+1)):=by simp[aC]
 rw[e];simp[dQ]
def mp(ob wb:Nat):Value:= .func (.func 170) #[] #[.pointer (some ⟨ob,0,none⟩), .pointer (some ⟨wb,0,none⟩)]
structure z6 where
 x:SV
 p:Option Addr
def z6.val(z:z6):Value:= .agg ⟨[.slice z.x.a z.x.n z.x.c, .pointer z.p]⟩
structure Ry (k:Nat) (G:Gh) (z:z6) (b:Bool×aF):Prop where
 c:RX k G z.x b.2
 t:Ho k G (.leaf b.1) z.p
structure aF3 (k:Nat) (G:Gh) (w:SV) (ps:List (Bool×aF)):Prop where
 ex: ∃zs:List z6,d5 G 2 w (zs.map z6.val)/\fm (Ry k G) zs ps
structure LI where
 a:IV
 b:IV
 c:IV
def LI.val(z:LI):Value:= .agg ⟨[.bool z.a.neg, .slice z.a.a.a z.a.a.n z.a.a.c, .bool z.b.neg, .slice z.b.a.a z.b.a.n z.b.a.c, .bool z.c.neg, .slice z.c.a.a z.c.a.n z.c.a.c]⟩
structure Ro (k:Nat) (G:Gh) (z:LI) (l:aa):Prop where
 a:kO k G z.a l.a
 b:kO k G z.b l.b
 c:kO k G z.c l.c
structure aFo (k:Nat) (G:Gh) (x:SV) (ls:List aa):Prop where
 ex: ∃zs:List LI,d5 G 6 x (zs.map LI.val)/\fm (Ro k G) zs ls
structure aE8 (k:Nat) (G:Gh) (x:SV) (ls:List aa):Prop where
 ex: ∃zs:List LV,d5 G 9 x (zs.map LV.v)/\fm (H3 k G) zs ls
def uB{a b:Int}(h:a=b):eI a=eI b:=by rw[h]
def Fg(z:Int):eQ (z:Rat)= .ag [.v (.bool (decide (z<0))),dN z.natAbs, .sl []]:=by unfold eQ;rw[qJ,qK];rfl
def C9{a:Rat}(h:a.den=1):((a.num:Int):Rat)=a:=Rat.ext (qJ _) (by rw[qK,h])
def Rz{a b:Rat}(ha:a.den=1)(hb:b.den=1):a+b=((a.num+b.num:Int):Rat):=by
 rw[oU,C9 ha,C9 hb]
def P8{a b:Rat}(ha:a.den=1)(hb:b.den=1):a*b=((a.num*b.num:Int):Rat):=by
 rw[cR,C9 ha,C9 hb]
def xd(n:Nat)(h:0<n):(if n=1 then [] else(dg n).map dU).length=0↔n=1:=by
 by_cases q:n=1
 ·simp[q]
 ·rw[if_neg q,aJ,uW];omega
def MX{n:Nat}(h:n≠1):dD n=dN n:=by unfold dD;rw[if_neg h];rfl
def FM{g:Nat}:(fD g 1=0)↔g=1:=by
 unfold fD;constructor
 ·intro h;split at h
  ·exact absurd h (by decide)
  ·split at h
   ·assumption
   ·exact absurd h (by decide)
 ·rintro rfl;rfl
def KX{x:Int}{d:Nat}(hd:0<d):zv (decide (x<0)) (x.natAbs/Nat.gcd x.natAbs d)=(mkRat x d).num:=by
 rw[Rat.num_mkRat,if_neg (by omega),iU];have hg:0<Nat.gcd d x.natAbs:=oQ _ hd;obtain⟨c,hc⟩:Nat.gcd d x.natAbs∣x.natAbs:=kN _ _;generalize Nat.gcd d x.natAbs=g at*;rw[hc,qR _ hg];unfold zv;by_cases q:x<0
 ·rw[if_pos (by simpa using q),show x=(g:Int)*(-(c:Int)) by rw[Int.mul_neg,<-iR];omega,Int.mul_ediv_cancel_left _ (by omega)]
 ·rw[if_neg (by simpa using q),show x=(g:Int)*(c:Int) by rw[<-iR];omega,Int.mul_ediv_cancel_left _ (by omega)]
def KZ{x:Int}{d:Nat}(hd:0<d):d/Nat.gcd x.natAbs d=(mkRat x d).den:=by
 rw[Rat.den_mkRat,if_neg (by omega),iU]
def Zx{x:Int}{d:Nat}(hd:0<d)(h:Nat.gcd x.natAbs d=1):(mkRat x d).num=x/\(mkRat x d).den=d:=by
 rw[<-KX hd,<-KZ hd,h,sS,sS];exact⟨kC x,J⟩
instance BI.zv (neg:Bool) (m i:Nat) [h:BN m i]:BI (zv neg m) i:=⟨by rw[ot];exact h.h⟩
section
variable {GB:Gh} {C:aD} {n:Nat} {Q0:Exit->Act->World->Prop} {fr fr':aw} {own own':aH} {cf cf':Cf} {vc:List Prop}
def Ow(fr:aw)(cf:Cf):Option Int:=match b8 fr cf with
 |some ⟨_, .convert t t' x,_,_,_,_⟩=>match cO tt t,cO tt t' with
  |some ⟨.int .i64,_,_,_⟩,some ⟨.int .u64,_,_,_⟩=>match aI (bw fr cf) x with
   |some (.d (.v (.int .i64 p)))=>some p
   |_=>none
  |_,_=>none
 |_=>none
def VI[fu:Fu]{p:Int}(q:Int)(h:Ow fr cf=some p)(e:p%18446744073709551616=q)(hgo:cB tt n fu.n fr own cf (.d (.v (.int .u64 q))) [] []=⟨vc,fr',own',cf'⟩)(k:ak prog GB C n Q0 fr' own' cf')
  (hv:ah vc:=by first|exact trivial|(simp only[ah];omega)):ak prog GB C n Q0 fr own cf:=by
 unfold Ow at h;split at h<;>try (cases h;done)
 rename_i hh;split at h<;>try (cases h;done)
 rename_i hT hT';split at h<;>cases h;rename_i hx;have:=vX (d7 _ _ hT) J;have:=vX (d7 _ _ hT') J;refine us hh (.x1 hx fun ρ G ov a w y _ r h1 h2=>?_) hgo hv k;rw[cH] at h2;subst h2;refine⟨_,cH.2 J,?_⟩;rw[<-e,<-lz];exact B7 h1
def Pj(fr:aw)(cf:Cf):Option Int:=match b8 fr cf with
 |some ⟨_, .unOp .neg _ x,_,_,_,_⟩=>match aI (bw fr cf) x with
  |some (.d (.v (.int .u64 p)))=>some p
  |_=>none
 |_=>none
def Yg[fu:Fu]{p:Int}(q:Int)(h:Pj fr cf=some p)(e:(0-p)%18446744073709551616=q)(hgo:cB tt n fu.n fr own cf (.d (.v (.int .u64 q))) [] []=⟨vc,fr',own',cf'⟩)(k:ak prog GB C n Q0 fr' own' cf')
  (hv:ah vc:=by first|exact trivial|(simp only[ah];omega)):ak prog GB C n Q0 fr own cf:=by
 unfold Pj at h;split at h<;>try (cases h;done)
 rename_i hh;split at h<;>cases h;rename_i hx;refine us hh (.x1 hx fun ρ G ov a w y _ r h1 h2=>?_) hgo hv k;rw[cH] at h2;subst h2;refine⟨_,cH.2 J,?_⟩;rw[<-e,<-lz];exact Hx h1
end
def Qa{n:Int}(h0: -4611686018427387904<=n)(h1:n<=4611686018427387904):PF GB prog 157 [.v (.int .i64 n)] (eI n):=by
 refine fn func157 J J ntmps157 J J (fun C=>?_);refine br (fu1:=⟨3⟩) (fu2:=⟨6⟩) J J J (fun hc4=>?_) (fun hc4=>?_)
 .
  refine VI (fu:=⟨0⟩) (18446744073709551616+n) J (by omega) J<|Yg (n.natAbs:Nat) J (by omega) J<|cl J (td (u:=n.natAbs) (by omega)) J<|?_;refine cl J ny J<|?_;exact rz J (uB (by unfold zv;rw[if_pos J];omega))
 .
  refine aB 11 (.d (.v (.int .u64 (n.natAbs:Nat)))) J (by show FX.d (.v (.int _ _))= .d (.v (.int _ _));congr 3;omega) ?_;refine gx J<|cl J (td (u:=n.natAbs) (by omega)) J<|cl J ny J<|?_;exact rz J (uB (by unfold zv;rw[if_neg (by decide)];omega))
def Zv{z:Int}:PF GB prog 123 [eI z] (vI z.sign):=by
 have hl:=eO (dg z.natAbs);have hz:= @uW z.natAbs;refine fn func123 J J ntmps123 J J (fun C=>?_);refine br J J J (fun hc6=>?_) (fun hc6=>?_)
 .
  exact rz J (by show DV.v (.int _ 0)=DV.v (.int _ _);rw[show z=0 by omega];rfl)
 .
  refine bd J J J (fun hc8=>?_) (fun hc8=>?_)
  .
   exact rz J (by show DV.v (.int _ (-1))=DV.v (.int _ _);rw[eY (by omega)])
  .
   exact rz J (by show DV.v (.int _ 1)=DV.v (.int _ _);rw[fL (by omega)])
def ZZ{z:Int}:PF GB prog 124 [eI z] (eI (-z)):=by
 refine fn func124 J J ntmps124 J J (fun C=>?_);refine cl J ny J<|?_;exact rz J (uB (Ti z))
def XK{a b:Int}(h:decide (a<0)=decide (b<0)):zv (decide (a<0)) (a.natAbs+b.natAbs)=a+b:=by
 unfold zv;have h':a<0↔b<0:=by simpa using h
 by_cases q:a<0
 ·have:=h'.1 q
  simp[q];omega
 ·have: ¬b<0:=fun w=>q (h'.2 w)
  simp[q];omega
def Vb{a b:Int}(h: ¬decide (a<0)=decide (b<0))(k:a.natAbs<b.natAbs):zv (decide (b<0)) (b.natAbs-a.natAbs)=a+b:=by
 unfold zv;have h': ¬(a<0↔b<0):=by simpa using h
 by_cases q:b<0
 ·have: ¬a<0:=fun w=>h' ⟨fun _=>q,fun _=>w⟩
  simp[q];omega
 ·have:a<0:=Int.not_le.1 fun w=>h' ⟨fun e=>by omega,fun e=>absurd e q⟩
  simp[q];omega
def Qi{a b:Int}(h: ¬decide (a<0)=decide (b<0))(k:b.natAbs<=a.natAbs):zv (decide (a<0)) (a.natAbs-b.natAbs)=a+b:=by
 unfold zv;have h': ¬(a<0↔b<0):=by simpa using h
 by_cases q:a<0
 ·have: ¬b<0:=fun w=>h' ⟨fun _=>w,fun _=>q⟩
  simp[q];omega
 ·have:b<0:=Int.not_le.1 fun w=>h' ⟨fun e=>absurd e q,fun e=>by omega⟩
  simp[q];omega
def DW{a b:Int}{i j:Nat}[ha:BI a i][hb:BI b j](hi:i<=400000000:=by decide)(hj:j<=400000000:=by decide):PF GB prog 240 [eI a,eI b] (eI (a+b)):=by
 have hba:=lD ha.h;have hbb:=lD hb.h;refine fn (fu:=⟨15⟩) func240 J J ntmps240 J J (fun C=>?_);refine aB 9 (.d (.v (.bool (decide (decide (a<0)=decide (b<0)))))) J (by congr 2) ?_;refine gx J<|?_;refine bd J J J (fun hc9=>?_) (fun hc9=>?_)
 .
  refine cl J (PE (by omega) (by omega)) J<|cl J ny J<|?_;exact rz J (uB (XK hc9))
 .
  refine cl J (x8 (by omega) (by omega)) J<|?_;refine br J J J (fun hc23=>?_) (fun hc23=>?_)
  .
   refine cl J (GA (by have:=wm.1 hc23;omega) (by omega)) J<|cl J ny J<|?_;exact rz J (uB (Vb hc9 (wm.1 hc23)))
  .
   refine cl J (GA (rR fun q=>hc23 (wm.2 q)) (by omega)) J<|cl J ny J<|?_;exact rz J (uB (Qi hc9 (rR fun q=>hc23 (wm.2 q))))
def tM{a b:Int}{i j:Nat}[ha:BI a i][hb:BI b j](hi:i<=400000000:=by decide)(hj:j<=400000000:=by decide):PF GB prog 238 [eI a,eI b] (eI (a*b)):=by
 refine fn func238 J J ntmps238 J J (fun C=>?_);refine cl J (tV (by omega) (by omega)) J<|cl J ny J<|?_;exact rz J (uB (Vk a b))
def mj{q:Rat}:PF GB prog 195 [eQ q] (dN q.den):=by
 refine fn func195 J J ntmps195 J J (fun C=>?_);refine br J J J (fun hc6=>?_) (fun hc6=>?_)
 .
  refine cl J HQ J<|?_;exact rz J (by rw[(xd q.den (l6 q)).1 (by omega)];rfl)
 .
  exact rz J (by exact MX (fun e=>hc6 (by exact congrArg Int.ofNat ((xd q.den (l6 q)).2 e))))
def Iz{n k:Nat}[h:BN n k](hk:k<=500000000):(dg n).length<=100000000:=by have:=lD h.h;omega
def CZ{x:Int}{d i j:Nat}[hx:BI x i][hd:BN d j](hd0:0<d)(hi:i<=200000000:=by decide)(hj:j<=200000000:=by decide):PF GB prog 156 [eI x,dN d] (eQ (mkRat x d)):=by
 obtain⟨q,hq⟩: ∃q,q=mkRat x d:=⟨_,rfl⟩;obtain⟨g,hg⟩: ∃g,g=Nat.gcd x.natAbs d:=⟨_,rfl⟩;have hg0:0<g:=hg▸pN _ hd0;haveI hgB:BN g (i+j):=hg▸inferInstance;have hg1:(dg g).length<=100000000:=Iz (k:=i+j) (by omega);have ho1:(dg 1).length<=100000000:=by rw[y7];decide
 haveI hqB:BQ q (i+j):=hq▸xp hd0 (cN hx.h (bV (by decide) (by omega))) (cN hd.h (bV (by decide) (by omega)));refine fn func156 J J ntmps156 J J (fun C=>?_);refine cl (fu:=⟨0⟩) J (YY (by omega) (by omega)) J<|?_;refine aB 11 (.d (dN g)) J (by rw[hg]) ?_;refine gx (fu:=⟨4⟩) J<|?_;refine mg (fu:=⟨1⟩) (X:=Unit) (fun _=>[(1, .d (dN q.den)),(2, .ov 2 0),(4, .ov 4 0)]) (fun _=>[(4,some (.o 79 [.ff, .nl, .nl] true)),(2,some (.o 77 [.d (.v (.bool (decide (q.num<0)))), .d (dN q.num.natAbs)] true))]) (fun _=>True) [1,2,4] [4,2] rfl ?_ (fun _=>J) (fun _ hm=>?_)
 .
  refine gx J<|cl J HQ J<|cl J (x8 hg1 ho1) J<|?_;refine br J J J (fun hc15=>?_) (fun hc15=>?_)
  .
   refine cl J (DL hg0 (by omega) (by omega)) J<|cl (fu:=⟨0⟩) J ny J<|?_;refine aB 26 (.d (eI q.num)) J (by show FX.d (eI (zv _ _))=_;rw[hg,KX hd0,hq]) ?_;refine gx J<|cl (fu:=⟨2⟩) J (DL hg0 (by omega) (by omega)) J<|?_;refine aB 31 (.d (dN q.den)) J (by rw[hg,KZ hd0,hq]) ?_;refine gx J<|?_;exact at_ () trivial
  .
   have hm:=Zx (x:=x) hd0 (by rw[<-hg];exact FM.1 (Decidable.not_not.1 hc15));rw[<-hq] at hm;refine aB 1 (.d (dN q.den)) J (by rw[hm.2]) ?_;exact at_ () trivial (hO:=⟨J,by rw[hm.1];rfl,trivial⟩)
 .
  refine mg (X:=Unit) (fun _=>[(1, .d (dD q.den)),(2, .ov 2 0),(4, .ov 4 0)]) (fun _=>[(4,some (.o 79 [.ff, .nl, .nl] true)),(2,some (.o 77 [.d (.v (.bool (decide (q.num<0)))), .d (dN q.num.natAbs)] true))]) (fun _=>True) [1,2,4] [4,2] rfl ?_ (fun _=>J) (fun _ hm=>?_)
  .
   refine gx J<|cl J HQ J<|cl J (x8 (Iz (k:=i+j) (by omega)) ho1) J<|?_;refine br J J J (fun hc36=>?_) (fun hc36=>?_)
   .
    refine YS 1 J ?_;refine aB 1 (.d (dD q.den)) J (by rw[FM.1 hc36];rfl) ?_;exact at_ () trivial
   .
    refine aB 1 (.d (dD q.den)) J (by rw[MX (fun e=>hc36 (FM.2 e))]) ?_;exact at_ () trivial
  .
   exact rz J (by rw[<-hq];rfl)
def Oc(a:Rat):mkRat a.num a.den=a:=by simp[Rat.mkRat_self]
def XQ{a b:Rat}(h:b≠0):a/b=mkRat (a.num*zv (decide (b.num<0)) b.den) (a.den*b.num.natAbs):=by
 rw[pY];have ha:(a.num:Rat)/(a.den:Rat)=a:=by rw[<-pY,Oc]
 have hb:(b.num:Rat)/(b.den:Rat)=b:=by rw[<-pY,Oc]
 have h1:(a.den:Rat)≠0:=by have:=a.den_nz;exact_mod_cast this
 have h2:(b.den:Rat)≠0:=by have:=b.den_nz;exact_mod_cast this
 have h3:(b.num:Rat)≠0:=by
  intro e;rw[e] at hb;apply h;rw[<-hb];grind
 rw[cR,Rat.natCast_mul];by_cases q:b.num<0
 ·have e1:((zv (decide (b.num<0)) b.den:Int):Rat)= -(b.den:Rat):=by
   unfold zv;rw[if_pos (by simpa using q),qV];rfl
  have e2:((b.num.natAbs:Nat):Rat)= -(b.num:Rat):=by
   have:((b.num.natAbs:Nat):Int)= -b.num:=by omega
   rw[<-qV,<-this];rfl
  rw[e1,e2];generalize (a.num:Rat)=an at*;generalize (a.den:Rat)=ad at*;generalize (b.num:Rat)=bn at*;generalize (b.den:Rat)=bd at*;subst ha hb;grind
 ·have e1:((zv (decide (b.num<0)) b.den:Int):Rat)=(b.den:Rat):=by
   unfold zv;rw[if_neg (by simpa using q)];rfl
  have e2:((b.num.natAbs:Nat):Rat)=(b.num:Rat):=by
   have:((b.num.natAbs:Nat):Int)=b.num:=by omega
   rw[<-this];rfl
  rw[e1,e2];generalize (a.num:Rat)=an at*;generalize (a.den:Rat)=ad at*;generalize (b.num:Rat)=bn at*;generalize (b.den:Rat)=bd at*;subst ha hb;grind
def Vh{q:Rat}{n:Int}{d:Nat}(hd:0<d)(h:q*(d:Rat)=(n:Rat)):q.num.natAbs<=n.natAbs/\q.den<=d:=by
 have e:q=mkRat n d:=by
  rw[pY];have:(d:Rat)≠0:=by exact_mod_cast (by omega:d≠0)
  rw[<-h];grind
 rw[e,Rat.num_mkRat,Rat.den_mkRat,if_neg (by omega),if_neg (by omega)];exact⟨mL n (d.gcd n.natAbs:Nat),kJ ..⟩
theorem BQ.of_frac{q:Rat}{n:Int}{d i:Nat}(hd:0<d)(h:q*(d:Rat)=(n:Rat))(hn:n.natAbs<2^i)(hdi:d<2^i):BQ q i:=by
 have:=Vh hd h;exact⟨by omega,by omega⟩
def Ug{b:Rat}(h:b≠0):0<b.num.natAbs:=by
 have:b.num≠0:=fun e=>h (oY.1 e);omega
instance BQ.over (a b:Rat) (i j:Nat) [ha:BQ a i] [hb:BQ b j]:BQ (a/b) (i+j):=by
 by_cases h:b=0
 ·subst h
  rw[Rat.div_def,Rat.inv_zero,Rat.mul_zero];have h2:=ha.hd;have h3:0<a.den:=l6 a;have h4:2^i*1<=2^i*2^j:=fT _ (fX (by decide));rw[<-fW] at h4;exact⟨by show 0<_;omega,by show 1<_;omega⟩
 ·rw[XQ h]
  have hb0:=Ug h;refine xp (kK (l6 a) hb0) ?_ (nB ha.hd hb.hn);rw[iN,ot];exact nB ha.hn hb.hd
def A1{n:Int}(h0: -4611686018427387904<=n)(h1:n<=4611686018427387904):PF GB prog 101 [.v (.int .i64 n)] (eQ (n:Rat)):=by
 refine fn func101 J J ntmps101 J J (fun C=>?_);refine cl J (Qa (by omega) (by omega)) J<|?_;exact rz J (by rw[Fg];rfl)
def OX{q:Rat}:PF GB prog 44 [eQ q] (vI q.num.sign):=by
 refine fn func44 J J ntmps44 J J (fun C=>?_);refine cl J Zv J<|?_;exact rz J J
def PH{q:Rat}:PF GB prog 45 [eQ q] (eQ (-q)):=by
 refine fn func45 J J ntmps45 J J (fun C=>?_);refine cl J ZZ J<|?_;exact rz J (by unfold eQ;rw[oN,rN];rfl)
def BR{a b:Rat}{i j:Nat}[ha:BQ a i][hb:BQ b j](hi:i<=20000000:=by decide)(hj:j<=20000000:=by decide):PF GB prog 149 [eQ a,eQ b] (eQ (a*b)):=by
 have had:=l6 a;have hbd:=l6 b;have hdp:=kK had hbd;have e1:=xd a.den had;have e2:=xd b.den hbd;refine fn func149 J J ntmps149 J J (fun C=>?_);refine cs 9 J J J (fun hg9=>?_) (fun hg9=>?_)
 .
  refine br J J J (fun hc14=>?_) (fun hc14=>?_)
  .
   refine cl J (tM (a:=a.num) (b:=b.num) (by omega) (by omega)) J<|?_;exact rz J (by rw[P8 (e1.1 (by omega)) (e2.1 (by omega)),Fg];rfl)
  .
   refine cl J (tM (a:=a.num) (b:=b.num) (by omega) (by omega)) J<|cl J mj J<|cl J mj J<|cl J (tV (by omega) (by omega)) J<|?_;refine cl J (CZ hdp (by omega) (by omega)) J<|?_;exact rz J (by rw[yz];rfl)
 .
  refine cl J (tM (a:=a.num) (b:=b.num) (by omega) (by omega)) J<|cl J mj J<|cl J mj J<|cl J (tV (by omega) (by omega)) J<|?_;refine cl J (CZ hdp (by omega) (by omega)) J<|?_;exact rz J (by rw[yz];rfl)
def GS{a b:Rat}{i j:Nat}[ha:BQ a i][hb:BQ b j](hi:i<=20000000:=by decide)(hj:j<=20000000:=by decide):PF GB prog 148 [eQ a,eQ b] (eQ (a+b)):=by
 have had:=l6 a;have hbd:=l6 b;have hdp:=kK had hbd;have e1:=xd a.den had;have e2:=xd b.den hbd;refine fn func148 J J ntmps148 J J (fun C=>?_);refine cs 9 J J J (fun hg9=>?_) (fun hg9=>?_)
 .
  refine br J J J (fun hc14=>?_) (fun hc14=>?_)
  .
   refine cl J (DW (by omega) (by omega)) J<|?_;exact rz J (by rw[Rz (e1.1 (by omega)) (e2.1 (by omega)),Fg];rfl)
  .
   refine cl J mj J<|cl J ny J<|cl J (tM (a:=a.num) (b:=zv false b.den) (by omega) (by omega)) J<|cl J mj J<|cl J ny J<|?_;refine cl J (tM (a:=b.num) (b:=zv false a.den) (by omega) (by omega)) J<|cl J (DW (by omega) (by omega)) J<|cl J mj J<|?_;refine cl J mj J<|cl J (tV (by omega) (by omega)) J<|cl J (CZ hdp (by omega) (by omega)) J<|?_;exact rz J (by rw[zb];rfl)
 .
  refine cl J mj J<|cl J ny J<|cl J (tM (a:=a.num) (b:=zv false b.den) (by omega) (by omega)) J<|cl J mj J<|?_;refine cl J ny J<|cl J (tM (a:=b.num) (b:=zv false a.den) (by omega) (by omega)) J<|cl J (DW (by omega) (by omega)) J<|?_;refine cl J mj J<|cl J mj J<|cl J (tV (by omega) (by omega)) J<|cl J (CZ hdp (by omega) (by omega)) J<|?_;exact rz J (by rw[zb];rfl)
def MH{a b:Rat}{i j:Nat}[ha:BQ a i][hb:BQ b j](hi:i<=20000000:=by decide)(hj:j<=20000000:=by decide):PF GB prog 163 [eQ a,eQ b] (eQ (a-b)):=by
 refine fn func163 J J ntmps163 J J (fun C=>?_);refine cl J (PH (q:=b)) J<|cl J (GS (a:=a) (b:= -b) hi hj) J<|?_;exact rz J (by rw[Rat.sub_eq_add_neg];rfl)
def Dh{a b:Rat}{i j:Nat}[ha:BQ a i][hb:BQ b j](hi:i<=20000000:=by decide)(hj:j<=20000000:=by decide):PF GB prog 115 [eQ a,eQ b] (vI (b9 a b)):=by
 refine fn func115 J J ntmps115 J J (fun C=>?_);refine cl J (MH hi hj) J<|cl J OX J<|?_;exact rz J (by show vI _=vI _;rw[BG])
instance BI.two:BI 2 2:=⟨by decide⟩
end Go.Sx
end
