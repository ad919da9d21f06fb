import Derived.Test.YtidmgdlbilojcaaGreatDoorMb4
import Derived.Laws.Externs
import Derived.Lib.Overlaps
set_option linter.all false
set_option maxRecDepth 100000
section
namespace Go.Sx
open Go
def iG(l:aa)(p:ab):l.value p=(l.a:Rat)*p.x+(l.b:Rat)*p.y+(l.c:Rat):=rfl
def fh(l:aa)(p:ab):l.rev.value p= -l.value p:=by
 rw[iG,iG];have h1:((l.rev.a:Int):Rat)= -(l.a:Rat):=(JB l.a).symm;have h2:((l.rev.b:Int):Rat)= -(l.b:Rat):=(JB l.b).symm;have h3:((l.rev.c:Int):Rat)= -(l.c:Rat):=(JB l.c).symm;rw[h1,h2,h3];grind
def bj(q p:ab)(e:Rat):ab:=⟨q.x+e*(p.x-q.x),q.y+e*(p.y-q.y)⟩
def nO(l:aa)(q p:ab)(e:Rat):l.value (bj q p e)=l.value q+e*(l.value p-l.value q):=by
 simp only[iG,bj];grind
def bF(q u:ab)(e:Rat):ab:=⟨q.x+e*u.x,q.y+e*u.y⟩
def gv(l:aa)(q u:ab)(e:Rat):l.value (bF q u e)=l.value q+e*l.nor.dot u:=by
 simp only[iG,bF,aa.nor,ab.dot];grind
def bO{a b:Rat}(ha:0<a)(hb:0<b):0<a*b:=Rat.mul_pos ha hb
def cD{a b:Rat}(ha:0<=a)(hb:0<=b):0<=a*b:=pJ ha hb
def sF(a:Rat):0<=a*a:=by
 by_cases h:0<=a
 ·exact cD h h
 ·have:=cD (a:= -a) (b:= -a) (by grind) (by grind)
  grind
def gy{s k:Rat}(hk:0<k):0<s*k↔0<s:=by
 constructor
 ·intro h
  by_cases hs:0<s
  ·exact hs
  ·have:=cD (a:= -s) (b:=k) (by grind) (by grind)
   grind
 ·intro h;exact bO h hk
def kw{s k:Rat}(hk:0<k):0<=s*k↔0<=s:=by
 constructor
 ·intro h
  by_cases hs:0<=s
  ·exact hs
  ·have:=bO (a:= -s) (b:=k) (by grind) hk
   grind
 ·intro h;exact cD h (by grind)
def JY{A B u v:Rat}(h0:0<=A)(h1:0<=A+v*B)(hu:0<=u)(huv:u<=v):0<=A+u*B:=by
 by_cases hB:0<=B
 ·have:=cD hu hB;grind
 ·have:=cD (a:=v-u) (b:= -B) (by grind) (by grind)
  grind
def aa.Ne(l:aa):Prop:= ¬(l.a=0/\l.b=0)
def aa.ok.ne{l:aa}(h:l.ok):l.Ne:=h.1
def sv{l:aa}(h:l.Ne):0<l.nor.dot l.nor:=by
 show 0<(l.a:Rat)*l.a+(l.b:Rat)*l.b;have h1:=sF (l.a:Rat);have h2:=sF (l.b:Rat);by_cases ha:l.a=0
 ·have hb:l.b≠0:=fun hb=>h ⟨ha,hb⟩
  have hb':(l.b:Rat)≠0:=fun e=>hb (dV.1 e);have:(l.b:Rat)*l.b≠0:=by grind
  grind
 ·have ha':(l.a:Rat)≠0:=fun e=>ha (dV.1 e)
  have:(l.a:Rat)*l.a≠0:=by grind
  grind
def BT{l:aa}(h:l.Ne): ∃q:Rat,l.nor.dot l.nor*q= -(l.c:Rat)/\l.base=⟨(l.a:Rat)*q,(l.b:Rat)*q⟩:=by
 refine⟨-(l.c:Rat)/l.nor.dot l.nor,?_,J⟩;have:=sv h;grind
def j'(l m:aa)(t:Rat):m.value (l.at t)=l.cutC m+t*l.cutK m:=by
 simp only[aa.cutC,aa.cutK,iG,aa.at,ab.add,ab.scale,aa.dir,aa.nor,ab.dot];grind
def lm{l:aa}(h:l.Ne)(t:Rat):l.value (l.at t)=0:=by
 obtain⟨q,h1,h2⟩:=BT h;simp only[iG,aa.at,h2,ab.add,ab.scale,aa.dir];simp only[aa.nor,ab.dot] at h1;grind
def zz{l:aa}(h:l.Ne){p:ab}(hp:l.value p=0): ∃t,p=l.at t:=by
 obtain⟨q,h1,h2⟩:=BT h;have hn:=sv h;obtain⟨x,y⟩:=p;rw[iG] at hp;simp only[aa.nor,ab.dot] at h1 hn;refine⟨((l.b:Rat)*x-(l.a:Rat)*y)/((l.a:Rat)*l.a+(l.b:Rat)*l.b),?_⟩;generalize ht:((l.b:Rat)*x-(l.a:Rat)*y)/((l.a:Rat)*l.a+(l.b:Rat)*l.b)=t;have ht':((l.a:Rat)*l.a+(l.b:Rat)*l.b)*t=(l.b:Rat)*x-(l.a:Rat)*y:=by grind
 simp only[aa.at,h2,ab.add,ab.scale,aa.dir,ab.mk.injEq];generalize (l.a:Rat)=a at*;generalize (l.b:Rat)=b at*;generalize (l.c:Rat)=c at*;have e1:(a*a+b*b)*(x-(a*q+b*t))=0:=by grind
 have e2:(a*a+b*b)*(y-(b*q+ -a*t))=0:=by grind
 constructor<;>grind
def ah.has(v:ah)(t:Rat):Prop:=(v.nl=true\/v.lo<=t)/\(v.nh=true\/t<=v.hi)
def ah.ins(v:ah)(t:Rat):Prop:=(v.nl=true\/v.lo<t)/\(v.nh=true\/t<v.hi)
def ah.Pos(v:ah):Prop:=v.nl=true\/v.nh=true\/v.lo<v.hi
def apa(a b:Rat):0<=bg a b↔b<=a:=by
 unfold bg;split
 ·constructor
  ·intro h;exact absurd h (by decide)
  ·intro h;grind
 ·split
  ·constructor
   ·intro _;grind
   ·intro _;decide
  ·constructor
   ·intro _;grind
   ·intro _;decide
def Fy(v:ah):v.empty=false↔v.Pos:=by
 obtain⟨lo,hi,nl,nh⟩:=v;unfold ah.empty ah.Pos
 cases nl<;>cases nh<;>simp[apa]
 first|exact Rat.not_le|grind
def ah.ins.has{v:ah}{t:Rat}(h:v.ins t):v.has t:=by
 obtain⟨h1,h2⟩:=h;exact⟨h1.imp id (fun h=>dQ h),h2.imp id (fun h=>dQ h)⟩
def K4:mkRat 1 2=(1:Rat)/2:=by rw[pK];rfl
def po{v:ah}(h:v.Pos):v.ins v.sample:=by
 obtain⟨lo,hi,nl,nh⟩:=v;unfold ah.Pos at h;unfold ah.ins ah.sample;rw[K4]
 cases nl<;>cases nh<;>simp at* <;>grind
def SB(v w:ah)(t:Rat):(v.meet w).has t↔v.has t/\w.has t:=by
 obtain⟨lo,hi,nl,nh⟩:=v;obtain⟨lo',hi',nl',nh'⟩:=w;unfold ah.has ah.meet
 cases nl<;>cases nh<;>cases nl'<;>cases nh'<;>simp<;>grind
def L7(v w:ah)(t:Rat):(v.meet w).ins t↔v.ins t/\w.ins t:=by
 obtain⟨lo,hi,nl,nh⟩:=v;obtain⟨lo',hi',nl',nh'⟩:=w;unfold ah.ins ah.meet
 cases nl<;>cases nh<;>cases nl'<;>cases nh'<;>simp<;>grind
def KS(t:Rat):ah.all.has t:=⟨.inl J, .inl J⟩
def XE(t:Rat):ah.all.ins t:=⟨.inl J, .inl J⟩
def x9:ah.all.Pos:= .inl J
def ll(k:Rat):Int.sign k.num=0↔k=0:=by rw[jU,mT]
def Ie(k:Rat):0<k.num↔0<k:=by
 have h1:0<=k.num↔0<=k:=Rat.num_nonneg;have h2:k.num=0↔k=0:=mT;constructor
 ·intro h
  have a:=h1.1 (by omega);have b:k≠0:=fun e=>by have:=h2.2 e;omega
  grind
 ·intro h
  have a:=h1.2 (by grind);have b:k.num≠0:=fun e=>by have:=h2.1 e;grind
  omega
def oo(k:Rat):Int.sign k.num=1↔0<k:=by rw[Int.sign_eq_one_iff_pos,Ie]
def kH(k:Rat):0<Int.sign k.num↔0<k:=by
 rw[<-oo];rcases lU k.num 0 with h|h|h
 ·rw[fK h];decide
 ·rw[h];decide
 ·rw[fW h];decide
def sC(k:Rat):Int.sign k.num<0↔k<0:=by
 have h1:=ll k;have h2:=kH k;constructor
 ·intro h
  by_cases hk:0<k
  ·have:=h2.2 hk;omega
  ·by_cases h0:k=0
   ·have:=h1.2 h0;omega
   ·grind
 ·intro h
  have a1: ¬Int.sign k.num=0:=fun e=>by have:=h1.1 e;grind
  have a2: ¬0<Int.sign k.num:=fun e=>by have:=h2.1 e;grind
  omega
def Bs{l m:aa}(v:ah)(hk:l.cutK m=0):l.cutV v m=v/\(l.cutB v m=true↔0<l.cutC m):=by
 have h:=(ll (l.cutK m)).2 hk;unfold aa.cutV aa.cutB;rw[if_pos h,if_pos h,decide_eq_true_iff,kH];exact⟨J,Iff.rfl⟩
def BU{l m:aa}(v:ah)(hk:0<l.cutK m):l.cutV v m=v.meet ⟨-(l.cutC m/l.cutK m),0,false,true⟩/\(l.cutB v m=true↔(l.cutV v m).Pos):=by
 have h0: ¬Int.sign (l.cutK m).num=0:=fun e=>by have:=(ll _).1 e;grind
 have h1:=(oo (l.cutK m)).2 hk;constructor
 ·unfold aa.cutV;rw[if_neg h0,if_pos h1]
 ·unfold aa.cutB;rw[if_neg h0,<-Fy];simp
def Bt{l m:aa}(v:ah)(hk:l.cutK m<0):l.cutV v m=v.meet ⟨0, -(l.cutC m/l.cutK m),true,false⟩/\(l.cutB v m=true↔(l.cutV v m).Pos):=by
 have h0: ¬Int.sign (l.cutK m).num=0:=fun e=>by have:=(ll _).1 e;grind
 have h1: ¬Int.sign (l.cutK m).num=1:=fun e=>by have:=(oo _).1 e;grind
 constructor
 ·unfold aa.cutV;rw[if_neg h0,if_neg h1]
 ·unfold aa.cutB;rw[if_neg h0,<-Fy];simp
def V6{C K t:Rat}(hk:0<K): -(C/K)<=t↔0<=C+t*K:=by
 have e:C=C/K*K:=by grind
 generalize C/K=d at*;rw[e,show d*K+t*K=(d+t)*K from by grind,kw hk];grind
def Ra{C K t:Rat}(hk:0<K): -(C/K)<t↔0<C+t*K:=by
 have e:C=C/K*K:=by grind
 generalize C/K=d at*;rw[e,show d*K+t*K=(d+t)*K from by grind,gy hk];grind
def TY{C K t:Rat}(hk:K<0):t<= -(C/K)↔0<=C+t*K:=by
 have e:C=C/K*K:=by grind
 generalize C/K=d at*;rw[e,show d*K+t*K=(-(d+t))*(-K) from by grind,kw (by grind)];grind
def NG{C K t:Rat}(hk:K<0):t< -(C/K)↔0<C+t*K:=by
 have e:C=C/K*K:=by grind
 generalize C/K=d at*;rw[e,show d*K+t*K=(-(d+t))*(-K) from by grind,gy (by grind)];grind
def fD(k:Rat):k=0\/0<k\/k<0:=by grind
def Eo{l m:aa}{v:ah}(hb:l.cutB v m=true)(t:Rat):(l.cutV v m).has t↔v.has t/\0<=m.value (l.at t):=by
 rw[j'];rcases fD (l.cutK m) with hk|hk|hk
 ·obtain⟨h1,h2⟩:=Bs v hk
  rw[h1,hk];have:=h2.1 hb;constructor
  ·intro h;exact⟨h,by grind⟩
  ·exact fun h=>h.1
 ·rw[(BU v hk).1,SB,<-V6 hk]
  simp[ah.has]
 ·rw[(Bt v hk).1,SB,<-TY hk]
  simp[ah.has]
def ME{l m:aa}{v:ah}(hb:l.cutB v m=true)(t:Rat):(l.cutV v m).ins t↔v.ins t/\0<m.value (l.at t):=by
 rw[j'];rcases fD (l.cutK m) with hk|hk|hk
 ·obtain⟨h1,h2⟩:=Bs v hk
  rw[h1,hk];have:=h2.1 hb;constructor
  ·intro h;exact⟨h,by grind⟩
  ·exact fun h=>h.1
 ·rw[(BU v hk).1,L7,<-Ra hk]
  simp[ah.ins]
 ·rw[(Bt v hk).1,L7,<-NG hk]
  simp[ah.ins]
def Ba{l m:aa}{v:ah}(hv:v.Pos)(hb:l.cutB v m=true):(l.cutV v m).Pos:=by
 rcases fD (l.cutK m) with hk|hk|hk
 ·rw[(Bs v hk).1];exact hv
 ·exact(BU v hk).2.1 hb
 ·exact(Bt v hk).2.1 hb
def Jj{l m:aa}{v:ah}(hv:v.Pos)(hb:l.cutB v m=false){t:Rat}(ht:v.has t):m.value (l.at t)<=0:=by
 rw[j'];have hb': ¬l.cutB v m=true:=by rw[hb];decide
 rcases fD (l.cutK m) with hk|hk|hk
 ·have h2:=(Bs v hk).2
  have: ¬0<l.cutC m:=fun h=>hb' (h2.2 h);rw[hk];grind
 ·obtain⟨h1,h2⟩:=BU v hk
  have hn: ¬(l.cutV v m).Pos:=fun h=>hb' (h2.2 h);rw[h1] at hn;have h3:=Ra (C:=l.cutC m) (t:=t) hk
  suffices¬(-(l.cutC m/l.cutK m)<t) by grind
  generalize-(l.cutC m/l.cutK m)=d at*;obtain⟨lo,hi,nl,nh⟩:=v;unfold ah.Pos ah.meet at hn;unfold ah.Pos at hv;unfold ah.has at ht
  cases nl<;>cases nh<;>simp at* <;>grind
 ·obtain⟨h1,h2⟩:=Bt v hk
  have hn: ¬(l.cutV v m).Pos:=fun h=>hb' (h2.2 h);rw[h1] at hn;have h3:=NG (C:=l.cutC m) (t:=t) hk
  suffices¬(t< -(l.cutC m/l.cutK m)) by grind
  generalize-(l.cutC m/l.cutK m)=d at*;obtain⟨lo,hi,nl,nh⟩:=v;unfold ah.Pos ah.meet at hn;unfold ah.Pos at hv;unfold ah.has at ht
  cases nl<;>cases nh<;>simp at* <;>grind
def bm(c:aw)(p:ab):Prop:= ∀s∈c,0<s.l.value p
def lD(c:aw)(p:ab):Prop:= ∀s∈c,0<=s.l.value p
def JX(l:aa): ∀(c:aw) (v w:ah),v.Pos->oe l c v=some w->
  w.Pos/\(∀t,w.has t↔v.has t/\lD c (l.at t))/\(∀t,w.ins t↔v.ins t/\bm c (l.at t))
 |[],v,w,hv,h=>by
  obtain rfl:v=w:=by simpa[oe] using h
  exact⟨hv,fun t=>⟨fun h=>⟨h,fun s hs=>absurd hs (by simp)⟩,fun h=>h.1⟩,fun t=>⟨fun h=>⟨h,fun s hs=>absurd hs (by simp)⟩,fun h=>h.1⟩⟩
 |s::c,v,w,hv,h=>by
  rw[oe] at h;split at h
  ·rename_i hb
   obtain⟨h1,h2,h3⟩:=JX l c _ w (Ba hv hb) h;refine⟨h1,fun t=>?_,fun t=>?_⟩
   ·rw[h2,Eo hb]
    simp only[lD,dT];exact and_assoc
   ·rw[h3,ME hb]
    simp only[bm,dT];exact and_assoc
  ·exact absurd h (by simp)
def MP(l:aa): ∀(c:aw) (v:ah),v.Pos->oe l c v=none-> ∀t,v.has t-> ¬bm c (l.at t)
 |[],v,hv,h=>by simp[oe] at h
 |s::c,v,hv,h=>by
  intro t ht hd;have hd':=dT.1 hd;rw[oe] at h;split at h
  ·rename_i hb
   exact MP l c _ (Ba hv hb) h t ((Eo hb t).2 ⟨ht,dQ hd'.1⟩) hd'.2
  ·rename_i hb
   have:=Jj hv (by simpa using hb) ht;have:=hd'.1;grind
def bm.open: ∀{c:aw} {q:ab} (u:ab),bm c q-> ∃e:Rat,0<e/\ ∀d,0<=d->d<=e->bm c (bF q u d)
 |[],q,u,_=>⟨1,by decide,fun d _ _ s hs=>absurd hs (by simp)⟩
 |s::c,q,u,h=>by
  have h':=dT.1 h;obtain⟨e,he,hd⟩:=bm.open (c:=c) u h'.2;have hs:=h'.1;generalize hk:s.l.nor.dot u=k;have hf: ∃f:Rat,0<f/\ ∀d,0<=d->d<=f->0<s.l.value q+d*k:=by
   by_cases hk0:0<=k
   ·exact⟨1,by decide,fun d h1 _=>by have:=cD h1 hk0;grind⟩
   ·refine⟨s.l.value q/(2* -k),?_,fun d h1 h2=>?_⟩
    ·have e1:s.l.value q/(2* -k)*(2* -k)=s.l.value q:=by grind
     exact(gy (k:=2* -k) (by grind)).1 (by rw[e1];exact hs)
    ·have e1:s.l.value q/(2* -k)*(2* -k)=s.l.value q:=by grind
     generalize s.l.value q/(2* -k)=f at*;have:=cD (a:=f-d) (b:= -k) (by grind) (by grind);grind
  obtain⟨f,hf0,hf⟩:=hf;by_cases hef:e<=f
  ·refine⟨e,he,fun d h1 h2=>dT.2 ⟨?_,hd d h1 h2⟩⟩
   rw[gv,hk];exact hf d h1 (by grind)
  ·refine⟨f,hf0,fun d h1 h2=>dT.2 ⟨?_,hd d h1 (by grind)⟩⟩
   rw[gv,hk];exact hf d h1 h2
def KP: ∀{c:aw} {q p:ab},bm c q->(∃s∈c,s.l.value p<=0)->
  ∃e:Rat,0<=e/\e<=1/\(∃s∈c,s.l.value p<=0/\s.l.value (bj q p e)=0)/\lD c (bj q p e)
 |[],q,p,_,h=>by obtain⟨s,hs,_⟩:=h;exact absurd hs (by simp)
 |s::c,q,p,h,hex=>by
  have h':=dT.1 h;have hs:=h'.1;by_cases hc: ∃s∈c,s.l.value p<=0
  ·obtain⟨e,h0,h1,⟨s1,m1,n1,z1⟩,hC⟩:=KP h'.2 hc
   by_cases hp:0<=s.l.value (bj q p e)
   ·exact⟨e,h0,h1,⟨s1,aJ _ m1,n1,z1⟩,dT.2 ⟨hp,hC⟩⟩
   ·rw[nO] at hp
    generalize hB:s.l.value p-s.l.value q=B at*;have hB0:B<0:=by
     by_cases hB0:0<=B
     ·have:=cD h0 hB0;grind
     ·grind
    have e1:s.l.value q/(-B)*(-B)=s.l.value q:=by grind
    generalize hf:s.l.value q/(-B)=f at*;have f0:0<=f:=(kw (k:= -B) (by grind)).1 (by rw[e1];grind);have f1:f<=e:=by
     have:=(kw (s:=e-f) (k:= -B) (by grind)).1 (by grind);grind
    have z:s.l.value (bj q p f)=0:=by rw[nO,hB];grind
    have np:s.l.value p<=0:=by
     have:=cD (a:=1-e) (b:= -B) (by grind) (by grind);grind
    refine⟨f,f0,by grind,⟨s,aQ,np,z⟩,dT.2 ⟨by rw[z];exact dR,fun s2 m2=>?_⟩⟩;have a1:=h'.2 s2 m2;have a2:=hC s2 m2;rw[nO] at a2⊢;exact JY (dQ a1) a2 f0 f1
  ·have np:s.l.value p<=0:=by
    obtain⟨s1,m1,n1⟩:=hex;rcases aW.1 m1 with rfl|m1
    ·exact n1
    ·exact absurd ⟨s1,m1,n1⟩ hc
   generalize hB:s.l.value p-s.l.value q=B at*;have hB0:B<0:=by grind
   have e1:s.l.value q/(-B)*(-B)=s.l.value q:=by grind
   generalize hf:s.l.value q/(-B)=f at*;have f0:0<=f:=(kw (k:= -B) (by grind)).1 (by rw[e1];grind);have f1:f<=1:=by
    have:=(kw (s:=1-f) (k:= -B) (by grind)).1 (by grind);grind
   have z:s.l.value (bj q p f)=0:=by rw[nO,hB];grind
   refine⟨f,f0,f1,⟨s,aQ,np,z⟩,dT.2 ⟨by rw[z];exact dR,fun s2 m2=>?_⟩⟩;have a1:=h'.2 s2 m2;have a2:0<s2.l.value p:=by
    by_cases h:0<s2.l.value p
    ·exact h
    ·exact absurd ⟨s2,m2,by grind⟩ hc
   rw[nO];have:=JY (A:=s2.l.value q) (B:=s2.l.value p-s2.l.value q) (u:=f) (v:=1) (dQ a1) (by grind) f0 f1;exact this
structure bP (c:aw):Prop where
 ne: ∃p,bm c p
 ok: ∀s∈c,s.l.ok
 edge: ∀s∈c,s.v.Pos/\ ∀t,s.v.has t↔lD c (s.l.at t)
def bP.nil:bP []:=⟨⟨⟨0,0⟩,fun s hs=>absurd hs (by simp)⟩,fun s hs=>absurd hs (by simp),fun s hs=>absurd hs (by simp)⟩
def t7{c:aw}{m:aa}(hne: ∃q,bm c q)(h: ∀p,bm c p->0<m.value p){p:ab}(hp:lD c p):0<=m.value p:=by
 obtain⟨q,hq⟩:=hne;have mq:=h q hq;by_cases hm:0<=m.value p
 ·exact hm
 ·exfalso
  generalize hB:m.value q-m.value p=B;have hB0:0<B:=by grind
  have e1: -m.value p/B*B= -m.value p:=by grind
  generalize-m.value p/B=e at*;have e0:0<e:=(gy hB0).1 (by rw[e1];grind);have e2:e<=1:=by
   have:=(kw (s:=1-e) hB0).1 (by grind);grind
  have hd:bm c (bj p q e):=fun s hs=>by
   rw[nO];have a:=hp s hs;have b:=hq s hs;have:=bO e0 b;have:=cD (a:=1-e) (b:=s.l.value p) (by grind) a;grind
  have:=h _ hd;rw[nO,hB,e1] at this;grind
def rm{l:aa}{s':ba}: ∀{c:aw},s'∈ew l c↔ ∃s∈c,s.l.cutB s.v l=true/\s'=⟨s.l,s.l.cutV s.v l⟩
 |[]=>by simp[ew]
 |s::c=>by
  rw[ew];split
  ·rename_i hb
   rw[aW,rm (c:=c)];constructor
   ·rintro (rfl|⟨s1,h1,h2⟩)
    ·exact⟨s,aQ,hb,J⟩
    ·exact⟨s1,aJ _ h1,h2⟩
   ·rintro ⟨s1,h1,h2,h3⟩
    rcases aW.1 h1 with rfl|h1
    ·exact .inl h3
    ·exact .inr ⟨s1,h1,h2,h3⟩
  ·rename_i hb
   rw[rm (c:=c)];constructor
   ·rintro ⟨s1,h1,h2⟩;exact⟨s1,aJ _ h1,h2⟩
   ·rintro ⟨s1,h1,h2,h3⟩
    rcases aW.1 h1 with rfl|h1
    ·exact absurd h2 hb
    ·exact⟨s1,h1,h2,h3⟩
def q7{c:aw}{l:aa}{v:ah}{s:ba}:s∈ni c l v↔s=⟨l,v⟩\/s∈c:=by
 unfold ni;generalize gr (jt c l) 0 c.length=n;rw[bK,aW];have h:=jN n c;constructor
 ·rintro (h1|h1|h1)
  ·exact .inr (dZ h1)
  ·exact .inl h1
  ·exact .inr (gS h1)
 ·rintro (h1|h1)
  ·exact .inr (.inl h1)
  ·rw[<-h,bK] at h1
   rcases h1 with h1|h1
   ·exact .inl h1
   ·exact .inr (.inr h1)
def ayO{c:aw}{l:aa}(hl:l.Ne)(hp:lC c l=none){p:ab}(h:bm c p):l.value p≠0:=by
 intro h0;obtain⟨t,rfl⟩:=zz hl h0;exact MP l c _ x9 hp t (KS t) h
def JL{c:aw}{l:aa}(hl:l.Ne){v:ah}(hp:lC c l=some v):(∃q,bm c q/\0<l.value q)/\ ∃q,bm c q/\l.value q<0:=by
 obtain⟨h1,_,h3⟩:=JX l c _ v x9 hp;have hd:=((h3 v.sample).1 (po h1)).2;have h0:=lm hl v.sample;have hn:=sv hl;constructor
 ·obtain⟨e,he,hm⟩:=hd.open l.nor
  refine⟨_,hm e (dQ he) dR,?_⟩;rw[gv,h0];have:=bO he hn;grind
 ·obtain⟨e,he,hm⟩:=hd.open ⟨-l.nor.x, -l.nor.y⟩
  refine⟨_,hm e (dQ he) dR,?_⟩;rw[gv,h0];have:=bO he hn;simp only[ab.dot] at this⊢;grind
def aui{c:aw}{l:aa}{v:ah}(hc:bP c)(hl:l.ok)(hp:lC c l=some v):
  bP (ni (ew l c) l v)/\ ∀p,bm (ni (ew l c) l v) p↔bm c p/\0<l.value p:=by
 obtain⟨⟨q,hq,lq⟩,_⟩:=JL hl.ne hp;obtain⟨v1,v2,v3⟩:=JX l c _ v x9 hp;have hD: ∀p,bm (ni (ew l c) l v) p↔bm c p/\0<l.value p:=by
  intro p;constructor
  ·intro h
   have lp:0<l.value p:=h ⟨l,v⟩ (q7.2 (.inl J));refine⟨fun s0 hs0=>?_,lp⟩;by_cases h0:0<s0.l.value p
   ·exact h0
   ·exfalso
    obtain⟨e,e0,e1,⟨s,ms,ns,zs⟩,hC⟩:=KP (p:=p) hq ⟨s0,hs0,by grind⟩;obtain⟨t,ht⟩:=zz (hc.ok s ms).ne zs;rw[ht] at hC;obtain⟨p1,p2⟩:=hc.edge s ms;have hh:=(p2 t).2 hC;have lr:0<l.value (s.l.at t):=by
     rw[<-ht,nO];by_cases hB:0<=l.value p-l.value q
     ·have:=cD e0 hB;grind
     ·have:=cD (a:=1-e) (b:= -(l.value p-l.value q)) (by grind) (by grind)
      grind
    have hb:s.l.cutB s.v l=true:=by
     cases hb:s.l.cutB s.v l with
     |true=>rfl
     |false=>have:=Jj p1 hb hh;grind
    have:=h ⟨s.l,s.l.cutV s.v l⟩ (q7.2 (.inr (rm.2 ⟨s,ms,hb,J⟩)));simp only at this;grind
  ·rintro ⟨h1,h2⟩ s hs
   rcases q7.1 hs with rfl|hs
   ·exact h2
   ·obtain⟨s1,m1,_,rfl⟩:=rm.1 hs
    exact h1 s1 m1
 have hne: ∃p,bm (ni (ew l c) l v) p:=⟨q,(hD q).2 ⟨hq,lq⟩⟩;have hC: ∀p,lD (ni (ew l c) l v) p↔lD c p/\0<=l.value p:=by
  intro p;constructor
  ·intro h
   refine⟨fun s hs=>?_,h ⟨l,v⟩ (q7.2 (.inl J))⟩;exact t7 hne (fun p hp=>((hD p).1 hp).1 s hs) h
  ·rintro ⟨h1,h2⟩ s hs
   rcases q7.1 hs with rfl|hs
   ·exact h2
   ·obtain⟨s1,m1,_,rfl⟩:=rm.1 hs
    exact h1 s1 m1
 refine⟨⟨hne,fun s hs=>?_,fun s hs=>?_⟩,hD⟩
 ·rcases q7.1 hs with rfl|hs
  ·exact hl
  ·obtain⟨s1,m1,_,rfl⟩:=rm.1 hs
   exact hc.ok s1 m1
 ·rcases q7.1 hs with rfl|hs
  ·refine⟨v1,fun t=>?_⟩
   rw[hC];simp only;rw[v2];have h0:=lm hl.ne t;constructor
   ·intro h;exact⟨h.2,by rw[h0];exact dR⟩
   ·intro h;exact⟨KS t,h.1⟩
  ·obtain⟨s1,m1,hb,rfl⟩:=rm.1 hs
   obtain⟨p1,p2⟩:=hc.edge s1 m1;refine⟨Ba p1 hb,fun t=>?_⟩;rw[hC];simp only;rw[Eo hb,p2]
def bm.seg{c:aw}{q p:ab}{e:Rat}(hq:bm c q)(hp:bm c p)(h0:0<=e)(h1:e<=1):bm c (bj q p e):=fun s hs=>by
 rw[nO];have a:=hq s hs;have b:=hp s hs;by_cases he:e=0
 ·subst he;grind
 ·have:=bO (a:=e) (by grind) b
  have:=cD (a:=1-e) (b:=s.l.value q) (by grind) (by grind);grind
def KG{v:ah}{t:Rat}(h:v.ins t):(∃u,u<t/\v.has u)/\ ∃u,t<u/\v.has u:=by
 obtain⟨lo,hi,nl,nh⟩:=v;unfold ah.ins at h;unfold ah.has;refine⟨⟨if nl=true then t-1 else lo,?_⟩,⟨if nh=true then t+1 else hi,?_⟩⟩<;>cases nl<;>cases nh<;>simp at* <;>grind
def yu{a b c x y z:Nat}(h1:x*b=a*y)(h2:x*c=a*z)(g:Nat.gcd (Nat.gcd a b) c=1):a∣x:=by
 have e:x=Nat.gcd (Nat.gcd (x*a) (x*b)) (x*c):=by
  rw[Nat.gcd_mul_left,Nat.gcd_mul_left,g,iY]
 rw[e];exact Nat.dvd_gcd (Nat.dvd_gcd (Nat.dvd_mul_left ..) (h1▸Nat.dvd_mul_right ..)) (h2▸Nat.dvd_mul_right ..)
def atk{a b c x y z:Int}(h1:a*y=b*x)(h2:a*z=c*x)(h3:b*z=c*y)
  (g1:Nat.gcd (Nat.gcd a.natAbs b.natAbs) c.natAbs=1)(g2:Nat.gcd (Nat.gcd x.natAbs y.natAbs) z.natAbs=1):
  (a=x/\b=y/\c=z)\/(a= -x/\b= -y/\c= -z):=by
 have n1:a.natAbs*y.natAbs=b.natAbs*x.natAbs:=by rw[<-jK,<-jK,h1]
 have n2:a.natAbs*z.natAbs=c.natAbs*x.natAbs:=by rw[<-jK,<-jK,h2]
 have n3:b.natAbs*z.natAbs=c.natAbs*y.natAbs:=by rw[<-jK,<-jK,h3]
 generalize ha:a.natAbs=A at*;generalize hb:b.natAbs=B at*;generalize hc:c.natAbs=C at*;generalize hx:x.natAbs=X at*;generalize hy:y.natAbs=Y at*;generalize hz:z.natAbs=Z at*;have gB:Nat.gcd (Nat.gcd B A) C=1:=by rw[jQ B A];exact g1
 have gC:Nat.gcd (Nat.gcd C A) B=1:=by rw[Nat.gcd_assoc,jQ];exact g1
 have gY:Nat.gcd (Nat.gcd Y X) Z=1:=by rw[jQ Y X];exact g2
 have gZ:Nat.gcd (Nat.gcd Z X) Y=1:=by rw[Nat.gcd_assoc,jQ];exact g2
 have e1:A=X:=Nat.dvd_antisymm (yu (x:=X) (y:=Y) (z:=Z) (by grind) (by grind) g1) (yu (x:=A) (y:=B) (z:=C) (by grind) (by grind) g2);have e2:B=Y:=Nat.dvd_antisymm (yu (x:=Y) (y:=X) (z:=Z) (by grind) (by grind) gB) (yu (x:=B) (y:=A) (z:=C) (by grind) (by grind) gY);have e3:C=Z:=Nat.dvd_antisymm (yu (x:=Z) (y:=X) (z:=Y) (by grind) (by grind) gC) (yu (x:=C) (y:=A) (z:=B) (by grind) (by grind) gZ);have s1:a=x\/a= -x:=by omega
 have s2:b=y\/b= -y:=by omega
 have s3:c=z\/c= -z:=by omega
 clear ha hb hc hx hy hz n1 n2 n3 g1 g2 gB gC gY gZ e1 e2 e3;have z1:= @sL x y;have z2:= @sL x z;have z3:= @sL y z;rcases s1 with rfl|rfl<;>rcases s2 with rfl|rfl<;>rcases s3 with rfl|rfl<;>grind
def zf{l m:aa}(hl:l.ok)(hm:m.ok)(h: ∀t,l.value (m.at t)=0):l=m\/l=m.rev:=by
 have h0:=h 0;have h1:=h 1;rw[j'] at h0 h1;have hC:m.cutC l=0:=by grind
 have hK:m.cutK l=0:=by grind
 obtain⟨q,q1,q2⟩:=BT hm.ne;have hn:=sv hm.ne;unfold aa.cutC at hC;rw[q2,iG] at hC;unfold aa.cutK at hK;simp only[aa.nor,aa.dir,ab.dot] at hK q1 hn hC;obtain⟨a,b,c⟩:=l;obtain⟨x,y,z⟩:=m;simp only at*;have e1:a*y=b*x:=by
  have:((a*y:Int):Rat)=((b*x:Int):Rat):=by rw[cY,cY];grind
  exact nN.1 this
 have e2:a*z=c*x:=by
  have:((a*z:Int):Rat)=((c*x:Int):Rat):=by rw[cY,cY];grind
  exact nN.1 this
 have e3:b*z=c*y:=by
  have:((b*z:Int):Rat)=((c*y:Int):Rat):=by rw[cY,cY];grind
  exact nN.1 this
 rcases atk e1 e2 e3 hl.2 hm.2 with⟨rfl,rfl,rfl⟩|⟨rfl,rfl,rfl⟩
 ·exact .inl J
 ·exact .inr J
def aa.ok.rev{l:aa}(h:l.ok):l.rev.ok:=by
 obtain⟨h1,h2⟩:=h;refine⟨?_,?_⟩
 ·simp only[aa.rev];omega
 ·simp only[aa.rev,iJ];exact h2
def RW(l:aa): ∀c:aw,(∀s∈c,oF l s<=0/\s.l≠l)-> ¬0<oD l c
 |[],_=>by simp[oD]
 |s::c,h=>by
  have h':=dT.1 h;unfold oD;rw[if_neg h'.1.2];split
  ·have:=h'.1.1;omega
  ·exact RW l c h'.2
def M8{c:aw}{l:aa}(hc:bP c)(hl:l.ok)(hp:lC c l=none):
  (0<oD l c/\ ∀p,bm c p->0<l.value p)\/(¬0<oD l c/\ ∀p,bm c p->l.value p<0):=by
 have hoff:=fun p (h:bm c p)=>ayO hl.ne hp h;by_cases hq: ∃q,bm c q/\0<l.value q
 ·left
  obtain⟨q,hq,lq⟩:=hq;have hall: ∀p,bm c p->0<l.value p:=by
   intro p h;have:=hoff p h;by_cases h0:0<l.value p
   ·exact h0
   ·exfalso
    have hn:l.value p<0:=by grind
    have e1:l.value q/(l.value q-l.value p)*(l.value q-l.value p)=l.value q:=by grind
    generalize l.value q/(l.value q-l.value p)=e at*;have f0:0<=e:=(kw (k:=l.value q-l.value p) (by grind)).1 (by grind);have f1:e<=1:=by
     have:=(kw (s:=1-e) (k:=l.value q-l.value p) (by grind)).1 (by grind);grind
    exact hoff _ (hq.seg h f0 f1) (by rw[nO];grind)
  refine⟨?_,hall⟩
  cases c with
  |nil=>simp[lC,oe] at hp
  |cons s c=>
   obtain⟨p1,p2⟩:=hc.edge s aQ;have hi:=po p1;have hr:=t7 hc.ne hall ((p2 _).1 hi.has);unfold oD;by_cases h0:oF l s=0
   ·rw[if_neg (by simpa using h0)]
    have hz:l.value (s.l.at s.v.sample)=0:=(ll _).1 h0;have hge: ∀t,s.v.has t->0<=l.value (s.l.at t):=fun t ht=>t7 hc.ne hall ((p2 t).1 ht);obtain⟨⟨u1,m1,n1⟩,⟨u2,m2,n2⟩⟩:=KG hi;have g1:=hge _ n1;have g2:=hge _ n2;rw[j'] at hz g1 g2;have hK:s.l.cutK l=0:=by
     rcases fD (s.l.cutK l) with h|h|h
     ·exact h
     ·exfalso
      have:=bO (a:=s.v.sample-u1) (b:=s.l.cutK l) (by grind) h;grind
     ·exfalso
      have:=bO (a:=u2-s.v.sample) (b:= -s.l.cutK l) (by grind) (by grind);grind
    have hz2: ∀t,l.value (s.l.at t)=0:=fun t=>by rw[j',hK];rw[hK] at hz;grind
    rcases zf hl (hc.ok s aQ) hz2 with h|h
    ·rw[if_pos h.symm];decide
    ·exfalso
     have:=hall q hq;rw[h,fh] at this;have:=hq s aQ;grind
   ·rw[if_pos h0]
    have hz:l.value (s.l.at s.v.sample)≠0:=fun e=>h0 ((ll _).2 e);exact(kH _).2 (by grind)
 ·right
  have hall: ∀p,bm c p->l.value p<0:=fun p h=>by
   have:=hoff p h;have: ¬0<l.value p:=fun h'=>hq ⟨p,h,h'⟩;grind
  refine⟨RW l c fun s hs=>?_,hall⟩;obtain⟨p1,p2⟩:=hc.edge s hs;have hr:=t7 (m:=l.rev) hc.ne (fun p h=>by rw[fh];have:=hall p h;grind) ((p2 _).1 (po p1).has);rw[fh] at hr;constructor
  ·have: ¬0<oF l s:=fun h=>by have:=(kH _).1 h;grind
   omega
  ·rintro rfl
   obtain⟨p,hp⟩:=hc.ne;have:=hall p hp;have:=hp s hs;grind
def sr{c:aw}{l:aa}(hc:bP c)(hl:l.ok):dh c l=true↔ ∃p,bm c p/\0<l.value p:=by
 unfold dh
 cases hp:lC c l with
 |some v=>exact⟨fun _=>(JL hl.ne hp).1,fun _=>J⟩
 |none=>
  simp only[xv,hp,Option.isSome_none,jT,if_false,decide_eq_true_iff];rcases M8 hc hl hp with⟨h1,h2⟩|⟨h1,h2⟩
  ·refine⟨fun _=>?_,fun _=>h1⟩
   obtain⟨p,hp⟩:=hc.ne;exact⟨p,hp,h2 p hp⟩
  ·refine⟨fun h=>absurd h h1,?_⟩
   rintro ⟨p,hp,h⟩;have:=h2 p hp;grind
def jy{c:aw}{l:aa}(hc:bP c)(hl:l.ok)(hb:dh c l=true):bP (cj c l)/\ ∀p,bm (cj c l) p↔bm c p/\0<l.value p:=by
 unfold cj
 cases hp:lC c l with
 |some v=>exact aui hc hl hp
 |none=>
  refine⟨hc,fun p=>?_⟩;unfold dh at hb;simp only[hp,xv,Option.isSome_none,jT,if_false,decide_eq_true_iff] at hb;rcases M8 hc hl hp with⟨h1,h2⟩|⟨h1,h2⟩
  ·exact⟨fun h=>⟨h,h2 p h⟩,fun h=>h.1⟩
  ·exact absurd hb h1
def P6{c:aw}{l:aa}(hl:l.ok){p:ab}(hp:bm c p)(h0:l.value p=0):(∃q,bm c q/\0<l.value q)/\ ∃q,bm c q/\l.value q<0:=by
 have hn:=sv hl.ne;constructor
 ·obtain⟨e,he,hm⟩:=hp.open l.nor
  refine⟨_,hm e (dQ he) dR,?_⟩;rw[gv,h0];have:=bO he hn;grind
 ·obtain⟨e,he,hm⟩:=hp.open ⟨-l.nor.x, -l.nor.y⟩
  refine⟨_,hm e (dQ he) dR,?_⟩;rw[gv,h0];have:=bO he hn;simp only[ab.dot] at this⊢;grind
inductive Up (c:aw) (l:aa):Prop
 |left (h1:dh c l.rev=false) (h: ∀p,bm c p->0<l.value p)
 |right (h1:dh c l.rev=true) (h2:dh c l=false) (h: ∀p,bm c p->l.value p<0)
 |both (h1:dh c l.rev=true) (h2:dh c l=true) (g1:bP (cj c l)) (g2:bP (cj c l.rev))
   (e1: ∀p,bm (cj c l) p↔bm c p/\0<l.value p) (e2: ∀p,bm (cj c l.rev) p↔bm c p/\l.value p<0)
def s7{c:aw}{l:aa}(hc:bP c)(hl:l.ok):Up c l:=by
 have hr:=sr hc hl.rev;have hi:=sr hc hl
 cases h1:dh c l.rev with
 |false=>
  refine .left h1 fun p hp=>?_;have hn: ¬ ∃q,bm c q/\l.value q<0:=by
   rintro ⟨q,a,b⟩;have:=hr.2 ⟨q,a,by rw[fh];grind⟩;rw[h1] at this;exact absurd this (by decide)
  have n1: ¬l.value p<0:=fun h=>hn ⟨p,hp,h⟩;have n2:l.value p≠0:=fun h=>hn (P6 hl hp h).2;grind
 |true=>
  cases h2:dh c l with
  |false=>
   refine .right h1 h2 fun p hp=>?_;have hn: ¬ ∃q,bm c q/\0<l.value q:=by
    intro h;have:=hi.2 h;rw[h2] at this;exact absurd this (by decide)
   have n1: ¬0<l.value p:=fun h=>hn ⟨p,hp,h⟩;have n2:l.value p≠0:=fun h=>hn (P6 hl hp h).1;grind
  |true=>
   obtain⟨g1,e1⟩:=jy hc hl h2;obtain⟨g2,e2⟩:=jy hc hl.rev h1;refine .both h1 h2 g1 g2 e1 fun p=>?_;rw[e2,fh];constructor<;>rintro ⟨a,b⟩<;>exact⟨a,by grind⟩
def Tr.restrict_A{l:aa}{e:aw}(X Y:Tr)(h:dh e l.rev=false):(Tr.node l X Y).restrict e=X.restrict e:=by
 rw[Tr.restrict,h];rfl
def Tr.restrict_B{l:aa}{e:aw}(X Y:Tr)(h:dh e l.rev=true)(h2:dh e l=false):(Tr.node l X Y).restrict e=Y.restrict e:=by
 rw[Tr.restrict,h,h2];rfl
def Tr.restrict_C{l:aa}{e:aw}(X Y:Tr)(h:dh e l.rev=true)(h2:dh e l=true):(Tr.node l X Y).restrict e=Tr.joinQ l (X.restrict (cj e l)) (Y.restrict (cj e l.rev)):=by
 rw[Tr.restrict,h,h2];rfl
def qG:List aa->aw->Option aw
 |[],c=>some c
 |l::t,c=>if dh c l then qG t (cj c l) else none
def Ol: ∀{ls:List aa} {c e:aw},bP c->(∀l∈ls,l.ok)->qG ls c=some e->bP e/\ ∀p,bm e p↔bm c p/\ ∀l∈ls,0<l.value p
 |[],c,e,hc,_,h=>by
  obtain rfl:c=e:=by simpa[qG] using h
  exact⟨hc,fun p=>⟨fun h=>⟨h,fun l hl=>absurd hl (by simp)⟩,fun h=>h.1⟩⟩
 |l::t,c,e,hc,hl,h=>by
  have hl':=dT.1 hl;rw[qG] at h;split at h
  ·rename_i hb
   obtain⟨g1,g2⟩:=jy hc hl'.1 hb;obtain⟨k1,k2⟩:=Ol g1 hl'.2 h;refine⟨k1,fun p=>?_⟩;rw[k2,g2,dT,and_assoc]
  ·exact absurd h (by simp)
def QR: ∀{ls:List aa} {c:aw},bP c->(∀l∈ls,l.ok)->(∃p,bm c p/\ ∀l∈ls,0<l.value p)-> ∃e,qG ls c=some e
 |[],c,_,_,_=>⟨c,J⟩
 |l::t,c,hc,hl,⟨p,h1,h2⟩=>by
  have hl':=dT.1 hl;have h2':=dT.1 h2;have hb:=(sr hc hl'.1).2 ⟨p,h1,h2'.1⟩;obtain⟨g1,g2⟩:=jy hc hl'.1 hb;rw[qG,if_pos hb];exact QR g1 hl'.2 ⟨p,(g2 p).2 ⟨h1,h2'.1⟩,h2'.2⟩
def S2{c:aw}(hc:bP c){s:ba}(hs:s∈c){m:aa}(hm:m.ok)(h: ∀p,bm c p->0<m.value p)(hz:m.value (s.l.at s.v.sample)=0):m=s.l:=by
 obtain⟨p1,p2⟩:=hc.edge s hs;have hi:=po p1;have hge: ∀t,s.v.has t->0<=m.value (s.l.at t):=fun t ht=>t7 hc.ne h ((p2 t).1 ht);obtain⟨⟨u1,m1,n1⟩,⟨u2,m2,n2⟩⟩:=KG hi;have g1:=hge _ n1;have g2:=hge _ n2;rw[j'] at hz g1 g2;have hK:s.l.cutK m=0:=by
  rcases fD (s.l.cutK m) with h|h|h
  ·exact h
  ·exfalso
   have:=bO (a:=s.v.sample-u1) (b:=s.l.cutK m) (by grind) h;grind
  ·exfalso
   have:=bO (a:=u2-s.v.sample) (b:= -s.l.cutK m) (by grind) (by grind);grind
 have hz2: ∀t,m.value (s.l.at t)=0:=fun t=>by rw[j',hK];rw[hK] at hz;grind
 rcases zf hm (hc.ok s hs) hz2 with h'|h'
 ·exact h'
 ·exfalso
  obtain⟨q,hq⟩:=hc.ne;have:=h q hq;rw[h',fh] at this;have:=hq s hs;grind
def fj(l:aa):List aa->ah->Option ah
 |[],v=>some v
 |m::t,v=>if m=l then fj l t v else if l.cutB v m then fj l t (l.cutV v m) else none
def cI(c:List aa)(p:ab):Prop:= ∀m∈c,0<m.value p
def Cj(l:aa): ∀(c:List aa) (v w:ah),v.Pos->fj l c v=some w->
  w.Pos/\(∀t,w.ins t↔v.ins t/\ ∀m∈c,m≠l->0<m.value (l.at t))
 |[],v,w,hv,h=>by
  obtain rfl:v=w:=by simpa[fj] using h
  exact⟨hv,fun t=>⟨fun h=>⟨h,fun s hs=>absurd hs (by simp)⟩,fun h=>h.1⟩⟩
 |m::c,v,w,hv,h=>by
  rw[fj] at h;split at h
  ·rename_i hm
   obtain⟨h1,h2⟩:=Cj l c _ w hv h;refine⟨h1,fun t=>?_⟩;rw[h2,dT];exact⟨fun h=>⟨h.1,fun h'=>absurd hm h',h.2⟩,fun h=>⟨h.1,h.2.2⟩⟩
  ·rename_i hm
   split at h
   ·rename_i hb
    obtain⟨h1,h2⟩:=Cj l c _ w (Ba hv hb) h;refine⟨h1,fun t=>?_⟩;rw[h2,ME hb,dT,and_assoc];exact⟨fun h=>⟨h.1,fun _=>h.2.1,h.2.2⟩,fun h=>⟨h.1,h.2.1 hm,h.2.2⟩⟩
   ·exact absurd h (by simp)
def JK(l:aa): ∀(c:List aa) (v:ah),v.Pos->fj l c v=none-> ∀t,v.has t-> ¬ ∀m∈c,m≠l->0<m.value (l.at t)
 |[],v,hv,h=>by simp[fj] at h
 |m::c,v,hv,h=>by
  intro t ht hd;have hd':=dT.1 hd;rw[fj] at h;split at h
  ·exact JK l c _ hv h t ht hd'.2
  ·rename_i hm
   split at h
   ·rename_i hb
    exact JK l c _ (Ba hv hb) h t ((Eo hb t).2 ⟨ht,dQ (hd'.1 hm)⟩) hd'.2
   ·rename_i hb
    have:=Jj hv (by simpa using hb) ht;have:=hd'.1 hm;grind
def iO(c:List aa):Bool:=c.isEmpty||c.any (fun l=>(fj l c ah.all).isSome)
def RI: ∀{ls:List aa} {c e:aw},qG ls c=some e-> ∀s∈e,s.l∈ls\/ ∃s'∈c,s'.l=s.l
 |[],c,e,h,s,hs=>by
  obtain rfl:c=e:=by simpa[qG] using h
  exact .inr ⟨s,hs,J⟩
 |l::t,c,e,h,s,hs=>by
  rw[qG] at h;split at h
  ·rcases RI h s hs with h1|⟨s',h1,h2⟩
   ·exact .inl (aJ _ h1)
   ·unfold cj at h1
    split at h1
    ·rcases q7.1 h1 with rfl|h1
     ·exact .inl (by rw[<-h2];exact aQ)
     ·obtain⟨s1,m1,_,rfl⟩:=rm.1 h1
      exact .inr ⟨s1,m1,h2⟩
    ·exact .inr ⟨s',h1,h2⟩
  ·exact absurd h (by simp)
def Fe{c:List aa}(hok: ∀l∈c,l.ok)(hne: ∃p,cI c p): ∃e,qG c []=some e/\bP e/\(∀p,bm e p↔cI c p)/\ ∀s∈e,s.l∈c/\(fj s.l c ah.all).isSome=true:=by
 obtain⟨p,hp⟩:=hne;obtain⟨e,he⟩:=QR bP.nil hok ⟨p,fun s hs=>absurd hs (by simp),hp⟩;obtain⟨g1,g2⟩:=Ol bP.nil hok he;have g3: ∀p,bm e p↔cI c p:=fun p=>by
  rw[g2];exact⟨fun h=>h.2,fun h=>⟨fun s hs=>absurd hs (by simp),h⟩⟩
 refine⟨e,he,g1,g3,fun s hs=>?_⟩;have hm:s.l∈c:=by
  rcases RI he s hs with h|⟨_,h,_⟩
  ·exact h
  ·exact absurd h (by simp)
 refine⟨hm,?_⟩
 cases hp:fj s.l c ah.all with
 |some w=>rfl
 |none=>
  exfalso;obtain⟨p1,p2⟩:=g1.edge s hs;have hC:=(p2 s.v.sample).1 (po p1).has;refine JK s.l c _ x9 hp s.v.sample (KS _) fun m hmc hne=>?_;have hall: ∀p,bm e p->0<m.value p:=fun p hp=>(g3 p).1 hp m hmc;have h0:=t7 g1.ne hall hC;have h1:m.value (s.l.at s.v.sample)≠0:=fun hz=>hne (S2 g1 hs (hok m hmc) hall hz);grind
def zq{c:List aa}(hok: ∀l∈c,l.ok):iO c=true↔ ∃p,cI c p:=by
 unfold iO;rw[iV,List.isEmpty_iff,jV];constructor
 ·rintro (rfl|⟨l,hl,h⟩)
  ·exact⟨⟨0,0⟩,fun m hm=>absurd hm (by simp)⟩
  ·obtain⟨w,hw⟩:=qT.1 h
   obtain⟨w1,w2⟩:=Cj l c _ w x9 hw;have hi:=((w2 w.sample).1 (po w1)).2;have h0:=lm (hok l hl).ne w.sample;have hd:bm ((c.filter (fun m=>decide (m≠l))).map (fun m=>(⟨m,ah.all⟩:ba))) (l.at w.sample):=by
    intro s hs;obtain⟨m,hm,rfl⟩:=bQ.1 hs;rw[jS,decide_eq_true_iff] at hm;exact hi m hm.1 hm.2
   obtain⟨e,he,ho⟩:=hd.open l.nor;refine⟨bF (l.at w.sample) l.nor e,fun m hm=>?_⟩;by_cases hml:m=l
   ·subst hml
    rw[gv,h0];have:=bO he (sv (hok m hl).ne);grind
   ·exact ho e (dQ he) dR ⟨m,ah.all⟩ (bQ.2 ⟨m,jS.2 ⟨hm,by simpa using hml⟩,J⟩)
 ·intro hne
  obtain⟨e,h1,h2,h3,h4⟩:=Fe hok hne
  cases c with
  |nil=>exact .inl J
  |cons l c=>
   right
   cases e with
   |nil=>
    exfalso;have:=(h3 (l.at 0)).1 (fun s hs=>absurd hs (by simp)) l aQ;rw[lm (hok l aQ).ne] at this;exact absurd this (by decide)
   |cons s e=>
    obtain⟨a,b⟩:=h4 s aQ;exact⟨s.l,a,b⟩
def oh(out:List aa)(l:aa):Nat:=(out.takeWhile (fun x=>decide (co x.dir l.dir<0))).length
def pw(out:List aa)(l:aa):List aa:=if out[oh out l]? =some l then out else out.take (oh out l)++l::out.drop (oh out l)
def nH(c:List aa):List aa->List aa->List aa
 |[],out=>out
 |l::t,out=>nH c t (if(fj l c ah.all).isSome then pw out l else out)
def e8(c:List aa):List aa:=nH c c []
def Gj{out:List aa}{l m:aa}:m∈pw out l↔m=l\/m∈out:=by
 unfold pw;split
 ·rename_i h
  exact⟨fun h=> .inr h,fun h'=>h'.elim (fun e=>e▸aT h) id⟩
 ·generalize oh out l=n
  have h:=jN n out;rw[bK,aW];constructor
  ·rintro (h1|h1|h1)
   ·exact .inr (dZ h1)
   ·exact .inl h1
   ·exact .inr (gS h1)
  ·rintro (h1|h1)
   ·exact .inr (.inl h1)
   ·rw[<-h,bK] at h1
    rcases h1 with h1|h1
    ·exact .inl h1
    ·exact .inr (.inr h1)
def Tm{c:List aa}{m:aa}: ∀{t out:List aa},m∈nH c t out↔m∈out\/m∈t/\(fj m c ah.all).isSome=true
 |[],out=>by simp[nH]
 |l::t,out=>by
  rw[nH,Tm];split
  ·rename_i h
   rw[Gj,aW];constructor
   ·rintro ((rfl|h1)|⟨h1,h2⟩)
    ·exact .inr ⟨.inl J,h⟩
    ·exact .inl h1
    ·exact .inr ⟨.inr h1,h2⟩
   ·rintro (h1|⟨rfl|h1,h2⟩)
    ·exact .inl (.inr h1)
    ·exact .inl (.inl J)
    ·exact .inr ⟨h1,h2⟩
  ·rename_i h
   rw[aW];constructor
   ·rintro (h1|⟨h1,h2⟩)
    ·exact .inl h1
    ·exact .inr ⟨.inr h1,h2⟩
   ·rintro (h1|⟨rfl|h1,h2⟩)
    ·exact .inl h1
    ·exact absurd h2 h
    ·exact .inr ⟨h1,h2⟩
def pc{c:List aa}{m:aa}:m∈e8 c↔m∈c/\(fj m c ah.all).isSome=true:=by
 unfold e8;rw[Tm];simp
def AJ{c:List aa}(hok: ∀l∈c,l.ok)(hne: ∃p,cI c p)(p:ab):cI (e8 c) p↔cI c p:=by
 constructor
 ·intro h
  obtain⟨e,h1,h2,h3,h4⟩:=Fe hok hne;exact(h3 p).1 fun s hs=>h s.l (pc.2 (h4 s hs))
 ·intro h m hm;exact h m (pc.1 hm).1
def nP(c:List aa)(l:aa):Int:=if iO (c++[l])&&iO (c++[l.rev]) then 0 else if iO (c++[l]) then 1 else-1
def Tr.restrictL:Tr->List aa->Tr
 | .leaf b,_=> .leaf b
 | .node l x y,c=>if nP c l=1 then x.restrictL c else if nP c l= -1 then y.restrictL c else joinQ l (x.restrictL (e8 (c++[l]))) (y.restrictL (e8 (c++[l.rev])))
def jx{c:List aa}{l:aa}{p:ab}:cI (c++[l]) p↔cI c p/\0<l.value p:=by
 unfold cI;rw[rT];simp
def iv{c:List aa}{l:aa}(hok: ∀m∈c,m.ok)(hl:l.ok): ∀m∈c++[l],m.ok:=by
 rw[rT];exact⟨hok,by simpa using hl⟩
def Tr.restrictL_eq: ∀(t:Tr) (c:List aa) (d:aw),t.all aa.ok->(∀l∈c,l.ok)->bP d->(∀p,bm d p↔cI c p)->t.restrictL c=t.restrict d
 | .leaf b,c,d,_,_,_,_=>rfl
 | .node l x y,c,d,h,hc,hd,he=>by
  obtain⟨hl,hx,hy⟩:=h;have i1:=zq (iv hc hl);have i2:=zq (iv hc hl.rev);obtain⟨p0,hp0⟩:=hd.ne;rcases s7 hd hl with⟨a1,a⟩|⟨a1,a2,a⟩|⟨a1,a2,ag1,ag2,ae1,ae2⟩
  ·have b1:iO (c++[l])=true:=i1.2 ⟨p0,jx.2 ⟨(he p0).1 hp0,a p0 hp0⟩⟩
   have b2:iO (c++[l.rev])=false:=by
    rw[<-nW,i2];rintro ⟨p,hp⟩;have hp:=jx.1 hp;have:=a p ((he p).2 hp.1);rw[fh] at hp;grind
   rw[Tr.restrict_A _ _ a1,Tr.restrictL,nP,b1,b2];exact x.restrictL_eq c d hx hc hd he
  ·have b2:iO (c++[l.rev])=true:=i2.2 ⟨p0,jx.2 ⟨(he p0).1 hp0,by rw[fh];have:=a p0 hp0;grind⟩⟩
   have b1:iO (c++[l])=false:=by
    rw[<-nW,i1];rintro ⟨p,hp⟩;have hp:=jx.1 hp;have:=a p ((he p).2 hp.1);grind
   rw[Tr.restrict_B _ _ a1 a2,Tr.restrictL,nP,b1,b2];exact y.restrictL_eq c d hy hc hd he
  ·have n1: ∃p,cI (c++[l]) p:=by
    obtain⟨p,hp⟩:=ag1.ne;exact⟨p,jx.2 ⟨(he p).1 ((ae1 p).1 hp).1,((ae1 p).1 hp).2⟩⟩
   have n2: ∃p,cI (c++[l.rev]) p:=by
    obtain⟨p,hp⟩:=ag2.ne;exact⟨p,jx.2 ⟨(he p).1 ((ae2 p).1 hp).1,by rw[fh];have:=((ae2 p).1 hp).2;grind⟩⟩
   rw[Tr.restrict_C _ _ a1 a2,Tr.restrictL,nP,i1.2 n1,i2.2 n2];have k1:=x.restrictL_eq (e8 (c++[l])) (cj d l) hx (fun m hm=>iv hc hl m (pc.1 hm).1) ag1 fun p=>by
    rw[AJ (iv hc hl) n1,ae1,jx,he]
   have k2:=y.restrictL_eq (e8 (c++[l.rev])) (cj d l.rev) hy (fun m hm=>iv hc hl.rev m (pc.1 hm).1) ag2 fun p=>by
    rw[AJ (iv hc hl.rev) n2,ae2,jx,he,fh];constructor<;>rintro ⟨a,b⟩<;>exact⟨a,by grind⟩
   rw[k1,k2];rfl
def crossI(l m:aa):Int:=l.a*m.b-m.a*l.b
def meetX(l m:aa):Int:=l.b*m.c-m.b*l.c
def meetY(l m:aa):Int:=m.a*l.c-l.a*m.c
def d9(l m:aa):ab:=if crossI l m=0 then⟨0,0⟩ else⟨(meetX l m:Rat)/(crossI l m:Rat),(meetY l m:Rat)/(crossI l m:Rat)⟩
def gk(l:aa)(p:ab):Rat:=p.dot l.dir/l.dir.dot l.dir
def JH(l:aa):l.dir.dot l.dir=l.nor.dot l.nor:=by
 simp only[aa.dir,aa.nor,ab.dot];grind
def Bn{l:aa}(h:l.Ne):0<l.dir.dot l.dir:=by rw[JH];exact sv h
def Ca(l m:aa):((crossI l m:Int):Rat)=(l.a:Rat)*m.b-(m.a:Rat)*l.b:=by
 unfold crossI;rw[jL,cY,cY]
def MO(l m:aa):((meetX l m:Int):Rat)=(l.b:Rat)*m.c-(m.b:Rat)*l.c:=by
 unfold meetX;rw[jL,cY,cY]
def Nu(l m:aa):((meetY l m:Int):Rat)=(m.a:Rat)*l.c-(l.a:Rat)*m.c:=by
 unfold meetY;rw[jL,cY,cY]
def FH(l m:aa):l.cutK m= -((crossI l m:Int):Rat):=by
 rw[Ca];simp only[aa.cutK,aa.nor,aa.dir,ab.dot];grind
def Rp(l m:aa):m.dir.cross l.dir=l.cutK m:=by
 simp only[aa.cutK,aa.nor,aa.dir,ab.dot,ab.cross];grind
def NX{l:aa}:(⟨-((l.c:Rat)/l.dir.dot l.dir)*(l.a:Rat), -((l.c:Rat)/l.dir.dot l.dir)*(l.b:Rat)⟩:ab)=l.base:=by
 unfold aa.base;rw[JH];simp only[aa.nor,ab.scale,ab.mk.injEq];constructor<;>grind
def tL(l:aa)(t:Rat):bF l.base l.dir t=l.at t:=by
 simp only[bF,aa.at,ab.add,ab.scale,ab.mk.injEq];constructor<;>grind
def Ct{l m:aa}(hl:l.Ne)(h:crossI l m≠0):gk l (d9 l m)= -(l.cutC m/l.cutK m):=by
 have hd:((crossI l m:Int):Rat)≠0:=fun e=>h (dV.1 e);have hn:=Bn hl;obtain⟨q,q1,q2⟩:=BT hl;rw[FH];unfold gk d9 aa.cutC;rw[if_neg h,q2,iG,MO,Nu];have hc:=Ca l m;rw[JH] at hn⊢;simp only[aa.dir,aa.nor,ab.dot] at hn q1⊢;generalize ((crossI l m:Int):Rat)=d at*;generalize (l.a:Rat)=a at*;generalize (l.b:Rat)=b at*;generalize (l.c:Rat)=c at*;generalize (m.a:Rat)=x at*;generalize (m.b:Rat)=y at*;generalize (m.c:Rat)=z at*;have hn':a*a+b*b≠0:=by grind
 have e:((b*z-y*c)/d*b+(x*c-a*z)/d* -a)=((b*z-y*c)*b-(x*c-a*z)*a)/d:=by grind
 rw[e];have k1:(b*z-y*c)*b-(x*c-a*z)*a=(a*a+b*b)*(x*(a*q)+y*(b*q)+z):=by grind
 rw[k1];grind
def VS{l m:aa}(hl:l.Ne)(h:crossI l m≠0):gk l (d9 l m)*((crossI l m*(l.a*l.a+l.b*l.b):Int):Rat)=((meetX l m*l.b-meetY l m*l.a:Int):Rat):=by
 have hd:((crossI l m:Int):Rat)≠0:=fun e=>h (dV.1 e);have hn:=Bn hl;unfold gk d9;rw[if_neg h];simp only[cY,jL,pT];simp only[aa.dir,ab.dot] at hn⊢;generalize ((crossI l m:Int):Rat)=d at*;generalize ((meetX l m:Int):Rat)=x at*;generalize ((meetY l m:Int):Rat)=y at*;generalize (l.a:Rat)=a at*;generalize (l.b:Rat)=b at*;have hn':b*b+ -a* -a≠0:=by grind
 grind
def KJ(l m:aa)(t:List aa)(v:ah):fj l (m::t) v=if m=l then fj l t v else if l.cutB v m then fj l t (l.cutV v m) else none:=rfl
def ph(v:ah)(t:Rat):ah:=if v.nl=true\/0<bg t v.lo then⟨t,v.hi,false,v.nh⟩ else v
def pH(v:ah)(t:Rat):ah:=if v.nh=true\/bg t v.hi<0 then⟨v.lo,t,v.nl,false⟩ else v
structure gH (v:ah):Prop where
 lo:v.nl=true->v.lo=0
 hi:v.nh=true->v.hi=0
def HM(a b:Rat):0<bg a b↔b<a:=by
 unfold bg;split
 ·constructor
  ·intro h;exact absurd h (by decide)
  ·intro h;grind
 ·split
  ·exact⟨fun _=>by assumption,fun _=>by decide⟩
  ·constructor
   ·intro h;exact absurd h (by decide)
   ·intro h;exact absurd h (by assumption)
def A5(a b:Rat):bg a b<0↔a<b:=by
 unfold bg;split
 ·exact⟨fun _=>by assumption,fun _=>by decide⟩
 ·split
  ·constructor
   ·intro h;exact absurd h (by decide)
   ·intro h;grind
  ·constructor
   ·intro h;exact absurd h (by decide)
   ·intro h;exact absurd h (by assumption)
def Ry{v:ah}(h:gH v)(t:Rat):ph v t=v.meet ⟨t,0,false,true⟩:=by
 obtain⟨lo,hi,nl,nh⟩:=v;obtain⟨h1,h2⟩:=h;unfold ph ah.meet;simp only[HM] at*
 cases nl<;>cases nh<;>simp at* <;>(try (split<;>split<;>simp_all<;>grind))<;>grind
def Rv{v:ah}(h:gH v)(t:Rat):pH v t=v.meet ⟨0,t,true,false⟩:=by
 obtain⟨lo,hi,nl,nh⟩:=v;obtain⟨h1,h2⟩:=h;unfold pH ah.meet;simp only[A5] at*
 cases nl<;>cases nh<;>simp at* <;>(try (split<;>split<;>simp_all<;>grind))<;>grind
def gH.all:gH ah.all:=⟨fun _=>J,fun _=>J⟩
def gH.lo'{v:ah}(h:gH v)(t:Rat):gH (ph v t):=by
 obtain⟨lo,hi,nl,nh⟩:=v;unfold ph;split
 ·exact⟨fun h=>by simp at h,h.hi⟩
 ·exact h
def gH.hi'{v:ah}(h:gH v)(t:Rat):gH (pH v t):=by
 obtain⟨lo,hi,nl,nh⟩:=v;unfold pH;split
 ·exact⟨h.lo,fun h=>by simp at h⟩
 ·exact h
def B3{l m:aa}{v:ah}(h:crossI l m=0):l.cutV v m=v/\(l.cutB v m=true↔0<m.value l.base):=by
 have hk:l.cutK m=0:=by rw[FH,h];rfl
 exact Bs v hk
def YK{l m:aa}{v:ah}(hl:l.Ne)(hz:gH v)(h:0<m.dir.cross l.dir):crossI l m≠0/\l.cutV v m=ph v (gk l (d9 l m))/\l.cutB v m=!(ph v (gk l (d9 l m))).empty:=by
 rw[Rp] at h;have hc:crossI l m≠0:=fun e=>by rw[FH,e] at h;exact absurd h (by decide)
 obtain⟨h1,h2⟩:=BU v h;refine⟨hc,?_,?_⟩
 ·rw[Ry hz,Ct hl hc,h1]
 ·rw[Ry hz,Ct hl hc,<-h1]
  rw[<-Fy] at h2
  cases hb:l.cutB v m<;>cases he:(l.cutV v m).empty<;>simp_all
def Ya{l m:aa}{v:ah}(hl:l.Ne)(hz:gH v)(h0:crossI l m≠0)(h: ¬0<m.dir.cross l.dir):l.cutV v m=pH v (gk l (d9 l m))/\l.cutB v m=!(pH v (gk l (d9 l m))).empty:=by
 rw[Rp] at h;have hk:l.cutK m≠0:=fun e=>by
  rw[FH] at e;have:((crossI l m:Int):Rat)=0:=by grind
  exact h0 (dV.1 this)
 obtain⟨h1,h2⟩:=Bt (l:=l) (m:=m) v (by grind);refine⟨?_,?_⟩
 ·rw[Rv hz,Ct hl h0,h1]
 ·rw[Rv hz,Ct hl h0,<-h1]
  rw[<-Fy] at h2
  cases hb:l.cutB v m<;>cases he:(l.cutV v m).empty<;>simp_all
def relo(fl:Nat->Bool)(o:av):av:={o with lo:=fl o.b}
structure mz (P:Program) (f:FuncId) (vs:List Value) (M:List av) (G:Gh) (K:Value->List av->Gh->Prop):Prop where
 able:rh P f
 run: ∀w,bt ⟨w,G,M.map (·.b),[],[],none,fun _=>none⟩ (asB M) G w->
  Calls P f ⟨vs⟩ w fun e w'=> ∃v own' G',e= .returned v/\bt ⟨w,G,M.map (·.b),[],[],none,fun _=>none⟩ own' G' w'/\K v own' G'
def gu(M:List av)(b:Nat):Bool:=M.all fun m=>!Nat.beq m.b b||m.lo
def bt.calledO{C:aB}{M rest own':List av}{G G':Gh}{w w':World}(h:bt C (M++rest) G w)(k:bt ⟨w,G,M.map (·.b),[],[],none,fun _=>none⟩ own' G' w'):
  bt C (own'.map (relo (gu M))++rest) G' w':=by
 have hsz:w.heap.size<=w'.heap.size:=k.size;have hnd:=h.nd;have inM: ∀b,b∈M.map (·.b)-> ∀o∈rest,o.b≠b:=fun b hb o ho e=>by
  obtain⟨m,hm,rfl⟩:=bQ.1 hb;exact(gX.1 hnd).2.2 m hm o ho e.symm
 have bnd: ∀o∈own',o.b∉M.map (·.b)->w.heap.size<=o.b:=fun o ho hb=>by
  obtain⟨_,_,h3,h4⟩:=k.hown o ho
  cases hlo:o.lo with
  |true=>exact h3 hlo
  |false=>exact absurd (h4 hlo) hb
 refine⟨k.os.trans h.os,k.tape.trans h.tape,k.output.trans h.output,cR h.size hsz,?_,k.sub,h.gle.trans k.gle,?_,?_,?_,cR h.dr k.dr,fun p hp=>⟨(h.ext p hp).1,by rw[k.keep _ (ic (h.ext p hp).2) (h.extM hp)];exact(h.ext p hp).2⟩⟩
 ·intro b hb hm
  have hs:=h.size;have hnM:b∉M.map (·.b):=fun hb'=>by
   obtain⟨m,hmM,rfl⟩:=bQ.1 hb';obtain⟨_,_,h3,h4⟩:=h.hown m (bT _ hmM)
   cases hlo:m.lo with
   |true=>have:=h3 hlo;omega
   |false=>exact hm (h4 hlo)
  rw[k.keep b (by show b<w.heap.size;omega) hnM];exact h.keep b hb hm
 ·intro b hb;have:=h.size;rw[k.gold b (by show b<w.heap.size;omega)];exact h.gold b hb
 ·intro o ho
  have hs:=h.size;rcases bK.1 ho with ho|ho
  ·obtain⟨o',ho',rfl⟩:=bQ.1 ho
   obtain⟨k1,k2,k3,k4⟩:=k.hown _ ho';refine⟨k1,k2,fun hl=>?_,fun hl=>?_⟩
   ·show C.w0.heap.size<=o'.b
    by_cases hb:o'.b∈M.map (·.b)
    ·obtain⟨m,hm,hmb⟩:=bQ.1 hb
     have hl':gu M o'.b=true:=hl;have:=dK.1 hl' m hm;simp only[hmb,iV,gV,oJ] at this;obtain⟨_,_,h3,_⟩:=h.hown m (bT _ hm);rw[<-hmb];exact h3 (by rcases this with h|h;(cases h);(exact h))
    ·have:=bnd o' ho' hb;omega
   ·show o'.b∈C.mb
    have hl':gu M o'.b=false:=hl;obtain⟨m,hm,hmb⟩:=List.all_eq_false.1 hl';simp only[iV,gV,not_or] at hmb;obtain⟨h1,h2⟩:=hmb;have e:m.b=o'.b:=by
     cases hq:Nat.beq m.b o'.b with
     |true=>exact aR hq
     |false=>exact absurd hq h1
    obtain⟨_,_,_,h4⟩:=h.hown m (bT _ hm);rw[<-e];exact h4 (by cases hq:m.lo with
     |true=>exact absurd hq h2
     |false=>rfl)
  ·obtain⟨h1,h2,h3⟩:=h.hown o (cJ _ ho)
   have hnM:o.b∉M.map (·.b):=fun hb=>inM _ hb o ho J;exact⟨by rw[k.keep _ (ic h1) hnM];exact h1,by rw[k.gold _ (ic h1)];exact h2,h3⟩
 ·refine gX.2 ⟨?_,(gX.1 hnd).2.1,?_⟩
  ·rw[rW];exact k.nd
  ·intro x hx y hy
   obtain⟨o',ho',rfl⟩:=bQ.1 hx;show o'.b≠y.b;by_cases hb:o'.b∈M.map (·.b)
   ·exact fun e=>inM _ hb y hy e.symm
   ·have h1:=bnd o' ho' hb
    have h2:=ic (h.hown y (cJ _ hy)).1;omega
def tY(C:aB)(K:Value->List av->Gh->Prop):Ending->World->Prop:=fun e w'=> ∃v own' G',e= .returned v/\bt C own' G' w'/\K v own' G'
def mz.introR{P:Program}{G:Gh}{f:FuncId}{fn:Func}{c:Code}{vs:List Value}{m:Nat}{M:List av}{K:Value->List av->Gh->Prop}(hf:P.funcs[f]? =some fn)(hb:fn.body=some c)(hn:(fn.name== "runtime.NumGoroutine")=false)(hm:fn.ntmps=m)(hlen:Nat.ble vs.length m=true)
  (h: ∀C:aB,C.G0=G->C.mb=M.map (·.b)->C.rd=none->(C.fx=fun _=>none)->St C m (oH 0 vs) (asB M) G (c.wp P (ge C P fn (tY C K)))):mz P f vs M G K:=by
 refine⟨⟨fn,hf,hn,by simp[hb]⟩,fun w hw=>?_⟩;have hlen':vs.length<=m:=by simpa using hlen
 have:=calls_of_wp (P:=P) (f:=f) (args:=⟨vs⟩) (w:=w) (R:=tY ⟨w,G,M.map (·.b),[],[],none,fun _=>none⟩ K) hf hb (wp_mono (h ⟨w,G,M.map (·.b),[],[],none,fun _=>none⟩ J J J J _ w
  ⟨hw,by simp;omega,fun k v hk=>by
   obtain⟨j,rfl,hj⟩:=vV vs 0 k v hk;have hj':=(aS.1 hj).1;rw[kX (by simpa using hj')];simpa using hj,J⟩) fun _ _ _ k=>k J)
 exact this
section
variable {P:Program} {C:aB} {n:Nat} {fr:Fr} {own own':List av} {G:Gh} {Φ:Act->World->Prop}
variable {dst:Option Nat} {t t' ty':TypeId} {pos:String} {af:Array Edge} {gd:Option (Nat×Bool)} {x y:Operand}
def OW{fn:Func}{K:Value->List av->Gh->Prop}{vs:List Value}(hr:kt P fr own fn.results.toList vs)(own2 own3:List av)(hp:own.Perm own2)(hs:own3.Sublist own2)(hk:K (ip vs) own3 G):St C n fr own G (ge C P fn (tY C K) .ret):=
 fun a w rl hmk=>⟨rl.df.trans hmk,_,u9 hr rl.fr rl.h,_,own3,G,J,(rl.h.perm hp).drop hs,hk⟩
def Xo{f:FuncId}{fo:Operand}{args:Array Operand}{tys:Array TypeId}{vs c1 c2:List Value}{M rest:List av}{K:Value->List av->Gh->Prop}(ho:ax fr fo=some (.func (.func f) ⟨c1⟩ ⟨c2⟩))(hv:fH fr args.toList=some vs)
  (hp:own.Perm (M++rest))(hF:mz P f (c1++vs++c2) M G K)(hd:b8 n dst=true)(h: ∀v own1 (G':Gh),[GE G G']->K v own1 G'->St C n (put fr dst v) (own1.map (relo (gu M))++rest) G' Φ):
  Ch P C n fr own G ⟨dst, .call ⟨.value fo,args,tys⟩,ty',pos,af,gd⟩ Φ:=by
 intro a w Q rl;have h2:=Df (P:=P) (dst:=dst) (ty':=ty') (pos:=pos) (af:=af) (gd:=gd) (tys:=tys) (w:=w) hF.able rl.fr ho hv;simp only[Oper.wp,h2,Oper.upon];have hh0:=rl.h.perm hp;refine(hF.run w hh0.lend).mono ?_;rintro e w' ⟨v,own1,G',rfl,hh,hK⟩;exact @h v own1 G' ⟨hh.gle⟩ hK _ _ ((rl.heap (hh0.calledO hh)).put _ hd)
def vt{f:FuncId}{fo:Operand}{args:Array Operand}{tys:Array TypeId}{vs:List Value}{M rest:List av}{K:Value->List av->Gh->Prop}(ho:ax fr fo=some (.func (.func f) #[] #[]))(hv:fH fr args.toList=some vs)
  (hp:own.Perm (M++rest))(hF:mz P f vs M G K)(hd:b8 n dst=true)(h: ∀v own1 (G':Gh),[GE G G']->K v own1 G'->St C n (put fr dst v) (own1.map (relo (gu M))++rest) G' Φ):
  Ch P C n fr own G ⟨dst, .call ⟨.value fo,args,tys⟩,ty',pos,af,gd⟩ Φ:=
 Xo (c1:=[]) (c2:=[]) ho hv hp (by simpa using hF) hd h
end
section
variable {P:Program} {C:aB} {n:Nat} {fr:Fr} {own own' own1:List av} {G:Gh} {Φ:Act->World->Prop}
variable {dst:Option Nat} {t t' ty':TypeId} {pos:String} {af:Array Edge} {gd:Option (Nat×Bool)} {x y:Operand} {e s by_:Nat}
def ES{v:Value}{b off k:Nat}{cs cs':List Value}{ty:TypeId}{lo:Bool}(hx:ax fr x=some (.pointer (some ⟨b,off,none⟩)))(hy:ax fr y=some v)[hs:lu P t k][ho:io own b cs ty lo]
  (hc:cC cs off (aD v)=cs')(hu:fE own b cs ty lo cs' own')(hk:(aD v).length=k)(hl:off+k<=cs.length)(hf:(aD v).all flat=true)(hd:b8 n dst=true)(h:St C n (put fr dst undef) own' G Φ):
  Ch P C n fr own G ⟨dst, .store t x y,ty',pos,af,gd⟩ Φ:=CQ hx hy (hc▸hu) hk hl hf hd h
def AH{v:Value}{b off:Nat}{cs cs':List Value}{ty:TypeId}{lo:Bool}(hx:ax fr x=some (.pointer (some ⟨b,off,none⟩)))(hy:ax fr y=some v)[hs:jl P t][ho:io own b cs ty lo]
  (hc:cs.set off v=cs')(hu:fE own b cs ty lo cs' own')(hl:off<cs.length)(hf:flat v=true)(hd:b8 n dst=true)(h:St C n (put fr dst undef) own' G Φ):
  Ch P C n fr own G ⟨dst, .store t x y,ty',pos,af,gd⟩ Φ:=wQ hx hy (hc▸hu) hl hf hd h
def VY[hT:cv P t e s by_]{ad:Option Addr}{len cap:Nat}(hx:ax fr x=some (.slice ad len cap)):
  Yd P C fr own G ⟨dst, .call ⟨.builtin .cap, #[x], #[t]⟩,ty',pos,af,gd⟩ (.int .i64 cap):=by
 intro a w hf hh;simp only[execOp,resolve,gM,cK,kQ,bc hf hx];have h1:(Builtin.cap_ #[t] ty' #[.slice ad len cap]).run P w= .ok (.int .i64 cap) w:=by
  simp only[Builtin.cap_];show(underlying t>>=_).run P w=_;rw[aG (hT.u w)];rfl
 exact cO h1
def ayv{w:World}[hT:cv P t e s by_]{b off l c l2 c2 m:Nat}{ad2:Option Addr}{cs ys:List Value}{ty:TypeId}(hm:Nat.min l2 l=m)
  (hb:w.heap[b]? =some (.cells ⟨cs⟩ ty (0,0)))(hsy:(Builtin.firstCells s m (.slice ad2 l2 c2)).run P w= .ok ⟨ys⟩ w)(hf: ∀v∈ys,flat v=true)(hl:off+ys.length<=cs.length):
  (Builtin.copy_ #[t,t'] ty' #[.slice (some ⟨b,off,none⟩) l c, .slice ad2 l2 c2]).run P w=
   .ok (.int .i64 m) (gp w b (.cells ⟨cC cs off ys⟩ ty (0,0))):=by
 obtain⟨i,hi,his,hib⟩:=hT.info;subst his;have hst:=zr (P:=P) ys w off 0 cs hf hb (by omega);rw[fQ] at hst;subst hm;simp[Builtin.copy_,run_underlying hT.un,sizeOf,typeInfo,hi,Builtin.lenOf,hsy,hst];rfl
def QS[hT:cv P t e s by_]{b off l c l2 c2 m:Nat}{ad2:Option Addr}{cs ys:List Value}{ty:TypeId}{lo:Bool}(hx:ax fr x=some (.slice (some ⟨b,off,none⟩) l c))(hy:ax fr y=some (.slice ad2 l2 c2))
  (hm:Nat.min l2 l=m)(hsy:om P C own G s m (.slice ad2 l2 c2) ys)(hf: ∀v∈ys,flat v=true)(hl:off+ys.length<=cs.length)(hu:fE own b cs ty lo (cC cs off ys) own')(hd:b8 n dst=true)
  (h:St C n (put fr dst (.int .i64 m)) own' G Φ):Ch P C n fr own G ⟨dst, .call ⟨.builtin .copy, #[x,y], #[t,t']⟩,ty',pos,af,gd⟩ Φ:=by
 intro a w Q rl;have hb:=(rl.h.hown _ (hu.spec rl.h.nd).1).1;refine kA (v:= .int .i64 m) (w':=gp w b (.cells ⟨cC cs off ys⟩ ty (0,0))) ?_ (h _ _ ((rl.heap (rl.h.store hu)).put _ hd));simp only[execOp,resolve,gM,cK,kQ,bc rl.fr hx,bc rl.fr hy];exact cO (ayv hm hb (hsy w rl.h) hf hl)
def Tl[hT:cv P t e s by_][hN:lj P t']{b len cap m cap2:Nat}{ad2:Option Addr}{cs ys:List Value}{lo:Bool}
  (hx:ax fr x=some (.slice (some ⟨b,0,none⟩) len cap))(hy:ax fr y=some (.slice ad2 m cap2))(hu:fE own b cs e lo (cC cs (len*s) ys) own')(hcs:cs.length=cap*s)
  (hsy:om P C own G s m (.slice ad2 m cap2) ys)(hys:ys.length=m*s)(hf: ∀v∈ys,flat v=true)(hneed:len+m<=cap)(hd:b8 n dst=true)
  (h:St C n (put fr dst (.slice (some ⟨b,0,none⟩) (len+m) cap)) own' G Φ):
  Ch P C n fr own G ⟨dst, .call ⟨.builtin .append, #[x,y], #[t,t']⟩,ty',pos,af,gd⟩ Φ:=by
 intro a w Q rl;have hb:=(rl.h.hown _ (hu.spec rl.h.nd).1).1;refine kA (v:= .slice (some ⟨b,0,none⟩) (len+m) cap) (w':=gp w b (.cells ⟨cC cs (len*s) ys⟩ e (0,0))) ?_ (h _ _ ((rl.heap (rl.h.store hu)).put _ hd));simp only[execOp,resolve,gM,cK,kQ,bc rl.fr hx,bc rl.fr hy];exact cO (Jg hb hcs (hsy w rl.h) hys hf hneed)
def alM[hT:cv P t e s by_][hN:lj P t']{z:Value}[hz:iu P e z]{b len cap m cap2:Nat}{ad2:Option Addr}{xs ys rest:List Value}{lo:Bool}
  (hx:ax fr x=some (.slice (some ⟨b,0,none⟩) len cap))(hy:ax fr y=some (.slice ad2 m cap2))(hr:j9 own ⟨b,xs++rest,e,lo⟩ own1)(hxs:xs.length=len*s)(hcap:xs.length+rest.length=cap*s)(hlc:len<=cap)
  (hsy:om P C own G s m (.slice ad2 m cap2) ys)(hys:ys.length=m*s)(hf: ∀v∈ys,flat v=true)
  (hby:0<by_)(hb:(len+m)*by_<=140737488355328)(hzs:(aD z).length=s)(hd:b8 n dst=true)
  (h: ∀b lo' cap' rest',len+m<=cap'->rest'.length+(len+m)*s=cap'*s->St C n (put fr dst (.slice (some ⟨b,0,none⟩) (len+m) cap')) (⟨b,xs++ys++rest',e,lo'⟩::own1) G Φ):
  Ch P C n fr own G ⟨dst, .call ⟨.builtin .append, #[x,y], #[t,t']⟩,ty',pos,af,gd⟩ Φ:=by
 intro a w Q rl;have hp:=rl.h.perm hr.perm;have hblk:=(hp.hown _ aQ).1;simp only[] at hblk;by_cases hneed:len+m<=cap
 ·have hcs:(xs++rest).length=cap*s:=by simp;omega
  have hrun:=Jg (P:=P) (t:=t) (t':=t') (ty':=ty') (w:=w) (len:=len) hblk hcs (hsy w rl.h) hys hf hneed;have hle:len*s+m*s<=cap*s:=by rw[<-cS];exact bW _ hneed
  have hov:cC (xs++rest) (len*s) ys=xs++ys++rest.drop (m*s):=by
   rw[py _ _ _ (by rw[hys];omega),<-hxs];simp[hys,nK]
  refine kA (v:= .slice (some ⟨b,0,none⟩) (len+m) cap) (w':=gp w b (.cells ⟨cC (xs++rest) (len*s) ys⟩ e (0,0))) ?_ ?_
  ·simp only[execOp,resolve,gM,cK,kQ,bc rl.fr hx,bc rl.fr hy]
   exact cO hrun
  ·rw[hov]
   refine h b lo cap (rest.drop (m*s)) hneed ?_ _ _ ((rl.heap (hp.store (.hd ..))).put _ hd);rw[gN,cS];omega
 ·have hx':om P C own G s len (.slice (some ⟨b,0,none⟩) len cap) xs:=fun w' hw'=>by
   have hb':=(((hw'.perm hr.perm).hown _ aQ).1);refine Dv hb' ?_;rw[mj _ _ _ (by simp;omega),<-hxs];simp
  have hcap':len+m<=grownCap w (len+m) cap e:=by unfold grownCap;simp only[Question.cut];omega
  have hrun:=Jp (P:=P) (t:=t) (t':=t') (ty':=ty') (w:=w) (w':=w) (hx' _ rl.h.drew) (hsy _ rl.h.drew) (by omega) hby hb;refine kA (v:= .slice (some ⟨w.heap.size,0,none⟩) (len+m) (grownCap w (len+m) cap e)) (w':=w.drew.alloc (.cells ⟨xs++ys++dm z (grownCap w (len+m) cap e-(len+m))⟩ e)) ?_ ?_
  ·simp only[execOp,resolve,gM,cK,kQ,bc rl.fr hx,bc rl.fr hy]
   exact cO hrun
  ·refine h w.heap.size _ _ _ hcap' ?_ _ _ ((rl.heap (((hp.drew).drop (List.sublist_cons_self _ _)).alloc _ _)).put _ hd)
   rw[pD,hzs,<-cS];congr 1;omega
def Ze{f:FuncId}{fn:Func}{tS tR:TypeId}(hf:P.funcs[f]? =some fn)(hname:(fn.name== "runtime.NumGoroutine")=false)(hb:fn.body.isNone=true)(hn:Extern.findNext fn=none)
  (he:Extern.find fn=some (Extern.SlicesOverlaps.overlaps #[tS,tS] #[tR]))[hT:cv P tS e s by_]{args:Array Operand}{tys:Array TypeId}{fo:Operand}
  {b1 b2 o1 o2 l1 l2 c1 c2:Nat}{cs1 cs2:List Value}{t1 t2:TypeId}{lo1 lo2:Bool}(ho:ax fr fo=some (.func (.func f) #[] #[]))
  (hv:fH fr args.toList=some [.slice (some ⟨b1,o1,none⟩) l1 c1, .slice (some ⟨b2,o2,none⟩) l2 c2])[h1:io own b1 cs1 t1 lo1][h2:io own b2 cs2 t2 lo2](hne:b1≠b2)(hc2:cs2≠[]):
  Yd P C fr own G ⟨dst, .call ⟨.value fo,args,tys⟩,ty',pos,af,gd⟩ (.bool false):=by
 intro a w hfr hh;have e1:=(hh.hown _ h1.mem).1;have e2:=(hh.hown _ h2.mem).1;have ev:args.map a.eval=⟨[.slice (some ⟨b1,o1,none⟩) l1 c1, .slice (some ⟨b2,o2,none⟩) l2 c2]⟩:=by apply Array.ext';simpa using Ee hfr hv
 simp only[] at e1 e2;have hrun:=Lib.run_overlaps_apart (P:=P) w tS tR e hT.un s hT.siz ⟨b1,o1,none⟩ ⟨b2,o2,none⟩ l1 c1 l2 c2 hne t1 t2 cs1.length cs2.length
  (by simp[World.shape?,e1]) (by simp[World.shape?,e2]) (by simpa using hc2) (by simp[World.frozen?,e1]) (by simp[World.frozen?,e1])
 simp only[execOp,resolve,bc hfr ho,ev,Deferred.ofValue];show(invoke (.fn (.func f) #[]) _).run P w=_;simp only[invoke];have h3:=run_callFunc_extern (P:=P) hf hname hb hn he;rw[h3];simp[hrun,Result.andThen]
end
instance kg.cons2 (l m:List av) (o:av) [h:kg l m]:kg (o::l) (o::m):=⟨h.s.cons_cons o⟩
def U7{P:Program}{C:aB}{n:Nat}{fr:Fr}{own own0:List av}{G:Gh}{ops:Array Oper}{Q:Exit->Act->World->Prop}{b:Nat}{cs:List Value}{ty:TypeId}{lo:Bool}(fin:Nat->Bool)(π:List (Nat×Bool)){id:Nat}(hm:P.follows .mixedOrders=true)(_hr:j9 own ⟨b,cs,ty,lo⟩ own0)(ho:(rg ops fin π (Array.replicate ops.size false)&&Nat.ble π.length ops.size)=true)
  (h:St C n fr own G (gh P ops (fP Q) (HS C own0 G) fin π)):St C n fr own G ((Code.region id ops true).wp P Q):=by
 simp only[bL] at ho;intro a w rl;exact wp_mono (wp_region_any hm (FA _ _ _ _ (B5 (fun _ _ _ _ _ h=>h) π _ a _ ho.1 (h a _ (rl.heap rl.h.drew)) _ (by simpa using ho.2)))) fP.imp
def aA(vs:List Value):List Value:=(vs.map aD).flatten
def eB{s:Nat}: ∀(vs:List Value),(∀v∈vs,(aD v).length=s)->(aA vs).length=vs.length*s
 |[],_=>by simp[aA]
 |v::vs,h=>by
  have h1:=eB vs (fun u hu=>h u (aJ _ hu));have h2:=h v aQ;unfold aA at*;simp only[cK,lV,aV,bX,h1,h2,iR];omega
def qC(us vs:List Value):aA (us++vs)=aA us++aA vs:=by simp[aA]
def JC(v:Value):aA [v]=aD v:=by simp[aA]
def E'{s:Nat}: ∀(vs:List Value) (i:Nat),(∀v∈vs,(aD v).length=s)->i<=vs.length->(aA vs).take (i*s)=aA (vs.take i)
 |vs,0,_,_=>by simp[aA]
 |[],i+1,_,h=>by simp at h
 |v::vs,i+1,h,hi=>by
  have h1:=E' vs i (fun u hu=>h u (aJ _ hu)) (by simpa using hi);have h2:=h v aQ;unfold aA at*;simp only[cK,lV,mL];rw[List.take_append,h2,aL (by rw[h2,iR];omega),iR,lQ,h1]
def DN{s:Nat}: ∀(vs:List Value) (i:Nat),(∀v∈vs,(aD v).length=s)->i<=vs.length->(aA vs).drop (i*s)=aA (vs.drop i)
 |vs,0,_,_=>by simp
 |[],i+1,_,h=>by simp at h
 |v::vs,i+1,h,hi=>by
  have h1:=DN vs i (fun u hu=>h u (aJ _ hu)) (by simpa using hi);have h2:=h v aQ;unfold aA at*;simp only[cK,lV,sN];rw[nK,h2,kV (by rw[h2,iR];omega),iR,lQ,h1,kS]
def KB{s:Nat}{vs rest:List Value}(h: ∀v∈vs,(aD v).length=s){i:Nat}(hi:i<vs.length):cE (aA vs++rest) (i*s) s=some (aD vs[i]):=by
 have hl:=eB vs h;have hle:i*s+s<=vs.length*s:=by rw[<-iR];exact bW _ hi
 rw[mj _ _ _ (by simp only[aV];omega)];congr 1;rw[jY (by omega),DN vs i h (by omega),bZ hi];have h2:=h vs[i] (bM hi);rw[show(vs[i]::vs.drop (i+1))=[vs[i]]++vs.drop (i+1) from J,qC,JC,gW,eY (by omega),aL (by omega)]
def eH.of_flat{G:Gh}{b c s:Nat}{vs rest:List Value}(h: ∀v∈vs,(aD v).length=s)(hg:G b=some (aA vs++rest))(hc:vs.length<=c):eH G s ⟨some ⟨b,0,none⟩,vs.length,c⟩ vs:=
 ⟨J,hc, .inr ⟨b,0,_,J,hg,fun i hi=>by rw[eK];exact KB h hi⟩⟩
section
variable {P:Program} {C:aB} {n:Nat} {fr:Fr} {own own':List av} {G:Gh} {Φ:Act->World->Prop}
variable {dst:Option Nat} {ty':TypeId} {pos:String} {af:Array Edge} {gd:Option (Nat×Bool)} {x y:Operand} {tys:Array TypeId}
def Wh{ops:Array Oper}{Q:Exit->Act->World->Prop}(own0:List av)(fin:Nat->Bool)(π:List (Nat×Bool)){id:Nat}(hm:P.follows .mixedOrders=true)(ho:(rg ops fin π (Array.replicate ops.size false)&&Nat.ble π.length ops.size)=true)
  (h:St C n fr own G (gh P ops (fP Q) (HS C own0 G) fin π)):St C n fr own G ((Code.region id ops true).wp P Q):=by
 simp only[bL] at ho;intro a w rl;exact wp_mono (wp_region_any hm (FA _ _ _ _ (B5 (fun _ _ _ _ _ h=>h) π _ a _ ho.1 (h a _ (rl.heap rl.h.drew)) _ (by simpa using ho.2)))) fP.imp
end
section
variable {P:Program} {ops:Array Oper} {Q:Exit->Act->World->Prop} {S:World->Prop} {fin:Nat->Bool} {π₂:List (Nat×Bool)}
def bz(l:List Nat)(k:Nat):List Nat:=l.filter fun j=>!Nat.beq j k
def Jd{l:List Nat}{k:Nat}(h:k∈l):(bz l k).length<l.length:=by
 unfold bz;rw[pM];exact⟨k,h,by simp⟩
def AN(ops:Array Oper)(fin:Nat->Bool)(π₂:List (Nat×Bool)):Nat->List Nat->List (Nat×Bool)->Array Bool->Bool
 |0,_,_,_=>false
 |_+1,[],[],listed=>rg ops fin π₂ listed
 |n+1,k::ks,[],listed=>!(Region.ready .any ops listed).isEmpty&&(Region.ready .any ops listed).all (fun j=>(k::ks).contains j)&&(k::ks).all fun j=>AN ops fin π₂ n (bz (k::ks) j) [] (listed.setIfInBounds j true)
 |n+1,ks,(i,true)::r,listed=>yk ops fin listed i&&AN ops fin π₂ n ks r (listed.setIfInBounds i true)
 |n+1,ks,(i,false)::r,listed=>!(Region.ready .any ops listed).isEmpty&&(Region.ready .any ops listed).all (fun j=>Nat.beq j i||ks.contains j)&&AN ops fin π₂ n ks r (listed.setIfInBounds i true)&&ks.all fun j=>AN ops fin π₂ n (bz ks j) ((i,false)::r) (listed.setIfInBounds j true)
def Cu(P:Program)(ops:Array Oper)(Q:Exit->Act->World->Prop)(S:World->Prop)(fin:Nat->Bool)(π₂:List (Nat×Bool)):List Nat->List (Nat×Bool)->Act->World->Prop
 |[],[],a,w=>gh P ops Q S fin π₂ a w
 |k::ks,[],a,w=> ∀j,(h:j∈k::ks)->wpOp P ops Q j (fun a' w'=>(fin j=true\/S w')/\Cu P ops Q S fin π₂ (bz (k::ks) j) [] a' w') a w
 |ks,(i,true)::r,a,w=> ∃o v,ops[i]? =some o/\S w/\YieldsIf P ops S o v a/\Cu P ops Q S fin π₂ ks r (a.put o.dst v) w
 |ks,(i,false)::r,a,w=>wpOp P ops Q i (fun a' w'=>(fin i=true\/S w')/\Cu P ops Q S fin π₂ ks r a' w') a w/\
   ∀j,(h:j∈ks)->wpOp P ops Q j (fun a' w'=>(fin j=true\/S w')/\Cu P ops Q S fin π₂ (bz ks j) ((i,false)::r) a' w') a w
termination_by ks π=>ks.length+π.length
decreasing_by
 all_goals (first|(have:=Jd h;simp only[bX,fU] at*;omega)|(simp only[bX];omega))
end
structure FD where
 k:Nat
 d:Nat
 t:TypeId
 z:Value
abbrev Fs:=Nat->Option Nat
def Gs:List FD->Fs->Fr
 |[],_=>[]
 |f::r,fs=>fF f.d (fs f.k)++Gs r fs
def GN:List FD->Fs->List av
 |[],_=>[]
 |f::r,fs=>fO f.t f.z (fs f.k)++GN r fs
def HW(fd:List FD)(fs:Fs):List Nat:=(fd.filter fun f=>(fs f.k).isNone).map (·.k)
def aJP(fs:Fs)(k b:Nat):Fs:=fun j=>if j=k then some b else fs j
structure aKa (P:Program) (ops:Array Oper) (n:Nat) (fd:List FD):Prop where
 op: ∀f∈fd,∃ty' pos af,ops[f.k]? =some ⟨some f.d, .alloc f.t,ty',pos,af,none⟩/\b8 n (some f.d)=true
 z: ∀f∈fd,iu P f.t f.z
 nd:(fd.map (·.k)).Nodup
 dd: ∀f∈fd,∀g∈fd,f.d=g.d->f.k=g.k
section
variable {P:Program} {C:aB} {n:Nat} {fr:Fr} {own own0:List av} {G G0:Gh} {ops:Array Oper} {Q:Exit->Act->World->Prop} {fin:Nat->Bool} {π π₂:List (Nat×Bool)} {fd:List FD}
def dwH(P:Program)(ops:Array Oper)(Q:Exit->Act->World->Prop)(S:World->Prop)(fin:Nat->Bool)(π₂:List (Nat×Bool))(fd:List FD)(fs:Fs)(π:List (Nat×Bool)):Act->World->Prop:=Cu P ops Q S fin π₂ (HW fd fs) π
end
def kC(s:Nat)(ty:TypeId)(x:SV)(vs:List Value)(B:List av):Prop:=
 (vs=[]/\x=⟨none,0,0⟩/\B=[])\/
 ∃b rest lo,x=⟨some ⟨b,0,none⟩,vs.length,x.c⟩/\B=[⟨b,aA vs++rest,ty,lo⟩]/\(aA vs).length=vs.length*s/\(aA vs).length+rest.length=x.c*s/\vs.length<=x.c
def kC.nil(s:Nat)(ty:TypeId):kC s ty ⟨none,0,0⟩ [] []:= .inl ⟨J,J,J⟩
def kC.relo{s:Nat}{ty:TypeId}{x:SV}{vs:List Value}{B:List av}(h:kC s ty x vs B)(fl:Nat->Bool):kC s ty x vs (B.map (Go.Sx.relo fl)):=by
 rcases h with⟨h1,h2,h3⟩|⟨b,rest,lo,h1,h2,h3,h4,h5⟩
 ·exact .inl ⟨h1,h2,by rw[h3];rfl⟩
 ·exact .inr ⟨b,rest,fl b,h1,by rw[h2];rfl,h3,h4,h5⟩
def kC.asB{s:Nat}{ty:TypeId}{x:SV}{vs:List Value}{B:List av}(h:kC s ty x vs B):kC s ty x vs (asB B):=by
 rcases h with⟨h1,h2,h3⟩|⟨b,rest,lo,h1,h2,h3,h4,h5⟩
 ·exact .inl ⟨h1,h2,by rw[h3];rfl⟩
 ·exact .inr ⟨b,rest,false,h1,by rw[h2];rfl,h3,h4,h5⟩
def kC.len{s:Nat}{ty:TypeId}{x:SV}{vs:List Value}{B:List av}(h:kC s ty x vs B):x.n=vs.length:=by
 rcases h with⟨h1,h2,h3⟩|⟨b,rest,lo,h1,h2,h3,h4,h5⟩
 ·rw[h2,h1];rfl
 ·rw[h1]
def EO{M:List av}(b:Nat)(h: ∀m∈M,m.lo=true):gu M b=true:=by
 refine dK.2 fun m hm=>?_;simp[h m hm]
section
variable {P:Program} {C:aB} {n:Nat} {fr:Fr} {own own':List av} {G:Gh} {Φ:Act->World->Prop}
variable {dst:Option Nat} {t t' ty':TypeId} {pos:String} {af:Array Edge} {gd:Option (Nat×Bool)} {x y:Operand} {e s by_:Nat}
end
instance kg.nil (l:List av):kg [] l:=⟨lJ l⟩
inductive DV where
 |v (x:Value)
 |ag (l:List DV)
 |tp (l:List DV)
 |pt (l:List DV)
 |op (b:Bool) (l:List DV)
 |sl (l:List DV)
mutual
def Is(G:Gh):DV->Value->Prop
 | .v x,y=>y=x
 | .ag l,y=> ∃m,y= .agg ⟨m⟩/\IsLs G l m
 | .tp l,y=> ∃m,y= .tuple ⟨m⟩/\IsLs G l m
 | .pt l,y=> ∃b m,y= .pointer (some ⟨b,0,none⟩)/\G b=some m/\IsLs G l m
 | .op b l,y=>(b=false/\y= .pointer none)\/(b=true/\ ∃b m,y= .pointer (some ⟨b,0,none⟩)/\G b=some m/\IsLs G l m)
 | .sl l,y=> ∃(s:Nat) (x:SV) (es:List Value),y= .slice x.a x.n x.c/\eH G s x es/\IsLs G l es
def IsLs(G:Gh):List DV->List Value->Prop
 |[],m=>m=[]
 |d::t,m=> ∃y n,m=y::n/\Is G d y/\IsLs G t n
end
mutual
def Is.up'{A G:Gh}(h:bp A G): ∀(d:DV) (y:Value),Is A d y->Is G d y
 | .v x,y,k=>by simp only[Is] at k⊢;exact k
 | .ag l,y,k=>by simp only[Is] at k⊢;obtain⟨m,e,k⟩:=k;exact⟨m,e,IsLs.up' h l m k⟩
 | .tp l,y,k=>by simp only[Is] at k⊢;obtain⟨m,e,k⟩:=k;exact⟨m,e,IsLs.up' h l m k⟩
 | .pt l,y,k=>by simp only[Is] at k⊢;obtain⟨b,m,e,hb,k⟩:=k;exact⟨b,m,e,h _ _ hb,IsLs.up' h l m k⟩
 | .op _ l,y,k=>by simp only[Is] at k⊢;exact k.imp id fun⟨e1,b,m,e,hb,k⟩=>⟨e1,b,m,e,h _ _ hb,IsLs.up' h l m k⟩
 | .sl l,y,k=>by simp only[Is] at k⊢;obtain⟨s,x,es,e,hs,k⟩:=k;exact⟨s,x,es,e,hs.up' h,IsLs.up' h l es k⟩
def IsLs.up'{A G:Gh}(h:bp A G): ∀(d:List DV) (y:List Value),IsLs A d y->IsLs G d y
 |[],y,k=>by simp only[IsLs] at k⊢;exact k
 |d::t,y,k=>by simp only[IsLs] at k⊢;obtain⟨u,n,e,h1,h2⟩:=k;exact⟨u,n,e,Is.up' h d u h1,IsLs.up' h t n h2⟩
end
section
variable {G:Gh}
def Is.up{A:Gh}{d:DV}{y:Value}(k:Is A d y)(h:bp A G):Is G d y:=Is.up' h d y k
def IsLs.up{A:Gh}{d:List DV}{y:List Value}(k:IsLs A d y)(h:bp A G):IsLs G d y:=IsLs.up' h d y k
def aI{x y:Value}:Is G (.v x) y↔y=x:=by simp only[Is]
def d6{l:List DV}{y:Value}:Is G (.ag l) y↔ ∃m,y= .agg ⟨m⟩/\IsLs G l m:=by simp only[Is]
def iH{l:List DV}{y:Value}:Is G (.tp l) y↔ ∃m,y= .tuple ⟨m⟩/\IsLs G l m:=by simp only[Is]
def so{l:List DV}{y:Value}:Is G (.pt l) y↔ ∃b m,y= .pointer (some ⟨b,0,none⟩)/\G b=some m/\IsLs G l m:=by simp only[Is]
def wk{b:Bool}{l:List DV}{y:Value}:Is G (.op b l) y↔(b=false/\y= .pointer none)\/(b=true/\Is G (.pt l) y):=by simp only[Is]
def iB{l:List DV}{y:Value}:Is G (.sl l) y↔ ∃(s:Nat) (x:SV) (es:List Value),y= .slice x.a x.n x.c/\eH G s x es/\IsLs G l es:=by simp only[Is]
def eG{m:List Value}:IsLs G [] m↔m=[]:=by simp only[IsLs]
def bh{d:DV}{t:List DV}{m:List Value}:IsLs G (d::t) m↔ ∃y n,m=y::n/\Is G d y/\IsLs G t n:=by simp only[IsLs]
def IsLs.nil:IsLs G [] []:=eG.2 J
def IsLs.cons{d:DV}{t:List DV}{y:Value}{n:List Value}(h:Is G d y)(k:IsLs G t n):IsLs G (d::t) (y::n):=bh.2 ⟨y,n,J,h,k⟩
def IsLs.uncons{d:DV}{t:List DV}{y:Value}{n:List Value}(h:IsLs G (d::t) (y::n)):Is G d y/\IsLs G t n:=by
 obtain⟨u,m,e,h1,h2⟩:=bh.1 h
 cases e
 exact⟨h1,h2⟩
def IsLs.len: ∀{d:List DV} {m:List Value},IsLs G d m->m.length=d.length
 |[],m,h=>by rw[eG.1 h];rfl
 |d::t,m,h=>by
  obtain⟨y,n,rfl,_,h2⟩:=bh.1 h;simp[h2.len]
def IsLs.get: ∀{l:List DV} {m:List Value} {i:Nat} {d:DV},IsLs G l m->l[i]? =some d-> ∃y,m[i]? =some y/\Is G d y
 |[],m,i,d,h,e=>by simp at e
 |x::t,m,0,d,h,e=>by
  obtain⟨y,n,rfl,h1,h2⟩:=bh.1 h;simp at e;subst e;exact⟨y,J,h1⟩
 |x::t,m,i+1,d,h,e=>by
  obtain⟨y,n,rfl,h1,h2⟩:=bh.1 h;simp at e;simpa using h2.get e
def IsLs.app: ∀{a b:List DV} {m n:List Value},IsLs G a m->IsLs G b n->IsLs G (a++b) (m++n)
 |[],b,m,n,h,k=>by rw[eG.1 h];exact k
 |d::t,b,m,n,h,k=>by
  obtain⟨y,m',rfl,h1,h2⟩:=bh.1 h;exact .cons h1 (h2.app k)
def IsLs.unapp: ∀{a b:List DV} {m:List Value},IsLs G (a++b) m-> ∃x y,m=x++y/\IsLs G a x/\IsLs G b y
 |[],b,m,h=>⟨[],m,J, .nil,h⟩
 |d::t,b,m,h=>by
  obtain⟨y,m',rfl,h1,h2⟩:=bh.1 h;obtain⟨u,v,rfl,h3,h4⟩:=h2.unapp;exact⟨y::u,v,J, .cons h1 h3,h4⟩
def IsLs.drop: ∀{a:List DV} {m:List Value} (k:Nat),IsLs G a m->IsLs G (a.drop k) (m.drop k)
 |_,_,0,h=>h
 |[],m,k+1,h=>by rw[eG.1 h];exact .nil
 |d::t,m,k+1,h=>by
  obtain⟨y,m',rfl,h1,h2⟩:=bh.1 h;exact h2.drop k
def IsLs.take: ∀{a:List DV} {m:List Value} (k:Nat),IsLs G a m->IsLs G (a.take k) (m.take k)
 |_,_,0,h=> .nil
 |[],m,k+1,h=>by rw[eG.1 h];exact .nil
 |d::t,m,k+1,h=>by
  obtain⟨y,m',rfl,h1,h2⟩:=bh.1 h;exact .cons h1 (h2.take k)
def IsLs.set: ∀{a:List DV} {m:List Value} (k:Nat) {d:DV} {y:Value},IsLs G a m->Is G d y->IsLs G (a.set k d) (m.set k y)
 |[],m,k,d,y,h,_=>by rw[eG.1 h];exact .nil
 |x::t,m,0,d,y,h,k=>by
  obtain⟨u,m',rfl,h1,h2⟩:=bh.1 h;exact .cons k h2
 |x::t,m,j+1,d,y,h,k=>by
  obtain⟨u,m',rfl,h1,h2⟩:=bh.1 h;exact .cons h1 (h2.set j k)
end
def DV.flat:DV->Bool
 | .v x=>Go.Sx.flat x
 | .ag _=>false
 | .tp _=>false
 | .pt _=>true
 | .op .. =>true
 | .sl .. =>true
def DV.okc:DV->Bool
 | .ag l=>l.all DV.flat
 |d=>d.flat
def DV.cells:DV->List DV
 | .ag l=>l
 |d=>[d]
section
variable {G:Gh}
def Is.flat{d:DV}{y:Value}(h:Is G d y)(k:d.flat=true):Go.Sx.flat y=true:=by
 cases d with
 |v x=>rw[aI.1 h];exact k
 |ag l=>cases k
 |tp l=>cases k
 |pt l=>obtain⟨b,m,rfl,_⟩:=so.1 h;rfl
 |op b l=>
  rcases wk.1 h with⟨_,rfl⟩|⟨_,h⟩
  ·rfl
  ·obtain⟨b,m,rfl,_⟩:=so.1 h;rfl
 |sl l=>obtain⟨s,x,es,rfl,_⟩:=iB.1 h;rfl
def Cs{y:Value}(h:Go.Sx.flat y=true):aD y=[y]:=by cases y<;>first|rfl|(simp[Go.Sx.flat] at h)
def IsLs.flat: ∀{l:List DV} {m:List Value},IsLs G l m->l.all DV.flat=true-> ∀v∈m,Go.Sx.flat v=true
 |[],m,h,_,v,hv=>by rw[eG.1 h] at hv;cases hv
 |d::t,m,h,k,v,hv=>by
  obtain⟨y,n,rfl,h1,h2⟩:=bh.1 h;simp only[List.all_cons,bL] at k;rcases aW.1 hv with rfl|hv
  ·exact h1.flat k.1
  ·exact h2.flat k.2 v hv
def Is.cells{d:DV}{y:Value}(h:Is G d y)(k:d.okc=true):IsLs G d.cells (aD y)/\ ∀v∈aD y,Go.Sx.flat v=true:=by
 cases d with
 |ag l=>obtain⟨m,rfl,hm⟩:=d6.1 h;exact⟨hm,hm.flat k⟩
 |_=>
  have:=h.flat k;rw[Cs this];exact⟨.cons h .nil,fun v hv=>by rw[aU.1 hv];exact this⟩
end
def takeD:List DV->Nat->Nat->Option (List DV)
 |_,0,0=>some []
 |[],0,_+1=>none
 |v::t,0,k+1=>match takeD t 0 k with|some l=>some (v::l)|none=>none
 |[],_+1,_=>none
 |_::t,off+1,k=>takeD t off k
def A3:List DV->Nat->List DV->List DV
 |cs,_,[]=>cs
 |cs,off,v::vs=>A3 (cs.set off v) (off+1) vs
section
variable {G:Gh}
def IsLs.takeD: ∀{ds:List DV} {m:List Value} {off k:Nat} {l:List DV},IsLs G ds m->takeD ds off k=some l-> ∃n,cE m off k=some n/\IsLs G l n
 |[],m,0,0,l,h,e=>by rw[eG.1 h];simp only[Sx.takeD] at e;cases e;exact⟨[],J, .nil⟩
 |d::t,m,0,0,l,h,e=>by
  obtain⟨y,m',rfl,h1,h2⟩:=bh.1 h;simp only[Sx.takeD] at e;cases e;exact⟨[],J, .nil⟩
 |[],m,0,k+1,l,h,e=>by simp[Sx.takeD] at e
 |d::t,m,0,k+1,l,h,e=>by
  obtain⟨y,m',rfl,h1,h2⟩:=bh.1 h;simp only[Sx.takeD] at e;split at e
  ·rename_i l' hl'
   cases e
   obtain⟨n,hn,hl⟩:=h2.takeD hl';exact⟨y::n,by simp only[cE,hn], .cons h1 hl⟩
  ·cases e
 |[],m,off+1,k,l,h,e=>by simp[Sx.takeD] at e
 |d::t,m,off+1,k,l,h,e=>by
  obtain⟨y,m',rfl,h1,h2⟩:=bh.1 h;exact h2.takeD (off:=off) (k:=k) e
def IsLs.ov: ∀{vs ds:List DV} {n m:List Value} {off:Nat},IsLs G ds m->IsLs G vs n->IsLs G (A3 ds off vs) (cC m off n)
 |[],ds,n,m,off,h,k=>by rw[eG.1 k];exact h
 |v::vs,ds,n,m,off,h,k=>by
  obtain⟨y,n',rfl,h1,h2⟩:=bh.1 k;exact(h.set off h1).ov h2
end
inductive FV where
 |d (x:DV)
 /-- a pointer to cells that are written no more -/
 |ep (l:List DV)
 /-- a pointer to a cell of element i of a row of the call's own -/
 |be (x:SV) (s i j:Nat)
 /-- a slice bz room behind it -/
 |ct (l:List DV)
abbrev eo:=List (Nat×FV)
def MU(G:Gh):FV->Value->Prop
 | .d x,y=>Is G x y
 | .ep l,y=> ∃b off cs m,y= .pointer (some ⟨b,off,none⟩)/\G b=some cs/\cE cs off l.length=some m/\IsLs G l m
 | .be x s i j,y=> ∃b,x.a=some ⟨b,0,none⟩/\y= .pointer (some ⟨b,i*s+j,none⟩)
 | .ct l,y=>(∃a n,y= .slice a n n)/\Is G (.sl l) y
def vQ:eo->Nat->Option FV
 |[],_=>none
 |(k,v)::t,j=>bif Nat.beq k j then some v else vQ t j
def aJ3(fr:eo)(dst:Option Nat)(v:FV):eo:=match dst with|some d=>(d,v)::fr|none=>fr
def CT(G:Gh):eo->Fr->Prop
 |[],m=>m=[]
 |(k,f)::t,m=> ∃y n,m=(k,y)::n/\MU G f y/\CT G t n
def GM(fr:eo):Operand->Option FV
 | .tmp k=>vQ fr k
 | .const v=>some (.d (.v v))
 | .global g=>some (.d (.v (.pointer (some ⟨g,0,none⟩))))
 | .func f=>some (.d (.v (.func (.func f) #[] #[])))
def Nd:FV->Option DV
 | .d (.v (.slice none 0 0))=>some (.sl [])
 | .d d=>some d
 | .ct l=>some (.sl l)
 |_=>none
def D0(fr:eo)(x:Operand):Option DV:=(GM fr x).bind Nd
def Xz(fr:eo):List Operand->Option (List DV)
 |[]=>some []
 |x::t=>match D0 fr x,Xz fr t with
  |some d,some l=>some (d::l)
  |_,_=>none
structure c9 where
 b:Nat
 cs:List DV
 ty:TypeId
 lo:Bool
structure dB where
 x:SV
 s:Nat
 ty:TypeId
 ds:List DV
 lo:Bool
class vR (own:List c9) (b:Nat) (cs:outParam (List DV)) (ty:outParam TypeId) (lo:outParam Bool):Prop where
 mem:⟨b,cs,ty,lo⟩∈own
instance vR.i1 (b:Nat) (cs:List DV) (ty:TypeId) (lo:Bool) (t:List c9):vR (⟨b,cs,ty,lo⟩::t) b cs ty lo:=⟨aQ⟩
instance vR.i2 (o:c9) (t:List c9) (b:Nat) (cs:List DV) (ty:TypeId) (lo:Bool) [h:vR t b cs ty lo]:vR (o::t) b cs ty lo:=⟨aJ _ h.mem⟩
class Bi (bs:List dB) (x:SV) (s:outParam Nat) (ty:outParam TypeId) (ds:outParam (List DV)) (lo:outParam Bool):Prop where
 mem:⟨x,s,ty,ds,lo⟩∈bs
instance Bi.i1 (x:SV) (s:Nat) (ty:TypeId) (ds:List DV) (lo:Bool) (t:List dB):Bi (⟨x,s,ty,ds,lo⟩::t) x s ty ds lo:=⟨aQ⟩
instance Bi.i2 (o:dB) (t:List dB) (x:SV) (s:Nat) (ty:TypeId) (ds:List DV) (lo:Bool) [h:Bi t x s ty ds lo]:Bi (o::t) x s ty ds lo:=⟨aJ _ h.mem⟩
def LG(G:Gh):List c9->List av->Prop
 |[],m=>m=[]
 |o::t,m=> ∃cs n,m=⟨o.b,cs,o.ty,o.lo⟩::n/\IsLs G o.cs cs/\LG G t n
def di(G:Gh)(β:dB)(B:List av):Prop:=
 ∃vs,kC β.s β.ty β.x vs B/\IsLs G β.ds vs/\(∀v∈vs,(aD v).length=β.s)/\(β.lo=true-> ∀o∈B,o.lo=true)
def Ms(G:Gh):List dB->List av->Prop
 |[],m=>m=[]
 |β::t,m=> ∃B n,m=B++n/\di G β B/\Ms G t n
def OB(G:Gh)(own:List c9)(bs:List dB)(ov:List av):Prop:= ∃a b,ov=a++b/\LG G own a/\Ms G bs b
structure Sr (GB G:Gh) (fr:eo) (own:List c9) (bs:List dB) (frv:Fr) (ov:List av):Prop where
 gb:bp GB G
 fr:CT G fr frv
 ob:OB G own bs ov
structure pn where
 fr:Fr
 own:List av
def E0:pn:=⟨[],[]⟩
structure SD (GB:Gh) (C:aB) (n:Nat) (E:pn) (fr:eo) (own:List c9) (bs:List dB) (Φ:Act->World->Prop):Prop where
 run: ∀G frv ov,Sr GB G fr own bs frv ov->St C n (frv++E.fr) (ov++E.own) G Φ
instance {GB:Gh} {C:aB} {n:Nat} {E:pn} {fr:eo} {own:List c9} {bs:List dB} {Φ:Act->World->Prop}:CoeFun (SD GB C n E fr own bs Φ) (fun _=> ∀G frv ov,Sr GB G fr own bs frv ov->St C n (frv++E.fr) (ov++E.own) G Φ):=⟨SD.run⟩
def YD(P:Program)(GB:Gh)(C:aB)(fr:eo)(own:List c9)(bs:List dB)(o:Oper)(f:FV):Prop:=
 ∀G frv ov,Sr GB G fr own bs frv ov-> ∃y,MU G f y/\ ∀G',bp G G'->Yd P C frv ov G' o y
def CD(P:Program)(GB:Gh)(C:aB)(n:Nat)(E:pn)(fr:eo)(own:List c9)(bs:List dB)(o:Oper)(Φ:Act->World->Prop):Prop:=
 ∀G frv ov,Sr GB G fr own bs frv ov->Ch P C n (frv++E.fr) (ov++E.own) G o Φ
def TD(P:Program)(GB:Gh)(C:aB)(n:Nat)(fr:eo)(own:List c9)(bs:List dB)(o:Oper)(fr':eo)(own':List c9)(bs':List dB):Prop:=
 ∀(GB':Gh) (E:pn) (Φ:Act->World->Prop),bp GB GB'->SD GB' C n E fr' own' bs' Φ->CD P GB' C n E fr own bs o Φ
def TF(P:Program)(GB:Gh)(C:aB)(n:Nat)(fr:eo)(own:List c9)(bs:List dB)(o:Oper)(ι:Type)(fr':ι->eo)(own':ι->List c9)(bs':ι->List dB):Prop:=
 ∀(GB':Gh) (E:pn) (Φ:Act->World->Prop),bp GB GB'->(∀x,SD GB' C n E (fr' x) (own' x) (bs' x) Φ)->CD P GB' C n E fr own bs o Φ
section
variable {P:Program} {GB:Gh} {C:aB} {n:Nat} {E:pn} {fr fr':eo} {own own':List c9} {bs bs':List dB} {ops:Array Oper} {Q:Exit->Act->World->Prop} {r:List Oper} {Φ:Act->World->Prop}
def aJV(P:Program)(y:Code)(Q:Exit->Act->World->Prop):Exit->Act->World->Prop:=Exit.then (y.wp P Q) Q
def aJW(fr' fr:eo):Prop:= ∀e∈fr',vQ fr e.1=some e.2
def aH7(GB:Gh)(C:aB)(n:Nat){X:Type}(F:X->eo)(O:X->List c9)(B:X->List dB)(I:X->Prop)(μ:X->Nat)(m:Nat)(a:Act)(w:World):Prop:=
 ∃x G frv ov,I x/\μ x<m/\Sr GB G (F x) (O x) (B x) frv ov/\gg C n frv ov G a w
def AtD(GB:Gh)(C:aB)(n:Nat){X:Type}(F:X->eo)(O:X->List c9)(B:X->List dB)(I:X->Prop)(a:Act)(w:World):Prop:=
 ∃x G frv ov,I x/\Sr GB G (F x) (O x) (B x) frv ov/\gg C n frv ov G a w
def PF(GB:Gh)(P:Program)(f:FuncId)(ds:List DV)(r:DV):Prop:=
 ∀G vs,bp GB G->IsLs G ds vs->Fn P f vs G (fun v G'=>Is G' r v)
def PM(GB:Gh)(P:Program)(f:FuncId)(ds:List DV)(b:Nat)(ty:TypeId)(cs:List DV)(r:DV)(cs':List DV):Prop:=
 ∀G vs m lo,bp GB G->IsLs G ds vs->IsLs G cs m->jO P f vs [⟨b,m,ty,lo⟩] G (fun v css G'=>Is G' r v/\ ∃m',css=[m']/\IsLs G' cs' m')
def aD6:Nat->List DV->eo
 |_,[]=>[]
 |i,v::t=>(i, .d v)::aD6 (i+1) t
inductive wi (P:Program) (fr:eo) (own:List c9):List ResultVar->List DV->Prop
 |nil:wi P fr own [] []
 |tmp {t:Nat} {v:DV} {rs:List ResultVar} {vs:List DV} (h:(vQ fr t).bind Nd=some v) (k:wi P fr own rs vs):wi P fr own (.tmp t::rs) (v::vs)
 |agg {a b k:Nat} {t:TypeId} {cs l:List DV} {ty:TypeId} {lo:Bool} {rs:List ResultVar} {vs:List DV} (h:vQ fr a=some (.d (.v (.pointer (some ⟨b,0,none⟩))))) (ho:vR own b cs ty lo) (ht:lu P t k) (hl:takeD cs 0 k=some l) (h2:wi P fr own rs vs):
   wi P fr own (.cell a t::rs) (.ag l::vs)
 |sc {a b:Nat} {t:TypeId} {cs:List DV} {v:DV} {ty:TypeId} {lo:Bool} {rs:List ResultVar} {vs:List DV} (h:vQ fr a=some (.d (.v (.pointer (some ⟨b,0,none⟩))))) (ho:vR own b cs ty lo) (ht:jl P t) (hl:cs[0]? =some v) (h2:wi P fr own rs vs):
   wi P fr own (.cell a t::rs) (v::vs)
def jj:List DV->DV
 |[d]=>d
 |l=> .tp l
def EQ{G:Gh}{ds:List DV}{vs:List Value}(h:IsLs G ds vs):Is G (jj ds) (ip vs):=by
 match ds,h with
 |[],h=>rw[eG.1 h];exact iH.2 ⟨[],J, .nil⟩
 |[d],h=>
  obtain⟨y,m,rfl,h1,h2⟩:=bh.1 h;rw[eG.1 h2];exact h1
 |a::b::t,h=>
  obtain⟨y,m,rfl,h1,h2⟩:=bh.1 h;obtain⟨z,m',rfl,h3,h4⟩:=bh.1 h2;exact iH.2 ⟨_,J,h⟩
end
end Go.Sx
end
