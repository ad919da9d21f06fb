import Derived.Test.YtidmgdlbilojcaaGreatDoorMa4
import Derived.Laws.Externs
import Derived.Lib.Overlaps
set_option linter.all false
set_option maxRecDepth 100000
section
namespace Go.Sx
open Go
def jf(l:aa)(p:ab):l.value p=(l.a:Rat)*p.x+(l.b:Rat)*p.y+(l.c:Rat):=rfl
def dx(l:aa)(p:ab):l.rev.value p= -l.value p:=by
 rw[jf,jf];have h1:((l.rev.a:Int):Rat)= -(l.a:Rat):=(GA l.a).symm;have h2:((l.rev.b:Int):Rat)= -(l.b:Rat):=(GA l.b).symm;have h3:((l.rev.c:Int):Rat)= -(l.c:Rat):=(GA l.c).symm;rw[h1,h2,h3];grind
def bw(q p:ab)(e:Rat):ab:=⟨q.x+e*(p.x-q.x),q.y+e*(p.y-q.y)⟩
def m7(l:aa)(q p:ab)(e:Rat):l.value (bw q p e)=l.value q+e*(l.value p-l.value q):=by
 simp only[jf,bw];grind
def ck(q u:ab)(e:Rat):ab:=⟨q.x+e*u.x,q.y+e*u.y⟩
def jl(l:aa)(q u:ab)(e:Rat):l.value (ck q u e)=l.value q+e*l.nor.dot u:=by
 simp only[jf,ck,aa.nor,ab.dot];grind
def ge{a b:Rat}(ha:0<a)(hb:0<b):0<a*b:=Rat.mul_pos ha hb
def di{a b:Rat}(ha:0<=a)(hb:0<=b):0<=a*b:=Rat.mul_nonneg ha hb
def Lt(a:Rat):0<=a*a:=by
 by_cases h:0<=a
 ·exact di h h
 ·have:=di (a:= -a) (b:= -a) (by grind) (by grind)
  grind
def jv{s k:Rat}(hk:0<k):0<s*k↔0<s:=by
 constructor
 ·intro h
  by_cases hs:0<s
  ·exact hs
  ·have:=di (a:= -s) (b:=k) (by grind) (by grind)
   grind
 ·intro h;exact ge h hk
def lz{s k:Rat}(hk:0<k):0<=s*k↔0<=s:=by
 constructor
 ·intro h
  by_cases hs:0<=s
  ·exact hs
  ·have:=ge (a:= -s) (b:=k) (by grind) hk
   grind
 ·intro h;exact di h (by grind)
def I9{A B u v:Rat}(h0:0<=A)(h1:0<=A+v*B)(hu:0<=u)(huv:u<=v):0<=A+u*B:=by
 by_cases hB:0<=B
 ·have:=di hu hB;grind
 ·have:=di (a:=v-u) (b:= -B) (by grind) (by grind)
  grind
def aa.Ne(l:aa):Prop:= ¬(l.a=0/\l.b=0)
def aa.ok.ne{l:aa}(h:l.ok):l.Ne:=h.1
def q7{l:aa}(h:l.Ne):0<l.nor.dot l.nor:=by
 show 0<(l.a:Rat)*l.a+(l.b:Rat)*l.b;have h1:=Lt (l.a:Rat);have h2:=Lt (l.b:Rat);by_cases ha:l.a=0
 ·have hb:l.b≠0:=fun hb=>h ⟨ha,hb⟩
  have hb':(l.b:Rat)≠0:=fun e=>hb (cN.1 e);have:(l.b:Rat)*l.b≠0:=by grind
  grind
 ·have ha':(l.a:Rat)≠0:=fun e=>ha (cN.1 e)
  have:(l.a:Rat)*l.a≠0:=by grind
  grind
def wX{l:aa}(h:l.Ne): ∃q:Rat,l.nor.dot l.nor*q= -(l.c:Rat)/\l.base=⟨(l.a:Rat)*q,(l.b:Rat)*q⟩:=by
 refine⟨-(l.c:Rat)/l.nor.dot l.nor,?_,J⟩;have:=q7 h;grind
def j9(l m:aa)(t:Rat):m.value (l.at t)=l.cutC m+t*l.cutK m:=by
 simp only[aa.cutC,aa.cutK,jf,aa.at,ab.add,ab.scale,aa.dir,aa.nor,ab.dot];grind
def me{l:aa}(h:l.Ne)(t:Rat):l.value (l.at t)=0:=by
 obtain⟨q,h1,h2⟩:=wX h;simp only[jf,aa.at,h2,ab.add,ab.scale,aa.dir];simp only[aa.nor,ab.dot] at h1;grind
def Dn{l:aa}(h:l.Ne){p:ab}(hp:l.value p=0): ∃t,p=l.at t:=by
 obtain⟨q,h1,h2⟩:=wX h;have hn:=q7 h;obtain⟨x,y⟩:=p;rw[jf] at hp;simp only[aa.nor,ab.dot] at h1 hn;refine⟨((l.b:Rat)*x-(l.a:Rat)*y)/((l.a:Rat)*l.a+(l.b:Rat)*l.b),?_⟩;generalize ht:((l.b:Rat)*x-(l.a:Rat)*y)/((l.a:Rat)*l.a+(l.b:Rat)*l.b)=t;have ht':((l.a:Rat)*l.a+(l.b:Rat)*l.b)*t=(l.b:Rat)*x-(l.a:Rat)*y:=by grind
 simp only[aa.at,h2,ab.add,ab.scale,aa.dir,ab.mk.injEq];generalize (l.a:Rat)=a at*;generalize (l.b:Rat)=b at*;generalize (l.c:Rat)=c at*;have e1:(a*a+b*b)*(x-(a*q+b*t))=0:=by grind
 have e2:(a*a+b*b)*(y-(b*q+ -a*t))=0:=by grind
 constructor<;>grind
def ah.has(v:ah)(t:Rat):Prop:=(v.nl=true\/v.lo<=t)/\(v.nh=true\/t<=v.hi)
def ah.ins(v:ah)(t:Rat):Prop:=(v.nl=true\/v.lo<t)/\(v.nh=true\/t<v.hi)
def ah.Pos(v:ah):Prop:=v.nl=true\/v.nh=true\/v.lo<v.hi
def ZY(a b:Rat):0<=bm a b↔b<=a:=by
 unfold bm;split
 ·constructor
  ·intro h;exact absurd h (by decide)
  ·intro h;grind
 ·split
  ·constructor
   ·intro _;grind
   ·intro _;decide
  ·constructor
   ·intro _;grind
   ·intro _;decide
def Cg(v:ah):v.empty=false↔v.Pos:=by
 obtain⟨lo,hi,nl,nh⟩:=v;unfold ah.empty ah.Pos
 cases nl<;>cases nh<;>simp[ZY]
 first|exact Rat.not_le|grind
def ah.ins.has{v:ah}{t:Rat}(h:v.ins t):v.has t:=by
 obtain⟨h1,h2⟩:=h;exact⟨h1.imp id (fun h=>cM h),h2.imp id (fun h=>cM h)⟩
def KY:mkRat 1 2=(1:Rat)/2:=by rw[qX];rfl
def pg{v:ah}(h:v.Pos):v.ins v.sample:=by
 obtain⟨lo,hi,nl,nh⟩:=v;unfold ah.Pos at h;unfold ah.ins ah.sample;rw[KY]
 cases nl<;>cases nh<;>simp at* <;>grind
def NN(v w:ah)(t:Rat):(v.meet w).has t↔v.has t/\w.has t:=by
 obtain⟨lo,hi,nl,nh⟩:=v;obtain⟨lo',hi',nl',nh'⟩:=w;unfold ah.has ah.meet
 cases nl<;>cases nh<;>cases nl'<;>cases nh'<;>simp<;>grind
def Mc(v w:ah)(t:Rat):(v.meet w).ins t↔v.ins t/\w.ins t:=by
 obtain⟨lo,hi,nl,nh⟩:=v;obtain⟨lo',hi',nl',nh'⟩:=w;unfold ah.ins ah.meet
 cases nl<;>cases nh<;>cases nl'<;>cases nh'<;>simp<;>grind
def A6(t:Rat):ah.all.has t:=⟨.inl J, .inl J⟩
def Tc(t:Rat):ah.all.ins t:=⟨.inl J, .inl J⟩
def tG:ah.all.Pos:= .inl J
def n8(k:Rat):Int.sign k.num=0↔k=0:=by rw[jW,pQ]
def Vb(k:Rat):0<k.num↔0<k:=by
 have h1:0<=k.num↔0<=k:=Rat.num_nonneg;have h2:k.num=0↔k=0:=pQ;constructor
 ·intro h
  have a:=h1.1 (by omega);have b:k≠0:=fun e=>by have:=h2.2 e;omega
  grind
 ·intro h
  have a:=h1.2 (by grind);have b:k.num≠0:=fun e=>by have:=h2.1 e;grind
  omega
def xK(k:Rat):Int.sign k.num=1↔0<k:=by rw[Int.sign_eq_one_iff_pos,Vb]
def nO(k:Rat):0<Int.sign k.num↔0<k:=by
 rw[<-xK];rcases rT k.num 0 with h|h|h
 ·rw[fM h];decide
 ·rw[h];decide
 ·rw[iZ h];decide
def yS(k:Rat):Int.sign k.num<0↔k<0:=by
 have h1:=n8 k;have h2:=nO k;constructor
 ·intro h
  by_cases hk:0<k
  ·have:=h2.2 hk;omega
  ·by_cases h0:k=0
   ·have:=h1.2 h0;omega
   ·grind
 ·intro h
  have a1: ¬Int.sign k.num=0:=fun e=>by have:=h1.1 e;grind
  have a2: ¬0<Int.sign k.num:=fun e=>by have:=h2.1 e;grind
  omega
def vA{l m:aa}(v:ah)(hk:l.cutK m=0):l.cutV v m=v/\(l.cutB v m=true↔0<l.cutC m):=by
 have h:=(n8 (l.cutK m)).2 hk;unfold aa.cutV aa.cutB;rw[if_pos h,if_pos h,decide_eq_true_iff,nO];exact⟨J,Iff.rfl⟩
def xS{l m:aa}(v:ah)(hk:0<l.cutK m):l.cutV v m=v.meet ⟨-(l.cutC m/l.cutK m),0,false,true⟩/\(l.cutB v m=true↔(l.cutV v m).Pos):=by
 have h0: ¬Int.sign (l.cutK m).num=0:=fun e=>by have:=(n8 _).1 e;grind
 have h1:=(xK (l.cutK m)).2 hk;constructor
 ·unfold aa.cutV;rw[if_neg h0,if_pos h1]
 ·unfold aa.cutB;rw[if_neg h0,<-Cg];simp
def xm{l m:aa}(v:ah)(hk:l.cutK m<0):l.cutV v m=v.meet ⟨0, -(l.cutC m/l.cutK m),true,false⟩/\(l.cutB v m=true↔(l.cutV v m).Pos):=by
 have h0: ¬Int.sign (l.cutK m).num=0:=fun e=>by have:=(n8 _).1 e;grind
 have h1: ¬Int.sign (l.cutK m).num=1:=fun e=>by have:=(xK _).1 e;grind
 constructor
 ·unfold aa.cutV;rw[if_neg h0,if_neg h1]
 ·unfold aa.cutB;rw[if_neg h0,<-Cg];simp
def ZR{C K t:Rat}(hk:0<K): -(C/K)<=t↔0<=C+t*K:=by
 have e:C=C/K*K:=by grind
 generalize C/K=d at*;rw[e,show d*K+t*K=(d+t)*K from by grind,lz hk];grind
def NX{C K t:Rat}(hk:0<K): -(C/K)<t↔0<C+t*K:=by
 have e:C=C/K*K:=by grind
 generalize C/K=d at*;rw[e,show d*K+t*K=(d+t)*K from by grind,jv hk];grind
def XB{C K t:Rat}(hk:K<0):t<= -(C/K)↔0<=C+t*K:=by
 have e:C=C/K*K:=by grind
 generalize C/K=d at*;rw[e,show d*K+t*K=(-(d+t))*(-K) from by grind,lz (by grind)];grind
def PS{C K t:Rat}(hk:K<0):t< -(C/K)↔0<C+t*K:=by
 have e:C=C/K*K:=by grind
 generalize C/K=d at*;rw[e,show d*K+t*K=(-(d+t))*(-K) from by grind,jv (by grind)];grind
def kv(k:Rat):k=0\/0<k\/k<0:=by grind
def CP{l m:aa}{v:ah}(hb:l.cutB v m=true)(t:Rat):(l.cutV v m).has t↔v.has t/\0<=m.value (l.at t):=by
 rw[j9];rcases kv (l.cutK m) with hk|hk|hk
 ·obtain⟨h1,h2⟩:=vA v hk
  rw[h1,hk];have:=h2.1 hb;constructor
  ·intro h;exact⟨h,by grind⟩
  ·exact fun h=>h.1
 ·rw[(xS v hk).1,NN,<-ZR hk]
  simp[ah.has]
 ·rw[(xm v hk).1,NN,<-XB hk]
  simp[ah.has]
def PY{l m:aa}{v:ah}(hb:l.cutB v m=true)(t:Rat):(l.cutV v m).ins t↔v.ins t/\0<m.value (l.at t):=by
 rw[j9];rcases kv (l.cutK m) with hk|hk|hk
 ·obtain⟨h1,h2⟩:=vA v hk
  rw[h1,hk];have:=h2.1 hb;constructor
  ·intro h;exact⟨h,by grind⟩
  ·exact fun h=>h.1
 ·rw[(xS v hk).1,Mc,<-NX hk]
  simp[ah.ins]
 ·rw[(xm v hk).1,Mc,<-PS hk]
  simp[ah.ins]
def AN{l m:aa}{v:ah}(hv:v.Pos)(hb:l.cutB v m=true):(l.cutV v m).Pos:=by
 rcases kv (l.cutK m) with hk|hk|hk
 ·rw[(vA v hk).1];exact hv
 ·exact(xS v hk).2.1 hb
 ·exact(xm v hk).2.1 hb
def Ex{l m:aa}{v:ah}(hv:v.Pos)(hb:l.cutB v m=false){t:Rat}(ht:v.has t):m.value (l.at t)<=0:=by
 rw[j9];have hb': ¬l.cutB v m=true:=by rw[hb];decide
 rcases kv (l.cutK m) with hk|hk|hk
 ·have h2:=(vA v hk).2
  have: ¬0<l.cutC m:=fun h=>hb' (h2.2 h);rw[hk];grind
 ·obtain⟨h1,h2⟩:=xS v hk
  have hn: ¬(l.cutV v m).Pos:=fun h=>hb' (h2.2 h);rw[h1] at hn;have h3:=NX (C:=l.cutC m) (t:=t) hk
  suffices¬(-(l.cutC m/l.cutK m)<t) by grind
  generalize-(l.cutC m/l.cutK m)=d at*;obtain⟨lo,hi,nl,nh⟩:=v;unfold ah.Pos ah.meet at hn;unfold ah.Pos at hv;unfold ah.has at ht
  cases nl<;>cases nh<;>simp at* <;>grind
 ·obtain⟨h1,h2⟩:=xm v hk
  have hn: ¬(l.cutV v m).Pos:=fun h=>hb' (h2.2 h);rw[h1] at hn;have h3:=PS (C:=l.cutC m) (t:=t) hk
  suffices¬(t< -(l.cutC m/l.cutK m)) by grind
  generalize-(l.cutC m/l.cutK m)=d at*;obtain⟨lo,hi,nl,nh⟩:=v;unfold ah.Pos ah.meet at hn;unfold ah.Pos at hv;unfold ah.has at ht
  cases nl<;>cases nh<;>simp at* <;>grind
def bc(c:ao)(p:ab):Prop:= ∀s∈c,0<s.l.value p
def pd(c:ao)(p:ab):Prop:= ∀s∈c,0<=s.l.value p
def zt(l:aa): ∀(c:ao) (v w:ah),v.Pos->nq l c v=some w->
  w.Pos/\(∀t,w.has t↔v.has t/\pd c (l.at t))/\(∀t,w.ins t↔v.ins t/\bc c (l.at t))
 |[],v,w,hv,h=>by
  obtain rfl:v=w:=by simpa[nq] using h
  exact⟨hv,fun t=>⟨fun h=>⟨h,fun s hs=>absurd hs (by simp)⟩,fun h=>h.1⟩,fun t=>⟨fun h=>⟨h,fun s hs=>absurd hs (by simp)⟩,fun h=>h.1⟩⟩
 |s::c,v,w,hv,h=>by
  rw[nq] at h;split at h
  ·rename_i hb
   obtain⟨h1,h2,h3⟩:=zt l c _ w (AN hv hb) h;refine⟨h1,fun t=>?_,fun t=>?_⟩
   ·rw[h2,CP hb]
    simp only[pd,dW];exact and_assoc
   ·rw[h3,PY hb]
    simp only[bc,dW];exact and_assoc
  ·exact absurd h (by simp)
def P0(l:aa): ∀(c:ao) (v:ah),v.Pos->nq l c v=none-> ∀t,v.has t-> ¬bc c (l.at t)
 |[],v,hv,h=>by simp[nq] at h
 |s::c,v,hv,h=>by
  intro t ht hd;have hd':=dW.1 hd;rw[nq] at h;split at h
  ·rename_i hb
   exact P0 l c _ (AN hv hb) h t ((CP hb t).2 ⟨ht,cM hd'.1⟩) hd'.2
  ·rename_i hb
   have:=Ex hv (by simpa using hb) ht;have:=hd'.1;grind
def bc.open: ∀{c:ao} {q:ab} (u:ab),bc c q-> ∃e:Rat,0<e/\ ∀d,0<=d->d<=e->bc c (ck q u d)
 |[],q,u,_=>⟨1,by decide,fun d _ _ s hs=>absurd hs (by simp)⟩
 |s::c,q,u,h=>by
  have h':=dW.1 h;obtain⟨e,he,hd⟩:=bc.open (c:=c) u h'.2;have hs:=h'.1;generalize hk:s.l.nor.dot u=k;have hf: ∃f:Rat,0<f/\ ∀d,0<=d->d<=f->0<s.l.value q+d*k:=by
   by_cases hk0:0<=k
   ·exact⟨1,by decide,fun d h1 _=>by have:=di h1 hk0;grind⟩
   ·refine⟨s.l.value q/(2* -k),?_,fun d h1 h2=>?_⟩
    ·have e1:s.l.value q/(2* -k)*(2* -k)=s.l.value q:=by grind
     exact(jv (k:=2* -k) (by grind)).1 (by rw[e1];exact hs)
    ·have e1:s.l.value q/(2* -k)*(2* -k)=s.l.value q:=by grind
     generalize s.l.value q/(2* -k)=f at*;have:=di (a:=f-d) (b:= -k) (by grind) (by grind);grind
  obtain⟨f,hf0,hf⟩:=hf;by_cases hef:e<=f
  ·refine⟨e,he,fun d h1 h2=>dW.2 ⟨?_,hd d h1 h2⟩⟩
   rw[jl,hk];exact hf d h1 (by grind)
  ·refine⟨f,hf0,fun d h1 h2=>dW.2 ⟨?_,hd d h1 (by grind)⟩⟩
   rw[jl,hk];exact hf d h1 h2
def Rp: ∀{c:ao} {q p:ab},bc c q->(∃s∈c,s.l.value p<=0)->
  ∃e:Rat,0<=e/\e<=1/\(∃s∈c,s.l.value p<=0/\s.l.value (bw q p e)=0)/\pd c (bw q p e)
 |[],q,p,_,h=>by obtain⟨s,hs,_⟩:=h;exact absurd hs (by simp)
 |s::c,q,p,h,hex=>by
  have h':=dW.1 h;have hs:=h'.1;by_cases hc: ∃s∈c,s.l.value p<=0
  ·obtain⟨e,h0,h1,⟨s1,m1,n1,z1⟩,hC⟩:=Rp h'.2 hc
   by_cases hp:0<=s.l.value (bw q p e)
   ·exact⟨e,h0,h1,⟨s1,aJ _ m1,n1,z1⟩,dW.2 ⟨hp,hC⟩⟩
   ·rw[m7] at hp
    generalize hB:s.l.value p-s.l.value q=B at*;have hB0:B<0:=by
     by_cases hB0:0<=B
     ·have:=di h0 hB0;grind
     ·grind
    have e1:s.l.value q/(-B)*(-B)=s.l.value q:=by grind
    generalize hf:s.l.value q/(-B)=f at*;have f0:0<=f:=(lz (k:= -B) (by grind)).1 (by rw[e1];grind);have f1:f<=e:=by
     have:=(lz (s:=e-f) (k:= -B) (by grind)).1 (by grind);grind
    have z:s.l.value (bw q p f)=0:=by rw[m7,hB];grind
    have np:s.l.value p<=0:=by
     have:=di (a:=1-e) (b:= -B) (by grind) (by grind);grind
    refine⟨f,f0,by grind,⟨s,aQ,np,z⟩,dW.2 ⟨by rw[z];exact fU,fun s2 m2=>?_⟩⟩;have a1:=h'.2 s2 m2;have a2:=hC s2 m2;rw[m7] at a2⊢;exact I9 (cM a1) a2 f0 f1
  ·have np:s.l.value p<=0:=by
    obtain⟨s1,m1,n1⟩:=hex;rcases aY.1 m1 with rfl|m1
    ·exact n1
    ·exact absurd ⟨s1,m1,n1⟩ hc
   generalize hB:s.l.value p-s.l.value q=B at*;have hB0:B<0:=by grind
   have e1:s.l.value q/(-B)*(-B)=s.l.value q:=by grind
   generalize hf:s.l.value q/(-B)=f at*;have f0:0<=f:=(lz (k:= -B) (by grind)).1 (by rw[e1];grind);have f1:f<=1:=by
    have:=(lz (s:=1-f) (k:= -B) (by grind)).1 (by grind);grind
   have z:s.l.value (bw q p f)=0:=by rw[m7,hB];grind
   refine⟨f,f0,f1,⟨s,aQ,np,z⟩,dW.2 ⟨by rw[z];exact fU,fun s2 m2=>?_⟩⟩;have a1:=h'.2 s2 m2;have a2:0<s2.l.value p:=by
    by_cases h:0<s2.l.value p
    ·exact h
    ·exact absurd ⟨s2,m2,by grind⟩ hc
   rw[m7];have:=I9 (A:=s2.l.value q) (B:=s2.l.value p-s2.l.value q) (u:=f) (v:=1) (cM a1) (by grind) f0 f1;exact this
structure bH (c:ao):Prop where
 ne: ∃p,bc c p
 ok: ∀s∈c,s.l.ok
 edge: ∀s∈c,s.v.Pos/\ ∀t,s.v.has t↔pd c (s.l.at t)
def bH.nil:bH []:=⟨⟨⟨0,0⟩,fun s hs=>absurd hs (by simp)⟩,fun s hs=>absurd hs (by simp),fun s hs=>absurd hs (by simp)⟩
def tg{c:ao}{m:aa}(hne: ∃q,bc c q)(h: ∀p,bc c p->0<m.value p){p:ab}(hp:pd c p):0<=m.value p:=by
 obtain⟨q,hq⟩:=hne;have mq:=h q hq;by_cases hm:0<=m.value p
 ·exact hm
 ·exfalso
  generalize hB:m.value q-m.value p=B;have hB0:0<B:=by grind
  have e1: -m.value p/B*B= -m.value p:=by grind
  generalize-m.value p/B=e at*;have e0:0<e:=(jv hB0).1 (by rw[e1];grind);have e2:e<=1:=by
   have:=(lz (s:=1-e) hB0).1 (by grind);grind
  have hd:bc c (bw p q e):=fun s hs=>by
   rw[m7];have a:=hp s hs;have b:=hq s hs;have:=ge e0 b;have:=di (a:=1-e) (b:=s.l.value p) (by grind) a;grind
  have:=h _ hd;rw[m7,hB,e1] at this;grind
def rI{l:aa}{s':bj}: ∀{c:ao},s'∈dq l c↔ ∃s∈c,s.l.cutB s.v l=true/\s'=⟨s.l,s.l.cutV s.v l⟩
 |[]=>by simp[dq]
 |s::c=>by
  rw[dq];split
  ·rename_i hb
   rw[aY,rI (c:=c)];constructor
   ·rintro (rfl|⟨s1,h1,h2⟩)
    ·exact⟨s,aQ,hb,J⟩
    ·exact⟨s1,aJ _ h1,h2⟩
   ·rintro ⟨s1,h1,h2,h3⟩
    rcases aY.1 h1 with rfl|h1
    ·exact .inl h3
    ·exact .inr ⟨s1,h1,h2,h3⟩
  ·rename_i hb
   rw[rI (c:=c)];constructor
   ·rintro ⟨s1,h1,h2⟩;exact⟨s1,aJ _ h1,h2⟩
   ·rintro ⟨s1,h1,h2,h3⟩
    rcases aY.1 h1 with rfl|h1
    ·exact absurd h2 hb
    ·exact⟨s1,h1,h2,h3⟩
def oH{c:ao}{l:aa}{v:ah}{s:bj}:s∈j' c l v↔s=⟨l,v⟩\/s∈c:=by
 unfold j';generalize gg (jb c l) 0 c.length=n;rw[bW,aY];have h:=jL n c;constructor
 ·rintro (h1|h1|h1)
  ·exact .inr (fK h1)
  ·exact .inl h1
  ·exact .inr (gT h1)
 ·rintro (h1|h1)
  ·exact .inr (.inl h1)
  ·rw[<-h,bW] at h1
   rcases h1 with h1|h1
   ·exact .inl h1
   ·exact .inr (.inr h1)
def OQ{c:ao}{l:aa}(hl:l.Ne)(hp:jw c l=none){p:ab}(h:bc c p):l.value p≠0:=by
 intro h0;obtain⟨t,rfl⟩:=Dn hl h0;exact P0 l c _ tG hp t (A6 t) h
def DW{c:ao}{l:aa}(hl:l.Ne){v:ah}(hp:jw c l=some v):(∃q,bc c q/\0<l.value q)/\ ∃q,bc c q/\l.value q<0:=by
 obtain⟨h1,_,h3⟩:=zt l c _ v tG hp;have hd:=((h3 v.sample).1 (pg h1)).2;have h0:=me hl v.sample;have hn:=q7 hl;constructor
 ·obtain⟨e,he,hm⟩:=hd.open l.nor
  refine⟨_,hm e (cM he) fU,?_⟩;rw[jl,h0];have:=ge he hn;grind
 ·obtain⟨e,he,hm⟩:=hd.open ⟨-l.nor.x, -l.nor.y⟩
  refine⟨_,hm e (cM he) fU,?_⟩;rw[jl,h0];have:=ge he hn;simp only[ab.dot] at this⊢;grind
def US{c:ao}{l:aa}{v:ah}(hc:bH c)(hl:l.ok)(hp:jw c l=some v):
  bH (j' (dq l c) l v)/\ ∀p,bc (j' (dq l c) l v) p↔bc c p/\0<l.value p:=by
 obtain⟨⟨q,hq,lq⟩,_⟩:=DW hl.ne hp;obtain⟨v1,v2,v3⟩:=zt l c _ v tG hp;have hD: ∀p,bc (j' (dq l c) l v) p↔bc c p/\0<l.value p:=by
  intro p;constructor
  ·intro h
   have lp:0<l.value p:=h ⟨l,v⟩ (oH.2 (.inl J));refine⟨fun s0 hs0=>?_,lp⟩;by_cases h0:0<s0.l.value p
   ·exact h0
   ·exfalso
    obtain⟨e,e0,e1,⟨s,ms,ns,zs⟩,hC⟩:=Rp (p:=p) hq ⟨s0,hs0,by grind⟩;obtain⟨t,ht⟩:=Dn (hc.ok s ms).ne zs;rw[ht] at hC;obtain⟨p1,p2⟩:=hc.edge s ms;have hh:=(p2 t).2 hC;have lr:0<l.value (s.l.at t):=by
     rw[<-ht,m7];by_cases hB:0<=l.value p-l.value q
     ·have:=di e0 hB;grind
     ·have:=di (a:=1-e) (b:= -(l.value p-l.value q)) (by grind) (by grind)
      grind
    have hb:s.l.cutB s.v l=true:=by
     cases hb:s.l.cutB s.v l with
     |true=>rfl
     |false=>have:=Ex p1 hb hh;grind
    have:=h ⟨s.l,s.l.cutV s.v l⟩ (oH.2 (.inr (rI.2 ⟨s,ms,hb,J⟩)));simp only at this;grind
  ·rintro ⟨h1,h2⟩ s hs
   rcases oH.1 hs with rfl|hs
   ·exact h2
   ·obtain⟨s1,m1,_,rfl⟩:=rI.1 hs
    exact h1 s1 m1
 have hne: ∃p,bc (j' (dq l c) l v) p:=⟨q,(hD q).2 ⟨hq,lq⟩⟩;have hC: ∀p,pd (j' (dq l c) l v) p↔pd c p/\0<=l.value p:=by
  intro p;constructor
  ·intro h
   refine⟨fun s hs=>?_,h ⟨l,v⟩ (oH.2 (.inl J))⟩;exact tg hne (fun p hp=>((hD p).1 hp).1 s hs) h
  ·rintro ⟨h1,h2⟩ s hs
   rcases oH.1 hs with rfl|hs
   ·exact h2
   ·obtain⟨s1,m1,_,rfl⟩:=rI.1 hs
    exact h1 s1 m1
 refine⟨⟨hne,fun s hs=>?_,fun s hs=>?_⟩,hD⟩
 ·rcases oH.1 hs with rfl|hs
  ·exact hl
  ·obtain⟨s1,m1,_,rfl⟩:=rI.1 hs
   exact hc.ok s1 m1
 ·rcases oH.1 hs with rfl|hs
  ·refine⟨v1,fun t=>?_⟩
   rw[hC];simp only;rw[v2];have h0:=me hl.ne t;constructor
   ·intro h;exact⟨h.2,by rw[h0];exact fU⟩
   ·intro h;exact⟨A6 t,h.1⟩
  ·obtain⟨s1,m1,hb,rfl⟩:=rI.1 hs
   obtain⟨p1,p2⟩:=hc.edge s1 m1;refine⟨AN p1 hb,fun t=>?_⟩;rw[hC];simp only;rw[CP hb,p2]
def bc.seg{c:ao}{q p:ab}{e:Rat}(hq:bc c q)(hp:bc c p)(h0:0<=e)(h1:e<=1):bc c (bw q p e):=fun s hs=>by
 rw[m7];have a:=hq s hs;have b:=hp s hs;by_cases he:e=0
 ·subst he;grind
 ·have:=ge (a:=e) (by grind) b
  have:=di (a:=1-e) (b:=s.l.value q) (by grind) (by grind);grind
def Jg{v:ah}{t:Rat}(h:v.ins t):(∃u,u<t/\v.has u)/\ ∃u,t<u/\v.has u:=by
 obtain⟨lo,hi,nl,nh⟩:=v;unfold ah.ins at h;unfold ah.has;refine⟨⟨if nl=true then t-1 else lo,?_⟩,⟨if nh=true then t+1 else hi,?_⟩⟩<;>cases nl<;>cases nh<;>simp at* <;>grind
def yf{a b c x y z:Nat}(h1:x*b=a*y)(h2:x*c=a*z)(g:Nat.gcd (Nat.gcd a b) c=1):a∣x:=by
 have e:x=Nat.gcd (Nat.gcd (x*a) (x*b)) (x*c):=by
  rw[Nat.gcd_mul_left,Nat.gcd_mul_left,g,iX]
 rw[e];exact Nat.dvd_gcd (Nat.dvd_gcd (Nat.dvd_mul_left ..) (h1▸Nat.dvd_mul_right ..)) (h2▸Nat.dvd_mul_right ..)
def at0{a b c x y z:Int}(h1:a*y=b*x)(h2:a*z=c*x)(h3:b*z=c*y)
  (g1:Nat.gcd (Nat.gcd a.natAbs b.natAbs) c.natAbs=1)(g2:Nat.gcd (Nat.gcd x.natAbs y.natAbs) z.natAbs=1):
  (a=x/\b=y/\c=z)\/(a= -x/\b= -y/\c= -z):=by
 have n1:a.natAbs*y.natAbs=b.natAbs*x.natAbs:=by rw[<-jK,<-jK,h1]
 have n2:a.natAbs*z.natAbs=c.natAbs*x.natAbs:=by rw[<-jK,<-jK,h2]
 have n3:b.natAbs*z.natAbs=c.natAbs*y.natAbs:=by rw[<-jK,<-jK,h3]
 generalize ha:a.natAbs=A at*;generalize hb:b.natAbs=B at*;generalize hc:c.natAbs=C at*;generalize hx:x.natAbs=X at*;generalize hy:y.natAbs=Y at*;generalize hz:z.natAbs=Z at*;have gB:Nat.gcd (Nat.gcd B A) C=1:=by rw[jZ B A];exact g1
 have gC:Nat.gcd (Nat.gcd C A) B=1:=by rw[Nat.gcd_assoc,jZ];exact g1
 have gY:Nat.gcd (Nat.gcd Y X) Z=1:=by rw[jZ Y X];exact g2
 have gZ:Nat.gcd (Nat.gcd Z X) Y=1:=by rw[Nat.gcd_assoc,jZ];exact g2
 have e1:A=X:=Nat.dvd_antisymm (yf (x:=X) (y:=Y) (z:=Z) (by grind) (by grind) g1) (yf (x:=A) (y:=B) (z:=C) (by grind) (by grind) g2);have e2:B=Y:=Nat.dvd_antisymm (yf (x:=Y) (y:=X) (z:=Z) (by grind) (by grind) gB) (yf (x:=B) (y:=A) (z:=C) (by grind) (by grind) gY);have e3:C=Z:=Nat.dvd_antisymm (yf (x:=Z) (y:=X) (z:=Y) (by grind) (by grind) gC) (yf (x:=C) (y:=A) (z:=B) (by grind) (by grind) gZ);have s1:a=x\/a= -x:=by omega
 have s2:b=y\/b= -y:=by omega
 have s3:c=z\/c= -z:=by omega
 clear ha hb hc hx hy hz n1 n2 n3 g1 g2 gB gC gY gZ e1 e2 e3;have z1:= @sT x y;have z2:= @sT x z;have z3:= @sT y z;rcases s1 with rfl|rfl<;>rcases s2 with rfl|rfl<;>rcases s3 with rfl|rfl<;>grind
def xM{l m:aa}(hl:l.ok)(hm:m.ok)(h: ∀t,l.value (m.at t)=0):l=m\/l=m.rev:=by
 have h0:=h 0;have h1:=h 1;rw[j9] at h0 h1;have hC:m.cutC l=0:=by grind
 have hK:m.cutK l=0:=by grind
 obtain⟨q,q1,q2⟩:=wX hm.ne;have hn:=q7 hm.ne;unfold aa.cutC at hC;rw[q2,jf] at hC;unfold aa.cutK at hK;simp only[aa.nor,aa.dir,ab.dot] at hK q1 hn hC;obtain⟨a,b,c⟩:=l;obtain⟨x,y,z⟩:=m;simp only at*;have e1:a*y=b*x:=by
  have:((a*y:Int):Rat)=((b*x:Int):Rat):=by rw[cW,cW];grind
  exact nW.1 this
 have e2:a*z=c*x:=by
  have:((a*z:Int):Rat)=((c*x:Int):Rat):=by rw[cW,cW];grind
  exact nW.1 this
 have e3:b*z=c*y:=by
  have:((b*z:Int):Rat)=((c*y:Int):Rat):=by rw[cW,cW];grind
  exact nW.1 this
 rcases at0 e1 e2 e3 hl.2 hm.2 with⟨rfl,rfl,rfl⟩|⟨rfl,rfl,rfl⟩
 ·exact .inl J
 ·exact .inr J
def aa.ok.rev{l:aa}(h:l.ok):l.rev.ok:=by
 obtain⟨h1,h2⟩:=h;refine⟨?_,?_⟩
 ·simp only[aa.rev];omega
 ·simp only[aa.rev,iS];exact h2
def NW(l:aa): ∀c:ao,(∀s∈c,oc l s<=0/\s.l≠l)-> ¬0<oy l c
 |[],_=>by simp[oy]
 |s::c,h=>by
  have h':=dW.1 h;unfold oy;rw[if_neg h'.1.2];split
  ·have:=h'.1.1;omega
  ·exact NW l c h'.2
def Lf{c:ao}{l:aa}(hc:bH c)(hl:l.ok)(hp:jw c l=none):
  (0<oy l c/\ ∀p,bc c p->0<l.value p)\/(¬0<oy l c/\ ∀p,bc c p->l.value p<0):=by
 have hoff:=fun p (h:bc c p)=>OQ hl.ne hp h;by_cases hq: ∃q,bc c q/\0<l.value q
 ·left
  obtain⟨q,hq,lq⟩:=hq;have hall: ∀p,bc c p->0<l.value p:=by
   intro p h;have:=hoff p h;by_cases h0:0<l.value p
   ·exact h0
   ·exfalso
    have hn:l.value p<0:=by grind
    have e1:l.value q/(l.value q-l.value p)*(l.value q-l.value p)=l.value q:=by grind
    generalize l.value q/(l.value q-l.value p)=e at*;have f0:0<=e:=(lz (k:=l.value q-l.value p) (by grind)).1 (by grind);have f1:e<=1:=by
     have:=(lz (s:=1-e) (k:=l.value q-l.value p) (by grind)).1 (by grind);grind
    exact hoff _ (hq.seg h f0 f1) (by rw[m7];grind)
  refine⟨?_,hall⟩
  cases c with
  |nil=>simp[jw,nq] at hp
  |cons s c=>
   obtain⟨p1,p2⟩:=hc.edge s aQ;have hi:=pg p1;have hr:=tg hc.ne hall ((p2 _).1 hi.has);unfold oy;by_cases h0:oc l s=0
   ·rw[if_neg (by simpa using h0)]
    have hz:l.value (s.l.at s.v.sample)=0:=(n8 _).1 h0;have hge: ∀t,s.v.has t->0<=l.value (s.l.at t):=fun t ht=>tg hc.ne hall ((p2 t).1 ht);obtain⟨⟨u1,m1,n1⟩,⟨u2,m2,n2⟩⟩:=Jg hi;have g1:=hge _ n1;have g2:=hge _ n2;rw[j9] at hz g1 g2;have hK:s.l.cutK l=0:=by
     rcases kv (s.l.cutK l) with h|h|h
     ·exact h
     ·exfalso
      have:=ge (a:=s.v.sample-u1) (b:=s.l.cutK l) (by grind) h;grind
     ·exfalso
      have:=ge (a:=u2-s.v.sample) (b:= -s.l.cutK l) (by grind) (by grind);grind
    have hz2: ∀t,l.value (s.l.at t)=0:=fun t=>by rw[j9,hK];rw[hK] at hz;grind
    rcases xM hl (hc.ok s aQ) hz2 with h|h
    ·rw[if_pos h.symm];decide
    ·exfalso
     have:=hall q hq;rw[h,dx] at this;have:=hq s aQ;grind
   ·rw[if_pos h0]
    have hz:l.value (s.l.at s.v.sample)≠0:=fun e=>h0 ((n8 _).2 e);exact(nO _).2 (by grind)
 ·right
  have hall: ∀p,bc c p->l.value p<0:=fun p h=>by
   have:=hoff p h;have: ¬0<l.value p:=fun h'=>hq ⟨p,h,h'⟩;grind
  refine⟨NW l c fun s hs=>?_,hall⟩;obtain⟨p1,p2⟩:=hc.edge s hs;have hr:=tg (m:=l.rev) hc.ne (fun p h=>by rw[dx];have:=hall p h;grind) ((p2 _).1 (pg p1).has);rw[dx] at hr;constructor
  ·have: ¬0<oc l s:=fun h=>by have:=(nO _).1 h;grind
   omega
  ·rintro rfl
   obtain⟨p,hp⟩:=hc.ne;have:=hall p hp;have:=hp s hs;grind
def eD{c:ao}{l:aa}(hc:bH c)(hl:l.ok):bC c l=true↔ ∃p,bc c p/\0<l.value p:=by
 unfold bC
 cases hp:jw c l with
 |some v=>exact⟨fun _=>(DW hl.ne hp).1,fun _=>J⟩
 |none=>
  simp only[vJ,hp,Option.isSome_none,iL,if_false,decide_eq_true_iff];rcases Lf hc hl hp with⟨h1,h2⟩|⟨h1,h2⟩
  ·refine⟨fun _=>?_,fun _=>h1⟩
   obtain⟨p,hp⟩:=hc.ne;exact⟨p,hp,h2 p hp⟩
  ·refine⟨fun h=>absurd h h1,?_⟩
   rintro ⟨p,hp,h⟩;have:=h2 p hp;grind
def fG{c:ao}{l:aa}(hc:bH c)(hl:l.ok)(hb:bC c l=true):bH (bg c l)/\ ∀p,bc (bg c l) p↔bc c p/\0<l.value p:=by
 unfold bg
 cases hp:jw c l with
 |some v=>exact US hc hl hp
 |none=>
  refine⟨hc,fun p=>?_⟩;unfold bC at hb;simp only[hp,vJ,Option.isSome_none,iL,if_false,decide_eq_true_iff] at hb;rcases Lf hc hl hp with⟨h1,h2⟩|⟨h1,h2⟩
  ·exact⟨fun h=>⟨h,h2 p h⟩,fun h=>h.1⟩
  ·exact absurd hb h1
def y7{c:ao}{l:aa}(hl:l.ok){p:ab}(hp:bc c p)(h0:l.value p=0):(∃q,bc c q/\0<l.value q)/\ ∃q,bc c q/\l.value q<0:=by
 have hn:=q7 hl.ne;constructor
 ·obtain⟨e,he,hm⟩:=hp.open l.nor
  refine⟨_,hm e (cM he) fU,?_⟩;rw[jl,h0];have:=ge he hn;grind
 ·obtain⟨e,he,hm⟩:=hp.open ⟨-l.nor.x, -l.nor.y⟩
  refine⟨_,hm e (cM he) fU,?_⟩;rw[jl,h0];have:=ge he hn;simp only[ab.dot] at this⊢;grind
inductive TM (c:ao) (l:aa):Prop
 |left (h1:bC c l.rev=false) (h: ∀p,bc c p->0<l.value p)
 |right (h1:bC c l.rev=true) (h2:bC c l=false) (h: ∀p,bc c p->l.value p<0)
 |both (h1:bC c l.rev=true) (h2:bC c l=true) (g1:bH (bg c l)) (g2:bH (bg c l.rev))
   (e1: ∀p,bc (bg c l) p↔bc c p/\0<l.value p) (e2: ∀p,bc (bg c l.rev) p↔bc c p/\l.value p<0)
def xb{c:ao}{l:aa}(hc:bH c)(hl:l.ok):TM c l:=by
 have hr:=eD hc hl.rev;have hi:=eD hc hl
 cases h1:bC c l.rev with
 |false=>
  refine .left h1 fun p hp=>?_;have hn: ¬ ∃q,bc c q/\l.value q<0:=by
   rintro ⟨q,a,b⟩;have:=hr.2 ⟨q,a,by rw[dx];grind⟩;rw[h1] at this;exact absurd this (by decide)
  have n1: ¬l.value p<0:=fun h=>hn ⟨p,hp,h⟩;have n2:l.value p≠0:=fun h=>hn (y7 hl hp h).2;grind
 |true=>
  cases h2:bC c l with
  |false=>
   refine .right h1 h2 fun p hp=>?_;have hn: ¬ ∃q,bc c q/\0<l.value q:=by
    intro h;have:=hi.2 h;rw[h2] at this;exact absurd this (by decide)
   have n1: ¬0<l.value p:=fun h=>hn ⟨p,hp,h⟩;have n2:l.value p≠0:=fun h=>hn (y7 hl hp h).1;grind
  |true=>
   obtain⟨g1,e1⟩:=fG hc hl h2;obtain⟨g2,e2⟩:=fG hc hl.rev h1;refine .both h1 h2 g1 g2 e1 fun p=>?_;rw[e2,dx];constructor<;>rintro ⟨a,b⟩<;>exact⟨a,by grind⟩
def Tr.restrict_A{l:aa}{e:ao}(X Y:Tr)(h:bC e l.rev=false):(Tr.node l X Y).restrict e=X.restrict e:=by
 rw[Tr.restrict,h];rfl
def Tr.restrict_B{l:aa}{e:ao}(X Y:Tr)(h:bC e l.rev=true)(h2:bC e l=false):(Tr.node l X Y).restrict e=Y.restrict e:=by
 rw[Tr.restrict,h,h2];rfl
def Tr.restrict_C{l:aa}{e:ao}(X Y:Tr)(h:bC e l.rev=true)(h2:bC e l=true):(Tr.node l X Y).restrict e=Tr.joinQ l (X.restrict (bg e l)) (Y.restrict (bg e l.rev)):=by
 rw[Tr.restrict,h,h2];rfl
def qg:List aa->ao->Option ao
 |[],c=>some c
 |l::t,c=>if bC c l then qg t (bg c l) else none
def PG: ∀{ls:List aa} {c e:ao},bH c->(∀l∈ls,l.ok)->qg ls c=some e->bH e/\ ∀p,bc e p↔bc c p/\ ∀l∈ls,0<l.value p
 |[],c,e,hc,_,h=>by
  obtain rfl:c=e:=by simpa[qg] using h
  exact⟨hc,fun p=>⟨fun h=>⟨h,fun l hl=>absurd hl (by simp)⟩,fun h=>h.1⟩⟩
 |l::t,c,e,hc,hl,h=>by
  have hl':=dW.1 hl;rw[qg] at h;split at h
  ·rename_i hb
   obtain⟨g1,g2⟩:=fG hc hl'.1 hb;obtain⟨k1,k2⟩:=PG g1 hl'.2 h;refine⟨k1,fun p=>?_⟩;rw[k2,g2,dW,and_assoc]
  ·exact absurd h (by simp)
def LQ: ∀{ls:List aa} {c:ao},bH c->(∀l∈ls,l.ok)->(∃p,bc c p/\ ∀l∈ls,0<l.value p)-> ∃e,qg ls c=some e
 |[],c,_,_,_=>⟨c,J⟩
 |l::t,c,hc,hl,⟨p,h1,h2⟩=>by
  have hl':=dW.1 hl;have h2':=dW.1 h2;have hb:=(eD hc hl'.1).2 ⟨p,h1,h2'.1⟩;obtain⟨g1,g2⟩:=fG hc hl'.1 hb;rw[qg,if_pos hb];exact LQ g1 hl'.2 ⟨p,(g2 p).2 ⟨h1,h2'.1⟩,h2'.2⟩
def OW{c:ao}(hc:bH c){s:bj}(hs:s∈c){m:aa}(hm:m.ok)(h: ∀p,bc c p->0<m.value p)(hz:m.value (s.l.at s.v.sample)=0):m=s.l:=by
 obtain⟨p1,p2⟩:=hc.edge s hs;have hi:=pg p1;have hge: ∀t,s.v.has t->0<=m.value (s.l.at t):=fun t ht=>tg hc.ne h ((p2 t).1 ht);obtain⟨⟨u1,m1,n1⟩,⟨u2,m2,n2⟩⟩:=Jg hi;have g1:=hge _ n1;have g2:=hge _ n2;rw[j9] at hz g1 g2;have hK:s.l.cutK m=0:=by
  rcases kv (s.l.cutK m) with h|h|h
  ·exact h
  ·exfalso
   have:=ge (a:=s.v.sample-u1) (b:=s.l.cutK m) (by grind) h;grind
  ·exfalso
   have:=ge (a:=u2-s.v.sample) (b:= -s.l.cutK m) (by grind) (by grind);grind
 have hz2: ∀t,m.value (s.l.at t)=0:=fun t=>by rw[j9,hK];rw[hK] at hz;grind
 rcases xM hm (hc.ok s hs) hz2 with h'|h'
 ·exact h'
 ·exfalso
  obtain⟨q,hq⟩:=hc.ne;have:=h q hq;rw[h',dx] at this;have:=hq s hs;grind
def eO(l:aa):List aa->ah->Option ah
 |[],v=>some v
 |m::t,v=>if m=l then eO l t v else if l.cutB v m then eO l t (l.cutV v m) else none
def cF(c:List aa)(p:ab):Prop:= ∀m∈c,0<m.value p
def Aa(l:aa): ∀(c:List aa) (v w:ah),v.Pos->eO l c v=some w->
  w.Pos/\(∀t,w.ins t↔v.ins t/\ ∀m∈c,m≠l->0<m.value (l.at t))
 |[],v,w,hv,h=>by
  obtain rfl:v=w:=by simpa[eO] using h
  exact⟨hv,fun t=>⟨fun h=>⟨h,fun s hs=>absurd hs (by simp)⟩,fun h=>h.1⟩⟩
 |m::c,v,w,hv,h=>by
  rw[eO] at h;split at h
  ·rename_i hm
   obtain⟨h1,h2⟩:=Aa l c _ w hv h;refine⟨h1,fun t=>?_⟩;rw[h2,dW];exact⟨fun h=>⟨h.1,fun h'=>absurd hm h',h.2⟩,fun h=>⟨h.1,h.2.2⟩⟩
  ·rename_i hm
   split at h
   ·rename_i hb
    obtain⟨h1,h2⟩:=Aa l c _ w (AN hv hb) h;refine⟨h1,fun t=>?_⟩;rw[h2,PY hb,dW,and_assoc];exact⟨fun h=>⟨h.1,fun _=>h.2.1,h.2.2⟩,fun h=>⟨h.1,h.2.1 hm,h.2.2⟩⟩
   ·exact absurd h (by simp)
def F0(l:aa): ∀(c:List aa) (v:ah),v.Pos->eO l c v=none-> ∀t,v.has t-> ¬ ∀m∈c,m≠l->0<m.value (l.at t)
 |[],v,hv,h=>by simp[eO] at h
 |m::c,v,hv,h=>by
  intro t ht hd;have hd':=dW.1 hd;rw[eO] at h;split at h
  ·exact F0 l c _ hv h t ht hd'.2
  ·rename_i hm
   split at h
   ·rename_i hb
    exact F0 l c _ (AN hv hb) h t ((CP hb t).2 ⟨ht,cM (hd'.1 hm)⟩) hd'.2
   ·rename_i hb
    have:=Ex hv (by simpa using hb) ht;have:=hd'.1 hm;grind
def i5(c:List aa):Bool:=c.isEmpty||c.any (fun l=>(eO l c ah.all).isSome)
def QO: ∀{ls:List aa} {c e:ao},qg ls c=some e-> ∀s∈e,s.l∈ls\/ ∃s'∈c,s'.l=s.l
 |[],c,e,h,s,hs=>by
  obtain rfl:c=e:=by simpa[qg] using h
  exact .inr ⟨s,hs,J⟩
 |l::t,c,e,h,s,hs=>by
  rw[qg] at h;split at h
  ·rcases QO h s hs with h1|⟨s',h1,h2⟩
   ·exact .inl (aJ _ h1)
   ·unfold bg at h1
    split at h1
    ·rcases oH.1 h1 with rfl|h1
     ·exact .inl (by rw[<-h2];exact aQ)
     ·obtain⟨s1,m1,_,rfl⟩:=rI.1 h1
      exact .inr ⟨s1,m1,h2⟩
    ·exact .inr ⟨s',h1,h2⟩
  ·exact absurd h (by simp)
def BR{c:List aa}(hok: ∀l∈c,l.ok)(hne: ∃p,cF c p): ∃e,qg c []=some e/\bH e/\(∀p,bc e p↔cF c p)/\ ∀s∈e,s.l∈c/\(eO s.l c ah.all).isSome=true:=by
 obtain⟨p,hp⟩:=hne;obtain⟨e,he⟩:=LQ bH.nil hok ⟨p,fun s hs=>absurd hs (by simp),hp⟩;obtain⟨g1,g2⟩:=PG bH.nil hok he;have g3: ∀p,bc e p↔cF c p:=fun p=>by
  rw[g2];exact⟨fun h=>h.2,fun h=>⟨fun s hs=>absurd hs (by simp),h⟩⟩
 refine⟨e,he,g1,g3,fun s hs=>?_⟩;have hm:s.l∈c:=by
  rcases QO he s hs with h|⟨_,h,_⟩
  ·exact h
  ·exact absurd h (by simp)
 refine⟨hm,?_⟩
 cases hp:eO s.l c ah.all with
 |some w=>rfl
 |none=>
  exfalso;obtain⟨p1,p2⟩:=g1.edge s hs;have hC:=(p2 s.v.sample).1 (pg p1).has;refine F0 s.l c _ tG hp s.v.sample (A6 _) fun m hmc hne=>?_;have hall: ∀p,bc e p->0<m.value p:=fun p hp=>(g3 p).1 hp m hmc;have h0:=tg g1.ne hall hC;have h1:m.value (s.l.at s.v.sample)≠0:=fun hz=>hne (OW g1 hs (hok m hmc) hall hz);grind
def xg{c:List aa}(hok: ∀l∈c,l.ok):i5 c=true↔ ∃p,cF c p:=by
 unfold i5;rw[iW,List.isEmpty_iff,jS];constructor
 ·rintro (rfl|⟨l,hl,h⟩)
  ·exact⟨⟨0,0⟩,fun m hm=>absurd hm (by simp)⟩
  ·obtain⟨w,hw⟩:=qW.1 h
   obtain⟨w1,w2⟩:=Aa l c _ w tG hw;have hi:=((w2 w.sample).1 (pg w1)).2;have h0:=me (hok l hl).ne w.sample;have hd:bc ((c.filter (fun m=>decide (m≠l))).map (fun m=>(⟨m,ah.all⟩:bj))) (l.at w.sample):=by
    intro s hs;obtain⟨m,hm,rfl⟩:=bV.1 hs;rw[qM,decide_eq_true_iff] at hm;exact hi m hm.1 hm.2
   obtain⟨e,he,ho⟩:=hd.open l.nor;refine⟨ck (l.at w.sample) l.nor e,fun m hm=>?_⟩;by_cases hml:m=l
   ·subst hml
    rw[jl,h0];have:=ge he (q7 (hok m hl).ne);grind
   ·exact ho e (cM he) fU ⟨m,ah.all⟩ (bV.2 ⟨m,qM.2 ⟨hm,by simpa using hml⟩,J⟩)
 ·intro hne
  obtain⟨e,h1,h2,h3,h4⟩:=BR hok hne
  cases c with
  |nil=>exact .inl J
  |cons l c=>
   right
   cases e with
   |nil=>
    exfalso;have:=(h3 (l.at 0)).1 (fun s hs=>absurd hs (by simp)) l aQ;rw[me (hok l aQ).ne] at this;exact absurd this (by decide)
   |cons s e=>
    obtain⟨a,b⟩:=h4 s aQ;exact⟨s.l,a,b⟩
def nC(out:List aa)(l:aa):Nat:=(out.takeWhile (fun x=>decide (fp x.dir l.dir<0))).length
def pB(out:List aa)(l:aa):List aa:=if out[nC out l]? =some l then out else out.take (nC out l)++l::out.drop (nC out l)
def nf(c:List aa):List aa->List aa->List aa
 |[],out=>out
 |l::t,out=>nf c t (if(eO l c ah.all).isSome then pB out l else out)
def fg(c:List aa):List aa:=nf c c []
def IN{out:List aa}{l m:aa}:m∈pB out l↔m=l\/m∈out:=by
 unfold pB;split
 ·rename_i h
  exact⟨fun h=> .inr h,fun h'=>h'.elim (fun e=>e▸aL h) id⟩
 ·generalize nC out l=n
  have h:=jL n out;rw[bW,aY];constructor
  ·rintro (h1|h1|h1)
   ·exact .inr (fK h1)
   ·exact .inl h1
   ·exact .inr (gT h1)
  ·rintro (h1|h1)
   ·exact .inr (.inl h1)
   ·rw[<-h,bW] at h1
    rcases h1 with h1|h1
    ·exact .inl h1
    ·exact .inr (.inr h1)
def LF{c:List aa}{m:aa}: ∀{t out:List aa},m∈nf c t out↔m∈out\/m∈t/\(eO m c ah.all).isSome=true
 |[],out=>by simp[nf]
 |l::t,out=>by
  rw[nf,LF];split
  ·rename_i h
   rw[IN,aY];constructor
   ·rintro ((rfl|h1)|⟨h1,h2⟩)
    ·exact .inr ⟨.inl J,h⟩
    ·exact .inl h1
    ·exact .inr ⟨.inr h1,h2⟩
   ·rintro (h1|⟨rfl|h1,h2⟩)
    ·exact .inl (.inr h1)
    ·exact .inl (.inl J)
    ·exact .inr ⟨h1,h2⟩
  ·rename_i h
   rw[aY];constructor
   ·rintro (h1|⟨h1,h2⟩)
    ·exact .inl h1
    ·exact .inr ⟨.inr h1,h2⟩
   ·rintro (h1|⟨rfl|h1,h2⟩)
    ·exact .inl h1
    ·exact absurd h2 h
    ·exact .inr ⟨h1,h2⟩
def oz{c:List aa}{m:aa}:m∈fg c↔m∈c/\(eO m c ah.all).isSome=true:=by
 unfold fg;rw[LF];simp
def zT{c:List aa}(hok: ∀l∈c,l.ok)(hne: ∃p,cF c p)(p:ab):cF (fg c) p↔cF c p:=by
 constructor
 ·intro h
  obtain⟨e,h1,h2,h3,h4⟩:=BR hok hne;exact(h3 p).1 fun s hs=>h s.l (oz.2 (h4 s hs))
 ·intro h m hm;exact h m (oz.1 hm).1
def n5(c:List aa)(l:aa):Int:=if i5 (c++[l])&&i5 (c++[l.rev]) then 0 else if i5 (c++[l]) then 1 else-1
def Tr.restrictL:Tr->List aa->Tr
 | .leaf b,_=> .leaf b
 | .node l x y,c=>if n5 c l=1 then x.restrictL c else if n5 c l= -1 then y.restrictL c else joinQ l (x.restrictL (fg (c++[l]))) (y.restrictL (fg (c++[l.rev])))
def jC{c:List aa}{l:aa}{p:ab}:cF (c++[l]) p↔cF c p/\0<l.value p:=by
 unfold cF;rw[rR];simp
def iu{c:List aa}{l:aa}(hok: ∀m∈c,m.ok)(hl:l.ok): ∀m∈c++[l],m.ok:=by
 rw[rR];exact⟨hok,by simpa using hl⟩
def Tr.restrictL_eq: ∀(t:Tr) (c:List aa) (d:ao),t.all aa.ok->(∀l∈c,l.ok)->bH d->(∀p,bc d p↔cF c p)->t.restrictL c=t.restrict d
 | .leaf b,c,d,_,_,_,_=>rfl
 | .node l x y,c,d,h,hc,hd,he=>by
  obtain⟨hl,hx,hy⟩:=h;have i1:=xg (iu hc hl);have i2:=xg (iu hc hl.rev);obtain⟨p0,hp0⟩:=hd.ne;rcases xb hd hl with⟨a1,a⟩|⟨a1,a2,a⟩|⟨a1,a2,ag1,ag2,ae1,ae2⟩
  ·have b1:i5 (c++[l])=true:=i1.2 ⟨p0,jC.2 ⟨(he p0).1 hp0,a p0 hp0⟩⟩
   have b2:i5 (c++[l.rev])=false:=by
    rw[<-mR,i2];rintro ⟨p,hp⟩;have hp:=jC.1 hp;have:=a p ((he p).2 hp.1);rw[dx] at hp;grind
   rw[Tr.restrict_A _ _ a1,Tr.restrictL,n5,b1,b2];exact x.restrictL_eq c d hx hc hd he
  ·have b2:i5 (c++[l.rev])=true:=i2.2 ⟨p0,jC.2 ⟨(he p0).1 hp0,by rw[dx];have:=a p0 hp0;grind⟩⟩
   have b1:i5 (c++[l])=false:=by
    rw[<-mR,i1];rintro ⟨p,hp⟩;have hp:=jC.1 hp;have:=a p ((he p).2 hp.1);grind
   rw[Tr.restrict_B _ _ a1 a2,Tr.restrictL,n5,b1,b2];exact y.restrictL_eq c d hy hc hd he
  ·have n1: ∃p,cF (c++[l]) p:=by
    obtain⟨p,hp⟩:=ag1.ne;exact⟨p,jC.2 ⟨(he p).1 ((ae1 p).1 hp).1,((ae1 p).1 hp).2⟩⟩
   have n2: ∃p,cF (c++[l.rev]) p:=by
    obtain⟨p,hp⟩:=ag2.ne;exact⟨p,jC.2 ⟨(he p).1 ((ae2 p).1 hp).1,by rw[dx];have:=((ae2 p).1 hp).2;grind⟩⟩
   rw[Tr.restrict_C _ _ a1 a2,Tr.restrictL,n5,i1.2 n1,i2.2 n2];have k1:=x.restrictL_eq (fg (c++[l])) (bg d l) hx (fun m hm=>iu hc hl m (oz.1 hm).1) ag1 fun p=>by
    rw[zT (iu hc hl) n1,ae1,jC,he]
   have k2:=y.restrictL_eq (fg (c++[l.rev])) (bg d l.rev) hy (fun m hm=>iu hc hl.rev m (oz.1 hm).1) ag2 fun p=>by
    rw[zT (iu hc hl.rev) n2,ae2,jC,he,dx];constructor<;>rintro ⟨a,b⟩<;>exact⟨a,by grind⟩
   rw[k1,k2];rfl
def crossI(l m:aa):Int:=l.a*m.b-m.a*l.b
def meetX(l m:aa):Int:=l.b*m.c-m.b*l.c
def meetY(l m:aa):Int:=m.a*l.c-l.a*m.c
def dH(l m:aa):ab:=if crossI l m=0 then⟨0,0⟩ else⟨(meetX l m:Rat)/(crossI l m:Rat),(meetY l m:Rat)/(crossI l m:Rat)⟩
def gw(l:aa)(p:ab):Rat:=p.dot l.dir/l.dir.dot l.dir
def H8(l:aa):l.dir.dot l.dir=l.nor.dot l.nor:=by
 simp only[aa.dir,aa.nor,ab.dot];grind
def AT{l:aa}(h:l.Ne):0<l.dir.dot l.dir:=by rw[H8];exact q7 h
def zr(l m:aa):((crossI l m:Int):Rat)=(l.a:Rat)*m.b-(m.a:Rat)*l.b:=by
 unfold crossI;rw[kS,cW,cW]
def Oa(l m:aa):((meetX l m:Int):Rat)=(l.b:Rat)*m.c-(m.b:Rat)*l.c:=by
 unfold meetX;rw[kS,cW,cW]
def O3(l m:aa):((meetY l m:Int):Rat)=(m.a:Rat)*l.c-(l.a:Rat)*m.c:=by
 unfold meetY;rw[kS,cW,cW]
def Du(l m:aa):l.cutK m= -((crossI l m:Int):Rat):=by
 rw[zr];simp only[aa.cutK,aa.nor,aa.dir,ab.dot];grind
def Od(l m:aa):m.dir.cross l.dir=l.cutK m:=by
 simp only[aa.cutK,aa.nor,aa.dir,ab.dot,ab.cross];grind
def Pd{l:aa}:(⟨-((l.c:Rat)/l.dir.dot l.dir)*(l.a:Rat), -((l.c:Rat)/l.dir.dot l.dir)*(l.b:Rat)⟩:ab)=l.base:=by
 unfold aa.base;rw[H8];simp only[aa.nor,ab.scale,ab.mk.injEq];constructor<;>grind
def tj(l:aa)(t:Rat):ck l.base l.dir t=l.at t:=by
 simp only[ck,aa.at,ab.add,ab.scale,ab.mk.injEq];constructor<;>grind
def zX{l m:aa}(hl:l.Ne)(h:crossI l m≠0):gw l (dH l m)= -(l.cutC m/l.cutK m):=by
 have hd:((crossI l m:Int):Rat)≠0:=fun e=>h (cN.1 e);have hn:=AT hl;obtain⟨q,q1,q2⟩:=wX hl;rw[Du];unfold gw dH aa.cutC;rw[if_neg h,q2,jf,Oa,O3];have hc:=zr l m;rw[H8] at hn⊢;simp only[aa.dir,aa.nor,ab.dot] at hn q1⊢;generalize ((crossI l m:Int):Rat)=d at*;generalize (l.a:Rat)=a at*;generalize (l.b:Rat)=b at*;generalize (l.c:Rat)=c at*;generalize (m.a:Rat)=x at*;generalize (m.b:Rat)=y at*;generalize (m.c:Rat)=z at*;have hn':a*a+b*b≠0:=by grind
 have e:((b*z-y*c)/d*b+(x*c-a*z)/d* -a)=((b*z-y*c)*b-(x*c-a*z)*a)/d:=by grind
 rw[e];have k1:(b*z-y*c)*b-(x*c-a*z)*a=(a*a+b*b)*(x*(a*q)+y*(b*q)+z):=by grind
 rw[k1];grind
def YL{l m:aa}(hl:l.Ne)(h:crossI l m≠0):gw l (dH l m)*((crossI l m*(l.a*l.a+l.b*l.b):Int):Rat)=((meetX l m*l.b-meetY l m*l.a:Int):Rat):=by
 have hd:((crossI l m:Int):Rat)≠0:=fun e=>h (cN.1 e);have hn:=AT hl;unfold gw dH;rw[if_neg h];simp only[cW,kS,pZ];simp only[aa.dir,ab.dot] at hn⊢;generalize ((crossI l m:Int):Rat)=d at*;generalize ((meetX l m:Int):Rat)=x at*;generalize ((meetY l m:Int):Rat)=y at*;generalize (l.a:Rat)=a at*;generalize (l.b:Rat)=b at*;have hn':b*b+ -a* -a≠0:=by grind
 grind
def F2(l m:aa)(t:List aa)(v:ah):eO l (m::t) v=if m=l then eO l t v else if l.cutB v m then eO l t (l.cutV v m) else none:=rfl
def p6(v:ah)(t:Rat):ah:=if v.nl=true\/0<bm t v.lo then⟨t,v.hi,false,v.nh⟩ else v
def pq(v:ah)(t:Rat):ah:=if v.nh=true\/bm t v.hi<0 then⟨v.lo,t,v.nl,false⟩ else v
structure gE (v:ah):Prop where
 lo:v.nl=true->v.lo=0
 hi:v.nh=true->v.hi=0
def Hn(a b:Rat):0<bm a b↔b<a:=by
 unfold bm;split
 ·constructor
  ·intro h;exact absurd h (by decide)
  ·intro h;grind
 ·split
  ·exact⟨fun _=>by assumption,fun _=>by decide⟩
  ·constructor
   ·intro h;exact absurd h (by decide)
   ·intro h;exact absurd h (by assumption)
def As(a b:Rat):bm a b<0↔a<b:=by
 unfold bm;split
 ·exact⟨fun _=>by assumption,fun _=>by decide⟩
 ·split
  ·constructor
   ·intro h;exact absurd h (by decide)
   ·intro h;grind
  ·constructor
   ·intro h;exact absurd h (by decide)
   ·intro h;exact absurd h (by assumption)
def No{v:ah}(h:gE v)(t:Rat):p6 v t=v.meet ⟨t,0,false,true⟩:=by
 obtain⟨lo,hi,nl,nh⟩:=v;obtain⟨h1,h2⟩:=h;unfold p6 ah.meet;simp only[Hn] at*
 cases nl<;>cases nh<;>simp at* <;>(try (split<;>split<;>simp_all<;>grind))<;>grind
def Oi{v:ah}(h:gE v)(t:Rat):pq v t=v.meet ⟨0,t,true,false⟩:=by
 obtain⟨lo,hi,nl,nh⟩:=v;obtain⟨h1,h2⟩:=h;unfold pq ah.meet;simp only[As] at*
 cases nl<;>cases nh<;>simp at* <;>(try (split<;>split<;>simp_all<;>grind))<;>grind
def gE.all:gE ah.all:=⟨fun _=>J,fun _=>J⟩
def gE.lo'{v:ah}(h:gE v)(t:Rat):gE (p6 v t):=by
 obtain⟨lo,hi,nl,nh⟩:=v;unfold p6;split
 ·exact⟨fun h=>by simp at h,h.hi⟩
 ·exact h
def gE.hi'{v:ah}(h:gE v)(t:Rat):gE (pq v t):=by
 obtain⟨lo,hi,nl,nh⟩:=v;unfold pq;split
 ·exact⟨h.lo,fun h=>by simp at h⟩
 ·exact h
def A1{l m:aa}{v:ah}(h:crossI l m=0):l.cutV v m=v/\(l.cutB v m=true↔0<m.value l.base):=by
 have hk:l.cutK m=0:=by rw[Du,h];rfl
 exact vA v hk
def TU{l m:aa}{v:ah}(hl:l.Ne)(hz:gE v)(h:0<m.dir.cross l.dir):crossI l m≠0/\l.cutV v m=p6 v (gw l (dH l m))/\l.cutB v m=!(p6 v (gw l (dH l m))).empty:=by
 rw[Od] at h;have hc:crossI l m≠0:=fun e=>by rw[Du,e] at h;exact absurd h (by decide)
 obtain⟨h1,h2⟩:=xS v h;refine⟨hc,?_,?_⟩
 ·rw[No hz,zX hl hc,h1]
 ·rw[No hz,zX hl hc,<-h1]
  rw[<-Cg] at h2
  cases hb:l.cutB v m<;>cases he:(l.cutV v m).empty<;>simp_all
def WI{l m:aa}{v:ah}(hl:l.Ne)(hz:gE v)(h0:crossI l m≠0)(h: ¬0<m.dir.cross l.dir):l.cutV v m=pq v (gw l (dH l m))/\l.cutB v m=!(pq v (gw l (dH l m))).empty:=by
 rw[Od] at h;have hk:l.cutK m≠0:=fun e=>by
  rw[Du] at e;have:((crossI l m:Int):Rat)=0:=by grind
  exact h0 (cN.1 this)
 obtain⟨h1,h2⟩:=xm (l:=l) (m:=m) v (by grind);refine⟨?_,?_⟩
 ·rw[Oi hz,zX hl h0,h1]
 ·rw[Oi hz,zX hl h0,<-h1]
  rw[<-Cg] at h2
  cases hb:l.cutB v m<;>cases he:(l.cutV v m).empty<;>simp_all
def relo(fl:Nat->Bool)(o:ak):ak:={o with lo:=fl o.b}
structure gO (P:Program) (f:FuncId) (vs:List Value) (M:List ak) (G:Gh) (K:Value->List ak->Gh->Prop):Prop where
 able:ui P f
 run: ∀w,bz ⟨w,G,M.map (·.b),[],[],none,fun _=>none⟩ (asB M) G w->
  Calls P f ⟨vs⟩ w fun e w'=> ∃v own' G',e= .returned v/\bz ⟨w,G,M.map (·.b),[],[],none,fun _=>none⟩ own' G' w'/\K v own' G'
def gP(M:List ak)(b:Nat):Bool:=M.all fun m=>!Nat.beq m.b b||m.lo
def bz.calledO{C:az}{M rest own':List ak}{G G':Gh}{w w':World}(h:bz C (M++rest) G w)(k:bz ⟨w,G,M.map (·.b),[],[],none,fun _=>none⟩ own' G' w'):
  bz C (own'.map (relo (gP M))++rest) G' w':=by
 have hsz:w.heap.size<=w'.heap.size:=k.size;have hnd:=h.nd;have inM: ∀b,b∈M.map (·.b)-> ∀o∈rest,o.b≠b:=fun b hb o ho e=>by
  obtain⟨m,hm,rfl⟩:=bV.1 hb;exact(gJ.1 hnd).2.2 m hm o ho e.symm
 have bnd: ∀o∈own',o.b∉M.map (·.b)->w.heap.size<=o.b:=fun o ho hb=>by
  obtain⟨_,_,h3,h4⟩:=k.hown o ho
  cases hlo:o.lo with
  |true=>exact h3 hlo
  |false=>exact absurd (h4 hlo) hb
 refine⟨k.os.trans h.os,k.tape.trans h.tape,k.output.trans h.output,cY h.size hsz,?_,k.sub,h.gle.trans k.gle,?_,?_,?_,cY h.dr k.dr,fun p hp=>⟨(h.ext p hp).1,by rw[k.keep _ (iq (h.ext p hp).2) (h.extM hp)];exact(h.ext p hp).2⟩⟩
 ·intro b hb hm
  have hs:=h.size;have hnM:b∉M.map (·.b):=fun hb'=>by
   obtain⟨m,hmM,rfl⟩:=bV.1 hb';obtain⟨_,_,h3,h4⟩:=h.hown m (bU _ hmM)
   cases hlo:m.lo with
   |true=>have:=h3 hlo;omega
   |false=>exact hm (h4 hlo)
  rw[k.keep b (by show b<w.heap.size;omega) hnM];exact h.keep b hb hm
 ·intro b hb;have:=h.size;rw[k.gold b (by show b<w.heap.size;omega)];exact h.gold b hb
 ·intro o ho
  have hs:=h.size;rcases bW.1 ho with ho|ho
  ·obtain⟨o',ho',rfl⟩:=bV.1 ho
   obtain⟨k1,k2,k3,k4⟩:=k.hown _ ho';refine⟨k1,k2,fun hl=>?_,fun hl=>?_⟩
   ·show C.w0.heap.size<=o'.b
    by_cases hb:o'.b∈M.map (·.b)
    ·obtain⟨m,hm,hmb⟩:=bV.1 hb
     have hl':gP M o'.b=true:=hl;have:=fQ.1 hl' m hm;simp only[hmb,iW,gL,oS] at this;obtain⟨_,_,h3,_⟩:=h.hown m (bU _ hm);rw[<-hmb];exact h3 (by rcases this with h|h;(cases h);(exact h))
    ·have:=bnd o' ho' hb;omega
   ·show o'.b∈C.mb
    have hl':gP M o'.b=false:=hl;obtain⟨m,hm,hmb⟩:=List.all_eq_false.1 hl';simp only[iW,gL,not_or] at hmb;obtain⟨h1,h2⟩:=hmb;have e:m.b=o'.b:=by
     cases hq:Nat.beq m.b o'.b with
     |true=>exact aR hq
     |false=>exact absurd hq h1
    obtain⟨_,_,_,h4⟩:=h.hown m (bU _ hm);rw[<-e];exact h4 (by cases hq:m.lo with
     |true=>exact absurd hq h2
     |false=>rfl)
  ·obtain⟨h1,h2,h3⟩:=h.hown o (bL _ ho)
   have hnM:o.b∉M.map (·.b):=fun hb=>inM _ hb o ho J;exact⟨by rw[k.keep _ (iq h1) hnM];exact h1,by rw[k.gold _ (iq h1)];exact h2,h3⟩
 ·refine gJ.2 ⟨?_,(gJ.1 hnd).2.1,?_⟩
  ·rw[List.pairwise_map];exact k.nd
  ·intro x hx y hy
   obtain⟨o',ho',rfl⟩:=bV.1 hx;show o'.b≠y.b;by_cases hb:o'.b∈M.map (·.b)
   ·exact fun e=>inM _ hb y hy e.symm
   ·have h1:=bnd o' ho' hb
    have h2:=iq (h.hown y (bL _ hy)).1;omega
def qP(C:az)(K:Value->List ak->Gh->Prop):Ending->World->Prop:=fun e w'=> ∃v own' G',e= .returned v/\bz C own' G' w'/\K v own' G'
def gO.introR{P:Program}{G:Gh}{f:FuncId}{fn:Func}{c:Code}{vs:List Value}{m:Nat}{M:List ak}{K:Value->List ak->Gh->Prop}(hf:P.funcs[f]? =some fn)(hb:fn.body=some c)(hn:(fn.name== "runtime.NumGoroutine")=false)(hm:fn.ntmps=m)(hlen:Nat.ble vs.length m=true)
  (h: ∀C:az,C.G0=G->C.mb=M.map (·.b)->C.rd=none->(C.fx=fun _=>none)->St C m (ni 0 vs) (asB M) G (c.wp P (fI C P fn (qP C K)))):gO P f vs M G K:=by
 refine⟨⟨fn,hf,hn,by simp[hb]⟩,fun w hw=>?_⟩;have hlen':vs.length<=m:=by simpa using hlen
 have:=calls_of_wp (P:=P) (f:=f) (args:=⟨vs⟩) (w:=w) (R:=qP ⟨w,G,M.map (·.b),[],[],none,fun _=>none⟩ K) hf hb (wp_mono (h ⟨w,G,M.map (·.b),[],[],none,fun _=>none⟩ J J J J _ w
  ⟨hw,by simp;omega,fun k v hk=>by
   obtain⟨j,rfl,hj⟩:=wk vs 0 k v hk;have hj':=(aS.1 hj).1;rw[lQ (by simpa using hj')];simpa using hj,J⟩) fun _ _ _ k=>k J)
 exact this
def gO.intro{P:Program}{G:Gh}{f:FuncId}{fn:Func}{c:Code}{vs:List Value}{m:Nat}{M:List ak}{K:Value->List ak->Gh->Prop}(hf:P.funcs[f]? =some fn)(hb:fn.body=some c)(hn:(fn.name== "runtime.NumGoroutine")=false)(hm:fn.ntmps=m)(hlen:Nat.ble vs.length m=true)
  (h: ∀C:az,C.G0=G->C.mb=M.map (·.b)->St C m (ni 0 vs) (asB M) G (c.wp P (fI C P fn (qP C K)))):gO P f vs M G K:=
 gO.introR hf hb hn hm hlen fun C a b _ _=>h C a b
section
variable {P:Program} {C:az} {n:Nat} {fr:Fr} {own own':List ak} {G:Gh} {Φ:Act->World->Prop}
variable {dst:Option Nat} {t t' ty':TypeId} {pos:String} {af:Array Edge} {gd:Option (Nat×Bool)} {x y:Operand}
def zz{fn:Func}{K:Value->List ak->Gh->Prop}{vs:List Value}(hr:jH P fr own fn.results.toList vs)(own2 own3:List ak)(hp:own.Perm own2)(hs:own3.Sublist own2)(hk:K (gF vs) own3 G):St C n fr own G (fI C P fn (qP C K) .ret):=
 fun a w rl hmk=>⟨rl.df.trans hmk,_,uc hr rl.fr rl.h,_,own3,G,J,(rl.h.perm hp).drop hs,hk⟩
def JD{f:FuncId}{fo:Operand}{args:Array Operand}{tys:Array TypeId}{vs c1 c2:List Value}{M rest:List ak}{K:Value->List ak->Gh->Prop}(ho:ax fr fo=some (.func (.func f) ⟨c1⟩ ⟨c2⟩))(hv:fm fr args.toList=some vs)
  (hp:own.Perm (M++rest))(hF:gO P f (c1++vs++c2) M G K)(hd:b9 n dst=true)(h: ∀v own1 (G':Gh),[GE G G']->K v own1 G'->St C n (put fr dst v) (own1.map (relo (gP M))++rest) G' Φ):
  Ch P C n fr own G ⟨dst, .call ⟨.value fo,args,tys⟩,ty',pos,af,gd⟩ Φ:=by
 intro a w Q rl;have h2:=B6 (P:=P) (dst:=dst) (ty':=ty') (pos:=pos) (af:=af) (gd:=gd) (tys:=tys) (w:=w) hF.able rl.fr ho hv;simp only[Oper.wp,h2,Oper.upon];have hh0:=rl.h.perm hp;refine(hF.run w hh0.lend).mono ?_;rintro e w' ⟨v,own1,G',rfl,hh,hK⟩;exact @h v own1 G' ⟨hh.gle⟩ hK _ _ ((rl.heap (hh0.calledO hh)).put _ hd)
def vN{f:FuncId}{fo:Operand}{args:Array Operand}{tys:Array TypeId}{vs:List Value}{M rest:List ak}{K:Value->List ak->Gh->Prop}(ho:ax fr fo=some (.func (.func f) #[] #[]))(hv:fm fr args.toList=some vs)
  (hp:own.Perm (M++rest))(hF:gO P f vs M G K)(hd:b9 n dst=true)(h: ∀v own1 (G':Gh),[GE G G']->K v own1 G'->St C n (put fr dst v) (own1.map (relo (gP M))++rest) G' Φ):
  Ch P C n fr own G ⟨dst, .call ⟨.value fo,args,tys⟩,ty',pos,af,gd⟩ Φ:=
 JD (c1:=[]) (c2:=[]) ho hv hp (by simpa using hF) hd h
def X8{b:Nat}{cs:List Value}{ty:TypeId}{lo:Bool}(hC:C.mb=[])(h:St C n fr (⟨b,cs,ty,true⟩::own) G Φ):St C n fr (⟨b,cs,ty,lo⟩::own) G Φ:=by
 intro a w rl
 cases lo with
 |true=>exact h a w rl
 |false=>
  have:=(rl.h.hown _ aQ).2.2.2 J;rw[hC] at this;cases this
end
section
variable {P:Program} {C:az} {n:Nat} {fr:Fr} {own own' own1:List ak} {G:Gh} {Φ:Act->World->Prop}
variable {dst:Option Nat} {t t' ty':TypeId} {pos:String} {af:Array Edge} {gd:Option (Nat×Bool)} {x y:Operand} {e s by_:Nat}
def zU{v:Value}{b off k:Nat}{cs cs':List Value}{ty:TypeId}{lo:Bool}(hx:ax fr x=some (.pointer (some ⟨b,off,none⟩)))(hy:ax fr y=some v)[hs:kw P t k][ho:im own b cs ty lo]
  (hc:cA cs off (aA v)=cs')(hu:f8 own b cs ty lo cs' own')(hk:(aA v).length=k)(hl:off+k<=cs.length)(hf:(aA v).all flat=true)(hd:b9 n dst=true)(h:St C n (put fr dst undef) own' G Φ):
  Ch P C n fr own G ⟨dst, .store t x y,ty',pos,af,gd⟩ Φ:=Ed hx hy (hc▸hu) hk hl hf hd h
def qr{v:Value}{b off:Nat}{cs cs':List Value}{ty:TypeId}{lo:Bool}(hx:ax fr x=some (.pointer (some ⟨b,off,none⟩)))(hy:ax fr y=some v)[hs:ip P t][ho:im own b cs ty lo]
  (hc:cs.set off v=cs')(hu:f8 own b cs ty lo cs' own')(hl:off<cs.length)(hf:flat v=true)(hd:b9 n dst=true)(h:St C n (put fr dst undef) own' G Φ):
  Ch P C n fr own G ⟨dst, .store t x y,ty',pos,af,gd⟩ Φ:=sO hx hy (hc▸hu) hl hf hd h
def XC[hT:cx P t e s by_]{ad:Option Addr}{len cap:Nat}(hx:ax fr x=some (.slice ad len cap)):
  Yd P C fr own G ⟨dst, .call ⟨.builtin .cap, #[x], #[t]⟩,ty',pos,af,gd⟩ (.int .i64 cap):=by
 intro a w hf hh;simp only[execOp,resolve,gS,bT,iU,bh hf hx];have h1:(Builtin.cap_ #[t] ty' #[.slice ad len cap]).run P w= .ok (.int .i64 cap) w:=by
  simp only[Builtin.cap_];show(underlying t>>=_).run P w=_;rw[aF (hT.u w)];rfl
 exact cG h1
def U8{w:World}[hT:cx P t e s by_]{b off l c l2 c2 m:Nat}{ad2:Option Addr}{cs ys:List Value}{ty:TypeId}(hm:Nat.min l2 l=m)
  (hb:w.heap[b]? =some (.cells ⟨cs⟩ ty (0,0)))(hsy:(Builtin.firstCells s m (.slice ad2 l2 c2)).run P w= .ok ⟨ys⟩ w)(hf: ∀v∈ys,flat v=true)(hl:off+ys.length<=cs.length):
  (Builtin.copy_ #[t,t'] ty' #[.slice (some ⟨b,off,none⟩) l c, .slice ad2 l2 c2]).run P w=
   .ok (.int .i64 m) (gI w b (.cells ⟨cA cs off ys⟩ ty (0,0))):=by
 obtain⟨i,hi,his,hib⟩:=hT.info;subst his;have hst:=zO (P:=P) ys w off 0 cs hf hb (by omega);rw[eY] at hst;subst hm;simp[Builtin.copy_,run_underlying hT.un,sizeOf,typeInfo,hi,Builtin.lenOf,hsy,hst];rfl
def MK[hT:cx P t e s by_]{b off l c l2 c2 m:Nat}{ad2:Option Addr}{cs ys:List Value}{ty:TypeId}{lo:Bool}(hx:ax fr x=some (.slice (some ⟨b,off,none⟩) l c))(hy:ax fr y=some (.slice ad2 l2 c2))
  (hm:Nat.min l2 l=m)(hsy:mP P C own G s m (.slice ad2 l2 c2) ys)(hf: ∀v∈ys,flat v=true)(hl:off+ys.length<=cs.length)(hu:f8 own b cs ty lo (cA cs off ys) own')(hd:b9 n dst=true)
  (h:St C n (put fr dst (.int .i64 m)) own' G Φ):Ch P C n fr own G ⟨dst, .call ⟨.builtin .copy, #[x,y], #[t,t']⟩,ty',pos,af,gd⟩ Φ:=by
 intro a w Q rl;have hb:=(rl.h.hown _ (hu.spec rl.h.nd).1).1;refine lE (v:= .int .i64 m) (w':=gI w b (.cells ⟨cA cs off ys⟩ ty (0,0))) ?_ (h _ _ ((rl.heap (rl.h.store hu)).put _ hd));simp only[execOp,resolve,gS,bT,iU,bh rl.fr hx,bh rl.fr hy];exact cG (U8 hm hb (hsy w rl.h) hf hl)
def Qu[hT:cx P t e s by_][hN:jz P t']{b len cap m cap2:Nat}{ad2:Option Addr}{cs ys:List Value}{lo:Bool}
  (hx:ax fr x=some (.slice (some ⟨b,0,none⟩) len cap))(hy:ax fr y=some (.slice ad2 m cap2))(hu:f8 own b cs e lo (cA cs (len*s) ys) own')(hcs:cs.length=cap*s)
  (hsy:mP P C own G s m (.slice ad2 m cap2) ys)(hys:ys.length=m*s)(hf: ∀v∈ys,flat v=true)(hneed:len+m<=cap)(hd:b9 n dst=true)
  (h:St C n (put fr dst (.slice (some ⟨b,0,none⟩) (len+m) cap)) own' G Φ):
  Ch P C n fr own G ⟨dst, .call ⟨.builtin .append, #[x,y], #[t,t']⟩,ty',pos,af,gd⟩ Φ:=by
 intro a w Q rl;have hb:=(rl.h.hown _ (hu.spec rl.h.nd).1).1;refine lE (v:= .slice (some ⟨b,0,none⟩) (len+m) cap) (w':=gI w b (.cells ⟨cA cs (len*s) ys⟩ e (0,0))) ?_ (h _ _ ((rl.heap (rl.h.store hu)).put _ hd));simp only[execOp,resolve,gS,bT,iU,bh rl.fr hx,bh rl.fr hy];exact cG (Gg hb hcs (hsy w rl.h) hys hf hneed)
def Fm[hT:cx P t e s by_][hN:jz P t']{z:Value}[hz:gh P e z]{b len cap m cap2:Nat}{ad2:Option Addr}{xs ys rest:List Value}{lo:Bool}
  (hx:ax fr x=some (.slice (some ⟨b,0,none⟩) len cap))(hy:ax fr y=some (.slice ad2 m cap2))(hr:ju own ⟨b,xs++rest,e,lo⟩ own1)(hxs:xs.length=len*s)(hcap:xs.length+rest.length=cap*s)(hlc:len<=cap)
  (hsy:mP P C own G s m (.slice ad2 m cap2) ys)(hys:ys.length=m*s)(hf: ∀v∈ys,flat v=true)
  (hby:0<by_)(hb:(len+m)*by_<=140737488355328)(hzs:(aA z).length=s)(hd:b9 n dst=true)
  (h: ∀b lo' cap' rest',len+m<=cap'->rest'.length+(len+m)*s=cap'*s->St C n (put fr dst (.slice (some ⟨b,0,none⟩) (len+m) cap')) (⟨b,xs++ys++rest',e,lo'⟩::own1) G Φ):
  Ch P C n fr own G ⟨dst, .call ⟨.builtin .append, #[x,y], #[t,t']⟩,ty',pos,af,gd⟩ Φ:=by
 intro a w Q rl;have hp:=rl.h.perm hr.perm;have hblk:=(hp.hown _ aQ).1;simp only[] at hblk;by_cases hneed:len+m<=cap
 ·have hcs:(xs++rest).length=cap*s:=by simp;omega
  have hrun:=Gg (P:=P) (t:=t) (t':=t') (ty':=ty') (w:=w) (len:=len) hblk hcs (hsy w rl.h) hys hf hneed;have hle:len*s+m*s<=cap*s:=by rw[<-cS];exact bK _ hneed
  have hov:cA (xs++rest) (len*s) ys=xs++ys++rest.drop (m*s):=by
   rw[qv _ _ _ (by rw[hys];omega),<-hxs];simp[hys,mU]
  refine lE (v:= .slice (some ⟨b,0,none⟩) (len+m) cap) (w':=gI w b (.cells ⟨cA (xs++rest) (len*s) ys⟩ e (0,0))) ?_ ?_
  ·simp only[execOp,resolve,gS,bT,iU,bh rl.fr hx,bh rl.fr hy]
   exact cG hrun
  ·rw[hov]
   refine h b lo cap (rest.drop (m*s)) hneed ?_ _ _ ((rl.heap (hp.store (.hd ..))).put _ hd);rw[gM,cS];omega
 ·have hx':mP P C own G s len (.slice (some ⟨b,0,none⟩) len cap) xs:=fun w' hw'=>by
   have hb':=(((hw'.perm hr.perm).hown _ aQ).1);refine Dz hb' ?_;rw[ml _ _ _ (by simp;omega),<-hxs];simp
  have hcap':len+m<=grownCap w (len+m) cap e:=by unfold grownCap;simp only[Question.cut];omega
  have hrun:=GO (P:=P) (t:=t) (t':=t') (ty':=ty') (w:=w) (w':=w) (hx' _ rl.h.drew) (hsy _ rl.h.drew) (by omega) hby hb;refine lE (v:= .slice (some ⟨w.heap.size,0,none⟩) (len+m) (grownCap w (len+m) cap e)) (w':=w.drew.alloc (.cells ⟨xs++ys++de z (grownCap w (len+m) cap e-(len+m))⟩ e)) ?_ ?_
  ·simp only[execOp,resolve,gS,bT,iU,bh rl.fr hx,bh rl.fr hy]
   exact cG hrun
  ·refine h w.heap.size _ _ _ hcap' ?_ _ _ ((rl.heap (((hp.drew).drop (mW _ _)).alloc _ _)).put _ hd)
   rw[o5,hzs,<-cS];congr 1;omega
def Yx{f:FuncId}{fn:Func}{tS tR:TypeId}(hf:P.funcs[f]? =some fn)(hname:(fn.name== "runtime.NumGoroutine")=false)(hb:fn.body.isNone=true)(hn:Extern.findNext fn=none)
  (he:Extern.find fn=some (Extern.SlicesOverlaps.overlaps #[tS,tS] #[tR]))[hT:cx P tS e s by_]{args:Array Operand}{tys:Array TypeId}{fo:Operand}
  {b1 b2 o1 o2 l1 l2 c1 c2:Nat}{cs1 cs2:List Value}{t1 t2:TypeId}{lo1 lo2:Bool}(ho:ax fr fo=some (.func (.func f) #[] #[]))
  (hv:fm fr args.toList=some [.slice (some ⟨b1,o1,none⟩) l1 c1, .slice (some ⟨b2,o2,none⟩) l2 c2])[h1:im own b1 cs1 t1 lo1][h2:im own b2 cs2 t2 lo2](hne:b1≠b2)(hc2:cs2≠[]):
  Yd P C fr own G ⟨dst, .call ⟨.value fo,args,tys⟩,ty',pos,af,gd⟩ (.bool false):=by
 intro a w hfr hh;have e1:=(hh.hown _ h1.mem).1;have e2:=(hh.hown _ h2.mem).1;have ev:args.map a.eval=⟨[.slice (some ⟨b1,o1,none⟩) l1 c1, .slice (some ⟨b2,o2,none⟩) l2 c2]⟩:=by apply Array.ext';simpa using DA hfr hv
 simp only[] at e1 e2;have hrun:=Lib.run_overlaps_apart (P:=P) w tS tR e hT.un s hT.siz ⟨b1,o1,none⟩ ⟨b2,o2,none⟩ l1 c1 l2 c2 hne t1 t2 cs1.length cs2.length
  (by simp[World.shape?,e1]) (by simp[World.shape?,e2]) (by simpa using hc2) (by simp[World.frozen?,e1]) (by simp[World.frozen?,e1])
 simp only[execOp,resolve,bh hfr ho,ev,Deferred.ofValue];show(invoke (.fn (.func f) #[]) _).run P w=_;simp only[invoke];have h3:=run_callFunc_extern (P:=P) hf hname hb hn he;rw[h3];simp[hrun,Result.andThen]
end
instance jO.cons2 (l m:List ak) (o:ak) [h:jO l m]:jO (o::l) (o::m):=⟨h.s.cons_cons o⟩
def dr0{P:Program}{C:az}{n:Nat}{fr:Fr}{own own0:List ak}{G:Gh}{ops:Array Oper}{Q:Exit->Act->World->Prop}{b:Nat}{cs:List Value}{ty:TypeId}{lo:Bool}(fin:Nat->Bool)(π:List (Nat×Bool)){id:Nat}(hm:P.follows .mixedOrders=true)(_hr:ju own ⟨b,cs,ty,lo⟩ own0)(ho:(qn ops fin π (Array.replicate ops.size false)&&Nat.ble π.length ops.size)=true)
  (h:St C n fr own G (gp P ops (f7 Q) (HS C own0 G) fin π)):St C n fr own G ((Code.region id ops true).wp P Q):=by
 simp only[bM] at ho;intro a w rl;exact wp_mono (wp_region_any hm (CJ _ _ _ _ (zL (fun _ _ _ _ _ h=>h) π _ a _ ho.1 (h a _ (rl.heap rl.h.drew)) _ (by simpa using ho.2)))) f7.imp
def aC(vs:List Value):List Value:=(vs.map aA).flatten
def ez{s:Nat}: ∀(vs:List Value),(∀v∈vs,(aA v).length=s)->(aC vs).length=vs.length*s
 |[],_=>by simp[aC]
 |v::vs,h=>by
  have h1:=ez vs (fun u hu=>h u (aJ _ hu));have h2:=h v aQ;unfold aC at*;simp only[bT,pW,aV,bZ,h1,h2,fN];omega
def px(us vs:List Value):aC (us++vs)=aC us++aC vs:=by simp[aC]
def vK(v:Value):aC [v]=aA v:=by simp[aC]
def Hl{s:Nat}: ∀(vs:List Value) (i:Nat),(∀v∈vs,(aA v).length=s)->i<=vs.length->(aC vs).take (i*s)=aC (vs.take i)
 |vs,0,_,_=>by simp[aC]
 |[],i+1,_,h=>by simp at h
 |v::vs,i+1,h,hi=>by
  have h1:=Hl vs i (fun u hu=>h u (aJ _ hu)) (by simpa using hi);have h2:=h v aQ;unfold aC at*;simp only[bT,pW,lK];rw[List.take_append,h2,aT (by rw[h2,fN];omega),fN,lR,h1]
def DN{s:Nat}: ∀(vs:List Value) (i:Nat),(∀v∈vs,(aA v).length=s)->i<=vs.length->(aC vs).drop (i*s)=aC (vs.drop i)
 |vs,0,_,_=>by simp
 |[],i+1,_,h=>by simp at h
 |v::vs,i+1,h,hi=>by
  have h1:=DN vs i (fun u hu=>h u (aJ _ hu)) (by simpa using hi);have h2:=h v aQ;unfold aC at*;simp only[bT,pW,tQ];rw[mU,h2,kQ (by rw[h2,fN];omega),fN,lR,h1,jT]
def FI{s:Nat}{vs rest:List Value}(h: ∀v∈vs,(aA v).length=s){i:Nat}(hi:i<vs.length):cD (aC vs++rest) (i*s) s=some (aA vs[i]):=by
 have hl:=ez vs h;have hle:i*s+s<=vs.length*s:=by rw[<-fN];exact bK _ hi
 rw[ml _ _ _ (by simp only[aV];omega)];congr 1;rw[kJ (by omega),DN vs i h (by omega),bX hi];have h2:=h vs[i] (cJ hi);rw[show(vs[i]::vs.drop (i+1))=[vs[i]]++vs.drop (i+1) from J,px,vK,dV,fT (by omega),aT (by omega)]
def d8.of_flat{G:Gh}{b c s:Nat}{vs rest:List Value}(h: ∀v∈vs,(aA v).length=s)(hg:G b=some (aC vs++rest))(hc:vs.length<=c):d8 G s ⟨some ⟨b,0,none⟩,vs.length,c⟩ vs:=
 ⟨J,hc, .inr ⟨b,0,_,J,hg,fun i hi=>by rw[dT];exact FI h hi⟩⟩
section
variable {P:Program} {C:az} {n:Nat} {fr:Fr} {own own':List ak} {G:Gh} {Φ:Act->World->Prop}
variable {dst:Option Nat} {ty':TypeId} {pos:String} {af:Array Edge} {gd:Option (Nat×Bool)} {x y:Operand} {tys:Array TypeId}
def yg{ops:Array Oper}{Q:Exit->Act->World->Prop}(own0:List ak)(fin:Nat->Bool)(π:List (Nat×Bool)){id:Nat}(hm:P.follows .mixedOrders=true)(ho:(qn ops fin π (Array.replicate ops.size false)&&Nat.ble π.length ops.size)=true)
  (h:St C n fr own G (gp P ops (f7 Q) (HS C own0 G) fin π)):St C n fr own G ((Code.region id ops true).wp P Q):=by
 simp only[bM] at ho;intro a w rl;exact wp_mono (wp_region_any hm (CJ _ _ _ _ (zL (fun _ _ _ _ _ h=>h) π _ a _ ho.1 (h a _ (rl.heap rl.h.drew)) _ (by simpa using ho.2)))) f7.imp
end
section
variable {P:Program} {ops:Array Oper} {Q:Exit->Act->World->Prop} {S:World->Prop} {fin:Nat->Bool} {π₂:List (Nat×Bool)}
def bF(l:List Nat)(k:Nat):List Nat:=l.filter fun j=>!Nat.beq j k
def Ep{l:List Nat}{k:Nat}(h:k∈l):(bF l k).length<l.length:=by
 unfold bF;rw[pU];exact⟨k,h,by simp⟩
def Au(ops:Array Oper)(fin:Nat->Bool)(π₂:List (Nat×Bool)):Nat->List Nat->List (Nat×Bool)->Array Bool->Bool
 |0,_,_,_=>false
 |_+1,[],[],listed=>qn ops fin π₂ listed
 |n+1,k::ks,[],listed=>!(Region.ready .any ops listed).isEmpty&&(Region.ready .any ops listed).all (fun j=>(k::ks).contains j)&&(k::ks).all fun j=>Au ops fin π₂ n (bF (k::ks) j) [] (listed.setIfInBounds j true)
 |n+1,ks,(i,true)::r,listed=>yk ops fin listed i&&Au ops fin π₂ n ks r (listed.setIfInBounds i true)
 |n+1,ks,(i,false)::r,listed=>!(Region.ready .any ops listed).isEmpty&&(Region.ready .any ops listed).all (fun j=>Nat.beq j i||ks.contains j)&&Au ops fin π₂ n ks r (listed.setIfInBounds i true)&&ks.all fun j=>Au ops fin π₂ n (bF ks j) ((i,false)::r) (listed.setIfInBounds j true)
def AJ(P:Program)(ops:Array Oper)(Q:Exit->Act->World->Prop)(S:World->Prop)(fin:Nat->Bool)(π₂:List (Nat×Bool)):List Nat->List (Nat×Bool)->Act->World->Prop
 |[],[],a,w=>gp P ops Q S fin π₂ a w
 |k::ks,[],a,w=> ∀j,(h:j∈k::ks)->wpOp P ops Q j (fun a' w'=>(fin j=true\/S w')/\AJ P ops Q S fin π₂ (bF (k::ks) j) [] a' w') a w
 |ks,(i,true)::r,a,w=> ∃o v,ops[i]? =some o/\S w/\YieldsIf P ops S o v a/\AJ P ops Q S fin π₂ ks r (a.put o.dst v) w
 |ks,(i,false)::r,a,w=>wpOp P ops Q i (fun a' w'=>(fin i=true\/S w')/\AJ P ops Q S fin π₂ ks r a' w') a w/\
   ∀j,(h:j∈ks)->wpOp P ops Q j (fun a' w'=>(fin j=true\/S w')/\AJ P ops Q S fin π₂ (bF ks j) ((i,false)::r) a' w') a w
termination_by ks π=>ks.length+π.length
decreasing_by
 all_goals (first|(have:=Ep h;simp only[bZ,fX] at*;omega)|(simp only[bZ];omega))
end
structure FD where
 k:Nat
 d:Nat
 t:TypeId
 z:Value
abbrev Fs:=Nat->Option Nat
def Ip:List FD->Fs->Fr
 |[],_=>[]
 |f::r,fs=>fF f.d (fs f.k)++Ip r fs
def GG:List FD->Fs->List ak
 |[],_=>[]
 |f::r,fs=>fO f.t f.z (fs f.k)++GG r fs
def IR(fd:List FD)(fs:Fs):List Nat:=(fd.filter fun f=>(fs f.k).isNone).map (·.k)
def aKh(fs:Fs)(k b:Nat):Fs:=fun j=>if j=k then some b else fs j
structure aKG (P:Program) (ops:Array Oper) (n:Nat) (fd:List FD):Prop where
 op: ∀f∈fd,∃ty' pos af,ops[f.k]? =some ⟨some f.d, .alloc f.t,ty',pos,af,none⟩/\b9 n (some f.d)=true
 z: ∀f∈fd,gh P f.t f.z
 nd:(fd.map (·.k)).Nodup
 dd: ∀f∈fd,∀g∈fd,f.d=g.d->f.k=g.k
section
variable {P:Program} {C:az} {n:Nat} {fr:Fr} {own own0:List ak} {G G0:Gh} {ops:Array Oper} {Q:Exit->Act->World->Prop} {fin:Nat->Bool} {π π₂:List (Nat×Bool)} {fd:List FD}
def dwH(P:Program)(ops:Array Oper)(Q:Exit->Act->World->Prop)(S:World->Prop)(fin:Nat->Bool)(π₂:List (Nat×Bool))(fd:List FD)(fs:Fs)(π:List (Nat×Bool)):Act->World->Prop:=AJ P ops Q S fin π₂ (IR fd fs) π
end
def jp(s:Nat)(ty:TypeId)(x:SV)(vs:List Value)(B:List ak):Prop:=
 (vs=[]/\x=⟨none,0,0⟩/\B=[])\/
 ∃b rest lo,x=⟨some ⟨b,0,none⟩,vs.length,x.c⟩/\B=[⟨b,aC vs++rest,ty,lo⟩]/\(aC vs).length=vs.length*s/\(aC vs).length+rest.length=x.c*s/\vs.length<=x.c
def jp.nil(s:Nat)(ty:TypeId):jp s ty ⟨none,0,0⟩ [] []:= .inl ⟨J,J,J⟩
def jp.relo{s:Nat}{ty:TypeId}{x:SV}{vs:List Value}{B:List ak}(h:jp s ty x vs B)(fl:Nat->Bool):jp s ty x vs (B.map (Go.Sx.relo fl)):=by
 rcases h with⟨h1,h2,h3⟩|⟨b,rest,lo,h1,h2,h3,h4,h5⟩
 ·exact .inl ⟨h1,h2,by rw[h3];rfl⟩
 ·exact .inr ⟨b,rest,fl b,h1,by rw[h2];rfl,h3,h4,h5⟩
def jp.asB{s:Nat}{ty:TypeId}{x:SV}{vs:List Value}{B:List ak}(h:jp s ty x vs B):jp s ty x vs (asB B):=by
 rcases h with⟨h1,h2,h3⟩|⟨b,rest,lo,h1,h2,h3,h4,h5⟩
 ·exact .inl ⟨h1,h2,by rw[h3];rfl⟩
 ·exact .inr ⟨b,rest,false,h1,by rw[h2];rfl,h3,h4,h5⟩
def jp.len{s:Nat}{ty:TypeId}{x:SV}{vs:List Value}{B:List ak}(h:jp s ty x vs B):x.n=vs.length:=by
 rcases h with⟨h1,h2,h3⟩|⟨b,rest,lo,h1,h2,h3,h4,h5⟩
 ·rw[h2,h1];rfl
 ·rw[h1]
def WE{M:List ak}{m:ak}(h:m∈M)(hl:m.lo=false):gP M m.b=false:=by
 refine List.all_eq_false.2 ⟨m,h,?_⟩;simp[hl]
def BD{M:List ak}(b:Nat)(h: ∀m∈M,m.lo=true):gP M b=true:=by
 refine fQ.2 fun m hm=>?_;simp[h m hm]
section
variable {P:Program} {C:az} {n:Nat} {fr:Fr} {own own':List ak} {G:Gh} {Φ:Act->World->Prop}
variable {dst:Option Nat} {t t' ty':TypeId} {pos:String} {af:Array Edge} {gd:Option (Nat×Bool)} {x y:Operand} {e s by_:Nat}
def YR[hT:cx P t e s by_][hN:jz P t']{z:Value}[hz:gh P e z]{w:SV}{vs:List Value}{v:Value}{B:List ak}(L:List ak){ad2:Option Addr}{cap2:Nat}
  (ho:own=L++B)(hB:jp s e w vs B)(hx:ax fr x=some (.slice w.a w.n w.c))(hy:ax fr y=some (.slice ad2 1 cap2))
  (hsy:mP P C own G s 1 (.slice ad2 1 cap2) (aA v))(hv:(aA v).length=s)(hf: ∀c∈aA v,flat c=true)
  (hby:0<by_)(hb:(vs.length+1)*by_<=140737488355328)(hzs:(aA z).length=s)(hd:b9 n dst=true)
  (h: ∀w' B',jp s e w' (vs++[v]) B'->St C n (put fr dst (.slice w'.a w'.n w'.c)) (L++B') G Φ):
  Ch P C n fr own G ⟨dst, .call ⟨.builtin .append, #[x,y], #[t,t']⟩,ty',pos,af,gd⟩ Φ:=by
 subst ho;rcases hB with⟨h1,h2,h3⟩|⟨b,rest,lo,h1,h2,h3,h4,h5⟩
 ·subst h1 h2 h3
  rw[jJ] at hsy⊢;refine yT (z:=z) (xs:=[]) (ys:=aA v) hx hy (u7) hsy (by show 0<0+1;omega) hby (by simpa using hb) hd (fun b cap' hc=>?_);refine Ao (L++[⟨b,[]++aA v++de z (cap'-(0+1)),e,true⟩]) ?_ (h ⟨some ⟨b,0,none⟩,1,cap'⟩ _ (.inr ⟨b,de z (cap'-(0+1)),true,J,?_,?_,?_,by simpa using hc⟩))
  ·exact(jM (l₁:=[_]) (l₂:=L))
  ·simp[aC]
  ·simp[aC,hv]
  ·simp only[jT,vK,hv,o5,hzs]
   obtain⟨c,rfl⟩: ∃c,cap'=c+1:=⟨cap'-1,by have:0+1<=cap':=hc;omega⟩;rw[show c+1-(0+1)=c by omega,fN,jY]
 ·have hwc:w.a=some ⟨b,0,none⟩/\w.n=vs.length:=by rw[h1];exact⟨J,J⟩
  rw[hwc.1,hwc.2] at hx;subst h2;have hsub:ju (L++[⟨b,aC vs++rest,e,lo⟩]) ⟨b,aC vs++rest,e,lo⟩ L:=by
   clear hsy h
   induction L with
   |nil=>exact .hd ..
   |cons a l ih=>exact .tl _ _ _ _ ih
  refine Fm (z:=z) (xs:=aC vs) (ys:=aA v) (rest:=rest) hx hy hsub h3 h4 h5 hsy (by rw[hv,lM]) hf hby hb hzs hd (fun b' lo' cap' rest' hc hr=>?_);refine Ao (L++[⟨b',aC vs++aA v++rest',e,lo'⟩]) ?_ (h ⟨some ⟨b',0,none⟩,vs.length+1,cap'⟩ _ (.inr ⟨b',rest',lo',by simp,?_,?_,?_,by simpa using hc⟩))
  ·exact(jM (l₁:=[_]) (l₂:=L))
  ·rw[px,vK]
  ·rw[px,vK,aV,h3,hv,aV,eK,fN]
  ·rw[px,vK,aV,h3,hv]
   rw[fN] at hr;show vs.length*s+s+rest'.length=cap'*s;omega
end
instance jO.nil (l:List ak):jO [] l:=⟨kM l⟩
def Je{C:az}{n:Nat}{fr:Fr}{own own':List ak}{G:Gh}{Φ:Act->World->Prop}(e:own=own')(h:St C n fr own' G Φ):St C n fr own G Φ:=e▸h
def y8{P:Program}{C:az}{n:Nat}{fr:Fr}{own:List ak}{G:Gh}{Φ:Act->World->Prop}{dst:Option Nat}{ty':TypeId}{pos:String}{af:Array Edge}{gd:Option (Nat×Bool)}{f:FuncId}{fo:Operand}{args:Array Operand}{tys:Array TypeId}{vs c1 c2:List Value}{M rest:List ak}{K:Value->List ak->Gh->Prop}(ho:ax fr fo=some (.func (.func f) ⟨c1⟩ ⟨c2⟩))(hv:fm fr args.toList=some vs)
  (hp:own.Perm (M++rest))(hF:gO P f (c1++vs++c2) M G K)(hd:b9 n dst=true)
  (h: ∀v own1 (G':Gh) (fl:Nat->Bool),[GE G G']->(∀m∈M,m.lo=false->fl m.b=false)->((∀m∈M,m.lo=true)-> ∀b,fl b=true)->K v own1 G'->St C n (put fr dst v) (own1.map (relo fl)++rest) G' Φ):
  Ch P C n fr own G ⟨dst, .call ⟨.value fo,args,tys⟩,ty',pos,af,gd⟩ Φ:=
 JD ho hv hp hF hd (fun v own1 G' _ hK=>h v own1 G' (gP M) (fun _ hm hl=>WE hm hl) (fun hl b=>BD b hl) hK)
def Q5{s:Nat}{rest:List Value}{x:Value}{j:Nat}(hj:j<s): ∀(vs:List Value) (n:Nat) (hn:n<vs.length),(∀v∈vs,(aA v).length=s)->
  (aC vs++rest).set (n*s+j) x=aC (vs.take n)++((aA vs[n]).set j x++(aC (vs.drop (n+1))++rest))
 |[],n,hn,_=>by simp at hn
 |v::vs,0,hn,h=>by
  have h2:=h v aQ;have e:aC (v::vs)=aA v++aC vs:=by simp[aC]
  rw[e,dV,kY,dT,List.set_append_left _ _ (by omega)];simp[aC]
 |v::vs,n+1,hn,h=>by
  have h2:=h v aQ;have ih:=Q5 (rest:=rest) (x:=x) hj vs n (by simpa using hn) (fun u hu=>h u (aJ _ hu));have e:aC (v::vs)=aA v++aC vs:=by simp[aC]
  rw[e,dV,pJ _ _ (by rw[h2,fN];omega),h2,show(n+1)*s+j-s=n*s+j by rw[fN];omega,ih];simp[aC]
def Ty{C:az}{n:Nat}{fr:Fr}{L B:List ak}{G:Gh}{Φ:Act->World->Prop}{s:Nat}{ty:TypeId}{x:SV}{vs:List Value}(hC:C.mb=[])(hB:jp s ty x vs B)(hvs: ∀v∈vs,(aA v).length=s)
  (h: ∀G':Gh,[GE G G']->d8 G' s x vs->St C n fr L G' Φ):St C n fr (L++B) G Φ:=by
 rcases hB with⟨h1,h2,h3⟩|⟨b,rest,lo,h1,h2,h3,h4,h5⟩
 ·subst h1 h2 h3
  rw[jJ];exact @h G ⟨bD.refl _⟩ (d8.nil _ _)
 ·subst h2
  refine Ao (⟨b,aC vs++rest,ty,lo⟩::L) jM ?_;refine X8 hC ?_;refine qk b (.hd ..) ?_;intro G' hG hg;refine @h G' hG ?_;rw[h1];exact d8.of_flat hvs hg.h h5
end Go.Sx
end
