import Derived.Test.YtmhfhhiaecjhiaaGreatDoorBr10
set_option linter.all false
set_option maxHeartbeats 1000000
set_option maxRecDepth 100000
section
namespace Go.Sx
open Go
def lj(l:ab)(p:aa):l.value p=(l.a:Rat)*p.x+(l.b:Rat)*p.y+(l.c:Rat):=rfl
def gA(l:ab)(p:aa):l.rev.value p= -l.value p:=by
 rw[lj,lj];have h1:((l.rev.a:Int):Rat)= -(l.a:Rat):=(FN l.a).symm;have h2:((l.rev.b:Int):Rat)= -(l.b:Rat):=(FN l.b).symm;have h3:((l.rev.c:Int):Rat)= -(l.c:Rat):=(FN l.c).symm;rw[h1,h2,h3];grind
def bG(q p:aa)(e:Rat):aa:=⟨q.x+e*(p.x-q.x),q.y+e*(p.y-q.y)⟩
def jD(l:ab)(q p:aa)(e:Rat):l.value (bG q p e)=l.value q+e*(l.value p-l.value q):=by
 simp only[lj,bG];grind
def dB(q u:aa)(e:Rat):aa:=⟨q.x+e*u.x,q.y+e*u.y⟩
def jF(l:ab)(q u:aa)(e:Rat):l.value (dB q u e)=l.value q+e*l.nor.dot u:=by
 simp only[lj,dB,ab.nor,aa.dot];grind
def fp{a b:Rat}(ha:0<a)(hb:0<b):0<a*b:=Rat.mul_pos ha hb
def eO{a b:Rat}(ha:0<=a)(hb:0<=b):0<=a*b:=Rat.mul_nonneg ha hb
def Q9(a:Rat):0<=a*a:=by
 by_cases h:0<=a
 .exact eO h h
 .have:=eO (a:= -a) (b:= -a) (by grind) (by grind)
  grind
def jb{s k:Rat}(hk:0<k):0<s*k↔0<s:=by
 constructor
 .intro h
  by_cases hs:0<s
  .exact hs
  .have:=eO (a:= -s) (b:=k) (by grind) (by grind)
   grind
 .intro h;exact fp h hk
def i5{s k:Rat}(hk:0<k):0<=s*k↔0<=s:=by
 constructor
 .intro h
  by_cases hs:0<=s
  .exact hs
  .have:=fp (a:= -s) (b:=k) (by grind) hk
   grind
 .intro h;exact eO h (by grind)
def Pd{A B u v:Rat}(h0:0<=A)(h1:0<=A+v*B)(hu:0<=u)(huv:u<=v):0<=A+u*B:=by
 by_cases hB:0<=B
 .have:=eO hu hB;grind
 .have:=eO (a:=v-u) (b:= -B) (by grind) (by grind)
  grind
def ab.Ne(l:ab):Prop:= ¬(l.a=0/\l.b=0)
def ab.ok.ne{l:ab}(h:l.ok):l.Ne:=h.1
def ow{l:ab}(h:l.Ne):0<l.nor.dot l.nor:=by
 show 0<(l.a:Rat)*l.a+(l.b:Rat)*l.b;have h1:=Q9 (l.a:Rat);have h2:=Q9 (l.b:Rat);by_cases ha:l.a=0
 .have hb:l.b≠0:=fun hb=>h ⟨ha,hb⟩
  have hb':(l.b:Rat)≠0:=fun e=>hb (dV.1 e);have:(l.b:Rat)*l.b≠0:=by grind
  grind
 .have ha':(l.a:Rat)≠0:=fun e=>ha (dV.1 e)
  have:(l.a:Rat)*l.a≠0:=by grind
  grind
def yp{l:ab}(h:l.Ne): ∃q:Rat,l.nor.dot l.nor*q= -(l.c:Rat)/\l.base=⟨(l.a:Rat)*q,(l.b:Rat)*q⟩:=by
 refine⟨-(l.c:Rat)/l.nor.dot l.nor,?_,J⟩;have:=ow h;grind
def kE(l m:ab)(t:Rat):m.value (l.at t)=l.cutC m+t*l.cutK m:=by
 simp only[ab.cutC,ab.cutK,lj,ab.at,aa.add,aa.scale,ab.dir,ab.nor,aa.dot];grind
def mD{l:ab}(h:l.Ne)(t:Rat):l.value (l.at t)=0:=by
 obtain⟨q,h1,h2⟩:=yp h;simp only[lj,ab.at,h2,aa.add,aa.scale,ab.dir];simp only[ab.nor,aa.dot] at h1;grind
def Bx{l:ab}(h:l.Ne){p:aa}(hp:l.value p=0): ∃t,p=l.at t:=by
 obtain⟨q,h1,h2⟩:=yp h;have hn:=ow h;obtain⟨x,y⟩:=p;rw[lj] at hp;simp only[ab.nor,aa.dot] at h1 hn;refine⟨((l.b:Rat)*x-(l.a:Rat)*y)/((l.a:Rat)*l.a+(l.b:Rat)*l.b),?_⟩;generalize ht:((l.b:Rat)*x-(l.a:Rat)*y)/((l.a:Rat)*l.a+(l.b:Rat)*l.b)=t;have ht':((l.a:Rat)*l.a+(l.b:Rat)*l.b)*t=(l.b:Rat)*x-(l.a:Rat)*y:=by grind
 simp only[ab.at,h2,aa.add,aa.scale,ab.dir,aa.mk.injEq];generalize (l.a:Rat)=a at*;generalize (l.b:Rat)=b at*;generalize (l.c:Rat)=c at*;have e1:(a*a+b*b)*(x-(a*q+b*t))=0:=by grind
 have e2:(a*a+b*b)*(y-(b*q+ -a*t))=0:=by grind
 constructor<;>grind
def ao.has(v:ao)(t:Rat):Prop:=(v.nl=true\/v.lo<=t)/\(v.nh=true\/t<=v.hi)
def ao.ins(v:ao)(t:Rat):Prop:=(v.nl=true\/v.lo<t)/\(v.nh=true\/t<v.hi)
def ao.Pos(v:ao):Prop:=v.nl=true\/v.nh=true\/v.lo<v.hi
def Yv(a b:Rat):0<=ce a b↔b<=a:=by
 unfold ce;split
 .constructor
  .intro h;exact absurd h (by decide)
  .intro h;grind
 .split
  .constructor
   .intro _;grind
   .intro _;decide
  .constructor
   .intro _;grind
   .intro _;decide
def Bq(v:ao):v.empty=false↔v.Pos:=by
 obtain⟨lo,hi,nl,nh⟩:=v;unfold ao.empty ao.Pos
 cases nl<;>cases nh<;>simp[Yv]
 first|exact Rat.not_le|grind
def ao.ins.has{v:ao}{t:Rat}(h:v.ins t):v.has t:=by
 obtain⟨h1,h2⟩:=h;exact⟨h1.imp id (fun h=>fQ h),h2.imp id (fun h=>fQ h)⟩
def Pz:mkRat 1 2=(1:Rat)/2:=by rw[mZ];rfl
def pb{v:ao}(h:v.Pos):v.ins v.sample:=by
 obtain⟨lo,hi,nl,nh⟩:=v;unfold ao.Pos at h;unfold ao.ins ao.sample;rw[Pz]
 cases nl<;>cases nh<;>simp at* <;>grind
def KH(v w:ao)(t:Rat):(v.meet w).has t↔v.has t/\w.has t:=by
 obtain⟨lo,hi,nl,nh⟩:=v;obtain⟨lo',hi',nl',nh'⟩:=w;unfold ao.has ao.meet
 cases nl<;>cases nh<;>cases nl'<;>cases nh'<;>simp<;>grind
def KB(v w:ao)(t:Rat):(v.meet w).ins t↔v.ins t/\w.ins t:=by
 obtain⟨lo,hi,nl,nh⟩:=v;obtain⟨lo',hi',nl',nh'⟩:=w;unfold ao.ins ao.meet
 cases nl<;>cases nh<;>cases nl'<;>cases nh'<;>simp<;>grind
def Hr(t:Rat):ao.all.has t:=⟨.inl J, .inl J⟩
def aAD(t:Rat):ao.all.ins t:=⟨.inl J, .inl J⟩
def uL:ao.all.Pos:= .inl J
def lw(k:Rat):Int.sign k.num=0↔k=0:=by rw[pS,lT]
def awi(k:Rat):0<k.num↔0<k:=by
 have h1:0<=k.num↔0<=k:=Rat.num_nonneg;have h2:k.num=0↔k=0:=lT;constructor
 .intro h
  have a:=h1.1 (by omega);have b:k≠0:=fun e=>by have:=h2.2 e;omega
  grind
 .intro h
  have a:=h1.2 (by grind);have b:k.num≠0:=fun e=>by have:=h2.1 e;grind
  omega
def og(k:Rat):Int.sign k.num=1↔0<k:=by rw[Int.sign_eq_one_iff_pos,awi]
def pI(k:Rat):0<Int.sign k.num↔0<k:=by
 rw[<-og];rcases rJ k.num 0 with h|h|h
 .rw[fT h];decide
 .rw[h];decide
 .rw[gS h];decide
def n8(k:Rat):Int.sign k.num<0↔k<0:=by
 have h1:=lw k;have h2:=pI k;constructor
 .intro h
  by_cases hk:0<k
  .have:=h2.2 hk;omega
  .by_cases h0:k=0
   .have:=h1.2 h0;omega
   .grind
 .intro h
  have a1: ¬Int.sign k.num=0:=fun e=>by have:=h1.1 e;grind
  have a2: ¬0<Int.sign k.num:=fun e=>by have:=h2.1 e;grind
  omega
def vv{l m:ab}(v:ao)(hk:l.cutK m=0):l.cutV v m=v/\(l.cutB v m=true↔0<l.cutC m):=by
 have h:=(lw (l.cutK m)).2 hk;unfold ab.cutV ab.cutB;rw[if_pos h,if_pos h,decide_eq_true_iff,pI];exact⟨J,Iff.rfl⟩
def vD{l m:ab}(v:ao)(hk:0<l.cutK m):l.cutV v m=v.meet ⟨-(l.cutC m/l.cutK m),0,false,true⟩/\(l.cutB v m=true↔(l.cutV v m).Pos):=by
 have h0: ¬Int.sign (l.cutK m).num=0:=fun e=>by have:=(lw _).1 e;grind
 have h1:=(og (l.cutK m)).2 hk;constructor
 .unfold ab.cutV;rw[if_neg h0,if_pos h1]
 .unfold ab.cutB;rw[if_neg h0,<-Bq];simp
def vU{l m:ab}(v:ao)(hk:l.cutK m<0):l.cutV v m=v.meet ⟨0, -(l.cutC m/l.cutK m),true,false⟩/\(l.cutB v m=true↔(l.cutV v m).Pos):=by
 have h0: ¬Int.sign (l.cutK m).num=0:=fun e=>by have:=(lw _).1 e;grind
 have h1: ¬Int.sign (l.cutK m).num=1:=fun e=>by have:=(og _).1 e;grind
 constructor
 .unfold ab.cutV;rw[if_neg h0,if_neg h1]
 .unfold ab.cutB;rw[if_neg h0,<-Bq];simp
def SM{C K t:Rat}(hk:0<K): -(C/K)<=t↔0<=C+t*K:=by
 have e:C=C/K*K:=by grind
 generalize C/K=d at*;rw[e,show d*K+t*K=(d+t)*K from by grind,i5 hk];grind
def KM{C K t:Rat}(hk:0<K): -(C/K)<t↔0<C+t*K:=by
 have e:C=C/K*K:=by grind
 generalize C/K=d at*;rw[e,show d*K+t*K=(d+t)*K from by grind,jb hk];grind
def YG{C K t:Rat}(hk:K<0):t<= -(C/K)↔0<=C+t*K:=by
 have e:C=C/K*K:=by grind
 generalize C/K=d at*;rw[e,show d*K+t*K=(-(d+t))*(-K) from by grind,i5 (by grind)];grind
def K3{C K t:Rat}(hk:K<0):t< -(C/K)↔0<C+t*K:=by
 have e:C=C/K*K:=by grind
 generalize C/K=d at*;rw[e,show d*K+t*K=(-(d+t))*(-K) from by grind,jb (by grind)];grind
def mC(k:Rat):k=0\/0<k\/k<0:=by grind
def CC{l m:ab}{v:ao}(hb:l.cutB v m=true)(t:Rat):(l.cutV v m).has t↔v.has t/\0<=m.value (l.at t):=by
 rw[kE];rcases mC (l.cutK m) with hk|hk|hk
 .obtain⟨h1,h2⟩:=vv v hk
  rw[h1,hk];have:=h2.1 hb;constructor
  .intro h;exact⟨h,by grind⟩
  .exact fun h=>h.1
 .rw[(vD v hk).1,KH,<-SM hk]
  simp[ao.has]
 .rw[(vU v hk).1,KH,<-YG hk]
  simp[ao.has]
def BD{l m:ab}{v:ao}(hb:l.cutB v m=true)(t:Rat):(l.cutV v m).ins t↔v.ins t/\0<m.value (l.at t):=by
 rw[kE];rcases mC (l.cutK m) with hk|hk|hk
 .obtain⟨h1,h2⟩:=vv v hk
  rw[h1,hk];have:=h2.1 hb;constructor
  .intro h;exact⟨h,by grind⟩
  .exact fun h=>h.1
 .rw[(vD v hk).1,KB,<-KM hk]
  simp[ao.ins]
 .rw[(vU v hk).1,KB,<-K3 hk]
  simp[ao.ins]
def vo{l m:ab}{v:ao}(hv:v.Pos)(hb:l.cutB v m=true):(l.cutV v m).Pos:=by
 rcases mC (l.cutK m) with hk|hk|hk
 .rw[(vv v hk).1];exact hv
 .exact(vD v hk).2.1 hb
 .exact(vU v hk).2.1 hb
def C5{l m:ab}{v:ao}(hv:v.Pos)(hb:l.cutB v m=false){t:Rat}(ht:v.has t):m.value (l.at t)<=0:=by
 rw[kE];have hb': ¬l.cutB v m=true:=by rw[hb];decide
 rcases mC (l.cutK m) with hk|hk|hk
 .have h2:=(vv v hk).2
  have: ¬0<l.cutC m:=fun h=>hb' (h2.2 h);rw[hk];grind
 .obtain⟨h1,h2⟩:=vD v hk
  have hn: ¬(l.cutV v m).Pos:=fun h=>hb' (h2.2 h);rw[h1] at hn;have h3:=KM (C:=l.cutC m) (t:=t) hk
  suffices¬(-(l.cutC m/l.cutK m)<t) by grind
  generalize-(l.cutC m/l.cutK m)=d at*;obtain⟨lo,hi,nl,nh⟩:=v;unfold ao.Pos ao.meet at hn;unfold ao.Pos at hv;unfold ao.has at ht
  cases nl<;>cases nh<;>simp at* <;>grind
 .obtain⟨h1,h2⟩:=vU v hk
  have hn: ¬(l.cutV v m).Pos:=fun h=>hb' (h2.2 h);rw[h1] at hn;have h3:=K3 (C:=l.cutC m) (t:=t) hk
  suffices¬(t< -(l.cutC m/l.cutK m)) by grind
  generalize-(l.cutC m/l.cutK m)=d at*;obtain⟨lo,hi,nl,nh⟩:=v;unfold ao.Pos ao.meet at hn;unfold ao.Pos at hv;unfold ao.has at ht
  cases nl<;>cases nh<;>simp at* <;>grind
def bH(c:aA)(p:aa):Prop:= ∀s∈c,0<s.l.value p
def ng(c:aA)(p:aa):Prop:= ∀s∈c,0<=s.l.value p
def Gz(l:ab): ∀(c:aA) (v w:ao),v.Pos->mc l c v=some w->
  w.Pos/\(∀t,w.has t↔v.has t/\ng c (l.at t))/\(∀t,w.ins t↔v.ins t/\bH c (l.at t))
 |[],v,w,hv,h=>by
  obtain rfl:v=w:=by simpa[mc] using h
  exact⟨hv,fun t=>⟨fun h=>⟨h,fun s hs=>absurd hs (by simp)⟩,fun h=>h.1⟩,fun t=>⟨fun h=>⟨h,fun s hs=>absurd hs (by simp)⟩,fun h=>h.1⟩⟩
 |s::c,v,w,hv,h=>by
  rw[mc] at h;split at h
  .rename_i hb
   obtain⟨h1,h2,h3⟩:=Gz l c _ w (vo hv hb) h;refine⟨h1,fun t=>?_,fun t=>?_⟩
   .rw[h2,CC hb]
    simp only[ng,cS];exact and_assoc
   .rw[h3,BD hb]
    simp only[bH,cS];exact and_assoc
  .exact absurd h (by simp)
def QI(l:ab): ∀(c:aA) (v:ao),v.Pos->mc l c v=none-> ∀t,v.has t-> ¬bH c (l.at t)
 |[],v,hv,h=>by simp[mc] at h
 |s::c,v,hv,h=>by
  intro t ht hd;have hd':=cS.1 hd;rw[mc] at h;split at h
  .rename_i hb
   exact QI l c _ (vo hv hb) h t ((CC hb t).2 ⟨ht,fQ hd'.1⟩) hd'.2
  .rename_i hb
   have:=C5 hv (by simpa using hb) ht;have:=hd'.1;grind
def bH.open: ∀{c:aA} {q:aa} (u:aa),bH c q-> ∃e:Rat,0<e/\ ∀d,0<=d->d<=e->bH c (dB q u d)
 |[],q,u,_=>⟨1,by decide,fun d _ _ s hs=>absurd hs (by simp)⟩
 |s::c,q,u,h=>by
  have h':=cS.1 h;obtain⟨e,he,hd⟩:=bH.open (c:=c) u h'.2;have hs:=h'.1;generalize hk:s.l.nor.dot u=k;have hf: ∃f:Rat,0<f/\ ∀d,0<=d->d<=f->0<s.l.value q+d*k:=by
   by_cases hk0:0<=k
   .exact⟨1,by decide,fun d h1 _=>by have:=eO h1 hk0;grind⟩
   .refine⟨s.l.value q/(2* -k),?_,fun d h1 h2=>?_⟩
    .have e1:s.l.value q/(2* -k)*(2* -k)=s.l.value q:=by grind
     exact(jb (k:=2* -k) (by grind)).1 (by rw[e1];exact hs)
    .have e1:s.l.value q/(2* -k)*(2* -k)=s.l.value q:=by grind
     generalize s.l.value q/(2* -k)=f at*;have:=eO (a:=f-d) (b:= -k) (by grind) (by grind);grind
  obtain⟨f,hf0,hf⟩:=hf;by_cases hef:e<=f
  .refine⟨e,he,fun d h1 h2=>cS.2 ⟨?_,hd d h1 h2⟩⟩
   rw[jF,hk];exact hf d h1 (by grind)
  .refine⟨f,hf0,fun d h1 h2=>cS.2 ⟨?_,hd d h1 (by grind)⟩⟩
   rw[jF,hk];exact hf d h1 h2
def No: ∀{c:aA} {q p:aa},bH c q->(∃s∈c,s.l.value p<=0)->
  ∃e:Rat,0<=e/\e<=1/\(∃s∈c,s.l.value p<=0/\s.l.value (bG q p e)=0)/\ng c (bG q p e)
 |[],q,p,_,h=>by obtain⟨s,hs,_⟩:=h;exact absurd hs (by simp)
 |s::c,q,p,h,hex=>by
  have h':=cS.1 h;have hs:=h'.1;by_cases hc: ∃s∈c,s.l.value p<=0
  .obtain⟨e,h0,h1,⟨s1,m1,n1,z1⟩,hC⟩:=No h'.2 hc
   by_cases hp:0<=s.l.value (bG q p e)
   .exact⟨e,h0,h1,⟨s1,aJ _ m1,n1,z1⟩,cS.2 ⟨hp,hC⟩⟩
   .rw[jD] at hp
    generalize hB:s.l.value p-s.l.value q=B at*;have hB0:B<0:=by
     by_cases hB0:0<=B
     .have:=eO h0 hB0;grind
     .grind
    have e1:s.l.value q/(-B)*(-B)=s.l.value q:=by grind
    generalize hf:s.l.value q/(-B)=f at*;have f0:0<=f:=(i5 (k:= -B) (by grind)).1 (by rw[e1];grind);have f1:f<=e:=by
     have:=(i5 (s:=e-f) (k:= -B) (by grind)).1 (by grind);grind
    have z:s.l.value (bG q p f)=0:=by rw[jD,hB];grind
    have np:s.l.value p<=0:=by
     have:=eO (a:=1-e) (b:= -B) (by grind) (by grind);grind
    refine⟨f,f0,by grind,⟨s,aQ,np,z⟩,cS.2 ⟨by rw[z];exact gU,fun s2 m2=>?_⟩⟩;have a1:=h'.2 s2 m2;have a2:=hC s2 m2;rw[jD] at a2⊢;exact Pd (fQ a1) a2 f0 f1
  .have np:s.l.value p<=0:=by
    obtain⟨s1,m1,n1⟩:=hex;rcases aU.1 m1 with rfl|m1
    .exact n1
    .exact absurd ⟨s1,m1,n1⟩ hc
   generalize hB:s.l.value p-s.l.value q=B at*;have hB0:B<0:=by grind
   have e1:s.l.value q/(-B)*(-B)=s.l.value q:=by grind
   generalize hf:s.l.value q/(-B)=f at*;have f0:0<=f:=(i5 (k:= -B) (by grind)).1 (by rw[e1];grind);have f1:f<=1:=by
    have:=(i5 (s:=1-f) (k:= -B) (by grind)).1 (by grind);grind
   have z:s.l.value (bG q p f)=0:=by rw[jD,hB];grind
   refine⟨f,f0,f1,⟨s,aQ,np,z⟩,cS.2 ⟨by rw[z];exact gU,fun s2 m2=>?_⟩⟩;have a1:=h'.2 s2 m2;have a2:0<s2.l.value p:=by
    by_cases h:0<s2.l.value p
    .exact h
    .exact absurd ⟨s2,m2,by grind⟩ hc
   rw[jD];have:=Pd (A:=s2.l.value q) (B:=s2.l.value p-s2.l.value q) (u:=f) (v:=1) (fQ a1) (by grind) f0 f1;exact this
structure cx (c:aA):Prop where
 ne: ∃p,bH c p
 ok: ∀s∈c,s.l.ok
 edge: ∀s∈c,s.v.Pos/\ ∀t,s.v.has t↔ng c (s.l.at t)
def cx.nil:cx []:=⟨⟨⟨0,0⟩,fun s hs=>absurd hs (by simp)⟩,fun s hs=>absurd hs (by simp),fun s hs=>absurd hs (by simp)⟩
def rF{c:aA}{m:ab}(hne: ∃q,bH c q)(h: ∀p,bH c p->0<m.value p){p:aa}(hp:ng c p):0<=m.value p:=by
 obtain⟨q,hq⟩:=hne;have mq:=h q hq;by_cases hm:0<=m.value p
 .exact hm
 .exfalso
  generalize hB:m.value q-m.value p=B;have hB0:0<B:=by grind
  have e1: -m.value p/B*B= -m.value p:=by grind
  generalize-m.value p/B=e at*;have e0:0<e:=(jb hB0).1 (by rw[e1];grind);have e2:e<=1:=by
   have:=(i5 (s:=1-e) hB0).1 (by grind);grind
  have hd:bH c (bG p q e):=fun s hs=>by
   rw[jD];have a:=hp s hs;have b:=hq s hs;have:=fp e0 b;have:=eO (a:=1-e) (b:=s.l.value p) (by grind) a;grind
  have:=h _ hd;rw[jD,hB,e1] at this;grind
def qz{l:ab}{s':aH}: ∀{c:aA},s'∈d7 l c↔ ∃s∈c,s.l.cutB s.v l=true/\s'=⟨s.l,s.l.cutV s.v l⟩
 |[]=>by simp[d7]
 |s::c=>by
  rw[d7];split
  .rename_i hb
   rw[aU,qz (c:=c)];constructor
   .rintro (rfl|⟨s1,h1,h2⟩)
    .exact⟨s,aQ,hb,J⟩
    .exact⟨s1,aJ _ h1,h2⟩
   .rintro ⟨s1,h1,h2,h3⟩
    rcases aU.1 h1 with rfl|h1
    .exact .inl h3
    .exact .inr ⟨s1,h1,h2,h3⟩
  .rename_i hb
   rw[qz (c:=c)];constructor
   .rintro ⟨s1,h1,h2⟩;exact⟨s1,aJ _ h1,h2⟩
   .rintro ⟨s1,h1,h2,h3⟩
    rcases aU.1 h1 with rfl|h1
    .exact absurd h2 hb
    .exact⟨s1,h1,h2,h3⟩
def pD{c:aA}{l:ab}{v:ao}{s:aH}:s∈kG c l v↔s=⟨l,v⟩\/s∈c:=by
 unfold kG;generalize fy (gI c l) 0 c.length=n;rw[bS,aU];have h:=jZ n c;constructor
 .rintro (h1|h1|h1)
  .exact .inr (fK h1)
  .exact .inl h1
  .exact .inr (gL h1)
 .rintro (h1|h1)
  .exact .inr (.inl h1)
  .rw[<-h,bS] at h1
   rcases h1 with h1|h1
   .exact .inl h1
   .exact .inr (.inr h1)
def Zz{c:aA}{l:ab}(hl:l.Ne)(hp:jm c l=none){p:aa}(h:bH c p):l.value p≠0:=by
 intro h0;obtain⟨t,rfl⟩:=Bx hl h0;exact QI l c _ uL hp t (Hr t) h
def Eo{c:aA}{l:ab}(hl:l.Ne){v:ao}(hp:jm c l=some v):(∃q,bH c q/\0<l.value q)/\ ∃q,bH c q/\l.value q<0:=by
 obtain⟨h1,_,h3⟩:=Gz l c _ v uL hp;have hd:=((h3 v.sample).1 (pb h1)).2;have h0:=mD hl v.sample;have hn:=ow hl;constructor
 .obtain⟨e,he,hm⟩:=hd.open l.nor
  refine⟨_,hm e (fQ he) gU,?_⟩;rw[jF,h0];have:=fp he hn;grind
 .obtain⟨e,he,hm⟩:=hd.open ⟨-l.nor.x, -l.nor.y⟩
  refine⟨_,hm e (fQ he) gU,?_⟩;rw[jF,h0];have:=fp he hn;simp only[aa.dot] at this⊢;grind
def XZ{c:aA}{l:ab}{v:ao}(hc:cx c)(hl:l.ok)(hp:jm c l=some v):
  cx (kG (d7 l c) l v)/\ ∀p,bH (kG (d7 l c) l v) p↔bH c p/\0<l.value p:=by
 obtain⟨⟨q,hq,lq⟩,_⟩:=Eo hl.ne hp;obtain⟨v1,v2,v3⟩:=Gz l c _ v uL hp;have hD: ∀p,bH (kG (d7 l c) l v) p↔bH c p/\0<l.value p:=by
  intro p;constructor
  .intro h
   have lp:0<l.value p:=h ⟨l,v⟩ (pD.2 (.inl J));refine⟨fun s0 hs0=>?_,lp⟩;by_cases h0:0<s0.l.value p
   .exact h0
   .exfalso
    obtain⟨e,e0,e1,⟨s,ms,ns,zs⟩,hC⟩:=No (p:=p) hq ⟨s0,hs0,by grind⟩;obtain⟨t,ht⟩:=Bx (hc.ok s ms).ne zs;rw[ht] at hC;obtain⟨p1,p2⟩:=hc.edge s ms;have hh:=(p2 t).2 hC;have lr:0<l.value (s.l.at t):=by
     rw[<-ht,jD];by_cases hB:0<=l.value p-l.value q
     .have:=eO e0 hB;grind
     .have:=eO (a:=1-e) (b:= -(l.value p-l.value q)) (by grind) (by grind)
      grind
    have hb:s.l.cutB s.v l=true:=by
     cases hb:s.l.cutB s.v l with
     |true=>rfl
     |false=>have:=C5 p1 hb hh;grind
    have:=h ⟨s.l,s.l.cutV s.v l⟩ (pD.2 (.inr (qz.2 ⟨s,ms,hb,J⟩)));simp only at this;grind
  .rintro ⟨h1,h2⟩ s hs
   rcases pD.1 hs with rfl|hs
   .exact h2
   .obtain⟨s1,m1,_,rfl⟩:=qz.1 hs
    exact h1 s1 m1
 have hne: ∃p,bH (kG (d7 l c) l v) p:=⟨q,(hD q).2 ⟨hq,lq⟩⟩;have hC: ∀p,ng (kG (d7 l c) l v) p↔ng c p/\0<=l.value p:=by
  intro p;constructor
  .intro h
   refine⟨fun s hs=>?_,h ⟨l,v⟩ (pD.2 (.inl J))⟩;exact rF hne (fun p hp=>((hD p).1 hp).1 s hs) h
  .rintro ⟨h1,h2⟩ s hs
   rcases pD.1 hs with rfl|hs
   .exact h2
   .obtain⟨s1,m1,_,rfl⟩:=qz.1 hs
    exact h1 s1 m1
 refine⟨⟨hne,fun s hs=>?_,fun s hs=>?_⟩,hD⟩
 .rcases pD.1 hs with rfl|hs
  .exact hl
  .obtain⟨s1,m1,_,rfl⟩:=qz.1 hs
   exact hc.ok s1 m1
 .rcases pD.1 hs with rfl|hs
  .refine⟨v1,fun t=>?_⟩
   rw[hC];simp only;rw[v2];have h0:=mD hl.ne t;constructor
   .intro h;exact⟨h.2,by rw[h0];exact gU⟩
   .intro h;exact⟨Hr t,h.1⟩
  .obtain⟨s1,m1,hb,rfl⟩:=qz.1 hs
   obtain⟨p1,p2⟩:=hc.edge s1 m1;refine⟨vo p1 hb,fun t=>?_⟩;rw[hC];simp only;rw[CC hb,p2]
def bH.seg{c:aA}{q p:aa}{e:Rat}(hq:bH c q)(hp:bH c p)(h0:0<=e)(h1:e<=1):bH c (bG q p e):=fun s hs=>by
 rw[jD];have a:=hq s hs;have b:=hp s hs;by_cases he:e=0
 .subst he;grind
 .have:=fp (a:=e) (by grind) b
  have:=eO (a:=1-e) (b:=s.l.value q) (by grind) (by grind);grind
def GC{v:ao}{t:Rat}(h:v.ins t):(∃u,u<t/\v.has u)/\ ∃u,t<u/\v.has u:=by
 obtain⟨lo,hi,nl,nh⟩:=v;unfold ao.ins at h;unfold ao.has;refine⟨⟨if nl=true then t-1 else lo,?_⟩,⟨if nh=true then t+1 else hi,?_⟩⟩<;>cases nl<;>cases nh<;>simp at* <;>grind
def ww{a b c x y z:Nat}(h1:x*b=a*y)(h2:x*c=a*z)(g:Nat.gcd (Nat.gcd a b) c=1):a∣x:=by
 have e:x=Nat.gcd (Nat.gcd (x*a) (x*b)) (x*c):=by
  rw[Nat.gcd_mul_left,Nat.gcd_mul_left,g,lM]
 rw[e];exact Nat.dvd_gcd (Nat.dvd_gcd (Nat.dvd_mul_left ..) (h1▸Nat.dvd_mul_right ..)) (h2▸Nat.dvd_mul_right ..)
def ZA{a b c x y z:Int}(h1:a*y=b*x)(h2:a*z=c*x)(h3:b*z=c*y)
  (g1:Nat.gcd (Nat.gcd a.natAbs b.natAbs) c.natAbs=1)(g2:Nat.gcd (Nat.gcd x.natAbs y.natAbs) z.natAbs=1):
  (a=x/\b=y/\c=z)\/(a= -x/\b= -y/\c= -z):=by
 have n1:a.natAbs*y.natAbs=b.natAbs*x.natAbs:=by rw[<-fX,<-fX,h1]
 have n2:a.natAbs*z.natAbs=c.natAbs*x.natAbs:=by rw[<-fX,<-fX,h2]
 have n3:b.natAbs*z.natAbs=c.natAbs*y.natAbs:=by rw[<-fX,<-fX,h3]
 generalize ha:a.natAbs=A at*;generalize hb:b.natAbs=B at*;generalize hc:c.natAbs=C at*;generalize hx:x.natAbs=X at*;generalize hy:y.natAbs=Y at*;generalize hz:z.natAbs=Z at*;have gB:Nat.gcd (Nat.gcd B A) C=1:=by rw[iT B A];exact g1
 have gC:Nat.gcd (Nat.gcd C A) B=1:=by rw[Nat.gcd_assoc,iT];exact g1
 have gY:Nat.gcd (Nat.gcd Y X) Z=1:=by rw[iT Y X];exact g2
 have gZ:Nat.gcd (Nat.gcd Z X) Y=1:=by rw[Nat.gcd_assoc,iT];exact g2
 have e1:A=X:=Nat.dvd_antisymm (ww (x:=X) (y:=Y) (z:=Z) (by grind) (by grind) g1) (ww (x:=A) (y:=B) (z:=C) (by grind) (by grind) g2);have e2:B=Y:=Nat.dvd_antisymm (ww (x:=Y) (y:=X) (z:=Z) (by grind) (by grind) gB) (ww (x:=B) (y:=A) (z:=C) (by grind) (by grind) gY);have e3:C=Z:=Nat.dvd_antisymm (ww (x:=Z) (y:=X) (z:=Y) (by grind) (by grind) gC) (ww (x:=C) (y:=A) (z:=B) (by grind) (by grind) gZ);have s1:a=x\/a= -x:=by omega
 have s2:b=y\/b= -y:=by omega
 have s3:c=z\/c= -z:=by omega
 clear ha hb hc hx hy hz n1 n2 n3 g1 g2 gB gC gY gZ e1 e2 e3;have z1:= @oY x y;have z2:= @oY x z;have z3:= @oY y z;rcases s1 with rfl|rfl<;>rcases s2 with rfl|rfl<;>rcases s3 with rfl|rfl<;>grind
def yn{l m:ab}(hl:l.ok)(hm:m.ok)(h: ∀t,l.value (m.at t)=0):l=m\/l=m.rev:=by
 have h0:=h 0;have h1:=h 1;rw[kE] at h0 h1;have hC:m.cutC l=0:=by grind
 have hK:m.cutK l=0:=by grind
 obtain⟨q,q1,q2⟩:=yp hm.ne;have hn:=ow hm.ne;unfold ab.cutC at hC;rw[q2,lj] at hC;unfold ab.cutK at hK;simp only[ab.nor,ab.dir,aa.dot] at hK q1 hn hC;obtain⟨a,b,c⟩:=l;obtain⟨x,y,z⟩:=m;simp only at*;have e1:a*y=b*x:=by
  have:((a*y:Int):Rat)=((b*x:Int):Rat):=by rw[cK,cK];grind
  exact mL.1 this
 have e2:a*z=c*x:=by
  have:((a*z:Int):Rat)=((c*x:Int):Rat):=by rw[cK,cK];grind
  exact mL.1 this
 have e3:b*z=c*y:=by
  have:((b*z:Int):Rat)=((c*y:Int):Rat):=by rw[cK,cK];grind
  exact mL.1 this
 rcases ZA e1 e2 e3 hl.2 hm.2 with⟨rfl,rfl,rfl⟩|⟨rfl,rfl,rfl⟩
 .exact .inl J
 .exact .inr J
def ab.ok.rev{l:ab}(h:l.ok):l.rev.ok:=by
 obtain⟨h1,h2⟩:=h;refine⟨?_,?_⟩
 .simp only[ab.rev];omega
 .simp only[ab.rev,jN];exact h2
def OW(l:ab): ∀c:aA,(∀s∈c,mp l s<=0/\s.l≠l)-> ¬0<nf l c
 |[],_=>by simp[nf]
 |s::c,h=>by
  have h':=cS.1 h;unfold nf;rw[if_neg h'.1.2];split
  .have:=h'.1.1;omega
  .exact OW l c h'.2
def K1{c:aA}{l:ab}(hc:cx c)(hl:l.ok)(hp:jm c l=none):
  (0<nf l c/\ ∀p,bH c p->0<l.value p)\/(¬0<nf l c/\ ∀p,bH c p->l.value p<0):=by
 have hoff:=fun p (h:bH c p)=>Zz hl.ne hp h;by_cases hq: ∃q,bH c q/\0<l.value q
 .left
  obtain⟨q,hq,lq⟩:=hq;have hall: ∀p,bH c p->0<l.value p:=by
   intro p h;have:=hoff p h;by_cases h0:0<l.value p
   .exact h0
   .exfalso
    have hn:l.value p<0:=by grind
    have e1:l.value q/(l.value q-l.value p)*(l.value q-l.value p)=l.value q:=by grind
    generalize l.value q/(l.value q-l.value p)=e at*;have f0:0<=e:=(i5 (k:=l.value q-l.value p) (by grind)).1 (by grind);have f1:e<=1:=by
     have:=(i5 (s:=1-e) (k:=l.value q-l.value p) (by grind)).1 (by grind);grind
    exact hoff _ (hq.seg h f0 f1) (by rw[jD];grind)
  refine⟨?_,hall⟩
  cases c with
  |nil=>simp[jm,mc] at hp
  |cons s c=>
   obtain⟨p1,p2⟩:=hc.edge s aQ;have hi:=pb p1;have hr:=rF hc.ne hall ((p2 _).1 hi.has);unfold nf;by_cases h0:mp l s=0
   .rw[if_neg (by simpa using h0)]
    have hz:l.value (s.l.at s.v.sample)=0:=(lw _).1 h0;have hge: ∀t,s.v.has t->0<=l.value (s.l.at t):=fun t ht=>rF hc.ne hall ((p2 t).1 ht);obtain⟨⟨u1,m1,n1⟩,⟨u2,m2,n2⟩⟩:=GC hi;have g1:=hge _ n1;have g2:=hge _ n2;rw[kE] at hz g1 g2;have hK:s.l.cutK l=0:=by
     rcases mC (s.l.cutK l) with h|h|h
     .exact h
     .exfalso
      have:=fp (a:=s.v.sample-u1) (b:=s.l.cutK l) (by grind) h;grind
     .exfalso
      have:=fp (a:=u2-s.v.sample) (b:= -s.l.cutK l) (by grind) (by grind);grind
    have hz2: ∀t,l.value (s.l.at t)=0:=fun t=>by rw[kE,hK];rw[hK] at hz;grind
    rcases yn hl (hc.ok s aQ) hz2 with h|h
    .rw[if_pos h.symm];decide
    .exfalso
     have:=hall q hq;rw[h,gA] at this;have:=hq s aQ;grind
   .rw[if_pos h0]
    have hz:l.value (s.l.at s.v.sample)≠0:=fun e=>h0 ((lw _).2 e);exact(pI _).2 (by grind)
 .right
  have hall: ∀p,bH c p->l.value p<0:=fun p h=>by
   have:=hoff p h;have: ¬0<l.value p:=fun h'=>hq ⟨p,h,h'⟩;grind
  refine⟨OW l c fun s hs=>?_,hall⟩;obtain⟨p1,p2⟩:=hc.edge s hs;have hr:=rF (m:=l.rev) hc.ne (fun p h=>by rw[gA];have:=hall p h;grind) ((p2 _).1 (pb p1).has);rw[gA] at hr;constructor
  .have: ¬0<mp l s:=fun h=>by have:=(pI _).1 h;grind
   omega
  .rintro rfl
   obtain⟨p,hp⟩:=hc.ne;have:=hall p hp;have:=hp s hs;grind
def qB{c:aA}{l:ab}(hc:cx c)(hl:l.ok):co c l=true↔ ∃p,bH c p/\0<l.value p:=by
 unfold co
 cases hp:jm c l with
 |some v=>exact⟨fun _=>(Eo hl.ne hp).1,fun _=>J⟩
 |none=>
  simp only[u6,hp,Option.isSome_none,cM,if_false,decide_eq_true_iff];rcases K1 hc hl hp with⟨h1,h2⟩|⟨h1,h2⟩
  .refine⟨fun _=>?_,fun _=>h1⟩
   obtain⟨p,hp⟩:=hc.ne;exact⟨p,hp,h2 p hp⟩
  .refine⟨fun h=>absurd h h1,?_⟩
   rintro ⟨p,hp,h⟩;have:=h2 p hp;grind
def iH{c:aA}{l:ab}(hc:cx c)(hl:l.ok)(hb:co c l=true):cx (bO c l)/\ ∀p,bH (bO c l) p↔bH c p/\0<l.value p:=by
 unfold bO
 cases hp:jm c l with
 |some v=>exact XZ hc hl hp
 |none=>
  refine⟨hc,fun p=>?_⟩;unfold co at hb;simp only[hp,u6,Option.isSome_none,cM,if_false,decide_eq_true_iff] at hb;rcases K1 hc hl hp with⟨h1,h2⟩|⟨h1,h2⟩
  .exact⟨fun h=>⟨h,h2 p h⟩,fun h=>h.1⟩
  .exact absurd hb h1
inductive aKt (c:aA) (l:ab):Prop
 |left (h1:co c l.rev=false) (h: ∀p,bH c p->0<l.value p)
 |right (h1:co c l.rev=true) (h2:co c l=false) (h: ∀p,bH c p->l.value p<0)
 |both (h1:co c l.rev=true) (h2:co c l=true) (g1:cx (bO c l)) (g2:cx (bO c l.rev))
   (e1: ∀p,bH (bO c l) p↔bH c p/\0<l.value p) (e2: ∀p,bH (bO c l.rev) p↔bH c p/\l.value p<0)
def Tr.restrict_A{l:ab}{e:aA}(X Y:Tr)(h:co e l.rev=false):(Tr.node l X Y).restrict e=X.restrict e:=by
 rw[Tr.restrict,h];rfl
def Tr.restrict_B{l:ab}{e:aA}(X Y:Tr)(h:co e l.rev=true)(h2:co e l=false):(Tr.node l X Y).restrict e=Y.restrict e:=by
 rw[Tr.restrict,h,h2];rfl
def Tr.restrict_C{l:ab}{e:aA}(X Y:Tr)(h:co e l.rev=true)(h2:co e l=true):(Tr.node l X Y).restrict e=Tr.joinQ l (X.restrict (bO e l)) (Y.restrict (bO e l.rev)):=by
 rw[Tr.restrict,h,h2];rfl
def fj:List ab->aA->Option aA
 |[],c=>some c
 |l::t,c=>if co c l then fj t (bO c l) else none
def yZ: ∀{ls:List ab} {c e:aA},cx c->(∀l∈ls,l.ok)->fj ls c=some e->cx e/\ ∀p,bH e p↔bH c p/\ ∀l∈ls,0<l.value p
 |[],c,e,hc,_,h=>by
  obtain rfl:c=e:=by simpa[fj] using h
  exact⟨hc,fun p=>⟨fun h=>⟨h,fun l hl=>absurd hl (by simp)⟩,fun h=>h.1⟩⟩
 |l::t,c,e,hc,hl,h=>by
  have hl':=cS.1 hl;rw[fj] at h;split at h
  .rename_i hb
   obtain⟨g1,g2⟩:=iH hc hl'.1 hb;obtain⟨k1,k2⟩:=yZ g1 hl'.2 h;refine⟨k1,fun p=>?_⟩;rw[k2,g2,cS,and_assoc]
  .exact absurd h (by simp)
def HY: ∀{ls:List ab} {c:aA},cx c->(∀l∈ls,l.ok)->(∃p,bH c p/\ ∀l∈ls,0<l.value p)-> ∃e,fj ls c=some e
 |[],c,_,_,_=>⟨c,J⟩
 |l::t,c,hc,hl,⟨p,h1,h2⟩=>by
  have hl':=cS.1 hl;have h2':=cS.1 h2;have hb:=(qB hc hl'.1).2 ⟨p,h1,h2'.1⟩;obtain⟨g1,g2⟩:=iH hc hl'.1 hb;rw[fj,if_pos hb];exact HY g1 hl'.2 ⟨p,(g2 p).2 ⟨h1,h2'.1⟩,h2'.2⟩
def HP{c:aA}(hc:cx c){s:aH}(hs:s∈c){m:ab}(hm:m.ok)(h: ∀p,bH c p->0<m.value p)(hz:m.value (s.l.at s.v.sample)=0):m=s.l:=by
 obtain⟨p1,p2⟩:=hc.edge s hs;have hi:=pb p1;have hge: ∀t,s.v.has t->0<=m.value (s.l.at t):=fun t ht=>rF hc.ne h ((p2 t).1 ht);obtain⟨⟨u1,m1,n1⟩,⟨u2,m2,n2⟩⟩:=GC hi;have g1:=hge _ n1;have g2:=hge _ n2;rw[kE] at hz g1 g2;have hK:s.l.cutK m=0:=by
  rcases mC (s.l.cutK m) with h|h|h
  .exact h
  .exfalso
   have:=fp (a:=s.v.sample-u1) (b:=s.l.cutK m) (by grind) h;grind
  .exfalso
   have:=fp (a:=u2-s.v.sample) (b:= -s.l.cutK m) (by grind) (by grind);grind
 have hz2: ∀t,m.value (s.l.at t)=0:=fun t=>by rw[kE,hK];rw[hK] at hz;grind
 rcases yn hm (hc.ok s hs) hz2 with h'|h'
 .exact h'
 .exfalso
  obtain⟨q,hq⟩:=hc.ne;have:=h q hq;rw[h',gA] at this;have:=hq s hs;grind
def fA(l:ab):List ab->ao->Option ao
 |[],v=>some v
 |m::t,v=>if m=l then fA l t v else if l.cutB v m then fA l t (l.cutV v m) else none
def d8(c:List ab)(p:aa):Prop:= ∀m∈c,0<m.value p
def xm(l:ab): ∀(c:List ab) (v w:ao),v.Pos->fA l c v=some w->
  w.Pos/\(∀t,w.ins t↔v.ins t/\ ∀m∈c,m≠l->0<m.value (l.at t))
 |[],v,w,hv,h=>by
  obtain rfl:v=w:=by simpa[fA] using h
  exact⟨hv,fun t=>⟨fun h=>⟨h,fun s hs=>absurd hs (by simp)⟩,fun h=>h.1⟩⟩
 |m::c,v,w,hv,h=>by
  rw[fA] at h;split at h
  .rename_i hm
   obtain⟨h1,h2⟩:=xm l c _ w hv h;refine⟨h1,fun t=>?_⟩;rw[h2,cS];exact⟨fun h=>⟨h.1,fun h'=>absurd hm h',h.2⟩,fun h=>⟨h.1,h.2.2⟩⟩
  .rename_i hm
   split at h
   .rename_i hb
    obtain⟨h1,h2⟩:=xm l c _ w (vo hv hb) h;refine⟨h1,fun t=>?_⟩;rw[h2,BD hb,cS,and_assoc];exact⟨fun h=>⟨h.1,fun _=>h.2.1,h.2.2⟩,fun h=>⟨h.1,h.2.1 hm,h.2.2⟩⟩
   .exact absurd h (by simp)
def Ee(l:ab): ∀(c:List ab) (v:ao),v.Pos->fA l c v=none-> ∀t,v.has t-> ¬ ∀m∈c,m≠l->0<m.value (l.at t)
 |[],v,hv,h=>by simp[fA] at h
 |m::c,v,hv,h=>by
  intro t ht hd;have hd':=cS.1 hd;rw[fA] at h;split at h
  .exact Ee l c _ hv h t ht hd'.2
  .rename_i hm
   split at h
   .rename_i hb
    exact Ee l c _ (vo hv hb) h t ((CC hb t).2 ⟨ht,fQ (hd'.1 hm)⟩) hd'.2
   .rename_i hb
    have:=C5 hv (by simpa using hb) ht;have:=hd'.1 hm;grind
def r6(c:List ab):Bool:=c.isEmpty||c.any (fun l=>(fA l c ao.all).isSome)
def Lp: ∀{ls:List ab} {c e:aA},fj ls c=some e-> ∀s∈e,s.l∈ls\/ ∃s'∈c,s'.l=s.l
 |[],c,e,h,s,hs=>by
  obtain rfl:c=e:=by simpa[fj] using h
  exact .inr ⟨s,hs,J⟩
 |l::t,c,e,h,s,hs=>by
  rw[fj] at h;split at h
  .rcases Lp h s hs with h1|⟨s',h1,h2⟩
   .exact .inl (aJ _ h1)
   .unfold bO at h1
    split at h1
    .rcases pD.1 h1 with rfl|h1
     .exact .inl (by rw[<-h2];exact aQ)
     .obtain⟨s1,m1,_,rfl⟩:=qz.1 h1
      exact .inr ⟨s1,m1,h2⟩
    .exact .inr ⟨s',h1,h2⟩
  .exact absurd h (by simp)
def DR{c:List ab}(hok: ∀l∈c,l.ok)(hne: ∃p,d8 c p): ∃e,fj c []=some e/\cx e/\(∀p,bH e p↔d8 c p)/\ ∀s∈e,s.l∈c/\(fA s.l c ao.all).isSome=true:=by
 obtain⟨p,hp⟩:=hne;obtain⟨e,he⟩:=HY cx.nil hok ⟨p,fun s hs=>absurd hs (by simp),hp⟩;obtain⟨g1,g2⟩:=yZ cx.nil hok he;have g3: ∀p,bH e p↔d8 c p:=fun p=>by
  rw[g2];exact⟨fun h=>h.2,fun h=>⟨fun s hs=>absurd hs (by simp),h⟩⟩
 refine⟨e,he,g1,g3,fun s hs=>?_⟩;have hm:s.l∈c:=by
  rcases Lp he s hs with h|⟨_,h,_⟩
  .exact h
  .exact absurd h (by simp)
 refine⟨hm,?_⟩
 cases hp:fA s.l c ao.all with
 |some w=>rfl
 |none=>
  exfalso;obtain⟨p1,p2⟩:=g1.edge s hs;have hC:=(p2 s.v.sample).1 (pb p1).has;refine Ee s.l c _ uL hp s.v.sample (Hr _) fun m hmc hne=>?_;have hall: ∀p,bH e p->0<m.value p:=fun p hp=>(g3 p).1 hp m hmc;have h0:=rF g1.ne hall hC;have h1:m.value (s.l.at s.v.sample)≠0:=fun hz=>hne (HP g1 hs (hok m hmc) hall hz);grind
def Jy{c:List ab}(hok: ∀l∈c,l.ok):r6 c=true↔ ∃p,d8 c p:=by
 unfold r6;rw[iR,List.isEmpty_iff,mQ];constructor
 .rintro (rfl|⟨l,hl,h⟩)
  .exact⟨⟨0,0⟩,fun m hm=>absurd hm (by simp)⟩
  .obtain⟨w,hw⟩:=nJ.1 h
   obtain⟨w1,w2⟩:=xm l c _ w uL hw;have hi:=((w2 w.sample).1 (pb w1)).2;have h0:=mD (hok l hl).ne w.sample;have hd:bH ((c.filter (fun m=>decide (m≠l))).map (fun m=>(⟨m,ao.all⟩:aH))) (l.at w.sample):=by
    intro s hs;obtain⟨m,hm,rfl⟩:=bX.1 hs;rw[qW,decide_eq_true_iff] at hm;exact hi m hm.1 hm.2
   obtain⟨e,he,ho⟩:=hd.open l.nor;refine⟨dB (l.at w.sample) l.nor e,fun m hm=>?_⟩;by_cases hml:m=l
   .subst hml
    rw[jF,h0];have:=fp he (ow (hok m hl).ne);grind
   .exact ho e (fQ he) gU ⟨m,ao.all⟩ (bX.2 ⟨m,qW.2 ⟨hm,by simpa using hml⟩,J⟩)
 .intro hne
  obtain⟨e,h1,h2,h3,h4⟩:=DR hok hne
  cases c with
  |nil=>exact .inl J
  |cons l c=>
   right
   cases e with
   |nil=>
    exfalso;have:=(h3 (l.at 0)).1 (fun s hs=>absurd hs (by simp)) l aQ;rw[mD (hok l aQ).ne] at this;exact absurd this (by decide)
   |cons s e=>
    obtain⟨a,b⟩:=h4 s aQ;exact⟨s.l,a,b⟩
def wV(out:List ab)(l:ab):Nat:=(out.takeWhile (fun x=>decide (fm x.dir l.dir<0))).length
def uQ(out:List ab)(l:ab):List ab:=if out[wV out l]? =some l then out else out.take (wV out l)++l::out.drop (wV out l)
def oG(c:List ab):List ab->List ab->List ab
 |[],out=>out
 |l::t,out=>oG c t (if(fA l c ao.all).isSome then uQ out l else out)
def iE(c:List ab):List ab:=oG c c []
def JX{out:List ab}{l m:ab}:m∈uQ out l↔m=l\/m∈out:=by
 unfold uQ;split
 .rename_i h
  exact⟨fun h=> .inr h,fun h'=>h'.elim (fun e=>e▸aV h) id⟩
 .generalize wV out l=n
  have h:=jZ n out;rw[bS,aU];constructor
  .rintro (h1|h1|h1)
   .exact .inr (fK h1)
   .exact .inl h1
   .exact .inr (gL h1)
  .rintro (h1|h1)
   .exact .inr (.inl h1)
   .rw[<-h,bS] at h1
    rcases h1 with h1|h1
    .exact .inl h1
    .exact .inr (.inr h1)
def MQ{c:List ab}{m:ab}: ∀{t out:List ab},m∈oG c t out↔m∈out\/m∈t/\(fA m c ao.all).isSome=true
 |[],out=>by simp[oG]
 |l::t,out=>by
  rw[oG,MQ];split
  .rename_i h
   rw[JX,aU];constructor
   .rintro ((rfl|h1)|⟨h1,h2⟩)
    .exact .inr ⟨.inl J,h⟩
    .exact .inl h1
    .exact .inr ⟨.inr h1,h2⟩
   .rintro (h1|⟨rfl|h1,h2⟩)
    .exact .inl (.inr h1)
    .exact .inl (.inl J)
    .exact .inr ⟨h1,h2⟩
  .rename_i h
   rw[aU];constructor
   .rintro (h1|⟨h1,h2⟩)
    .exact .inl h1
    .exact .inr ⟨.inr h1,h2⟩
   .rintro (h1|⟨rfl|h1,h2⟩)
    .exact .inl h1
    .exact absurd h2 h
    .exact .inr ⟨h1,h2⟩
def zW{c:List ab}{m:ab}:m∈iE c↔m∈c/\(fA m c ao.all).isSome=true:=by
 unfold iE;rw[MQ];simp
def CI(c:List ab)(l:ab):Int:=if r6 (c++[l])&&r6 (c++[l.rev]) then 0 else if r6 (c++[l]) then 1 else-1
def Tr.restrictL:Tr->List ab->Tr
 | .leaf b,_=> .leaf b
 | .node l x y,c=>if CI c l=1 then x.restrictL c else if CI c l= -1 then y.restrictL c else joinQ l (x.restrictL (iE (c++[l]))) (y.restrictL (iE (c++[l.rev])))
def Fg{c:List ab}{l:ab}{p:aa}:d8 (c++[l]) p↔d8 c p/\0<l.value p:=by
 unfold d8;rw[List.forall_mem_append];simp
def KC{c:List ab}{l:ab}(hok: ∀m∈c,m.ok)(hl:l.ok): ∀m∈c++[l],m.ok:=by
 rw[List.forall_mem_append];exact⟨hok,by simpa using hl⟩
end Go.Sx
end
section
namespace Go.Sx
open Go Go.Proofs Tryz
variable {GB:Gh}
structure AR where
 lo:RV
 hi:RV
 nl:Bool
 nh:Bool
def AR.v(z:AR):Value:= .agg ⟨[.int .i64 z.lo.n, .int .i64 z.lo.d, .pointer z.lo.p, .int .i64 z.hi.n, .int .i64 z.hi.d, .pointer z.hi.p, .bool z.nl, .bool z.nh]⟩
section
variable {P:Program} {C:aC} {n:Nat} {fr:Fr} {own own' own1:List au} {G:Gh} {Φ:Act->World->Prop}
variable {dst:Option Nat} {t t' ty':TypeId} {pos:String} {af:Array Edge} {gd:Option (Nat×Bool)} {x y:Operand} {e s by_:Nat}
end
structure RP (k:Nat) (G:Gh) (z:AR) (v:ao):Prop where
 lo:uN k G z.lo v.lo
 hi:uN k G z.hi v.hi
 nl:z.nl=v.nl
 nh:z.nh=v.nh
def MT:List Int->Int
 |[]=>0
 |x::t=>if x≠0 then x else MT t
def aKs(l m:ab):Int:=MT [ce l.a m.a,ce l.b m.b,ce l.c m.c]
structure zN where
 l:LV
 v:AR
def zN.val(z:zN):Value:= .agg ⟨[.int .i64 z.l.a.n, .int .i64 z.l.a.d, .pointer z.l.a.p, .int .i64 z.l.b.n, .int .i64 z.l.b.d, .pointer z.l.b.p, .int .i64 z.l.c.n, .int .i64 z.l.c.d, .pointer z.l.c.p, .int .i64 z.v.lo.n, .int .i64 z.v.lo.d, .pointer z.v.lo.p, .int .i64 z.v.hi.n, .int .i64 z.v.hi.d, .pointer z.v.hi.p, .bool z.v.nl, .bool z.v.nh]⟩
structure Us (k:Nat) (G:Gh) (z:zN) (f:aH):Prop where
 l:DN k G z.l f.l
 v:RP (25*k+6) G z.v f.v
inductive fB {α β:Type} (R:α->β->Prop):List α->List β->Prop
 |nil:fB R [] []
 |cons {a b us bs} (h:R a b) (t:fB R us bs):fB R (a::us) (b::bs)
def fB.len{α β:Type}{R:α->β->Prop}{us:List α}{bs:List β}(h:fB R us bs):us.length=bs.length:=by
 induction h with
 |nil=>rfl
 |cons _ _ ih=>simp[ih]
def fB.imp{α β:Type}{R S:α->β->Prop}{us:List α}{bs:List β}(h:fB R us bs)(k: ∀a b,R a b->S a b):fB S us bs:=by
 induction h with
 |nil=>exact .nil
 |cons h _ ih=>exact .cons (k _ _ h) ih
def fB.get{α β:Type}{R:α->β->Prop}{us:List α}{bs:List β}(h:fB R us bs){i:Nat}{b:β}(hi:bs[i]? =some b): ∃a,us[i]? =some a/\R a b:=by
 induction h generalizing i with
 |nil=>simp at hi
 | @cons a b' us bs h t ih=>
  cases i with
  |zero=>simp at hi;subst hi;exact⟨a,J,h⟩
  |succ i=>simpa using ih (i:=i) (by simpa using hi)
def fB.app{α β:Type}{R:α->β->Prop}{us us':List α}{bs bs':List β}(h:fB R us bs)(k:fB R us' bs'):fB R (us++us') (bs++bs'):=by
 induction h with
 |nil=>exact k
 |cons h _ ih=>exact .cons h ih
structure Zc (k:Nat) (G:Gh) (x:SV) (c:aA):Prop where
 ex: ∃fs:List zN,eB G 17 x (fs.map zN.val)/\fB (Us k G) fs c

section
variable {P:Program} {C:aC} {n:Nat} {fr:Fr} {own own':List au} {G:Gh} {Φ:Act->World->Prop}
variable {dst:Option Nat} {t t' ty':TypeId} {pos:String} {af:Array Edge} {gd:Option (Nat×Bool)} {x y:Operand} {e s by_:Nat}
def Rh{o1 o2:au}{rest:List au}(h:o1.b≠o2.b->St C n fr (o1::o2::rest) G Φ):St C n fr (o1::o2::rest) G Φ:=
 fun a w rl=>h ((bZ.1 rl.h.nd).1 _ aQ) a w rl
def A5[hT:cB P t e s by_]{k:IntKind}{b off len cap:Nat}{l:Int}(hx:aD fr x=some (.slice (some ⟨b,off,none⟩) len cap))(hy:aD fr y=some (.int k l))(h0:0<=l:=by omega)(h1:l<=len:=by omega)(h2:l<cap:=by omega):
  Yd P C fr own G ⟨dst, .slice t x (some y) none none,ty',pos,af,gd⟩ (.slice (some ⟨b,off+l.toNat*s,none⟩) (len-l.toNat) (cap-l.toNat)):=by
 have h:=Dw (P:=P) (C:=C) (own:=own) (G:=G) (t:=t) (dst:=dst) (ty':=ty') (pos:=pos) (af:=af) (gd:=gd) (by_:=by_) hx hy h0 h1;unfold lP at h;rw[if_neg (by omega)] at h;simpa[tc] using h
end

section
variable {P:Program} {C:aC} {n:Nat} {fr:Fr} {own own':List au} {G:Gh} {Φ:Act->World->Prop}
variable {dst:Option Nat} {t t' ty':TypeId} {pos:String} {af:Array Edge} {gd:Option (Nat×Bool)} {x y:Operand} {e s by_:Nat}
end

def Gr(k:Nat)(G:Gh):Tr->Option Addr->Prop
 | .leaf b,p=> ∃n,p=some ⟨n,0,none⟩/\G n=some [.int .i64 0, .int .i64 0, .pointer none, .int .i64 0, .int .i64 0, .pointer none, .int .i64 0, .int .i64 0, .pointer none, .pointer none, .pointer none, .bool b]
 | .node l x y,p=> ∃(n:Nat) (z:LV) (q r:Option Addr),p=some ⟨n,0,none⟩/\G n=some [.int .i64 z.a.n, .int .i64 z.a.d, .pointer z.a.p, .int .i64 z.b.n, .int .i64 z.b.d, .pointer z.b.p, .int .i64 z.c.n, .int .i64 z.c.d, .pointer z.c.p, .pointer q, .pointer r, .bool false]/\DN k G z l/\Gr k G x q/\Gr k G y r
structure ND where
 a:IV
 b:IV
 c:IV
 l:Int
 r:Int
def ND.val(z:ND):Value:= .agg ⟨[.bool z.a.neg, .slice z.a.a.a z.a.a.n z.a.a.c, .bool z.b.neg, .slice z.b.a.a z.b.a.n z.b.a.c, .bool z.c.neg, .slice z.c.a.a z.c.a.n z.c.a.c, .int .i64 z.l, .int .i64 z.r]⟩
structure qm (k:Nat) (G:Gh) (z:ND) (n:NQ):Prop where
 a:kz k G z.a n.l.a
 b:kz k G z.b n.l.b
 c:kz k G z.c n.l.c
 l:z.l=n.a
 r:z.r=n.b
def qm.up{k:Nat}{A G:Gh}{z:ND}{n:NQ}(h:qm k A z n)[GL A G]:qm k G z n:=⟨h.a.up,h.b.up,h.c.up,h.l,h.r⟩
structure Sf (k:Nat) (G:Gh) (x:SV) (ns:List NQ):Prop where
 ex: ∃zs:List ND,eB G 8 x (zs.map ND.val)/\fB (qm k G) zs ns
def aJb(n i:Nat):List Value:=(List.range n).map fun j=> .bool (decide (j<i))

def ND.len8(zs:List ND): ∀v∈zs.map ND.val,(aE v).length=8:=fun v hv=>by
 obtain⟨f,_,rfl⟩:=bX.1 hv;rfl
def ND.flat(zs:List ND): ∀v∈zs.map ND.val,∀c∈aE v,Sx.flat c=true:=fun v hv c hc=>by
 obtain⟨f,_,rfl⟩:=bX.1 hv;simp only[ND.val,aE,aU,jS,or_false] at hc;rcases hc with rfl|rfl|rfl|rfl|rfl|rfl|rfl|rfl<;>rfl
def fB.set{α β:Type}{R:α->β->Prop}{us:List α}{bs:List β}(h:fB R us bs){a:α}{b:β}(hr:R a b)(i:Nat):fB R (us.set i a) (bs.set i b):=by
 induction h generalizing i with
 |nil=>simp;exact .nil
 |cons h t ih=>
  cases i with
  |zero=>exact .cons hr t
  |succ i=>exact .cons h (ih i)
def Mi(zs:List ND)(rest:List Value)(i j:Nat)(x:Value)(z:ND)(hi:i<zs.length)(hj:j<8)(hz:aE z.val=(aE (zs[i]).val).set j x):
  (aG (zs.map ND.val)++rest).set (i*8+j) x=aG ((zs.set i z).map ND.val)++rest:=by
 have hi':i<(zs.map ND.val).length:=by simpa using hi
 rw[M7 hj _ i hi' (ND.len8 zs),nT,<-hz,oX,List.set_eq_take_append_cons_drop,if_pos hi',oc];have e:aG (z.val::(zs.map ND.val).drop (i+1))=aE z.val++aG ((zs.map ND.val).drop (i+1)):=by simp[aG]
 rw[e];simp[cN]
def mj(ob wb:Nat):Value:= .func (.func 74) #[] #[.pointer (some ⟨ob,0,none⟩), .pointer (some ⟨wb,0,none⟩)]
structure yk where
 x:SV
 p:Option Addr
def yk.val(z:yk):Value:= .agg ⟨[.slice z.x.a z.x.n z.x.c, .pointer z.p]⟩
structure XQ (k:Nat) (G:Gh) (z:yk) (b:Bool×aA):Prop where
 c:Zc k G z.x b.2
 t:Gr k G (.leaf b.1) z.p
structure aK6 (k:Nat) (G:Gh) (w:SV) (ps:List (Bool×aA)):Prop where
 ex: ∃zs:List yk,eB G 2 w (zs.map yk.val)/\fB (XQ k G) zs ps
structure LI where
 a:IV
 b:IV
 c:IV
def LI.val(z:LI):Value:= .agg ⟨[.bool z.a.neg, .slice z.a.a.a z.a.a.n z.a.a.c, .bool z.b.neg, .slice z.b.a.a z.b.a.n z.b.a.c, .bool z.c.neg, .slice z.c.a.a z.c.a.n z.c.a.c]⟩
structure aJI (k:Nat) (G:Gh) (z:LI) (l:ab):Prop where
 a:kz k G z.a l.a
 b:kz k G z.b l.b
 c:kz k G z.c l.c
structure aIV (k:Nat) (G:Gh) (x:SV) (ls:List ab):Prop where
 ex: ∃zs:List LI,eB G 6 x (zs.map LI.val)/\fB (aJI k G) zs ls
structure aI6 (k:Nat) (G:Gh) (x:SV) (ls:List ab):Prop where
 ex: ∃zs:List LV,eB G 9 x (zs.map LV.v)/\fB (DN k G) zs ls
def ux{a b:Int}(h:a=b):eI a=eI b:=by rw[h]
def HO(z:Int):eQ (z:Rat)= .ag [.v (.bool (decide (z<0))),dN z.natAbs, .sl []]:=by unfold eQ;rw[oV,oW];rfl
def C4{a:Rat}(h:a.den=1):((a.num:Int):Rat)=a:=Rat.ext (oV _) (by rw[oW,h])
def SH{a b:Rat}(ha:a.den=1)(hb:b.den=1):a+b=((a.num+b.num:Int):Rat):=by
 rw[oU,C4 ha,C4 hb]
def arN{a b:Rat}(ha:a.den=1)(hb:b.den=1):a*b=((a.num*b.num:Int):Rat):=by
 rw[cK,C4 ha,C4 hb]
def wv(n:Nat)(h:0<n):(if n=1 then [] else(dg n).map dU).length=0↔n=1:=by
 by_cases q:n=1
 .simp[q]
 .rw[if_neg q,aX,oI];omega
def QA{n:Nat}(h:n≠1):dD n=dN n:=by unfold dD;rw[if_neg h];rfl
def HT{g:Nat}:(gD g 1=0)↔g=1:=by
 unfold gD;constructor
 .intro h;split at h
  .exact absurd h (by decide)
  .split at h
   .assumption
   .exact absurd h (by decide)
 .rintro rfl;rfl
def MA{x:Int}{d:Nat}(hd:0<d):zv (decide (x<0)) (x.natAbs/Nat.gcd x.natAbs d)=(mkRat x d).num:=by
 rw[Rat.num_mkRat,if_neg (by omega),iT];have hg:0<Nat.gcd d x.natAbs:=kZ _ hd;obtain⟨c,hc⟩:Nat.gcd d x.natAbs∣x.natAbs:=jW _ _;generalize Nat.gcd d x.natAbs=g at*;rw[hc,nR _ hg];unfold zv;by_cases q:x<0
 .rw[if_pos (by simpa using q),show x=(g:Int)*(-(c:Int)) by rw[Int.mul_neg,<-iJ];omega,Int.mul_ediv_cancel_left _ (by omega)]
 .rw[if_neg (by simpa using q),show x=(g:Int)*(c:Int) by rw[<-iJ];omega,Int.mul_ediv_cancel_left _ (by omega)]
def LD{x:Int}{d:Nat}(hd:0<d):d/Nat.gcd x.natAbs d=(mkRat x d).den:=by
 rw[Rat.den_mkRat,if_neg (by omega),iT]
def VQ{x:Int}{d:Nat}(hd:0<d)(h:Nat.gcd x.natAbs d=1):(mkRat x d).num=x/\(mkRat x d).den=d:=by
 rw[<-MA hd,<-LD hd,h,sJ,sJ];exact⟨jB x,J⟩
instance BI.zv (neg:Bool) (m i:Nat) [h:BN m i]:BI (zv neg m) i:=⟨by rw[kI];exact h.h⟩
section
variable {GB:Gh} {C:aC} {n:Nat} {Q0:Exit->Act->World->Prop} {fr fr':av} {own own':aF} {cf cf':Cf} {vc:List Prop}
def Me(fr:av)(cf:Cf):Option Int:=match b8 fr cf with
 |some ⟨_, .convert t t' x,_,_,_,_⟩=>match de tt t,de tt t' with
  |some ⟨.int .i64,_,_,_⟩,some ⟨.int .u64,_,_,_⟩=>match aI (bw fr cf) x with
   |some (.d (.v (.int .i64 p)))=>some p
   |_=>none
  |_,_=>none
 |_=>none
def Zi[fu:Fu]{p:Int}(q:Int)(h:Me fr cf=some p)(e:p%18446744073709551616=q)(hgo:cv tt n fu.n fr own cf (.d (.v (.int .u64 q))) [] []=⟨vc,fr',own',cf'⟩)(k:ak prog GB C n Q0 fr' own' cf')
  (hv:aj vc:=by first|exact trivial|(simp only[aj];omega)):ak prog GB C n Q0 fr own cf:=by
 unfold Me at h;split at h<;>try (cases h;done)
 rename_i hh;split at h<;>try (cases h;done)
 rename_i hT hT';split at h<;>cases h;rename_i hx;have:=wB (e8 _ _ hT) J;have:=wB (e8 _ _ hT') J;refine us hh (.x1 hx fun ρ G ov a w y _ r h1 h2=>?_) hgo hv k;rw[c8] at h2;subst h2;refine⟨_,c8.2 J,?_⟩;rw[<-e,<-pG];exact A1 h1
def L6(fr:av)(cf:Cf):Option Int:=match b8 fr cf with
 |some ⟨_, .unOp .neg _ x,_,_,_,_⟩=>match aI (bw fr cf) x with
  |some (.d (.v (.int .u64 p)))=>some p
  |_=>none
 |_=>none
def ngw[fu:Fu]{p:Int}(q:Int)(h:L6 fr cf=some p)(e:(0-p)%18446744073709551616=q)(hgo:cv tt n fu.n fr own cf (.d (.v (.int .u64 q))) [] []=⟨vc,fr',own',cf'⟩)(k:ak prog GB C n Q0 fr' own' cf')
  (hv:autoParam (aj vc) Zi._auto_1):ak prog GB C n Q0 fr own cf:=by
 unfold L6 at h;split at h<;>try (cases h;done)
 rename_i hh;split at h<;>cases h;rename_i hx;refine us hh (.x1 hx fun ρ G ov a w y _ r h1 h2=>?_) hgo hv k;rw[c8] at h2;subst h2;refine⟨_,c8.2 J,?_⟩;rw[<-e,<-pG];exact E7 h1
end
def aGV{n:Int}(h0: -4611686018427387904<=n)(h1:n<=4611686018427387904):PF GB prog 108 [.v (.int .i64 n)] (eI n):=by
 refine fn func108 J J ntmps108 J J (fun C=>?_);refine br (fu1:=⟨3⟩) (fu2:=⟨6⟩) J J J (fun hc4=>?_) (fun hc4=>?_)
 .
  refine Zi (fu:=⟨0⟩) (18446744073709551616+n) J (by omega) J<|ngw (n.natAbs:Nat) J (by omega) J<|cl J (s8 (u:=n.natAbs)) J<|cl J mG J<|rz J (ux (by unfold zv;rw[if_pos J];omega))
 .
  refine ah 11 (.d (.v (.int .u64 (n.natAbs:Nat)))) J (by show FX.d (.v (.int _ _))= .d (.v (.int _ _));congr 3;omega)<|gx J<|cl J (s8 (u:=n.natAbs)) J<|cl J mG J<|rz J (ux (by unfold zv;rw[if_neg (by decide)];omega))
def SO{z:Int}:PF GB prog 109 [eI z] (vI z.sign):=by
 have hl:=bP (dg z.natAbs);have hz:= @oI z.natAbs;refine fn func109 J J ntmps109 J J (fun C=>?_);refine br J J J (fun hc6=>?_) (fun hc6=>?_)
 .
  exact rz J (by show DV.v (.int _ 0)=DV.v (.int _ _);rw[show z=0 by omega];rfl)
 .
  refine bd J J J (fun hc8=>?_) (fun hc8=>?_)
  .
   exact rz J (by show DV.v (.int _ (-1))=DV.v (.int _ _);rw[fT (by omega)])
  .
   exact rz J (by show DV.v (.int _ 1)=DV.v (.int _ _);rw[gS (by omega)])
def azG{z:Int}:PF GB prog 227 [eI z] (eI (-z)):=by
 refine fn func227 J J ntmps227 J J (fun C=>?_);refine cl J mG J<|rz J (ux (UA z))
def TL{a b:Int}(h:decide (a<0)=decide (b<0)):zv (decide (a<0)) (a.natAbs+b.natAbs)=a+b:=by
 unfold zv;have h':a<0↔b<0:=by simpa using h
 by_cases q:a<0
 .have:=h'.1 q
  simp[q];omega
 .have: ¬b<0:=fun w=>q (h'.2 w)
  simp[q];omega
def aBa{a b:Int}(h: ¬decide (a<0)=decide (b<0))(k:a.natAbs<b.natAbs):zv (decide (b<0)) (b.natAbs-a.natAbs)=a+b:=by
 unfold zv;have h': ¬(a<0↔b<0):=by simpa using h
 by_cases q:b<0
 .have: ¬a<0:=fun w=>h' ⟨fun _=>q,fun _=>w⟩
  simp[q];omega
 .have:a<0:=Int.not_le.1 fun w=>h' ⟨fun e=>by omega,fun e=>absurd e q⟩
  simp[q];omega
def Wm{a b:Int}(h: ¬decide (a<0)=decide (b<0))(k:b.natAbs<=a.natAbs):zv (decide (a<0)) (a.natAbs-b.natAbs)=a+b:=by
 unfold zv;have h': ¬(a<0↔b<0):=by simpa using h
 by_cases q:a<0
 .have: ¬b<0:=fun w=>h' ⟨fun _=>w,fun _=>q⟩
  simp[q];omega
 .have:b<0:=Int.not_le.1 fun w=>h' ⟨fun e=>absurd e q,fun e=>by omega⟩
  simp[q];omega
def GN{a b:Int}{i j:Nat}[ha:BI a i][hb:BI b j](hi:i<=400000000:=by decide)(hj:j<=400000000:=by decide):PF GB prog 179 [eI a,eI b] (eI (a+b)):=by
 have hba:=i6 ha.h;have hbb:=i6 hb.h;refine fn (fu:=⟨15⟩) func179 J J ntmps179 J J (fun C=>?_);refine ah 9 (.d (.v (.bool (decide (decide (a<0)=decide (b<0)))))) J (by congr 2)<|gx J<|bd J J J (fun hc9=>?_) (fun hc9=>?_)
 .
  refine cl J (W3 (by omega) (by omega)) J<|cl J mG J<|rz J (ux (TL hc9))
 .
  refine cl J (xd) J<|br J J J (fun hc23=>?_) (fun hc23=>?_)
  .
   refine cl J (IC (by have:=xh.1 hc23;omega) (by omega)) J<|cl J mG J<|rz J (ux (aBa hc9 (xh.1 hc23)))
  .
   refine cl J (IC (rL fun q=>hc23 (xh.2 q)) (by omega)) J<|cl J mG J<|rz J (ux (Wm hc9 (rL fun q=>hc23 (xh.2 q))))
def uk{a b:Int}{i j:Nat}[ha:BI a i][hb:BI b j](hi:i<=400000000:=by decide)(hj:j<=400000000:=by decide):PF GB prog 177 [eI a,eI b] (eI (a*b)):=by
 refine fn func177 J J ntmps177 J J (fun C=>?_);refine cl J (uA (by omega) (by omega)) J<|cl J mG J<|rz J (ux (Tw a b))
def nj{q:Rat}:PF GB prog 97 [eQ q] (dN q.den):=by
 refine fn func97 J J ntmps97 J J (fun C=>?_);refine br J J J (fun hc6=>?_) (fun hc6=>?_)
 .
  refine cl J CT J<|rz J (by rw[(wv q.den (me q)).1 (by omega)];rfl)
 .
  exact rz J (by exact QA (fun e=>hc6 (by exact congrArg Int.ofNat ((wv q.den (me q)).2 e))))
def Jp{n k:Nat}[h:BN n k](hk:k<=500000000:=by omega):(dg n).length<=200000000:=by have:=i6 h.h;omega
def vK{x:Int}{d i j:Nat}[hx:BI x i][hd:BN d j](hd0:0<d)(hi:i<=200000000:=by decide)(hj:j<=200000000:=by decide):PF GB prog 154 [eI x,dN d] (eQ (mkRat x d)):=by
 obtain⟨q,hq⟩: ∃q,q=mkRat x d:=⟨_,rfl⟩;obtain⟨g,hg⟩: ∃g,g=Nat.gcd x.natAbs d:=⟨_,rfl⟩;have hg0:0<g:=hg▸nX _ hd0;haveI hgB:BN g (i+j):=hg▸inferInstance;have hg1:(dg g).length<=200000000:=Jp (k:=i+j);have ho1:(dg 1).length<=200000000:=by rw[yO];decide
 haveI hqB:BQ q (i+j):=hq▸wU hd0 (bM hx.h (bU (by decide) (by omega))) (bM hd.h (bU (by decide) (by omega)));refine fn func154 J J ntmps154 J J (fun C=>?_);refine cl (fu:=⟨0⟩) J (F3 (by omega) (by omega)) J<|ah 11 (.d (dN g)) J (by rw[hg])<|gx (fu:=⟨4⟩) J<|mg (fu:=⟨1⟩) (X:=Unit) (fun _=>[(1, .d (dN q.den)),(2, .ov 2 0),(4, .ov 4 0)]) (fun _=>[(4,some (.o 68 [.ff, .nl, .nl] true)),(2,some (.o 66 [.d (.v (.bool (decide (q.num<0)))), .d (dN q.num.natAbs)] true))]) (fun _=>True) [1,2,4] [4,2] rfl ?_ (fun _=>J) (fun _ hm=>?_)
 .
  refine gx J<|cl J CT J<|cl J (xd hg1 ho1) J<|br J J J (fun hc15=>?_) (fun hc15=>?_)
  .
   refine cl J (FP hg0 (by omega) (by omega)) J<|cl (fu:=⟨0⟩) J mG J<|ah 26 (.d (eI q.num)) J (by show FX.d (eI (zv _ _))=_;rw[hg,MA hd0,hq])<|gx J<|cl (fu:=⟨2⟩) J (FP hg0 (by omega) (by omega)) J<|ah 31 (.d (dN q.den)) J (by rw[hg,LD hd0,hq])<|gx J<|at_ () trivial
  .
   have hm:=VQ (x:=x) hd0 (by rw[<-hg];exact HT.1 (Decidable.not_not.1 hc15));rw[<-hq] at hm;refine ah 1 (.d (dN q.den)) J (by rw[hm.2])<|at_ () trivial (hO:=⟨J,by rw[hm.1];rfl,trivial⟩)
 .
  refine mg (X:=Unit) (fun _=>[(1, .d (dD q.den)),(2, .ov 2 0),(4, .ov 4 0)]) (fun _=>[(4,some (.o 68 [.ff, .nl, .nl] true)),(2,some (.o 66 [.d (.v (.bool (decide (q.num<0)))), .d (dN q.num.natAbs)] true))]) (fun _=>True) [1,2,4] [4,2] rfl ?_ (fun _=>J) (fun _ hm=>?_)
  .
   refine gx J<|cl J CT J<|cl J (xd (Jp (k:=i+j)) ho1) J<|br J J J (fun hc36=>?_) (fun hc36=>?_)
   .
    refine RZ 1 J<|ah 1 (.d (dD q.den)) J (by rw[HT.1 hc36];rfl)<|at_ () trivial
   .
    refine ah 1 (.d (dD q.den)) J (by rw[QA (fun e=>hc36 (HT.2 e))])<|at_ () trivial
  .
   exact rz J (by rw[<-hq];rfl)
def Qy(a:Rat):mkRat a.num a.den=a:=by simp[pZ]
def RW{a b:Rat}(h:b≠0):a/b=mkRat (a.num*zv (decide (b.num<0)) b.den) (a.den*b.num.natAbs):=by
 rw[mZ];have ha:(a.num:Rat)/(a.den:Rat)=a:=by rw[<-mZ,Qy]
 have hb:(b.num:Rat)/(b.den:Rat)=b:=by rw[<-mZ,Qy]
 have h1:(a.den:Rat)≠0:=by have:=a.den_nz;exact_mod_cast this
 have h2:(b.den:Rat)≠0:=by have:=b.den_nz;exact_mod_cast this
 have h3:(b.num:Rat)≠0:=by
  intro e;rw[e] at hb;apply h;rw[<-hb];grind
 rw[cK,Rat.natCast_mul];by_cases q:b.num<0
 .have e1:((zv (decide (b.num<0)) b.den:Int):Rat)= -(b.den:Rat):=by
   unfold zv;rw[if_pos (by simpa using q),qY];rfl
  have e2:((b.num.natAbs:Nat):Rat)= -(b.num:Rat):=by
   have:((b.num.natAbs:Nat):Int)= -b.num:=by omega
   rw[<-qY,<-this];rfl
  rw[e1,e2];generalize (a.num:Rat)=an at*;generalize (a.den:Rat)=ad at*;generalize (b.num:Rat)=bn at*;generalize (b.den:Rat)=bd at*;subst ha hb;grind
 .have e1:((zv (decide (b.num<0)) b.den:Int):Rat)=(b.den:Rat):=by
   unfold zv;rw[if_neg (by simpa using q)];rfl
  have e2:((b.num.natAbs:Nat):Rat)=(b.num:Rat):=by
   have:((b.num.natAbs:Nat):Int)=b.num:=by omega
   rw[<-this];rfl
  rw[e1,e2];generalize (a.num:Rat)=an at*;generalize (a.den:Rat)=ad at*;generalize (b.num:Rat)=bn at*;generalize (b.den:Rat)=bd at*;subst ha hb;grind
def JP{q:Rat}{n:Int}{d:Nat}(hd:0<d)(h:q*(d:Rat)=(n:Rat)):q.num.natAbs<=n.natAbs/\q.den<=d:=by
 have e:q=mkRat n d:=by
  rw[mZ];have:(d:Rat)≠0:=by exact_mod_cast (by omega:d≠0)
  rw[<-h];grind
 rw[e,Rat.num_mkRat,Rat.den_mkRat,if_neg (by omega),if_neg (by omega)];exact⟨mS n (d.gcd n.natAbs:Nat),lU ..⟩
theorem BQ.of_frac{q:Rat}{n:Int}{d i:Nat}(hd:0<d)(h:q*(d:Rat)=(n:Rat))(hn:n.natAbs<2^(6*i))(hdi:d<2^(6*i)):BQ q i:=by
 have:=JP hd h;exact⟨by omega,by omega⟩
def S1{b:Rat}(h:b≠0):0<b.num.natAbs:=by
 have:b.num≠0:=fun e=>h (lT.1 e);omega
instance BQ.over (a b:Rat) (i j:Nat) [ha:BQ a i] [hb:BQ b j]:BQ (a/b) (i+j):=by
 by_cases h:b=0
 .subst h
  rw[Rat.div_def,Rat.inv_zero,Rat.mul_zero];have h2:=ha.hd;have h3:0<a.den:=me a;have h4:2^(6*i)<=2^(6*(i+j)):=uI (by omega);exact⟨by show 0<_;omega,by show 1<_;omega⟩
 .rw[RW h]
  have hb0:=S1 h;refine wU (iV (me a) hb0) ?_ (l6 ha.hd hb.hn);rw[fX,kI];exact l6 ha.hn hb.hd
def AC{n:Int}(h0: -4611686018427387904<=n:=by decide)(h1:n<=4611686018427387904:=by decide):PF GB prog 61 [.v (.int .i64 n)] (eQ (n:Rat)):=by
 refine fn func61 J J ntmps61 J J (fun C=>?_);refine cl J (aGV (by omega) (by omega)) J<|rz J (by rw[HO];rfl)
def Qn{q:Rat}:PF GB prog 64 [eQ q] (vI q.num.sign):=by
 refine fn func64 J J ntmps64 J J (fun C=>?_);refine cl J SO J<|rz J J
def T7{q:Rat}:PF GB prog 176 [eQ q] (eQ (-q)):=by
 refine fn func176 J J ntmps176 J J (fun C=>?_);refine cl J azG J<|rz J (by unfold eQ;rw[nL,sX];rfl)
def BS{a b:Rat}{i j:Nat}[ha:BQ a i][hb:BQ b j](hi:i<=20000000:=by decide)(hj:j<=20000000:=by decide):PF GB prog 111 [eQ a,eQ b] (eQ (a*b)):=by
 have had:=me a;have hbd:=me b;have hdp:=iV had hbd;have e1:=wv a.den had;have e2:=wv b.den hbd;refine fn func111 J J ntmps111 J J (fun C=>?_);refine cs 9 J J J (fun hg9=>?_) (fun hg9=>?_)
 .
  refine br J J J (fun hc14=>?_) (fun hc14=>?_)
  .
   refine cl J (uk (a:=a.num) (b:=b.num) (by omega) (by omega)) J<|rz J (by rw[arN (e1.1 (by omega)) (e2.1 (by omega)),HO];rfl)
  .
   refine cl J (uk (a:=a.num) (b:=b.num) (by omega) (by omega)) J<|cl J nj J<|cl J nj J<|cl J (uA (by omega) (by omega)) J<|cl J (vK hdp (by omega) (by omega)) J<|rz J (by rw[y4];rfl)
 .
  refine cl J (uk (a:=a.num) (b:=b.num) (by omega) (by omega)) J<|cl J nj J<|cl J nj J<|cl J (uA (by omega) (by omega)) J<|cl J (vK hdp (by omega) (by omega)) J<|rz J (by rw[y4];rfl)
def D0{a b:Rat}{i j:Nat}[ha:BQ a i][hb:BQ b j](hi:i<=20000000:=by decide)(hj:j<=20000000:=by decide):PF GB prog 112 [eQ a,eQ b] (eQ (a+b)):=by
 have had:=me a;have hbd:=me b;have hdp:=iV had hbd;have e1:=wv a.den had;have e2:=wv b.den hbd;refine fn func112 J J ntmps112 J J (fun C=>?_);refine cs 9 J J J (fun hg9=>?_) (fun hg9=>?_)
 .
  refine br J J J (fun hc14=>?_) (fun hc14=>?_)
  .
   refine cl J (GN (by omega) (by omega)) J<|rz J (by rw[SH (e1.1 (by omega)) (e2.1 (by omega)),HO];rfl)
  .
   refine cl J nj J<|cl J mG J<|cl J (uk (a:=a.num) (b:=zv false b.den) (by omega) (by omega)) J<|cl J nj J<|cl J mG J<|cl J (uk (a:=b.num) (b:=zv false a.den) (by omega) (by omega)) J<|cl J (GN (by omega) (by omega)) J<|cl J nj J<|cl J nj J<|cl J (uA (by omega) (by omega)) J<|cl J (vK hdp (by omega) (by omega)) J<|rz J (by rw[yt];rfl)
 .
  refine cl J nj J<|cl J mG J<|cl J (uk (a:=a.num) (b:=zv false b.den) (by omega) (by omega)) J<|cl J nj J<|cl J mG J<|cl J (uk (a:=b.num) (b:=zv false a.den) (by omega) (by omega)) J<|cl J (GN (by omega) (by omega)) J<|cl J nj J<|cl J nj J<|cl J (uA (by omega) (by omega)) J<|cl J (vK hdp (by omega) (by omega)) J<|rz J (by rw[yt];rfl)
def NU{a b:Rat}{i j:Nat}[ha:BQ a i][hb:BQ b j](hi:i<=20000000:=by decide)(hj:j<=20000000:=by decide):PF GB prog 110 [eQ a,eQ b] (eQ (a-b)):=by
 refine fn func110 J J ntmps110 J J (fun C=>?_);refine cl J (T7 (q:=b)) J<|cl J (D0 (a:=a) (b:= -b) hi hj) J<|rz J (by rw[Rat.sub_eq_add_neg];rfl)
def wK{a b:Rat}{i j:Nat}[ha:BQ a i][hb:BQ b j](hi:i<=20000000:=by decide)(hj:j<=20000000:=by decide):PF GB prog 79 [eQ a,eQ b] (vI (ce a b)):=by
 refine fn func79 J J ntmps79 J J (fun C=>?_);refine cl J (NU hi hj) J<|cl J Qn J<|rz J (by show vI _=vI _;rw[A4])
instance BI.two:BI 2 2:=⟨by decide⟩
end Go.Sx
end
