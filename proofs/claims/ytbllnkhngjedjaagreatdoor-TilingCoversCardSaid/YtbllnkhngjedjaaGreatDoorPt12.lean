import Derived.Test.YtbllnkhngjedjaaGreatDoorPt11
set_option linter.all false
set_option maxHeartbeats 1000000
set_option maxRecDepth 100000
section
namespace Go.Sx
open Go
def jf(l:ab)(p:aa):l.value p=(l.a:Rat)*p.x+(l.b:Rat)*p.y+(l.c:Rat):=rfl
def fq(l:ab)(p:aa):l.rev.value p= -l.value p:=by
 rw[jf,jf];have h1:((l.rev.a:Int):Rat)= -(l.a:Rat):=(F0 l.a).symm;have h2:((l.rev.b:Int):Rat)= -(l.b:Rat):=(F0 l.b).symm;have h3:((l.rev.c:Int):Rat)= -(l.c:Rat):=(F0 l.c).symm;rw[h1,h2,h3];grind
def bj(q p:aa)(e:Rat):aa:=⟨q.x+e*(p.x-q.x),q.y+e*(p.y-q.y)⟩
def oe(l:ab)(q p:aa)(e:Rat):l.value (bj q p e)=l.value q+e*(l.value p-l.value q):=by
 simp only[jf,bj];grind
def bP(q u:aa)(e:Rat):aa:=⟨q.x+e*u.x,q.y+e*u.y⟩
def gH(l:ab)(q u:aa)(e:Rat):l.value (bP q u e)=l.value q+e*l.nor.dot u:=by
 simp only[jf,bP,ab.nor,aa.dot];grind
def bH{a b:Rat}(ha:0<a)(hb:0<b):0<a*b:=Rat.mul_pos ha hb
def cO{a b:Rat}(ha:0<=a)(hb:0<=b):0<=a*b:=pJ ha hb
def uB(a:Rat):0<=a*a:=by
 by_cases h:0<=a
 .exact cO h h
 .have:=cO (a:= -a) (b:= -a) (by grind) (by grind)
  grind
def gv{s k:Rat}(hk:0<k):0<s*k↔0<s:=by
 constructor
 .intro h
  by_cases hs:0<s
  .exact hs
  .have:=cO (a:= -s) (b:=k) (by grind) (by grind)
   grind
 .intro h;exact bH h hk
def kg{s k:Rat}(hk:0<k):0<=s*k↔0<=s:=by
 constructor
 .intro h
  by_cases hs:0<=s
  .exact hs
  .have:=bH (a:= -s) (b:=k) (by grind) hk
   grind
 .intro h;exact cO h (by grind)
def IM{A B u v:Rat}(h0:0<=A)(h1:0<=A+v*B)(hu:0<=u)(huv:u<=v):0<=A+u*B:=by
 by_cases hB:0<=B
 .have:=cO hu hB;grind
 .have:=cO (a:=v-u) (b:= -B) (by grind) (by grind)
  grind
def ab.Ne(l:ab):Prop:= ¬(l.a=0/\l.b=0)
def ab.ok.ne{l:ab}(h:l.ok):l.Ne:=h.1
def sG{l:ab}(h:l.Ne):0<l.nor.dot l.nor:=by
 show 0<(l.a:Rat)*l.a+(l.b:Rat)*l.b;have h1:=uB (l.a:Rat);have h2:=uB (l.b:Rat);by_cases ha:l.a=0
 .have hb:l.b≠0:=fun hb=>h ⟨ha,hb⟩
  have hb':(l.b:Rat)≠0:=fun e=>hb (dZ.1 e);have:(l.b:Rat)*l.b≠0:=by grind
  grind
 .have ha':(l.a:Rat)≠0:=fun e=>ha (dZ.1 e)
  have:(l.a:Rat)*l.a≠0:=by grind
  grind
def Bm{l:ab}(h:l.Ne): ∃q:Rat,l.nor.dot l.nor*q= -(l.c:Rat)/\l.base=⟨(l.a:Rat)*q,(l.b:Rat)*q⟩:=by
 refine⟨-(l.c:Rat)/l.nor.dot l.nor,?_,J⟩;have:=sG h;grind
def ke(l m:ab)(t:Rat):m.value (l.at t)=l.cutC m+t*l.cutK m:=by
 simp only[ab.cutC,ab.cutK,jf,ab.at,aa.add,aa.scale,ab.dir,ab.nor,aa.dot];grind
def mz{l:ab}(h:l.Ne)(t:Rat):l.value (l.at t)=0:=by
 obtain⟨q,h1,h2⟩:=Bm h;simp only[jf,ab.at,h2,aa.add,aa.scale,ab.dir];simp only[ab.nor,aa.dot] at h1;grind
def Bc{l:ab}(h:l.Ne){p:aa}(hp:l.value p=0): ∃t,p=l.at t:=by
 obtain⟨q,h1,h2⟩:=Bm h;have hn:=sG h;obtain⟨x,y⟩:=p;rw[jf] at hp;simp only[ab.nor,aa.dot] at h1 hn;refine⟨((l.b:Rat)*x-(l.a:Rat)*y)/((l.a:Rat)*l.a+(l.b:Rat)*l.b),?_⟩;generalize ht:((l.b:Rat)*x-(l.a:Rat)*y)/((l.a:Rat)*l.a+(l.b:Rat)*l.b)=t;have ht':((l.a:Rat)*l.a+(l.b:Rat)*l.b)*t=(l.b:Rat)*x-(l.a:Rat)*y:=by grind
 simp only[ab.at,h2,aa.add,aa.scale,ab.dir,aa.mk.injEq];generalize (l.a:Rat)=a at*;generalize (l.b:Rat)=b at*;generalize (l.c:Rat)=c at*;have e1:(a*a+b*b)*(x-(a*q+b*t))=0:=by grind
 have e2:(a*a+b*b)*(y-(b*q+ -a*t))=0:=by grind
 constructor<;>grind
def aj.has(v:aj)(t:Rat):Prop:=(v.nl=true\/v.lo<=t)/\(v.nh=true\/t<=v.hi)
def aj.ins(v:aj)(t:Rat):Prop:=(v.nl=true\/v.lo<t)/\(v.nh=true\/t<v.hi)
def aj.Pos(v:aj):Prop:=v.nl=true\/v.nh=true\/v.lo<v.hi
def apP(a b:Rat):0<=bg a b↔b<=a:=by
 unfold bg;split
 .constructor
  .intro h;exact absurd h (by decide)
  .intro h;grind
 .split
  .constructor
   .intro _;grind
   .intro _;decide
  .constructor
   .intro _;grind
   .intro _;decide
def Eo(v:aj):v.empty=false↔v.Pos:=by
 obtain⟨lo,hi,nl,nh⟩:=v;unfold aj.empty aj.Pos
 cases nl<;>cases nh<;>simp[apP]
 first|exact tU|grind
def aj.ins.has{v:aj}{t:Rat}(h:v.ins t):v.has t:=by
 obtain⟨h1,h2⟩:=h;exact⟨h1.imp id (fun h=>dQ h),h2.imp id (fun h=>dQ h)⟩
def aEa:mkRat 1 2=(1:Rat)/2:=by rw[pK];rfl
def pI{v:aj}(h:v.Pos):v.ins v.sample:=by
 obtain⟨lo,hi,nl,nh⟩:=v;unfold aj.Pos at h;unfold aj.ins aj.sample;rw[aEa]
 cases nl<;>cases nh<;>simp at* <;>grind
def Lk(v w:aj)(t:Rat):(v.meet w).has t↔v.has t/\w.has t:=by
 obtain⟨lo,hi,nl,nh⟩:=v;obtain⟨lo',hi',nl',nh'⟩:=w;unfold aj.has aj.meet
 cases nl<;>cases nh<;>cases nl'<;>cases nh'<;>simp<;>grind
def Lg(v w:aj)(t:Rat):(v.meet w).ins t↔v.ins t/\w.ins t:=by
 obtain⟨lo,hi,nl,nh⟩:=v;obtain⟨lo',hi',nl',nh'⟩:=w;unfold aj.ins aj.meet
 cases nl<;>cases nh<;>cases nl'<;>cases nh'<;>simp<;>grind
def E'(t:Rat):aj.all.has t:=⟨.inl J, .inl J⟩
def Zt(t:Rat):aj.all.ins t:=⟨.inl J, .inl J⟩
def wF:aj.all.Pos:= .inl J
def lz(k:Rat):Int.sign k.num=0↔k=0:=by rw[jY,lM]
def Fy(k:Rat):0<k.num↔0<k:=by
 have h1:0<=k.num↔0<=k:=tT;have h2:k.num=0↔k=0:=lM;constructor
 .intro h
  have a:=h1.1 (by omega);have b:k≠0:=fun e=>by have:=h2.2 e;omega
  grind
 .intro h
  have a:=h1.2 (by grind);have b:k.num≠0:=fun e=>by have:=h2.1 e;grind
  omega
def n4(k:Rat):Int.sign k.num=1↔0<k:=by rw[Int.sign_eq_one_iff_pos,Fy]
def lf(k:Rat):0<Int.sign k.num↔0<k:=by
 rw[<-n4];rcases lT k.num 0 with h|h|h
 .rw[eJ h];decide
 .rw[h];decide
 .rw[dS h];decide
def sI(k:Rat):Int.sign k.num<0↔k<0:=by
 have h1:=lz k;have h2:=lf k;constructor
 .intro h
  by_cases hk:0<k
  .have:=h2.2 hk;omega
  .by_cases h0:k=0
   .have:=h1.2 h0;omega
   .grind
 .intro h
  have a1: ¬Int.sign k.num=0:=fun e=>by have:=h1.1 e;grind
  have a2: ¬0<Int.sign k.num:=fun e=>by have:=h2.1 e;grind
  omega
def Al{l m:ab}(v:aj)(hk:l.cutK m=0):l.cutV v m=v/\(l.cutB v m=true↔0<l.cutC m):=by
 have h:=(lz (l.cutK m)).2 hk;unfold ab.cutV ab.cutB;rw[if_pos h,if_pos h,decide_eq_true_iff,lf];exact⟨J,Iff.rfl⟩
def Bp{l m:ab}(v:aj)(hk:0<l.cutK m):l.cutV v m=v.meet ⟨-(l.cutC m/l.cutK m),0,false,true⟩/\(l.cutB v m=true↔(l.cutV v m).Pos):=by
 have h0: ¬Int.sign (l.cutK m).num=0:=fun e=>by have:=(lz _).1 e;grind
 have h1:=(n4 (l.cutK m)).2 hk;constructor
 .unfold ab.cutV;rw[if_neg h0,if_pos h1]
 .unfold ab.cutB;rw[if_neg h0,<-Eo];simp
def A4{l m:ab}(v:aj)(hk:l.cutK m<0):l.cutV v m=v.meet ⟨0, -(l.cutC m/l.cutK m),true,false⟩/\(l.cutB v m=true↔(l.cutV v m).Pos):=by
 have h0: ¬Int.sign (l.cutK m).num=0:=fun e=>by have:=(lz _).1 e;grind
 have h1: ¬Int.sign (l.cutK m).num=1:=fun e=>by have:=(n4 _).1 e;grind
 constructor
 .unfold ab.cutV;rw[if_neg h0,if_neg h1]
 .unfold ab.cutB;rw[if_neg h0,<-Eo];simp
def aH6{C K t:Rat}(hk:0<K): -(C/K)<=t↔0<=C+t*K:=by
 have e:C=C/K*K:=by grind
 generalize C/K=d at*;rw[e,show d*K+t*K=(d+t)*K from by grind,kg hk];grind
def Qe{C K t:Rat}(hk:0<K): -(C/K)<t↔0<C+t*K:=by
 have e:C=C/K*K:=by grind
 generalize C/K=d at*;rw[e,show d*K+t*K=(d+t)*K from by grind,gv hk];grind
def Ud{C K t:Rat}(hk:K<0):t<= -(C/K)↔0<=C+t*K:=by
 have e:C=C/K*K:=by grind
 generalize C/K=d at*;rw[e,show d*K+t*K=(-(d+t))*(-K) from by grind,kg (by grind)];grind
def Sw{C K t:Rat}(hk:K<0):t< -(C/K)↔0<C+t*K:=by
 have e:C=C/K*K:=by grind
 generalize C/K=d at*;rw[e,show d*K+t*K=(-(d+t))*(-K) from by grind,gv (by grind)];grind
def ge(k:Rat):k=0\/0<k\/k<0:=by grind
def BY{l m:ab}{v:aj}(hb:l.cutB v m=true)(t:Rat):(l.cutV v m).has t↔v.has t/\0<=m.value (l.at t):=by
 rw[ke];rcases ge (l.cutK m) with hk|hk|hk
 .obtain⟨h1,h2⟩:=Al v hk
  rw[h1,hk];have:=h2.1 hb;constructor
  .intro h;exact⟨h,by grind⟩
  .exact fun h=>h.1
 .rw[(Bp v hk).1,Lk,<-aH6 hk]
  simp[aj.has]
 .rw[(A4 v hk).1,Lk,<-Ud hk]
  simp[aj.has]
def NW{l m:ab}{v:aj}(hb:l.cutB v m=true)(t:Rat):(l.cutV v m).ins t↔v.ins t/\0<m.value (l.at t):=by
 rw[ke];rcases ge (l.cutK m) with hk|hk|hk
 .obtain⟨h1,h2⟩:=Al v hk
  rw[h1,hk];have:=h2.1 hb;constructor
  .intro h;exact⟨h,by grind⟩
  .exact fun h=>h.1
 .rw[(Bp v hk).1,Lg,<-Qe hk]
  simp[aj.ins]
 .rw[(A4 v hk).1,Lg,<-Sw hk]
  simp[aj.ins]
def BD{l m:ab}{v:aj}(hv:v.Pos)(hb:l.cutB v m=true):(l.cutV v m).Pos:=by
 rcases ge (l.cutK m) with hk|hk|hk
 .rw[(Al v hk).1];exact hv
 .exact(Bp v hk).2.1 hb
 .exact(A4 v hk).2.1 hb
def I1{l m:ab}{v:aj}(hv:v.Pos)(hb:l.cutB v m=false){t:Rat}(ht:v.has t):m.value (l.at t)<=0:=by
 rw[ke];have hb': ¬l.cutB v m=true:=by rw[hb];decide
 rcases ge (l.cutK m) with hk|hk|hk
 .have h2:=(Al v hk).2
  have: ¬0<l.cutC m:=fun h=>hb' (h2.2 h);rw[hk];grind
 .obtain⟨h1,h2⟩:=Bp v hk
  have hn: ¬(l.cutV v m).Pos:=fun h=>hb' (h2.2 h);rw[h1] at hn;have h3:=Qe (C:=l.cutC m) (t:=t) hk
  suffices¬(-(l.cutC m/l.cutK m)<t) by grind
  generalize-(l.cutC m/l.cutK m)=d at*;obtain⟨lo,hi,nl,nh⟩:=v;unfold aj.Pos aj.meet at hn;unfold aj.Pos at hv;unfold aj.has at ht
  cases nl<;>cases nh<;>simp at* <;>grind
 .obtain⟨h1,h2⟩:=A4 v hk
  have hn: ¬(l.cutV v m).Pos:=fun h=>hb' (h2.2 h);rw[h1] at hn;have h3:=Sw (C:=l.cutC m) (t:=t) hk
  suffices¬(t< -(l.cutC m/l.cutK m)) by grind
  generalize-(l.cutC m/l.cutK m)=d at*;obtain⟨lo,hi,nl,nh⟩:=v;unfold aj.Pos aj.meet at hn;unfold aj.Pos at hv;unfold aj.has at ht
  cases nl<;>cases nh<;>simp at* <;>grind
def bm(c:az)(p:aa):Prop:= ∀s∈c,0<s.l.value p
def mm(c:az)(p:aa):Prop:= ∀s∈c,0<=s.l.value p
def Ji(l:ab): ∀(c:az) (v w:aj),v.Pos->nG l c v=some w->
  w.Pos/\(∀t,w.has t↔v.has t/\mm c (l.at t))/\(∀t,w.ins t↔v.ins t/\bm c (l.at t))
 |[],v,w,hv,h=>by
  obtain rfl:v=w:=by simpa[nG] using h
  exact⟨hv,fun t=>⟨fun h=>⟨h,fun s hs=>absurd hs (by simp)⟩,fun h=>h.1⟩,fun t=>⟨fun h=>⟨h,fun s hs=>absurd hs (by simp)⟩,fun h=>h.1⟩⟩
 |s::c,v,w,hv,h=>by
  rw[nG] at h;split at h
  .rename_i hb
   obtain⟨h1,h2,h3⟩:=Ji l c _ w (BD hv hb) h;refine⟨h1,fun t=>?_,fun t=>?_⟩
   .rw[h2,BY hb]
    simp only[mm,dR];exact and_assoc
   .rw[h3,NW hb]
    simp only[bm,dR];exact and_assoc
  .exact absurd h (by simp)
def Md(l:ab): ∀(c:az) (v:aj),v.Pos->nG l c v=none-> ∀t,v.has t-> ¬bm c (l.at t)
 |[],v,hv,h=>by simp[nG] at h
 |s::c,v,hv,h=>by
  intro t ht hd;have hd':=dR.1 hd;rw[nG] at h;split at h
  .rename_i hb
   exact Md l c _ (BD hv hb) h t ((BY hb t).2 ⟨ht,dQ hd'.1⟩) hd'.2
  .rename_i hb
   have:=I1 hv (by simpa using hb) ht;have:=hd'.1;grind
def bm.open: ∀{c:az} {q:aa} (u:aa),bm c q-> ∃e:Rat,0<e/\ ∀d,0<=d->d<=e->bm c (bP q u d)
 |[],q,u,_=>⟨1,by decide,fun d _ _ s hs=>absurd hs (by simp)⟩
 |s::c,q,u,h=>by
  have h':=dR.1 h;obtain⟨e,he,hd⟩:=bm.open (c:=c) u h'.2;have hs:=h'.1;generalize hk:s.l.nor.dot u=k;have hf: ∃f:Rat,0<f/\ ∀d,0<=d->d<=f->0<s.l.value q+d*k:=by
   by_cases hk0:0<=k
   .exact⟨1,by decide,fun d h1 _=>by have:=cO h1 hk0;grind⟩
   .refine⟨s.l.value q/(2* -k),?_,fun d h1 h2=>?_⟩
    .have e1:s.l.value q/(2* -k)*(2* -k)=s.l.value q:=by grind
     exact(gv (k:=2* -k) (by grind)).1 (by rw[e1];exact hs)
    .have e1:s.l.value q/(2* -k)*(2* -k)=s.l.value q:=by grind
     generalize s.l.value q/(2* -k)=f at*;have:=cO (a:=f-d) (b:= -k) (by grind) (by grind);grind
  obtain⟨f,hf0,hf⟩:=hf;by_cases hef:e<=f
  .refine⟨e,he,fun d h1 h2=>dR.2 ⟨?_,hd d h1 h2⟩⟩
   rw[gH,hk];exact hf d h1 (by grind)
  .refine⟨f,hf0,fun d h1 h2=>dR.2 ⟨?_,hd d h1 (by grind)⟩⟩
   rw[gH,hk];exact hf d h1 h2
def Mo: ∀{c:az} {q p:aa},bm c q->(∃s∈c,s.l.value p<=0)->
  ∃e:Rat,0<=e/\e<=1/\(∃s∈c,s.l.value p<=0/\s.l.value (bj q p e)=0)/\mm c (bj q p e)
 |[],q,p,_,h=>by obtain⟨s,hs,_⟩:=h;exact absurd hs (by simp)
 |s::c,q,p,h,hex=>by
  have h':=dR.1 h;have hs:=h'.1;by_cases hc: ∃s∈c,s.l.value p<=0
  .obtain⟨e,h0,h1,⟨s1,m1,n1,z1⟩,hC⟩:=Mo h'.2 hc
   by_cases hp:0<=s.l.value (bj q p e)
   .exact⟨e,h0,h1,⟨s1,aK _ m1,n1,z1⟩,dR.2 ⟨hp,hC⟩⟩
   .rw[oe] at hp
    generalize hB:s.l.value p-s.l.value q=B at*;have hB0:B<0:=by
     by_cases hB0:0<=B
     .have:=cO h0 hB0;grind
     .grind
    have e1:s.l.value q/(-B)*(-B)=s.l.value q:=by grind
    generalize hf:s.l.value q/(-B)=f at*;have f0:0<=f:=(kg (k:= -B) (by grind)).1 (by rw[e1];grind);have f1:f<=e:=by
     have:=(kg (s:=e-f) (k:= -B) (by grind)).1 (by grind);grind
    have z:s.l.value (bj q p f)=0:=by rw[oe,hB];grind
    have np:s.l.value p<=0:=by
     have:=cO (a:=1-e) (b:= -B) (by grind) (by grind);grind
    refine⟨f,f0,by grind,⟨s,aZ,np,z⟩,dR.2 ⟨by rw[z];exact fN,fun s2 m2=>?_⟩⟩;have a1:=h'.2 s2 m2;have a2:=hC s2 m2;rw[oe] at a2⊢;exact IM (dQ a1) a2 f0 f1
  .have np:s.l.value p<=0:=by
    obtain⟨s1,m1,n1⟩:=hex;rcases aT.1 m1 with rfl|m1
    .exact n1
    .exact absurd ⟨s1,m1,n1⟩ hc
   generalize hB:s.l.value p-s.l.value q=B at*;have hB0:B<0:=by grind
   have e1:s.l.value q/(-B)*(-B)=s.l.value q:=by grind
   generalize hf:s.l.value q/(-B)=f at*;have f0:0<=f:=(kg (k:= -B) (by grind)).1 (by rw[e1];grind);have f1:f<=1:=by
    have:=(kg (s:=1-f) (k:= -B) (by grind)).1 (by grind);grind
   have z:s.l.value (bj q p f)=0:=by rw[oe,hB];grind
   refine⟨f,f0,f1,⟨s,aZ,np,z⟩,dR.2 ⟨by rw[z];exact fN,fun s2 m2=>?_⟩⟩;have a1:=h'.2 s2 m2;have a2:0<s2.l.value p:=by
    by_cases h:0<s2.l.value p
    .exact h
    .exact absurd ⟨s2,m2,by grind⟩ hc
   rw[oe];have:=IM (A:=s2.l.value q) (B:=s2.l.value p-s2.l.value q) (u:=f) (v:=1) (dQ a1) (by grind) f0 f1;exact this
structure bO (c:az):Prop where
 ne: ∃p,bm c p
 ok: ∀s∈c,s.l.ok
 edge: ∀s∈c,s.v.Pos/\ ∀t,s.v.has t↔mm c (s.l.at t)
def bO.nil:bO []:=⟨⟨⟨0,0⟩,fun s hs=>absurd hs (by simp)⟩,fun s hs=>absurd hs (by simp),fun s hs=>absurd hs (by simp)⟩
def tj{c:az}{m:ab}(hne: ∃q,bm c q)(h: ∀p,bm c p->0<m.value p){p:aa}(hp:mm c p):0<=m.value p:=by
 obtain⟨q,hq⟩:=hne;have mq:=h q hq;by_cases hm:0<=m.value p
 .exact hm
 .exfalso
  generalize hB:m.value q-m.value p=B;have hB0:0<B:=by grind
  have e1: -m.value p/B*B= -m.value p:=by grind
  generalize-m.value p/B=e at*;have e0:0<e:=(gv hB0).1 (by rw[e1];grind);have e2:e<=1:=by
   have:=(kg (s:=1-e) hB0).1 (by grind);grind
  have hd:bm c (bj p q e):=fun s hs=>by
   rw[oe];have a:=hp s hs;have b:=hq s hs;have:=bH e0 b;have:=cO (a:=1-e) (b:=s.l.value p) (by grind) a;grind
  have:=h _ hd;rw[oe,hB,e1] at this;grind
def rC{l:ab}{s':aP}: ∀{c:az},s'∈eH l c↔ ∃s∈c,s.l.cutB s.v l=true/\s'=⟨s.l,s.l.cutV s.v l⟩
 |[]=>by simp[eH]
 |s::c=>by
  rw[eH];split
  .rename_i hb
   rw[aT,rC (c:=c)];constructor
   .rintro (rfl|⟨s1,h1,h2⟩)
    .exact⟨s,aZ,hb,J⟩
    .exact⟨s1,aK _ h1,h2⟩
   .rintro ⟨s1,h1,h2,h3⟩
    rcases aT.1 h1 with rfl|h1
    .exact .inl h3
    .exact .inr ⟨s1,h1,h2,h3⟩
  .rename_i hb
   rw[rC (c:=c)];constructor
   .rintro ⟨s1,h1,h2⟩;exact⟨s1,aK _ h1,h2⟩
   .rintro ⟨s1,h1,h2,h3⟩
    rcases aT.1 h1 with rfl|h1
    .exact absurd h2 hb
    .exact⟨s1,h1,h2,h3⟩
def qr{c:az}{l:ab}{v:aj}{s:aP}:s∈nq c l v↔s=⟨l,v⟩\/s∈c:=by
 unfold nq;generalize gw (jC c l) 0 c.length=n;rw[bK,aT];have h:=kZ n c;constructor
 .rintro (h1|h1|h1)
  .exact .inr (dJ h1)
  .exact .inl h1
  .exact .inr (gL h1)
 .rintro (h1|h1)
  .exact .inr (.inl h1)
  .rw[<-h,bK] at h1
   rcases h1 with h1|h1
   .exact .inl h1
   .exact .inr (.inr h1)
def azs{c:az}{l:ab}(hl:l.Ne)(hp:lI c l=none){p:aa}(h:bm c p):l.value p≠0:=by
 intro h0;obtain⟨t,rfl⟩:=Bc hl h0;exact Md l c _ wF hp t (E' t) h
def FS{c:az}{l:ab}(hl:l.Ne){v:aj}(hp:lI c l=some v):(∃q,bm c q/\0<l.value q)/\ ∃q,bm c q/\l.value q<0:=by
 obtain⟨h1,_,h3⟩:=Ji l c _ v wF hp;have hd:=((h3 v.sample).1 (pI h1)).2;have h0:=mz hl v.sample;have hn:=sG hl;constructor
 .obtain⟨e,he,hm⟩:=hd.open l.nor
  refine⟨_,hm e (dQ he) fN,?_⟩;rw[gH,h0];have:=bH he hn;grind
 .obtain⟨e,he,hm⟩:=hd.open ⟨-l.nor.x, -l.nor.y⟩
  refine⟨_,hm e (dQ he) fN,?_⟩;rw[gH,h0];have:=bH he hn;simp only[aa.dot] at this⊢;grind
def XE{c:az}{l:ab}{v:aj}(hc:bO c)(hl:l.ok)(hp:lI c l=some v):
  bO (nq (eH l c) l v)/\ ∀p,bm (nq (eH l c) l v) p↔bm c p/\0<l.value p:=by
 obtain⟨⟨q,hq,lq⟩,_⟩:=FS hl.ne hp;obtain⟨v1,v2,v3⟩:=Ji l c _ v wF hp;have hD: ∀p,bm (nq (eH l c) l v) p↔bm c p/\0<l.value p:=by
  intro p;constructor
  .intro h
   have lp:0<l.value p:=h ⟨l,v⟩ (qr.2 (.inl J));refine⟨fun s0 hs0=>?_,lp⟩;by_cases h0:0<s0.l.value p
   .exact h0
   .exfalso
    obtain⟨e,e0,e1,⟨s,ms,ns,zs⟩,hC⟩:=Mo (p:=p) hq ⟨s0,hs0,by grind⟩;obtain⟨t,ht⟩:=Bc (hc.ok s ms).ne zs;rw[ht] at hC;obtain⟨p1,p2⟩:=hc.edge s ms;have hh:=(p2 t).2 hC;have lr:0<l.value (s.l.at t):=by
     rw[<-ht,oe];by_cases hB:0<=l.value p-l.value q
     .have:=cO e0 hB;grind
     .have:=cO (a:=1-e) (b:= -(l.value p-l.value q)) (by grind) (by grind)
      grind
    have hb:s.l.cutB s.v l=true:=by
     cases hb:s.l.cutB s.v l with
     |true=>rfl
     |false=>have:=I1 p1 hb hh;grind
    have:=h ⟨s.l,s.l.cutV s.v l⟩ (qr.2 (.inr (rC.2 ⟨s,ms,hb,J⟩)));simp only at this;grind
  .rintro ⟨h1,h2⟩ s hs
   rcases qr.1 hs with rfl|hs
   .exact h2
   .obtain⟨s1,m1,_,rfl⟩:=rC.1 hs
    exact h1 s1 m1
 have hne: ∃p,bm (nq (eH l c) l v) p:=⟨q,(hD q).2 ⟨hq,lq⟩⟩;have hC: ∀p,mm (nq (eH l c) l v) p↔mm c p/\0<=l.value p:=by
  intro p;constructor
  .intro h
   refine⟨fun s hs=>?_,h ⟨l,v⟩ (qr.2 (.inl J))⟩;exact tj hne (fun p hp=>((hD p).1 hp).1 s hs) h
  .rintro ⟨h1,h2⟩ s hs
   rcases qr.1 hs with rfl|hs
   .exact h2
   .obtain⟨s1,m1,_,rfl⟩:=rC.1 hs
    exact h1 s1 m1
 refine⟨⟨hne,fun s hs=>?_,fun s hs=>?_⟩,hD⟩
 .rcases qr.1 hs with rfl|hs
  .exact hl
  .obtain⟨s1,m1,_,rfl⟩:=rC.1 hs
   exact hc.ok s1 m1
 .rcases qr.1 hs with rfl|hs
  .refine⟨v1,fun t=>?_⟩
   rw[hC];simp only;rw[v2];have h0:=mz hl.ne t;constructor
   .intro h;exact⟨h.2,by rw[h0];exact fN⟩
   .intro h;exact⟨E' t,h.1⟩
  .obtain⟨s1,m1,hb,rfl⟩:=rC.1 hs
   obtain⟨p1,p2⟩:=hc.edge s1 m1;refine⟨BD p1 hb,fun t=>?_⟩;rw[hC];simp only;rw[BY hb,p2]
def bm.seg{c:az}{q p:aa}{e:Rat}(hq:bm c q)(hp:bm c p)(h0:0<=e)(h1:e<=1):bm c (bj q p e):=fun s hs=>by
 rw[oe];have a:=hq s hs;have b:=hp s hs;by_cases he:e=0
 .subst he;grind
 .have:=bH (a:=e) (by grind) b
  have:=cO (a:=1-e) (b:=s.l.value q) (by grind) (by grind);grind
def H4{v:aj}{t:Rat}(h:v.ins t):(∃u,u<t/\v.has u)/\ ∃u,t<u/\v.has u:=by
 obtain⟨lo,hi,nl,nh⟩:=v;unfold aj.ins at h;unfold aj.has;refine⟨⟨if nl=true then t-1 else lo,?_⟩,⟨if nh=true then t+1 else hi,?_⟩⟩<;>cases nl<;>cases nh<;>simp at* <;>grind
def xI{a b c x y z:Nat}(h1:x*b=a*y)(h2:x*c=a*z)(g:Nat.gcd (Nat.gcd a b) c=1):a∣x:=by
 have e:x=Nat.gcd (Nat.gcd (x*a) (x*b)) (x*c):=by
  rw[Nat.gcd_mul_left,Nat.gcd_mul_left,g,iU]
 rw[e];exact Nat.dvd_gcd (Nat.dvd_gcd (Nat.dvd_mul_left ..) (h1▸Nat.dvd_mul_right ..)) (h2▸Nat.dvd_mul_right ..)
def avA{a b c x y z:Int}(h1:a*y=b*x)(h2:a*z=c*x)(h3:b*z=c*y)
  (g1:Nat.gcd (Nat.gcd a.natAbs b.natAbs) c.natAbs=1)(g2:Nat.gcd (Nat.gcd x.natAbs y.natAbs) z.natAbs=1):
  (a=x/\b=y/\c=z)\/(a= -x/\b= -y/\c= -z):=by
 have n1:a.natAbs*y.natAbs=b.natAbs*x.natAbs:=by rw[<-jV,<-jV,h1]
 have n2:a.natAbs*z.natAbs=c.natAbs*x.natAbs:=by rw[<-jV,<-jV,h2]
 have n3:b.natAbs*z.natAbs=c.natAbs*y.natAbs:=by rw[<-jV,<-jV,h3]
 generalize ha:a.natAbs=A at*;generalize hb:b.natAbs=B at*;generalize hc:c.natAbs=C at*;generalize hx:x.natAbs=X at*;generalize hy:y.natAbs=Y at*;generalize hz:z.natAbs=Z at*;have gB:Nat.gcd (Nat.gcd B A) C=1:=by rw[jZ B A];exact g1
 have gC:Nat.gcd (Nat.gcd C A) B=1:=by rw[Nat.gcd_assoc,jZ];exact g1
 have gY:Nat.gcd (Nat.gcd Y X) Z=1:=by rw[jZ Y X];exact g2
 have gZ:Nat.gcd (Nat.gcd Z X) Y=1:=by rw[Nat.gcd_assoc,jZ];exact g2
 have e1:A=X:=Nat.dvd_antisymm (xI (x:=X) (y:=Y) (z:=Z) (by grind) (by grind) g1) (xI (x:=A) (y:=B) (z:=C) (by grind) (by grind) g2);have e2:B=Y:=Nat.dvd_antisymm (xI (x:=Y) (y:=X) (z:=Z) (by grind) (by grind) gB) (xI (x:=B) (y:=A) (z:=C) (by grind) (by grind) gY);have e3:C=Z:=Nat.dvd_antisymm (xI (x:=Z) (y:=X) (z:=Y) (by grind) (by grind) gC) (xI (x:=C) (y:=A) (z:=B) (by grind) (by grind) gZ);have s1:a=x\/a= -x:=by omega
 have s2:b=y\/b= -y:=by omega
 have s3:c=z\/c= -z:=by omega
 clear ha hb hc hx hy hz n1 n2 n3 g1 g2 gB gC gY gZ e1 e2 e3;have z1:= @tZ x y;have z2:= @tZ x z;have z3:= @tZ y z;rcases s1 with rfl|rfl<;>rcases s2 with rfl|rfl<;>rcases s3 with rfl|rfl<;>grind
def yg{l m:ab}(hl:l.ok)(hm:m.ok)(h: ∀t,l.value (m.at t)=0):l=m\/l=m.rev:=by
 have h0:=h 0;have h1:=h 1;rw[ke] at h0 h1;have hC:m.cutC l=0:=by grind
 have hK:m.cutK l=0:=by grind
 obtain⟨q,q1,q2⟩:=Bm hm.ne;have hn:=sG hm.ne;unfold ab.cutC at hC;rw[q2,jf] at hC;unfold ab.cutK at hK;simp only[ab.nor,ab.dir,aa.dot] at hK q1 hn hC;obtain⟨a,b,c⟩:=l;obtain⟨x,y,z⟩:=m;simp only at*;have e1:a*y=b*x:=by
  have:((a*y:Int):Rat)=((b*x:Int):Rat):=by rw[cR,cR];grind
  exact oQ.1 this
 have e2:a*z=c*x:=by
  have:((a*z:Int):Rat)=((c*x:Int):Rat):=by rw[cR,cR];grind
  exact oQ.1 this
 have e3:b*z=c*y:=by
  have:((b*z:Int):Rat)=((c*y:Int):Rat):=by rw[cR,cR];grind
  exact oQ.1 this
 rcases avA e1 e2 e3 hl.2 hm.2 with⟨rfl,rfl,rfl⟩|⟨rfl,rfl,rfl⟩
 .exact .inl J
 .exact .inr J
def ab.ok.rev{l:ab}(h:l.ok):l.rev.ok:=by
 obtain⟨h1,h2⟩:=h;refine⟨?_,?_⟩
 .simp only[ab.rev];omega
 .simp only[ab.rev,iX];exact h2
def S1(l:ab): ∀c:az,(∀s∈c,oH l s<=0/\s.l≠l)-> ¬0<oF l c
 |[],_=>by simp[oF]
 |s::c,h=>by
  have h':=dR.1 h;unfold oF;rw[if_neg h'.1.2];split
  .have:=h'.1.1;omega
  .exact S1 l c h'.2
def RK{c:az}{l:ab}(hc:bO c)(hl:l.ok)(hp:lI c l=none):
  (0<oF l c/\ ∀p,bm c p->0<l.value p)\/(¬0<oF l c/\ ∀p,bm c p->l.value p<0):=by
 have hoff:=fun p (h:bm c p)=>azs hl.ne hp h;by_cases hq: ∃q,bm c q/\0<l.value q
 .left
  obtain⟨q,hq,lq⟩:=hq;have hall: ∀p,bm c p->0<l.value p:=by
   intro p h;have:=hoff p h;by_cases h0:0<l.value p
   .exact h0
   .exfalso
    have hn:l.value p<0:=by grind
    have e1:l.value q/(l.value q-l.value p)*(l.value q-l.value p)=l.value q:=by grind
    generalize l.value q/(l.value q-l.value p)=e at*;have f0:0<=e:=(kg (k:=l.value q-l.value p) (by grind)).1 (by grind);have f1:e<=1:=by
     have:=(kg (s:=1-e) (k:=l.value q-l.value p) (by grind)).1 (by grind);grind
    exact hoff _ (hq.seg h f0 f1) (by rw[oe];grind)
  refine⟨?_,hall⟩
  cases c with
  |nil=>simp[lI,nG] at hp
  |cons s c=>
   obtain⟨p1,p2⟩:=hc.edge s aZ;have hi:=pI p1;have hr:=tj hc.ne hall ((p2 _).1 hi.has);unfold oF;by_cases h0:oH l s=0
   .rw[if_neg (by simpa using h0)]
    have hz:l.value (s.l.at s.v.sample)=0:=(lz _).1 h0;have hge: ∀t,s.v.has t->0<=l.value (s.l.at t):=fun t ht=>tj hc.ne hall ((p2 t).1 ht);obtain⟨⟨u1,m1,n1⟩,⟨u2,m2,n2⟩⟩:=H4 hi;have g1:=hge _ n1;have g2:=hge _ n2;rw[ke] at hz g1 g2;have hK:s.l.cutK l=0:=by
     rcases ge (s.l.cutK l) with h|h|h
     .exact h
     .exfalso
      have:=bH (a:=s.v.sample-u1) (b:=s.l.cutK l) (by grind) h;grind
     .exfalso
      have:=bH (a:=u2-s.v.sample) (b:= -s.l.cutK l) (by grind) (by grind);grind
    have hz2: ∀t,l.value (s.l.at t)=0:=fun t=>by rw[ke,hK];rw[hK] at hz;grind
    rcases yg hl (hc.ok s aZ) hz2 with h|h
    .rw[if_pos h.symm];decide
    .exfalso
     have:=hall q hq;rw[h,fq] at this;have:=hq s aZ;grind
   .rw[if_pos h0]
    have hz:l.value (s.l.at s.v.sample)≠0:=fun e=>h0 ((lz _).2 e);exact(lf _).2 (by grind)
 .right
  have hall: ∀p,bm c p->l.value p<0:=fun p h=>by
   have:=hoff p h;have: ¬0<l.value p:=fun h'=>hq ⟨p,h,h'⟩;grind
  refine⟨S1 l c fun s hs=>?_,hall⟩;obtain⟨p1,p2⟩:=hc.edge s hs;have hr:=tj (m:=l.rev) hc.ne (fun p h=>by rw[fq];have:=hall p h;grind) ((p2 _).1 (pI p1).has);rw[fq] at hr;constructor
  .have: ¬0<oH l s:=fun h=>by have:=(lf _).1 h;grind
   omega
  .rintro rfl
   obtain⟨p,hp⟩:=hc.ne;have:=hall p hp;have:=hp s hs;grind
def sF{c:az}{l:ab}(hc:bO c)(hl:l.ok):di c l=true↔ ∃p,bm c p/\0<l.value p:=by
 unfold di
 cases hp:lI c l with
 |some v=>exact⟨fun _=>(FS hl.ne hp).1,fun _=>J⟩
 |none=>
  simp only[wS,hp,Option.isSome_none,jT,if_false,decide_eq_true_iff];rcases RK hc hl hp with⟨h1,h2⟩|⟨h1,h2⟩
  .refine⟨fun _=>?_,fun _=>h1⟩
   obtain⟨p,hp⟩:=hc.ne;exact⟨p,hp,h2 p hp⟩
  .refine⟨fun h=>absurd h h1,?_⟩
   rintro ⟨p,hp,h⟩;have:=h2 p hp;grind
def jA{c:az}{l:ab}(hc:bO c)(hl:l.ok)(hb:di c l=true):bO (b8 c l)/\ ∀p,bm (b8 c l) p↔bm c p/\0<l.value p:=by
 unfold b8
 cases hp:lI c l with
 |some v=>exact XE hc hl hp
 |none=>
  refine⟨hc,fun p=>?_⟩;unfold di at hb;simp only[hp,wS,Option.isSome_none,jT,if_false,decide_eq_true_iff] at hb;rcases RK hc hl hp with⟨h1,h2⟩|⟨h1,h2⟩
  .exact⟨fun h=>⟨h,h2 p h⟩,fun h=>h.1⟩
  .exact absurd hb h1
def Sd{c:az}{l:ab}(hl:l.ok){p:aa}(hp:bm c p)(h0:l.value p=0):(∃q,bm c q/\0<l.value q)/\ ∃q,bm c q/\l.value q<0:=by
 have hn:=sG hl.ne;constructor
 .obtain⟨e,he,hm⟩:=hp.open l.nor
  refine⟨_,hm e (dQ he) fN,?_⟩;rw[gH,h0];have:=bH he hn;grind
 .obtain⟨e,he,hm⟩:=hp.open ⟨-l.nor.x, -l.nor.y⟩
  refine⟨_,hm e (dQ he) fN,?_⟩;rw[gH,h0];have:=bH he hn;simp only[aa.dot] at this⊢;grind
inductive aKs (c:az) (l:ab):Prop
 |left (h1:di c l.rev=false) (h: ∀p,bm c p->0<l.value p)
 |right (h1:di c l.rev=true) (h2:di c l=false) (h: ∀p,bm c p->l.value p<0)
 |both (h1:di c l.rev=true) (h2:di c l=true) (g1:bO (b8 c l)) (g2:bO (b8 c l.rev))
   (e1: ∀p,bm (b8 c l) p↔bm c p/\0<l.value p) (e2: ∀p,bm (b8 c l.rev) p↔bm c p/\l.value p<0)
def tu{c:az}{l:ab}(hc:bO c)(hl:l.ok):aKs c l:=by
 have hr:=sF hc hl.rev;have hi:=sF hc hl
 cases h1:di c l.rev with
 |false=>
  refine .left h1 fun p hp=>?_;have hn: ¬ ∃q,bm c q/\l.value q<0:=by
   rintro ⟨q,a,b⟩;have:=hr.2 ⟨q,a,by rw[fq];grind⟩;rw[h1] at this;exact absurd this (by decide)
  have n1: ¬l.value p<0:=fun h=>hn ⟨p,hp,h⟩;have n2:l.value p≠0:=fun h=>hn (Sd hl hp h).2;grind
 |true=>
  cases h2:di c l with
  |false=>
   refine .right h1 h2 fun p hp=>?_;have hn: ¬ ∃q,bm c q/\0<l.value q:=by
    intro h;have:=hi.2 h;rw[h2] at this;exact absurd this (by decide)
   have n1: ¬0<l.value p:=fun h=>hn ⟨p,hp,h⟩;have n2:l.value p≠0:=fun h=>hn (Sd hl hp h).1;grind
  |true=>
   obtain⟨g1,e1⟩:=jA hc hl h2;obtain⟨g2,e2⟩:=jA hc hl.rev h1;refine .both h1 h2 g1 g2 e1 fun p=>?_;rw[e2,fq];constructor<;>rintro ⟨a,b⟩<;>exact⟨a,by grind⟩
def Tr.restrict_A{l:ab}{e:az}(X Y:Tr)(h:di e l.rev=false):(Tr.node l X Y).restrict e=X.restrict e:=by
 rw[Tr.restrict,h];rfl
def Tr.restrict_B{l:ab}{e:az}(X Y:Tr)(h:di e l.rev=true)(h2:di e l=false):(Tr.node l X Y).restrict e=Y.restrict e:=by
 rw[Tr.restrict,h,h2];rfl
def Tr.restrict_C{l:ab}{e:az}(X Y:Tr)(h:di e l.rev=true)(h2:di e l=true):(Tr.node l X Y).restrict e=Tr.joinQ l (X.restrict (b8 e l)) (Y.restrict (b8 e l.rev)):=by
 rw[Tr.restrict,h,h2];rfl
def qP:List ab->az->Option az
 |[],c=>some c
 |l::t,c=>if di c l then qP t (b8 c l) else none
def Mr: ∀{ls:List ab} {c e:az},bO c->(∀l∈ls,l.ok)->qP ls c=some e->bO e/\ ∀p,bm e p↔bm c p/\ ∀l∈ls,0<l.value p
 |[],c,e,hc,_,h=>by
  obtain rfl:c=e:=by simpa[qP] using h
  exact⟨hc,fun p=>⟨fun h=>⟨h,fun l hl=>absurd hl (by simp)⟩,fun h=>h.1⟩⟩
 |l::t,c,e,hc,hl,h=>by
  have hl':=dR.1 hl;rw[qP] at h;split at h
  .rename_i hb
   obtain⟨g1,g2⟩:=jA hc hl'.1 hb;obtain⟨k1,k2⟩:=Mr g1 hl'.2 h;refine⟨k1,fun p=>?_⟩;rw[k2,g2,dR,and_assoc]
  .exact absurd h (by simp)
def Km: ∀{ls:List ab} {c:az},bO c->(∀l∈ls,l.ok)->(∃p,bm c p/\ ∀l∈ls,0<l.value p)-> ∃e,qP ls c=some e
 |[],c,_,_,_=>⟨c,J⟩
 |l::t,c,hc,hl,⟨p,h1,h2⟩=>by
  have hl':=dR.1 hl;have h2':=dR.1 h2;have hb:=(sF hc hl'.1).2 ⟨p,h1,h2'.1⟩;obtain⟨g1,g2⟩:=jA hc hl'.1 hb;rw[qP,if_pos hb];exact Km g1 hl'.2 ⟨p,(g2 p).2 ⟨h1,h2'.1⟩,h2'.2⟩
def Ng{c:az}(hc:bO c){s:aP}(hs:s∈c){m:ab}(hm:m.ok)(h: ∀p,bm c p->0<m.value p)(hz:m.value (s.l.at s.v.sample)=0):m=s.l:=by
 obtain⟨p1,p2⟩:=hc.edge s hs;have hi:=pI p1;have hge: ∀t,s.v.has t->0<=m.value (s.l.at t):=fun t ht=>tj hc.ne h ((p2 t).1 ht);obtain⟨⟨u1,m1,n1⟩,⟨u2,m2,n2⟩⟩:=H4 hi;have g1:=hge _ n1;have g2:=hge _ n2;rw[ke] at hz g1 g2;have hK:s.l.cutK m=0:=by
  rcases ge (s.l.cutK m) with h|h|h
  .exact h
  .exfalso
   have:=bH (a:=s.v.sample-u1) (b:=s.l.cutK m) (by grind) h;grind
  .exfalso
   have:=bH (a:=u2-s.v.sample) (b:= -s.l.cutK m) (by grind) (by grind);grind
 have hz2: ∀t,m.value (s.l.at t)=0:=fun t=>by rw[ke,hK];rw[hK] at hz;grind
 rcases yg hm (hc.ok s hs) hz2 with h'|h'
 .exact h'
 .exfalso
  obtain⟨q,hq⟩:=hc.ne;have:=h q hq;rw[h',fq] at this;have:=hq s hs;grind
def fm(l:ab):List ab->aj->Option aj
 |[],v=>some v
 |m::t,v=>if m=l then fm l t v else if l.cutB v m then fm l t (l.cutV v m) else none
def cI(c:List ab)(p:aa):Prop:= ∀m∈c,0<m.value p
def AI(l:ab): ∀(c:List ab) (v w:aj),v.Pos->fm l c v=some w->
  w.Pos/\(∀t,w.ins t↔v.ins t/\ ∀m∈c,m≠l->0<m.value (l.at t))
 |[],v,w,hv,h=>by
  obtain rfl:v=w:=by simpa[fm] using h
  exact⟨hv,fun t=>⟨fun h=>⟨h,fun s hs=>absurd hs (by simp)⟩,fun h=>h.1⟩⟩
 |m::c,v,w,hv,h=>by
  rw[fm] at h;split at h
  .rename_i hm
   obtain⟨h1,h2⟩:=AI l c _ w hv h;refine⟨h1,fun t=>?_⟩;rw[h2,dR];exact⟨fun h=>⟨h.1,fun h'=>absurd hm h',h.2⟩,fun h=>⟨h.1,h.2.2⟩⟩
  .rename_i hm
   split at h
   .rename_i hb
    obtain⟨h1,h2⟩:=AI l c _ w (BD hv hb) h;refine⟨h1,fun t=>?_⟩;rw[h2,NW hb,dR,and_assoc];exact⟨fun h=>⟨h.1,fun _=>h.2.1,h.2.2⟩,fun h=>⟨h.1,h.2.1 hm,h.2.2⟩⟩
   .exact absurd h (by simp)
def Ft(l:ab): ∀(c:List ab) (v:aj),v.Pos->fm l c v=none-> ∀t,v.has t-> ¬ ∀m∈c,m≠l->0<m.value (l.at t)
 |[],v,hv,h=>by simp[fm] at h
 |m::c,v,hv,h=>by
  intro t ht hd;have hd':=dR.1 hd;rw[fm] at h;split at h
  .exact Ft l c _ hv h t ht hd'.2
  .rename_i hm
   split at h
   .rename_i hb
    exact Ft l c _ (BD hv hb) h t ((BY hb t).2 ⟨ht,dQ (hd'.1 hm)⟩) hd'.2
   .rename_i hb
    have:=I1 hv (by simpa using hb) ht;have:=hd'.1 hm;grind
def i7(c:List ab):Bool:=c.isEmpty||c.any (fun l=>(fm l c aj.all).isSome)
def KB: ∀{ls:List ab} {c e:az},qP ls c=some e-> ∀s∈e,s.l∈ls\/ ∃s'∈c,s'.l=s.l
 |[],c,e,h,s,hs=>by
  obtain rfl:c=e:=by simpa[qP] using h
  exact .inr ⟨s,hs,J⟩
 |l::t,c,e,h,s,hs=>by
  rw[qP] at h;split at h
  .rcases KB h s hs with h1|⟨s',h1,h2⟩
   .exact .inl (aK _ h1)
   .unfold b8 at h1
    split at h1
    .rcases qr.1 h1 with rfl|h1
     .exact .inl (by rw[<-h2];exact aZ)
     .obtain⟨s1,m1,_,rfl⟩:=rC.1 h1
      exact .inr ⟨s1,m1,h2⟩
    .exact .inr ⟨s',h1,h2⟩
  .exact absurd h (by simp)
def E3{c:List ab}(hok: ∀l∈c,l.ok)(hne: ∃p,cI c p): ∃e,qP c []=some e/\bO e/\(∀p,bm e p↔cI c p)/\ ∀s∈e,s.l∈c/\(fm s.l c aj.all).isSome=true:=by
 obtain⟨p,hp⟩:=hne;obtain⟨e,he⟩:=Km bO.nil hok ⟨p,fun s hs=>absurd hs (by simp),hp⟩;obtain⟨g1,g2⟩:=Mr bO.nil hok he;have g3: ∀p,bm e p↔cI c p:=fun p=>by
  rw[g2];exact⟨fun h=>h.2,fun h=>⟨fun s hs=>absurd hs (by simp),h⟩⟩
 refine⟨e,he,g1,g3,fun s hs=>?_⟩;have hm:s.l∈c:=by
  rcases KB he s hs with h|⟨_,h,_⟩
  .exact h
  .exact absurd h (by simp)
 refine⟨hm,?_⟩
 cases hp:fm s.l c aj.all with
 |some w=>rfl
 |none=>
  exfalso;obtain⟨p1,p2⟩:=g1.edge s hs;have hC:=(p2 s.v.sample).1 (pI p1).has;refine Ft s.l c _ wF hp s.v.sample (E' _) fun m hmc hne=>?_;have hall: ∀p,bm e p->0<m.value p:=fun p hp=>(g3 p).1 hp m hmc;have h0:=tj g1.ne hall hC;have h1:m.value (s.l.at s.v.sample)≠0:=fun hz=>hne (Ng g1 hs (hok m hmc) hall hz);grind
def xN{c:List ab}(hok: ∀l∈c,l.ok):i7 c=true↔ ∃p,cI c p:=by
 unfold i7;rw[iV,List.isEmpty_iff,iS];constructor
 .rintro (rfl|⟨l,hl,h⟩)
  .exact⟨⟨0,0⟩,fun m hm=>absurd hm (by simp)⟩
  .obtain⟨w,hw⟩:=qL.1 h
   obtain⟨w1,w2⟩:=AI l c _ w wF hw;have hi:=((w2 w.sample).1 (pI w1)).2;have h0:=mz (hok l hl).ne w.sample;have hd:bm ((c.filter (fun m=>decide (m≠l))).map (fun m=>(⟨m,aj.all⟩:aP))) (l.at w.sample):=by
    intro s hs;obtain⟨m,hm,rfl⟩:=bQ.1 hs;rw[jL,decide_eq_true_iff] at hm;exact hi m hm.1 hm.2
   obtain⟨e,he,ho⟩:=hd.open l.nor;refine⟨bP (l.at w.sample) l.nor e,fun m hm=>?_⟩;by_cases hml:m=l
   .subst hml
    rw[gH,h0];have:=bH he (sG (hok m hl).ne);grind
   .exact ho e (dQ he) fN ⟨m,aj.all⟩ (bQ.2 ⟨m,jL.2 ⟨hm,by simpa using hml⟩,J⟩)
 .intro hne
  obtain⟨e,h1,h2,h3,h4⟩:=E3 hok hne
  cases c with
  |nil=>exact .inl J
  |cons l c=>
   right
   cases e with
   |nil=>
    exfalso;have:=(h3 (l.at 0)).1 (fun s hs=>absurd hs (by simp)) l aZ;rw[mz (hok l aZ).ne] at this;exact absurd this (by decide)
   |cons s e=>
    obtain⟨a,b⟩:=h4 s aZ;exact⟨s.l,a,b⟩
def n8(out:List ab)(l:ab):Nat:=(out.takeWhile (fun x=>decide (co x.dir l.dir<0))).length
def pP(out:List ab)(l:ab):List ab:=if out[n8 out l]? =some l then out else out.take (n8 out l)++l::out.drop (n8 out l)
def nF(c:List ab):List ab->List ab->List ab
 |[],out=>out
 |l::t,out=>nF c t (if(fm l c aj.all).isSome then pP out l else out)
def fj(c:List ab):List ab:=nF c c []
def Gf{out:List ab}{l m:ab}:m∈pP out l↔m=l\/m∈out:=by
 unfold pP;split
 .rename_i h
  exact⟨fun h=> .inr h,fun h'=>h'.elim (fun e=>e▸aV h) id⟩
 .generalize n8 out l=n
  have h:=kZ n out;rw[bK,aT];constructor
  .rintro (h1|h1|h1)
   .exact .inr (dJ h1)
   .exact .inl h1
   .exact .inr (gL h1)
  .rintro (h1|h1)
   .exact .inr (.inl h1)
   .rw[<-h,bK] at h1
    rcases h1 with h1|h1
    .exact .inl h1
    .exact .inr (.inr h1)
def Q8{c:List ab}{m:ab}: ∀{t out:List ab},m∈nF c t out↔m∈out\/m∈t/\(fm m c aj.all).isSome=true
 |[],out=>by simp[nF]
 |l::t,out=>by
  rw[nF,Q8];split
  .rename_i h
   rw[Gf,aT];constructor
   .rintro ((rfl|h1)|⟨h1,h2⟩)
    .exact .inr ⟨.inl J,h⟩
    .exact .inl h1
    .exact .inr ⟨.inr h1,h2⟩
   .rintro (h1|⟨rfl|h1,h2⟩)
    .exact .inl (.inr h1)
    .exact .inl (.inl J)
    .exact .inr ⟨h1,h2⟩
  .rename_i h
   rw[aT];constructor
   .rintro (h1|⟨h1,h2⟩)
    .exact .inl h1
    .exact .inr ⟨.inr h1,h2⟩
   .rintro (h1|⟨rfl|h1,h2⟩)
    .exact .inl h1
    .exact absurd h2 h
    .exact .inr ⟨h1,h2⟩
def oD{c:List ab}{m:ab}:m∈fj c↔m∈c/\(fm m c aj.all).isSome=true:=by
 unfold fj;rw[Q8];simp
def z6{c:List ab}(hok: ∀l∈c,l.ok)(hne: ∃p,cI c p)(p:aa):cI (fj c) p↔cI c p:=by
 constructor
 .intro h
  obtain⟨e,h1,h2,h3,h4⟩:=E3 hok hne;exact(h3 p).1 fun s hs=>h s.l (oD.2 (h4 s hs))
 .intro h m hm;exact h m (oD.1 hm).1
def og(c:List ab)(l:ab):Int:=if i7 (c++[l])&&i7 (c++[l.rev]) then 0 else if i7 (c++[l]) then 1 else-1
def Tr.restrictL:Tr->List ab->Tr
 | .leaf b,_=> .leaf b
 | .node l x y,c=>if og c l=1 then x.restrictL c else if og c l= -1 then y.restrictL c else joinQ l (x.restrictL (fj (c++[l]))) (y.restrictL (fj (c++[l.rev])))
def jB{c:List ab}{l:ab}{p:aa}:cI (c++[l]) p↔cI c p/\0<l.value p:=by
 unfold cI;rw[rL];simp
def iO{c:List ab}{l:ab}(hok: ∀m∈c,m.ok)(hl:l.ok): ∀m∈c++[l],m.ok:=by
 rw[rL];exact⟨hok,by simpa using hl⟩
def Tr.restrictL_eq: ∀(t:Tr) (c:List ab) (d:az),t.all ab.ok->(∀l∈c,l.ok)->bO d->(∀p,bm d p↔cI c p)->t.restrictL c=t.restrict d
 | .leaf b,c,d,_,_,_,_=>rfl
 | .node l x y,c,d,h,hc,hd,he=>by
  obtain⟨hl,hx,hy⟩:=h;have i1:=xN (iO hc hl);have i2:=xN (iO hc hl.rev);obtain⟨p0,hp0⟩:=hd.ne;rcases tu hd hl with⟨a1,a⟩|⟨a1,a2,a⟩|⟨a1,a2,ag1,ag2,ae1,ae2⟩
  .have b1:i7 (c++[l])=true:=i1.2 ⟨p0,jB.2 ⟨(he p0).1 hp0,a p0 hp0⟩⟩
   have b2:i7 (c++[l.rev])=false:=by
    rw[<-mJ,i2];rintro ⟨p,hp⟩;have hp:=jB.1 hp;have:=a p ((he p).2 hp.1);rw[fq] at hp;grind
   rw[Tr.restrict_A _ _ a1,Tr.restrictL,og,b1,b2];exact x.restrictL_eq c d hx hc hd he
  .have b2:i7 (c++[l.rev])=true:=i2.2 ⟨p0,jB.2 ⟨(he p0).1 hp0,by rw[fq];have:=a p0 hp0;grind⟩⟩
   have b1:i7 (c++[l])=false:=by
    rw[<-mJ,i1];rintro ⟨p,hp⟩;have hp:=jB.1 hp;have:=a p ((he p).2 hp.1);grind
   rw[Tr.restrict_B _ _ a1 a2,Tr.restrictL,og,b1,b2];exact y.restrictL_eq c d hy hc hd he
  .have n1: ∃p,cI (c++[l]) p:=by
    obtain⟨p,hp⟩:=ag1.ne;exact⟨p,jB.2 ⟨(he p).1 ((ae1 p).1 hp).1,((ae1 p).1 hp).2⟩⟩
   have n2: ∃p,cI (c++[l.rev]) p:=by
    obtain⟨p,hp⟩:=ag2.ne;exact⟨p,jB.2 ⟨(he p).1 ((ae2 p).1 hp).1,by rw[fq];have:=((ae2 p).1 hp).2;grind⟩⟩
   rw[Tr.restrict_C _ _ a1 a2,Tr.restrictL,og,i1.2 n1,i2.2 n2];have k1:=x.restrictL_eq (fj (c++[l])) (b8 d l) hx (fun m hm=>iO hc hl m (oD.1 hm).1) ag1 fun p=>by
    rw[z6 (iO hc hl) n1,ae1,jB,he]
   have k2:=y.restrictL_eq (fj (c++[l.rev])) (b8 d l.rev) hy (fun m hm=>iO hc hl.rev m (oD.1 hm).1) ag2 fun p=>by
    rw[z6 (iO hc hl.rev) n2,ae2,jB,he,fq];constructor<;>rintro ⟨a,b⟩<;>exact⟨a,by grind⟩
   rw[k1,k2];rfl
end Go.Sx
end
section
namespace Go.Sx
open Go Go.Proofs Tryz
variable {GB:Gh}
structure CE where
 lo:RV
 hi:RV
 nl:Bool
 nh:Bool
def CE.v(z:CE):Value:= .agg ⟨[.int .i64 z.lo.n, .int .i64 z.lo.d, .pointer z.lo.p, .int .i64 z.hi.n, .int .i64 z.hi.d, .pointer z.hi.p, .bool z.nl, .bool z.nh]⟩
section
variable {P:Program} {C:aD} {n:Nat} {fr:Fr} {own own' own1:List aw} {G:Gh} {Φ:Act->World->Prop}
variable {dst:Option Nat} {t t' ty':TypeId} {pos:String} {af:Array Edge} {gd:Option (Nat×Bool)} {x y:Operand} {e s by_:Nat}
end
structure aK4 (k:Nat) (G:Gh) (z:CE) (v:aj):Prop where
 lo:wC k G z.lo v.lo
 hi:wC k G z.hi v.hi
 nl:z.nl=v.nl
 nh:z.nh=v.nh
def Rd:List Int->Int
 |[]=>0
 |x::t=>if x≠0 then x else Rd t
def aLv(l m:ab):Int:=Rd [bg l.a m.a,bg l.b m.b,bg l.c m.c]
structure Aw where
 l:LV
 v:CE
def Aw.val(z:Aw):Value:= .agg ⟨[.int .i64 z.l.a.n, .int .i64 z.l.a.d, .pointer z.l.a.p, .int .i64 z.l.b.n, .int .i64 z.l.b.d, .pointer z.l.b.p, .int .i64 z.l.c.n, .int .i64 z.l.c.d, .pointer z.l.c.p, .int .i64 z.v.lo.n, .int .i64 z.v.lo.d, .pointer z.v.lo.p, .int .i64 z.v.hi.n, .int .i64 z.v.hi.d, .pointer z.v.hi.p, .bool z.v.nl, .bool z.v.nh]⟩
structure YL (k:Nat) (G:Gh) (z:Aw) (f:aP):Prop where
 l:FY k G z.l f.l
 v:aK4 (25*k+6) G z.v f.v
inductive tH {α β:Type} (R:α->β->Prop):List α->List β->Prop
 |nil:tH R [] []
 |cons {a b us bs} (h:R a b) (t:tH R us bs):tH R (a::us) (b::bs)
structure IsC (k:Nat) (G:Gh) (x:SV) (c:az):Prop where
 ex: ∃fs:List Aw,fe G 17 x (fs.map Aw.val)/\tH (YL k G) fs c

section
variable {P:Program} {C:aD} {n:Nat} {fr:Fr} {own own':List aw} {G:Gh} {Φ:Act->World->Prop}
variable {dst:Option Nat} {t t' ty':TypeId} {pos:String} {af:Array Edge} {gd:Option (Nat×Bool)} {x y:Operand} {e s by_:Nat}
def UI{o1 o2:aw}{rest:List aw}(h:o1.b≠o2.b->St C n fr (o1::o2::rest) G Φ):St C n fr (o1::o2::rest) G Φ:=
 fun a w rl=>h ((bR.1 rl.h.nd).1 _ aZ) a w rl
def CC[hT:cp P t e s by_]{k:IntKind}{b off len cap:Nat}{l:Int}(hx:aA fr x=some (.slice (some ⟨b,off,none⟩) len cap))(hy:aA fr y=some (.int k l))(h0:0<=l:=by omega)(h1:l<=len:=by omega)(h2:l<cap:=by omega):
  Yd P C fr own G ⟨dst, .slice t x (some y) none none,ty',pos,af,gd⟩ (.slice (some ⟨b,off+l.toNat*s,none⟩) (len-l.toNat) (cap-l.toNat)):=by
 have h:=Ca (P:=P) (C:=C) (own:=own) (G:=G) (t:=t) (dst:=dst) (ty':=ty') (pos:=pos) (af:=af) (gd:=gd) (by_:=by_) hx hy h0 h1;unfold m8 at h;rw[if_neg (by omega)] at h;simpa[pB] using h
end

section
variable {P:Program} {C:aD} {n:Nat} {fr:Fr} {own own':List aw} {G:Gh} {Φ:Act->World->Prop}
variable {dst:Option Nat} {t t' ty':TypeId} {pos:String} {af:Array Edge} {gd:Option (Nat×Bool)} {x y:Operand} {e s by_:Nat}
end

def Hg(k:Nat)(G:Gh):Tr->Option Addr->Prop
 | .leaf b,p=> ∃n,p=some ⟨n,0,none⟩/\G n=some [.int .i64 0, .int .i64 0, .pointer none, .int .i64 0, .int .i64 0, .pointer none, .int .i64 0, .int .i64 0, .pointer none, .pointer none, .pointer none, .bool b]
 | .node l x y,p=> ∃(n:Nat) (z:LV) (q r:Option Addr),p=some ⟨n,0,none⟩/\G n=some [.int .i64 z.a.n, .int .i64 z.a.d, .pointer z.a.p, .int .i64 z.b.n, .int .i64 z.b.d, .pointer z.b.p, .int .i64 z.c.n, .int .i64 z.c.d, .pointer z.c.p, .pointer q, .pointer r, .bool false]/\FY k G z l/\Hg k G x q/\Hg k G y r
structure ND where
 a:IV
 b:IV
 c:IV
 l:Int
 r:Int
def ND.val(z:ND):Value:= .agg ⟨[.bool z.a.neg, .slice z.a.a.a z.a.a.n z.a.a.c, .bool z.b.neg, .slice z.b.a.a z.b.a.n z.b.a.c, .bool z.c.neg, .slice z.c.a.a z.c.a.n z.c.a.c, .int .i64 z.l, .int .i64 z.r]⟩
structure aLc (k:Nat) (G:Gh) (z:ND) (n:NQ):Prop where
 a:wl k G z.a n.l.a
 b:wl k G z.b n.l.b
 c:wl k G z.c n.l.c
 l:z.l=n.a
 r:z.r=n.b
structure aLX (k:Nat) (G:Gh) (x:SV) (ns:List NQ):Prop where
 ex: ∃zs:List ND,fe G 8 x (zs.map ND.val)/\tH (aLc k G) zs ns
def aKQ(n i:Nat):List Value:=(List.range n).map fun j=> .bool (decide (j<i))


structure A8 where
 x:SV
 p:Option Addr
def A8.val(z:A8):Value:= .agg ⟨[.slice z.x.a z.x.n z.x.c, .pointer z.p]⟩
structure Tp (k:Nat) (G:Gh) (z:A8) (b:Bool×az):Prop where
 c:IsC k G z.x b.2
 t:Hg k G (.leaf b.1) z.p
structure aL0 (k:Nat) (G:Gh) (w:SV) (ps:List (Bool×az)):Prop where
 ex: ∃zs:List A8,fe G 2 w (zs.map A8.val)/\tH (Tp k G) zs ps
structure LI where
 a:IV
 b:IV
 c:IV
def LI.val(z:LI):Value:= .agg ⟨[.bool z.a.neg, .slice z.a.a.a z.a.a.n z.a.a.c, .bool z.b.neg, .slice z.b.a.a z.b.a.n z.b.a.c, .bool z.c.neg, .slice z.c.a.a z.c.a.n z.c.a.c]⟩
structure aKX (k:Nat) (G:Gh) (z:LI) (l:ab):Prop where
 a:wl k G z.a l.a
 b:wl k G z.b l.b
 c:wl k G z.c l.c
structure aKT (k:Nat) (G:Gh) (x:SV) (ls:List ab):Prop where
 ex: ∃zs:List LI,fe G 6 x (zs.map LI.val)/\tH (aKX k G) zs ls
structure aKU (k:Nat) (G:Gh) (x:SV) (ls:List ab):Prop where
 ex: ∃zs:List LV,fe G 9 x (zs.map LV.v)/\tH (FY k G) zs ls
def vT{a b:Int}(h:a=b):eI a=eI b:=by rw[h]
def E5(z:Int):eQ (z:Rat)= .ag [.v (.bool (decide (z<0))),dN z.natAbs, .sl []]:=by unfold eQ;rw[rQ,rZ];rfl
def DH{a:Rat}(h:a.den=1):((a.num:Int):Rat)=a:=Rat.ext (rQ _) (by rw[rZ,h])
def ZA{a b:Rat}(ha:a.den=1)(hb:b.den=1):a+b=((a.num+b.num:Int):Rat):=by
 rw[pY,DH ha,DH hb]
def YT{a b:Rat}(ha:a.den=1)(hb:b.den=1):a*b=((a.num*b.num:Int):Rat):=by
 rw[cR,DH ha,DH hb]
def ye(n:Nat)(h:0<n):(if n=1 then [] else(dg n).map dU).length=0↔n=1:=by
 by_cases q:n=1
 .simp[q]
 .rw[if_neg q,aJ,vJ];omega
def S9{n:Nat}(h:n≠1):dD n=dN n:=by unfold dD;rw[if_neg h];rfl
def Ip{g:Nat}:(gO g 1=0)↔g=1:=by
 unfold gO;constructor
 .intro h;split at h
  .exact absurd h (by decide)
  .split at h
   .assumption
   .exact absurd h (by decide)
 .rintro rfl;rfl
def Lp{x:Int}{d:Nat}(hd:0<d):zv (decide (x<0)) (x.natAbs/Nat.gcd x.natAbs d)=(mkRat x d).num:=by
 rw[Rat.num_mkRat,if_neg (by omega),jZ];have hg:0<Nat.gcd d x.natAbs:=mS _ hd;obtain⟨c,hc⟩:Nat.gcd d x.natAbs∣x.natAbs:=oV _ _;generalize Nat.gcd d x.natAbs=g at*;rw[hc,Nat.mul_div_cancel_left _ hg];unfold zv;by_cases q:x<0
 .rw[if_pos (by simpa using q),show x=(g:Int)*(-(c:Int)) by rw[sM,<-jJ];omega,Int.mul_ediv_cancel_left _ (by omega)]
 .rw[if_neg (by simpa using q),show x=(g:Int)*(c:Int) by rw[<-jJ];omega,Int.mul_ediv_cancel_left _ (by omega)]
def L7{x:Int}{d:Nat}(hd:0<d):d/Nat.gcd x.natAbs d=(mkRat x d).den:=by
 rw[Rat.den_mkRat,if_neg (by omega),jZ]
def aFr{x:Int}{d:Nat}(hd:0<d)(h:Nat.gcd x.natAbs d=1):(mkRat x d).num=x/\(mkRat x d).den=d:=by
 rw[<-Lp hd,<-L7 hd,h,tN,tN];exact⟨ml x,J⟩
instance BI.zv (neg:Bool) (m i:Nat) [h:BN m i]:BI (zv neg m) i:=⟨by rw[rx];exact h.h⟩
section
variable {GB:Gh} {C:aD} {n:Nat} {Q0:Exit->Act->World->Prop} {fr fr':aB} {own own':aF} {cf cf':Cf} {vc:List Prop}
def Qw(fr:aB)(cf:Cf):Option Int:=match cg fr cf with
 |some ⟨_, .convert t t' x,_,_,_,_⟩=>match dq tt t,dq tt t' with
  |some ⟨.int .i64,_,_,_⟩,some ⟨.int .u64,_,_,_⟩=>match aH (bz fr cf) x with
   |some (.d (.v (.int .i64 p)))=>some p
   |_=>none
  |_,_=>none
 |_=>none
def XY[fu:Fu]{p:Int}(q:Int)(h:Qw fr cf=some p)(e:p%18446744073709551616=q)(hgo:dh tt n fu.n fr own cf (.d (.v (.int .u64 q))) [] []=⟨vc,fr',own',cf'⟩)(k:ao prog GB C n Q0 fr' own' cf')
  (hv:ah vc:=by first|exact trivial|(simp only[ah];omega)):ao prog GB C n Q0 fr own cf:=by
 unfold Qw at h;split at h<;>try (cases h;done)
 rename_i hh;split at h<;>try (cases h;done)
 rename_i hT hT';split at h<;>cases h;rename_i hx;have:=yn (eh _ _ hT) J;have:=yn (eh _ _ hT') J;refine us hh (.x1 hx fun ρ G ov a w y _ r h1 h2=>?_) hgo hv k;rw[de] at h2;subst h2;refine⟨_,de.2 J,?_⟩;rw[<-e,<-n7];exact D2 h1
def Om(fr:aB)(cf:Cf):Option Int:=match cg fr cf with
 |some ⟨_, .unOp .neg _ x,_,_,_,_⟩=>match aH (bz fr cf) x with
  |some (.d (.v (.int .u64 p)))=>some p
  |_=>none
 |_=>none
def Va[fu:Fu]{p:Int}(q:Int)(h:Om fr cf=some p)(e:(0-p)%18446744073709551616=q)(hgo:dh tt n fu.n fr own cf (.d (.v (.int .u64 q))) [] []=⟨vc,fr',own',cf'⟩)(k:ao prog GB C n Q0 fr' own' cf')
  (hv:autoParam (ah vc) XY._auto_1):ao prog GB C n Q0 fr own cf:=by
 unfold Om at h;split at h<;>try (cases h;done)
 rename_i hh;split at h<;>cases h;rename_i hx;refine us hh (.x1 hx fun ρ G ov a w y _ r h1 h2=>?_) hgo hv k;rw[de] at h2;subst h2;refine⟨_,de.2 J,?_⟩;rw[<-e,<-n7];exact F5 h1
end
def Ry{n:Int}(h0: -4611686018427387904<=n:=by omega)(h1:n<=4611686018427387904:=by omega):PF GB prog 103 [.v (.int .i64 n)] (eI n):=by
 refine fn func103 J J ntmps103 J J (fun C=>?_);refine br (fu1:=⟨3⟩) (fu2:=⟨6⟩) J J J (fun hc4=>?_) (fun hc4=>?_)
 .
  refine XY (fu:=⟨0⟩) (18446744073709551616+n) J (by omega) J<|Va (n.natAbs:Nat) J (by omega) J<|cl J (ut (u:=n.natAbs)) J<|?_;refine cl J kC J<|?_;exact rz J (vT (by unfold zv;rw[if_pos J];omega))
 .
  refine ak 11 (.d (.v (.int .u64 (n.natAbs:Nat)))) J (by show FX.d (.v (.int _ _))= .d (.v (.int _ _));congr 3;omega) ?_;refine gx J<|cl J (ut (u:=n.natAbs)) J<|cl J kC J<|?_;exact rz J (vT (by unfold zv;rw[if_neg (by decide)];omega))
def Ep{z:Int}:PF GB prog 166 [eI z] (vI z.sign):=by
 have hl:=fp (dg z.natAbs);have hz:= @vJ z.natAbs;refine fn func166 J J ntmps166 J J (fun C=>?_);refine br J J J (fun hc6=>?_) (fun hc6=>?_)
 .
  exact rz J (by show DV.v (.int _ 0)=DV.v (.int _ _);rw[show z=0 by omega];rfl)
 .
  refine bd J J J (fun hc8=>?_) (fun hc8=>?_)
  .
   exact rz J (by show DV.v (.int _ (-1))=DV.v (.int _ _);rw[eJ (by omega)])
  .
   exact rz J (by show DV.v (.int _ 1)=DV.v (.int _ _);rw[dS (by omega)])
def zj{z:Int}:PF GB prog 93 [eI z] (eI (-z)):=by
 refine fn func93 J J ntmps93 J J (fun C=>?_);refine cl J kC J<|?_;exact rz J (vT (aFp z))
def azS{a b:Int}(h:decide (a<0)=decide (b<0)):zv (decide (a<0)) (a.natAbs+b.natAbs)=a+b:=by
 unfold zv;have h':a<0↔b<0:=by simpa using h
 by_cases q:a<0
 .have:=h'.1 q
  simp[q];omega
 .have: ¬b<0:=fun w=>q (h'.2 w)
  simp[q];omega
def aCd{a b:Int}(h: ¬decide (a<0)=decide (b<0))(k:a.natAbs<b.natAbs):zv (decide (b<0)) (b.natAbs-a.natAbs)=a+b:=by
 unfold zv;have h': ¬(a<0↔b<0):=by simpa using h
 by_cases q:b<0
 .have: ¬a<0:=fun w=>h' ⟨fun _=>q,fun _=>w⟩
  simp[q];omega
 .have:a<0:=Int.not_le.1 fun w=>h' ⟨fun e=>by omega,fun e=>absurd e q⟩
  simp[q];omega
def aEC{a b:Int}(h: ¬decide (a<0)=decide (b<0))(k:b.natAbs<=a.natAbs):zv (decide (a<0)) (a.natAbs-b.natAbs)=a+b:=by
 unfold zv;have h': ¬(a<0↔b<0):=by simpa using h
 by_cases q:a<0
 .have: ¬b<0:=fun w=>h' ⟨fun _=>w,fun _=>q⟩
  simp[q];omega
 .have:b<0:=Int.not_le.1 fun w=>h' ⟨fun e=>absurd e q,fun e=>by omega⟩
  simp[q];omega
def Cq{a b:Int}{i j:Nat}[ha:BI a i][hb:BI b j](hi:i<=400000000:=by decide)(hj:j<=400000000:=by decide):PF GB prog 220 [eI a,eI b] (eI (a+b)):=by
 have hba:=lm ha.h;have hbb:=lm hb.h;refine fn (fu:=⟨15⟩) func220 J J ntmps220 J J (fun C=>?_);refine ak 9 (.d (.v (.bool (decide (decide (a<0)=decide (b<0)))))) J (by congr 2) ?_;refine gx J<|?_;refine bd J J J (fun hc9=>?_) (fun hc9=>?_)
 .
  refine cl J (XG (by omega) (by omega)) J<|cl J kC J<|?_;exact rz J (vT (azS hc9))
 .
  refine cl J (Au) J<|?_;refine br J J J (fun hc23=>?_) (fun hc23=>?_)
  .
   refine cl J (Fz (by have:=xA.1 hc23;omega) (by omega)) J<|cl J kC J<|?_;exact rz J (vT (aCd hc9 (xA.1 hc23)))
  .
   refine cl J (Fz (sV fun q=>hc23 (xA.2 q)) (by omega)) J<|cl J kC J<|?_;exact rz J (vT (aEC hc9 (sV fun q=>hc23 (xA.2 q))))
def vx{a b:Int}{i j:Nat}[ha:BI a i][hb:BI b j](hi:i<=400000000:=by decide)(hj:j<=400000000:=by decide):PF GB prog 218 [eI a,eI b] (eI (a*b)):=by
 refine fn func218 J J ntmps218 J J (fun C=>?_);refine cl J (se (by omega) (by omega)) J<|cl J kC J<|?_;exact rz J (vT (aBU a b))
def GM{a b:Int}{i j:Nat}[ha:BI a i][hb:BI b j](hi:i<=400000000:=by decide)(hj:j<=400000000:=by decide):PF GB prog 207 [eI a,eI b] (vI (a-b).sign):=by
 refine fn func207 J J ntmps207 J J (fun C=>?_);refine cl J zj J<|cl J (Cq (by omega) (by omega)) J<|cl J Ep J<|?_;exact rz J (by rw[Int.sub_eq_add_neg];rfl)
def kw{q:Rat}:PF GB prog 52 [eQ q] (dN q.den):=by
 refine fn func52 J J ntmps52 J J (fun C=>?_);refine br J J J (fun hc6=>?_) (fun hc6=>?_)
 .
  refine cl J E9 J<|?_;exact rz J (by rw[(ye q.den (mO q)).1 (by omega)];rfl)
 .
  exact rz J (by exact S9 (fun e=>hc6 (by exact congrArg Int.ofNat ((ye q.den (mO q)).2 e))))
def N5{n k:Nat}[h:BN n k](hk:k<=500000000:=by omega):(dg n).length<=100000000:=by have:=lm h.h;omega
def xp{x:Int}{d i j:Nat}[hx:BI x i][hd:BN d j](hd0:0<d)(hi:i<=200000000:=by decide)(hj:j<=200000000:=by decide):PF GB prog 102 [eI x,dN d] (eQ (mkRat x d)):=by
 obtain⟨q,hq⟩: ∃q,q=mkRat x d:=⟨_,rfl⟩;obtain⟨g,hg⟩: ∃g,g=Nat.gcd x.natAbs d:=⟨_,rfl⟩;have hg0:0<g:=hg▸oT _ hd0;haveI hgB:BN g (i+j):=hg▸inferInstance;have hg1:(dg g).length<=100000000:=N5 (k:=i+j);have ho1:(dg 1).length<=100000000:=by rw[zb];decide
 haveI hqB:BQ q (i+j):=hq▸wG hd0 (dY hx.h (bU (by decide) (by omega))) (dY hd.h (bU (by decide) (by omega)));refine fn func102 J J ntmps102 J J (fun C=>?_);refine cl (fu:=⟨0⟩) J (GX (by omega) (by omega)) J<|?_;refine ak 11 (.d (dN g)) J (by rw[hg]) ?_;refine gx (fu:=⟨4⟩) J<|?_;refine mg (fu:=⟨1⟩) (X:=Unit) (fun _=>[(1, .d (dN q.den)),(2, .ov 2 0),(4, .ov 4 0)]) (fun _=>[(4,some (.o 44 [.ff, .nl, .nl] true)),(2,some (.o 42 [.d (.v (.bool (decide (q.num<0)))), .d (dN q.num.natAbs)] true))]) (fun _=>True) [1,2,4] [4,2] rfl ?_ (fun _=>J) (fun _ hm=>?_)
 .
  refine gx J<|cl J E9 J<|cl J (Au hg1 ho1) J<|?_;refine br J J J (fun hc15=>?_) (fun hc15=>?_)
  .
   refine cl J (xy hg0 (by omega) (by omega)) J<|cl (fu:=⟨0⟩) J kC J<|?_;refine ak 26 (.d (eI q.num)) J (by show FX.d (eI (zv _ _))=_;rw[hg,Lp hd0,hq]) ?_;refine gx J<|cl (fu:=⟨2⟩) J (xy hg0 (by omega) (by omega)) J<|?_;refine ak 31 (.d (dN q.den)) J (by rw[hg,L7 hd0,hq]) ?_;refine gx J<|?_;exact at_ () trivial
  .
   have hm:=aFr (x:=x) hd0 (by rw[<-hg];exact Ip.1 (Decidable.not_not.1 hc15));rw[<-hq] at hm;refine ak 1 (.d (dN q.den)) J (by rw[hm.2]) ?_;exact at_ () trivial (hO:=⟨J,by rw[hm.1];rfl,trivial⟩)
 .
  refine mg (X:=Unit) (fun _=>[(1, .d (dD q.den)),(2, .ov 2 0),(4, .ov 4 0)]) (fun _=>[(4,some (.o 44 [.ff, .nl, .nl] true)),(2,some (.o 42 [.d (.v (.bool (decide (q.num<0)))), .d (dN q.num.natAbs)] true))]) (fun _=>True) [1,2,4] [4,2] rfl ?_ (fun _=>J) (fun _ hm=>?_)
  .
   refine gx J<|cl J E9 J<|cl J (Au (N5 (k:=i+j)) ho1) J<|?_;refine br J J J (fun hc36=>?_) (fun hc36=>?_)
   .
    refine XN 1 J ?_;refine ak 1 (.d (dD q.den)) J (by rw[Ip.1 hc36];rfl) ?_;exact at_ () trivial
   .
    refine ak 1 (.d (dD q.den)) J (by rw[S9 (fun e=>hc36 (Ip.2 e))]) ?_;exact at_ () trivial
  .
   exact rz J (by rw[<-hq];rfl)
def Ss(a:Rat):mkRat a.num a.den=a:=by simp[tY]
def M8{a b:Rat}(h:b≠0):a/b=mkRat (a.num*zv (decide (b.num<0)) b.den) (a.den*b.num.natAbs):=by
 rw[pK];have ha:(a.num:Rat)/(a.den:Rat)=a:=by rw[<-pK,Ss]
 have hb:(b.num:Rat)/(b.den:Rat)=b:=by rw[<-pK,Ss]
 have h1:(a.den:Rat)≠0:=by have:=a.den_nz;exact_mod_cast this
 have h2:(b.den:Rat)≠0:=by have:=b.den_nz;exact_mod_cast this
 have h3:(b.num:Rat)≠0:=by
  intro e;rw[e] at hb;apply h;rw[<-hb];grind
 rw[cR,Rat.natCast_mul];by_cases q:b.num<0
 .have e1:((zv (decide (b.num<0)) b.den:Int):Rat)= -(b.den:Rat):=by
   unfold zv;rw[if_pos (by simpa using q),lN];rfl
  have e2:((b.num.natAbs:Nat):Rat)= -(b.num:Rat):=by
   have:((b.num.natAbs:Nat):Int)= -b.num:=by omega
   rw[<-lN,<-this];rfl
  rw[e1,e2];generalize (a.num:Rat)=an at*;generalize (a.den:Rat)=ad at*;generalize (b.num:Rat)=bn at*;generalize (b.den:Rat)=bd at*;subst ha hb;grind
 .have e1:((zv (decide (b.num<0)) b.den:Int):Rat)=(b.den:Rat):=by
   unfold zv;rw[if_neg (by simpa using q)];rfl
  have e2:((b.num.natAbs:Nat):Rat)=(b.num:Rat):=by
   have:((b.num.natAbs:Nat):Int)=b.num:=by omega
   rw[<-this];rfl
  rw[e1,e2];generalize (a.num:Rat)=an at*;generalize (a.den:Rat)=ad at*;generalize (b.num:Rat)=bn at*;generalize (b.den:Rat)=bd at*;subst ha hb;grind
def WB{q:Rat}{n:Int}{d:Nat}(hd:0<d)(h:q*(d:Rat)=(n:Rat)):q.num.natAbs<=n.natAbs/\q.den<=d:=by
 have e:q=mkRat n d:=by
  rw[pK];have:(d:Rat)≠0:=by exact_mod_cast (by omega:d≠0)
  rw[<-h];grind
 rw[e,Rat.num_mkRat,Rat.den_mkRat,if_neg (by omega),if_neg (by omega)];exact⟨nN n (d.gcd n.natAbs:Nat),kN ..⟩
theorem BQ.of_frac{q:Rat}{n:Int}{d i:Nat}(hd:0<d)(h:q*(d:Rat)=(n:Rat))(hn:n.natAbs<2^i)(hdi:d<2^i):BQ q i:=by
 have:=WB hd h;exact⟨by omega,by omega⟩
def OP{b:Rat}(h:b≠0):0<b.num.natAbs:=by
 have:b.num≠0:=fun e=>h (lM.1 e);omega
instance BQ.over (a b:Rat) (i j:Nat) [ha:BQ a i] [hb:BQ b j]:BQ (a/b) (i+j):=by
 by_cases h:b=0
 .subst h
  rw[Rat.div_def,Rat.inv_zero,Rat.mul_zero];have h2:=ha.hd;have h3:0<a.den:=mO a;have h4:2^i*1<=2^i*2^j:=fJ _ (fU (by decide));rw[<-fK] at h4;exact⟨by show 0<_;omega,by show 1<_;omega⟩
 .rw[M8 h]
  have hb0:=OP h;refine wG (iT (mO a) hb0) ?_ (qe ha.hd hb.hn);rw[jV,rx];exact qe ha.hn hb.hd
def lu{n:Int}(h0: -4611686018427387904<=n:=by decide)(h1:n<=4611686018427387904:=by decide):PF GB prog 54 [.v (.int .i64 n)] (eQ (n:Rat)):=by
 refine fn func54 J J ntmps54 J J (fun C=>?_);refine cl J (Ry) J<|?_;exact rz J (by rw[E5];rfl)
def qm{q:Rat}:PF GB prog 96 [eQ q] (vI q.num.sign):=by
 refine fn func96 J J ntmps96 J J (fun C=>?_);refine cl J Ep J<|?_;exact rz J J
def vQ{q:Rat}:PF GB prog 163 [eQ q] (eQ (-q)):=by
 refine fn func163 J J ntmps163 J J (fun C=>?_);refine cl J zj J<|?_;exact rz J (by unfold eQ;rw[nK,pM];rfl)
def jp{a b:Rat}{i j:Nat}[ha:BQ a i][hb:BQ b j](hi:i<=20000000:=by decide)(hj:j<=20000000:=by decide):PF GB prog 168 [eQ a,eQ b] (eQ (a*b)):=by
 have had:=mO a;have hbd:=mO b;have hdp:=iT had hbd;have e1:=ye a.den had;have e2:=ye b.den hbd;refine fn func168 J J ntmps168 J J (fun C=>?_);refine cs 9 J J J (fun hg9=>?_) (fun hg9=>?_)
 .
  refine br J J J (fun hc14=>?_) (fun hc14=>?_)
  .
   refine cl J (vx (a:=a.num) (b:=b.num) (by omega) (by omega)) J<|?_;exact rz J (by rw[YT (e1.1 (by omega)) (e2.1 (by omega)),E5];rfl)
  .
   refine cl J (vx (a:=a.num) (b:=b.num) (by omega) (by omega)) J<|cl J kw J<|cl J kw J<|cl J (se (by omega) (by omega)) J<|?_;refine cl J (xp hdp (by omega) (by omega)) J<|?_;exact rz J (by rw[AY];rfl)
 .
  refine cl J (vx (a:=a.num) (b:=b.num) (by omega) (by omega)) J<|cl J kw J<|cl J kw J<|cl J (se (by omega) (by omega)) J<|?_;refine cl J (xp hdp (by omega) (by omega)) J<|?_;exact rz J (by rw[AY];rfl)
def po{a b:Rat}{i j:Nat}[ha:BQ a i][hb:BQ b j](hi:i<=20000000:=by decide)(hj:j<=20000000:=by decide):PF GB prog 169 [eQ a,eQ b] (eQ (a+b)):=by
 have had:=mO a;have hbd:=mO b;have hdp:=iT had hbd;have e1:=ye a.den had;have e2:=ye b.den hbd;refine fn func169 J J ntmps169 J J (fun C=>?_);refine cs 9 J J J (fun hg9=>?_) (fun hg9=>?_)
 .
  refine br J J J (fun hc14=>?_) (fun hc14=>?_)
  .
   refine cl J (Cq (by omega) (by omega)) J<|?_;exact rz J (by rw[ZA (e1.1 (by omega)) (e2.1 (by omega)),E5];rfl)
  .
   refine cl J kw J<|cl J kC J<|cl J (vx (a:=a.num) (b:=zv false b.den) (by omega) (by omega)) J<|cl J kw J<|cl J kC J<|?_;refine cl J (vx (a:=b.num) (b:=zv false a.den) (by omega) (by omega)) J<|cl J (Cq (by omega) (by omega)) J<|cl J kw J<|?_;refine cl J kw J<|cl J (se (by omega) (by omega)) J<|cl J (xp hdp (by omega) (by omega)) J<|?_;exact rz J (by rw[Br];rfl)
 .
  refine cl J kw J<|cl J kC J<|cl J (vx (a:=a.num) (b:=zv false b.den) (by omega) (by omega)) J<|cl J kw J<|?_;refine cl J kC J<|cl J (vx (a:=b.num) (b:=zv false a.den) (by omega) (by omega)) J<|cl J (Cq (by omega) (by omega)) J<|?_;refine cl J kw J<|cl J kw J<|cl J (se (by omega) (by omega)) J<|cl J (xp hdp (by omega) (by omega)) J<|?_;exact rz J (by rw[Br];rfl)
def t8{a b:Rat}{i j:Nat}[ha:BQ a i][hb:BQ b j](hi:i<=20000000:=by decide)(hj:j<=20000000:=by decide):PF GB prog 167 [eQ a,eQ b] (eQ (a-b)):=by
 refine fn func167 J J ntmps167 J J (fun C=>?_);refine cl J (vQ (q:=b)) J<|cl J (po (a:=a) (b:= -b) hi hj) J<|?_;exact rz J (by rw[Rat.sub_eq_add_neg];rfl)
def yJ{a b:Rat}{i j:Nat}[ha:BQ a i][hb:BQ b j](hb0:b≠0)(hi:i<=20000000:=by decide)(hj:j<=20000000:=by decide):PF GB prog 214 [eQ a,eQ b] (eQ (a/b)):=by
 have hbp:=OP hb0;have hdp:=iT (mO a) hbp;refine fn func214 J J ntmps214 J J (fun C=>?_);refine cl J kw J<|cl J kC J<|cl J (vx (a:=a.num) (b:=zv (decide (b.num<0)) b.den) (by omega) (by omega)) J<|cl J kw J<|?_;refine cl J (se (a:=a.den) (b:=b.num.natAbs) (by omega) (by omega)) J<|cl J (xp (x:=a.num*zv (decide (b.num<0)) b.den) (d:=a.den*b.num.natAbs) hdp (by omega) (by omega)) J<|?_;exact rz J (by rw[M8 hb0];rfl)
def mF{a b:Rat}{i j:Nat}[ha:BQ a i][hb:BQ b j](hi:i<=20000000:=by decide)(hj:j<=20000000:=by decide):PF GB prog 170 [eQ a,eQ b] (vI (bg a b)):=by
 refine fn func170 J J ntmps170 J J (fun C=>?_);refine cl J (t8 hi hj) J<|cl J qm J<|?_;exact rz J (by show vI _=vI _;rw[Ck])
def aFh:((2:Int):Rat)≠0:=by decide
instance BI.two:BI 2 2:=⟨by decide⟩
def FZ{a:Rat}{i:Nat}[ha:BQ a i](hi:i<=20000000:=by decide):PF GB prog 215 [eQ a] (eQ (a/2)):=by
 refine fn func215 J J ntmps215 J J (fun C=>?_);refine cl J (lu (n:=2)) J<|cl J (yJ (a:=a) (b:=((2:Int):Rat)) aFh hi (by decide)) J<|?_;exact rz J J
def H6{a b:Rat}{i j:Nat}[ha:BQ a i][hb:BQ b j](hi:i<=2000000:=by decide)(hj:j<=2000000:=by decide):PF GB prog 216 [eQ a,eQ b] (eQ ((a+b)/2)):=by
 refine fn func216 J J ntmps216 J J (fun C=>?_);refine cl J (po (by omega) (by omega)) J<|cl J (FZ (a:=a+b) (by omega)) J<|?_;exact rz J J
end Go.Sx
end
