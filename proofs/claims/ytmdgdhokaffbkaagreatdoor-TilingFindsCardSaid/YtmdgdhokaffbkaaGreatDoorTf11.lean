import Derived.Test.YtmdgdhokaffbkaaGreatDoorTf10
set_option linter.all false
set_option maxHeartbeats 1000000
set_option maxRecDepth 100000
section
namespace Go.Sx
open Go
variable {a b k A B u C K t:Rat}{s:bi}{v:ak}{l m:aa}{p q:ab}{c e:az}
def iF(l:aa)(p:ab):l.value p=(l.a:Rat)*p.x+(l.b:Rat)*p.y+(l.c:Rat):=rfl
def fE(l:aa)(p:ab):l.rev.value p= -l.value p:=by
 rw[iF,iF];have h1:((l.rev.a:Int):Rat)= -(l.a:Rat):=(Er l.a).symm;have h2:((l.rev.b:Int):Rat)= -(l.b:Rat):=(Er l.b).symm;have h3:((l.rev.c:Int):Rat)= -(l.c:Rat):=(Er l.c).symm;rw[h1,h2,h3];grind
def bj(q p:ab)(e:Rat):ab:=⟨q.x+e*(p.x-q.x),q.y+e*(p.y-q.y)⟩
def lD(l:aa)(q p:ab)(e:Rat):l.value (bj q p e)=l.value q+e*(l.value p-l.value q):=by
 simp only[iF,bj];grind
def ce(q u:ab)(e:Rat):ab:=⟨q.x+e*u.x,q.y+e*u.y⟩
def gD(l:aa)(q u:ab)(e:Rat):l.value (ce q u e)=l.value q+e*l.nor.dot u:=by
 simp only[iF,ce,aa.nor,ab.dot];grind
def eE(ha:0<a)(hb:0<b):0<a*b:=Rat.mul_pos ha hb
def cB(ha:0<=a)(hb:0<=b):0<=a*b:=Rat.mul_nonneg ha hb
def KC(a:Rat):0<=a*a:=by
 by_cases h:0<=a
 .exact cB h h
 .have:=cB (a:= -a) (b:= -a) v7 v7
  grind
def im{s:Rat}(hk:0<k):0<s*k↔0<s:=by
 constructor
 .intro h
  by_cases hs:0<s
  .exact hs
  .have:=cB (a:= -s) (b:=k) v7 v7
   grind
 .intro h;exact eE h hk
def jm{s:Rat}(hk:0<k):0<=s*k↔0<=s:=by
 constructor
 .intro h
  by_cases hs:0<=s
  .exact hs
  .have:=eE (a:= -s) (b:=k) v7 hk
   grind
 .intro h;exact cB h v7
def Eu{v:Rat}(h0:0<=A)(h1:0<=A+v*B)(hu:0<=u)(huv:u<=v):0<=A+u*B:=by
 by_cases hB:0<=B
 .have:=cB hu hB;grind
 .have:=cB (a:=v-u) (b:= -B) v7 v7
  grind
def aa.Ne(l:aa):Prop:= ¬(l.a=0/\l.b=0)
def aa.ok.ne(h:l.ok):l.Ne:=h.1
def o8(h:l.Ne):0<l.nor.dot l.nor:=by
 show 0<(l.a:Rat)*l.a+(l.b:Rat)*l.b;have h1:=KC (l.a:Rat);have h2:=KC (l.b:Rat);by_cases ha:l.a=0
 .have hb:l.b≠0:=fun hb=>h ⟨ha,hb⟩
  have hb':(l.b:Rat)≠0:=fun e=>hb (dK.1 e);have:(l.b:Rat)*l.b≠0:=by grind
  grind
 .have ha':(l.a:Rat)≠0:=fun e=>ha (dK.1 e)
  have:(l.a:Rat)*l.a≠0:=by grind
  grind
def zd(h:l.Ne): ∃q:Rat,l.nor.dot l.nor*q= -(l.c:Rat)/\l.base=⟨(l.a:Rat)*q,(l.b:Rat)*q⟩:=by
 refine⟨-(l.c:Rat)/l.nor.dot l.nor,?_,J⟩;have:=o8 h;grind
def jq(l m:aa)(t:Rat):m.value (l.at t)=l.cutC m+t*l.cutK m:=by
 simp only[aa.cutC,aa.cutK,iF,aa.at,ab.add,ab.scale,aa.dir,aa.nor,ab.dot];grind
def kC(h:l.Ne)(t:Rat):l.value (l.at t)=0:=by
 obtain⟨q,h1,h2⟩:=zd h;simp only[iF,aa.at,h2,ab.add,ab.scale,aa.dir];simp only[aa.nor,ab.dot] at h1;grind
def CE(h:l.Ne)(hp:l.value p=0): ∃t,p=l.at t:=by
 obtain⟨q,h1,h2⟩:=zd h;have hn:=o8 h;obtain⟨x,y⟩:=p;rw[iF] at hp;simp only[aa.nor,ab.dot] at h1 hn;refine⟨((l.b:Rat)*x-(l.a:Rat)*y)/((l.a:Rat)*l.a+(l.b:Rat)*l.b),?_⟩;generalize ht:((l.b:Rat)*x-(l.a:Rat)*y)/((l.a:Rat)*l.a+(l.b:Rat)*l.b)=t;have ht':((l.a:Rat)*l.a+(l.b:Rat)*l.b)*t=(l.b:Rat)*x-(l.a:Rat)*y:=by grind
 simp only[aa.at,h2,ab.add,ab.scale,aa.dir,ab.mk.injEq];generalize (l.a:Rat)=a at*;generalize (l.b:Rat)=b at*;generalize (l.c:Rat)=c at*;have e1:(a*a+b*b)*(x-(a*q+b*t))=0:=by grind
 have e2:(a*a+b*b)*(y-(b*q+ -a*t))=0:=by grind
 constructor<;>grind
def ak.has(v:ak)(t:Rat):Prop:=(v.nl=true\/v.lo<=t)/\(v.nh=true\/t<=v.hi)
def ak.ins(v:ak)(t:Rat):Prop:=(v.nl=true\/v.lo<t)/\(v.nh=true\/t<v.hi)
def ak.Pos(v:ak):Prop:=v.nl=true\/v.nh=true\/v.lo<v.hi
def Vc(a b:Rat):0<=bm a b↔b<=a:=by
 unfold bm;split
 .constructor
  .intro h;exact absurd h v6
  .intro h;grind
 .split
  .constructor
   .intro _;grind
   .intro _;decide
  .constructor
   .intro _;grind
   .intro _;decide
def AT(v:ak):v.empty=false↔v.Pos:=by
 obtain⟨lo,hi,nl,nh⟩:=v;unfold ak.empty ak.Pos
 cases nl<;>cases nh<;>simp[Vc]
 first|exact rY|grind
def ak.ins.has{v:ak}{t:Rat}(h:v.ins t):v.has t:=by
 obtain⟨h1,h2⟩:=h;exact⟨h1.imp id (fun h=>cM h),h2.imp id (fun h=>cM h)⟩
def Y':mkRat 1 2=(1:Rat)/2:=by rw[pV];rfl
def m9(h:v.Pos):v.ins v.sample:=by
 obtain⟨lo,hi,nl,nh⟩:=v;unfold ak.Pos at h;unfold ak.ins ak.sample;rw[Y']
 cases nl<;>cases nh<;>simp at* <;>grind
def LC(v w:ak)(t:Rat):(v.meet w).has t↔v.has t/\w.has t:=by
 obtain⟨lo,hi,nl,nh⟩:=v;obtain⟨lo',hi',nl',nh'⟩:=w;unfold ak.has ak.meet
 cases nl<;>cases nh<;>cases nl'<;>cases nh'<;>simp<;>grind
def J2(v w:ak)(t:Rat):(v.meet w).ins t↔v.ins t/\w.ins t:=by
 obtain⟨lo,hi,nl,nh⟩:=v;obtain⟨lo',hi',nl',nh'⟩:=w;unfold ak.ins ak.meet
 cases nl<;>cases nh<;>cases nl'<;>cases nh'<;>simp<;>grind
def ES(t:Rat):ak.all.has t:=⟨.inl J, .inl J⟩
def aB1(t:Rat):ak.all.ins t:=⟨.inl J, .inl J⟩
def uu:ak.all.Pos:= .inl J
def lC(k:Rat):Int.sign k.num=0↔k=0:=by rw[iS,lM]
def VD(k:Rat):0<k.num↔0<k:=by
 have h1:0<=k.num↔0<=k:=pZ;have h2:k.num=0↔k=0:=lM;constructor
 .intro h
  have a:=h1.1 pb;have b:k≠0:=fun e=>by have:=h2.2 e;omega
  grind
 .intro h
  have a:=h1.2 v7;have b:k.num≠0:=fun e=>by have:=h2.1 e;grind
  omega
def vv(k:Rat):Int.sign k.num=1↔0<k:=by rw[Int.sign_eq_one_iff_pos,VD]
def mc(k:Rat):0<Int.sign k.num↔0<k:=by
 rw[<-vv];rcases qN k.num 0 with h|h|h
 .rw[dT h];decide
 .rw[h];decide
 .rw[fX h];decide
def xv(k:Rat):Int.sign k.num<0↔k<0:=by
 have h1:=lC k;have h2:=mc k;constructor
 .intro h
  by_cases hk:0<k
  .have:=h2.2 hk;omega
  .by_cases h0:k=0
   .have:=h1.2 h0;omega
   .grind
 .intro h
  have a1: ¬Int.sign k.num=0:=fun e=>by have:=h1.1 e;grind
  have a2: ¬0<Int.sign k.num:=fun e=>by have:=h2.1 e;grind
  omega
def wL(v:ak)(hk:l.cutK m=0):l.cutV v m=v/\(l.cutB v m=true↔0<l.cutC m):=by
 have h:=(lC (l.cutK m)).2 hk;unfold aa.cutV aa.cutB;rw[if_pos h,if_pos h,decide_eq_true_iff,mc];exact⟨J,Iff.rfl⟩
def wP(v:ak)(hk:0<l.cutK m):l.cutV v m=v.meet ⟨-(l.cutC m/l.cutK m),0,false,true⟩/\(l.cutB v m=true↔(l.cutV v m).Pos):=by
 have h0: ¬Int.sign (l.cutK m).num=0:=fun e=>by have:=(lC _).1 e;grind
 have h1:=(vv (l.cutK m)).2 hk;constructor
 .unfold aa.cutV;rw[if_neg h0,if_pos h1]
 .unfold aa.cutB;rw[if_neg h0,<-AT];simp
def xo(v:ak)(hk:l.cutK m<0):l.cutV v m=v.meet ⟨0, -(l.cutC m/l.cutK m),true,false⟩/\(l.cutB v m=true↔(l.cutV v m).Pos):=by
 have h0: ¬Int.sign (l.cutK m).num=0:=fun e=>by have:=(lC _).1 e;grind
 have h1: ¬Int.sign (l.cutK m).num=1:=fun e=>by have:=(vv _).1 e;grind
 constructor
 .unfold aa.cutV;rw[if_neg h0,if_neg h1]
 .unfold aa.cutB;rw[if_neg h0,<-AT];simp
def SU(hk:0<K): -(C/K)<=t↔0<=C+t*K:=by
 have e:C=C/K*K:=by grind
 generalize C/K=d at*;rw[e,show d*K+t*K=(d+t)*K from by grind,jm hk];grind
def L1(hk:0<K): -(C/K)<t↔0<C+t*K:=by
 have e:C=C/K*K:=by grind
 generalize C/K=d at*;rw[e,show d*K+t*K=(d+t)*K from by grind,im hk];grind
def RG(hk:K<0):t<= -(C/K)↔0<=C+t*K:=by
 have e:C=C/K*K:=by grind
 generalize C/K=d at*;rw[e,show d*K+t*K=(-(d+t))*(-K) from by grind,jm v7];grind
def Pz(hk:K<0):t< -(C/K)↔0<C+t*K:=by
 have e:C=C/K*K:=by grind
 generalize C/K=d at*;rw[e,show d*K+t*K=(-(d+t))*(-K) from by grind,im v7];grind
def mn(k:Rat):k=0\/0<k\/k<0:=by grind
def zp(hb:l.cutB v m=true)(t:Rat):(l.cutV v m).has t↔v.has t/\0<=m.value (l.at t):=by
 rw[jq];rcases mn (l.cutK m) with hk|hk|hk
 .obtain⟨h1,h2⟩:=wL v hk
  rw[h1,hk];have:=h2.1 hb;constructor
  .intro h;exact⟨h,v7⟩
  .exact fun h=>h.1
 .rw[(wP v hk).1,LC,<-SU hk]
  simp[ak.has]
 .rw[(xo v hk).1,LC,<-RG hk]
  simp[ak.has]
def I3(hb:l.cutB v m=true)(t:Rat):(l.cutV v m).ins t↔v.ins t/\0<m.value (l.at t):=by
 rw[jq];rcases mn (l.cutK m) with hk|hk|hk
 .obtain⟨h1,h2⟩:=wL v hk
  rw[h1,hk];have:=h2.1 hb;constructor
  .intro h;exact⟨h,v7⟩
  .exact fun h=>h.1
 .rw[(wP v hk).1,J2,<-L1 hk]
  simp[ak.ins]
 .rw[(xo v hk).1,J2,<-Pz hk]
  simp[ak.ins]
def xw(hv:v.Pos)(hb:l.cutB v m=true):(l.cutV v m).Pos:=by
 rcases mn (l.cutK m) with hk|hk|hk
 .rw[(wL v hk).1];exact hv
 .exact(wP v hk).2.1 hb
 .exact(xo v hk).2.1 hb
def EF(hv:v.Pos)(hb:l.cutB v m=false)(ht:v.has t):m.value (l.at t)<=0:=by
 rw[jq];have hb': ¬l.cutB v m=true:=by rw[hb];decide
 rcases mn (l.cutK m) with hk|hk|hk
 .have h2:=(wL v hk).2
  have: ¬0<l.cutC m:=fun h=>hb' (h2.2 h);rw[hk];grind
 .obtain⟨h1,h2⟩:=wP v hk
  have hn: ¬(l.cutV v m).Pos:=fun h=>hb' (h2.2 h);rw[h1] at hn;have h3:=L1 (C:=l.cutC m) (t:=t) hk
  suffices¬(-(l.cutC m/l.cutK m)<t) by grind
  generalize-(l.cutC m/l.cutK m)=d at*;obtain⟨lo,hi,nl,nh⟩:=v;unfold ak.Pos ak.meet at hn;unfold ak.Pos at hv;unfold ak.has at ht
  cases nl<;>cases nh<;>simp at* <;>grind
 .obtain⟨h1,h2⟩:=xo v hk
  have hn: ¬(l.cutV v m).Pos:=fun h=>hb' (h2.2 h);rw[h1] at hn;have h3:=Pz (C:=l.cutC m) (t:=t) hk
  suffices¬(t< -(l.cutC m/l.cutK m)) by grind
  generalize-(l.cutC m/l.cutK m)=d at*;obtain⟨lo,hi,nl,nh⟩:=v;unfold ak.Pos ak.meet at hn;unfold ak.Pos at hv;unfold ak.has at ht
  cases nl<;>cases nh<;>simp at* <;>grind
def bw(c:az)(p:ab):Prop:= ∀s∈c,0<s.l.value p
def lH(c:az)(p:ab):Prop:= ∀s∈c,0<=s.l.value p
def El(l:aa): ∀(c:az) (v w:ak),v.Pos->lz l c v=some w->
  w.Pos/\(∀t,w.has t↔v.has t/\lH c (l.at t))/\(∀t,w.ins t↔v.ins t/\bw c (l.at t))
 |[],v,w,hv,h=>by
  obtain rfl:v=w:=by simpa[lz] using h
  exact⟨hv,fun t=>⟨fun h=>⟨h,fun s hs=>absurd hs v8⟩,fun h=>h.1⟩,fun t=>⟨fun h=>⟨h,fun s hs=>absurd hs v8⟩,fun h=>h.1⟩⟩
 |s::c,v,w,hv,h=>by
  rw[lz] at h;split at h
  .rename_i hb
   obtain⟨h1,h2,h3⟩:=El l c _ w (xw hv hb) h;refine⟨h1,fun t=>?_,fun t=>?_⟩
   .rw[h2,zp hb]
    simp only[lH,dX];exact and_assoc
   .rw[h3,I3 hb]
    simp only[bw,dX];exact and_assoc
  .exact absurd h v8
def Jh(l:aa): ∀(c:az) (v:ak),v.Pos->lz l c v=none-> ∀t,v.has t-> ¬bw c (l.at t)
 |[],v,hv,h=>by simp[lz] at h
 |s::c,v,hv,h=>by
  intro t ht hd;have hd':=dX.1 hd;rw[lz] at h;split at h
  .rename_i hb
   exact Jh l c _ (xw hv hb) h t ((zp hb t).2 ⟨ht,cM hd'.1⟩) hd'.2
  .rename_i hb
   have:=EF hv (by simpa using hb) ht;have:=hd'.1;grind
def bw.open: ∀{c:az} {q:ab} (u:ab),bw c q-> ∃e:Rat,0<e/\ ∀d,0<=d->d<=e->bw c (ce q u d)
 |[],q,u,_=>⟨1,v6,fun d _ _ s hs=>absurd hs v8⟩
 |s::c,q,u,h=>by
  have h':=dX.1 h;obtain⟨e,he,hd⟩:=bw.open (c:=c) u h'.2;have hs:=h'.1;generalize hk:s.l.nor.dot u=k;have hf: ∃f:Rat,0<f/\ ∀d,0<=d->d<=f->0<s.l.value q+d*k:=by
   by_cases hk0:0<=k
   .exact⟨1,v6,fun d h1 _=>by have:=cB h1 hk0;grind⟩
   .refine⟨s.l.value q/(2* -k),?_,fun d h1 h2=>?_⟩
    .have e1:s.l.value q/(2* -k)*(2* -k)=s.l.value q:=by grind
     exact(im (k:=2* -k) v7).1 (by rw[e1];exact hs)
    .have e1:s.l.value q/(2* -k)*(2* -k)=s.l.value q:=by grind
     generalize s.l.value q/(2* -k)=f at*;have:=cB (a:=f-d) (b:= -k) v7 v7;grind
  obtain⟨f,hf0,hf⟩:=hf;by_cases hef:e<=f
  .refine⟨e,he,fun d h1 h2=>dX.2 ⟨?_,hd d h1 h2⟩⟩
   rw[gD,hk];exact hf d h1 v7
  .refine⟨f,hf0,fun d h1 h2=>dX.2 ⟨?_,hd d h1 v7⟩⟩
   rw[gD,hk];exact hf d h1 h2
def Ol: ∀{c:az} {q p:ab},bw c q->(∃s∈c,s.l.value p<=0)->
  ∃e:Rat,0<=e/\e<=1/\(∃s∈c,s.l.value p<=0/\s.l.value (bj q p e)=0)/\lH c (bj q p e)
 |[],q,p,_,h=>by obtain⟨s,hs,_⟩:=h;exact absurd hs v8
 |s::c,q,p,h,hex=>by
  have h':=dX.1 h;have hs:=h'.1;by_cases hc: ∃s∈c,s.l.value p<=0
  .obtain⟨e,h0,h1,⟨s1,m1,n1,z1⟩,hC⟩:=Ol h'.2 hc
   by_cases hp:0<=s.l.value (bj q p e)
   .exact⟨e,h0,h1,⟨s1,aK _ m1,n1,z1⟩,dX.2 ⟨hp,hC⟩⟩
   .rw[lD] at hp
    generalize hB:s.l.value p-s.l.value q=B at*;have hB0:B<0:=by
     by_cases hB0:0<=B
     .have:=cB h0 hB0;grind
     .grind
    have e1:s.l.value q/(-B)*(-B)=s.l.value q:=by grind
    generalize hf:s.l.value q/(-B)=f at*;have f0:0<=f:=(jm (k:= -B) v7).1 (by rw[e1];grind);have f1:f<=e:=by
     have:=(jm (s:=e-f) (k:= -B) v7).1 v7;grind
    have z:s.l.value (bj q p f)=0:=by rw[lD,hB];grind
    have np:s.l.value p<=0:=by
     have:=cB (a:=1-e) (b:= -B) v7 v7;grind
    refine⟨f,f0,v7,⟨s,aZ,np,z⟩,dX.2 ⟨by rw[z];exact fR,fun s2 m2=>?_⟩⟩;have a1:=h'.2 s2 m2;have a2:=hC s2 m2;rw[lD] at a2⊢;exact Eu (cM a1) a2 f0 f1
  .have np:s.l.value p<=0:=by
    obtain⟨s1,m1,n1⟩:=hex;rcases aT.1 m1 with rfl|m1
    .exact n1
    .exact absurd ⟨s1,m1,n1⟩ hc
   generalize hB:s.l.value p-s.l.value q=B at*;have hB0:B<0:=by grind
   have e1:s.l.value q/(-B)*(-B)=s.l.value q:=by grind
   generalize hf:s.l.value q/(-B)=f at*;have f0:0<=f:=(jm (k:= -B) v7).1 (by rw[e1];grind);have f1:f<=1:=by
    have:=(jm (s:=1-f) (k:= -B) v7).1 v7;grind
   have z:s.l.value (bj q p f)=0:=by rw[lD,hB];grind
   refine⟨f,f0,f1,⟨s,aZ,np,z⟩,dX.2 ⟨by rw[z];exact fR,fun s2 m2=>?_⟩⟩;have a1:=h'.2 s2 m2;have a2:0<s2.l.value p:=by
    by_cases h:0<s2.l.value p
    .exact h
    .exact absurd ⟨s2,m2,v7⟩ hc
   rw[lD];have:=Eu (A:=s2.l.value q) (B:=s2.l.value p-s2.l.value q) (u:=f) (v:=1) (cM a1) v7 f0 f1;exact this
structure bO (c:az):Prop where
 ne: ∃p,bw c p
 ok: ∀s∈c,s.l.ok
 edge: ∀s∈c,s.v.Pos/\ ∀t,s.v.has t↔lH c (s.l.at t)
def bO.nil:bO []:=⟨⟨⟨0,0⟩,fun s hs=>absurd hs v8⟩,fun s hs=>absurd hs v8,fun s hs=>absurd hs v8⟩
def qn(hne: ∃q,bw c q)(h: ∀p,bw c p->0<m.value p)(hp:lH c p):0<=m.value p:=by
 obtain⟨q,hq⟩:=hne;have mq:=h q hq;by_cases hm:0<=m.value p
 .exact hm
 .exfalso
  generalize hB:m.value q-m.value p=B;have hB0:0<B:=by grind
  have e1: -m.value p/B*B= -m.value p:=by grind
  generalize-m.value p/B=e at*;have e0:0<e:=(im hB0).1 (by rw[e1];grind);have e2:e<=1:=by
   have:=(jm (s:=1-e) hB0).1 v7;grind
  have hd:bw c (bj p q e):=fun s hs=>by
   rw[lD];have a:=hp s hs;have b:=hq s hs;have:=eE e0 b;have:=cB (a:=1-e) (b:=s.l.value p) v7 a;grind
  have:=h _ hd;rw[lD,hB,e1] at this;grind
def p6{l:aa}{s':bi}: ∀{c:az},s'∈dO l c↔ ∃s∈c,s.l.cutB s.v l=true/\s'=⟨s.l,s.l.cutV s.v l⟩
 |[]=>by simp[dO]
 |s::c=>by
  rw[dO];split
  .rename_i hb
   rw[aT,p6 (c:=c)];constructor
   .rintro (rfl|⟨s1,h1,h2⟩)
    .exact⟨s,aZ,hb,J⟩
    .exact⟨s1,aK _ h1,h2⟩
   .rintro ⟨s1,h1,h2,h3⟩
    rcases aT.1 h1 with rfl|h1
    .exact .inl h3
    .exact .inr ⟨s1,h1,h2,h3⟩
  .rename_i hb
   rw[p6 (c:=c)];constructor
   .rintro ⟨s1,h1,h2⟩;exact⟨s1,aK _ h1,h2⟩
   .rintro ⟨s1,h1,h2,h3⟩
    rcases aT.1 h1 with rfl|h1
    .exact absurd h2 hb
    .exact⟨s1,h1,h2,h3⟩
def oH:s∈kG c l v↔s=⟨l,v⟩\/s∈c:=by
 unfold kG;generalize fG (iI c l) 0 c.length=n;rw[bJ,aT];have h:=jK n c;constructor
 .rintro (h1|h1|h1)
  .exact .inr (dW h1)
  .exact .inl h1
  .exact .inr (gK h1)
 .rintro (h1|h1)
  .exact .inr (.inl h1)
  .rw[<-h,bJ] at h1
   rcases h1 with h1|h1
   .exact .inl h1
   .exact .inr (.inr h1)
def ZU(hl:l.Ne)(hp:jP c l=none)(h:bw c p):l.value p≠0:=by
 intro h0;obtain⟨t,rfl⟩:=CE hl h0;exact Jh l c _ uu hp t (ES t) h
def DM(hl:l.Ne)(hp:jP c l=some v):(∃q,bw c q/\0<l.value q)/\ ∃q,bw c q/\l.value q<0:=by
 obtain⟨h1,_,h3⟩:=El l c _ v uu hp;have hd:=((h3 v.sample).1 (m9 h1)).2;have h0:=kC hl v.sample;have hn:=o8 hl;constructor
 .obtain⟨e,he,hm⟩:=hd.open l.nor
  refine⟨_,hm e (cM he) fR,?_⟩;rw[gD,h0];have:=eE he hn;grind
 .obtain⟨e,he,hm⟩:=hd.open ⟨-l.nor.x, -l.nor.y⟩
  refine⟨_,hm e (cM he) fR,?_⟩;rw[gD,h0];have:=eE he hn;simp only[ab.dot] at this⊢;grind
def Ts(hc:bO c)(hl:l.ok)(hp:jP c l=some v):
  bO (kG (dO l c) l v)/\ ∀p,bw (kG (dO l c) l v) p↔bw c p/\0<l.value p:=by
 obtain⟨⟨q,hq,lq⟩,_⟩:=DM hl.ne hp;obtain⟨v1,v2,v3⟩:=El l c _ v uu hp;have hD: ∀p,bw (kG (dO l c) l v) p↔bw c p/\0<l.value p:=by
  intro p;constructor
  .intro h
   have lp:0<l.value p:=h ⟨l,v⟩ (oH.2 (.inl J));refine⟨fun s0 hs0=>?_,lp⟩;by_cases h0:0<s0.l.value p
   .exact h0
   .exfalso
    obtain⟨e,e0,e1,⟨s,ms,ns,zs⟩,hC⟩:=Ol (p:=p) hq ⟨s0,hs0,v7⟩;obtain⟨t,ht⟩:=CE (hc.ok s ms).ne zs;rw[ht] at hC;obtain⟨p1,p2⟩:=hc.edge s ms;have hh:=(p2 t).2 hC;have lr:0<l.value (s.l.at t):=by
     rw[<-ht,lD];by_cases hB:0<=l.value p-l.value q
     .have:=cB e0 hB;grind
     .have:=cB (a:=1-e) (b:= -(l.value p-l.value q)) v7 v7
      grind
    have hb:s.l.cutB s.v l=true:=by
     cases hb:s.l.cutB s.v l with
     |true=>rfl
     |false=>have:=EF p1 hb hh;grind
    have:=h ⟨s.l,s.l.cutV s.v l⟩ (oH.2 (.inr (p6.2 ⟨s,ms,hb,J⟩)));simp only at this;grind
  .rintro ⟨h1,h2⟩ s hs
   rcases oH.1 hs with rfl|hs
   .exact h2
   .obtain⟨s1,m1,_,rfl⟩:=p6.1 hs
    exact h1 s1 m1
 have hne: ∃p,bw (kG (dO l c) l v) p:=⟨q,(hD q).2 ⟨hq,lq⟩⟩;have hC: ∀p,lH (kG (dO l c) l v) p↔lH c p/\0<=l.value p:=by
  intro p;constructor
  .intro h
   refine⟨fun s hs=>?_,h ⟨l,v⟩ (oH.2 (.inl J))⟩;exact qn hne (fun p hp=>((hD p).1 hp).1 s hs) h
  .rintro ⟨h1,h2⟩ s hs
   rcases oH.1 hs with rfl|hs
   .exact h2
   .obtain⟨s1,m1,_,rfl⟩:=p6.1 hs
    exact h1 s1 m1
 refine⟨⟨hne,fun s hs=>?_,fun s hs=>?_⟩,hD⟩
 .rcases oH.1 hs with rfl|hs
  .exact hl
  .obtain⟨s1,m1,_,rfl⟩:=p6.1 hs
   exact hc.ok s1 m1
 .rcases oH.1 hs with rfl|hs
  .refine⟨v1,fun t=>?_⟩
   rw[hC];simp only;rw[v2];have h0:=kC hl.ne t;constructor
   .intro h;exact⟨h.2,by rw[h0];exact fR⟩
   .intro h;exact⟨ES t,h.1⟩
  .obtain⟨s1,m1,hb,rfl⟩:=p6.1 hs
   obtain⟨p1,p2⟩:=hc.edge s1 m1;refine⟨xw p1 hb,fun t=>?_⟩;rw[hC];simp only;rw[zp hb,p2]
def bw.seg{e:Rat}(hq:bw c q)(hp:bw c p)(h0:0<=e)(h1:e<=1):bw c (bj q p e):=fun s hs=>by
 rw[lD];have a:=hq s hs;have b:=hp s hs;by_cases he:e=0
 .subst he;grind
 .have:=eE (a:=e) v7 b
  have:=cB (a:=1-e) (b:=s.l.value q) v7 v7;grind
def Ez(h:v.ins t):(∃u,u<t/\v.has u)/\ ∃u,t<u/\v.has u:=by
 obtain⟨lo,hi,nl,nh⟩:=v;unfold ak.ins at h;unfold ak.has;refine⟨⟨if nl=true then t-1 else lo,?_⟩,⟨if nh=true then t+1 else hi,?_⟩⟩<;>cases nl<;>cases nh<;>simp at* <;>grind
def wj{a b c x y z:Nat}(h1:x*b=a*y)(h2:x*c=a*z)(g:Nat.gcd (Nat.gcd a b) c=1):a∣x:=by
 have e:x=Nat.gcd (Nat.gcd (x*a) (x*b)) (x*c):=by
  rw[Nat.gcd_mul_left,Nat.gcd_mul_left,g,kY]
 rw[e];exact Nat.dvd_gcd (Nat.dvd_gcd (Nat.dvd_mul_left ..) (h1▸Nat.dvd_mul_right ..)) (h2▸Nat.dvd_mul_right ..)
def Yi{a b c x y z:Int}(h1:a*y=b*x)(h2:a*z=c*x)(h3:b*z=c*y)
  (g1:Nat.gcd (Nat.gcd a.natAbs b.natAbs) c.natAbs=1)(g2:Nat.gcd (Nat.gcd x.natAbs y.natAbs) z.natAbs=1):
  (a=x/\b=y/\c=z)\/(a= -x/\b= -y/\c= -z):=by
 have n1:a.natAbs*y.natAbs=b.natAbs*x.natAbs:=by rw[<-iR,<-iR,h1]
 have n2:a.natAbs*z.natAbs=c.natAbs*x.natAbs:=by rw[<-iR,<-iR,h2]
 have n3:b.natAbs*z.natAbs=c.natAbs*y.natAbs:=by rw[<-iR,<-iR,h3]
 generalize ha:a.natAbs=A at*;generalize hb:b.natAbs=B at*;generalize hc:c.natAbs=C at*;generalize hx:x.natAbs=X at*;generalize hy:y.natAbs=Y at*;generalize hz:z.natAbs=Z at*;have gB:Nat.gcd (Nat.gcd B A) C=1:=by rw[iU B A];exact g1
 have gC:Nat.gcd (Nat.gcd C A) B=1:=by rw[Nat.gcd_assoc,iU];exact g1
 have gY:Nat.gcd (Nat.gcd Y X) Z=1:=by rw[iU Y X];exact g2
 have gZ:Nat.gcd (Nat.gcd Z X) Y=1:=by rw[Nat.gcd_assoc,iU];exact g2
 have e1:A=X:=Nat.dvd_antisymm (wj (x:=X) (y:=Y) (z:=Z) v7 v7 g1) (wj (x:=A) (y:=B) (z:=C) v7 v7 g2);have e2:B=Y:=Nat.dvd_antisymm (wj (x:=Y) (y:=X) (z:=Z) v7 v7 gB) (wj (x:=B) (y:=A) (z:=C) v7 v7 gY);have e3:C=Z:=Nat.dvd_antisymm (wj (x:=Z) (y:=X) (z:=Y) v7 v7 gC) (wj (x:=C) (y:=A) (z:=B) v7 v7 gZ);have s1:a=x\/a= -x:=by omega
 have s2:b=y\/b= -y:=by omega
 have s3:c=z\/c= -z:=by omega
 clear ha hb hc hx hy hz n1 n2 n3 g1 g2 gB gC gY gZ e1 e2 e3;have z1:= @sX x y;have z2:= @sX x z;have z3:= @sX y z;rcases s1 with rfl|rfl<;>rcases s2 with rfl|rfl<;>rcases s3 with rfl|rfl<;>grind
def wD(hl:l.ok)(hm:m.ok)(h: ∀t,l.value (m.at t)=0):l=m\/l=m.rev:=by
 have h0:=h 0;have h1:=h 1;rw[jq] at h0 h1;have hC:m.cutC l=0:=by grind
 have hK:m.cutK l=0:=by grind
 obtain⟨q,q1,q2⟩:=zd hm.ne;have hn:=o8 hm.ne;unfold aa.cutC at hC;rw[q2,iF] at hC;unfold aa.cutK at hK;simp only[aa.nor,aa.dir,ab.dot] at hK q1 hn hC;obtain⟨a,b,c⟩:=l;obtain⟨x,y,z⟩:=m;simp only at*;have e1:a*y=b*x:=by
  have:((a*y:Int):Rat)=((b*x:Int):Rat):=by rw[cK,cK];grind
  exact oY.1 this
 have e2:a*z=c*x:=by
  have:((a*z:Int):Rat)=((c*x:Int):Rat):=by rw[cK,cK];grind
  exact oY.1 this
 have e3:b*z=c*y:=by
  have:((b*z:Int):Rat)=((c*y:Int):Rat):=by rw[cK,cK];grind
  exact oY.1 this
 rcases Yi e1 e2 e3 hl.2 hm.2 with⟨rfl,rfl,rfl⟩|⟨rfl,rfl,rfl⟩
 .exact .inl J
 .exact .inr J
def aa.ok.rev{l:aa}(h:l.ok):l.rev.ok:=by
 obtain⟨h1,h2⟩:=h;refine⟨?_,?_⟩
 .simp only[aa.rev];omega
 .simp only[aa.rev,iJ];exact h2
def Pw(l:aa): ∀c:az,(∀s∈c,mO l s<=0/\s.l≠l)-> ¬0<mI l c
 |[],_=>by simp[mI]
 |s::c,h=>by
  have h':=dX.1 h;unfold mI;rw[if_neg h'.1.2];split
  .have:=h'.1.1;omega
  .exact Pw l c h'.2
def Jn(hc:bO c)(hl:l.ok)(hp:jP c l=none):
  (0<mI l c/\ ∀p,bw c p->0<l.value p)\/(¬0<mI l c/\ ∀p,bw c p->l.value p<0):=by
 have hoff:=fun p (h:bw c p)=>ZU hl.ne hp h;by_cases hq: ∃q,bw c q/\0<l.value q
 .left
  obtain⟨q,hq,lq⟩:=hq;have hall: ∀p,bw c p->0<l.value p:=by
   intro p h;have:=hoff p h;by_cases h0:0<l.value p
   .exact h0
   .exfalso
    have hn:l.value p<0:=by grind
    have e1:l.value q/(l.value q-l.value p)*(l.value q-l.value p)=l.value q:=by grind
    generalize l.value q/(l.value q-l.value p)=e at*;have f0:0<=e:=(jm (k:=l.value q-l.value p) v7).1 v7;have f1:e<=1:=by
     have:=(jm (s:=1-e) (k:=l.value q-l.value p) v7).1 v7;grind
    exact hoff _ (hq.seg h f0 f1) (by rw[lD];grind)
  refine⟨?_,hall⟩
  cases c with
  |nil=>simp[jP,lz] at hp
  |cons s c=>
   obtain⟨p1,p2⟩:=hc.edge s aZ;have hi:=m9 p1;have hr:=qn hc.ne hall ((p2 _).1 hi.has);unfold mI;by_cases h0:mO l s=0
   .rw[if_neg (by simpa using h0)]
    have hz:l.value (s.l.at s.v.sample)=0:=(lC _).1 h0;have hge: ∀t,s.v.has t->0<=l.value (s.l.at t):=fun t ht=>qn hc.ne hall ((p2 t).1 ht);obtain⟨⟨u1,m1,n1⟩,⟨u2,m2,n2⟩⟩:=Ez hi;have g1:=hge _ n1;have g2:=hge _ n2;rw[jq] at hz g1 g2;have hK:s.l.cutK l=0:=by
     rcases mn (s.l.cutK l) with h|h|h
     .exact h
     .exfalso
      have:=eE (a:=s.v.sample-u1) (b:=s.l.cutK l) v7 h;grind
     .exfalso
      have:=eE (a:=u2-s.v.sample) (b:= -s.l.cutK l) v7 v7;grind
    have hz2: ∀t,l.value (s.l.at t)=0:=fun t=>by rw[jq,hK];rw[hK] at hz;grind
    rcases wD hl (hc.ok s aZ) hz2 with h|h
    .rw[if_pos h.symm];decide
    .exfalso
     have:=hall q hq;rw[h,fE] at this;have:=hq s aZ;grind
   .rw[if_pos h0]
    have hz:l.value (s.l.at s.v.sample)≠0:=fun e=>h0 ((lC _).2 e);exact(mc _).2 v7
 .right
  have hall: ∀p,bw c p->l.value p<0:=fun p h=>by
   have:=hoff p h;have: ¬0<l.value p:=fun h'=>hq ⟨p,h,h'⟩;grind
  refine⟨Pw l c fun s hs=>?_,hall⟩;obtain⟨p1,p2⟩:=hc.edge s hs;have hr:=qn (m:=l.rev) hc.ne (fun p h=>by rw[fE];have:=hall p h;grind) ((p2 _).1 (m9 p1).has);rw[fE] at hr;constructor
  .have: ¬0<mO l s:=fun h=>by have:=(mc _).1 h;grind
   omega
  .rintro rfl
   obtain⟨p,hp⟩:=hc.ne;have:=hall p hp;have:=hp s hs;grind
def r7(hc:bO c)(hl:l.ok):c6 c l=true↔ ∃p,bw c p/\0<l.value p:=by
 unfold c6
 cases hp:jP c l with
 |some v=>exact⟨fun _=>(DM hl.ne hp).1,fun _=>J⟩
 |none=>
  simp only[tL,hp,Option.isSome_none,iL,if_false,decide_eq_true_iff];rcases Jn hc hl hp with⟨h1,h2⟩|⟨h1,h2⟩
  .refine⟨fun _=>?_,fun _=>h1⟩
   obtain⟨p,hp⟩:=hc.ne;exact⟨p,hp,h2 p hp⟩
  .refine⟨fun h=>absurd h h1,?_⟩
   rintro ⟨p,hp,h⟩;have:=h2 p hp;grind
def jp(hc:bO c)(hl:l.ok)(hb:c6 c l=true):bO (b4 c l)/\ ∀p,bw (b4 c l) p↔bw c p/\0<l.value p:=by
 unfold b4
 cases hp:jP c l with
 |some v=>exact Ts hc hl hp
 |none=>
  refine⟨hc,fun p=>?_⟩;unfold c6 at hb;simp only[hp,tL,Option.isSome_none,iL,if_false,decide_eq_true_iff] at hb;rcases Jn hc hl hp with⟨h1,h2⟩|⟨h1,h2⟩
  .exact⟨fun h=>⟨h,h2 p h⟩,fun h=>h.1⟩
  .exact absurd hb h1
def Le(hl:l.ok)(hp:bw c p)(h0:l.value p=0):(∃q,bw c q/\0<l.value q)/\ ∃q,bw c q/\l.value q<0:=by
 have hn:=o8 hl.ne;constructor
 .obtain⟨e,he,hm⟩:=hp.open l.nor
  refine⟨_,hm e (cM he) fR,?_⟩;rw[gD,h0];have:=eE he hn;grind
 .obtain⟨e,he,hm⟩:=hp.open ⟨-l.nor.x, -l.nor.y⟩
  refine⟨_,hm e (cM he) fR,?_⟩;rw[gD,h0];have:=eE he hn;simp only[ab.dot] at this⊢;grind
inductive UP (c:az) (l:aa):Prop
 |left (h1:c6 c l.rev=false) (h: ∀p,bw c p->0<l.value p)
 |right (h1:c6 c l.rev=true) (h2:c6 c l=false) (h: ∀p,bw c p->l.value p<0)
 |both (h1:c6 c l.rev=true) (h2:c6 c l=true) (g1:bO (b4 c l)) (g2:bO (b4 c l.rev))
   (e1: ∀p,bw (b4 c l) p↔bw c p/\0<l.value p) (e2: ∀p,bw (b4 c l.rev) p↔bw c p/\l.value p<0)
def uQ(hc:bO c)(hl:l.ok):UP c l:=by
 have hr:=r7 hc hl.rev;have hi:=r7 hc hl
 cases h1:c6 c l.rev with
 |false=>
  refine .left h1 fun p hp=>?_;have hn: ¬ ∃q,bw c q/\l.value q<0:=by
   rintro ⟨q,a,b⟩;have:=hr.2 ⟨q,a,by rw[fE];grind⟩;rw[h1] at this;exact absurd this v6
  have n1: ¬l.value p<0:=fun h=>hn ⟨p,hp,h⟩;have n2:l.value p≠0:=fun h=>hn (Le hl hp h).2;grind
 |true=>
  cases h2:c6 c l with
  |false=>
   refine .right h1 h2 fun p hp=>?_;have hn: ¬ ∃q,bw c q/\0<l.value q:=by
    intro h;have:=hi.2 h;rw[h2] at this;exact absurd this v6
   have n1: ¬0<l.value p:=fun h=>hn ⟨p,hp,h⟩;have n2:l.value p≠0:=fun h=>hn (Le hl hp h).1;grind
  |true=>
   obtain⟨g1,e1⟩:=jp hc hl h2;obtain⟨g2,e2⟩:=jp hc hl.rev h1;refine .both h1 h2 g1 g2 e1 fun p=>?_;rw[e2,fE];constructor<;>rintro ⟨a,b⟩<;>exact⟨a,v7⟩
def Tr.restrict_A(X Y:Tr)(h:c6 e l.rev=false):(Tr.node l X Y).restrict e=X.restrict e:=by
 rw[Tr.restrict,h];rfl
def Tr.restrict_B(X Y:Tr)(h:c6 e l.rev=true)(h2:c6 e l=false):(Tr.node l X Y).restrict e=Y.restrict e:=by
 rw[Tr.restrict,h,h2];rfl
def Tr.restrict_C(X Y:Tr)(h:c6 e l.rev=true)(h2:c6 e l=true):(Tr.node l X Y).restrict e=Tr.joinQ l (X.restrict (b4 e l)) (Y.restrict (b4 e l.rev)):=by
 rw[Tr.restrict,h,h2];rfl
def pD:List aa->az->Option az
 |[],c=>some c
 |l::t,c=>if c6 c l then pD t (b4 c l) else none
def JN: ∀{ls:List aa} {c e:az},bO c->(∀l∈ls,l.ok)->pD ls c=some e->bO e/\ ∀p,bw e p↔bw c p/\ ∀l∈ls,0<l.value p
 |[],c,e,hc,_,h=>by
  obtain rfl:c=e:=by simpa[pD] using h
  exact⟨hc,fun p=>⟨fun h=>⟨h,fun l hl=>absurd hl v8⟩,fun h=>h.1⟩⟩
 |l::t,c,e,hc,hl,h=>by
  have hl':=dX.1 hl;rw[pD] at h;split at h
  .rename_i hb
   obtain⟨g1,g2⟩:=jp hc hl'.1 hb;obtain⟨k1,k2⟩:=JN g1 hl'.2 h;refine⟨k1,fun p=>?_⟩;rw[k2,g2,dX,and_assoc]
  .exact absurd h v8
def OC: ∀{ls:List aa} {c:az},bO c->(∀l∈ls,l.ok)->(∃p,bw c p/\ ∀l∈ls,0<l.value p)-> ∃e,pD ls c=some e
 |[],c,_,_,_=>⟨c,J⟩
 |l::t,c,hc,hl,⟨p,h1,h2⟩=>by
  have hl':=dX.1 hl;have h2':=dX.1 h2;have hb:=(r7 hc hl'.1).2 ⟨p,h1,h2'.1⟩;obtain⟨g1,g2⟩:=jp hc hl'.1 hb;rw[pD,if_pos hb];exact OC g1 hl'.2 ⟨p,(g2 p).2 ⟨h1,h2'.1⟩,h2'.2⟩
def Np(hc:bO c)(hs:s∈c)(hm:m.ok)(h: ∀p,bw c p->0<m.value p)(hz:m.value (s.l.at s.v.sample)=0):m=s.l:=by
 obtain⟨p1,p2⟩:=hc.edge s hs;have hi:=m9 p1;have hge: ∀t,s.v.has t->0<=m.value (s.l.at t):=fun t ht=>qn hc.ne h ((p2 t).1 ht);obtain⟨⟨u1,m1,n1⟩,⟨u2,m2,n2⟩⟩:=Ez hi;have g1:=hge _ n1;have g2:=hge _ n2;rw[jq] at hz g1 g2;have hK:s.l.cutK m=0:=by
  rcases mn (s.l.cutK m) with h|h|h
  .exact h
  .exfalso
   have:=eE (a:=s.v.sample-u1) (b:=s.l.cutK m) v7 h;grind
  .exfalso
   have:=eE (a:=u2-s.v.sample) (b:= -s.l.cutK m) v7 v7;grind
 have hz2: ∀t,m.value (s.l.at t)=0:=fun t=>by rw[jq,hK];rw[hK] at hz;grind
 rcases wD hm (hc.ok s hs) hz2 with h'|h'
 .exact h'
 .exfalso
  obtain⟨q,hq⟩:=hc.ne;have:=h q hq;rw[h',fE] at this;have:=hq s hs;grind
def et(l:aa):List aa->ak->Option ak
 |[],v=>some v
 |m::t,v=>if m=l then et l t v else if l.cutB v m then et l t (l.cutV v m) else none
def cw(c:List aa)(p:ab):Prop:= ∀m∈c,0<m.value p
def x5(l:aa): ∀(c:List aa) (v w:ak),v.Pos->et l c v=some w->
  w.Pos/\(∀t,w.ins t↔v.ins t/\ ∀m∈c,m≠l->0<m.value (l.at t))
 |[],v,w,hv,h=>by
  obtain rfl:v=w:=by simpa[et] using h
  exact⟨hv,fun t=>⟨fun h=>⟨h,fun s hs=>absurd hs v8⟩,fun h=>h.1⟩⟩
 |m::c,v,w,hv,h=>by
  rw[et] at h;split at h
  .rename_i hm
   obtain⟨h1,h2⟩:=x5 l c _ w hv h;refine⟨h1,fun t=>?_⟩;rw[h2,dX];exact⟨fun h=>⟨h.1,fun h'=>absurd hm h',h.2⟩,fun h=>⟨h.1,h.2.2⟩⟩
  .rename_i hm
   split at h
   .rename_i hb
    obtain⟨h1,h2⟩:=x5 l c _ w (xw hv hb) h;refine⟨h1,fun t=>?_⟩;rw[h2,I3 hb,dX,and_assoc];exact⟨fun h=>⟨h.1,fun _=>h.2.1,h.2.2⟩,fun h=>⟨h.1,h.2.1 hm,h.2.2⟩⟩
   .exact absurd h v8
def Fo(l:aa): ∀(c:List aa) (v:ak),v.Pos->et l c v=none-> ∀t,v.has t-> ¬ ∀m∈c,m≠l->0<m.value (l.at t)
 |[],v,hv,h=>by simp[et] at h
 |m::c,v,hv,h=>by
  intro t ht hd;have hd':=dX.1 hd;rw[et] at h;split at h
  .exact Fo l c _ hv h t ht hd'.2
  .rename_i hm
   split at h
   .rename_i hb
    exact Fo l c _ (xw hv hb) h t ((zp hb t).2 ⟨ht,cM (hd'.1 hm)⟩) hd'.2
   .rename_i hb
    have:=EF hv (by simpa using hb) ht;have:=hd'.1 hm;grind
def gG(c:List aa):Bool:=c.isEmpty||c.any (fun l=>(et l c ak.all).isSome)
def Pk: ∀{ls:List aa} {c e:az},pD ls c=some e-> ∀s∈e,s.l∈ls\/ ∃s'∈c,s'.l=s.l
 |[],c,e,h,s,hs=>by
  obtain rfl:c=e:=by simpa[pD] using h
  exact .inr ⟨s,hs,J⟩
 |l::t,c,e,h,s,hs=>by
  rw[pD] at h;split at h
  .rcases Pk h s hs with h1|⟨s',h1,h2⟩
   .exact .inl (aK _ h1)
   .unfold b4 at h1
    split at h1
    .rcases oH.1 h1 with rfl|h1
     .exact .inl (by rw[<-h2];exact aZ)
     .obtain⟨s1,m1,_,rfl⟩:=p6.1 h1
      exact .inr ⟨s1,m1,h2⟩
    .exact .inr ⟨s',h1,h2⟩
  .exact absurd h v8
def BU{c:List aa}(hok: ∀l∈c,l.ok)(hne: ∃p,cw c p): ∃e,pD c []=some e/\bO e/\(∀p,bw e p↔cw c p)/\ ∀s∈e,s.l∈c/\(et s.l c ak.all).isSome=true:=by
 obtain⟨p,hp⟩:=hne;obtain⟨e,he⟩:=OC bO.nil hok ⟨p,fun s hs=>absurd hs v8,hp⟩;obtain⟨g1,g2⟩:=JN bO.nil hok he;have g3: ∀p,bw e p↔cw c p:=fun p=>by
  rw[g2];exact⟨fun h=>h.2,fun h=>⟨fun s hs=>absurd hs v8,h⟩⟩
 refine⟨e,he,g1,g3,fun s hs=>?_⟩;have hm:s.l∈c:=by
  rcases Pk he s hs with h|⟨_,h,_⟩
  .exact h
  .exact absurd h v8
 refine⟨hm,?_⟩
 cases hp:et s.l c ak.all with
 |some w=>rfl
 |none=>
  exfalso;obtain⟨p1,p2⟩:=g1.edge s hs;have hC:=(p2 s.v.sample).1 (m9 p1).has;refine Fo s.l c _ uu hp s.v.sample (ES _) fun m hmc hne=>?_;have hall: ∀p,bw e p->0<m.value p:=fun p hp=>(g3 p).1 hp m hmc;have h0:=qn g1.ne hall hC;have h1:m.value (s.l.at s.v.sample)≠0:=fun hz=>hne (Np g1 hs (hok m hmc) hall hz);grind
def vj{c:List aa}(hok: ∀l∈c,l.ok):gG c=true↔ ∃p,cw c p:=by
 unfold gG;rw[gR,List.isEmpty_iff,jX];constructor
 .rintro (rfl|⟨l,hl,h⟩)
  .exact⟨⟨0,0⟩,fun m hm=>absurd hm v8⟩
  .obtain⟨w,hw⟩:=pM.1 h
   obtain⟨w1,w2⟩:=x5 l c _ w uu hw;have hi:=((w2 w.sample).1 (m9 w1)).2;have h0:=kC (hok l hl).ne w.sample;have hd:bw ((c.filter (fun m=>decide (m≠l))).map (fun m=>(⟨m,ak.all⟩:bi))) (l.at w.sample):=by
    intro s hs;obtain⟨m,hm,rfl⟩:=aN.1 hs;rw[qK,decide_eq_true_iff] at hm;exact hi m hm.1 hm.2
   obtain⟨e,he,ho⟩:=hd.open l.nor;refine⟨ce (l.at w.sample) l.nor e,fun m hm=>?_⟩;by_cases hml:m=l
   .subst hml
    rw[gD,h0];have:=eE he (o8 (hok m hl).ne);grind
   .exact ho e (cM he) fR ⟨m,ak.all⟩ (aN.2 ⟨m,qK.2 ⟨hm,by simpa using hml⟩,J⟩)
 .intro hne
  obtain⟨e,h1,h2,h3,h4⟩:=BU hok hne
  cases c with
  |nil=>exact .inl J
  |cons l c=>
   right
   cases e with
   |nil=>
    exfalso;have:=(h3 (l.at 0)).1 (fun s hs=>absurd hs v8) l aZ;rw[kC (hok l aZ).ne] at this;exact absurd this v6
   |cons s e=>
    obtain⟨a,b⟩:=h4 s aZ;exact⟨s.l,a,b⟩
def mi(out:List aa)(l:aa):Nat:=(out.takeWhile (fun x=>decide (fq x.dir l.dir<0))).length
def ng(out:List aa)(l:aa):List aa:=if out[mi out l]? =some l then out else out.take (mi out l)++l::out.drop (mi out l)
def mf(c:List aa):List aa->List aa->List aa
 |[],out=>out
 |l::t,out=>mf c t (if(et l c ak.all).isSome then ng out l else out)
def c7(c:List aa):List aa:=mf c c []
def Hd{out:List aa}:m∈ng out l↔m=l\/m∈out:=by
 unfold ng;split
 .rename_i h
  exact⟨fun h=> .inr h,fun h'=>h'.elim (fun e=>e▸aV h) id⟩
 .generalize mi out l=n
  have h:=jK n out;rw[bJ,aT];constructor
  .rintro (h1|h1|h1)
   .exact .inr (dW h1)
   .exact .inl h1
   .exact .inr (gK h1)
  .rintro (h1|h1)
   .exact .inr (.inl h1)
   .rw[<-h,bJ] at h1
    rcases h1 with h1|h1
    .exact .inl h1
    .exact .inr (.inr h1)
def Mi{c:List aa}{m:aa}: ∀{t out:List aa},m∈mf c t out↔m∈out\/m∈t/\(et m c ak.all).isSome=true
 |[],out=>by simp[mf]
 |l::t,out=>by
  rw[mf,Mi];split
  .rename_i h
   rw[Hd,aT];constructor
   .rintro ((rfl|h1)|⟨h1,h2⟩)
    .exact .inr ⟨.inl J,h⟩
    .exact .inl h1
    .exact .inr ⟨.inr h1,h2⟩
   .rintro (h1|⟨rfl|h1,h2⟩)
    .exact .inl (.inr h1)
    .exact .inl (.inl J)
    .exact .inr ⟨h1,h2⟩
  .rename_i h
   rw[aT];constructor
   .rintro (h1|⟨h1,h2⟩)
    .exact .inl h1
    .exact .inr ⟨.inr h1,h2⟩
   .rintro (h1|⟨rfl|h1,h2⟩)
    .exact .inl h1
    .exact absurd h2 h
    .exact .inr ⟨h1,h2⟩
def lF{c:List aa}:m∈c7 c↔m∈c/\(et m c ak.all).isSome=true:=by
 unfold c7;rw[Mi];simp
def wH{c:List aa}(hok: ∀l∈c,l.ok)(hne: ∃p,cw c p)(p:ab):cw (c7 c) p↔cw c p:=by
 constructor
 .intro h
  obtain⟨e,h1,h2,h3,h4⟩:=BU hok hne;exact(h3 p).1 fun s hs=>h s.l (lF.2 (h4 s hs))
 .intro h m hm;exact h m (lF.1 hm).1
def lB(c:List aa)(l:aa):Int:=if gG (c++[l])&&gG (c++[l.rev]) then 0 else if gG (c++[l]) then 1 else-1
def Tr.restrictL:Tr->List aa->Tr
 | .leaf b,_=> .leaf b
 | .node l x y,c=>if lB c l=1 then x.restrictL c else if lB c l= -1 then y.restrictL c else joinQ l (x.restrictL (c7 (c++[l]))) (y.restrictL (c7 (c++[l.rev])))
def i5{c:List aa}:cw (c++[l]) p↔cw c p/\0<l.value p:=by
 unfold cw;rw[rQ];simp
def gu{c:List aa}(hok: ∀m∈c,m.ok)(hl:l.ok): ∀m∈c++[l],m.ok:=by
 rw[rQ];exact⟨hok,by simpa using hl⟩
def Tr.restrictL_eq: ∀(t:Tr) (c:List aa) (d:az),t.all aa.ok->(∀l∈c,l.ok)->bO d->(∀p,bw d p↔cw c p)->t.restrictL c=t.restrict d
 | .leaf b,c,d,_,_,_,_=>rfl
 | .node l x y,c,d,h,hc,hd,he=>by
  obtain⟨hl,hx,hy⟩:=h;have i1:=vj (gu hc hl);have i2:=vj (gu hc hl.rev);obtain⟨p0,hp0⟩:=hd.ne;rcases uQ hd hl with⟨a1,a⟩|⟨a1,a2,a⟩|⟨a1,a2,ag1,ag2,ae1,ae2⟩
  .have b1:gG (c++[l])=true:=i1.2 ⟨p0,i5.2 ⟨(he p0).1 hp0,a p0 hp0⟩⟩
   have b2:gG (c++[l.rev])=false:=by
    rw[<-jM,i2];rintro ⟨p,hp⟩;have hp:=i5.1 hp;have:=a p ((he p).2 hp.1);rw[fE] at hp;grind
   rw[Tr.restrict_A _ _ a1,Tr.restrictL,lB,b1,b2];exact x.restrictL_eq c d hx hc hd he
  .have b2:gG (c++[l.rev])=true:=i2.2 ⟨p0,i5.2 ⟨(he p0).1 hp0,by rw[fE];have:=a p0 hp0;grind⟩⟩
   have b1:gG (c++[l])=false:=by
    rw[<-jM,i1];rintro ⟨p,hp⟩;have hp:=i5.1 hp;have:=a p ((he p).2 hp.1);grind
   rw[Tr.restrict_B _ _ a1 a2,Tr.restrictL,lB,b1,b2];exact y.restrictL_eq c d hy hc hd he
  .have n1: ∃p,cw (c++[l]) p:=by
    obtain⟨p,hp⟩:=ag1.ne;exact⟨p,i5.2 ⟨(he p).1 ((ae1 p).1 hp).1,((ae1 p).1 hp).2⟩⟩
   have n2: ∃p,cw (c++[l.rev]) p:=by
    obtain⟨p,hp⟩:=ag2.ne;exact⟨p,i5.2 ⟨(he p).1 ((ae2 p).1 hp).1,by rw[fE];have:=((ae2 p).1 hp).2;grind⟩⟩
   rw[Tr.restrict_C _ _ a1 a2,Tr.restrictL,lB,i1.2 n1,i2.2 n2];have k1:=x.restrictL_eq (c7 (c++[l])) (b4 d l) hx (fun m hm=>gu hc hl m (lF.1 hm).1) ag1 fun p=>by
    rw[wH (gu hc hl) n1,ae1,i5,he]
   have k2:=y.restrictL_eq (c7 (c++[l.rev])) (b4 d l.rev) hy (fun m hm=>gu hc hl.rev m (lF.1 hm).1) ag2 fun p=>by
    rw[wH (gu hc hl.rev) n2,ae2,i5,he,fE];constructor<;>rintro ⟨a,b⟩<;>exact⟨a,v7⟩
   rw[k1,k2];rfl
end Go.Sx
end
section
namespace Go.Sx
open Go Go.Proofs Tryz
variable {GB G:Gh}{P:Program}{C:aD}{n e s by_ off len cap g d i j:Nat}{fr:Fr}{own' own1 rest:List av}{Φ:Act->World->Prop}{dst:Option Nat}{t t' ty':TypeId}{pos:String}{af:Array Edge}{y:Operand}{z:Int}{q:Rat}
structure Hx where
 lo:RV
 hi:RV
 nl:Bool
 nh:Bool
def Hx.v(z:Hx):Value:= .agg ⟨[.int .i64 z.lo.n, .int .i64 z.lo.d, .pointer z.lo.p, .int .i64 z.hi.n, .int .i64 z.hi.d, .pointer z.hi.p, .bool z.nl, .bool z.nh]⟩
section
variable {own:List av}
variable {gd:Option (Nat×Bool)}{x:Operand}
end

structure N1 where
 l:LV
 v:Hx
def N1.val(z:N1):Value:= .agg ⟨[.int .i64 z.l.a.n, .int .i64 z.l.a.d, .pointer z.l.a.p, .int .i64 z.l.b.n, .int .i64 z.l.b.d, .pointer z.l.b.p, .int .i64 z.l.c.n, .int .i64 z.l.c.d, .pointer z.l.c.p, .int .i64 z.v.lo.n, .int .i64 z.v.lo.d, .pointer z.v.lo.p, .int .i64 z.v.hi.n, .int .i64 z.v.hi.d, .pointer z.v.hi.p, .bool z.v.nl, .bool z.v.nh]⟩

section
variable {own:List av}
variable {gd:Option (Nat×Bool)}{x:Operand}
def SB{o1 o2:av}(h:o1.b≠o2.b->St C n fr (o1::o2::rest) G Φ):St C n fr (o1::o2::rest) G Φ:=
 fun a w rl=>h ((bN.1 rl.h.nd).1 _ aZ) a w rl
def Bg[hT:cg P t e s by_]{k:IntKind}{b:Nat}{l:Int}(hx:aB fr x=some (.slice (some ⟨b,off,none⟩) len cap))(hy:aB fr y=some (.int k l))(h0:0<=l:=by omega)(h1:l<=len:=by omega)(h2:l<cap:=by omega):
  Yd P C fr own G ⟨dst, .slice t x (some y) none none,ty',pos,af,gd⟩ (.slice (some ⟨b,off+l.toNat*s,none⟩) (len-l.toNat) (cap-l.toNat)):=by
 have h:=Hu (P:=P) (C:=C) (own:=own) (G:=G) (t:=t) (dst:=dst) (ty':=ty') (pos:=pos) (af:=af) (gd:=gd) (by_:=by_) hx hy h0 h1;unfold lO at h;rw[if_neg pb] at h;simpa[qb] using h
end

section
variable {own:List av}
variable {gd:Option (Nat×Bool)}{x:Operand}
end


structure ND where
 a:IV
 b:IV
 c:IV
 l:Int
 r:Int
def ND.val(z:ND):Value:= .agg ⟨[.bool z.a.neg, .slice z.a.a.a z.a.a.n z.a.a.c, .bool z.b.neg, .slice z.b.a.a z.b.a.n z.b.a.c, .bool z.c.neg, .slice z.c.a.a z.c.a.n z.c.a.c, .int .i64 z.l, .int .i64 z.r]⟩


structure Mo where
 x:SV
 p:Option Addr
def Mo.val(z:Mo):Value:= .agg ⟨[.slice z.x.a z.x.n z.x.c, .pointer z.p]⟩
structure LI where
 a:IV
 b:IV
 c:IV
def LI.val(z:LI):Value:= .agg ⟨[.bool z.a.neg, .slice z.a.a.a z.a.a.n z.a.a.c, .bool z.b.neg, .slice z.b.a.a z.b.a.n z.b.a.c, .bool z.c.neg, .slice z.c.a.a z.c.a.n z.c.a.c]⟩
def uK{a b:Int}(h:a=b):eI a=eI b:=by rw[h]
def A'(z:Int):eQ (z:Rat)= .ag [.v (.bool (decide (z<0))),dN z.natAbs, .sl []]:=by unfold eQ;rw[qX,qJ];rfl
def AC{a:Rat}(h:a.den=1):((a.num:Int):Rat)=a:=Rat.ext (qX _) (by rw[qJ,h])
def Wy{a b:Rat}(ha:a.den=1)(hb:b.den=1):a+b=((a.num+b.num:Int):Rat):=by
 rw[oU,AC ha,AC hb]
def TO{a b:Rat}(ha:a.den=1)(hb:b.den=1):a*b=((a.num*b.num:Int):Rat):=by
 rw[cK,AC ha,AC hb]
def vY(n:Nat)(h:0<n):(if n=1 then [] else(dg n).map dU).length=0↔n=1:=by
 by_cases q:n=1
 .simp[q]
 .rw[if_neg q,aX,sj];omega
def Mm(h:n≠1):dD n=dN n:=by unfold dD;rw[if_neg h];rfl
def HO:(iE g 1=0)↔g=1:=by
 unfold iE;constructor
 .intro h;split at h
  .exact absurd h v6
  .split at h
   .assumption
   .exact absurd h v6
 .rintro rfl;rfl
def IM{x:Int}(hd:0<d):zv (decide (x<0)) (x.natAbs/Nat.gcd x.natAbs d)=(mkRat x d).num:=by
 rw[Rat.num_mkRat,if_neg pb,iU];have hg:0<Nat.gcd d x.natAbs:=nM _ hd;obtain⟨c,hc⟩:Nat.gcd d x.natAbs∣x.natAbs:=nQ _ _;generalize Nat.gcd d x.natAbs=g at*;rw[hc,Nat.mul_div_cancel_left _ hg];unfold zv;by_cases q:x<0
 .rw[if_pos (by simpa using q),show x=(g:Int)*(-(c:Int)) by rw[rN,<-gM];omega,Int.mul_ediv_cancel_left _ pb]
 .rw[if_neg (by simpa using q),show x=(g:Int)*(c:Int) by rw[<-gM];omega,Int.mul_ediv_cancel_left _ pb]
def Pm{x:Int}(hd:0<d):d/Nat.gcd x.natAbs d=(mkRat x d).den:=by
 rw[Rat.den_mkRat,if_neg pb,iU]
def Z4{x:Int}(hd:0<d)(h:Nat.gcd x.natAbs d=1):(mkRat x d).num=x/\(mkRat x d).den=d:=by
 rw[<-IM hd,<-Pm hd,h,tK,tK];exact⟨ku x,J⟩
instance BI.zv (neg:Bool) (m i:Nat) [h:BN m i]:BI (zv neg m) i:=⟨by rw[pI];exact h.h⟩
section
variable {Q0:Exit->Act->World->Prop}{fr fr':aA}{own own':aF}{cf cf':Cf}{vc:List Prop}
def PD(fr:aA)(cf:Cf):Option Int:=match cO fr cf with
 |some ⟨_, .convert t t' x,_,_,_,_⟩=>match di tt t,di tt t' with
  |some ⟨.int .i64,_,_,_⟩,some ⟨.int .u64,_,_,_⟩=>match ba (bH fr cf) x with
   |some (.d (.v (.int .i64 p)))=>some p
   |_=>none
  |_,_=>none
 |_=>none
def Vb[fu:Fu]{p:Int}(q:Int)(h:PD fr cf=some p)(e:p%18446744073709551616=q)(hgo:cv tt n fu.n fr own cf (.d (.v (.int .u64 q))) [] []=⟨vc,fr',own',cf'⟩)(k:ao prog GB C n Q0 fr' own' cf')
  (hv:aj vc:=by first|exact trivial|(simp only[aj];omega)):ao prog GB C n Q0 fr own cf:=by
 unfold PD at h;split at h<;>try (cases h;done)
 rename_i hh;split at h<;>try (cases h;done)
 rename_i hT hT';split at h<;>cases h;rename_i hx;have:=wk (dw _ _ hT) J;have:=wk (dw _ _ hT') J;refine us hh (.x1 hx fun ρ G ov a w y _ r h1 h2=>?_) hgo hv k;rw[cC] at h2;subst h2;refine⟨_,cC.2 J,?_⟩;rw[<-e,<-pq];exact CL h1
def Jm(fr:aA)(cf:Cf):Option Int:=match cO fr cf with
 |some ⟨_, .unOp .neg _ x,_,_,_,_⟩=>match ba (bH fr cf) x with
  |some (.d (.v (.int .u64 p)))=>some p
  |_=>none
 |_=>none
def ngw[fu:Fu]{p:Int}(q:Int)(h:Jm fr cf=some p)(e:(0-p)%18446744073709551616=q)(hgo:cv tt n fu.n fr own cf (.d (.v (.int .u64 q))) [] []=⟨vc,fr',own',cf'⟩)(k:ao prog GB C n Q0 fr' own' cf')
  (hv:autoParam (aj vc) Vb._auto_1):ao prog GB C n Q0 fr own cf:=by
 unfold Jm at h;split at h<;>try (cases h;done)
 rename_i hh;split at h<;>cases h;rename_i hx;refine us hh (.x1 hx fun ρ G ov a w y _ r h1 h2=>?_) hgo hv k;rw[cC] at h2;subst h2;refine⟨_,cC.2 J,?_⟩;rw[<-e,<-pq];exact Fl h1
end
def N9{n:Int}(h0: -4611686018427387904<=n:=by omega)(h1:n<=4611686018427387904:=by omega):PF GB prog 99 [.v (.int .i64 n)] (eI n):=by
 refine fn func99 J J ntmps99 J J (fun C=>?_);refine br (fu1:=⟨3⟩) (fu2:=⟨6⟩) J J J (fun hc4=>?_) (fun hc4=>?_)
 .
  refine Vb (fu:=⟨0⟩) (18446744073709551616+n) J pb J<|ngw (n.natAbs:Nat) J pb J<|cl J (qo (u:=n.natAbs)) J<|cl J jr J<|rz J (uK (by unfold zv;rw[if_pos J];omega))
 .
  refine ah 11 (.d (.v (.int .u64 (n.natAbs:Nat)))) J (ome pb)<|gx J<|cl J (qo (u:=n.natAbs)) J<|cl J jr J<|rz J (uK (by unfold zv;rw[if_neg v6];omega))
def AV:PF GB prog 130 [eI z] (vI z.sign):=by
 have hl:=bC (dg z.natAbs);have hz:= @sj z.natAbs;refine fn func130 J J ntmps130 J J (fun C=>?_);refine br J J J (fun hc6=>?_) (fun hc6=>?_)
 .
  exact rz J okN
 .
  refine bd J J J (fun hc8=>?_) (fun hc8=>?_)
  .
   exact rz J ozi
  .
   exact rz J ozm
def yk:PF GB prog 167 [eI z] (eI (-z)):=by
 refine fn func167 J J ntmps167 J J (fun C=>?_);refine cl J jr J<|rz J (uK (Zs z))
def S6{a b:Int}(h:decide (a<0)=decide (b<0)):zv (decide (a<0)) (a.natAbs+b.natAbs)=a+b:=by
 unfold zv;have h':a<0↔b<0:=by simpa using h
 by_cases q:a<0
 .have:=h'.1 q
  simp[q];omega
 .have: ¬b<0:=fun w=>q (h'.2 w)
  simp[q];omega
def Yb{a b:Int}(h: ¬decide (a<0)=decide (b<0))(k:a.natAbs<b.natAbs):zv (decide (b<0)) (b.natAbs-a.natAbs)=a+b:=by
 unfold zv;have h': ¬(a<0↔b<0):=by simpa using h
 by_cases q:b<0
 .have: ¬a<0:=fun w=>h' ⟨fun _=>q,fun _=>w⟩
  simp[q];omega
 .have:a<0:=Int.not_le.1 fun w=>h' ⟨fun e=>by omega,fun e=>absurd e q⟩
  simp[q];omega
def Ze{a b:Int}(h: ¬decide (a<0)=decide (b<0))(k:b.natAbs<=a.natAbs):zv (decide (a<0)) (a.natAbs-b.natAbs)=a+b:=by
 unfold zv;have h': ¬(a<0↔b<0):=by simpa using h
 by_cases q:a<0
 .have: ¬b<0:=fun w=>h' ⟨fun _=>w,fun _=>q⟩
  simp[q];omega
 .have:b<0:=Int.not_le.1 fun w=>h' ⟨fun e=>absurd e q,fun e=>by omega⟩
  simp[q];omega
def CT{a b:Int}[ha:BI a i][hb:BI b j](hi:i<=400000000:=by decide)(hj:j<=400000000:=by decide):PF GB prog 53 [eI a,eI b] (eI (a+b)):=by
 have hba:=k9 ha.h;have hbb:=k9 hb.h;refine fn (fu:=⟨15⟩) func53 J J ntmps53 J J (fun C=>?_);refine ah 9 (.d (.v (.bool (decide (decide (a<0)=decide (b<0)))))) J (by congr 2)<|gx J<|bd J J J (fun hc9=>?_) (fun hc9=>?_)
 .
  refine cl J (Tn pb pb) J<|cl J jr J<|rz J (uK (S6 hc9))
 .
  refine cl J (xj) J<|br J J J (fun hc23=>?_) (fun hc23=>?_)
  .
   refine cl J (Ey (by have:=wb.1 hc23;omega) pb) J<|cl J jr J<|rz J (uK (Yb hc9 (wb.1 hc23)))
  .
   refine cl J (Ey (rT fun q=>hc23 (wb.2 q)) pb) J<|cl J jr J<|rz J (uK (Ze hc9 (rT fun q=>hc23 (wb.2 q))))
def sP{a b:Int}[ha:BI a i][hb:BI b j](hi:i<=400000000:=by decide)(hj:j<=400000000:=by decide):PF GB prog 55 [eI a,eI b] (eI (a*b)):=by
 refine fn func55 J J ntmps55 J J (fun C=>?_);refine cl J (o9 pb pb) J<|cl J jr J<|rz J (uK (S3 a b))
def EB{a b:Int}[ha:BI a i][hb:BI b j](hi:i<=400000000:=by decide)(hj:j<=400000000:=by decide):PF GB prog 237 [eI a,eI b] (vI (a-b).sign):=by
 refine fn func237 J J ntmps237 J J (fun C=>?_);refine cl J yk J<|cl J (CT pb pb) J<|cl J AV J<|rz J (by rw[Int.sub_eq_add_neg];rfl)
def jw:PF GB prog 57 [eQ q] (dN q.den):=by
 refine fn func57 J J ntmps57 J J (fun C=>?_);refine br J J J (fun hc6=>?_) (fun hc6=>?_)
 .
  refine cl J FE J<|rz J (by rw[(vY q.den (ld q)).1 pb];rfl)
 .
  exact rz J (by exact Mm (fun e=>hc6 (by exact congrArg Int.ofNat ((vY q.den (ld q)).2 e))))
def L9{k:Nat}[h:BN n k](hk:k<=500000000:=by omega):(dg n).length<=100000000:=by have:=k9 h.h;omega
def uN{x:Int}[hx:BI x i][hd:BN d j](hd0:0<d)(hi:i<=200000000:=by decide)(hj:j<=200000000:=by decide):PF GB prog 54 [eI x,dN d] (eQ (mkRat x d)):=by
 obtain⟨q,hq⟩: ∃q,q=mkRat x d:=⟨_,rfl⟩;obtain⟨g,hg⟩: ∃g,g=Nat.gcd x.natAbs d:=⟨_,rfl⟩;have hg0:0<g:=hg▸pL _ hd0;haveI hgB:BN g (i+j):=hg▸inferInstance;have hg1:(dg g).length<=100000000:=L9 (k:=i+j);have ho1:(dg 1).length<=100000000:=by rw[wI];decide
 haveI hqB:BQ q (i+j):=hq▸ub hd0 (dJ hx.h (bU v6 pb)) (dJ hd.h (bU v6 pb));refine fn func54 J J ntmps54 J J (fun C=>?_);refine cl (fu:=⟨0⟩) J (HB pb pb) J<|ah 11 (.d (dN g)) J (by rw[hg])<|gx (fu:=⟨4⟩) J<|mg (fu:=⟨1⟩) (X:=Unit) (fun _=>[(1, .d (dN q.den)),(2, .ov 2 0),(4, .ov 4 0)]) (fun _=>[(4,some (.o 34 [.ff, .nl, .nl] true)),(2,some (.o 32 [.d (.v (.bool (decide (q.num<0)))), .d (dN q.num.natAbs)] true))]) (fun _=>True) [1,2,4] [4,2] rfl ?_ (fun _=>J) (fun _ hm=>?_)
 .
  refine gx J<|cl J FE J<|cl J (xj hg1 ho1) J<|br J J J (fun hc15=>?_) (fun hc15=>?_)
  .
   refine cl J (uT hg0 pb pb) J<|cl (fu:=⟨0⟩) J jr J<|ah 26 (.d (eI q.num)) J (by show FX.d (eI (zv _ _))=_;rw[hg,IM hd0,hq])<|gx J<|cl (fu:=⟨2⟩) J (uT hg0 pb pb) J<|ah 31 (.d (dN q.den)) J (by rw[hg,Pm hd0,hq])<|gx J<|at_ () trivial
  .
   have hm:=Z4 (x:=x) hd0 (by rw[<-hg];exact HO.1 (Decidable.not_not.1 hc15));rw[<-hq] at hm;refine ah 1 (.d (dN q.den)) J (by rw[hm.2])<|at_ () trivial (hO:=⟨J,by rw[hm.1];rfl,trivial⟩)
 .
  refine mg (X:=Unit) (fun _=>[(1, .d (dD q.den)),(2, .ov 2 0),(4, .ov 4 0)]) (fun _=>[(4,some (.o 34 [.ff, .nl, .nl] true)),(2,some (.o 32 [.d (.v (.bool (decide (q.num<0)))), .d (dN q.num.natAbs)] true))]) (fun _=>True) [1,2,4] [4,2] rfl ?_ (fun _=>J) (fun _ hm=>?_)
  .
   refine gx J<|cl J FE J<|cl J (xj (L9 (k:=i+j)) ho1) J<|br J J J (fun hc36=>?_) (fun hc36=>?_)
   .
    refine Tq 1 J<|ah 1 (.d (dD q.den)) J (by rw[HO.1 hc36];rfl)<|at_ () trivial
   .
    refine ah 1 (.d (dD q.den)) J (by rw[Mm (fun e=>hc36 (HO.2 e))])<|at_ () trivial
  .
   exact rz J (by rw[<-hq];rfl)
def LO(a:Rat):mkRat a.num a.den=a:=by simp[tZ]
def ID{a b:Rat}(h:b≠0):a/b=mkRat (a.num*zv (decide (b.num<0)) b.den) (a.den*b.num.natAbs):=by
 rw[pV];have ha:(a.num:Rat)/(a.den:Rat)=a:=by rw[<-pV,LO]
 have hb:(b.num:Rat)/(b.den:Rat)=b:=by rw[<-pV,LO]
 have h1:(a.den:Rat)≠0:=by have:=a.den_nz;exact_mod_cast this
 have h2:(b.den:Rat)≠0:=by have:=b.den_nz;exact_mod_cast this
 have h3:(b.num:Rat)≠0:=by
  intro e;rw[e] at hb;apply h;rw[<-hb];grind
 rw[cK,Rat.natCast_mul];by_cases q:b.num<0
 .have e1:((zv (decide (b.num<0)) b.den:Int):Rat)= -(b.den:Rat):=by
   unfold zv;rw[if_pos (by simpa using q),lN];rfl
  have e2:((b.num.natAbs:Nat):Rat)= -(b.num:Rat):=by
   have:((b.num.natAbs:Nat):Int)= -b.num:=by omega
   rw[<-lN,<-this];rfl
  rw[e1,e2];generalize (a.num:Rat)=an at*;generalize (a.den:Rat)=ad at*;generalize (b.num:Rat)=bn at*;generalize (b.den:Rat)=bd at*;subst ha hb;grind
 .have e1:((zv (decide (b.num<0)) b.den:Int):Rat)=(b.den:Rat):=by
   unfold zv;rw[if_neg (by simpa using q)];rfl
  have e2:((b.num.natAbs:Nat):Rat)=(b.num:Rat):=by
   have:((b.num.natAbs:Nat):Int)=b.num:=by omega
   rw[<-this];rfl
  rw[e1,e2];generalize (a.num:Rat)=an at*;generalize (a.den:Rat)=ad at*;generalize (b.num:Rat)=bn at*;generalize (b.den:Rat)=bd at*;subst ha hb;grind
def Rn{n:Int}(hd:0<d)(h:q*(d:Rat)=(n:Rat)):q.num.natAbs<=n.natAbs/\q.den<=d:=by
 have e:q=mkRat n d:=by
  rw[pV];have:(d:Rat)≠0:=by exact_mod_cast (by omega:d≠0)
  rw[<-h];grind
 rw[e,Rat.num_mkRat,Rat.den_mkRat,if_neg pb,if_neg pb];exact⟨mT n (d.gcd n.natAbs:Nat),lL ..⟩
theorem BQ.of_frac{n:Int}(hd:0<d)(h:q*(d:Rat)=(n:Rat))(hn:n.natAbs<2^i)(hdi:d<2^i):BQ q i:=by
 have:=Rn hd h;exact⟨pb,pb⟩
def K4{b:Rat}(h:b≠0):0<b.num.natAbs:=by
 have:b.num≠0:=fun e=>h (lM.1 e);omega
instance BQ.over (a b:Rat) (i j:Nat) [ha:BQ a i] [hb:BQ b j]:BQ (a/b) (i+j):=by
 by_cases h:b=0
 .subst h
  rw[tV,Rat.inv_zero,Rat.mul_zero];have h2:=ha.hd;have h3:0<a.den:=ld a;have h4:2^i*1<=2^i*2^j:=dY _ (gV v6);rw[<-fW] at h4;exact⟨by show 0<_;omega,by show 1<_;omega⟩
 .rw[ID h]
  have hb0:=K4 h;refine ub (jJ (ld a) hb0) ?_ (oy ha.hd hb.hn);rw[iR,pI];exact oy ha.hn hb.hd
def kc{n:Int}(h0: -4611686018427387904<=n:=by decide)(h1:n<=4611686018427387904:=by decide):PF GB prog 41 [.v (.int .i64 n)] (eQ (n:Rat)):=by
 refine fn func41 J J ntmps41 J J (fun C=>?_);refine cl J (N9) J<|rz J (by rw[A'];rfl)
def nB:PF GB prog 61 [eQ q] (vI q.num.sign):=by
 refine fn func61 J J ntmps61 J J (fun C=>?_);refine cl J AV J<|rz J J
def uG:PF GB prog 160 [eQ q] (eQ (-q)):=by
 refine fn func160 J J ntmps160 J J (fun C=>?_);refine cl J yk J<|rz J (by unfold eQ;rw[mM,sQ];rfl)
def iu{a b:Rat}[ha:BQ a i][hb:BQ b j](hi:i<=20000000:=by decide)(hj:j<=20000000:=by decide):PF GB prog 132 [eQ a,eQ b] (eQ (a*b)):=by
 have had:=ld a;have hbd:=ld b;have hdp:=jJ had hbd;have e1:=vY a.den had;have e2:=vY b.den hbd;refine fn func132 J J ntmps132 J J (fun C=>?_);refine cs 9 J J J (fun hg9=>?_) (fun hg9=>?_)
 .
  refine br J J J (fun hc14=>?_) (fun hc14=>?_)
  .
   refine cl J (sP (a:=a.num) (b:=b.num) pb pb) J<|rz J (by rw[TO (e1.1 pb) (e2.1 pb),A'];rfl)
  .
   refine cl J (sP (a:=a.num) (b:=b.num) pb pb) J<|cl J jw J<|cl J jw J<|cl J (o9 pb pb) J<|cl J (uN hdp pb pb) J<|rz J (by rw[yt];rfl)
 .
  refine cl J (sP (a:=a.num) (b:=b.num) pb pb) J<|cl J jw J<|cl J jw J<|cl J (o9 pb pb) J<|cl J (uN hdp pb pb) J<|rz J (by rw[yt];rfl)
def ll{a b:Rat}[ha:BQ a i][hb:BQ b j](hi:i<=20000000:=by decide)(hj:j<=20000000:=by decide):PF GB prog 18 [eQ a,eQ b] (eQ (a+b)):=by
 have had:=ld a;have hbd:=ld b;have hdp:=jJ had hbd;have e1:=vY a.den had;have e2:=vY b.den hbd;refine fn func18 J J ntmps18 J J (fun C=>?_);refine cs 9 J J J (fun hg9=>?_) (fun hg9=>?_)
 .
  refine br J J J (fun hc14=>?_) (fun hc14=>?_)
  .
   refine cl J (CT pb pb) J<|rz J (by rw[Wy (e1.1 pb) (e2.1 pb),A'];rfl)
  .
   refine cl J jw J<|cl J jr J<|cl J (sP (a:=a.num) (b:=zv false b.den) pb pb) J<|cl J jw J<|cl J jr J<|cl J (sP (a:=b.num) (b:=zv false a.den) pb pb) J<|cl J (CT pb pb) J<|cl J jw J<|cl J jw J<|cl J (o9 pb pb) J<|cl J (uN hdp pb pb) J<|rz J (by rw[wT];rfl)
 .
  refine cl J jw J<|cl J jr J<|cl J (sP (a:=a.num) (b:=zv false b.den) pb pb) J<|cl J jw J<|cl J jr J<|cl J (sP (a:=b.num) (b:=zv false a.den) pb pb) J<|cl J (CT pb pb) J<|cl J jw J<|cl J jw J<|cl J (o9 pb pb) J<|cl J (uN hdp pb pb) J<|rz J (by rw[wT];rfl)
def qp{a b:Rat}[ha:BQ a i][hb:BQ b j](hi:i<=20000000:=by decide)(hj:j<=20000000:=by decide):PF GB prog 131 [eQ a,eQ b] (eQ (a-b)):=by
 refine fn func131 J J ntmps131 J J (fun C=>?_);refine cl J (uG (q:=b)) J<|cl J (ll (a:=a) (b:= -b) hi hj) J<|rz J (by rw[Rat.sub_eq_add_neg];rfl)
def u'{a b:Rat}[ha:BQ a i][hb:BQ b j](hb0:b≠0)(hi:i<=20000000:=by decide)(hj:j<=20000000:=by decide):PF GB prog 129 [eQ a,eQ b] (eQ (a/b)):=by
 have hbp:=K4 hb0;have hdp:=jJ (ld a) hbp;refine fn func129 J J ntmps129 J J (fun C=>?_);refine cl J jw J<|cl J jr J<|cl J (sP (a:=a.num) (b:=zv (decide (b.num<0)) b.den) pb pb) J<|cl J jw J<|cl J (o9 (a:=a.den) (b:=b.num.natAbs) pb pb) J<|cl J (uN (x:=a.num*zv (decide (b.num<0)) b.den) (d:=a.den*b.num.natAbs) hdp pb pb) J<|rz J (by rw[ID hb0];rfl)
def kz{a b:Rat}[ha:BQ a i][hb:BQ b j](hi:i<=20000000:=by decide)(hj:j<=20000000:=by decide):PF GB prog 236 [eQ a,eQ b] (vI (bm a b)):=by
 refine fn func236 J J ntmps236 J J (fun C=>?_);refine cl J (qp hi hj) J<|cl J nB J<|rz J (by show vI _=vI _;rw[BB])
def Uk:((2:Int):Rat)≠0:=by decide
instance BI.two:BI 2 2:=⟨v6⟩
def CA{a:Rat}[ha:BQ a i](hi:i<=20000000:=by decide):PF GB prog 59 [eQ a] (eQ (a/2)):=by
 refine fn func59 J J ntmps59 J J (fun C=>?_);refine cl J (kc (n:=2)) J<|cl J (u' (a:=a) (b:=((2:Int):Rat)) Uk hi v6) J<|rz J J
def HN{a b:Rat}[ha:BQ a i][hb:BQ b j](hi:i<=2000000:=by decide)(hj:j<=2000000:=by decide):PF GB prog 235 [eQ a,eQ b] (eQ ((a+b)/2)):=by
 refine fn func235 J J ntmps235 J J (fun C=>?_);refine cl J (ll pb pb) J<|cl J (CA (a:=a+b) pb) J<|rz J J
end Go.Sx
end
