import Derived.Test.YtnnpcjkdmmjknaaGreatDoorMg4
import Derived.Laws.Externs
import Derived.Lib.Overlaps
set_option linter.all false
set_option maxRecDepth 100000
section
namespace Go.Sx
open Go
variable {a u:Rat}{A G G' G0 GB:Gh}{B M rest own' own1 own0 L:List av}{l m:aa}{p q:ah}{C:aD}{K:Value->List av->Gh->Prop}{e:ar}{y:Value}{w w':World}{P:Program}{f:FuncId}{vs c1 c2 cs' ys xs cs1 cs2:List Value}{n by_ off cap l2 cap2 i:Nat}{Φ:Act->World->Prop}{dst:Option Nat}{t' ty' tS tR t1 t2:TypeId}{pos:String}{af:Array Edge}{gd:Option (Nat×Bool)}{fo:Operand}{args:Array Operand}{tys:Array TypeId}{ad ad2:Option Addr}{ops:Array Oper}{Q:Exit->Act->World->Prop}{fin:Nat->Bool}{π₂ π:List (Nat×Bool)}
def jw(l:aa)(p:ah):l.value p=(l.a:Rat)*p.x+(l.b:Rat)*p.y+(l.c:Rat):=rfl
def eD(l:aa)(p:ah):l.rev.value p= -l.value p:=by
 rw[jw,jw];have h1:((l.rev.a:Int):Rat)= -(l.a:Rat):=(F7 l.a).symm;have h2:((l.rev.b:Int):Rat)= -(l.b:Rat):=(F7 l.b).symm;have h3:((l.rev.c:Int):Rat)= -(l.c:Rat):=(F7 l.c).symm;rw[h1,h2,h3];grind
def kB(q p:ah)(e:Rat):ah:=⟨q.x+e*(p.x-q.x),q.y+e*(p.y-q.y)⟩
def l9(l:aa)(q p:ah)(e:Rat):l.value (kB q p e)=l.value q+e*(l.value p-l.value q):=by
 simp only[jw,kB];grind
def cD(q u:ah)(e:Rat):ah:=⟨q.x+e*u.x,q.y+e*u.y⟩
def jF(l:aa)(q u:ah)(e:Rat):l.value (cD q u e)=l.value q+e*l.nor.dot u:=by
 simp only[jw,cD,aa.nor,ah.dot];grind
def dh{b:Rat}(ha:0<a)(hb:0<b):0<a*b:=Rat.mul_pos ha hb
def cG{b:Rat}(ha:0<=a)(hb:0<=b):0<=a*b:=Rat.mul_nonneg ha hb
def DX(a:Rat):0<=a*a:=by
 by_cases h:0<=a
 .exact cG h h
 .have:=cG (a:= -a) (b:= -a) (by grind) (by grind)
  grind
def f9{s k:Rat}(hk:0<k):0<s*k↔0<s:=by
 constructor
 .intro h
  by_cases hs:0<s
  .exact hs
  .have:=cG (a:= -s) (b:=k) (by grind) (by grind)
   grind
 .intro h;exact dh h hk
def iv{s k:Rat}(hk:0<k):0<=s*k↔0<=s:=by
 constructor
 .intro h
  by_cases hs:0<=s
  .exact hs
  .have:=dh (a:= -s) (b:=k) (by grind) hk
   grind
 .intro h;exact cG h (by grind)
def KJ{A B v:Rat}(h0:0<=A)(h1:0<=A+v*B)(hu:0<=u)(huv:u<=v):0<=A+u*B:=by
 by_cases hB:0<=B
 .have:=cG hu hB;grind
 .have:=cG (a:=v-u) (b:= -B) (by grind) (by grind)
  grind
def aa.Ne(l:aa):Prop:= ¬(l.a=0/\l.b=0)
def aa.ok.ne(h:l.ok):l.Ne:=h.1
def oq(h:l.Ne):0<l.nor.dot l.nor:=by
 show 0<(l.a:Rat)*l.a+(l.b:Rat)*l.b;have h1:=DX (l.a:Rat);have h2:=DX (l.b:Rat);by_cases ha:l.a=0
 .have hb:l.b≠0:=fun hb=>h ⟨ha,hb⟩
  have hb':(l.b:Rat)≠0:=fun e=>hb (cX.1 e);have:(l.b:Rat)*l.b≠0:=by grind
  grind
 .have ha':(l.a:Rat)≠0:=fun e=>ha (cX.1 e)
  have:(l.a:Rat)*l.a≠0:=by grind
  grind
def BK(h:l.Ne): ∃q:Rat,l.nor.dot l.nor*q= -(l.c:Rat)/\l.base=⟨(l.a:Rat)*q,(l.b:Rat)*q⟩:=by
 refine⟨-(l.c:Rat)/l.nor.dot l.nor,?_,J⟩;have:=oq h;grind
def mC(l m:aa)(t:Rat):m.value (l.at t)=l.cutC m+t*l.cutK m:=by
 simp only[aa.cutC,aa.cutK,jw,aa.at,ah.add,ah.scale,aa.dir,aa.nor,ah.dot];grind
def mj(h:l.Ne)(t:Rat):l.value (l.at t)=0:=by
 obtain⟨q,h1,h2⟩:=BK h;simp only[jw,aa.at,h2,ah.add,ah.scale,aa.dir];simp only[aa.nor,ah.dot] at h1;grind
def Bu(h:l.Ne)(hp:l.value p=0): ∃t,p=l.at t:=by
 obtain⟨q,h1,h2⟩:=BK h;have hn:=oq h;obtain⟨x,y⟩:=p;rw[jw] at hp;simp only[aa.nor,ah.dot] at h1 hn;refine⟨((l.b:Rat)*x-(l.a:Rat)*y)/((l.a:Rat)*l.a+(l.b:Rat)*l.b),?_⟩;generalize ht:((l.b:Rat)*x-(l.a:Rat)*y)/((l.a:Rat)*l.a+(l.b:Rat)*l.b)=t;have ht':((l.a:Rat)*l.a+(l.b:Rat)*l.b)*t=(l.b:Rat)*x-(l.a:Rat)*y:=by grind
 simp only[aa.at,h2,ah.add,ah.scale,aa.dir,ah.mk.injEq];generalize (l.a:Rat)=a at*;generalize (l.b:Rat)=b at*;generalize (l.c:Rat)=c at*;have e1:(a*a+b*b)*(x-(a*q+b*t))=0:=by grind
 have e2:(a*a+b*b)*(y-(b*q+ -a*t))=0:=by grind
 constructor<;>grind
def ao.has(v:ao)(t:Rat):Prop:=(v.nl=true\/v.lo<=t)/\(v.nh=true\/t<=v.hi)
def ao.ins(v:ao)(t:Rat):Prop:=(v.nl=true\/v.lo<t)/\(v.nh=true\/t<v.hi)
def ao.Pos(v:ao):Prop:=v.nl=true\/v.nh=true\/v.lo<v.hi
def ap3(a b:Rat):0<=bA a b↔b<=a:=by
 unfold bA;split
 .constructor
  .intro h;exact absurd h (by decide)
  .intro h;grind
 .split
  .constructor
   .intro _;grind
   .intro _;decide
  .constructor
   .intro _;grind
   .intro _;decide
def Eg(v:ao):v.empty=false↔v.Pos:=by
 obtain⟨lo,hi,nl,nh⟩:=v;unfold ao.empty ao.Pos
 cases nl<;>cases nh<;>simp[ap3]
 first|exact Rat.not_le|grind
def ao.ins.has{v:ao}{t:Rat}(h:v.ins t):v.has t:=by
 obtain⟨h1,h2⟩:=h;exact⟨h1.imp id (fun h=>cM h),h2.imp id (fun h=>cM h)⟩
def aDI:mkRat 1 2=(1:Rat)/2:=by rw[nK];rfl
def pd{v:ao}(h:v.Pos):v.ins v.sample:=by
 obtain⟨lo,hi,nl,nh⟩:=v;unfold ao.Pos at h;unfold ao.ins ao.sample;rw[aDI]
 cases nl<;>cases nh<;>simp at* <;>grind
def RX(v w:ao)(t:Rat):(v.meet w).has t↔v.has t/\w.has t:=by
 obtain⟨lo,hi,nl,nh⟩:=v;obtain⟨lo',hi',nl',nh'⟩:=w;unfold ao.has ao.meet
 cases nl<;>cases nh<;>cases nl'<;>cases nh'<;>simp<;>grind
def RT(v w:ao)(t:Rat):(v.meet w).ins t↔v.ins t/\w.ins t:=by
 obtain⟨lo,hi,nl,nh⟩:=v;obtain⟨lo',hi',nl',nh'⟩:=w;unfold ao.ins ao.meet
 cases nl<;>cases nh<;>cases nl'<;>cases nh'<;>simp<;>grind
def FM(t:Rat):ao.all.has t:=⟨.inl J, .inl J⟩
def xv:ao.all.Pos:= .inl J
def pH(k:Rat):Int.sign k.num=0↔k=0:=by rw[iX,mQ]
def ax4(k:Rat):0<k.num↔0<k:=by
 have h1:0<=k.num↔0<=k:=sW;have h2:k.num=0↔k=0:=mQ;constructor
 .intro h
  have a:=h1.1 (by omega);have b:k≠0:=fun e=>by have:=h2.2 e;omega
  grind
 .intro h
  have a:=h1.2 (by grind);have b:k.num≠0:=fun e=>by have:=h2.1 e;grind
  omega
def EF(k:Rat):Int.sign k.num=1↔0<k:=by rw[Int.sign_eq_one_iff_pos,ax4]
def n7(k:Rat):0<Int.sign k.num↔0<k:=by
 rw[<-EF];rcases qJ k.num 0 with h|h|h
 .rw[fZ h];decide
 .rw[h];decide
 .rw[fS h];decide
def Kh(k:Rat):Int.sign k.num<0↔k<0:=by
 have h1:=pH k;have h2:=n7 k;constructor
 .intro h
  by_cases hk:0<k
  .have:=h2.2 hk;omega
  .by_cases h0:k=0
   .have:=h1.2 h0;omega
   .grind
 .intro h
  have a1: ¬Int.sign k.num=0:=fun e=>by have:=h1.1 e;grind
  have a2: ¬0<Int.sign k.num:=fun e=>by have:=h2.1 e;grind
  omega
def B9(v:ao)(hk:l.cutK m=0):l.cutV v m=v/\(l.cutB v m=true↔0<l.cutC m):=by
 have h:=(pH (l.cutK m)).2 hk;unfold aa.cutV aa.cutB;rw[if_pos h,if_pos h,decide_eq_true_iff,n7];exact⟨J,Iff.rfl⟩
def Bg(v:ao)(hk:0<l.cutK m):l.cutV v m=v.meet ⟨-(l.cutC m/l.cutK m),0,false,true⟩/\(l.cutB v m=true↔(l.cutV v m).Pos):=by
 have h0: ¬Int.sign (l.cutK m).num=0:=fun e=>by have:=(pH _).1 e;grind
 have h1:=(EF (l.cutK m)).2 hk;constructor
 .unfold aa.cutV;rw[if_neg h0,if_pos h1]
 .unfold aa.cutB;rw[if_neg h0,<-Eg];simp
def BB(v:ao)(hk:l.cutK m<0):l.cutV v m=v.meet ⟨0, -(l.cutC m/l.cutK m),true,false⟩/\(l.cutB v m=true↔(l.cutV v m).Pos):=by
 have h0: ¬Int.sign (l.cutK m).num=0:=fun e=>by have:=(pH _).1 e;grind
 have h1: ¬Int.sign (l.cutK m).num=1:=fun e=>by have:=(EF _).1 e;grind
 constructor
 .unfold aa.cutV;rw[if_neg h0,if_neg h1]
 .unfold aa.cutB;rw[if_neg h0,<-Eg];simp
def YS{C K t:Rat}(hk:0<K): -(C/K)<=t↔0<=C+t*K:=by
 have e:C=C/K*K:=by grind
 generalize C/K=d at*;rw[e,show d*K+t*K=(d+t)*K from by grind,iv hk];grind
def PK{C K t:Rat}(hk:0<K): -(C/K)<t↔0<C+t*K:=by
 have e:C=C/K*K:=by grind
 generalize C/K=d at*;rw[e,show d*K+t*K=(d+t)*K from by grind,f9 hk];grind
def Zc{C K t:Rat}(hk:K<0):t<= -(C/K)↔0<=C+t*K:=by
 have e:C=C/K*K:=by grind
 generalize C/K=d at*;rw[e,show d*K+t*K=(-(d+t))*(-K) from by grind,iv (by grind)];grind
def Oe{C K t:Rat}(hk:K<0):t< -(C/K)↔0<C+t*K:=by
 have e:C=C/K*K:=by grind
 generalize C/K=d at*;rw[e,show d*K+t*K=(-(d+t))*(-K) from by grind,f9 (by grind)];grind
def kE(k:Rat):k=0\/0<k\/k<0:=by grind
def E6{v:ao}(hb:l.cutB v m=true)(t:Rat):(l.cutV v m).has t↔v.has t/\0<=m.value (l.at t):=by
 rw[mC];rcases kE (l.cutK m) with hk|hk|hk
 .obtain⟨h1,h2⟩:=B9 v hk
  rw[h1,hk];have:=h2.1 hb;constructor
  .intro h;exact⟨h,by grind⟩
  .exact fun h=>h.1
 .rw[(Bg v hk).1,RX,<-YS hk]
  simp[ao.has]
 .rw[(BB v hk).1,RX,<-Zc hk]
  simp[ao.has]
def LO{v:ao}(hb:l.cutB v m=true)(t:Rat):(l.cutV v m).ins t↔v.ins t/\0<m.value (l.at t):=by
 rw[mC];rcases kE (l.cutK m) with hk|hk|hk
 .obtain⟨h1,h2⟩:=B9 v hk
  rw[h1,hk];have:=h2.1 hb;constructor
  .intro h;exact⟨h,by grind⟩
  .exact fun h=>h.1
 .rw[(Bg v hk).1,RT,<-PK hk]
  simp[ao.ins]
 .rw[(BB v hk).1,RT,<-Oe hk]
  simp[ao.ins]
def A1{v:ao}(hv:v.Pos)(hb:l.cutB v m=true):(l.cutV v m).Pos:=by
 rcases kE (l.cutK m) with hk|hk|hk
 .rw[(B9 v hk).1];exact hv
 .exact(Bg v hk).2.1 hb
 .exact(BB v hk).2.1 hb
def JE{v:ao}(hv:v.Pos)(hb:l.cutB v m=false){t:Rat}(ht:v.has t):m.value (l.at t)<=0:=by
 rw[mC];have hb': ¬l.cutB v m=true:=by rw[hb];decide
 rcases kE (l.cutK m) with hk|hk|hk
 .have h2:=(B9 v hk).2
  have: ¬0<l.cutC m:=fun h=>hb' (h2.2 h);rw[hk];grind
 .obtain⟨h1,h2⟩:=Bg v hk
  have hn: ¬(l.cutV v m).Pos:=fun h=>hb' (h2.2 h);rw[h1] at hn;have h3:=PK (C:=l.cutC m) (t:=t) hk
  suffices¬(-(l.cutC m/l.cutK m)<t) by grind
  generalize-(l.cutC m/l.cutK m)=d at*;obtain⟨lo,hi,nl,nh⟩:=v;unfold ao.Pos ao.meet at hn;unfold ao.Pos at hv;unfold ao.has at ht
  cases nl<;>cases nh<;>simp at* <;>grind
 .obtain⟨h1,h2⟩:=BB v hk
  have hn: ¬(l.cutV v m).Pos:=fun h=>hb' (h2.2 h);rw[h1] at hn;have h3:=Oe (C:=l.cutC m) (t:=t) hk
  suffices¬(t< -(l.cutC m/l.cutK m)) by grind
  generalize-(l.cutC m/l.cutK m)=d at*;obtain⟨lo,hi,nl,nh⟩:=v;unfold ao.Pos ao.meet at hn;unfold ao.Pos at hv;unfold ao.has at ht
  cases nl<;>cases nh<;>simp at* <;>grind
def bt(c:ar)(p:ah):Prop:= ∀s∈c,0<s.l.value p
def iA(c:ar)(p:ah):Prop:= ∀s∈c,0<=s.l.value p
def bt.c{c:ar}{p:ah}(h:bt c p):iA c p:=fun s hs=>cM (h s hs)
def Hp(l:aa): ∀(c:ar) (v w:ao),v.Pos->ot l c v=some w->
  w.Pos/\(∀t,w.has t↔v.has t/\iA c (l.at t))/\(∀t,w.ins t↔v.ins t/\bt c (l.at t))
 |[],v,w,hv,h=>by
  obtain rfl:v=w:=by simpa[ot] using h
  exact⟨hv,fun t=>⟨fun h=>⟨h,fun s hs=>absurd hs (by simp)⟩,fun h=>h.1⟩,fun t=>⟨fun h=>⟨h,fun s hs=>absurd hs (by simp)⟩,fun h=>h.1⟩⟩
 |s::c,v,w,hv,h=>by
  rw[ot] at h;split at h
  .rename_i hb
   obtain⟨h1,h2,h3⟩:=Hp l c _ w (A1 hv hb) h;refine⟨h1,fun t=>?_,fun t=>?_⟩
   .rw[h2,E6 hb]
    simp only[iA,dT];exact and_assoc
   .rw[h3,LO hb]
    simp only[bt,dT];exact and_assoc
  .exact absurd h (by simp)
def Py(l:aa): ∀(c:ar) (v:ao),v.Pos->ot l c v=none-> ∀t,v.has t-> ¬bt c (l.at t)
 |[],v,hv,h=>by simp[ot] at h
 |s::c,v,hv,h=>by
  intro t ht hd;have hd':=dT.1 hd;rw[ot] at h;split at h
  .rename_i hb
   exact Py l c _ (A1 hv hb) h t ((E6 hb t).2 ⟨ht,cM hd'.1⟩) hd'.2
  .rename_i hb
   have:=JE hv (by simpa using hb) ht;have:=hd'.1;grind
def bt.open: ∀{c:ar} {q:ah} (u:ah),bt c q-> ∃e:Rat,0<e/\ ∀d,0<=d->d<=e->bt c (cD q u d)
 |[],q,u,_=>⟨1,by decide,fun d _ _ s hs=>absurd hs (by simp)⟩
 |s::c,q,u,h=>by
  have h':=dT.1 h;obtain⟨e,he,hd⟩:=bt.open (c:=c) u h'.2;have hs:=h'.1;generalize hk:s.l.nor.dot u=k;have hf: ∃f:Rat,0<f/\ ∀d,0<=d->d<=f->0<s.l.value q+d*k:=by
   by_cases hk0:0<=k
   .exact⟨1,by decide,fun d h1 _=>by have:=cG h1 hk0;grind⟩
   .refine⟨s.l.value q/(2* -k),?_,fun d h1 h2=>?_⟩
    .have e1:s.l.value q/(2* -k)*(2* -k)=s.l.value q:=by grind
     exact(f9 (k:=2* -k) (by grind)).1 (by rw[e1];exact hs)
    .have e1:s.l.value q/(2* -k)*(2* -k)=s.l.value q:=by grind
     generalize s.l.value q/(2* -k)=f at*;have:=cG (a:=f-d) (b:= -k) (by grind) (by grind);grind
  obtain⟨f,hf0,hf⟩:=hf;by_cases hef:e<=f
  .refine⟨e,he,fun d h1 h2=>dT.2 ⟨?_,hd d h1 h2⟩⟩
   rw[jF,hk];exact hf d h1 (by grind)
  .refine⟨f,hf0,fun d h1 h2=>dT.2 ⟨?_,hd d h1 (by grind)⟩⟩
   rw[jF,hk];exact hf d h1 h2
def IJ: ∀{c:ar} {q p:ah},bt c q->(∃s∈c,s.l.value p<=0)->
  ∃e:Rat,0<=e/\e<=1/\(∃s∈c,s.l.value p<=0/\s.l.value (kB q p e)=0)/\iA c (kB q p e)
 |[],q,p,_,h=>by obtain⟨s,hs,_⟩:=h;exact absurd hs (by simp)
 |s::c,q,p,h,hex=>by
  have h':=dT.1 h;have hs:=h'.1;by_cases hc: ∃s∈c,s.l.value p<=0
  .obtain⟨e,h0,h1,⟨s1,m1,n1,z1⟩,hC⟩:=IJ h'.2 hc
   by_cases hp:0<=s.l.value (kB q p e)
   .exact⟨e,h0,h1,⟨s1,aJ _ m1,n1,z1⟩,dT.2 ⟨hp,hC⟩⟩
   .rw[l9] at hp
    generalize hB:s.l.value p-s.l.value q=B at*;have hB0:B<0:=by
     by_cases hB0:0<=B
     .have:=cG h0 hB0;grind
     .grind
    have e1:s.l.value q/(-B)*(-B)=s.l.value q:=by grind
    generalize hf:s.l.value q/(-B)=f at*;have f0:0<=f:=(iv (k:= -B) (by grind)).1 (by rw[e1];grind);have f1:f<=e:=by
     have:=(iv (s:=e-f) (k:= -B) (by grind)).1 (by grind);grind
    have z:s.l.value (kB q p f)=0:=by rw[l9,hB];grind
    have np:s.l.value p<=0:=by
     have:=cG (a:=1-e) (b:= -B) (by grind) (by grind);grind
    refine⟨f,f0,by grind,⟨s,aQ,np,z⟩,dT.2 ⟨by rw[z];exact iS,fun s2 m2=>?_⟩⟩;have a1:=h'.2 s2 m2;have a2:=hC s2 m2;rw[l9] at a2⊢;exact KJ (cM a1) a2 f0 f1
  .have np:s.l.value p<=0:=by
    obtain⟨s1,m1,n1⟩:=hex;rcases aW.1 m1 with rfl|m1
    .exact n1
    .exact absurd ⟨s1,m1,n1⟩ hc
   generalize hB:s.l.value p-s.l.value q=B at*;have hB0:B<0:=by grind
   have e1:s.l.value q/(-B)*(-B)=s.l.value q:=by grind
   generalize hf:s.l.value q/(-B)=f at*;have f0:0<=f:=(iv (k:= -B) (by grind)).1 (by rw[e1];grind);have f1:f<=1:=by
    have:=(iv (s:=1-f) (k:= -B) (by grind)).1 (by grind);grind
   have z:s.l.value (kB q p f)=0:=by rw[l9,hB];grind
   refine⟨f,f0,f1,⟨s,aQ,np,z⟩,dT.2 ⟨by rw[z];exact iS,fun s2 m2=>?_⟩⟩;have a1:=h'.2 s2 m2;have a2:0<s2.l.value p:=by
    by_cases h:0<s2.l.value p
    .exact h
    .exact absurd ⟨s2,m2,by grind⟩ hc
   rw[l9];have:=KJ (A:=s2.l.value q) (B:=s2.l.value p-s2.l.value q) (u:=f) (v:=1) (cM a1) (by grind) f0 f1;exact this
structure bD (c:ar):Prop where
 ne: ∃p,bt c p
 ok: ∀s∈c,s.l.ok
 edge: ∀s∈c,s.v.Pos/\ ∀t,s.v.has t↔iA c (s.l.at t)
def bD.nil:bD []:=⟨⟨⟨0,0⟩,fun s hs=>absurd hs (by simp)⟩,fun s hs=>absurd hs (by simp),fun s hs=>absurd hs (by simp)⟩
def tv{c:ar}(hne: ∃q,bt c q)(h: ∀p,bt c p->0<m.value p)(hp:iA c p):0<=m.value p:=by
 obtain⟨q,hq⟩:=hne;have mq:=h q hq;by_cases hm:0<=m.value p
 .exact hm
 .exfalso
  generalize hB:m.value q-m.value p=B;have hB0:0<B:=by grind
  have e1: -m.value p/B*B= -m.value p:=by grind
  generalize-m.value p/B=e at*;have e0:0<e:=(f9 hB0).1 (by rw[e1];grind);have e2:e<=1:=by
   have:=(iv (s:=1-e) hB0).1 (by grind);grind
  have hd:bt c (kB p q e):=fun s hs=>by
   rw[l9];have a:=hp s hs;have b:=hq s hs;have:=dh e0 b;have:=cG (a:=1-e) (b:=s.l.value p) (by grind) a;grind
  have:=h _ hd;rw[l9,hB,e1] at this;grind
def ta{l:aa}{s':bz}: ∀{c:ar},s'∈d6 l c↔ ∃s∈c,s.l.cutB s.v l=true/\s'=⟨s.l,s.l.cutV s.v l⟩
 |[]=>by simp[d6]
 |s::c=>by
  rw[d6];split
  .rename_i hb
   rw[aW,ta (c:=c)];constructor
   .rintro (rfl|⟨s1,h1,h2⟩)
    .exact⟨s,aQ,hb,J⟩
    .exact⟨s1,aJ _ h1,h2⟩
   .rintro ⟨s1,h1,h2,h3⟩
    rcases aW.1 h1 with rfl|h1
    .exact .inl h3
    .exact .inr ⟨s1,h1,h2,h3⟩
  .rename_i hb
   rw[ta (c:=c)];constructor
   .rintro ⟨s1,h1,h2⟩;exact⟨s1,aJ _ h1,h2⟩
   .rintro ⟨s1,h1,h2,h3⟩
    rcases aW.1 h1 with rfl|h1
    .exact absurd h2 hb
    .exact⟨s1,h1,h2,h3⟩
def ry{c:ar}{v:ao}{s:bz}:s∈l5 c l v↔s=⟨l,v⟩\/s∈c:=by
 unfold l5;generalize f8 (ji c l) 0 c.length=n;rw[bW,aW];have h:=lZ n c;constructor
 .rintro (h1|h1|h1)
  .exact .inr (fN h1)
  .exact .inl h1
  .exact .inr (gN h1)
 .rintro (h1|h1)
  .exact .inr (.inl h1)
  .rw[<-h,bW] at h1
   rcases h1 with h1|h1
   .exact .inl h1
   .exact .inr (.inr h1)
def azT{c:ar}(hl:l.Ne)(hp:kw c l=none)(h:bt c p):l.value p≠0:=by
 intro h0;obtain⟨t,rfl⟩:=Bu hl h0;exact Py l c _ xv hp t (FM t) h
def Il{c:ar}(hl:l.Ne){v:ao}(hp:kw c l=some v):(∃q,bt c q/\0<l.value q)/\ ∃q,bt c q/\l.value q<0:=by
 obtain⟨h1,_,h3⟩:=Hp l c _ v xv hp;have hd:=((h3 v.sample).1 (pd h1)).2;have h0:=mj hl v.sample;have hn:=oq hl;constructor
 .obtain⟨e,he,hm⟩:=hd.open l.nor
  refine⟨_,hm e (cM he) iS,?_⟩;rw[jF,h0];have:=dh he hn;grind
 .obtain⟨e,he,hm⟩:=hd.open ⟨-l.nor.x, -l.nor.y⟩
  refine⟨_,hm e (cM he) iS,?_⟩;rw[jF,h0];have:=dh he hn;simp only[ah.dot] at this⊢;grind
def auC{c:ar}{v:ao}(hc:bD c)(hl:l.ok)(hp:kw c l=some v):
  bD (l5 (d6 l c) l v)/\ ∀p,bt (l5 (d6 l c) l v) p↔bt c p/\0<l.value p:=by
 obtain⟨⟨q,hq,lq⟩,_⟩:=Il hl.ne hp;obtain⟨v1,v2,v3⟩:=Hp l c _ v xv hp;have hD: ∀p,bt (l5 (d6 l c) l v) p↔bt c p/\0<l.value p:=by
  intro p;constructor
  .intro h
   have lp:0<l.value p:=h ⟨l,v⟩ (ry.2 (.inl J));refine⟨fun s0 hs0=>?_,lp⟩;by_cases h0:0<s0.l.value p
   .exact h0
   .exfalso
    obtain⟨e,e0,e1,⟨s,ms,ns,zs⟩,hC⟩:=IJ (p:=p) hq ⟨s0,hs0,by grind⟩;obtain⟨t,ht⟩:=Bu (hc.ok s ms).ne zs;rw[ht] at hC;obtain⟨p1,p2⟩:=hc.edge s ms;have hh:=(p2 t).2 hC;have lr:0<l.value (s.l.at t):=by
     rw[<-ht,l9];by_cases hB:0<=l.value p-l.value q
     .have:=cG e0 hB;grind
     .have:=cG (a:=1-e) (b:= -(l.value p-l.value q)) (by grind) (by grind)
      grind
    have hb:s.l.cutB s.v l=true:=by
     cases hb:s.l.cutB s.v l with
     |true=>rfl
     |false=>have:=JE p1 hb hh;grind
    have:=h ⟨s.l,s.l.cutV s.v l⟩ (ry.2 (.inr (ta.2 ⟨s,ms,hb,J⟩)));simp only at this;grind
  .rintro ⟨h1,h2⟩ s hs
   rcases ry.1 hs with rfl|hs
   .exact h2
   .obtain⟨s1,m1,_,rfl⟩:=ta.1 hs
    exact h1 s1 m1
 have hne: ∃p,bt (l5 (d6 l c) l v) p:=⟨q,(hD q).2 ⟨hq,lq⟩⟩;have hC: ∀p,iA (l5 (d6 l c) l v) p↔iA c p/\0<=l.value p:=by
  intro p;constructor
  .intro h
   refine⟨fun s hs=>?_,h ⟨l,v⟩ (ry.2 (.inl J))⟩;exact tv hne (fun p hp=>((hD p).1 hp).1 s hs) h
  .rintro ⟨h1,h2⟩ s hs
   rcases ry.1 hs with rfl|hs
   .exact h2
   .obtain⟨s1,m1,_,rfl⟩:=ta.1 hs
    exact h1 s1 m1
 refine⟨⟨hne,fun s hs=>?_,fun s hs=>?_⟩,hD⟩
 .rcases ry.1 hs with rfl|hs
  .exact hl
  .obtain⟨s1,m1,_,rfl⟩:=ta.1 hs
   exact hc.ok s1 m1
 .rcases ry.1 hs with rfl|hs
  .refine⟨v1,fun t=>?_⟩
   rw[hC];simp only;rw[v2];have h0:=mj hl.ne t;constructor
   .intro h;exact⟨h.2,by rw[h0];exact iS⟩
   .intro h;exact⟨FM t,h.1⟩
  .obtain⟨s1,m1,hb,rfl⟩:=ta.1 hs
   obtain⟨p1,p2⟩:=hc.edge s1 m1;refine⟨A1 p1 hb,fun t=>?_⟩;rw[hC];simp only;rw[E6 hb,p2]
def bt.seg{c:ar}{e:Rat}(hq:bt c q)(hp:bt c p)(h0:0<=e)(h1:e<=1):bt c (kB q p e):=fun s hs=>by
 rw[l9];have a:=hq s hs;have b:=hp s hs;by_cases he:e=0
 .subst he;grind
 .have:=dh (a:=e) (by grind) b
  have:=cG (a:=1-e) (b:=s.l.value q) (by grind) (by grind);grind
def FL{v:ao}{t:Rat}(h:v.ins t):(∃u,u<t/\v.has u)/\ ∃u,t<u/\v.has u:=by
 obtain⟨lo,hi,nl,nh⟩:=v;unfold ao.ins at h;unfold ao.has;refine⟨⟨if nl=true then t-1 else lo,?_⟩,⟨if nh=true then t+1 else hi,?_⟩⟩<;>cases nl<;>cases nh<;>simp at* <;>grind
def Ae{a b c x y z:Nat}(h1:x*b=a*y)(h2:x*c=a*z)(g:Nat.gcd (Nat.gcd a b) c=1):a∣x:=by
 have e:x=Nat.gcd (Nat.gcd (x*a) (x*b)) (x*c):=by
  rw[Nat.gcd_mul_left,Nat.gcd_mul_left,g,fV]
 rw[e];exact Nat.dvd_gcd (Nat.dvd_gcd (Nat.dvd_mul_left ..) (h1▸Nat.dvd_mul_right ..)) (h2▸Nat.dvd_mul_right ..)
def Z'{a b c x y z:Int}(h1:a*y=b*x)(h2:a*z=c*x)(h3:b*z=c*y)
  (g1:Nat.gcd (Nat.gcd a.natAbs b.natAbs) c.natAbs=1)(g2:Nat.gcd (Nat.gcd x.natAbs y.natAbs) z.natAbs=1):
  (a=x/\b=y/\c=z)\/(a= -x/\b= -y/\c= -z):=by
 have n1:a.natAbs*y.natAbs=b.natAbs*x.natAbs:=by rw[<-fR,<-fR,h1]
 have n2:a.natAbs*z.natAbs=c.natAbs*x.natAbs:=by rw[<-fR,<-fR,h2]
 have n3:b.natAbs*z.natAbs=c.natAbs*y.natAbs:=by rw[<-fR,<-fR,h3]
 generalize ha:a.natAbs=A at*;generalize hb:b.natAbs=B at*;generalize hc:c.natAbs=C at*;generalize hx:x.natAbs=X at*;generalize hy:y.natAbs=Y at*;generalize hz:z.natAbs=Z at*;have gB:Nat.gcd (Nat.gcd B A) C=1:=by rw[jY B A];exact g1
 have gC:Nat.gcd (Nat.gcd C A) B=1:=by rw[Nat.gcd_assoc,jY];exact g1
 have gY:Nat.gcd (Nat.gcd Y X) Z=1:=by rw[jY Y X];exact g2
 have gZ:Nat.gcd (Nat.gcd Z X) Y=1:=by rw[Nat.gcd_assoc,jY];exact g2
 have e1:A=X:=Nat.dvd_antisymm (Ae (x:=X) (y:=Y) (z:=Z) (by grind) (by grind) g1) (Ae (x:=A) (y:=B) (z:=C) (by grind) (by grind) g2);have e2:B=Y:=Nat.dvd_antisymm (Ae (x:=Y) (y:=X) (z:=Z) (by grind) (by grind) gB) (Ae (x:=B) (y:=A) (z:=C) (by grind) (by grind) gY);have e3:C=Z:=Nat.dvd_antisymm (Ae (x:=Z) (y:=X) (z:=Y) (by grind) (by grind) gC) (Ae (x:=C) (y:=A) (z:=B) (by grind) (by grind) gZ);have s1:a=x\/a= -x:=by omega
 have s2:b=y\/b= -y:=by omega
 have s3:c=z\/c= -z:=by omega
 clear ha hb hc hx hy hz n1 n2 n3 g1 g2 gB gC gY gZ e1 e2 e3;have z1:= @pR x y;have z2:= @pR x z;have z3:= @pR y z;rcases s1 with rfl|rfl<;>rcases s2 with rfl|rfl<;>rcases s3 with rfl|rfl<;>grind
def zq(hl:l.ok)(hm:m.ok)(h: ∀t,l.value (m.at t)=0):l=m\/l=m.rev:=by
 have h0:=h 0;have h1:=h 1;rw[mC] at h0 h1;have hC:m.cutC l=0:=by grind
 have hK:m.cutK l=0:=by grind
 obtain⟨q,q1,q2⟩:=BK hm.ne;have hn:=oq hm.ne;unfold aa.cutC at hC;rw[q2,jw] at hC;unfold aa.cutK at hK;simp only[aa.nor,aa.dir,ah.dot] at hK q1 hn hC;obtain⟨a,b,c⟩:=l;obtain⟨x,y,z⟩:=m;simp only at*;have e1:a*y=b*x:=by
  have:((a*y:Int):Rat)=((b*x:Int):Rat):=by rw[cW,cW];grind
  exact pS.1 this
 have e2:a*z=c*x:=by
  have:((a*z:Int):Rat)=((c*x:Int):Rat):=by rw[cW,cW];grind
  exact pS.1 this
 have e3:b*z=c*y:=by
  have:((b*z:Int):Rat)=((c*y:Int):Rat):=by rw[cW,cW];grind
  exact pS.1 this
 rcases Z' e1 e2 e3 hl.2 hm.2 with⟨rfl,rfl,rfl⟩|⟨rfl,rfl,rfl⟩
 .exact .inl J
 .exact .inr J
def aa.ok.rev{l:aa}(h:l.ok):l.rev.ok:=by
 obtain⟨h1,h2⟩:=h;refine⟨?_,?_⟩
 .simp only[aa.rev];omega
 .simp only[aa.rev,jR];exact h2
def Oc(l:aa): ∀c:ar,(∀s∈c,ou l s<=0/\s.l≠l)-> ¬0<oI l c
 |[],_=>by simp[oI]
 |s::c,h=>by
  have h':=dT.1 h;unfold oI;rw[if_neg h'.1.2];split
  .have:=h'.1.1;omega
  .exact Oc l c h'.2
def Ps{c:ar}(hc:bD c)(hl:l.ok)(hp:kw c l=none):
  (0<oI l c/\ ∀p,bt c p->0<l.value p)\/(¬0<oI l c/\ ∀p,bt c p->l.value p<0):=by
 have hoff:=fun p (h:bt c p)=>azT hl.ne hp h;by_cases hq: ∃q,bt c q/\0<l.value q
 .left
  obtain⟨q,hq,lq⟩:=hq;have hall: ∀p,bt c p->0<l.value p:=by
   intro p h;have:=hoff p h;by_cases h0:0<l.value p
   .exact h0
   .exfalso
    have hn:l.value p<0:=by grind
    have e1:l.value q/(l.value q-l.value p)*(l.value q-l.value p)=l.value q:=by grind
    generalize l.value q/(l.value q-l.value p)=e at*;have f0:0<=e:=(iv (k:=l.value q-l.value p) (by grind)).1 (by grind);have f1:e<=1:=by
     have:=(iv (s:=1-e) (k:=l.value q-l.value p) (by grind)).1 (by grind);grind
    exact hoff _ (hq.seg h f0 f1) (by rw[l9];grind)
  refine⟨?_,hall⟩
  cases c with
  |nil=>simp[kw,ot] at hp
  |cons s c=>
   obtain⟨p1,p2⟩:=hc.edge s aQ;have hi:=pd p1;have hr:=tv hc.ne hall ((p2 _).1 hi.has);unfold oI;by_cases h0:ou l s=0
   .rw[if_neg (by simpa using h0)]
    have hz:l.value (s.l.at s.v.sample)=0:=(pH _).1 h0;have hge: ∀t,s.v.has t->0<=l.value (s.l.at t):=fun t ht=>tv hc.ne hall ((p2 t).1 ht);obtain⟨⟨u1,m1,n1⟩,⟨u2,m2,n2⟩⟩:=FL hi;have g1:=hge _ n1;have g2:=hge _ n2;rw[mC] at hz g1 g2;have hK:s.l.cutK l=0:=by
     rcases kE (s.l.cutK l) with h|h|h
     .exact h
     .exfalso
      have:=dh (a:=s.v.sample-u1) (b:=s.l.cutK l) (by grind) h;grind
     .exfalso
      have:=dh (a:=u2-s.v.sample) (b:= -s.l.cutK l) (by grind) (by grind);grind
    have hz2: ∀t,l.value (s.l.at t)=0:=fun t=>by rw[mC,hK];rw[hK] at hz;grind
    rcases zq hl (hc.ok s aQ) hz2 with h|h
    .rw[if_pos h.symm];decide
    .exfalso
     have:=hall q hq;rw[h,eD] at this;have:=hq s aQ;grind
   .rw[if_pos h0]
    have hz:l.value (s.l.at s.v.sample)≠0:=fun e=>h0 ((pH _).2 e);exact(n7 _).2 (by grind)
 .right
  have hall: ∀p,bt c p->l.value p<0:=fun p h=>by
   have:=hoff p h;have: ¬0<l.value p:=fun h'=>hq ⟨p,h,h'⟩;grind
  refine⟨Oc l c fun s hs=>?_,hall⟩;obtain⟨p1,p2⟩:=hc.edge s hs;have hr:=tv (m:=l.rev) hc.ne (fun p h=>by rw[eD];have:=hall p h;grind) ((p2 _).1 (pd p1).has);rw[eD] at hr;constructor
  .have: ¬0<ou l s:=fun h=>by have:=(n7 _).1 h;grind
   omega
  .rintro rfl
   obtain⟨p,hp⟩:=hc.ne;have:=hall p hp;have:=hp s hs;grind
def oH{c:ar}(hc:bD c)(hl:l.ok):co c l=true↔ ∃p,bt c p/\0<l.value p:=by
 unfold co
 cases hp:kw c l with
 |some v=>exact⟨fun _=>(Il hl.ne hp).1,fun _=>J⟩
 |none=>
  simp only[wD,hp,Option.isSome_none,kZ,if_false,decide_eq_true_iff];rcases Ps hc hl hp with⟨h1,h2⟩|⟨h1,h2⟩
  .refine⟨fun _=>?_,fun _=>h1⟩
   obtain⟨p,hp⟩:=hc.ne;exact⟨p,hp,h2 p hp⟩
  .refine⟨fun h=>absurd h h1,?_⟩
   rintro ⟨p,hp,h⟩;have:=h2 p hp;grind
def gt{c:ar}(hc:bD c)(hl:l.ok)(hb:co c l=true):bD (bC c l)/\ ∀p,bt (bC c l) p↔bt c p/\0<l.value p:=by
 unfold bC
 cases hp:kw c l with
 |some v=>exact auC hc hl hp
 |none=>
  refine⟨hc,fun p=>?_⟩;unfold co at hb;simp only[hp,wD,Option.isSome_none,kZ,if_false,decide_eq_true_iff] at hb;rcases Ps hc hl hp with⟨h1,h2⟩|⟨h1,h2⟩
  .exact⟨fun h=>⟨h,h2 p h⟩,fun h=>h.1⟩
  .exact absurd hb h1
def Qi{c:ar}(hl:l.ok)(hp:bt c p)(h0:l.value p=0):(∃q,bt c q/\0<l.value q)/\ ∃q,bt c q/\l.value q<0:=by
 have hn:=oq hl.ne;constructor
 .obtain⟨e,he,hm⟩:=hp.open l.nor
  refine⟨_,hm e (cM he) iS,?_⟩;rw[jF,h0];have:=dh he hn;grind
 .obtain⟨e,he,hm⟩:=hp.open ⟨-l.nor.x, -l.nor.y⟩
  refine⟨_,hm e (cM he) iS,?_⟩;rw[jF,h0];have:=dh he hn;simp only[ah.dot] at this⊢;grind
inductive ZW (c:ar) (l:aa):Prop
 |left (h1:co c l.rev=false) (h: ∀p,bt c p->0<l.value p)
 |right (h1:co c l.rev=true) (h2:co c l=false) (h: ∀p,bt c p->l.value p<0)
 |both (h1:co c l.rev=true) (h2:co c l=true) (g1:bD (bC c l)) (g2:bD (bC c l.rev))
   (e1: ∀p,bt (bC c l) p↔bt c p/\0<l.value p) (e2: ∀p,bt (bC c l.rev) p↔bt c p/\l.value p<0)
def Bc{c:ar}(hc:bD c)(hl:l.ok):ZW c l:=by
 have hr:=oH hc hl.rev;have hi:=oH hc hl
 cases h1:co c l.rev with
 |false=>
  refine .left h1 fun p hp=>?_;have hn: ¬ ∃q,bt c q/\l.value q<0:=by
   rintro ⟨q,a,b⟩;have:=hr.2 ⟨q,a,by rw[eD];grind⟩;rw[h1] at this;exact absurd this (by decide)
  have n1: ¬l.value p<0:=fun h=>hn ⟨p,hp,h⟩;have n2:l.value p≠0:=fun h=>hn (Qi hl hp h).2;grind
 |true=>
  cases h2:co c l with
  |false=>
   refine .right h1 h2 fun p hp=>?_;have hn: ¬ ∃q,bt c q/\0<l.value q:=by
    intro h;have:=hi.2 h;rw[h2] at this;exact absurd this (by decide)
   have n1: ¬0<l.value p:=fun h=>hn ⟨p,hp,h⟩;have n2:l.value p≠0:=fun h=>hn (Qi hl hp h).1;grind
  |true=>
   obtain⟨g1,e1⟩:=gt hc hl h2;obtain⟨g2,e2⟩:=gt hc hl.rev h1;refine .both h1 h2 g1 g2 e1 fun p=>?_;rw[e2,eD];constructor<;>rintro ⟨a,b⟩<;>exact⟨a,by grind⟩
def Tr.restrict_A(X Y:Tr)(h:co e l.rev=false):(Tr.node l X Y).restrict e=X.restrict e:=by
 rw[Tr.restrict,h];rfl
def Tr.restrict_B(X Y:Tr)(h:co e l.rev=true)(h2:co e l=false):(Tr.node l X Y).restrict e=Y.restrict e:=by
 rw[Tr.restrict,h,h2];rfl
def Tr.restrict_C(X Y:Tr)(h:co e l.rev=true)(h2:co e l=true):(Tr.node l X Y).restrict e=Tr.joinQ l (X.restrict (bC e l)) (Y.restrict (bC e l.rev)):=by
 rw[Tr.restrict,h,h2];rfl
def jf:List aa->ar->Option ar
 |[],c=>some c
 |l::t,c=>if co c l then jf t (bC c l) else none
def Jr: ∀{ls:List aa} {c e:ar},bD c->(∀l∈ls,l.ok)->jf ls c=some e->bD e/\ ∀p,bt e p↔bt c p/\ ∀l∈ls,0<l.value p
 |[],c,e,hc,_,h=>by
  obtain rfl:c=e:=by simpa[jf] using h
  exact⟨hc,fun p=>⟨fun h=>⟨h,fun l hl=>absurd hl (by simp)⟩,fun h=>h.1⟩⟩
 |l::t,c,e,hc,hl,h=>by
  have hl':=dT.1 hl;rw[jf] at h;split at h
  .rename_i hb
   obtain⟨g1,g2⟩:=gt hc hl'.1 hb;obtain⟨k1,k2⟩:=Jr g1 hl'.2 h;refine⟨k1,fun p=>?_⟩;rw[k2,g2,dT,and_assoc]
  .exact absurd h (by simp)
def IE: ∀{ls:List aa} {c:ar},bD c->(∀l∈ls,l.ok)->(∃p,bt c p/\ ∀l∈ls,0<l.value p)-> ∃e,jf ls c=some e
 |[],c,_,_,_=>⟨c,J⟩
 |l::t,c,hc,hl,⟨p,h1,h2⟩=>by
  have hl':=dT.1 hl;have h2':=dT.1 h2;have hb:=(oH hc hl'.1).2 ⟨p,h1,h2'.1⟩;obtain⟨g1,g2⟩:=gt hc hl'.1 hb;rw[jf,if_pos hb];exact IE g1 hl'.2 ⟨p,(g2 p).2 ⟨h1,h2'.1⟩,h2'.2⟩
def Ny{c:ar}(hc:bD c){s:bz}(hs:s∈c)(hm:m.ok)(h: ∀p,bt c p->0<m.value p)(hz:m.value (s.l.at s.v.sample)=0):m=s.l:=by
 obtain⟨p1,p2⟩:=hc.edge s hs;have hi:=pd p1;have hge: ∀t,s.v.has t->0<=m.value (s.l.at t):=fun t ht=>tv hc.ne h ((p2 t).1 ht);obtain⟨⟨u1,m1,n1⟩,⟨u2,m2,n2⟩⟩:=FL hi;have g1:=hge _ n1;have g2:=hge _ n2;rw[mC] at hz g1 g2;have hK:s.l.cutK m=0:=by
  rcases kE (s.l.cutK m) with h|h|h
  .exact h
  .exfalso
   have:=dh (a:=s.v.sample-u1) (b:=s.l.cutK m) (by grind) h;grind
  .exfalso
   have:=dh (a:=u2-s.v.sample) (b:= -s.l.cutK m) (by grind) (by grind);grind
 have hz2: ∀t,m.value (s.l.at t)=0:=fun t=>by rw[mC,hK];rw[hK] at hz;grind
 rcases zq hm (hc.ok s hs) hz2 with h'|h'
 .exact h'
 .exfalso
  obtain⟨q,hq⟩:=hc.ne;have:=h q hq;rw[h',eD] at this;have:=hq s hs;grind
def gc(l:aa):List aa->ao->Option ao
 |[],v=>some v
 |m::t,v=>if m=l then gc l t v else if l.cutB v m then gc l t (l.cutV v m) else none
def gh(c:List aa)(p:ah):Prop:= ∀m∈c,0<m.value p
def Dd(l:aa): ∀(c:List aa) (v w:ao),v.Pos->gc l c v=some w->
  w.Pos/\(∀t,w.ins t↔v.ins t/\ ∀m∈c,m≠l->0<m.value (l.at t))
 |[],v,w,hv,h=>by
  obtain rfl:v=w:=by simpa[gc] using h
  exact⟨hv,fun t=>⟨fun h=>⟨h,fun s hs=>absurd hs (by simp)⟩,fun h=>h.1⟩⟩
 |m::c,v,w,hv,h=>by
  rw[gc] at h;split at h
  .rename_i hm
   obtain⟨h1,h2⟩:=Dd l c _ w hv h;refine⟨h1,fun t=>?_⟩;rw[h2,dT];exact⟨fun h=>⟨h.1,fun h'=>absurd hm h',h.2⟩,fun h=>⟨h.1,h.2.2⟩⟩
  .rename_i hm
   split at h
   .rename_i hb
    obtain⟨h1,h2⟩:=Dd l c _ w (A1 hv hb) h;refine⟨h1,fun t=>?_⟩;rw[h2,LO hb,dT,and_assoc];exact⟨fun h=>⟨h.1,fun _=>h.2.1,h.2.2⟩,fun h=>⟨h.1,h.2.1 hm,h.2.2⟩⟩
   .exact absurd h (by simp)
def HX(l:aa): ∀(c:List aa) (v:ao),v.Pos->gc l c v=none-> ∀t,v.has t-> ¬ ∀m∈c,m≠l->0<m.value (l.at t)
 |[],v,hv,h=>by simp[gc] at h
 |m::c,v,hv,h=>by
  intro t ht hd;have hd':=dT.1 hd;rw[gc] at h;split at h
  .exact HX l c _ hv h t ht hd'.2
  .rename_i hm
   split at h
   .rename_i hb
    exact HX l c _ (A1 hv hb) h t ((E6 hb t).2 ⟨ht,cM (hd'.1 hm)⟩) hd'.2
   .rename_i hb
    have:=JE hv (by simpa using hb) ht;have:=hd'.1 hm;grind
def mA(c:List aa):Bool:=c.isEmpty||c.any (fun l=>(gc l c ao.all).isSome)
def Pf: ∀{ls:List aa} {c e:ar},jf ls c=some e-> ∀s∈e,s.l∈ls\/ ∃s'∈c,s'.l=s.l
 |[],c,e,h,s,hs=>by
  obtain rfl:c=e:=by simpa[jf] using h
  exact .inr ⟨s,hs,J⟩
 |l::t,c,e,h,s,hs=>by
  rw[jf] at h;split at h
  .rcases Pf h s hs with h1|⟨s',h1,h2⟩
   .exact .inl (aJ _ h1)
   .unfold bC at h1
    split at h1
    .rcases ry.1 h1 with rfl|h1
     .exact .inl (by rw[<-h2];exact aQ)
     .obtain⟨s1,m1,_,rfl⟩:=ta.1 h1
      exact .inr ⟨s1,m1,h2⟩
    .exact .inr ⟨s',h1,h2⟩
  .exact absurd h (by simp)
def E'{c:List aa}(hok: ∀l∈c,l.ok)(hne: ∃p,gh c p): ∃e,jf c []=some e/\bD e/\(∀p,bt e p↔gh c p)/\ ∀s∈e,s.l∈c/\(gc s.l c ao.all).isSome=true:=by
 obtain⟨p,hp⟩:=hne;obtain⟨e,he⟩:=IE bD.nil hok ⟨p,fun s hs=>absurd hs (by simp),hp⟩;obtain⟨g1,g2⟩:=Jr bD.nil hok he;have g3: ∀p,bt e p↔gh c p:=fun p=>by
  rw[g2];exact⟨fun h=>h.2,fun h=>⟨fun s hs=>absurd hs (by simp),h⟩⟩
 refine⟨e,he,g1,g3,fun s hs=>?_⟩;have hm:s.l∈c:=by
  rcases Pf he s hs with h|⟨_,h,_⟩
  .exact h
  .exact absurd h (by simp)
 refine⟨hm,?_⟩
 cases hp:gc s.l c ao.all with
 |some w=>rfl
 |none=>
  exfalso;obtain⟨p1,p2⟩:=g1.edge s hs;have hC:=(p2 s.v.sample).1 (pd p1).has;refine HX s.l c _ xv hp s.v.sample (FM _) fun m hmc hne=>?_;have hall: ∀p,bt e p->0<m.value p:=fun p hp=>(g3 p).1 hp m hmc;have h0:=tv g1.ne hall hC;have h1:m.value (s.l.at s.v.sample)≠0:=fun hz=>hne (Ny g1 hs (hok m hmc) hall hz);grind
def N0{c:List aa}(hok: ∀l∈c,l.ok):mA c=true↔ ∃p,gh c p:=by
 unfold mA;rw[iT,List.isEmpty_iff,jS];constructor
 .rintro (rfl|⟨l,hl,h⟩)
  .exact⟨⟨0,0⟩,fun m hm=>absurd hm (by simp)⟩
  .obtain⟨w,hw⟩:=rX.1 h
   obtain⟨w1,w2⟩:=Dd l c _ w xv hw;have hi:=((w2 w.sample).1 (pd w1)).2;have h0:=mj (hok l hl).ne w.sample;have hd:bt ((c.filter (fun m=>decide (m≠l))).map (fun m=>(⟨m,ao.all⟩:bz))) (l.at w.sample):=by
    intro s hs;obtain⟨m,hm,rfl⟩:=aT.1 hs;rw[pL,decide_eq_true_iff] at hm;exact hi m hm.1 hm.2
   obtain⟨e,he,ho⟩:=hd.open l.nor;refine⟨cD (l.at w.sample) l.nor e,fun m hm=>?_⟩;by_cases hml:m=l
   .subst hml
    rw[jF,h0];have:=dh he (oq (hok m hl).ne);grind
   .exact ho e (cM he) iS ⟨m,ao.all⟩ (aT.2 ⟨m,pL.2 ⟨hm,by simpa using hml⟩,J⟩)
 .intro hne
  obtain⟨e,h1,h2,h3,h4⟩:=E' hok hne
  cases c with
  |nil=>exact .inl J
  |cons l c=>
   right
   cases e with
   |nil=>
    exfalso;have:=(h3 (l.at 0)).1 (fun s hs=>absurd hs (by simp)) l aQ;rw[mj (hok l aQ).ne] at this;exact absurd this (by decide)
   |cons s e=>
    obtain⟨a,b⟩:=h4 s aQ;exact⟨s.l,a,b⟩
def nO(out:List aa)(l:aa):Nat:=(out.takeWhile (fun x=>decide (gi x.dir l.dir<0))).length
def pO(out:List aa)(l:aa):List aa:=if out[nO out l]? =some l then out else out.take (nO out l)++l::out.drop (nO out l)
def n0(c:List aa):List aa->List aa->List aa
 |[],out=>out
 |l::t,out=>n0 c t (if(gc l c ao.all).isSome then pO out l else out)
def iO(c:List aa):List aa:=n0 c c []
def IT{out:List aa}:m∈pO out l↔m=l\/m∈out:=by
 unfold pO;split
 .rename_i h
  exact⟨fun h=> .inr h,fun h'=>h'.elim (fun e=>e▸aV h) id⟩
 .generalize nO out l=n
  have h:=lZ n out;rw[bW,aW];constructor
  .rintro (h1|h1|h1)
   .exact .inr (fN h1)
   .exact .inl h1
   .exact .inr (gN h1)
  .rintro (h1|h1)
   .exact .inr (.inl h1)
   .rw[<-h,bW] at h1
    rcases h1 with h1|h1
    .exact .inl h1
    .exact .inr (.inr h1)
def SY{c:List aa}{m:aa}: ∀{t out:List aa},m∈n0 c t out↔m∈out\/m∈t/\(gc m c ao.all).isSome=true
 |[],out=>by simp[n0]
 |l::t,out=>by
  rw[n0,SY];split
  .rename_i h
   rw[IT,aW];constructor
   .rintro ((rfl|h1)|⟨h1,h2⟩)
    .exact .inr ⟨.inl J,h⟩
    .exact .inl h1
    .exact .inr ⟨.inr h1,h2⟩
   .rintro (h1|⟨rfl|h1,h2⟩)
    .exact .inl (.inr h1)
    .exact .inl (.inl J)
    .exact .inr ⟨h1,h2⟩
  .rename_i h
   rw[aW];constructor
   .rintro (h1|⟨h1,h2⟩)
    .exact .inl h1
    .exact .inr ⟨.inr h1,h2⟩
   .rintro (h1|⟨rfl|h1,h2⟩)
    .exact .inl h1
    .exact absurd h2 h
    .exact .inr ⟨h1,h2⟩
def uH{c:List aa}:m∈iO c↔m∈c/\(gc m c ao.all).isSome=true:=by
 unfold iO;rw[SY];simp
def Mr{c:List aa}(hok: ∀l∈c,l.ok)(hne: ∃p,gh c p)(p:ah):gh (iO c) p↔gh c p:=by
 constructor
 .intro h
  obtain⟨e,h1,h2,h3,h4⟩:=E' hok hne;exact(h3 p).1 fun s hs=>h s.l (uH.2 (h4 s hs))
 .intro h m hm;exact h m (uH.1 hm).1
def tr(c:List aa)(l:aa):Int:=if mA (c++[l])&&mA (c++[l.rev]) then 0 else if mA (c++[l]) then 1 else-1
def Tr.restrictL:Tr->List aa->Tr
 | .leaf b,_=> .leaf b
 | .node l x y,c=>if tr c l=1 then x.restrictL c else if tr c l= -1 then y.restrictL c else joinQ l (x.restrictL (iO (c++[l]))) (y.restrictL (iO (c++[l.rev])))
def vR{c:List aa}:gh (c++[l]) p↔gh c p/\0<l.value p:=by
 unfold gh;rw[sY];simp
def oz{c:List aa}(hok: ∀m∈c,m.ok)(hl:l.ok): ∀m∈c++[l],m.ok:=by
 rw[sY];exact⟨hok,by simpa using hl⟩
def Tr.restrictL_eq: ∀(t:Tr) (c:List aa) (d:ar),t.all aa.ok->(∀l∈c,l.ok)->bD d->(∀p,bt d p↔gh c p)->t.restrictL c=t.restrict d
 | .leaf b,c,d,_,_,_,_=>rfl
 | .node l x y,c,d,h,hc,hd,he=>by
  obtain⟨hl,hx,hy⟩:=h;have i1:=N0 (oz hc hl);have i2:=N0 (oz hc hl.rev);obtain⟨p0,hp0⟩:=hd.ne;rcases Bc hd hl with⟨a1,a⟩|⟨a1,a2,a⟩|⟨a1,a2,ag1,ag2,ae1,ae2⟩
  .have b1:mA (c++[l])=true:=i1.2 ⟨p0,vR.2 ⟨(he p0).1 hp0,a p0 hp0⟩⟩
   have b2:mA (c++[l.rev])=false:=by
    rw[<-jL,i2];rintro ⟨p,hp⟩;have hp:=vR.1 hp;have:=a p ((he p).2 hp.1);rw[eD] at hp;grind
   rw[Tr.restrict_A _ _ a1,Tr.restrictL,tr,b1,b2];exact x.restrictL_eq c d hx hc hd he
  .have b2:mA (c++[l.rev])=true:=i2.2 ⟨p0,vR.2 ⟨(he p0).1 hp0,by rw[eD];have:=a p0 hp0;grind⟩⟩
   have b1:mA (c++[l])=false:=by
    rw[<-jL,i1];rintro ⟨p,hp⟩;have hp:=vR.1 hp;have:=a p ((he p).2 hp.1);grind
   rw[Tr.restrict_B _ _ a1 a2,Tr.restrictL,tr,b1,b2];exact y.restrictL_eq c d hy hc hd he
  .have n1: ∃p,gh (c++[l]) p:=by
    obtain⟨p,hp⟩:=ag1.ne;exact⟨p,vR.2 ⟨(he p).1 ((ae1 p).1 hp).1,((ae1 p).1 hp).2⟩⟩
   have n2: ∃p,gh (c++[l.rev]) p:=by
    obtain⟨p,hp⟩:=ag2.ne;exact⟨p,vR.2 ⟨(he p).1 ((ae2 p).1 hp).1,by rw[eD];have:=((ae2 p).1 hp).2;grind⟩⟩
   rw[Tr.restrict_C _ _ a1 a2,Tr.restrictL,tr,i1.2 n1,i2.2 n2];have k1:=x.restrictL_eq (iO (c++[l])) (bC d l) hx (fun m hm=>oz hc hl m (uH.1 hm).1) ag1 fun p=>by
    rw[Mr (oz hc hl) n1,ae1,vR,he]
   have k2:=y.restrictL_eq (iO (c++[l.rev])) (bC d l.rev) hy (fun m hm=>oz hc hl.rev m (uH.1 hm).1) ag2 fun p=>by
    rw[Mr (oz hc hl.rev) n2,ae2,vR,he,eD];constructor<;>rintro ⟨a,b⟩<;>exact⟨a,by grind⟩
   rw[k1,k2];rfl
def crossI(l m:aa):Int:=l.a*m.b-m.a*l.b
def meetX(l m:aa):Int:=l.b*m.c-m.b*l.c
def meetY(l m:aa):Int:=m.a*l.c-l.a*m.c
def di(l m:aa):ah:=if crossI l m=0 then⟨0,0⟩ else⟨(meetX l m:Rat)/(crossI l m:Rat),(meetY l m:Rat)/(crossI l m:Rat)⟩
def jo(l:aa)(p:ah):Rat:=p.dot l.dir/l.dir.dot l.dir
def Kl(l:aa):l.dir.dot l.dir=l.nor.dot l.nor:=by
 simp only[aa.dir,aa.nor,ah.dot];grind
def AO(h:l.Ne):0<l.dir.dot l.dir:=by rw[Kl];exact oq h
def u'(l m:aa):((crossI l m:Int):Rat)=(l.a:Rat)*m.b-(m.a:Rat)*l.b:=by
 unfold crossI;rw[iR,cW,cW]
def IQ(l m:aa):((meetX l m:Int):Rat)=(l.b:Rat)*m.c-(m.b:Rat)*l.c:=by
 unfold meetX;rw[iR,cW,cW]
def Mb(l m:aa):((meetY l m:Int):Rat)=(m.a:Rat)*l.c-(l.a:Rat)*m.c:=by
 unfold meetY;rw[iR,cW,cW]
def CI(l m:aa):l.cutK m= -((crossI l m:Int):Rat):=by
 rw[u'];simp only[aa.cutK,aa.nor,aa.dir,ah.dot];grind
def Sa(l m:aa):m.dir.cross l.dir=l.cutK m:=by
 simp only[aa.cutK,aa.nor,aa.dir,ah.dot,ah.cross];grind
def L4:(⟨-((l.c:Rat)/l.dir.dot l.dir)*(l.a:Rat), -((l.c:Rat)/l.dir.dot l.dir)*(l.b:Rat)⟩:ah)=l.base:=by
 unfold aa.base;rw[Kl];simp only[aa.nor,ah.scale,ah.mk.injEq];constructor<;>grind
def yl(l:aa)(t:Rat):cD l.base l.dir t=l.at t:=by
 simp only[cD,aa.at,ah.add,ah.scale,ah.mk.injEq];constructor<;>grind
def CE(hl:l.Ne)(h:crossI l m≠0):jo l (di l m)= -(l.cutC m/l.cutK m):=by
 have hd:((crossI l m:Int):Rat)≠0:=fun e=>h (cX.1 e);have hn:=AO hl;obtain⟨q,q1,q2⟩:=BK hl;rw[CI];unfold jo di aa.cutC;rw[if_neg h,q2,jw,IQ,Mb];have hc:=u' l m;rw[Kl] at hn⊢;simp only[aa.dir,aa.nor,ah.dot] at hn q1⊢;generalize ((crossI l m:Int):Rat)=d at*;generalize (l.a:Rat)=a at*;generalize (l.b:Rat)=b at*;generalize (l.c:Rat)=c at*;generalize (m.a:Rat)=x at*;generalize (m.b:Rat)=y at*;generalize (m.c:Rat)=z at*;have hn':a*a+b*b≠0:=by grind
 have e:((b*z-y*c)/d*b+(x*c-a*z)/d* -a)=((b*z-y*c)*b-(x*c-a*z)*a)/d:=by grind
 rw[e];have k1:(b*z-y*c)*b-(x*c-a*z)*a=(a*a+b*b)*(x*(a*q)+y*(b*q)+z):=by grind
 rw[k1];grind
def asO(hl:l.Ne)(h:crossI l m≠0):jo l (di l m)*((crossI l m*(l.a*l.a+l.b*l.b):Int):Rat)=((meetX l m*l.b-meetY l m*l.a:Int):Rat):=by
 have hd:((crossI l m:Int):Rat)≠0:=fun e=>h (cX.1 e);have hn:=AO hl;unfold jo di;rw[if_neg h];simp only[cW,iR,lV];simp only[aa.dir,ah.dot] at hn⊢;generalize ((crossI l m:Int):Rat)=d at*;generalize ((meetX l m:Int):Rat)=x at*;generalize ((meetY l m:Int):Rat)=y at*;generalize (l.a:Rat)=a at*;generalize (l.b:Rat)=b at*;have hn':b*b+ -a* -a≠0:=by grind
 grind
def FF(l m:aa)(t:List aa)(v:ao):gc l (m::t) v=if m=l then gc l t v else if l.cutB v m then gc l t (l.cutV v m) else none:=rfl
def qt(v:ao)(t:Rat):ao:=if v.nl=true\/0<bA t v.lo then⟨t,v.hi,false,v.nh⟩ else v
def qc(v:ao)(t:Rat):ao:=if v.nh=true\/bA t v.hi<0 then⟨v.lo,t,v.nl,false⟩ else v
structure il (v:ao):Prop where
 lo:v.nl=true->v.lo=0
 hi:v.nh=true->v.hi=0
def TJ(a b:Rat):0<bA a b↔b<a:=by
 unfold bA;split
 .constructor
  .intro h;exact absurd h (by decide)
  .intro h;grind
 .split
  .exact⟨fun _=>by assumption,fun _=>by decide⟩
  .constructor
   .intro h;exact absurd h (by decide)
   .intro h;exact absurd h (by assumption)
def Nh(a b:Rat):bA a b<0↔a<b:=by
 unfold bA;split
 .exact⟨fun _=>by assumption,fun _=>by decide⟩
 .split
  .constructor
   .intro h;exact absurd h (by decide)
   .intro h;grind
  .constructor
   .intro h;exact absurd h (by decide)
   .intro h;exact absurd h (by assumption)
def Mj{v:ao}(h:il v)(t:Rat):qt v t=v.meet ⟨t,0,false,true⟩:=by
 obtain⟨lo,hi,nl,nh⟩:=v;obtain⟨h1,h2⟩:=h;unfold qt ao.meet;simp only[TJ] at*
 cases nl<;>cases nh<;>simp at* <;>(try (split<;>split<;>simp_all<;>grind))<;>grind
def QF{v:ao}(h:il v)(t:Rat):qc v t=v.meet ⟨0,t,true,false⟩:=by
 obtain⟨lo,hi,nl,nh⟩:=v;obtain⟨h1,h2⟩:=h;unfold qc ao.meet;simp only[Nh] at*
 cases nl<;>cases nh<;>simp at* <;>(try (split<;>split<;>simp_all<;>grind))<;>grind
def il.all:il ao.all:=⟨fun _=>J,fun _=>J⟩
def il.lo'{v:ao}(h:il v)(t:Rat):il (qt v t):=by
 obtain⟨lo,hi,nl,nh⟩:=v;unfold qt;split
 .exact⟨fun h=>by simp at h,h.hi⟩
 .exact h
def il.hi'{v:ao}(h:il v)(t:Rat):il (qc v t):=by
 obtain⟨lo,hi,nl,nh⟩:=v;unfold qc;split
 .exact⟨h.lo,fun h=>by simp at h⟩
 .exact h
def Bl{v:ao}(h:crossI l m=0):l.cutV v m=v/\(l.cutB v m=true↔0<m.value l.base):=by
 have hk:l.cutK m=0:=by rw[CI,h];rfl
 exact B9 v hk
def aCT{v:ao}(hl:l.Ne)(hz:il v)(h:0<m.dir.cross l.dir):crossI l m≠0/\l.cutV v m=qt v (jo l (di l m))/\l.cutB v m=!(qt v (jo l (di l m))).empty:=by
 rw[Sa] at h;have hc:crossI l m≠0:=fun e=>by rw[CI,e] at h;exact absurd h (by decide)
 obtain⟨h1,h2⟩:=Bg v h;refine⟨hc,?_,?_⟩
 .rw[Mj hz,CE hl hc,h1]
 .rw[Mj hz,CE hl hc,<-h1]
  rw[<-Eg] at h2
  cases hb:l.cutB v m<;>cases he:(l.cutV v m).empty<;>simp_all
def Ud{v:ao}(hl:l.Ne)(hz:il v)(h0:crossI l m≠0)(h: ¬0<m.dir.cross l.dir):l.cutV v m=qc v (jo l (di l m))/\l.cutB v m=!(qc v (jo l (di l m))).empty:=by
 rw[Sa] at h;have hk:l.cutK m≠0:=fun e=>by
  rw[CI] at e;have:((crossI l m:Int):Rat)=0:=by grind
  exact h0 (cX.1 this)
 obtain⟨h1,h2⟩:=BB (l:=l) (m:=m) v (by grind);refine⟨?_,?_⟩
 .rw[QF hz,CE hl h0,h1]
 .rw[QF hz,CE hl h0,<-h1]
  rw[<-Eg] at h2
  cases hb:l.cutB v m<;>cases he:(l.cutV v m).empty<;>simp_all
def relo(fl:Nat->Bool)(o:av):av:={o with lo:=fl o.b}
structure iu (P:Program) (f:FuncId) (vs:List Value) (M:List av) (G:Gh) (K:Value->List av->Gh->Prop):Prop where
 able:uE P f
 run: ∀w,bF ⟨w,G,M.map (·.b),[],[],none,fun _=>none⟩ (asB M) G w->
  Calls P f ⟨vs⟩ w fun e w'=> ∃v own' G',e= .returned v/\bF ⟨w,G,M.map (·.b),[],[],none,fun _=>none⟩ own' G' w'/\K v own' G'
def im(M:List av)(b:Nat):Bool:=M.all fun m=>!Nat.beq m.b b||m.lo
def bF.calledO(h:bF C (M++rest) G w)(k:bF ⟨w,G,M.map (·.b),[],[],none,fun _=>none⟩ own' G' w'):
  bF C (own'.map (relo (im M))++rest) G' w':=by
 have hsz:w.heap.size<=w'.heap.size:=k.size;have hnd:=h.nd;have inM: ∀b,b∈M.map (·.b)-> ∀o∈rest,o.b≠b:=fun b hb o ho e=>by
  obtain⟨m,hm,rfl⟩:=aT.1 hb;exact(gM.1 hnd).2.2 m hm o ho e.symm
 have bnd: ∀o∈own',o.b∉M.map (·.b)->w.heap.size<=o.b:=fun o ho hb=>by
  obtain⟨_,_,h3,h4⟩:=k.hown o ho
  cases hlo:o.lo with
  |true=>exact h3 hlo
  |false=>exact absurd (h4 hlo) hb
 refine⟨k.os.trans h.os,k.tape.trans h.tape,k.output.trans h.output,cS h.size hsz,?_,k.sub,h.gle.trans k.gle,?_,?_,?_,cS h.dr k.dr,fun p hp=>⟨(h.ext p hp).1,by rw[k.keep _ (iG (h.ext p hp).2) (h.extM hp)];exact(h.ext p hp).2⟩⟩
 .intro b hb hm
  have hs:=h.size;have hnM:b∉M.map (·.b):=fun hb'=>by
   obtain⟨m,hmM,rfl⟩:=aT.1 hb';obtain⟨_,_,h3,h4⟩:=h.hown m (bU _ hmM)
   cases hlo:m.lo with
   |true=>have:=h3 hlo;omega
   |false=>exact hm (h4 hlo)
  rw[k.keep b (by show b<w.heap.size;omega) hnM];exact h.keep b hb hm
 .intro b hb;have:=h.size;rw[k.gold b (by show b<w.heap.size;omega)];exact h.gold b hb
 .intro o ho
  have hs:=h.size;rcases bW.1 ho with ho|ho
  .obtain⟨o',ho',rfl⟩:=aT.1 ho
   obtain⟨k1,k2,k3,k4⟩:=k.hown _ ho';refine⟨k1,k2,fun hl=>?_,fun hl=>?_⟩
   .show C.w0.heap.size<=o'.b
    by_cases hb:o'.b∈M.map (·.b)
    .obtain⟨m,hm,hmb⟩:=aT.1 hb
     have hl':im M o'.b=true:=hl;have:=dK.1 hl' m hm;simp only[hmb,iT,iM,pW] at this;obtain⟨_,_,h3,_⟩:=h.hown m (bU _ hm);rw[<-hmb];exact h3 (by rcases this with h|h;(cases h);(exact h))
    .have:=bnd o' ho' hb;omega
   .show o'.b∈C.mb
    have hl':im M o'.b=false:=hl;obtain⟨m,hm,hmb⟩:=List.all_eq_false.1 hl';simp only[iT,iM,not_or] at hmb;obtain⟨h1,h2⟩:=hmb;have e:m.b=o'.b:=by
     cases hq:Nat.beq m.b o'.b with
     |true=>exact aN hq
     |false=>exact absurd hq h1
    obtain⟨_,_,_,h4⟩:=h.hown m (bU _ hm);rw[<-e];exact h4 (by cases hq:m.lo with
     |true=>exact absurd hq h2
     |false=>rfl)
  .obtain⟨h1,h2,h3⟩:=h.hown o (bK _ ho)
   have hnM:o.b∉M.map (·.b):=fun hb=>inM _ hb o ho J;exact⟨by rw[k.keep _ (iG h1) hnM];exact h1,by rw[k.gold _ (iG h1)];exact h2,h3⟩
 .refine gM.2 ⟨?_,(gM.1 hnd).2.1,?_⟩
  .rw[List.pairwise_map];exact k.nd
  .intro x hx y hy
   obtain⟨o',ho',rfl⟩:=aT.1 hx;show o'.b≠y.b;by_cases hb:o'.b∈M.map (·.b)
   .exact fun e=>inM _ hb y hy e.symm
   .have h1:=bnd o' ho' hb
    have h2:=iG (h.hown y (bK _ hy)).1;omega
def sE(C:aD)(K:Value->List av->Gh->Prop):Ending->World->Prop:=fun e w'=> ∃v own' G',e= .returned v/\bF C own' G' w'/\K v own' G'
def iu.introR{fn:Func}{c:Code}{m:Nat}(hf:P.funcs[f]? =some fn)(hb:fn.body=some c)(hn:(fn.name== "runtime.NumGoroutine")=false)(hm:fn.ntmps=m)(hlen:Nat.ble vs.length m=true)
  (h: ∀C:aD,C.G0=G->C.mb=M.map (·.b)->C.rd=none->(C.fx=fun _=>none)->St C m (n8 0 vs) (asB M) G (c.wp P (fg C P fn (sE C K)))):iu P f vs M G K:=by
 refine⟨⟨fn,hf,hn,by simp[hb]⟩,fun w hw=>?_⟩;have hlen':vs.length<=m:=by simpa using hlen
 have:=calls_of_wp (P:=P) (f:=f) (args:=⟨vs⟩) (w:=w) (R:=sE ⟨w,G,M.map (·.b),[],[],none,fun _=>none⟩ K) hf hb (wp_mono (h ⟨w,G,M.map (·.b),[],[],none,fun _=>none⟩ J J J J _ w
  ⟨hw,by simp;omega,fun k v hk=>by
   obtain⟨j,rfl,hj⟩:=wZ vs 0 k v hk;have hj':=(aY.1 hj).1;rw[lT (by simpa using hj')];simpa using hj,J⟩) fun _ _ _ k=>k J)
 exact this
def iu.intro{fn:Func}{c:Code}{m:Nat}(hf:P.funcs[f]? =some fn)(hb:fn.body=some c)(hn:(fn.name== "runtime.NumGoroutine")=false)(hm:fn.ntmps=m)(hlen:Nat.ble vs.length m=true)
  (h: ∀C:aD,C.G0=G->C.mb=M.map (·.b)->St C m (n8 0 vs) (asB M) G (c.wp P (fg C P fn (sE C K)))):iu P f vs M G K:=
 iu.introR hf hb hn hm hlen fun C a b _ _=>h C a b
section
variable {fr:Fr}{own:List av}
variable {t:TypeId}{x y:Operand}
def wK{fn:Func}(hr:kz P fr own fn.results.toList vs)(own2 own3:List av)(hp:own.Perm own2)(hs:own3.Sublist own2)(hk:K (gI vs) own3 G):St C n fr own G (fg C P fn (sE C K) .ret):=
 fun a w rl hmk=>⟨rl.df.trans hmk,_,tC hr rl.fr rl.h,_,own3,G,J,(rl.h.perm hp).drop hs,hk⟩
def Oz(ho:aA fr fo=some (.func (.func f) ⟨c1⟩ ⟨c2⟩))(hv:fy fr args.toList=some vs)
  (hp:own.Perm (M++rest))(hF:iu P f (c1++vs++c2) M G K)(hd:b7 n dst=true)(h: ∀v own1 (G':Gh),[GE G G']->K v own1 G'->St C n (put fr dst v) (own1.map (relo (im M))++rest) G' Φ):
  Ch P C n fr own G ⟨dst, .call ⟨.value fo,args,tys⟩,ty',pos,af,gd⟩ Φ:=by
 intro a w Q rl;have h2:=EZ (P:=P) (dst:=dst) (ty':=ty') (pos:=pos) (af:=af) (gd:=gd) (tys:=tys) (w:=w) hF.able rl.fr ho hv;simp only[Oper.wp,h2,Oper.upon];have hh0:=rl.h.perm hp;refine(hF.run w hh0.lend).mono ?_;rintro e w' ⟨v,own1,G',rfl,hh,hK⟩;exact @h v own1 G' ⟨hh.gle⟩ hK _ _ ((rl.heap (hh0.calledO hh)).put _ hd)
def wY(ho:aA fr fo=some (.func (.func f) #[] #[]))(hv:fy fr args.toList=some vs)
  (hp:own.Perm (M++rest))(hF:iu P f vs M G K)(hd:b7 n dst=true)(h: ∀v own1 (G':Gh),[GE G G']->K v own1 G'->St C n (put fr dst v) (own1.map (relo (im M))++rest) G' Φ):
  Ch P C n fr own G ⟨dst, .call ⟨.value fo,args,tys⟩,ty',pos,af,gd⟩ Φ:=
 Oz (c1:=[]) (c2:=[]) ho hv hp (by simpa using hF) hd h
def aGG{b:Nat}{cs:List Value}{ty:TypeId}{lo:Bool}(hC:C.mb=[])(h:St C n fr (⟨b,cs,ty,true⟩::own) G Φ):St C n fr (⟨b,cs,ty,lo⟩::own) G Φ:=by
 intro a w rl
 cases lo with
 |true=>exact h a w rl
 |false=>
  have:=(rl.h.hown _ aQ).2.2.2 J;rw[hC] at this;cases this
end
section
variable {fr:Fr}{own:List av}
variable {t:TypeId}{x y:Operand}{e s:Nat}
def vi{v:Value}{b k:Nat}{cs:List Value}{ty:TypeId}{lo:Bool}(hx:aA fr x=some (.pointer (some ⟨b,off,none⟩)))(hy:aA fr y=some v)[hs:lu P t k][ho:i6 own b cs ty lo]
  (hc:cA cs off (aE v)=cs')(hu:fC own b cs ty lo cs' own')(hk:(aE v).length=k)(hl:off+k<=cs.length)(hf:(aE v).all flat=true)(hd:b7 n dst=true)(h:St C n (put fr dst undef) own' G Φ):
  Ch P C n fr own G ⟨dst, .store t x y,ty',pos,af,gd⟩ Φ:=Ee hx hy (hc▸hu) hk hl hf hd h
def qH{v:Value}{b:Nat}{cs:List Value}{ty:TypeId}{lo:Bool}(hx:aA fr x=some (.pointer (some ⟨b,off,none⟩)))(hy:aA fr y=some v)[hs:iF P t][ho:i6 own b cs ty lo]
  (hc:cs.set off v=cs')(hu:fC own b cs ty lo cs' own')(hl:off<cs.length)(hf:flat v=true)(hd:b7 n dst=true)(h:St C n (put fr dst undef) own' G Φ):
  Ch P C n fr own G ⟨dst, .store t x y,ty',pos,af,gd⟩ Φ:=pG hx hy (hc▸hu) hl hf hd h
def aFE[hT:cv P t e s by_]{len:Nat}(hx:aA fr x=some (.slice ad len cap)):
  Yd P C fr own G ⟨dst, .call ⟨.builtin .cap, #[x], #[t]⟩,ty',pos,af,gd⟩ (.int .i64 cap):=by
 intro a w hf hh;simp only[execOp,resolve,iY,bT,iZ,bw hf hx];have h1:(Builtin.cap_ #[t] ty' #[.slice ad len cap]).run P w= .ok (.int .i64 cap) w:=by
  simp only[Builtin.cap_];show(underlying t>>=_).run P w=_;rw[aP (hT.u w)];rfl
 exact cE h1
def Yl[hT:cv P t e s by_]{b l c c2 m:Nat}{cs:List Value}{ty:TypeId}(hm:Nat.min l2 l=m)
  (hb:w.heap[b]? =some (.cells ⟨cs⟩ ty (0,0)))(hsy:(Builtin.firstCells s m (.slice ad2 l2 c2)).run P w= .ok ⟨ys⟩ w)(hf: ∀v∈ys,flat v=true)(hl:off+ys.length<=cs.length):
  (Builtin.copy_ #[t,t'] ty' #[.slice (some ⟨b,off,none⟩) l c, .slice ad2 l2 c2]).run P w=
   .ok (.int .i64 m) (ig w b (.cells ⟨cA cs off ys⟩ ty (0,0))):=by
 obtain⟨i,hi,his,hib⟩:=hT.info;subst his;have hst:=Bs (P:=P) ys w off 0 cs hf hb (by omega);rw[fK] at hst;subst hm;simp[Builtin.copy_,run_underlying hT.un,sizeOf,typeInfo,hi,Builtin.lenOf,hsy,hst];rfl
def Oq[hT:cv P t e s by_]{b l c c2 m:Nat}{cs:List Value}{ty:TypeId}{lo:Bool}(hx:aA fr x=some (.slice (some ⟨b,off,none⟩) l c))(hy:aA fr y=some (.slice ad2 l2 c2))
  (hm:Nat.min l2 l=m)(hsy:nv P C own G s m (.slice ad2 l2 c2) ys)(hf: ∀v∈ys,flat v=true)(hl:off+ys.length<=cs.length)(hu:fC own b cs ty lo (cA cs off ys) own')(hd:b7 n dst=true)
  (h:St C n (put fr dst (.int .i64 m)) own' G Φ):Ch P C n fr own G ⟨dst, .call ⟨.builtin .copy, #[x,y], #[t,t']⟩,ty',pos,af,gd⟩ Φ:=by
 intro a w Q rl;have hb:=(rl.h.hown _ (hu.spec rl.h.nd).1).1;refine mi (v:= .int .i64 m) (w':=ig w b (.cells ⟨cA cs off ys⟩ ty (0,0))) ?_ (h _ _ ((rl.heap (rl.h.store hu)).put _ hd));simp only[execOp,resolve,iY,bT,iZ,bw rl.fr hx,bw rl.fr hy];exact cE (Yl hm hb (hsy w rl.h) hf hl)
def LP[hT:cv P t e s by_][hN:ke P t']{b len m:Nat}{cs:List Value}{lo:Bool}
  (hx:aA fr x=some (.slice (some ⟨b,0,none⟩) len cap))(hy:aA fr y=some (.slice ad2 m cap2))(hu:fC own b cs e lo (cA cs (len*s) ys) own')(hcs:cs.length=cap*s)
  (hsy:nv P C own G s m (.slice ad2 m cap2) ys)(hys:ys.length=m*s)(hf: ∀v∈ys,flat v=true)(hneed:len+m<=cap)(hd:b7 n dst=true)
  (h:St C n (put fr dst (.slice (some ⟨b,0,none⟩) (len+m) cap)) own' G Φ):
  Ch P C n fr own G ⟨dst, .call ⟨.builtin .append, #[x,y], #[t,t']⟩,ty',pos,af,gd⟩ Φ:=by
 intro a w Q rl;have hb:=(rl.h.hown _ (hu.spec rl.h.nd).1).1;refine mi (v:= .slice (some ⟨b,0,none⟩) (len+m) cap) (w':=ig w b (.cells ⟨cA cs (len*s) ys⟩ e (0,0))) ?_ (h _ _ ((rl.heap (rl.h.store hu)).put _ hd));simp only[execOp,resolve,iY,bT,iZ,bw rl.fr hx,bw rl.fr hy];exact cE (KL hb hcs (hsy w rl.h) hys hf hneed)
def JO[hT:cv P t e s by_][hN:ke P t']{z:Value}[hz:gq P e z]{b len m:Nat}{rest:List Value}{lo:Bool}
  (hx:aA fr x=some (.slice (some ⟨b,0,none⟩) len cap))(hy:aA fr y=some (.slice ad2 m cap2))(hr:kh own ⟨b,xs++rest,e,lo⟩ own1)(hxs:xs.length=len*s)(hcap:xs.length+rest.length=cap*s)(hlc:len<=cap)
  (hsy:nv P C own G s m (.slice ad2 m cap2) ys)(hys:ys.length=m*s)(hf: ∀v∈ys,flat v=true)
  (hby:0<by_)(hb:(len+m)*by_<=140737488355328)(hzs:(aE z).length=s)(hd:b7 n dst=true)
  (h: ∀b lo' cap' rest',len+m<=cap'->rest'.length+(len+m)*s=cap'*s->St C n (put fr dst (.slice (some ⟨b,0,none⟩) (len+m) cap')) (⟨b,xs++ys++rest',e,lo'⟩::own1) G Φ):
  Ch P C n fr own G ⟨dst, .call ⟨.builtin .append, #[x,y], #[t,t']⟩,ty',pos,af,gd⟩ Φ:=by
 intro a w Q rl;have hp:=rl.h.perm hr.perm;have hblk:=(hp.hown _ aQ).1;simp only[] at hblk;by_cases hneed:len+m<=cap
 .have hcs:(xs++rest).length=cap*s:=by simp;omega
  have hrun:=KL (P:=P) (t:=t) (t':=t') (ty':=ty') (w:=w) (len:=len) hblk hcs (hsy w rl.h) hys hf hneed;have hle:len*s+m*s<=cap*s:=by rw[<-dJ];exact bL _ hneed
  have hov:cA (xs++rest) (len*s) ys=xs++ys++rest.drop (m*s):=by
   rw[q9 _ _ _ (by rw[hys];omega),<-hxs];simp[hys,nJ]
  refine mi (v:= .slice (some ⟨b,0,none⟩) (len+m) cap) (w':=ig w b (.cells ⟨cA (xs++rest) (len*s) ys⟩ e (0,0))) ?_ ?_
  .simp only[execOp,resolve,iY,bT,iZ,bw rl.fr hx,bw rl.fr hy]
   exact cE hrun
  .rw[hov]
   refine h b lo cap (rest.drop (m*s)) hneed ?_ _ _ ((rl.heap (hp.store (.hd ..))).put _ hd);rw[gL,dJ];omega
 .have hx':nv P C own G s len (.slice (some ⟨b,0,none⟩) len cap) xs:=fun w' hw'=>by
   have hb':=(((hw'.perm hr.perm).hown _ aQ).1);refine Fi hb' ?_;rw[l8 _ _ _ (by simp;omega),<-hxs];simp
  have hcap':len+m<=grownCap w (len+m) cap e:=by unfold grownCap;simp only[Question.cut];omega
  have hrun:=Ib (P:=P) (t:=t) (t':=t') (ty':=ty') (w:=w) (w':=w) (hx' _ rl.h.drew) (hsy _ rl.h.drew) (by omega) hby hb;refine mi (v:= .slice (some ⟨w.heap.size,0,none⟩) (len+m) (grownCap w (len+m) cap e)) (w':=w.drew.alloc (.cells ⟨xs++ys++de z (grownCap w (len+m) cap e-(len+m))⟩ e)) ?_ ?_
  .simp only[execOp,resolve,iY,bT,iZ,bw rl.fr hx,bw rl.fr hy]
   exact cE hrun
  .refine h w.heap.size _ _ _ hcap' ?_ _ _ ((rl.heap (((hp.drew).drop (nQ _ _)).alloc _ _)).put _ hd)
   rw[pc,hzs,<-dJ];congr 1;omega
def apZ{fn:Func}(hf:P.funcs[f]? =some fn)(hname:(fn.name== "runtime.NumGoroutine")=false)(hb:fn.body.isNone=true)(hn:Extern.findNext fn=none)
  (he:Extern.find fn=some (Extern.SlicesOverlaps.overlaps #[tS,tS] #[tR]))[hT:cv P tS e s by_]
  {b1 b2 o1 o2 l1 c1 c2:Nat}{lo1 lo2:Bool}(ho:aA fr fo=some (.func (.func f) #[] #[]))
  (hv:fy fr args.toList=some [.slice (some ⟨b1,o1,none⟩) l1 c1, .slice (some ⟨b2,o2,none⟩) l2 c2])[h1:i6 own b1 cs1 t1 lo1][h2:i6 own b2 cs2 t2 lo2](hne:b1≠b2)(hc2:cs2≠[]):
  Yd P C fr own G ⟨dst, .call ⟨.value fo,args,tys⟩,ty',pos,af,gd⟩ (.bool false):=by
 intro a w hfr hh;have e1:=(hh.hown _ h1.mem).1;have e2:=(hh.hown _ h2.mem).1;have ev:args.map a.eval=⟨[.slice (some ⟨b1,o1,none⟩) l1 c1, .slice (some ⟨b2,o2,none⟩) l2 c2]⟩:=by apply Array.ext';simpa using Ba hfr hv
 simp only[] at e1 e2;have hrun:=Lib.run_overlaps_apart (P:=P) w tS tR e hT.un s hT.siz ⟨b1,o1,none⟩ ⟨b2,o2,none⟩ l1 c1 l2 c2 hne t1 t2 cs1.length cs2.length
  (by simp[World.shape?,e1]) (by simp[World.shape?,e2]) (by simpa using hc2) (by simp[World.frozen?,e1]) (by simp[World.frozen?,e1])
 simp only[execOp,resolve,bw hfr ho,ev,Deferred.ofValue];show(invoke (.fn (.func f) #[]) _).run P w=_;simp only[invoke];have h3:=run_callFunc_extern (P:=P) hf hname hb hn he;rw[h3];simp[hrun,Result.andThen]
end
instance ks.cons2 (l m:List av) (o:av) [h:ks l m]:ks (o::l) (o::m):=⟨h.s.cons_cons o⟩
def Zg{fr:Fr}{own:List av}{b:Nat}{cs:List Value}{ty:TypeId}{lo:Bool}(fin:Nat->Bool)(π:List (Nat×Bool)){id:Nat}(hm:P.follows .mixedOrders=true)(_hr:kh own ⟨b,cs,ty,lo⟩ own0)(ho:(tE ops fin π (Array.replicate ops.size false)&&Nat.ble π.length ops.size)=true)
  (h:St C n fr own G (ip P ops (gr Q) (HS C own0 G) fin π)):St C n fr own G ((Code.region id ops true).wp P Q):=by
 simp only[cZ] at ho;intro a w rl;exact wp_mono (wp_region_any hm (D6 _ _ _ _ (AJ (fun _ _ _ _ _ h=>h) π _ a _ ho.1 (h a _ (rl.heap rl.h.drew)) _ (by simpa using ho.2)))) gr.imp
def aF(vs:List Value):List Value:=(vs.map aE).flatten
def eG{s:Nat}: ∀(vs:List Value),(∀v∈vs,(aE v).length=s)->(aF vs).length=vs.length*s
 |[],_=>by simp[aF]
 |v::vs,h=>by
  have h1:=eG vs (fun u hu=>h u (aJ _ hu));have h2:=h v aQ;unfold aF at*;simp only[bT,qX,aU,bJ,h1,h2,gJ];omega
def qp(us vs:List Value):aF (us++vs)=aF us++aF vs:=by simp[aF]
def wT(v:Value):aF [v]=aE v:=by simp[aF]
def H8{s:Nat}: ∀(vs:List Value) (i:Nat),(∀v∈vs,(aE v).length=s)->i<=vs.length->(aF vs).take (i*s)=aF (vs.take i)
 |vs,0,_,_=>by simp[aF]
 |[],i+1,_,h=>by simp at h
 |v::vs,i+1,h,hi=>by
  have h1:=H8 vs i (fun u hu=>h u (aJ _ hu)) (by simpa using hi);have h2:=h v aQ;unfold aF at*;simp only[bT,qX,oU];rw[List.take_append,h2,aM (by rw[h2,gJ];omega),gJ,nY,h1]
def Eh{s:Nat}: ∀(vs:List Value) (i:Nat),(∀v∈vs,(aE v).length=s)->i<=vs.length->(aF vs).drop (i*s)=aF (vs.drop i)
 |vs,0,_,_=>by simp
 |[],i+1,_,h=>by simp at h
 |v::vs,i+1,h,hi=>by
  have h1:=Eh vs i (fun u hu=>h u (aJ _ hu)) (by simpa using hi);have h2:=h v aQ;unfold aF at*;simp only[bT,qX,tW];rw[nJ,h2,jJ (by rw[h2,gJ];omega),gJ,nY,h1,jN]
def JU{s:Nat}{rest:List Value}(h: ∀v∈vs,(aE v).length=s)(hi:i<vs.length):cw (aF vs++rest) (i*s) s=some (aE vs[i]):=by
 have hl:=eG vs h;have hle:i*s+s<=vs.length*s:=by rw[<-gJ];exact bL _ hi
 rw[l8 _ _ _ (by simp only[aU];omega)];congr 1;rw[kN (by omega),Eh vs i h (by omega),bQ hi];have h2:=h vs[i] (cN hi);rw[show(vs[i]::vs.drop (i+1))=[vs[i]]++vs.drop (i+1) from J,qp,wT,dW,gW (by omega),aM (by omega)]
def fw.of_flat{b c s:Nat}{rest:List Value}(h: ∀v∈vs,(aE v).length=s)(hg:G b=some (aF vs++rest))(hc:vs.length<=c):fw G s ⟨some ⟨b,0,none⟩,vs.length,c⟩ vs:=
 ⟨J,hc, .inr ⟨b,0,_,J,hg,fun i hi=>by rw[eJ];exact JU h hi⟩⟩
section
variable {fr:Fr}{own:List av}
variable {x y:Operand}
def uC(own0:List av)(fin:Nat->Bool)(π:List (Nat×Bool)){id:Nat}(hm:P.follows .mixedOrders=true)(ho:(tE ops fin π (Array.replicate ops.size false)&&Nat.ble π.length ops.size)=true)
  (h:St C n fr own G (ip P ops (gr Q) (HS C own0 G) fin π)):St C n fr own G ((Code.region id ops true).wp P Q):=by
 simp only[cZ] at ho;intro a w rl;exact wp_mono (wp_region_any hm (D6 _ _ _ _ (AJ (fun _ _ _ _ _ h=>h) π _ a _ ho.1 (h a _ (rl.heap rl.h.drew)) _ (by simpa using ho.2)))) gr.imp
end
section
variable {S:World->Prop}
end
structure FD where
 k:Nat
 d:Nat
 t:TypeId
 z:Value
abbrev Fs:=Nat->Option Nat
def J8:List FD->Fs->Fr
 |[],_=>[]
 |f::r,fs=>fF f.d (fs f.k)++J8 r fs
def Kw:List FD->Fs->List av
 |[],_=>[]
 |f::r,fs=>fO f.t f.z (fs f.k)++Kw r fs
def M7(fd:List FD)(fs:Fs):List Nat:=(fd.filter fun f=>(fs f.k).isNone).map (·.k)
section
variable {fr:Fr}{own:List av}{fd:List FD}
end
def jI(s:Nat)(ty:TypeId)(x:SV)(vs:List Value)(B:List av):Prop:=
 (vs=[]/\x=⟨none,0,0⟩/\B=[])\/
 ∃b rest lo,x=⟨some ⟨b,0,none⟩,vs.length,x.c⟩/\B=[⟨b,aF vs++rest,ty,lo⟩]/\(aF vs).length=vs.length*s/\(aF vs).length+rest.length=x.c*s/\vs.length<=x.c
def jI.nil(s:Nat)(ty:TypeId):jI s ty ⟨none,0,0⟩ [] []:= .inl ⟨J,J,J⟩
def jI.relo{s:Nat}{ty:TypeId}{x:SV}{vs:List Value}{B:List av}(h:jI s ty x vs B)(fl:Nat->Bool):jI s ty x vs (B.map (Go.Sx.relo fl)):=by
 rcases h with⟨h1,h2,h3⟩|⟨b,rest,lo,h1,h2,h3,h4,h5⟩
 .exact .inl ⟨h1,h2,by rw[h3];rfl⟩
 .exact .inr ⟨b,rest,fl b,h1,by rw[h2];rfl,h3,h4,h5⟩
def jI.asB{s:Nat}{ty:TypeId}{x:SV}{vs:List Value}{B:List av}(h:jI s ty x vs B):jI s ty x vs (asB B):=by
 rcases h with⟨h1,h2,h3⟩|⟨b,rest,lo,h1,h2,h3,h4,h5⟩
 .exact .inl ⟨h1,h2,by rw[h3];rfl⟩
 .exact .inr ⟨b,rest,false,h1,by rw[h2];rfl,h3,h4,h5⟩
def jI.len{s:Nat}{ty:TypeId}{x:SV}(h:jI s ty x vs B):x.n=vs.length:=by
 rcases h with⟨h1,h2,h3⟩|⟨b,rest,lo,h1,h2,h3,h4,h5⟩
 .rw[h2,h1];rfl
 .rw[h1]
def awk{m:av}(h:m∈M)(hl:m.lo=false):im M m.b=false:=by
 refine List.all_eq_false.2 ⟨m,h,?_⟩;simp[hl]
def Dq(b:Nat)(h: ∀m∈M,m.lo=true):im M b=true:=by
 refine dK.2 fun m hm=>?_;simp[h m hm]
section
variable {fr:Fr}{own:List av}
variable {t:TypeId}{x y:Operand}{e s:Nat}
def alV[hT:cv P t e s by_][hN:ke P t']{z:Value}[hz:gq P e z]{w:SV}{vs:List Value}{v:Value}{B:List av}(L:List av){ad2:Option Addr}{cap2:Nat}
  (ho:own=L++B)(hB:jI s e w vs B)(hx:aA fr x=some (.slice w.a w.n w.c))(hy:aA fr y=some (.slice ad2 1 cap2))
  (hsy:nv P C own G s 1 (.slice ad2 1 cap2) (aE v))(hv:(aE v).length=s)(hf: ∀c∈aE v,flat c=true)
  (hby:0<by_)(hb:(vs.length+1)*by_<=140737488355328)(hzs:(aE z).length=s)(hd:b7 n dst=true)
  (h: ∀w' B',jI s e w' (vs++[v]) B'->St C n (put fr dst (.slice w'.a w'.n w'.c)) (L++B') G Φ):
  Ch P C n fr own G ⟨dst, .call ⟨.builtin .append, #[x,y], #[t,t']⟩,ty',pos,af,gd⟩ Φ:=by
 subst ho;rcases hB with⟨h1,h2,h3⟩|⟨b,rest,lo,h1,h2,h3,h4,h5⟩
 .subst h1 h2 h3
  rw[gK] at hsy⊢;refine A5 (z:=z) (xs:=[]) (ys:=aE v) hx hy (vt) hsy (by show 0<0+1;omega) hby (by simpa using hb) hd (fun b cap' hc=>?_);refine Ck (L++[⟨b,[]++aE v++de z (cap'-(0+1)),e,true⟩]) ?_ (h ⟨some ⟨b,0,none⟩,1,cap'⟩ _ (.inr ⟨b,de z (cap'-(0+1)),true,J,?_,?_,?_,by simpa using hc⟩))
  .exact(fJ (l₁:=[_]) (l₂:=L))
  .simp[aF]
  .simp[aF,hv]
  .simp only[jN,wT,hv,pc,hzs]
   obtain⟨c,rfl⟩: ∃c,cap'=c+1:=⟨cap'-1,by have:0+1<=cap':=hc;omega⟩;rw[show c+1-(0+1)=c by omega,gJ,kR]
 .have hwc:w.a=some ⟨b,0,none⟩/\w.n=vs.length:=by rw[h1];exact⟨J,J⟩
  rw[hwc.1,hwc.2] at hx;subst h2;have hsub:kh (L++[⟨b,aF vs++rest,e,lo⟩]) ⟨b,aF vs++rest,e,lo⟩ L:=by
   clear hsy h
   induction L with
   |nil=>exact .hd ..
   |cons a l ih=>exact .tl _ _ _ _ ih
  refine JO (z:=z) (xs:=aF vs) (ys:=aE v) (rest:=rest) hx hy hsub h3 h4 h5 hsy (by rw[hv,nX]) hf hby hb hzs hd (fun b' lo' cap' rest' hc hr=>?_);refine Ck (L++[⟨b',aF vs++aE v++rest',e,lo'⟩]) ?_ (h ⟨some ⟨b',0,none⟩,vs.length+1,cap'⟩ _ (.inr ⟨b',rest',lo',by simp,?_,?_,?_,by simpa using hc⟩))
  .exact(fJ (l₁:=[_]) (l₂:=L))
  .rw[qp,wT]
  .rw[qp,wT,aU,h3,hv,aU,gV,gJ]
  .rw[qp,wT,aU,h3,hv]
   rw[gJ] at hr;show vs.length*s+s+rest'.length=cap'*s;omega
end
instance ks.nil (l:List av):ks [] l:=⟨fM l⟩
def Hc{fr:Fr}{own:List av}(e:own=own')(h:St C n fr own' G Φ):St C n fr own G Φ:=e▸h
def A8{fr:Fr}{own:List av}(ho:aA fr fo=some (.func (.func f) ⟨c1⟩ ⟨c2⟩))(hv:fy fr args.toList=some vs)
  (hp:own.Perm (M++rest))(hF:iu P f (c1++vs++c2) M G K)(hd:b7 n dst=true)
  (h: ∀v own1 (G':Gh) (fl:Nat->Bool),[GE G G']->(∀m∈M,m.lo=false->fl m.b=false)->((∀m∈M,m.lo=true)-> ∀b,fl b=true)->K v own1 G'->St C n (put fr dst v) (own1.map (relo fl)++rest) G' Φ):
  Ch P C n fr own G ⟨dst, .call ⟨.value fo,args,tys⟩,ty',pos,af,gd⟩ Φ:=
 Oz ho hv hp hF hd (fun v own1 G' _ hK=>h v own1 G' (im M) (fun _ hm hl=>awk hm hl) (fun hl b=>Dq b hl) hK)
def Ql{s:Nat}{rest:List Value}{x:Value}{j:Nat}(hj:j<s): ∀(vs:List Value) (n:Nat) (hn:n<vs.length),(∀v∈vs,(aE v).length=s)->
  (aF vs++rest).set (n*s+j) x=aF (vs.take n)++((aE vs[n]).set j x++(aF (vs.drop (n+1))++rest))
 |[],n,hn,_=>by simp at hn
 |v::vs,0,hn,h=>by
  have h2:=h v aQ;have e:aF (v::vs)=aE v++aF vs:=by simp[aF]
  rw[e,dW,lJ,eJ,List.set_append_left _ _ (by omega)];simp[aF]
 |v::vs,n+1,hn,h=>by
  have h2:=h v aQ;have ih:=Ql (rest:=rest) (x:=x) hj vs n (by simpa using hn) (fun u hu=>h u (aJ _ hu));have e:aF (v::vs)=aE v++aF vs:=by simp[aF]
  rw[e,dW,nT _ _ (by rw[h2,gJ];omega),h2,show(n+1)*s+j-s=n*s+j by rw[gJ];omega,ih];simp[aF]
def aoh{fr:Fr}{s:Nat}{ty:TypeId}{x:SV}(hC:C.mb=[])(hB:jI s ty x vs B)(hvs: ∀v∈vs,(aE v).length=s)
  (h: ∀G':Gh,[GE G G']->fw G' s x vs->St C n fr L G' Φ):St C n fr (L++B) G Φ:=by
 rcases hB with⟨h1,h2,h3⟩|⟨b,rest,lo,h1,h2,h3,h4,h5⟩
 .subst h1 h2 h3
  rw[gK];exact @h G ⟨bI.refl _⟩ (fw.nil _ _)
 .subst h2
  refine Ck (⟨b,aF vs++rest,ty,lo⟩::L) fJ ?_;refine aGG hC ?_;refine nH b (.hd ..) ?_;intro G' hG hg;refine @h G' hG ?_;rw[h1];exact fw.of_flat hvs hg.h h5
inductive DV where
 |v (x:Value)
 |ag (l:List DV)
 |tp (l:List DV)
 |pt (l:List DV)
 |op (b:Bool) (l:List DV)
 |sl (l:List DV)
mutual
def Is(G:Gh):DV->Value->Prop
 | .v x,y=>y=x
 | .ag l,y=> ∃m,y= .agg ⟨m⟩/\IsLs G l m
 | .tp l,y=> ∃m,y= .tuple ⟨m⟩/\IsLs G l m
 | .pt l,y=> ∃b m,y= .pointer (some ⟨b,0,none⟩)/\G b=some m/\IsLs G l m
 | .op b l,y=>(b=false/\y= .pointer none)\/(b=true/\ ∃b m,y= .pointer (some ⟨b,0,none⟩)/\G b=some m/\IsLs G l m)
 | .sl l,y=> ∃(s:Nat) (x:SV) (es:List Value),y= .slice x.a x.n x.c/\fw G s x es/\IsLs G l es
def IsLs(G:Gh):List DV->List Value->Prop
 |[],m=>m=[]
 |d::t,m=> ∃y n,m=y::n/\Is G d y/\IsLs G t n
end
mutual
def Is.up'{A G:Gh}(h:bI A G): ∀(d:DV) (y:Value),Is A d y->Is G d y
 | .v x,y,k=>by simp only[Is] at k⊢;exact k
 | .ag l,y,k=>by simp only[Is] at k⊢;obtain⟨m,e,k⟩:=k;exact⟨m,e,IsLs.up' h l m k⟩
 | .tp l,y,k=>by simp only[Is] at k⊢;obtain⟨m,e,k⟩:=k;exact⟨m,e,IsLs.up' h l m k⟩
 | .pt l,y,k=>by simp only[Is] at k⊢;obtain⟨b,m,e,hb,k⟩:=k;exact⟨b,m,e,h _ _ hb,IsLs.up' h l m k⟩
 | .op _ l,y,k=>by simp only[Is] at k⊢;exact k.imp id fun⟨e1,b,m,e,hb,k⟩=>⟨e1,b,m,e,h _ _ hb,IsLs.up' h l m k⟩
 | .sl l,y,k=>by simp only[Is] at k⊢;obtain⟨s,x,es,e,hs,k⟩:=k;exact⟨s,x,es,e,hs.up' h,IsLs.up' h l es k⟩
def IsLs.up'{A G:Gh}(h:bI A G): ∀(d:List DV) (y:List Value),IsLs A d y->IsLs G d y
 |[],y,k=>by simp only[IsLs] at k⊢;exact k
 |d::t,y,k=>by simp only[IsLs] at k⊢;obtain⟨u,n,e,h1,h2⟩:=k;exact⟨u,n,e,Is.up' h d u h1,IsLs.up' h t n h2⟩
end
section
def Is.up{d:DV}(k:Is A d y)(h:bI A G):Is G d y:=Is.up' h d y k
def IsLs.up{d:List DV}{y:List Value}(k:IsLs A d y)(h:bI A G):IsLs G d y:=IsLs.up' h d y k
def aB{x:Value}:Is G (.v x) y↔y=x:=by simp only[Is]
def d9{l:List DV}:Is G (.ag l) y↔ ∃m,y= .agg ⟨m⟩/\IsLs G l m:=by simp only[Is]
def jj{l:List DV}:Is G (.tp l) y↔ ∃m,y= .tuple ⟨m⟩/\IsLs G l m:=by simp only[Is]
def li{l:List DV}:Is G (.pt l) y↔ ∃b m,y= .pointer (some ⟨b,0,none⟩)/\G b=some m/\IsLs G l m:=by simp only[Is]
def ur{b:Bool}{l:List DV}:Is G (.op b l) y↔(b=false/\y= .pointer none)\/(b=true/\Is G (.pt l) y):=by simp only[Is]
def gw{l:List DV}:Is G (.sl l) y↔ ∃(s:Nat) (x:SV) (es:List Value),y= .slice x.a x.n x.c/\fw G s x es/\IsLs G l es:=by simp only[Is]
def dE{m:List Value}:IsLs G [] m↔m=[]:=by simp only[IsLs]
def aI{d:DV}{t:List DV}{m:List Value}:IsLs G (d::t) m↔ ∃y n,m=y::n/\Is G d y/\IsLs G t n:=by simp only[IsLs]
def IsLs.nil:IsLs G [] []:=dE.2 J
def IsLs.cons{d:DV}{t:List DV}{y:Value}{n:List Value}(h:Is G d y)(k:IsLs G t n):IsLs G (d::t) (y::n):=aI.2 ⟨y,n,J,h,k⟩
def IsLs.uncons{d:DV}{t:List DV}{n:List Value}(h:IsLs G (d::t) (y::n)):Is G d y/\IsLs G t n:=by
 obtain⟨u,m,e,h1,h2⟩:=aI.1 h
 cases e
 exact⟨h1,h2⟩
def IsLs.len: ∀{d:List DV} {m:List Value},IsLs G d m->m.length=d.length
 |[],m,h=>by rw[dE.1 h];rfl
 |d::t,m,h=>by
  obtain⟨y,n,rfl,_,h2⟩:=aI.1 h;simp[h2.len]
def IsLs.get: ∀{l:List DV} {m:List Value} {i:Nat} {d:DV},IsLs G l m->l[i]? =some d-> ∃y,m[i]? =some y/\Is G d y
 |[],m,i,d,h,e=>by simp at e
 |x::t,m,0,d,h,e=>by
  obtain⟨y,n,rfl,h1,h2⟩:=aI.1 h;simp at e;subst e;exact⟨y,J,h1⟩
 |x::t,m,i+1,d,h,e=>by
  obtain⟨y,n,rfl,h1,h2⟩:=aI.1 h;simp at e;simpa using h2.get e
def IsLs.app: ∀{a b:List DV} {m n:List Value},IsLs G a m->IsLs G b n->IsLs G (a++b) (m++n)
 |[],b,m,n,h,k=>by rw[dE.1 h];exact k
 |d::t,b,m,n,h,k=>by
  obtain⟨y,m',rfl,h1,h2⟩:=aI.1 h;exact .cons h1 (h2.app k)
def IsLs.unapp: ∀{a b:List DV} {m:List Value},IsLs G (a++b) m-> ∃x y,m=x++y/\IsLs G a x/\IsLs G b y
 |[],b,m,h=>⟨[],m,J, .nil,h⟩
 |d::t,b,m,h=>by
  obtain⟨y,m',rfl,h1,h2⟩:=aI.1 h;obtain⟨u,v,rfl,h3,h4⟩:=h2.unapp;exact⟨y::u,v,J, .cons h1 h3,h4⟩
def IsLs.drop: ∀{a:List DV} {m:List Value} (k:Nat),IsLs G a m->IsLs G (a.drop k) (m.drop k)
 |_,_,0,h=>h
 |[],m,k+1,h=>by rw[dE.1 h];exact .nil
 |d::t,m,k+1,h=>by
  obtain⟨y,m',rfl,h1,h2⟩:=aI.1 h;exact h2.drop k
def IsLs.take: ∀{a:List DV} {m:List Value} (k:Nat),IsLs G a m->IsLs G (a.take k) (m.take k)
 |_,_,0,h=> .nil
 |[],m,k+1,h=>by rw[dE.1 h];exact .nil
 |d::t,m,k+1,h=>by
  obtain⟨y,m',rfl,h1,h2⟩:=aI.1 h;exact .cons h1 (h2.take k)
def IsLs.set: ∀{a:List DV} {m:List Value} (k:Nat) {d:DV} {y:Value},IsLs G a m->Is G d y->IsLs G (a.set k d) (m.set k y)
 |[],m,k,d,y,h,_=>by rw[dE.1 h];exact .nil
 |x::t,m,0,d,y,h,k=>by
  obtain⟨u,m',rfl,h1,h2⟩:=aI.1 h;exact .cons k h2
 |x::t,m,j+1,d,y,h,k=>by
  obtain⟨u,m',rfl,h1,h2⟩:=aI.1 h;exact .cons h1 (h2.set j k)
end
def DV.flat:DV->Bool
 | .v x=>Go.Sx.flat x
 | .ag _=>false
 | .tp _=>false
 | .pt _=>true
 | .op .. =>true
 | .sl .. =>true
def DV.okc:DV->Bool
 | .ag l=>l.all DV.flat
 |d=>d.flat
def DV.cells:DV->List DV
 | .ag l=>l
 |d=>[d]
section
def Is.flat{d:DV}{y:Value}(h:Is G d y)(k:d.flat=true):Go.Sx.flat y=true:=by
 cases d with
 |v x=>rw[aB.1 h];exact k
 |ag l=>cases k
 |tp l=>cases k
 |pt l=>obtain⟨b,m,rfl,_⟩:=li.1 h;rfl
 |op b l=>
  rcases ur.1 h with⟨_,rfl⟩|⟨_,h⟩
  .rfl
  .obtain⟨b,m,rfl,_⟩:=li.1 h;rfl
 |sl l=>obtain⟨s,x,es,rfl,_⟩:=gw.1 h;rfl
def B5(h:Go.Sx.flat y=true):aE y=[y]:=by cases y<;>first|rfl|(simp[Go.Sx.flat] at h)
def IsLs.flat: ∀{l:List DV} {m:List Value},IsLs G l m->l.all DV.flat=true-> ∀v∈m,Go.Sx.flat v=true
 |[],m,h,_,v,hv=>by rw[dE.1 h] at hv;cases hv
 |d::t,m,h,k,v,hv=>by
  obtain⟨y,n,rfl,h1,h2⟩:=aI.1 h;simp only[List.all_cons,cZ] at k;rcases aW.1 hv with rfl|hv
  .exact h1.flat k.1
  .exact h2.flat k.2 v hv
def Is.cells{d:DV}{y:Value}(h:Is G d y)(k:d.okc=true):IsLs G d.cells (aE y)/\ ∀v∈aE y,Go.Sx.flat v=true:=by
 cases d with
 |ag l=>obtain⟨m,rfl,hm⟩:=d9.1 h;exact⟨hm,hm.flat k⟩
 |_=>
  have:=h.flat k;rw[B5 this];exact⟨.cons h .nil,fun v hv=>by rw[aS.1 hv];exact this⟩
end
def takeD:List DV->Nat->Nat->Option (List DV)
 |_,0,0=>some []
 |[],0,_+1=>none
 |v::t,0,k+1=>match takeD t 0 k with|some l=>some (v::l)|none=>none
 |[],_+1,_=>none
 |_::t,off+1,k=>takeD t off k
def Ei:List DV->Nat->List DV->List DV
 |cs,_,[]=>cs
 |cs,off,v::vs=>Ei (cs.set off v) (off+1) vs
section
def IsLs.takeD: ∀{ds:List DV} {m:List Value} {off k:Nat} {l:List DV},IsLs G ds m->takeD ds off k=some l-> ∃n,cw m off k=some n/\IsLs G l n
 |[],m,0,0,l,h,e=>by rw[dE.1 h];simp only[Sx.takeD] at e;cases e;exact⟨[],J, .nil⟩
 |d::t,m,0,0,l,h,e=>by
  obtain⟨y,m',rfl,h1,h2⟩:=aI.1 h;simp only[Sx.takeD] at e;cases e;exact⟨[],J, .nil⟩
 |[],m,0,k+1,l,h,e=>by simp[Sx.takeD] at e
 |d::t,m,0,k+1,l,h,e=>by
  obtain⟨y,m',rfl,h1,h2⟩:=aI.1 h;simp only[Sx.takeD] at e;split at e
  .rename_i l' hl'
   cases e
   obtain⟨n,hn,hl⟩:=h2.takeD hl';exact⟨y::n,by simp only[cw,hn], .cons h1 hl⟩
  .cases e
 |[],m,off+1,k,l,h,e=>by simp[Sx.takeD] at e
 |d::t,m,off+1,k,l,h,e=>by
  obtain⟨y,m',rfl,h1,h2⟩:=aI.1 h;exact h2.takeD (off:=off) (k:=k) e
def IsLs.ov: ∀{vs ds:List DV} {n m:List Value} {off:Nat},IsLs G ds m->IsLs G vs n->IsLs G (Ei ds off vs) (cA m off n)
 |[],ds,n,m,off,h,k=>by rw[dE.1 k];exact h
 |v::vs,ds,n,m,off,h,k=>by
  obtain⟨y,n',rfl,h1,h2⟩:=aI.1 k;exact(h.set off h1).ov h2
end
inductive FV where
 |d (x:DV)
 /-- a pointer to cells that are written no more -/
 |ep (l:List DV)
 /-- a pointer to a cell of element i of a row of the call's own -/
 |be (x:SV) (s i j:Nat)
 /-- a slice without room behind it -/
 |ct (l:List DV)
abbrev nk:=List (Nat×FV)
def IsF(G:Gh):FV->Value->Prop
 | .d x,y=>Is G x y
 | .ep l,y=> ∃b off cs m,y= .pointer (some ⟨b,off,none⟩)/\G b=some cs/\cw cs off l.length=some m/\IsLs G l m
 | .be x s i j,y=> ∃b,x.a=some ⟨b,0,none⟩/\y= .pointer (some ⟨b,i*s+j,none⟩)
 | .ct l,y=>(∃a n,y= .slice a n n)/\Is G (.sl l) y
def EC(G:Gh):nk->Fr->Prop
 |[],m=>m=[]
 |(k,f)::t,m=> ∃y n,m=(k,y)::n/\IsF G f y/\EC G t n
structure lw where
 b:Nat
 cs:List DV
 ty:TypeId
 lo:Bool
structure jt where
 x:SV
 s:Nat
 ty:TypeId
 ds:List DV
 lo:Bool
def NZ(G:Gh):List lw->List av->Prop
 |[],m=>m=[]
 |o::t,m=> ∃cs n,m=⟨o.b,cs,o.ty,o.lo⟩::n/\IsLs G o.cs cs/\NZ G t n
def eh(G:Gh)(β:jt)(B:List av):Prop:=
 ∃vs,jI β.s β.ty β.x vs B/\IsLs G β.ds vs/\(∀v∈vs,(aE v).length=β.s)/\(β.lo=true-> ∀o∈B,o.lo=true)
def N6(G:Gh):List jt->List av->Prop
 |[],m=>m=[]
 |β::t,m=> ∃B n,m=B++n/\eh G β B/\N6 G t n
def OB(G:Gh)(own:List lw)(bs:List jt)(ov:List av):Prop:= ∃a b,ov=a++b/\NZ G own a/\N6 G bs b
structure Sr (GB G:Gh) (fr:nk) (own:List lw) (bs:List jt) (frv:Fr) (ov:List av):Prop where
 gb:bI GB G
 fr:EC G fr frv
 ob:OB G own bs ov
structure uU where
 fr:Fr
 own:List av
structure SD (GB:Gh) (C:aD) (n:Nat) (E:uU) (fr:nk) (own:List lw) (bs:List jt) (Φ:Act->World->Prop):Prop where
 run: ∀G frv ov,Sr GB G fr own bs frv ov->St C n (frv++E.fr) (ov++E.own) G Φ
instance {GB:Gh} {C:aD} {n:Nat} {E:uU} {fr:nk} {own:List lw} {bs:List jt} {Φ:Act->World->Prop}:CoeFun (SD GB C n E fr own bs Φ) (fun _=> ∀G frv ov,Sr GB G fr own bs frv ov->St C n (frv++E.fr) (ov++E.own) G Φ):=⟨SD.run⟩
section
variable {E:uU}{fr fr':nk}{own own':List lw}{bs bs':List jt}{r:List Oper}
def PF(GB:Gh)(P:Program)(f:FuncId)(ds:List DV)(r:DV):Prop:=
 ∀G vs,bI GB G->IsLs G ds vs->Fn P f vs G (fun v G'=>Is G' r v)
def PM(GB:Gh)(P:Program)(f:FuncId)(ds:List DV)(b:Nat)(ty:TypeId)(cs:List DV)(r:DV)(cs':List DV):Prop:=
 ∀G vs m lo,bI GB G->IsLs G ds vs->IsLs G cs m->iE P f vs [⟨b,m,ty,lo⟩] G (fun v css G'=>Is G' r v/\ ∃m',css=[m']/\IsLs G' cs' m')
def fh:List DV->DV
 |[d]=>d
 |l=> .tp l
def Cx{ds:List DV}(h:IsLs G ds vs):Is G (fh ds) (gI vs):=by
 match ds,h with
 |[],h=>rw[dE.1 h];exact jj.2 ⟨[],J, .nil⟩
 |[d],h=>
  obtain⟨y,m,rfl,h1,h2⟩:=aI.1 h;rw[dE.1 h2];exact h1
 |a::b::t,h=>
  obtain⟨y,m,rfl,h1,h2⟩:=aI.1 h;obtain⟨z,m',rfl,h3,h4⟩:=aI.1 h2;exact jj.2 ⟨_,J,h⟩
end
end Go.Sx
end
