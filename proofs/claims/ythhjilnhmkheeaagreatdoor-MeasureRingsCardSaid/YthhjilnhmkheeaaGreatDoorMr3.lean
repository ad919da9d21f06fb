import Derived.Test.YthhjilnhmkheeaaGreatDoorMr2
import Derived.Laws.Externs
import Derived.Lib.Overlaps
set_option linter.all false
set_option maxRecDepth 100000
section
namespace Go.Sx
open Go
instance:DecidableEq ab:=fun x y=>decidable_of_iff (x.a=y.a/\x.b=y.b/\x.c=y.c) (by
 cases x;cases y;simp)
structure ai where
 lo:Rat
 hi:Rat
 nl:Bool
 nh:Bool
def ai.all:ai:=⟨0,0,true,true⟩
def ai.empty(v:ai):Bool:=!v.nl&&(!v.nh&&decide (0<=bt v.lo v.hi))
def ai.meet(v w:ai):ai:=
 ⟨if v.nl then w.lo else if w.nl then v.lo else if v.lo<w.lo then w.lo else v.lo,
  if v.nh then w.hi else if w.nh then v.hi else if w.hi<v.hi then w.hi else v.hi,v.nl&&w.nl,v.nh&&w.nh⟩
def ai.sample(v:ai):Rat:=if v.nl&&v.nh then 0 else if v.nl then v.hi-1 else if v.nh then v.lo+1 else(v.lo+v.hi)*mkRat 1 2
def ab.cutK(l m:ab):Rat:=m.nor.dot l.dir
def ab.cutC(l m:ab):Rat:=m.value l.base
def ab.cutV(l:ab)(v:ai)(m:ab):ai:=
 if Int.sign (l.cutK m).num=0 then v
 else if Int.sign (l.cutK m).num=1 then v.meet ⟨-(l.cutC m/l.cutK m),0,false,true⟩
 else v.meet ⟨0, -(l.cutC m/l.cutK m),true,false⟩
def ab.cutB(l:ab)(v:ai)(m:ab):Bool:=
 if Int.sign (l.cutK m).num=0 then decide (0<Int.sign (l.cutC m).num) else !(l.cutV v m).empty
structure aI where
 l:ab
 v:ai
abbrev au:=List aI
def oG(l:ab):au->ai->Option ai
 |[],v=>some v
 |s::t,v=>if l.cutB v s.l then oG l t (l.cutV v s.l) else none
def kC(c:au)(l:ab):Option ai:=oG l c ai.all
def pH(l:ab)(s:aI):Int:=Int.sign (l.value (s.l.at s.v.sample)).num
def po(l:ab):au->Int
 |[]=> -1
 |s::t=>if pH l s≠0 then pH l s else if s.l=l then 1 else po l t
def wH(c:au)(l:ab):Int:=if(kC c l).isSome then 0 else po l c
def aa.half(p:aa):Int:=
 if 0<Int.sign p.y.num\/(Int.sign p.y.num=0/\0<Int.sign p.x.num) then 1 else if Int.sign p.y.num<0\/Int.sign p.x.num<0 then 2 else 0
def cF(u v:aa):Int:=if u.half<v.half then-1 else if v.half<u.half then 1 else-(Int.sign (u.cross v).num)
def eO(l:ab):au->au
 |[]=>[]
 |s::t=>if s.l.cutB s.v l then⟨s.l,s.l.cutV s.v l⟩::eO l t else eO l t
def ic(p:Nat->Bool)(i j:Nat):Nat:=
 if h:i<j then(if p ((i+j)/2) then ic p ((i+j)/2+1) j else ic p i ((i+j)/2)) else i
termination_by j-i
def jw(c:au)(l:ab)(i:Nat):Bool:=match c[i]? with
 |some s=>decide (cF s.l.dir l.dir<0)
 |none=>false
def k8(c:au)(l:ab)(v:ai):au:=
 c.take (ic (jw c l) 0 c.length)++⟨l,v⟩::c.drop (ic (jw c l) 0 c.length)
def b9(c:au)(l:ab):au:=match kC c l with
 |some v=>k8 (eO l c) l v
 |none=>c
def bG(c:au)(l:ab):Bool:=match kC c l with
 |some _=>true
 |none=>decide (0<wH c l)
def CU(p:Nat->Bool): ∀(d i j:Nat),j-i<=d->i<=j->i<=ic p i j/\ic p i j<=j
 |0,i,j,h,hij=>by
  rw[ic,dif_neg we];omega
 |d+1,i,j,h,hij=>by
  rw[ic];split
  .split
   .have:=CU p d ((i+j)/2+1) j we we;omega
   .have:=CU p d i ((i+j)/2) we we;omega
  .omega
def RS(l:ab): ∀c:au,(eO l c).length<=c.length
 |[]=>bV _
 |s::t=>by
  have:=RS l t;unfold eO;split<;>simp<;>omega
def aBC(c:au)(l:ab)(v:ai):(k8 c l v).length=c.length+1:=by
 have:=(CU (jw c l) c.length 0 c.length we we).2;simp[k8];omega
def CN(c:au)(l:ab):(b9 c l).length<=c.length+1:=by
 unfold b9;split
 .rw[aBC];have:=RS l c;omega
 .omega
inductive Tr where
 |leaf (b:Bool)
 |node (l:ab) (x y:Tr)
def Tr.isLeaf:Tr->Bool
 | .leaf _=>true
 | .node .. =>false
def Tr.code:Tr->Bool
 | .leaf b=>b
 | .node .. =>false
def Tr.depth:Tr->Nat
 | .leaf _=>0
 | .node _ x y=>1+max x.depth y.depth
def Tr.size:Tr->Nat
 | .leaf _=>0
 | .node _ x y=>1+x.size+y.size
def Tr.joinQ(l:ab)(x y:Tr):Tr:=if x.isLeaf&&(y.isLeaf&&(x.code==y.code)) then x else .node l x y
def Tr.restrict:Tr->au->Tr
 | .leaf b,_=> .leaf b
 | .node l x y,c=>if !bG c l.rev then x.restrict c else if !bG c l then y.restrict c else joinQ l (x.restrict (b9 c l)) (y.restrict (b9 c l.rev))
def Tr.parts:Tr->au->List (Bool×au)
 | .leaf b,c=>[(b,c)]
 | .node l x y,c=>(if bG c l then x.parts (b9 c l) else [])++(if bG c l.rev then y.parts (b9 c l.rev) else [])
def Tr.all(p:ab->Prop):Tr->Prop
 | .leaf _=>True
 | .node l x y=>p l/\x.all p/\y.all p
structure NQ where
 l:ab
 a:Int
 b:Int
def YF(b:Bool):Int:=if b then-2 else-1
def Tr.num:Tr->Nat->Int
 | .leaf b,_=>YF b
 | .node ..,n=>n
def Tr.wr:Tr->Nat->List NQ
 | .leaf _,_=>[]
 | .node l x y,n=>⟨l,x.num (n+1),y.num (n+1+x.size)⟩::x.wr (n+1)++y.wr (n+1+x.size)
def Tr.wr_len: ∀(t:Tr) (n:Nat),(t.wr n).length=t.size
 | .leaf _,n=>rfl
 | .node l x y,n=>by
  have h1:=Tr.wr_len x (n+1);have h2:=Tr.wr_len y (n+1+x.size);simp[Tr.wr,Tr.size,h1,h2];omega
def Tr.joinQ_cases(l:ab)(x y:Tr):(Tr.joinQ l x y=x/\x.isLeaf=true)\/(Tr.joinQ l x y= .node l x y/\ ¬(x.isLeaf=true/\y.isLeaf=true/\x.code=y.code)):=by
 unfold Tr.joinQ;split
 .rename_i h
  simp at h;exact .inl ⟨J,h.1⟩
 .rename_i h
  simp at h;exact .inr ⟨J,fun⟨a,b,c⟩=>h a b c⟩
def Tr.restrict_depth: ∀(t:Tr) (c:au),(t.restrict c).depth<=t.depth
 | .leaf b,c=>bV _
 | .node l x y,c=>by
  unfold Tr.restrict;split
  .have:=x.restrict_depth c;simp only[Tr.depth];omega
  .split
   .have:=y.restrict_depth c;simp only[Tr.depth];omega
   .have h1:=x.restrict_depth (b9 c l)
    have h2:=y.restrict_depth (b9 c l.rev);rcases Tr.joinQ_cases l (x.restrict (b9 c l)) (y.restrict (b9 c l.rev)) with⟨h,_⟩|⟨h,_⟩
    .rw[h];simp only[Tr.depth];omega
    .rw[h];simp only[Tr.depth];omega
def Tr.restrict_all(p:ab->Prop): ∀(t:Tr) (c:au),t.all p->(t.restrict c).all p
 | .leaf b,c,_=>trivial
 | .node l x y,c,h=>by
  obtain⟨h0,h1,h2⟩:=h;unfold Tr.restrict;split
  .exact x.restrict_all p c h1
  .split
   .exact y.restrict_all p c h2
   .rcases Tr.joinQ_cases l (x.restrict (b9 c l)) (y.restrict (b9 c l.rev)) with⟨h,_⟩|⟨h,_⟩
    .rw[h];exact x.restrict_all p _ h1
    .rw[h];exact⟨h0,x.restrict_all p _ h1,y.restrict_all p _ h2⟩
def iC(l:ab)(p:aa):l.value p=(l.a:Rat)*p.x+(l.b:Rat)*p.y+(l.c:Rat):=rfl
def fg(l:ab)(p:aa):l.rev.value p= -l.value p:=by
 rw[iC,iC];have h1:((l.rev.a:Int):Rat)= -(l.a:Rat):=(H' l.a).symm;have h2:((l.rev.b:Int):Rat)= -(l.b:Rat):=(H' l.b).symm;have h3:((l.rev.c:Int):Rat)= -(l.c:Rat):=(H' l.c).symm;rw[h1,h2,h3];grind
def aA(q p:aa)(e:Rat):aa:=⟨q.x+e*(p.x-q.x),q.y+e*(p.y-q.y)⟩
def mz(l:ab)(q p:aa)(e:Rat):l.value (aA q p e)=l.value q+e*(l.value p-l.value q):=by
 simp only[iC,aA];grind
def av(q u:aa)(e:Rat):aa:=⟨q.x+e*u.x,q.y+e*u.y⟩
def iw(l:ab)(q u:aa)(e:Rat):l.value (av q u e)=l.value q+e*l.nor.dot u:=by
 simp only[iC,av,ab.nor,aa.dot];grind
def bg{a b:Rat}(ha:0<a)(hb:0<b):0<a*b:=Rat.mul_pos ha hb
def bz{a b:Rat}(ha:0<=a)(hb:0<=b):0<=a*b:=pZ ha hb
def tc(a:Rat):0<=a*a:=by
 by_cases h:0<=a
 .exact bz h h
 .have:=bz (a:= -a) (b:= -a) omb omb
  grind
def gi{s k:Rat}(hk:0<k):0<s*k↔0<s:=by
 constructor
 .intro h
  by_cases hs:0<s
  .exact hs
  .have:=bz (a:= -s) (b:=k) omb omb
   grind
 .intro h;exact bg h hk
def ja{s k:Rat}(hk:0<k):0<=s*k↔0<=s:=by
 constructor
 .intro h
  by_cases hs:0<=s
  .exact hs
  .have:=bg (a:= -s) (b:=k) omb hk
   grind
 .intro h;exact bz h omb
def IC{A B u v:Rat}(h0:0<=A)(h1:0<=A+v*B)(hu:0<=u)(huv:u<=v):0<=A+u*B:=by
 by_cases hB:0<=B
 .have:=bz hu hB;grind
 .have:=bz (a:=v-u) (b:= -B) omb omb
  grind
def ab.Ne(l:ab):Prop:= ¬(l.a=0/\l.b=0)
def ab.ok.ne{l:ab}(h:l.ok):l.Ne:=h.1
def q9{l:ab}(h:l.Ne):0<l.nor.dot l.nor:=by
 show 0<(l.a:Rat)*l.a+(l.b:Rat)*l.b;have h1:=tc (l.a:Rat);have h2:=tc (l.b:Rat);by_cases ha:l.a=0
 .have hb:l.b≠0:=fun hb=>h ⟨ha,hb⟩
  have hb':(l.b:Rat)≠0:=fun e=>hb (eM.1 e);have:(l.b:Rat)*l.b≠0:=by grind
  grind
 .have ha':(l.a:Rat)≠0:=fun e=>ha (eM.1 e)
  have:(l.a:Rat)*l.a≠0:=by grind
  grind
def w7{l:ab}(h:l.Ne): ∃q:Rat,l.nor.dot l.nor*q= -(l.c:Rat)/\l.base=⟨(l.a:Rat)*q,(l.b:Rat)*q⟩:=by
 refine⟨-(l.c:Rat)/l.nor.dot l.nor,?_,J⟩;have:=q9 h;grind
def jx(l m:ab)(t:Rat):m.value (l.at t)=l.cutC m+t*l.cutK m:=by
 simp only[ab.cutC,ab.cutK,iC,ab.at,aa.add,aa.scale,ab.dir,ab.nor,aa.dot];grind
def jB{l:ab}(h:l.Ne)(t:Rat):l.value (l.at t)=0:=by
 obtain⟨q,h1,h2⟩:=w7 h;simp only[iC,ab.at,h2,aa.add,aa.scale,ab.dir];simp only[ab.nor,aa.dot] at h1;grind
def Cq{l:ab}(h:l.Ne){p:aa}(hp:l.value p=0): ∃t,p=l.at t:=by
 obtain⟨q,h1,h2⟩:=w7 h;have hn:=q9 h;obtain⟨x,y⟩:=p;rw[iC] at hp;simp only[ab.nor,aa.dot] at h1 hn;refine⟨((l.b:Rat)*x-(l.a:Rat)*y)/((l.a:Rat)*l.a+(l.b:Rat)*l.b),?_⟩;generalize ht:((l.b:Rat)*x-(l.a:Rat)*y)/((l.a:Rat)*l.a+(l.b:Rat)*l.b)=t;have ht':((l.a:Rat)*l.a+(l.b:Rat)*l.b)*t=(l.b:Rat)*x-(l.a:Rat)*y:=by grind
 simp only[ab.at,h2,aa.add,aa.scale,ab.dir,aa.mk.injEq];generalize (l.a:Rat)=a at*;generalize (l.b:Rat)=b at*;generalize (l.c:Rat)=c at*;have e1:(a*a+b*b)*(x-(a*q+b*t))=0:=by grind
 have e2:(a*a+b*b)*(y-(b*q+ -a*t))=0:=by grind
 constructor<;>grind
def ai.has(v:ai)(t:Rat):Prop:=(v.nl=true\/v.lo<=t)/\(v.nh=true\/t<=v.hi)
def ai.ins(v:ai)(t:Rat):Prop:=(v.nl=true\/v.lo<t)/\(v.nh=true\/t<v.hi)
def ai.Pos(v:ai):Prop:=v.nl=true\/v.nh=true\/v.lo<v.hi
def Gf(a b:Rat):0<=bt a b↔b<=a:=by
 unfold bt;split
 .constructor
  .intro h;exact absurd h oma
  .intro h;grind
 .split
  .constructor
   .intro _;grind
   .intro _;decide
  .constructor
   .intro _;grind
   .intro _;decide
def DD(v:ai):v.empty=false↔v.Pos:=by
 obtain⟨lo,hi,nl,nh⟩:=v;unfold ai.empty ai.Pos
 cases nl<;>cases nh<;>simp[Gf]
 first|exact Rat.not_le|grind
def ai.ins.has{v:ai}{t:Rat}(h:v.ins t):v.has t:=by
 obtain⟨h1,h2⟩:=h;exact⟨h1.imp id (fun h=>aN h),h2.imp id (fun h=>aN h)⟩
def KZ:mkRat 1 2=(1:Rat)/2:=by rw[pX];rfl
def qk{v:ai}(h:v.Pos):v.ins v.sample:=by
 obtain⟨lo,hi,nl,nh⟩:=v;unfold ai.Pos at h;unfold ai.ins ai.sample;rw[KZ]
 cases nl<;>cases nh<;>simp at* <;>grind
def MC(v w:ai)(t:Rat):(v.meet w).has t↔v.has t/\w.has t:=by
 obtain⟨lo,hi,nl,nh⟩:=v;obtain⟨lo',hi',nl',nh'⟩:=w;unfold ai.has ai.meet
 cases nl<;>cases nh<;>cases nl'<;>cases nh'<;>simp<;>grind
def LE(v w:ai)(t:Rat):(v.meet w).ins t↔v.ins t/\w.ins t:=by
 obtain⟨lo,hi,nl,nh⟩:=v;obtain⟨lo',hi',nl',nh'⟩:=w;unfold ai.ins ai.meet
 cases nl<;>cases nh<;>cases nl'<;>cases nh'<;>simp<;>grind
def At(t:Rat):ai.all.has t:=⟨.inl J, .inl J⟩
def VI(t:Rat):ai.all.ins t:=⟨.inl J, .inl J⟩
def uB:ai.all.Pos:= .inl J
def l5(k:Rat):Int.sign k.num=0↔k=0:=by rw[jR,mW]
def JI(k:Rat):0<k.num↔0<k:=by
 have h1:0<=k.num↔0<=k:=Rat.num_nonneg;have h2:k.num=0↔k=0:=mW;constructor
 .intro h
  have a:=h1.1 we;have b:k≠0:=fun e=>by have:=h2.2 e;omega
  grind
 .intro h
  have a:=h1.2 omb;have b:k.num≠0:=fun e=>by have:=h2.1 e;grind
  omega
def m8(k:Rat):Int.sign k.num=1↔0<k:=by rw[Int.sign_eq_one_iff_pos,JI]
def k9(k:Rat):0<Int.sign k.num↔0<k:=by
 rw[<-m8];rcases kS k.num 0 with h|h|h
 .rw[fZ h];decide
 .rw[h];decide
 .rw[fJ h];decide
def oB(k:Rat):Int.sign k.num<0↔k<0:=by
 have h1:=l5 k;have h2:=k9 k;constructor
 .intro h
  by_cases hk:0<k
  .have:=h2.2 hk;omega
  .by_cases h0:k=0
   .have:=h1.2 h0;omega
   .grind
 .intro h
  have a1: ¬Int.sign k.num=0:=fun e=>by have:=h1.1 e;grind
  have a2: ¬0<Int.sign k.num:=fun e=>by have:=h2.1 e;grind
  omega
def xb{l m:ab}(v:ai)(hk:l.cutK m=0):l.cutV v m=v/\(l.cutB v m=true↔0<l.cutC m):=by
 have h:=(l5 (l.cutK m)).2 hk;unfold ab.cutV ab.cutB;rw[if_pos h,if_pos h,decide_eq_true_iff,k9];exact⟨J,Iff.rfl⟩
def yQ{l m:ab}(v:ai)(hk:0<l.cutK m):l.cutV v m=v.meet ⟨-(l.cutC m/l.cutK m),0,false,true⟩/\(l.cutB v m=true↔(l.cutV v m).Pos):=by
 have h0: ¬Int.sign (l.cutK m).num=0:=fun e=>by have:=(l5 _).1 e;grind
 have h1:=(m8 (l.cutK m)).2 hk;constructor
 .unfold ab.cutV;rw[if_neg h0,if_pos h1]
 .unfold ab.cutB;rw[if_neg h0,<-DD];simp
def yc{l m:ab}(v:ai)(hk:l.cutK m<0):l.cutV v m=v.meet ⟨0, -(l.cutC m/l.cutK m),true,false⟩/\(l.cutB v m=true↔(l.cutV v m).Pos):=by
 have h0: ¬Int.sign (l.cutK m).num=0:=fun e=>by have:=(l5 _).1 e;grind
 have h1: ¬Int.sign (l.cutK m).num=1:=fun e=>by have:=(m8 _).1 e;grind
 constructor
 .unfold ab.cutV;rw[if_neg h0,if_neg h1]
 .unfold ab.cutB;rw[if_neg h0,<-DD];simp
def aKo{C K t:Rat}(hk:0<K): -(C/K)<=t↔0<=C+t*K:=by
 have e:C=C/K*K:=by grind
 generalize C/K=d at*;rw[e,show d*K+t*K=(d+t)*K from by grind,ja hk];grind
def MT{C K t:Rat}(hk:0<K): -(C/K)<t↔0<C+t*K:=by
 have e:C=C/K*K:=by grind
 generalize C/K=d at*;rw[e,show d*K+t*K=(d+t)*K from by grind,gi hk];grind
def aLc{C K t:Rat}(hk:K<0):t<= -(C/K)↔0<=C+t*K:=by
 have e:C=C/K*K:=by grind
 generalize C/K=d at*;rw[e,show d*K+t*K=(-(d+t))*(-K) from by grind,ja omb];grind
def PJ{C K t:Rat}(hk:K<0):t< -(C/K)↔0<C+t*K:=by
 have e:C=C/K*K:=by grind
 generalize C/K=d at*;rw[e,show d*K+t*K=(-(d+t))*(-K) from by grind,gi omb];grind
def cP(k:Rat):k=0\/0<k\/k<0:=by grind
def D6{l m:ab}{v:ai}(hb:l.cutB v m=true)(t:Rat):(l.cutV v m).has t↔v.has t/\0<=m.value (l.at t):=by
 rw[jx];rcases cP (l.cutK m) with hk|hk|hk
 .obtain⟨h1,h2⟩:=xb v hk
  rw[h1,hk];have:=h2.1 hb;constructor
  .intro h;exact⟨h,omb⟩
  .exact fun h=>h.1
 .rw[(yQ v hk).1,MC,<-aKo hk]
  simp[ai.has]
 .rw[(yc v hk).1,MC,<-aLc hk]
  simp[ai.has]
def Ri{l m:ab}{v:ai}(hb:l.cutB v m=true)(t:Rat):(l.cutV v m).ins t↔v.ins t/\0<m.value (l.at t):=by
 rw[jx];rcases cP (l.cutK m) with hk|hk|hk
 .obtain⟨h1,h2⟩:=xb v hk
  rw[h1,hk];have:=h2.1 hb;constructor
  .intro h;exact⟨h,omb⟩
  .exact fun h=>h.1
 .rw[(yQ v hk).1,LE,<-MT hk]
  simp[ai.ins]
 .rw[(yc v hk).1,LE,<-PJ hk]
  simp[ai.ins]
def Ck{l m:ab}{v:ai}(hv:v.Pos)(hb:l.cutB v m=true):(l.cutV v m).Pos:=by
 rcases cP (l.cutK m) with hk|hk|hk
 .rw[(xb v hk).1];exact hv
 .exact(yQ v hk).2.1 hb
 .exact(yc v hk).2.1 hb
def Gl{l m:ab}{v:ai}(hv:v.Pos)(hb:l.cutB v m=false){t:Rat}(ht:v.has t):m.value (l.at t)<=0:=by
 rw[jx];have hb': ¬l.cutB v m=true:=by rw[hb];decide
 rcases cP (l.cutK m) with hk|hk|hk
 .have h2:=(xb v hk).2
  have: ¬0<l.cutC m:=fun h=>hb' (h2.2 h);rw[hk];grind
 .obtain⟨h1,h2⟩:=yQ v hk
  have hn: ¬(l.cutV v m).Pos:=fun h=>hb' (h2.2 h);rw[h1] at hn;have h3:=MT (C:=l.cutC m) (t:=t) hk
  suffices¬(-(l.cutC m/l.cutK m)<t) by grind
  generalize-(l.cutC m/l.cutK m)=d at*;obtain⟨lo,hi,nl,nh⟩:=v;unfold ai.Pos ai.meet at hn;unfold ai.Pos at hv;unfold ai.has at ht
  cases nl<;>cases nh<;>simp at* <;>grind
 .obtain⟨h1,h2⟩:=yc v hk
  have hn: ¬(l.cutV v m).Pos:=fun h=>hb' (h2.2 h);rw[h1] at hn;have h3:=PJ (C:=l.cutC m) (t:=t) hk
  suffices¬(t< -(l.cutC m/l.cutK m)) by grind
  generalize-(l.cutC m/l.cutK m)=d at*;obtain⟨lo,hi,nl,nh⟩:=v;unfold ai.Pos ai.meet at hn;unfold ai.Pos at hv;unfold ai.has at ht
  cases nl<;>cases nh<;>simp at* <;>grind
def bm(c:au)(p:aa):Prop:= ∀s∈c,0<s.l.value p
def m6(c:au)(p:aa):Prop:= ∀s∈c,0<=s.l.value p
def Au(l:ab): ∀(c:au) (v w:ai),v.Pos->oG l c v=some w->
  w.Pos/\(∀t,w.has t↔v.has t/\m6 c (l.at t))/\(∀t,w.ins t↔v.ins t/\bm c (l.at t))
 |[],v,w,hv,h=>by
  obtain rfl:v=w:=by simpa[oG] using h
  exact⟨hv,fun t=>⟨fun h=>⟨h,fun s hs=>absurd hs omc⟩,fun h=>h.1⟩,fun t=>⟨fun h=>⟨h,fun s hs=>absurd hs omc⟩,fun h=>h.1⟩⟩
 |s::c,v,w,hv,h=>by
  rw[oG] at h;split at h
  .rename_i hb
   obtain⟨h1,h2,h3⟩:=Au l c _ w (Ck hv hb) h;refine⟨h1,fun t=>?_,fun t=>?_⟩
   .rw[h2,D6 hb]
    simp only[m6,eK];exact and_assoc
   .rw[h3,Ri hb]
    simp only[bm,eK];exact and_assoc
  .exact absurd h omc
def MM(l:ab): ∀(c:au) (v:ai),v.Pos->oG l c v=none-> ∀t,v.has t-> ¬bm c (l.at t)
 |[],v,hv,h=>by simp[oG] at h
 |s::c,v,hv,h=>by
  intro t ht hd;have hd':=eK.1 hd;rw[oG] at h;split at h
  .rename_i hb
   exact MM l c _ (Ck hv hb) h t ((D6 hb t).2 ⟨ht,aN hd'.1⟩) hd'.2
  .rename_i hb
   have:=Gl hv (by simpa using hb) ht;have:=hd'.1;grind
def bm.open: ∀{c:au} {q:aa} (u:aa),bm c q-> ∃e:Rat,0<e/\ ∀d,0<=d->d<=e->bm c (av q u d)
 |[],q,u,_=>⟨1,oma,fun d _ _ s hs=>absurd hs omc⟩
 |s::c,q,u,h=>by
  have h':=eK.1 h;obtain⟨e,he,hd⟩:=bm.open (c:=c) u h'.2;have hs:=h'.1;generalize hk:s.l.nor.dot u=k;have hf: ∃f:Rat,0<f/\ ∀d,0<=d->d<=f->0<s.l.value q+d*k:=by
   by_cases hk0:0<=k
   .exact⟨1,oma,fun d h1 _=>by have:=bz h1 hk0;grind⟩
   .refine⟨s.l.value q/(2* -k),?_,fun d h1 h2=>?_⟩
    .have e1:s.l.value q/(2* -k)*(2* -k)=s.l.value q:=by grind
     exact(gi (k:=2* -k) omb).1 (by rw[e1];exact hs)
    .have e1:s.l.value q/(2* -k)*(2* -k)=s.l.value q:=by grind
     generalize s.l.value q/(2* -k)=f at*;have:=bz (a:=f-d) (b:= -k) omb omb;grind
  obtain⟨f,hf0,hf⟩:=hf;by_cases hef:e<=f
  .refine⟨e,he,fun d h1 h2=>eK.2 ⟨?_,hd d h1 h2⟩⟩
   rw[iw,hk];exact hf d h1 omb
  .refine⟨f,hf0,fun d h1 h2=>eK.2 ⟨?_,hd d h1 omb⟩⟩
   rw[iw,hk];exact hf d h1 h2
def Nq: ∀{c:au} {q p:aa},bm c q->(∃s∈c,s.l.value p<=0)->
  ∃e:Rat,0<=e/\e<=1/\(∃s∈c,s.l.value p<=0/\s.l.value (aA q p e)=0)/\m6 c (aA q p e)
 |[],q,p,_,h=>by obtain⟨s,hs,_⟩:=h;exact absurd hs omc
 |s::c,q,p,h,hex=>by
  have h':=eK.1 h;have hs:=h'.1;by_cases hc: ∃s∈c,s.l.value p<=0
  .obtain⟨e,h0,h1,⟨s1,m1,n1,z1⟩,hC⟩:=Nq h'.2 hc
   by_cases hp:0<=s.l.value (aA q p e)
   .exact⟨e,h0,h1,⟨s1,aX _ m1,n1,z1⟩,eK.2 ⟨hp,hC⟩⟩
   .rw[mz] at hp
    generalize hB:s.l.value p-s.l.value q=B at*;have hB0:B<0:=by
     by_cases hB0:0<=B
     .have:=bz h0 hB0;grind
     .grind
    have e1:s.l.value q/(-B)*(-B)=s.l.value q:=by grind
    generalize hf:s.l.value q/(-B)=f at*;have f0:0<=f:=(ja (k:= -B) omb).1 (by rw[e1];grind);have f1:f<=e:=by
     have:=(ja (s:=e-f) (k:= -B) omb).1 omb;grind
    have z:s.l.value (aA q p f)=0:=by rw[mz,hB];grind
    have np:s.l.value p<=0:=by
     have:=bz (a:=1-e) (b:= -B) omb omb;grind
    refine⟨f,f0,omb,⟨s,aQ,np,z⟩,eK.2 ⟨by rw[z];exact dX,fun s2 m2=>?_⟩⟩;have a1:=h'.2 s2 m2;have a2:=hC s2 m2;rw[mz] at a2⊢;exact IC (aN a1) a2 f0 f1
  .have np:s.l.value p<=0:=by
    obtain⟨s1,m1,n1⟩:=hex;rcases aW.1 m1 with rfl|m1
    .exact n1
    .exact absurd ⟨s1,m1,n1⟩ hc
   generalize hB:s.l.value p-s.l.value q=B at*;have hB0:B<0:=by grind
   have e1:s.l.value q/(-B)*(-B)=s.l.value q:=by grind
   generalize hf:s.l.value q/(-B)=f at*;have f0:0<=f:=(ja (k:= -B) omb).1 (by rw[e1];grind);have f1:f<=1:=by
    have:=(ja (s:=1-f) (k:= -B) omb).1 omb;grind
   have z:s.l.value (aA q p f)=0:=by rw[mz,hB];grind
   refine⟨f,f0,f1,⟨s,aQ,np,z⟩,eK.2 ⟨by rw[z];exact dX,fun s2 m2=>?_⟩⟩;have a1:=h'.2 s2 m2;have a2:0<s2.l.value p:=by
    by_cases h:0<s2.l.value p
    .exact h
    .exact absurd ⟨s2,m2,omb⟩ hc
   rw[mz];have:=IC (A:=s2.l.value q) (B:=s2.l.value p-s2.l.value q) (u:=f) (v:=1) (aN a1) omb f0 f1;exact this
structure bw (c:au):Prop where
 ne: ∃p,bm c p
 ok: ∀s∈c,s.l.ok
 edge: ∀s∈c,s.v.Pos/\ ∀t,s.v.has t↔m6 c (s.l.at t)
def bw.nil:bw []:=⟨⟨⟨0,0⟩,fun s hs=>absurd hs omc⟩,fun s hs=>absurd hs omc,fun s hs=>absurd hs omc⟩
def uR{c:au}{m:ab}(hne: ∃q,bm c q)(h: ∀p,bm c p->0<m.value p){p:aa}(hp:m6 c p):0<=m.value p:=by
 obtain⟨q,hq⟩:=hne;have mq:=h q hq;by_cases hm:0<=m.value p
 .exact hm
 .exfalso
  generalize hB:m.value q-m.value p=B;have hB0:0<B:=by grind
  have e1: -m.value p/B*B= -m.value p:=by grind
  generalize-m.value p/B=e at*;have e0:0<e:=(gi hB0).1 (by rw[e1];grind);have e2:e<=1:=by
   have:=(ja (s:=1-e) hB0).1 omb;grind
  have hd:bm c (aA p q e):=fun s hs=>by
   rw[mz];have a:=hp s hs;have b:=hq s hs;have:=bg e0 b;have:=bz (a:=1-e) (b:=s.l.value p) omb a;grind
  have:=h _ hd;rw[mz,hB,e1] at this;grind
def tB{l:ab}{s':aI}: ∀{c:au},s'∈eO l c↔ ∃s∈c,s.l.cutB s.v l=true/\s'=⟨s.l,s.l.cutV s.v l⟩
 |[]=>by simp[eO]
 |s::c=>by
  rw[eO];split
  .rename_i hb
   rw[aW,tB (c:=c)];constructor
   .rintro (rfl|⟨s1,h1,h2⟩)
    .exact⟨s,aQ,hb,J⟩
    .exact⟨s1,aX _ h1,h2⟩
   .rintro ⟨s1,h1,h2,h3⟩
    rcases aW.1 h1 with rfl|h1
    .exact .inl h3
    .exact .inr ⟨s1,h1,h2,h3⟩
  .rename_i hb
   rw[tB (c:=c)];constructor
   .rintro ⟨s1,h1,h2⟩;exact⟨s1,aX _ h1,h2⟩
   .rintro ⟨s1,h1,h2,h3⟩
    rcases aW.1 h1 with rfl|h1
    .exact absurd h2 hb
    .exact⟨s1,h1,h2,h3⟩
def pk{c:au}{l:ab}{v:ai}{s:aI}:s∈k8 c l v↔s=⟨l,v⟩\/s∈c:=by
 unfold k8;generalize ic (jw c l) 0 c.length=n;rw[bJ,aW];have h:=jZ n c;constructor
 .rintro (h1|h1|h1)
  .exact .inr (dT h1)
  .exact .inl h1
  .exact .inr (gS h1)
 .rintro (h1|h1)
  .exact .inr (.inl h1)
  .rw[<-h,bJ] at h1
   rcases h1 with h1|h1
   .exact .inl h1
   .exact .inr (.inr h1)
def Sh{c:au}{l:ab}(hl:l.Ne)(hp:kC c l=none){p:aa}(h:bm c p):l.value p≠0:=by
 intro h0;obtain⟨t,rfl⟩:=Cq hl h0;exact MM l c _ uB hp t (At t) h
def Fm{c:au}{l:ab}(hl:l.Ne){v:ai}(hp:kC c l=some v):(∃q,bm c q/\0<l.value q)/\ ∃q,bm c q/\l.value q<0:=by
 obtain⟨h1,_,h3⟩:=Au l c _ v uB hp;have hd:=((h3 v.sample).1 (qk h1)).2;have h0:=jB hl v.sample;have hn:=q9 hl;constructor
 .obtain⟨e,he,hm⟩:=hd.open l.nor
  refine⟨_,hm e (aN he) dX,?_⟩;rw[iw,h0];have:=bg he hn;grind
 .obtain⟨e,he,hm⟩:=hd.open ⟨-l.nor.x, -l.nor.y⟩
  refine⟨_,hm e (aN he) dX,?_⟩;rw[iw,h0];have:=bg he hn;simp only[aa.dot] at this⊢;grind
def awa{c:au}{l:ab}{v:ai}(hc:bw c)(hl:l.ok)(hp:kC c l=some v):
  bw (k8 (eO l c) l v)/\ ∀p,bm (k8 (eO l c) l v) p↔bm c p/\0<l.value p:=by
 obtain⟨⟨q,hq,lq⟩,_⟩:=Fm hl.ne hp;obtain⟨v1,v2,v3⟩:=Au l c _ v uB hp;have hD: ∀p,bm (k8 (eO l c) l v) p↔bm c p/\0<l.value p:=by
  intro p;constructor
  .intro h
   have lp:0<l.value p:=h ⟨l,v⟩ (pk.2 (.inl J));refine⟨fun s0 hs0=>?_,lp⟩;by_cases h0:0<s0.l.value p
   .exact h0
   .exfalso
    obtain⟨e,e0,e1,⟨s,ms,ns,zs⟩,hC⟩:=Nq (p:=p) hq ⟨s0,hs0,omb⟩;obtain⟨t,ht⟩:=Cq (hc.ok s ms).ne zs;rw[ht] at hC;obtain⟨p1,p2⟩:=hc.edge s ms;have hh:=(p2 t).2 hC;have lr:0<l.value (s.l.at t):=by
     rw[<-ht,mz];by_cases hB:0<=l.value p-l.value q
     .have:=bz e0 hB;grind
     .have:=bz (a:=1-e) (b:= -(l.value p-l.value q)) omb omb
      grind
    have hb:s.l.cutB s.v l=true:=by
     cases hb:s.l.cutB s.v l with
     |true=>rfl
     |false=>have:=Gl p1 hb hh;grind
    have:=h ⟨s.l,s.l.cutV s.v l⟩ (pk.2 (.inr (tB.2 ⟨s,ms,hb,J⟩)));simp only at this;grind
  .rintro ⟨h1,h2⟩ s hs
   rcases pk.1 hs with rfl|hs
   .exact h2
   .obtain⟨s1,m1,_,rfl⟩:=tB.1 hs
    exact h1 s1 m1
 have hne: ∃p,bm (k8 (eO l c) l v) p:=⟨q,(hD q).2 ⟨hq,lq⟩⟩;have hC: ∀p,m6 (k8 (eO l c) l v) p↔m6 c p/\0<=l.value p:=by
  intro p;constructor
  .intro h
   refine⟨fun s hs=>?_,h ⟨l,v⟩ (pk.2 (.inl J))⟩;exact uR hne (fun p hp=>((hD p).1 hp).1 s hs) h
  .rintro ⟨h1,h2⟩ s hs
   rcases pk.1 hs with rfl|hs
   .exact h2
   .obtain⟨s1,m1,_,rfl⟩:=tB.1 hs
    exact h1 s1 m1
 refine⟨⟨hne,fun s hs=>?_,fun s hs=>?_⟩,hD⟩
 .rcases pk.1 hs with rfl|hs
  .exact hl
  .obtain⟨s1,m1,_,rfl⟩:=tB.1 hs
   exact hc.ok s1 m1
 .rcases pk.1 hs with rfl|hs
  .refine⟨v1,fun t=>?_⟩
   rw[hC];simp only;rw[v2];have h0:=jB hl.ne t;constructor
   .intro h;exact⟨h.2,by rw[h0];exact dX⟩
   .intro h;exact⟨At t,h.1⟩
  .obtain⟨s1,m1,hb,rfl⟩:=tB.1 hs
   obtain⟨p1,p2⟩:=hc.edge s1 m1;refine⟨Ck p1 hb,fun t=>?_⟩;rw[hC];simp only;rw[D6 hb,p2]
def bm.seg{c:au}{q p:aa}{e:Rat}(hq:bm c q)(hp:bm c p)(h0:0<=e)(h1:e<=1):bm c (aA q p e):=fun s hs=>by
 rw[mz];have a:=hq s hs;have b:=hp s hs;by_cases he:e=0
 .subst he;grind
 .have:=bg (a:=e) omb b
  have:=bz (a:=1-e) (b:=s.l.value q) omb omb;grind
def HA{v:ai}{t:Rat}(h:v.ins t):(∃u,u<t/\v.has u)/\ ∃u,t<u/\v.has u:=by
 obtain⟨lo,hi,nl,nh⟩:=v;unfold ai.ins at h;unfold ai.has;refine⟨⟨if nl=true then t-1 else lo,?_⟩,⟨if nh=true then t+1 else hi,?_⟩⟩<;>cases nl<;>cases nh<;>simp at* <;>grind
def yh{a b c x y z:Nat}(h1:x*b=a*y)(h2:x*c=a*z)(g:Nat.gcd (Nat.gcd a b) c=1):a∣x:=by
 have e:x=Nat.gcd (Nat.gcd (x*a) (x*b)) (x*c):=by
  rw[Nat.gcd_mul_left,Nat.gcd_mul_left,g,lY]
 rw[e];exact Nat.dvd_gcd (Nat.dvd_gcd (Nat.dvd_mul_left ..) (h1▸Nat.dvd_mul_right ..)) (h2▸Nat.dvd_mul_right ..)
def avz{a b c x y z:Int}(h1:a*y=b*x)(h2:a*z=c*x)(h3:b*z=c*y)
  (g1:Nat.gcd (Nat.gcd a.natAbs b.natAbs) c.natAbs=1)(g2:Nat.gcd (Nat.gcd x.natAbs y.natAbs) z.natAbs=1):
  (a=x/\b=y/\c=z)\/(a= -x/\b= -y/\c= -z):=by
 have n1:a.natAbs*y.natAbs=b.natAbs*x.natAbs:=by rw[<-iR,<-iR,h1]
 have n2:a.natAbs*z.natAbs=c.natAbs*x.natAbs:=by rw[<-iR,<-iR,h2]
 have n3:b.natAbs*z.natAbs=c.natAbs*y.natAbs:=by rw[<-iR,<-iR,h3]
 generalize ha:a.natAbs=A at*;generalize hb:b.natAbs=B at*;generalize hc:c.natAbs=C at*;generalize hx:x.natAbs=X at*;generalize hy:y.natAbs=Y at*;generalize hz:z.natAbs=Z at*;have gB:Nat.gcd (Nat.gcd B A) C=1:=by rw[jK B A];exact g1
 have gC:Nat.gcd (Nat.gcd C A) B=1:=by rw[Nat.gcd_assoc,jK];exact g1
 have gY:Nat.gcd (Nat.gcd Y X) Z=1:=by rw[jK Y X];exact g2
 have gZ:Nat.gcd (Nat.gcd Z X) Y=1:=by rw[Nat.gcd_assoc,jK];exact g2
 have e1:A=X:=Nat.dvd_antisymm (yh (x:=X) (y:=Y) (z:=Z) omb omb g1) (yh (x:=A) (y:=B) (z:=C) omb omb g2);have e2:B=Y:=Nat.dvd_antisymm (yh (x:=Y) (y:=X) (z:=Z) omb omb gB) (yh (x:=B) (y:=A) (z:=C) omb omb gY);have e3:C=Z:=Nat.dvd_antisymm (yh (x:=Z) (y:=X) (z:=Y) omb omb gC) (yh (x:=C) (y:=A) (z:=B) omb omb gZ);have s1:a=x\/a= -x:=by omega
 have s2:b=y\/b= -y:=by omega
 have s3:c=z\/c= -z:=by omega
 clear ha hb hc hx hy hz n1 n2 n3 g1 g2 gB gC gY gZ e1 e2 e3;have z1:= @sM x y;have z2:= @sM x z;have z3:= @sM y z;rcases s1 with rfl|rfl<;>rcases s2 with rfl|rfl<;>rcases s3 with rfl|rfl<;>grind
def vN{l m:ab}(hl:l.ok)(hm:m.ok)(h: ∀t,l.value (m.at t)=0):l=m\/l=m.rev:=by
 have h0:=h 0;have h1:=h 1;rw[jx] at h0 h1;have hC:m.cutC l=0:=by grind
 have hK:m.cutK l=0:=by grind
 obtain⟨q,q1,q2⟩:=w7 hm.ne;have hn:=q9 hm.ne;unfold ab.cutC at hC;rw[q2,iC] at hC;unfold ab.cutK at hK;simp only[ab.nor,ab.dir,aa.dot] at hK q1 hn hC;obtain⟨a,b,c⟩:=l;obtain⟨x,y,z⟩:=m;simp only at*;have e1:a*y=b*x:=by
  have:((a*y:Int):Rat)=((b*x:Int):Rat):=by rw[cS,cS];grind
  exact pU.1 this
 have e2:a*z=c*x:=by
  have:((a*z:Int):Rat)=((c*x:Int):Rat):=by rw[cS,cS];grind
  exact pU.1 this
 have e3:b*z=c*y:=by
  have:((b*z:Int):Rat)=((c*y:Int):Rat):=by rw[cS,cS];grind
  exact pU.1 this
 rcases avz e1 e2 e3 hl.2 hm.2 with⟨rfl,rfl,rfl⟩|⟨rfl,rfl,rfl⟩
 .exact .inl J
 .exact .inr J
def ab.ok.rev{l:ab}(h:l.ok):l.rev.ok:=by
 obtain⟨h1,h2⟩:=h;refine⟨?_,?_⟩
 .simp only[ab.rev];omega
 .simp only[ab.rev,iJ];exact h2
def L8(l:ab): ∀c:au,(∀s∈c,pH l s<=0/\s.l≠l)-> ¬0<po l c
 |[],_=>by simp[po]
 |s::c,h=>by
  have h':=eK.1 h;unfold po;rw[if_neg h'.1.2];split
  .have:=h'.1.1;omega
  .exact L8 l c h'.2
def OL{c:au}{l:ab}(hc:bw c)(hl:l.ok)(hp:kC c l=none):
  (0<po l c/\ ∀p,bm c p->0<l.value p)\/(¬0<po l c/\ ∀p,bm c p->l.value p<0):=by
 have hoff:=fun p (h:bm c p)=>Sh hl.ne hp h;by_cases hq: ∃q,bm c q/\0<l.value q
 .left
  obtain⟨q,hq,lq⟩:=hq;have hall: ∀p,bm c p->0<l.value p:=by
   intro p h;have:=hoff p h;by_cases h0:0<l.value p
   .exact h0
   .exfalso
    have hn:l.value p<0:=by grind
    have e1:l.value q/(l.value q-l.value p)*(l.value q-l.value p)=l.value q:=by grind
    generalize l.value q/(l.value q-l.value p)=e at*;have f0:0<=e:=(ja (k:=l.value q-l.value p) omb).1 omb;have f1:e<=1:=by
     have:=(ja (s:=1-e) (k:=l.value q-l.value p) omb).1 omb;grind
    exact hoff _ (hq.seg h f0 f1) (by rw[mz];grind)
  refine⟨?_,hall⟩
  cases c with
  |nil=>simp[kC,oG] at hp
  |cons s c=>
   obtain⟨p1,p2⟩:=hc.edge s aQ;have hi:=qk p1;have hr:=uR hc.ne hall ((p2 _).1 hi.has);unfold po;by_cases h0:pH l s=0
   .rw[if_neg (by simpa using h0)]
    have hz:l.value (s.l.at s.v.sample)=0:=(l5 _).1 h0;have hge: ∀t,s.v.has t->0<=l.value (s.l.at t):=fun t ht=>uR hc.ne hall ((p2 t).1 ht);obtain⟨⟨u1,m1,n1⟩,⟨u2,m2,n2⟩⟩:=HA hi;have g1:=hge _ n1;have g2:=hge _ n2;rw[jx] at hz g1 g2;have hK:s.l.cutK l=0:=by
     rcases cP (s.l.cutK l) with h|h|h
     .exact h
     .exfalso
      have:=bg (a:=s.v.sample-u1) (b:=s.l.cutK l) omb h;grind
     .exfalso
      have:=bg (a:=u2-s.v.sample) (b:= -s.l.cutK l) omb omb;grind
    have hz2: ∀t,l.value (s.l.at t)=0:=fun t=>by rw[jx,hK];rw[hK] at hz;grind
    rcases vN hl (hc.ok s aQ) hz2 with h|h
    .rw[if_pos h.symm];decide
    .exfalso
     have:=hall q hq;rw[h,fg] at this;have:=hq s aQ;grind
   .rw[if_pos h0]
    have hz:l.value (s.l.at s.v.sample)≠0:=fun e=>h0 ((l5 _).2 e);exact(k9 _).2 omb
 .right
  have hall: ∀p,bm c p->l.value p<0:=fun p h=>by
   have:=hoff p h;have: ¬0<l.value p:=fun h'=>hq ⟨p,h,h'⟩;grind
  refine⟨L8 l c fun s hs=>?_,hall⟩;obtain⟨p1,p2⟩:=hc.edge s hs;have hr:=uR (m:=l.rev) hc.ne (fun p h=>by rw[fg];have:=hall p h;grind) ((p2 _).1 (qk p1).has);rw[fg] at hr;constructor
  .have: ¬0<pH l s:=fun h=>by have:=(k9 _).1 h;grind
   omega
  .rintro rfl
   obtain⟨p,hp⟩:=hc.ne;have:=hall p hp;have:=hp s hs;grind
def fE{c:au}{l:ab}(hc:bw c)(hl:l.ok):bG c l=true↔ ∃p,bm c p/\0<l.value p:=by
 unfold bG
 cases hp:kC c l with
 |some v=>exact⟨fun _=>(Fm hl.ne hp).1,fun _=>J⟩
 |none=>
  simp only[wH,hp,Option.isSome_none,fT,if_false,decide_eq_true_iff];rcases OL hc hl hp with⟨h1,h2⟩|⟨h1,h2⟩
  .refine⟨fun _=>?_,fun _=>h1⟩
   obtain⟨p,hp⟩:=hc.ne;exact⟨p,hp,h2 p hp⟩
  .refine⟨fun h=>absurd h h1,?_⟩
   rintro ⟨p,hp,h⟩;have:=h2 p hp;grind
def gg{c:au}{l:ab}(hc:bw c)(hl:l.ok)(hb:bG c l=true):bw (b9 c l)/\ ∀p,bm (b9 c l) p↔bm c p/\0<l.value p:=by
 unfold b9
 cases hp:kC c l with
 |some v=>exact awa hc hl hp
 |none=>
  refine⟨hc,fun p=>?_⟩;unfold bG at hb;simp only[hp,wH,Option.isSome_none,fT,if_false,decide_eq_true_iff] at hb;rcases OL hc hl hp with⟨h1,h2⟩|⟨h1,h2⟩
  .exact⟨fun h=>⟨h,h2 p h⟩,fun h=>h.1⟩
  .exact absurd hb h1
def Bd{c:au}{l:ab}(hl:l.ok){p:aa}(hp:bm c p)(h0:l.value p=0):(∃q,bm c q/\0<l.value q)/\ ∃q,bm c q/\l.value q<0:=by
 have hn:=q9 hl.ne;constructor
 .obtain⟨e,he,hm⟩:=hp.open l.nor
  refine⟨_,hm e (aN he) dX,?_⟩;rw[iw,h0];have:=bg he hn;grind
 .obtain⟨e,he,hm⟩:=hp.open ⟨-l.nor.x, -l.nor.y⟩
  refine⟨_,hm e (aN he) dX,?_⟩;rw[iw,h0];have:=bg he hn;simp only[aa.dot] at this⊢;grind
inductive aL7 (c:au) (l:ab):Prop
 |left (h1:bG c l.rev=false) (h: ∀p,bm c p->0<l.value p)
 |right (h1:bG c l.rev=true) (h2:bG c l=false) (h: ∀p,bm c p->l.value p<0)
 |both (h1:bG c l.rev=true) (h2:bG c l=true) (g1:bw (b9 c l)) (g2:bw (b9 c l.rev))
   (e1: ∀p,bm (b9 c l) p↔bm c p/\0<l.value p) (e2: ∀p,bm (b9 c l.rev) p↔bm c p/\l.value p<0)
def uJ{c:au}{l:ab}(hc:bw c)(hl:l.ok):aL7 c l:=by
 have hr:=fE hc hl.rev;have hi:=fE hc hl
 cases h1:bG c l.rev with
 |false=>
  refine .left h1 fun p hp=>?_;have hn: ¬ ∃q,bm c q/\l.value q<0:=by
   rintro ⟨q,a,b⟩;have:=hr.2 ⟨q,a,by rw[fg];grind⟩;rw[h1] at this;exact absurd this oma
  have n1: ¬l.value p<0:=fun h=>hn ⟨p,hp,h⟩;have n2:l.value p≠0:=fun h=>hn (Bd hl hp h).2;grind
 |true=>
  cases h2:bG c l with
  |false=>
   refine .right h1 h2 fun p hp=>?_;have hn: ¬ ∃q,bm c q/\0<l.value q:=by
    intro h;have:=hi.2 h;rw[h2] at this;exact absurd this oma
   have n1: ¬0<l.value p:=fun h=>hn ⟨p,hp,h⟩;have n2:l.value p≠0:=fun h=>hn (Bd hl hp h).1;grind
  |true=>
   obtain⟨g1,e1⟩:=gg hc hl h2;obtain⟨g2,e2⟩:=gg hc hl.rev h1;refine .both h1 h2 g1 g2 e1 fun p=>?_;rw[e2,fg];constructor<;>rintro ⟨a,b⟩<;>exact⟨a,omb⟩
def Tr.restrict_A{l:ab}{e:au}(X Y:Tr)(h:bG e l.rev=false):(Tr.node l X Y).restrict e=X.restrict e:=by
 rw[Tr.restrict,h];rfl
def Tr.restrict_B{l:ab}{e:au}(X Y:Tr)(h:bG e l.rev=true)(h2:bG e l=false):(Tr.node l X Y).restrict e=Y.restrict e:=by
 rw[Tr.restrict,h,h2];rfl
def Tr.restrict_C{l:ab}{e:au}(X Y:Tr)(h:bG e l.rev=true)(h2:bG e l=true):(Tr.node l X Y).restrict e=Tr.joinQ l (X.restrict (b9 e l)) (Y.restrict (b9 e l.rev)):=by
 rw[Tr.restrict,h,h2];rfl
def tj:List ab->au->Option au
 |[],c=>some c
 |l::t,c=>if bG c l then tj t (b9 c l) else none
def Rj: ∀{ls:List ab} {c e:au},bw c->(∀l∈ls,l.ok)->tj ls c=some e->bw e/\ ∀p,bm e p↔bm c p/\ ∀l∈ls,0<l.value p
 |[],c,e,hc,_,h=>by
  obtain rfl:c=e:=by simpa[tj] using h
  exact⟨hc,fun p=>⟨fun h=>⟨h,fun l hl=>absurd hl omc⟩,fun h=>h.1⟩⟩
 |l::t,c,e,hc,hl,h=>by
  have hl':=eK.1 hl;rw[tj] at h;split at h
  .rename_i hb
   obtain⟨g1,g2⟩:=gg hc hl'.1 hb;obtain⟨k1,k2⟩:=Rj g1 hl'.2 h;refine⟨k1,fun p=>?_⟩;rw[k2,g2,eK,and_assoc]
  .exact absurd h omc
def Mn: ∀{ls:List ab} {c:au},bw c->(∀l∈ls,l.ok)->(∃p,bm c p/\ ∀l∈ls,0<l.value p)-> ∃e,tj ls c=some e
 |[],c,_,_,_=>⟨c,J⟩
 |l::t,c,hc,hl,⟨p,h1,h2⟩=>by
  have hl':=eK.1 hl;have h2':=eK.1 h2;have hb:=(fE hc hl'.1).2 ⟨p,h1,h2'.1⟩;obtain⟨g1,g2⟩:=gg hc hl'.1 hb;rw[tj,if_pos hb];exact Mn g1 hl'.2 ⟨p,(g2 p).2 ⟨h1,h2'.1⟩,h2'.2⟩
def L5{c:au}(hc:bw c){s:aI}(hs:s∈c){m:ab}(hm:m.ok)(h: ∀p,bm c p->0<m.value p)(hz:m.value (s.l.at s.v.sample)=0):m=s.l:=by
 obtain⟨p1,p2⟩:=hc.edge s hs;have hi:=qk p1;have hge: ∀t,s.v.has t->0<=m.value (s.l.at t):=fun t ht=>uR hc.ne h ((p2 t).1 ht);obtain⟨⟨u1,m1,n1⟩,⟨u2,m2,n2⟩⟩:=HA hi;have g1:=hge _ n1;have g2:=hge _ n2;rw[jx] at hz g1 g2;have hK:s.l.cutK m=0:=by
  rcases cP (s.l.cutK m) with h|h|h
  .exact h
  .exfalso
   have:=bg (a:=s.v.sample-u1) (b:=s.l.cutK m) omb h;grind
  .exfalso
   have:=bg (a:=u2-s.v.sample) (b:= -s.l.cutK m) omb omb;grind
 have hz2: ∀t,m.value (s.l.at t)=0:=fun t=>by rw[jx,hK];rw[hK] at hz;grind
 rcases vN hm (hc.ok s hs) hz2 with h'|h'
 .exact h'
 .exfalso
  obtain⟨q,hq⟩:=hc.ne;have:=h q hq;rw[h',fg] at this;have:=hq s hs;grind
def gk(l:ab):List ab->ai->Option ai
 |[],v=>some v
 |m::t,v=>if m=l then gk l t v else if l.cutB v m then gk l t (l.cutV v m) else none
def du(c:List ab)(p:aa):Prop:= ∀m∈c,0<m.value p
def BO(l:ab): ∀(c:List ab) (v w:ai),v.Pos->gk l c v=some w->
  w.Pos/\(∀t,w.ins t↔v.ins t/\ ∀m∈c,m≠l->0<m.value (l.at t))
 |[],v,w,hv,h=>by
  obtain rfl:v=w:=by simpa[gk] using h
  exact⟨hv,fun t=>⟨fun h=>⟨h,fun s hs=>absurd hs omc⟩,fun h=>h.1⟩⟩
 |m::c,v,w,hv,h=>by
  rw[gk] at h;split at h
  .rename_i hm
   obtain⟨h1,h2⟩:=BO l c _ w hv h;refine⟨h1,fun t=>?_⟩;rw[h2,eK];exact⟨fun h=>⟨h.1,fun h'=>absurd hm h',h.2⟩,fun h=>⟨h.1,h.2.2⟩⟩
  .rename_i hm
   split at h
   .rename_i hb
    obtain⟨h1,h2⟩:=BO l c _ w (Ck hv hb) h;refine⟨h1,fun t=>?_⟩;rw[h2,Ri hb,eK,and_assoc];exact⟨fun h=>⟨h.1,fun _=>h.2.1,h.2.2⟩,fun h=>⟨h.1,h.2.1 hm,h.2.2⟩⟩
   .exact absurd h omc
def Hg(l:ab): ∀(c:List ab) (v:ai),v.Pos->gk l c v=none-> ∀t,v.has t-> ¬ ∀m∈c,m≠l->0<m.value (l.at t)
 |[],v,hv,h=>by simp[gk] at h
 |m::c,v,hv,h=>by
  intro t ht hd;have hd':=eK.1 hd;rw[gk] at h;split at h
  .exact Hg l c _ hv h t ht hd'.2
  .rename_i hm
   split at h
   .rename_i hb
    exact Hg l c _ (Ck hv hb) h t ((D6 hb t).2 ⟨ht,aN (hd'.1 hm)⟩) hd'.2
   .rename_i hb
    have:=Gl hv (by simpa using hb) ht;have:=hd'.1 hm;grind
def la(c:List ab):Bool:=c.isEmpty||c.any (fun l=>(gk l c ai.all).isSome)
def O4: ∀{ls:List ab} {c e:au},tj ls c=some e-> ∀s∈e,s.l∈ls\/ ∃s'∈c,s'.l=s.l
 |[],c,e,h,s,hs=>by
  obtain rfl:c=e:=by simpa[tj] using h
  exact .inr ⟨s,hs,J⟩
 |l::t,c,e,h,s,hs=>by
  rw[tj] at h;split at h
  .rcases O4 h s hs with h1|⟨s',h1,h2⟩
   .exact .inl (aX _ h1)
   .unfold b9 at h1
    split at h1
    .rcases pk.1 h1 with rfl|h1
     .exact .inl (by rw[<-h2];exact aQ)
     .obtain⟨s1,m1,_,rfl⟩:=tB.1 h1
      exact .inr ⟨s1,m1,h2⟩
    .exact .inr ⟨s',h1,h2⟩
  .exact absurd h omc
def DN{c:List ab}(hok: ∀l∈c,l.ok)(hne: ∃p,du c p): ∃e,tj c []=some e/\bw e/\(∀p,bm e p↔du c p)/\ ∀s∈e,s.l∈c/\(gk s.l c ai.all).isSome=true:=by
 obtain⟨p,hp⟩:=hne;obtain⟨e,he⟩:=Mn bw.nil hok ⟨p,fun s hs=>absurd hs omc,hp⟩;obtain⟨g1,g2⟩:=Rj bw.nil hok he;have g3: ∀p,bm e p↔du c p:=fun p=>by
  rw[g2];exact⟨fun h=>h.2,fun h=>⟨fun s hs=>absurd hs omc,h⟩⟩
 refine⟨e,he,g1,g3,fun s hs=>?_⟩;have hm:s.l∈c:=by
  rcases O4 he s hs with h|⟨_,h,_⟩
  .exact h
  .exact absurd h omc
 refine⟨hm,?_⟩
 cases hp:gk s.l c ai.all with
 |some w=>rfl
 |none=>
  exfalso;obtain⟨p1,p2⟩:=g1.edge s hs;have hC:=(p2 s.v.sample).1 (qk p1).has;refine Hg s.l c _ uB hp s.v.sample (At _) fun m hmc hne=>?_;have hall: ∀p,bm e p->0<m.value p:=fun p hp=>(g3 p).1 hp m hmc;have h0:=uR g1.ne hall hC;have h1:m.value (s.l.at s.v.sample)≠0:=fun hz=>hne (L5 g1 hs (hok m hmc) hall hz);grind
def C7{c:List ab}(hok: ∀l∈c,l.ok):la c=true↔ ∃p,du c p:=by
 unfold la;rw[fU,List.isEmpty_iff,jY];constructor
 .rintro (rfl|⟨l,hl,h⟩)
  .exact⟨⟨0,0⟩,fun m hm=>absurd hm omc⟩
  .obtain⟨w,hw⟩:=qR.1 h
   obtain⟨w1,w2⟩:=BO l c _ w uB hw;have hi:=((w2 w.sample).1 (qk w1)).2;have h0:=jB (hok l hl).ne w.sample;have hd:bm ((c.filter (fun m=>decide (m≠l))).map (fun m=>(⟨m,ai.all⟩:aI))) (l.at w.sample):=by
    intro s hs;obtain⟨m,hm,rfl⟩:=aS.1 hs;rw[iZ,decide_eq_true_iff] at hm;exact hi m hm.1 hm.2
   obtain⟨e,he,ho⟩:=hd.open l.nor;refine⟨av (l.at w.sample) l.nor e,fun m hm=>?_⟩;by_cases hml:m=l
   .subst hml
    rw[iw,h0];have:=bg he (q9 (hok m hl).ne);grind
   .exact ho e (aN he) dX ⟨m,ai.all⟩ (aS.2 ⟨m,iZ.2 ⟨hm,by simpa using hml⟩,J⟩)
 .intro hne
  obtain⟨e,h1,h2,h3,h4⟩:=DN hok hne
  cases c with
  |nil=>exact .inl J
  |cons l c=>
   right
   cases e with
   |nil=>
    exfalso;have:=(h3 (l.at 0)).1 (fun s hs=>absurd hs omc) l aQ;rw[jB (hok l aQ).ne] at this;exact absurd this oma
   |cons s e=>
    obtain⟨a,b⟩:=h4 s aQ;exact⟨s.l,a,b⟩
def pc(out:List ab)(l:ab):Nat:=(out.takeWhile (fun x=>decide (cF x.dir l.dir<0))).length
def qB(out:List ab)(l:ab):List ab:=if out[pc out l]? =some l then out else out.take (pc out l)++l::out.drop (pc out l)
def pg(c:List ab):List ab->List ab->List ab
 |[],out=>out
 |l::t,out=>pg c t (if(gk l c ai.all).isSome then qB out l else out)
def im(c:List ab):List ab:=pg c c []
def Hl{out:List ab}{l m:ab}:m∈qB out l↔m=l\/m∈out:=by
 unfold qB;split
 .rename_i h
  exact⟨fun h=> .inr h,fun h'=>h'.elim (fun e=>e▸aT h) id⟩
 .generalize pc out l=n
  have h:=jZ n out;rw[bJ,aW];constructor
  .rintro (h1|h1|h1)
   .exact .inr (dT h1)
   .exact .inl h1
   .exact .inr (gS h1)
  .rintro (h1|h1)
   .exact .inr (.inl h1)
   .rw[<-h,bJ] at h1
    rcases h1 with h1|h1
    .exact .inl h1
    .exact .inr (.inr h1)
def QA{c:List ab}{m:ab}: ∀{t out:List ab},m∈pg c t out↔m∈out\/m∈t/\(gk m c ai.all).isSome=true
 |[],out=>by simp[pg]
 |l::t,out=>by
  rw[pg,QA];split
  .rename_i h
   rw[Hl,aW];constructor
   .rintro ((rfl|h1)|⟨h1,h2⟩)
    .exact .inr ⟨.inl J,h⟩
    .exact .inl h1
    .exact .inr ⟨.inr h1,h2⟩
   .rintro (h1|⟨rfl|h1,h2⟩)
    .exact .inl (.inr h1)
    .exact .inl (.inl J)
    .exact .inr ⟨h1,h2⟩
  .rename_i h
   rw[aW];constructor
   .rintro (h1|⟨h1,h2⟩)
    .exact .inl h1
    .exact .inr ⟨.inr h1,h2⟩
   .rintro (h1|⟨rfl|h1,h2⟩)
    .exact .inl h1
    .exact absurd h2 h
    .exact .inr ⟨h1,h2⟩
def r8{c:List ab}{m:ab}:m∈im c↔m∈c/\(gk m c ai.all).isSome=true:=by
 unfold im;rw[QA];simp
def HL{c:List ab}(hok: ∀l∈c,l.ok)(hne: ∃p,du c p)(p:aa):du (im c) p↔du c p:=by
 constructor
 .intro h
  obtain⟨e,h1,h2,h3,h4⟩:=DN hok hne;exact(h3 p).1 fun s hs=>h s.l (r8.2 (h4 s hs))
 .intro h m hm;exact h m (r8.1 hm).1
def ui(c:List ab)(l:ab):Int:=if la (c++[l])&&la (c++[l.rev]) then 0 else if la (c++[l]) then 1 else-1
def Tr.restrictL:Tr->List ab->Tr
 | .leaf b,_=> .leaf b
 | .node l x y,c=>if ui c l=1 then x.restrictL c else if ui c l= -1 then y.restrictL c else joinQ l (x.restrictL (im (c++[l]))) (y.restrictL (im (c++[l.rev])))
def qF{c:List ab}{l:ab}{p:aa}:du (c++[l]) p↔du c p/\0<l.value p:=by
 unfold du;rw[rY];simp
def mI{c:List ab}{l:ab}(hok: ∀m∈c,m.ok)(hl:l.ok): ∀m∈c++[l],m.ok:=by
 rw[rY];exact⟨hok,by simpa using hl⟩
def Tr.restrictL_eq: ∀(t:Tr) (c:List ab) (d:au),t.all ab.ok->(∀l∈c,l.ok)->bw d->(∀p,bm d p↔du c p)->t.restrictL c=t.restrict d
 | .leaf b,c,d,_,_,_,_=>rfl
 | .node l x y,c,d,h,hc,hd,he=>by
  obtain⟨hl,hx,hy⟩:=h;have i1:=C7 (mI hc hl);have i2:=C7 (mI hc hl.rev);obtain⟨p0,hp0⟩:=hd.ne;rcases uJ hd hl with⟨a1,a⟩|⟨a1,a2,a⟩|⟨a1,a2,ag1,ag2,ae1,ae2⟩
  .have b1:la (c++[l])=true:=i1.2 ⟨p0,qF.2 ⟨(he p0).1 hp0,a p0 hp0⟩⟩
   have b2:la (c++[l.rev])=false:=by
    rw[<-nX,i2];rintro ⟨p,hp⟩;have hp:=qF.1 hp;have:=a p ((he p).2 hp.1);rw[fg] at hp;grind
   rw[Tr.restrict_A _ _ a1,Tr.restrictL,ui,b1,b2];exact x.restrictL_eq c d hx hc hd he
  .have b2:la (c++[l.rev])=true:=i2.2 ⟨p0,qF.2 ⟨(he p0).1 hp0,by rw[fg];have:=a p0 hp0;grind⟩⟩
   have b1:la (c++[l])=false:=by
    rw[<-nX,i1];rintro ⟨p,hp⟩;have hp:=qF.1 hp;have:=a p ((he p).2 hp.1);grind
   rw[Tr.restrict_B _ _ a1 a2,Tr.restrictL,ui,b1,b2];exact y.restrictL_eq c d hy hc hd he
  .have n1: ∃p,du (c++[l]) p:=by
    obtain⟨p,hp⟩:=ag1.ne;exact⟨p,qF.2 ⟨(he p).1 ((ae1 p).1 hp).1,((ae1 p).1 hp).2⟩⟩
   have n2: ∃p,du (c++[l.rev]) p:=by
    obtain⟨p,hp⟩:=ag2.ne;exact⟨p,qF.2 ⟨(he p).1 ((ae2 p).1 hp).1,by rw[fg];have:=((ae2 p).1 hp).2;grind⟩⟩
   rw[Tr.restrict_C _ _ a1 a2,Tr.restrictL,ui,i1.2 n1,i2.2 n2];have k1:=x.restrictL_eq (im (c++[l])) (b9 d l) hx (fun m hm=>mI hc hl m (r8.1 hm).1) ag1 fun p=>by
    rw[HL (mI hc hl) n1,ae1,qF,he]
   have k2:=y.restrictL_eq (im (c++[l.rev])) (b9 d l.rev) hy (fun m hm=>mI hc hl.rev m (r8.1 hm).1) ag2 fun p=>by
    rw[HL (mI hc hl.rev) n2,ae2,qF,he,fg];constructor<;>rintro ⟨a,b⟩<;>exact⟨a,omb⟩
   rw[k1,k2];rfl
def crossI(l m:ab):Int:=l.a*m.b-m.a*l.b
def meetX(l m:ab):Int:=l.b*m.c-m.b*l.c
def meetY(l m:ab):Int:=m.a*l.c-l.a*m.c
def c9(l m:ab):aa:=if crossI l m=0 then⟨0,0⟩ else⟨(meetX l m:Rat)/(crossI l m:Rat),(meetY l m:Rat)/(crossI l m:Rat)⟩
def fI(l:ab)(p:aa):Rat:=p.dot l.dir/l.dir.dot l.dir
def Ja(l:ab):l.dir.dot l.dir=l.nor.dot l.nor:=by
 simp only[ab.dir,ab.nor,aa.dot];grind
def Ay{l:ab}(h:l.Ne):0<l.dir.dot l.dir:=by rw[Ja];exact q9 h
def yb(l m:ab):((crossI l m:Int):Rat)=(l.a:Rat)*m.b-(m.a:Rat)*l.b:=by
 unfold crossI;rw[kW,cS,cS]
def NW(l m:ab):((meetX l m:Int):Rat)=(l.b:Rat)*m.c-(m.b:Rat)*l.c:=by
 unfold meetX;rw[kW,cS,cS]
def QQ(l m:ab):((meetY l m:Int):Rat)=(m.a:Rat)*l.c-(l.a:Rat)*m.c:=by
 unfold meetY;rw[kW,cS,cS]
def DL(l m:ab):l.cutK m= -((crossI l m:Int):Rat):=by
 rw[yb];simp only[ab.cutK,ab.nor,ab.dir,aa.dot];grind
def QH(l m:ab):m.dir.cross l.dir=l.cutK m:=by
 simp only[ab.cutK,ab.nor,ab.dir,aa.dot,aa.cross];grind
def Oq{l:ab}:(⟨-((l.c:Rat)/l.dir.dot l.dir)*(l.a:Rat), -((l.c:Rat)/l.dir.dot l.dir)*(l.b:Rat)⟩:aa)=l.base:=by
 unfold ab.base;rw[Ja];simp only[ab.nor,aa.scale,aa.mk.injEq];constructor<;>grind
def uT(l:ab)(t:Rat):av l.base l.dir t=l.at t:=by
 simp only[av,ab.at,aa.add,aa.scale,aa.mk.injEq];constructor<;>grind
def Bw{l m:ab}(hl:l.Ne)(h:crossI l m≠0):fI l (c9 l m)= -(l.cutC m/l.cutK m):=by
 have hd:((crossI l m:Int):Rat)≠0:=fun e=>h (eM.1 e);have hn:=Ay hl;obtain⟨q,q1,q2⟩:=w7 hl;rw[DL];unfold fI c9 ab.cutC;rw[if_neg h,q2,iC,NW,QQ];have hc:=yb l m;rw[Ja] at hn⊢;simp only[ab.dir,ab.nor,aa.dot] at hn q1⊢;generalize ((crossI l m:Int):Rat)=d at*;generalize (l.a:Rat)=a at*;generalize (l.b:Rat)=b at*;generalize (l.c:Rat)=c at*;generalize (m.a:Rat)=x at*;generalize (m.b:Rat)=y at*;generalize (m.c:Rat)=z at*;have hn':a*a+b*b≠0:=by grind
 have e:((b*z-y*c)/d*b+(x*c-a*z)/d* -a)=((b*z-y*c)*b-(x*c-a*z)*a)/d:=by grind
 rw[e];have k1:(b*z-y*c)*b-(x*c-a*z)*a=(a*a+b*b)*(x*(a*q)+y*(b*q)+z):=by grind
 rw[k1];grind
def atW{l m:ab}(hl:l.Ne)(h:crossI l m≠0):fI l (c9 l m)*((crossI l m*(l.a*l.a+l.b*l.b):Int):Rat)=((meetX l m*l.b-meetY l m*l.a:Int):Rat):=by
 have hd:((crossI l m:Int):Rat)≠0:=fun e=>h (eM.1 e);have hn:=Ay hl;unfold fI c9;rw[if_neg h];simp only[cS,kW,mY];simp only[ab.dir,aa.dot] at hn⊢;generalize ((crossI l m:Int):Rat)=d at*;generalize ((meetX l m:Int):Rat)=x at*;generalize ((meetY l m:Int):Rat)=y at*;generalize (l.a:Rat)=a at*;generalize (l.b:Rat)=b at*;have hn':b*b+ -a* -a≠0:=by grind
 grind
def JB(l m:ab)(t:List ab)(v:ai):gk l (m::t) v=if m=l then gk l t v else if l.cutB v m then gk l t (l.cutV v m) else none:=rfl
def qn(v:ai)(t:Rat):ai:=if v.nl=true\/0<bt t v.lo then⟨t,v.hi,false,v.nh⟩ else v
def qz(v:ai)(t:Rat):ai:=if v.nh=true\/bt t v.hi<0 then⟨v.lo,t,v.nl,false⟩ else v
structure iF (v:ai):Prop where
 lo:v.nl=true->v.lo=0
 hi:v.nh=true->v.hi=0
def Fp(a b:Rat):0<bt a b↔b<a:=by
 unfold bt;split
 .constructor
  .intro h;exact absurd h oma
  .intro h;grind
 .split
  .exact⟨fun _=>by assumption,fun _=>by decide⟩
  .constructor
   .intro h;exact absurd h oma
   .intro h;exact absurd h ome
def zy(a b:Rat):bt a b<0↔a<b:=by
 unfold bt;split
 .exact⟨fun _=>by assumption,fun _=>by decide⟩
 .split
  .constructor
   .intro h;exact absurd h oma
   .intro h;grind
  .constructor
   .intro h;exact absurd h oma
   .intro h;exact absurd h ome
def P1{v:ai}(h:iF v)(t:Rat):qn v t=v.meet ⟨t,0,false,true⟩:=by
 obtain⟨lo,hi,nl,nh⟩:=v;obtain⟨h1,h2⟩:=h;unfold qn ai.meet;simp only[Fp] at*
 cases nl<;>cases nh<;>simp at* <;>(try (split<;>split<;>simp_all<;>grind))<;>grind
def Oi{v:ai}(h:iF v)(t:Rat):qz v t=v.meet ⟨0,t,true,false⟩:=by
 obtain⟨lo,hi,nl,nh⟩:=v;obtain⟨h1,h2⟩:=h;unfold qz ai.meet;simp only[zy] at*
 cases nl<;>cases nh<;>simp at* <;>(try (split<;>split<;>simp_all<;>grind))<;>grind
def iF.all:iF ai.all:=⟨fun _=>J,fun _=>J⟩
def iF.lo'{v:ai}(h:iF v)(t:Rat):iF (qn v t):=by
 obtain⟨lo,hi,nl,nh⟩:=v;unfold qn;split
 .exact⟨fun h=>by simp at h,h.hi⟩
 .exact h
def iF.hi'{v:ai}(h:iF v)(t:Rat):iF (qz v t):=by
 obtain⟨lo,hi,nl,nh⟩:=v;unfold qz;split
 .exact⟨h.lo,fun h=>by simp at h⟩
 .exact h
def Cp{l m:ab}{v:ai}(h:crossI l m=0):l.cutV v m=v/\(l.cutB v m=true↔0<m.value l.base):=by
 have hk:l.cutK m=0:=by rw[DL,h];rfl
 exact xb v hk
def aEN{l m:ab}{v:ai}(hl:l.Ne)(hz:iF v)(h:0<m.dir.cross l.dir):crossI l m≠0/\l.cutV v m=qn v (fI l (c9 l m))/\l.cutB v m=!(qn v (fI l (c9 l m))).empty:=by
 rw[QH] at h;have hc:crossI l m≠0:=fun e=>by rw[DL,e] at h;exact absurd h oma
 obtain⟨h1,h2⟩:=yQ v h;refine⟨hc,?_,?_⟩
 .rw[P1 hz,Bw hl hc,h1]
 .rw[P1 hz,Bw hl hc,<-h1]
  rw[<-DD] at h2
  cases hb:l.cutB v m<;>cases he:(l.cutV v m).empty<;>simp_all
def ZE{l m:ab}{v:ai}(hl:l.Ne)(hz:iF v)(h0:crossI l m≠0)(h: ¬0<m.dir.cross l.dir):l.cutV v m=qz v (fI l (c9 l m))/\l.cutB v m=!(qz v (fI l (c9 l m))).empty:=by
 rw[QH] at h;have hk:l.cutK m≠0:=fun e=>by
  rw[DL] at e;have:((crossI l m:Int):Rat)=0:=by grind
  exact h0 (eM.1 this)
 obtain⟨h1,h2⟩:=yc (l:=l) (m:=m) v omb;refine⟨?_,?_⟩
 .rw[Oi hz,Bw hl h0,h1]
 .rw[Oi hz,Bw hl h0,<-h1]
  rw[<-DD] at h2
  cases hb:l.cutB v m<;>cases he:(l.cutV v m).empty<;>simp_all
def relo(fl:Nat->Bool)(o:az):az:={o with lo:=fl o.b}
structure oO (P:Program) (f:FuncId) (vs:List Value) (M:List az) (G:Gh) (K:Value->List az->Gh->Prop):Prop where
 able:ta P f
 run: ∀w,bC ⟨w,G,M.map (·.b),[],[],none,fun _=>none⟩ (asB M) G w->
  Calls P f ⟨vs⟩ w fun e w'=> ∃v own' G',e= .returned v/\bC ⟨w,G,M.map (·.b),[],[],none,fun _=>none⟩ own' G' w'/\K v own' G'
def iB(M:List az)(b:Nat):Bool:=M.all fun m=>!Nat.beq m.b b||m.lo
def bC.calledO{C:aH}{M rest own':List az}{G G':Gh}{w w':World}(h:bC C (M++rest) G w)(k:bC ⟨w,G,M.map (·.b),[],[],none,fun _=>none⟩ own' G' w'):
  bC C (own'.map (relo (iB M))++rest) G' w':=by
 have hsz:w.heap.size<=w'.heap.size:=k.size;have hnd:=h.nd;have inM: ∀b,b∈M.map (·.b)-> ∀o∈rest,o.b≠b:=fun b hb o ho e=>by
  obtain⟨m,hm,rfl⟩:=aS.1 hb;exact(gK.1 hnd).2.2 m hm o ho e.symm
 have bnd: ∀o∈own',o.b∉M.map (·.b)->w.heap.size<=o.b:=fun o ho hb=>by
  obtain⟨_,_,h3,h4⟩:=k.hown o ho
  cases hlo:o.lo with
  |true=>exact h3 hlo
  |false=>exact absurd (h4 hlo) hb
 refine⟨k.os.trans h.os,k.tape.trans h.tape,k.output.trans h.output,dJ h.size hsz,?_,k.sub,h.gle.trans k.gle,?_,?_,?_,dJ h.dr k.dr,fun p hp=>⟨(h.ext p hp).1,by rw[k.keep _ (i5 (h.ext p hp).2) (h.extM hp)];exact(h.ext p hp).2⟩⟩
 .intro b hb hm
  have hs:=h.size;have hnM:b∉M.map (·.b):=fun hb'=>by
   obtain⟨m,hmM,rfl⟩:=aS.1 hb';obtain⟨_,_,h3,h4⟩:=h.hown m (bK _ hmM)
   cases hlo:m.lo with
   |true=>have:=h3 hlo;omega
   |false=>exact hm (h4 hlo)
  rw[k.keep b omI hnM];exact h.keep b hb hm
 .intro b hb;have:=h.size;rw[k.gold b omI];exact h.gold b hb
 .intro o ho
  have hs:=h.size;rcases bJ.1 ho with ho|ho
  .obtain⟨o',ho',rfl⟩:=aS.1 ho
   obtain⟨k1,k2,k3,k4⟩:=k.hown _ ho';refine⟨k1,k2,fun hl=>?_,fun hl=>?_⟩
   .show C.w0.heap.size<=o'.b
    by_cases hb:o'.b∈M.map (·.b)
    .obtain⟨m,hm,hmb⟩:=aS.1 hb
     have hl':iB M o'.b=true:=hl;have:=cN.1 hl' m hm;simp only[hmb,fU,fM,nN] at this;obtain⟨_,_,h3,_⟩:=h.hown m (bK _ hm);rw[<-hmb];exact h3 (by rcases this with h|h;(cases h);(exact h))
    .have:=bnd o' ho' hb;omega
   .show o'.b∈C.mb
    have hl':iB M o'.b=false:=hl;obtain⟨m,hm,hmb⟩:=List.all_eq_false.1 hl';simp only[fU,fM,not_or] at hmb;obtain⟨h1,h2⟩:=hmb;have e:m.b=o'.b:=by
     cases hq:Nat.beq m.b o'.b with
     |true=>exact aL hq
     |false=>exact absurd hq h1
    obtain⟨_,_,_,h4⟩:=h.hown m (bK _ hm);rw[<-e];exact h4 (by cases hq:m.lo with
     |true=>exact absurd hq h2
     |false=>rfl)
  .obtain⟨h1,h2,h3⟩:=h.hown o (bW _ ho)
   have hnM:o.b∉M.map (·.b):=fun hb=>inM _ hb o ho J;exact⟨by rw[k.keep _ (i5 h1) hnM];exact h1,by rw[k.gold _ (i5 h1)];exact h2,h3⟩
 .refine gK.2 ⟨?_,(gK.1 hnd).2.1,?_⟩
  .rw[nR];exact k.nd
  .intro x hx y hy
   obtain⟨o',ho',rfl⟩:=aS.1 hx;show o'.b≠y.b;by_cases hb:o'.b∈M.map (·.b)
   .exact fun e=>inM _ hb y hy e.symm
   .have h1:=bnd o' ho' hb
    have h2:=i5 (h.hown y (bW _ hy)).1;omega
def vE(C:aH)(K:Value->List az->Gh->Prop):Ending->World->Prop:=fun e w'=> ∃v own' G',e= .returned v/\bC C own' G' w'/\K v own' G'
def oO.introR{P:Program}{G:Gh}{f:FuncId}{fn:Func}{c:Code}{vs:List Value}{m:Nat}{M:List az}{K:Value->List az->Gh->Prop}(hf:P.funcs[f]? =some fn)(hb:fn.body=some c)(hn:(fn.name== "runtime.NumGoroutine")=false)(hm:fn.ntmps=m)(hlen:Nat.ble vs.length m=true)
  (h: ∀C:aH,C.G0=G->C.mb=M.map (·.b)->C.rd=none->(C.fx=fun _=>none)->St C m (pn 0 vs) (asB M) G (c.wp P (gu C P fn (vE C K)))):oO P f vs M G K:=by
 refine⟨⟨fn,hf,hn,by simp[hb]⟩,fun w hw=>?_⟩;have hlen':vs.length<=m:=by simpa using hlen
 have:=calls_of_wp (P:=P) (f:=f) (args:=⟨vs⟩) (w:=w) (R:=vE ⟨w,G,M.map (·.b),[],[],none,fun _=>none⟩ K) hf hb (wp_mono (h ⟨w,G,M.map (·.b),[],[],none,fun _=>none⟩ J J J J _ w
  ⟨hw,by simp;omega,fun k v hk=>by
   obtain⟨j,rfl,hj⟩:=xp vs 0 k v hk;have hj':=(bQ.1 hj).1;rw[kK omJ];simpa using hj,J⟩) fun _ _ _ k=>k J)
 exact this
section
variable {P:Program} {C:aH} {n:Nat} {fr:Fr} {own own':List az} {G:Gh} {Φ:Act->World->Prop}
variable {dst:Option Nat} {t t' ty':TypeId} {pos:String} {af:Array Edge} {gd:Option (Nat×Bool)} {x y:Operand}
def H6{fn:Func}{K:Value->List az->Gh->Prop}{vs:List Value}(hr:lD P fr own fn.results.toList vs)(own2 own3:List az)(hp:own.Perm own2)(hs:own3.Sublist own2)(hk:K (qo vs) own3 G):St C n fr own G (gu C P fn (vE C K) .ret):=
 fun a w rl hmk=>⟨rl.df.trans hmk,_,wx hr rl.fr rl.h,_,own3,G,J,(rl.h.perm hp).drop hs,hk⟩
def avs{f:FuncId}{fo:Operand}{args:Array Operand}{tys:Array TypeId}{vs c1 c2:List Value}{M rest:List az}{K:Value->List az->Gh->Prop}(ho:aF fr fo=some (.func (.func f) ⟨c1⟩ ⟨c2⟩))(hv:gH fr args.toList=some vs)
  (hp:own.Perm (M++rest))(hF:oO P f (c1++vs++c2) M G K)(hd:cA n dst=true)(h: ∀v own1 (G':Gh),[GE G G']->K v own1 G'->St C n (put fr dst v) (own1.map (relo (iB M))++rest) G' Φ):
  Ch P C n fr own G ⟨dst, .call ⟨.value fo,args,tys⟩,ty',pos,af,gd⟩ Φ:=by
 intro a w Q rl;have h2:=EI (P:=P) (dst:=dst) (ty':=ty') (pos:=pos) (af:=af) (gd:=gd) (tys:=tys) (w:=w) hF.able rl.fr ho hv;simp only[Oper.wp,h2,Oper.upon];have hh0:=rl.h.perm hp;refine(hF.run w hh0.lend).mono ?_;rintro e w' ⟨v,own1,G',rfl,hh,hK⟩;exact @h v own1 G' ⟨hh.gle⟩ hK _ _ ((rl.heap (hh0.calledO hh)).put _ hd)
def wn{f:FuncId}{fo:Operand}{args:Array Operand}{tys:Array TypeId}{vs:List Value}{M rest:List az}{K:Value->List az->Gh->Prop}(ho:aF fr fo=some (.func (.func f) #[] #[]))(hv:gH fr args.toList=some vs)
  (hp:own.Perm (M++rest))(hF:oO P f vs M G K)(hd:cA n dst=true)(h: ∀v own1 (G':Gh),[GE G G']->K v own1 G'->St C n (put fr dst v) (own1.map (relo (iB M))++rest) G' Φ):
  Ch P C n fr own G ⟨dst, .call ⟨.value fo,args,tys⟩,ty',pos,af,gd⟩ Φ:=
 avs (c1:=[]) (c2:=[]) ho hv hp (by simpa using hF) hd h
end
section
variable {P:Program} {C:aH} {n:Nat} {fr:Fr} {own own' own1:List az} {G:Gh} {Φ:Act->World->Prop}
variable {dst:Option Nat} {t t' ty':TypeId} {pos:String} {af:Array Edge} {gd:Option (Nat×Bool)} {x y:Operand} {e s by_:Nat}
def TG{v:Value}{b off k:Nat}{cs cs':List Value}{ty:TypeId}{lo:Bool}(hx:aF fr x=some (.pointer (some ⟨b,off,none⟩)))(hy:aF fr y=some v)[hs:nf P t k][ho:jf own b cs ty lo]
  (hc:dd cs off (aP v)=cs')(hu:i7 own b cs ty lo cs' own')(hk:(aP v).length=k)(hl:off+k<=cs.length)(hf:(aP v).all flat=true)(hd:cA n dst=true)(h:St C n (put fr dst undef) own' G Φ):
  Ch P C n fr own G ⟨dst, .store t x y,ty',pos,af,gd⟩ Φ:=DE hx hy (hc▸hu) hk hl hf hd h
def Wb{v:Value}{b off:Nat}{cs cs':List Value}{ty:TypeId}{lo:Bool}(hx:aF fr x=some (.pointer (some ⟨b,off,none⟩)))(hy:aF fr y=some v)[hs:nF P t][ho:jf own b cs ty lo]
  (hc:cs.set off v=cs')(hu:i7 own b cs ty lo cs' own')(hl:off<cs.length)(hf:flat v=true)(hd:cA n dst=true)(h:St C n (put fr dst undef) own' G Φ):
  Ch P C n fr own G ⟨dst, .store t x y,ty',pos,af,gd⟩ Φ:=Aq hx hy (hc▸hu) hl hf hd h
def aIe[hT:cO P t e s by_]{ad:Option Addr}{len cap:Nat}(hx:aF fr x=some (.slice ad len cap)):
  Yd P C fr own G ⟨dst, .call ⟨.builtin .cap, #[x], #[t]⟩,ty',pos,af,gd⟩ (.int .i64 cap):=by
 intro a w hf hh;simp only[execOp,resolve,iW,cJ,kR,bu hf hx];have h1:(Builtin.cap_ #[t] ty' #[.slice ad len cap]).run P w= .ok (.int .i64 cap) w:=by
  simp only[Builtin.cap_];show(underlying t>>=_).run P w=_;rw[bc (hT.u w)];rfl
 exact dC h1
def Yx{w:World}[hT:cO P t e s by_]{b off l c l2 c2 m:Nat}{ad2:Option Addr}{cs ys:List Value}{ty:TypeId}(hm:Nat.min l2 l=m)
  (hb:w.heap[b]? =some (.cells ⟨cs⟩ ty (0,0)))(hsy:(Builtin.firstCells s m (.slice ad2 l2 c2)).run P w= .ok ⟨ys⟩ w)(hf: ∀v∈ys,flat v=true)(hl:off+ys.length<=cs.length):
  (Builtin.copy_ #[t,t'] ty' #[.slice (some ⟨b,off,none⟩) l c, .slice ad2 l2 c2]).run P w=
   .ok (.int .i64 m) (io w b (.cells ⟨dd cs off ys⟩ ty (0,0))):=by
 obtain⟨i,hi,his,hib⟩:=hT.info;subst his;have hst:=yf (P:=P) ys w off 0 cs hf hb we;rw[gW] at hst;subst hm;simp[Builtin.copy_,run_underlying hT.un,sizeOf,typeInfo,hi,Builtin.lenOf,hsy,hst];rfl
def Q4[hT:cO P t e s by_]{b off l c l2 c2 m:Nat}{ad2:Option Addr}{cs ys:List Value}{ty:TypeId}{lo:Bool}(hx:aF fr x=some (.slice (some ⟨b,off,none⟩) l c))(hy:aF fr y=some (.slice ad2 l2 c2))
  (hm:Nat.min l2 l=m)(hsy:ow P C own G s m (.slice ad2 l2 c2) ys)(hf: ∀v∈ys,flat v=true)(hl:off+ys.length<=cs.length)(hu:i7 own b cs ty lo (dd cs off ys) own')(hd:cA n dst=true)
  (h:St C n (put fr dst (.int .i64 m)) own' G Φ):Ch P C n fr own G ⟨dst, .call ⟨.builtin .copy, #[x,y], #[t,t']⟩,ty',pos,af,gd⟩ Φ:=by
 intro a w Q rl;have hb:=(rl.h.hown _ (hu.spec rl.h.nd).1).1;refine ly (v:= .int .i64 m) (w':=io w b (.cells ⟨dd cs off ys⟩ ty (0,0))) ?_ (h _ _ ((rl.heap (rl.h.store hu)).put _ hd));simp only[execOp,resolve,iW,cJ,kR,bu rl.fr hx,bu rl.fr hy];exact dC (Yx hm hb (hsy w rl.h) hf hl)
def OW[hT:cO P t e s by_][hN:mA P t']{b len cap m cap2:Nat}{ad2:Option Addr}{cs ys:List Value}{lo:Bool}
  (hx:aF fr x=some (.slice (some ⟨b,0,none⟩) len cap))(hy:aF fr y=some (.slice ad2 m cap2))(hu:i7 own b cs e lo (dd cs (len*s) ys) own')(hcs:cs.length=cap*s)
  (hsy:ow P C own G s m (.slice ad2 m cap2) ys)(hys:ys.length=m*s)(hf: ∀v∈ys,flat v=true)(hneed:len+m<=cap)(hd:cA n dst=true)
  (h:St C n (put fr dst (.slice (some ⟨b,0,none⟩) (len+m) cap)) own' G Φ):
  Ch P C n fr own G ⟨dst, .call ⟨.builtin .append, #[x,y], #[t,t']⟩,ty',pos,af,gd⟩ Φ:=by
 intro a w Q rl;have hb:=(rl.h.hown _ (hu.spec rl.h.nd).1).1;refine ly (v:= .slice (some ⟨b,0,none⟩) (len+m) cap) (w':=io w b (.cells ⟨dd cs (len*s) ys⟩ e (0,0))) ?_ (h _ _ ((rl.heap (rl.h.store hu)).put _ hd));simp only[execOp,resolve,iW,cJ,kR,bu rl.fr hx,bu rl.fr hy];exact dC (GI hb hcs (hsy w rl.h) hys hf hneed)
def amB[hT:cO P t e s by_][hN:mA P t']{z:Value}[hz:jC P e z]{b len cap m cap2:Nat}{ad2:Option Addr}{xs ys rest:List Value}{lo:Bool}
  (hx:aF fr x=some (.slice (some ⟨b,0,none⟩) len cap))(hy:aF fr y=some (.slice ad2 m cap2))(hr:kI own ⟨b,xs++rest,e,lo⟩ own1)(hxs:xs.length=len*s)(hcap:xs.length+rest.length=cap*s)(hlc:len<=cap)
  (hsy:ow P C own G s m (.slice ad2 m cap2) ys)(hys:ys.length=m*s)(hf: ∀v∈ys,flat v=true)
  (hby:0<by_)(hb:(len+m)*by_<=140737488355328)(hzs:(aP z).length=s)(hd:cA n dst=true)
  (h: ∀b lo' cap' rest',len+m<=cap'->rest'.length+(len+m)*s=cap'*s->St C n (put fr dst (.slice (some ⟨b,0,none⟩) (len+m) cap')) (⟨b,xs++ys++rest',e,lo'⟩::own1) G Φ):
  Ch P C n fr own G ⟨dst, .call ⟨.builtin .append, #[x,y], #[t,t']⟩,ty',pos,af,gd⟩ Φ:=by
 intro a w Q rl;have hp:=rl.h.perm hr.perm;have hblk:=(hp.hown _ aQ).1;simp only[] at hblk;by_cases hneed:len+m<=cap
 .have hcs:(xs++rest).length=cap*s:=by simp;omega
  have hrun:=GI (P:=P) (t:=t) (t':=t') (ty':=ty') (w:=w) (len:=len) hblk hcs (hsy w rl.h) hys hf hneed;have hle:len*s+m*s<=cap*s:=by rw[<-dW];exact bR _ hneed
  have hov:dd (xs++rest) (len*s) ys=xs++ys++rest.drop (m*s):=by
   rw[qg _ _ _ (by rw[hys];omega),<-hxs];simp[hys,nZ]
  refine ly (v:= .slice (some ⟨b,0,none⟩) (len+m) cap) (w':=io w b (.cells ⟨dd (xs++rest) (len*s) ys⟩ e (0,0))) ?_ ?_
  .simp only[execOp,resolve,iW,cJ,kR,bu rl.fr hx,bu rl.fr hy]
   exact dC hrun
  .rw[hov]
   refine h b lo cap (rest.drop (m*s)) hneed ?_ _ _ ((rl.heap (hp.store (.hd ..))).put _ hd);rw[gN,dW];omega
 .have hx':ow P C own G s len (.slice (some ⟨b,0,none⟩) len cap) xs:=fun w' hw'=>by
   have hb':=(((hw'.perm hr.perm).hown _ aQ).1);refine CD hb' ?_;rw[m9 _ _ _ omo,<-hxs];simp
  have hcap':len+m<=grownCap w (len+m) cap e:=by unfold grownCap;simp only[Question.cut];omega
  have hrun:=JD (P:=P) (t:=t) (t':=t') (ty':=ty') (w:=w) (w':=w) (hx' _ rl.h.drew) (hsy _ rl.h.drew) we hby hb;refine ly (v:= .slice (some ⟨w.heap.size,0,none⟩) (len+m) (grownCap w (len+m) cap e)) (w':=w.drew.alloc (.cells ⟨xs++ys++fe z (grownCap w (len+m) cap e-(len+m))⟩ e)) ?_ ?_
  .simp only[execOp,resolve,iW,cJ,kR,bu rl.fr hx,bu rl.fr hy]
   exact dC hrun
  .refine h w.heap.size _ _ _ hcap' ?_ _ _ ((rl.heap (((hp.drew).drop (List.sublist_cons_self _ _)).alloc _ _)).put _ hd)
   rw[qy,hzs,<-dW];congr 1;omega
def V0{f:FuncId}{fn:Func}{tS tR:TypeId}(hf:P.funcs[f]? =some fn)(hname:(fn.name== "runtime.NumGoroutine")=false)(hb:fn.body.isNone=true)(hn:Extern.findNext fn=none)
  (he:Extern.find fn=some (Extern.SlicesOverlaps.overlaps #[tS,tS] #[tR]))[hT:cO P tS e s by_]{args:Array Operand}{tys:Array TypeId}{fo:Operand}
  {b1 b2 o1 o2 l1 l2 c1 c2:Nat}{cs1 cs2:List Value}{t1 t2:TypeId}{lo1 lo2:Bool}(ho:aF fr fo=some (.func (.func f) #[] #[]))
  (hv:gH fr args.toList=some [.slice (some ⟨b1,o1,none⟩) l1 c1, .slice (some ⟨b2,o2,none⟩) l2 c2])[h1:jf own b1 cs1 t1 lo1][h2:jf own b2 cs2 t2 lo2](hne:b1≠b2)(hc2:cs2≠[]):
  Yd P C fr own G ⟨dst, .call ⟨.value fo,args,tys⟩,ty',pos,af,gd⟩ (.bool false):=by
 intro a w hfr hh;have e1:=(hh.hown _ h1.mem).1;have e2:=(hh.hown _ h2.mem).1;have ev:args.map a.eval=⟨[.slice (some ⟨b1,o1,none⟩) l1 c1, .slice (some ⟨b2,o2,none⟩) l2 c2]⟩:=by apply Array.ext';simpa using Eu hfr hv
 simp only[] at e1 e2;have hrun:=Lib.run_overlaps_apart (P:=P) w tS tR e hT.un s hT.siz ⟨b1,o1,none⟩ ⟨b2,o2,none⟩ l1 c1 l2 c2 hne t1 t2 cs1.length cs2.length
  (by simp[World.shape?,e1]) (by simp[World.shape?,e2]) (by simpa using hc2) (by simp[World.frozen?,e1]) (by simp[World.frozen?,e1])
 simp only[execOp,resolve,bu hfr ho,ev,Deferred.ofValue];show(invoke (.fn (.func f) #[]) _).run P w=_;simp only[invoke];have h3:=run_callFunc_extern (P:=P) hf hname hb hn he;rw[h3];simp[hrun,Result.andThen]
end
instance nj.cons2 (l m:List az) (o:az) [h:nj l m]:nj (o::l) (o::m):=⟨h.s.cons_cons o⟩
def Us{P:Program}{C:aH}{n:Nat}{fr:Fr}{own own0:List az}{G:Gh}{ops:Array Oper}{Q:Exit->Act->World->Prop}{b:Nat}{cs:List Value}{ty:TypeId}{lo:Bool}(fin:Nat->Bool)(π:List (Nat×Bool)){id:Nat}(hm:P.follows .mixedOrders=true)(_hr:kI own ⟨b,cs,ty,lo⟩ own0)(ho:(uY ops fin π (Array.replicate ops.size false)&&Nat.ble π.length ops.size)=true)
  (h:St C n fr own G (jr P ops (iv Q) (HS C own0 G) fin π)):St C n fr own G ((Code.region id ops true).wp P Q):=by
 simp only[bT] at ho;intro a w rl;exact wp_mono (wp_region_any hm (DH _ _ _ _ (Br (fun _ _ _ _ _ h=>h) π _ a _ ho.1 (h a _ (rl.heap rl.h.drew)) _ (by simpa using ho.2)))) iv.imp
def aG(vs:List Value):List Value:=(vs.map aP).flatten
def f7{s:Nat}: ∀(vs:List Value),(∀v∈vs,(aP v).length=s)->(aG vs).length=vs.length*s
 |[],_=>by simp[aG]
 |v::vs,h=>by
  have h1:=f7 vs (fun u hu=>h u (aX _ hu));have h2:=h v aQ;unfold aG at*;simp only[cJ,mK,aR,bZ,h1,h2,iN];omega
def rB(us vs:List Value):aG (us++vs)=aG us++aG vs:=by simp[aG]
def Jh(v:Value):aG [v]=aP v:=by simp[aG]
def EJ{s:Nat}: ∀(vs:List Value) (i:Nat),(∀v∈vs,(aP v).length=s)->i<=vs.length->(aG vs).take (i*s)=aG (vs.take i)
 |vs,0,_,_=>by simp[aG]
 |[],i+1,_,h=>by simp at h
 |v::vs,i+1,h,hi=>by
  have h1:=EJ vs i (fun u hu=>h u (aX _ hu)) omR;have h2:=h v aQ;unfold aG at*;simp only[cJ,mK,mT];rw[List.take_append,h2,cZ (by rw[h2,iN];omega),iN,lK,h1]
def Cy{s:Nat}: ∀(vs:List Value) (i:Nat),(∀v∈vs,(aP v).length=s)->i<=vs.length->(aG vs).drop (i*s)=aG (vs.drop i)
 |vs,0,_,_=>by simp
 |[],i+1,_,h=>by simp at h
 |v::vs,i+1,h,hi=>by
  have h1:=Cy vs i (fun u hu=>h u (aX _ hu)) omR;have h2:=h v aQ;unfold aG at*;simp only[cJ,mK,sN];rw[nZ,h2,kU (by rw[h2,iN];omega),iN,lK,h1,lQ]
theorem okP{p:Prop}(h:p:=by simp only[aR];omega):p:=h
def HX{s:Nat}{vs rest:List Value}(h: ∀v∈vs,(aP v).length=s){i:Nat}(hi:i<vs.length):dh (aG vs++rest) (i*s) s=some (aP vs[i]):=by
 have hl:=f7 vs h;have hle:i*s+s<=vs.length*s:=by rw[<-iN];exact bR _ hi
 rw[m9 _ _ _ okP];congr 1;rw[jT we,Cy vs i h we,bU hi];have h2:=h vs[i] (bN hi);rw[show(vs[i]::vs.drop (i+1))=[vs[i]]++vs.drop (i+1) from J,rB,Jh,gX,fK we,cZ we]
def jl.of_flat{G:Gh}{b c s:Nat}{vs rest:List Value}(h: ∀v∈vs,(aP v).length=s)(hg:G b=some (aG vs++rest))(hc:vs.length<=c):jl G s ⟨some ⟨b,0,none⟩,vs.length,c⟩ vs:=
 ⟨J,hc, .inr ⟨b,0,_,J,hg,fun i hi=>by rw[fX];exact HX h hi⟩⟩
section
variable {P:Program} {C:aH} {n:Nat} {fr:Fr} {own own':List az} {G:Gh} {Φ:Act->World->Prop}
variable {dst:Option Nat} {ty':TypeId} {pos:String} {af:Array Edge} {gd:Option (Nat×Bool)} {x y:Operand} {tys:Array TypeId}
def drS{ops:Array Oper}{Q:Exit->Act->World->Prop}(own0:List az)(fin:Nat->Bool)(π:List (Nat×Bool)){id:Nat}(hm:P.follows .mixedOrders=true)(ho:(uY ops fin π (Array.replicate ops.size false)&&Nat.ble π.length ops.size)=true)
  (h:St C n fr own G (jr P ops (iv Q) (HS C own0 G) fin π)):St C n fr own G ((Code.region id ops true).wp P Q):=by
 simp only[bT] at ho;intro a w rl;exact wp_mono (wp_region_any hm (DH _ _ _ _ (Br (fun _ _ _ _ _ h=>h) π _ a _ ho.1 (h a _ (rl.heap rl.h.drew)) _ (by simpa using ho.2)))) iv.imp
end
section
variable {P:Program} {ops:Array Oper} {Q:Exit->Act->World->Prop} {S:World->Prop} {fin:Nat->Bool} {π₂:List (Nat×Bool)}
end
structure FD where
 k:Nat
 d:Nat
 t:TypeId
 z:Value
abbrev Fs:=Nat->Option Nat
def JP:List FD->Fs->Fr
 |[],_=>[]
 |f::r,fs=>fF f.d (fs f.k)++JP r fs
def F8:List FD->Fs->List az
 |[],_=>[]
 |f::r,fs=>fO f.t f.z (fs f.k)++F8 r fs
def MD(fd:List FD)(fs:Fs):List Nat:=(fd.filter fun f=>(fs f.k).isNone).map (·.k)
section
variable {P:Program} {C:aH} {n:Nat} {fr:Fr} {own own0:List az} {G G0:Gh} {ops:Array Oper} {Q:Exit->Act->World->Prop} {fin:Nat->Bool} {π π₂:List (Nat×Bool)} {fd:List FD}
end
def kG(s:Nat)(ty:TypeId)(x:SV)(vs:List Value)(B:List az):Prop:=
 (vs=[]/\x=⟨none,0,0⟩/\B=[])\/
 ∃b rest lo,x=⟨some ⟨b,0,none⟩,vs.length,x.c⟩/\B=[⟨b,aG vs++rest,ty,lo⟩]/\(aG vs).length=vs.length*s/\(aG vs).length+rest.length=x.c*s/\vs.length<=x.c
def kG.nil(s:Nat)(ty:TypeId):kG s ty ⟨none,0,0⟩ [] []:= .inl ⟨J,J,J⟩
def kG.relo{s:Nat}{ty:TypeId}{x:SV}{vs:List Value}{B:List az}(h:kG s ty x vs B)(fl:Nat->Bool):kG s ty x vs (B.map (Go.Sx.relo fl)):=by
 rcases h with⟨h1,h2,h3⟩|⟨b,rest,lo,h1,h2,h3,h4,h5⟩
 .exact .inl ⟨h1,h2,by rw[h3];rfl⟩
 .exact .inr ⟨b,rest,fl b,h1,by rw[h2];rfl,h3,h4,h5⟩
def kG.asB{s:Nat}{ty:TypeId}{x:SV}{vs:List Value}{B:List az}(h:kG s ty x vs B):kG s ty x vs (asB B):=by
 rcases h with⟨h1,h2,h3⟩|⟨b,rest,lo,h1,h2,h3,h4,h5⟩
 .exact .inl ⟨h1,h2,by rw[h3];rfl⟩
 .exact .inr ⟨b,rest,false,h1,by rw[h2];rfl,h3,h4,h5⟩
def kG.len{s:Nat}{ty:TypeId}{x:SV}{vs:List Value}{B:List az}(h:kG s ty x vs B):x.n=vs.length:=by
 rcases h with⟨h1,h2,h3⟩|⟨b,rest,lo,h1,h2,h3,h4,h5⟩
 .rw[h2,h1];rfl
 .rw[h1]
def C0{M:List az}(b:Nat)(h: ∀m∈M,m.lo=true):iB M b=true:=by
 refine cN.2 fun m hm=>?_;simp[h m hm]
section
variable {P:Program} {C:aH} {n:Nat} {fr:Fr} {own own':List az} {G:Gh} {Φ:Act->World->Prop}
variable {dst:Option Nat} {t t' ty':TypeId} {pos:String} {af:Array Edge} {gd:Option (Nat×Bool)} {x y:Operand} {e s by_:Nat}
end
instance nj.nil (l:List az):nj [] l:=⟨lN l⟩
inductive DV where
 |v (x:Value)
 |ag (l:List DV)
 |tp (l:List DV)
 |pt (l:List DV)
 |op (b:Bool) (l:List DV)
 |sl (l:List DV)
mutual
def Is(G:Gh):DV->Value->Prop
 | .v x,y=>y=x
 | .ag l,y=> ∃m,y= .agg ⟨m⟩/\IsLs G l m
 | .tp l,y=> ∃m,y= .tuple ⟨m⟩/\IsLs G l m
 | .pt l,y=> ∃b m,y= .pointer (some ⟨b,0,none⟩)/\G b=some m/\IsLs G l m
 | .op b l,y=>(b=false/\y= .pointer none)\/(b=true/\ ∃b m,y= .pointer (some ⟨b,0,none⟩)/\G b=some m/\IsLs G l m)
 | .sl l,y=> ∃(s:Nat) (x:SV) (es:List Value),y= .slice x.a x.n x.c/\jl G s x es/\IsLs G l es
def IsLs(G:Gh):List DV->List Value->Prop
 |[],m=>m=[]
 |d::t,m=> ∃y n,m=y::n/\Is G d y/\IsLs G t n
end
mutual
def Is.up'{A G:Gh}(h:cc A G): ∀(d:DV) (y:Value),Is A d y->Is G d y
 | .v x,y,k=>by simp only[Is] at k⊢;exact k
 | .ag l,y,k=>by simp only[Is] at k⊢;obtain⟨m,e,k⟩:=k;exact⟨m,e,IsLs.up' h l m k⟩
 | .tp l,y,k=>by simp only[Is] at k⊢;obtain⟨m,e,k⟩:=k;exact⟨m,e,IsLs.up' h l m k⟩
 | .pt l,y,k=>by simp only[Is] at k⊢;obtain⟨b,m,e,hb,k⟩:=k;exact⟨b,m,e,h _ _ hb,IsLs.up' h l m k⟩
 | .op _ l,y,k=>by simp only[Is] at k⊢;exact k.imp id fun⟨e1,b,m,e,hb,k⟩=>⟨e1,b,m,e,h _ _ hb,IsLs.up' h l m k⟩
 | .sl l,y,k=>by simp only[Is] at k⊢;obtain⟨s,x,es,e,hs,k⟩:=k;exact⟨s,x,es,e,hs.up' h,IsLs.up' h l es k⟩
def IsLs.up'{A G:Gh}(h:cc A G): ∀(d:List DV) (y:List Value),IsLs A d y->IsLs G d y
 |[],y,k=>by simp only[IsLs] at k⊢;exact k
 |d::t,y,k=>by simp only[IsLs] at k⊢;obtain⟨u,n,e,h1,h2⟩:=k;exact⟨u,n,e,Is.up' h d u h1,IsLs.up' h t n h2⟩
end
section
variable {G:Gh}
def Is.up{A:Gh}{d:DV}{y:Value}(k:Is A d y)(h:cc A G):Is G d y:=Is.up' h d y k
def IsLs.up{A:Gh}{d:List DV}{y:List Value}(k:IsLs A d y)(h:cc A G):IsLs G d y:=IsLs.up' h d y k
def bE{x y:Value}:Is G (.v x) y↔y=x:=by simp only[Is]
def fC{l:List DV}{y:Value}:Is G (.ag l) y↔ ∃m,y= .agg ⟨m⟩/\IsLs G l m:=by simp only[Is]
def mm{l:List DV}{y:Value}:Is G (.tp l) y↔ ∃m,y= .tuple ⟨m⟩/\IsLs G l m:=by simp only[Is]
def tk{l:List DV}{y:Value}:Is G (.pt l) y↔ ∃b m,y= .pointer (some ⟨b,0,none⟩)/\G b=some m/\IsLs G l m:=by simp only[Is]
def xh{b:Bool}{l:List DV}{y:Value}:Is G (.op b l) y↔(b=false/\y= .pointer none)\/(b=true/\Is G (.pt l) y):=by simp only[Is]
def je{l:List DV}{y:Value}:Is G (.sl l) y↔ ∃(s:Nat) (x:SV) (es:List Value),y= .slice x.a x.n x.c/\jl G s x es/\IsLs G l es:=by simp only[Is]
def gw{m:List Value}:IsLs G [] m↔m=[]:=by simp only[IsLs]
def bO{d:DV}{t:List DV}{m:List Value}:IsLs G (d::t) m↔ ∃y n,m=y::n/\Is G d y/\IsLs G t n:=by simp only[IsLs]
def IsLs.nil:IsLs G [] []:=gw.2 J
def IsLs.cons{d:DV}{t:List DV}{y:Value}{n:List Value}(h:Is G d y)(k:IsLs G t n):IsLs G (d::t) (y::n):=bO.2 ⟨y,n,J,h,k⟩
def IsLs.uncons{d:DV}{t:List DV}{y:Value}{n:List Value}(h:IsLs G (d::t) (y::n)):Is G d y/\IsLs G t n:=by
 obtain⟨u,m,e,h1,h2⟩:=bO.1 h
 cases e
 exact⟨h1,h2⟩
def IsLs.len: ∀{d:List DV} {m:List Value},IsLs G d m->m.length=d.length
 |[],m,h=>by rw[gw.1 h];rfl
 |d::t,m,h=>by
  obtain⟨y,n,rfl,_,h2⟩:=bO.1 h;simp[h2.len]
def IsLs.get: ∀{l:List DV} {m:List Value} {i:Nat} {d:DV},IsLs G l m->l[i]? =some d-> ∃y,m[i]? =some y/\Is G d y
 |[],m,i,d,h,e=>by simp at e
 |x::t,m,0,d,h,e=>by
  obtain⟨y,n,rfl,h1,h2⟩:=bO.1 h;simp at e;subst e;exact⟨y,J,h1⟩
 |x::t,m,i+1,d,h,e=>by
  obtain⟨y,n,rfl,h1,h2⟩:=bO.1 h;simp at e;simpa using h2.get e
def IsLs.app: ∀{a b:List DV} {m n:List Value},IsLs G a m->IsLs G b n->IsLs G (a++b) (m++n)
 |[],b,m,n,h,k=>by rw[gw.1 h];exact k
 |d::t,b,m,n,h,k=>by
  obtain⟨y,m',rfl,h1,h2⟩:=bO.1 h;exact .cons h1 (h2.app k)
def IsLs.unapp: ∀{a b:List DV} {m:List Value},IsLs G (a++b) m-> ∃x y,m=x++y/\IsLs G a x/\IsLs G b y
 |[],b,m,h=>⟨[],m,J, .nil,h⟩
 |d::t,b,m,h=>by
  obtain⟨y,m',rfl,h1,h2⟩:=bO.1 h;obtain⟨u,v,rfl,h3,h4⟩:=h2.unapp;exact⟨y::u,v,J, .cons h1 h3,h4⟩
def IsLs.drop: ∀{a:List DV} {m:List Value} (k:Nat),IsLs G a m->IsLs G (a.drop k) (m.drop k)
 |_,_,0,h=>h
 |[],m,k+1,h=>by rw[gw.1 h];exact .nil
 |d::t,m,k+1,h=>by
  obtain⟨y,m',rfl,h1,h2⟩:=bO.1 h;exact h2.drop k
def IsLs.take: ∀{a:List DV} {m:List Value} (k:Nat),IsLs G a m->IsLs G (a.take k) (m.take k)
 |_,_,0,h=> .nil
 |[],m,k+1,h=>by rw[gw.1 h];exact .nil
 |d::t,m,k+1,h=>by
  obtain⟨y,m',rfl,h1,h2⟩:=bO.1 h;exact .cons h1 (h2.take k)
def IsLs.set: ∀{a:List DV} {m:List Value} (k:Nat) {d:DV} {y:Value},IsLs G a m->Is G d y->IsLs G (a.set k d) (m.set k y)
 |[],m,k,d,y,h,_=>by rw[gw.1 h];exact .nil
 |x::t,m,0,d,y,h,k=>by
  obtain⟨u,m',rfl,h1,h2⟩:=bO.1 h;exact .cons k h2
 |x::t,m,j+1,d,y,h,k=>by
  obtain⟨u,m',rfl,h1,h2⟩:=bO.1 h;exact .cons h1 (h2.set j k)
end
def DV.flat:DV->Bool
 | .v x=>Go.Sx.flat x
 | .ag _=>false
 | .tp _=>false
 | .pt _=>true
 | .op .. =>true
 | .sl .. =>true
def DV.okc:DV->Bool
 | .ag l=>l.all DV.flat
 |d=>d.flat
def DV.cells:DV->List DV
 | .ag l=>l
 |d=>[d]
section
variable {G:Gh}
def Is.flat{d:DV}{y:Value}(h:Is G d y)(k:d.flat=true):Go.Sx.flat y=true:=by
 cases d with
 |v x=>rw[bE.1 h];exact k
 |ag l=>cases k
 |tp l=>cases k
 |pt l=>obtain⟨b,m,rfl,_⟩:=tk.1 h;rfl
 |op b l=>
  rcases xh.1 h with⟨_,rfl⟩|⟨_,h⟩
  .rfl
  .obtain⟨b,m,rfl,_⟩:=tk.1 h;rfl
 |sl l=>obtain⟨s,x,es,rfl,_⟩:=je.1 h;rfl
def BH{y:Value}(h:Go.Sx.flat y=true):aP y=[y]:=by cases y<;>first|rfl|(simp[Go.Sx.flat] at h)
def IsLs.flat: ∀{l:List DV} {m:List Value},IsLs G l m->l.all DV.flat=true-> ∀v∈m,Go.Sx.flat v=true
 |[],m,h,_,v,hv=>by rw[gw.1 h] at hv;cases hv
 |d::t,m,h,k,v,hv=>by
  obtain⟨y,n,rfl,h1,h2⟩:=bO.1 h;simp only[List.all_cons,bT] at k;rcases aW.1 hv with rfl|hv
  .exact h1.flat k.1
  .exact h2.flat k.2 v hv
def Is.cells{d:DV}{y:Value}(h:Is G d y)(k:d.okc=true):IsLs G d.cells (aP y)/\ ∀v∈aP y,Go.Sx.flat v=true:=by
 cases d with
 |ag l=>obtain⟨m,rfl,hm⟩:=fC.1 h;exact⟨hm,hm.flat k⟩
 |_=>
  have:=h.flat k;rw[BH this];exact⟨.cons h .nil,fun v hv=>by rw[aV.1 hv];exact this⟩
end
def takeD:List DV->Nat->Nat->Option (List DV)
 |_,0,0=>some []
 |[],0,_+1=>none
 |v::t,0,k+1=>match takeD t 0 k with|some l=>some (v::l)|none=>none
 |[],_+1,_=>none
 |_::t,off+1,k=>takeD t off k
def CC:List DV->Nat->List DV->List DV
 |cs,_,[]=>cs
 |cs,off,v::vs=>CC (cs.set off v) (off+1) vs
section
variable {G:Gh}
def IsLs.takeD: ∀{ds:List DV} {m:List Value} {off k:Nat} {l:List DV},IsLs G ds m->takeD ds off k=some l-> ∃n,dh m off k=some n/\IsLs G l n
 |[],m,0,0,l,h,e=>by rw[gw.1 h];simp only[Sx.takeD] at e;cases e;exact⟨[],J, .nil⟩
 |d::t,m,0,0,l,h,e=>by
  obtain⟨y,m',rfl,h1,h2⟩:=bO.1 h;simp only[Sx.takeD] at e;cases e;exact⟨[],J, .nil⟩
 |[],m,0,k+1,l,h,e=>by simp[Sx.takeD] at e
 |d::t,m,0,k+1,l,h,e=>by
  obtain⟨y,m',rfl,h1,h2⟩:=bO.1 h;simp only[Sx.takeD] at e;split at e
  .rename_i l' hl'
   cases e
   obtain⟨n,hn,hl⟩:=h2.takeD hl';exact⟨y::n,by simp only[dh,hn], .cons h1 hl⟩
  .cases e
 |[],m,off+1,k,l,h,e=>by simp[Sx.takeD] at e
 |d::t,m,off+1,k,l,h,e=>by
  obtain⟨y,m',rfl,h1,h2⟩:=bO.1 h;exact h2.takeD (off:=off) (k:=k) e
def IsLs.ov: ∀{vs ds:List DV} {n m:List Value} {off:Nat},IsLs G ds m->IsLs G vs n->IsLs G (CC ds off vs) (dd m off n)
 |[],ds,n,m,off,h,k=>by rw[gw.1 k];exact h
 |v::vs,ds,n,m,off,h,k=>by
  obtain⟨y,n',rfl,h1,h2⟩:=bO.1 k;exact(h.set off h1).ov h2
end
inductive FV where
 |d (x:DV)
 /-- a pointer to cells that are written no more -/
 |ep (l:List DV)
 /-- a pointer to a cell of element i of a row of the call's own -/
 |be (x:SV) (s i j:Nat)
 /-- a slice without room behind it -/
 |ct (l:List DV)
abbrev nI:=List (Nat×FV)
def Xb(G:Gh):FV->Value->Prop
 | .d x,y=>Is G x y
 | .ep l,y=> ∃b off cs m,y= .pointer (some ⟨b,off,none⟩)/\G b=some cs/\dh cs off l.length=some m/\IsLs G l m
 | .be x s i j,y=> ∃b,x.a=some ⟨b,0,none⟩/\y= .pointer (some ⟨b,i*s+j,none⟩)
 | .ct l,y=>(∃a n,y= .slice a n n)/\Is G (.sl l) y
def Du(G:Gh):nI->Fr->Prop
 |[],m=>m=[]
 |(k,f)::t,m=> ∃y n,m=(k,y)::n/\Xb G f y/\Du G t n
structure lz where
 b:Nat
 cs:List DV
 ty:TypeId
 lo:Bool
structure jF where
 x:SV
 s:Nat
 ty:TypeId
 ds:List DV
 lo:Bool
def T2(G:Gh):List lz->List az->Prop
 |[],m=>m=[]
 |o::t,m=> ∃cs n,m=⟨o.b,cs,o.ty,o.lo⟩::n/\IsLs G o.cs cs/\T2 G t n
def eB(G:Gh)(β:jF)(B:List az):Prop:=
 ∃vs,kG β.s β.ty β.x vs B/\IsLs G β.ds vs/\(∀v∈vs,(aP v).length=β.s)/\(β.lo=true-> ∀o∈B,o.lo=true)
def Mo(G:Gh):List jF->List az->Prop
 |[],m=>m=[]
 |β::t,m=> ∃B n,m=B++n/\eB G β B/\Mo G t n
def OB(G:Gh)(own:List lz)(bs:List jF)(ov:List az):Prop:= ∃a b,ov=a++b/\T2 G own a/\Mo G bs b
structure Sr (GB G:Gh) (fr:nI) (own:List lz) (bs:List jF) (frv:Fr) (ov:List az):Prop where
 gb:cc GB G
 fr:Du G fr frv
 ob:OB G own bs ov
structure wq where
 fr:Fr
 own:List az
structure SD (GB:Gh) (C:aH) (n:Nat) (E:wq) (fr:nI) (own:List lz) (bs:List jF) (Φ:Act->World->Prop):Prop where
 run: ∀G frv ov,Sr GB G fr own bs frv ov->St C n (frv++E.fr) (ov++E.own) G Φ
instance {GB:Gh} {C:aH} {n:Nat} {E:wq} {fr:nI} {own:List lz} {bs:List jF} {Φ:Act->World->Prop}:CoeFun (SD GB C n E fr own bs Φ) (fun _=> ∀G frv ov,Sr GB G fr own bs frv ov->St C n (frv++E.fr) (ov++E.own) G Φ):=⟨SD.run⟩
section
variable {P:Program} {GB:Gh} {C:aH} {n:Nat} {E:wq} {fr fr':nI} {own own':List lz} {bs bs':List jF} {ops:Array Oper} {Q:Exit->Act->World->Prop} {r:List Oper} {Φ:Act->World->Prop}
def PF(GB:Gh)(P:Program)(f:FuncId)(ds:List DV)(r:DV):Prop:=
 ∀G vs,cc GB G->IsLs G ds vs->Fn P f vs G (fun v G'=>Is G' r v)
def PM(GB:Gh)(P:Program)(f:FuncId)(ds:List DV)(b:Nat)(ty:TypeId)(cs:List DV)(r:DV)(cs':List DV):Prop:=
 ∀G vs m lo,cc GB G->IsLs G ds vs->IsLs G cs m->nv P f vs [⟨b,m,ty,lo⟩] G (fun v css G'=>Is G' r v/\ ∃m',css=[m']/\IsLs G' cs' m')
def jH:List DV->DV
 |[d]=>d
 |l=> .tp l
def Fq{G:Gh}{ds:List DV}{vs:List Value}(h:IsLs G ds vs):Is G (jH ds) (qo vs):=by
 match ds,h with
 |[],h=>rw[gw.1 h];exact mm.2 ⟨[],J, .nil⟩
 |[d],h=>
  obtain⟨y,m,rfl,h1,h2⟩:=bO.1 h;rw[gw.1 h2];exact h1
 |a::b::t,h=>
  obtain⟨y,m,rfl,h1,h2⟩:=bO.1 h;obtain⟨z,m',rfl,h3,h4⟩:=bO.1 h2;exact mm.2 ⟨_,J,h⟩
end
end Go.Sx
end
