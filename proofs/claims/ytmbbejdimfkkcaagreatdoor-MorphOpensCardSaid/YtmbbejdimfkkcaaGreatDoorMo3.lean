import Derived.Test.YtmbbejdimfkkcaaGreatDoorMo2
import Derived.Laws.Externs
import Derived.Lib.Overlaps
set_option linter.all false
set_option maxRecDepth 100000
section
namespace Go.Sx
open Go Go.Proofs
def XH{n:Int}{d:Nat}(h:n<0):mkRat (-(d:Int)) n.natAbs=Rat.divInt (d:Int) n:=by
 rw[<-Rat.divInt_ofNat,mJ (qW h),Rat.neg_divInt_neg]
def V1{q:Rat}(h:q.num<0):(q⁻¹).num= -(q.den:Int)/\(q⁻¹).den=q.num.natAbs:=by
 rw[Rat.num_inv,Rat.den_inv,if_neg we,fQ h];omega
def Tz{q:Rat}(h:0<q.num):(q⁻¹).num=(q.den:Int)/\(q⁻¹).den=q.num.natAbs:=by
 rw[Rat.num_inv,Rat.den_inv,if_neg we,gQ h];omega
end Go.Sx
end
section
namespace Go.Sx
open Go
variable {P:Program}{ops:Array Oper}{Q:Exit->Act->World->Prop}{fin:Nat->Bool}{k n:Nat}
section
variable {S:World->Prop}{π₂:List (Nat×Bool)}
end
section
variable {C:aH}{fr:Fr}{own own0:List aA}{G G0:Gh}{π π₂:List (Nat×Bool)}
def fF(d:Nat):Option Nat->Fr
 |none=>[]
 |some b=>[(d, .pointer (some ⟨b,0,none⟩))]
def fO(t:TypeId)(z:Value):Option Nat->List aA
 |none=>[]
 |some b=>[⟨b,aO z,t,true⟩]
end
end Go.Sx
end
section
namespace Go.Sx
open Go Go.Proofs
def Fv{q:Rat}(h:q.den=1:=by omega):q=(q.num:Int):=by
 conv=>lhs;rw[<-sW q,h,tV]
def bE(a b:Rat):Int:=if a<b then-1 else if b<a then 1 else 0
def LZ(a b:Rat):(a-b).num<0↔a<b:=by
 rw[<-Rat.not_le,Rat.le_iff_sub_nonneg,<-sY];omega
def TP(a b:Rat):0<(a-b).num↔b<a:=by
 have h:=LZ b a;have h2:(b-a).num= -(a-b).num:=by rw[<-oW,Rat.neg_sub]
 rw[h2] at h;rw[<-h];omega
def Hu(a b:Rat):Int.sign (a-b).num=bE a b:=by
 unfold bE;split
 .rename_i h;exact fQ ((LZ a b).2 h)
 .rename_i h
  split
  .rename_i h2;exact gQ ((TP a b).2 h2)
  .rename_i h2
   rw[<-LZ] at h;rw[<-TP] at h2;rw[show(a-b).num=0 by omega];rfl
def TV{a b:Rat}(h:a.den=b.den:=by omega):a<b↔a.num<b.num:=by
 rw[Rat.lt_iff,h];have:(0:Int)<b.den:=by have:=b.den_pos;omega
 exact⟨fun h2=>Int.lt_of_mul_lt_mul_right h2 (qW this),fun h2=>Int.mul_lt_mul_of_pos_right h2 this⟩
def vG(a b:Rat):bE a b=0↔a=b:=by
 unfold bE;constructor
 .intro h
  split at h
  .omega
  .rename_i h1
   split at h
   .omega
   .rename_i h2
    exact Rat.le_antisymm (Rat.not_lt.1 h2) (Rat.not_lt.1 h1)
 .intro h
  subst h;rw[if_neg (Rat.not_lt.2 iR),if_neg (Rat.not_lt.2 iR)]
def Ve(a b:Rat):0<bE a b↔b<a:=by
 unfold bE;constructor
 .intro h
  split at h
  .omega
  .split at h
   .assumption
   .omega
 .intro h
  rw[if_neg (fun h2=>Rat.not_lt.2 (dZ h) h2),if_pos h];decide
def S3(a b:Rat):bE a b<0↔a<b:=by
 unfold bE;constructor
 .intro h
  split at h
  .assumption
  .split at h<;>omega
 .intro h
  rw[if_pos h];decide
def rgcd(a b:Rat):Rat:=mkRat ((Nat.gcd (a.num.natAbs*b.den) (b.num.natAbs*a.den):Nat):Int) (a.den*b.den)
def Mx(a b:Int):rgcd a b=((Nat.gcd a.natAbs b.natAbs:Nat):Int):=by
 unfold rgcd;show mkRat ((Nat.gcd (a.natAbs*1) (b.natAbs*1):Nat):Int) (1*1)=_;rw[jT,jT,jT,tV]
def I6{a b m:Nat}(ha:a<m)(hb:b<m):Nat.gcd a b<m:=by
 rcases gX a with h|h
 .rw[h,Nat.gcd_zero_left];exact hb
 .exact dR (Nat.gcd_le_left _ h) ha
structure LV where
 a:RV
 b:RV
 c:RV
def LV.v(z:LV):Value:= .agg ⟨[.int .i64 z.a.n, .int .i64 z.a.d, .pointer z.a.p, .int .i64 z.b.n, .int .i64 z.b.d, .pointer z.b.p, .int .i64 z.c.n, .int .i64 z.c.d, .pointer z.c.p]⟩
structure aa where
 a:Int
 b:Int
 c:Int
def aa.ok(l:aa):Prop:= ¬(l.a=0/\l.b=0)/\Nat.gcd (Nat.gcd l.a.natAbs l.b.natAbs) l.c.natAbs=1
structure PV where
 x:RV
 y:RV
def PV.v(z:PV):Value:= .agg ⟨[.int .i64 z.x.n, .int .i64 z.x.d, .pointer z.x.p, .int .i64 z.y.n, .int .i64 z.y.d, .pointer z.y.p]⟩
structure ah where
 x:Rat
 y:Rat
def MS(a:Int): -(a:Rat)=((-a:Int):Rat):=rfl
def aa.rev(l:aa):aa:=⟨-l.a, -l.b, -l.c⟩
def aa.nor(l:aa):ah:=⟨l.a,l.b⟩
def aa.dir(l:aa):ah:=⟨l.b, -(l.a:Rat)⟩
def ah.dot(p q:ah):Rat:=p.x*q.x+p.y*q.y
def ah.cross(p q:ah):Rat:=p.x*q.y-p.y*q.x
def ah.scale(p:ah)(c:Rat):ah:=⟨p.x*c,p.y*c⟩
def ah.add(p q:ah):ah:=⟨p.x+q.x,p.y+q.y⟩
def aa.value(l:aa)(p:ah):Rat:=l.nor.dot p+(l.c:Rat)
def aa.base(l:aa):ah:=l.nor.scale (-(l.c:Rat)/l.nor.dot l.nor)
def aa.at(l:aa)(t:Rat):ah:=l.base.add (l.dir.scale t)
end Go.Sx
end
section
namespace Go.Sx
open Go
variable {s n c2 by_ off len cap l2 cap2 i:Nat}{p q:ah}{m:aa}{C:aH}{K:Value->List aA->Gh->Prop}{x y fo:Operand}{M own' own1 own0:List aA}{rest vs c1 cs' ys xs cs1 cs2:List Value}{G G' G0:Gh}{w w':World}{P:Program}{f:FuncId}{fr:Fr}{Φ:Act->World->Prop}{dst:Option Nat}{t' ty' ty tS tR t1 t2:TypeId}{pos:String}{af:Array Edge}{args:Array Operand}{tys:Array TypeId}{ad ad2:Option Addr}{ops:Array Oper}{Q:Exit->Act->World->Prop}{fin:Nat->Bool}
instance:DecidableEq aa:=fun x y=>decidable_of_iff (x.a=y.a/\x.b=y.b/\x.c=y.c) (by
 cases x;cases y;simp)
structure ar where
 lo:Rat
 hi:Rat
 nl:Bool
 nh:Bool
def ar.all:ar:=⟨0,0,true,true⟩
def ar.empty(v:ar):Bool:=!v.nl&&(!v.nh&&decide (0<=bE v.lo v.hi))
def ar.meet(v w:ar):ar:=
 ⟨if v.nl then w.lo else if w.nl then v.lo else if v.lo<w.lo then w.lo else v.lo,
  if v.nh then w.hi else if w.nh then v.hi else if w.hi<v.hi then w.hi else v.hi,v.nl&&w.nl,v.nh&&w.nh⟩
def ar.sample(v:ar):Rat:=if v.nl&&v.nh then 0 else if v.nl then v.hi-1 else if v.nh then v.lo+1 else(v.lo+v.hi)*mkRat 1 2
def aa.cutK(l m:aa):Rat:=m.nor.dot l.dir
def aa.cutC(l m:aa):Rat:=m.value l.base
def aa.cutV(l:aa)(v:ar)(m:aa):ar:=
 if Int.sign (l.cutK m).num=0 then v
 else if Int.sign (l.cutK m).num=1 then v.meet ⟨-(l.cutC m/l.cutK m),0,false,true⟩
 else v.meet ⟨0, -(l.cutC m/l.cutK m),true,false⟩
def aa.cutB(l:aa)(v:ar)(m:aa):Bool:=
 if Int.sign (l.cutK m).num=0 then decide (0<Int.sign (l.cutC m).num) else !(l.cutV v m).empty
structure bD where
 l:aa
 v:ar
abbrev ao:=List bD
variable {e:ao}
def n9(l:aa):ao->ar->Option ar
 |[],v=>some v
 |s::t,v=>if l.cutB v s.l then n9 l t (l.cutV v s.l) else none
def kw(c:ao)(l:aa):Option ar:=n9 l c ar.all
def py(l:aa)(s:bD):Int:=Int.sign (l.value (s.l.at s.v.sample)).num
def pj(l:aa):ao->Int
 |[]=> -1
 |s::t=>if py l s≠0 then py l s else if s.l=l then 1 else pj l t
def yi(c:ao)(l:aa):Int:=if(kw c l).isSome then 0 else pj l c
def ah.half(p:ah):Int:=
 if 0<Int.sign p.y.num\/(Int.sign p.y.num=0/\0<Int.sign p.x.num) then 1 else if Int.sign p.y.num<0\/Int.sign p.x.num<0 then 2 else 0
def gr(u v:ah):Int:=if u.half<v.half then-1 else if v.half<u.half then 1 else-(Int.sign (u.cross v).num)
def eu(l:aa):ao->ao
 |[]=>[]
 |s::t=>if s.l.cutB s.v l then⟨s.l,s.l.cutV s.v l⟩::eu l t else eu l t
def gm(p:Nat->Bool)(i j:Nat):Nat:=
 if h:i<j then(if p ((i+j)/2) then gm p ((i+j)/2+1) j else gm p i ((i+j)/2)) else i
termination_by j-i
def jq(c:ao)(l:aa)(i:Nat):Bool:=match c[i]? with
 |some s=>decide (gr s.l.dir l.dir<0)
 |none=>false
def lA(c:ao)(l:aa)(v:ar):ao:=
 c.take (gm (jq c l) 0 c.length)++⟨l,v⟩::c.drop (gm (jq c l) 0 c.length)
def bG(c:ao)(l:aa):ao:=match kw c l with
 |some v=>lA (eu l c) l v
 |none=>c
def cw(c:ao)(l:aa):Bool:=match kw c l with
 |some _=>true
 |none=>decide (0<yi c l)
def HH(p:Nat->Bool): ∀(d i j:Nat),j-i<=d->i<=j->i<=gm p i j/\gm p i j<=j
 |0,i,j,h,hij=>by
  rw[gm,dif_neg we];omega
 |d+1,i,j,h,hij=>by
  rw[gm];split
  .split
   .have:=HH p d ((i+j)/2+1) j we we;omega
   .have:=HH p d i ((i+j)/2) we we;omega
  .omega
def QS(l:aa): ∀c:ao,(eu l c).length<=c.length
 |[]=>bV _
 |s::t=>by
  have:=QS l t;unfold eu;split<;>simp<;>omega
def aAH(c:ao)(l:aa)(v:ar):(lA c l v).length=c.length+1:=by
 have:=(HH (jq c l) c.length 0 c.length we we).2;simp[lA];omega
def vf(c:ao)(l:aa):(bG c l).length<=c.length+1:=by
 unfold bG;split
 .rw[aAH];have:=QS l c;omega
 .omega
inductive Tr where
 |leaf (b:Bool)
 |node (l:aa) (x y:Tr)
def Tr.isLeaf:Tr->Bool
 | .leaf _=>true
 | .node .. =>false
def Tr.code:Tr->Bool
 | .leaf b=>b
 | .node .. =>false
def Tr.depth:Tr->Nat
 | .leaf _=>0
 | .node _ x y=>1+max x.depth y.depth
def Tr.size:Tr->Nat
 | .leaf _=>0
 | .node _ x y=>1+x.size+y.size
def Tr.joinQ(l:aa)(x y:Tr):Tr:=if x.isLeaf&&(y.isLeaf&&(x.code==y.code)) then x else .node l x y
def Tr.restrict:Tr->ao->Tr
 | .leaf b,_=> .leaf b
 | .node l x y,c=>if !cw c l.rev then x.restrict c else if !cw c l then y.restrict c else joinQ l (x.restrict (bG c l)) (y.restrict (bG c l.rev))
def Tr.parts:Tr->ao->List (Bool×ao)
 | .leaf b,c=>[(b,c)]
 | .node l x y,c=>(if cw c l then x.parts (bG c l) else [])++(if cw c l.rev then y.parts (bG c l.rev) else [])
def Tr.all(p:aa->Prop):Tr->Prop
 | .leaf _=>True
 | .node l x y=>p l/\x.all p/\y.all p
structure NQ where
 l:aa
 a:Int
 b:Int
def RX(b:Bool):Int:=if b then-2 else-1
def Tr.num:Tr->Nat->Int
 | .leaf b,_=>RX b
 | .node ..,n=>n
def Tr.wr:Tr->Nat->List NQ
 | .leaf _,_=>[]
 | .node l x y,n=>⟨l,x.num (n+1),y.num (n+1+x.size)⟩::x.wr (n+1)++y.wr (n+1+x.size)
def Tr.wr_len: ∀(t:Tr) (n:Nat),(t.wr n).length=t.size
 | .leaf _,n=>rfl
 | .node l x y,n=>by
  have h1:=Tr.wr_len x (n+1);have h2:=Tr.wr_len y (n+1+x.size);simp[Tr.wr,Tr.size,h1,h2];omega
def Tr.joinQ_cases(l:aa)(x y:Tr):(Tr.joinQ l x y=x/\x.isLeaf=true)\/(Tr.joinQ l x y= .node l x y/\ ¬(x.isLeaf=true/\y.isLeaf=true/\x.code=y.code)):=by
 unfold Tr.joinQ;split
 .rename_i h
  simp at h;exact .inl ⟨J,h.1⟩
 .rename_i h
  simp at h;exact .inr ⟨J,fun⟨a,b,c⟩=>h a b c⟩
def Tr.restrict_depth: ∀(t:Tr) (c:ao),(t.restrict c).depth<=t.depth
 | .leaf b,c=>bV _
 | .node l x y,c=>by
  unfold Tr.restrict;split
  .have:=x.restrict_depth c;simp only[Tr.depth];omega
  .split
   .have:=y.restrict_depth c;simp only[Tr.depth];omega
   .have h1:=x.restrict_depth (bG c l)
    have h2:=y.restrict_depth (bG c l.rev);rcases Tr.joinQ_cases l (x.restrict (bG c l)) (y.restrict (bG c l.rev)) with⟨h,_⟩|⟨h,_⟩
    .rw[h];simp only[Tr.depth];omega
    .rw[h];simp only[Tr.depth];omega
def Tr.restrict_all(p:aa->Prop): ∀(t:Tr) (c:ao),t.all p->(t.restrict c).all p
 | .leaf b,c,_=>trivial
 | .node l x y,c,h=>by
  obtain⟨h0,h1,h2⟩:=h;unfold Tr.restrict;split
  .exact x.restrict_all p c h1
  .split
   .exact y.restrict_all p c h2
   .rcases Tr.joinQ_cases l (x.restrict (bG c l)) (y.restrict (bG c l.rev)) with⟨h,_⟩|⟨h,_⟩
    .rw[h];exact x.restrict_all p _ h1
    .rw[h];exact⟨h0,x.restrict_all p _ h1,y.restrict_all p _ h2⟩
def iG(l:aa)(p:ah):l.value p=(l.a:Rat)*p.x+(l.b:Rat)*p.y+(l.c:Rat):=rfl
def en(l:aa)(p:ah):l.rev.value p= -l.value p:=by
 rw[iG,iG];have h1:((l.rev.a:Int):Rat)= -(l.a:Rat):=(MS l.a).symm;have h2:((l.rev.b:Int):Rat)= -(l.b:Rat):=(MS l.b).symm;have h3:((l.rev.c:Int):Rat)= -(l.c:Rat):=(MS l.c).symm;rw[h1,h2,h3];grind
def kC(q p:ah)(e:Rat):ah:=⟨q.x+e*(p.x-q.x),q.y+e*(p.y-q.y)⟩
def lP(l:aa)(q p:ah)(e:Rat):l.value (kC q p e)=l.value q+e*(l.value p-l.value q):=by
 simp only[iG,kC];grind
def cD(q u:ah)(e:Rat):ah:=⟨q.x+e*u.x,q.y+e*u.y⟩
def jF(l:aa)(q u:ah)(e:Rat):l.value (cD q u e)=l.value q+e*l.nor.dot u:=by
 simp only[iG,cD,aa.nor,ah.dot];grind
def c9{a b:Rat}(ha:0<a)(hb:0<b):0<a*b:=uL ha hb
def cI{a b:Rat}(ha:0<=a)(hb:0<=b):0<=a*b:=Rat.mul_nonneg ha hb
def Hg(a:Rat):0<=a*a:=by
 by_cases h:0<=a
 .exact cI h h
 .have:=cI (a:= -a) (b:= -a) omb omb
  grind
def gk{s k:Rat}(hk:0<k):0<s*k↔0<s:=by
 constructor
 .intro h
  by_cases hs:0<s
  .exact hs
  .have:=cI (a:= -s) (b:=k) omb omb
   grind
 .intro h;exact c9 h hk
def iH{s k:Rat}(hk:0<k):0<=s*k↔0<=s:=by
 constructor
 .intro h
  by_cases hs:0<=s
  .exact hs
  .have:=c9 (a:= -s) (b:=k) omb hk
   grind
 .intro h;exact cI h omb
def Lm{A B u v:Rat}(h0:0<=A)(h1:0<=A+v*B)(hu:0<=u)(huv:u<=v):0<=A+u*B:=by
 by_cases hB:0<=B
 .have:=cI hu hB;grind
 .have:=cI (a:=v-u) (b:= -B) omb omb
  grind
def aa.Ne(l:aa):Prop:= ¬(l.a=0/\l.b=0)
def aa.ok.ne{l:aa}(h:l.ok):l.Ne:=h.1
def mO{l:aa}(h:l.Ne):0<l.nor.dot l.nor:=by
 show 0<(l.a:Rat)*l.a+(l.b:Rat)*l.b;have h1:=Hg (l.a:Rat);have h2:=Hg (l.b:Rat);by_cases ha:l.a=0
 .have hb:l.b≠0:=fun hb=>h ⟨ha,hb⟩
  have hb':(l.b:Rat)≠0:=fun e=>hb (cM.1 e);have:(l.b:Rat)*l.b≠0:=by grind
  grind
 .have ha':(l.a:Rat)≠0:=fun e=>ha (cM.1 e)
  have:(l.a:Rat)*l.a≠0:=by grind
  grind
def Dz{l:aa}(h:l.Ne): ∃q:Rat,l.nor.dot l.nor*q= -(l.c:Rat)/\l.base=⟨(l.a:Rat)*q,(l.b:Rat)*q⟩:=by
 refine⟨-(l.c:Rat)/l.nor.dot l.nor,?_,J⟩;have:=mO h;grind
def mv(l m:aa)(t:Rat):m.value (l.at t)=l.cutC m+t*l.cutK m:=by
 simp only[aa.cutC,aa.cutK,iG,aa.at,ah.add,ah.scale,aa.dir,aa.nor,ah.dot];grind
def ly{l:aa}(h:l.Ne)(t:Rat):l.value (l.at t)=0:=by
 obtain⟨q,h1,h2⟩:=Dz h;simp only[iG,aa.at,h2,ah.add,ah.scale,aa.dir];simp only[aa.nor,ah.dot] at h1;grind
def AR{l:aa}(h:l.Ne)(hp:l.value p=0): ∃t,p=l.at t:=by
 obtain⟨q,h1,h2⟩:=Dz h;have hn:=mO h;obtain⟨x,y⟩:=p;rw[iG] at hp;simp only[aa.nor,ah.dot] at h1 hn;refine⟨((l.b:Rat)*x-(l.a:Rat)*y)/((l.a:Rat)*l.a+(l.b:Rat)*l.b),?_⟩;generalize ht:((l.b:Rat)*x-(l.a:Rat)*y)/((l.a:Rat)*l.a+(l.b:Rat)*l.b)=t;have ht':((l.a:Rat)*l.a+(l.b:Rat)*l.b)*t=(l.b:Rat)*x-(l.a:Rat)*y:=by grind
 simp only[aa.at,h2,ah.add,ah.scale,aa.dir,ah.mk.injEq];generalize (l.a:Rat)=a at*;generalize (l.b:Rat)=b at*;generalize (l.c:Rat)=c at*;have e1:(a*a+b*b)*(x-(a*q+b*t))=0:=by grind
 have e2:(a*a+b*b)*(y-(b*q+ -a*t))=0:=by grind
 constructor<;>grind
def ar.has(v:ar)(t:Rat):Prop:=(v.nl=true\/v.lo<=t)/\(v.nh=true\/t<=v.hi)
def ar.ins(v:ar)(t:Rat):Prop:=(v.nl=true\/v.lo<t)/\(v.nh=true\/t<v.hi)
def ar.Pos(v:ar):Prop:=v.nl=true\/v.nh=true\/v.lo<v.hi
def arr(a b:Rat):0<=bE a b↔b<=a:=by
 unfold bE;split
 .constructor
  .intro h;exact absurd h oma
  .intro h;grind
 .split
  .constructor
   .intro _;grind
   .intro _;decide
  .constructor
   .intro _;grind
   .intro _;decide
def EQ(v:ar):v.empty=false↔v.Pos:=by
 obtain⟨lo,hi,nl,nh⟩:=v;unfold ar.empty ar.Pos
 cases nl<;>cases nh<;>simp[arr]
 first|exact Rat.not_le|grind
def ar.ins.has{v:ar}{t:Rat}(h:v.ins t):v.has t:=by
 obtain⟨h1,h2⟩:=h;exact⟨h1.imp id (fun h=>dZ h),h2.imp id (fun h=>dZ h)⟩
def aFO:mkRat 1 2=(1:Rat)/2:=by rw[nR];rfl
def oP{v:ar}(h:v.Pos):v.ins v.sample:=by
 obtain⟨lo,hi,nl,nh⟩:=v;unfold ar.Pos at h;unfold ar.ins ar.sample;rw[aFO]
 cases nl<;>cases nh<;>simp at* <;>grind
def Rb(v w:ar)(t:Rat):(v.meet w).has t↔v.has t/\w.has t:=by
 obtain⟨lo,hi,nl,nh⟩:=v;obtain⟨lo',hi',nl',nh'⟩:=w;unfold ar.has ar.meet
 cases nl<;>cases nh<;>cases nl'<;>cases nh'<;>simp<;>grind
def Px(v w:ar)(t:Rat):(v.meet w).ins t↔v.ins t/\w.ins t:=by
 obtain⟨lo,hi,nl,nh⟩:=v;obtain⟨lo',hi',nl',nh'⟩:=w;unfold ar.ins ar.meet
 cases nl<;>cases nh<;>cases nl'<;>cases nh'<;>simp<;>grind
def KQ(t:Rat):ar.all.has t:=⟨.inl J, .inl J⟩
def AE:ar.all.Pos:= .inl J
def qp(k:Rat):Int.sign k.num=0↔k=0:=by rw[iV,mT]
def azI(k:Rat):0<k.num↔0<k:=by
 have h1:0<=k.num↔0<=k:=sY;have h2:k.num=0↔k=0:=mT;constructor
 .intro h
  have a:=h1.1 we;have b:k≠0:=fun e=>by have:=h2.2 e;omega
  grind
 .intro h
  have a:=h1.2 omb;have b:k.num≠0:=fun e=>by have:=h2.1 e;grind
  omega
def EA(k:Rat):Int.sign k.num=1↔0<k:=by rw[Int.sign_eq_one_iff_pos,azI]
def nG(k:Rat):0<Int.sign k.num↔0<k:=by
 rw[<-EA];rcases qQ k.num 0 with h|h|h
 .rw[fQ h];decide
 .rw[h];decide
 .rw[gQ h];decide
def Hi(k:Rat):Int.sign k.num<0↔k<0:=by
 have h1:=qp k;have h2:=nG k;constructor
 .intro h
  by_cases hk:0<k
  .have:=h2.2 hk;omega
  .by_cases h0:k=0
   .have:=h1.2 h0;omega
   .grind
 .intro h
  have a1: ¬Int.sign k.num=0:=fun e=>by have:=h1.1 e;grind
  have a2: ¬0<Int.sign k.num:=fun e=>by have:=h2.1 e;grind
  omega
def C5{l:aa}(v:ar)(hk:l.cutK m=0):l.cutV v m=v/\(l.cutB v m=true↔0<l.cutC m):=by
 have h:=(qp (l.cutK m)).2 hk;unfold aa.cutV aa.cutB;rw[if_pos h,if_pos h,decide_eq_true_iff,nG];exact⟨J,Iff.rfl⟩
def Dc{l:aa}(v:ar)(hk:0<l.cutK m):l.cutV v m=v.meet ⟨-(l.cutC m/l.cutK m),0,false,true⟩/\(l.cutB v m=true↔(l.cutV v m).Pos):=by
 have h0: ¬Int.sign (l.cutK m).num=0:=fun e=>by have:=(qp _).1 e;grind
 have h1:=(EA (l.cutK m)).2 hk;constructor
 .unfold aa.cutV;rw[if_neg h0,if_pos h1]
 .unfold aa.cutB;rw[if_neg h0,<-EQ];simp
def D1{l:aa}(v:ar)(hk:l.cutK m<0):l.cutV v m=v.meet ⟨0, -(l.cutC m/l.cutK m),true,false⟩/\(l.cutB v m=true↔(l.cutV v m).Pos):=by
 have h0: ¬Int.sign (l.cutK m).num=0:=fun e=>by have:=(qp _).1 e;grind
 have h1: ¬Int.sign (l.cutK m).num=1:=fun e=>by have:=(EA _).1 e;grind
 constructor
 .unfold aa.cutV;rw[if_neg h0,if_neg h1]
 .unfold aa.cutB;rw[if_neg h0,<-EQ];simp
def aK5{C K t:Rat}(hk:0<K): -(C/K)<=t↔0<=C+t*K:=by
 have e:C=C/K*K:=by grind
 generalize C/K=d at*;rw[e,show d*K+t*K=(d+t)*K from by grind,iH hk];grind
def Pz{C K t:Rat}(hk:0<K): -(C/K)<t↔0<C+t*K:=by
 have e:C=C/K*K:=by grind
 generalize C/K=d at*;rw[e,show d*K+t*K=(d+t)*K from by grind,gk hk];grind
def aLB{C K t:Rat}(hk:K<0):t<= -(C/K)↔0<=C+t*K:=by
 have e:C=C/K*K:=by grind
 generalize C/K=d at*;rw[e,show d*K+t*K=(-(d+t))*(-K) from by grind,iH omb];grind
def QN{C K t:Rat}(hk:K<0):t< -(C/K)↔0<C+t*K:=by
 have e:C=C/K*K:=by grind
 generalize C/K=d at*;rw[e,show d*K+t*K=(-(d+t))*(-K) from by grind,gk omb];grind
def jI(k:Rat):k=0\/0<k\/k<0:=by grind
def Ei{l:aa}{v:ar}(hb:l.cutB v m=true)(t:Rat):(l.cutV v m).has t↔v.has t/\0<=m.value (l.at t):=by
 rw[mv];rcases jI (l.cutK m) with hk|hk|hk
 .obtain⟨h1,h2⟩:=C5 v hk
  rw[h1,hk];have:=h2.1 hb;constructor
  .intro h;exact⟨h,omb⟩
  .exact fun h=>h.1
 .rw[(Dc v hk).1,Rb,<-aK5 hk]
  simp[ar.has]
 .rw[(D1 v hk).1,Rb,<-aLB hk]
  simp[ar.has]
def RO{l:aa}{v:ar}(hb:l.cutB v m=true)(t:Rat):(l.cutV v m).ins t↔v.ins t/\0<m.value (l.at t):=by
 rw[mv];rcases jI (l.cutK m) with hk|hk|hk
 .obtain⟨h1,h2⟩:=C5 v hk
  rw[h1,hk];have:=h2.1 hb;constructor
  .intro h;exact⟨h,omb⟩
  .exact fun h=>h.1
 .rw[(Dc v hk).1,Px,<-Pz hk]
  simp[ar.ins]
 .rw[(D1 v hk).1,Px,<-QN hk]
  simp[ar.ins]
def D0{l:aa}{v:ar}(hv:v.Pos)(hb:l.cutB v m=true):(l.cutV v m).Pos:=by
 rcases jI (l.cutK m) with hk|hk|hk
 .rw[(C5 v hk).1];exact hv
 .exact(Dc v hk).2.1 hb
 .exact(D1 v hk).2.1 hb
def IN{l:aa}{v:ar}(hv:v.Pos)(hb:l.cutB v m=false){t:Rat}(ht:v.has t):m.value (l.at t)<=0:=by
 rw[mv];have hb': ¬l.cutB v m=true:=by rw[hb];decide
 rcases jI (l.cutK m) with hk|hk|hk
 .have h2:=(C5 v hk).2
  have: ¬0<l.cutC m:=fun h=>hb' (h2.2 h);rw[hk];grind
 .obtain⟨h1,h2⟩:=Dc v hk
  have hn: ¬(l.cutV v m).Pos:=fun h=>hb' (h2.2 h);rw[h1] at hn;have h3:=Pz (C:=l.cutC m) (t:=t) hk
  suffices¬(-(l.cutC m/l.cutK m)<t) by grind
  generalize-(l.cutC m/l.cutK m)=d at*;obtain⟨lo,hi,nl,nh⟩:=v;unfold ar.Pos ar.meet at hn;unfold ar.Pos at hv;unfold ar.has at ht
  cases nl<;>cases nh<;>simp at* <;>grind
 .obtain⟨h1,h2⟩:=D1 v hk
  have hn: ¬(l.cutV v m).Pos:=fun h=>hb' (h2.2 h);rw[h1] at hn;have h3:=QN (C:=l.cutC m) (t:=t) hk
  suffices¬(t< -(l.cutC m/l.cutK m)) by grind
  generalize-(l.cutC m/l.cutK m)=d at*;obtain⟨lo,hi,nl,nh⟩:=v;unfold ar.Pos ar.meet at hn;unfold ar.Pos at hv;unfold ar.has at ht
  cases nl<;>cases nh<;>simp at* <;>grind
def bu(c:ao)(p:ah):Prop:= ∀s∈c,0<s.l.value p
def iu(c:ao)(p:ah):Prop:= ∀s∈c,0<=s.l.value p
def bu.c{c:ao}{p:ah}(h:bu c p):iu c p:=fun s hs=>dZ (h s hs)
def MR(l:aa): ∀(c:ao) (v w:ar),v.Pos->n9 l c v=some w->
  w.Pos/\(∀t,w.has t↔v.has t/\iu c (l.at t))/\(∀t,w.ins t↔v.ins t/\bu c (l.at t))
 |[],v,w,hv,h=>by
  obtain rfl:v=w:=by simpa[n9] using h
  exact⟨hv,fun t=>⟨fun h=>⟨h,fun s hs=>absurd hs omc⟩,fun h=>h.1⟩,fun t=>⟨fun h=>⟨h,fun s hs=>absurd hs omc⟩,fun h=>h.1⟩⟩
 |s::c,v,w,hv,h=>by
  rw[n9] at h;split at h
  .rename_i hb
   obtain⟨h1,h2,h3⟩:=MR l c _ w (D0 hv hb) h;refine⟨h1,fun t=>?_,fun t=>?_⟩
   .rw[h2,Ei hb]
    simp only[iu,eJ];exact and_assoc
   .rw[h3,RO hb]
    simp only[bu,eJ];exact and_assoc
  .exact absurd h omc
theorem ozt{p:Prop}(h:p:=by simpa using hb):p:=h
def Ov(l:aa): ∀(c:ao) (v:ar),v.Pos->n9 l c v=none-> ∀t,v.has t-> ¬bu c (l.at t)
 |[],v,hv,h=>by simp[n9] at h
 |s::c,v,hv,h=>by
  intro t ht hd;have hd':=eJ.1 hd;rw[n9] at h;split at h
  .rename_i hb
   exact Ov l c _ (D0 hv hb) h t ((Ei hb t).2 ⟨ht,dZ hd'.1⟩) hd'.2
  .rename_i hb
   have:=IN hv ozt ht;have:=hd'.1;grind
def bu.open: ∀{c:ao} {q:ah} (u:ah),bu c q-> ∃e:Rat,0<e/\ ∀d,0<=d->d<=e->bu c (cD q u d)
 |[],q,u,_=>⟨1,oma,fun d _ _ s hs=>absurd hs omc⟩
 |s::c,q,u,h=>by
  have h':=eJ.1 h;obtain⟨e,he,hd⟩:=bu.open (c:=c) u h'.2;have hs:=h'.1;generalize hk:s.l.nor.dot u=k;have hf: ∃f:Rat,0<f/\ ∀d,0<=d->d<=f->0<s.l.value q+d*k:=by
   by_cases hk0:0<=k
   .exact⟨1,oma,fun d h1 _=>by have:=cI h1 hk0;grind⟩
   .refine⟨s.l.value q/(2* -k),?_,fun d h1 h2=>?_⟩
    .have e1:s.l.value q/(2* -k)*(2* -k)=s.l.value q:=by grind
     exact(gk (k:=2* -k) omb).1 (by rw[e1];exact hs)
    .have e1:s.l.value q/(2* -k)*(2* -k)=s.l.value q:=by grind
     generalize s.l.value q/(2* -k)=f at*;have:=cI (a:=f-d) (b:= -k) omb omb;grind
  obtain⟨f,hf0,hf⟩:=hf;by_cases hef:e<=f
  .refine⟨e,he,fun d h1 h2=>eJ.2 ⟨?_,hd d h1 h2⟩⟩
   rw[jF,hk];exact hf d h1 omb
  .refine⟨f,hf0,fun d h1 h2=>eJ.2 ⟨?_,hd d h1 omb⟩⟩
   rw[jF,hk];exact hf d h1 h2
def Kj: ∀{c:ao} {q p:ah},bu c q->(∃s∈c,s.l.value p<=0)->
  ∃e:Rat,0<=e/\e<=1/\(∃s∈c,s.l.value p<=0/\s.l.value (kC q p e)=0)/\iu c (kC q p e)
 |[],q,p,_,h=>by obtain⟨s,hs,_⟩:=h;exact absurd hs omc
 |s::c,q,p,h,hex=>by
  have h':=eJ.1 h;have hs:=h'.1;by_cases hc: ∃s∈c,s.l.value p<=0
  .obtain⟨e,h0,h1,⟨s1,m1,n1,z1⟩,hC⟩:=Kj h'.2 hc
   by_cases hp:0<=s.l.value (kC q p e)
   .exact⟨e,h0,h1,⟨s1,aJ _ m1,n1,z1⟩,eJ.2 ⟨hp,hC⟩⟩
   .rw[lP] at hp
    generalize hB:s.l.value p-s.l.value q=B at*;have hB0:B<0:=by
     by_cases hB0:0<=B
     .have:=cI h0 hB0;grind
     .grind
    have e1:s.l.value q/(-B)*(-B)=s.l.value q:=by grind
    generalize hf:s.l.value q/(-B)=f at*;have f0:0<=f:=(iH (k:= -B) omb).1 (by rw[e1];grind);have f1:f<=e:=by
     have:=(iH (s:=e-f) (k:= -B) omb).1 omb;grind
    have z:s.l.value (kC q p f)=0:=by rw[lP,hB];grind
    have np:s.l.value p<=0:=by
     have:=cI (a:=1-e) (b:= -B) omb omb;grind
    refine⟨f,f0,omb,⟨s,aQ,np,z⟩,eJ.2 ⟨by rw[z];exact iR,fun s2 m2=>?_⟩⟩;have a1:=h'.2 s2 m2;have a2:=hC s2 m2;rw[lP] at a2⊢;exact Lm (dZ a1) a2 f0 f1
  .have np:s.l.value p<=0:=by
    obtain⟨s1,m1,n1⟩:=hex;rcases aW.1 m1 with rfl|m1
    .exact n1
    .exact absurd ⟨s1,m1,n1⟩ hc
   generalize hB:s.l.value p-s.l.value q=B at*;have hB0:B<0:=by grind
   have e1:s.l.value q/(-B)*(-B)=s.l.value q:=by grind
   generalize hf:s.l.value q/(-B)=f at*;have f0:0<=f:=(iH (k:= -B) omb).1 (by rw[e1];grind);have f1:f<=1:=by
    have:=(iH (s:=1-f) (k:= -B) omb).1 omb;grind
   have z:s.l.value (kC q p f)=0:=by rw[lP,hB];grind
   refine⟨f,f0,f1,⟨s,aQ,np,z⟩,eJ.2 ⟨by rw[z];exact iR,fun s2 m2=>?_⟩⟩;have a1:=h'.2 s2 m2;have a2:0<s2.l.value p:=by
    by_cases h:0<s2.l.value p
    .exact h
    .exact absurd ⟨s2,m2,omb⟩ hc
   rw[lP];have:=Lm (A:=s2.l.value q) (B:=s2.l.value p-s2.l.value q) (u:=f) (v:=1) (dZ a1) omb f0 f1;exact this
structure bw (c:ao):Prop where
 ne: ∃p,bu c p
 ok: ∀s∈c,s.l.ok
 edge: ∀s∈c,s.v.Pos/\ ∀t,s.v.has t↔iu c (s.l.at t)
def bw.nil:bw []:=⟨⟨⟨0,0⟩,fun s hs=>absurd hs omc⟩,fun s hs=>absurd hs omc,fun s hs=>absurd hs omc⟩
def uG{c:ao}(hne: ∃q,bu c q)(h: ∀p,bu c p->0<m.value p)(hp:iu c p):0<=m.value p:=by
 obtain⟨q,hq⟩:=hne;have mq:=h q hq;by_cases hm:0<=m.value p
 .exact hm
 .exfalso
  generalize hB:m.value q-m.value p=B;have hB0:0<B:=by grind
  have e1: -m.value p/B*B= -m.value p:=by grind
  generalize-m.value p/B=e at*;have e0:0<e:=(gk hB0).1 (by rw[e1];grind);have e2:e<=1:=by
   have:=(iH (s:=1-e) hB0).1 omb;grind
  have hd:bu c (kC p q e):=fun s hs=>by
   rw[lP];have a:=hp s hs;have b:=hq s hs;have:=c9 e0 b;have:=cI (a:=1-e) (b:=s.l.value p) omb a;grind
  have:=h _ hd;rw[lP,hB,e1] at this;grind
def r4{l:aa}{s':bD}: ∀{c:ao},s'∈eu l c↔ ∃s∈c,s.l.cutB s.v l=true/\s'=⟨s.l,s.l.cutV s.v l⟩
 |[]=>by simp[eu]
 |s::c=>by
  rw[eu];split
  .rename_i hb
   rw[aW,r4 (c:=c)];constructor
   .rintro (rfl|⟨s1,h1,h2⟩)
    .exact⟨s,aQ,hb,J⟩
    .exact⟨s1,aJ _ h1,h2⟩
   .rintro ⟨s1,h1,h2,h3⟩
    rcases aW.1 h1 with rfl|h1
    .exact .inl h3
    .exact .inr ⟨s1,h1,h2,h3⟩
  .rename_i hb
   rw[r4 (c:=c)];constructor
   .rintro ⟨s1,h1,h2⟩;exact⟨s1,aJ _ h1,h2⟩
   .rintro ⟨s1,h1,h2,h3⟩
    rcases aW.1 h1 with rfl|h1
    .exact absurd h2 hb
    .exact⟨s1,h1,h2,h3⟩
def rA{c:ao}{l:aa}{v:ar}{s:bD}:s∈lA c l v↔s=⟨l,v⟩\/s∈c:=by
 unfold lA;generalize gm (jq c l) 0 c.length=n;rw[bZ,aW];have h:=kR n c;constructor
 .rintro (h1|h1|h1)
  .exact .inr (eK h1)
  .exact .inl h1
  .exact .inr (iZ h1)
 .rintro (h1|h1)
  .exact .inr (.inl h1)
  .rw[<-h,bZ] at h1
   rcases h1 with h1|h1
   .exact .inl h1
   .exact .inr (.inr h1)
def aAx{c:ao}{l:aa}(hl:l.Ne)(hp:kw c l=none)(h:bu c p):l.value p≠0:=by
 intro h0;obtain⟨t,rfl⟩:=AR hl h0;exact Ov l c _ AE hp t (KQ t) h
def Mw{c:ao}{l:aa}(hl:l.Ne){v:ar}(hp:kw c l=some v):(∃q,bu c q/\0<l.value q)/\ ∃q,bu c q/\l.value q<0:=by
 obtain⟨h1,_,h3⟩:=MR l c _ v AE hp;have hd:=((h3 v.sample).1 (oP h1)).2;have h0:=ly hl v.sample;have hn:=mO hl;constructor
 .obtain⟨e,he,hm⟩:=hd.open l.nor
  refine⟨_,hm e (dZ he) iR,?_⟩;rw[jF,h0];have:=c9 he hn;grind
 .obtain⟨e,he,hm⟩:=hd.open ⟨-l.nor.x, -l.nor.y⟩
  refine⟨_,hm e (dZ he) iR,?_⟩;rw[jF,h0];have:=c9 he hn;simp only[ah.dot] at this⊢;grind
def XN{c:ao}{l:aa}{v:ar}(hc:bw c)(hl:l.ok)(hp:kw c l=some v):
  bw (lA (eu l c) l v)/\ ∀p,bu (lA (eu l c) l v) p↔bu c p/\0<l.value p:=by
 obtain⟨⟨q,hq,lq⟩,_⟩:=Mw hl.ne hp;obtain⟨v1,v2,v3⟩:=MR l c _ v AE hp;have hD: ∀p,bu (lA (eu l c) l v) p↔bu c p/\0<l.value p:=by
  intro p;constructor
  .intro h
   have lp:0<l.value p:=h ⟨l,v⟩ (rA.2 (.inl J));refine⟨fun s0 hs0=>?_,lp⟩;by_cases h0:0<s0.l.value p
   .exact h0
   .exfalso
    obtain⟨e,e0,e1,⟨s,ms,ns,zs⟩,hC⟩:=Kj (p:=p) hq ⟨s0,hs0,omb⟩;obtain⟨t,ht⟩:=AR (hc.ok s ms).ne zs;rw[ht] at hC;obtain⟨p1,p2⟩:=hc.edge s ms;have hh:=(p2 t).2 hC;have lr:0<l.value (s.l.at t):=by
     rw[<-ht,lP];by_cases hB:0<=l.value p-l.value q
     .have:=cI e0 hB;grind
     .have:=cI (a:=1-e) (b:= -(l.value p-l.value q)) omb omb
      grind
    have hb:s.l.cutB s.v l=true:=by
     cases hb:s.l.cutB s.v l with
     |true=>rfl
     |false=>have:=IN p1 hb hh;grind
    have:=h ⟨s.l,s.l.cutV s.v l⟩ (rA.2 (.inr (r4.2 ⟨s,ms,hb,J⟩)));simp only at this;grind
  .rintro ⟨h1,h2⟩ s hs
   rcases rA.1 hs with rfl|hs
   .exact h2
   .obtain⟨s1,m1,_,rfl⟩:=r4.1 hs
    exact h1 s1 m1
 have hne: ∃p,bu (lA (eu l c) l v) p:=⟨q,(hD q).2 ⟨hq,lq⟩⟩;have hC: ∀p,iu (lA (eu l c) l v) p↔iu c p/\0<=l.value p:=by
  intro p;constructor
  .intro h
   refine⟨fun s hs=>?_,h ⟨l,v⟩ (rA.2 (.inl J))⟩;exact uG hne (fun p hp=>((hD p).1 hp).1 s hs) h
  .rintro ⟨h1,h2⟩ s hs
   rcases rA.1 hs with rfl|hs
   .exact h2
   .obtain⟨s1,m1,_,rfl⟩:=r4.1 hs
    exact h1 s1 m1
 refine⟨⟨hne,fun s hs=>?_,fun s hs=>?_⟩,hD⟩
 .rcases rA.1 hs with rfl|hs
  .exact hl
  .obtain⟨s1,m1,_,rfl⟩:=r4.1 hs
   exact hc.ok s1 m1
 .rcases rA.1 hs with rfl|hs
  .refine⟨v1,fun t=>?_⟩
   rw[hC];simp only;rw[v2];have h0:=ly hl.ne t;constructor
   .intro h;exact⟨h.2,by rw[h0];exact iR⟩
   .intro h;exact⟨KQ t,h.1⟩
  .obtain⟨s1,m1,hb,rfl⟩:=r4.1 hs
   obtain⟨p1,p2⟩:=hc.edge s1 m1;refine⟨D0 p1 hb,fun t=>?_⟩;rw[hC];simp only;rw[Ei hb,p2]
def bu.seg{c:ao}{e:Rat}(hq:bu c q)(hp:bu c p)(h0:0<=e)(h1:e<=1):bu c (kC q p e):=fun s hs=>by
 rw[lP];have a:=hq s hs;have b:=hp s hs;by_cases he:e=0
 .subst he;grind
 .have:=c9 (a:=e) omb b
  have:=cI (a:=1-e) (b:=s.l.value q) omb omb;grind
def KM{v:ar}{t:Rat}(h:v.ins t):(∃u,u<t/\v.has u)/\ ∃u,t<u/\v.has u:=by
 obtain⟨lo,hi,nl,nh⟩:=v;unfold ar.ins at h;unfold ar.has;refine⟨⟨if nl=true then t-1 else lo,?_⟩,⟨if nh=true then t+1 else hi,?_⟩⟩<;>cases nl<;>cases nh<;>simp at* <;>grind
def BK{a b c x y z:Nat}(h1:x*b=a*y)(h2:x*c=a*z)(g:Nat.gcd (Nat.gcd a b) c=1):a∣x:=by
 have e:x=Nat.gcd (Nat.gcd (x*a) (x*b)) (x*c):=by
  rw[Nat.gcd_mul_left,Nat.gcd_mul_left,g,jT]
 rw[e];exact Nat.dvd_gcd (Nat.dvd_gcd (Nat.dvd_mul_left ..) (h1▸Nat.dvd_mul_right ..)) (h2▸Nat.dvd_mul_right ..)
def axQ{a b c x y z:Int}(h1:a*y=b*x)(h2:a*z=c*x)(h3:b*z=c*y)
  (g1:Nat.gcd (Nat.gcd a.natAbs b.natAbs) c.natAbs=1)(g2:Nat.gcd (Nat.gcd x.natAbs y.natAbs) z.natAbs=1):
  (a=x/\b=y/\c=z)\/(a= -x/\b= -y/\c= -z):=by
 have n1:a.natAbs*y.natAbs=b.natAbs*x.natAbs:=by rw[<-fU,<-fU,h1]
 have n2:a.natAbs*z.natAbs=c.natAbs*x.natAbs:=by rw[<-fU,<-fU,h2]
 have n3:b.natAbs*z.natAbs=c.natAbs*y.natAbs:=by rw[<-fU,<-fU,h3]
 generalize ha:a.natAbs=A at*;generalize hb:b.natAbs=B at*;generalize hc:c.natAbs=C at*;generalize hx:x.natAbs=X at*;generalize hy:y.natAbs=Y at*;generalize hz:z.natAbs=Z at*;have gB:Nat.gcd (Nat.gcd B A) C=1:=by rw[jL B A];exact g1
 have gC:Nat.gcd (Nat.gcd C A) B=1:=by rw[Nat.gcd_assoc,jL];exact g1
 have gY:Nat.gcd (Nat.gcd Y X) Z=1:=by rw[jL Y X];exact g2
 have gZ:Nat.gcd (Nat.gcd Z X) Y=1:=by rw[Nat.gcd_assoc,jL];exact g2
 have e1:A=X:=Nat.dvd_antisymm (BK (x:=X) (y:=Y) (z:=Z) omb omb g1) (BK (x:=A) (y:=B) (z:=C) omb omb g2);have e2:B=Y:=Nat.dvd_antisymm (BK (x:=Y) (y:=X) (z:=Z) omb omb gB) (BK (x:=B) (y:=A) (z:=C) omb omb gY);have e3:C=Z:=Nat.dvd_antisymm (BK (x:=Z) (y:=X) (z:=Y) omb omb gC) (BK (x:=C) (y:=A) (z:=B) omb omb gZ);have s1:a=x\/a= -x:=by omega
 have s2:b=y\/b= -y:=by omega
 have s3:c=z\/c= -z:=by omega
 clear ha hb hc hx hy hz n1 n2 n3 g1 g2 gB gC gY gZ e1 e2 e3;have z1:= @pU x y;have z2:= @pU x z;have z3:= @pU y z;rcases s1 with rfl|rfl<;>rcases s2 with rfl|rfl<;>rcases s3 with rfl|rfl<;>grind
def Be{l:aa}(hl:l.ok)(hm:m.ok)(h: ∀t,l.value (m.at t)=0):l=m\/l=m.rev:=by
 have h0:=h 0;have h1:=h 1;rw[mv] at h0 h1;have hC:m.cutC l=0:=by grind
 have hK:m.cutK l=0:=by grind
 obtain⟨q,q1,q2⟩:=Dz hm.ne;have hn:=mO hm.ne;unfold aa.cutC at hC;rw[q2,iG] at hC;unfold aa.cutK at hK;simp only[aa.nor,aa.dir,ah.dot] at hK q1 hn hC;obtain⟨a,b,c⟩:=l;obtain⟨x,y,z⟩:=m;simp only at*;have e1:a*y=b*x:=by
  have:((a*y:Int):Rat)=((b*x:Int):Rat):=by rw[bS,bS];grind
  exact oK.1 this
 have e2:a*z=c*x:=by
  have:((a*z:Int):Rat)=((c*x:Int):Rat):=by rw[bS,bS];grind
  exact oK.1 this
 have e3:b*z=c*y:=by
  have:((b*z:Int):Rat)=((c*y:Int):Rat):=by rw[bS,bS];grind
  exact oK.1 this
 rcases axQ e1 e2 e3 hl.2 hm.2 with⟨rfl,rfl,rfl⟩|⟨rfl,rfl,rfl⟩
 .exact .inl J
 .exact .inr J
def aa.ok.rev{l:aa}(h:l.ok):l.rev.ok:=by
 obtain⟨h1,h2⟩:=h;refine⟨?_,?_⟩
 .simp only[aa.rev];omega
 .simp only[aa.rev,kQ];exact h2
def SW(l:aa): ∀c:ao,(∀s∈c,py l s<=0/\s.l≠l)-> ¬0<pj l c
 |[],_=>by simp[pj]
 |s::c,h=>by
  have h':=eJ.1 h;unfold pj;rw[if_neg h'.1.2];split
  .have:=h'.1.1;omega
  .exact SW l c h'.2
def OF{c:ao}{l:aa}(hc:bw c)(hl:l.ok)(hp:kw c l=none):
  (0<pj l c/\ ∀p,bu c p->0<l.value p)\/(¬0<pj l c/\ ∀p,bu c p->l.value p<0):=by
 have hoff:=fun p (h:bu c p)=>aAx hl.ne hp h;by_cases hq: ∃q,bu c q/\0<l.value q
 .left
  obtain⟨q,hq,lq⟩:=hq;have hall: ∀p,bu c p->0<l.value p:=by
   intro p h;have:=hoff p h;by_cases h0:0<l.value p
   .exact h0
   .exfalso
    have hn:l.value p<0:=by grind
    have e1:l.value q/(l.value q-l.value p)*(l.value q-l.value p)=l.value q:=by grind
    generalize l.value q/(l.value q-l.value p)=e at*;have f0:0<=e:=(iH (k:=l.value q-l.value p) omb).1 omb;have f1:e<=1:=by
     have:=(iH (s:=1-e) (k:=l.value q-l.value p) omb).1 omb;grind
    exact hoff _ (hq.seg h f0 f1) (by rw[lP];grind)
  refine⟨?_,hall⟩
  cases c with
  |nil=>simp[kw,n9] at hp
  |cons s c=>
   obtain⟨p1,p2⟩:=hc.edge s aQ;have hi:=oP p1;have hr:=uG hc.ne hall ((p2 _).1 hi.has);unfold pj;by_cases h0:py l s=0
   .rw[if_neg (by simpa using h0)]
    have hz:l.value (s.l.at s.v.sample)=0:=(qp _).1 h0;have hge: ∀t,s.v.has t->0<=l.value (s.l.at t):=fun t ht=>uG hc.ne hall ((p2 t).1 ht);obtain⟨⟨u1,m1,n1⟩,⟨u2,m2,n2⟩⟩:=KM hi;have g1:=hge _ n1;have g2:=hge _ n2;rw[mv] at hz g1 g2;have hK:s.l.cutK l=0:=by
     rcases jI (s.l.cutK l) with h|h|h
     .exact h
     .exfalso
      have:=c9 (a:=s.v.sample-u1) (b:=s.l.cutK l) omb h;grind
     .exfalso
      have:=c9 (a:=u2-s.v.sample) (b:= -s.l.cutK l) omb omb;grind
    have hz2: ∀t,l.value (s.l.at t)=0:=fun t=>by rw[mv,hK];rw[hK] at hz;grind
    rcases Be hl (hc.ok s aQ) hz2 with h|h
    .rw[if_pos h.symm];decide
    .exfalso
     have:=hall q hq;rw[h,en] at this;have:=hq s aQ;grind
   .rw[if_pos h0]
    have hz:l.value (s.l.at s.v.sample)≠0:=fun e=>h0 ((qp _).2 e);exact(nG _).2 omb
 .right
  have hall: ∀p,bu c p->l.value p<0:=fun p h=>by
   have:=hoff p h;have: ¬0<l.value p:=fun h'=>hq ⟨p,h,h'⟩;grind
  refine⟨SW l c fun s hs=>?_,hall⟩;obtain⟨p1,p2⟩:=hc.edge s hs;have hr:=uG (m:=l.rev) hc.ne (fun p h=>by rw[en];have:=hall p h;grind) ((p2 _).1 (oP p1).has);rw[en] at hr;constructor
  .have: ¬0<py l s:=fun h=>by have:=(nG _).1 h;grind
   omega
  .rintro rfl
   obtain⟨p,hp⟩:=hc.ne;have:=hall p hp;have:=hp s hs;grind
def oz{c:ao}{l:aa}(hc:bw c)(hl:l.ok):cw c l=true↔ ∃p,bu c p/\0<l.value p:=by
 unfold cw
 cases hp:kw c l with
 |some v=>exact⟨fun _=>(Mw hl.ne hp).1,fun _=>J⟩
 |none=>
  simp only[yi,hp,Option.isSome_none,gR,if_false,decide_eq_true_iff];rcases OF hc hl hp with⟨h1,h2⟩|⟨h1,h2⟩
  .refine⟨fun _=>?_,fun _=>h1⟩
   obtain⟨p,hp⟩:=hc.ne;exact⟨p,hp,h2 p hp⟩
  .refine⟨fun h=>absurd h h1,?_⟩
   rintro ⟨p,hp,h⟩;have:=h2 p hp;grind
def gz{c:ao}{l:aa}(hc:bw c)(hl:l.ok)(hb:cw c l=true):bw (bG c l)/\ ∀p,bu (bG c l) p↔bu c p/\0<l.value p:=by
 unfold bG
 cases hp:kw c l with
 |some v=>exact XN hc hl hp
 |none=>
  refine⟨hc,fun p=>?_⟩;unfold cw at hb;simp only[hp,yi,Option.isSome_none,gR,if_false,decide_eq_true_iff] at hb;rcases OF hc hl hp with⟨h1,h2⟩|⟨h1,h2⟩
  .exact⟨fun h=>⟨h,h2 p h⟩,fun h=>h.1⟩
  .exact absurd hb h1
def Sm{c:ao}{l:aa}(hl:l.ok)(hp:bu c p)(h0:l.value p=0):(∃q,bu c q/\0<l.value q)/\ ∃q,bu c q/\l.value q<0:=by
 have hn:=mO hl.ne;constructor
 .obtain⟨e,he,hm⟩:=hp.open l.nor
  refine⟨_,hm e (dZ he) iR,?_⟩;rw[jF,h0];have:=c9 he hn;grind
 .obtain⟨e,he,hm⟩:=hp.open ⟨-l.nor.x, -l.nor.y⟩
  refine⟨_,hm e (dZ he) iR,?_⟩;rw[jF,h0];have:=c9 he hn;simp only[ah.dot] at this⊢;grind
inductive aM1 (c:ao) (l:aa):Prop
 |left (h1:cw c l.rev=false) (h: ∀p,bu c p->0<l.value p)
 |right (h1:cw c l.rev=true) (h2:cw c l=false) (h: ∀p,bu c p->l.value p<0)
 |both (h1:cw c l.rev=true) (h2:cw c l=true) (g1:bw (bG c l)) (g2:bw (bG c l.rev))
   (e1: ∀p,bu (bG c l) p↔bu c p/\0<l.value p) (e2: ∀p,bu (bG c l.rev) p↔bu c p/\l.value p<0)
def zf{c:ao}{l:aa}(hc:bw c)(hl:l.ok):aM1 c l:=by
 have hr:=oz hc hl.rev;have hi:=oz hc hl
 cases h1:cw c l.rev with
 |false=>
  refine .left h1 fun p hp=>?_;have hn: ¬ ∃q,bu c q/\l.value q<0:=by
   rintro ⟨q,a,b⟩;have:=hr.2 ⟨q,a,by rw[en];grind⟩;rw[h1] at this;exact absurd this oma
  have n1: ¬l.value p<0:=fun h=>hn ⟨p,hp,h⟩;have n2:l.value p≠0:=fun h=>hn (Sm hl hp h).2;grind
 |true=>
  cases h2:cw c l with
  |false=>
   refine .right h1 h2 fun p hp=>?_;have hn: ¬ ∃q,bu c q/\0<l.value q:=by
    intro h;have:=hi.2 h;rw[h2] at this;exact absurd this oma
   have n1: ¬0<l.value p:=fun h=>hn ⟨p,hp,h⟩;have n2:l.value p≠0:=fun h=>hn (Sm hl hp h).1;grind
  |true=>
   obtain⟨g1,e1⟩:=gz hc hl h2;obtain⟨g2,e2⟩:=gz hc hl.rev h1;refine .both h1 h2 g1 g2 e1 fun p=>?_;rw[e2,en];constructor<;>rintro ⟨a,b⟩<;>exact⟨a,omb⟩
def Tr.restrict_A{l:aa}(X Y:Tr)(h:cw e l.rev=false):(Tr.node l X Y).restrict e=X.restrict e:=by
 rw[Tr.restrict,h];rfl
def Tr.restrict_B{l:aa}(X Y:Tr)(h:cw e l.rev=true)(h2:cw e l=false):(Tr.node l X Y).restrict e=Y.restrict e:=by
 rw[Tr.restrict,h,h2];rfl
def Tr.restrict_C{l:aa}(X Y:Tr)(h:cw e l.rev=true)(h2:cw e l=true):(Tr.node l X Y).restrict e=Tr.joinQ l (X.restrict (bG e l)) (Y.restrict (bG e l.rev)):=by
 rw[Tr.restrict,h,h2];rfl
def js:List aa->ao->Option ao
 |[],c=>some c
 |l::t,c=>if cw c l then js t (bG c l) else none
def LP: ∀{ls:List aa} {c e:ao},bw c->(∀l∈ls,l.ok)->js ls c=some e->bw e/\ ∀p,bu e p↔bu c p/\ ∀l∈ls,0<l.value p
 |[],c,e,hc,_,h=>by
  obtain rfl:c=e:=by simpa[js] using h
  exact⟨hc,fun p=>⟨fun h=>⟨h,fun l hl=>absurd hl omc⟩,fun h=>h.1⟩⟩
 |l::t,c,e,hc,hl,h=>by
  have hl':=eJ.1 hl;rw[js] at h;split at h
  .rename_i hb
   obtain⟨g1,g2⟩:=gz hc hl'.1 hb;obtain⟨k1,k2⟩:=LP g1 hl'.2 h;refine⟨k1,fun p=>?_⟩;rw[k2,g2,eJ,and_assoc]
  .exact absurd h omc
def I5: ∀{ls:List aa} {c:ao},bw c->(∀l∈ls,l.ok)->(∃p,bu c p/\ ∀l∈ls,0<l.value p)-> ∃e,js ls c=some e
 |[],c,_,_,_=>⟨c,J⟩
 |l::t,c,hc,hl,⟨p,h1,h2⟩=>by
  have hl':=eJ.1 hl;have h2':=eJ.1 h2;have hb:=(oz hc hl'.1).2 ⟨p,h1,h2'.1⟩;obtain⟨g1,g2⟩:=gz hc hl'.1 hb;rw[js,if_pos hb];exact I5 g1 hl'.2 ⟨p,(g2 p).2 ⟨h1,h2'.1⟩,h2'.2⟩
def UD{c:ao}(hc:bw c){s:bD}(hs:s∈c)(hm:m.ok)(h: ∀p,bu c p->0<m.value p)(hz:m.value (s.l.at s.v.sample)=0):m=s.l:=by
 obtain⟨p1,p2⟩:=hc.edge s hs;have hi:=oP p1;have hge: ∀t,s.v.has t->0<=m.value (s.l.at t):=fun t ht=>uG hc.ne h ((p2 t).1 ht);obtain⟨⟨u1,m1,n1⟩,⟨u2,m2,n2⟩⟩:=KM hi;have g1:=hge _ n1;have g2:=hge _ n2;rw[mv] at hz g1 g2;have hK:s.l.cutK m=0:=by
  rcases jI (s.l.cutK m) with h|h|h
  .exact h
  .exfalso
   have:=c9 (a:=s.v.sample-u1) (b:=s.l.cutK m) omb h;grind
  .exfalso
   have:=c9 (a:=u2-s.v.sample) (b:= -s.l.cutK m) omb omb;grind
 have hz2: ∀t,m.value (s.l.at t)=0:=fun t=>by rw[mv,hK];rw[hK] at hz;grind
 rcases Be hm (hc.ok s hs) hz2 with h'|h'
 .exact h'
 .exfalso
  obtain⟨q,hq⟩:=hc.ne;have:=h q hq;rw[h',en] at this;have:=hq s hs;grind
def gg(l:aa):List aa->ar->Option ar
 |[],v=>some v
 |m::t,v=>if m=l then gg l t v else if l.cutB v m then gg l t (l.cutV v m) else none
def d8(c:List aa)(p:ah):Prop:= ∀m∈c,0<m.value p
def Eh(l:aa): ∀(c:List aa) (v w:ar),v.Pos->gg l c v=some w->
  w.Pos/\(∀t,w.ins t↔v.ins t/\ ∀m∈c,m≠l->0<m.value (l.at t))
 |[],v,w,hv,h=>by
  obtain rfl:v=w:=by simpa[gg] using h
  exact⟨hv,fun t=>⟨fun h=>⟨h,fun s hs=>absurd hs omc⟩,fun h=>h.1⟩⟩
 |m::c,v,w,hv,h=>by
  rw[gg] at h;split at h
  .rename_i hm
   obtain⟨h1,h2⟩:=Eh l c _ w hv h;refine⟨h1,fun t=>?_⟩;rw[h2,eJ];exact⟨fun h=>⟨h.1,fun h'=>absurd hm h',h.2⟩,fun h=>⟨h.1,h.2.2⟩⟩
  .rename_i hm
   split at h
   .rename_i hb
    obtain⟨h1,h2⟩:=Eh l c _ w (D0 hv hb) h;refine⟨h1,fun t=>?_⟩;rw[h2,RO hb,eJ,and_assoc];exact⟨fun h=>⟨h.1,fun _=>h.2.1,h.2.2⟩,fun h=>⟨h.1,h.2.1 hm,h.2.2⟩⟩
   .exact absurd h omc
def Ls(l:aa): ∀(c:List aa) (v:ar),v.Pos->gg l c v=none-> ∀t,v.has t-> ¬ ∀m∈c,m≠l->0<m.value (l.at t)
 |[],v,hv,h=>by simp[gg] at h
 |m::c,v,hv,h=>by
  intro t ht hd;have hd':=eJ.1 hd;rw[gg] at h;split at h
  .exact Ls l c _ hv h t ht hd'.2
  .rename_i hm
   split at h
   .rename_i hb
    exact Ls l c _ (D0 hv hb) h t ((Ei hb t).2 ⟨ht,dZ (hd'.1 hm)⟩) hd'.2
   .rename_i hb
    have:=IN hv ozt ht;have:=hd'.1 hm;grind
def jv(c:List aa):Bool:=c.isEmpty||c.any (fun l=>(gg l c ar.all).isSome)
def SN: ∀{ls:List aa} {c e:ao},js ls c=some e-> ∀s∈e,s.l∈ls\/ ∃s'∈c,s'.l=s.l
 |[],c,e,h,s,hs=>by
  obtain rfl:c=e:=by simpa[js] using h
  exact .inr ⟨s,hs,J⟩
 |l::t,c,e,h,s,hs=>by
  rw[js] at h;split at h
  .rcases SN h s hs with h1|⟨s',h1,h2⟩
   .exact .inl (aJ _ h1)
   .unfold bG at h1
    split at h1
    .rcases rA.1 h1 with rfl|h1
     .exact .inl (by rw[<-h2];exact aQ)
     .obtain⟨s1,m1,_,rfl⟩:=r4.1 h1
      exact .inr ⟨s1,m1,h2⟩
    .exact .inr ⟨s',h1,h2⟩
  .exact absurd h omc
def F4{c:List aa}(hok: ∀l∈c,l.ok)(hne: ∃p,d8 c p): ∃e,js c []=some e/\bw e/\(∀p,bu e p↔d8 c p)/\ ∀s∈e,s.l∈c/\(gg s.l c ar.all).isSome=true:=by
 obtain⟨p,hp⟩:=hne;obtain⟨e,he⟩:=I5 bw.nil hok ⟨p,fun s hs=>absurd hs omc,hp⟩;obtain⟨g1,g2⟩:=LP bw.nil hok he;have g3: ∀p,bu e p↔d8 c p:=fun p=>by
  rw[g2];exact⟨fun h=>h.2,fun h=>⟨fun s hs=>absurd hs omc,h⟩⟩
 refine⟨e,he,g1,g3,fun s hs=>?_⟩;have hm:s.l∈c:=by
  rcases SN he s hs with h|⟨_,h,_⟩
  .exact h
  .exact absurd h omc
 refine⟨hm,?_⟩
 cases hp:gg s.l c ar.all with
 |some w=>rfl
 |none=>
  exfalso;obtain⟨p1,p2⟩:=g1.edge s hs;have hC:=(p2 s.v.sample).1 (oP p1).has;refine Ls s.l c _ AE hp s.v.sample (KQ _) fun m hmc hne=>?_;have hall: ∀p,bu e p->0<m.value p:=fun p hp=>(g3 p).1 hp m hmc;have h0:=uG g1.ne hall hC;have h1:m.value (s.l.at s.v.sample)≠0:=fun hz=>hne (UD g1 hs (hok m hmc) hall hz);grind
def Bj{c:List aa}(hok: ∀l∈c,l.ok):jv c=true↔ ∃p,d8 c p:=by
 unfold jv;rw[fN,qY,gK];constructor
 .rintro (rfl|⟨l,hl,h⟩)
  .exact⟨⟨0,0⟩,fun m hm=>absurd hm omc⟩
  .obtain⟨w,hw⟩:=rZ.1 h
   obtain⟨w1,w2⟩:=Eh l c _ w AE hw;have hi:=((w2 w.sample).1 (oP w1)).2;have h0:=ly (hok l hl).ne w.sample;have hd:bu ((c.filter (fun m=>decide (m≠l))).map (fun m=>(⟨m,ar.all⟩:bD))) (l.at w.sample):=by
    intro s hs;obtain⟨m,hm,rfl⟩:=aU.1 hs;rw[lX,decide_eq_true_iff] at hm;exact hi m hm.1 hm.2
   obtain⟨e,he,ho⟩:=hd.open l.nor;refine⟨cD (l.at w.sample) l.nor e,fun m hm=>?_⟩;by_cases hml:m=l
   .subst hml
    rw[jF,h0];have:=c9 he (mO (hok m hl).ne);grind
   .exact ho e (dZ he) iR ⟨m,ar.all⟩ (aU.2 ⟨m,lX.2 ⟨hm,by simpa using hml⟩,J⟩)
 .intro hne
  obtain⟨e,h1,h2,h3,h4⟩:=F4 hok hne
  cases c with
  |nil=>exact .inl J
  |cons l c=>
   right
   cases e with
   |nil=>
    exfalso;have:=(h3 (l.at 0)).1 (fun s hs=>absurd hs omc) l aQ;rw[ly (hok l aQ).ne] at this;exact absurd this oma
   |cons s e=>
    obtain⟨a,b⟩:=h4 s aQ;exact⟨s.l,a,b⟩
def n8(out:List aa)(l:aa):Nat:=(out.takeWhile (fun x=>decide (gr x.dir l.dir<0))).length
def qn(out:List aa)(l:aa):List aa:=if out[n8 out l]? =some l then out else out.take (n8 out l)++l::out.drop (n8 out l)
def ot(c:List aa):List aa->List aa->List aa
 |[],out=>out
 |l::t,out=>ot c t (if(gg l c ar.all).isSome then qn out l else out)
def cj(c:List aa):List aa:=ot c c []
def IH{out:List aa}{l:aa}:m∈qn out l↔m=l\/m∈out:=by
 unfold qn;split
 .rename_i h
  exact⟨fun h=> .inr h,fun h'=>h'.elim (fun e=>e▸aK h) id⟩
 .generalize n8 out l=n
  have h:=kR n out;rw[bZ,aW];constructor
  .rintro (h1|h1|h1)
   .exact .inr (eK h1)
   .exact .inl h1
   .exact .inr (iZ h1)
  .rintro (h1|h1)
   .exact .inr (.inl h1)
   .rw[<-h,bZ] at h1
    rcases h1 with h1|h1
    .exact .inl h1
    .exact .inr (.inr h1)
def UA{c:List aa}{m:aa}: ∀{t out:List aa},m∈ot c t out↔m∈out\/m∈t/\(gg m c ar.all).isSome=true
 |[],out=>by simp[ot]
 |l::t,out=>by
  rw[ot,UA];split
  .rename_i h
   rw[IH,aW];constructor
   .rintro ((rfl|h1)|⟨h1,h2⟩)
    .exact .inr ⟨.inl J,h⟩
    .exact .inl h1
    .exact .inr ⟨.inr h1,h2⟩
   .rintro (h1|⟨rfl|h1,h2⟩)
    .exact .inl (.inr h1)
    .exact .inl (.inl J)
    .exact .inr ⟨h1,h2⟩
  .rename_i h
   rw[aW];constructor
   .rintro (h1|⟨h1,h2⟩)
    .exact .inl h1
    .exact .inr ⟨.inr h1,h2⟩
   .rintro (h1|⟨rfl|h1,h2⟩)
    .exact .inl h1
    .exact absurd h2 h
    .exact .inr ⟨h1,h2⟩
def ke{c:List aa}:m∈cj c↔m∈c/\(gg m c ar.all).isSome=true:=by
 unfold cj;rw[UA];simp
def CY{c:List aa}(hok: ∀l∈c,l.ok)(hne: ∃p,d8 c p)(p:ah):d8 (cj c) p↔d8 c p:=by
 constructor
 .intro h
  obtain⟨e,h1,h2,h3,h4⟩:=F4 hok hne;exact(h3 p).1 fun s hs=>h s.l (ke.2 (h4 s hs))
 .intro h m hm;exact h m (ke.1 hm).1
def nH(c:List aa)(l:aa):Int:=if jv (c++[l])&&jv (c++[l.rev]) then 0 else if jv (c++[l]) then 1 else-1
def Tr.restrictL:Tr->List aa->Tr
 | .leaf b,_=> .leaf b
 | .node l x y,c=>if nH c l=1 then x.restrictL c else if nH c l= -1 then y.restrictL c else joinQ l (x.restrictL (cj (c++[l]))) (y.restrictL (cj (c++[l.rev])))
def lH{c:List aa}{l:aa}:d8 (c++[l]) p↔d8 c p/\0<l.value p:=by
 unfold d8;rw[sU];simp
def jp{c:List aa}{l:aa}(hok: ∀m∈c,m.ok)(hl:l.ok): ∀m∈c++[l],m.ok:=by
 rw[sU];exact⟨hok,by simpa using hl⟩
def Tr.restrictL_eq: ∀(t:Tr) (c:List aa) (d:ao),t.all aa.ok->(∀l∈c,l.ok)->bw d->(∀p,bu d p↔d8 c p)->t.restrictL c=t.restrict d
 | .leaf b,c,d,_,_,_,_=>rfl
 | .node l x y,c,d,h,hc,hd,he=>by
  obtain⟨hl,hx,hy⟩:=h;have i1:=Bj (jp hc hl);have i2:=Bj (jp hc hl.rev);obtain⟨p0,hp0⟩:=hd.ne;rcases zf hd hl with⟨a1,a⟩|⟨a1,a2,a⟩|⟨a1,a2,ag1,ag2,ae1,ae2⟩
  .have b1:jv (c++[l])=true:=i1.2 ⟨p0,lH.2 ⟨(he p0).1 hp0,a p0 hp0⟩⟩
   have b2:jv (c++[l.rev])=false:=by
    rw[<-jX,i2];rintro ⟨p,hp⟩;have hp:=lH.1 hp;have:=a p ((he p).2 hp.1);rw[en] at hp;grind
   rw[Tr.restrict_A _ _ a1,Tr.restrictL,nH,b1,b2];exact x.restrictL_eq c d hx hc hd he
  .have b2:jv (c++[l.rev])=true:=i2.2 ⟨p0,lH.2 ⟨(he p0).1 hp0,by rw[en];have:=a p0 hp0;grind⟩⟩
   have b1:jv (c++[l])=false:=by
    rw[<-jX,i1];rintro ⟨p,hp⟩;have hp:=lH.1 hp;have:=a p ((he p).2 hp.1);grind
   rw[Tr.restrict_B _ _ a1 a2,Tr.restrictL,nH,b1,b2];exact y.restrictL_eq c d hy hc hd he
  .have n1: ∃p,d8 (c++[l]) p:=by
    obtain⟨p,hp⟩:=ag1.ne;exact⟨p,lH.2 ⟨(he p).1 ((ae1 p).1 hp).1,((ae1 p).1 hp).2⟩⟩
   have n2: ∃p,d8 (c++[l.rev]) p:=by
    obtain⟨p,hp⟩:=ag2.ne;exact⟨p,lH.2 ⟨(he p).1 ((ae2 p).1 hp).1,by rw[en];have:=((ae2 p).1 hp).2;grind⟩⟩
   rw[Tr.restrict_C _ _ a1 a2,Tr.restrictL,nH,i1.2 n1,i2.2 n2];have k1:=x.restrictL_eq (cj (c++[l])) (bG d l) hx (fun m hm=>jp hc hl m (ke.1 hm).1) ag1 fun p=>by
    rw[CY (jp hc hl) n1,ae1,lH,he]
   have k2:=y.restrictL_eq (cj (c++[l.rev])) (bG d l.rev) hy (fun m hm=>jp hc hl.rev m (ke.1 hm).1) ag2 fun p=>by
    rw[CY (jp hc hl.rev) n2,ae2,lH,he,en];constructor<;>rintro ⟨a,b⟩<;>exact⟨a,omb⟩
   rw[k1,k2];rfl
def crossI(l m:aa):Int:=l.a*m.b-m.a*l.b
def meetX(l m:aa):Int:=l.b*m.c-m.b*l.c
def meetY(l m:aa):Int:=m.a*l.c-l.a*m.c
def cx(l m:aa):ah:=if crossI l m=0 then⟨0,0⟩ else⟨(meetX l m:Rat)/(crossI l m:Rat),(meetY l m:Rat)/(crossI l m:Rat)⟩
def iC(l:aa)(p:ah):Rat:=p.dot l.dir/l.dir.dot l.dir
def Mc(l:aa):l.dir.dot l.dir=l.nor.dot l.nor:=by
 simp only[aa.dir,aa.nor,ah.dot];grind
def DK{l:aa}(h:l.Ne):0<l.dir.dot l.dir:=by rw[Mc];exact mO h
def u9(l m:aa):((crossI l m:Int):Rat)=(l.a:Rat)*m.b-(m.a:Rat)*l.b:=by
 unfold crossI;rw[iX,bS,bS]
def Lj(l m:aa):((meetX l m:Int):Rat)=(l.b:Rat)*m.c-(m.b:Rat)*l.c:=by
 unfold meetX;rw[iX,bS,bS]
def Sb(l m:aa):((meetY l m:Int):Rat)=(m.a:Rat)*l.c-(l.a:Rat)*m.c:=by
 unfold meetY;rw[iX,bS,bS]
def HI(l m:aa):l.cutK m= -((crossI l m:Int):Rat):=by
 rw[u9];simp only[aa.cutK,aa.nor,aa.dir,ah.dot];grind
def Vc(l m:aa):m.dir.cross l.dir=l.cutK m:=by
 simp only[aa.cutK,aa.nor,aa.dir,ah.dot,ah.cross];grind
def UB{l:aa}:(⟨-((l.c:Rat)/l.dir.dot l.dir)*(l.a:Rat), -((l.c:Rat)/l.dir.dot l.dir)*(l.b:Rat)⟩:ah)=l.base:=by
 unfold aa.base;rw[Mc];simp only[aa.nor,ah.scale,ah.mk.injEq];constructor<;>grind
def AQ(l:aa)(t:Rat):cD l.base l.dir t=l.at t:=by
 simp only[cD,aa.at,ah.add,ah.scale,ah.mk.injEq];constructor<;>grind
def Fl{l:aa}(hl:l.Ne)(h:crossI l m≠0):iC l (cx l m)= -(l.cutC m/l.cutK m):=by
 have hd:((crossI l m:Int):Rat)≠0:=fun e=>h (cM.1 e);have hn:=DK hl;obtain⟨q,q1,q2⟩:=Dz hl;rw[HI];unfold iC cx aa.cutC;rw[if_neg h,q2,iG,Lj,Sb];have hc:=u9 l m;rw[Mc] at hn⊢;simp only[aa.dir,aa.nor,ah.dot] at hn q1⊢;generalize ((crossI l m:Int):Rat)=d at*;generalize (l.a:Rat)=a at*;generalize (l.b:Rat)=b at*;generalize (l.c:Rat)=c at*;generalize (m.a:Rat)=x at*;generalize (m.b:Rat)=y at*;generalize (m.c:Rat)=z at*;have hn':a*a+b*b≠0:=by grind
 have e:((b*z-y*c)/d*b+(x*c-a*z)/d* -a)=((b*z-y*c)*b-(x*c-a*z)*a)/d:=by grind
 rw[e];have k1:(b*z-y*c)*b-(x*c-a*z)*a=(a*a+b*b)*(x*(a*q)+y*(b*q)+z):=by grind
 rw[k1];grind
def YC{l:aa}(hl:l.Ne)(h:crossI l m≠0):iC l (cx l m)*((crossI l m*(l.a*l.a+l.b*l.b):Int):Rat)=((meetX l m*l.b-meetY l m*l.a:Int):Rat):=by
 have hd:((crossI l m:Int):Rat)≠0:=fun e=>h (cM.1 e);have hn:=DK hl;unfold iC cx;rw[if_neg h];simp only[bS,iX,lS];simp only[aa.dir,ah.dot] at hn⊢;generalize ((crossI l m:Int):Rat)=d at*;generalize ((meetX l m:Int):Rat)=x at*;generalize ((meetY l m:Int):Rat)=y at*;generalize (l.a:Rat)=a at*;generalize (l.b:Rat)=b at*;have hn':b*b+ -a* -a≠0:=by grind
 grind
def Ka(l m:aa)(t:List aa)(v:ar):gg l (m::t) v=if m=l then gg l t v else if l.cutB v m then gg l t (l.cutV v m) else none:=rfl
def qd(v:ar)(t:Rat):ar:=if v.nl=true\/0<bE t v.lo then⟨t,v.hi,false,v.nh⟩ else v
def pO(v:ar)(t:Rat):ar:=if v.nh=true\/bE t v.hi<0 then⟨v.lo,t,v.nl,false⟩ else v
structure ir (v:ar):Prop where
 lo:v.nl=true->v.lo=0
 hi:v.nh=true->v.hi=0
def avF(a b:Rat):0<bE a b↔b<a:=by
 unfold bE;split
 .constructor
  .intro h;exact absurd h oma
  .intro h;grind
 .split
  .exact⟨fun _=>by assumption,fun _=>by decide⟩
  .constructor
   .intro h;exact absurd h oma
   .intro h;exact absurd h ome
def LF(a b:Rat):bE a b<0↔a<b:=by
 unfold bE;split
 .exact⟨fun _=>by assumption,fun _=>by decide⟩
 .split
  .constructor
   .intro h;exact absurd h oma
   .intro h;grind
  .constructor
   .intro h;exact absurd h oma
   .intro h;exact absurd h ome
def QI{v:ar}(h:ir v)(t:Rat):qd v t=v.meet ⟨t,0,false,true⟩:=by
 obtain⟨lo,hi,nl,nh⟩:=v;obtain⟨h1,h2⟩:=h;unfold qd ar.meet;simp only[avF] at*
 cases nl<;>cases nh<;>simp at* <;>(try (split<;>split<;>simp_all<;>grind))<;>grind
def TW{v:ar}(h:ir v)(t:Rat):pO v t=v.meet ⟨0,t,true,false⟩:=by
 obtain⟨lo,hi,nl,nh⟩:=v;obtain⟨h1,h2⟩:=h;unfold pO ar.meet;simp only[LF] at*
 cases nl<;>cases nh<;>simp at* <;>(try (split<;>split<;>simp_all<;>grind))<;>grind
def ir.all:ir ar.all:=⟨fun _=>J,fun _=>J⟩
def ir.lo'{v:ar}(h:ir v)(t:Rat):ir (qd v t):=by
 obtain⟨lo,hi,nl,nh⟩:=v;unfold qd;split
 .exact⟨fun h=>by simp at h,h.hi⟩
 .exact h
def ir.hi'{v:ar}(h:ir v)(t:Rat):ir (pO v t):=by
 obtain⟨lo,hi,nl,nh⟩:=v;unfold pO;split
 .exact⟨h.lo,fun h=>by simp at h⟩
 .exact h
def B6{l:aa}{v:ar}(h:crossI l m=0):l.cutV v m=v/\(l.cutB v m=true↔0<m.value l.base):=by
 have hk:l.cutK m=0:=by rw[HI,h];rfl
 exact C5 v hk
def aFV{l:aa}{v:ar}(hl:l.Ne)(hz:ir v)(h:0<m.dir.cross l.dir):crossI l m≠0/\l.cutV v m=qd v (iC l (cx l m))/\l.cutB v m=!(qd v (iC l (cx l m))).empty:=by
 rw[Vc] at h;have hc:crossI l m≠0:=fun e=>by rw[HI,e] at h;exact absurd h oma
 obtain⟨h1,h2⟩:=Dc v h;refine⟨hc,?_,?_⟩
 .rw[QI hz,Fl hl hc,h1]
 .rw[QI hz,Fl hl hc,<-h1]
  rw[<-EQ] at h2
  cases hb:l.cutB v m<;>cases he:(l.cutV v m).empty<;>simp_all
def aFP{l:aa}{v:ar}(hl:l.Ne)(hz:ir v)(h0:crossI l m≠0)(h: ¬0<m.dir.cross l.dir):l.cutV v m=pO v (iC l (cx l m))/\l.cutB v m=!(pO v (iC l (cx l m))).empty:=by
 rw[Vc] at h;have hk:l.cutK m≠0:=fun e=>by
  rw[HI] at e;have:((crossI l m:Int):Rat)=0:=by grind
  exact h0 (cM.1 this)
 obtain⟨h1,h2⟩:=D1 (l:=l) (m:=m) v omb;refine⟨?_,?_⟩
 .rw[TW hz,Fl hl h0,h1]
 .rw[TW hz,Fl hl h0,<-h1]
  rw[<-EQ] at h2
  cases hb:l.cutB v m<;>cases he:(l.cutV v m).empty<;>simp_all
def relo(fl:Nat->Bool)(o:aA):aA:={o with lo:=fl o.b}
structure iD (P:Program) (f:FuncId) (vs:List Value) (M:List aA) (G:Gh) (K:Value->List aA->Gh->Prop):Prop where
 able:ua P f
 run: ∀w,bI ⟨w,G,M.map (·.b),[],[],none,fun _=>none⟩ (asB M) G w->
  Calls P f ⟨vs⟩ w fun e w'=> ∃v own' G',e= .returned v/\bI ⟨w,G,M.map (·.b),[],[],none,fun _=>none⟩ own' G' w'/\K v own' G'
def iw(M:List aA)(b:Nat):Bool:=M.all fun m=>!Nat.beq m.b b||m.lo
def bI.calledO{rest:List aA}(h:bI C (M++rest) G w)(k:bI ⟨w,G,M.map (·.b),[],[],none,fun _=>none⟩ own' G' w'):
  bI C (own'.map (relo (iw M))++rest) G' w':=by
 have hsz:w.heap.size<=w'.heap.size:=k.size;have hnd:=h.nd;have inM: ∀b,b∈M.map (·.b)-> ∀o∈rest,o.b≠b:=fun b hb o ho e=>by
  obtain⟨m,hm,rfl⟩:=aU.1 hb;exact(gN.1 hnd).2.2 m hm o ho e.symm
 have bnd: ∀o∈own',o.b∉M.map (·.b)->w.heap.size<=o.b:=fun o ho hb=>by
  obtain⟨_,_,h3,h4⟩:=k.hown o ho
  cases hlo:o.lo with
  |true=>exact h3 hlo
  |false=>exact absurd (h4 hlo) hb
 refine⟨k.os.trans h.os,k.tape.trans h.tape,k.output.trans h.output,cX h.size hsz,?_,k.sub,h.gle.trans k.gle,?_,?_,?_,cX h.dr k.dr,fun p hp=>⟨(h.ext p hp).1,by rw[k.keep _ (i6 (h.ext p hp).2) (h.extM hp)];exact(h.ext p hp).2⟩⟩
 .intro b hb hm
  have hs:=h.size;have hnM:b∉M.map (·.b):=fun hb'=>by
   obtain⟨m,hmM,rfl⟩:=aU.1 hb';obtain⟨_,_,h3,h4⟩:=h.hown m (bU _ hmM)
   cases hlo:m.lo with
   |true=>have:=h3 hlo;omega
   |false=>exact hm (h4 hlo)
  rw[k.keep b omN hnM];exact h.keep b hb hm
 .intro b hb;have:=h.size;rw[k.gold b omN];exact h.gold b hb
 .intro o ho
  have hs:=h.size;rcases bZ.1 ho with ho|ho
  .obtain⟨o',ho',rfl⟩:=aU.1 ho
   obtain⟨k1,k2,k3,k4⟩:=k.hown _ ho';refine⟨k1,k2,fun hl=>?_,fun hl=>?_⟩
   .show C.w0.heap.size<=o'.b
    by_cases hb:o'.b∈M.map (·.b)
    .obtain⟨m,hm,hmb⟩:=aU.1 hb
     have hl':iw M o'.b=true:=hl;have:=dV.1 hl' m hm;simp only[hmb,fN,iW,oY] at this;obtain⟨_,_,h3,_⟩:=h.hown m (bU _ hm);rw[<-hmb];exact h3 (by rcases this with h|h;(cases h);(exact h))
    .have:=bnd o' ho' hb;omega
   .show o'.b∈C.mb
    have hl':iw M o'.b=false:=hl;obtain⟨m,hm,hmb⟩:=sT.1 hl';simp only[fN,iW,not_or] at hmb;obtain⟨h1,h2⟩:=hmb;have e:m.b=o'.b:=by
     cases hq:Nat.beq m.b o'.b with
     |true=>exact bX hq
     |false=>exact absurd hq h1
    obtain⟨_,_,_,h4⟩:=h.hown m (bU _ hm);rw[<-e];exact h4 (by cases hq:m.lo with
     |true=>exact absurd hq h2
     |false=>rfl)
  .obtain⟨h1,h2,h3⟩:=h.hown o (bQ _ ho)
   have hnM:o.b∉M.map (·.b):=fun hb=>inM _ hb o ho J;exact⟨by rw[k.keep _ (i6 h1) hnM];exact h1,by rw[k.gold _ (i6 h1)];exact h2,h3⟩
 .refine gN.2 ⟨?_,(gN.1 hnd).2.1,?_⟩
  .rw[sZ];exact k.nd
  .intro x hx y hy
   obtain⟨o',ho',rfl⟩:=aU.1 hx;show o'.b≠y.b;by_cases hb:o'.b∈M.map (·.b)
   .exact fun e=>inM _ hb y hy e.symm
   .have h1:=bnd o' ho' hb
    have h2:=i6 (h.hown y (bQ _ hy)).1;omega
def sF(C:aH)(K:Value->List aA->Gh->Prop):Ending->World->Prop:=fun e w'=> ∃v own' G',e= .returned v/\bI C own' G' w'/\K v own' G'
def iD.introR{fn:Func}{c:Code}{m:Nat}(hf:P.funcs[f]? =some fn)(hb:fn.body=some c)(hn:(fn.name== "runtime.NumGoroutine")=false)(hm:fn.ntmps=m)(hlen:Nat.ble vs.length m=true)
  (h: ∀C:aH,C.G0=G->C.mb=M.map (·.b)->C.rd=none->(C.fx=fun _=>none)->St C m (oc 0 vs) (asB M) G (c.wp P (fC C P fn (sF C K)))):iD P f vs M G K:=by
 refine⟨⟨fn,hf,hn,by simp[hb]⟩,fun w hw=>?_⟩;have hlen':vs.length<=m:=by simpa using hlen
 have:=calls_of_wp (P:=P) (f:=f) (args:=⟨vs⟩) (w:=w) (R:=sF ⟨w,G,M.map (·.b),[],[],none,fun _=>none⟩ K) hf hb (wp_mono (h ⟨w,G,M.map (·.b),[],[],none,fun _=>none⟩ J J J J _ w
  ⟨hw,by simp;omega,fun k v hk=>by
   obtain⟨j,rfl,hj⟩:=zl vs 0 k v hk;have hj':=(aR.1 hj).1;rw[mZ omP];simpa using hj,J⟩) fun _ _ _ k=>k J)
 exact this
def iD.intro{fn:Func}{c:Code}{m:Nat}(hf:P.funcs[f]? =some fn)(hb:fn.body=some c)(hn:(fn.name== "runtime.NumGoroutine")=false)(hm:fn.ntmps=m)(hlen:Nat.ble vs.length m=true)
  (h: ∀C:aH,C.G0=G->C.mb=M.map (·.b)->St C m (oc 0 vs) (asB M) G (c.wp P (fC C P fn (sF C K)))):iD P f vs M G K:=
 iD.introR hf hb hn hm hlen fun C a b _ _=>h C a b
section
variable {own:List aA}
variable {t:TypeId}{gd:Option (Nat×Bool)}
def y4{fn:Func}(hr:ku P fr own fn.results.toList vs)(own2 own3:List aA)(hp:own.Perm own2)(hs:own3.Sublist own2)(hk:K (pf vs) own3 G):St C n fr own G (fC C P fn (sF C K) .ret):=
 fun a w rl hmk=>⟨rl.df.trans hmk,_,uA hr rl.fr rl.h,_,own3,G,J,(rl.h.perm hp).drop hs,hk⟩
def Nf{c2:List Value}{rest:List aA}(ho:aE fr fo=some (.func (.func f) ⟨c1⟩ ⟨c2⟩))(hv:fI fr args.toList=some vs)
  (hp:own.Perm (M++rest))(hF:iD P f (c1++vs++c2) M G K)(hd:co n dst=true)(h: ∀v own1 (G':Gh),[GE G G']->K v own1 G'->St C n (put fr dst v) (own1.map (relo (iw M))++rest) G' Φ):
  Ch P C n fr own G ⟨dst, .call ⟨.value fo,args,tys⟩,ty',pos,af,gd⟩ Φ:=by
 intro a w Q rl;have h2:=Hp (P:=P) (dst:=dst) (ty':=ty') (pos:=pos) (af:=af) (gd:=gd) (tys:=tys) (w:=w) hF.able rl.fr ho hv;simp only[Oper.wp,h2,Oper.upon];have hh0:=rl.h.perm hp;refine(hF.run w hh0.lend).mono ?_;rintro e w' ⟨v,own1,G',rfl,hh,hK⟩;exact @h v own1 G' ⟨hh.gle⟩ hK _ _ ((rl.heap (hh0.calledO hh)).put _ hd)
def yc{rest:List aA}(ho:aE fr fo=some (.func (.func f) #[] #[]))(hv:fI fr args.toList=some vs)
  (hp:own.Perm (M++rest))(hF:iD P f vs M G K)(hd:co n dst=true)(h: ∀v own1 (G':Gh),[GE G G']->K v own1 G'->St C n (put fr dst v) (own1.map (relo (iw M))++rest) G' Φ):
  Ch P C n fr own G ⟨dst, .call ⟨.value fo,args,tys⟩,ty',pos,af,gd⟩ Φ:=
 Nf (c1:=[]) (c2:=[]) ho hv hp ozs hd h
def aHo{b:Nat}{cs:List Value}{lo:Bool}(hC:C.mb=[])(h:St C n fr (⟨b,cs,ty,true⟩::own) G Φ):St C n fr (⟨b,cs,ty,lo⟩::own) G Φ:=by
 intro a w rl
 cases lo with
 |true=>exact h a w rl
 |false=>
  have:=(rl.h.hown _ aQ).2.2.2 J;rw[hC] at this;cases this
end
section
variable {own:List aA}
variable {t:TypeId}{gd:Option (Nat×Bool)}{e:Nat}
def E9{v:Value}{b k:Nat}{cs:List Value}{lo:Bool}(hx:aE fr x=some (.pointer (some ⟨b,off,none⟩)))(hy:aE fr y=some v)[hs:li P t k][ho:jc own b cs ty lo]
  (hc:cH cs off (aO v)=cs')(hu:iE own b cs ty lo cs' own')(hk:(aO v).length=k)(hl:off+k<=cs.length)(hf:(aO v).all flat=true)(hd:co n dst=true)(h:St C n (put fr dst undef) own' G Φ):
  Ch P C n fr own G ⟨dst, .store t x y,ty',pos,af,gd⟩ Φ:=Fd hx hy (hc▸hu) hk hl hf hd h
def A9{v:Value}{b:Nat}{cs:List Value}{lo:Bool}(hx:aE fr x=some (.pointer (some ⟨b,off,none⟩)))(hy:aE fr y=some v)[hs:kO P t][ho:jc own b cs ty lo]
  (hc:cs.set off v=cs')(hu:iE own b cs ty lo cs' own')(hl:off<cs.length)(hf:flat v=true)(hd:co n dst=true)(h:St C n (put fr dst undef) own' G Φ):
  Ch P C n fr own G ⟨dst, .store t x y,ty',pos,af,gd⟩ Φ:=vD hx hy (hc▸hu) hl hf hd h
def aH6[hT:cE P t e s by_](hx:aE fr x=some (.slice ad len cap)):
  Yd P C fr own G ⟨dst, .call ⟨.builtin .cap, #[x], #[t]⟩,ty',pos,af,gd⟩ (.int .i64 cap):=by
 intro a w hf hh;simp only[execOp,resolve,jZ,bY,iU,bF hf hx];have h1:(Builtin.cap_ #[t] ty' #[.slice ad len cap]).run P w= .ok (.int .i64 cap) w:=by
  simp only[Builtin.cap_];show(underlying t>>=_).run P w=_;rw[bj (hT.u w)];rfl
 exact dh h1
def aBs[hT:cE P t e s by_]{b l c m:Nat}{cs:List Value}(hm:Nat.min l2 l=m)
  (hb:w.heap[b]? =some (.cells ⟨cs⟩ ty (0,0)))(hsy:(Builtin.firstCells s m (.slice ad2 l2 c2)).run P w= .ok ⟨ys⟩ w)(hf: ∀v∈ys,flat v=true)(hl:off+ys.length<=cs.length):
  (Builtin.copy_ #[t,t'] ty' #[.slice (some ⟨b,off,none⟩) l c, .slice ad2 l2 c2]).run P w=
   .ok (.int .i64 m) (iv w b (.cells ⟨cH cs off ys⟩ ty (0,0))):=by
 obtain⟨i,hi,his,hib⟩:=hT.info;subst his;have hst:=DB (P:=P) ys w off 0 cs hf hb we;rw[gV] at hst;subst hm;simp[Builtin.copy_,run_underlying hT.un,sizeOf,typeInfo,hi,Builtin.lenOf,hsy,hst];rfl
def PH[hT:cE P t e s by_]{b l c m:Nat}{cs:List Value}{lo:Bool}(hx:aE fr x=some (.slice (some ⟨b,off,none⟩) l c))(hy:aE fr y=some (.slice ad2 l2 c2))
  (hm:Nat.min l2 l=m)(hsy:ng P C own G s m (.slice ad2 l2 c2) ys)(hf: ∀v∈ys,flat v=true)(hl:off+ys.length<=cs.length)(hu:iE own b cs ty lo (cH cs off ys) own')(hd:co n dst=true)
  (h:St C n (put fr dst (.int .i64 m)) own' G Φ):Ch P C n fr own G ⟨dst, .call ⟨.builtin .copy, #[x,y], #[t,t']⟩,ty',pos,af,gd⟩ Φ:=by
 intro a w Q rl;have hb:=(rl.h.hown _ (hu.spec rl.h.nd).1).1;refine lw (v:= .int .i64 m) (w':=iv w b (.cells ⟨cH cs off ys⟩ ty (0,0))) ?_ (h _ _ ((rl.heap (rl.h.store hu)).put _ hd));simp only[execOp,resolve,jZ,bY,iU,bF rl.fr hx,bF rl.fr hy];exact dh (aBs hm hb (hsy w rl.h) hf hl)
def Qm[hT:cE P t e s by_][hN:kd P t']{b m:Nat}{cs:List Value}{lo:Bool}
  (hx:aE fr x=some (.slice (some ⟨b,0,none⟩) len cap))(hy:aE fr y=some (.slice ad2 m cap2))(hu:iE own b cs e lo (cH cs (len*s) ys) own')(hcs:cs.length=cap*s)
  (hsy:ng P C own G s m (.slice ad2 m cap2) ys)(hys:ys.length=m*s)(hf: ∀v∈ys,flat v=true)(hneed:len+m<=cap)(hd:co n dst=true)
  (h:St C n (put fr dst (.slice (some ⟨b,0,none⟩) (len+m) cap)) own' G Φ):
  Ch P C n fr own G ⟨dst, .call ⟨.builtin .append, #[x,y], #[t,t']⟩,ty',pos,af,gd⟩ Φ:=by
 intro a w Q rl;have hb:=(rl.h.hown _ (hu.spec rl.h.nd).1).1;refine lw (v:= .slice (some ⟨b,0,none⟩) (len+m) cap) (w':=iv w b (.cells ⟨cH cs (len*s) ys⟩ e (0,0))) ?_ (h _ _ ((rl.heap (rl.h.store hu)).put _ hd));simp only[execOp,resolve,jZ,bY,iU,bF rl.fr hx,bF rl.fr hy];exact dh (Mv hb hcs (hsy w rl.h) hys hf hneed)
def JU[hT:cE P t e s by_][hN:kd P t']{z:Value}[hz:gA P e z]{b m:Nat}{lo:Bool}
  (hx:aE fr x=some (.slice (some ⟨b,0,none⟩) len cap))(hy:aE fr y=some (.slice ad2 m cap2))(hr:kn own ⟨b,xs++rest,e,lo⟩ own1)(hxs:xs.length=len*s)(hcap:xs.length+rest.length=cap*s)(hlc:len<=cap)
  (hsy:ng P C own G s m (.slice ad2 m cap2) ys)(hys:ys.length=m*s)(hf: ∀v∈ys,flat v=true)
  (hby:0<by_)(hb:(len+m)*by_<=140737488355328)(hzs:(aO z).length=s)(hd:co n dst=true)
  (h: ∀b lo' cap' rest',len+m<=cap'->rest'.length+(len+m)*s=cap'*s->St C n (put fr dst (.slice (some ⟨b,0,none⟩) (len+m) cap')) (⟨b,xs++ys++rest',e,lo'⟩::own1) G Φ):
  Ch P C n fr own G ⟨dst, .call ⟨.builtin .append, #[x,y], #[t,t']⟩,ty',pos,af,gd⟩ Φ:=by
 intro a w Q rl;have hp:=rl.h.perm hr.perm;have hblk:=(hp.hown _ aQ).1;simp only[] at hblk;by_cases hneed:len+m<=cap
 .have hcs:(xs++rest).length=cap*s:=by simp;omega
  have hrun:=Mv (P:=P) (t:=t) (t':=t') (ty':=ty') (w:=w) (len:=len) hblk hcs (hsy w rl.h) hys hf hneed;have hle:len*s+m*s<=cap*s:=by rw[<-dS];exact bW _ hneed
  have hov:cH (xs++rest) (len*s) ys=xs++ys++rest.drop (m*s):=by
   rw[rO _ _ _ (by rw[hys];omega),<-hxs];simp[hys,nU]
  refine lw (v:= .slice (some ⟨b,0,none⟩) (len+m) cap) (w':=iv w b (.cells ⟨cH (xs++rest) (len*s) ys⟩ e (0,0))) ?_ ?_
  .simp only[execOp,resolve,jZ,bY,iU,bF rl.fr hx,bF rl.fr hy]
   exact dh hrun
  .rw[hov]
   refine h b lo cap (rest.drop (m*s)) hneed ?_ _ _ ((rl.heap (hp.store (.hd ..))).put _ hd);rw[gM,dS];omega
 .have hx':ng P C own G s len (.slice (some ⟨b,0,none⟩) len cap) xs:=fun w' hw'=>by
   have hb':=(((hw'.perm hr.perm).hown _ aQ).1);refine Gt hb' ?_;rw[mi _ _ _ omq,<-hxs];simp
  have hcap':len+m<=grownCap w (len+m) cap e:=by unfold grownCap;simp only[Question.cut];omega
  have hrun:=L7 (P:=P) (t:=t) (t':=t') (ty':=ty') (w:=w) (w':=w) (hx' _ rl.h.drew) (hsy _ rl.h.drew) we hby hb;refine lw (v:= .slice (some ⟨w.heap.size,0,none⟩) (len+m) (grownCap w (len+m) cap e)) (w':=w.drew.alloc (.cells ⟨xs++ys++dH z (grownCap w (len+m) cap e-(len+m))⟩ e)) ?_ ?_
  .simp only[execOp,resolve,jZ,bY,iU,bF rl.fr hx,bF rl.fr hy]
   exact dh hrun
  .refine h w.heap.size _ _ _ hcap' ?_ _ _ ((rl.heap (((hp.drew).drop (nV _ _)).alloc _ _)).put _ hd)
   rw[pA,hzs,<-dS];congr 1;omega
def aqP{fn:Func}(hf:P.funcs[f]? =some fn)(hname:(fn.name== "runtime.NumGoroutine")=false)(hb:fn.body.isNone=true)(hn:Extern.findNext fn=none)
  (he:Extern.find fn=some (Extern.SlicesOverlaps.overlaps #[tS,tS] #[tR]))[hT:cE P tS e s by_]
  {b1 b2 o1 o2 l1 c1:Nat}{lo1 lo2:Bool}(ho:aE fr fo=some (.func (.func f) #[] #[]))
  (hv:fI fr args.toList=some [.slice (some ⟨b1,o1,none⟩) l1 c1, .slice (some ⟨b2,o2,none⟩) l2 c2])[h1:jc own b1 cs1 t1 lo1][h2:jc own b2 cs2 t2 lo2](hne:b1≠b2)(hc2:cs2≠[]):
  Yd P C fr own G ⟨dst, .call ⟨.value fo,args,tys⟩,ty',pos,af,gd⟩ (.bool false):=by
 intro a w hfr hh;have e1:=(hh.hown _ h1.mem).1;have e2:=(hh.hown _ h2.mem).1;have ev:args.map a.eval=⟨[.slice (some ⟨b1,o1,none⟩) l1 c1, .slice (some ⟨b2,o2,none⟩) l2 c2]⟩:=by apply Array.ext';simpa using Dp hfr hv
 simp only[] at e1 e2;have hrun:=Lib.run_overlaps_apart (P:=P) w tS tR e hT.un s hT.siz ⟨b1,o1,none⟩ ⟨b2,o2,none⟩ l1 c1 l2 c2 hne t1 t2 cs1.length cs2.length
  (by simp[World.shape?,e1]) (by simp[World.shape?,e2]) (by simpa using hc2) (by simp[World.frozen?,e1]) (by simp[World.frozen?,e1])
 simp only[execOp,resolve,bF hfr ho,ev,Deferred.ofValue];show(invoke (.fn (.func f) #[]) _).run P w=_;simp only[invoke];have h3:=run_callFunc_extern (P:=P) hf hname hb hn he;rw[h3];simp[hrun,Result.andThen]
end
instance mz.cons2 (l m:List aA) (o:aA) [h:mz l m]:mz (o::l) (o::m):=⟨h.s.cons_cons o⟩
def dr0{own:List aA}{b:Nat}{cs:List Value}{lo:Bool}(fin:Nat->Bool)(π:List (Nat×Bool)){id:Nat}(hm:P.follows .mixedOrders=true)(_hr:kn own ⟨b,cs,ty,lo⟩ own0)(ho:(vg ops fin π (Array.replicate ops.size false)&&Nat.ble π.length ops.size)=true)
  (h:St C n fr own G (jg P ops (il Q) (HS C own0 G) fin π)):St C n fr own G ((Code.region id ops true).wp P Q):=by
 simp only[bT] at ho;intro a w rl;exact wp_mono (wp_region_any hm (EO _ _ _ _ (DU (fun _ _ _ _ _ h=>h) π _ a _ ho.1 (h a _ (rl.heap rl.h.drew)) _ (by simpa using ho.2)))) il.imp
def aI(vs:List Value):List Value:=(vs.map aO).flatten
def fp{s:Nat}: ∀(vs:List Value),(∀v∈vs,(aO v).length=s)->(aI vs).length=vs.length*s
 |[],_=>by simp[aI]
 |v::vs,h=>by
  have h1:=fp vs (fun u hu=>h u (aJ _ hu));have h2:=h v aQ;unfold aI at*;simp only[bY,sX,aY,aS,h1,h2,fS];omega
def pq(us vs:List Value):aI (us++vs)=aI us++aI vs:=by simp[aI]
def xw(v:Value):aI [v]=aO v:=by simp[aI]
def JM{s:Nat}: ∀(vs:List Value) (i:Nat),(∀v∈vs,(aO v).length=s)->i<=vs.length->(aI vs).take (i*s)=aI (vs.take i)
 |vs,0,_,_=>by simp[aI]
 |[],i+1,_,h=>by simp at h
 |v::vs,i+1,h,hi=>by
  have h1:=JM vs i (fun u hu=>h u (aJ _ hu)) omU;have h2:=h v aQ;unfold aI at*;simp only[bY,sX,oL];rw[List.take_append,h2,bM (by rw[h2,fS];omega),fS,kN,h1]
def F'{s:Nat}: ∀(vs:List Value) (i:Nat),(∀v∈vs,(aO v).length=s)->i<=vs.length->(aI vs).drop (i*s)=aI (vs.drop i)
 |vs,0,_,_=>by simp
 |[],i+1,_,h=>by simp at h
 |v::vs,i+1,h,hi=>by
  have h1:=F' vs i (fun u hu=>h u (aJ _ hu)) omU;have h2:=h v aQ;unfold aI at*;simp only[bY,sX,uZ];rw[nU,h2,iN (by rw[h2,fS];omega),fS,kN,h1,kV]
theorem okQ{p:Prop}(h:p:=by simp only[aY];omega):p:=h
def Lt(h: ∀v∈vs,(aO v).length=s)(hi:i<vs.length):cF (aI vs++rest) (i*s) s=some (aO vs[i]):=by
 have hl:=fp vs h;have hle:i*s+s<=vs.length*s:=by rw[<-fS];exact bW _ hi
 rw[mi _ _ _ okQ];congr 1;rw[lU we,F' vs i h we,bK hi];have h2:=h vs[i] (dQ hi);rw[show(vs[i]::vs.drop (i+1))=[vs[i]]++vs.drop (i+1) from J,pq,xw,dT,gT we,bM we]
def gt.of_flat{b c:Nat}(h: ∀v∈vs,(aO v).length=s)(hg:G b=some (aI vs++rest))(hc:vs.length<=c):gt G s ⟨some ⟨b,0,none⟩,vs.length,c⟩ vs:=
 ⟨J,hc, .inr ⟨b,0,_,J,hg,fun i hi=>by rw[fX];exact Lt h hi⟩⟩
section
variable {own:List aA}
variable {gd:Option (Nat×Bool)}
def wk(own0:List aA)(fin:Nat->Bool)(π:List (Nat×Bool)){id:Nat}(hm:P.follows .mixedOrders=true)(ho:(vg ops fin π (Array.replicate ops.size false)&&Nat.ble π.length ops.size)=true)
  (h:St C n fr own G (jg P ops (il Q) (HS C own0 G) fin π)):St C n fr own G ((Code.region id ops true).wp P Q):=by
 simp only[bT] at ho;intro a w rl;exact wp_mono (wp_region_any hm (EO _ _ _ _ (DU (fun _ _ _ _ _ h=>h) π _ a _ ho.1 (h a _ (rl.heap rl.h.drew)) _ (by simpa using ho.2)))) il.imp
end
section
variable {S:World->Prop}{π₂:List (Nat×Bool)}
end
structure FD where
 k:Nat
 d:Nat
 t:TypeId
 z:Value
abbrev Fs:=Nat->Option Nat
def I':List FD->Fs->Fr
 |[],_=>[]
 |f::r,fs=>fF f.d (fs f.k)++I' r fs
def Mj:List FD->Fs->List aA
 |[],_=>[]
 |f::r,fs=>fO f.t f.z (fs f.k)++Mj r fs
def Rq(fd:List FD)(fs:Fs):List Nat:=(fd.filter fun f=>(fs f.k).isNone).map (·.k)
section
variable {own:List aA}{π π₂:List (Nat×Bool)}{fd:List FD}
end
end Go.Sx
end
