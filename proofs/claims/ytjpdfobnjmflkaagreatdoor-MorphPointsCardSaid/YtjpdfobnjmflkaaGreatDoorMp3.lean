import Derived.Test.YtjpdfobnjmflkaaGreatDoorMp2
import Derived.Laws.Externs
import Derived.Lib.Overlaps
set_option linter.all false
set_option maxRecDepth 100000
section
namespace Go.Sx
open Go
variable {P:Program}{ops:Array Oper}{Q:Exit->Act->World->Prop}{fin:Nat->Bool}{k n:Nat}
section
variable {S:World->Prop}{π₂:List (Nat×Bool)}
end
section
variable {C:aG}{fr:Fr}{own own0:List aA}{G G0:Gh}{π π₂:List (Nat×Bool)}
def fF(d:Nat):Option Nat->Fr
 |none=>[]
 |some b=>[(d, .pointer (some ⟨b,0,none⟩))]
def fO(t:TypeId)(z:Value):Option Nat->List aA
 |none=>[]
 |some b=>[⟨b,aF z,t,true⟩]
end
end Go.Sx
end
section
namespace Go.Sx
open Go Go.Proofs
def FS{q:Rat}(h:q.den=1:=by omega):q=(q.num:Int):=by
 conv=>lhs;rw[<-sZ q,h,sM]
def bz(a b:Rat):Int:=if a<b then-1 else if b<a then 1 else 0
def JZ(a b:Rat):(a-b).num<0↔a<b:=by
 rw[<-Rat.not_le,Rat.le_iff_sub_nonneg,<-sX];omega
def Ud(a b:Rat):0<(a-b).num↔b<a:=by
 have h:=JZ b a;have h2:(b-a).num= -(a-b).num:=by rw[<-mS,Rat.neg_sub]
 rw[h2] at h;rw[<-h];omega
def EJ(a b:Rat):Int.sign (a-b).num=bz a b:=by
 unfold bz;split
 .rename_i h;exact dY ((JZ a b).2 h)
 .rename_i h
  split
  .rename_i h2;exact eK ((Ud a b).2 h2)
  .rename_i h2
   rw[<-JZ] at h;rw[<-Ud] at h2;rw[show(a-b).num=0 by omega];rfl
def Pb{a b:Rat}(h:a.den=b.den:=by omega):a<b↔a.num<b.num:=by
 rw[Rat.lt_iff,h];have:(0:Int)<b.den:=by have:=b.den_pos;omega
 exact⟨fun h2=>Int.lt_of_mul_lt_mul_right h2 (qU this),fun h2=>Int.mul_lt_mul_of_pos_right h2 this⟩
def vJ(a b:Rat):bz a b=0↔a=b:=by
 unfold bz;constructor
 .intro h
  split at h
  .omega
  .rename_i h1
   split at h
   .omega
   .rename_i h2
    exact Rat.le_antisymm (Rat.not_lt.1 h2) (Rat.not_lt.1 h1)
 .intro h
  subst h;rw[if_neg (Rat.not_lt.2 gS),if_neg (Rat.not_lt.2 gS)]
def NU(a b:Rat):0<bz a b↔b<a:=by
 unfold bz;constructor
 .intro h
  split at h
  .omega
  .split at h
   .assumption
   .omega
 .intro h
  rw[if_neg (fun h2=>Rat.not_lt.2 (cM h) h2),if_pos h];decide
def P1(a b:Rat):bz a b<0↔a<b:=by
 unfold bz;constructor
 .intro h
  split at h
  .assumption
  .split at h<;>omega
 .intro h
  rw[if_pos h];decide
def rgcd(a b:Rat):Rat:=mkRat ((Nat.gcd (a.num.natAbs*b.den) (b.num.natAbs*a.den):Nat):Int) (a.den*b.den)
def JW(a b:Int):rgcd a b=((Nat.gcd a.natAbs b.natAbs:Nat):Int):=by
 unfold rgcd;show mkRat ((Nat.gcd (a.natAbs*1) (b.natAbs*1):Nat):Int) (1*1)=_;rw[jL,jL,jL,sM]
def HE{a b m:Nat}(ha:a<m)(hb:b<m):Nat.gcd a b<m:=by
 rcases fX a with h|h
 .rw[h,Nat.gcd_zero_left];exact hb
 .exact fU (Nat.gcd_le_left _ h) ha
structure LV where
 a:RV
 b:RV
 c:RV
def LV.v(z:LV):Value:= .agg ⟨[.int .i64 z.a.n, .int .i64 z.a.d, .pointer z.a.p, .int .i64 z.b.n, .int .i64 z.b.d, .pointer z.b.p, .int .i64 z.c.n, .int .i64 z.c.d, .pointer z.c.p]⟩
structure ah where
 a:Int
 b:Int
 c:Int
def ah.ok(l:ah):Prop:= ¬(l.a=0/\l.b=0)/\Nat.gcd (Nat.gcd l.a.natAbs l.b.natAbs) l.c.natAbs=1
structure PV where
 x:RV
 y:RV
def PV.v(z:PV):Value:= .agg ⟨[.int .i64 z.x.n, .int .i64 z.x.d, .pointer z.x.p, .int .i64 z.y.n, .int .i64 z.y.d, .pointer z.y.p]⟩
structure aa where
 x:Rat
 y:Rat
def Ho(a:Int): -(a:Rat)=((-a:Int):Rat):=rfl
def ah.rev(l:ah):ah:=⟨-l.a, -l.b, -l.c⟩
def ah.nor(l:ah):aa:=⟨l.a,l.b⟩
def ah.dir(l:ah):aa:=⟨l.b, -(l.a:Rat)⟩
def aa.dot(p q:aa):Rat:=p.x*q.x+p.y*q.y
def aa.cross(p q:aa):Rat:=p.x*q.y-p.y*q.x
def aa.scale(p:aa)(c:Rat):aa:=⟨p.x*c,p.y*c⟩
def aa.add(p q:aa):aa:=⟨p.x+q.x,p.y+q.y⟩
def ah.value(l:ah)(p:aa):Rat:=l.nor.dot p+(l.c:Rat)
def ah.base(l:ah):aa:=l.nor.scale (-(l.c:Rat)/l.nor.dot l.nor)
def ah.at(l:ah)(t:Rat):aa:=l.base.add (l.dir.scale t)
end Go.Sx
end
section
namespace Go.Sx
open Go
variable {s n by_ off cap l2 cap2 i:Nat}{B M rest own' own1 own0 L:List aA}{p q:aa}{m:ah}{C:aG}{K:Value->List aA->Gh->Prop}{x y fo:Operand}{G G' G0:Gh}{w w':World}{P:Program}{f:FuncId}{vs c1 c2 cs' ys xs cs1 cs2:List Value}{fr:Fr}{Φ:Act->World->Prop}{dst:Option Nat}{t' ty' ty tS tR t1 t2:TypeId}{pos:String}{af:Array Edge}{args:Array Operand}{tys:Array TypeId}{ad ad2:Option Addr}{ops:Array Oper}{Q:Exit->Act->World->Prop}{fin:Nat->Bool}
instance:DecidableEq ah:=fun x y=>decidable_of_iff (x.a=y.a/\x.b=y.b/\x.c=y.c) (by
 cases x;cases y;simp)
structure ao where
 lo:Rat
 hi:Rat
 nl:Bool
 nh:Bool
def ao.all:ao:=⟨0,0,true,true⟩
def ao.empty(v:ao):Bool:=!v.nl&&(!v.nh&&decide (0<=bz v.lo v.hi))
def ao.meet(v w:ao):ao:=
 ⟨if v.nl then w.lo else if w.nl then v.lo else if v.lo<w.lo then w.lo else v.lo,
  if v.nh then w.hi else if w.nh then v.hi else if w.hi<v.hi then w.hi else v.hi,v.nl&&w.nl,v.nh&&w.nh⟩
def ao.sample(v:ao):Rat:=if v.nl&&v.nh then 0 else if v.nl then v.hi-1 else if v.nh then v.lo+1 else(v.lo+v.hi)*mkRat 1 2
def ah.cutK(l m:ah):Rat:=m.nor.dot l.dir
def ah.cutC(l m:ah):Rat:=m.value l.base
def ah.cutV(l:ah)(v:ao)(m:ah):ao:=
 if Int.sign (l.cutK m).num=0 then v
 else if Int.sign (l.cutK m).num=1 then v.meet ⟨-(l.cutC m/l.cutK m),0,false,true⟩
 else v.meet ⟨0, -(l.cutC m/l.cutK m),true,false⟩
def ah.cutB(l:ah)(v:ao)(m:ah):Bool:=
 if Int.sign (l.cutK m).num=0 then decide (0<Int.sign (l.cutC m).num) else !(l.cutV v m).empty
structure bu where
 l:ah
 v:ao
abbrev ar:=List bu
variable {e:ar}
def nq(l:ah):ar->ao->Option ao
 |[],v=>some v
 |s::t,v=>if l.cutB v s.l then nq l t (l.cutV v s.l) else none
def kd(c:ar)(l:ah):Option ao:=nq l c ao.all
def pk(l:ah)(s:bu):Int:=Int.sign (l.value (s.l.at s.v.sample)).num
def oD(l:ah):ar->Int
 |[]=> -1
 |s::t=>if pk l s≠0 then pk l s else if s.l=l then 1 else oD l t
def wC(c:ar)(l:ah):Int:=if(kd c l).isSome then 0 else oD l c
def aa.half(p:aa):Int:=
 if 0<Int.sign p.y.num\/(Int.sign p.y.num=0/\0<Int.sign p.x.num) then 1 else if Int.sign p.y.num<0\/Int.sign p.x.num<0 then 2 else 0
def co(u v:aa):Int:=if u.half<v.half then-1 else if v.half<u.half then 1 else-(Int.sign (u.cross v).num)
def ek(l:ah):ar->ar
 |[]=>[]
 |s::t=>if s.l.cutB s.v l then⟨s.l,s.l.cutV s.v l⟩::ek l t else ek l t
def gh(p:Nat->Bool)(i j:Nat):Nat:=
 if h:i<j then(if p ((i+j)/2) then gh p ((i+j)/2+1) j else gh p i ((i+j)/2)) else i
termination_by j-i
def jj(c:ar)(l:ah)(i:Nat):Bool:=match c[i]? with
 |some s=>decide (co s.l.dir l.dir<0)
 |none=>false
def lI(c:ar)(l:ah)(v:ao):ar:=
 c.take (gh (jj c l) 0 c.length)++⟨l,v⟩::c.drop (gh (jj c l) 0 c.length)
def bB(c:ar)(l:ah):ar:=match kd c l with
 |some v=>lI (ek l c) l v
 |none=>c
def cx(c:ar)(l:ah):Bool:=match kd c l with
 |some _=>true
 |none=>decide (0<wC c l)
def Ez(p:Nat->Bool): ∀(d i j:Nat),j-i<=d->i<=j->i<=gh p i j/\gh p i j<=j
 |0,i,j,h,hij=>by
  rw[gh,dif_neg (by omega)];omega
 |d+1,i,j,h,hij=>by
  rw[gh];split
  .split
   .have:=Ez p d ((i+j)/2+1) j (by omega) (by omega);omega
   .have:=Ez p d i ((i+j)/2) (by omega) (by omega);omega
  .omega
def To(l:ah): ∀c:ar,(ek l c).length<=c.length
 |[]=>bW _
 |s::t=>by
  have:=To l t;unfold ek;split<;>simp<;>omega
def Xt(c:ar)(l:ah)(v:ao):(lI c l v).length=c.length+1:=by
 have:=(Ez (jj c l) c.length 0 c.length (by omega) (by omega)).2;simp[lI];omega
def ub(c:ar)(l:ah):(bB c l).length<=c.length+1:=by
 unfold bB;split
 .rw[Xt];have:=To l c;omega
 .omega
inductive Tr where
 |leaf (b:Bool)
 |node (l:ah) (x y:Tr)
def Tr.isLeaf:Tr->Bool
 | .leaf _=>true
 | .node .. =>false
def Tr.code:Tr->Bool
 | .leaf b=>b
 | .node .. =>false
def Tr.depth:Tr->Nat
 | .leaf _=>0
 | .node _ x y=>1+max x.depth y.depth
def Tr.size:Tr->Nat
 | .leaf _=>0
 | .node _ x y=>1+x.size+y.size
def Tr.joinQ(l:ah)(x y:Tr):Tr:=if x.isLeaf&&(y.isLeaf&&(x.code==y.code)) then x else .node l x y
def Tr.restrict:Tr->ar->Tr
 | .leaf b,_=> .leaf b
 | .node l x y,c=>if !cx c l.rev then x.restrict c else if !cx c l then y.restrict c else joinQ l (x.restrict (bB c l)) (y.restrict (bB c l.rev))
def Tr.parts:Tr->ar->List (Bool×ar)
 | .leaf b,c=>[(b,c)]
 | .node l x y,c=>(if cx c l then x.parts (bB c l) else [])++(if cx c l.rev then y.parts (bB c l.rev) else [])
def Tr.all(p:ah->Prop):Tr->Prop
 | .leaf _=>True
 | .node l x y=>p l/\x.all p/\y.all p
structure NQ where
 l:ah
 a:Int
 b:Int
def Nl(b:Bool):Int:=if b then-2 else-1
def Tr.num:Tr->Nat->Int
 | .leaf b,_=>Nl b
 | .node ..,n=>n
def Tr.wr:Tr->Nat->List NQ
 | .leaf _,_=>[]
 | .node l x y,n=>⟨l,x.num (n+1),y.num (n+1+x.size)⟩::x.wr (n+1)++y.wr (n+1+x.size)
def Tr.wr_len: ∀(t:Tr) (n:Nat),(t.wr n).length=t.size
 | .leaf _,n=>rfl
 | .node l x y,n=>by
  have h1:=Tr.wr_len x (n+1);have h2:=Tr.wr_len y (n+1+x.size);simp[Tr.wr,Tr.size,h1,h2];omega
def Tr.joinQ_cases(l:ah)(x y:Tr):(Tr.joinQ l x y=x/\x.isLeaf=true)\/(Tr.joinQ l x y= .node l x y/\ ¬(x.isLeaf=true/\y.isLeaf=true/\x.code=y.code)):=by
 unfold Tr.joinQ;split
 .rename_i h
  simp at h;exact .inl ⟨J,h.1⟩
 .rename_i h
  simp at h;exact .inr ⟨J,fun⟨a,b,c⟩=>h a b c⟩
def Tr.restrict_depth: ∀(t:Tr) (c:ar),(t.restrict c).depth<=t.depth
 | .leaf b,c=>bW _
 | .node l x y,c=>by
  unfold Tr.restrict;split
  .have:=x.restrict_depth c;simp only[Tr.depth];omega
  .split
   .have:=y.restrict_depth c;simp only[Tr.depth];omega
   .have h1:=x.restrict_depth (bB c l)
    have h2:=y.restrict_depth (bB c l.rev);rcases Tr.joinQ_cases l (x.restrict (bB c l)) (y.restrict (bB c l.rev)) with⟨h,_⟩|⟨h,_⟩
    .rw[h];simp only[Tr.depth];omega
    .rw[h];simp only[Tr.depth];omega
def Tr.restrict_all(p:ah->Prop): ∀(t:Tr) (c:ar),t.all p->(t.restrict c).all p
 | .leaf b,c,_=>trivial
 | .node l x y,c,h=>by
  obtain⟨h0,h1,h2⟩:=h;unfold Tr.restrict;split
  .exact x.restrict_all p c h1
  .split
   .exact y.restrict_all p c h2
   .rcases Tr.joinQ_cases l (x.restrict (bB c l)) (y.restrict (bB c l.rev)) with⟨h,_⟩|⟨h,_⟩
    .rw[h];exact x.restrict_all p _ h1
    .rw[h];exact⟨h0,x.restrict_all p _ h1,y.restrict_all p _ h2⟩
def jb(l:ah)(p:aa):l.value p=(l.a:Rat)*p.x+(l.b:Rat)*p.y+(l.c:Rat):=rfl
def dE(l:ah)(p:aa):l.rev.value p= -l.value p:=by
 rw[jb,jb];have h1:((l.rev.a:Int):Rat)= -(l.a:Rat):=(Ho l.a).symm;have h2:((l.rev.b:Int):Rat)= -(l.b:Rat):=(Ho l.b).symm;have h3:((l.rev.c:Int):Rat)= -(l.c:Rat):=(Ho l.c).symm;rw[h1,h2,h3];grind
def kg(q p:aa)(e:Rat):aa:=⟨q.x+e*(p.x-q.x),q.y+e*(p.y-q.y)⟩
def lO(l:ah)(q p:aa)(e:Rat):l.value (kg q p e)=l.value q+e*(l.value p-l.value q):=by
 simp only[jb,kg];grind
def b8(q u:aa)(e:Rat):aa:=⟨q.x+e*u.x,q.y+e*u.y⟩
def gi(l:ah)(q u:aa)(e:Rat):l.value (b8 q u e)=l.value q+e*l.nor.dot u:=by
 simp only[jb,b8,ah.nor,aa.dot];grind
def bD{a b:Rat}(ha:0<a)(hb:0<b):0<a*b:=Rat.mul_pos ha hb
def cA{a b:Rat}(ha:0<=a)(hb:0<=b):0<=a*b:=pW ha hb
def si(a:Rat):0<=a*a:=by
 by_cases h:0<=a
 .exact cA h h
 .have:=cA (a:= -a) (b:= -a) (by grind) (by grind)
  grind
def eD{s k:Rat}(hk:0<k):0<s*k↔0<s:=by
 constructor
 .intro h
  by_cases hs:0<s
  .exact hs
  .have:=cA (a:= -s) (b:=k) (by grind) (by grind)
   grind
 .intro h;exact bD h hk
def ip{s k:Rat}(hk:0<k):0<=s*k↔0<=s:=by
 constructor
 .intro h
  by_cases hs:0<=s
  .exact hs
  .have:=bD (a:= -s) (b:=k) (by grind) hk
   grind
 .intro h;exact cA h (by grind)
def IJ{A B u v:Rat}(h0:0<=A)(h1:0<=A+v*B)(hu:0<=u)(huv:u<=v):0<=A+u*B:=by
 by_cases hB:0<=B
 .have:=cA hu hB;grind
 .have:=cA (a:=v-u) (b:= -B) (by grind) (by grind)
  grind
def ah.Ne(l:ah):Prop:= ¬(l.a=0/\l.b=0)
def ah.ok.ne{l:ah}(h:l.ok):l.Ne:=h.1
def ni{l:ah}(h:l.Ne):0<l.nor.dot l.nor:=by
 show 0<(l.a:Rat)*l.a+(l.b:Rat)*l.b;have h1:=si (l.a:Rat);have h2:=si (l.b:Rat);by_cases ha:l.a=0
 .have hb:l.b≠0:=fun hb=>h ⟨ha,hb⟩
  have hb':(l.b:Rat)≠0:=fun e=>hb (cR.1 e);have:(l.b:Rat)*l.b≠0:=by grind
  grind
 .have ha':(l.a:Rat)≠0:=fun e=>ha (cR.1 e)
  have:(l.a:Rat)*l.a≠0:=by grind
  grind
def A6{l:ah}(h:l.Ne): ∃q:Rat,l.nor.dot l.nor*q= -(l.c:Rat)/\l.base=⟨(l.a:Rat)*q,(l.b:Rat)*q⟩:=by
 refine⟨-(l.c:Rat)/l.nor.dot l.nor,?_,J⟩;have:=ni h;grind
def ly(l m:ah)(t:Rat):m.value (l.at t)=l.cutC m+t*l.cutK m:=by
 simp only[ah.cutC,ah.cutK,jb,ah.at,aa.add,aa.scale,ah.dir,ah.nor,aa.dot];grind
def mv{l:ah}(h:l.Ne)(t:Rat):l.value (l.at t)=0:=by
 obtain⟨q,h1,h2⟩:=A6 h;simp only[jb,ah.at,h2,aa.add,aa.scale,ah.dir];simp only[ah.nor,aa.dot] at h1;grind
def Au{l:ah}(h:l.Ne)(hp:l.value p=0): ∃t,p=l.at t:=by
 obtain⟨q,h1,h2⟩:=A6 h;have hn:=ni h;obtain⟨x,y⟩:=p;rw[jb] at hp;simp only[ah.nor,aa.dot] at h1 hn;refine⟨((l.b:Rat)*x-(l.a:Rat)*y)/((l.a:Rat)*l.a+(l.b:Rat)*l.b),?_⟩;generalize ht:((l.b:Rat)*x-(l.a:Rat)*y)/((l.a:Rat)*l.a+(l.b:Rat)*l.b)=t;have ht':((l.a:Rat)*l.a+(l.b:Rat)*l.b)*t=(l.b:Rat)*x-(l.a:Rat)*y:=by grind
 simp only[ah.at,h2,aa.add,aa.scale,ah.dir,aa.mk.injEq];generalize (l.a:Rat)=a at*;generalize (l.b:Rat)=b at*;generalize (l.c:Rat)=c at*;have e1:(a*a+b*b)*(x-(a*q+b*t))=0:=by grind
 have e2:(a*a+b*b)*(y-(b*q+ -a*t))=0:=by grind
 constructor<;>grind
def ao.has(v:ao)(t:Rat):Prop:=(v.nl=true\/v.lo<=t)/\(v.nh=true\/t<=v.hi)
def ao.ins(v:ao)(t:Rat):Prop:=(v.nl=true\/v.lo<t)/\(v.nh=true\/t<v.hi)
def ao.Pos(v:ao):Prop:=v.nl=true\/v.nh=true\/v.lo<v.hi
def aq5(a b:Rat):0<=bz a b↔b<=a:=by
 unfold bz;split
 .constructor
  .intro h;exact absurd h (by decide)
  .intro h;grind
 .split
  .constructor
   .intro _;grind
   .intro _;decide
  .constructor
   .intro _;grind
   .intro _;decide
def D5(v:ao):v.empty=false↔v.Pos:=by
 obtain⟨lo,hi,nl,nh⟩:=v;unfold ao.empty ao.Pos
 cases nl<;>cases nh<;>simp[aq5]
 first|exact Rat.not_le|grind
def ao.ins.has{v:ao}{t:Rat}(h:v.ins t):v.has t:=by
 obtain⟨h1,h2⟩:=h;exact⟨h1.imp id (fun h=>cM h),h2.imp id (fun h=>cM h)⟩
def aEA:mkRat 1 2=(1:Rat)/2:=by rw[mY];rfl
def oy{v:ao}(h:v.Pos):v.ins v.sample:=by
 obtain⟨lo,hi,nl,nh⟩:=v;unfold ao.Pos at h;unfold ao.ins ao.sample;rw[aEA]
 cases nl<;>cases nh<;>simp at* <;>grind
def QP(v w:ao)(t:Rat):(v.meet w).has t↔v.has t/\w.has t:=by
 obtain⟨lo,hi,nl,nh⟩:=v;obtain⟨lo',hi',nl',nh'⟩:=w;unfold ao.has ao.meet
 cases nl<;>cases nh<;>cases nl'<;>cases nh'<;>simp<;>grind
def R7(v w:ao)(t:Rat):(v.meet w).ins t↔v.ins t/\w.ins t:=by
 obtain⟨lo,hi,nl,nh⟩:=v;obtain⟨lo',hi',nl',nh'⟩:=w;unfold ao.ins ao.meet
 cases nl<;>cases nh<;>cases nl'<;>cases nh'<;>simp<;>grind
def Jk(t:Rat):ao.all.has t:=⟨.inl J, .inl J⟩
def As:ao.all.Pos:= .inl J
def me(k:Rat):Int.sign k.num=0↔k=0:=by rw[iZ,lQ]
def K1(k:Rat):0<k.num↔0<k:=by
 have h1:0<=k.num↔0<=k:=sX;have h2:k.num=0↔k=0:=lQ;constructor
 .intro h
  have a:=h1.1 (by omega);have b:k≠0:=fun e=>by have:=h2.2 e;omega
  grind
 .intro h
  have a:=h1.2 (by grind);have b:k.num≠0:=fun e=>by have:=h2.1 e;grind
  omega
def pi(k:Rat):Int.sign k.num=1↔0<k:=by rw[Int.sign_eq_one_iff_pos,K1]
def kC(k:Rat):0<Int.sign k.num↔0<k:=by
 rw[<-pi];rcases lV k.num 0 with h|h|h
 .rw[dY h];decide
 .rw[h];decide
 .rw[eK h];decide
def u'(k:Rat):Int.sign k.num<0↔k<0:=by
 have h1:=me k;have h2:=kC k;constructor
 .intro h
  by_cases hk:0<k
  .have:=h2.2 hk;omega
  .by_cases h0:k=0
   .have:=h1.2 h0;omega
   .grind
 .intro h
  have a1: ¬Int.sign k.num=0:=fun e=>by have:=h1.1 e;grind
  have a2: ¬0<Int.sign k.num:=fun e=>by have:=h2.1 e;grind
  omega
def CD{l:ah}(v:ao)(hk:l.cutK m=0):l.cutV v m=v/\(l.cutB v m=true↔0<l.cutC m):=by
 have h:=(me (l.cutK m)).2 hk;unfold ah.cutV ah.cutB;rw[if_pos h,if_pos h,decide_eq_true_iff,kC];exact⟨J,Iff.rfl⟩
def AV{l:ah}(v:ao)(hk:0<l.cutK m):l.cutV v m=v.meet ⟨-(l.cutC m/l.cutK m),0,false,true⟩/\(l.cutB v m=true↔(l.cutV v m).Pos):=by
 have h0: ¬Int.sign (l.cutK m).num=0:=fun e=>by have:=(me _).1 e;grind
 have h1:=(pi (l.cutK m)).2 hk;constructor
 .unfold ah.cutV;rw[if_neg h0,if_pos h1]
 .unfold ah.cutB;rw[if_neg h0,<-D5];simp
def AH{l:ah}(v:ao)(hk:l.cutK m<0):l.cutV v m=v.meet ⟨0, -(l.cutC m/l.cutK m),true,false⟩/\(l.cutB v m=true↔(l.cutV v m).Pos):=by
 have h0: ¬Int.sign (l.cutK m).num=0:=fun e=>by have:=(me _).1 e;grind
 have h1: ¬Int.sign (l.cutK m).num=1:=fun e=>by have:=(pi _).1 e;grind
 constructor
 .unfold ah.cutV;rw[if_neg h0,if_neg h1]
 .unfold ah.cutB;rw[if_neg h0,<-D5];simp
def Vt{C K t:Rat}(hk:0<K): -(C/K)<=t↔0<=C+t*K:=by
 have e:C=C/K*K:=by grind
 generalize C/K=d at*;rw[e,show d*K+t*K=(d+t)*K from by grind,ip hk];grind
def NV{C K t:Rat}(hk:0<K): -(C/K)<t↔0<C+t*K:=by
 have e:C=C/K*K:=by grind
 generalize C/K=d at*;rw[e,show d*K+t*K=(d+t)*K from by grind,eD hk];grind
def aKw{C K t:Rat}(hk:K<0):t<= -(C/K)↔0<=C+t*K:=by
 have e:C=C/K*K:=by grind
 generalize C/K=d at*;rw[e,show d*K+t*K=(-(d+t))*(-K) from by grind,ip (by grind)];grind
def N9{C K t:Rat}(hk:K<0):t< -(C/K)↔0<C+t*K:=by
 have e:C=C/K*K:=by grind
 generalize C/K=d at*;rw[e,show d*K+t*K=(-(d+t))*(-K) from by grind,eD (by grind)];grind
def fg(k:Rat):k=0\/0<k\/k<0:=by grind
def DT{l:ah}{v:ao}(hb:l.cutB v m=true)(t:Rat):(l.cutV v m).has t↔v.has t/\0<=m.value (l.at t):=by
 rw[ly];rcases fg (l.cutK m) with hk|hk|hk
 .obtain⟨h1,h2⟩:=CD v hk
  rw[h1,hk];have:=h2.1 hb;constructor
  .intro h;exact⟨h,by grind⟩
  .exact fun h=>h.1
 .rw[(AV v hk).1,QP,<-Vt hk]
  simp[ao.has]
 .rw[(AH v hk).1,QP,<-aKw hk]
  simp[ao.has]
def Su{l:ah}{v:ao}(hb:l.cutB v m=true)(t:Rat):(l.cutV v m).ins t↔v.ins t/\0<m.value (l.at t):=by
 rw[ly];rcases fg (l.cutK m) with hk|hk|hk
 .obtain⟨h1,h2⟩:=CD v hk
  rw[h1,hk];have:=h2.1 hb;constructor
  .intro h;exact⟨h,by grind⟩
  .exact fun h=>h.1
 .rw[(AV v hk).1,R7,<-NV hk]
  simp[ao.ins]
 .rw[(AH v hk).1,R7,<-N9 hk]
  simp[ao.ins]
def BA{l:ah}{v:ao}(hv:v.Pos)(hb:l.cutB v m=true):(l.cutV v m).Pos:=by
 rcases fg (l.cutK m) with hk|hk|hk
 .rw[(CD v hk).1];exact hv
 .exact(AV v hk).2.1 hb
 .exact(AH v hk).2.1 hb
def KK{l:ah}{v:ao}(hv:v.Pos)(hb:l.cutB v m=false){t:Rat}(ht:v.has t):m.value (l.at t)<=0:=by
 rw[ly];have hb': ¬l.cutB v m=true:=by rw[hb];decide
 rcases fg (l.cutK m) with hk|hk|hk
 .have h2:=(CD v hk).2
  have: ¬0<l.cutC m:=fun h=>hb' (h2.2 h);rw[hk];grind
 .obtain⟨h1,h2⟩:=AV v hk
  have hn: ¬(l.cutV v m).Pos:=fun h=>hb' (h2.2 h);rw[h1] at hn;have h3:=NV (C:=l.cutC m) (t:=t) hk
  suffices¬(-(l.cutC m/l.cutK m)<t) by grind
  generalize-(l.cutC m/l.cutK m)=d at*;obtain⟨lo,hi,nl,nh⟩:=v;unfold ao.Pos ao.meet at hn;unfold ao.Pos at hv;unfold ao.has at ht
  cases nl<;>cases nh<;>simp at* <;>grind
 .obtain⟨h1,h2⟩:=AH v hk
  have hn: ¬(l.cutV v m).Pos:=fun h=>hb' (h2.2 h);rw[h1] at hn;have h3:=N9 (C:=l.cutC m) (t:=t) hk
  suffices¬(t< -(l.cutC m/l.cutK m)) by grind
  generalize-(l.cutC m/l.cutK m)=d at*;obtain⟨lo,hi,nl,nh⟩:=v;unfold ao.Pos ao.meet at hn;unfold ao.Pos at hv;unfold ao.has at ht
  cases nl<;>cases nh<;>simp at* <;>grind
def bm(c:ar)(p:aa):Prop:= ∀s∈c,0<s.l.value p
def gv(c:ar)(p:aa):Prop:= ∀s∈c,0<=s.l.value p
def bm.c{c:ar}{p:aa}(h:bm c p):gv c p:=fun s hs=>cM (h s hs)
def JM(l:ah): ∀(c:ar) (v w:ao),v.Pos->nq l c v=some w->
  w.Pos/\(∀t,w.has t↔v.has t/\gv c (l.at t))/\(∀t,w.ins t↔v.ins t/\bm c (l.at t))
 |[],v,w,hv,h=>by
  obtain rfl:v=w:=by simpa[nq] using h
  exact⟨hv,fun t=>⟨fun h=>⟨h,fun s hs=>absurd hs (by simp)⟩,fun h=>h.1⟩,fun t=>⟨fun h=>⟨h,fun s hs=>absurd hs (by simp)⟩,fun h=>h.1⟩⟩
 |s::c,v,w,hv,h=>by
  rw[nq] at h;split at h
  .rename_i hb
   obtain⟨h1,h2,h3⟩:=JM l c _ w (BA hv hb) h;refine⟨h1,fun t=>?_,fun t=>?_⟩
   .rw[h2,DT hb]
    simp only[gv,eJ];exact and_assoc
   .rw[h3,Su hb]
    simp only[bm,eJ];exact and_assoc
  .exact absurd h (by simp)
def SN(l:ah): ∀(c:ar) (v:ao),v.Pos->nq l c v=none-> ∀t,v.has t-> ¬bm c (l.at t)
 |[],v,hv,h=>by simp[nq] at h
 |s::c,v,hv,h=>by
  intro t ht hd;have hd':=eJ.1 hd;rw[nq] at h;split at h
  .rename_i hb
   exact SN l c _ (BA hv hb) h t ((DT hb t).2 ⟨ht,cM hd'.1⟩) hd'.2
  .rename_i hb
   have:=KK hv (by simpa using hb) ht;have:=hd'.1;grind
def bm.open: ∀{c:ar} {q:aa} (u:aa),bm c q-> ∃e:Rat,0<e/\ ∀d,0<=d->d<=e->bm c (b8 q u d)
 |[],q,u,_=>⟨1,by decide,fun d _ _ s hs=>absurd hs (by simp)⟩
 |s::c,q,u,h=>by
  have h':=eJ.1 h;obtain⟨e,he,hd⟩:=bm.open (c:=c) u h'.2;have hs:=h'.1;generalize hk:s.l.nor.dot u=k;have hf: ∃f:Rat,0<f/\ ∀d,0<=d->d<=f->0<s.l.value q+d*k:=by
   by_cases hk0:0<=k
   .exact⟨1,by decide,fun d h1 _=>by have:=cA h1 hk0;grind⟩
   .refine⟨s.l.value q/(2* -k),?_,fun d h1 h2=>?_⟩
    .have e1:s.l.value q/(2* -k)*(2* -k)=s.l.value q:=by grind
     exact(eD (k:=2* -k) (by grind)).1 (by rw[e1];exact hs)
    .have e1:s.l.value q/(2* -k)*(2* -k)=s.l.value q:=by grind
     generalize s.l.value q/(2* -k)=f at*;have:=cA (a:=f-d) (b:= -k) (by grind) (by grind);grind
  obtain⟨f,hf0,hf⟩:=hf;by_cases hef:e<=f
  .refine⟨e,he,fun d h1 h2=>eJ.2 ⟨?_,hd d h1 h2⟩⟩
   rw[gi,hk];exact hf d h1 (by grind)
  .refine⟨f,hf0,fun d h1 h2=>eJ.2 ⟨?_,hd d h1 (by grind)⟩⟩
   rw[gi,hk];exact hf d h1 h2
def H5: ∀{c:ar} {q p:aa},bm c q->(∃s∈c,s.l.value p<=0)->
  ∃e:Rat,0<=e/\e<=1/\(∃s∈c,s.l.value p<=0/\s.l.value (kg q p e)=0)/\gv c (kg q p e)
 |[],q,p,_,h=>by obtain⟨s,hs,_⟩:=h;exact absurd hs (by simp)
 |s::c,q,p,h,hex=>by
  have h':=eJ.1 h;have hs:=h'.1;by_cases hc: ∃s∈c,s.l.value p<=0
  .obtain⟨e,h0,h1,⟨s1,m1,n1,z1⟩,hC⟩:=H5 h'.2 hc
   by_cases hp:0<=s.l.value (kg q p e)
   .exact⟨e,h0,h1,⟨s1,aJ _ m1,n1,z1⟩,eJ.2 ⟨hp,hC⟩⟩
   .rw[lO] at hp
    generalize hB:s.l.value p-s.l.value q=B at*;have hB0:B<0:=by
     by_cases hB0:0<=B
     .have:=cA h0 hB0;grind
     .grind
    have e1:s.l.value q/(-B)*(-B)=s.l.value q:=by grind
    generalize hf:s.l.value q/(-B)=f at*;have f0:0<=f:=(ip (k:= -B) (by grind)).1 (by rw[e1];grind);have f1:f<=e:=by
     have:=(ip (s:=e-f) (k:= -B) (by grind)).1 (by grind);grind
    have z:s.l.value (kg q p f)=0:=by rw[lO,hB];grind
    have np:s.l.value p<=0:=by
     have:=cA (a:=1-e) (b:= -B) (by grind) (by grind);grind
    refine⟨f,f0,by grind,⟨s,aQ,np,z⟩,eJ.2 ⟨by rw[z];exact gS,fun s2 m2=>?_⟩⟩;have a1:=h'.2 s2 m2;have a2:=hC s2 m2;rw[lO] at a2⊢;exact IJ (cM a1) a2 f0 f1
  .have np:s.l.value p<=0:=by
    obtain⟨s1,m1,n1⟩:=hex;rcases aK.1 m1 with rfl|m1
    .exact n1
    .exact absurd ⟨s1,m1,n1⟩ hc
   generalize hB:s.l.value p-s.l.value q=B at*;have hB0:B<0:=by grind
   have e1:s.l.value q/(-B)*(-B)=s.l.value q:=by grind
   generalize hf:s.l.value q/(-B)=f at*;have f0:0<=f:=(ip (k:= -B) (by grind)).1 (by rw[e1];grind);have f1:f<=1:=by
    have:=(ip (s:=1-f) (k:= -B) (by grind)).1 (by grind);grind
   have z:s.l.value (kg q p f)=0:=by rw[lO,hB];grind
   refine⟨f,f0,f1,⟨s,aQ,np,z⟩,eJ.2 ⟨by rw[z];exact gS,fun s2 m2=>?_⟩⟩;have a1:=h'.2 s2 m2;have a2:0<s2.l.value p:=by
    by_cases h:0<s2.l.value p
    .exact h
    .exact absurd ⟨s2,m2,by grind⟩ hc
   rw[lO];have:=IJ (A:=s2.l.value q) (B:=s2.l.value p-s2.l.value q) (u:=f) (v:=1) (cM a1) (by grind) f0 f1;exact this
structure bC (c:ar):Prop where
 ne: ∃p,bm c p
 ok: ∀s∈c,s.l.ok
 edge: ∀s∈c,s.v.Pos/\ ∀t,s.v.has t↔gv c (s.l.at t)
def bC.nil:bC []:=⟨⟨⟨0,0⟩,fun s hs=>absurd hs (by simp)⟩,fun s hs=>absurd hs (by simp),fun s hs=>absurd hs (by simp)⟩
def ug{c:ar}(hne: ∃q,bm c q)(h: ∀p,bm c p->0<m.value p)(hp:gv c p):0<=m.value p:=by
 obtain⟨q,hq⟩:=hne;have mq:=h q hq;by_cases hm:0<=m.value p
 .exact hm
 .exfalso
  generalize hB:m.value q-m.value p=B;have hB0:0<B:=by grind
  have e1: -m.value p/B*B= -m.value p:=by grind
  generalize-m.value p/B=e at*;have e0:0<e:=(eD hB0).1 (by rw[e1];grind);have e2:e<=1:=by
   have:=(ip (s:=1-e) hB0).1 (by grind);grind
  have hd:bm c (kg p q e):=fun s hs=>by
   rw[lO];have a:=hp s hs;have b:=hq s hs;have:=bD e0 b;have:=cA (a:=1-e) (b:=s.l.value p) (by grind) a;grind
  have:=h _ hd;rw[lO,hB,e1] at this;grind
def sr{l:ah}{s':bu}: ∀{c:ar},s'∈ek l c↔ ∃s∈c,s.l.cutB s.v l=true/\s'=⟨s.l,s.l.cutV s.v l⟩
 |[]=>by simp[ek]
 |s::c=>by
  rw[ek];split
  .rename_i hb
   rw[aK,sr (c:=c)];constructor
   .rintro (rfl|⟨s1,h1,h2⟩)
    .exact⟨s,aQ,hb,J⟩
    .exact⟨s1,aJ _ h1,h2⟩
   .rintro ⟨s1,h1,h2,h3⟩
    rcases aK.1 h1 with rfl|h1
    .exact .inl h3
    .exact .inr ⟨s1,h1,h2,h3⟩
  .rename_i hb
   rw[sr (c:=c)];constructor
   .rintro ⟨s1,h1,h2⟩;exact⟨s1,aJ _ h1,h2⟩
   .rintro ⟨s1,h1,h2,h3⟩
    rcases aK.1 h1 with rfl|h1
    .exact absurd h2 hb
    .exact⟨s1,h1,h2,h3⟩
def qr{c:ar}{l:ah}{v:ao}{s:bu}:s∈lI c l v↔s=⟨l,v⟩\/s∈c:=by
 unfold lI;generalize gh (jj c l) 0 c.length=n;rw[aL,aK];have h:=kV n c;constructor
 .rintro (h1|h1|h1)
  .exact .inr (eX h1)
  .exact .inl h1
  .exact .inr (gR h1)
 .rintro (h1|h1)
  .exact .inr (.inl h1)
  .rw[<-h,aL] at h1
   rcases h1 with h1|h1
   .exact .inl h1
   .exact .inr (.inr h1)
def azX{c:ar}{l:ah}(hl:l.Ne)(hp:kd c l=none)(h:bm c p):l.value p≠0:=by
 intro h0;obtain⟨t,rfl⟩:=Au hl h0;exact SN l c _ As hp t (Jk t) h
def GR{c:ar}{l:ah}(hl:l.Ne){v:ao}(hp:kd c l=some v):(∃q,bm c q/\0<l.value q)/\ ∃q,bm c q/\l.value q<0:=by
 obtain⟨h1,_,h3⟩:=JM l c _ v As hp;have hd:=((h3 v.sample).1 (oy h1)).2;have h0:=mv hl v.sample;have hn:=ni hl;constructor
 .obtain⟨e,he,hm⟩:=hd.open l.nor
  refine⟨_,hm e (cM he) gS,?_⟩;rw[gi,h0];have:=bD he hn;grind
 .obtain⟨e,he,hm⟩:=hd.open ⟨-l.nor.x, -l.nor.y⟩
  refine⟨_,hm e (cM he) gS,?_⟩;rw[gi,h0];have:=bD he hn;simp only[aa.dot] at this⊢;grind
def axa{c:ar}{l:ah}{v:ao}(hc:bC c)(hl:l.ok)(hp:kd c l=some v):
  bC (lI (ek l c) l v)/\ ∀p,bm (lI (ek l c) l v) p↔bm c p/\0<l.value p:=by
 obtain⟨⟨q,hq,lq⟩,_⟩:=GR hl.ne hp;obtain⟨v1,v2,v3⟩:=JM l c _ v As hp;have hD: ∀p,bm (lI (ek l c) l v) p↔bm c p/\0<l.value p:=by
  intro p;constructor
  .intro h
   have lp:0<l.value p:=h ⟨l,v⟩ (qr.2 (.inl J));refine⟨fun s0 hs0=>?_,lp⟩;by_cases h0:0<s0.l.value p
   .exact h0
   .exfalso
    obtain⟨e,e0,e1,⟨s,ms,ns,zs⟩,hC⟩:=H5 (p:=p) hq ⟨s0,hs0,by grind⟩;obtain⟨t,ht⟩:=Au (hc.ok s ms).ne zs;rw[ht] at hC;obtain⟨p1,p2⟩:=hc.edge s ms;have hh:=(p2 t).2 hC;have lr:0<l.value (s.l.at t):=by
     rw[<-ht,lO];by_cases hB:0<=l.value p-l.value q
     .have:=cA e0 hB;grind
     .have:=cA (a:=1-e) (b:= -(l.value p-l.value q)) (by grind) (by grind)
      grind
    have hb:s.l.cutB s.v l=true:=by
     cases hb:s.l.cutB s.v l with
     |true=>rfl
     |false=>have:=KK p1 hb hh;grind
    have:=h ⟨s.l,s.l.cutV s.v l⟩ (qr.2 (.inr (sr.2 ⟨s,ms,hb,J⟩)));simp only at this;grind
  .rintro ⟨h1,h2⟩ s hs
   rcases qr.1 hs with rfl|hs
   .exact h2
   .obtain⟨s1,m1,_,rfl⟩:=sr.1 hs
    exact h1 s1 m1
 have hne: ∃p,bm (lI (ek l c) l v) p:=⟨q,(hD q).2 ⟨hq,lq⟩⟩;have hC: ∀p,gv (lI (ek l c) l v) p↔gv c p/\0<=l.value p:=by
  intro p;constructor
  .intro h
   refine⟨fun s hs=>?_,h ⟨l,v⟩ (qr.2 (.inl J))⟩;exact ug hne (fun p hp=>((hD p).1 hp).1 s hs) h
  .rintro ⟨h1,h2⟩ s hs
   rcases qr.1 hs with rfl|hs
   .exact h2
   .obtain⟨s1,m1,_,rfl⟩:=sr.1 hs
    exact h1 s1 m1
 refine⟨⟨hne,fun s hs=>?_,fun s hs=>?_⟩,hD⟩
 .rcases qr.1 hs with rfl|hs
  .exact hl
  .obtain⟨s1,m1,_,rfl⟩:=sr.1 hs
   exact hc.ok s1 m1
 .rcases qr.1 hs with rfl|hs
  .refine⟨v1,fun t=>?_⟩
   rw[hC];simp only;rw[v2];have h0:=mv hl.ne t;constructor
   .intro h;exact⟨h.2,by rw[h0];exact gS⟩
   .intro h;exact⟨Jk t,h.1⟩
  .obtain⟨s1,m1,hb,rfl⟩:=sr.1 hs
   obtain⟨p1,p2⟩:=hc.edge s1 m1;refine⟨BA p1 hb,fun t=>?_⟩;rw[hC];simp only;rw[DT hb,p2]
def bm.seg{c:ar}{e:Rat}(hq:bm c q)(hp:bm c p)(h0:0<=e)(h1:e<=1):bm c (kg q p e):=fun s hs=>by
 rw[lO];have a:=hq s hs;have b:=hp s hs;by_cases he:e=0
 .subst he;grind
 .have:=bD (a:=e) (by grind) b
  have:=cA (a:=1-e) (b:=s.l.value q) (by grind) (by grind);grind
def H8{v:ao}{t:Rat}(h:v.ins t):(∃u,u<t/\v.has u)/\ ∃u,t<u/\v.has u:=by
 obtain⟨lo,hi,nl,nh⟩:=v;unfold ao.ins at h;unfold ao.has;refine⟨⟨if nl=true then t-1 else lo,?_⟩,⟨if nh=true then t+1 else hi,?_⟩⟩<;>cases nl<;>cases nh<;>simp at* <;>grind
def Aj{a b c x y z:Nat}(h1:x*b=a*y)(h2:x*c=a*z)(g:Nat.gcd (Nat.gcd a b) c=1):a∣x:=by
 have e:x=Nat.gcd (Nat.gcd (x*a) (x*b)) (x*c):=by
  rw[Nat.gcd_mul_left,Nat.gcd_mul_left,g,jL]
 rw[e];exact Nat.dvd_gcd (Nat.dvd_gcd (Nat.dvd_mul_left ..) (h1▸Nat.dvd_mul_right ..)) (h2▸Nat.dvd_mul_right ..)
def axr{a b c x y z:Int}(h1:a*y=b*x)(h2:a*z=c*x)(h3:b*z=c*y)
  (g1:Nat.gcd (Nat.gcd a.natAbs b.natAbs) c.natAbs=1)(g2:Nat.gcd (Nat.gcd x.natAbs y.natAbs) z.natAbs=1):
  (a=x/\b=y/\c=z)\/(a= -x/\b= -y/\c= -z):=by
 have n1:a.natAbs*y.natAbs=b.natAbs*x.natAbs:=by rw[<-fR,<-fR,h1]
 have n2:a.natAbs*z.natAbs=c.natAbs*x.natAbs:=by rw[<-fR,<-fR,h2]
 have n3:b.natAbs*z.natAbs=c.natAbs*y.natAbs:=by rw[<-fR,<-fR,h3]
 generalize ha:a.natAbs=A at*;generalize hb:b.natAbs=B at*;generalize hc:c.natAbs=C at*;generalize hx:x.natAbs=X at*;generalize hy:y.natAbs=Y at*;generalize hz:z.natAbs=Z at*;have gB:Nat.gcd (Nat.gcd B A) C=1:=by rw[jN B A];exact g1
 have gC:Nat.gcd (Nat.gcd C A) B=1:=by rw[Nat.gcd_assoc,jN];exact g1
 have gY:Nat.gcd (Nat.gcd Y X) Z=1:=by rw[jN Y X];exact g2
 have gZ:Nat.gcd (Nat.gcd Z X) Y=1:=by rw[Nat.gcd_assoc,jN];exact g2
 have e1:A=X:=Nat.dvd_antisymm (Aj (x:=X) (y:=Y) (z:=Z) (by grind) (by grind) g1) (Aj (x:=A) (y:=B) (z:=C) (by grind) (by grind) g2);have e2:B=Y:=Nat.dvd_antisymm (Aj (x:=Y) (y:=X) (z:=Z) (by grind) (by grind) gB) (Aj (x:=B) (y:=A) (z:=C) (by grind) (by grind) gY);have e3:C=Z:=Nat.dvd_antisymm (Aj (x:=Z) (y:=X) (z:=Y) (by grind) (by grind) gC) (Aj (x:=C) (y:=A) (z:=B) (by grind) (by grind) gZ);have s1:a=x\/a= -x:=by omega
 have s2:b=y\/b= -y:=by omega
 have s3:c=z\/c= -z:=by omega
 clear ha hb hc hx hy hz n1 n2 n3 g1 g2 gB gC gY gZ e1 e2 e3;have z1:= @pM x y;have z2:= @pM x z;have z3:= @pM y z;rcases s1 with rfl|rfl<;>rcases s2 with rfl|rfl<;>rcases s3 with rfl|rfl<;>grind
def w5{l:ah}(hl:l.ok)(hm:m.ok)(h: ∀t,l.value (m.at t)=0):l=m\/l=m.rev:=by
 have h0:=h 0;have h1:=h 1;rw[ly] at h0 h1;have hC:m.cutC l=0:=by grind
 have hK:m.cutK l=0:=by grind
 obtain⟨q,q1,q2⟩:=A6 hm.ne;have hn:=ni hm.ne;unfold ah.cutC at hC;rw[q2,jb] at hC;unfold ah.cutK at hK;simp only[ah.nor,ah.dir,aa.dot] at hK q1 hn hC;obtain⟨a,b,c⟩:=l;obtain⟨x,y,z⟩:=m;simp only at*;have e1:a*y=b*x:=by
  have:((a*y:Int):Rat)=((b*x:Int):Rat):=by rw[cX,cX];grind
  exact rY.1 this
 have e2:a*z=c*x:=by
  have:((a*z:Int):Rat)=((c*x:Int):Rat):=by rw[cX,cX];grind
  exact rY.1 this
 have e3:b*z=c*y:=by
  have:((b*z:Int):Rat)=((c*y:Int):Rat):=by rw[cX,cX];grind
  exact rY.1 this
 rcases axr e1 e2 e3 hl.2 hm.2 with⟨rfl,rfl,rfl⟩|⟨rfl,rfl,rfl⟩
 .exact .inl J
 .exact .inr J
def ah.ok.rev{l:ah}(h:l.ok):l.rev.ok:=by
 obtain⟨h1,h2⟩:=h;refine⟨?_,?_⟩
 .simp only[ah.rev];omega
 .simp only[ah.rev,jX];exact h2
def NF(l:ah): ∀c:ar,(∀s∈c,pk l s<=0/\s.l≠l)-> ¬0<oD l c
 |[],_=>by simp[oD]
 |s::c,h=>by
  have h':=eJ.1 h;unfold oD;rw[if_neg h'.1.2];split
  .have:=h'.1.1;omega
  .exact NF l c h'.2
def Tx{c:ar}{l:ah}(hc:bC c)(hl:l.ok)(hp:kd c l=none):
  (0<oD l c/\ ∀p,bm c p->0<l.value p)\/(¬0<oD l c/\ ∀p,bm c p->l.value p<0):=by
 have hoff:=fun p (h:bm c p)=>azX hl.ne hp h;by_cases hq: ∃q,bm c q/\0<l.value q
 .left
  obtain⟨q,hq,lq⟩:=hq;have hall: ∀p,bm c p->0<l.value p:=by
   intro p h;have:=hoff p h;by_cases h0:0<l.value p
   .exact h0
   .exfalso
    have hn:l.value p<0:=by grind
    have e1:l.value q/(l.value q-l.value p)*(l.value q-l.value p)=l.value q:=by grind
    generalize l.value q/(l.value q-l.value p)=e at*;have f0:0<=e:=(ip (k:=l.value q-l.value p) (by grind)).1 (by grind);have f1:e<=1:=by
     have:=(ip (s:=1-e) (k:=l.value q-l.value p) (by grind)).1 (by grind);grind
    exact hoff _ (hq.seg h f0 f1) (by rw[lO];grind)
  refine⟨?_,hall⟩
  cases c with
  |nil=>simp[kd,nq] at hp
  |cons s c=>
   obtain⟨p1,p2⟩:=hc.edge s aQ;have hi:=oy p1;have hr:=ug hc.ne hall ((p2 _).1 hi.has);unfold oD;by_cases h0:pk l s=0
   .rw[if_neg (by simpa using h0)]
    have hz:l.value (s.l.at s.v.sample)=0:=(me _).1 h0;have hge: ∀t,s.v.has t->0<=l.value (s.l.at t):=fun t ht=>ug hc.ne hall ((p2 t).1 ht);obtain⟨⟨u1,m1,n1⟩,⟨u2,m2,n2⟩⟩:=H8 hi;have g1:=hge _ n1;have g2:=hge _ n2;rw[ly] at hz g1 g2;have hK:s.l.cutK l=0:=by
     rcases fg (s.l.cutK l) with h|h|h
     .exact h
     .exfalso
      have:=bD (a:=s.v.sample-u1) (b:=s.l.cutK l) (by grind) h;grind
     .exfalso
      have:=bD (a:=u2-s.v.sample) (b:= -s.l.cutK l) (by grind) (by grind);grind
    have hz2: ∀t,l.value (s.l.at t)=0:=fun t=>by rw[ly,hK];rw[hK] at hz;grind
    rcases w5 hl (hc.ok s aQ) hz2 with h|h
    .rw[if_pos h.symm];decide
    .exfalso
     have:=hall q hq;rw[h,dE] at this;have:=hq s aQ;grind
   .rw[if_pos h0]
    have hz:l.value (s.l.at s.v.sample)≠0:=fun e=>h0 ((me _).2 e);exact(kC _).2 (by grind)
 .right
  have hall: ∀p,bm c p->l.value p<0:=fun p h=>by
   have:=hoff p h;have: ¬0<l.value p:=fun h'=>hq ⟨p,h,h'⟩;grind
  refine⟨NF l c fun s hs=>?_,hall⟩;obtain⟨p1,p2⟩:=hc.edge s hs;have hr:=ug (m:=l.rev) hc.ne (fun p h=>by rw[dE];have:=hall p h;grind) ((p2 _).1 (oy p1).has);rw[dE] at hr;constructor
  .have: ¬0<pk l s:=fun h=>by have:=(kC _).1 h;grind
   omega
  .rintro rfl
   obtain⟨p,hp⟩:=hc.ne;have:=hall p hp;have:=hp s hs;grind
def pe{c:ar}{l:ah}(hc:bC c)(hl:l.ok):cx c l=true↔ ∃p,bm c p/\0<l.value p:=by
 unfold cx
 cases hp:kd c l with
 |some v=>exact⟨fun _=>(GR hl.ne hp).1,fun _=>J⟩
 |none=>
  simp only[wC,hp,Option.isSome_none,kR,if_false,decide_eq_true_iff];rcases Tx hc hl hp with⟨h1,h2⟩|⟨h1,h2⟩
  .refine⟨fun _=>?_,fun _=>h1⟩
   obtain⟨p,hp⟩:=hc.ne;exact⟨p,hp,h2 p hp⟩
  .refine⟨fun h=>absurd h h1,?_⟩
   rintro ⟨p,hp,h⟩;have:=h2 p hp;grind
def gH{c:ar}{l:ah}(hc:bC c)(hl:l.ok)(hb:cx c l=true):bC (bB c l)/\ ∀p,bm (bB c l) p↔bm c p/\0<l.value p:=by
 unfold bB
 cases hp:kd c l with
 |some v=>exact axa hc hl hp
 |none=>
  refine⟨hc,fun p=>?_⟩;unfold cx at hb;simp only[hp,wC,Option.isSome_none,kR,if_false,decide_eq_true_iff] at hb;rcases Tx hc hl hp with⟨h1,h2⟩|⟨h1,h2⟩
  .exact⟨fun h=>⟨h,h2 p h⟩,fun h=>h.1⟩
  .exact absurd hb h1
def My{c:ar}{l:ah}(hl:l.ok)(hp:bm c p)(h0:l.value p=0):(∃q,bm c q/\0<l.value q)/\ ∃q,bm c q/\l.value q<0:=by
 have hn:=ni hl.ne;constructor
 .obtain⟨e,he,hm⟩:=hp.open l.nor
  refine⟨_,hm e (cM he) gS,?_⟩;rw[gi,h0];have:=bD he hn;grind
 .obtain⟨e,he,hm⟩:=hp.open ⟨-l.nor.x, -l.nor.y⟩
  refine⟨_,hm e (cM he) gS,?_⟩;rw[gi,h0];have:=bD he hn;simp only[aa.dot] at this⊢;grind
inductive aLG (c:ar) (l:ah):Prop
 |left (h1:cx c l.rev=false) (h: ∀p,bm c p->0<l.value p)
 |right (h1:cx c l.rev=true) (h2:cx c l=false) (h: ∀p,bm c p->l.value p<0)
 |both (h1:cx c l.rev=true) (h2:cx c l=true) (g1:bC (bB c l)) (g2:bC (bB c l.rev))
   (e1: ∀p,bm (bB c l) p↔bm c p/\0<l.value p) (e2: ∀p,bm (bB c l.rev) p↔bm c p/\l.value p<0)
def wG{c:ar}{l:ah}(hc:bC c)(hl:l.ok):aLG c l:=by
 have hr:=pe hc hl.rev;have hi:=pe hc hl
 cases h1:cx c l.rev with
 |false=>
  refine .left h1 fun p hp=>?_;have hn: ¬ ∃q,bm c q/\l.value q<0:=by
   rintro ⟨q,a,b⟩;have:=hr.2 ⟨q,a,by rw[dE];grind⟩;rw[h1] at this;exact absurd this (by decide)
  have n1: ¬l.value p<0:=fun h=>hn ⟨p,hp,h⟩;have n2:l.value p≠0:=fun h=>hn (My hl hp h).2;grind
 |true=>
  cases h2:cx c l with
  |false=>
   refine .right h1 h2 fun p hp=>?_;have hn: ¬ ∃q,bm c q/\0<l.value q:=by
    intro h;have:=hi.2 h;rw[h2] at this;exact absurd this (by decide)
   have n1: ¬0<l.value p:=fun h=>hn ⟨p,hp,h⟩;have n2:l.value p≠0:=fun h=>hn (My hl hp h).1;grind
  |true=>
   obtain⟨g1,e1⟩:=gH hc hl h2;obtain⟨g2,e2⟩:=gH hc hl.rev h1;refine .both h1 h2 g1 g2 e1 fun p=>?_;rw[e2,dE];constructor<;>rintro ⟨a,b⟩<;>exact⟨a,by grind⟩
def Tr.restrict_A{l:ah}(X Y:Tr)(h:cx e l.rev=false):(Tr.node l X Y).restrict e=X.restrict e:=by
 rw[Tr.restrict,h];rfl
def Tr.restrict_B{l:ah}(X Y:Tr)(h:cx e l.rev=true)(h2:cx e l=false):(Tr.node l X Y).restrict e=Y.restrict e:=by
 rw[Tr.restrict,h,h2];rfl
def Tr.restrict_C{l:ah}(X Y:Tr)(h:cx e l.rev=true)(h2:cx e l=true):(Tr.node l X Y).restrict e=Tr.joinQ l (X.restrict (bB e l)) (Y.restrict (bB e l.rev)):=by
 rw[Tr.restrict,h,h2];rfl
def jm:List ah->ar->Option ar
 |[],c=>some c
 |l::t,c=>if cx c l then jm t (bB c l) else none
def Ko: ∀{ls:List ah} {c e:ar},bC c->(∀l∈ls,l.ok)->jm ls c=some e->bC e/\ ∀p,bm e p↔bm c p/\ ∀l∈ls,0<l.value p
 |[],c,e,hc,_,h=>by
  obtain rfl:c=e:=by simpa[jm] using h
  exact⟨hc,fun p=>⟨fun h=>⟨h,fun l hl=>absurd hl (by simp)⟩,fun h=>h.1⟩⟩
 |l::t,c,e,hc,hl,h=>by
  have hl':=eJ.1 hl;rw[jm] at h;split at h
  .rename_i hb
   obtain⟨g1,g2⟩:=gH hc hl'.1 hb;obtain⟨k1,k2⟩:=Ko g1 hl'.2 h;refine⟨k1,fun p=>?_⟩;rw[k2,g2,eJ,and_assoc]
  .exact absurd h (by simp)
def GA: ∀{ls:List ah} {c:ar},bC c->(∀l∈ls,l.ok)->(∃p,bm c p/\ ∀l∈ls,0<l.value p)-> ∃e,jm ls c=some e
 |[],c,_,_,_=>⟨c,J⟩
 |l::t,c,hc,hl,⟨p,h1,h2⟩=>by
  have hl':=eJ.1 hl;have h2':=eJ.1 h2;have hb:=(pe hc hl'.1).2 ⟨p,h1,h2'.1⟩;obtain⟨g1,g2⟩:=gH hc hl'.1 hb;rw[jm,if_pos hb];exact GA g1 hl'.2 ⟨p,(g2 p).2 ⟨h1,h2'.1⟩,h2'.2⟩
def MH{c:ar}(hc:bC c){s:bu}(hs:s∈c)(hm:m.ok)(h: ∀p,bm c p->0<m.value p)(hz:m.value (s.l.at s.v.sample)=0):m=s.l:=by
 obtain⟨p1,p2⟩:=hc.edge s hs;have hi:=oy p1;have hge: ∀t,s.v.has t->0<=m.value (s.l.at t):=fun t ht=>ug hc.ne h ((p2 t).1 ht);obtain⟨⟨u1,m1,n1⟩,⟨u2,m2,n2⟩⟩:=H8 hi;have g1:=hge _ n1;have g2:=hge _ n2;rw[ly] at hz g1 g2;have hK:s.l.cutK m=0:=by
  rcases fg (s.l.cutK m) with h|h|h
  .exact h
  .exfalso
   have:=bD (a:=s.v.sample-u1) (b:=s.l.cutK m) (by grind) h;grind
  .exfalso
   have:=bD (a:=u2-s.v.sample) (b:= -s.l.cutK m) (by grind) (by grind);grind
 have hz2: ∀t,m.value (s.l.at t)=0:=fun t=>by rw[ly,hK];rw[hK] at hz;grind
 rcases w5 hm (hc.ok s hs) hz2 with h'|h'
 .exact h'
 .exfalso
  obtain⟨q,hq⟩:=hc.ne;have:=h q hq;rw[h',dE] at this;have:=hq s hs;grind
def ge(l:ah):List ah->ao->Option ao
 |[],v=>some v
 |m::t,v=>if m=l then ge l t v else if l.cutB v m then ge l t (l.cutV v m) else none
def f9(c:List ah)(p:aa):Prop:= ∀m∈c,0<m.value p
def F4(l:ah): ∀(c:List ah) (v w:ao),v.Pos->ge l c v=some w->
  w.Pos/\(∀t,w.ins t↔v.ins t/\ ∀m∈c,m≠l->0<m.value (l.at t))
 |[],v,w,hv,h=>by
  obtain rfl:v=w:=by simpa[ge] using h
  exact⟨hv,fun t=>⟨fun h=>⟨h,fun s hs=>absurd hs (by simp)⟩,fun h=>h.1⟩⟩
 |m::c,v,w,hv,h=>by
  rw[ge] at h;split at h
  .rename_i hm
   obtain⟨h1,h2⟩:=F4 l c _ w hv h;refine⟨h1,fun t=>?_⟩;rw[h2,eJ];exact⟨fun h=>⟨h.1,fun h'=>absurd hm h',h.2⟩,fun h=>⟨h.1,h.2.2⟩⟩
  .rename_i hm
   split at h
   .rename_i hb
    obtain⟨h1,h2⟩:=F4 l c _ w (BA hv hb) h;refine⟨h1,fun t=>?_⟩;rw[h2,Su hb,eJ,and_assoc];exact⟨fun h=>⟨h.1,fun _=>h.2.1,h.2.2⟩,fun h=>⟨h.1,h.2.1 hm,h.2.2⟩⟩
   .exact absurd h (by simp)
def JE(l:ah): ∀(c:List ah) (v:ao),v.Pos->ge l c v=none-> ∀t,v.has t-> ¬ ∀m∈c,m≠l->0<m.value (l.at t)
 |[],v,hv,h=>by simp[ge] at h
 |m::c,v,hv,h=>by
  intro t ht hd;have hd':=eJ.1 hd;rw[ge] at h;split at h
  .exact JE l c _ hv h t ht hd'.2
  .rename_i hm
   split at h
   .rename_i hb
    exact JE l c _ (BA hv hb) h t ((DT hb t).2 ⟨ht,cM (hd'.1 hm)⟩) hd'.2
   .rename_i hb
    have:=KK hv (by simpa using hb) ht;have:=hd'.1 hm;grind
def ml(c:List ah):Bool:=c.isEmpty||c.any (fun l=>(ge l c ao.all).isSome)
def M6: ∀{ls:List ah} {c e:ar},jm ls c=some e-> ∀s∈e,s.l∈ls\/ ∃s'∈c,s'.l=s.l
 |[],c,e,h,s,hs=>by
  obtain rfl:c=e:=by simpa[jm] using h
  exact .inr ⟨s,hs,J⟩
 |l::t,c,e,h,s,hs=>by
  rw[jm] at h;split at h
  .rcases M6 h s hs with h1|⟨s',h1,h2⟩
   .exact .inl (aJ _ h1)
   .unfold bB at h1
    split at h1
    .rcases qr.1 h1 with rfl|h1
     .exact .inl (by rw[<-h2];exact aQ)
     .obtain⟨s1,m1,_,rfl⟩:=sr.1 h1
      exact .inr ⟨s1,m1,h2⟩
    .exact .inr ⟨s',h1,h2⟩
  .exact absurd h (by simp)
def Cx{c:List ah}(hok: ∀l∈c,l.ok)(hne: ∃p,f9 c p): ∃e,jm c []=some e/\bC e/\(∀p,bm e p↔f9 c p)/\ ∀s∈e,s.l∈c/\(ge s.l c ao.all).isSome=true:=by
 obtain⟨p,hp⟩:=hne;obtain⟨e,he⟩:=GA bC.nil hok ⟨p,fun s hs=>absurd hs (by simp),hp⟩;obtain⟨g1,g2⟩:=Ko bC.nil hok he;have g3: ∀p,bm e p↔f9 c p:=fun p=>by
  rw[g2];exact⟨fun h=>h.2,fun h=>⟨fun s hs=>absurd hs (by simp),h⟩⟩
 refine⟨e,he,g1,g3,fun s hs=>?_⟩;have hm:s.l∈c:=by
  rcases M6 he s hs with h|⟨_,h,_⟩
  .exact h
  .exact absurd h (by simp)
 refine⟨hm,?_⟩
 cases hp:ge s.l c ao.all with
 |some w=>rfl
 |none=>
  exfalso;obtain⟨p1,p2⟩:=g1.edge s hs;have hC:=(p2 s.v.sample).1 (oy p1).has;refine JE s.l c _ As hp s.v.sample (Jk _) fun m hmc hne=>?_;have hall: ∀p,bm e p->0<m.value p:=fun p hp=>(g3 p).1 hp m hmc;have h0:=ug g1.ne hall hC;have h1:m.value (s.l.at s.v.sample)≠0:=fun hz=>hne (MH g1 hs (hok m hmc) hall hz);grind
def Lh{c:List ah}(hok: ∀l∈c,l.ok):ml c=true↔ ∃p,f9 c p:=by
 unfold ml;rw[iK,List.isEmpty_iff,gQ];constructor
 .rintro (rfl|⟨l,hl,h⟩)
  .exact⟨⟨0,0⟩,fun m hm=>absurd hm (by simp)⟩
  .obtain⟨w,hw⟩:=rZ.1 h
   obtain⟨w1,w2⟩:=F4 l c _ w As hw;have hi:=((w2 w.sample).1 (oy w1)).2;have h0:=mv (hok l hl).ne w.sample;have hd:bm ((c.filter (fun m=>decide (m≠l))).map (fun m=>(⟨m,ao.all⟩:bu))) (l.at w.sample):=by
    intro s hs;obtain⟨m,hm,rfl⟩:=aU.1 hs;rw[iR,decide_eq_true_iff] at hm;exact hi m hm.1 hm.2
   obtain⟨e,he,ho⟩:=hd.open l.nor;refine⟨b8 (l.at w.sample) l.nor e,fun m hm=>?_⟩;by_cases hml:m=l
   .subst hml
    rw[gi,h0];have:=bD he (ni (hok m hl).ne);grind
   .exact ho e (cM he) gS ⟨m,ao.all⟩ (aU.2 ⟨m,iR.2 ⟨hm,by simpa using hml⟩,J⟩)
 .intro hne
  obtain⟨e,h1,h2,h3,h4⟩:=Cx hok hne
  cases c with
  |nil=>exact .inl J
  |cons l c=>
   right
   cases e with
   |nil=>
    exfalso;have:=(h3 (l.at 0)).1 (fun s hs=>absurd hs (by simp)) l aQ;rw[mv (hok l aQ).ne] at this;exact absurd this (by decide)
   |cons s e=>
    obtain⟨a,b⟩:=h4 s aQ;exact⟨s.l,a,b⟩
def n7(out:List ah)(l:ah):Nat:=(out.takeWhile (fun x=>decide (co x.dir l.dir<0))).length
def pO(out:List ah)(l:ah):List ah:=if out[n7 out l]? =some l then out else out.take (n7 out l)++l::out.drop (n7 out l)
def nO(c:List ah):List ah->List ah->List ah
 |[],out=>out
 |l::t,out=>nO c t (if(ge l c ao.all).isSome then pO out l else out)
def iH(c:List ah):List ah:=nO c c []
def GX{out:List ah}{l:ah}:m∈pO out l↔m=l\/m∈out:=by
 unfold pO;split
 .rename_i h
  exact⟨fun h=> .inr h,fun h'=>h'.elim (fun e=>e▸aV h) id⟩
 .generalize n7 out l=n
  have h:=kV n out;rw[aL,aK];constructor
  .rintro (h1|h1|h1)
   .exact .inr (eX h1)
   .exact .inl h1
   .exact .inr (gR h1)
  .rintro (h1|h1)
   .exact .inr (.inl h1)
   .rw[<-h,aL] at h1
    rcases h1 with h1|h1
    .exact .inl h1
    .exact .inr (.inr h1)
def Mj{c:List ah}{m:ah}: ∀{t out:List ah},m∈nO c t out↔m∈out\/m∈t/\(ge m c ao.all).isSome=true
 |[],out=>by simp[nO]
 |l::t,out=>by
  rw[nO,Mj];split
  .rename_i h
   rw[GX,aK];constructor
   .rintro ((rfl|h1)|⟨h1,h2⟩)
    .exact .inr ⟨.inl J,h⟩
    .exact .inl h1
    .exact .inr ⟨.inr h1,h2⟩
   .rintro (h1|⟨rfl|h1,h2⟩)
    .exact .inl (.inr h1)
    .exact .inl (.inl J)
    .exact .inr ⟨h1,h2⟩
  .rename_i h
   rw[aK];constructor
   .rintro (h1|⟨h1,h2⟩)
    .exact .inl h1
    .exact .inr ⟨.inr h1,h2⟩
   .rintro (h1|⟨rfl|h1,h2⟩)
    .exact .inl h1
    .exact absurd h2 h
    .exact .inr ⟨h1,h2⟩
def tH{c:List ah}:m∈iH c↔m∈c/\(ge m c ao.all).isSome=true:=by
 unfold iH;rw[Mj];simp
def Ug{c:List ah}(hok: ∀l∈c,l.ok)(hne: ∃p,f9 c p)(p:aa):f9 (iH c) p↔f9 c p:=by
 constructor
 .intro h
  obtain⟨e,h1,h2,h3,h4⟩:=Cx hok hne;exact(h3 p).1 fun s hs=>h s.l (tH.2 (h4 s hs))
 .intro h m hm;exact h m (tH.1 hm).1
def ue(c:List ah)(l:ah):Int:=if ml (c++[l])&&ml (c++[l.rev]) then 0 else if ml (c++[l]) then 1 else-1
def Tr.restrictL:Tr->List ah->Tr
 | .leaf b,_=> .leaf b
 | .node l x y,c=>if ue c l=1 then x.restrictL c else if ue c l= -1 then y.restrictL c else joinQ l (x.restrictL (iH (c++[l]))) (y.restrictL (iH (c++[l.rev])))
def vi{c:List ah}{l:ah}:f9 (c++[l]) p↔f9 c p/\0<l.value p:=by
 unfold f9;rw[sJ];simp
def oO{c:List ah}{l:ah}(hok: ∀m∈c,m.ok)(hl:l.ok): ∀m∈c++[l],m.ok:=by
 rw[sJ];exact⟨hok,by simpa using hl⟩
def Tr.restrictL_eq: ∀(t:Tr) (c:List ah) (d:ar),t.all ah.ok->(∀l∈c,l.ok)->bC d->(∀p,bm d p↔f9 c p)->t.restrictL c=t.restrict d
 | .leaf b,c,d,_,_,_,_=>rfl
 | .node l x y,c,d,h,hc,hd,he=>by
  obtain⟨hl,hx,hy⟩:=h;have i1:=Lh (oO hc hl);have i2:=Lh (oO hc hl.rev);obtain⟨p0,hp0⟩:=hd.ne;rcases wG hd hl with⟨a1,a⟩|⟨a1,a2,a⟩|⟨a1,a2,ag1,ag2,ae1,ae2⟩
  .have b1:ml (c++[l])=true:=i1.2 ⟨p0,vi.2 ⟨(he p0).1 hp0,a p0 hp0⟩⟩
   have b2:ml (c++[l.rev])=false:=by
    rw[<-jY,i2];rintro ⟨p,hp⟩;have hp:=vi.1 hp;have:=a p ((he p).2 hp.1);rw[dE] at hp;grind
   rw[Tr.restrict_A _ _ a1,Tr.restrictL,ue,b1,b2];exact x.restrictL_eq c d hx hc hd he
  .have b2:ml (c++[l.rev])=true:=i2.2 ⟨p0,vi.2 ⟨(he p0).1 hp0,by rw[dE];have:=a p0 hp0;grind⟩⟩
   have b1:ml (c++[l])=false:=by
    rw[<-jY,i1];rintro ⟨p,hp⟩;have hp:=vi.1 hp;have:=a p ((he p).2 hp.1);grind
   rw[Tr.restrict_B _ _ a1 a2,Tr.restrictL,ue,b1,b2];exact y.restrictL_eq c d hy hc hd he
  .have n1: ∃p,f9 (c++[l]) p:=by
    obtain⟨p,hp⟩:=ag1.ne;exact⟨p,vi.2 ⟨(he p).1 ((ae1 p).1 hp).1,((ae1 p).1 hp).2⟩⟩
   have n2: ∃p,f9 (c++[l.rev]) p:=by
    obtain⟨p,hp⟩:=ag2.ne;exact⟨p,vi.2 ⟨(he p).1 ((ae2 p).1 hp).1,by rw[dE];have:=((ae2 p).1 hp).2;grind⟩⟩
   rw[Tr.restrict_C _ _ a1 a2,Tr.restrictL,ue,i1.2 n1,i2.2 n2];have k1:=x.restrictL_eq (iH (c++[l])) (bB d l) hx (fun m hm=>oO hc hl m (tH.1 hm).1) ag1 fun p=>by
    rw[Ug (oO hc hl) n1,ae1,vi,he]
   have k2:=y.restrictL_eq (iH (c++[l.rev])) (bB d l.rev) hy (fun m hm=>oO hc hl.rev m (tH.1 hm).1) ag2 fun p=>by
    rw[Ug (oO hc hl.rev) n2,ae2,vi,he,dE];constructor<;>rintro ⟨a,b⟩<;>exact⟨a,by grind⟩
   rw[k1,k2];rfl
def crossI(l m:ah):Int:=l.a*m.b-m.a*l.b
def meetX(l m:ah):Int:=l.b*m.c-m.b*l.c
def meetY(l m:ah):Int:=m.a*l.c-l.a*m.c
def dm(l m:ah):aa:=if crossI l m=0 then⟨0,0⟩ else⟨(meetX l m:Rat)/(crossI l m:Rat),(meetY l m:Rat)/(crossI l m:Rat)⟩
def ju(l:ah)(p:aa):Rat:=p.dot l.dir/l.dir.dot l.dir
def KF(l:ah):l.dir.dot l.dir=l.nor.dot l.nor:=by
 simp only[ah.dir,ah.nor,aa.dot];grind
def CJ{l:ah}(h:l.Ne):0<l.dir.dot l.dir:=by rw[KF];exact ni h
def uO(l m:ah):((crossI l m:Int):Rat)=(l.a:Rat)*m.b-(m.a:Rat)*l.b:=by
 unfold crossI;rw[gL,cX,cX]
def IW(l m:ah):((meetX l m:Int):Rat)=(l.b:Rat)*m.c-(m.b:Rat)*l.c:=by
 unfold meetX;rw[gL,cX,cX]
def TH(l m:ah):((meetY l m:Int):Rat)=(m.a:Rat)*l.c-(l.a:Rat)*m.c:=by
 unfold meetY;rw[gL,cX,cX]
def E6(l m:ah):l.cutK m= -((crossI l m:Int):Rat):=by
 rw[uO];simp only[ah.cutK,ah.nor,ah.dir,aa.dot];grind
def Te(l m:ah):m.dir.cross l.dir=l.cutK m:=by
 simp only[ah.cutK,ah.nor,ah.dir,aa.dot,aa.cross];grind
def SA{l:ah}:(⟨-((l.c:Rat)/l.dir.dot l.dir)*(l.a:Rat), -((l.c:Rat)/l.dir.dot l.dir)*(l.b:Rat)⟩:aa)=l.base:=by
 unfold ah.base;rw[KF];simp only[ah.nor,aa.scale,aa.mk.injEq];constructor<;>grind
def An(l:ah)(t:Rat):b8 l.base l.dir t=l.at t:=by
 simp only[b8,ah.at,aa.add,aa.scale,aa.mk.injEq];constructor<;>grind
def Ea{l:ah}(hl:l.Ne)(h:crossI l m≠0):ju l (dm l m)= -(l.cutC m/l.cutK m):=by
 have hd:((crossI l m:Int):Rat)≠0:=fun e=>h (cR.1 e);have hn:=CJ hl;obtain⟨q,q1,q2⟩:=A6 hl;rw[E6];unfold ju dm ah.cutC;rw[if_neg h,q2,jb,IW,TH];have hc:=uO l m;rw[KF] at hn⊢;simp only[ah.dir,ah.nor,aa.dot] at hn q1⊢;generalize ((crossI l m:Int):Rat)=d at*;generalize (l.a:Rat)=a at*;generalize (l.b:Rat)=b at*;generalize (l.c:Rat)=c at*;generalize (m.a:Rat)=x at*;generalize (m.b:Rat)=y at*;generalize (m.c:Rat)=z at*;have hn':a*a+b*b≠0:=by grind
 have e:((b*z-y*c)/d*b+(x*c-a*z)/d* -a)=((b*z-y*c)*b-(x*c-a*z)*a)/d:=by grind
 rw[e];have k1:(b*z-y*c)*b-(x*c-a*z)*a=(a*a+b*b)*(x*(a*q)+y*(b*q)+z):=by grind
 rw[k1];grind
def atK{l:ah}(hl:l.Ne)(h:crossI l m≠0):ju l (dm l m)*((crossI l m*(l.a*l.a+l.b*l.b):Int):Rat)=((meetX l m*l.b-meetY l m*l.a:Int):Rat):=by
 have hd:((crossI l m:Int):Rat)≠0:=fun e=>h (cR.1 e);have hn:=CJ hl;unfold ju dm;rw[if_neg h];simp only[cX,gL,lU];simp only[ah.dir,aa.dot] at hn⊢;generalize ((crossI l m:Int):Rat)=d at*;generalize ((meetX l m:Int):Rat)=x at*;generalize ((meetY l m:Int):Rat)=y at*;generalize (l.a:Rat)=a at*;generalize (l.b:Rat)=b at*;have hn':b*b+ -a* -a≠0:=by grind
 grind
def HI(l m:ah)(t:List ah)(v:ao):ge l (m::t) v=if m=l then ge l t v else if l.cutB v m then ge l t (l.cutV v m) else none:=rfl
def pD(v:ao)(t:Rat):ao:=if v.nl=true\/0<bz t v.lo then⟨t,v.hi,false,v.nh⟩ else v
def pC(v:ao)(t:Rat):ao:=if v.nh=true\/bz t v.hi<0 then⟨v.lo,t,v.nl,false⟩ else v
structure il (v:ao):Prop where
 lo:v.nl=true->v.lo=0
 hi:v.nh=true->v.hi=0
def UO(a b:Rat):0<bz a b↔b<a:=by
 unfold bz;split
 .constructor
  .intro h;exact absurd h (by decide)
  .intro h;grind
 .split
  .exact⟨fun _=>by assumption,fun _=>by decide⟩
  .constructor
   .intro h;exact absurd h (by decide)
   .intro h;exact absurd h (by assumption)
def Qe(a b:Rat):bz a b<0↔a<b:=by
 unfold bz;split
 .exact⟨fun _=>by assumption,fun _=>by decide⟩
 .split
  .constructor
   .intro h;exact absurd h (by decide)
   .intro h;grind
  .constructor
   .intro h;exact absurd h (by decide)
   .intro h;exact absurd h (by assumption)
def SK{v:ao}(h:il v)(t:Rat):pD v t=v.meet ⟨t,0,false,true⟩:=by
 obtain⟨lo,hi,nl,nh⟩:=v;obtain⟨h1,h2⟩:=h;unfold pD ao.meet;simp only[UO] at*
 cases nl<;>cases nh<;>simp at* <;>(try (split<;>split<;>simp_all<;>grind))<;>grind
def QN{v:ao}(h:il v)(t:Rat):pC v t=v.meet ⟨0,t,true,false⟩:=by
 obtain⟨lo,hi,nl,nh⟩:=v;obtain⟨h1,h2⟩:=h;unfold pC ao.meet;simp only[Qe] at*
 cases nl<;>cases nh<;>simp at* <;>(try (split<;>split<;>simp_all<;>grind))<;>grind
def il.all:il ao.all:=⟨fun _=>J,fun _=>J⟩
def il.lo'{v:ao}(h:il v)(t:Rat):il (pD v t):=by
 obtain⟨lo,hi,nl,nh⟩:=v;unfold pD;split
 .exact⟨fun h=>by simp at h,h.hi⟩
 .exact h
def il.hi'{v:ao}(h:il v)(t:Rat):il (pC v t):=by
 obtain⟨lo,hi,nl,nh⟩:=v;unfold pC;split
 .exact⟨h.lo,fun h=>by simp at h⟩
 .exact h
def Ck{l:ah}{v:ao}(h:crossI l m=0):l.cutV v m=v/\(l.cutB v m=true↔0<m.value l.base):=by
 have hk:l.cutK m=0:=by rw[E6,h];rfl
 exact CD v hk
def aC2{l:ah}{v:ao}(hl:l.Ne)(hz:il v)(h:0<m.dir.cross l.dir):crossI l m≠0/\l.cutV v m=pD v (ju l (dm l m))/\l.cutB v m=!(pD v (ju l (dm l m))).empty:=by
 rw[Te] at h;have hc:crossI l m≠0:=fun e=>by rw[E6,e] at h;exact absurd h (by decide)
 obtain⟨h1,h2⟩:=AV v h;refine⟨hc,?_,?_⟩
 .rw[SK hz,Ea hl hc,h1]
 .rw[SK hz,Ea hl hc,<-h1]
  rw[<-D5] at h2
  cases hb:l.cutB v m<;>cases he:(l.cutV v m).empty<;>simp_all
def WA{l:ah}{v:ao}(hl:l.Ne)(hz:il v)(h0:crossI l m≠0)(h: ¬0<m.dir.cross l.dir):l.cutV v m=pC v (ju l (dm l m))/\l.cutB v m=!(pC v (ju l (dm l m))).empty:=by
 rw[Te] at h;have hk:l.cutK m≠0:=fun e=>by
  rw[E6] at e;have:((crossI l m:Int):Rat)=0:=by grind
  exact h0 (cR.1 this)
 obtain⟨h1,h2⟩:=AH (l:=l) (m:=m) v (by grind);refine⟨?_,?_⟩
 .rw[QN hz,Ea hl h0,h1]
 .rw[QN hz,Ea hl h0,<-h1]
  rw[<-D5] at h2
  cases hb:l.cutB v m<;>cases he:(l.cutV v m).empty<;>simp_all
def relo(fl:Nat->Bool)(o:aA):aA:={o with lo:=fl o.b}
structure ir (P:Program) (f:FuncId) (vs:List Value) (M:List aA) (G:Gh) (K:Value->List aA->Gh->Prop):Prop where
 able:qm P f
 run: ∀w,bF ⟨w,G,M.map (·.b),[],[],none,fun _=>none⟩ (asB M) G w->
  Calls P f ⟨vs⟩ w fun e w'=> ∃v own' G',e= .returned v/\bF ⟨w,G,M.map (·.b),[],[],none,fun _=>none⟩ own' G' w'/\K v own' G'
def gw(M:List aA)(b:Nat):Bool:=M.all fun m=>!Nat.beq m.b b||m.lo
def bF.calledO(h:bF C (M++rest) G w)(k:bF ⟨w,G,M.map (·.b),[],[],none,fun _=>none⟩ own' G' w'):
  bF C (own'.map (relo (gw M))++rest) G' w':=by
 have hsz:w.heap.size<=w'.heap.size:=k.size;have hnd:=h.nd;have inM: ∀b,b∈M.map (·.b)-> ∀o∈rest,o.b≠b:=fun b hb o ho e=>by
  obtain⟨m,hm,rfl⟩:=aU.1 hb;exact(gT.1 hnd).2.2 m hm o ho e.symm
 have bnd: ∀o∈own',o.b∉M.map (·.b)->w.heap.size<=o.b:=fun o ho hb=>by
  obtain⟨_,_,h3,h4⟩:=k.hown o ho
  cases hlo:o.lo with
  |true=>exact h3 hlo
  |false=>exact absurd (h4 hlo) hb
 refine⟨k.os.trans h.os,k.tape.trans h.tape,k.output.trans h.output,cS h.size hsz,?_,k.sub,h.gle.trans k.gle,?_,?_,?_,cS h.dr k.dr,fun p hp=>⟨(h.ext p hp).1,by rw[k.keep _ (iv (h.ext p hp).2) (h.extM hp)];exact(h.ext p hp).2⟩⟩
 .intro b hb hm
  have hs:=h.size;have hnM:b∉M.map (·.b):=fun hb'=>by
   obtain⟨m,hmM,rfl⟩:=aU.1 hb';obtain⟨_,_,h3,h4⟩:=h.hown m (bK _ hmM)
   cases hlo:m.lo with
   |true=>have:=h3 hlo;omega
   |false=>exact hm (h4 hlo)
  rw[k.keep b (by show b<w.heap.size;omega) hnM];exact h.keep b hb hm
 .intro b hb;have:=h.size;rw[k.gold b (by show b<w.heap.size;omega)];exact h.gold b hb
 .intro o ho
  have hs:=h.size;rcases aL.1 ho with ho|ho
  .obtain⟨o',ho',rfl⟩:=aU.1 ho
   obtain⟨k1,k2,k3,k4⟩:=k.hown _ ho';refine⟨k1,k2,fun hl=>?_,fun hl=>?_⟩
   .show C.w0.heap.size<=o'.b
    by_cases hb:o'.b∈M.map (·.b)
    .obtain⟨m,hm,hmb⟩:=aU.1 hb
     have hl':gw M o'.b=true:=hl;have:=dW.1 hl' m hm;simp only[hmb,iK,iU,oU] at this;obtain⟨_,_,h3,_⟩:=h.hown m (bK _ hm);rw[<-hmb];exact h3 (by rcases this with h|h;(cases h);(exact h))
    .have:=bnd o' ho' hb;omega
   .show o'.b∈C.mb
    have hl':gw M o'.b=false:=hl;obtain⟨m,hm,hmb⟩:=List.all_eq_false.1 hl';simp only[iK,iU,not_or] at hmb;obtain⟨h1,h2⟩:=hmb;have e:m.b=o'.b:=by
     cases hq:Nat.beq m.b o'.b with
     |true=>exact aM hq
     |false=>exact absurd hq h1
    obtain⟨_,_,_,h4⟩:=h.hown m (bK _ hm);rw[<-e];exact h4 (by cases hq:m.lo with
     |true=>exact absurd hq h2
     |false=>rfl)
  .obtain⟨h1,h2,h3⟩:=h.hown o (bQ _ ho)
   have hnM:o.b∉M.map (·.b):=fun hb=>inM _ hb o ho J;exact⟨by rw[k.keep _ (iv h1) hnM];exact h1,by rw[k.gold _ (iv h1)];exact h2,h3⟩
 .refine gT.2 ⟨?_,(gT.1 hnd).2.1,?_⟩
  .rw[rN];exact k.nd
  .intro x hx y hy
   obtain⟨o',ho',rfl⟩:=aU.1 hx;show o'.b≠y.b;by_cases hb:o'.b∈M.map (·.b)
   .exact fun e=>inM _ hb y hy e.symm
   .have h1:=bnd o' ho' hb
    have h2:=iv (h.hown y (bQ _ hy)).1;omega
def rE(C:aG)(K:Value->List aA->Gh->Prop):Ending->World->Prop:=fun e w'=> ∃v own' G',e= .returned v/\bF C own' G' w'/\K v own' G'
def ir.introR{fn:Func}{c:Code}{m:Nat}(hf:P.funcs[f]? =some fn)(hb:fn.body=some c)(hn:(fn.name== "runtime.NumGoroutine")=false)(hm:fn.ntmps=m)(hlen:Nat.ble vs.length m=true)
  (h: ∀C:aG,C.G0=G->C.mb=M.map (·.b)->C.rd=none->(C.fx=fun _=>none)->St C m (nG 0 vs) (asB M) G (c.wp P (fp C P fn (rE C K)))):ir P f vs M G K:=by
 refine⟨⟨fn,hf,hn,by simp[hb]⟩,fun w hw=>?_⟩;have hlen':vs.length<=m:=by simpa using hlen
 have:=calls_of_wp (P:=P) (f:=f) (args:=⟨vs⟩) (w:=w) (R:=rE ⟨w,G,M.map (·.b),[],[],none,fun _=>none⟩ K) hf hb (wp_mono (h ⟨w,G,M.map (·.b),[],[],none,fun _=>none⟩ J J J J _ w
  ⟨hw,by simp;omega,fun k v hk=>by
   obtain⟨j,rfl,hj⟩:=wH vs 0 k v hk;have hj':=(aS.1 hj).1;rw[kS (by simpa using hj')];simpa using hj,J⟩) fun _ _ _ k=>k J)
 exact this
def ir.intro{fn:Func}{c:Code}{m:Nat}(hf:P.funcs[f]? =some fn)(hb:fn.body=some c)(hn:(fn.name== "runtime.NumGoroutine")=false)(hm:fn.ntmps=m)(hlen:Nat.ble vs.length m=true)
  (h: ∀C:aG,C.G0=G->C.mb=M.map (·.b)->St C m (nG 0 vs) (asB M) G (c.wp P (fp C P fn (rE C K)))):ir P f vs M G K:=
 ir.introR hf hb hn hm hlen fun C a b _ _=>h C a b
section
variable {own:List aA}
variable {t:TypeId}{gd:Option (Nat×Bool)}
def wD{fn:Func}(hr:ke P fr own fn.results.toList vs)(own2 own3:List aA)(hp:own.Perm own2)(hs:own3.Sublist own2)(hk:K (ph vs) own3 G):St C n fr own G (fp C P fn (rE C K) .ret):=
 fun a w rl hmk=>⟨rl.df.trans hmk,_,tf hr rl.fr rl.h,_,own3,G,J,(rl.h.perm hp).drop hs,hk⟩
def MV(ho:aD fr fo=some (.func (.func f) ⟨c1⟩ ⟨c2⟩))(hv:fC fr args.toList=some vs)
  (hp:own.Perm (M++rest))(hF:ir P f (c1++vs++c2) M G K)(hd:cd n dst=true)(h: ∀v own1 (G':Gh),[GE G G']->K v own1 G'->St C n (put fr dst v) (own1.map (relo (gw M))++rest) G' Φ):
  Ch P C n fr own G ⟨dst, .call ⟨.value fo,args,tys⟩,ty',pos,af,gd⟩ Φ:=by
 intro a w Q rl;have h2:=Fw (P:=P) (dst:=dst) (ty':=ty') (pos:=pos) (af:=af) (gd:=gd) (tys:=tys) (w:=w) hF.able rl.fr ho hv;simp only[Oper.wp,h2,Oper.upon];have hh0:=rl.h.perm hp;refine(hF.run w hh0.lend).mono ?_;rintro e w' ⟨v,own1,G',rfl,hh,hK⟩;exact @h v own1 G' ⟨hh.gle⟩ hK _ _ ((rl.heap (hh0.calledO hh)).put _ hd)
def u7(ho:aD fr fo=some (.func (.func f) #[] #[]))(hv:fC fr args.toList=some vs)
  (hp:own.Perm (M++rest))(hF:ir P f vs M G K)(hd:cd n dst=true)(h: ∀v own1 (G':Gh),[GE G G']->K v own1 G'->St C n (put fr dst v) (own1.map (relo (gw M))++rest) G' Φ):
  Ch P C n fr own G ⟨dst, .call ⟨.value fo,args,tys⟩,ty',pos,af,gd⟩ Φ:=
 MV (c1:=[]) (c2:=[]) ho hv hp (by simpa using hF) hd h
def aF6{b:Nat}{cs:List Value}{lo:Bool}(hC:C.mb=[])(h:St C n fr (⟨b,cs,ty,true⟩::own) G Φ):St C n fr (⟨b,cs,ty,lo⟩::own) G Φ:=by
 intro a w rl
 cases lo with
 |true=>exact h a w rl
 |false=>
  have:=(rl.h.hown _ aQ).2.2.2 J;rw[hC] at this;cases this
end
section
variable {own:List aA}
variable {t:TypeId}{gd:Option (Nat×Bool)}{e:Nat}
def Eu{v:Value}{b k:Nat}{cs:List Value}{lo:Bool}(hx:aD fr x=some (.pointer (some ⟨b,off,none⟩)))(hy:aD fr y=some v)[hs:lh P t k][ho:iI own b cs ty lo]
  (hc:cF cs off (aF v)=cs')(hu:ik own b cs ty lo cs' own')(hk:(aF v).length=k)(hl:off+k<=cs.length)(hf:(aF v).all flat=true)(hd:cd n dst=true)(h:St C n (put fr dst undef) own' G Φ):
  Ch P C n fr own G ⟨dst, .store t x y,ty',pos,af,gd⟩ Φ:=Fh hx hy (hc▸hu) hk hl hf hd h
def yn{v:Value}{b:Nat}{cs:List Value}{lo:Bool}(hx:aD fr x=some (.pointer (some ⟨b,off,none⟩)))(hy:aD fr y=some v)[hs:j' P t][ho:iI own b cs ty lo]
  (hc:cs.set off v=cs')(hu:ik own b cs ty lo cs' own')(hl:off<cs.length)(hf:flat v=true)(hd:cd n dst=true)(h:St C n (put fr dst undef) own' G Φ):
  Ch P C n fr own G ⟨dst, .store t x y,ty',pos,af,gd⟩ Φ:=vW hx hy (hc▸hu) hl hf hd h
def aH1[hT:ck P t e s by_]{len:Nat}(hx:aD fr x=some (.slice ad len cap)):
  Yd P C fr own G ⟨dst, .call ⟨.builtin .cap, #[x], #[t]⟩,ty',pos,af,gd⟩ (.int .i64 cap):=by
 intro a w hf hh;simp only[execOp,resolve,iY,bU,gN,bw hf hx];have h1:(Builtin.cap_ #[t] ty' #[.slice ad len cap]).run P w= .ok (.int .i64 cap) w:=by
  simp only[Builtin.cap_];show(underlying t>>=_).run P w=_;rw[bh (hT.u w)];rfl
 exact c7 h1
def Ve[hT:ck P t e s by_]{b l c c2 m:Nat}{cs:List Value}(hm:Nat.min l2 l=m)
  (hb:w.heap[b]? =some (.cells ⟨cs⟩ ty (0,0)))(hsy:(Builtin.firstCells s m (.slice ad2 l2 c2)).run P w= .ok ⟨ys⟩ w)(hf: ∀v∈ys,flat v=true)(hl:off+ys.length<=cs.length):
  (Builtin.copy_ #[t,t'] ty' #[.slice (some ⟨b,off,none⟩) l c, .slice ad2 l2 c2]).run P w=
   .ok (.int .i64 m) (gI w b (.cells ⟨cF cs off ys⟩ ty (0,0))):=by
 obtain⟨i,hi,his,hib⟩:=hT.info;subst his;have hst:=Av (P:=P) ys w off 0 cs hf hb (by omega);rw[fS] at hst;subst hm;simp[Builtin.copy_,run_underlying hT.un,sizeOf,typeInfo,hi,Builtin.lenOf,hsy,hst];rfl
def Qo[hT:ck P t e s by_]{b l c c2 m:Nat}{cs:List Value}{lo:Bool}(hx:aD fr x=some (.slice (some ⟨b,off,none⟩) l c))(hy:aD fr y=some (.slice ad2 l2 c2))
  (hm:Nat.min l2 l=m)(hsy:m8 P C own G s m (.slice ad2 l2 c2) ys)(hf: ∀v∈ys,flat v=true)(hl:off+ys.length<=cs.length)(hu:ik own b cs ty lo (cF cs off ys) own')(hd:cd n dst=true)
  (h:St C n (put fr dst (.int .i64 m)) own' G Φ):Ch P C n fr own G ⟨dst, .call ⟨.builtin .copy, #[x,y], #[t,t']⟩,ty',pos,af,gd⟩ Φ:=by
 intro a w Q rl;have hb:=(rl.h.hown _ (hu.spec rl.h.nd).1).1;refine jP (v:= .int .i64 m) (w':=gI w b (.cells ⟨cF cs off ys⟩ ty (0,0))) ?_ (h _ _ ((rl.heap (rl.h.store hu)).put _ hd));simp only[execOp,resolve,iY,bU,gN,bw rl.fr hx,bw rl.fr hy];exact c7 (Ve hm hb (hsy w rl.h) hf hl)
def Tm[hT:ck P t e s by_][hN:jy P t']{b len m:Nat}{cs:List Value}{lo:Bool}
  (hx:aD fr x=some (.slice (some ⟨b,0,none⟩) len cap))(hy:aD fr y=some (.slice ad2 m cap2))(hu:ik own b cs e lo (cF cs (len*s) ys) own')(hcs:cs.length=cap*s)
  (hsy:m8 P C own G s m (.slice ad2 m cap2) ys)(hys:ys.length=m*s)(hf: ∀v∈ys,flat v=true)(hneed:len+m<=cap)(hd:cd n dst=true)
  (h:St C n (put fr dst (.slice (some ⟨b,0,none⟩) (len+m) cap)) own' G Φ):
  Ch P C n fr own G ⟨dst, .call ⟨.builtin .append, #[x,y], #[t,t']⟩,ty',pos,af,gd⟩ Φ:=by
 intro a w Q rl;have hb:=(rl.h.hown _ (hu.spec rl.h.nd).1).1;refine jP (v:= .slice (some ⟨b,0,none⟩) (len+m) cap) (w':=gI w b (.cells ⟨cF cs (len*s) ys⟩ e (0,0))) ?_ (h _ _ ((rl.heap (rl.h.store hu)).put _ hd));simp only[execOp,resolve,iY,bU,gN,bw rl.fr hx,bw rl.fr hy];exact c7 (Km hb hcs (hsy w rl.h) hys hf hneed)
def Ik[hT:ck P t e s by_][hN:jy P t']{z:Value}[hz:gu P e z]{b len m:Nat}{rest:List Value}{lo:Bool}
  (hx:aD fr x=some (.slice (some ⟨b,0,none⟩) len cap))(hy:aD fr y=some (.slice ad2 m cap2))(hr:jw own ⟨b,xs++rest,e,lo⟩ own1)(hxs:xs.length=len*s)(hcap:xs.length+rest.length=cap*s)(hlc:len<=cap)
  (hsy:m8 P C own G s m (.slice ad2 m cap2) ys)(hys:ys.length=m*s)(hf: ∀v∈ys,flat v=true)
  (hby:0<by_)(hb:(len+m)*by_<=140737488355328)(hzs:(aF z).length=s)(hd:cd n dst=true)
  (h: ∀b lo' cap' rest',len+m<=cap'->rest'.length+(len+m)*s=cap'*s->St C n (put fr dst (.slice (some ⟨b,0,none⟩) (len+m) cap')) (⟨b,xs++ys++rest',e,lo'⟩::own1) G Φ):
  Ch P C n fr own G ⟨dst, .call ⟨.builtin .append, #[x,y], #[t,t']⟩,ty',pos,af,gd⟩ Φ:=by
 intro a w Q rl;have hp:=rl.h.perm hr.perm;have hblk:=(hp.hown _ aQ).1;simp only[] at hblk;by_cases hneed:len+m<=cap
 .have hcs:(xs++rest).length=cap*s:=by simp;omega
  have hrun:=Km (P:=P) (t:=t) (t':=t') (ty':=ty') (w:=w) (len:=len) hblk hcs (hsy w rl.h) hys hf hneed;have hle:len*s+m*s<=cap*s:=by rw[<-dV];exact bS _ hneed
  have hov:cF (xs++rest) (len*s) ys=xs++ys++rest.drop (m*s):=by
   rw[pB _ _ _ (by rw[hys];omega),<-hxs];simp[hys,nU]
  refine jP (v:= .slice (some ⟨b,0,none⟩) (len+m) cap) (w':=gI w b (.cells ⟨cF (xs++rest) (len*s) ys⟩ e (0,0))) ?_ ?_
  .simp only[execOp,resolve,iY,bU,gN,bw rl.fr hx,bw rl.fr hy]
   exact c7 hrun
  .rw[hov]
   refine h b lo cap (rest.drop (m*s)) hneed ?_ _ _ ((rl.heap (hp.store (.hd ..))).put _ hd);rw[gU,dV];omega
 .have hx':m8 P C own G s len (.slice (some ⟨b,0,none⟩) len cap) xs:=fun w' hw'=>by
   have hb':=(((hw'.perm hr.perm).hown _ aQ).1);refine DP hb' ?_;rw[lD _ _ _ (by simp;omega),<-hxs];simp
  have hcap':len+m<=grownCap w (len+m) cap e:=by unfold grownCap;simp only[Question.cut];omega
  have hrun:=KW (P:=P) (t:=t) (t':=t') (ty':=ty') (w:=w) (w':=w) (hx' _ rl.h.drew) (hsy _ rl.h.drew) (by omega) hby hb;refine jP (v:= .slice (some ⟨w.heap.size,0,none⟩) (len+m) (grownCap w (len+m) cap e)) (w':=w.drew.alloc (.cells ⟨xs++ys++dd z (grownCap w (len+m) cap e-(len+m))⟩ e)) ?_ ?_
  .simp only[execOp,resolve,iY,bU,gN,bw rl.fr hx,bw rl.fr hy]
   exact c7 hrun
  .refine h w.heap.size _ _ _ hcap' ?_ _ _ ((rl.heap (((hp.drew).drop (nV _ _)).alloc _ _)).put _ hd)
   rw[n5,hzs,<-dV];congr 1;omega
def Xm{fn:Func}(hf:P.funcs[f]? =some fn)(hname:(fn.name== "runtime.NumGoroutine")=false)(hb:fn.body.isNone=true)(hn:Extern.findNext fn=none)
  (he:Extern.find fn=some (Extern.SlicesOverlaps.overlaps #[tS,tS] #[tR]))[hT:ck P tS e s by_]
  {b1 b2 o1 o2 l1 c1 c2:Nat}{lo1 lo2:Bool}(ho:aD fr fo=some (.func (.func f) #[] #[]))
  (hv:fC fr args.toList=some [.slice (some ⟨b1,o1,none⟩) l1 c1, .slice (some ⟨b2,o2,none⟩) l2 c2])[h1:iI own b1 cs1 t1 lo1][h2:iI own b2 cs2 t2 lo2](hne:b1≠b2)(hc2:cs2≠[]):
  Yd P C fr own G ⟨dst, .call ⟨.value fo,args,tys⟩,ty',pos,af,gd⟩ (.bool false):=by
 intro a w hfr hh;have e1:=(hh.hown _ h1.mem).1;have e2:=(hh.hown _ h2.mem).1;have ev:args.map a.eval=⟨[.slice (some ⟨b1,o1,none⟩) l1 c1, .slice (some ⟨b2,o2,none⟩) l2 c2]⟩:=by apply Array.ext';simpa using A7 hfr hv
 simp only[] at e1 e2;have hrun:=Lib.run_overlaps_apart (P:=P) w tS tR e hT.un s hT.siz ⟨b1,o1,none⟩ ⟨b2,o2,none⟩ l1 c1 l2 c2 hne t1 t2 cs1.length cs2.length
  (by simp[World.shape?,e1]) (by simp[World.shape?,e2]) (by simpa using hc2) (by simp[World.frozen?,e1]) (by simp[World.frozen?,e1])
 simp only[execOp,resolve,bw hfr ho,ev,Deferred.ofValue];show(invoke (.fn (.func f) #[]) _).run P w=_;simp only[invoke];have h3:=run_callFunc_extern (P:=P) hf hname hb hn he;rw[h3];simp[hrun,Result.andThen]
end
instance mh.cons2 (l m:List aA) (o:aA) [h:mh l m]:mh (o::l) (o::m):=⟨h.s.cons_cons o⟩
def X6{own:List aA}{b:Nat}{cs:List Value}{lo:Bool}(fin:Nat->Bool)(π:List (Nat×Bool)){id:Nat}(hm:P.follows .mixedOrders=true)(_hr:jw own ⟨b,cs,ty,lo⟩ own0)(ho:(tD ops fin π (Array.replicate ops.size false)&&Nat.ble π.length ops.size)=true)
  (h:St C n fr own G (jc P ops (gP Q) (HS C own0 G) fin π)):St C n fr own G ((Code.region id ops true).wp P Q):=by
 simp only[bT] at ho;intro a w rl;exact wp_mono (wp_region_any hm (CL _ _ _ _ (AI (fun _ _ _ _ _ h=>h) π _ a _ ho.1 (h a _ (rl.heap rl.h.drew)) _ (by simpa using ho.2)))) gP.imp
def aB(vs:List Value):List Value:=(vs.map aF).flatten
def ew{s:Nat}: ∀(vs:List Value),(∀v∈vs,(aF v).length=s)->(aB vs).length=vs.length*s
 |[],_=>by simp[aB]
 |v::vs,h=>by
  have h1:=ew vs (fun u hu=>h u (aJ _ hu));have h2:=h v aQ;unfold aB at*;simp only[bU,mM,aY,aN,h1,h2,gX];omega
def mA(us vs:List Value):aB (us++vs)=aB us++aB vs:=by simp[aB]
def wF(v:Value):aB [v]=aF v:=by simp[aB]
def FQ{s:Nat}: ∀(vs:List Value) (i:Nat),(∀v∈vs,(aF v).length=s)->i<=vs.length->(aB vs).take (i*s)=aB (vs.take i)
 |vs,0,_,_=>by simp[aB]
 |[],i+1,_,h=>by simp at h
 |v::vs,i+1,h,hi=>by
  have h1:=FQ vs i (fun u hu=>h u (aJ _ hu)) (by simpa using hi);have h2:=h v aQ;unfold aB at*;simp only[bU,mM,oN];rw[List.take_append,h2,bM (by rw[h2,gX];omega),gX,mU,h1]
def Db{s:Nat}: ∀(vs:List Value) (i:Nat),(∀v∈vs,(aF v).length=s)->i<=vs.length->(aB vs).drop (i*s)=aB (vs.drop i)
 |vs,0,_,_=>by simp
 |[],i+1,_,h=>by simp at h
 |v::vs,i+1,h,hi=>by
  have h1:=Db vs i (fun u hu=>h u (aJ _ hu)) (by simpa using hi);have h2:=h v aQ;unfold aB at*;simp only[bU,mM,tK];rw[nU,h2,jU (by rw[h2,gX];omega),gX,mU,h1,kZ]
def F'{rest:List Value}(h: ∀v∈vs,(aF v).length=s)(hi:i<vs.length):cE (aB vs++rest) (i*s) s=some (aF vs[i]):=by
 have hl:=ew vs h;have hle:i*s+s<=vs.length*s:=by rw[<-gX];exact bS _ hi
 rw[lD _ _ _ (by simp only[aY];omega)];congr 1;rw[kJ (by omega),Db vs i h (by omega),bJ hi];have h2:=h vs[i] (cN hi);rw[show(vs[i]::vs.drop (i+1))=[vs[i]]++vs.drop (i+1) from J,mA,wF,dX,fZ (by omega),bM (by omega)]
def gk.of_flat{b c:Nat}{rest:List Value}(h: ∀v∈vs,(aF v).length=s)(hg:G b=some (aB vs++rest))(hc:vs.length<=c):gk G s ⟨some ⟨b,0,none⟩,vs.length,c⟩ vs:=
 ⟨J,hc, .inr ⟨b,0,_,J,hg,fun i hi=>by rw[eM];exact F' h hi⟩⟩
section
variable {own:List aA}
variable {gd:Option (Nat×Bool)}
def u6(own0:List aA)(fin:Nat->Bool)(π:List (Nat×Bool)){id:Nat}(hm:P.follows .mixedOrders=true)(ho:(tD ops fin π (Array.replicate ops.size false)&&Nat.ble π.length ops.size)=true)
  (h:St C n fr own G (jc P ops (gP Q) (HS C own0 G) fin π)):St C n fr own G ((Code.region id ops true).wp P Q):=by
 simp only[bT] at ho;intro a w rl;exact wp_mono (wp_region_any hm (CL _ _ _ _ (AI (fun _ _ _ _ _ h=>h) π _ a _ ho.1 (h a _ (rl.heap rl.h.drew)) _ (by simpa using ho.2)))) gP.imp
end
section
variable {S:World->Prop}{π₂:List (Nat×Bool)}
end
structure FD where
 k:Nat
 d:Nat
 t:TypeId
 z:Value
abbrev Fs:=Nat->Option Nat
def I3:List FD->Fs->Fr
 |[],_=>[]
 |f::r,fs=>fF f.d (fs f.k)++I3 r fs
def IL:List FD->Fs->List aA
 |[],_=>[]
 |f::r,fs=>fO f.t f.z (fs f.k)++IL r fs
def Mu(fd:List FD)(fs:Fs):List Nat:=(fd.filter fun f=>(fs f.k).isNone).map (·.k)
section
variable {own:List aA}{π π₂:List (Nat×Bool)}{fd:List FD}
end
def iG(s:Nat)(ty:TypeId)(x:SV)(vs:List Value)(B:List aA):Prop:=
 (vs=[]/\x=⟨none,0,0⟩/\B=[])\/
 ∃b rest lo,x=⟨some ⟨b,0,none⟩,vs.length,x.c⟩/\B=[⟨b,aB vs++rest,ty,lo⟩]/\(aB vs).length=vs.length*s/\(aB vs).length+rest.length=x.c*s/\vs.length<=x.c
def iG.nil(s:Nat)(ty:TypeId):iG s ty ⟨none,0,0⟩ [] []:= .inl ⟨J,J,J⟩
def iG.relo{s:Nat}{ty:TypeId}{x:SV}{vs:List Value}{B:List aA}(h:iG s ty x vs B)(fl:Nat->Bool):iG s ty x vs (B.map (Go.Sx.relo fl)):=by
 rcases h with⟨h1,h2,h3⟩|⟨b,rest,lo,h1,h2,h3,h4,h5⟩
 .exact .inl ⟨h1,h2,by rw[h3];rfl⟩
 .exact .inr ⟨b,rest,fl b,h1,by rw[h2];rfl,h3,h4,h5⟩
def iG.asB{s:Nat}{ty:TypeId}{x:SV}{vs:List Value}{B:List aA}(h:iG s ty x vs B):iG s ty x vs (asB B):=by
 rcases h with⟨h1,h2,h3⟩|⟨b,rest,lo,h1,h2,h3,h4,h5⟩
 .exact .inl ⟨h1,h2,by rw[h3];rfl⟩
 .exact .inr ⟨b,rest,false,h1,by rw[h2];rfl,h3,h4,h5⟩
def iG.len{x:SV}(h:iG s ty x vs B):x.n=vs.length:=by
 rcases h with⟨h1,h2,h3⟩|⟨b,rest,lo,h1,h2,h3,h4,h5⟩
 .rw[h2,h1];rfl
 .rw[h1]
def awa{m:aA}(h:m∈M)(hl:m.lo=false):gw M m.b=false:=by
 refine List.all_eq_false.2 ⟨m,h,?_⟩;simp[hl]
def Bc(b:Nat)(h: ∀m∈M,m.lo=true):gw M b=true:=by
 refine dW.2 fun m hm=>?_;simp[h m hm]
section
variable {own:List aA}
variable {t:TypeId}{gd:Option (Nat×Bool)}{e:Nat}
def XX[hT:ck P t e s by_][hN:jy P t']{z:Value}[hz:gu P e z]{w:SV}{vs:List Value}{v:Value}{B:List aA}(L:List aA){ad2:Option Addr}{cap2:Nat}
  (ho:own=L++B)(hB:iG s e w vs B)(hx:aD fr x=some (.slice w.a w.n w.c))(hy:aD fr y=some (.slice ad2 1 cap2))
  (hsy:m8 P C own G s 1 (.slice ad2 1 cap2) (aF v))(hv:(aF v).length=s)(hf: ∀c∈aF v,flat c=true)
  (hby:0<by_)(hb:(vs.length+1)*by_<=140737488355328)(hzs:(aF z).length=s)(hd:cd n dst=true)
  (h: ∀w' B',iG s e w' (vs++[v]) B'->St C n (put fr dst (.slice w'.a w'.n w'.c)) (L++B') G Φ):
  Ch P C n fr own G ⟨dst, .call ⟨.builtin .append, #[x,y], #[t,t']⟩,ty',pos,af,gd⟩ Φ:=by
 subst ho;rcases hB with⟨h1,h2,h3⟩|⟨b,rest,lo,h1,h2,h3,h4,h5⟩
 .subst h1 h2 h3
  rw[fK] at hsy⊢;refine C6 (z:=z) (xs:=[]) (ys:=aF v) hx hy (vX) hsy (by show 0<0+1;omega) hby (by simpa using hb) hd (fun b cap' hc=>?_);refine Cy (L++[⟨b,[]++aF v++dd z (cap'-(0+1)),e,true⟩]) ?_ (h ⟨some ⟨b,0,none⟩,1,cap'⟩ _ (.inr ⟨b,dd z (cap'-(0+1)),true,J,?_,?_,?_,by simpa using hc⟩))
  .exact(jJ (l₁:=[_]) (l₂:=L))
  .simp[aB]
  .simp[aB,hv]
  .simp only[kZ,wF,hv,n5,hzs]
   obtain⟨c,rfl⟩: ∃c,cap'=c+1:=⟨cap'-1,by have:0+1<=cap':=hc;omega⟩;rw[show c+1-(0+1)=c by omega,gX,lX]
 .have hwc:w.a=some ⟨b,0,none⟩/\w.n=vs.length:=by rw[h1];exact⟨J,J⟩
  rw[hwc.1,hwc.2] at hx;subst h2;have hsub:jw (L++[⟨b,aB vs++rest,e,lo⟩]) ⟨b,aB vs++rest,e,lo⟩ L:=by
   clear hsy h
   induction L with
   |nil=>exact .hd ..
   |cons a l ih=>exact .tl _ _ _ _ ih
  refine Ik (z:=z) (xs:=aB vs) (ys:=aF v) (rest:=rest) hx hy hsub h3 h4 h5 hsy (by rw[hv,nY]) hf hby hb hzs hd (fun b' lo' cap' rest' hc hr=>?_);refine Cy (L++[⟨b',aB vs++aF v++rest',e,lo'⟩]) ?_ (h ⟨some ⟨b',0,none⟩,vs.length+1,cap'⟩ _ (.inr ⟨b',rest',lo',by simp,?_,?_,?_,by simpa using hc⟩))
  .exact(jJ (l₁:=[_]) (l₂:=L))
  .rw[mA,wF]
  .rw[mA,wF,aY,h3,hv,aY,gJ,gX]
  .rw[mA,wF,aY,h3,hv]
   rw[gX] at hr;show vs.length*s+s+rest'.length=cap'*s;omega
end
instance mh.nil (l:List aA):mh [] l:=⟨kX l⟩
def Ie{own:List aA}(e:own=own')(h:St C n fr own' G Φ):St C n fr own G Φ:=e▸h
def AF{own:List aA}{gd:Option (Nat×Bool)}(ho:aD fr fo=some (.func (.func f) ⟨c1⟩ ⟨c2⟩))(hv:fC fr args.toList=some vs)
  (hp:own.Perm (M++rest))(hF:ir P f (c1++vs++c2) M G K)(hd:cd n dst=true)
  (h: ∀v own1 (G':Gh) (fl:Nat->Bool),[GE G G']->(∀m∈M,m.lo=false->fl m.b=false)->((∀m∈M,m.lo=true)-> ∀b,fl b=true)->K v own1 G'->St C n (put fr dst v) (own1.map (relo fl)++rest) G' Φ):
  Ch P C n fr own G ⟨dst, .call ⟨.value fo,args,tys⟩,ty',pos,af,gd⟩ Φ:=
 MV ho hv hp hF hd (fun v own1 G' _ hK=>h v own1 G' (gw M) (fun _ hm hl=>awa hm hl) (fun hl b=>Bc b hl) hK)
def Pm{s:Nat}{rest:List Value}{x:Value}{j:Nat}(hj:j<s): ∀(vs:List Value) (n:Nat) (hn:n<vs.length),(∀v∈vs,(aF v).length=s)->
  (aB vs++rest).set (n*s+j) x=aB (vs.take n)++((aF vs[n]).set j x++(aB (vs.drop (n+1))++rest))
 |[],n,hn,_=>by simp at hn
 |v::vs,0,hn,h=>by
  have h2:=h v aQ;have e:aB (v::vs)=aF v++aB vs:=by simp[aB]
  rw[e,dX,kU,eM,List.set_append_left _ _ (by omega)];simp[aB]
 |v::vs,n+1,hn,h=>by
  have h2:=h v aQ;have ih:=Pm (rest:=rest) (x:=x) hj vs n (by simpa using hn) (fun u hu=>h u (aJ _ hu));have e:aB (v::vs)=aF v++aB vs:=by simp[aB]
  rw[e,dX,nM _ _ (by rw[h2,gX];omega),h2,show(n+1)*s+j-s=n*s+j by rw[gX];omega,ih];simp[aB]
def aop{x:SV}(hC:C.mb=[])(hB:iG s ty x vs B)(hvs: ∀v∈vs,(aF v).length=s)
  (h: ∀G':Gh,[GE G G']->gk G' s x vs->St C n fr L G' Φ):St C n fr (L++B) G Φ:=by
 rcases hB with⟨h1,h2,h3⟩|⟨b,rest,lo,h1,h2,h3,h4,h5⟩
 .subst h1 h2 h3
  rw[fK];exact @h G ⟨bH.refl _⟩ (gk.nil _ _)
 .subst h2
  refine Cy (⟨b,aB vs++rest,ty,lo⟩::L) jJ ?_;refine aF6 hC ?_;refine Cu b (.hd ..) ?_;intro G' hG hg;refine @h G' hG ?_;rw[h1];exact gk.of_flat hvs hg.h h5
end Go.Sx
end
