import Derived.Test.YtmdgdhokaffbkaaGreatDoorMz2
import Derived.Laws.Externs
import Derived.Lib.Overlaps
set_option linter.all false
set_option maxRecDepth 100000
section
namespace Go.Sx
open Go Go.Proofs
def amB{n:Int}{d:Nat}(h:n<0):mkRat (-(d:Int)) n.natAbs=Rat.divInt (d:Int) n:=by
 rw[<-Rat.divInt_ofNat,mW (qM h),Rat.neg_divInt_neg]
def OQ{q:Rat}(h:q.num<0):(q⁻¹).num= -(q.den:Int)/\(q⁻¹).den=q.num.natAbs:=by
 rw[Rat.num_inv,Rat.den_inv,if_neg m5,dY h];omega
def Su{q:Rat}(h:0<q.num):(q⁻¹).num=(q.den:Int)/\(q⁻¹).den=q.num.natAbs:=by
 rw[Rat.num_inv,Rat.den_inv,if_neg m5,eJ h];omega
end Go.Sx
end
section
namespace Go.Sx
open Go
variable {P:Program}{ops:Array Oper}{Q:Exit->Act->World->Prop}{fin:Nat->Bool}{k n:Nat}
section
variable {S:World->Prop}{π₂:List (Nat×Bool)}
end
section
variable {C:aG}{fr:Fr}{own own0:List aA}{G G0:Gh}{π π₂:List (Nat×Bool)}
def fF(d:Nat):Option Nat->Fr
 |none=>[]
 |some b=>[(d, .pointer (some ⟨b,0,none⟩))]
def fO(t:TypeId)(z:Value):Option Nat->List aA
 |none=>[]
 |some b=>[⟨b,aH z,t,true⟩]
end
end Go.Sx
end
section
namespace Go.Sx
open Go Go.Proofs
def Dv{q:Rat}(h:q.den=1:=by omega):q=(q.num:Int):=by
 conv=>lhs;rw[<-qY q,h,tJ]
def bB(a b:Rat):Int:=if a<b then-1 else if b<a then 1 else 0
def HP(a b:Rat):(a-b).num<0↔a<b:=by
 rw[<-Rat.not_le,Rat.le_iff_sub_nonneg,<-sY];omega
def L'(a b:Rat):0<(a-b).num↔b<a:=by
 have h:=HP b a;have h2:(b-a).num= -(a-b).num:=by rw[<-nQ,Rat.neg_sub]
 rw[h2] at h;rw[<-h];omega
def Ev(a b:Rat):Int.sign (a-b).num=bB a b:=by
 unfold bB;split
 .rename_i h;exact dY ((HP a b).2 h)
 .rename_i h
  split
  .rename_i h2;exact eJ ((L' a b).2 h2)
  .rename_i h2
   rw[<-HP] at h;rw[<-L'] at h2;rw[show(a-b).num=0 by omega];rfl
def Tl{a b:Rat}(h:a.den=b.den:=by omega):a<b↔a.num<b.num:=by
 rw[Rat.lt_iff,h];have:(0:Int)<b.den:=by have:=b.den_pos;omega
 exact⟨fun h2=>Int.lt_of_mul_lt_mul_right h2 (qM this),fun h2=>Int.mul_lt_mul_of_pos_right h2 this⟩
def Ce(a b:Rat):bB a b=0↔a=b:=by
 unfold bB;constructor
 .intro h
  split at h
  .omega
  .rename_i h1
   split at h
   .omega
   .rename_i h2
    exact Rat.le_antisymm (Rat.not_lt.1 h2) (Rat.not_lt.1 h1)
 .intro h
  subst h;rw[if_neg (Rat.not_lt.2 eY),if_neg (Rat.not_lt.2 eY)]
def NF(a b:Rat):0<bB a b↔b<a:=by
 unfold bB;constructor
 .intro h
  split at h
  .omega
  .split at h
   .assumption
   .omega
 .intro h
  rw[if_neg (fun h2=>Rat.not_lt.2 (cR h) h2),if_pos h];decide
def SN(a b:Rat):bB a b<0↔a<b:=by
 unfold bB;constructor
 .intro h
  split at h
  .assumption
  .split at h<;>omega
 .intro h
  rw[if_pos h];decide
def rgcd(a b:Rat):Rat:=mkRat ((Nat.gcd (a.num.natAbs*b.den) (b.num.natAbs*a.den):Nat):Int) (a.den*b.den)
def KQ(a b:Int):rgcd a b=((Nat.gcd a.natAbs b.natAbs:Nat):Int):=by
 unfold rgcd;show mkRat ((Nat.gcd (a.natAbs*1) (b.natAbs*1):Nat):Int) (1*1)=_;rw[jT,jT,jT,tJ]
def Kb{a b m:Nat}(ha:a<m)(hb:b<m):Nat.gcd a b<m:=by
 rcases fW a with h|h
 .rw[h,Nat.gcd_zero_left];exact hb
 .exact fQ (Nat.gcd_le_left _ h) ha
structure LV where
 a:RV
 b:RV
 c:RV
def LV.v(z:LV):Value:= .agg ⟨[.int .i64 z.a.n, .int .i64 z.a.d, .pointer z.a.p, .int .i64 z.b.n, .int .i64 z.b.d, .pointer z.b.p, .int .i64 z.c.n, .int .i64 z.c.d, .pointer z.c.p]⟩
structure ah where
 a:Int
 b:Int
 c:Int
def ah.ok(l:ah):Prop:= ¬(l.a=0/\l.b=0)/\Nat.gcd (Nat.gcd l.a.natAbs l.b.natAbs) l.c.natAbs=1
structure PV where
 x:RV
 y:RV
def PV.v(z:PV):Value:= .agg ⟨[.int .i64 z.x.n, .int .i64 z.x.d, .pointer z.x.p, .int .i64 z.y.n, .int .i64 z.y.d, .pointer z.y.p]⟩
structure aa where
 x:Rat
 y:Rat
def GO(a:Int): -(a:Rat)=((-a:Int):Rat):=rfl
def ah.rev(l:ah):ah:=⟨-l.a, -l.b, -l.c⟩
def ah.nor(l:ah):aa:=⟨l.a,l.b⟩
def ah.dir(l:ah):aa:=⟨l.b, -(l.a:Rat)⟩
def aa.dot(p q:aa):Rat:=p.x*q.x+p.y*q.y
def aa.cross(p q:aa):Rat:=p.x*q.y-p.y*q.x
def aa.scale(p:aa)(c:Rat):aa:=⟨p.x*c,p.y*c⟩
def aa.add(p q:aa):aa:=⟨p.x+q.x,p.y+q.y⟩
def ah.value(l:ah)(p:aa):Rat:=l.nor.dot p+(l.c:Rat)
def ah.base(l:ah):aa:=l.nor.scale (-(l.c:Rat)/l.nor.dot l.nor)
def ah.at(l:ah)(t:Rat):aa:=l.base.add (l.dir.scale t)
end Go.Sx
end
section
namespace Go.Sx
open Go
variable {s n c2 by_ off len cap l2 cap2 i:Nat}{p q:aa}{m:ah}{C:aG}{K:Value->List aA->Gh->Prop}{x y fo:Operand}{M own' own1 own0:List aA}{rest vs c1 cs' ys xs cs1 cs2:List Value}{G G' G0:Gh}{w w':World}{P:Program}{f:FuncId}{fr:Fr}{Φ:Act->World->Prop}{dst:Option Nat}{t' ty' ty tS tR t1 t2:TypeId}{pos:String}{af:Array Edge}{args:Array Operand}{tys:Array TypeId}{ad ad2:Option Addr}{ops:Array Oper}{Q:Exit->Act->World->Prop}{fin:Nat->Bool}
instance:DecidableEq ah:=fun x y=>decidable_of_iff (x.a=y.a/\x.b=y.b/\x.c=y.c) (by
 cases x;cases y;simp)
structure ao where
 lo:Rat
 hi:Rat
 nl:Bool
 nh:Bool
def ao.all:ao:=⟨0,0,true,true⟩
def ao.empty(v:ao):Bool:=!v.nl&&(!v.nh&&decide (0<=bB v.lo v.hi))
def ao.meet(v w:ao):ao:=
 ⟨if v.nl then w.lo else if w.nl then v.lo else if v.lo<w.lo then w.lo else v.lo,
  if v.nh then w.hi else if w.nh then v.hi else if w.hi<v.hi then w.hi else v.hi,v.nl&&w.nl,v.nh&&w.nh⟩
def ao.sample(v:ao):Rat:=if v.nl&&v.nh then 0 else if v.nl then v.hi-1 else if v.nh then v.lo+1 else(v.lo+v.hi)*mkRat 1 2
def ah.cutK(l m:ah):Rat:=m.nor.dot l.dir
def ah.cutC(l m:ah):Rat:=m.value l.base
def ah.cutV(l:ah)(v:ao)(m:ah):ao:=
 if Int.sign (l.cutK m).num=0 then v
 else if Int.sign (l.cutK m).num=1 then v.meet ⟨-(l.cutC m/l.cutK m),0,false,true⟩
 else v.meet ⟨0, -(l.cutC m/l.cutK m),true,false⟩
def ah.cutB(l:ah)(v:ao)(m:ah):Bool:=
 if Int.sign (l.cutK m).num=0 then decide (0<Int.sign (l.cutC m).num) else !(l.cutV v m).empty
structure bt where
 l:ah
 v:ao
abbrev ar:=List bt
variable {e:ar}
def oD(l:ah):ar->ao->Option ao
 |[],v=>some v
 |s::t,v=>if l.cutB v s.l then oD l t (l.cutV v s.l) else none
def lc(c:ar)(l:ah):Option ao:=oD l c ao.all
def pn(l:ah)(s:bt):Int:=Int.sign (l.value (s.l.at s.v.sample)).num
def qa(l:ah):ar->Int
 |[]=> -1
 |s::t=>if pn l s≠0 then pn l s else if s.l=l then 1 else qa l t
def xC(c:ar)(l:ah):Int:=if(lc c l).isSome then 0 else qa l c
def aa.half(p:aa):Int:=
 if 0<Int.sign p.y.num\/(Int.sign p.y.num=0/\0<Int.sign p.x.num) then 1 else if Int.sign p.y.num<0\/Int.sign p.x.num<0 then 2 else 0
def cE(u v:aa):Int:=if u.half<v.half then-1 else if v.half<u.half then 1 else-(Int.sign (u.cross v).num)
def fk(l:ah):ar->ar
 |[]=>[]
 |s::t=>if s.l.cutB s.v l then⟨s.l,s.l.cutV s.v l⟩::fk l t else fk l t
def gG(p:Nat->Bool)(i j:Nat):Nat:=
 if h:i<j then(if p ((i+j)/2) then gG p ((i+j)/2+1) j else gG p i ((i+j)/2)) else i
termination_by j-i
def jC(c:ar)(l:ah)(i:Nat):Bool:=match c[i]? with
 |some s=>decide (cE s.l.dir l.dir<0)
 |none=>false
def me(c:ar)(l:ah)(v:ao):ar:=
 c.take (gG (jC c l) 0 c.length)++⟨l,v⟩::c.drop (gG (jC c l) 0 c.length)
def bH(c:ar)(l:ah):ar:=match lc c l with
 |some v=>me (fk l c) l v
 |none=>c
def cH(c:ar)(l:ah):Bool:=match lc c l with
 |some _=>true
 |none=>decide (0<xC c l)
def CP(p:Nat->Bool): ∀(d i j:Nat),j-i<=d->i<=j->i<=gG p i j/\gG p i j<=j
 |0,i,j,h,hij=>by
  rw[gG,dif_neg m5];omega
 |d+1,i,j,h,hij=>by
  rw[gG];split
  .split
   .have:=CP p d ((i+j)/2+1) j m5 m5;omega
   .have:=CP p d i ((i+j)/2) m5 m5;omega
  .omega
def T6(l:ah): ∀c:ar,(fk l c).length<=c.length
 |[]=>bW _
 |s::t=>by
  have:=T6 l t;unfold fk;split<;>simp<;>omega
def aCH(c:ar)(l:ah)(v:ao):(me c l v).length=c.length+1:=by
 have:=(CP (jC c l) c.length 0 c.length m5 m5).2;simp[me];omega
def uB(c:ar)(l:ah):(bH c l).length<=c.length+1:=by
 unfold bH;split
 .rw[aCH];have:=T6 l c;omega
 .omega
inductive Tr where
 |leaf (b:Bool)
 |node (l:ah) (x y:Tr)
def Tr.isLeaf:Tr->Bool
 | .leaf _=>true
 | .node .. =>false
def Tr.code:Tr->Bool
 | .leaf b=>b
 | .node .. =>false
def Tr.depth:Tr->Nat
 | .leaf _=>0
 | .node _ x y=>1+max x.depth y.depth
def Tr.size:Tr->Nat
 | .leaf _=>0
 | .node _ x y=>1+x.size+y.size
def Tr.joinQ(l:ah)(x y:Tr):Tr:=if x.isLeaf&&(y.isLeaf&&(x.code==y.code)) then x else .node l x y
def Tr.restrict:Tr->ar->Tr
 | .leaf b,_=> .leaf b
 | .node l x y,c=>if !cH c l.rev then x.restrict c else if !cH c l then y.restrict c else joinQ l (x.restrict (bH c l)) (y.restrict (bH c l.rev))
def Tr.parts:Tr->ar->List (Bool×ar)
 | .leaf b,c=>[(b,c)]
 | .node l x y,c=>(if cH c l then x.parts (bH c l) else [])++(if cH c l.rev then y.parts (bH c l.rev) else [])
def Tr.all(p:ah->Prop):Tr->Prop
 | .leaf _=>True
 | .node l x y=>p l/\x.all p/\y.all p
structure NQ where
 l:ah
 a:Int
 b:Int
def UX(b:Bool):Int:=if b then-2 else-1
def Tr.num:Tr->Nat->Int
 | .leaf b,_=>UX b
 | .node ..,n=>n
def Tr.wr:Tr->Nat->List NQ
 | .leaf _,_=>[]
 | .node l x y,n=>⟨l,x.num (n+1),y.num (n+1+x.size)⟩::x.wr (n+1)++y.wr (n+1+x.size)
def Tr.wr_len: ∀(t:Tr) (n:Nat),(t.wr n).length=t.size
 | .leaf _,n=>rfl
 | .node l x y,n=>by
  have h1:=Tr.wr_len x (n+1);have h2:=Tr.wr_len y (n+1+x.size);simp[Tr.wr,Tr.size,h1,h2];omega
def Tr.joinQ_cases(l:ah)(x y:Tr):(Tr.joinQ l x y=x/\x.isLeaf=true)\/(Tr.joinQ l x y= .node l x y/\ ¬(x.isLeaf=true/\y.isLeaf=true/\x.code=y.code)):=by
 unfold Tr.joinQ;split
 .rename_i h
  simp at h;exact .inl ⟨J,h.1⟩
 .rename_i h
  simp at h;exact .inr ⟨J,fun⟨a,b,c⟩=>h a b c⟩
def Tr.restrict_depth: ∀(t:Tr) (c:ar),(t.restrict c).depth<=t.depth
 | .leaf b,c=>bW _
 | .node l x y,c=>by
  unfold Tr.restrict;split
  .have:=x.restrict_depth c;simp only[Tr.depth];omega
  .split
   .have:=y.restrict_depth c;simp only[Tr.depth];omega
   .have h1:=x.restrict_depth (bH c l)
    have h2:=y.restrict_depth (bH c l.rev);rcases Tr.joinQ_cases l (x.restrict (bH c l)) (y.restrict (bH c l.rev)) with⟨h,_⟩|⟨h,_⟩
    .rw[h];simp only[Tr.depth];omega
    .rw[h];simp only[Tr.depth];omega
def Tr.restrict_all(p:ah->Prop): ∀(t:Tr) (c:ar),t.all p->(t.restrict c).all p
 | .leaf b,c,_=>trivial
 | .node l x y,c,h=>by
  obtain⟨h0,h1,h2⟩:=h;unfold Tr.restrict;split
  .exact x.restrict_all p c h1
  .split
   .exact y.restrict_all p c h2
   .rcases Tr.joinQ_cases l (x.restrict (bH c l)) (y.restrict (bH c l.rev)) with⟨h,_⟩|⟨h,_⟩
    .rw[h];exact x.restrict_all p _ h1
    .rw[h];exact⟨h0,x.restrict_all p _ h1,y.restrict_all p _ h2⟩
def jD(l:ah)(p:aa):l.value p=(l.a:Rat)*p.x+(l.b:Rat)*p.y+(l.c:Rat):=rfl
def fh(l:ah)(p:aa):l.rev.value p= -l.value p:=by
 rw[jD,jD];have h1:((l.rev.a:Int):Rat)= -(l.a:Rat):=(GO l.a).symm;have h2:((l.rev.b:Int):Rat)= -(l.b:Rat):=(GO l.b).symm;have h3:((l.rev.c:Int):Rat)= -(l.c:Rat):=(GO l.c).symm;rw[h1,h2,h3];grind
def bO(q p:aa)(e:Rat):aa:=⟨q.x+e*(p.x-q.x),q.y+e*(p.y-q.y)⟩
def lE(l:ah)(q p:aa)(e:Rat):l.value (bO q p e)=l.value q+e*(l.value p-l.value q):=by
 simp only[jD,bO];grind
def cd(q u:aa)(e:Rat):aa:=⟨q.x+e*u.x,q.y+e*u.y⟩
def iC(l:ah)(q u:aa)(e:Rat):l.value (cd q u e)=l.value q+e*l.nor.dot u:=by
 simp only[jD,cd,ah.nor,aa.dot];grind
def bE{a b:Rat}(ha:0<a)(hb:0<b):0<a*b:=Rat.mul_pos ha hb
def cC{a b:Rat}(ha:0<=a)(hb:0<=b):0<=a*b:=pU ha hb
def ug(a:Rat):0<=a*a:=by
 by_cases h:0<=a
 .exact cC h h
 .have:=cC (a:= -a) (b:= -a) va va
  grind
def fB{s k:Rat}(hk:0<k):0<s*k↔0<s:=by
 constructor
 .intro h
  by_cases hs:0<s
  .exact hs
  .have:=cC (a:= -s) (b:=k) va va
   grind
 .intro h;exact bE h hk
def iB{s k:Rat}(hk:0<k):0<=s*k↔0<=s:=by
 constructor
 .intro h
  by_cases hs:0<=s
  .exact hs
  .have:=bE (a:= -s) (b:=k) va hk
   grind
 .intro h;exact cC h va
def I7{A B u v:Rat}(h0:0<=A)(h1:0<=A+v*B)(hu:0<=u)(huv:u<=v):0<=A+u*B:=by
 by_cases hB:0<=B
 .have:=cC hu hB;grind
 .have:=cC (a:=v-u) (b:= -B) va va
  grind
def ah.Ne(l:ah):Prop:= ¬(l.a=0/\l.b=0)
def ah.ok.ne{l:ah}(h:l.ok):l.Ne:=h.1
def mG{l:ah}(h:l.Ne):0<l.nor.dot l.nor:=by
 show 0<(l.a:Rat)*l.a+(l.b:Rat)*l.b;have h1:=ug (l.a:Rat);have h2:=ug (l.b:Rat);by_cases ha:l.a=0
 .have hb:l.b≠0:=fun hb=>h ⟨ha,hb⟩
  have hb':(l.b:Rat)≠0:=fun e=>hb (cS.1 e);have:(l.b:Rat)*l.b≠0:=by grind
  grind
 .have ha':(l.a:Rat)≠0:=fun e=>ha (cS.1 e)
  have:(l.a:Rat)*l.a≠0:=by grind
  grind
def zk{l:ah}(h:l.Ne): ∃q:Rat,l.nor.dot l.nor*q= -(l.c:Rat)/\l.base=⟨(l.a:Rat)*q,(l.b:Rat)*q⟩:=by
 refine⟨-(l.c:Rat)/l.nor.dot l.nor,?_,J⟩;have:=mG h;grind
def kG(l m:ah)(t:Rat):m.value (l.at t)=l.cutC m+t*l.cutK m:=by
 simp only[ah.cutC,ah.cutK,jD,ah.at,aa.add,aa.scale,ah.dir,ah.nor,aa.dot];grind
def mj{l:ah}(h:l.Ne)(t:Rat):l.value (l.at t)=0:=by
 obtain⟨q,h1,h2⟩:=zk h;simp only[jD,ah.at,h2,aa.add,aa.scale,ah.dir];simp only[ah.nor,aa.dot] at h1;grind
def yn{l:ah}(h:l.Ne)(hp:l.value p=0): ∃t,p=l.at t:=by
 obtain⟨q,h1,h2⟩:=zk h;have hn:=mG h;obtain⟨x,y⟩:=p;rw[jD] at hp;simp only[ah.nor,aa.dot] at h1 hn;refine⟨((l.b:Rat)*x-(l.a:Rat)*y)/((l.a:Rat)*l.a+(l.b:Rat)*l.b),?_⟩;generalize ht:((l.b:Rat)*x-(l.a:Rat)*y)/((l.a:Rat)*l.a+(l.b:Rat)*l.b)=t;have ht':((l.a:Rat)*l.a+(l.b:Rat)*l.b)*t=(l.b:Rat)*x-(l.a:Rat)*y:=by grind
 simp only[ah.at,h2,aa.add,aa.scale,ah.dir,aa.mk.injEq];generalize (l.a:Rat)=a at*;generalize (l.b:Rat)=b at*;generalize (l.c:Rat)=c at*;have e1:(a*a+b*b)*(x-(a*q+b*t))=0:=by grind
 have e2:(a*a+b*b)*(y-(b*q+ -a*t))=0:=by grind
 constructor<;>grind
def ao.has(v:ao)(t:Rat):Prop:=(v.nl=true\/v.lo<=t)/\(v.nh=true\/t<=v.hi)
def ao.ins(v:ao)(t:Rat):Prop:=(v.nl=true\/v.lo<t)/\(v.nh=true\/t<v.hi)
def ao.Pos(v:ao):Prop:=v.nl=true\/v.nh=true\/v.lo<v.hi
def Xe(a b:Rat):0<=bB a b↔b<=a:=by
 unfold bB;split
 .constructor
  .intro h;exact absurd h pb
  .intro h;grind
 .split
  .constructor
   .intro _;grind
   .intro _;decide
  .constructor
   .intro _;grind
   .intro _;decide
def CM(v:ao):v.empty=false↔v.Pos:=by
 obtain⟨lo,hi,nl,nh⟩:=v;unfold ao.empty ao.Pos
 cases nl<;>cases nh<;>simp[Xe]
 first|exact Rat.not_le|grind
def ao.ins.has{v:ao}{t:Rat}(h:v.ins t):v.has t:=by
 obtain⟨h1,h2⟩:=h;exact⟨h1.imp id (fun h=>cR h),h2.imp id (fun h=>cR h)⟩
def Yz:mkRat 1 2=(1:Rat)/2:=by rw[mX];rfl
def pI{v:ao}(h:v.Pos):v.ins v.sample:=by
 obtain⟨lo,hi,nl,nh⟩:=v;unfold ao.Pos at h;unfold ao.ins ao.sample;rw[Yz]
 cases nl<;>cases nh<;>simp at* <;>grind
def O7(v w:ao)(t:Rat):(v.meet w).has t↔v.has t/\w.has t:=by
 obtain⟨lo,hi,nl,nh⟩:=v;obtain⟨lo',hi',nl',nh'⟩:=w;unfold ao.has ao.meet
 cases nl<;>cases nh<;>cases nl'<;>cases nh'<;>simp<;>grind
def Q6(v w:ao)(t:Rat):(v.meet w).ins t↔v.ins t/\w.ins t:=by
 obtain⟨lo,hi,nl,nh⟩:=v;obtain⟨lo',hi',nl',nh'⟩:=w;unfold ao.ins ao.meet
 cases nl<;>cases nh<;>cases nl'<;>cases nh'<;>simp<;>grind
def IX(t:Rat):ao.all.has t:=⟨.inl J, .inl J⟩
def aFQ(t:Rat):ao.all.ins t:=⟨.inl J, .inl J⟩
def ye:ao.all.Pos:= .inl J
def mm(k:Rat):Int.sign k.num=0↔k=0:=by rw[iX,lX]
def KH(k:Rat):0<k.num↔0<k:=by
 have h1:0<=k.num↔0<=k:=sY;have h2:k.num=0↔k=0:=lX;constructor
 .intro h
  have a:=h1.1 m5;have b:k≠0:=fun e=>by have:=h2.2 e;omega
  grind
 .intro h
  have a:=h1.2 va;have b:k.num≠0:=fun e=>by have:=h2.1 e;grind
  omega
def nC(k:Rat):Int.sign k.num=1↔0<k:=by rw[Int.sign_eq_one_iff_pos,KH]
def kg(k:Rat):0<Int.sign k.num↔0<k:=by
 rw[<-nC];rcases lU k.num 0 with h|h|h
 .rw[dY h];decide
 .rw[h];decide
 .rw[eJ h];decide
def rm(k:Rat):Int.sign k.num<0↔k<0:=by
 have h1:=mm k;have h2:=kg k;constructor
 .intro h
  by_cases hk:0<k
  .have:=h2.2 hk;omega
  .by_cases h0:k=0
   .have:=h1.2 h0;omega
   .grind
 .intro h
  have a1: ¬Int.sign k.num=0:=fun e=>by have:=h1.1 e;grind
  have a2: ¬0<Int.sign k.num:=fun e=>by have:=h2.1 e;grind
  omega
def Ct{l:ah}(v:ao)(hk:l.cutK m=0):l.cutV v m=v/\(l.cutB v m=true↔0<l.cutC m):=by
 have h:=(mm (l.cutK m)).2 hk;unfold ah.cutV ah.cutB;rw[if_pos h,if_pos h,decide_eq_true_iff,kg];exact⟨J,Iff.rfl⟩
def AL{l:ah}(v:ao)(hk:0<l.cutK m):l.cutV v m=v.meet ⟨-(l.cutC m/l.cutK m),0,false,true⟩/\(l.cutB v m=true↔(l.cutV v m).Pos):=by
 have h0: ¬Int.sign (l.cutK m).num=0:=fun e=>by have:=(mm _).1 e;grind
 have h1:=(nC (l.cutK m)).2 hk;constructor
 .unfold ah.cutV;rw[if_neg h0,if_pos h1]
 .unfold ah.cutB;rw[if_neg h0,<-CM];simp
def AD{l:ah}(v:ao)(hk:l.cutK m<0):l.cutV v m=v.meet ⟨0, -(l.cutC m/l.cutK m),true,false⟩/\(l.cutB v m=true↔(l.cutV v m).Pos):=by
 have h0: ¬Int.sign (l.cutK m).num=0:=fun e=>by have:=(mm _).1 e;grind
 have h1: ¬Int.sign (l.cutK m).num=1:=fun e=>by have:=(nC _).1 e;grind
 constructor
 .unfold ah.cutV;rw[if_neg h0,if_neg h1]
 .unfold ah.cutB;rw[if_neg h0,<-CM];simp
def Vz{C K t:Rat}(hk:0<K): -(C/K)<=t↔0<=C+t*K:=by
 have e:C=C/K*K:=by grind
 generalize C/K=d at*;rw[e,show d*K+t*K=(d+t)*K from by grind,iB hk];grind
def Lt{C K t:Rat}(hk:0<K): -(C/K)<t↔0<C+t*K:=by
 have e:C=C/K*K:=by grind
 generalize C/K=d at*;rw[e,show d*K+t*K=(d+t)*K from by grind,fB hk];grind
def aMj{C K t:Rat}(hk:K<0):t<= -(C/K)↔0<=C+t*K:=by
 have e:C=C/K*K:=by grind
 generalize C/K=d at*;rw[e,show d*K+t*K=(-(d+t))*(-K) from by grind,iB va];grind
def Or{C K t:Rat}(hk:K<0):t< -(C/K)↔0<C+t*K:=by
 have e:C=C/K*K:=by grind
 generalize C/K=d at*;rw[e,show d*K+t*K=(-(d+t))*(-K) from by grind,fB va];grind
def fG(k:Rat):k=0\/0<k\/k<0:=by grind
def CA{l:ah}{v:ao}(hb:l.cutB v m=true)(t:Rat):(l.cutV v m).has t↔v.has t/\0<=m.value (l.at t):=by
 rw[kG];rcases fG (l.cutK m) with hk|hk|hk
 .obtain⟨h1,h2⟩:=Ct v hk
  rw[h1,hk];have:=h2.1 hb;constructor
  .intro h;exact⟨h,va⟩
  .exact fun h=>h.1
 .rw[(AL v hk).1,O7,<-Vz hk]
  simp[ao.has]
 .rw[(AD v hk).1,O7,<-aMj hk]
  simp[ao.has]
def OP{l:ah}{v:ao}(hb:l.cutB v m=true)(t:Rat):(l.cutV v m).ins t↔v.ins t/\0<m.value (l.at t):=by
 rw[kG];rcases fG (l.cutK m) with hk|hk|hk
 .obtain⟨h1,h2⟩:=Ct v hk
  rw[h1,hk];have:=h2.1 hb;constructor
  .intro h;exact⟨h,va⟩
  .exact fun h=>h.1
 .rw[(AL v hk).1,Q6,<-Lt hk]
  simp[ao.ins]
 .rw[(AD v hk).1,Q6,<-Or hk]
  simp[ao.ins]
def B9{l:ah}{v:ao}(hv:v.Pos)(hb:l.cutB v m=true):(l.cutV v m).Pos:=by
 rcases fG (l.cutK m) with hk|hk|hk
 .rw[(Ct v hk).1];exact hv
 .exact(AL v hk).2.1 hb
 .exact(AD v hk).2.1 hb
def K7{l:ah}{v:ao}(hv:v.Pos)(hb:l.cutB v m=false){t:Rat}(ht:v.has t):m.value (l.at t)<=0:=by
 rw[kG];have hb': ¬l.cutB v m=true:=by rw[hb];decide
 rcases fG (l.cutK m) with hk|hk|hk
 .have h2:=(Ct v hk).2
  have: ¬0<l.cutC m:=fun h=>hb' (h2.2 h);rw[hk];grind
 .obtain⟨h1,h2⟩:=AL v hk
  have hn: ¬(l.cutV v m).Pos:=fun h=>hb' (h2.2 h);rw[h1] at hn;have h3:=Lt (C:=l.cutC m) (t:=t) hk
  suffices¬(-(l.cutC m/l.cutK m)<t) by grind
  generalize-(l.cutC m/l.cutK m)=d at*;obtain⟨lo,hi,nl,nh⟩:=v;unfold ao.Pos ao.meet at hn;unfold ao.Pos at hv;unfold ao.has at ht
  cases nl<;>cases nh<;>simp at* <;>grind
 .obtain⟨h1,h2⟩:=AD v hk
  have hn: ¬(l.cutV v m).Pos:=fun h=>hb' (h2.2 h);rw[h1] at hn;have h3:=Or (C:=l.cutC m) (t:=t) hk
  suffices¬(t< -(l.cutC m/l.cutK m)) by grind
  generalize-(l.cutC m/l.cutK m)=d at*;obtain⟨lo,hi,nl,nh⟩:=v;unfold ao.Pos ao.meet at hn;unfold ao.Pos at hv;unfold ao.has at ht
  cases nl<;>cases nh<;>simp at* <;>grind
def bw(c:ar)(p:aa):Prop:= ∀s∈c,0<s.l.value p
def jh(c:ar)(p:aa):Prop:= ∀s∈c,0<=s.l.value p
def bw.c{c:ar}{p:aa}(h:bw c p):jh c p:=fun s hs=>cR (h s hs)
def Jb(l:ah): ∀(c:ar) (v w:ao),v.Pos->oD l c v=some w->
  w.Pos/\(∀t,w.has t↔v.has t/\jh c (l.at t))/\(∀t,w.ins t↔v.ins t/\bw c (l.at t))
 |[],v,w,hv,h=>by
  obtain rfl:v=w:=by simpa[oD] using h
  exact⟨hv,fun t=>⟨fun h=>⟨h,fun s hs=>absurd hs vb⟩,fun h=>h.1⟩,fun t=>⟨fun h=>⟨h,fun s hs=>absurd hs vb⟩,fun h=>h.1⟩⟩
 |s::c,v,w,hv,h=>by
  rw[oD] at h;split at h
  .rename_i hb
   obtain⟨h1,h2,h3⟩:=Jb l c _ w (B9 hv hb) h;refine⟨h1,fun t=>?_,fun t=>?_⟩
   .rw[h2,CA hb]
    simp only[jh,eX];exact and_assoc
   .rw[h3,OP hb]
    simp only[bw,eX];exact and_assoc
  .exact absurd h vb
theorem ozi{p:Prop}(h:p:=by simpa using hb):p:=h
def Pg(l:ah): ∀(c:ar) (v:ao),v.Pos->oD l c v=none-> ∀t,v.has t-> ¬bw c (l.at t)
 |[],v,hv,h=>by simp[oD] at h
 |s::c,v,hv,h=>by
  intro t ht hd;have hd':=eX.1 hd;rw[oD] at h;split at h
  .rename_i hb
   exact Pg l c _ (B9 hv hb) h t ((CA hb t).2 ⟨ht,cR hd'.1⟩) hd'.2
  .rename_i hb
   have:=K7 hv ozi ht;have:=hd'.1;grind
def bw.open: ∀{c:ar} {q:aa} (u:aa),bw c q-> ∃e:Rat,0<e/\ ∀d,0<=d->d<=e->bw c (cd q u d)
 |[],q,u,_=>⟨1,pb,fun d _ _ s hs=>absurd hs vb⟩
 |s::c,q,u,h=>by
  have h':=eX.1 h;obtain⟨e,he,hd⟩:=bw.open (c:=c) u h'.2;have hs:=h'.1;generalize hk:s.l.nor.dot u=k;have hf: ∃f:Rat,0<f/\ ∀d,0<=d->d<=f->0<s.l.value q+d*k:=by
   by_cases hk0:0<=k
   .exact⟨1,pb,fun d h1 _=>by have:=cC h1 hk0;grind⟩
   .refine⟨s.l.value q/(2* -k),?_,fun d h1 h2=>?_⟩
    .have e1:s.l.value q/(2* -k)*(2* -k)=s.l.value q:=by grind
     exact(fB (k:=2* -k) va).1 (by rw[e1];exact hs)
    .have e1:s.l.value q/(2* -k)*(2* -k)=s.l.value q:=by grind
     generalize s.l.value q/(2* -k)=f at*;have:=cC (a:=f-d) (b:= -k) va va;grind
  obtain⟨f,hf0,hf⟩:=hf;by_cases hef:e<=f
  .refine⟨e,he,fun d h1 h2=>eX.2 ⟨?_,hd d h1 h2⟩⟩
   rw[iC,hk];exact hf d h1 va
  .refine⟨f,hf0,fun d h1 h2=>eX.2 ⟨?_,hd d h1 va⟩⟩
   rw[iC,hk];exact hf d h1 h2
def K6: ∀{c:ar} {q p:aa},bw c q->(∃s∈c,s.l.value p<=0)->
  ∃e:Rat,0<=e/\e<=1/\(∃s∈c,s.l.value p<=0/\s.l.value (bO q p e)=0)/\jh c (bO q p e)
 |[],q,p,_,h=>by obtain⟨s,hs,_⟩:=h;exact absurd hs vb
 |s::c,q,p,h,hex=>by
  have h':=eX.1 h;have hs:=h'.1;by_cases hc: ∃s∈c,s.l.value p<=0
  .obtain⟨e,h0,h1,⟨s1,m1,n1,z1⟩,hC⟩:=K6 h'.2 hc
   by_cases hp:0<=s.l.value (bO q p e)
   .exact⟨e,h0,h1,⟨s1,aJ _ m1,n1,z1⟩,eX.2 ⟨hp,hC⟩⟩
   .rw[lE] at hp
    generalize hB:s.l.value p-s.l.value q=B at*;have hB0:B<0:=by
     by_cases hB0:0<=B
     .have:=cC h0 hB0;grind
     .grind
    have e1:s.l.value q/(-B)*(-B)=s.l.value q:=by grind
    generalize hf:s.l.value q/(-B)=f at*;have f0:0<=f:=(iB (k:= -B) va).1 (by rw[e1];grind);have f1:f<=e:=by
     have:=(iB (s:=e-f) (k:= -B) va).1 va;grind
    have z:s.l.value (bO q p f)=0:=by rw[lE,hB];grind
    have np:s.l.value p<=0:=by
     have:=cC (a:=1-e) (b:= -B) va va;grind
    refine⟨f,f0,va,⟨s,aQ,np,z⟩,eX.2 ⟨by rw[z];exact eY,fun s2 m2=>?_⟩⟩;have a1:=h'.2 s2 m2;have a2:=hC s2 m2;rw[lE] at a2⊢;exact I7 (cR a1) a2 f0 f1
  .have np:s.l.value p<=0:=by
    obtain⟨s1,m1,n1⟩:=hex;rcases aV.1 m1 with rfl|m1
    .exact n1
    .exact absurd ⟨s1,m1,n1⟩ hc
   generalize hB:s.l.value p-s.l.value q=B at*;have hB0:B<0:=by grind
   have e1:s.l.value q/(-B)*(-B)=s.l.value q:=by grind
   generalize hf:s.l.value q/(-B)=f at*;have f0:0<=f:=(iB (k:= -B) va).1 (by rw[e1];grind);have f1:f<=1:=by
    have:=(iB (s:=1-f) (k:= -B) va).1 va;grind
   have z:s.l.value (bO q p f)=0:=by rw[lE,hB];grind
   refine⟨f,f0,f1,⟨s,aQ,np,z⟩,eX.2 ⟨by rw[z];exact eY,fun s2 m2=>?_⟩⟩;have a1:=h'.2 s2 m2;have a2:0<s2.l.value p:=by
    by_cases h:0<s2.l.value p
    .exact h
    .exact absurd ⟨s2,m2,va⟩ hc
   rw[lE];have:=I7 (A:=s2.l.value q) (B:=s2.l.value p-s2.l.value q) (u:=f) (v:=1) (cR a1) va f0 f1;exact this
structure bG (c:ar):Prop where
 ne: ∃p,bw c p
 ok: ∀s∈c,s.l.ok
 edge: ∀s∈c,s.v.Pos/\ ∀t,s.v.has t↔jh c (s.l.at t)
def bG.nil:bG []:=⟨⟨⟨0,0⟩,fun s hs=>absurd hs vb⟩,fun s hs=>absurd hs vb,fun s hs=>absurd hs vb⟩
def vm{c:ar}(hne: ∃q,bw c q)(h: ∀p,bw c p->0<m.value p)(hp:jh c p):0<=m.value p:=by
 obtain⟨q,hq⟩:=hne;have mq:=h q hq;by_cases hm:0<=m.value p
 .exact hm
 .exfalso
  generalize hB:m.value q-m.value p=B;have hB0:0<B:=by grind
  have e1: -m.value p/B*B= -m.value p:=by grind
  generalize-m.value p/B=e at*;have e0:0<e:=(fB hB0).1 (by rw[e1];grind);have e2:e<=1:=by
   have:=(iB (s:=1-e) hB0).1 va;grind
  have hd:bw c (bO p q e):=fun s hs=>by
   rw[lE];have a:=hp s hs;have b:=hq s hs;have:=bE e0 b;have:=cC (a:=1-e) (b:=s.l.value p) va a;grind
  have:=h _ hd;rw[lE,hB,e1] at this;grind
def tI{l:ah}{s':bt}: ∀{c:ar},s'∈fk l c↔ ∃s∈c,s.l.cutB s.v l=true/\s'=⟨s.l,s.l.cutV s.v l⟩
 |[]=>by simp[fk]
 |s::c=>by
  rw[fk];split
  .rename_i hb
   rw[aV,tI (c:=c)];constructor
   .rintro (rfl|⟨s1,h1,h2⟩)
    .exact⟨s,aQ,hb,J⟩
    .exact⟨s1,aJ _ h1,h2⟩
   .rintro ⟨s1,h1,h2,h3⟩
    rcases aV.1 h1 with rfl|h1
    .exact .inl h3
    .exact .inr ⟨s1,h1,h2,h3⟩
  .rename_i hb
   rw[tI (c:=c)];constructor
   .rintro ⟨s1,h1,h2⟩;exact⟨s1,aJ _ h1,h2⟩
   .rintro ⟨s1,h1,h2,h3⟩
    rcases aV.1 h1 with rfl|h1
    .exact absurd h2 hb
    .exact⟨s1,h1,h2,h3⟩
def sj{c:ar}{l:ah}{v:ao}{s:bt}:s∈me c l v↔s=⟨l,v⟩\/s∈c:=by
 unfold me;generalize gG (jC c l) 0 c.length=n;rw[aL,aV];have h:=kR n c;constructor
 .rintro (h1|h1|h1)
  .exact .inr (dS h1)
  .exact .inl h1
  .exact .inr (gL h1)
 .rintro (h1|h1)
  .exact .inr (.inl h1)
  .rw[<-h,aL] at h1
   rcases h1 with h1|h1
   .exact .inl h1
   .exact .inr (.inr h1)
def WC{c:ar}{l:ah}(hl:l.Ne)(hp:lc c l=none)(h:bw c p):l.value p≠0:=by
 intro h0;obtain⟨t,rfl⟩:=yn hl h0;exact Pg l c _ ye hp t (IX t) h
def Gu{c:ar}{l:ah}(hl:l.Ne){v:ao}(hp:lc c l=some v):(∃q,bw c q/\0<l.value q)/\ ∃q,bw c q/\l.value q<0:=by
 obtain⟨h1,_,h3⟩:=Jb l c _ v ye hp;have hd:=((h3 v.sample).1 (pI h1)).2;have h0:=mj hl v.sample;have hn:=mG hl;constructor
 .obtain⟨e,he,hm⟩:=hd.open l.nor
  refine⟨_,hm e (cR he) eY,?_⟩;rw[iC,h0];have:=bE he hn;grind
 .obtain⟨e,he,hm⟩:=hd.open ⟨-l.nor.x, -l.nor.y⟩
  refine⟨_,hm e (cR he) eY,?_⟩;rw[iC,h0];have:=bE he hn;simp only[aa.dot] at this⊢;grind
def ayj{c:ar}{l:ah}{v:ao}(hc:bG c)(hl:l.ok)(hp:lc c l=some v):
  bG (me (fk l c) l v)/\ ∀p,bw (me (fk l c) l v) p↔bw c p/\0<l.value p:=by
 obtain⟨⟨q,hq,lq⟩,_⟩:=Gu hl.ne hp;obtain⟨v1,v2,v3⟩:=Jb l c _ v ye hp;have hD: ∀p,bw (me (fk l c) l v) p↔bw c p/\0<l.value p:=by
  intro p;constructor
  .intro h
   have lp:0<l.value p:=h ⟨l,v⟩ (sj.2 (.inl J));refine⟨fun s0 hs0=>?_,lp⟩;by_cases h0:0<s0.l.value p
   .exact h0
   .exfalso
    obtain⟨e,e0,e1,⟨s,ms,ns,zs⟩,hC⟩:=K6 (p:=p) hq ⟨s0,hs0,va⟩;obtain⟨t,ht⟩:=yn (hc.ok s ms).ne zs;rw[ht] at hC;obtain⟨p1,p2⟩:=hc.edge s ms;have hh:=(p2 t).2 hC;have lr:0<l.value (s.l.at t):=by
     rw[<-ht,lE];by_cases hB:0<=l.value p-l.value q
     .have:=cC e0 hB;grind
     .have:=cC (a:=1-e) (b:= -(l.value p-l.value q)) va va
      grind
    have hb:s.l.cutB s.v l=true:=by
     cases hb:s.l.cutB s.v l with
     |true=>rfl
     |false=>have:=K7 p1 hb hh;grind
    have:=h ⟨s.l,s.l.cutV s.v l⟩ (sj.2 (.inr (tI.2 ⟨s,ms,hb,J⟩)));simp only at this;grind
  .rintro ⟨h1,h2⟩ s hs
   rcases sj.1 hs with rfl|hs
   .exact h2
   .obtain⟨s1,m1,_,rfl⟩:=tI.1 hs
    exact h1 s1 m1
 have hne: ∃p,bw (me (fk l c) l v) p:=⟨q,(hD q).2 ⟨hq,lq⟩⟩;have hC: ∀p,jh (me (fk l c) l v) p↔jh c p/\0<=l.value p:=by
  intro p;constructor
  .intro h
   refine⟨fun s hs=>?_,h ⟨l,v⟩ (sj.2 (.inl J))⟩;exact vm hne (fun p hp=>((hD p).1 hp).1 s hs) h
  .rintro ⟨h1,h2⟩ s hs
   rcases sj.1 hs with rfl|hs
   .exact h2
   .obtain⟨s1,m1,_,rfl⟩:=tI.1 hs
    exact h1 s1 m1
 refine⟨⟨hne,fun s hs=>?_,fun s hs=>?_⟩,hD⟩
 .rcases sj.1 hs with rfl|hs
  .exact hl
  .obtain⟨s1,m1,_,rfl⟩:=tI.1 hs
   exact hc.ok s1 m1
 .rcases sj.1 hs with rfl|hs
  .refine⟨v1,fun t=>?_⟩
   rw[hC];simp only;rw[v2];have h0:=mj hl.ne t;constructor
   .intro h;exact⟨h.2,by rw[h0];exact eY⟩
   .intro h;exact⟨IX t,h.1⟩
  .obtain⟨s1,m1,hb,rfl⟩:=tI.1 hs
   obtain⟨p1,p2⟩:=hc.edge s1 m1;refine⟨B9 p1 hb,fun t=>?_⟩;rw[hC];simp only;rw[CA hb,p2]
def bw.seg{c:ar}{e:Rat}(hq:bw c q)(hp:bw c p)(h0:0<=e)(h1:e<=1):bw c (bO q p e):=fun s hs=>by
 rw[lE];have a:=hq s hs;have b:=hp s hs;by_cases he:e=0
 .subst he;grind
 .have:=bE (a:=e) va b
  have:=cC (a:=1-e) (b:=s.l.value q) va va;grind
def I9{v:ao}{t:Rat}(h:v.ins t):(∃u,u<t/\v.has u)/\ ∃u,t<u/\v.has u:=by
 obtain⟨lo,hi,nl,nh⟩:=v;unfold ao.ins at h;unfold ao.has;refine⟨⟨if nl=true then t-1 else lo,?_⟩,⟨if nh=true then t+1 else hi,?_⟩⟩<;>cases nl<;>cases nh<;>simp at* <;>grind
def zW{a b c x y z:Nat}(h1:x*b=a*y)(h2:x*c=a*z)(g:Nat.gcd (Nat.gcd a b) c=1):a∣x:=by
 have e:x=Nat.gcd (Nat.gcd (x*a) (x*b)) (x*c):=by
  rw[Nat.gcd_mul_left,Nat.gcd_mul_left,g,jT]
 rw[e];exact Nat.dvd_gcd (Nat.dvd_gcd (Nat.dvd_mul_left ..) (h1▸Nat.dvd_mul_right ..)) (h2▸Nat.dvd_mul_right ..)
def W7{a b c x y z:Int}(h1:a*y=b*x)(h2:a*z=c*x)(h3:b*z=c*y)
  (g1:Nat.gcd (Nat.gcd a.natAbs b.natAbs) c.natAbs=1)(g2:Nat.gcd (Nat.gcd x.natAbs y.natAbs) z.natAbs=1):
  (a=x/\b=y/\c=z)\/(a= -x/\b= -y/\c= -z):=by
 have n1:a.natAbs*y.natAbs=b.natAbs*x.natAbs:=by rw[<-fL,<-fL,h1]
 have n2:a.natAbs*z.natAbs=c.natAbs*x.natAbs:=by rw[<-fL,<-fL,h2]
 have n3:b.natAbs*z.natAbs=c.natAbs*y.natAbs:=by rw[<-fL,<-fL,h3]
 generalize ha:a.natAbs=A at*;generalize hb:b.natAbs=B at*;generalize hc:c.natAbs=C at*;generalize hx:x.natAbs=X at*;generalize hy:y.natAbs=Y at*;generalize hz:z.natAbs=Z at*;have gB:Nat.gcd (Nat.gcd B A) C=1:=by rw[jL B A];exact g1
 have gC:Nat.gcd (Nat.gcd C A) B=1:=by rw[Nat.gcd_assoc,jL];exact g1
 have gY:Nat.gcd (Nat.gcd Y X) Z=1:=by rw[jL Y X];exact g2
 have gZ:Nat.gcd (Nat.gcd Z X) Y=1:=by rw[Nat.gcd_assoc,jL];exact g2
 have e1:A=X:=Nat.dvd_antisymm (zW (x:=X) (y:=Y) (z:=Z) va va g1) (zW (x:=A) (y:=B) (z:=C) va va g2);have e2:B=Y:=Nat.dvd_antisymm (zW (x:=Y) (y:=X) (z:=Z) va va gB) (zW (x:=B) (y:=A) (z:=C) va va gY);have e3:C=Z:=Nat.dvd_antisymm (zW (x:=Z) (y:=X) (z:=Y) va va gC) (zW (x:=C) (y:=A) (z:=B) va va gZ);have s1:a=x\/a= -x:=by omega
 have s2:b=y\/b= -y:=by omega
 have s3:c=z\/c= -z:=by omega
 clear ha hb hc hx hy hz n1 n2 n3 g1 g2 gB gC gY gZ e1 e2 e3;have z1:= @qQ x y;have z2:= @qQ x z;have z3:= @qQ y z;rcases s1 with rfl|rfl<;>rcases s2 with rfl|rfl<;>rcases s3 with rfl|rfl<;>grind
def yq{l:ah}(hl:l.ok)(hm:m.ok)(h: ∀t,l.value (m.at t)=0):l=m\/l=m.rev:=by
 have h0:=h 0;have h1:=h 1;rw[kG] at h0 h1;have hC:m.cutC l=0:=by grind
 have hK:m.cutK l=0:=by grind
 obtain⟨q,q1,q2⟩:=zk hm.ne;have hn:=mG hm.ne;unfold ah.cutC at hC;rw[q2,jD] at hC;unfold ah.cutK at hK;simp only[ah.nor,ah.dir,aa.dot] at hK q1 hn hC;obtain⟨a,b,c⟩:=l;obtain⟨x,y,z⟩:=m;simp only at*;have e1:a*y=b*x:=by
  have:((a*y:Int):Rat)=((b*x:Int):Rat):=by rw[cV,cV];grind
  exact nW.1 this
 have e2:a*z=c*x:=by
  have:((a*z:Int):Rat)=((c*x:Int):Rat):=by rw[cV,cV];grind
  exact nW.1 this
 have e3:b*z=c*y:=by
  have:((b*z:Int):Rat)=((c*y:Int):Rat):=by rw[cV,cV];grind
  exact nW.1 this
 rcases W7 e1 e2 e3 hl.2 hm.2 with⟨rfl,rfl,rfl⟩|⟨rfl,rfl,rfl⟩
 .exact .inl J
 .exact .inr J
def ah.ok.rev{l:ah}(h:l.ok):l.rev.ok:=by
 obtain⟨h1,h2⟩:=h;refine⟨?_,?_⟩
 .simp only[ah.rev];omega
 .simp only[ah.rev,jX];exact h2
def Rh(l:ah): ∀c:ar,(∀s∈c,pn l s<=0/\s.l≠l)-> ¬0<qa l c
 |[],_=>by simp[qa]
 |s::c,h=>by
  have h':=eX.1 h;unfold qa;rw[if_neg h'.1.2];split
  .have:=h'.1.1;omega
  .exact Rh l c h'.2
def Mz{c:ar}{l:ah}(hc:bG c)(hl:l.ok)(hp:lc c l=none):
  (0<qa l c/\ ∀p,bw c p->0<l.value p)\/(¬0<qa l c/\ ∀p,bw c p->l.value p<0):=by
 have hoff:=fun p (h:bw c p)=>WC hl.ne hp h;by_cases hq: ∃q,bw c q/\0<l.value q
 .left
  obtain⟨q,hq,lq⟩:=hq;have hall: ∀p,bw c p->0<l.value p:=by
   intro p h;have:=hoff p h;by_cases h0:0<l.value p
   .exact h0
   .exfalso
    have hn:l.value p<0:=by grind
    have e1:l.value q/(l.value q-l.value p)*(l.value q-l.value p)=l.value q:=by grind
    generalize l.value q/(l.value q-l.value p)=e at*;have f0:0<=e:=(iB (k:=l.value q-l.value p) va).1 va;have f1:e<=1:=by
     have:=(iB (s:=1-e) (k:=l.value q-l.value p) va).1 va;grind
    exact hoff _ (hq.seg h f0 f1) (by rw[lE];grind)
  refine⟨?_,hall⟩
  cases c with
  |nil=>simp[lc,oD] at hp
  |cons s c=>
   obtain⟨p1,p2⟩:=hc.edge s aQ;have hi:=pI p1;have hr:=vm hc.ne hall ((p2 _).1 hi.has);unfold qa;by_cases h0:pn l s=0
   .rw[if_neg (by simpa using h0)]
    have hz:l.value (s.l.at s.v.sample)=0:=(mm _).1 h0;have hge: ∀t,s.v.has t->0<=l.value (s.l.at t):=fun t ht=>vm hc.ne hall ((p2 t).1 ht);obtain⟨⟨u1,m1,n1⟩,⟨u2,m2,n2⟩⟩:=I9 hi;have g1:=hge _ n1;have g2:=hge _ n2;rw[kG] at hz g1 g2;have hK:s.l.cutK l=0:=by
     rcases fG (s.l.cutK l) with h|h|h
     .exact h
     .exfalso
      have:=bE (a:=s.v.sample-u1) (b:=s.l.cutK l) va h;grind
     .exfalso
      have:=bE (a:=u2-s.v.sample) (b:= -s.l.cutK l) va va;grind
    have hz2: ∀t,l.value (s.l.at t)=0:=fun t=>by rw[kG,hK];rw[hK] at hz;grind
    rcases yq hl (hc.ok s aQ) hz2 with h|h
    .rw[if_pos h.symm];decide
    .exfalso
     have:=hall q hq;rw[h,fh] at this;have:=hq s aQ;grind
   .rw[if_pos h0]
    have hz:l.value (s.l.at s.v.sample)≠0:=fun e=>h0 ((mm _).2 e);exact(kg _).2 va
 .right
  have hall: ∀p,bw c p->l.value p<0:=fun p h=>by
   have:=hoff p h;have: ¬0<l.value p:=fun h'=>hq ⟨p,h,h'⟩;grind
  refine⟨Rh l c fun s hs=>?_,hall⟩;obtain⟨p1,p2⟩:=hc.edge s hs;have hr:=vm (m:=l.rev) hc.ne (fun p h=>by rw[fh];have:=hall p h;grind) ((p2 _).1 (pI p1).has);rw[fh] at hr;constructor
  .have: ¬0<pn l s:=fun h=>by have:=(kg _).1 h;grind
   omega
  .rintro rfl
   obtain⟨p,hp⟩:=hc.ne;have:=hall p hp;have:=hp s hs;grind
def pO{c:ar}{l:ah}(hc:bG c)(hl:l.ok):cH c l=true↔ ∃p,bw c p/\0<l.value p:=by
 unfold cH
 cases hp:lc c l with
 |some v=>exact⟨fun _=>(Gu hl.ne hp).1,fun _=>J⟩
 |none=>
  simp only[xC,hp,Option.isSome_none,kW,if_false,decide_eq_true_iff];rcases Mz hc hl hp with⟨h1,h2⟩|⟨h1,h2⟩
  .refine⟨fun _=>?_,fun _=>h1⟩
   obtain⟨p,hp⟩:=hc.ne;exact⟨p,hp,h2 p hp⟩
  .refine⟨fun h=>absurd h h1,?_⟩
   rintro ⟨p,hp,h⟩;have:=h2 p hp;grind
def ir{c:ar}{l:ah}(hc:bG c)(hl:l.ok)(hb:cH c l=true):bG (bH c l)/\ ∀p,bw (bH c l) p↔bw c p/\0<l.value p:=by
 unfold bH
 cases hp:lc c l with
 |some v=>exact ayj hc hl hp
 |none=>
  refine⟨hc,fun p=>?_⟩;unfold cH at hb;simp only[hp,xC,Option.isSome_none,kW,if_false,decide_eq_true_iff] at hb;rcases Mz hc hl hp with⟨h1,h2⟩|⟨h1,h2⟩
  .exact⟨fun h=>⟨h,h2 p h⟩,fun h=>h.1⟩
  .exact absurd hb h1
def QT{c:ar}{l:ah}(hl:l.ok)(hp:bw c p)(h0:l.value p=0):(∃q,bw c q/\0<l.value q)/\ ∃q,bw c q/\l.value q<0:=by
 have hn:=mG hl.ne;constructor
 .obtain⟨e,he,hm⟩:=hp.open l.nor
  refine⟨_,hm e (cR he) eY,?_⟩;rw[iC,h0];have:=bE he hn;grind
 .obtain⟨e,he,hm⟩:=hp.open ⟨-l.nor.x, -l.nor.y⟩
  refine⟨_,hm e (cR he) eY,?_⟩;rw[iC,h0];have:=bE he hn;simp only[aa.dot] at this⊢;grind
inductive aN8 (c:ar) (l:ah):Prop
 |left (h1:cH c l.rev=false) (h: ∀p,bw c p->0<l.value p)
 |right (h1:cH c l.rev=true) (h2:cH c l=false) (h: ∀p,bw c p->l.value p<0)
 |both (h1:cH c l.rev=true) (h2:cH c l=true) (g1:bG (bH c l)) (g2:bG (bH c l.rev))
   (e1: ∀p,bw (bH c l) p↔bw c p/\0<l.value p) (e2: ∀p,bw (bH c l.rev) p↔bw c p/\l.value p<0)
def xe{c:ar}{l:ah}(hc:bG c)(hl:l.ok):aN8 c l:=by
 have hr:=pO hc hl.rev;have hi:=pO hc hl
 cases h1:cH c l.rev with
 |false=>
  refine .left h1 fun p hp=>?_;have hn: ¬ ∃q,bw c q/\l.value q<0:=by
   rintro ⟨q,a,b⟩;have:=hr.2 ⟨q,a,by rw[fh];grind⟩;rw[h1] at this;exact absurd this pb
  have n1: ¬l.value p<0:=fun h=>hn ⟨p,hp,h⟩;have n2:l.value p≠0:=fun h=>hn (QT hl hp h).2;grind
 |true=>
  cases h2:cH c l with
  |false=>
   refine .right h1 h2 fun p hp=>?_;have hn: ¬ ∃q,bw c q/\0<l.value q:=by
    intro h;have:=hi.2 h;rw[h2] at this;exact absurd this pb
   have n1: ¬0<l.value p:=fun h=>hn ⟨p,hp,h⟩;have n2:l.value p≠0:=fun h=>hn (QT hl hp h).1;grind
  |true=>
   obtain⟨g1,e1⟩:=ir hc hl h2;obtain⟨g2,e2⟩:=ir hc hl.rev h1;refine .both h1 h2 g1 g2 e1 fun p=>?_;rw[e2,fh];constructor<;>rintro ⟨a,b⟩<;>exact⟨a,va⟩
def Tr.restrict_A{l:ah}(X Y:Tr)(h:cH e l.rev=false):(Tr.node l X Y).restrict e=X.restrict e:=by
 rw[Tr.restrict,h];rfl
def Tr.restrict_B{l:ah}(X Y:Tr)(h:cH e l.rev=true)(h2:cH e l=false):(Tr.node l X Y).restrict e=Y.restrict e:=by
 rw[Tr.restrict,h,h2];rfl
def Tr.restrict_C{l:ah}(X Y:Tr)(h:cH e l.rev=true)(h2:cH e l=true):(Tr.node l X Y).restrict e=Tr.joinQ l (X.restrict (bH e l)) (Y.restrict (bH e l.rev)):=by
 rw[Tr.restrict,h,h2];rfl
def jE:List ah->ar->Option ar
 |[],c=>some c
 |l::t,c=>if cH c l then jE t (bH c l) else none
def IY: ∀{ls:List ah} {c e:ar},bG c->(∀l∈ls,l.ok)->jE ls c=some e->bG e/\ ∀p,bw e p↔bw c p/\ ∀l∈ls,0<l.value p
 |[],c,e,hc,_,h=>by
  obtain rfl:c=e:=by simpa[jE] using h
  exact⟨hc,fun p=>⟨fun h=>⟨h,fun l hl=>absurd hl vb⟩,fun h=>h.1⟩⟩
 |l::t,c,e,hc,hl,h=>by
  have hl':=eX.1 hl;rw[jE] at h;split at h
  .rename_i hb
   obtain⟨g1,g2⟩:=ir hc hl'.1 hb;obtain⟨k1,k2⟩:=IY g1 hl'.2 h;refine⟨k1,fun p=>?_⟩;rw[k2,g2,eX,and_assoc]
  .exact absurd h vb
def HU: ∀{ls:List ah} {c:ar},bG c->(∀l∈ls,l.ok)->(∃p,bw c p/\ ∀l∈ls,0<l.value p)-> ∃e,jE ls c=some e
 |[],c,_,_,_=>⟨c,J⟩
 |l::t,c,hc,hl,⟨p,h1,h2⟩=>by
  have hl':=eX.1 hl;have h2':=eX.1 h2;have hb:=(pO hc hl'.1).2 ⟨p,h1,h2'.1⟩;obtain⟨g1,g2⟩:=ir hc hl'.1 hb;rw[jE,if_pos hb];exact HU g1 hl'.2 ⟨p,(g2 p).2 ⟨h1,h2'.1⟩,h2'.2⟩
def NY{c:ar}(hc:bG c){s:bt}(hs:s∈c)(hm:m.ok)(h: ∀p,bw c p->0<m.value p)(hz:m.value (s.l.at s.v.sample)=0):m=s.l:=by
 obtain⟨p1,p2⟩:=hc.edge s hs;have hi:=pI p1;have hge: ∀t,s.v.has t->0<=m.value (s.l.at t):=fun t ht=>vm hc.ne h ((p2 t).1 ht);obtain⟨⟨u1,m1,n1⟩,⟨u2,m2,n2⟩⟩:=I9 hi;have g1:=hge _ n1;have g2:=hge _ n2;rw[kG] at hz g1 g2;have hK:s.l.cutK m=0:=by
  rcases fG (s.l.cutK m) with h|h|h
  .exact h
  .exfalso
   have:=bE (a:=s.v.sample-u1) (b:=s.l.cutK m) va h;grind
  .exfalso
   have:=bE (a:=u2-s.v.sample) (b:= -s.l.cutK m) va va;grind
 have hz2: ∀t,m.value (s.l.at t)=0:=fun t=>by rw[kG,hK];rw[hK] at hz;grind
 rcases yq hm (hc.ok s hs) hz2 with h'|h'
 .exact h'
 .exfalso
  obtain⟨q,hq⟩:=hc.ne;have:=h q hq;rw[h',fh] at this;have:=hq s hs;grind
def gp(l:ah):List ah->ao->Option ao
 |[],v=>some v
 |m::t,v=>if m=l then gp l t v else if l.cutB v m then gp l t (l.cutV v m) else none
def dP(c:List ah)(p:aa):Prop:= ∀m∈c,0<m.value p
def Bq(l:ah): ∀(c:List ah) (v w:ao),v.Pos->gp l c v=some w->
  w.Pos/\(∀t,w.ins t↔v.ins t/\ ∀m∈c,m≠l->0<m.value (l.at t))
 |[],v,w,hv,h=>by
  obtain rfl:v=w:=by simpa[gp] using h
  exact⟨hv,fun t=>⟨fun h=>⟨h,fun s hs=>absurd hs vb⟩,fun h=>h.1⟩⟩
 |m::c,v,w,hv,h=>by
  rw[gp] at h;split at h
  .rename_i hm
   obtain⟨h1,h2⟩:=Bq l c _ w hv h;refine⟨h1,fun t=>?_⟩;rw[h2,eX];exact⟨fun h=>⟨h.1,fun h'=>absurd hm h',h.2⟩,fun h=>⟨h.1,h.2.2⟩⟩
  .rename_i hm
   split at h
   .rename_i hb
    obtain⟨h1,h2⟩:=Bq l c _ w (B9 hv hb) h;refine⟨h1,fun t=>?_⟩;rw[h2,OP hb,eX,and_assoc];exact⟨fun h=>⟨h.1,fun _=>h.2.1,h.2.2⟩,fun h=>⟨h.1,h.2.1 hm,h.2.2⟩⟩
   .exact absurd h vb
def F3(l:ah): ∀(c:List ah) (v:ao),v.Pos->gp l c v=none-> ∀t,v.has t-> ¬ ∀m∈c,m≠l->0<m.value (l.at t)
 |[],v,hv,h=>by simp[gp] at h
 |m::c,v,hv,h=>by
  intro t ht hd;have hd':=eX.1 hd;rw[gp] at h;split at h
  .exact F3 l c _ hv h t ht hd'.2
  .rename_i hm
   split at h
   .rename_i hb
    exact F3 l c _ (B9 hv hb) h t ((CA hb t).2 ⟨ht,cR (hd'.1 hm)⟩) hd'.2
   .rename_i hb
    have:=K7 hv ozi ht;have:=hd'.1 hm;grind
def lF(c:List ah):Bool:=c.isEmpty||c.any (fun l=>(gp l c ao.all).isSome)
def UT: ∀{ls:List ah} {c e:ar},jE ls c=some e-> ∀s∈e,s.l∈ls\/ ∃s'∈c,s'.l=s.l
 |[],c,e,h,s,hs=>by
  obtain rfl:c=e:=by simpa[jE] using h
  exact .inr ⟨s,hs,J⟩
 |l::t,c,e,h,s,hs=>by
  rw[jE] at h;split at h
  .rcases UT h s hs with h1|⟨s',h1,h2⟩
   .exact .inl (aJ _ h1)
   .unfold bH at h1
    split at h1
    .rcases sj.1 h1 with rfl|h1
     .exact .inl (by rw[<-h2];exact aQ)
     .obtain⟨s1,m1,_,rfl⟩:=tI.1 h1
      exact .inr ⟨s1,m1,h2⟩
    .exact .inr ⟨s',h1,h2⟩
  .exact absurd h vb
def EZ{c:List ah}(hok: ∀l∈c,l.ok)(hne: ∃p,dP c p): ∃e,jE c []=some e/\bG e/\(∀p,bw e p↔dP c p)/\ ∀s∈e,s.l∈c/\(gp s.l c ao.all).isSome=true:=by
 obtain⟨p,hp⟩:=hne;obtain⟨e,he⟩:=HU bG.nil hok ⟨p,fun s hs=>absurd hs vb,hp⟩;obtain⟨g1,g2⟩:=IY bG.nil hok he;have g3: ∀p,bw e p↔dP c p:=fun p=>by
  rw[g2];exact⟨fun h=>h.2,fun h=>⟨fun s hs=>absurd hs vb,h⟩⟩
 refine⟨e,he,g1,g3,fun s hs=>?_⟩;have hm:s.l∈c:=by
  rcases UT he s hs with h|⟨_,h,_⟩
  .exact h
  .exact absurd h vb
 refine⟨hm,?_⟩
 cases hp:gp s.l c ao.all with
 |some w=>rfl
 |none=>
  exfalso;obtain⟨p1,p2⟩:=g1.edge s hs;have hC:=(p2 s.v.sample).1 (pI p1).has;refine F3 s.l c _ ye hp s.v.sample (IX _) fun m hmc hne=>?_;have hall: ∀p,bw e p->0<m.value p:=fun p hp=>(g3 p).1 hp m hmc;have h0:=vm g1.ne hall hC;have h1:m.value (s.l.at s.v.sample)≠0:=fun hz=>hne (NY g1 hs (hok m hmc) hall hz);grind
def H3{c:List ah}(hok: ∀l∈c,l.ok):lF c=true↔ ∃p,dP c p:=by
 unfold lF;rw[gS,tQ,iU];constructor
 .rintro (rfl|⟨l,hl,h⟩)
  .exact⟨⟨0,0⟩,fun m hm=>absurd hm vb⟩
  .obtain⟨w,hw⟩:=rY.1 h
   obtain⟨w1,w2⟩:=Bq l c _ w ye hw;have hi:=((w2 w.sample).1 (pI w1)).2;have h0:=mj (hok l hl).ne w.sample;have hd:bw ((c.filter (fun m=>decide (m≠l))).map (fun m=>(⟨m,ao.all⟩:bt))) (l.at w.sample):=by
    intro s hs;obtain⟨m,hm,rfl⟩:=aT.1 hs;rw[kZ,decide_eq_true_iff] at hm;exact hi m hm.1 hm.2
   obtain⟨e,he,ho⟩:=hd.open l.nor;refine⟨cd (l.at w.sample) l.nor e,fun m hm=>?_⟩;by_cases hml:m=l
   .subst hml
    rw[iC,h0];have:=bE he (mG (hok m hl).ne);grind
   .exact ho e (cR he) eY ⟨m,ao.all⟩ (aT.2 ⟨m,kZ.2 ⟨hm,by simpa using hml⟩,J⟩)
 .intro hne
  obtain⟨e,h1,h2,h3,h4⟩:=EZ hok hne
  cases c with
  |nil=>exact .inl J
  |cons l c=>
   right
   cases e with
   |nil=>
    exfalso;have:=(h3 (l.at 0)).1 (fun s hs=>absurd hs vb) l aQ;rw[mj (hok l aQ).ne] at this;exact absurd this pb
   |cons s e=>
    obtain⟨a,b⟩:=h4 s aQ;exact⟨s.l,a,b⟩
def oI(out:List ah)(l:ah):Nat:=(out.takeWhile (fun x=>decide (cE x.dir l.dir<0))).length
def ql(out:List ah)(l:ah):List ah:=if out[oI out l]? =some l then out else out.take (oI out l)++l::out.drop (oI out l)
def ow(c:List ah):List ah->List ah->List ah
 |[],out=>out
 |l::t,out=>ow c t (if(gp l c ao.all).isSome then ql out l else out)
def jl(c:List ah):List ah:=ow c c []
def Kh{out:List ah}{l:ah}:m∈ql out l↔m=l\/m∈out:=by
 unfold ql;split
 .rename_i h
  exact⟨fun h=> .inr h,fun h'=>h'.elim (fun e=>e▸aW h) id⟩
 .generalize oI out l=n
  have h:=kR n out;rw[aL,aV];constructor
  .rintro (h1|h1|h1)
   .exact .inr (dS h1)
   .exact .inl h1
   .exact .inr (gL h1)
  .rintro (h1|h1)
   .exact .inr (.inl h1)
   .rw[<-h,aL] at h1
    rcases h1 with h1|h1
    .exact .inl h1
    .exact .inr (.inr h1)
def R4{c:List ah}{m:ah}: ∀{t out:List ah},m∈ow c t out↔m∈out\/m∈t/\(gp m c ao.all).isSome=true
 |[],out=>by simp[ow]
 |l::t,out=>by
  rw[ow,R4];split
  .rename_i h
   rw[Kh,aV];constructor
   .rintro ((rfl|h1)|⟨h1,h2⟩)
    .exact .inr ⟨.inl J,h⟩
    .exact .inl h1
    .exact .inr ⟨.inr h1,h2⟩
   .rintro (h1|⟨rfl|h1,h2⟩)
    .exact .inl (.inr h1)
    .exact .inl (.inl J)
    .exact .inr ⟨h1,h2⟩
  .rename_i h
   rw[aV];constructor
   .rintro (h1|⟨h1,h2⟩)
    .exact .inl h1
    .exact .inr ⟨.inr h1,h2⟩
   .rintro (h1|⟨rfl|h1,h2⟩)
    .exact .inl h1
    .exact absurd h2 h
    .exact .inr ⟨h1,h2⟩
def uD{c:List ah}:m∈jl c↔m∈c/\(gp m c ao.all).isSome=true:=by
 unfold jl;rw[R4];simp
def Po{c:List ah}(hok: ∀l∈c,l.ok)(hne: ∃p,dP c p)(p:aa):dP (jl c) p↔dP c p:=by
 constructor
 .intro h
  obtain⟨e,h1,h2,h3,h4⟩:=EZ hok hne;exact(h3 p).1 fun s hs=>h s.l (uD.2 (h4 s hs))
 .intro h m hm;exact h m (uD.1 hm).1
def vf(c:List ah)(l:ah):Int:=if lF (c++[l])&&lF (c++[l.rev]) then 0 else if lF (c++[l]) then 1 else-1
def Tr.restrictL:Tr->List ah->Tr
 | .leaf b,_=> .leaf b
 | .node l x y,c=>if vf c l=1 then x.restrictL c else if vf c l= -1 then y.restrictL c else joinQ l (x.restrictL (jl (c++[l]))) (y.restrictL (jl (c++[l.rev])))
def se{c:List ah}{l:ah}:dP (c++[l]) p↔dP c p/\0<l.value p:=by
 unfold dP;rw[sU];simp
def n8{c:List ah}{l:ah}(hok: ∀m∈c,m.ok)(hl:l.ok): ∀m∈c++[l],m.ok:=by
 rw[sU];exact⟨hok,by simpa using hl⟩
def Tr.restrictL_eq: ∀(t:Tr) (c:List ah) (d:ar),t.all ah.ok->(∀l∈c,l.ok)->bG d->(∀p,bw d p↔dP c p)->t.restrictL c=t.restrict d
 | .leaf b,c,d,_,_,_,_=>rfl
 | .node l x y,c,d,h,hc,hd,he=>by
  obtain⟨hl,hx,hy⟩:=h;have i1:=H3 (n8 hc hl);have i2:=H3 (n8 hc hl.rev);obtain⟨p0,hp0⟩:=hd.ne;rcases xe hd hl with⟨a1,a⟩|⟨a1,a2,a⟩|⟨a1,a2,ag1,ag2,ae1,ae2⟩
  .have b1:lF (c++[l])=true:=i1.2 ⟨p0,se.2 ⟨(he p0).1 hp0,a p0 hp0⟩⟩
   have b2:lF (c++[l.rev])=false:=by
    rw[<-kJ,i2];rintro ⟨p,hp⟩;have hp:=se.1 hp;have:=a p ((he p).2 hp.1);rw[fh] at hp;grind
   rw[Tr.restrict_A _ _ a1,Tr.restrictL,vf,b1,b2];exact x.restrictL_eq c d hx hc hd he
  .have b2:lF (c++[l.rev])=true:=i2.2 ⟨p0,se.2 ⟨(he p0).1 hp0,by rw[fh];have:=a p0 hp0;grind⟩⟩
   have b1:lF (c++[l])=false:=by
    rw[<-kJ,i1];rintro ⟨p,hp⟩;have hp:=se.1 hp;have:=a p ((he p).2 hp.1);grind
   rw[Tr.restrict_B _ _ a1 a2,Tr.restrictL,vf,b1,b2];exact y.restrictL_eq c d hy hc hd he
  .have n1: ∃p,dP (c++[l]) p:=by
    obtain⟨p,hp⟩:=ag1.ne;exact⟨p,se.2 ⟨(he p).1 ((ae1 p).1 hp).1,((ae1 p).1 hp).2⟩⟩
   have n2: ∃p,dP (c++[l.rev]) p:=by
    obtain⟨p,hp⟩:=ag2.ne;exact⟨p,se.2 ⟨(he p).1 ((ae2 p).1 hp).1,by rw[fh];have:=((ae2 p).1 hp).2;grind⟩⟩
   rw[Tr.restrict_C _ _ a1 a2,Tr.restrictL,vf,i1.2 n1,i2.2 n2];have k1:=x.restrictL_eq (jl (c++[l])) (bH d l) hx (fun m hm=>n8 hc hl m (uD.1 hm).1) ag1 fun p=>by
    rw[Po (n8 hc hl) n1,ae1,se,he]
   have k2:=y.restrictL_eq (jl (c++[l.rev])) (bH d l.rev) hy (fun m hm=>n8 hc hl.rev m (uD.1 hm).1) ag2 fun p=>by
    rw[Po (n8 hc hl.rev) n2,ae2,se,he,fh];constructor<;>rintro ⟨a,b⟩<;>exact⟨a,va⟩
   rw[k1,k2];rfl
def crossI(l m:ah):Int:=l.a*m.b-m.a*l.b
def meetX(l m:ah):Int:=l.b*m.c-m.b*l.c
def meetY(l m:ah):Int:=m.a*l.c-l.a*m.c
def dC(l m:ah):aa:=if crossI l m=0 then⟨0,0⟩ else⟨(meetX l m:Rat)/(crossI l m:Rat),(meetY l m:Rat)/(crossI l m:Rat)⟩
def gy(l:ah)(p:aa):Rat:=p.dot l.dir/l.dir.dot l.dir
def JP(l:ah):l.dir.dot l.dir=l.nor.dot l.nor:=by
 simp only[ah.dir,ah.nor,aa.dot];grind
def Ba{l:ah}(h:l.Ne):0<l.dir.dot l.dir:=by rw[JP];exact mG h
def w6(l m:ah):((crossI l m:Int):Rat)=(l.a:Rat)*m.b-(m.a:Rat)*l.b:=by
 unfold crossI;rw[gV,cV,cV]
def Lj(l m:ah):((meetX l m:Int):Rat)=(l.b:Rat)*m.c-(m.b:Rat)*l.c:=by
 unfold meetX;rw[gV,cV,cV]
def O3(l m:ah):((meetY l m:Int):Rat)=(m.a:Rat)*l.c-(l.a:Rat)*m.c:=by
 unfold meetY;rw[gV,cV,cV]
def Eb(l m:ah):l.cutK m= -((crossI l m:Int):Rat):=by
 rw[w6];simp only[ah.cutK,ah.nor,ah.dir,aa.dot];grind
def Ov(l m:ah):m.dir.cross l.dir=l.cutK m:=by
 simp only[ah.cutK,ah.nor,ah.dir,aa.dot,aa.cross];grind
def NW{l:ah}:(⟨-((l.c:Rat)/l.dir.dot l.dir)*(l.a:Rat), -((l.c:Rat)/l.dir.dot l.dir)*(l.b:Rat)⟩:aa)=l.base:=by
 unfold ah.base;rw[JP];simp only[ah.nor,aa.scale,aa.mk.injEq];constructor<;>grind
def tf(l:ah)(t:Rat):cd l.base l.dir t=l.at t:=by
 simp only[cd,ah.at,aa.add,aa.scale,aa.mk.injEq];constructor<;>grind
def At{l:ah}(hl:l.Ne)(h:crossI l m≠0):gy l (dC l m)= -(l.cutC m/l.cutK m):=by
 have hd:((crossI l m:Int):Rat)≠0:=fun e=>h (cS.1 e);have hn:=Ba hl;obtain⟨q,q1,q2⟩:=zk hl;rw[Eb];unfold gy dC ah.cutC;rw[if_neg h,q2,jD,Lj,O3];have hc:=w6 l m;rw[JP] at hn⊢;simp only[ah.dir,ah.nor,aa.dot] at hn q1⊢;generalize ((crossI l m:Int):Rat)=d at*;generalize (l.a:Rat)=a at*;generalize (l.b:Rat)=b at*;generalize (l.c:Rat)=c at*;generalize (m.a:Rat)=x at*;generalize (m.b:Rat)=y at*;generalize (m.c:Rat)=z at*;have hn':a*a+b*b≠0:=by grind
 have e:((b*z-y*c)/d*b+(x*c-a*z)/d* -a)=((b*z-y*c)*b-(x*c-a*z)*a)/d:=by grind
 rw[e];have k1:(b*z-y*c)*b-(x*c-a*z)*a=(a*a+b*b)*(x*(a*q)+y*(b*q)+z):=by grind
 rw[k1];grind
def auq{l:ah}(hl:l.Ne)(h:crossI l m≠0):gy l (dC l m)*((crossI l m*(l.a*l.a+l.b*l.b):Int):Rat)=((meetX l m*l.b-meetY l m*l.a:Int):Rat):=by
 have hd:((crossI l m:Int):Rat)≠0:=fun e=>h (cS.1 e);have hn:=Ba hl;unfold gy dC;rw[if_neg h];simp only[cV,gV,lS];simp only[ah.dir,aa.dot] at hn⊢;generalize ((crossI l m:Int):Rat)=d at*;generalize ((meetX l m:Int):Rat)=x at*;generalize ((meetY l m:Int):Rat)=y at*;generalize (l.a:Rat)=a at*;generalize (l.b:Rat)=b at*;have hn':b*b+ -a* -a≠0:=by grind
 grind
def Iv(l m:ah)(t:List ah)(v:ao):gp l (m::t) v=if m=l then gp l t v else if l.cutB v m then gp l t (l.cutV v m) else none:=rfl
def qr(v:ao)(t:Rat):ao:=if v.nl=true\/0<bB t v.lo then⟨t,v.hi,false,v.nh⟩ else v
def qk(v:ao)(t:Rat):ao:=if v.nh=true\/bB t v.hi<0 then⟨v.lo,t,v.nl,false⟩ else v
structure jc (v:ao):Prop where
 lo:v.nl=true->v.lo=0
 hi:v.nh=true->v.hi=0
def IL(a b:Rat):0<bB a b↔b<a:=by
 unfold bB;split
 .constructor
  .intro h;exact absurd h pb
  .intro h;grind
 .split
  .exact⟨fun _=>by assumption,fun _=>by decide⟩
  .constructor
   .intro h;exact absurd h pb
   .intro h;exact absurd h v7
def DL(a b:Rat):bB a b<0↔a<b:=by
 unfold bB;split
 .exact⟨fun _=>by assumption,fun _=>by decide⟩
 .split
  .constructor
   .intro h;exact absurd h pb
   .intro h;grind
  .constructor
   .intro h;exact absurd h pb
   .intro h;exact absurd h v7
def Ss{v:ao}(h:jc v)(t:Rat):qr v t=v.meet ⟨t,0,false,true⟩:=by
 obtain⟨lo,hi,nl,nh⟩:=v;obtain⟨h1,h2⟩:=h;unfold qr ao.meet;simp only[IL] at*
 cases nl<;>cases nh<;>simp at* <;>(try (split<;>split<;>simp_all<;>grind))<;>grind
def TY{v:ao}(h:jc v)(t:Rat):qk v t=v.meet ⟨0,t,true,false⟩:=by
 obtain⟨lo,hi,nl,nh⟩:=v;obtain⟨h1,h2⟩:=h;unfold qk ao.meet;simp only[DL] at*
 cases nl<;>cases nh<;>simp at* <;>(try (split<;>split<;>simp_all<;>grind))<;>grind
def jc.all:jc ao.all:=⟨fun _=>J,fun _=>J⟩
def jc.lo'{v:ao}(h:jc v)(t:Rat):jc (qr v t):=by
 obtain⟨lo,hi,nl,nh⟩:=v;unfold qr;split
 .exact⟨fun h=>by simp at h,h.hi⟩
 .exact h
def jc.hi'{v:ao}(h:jc v)(t:Rat):jc (qk v t):=by
 obtain⟨lo,hi,nl,nh⟩:=v;unfold qk;split
 .exact⟨h.lo,fun h=>by simp at h⟩
 .exact h
def BA{l:ah}{v:ao}(h:crossI l m=0):l.cutV v m=v/\(l.cutB v m=true↔0<m.value l.base):=by
 have hk:l.cutK m=0:=by rw[Eb,h];rfl
 exact Ct v hk
def aHj{l:ah}{v:ao}(hl:l.Ne)(hz:jc v)(h:0<m.dir.cross l.dir):crossI l m≠0/\l.cutV v m=qr v (gy l (dC l m))/\l.cutB v m=!(qr v (gy l (dC l m))).empty:=by
 rw[Ov] at h;have hc:crossI l m≠0:=fun e=>by rw[Eb,e] at h;exact absurd h pb
 obtain⟨h1,h2⟩:=AL v h;refine⟨hc,?_,?_⟩
 .rw[Ss hz,At hl hc,h1]
 .rw[Ss hz,At hl hc,<-h1]
  rw[<-CM] at h2
  cases hb:l.cutB v m<;>cases he:(l.cutV v m).empty<;>simp_all
def WU{l:ah}{v:ao}(hl:l.Ne)(hz:jc v)(h0:crossI l m≠0)(h: ¬0<m.dir.cross l.dir):l.cutV v m=qk v (gy l (dC l m))/\l.cutB v m=!(qk v (gy l (dC l m))).empty:=by
 rw[Ov] at h;have hk:l.cutK m≠0:=fun e=>by
  rw[Eb] at e;have:((crossI l m:Int):Rat)=0:=by grind
  exact h0 (cS.1 this)
 obtain⟨h1,h2⟩:=AD (l:=l) (m:=m) v va;refine⟨?_,?_⟩
 .rw[TY hz,At hl h0,h1]
 .rw[TY hz,At hl h0,<-h1]
  rw[<-CM] at h2
  cases hb:l.cutB v m<;>cases he:(l.cutV v m).empty<;>simp_all
def relo(fl:Nat->Bool)(o:aA):aA:={o with lo:=fl o.b}
structure iO (P:Program) (f:FuncId) (vs:List Value) (M:List aA) (G:Gh) (K:Value->List aA->Gh->Prop):Prop where
 able:rC P f
 run: ∀w,bP ⟨w,G,M.map (·.b),[],[],none,fun _=>none⟩ (asB M) G w->
  Calls P f ⟨vs⟩ w fun e w'=> ∃v own' G',e= .returned v/\bP ⟨w,G,M.map (·.b),[],[],none,fun _=>none⟩ own' G' w'/\K v own' G'
def ig(M:List aA)(b:Nat):Bool:=M.all fun m=>!Nat.beq m.b b||m.lo
def bP.calledO{rest:List aA}(h:bP C (M++rest) G w)(k:bP ⟨w,G,M.map (·.b),[],[],none,fun _=>none⟩ own' G' w'):
  bP C (own'.map (relo (ig M))++rest) G' w':=by
 have hsz:w.heap.size<=w'.heap.size:=k.size;have hnd:=h.nd;have inM: ∀b,b∈M.map (·.b)-> ∀o∈rest,o.b≠b:=fun b hb o ho e=>by
  obtain⟨m,hm,rfl⟩:=aT.1 hb;exact(gR.1 hnd).2.2 m hm o ho e.symm
 have bnd: ∀o∈own',o.b∉M.map (·.b)->w.heap.size<=o.b:=fun o ho hb=>by
  obtain⟨_,_,h3,h4⟩:=k.hown o ho
  cases hlo:o.lo with
  |true=>exact h3 hlo
  |false=>exact absurd (h4 hlo) hb
 refine⟨k.os.trans h.os,k.tape.trans h.tape,k.output.trans h.output,dZ h.size hsz,?_,k.sub,h.gle.trans k.gle,?_,?_,?_,dZ h.dr k.dr,fun p hp=>⟨(h.ext p hp).1,by rw[k.keep _ (i6 (h.ext p hp).2) (h.extM hp)];exact(h.ext p hp).2⟩⟩
 .intro b hb hm
  have hs:=h.size;have hnM:b∉M.map (·.b):=fun hb'=>by
   obtain⟨m,hmM,rfl⟩:=aT.1 hb';obtain⟨_,_,h3,h4⟩:=h.hown m (bJ _ hmM)
   cases hlo:m.lo with
   |true=>have:=h3 hlo;omega
   |false=>exact hm (h4 hlo)
  rw[k.keep b omC hnM];exact h.keep b hb hm
 .intro b hb;have:=h.size;rw[k.gold b omC];exact h.gold b hb
 .intro o ho
  have hs:=h.size;rcases aL.1 ho with ho|ho
  .obtain⟨o',ho',rfl⟩:=aT.1 ho
   obtain⟨k1,k2,k3,k4⟩:=k.hown _ ho';refine⟨k1,k2,fun hl=>?_,fun hl=>?_⟩
   .show C.w0.heap.size<=o'.b
    by_cases hb:o'.b∈M.map (·.b)
    .obtain⟨m,hm,hmb⟩:=aT.1 hb
     have hl':ig M o'.b=true:=hl;have:=dW.1 hl' m hm;simp only[hmb,gS,iK,oL] at this;obtain⟨_,_,h3,_⟩:=h.hown m (bJ _ hm);rw[<-hmb];exact h3 (by rcases this with h|h;(cases h);(exact h))
    .have:=bnd o' ho' hb;omega
   .show o'.b∈C.mb
    have hl':ig M o'.b=false:=hl;obtain⟨m,hm,hmb⟩:=List.all_eq_false.1 hl';simp only[gS,iK,not_or] at hmb;obtain⟨h1,h2⟩:=hmb;have e:m.b=o'.b:=by
     cases hq:Nat.beq m.b o'.b with
     |true=>exact bQ hq
     |false=>exact absurd hq h1
    obtain⟨_,_,_,h4⟩:=h.hown m (bJ _ hm);rw[<-e];exact h4 (by cases hq:m.lo with
     |true=>exact absurd hq h2
     |false=>rfl)
  .obtain⟨h1,h2,h3⟩:=h.hown o (aM _ ho)
   have hnM:o.b∉M.map (·.b):=fun hb=>inM _ hb o ho J;exact⟨by rw[k.keep _ (i6 h1) hnM];exact h1,by rw[k.gold _ (i6 h1)];exact h2,h3⟩
 .refine gR.2 ⟨?_,(gR.1 hnd).2.1,?_⟩
  .rw[sV];exact k.nd
  .intro x hx y hy
   obtain⟨o',ho',rfl⟩:=aT.1 hx;show o'.b≠y.b;by_cases hb:o'.b∈M.map (·.b)
   .exact fun e=>inM _ hb y hy e.symm
   .have h1:=bnd o' ho' hb
    have h2:=i6 (h.hown y (aM _ hy)).1;omega
def t8(C:aG)(K:Value->List aA->Gh->Prop):Ending->World->Prop:=fun e w'=> ∃v own' G',e= .returned v/\bP C own' G' w'/\K v own' G'
def iO.introR{fn:Func}{c:Code}{m:Nat}(hf:P.funcs[f]? =some fn)(hb:fn.body=some c)(hn:(fn.name== "runtime.NumGoroutine")=false)(hm:fn.ntmps=m)(hlen:Nat.ble vs.length m=true)
  (h: ∀C:aG,C.G0=G->C.mb=M.map (·.b)->C.rd=none->(C.fx=fun _=>none)->St C m (ol 0 vs) (asB M) G (c.wp P (ge C P fn (t8 C K)))):iO P f vs M G K:=by
 refine⟨⟨fn,hf,hn,by simp[hb]⟩,fun w hw=>?_⟩;have hlen':vs.length<=m:=by simpa using hlen
 have:=calls_of_wp (P:=P) (f:=f) (args:=⟨vs⟩) (w:=w) (R:=t8 ⟨w,G,M.map (·.b),[],[],none,fun _=>none⟩ K) hf hb (wp_mono (h ⟨w,G,M.map (·.b),[],[],none,fun _=>none⟩ J J J J _ w
  ⟨hw,by simp;omega,fun k v hk=>by
   obtain⟨j,rfl,hj⟩:=xl vs 0 k v hk;have hj':=(aS.1 hj).1;rw[kN omE];simpa using hj,J⟩) fun _ _ _ k=>k J)
 exact this
def iO.intro{fn:Func}{c:Code}{m:Nat}(hf:P.funcs[f]? =some fn)(hb:fn.body=some c)(hn:(fn.name== "runtime.NumGoroutine")=false)(hm:fn.ntmps=m)(hlen:Nat.ble vs.length m=true)
  (h: ∀C:aG,C.G0=G->C.mb=M.map (·.b)->St C m (ol 0 vs) (asB M) G (c.wp P (ge C P fn (t8 C K)))):iO P f vs M G K:=
 iO.introR hf hb hn hm hlen fun C a b _ _=>h C a b
section
variable {own:List aA}
variable {t:TypeId}{gd:Option (Nat×Bool)}
def yb{fn:Func}(hr:lm P fr own fn.results.toList vs)(own2 own3:List aA)(hp:own.Perm own2)(hs:own3.Sublist own2)(hk:K (p9 vs) own3 G):St C n fr own G (ge C P fn (t8 C K) .ret):=
 fun a w rl hmk=>⟨rl.df.trans hmk,_,vi hr rl.fr rl.h,_,own3,G,J,(rl.h.perm hp).drop hs,hk⟩
def P8{c2:List Value}{rest:List aA}(ho:aE fr fo=some (.func (.func f) ⟨c1⟩ ⟨c2⟩))(hv:gk fr args.toList=some vs)
  (hp:own.Perm (M++rest))(hF:iO P f (c1++vs++c2) M G K)(hd:cv n dst=true)(h: ∀v own1 (G':Gh),[GE G G']->K v own1 G'->St C n (put fr dst v) (own1.map (relo (ig M))++rest) G' Φ):
  Ch P C n fr own G ⟨dst, .call ⟨.value fo,args,tys⟩,ty',pos,af,gd⟩ Φ:=by
 intro a w Q rl;have h2:=Eu (P:=P) (dst:=dst) (ty':=ty') (pos:=pos) (af:=af) (gd:=gd) (tys:=tys) (w:=w) hF.able rl.fr ho hv;simp only[Oper.wp,h2,Oper.upon];have hh0:=rl.h.perm hp;refine(hF.run w hh0.lend).mono ?_;rintro e w' ⟨v,own1,G',rfl,hh,hK⟩;exact @h v own1 G' ⟨hh.gle⟩ hK _ _ ((rl.heap (hh0.calledO hh)).put _ hd)
def vR{rest:List aA}(ho:aE fr fo=some (.func (.func f) #[] #[]))(hv:gk fr args.toList=some vs)
  (hp:own.Perm (M++rest))(hF:iO P f vs M G K)(hd:cv n dst=true)(h: ∀v own1 (G':Gh),[GE G G']->K v own1 G'->St C n (put fr dst v) (own1.map (relo (ig M))++rest) G' Φ):
  Ch P C n fr own G ⟨dst, .call ⟨.value fo,args,tys⟩,ty',pos,af,gd⟩ Φ:=
 P8 (c1:=[]) (c2:=[]) ho hv hp ozh hd h
def Zj{b:Nat}{cs:List Value}{lo:Bool}(hC:C.mb=[])(h:St C n fr (⟨b,cs,ty,true⟩::own) G Φ):St C n fr (⟨b,cs,ty,lo⟩::own) G Φ:=by
 intro a w rl
 cases lo with
 |true=>exact h a w rl
 |false=>
  have:=(rl.h.hown _ aQ).2.2.2 J;rw[hC] at this;cases this
end
section
variable {own:List aA}
variable {t:TypeId}{gd:Option (Nat×Bool)}{e:Nat}
def Dd{v:Value}{b k:Nat}{cs:List Value}{lo:Bool}(hx:aE fr x=some (.pointer (some ⟨b,off,none⟩)))(hy:aE fr y=some v)[hs:lD P t k][ho:jw own b cs ty lo]
  (hc:cP cs off (aH v)=cs')(hu:i9 own b cs ty lo cs' own')(hk:(aH v).length=k)(hl:off+k<=cs.length)(hf:(aH v).all flat=true)(hd:cv n dst=true)(h:St C n (put fr dst undef) own' G Φ):
  Ch P C n fr own G ⟨dst, .store t x y,ty',pos,af,gd⟩ Φ:=FF hx hy (hc▸hu) hk hl hf hd h
def y4{v:Value}{b:Nat}{cs:List Value}{lo:Bool}(hx:aE fr x=some (.pointer (some ⟨b,off,none⟩)))(hy:aE fr y=some v)[hs:k9 P t][ho:jw own b cs ty lo]
  (hc:cs.set off v=cs')(hu:i9 own b cs ty lo cs' own')(hl:off<cs.length)(hf:flat v=true)(hd:cv n dst=true)(h:St C n (put fr dst undef) own' G Φ):
  Ch P C n fr own G ⟨dst, .store t x y,ty',pos,af,gd⟩ Φ:=vS hx hy (hc▸hu) hl hf hd h
def VB[hT:cD P t e s by_](hx:aE fr x=some (.slice ad len cap)):
  Yd P C fr own G ⟨dst, .call ⟨.builtin .cap, #[x], #[t]⟩,ty',pos,af,gd⟩ (.int .i64 cap):=by
 intro a w hf hh;simp only[execOp,resolve,iY,bY,iQ,bC hf hx];have h1:(Builtin.cap_ #[t] ty' #[.slice ad len cap]).run P w= .ok (.int .i64 cap) w:=by
  simp only[Builtin.cap_];show(underlying t>>=_).run P w=_;rw[bh (hT.u w)];rfl
 exact dq h1
def aAI[hT:cD P t e s by_]{b l c m:Nat}{cs:List Value}(hm:Nat.min l2 l=m)
  (hb:w.heap[b]? =some (.cells ⟨cs⟩ ty (0,0)))(hsy:(Builtin.firstCells s m (.slice ad2 l2 c2)).run P w= .ok ⟨ys⟩ w)(hf: ∀v∈ys,flat v=true)(hl:off+ys.length<=cs.length):
  (Builtin.copy_ #[t,t'] ty' #[.slice (some ⟨b,off,none⟩) l c, .slice ad2 l2 c2]).run P w=
   .ok (.int .i64 m) (iv w b (.cells ⟨cP cs off ys⟩ ty (0,0))):=by
 obtain⟨i,hi,his,hib⟩:=hT.info;subst his;have hst:=yz (P:=P) ys w off 0 cs hf hb m5;rw[gQ] at hst;subst hm;simp[Builtin.copy_,run_underlying hT.un,sizeOf,typeInfo,hi,Builtin.lenOf,hsy,hst];rfl
def QA[hT:cD P t e s by_]{b l c m:Nat}{cs:List Value}{lo:Bool}(hx:aE fr x=some (.slice (some ⟨b,off,none⟩) l c))(hy:aE fr y=some (.slice ad2 l2 c2))
  (hm:Nat.min l2 l=m)(hsy:nI P C own G s m (.slice ad2 l2 c2) ys)(hf: ∀v∈ys,flat v=true)(hl:off+ys.length<=cs.length)(hu:i9 own b cs ty lo (cP cs off ys) own')(hd:cv n dst=true)
  (h:St C n (put fr dst (.int .i64 m)) own' G Φ):Ch P C n fr own G ⟨dst, .call ⟨.builtin .copy, #[x,y], #[t,t']⟩,ty',pos,af,gd⟩ Φ:=by
 intro a w Q rl;have hb:=(rl.h.hown _ (hu.spec rl.h.nd).1).1;refine kI (v:= .int .i64 m) (w':=iv w b (.cells ⟨cP cs off ys⟩ ty (0,0))) ?_ (h _ _ ((rl.heap (rl.h.store hu)).put _ hd));simp only[execOp,resolve,iY,bY,iQ,bC rl.fr hx,bC rl.fr hy];exact dq (aAI hm hb (hsy w rl.h) hf hl)
def Nd[hT:cD P t e s by_][hN:kz P t']{b m:Nat}{cs:List Value}{lo:Bool}
  (hx:aE fr x=some (.slice (some ⟨b,0,none⟩) len cap))(hy:aE fr y=some (.slice ad2 m cap2))(hu:i9 own b cs e lo (cP cs (len*s) ys) own')(hcs:cs.length=cap*s)
  (hsy:nI P C own G s m (.slice ad2 m cap2) ys)(hys:ys.length=m*s)(hf: ∀v∈ys,flat v=true)(hneed:len+m<=cap)(hd:cv n dst=true)
  (h:St C n (put fr dst (.slice (some ⟨b,0,none⟩) (len+m) cap)) own' G Φ):
  Ch P C n fr own G ⟨dst, .call ⟨.builtin .append, #[x,y], #[t,t']⟩,ty',pos,af,gd⟩ Φ:=by
 intro a w Q rl;have hb:=(rl.h.hown _ (hu.spec rl.h.nd).1).1;refine kI (v:= .slice (some ⟨b,0,none⟩) (len+m) cap) (w':=iv w b (.cells ⟨cP cs (len*s) ys⟩ e (0,0))) ?_ (h _ _ ((rl.heap (rl.h.store hu)).put _ hd));simp only[execOp,resolve,iY,bY,iQ,bC rl.fr hx,bC rl.fr hy];exact dq (F9 hb hcs (hsy w rl.h) hys hf hneed)
def IB[hT:cD P t e s by_][hN:kz P t']{z:Value}[hz:ie P e z]{b m:Nat}{lo:Bool}
  (hx:aE fr x=some (.slice (some ⟨b,0,none⟩) len cap))(hy:aE fr y=some (.slice ad2 m cap2))(hr:ki own ⟨b,xs++rest,e,lo⟩ own1)(hxs:xs.length=len*s)(hcap:xs.length+rest.length=cap*s)(hlc:len<=cap)
  (hsy:nI P C own G s m (.slice ad2 m cap2) ys)(hys:ys.length=m*s)(hf: ∀v∈ys,flat v=true)
  (hby:0<by_)(hb:(len+m)*by_<=140737488355328)(hzs:(aH z).length=s)(hd:cv n dst=true)
  (h: ∀b lo' cap' rest',len+m<=cap'->rest'.length+(len+m)*s=cap'*s->St C n (put fr dst (.slice (some ⟨b,0,none⟩) (len+m) cap')) (⟨b,xs++ys++rest',e,lo'⟩::own1) G Φ):
  Ch P C n fr own G ⟨dst, .call ⟨.builtin .append, #[x,y], #[t,t']⟩,ty',pos,af,gd⟩ Φ:=by
 intro a w Q rl;have hp:=rl.h.perm hr.perm;have hblk:=(hp.hown _ aQ).1;simp only[] at hblk;by_cases hneed:len+m<=cap
 .have hcs:(xs++rest).length=cap*s:=by simp;omega
  have hrun:=F9 (P:=P) (t:=t) (t':=t') (ty':=ty') (w:=w) (len:=len) hblk hcs (hsy w rl.h) hys hf hneed;have hle:len*s+m*s<=cap*s:=by rw[<-dV];exact bS _ hneed
  have hov:cP (xs++rest) (len*s) ys=xs++ys++rest.drop (m*s):=by
   rw[qj _ _ _ (by rw[hys];omega),<-hxs];simp[hys,nN]
  refine kI (v:= .slice (some ⟨b,0,none⟩) (len+m) cap) (w':=iv w b (.cells ⟨cP (xs++rest) (len*s) ys⟩ e (0,0))) ?_ ?_
  .simp only[execOp,resolve,iY,bY,iQ,bC rl.fr hx,bC rl.fr hy]
   exact dq hrun
  .rw[hov]
   refine h b lo cap (rest.drop (m*s)) hneed ?_ _ _ ((rl.heap (hp.store (.hd ..))).put _ hd);rw[gT,dV];omega
 .have hx':nI P C own G s len (.slice (some ⟨b,0,none⟩) len cap) xs:=fun w' hw'=>by
   have hb':=(((hw'.perm hr.perm).hown _ aQ).1);refine EK hb' ?_;rw[l5 _ _ _ omg,<-hxs];simp
  have hcap':len+m<=grownCap w (len+m) cap e:=by unfold grownCap;simp only[Question.cut];omega
  have hrun:=Km (P:=P) (t:=t) (t':=t') (ty':=ty') (w:=w) (w':=w) (hx' _ rl.h.drew) (hsy _ rl.h.drew) m5 hby hb;refine kI (v:= .slice (some ⟨w.heap.size,0,none⟩) (len+m) (grownCap w (len+m) cap e)) (w':=w.drew.alloc (.cells ⟨xs++ys++du z (grownCap w (len+m) cap e-(len+m))⟩ e)) ?_ ?_
  .simp only[execOp,resolve,iY,bY,iQ,bC rl.fr hx,bC rl.fr hy]
   exact dq hrun
  .refine h w.heap.size _ _ _ hcap' ?_ _ _ ((rl.heap (((hp.drew).drop (nS _ _)).alloc _ _)).put _ hd)
   rw[oP,hzs,<-dV];congr 1;omega
def ard{fn:Func}(hf:P.funcs[f]? =some fn)(hname:(fn.name== "runtime.NumGoroutine")=false)(hb:fn.body.isNone=true)(hn:Extern.findNext fn=none)
  (he:Extern.find fn=some (Extern.SlicesOverlaps.overlaps #[tS,tS] #[tR]))[hT:cD P tS e s by_]
  {b1 b2 o1 o2 l1 c1:Nat}{lo1 lo2:Bool}(ho:aE fr fo=some (.func (.func f) #[] #[]))
  (hv:gk fr args.toList=some [.slice (some ⟨b1,o1,none⟩) l1 c1, .slice (some ⟨b2,o2,none⟩) l2 c2])[h1:jw own b1 cs1 t1 lo1][h2:jw own b2 cs2 t2 lo2](hne:b1≠b2)(hc2:cs2≠[]):
  Yd P C fr own G ⟨dst, .call ⟨.value fo,args,tys⟩,ty',pos,af,gd⟩ (.bool false):=by
 intro a w hfr hh;have e1:=(hh.hown _ h1.mem).1;have e2:=(hh.hown _ h2.mem).1;have ev:args.map a.eval=⟨[.slice (some ⟨b1,o1,none⟩) l1 c1, .slice (some ⟨b2,o2,none⟩) l2 c2]⟩:=by apply Array.ext';simpa using AG hfr hv
 simp only[] at e1 e2;have hrun:=Lib.run_overlaps_apart (P:=P) w tS tR e hT.un s hT.siz ⟨b1,o1,none⟩ ⟨b2,o2,none⟩ l1 c1 l2 c2 hne t1 t2 cs1.length cs2.length
  (by simp[World.shape?,e1]) (by simp[World.shape?,e2]) (by simpa using hc2) (by simp[World.frozen?,e1]) (by simp[World.frozen?,e1])
 simp only[execOp,resolve,bC hfr ho,ev,Deferred.ofValue];show(invoke (.fn (.func f) #[]) _).run P w=_;simp only[invoke];have h3:=run_callFunc_extern (P:=P) hf hname hb hn he;rw[h3];simp[hrun,Result.andThen]
end
instance m9.cons2 (l m:List aA) (o:aA) [h:m9 l m]:m9 (o::l) (o::m):=⟨h.s.cons_cons o⟩
def dr0{own:List aA}{b:Nat}{cs:List Value}{lo:Bool}(fin:Nat->Bool)(π:List (Nat×Bool)){id:Nat}(hm:P.follows .mixedOrders=true)(_hr:ki own ⟨b,cs,ty,lo⟩ own0)(ho:(vA ops fin π (Array.replicate ops.size false)&&Nat.ble π.length ops.size)=true)
  (h:St C n fr own G (js P ops (iF Q) (HS C own0 G) fin π)):St C n fr own G ((Code.region id ops true).wp P Q):=by
 simp only[bR] at ho;intro a w rl;exact wp_mono (wp_region_any hm (FB _ _ _ _ (Cq (fun _ _ _ _ _ h=>h) π _ a _ ho.1 (h a _ (rl.heap rl.h.drew)) _ (by simpa using ho.2)))) iF.imp
def aF(vs:List Value):List Value:=(vs.map aH).flatten
def fC{s:Nat}: ∀(vs:List Value),(∀v∈vs,(aH v).length=s)->(aF vs).length=vs.length*s
 |[],_=>by simp[aF]
 |v::vs,h=>by
  have h1:=fC vs (fun u hu=>h u (aJ _ hu));have h2:=h v aQ;unfold aF at*;simp only[bY,nJ,aU,aN,h1,h2,gK];omega
def nA(us vs:List Value):aF (us++vs)=aF us++aF vs:=by simp[aF]
def yk(v:Value):aF [v]=aH v:=by simp[aF]
def Df{s:Nat}: ∀(vs:List Value) (i:Nat),(∀v∈vs,(aH v).length=s)->i<=vs.length->(aF vs).take (i*s)=aF (vs.take i)
 |vs,0,_,_=>by simp[aF]
 |[],i+1,_,h=>by simp at h
 |v::vs,i+1,h,hi=>by
  have h1:=Df vs i (fun u hu=>h u (aJ _ hu)) omI;have h2:=h v aQ;unfold aF at*;simp only[bY,nJ,pX];rw[List.take_append,h2,bM (by rw[h2,gK];omega),gK,mL,h1]
def Fz{s:Nat}: ∀(vs:List Value) (i:Nat),(∀v∈vs,(aH v).length=s)->i<=vs.length->(aF vs).drop (i*s)=aF (vs.drop i)
 |vs,0,_,_=>by simp
 |[],i+1,_,h=>by simp at h
 |v::vs,i+1,h,hi=>by
  have h1:=Fz vs i (fun u hu=>h u (aJ _ hu)) omI;have h2:=h v aQ;unfold aF at*;simp only[bY,nJ,tT];rw[nN,h2,jW (by rw[h2,gK];omega),gK,mL,h1,kQ]
theorem okF{p:Prop}(h:p:=by simp only[aU];omega):p:=h
def JB(h: ∀v∈vs,(aH v).length=s)(hi:i<vs.length):dd (aF vs++rest) (i*s) s=some (aH vs[i]):=by
 have hl:=fC vs h;have hle:i*s+s<=vs.length*s:=by rw[<-gK];exact bS _ hi
 rw[l5 _ _ _ okF];congr 1;rw[kV m5,Fz vs i h m5,bV hi];have h2:=h vs[i] (cK hi);rw[show(vs[i]::vs.drop (i+1))=[vs[i]]++vs.drop (i+1) from J,nA,yk,dK,fV m5,bM m5]
def gH.of_flat{b c:Nat}(h: ∀v∈vs,(aH v).length=s)(hg:G b=some (aF vs++rest))(hc:vs.length<=c):gH G s ⟨some ⟨b,0,none⟩,vs.length,c⟩ vs:=
 ⟨J,hc, .inr ⟨b,0,_,J,hg,fun i hi=>by rw[eM];exact JB h hi⟩⟩
section
variable {own:List aA}
variable {gd:Option (Nat×Bool)}
def vL(own0:List aA)(fin:Nat->Bool)(π:List (Nat×Bool)){id:Nat}(hm:P.follows .mixedOrders=true)(ho:(vA ops fin π (Array.replicate ops.size false)&&Nat.ble π.length ops.size)=true)
  (h:St C n fr own G (js P ops (iF Q) (HS C own0 G) fin π)):St C n fr own G ((Code.region id ops true).wp P Q):=by
 simp only[bR] at ho;intro a w rl;exact wp_mono (wp_region_any hm (FB _ _ _ _ (Cq (fun _ _ _ _ _ h=>h) π _ a _ ho.1 (h a _ (rl.heap rl.h.drew)) _ (by simpa using ho.2)))) iF.imp
end
section
variable {S:World->Prop}{π₂:List (Nat×Bool)}
end
structure FD where
 k:Nat
 d:Nat
 t:TypeId
 z:Value
abbrev Fs:=Nat->Option Nat
def H8:List FD->Fs->Fr
 |[],_=>[]
 |f::r,fs=>fF f.d (fs f.k)++H8 r fs
def Ja:List FD->Fs->List aA
 |[],_=>[]
 |f::r,fs=>fO f.t f.z (fs f.k)++Ja r fs
def Ty(fd:List FD)(fs:Fs):List Nat:=(fd.filter fun f=>(fs f.k).isNone).map (·.k)
section
variable {own:List aA}{π π₂:List (Nat×Bool)}{fd:List FD}
end
end Go.Sx
end
