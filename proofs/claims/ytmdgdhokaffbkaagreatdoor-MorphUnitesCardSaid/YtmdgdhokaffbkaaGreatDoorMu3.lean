import Derived.Test.YtmdgdhokaffbkaaGreatDoorMu2
import Derived.Laws.Externs
import Derived.Lib.Overlaps
set_option linter.all false
set_option maxRecDepth 100000
section
namespace Go.Sx
open Go Go.Proofs
def Sv{n:Int}{d:Nat}(h:n<0):mkRat (-(d:Int)) n.natAbs=Rat.divInt (d:Int) n:=by
 rw[<-Rat.divInt_ofNat,lY (pT h),Rat.neg_divInt_neg]
def KA{q:Rat}(h:q.num<0):(q⁻¹).num= -(q.den:Int)/\(q⁻¹).den=q.num.natAbs:=by
 rw[Rat.num_inv,Rat.den_inv,if_neg (by omega),dS h];omega
def MX{q:Rat}(h:0<q.num):(q⁻¹).num=(q.den:Int)/\(q⁻¹).den=q.num.natAbs:=by
 rw[Rat.num_inv,Rat.den_inv,if_neg (by omega),fY h];omega
end Go.Sx
end
section
namespace Go.Sx
open Go
variable {P:Program}{ops:Array Oper}{Q:Exit->Act->World->Prop}{fin:Nat->Bool}{k n:Nat}
section
variable {S:World->Prop}{π₂:List (Nat×Bool)}
end
section
variable {C:aE}{fr:Fr}{own own0:List av}{G G0:Gh}{π π₂:List (Nat×Bool)}
def fF(d:Nat):Option Nat->Fr
 |none=>[]
 |some b=>[(d, .pointer (some ⟨b,0,none⟩))]
def fO(t:TypeId)(z:Value):Option Nat->List av
 |none=>[]
 |some b=>[⟨b,aF z,t,true⟩]
end
end Go.Sx
end
section
namespace Go.Sx
open Go Go.Proofs
def EC{q:Rat}(h:q.den=1:=by omega):q=(q.num:Int):=by
 conv=>lhs;rw[<-rY q,h,sJ]
def bA(a b:Rat):Int:=if a<b then-1 else if b<a then 1 else 0
def Fk(a b:Rat):(a-b).num<0↔a<b:=by
 rw[<-Rat.not_le,Rat.le_iff_sub_nonneg,<-rU];omega
def Lt(a b:Rat):0<(a-b).num↔b<a:=by
 have h:=Fk b a;have h2:(b-a).num= -(a-b).num:=by rw[<-nR,Rat.neg_sub]
 rw[h2] at h;rw[<-h];omega
def Cl(a b:Rat):Int.sign (a-b).num=bA a b:=by
 unfold bA;split
 .rename_i h;exact dS ((Fk a b).2 h)
 .rename_i h
  split
  .rename_i h2;exact fY ((Lt a b).2 h2)
  .rename_i h2
   rw[<-Fk] at h;rw[<-Lt] at h2;rw[show(a-b).num=0 by omega];rfl
def QA{a b:Rat}(h:a.den=b.den:=by omega):a<b↔a.num<b.num:=by
 rw[Rat.lt_iff,h];have:(0:Int)<b.den:=by have:=b.den_pos;omega
 exact⟨fun h2=>Int.lt_of_mul_lt_mul_right h2 (pT this),fun h2=>Int.mul_lt_mul_of_pos_right h2 this⟩
def uL(a b:Rat):bA a b=0↔a=b:=by
 unfold bA;constructor
 .intro h
  split at h
  .omega
  .rename_i h1
   split at h
   .omega
   .rename_i h2
    exact Rat.le_antisymm (Rat.not_lt.1 h2) (Rat.not_lt.1 h1)
 .intro h
  subst h;rw[if_neg (Rat.not_lt.2 iV),if_neg (Rat.not_lt.2 iV)]
def KT(a b:Rat):0<bA a b↔b<a:=by
 unfold bA;constructor
 .intro h
  split at h
  .omega
  .split at h
   .assumption
   .omega
 .intro h
  rw[if_neg (fun h2=>Rat.not_lt.2 (cM h) h2),if_pos h];decide
def Qb(a b:Rat):bA a b<0↔a<b:=by
 unfold bA;constructor
 .intro h
  split at h
  .assumption
  .split at h<;>omega
 .intro h
  rw[if_pos h];decide
def rgcd(a b:Rat):Rat:=mkRat ((Nat.gcd (a.num.natAbs*b.den) (b.num.natAbs*a.den):Nat):Int) (a.den*b.den)
def Ik(a b:Int):rgcd a b=((Nat.gcd a.natAbs b.natAbs:Nat):Int):=by
 unfold rgcd;show mkRat ((Nat.gcd (a.natAbs*1) (b.natAbs*1):Nat):Int) (1*1)=_;rw[iN,iN,iN,sJ]
def Ir{a b m:Nat}(ha:a<m)(hb:b<m):Nat.gcd a b<m:=by
 rcases fU a with h|h
 .rw[h,Nat.gcd_zero_left];exact hb
 .exact fK (Nat.gcd_le_left _ h) ha
structure LV where
 a:RV
 b:RV
 c:RV
def LV.v(z:LV):Value:= .agg ⟨[.int .i64 z.a.n, .int .i64 z.a.d, .pointer z.a.p, .int .i64 z.b.n, .int .i64 z.b.d, .pointer z.b.p, .int .i64 z.c.n, .int .i64 z.c.d, .pointer z.c.p]⟩
structure aa where
 a:Int
 b:Int
 c:Int
def aa.ok(l:aa):Prop:= ¬(l.a=0/\l.b=0)/\Nat.gcd (Nat.gcd l.a.natAbs l.b.natAbs) l.c.natAbs=1
structure PV where
 x:RV
 y:RV
def PV.v(z:PV):Value:= .agg ⟨[.int .i64 z.x.n, .int .i64 z.x.d, .pointer z.x.p, .int .i64 z.y.n, .int .i64 z.y.d, .pointer z.y.p]⟩
structure ah where
 x:Rat
 y:Rat
def H7(a:Int): -(a:Rat)=((-a:Int):Rat):=rfl
def aa.rev(l:aa):aa:=⟨-l.a, -l.b, -l.c⟩
def aa.nor(l:aa):ah:=⟨l.a,l.b⟩
def aa.dir(l:aa):ah:=⟨l.b, -(l.a:Rat)⟩
def ah.dot(p q:ah):Rat:=p.x*q.x+p.y*q.y
def ah.cross(p q:ah):Rat:=p.x*q.y-p.y*q.x
def ah.scale(p:ah)(c:Rat):ah:=⟨p.x*c,p.y*c⟩
def ah.add(p q:ah):ah:=⟨p.x+q.x,p.y+q.y⟩
def aa.value(l:aa)(p:ah):Rat:=l.nor.dot p+(l.c:Rat)
def aa.base(l:aa):ah:=l.nor.scale (-(l.c:Rat)/l.nor.dot l.nor)
def aa.at(l:aa)(t:Rat):ah:=l.base.add (l.dir.scale t)
end Go.Sx
end
section
namespace Go.Sx
open Go
variable {s n c2 by_ off len cap l2 cap2 i:Nat}{p q:ah}{m:aa}{C:aE}{K:Value->List av->Gh->Prop}{x y fo:Operand}{M own' own1 own0:List av}{rest vs c1 cs' ys xs cs1 cs2:List Value}{G G' G0:Gh}{w w':World}{P:Program}{f:FuncId}{fr:Fr}{Φ:Act->World->Prop}{dst:Option Nat}{t' ty' ty tS tR t1 t2:TypeId}{pos:String}{af:Array Edge}{args:Array Operand}{tys:Array TypeId}{ad ad2:Option Addr}{ops:Array Oper}{Q:Exit->Act->World->Prop}{fin:Nat->Bool}
instance:DecidableEq aa:=fun x y=>decidable_of_iff (x.a=y.a/\x.b=y.b/\x.c=y.c) (by
 cases x;cases y;simp)
structure ao where
 lo:Rat
 hi:Rat
 nl:Bool
 nh:Bool
def ao.all:ao:=⟨0,0,true,true⟩
def ao.empty(v:ao):Bool:=!v.nl&&(!v.nh&&decide (0<=bA v.lo v.hi))
def ao.meet(v w:ao):ao:=
 ⟨if v.nl then w.lo else if w.nl then v.lo else if v.lo<w.lo then w.lo else v.lo,
  if v.nh then w.hi else if w.nh then v.hi else if w.hi<v.hi then w.hi else v.hi,v.nl&&w.nl,v.nh&&w.nh⟩
def ao.sample(v:ao):Rat:=if v.nl&&v.nh then 0 else if v.nl then v.hi-1 else if v.nh then v.lo+1 else(v.lo+v.hi)*mkRat 1 2
def aa.cutK(l m:aa):Rat:=m.nor.dot l.dir
def aa.cutC(l m:aa):Rat:=m.value l.base
def aa.cutV(l:aa)(v:ao)(m:aa):ao:=
 if Int.sign (l.cutK m).num=0 then v
 else if Int.sign (l.cutK m).num=1 then v.meet ⟨-(l.cutC m/l.cutK m),0,false,true⟩
 else v.meet ⟨0, -(l.cutC m/l.cutK m),true,false⟩
def aa.cutB(l:aa)(v:ao)(m:aa):Bool:=
 if Int.sign (l.cutK m).num=0 then decide (0<Int.sign (l.cutC m).num) else !(l.cutV v m).empty
structure bt where
 l:aa
 v:ao
abbrev ar:=List bt
variable {e:ar}
def mA(l:aa):ar->ao->Option ao
 |[],v=>some v
 |s::t,v=>if l.cutB v s.l then mA l t (l.cutV v s.l) else none
def jC(c:ar)(l:aa):Option ao:=mA l c ao.all
def nF(l:aa)(s:bt):Int:=Int.sign (l.value (s.l.at s.v.sample)).num
def nq(l:aa):ar->Int
 |[]=> -1
 |s::t=>if nF l s≠0 then nF l s else if s.l=l then 1 else nq l t
def vr(c:ar)(l:aa):Int:=if(jC c l).isSome then 0 else nq l c
def ah.half(p:ah):Int:=
 if 0<Int.sign p.y.num\/(Int.sign p.y.num=0/\0<Int.sign p.x.num) then 1 else if Int.sign p.y.num<0\/Int.sign p.x.num<0 then 2 else 0
def fG(u v:ah):Int:=if u.half<v.half then-1 else if v.half<u.half then 1 else-(Int.sign (u.cross v).num)
def dC(l:aa):ar->ar
 |[]=>[]
 |s::t=>if s.l.cutB s.v l then⟨s.l,s.l.cutV s.v l⟩::dC l t else dC l t
def fy(p:Nat->Bool)(i j:Nat):Nat:=
 if h:i<j then(if p ((i+j)/2) then fy p ((i+j)/2+1) j else fy p i ((i+j)/2)) else i
termination_by j-i
def iO(c:ar)(l:aa)(i:Nat):Bool:=match c[i]? with
 |some s=>decide (fG s.l.dir l.dir<0)
 |none=>false
def kO(c:ar)(l:aa)(v:ao):ar:=
 c.take (fy (iO c l) 0 c.length)++⟨l,v⟩::c.drop (fy (iO c l) 0 c.length)
def bz(c:ar)(l:aa):ar:=match jC c l with
 |some v=>kO (dC l c) l v
 |none=>c
def cg(c:ar)(l:aa):Bool:=match jC c l with
 |some _=>true
 |none=>decide (0<vr c l)
def Db(p:Nat->Bool): ∀(d i j:Nat),j-i<=d->i<=j->i<=fy p i j/\fy p i j<=j
 |0,i,j,h,hij=>by
  rw[fy,dif_neg (by omega)];omega
 |d+1,i,j,h,hij=>by
  rw[fy];split
  .split
   .have:=Db p d ((i+j)/2+1) j (by omega) (by omega);omega
   .have:=Db p d i ((i+j)/2) (by omega) (by omega);omega
  .omega
def LW(l:aa): ∀c:ar,(dC l c).length<=c.length
 |[]=>bW _
 |s::t=>by
  have:=LW l t;unfold dC;split<;>simp<;>omega
def VF(c:ar)(l:aa)(v:ao):(kO c l v).length=c.length+1:=by
 have:=(Db (iO c l) c.length 0 c.length (by omega) (by omega)).2;simp[kO];omega
def rG(c:ar)(l:aa):(bz c l).length<=c.length+1:=by
 unfold bz;split
 .rw[VF];have:=LW l c;omega
 .omega
inductive Tr where
 |leaf (b:Bool)
 |node (l:aa) (x y:Tr)
def Tr.isLeaf:Tr->Bool
 | .leaf _=>true
 | .node .. =>false
def Tr.code:Tr->Bool
 | .leaf b=>b
 | .node .. =>false
def Tr.depth:Tr->Nat
 | .leaf _=>0
 | .node _ x y=>1+max x.depth y.depth
def Tr.size:Tr->Nat
 | .leaf _=>0
 | .node _ x y=>1+x.size+y.size
def Tr.joinQ(l:aa)(x y:Tr):Tr:=if x.isLeaf&&(y.isLeaf&&(x.code==y.code)) then x else .node l x y
def Tr.restrict:Tr->ar->Tr
 | .leaf b,_=> .leaf b
 | .node l x y,c=>if !cg c l.rev then x.restrict c else if !cg c l then y.restrict c else joinQ l (x.restrict (bz c l)) (y.restrict (bz c l.rev))
def Tr.parts:Tr->ar->List (Bool×ar)
 | .leaf b,c=>[(b,c)]
 | .node l x y,c=>(if cg c l then x.parts (bz c l) else [])++(if cg c l.rev then y.parts (bz c l.rev) else [])
def Tr.all(p:aa->Prop):Tr->Prop
 | .leaf _=>True
 | .node l x y=>p l/\x.all p/\y.all p
structure NQ where
 l:aa
 a:Int
 b:Int
def KK(b:Bool):Int:=if b then-2 else-1
def Tr.num:Tr->Nat->Int
 | .leaf b,_=>KK b
 | .node ..,n=>n
def Tr.wr:Tr->Nat->List NQ
 | .leaf _,_=>[]
 | .node l x y,n=>⟨l,x.num (n+1),y.num (n+1+x.size)⟩::x.wr (n+1)++y.wr (n+1+x.size)
def Tr.wr_len: ∀(t:Tr) (n:Nat),(t.wr n).length=t.size
 | .leaf _,n=>rfl
 | .node l x y,n=>by
  have h1:=Tr.wr_len x (n+1);have h2:=Tr.wr_len y (n+1+x.size);simp[Tr.wr,Tr.size,h1,h2];omega
def Tr.joinQ_cases(l:aa)(x y:Tr):(Tr.joinQ l x y=x/\x.isLeaf=true)\/(Tr.joinQ l x y= .node l x y/\ ¬(x.isLeaf=true/\y.isLeaf=true/\x.code=y.code)):=by
 unfold Tr.joinQ;split
 .rename_i h
  simp at h;exact .inl ⟨J,h.1⟩
 .rename_i h
  simp at h;exact .inr ⟨J,fun⟨a,b,c⟩=>h a b c⟩
def Tr.restrict_depth: ∀(t:Tr) (c:ar),(t.restrict c).depth<=t.depth
 | .leaf b,c=>bW _
 | .node l x y,c=>by
  unfold Tr.restrict;split
  .have:=x.restrict_depth c;simp only[Tr.depth];omega
  .split
   .have:=y.restrict_depth c;simp only[Tr.depth];omega
   .have h1:=x.restrict_depth (bz c l)
    have h2:=y.restrict_depth (bz c l.rev);rcases Tr.joinQ_cases l (x.restrict (bz c l)) (y.restrict (bz c l.rev)) with⟨h,_⟩|⟨h,_⟩
    .rw[h];simp only[Tr.depth];omega
    .rw[h];simp only[Tr.depth];omega
def Tr.restrict_all(p:aa->Prop): ∀(t:Tr) (c:ar),t.all p->(t.restrict c).all p
 | .leaf b,c,_=>trivial
 | .node l x y,c,h=>by
  obtain⟨h0,h1,h2⟩:=h;unfold Tr.restrict;split
  .exact x.restrict_all p c h1
  .split
   .exact y.restrict_all p c h2
   .rcases Tr.joinQ_cases l (x.restrict (bz c l)) (y.restrict (bz c l.rev)) with⟨h,_⟩|⟨h,_⟩
    .rw[h];exact x.restrict_all p _ h1
    .rw[h];exact⟨h0,x.restrict_all p _ h1,y.restrict_all p _ h2⟩
def i6(l:aa)(p:ah):l.value p=(l.a:Rat)*p.x+(l.b:Rat)*p.y+(l.c:Rat):=rfl
def en(l:aa)(p:ah):l.rev.value p= -l.value p:=by
 rw[i6,i6];have h1:((l.rev.a:Int):Rat)= -(l.a:Rat):=(H7 l.a).symm;have h2:((l.rev.b:Int):Rat)= -(l.b:Rat):=(H7 l.b).symm;have h3:((l.rev.c:Int):Rat)= -(l.c:Rat):=(H7 l.c).symm;rw[h1,h2,h3];grind
def jt(q p:ah)(e:Rat):ah:=⟨q.x+e*(p.x-q.x),q.y+e*(p.y-q.y)⟩
def kw(l:aa)(q p:ah)(e:Rat):l.value (jt q p e)=l.value q+e*(l.value p-l.value q):=by
 simp only[i6,jt];grind
def cG(q u:ah)(e:Rat):ah:=⟨q.x+e*u.x,q.y+e*u.y⟩
def jf(l:aa)(q u:ah)(e:Rat):l.value (cG q u e)=l.value q+e*l.nor.dot u:=by
 simp only[i6,cG,aa.nor,ah.dot];grind
def dd{a b:Rat}(ha:0<a)(hb:0<b):0<a*b:=Rat.mul_pos ha hb
def cC{a b:Rat}(ha:0<=a)(hb:0<=b):0<=a*b:=Rat.mul_nonneg ha hb
def Do(a:Rat):0<=a*a:=by
 by_cases h:0<=a
 .exact cC h h
 .have:=cC (a:= -a) (b:= -a) (by grind) (by grind)
  grind
def fC{s k:Rat}(hk:0<k):0<s*k↔0<s:=by
 constructor
 .intro h
  by_cases hs:0<s
  .exact hs
  .have:=cC (a:= -s) (b:=k) (by grind) (by grind)
   grind
 .intro h;exact dd h hk
def gE{s k:Rat}(hk:0<k):0<=s*k↔0<=s:=by
 constructor
 .intro h
  by_cases hs:0<=s
  .exact hs
  .have:=dd (a:= -s) (b:=k) (by grind) hk
   grind
 .intro h;exact cC h (by grind)
def FF{A B u v:Rat}(h0:0<=A)(h1:0<=A+v*B)(hu:0<=u)(huv:u<=v):0<=A+u*B:=by
 by_cases hB:0<=B
 .have:=cC hu hB;grind
 .have:=cC (a:=v-u) (b:= -B) (by grind) (by grind)
  grind
def aa.Ne(l:aa):Prop:= ¬(l.a=0/\l.b=0)
def aa.ok.ne{l:aa}(h:l.ok):l.Ne:=h.1
def mf{l:aa}(h:l.Ne):0<l.nor.dot l.nor:=by
 show 0<(l.a:Rat)*l.a+(l.b:Rat)*l.b;have h1:=Do (l.a:Rat);have h2:=Do (l.b:Rat);by_cases ha:l.a=0
 .have hb:l.b≠0:=fun hb=>h ⟨ha,hb⟩
  have hb':(l.b:Rat)≠0:=fun e=>hb (cW.1 e);have:(l.b:Rat)*l.b≠0:=by grind
  grind
 .have ha':(l.a:Rat)≠0:=fun e=>ha (cW.1 e)
  have:(l.a:Rat)*l.a≠0:=by grind
  grind
def Ag{l:aa}(h:l.Ne): ∃q:Rat,l.nor.dot l.nor*q= -(l.c:Rat)/\l.base=⟨(l.a:Rat)*q,(l.b:Rat)*q⟩:=by
 refine⟨-(l.c:Rat)/l.nor.dot l.nor,?_,J⟩;have:=mf h;grind
def lh(l m:aa)(t:Rat):m.value (l.at t)=l.cutC m+t*l.cutK m:=by
 simp only[aa.cutC,aa.cutK,i6,aa.at,ah.add,ah.scale,aa.dir,aa.nor,ah.dot];grind
def lg{l:aa}(h:l.Ne)(t:Rat):l.value (l.at t)=0:=by
 obtain⟨q,h1,h2⟩:=Ag h;simp only[i6,aa.at,h2,ah.add,ah.scale,aa.dir];simp only[aa.nor,ah.dot] at h1;grind
def Br{l:aa}(h:l.Ne)(hp:l.value p=0): ∃t,p=l.at t:=by
 obtain⟨q,h1,h2⟩:=Ag h;have hn:=mf h;obtain⟨x,y⟩:=p;rw[i6] at hp;simp only[aa.nor,ah.dot] at h1 hn;refine⟨((l.b:Rat)*x-(l.a:Rat)*y)/((l.a:Rat)*l.a+(l.b:Rat)*l.b),?_⟩;generalize ht:((l.b:Rat)*x-(l.a:Rat)*y)/((l.a:Rat)*l.a+(l.b:Rat)*l.b)=t;have ht':((l.a:Rat)*l.a+(l.b:Rat)*l.b)*t=(l.b:Rat)*x-(l.a:Rat)*y:=by grind
 simp only[aa.at,h2,ah.add,ah.scale,aa.dir,ah.mk.injEq];generalize (l.a:Rat)=a at*;generalize (l.b:Rat)=b at*;generalize (l.c:Rat)=c at*;have e1:(a*a+b*b)*(x-(a*q+b*t))=0:=by grind
 have e2:(a*a+b*b)*(y-(b*q+ -a*t))=0:=by grind
 constructor<;>grind
def ao.has(v:ao)(t:Rat):Prop:=(v.nl=true\/v.lo<=t)/\(v.nh=true\/t<=v.hi)
def ao.ins(v:ao)(t:Rat):Prop:=(v.nl=true\/v.lo<t)/\(v.nh=true\/t<v.hi)
def ao.Pos(v:ao):Prop:=v.nl=true\/v.nh=true\/v.lo<v.hi
def ZL(a b:Rat):0<=bA a b↔b<=a:=by
 unfold bA;split
 .constructor
  .intro h;exact absurd h (by decide)
  .intro h;grind
 .split
  .constructor
   .intro _;grind
   .intro _;decide
  .constructor
   .intro _;grind
   .intro _;decide
def E0(v:ao):v.empty=false↔v.Pos:=by
 obtain⟨lo,hi,nl,nh⟩:=v;unfold ao.empty ao.Pos
 cases nl<;>cases nh<;>simp[ZL]
 first|exact Rat.not_le|grind
def ao.ins.has{v:ao}{t:Rat}(h:v.ins t):v.has t:=by
 obtain⟨h1,h2⟩:=h;exact⟨h1.imp id (fun h=>cM h),h2.imp id (fun h=>cM h)⟩
def Sg:mkRat 1 2=(1:Rat)/2:=by rw[mL];rfl
def nf{v:ao}(h:v.Pos):v.ins v.sample:=by
 obtain⟨lo,hi,nl,nh⟩:=v;unfold ao.Pos at h;unfold ao.ins ao.sample;rw[Sg]
 cases nl<;>cases nh<;>simp at* <;>grind
def Ow(v w:ao)(t:Rat):(v.meet w).has t↔v.has t/\w.has t:=by
 obtain⟨lo,hi,nl,nh⟩:=v;obtain⟨lo',hi',nl',nh'⟩:=w;unfold ao.has ao.meet
 cases nl<;>cases nh<;>cases nl'<;>cases nh'<;>simp<;>grind
def RE(v w:ao)(t:Rat):(v.meet w).ins t↔v.ins t/\w.ins t:=by
 obtain⟨lo,hi,nl,nh⟩:=v;obtain⟨lo',hi',nl',nh'⟩:=w;unfold ao.ins ao.meet
 cases nl<;>cases nh<;>cases nl'<;>cases nh'<;>simp<;>grind
def GA(t:Rat):ao.all.has t:=⟨.inl J, .inl J⟩
def xi:ao.all.Pos:= .inl J
def pc(k:Rat):Int.sign k.num=0↔k=0:=by rw[gS,lL]
def YZ(k:Rat):0<k.num↔0<k:=by
 have h1:0<=k.num↔0<=k:=rU;have h2:k.num=0↔k=0:=lL;constructor
 .intro h
  have a:=h1.1 (by omega);have b:k≠0:=fun e=>by have:=h2.2 e;omega
  grind
 .intro h
  have a:=h1.2 (by grind);have b:k.num≠0:=fun e=>by have:=h2.1 e;grind
  omega
def CJ(k:Rat):Int.sign k.num=1↔0<k:=by rw[Int.sign_eq_one_iff_pos,YZ]
def mn(k:Rat):0<Int.sign k.num↔0<k:=by
 rw[<-CJ];rcases pJ k.num 0 with h|h|h
 .rw[dS h];decide
 .rw[h];decide
 .rw[fY h];decide
def Nz(k:Rat):Int.sign k.num<0↔k<0:=by
 have h1:=pc k;have h2:=mn k;constructor
 .intro h
  by_cases hk:0<k
  .have:=h2.2 hk;omega
  .by_cases h0:k=0
   .have:=h1.2 h0;omega
   .grind
 .intro h
  have a1: ¬Int.sign k.num=0:=fun e=>by have:=h1.1 e;grind
  have a2: ¬0<Int.sign k.num:=fun e=>by have:=h2.1 e;grind
  omega
def Aq{l:aa}(v:ao)(hk:l.cutK m=0):l.cutV v m=v/\(l.cutB v m=true↔0<l.cutC m):=by
 have h:=(pc (l.cutK m)).2 hk;unfold aa.cutV aa.cutB;rw[if_pos h,if_pos h,decide_eq_true_iff,mn];exact⟨J,Iff.rfl⟩
def Ad{l:aa}(v:ao)(hk:0<l.cutK m):l.cutV v m=v.meet ⟨-(l.cutC m/l.cutK m),0,false,true⟩/\(l.cutB v m=true↔(l.cutV v m).Pos):=by
 have h0: ¬Int.sign (l.cutK m).num=0:=fun e=>by have:=(pc _).1 e;grind
 have h1:=(CJ (l.cutK m)).2 hk;constructor
 .unfold aa.cutV;rw[if_neg h0,if_pos h1]
 .unfold aa.cutB;rw[if_neg h0,<-E0];simp
def AG{l:aa}(v:ao)(hk:l.cutK m<0):l.cutV v m=v.meet ⟨0, -(l.cutC m/l.cutK m),true,false⟩/\(l.cutB v m=true↔(l.cutV v m).Pos):=by
 have h0: ¬Int.sign (l.cutK m).num=0:=fun e=>by have:=(pc _).1 e;grind
 have h1: ¬Int.sign (l.cutK m).num=1:=fun e=>by have:=(CJ _).1 e;grind
 constructor
 .unfold aa.cutV;rw[if_neg h0,if_neg h1]
 .unfold aa.cutB;rw[if_neg h0,<-E0];simp
def T7{C K t:Rat}(hk:0<K): -(C/K)<=t↔0<=C+t*K:=by
 have e:C=C/K*K:=by grind
 generalize C/K=d at*;rw[e,show d*K+t*K=(d+t)*K from by grind,gE hk];grind
def PY{C K t:Rat}(hk:0<K): -(C/K)<t↔0<C+t*K:=by
 have e:C=C/K*K:=by grind
 generalize C/K=d at*;rw[e,show d*K+t*K=(d+t)*K from by grind,fC hk];grind
def X3{C K t:Rat}(hk:K<0):t<= -(C/K)↔0<=C+t*K:=by
 have e:C=C/K*K:=by grind
 generalize C/K=d at*;rw[e,show d*K+t*K=(-(d+t))*(-K) from by grind,gE (by grind)];grind
def Sa{C K t:Rat}(hk:K<0):t< -(C/K)↔0<C+t*K:=by
 have e:C=C/K*K:=by grind
 generalize C/K=d at*;rw[e,show d*K+t*K=(-(d+t))*(-K) from by grind,fC (by grind)];grind
def jz(k:Rat):k=0\/0<k\/k<0:=by grind
def Ep{l:aa}{v:ao}(hb:l.cutB v m=true)(t:Rat):(l.cutV v m).has t↔v.has t/\0<=m.value (l.at t):=by
 rw[lh];rcases jz (l.cutK m) with hk|hk|hk
 .obtain⟨h1,h2⟩:=Aq v hk
  rw[h1,hk];have:=h2.1 hb;constructor
  .intro h;exact⟨h,by grind⟩
  .exact fun h=>h.1
 .rw[(Ad v hk).1,Ow,<-T7 hk]
  simp[ao.has]
 .rw[(AG v hk).1,Ow,<-X3 hk]
  simp[ao.has]
def K4{l:aa}{v:ao}(hb:l.cutB v m=true)(t:Rat):(l.cutV v m).ins t↔v.ins t/\0<m.value (l.at t):=by
 rw[lh];rcases jz (l.cutK m) with hk|hk|hk
 .obtain⟨h1,h2⟩:=Aq v hk
  rw[h1,hk];have:=h2.1 hb;constructor
  .intro h;exact⟨h,by grind⟩
  .exact fun h=>h.1
 .rw[(Ad v hk).1,RE,<-PY hk]
  simp[ao.ins]
 .rw[(AG v hk).1,RE,<-Sa hk]
  simp[ao.ins]
def Bh{l:aa}{v:ao}(hv:v.Pos)(hb:l.cutB v m=true):(l.cutV v m).Pos:=by
 rcases jz (l.cutK m) with hk|hk|hk
 .rw[(Aq v hk).1];exact hv
 .exact(Ad v hk).2.1 hb
 .exact(AG v hk).2.1 hb
def JQ{l:aa}{v:ao}(hv:v.Pos)(hb:l.cutB v m=false){t:Rat}(ht:v.has t):m.value (l.at t)<=0:=by
 rw[lh];have hb': ¬l.cutB v m=true:=by rw[hb];decide
 rcases jz (l.cutK m) with hk|hk|hk
 .have h2:=(Aq v hk).2
  have: ¬0<l.cutC m:=fun h=>hb' (h2.2 h);rw[hk];grind
 .obtain⟨h1,h2⟩:=Ad v hk
  have hn: ¬(l.cutV v m).Pos:=fun h=>hb' (h2.2 h);rw[h1] at hn;have h3:=PY (C:=l.cutC m) (t:=t) hk
  suffices¬(-(l.cutC m/l.cutK m)<t) by grind
  generalize-(l.cutC m/l.cutK m)=d at*;obtain⟨lo,hi,nl,nh⟩:=v;unfold ao.Pos ao.meet at hn;unfold ao.Pos at hv;unfold ao.has at ht
  cases nl<;>cases nh<;>simp at* <;>grind
 .obtain⟨h1,h2⟩:=AG v hk
  have hn: ¬(l.cutV v m).Pos:=fun h=>hb' (h2.2 h);rw[h1] at hn;have h3:=Sa (C:=l.cutC m) (t:=t) hk
  suffices¬(t< -(l.cutC m/l.cutK m)) by grind
  generalize-(l.cutC m/l.cutK m)=d at*;obtain⟨lo,hi,nl,nh⟩:=v;unfold ao.Pos ao.meet at hn;unfold ao.Pos at hv;unfold ao.has at ht
  cases nl<;>cases nh<;>simp at* <;>grind
def bm(c:ar)(p:ah):Prop:= ∀s∈c,0<s.l.value p
def gH(c:ar)(p:ah):Prop:= ∀s∈c,0<=s.l.value p
def bm.c{c:ar}{p:ah}(h:bm c p):gH c p:=fun s hs=>cM (h s hs)
def H0(l:aa): ∀(c:ar) (v w:ao),v.Pos->mA l c v=some w->
  w.Pos/\(∀t,w.has t↔v.has t/\gH c (l.at t))/\(∀t,w.ins t↔v.ins t/\bm c (l.at t))
 |[],v,w,hv,h=>by
  obtain rfl:v=w:=by simpa[mA] using h
  exact⟨hv,fun t=>⟨fun h=>⟨h,fun s hs=>absurd hs (by simp)⟩,fun h=>h.1⟩,fun t=>⟨fun h=>⟨h,fun s hs=>absurd hs (by simp)⟩,fun h=>h.1⟩⟩
 |s::c,v,w,hv,h=>by
  rw[mA] at h;split at h
  .rename_i hb
   obtain⟨h1,h2,h3⟩:=H0 l c _ w (Bh hv hb) h;refine⟨h1,fun t=>?_,fun t=>?_⟩
   .rw[h2,Ep hb]
    simp only[gH,dW];exact and_assoc
   .rw[h3,K4 hb]
    simp only[bm,dW];exact and_assoc
  .exact absurd h (by simp)
def KS(l:aa): ∀(c:ar) (v:ao),v.Pos->mA l c v=none-> ∀t,v.has t-> ¬bm c (l.at t)
 |[],v,hv,h=>by simp[mA] at h
 |s::c,v,hv,h=>by
  intro t ht hd;have hd':=dW.1 hd;rw[mA] at h;split at h
  .rename_i hb
   exact KS l c _ (Bh hv hb) h t ((Ep hb t).2 ⟨ht,cM hd'.1⟩) hd'.2
  .rename_i hb
   have:=JQ hv (by simpa using hb) ht;have:=hd'.1;grind
def bm.open: ∀{c:ar} {q:ah} (u:ah),bm c q-> ∃e:Rat,0<e/\ ∀d,0<=d->d<=e->bm c (cG q u d)
 |[],q,u,_=>⟨1,by decide,fun d _ _ s hs=>absurd hs (by simp)⟩
 |s::c,q,u,h=>by
  have h':=dW.1 h;obtain⟨e,he,hd⟩:=bm.open (c:=c) u h'.2;have hs:=h'.1;generalize hk:s.l.nor.dot u=k;have hf: ∃f:Rat,0<f/\ ∀d,0<=d->d<=f->0<s.l.value q+d*k:=by
   by_cases hk0:0<=k
   .exact⟨1,by decide,fun d h1 _=>by have:=cC h1 hk0;grind⟩
   .refine⟨s.l.value q/(2* -k),?_,fun d h1 h2=>?_⟩
    .have e1:s.l.value q/(2* -k)*(2* -k)=s.l.value q:=by grind
     exact(fC (k:=2* -k) (by grind)).1 (by rw[e1];exact hs)
    .have e1:s.l.value q/(2* -k)*(2* -k)=s.l.value q:=by grind
     generalize s.l.value q/(2* -k)=f at*;have:=cC (a:=f-d) (b:= -k) (by grind) (by grind);grind
  obtain⟨f,hf0,hf⟩:=hf;by_cases hef:e<=f
  .refine⟨e,he,fun d h1 h2=>dW.2 ⟨?_,hd d h1 h2⟩⟩
   rw[jf,hk];exact hf d h1 (by grind)
  .refine⟨f,hf0,fun d h1 h2=>dW.2 ⟨?_,hd d h1 (by grind)⟩⟩
   rw[jf,hk];exact hf d h1 h2
def JL: ∀{c:ar} {q p:ah},bm c q->(∃s∈c,s.l.value p<=0)->
  ∃e:Rat,0<=e/\e<=1/\(∃s∈c,s.l.value p<=0/\s.l.value (jt q p e)=0)/\gH c (jt q p e)
 |[],q,p,_,h=>by obtain⟨s,hs,_⟩:=h;exact absurd hs (by simp)
 |s::c,q,p,h,hex=>by
  have h':=dW.1 h;have hs:=h'.1;by_cases hc: ∃s∈c,s.l.value p<=0
  .obtain⟨e,h0,h1,⟨s1,m1,n1,z1⟩,hC⟩:=JL h'.2 hc
   by_cases hp:0<=s.l.value (jt q p e)
   .exact⟨e,h0,h1,⟨s1,aJ _ m1,n1,z1⟩,dW.2 ⟨hp,hC⟩⟩
   .rw[kw] at hp
    generalize hB:s.l.value p-s.l.value q=B at*;have hB0:B<0:=by
     by_cases hB0:0<=B
     .have:=cC h0 hB0;grind
     .grind
    have e1:s.l.value q/(-B)*(-B)=s.l.value q:=by grind
    generalize hf:s.l.value q/(-B)=f at*;have f0:0<=f:=(gE (k:= -B) (by grind)).1 (by rw[e1];grind);have f1:f<=e:=by
     have:=(gE (s:=e-f) (k:= -B) (by grind)).1 (by grind);grind
    have z:s.l.value (jt q p f)=0:=by rw[kw,hB];grind
    have np:s.l.value p<=0:=by
     have:=cC (a:=1-e) (b:= -B) (by grind) (by grind);grind
    refine⟨f,f0,by grind,⟨s,aQ,np,z⟩,dW.2 ⟨by rw[z];exact iV,fun s2 m2=>?_⟩⟩;have a1:=h'.2 s2 m2;have a2:=hC s2 m2;rw[kw] at a2⊢;exact FF (cM a1) a2 f0 f1
  .have np:s.l.value p<=0:=by
    obtain⟨s1,m1,n1⟩:=hex;rcases aK.1 m1 with rfl|m1
    .exact n1
    .exact absurd ⟨s1,m1,n1⟩ hc
   generalize hB:s.l.value p-s.l.value q=B at*;have hB0:B<0:=by grind
   have e1:s.l.value q/(-B)*(-B)=s.l.value q:=by grind
   generalize hf:s.l.value q/(-B)=f at*;have f0:0<=f:=(gE (k:= -B) (by grind)).1 (by rw[e1];grind);have f1:f<=1:=by
    have:=(gE (s:=1-f) (k:= -B) (by grind)).1 (by grind);grind
   have z:s.l.value (jt q p f)=0:=by rw[kw,hB];grind
   refine⟨f,f0,f1,⟨s,aQ,np,z⟩,dW.2 ⟨by rw[z];exact iV,fun s2 m2=>?_⟩⟩;have a1:=h'.2 s2 m2;have a2:0<s2.l.value p:=by
    by_cases h:0<s2.l.value p
    .exact h
    .exact absurd ⟨s2,m2,by grind⟩ hc
   rw[kw];have:=FF (A:=s2.l.value q) (B:=s2.l.value p-s2.l.value q) (u:=f) (v:=1) (cM a1) (by grind) f0 f1;exact this
structure bu (c:ar):Prop where
 ne: ∃p,bm c p
 ok: ∀s∈c,s.l.ok
 edge: ∀s∈c,s.v.Pos/\ ∀t,s.v.has t↔gH c (s.l.at t)
def bu.nil:bu []:=⟨⟨⟨0,0⟩,fun s hs=>absurd hs (by simp)⟩,fun s hs=>absurd hs (by simp),fun s hs=>absurd hs (by simp)⟩
def rI{c:ar}(hne: ∃q,bm c q)(h: ∀p,bm c p->0<m.value p)(hp:gH c p):0<=m.value p:=by
 obtain⟨q,hq⟩:=hne;have mq:=h q hq;by_cases hm:0<=m.value p
 .exact hm
 .exfalso
  generalize hB:m.value q-m.value p=B;have hB0:0<B:=by grind
  have e1: -m.value p/B*B= -m.value p:=by grind
  generalize-m.value p/B=e at*;have e0:0<e:=(fC hB0).1 (by rw[e1];grind);have e2:e<=1:=by
   have:=(gE (s:=1-e) hB0).1 (by grind);grind
  have hd:bm c (jt p q e):=fun s hs=>by
   rw[kw];have a:=hp s hs;have b:=hq s hs;have:=dd e0 b;have:=cC (a:=1-e) (b:=s.l.value p) (by grind) a;grind
  have:=h _ hd;rw[kw,hB,e1] at this;grind
def q8{l:aa}{s':bt}: ∀{c:ar},s'∈dC l c↔ ∃s∈c,s.l.cutB s.v l=true/\s'=⟨s.l,s.l.cutV s.v l⟩
 |[]=>by simp[dC]
 |s::c=>by
  rw[dC];split
  .rename_i hb
   rw[aK,q8 (c:=c)];constructor
   .rintro (rfl|⟨s1,h1,h2⟩)
    .exact⟨s,aQ,hb,J⟩
    .exact⟨s1,aJ _ h1,h2⟩
   .rintro ⟨s1,h1,h2,h3⟩
    rcases aK.1 h1 with rfl|h1
    .exact .inl h3
    .exact .inr ⟨s1,h1,h2,h3⟩
  .rename_i hb
   rw[q8 (c:=c)];constructor
   .rintro ⟨s1,h1,h2⟩;exact⟨s1,aJ _ h1,h2⟩
   .rintro ⟨s1,h1,h2,h3⟩
    rcases aK.1 h1 with rfl|h1
    .exact absurd h2 hb
    .exact⟨s1,h1,h2,h3⟩
def p6{c:ar}{l:aa}{v:ao}{s:bt}:s∈kO c l v↔s=⟨l,v⟩\/s∈c:=by
 unfold kO;generalize fy (iO c l) 0 c.length=n;rw[aM,aK];have h:=kQ n c;constructor
 .rintro (h1|h1|h1)
  .exact .inr (eM h1)
  .exact .inl h1
  .exact .inr (gU h1)
 .rintro (h1|h1)
  .exact .inr (.inl h1)
  .rw[<-h,aM] at h1
   rcases h1 with h1|h1
   .exact .inl h1
   .exact .inr (.inr h1)
def ZQ{c:ar}{l:aa}(hl:l.Ne)(hp:jC c l=none)(h:bm c p):l.value p≠0:=by
 intro h0;obtain⟨t,rfl⟩:=Br hl h0;exact KS l c _ xi hp t (GA t) h
def F7{c:ar}{l:aa}(hl:l.Ne){v:ao}(hp:jC c l=some v):(∃q,bm c q/\0<l.value q)/\ ∃q,bm c q/\l.value q<0:=by
 obtain⟨h1,_,h3⟩:=H0 l c _ v xi hp;have hd:=((h3 v.sample).1 (nf h1)).2;have h0:=lg hl v.sample;have hn:=mf hl;constructor
 .obtain⟨e,he,hm⟩:=hd.open l.nor
  refine⟨_,hm e (cM he) iV,?_⟩;rw[jf,h0];have:=dd he hn;grind
 .obtain⟨e,he,hm⟩:=hd.open ⟨-l.nor.x, -l.nor.y⟩
  refine⟨_,hm e (cM he) iV,?_⟩;rw[jf,h0];have:=dd he hn;simp only[ah.dot] at this⊢;grind
def auB{c:ar}{l:aa}{v:ao}(hc:bu c)(hl:l.ok)(hp:jC c l=some v):
  bu (kO (dC l c) l v)/\ ∀p,bm (kO (dC l c) l v) p↔bm c p/\0<l.value p:=by
 obtain⟨⟨q,hq,lq⟩,_⟩:=F7 hl.ne hp;obtain⟨v1,v2,v3⟩:=H0 l c _ v xi hp;have hD: ∀p,bm (kO (dC l c) l v) p↔bm c p/\0<l.value p:=by
  intro p;constructor
  .intro h
   have lp:0<l.value p:=h ⟨l,v⟩ (p6.2 (.inl J));refine⟨fun s0 hs0=>?_,lp⟩;by_cases h0:0<s0.l.value p
   .exact h0
   .exfalso
    obtain⟨e,e0,e1,⟨s,ms,ns,zs⟩,hC⟩:=JL (p:=p) hq ⟨s0,hs0,by grind⟩;obtain⟨t,ht⟩:=Br (hc.ok s ms).ne zs;rw[ht] at hC;obtain⟨p1,p2⟩:=hc.edge s ms;have hh:=(p2 t).2 hC;have lr:0<l.value (s.l.at t):=by
     rw[<-ht,kw];by_cases hB:0<=l.value p-l.value q
     .have:=cC e0 hB;grind
     .have:=cC (a:=1-e) (b:= -(l.value p-l.value q)) (by grind) (by grind)
      grind
    have hb:s.l.cutB s.v l=true:=by
     cases hb:s.l.cutB s.v l with
     |true=>rfl
     |false=>have:=JQ p1 hb hh;grind
    have:=h ⟨s.l,s.l.cutV s.v l⟩ (p6.2 (.inr (q8.2 ⟨s,ms,hb,J⟩)));simp only at this;grind
  .rintro ⟨h1,h2⟩ s hs
   rcases p6.1 hs with rfl|hs
   .exact h2
   .obtain⟨s1,m1,_,rfl⟩:=q8.1 hs
    exact h1 s1 m1
 have hne: ∃p,bm (kO (dC l c) l v) p:=⟨q,(hD q).2 ⟨hq,lq⟩⟩;have hC: ∀p,gH (kO (dC l c) l v) p↔gH c p/\0<=l.value p:=by
  intro p;constructor
  .intro h
   refine⟨fun s hs=>?_,h ⟨l,v⟩ (p6.2 (.inl J))⟩;exact rI hne (fun p hp=>((hD p).1 hp).1 s hs) h
  .rintro ⟨h1,h2⟩ s hs
   rcases p6.1 hs with rfl|hs
   .exact h2
   .obtain⟨s1,m1,_,rfl⟩:=q8.1 hs
    exact h1 s1 m1
 refine⟨⟨hne,fun s hs=>?_,fun s hs=>?_⟩,hD⟩
 .rcases p6.1 hs with rfl|hs
  .exact hl
  .obtain⟨s1,m1,_,rfl⟩:=q8.1 hs
   exact hc.ok s1 m1
 .rcases p6.1 hs with rfl|hs
  .refine⟨v1,fun t=>?_⟩
   rw[hC];simp only;rw[v2];have h0:=lg hl.ne t;constructor
   .intro h;exact⟨h.2,by rw[h0];exact iV⟩
   .intro h;exact⟨GA t,h.1⟩
  .obtain⟨s1,m1,hb,rfl⟩:=q8.1 hs
   obtain⟨p1,p2⟩:=hc.edge s1 m1;refine⟨Bh p1 hb,fun t=>?_⟩;rw[hC];simp only;rw[Ep hb,p2]
def bm.seg{c:ar}{e:Rat}(hq:bm c q)(hp:bm c p)(h0:0<=e)(h1:e<=1):bm c (jt q p e):=fun s hs=>by
 rw[kw];have a:=hq s hs;have b:=hp s hs;by_cases he:e=0
 .subst he;grind
 .have:=dd (a:=e) (by grind) b
  have:=cC (a:=1-e) (b:=s.l.value q) (by grind) (by grind);grind
def IH{v:ao}{t:Rat}(h:v.ins t):(∃u,u<t/\v.has u)/\ ∃u,t<u/\v.has u:=by
 obtain⟨lo,hi,nl,nh⟩:=v;unfold ao.ins at h;unfold ao.has;refine⟨⟨if nl=true then t-1 else lo,?_⟩,⟨if nh=true then t+1 else hi,?_⟩⟩<;>cases nl<;>cases nh<;>simp at* <;>grind
def zk{a b c x y z:Nat}(h1:x*b=a*y)(h2:x*c=a*z)(g:Nat.gcd (Nat.gcd a b) c=1):a∣x:=by
 have e:x=Nat.gcd (Nat.gcd (x*a) (x*b)) (x*c):=by
  rw[Nat.gcd_mul_left,Nat.gcd_mul_left,g,iN]
 rw[e];exact Nat.dvd_gcd (Nat.dvd_gcd (Nat.dvd_mul_left ..) (h1▸Nat.dvd_mul_right ..)) (h2▸Nat.dvd_mul_right ..)
def Xb{a b c x y z:Int}(h1:a*y=b*x)(h2:a*z=c*x)(h3:b*z=c*y)
  (g1:Nat.gcd (Nat.gcd a.natAbs b.natAbs) c.natAbs=1)(g2:Nat.gcd (Nat.gcd x.natAbs y.natAbs) z.natAbs=1):
  (a=x/\b=y/\c=z)\/(a= -x/\b= -y/\c= -z):=by
 have n1:a.natAbs*y.natAbs=b.natAbs*x.natAbs:=by rw[<-fW,<-fW,h1]
 have n2:a.natAbs*z.natAbs=c.natAbs*x.natAbs:=by rw[<-fW,<-fW,h2]
 have n3:b.natAbs*z.natAbs=c.natAbs*y.natAbs:=by rw[<-fW,<-fW,h3]
 generalize ha:a.natAbs=A at*;generalize hb:b.natAbs=B at*;generalize hc:c.natAbs=C at*;generalize hx:x.natAbs=X at*;generalize hy:y.natAbs=Y at*;generalize hz:z.natAbs=Z at*;have gB:Nat.gcd (Nat.gcd B A) C=1:=by rw[jX B A];exact g1
 have gC:Nat.gcd (Nat.gcd C A) B=1:=by rw[Nat.gcd_assoc,jX];exact g1
 have gY:Nat.gcd (Nat.gcd Y X) Z=1:=by rw[jX Y X];exact g2
 have gZ:Nat.gcd (Nat.gcd Z X) Y=1:=by rw[Nat.gcd_assoc,jX];exact g2
 have e1:A=X:=Nat.dvd_antisymm (zk (x:=X) (y:=Y) (z:=Z) (by grind) (by grind) g1) (zk (x:=A) (y:=B) (z:=C) (by grind) (by grind) g2);have e2:B=Y:=Nat.dvd_antisymm (zk (x:=Y) (y:=X) (z:=Z) (by grind) (by grind) gB) (zk (x:=B) (y:=A) (z:=C) (by grind) (by grind) gY);have e3:C=Z:=Nat.dvd_antisymm (zk (x:=Z) (y:=X) (z:=Y) (by grind) (by grind) gC) (zk (x:=C) (y:=A) (z:=B) (by grind) (by grind) gZ);have s1:a=x\/a= -x:=by omega
 have s2:b=y\/b= -y:=by omega
 have s3:c=z\/c= -z:=by omega
 clear ha hb hc hx hy hz n1 n2 n3 g1 g2 gB gC gY gZ e1 e2 e3;have z1:= @oM x y;have z2:= @oM x z;have z3:= @oM y z;rcases s1 with rfl|rfl<;>rcases s2 with rfl|rfl<;>rcases s3 with rfl|rfl<;>grind
def x6{l:aa}(hl:l.ok)(hm:m.ok)(h: ∀t,l.value (m.at t)=0):l=m\/l=m.rev:=by
 have h0:=h 0;have h1:=h 1;rw[lh] at h0 h1;have hC:m.cutC l=0:=by grind
 have hK:m.cutK l=0:=by grind
 obtain⟨q,q1,q2⟩:=Ag hm.ne;have hn:=mf hm.ne;unfold aa.cutC at hC;rw[q2,i6] at hC;unfold aa.cutK at hK;simp only[aa.nor,aa.dir,ah.dot] at hK q1 hn hC;obtain⟨a,b,c⟩:=l;obtain⟨x,y,z⟩:=m;simp only at*;have e1:a*y=b*x:=by
  have:((a*y:Int):Rat)=((b*x:Int):Rat):=by rw[bM,bM];grind
  exact qR.1 this
 have e2:a*z=c*x:=by
  have:((a*z:Int):Rat)=((c*x:Int):Rat):=by rw[bM,bM];grind
  exact qR.1 this
 have e3:b*z=c*y:=by
  have:((b*z:Int):Rat)=((c*y:Int):Rat):=by rw[bM,bM];grind
  exact qR.1 this
 rcases Xb e1 e2 e3 hl.2 hm.2 with⟨rfl,rfl,rfl⟩|⟨rfl,rfl,rfl⟩
 .exact .inl J
 .exact .inr J
def aa.ok.rev{l:aa}(h:l.ok):l.rev.ok:=by
 obtain⟨h1,h2⟩:=h;refine⟨?_,?_⟩
 .simp only[aa.rev];omega
 .simp only[aa.rev,jW];exact h2
def MK(l:aa): ∀c:ar,(∀s∈c,nF l s<=0/\s.l≠l)-> ¬0<nq l c
 |[],_=>by simp[nq]
 |s::c,h=>by
  have h':=dW.1 h;unfold nq;rw[if_neg h'.1.2];split
  .have:=h'.1.1;omega
  .exact MK l c h'.2
def Oq{c:ar}{l:aa}(hc:bu c)(hl:l.ok)(hp:jC c l=none):
  (0<nq l c/\ ∀p,bm c p->0<l.value p)\/(¬0<nq l c/\ ∀p,bm c p->l.value p<0):=by
 have hoff:=fun p (h:bm c p)=>ZQ hl.ne hp h;by_cases hq: ∃q,bm c q/\0<l.value q
 .left
  obtain⟨q,hq,lq⟩:=hq;have hall: ∀p,bm c p->0<l.value p:=by
   intro p h;have:=hoff p h;by_cases h0:0<l.value p
   .exact h0
   .exfalso
    have hn:l.value p<0:=by grind
    have e1:l.value q/(l.value q-l.value p)*(l.value q-l.value p)=l.value q:=by grind
    generalize l.value q/(l.value q-l.value p)=e at*;have f0:0<=e:=(gE (k:=l.value q-l.value p) (by grind)).1 (by grind);have f1:e<=1:=by
     have:=(gE (s:=1-e) (k:=l.value q-l.value p) (by grind)).1 (by grind);grind
    exact hoff _ (hq.seg h f0 f1) (by rw[kw];grind)
  refine⟨?_,hall⟩
  cases c with
  |nil=>simp[jC,mA] at hp
  |cons s c=>
   obtain⟨p1,p2⟩:=hc.edge s aQ;have hi:=nf p1;have hr:=rI hc.ne hall ((p2 _).1 hi.has);unfold nq;by_cases h0:nF l s=0
   .rw[if_neg (by simpa using h0)]
    have hz:l.value (s.l.at s.v.sample)=0:=(pc _).1 h0;have hge: ∀t,s.v.has t->0<=l.value (s.l.at t):=fun t ht=>rI hc.ne hall ((p2 t).1 ht);obtain⟨⟨u1,m1,n1⟩,⟨u2,m2,n2⟩⟩:=IH hi;have g1:=hge _ n1;have g2:=hge _ n2;rw[lh] at hz g1 g2;have hK:s.l.cutK l=0:=by
     rcases jz (s.l.cutK l) with h|h|h
     .exact h
     .exfalso
      have:=dd (a:=s.v.sample-u1) (b:=s.l.cutK l) (by grind) h;grind
     .exfalso
      have:=dd (a:=u2-s.v.sample) (b:= -s.l.cutK l) (by grind) (by grind);grind
    have hz2: ∀t,l.value (s.l.at t)=0:=fun t=>by rw[lh,hK];rw[hK] at hz;grind
    rcases x6 hl (hc.ok s aQ) hz2 with h|h
    .rw[if_pos h.symm];decide
    .exfalso
     have:=hall q hq;rw[h,en] at this;have:=hq s aQ;grind
   .rw[if_pos h0]
    have hz:l.value (s.l.at s.v.sample)≠0:=fun e=>h0 ((pc _).2 e);exact(mn _).2 (by grind)
 .right
  have hall: ∀p,bm c p->l.value p<0:=fun p h=>by
   have:=hoff p h;have: ¬0<l.value p:=fun h'=>hq ⟨p,h,h'⟩;grind
  refine⟨MK l c fun s hs=>?_,hall⟩;obtain⟨p1,p2⟩:=hc.edge s hs;have hr:=rI (m:=l.rev) hc.ne (fun p h=>by rw[en];have:=hall p h;grind) ((p2 _).1 (nf p1).has);rw[en] at hr;constructor
  .have: ¬0<nF l s:=fun h=>by have:=(mn _).1 h;grind
   omega
  .rintro rfl
   obtain⟨p,hp⟩:=hc.ne;have:=hall p hp;have:=hp s hs;grind
def m9{c:ar}{l:aa}(hc:bu c)(hl:l.ok):cg c l=true↔ ∃p,bm c p/\0<l.value p:=by
 unfold cg
 cases hp:jC c l with
 |some v=>exact⟨fun _=>(F7 hl.ne hp).1,fun _=>J⟩
 |none=>
  simp only[vr,hp,Option.isSome_none,kJ,if_false,decide_eq_true_iff];rcases Oq hc hl hp with⟨h1,h2⟩|⟨h1,h2⟩
  .refine⟨fun _=>?_,fun _=>h1⟩
   obtain⟨p,hp⟩:=hc.ne;exact⟨p,hp,h2 p hp⟩
  .refine⟨fun h=>absurd h h1,?_⟩
   rintro ⟨p,hp,h⟩;have:=h2 p hp;grind
def gk{c:ar}{l:aa}(hc:bu c)(hl:l.ok)(hb:cg c l=true):bu (bz c l)/\ ∀p,bm (bz c l) p↔bm c p/\0<l.value p:=by
 unfold bz
 cases hp:jC c l with
 |some v=>exact auB hc hl hp
 |none=>
  refine⟨hc,fun p=>?_⟩;unfold cg at hb;simp only[hp,vr,Option.isSome_none,kJ,if_false,decide_eq_true_iff] at hb;rcases Oq hc hl hp with⟨h1,h2⟩|⟨h1,h2⟩
  .exact⟨fun h=>⟨h,h2 p h⟩,fun h=>h.1⟩
  .exact absurd hb h1
def KB{c:ar}{l:aa}(hl:l.ok)(hp:bm c p)(h0:l.value p=0):(∃q,bm c q/\0<l.value q)/\ ∃q,bm c q/\l.value q<0:=by
 have hn:=mf hl.ne;constructor
 .obtain⟨e,he,hm⟩:=hp.open l.nor
  refine⟨_,hm e (cM he) iV,?_⟩;rw[jf,h0];have:=dd he hn;grind
 .obtain⟨e,he,hm⟩:=hp.open ⟨-l.nor.x, -l.nor.y⟩
  refine⟨_,hm e (cM he) iV,?_⟩;rw[jf,h0];have:=dd he hn;simp only[ah.dot] at this⊢;grind
inductive aIA (c:ar) (l:aa):Prop
 |left (h1:cg c l.rev=false) (h: ∀p,bm c p->0<l.value p)
 |right (h1:cg c l.rev=true) (h2:cg c l=false) (h: ∀p,bm c p->l.value p<0)
 |both (h1:cg c l.rev=true) (h2:cg c l=true) (g1:bu (bz c l)) (g2:bu (bz c l.rev))
   (e1: ∀p,bm (bz c l) p↔bm c p/\0<l.value p) (e2: ∀p,bm (bz c l.rev) p↔bm c p/\l.value p<0)
def z8{c:ar}{l:aa}(hc:bu c)(hl:l.ok):aIA c l:=by
 have hr:=m9 hc hl.rev;have hi:=m9 hc hl
 cases h1:cg c l.rev with
 |false=>
  refine .left h1 fun p hp=>?_;have hn: ¬ ∃q,bm c q/\l.value q<0:=by
   rintro ⟨q,a,b⟩;have:=hr.2 ⟨q,a,by rw[en];grind⟩;rw[h1] at this;exact absurd this (by decide)
  have n1: ¬l.value p<0:=fun h=>hn ⟨p,hp,h⟩;have n2:l.value p≠0:=fun h=>hn (KB hl hp h).2;grind
 |true=>
  cases h2:cg c l with
  |false=>
   refine .right h1 h2 fun p hp=>?_;have hn: ¬ ∃q,bm c q/\0<l.value q:=by
    intro h;have:=hi.2 h;rw[h2] at this;exact absurd this (by decide)
   have n1: ¬0<l.value p:=fun h=>hn ⟨p,hp,h⟩;have n2:l.value p≠0:=fun h=>hn (KB hl hp h).1;grind
  |true=>
   obtain⟨g1,e1⟩:=gk hc hl h2;obtain⟨g2,e2⟩:=gk hc hl.rev h1;refine .both h1 h2 g1 g2 e1 fun p=>?_;rw[e2,en];constructor<;>rintro ⟨a,b⟩<;>exact⟨a,by grind⟩
def Tr.restrict_A{l:aa}(X Y:Tr)(h:cg e l.rev=false):(Tr.node l X Y).restrict e=X.restrict e:=by
 rw[Tr.restrict,h];rfl
def Tr.restrict_B{l:aa}(X Y:Tr)(h:cg e l.rev=true)(h2:cg e l=false):(Tr.node l X Y).restrict e=Y.restrict e:=by
 rw[Tr.restrict,h,h2];rfl
def Tr.restrict_C{l:aa}(X Y:Tr)(h:cg e l.rev=true)(h2:cg e l=true):(Tr.node l X Y).restrict e=Tr.joinQ l (X.restrict (bz e l)) (Y.restrict (bz e l.rev)):=by
 rw[Tr.restrict,h,h2];rfl
def iI:List aa->ar->Option ar
 |[],c=>some c
 |l::t,c=>if cg c l then iI t (bz c l) else none
def HZ: ∀{ls:List aa} {c e:ar},bu c->(∀l∈ls,l.ok)->iI ls c=some e->bu e/\ ∀p,bm e p↔bm c p/\ ∀l∈ls,0<l.value p
 |[],c,e,hc,_,h=>by
  obtain rfl:c=e:=by simpa[iI] using h
  exact⟨hc,fun p=>⟨fun h=>⟨h,fun l hl=>absurd hl (by simp)⟩,fun h=>h.1⟩⟩
 |l::t,c,e,hc,hl,h=>by
  have hl':=dW.1 hl;rw[iI] at h;split at h
  .rename_i hb
   obtain⟨g1,g2⟩:=gk hc hl'.1 hb;obtain⟨k1,k2⟩:=HZ g1 hl'.2 h;refine⟨k1,fun p=>?_⟩;rw[k2,g2,dW,and_assoc]
  .exact absurd h (by simp)
def Jw: ∀{ls:List aa} {c:ar},bu c->(∀l∈ls,l.ok)->(∃p,bm c p/\ ∀l∈ls,0<l.value p)-> ∃e,iI ls c=some e
 |[],c,_,_,_=>⟨c,J⟩
 |l::t,c,hc,hl,⟨p,h1,h2⟩=>by
  have hl':=dW.1 hl;have h2':=dW.1 h2;have hb:=(m9 hc hl'.1).2 ⟨p,h1,h2'.1⟩;obtain⟨g1,g2⟩:=gk hc hl'.1 hb;rw[iI,if_pos hb];exact Jw g1 hl'.2 ⟨p,(g2 p).2 ⟨h1,h2'.1⟩,h2'.2⟩
def Lc{c:ar}(hc:bu c){s:bt}(hs:s∈c)(hm:m.ok)(h: ∀p,bm c p->0<m.value p)(hz:m.value (s.l.at s.v.sample)=0):m=s.l:=by
 obtain⟨p1,p2⟩:=hc.edge s hs;have hi:=nf p1;have hge: ∀t,s.v.has t->0<=m.value (s.l.at t):=fun t ht=>rI hc.ne h ((p2 t).1 ht);obtain⟨⟨u1,m1,n1⟩,⟨u2,m2,n2⟩⟩:=IH hi;have g1:=hge _ n1;have g2:=hge _ n2;rw[lh] at hz g1 g2;have hK:s.l.cutK m=0:=by
  rcases jz (s.l.cutK m) with h|h|h
  .exact h
  .exfalso
   have:=dd (a:=s.v.sample-u1) (b:=s.l.cutK m) (by grind) h;grind
  .exfalso
   have:=dd (a:=u2-s.v.sample) (b:= -s.l.cutK m) (by grind) (by grind);grind
 have hz2: ∀t,m.value (s.l.at t)=0:=fun t=>by rw[lh,hK];rw[hK] at hz;grind
 rcases x6 hm (hc.ok s hs) hz2 with h'|h'
 .exact h'
 .exfalso
  obtain⟨q,hq⟩:=hc.ne;have:=h q hq;rw[h',en] at this;have:=hq s hs;grind
def fD(l:aa):List aa->ao->Option ao
 |[],v=>some v
 |m::t,v=>if m=l then fD l t v else if l.cutB v m then fD l t (l.cutV v m) else none
def fH(c:List aa)(p:ah):Prop:= ∀m∈c,0<m.value p
def Cr(l:aa): ∀(c:List aa) (v w:ao),v.Pos->fD l c v=some w->
  w.Pos/\(∀t,w.ins t↔v.ins t/\ ∀m∈c,m≠l->0<m.value (l.at t))
 |[],v,w,hv,h=>by
  obtain rfl:v=w:=by simpa[fD] using h
  exact⟨hv,fun t=>⟨fun h=>⟨h,fun s hs=>absurd hs (by simp)⟩,fun h=>h.1⟩⟩
 |m::c,v,w,hv,h=>by
  rw[fD] at h;split at h
  .rename_i hm
   obtain⟨h1,h2⟩:=Cr l c _ w hv h;refine⟨h1,fun t=>?_⟩;rw[h2,dW];exact⟨fun h=>⟨h.1,fun h'=>absurd hm h',h.2⟩,fun h=>⟨h.1,h.2.2⟩⟩
  .rename_i hm
   split at h
   .rename_i hb
    obtain⟨h1,h2⟩:=Cr l c _ w (Bh hv hb) h;refine⟨h1,fun t=>?_⟩;rw[h2,K4 hb,dW,and_assoc];exact⟨fun h=>⟨h.1,fun _=>h.2.1,h.2.2⟩,fun h=>⟨h.1,h.2.1 hm,h.2.2⟩⟩
   .exact absurd h (by simp)
def Jo(l:aa): ∀(c:List aa) (v:ao),v.Pos->fD l c v=none-> ∀t,v.has t-> ¬ ∀m∈c,m≠l->0<m.value (l.at t)
 |[],v,hv,h=>by simp[fD] at h
 |m::c,v,hv,h=>by
  intro t ht hd;have hd':=dW.1 hd;rw[fD] at h;split at h
  .exact Jo l c _ hv h t ht hd'.2
  .rename_i hm
   split at h
   .rename_i hb
    exact Jo l c _ (Bh hv hb) h t ((Ep hb t).2 ⟨ht,cM (hd'.1 hm)⟩) hd'.2
   .rename_i hb
    have:=JQ hv (by simpa using hb) ht;have:=hd'.1 hm;grind
def lB(c:List aa):Bool:=c.isEmpty||c.any (fun l=>(fD l c ao.all).isSome)
def Pp: ∀{ls:List aa} {c e:ar},iI ls c=some e-> ∀s∈e,s.l∈ls\/ ∃s'∈c,s'.l=s.l
 |[],c,e,h,s,hs=>by
  obtain rfl:c=e:=by simpa[iI] using h
  exact .inr ⟨s,hs,J⟩
 |l::t,c,e,h,s,hs=>by
  rw[iI] at h;split at h
  .rcases Pp h s hs with h1|⟨s',h1,h2⟩
   .exact .inl (aJ _ h1)
   .unfold bz at h1
    split at h1
    .rcases p6.1 h1 with rfl|h1
     .exact .inl (by rw[<-h2];exact aQ)
     .obtain⟨s1,m1,_,rfl⟩:=q8.1 h1
      exact .inr ⟨s1,m1,h2⟩
    .exact .inr ⟨s',h1,h2⟩
  .exact absurd h (by simp)
def Cj{c:List aa}(hok: ∀l∈c,l.ok)(hne: ∃p,fH c p): ∃e,iI c []=some e/\bu e/\(∀p,bm e p↔fH c p)/\ ∀s∈e,s.l∈c/\(fD s.l c ao.all).isSome=true:=by
 obtain⟨p,hp⟩:=hne;obtain⟨e,he⟩:=Jw bu.nil hok ⟨p,fun s hs=>absurd hs (by simp),hp⟩;obtain⟨g1,g2⟩:=HZ bu.nil hok he;have g3: ∀p,bm e p↔fH c p:=fun p=>by
  rw[g2];exact⟨fun h=>h.2,fun h=>⟨fun s hs=>absurd hs (by simp),h⟩⟩
 refine⟨e,he,g1,g3,fun s hs=>?_⟩;have hm:s.l∈c:=by
  rcases Pp he s hs with h|⟨_,h,_⟩
  .exact h
  .exact absurd h (by simp)
 refine⟨hm,?_⟩
 cases hp:fD s.l c ao.all with
 |some w=>rfl
 |none=>
  exfalso;obtain⟨p1,p2⟩:=g1.edge s hs;have hC:=(p2 s.v.sample).1 (nf p1).has;refine Jo s.l c _ xi hp s.v.sample (GA _) fun m hmc hne=>?_;have hall: ∀p,bm e p->0<m.value p:=fun p hp=>(g3 p).1 hp m hmc;have h0:=rI g1.ne hall hC;have h1:m.value (s.l.at s.v.sample)≠0:=fun hz=>hne (Lc g1 hs (hok m hmc) hall hz);grind
def ME{c:List aa}(hok: ∀l∈c,l.ok):lB c=true↔ ∃p,fH c p:=by
 unfold lB;rw[gM,List.isEmpty_iff,jY];constructor
 .rintro (rfl|⟨l,hl,h⟩)
  .exact⟨⟨0,0⟩,fun m hm=>absurd hm (by simp)⟩
  .obtain⟨w,hw⟩:=qJ.1 h
   obtain⟨w1,w2⟩:=Cr l c _ w xi hw;have hi:=((w2 w.sample).1 (nf w1)).2;have h0:=lg (hok l hl).ne w.sample;have hd:bm ((c.filter (fun m=>decide (m≠l))).map (fun m=>(⟨m,ao.all⟩:bt))) (l.at w.sample):=by
    intro s hs;obtain⟨m,hm,rfl⟩:=aR.1 hs;rw[oN,decide_eq_true_iff] at hm;exact hi m hm.1 hm.2
   obtain⟨e,he,ho⟩:=hd.open l.nor;refine⟨cG (l.at w.sample) l.nor e,fun m hm=>?_⟩;by_cases hml:m=l
   .subst hml
    rw[jf,h0];have:=dd he (mf (hok m hl).ne);grind
   .exact ho e (cM he) iV ⟨m,ao.all⟩ (aR.2 ⟨m,oN.2 ⟨hm,by simpa using hml⟩,J⟩)
 .intro hne
  obtain⟨e,h1,h2,h3,h4⟩:=Cj hok hne
  cases c with
  |nil=>exact .inl J
  |cons l c=>
   right
   cases e with
   |nil=>
    exfalso;have:=(h3 (l.at 0)).1 (fun s hs=>absurd hs (by simp)) l aQ;rw[lg (hok l aQ).ne] at this;exact absurd this (by decide)
   |cons s e=>
    obtain⟨a,b⟩:=h4 s aQ;exact⟨s.l,a,b⟩
def mF(out:List aa)(l:aa):Nat:=(out.takeWhile (fun x=>decide (fG x.dir l.dir<0))).length
def oF(out:List aa)(l:aa):List aa:=if out[mF out l]? =some l then out else out.take (mF out l)++l::out.drop (mF out l)
def me(c:List aa):List aa->List aa->List aa
 |[],out=>out
 |l::t,out=>me c t (if(fD l c ao.all).isSome then oF out l else out)
def ij(c:List aa):List aa:=me c c []
def Gi{out:List aa}{l:aa}:m∈oF out l↔m=l\/m∈out:=by
 unfold oF;split
 .rename_i h
  exact⟨fun h=> .inr h,fun h'=>h'.elim (fun e=>e▸aV h) id⟩
 .generalize mF out l=n
  have h:=kQ n out;rw[aM,aK];constructor
  .rintro (h1|h1|h1)
   .exact .inr (eM h1)
   .exact .inl h1
   .exact .inr (gU h1)
  .rintro (h1|h1)
   .exact .inr (.inl h1)
   .rw[<-h,aM] at h1
    rcases h1 with h1|h1
    .exact .inl h1
    .exact .inr (.inr h1)
def K0{c:List aa}{m:aa}: ∀{t out:List aa},m∈me c t out↔m∈out\/m∈t/\(fD m c ao.all).isSome=true
 |[],out=>by simp[me]
 |l::t,out=>by
  rw[me,K0];split
  .rename_i h
   rw[Gi,aK];constructor
   .rintro ((rfl|h1)|⟨h1,h2⟩)
    .exact .inr ⟨.inl J,h⟩
    .exact .inl h1
    .exact .inr ⟨.inr h1,h2⟩
   .rintro (h1|⟨rfl|h1,h2⟩)
    .exact .inl (.inr h1)
    .exact .inl (.inl J)
    .exact .inr ⟨h1,h2⟩
  .rename_i h
   rw[aK];constructor
   .rintro (h1|⟨h1,h2⟩)
    .exact .inl h1
    .exact .inr ⟨.inr h1,h2⟩
   .rintro (h1|⟨rfl|h1,h2⟩)
    .exact .inl h1
    .exact absurd h2 h
    .exact .inr ⟨h1,h2⟩
def td{c:List aa}:m∈ij c↔m∈c/\(fD m c ao.all).isSome=true:=by
 unfold ij;rw[K0];simp
def M7{c:List aa}(hok: ∀l∈c,l.ok)(hne: ∃p,fH c p)(p:ah):fH (ij c) p↔fH c p:=by
 constructor
 .intro h
  obtain⟨e,h1,h2,h3,h4⟩:=Cj hok hne;exact(h3 p).1 fun s hs=>h s.l (td.2 (h4 s hs))
 .intro h m hm;exact h m (td.1 hm).1
def r5(c:List aa)(l:aa):Int:=if lB (c++[l])&&lB (c++[l.rev]) then 0 else if lB (c++[l]) then 1 else-1
def Tr.restrictL:Tr->List aa->Tr
 | .leaf b,_=> .leaf b
 | .node l x y,c=>if r5 c l=1 then x.restrictL c else if r5 c l= -1 then y.restrictL c else joinQ l (x.restrictL (ij (c++[l]))) (y.restrictL (ij (c++[l.rev])))
def t8{c:List aa}{l:aa}:fH (c++[l]) p↔fH c p/\0<l.value p:=by
 unfold fH;rw[rT];simp
def m7{c:List aa}{l:aa}(hok: ∀m∈c,m.ok)(hl:l.ok): ∀m∈c++[l],m.ok:=by
 rw[rT];exact⟨hok,by simpa using hl⟩
def Tr.restrictL_eq: ∀(t:Tr) (c:List aa) (d:ar),t.all aa.ok->(∀l∈c,l.ok)->bu d->(∀p,bm d p↔fH c p)->t.restrictL c=t.restrict d
 | .leaf b,c,d,_,_,_,_=>rfl
 | .node l x y,c,d,h,hc,hd,he=>by
  obtain⟨hl,hx,hy⟩:=h;have i1:=ME (m7 hc hl);have i2:=ME (m7 hc hl.rev);obtain⟨p0,hp0⟩:=hd.ne;rcases z8 hd hl with⟨a1,a⟩|⟨a1,a2,a⟩|⟨a1,a2,ag1,ag2,ae1,ae2⟩
  .have b1:lB (c++[l])=true:=i1.2 ⟨p0,t8.2 ⟨(he p0).1 hp0,a p0 hp0⟩⟩
   have b2:lB (c++[l.rev])=false:=by
    rw[<-jU,i2];rintro ⟨p,hp⟩;have hp:=t8.1 hp;have:=a p ((he p).2 hp.1);rw[en] at hp;grind
   rw[Tr.restrict_A _ _ a1,Tr.restrictL,r5,b1,b2];exact x.restrictL_eq c d hx hc hd he
  .have b2:lB (c++[l.rev])=true:=i2.2 ⟨p0,t8.2 ⟨(he p0).1 hp0,by rw[en];have:=a p0 hp0;grind⟩⟩
   have b1:lB (c++[l])=false:=by
    rw[<-jU,i1];rintro ⟨p,hp⟩;have hp:=t8.1 hp;have:=a p ((he p).2 hp.1);grind
   rw[Tr.restrict_B _ _ a1 a2,Tr.restrictL,r5,b1,b2];exact y.restrictL_eq c d hy hc hd he
  .have n1: ∃p,fH (c++[l]) p:=by
    obtain⟨p,hp⟩:=ag1.ne;exact⟨p,t8.2 ⟨(he p).1 ((ae1 p).1 hp).1,((ae1 p).1 hp).2⟩⟩
   have n2: ∃p,fH (c++[l.rev]) p:=by
    obtain⟨p,hp⟩:=ag2.ne;exact⟨p,t8.2 ⟨(he p).1 ((ae2 p).1 hp).1,by rw[en];have:=((ae2 p).1 hp).2;grind⟩⟩
   rw[Tr.restrict_C _ _ a1 a2,Tr.restrictL,r5,i1.2 n1,i2.2 n2];have k1:=x.restrictL_eq (ij (c++[l])) (bz d l) hx (fun m hm=>m7 hc hl m (td.1 hm).1) ag1 fun p=>by
    rw[M7 (m7 hc hl) n1,ae1,t8,he]
   have k2:=y.restrictL_eq (ij (c++[l.rev])) (bz d l.rev) hy (fun m hm=>m7 hc hl.rev m (td.1 hm).1) ag2 fun p=>by
    rw[M7 (m7 hc hl.rev) n2,ae2,t8,he,en];constructor<;>rintro ⟨a,b⟩<;>exact⟨a,by grind⟩
   rw[k1,k2];rfl
def crossI(l m:aa):Int:=l.a*m.b-m.a*l.b
def meetX(l m:aa):Int:=l.b*m.c-m.b*l.c
def meetY(l m:aa):Int:=m.a*l.c-l.a*m.c
def c7(l m:aa):ah:=if crossI l m=0 then⟨0,0⟩ else⟨(meetX l m:Rat)/(crossI l m:Rat),(meetY l m:Rat)/(crossI l m:Rat)⟩
def jb(l:aa)(p:ah):Rat:=p.dot l.dir/l.dir.dot l.dir
def E8(l:aa):l.dir.dot l.dir=l.nor.dot l.nor:=by
 simp only[aa.dir,aa.nor,ah.dot];grind
def A9{l:aa}(h:l.Ne):0<l.dir.dot l.dir:=by rw[E8];exact mf h
def tk(l m:aa):((crossI l m:Int):Rat)=(l.a:Rat)*m.b-(m.a:Rat)*l.b:=by
 unfold crossI;rw[iJ,bM,bM]
def I4(l m:aa):((meetX l m:Int):Rat)=(l.b:Rat)*m.c-(m.b:Rat)*l.c:=by
 unfold meetX;rw[iJ,bM,bM]
def K8(l m:aa):((meetY l m:Int):Rat)=(m.a:Rat)*l.c-(l.a:Rat)*m.c:=by
 unfold meetY;rw[iJ,bM,bM]
def CM(l m:aa):l.cutK m= -((crossI l m:Int):Rat):=by
 rw[tk];simp only[aa.cutK,aa.nor,aa.dir,ah.dot];grind
def Ni(l m:aa):m.dir.cross l.dir=l.cutK m:=by
 simp only[aa.cutK,aa.nor,aa.dir,ah.dot,ah.cross];grind
def QN{l:aa}:(⟨-((l.c:Rat)/l.dir.dot l.dir)*(l.a:Rat), -((l.c:Rat)/l.dir.dot l.dir)*(l.b:Rat)⟩:ah)=l.base:=by
 unfold aa.base;rw[E8];simp only[aa.nor,ah.scale,ah.mk.injEq];constructor<;>grind
def yz(l:aa)(t:Rat):cG l.base l.dir t=l.at t:=by
 simp only[cG,aa.at,ah.add,ah.scale,ah.mk.injEq];constructor<;>grind
def Ek{l:aa}(hl:l.Ne)(h:crossI l m≠0):jb l (c7 l m)= -(l.cutC m/l.cutK m):=by
 have hd:((crossI l m:Int):Rat)≠0:=fun e=>h (cW.1 e);have hn:=A9 hl;obtain⟨q,q1,q2⟩:=Ag hl;rw[CM];unfold jb c7 aa.cutC;rw[if_neg h,q2,i6,I4,K8];have hc:=tk l m;rw[E8] at hn⊢;simp only[aa.dir,aa.nor,ah.dot] at hn q1⊢;generalize ((crossI l m:Int):Rat)=d at*;generalize (l.a:Rat)=a at*;generalize (l.b:Rat)=b at*;generalize (l.c:Rat)=c at*;generalize (m.a:Rat)=x at*;generalize (m.b:Rat)=y at*;generalize (m.c:Rat)=z at*;have hn':a*a+b*b≠0:=by grind
 have e:((b*z-y*c)/d*b+(x*c-a*z)/d* -a)=((b*z-y*c)*b-(x*c-a*z)*a)/d:=by grind
 rw[e];have k1:(b*z-y*c)*b-(x*c-a*z)*a=(a*a+b*b)*(x*(a*q)+y*(b*q)+z):=by grind
 rw[k1];grind
def Zw{l:aa}(hl:l.Ne)(h:crossI l m≠0):jb l (c7 l m)*((crossI l m*(l.a*l.a+l.b*l.b):Int):Rat)=((meetX l m*l.b-meetY l m*l.a:Int):Rat):=by
 have hd:((crossI l m:Int):Rat)≠0:=fun e=>h (cW.1 e);have hn:=A9 hl;unfold jb c7;rw[if_neg h];simp only[bM,iJ,lZ];simp only[aa.dir,ah.dot] at hn⊢;generalize ((crossI l m:Int):Rat)=d at*;generalize ((meetX l m:Int):Rat)=x at*;generalize ((meetY l m:Int):Rat)=y at*;generalize (l.a:Rat)=a at*;generalize (l.b:Rat)=b at*;have hn':b*b+ -a* -a≠0:=by grind
 grind
def GY(l m:aa)(t:List aa)(v:ao):fD l (m::t) v=if m=l then fD l t v else if l.cutB v m then fD l t (l.cutV v m) else none:=rfl
def oO(v:ao)(t:Rat):ao:=if v.nl=true\/0<bA t v.lo then⟨t,v.hi,false,v.nh⟩ else v
def o9(v:ao)(t:Rat):ao:=if v.nh=true\/bA t v.hi<0 then⟨v.lo,t,v.nl,false⟩ else v
structure gA (v:ao):Prop where
 lo:v.nl=true->v.lo=0
 hi:v.nh=true->v.hi=0
def T5(a b:Rat):0<bA a b↔b<a:=by
 unfold bA;split
 .constructor
  .intro h;exact absurd h (by decide)
  .intro h;grind
 .split
  .exact⟨fun _=>by assumption,fun _=>by decide⟩
  .constructor
   .intro h;exact absurd h (by decide)
   .intro h;exact absurd h (by assumption)
def P7(a b:Rat):bA a b<0↔a<b:=by
 unfold bA;split
 .exact⟨fun _=>by assumption,fun _=>by decide⟩
 .split
  .constructor
   .intro h;exact absurd h (by decide)
   .intro h;grind
  .constructor
   .intro h;exact absurd h (by decide)
   .intro h;exact absurd h (by assumption)
def NP{v:ao}(h:gA v)(t:Rat):oO v t=v.meet ⟨t,0,false,true⟩:=by
 obtain⟨lo,hi,nl,nh⟩:=v;obtain⟨h1,h2⟩:=h;unfold oO ao.meet;simp only[T5] at*
 cases nl<;>cases nh<;>simp at* <;>(try (split<;>split<;>simp_all<;>grind))<;>grind
def Mj{v:ao}(h:gA v)(t:Rat):o9 v t=v.meet ⟨0,t,true,false⟩:=by
 obtain⟨lo,hi,nl,nh⟩:=v;obtain⟨h1,h2⟩:=h;unfold o9 ao.meet;simp only[P7] at*
 cases nl<;>cases nh<;>simp at* <;>(try (split<;>split<;>simp_all<;>grind))<;>grind
def gA.all:gA ao.all:=⟨fun _=>J,fun _=>J⟩
def gA.lo'{v:ao}(h:gA v)(t:Rat):gA (oO v t):=by
 obtain⟨lo,hi,nl,nh⟩:=v;unfold oO;split
 .exact⟨fun h=>by simp at h,h.hi⟩
 .exact h
def gA.hi'{v:ao}(h:gA v)(t:Rat):gA (o9 v t):=by
 obtain⟨lo,hi,nl,nh⟩:=v;unfold o9;split
 .exact⟨h.lo,fun h=>by simp at h⟩
 .exact h
def AQ{l:aa}{v:ao}(h:crossI l m=0):l.cutV v m=v/\(l.cutB v m=true↔0<m.value l.base):=by
 have hk:l.cutK m=0:=by rw[CM,h];rfl
 exact Aq v hk
def TY{l:aa}{v:ao}(hl:l.Ne)(hz:gA v)(h:0<m.dir.cross l.dir):crossI l m≠0/\l.cutV v m=oO v (jb l (c7 l m))/\l.cutB v m=!(oO v (jb l (c7 l m))).empty:=by
 rw[Ni] at h;have hc:crossI l m≠0:=fun e=>by rw[CM,e] at h;exact absurd h (by decide)
 obtain⟨h1,h2⟩:=Ad v h;refine⟨hc,?_,?_⟩
 .rw[NP hz,Ek hl hc,h1]
 .rw[NP hz,Ek hl hc,<-h1]
  rw[<-E0] at h2
  cases hb:l.cutB v m<;>cases he:(l.cutV v m).empty<;>simp_all
def WQ{l:aa}{v:ao}(hl:l.Ne)(hz:gA v)(h0:crossI l m≠0)(h: ¬0<m.dir.cross l.dir):l.cutV v m=o9 v (jb l (c7 l m))/\l.cutB v m=!(o9 v (jb l (c7 l m))).empty:=by
 rw[Ni] at h;have hk:l.cutK m≠0:=fun e=>by
  rw[CM] at e;have:((crossI l m:Int):Rat)=0:=by grind
  exact h0 (cW.1 this)
 obtain⟨h1,h2⟩:=AG (l:=l) (m:=m) v (by grind);refine⟨?_,?_⟩
 .rw[Mj hz,Ek hl h0,h1]
 .rw[Mj hz,Ek hl h0,<-h1]
  rw[<-E0] at h2
  cases hb:l.cutB v m<;>cases he:(l.cutV v m).empty<;>simp_all
def relo(fl:Nat->Bool)(o:av):av:={o with lo:=fl o.b}
structure gG (P:Program) (f:FuncId) (vs:List Value) (M:List av) (G:Gh) (K:Value->List av->Gh->Prop):Prop where
 able:rE P f
 run: ∀w,bE ⟨w,G,M.map (·.b),[],[],none,fun _=>none⟩ (asB M) G w->
  Calls P f ⟨vs⟩ w fun e w'=> ∃v own' G',e= .returned v/\bE ⟨w,G,M.map (·.b),[],[],none,fun _=>none⟩ own' G' w'/\K v own' G'
def gr(M:List av)(b:Nat):Bool:=M.all fun m=>!Nat.beq m.b b||m.lo
def bE.calledO{rest:List av}(h:bE C (M++rest) G w)(k:bE ⟨w,G,M.map (·.b),[],[],none,fun _=>none⟩ own' G' w'):
  bE C (own'.map (relo (gr M))++rest) G' w':=by
 have hsz:w.heap.size<=w'.heap.size:=k.size;have hnd:=h.nd;have inM: ∀b,b∈M.map (·.b)-> ∀o∈rest,o.b≠b:=fun b hb o ho e=>by
  obtain⟨m,hm,rfl⟩:=aR.1 hb;exact(gW.1 hnd).2.2 m hm o ho e.symm
 have bnd: ∀o∈own',o.b∉M.map (·.b)->w.heap.size<=o.b:=fun o ho hb=>by
  obtain⟨_,_,h3,h4⟩:=k.hown o ho
  cases hlo:o.lo with
  |true=>exact h3 hlo
  |false=>exact absurd (h4 hlo) hb
 refine⟨k.os.trans h.os,k.tape.trans h.tape,k.output.trans h.output,cS h.size hsz,?_,k.sub,h.gle.trans k.gle,?_,?_,?_,cS h.dr k.dr,fun p hp=>⟨(h.ext p hp).1,by rw[k.keep _ (il (h.ext p hp).2) (h.extM hp)];exact(h.ext p hp).2⟩⟩
 .intro b hb hm
  have hs:=h.size;have hnM:b∉M.map (·.b):=fun hb'=>by
   obtain⟨m,hmM,rfl⟩:=aR.1 hb';obtain⟨_,_,h3,h4⟩:=h.hown m (bV _ hmM)
   cases hlo:m.lo with
   |true=>have:=h3 hlo;omega
   |false=>exact hm (h4 hlo)
  rw[k.keep b (by show b<w.heap.size;omega) hnM];exact h.keep b hb hm
 .intro b hb;have:=h.size;rw[k.gold b (by show b<w.heap.size;omega)];exact h.gold b hb
 .intro o ho
  have hs:=h.size;rcases aM.1 ho with ho|ho
  .obtain⟨o',ho',rfl⟩:=aR.1 ho
   obtain⟨k1,k2,k3,k4⟩:=k.hown _ ho';refine⟨k1,k2,fun hl=>?_,fun hl=>?_⟩
   .show C.w0.heap.size<=o'.b
    by_cases hb:o'.b∈M.map (·.b)
    .obtain⟨m,hm,hmb⟩:=aR.1 hb
     have hl':gr M o'.b=true:=hl;have:=dJ.1 hl' m hm;simp only[hmb,gM,iZ,nS] at this;obtain⟨_,_,h3,_⟩:=h.hown m (bV _ hm);rw[<-hmb];exact h3 (by rcases this with h|h;(cases h);(exact h))
    .have:=bnd o' ho' hb;omega
   .show o'.b∈C.mb
    have hl':gr M o'.b=false:=hl;obtain⟨m,hm,hmb⟩:=List.all_eq_false.1 hl';simp only[gM,iZ,not_or] at hmb;obtain⟨h1,h2⟩:=hmb;have e:m.b=o'.b:=by
     cases hq:Nat.beq m.b o'.b with
     |true=>exact aL hq
     |false=>exact absurd hq h1
    obtain⟨_,_,_,h4⟩:=h.hown m (bV _ hm);rw[<-e];exact h4 (by cases hq:m.lo with
     |true=>exact absurd hq h2
     |false=>rfl)
  .obtain⟨h1,h2,h3⟩:=h.hown o (bZ _ ho)
   have hnM:o.b∉M.map (·.b):=fun hb=>inM _ hb o ho J;exact⟨by rw[k.keep _ (il h1) hnM];exact h1,by rw[k.gold _ (il h1)];exact h2,h3⟩
 .refine gW.2 ⟨?_,(gW.1 hnd).2.1,?_⟩
  .rw[List.pairwise_map];exact k.nd
  .intro x hx y hy
   obtain⟨o',ho',rfl⟩:=aR.1 hx;show o'.b≠y.b;by_cases hb:o'.b∈M.map (·.b)
   .exact fun e=>inM _ hb y hy e.symm
   .have h1:=bnd o' ho' hb
    have h2:=il (h.hown y (bZ _ hy)).1;omega
def qa(C:aE)(K:Value->List av->Gh->Prop):Ending->World->Prop:=fun e w'=> ∃v own' G',e= .returned v/\bE C own' G' w'/\K v own' G'
def gG.introR{fn:Func}{c:Code}{m:Nat}(hf:P.funcs[f]? =some fn)(hb:fn.body=some c)(hn:(fn.name== "runtime.NumGoroutine")=false)(hm:fn.ntmps=m)(hlen:Nat.ble vs.length m=true)
  (h: ∀C:aE,C.G0=G->C.mb=M.map (·.b)->C.rd=none->(C.fx=fun _=>none)->St C m (mo 0 vs) (asB M) G (c.wp P (eH C P fn (qa C K)))):gG P f vs M G K:=by
 refine⟨⟨fn,hf,hn,by simp[hb]⟩,fun w hw=>?_⟩;have hlen':vs.length<=m:=by simpa using hlen
 have:=calls_of_wp (P:=P) (f:=f) (args:=⟨vs⟩) (w:=w) (R:=qa ⟨w,G,M.map (·.b),[],[],none,fun _=>none⟩ K) hf hb (wp_mono (h ⟨w,G,M.map (·.b),[],[],none,fun _=>none⟩ J J J J _ w
  ⟨hw,by simp;omega,fun k v hk=>by
   obtain⟨j,rfl,hj⟩:=ve vs 0 k v hk;have hj':=(aT.1 hj).1;rw[lV (by simpa using hj')];simpa using hj,J⟩) fun _ _ _ k=>k J)
 exact this
def gG.intro{fn:Func}{c:Code}{m:Nat}(hf:P.funcs[f]? =some fn)(hb:fn.body=some c)(hn:(fn.name== "runtime.NumGoroutine")=false)(hm:fn.ntmps=m)(hlen:Nat.ble vs.length m=true)
  (h: ∀C:aE,C.G0=G->C.mb=M.map (·.b)->St C m (mo 0 vs) (asB M) G (c.wp P (eH C P fn (qa C K)))):gG P f vs M G K:=
 gG.introR hf hb hn hm hlen fun C a b _ _=>h C a b
section
variable {own:List av}
variable {t:TypeId}{gd:Option (Nat×Bool)}
def vE{fn:Func}(hr:j0 P fr own fn.results.toList vs)(own2 own3:List av)(hp:own.Perm own2)(hs:own3.Sublist own2)(hk:K (nv vs) own3 G):St C n fr own G (eH C P fn (qa C K) .ret):=
 fun a w rl hmk=>⟨rl.df.trans hmk,_,sv hr rl.fr rl.h,_,own3,G,J,(rl.h.perm hp).drop hs,hk⟩
def Of{c2:List Value}{rest:List av}(ho:aB fr fo=some (.func (.func f) ⟨c1⟩ ⟨c2⟩))(hv:fg fr args.toList=some vs)
  (hp:own.Perm (M++rest))(hF:gG P f (c1++vs++c2) M G K)(hd:b8 n dst=true)(h: ∀v own1 (G':Gh),[GE G G']->K v own1 G'->St C n (put fr dst v) (own1.map (relo (gr M))++rest) G' Φ):
  Ch P C n fr own G ⟨dst, .call ⟨.value fo,args,tys⟩,ty',pos,af,gd⟩ Φ:=by
 intro a w Q rl;have h2:=DG (P:=P) (dst:=dst) (ty':=ty') (pos:=pos) (af:=af) (gd:=gd) (tys:=tys) (w:=w) hF.able rl.fr ho hv;simp only[Oper.wp,h2,Oper.upon];have hh0:=rl.h.perm hp;refine(hF.run w hh0.lend).mono ?_;rintro e w' ⟨v,own1,G',rfl,hh,hK⟩;exact @h v own1 G' ⟨hh.gle⟩ hK _ _ ((rl.heap (hh0.calledO hh)).put _ hd)
def vj{rest:List av}(ho:aB fr fo=some (.func (.func f) #[] #[]))(hv:fg fr args.toList=some vs)
  (hp:own.Perm (M++rest))(hF:gG P f vs M G K)(hd:b8 n dst=true)(h: ∀v own1 (G':Gh),[GE G G']->K v own1 G'->St C n (put fr dst v) (own1.map (relo (gr M))++rest) G' Φ):
  Ch P C n fr own G ⟨dst, .call ⟨.value fo,args,tys⟩,ty',pos,af,gd⟩ Φ:=
 Of (c1:=[]) (c2:=[]) ho hv hp (by simpa using hF) hd h
def SS{b:Nat}{cs:List Value}{lo:Bool}(hC:C.mb=[])(h:St C n fr (⟨b,cs,ty,true⟩::own) G Φ):St C n fr (⟨b,cs,ty,lo⟩::own) G Φ:=by
 intro a w rl
 cases lo with
 |true=>exact h a w rl
 |false=>
  have:=(rl.h.hown _ aQ).2.2.2 J;rw[hC] at this;cases this
end
section
variable {own:List av}
variable {t:TypeId}{gd:Option (Nat×Bool)}{e:Nat}
def DY{v:Value}{b k:Nat}{cs:List Value}{lo:Bool}(hx:aB fr x=some (.pointer (some ⟨b,off,none⟩)))(hy:aB fr y=some v)[hs:kl P t k][ho:iw own b cs ty lo]
  (hc:cp cs off (aF v)=cs')(hu:gP own b cs ty lo cs' own')(hk:(aF v).length=k)(hl:off+k<=cs.length)(hf:(aF v).all flat=true)(hd:b8 n dst=true)(h:St C n (put fr dst undef) own' G Φ):
  Ch P C n fr own G ⟨dst, .store t x y,ty',pos,af,gd⟩ Φ:=Ev hx hy (hc▸hu) hk hl hf hd h
def ym{v:Value}{b:Nat}{cs:List Value}{lo:Bool}(hx:aB fr x=some (.pointer (some ⟨b,off,none⟩)))(hy:aB fr y=some v)[hs:jB P t][ho:iw own b cs ty lo]
  (hc:cs.set off v=cs')(hu:gP own b cs ty lo cs' own')(hl:off<cs.length)(hf:flat v=true)(hd:b8 n dst=true)(h:St C n (put fr dst undef) own' G Φ):
  Ch P C n fr own G ⟨dst, .store t x y,ty',pos,af,gd⟩ Φ:=uH hx hy (hc▸hu) hl hf hd h
def aEL[hT:cj P t e s by_](hx:aB fr x=some (.slice ad len cap)):
  Yd P C fr own G ⟨dst, .call ⟨.builtin .cap, #[x], #[t]⟩,ty',pos,af,gd⟩ (.int .i64 cap):=by
 intro a w hf hh;simp only[execOp,resolve,iY,bY,gN,bw hf hx];have h1:(Builtin.cap_ #[t] ty' #[.slice ad len cap]).run P w= .ok (.int .i64 cap) w:=by
  simp only[Builtin.cap_];show(underlying t>>=_).run P w=_;rw[aO (hT.u w)];rfl
 exact cD h1
def aw2[hT:cj P t e s by_]{b l c m:Nat}{cs:List Value}(hm:Nat.min l2 l=m)
  (hb:w.heap[b]? =some (.cells ⟨cs⟩ ty (0,0)))(hsy:(Builtin.firstCells s m (.slice ad2 l2 c2)).run P w= .ok ⟨ys⟩ w)(hf: ∀v∈ys,flat v=true)(hl:off+ys.length<=cs.length):
  (Builtin.copy_ #[t,t'] ty' #[.slice (some ⟨b,off,none⟩) l c, .slice ad2 l2 c2]).run P w=
   .ok (.int .i64 m) (gq w b (.cells ⟨cp cs off ys⟩ ty (0,0))):=by
 obtain⟨i,hi,his,hib⟩:=hT.info;subst his;have hst:=Bn (P:=P) ys w off 0 cs hf hb (by omega);rw[gX] at hst;subst hm;simp[Builtin.copy_,run_underlying hT.un,sizeOf,typeInfo,hi,Builtin.lenOf,hsy,hst];rfl
def KG[hT:cj P t e s by_]{b l c m:Nat}{cs:List Value}{lo:Bool}(hx:aB fr x=some (.slice (some ⟨b,off,none⟩) l c))(hy:aB fr y=some (.slice ad2 l2 c2))
  (hm:Nat.min l2 l=m)(hsy:lH P C own G s m (.slice ad2 l2 c2) ys)(hf: ∀v∈ys,flat v=true)(hl:off+ys.length<=cs.length)(hu:gP own b cs ty lo (cp cs off ys) own')(hd:b8 n dst=true)
  (h:St C n (put fr dst (.int .i64 m)) own' G Φ):Ch P C n fr own G ⟨dst, .call ⟨.builtin .copy, #[x,y], #[t,t']⟩,ty',pos,af,gd⟩ Φ:=by
 intro a w Q rl;have hb:=(rl.h.hown _ (hu.spec rl.h.nd).1).1;refine kv (v:= .int .i64 m) (w':=gq w b (.cells ⟨cp cs off ys⟩ ty (0,0))) ?_ (h _ _ ((rl.heap (rl.h.store hu)).put _ hd));simp only[execOp,resolve,iY,bY,gN,bw rl.fr hx,bw rl.fr hy];exact cD (aw2 hm hb (hsy w rl.h) hf hl)
def KP[hT:cj P t e s by_][hN:ji P t']{b m:Nat}{cs:List Value}{lo:Bool}
  (hx:aB fr x=some (.slice (some ⟨b,0,none⟩) len cap))(hy:aB fr y=some (.slice ad2 m cap2))(hu:gP own b cs e lo (cp cs (len*s) ys) own')(hcs:cs.length=cap*s)
  (hsy:lH P C own G s m (.slice ad2 m cap2) ys)(hys:ys.length=m*s)(hf: ∀v∈ys,flat v=true)(hneed:len+m<=cap)(hd:b8 n dst=true)
  (h:St C n (put fr dst (.slice (some ⟨b,0,none⟩) (len+m) cap)) own' G Φ):
  Ch P C n fr own G ⟨dst, .call ⟨.builtin .append, #[x,y], #[t,t']⟩,ty',pos,af,gd⟩ Φ:=by
 intro a w Q rl;have hb:=(rl.h.hown _ (hu.spec rl.h.nd).1).1;refine kv (v:= .slice (some ⟨b,0,none⟩) (len+m) cap) (w':=gq w b (.cells ⟨cp cs (len*s) ys⟩ e (0,0))) ?_ (h _ _ ((rl.heap (rl.h.store hu)).put _ hd));simp only[execOp,resolve,iY,bY,gN,bw rl.fr hx,bw rl.fr hy];exact cD (Jj hb hcs (hsy w rl.h) hys hf hneed)
def Hh[hT:cj P t e s by_][hN:ji P t']{z:Value}[hz:gc P e z]{b m:Nat}{lo:Bool}
  (hx:aB fr x=some (.slice (some ⟨b,0,none⟩) len cap))(hy:aB fr y=some (.slice ad2 m cap2))(hr:jo own ⟨b,xs++rest,e,lo⟩ own1)(hxs:xs.length=len*s)(hcap:xs.length+rest.length=cap*s)(hlc:len<=cap)
  (hsy:lH P C own G s m (.slice ad2 m cap2) ys)(hys:ys.length=m*s)(hf: ∀v∈ys,flat v=true)
  (hby:0<by_)(hb:(len+m)*by_<=140737488355328)(hzs:(aF z).length=s)(hd:b8 n dst=true)
  (h: ∀b lo' cap' rest',len+m<=cap'->rest'.length+(len+m)*s=cap'*s->St C n (put fr dst (.slice (some ⟨b,0,none⟩) (len+m) cap')) (⟨b,xs++ys++rest',e,lo'⟩::own1) G Φ):
  Ch P C n fr own G ⟨dst, .call ⟨.builtin .append, #[x,y], #[t,t']⟩,ty',pos,af,gd⟩ Φ:=by
 intro a w Q rl;have hp:=rl.h.perm hr.perm;have hblk:=(hp.hown _ aQ).1;simp only[] at hblk;by_cases hneed:len+m<=cap
 .have hcs:(xs++rest).length=cap*s:=by simp;omega
  have hrun:=Jj (P:=P) (t:=t) (t':=t') (ty':=ty') (w:=w) (len:=len) hblk hcs (hsy w rl.h) hys hf hneed;have hle:len*s+m*s<=cap*s:=by rw[<-dV];exact bT _ hneed
  have hov:cp (xs++rest) (len*s) ys=xs++ys++rest.drop (m*s):=by
   rw[py _ _ _ (by rw[hys];omega),<-hxs];simp[hys,mS]
  refine kv (v:= .slice (some ⟨b,0,none⟩) (len+m) cap) (w':=gq w b (.cells ⟨cp (xs++rest) (len*s) ys⟩ e (0,0))) ?_ ?_
  .simp only[execOp,resolve,iY,bY,gN,bw rl.fr hx,bw rl.fr hy]
   exact cD hrun
  .rw[hov]
   refine h b lo cap (rest.drop (m*s)) hneed ?_ _ _ ((rl.heap (hp.store (.hd ..))).put _ hd);rw[gK,dV];omega
 .have hx':lH P C own G s len (.slice (some ⟨b,0,none⟩) len cap) xs:=fun w' hw'=>by
   have hb':=(((hw'.perm hr.perm).hown _ aQ).1);refine C4 hb' ?_;rw[k9 _ _ _ (by simp;omega),<-hxs];simp
  have hcap':len+m<=grownCap w (len+m) cap e:=by unfold grownCap;simp only[Question.cut];omega
  have hrun:=Ff (P:=P) (t:=t) (t':=t') (ty':=ty') (w:=w) (w':=w) (hx' _ rl.h.drew) (hsy _ rl.h.drew) (by omega) hby hb;refine kv (v:= .slice (some ⟨w.heap.size,0,none⟩) (len+m) (grownCap w (len+m) cap e)) (w':=w.drew.alloc (.cells ⟨xs++ys++dl z (grownCap w (len+m) cap e-(len+m))⟩ e)) ?_ ?_
  .simp only[execOp,resolve,iY,bY,gN,bw rl.fr hx,bw rl.fr hy]
   exact cD hrun
  .refine h w.heap.size _ _ _ hcap' ?_ _ _ ((rl.heap (((hp.drew).drop (mU _ _)).alloc _ _)).put _ hd)
   rw[nk,hzs,<-dV];congr 1;omega
def Sk{fn:Func}(hf:P.funcs[f]? =some fn)(hname:(fn.name== "runtime.NumGoroutine")=false)(hb:fn.body.isNone=true)(hn:Extern.findNext fn=none)
  (he:Extern.find fn=some (Extern.SlicesOverlaps.overlaps #[tS,tS] #[tR]))[hT:cj P tS e s by_]
  {b1 b2 o1 o2 l1 c1:Nat}{lo1 lo2:Bool}(ho:aB fr fo=some (.func (.func f) #[] #[]))
  (hv:fg fr args.toList=some [.slice (some ⟨b1,o1,none⟩) l1 c1, .slice (some ⟨b2,o2,none⟩) l2 c2])[h1:iw own b1 cs1 t1 lo1][h2:iw own b2 cs2 t2 lo2](hne:b1≠b2)(hc2:cs2≠[]):
  Yd P C fr own G ⟨dst, .call ⟨.value fo,args,tys⟩,ty',pos,af,gd⟩ (.bool false):=by
 intro a w hfr hh;have e1:=(hh.hown _ h1.mem).1;have e2:=(hh.hown _ h2.mem).1;have ev:args.map a.eval=⟨[.slice (some ⟨b1,o1,none⟩) l1 c1, .slice (some ⟨b2,o2,none⟩) l2 c2]⟩:=by apply Array.ext';simpa using Be hfr hv
 simp only[] at e1 e2;have hrun:=Lib.run_overlaps_apart (P:=P) w tS tR e hT.un s hT.siz ⟨b1,o1,none⟩ ⟨b2,o2,none⟩ l1 c1 l2 c2 hne t1 t2 cs1.length cs2.length
  (by simp[World.shape?,e1]) (by simp[World.shape?,e2]) (by simpa using hc2) (by simp[World.frozen?,e1]) (by simp[World.frozen?,e1])
 simp only[execOp,resolve,bw hfr ho,ev,Deferred.ofValue];show(invoke (.fn (.func f) #[]) _).run P w=_;simp only[invoke];have h3:=run_callFunc_extern (P:=P) hf hname hb hn he;rw[h3];simp[hrun,Result.andThen]
end
instance ll.cons2 (l m:List av) (o:av) [h:ll l m]:ll (o::l) (o::m):=⟨h.s.cons_cons o⟩
def Yh{own:List av}{b:Nat}{cs:List Value}{lo:Bool}(fin:Nat->Bool)(π:List (Nat×Bool)){id:Nat}(hm:P.follows .mixedOrders=true)(_hr:jo own ⟨b,cs,ty,lo⟩ own0)(ho:(sA ops fin π (Array.replicate ops.size false)&&Nat.ble π.length ops.size)=true)
  (h:St C n fr own G (iC P ops (gn Q) (HS C own0 G) fin π)):St C n fr own G ((Code.region id ops true).wp P Q):=by
 simp only[bU] at ho;intro a w rl;exact wp_mono (wp_region_any hm (B6 _ _ _ _ (Bo (fun _ _ _ _ _ h=>h) π _ a _ ho.1 (h a _ (rl.heap rl.h.drew)) _ (by simpa using ho.2)))) gn.imp
def aD(vs:List Value):List Value:=(vs.map aF).flatten
def ek{s:Nat}: ∀(vs:List Value),(∀v∈vs,(aF v).length=s)->(aD vs).length=vs.length*s
 |[],_=>by simp[aD]
 |v::vs,h=>by
  have h1:=ek vs (fun u hu=>h u (aJ _ hu));have h2:=h v aQ;unfold aD at*;simp only[bY,rJ,aY,bQ,h1,h2,fS];omega
def ni(us vs:List Value):aD (us++vs)=aD us++aD vs:=by simp[aD]
def vP(v:Value):aD [v]=aF v:=by simp[aD]
def HR{s:Nat}: ∀(vs:List Value) (i:Nat),(∀v∈vs,(aF v).length=s)->i<=vs.length->(aD vs).take (i*s)=aD (vs.take i)
 |vs,0,_,_=>by simp[aD]
 |[],i+1,_,h=>by simp at h
 |v::vs,i+1,h,hi=>by
  have h1:=HR vs i (fun u hu=>h u (aJ _ hu)) (by simpa using hi);have h2:=h v aQ;unfold aD at*;simp only[bY,rJ,oZ];rw[List.take_append,h2,cZ (by rw[h2,fS];omega),fS,mN,h1]
def EK{s:Nat}: ∀(vs:List Value) (i:Nat),(∀v∈vs,(aF v).length=s)->i<=vs.length->(aD vs).drop (i*s)=aD (vs.drop i)
 |vs,0,_,_=>by simp
 |[],i+1,_,h=>by simp at h
 |v::vs,i+1,h,hi=>by
  have h1:=EK vs i (fun u hu=>h u (aJ _ hu)) (by simpa using hi);have h2:=h v aQ;unfold aD at*;simp only[bY,rJ,sM];rw[mS,h2,iS (by rw[h2,fS];omega),fS,mN,h1,jL]
def H8(h: ∀v∈vs,(aF v).length=s)(hi:i<vs.length):co (aD vs++rest) (i*s) s=some (aF vs[i]):=by
 have hl:=ek vs h;have hle:i*s+s<=vs.length*s:=by rw[<-fS];exact bT _ hi
 rw[k9 _ _ _ (by simp only[aY];omega)];congr 1;rw[kM (by omega),EK vs i h (by omega),bK hi];have h2:=h vs[i] (cN hi);rw[show(vs[i]::vs.drop (i+1))=[vs[i]]++vs.drop (i+1) from J,ni,vP,dX,gQ (by omega),cZ (by omega)]
def f7.of_flat{b c:Nat}(h: ∀v∈vs,(aF v).length=s)(hg:G b=some (aD vs++rest))(hc:vs.length<=c):f7 G s ⟨some ⟨b,0,none⟩,vs.length,c⟩ vs:=
 ⟨J,hc, .inr ⟨b,0,_,J,hg,fun i hi=>by rw[eX];exact H8 h hi⟩⟩
section
variable {own:List av}
variable {gd:Option (Nat×Bool)}
def tF(own0:List av)(fin:Nat->Bool)(π:List (Nat×Bool)){id:Nat}(hm:P.follows .mixedOrders=true)(ho:(sA ops fin π (Array.replicate ops.size false)&&Nat.ble π.length ops.size)=true)
  (h:St C n fr own G (iC P ops (gn Q) (HS C own0 G) fin π)):St C n fr own G ((Code.region id ops true).wp P Q):=by
 simp only[bU] at ho;intro a w rl;exact wp_mono (wp_region_any hm (B6 _ _ _ _ (Bo (fun _ _ _ _ _ h=>h) π _ a _ ho.1 (h a _ (rl.heap rl.h.drew)) _ (by simpa using ho.2)))) gn.imp
end
section
variable {S:World->Prop}{π₂:List (Nat×Bool)}
end
structure FD where
 k:Nat
 d:Nat
 t:TypeId
 z:Value
abbrev Fs:=Nat->Option Nat
def J0:List FD->Fs->Fr
 |[],_=>[]
 |f::r,fs=>fF f.d (fs f.k)++J0 r fs
def IM:List FD->Fs->List av
 |[],_=>[]
 |f::r,fs=>fO f.t f.z (fs f.k)++IM r fs
def Ls(fd:List FD)(fs:Fs):List Nat:=(fd.filter fun f=>(fs f.k).isNone).map (·.k)
section
variable {own:List av}{π π₂:List (Nat×Bool)}{fd:List FD}
end
end Go.Sx
end
