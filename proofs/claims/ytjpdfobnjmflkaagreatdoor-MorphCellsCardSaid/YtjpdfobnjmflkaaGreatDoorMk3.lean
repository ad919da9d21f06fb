import Derived.Test.YtjpdfobnjmflkaaGreatDoorMk2
import Derived.Laws.Externs
import Derived.Lib.Overlaps
set_option linter.all false
set_option maxRecDepth 100000
section
namespace Go.Sx
open Go
variable {P:Program}{ops:Array Oper}{Q:Exit->Act->World->Prop}{fin:Nat->Bool}{k n:Nat}
section
variable {S:World->Prop}{π₂:List (Nat×Bool)}
end
section
variable {C:aF}{fr:Fr}{own own0:List aA}{G G0:Gh}{π π₂:List (Nat×Bool)}
def fF(d:Nat):Option Nat->Fr
 |none=>[]
 |some b=>[(d, .pointer (some ⟨b,0,none⟩))]
def fO(t:TypeId)(z:Value):Option Nat->List aA
 |none=>[]
 |some b=>[⟨b,aG z,t,true⟩]
end
end Go.Sx
end
section
namespace Go.Sx
open Go Go.Proofs
def E7{q:Rat}(h:q.den=1:=by omega):q=(q.num:Int):=by
 conv=>lhs;rw[<-rM q,h,sS]
def bw(a b:Rat):Int:=if a<b then-1 else if b<a then 1 else 0
def HM(a b:Rat):(a-b).num<0↔a<b:=by
 rw[<-Rat.not_le,Rat.le_iff_sub_nonneg,<-rN];omega
def Sn(a b:Rat):0<(a-b).num↔b<a:=by
 have h:=HM b a;have h2:(b-a).num= -(a-b).num:=by rw[<-oZ,Rat.neg_sub]
 rw[h2] at h;rw[<-h];omega
def DK(a b:Rat):Int.sign (a-b).num=bw a b:=by
 unfold bw;split
 .rename_i h;exact eX ((HM a b).2 h)
 .rename_i h
  split
  .rename_i h2;exact fU ((Sn a b).2 h2)
  .rename_i h2
   rw[<-HM] at h;rw[<-Sn] at h2;rw[show(a-b).num=0 by omega];rfl
def NT{a b:Rat}(h:a.den=b.den:=by omega):a<b↔a.num<b.num:=by
 rw[Rat.lt_iff,h];have:(0:Int)<b.den:=by have:=b.den_pos;omega
 exact⟨fun h2=>Int.lt_of_mul_lt_mul_right h2 (pL this),fun h2=>Int.mul_lt_mul_of_pos_right h2 this⟩
def u7(a b:Rat):bw a b=0↔a=b:=by
 unfold bw;constructor
 .intro h
  split at h
  .omega
  .rename_i h1
   split at h
   .omega
   .rename_i h2
    exact Rat.le_antisymm (Rat.not_lt.1 h2) (Rat.not_lt.1 h1)
 .intro h
  subst h;rw[if_neg (Rat.not_lt.2 iW),if_neg (Rat.not_lt.2 iW)]
def Sz(a b:Rat):0<bw a b↔b<a:=by
 unfold bw;constructor
 .intro h
  split at h
  .omega
  .split at h
   .assumption
   .omega
 .intro h
  rw[if_neg (fun h2=>Rat.not_lt.2 (dQ h) h2),if_pos h];decide
def R3(a b:Rat):bw a b<0↔a<b:=by
 unfold bw;constructor
 .intro h
  split at h
  .assumption
  .split at h<;>omega
 .intro h
  rw[if_pos h];decide
def rgcd(a b:Rat):Rat:=mkRat ((Nat.gcd (a.num.natAbs*b.den) (b.num.natAbs*a.den):Nat):Int) (a.den*b.den)
def JV(a b:Int):rgcd a b=((Nat.gcd a.natAbs b.natAbs:Nat):Int):=by
 unfold rgcd;show mkRat ((Nat.gcd (a.natAbs*1) (b.natAbs*1):Nat):Int) (1*1)=_;rw[jX,jX,jX,sS]
def F7{a b m:Nat}(ha:a<m)(hb:b<m):Nat.gcd a b<m:=by
 rcases fT a with h|h
 .rw[h,Nat.gcd_zero_left];exact hb
 .exact dR (Nat.gcd_le_left _ h) ha
structure LV where
 a:RV
 b:RV
 c:RV
def LV.v(z:LV):Value:= .agg ⟨[.int .i64 z.a.n, .int .i64 z.a.d, .pointer z.a.p, .int .i64 z.b.n, .int .i64 z.b.d, .pointer z.b.p, .int .i64 z.c.n, .int .i64 z.c.d, .pointer z.c.p]⟩
structure aa where
 a:Int
 b:Int
 c:Int
def aa.ok(l:aa):Prop:= ¬(l.a=0/\l.b=0)/\Nat.gcd (Nat.gcd l.a.natAbs l.b.natAbs) l.c.natAbs=1
structure PV where
 x:RV
 y:RV
def PV.v(z:PV):Value:= .agg ⟨[.int .i64 z.x.n, .int .i64 z.x.d, .pointer z.x.p, .int .i64 z.y.n, .int .i64 z.y.d, .pointer z.y.p]⟩
structure ah where
 x:Rat
 y:Rat
def IT(a:Int): -(a:Rat)=((-a:Int):Rat):=rfl
def aa.rev(l:aa):aa:=⟨-l.a, -l.b, -l.c⟩
def aa.nor(l:aa):ah:=⟨l.a,l.b⟩
def aa.dir(l:aa):ah:=⟨l.b, -(l.a:Rat)⟩
def ah.dot(p q:ah):Rat:=p.x*q.x+p.y*q.y
def ah.cross(p q:ah):Rat:=p.x*q.y-p.y*q.x
def ah.scale(p:ah)(c:Rat):ah:=⟨p.x*c,p.y*c⟩
def ah.add(p q:ah):ah:=⟨p.x+q.x,p.y+q.y⟩
def aa.value(l:aa)(p:ah):Rat:=l.nor.dot p+(l.c:Rat)
def aa.base(l:aa):ah:=l.nor.scale (-(l.c:Rat)/l.nor.dot l.nor)
def aa.at(l:aa)(t:Rat):ah:=l.base.add (l.dir.scale t)
end Go.Sx
end
section
namespace Go.Sx
open Go
variable {s n by_ off cap l2 cap2 i:Nat}{B M rest own' own1 own0 L:List aA}{p q:ah}{m:aa}{C:aF}{K:Value->List aA->Gh->Prop}{x y fo:Operand}{G G' G0:Gh}{w w':World}{P:Program}{f:FuncId}{vs c1 c2 cs' ys xs cs1 cs2:List Value}{fr:Fr}{Φ:Act->World->Prop}{dst:Option Nat}{t' ty' ty tS tR t1 t2:TypeId}{pos:String}{af:Array Edge}{args:Array Operand}{tys:Array TypeId}{ad ad2:Option Addr}{ops:Array Oper}{Q:Exit->Act->World->Prop}{fin:Nat->Bool}
instance:DecidableEq aa:=fun x y=>decidable_of_iff (x.a=y.a/\x.b=y.b/\x.c=y.c) (by
 cases x;cases y;simp)
structure ar where
 lo:Rat
 hi:Rat
 nl:Bool
 nh:Bool
def ar.all:ar:=⟨0,0,true,true⟩
def ar.empty(v:ar):Bool:=!v.nl&&(!v.nh&&decide (0<=bw v.lo v.hi))
def ar.meet(v w:ar):ar:=
 ⟨if v.nl then w.lo else if w.nl then v.lo else if v.lo<w.lo then w.lo else v.lo,
  if v.nh then w.hi else if w.nh then v.hi else if w.hi<v.hi then w.hi else v.hi,v.nl&&w.nl,v.nh&&w.nh⟩
def ar.sample(v:ar):Rat:=if v.nl&&v.nh then 0 else if v.nl then v.hi-1 else if v.nh then v.lo+1 else(v.lo+v.hi)*mkRat 1 2
def aa.cutK(l m:aa):Rat:=m.nor.dot l.dir
def aa.cutC(l m:aa):Rat:=m.value l.base
def aa.cutV(l:aa)(v:ar)(m:aa):ar:=
 if Int.sign (l.cutK m).num=0 then v
 else if Int.sign (l.cutK m).num=1 then v.meet ⟨-(l.cutC m/l.cutK m),0,false,true⟩
 else v.meet ⟨0, -(l.cutC m/l.cutK m),true,false⟩
def aa.cutB(l:aa)(v:ar)(m:aa):Bool:=
 if Int.sign (l.cutK m).num=0 then decide (0<Int.sign (l.cutC m).num) else !(l.cutV v m).empty
structure bA where
 l:aa
 v:ar
abbrev ao:=List bA
variable {e:ao}
def mD(l:aa):ao->ar->Option ar
 |[],v=>some v
 |s::t,v=>if l.cutB v s.l then mD l t (l.cutV v s.l) else none
def jz(c:ao)(l:aa):Option ar:=mD l c ar.all
def nG(l:aa)(s:bA):Int:=Int.sign (l.value (s.l.at s.v.sample)).num
def nB(l:aa):ao->Int
 |[]=> -1
 |s::t=>if nG l s≠0 then nG l s else if s.l=l then 1 else nB l t
def vX(c:ao)(l:aa):Int:=if(jz c l).isSome then 0 else nB l c
def ah.half(p:ah):Int:=
 if 0<Int.sign p.y.num\/(Int.sign p.y.num=0/\0<Int.sign p.x.num) then 1 else if Int.sign p.y.num<0\/Int.sign p.x.num<0 then 2 else 0
def gc(u v:ah):Int:=if u.half<v.half then-1 else if v.half<u.half then 1 else-(Int.sign (u.cross v).num)
def d7(l:aa):ao->ao
 |[]=>[]
 |s::t=>if s.l.cutB s.v l then⟨s.l,s.l.cutV s.v l⟩::d7 l t else d7 l t
def f7(p:Nat->Bool)(i j:Nat):Nat:=
 if h:i<j then(if p ((i+j)/2) then f7 p ((i+j)/2+1) j else f7 p i ((i+j)/2)) else i
termination_by j-i
def i0(c:ao)(l:aa)(i:Nat):Bool:=match c[i]? with
 |some s=>decide (gc s.l.dir l.dir<0)
 |none=>false
def kI(c:ao)(l:aa)(v:ar):ao:=
 c.take (f7 (i0 c l) 0 c.length)++⟨l,v⟩::c.drop (f7 (i0 c l) 0 c.length)
def bE(c:ao)(l:aa):ao:=match jz c l with
 |some v=>kI (d7 l c) l v
 |none=>c
def cp(c:ao)(l:aa):Bool:=match jz c l with
 |some _=>true
 |none=>decide (0<vX c l)
def Fi(p:Nat->Bool): ∀(d i j:Nat),j-i<=d->i<=j->i<=f7 p i j/\f7 p i j<=j
 |0,i,j,h,hij=>by
  rw[f7,dif_neg (by omega)];omega
 |d+1,i,j,h,hij=>by
  rw[f7];split
  .split
   .have:=Fi p d ((i+j)/2+1) j (by omega) (by omega);omega
   .have:=Fi p d i ((i+j)/2) (by omega) (by omega);omega
  .omega
def LM(l:aa): ∀c:ao,(d7 l c).length<=c.length
 |[]=>bW _
 |s::t=>by
  have:=LM l t;unfold d7;split<;>simp<;>omega
def Tw(c:ao)(l:aa)(v:ar):(kI c l v).length=c.length+1:=by
 have:=(Fi (i0 c l) c.length 0 c.length (by omega) (by omega)).2;simp[kI];omega
def tw(c:ao)(l:aa):(bE c l).length<=c.length+1:=by
 unfold bE;split
 .rw[Tw];have:=LM l c;omega
 .omega
inductive Tr where
 |leaf (b:Bool)
 |node (l:aa) (x y:Tr)
def Tr.isLeaf:Tr->Bool
 | .leaf _=>true
 | .node .. =>false
def Tr.code:Tr->Bool
 | .leaf b=>b
 | .node .. =>false
def Tr.depth:Tr->Nat
 | .leaf _=>0
 | .node _ x y=>1+max x.depth y.depth
def Tr.size:Tr->Nat
 | .leaf _=>0
 | .node _ x y=>1+x.size+y.size
def Tr.joinQ(l:aa)(x y:Tr):Tr:=if x.isLeaf&&(y.isLeaf&&(x.code==y.code)) then x else .node l x y
def Tr.restrict:Tr->ao->Tr
 | .leaf b,_=> .leaf b
 | .node l x y,c=>if !cp c l.rev then x.restrict c else if !cp c l then y.restrict c else joinQ l (x.restrict (bE c l)) (y.restrict (bE c l.rev))
def Tr.parts:Tr->ao->List (Bool×ao)
 | .leaf b,c=>[(b,c)]
 | .node l x y,c=>(if cp c l then x.parts (bE c l) else [])++(if cp c l.rev then y.parts (bE c l.rev) else [])
def Tr.all(p:aa->Prop):Tr->Prop
 | .leaf _=>True
 | .node l x y=>p l/\x.all p/\y.all p
structure NQ where
 l:aa
 a:Int
 b:Int
def QV(b:Bool):Int:=if b then-2 else-1
def Tr.num:Tr->Nat->Int
 | .leaf b,_=>QV b
 | .node ..,n=>n
def Tr.wr:Tr->Nat->List NQ
 | .leaf _,_=>[]
 | .node l x y,n=>⟨l,x.num (n+1),y.num (n+1+x.size)⟩::x.wr (n+1)++y.wr (n+1+x.size)
def Tr.wr_len: ∀(t:Tr) (n:Nat),(t.wr n).length=t.size
 | .leaf _,n=>rfl
 | .node l x y,n=>by
  have h1:=Tr.wr_len x (n+1);have h2:=Tr.wr_len y (n+1+x.size);simp[Tr.wr,Tr.size,h1,h2];omega
def Tr.joinQ_cases(l:aa)(x y:Tr):(Tr.joinQ l x y=x/\x.isLeaf=true)\/(Tr.joinQ l x y= .node l x y/\ ¬(x.isLeaf=true/\y.isLeaf=true/\x.code=y.code)):=by
 unfold Tr.joinQ;split
 .rename_i h
  simp at h;exact .inl ⟨J,h.1⟩
 .rename_i h
  simp at h;exact .inr ⟨J,fun⟨a,b,c⟩=>h a b c⟩
def Tr.restrict_depth: ∀(t:Tr) (c:ao),(t.restrict c).depth<=t.depth
 | .leaf b,c=>bW _
 | .node l x y,c=>by
  unfold Tr.restrict;split
  .have:=x.restrict_depth c;simp only[Tr.depth];omega
  .split
   .have:=y.restrict_depth c;simp only[Tr.depth];omega
   .have h1:=x.restrict_depth (bE c l)
    have h2:=y.restrict_depth (bE c l.rev);rcases Tr.joinQ_cases l (x.restrict (bE c l)) (y.restrict (bE c l.rev)) with⟨h,_⟩|⟨h,_⟩
    .rw[h];simp only[Tr.depth];omega
    .rw[h];simp only[Tr.depth];omega
def Tr.restrict_all(p:aa->Prop): ∀(t:Tr) (c:ao),t.all p->(t.restrict c).all p
 | .leaf b,c,_=>trivial
 | .node l x y,c,h=>by
  obtain⟨h0,h1,h2⟩:=h;unfold Tr.restrict;split
  .exact x.restrict_all p c h1
  .split
   .exact y.restrict_all p c h2
   .rcases Tr.joinQ_cases l (x.restrict (bE c l)) (y.restrict (bE c l.rev)) with⟨h,_⟩|⟨h,_⟩
    .rw[h];exact x.restrict_all p _ h1
    .rw[h];exact⟨h0,x.restrict_all p _ h1,y.restrict_all p _ h2⟩
def jd(l:aa)(p:ah):l.value p=(l.a:Rat)*p.x+(l.b:Rat)*p.y+(l.c:Rat):=rfl
def fe(l:aa)(p:ah):l.rev.value p= -l.value p:=by
 rw[jd,jd];have h1:((l.rev.a:Int):Rat)= -(l.a:Rat):=(IT l.a).symm;have h2:((l.rev.b:Int):Rat)= -(l.b:Rat):=(IT l.b).symm;have h3:((l.rev.c:Int):Rat)= -(l.c:Rat):=(IT l.c).symm;rw[h1,h2,h3];grind
def jv(q p:ah)(e:Rat):ah:=⟨q.x+e*(p.x-q.x),q.y+e*(p.y-q.y)⟩
def lc(l:aa)(q p:ah)(e:Rat):l.value (jv q p e)=l.value q+e*(l.value p-l.value q):=by
 simp only[jd,jv];grind
def cF(q u:ah)(e:Rat):ah:=⟨q.x+e*u.x,q.y+e*u.y⟩
def jc(l:aa)(q u:ah)(e:Rat):l.value (cF q u e)=l.value q+e*l.nor.dot u:=by
 simp only[jd,cF,aa.nor,ah.dot];grind
def dd{a b:Rat}(ha:0<a)(hb:0<b):0<a*b:=Rat.mul_pos ha hb
def cG{a b:Rat}(ha:0<=a)(hb:0<=b):0<=a*b:=Rat.mul_nonneg ha hb
def Co(a:Rat):0<=a*a:=by
 by_cases h:0<=a
 .exact cG h h
 .have:=cG (a:= -a) (b:= -a) (by grind) (by grind)
  grind
def f8{s k:Rat}(hk:0<k):0<s*k↔0<s:=by
 constructor
 .intro h
  by_cases hs:0<s
  .exact hs
  .have:=cG (a:= -s) (b:=k) (by grind) (by grind)
   grind
 .intro h;exact dd h hk
def ij{s k:Rat}(hk:0<k):0<=s*k↔0<=s:=by
 constructor
 .intro h
  by_cases hs:0<=s
  .exact hs
  .have:=dd (a:= -s) (b:=k) (by grind) hk
   grind
 .intro h;exact cG h (by grind)
def HR{A B u v:Rat}(h0:0<=A)(h1:0<=A+v*B)(hu:0<=u)(huv:u<=v):0<=A+u*B:=by
 by_cases hB:0<=B
 .have:=cG hu hB;grind
 .have:=cG (a:=v-u) (b:= -B) (by grind) (by grind)
  grind
def aa.Ne(l:aa):Prop:= ¬(l.a=0/\l.b=0)
def aa.ok.ne{l:aa}(h:l.ok):l.Ne:=h.1
def mG{l:aa}(h:l.Ne):0<l.nor.dot l.nor:=by
 show 0<(l.a:Rat)*l.a+(l.b:Rat)*l.b;have h1:=Co (l.a:Rat);have h2:=Co (l.b:Rat);by_cases ha:l.a=0
 .have hb:l.b≠0:=fun hb=>h ⟨ha,hb⟩
  have hb':(l.b:Rat)≠0:=fun e=>hb (cY.1 e);have:(l.b:Rat)*l.b≠0:=by grind
  grind
 .have ha':(l.a:Rat)≠0:=fun e=>ha (cY.1 e)
  have:(l.a:Rat)*l.a≠0:=by grind
  grind
def AY{l:aa}(h:l.Ne): ∃q:Rat,l.nor.dot l.nor*q= -(l.c:Rat)/\l.base=⟨(l.a:Rat)*q,(l.b:Rat)*q⟩:=by
 refine⟨-(l.c:Rat)/l.nor.dot l.nor,?_,J⟩;have:=mG h;grind
def li(l m:aa)(t:Rat):m.value (l.at t)=l.cutC m+t*l.cutK m:=by
 simp only[aa.cutC,aa.cutK,jd,aa.at,ah.add,ah.scale,aa.dir,aa.nor,ah.dot];grind
def lE{l:aa}(h:l.Ne)(t:Rat):l.value (l.at t)=0:=by
 obtain⟨q,h1,h2⟩:=AY h;simp only[jd,aa.at,h2,ah.add,ah.scale,aa.dir];simp only[aa.nor,ah.dot] at h1;grind
def AB{l:aa}(h:l.Ne)(hp:l.value p=0): ∃t,p=l.at t:=by
 obtain⟨q,h1,h2⟩:=AY h;have hn:=mG h;obtain⟨x,y⟩:=p;rw[jd] at hp;simp only[aa.nor,ah.dot] at h1 hn;refine⟨((l.b:Rat)*x-(l.a:Rat)*y)/((l.a:Rat)*l.a+(l.b:Rat)*l.b),?_⟩;generalize ht:((l.b:Rat)*x-(l.a:Rat)*y)/((l.a:Rat)*l.a+(l.b:Rat)*l.b)=t;have ht':((l.a:Rat)*l.a+(l.b:Rat)*l.b)*t=(l.b:Rat)*x-(l.a:Rat)*y:=by grind
 simp only[aa.at,h2,ah.add,ah.scale,aa.dir,ah.mk.injEq];generalize (l.a:Rat)=a at*;generalize (l.b:Rat)=b at*;generalize (l.c:Rat)=c at*;have e1:(a*a+b*b)*(x-(a*q+b*t))=0:=by grind
 have e2:(a*a+b*b)*(y-(b*q+ -a*t))=0:=by grind
 constructor<;>grind
def ar.has(v:ar)(t:Rat):Prop:=(v.nl=true\/v.lo<=t)/\(v.nh=true\/t<=v.hi)
def ar.ins(v:ar)(t:Rat):Prop:=(v.nl=true\/v.lo<t)/\(v.nh=true\/t<v.hi)
def ar.Pos(v:ar):Prop:=v.nl=true\/v.nh=true\/v.lo<v.hi
def apP(a b:Rat):0<=bw a b↔b<=a:=by
 unfold bw;split
 .constructor
  .intro h;exact absurd h (by decide)
  .intro h;grind
 .split
  .constructor
   .intro _;grind
   .intro _;decide
  .constructor
   .intro _;grind
   .intro _;decide
def Ey(v:ar):v.empty=false↔v.Pos:=by
 obtain⟨lo,hi,nl,nh⟩:=v;unfold ar.empty ar.Pos
 cases nl<;>cases nh<;>simp[apP]
 first|exact Rat.not_le|grind
def ar.ins.has{v:ar}{t:Rat}(h:v.ins t):v.has t:=by
 obtain⟨h1,h2⟩:=h;exact⟨h1.imp id (fun h=>dQ h),h2.imp id (fun h=>dQ h)⟩
def W5:mkRat 1 2=(1:Rat)/2:=by rw[nV];rfl
def nD{v:ar}(h:v.Pos):v.ins v.sample:=by
 obtain⟨lo,hi,nl,nh⟩:=v;unfold ar.Pos at h;unfold ar.ins ar.sample;rw[W5]
 cases nl<;>cases nh<;>simp at* <;>grind
def PX(v w:ar)(t:Rat):(v.meet w).has t↔v.has t/\w.has t:=by
 obtain⟨lo,hi,nl,nh⟩:=v;obtain⟨lo',hi',nl',nh'⟩:=w;unfold ar.has ar.meet
 cases nl<;>cases nh<;>cases nl'<;>cases nh'<;>simp<;>grind
def M4(v w:ar)(t:Rat):(v.meet w).ins t↔v.ins t/\w.ins t:=by
 obtain⟨lo,hi,nl,nh⟩:=v;obtain⟨lo',hi',nl',nh'⟩:=w;unfold ar.ins ar.meet
 cases nl<;>cases nh<;>cases nl'<;>cases nh'<;>simp<;>grind
def HD(t:Rat):ar.all.has t:=⟨.inl J, .inl J⟩
def yr:ar.all.Pos:= .inl J
def o9(k:Rat):Int.sign k.num=0↔k=0:=by rw[gR,mX]
def Tk(k:Rat):0<k.num↔0<k:=by
 have h1:0<=k.num↔0<=k:=rN;have h2:k.num=0↔k=0:=mX;constructor
 .intro h
  have a:=h1.1 (by omega);have b:k≠0:=fun e=>by have:=h2.2 e;omega
  grind
 .intro h
  have a:=h1.2 (by grind);have b:k.num≠0:=fun e=>by have:=h2.1 e;grind
  omega
def Dj(k:Rat):Int.sign k.num=1↔0<k:=by rw[Int.sign_eq_one_iff_pos,Tk]
def nj(k:Rat):0<Int.sign k.num↔0<k:=by
 rw[<-Dj];rcases pW k.num 0 with h|h|h
 .rw[eX h];decide
 .rw[h];decide
 .rw[fU h];decide
def Du(k:Rat):Int.sign k.num<0↔k<0:=by
 have h1:=o9 k;have h2:=nj k;constructor
 .intro h
  by_cases hk:0<k
  .have:=h2.2 hk;omega
  .by_cases h0:k=0
   .have:=h1.2 h0;omega
   .grind
 .intro h
  have a1: ¬Int.sign k.num=0:=fun e=>by have:=h1.1 e;grind
  have a2: ¬0<Int.sign k.num:=fun e=>by have:=h2.1 e;grind
  omega
def Bg{l:aa}(v:ar)(hk:l.cutK m=0):l.cutV v m=v/\(l.cutB v m=true↔0<l.cutC m):=by
 have h:=(o9 (l.cutK m)).2 hk;unfold aa.cutV aa.cutB;rw[if_pos h,if_pos h,decide_eq_true_iff,nj];exact⟨J,Iff.rfl⟩
def BA{l:aa}(v:ar)(hk:0<l.cutK m):l.cutV v m=v.meet ⟨-(l.cutC m/l.cutK m),0,false,true⟩/\(l.cutB v m=true↔(l.cutV v m).Pos):=by
 have h0: ¬Int.sign (l.cutK m).num=0:=fun e=>by have:=(o9 _).1 e;grind
 have h1:=(Dj (l.cutK m)).2 hk;constructor
 .unfold aa.cutV;rw[if_neg h0,if_pos h1]
 .unfold aa.cutB;rw[if_neg h0,<-Ey];simp
def Bn{l:aa}(v:ar)(hk:l.cutK m<0):l.cutV v m=v.meet ⟨0, -(l.cutC m/l.cutK m),true,false⟩/\(l.cutB v m=true↔(l.cutV v m).Pos):=by
 have h0: ¬Int.sign (l.cutK m).num=0:=fun e=>by have:=(o9 _).1 e;grind
 have h1: ¬Int.sign (l.cutK m).num=1:=fun e=>by have:=(Dj _).1 e;grind
 constructor
 .unfold aa.cutV;rw[if_neg h0,if_neg h1]
 .unfold aa.cutB;rw[if_neg h0,<-Ey];simp
def Yp{C K t:Rat}(hk:0<K): -(C/K)<=t↔0<=C+t*K:=by
 have e:C=C/K*K:=by grind
 generalize C/K=d at*;rw[e,show d*K+t*K=(d+t)*K from by grind,ij hk];grind
def Sh{C K t:Rat}(hk:0<K): -(C/K)<t↔0<C+t*K:=by
 have e:C=C/K*K:=by grind
 generalize C/K=d at*;rw[e,show d*K+t*K=(d+t)*K from by grind,f8 hk];grind
def aJb{C K t:Rat}(hk:K<0):t<= -(C/K)↔0<=C+t*K:=by
 have e:C=C/K*K:=by grind
 generalize C/K=d at*;rw[e,show d*K+t*K=(-(d+t))*(-K) from by grind,ij (by grind)];grind
def O6{C K t:Rat}(hk:K<0):t< -(C/K)↔0<C+t*K:=by
 have e:C=C/K*K:=by grind
 generalize C/K=d at*;rw[e,show d*K+t*K=(-(d+t))*(-K) from by grind,f8 (by grind)];grind
def j0(k:Rat):k=0\/0<k\/k<0:=by grind
def Cm{l:aa}{v:ar}(hb:l.cutB v m=true)(t:Rat):(l.cutV v m).has t↔v.has t/\0<=m.value (l.at t):=by
 rw[li];rcases j0 (l.cutK m) with hk|hk|hk
 .obtain⟨h1,h2⟩:=Bg v hk
  rw[h1,hk];have:=h2.1 hb;constructor
  .intro h;exact⟨h,by grind⟩
  .exact fun h=>h.1
 .rw[(BA v hk).1,PX,<-Yp hk]
  simp[ar.has]
 .rw[(Bn v hk).1,PX,<-aJb hk]
  simp[ar.has]
def Lk{l:aa}{v:ar}(hb:l.cutB v m=true)(t:Rat):(l.cutV v m).ins t↔v.ins t/\0<m.value (l.at t):=by
 rw[li];rcases j0 (l.cutK m) with hk|hk|hk
 .obtain⟨h1,h2⟩:=Bg v hk
  rw[h1,hk];have:=h2.1 hb;constructor
  .intro h;exact⟨h,by grind⟩
  .exact fun h=>h.1
 .rw[(BA v hk).1,M4,<-Sh hk]
  simp[ar.ins]
 .rw[(Bn v hk).1,M4,<-O6 hk]
  simp[ar.ins]
def BD{l:aa}{v:ar}(hv:v.Pos)(hb:l.cutB v m=true):(l.cutV v m).Pos:=by
 rcases j0 (l.cutK m) with hk|hk|hk
 .rw[(Bg v hk).1];exact hv
 .exact(BA v hk).2.1 hb
 .exact(Bn v hk).2.1 hb
def HG{l:aa}{v:ar}(hv:v.Pos)(hb:l.cutB v m=false){t:Rat}(ht:v.has t):m.value (l.at t)<=0:=by
 rw[li];have hb': ¬l.cutB v m=true:=by rw[hb];decide
 rcases j0 (l.cutK m) with hk|hk|hk
 .have h2:=(Bg v hk).2
  have: ¬0<l.cutC m:=fun h=>hb' (h2.2 h);rw[hk];grind
 .obtain⟨h1,h2⟩:=BA v hk
  have hn: ¬(l.cutV v m).Pos:=fun h=>hb' (h2.2 h);rw[h1] at hn;have h3:=Sh (C:=l.cutC m) (t:=t) hk
  suffices¬(-(l.cutC m/l.cutK m)<t) by grind
  generalize-(l.cutC m/l.cutK m)=d at*;obtain⟨lo,hi,nl,nh⟩:=v;unfold ar.Pos ar.meet at hn;unfold ar.Pos at hv;unfold ar.has at ht
  cases nl<;>cases nh<;>simp at* <;>grind
 .obtain⟨h1,h2⟩:=Bn v hk
  have hn: ¬(l.cutV v m).Pos:=fun h=>hb' (h2.2 h);rw[h1] at hn;have h3:=O6 (C:=l.cutC m) (t:=t) hk
  suffices¬(t< -(l.cutC m/l.cutK m)) by grind
  generalize-(l.cutC m/l.cutK m)=d at*;obtain⟨lo,hi,nl,nh⟩:=v;unfold ar.Pos ar.meet at hn;unfold ar.Pos at hv;unfold ar.has at ht
  cases nl<;>cases nh<;>simp at* <;>grind
def bu(c:ao)(p:ah):Prop:= ∀s∈c,0<s.l.value p
def gH(c:ao)(p:ah):Prop:= ∀s∈c,0<=s.l.value p
def bu.c{c:ao}{p:ah}(h:bu c p):gH c p:=fun s hs=>dQ (h s hs)
def Fw(l:aa): ∀(c:ao) (v w:ar),v.Pos->mD l c v=some w->
  w.Pos/\(∀t,w.has t↔v.has t/\gH c (l.at t))/\(∀t,w.ins t↔v.ins t/\bu c (l.at t))
 |[],v,w,hv,h=>by
  obtain rfl:v=w:=by simpa[mD] using h
  exact⟨hv,fun t=>⟨fun h=>⟨h,fun s hs=>absurd hs (by simp)⟩,fun h=>h.1⟩,fun t=>⟨fun h=>⟨h,fun s hs=>absurd hs (by simp)⟩,fun h=>h.1⟩⟩
 |s::c,v,w,hv,h=>by
  rw[mD] at h;split at h
  .rename_i hb
   obtain⟨h1,h2,h3⟩:=Fw l c _ w (BD hv hb) h;refine⟨h1,fun t=>?_,fun t=>?_⟩
   .rw[h2,Cm hb]
    simp only[gH,dW];exact and_assoc
   .rw[h3,Lk hb]
    simp only[bu,dW];exact and_assoc
  .exact absurd h (by simp)
def Px(l:aa): ∀(c:ao) (v:ar),v.Pos->mD l c v=none-> ∀t,v.has t-> ¬bu c (l.at t)
 |[],v,hv,h=>by simp[mD] at h
 |s::c,v,hv,h=>by
  intro t ht hd;have hd':=dW.1 hd;rw[mD] at h;split at h
  .rename_i hb
   exact Px l c _ (BD hv hb) h t ((Cm hb t).2 ⟨ht,dQ hd'.1⟩) hd'.2
  .rename_i hb
   have:=HG hv (by simpa using hb) ht;have:=hd'.1;grind
def bu.open: ∀{c:ao} {q:ah} (u:ah),bu c q-> ∃e:Rat,0<e/\ ∀d,0<=d->d<=e->bu c (cF q u d)
 |[],q,u,_=>⟨1,by decide,fun d _ _ s hs=>absurd hs (by simp)⟩
 |s::c,q,u,h=>by
  have h':=dW.1 h;obtain⟨e,he,hd⟩:=bu.open (c:=c) u h'.2;have hs:=h'.1;generalize hk:s.l.nor.dot u=k;have hf: ∃f:Rat,0<f/\ ∀d,0<=d->d<=f->0<s.l.value q+d*k:=by
   by_cases hk0:0<=k
   .exact⟨1,by decide,fun d h1 _=>by have:=cG h1 hk0;grind⟩
   .refine⟨s.l.value q/(2* -k),?_,fun d h1 h2=>?_⟩
    .have e1:s.l.value q/(2* -k)*(2* -k)=s.l.value q:=by grind
     exact(f8 (k:=2* -k) (by grind)).1 (by rw[e1];exact hs)
    .have e1:s.l.value q/(2* -k)*(2* -k)=s.l.value q:=by grind
     generalize s.l.value q/(2* -k)=f at*;have:=cG (a:=f-d) (b:= -k) (by grind) (by grind);grind
  obtain⟨f,hf0,hf⟩:=hf;by_cases hef:e<=f
  .refine⟨e,he,fun d h1 h2=>dW.2 ⟨?_,hd d h1 h2⟩⟩
   rw[jc,hk];exact hf d h1 (by grind)
  .refine⟨f,hf0,fun d h1 h2=>dW.2 ⟨?_,hd d h1 (by grind)⟩⟩
   rw[jc,hk];exact hf d h1 h2
def I8: ∀{c:ao} {q p:ah},bu c q->(∃s∈c,s.l.value p<=0)->
  ∃e:Rat,0<=e/\e<=1/\(∃s∈c,s.l.value p<=0/\s.l.value (jv q p e)=0)/\gH c (jv q p e)
 |[],q,p,_,h=>by obtain⟨s,hs,_⟩:=h;exact absurd hs (by simp)
 |s::c,q,p,h,hex=>by
  have h':=dW.1 h;have hs:=h'.1;by_cases hc: ∃s∈c,s.l.value p<=0
  .obtain⟨e,h0,h1,⟨s1,m1,n1,z1⟩,hC⟩:=I8 h'.2 hc
   by_cases hp:0<=s.l.value (jv q p e)
   .exact⟨e,h0,h1,⟨s1,aJ _ m1,n1,z1⟩,dW.2 ⟨hp,hC⟩⟩
   .rw[lc] at hp
    generalize hB:s.l.value p-s.l.value q=B at*;have hB0:B<0:=by
     by_cases hB0:0<=B
     .have:=cG h0 hB0;grind
     .grind
    have e1:s.l.value q/(-B)*(-B)=s.l.value q:=by grind
    generalize hf:s.l.value q/(-B)=f at*;have f0:0<=f:=(ij (k:= -B) (by grind)).1 (by rw[e1];grind);have f1:f<=e:=by
     have:=(ij (s:=e-f) (k:= -B) (by grind)).1 (by grind);grind
    have z:s.l.value (jv q p f)=0:=by rw[lc,hB];grind
    have np:s.l.value p<=0:=by
     have:=cG (a:=1-e) (b:= -B) (by grind) (by grind);grind
    refine⟨f,f0,by grind,⟨s,aQ,np,z⟩,dW.2 ⟨by rw[z];exact iW,fun s2 m2=>?_⟩⟩;have a1:=h'.2 s2 m2;have a2:=hC s2 m2;rw[lc] at a2⊢;exact HR (dQ a1) a2 f0 f1
  .have np:s.l.value p<=0:=by
    obtain⟨s1,m1,n1⟩:=hex;rcases aW.1 m1 with rfl|m1
    .exact n1
    .exact absurd ⟨s1,m1,n1⟩ hc
   generalize hB:s.l.value p-s.l.value q=B at*;have hB0:B<0:=by grind
   have e1:s.l.value q/(-B)*(-B)=s.l.value q:=by grind
   generalize hf:s.l.value q/(-B)=f at*;have f0:0<=f:=(ij (k:= -B) (by grind)).1 (by rw[e1];grind);have f1:f<=1:=by
    have:=(ij (s:=1-f) (k:= -B) (by grind)).1 (by grind);grind
   have z:s.l.value (jv q p f)=0:=by rw[lc,hB];grind
   refine⟨f,f0,f1,⟨s,aQ,np,z⟩,dW.2 ⟨by rw[z];exact iW,fun s2 m2=>?_⟩⟩;have a1:=h'.2 s2 m2;have a2:0<s2.l.value p:=by
    by_cases h:0<s2.l.value p
    .exact h
    .exact absurd ⟨s2,m2,by grind⟩ hc
   rw[lc];have:=HR (A:=s2.l.value q) (B:=s2.l.value p-s2.l.value q) (u:=f) (v:=1) (dQ a1) (by grind) f0 f1;exact this
structure bC (c:ao):Prop where
 ne: ∃p,bu c p
 ok: ∀s∈c,s.l.ok
 edge: ∀s∈c,s.v.Pos/\ ∀t,s.v.has t↔gH c (s.l.at t)
def bC.nil:bC []:=⟨⟨⟨0,0⟩,fun s hs=>absurd hs (by simp)⟩,fun s hs=>absurd hs (by simp),fun s hs=>absurd hs (by simp)⟩
def sr{c:ao}(hne: ∃q,bu c q)(h: ∀p,bu c p->0<m.value p)(hp:gH c p):0<=m.value p:=by
 obtain⟨q,hq⟩:=hne;have mq:=h q hq;by_cases hm:0<=m.value p
 .exact hm
 .exfalso
  generalize hB:m.value q-m.value p=B;have hB0:0<B:=by grind
  have e1: -m.value p/B*B= -m.value p:=by grind
  generalize-m.value p/B=e at*;have e0:0<e:=(f8 hB0).1 (by rw[e1];grind);have e2:e<=1:=by
   have:=(ij (s:=1-e) hB0).1 (by grind);grind
  have hd:bu c (jv p q e):=fun s hs=>by
   rw[lc];have a:=hp s hs;have b:=hq s hs;have:=dd e0 b;have:=cG (a:=1-e) (b:=s.l.value p) (by grind) a;grind
  have:=h _ hd;rw[lc,hB,e1] at this;grind
def r5{l:aa}{s':bA}: ∀{c:ao},s'∈d7 l c↔ ∃s∈c,s.l.cutB s.v l=true/\s'=⟨s.l,s.l.cutV s.v l⟩
 |[]=>by simp[d7]
 |s::c=>by
  rw[d7];split
  .rename_i hb
   rw[aW,r5 (c:=c)];constructor
   .rintro (rfl|⟨s1,h1,h2⟩)
    .exact⟨s,aQ,hb,J⟩
    .exact⟨s1,aJ _ h1,h2⟩
   .rintro ⟨s1,h1,h2,h3⟩
    rcases aW.1 h1 with rfl|h1
    .exact .inl h3
    .exact .inr ⟨s1,h1,h2,h3⟩
  .rename_i hb
   rw[r5 (c:=c)];constructor
   .rintro ⟨s1,h1,h2⟩;exact⟨s1,aJ _ h1,h2⟩
   .rintro ⟨s1,h1,h2,h3⟩
    rcases aW.1 h1 with rfl|h1
    .exact absurd h2 hb
    .exact⟨s1,h1,h2,h3⟩
def pO{c:ao}{l:aa}{v:ar}{s:bA}:s∈kI c l v↔s=⟨l,v⟩\/s∈c:=by
 unfold kI;generalize f7 (i0 c l) 0 c.length=n;rw[bJ,aW];have h:=kX n c;constructor
 .rintro (h1|h1|h1)
  .exact .inr (eM h1)
  .exact .inl h1
  .exact .inr (gW h1)
 .rintro (h1|h1)
  .exact .inr (.inl h1)
  .rw[<-h,bJ] at h1
   rcases h1 with h1|h1
   .exact .inl h1
   .exact .inr (.inr h1)
def VE{c:ao}{l:aa}(hl:l.Ne)(hp:jz c l=none)(h:bu c p):l.value p≠0:=by
 intro h0;obtain⟨t,rfl⟩:=AB hl h0;exact Px l c _ yr hp t (HD t) h
def GU{c:ao}{l:aa}(hl:l.Ne){v:ar}(hp:jz c l=some v):(∃q,bu c q/\0<l.value q)/\ ∃q,bu c q/\l.value q<0:=by
 obtain⟨h1,_,h3⟩:=Fw l c _ v yr hp;have hd:=((h3 v.sample).1 (nD h1)).2;have h0:=lE hl v.sample;have hn:=mG hl;constructor
 .obtain⟨e,he,hm⟩:=hd.open l.nor
  refine⟨_,hm e (dQ he) iW,?_⟩;rw[jc,h0];have:=dd he hn;grind
 .obtain⟨e,he,hm⟩:=hd.open ⟨-l.nor.x, -l.nor.y⟩
  refine⟨_,hm e (dQ he) iW,?_⟩;rw[jc,h0];have:=dd he hn;simp only[ah.dot] at this⊢;grind
def Um{c:ao}{l:aa}{v:ar}(hc:bC c)(hl:l.ok)(hp:jz c l=some v):
  bC (kI (d7 l c) l v)/\ ∀p,bu (kI (d7 l c) l v) p↔bu c p/\0<l.value p:=by
 obtain⟨⟨q,hq,lq⟩,_⟩:=GU hl.ne hp;obtain⟨v1,v2,v3⟩:=Fw l c _ v yr hp;have hD: ∀p,bu (kI (d7 l c) l v) p↔bu c p/\0<l.value p:=by
  intro p;constructor
  .intro h
   have lp:0<l.value p:=h ⟨l,v⟩ (pO.2 (.inl J));refine⟨fun s0 hs0=>?_,lp⟩;by_cases h0:0<s0.l.value p
   .exact h0
   .exfalso
    obtain⟨e,e0,e1,⟨s,ms,ns,zs⟩,hC⟩:=I8 (p:=p) hq ⟨s0,hs0,by grind⟩;obtain⟨t,ht⟩:=AB (hc.ok s ms).ne zs;rw[ht] at hC;obtain⟨p1,p2⟩:=hc.edge s ms;have hh:=(p2 t).2 hC;have lr:0<l.value (s.l.at t):=by
     rw[<-ht,lc];by_cases hB:0<=l.value p-l.value q
     .have:=cG e0 hB;grind
     .have:=cG (a:=1-e) (b:= -(l.value p-l.value q)) (by grind) (by grind)
      grind
    have hb:s.l.cutB s.v l=true:=by
     cases hb:s.l.cutB s.v l with
     |true=>rfl
     |false=>have:=HG p1 hb hh;grind
    have:=h ⟨s.l,s.l.cutV s.v l⟩ (pO.2 (.inr (r5.2 ⟨s,ms,hb,J⟩)));simp only at this;grind
  .rintro ⟨h1,h2⟩ s hs
   rcases pO.1 hs with rfl|hs
   .exact h2
   .obtain⟨s1,m1,_,rfl⟩:=r5.1 hs
    exact h1 s1 m1
 have hne: ∃p,bu (kI (d7 l c) l v) p:=⟨q,(hD q).2 ⟨hq,lq⟩⟩;have hC: ∀p,gH (kI (d7 l c) l v) p↔gH c p/\0<=l.value p:=by
  intro p;constructor
  .intro h
   refine⟨fun s hs=>?_,h ⟨l,v⟩ (pO.2 (.inl J))⟩;exact sr hne (fun p hp=>((hD p).1 hp).1 s hs) h
  .rintro ⟨h1,h2⟩ s hs
   rcases pO.1 hs with rfl|hs
   .exact h2
   .obtain⟨s1,m1,_,rfl⟩:=r5.1 hs
    exact h1 s1 m1
 refine⟨⟨hne,fun s hs=>?_,fun s hs=>?_⟩,hD⟩
 .rcases pO.1 hs with rfl|hs
  .exact hl
  .obtain⟨s1,m1,_,rfl⟩:=r5.1 hs
   exact hc.ok s1 m1
 .rcases pO.1 hs with rfl|hs
  .refine⟨v1,fun t=>?_⟩
   rw[hC];simp only;rw[v2];have h0:=lE hl.ne t;constructor
   .intro h;exact⟨h.2,by rw[h0];exact iW⟩
   .intro h;exact⟨HD t,h.1⟩
  .obtain⟨s1,m1,hb,rfl⟩:=r5.1 hs
   obtain⟨p1,p2⟩:=hc.edge s1 m1;refine⟨BD p1 hb,fun t=>?_⟩;rw[hC];simp only;rw[Cm hb,p2]
def bu.seg{c:ao}{e:Rat}(hq:bu c q)(hp:bu c p)(h0:0<=e)(h1:e<=1):bu c (jv q p e):=fun s hs=>by
 rw[lc];have a:=hq s hs;have b:=hp s hs;by_cases he:e=0
 .subst he;grind
 .have:=dd (a:=e) (by grind) b
  have:=cG (a:=1-e) (b:=s.l.value q) (by grind) (by grind);grind
def Gl{v:ar}{t:Rat}(h:v.ins t):(∃u,u<t/\v.has u)/\ ∃u,t<u/\v.has u:=by
 obtain⟨lo,hi,nl,nh⟩:=v;unfold ar.ins at h;unfold ar.has;refine⟨⟨if nl=true then t-1 else lo,?_⟩,⟨if nh=true then t+1 else hi,?_⟩⟩<;>cases nl<;>cases nh<;>simp at* <;>grind
def xf{a b c x y z:Nat}(h1:x*b=a*y)(h2:x*c=a*z)(g:Nat.gcd (Nat.gcd a b) c=1):a∣x:=by
 have e:x=Nat.gcd (Nat.gcd (x*a) (x*b)) (x*c):=by
  rw[Nat.gcd_mul_left,Nat.gcd_mul_left,g,jX]
 rw[e];exact Nat.dvd_gcd (Nat.dvd_gcd (Nat.dvd_mul_left ..) (h1▸Nat.dvd_mul_right ..)) (h2▸Nat.dvd_mul_right ..)
def UO{a b c x y z:Int}(h1:a*y=b*x)(h2:a*z=c*x)(h3:b*z=c*y)
  (g1:Nat.gcd (Nat.gcd a.natAbs b.natAbs) c.natAbs=1)(g2:Nat.gcd (Nat.gcd x.natAbs y.natAbs) z.natAbs=1):
  (a=x/\b=y/\c=z)\/(a= -x/\b= -y/\c= -z):=by
 have n1:a.natAbs*y.natAbs=b.natAbs*x.natAbs:=by rw[<-fV,<-fV,h1]
 have n2:a.natAbs*z.natAbs=c.natAbs*x.natAbs:=by rw[<-fV,<-fV,h2]
 have n3:b.natAbs*z.natAbs=c.natAbs*y.natAbs:=by rw[<-fV,<-fV,h3]
 generalize ha:a.natAbs=A at*;generalize hb:b.natAbs=B at*;generalize hc:c.natAbs=C at*;generalize hx:x.natAbs=X at*;generalize hy:y.natAbs=Y at*;generalize hz:z.natAbs=Z at*;have gB:Nat.gcd (Nat.gcd B A) C=1:=by rw[jV B A];exact g1
 have gC:Nat.gcd (Nat.gcd C A) B=1:=by rw[Nat.gcd_assoc,jV];exact g1
 have gY:Nat.gcd (Nat.gcd Y X) Z=1:=by rw[jV Y X];exact g2
 have gZ:Nat.gcd (Nat.gcd Z X) Y=1:=by rw[Nat.gcd_assoc,jV];exact g2
 have e1:A=X:=Nat.dvd_antisymm (xf (x:=X) (y:=Y) (z:=Z) (by grind) (by grind) g1) (xf (x:=A) (y:=B) (z:=C) (by grind) (by grind) g2);have e2:B=Y:=Nat.dvd_antisymm (xf (x:=Y) (y:=X) (z:=Z) (by grind) (by grind) gB) (xf (x:=B) (y:=A) (z:=C) (by grind) (by grind) gY);have e3:C=Z:=Nat.dvd_antisymm (xf (x:=Z) (y:=X) (z:=Y) (by grind) (by grind) gC) (xf (x:=C) (y:=A) (z:=B) (by grind) (by grind) gZ);have s1:a=x\/a= -x:=by omega
 have s2:b=y\/b= -y:=by omega
 have s3:c=z\/c= -z:=by omega
 clear ha hb hc hx hy hz n1 n2 n3 g1 g2 gB gC gY gZ e1 e2 e3;have z1:= @pQ x y;have z2:= @pQ x z;have z3:= @pQ y z;rcases s1 with rfl|rfl<;>rcases s2 with rfl|rfl<;>rcases s3 with rfl|rfl<;>grind
def w8{l:aa}(hl:l.ok)(hm:m.ok)(h: ∀t,l.value (m.at t)=0):l=m\/l=m.rev:=by
 have h0:=h 0;have h1:=h 1;rw[li] at h0 h1;have hC:m.cutC l=0:=by grind
 have hK:m.cutK l=0:=by grind
 obtain⟨q,q1,q2⟩:=AY hm.ne;have hn:=mG hm.ne;unfold aa.cutC at hC;rw[q2,jd] at hC;unfold aa.cutK at hK;simp only[aa.nor,aa.dir,ah.dot] at hK q1 hn hC;obtain⟨a,b,c⟩:=l;obtain⟨x,y,z⟩:=m;simp only at*;have e1:a*y=b*x:=by
  have:((a*y:Int):Rat)=((b*x:Int):Rat):=by rw[cZ,cZ];grind
  exact rQ.1 this
 have e2:a*z=c*x:=by
  have:((a*z:Int):Rat)=((c*x:Int):Rat):=by rw[cZ,cZ];grind
  exact rQ.1 this
 have e3:b*z=c*y:=by
  have:((b*z:Int):Rat)=((c*y:Int):Rat):=by rw[cZ,cZ];grind
  exact rQ.1 this
 rcases UO e1 e2 e3 hl.2 hm.2 with⟨rfl,rfl,rfl⟩|⟨rfl,rfl,rfl⟩
 .exact .inl J
 .exact .inr J
def aa.ok.rev{l:aa}(h:l.ok):l.rev.ok:=by
 obtain⟨h1,h2⟩:=h;refine⟨?_,?_⟩
 .simp only[aa.rev];omega
 .simp only[aa.rev,jT];exact h2
def Qb(l:aa): ∀c:ao,(∀s∈c,nG l s<=0/\s.l≠l)-> ¬0<nB l c
 |[],_=>by simp[nB]
 |s::c,h=>by
  have h':=dW.1 h;unfold nB;rw[if_neg h'.1.2];split
  .have:=h'.1.1;omega
  .exact Qb l c h'.2
def O3{c:ao}{l:aa}(hc:bC c)(hl:l.ok)(hp:jz c l=none):
  (0<nB l c/\ ∀p,bu c p->0<l.value p)\/(¬0<nB l c/\ ∀p,bu c p->l.value p<0):=by
 have hoff:=fun p (h:bu c p)=>VE hl.ne hp h;by_cases hq: ∃q,bu c q/\0<l.value q
 .left
  obtain⟨q,hq,lq⟩:=hq;have hall: ∀p,bu c p->0<l.value p:=by
   intro p h;have:=hoff p h;by_cases h0:0<l.value p
   .exact h0
   .exfalso
    have hn:l.value p<0:=by grind
    have e1:l.value q/(l.value q-l.value p)*(l.value q-l.value p)=l.value q:=by grind
    generalize l.value q/(l.value q-l.value p)=e at*;have f0:0<=e:=(ij (k:=l.value q-l.value p) (by grind)).1 (by grind);have f1:e<=1:=by
     have:=(ij (s:=1-e) (k:=l.value q-l.value p) (by grind)).1 (by grind);grind
    exact hoff _ (hq.seg h f0 f1) (by rw[lc];grind)
  refine⟨?_,hall⟩
  cases c with
  |nil=>simp[jz,mD] at hp
  |cons s c=>
   obtain⟨p1,p2⟩:=hc.edge s aQ;have hi:=nD p1;have hr:=sr hc.ne hall ((p2 _).1 hi.has);unfold nB;by_cases h0:nG l s=0
   .rw[if_neg (by simpa using h0)]
    have hz:l.value (s.l.at s.v.sample)=0:=(o9 _).1 h0;have hge: ∀t,s.v.has t->0<=l.value (s.l.at t):=fun t ht=>sr hc.ne hall ((p2 t).1 ht);obtain⟨⟨u1,m1,n1⟩,⟨u2,m2,n2⟩⟩:=Gl hi;have g1:=hge _ n1;have g2:=hge _ n2;rw[li] at hz g1 g2;have hK:s.l.cutK l=0:=by
     rcases j0 (s.l.cutK l) with h|h|h
     .exact h
     .exfalso
      have:=dd (a:=s.v.sample-u1) (b:=s.l.cutK l) (by grind) h;grind
     .exfalso
      have:=dd (a:=u2-s.v.sample) (b:= -s.l.cutK l) (by grind) (by grind);grind
    have hz2: ∀t,l.value (s.l.at t)=0:=fun t=>by rw[li,hK];rw[hK] at hz;grind
    rcases w8 hl (hc.ok s aQ) hz2 with h|h
    .rw[if_pos h.symm];decide
    .exfalso
     have:=hall q hq;rw[h,fe] at this;have:=hq s aQ;grind
   .rw[if_pos h0]
    have hz:l.value (s.l.at s.v.sample)≠0:=fun e=>h0 ((o9 _).2 e);exact(nj _).2 (by grind)
 .right
  have hall: ∀p,bu c p->l.value p<0:=fun p h=>by
   have:=hoff p h;have: ¬0<l.value p:=fun h'=>hq ⟨p,h,h'⟩;grind
  refine⟨Qb l c fun s hs=>?_,hall⟩;obtain⟨p1,p2⟩:=hc.edge s hs;have hr:=sr (m:=l.rev) hc.ne (fun p h=>by rw[fe];have:=hall p h;grind) ((p2 _).1 (nD p1).has);rw[fe] at hr;constructor
  .have: ¬0<nG l s:=fun h=>by have:=(nj _).1 h;grind
   omega
  .rintro rfl
   obtain⟨p,hp⟩:=hc.ne;have:=hall p hp;have:=hp s hs;grind
def qn{c:ao}{l:aa}(hc:bC c)(hl:l.ok):cp c l=true↔ ∃p,bu c p/\0<l.value p:=by
 unfold cp
 cases hp:jz c l with
 |some v=>exact⟨fun _=>(GU hl.ne hp).1,fun _=>J⟩
 |none=>
  simp only[vX,hp,Option.isSome_none,kW,if_false,decide_eq_true_iff];rcases O3 hc hl hp with⟨h1,h2⟩|⟨h1,h2⟩
  .refine⟨fun _=>?_,fun _=>h1⟩
   obtain⟨p,hp⟩:=hc.ne;exact⟨p,hp,h2 p hp⟩
  .refine⟨fun h=>absurd h h1,?_⟩
   rintro ⟨p,hp,h⟩;have:=h2 p hp;grind
def gG{c:ao}{l:aa}(hc:bC c)(hl:l.ok)(hb:cp c l=true):bC (bE c l)/\ ∀p,bu (bE c l) p↔bu c p/\0<l.value p:=by
 unfold bE
 cases hp:jz c l with
 |some v=>exact Um hc hl hp
 |none=>
  refine⟨hc,fun p=>?_⟩;unfold cp at hb;simp only[hp,vX,Option.isSome_none,kW,if_false,decide_eq_true_iff] at hb;rcases O3 hc hl hp with⟨h1,h2⟩|⟨h1,h2⟩
  .exact⟨fun h=>⟨h,h2 p h⟩,fun h=>h.1⟩
  .exact absurd hb h1
def L8{c:ao}{l:aa}(hl:l.ok)(hp:bu c p)(h0:l.value p=0):(∃q,bu c q/\0<l.value q)/\ ∃q,bu c q/\l.value q<0:=by
 have hn:=mG hl.ne;constructor
 .obtain⟨e,he,hm⟩:=hp.open l.nor
  refine⟨_,hm e (dQ he) iW,?_⟩;rw[jc,h0];have:=dd he hn;grind
 .obtain⟨e,he,hm⟩:=hp.open ⟨-l.nor.x, -l.nor.y⟩
  refine⟨_,hm e (dQ he) iW,?_⟩;rw[jc,h0];have:=dd he hn;simp only[ah.dot] at this⊢;grind
inductive Ux (c:ao) (l:aa):Prop
 |left (h1:cp c l.rev=false) (h: ∀p,bu c p->0<l.value p)
 |right (h1:cp c l.rev=true) (h2:cp c l=false) (h: ∀p,bu c p->l.value p<0)
 |both (h1:cp c l.rev=true) (h2:cp c l=true) (g1:bC (bE c l)) (g2:bC (bE c l.rev))
   (e1: ∀p,bu (bE c l) p↔bu c p/\0<l.value p) (e2: ∀p,bu (bE c l.rev) p↔bu c p/\l.value p<0)
def Bb{c:ao}{l:aa}(hc:bC c)(hl:l.ok):Ux c l:=by
 have hr:=qn hc hl.rev;have hi:=qn hc hl
 cases h1:cp c l.rev with
 |false=>
  refine .left h1 fun p hp=>?_;have hn: ¬ ∃q,bu c q/\l.value q<0:=by
   rintro ⟨q,a,b⟩;have:=hr.2 ⟨q,a,by rw[fe];grind⟩;rw[h1] at this;exact absurd this (by decide)
  have n1: ¬l.value p<0:=fun h=>hn ⟨p,hp,h⟩;have n2:l.value p≠0:=fun h=>hn (L8 hl hp h).2;grind
 |true=>
  cases h2:cp c l with
  |false=>
   refine .right h1 h2 fun p hp=>?_;have hn: ¬ ∃q,bu c q/\0<l.value q:=by
    intro h;have:=hi.2 h;rw[h2] at this;exact absurd this (by decide)
   have n1: ¬0<l.value p:=fun h=>hn ⟨p,hp,h⟩;have n2:l.value p≠0:=fun h=>hn (L8 hl hp h).1;grind
  |true=>
   obtain⟨g1,e1⟩:=gG hc hl h2;obtain⟨g2,e2⟩:=gG hc hl.rev h1;refine .both h1 h2 g1 g2 e1 fun p=>?_;rw[e2,fe];constructor<;>rintro ⟨a,b⟩<;>exact⟨a,by grind⟩
def Tr.restrict_A{l:aa}(X Y:Tr)(h:cp e l.rev=false):(Tr.node l X Y).restrict e=X.restrict e:=by
 rw[Tr.restrict,h];rfl
def Tr.restrict_B{l:aa}(X Y:Tr)(h:cp e l.rev=true)(h2:cp e l=false):(Tr.node l X Y).restrict e=Y.restrict e:=by
 rw[Tr.restrict,h,h2];rfl
def Tr.restrict_C{l:aa}(X Y:Tr)(h:cp e l.rev=true)(h2:cp e l=true):(Tr.node l X Y).restrict e=Tr.joinQ l (X.restrict (bE e l)) (Y.restrict (bE e l.rev)):=by
 rw[Tr.restrict,h,h2];rfl
def fj:List aa->ao->Option ao
 |[],c=>some c
 |l::t,c=>if cp c l then fj t (bE c l) else none
def Bl: ∀{ls:List aa} {c e:ao},bC c->(∀l∈ls,l.ok)->fj ls c=some e->bC e/\ ∀p,bu e p↔bu c p/\ ∀l∈ls,0<l.value p
 |[],c,e,hc,_,h=>by
  obtain rfl:c=e:=by simpa[fj] using h
  exact⟨hc,fun p=>⟨fun h=>⟨h,fun l hl=>absurd hl (by simp)⟩,fun h=>h.1⟩⟩
 |l::t,c,e,hc,hl,h=>by
  have hl':=dW.1 hl;rw[fj] at h;split at h
  .rename_i hb
   obtain⟨g1,g2⟩:=gG hc hl'.1 hb;obtain⟨k1,k2⟩:=Bl g1 hl'.2 h;refine⟨k1,fun p=>?_⟩;rw[k2,g2,dW,and_assoc]
  .exact absurd h (by simp)
def De: ∀{ls:List aa} {c:ao},bC c->(∀l∈ls,l.ok)->(∃p,bu c p/\ ∀l∈ls,0<l.value p)-> ∃e,fj ls c=some e
 |[],c,_,_,_=>⟨c,J⟩
 |l::t,c,hc,hl,⟨p,h1,h2⟩=>by
  have hl':=dW.1 hl;have h2':=dW.1 h2;have hb:=(qn hc hl'.1).2 ⟨p,h1,h2'.1⟩;obtain⟨g1,g2⟩:=gG hc hl'.1 hb;rw[fj,if_pos hb];exact De g1 hl'.2 ⟨p,(g2 p).2 ⟨h1,h2'.1⟩,h2'.2⟩
def L5{c:ao}(hc:bC c){s:bA}(hs:s∈c)(hm:m.ok)(h: ∀p,bu c p->0<m.value p)(hz:m.value (s.l.at s.v.sample)=0):m=s.l:=by
 obtain⟨p1,p2⟩:=hc.edge s hs;have hi:=nD p1;have hge: ∀t,s.v.has t->0<=m.value (s.l.at t):=fun t ht=>sr hc.ne h ((p2 t).1 ht);obtain⟨⟨u1,m1,n1⟩,⟨u2,m2,n2⟩⟩:=Gl hi;have g1:=hge _ n1;have g2:=hge _ n2;rw[li] at hz g1 g2;have hK:s.l.cutK m=0:=by
  rcases j0 (s.l.cutK m) with h|h|h
  .exact h
  .exfalso
   have:=dd (a:=s.v.sample-u1) (b:=s.l.cutK m) (by grind) h;grind
  .exfalso
   have:=dd (a:=u2-s.v.sample) (b:= -s.l.cutK m) (by grind) (by grind);grind
 have hz2: ∀t,m.value (s.l.at t)=0:=fun t=>by rw[li,hK];rw[hK] at hz;grind
 rcases w8 hm (hc.ok s hs) hz2 with h'|h'
 .exact h'
 .exfalso
  obtain⟨q,hq⟩:=hc.ne;have:=h q hq;rw[h',fe] at this;have:=hq s hs;grind
def fH(l:aa):List aa->ar->Option ar
 |[],v=>some v
 |m::t,v=>if m=l then fH l t v else if l.cutB v m then fH l t (l.cutV v m) else none
def f9(c:List aa)(p:ah):Prop:= ∀m∈c,0<m.value p
def BP(l:aa): ∀(c:List aa) (v w:ar),v.Pos->fH l c v=some w->
  w.Pos/\(∀t,w.ins t↔v.ins t/\ ∀m∈c,m≠l->0<m.value (l.at t))
 |[],v,w,hv,h=>by
  obtain rfl:v=w:=by simpa[fH] using h
  exact⟨hv,fun t=>⟨fun h=>⟨h,fun s hs=>absurd hs (by simp)⟩,fun h=>h.1⟩⟩
 |m::c,v,w,hv,h=>by
  rw[fH] at h;split at h
  .rename_i hm
   obtain⟨h1,h2⟩:=BP l c _ w hv h;refine⟨h1,fun t=>?_⟩;rw[h2,dW];exact⟨fun h=>⟨h.1,fun h'=>absurd hm h',h.2⟩,fun h=>⟨h.1,h.2.2⟩⟩
  .rename_i hm
   split at h
   .rename_i hb
    obtain⟨h1,h2⟩:=BP l c _ w (BD hv hb) h;refine⟨h1,fun t=>?_⟩;rw[h2,Lk hb,dW,and_assoc];exact⟨fun h=>⟨h.1,fun _=>h.2.1,h.2.2⟩,fun h=>⟨h.1,h.2.1 hm,h.2.2⟩⟩
   .exact absurd h (by simp)
def HZ(l:aa): ∀(c:List aa) (v:ar),v.Pos->fH l c v=none-> ∀t,v.has t-> ¬ ∀m∈c,m≠l->0<m.value (l.at t)
 |[],v,hv,h=>by simp[fH] at h
 |m::c,v,hv,h=>by
  intro t ht hd;have hd':=dW.1 hd;rw[fH] at h;split at h
  .exact HZ l c _ hv h t ht hd'.2
  .rename_i hm
   split at h
   .rename_i hb
    exact HZ l c _ (BD hv hb) h t ((Cm hb t).2 ⟨ht,dQ (hd'.1 hm)⟩) hd'.2
   .rename_i hb
    have:=HG hv (by simpa using hb) ht;have:=hd'.1 hm;grind
def lg(c:List aa):Bool:=c.isEmpty||c.any (fun l=>(fH l c ar.all).isSome)
def Ro: ∀{ls:List aa} {c e:ao},fj ls c=some e-> ∀s∈e,s.l∈ls\/ ∃s'∈c,s'.l=s.l
 |[],c,e,h,s,hs=>by
  obtain rfl:c=e:=by simpa[fj] using h
  exact .inr ⟨s,hs,J⟩
 |l::t,c,e,h,s,hs=>by
  rw[fj] at h;split at h
  .rcases Ro h s hs with h1|⟨s',h1,h2⟩
   .exact .inl (aJ _ h1)
   .unfold bE at h1
    split at h1
    .rcases pO.1 h1 with rfl|h1
     .exact .inl (by rw[<-h2];exact aQ)
     .obtain⟨s1,m1,_,rfl⟩:=r5.1 h1
      exact .inr ⟨s1,m1,h2⟩
    .exact .inr ⟨s',h1,h2⟩
  .exact absurd h (by simp)
def Fj{c:List aa}(hok: ∀l∈c,l.ok)(hne: ∃p,f9 c p): ∃e,fj c []=some e/\bC e/\(∀p,bu e p↔f9 c p)/\ ∀s∈e,s.l∈c/\(fH s.l c ar.all).isSome=true:=by
 obtain⟨p,hp⟩:=hne;obtain⟨e,he⟩:=De bC.nil hok ⟨p,fun s hs=>absurd hs (by simp),hp⟩;obtain⟨g1,g2⟩:=Bl bC.nil hok he;have g3: ∀p,bu e p↔f9 c p:=fun p=>by
  rw[g2];exact⟨fun h=>h.2,fun h=>⟨fun s hs=>absurd hs (by simp),h⟩⟩
 refine⟨e,he,g1,g3,fun s hs=>?_⟩;have hm:s.l∈c:=by
  rcases Ro he s hs with h|⟨_,h,_⟩
  .exact h
  .exact absurd h (by simp)
 refine⟨hm,?_⟩
 cases hp:fH s.l c ar.all with
 |some w=>rfl
 |none=>
  exfalso;obtain⟨p1,p2⟩:=g1.edge s hs;have hC:=(p2 s.v.sample).1 (nD p1).has;refine HZ s.l c _ yr hp s.v.sample (HD _) fun m hmc hne=>?_;have hall: ∀p,bu e p->0<m.value p:=fun p hp=>(g3 p).1 hp m hmc;have h0:=sr g1.ne hall hC;have h1:m.value (s.l.at s.v.sample)≠0:=fun hz=>hne (L5 g1 hs (hok m hmc) hall hz);grind
def FG{c:List aa}(hok: ∀l∈c,l.ok):lg c=true↔ ∃p,f9 c p:=by
 unfold lg;rw[fN,pM,iR];constructor
 .rintro (rfl|⟨l,hl,h⟩)
  .exact⟨⟨0,0⟩,fun m hm=>absurd hm (by simp)⟩
  .obtain⟨w,hw⟩:=qU.1 h
   obtain⟨w1,w2⟩:=BP l c _ w yr hw;have hi:=((w2 w.sample).1 (nD w1)).2;have h0:=lE (hok l hl).ne w.sample;have hd:bu ((c.filter (fun m=>decide (m≠l))).map (fun m=>(⟨m,ar.all⟩:bA))) (l.at w.sample):=by
    intro s hs;obtain⟨m,hm,rfl⟩:=aT.1 hs;rw[pZ,decide_eq_true_iff] at hm;exact hi m hm.1 hm.2
   obtain⟨e,he,ho⟩:=hd.open l.nor;refine⟨cF (l.at w.sample) l.nor e,fun m hm=>?_⟩;by_cases hml:m=l
   .subst hml
    rw[jc,h0];have:=dd he (mG (hok m hl).ne);grind
   .exact ho e (dQ he) iW ⟨m,ar.all⟩ (aT.2 ⟨m,pZ.2 ⟨hm,by simpa using hml⟩,J⟩)
 .intro hne
  obtain⟨e,h1,h2,h3,h4⟩:=Fj hok hne
  cases c with
  |nil=>exact .inl J
  |cons l c=>
   right
   cases e with
   |nil=>
    exfalso;have:=(h3 (l.at 0)).1 (fun s hs=>absurd hs (by simp)) l aQ;rw[lE (hok l aQ).ne] at this;exact absurd this (by decide)
   |cons s e=>
    obtain⟨a,b⟩:=h4 s aQ;exact⟨s.l,a,b⟩
def m7(out:List aa)(l:aa):Nat:=(out.takeWhile (fun x=>decide (gc x.dir l.dir<0))).length
def pe(out:List aa)(l:aa):List aa:=if out[m7 out l]? =some l then out else out.take (m7 out l)++l::out.drop (m7 out l)
def m9(c:List aa):List aa->List aa->List aa
 |[],out=>out
 |l::t,out=>m9 c t (if(fH l c ar.all).isSome then pe out l else out)
def fP(c:List aa):List aa:=m9 c c []
def FY{out:List aa}{l:aa}:m∈pe out l↔m=l\/m∈out:=by
 unfold pe;split
 .rename_i h
  exact⟨fun h=> .inr h,fun h'=>h'.elim (fun e=>e▸aK h) id⟩
 .generalize m7 out l=n
  have h:=kX n out;rw[bJ,aW];constructor
  .rintro (h1|h1|h1)
   .exact .inr (eM h1)
   .exact .inl h1
   .exact .inr (gW h1)
  .rintro (h1|h1)
   .exact .inr (.inl h1)
   .rw[<-h,bJ] at h1
    rcases h1 with h1|h1
    .exact .inl h1
    .exact .inr (.inr h1)
def Mw{c:List aa}{m:aa}: ∀{t out:List aa},m∈m9 c t out↔m∈out\/m∈t/\(fH m c ar.all).isSome=true
 |[],out=>by simp[m9]
 |l::t,out=>by
  rw[m9,Mw];split
  .rename_i h
   rw[FY,aW];constructor
   .rintro ((rfl|h1)|⟨h1,h2⟩)
    .exact .inr ⟨.inl J,h⟩
    .exact .inl h1
    .exact .inr ⟨.inr h1,h2⟩
   .rintro (h1|⟨rfl|h1,h2⟩)
    .exact .inl (.inr h1)
    .exact .inl (.inl J)
    .exact .inr ⟨h1,h2⟩
  .rename_i h
   rw[aW];constructor
   .rintro (h1|⟨h1,h2⟩)
    .exact .inl h1
    .exact .inr ⟨.inr h1,h2⟩
   .rintro (h1|⟨rfl|h1,h2⟩)
    .exact .inl h1
    .exact absurd h2 h
    .exact .inr ⟨h1,h2⟩
def pz{c:List aa}:m∈fP c↔m∈c/\(fH m c ar.all).isSome=true:=by
 unfold fP;rw[Mw];simp
def OV{c:List aa}(hok: ∀l∈c,l.ok)(hne: ∃p,f9 c p)(p:ah):f9 (fP c) p↔f9 c p:=by
 constructor
 .intro h
  obtain⟨e,h1,h2,h3,h4⟩:=Fj hok hne;exact(h3 p).1 fun s hs=>h s.l (pz.2 (h4 s hs))
 .intro h m hm;exact h m (pz.1 hm).1
def se(c:List aa)(l:aa):Int:=if lg (c++[l])&&lg (c++[l.rev]) then 0 else if lg (c++[l]) then 1 else-1
def Tr.restrictL:Tr->List aa->Tr
 | .leaf b,_=> .leaf b
 | .node l x y,c=>if se c l=1 then x.restrictL c else if se c l= -1 then y.restrictL c else joinQ l (x.restrictL (fP (c++[l]))) (y.restrictL (fP (c++[l.rev])))
def um{c:List aa}{l:aa}:f9 (c++[l]) p↔f9 c p/\0<l.value p:=by
 unfold f9;rw[sQ];simp
def nn{c:List aa}{l:aa}(hok: ∀m∈c,m.ok)(hl:l.ok): ∀m∈c++[l],m.ok:=by
 rw[sQ];exact⟨hok,by simpa using hl⟩
def Tr.restrictL_eq: ∀(t:Tr) (c:List aa) (d:ao),t.all aa.ok->(∀l∈c,l.ok)->bC d->(∀p,bu d p↔f9 c p)->t.restrictL c=t.restrict d
 | .leaf b,c,d,_,_,_,_=>rfl
 | .node l x y,c,d,h,hc,hd,he=>by
  obtain⟨hl,hx,hy⟩:=h;have i1:=FG (nn hc hl);have i2:=FG (nn hc hl.rev);obtain⟨p0,hp0⟩:=hd.ne;rcases Bb hd hl with⟨a1,a⟩|⟨a1,a2,a⟩|⟨a1,a2,ag1,ag2,ae1,ae2⟩
  .have b1:lg (c++[l])=true:=i1.2 ⟨p0,um.2 ⟨(he p0).1 hp0,a p0 hp0⟩⟩
   have b2:lg (c++[l.rev])=false:=by
    rw[<-jR,i2];rintro ⟨p,hp⟩;have hp:=um.1 hp;have:=a p ((he p).2 hp.1);rw[fe] at hp;grind
   rw[Tr.restrict_A _ _ a1,Tr.restrictL,se,b1,b2];exact x.restrictL_eq c d hx hc hd he
  .have b2:lg (c++[l.rev])=true:=i2.2 ⟨p0,um.2 ⟨(he p0).1 hp0,by rw[fe];have:=a p0 hp0;grind⟩⟩
   have b1:lg (c++[l])=false:=by
    rw[<-jR,i1];rintro ⟨p,hp⟩;have hp:=um.1 hp;have:=a p ((he p).2 hp.1);grind
   rw[Tr.restrict_B _ _ a1 a2,Tr.restrictL,se,b1,b2];exact y.restrictL_eq c d hy hc hd he
  .have n1: ∃p,f9 (c++[l]) p:=by
    obtain⟨p,hp⟩:=ag1.ne;exact⟨p,um.2 ⟨(he p).1 ((ae1 p).1 hp).1,((ae1 p).1 hp).2⟩⟩
   have n2: ∃p,f9 (c++[l.rev]) p:=by
    obtain⟨p,hp⟩:=ag2.ne;exact⟨p,um.2 ⟨(he p).1 ((ae2 p).1 hp).1,by rw[fe];have:=((ae2 p).1 hp).2;grind⟩⟩
   rw[Tr.restrict_C _ _ a1 a2,Tr.restrictL,se,i1.2 n1,i2.2 n2];have k1:=x.restrictL_eq (fP (c++[l])) (bE d l) hx (fun m hm=>nn hc hl m (pz.1 hm).1) ag1 fun p=>by
    rw[OV (nn hc hl) n1,ae1,um,he]
   have k2:=y.restrictL_eq (fP (c++[l.rev])) (bE d l.rev) hy (fun m hm=>nn hc hl.rev m (pz.1 hm).1) ag2 fun p=>by
    rw[OV (nn hc hl.rev) n2,ae2,um,he,fe];constructor<;>rintro ⟨a,b⟩<;>exact⟨a,by grind⟩
   rw[k1,k2];rfl
def crossI(l m:aa):Int:=l.a*m.b-m.a*l.b
def meetX(l m:aa):Int:=l.b*m.c-m.b*l.c
def meetY(l m:aa):Int:=m.a*l.c-l.a*m.c
def cP(l m:aa):ah:=if crossI l m=0 then⟨0,0⟩ else⟨(meetX l m:Rat)/(crossI l m:Rat),(meetY l m:Rat)/(crossI l m:Rat)⟩
def ja(l:aa)(p:ah):Rat:=p.dot l.dir/l.dir.dot l.dir
def H3(l:aa):l.dir.dot l.dir=l.nor.dot l.nor:=by
 simp only[aa.dir,aa.nor,ah.dot];grind
def Bc{l:aa}(h:l.Ne):0<l.dir.dot l.dir:=by rw[H3];exact mG h
def vi(l m:aa):((crossI l m:Int):Rat)=(l.a:Rat)*m.b-(m.a:Rat)*l.b:=by
 unfold crossI;rw[iK,cZ,cZ]
def IB(l m:aa):((meetX l m:Int):Rat)=(l.b:Rat)*m.c-(m.b:Rat)*l.c:=by
 unfold meetX;rw[iK,cZ,cZ]
def QO(l m:aa):((meetY l m:Int):Rat)=(m.a:Rat)*l.c-(l.a:Rat)*m.c:=by
 unfold meetY;rw[iK,cZ,cZ]
def D5(l m:aa):l.cutK m= -((crossI l m:Int):Rat):=by
 rw[vi];simp only[aa.cutK,aa.nor,aa.dir,ah.dot];grind
def NK(l m:aa):m.dir.cross l.dir=l.cutK m:=by
 simp only[aa.cutK,aa.nor,aa.dir,ah.dot,ah.cross];grind
def Mc{l:aa}:(⟨-((l.c:Rat)/l.dir.dot l.dir)*(l.a:Rat), -((l.c:Rat)/l.dir.dot l.dir)*(l.b:Rat)⟩:ah)=l.base:=by
 unfold aa.base;rw[H3];simp only[aa.nor,ah.scale,ah.mk.injEq];constructor<;>grind
def wW(l:aa)(t:Rat):cF l.base l.dir t=l.at t:=by
 simp only[cF,aa.at,ah.add,ah.scale,ah.mk.injEq];constructor<;>grind
def CM{l:aa}(hl:l.Ne)(h:crossI l m≠0):ja l (cP l m)= -(l.cutC m/l.cutK m):=by
 have hd:((crossI l m:Int):Rat)≠0:=fun e=>h (cY.1 e);have hn:=Bc hl;obtain⟨q,q1,q2⟩:=AY hl;rw[D5];unfold ja cP aa.cutC;rw[if_neg h,q2,jd,IB,QO];have hc:=vi l m;rw[H3] at hn⊢;simp only[aa.dir,aa.nor,ah.dot] at hn q1⊢;generalize ((crossI l m:Int):Rat)=d at*;generalize (l.a:Rat)=a at*;generalize (l.b:Rat)=b at*;generalize (l.c:Rat)=c at*;generalize (m.a:Rat)=x at*;generalize (m.b:Rat)=y at*;generalize (m.c:Rat)=z at*;have hn':a*a+b*b≠0:=by grind
 have e:((b*z-y*c)/d*b+(x*c-a*z)/d* -a)=((b*z-y*c)*b-(x*c-a*z)*a)/d:=by grind
 rw[e];have k1:(b*z-y*c)*b-(x*c-a*z)*a=(a*a+b*b)*(x*(a*q)+y*(b*q)+z):=by grind
 rw[k1];grind
def asL{l:aa}(hl:l.Ne)(h:crossI l m≠0):ja l (cP l m)*((crossI l m*(l.a*l.a+l.b*l.b):Int):Rat)=((meetX l m*l.b-meetY l m*l.a:Int):Rat):=by
 have hd:((crossI l m:Int):Rat)≠0:=fun e=>h (cY.1 e);have hn:=Bc hl;unfold ja cP;rw[if_neg h];simp only[cZ,iK,lV];simp only[aa.dir,ah.dot] at hn⊢;generalize ((crossI l m:Int):Rat)=d at*;generalize ((meetX l m:Int):Rat)=x at*;generalize ((meetY l m:Int):Rat)=y at*;generalize (l.a:Rat)=a at*;generalize (l.b:Rat)=b at*;have hn':b*b+ -a* -a≠0:=by grind
 grind
def Jq(l m:aa)(t:List aa)(v:ar):fH l (m::t) v=if m=l then fH l t v else if l.cutB v m then fH l t (l.cutV v m) else none:=rfl
def oH(v:ar)(t:Rat):ar:=if v.nl=true\/0<bw t v.lo then⟨t,v.hi,false,v.nh⟩ else v
def oA(v:ar)(t:Rat):ar:=if v.nh=true\/bw t v.hi<0 then⟨v.lo,t,v.nl,false⟩ else v
structure gy (v:ar):Prop where
 lo:v.nl=true->v.lo=0
 hi:v.nh=true->v.hi=0
def Yh(a b:Rat):0<bw a b↔b<a:=by
 unfold bw;split
 .constructor
  .intro h;exact absurd h (by decide)
  .intro h;grind
 .split
  .exact⟨fun _=>by assumption,fun _=>by decide⟩
  .constructor
   .intro h;exact absurd h (by decide)
   .intro h;exact absurd h (by assumption)
def FO(a b:Rat):bw a b<0↔a<b:=by
 unfold bw;split
 .exact⟨fun _=>by assumption,fun _=>by decide⟩
 .split
  .constructor
   .intro h;exact absurd h (by decide)
   .intro h;grind
  .constructor
   .intro h;exact absurd h (by decide)
   .intro h;exact absurd h (by assumption)
def PU{v:ar}(h:gy v)(t:Rat):oH v t=v.meet ⟨t,0,false,true⟩:=by
 obtain⟨lo,hi,nl,nh⟩:=v;obtain⟨h1,h2⟩:=h;unfold oH ar.meet;simp only[Yh] at*
 cases nl<;>cases nh<;>simp at* <;>(try (split<;>split<;>simp_all<;>grind))<;>grind
def Rt{v:ar}(h:gy v)(t:Rat):oA v t=v.meet ⟨0,t,true,false⟩:=by
 obtain⟨lo,hi,nl,nh⟩:=v;obtain⟨h1,h2⟩:=h;unfold oA ar.meet;simp only[FO] at*
 cases nl<;>cases nh<;>simp at* <;>(try (split<;>split<;>simp_all<;>grind))<;>grind
def gy.all:gy ar.all:=⟨fun _=>J,fun _=>J⟩
def gy.lo'{v:ar}(h:gy v)(t:Rat):gy (oH v t):=by
 obtain⟨lo,hi,nl,nh⟩:=v;unfold oH;split
 .exact⟨fun h=>by simp at h,h.hi⟩
 .exact h
def gy.hi'{v:ar}(h:gy v)(t:Rat):gy (oA v t):=by
 obtain⟨lo,hi,nl,nh⟩:=v;unfold oA;split
 .exact⟨h.lo,fun h=>by simp at h⟩
 .exact h
def At{l:aa}{v:ar}(h:crossI l m=0):l.cutV v m=v/\(l.cutB v m=true↔0<m.value l.base):=by
 have hk:l.cutK m=0:=by rw[D5,h];rfl
 exact Bg v hk
def aDw{l:aa}{v:ar}(hl:l.Ne)(hz:gy v)(h:0<m.dir.cross l.dir):crossI l m≠0/\l.cutV v m=oH v (ja l (cP l m))/\l.cutB v m=!(oH v (ja l (cP l m))).empty:=by
 rw[NK] at h;have hc:crossI l m≠0:=fun e=>by rw[D5,e] at h;exact absurd h (by decide)
 obtain⟨h1,h2⟩:=BA v h;refine⟨hc,?_,?_⟩
 .rw[PU hz,CM hl hc,h1]
 .rw[PU hz,CM hl hc,<-h1]
  rw[<-Ey] at h2
  cases hb:l.cutB v m<;>cases he:(l.cutV v m).empty<;>simp_all
def Xb{l:aa}{v:ar}(hl:l.Ne)(hz:gy v)(h0:crossI l m≠0)(h: ¬0<m.dir.cross l.dir):l.cutV v m=oA v (ja l (cP l m))/\l.cutB v m=!(oA v (ja l (cP l m))).empty:=by
 rw[NK] at h;have hk:l.cutK m≠0:=fun e=>by
  rw[D5] at e;have:((crossI l m:Int):Rat)=0:=by grind
  exact h0 (cY.1 this)
 obtain⟨h1,h2⟩:=Bn (l:=l) (m:=m) v (by grind);refine⟨?_,?_⟩
 .rw[Rt hz,CM hl h0,h1]
 .rw[Rt hz,CM hl h0,<-h1]
  rw[<-Ey] at h2
  cases hb:l.cutB v m<;>cases he:(l.cutV v m).empty<;>simp_all
def relo(fl:Nat->Bool)(o:aA):aA:={o with lo:=fl o.b}
structure gt (P:Program) (f:FuncId) (vs:List Value) (M:List aA) (G:Gh) (K:Value->List aA->Gh->Prop):Prop where
 able:rB P f
 run: ∀w,bF ⟨w,G,M.map (·.b),[],[],none,fun _=>none⟩ (asB M) G w->
  Calls P f ⟨vs⟩ w fun e w'=> ∃v own' G',e= .returned v/\bF ⟨w,G,M.map (·.b),[],[],none,fun _=>none⟩ own' G' w'/\K v own' G'
def fC(M:List aA)(b:Nat):Bool:=M.all fun m=>!Nat.beq m.b b||m.lo
def bF.calledO(h:bF C (M++rest) G w)(k:bF ⟨w,G,M.map (·.b),[],[],none,fun _=>none⟩ own' G' w'):
  bF C (own'.map (relo (fC M))++rest) G' w':=by
 have hsz:w.heap.size<=w'.heap.size:=k.size;have hnd:=h.nd;have inM: ∀b,b∈M.map (·.b)-> ∀o∈rest,o.b≠b:=fun b hb o ho e=>by
  obtain⟨m,hm,rfl⟩:=aT.1 hb;exact(fS.1 hnd).2.2 m hm o ho e.symm
 have bnd: ∀o∈own',o.b∉M.map (·.b)->w.heap.size<=o.b:=fun o ho hb=>by
  obtain⟨_,_,h3,h4⟩:=k.hown o ho
  cases hlo:o.lo with
  |true=>exact h3 hlo
  |false=>exact absurd (h4 hlo) hb
 refine⟨k.os.trans h.os,k.tape.trans h.tape,k.output.trans h.output,cN h.size hsz,?_,k.sub,h.gle.trans k.gle,?_,?_,?_,cN h.dr k.dr,fun p hp=>⟨(h.ext p hp).1,by rw[k.keep _ (ip (h.ext p hp).2) (h.extM hp)];exact(h.ext p hp).2⟩⟩
 .intro b hb hm
  have hs:=h.size;have hnM:b∉M.map (·.b):=fun hb'=>by
   obtain⟨m,hmM,rfl⟩:=aT.1 hb';obtain⟨_,_,h3,h4⟩:=h.hown m (bR _ hmM)
   cases hlo:m.lo with
   |true=>have:=h3 hlo;omega
   |false=>exact hm (h4 hlo)
  rw[k.keep b (by show b<w.heap.size;omega) hnM];exact h.keep b hb hm
 .intro b hb;have:=h.size;rw[k.gold b (by show b<w.heap.size;omega)];exact h.gold b hb
 .intro o ho
  have hs:=h.size;rcases bJ.1 ho with ho|ho
  .obtain⟨o',ho',rfl⟩:=aT.1 ho
   obtain⟨k1,k2,k3,k4⟩:=k.hown _ ho';refine⟨k1,k2,fun hl=>?_,fun hl=>?_⟩
   .show C.w0.heap.size<=o'.b
    by_cases hb:o'.b∈M.map (·.b)
    .obtain⟨m,hm,hmb⟩:=aT.1 hb
     have hl':fC M o'.b=true:=hl;have:=dJ.1 hl' m hm;simp only[hmb,fN,gM,lM] at this;obtain⟨_,_,h3,_⟩:=h.hown m (bR _ hm);rw[<-hmb];exact h3 (by rcases this with h|h;(cases h);(exact h))
    .have:=bnd o' ho' hb;omega
   .show o'.b∈C.mb
    have hl':fC M o'.b=false:=hl;obtain⟨m,hm,hmb⟩:=sZ.1 hl';simp only[fN,gM,not_or] at hmb;obtain⟨h1,h2⟩:=hmb;have e:m.b=o'.b:=by
     cases hq:Nat.beq m.b o'.b with
     |true=>exact aN hq
     |false=>exact absurd hq h1
    obtain⟨_,_,_,h4⟩:=h.hown m (bR _ hm);rw[<-e];exact h4 (by cases hq:m.lo with
     |true=>exact absurd hq h2
     |false=>rfl)
  .obtain⟨h1,h2,h3⟩:=h.hown o (bV _ ho)
   have hnM:o.b∉M.map (·.b):=fun hb=>inM _ hb o ho J;exact⟨by rw[k.keep _ (ip h1) hnM];exact h1,by rw[k.gold _ (ip h1)];exact h2,h3⟩
 .refine fS.2 ⟨?_,(fS.1 hnd).2.1,?_⟩
  .rw[List.pairwise_map];exact k.nd
  .intro x hx y hy
   obtain⟨o',ho',rfl⟩:=aT.1 hx;show o'.b≠y.b;by_cases hb:o'.b∈M.map (·.b)
   .exact fun e=>inM _ hb y hy e.symm
   .have h1:=bnd o' ho' hb
    have h2:=ip (h.hown y (bV _ hy)).1;omega
def qj(C:aF)(K:Value->List aA->Gh->Prop):Ending->World->Prop:=fun e w'=> ∃v own' G',e= .returned v/\bF C own' G' w'/\K v own' G'
def gt.introR{fn:Func}{c:Code}{m:Nat}(hf:P.funcs[f]? =some fn)(hb:fn.body=some c)(hn:(fn.name== "runtime.NumGoroutine")=false)(hm:fn.ntmps=m)(hlen:Nat.ble vs.length m=true)
  (h: ∀C:aF,C.G0=G->C.mb=M.map (·.b)->C.rd=none->(C.fx=fun _=>none)->St C m (mO 0 vs) (asB M) G (c.wp P (eg C P fn (qj C K)))):gt P f vs M G K:=by
 refine⟨⟨fn,hf,hn,by simp[hb]⟩,fun w hw=>?_⟩;have hlen':vs.length<=m:=by simpa using hlen
 have:=calls_of_wp (P:=P) (f:=f) (args:=⟨vs⟩) (w:=w) (R:=qj ⟨w,G,M.map (·.b),[],[],none,fun _=>none⟩ K) hf hb (wp_mono (h ⟨w,G,M.map (·.b),[],[],none,fun _=>none⟩ J J J J _ w
  ⟨hw,by simp;omega,fun k v hk=>by
   obtain⟨j,rfl,hj⟩:=vZ vs 0 k v hk;have hj':=(aR.1 hj).1;rw[lR (by simpa using hj')];simpa using hj,J⟩) fun _ _ _ k=>k J)
 exact this
def gt.intro{fn:Func}{c:Code}{m:Nat}(hf:P.funcs[f]? =some fn)(hb:fn.body=some c)(hn:(fn.name== "runtime.NumGoroutine")=false)(hm:fn.ntmps=m)(hlen:Nat.ble vs.length m=true)
  (h: ∀C:aF,C.G0=G->C.mb=M.map (·.b)->St C m (mO 0 vs) (asB M) G (c.wp P (eg C P fn (qj C K)))):gt P f vs M G K:=
 gt.introR hf hb hn hm hlen fun C a b _ _=>h C a b
section
variable {own:List aA}
variable {t:TypeId}{gd:Option (Nat×Bool)}
def vQ{fn:Func}(hr:jE P fr own fn.results.toList vs)(own2 own3:List aA)(hp:own.Perm own2)(hs:own3.Sublist own2)(hk:K (nv vs) own3 G):St C n fr own G (eg C P fn (qj C K) .ret):=
 fun a w rl hmk=>⟨rl.df.trans hmk,_,sA hr rl.fr rl.h,_,own3,G,J,(rl.h.perm hp).drop hs,hk⟩
def Mn(ho:aB fr fo=some (.func (.func f) ⟨c1⟩ ⟨c2⟩))(hv:fi fr args.toList=some vs)
  (hp:own.Perm (M++rest))(hF:gt P f (c1++vs++c2) M G K)(hd:ce n dst=true)(h: ∀v own1 (G':Gh),[GE G G']->K v own1 G'->St C n (put fr dst v) (own1.map (relo (fC M))++rest) G' Φ):
  Ch P C n fr own G ⟨dst, .call ⟨.value fo,args,tys⟩,ty',pos,af,gd⟩ Φ:=by
 intro a w Q rl;have h2:=DF (P:=P) (dst:=dst) (ty':=ty') (pos:=pos) (af:=af) (gd:=gd) (tys:=tys) (w:=w) hF.able rl.fr ho hv;simp only[Oper.wp,h2,Oper.upon];have hh0:=rl.h.perm hp;refine(hF.run w hh0.lend).mono ?_;rintro e w' ⟨v,own1,G',rfl,hh,hK⟩;exact @h v own1 G' ⟨hh.gle⟩ hK _ _ ((rl.heap (hh0.calledO hh)).put _ hd)
def uu(ho:aB fr fo=some (.func (.func f) #[] #[]))(hv:fi fr args.toList=some vs)
  (hp:own.Perm (M++rest))(hF:gt P f vs M G K)(hd:ce n dst=true)(h: ∀v own1 (G':Gh),[GE G G']->K v own1 G'->St C n (put fr dst v) (own1.map (relo (fC M))++rest) G' Φ):
  Ch P C n fr own G ⟨dst, .call ⟨.value fo,args,tys⟩,ty',pos,af,gd⟩ Φ:=
 Mn (c1:=[]) (c2:=[]) ho hv hp (by simpa using hF) hd h
def Vh{b:Nat}{cs:List Value}{lo:Bool}(hC:C.mb=[])(h:St C n fr (⟨b,cs,ty,true⟩::own) G Φ):St C n fr (⟨b,cs,ty,lo⟩::own) G Φ:=by
 intro a w rl
 cases lo with
 |true=>exact h a w rl
 |false=>
  have:=(rl.h.hown _ aQ).2.2.2 J;rw[hC] at this;cases this
end
section
variable {own:List aA}
variable {t:TypeId}{gd:Option (Nat×Bool)}{e:Nat}
def D2{v:Value}{b k:Nat}{cs:List Value}{lo:Bool}(hx:aB fr x=some (.pointer (some ⟨b,off,none⟩)))(hy:aB fr y=some v)[hs:ks P t k][ho:iB own b cs ty lo]
  (hc:cA cs off (aG v)=cs')(hu:ik own b cs ty lo cs' own')(hk:(aG v).length=k)(hl:off+k<=cs.length)(hf:(aG v).all flat=true)(hd:ce n dst=true)(h:St C n (put fr dst undef) own' G Φ):
  Ch P C n fr own G ⟨dst, .store t x y,ty',pos,af,gd⟩ Φ:=Dg hx hy (hc▸hu) hk hl hf hd h
def zh{v:Value}{b:Nat}{cs:List Value}{lo:Bool}(hx:aB fr x=some (.pointer (some ⟨b,off,none⟩)))(hy:aB fr y=some v)[hs:j' P t][ho:iB own b cs ty lo]
  (hc:cs.set off v=cs')(hu:ik own b cs ty lo cs' own')(hl:off<cs.length)(hf:flat v=true)(hd:ce n dst=true)(h:St C n (put fr dst undef) own' G Φ):
  Ch P C n fr own G ⟨dst, .store t x y,ty',pos,af,gd⟩ Φ:=ur hx hy (hc▸hu) hl hf hd h
def Zm[hT:cw P t e s by_]{len:Nat}(hx:aB fr x=some (.slice ad len cap)):
  Yd P C fr own G ⟨dst, .call ⟨.builtin .cap, #[x], #[t]⟩,ty',pos,af,gd⟩ (.int .i64 cap):=by
 intro a w hf hh;simp only[execOp,resolve,iT,bU,iZ,bB hf hx];have h1:(Builtin.cap_ #[t] ty' #[.slice ad len cap]).run P w= .ok (.int .i64 cap) w:=by
  simp only[Builtin.cap_];show(underlying t>>=_).run P w=_;rw[aP (hT.u w)];rfl
 exact c6 h1
def YP[hT:cw P t e s by_]{b l c c2 m:Nat}{cs:List Value}(hm:Nat.min l2 l=m)
  (hb:w.heap[b]? =some (.cells ⟨cs⟩ ty (0,0)))(hsy:(Builtin.firstCells s m (.slice ad2 l2 c2)).run P w= .ok ⟨ys⟩ w)(hf: ∀v∈ys,flat v=true)(hl:off+ys.length<=cs.length):
  (Builtin.copy_ #[t,t'] ty' #[.slice (some ⟨b,off,none⟩) l c, .slice ad2 l2 c2]).run P w=
   .ok (.int .i64 m) (gO w b (.cells ⟨cA cs off ys⟩ ty (0,0))):=by
 obtain⟨i,hi,his,hib⟩:=hT.info;subst his;have hst:=zj (P:=P) ys w off 0 cs hf hb (by omega);rw[gJ] at hst;subst hm;simp[Builtin.copy_,run_underlying hT.un,sizeOf,typeInfo,hi,Builtin.lenOf,hsy,hst];rfl
def SL[hT:cw P t e s by_]{b l c c2 m:Nat}{cs:List Value}{lo:Bool}(hx:aB fr x=some (.slice (some ⟨b,off,none⟩) l c))(hy:aB fr y=some (.slice ad2 l2 c2))
  (hm:Nat.min l2 l=m)(hsy:mm P C own G s m (.slice ad2 l2 c2) ys)(hf: ∀v∈ys,flat v=true)(hl:off+ys.length<=cs.length)(hu:ik own b cs ty lo (cA cs off ys) own')(hd:ce n dst=true)
  (h:St C n (put fr dst (.int .i64 m)) own' G Φ):Ch P C n fr own G ⟨dst, .call ⟨.builtin .copy, #[x,y], #[t,t']⟩,ty',pos,af,gd⟩ Φ:=by
 intro a w Q rl;have hb:=(rl.h.hown _ (hu.spec rl.h.nd).1).1;refine kr (v:= .int .i64 m) (w':=gO w b (.cells ⟨cA cs off ys⟩ ty (0,0))) ?_ (h _ _ ((rl.heap (rl.h.store hu)).put _ hd));simp only[execOp,resolve,iT,bU,iZ,bB rl.fr hx,bB rl.fr hy];exact c6 (YP hm hb (hsy w rl.h) hf hl)
def QL[hT:cw P t e s by_][hN:jn P t']{b len m:Nat}{cs:List Value}{lo:Bool}
  (hx:aB fr x=some (.slice (some ⟨b,0,none⟩) len cap))(hy:aB fr y=some (.slice ad2 m cap2))(hu:ik own b cs e lo (cA cs (len*s) ys) own')(hcs:cs.length=cap*s)
  (hsy:mm P C own G s m (.slice ad2 m cap2) ys)(hys:ys.length=m*s)(hf: ∀v∈ys,flat v=true)(hneed:len+m<=cap)(hd:ce n dst=true)
  (h:St C n (put fr dst (.slice (some ⟨b,0,none⟩) (len+m) cap)) own' G Φ):
  Ch P C n fr own G ⟨dst, .call ⟨.builtin .append, #[x,y], #[t,t']⟩,ty',pos,af,gd⟩ Φ:=by
 intro a w Q rl;have hb:=(rl.h.hown _ (hu.spec rl.h.nd).1).1;refine kr (v:= .slice (some ⟨b,0,none⟩) (len+m) cap) (w':=gO w b (.cells ⟨cA cs (len*s) ys⟩ e (0,0))) ?_ (h _ _ ((rl.heap (rl.h.store hu)).put _ hd));simp only[execOp,resolve,iT,bU,iZ,bB rl.fr hx,bB rl.fr hy];exact c6 (Iu hb hcs (hsy w rl.h) hys hf hneed)
def JM[hT:cw P t e s by_][hN:jn P t']{z:Value}[hz:gj P e z]{b len m:Nat}{rest:List Value}{lo:Bool}
  (hx:aB fr x=some (.slice (some ⟨b,0,none⟩) len cap))(hy:aB fr y=some (.slice ad2 m cap2))(hr:jq own ⟨b,xs++rest,e,lo⟩ own1)(hxs:xs.length=len*s)(hcap:xs.length+rest.length=cap*s)(hlc:len<=cap)
  (hsy:mm P C own G s m (.slice ad2 m cap2) ys)(hys:ys.length=m*s)(hf: ∀v∈ys,flat v=true)
  (hby:0<by_)(hb:(len+m)*by_<=140737488355328)(hzs:(aG z).length=s)(hd:ce n dst=true)
  (h: ∀b lo' cap' rest',len+m<=cap'->rest'.length+(len+m)*s=cap'*s->St C n (put fr dst (.slice (some ⟨b,0,none⟩) (len+m) cap')) (⟨b,xs++ys++rest',e,lo'⟩::own1) G Φ):
  Ch P C n fr own G ⟨dst, .call ⟨.builtin .append, #[x,y], #[t,t']⟩,ty',pos,af,gd⟩ Φ:=by
 intro a w Q rl;have hp:=rl.h.perm hr.perm;have hblk:=(hp.hown _ aQ).1;simp only[] at hblk;by_cases hneed:len+m<=cap
 .have hcs:(xs++rest).length=cap*s:=by simp;omega
  have hrun:=Iu (P:=P) (t:=t) (t':=t') (ty':=ty') (w:=w) (len:=len) hblk hcs (hsy w rl.h) hys hf hneed;have hle:len*s+m*s<=cap*s:=by rw[<-dY];exact bS _ hneed
  have hov:cA (xs++rest) (len*s) ys=xs++ys++rest.drop (m*s):=by
   rw[pq _ _ _ (by rw[hys];omega),<-hxs];simp[hys,nK]
  refine kr (v:= .slice (some ⟨b,0,none⟩) (len+m) cap) (w':=gO w b (.cells ⟨cA (xs++rest) (len*s) ys⟩ e (0,0))) ?_ ?_
  .simp only[execOp,resolve,iT,bU,iZ,bB rl.fr hx,bB rl.fr hy]
   exact c6 hrun
  .rw[hov]
   refine h b lo cap (rest.drop (m*s)) hneed ?_ _ _ ((rl.heap (hp.store (.hd ..))).put _ hd);rw[gV,dY];omega
 .have hx':mm P C own G s len (.slice (some ⟨b,0,none⟩) len cap) xs:=fun w' hw'=>by
   have hb':=(((hw'.perm hr.perm).hown _ aQ).1);refine Fk hb' ?_;rw[kH _ _ _ (by simp;omega),<-hxs];simp
  have hcap':len+m<=grownCap w (len+m) cap e:=by unfold grownCap;simp only[Question.cut];omega
  have hrun:=Gt (P:=P) (t:=t) (t':=t') (ty':=ty') (w:=w) (w':=w) (hx' _ rl.h.drew) (hsy _ rl.h.drew) (by omega) hby hb;refine kr (v:= .slice (some ⟨w.heap.size,0,none⟩) (len+m) (grownCap w (len+m) cap e)) (w':=w.drew.alloc (.cells ⟨xs++ys++dm z (grownCap w (len+m) cap e-(len+m))⟩ e)) ?_ ?_
  .simp only[execOp,resolve,iT,bU,iZ,bB rl.fr hx,bB rl.fr hy]
   exact c6 hrun
  .refine h w.heap.size _ _ _ hcap' ?_ _ _ ((rl.heap (((hp.drew).drop (nZ _ _)).alloc _ _)).put _ hd)
   rw[oh,hzs,<-dY];congr 1;omega
def apU{fn:Func}(hf:P.funcs[f]? =some fn)(hname:(fn.name== "runtime.NumGoroutine")=false)(hb:fn.body.isNone=true)(hn:Extern.findNext fn=none)
  (he:Extern.find fn=some (Extern.SlicesOverlaps.overlaps #[tS,tS] #[tR]))[hT:cw P tS e s by_]
  {b1 b2 o1 o2 l1 c1 c2:Nat}{lo1 lo2:Bool}(ho:aB fr fo=some (.func (.func f) #[] #[]))
  (hv:fi fr args.toList=some [.slice (some ⟨b1,o1,none⟩) l1 c1, .slice (some ⟨b2,o2,none⟩) l2 c2])[h1:iB own b1 cs1 t1 lo1][h2:iB own b2 cs2 t2 lo2](hne:b1≠b2)(hc2:cs2≠[]):
  Yd P C fr own G ⟨dst, .call ⟨.value fo,args,tys⟩,ty',pos,af,gd⟩ (.bool false):=by
 intro a w hfr hh;have e1:=(hh.hown _ h1.mem).1;have e2:=(hh.hown _ h2.mem).1;have ev:args.map a.eval=⟨[.slice (some ⟨b1,o1,none⟩) l1 c1, .slice (some ⟨b2,o2,none⟩) l2 c2]⟩:=by apply Array.ext';simpa using AI hfr hv
 simp only[] at e1 e2;have hrun:=Lib.run_overlaps_apart (P:=P) w tS tR e hT.un s hT.siz ⟨b1,o1,none⟩ ⟨b2,o2,none⟩ l1 c1 l2 c2 hne t1 t2 cs1.length cs2.length
  (by simp[World.shape?,e1]) (by simp[World.shape?,e2]) (by simpa using hc2) (by simp[World.frozen?,e1]) (by simp[World.frozen?,e1])
 simp only[execOp,resolve,bB hfr ho,ev,Deferred.ofValue];show(invoke (.fn (.func f) #[]) _).run P w=_;simp only[invoke];have h3:=run_callFunc_extern (P:=P) hf hname hb hn he;rw[h3];simp[hrun,Result.andThen]
end
instance lu.cons2 (l m:List aA) (o:aA) [h:lu l m]:lu (o::l) (o::m):=⟨h.s.cons_cons o⟩
def YQ{own:List aA}{b:Nat}{cs:List Value}{lo:Bool}(fin:Nat->Bool)(π:List (Nat×Bool)){id:Nat}(hm:P.follows .mixedOrders=true)(_hr:jq own ⟨b,cs,ty,lo⟩ own0)(ho:(s7 ops fin π (Array.replicate ops.size false)&&Nat.ble π.length ops.size)=true)
  (h:St C n fr own G (iA P ops (gu Q) (HS C own0 G) fin π)):St C n fr own G ((Code.region id ops true).wp P Q):=by
 simp only[bK] at ho;intro a w rl;exact wp_mono (wp_region_any hm (CL _ _ _ _ (A8 (fun _ _ _ _ _ h=>h) π _ a _ ho.1 (h a _ (rl.heap rl.h.drew)) _ (by simpa using ho.2)))) gu.imp
def aE(vs:List Value):List Value:=(vs.map aG).flatten
def eD{s:Nat}: ∀(vs:List Value),(∀v∈vs,(aG v).length=s)->(aE vs).length=vs.length*s
 |[],_=>by simp[aE]
 |v::vs,h=>by
  have h1:=eD vs (fun u hu=>h u (aJ _ hu));have h2:=h v aQ;unfold aE at*;simp only[bU,rR,aY,bZ,h1,h2,fM];omega
def n7(us vs:List Value):aE (us++vs)=aE us++aE vs:=by simp[aE]
def vG(v:Value):aE [v]=aG v:=by simp[aE]
def Fq{s:Nat}: ∀(vs:List Value) (i:Nat),(∀v∈vs,(aG v).length=s)->i<=vs.length->(aE vs).take (i*s)=aE (vs.take i)
 |vs,0,_,_=>by simp[aE]
 |[],i+1,_,h=>by simp at h
 |v::vs,i+1,h,hi=>by
  have h1:=Fq vs i (fun u hu=>h u (aJ _ hu)) (by simpa using hi);have h2:=h v aQ;unfold aE at*;simp only[bU,rR,oV];rw[List.take_append,h2,cX (by rw[h2,fM];omega),fM,nY,h1]
def EP{s:Nat}: ∀(vs:List Value) (i:Nat),(∀v∈vs,(aG v).length=s)->i<=vs.length->(aE vs).drop (i*s)=aE (vs.drop i)
 |vs,0,_,_=>by simp
 |[],i+1,_,h=>by simp at h
 |v::vs,i+1,h,hi=>by
  have h1:=EP vs i (fun u hu=>h u (aJ _ hu)) (by simpa using hi);have h2:=h v aQ;unfold aE at*;simp only[bU,rR,tV];rw[nK,h2,jZ (by rw[h2,fM];omega),fM,nY,h1,jM]
def Iy{rest:List Value}(h: ∀v∈vs,(aG v).length=s)(hi:i<vs.length):cx (aE vs++rest) (i*s) s=some (aG vs[i]):=by
 have hl:=eD vs h;have hle:i*s+s<=vs.length*s:=by rw[<-fM];exact bS _ hi
 rw[kH _ _ _ (by simp only[aY];omega)];congr 1;rw[lQ (by omega),EP vs i h (by omega),bX hi];have h2:=h vs[i] (dX hi);rw[show(vs[i]::vs.drop (i+1))=[vs[i]]++vs.drop (i+1) from J,n7,vG,dV,gX (by omega),cX (by omega)]
def gg.of_flat{b c:Nat}{rest:List Value}(h: ∀v∈vs,(aG v).length=s)(hg:G b=some (aE vs++rest))(hc:vs.length<=c):gg G s ⟨some ⟨b,0,none⟩,vs.length,c⟩ vs:=
 ⟨J,hc, .inr ⟨b,0,_,J,hg,fun i hi=>by rw[eJ];exact Iy h hi⟩⟩
section
variable {own:List aA}
variable {gd:Option (Nat×Bool)}
def uM(own0:List aA)(fin:Nat->Bool)(π:List (Nat×Bool)){id:Nat}(hm:P.follows .mixedOrders=true)(ho:(s7 ops fin π (Array.replicate ops.size false)&&Nat.ble π.length ops.size)=true)
  (h:St C n fr own G (iA P ops (gu Q) (HS C own0 G) fin π)):St C n fr own G ((Code.region id ops true).wp P Q):=by
 simp only[bK] at ho;intro a w rl;exact wp_mono (wp_region_any hm (CL _ _ _ _ (A8 (fun _ _ _ _ _ h=>h) π _ a _ ho.1 (h a _ (rl.heap rl.h.drew)) _ (by simpa using ho.2)))) gu.imp
end
section
variable {S:World->Prop}{π₂:List (Nat×Bool)}
end
structure FD where
 k:Nat
 d:Nat
 t:TypeId
 z:Value
abbrev Fs:=Nat->Option Nat
def Jk:List FD->Fs->Fr
 |[],_=>[]
 |f::r,fs=>fF f.d (fs f.k)++Jk r fs
def GC:List FD->Fs->List aA
 |[],_=>[]
 |f::r,fs=>fO f.t f.z (fs f.k)++GC r fs
def MW(fd:List FD)(fs:Fs):List Nat:=(fd.filter fun f=>(fs f.k).isNone).map (·.k)
section
variable {own:List aA}{π π₂:List (Nat×Bool)}{fd:List FD}
end
def il(s:Nat)(ty:TypeId)(x:SV)(vs:List Value)(B:List aA):Prop:=
 (vs=[]/\x=⟨none,0,0⟩/\B=[])\/
 ∃b rest lo,x=⟨some ⟨b,0,none⟩,vs.length,x.c⟩/\B=[⟨b,aE vs++rest,ty,lo⟩]/\(aE vs).length=vs.length*s/\(aE vs).length+rest.length=x.c*s/\vs.length<=x.c
def il.nil(s:Nat)(ty:TypeId):il s ty ⟨none,0,0⟩ [] []:= .inl ⟨J,J,J⟩
def il.relo{s:Nat}{ty:TypeId}{x:SV}{vs:List Value}{B:List aA}(h:il s ty x vs B)(fl:Nat->Bool):il s ty x vs (B.map (Go.Sx.relo fl)):=by
 rcases h with⟨h1,h2,h3⟩|⟨b,rest,lo,h1,h2,h3,h4,h5⟩
 .exact .inl ⟨h1,h2,by rw[h3];rfl⟩
 .exact .inr ⟨b,rest,fl b,h1,by rw[h2];rfl,h3,h4,h5⟩
def il.asB{s:Nat}{ty:TypeId}{x:SV}{vs:List Value}{B:List aA}(h:il s ty x vs B):il s ty x vs (asB B):=by
 rcases h with⟨h1,h2,h3⟩|⟨b,rest,lo,h1,h2,h3,h4,h5⟩
 .exact .inl ⟨h1,h2,by rw[h3];rfl⟩
 .exact .inr ⟨b,rest,false,h1,by rw[h2];rfl,h3,h4,h5⟩
def il.len{x:SV}(h:il s ty x vs B):x.n=vs.length:=by
 rcases h with⟨h1,h2,h3⟩|⟨b,rest,lo,h1,h2,h3,h4,h5⟩
 .rw[h2,h1];rfl
 .rw[h1]
def YE{m:aA}(h:m∈M)(hl:m.lo=false):fC M m.b=false:=by
 refine sZ.2 ⟨m,h,?_⟩;simp[hl]
def Ew(b:Nat)(h: ∀m∈M,m.lo=true):fC M b=true:=by
 refine dJ.2 fun m hm=>?_;simp[h m hm]
section
variable {own:List aA}
variable {t:TypeId}{gd:Option (Nat×Bool)}{e:Nat}
def Xh[hT:cw P t e s by_][hN:jn P t']{z:Value}[hz:gj P e z]{w:SV}{vs:List Value}{v:Value}{B:List aA}(L:List aA){ad2:Option Addr}{cap2:Nat}
  (ho:own=L++B)(hB:il s e w vs B)(hx:aB fr x=some (.slice w.a w.n w.c))(hy:aB fr y=some (.slice ad2 1 cap2))
  (hsy:mm P C own G s 1 (.slice ad2 1 cap2) (aG v))(hv:(aG v).length=s)(hf: ∀c∈aG v,flat c=true)
  (hby:0<by_)(hb:(vs.length+1)*by_<=140737488355328)(hzs:(aG z).length=s)(hd:ce n dst=true)
  (h: ∀w' B',il s e w' (vs++[v]) B'->St C n (put fr dst (.slice w'.a w'.n w'.c)) (L++B') G Φ):
  Ch P C n fr own G ⟨dst, .call ⟨.builtin .append, #[x,y], #[t,t']⟩,ty',pos,af,gd⟩ Φ:=by
 subst ho;rcases hB with⟨h1,h2,h3⟩|⟨b,rest,lo,h1,h2,h3,h4,h5⟩
 .subst h1 h2 h3
  rw[fW] at hsy⊢;refine ES (z:=z) (xs:=[]) (ys:=aG v) hx hy (tP) hsy (by show 0<0+1;omega) hby (by simpa using hb) hd (fun b cap' hc=>?_);refine AN (L++[⟨b,[]++aG v++dm z (cap'-(0+1)),e,true⟩]) ?_ (h ⟨some ⟨b,0,none⟩,1,cap'⟩ _ (.inr ⟨b,dm z (cap'-(0+1)),true,J,?_,?_,?_,by simpa using hc⟩))
  .exact(iM (l₁:=[_]) (l₂:=L))
  .simp[aE]
  .simp[aE,hv]
  .simp only[jM,vG,hv,oh,hzs]
   obtain⟨c,rfl⟩: ∃c,cap'=c+1:=⟨cap'-1,by have:0+1<=cap':=hc;omega⟩;rw[show c+1-(0+1)=c by omega,fM,kR]
 .have hwc:w.a=some ⟨b,0,none⟩/\w.n=vs.length:=by rw[h1];exact⟨J,J⟩
  rw[hwc.1,hwc.2] at hx;subst h2;have hsub:jq (L++[⟨b,aE vs++rest,e,lo⟩]) ⟨b,aE vs++rest,e,lo⟩ L:=by
   clear hsy h
   induction L with
   |nil=>exact .hd ..
   |cons a l ih=>exact .tl _ _ _ _ ih
  refine JM (z:=z) (xs:=aE vs) (ys:=aG v) (rest:=rest) hx hy hsub h3 h4 h5 hsy (by rw[hv,nJ]) hf hby hb hzs hd (fun b' lo' cap' rest' hc hr=>?_);refine AN (L++[⟨b',aE vs++aG v++rest',e,lo'⟩]) ?_ (h ⟨some ⟨b',0,none⟩,vs.length+1,cap'⟩ _ (.inr ⟨b',rest',lo',by simp,?_,?_,?_,by simpa using hc⟩))
  .exact(iM (l₁:=[_]) (l₂:=L))
  .rw[n7,vG]
  .rw[n7,vG,aY,h3,hv,aY,gS,fM]
  .rw[n7,vG,aY,h3,hv]
   rw[fM] at hr;show vs.length*s+s+rest'.length=cap'*s;omega
end
instance lu.nil (l:List aA):lu [] l:=⟨jQ l⟩
def JK{own:List aA}(e:own=own')(h:St C n fr own' G Φ):St C n fr own G Φ:=e▸h
def Af{own:List aA}{gd:Option (Nat×Bool)}(ho:aB fr fo=some (.func (.func f) ⟨c1⟩ ⟨c2⟩))(hv:fi fr args.toList=some vs)
  (hp:own.Perm (M++rest))(hF:gt P f (c1++vs++c2) M G K)(hd:ce n dst=true)
  (h: ∀v own1 (G':Gh) (fl:Nat->Bool),[GE G G']->(∀m∈M,m.lo=false->fl m.b=false)->((∀m∈M,m.lo=true)-> ∀b,fl b=true)->K v own1 G'->St C n (put fr dst v) (own1.map (relo fl)++rest) G' Φ):
  Ch P C n fr own G ⟨dst, .call ⟨.value fo,args,tys⟩,ty',pos,af,gd⟩ Φ:=
 Mn ho hv hp hF hd (fun v own1 G' _ hK=>h v own1 G' (fC M) (fun _ hm hl=>YE hm hl) (fun hl b=>Ew b hl) hK)
def LF{s:Nat}{rest:List Value}{x:Value}{j:Nat}(hj:j<s): ∀(vs:List Value) (n:Nat) (hn:n<vs.length),(∀v∈vs,(aG v).length=s)->
  (aE vs++rest).set (n*s+j) x=aE (vs.take n)++((aG vs[n]).set j x++(aE (vs.drop (n+1))++rest))
 |[],n,hn,_=>by simp at hn
 |v::vs,0,hn,h=>by
  have h2:=h v aQ;have e:aE (v::vs)=aG v++aE vs:=by simp[aE]
  rw[e,dV,kK,eJ,List.set_append_left _ _ (by omega)];simp[aE]
 |v::vs,n+1,hn,h=>by
  have h2:=h v aQ;have ih:=LF (rest:=rest) (x:=x) hj vs n (by simpa using hn) (fun u hu=>h u (aJ _ hu));have e:aE (v::vs)=aG v++aE vs:=by simp[aE]
  rw[e,dV,nR _ _ (by rw[h2,fM];omega),h2,show(n+1)*s+j-s=n*s+j by rw[fM];omega,ih];simp[aE]
def ZR{x:SV}(hC:C.mb=[])(hB:il s ty x vs B)(hvs: ∀v∈vs,(aG v).length=s)
  (h: ∀G':Gh,[GE G G']->gg G' s x vs->St C n fr L G' Φ):St C n fr (L++B) G Φ:=by
 rcases hB with⟨h1,h2,h3⟩|⟨b,rest,lo,h1,h2,h3,h4,h5⟩
 .subst h1 h2 h3
  rw[fW];exact @h G ⟨bI.refl _⟩ (gg.nil _ _)
 .subst h2
  refine AN (⟨b,aE vs++rest,ty,lo⟩::L) iM ?_;refine Vh hC ?_;refine AA b (.hd ..) ?_;intro G' hG hg;refine @h G' hG ?_;rw[h1];exact gg.of_flat hvs hg.h h5
end Go.Sx
end
