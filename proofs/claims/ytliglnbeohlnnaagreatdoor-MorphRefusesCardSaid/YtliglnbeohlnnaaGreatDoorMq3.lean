import Derived.Test.YtliglnbeohlnnaaGreatDoorMq2
import Derived.Laws.Externs
import Derived.Lib.Overlaps
set_option linter.all false
set_option maxRecDepth 100000
section
namespace Go.Sx
open Go Go.Proofs Tryz
variable {u g e x y:Nat}{q:Rat}
structure RV where
 n:Int
 d:Int
 p:Option Addr
def RV.v(z:RV):Value:= .agg ⟨[.int .i64 z.n, .int .i64 z.d, .pointer z.p]⟩
def WX{neg:Bool}(h:g∣u):zv neg (u/g)=zv neg u/(g:Int):=by
 cases neg
 .simp[zv]
 .simp only[zv,if_true]
  rw[Int.neg_ediv_of_dvd (rU.2 h),sT]
def RA{m:Int}(he:0<e):(mkRat m e).num=m/((Nat.gcd m.natAbs e:Nat):Int)/\(mkRat m e).den=e/Nat.gcd m.natAbs e:=by
 rw[sM,sN,if_neg we,if_neg we,jL];exact⟨J,J⟩
def VI:(((bl x:Nat):Int)<=62)↔x<4611686018427387904:=by
 have:bl x<=62↔x<2^62:=nf;omega

def Yf{G:Gh}(hx:x<18446744073709551616)(hy:y<18446744073709551616):Fn prog 233 [.int .u64 (x:Nat), .int .u64 (y:Nat)] G (fun v _=>v= .tuple #[.int .u64 ((x*y/18446744073709551616:Nat):Int), .int .u64 ((x*y%18446744073709551616:Nat):Int)]):=
 Fn.of_calls (G:=G) (Lf func233 J J) (fun w=>Tryz.bits_Mul64 x y hx hy w)
def Nr(a b:Int):a*b=if(a<0)↔(b<0) then((a.natAbs*b.natAbs:Nat):Int) else-((a.natAbs*b.natAbs:Nat):Int):=by
 rcases(by omega:a<0\/0<=a) with h|h<;>rcases(by omega:b<0\/0<=b) with h2|h2
 .rw[if_pos (by simp[h,h2]),jQ,mK (qJ h),mK (qJ h2),Int.neg_mul_neg]
 .rw[if_neg (by simp[h];omega),jQ,mK (qJ h),oZ h2,Int.neg_mul,Int.neg_neg]
 .rw[if_neg (by simp[h2];omega),jQ,oZ h,mK (qJ h2),Int.mul_neg,Int.neg_neg]
 .rw[if_pos (by constructor<;>intro<;>omega),jQ,oZ h,oZ h2]
def axO{p:Int}(h:p.natAbs<9223372036854775808):IntKind.i64.wrap p=p:=by rw[Jd];omega

def ano{n:Int}{d:Nat}(h:n<0):mkRat (-(d:Int)) n.natAbs=Rat.divInt (d:Int) n:=by
 rw[<-Rat.divInt_ofNat,mK (qJ h),Rat.neg_divInt_neg]
def PW(h:q.num<0):(q⁻¹).num= -(q.den:Int)/\(q⁻¹).den=q.num.natAbs:=by
 rw[Rat.num_inv,Rat.den_inv,if_neg we,eK h];omega
def UT(h:0<q.num):(q⁻¹).num=(q.den:Int)/\(q⁻¹).den=q.num.natAbs:=by
 rw[Rat.num_inv,Rat.den_inv,if_neg we,fS h];omega
end Go.Sx
end
section
namespace Go.Sx
open Go
variable {P:Program}{ops:Array Oper}{Q:Exit->Act->World->Prop}{fin:Nat->Bool}{k n:Nat}
section
variable {S:World->Prop}{π₂:List (Nat×Bool)}
end
section
variable {C:aF}{fr:Fr}{own own0:List aB}{G G0:Gh}{π π₂:List (Nat×Bool)}
def fF(d:Nat):Option Nat->Fr
 |none=>[]
 |some b=>[(d, .pointer (some ⟨b,0,none⟩))]
def fO(t:TypeId)(z:Value):Option Nat->List aB
 |none=>[]
 |some b=>[⟨b,aG z,t,true⟩]
end
end Go.Sx
end
section
namespace Go.Sx
open Go Go.Proofs
def C4{q:Rat}(h:q.den=1:=by omega):q=(q.num:Int):=by
 conv=>lhs;rw[<-oN q,h,tQ]
def bw(a b:Rat):Int:=if a<b then-1 else if b<a then 1 else 0
def KC(a b:Rat):(a-b).num<0↔a<b:=by
 rw[<-Rat.not_le,Rat.le_iff_sub_nonneg,<-rM];omega
def OI(a b:Rat):0<(a-b).num↔b<a:=by
 have h:=KC b a;have h2:(b-a).num= -(a-b).num:=by rw[<-oX,Rat.neg_sub]
 rw[h2] at h;rw[<-h];omega
def E4(a b:Rat):Int.sign (a-b).num=bw a b:=by
 unfold bw;split
 .rename_i h;exact eK ((KC a b).2 h)
 .rename_i h
  split
  .rename_i h2;exact fS ((OI a b).2 h2)
  .rename_i h2
   rw[<-KC] at h;rw[<-OI] at h2;rw[show(a-b).num=0 by omega];rfl
def Sf{a b:Rat}(h:a.den=b.den:=by omega):a<b↔a.num<b.num:=by
 rw[Rat.lt_iff,h];have:(0:Int)<b.den:=by have:=b.den_pos;omega
 exact⟨fun h2=>Int.lt_of_mul_lt_mul_right h2 (qJ this),fun h2=>Int.mul_lt_mul_of_pos_right h2 this⟩
def pz(a b:Rat):bw a b=0↔a=b:=by
 unfold bw;constructor
 .intro h
  split at h
  .omega
  .rename_i h1
   split at h
   .omega
   .rename_i h2
    exact Rat.le_antisymm (Rat.not_lt.1 h2) (Rat.not_lt.1 h1)
 .intro h
  subst h;rw[if_neg (Rat.not_lt.2 iS),if_neg (Rat.not_lt.2 iS)]
def Uk(a b:Rat):0<bw a b↔b<a:=by
 unfold bw;constructor
 .intro h
  split at h
  .omega
  .split at h
   .assumption
   .omega
 .intro h
  rw[if_neg (fun h2=>Rat.not_lt.2 (dX h) h2),if_pos h];decide
def RY(a b:Rat):bw a b<0↔a<b:=by
 unfold bw;constructor
 .intro h
  split at h
  .assumption
  .split at h<;>omega
 .intro h
  rw[if_pos h];decide
def rgcd(a b:Rat):Rat:=mkRat ((Nat.gcd (a.num.natAbs*b.den) (b.num.natAbs*a.den):Nat):Int) (a.den*b.den)
def BB(a b:Int):rgcd a b=((Nat.gcd a.natAbs b.natAbs:Nat):Int):=by
 unfold rgcd;show mkRat ((Nat.gcd (a.natAbs*1) (b.natAbs*1):Nat):Int) (1*1)=_;rw[jS,jS,jS,tQ]
def HN{a b m:Nat}(ha:a<m)(hb:b<m):Nat.gcd a b<m:=by
 rcases fL a with h|h
 .rw[h,Nat.gcd_zero_left];exact hb
 .exact dZ (Nat.gcd_le_left _ h) ha
structure LV where
 a:RV
 b:RV
 c:RV
def LV.v(z:LV):Value:= .agg ⟨[.int .i64 z.a.n, .int .i64 z.a.d, .pointer z.a.p, .int .i64 z.b.n, .int .i64 z.b.d, .pointer z.b.p, .int .i64 z.c.n, .int .i64 z.c.d, .pointer z.c.p]⟩
structure aa where
 a:Int
 b:Int
 c:Int
def aa.ok(l:aa):Prop:= ¬(l.a=0/\l.b=0)/\Nat.gcd (Nat.gcd l.a.natAbs l.b.natAbs) l.c.natAbs=1
structure PV where
 x:RV
 y:RV
def PV.v(z:PV):Value:= .agg ⟨[.int .i64 z.x.n, .int .i64 z.x.d, .pointer z.x.p, .int .i64 z.y.n, .int .i64 z.y.d, .pointer z.y.p]⟩
structure ah where
 x:Rat
 y:Rat
def Hy(a:Int): -(a:Rat)=((-a:Int):Rat):=rfl
def aa.rev(l:aa):aa:=⟨-l.a, -l.b, -l.c⟩
def aa.nor(l:aa):ah:=⟨l.a,l.b⟩
def aa.dir(l:aa):ah:=⟨l.b, -(l.a:Rat)⟩
def ah.dot(p q:ah):Rat:=p.x*q.x+p.y*q.y
def ah.cross(p q:ah):Rat:=p.x*q.y-p.y*q.x
def ah.scale(p:ah)(c:Rat):ah:=⟨p.x*c,p.y*c⟩
def ah.add(p q:ah):ah:=⟨p.x+q.x,p.y+q.y⟩
def aa.value(l:aa)(p:ah):Rat:=l.nor.dot p+(l.c:Rat)
def aa.base(l:aa):ah:=l.nor.scale (-(l.c:Rat)/l.nor.dot l.nor)
def aa.at(l:aa)(t:Rat):ah:=l.base.add (l.dir.scale t)
end Go.Sx
end
section
namespace Go.Sx
open Go
variable {s n c2 by_ off len cap l2 cap2 i:Nat}{p q:ah}{m:aa}{C:aF}{K:Value->List aB->Gh->Prop}{x y fo:Operand}{M own' own1 own0:List aB}{rest vs c1 cs' ys xs cs1 cs2:List Value}{G G' G0:Gh}{w w':World}{P:Program}{f:FuncId}{fr:Fr}{Φ:Act->World->Prop}{dst:Option Nat}{t' ty' ty tS tR t1 t2:TypeId}{pos:String}{af:Array Edge}{args:Array Operand}{tys:Array TypeId}{ad ad2:Option Addr}{ops:Array Oper}{Q:Exit->Act->World->Prop}{fin:Nat->Bool}
instance:DecidableEq aa:=fun x y=>decidable_of_iff (x.a=y.a/\x.b=y.b/\x.c=y.c) (by
 cases x;cases y;simp)
structure au where
 lo:Rat
 hi:Rat
 nl:Bool
 nh:Bool
def au.all:au:=⟨0,0,true,true⟩
def au.empty(v:au):Bool:=!v.nl&&(!v.nh&&decide (0<=bw v.lo v.hi))
def au.meet(v w:au):au:=
 ⟨if v.nl then w.lo else if w.nl then v.lo else if v.lo<w.lo then w.lo else v.lo,
  if v.nh then w.hi else if w.nh then v.hi else if w.hi<v.hi then w.hi else v.hi,v.nl&&w.nl,v.nh&&w.nh⟩
def au.sample(v:au):Rat:=if v.nl&&v.nh then 0 else if v.nl then v.hi-1 else if v.nh then v.lo+1 else(v.lo+v.hi)*mkRat 1 2
def aa.cutK(l m:aa):Rat:=m.nor.dot l.dir
def aa.cutC(l m:aa):Rat:=m.value l.base
def aa.cutV(l:aa)(v:au)(m:aa):au:=
 if Int.sign (l.cutK m).num=0 then v
 else if Int.sign (l.cutK m).num=1 then v.meet ⟨-(l.cutC m/l.cutK m),0,false,true⟩
 else v.meet ⟨0, -(l.cutC m/l.cutK m),true,false⟩
def aa.cutB(l:aa)(v:au)(m:aa):Bool:=
 if Int.sign (l.cutK m).num=0 then decide (0<Int.sign (l.cutC m).num) else !(l.cutV v m).empty
structure bB where
 l:aa
 v:au
abbrev av:=List bB
variable {e:av}
def oh(l:aa):av->au->Option au
 |[],v=>some v
 |s::t,v=>if l.cutB v s.l then oh l t (l.cutV v s.l) else none
def kv(c:av)(l:aa):Option au:=oh l c au.all
def pf(l:aa)(s:bB):Int:=Int.sign (l.value (s.l.at s.v.sample)).num
def o9(l:aa):av->Int
 |[]=> -1
 |s::t=>if pf l s≠0 then pf l s else if s.l=l then 1 else o9 l t
def w6(c:av)(l:aa):Int:=if(kv c l).isSome then 0 else o9 l c
def ah.half(p:ah):Int:=
 if 0<Int.sign p.y.num\/(Int.sign p.y.num=0/\0<Int.sign p.x.num) then 1 else if Int.sign p.y.num<0\/Int.sign p.x.num<0 then 2 else 0
def gm(u v:ah):Int:=if u.half<v.half then-1 else if v.half<u.half then 1 else-(Int.sign (u.cross v).num)
def eu(l:aa):av->av
 |[]=>[]
 |s::t=>if s.l.cutB s.v l then⟨s.l,s.l.cutV s.v l⟩::eu l t else eu l t
def gg(p:Nat->Bool)(i j:Nat):Nat:=
 if h:i<j then(if p ((i+j)/2) then gg p ((i+j)/2+1) j else gg p i ((i+j)/2)) else i
termination_by j-i
def jf(c:av)(l:aa)(i:Nat):Bool:=match c[i]? with
 |some s=>decide (gm s.l.dir l.dir<0)
 |none=>false
def ma(c:av)(l:aa)(v:au):av:=
 c.take (gg (jf c l) 0 c.length)++⟨l,v⟩::c.drop (gg (jf c l) 0 c.length)
def bE(c:av)(l:aa):av:=match kv c l with
 |some v=>ma (eu l c) l v
 |none=>c
def cx(c:av)(l:aa):Bool:=match kv c l with
 |some _=>true
 |none=>decide (0<w6 c l)
def DC(p:Nat->Bool): ∀(d i j:Nat),j-i<=d->i<=j->i<=gg p i j/\gg p i j<=j
 |0,i,j,h,hij=>by
  rw[gg,dif_neg we];omega
 |d+1,i,j,h,hij=>by
  rw[gg];split
  .split
   .have:=DC p d ((i+j)/2+1) j we we;omega
   .have:=DC p d i ((i+j)/2) we we;omega
  .omega
def UV(l:aa): ∀c:av,(eu l c).length<=c.length
 |[]=>bJ _
 |s::t=>by
  have:=UV l t;unfold eu;split<;>simp<;>omega
def YJ(c:av)(l:aa)(v:au):(ma c l v).length=c.length+1:=by
 have:=(DC (jf c l) c.length 0 c.length we we).2;simp[ma];omega
def sh(c:av)(l:aa):(bE c l).length<=c.length+1:=by
 unfold bE;split
 .rw[YJ];have:=UV l c;omega
 .omega
inductive Tr where
 |leaf (b:Bool)
 |node (l:aa) (x y:Tr)
def Tr.isLeaf:Tr->Bool
 | .leaf _=>true
 | .node .. =>false
def Tr.code:Tr->Bool
 | .leaf b=>b
 | .node .. =>false
def Tr.depth:Tr->Nat
 | .leaf _=>0
 | .node _ x y=>1+max x.depth y.depth
def Tr.size:Tr->Nat
 | .leaf _=>0
 | .node _ x y=>1+x.size+y.size
def Tr.joinQ(l:aa)(x y:Tr):Tr:=if x.isLeaf&&(y.isLeaf&&(x.code==y.code)) then x else .node l x y
def Tr.restrict:Tr->av->Tr
 | .leaf b,_=> .leaf b
 | .node l x y,c=>if !cx c l.rev then x.restrict c else if !cx c l then y.restrict c else joinQ l (x.restrict (bE c l)) (y.restrict (bE c l.rev))
def Tr.parts:Tr->av->List (Bool×av)
 | .leaf b,c=>[(b,c)]
 | .node l x y,c=>(if cx c l then x.parts (bE c l) else [])++(if cx c l.rev then y.parts (bE c l.rev) else [])
def Tr.all(p:aa->Prop):Tr->Prop
 | .leaf _=>True
 | .node l x y=>p l/\x.all p/\y.all p
structure NQ where
 l:aa
 a:Int
 b:Int
def M6(b:Bool):Int:=if b then-2 else-1
def Tr.num:Tr->Nat->Int
 | .leaf b,_=>M6 b
 | .node ..,n=>n
def Tr.wr:Tr->Nat->List NQ
 | .leaf _,_=>[]
 | .node l x y,n=>⟨l,x.num (n+1),y.num (n+1+x.size)⟩::x.wr (n+1)++y.wr (n+1+x.size)
def Tr.wr_len: ∀(t:Tr) (n:Nat),(t.wr n).length=t.size
 | .leaf _,n=>rfl
 | .node l x y,n=>by
  have h1:=Tr.wr_len x (n+1);have h2:=Tr.wr_len y (n+1+x.size);simp[Tr.wr,Tr.size,h1,h2];omega
def Tr.joinQ_cases(l:aa)(x y:Tr):(Tr.joinQ l x y=x/\x.isLeaf=true)\/(Tr.joinQ l x y= .node l x y/\ ¬(x.isLeaf=true/\y.isLeaf=true/\x.code=y.code)):=by
 unfold Tr.joinQ;split
 .rename_i h
  simp at h;exact .inl ⟨J,h.1⟩
 .rename_i h
  simp at h;exact .inr ⟨J,fun⟨a,b,c⟩=>h a b c⟩
def Tr.restrict_depth: ∀(t:Tr) (c:av),(t.restrict c).depth<=t.depth
 | .leaf b,c=>bJ _
 | .node l x y,c=>by
  unfold Tr.restrict;split
  .have:=x.restrict_depth c;simp only[Tr.depth];omega
  .split
   .have:=y.restrict_depth c;simp only[Tr.depth];omega
   .have h1:=x.restrict_depth (bE c l)
    have h2:=y.restrict_depth (bE c l.rev);rcases Tr.joinQ_cases l (x.restrict (bE c l)) (y.restrict (bE c l.rev)) with⟨h,_⟩|⟨h,_⟩
    .rw[h];simp only[Tr.depth];omega
    .rw[h];simp only[Tr.depth];omega
def Tr.restrict_all(p:aa->Prop): ∀(t:Tr) (c:av),t.all p->(t.restrict c).all p
 | .leaf b,c,_=>trivial
 | .node l x y,c,h=>by
  obtain⟨h0,h1,h2⟩:=h;unfold Tr.restrict;split
  .exact x.restrict_all p c h1
  .split
   .exact y.restrict_all p c h2
   .rcases Tr.joinQ_cases l (x.restrict (bE c l)) (y.restrict (bE c l.rev)) with⟨h,_⟩|⟨h,_⟩
    .rw[h];exact x.restrict_all p _ h1
    .rw[h];exact⟨h0,x.restrict_all p _ h1,y.restrict_all p _ h2⟩
def jy(l:aa)(p:ah):l.value p=(l.a:Rat)*p.x+(l.b:Rat)*p.y+(l.c:Rat):=rfl
def fA(l:aa)(p:ah):l.rev.value p= -l.value p:=by
 rw[jy,jy];have h1:((l.rev.a:Int):Rat)= -(l.a:Rat):=(Hy l.a).symm;have h2:((l.rev.b:Int):Rat)= -(l.b:Rat):=(Hy l.b).symm;have h3:((l.rev.c:Int):Rat)= -(l.c:Rat):=(Hy l.c).symm;rw[h1,h2,h3];grind
def kD(q p:ah)(e:Rat):ah:=⟨q.x+e*(p.x-q.x),q.y+e*(p.y-q.y)⟩
def lH(l:aa)(q p:ah)(e:Rat):l.value (kD q p e)=l.value q+e*(l.value p-l.value q):=by
 simp only[jy,kD];grind
def de(q u:ah)(e:Rat):ah:=⟨q.x+e*u.x,q.y+e*u.y⟩
def jD(l:aa)(q u:ah)(e:Rat):l.value (de q u e)=l.value q+e*l.nor.dot u:=by
 simp only[jy,de,aa.nor,ah.dot];grind
def dx{a b:Rat}(ha:0<a)(hb:0<b):0<a*b:=Rat.mul_pos ha hb
def dh{a b:Rat}(ha:0<=a)(hb:0<=b):0<=a*b:=Rat.mul_nonneg ha hb
def FL(a:Rat):0<=a*a:=by
 by_cases h:0<=a
 .exact dh h h
 .have:=dh (a:= -a) (b:= -a) omb omb
  grind
def gh{s k:Rat}(hk:0<k):0<s*k↔0<s:=by
 constructor
 .intro h
  by_cases hs:0<s
  .exact hs
  .have:=dh (a:= -s) (b:=k) omb omb
   grind
 .intro h;exact dx h hk
def iw{s k:Rat}(hk:0<k):0<=s*k↔0<=s:=by
 constructor
 .intro h
  by_cases hs:0<=s
  .exact hs
  .have:=dx (a:= -s) (b:=k) omb hk
   grind
 .intro h;exact dh h omb
def Hc{A B u v:Rat}(h0:0<=A)(h1:0<=A+v*B)(hu:0<=u)(huv:u<=v):0<=A+u*B:=by
 by_cases hB:0<=B
 .have:=dh hu hB;grind
 .have:=dh (a:=v-u) (b:= -B) omb omb
  grind
def aa.Ne(l:aa):Prop:= ¬(l.a=0/\l.b=0)
def aa.ok.ne{l:aa}(h:l.ok):l.Ne:=h.1
def nE{l:aa}(h:l.Ne):0<l.nor.dot l.nor:=by
 show 0<(l.a:Rat)*l.a+(l.b:Rat)*l.b;have h1:=FL (l.a:Rat);have h2:=FL (l.b:Rat);by_cases ha:l.a=0
 .have hb:l.b≠0:=fun hb=>h ⟨ha,hb⟩
  have hb':(l.b:Rat)≠0:=fun e=>hb (cX.1 e);have:(l.b:Rat)*l.b≠0:=by grind
  grind
 .have ha':(l.a:Rat)≠0:=fun e=>ha (cX.1 e)
  have:(l.a:Rat)*l.a≠0:=by grind
  grind
def Bd{l:aa}(h:l.Ne): ∃q:Rat,l.nor.dot l.nor*q= -(l.c:Rat)/\l.base=⟨(l.a:Rat)*q,(l.b:Rat)*q⟩:=by
 refine⟨-(l.c:Rat)/l.nor.dot l.nor,?_,J⟩;have:=nE h;grind
def mG(l m:aa)(t:Rat):m.value (l.at t)=l.cutC m+t*l.cutK m:=by
 simp only[aa.cutC,aa.cutK,jy,aa.at,ah.add,ah.scale,aa.dir,aa.nor,ah.dot];grind
def mn{l:aa}(h:l.Ne)(t:Rat):l.value (l.at t)=0:=by
 obtain⟨q,h1,h2⟩:=Bd h;simp only[jy,aa.at,h2,ah.add,ah.scale,aa.dir];simp only[aa.nor,ah.dot] at h1;grind
def Bj{l:aa}(h:l.Ne)(hp:l.value p=0): ∃t,p=l.at t:=by
 obtain⟨q,h1,h2⟩:=Bd h;have hn:=nE h;obtain⟨x,y⟩:=p;rw[jy] at hp;simp only[aa.nor,ah.dot] at h1 hn;refine⟨((l.b:Rat)*x-(l.a:Rat)*y)/((l.a:Rat)*l.a+(l.b:Rat)*l.b),?_⟩;generalize ht:((l.b:Rat)*x-(l.a:Rat)*y)/((l.a:Rat)*l.a+(l.b:Rat)*l.b)=t;have ht':((l.a:Rat)*l.a+(l.b:Rat)*l.b)*t=(l.b:Rat)*x-(l.a:Rat)*y:=by grind
 simp only[aa.at,h2,ah.add,ah.scale,aa.dir,ah.mk.injEq];generalize (l.a:Rat)=a at*;generalize (l.b:Rat)=b at*;generalize (l.c:Rat)=c at*;have e1:(a*a+b*b)*(x-(a*q+b*t))=0:=by grind
 have e2:(a*a+b*b)*(y-(b*q+ -a*t))=0:=by grind
 constructor<;>grind
def au.has(v:au)(t:Rat):Prop:=(v.nl=true\/v.lo<=t)/\(v.nh=true\/t<=v.hi)
def au.ins(v:au)(t:Rat):Prop:=(v.nl=true\/v.lo<t)/\(v.nh=true\/t<v.hi)
def au.Pos(v:au):Prop:=v.nl=true\/v.nh=true\/v.lo<v.hi
def aqO(a b:Rat):0<=bw a b↔b<=a:=by
 unfold bw;split
 .constructor
  .intro h;exact absurd h oma
  .intro h;grind
 .split
  .constructor
   .intro _;grind
   .intro _;decide
  .constructor
   .intro _;grind
   .intro _;decide
def FN(v:au):v.empty=false↔v.Pos:=by
 obtain⟨lo,hi,nl,nh⟩:=v;unfold au.empty au.Pos
 cases nl<;>cases nh<;>simp[aqO]
 first|exact Rat.not_le|grind
def au.ins.has{v:au}{t:Rat}(h:v.ins t):v.has t:=by
 obtain⟨h1,h2⟩:=h;exact⟨h1.imp id (fun h=>dX h),h2.imp id (fun h=>dX h)⟩
def YD:mkRat 1 2=(1:Rat)/2:=by rw[mL];rfl
def pn{v:au}(h:v.Pos):v.ins v.sample:=by
 obtain⟨lo,hi,nl,nh⟩:=v;unfold au.Pos at h;unfold au.ins au.sample;rw[YD]
 cases nl<;>cases nh<;>simp at* <;>grind
def P9(v w:au)(t:Rat):(v.meet w).has t↔v.has t/\w.has t:=by
 obtain⟨lo,hi,nl,nh⟩:=v;obtain⟨lo',hi',nl',nh'⟩:=w;unfold au.has au.meet
 cases nl<;>cases nh<;>cases nl'<;>cases nh'<;>simp<;>grind
def Un(v w:au)(t:Rat):(v.meet w).ins t↔v.ins t/\w.ins t:=by
 obtain⟨lo,hi,nl,nh⟩:=v;obtain⟨lo',hi',nl',nh'⟩:=w;unfold au.ins au.meet
 cases nl<;>cases nh<;>cases nl'<;>cases nh'<;>simp<;>grind
def Ju(t:Rat):au.all.has t:=⟨.inl J, .inl J⟩
def z7:au.all.Pos:= .inl J
def qg(k:Rat):Int.sign k.num=0↔k=0:=by rw[fM,mW]
def Vs(k:Rat):0<k.num↔0<k:=by
 have h1:0<=k.num↔0<=k:=rM;have h2:k.num=0↔k=0:=mW;constructor
 .intro h
  have a:=h1.1 we;have b:k≠0:=fun e=>by have:=h2.2 e;omega
  grind
 .intro h
  have a:=h1.2 omb;have b:k.num≠0:=fun e=>by have:=h2.1 e;grind
  omega
def EP(k:Rat):Int.sign k.num=1↔0<k:=by rw[Int.sign_eq_one_iff_pos,Vs]
def mO(k:Rat):0<Int.sign k.num↔0<k:=by
 rw[<-EP];rcases pN k.num 0 with h|h|h
 .rw[eK h];decide
 .rw[h];decide
 .rw[fS h];decide
def Tt(k:Rat):Int.sign k.num<0↔k<0:=by
 have h1:=qg k;have h2:=mO k;constructor
 .intro h
  by_cases hk:0<k
  .have:=h2.2 hk;omega
  .by_cases h0:k=0
   .have:=h1.2 h0;omega
   .grind
 .intro h
  have a1: ¬Int.sign k.num=0:=fun e=>by have:=h1.1 e;grind
  have a2: ¬0<Int.sign k.num:=fun e=>by have:=h2.1 e;grind
  omega
def Be{l:aa}(v:au)(hk:l.cutK m=0):l.cutV v m=v/\(l.cutB v m=true↔0<l.cutC m):=by
 have h:=(qg (l.cutK m)).2 hk;unfold aa.cutV aa.cutB;rw[if_pos h,if_pos h,decide_eq_true_iff,mO];exact⟨J,Iff.rfl⟩
def BO{l:aa}(v:au)(hk:0<l.cutK m):l.cutV v m=v.meet ⟨-(l.cutC m/l.cutK m),0,false,true⟩/\(l.cutB v m=true↔(l.cutV v m).Pos):=by
 have h0: ¬Int.sign (l.cutK m).num=0:=fun e=>by have:=(qg _).1 e;grind
 have h1:=(EP (l.cutK m)).2 hk;constructor
 .unfold aa.cutV;rw[if_neg h0,if_pos h1]
 .unfold aa.cutB;rw[if_neg h0,<-FN];simp
def BH{l:aa}(v:au)(hk:l.cutK m<0):l.cutV v m=v.meet ⟨0, -(l.cutC m/l.cutK m),true,false⟩/\(l.cutB v m=true↔(l.cutV v m).Pos):=by
 have h0: ¬Int.sign (l.cutK m).num=0:=fun e=>by have:=(qg _).1 e;grind
 have h1: ¬Int.sign (l.cutK m).num=1:=fun e=>by have:=(EP _).1 e;grind
 constructor
 .unfold aa.cutV;rw[if_neg h0,if_neg h1]
 .unfold aa.cutB;rw[if_neg h0,<-FN];simp
def aLl{C K t:Rat}(hk:0<K): -(C/K)<=t↔0<=C+t*K:=by
 have e:C=C/K*K:=by grind
 generalize C/K=d at*;rw[e,show d*K+t*K=(d+t)*K from by grind,iw hk];grind
def Pr{C K t:Rat}(hk:0<K): -(C/K)<t↔0<C+t*K:=by
 have e:C=C/K*K:=by grind
 generalize C/K=d at*;rw[e,show d*K+t*K=(d+t)*K from by grind,gh hk];grind
def aL3{C K t:Rat}(hk:K<0):t<= -(C/K)↔0<=C+t*K:=by
 have e:C=C/K*K:=by grind
 generalize C/K=d at*;rw[e,show d*K+t*K=(-(d+t))*(-K) from by grind,iw omb];grind
def R6{C K t:Rat}(hk:K<0):t< -(C/K)↔0<C+t*K:=by
 have e:C=C/K*K:=by grind
 generalize C/K=d at*;rw[e,show d*K+t*K=(-(d+t))*(-K) from by grind,gh omb];grind
def kt(k:Rat):k=0\/0<k\/k<0:=by grind
def Fi{l:aa}{v:au}(hb:l.cutB v m=true)(t:Rat):(l.cutV v m).has t↔v.has t/\0<=m.value (l.at t):=by
 rw[mG];rcases kt (l.cutK m) with hk|hk|hk
 .obtain⟨h1,h2⟩:=Be v hk
  rw[h1,hk];have:=h2.1 hb;constructor
  .intro h;exact⟨h,omb⟩
  .exact fun h=>h.1
 .rw[(BO v hk).1,P9,<-aLl hk]
  simp[au.has]
 .rw[(BH v hk).1,P9,<-aL3 hk]
  simp[au.has]
def UF{l:aa}{v:au}(hb:l.cutB v m=true)(t:Rat):(l.cutV v m).ins t↔v.ins t/\0<m.value (l.at t):=by
 rw[mG];rcases kt (l.cutK m) with hk|hk|hk
 .obtain⟨h1,h2⟩:=Be v hk
  rw[h1,hk];have:=h2.1 hb;constructor
  .intro h;exact⟨h,omb⟩
  .exact fun h=>h.1
 .rw[(BO v hk).1,Un,<-Pr hk]
  simp[au.ins]
 .rw[(BH v hk).1,Un,<-R6 hk]
  simp[au.ins]
def Ag{l:aa}{v:au}(hv:v.Pos)(hb:l.cutB v m=true):(l.cutV v m).Pos:=by
 rcases kt (l.cutK m) with hk|hk|hk
 .rw[(Be v hk).1];exact hv
 .exact(BO v hk).2.1 hb
 .exact(BH v hk).2.1 hb
def J4{l:aa}{v:au}(hv:v.Pos)(hb:l.cutB v m=false){t:Rat}(ht:v.has t):m.value (l.at t)<=0:=by
 rw[mG];have hb': ¬l.cutB v m=true:=by rw[hb];decide
 rcases kt (l.cutK m) with hk|hk|hk
 .have h2:=(Be v hk).2
  have: ¬0<l.cutC m:=fun h=>hb' (h2.2 h);rw[hk];grind
 .obtain⟨h1,h2⟩:=BO v hk
  have hn: ¬(l.cutV v m).Pos:=fun h=>hb' (h2.2 h);rw[h1] at hn;have h3:=Pr (C:=l.cutC m) (t:=t) hk
  suffices¬(-(l.cutC m/l.cutK m)<t) by grind
  generalize-(l.cutC m/l.cutK m)=d at*;obtain⟨lo,hi,nl,nh⟩:=v;unfold au.Pos au.meet at hn;unfold au.Pos at hv;unfold au.has at ht
  cases nl<;>cases nh<;>simp at* <;>grind
 .obtain⟨h1,h2⟩:=BH v hk
  have hn: ¬(l.cutV v m).Pos:=fun h=>hb' (h2.2 h);rw[h1] at hn;have h3:=R6 (C:=l.cutC m) (t:=t) hk
  suffices¬(t< -(l.cutC m/l.cutK m)) by grind
  generalize-(l.cutC m/l.cutK m)=d at*;obtain⟨lo,hi,nl,nh⟩:=v;unfold au.Pos au.meet at hn;unfold au.Pos at hv;unfold au.has at ht
  cases nl<;>cases nh<;>simp at* <;>grind
def bA(c:av)(p:ah):Prop:= ∀s∈c,0<s.l.value p
def iA(c:av)(p:ah):Prop:= ∀s∈c,0<=s.l.value p
def bA.c{c:av}{p:ah}(h:bA c p):iA c p:=fun s hs=>dX (h s hs)
def GX(l:aa): ∀(c:av) (v w:au),v.Pos->oh l c v=some w->
  w.Pos/\(∀t,w.has t↔v.has t/\iA c (l.at t))/\(∀t,w.ins t↔v.ins t/\bA c (l.at t))
 |[],v,w,hv,h=>by
  obtain rfl:v=w:=by simpa[oh] using h
  exact⟨hv,fun t=>⟨fun h=>⟨h,fun s hs=>absurd hs omc⟩,fun h=>h.1⟩,fun t=>⟨fun h=>⟨h,fun s hs=>absurd hs omc⟩,fun h=>h.1⟩⟩
 |s::c,v,w,hv,h=>by
  rw[oh] at h;split at h
  .rename_i hb
   obtain⟨h1,h2,h3⟩:=GX l c _ w (Ag hv hb) h;refine⟨h1,fun t=>?_,fun t=>?_⟩
   .rw[h2,Fi hb]
    simp only[iA,dR];exact and_assoc
   .rw[h3,UF hb]
    simp only[bA,dR];exact and_assoc
  .exact absurd h omc
theorem ozF{p:Prop}(h:p:=by simpa using hb):p:=h
def NK(l:aa): ∀(c:av) (v:au),v.Pos->oh l c v=none-> ∀t,v.has t-> ¬bA c (l.at t)
 |[],v,hv,h=>by simp[oh] at h
 |s::c,v,hv,h=>by
  intro t ht hd;have hd':=dR.1 hd;rw[oh] at h;split at h
  .rename_i hb
   exact NK l c _ (Ag hv hb) h t ((Fi hb t).2 ⟨ht,dX hd'.1⟩) hd'.2
  .rename_i hb
   have:=J4 hv ozF ht;have:=hd'.1;grind
def bA.open: ∀{c:av} {q:ah} (u:ah),bA c q-> ∃e:Rat,0<e/\ ∀d,0<=d->d<=e->bA c (de q u d)
 |[],q,u,_=>⟨1,oma,fun d _ _ s hs=>absurd hs omc⟩
 |s::c,q,u,h=>by
  have h':=dR.1 h;obtain⟨e,he,hd⟩:=bA.open (c:=c) u h'.2;have hs:=h'.1;generalize hk:s.l.nor.dot u=k;have hf: ∃f:Rat,0<f/\ ∀d,0<=d->d<=f->0<s.l.value q+d*k:=by
   by_cases hk0:0<=k
   .exact⟨1,oma,fun d h1 _=>by have:=dh h1 hk0;grind⟩
   .refine⟨s.l.value q/(2* -k),?_,fun d h1 h2=>?_⟩
    .have e1:s.l.value q/(2* -k)*(2* -k)=s.l.value q:=by grind
     exact(gh (k:=2* -k) omb).1 (by rw[e1];exact hs)
    .have e1:s.l.value q/(2* -k)*(2* -k)=s.l.value q:=by grind
     generalize s.l.value q/(2* -k)=f at*;have:=dh (a:=f-d) (b:= -k) omb omb;grind
  obtain⟨f,hf0,hf⟩:=hf;by_cases hef:e<=f
  .refine⟨e,he,fun d h1 h2=>dR.2 ⟨?_,hd d h1 h2⟩⟩
   rw[jD,hk];exact hf d h1 omb
  .refine⟨f,hf0,fun d h1 h2=>dR.2 ⟨?_,hd d h1 omb⟩⟩
   rw[jD,hk];exact hf d h1 h2
def Ko: ∀{c:av} {q p:ah},bA c q->(∃s∈c,s.l.value p<=0)->
  ∃e:Rat,0<=e/\e<=1/\(∃s∈c,s.l.value p<=0/\s.l.value (kD q p e)=0)/\iA c (kD q p e)
 |[],q,p,_,h=>by obtain⟨s,hs,_⟩:=h;exact absurd hs omc
 |s::c,q,p,h,hex=>by
  have h':=dR.1 h;have hs:=h'.1;by_cases hc: ∃s∈c,s.l.value p<=0
  .obtain⟨e,h0,h1,⟨s1,m1,n1,z1⟩,hC⟩:=Ko h'.2 hc
   by_cases hp:0<=s.l.value (kD q p e)
   .exact⟨e,h0,h1,⟨s1,aJ _ m1,n1,z1⟩,dR.2 ⟨hp,hC⟩⟩
   .rw[lH] at hp
    generalize hB:s.l.value p-s.l.value q=B at*;have hB0:B<0:=by
     by_cases hB0:0<=B
     .have:=dh h0 hB0;grind
     .grind
    have e1:s.l.value q/(-B)*(-B)=s.l.value q:=by grind
    generalize hf:s.l.value q/(-B)=f at*;have f0:0<=f:=(iw (k:= -B) omb).1 (by rw[e1];grind);have f1:f<=e:=by
     have:=(iw (s:=e-f) (k:= -B) omb).1 omb;grind
    have z:s.l.value (kD q p f)=0:=by rw[lH,hB];grind
    have np:s.l.value p<=0:=by
     have:=dh (a:=1-e) (b:= -B) omb omb;grind
    refine⟨f,f0,omb,⟨s,aZ,np,z⟩,dR.2 ⟨by rw[z];exact iS,fun s2 m2=>?_⟩⟩;have a1:=h'.2 s2 m2;have a2:=hC s2 m2;rw[lH] at a2⊢;exact Hc (dX a1) a2 f0 f1
  .have np:s.l.value p<=0:=by
    obtain⟨s1,m1,n1⟩:=hex;rcases aW.1 m1 with rfl|m1
    .exact n1
    .exact absurd ⟨s1,m1,n1⟩ hc
   generalize hB:s.l.value p-s.l.value q=B at*;have hB0:B<0:=by grind
   have e1:s.l.value q/(-B)*(-B)=s.l.value q:=by grind
   generalize hf:s.l.value q/(-B)=f at*;have f0:0<=f:=(iw (k:= -B) omb).1 (by rw[e1];grind);have f1:f<=1:=by
    have:=(iw (s:=1-f) (k:= -B) omb).1 omb;grind
   have z:s.l.value (kD q p f)=0:=by rw[lH,hB];grind
   refine⟨f,f0,f1,⟨s,aZ,np,z⟩,dR.2 ⟨by rw[z];exact iS,fun s2 m2=>?_⟩⟩;have a1:=h'.2 s2 m2;have a2:0<s2.l.value p:=by
    by_cases h:0<s2.l.value p
    .exact h
    .exact absurd ⟨s2,m2,omb⟩ hc
   rw[lH];have:=Hc (A:=s2.l.value q) (B:=s2.l.value p-s2.l.value q) (u:=f) (v:=1) (dX a1) omb f0 f1;exact this
structure bF (c:av):Prop where
 ne: ∃p,bA c p
 ok: ∀s∈c,s.l.ok
 edge: ∀s∈c,s.v.Pos/\ ∀t,s.v.has t↔iA c (s.l.at t)
def bF.nil:bF []:=⟨⟨⟨0,0⟩,fun s hs=>absurd hs omc⟩,fun s hs=>absurd hs omc,fun s hs=>absurd hs omc⟩
def tO{c:av}(hne: ∃q,bA c q)(h: ∀p,bA c p->0<m.value p)(hp:iA c p):0<=m.value p:=by
 obtain⟨q,hq⟩:=hne;have mq:=h q hq;by_cases hm:0<=m.value p
 .exact hm
 .exfalso
  generalize hB:m.value q-m.value p=B;have hB0:0<B:=by grind
  have e1: -m.value p/B*B= -m.value p:=by grind
  generalize-m.value p/B=e at*;have e0:0<e:=(gh hB0).1 (by rw[e1];grind);have e2:e<=1:=by
   have:=(iw (s:=1-e) hB0).1 omb;grind
  have hd:bA c (kD p q e):=fun s hs=>by
   rw[lH];have a:=hp s hs;have b:=hq s hs;have:=dx e0 b;have:=dh (a:=1-e) (b:=s.l.value p) omb a;grind
  have:=h _ hd;rw[lH,hB,e1] at this;grind
def sg{l:aa}{s':bB}: ∀{c:av},s'∈eu l c↔ ∃s∈c,s.l.cutB s.v l=true/\s'=⟨s.l,s.l.cutV s.v l⟩
 |[]=>by simp[eu]
 |s::c=>by
  rw[eu];split
  .rename_i hb
   rw[aW,sg (c:=c)];constructor
   .rintro (rfl|⟨s1,h1,h2⟩)
    .exact⟨s,aZ,hb,J⟩
    .exact⟨s1,aJ _ h1,h2⟩
   .rintro ⟨s1,h1,h2,h3⟩
    rcases aW.1 h1 with rfl|h1
    .exact .inl h3
    .exact .inr ⟨s1,h1,h2,h3⟩
  .rename_i hb
   rw[sg (c:=c)];constructor
   .rintro ⟨s1,h1,h2⟩;exact⟨s1,aJ _ h1,h2⟩
   .rintro ⟨s1,h1,h2,h3⟩
    rcases aW.1 h1 with rfl|h1
    .exact absurd h2 hb
    .exact⟨s1,h1,h2,h3⟩
def ra{c:av}{l:aa}{v:au}{s:bB}:s∈ma c l v↔s=⟨l,v⟩\/s∈c:=by
 unfold ma;generalize gg (jf c l) 0 c.length=n;rw[bX,aW];have h:=jR n c;constructor
 .rintro (h1|h1|h1)
  .exact .inr (fW h1)
  .exact .inl h1
  .exact .inr (gS h1)
 .rintro (h1|h1)
  .exact .inr (.inl h1)
  .rw[<-h,bX] at h1
   rcases h1 with h1|h1
   .exact .inl h1
   .exact .inr (.inr h1)
def aBU{c:av}{l:aa}(hl:l.Ne)(hp:kv c l=none)(h:bA c p):l.value p≠0:=by
 intro h0;obtain⟨t,rfl⟩:=Bj hl h0;exact NK l c _ z7 hp t (Ju t) h
def J'{c:av}{l:aa}(hl:l.Ne){v:au}(hp:kv c l=some v):(∃q,bA c q/\0<l.value q)/\ ∃q,bA c q/\l.value q<0:=by
 obtain⟨h1,_,h3⟩:=GX l c _ v z7 hp;have hd:=((h3 v.sample).1 (pn h1)).2;have h0:=mn hl v.sample;have hn:=nE hl;constructor
 .obtain⟨e,he,hm⟩:=hd.open l.nor
  refine⟨_,hm e (dX he) iS,?_⟩;rw[jD,h0];have:=dx he hn;grind
 .obtain⟨e,he,hm⟩:=hd.open ⟨-l.nor.x, -l.nor.y⟩
  refine⟨_,hm e (dX he) iS,?_⟩;rw[jD,h0];have:=dx he hn;simp only[ah.dot] at this⊢;grind
def auX{c:av}{l:aa}{v:au}(hc:bF c)(hl:l.ok)(hp:kv c l=some v):
  bF (ma (eu l c) l v)/\ ∀p,bA (ma (eu l c) l v) p↔bA c p/\0<l.value p:=by
 obtain⟨⟨q,hq,lq⟩,_⟩:=J' hl.ne hp;obtain⟨v1,v2,v3⟩:=GX l c _ v z7 hp;have hD: ∀p,bA (ma (eu l c) l v) p↔bA c p/\0<l.value p:=by
  intro p;constructor
  .intro h
   have lp:0<l.value p:=h ⟨l,v⟩ (ra.2 (.inl J));refine⟨fun s0 hs0=>?_,lp⟩;by_cases h0:0<s0.l.value p
   .exact h0
   .exfalso
    obtain⟨e,e0,e1,⟨s,ms,ns,zs⟩,hC⟩:=Ko (p:=p) hq ⟨s0,hs0,omb⟩;obtain⟨t,ht⟩:=Bj (hc.ok s ms).ne zs;rw[ht] at hC;obtain⟨p1,p2⟩:=hc.edge s ms;have hh:=(p2 t).2 hC;have lr:0<l.value (s.l.at t):=by
     rw[<-ht,lH];by_cases hB:0<=l.value p-l.value q
     .have:=dh e0 hB;grind
     .have:=dh (a:=1-e) (b:= -(l.value p-l.value q)) omb omb
      grind
    have hb:s.l.cutB s.v l=true:=by
     cases hb:s.l.cutB s.v l with
     |true=>rfl
     |false=>have:=J4 p1 hb hh;grind
    have:=h ⟨s.l,s.l.cutV s.v l⟩ (ra.2 (.inr (sg.2 ⟨s,ms,hb,J⟩)));simp only at this;grind
  .rintro ⟨h1,h2⟩ s hs
   rcases ra.1 hs with rfl|hs
   .exact h2
   .obtain⟨s1,m1,_,rfl⟩:=sg.1 hs
    exact h1 s1 m1
 have hne: ∃p,bA (ma (eu l c) l v) p:=⟨q,(hD q).2 ⟨hq,lq⟩⟩;have hC: ∀p,iA (ma (eu l c) l v) p↔iA c p/\0<=l.value p:=by
  intro p;constructor
  .intro h
   refine⟨fun s hs=>?_,h ⟨l,v⟩ (ra.2 (.inl J))⟩;exact tO hne (fun p hp=>((hD p).1 hp).1 s hs) h
  .rintro ⟨h1,h2⟩ s hs
   rcases ra.1 hs with rfl|hs
   .exact h2
   .obtain⟨s1,m1,_,rfl⟩:=sg.1 hs
    exact h1 s1 m1
 refine⟨⟨hne,fun s hs=>?_,fun s hs=>?_⟩,hD⟩
 .rcases ra.1 hs with rfl|hs
  .exact hl
  .obtain⟨s1,m1,_,rfl⟩:=sg.1 hs
   exact hc.ok s1 m1
 .rcases ra.1 hs with rfl|hs
  .refine⟨v1,fun t=>?_⟩
   rw[hC];simp only;rw[v2];have h0:=mn hl.ne t;constructor
   .intro h;exact⟨h.2,by rw[h0];exact iS⟩
   .intro h;exact⟨Ju t,h.1⟩
  .obtain⟨s1,m1,hb,rfl⟩:=sg.1 hs
   obtain⟨p1,p2⟩:=hc.edge s1 m1;refine⟨Ag p1 hb,fun t=>?_⟩;rw[hC];simp only;rw[Fi hb,p2]
def bA.seg{c:av}{e:Rat}(hq:bA c q)(hp:bA c p)(h0:0<=e)(h1:e<=1):bA c (kD q p e):=fun s hs=>by
 rw[lH];have a:=hq s hs;have b:=hp s hs;by_cases he:e=0
 .subst he;grind
 .have:=dx (a:=e) omb b
  have:=dh (a:=1-e) (b:=s.l.value q) omb omb;grind
def JX{v:au}{t:Rat}(h:v.ins t):(∃u,u<t/\v.has u)/\ ∃u,t<u/\v.has u:=by
 obtain⟨lo,hi,nl,nh⟩:=v;unfold au.ins at h;unfold au.has;refine⟨⟨if nl=true then t-1 else lo,?_⟩,⟨if nh=true then t+1 else hi,?_⟩⟩<;>cases nl<;>cases nh<;>simp at* <;>grind
def zZ{a b c x y z:Nat}(h1:x*b=a*y)(h2:x*c=a*z)(g:Nat.gcd (Nat.gcd a b) c=1):a∣x:=by
 have e:x=Nat.gcd (Nat.gcd (x*a) (x*b)) (x*c):=by
  rw[Nat.gcd_mul_left,Nat.gcd_mul_left,g,jS]
 rw[e];exact Nat.dvd_gcd (Nat.dvd_gcd (Nat.dvd_mul_left ..) (h1▸Nat.dvd_mul_right ..)) (h2▸Nat.dvd_mul_right ..)
def axC{a b c x y z:Int}(h1:a*y=b*x)(h2:a*z=c*x)(h3:b*z=c*y)
  (g1:Nat.gcd (Nat.gcd a.natAbs b.natAbs) c.natAbs=1)(g2:Nat.gcd (Nat.gcd x.natAbs y.natAbs) z.natAbs=1):
  (a=x/\b=y/\c=z)\/(a= -x/\b= -y/\c= -z):=by
 have n1:a.natAbs*y.natAbs=b.natAbs*x.natAbs:=by rw[<-eY,<-eY,h1]
 have n2:a.natAbs*z.natAbs=c.natAbs*x.natAbs:=by rw[<-eY,<-eY,h2]
 have n3:b.natAbs*z.natAbs=c.natAbs*y.natAbs:=by rw[<-eY,<-eY,h3]
 generalize ha:a.natAbs=A at*;generalize hb:b.natAbs=B at*;generalize hc:c.natAbs=C at*;generalize hx:x.natAbs=X at*;generalize hy:y.natAbs=Y at*;generalize hz:z.natAbs=Z at*;have gB:Nat.gcd (Nat.gcd B A) C=1:=by rw[jL B A];exact g1
 have gC:Nat.gcd (Nat.gcd C A) B=1:=by rw[Nat.gcd_assoc,jL];exact g1
 have gY:Nat.gcd (Nat.gcd Y X) Z=1:=by rw[jL Y X];exact g2
 have gZ:Nat.gcd (Nat.gcd Z X) Y=1:=by rw[Nat.gcd_assoc,jL];exact g2
 have e1:A=X:=Nat.dvd_antisymm (zZ (x:=X) (y:=Y) (z:=Z) omb omb g1) (zZ (x:=A) (y:=B) (z:=C) omb omb g2);have e2:B=Y:=Nat.dvd_antisymm (zZ (x:=Y) (y:=X) (z:=Z) omb omb gB) (zZ (x:=B) (y:=A) (z:=C) omb omb gY);have e3:C=Z:=Nat.dvd_antisymm (zZ (x:=Z) (y:=X) (z:=Y) omb omb gC) (zZ (x:=C) (y:=A) (z:=B) omb omb gZ);have s1:a=x\/a= -x:=by omega
 have s2:b=y\/b= -y:=by omega
 have s3:c=z\/c= -z:=by omega
 clear ha hb hc hx hy hz n1 n2 n3 g1 g2 gB gC gY gZ e1 e2 e3;have z1:= @pT x y;have z2:= @pT x z;have z3:= @pT y z;rcases s1 with rfl|rfl<;>rcases s2 with rfl|rfl<;>rcases s3 with rfl|rfl<;>grind
def zq{l:aa}(hl:l.ok)(hm:m.ok)(h: ∀t,l.value (m.at t)=0):l=m\/l=m.rev:=by
 have h0:=h 0;have h1:=h 1;rw[mG] at h0 h1;have hC:m.cutC l=0:=by grind
 have hK:m.cutK l=0:=by grind
 obtain⟨q,q1,q2⟩:=Bd hm.ne;have hn:=nE hm.ne;unfold aa.cutC at hC;rw[q2,jy] at hC;unfold aa.cutK at hK;simp only[aa.nor,aa.dir,ah.dot] at hK q1 hn hC;obtain⟨a,b,c⟩:=l;obtain⟨x,y,z⟩:=m;simp only at*;have e1:a*y=b*x:=by
  have:((a*y:Int):Rat)=((b*x:Int):Rat):=by rw[cS,cS];grind
  exact mY.1 this
 have e2:a*z=c*x:=by
  have:((a*z:Int):Rat)=((c*x:Int):Rat):=by rw[cS,cS];grind
  exact mY.1 this
 have e3:b*z=c*y:=by
  have:((b*z:Int):Rat)=((c*y:Int):Rat):=by rw[cS,cS];grind
  exact mY.1 this
 rcases axC e1 e2 e3 hl.2 hm.2 with⟨rfl,rfl,rfl⟩|⟨rfl,rfl,rfl⟩
 .exact .inl J
 .exact .inr J
def aa.ok.rev{l:aa}(h:l.ok):l.rev.ok:=by
 obtain⟨h1,h2⟩:=h;refine⟨?_,?_⟩
 .simp only[aa.rev];omega
 .simp only[aa.rev,jX];exact h2
def Sq(l:aa): ∀c:av,(∀s∈c,pf l s<=0/\s.l≠l)-> ¬0<o9 l c
 |[],_=>by simp[o9]
 |s::c,h=>by
  have h':=dR.1 h;unfold o9;rw[if_neg h'.1.2];split
  .have:=h'.1.1;omega
  .exact Sq l c h'.2
def P'{c:av}{l:aa}(hc:bF c)(hl:l.ok)(hp:kv c l=none):
  (0<o9 l c/\ ∀p,bA c p->0<l.value p)\/(¬0<o9 l c/\ ∀p,bA c p->l.value p<0):=by
 have hoff:=fun p (h:bA c p)=>aBU hl.ne hp h;by_cases hq: ∃q,bA c q/\0<l.value q
 .left
  obtain⟨q,hq,lq⟩:=hq;have hall: ∀p,bA c p->0<l.value p:=by
   intro p h;have:=hoff p h;by_cases h0:0<l.value p
   .exact h0
   .exfalso
    have hn:l.value p<0:=by grind
    have e1:l.value q/(l.value q-l.value p)*(l.value q-l.value p)=l.value q:=by grind
    generalize l.value q/(l.value q-l.value p)=e at*;have f0:0<=e:=(iw (k:=l.value q-l.value p) omb).1 omb;have f1:e<=1:=by
     have:=(iw (s:=1-e) (k:=l.value q-l.value p) omb).1 omb;grind
    exact hoff _ (hq.seg h f0 f1) (by rw[lH];grind)
  refine⟨?_,hall⟩
  cases c with
  |nil=>simp[kv,oh] at hp
  |cons s c=>
   obtain⟨p1,p2⟩:=hc.edge s aZ;have hi:=pn p1;have hr:=tO hc.ne hall ((p2 _).1 hi.has);unfold o9;by_cases h0:pf l s=0
   .rw[if_neg (by simpa using h0)]
    have hz:l.value (s.l.at s.v.sample)=0:=(qg _).1 h0;have hge: ∀t,s.v.has t->0<=l.value (s.l.at t):=fun t ht=>tO hc.ne hall ((p2 t).1 ht);obtain⟨⟨u1,m1,n1⟩,⟨u2,m2,n2⟩⟩:=JX hi;have g1:=hge _ n1;have g2:=hge _ n2;rw[mG] at hz g1 g2;have hK:s.l.cutK l=0:=by
     rcases kt (s.l.cutK l) with h|h|h
     .exact h
     .exfalso
      have:=dx (a:=s.v.sample-u1) (b:=s.l.cutK l) omb h;grind
     .exfalso
      have:=dx (a:=u2-s.v.sample) (b:= -s.l.cutK l) omb omb;grind
    have hz2: ∀t,l.value (s.l.at t)=0:=fun t=>by rw[mG,hK];rw[hK] at hz;grind
    rcases zq hl (hc.ok s aZ) hz2 with h|h
    .rw[if_pos h.symm];decide
    .exfalso
     have:=hall q hq;rw[h,fA] at this;have:=hq s aZ;grind
   .rw[if_pos h0]
    have hz:l.value (s.l.at s.v.sample)≠0:=fun e=>h0 ((qg _).2 e);exact(mO _).2 omb
 .right
  have hall: ∀p,bA c p->l.value p<0:=fun p h=>by
   have:=hoff p h;have: ¬0<l.value p:=fun h'=>hq ⟨p,h,h'⟩;grind
  refine⟨Sq l c fun s hs=>?_,hall⟩;obtain⟨p1,p2⟩:=hc.edge s hs;have hr:=tO (m:=l.rev) hc.ne (fun p h=>by rw[fA];have:=hall p h;grind) ((p2 _).1 (pn p1).has);rw[fA] at hr;constructor
  .have: ¬0<pf l s:=fun h=>by have:=(mO _).1 h;grind
   omega
  .rintro rfl
   obtain⟨p,hp⟩:=hc.ne;have:=hall p hp;have:=hp s hs;grind
def qF{c:av}{l:aa}(hc:bF c)(hl:l.ok):cx c l=true↔ ∃p,bA c p/\0<l.value p:=by
 unfold cx
 cases hp:kv c l with
 |some v=>exact⟨fun _=>(J' hl.ne hp).1,fun _=>J⟩
 |none=>
  simp only[w6,hp,Option.isSome_none,lQ,if_false,decide_eq_true_iff];rcases P' hc hl hp with⟨h1,h2⟩|⟨h1,h2⟩
  .refine⟨fun _=>?_,fun _=>h1⟩
   obtain⟨p,hp⟩:=hc.ne;exact⟨p,hp,h2 p hp⟩
  .refine⟨fun h=>absurd h h1,?_⟩
   rintro ⟨p,hp,h⟩;have:=h2 p hp;grind
def gO{c:av}{l:aa}(hc:bF c)(hl:l.ok)(hb:cx c l=true):bF (bE c l)/\ ∀p,bA (bE c l) p↔bA c p/\0<l.value p:=by
 unfold bE
 cases hp:kv c l with
 |some v=>exact auX hc hl hp
 |none=>
  refine⟨hc,fun p=>?_⟩;unfold cx at hb;simp only[hp,w6,Option.isSome_none,lQ,if_false,decide_eq_true_iff] at hb;rcases P' hc hl hp with⟨h1,h2⟩|⟨h1,h2⟩
  .exact⟨fun h=>⟨h,h2 p h⟩,fun h=>h.1⟩
  .exact absurd hb h1
def Qw{c:av}{l:aa}(hl:l.ok)(hp:bA c p)(h0:l.value p=0):(∃q,bA c q/\0<l.value q)/\ ∃q,bA c q/\l.value q<0:=by
 have hn:=nE hl.ne;constructor
 .obtain⟨e,he,hm⟩:=hp.open l.nor
  refine⟨_,hm e (dX he) iS,?_⟩;rw[jD,h0];have:=dx he hn;grind
 .obtain⟨e,he,hm⟩:=hp.open ⟨-l.nor.x, -l.nor.y⟩
  refine⟨_,hm e (dX he) iS,?_⟩;rw[jD,h0];have:=dx he hn;simp only[ah.dot] at this⊢;grind
inductive aNF (c:av) (l:aa):Prop
 |left (h1:cx c l.rev=false) (h: ∀p,bA c p->0<l.value p)
 |right (h1:cx c l.rev=true) (h2:cx c l=false) (h: ∀p,bA c p->l.value p<0)
 |both (h1:cx c l.rev=true) (h2:cx c l=true) (g1:bF (bE c l)) (g2:bF (bE c l.rev))
   (e1: ∀p,bA (bE c l) p↔bA c p/\0<l.value p) (e2: ∀p,bA (bE c l.rev) p↔bA c p/\l.value p<0)
def BJ{c:av}{l:aa}(hc:bF c)(hl:l.ok):aNF c l:=by
 have hr:=qF hc hl.rev;have hi:=qF hc hl
 cases h1:cx c l.rev with
 |false=>
  refine .left h1 fun p hp=>?_;have hn: ¬ ∃q,bA c q/\l.value q<0:=by
   rintro ⟨q,a,b⟩;have:=hr.2 ⟨q,a,by rw[fA];grind⟩;rw[h1] at this;exact absurd this oma
  have n1: ¬l.value p<0:=fun h=>hn ⟨p,hp,h⟩;have n2:l.value p≠0:=fun h=>hn (Qw hl hp h).2;grind
 |true=>
  cases h2:cx c l with
  |false=>
   refine .right h1 h2 fun p hp=>?_;have hn: ¬ ∃q,bA c q/\0<l.value q:=by
    intro h;have:=hi.2 h;rw[h2] at this;exact absurd this oma
   have n1: ¬0<l.value p:=fun h=>hn ⟨p,hp,h⟩;have n2:l.value p≠0:=fun h=>hn (Qw hl hp h).1;grind
  |true=>
   obtain⟨g1,e1⟩:=gO hc hl h2;obtain⟨g2,e2⟩:=gO hc hl.rev h1;refine .both h1 h2 g1 g2 e1 fun p=>?_;rw[e2,fA];constructor<;>rintro ⟨a,b⟩<;>exact⟨a,omb⟩
def Tr.restrict_A{l:aa}(X Y:Tr)(h:cx e l.rev=false):(Tr.node l X Y).restrict e=X.restrict e:=by
 rw[Tr.restrict,h];rfl
def Tr.restrict_B{l:aa}(X Y:Tr)(h:cx e l.rev=true)(h2:cx e l=false):(Tr.node l X Y).restrict e=Y.restrict e:=by
 rw[Tr.restrict,h,h2];rfl
def Tr.restrict_C{l:aa}(X Y:Tr)(h:cx e l.rev=true)(h2:cx e l=true):(Tr.node l X Y).restrict e=Tr.joinQ l (X.restrict (bE e l)) (Y.restrict (bE e l.rev)):=by
 rw[Tr.restrict,h,h2];rfl
def eO:List aa->av->Option av
 |[],c=>some c
 |l::t,c=>if cx c l then eO t (bE c l) else none
def AH: ∀{ls:List aa} {c e:av},bF c->(∀l∈ls,l.ok)->eO ls c=some e->bF e/\ ∀p,bA e p↔bA c p/\ ∀l∈ls,0<l.value p
 |[],c,e,hc,_,h=>by
  obtain rfl:c=e:=by simpa[eO] using h
  exact⟨hc,fun p=>⟨fun h=>⟨h,fun l hl=>absurd hl omc⟩,fun h=>h.1⟩⟩
 |l::t,c,e,hc,hl,h=>by
  have hl':=dR.1 hl;rw[eO] at h;split at h
  .rename_i hb
   obtain⟨g1,g2⟩:=gO hc hl'.1 hb;obtain⟨k1,k2⟩:=AH g1 hl'.2 h;refine⟨k1,fun p=>?_⟩;rw[k2,g2,dR,and_assoc]
  .exact absurd h omc
def Hh: ∀{ls:List aa} {c:av},bF c->(∀l∈ls,l.ok)->(∃p,bA c p/\ ∀l∈ls,0<l.value p)-> ∃e,eO ls c=some e
 |[],c,_,_,_=>⟨c,J⟩
 |l::t,c,hc,hl,⟨p,h1,h2⟩=>by
  have hl':=dR.1 hl;have h2':=dR.1 h2;have hb:=(qF hc hl'.1).2 ⟨p,h1,h2'.1⟩;obtain⟨g1,g2⟩:=gO hc hl'.1 hb;rw[eO,if_pos hb];exact Hh g1 hl'.2 ⟨p,(g2 p).2 ⟨h1,h2'.1⟩,h2'.2⟩
def UL: ∀{ls:List aa} {c e:av},eO ls c=some e->e.length<=c.length+ls.length
 |[],c,e,h=>by
  obtain rfl:c=e:=by simpa[eO] using h
  simp
 |l::t,c,e,h=>by
  rw[eO] at h;split at h
  .have h1:=UL h
   have h2:=sh c l;simp only[bZ];omega
  .exact absurd h omc
def P5{c:av}(hc:bF c){s:bB}(hs:s∈c)(hm:m.ok)(h: ∀p,bA c p->0<m.value p)(hz:m.value (s.l.at s.v.sample)=0):m=s.l:=by
 obtain⟨p1,p2⟩:=hc.edge s hs;have hi:=pn p1;have hge: ∀t,s.v.has t->0<=m.value (s.l.at t):=fun t ht=>tO hc.ne h ((p2 t).1 ht);obtain⟨⟨u1,m1,n1⟩,⟨u2,m2,n2⟩⟩:=JX hi;have g1:=hge _ n1;have g2:=hge _ n2;rw[mG] at hz g1 g2;have hK:s.l.cutK m=0:=by
  rcases kt (s.l.cutK m) with h|h|h
  .exact h
  .exfalso
   have:=dx (a:=s.v.sample-u1) (b:=s.l.cutK m) omb h;grind
  .exfalso
   have:=dx (a:=u2-s.v.sample) (b:= -s.l.cutK m) omb omb;grind
 have hz2: ∀t,m.value (s.l.at t)=0:=fun t=>by rw[mG,hK];rw[hK] at hz;grind
 rcases zq hm (hc.ok s hs) hz2 with h'|h'
 .exact h'
 .exfalso
  obtain⟨q,hq⟩:=hc.ne;have:=h q hq;rw[h',fA] at this;have:=hq s hs;grind
def ge(l:aa):List aa->au->Option au
 |[],v=>some v
 |m::t,v=>if m=l then ge l t v else if l.cutB v m then ge l t (l.cutV v m) else none
def gq(c:List aa)(p:ah):Prop:= ∀m∈c,0<m.value p
def Cy(l:aa): ∀(c:List aa) (v w:au),v.Pos->ge l c v=some w->
  w.Pos/\(∀t,w.ins t↔v.ins t/\ ∀m∈c,m≠l->0<m.value (l.at t))
 |[],v,w,hv,h=>by
  obtain rfl:v=w:=by simpa[ge] using h
  exact⟨hv,fun t=>⟨fun h=>⟨h,fun s hs=>absurd hs omc⟩,fun h=>h.1⟩⟩
 |m::c,v,w,hv,h=>by
  rw[ge] at h;split at h
  .rename_i hm
   obtain⟨h1,h2⟩:=Cy l c _ w hv h;refine⟨h1,fun t=>?_⟩;rw[h2,dR];exact⟨fun h=>⟨h.1,fun h'=>absurd hm h',h.2⟩,fun h=>⟨h.1,h.2.2⟩⟩
  .rename_i hm
   split at h
   .rename_i hb
    obtain⟨h1,h2⟩:=Cy l c _ w (Ag hv hb) h;refine⟨h1,fun t=>?_⟩;rw[h2,UF hb,dR,and_assoc];exact⟨fun h=>⟨h.1,fun _=>h.2.1,h.2.2⟩,fun h=>⟨h.1,h.2.1 hm,h.2.2⟩⟩
   .exact absurd h omc
def HE(l:aa): ∀(c:List aa) (v:au),v.Pos->ge l c v=none-> ∀t,v.has t-> ¬ ∀m∈c,m≠l->0<m.value (l.at t)
 |[],v,hv,h=>by simp[ge] at h
 |m::c,v,hv,h=>by
  intro t ht hd;have hd':=dR.1 hd;rw[ge] at h;split at h
  .exact HE l c _ hv h t ht hd'.2
  .rename_i hm
   split at h
   .rename_i hb
    exact HE l c _ (Ag hv hb) h t ((Fi hb t).2 ⟨ht,dX (hd'.1 hm)⟩) hd'.2
   .rename_i hb
    have:=J4 hv ozF ht;have:=hd'.1 hm;grind
def mF(c:List aa):Bool:=c.isEmpty||c.any (fun l=>(ge l c au.all).isSome)
def QA: ∀{ls:List aa} {c e:av},eO ls c=some e-> ∀s∈e,s.l∈ls\/ ∃s'∈c,s'.l=s.l
 |[],c,e,h,s,hs=>by
  obtain rfl:c=e:=by simpa[eO] using h
  exact .inr ⟨s,hs,J⟩
 |l::t,c,e,h,s,hs=>by
  rw[eO] at h;split at h
  .rcases QA h s hs with h1|⟨s',h1,h2⟩
   .exact .inl (aJ _ h1)
   .unfold bE at h1
    split at h1
    .rcases ra.1 h1 with rfl|h1
     .exact .inl (by rw[<-h2];exact aZ)
     .obtain⟨s1,m1,_,rfl⟩:=sg.1 h1
      exact .inr ⟨s1,m1,h2⟩
    .exact .inr ⟨s',h1,h2⟩
  .exact absurd h omc
def Ec{c:List aa}(hok: ∀l∈c,l.ok)(hne: ∃p,gq c p): ∃e,eO c []=some e/\bF e/\(∀p,bA e p↔gq c p)/\ ∀s∈e,s.l∈c/\(ge s.l c au.all).isSome=true:=by
 obtain⟨p,hp⟩:=hne;obtain⟨e,he⟩:=Hh bF.nil hok ⟨p,fun s hs=>absurd hs omc,hp⟩;obtain⟨g1,g2⟩:=AH bF.nil hok he;have g3: ∀p,bA e p↔gq c p:=fun p=>by
  rw[g2];exact⟨fun h=>h.2,fun h=>⟨fun s hs=>absurd hs omc,h⟩⟩
 refine⟨e,he,g1,g3,fun s hs=>?_⟩;have hm:s.l∈c:=by
  rcases QA he s hs with h|⟨_,h,_⟩
  .exact h
  .exact absurd h omc
 refine⟨hm,?_⟩
 cases hp:ge s.l c au.all with
 |some w=>rfl
 |none=>
  exfalso;obtain⟨p1,p2⟩:=g1.edge s hs;have hC:=(p2 s.v.sample).1 (pn p1).has;refine HE s.l c _ z7 hp s.v.sample (Ju _) fun m hmc hne=>?_;have hall: ∀p,bA e p->0<m.value p:=fun p hp=>(g3 p).1 hp m hmc;have h0:=tO g1.ne hall hC;have h1:m.value (s.l.at s.v.sample)≠0:=fun hz=>hne (P5 g1 hs (hok m hmc) hall hz);grind
def TL{c:List aa}(hok: ∀l∈c,l.ok):mF c=true↔ ∃p,gq c p:=by
 unfold mF;rw[iV,List.isEmpty_iff,kZ];constructor
 .rintro (rfl|⟨l,hl,h⟩)
  .exact⟨⟨0,0⟩,fun m hm=>absurd hm omc⟩
  .obtain⟨w,hw⟩:=qM.1 h
   obtain⟨w1,w2⟩:=Cy l c _ w z7 hw;have hi:=((w2 w.sample).1 (pn w1)).2;have h0:=mn (hok l hl).ne w.sample;have hd:bA ((c.filter (fun m=>decide (m≠l))).map (fun m=>(⟨m,au.all⟩:bB))) (l.at w.sample):=by
    intro s hs;obtain⟨m,hm,rfl⟩:=aU.1 hs;rw[nX,decide_eq_true_iff] at hm;exact hi m hm.1 hm.2
   obtain⟨e,he,ho⟩:=hd.open l.nor;refine⟨de (l.at w.sample) l.nor e,fun m hm=>?_⟩;by_cases hml:m=l
   .subst hml
    rw[jD,h0];have:=dx he (nE (hok m hl).ne);grind
   .exact ho e (dX he) iS ⟨m,au.all⟩ (aU.2 ⟨m,nX.2 ⟨hm,by simpa using hml⟩,J⟩)
 .intro hne
  obtain⟨e,h1,h2,h3,h4⟩:=Ec hok hne
  cases c with
  |nil=>exact .inl J
  |cons l c=>
   right
   cases e with
   |nil=>
    exfalso;have:=(h3 (l.at 0)).1 (fun s hs=>absurd hs omc) l aZ;rw[mn (hok l aZ).ne] at this;exact absurd this oma
   |cons s e=>
    obtain⟨a,b⟩:=h4 s aZ;exact⟨s.l,a,b⟩
def ou(out:List aa)(l:aa):Nat:=(out.takeWhile (fun x=>decide (gm x.dir l.dir<0))).length
def qe(out:List aa)(l:aa):List aa:=if out[ou out l]? =some l then out else out.take (ou out l)++l::out.drop (ou out l)
def n4(c:List aa):List aa->List aa->List aa
 |[],out=>out
 |l::t,out=>n4 c t (if(ge l c au.all).isSome then qe out l else out)
def im(c:List aa):List aa:=n4 c c []
def KA{out:List aa}{l:aa}:m∈qe out l↔m=l\/m∈out:=by
 unfold qe;split
 .rename_i h
  exact⟨fun h=> .inr h,fun h'=>h'.elim (fun e=>e▸aK h) id⟩
 .generalize ou out l=n
  have h:=jR n out;rw[bX,aW];constructor
  .rintro (h1|h1|h1)
   .exact .inr (fW h1)
   .exact .inl h1
   .exact .inr (gS h1)
  .rintro (h1|h1)
   .exact .inr (.inl h1)
   .rw[<-h,bX] at h1
    rcases h1 with h1|h1
    .exact .inl h1
    .exact .inr (.inr h1)
def NI{c:List aa}{m:aa}: ∀{t out:List aa},m∈n4 c t out↔m∈out\/m∈t/\(ge m c au.all).isSome=true
 |[],out=>by simp[n4]
 |l::t,out=>by
  rw[n4,NI];split
  .rename_i h
   rw[KA,aW];constructor
   .rintro ((rfl|h1)|⟨h1,h2⟩)
    .exact .inr ⟨.inl J,h⟩
    .exact .inl h1
    .exact .inr ⟨.inr h1,h2⟩
   .rintro (h1|⟨rfl|h1,h2⟩)
    .exact .inl (.inr h1)
    .exact .inl (.inl J)
    .exact .inr ⟨h1,h2⟩
  .rename_i h
   rw[aW];constructor
   .rintro (h1|⟨h1,h2⟩)
    .exact .inl h1
    .exact .inr ⟨.inr h1,h2⟩
   .rintro (h1|⟨rfl|h1,h2⟩)
    .exact .inl h1
    .exact absurd h2 h
    .exact .inr ⟨h1,h2⟩
def uF{c:List aa}:m∈im c↔m∈c/\(ge m c au.all).isSome=true:=by
 unfold im;rw[NI];simp
def M7{c:List aa}(hok: ∀l∈c,l.ok)(hne: ∃p,gq c p)(p:ah):gq (im c) p↔gq c p:=by
 constructor
 .intro h
  obtain⟨e,h1,h2,h3,h4⟩:=Ec hok hne;exact(h3 p).1 fun s hs=>h s.l (uF.2 (h4 s hs))
 .intro h m hm;exact h m (uF.1 hm).1
def um(c:List aa)(l:aa):Int:=if mF (c++[l])&&mF (c++[l.rev]) then 0 else if mF (c++[l]) then 1 else-1
def Tr.restrictL:Tr->List aa->Tr
 | .leaf b,_=> .leaf b
 | .node l x y,c=>if um c l=1 then x.restrictL c else if um c l= -1 then y.restrictL c else joinQ l (x.restrictL (im (c++[l]))) (y.restrictL (im (c++[l.rev])))
def vC{c:List aa}{l:aa}:gq (c++[l]) p↔gq c p/\0<l.value p:=by
 unfold gq;rw[rN];simp
def pg{c:List aa}{l:aa}(hok: ∀m∈c,m.ok)(hl:l.ok): ∀m∈c++[l],m.ok:=by
 rw[rN];exact⟨hok,by simpa using hl⟩
def Tr.restrictL_eq: ∀(t:Tr) (c:List aa) (d:av),t.all aa.ok->(∀l∈c,l.ok)->bF d->(∀p,bA d p↔gq c p)->t.restrictL c=t.restrict d
 | .leaf b,c,d,_,_,_,_=>rfl
 | .node l x y,c,d,h,hc,hd,he=>by
  obtain⟨hl,hx,hy⟩:=h;have i1:=TL (pg hc hl);have i2:=TL (pg hc hl.rev);obtain⟨p0,hp0⟩:=hd.ne;rcases BJ hd hl with⟨a1,a⟩|⟨a1,a2,a⟩|⟨a1,a2,ag1,ag2,ae1,ae2⟩
  .have b1:mF (c++[l])=true:=i1.2 ⟨p0,vC.2 ⟨(he p0).1 hp0,a p0 hp0⟩⟩
   have b2:mF (c++[l.rev])=false:=by
    rw[<-kX,i2];rintro ⟨p,hp⟩;have hp:=vC.1 hp;have:=a p ((he p).2 hp.1);rw[fA] at hp;grind
   rw[Tr.restrict_A _ _ a1,Tr.restrictL,um,b1,b2];exact x.restrictL_eq c d hx hc hd he
  .have b2:mF (c++[l.rev])=true:=i2.2 ⟨p0,vC.2 ⟨(he p0).1 hp0,by rw[fA];have:=a p0 hp0;grind⟩⟩
   have b1:mF (c++[l])=false:=by
    rw[<-kX,i1];rintro ⟨p,hp⟩;have hp:=vC.1 hp;have:=a p ((he p).2 hp.1);grind
   rw[Tr.restrict_B _ _ a1 a2,Tr.restrictL,um,b1,b2];exact y.restrictL_eq c d hy hc hd he
  .have n1: ∃p,gq (c++[l]) p:=by
    obtain⟨p,hp⟩:=ag1.ne;exact⟨p,vC.2 ⟨(he p).1 ((ae1 p).1 hp).1,((ae1 p).1 hp).2⟩⟩
   have n2: ∃p,gq (c++[l.rev]) p:=by
    obtain⟨p,hp⟩:=ag2.ne;exact⟨p,vC.2 ⟨(he p).1 ((ae2 p).1 hp).1,by rw[fA];have:=((ae2 p).1 hp).2;grind⟩⟩
   rw[Tr.restrict_C _ _ a1 a2,Tr.restrictL,um,i1.2 n1,i2.2 n2];have k1:=x.restrictL_eq (im (c++[l])) (bE d l) hx (fun m hm=>pg hc hl m (uF.1 hm).1) ag1 fun p=>by
    rw[M7 (pg hc hl) n1,ae1,vC,he]
   have k2:=y.restrictL_eq (im (c++[l.rev])) (bE d l.rev) hy (fun m hm=>pg hc hl.rev m (uF.1 hm).1) ag2 fun p=>by
    rw[M7 (pg hc hl.rev) n2,ae2,vC,he,fA];constructor<;>rintro ⟨a,b⟩<;>exact⟨a,omb⟩
   rw[k1,k2];rfl
def crossI(l m:aa):Int:=l.a*m.b-m.a*l.b
def meetX(l m:aa):Int:=l.b*m.c-m.b*l.c
def meetY(l m:aa):Int:=m.a*l.c-l.a*m.c
def dw(l m:aa):ah:=if crossI l m=0 then⟨0,0⟩ else⟨(meetX l m:Rat)/(crossI l m:Rat),(meetY l m:Rat)/(crossI l m:Rat)⟩
def ir(l:aa)(p:ah):Rat:=p.dot l.dir/l.dir.dot l.dir
def Ky(l:aa):l.dir.dot l.dir=l.nor.dot l.nor:=by
 simp only[aa.dir,aa.nor,ah.dot];grind
def BE{l:aa}(h:l.Ne):0<l.dir.dot l.dir:=by rw[Ky];exact nE h
def vO(l m:aa):((crossI l m:Int):Rat)=(l.a:Rat)*m.b-(m.a:Rat)*l.b:=by
 unfold crossI;rw[jM,cS,cS]
def IF(l m:aa):((meetX l m:Int):Rat)=(l.b:Rat)*m.c-(m.b:Rat)*l.c:=by
 unfold meetX;rw[jM,cS,cS]
def Qo(l m:aa):((meetY l m:Int):Rat)=(m.a:Rat)*l.c-(l.a:Rat)*m.c:=by
 unfold meetY;rw[jM,cS,cS]
def EY(l m:aa):l.cutK m= -((crossI l m:Int):Rat):=by
 rw[vO];simp only[aa.cutK,aa.nor,aa.dir,ah.dot];grind
def LU(l m:aa):m.dir.cross l.dir=l.cutK m:=by
 simp only[aa.cutK,aa.nor,aa.dir,ah.dot,ah.cross];grind
def LR{l:aa}:(⟨-((l.c:Rat)/l.dir.dot l.dir)*(l.a:Rat), -((l.c:Rat)/l.dir.dot l.dir)*(l.b:Rat)⟩:ah)=l.base:=by
 unfold aa.base;rw[Ky];simp only[aa.nor,ah.scale,ah.mk.injEq];constructor<;>grind
def yU(l:aa)(t:Rat):de l.base l.dir t=l.at t:=by
 simp only[de,aa.at,ah.add,ah.scale,ah.mk.injEq];constructor<;>grind
def Gd{l:aa}(hl:l.Ne)(h:crossI l m≠0):ir l (dw l m)= -(l.cutC m/l.cutK m):=by
 have hd:((crossI l m:Int):Rat)≠0:=fun e=>h (cX.1 e);have hn:=BE hl;obtain⟨q,q1,q2⟩:=Bd hl;rw[EY];unfold ir dw aa.cutC;rw[if_neg h,q2,jy,IF,Qo];have hc:=vO l m;rw[Ky] at hn⊢;simp only[aa.dir,aa.nor,ah.dot] at hn q1⊢;generalize ((crossI l m:Int):Rat)=d at*;generalize (l.a:Rat)=a at*;generalize (l.b:Rat)=b at*;generalize (l.c:Rat)=c at*;generalize (m.a:Rat)=x at*;generalize (m.b:Rat)=y at*;generalize (m.c:Rat)=z at*;have hn':a*a+b*b≠0:=by grind
 have e:((b*z-y*c)/d*b+(x*c-a*z)/d* -a)=((b*z-y*c)*b-(x*c-a*z)*a)/d:=by grind
 rw[e];have k1:(b*z-y*c)*b-(x*c-a*z)*a=(a*a+b*b)*(x*(a*q)+y*(b*q)+z):=by grind
 rw[k1];grind
def auh{l:aa}(hl:l.Ne)(h:crossI l m≠0):ir l (dw l m)*((crossI l m*(l.a*l.a+l.b*l.b):Int):Rat)=((meetX l m*l.b-meetY l m*l.a:Int):Rat):=by
 have hd:((crossI l m:Int):Rat)≠0:=fun e=>h (cX.1 e);have hn:=BE hl;unfold ir dw;rw[if_neg h];simp only[cS,jM,nJ];simp only[aa.dir,ah.dot] at hn⊢;generalize ((crossI l m:Int):Rat)=d at*;generalize ((meetX l m:Int):Rat)=x at*;generalize ((meetY l m:Int):Rat)=y at*;generalize (l.a:Rat)=a at*;generalize (l.b:Rat)=b at*;have hn':b*b+ -a* -a≠0:=by grind
 grind
def KE(l m:aa)(t:List aa)(v:au):ge l (m::t) v=if m=l then ge l t v else if l.cutB v m then ge l t (l.cutV v m) else none:=rfl
def pG(v:au)(t:Rat):au:=if v.nl=true\/0<bw t v.lo then⟨t,v.hi,false,v.nh⟩ else v
def qz(v:au)(t:Rat):au:=if v.nh=true\/bw t v.hi<0 then⟨v.lo,t,v.nl,false⟩ else v
structure ik (v:au):Prop where
 lo:v.nl=true->v.lo=0
 hi:v.nh=true->v.hi=0
def awq(a b:Rat):0<bw a b↔b<a:=by
 unfold bw;split
 .constructor
  .intro h;exact absurd h oma
  .intro h;grind
 .split
  .exact⟨fun _=>by assumption,fun _=>by decide⟩
  .constructor
   .intro h;exact absurd h oma
   .intro h;exact absurd h ome
def Kr(a b:Rat):bw a b<0↔a<b:=by
 unfold bw;split
 .exact⟨fun _=>by assumption,fun _=>by decide⟩
 .split
  .constructor
   .intro h;exact absurd h oma
   .intro h;grind
  .constructor
   .intro h;exact absurd h oma
   .intro h;exact absurd h ome
def US{v:au}(h:ik v)(t:Rat):pG v t=v.meet ⟨t,0,false,true⟩:=by
 obtain⟨lo,hi,nl,nh⟩:=v;obtain⟨h1,h2⟩:=h;unfold pG au.meet;simp only[awq] at*
 cases nl<;>cases nh<;>simp at* <;>(try (split<;>split<;>simp_all<;>grind))<;>grind
def Ui{v:au}(h:ik v)(t:Rat):qz v t=v.meet ⟨0,t,true,false⟩:=by
 obtain⟨lo,hi,nl,nh⟩:=v;obtain⟨h1,h2⟩:=h;unfold qz au.meet;simp only[Kr] at*
 cases nl<;>cases nh<;>simp at* <;>(try (split<;>split<;>simp_all<;>grind))<;>grind
def ik.all:ik au.all:=⟨fun _=>J,fun _=>J⟩
def ik.lo'{v:au}(h:ik v)(t:Rat):ik (pG v t):=by
 obtain⟨lo,hi,nl,nh⟩:=v;unfold pG;split
 .exact⟨fun h=>by simp at h,h.hi⟩
 .exact h
def ik.hi'{v:au}(h:ik v)(t:Rat):ik (qz v t):=by
 obtain⟨lo,hi,nl,nh⟩:=v;unfold qz;split
 .exact⟨h.lo,fun h=>by simp at h⟩
 .exact h
def BT{l:aa}{v:au}(h:crossI l m=0):l.cutV v m=v/\(l.cutB v m=true↔0<m.value l.base):=by
 have hk:l.cutK m=0:=by rw[EY,h];rfl
 exact Be v hk
def aFh{l:aa}{v:au}(hl:l.Ne)(hz:ik v)(h:0<m.dir.cross l.dir):crossI l m≠0/\l.cutV v m=pG v (ir l (dw l m))/\l.cutB v m=!(pG v (ir l (dw l m))).empty:=by
 rw[LU] at h;have hc:crossI l m≠0:=fun e=>by rw[EY,e] at h;exact absurd h oma
 obtain⟨h1,h2⟩:=BO v h;refine⟨hc,?_,?_⟩
 .rw[US hz,Gd hl hc,h1]
 .rw[US hz,Gd hl hc,<-h1]
  rw[<-FN] at h2
  cases hb:l.cutB v m<;>cases he:(l.cutV v m).empty<;>simp_all
def aFV{l:aa}{v:au}(hl:l.Ne)(hz:ik v)(h0:crossI l m≠0)(h: ¬0<m.dir.cross l.dir):l.cutV v m=qz v (ir l (dw l m))/\l.cutB v m=!(qz v (ir l (dw l m))).empty:=by
 rw[LU] at h;have hk:l.cutK m≠0:=fun e=>by
  rw[EY] at e;have:((crossI l m:Int):Rat)=0:=by grind
  exact h0 (cX.1 this)
 obtain⟨h1,h2⟩:=BH (l:=l) (m:=m) v omb;refine⟨?_,?_⟩
 .rw[Ui hz,Gd hl h0,h1]
 .rw[Ui hz,Gd hl h0,<-h1]
  rw[<-FN] at h2
  cases hb:l.cutB v m<;>cases he:(l.cutV v m).empty<;>simp_all
def relo(fl:Nat->Bool)(o:aB):aB:={o with lo:=fl o.b}
structure iu (P:Program) (f:FuncId) (vs:List Value) (M:List aB) (G:Gh) (K:Value->List aB->Gh->Prop):Prop where
 able:s6 P f
 run: ∀w,bH ⟨w,G,M.map (·.b),[],[],none,fun _=>none⟩ (asB M) G w->
  Calls P f ⟨vs⟩ w fun e w'=> ∃v own' G',e= .returned v/\bH ⟨w,G,M.map (·.b),[],[],none,fun _=>none⟩ own' G' w'/\K v own' G'
def gI(M:List aB)(b:Nat):Bool:=M.all fun m=>!Nat.beq m.b b||m.lo
def bH.calledO{rest:List aB}(h:bH C (M++rest) G w)(k:bH ⟨w,G,M.map (·.b),[],[],none,fun _=>none⟩ own' G' w'):
  bH C (own'.map (relo (gI M))++rest) G' w':=by
 have hsz:w.heap.size<=w'.heap.size:=k.size;have hnd:=h.nd;have inM: ∀b,b∈M.map (·.b)-> ∀o∈rest,o.b≠b:=fun b hb o ho e=>by
  obtain⟨m,hm,rfl⟩:=aU.1 hb;exact(gR.1 hnd).2.2 m hm o ho e.symm
 have bnd: ∀o∈own',o.b∉M.map (·.b)->w.heap.size<=o.b:=fun o ho hb=>by
  obtain⟨_,_,h3,h4⟩:=k.hown o ho
  cases hlo:o.lo with
  |true=>exact h3 hlo
  |false=>exact absurd (h4 hlo) hb
 refine⟨k.os.trans h.os,k.tape.trans h.tape,k.output.trans h.output,cN h.size hsz,?_,k.sub,h.gle.trans k.gle,?_,?_,?_,cN h.dr k.dr,fun p hp=>⟨(h.ext p hp).1,by rw[k.keep _ (iO (h.ext p hp).2) (h.extM hp)];exact(h.ext p hp).2⟩⟩
 .intro b hb hm
  have hs:=h.size;have hnM:b∉M.map (·.b):=fun hb'=>by
   obtain⟨m,hmM,rfl⟩:=aU.1 hb';obtain⟨_,_,h3,h4⟩:=h.hown m (bM _ hmM)
   cases hlo:m.lo with
   |true=>have:=h3 hlo;omega
   |false=>exact hm (h4 hlo)
  rw[k.keep b omP hnM];exact h.keep b hb hm
 .intro b hb;have:=h.size;rw[k.gold b omP];exact h.gold b hb
 .intro o ho
  have hs:=h.size;rcases bX.1 ho with ho|ho
  .obtain⟨o',ho',rfl⟩:=aU.1 ho
   obtain⟨k1,k2,k3,k4⟩:=k.hown _ ho';refine⟨k1,k2,fun hl=>?_,fun hl=>?_⟩
   .show C.w0.heap.size<=o'.b
    by_cases hb:o'.b∈M.map (·.b)
    .obtain⟨m,hm,hmb⟩:=aU.1 hb
     have hl':gI M o'.b=true:=hl;have:=dJ.1 hl' m hm;simp only[hmb,iV,iT,oJ] at this;obtain⟨_,_,h3,_⟩:=h.hown m (bM _ hm);rw[<-hmb];exact h3 (by rcases this with h|h;(cases h);(exact h))
    .have:=bnd o' ho' hb;omega
   .show o'.b∈C.mb
    have hl':gI M o'.b=false:=hl;obtain⟨m,hm,hmb⟩:=sQ.1 hl';simp only[iV,iT,not_or] at hmb;obtain⟨h1,h2⟩:=hmb;have e:m.b=o'.b:=by
     cases hq:Nat.beq m.b o'.b with
     |true=>exact aN hq
     |false=>exact absurd hq h1
    obtain⟨_,_,_,h4⟩:=h.hown m (bM _ hm);rw[<-e];exact h4 (by cases hq:m.lo with
     |true=>exact absurd hq h2
     |false=>rfl)
  .obtain⟨h1,h2,h3⟩:=h.hown o (bU _ ho)
   have hnM:o.b∉M.map (·.b):=fun hb=>inM _ hb o ho J;exact⟨by rw[k.keep _ (iO h1) hnM];exact h1,by rw[k.gold _ (iO h1)];exact h2,h3⟩
 .refine gR.2 ⟨?_,(gR.1 hnd).2.1,?_⟩
  .rw[List.pairwise_map];exact k.nd
  .intro x hx y hy
   obtain⟨o',ho',rfl⟩:=aU.1 hx;show o'.b≠y.b;by_cases hb:o'.b∈M.map (·.b)
   .exact fun e=>inM _ hb y hy e.symm
   .have h1:=bnd o' ho' hb
    have h2:=iO (h.hown y (bU _ hy)).1;omega
def s7(C:aF)(K:Value->List aB->Gh->Prop):Ending->World->Prop:=fun e w'=> ∃v own' G',e= .returned v/\bH C own' G' w'/\K v own' G'
def iu.introR{fn:Func}{c:Code}{m:Nat}(hf:P.funcs[f]? =some fn)(hb:fn.body=some c)(hn:(fn.name== "runtime.NumGoroutine")=false)(hm:fn.ntmps=m)(hlen:Nat.ble vs.length m=true)
  (h: ∀C:aF,C.G0=G->C.mb=M.map (·.b)->C.rd=none->(C.fx=fun _=>none)->St C m (nP 0 vs) (asB M) G (c.wp P (eH C P fn (s7 C K)))):iu P f vs M G K:=by
 refine⟨⟨fn,hf,hn,by simp[hb]⟩,fun w hw=>?_⟩;have hlen':vs.length<=m:=by simpa using hlen
 have:=calls_of_wp (P:=P) (f:=f) (args:=⟨vs⟩) (w:=w) (R:=s7 ⟨w,G,M.map (·.b),[],[],none,fun _=>none⟩ K) hf hb (wp_mono (h ⟨w,G,M.map (·.b),[],[],none,fun _=>none⟩ J J J J _ w
  ⟨hw,by simp;omega,fun k v hk=>by
   obtain⟨j,rfl,hj⟩:=wD vs 0 k v hk;have hj':=(aT.1 hj).1;rw[lZ omO];simpa using hj,J⟩) fun _ _ _ k=>k J)
 exact this
def iu.intro{fn:Func}{c:Code}{m:Nat}(hf:P.funcs[f]? =some fn)(hb:fn.body=some c)(hn:(fn.name== "runtime.NumGoroutine")=false)(hm:fn.ntmps=m)(hlen:Nat.ble vs.length m=true)
  (h: ∀C:aF,C.G0=G->C.mb=M.map (·.b)->St C m (nP 0 vs) (asB M) G (c.wp P (eH C P fn (s7 C K)))):iu P f vs M G K:=
 iu.introR hf hb hn hm hlen fun C a b _ _=>h C a b
section
variable {own:List aB}
variable {t:TypeId}{gd:Option (Nat×Bool)}
def xQ{fn:Func}(hr:kh P fr own fn.results.toList vs)(own2 own3:List aB)(hp:own.Perm own2)(hs:own3.Sublist own2)(hk:K (m9 vs) own3 G):St C n fr own G (eH C P fn (s7 C K) .ret):=
 fun a w rl hmk=>⟨rl.df.trans hmk,_,r8 hr rl.fr rl.h,_,own3,G,J,(rl.h.perm hp).drop hs,hk⟩
def T3{c2:List Value}{rest:List aB}(ho:aD fr fo=some (.func (.func f) ⟨c1⟩ ⟨c2⟩))(hv:fG fr args.toList=some vs)
  (hp:own.Perm (M++rest))(hF:iu P f (c1++vs++c2) M G K)(hd:cg n dst=true)(h: ∀v own1 (G':Gh),[GE G G']->K v own1 G'->St C n (put fr dst v) (own1.map (relo (gI M))++rest) G' Φ):
  Ch P C n fr own G ⟨dst, .call ⟨.value fo,args,tys⟩,ty',pos,af,gd⟩ Φ:=by
 intro a w Q rl;have h2:=D6 (P:=P) (dst:=dst) (ty':=ty') (pos:=pos) (af:=af) (gd:=gd) (tys:=tys) (w:=w) hF.able rl.fr ho hv;simp only[Oper.wp,h2,Oper.upon];have hh0:=rl.h.perm hp;refine(hF.run w hh0.lend).mono ?_;rintro e w' ⟨v,own1,G',rfl,hh,hK⟩;exact @h v own1 G' ⟨hh.gle⟩ hK _ _ ((rl.heap (hh0.calledO hh)).put _ hd)
def xU{rest:List aB}(ho:aD fr fo=some (.func (.func f) #[] #[]))(hv:fG fr args.toList=some vs)
  (hp:own.Perm (M++rest))(hF:iu P f vs M G K)(hd:cg n dst=true)(h: ∀v own1 (G':Gh),[GE G G']->K v own1 G'->St C n (put fr dst v) (own1.map (relo (gI M))++rest) G' Φ):
  Ch P C n fr own G ⟨dst, .call ⟨.value fo,args,tys⟩,ty',pos,af,gd⟩ Φ:=
 T3 (c1:=[]) (c2:=[]) ho hv hp ozE hd h
def aI0{b:Nat}{cs:List Value}{lo:Bool}(hC:C.mb=[])(h:St C n fr (⟨b,cs,ty,true⟩::own) G Φ):St C n fr (⟨b,cs,ty,lo⟩::own) G Φ:=by
 intro a w rl
 cases lo with
 |true=>exact h a w rl
 |false=>
  have:=(rl.h.hown _ aZ).2.2.2 J;rw[hC] at this;cases this
end
section
variable {own:List aB}
variable {t:TypeId}{gd:Option (Nat×Bool)}{e:Nat}
def FK{v:Value}{b k:Nat}{cs:List Value}{lo:Bool}(hx:aD fr x=some (.pointer (some ⟨b,off,none⟩)))(hy:aD fr y=some v)[hs:ll P t k][ho:i7 own b cs ty lo]
  (hc:cH cs off (aG v)=cs')(hu:iq own b cs ty lo cs' own')(hk:(aG v).length=k)(hl:off+k<=cs.length)(hf:(aG v).all flat=true)(hd:cg n dst=true)(h:St C n (put fr dst undef) own' G Φ):
  Ch P C n fr own G ⟨dst, .store t x y,ty',pos,af,gd⟩ Φ:=Dm hx hy (hc▸hu) hk hl hf hd h
def zR{v:Value}{b:Nat}{cs:List Value}{lo:Bool}(hx:aD fr x=some (.pointer (some ⟨b,off,none⟩)))(hy:aD fr y=some v)[hs:kC P t][ho:i7 own b cs ty lo]
  (hc:cs.set off v=cs')(hu:iq own b cs ty lo cs' own')(hl:off<cs.length)(hf:flat v=true)(hd:cg n dst=true)(h:St C n (put fr dst undef) own' G Φ):
  Ch P C n fr own G ⟨dst, .store t x y,ty',pos,af,gd⟩ Φ:=vW hx hy (hc▸hu) hl hf hd h
def YL[hT:cD P t e s by_](hx:aD fr x=some (.slice ad len cap)):
  Yd P C fr own G ⟨dst, .call ⟨.builtin .cap, #[x], #[t]⟩,ty',pos,af,gd⟩ (.int .i64 cap):=by
 intro a w hf hh;simp only[execOp,resolve,iN,bV,iU,bC hf hx];have h1:(Builtin.cap_ #[t] ty' #[.slice ad len cap]).run P w= .ok (.int .i64 cap) w:=by
  simp only[Builtin.cap_];show(underlying t>>=_).run P w=_;rw[aP (hT.u w)];rfl
 exact c7 h1
def ZN[hT:cD P t e s by_]{b l c m:Nat}{cs:List Value}(hm:Nat.min l2 l=m)
  (hb:w.heap[b]? =some (.cells ⟨cs⟩ ty (0,0)))(hsy:(Builtin.firstCells s m (.slice ad2 l2 c2)).run P w= .ok ⟨ys⟩ w)(hf: ∀v∈ys,flat v=true)(hl:off+ys.length<=cs.length):
  (Builtin.copy_ #[t,t'] ty' #[.slice (some ⟨b,off,none⟩) l c, .slice ad2 l2 c2]).run P w=
   .ok (.int .i64 m) (ig w b (.cells ⟨cH cs off ys⟩ ty (0,0))):=by
 obtain⟨i,hi,his,hib⟩:=hT.info;subst his;have hst:=BF (P:=P) ys w off 0 cs hf hb we;rw[gK] at hst;subst hm;simp[Builtin.copy_,run_underlying hT.un,sizeOf,typeInfo,hi,Builtin.lenOf,hsy,hst];rfl
def T7[hT:cD P t e s by_]{b l c m:Nat}{cs:List Value}{lo:Bool}(hx:aD fr x=some (.slice (some ⟨b,off,none⟩) l c))(hy:aD fr y=some (.slice ad2 l2 c2))
  (hm:Nat.min l2 l=m)(hsy:m8 P C own G s m (.slice ad2 l2 c2) ys)(hf: ∀v∈ys,flat v=true)(hl:off+ys.length<=cs.length)(hu:iq own b cs ty lo (cH cs off ys) own')(hd:cg n dst=true)
  (h:St C n (put fr dst (.int .i64 m)) own' G Φ):Ch P C n fr own G ⟨dst, .call ⟨.builtin .copy, #[x,y], #[t,t']⟩,ty',pos,af,gd⟩ Φ:=by
 intro a w Q rl;have hb:=(rl.h.hown _ (hu.spec rl.h.nd).1).1;refine kO (v:= .int .i64 m) (w':=ig w b (.cells ⟨cH cs off ys⟩ ty (0,0))) ?_ (h _ _ ((rl.heap (rl.h.store hu)).put _ hd));simp only[execOp,resolve,iN,bV,iU,bC rl.fr hx,bC rl.fr hy];exact c7 (ZN hm hb (hsy w rl.h) hf hl)
def PO[hT:cD P t e s by_][hN:j0 P t']{b m:Nat}{cs:List Value}{lo:Bool}
  (hx:aD fr x=some (.slice (some ⟨b,0,none⟩) len cap))(hy:aD fr y=some (.slice ad2 m cap2))(hu:iq own b cs e lo (cH cs (len*s) ys) own')(hcs:cs.length=cap*s)
  (hsy:m8 P C own G s m (.slice ad2 m cap2) ys)(hys:ys.length=m*s)(hf: ∀v∈ys,flat v=true)(hneed:len+m<=cap)(hd:cg n dst=true)
  (h:St C n (put fr dst (.slice (some ⟨b,0,none⟩) (len+m) cap)) own' G Φ):
  Ch P C n fr own G ⟨dst, .call ⟨.builtin .append, #[x,y], #[t,t']⟩,ty',pos,af,gd⟩ Φ:=by
 intro a w Q rl;have hb:=(rl.h.hown _ (hu.spec rl.h.nd).1).1;refine kO (v:= .slice (some ⟨b,0,none⟩) (len+m) cap) (w':=ig w b (.cells ⟨cH cs (len*s) ys⟩ e (0,0))) ?_ (h _ _ ((rl.heap (rl.h.store hu)).put _ hd));simp only[execOp,resolve,iN,bV,iU,bC rl.fr hx,bC rl.fr hy];exact c7 (Kn hb hcs (hsy w rl.h) hys hf hneed)
def Km[hT:cD P t e s by_][hN:j0 P t']{z:Value}[hz:gv P e z]{b m:Nat}{lo:Bool}
  (hx:aD fr x=some (.slice (some ⟨b,0,none⟩) len cap))(hy:aD fr y=some (.slice ad2 m cap2))(hr:jE own ⟨b,xs++rest,e,lo⟩ own1)(hxs:xs.length=len*s)(hcap:xs.length+rest.length=cap*s)(hlc:len<=cap)
  (hsy:m8 P C own G s m (.slice ad2 m cap2) ys)(hys:ys.length=m*s)(hf: ∀v∈ys,flat v=true)
  (hby:0<by_)(hb:(len+m)*by_<=140737488355328)(hzs:(aG z).length=s)(hd:cg n dst=true)
  (h: ∀b lo' cap' rest',len+m<=cap'->rest'.length+(len+m)*s=cap'*s->St C n (put fr dst (.slice (some ⟨b,0,none⟩) (len+m) cap')) (⟨b,xs++ys++rest',e,lo'⟩::own1) G Φ):
  Ch P C n fr own G ⟨dst, .call ⟨.builtin .append, #[x,y], #[t,t']⟩,ty',pos,af,gd⟩ Φ:=by
 intro a w Q rl;have hp:=rl.h.perm hr.perm;have hblk:=(hp.hown _ aZ).1;simp only[] at hblk;by_cases hneed:len+m<=cap
 .have hcs:(xs++rest).length=cap*s:=by simp;omega
  have hrun:=Kn (P:=P) (t:=t) (t':=t') (ty':=ty') (w:=w) (len:=len) hblk hcs (hsy w rl.h) hys hf hneed;have hle:len*s+m*s<=cap*s:=by rw[<-dY];exact bR _ hneed
  have hov:cH (xs++rest) (len*s) ys=xs++ys++rest.drop (m*s):=by
   rw[rE _ _ _ (by rw[hys];omega),<-hxs];simp[hys,nT]
  refine kO (v:= .slice (some ⟨b,0,none⟩) (len+m) cap) (w':=ig w b (.cells ⟨cH (xs++rest) (len*s) ys⟩ e (0,0))) ?_ ?_
  .simp only[execOp,resolve,iN,bV,iU,bC rl.fr hx,bC rl.fr hy]
   exact c7 hrun
  .rw[hov]
   refine h b lo cap (rest.drop (m*s)) hneed ?_ _ _ ((rl.heap (hp.store (.hd ..))).put _ hd);rw[gW,dY];omega
 .have hx':m8 P C own G s len (.slice (some ⟨b,0,none⟩) len cap) xs:=fun w' hw'=>by
   have hb':=(((hw'.perm hr.perm).hown _ aZ).1);refine Cp hb' ?_;rw[ld _ _ _ omp,<-hxs];simp
  have hcap':len+m<=grownCap w (len+m) cap e:=by unfold grownCap;simp only[Question.cut];omega
  have hrun:=Hs (P:=P) (t:=t) (t':=t') (ty':=ty') (w:=w) (w':=w) (hx' _ rl.h.drew) (hsy _ rl.h.drew) we hby hb;refine kO (v:= .slice (some ⟨w.heap.size,0,none⟩) (len+m) (grownCap w (len+m) cap e)) (w':=w.drew.alloc (.cells ⟨xs++ys++dH z (grownCap w (len+m) cap e-(len+m))⟩ e)) ?_ ?_
  .simp only[execOp,resolve,iN,bV,iU,bC rl.fr hx,bC rl.fr hy]
   exact c7 hrun
  .refine h w.heap.size _ _ _ hcap' ?_ _ _ ((rl.heap (((hp.drew).drop (nK _ _)).alloc _ _)).put _ hd)
   rw[pu,hzs,<-dY];congr 1;omega
def Vo{fn:Func}(hf:P.funcs[f]? =some fn)(hname:(fn.name== "runtime.NumGoroutine")=false)(hb:fn.body.isNone=true)(hn:Extern.findNext fn=none)
  (he:Extern.find fn=some (Extern.SlicesOverlaps.overlaps #[tS,tS] #[tR]))[hT:cD P tS e s by_]
  {b1 b2 o1 o2 l1 c1:Nat}{lo1 lo2:Bool}(ho:aD fr fo=some (.func (.func f) #[] #[]))
  (hv:fG fr args.toList=some [.slice (some ⟨b1,o1,none⟩) l1 c1, .slice (some ⟨b2,o2,none⟩) l2 c2])[h1:i7 own b1 cs1 t1 lo1][h2:i7 own b2 cs2 t2 lo2](hne:b1≠b2)(hc2:cs2≠[]):
  Yd P C fr own G ⟨dst, .call ⟨.value fo,args,tys⟩,ty',pos,af,gd⟩ (.bool false):=by
 intro a w hfr hh;have e1:=(hh.hown _ h1.mem).1;have e2:=(hh.hown _ h2.mem).1;have ev:args.map a.eval=⟨[.slice (some ⟨b1,o1,none⟩) l1 c1, .slice (some ⟨b2,o2,none⟩) l2 c2]⟩:=by apply Array.ext';simpa using Ca hfr hv
 simp only[] at e1 e2;have hrun:=Lib.run_overlaps_apart (P:=P) w tS tR e hT.un s hT.siz ⟨b1,o1,none⟩ ⟨b2,o2,none⟩ l1 c1 l2 c2 hne t1 t2 cs1.length cs2.length
  (by simp[World.shape?,e1]) (by simp[World.shape?,e2]) (by simpa using hc2) (by simp[World.frozen?,e1]) (by simp[World.frozen?,e1])
 simp only[execOp,resolve,bC hfr ho,ev,Deferred.ofValue];show(invoke (.fn (.func f) #[]) _).run P w=_;simp only[invoke];have h3:=run_callFunc_extern (P:=P) hf hname hb hn he;rw[h3];simp[hrun,Result.andThen]
end
instance mz.cons2 (l m:List aB) (o:aB) [h:mz l m]:mz (o::l) (o::m):=⟨h.s.cons_cons o⟩
def dr0{own:List aB}{b:Nat}{cs:List Value}{lo:Bool}(fin:Nat->Bool)(π:List (Nat×Bool)){id:Nat}(hm:P.follows .mixedOrders=true)(_hr:jE own ⟨b,cs,ty,lo⟩ own0)(ho:(u9 ops fin π (Array.replicate ops.size false)&&Nat.ble π.length ops.size)=true)
  (h:St C n fr own G (i6 P ops (gG Q) (HS C own0 G) fin π)):St C n fr own G ((Code.region id ops true).wp P Q):=by
 simp only[bW] at ho;intro a w rl;exact wp_mono (wp_region_any hm (Cv _ _ _ _ (AT (fun _ _ _ _ _ h=>h) π _ a _ ho.1 (h a _ (rl.heap rl.h.drew)) _ (by simpa using ho.2)))) gG.imp
def aH(vs:List Value):List Value:=(vs.map aG).flatten
def fp{s:Nat}: ∀(vs:List Value),(∀v∈vs,(aG v).length=s)->(aH vs).length=vs.length*s
 |[],_=>by simp[aH]
 |v::vs,h=>by
  have h1:=fp vs (fun u hu=>h u (aJ _ hu));have h2:=h v aZ;unfold aH at*;simp only[bV,rS,aY,bZ,h1,h2,gQ];omega
def oE(us vs:List Value):aH (us++vs)=aH us++aH vs:=by simp[aH]
def xv(v:Value):aH [v]=aG v:=by simp[aH]
def Li{s:Nat}: ∀(vs:List Value) (i:Nat),(∀v∈vs,(aG v).length=s)->i<=vs.length->(aH vs).take (i*s)=aH (vs.take i)
 |vs,0,_,_=>by simp[aH]
 |[],i+1,_,h=>by simp at h
 |v::vs,i+1,h,hi=>by
  have h1:=Li vs i (fun u hu=>h u (aJ _ hu)) omV;have h2:=h v aZ;unfold aH at*;simp only[bV,rS,oU];rw[List.take_append,h2,bS (by rw[h2,gQ];omega),gQ,mM,h1]
def Ea{s:Nat}: ∀(vs:List Value) (i:Nat),(∀v∈vs,(aG v).length=s)->i<=vs.length->(aH vs).drop (i*s)=aH (vs.drop i)
 |vs,0,_,_=>by simp
 |[],i+1,_,h=>by simp at h
 |v::vs,i+1,h,hi=>by
  have h1:=Ea vs i (fun u hu=>h u (aJ _ hu)) omV;have h2:=h v aZ;unfold aH at*;simp only[bV,rS,uQ];rw[nT,h2,jW (by rw[h2,gQ];omega),gQ,mM,h1,kV]
theorem okW{p:Prop}(h:p:=by simp only[aY];omega):p:=h
def KD(h: ∀v∈vs,(aG v).length=s)(hi:i<vs.length):cw (aH vs++rest) (i*s) s=some (aG vs[i]):=by
 have hl:=fp vs h;have hle:i*s+s<=vs.length*s:=by rw[<-gQ];exact bR _ hi
 rw[ld _ _ _ okW];congr 1;rw[lS we,Ea vs i h we,bK hi];have h2:=h vs[i] (cR hi);rw[show(vs[i]::vs.drop (i+1))=[vs[i]]++vs.drop (i+1) from J,oE,xv,dV,gJ we,bS we]
def gp.of_flat{b c:Nat}(h: ∀v∈vs,(aG v).length=s)(hg:G b=some (aH vs++rest))(hc:vs.length<=c):gp G s ⟨some ⟨b,0,none⟩,vs.length,c⟩ vs:=
 ⟨J,hc, .inr ⟨b,0,_,J,hg,fun i hi=>by rw[eM];exact KD h hi⟩⟩
section
variable {own:List aB}
variable {gd:Option (Nat×Bool)}
def wH(own0:List aB)(fin:Nat->Bool)(π:List (Nat×Bool)){id:Nat}(hm:P.follows .mixedOrders=true)(ho:(u9 ops fin π (Array.replicate ops.size false)&&Nat.ble π.length ops.size)=true)
  (h:St C n fr own G (i6 P ops (gG Q) (HS C own0 G) fin π)):St C n fr own G ((Code.region id ops true).wp P Q):=by
 simp only[bW] at ho;intro a w rl;exact wp_mono (wp_region_any hm (Cv _ _ _ _ (AT (fun _ _ _ _ _ h=>h) π _ a _ ho.1 (h a _ (rl.heap rl.h.drew)) _ (by simpa using ho.2)))) gG.imp
end
section
variable {S:World->Prop}{π₂:List (Nat×Bool)}
end
structure FD where
 k:Nat
 d:Nat
 t:TypeId
 z:Value
abbrev Fs:=Nat->Option Nat
def Ij:List FD->Fs->Fr
 |[],_=>[]
 |f::r,fs=>fF f.d (fs f.k)++Ij r fs
def H':List FD->Fs->List aB
 |[],_=>[]
 |f::r,fs=>fO f.t f.z (fs f.k)++H' r fs
def PS(fd:List FD)(fs:Fs):List Nat:=(fd.filter fun f=>(fs f.k).isNone).map (·.k)
section
variable {own:List aB}{π π₂:List (Nat×Bool)}{fd:List FD}
end
end Go.Sx
end
