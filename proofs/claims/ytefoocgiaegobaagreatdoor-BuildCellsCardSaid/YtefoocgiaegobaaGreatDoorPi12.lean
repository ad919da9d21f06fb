import Derived.Test.YtefoocgiaegobaaGreatDoorPi11
set_option linter.all false
set_option maxHeartbeats 4000000
set_option maxRecDepth 100000
section
namespace Go.Sx
open Go Go.Proofs Tryz
variable {GB:Gh}
def V3{a b:Nat}(h:b<=a):(dg b).length<=(dg a).length:=CG (gJ h (tN a))
def wY{a b ia ib:Nat}[ha:BN a ia][hb:BN b ib](hb0:0<b)(hi:ia<=500000000:=by decide)(hj:ib<=500000000:=by decide):PF GB prog 247 [dN a,dN b] (.tp [dN (a/b),dN (a%b)]):=by
 have hla:=fm (dg a);have hlb:=fm (dg b);have hba:=l9 ha.h;have hbb:=l9 hb.h;have hba':(dg a).length<=20000000:=by omega
 have hbb':(dg b).length<=20000000:=by omega
 have hlb1:1<=(dg b).length:=Mk (k:=0) (by rw[rS];exact hb0);refine fn (fu:=⟨7⟩) func247 J J ntmps247 J J (fun C=>?_);refine mg (X:=Unit) (fun _=>[(0, .d (dN a)),(1, .d (dN b))]) (fun _=>[]) (fun _=>True) [0,1] [] rfl ?_ (fun _=>J) (fun _ hm=>?_)
 .
  refine gx J<|cl J (Du (a:=a) (ia:=ia) (by omega)) J<|?_;refine bd (fu1:=⟨0⟩) J J J (fun hc18=>?_) (fun hc18=>?_)
  .
   refine av 6 (.d (.v (.int .u64 (a:Nat)))) J (by rw[if_pos hc18]) ?_;refine gx J<|cl J (Du (a:=b) (ia:=ib) (by omega)) J<|?_;refine bd (fu1:=⟨0⟩) J J J (fun hc24=>?_) (fun hc24=>?_)
   .
    refine av 8 (.d (.v (.int .u64 (b:Nat)))) J (by rw[if_pos hc24]) ?_;have hdl:=kR a b;have hml:=Nat.mod_le a b;refine gx (hv:=by simp only[ah];exact⟨(by omega),(by omega),(by omega)⟩) J<|cl (hv:=by simp only[ah];exact⟨(by omega),(by omega)⟩) J (sH (u:=a/b) (by omega)) J<|cl J (sH (u:=a%b) (by omega)) J<|?_;exact rz J J
   .
    exact at_ () trivial
  .
   exact at_ () trivial
 .
  refine cl J (zc (by omega) (by omega)) J<|?_;refine br J J J (fun hc36=>?_) (fun hc36=>?_)
  .
   have hab:=xC.1 hc36;refine HL J J<|ap _ J J (vq _) J<|?_;refine mp 39 J ?_;exact rz J (by show DV.tp [_, .sl ([]++_)]= .tp [_,_];rw[jM hab,fW hab,vh];rfl)
  .
   have hab:b<=a:=sJ fun q=>hc36 (xC.2 q);have hlab:(dg b).length<=(dg a).length:=V3 hab;refine br (fu1:=⟨4⟩) J J J (fun hc42=>?_) (fun hc42=>?_)
   .
    have hb1:b<4294967296:=by have:=tN b;rw[show(dg b).length=1 by omega] at this;omega
    have hbd:(dg b).getD 0 0=b:=x5 (by omega);refine av 44 (.d (vI ((dg a).length:Nat))) J (by rw[hla];rfl) ?_;refine gx J<|mk (fu:=⟨13⟩) ((List.replicate (dg a).length 0).map dU) J J (by rw[<-vC];rfl) J<|?_;refine av 47 (.d (vI ((dg a).length:Nat))) J (by rw[hla];rfl) ?_;refine gx J<|?_;refine lp (X:=List Nat×Nat) (fun⟨W,k⟩=>[(0, .d (dN a)),(1, .d (dN b)),(10, .rw 45),(11, .d (dU (dv ((dg a).drop k)%b))),(12, .d (vI ((k:Nat)-1)))]) (fun⟨W,k⟩=>[(45,some (.b 366 1 (W.map dU) true))]) (fun⟨W,k⟩=>W.length=(dg a).length/\bm W/\k<=(dg a).length/\dv (W.drop k)=dv ((dg a).drop k)/b) (fun⟨W,k⟩=>k) ⟨List.replicate (dg a).length 0,(dg a).length⟩ J ⟨by simp, .replicate _,aN _,by simp[dv]⟩ (fun _=>J) (fun⟨W,k⟩ hk=>?_) (hF:=(by refine⟨J,J,J,oB J (by simp[dv,dU]),oB J (by simp[vI]),?_⟩;repeat (first|exact trivial|refine And.intro J ?_)))
    try dsimp only at hk⊢
    obtain⟨h1,h2,h3,h4⟩:=hk;have hlw:=fm W;refine br (fu1:=⟨0⟩) J J J (fun hc50=>?_) (fun hc50=>?_)
    .
     obtain⟨k,rfl⟩: ∃j,k=j+1:=⟨k-1,by omega⟩;have hsi:=VO hb0 (by omega) h1 h4;have hrm:=dX (dv ((dg a).drop (k+1))) hb0;have hdk:=ip a k;have hqd:(dv ((dg a).drop (k+1))%b*4294967296+(dg a).getD k 0)/b<4294967296:=by rw[kY hb0];have:=fL 4294967296 (show dv ((dg a).drop (k+1))%b+1<=b from hrm);omega
     refine av 12 (.d (vI (k:Nat))) J (by show FX.d (.v (.int _ _))= .d (.v (.int _ _));congr 3;omega) ?_;refine gx J<|ix _ J (gq (k:=k) (by omega) (by omega)) J<|ix _ J (gq (k:=0) J (by omega)) J<|cl J (aBR (h:=dv ((dg a).drop (k+1))%b) (l:=(dg a).getD k 0) (y:=(dg b).getD 0 0) (by omega) hdk (by omega)) J<|?_;refine sb (hv:=by simp only[ah];exact⟨by kernel_rfl,by omega⟩) _ ((W.set k ((dv ((dg a).drop (k+1))%b*4294967296+(dg a).getD k 0)/b)).map dU) J (gq (k:=k) (by omega) (by omega)) J (by(rw[hbd,bQ,<-ue])<;>rfl) J<|?_;exact at_ ⟨W.set k ((dv ((dg a).drop (k+1))%b*4294967296+(dg a).getD k 0)/b),k⟩ (by dsimp only;exact⟨⟨by simpa using h1,h2.set _ hqd,by omega,hsi.1⟩,(by omega)⟩) (by refine⟨J,J,J,oB J (by rw[hsi.2,hbd]),oB J (by first|(simp[vI];done)|(simp[vI];omega)),?_⟩;repeat (first|exact trivial|refine And.intro J ?_))
    .
     refine fz 45 J J<|cl J (tg (ds:=W) (by omega)) J<|rf J J<|cl J (tg (ds:=[dv ((dg a).drop k)%b]) (by simp)) J<|?_;exact rz rfl (by show DV.tp [f5 _,f5 _]= .tp [_,_];obtain rfl:k=0:=(by omega);rw[jJ,jJ,cp] at h4;rw[jJ,cp];rw[r4 h2 h4,r4 (.cons (by have:=dX a hb0;omega) .nil) (n:=a%b) (by simp[dv])])
   .
    refine cl J (VR (by omega) (by omega) hlb1 hlab) J<|?_;exact rz J J
def J3(x y:Nat):Nat.gcd y (x%y)=Nat.gcd x y:=by rw[jV x y,tW y x,jV]
def Hh{a b ia ib:Nat}[ha:BN a ia][hb:BN b ib](hi:ia<=240000000:=by decide)(hj:ib<=240000000:=by decide):PF GB prog 186 [dN a,dN b] (dN (Nat.gcd a b)):=by
 refine fn (fu:=⟨6⟩) func186 J J ntmps186 J J (fun C=>?_);refine mg (X:=Unit) (fun _=>[(0, .d (dN a)),(1, .d (dN b))]) (fun _=>[]) (fun _=>True) [0,1] [] rfl ?_ (fun _=>J) (fun _ hm=>?_)
 .
  refine gx J<|cl J (Du (a:=a) (ia:=ia) (by omega)) J<|?_;refine bd (fu1:=⟨0⟩) J J J (fun hc16=>?_) (fun hc16=>?_)
  .
   refine av 5 (.d (.v (.int .u64 (a:Nat)))) J (by rw[if_pos hc16]) ?_;refine gx J<|cl J (Du (a:=b) (ia:=ib) (by omega)) J<|?_;refine bd (fu1:=⟨0⟩) J J J (fun hc22=>?_) (fun hc22=>?_)
   .
    refine av 7 (.d (.v (.int .u64 (b:Nat)))) J (by rw[if_pos hc22]) ?_;refine gx J<|?_;refine lp (X:=Nat×Nat) (fun⟨x,y⟩=>[(5, .d (.v (.int .u64 (x:Nat)))),(7, .d (.v (.int .u64 (y:Nat))))]) (fun⟨x,y⟩=>[]) (fun⟨x,y⟩=>x<18446744073709551616/\y<18446744073709551616/\Nat.gcd x y=Nat.gcd a b) (fun⟨x,y⟩=>y) ⟨a,b⟩ J ⟨hc16,hc22,J⟩ (fun _=>J) (fun⟨x,y⟩ hk=>?_)
    try dsimp only at hk⊢
    obtain⟨h1,h2,h3⟩:=hk;refine br (v1:=fun hc24=>by simp only[ah];exact⟨⟨(by omega),(by omega)⟩,by kernel_rfl⟩) J J J (fun hc24=>?_) (fun hc24=>?_)
    .
     exact at_ ⟨y,x%y⟩ (by dsimp only;exact⟨⟨h2,by have:=dX x (show 0<y by omega);omega,by rw[J3,h3]⟩,(by exact dX _ (by omega))⟩)
    .
     refine cl J (sH (u:=x) h1) J<|?_;exact rz J (by show dN x=_;rw[<-h3,show y=0 by omega,nJ])
   .
    exact at_ () trivial
  .
   exact at_ () trivial
 .
  refine lp (fu:=⟨5⟩) (X:=Nat×Nat) (fun⟨x,y⟩=>[(0, .d (dN x)),(1, .d (dN y))]) (fun⟨x,y⟩=>[]) (fun⟨x,y⟩=>x<2^(ia+ib)/\y<2^(ia+ib)/\Nat.gcd x y=Nat.gcd a b) (fun⟨x,y⟩=>y) ⟨a,b⟩ J ⟨(ha.mono (by omega)).h,(hb.mono (by omega)).h,J⟩ (fun _=>J) (fun⟨x,y⟩ hk=>?_)
  try dsimp only at hk⊢
  obtain⟨h1,h2,h3⟩:=hk;have hly:=fm (dg y);haveI hx':BN x (ia+ib):=⟨h1⟩;haveI hy':BN y (ia+ib):=⟨h2⟩;refine av 32 (.d (vI ((dg y).length:Nat))) J (by rw[hly];rfl) ?_;refine gx J<|?_;refine br J J J (fun hc33=>?_) (fun hc33=>?_)
  .
   have hy0:0<y:=iV fun q=>by subst q;rw[wP] at hc33;simp at hc33
   refine cl J (wY (a:=x) (b:=y) (ia:=ia+ib) (ib:=ia+ib) hy0 (by omega) (by omega)) J<|?_;exact at_ ⟨y,x%y⟩ (by dsimp only;exact⟨⟨h2,by have:=dX x hy0;omega,by rw[J3,h3]⟩,(by exact dX _ hy0)⟩)
  .
   have hy0:y=0:=wv.1 (by omega);have hlx:=l9 h1;have hmx:=fm (dg x);refine HL J J<|ap _ J J (vq _) J<|?_;refine mp 44 J ?_;exact rz J (by show DV.sl ([]++_)=_;rw[<-h3,hy0,nJ];rfl)
def Ld(neg:Bool)(m:Nat):eI (zv neg m)= .ag [.v (.bool (neg&&decide (0<m))),dN m]:=by unfold eI;rw[qb,OL]
def Xa(z:Int):zv (!decide (z<0)) z.natAbs= -z:=by
 unfold zv;by_cases h:z<0<;>simp[h]<;>omega
def XR(a b:Int):zv (!(decide (a<0)==decide (b<0))) (a.natAbs*b.natAbs)=a*b:=by
 have h:=Jt (decide (a<0)) (decide (b<0)) a.natAbs b.natAbs;rw[lx,lx] at h;exact h
def kH{neg:Bool}{m:Nat}:PF GB prog 217 [.v (.bool neg),dN m] (eI (zv neg m)):=by
 have hl:=fm (dg m);have hz:= @wv m;refine fn func217 J J ntmps217 J J (fun C=>?_);refine lv 6 J J J (fun hg6=>?_) (fun hg6=>?_)
 .
  exact rz J (by rw[Ld,hg6];show DV.ag [.v (.bool _),_]= .ag [.v (.bool _),_];congr 4;rw[Bool.true_and];exact decide_eq_decide.2 (by omega))
 .
  exact rz J (by rw[Ld,hg6];rfl)
end Go.Sx
end
section
namespace Go.Sx
open Go
instance:DecidableEq aa:=fun x y=>decidable_of_iff (x.a=y.a/\x.b=y.b/\x.c=y.c) (by
 cases x;cases y;simp)
structure aj where
 lo:Rat
 hi:Rat
 nl:Bool
 nh:Bool
def aj.all:aj:=⟨0,0,true,true⟩
def aj.empty(v:aj):Bool:=!v.nl&&(!v.nh&&decide (0<=cg v.lo v.hi))
def aj.meet(v w:aj):aj:=
 ⟨if v.nl then w.lo else if w.nl then v.lo else if v.lo<w.lo then w.lo else v.lo,
  if v.nh then w.hi else if w.nh then v.hi else if w.hi<v.hi then w.hi else v.hi,v.nl&&w.nl,v.nh&&w.nh⟩
def aj.sample(v:aj):Rat:=if v.nl&&v.nh then 0 else if v.nl then v.hi-1 else if v.nh then v.lo+1 else(v.lo+v.hi)*mkRat 1 2
def aa.cutK(l m:aa):Rat:=m.nor.dot l.dir
def aa.cutC(l m:aa):Rat:=m.value l.base
def aa.cutV(l:aa)(v:aj)(m:aa):aj:=
 if Int.sign (l.cutK m).num=0 then v
 else if Int.sign (l.cutK m).num=1 then v.meet ⟨-(l.cutC m/l.cutK m),0,false,true⟩
 else v.meet ⟨0, -(l.cutC m/l.cutK m),true,false⟩
def aa.cutB(l:aa)(v:aj)(m:aa):Bool:=
 if Int.sign (l.cutK m).num=0 then decide (0<Int.sign (l.cutC m).num) else !(l.cutV v m).empty
structure aO where
 l:aa
 v:aj
abbrev aC:=List aO
def nD(l:aa):aC->aj->Option aj
 |[],v=>some v
 |s::t,v=>if l.cutB v s.l then nD l t (l.cutV v s.l) else none
def kG(c:aC)(l:aa):Option aj:=nD l c aj.all
def oq(l:aa)(s:aO):Int:=Int.sign (l.value (s.l.at s.v.sample)).num
def nE(l:aa):aC->Int
 |[]=> -1
 |s::t=>if oq l s≠0 then oq l s else if s.l=l then 1 else nE l t
def wD(c:aC)(l:aa):Int:=if(kG c l).isSome then 0 else nE l c
def ab.half(p:ab):Int:=
 if 0<Int.sign p.y.num\/(Int.sign p.y.num=0/\0<Int.sign p.x.num) then 1 else if Int.sign p.y.num<0\/Int.sign p.x.num<0 then 2 else 0
def ck(u v:ab):Int:=if u.half<v.half then-1 else if v.half<u.half then 1 else-(Int.sign (u.cross v).num)
def eH(l:aa):aC->aC
 |[]=>[]
 |s::t=>if s.l.cutB s.v l then⟨s.l,s.l.cutV s.v l⟩::eH l t else eH l t
def gm(p:Nat->Bool)(i j:Nat):Nat:=
 if h:i<j then(if p ((i+j)/2) then gm p ((i+j)/2+1) j else gm p i ((i+j)/2)) else i
termination_by j-i
def jo(c:aC)(l:aa)(i:Nat):Bool:=match c[i]? with
 |some s=>decide (ck s.l.dir l.dir<0)
 |none=>false
def mm(c:aC)(l:aa)(v:aj):aC:=
 c.take (gm (jo c l) 0 c.length)++⟨l,v⟩::c.drop (gm (jo c l) 0 c.length)
def bE(c:aC)(l:aa):aC:=match kG c l with
 |some v=>mm (eH l c) l v
 |none=>c
def cH(c:aC)(l:aa):Bool:=match kG c l with
 |some _=>true
 |none=>decide (0<wD c l)
def Bi(p:Nat->Bool): ∀(d i j:Nat),j-i<=d->i<=j->i<=gm p i j/\gm p i j<=j
 |0,i,j,h,hij=>by
  rw[gm,dif_neg (by omega)];omega
 |d+1,i,j,h,hij=>by
  rw[gm];split
  ·split
   ·have:=Bi p d ((i+j)/2+1) j (by omega) (by omega);omega
   ·have:=Bi p d i ((i+j)/2) (by omega) (by omega);omega
  ·omega
def Qk(l:aa): ∀c:aC,(eH l c).length<=c.length
 |[]=>aN _
 |s::t=>by
  have:=Qk l t;unfold eH;split<;>simp<;>omega
def Td(c:aC)(l:aa)(v:aj):(mm c l v).length=c.length+1:=by
 have:=(Bi (jo c l) c.length 0 c.length (by omega) (by omega)).2;simp[mm];omega
def Ar(c:aC)(l:aa):(bE c l).length<=c.length+1:=by
 unfold bE;split
 ·rw[Td];have:=Qk l c;omega
 ·omega
inductive Tr where
 |leaf (b:Bool)
 |node (l:aa) (x y:Tr)
def Tr.isLeaf:Tr->Bool
 | .leaf _=>true
 | .node .. =>false
def Tr.code:Tr->Bool
 | .leaf b=>b
 | .node .. =>false
def Tr.depth:Tr->Nat
 | .leaf _=>0
 | .node _ x y=>1+max x.depth y.depth
def Tr.size:Tr->Nat
 | .leaf _=>0
 | .node _ x y=>1+x.size+y.size
def Tr.joinQ(l:aa)(x y:Tr):Tr:=if x.isLeaf&&(y.isLeaf&&(x.code==y.code)) then x else .node l x y
def Tr.restrict:Tr->aC->Tr
 | .leaf b,_=> .leaf b
 | .node l x y,c=>if !cH c l.rev then x.restrict c else if !cH c l then y.restrict c else joinQ l (x.restrict (bE c l)) (y.restrict (bE c l.rev))
def Tr.parts:Tr->aC->List (Bool×aC)
 | .leaf b,c=>[(b,c)]
 | .node l x y,c=>(if cH c l then x.parts (bE c l) else [])++(if cH c l.rev then y.parts (bE c l.rev) else [])
def Tr.all(p:aa->Prop):Tr->Prop
 | .leaf _=>True
 | .node l x y=>p l/\x.all p/\y.all p
def Tr.good:Tr->Prop
 | .leaf _=>True
 | .node _ x y=> ¬(x.isLeaf=true/\y.isLeaf=true/\x.code=y.code)/\x.good/\y.good
structure NQ where
 l:aa
 a:Int
 b:Int
def rk(b:Bool):Int:=if b then-2 else-1
def Tr.num:Tr->Nat->Int
 | .leaf b,_=>rk b
 | .node ..,n=>n
def Tr.wr:Tr->Nat->List NQ
 | .leaf _,_=>[]
 | .node l x y,n=>⟨l,x.num (n+1),y.num (n+1+x.size)⟩::x.wr (n+1)++y.wr (n+1+x.size)
def Tr.wr_len: ∀(t:Tr) (n:Nat),(t.wr n).length=t.size
 | .leaf _,n=>rfl
 | .node l x y,n=>by
  have h1:=Tr.wr_len x (n+1);have h2:=Tr.wr_len y (n+1+x.size);simp[Tr.wr,Tr.size,h1,h2];omega
def Tr.joinQ_cases(l:aa)(x y:Tr):(Tr.joinQ l x y=x/\x.isLeaf=true)\/(Tr.joinQ l x y= .node l x y/\ ¬(x.isLeaf=true/\y.isLeaf=true/\x.code=y.code)):=by
 unfold Tr.joinQ;split
 ·rename_i h
  simp at h;exact .inl ⟨J,h.1⟩
 ·rename_i h
  simp at h;exact .inr ⟨J,fun⟨a,b,c⟩=>h a b c⟩
def Tr.restrict_depth: ∀(t:Tr) (c:aC),(t.restrict c).depth<=t.depth
 | .leaf b,c=>aN _
 | .node l x y,c=>by
  unfold Tr.restrict;split
  ·have:=x.restrict_depth c;simp only[Tr.depth];omega
  ·split
   ·have:=y.restrict_depth c;simp only[Tr.depth];omega
   ·have h1:=x.restrict_depth (bE c l)
    have h2:=y.restrict_depth (bE c l.rev);rcases Tr.joinQ_cases l (x.restrict (bE c l)) (y.restrict (bE c l.rev)) with⟨h,_⟩|⟨h,_⟩
    ·rw[h];simp only[Tr.depth];omega
    ·rw[h];simp only[Tr.depth];omega
def Tr.restrict_all(p:aa->Prop): ∀(t:Tr) (c:aC),t.all p->(t.restrict c).all p
 | .leaf b,c,_=>trivial
 | .node l x y,c,h=>by
  obtain⟨h0,h1,h2⟩:=h;unfold Tr.restrict;split
  ·exact x.restrict_all p c h1
  ·split
   ·exact y.restrict_all p c h2
   ·rcases Tr.joinQ_cases l (x.restrict (bE c l)) (y.restrict (bE c l.rev)) with⟨h,_⟩|⟨h,_⟩
    ·rw[h];exact x.restrict_all p _ h1
    ·rw[h];exact⟨h0,x.restrict_all p _ h1,y.restrict_all p _ h2⟩
def lB(l:aa)(p:ab):l.value p=(l.a:Rat)*p.x+(l.b:Rat)*p.y+(l.c:Rat):=rfl
def f7(l:aa)(p:ab):l.rev.value p= -l.value p:=by
 rw[lB,lB];have h1:((l.rev.a:Int):Rat)= -(l.a:Rat):=(Ij l.a).symm;have h2:((l.rev.b:Int):Rat)= -(l.b:Rat):=(Ij l.b).symm;have h3:((l.rev.c:Int):Rat)= -(l.c:Rat):=(Ij l.c).symm;rw[h1,h2,h3];grind
def bt(q p:ab)(e:Rat):ab:=⟨q.x+e*(p.x-q.x),q.y+e*(p.y-q.y)⟩
def jH(l:aa)(q p:ab)(e:Rat):l.value (bt q p e)=l.value q+e*(l.value p-l.value q):=by
 simp only[lB,bt];grind
def ce(q u:ab)(e:Rat):ab:=⟨q.x+e*u.x,q.y+e*u.y⟩
def iw(l:aa)(q u:ab)(e:Rat):l.value (ce q u e)=l.value q+e*l.nor.dot u:=by
 simp only[lB,ce,aa.nor,ab.dot];grind
def b8{a b:Rat}(ha:0<a)(hb:0<b):0<a*b:=Rat.mul_pos ha hb
def eO{a b:Rat}(ha:0<=a)(hb:0<=b):0<=a*b:=nV ha hb
def uD(a:Rat):0<=a*a:=by
 by_cases h:0<=a
 ·exact eO h h
 ·have:=eO (a:= -a) (b:= -a) (by grind) (by grind)
  grind
def il{s k:Rat}(hk:0<k):0<s*k↔0<s:=by
 constructor
 ·intro h
  by_cases hs:0<s
  ·exact hs
  ·have:=eO (a:= -s) (b:=k) (by grind) (by grind)
   grind
 ·intro h;exact b8 h hk
def jB{s k:Rat}(hk:0<k):0<=s*k↔0<=s:=by
 constructor
 ·intro h
  by_cases hs:0<=s
  ·exact hs
  ·have:=b8 (a:= -s) (b:=k) (by grind) hk
   grind
 ·intro h;exact eO h (by grind)
def Rs{A B u v:Rat}(h0:0<=A)(h1:0<=A+v*B)(hu:0<=u)(huv:u<=v):0<=A+u*B:=by
 by_cases hB:0<=B
 ·have:=eO hu hB;grind
 ·have:=eO (a:=v-u) (b:= -B) (by grind) (by grind)
  grind
def aa.Ne(l:aa):Prop:= ¬(l.a=0/\l.b=0)
def aa.ok.ne{l:aa}(h:l.ok):l.Ne:=h.1
def po{l:aa}(h:l.Ne):0<l.nor.dot l.nor:=by
 show 0<(l.a:Rat)*l.a+(l.b:Rat)*l.b;have h1:=uD (l.a:Rat);have h2:=uD (l.b:Rat);by_cases ha:l.a=0
 ·have hb:l.b≠0:=fun hb=>h ⟨ha,hb⟩
  have hb':(l.b:Rat)≠0:=fun e=>hb (dQ.1 e);have:(l.b:Rat)*l.b≠0:=by grind
  grind
 ·have ha':(l.a:Rat)≠0:=fun e=>ha (dQ.1 e)
  have:(l.a:Rat)*l.a≠0:=by grind
  grind
def zO{l:aa}(h:l.Ne): ∃q:Rat,l.nor.dot l.nor*q= -(l.c:Rat)/\l.base=⟨(l.a:Rat)*q,(l.b:Rat)*q⟩:=by
 refine⟨-(l.c:Rat)/l.nor.dot l.nor,?_,J⟩;have:=po h;grind
def lI(l m:aa)(t:Rat):m.value (l.at t)=l.cutC m+t*l.cutK m:=by
 simp only[aa.cutC,aa.cutK,lB,aa.at,ab.add,ab.scale,aa.dir,aa.nor,ab.dot];grind
def nH{l:aa}(h:l.Ne)(t:Rat):l.value (l.at t)=0:=by
 obtain⟨q,h1,h2⟩:=zO h;simp only[lB,aa.at,h2,ab.add,ab.scale,aa.dir];simp only[aa.nor,ab.dot] at h1;grind
def yN{l:aa}(h:l.Ne){p:ab}(hp:l.value p=0): ∃t,p=l.at t:=by
 obtain⟨q,h1,h2⟩:=zO h;have hn:=po h;obtain⟨x,y⟩:=p;rw[lB] at hp;simp only[aa.nor,ab.dot] at h1 hn;refine⟨((l.b:Rat)*x-(l.a:Rat)*y)/((l.a:Rat)*l.a+(l.b:Rat)*l.b),?_⟩;generalize ht:((l.b:Rat)*x-(l.a:Rat)*y)/((l.a:Rat)*l.a+(l.b:Rat)*l.b)=t;have ht':((l.a:Rat)*l.a+(l.b:Rat)*l.b)*t=(l.b:Rat)*x-(l.a:Rat)*y:=by grind
 simp only[aa.at,h2,ab.add,ab.scale,aa.dir,ab.mk.injEq];generalize (l.a:Rat)=a at*;generalize (l.b:Rat)=b at*;generalize (l.c:Rat)=c at*;have e1:(a*a+b*b)*(x-(a*q+b*t))=0:=by grind
 have e2:(a*a+b*b)*(y-(b*q+ -a*t))=0:=by grind
 constructor<;>grind
def aj.has(v:aj)(t:Rat):Prop:=(v.nl=true\/v.lo<=t)/\(v.nh=true\/t<=v.hi)
def aj.ins(v:aj)(t:Rat):Prop:=(v.nl=true\/v.lo<t)/\(v.nh=true\/t<v.hi)
def aj.Pos(v:aj):Prop:=v.nl=true\/v.nh=true\/v.lo<v.hi
def aod(a b:Rat):0<=cg a b↔b<=a:=by
 unfold cg;split
 ·constructor
  ·intro h;exact absurd h (by decide)
  ·intro h;grind
 ·split
  ·constructor
   ·intro _;grind
   ·intro _;decide
  ·constructor
   ·intro _;grind
   ·intro _;decide
def BU(v:aj):v.empty=false↔v.Pos:=by
 obtain⟨lo,hi,nl,nh⟩:=v;unfold aj.empty aj.Pos
 cases nl<;>cases nh<;>simp[aod]
 first|exact Rat.not_le|grind
def aj.ins.has{v:aj}{t:Rat}(h:v.ins t):v.has t:=by
 obtain⟨h1,h2⟩:=h;exact⟨h1.imp id (fun h=>dS h),h2.imp id (fun h=>dS h)⟩
def Np:mkRat 1 2=(1:Rat)/2:=by rw[oY];rfl
def p6{v:aj}(h:v.Pos):v.ins v.sample:=by
 obtain⟨lo,hi,nl,nh⟩:=v;unfold aj.Pos at h;unfold aj.ins aj.sample;rw[Np]
 cases nl<;>cases nh<;>simp at* <;>grind
def Kq(v w:aj)(t:Rat):(v.meet w).has t↔v.has t/\w.has t:=by
 obtain⟨lo,hi,nl,nh⟩:=v;obtain⟨lo',hi',nl',nh'⟩:=w;unfold aj.has aj.meet
 cases nl<;>cases nh<;>cases nl'<;>cases nh'<;>simp<;>grind
def Pk(v w:aj)(t:Rat):(v.meet w).ins t↔v.ins t/\w.ins t:=by
 obtain⟨lo,hi,nl,nh⟩:=v;obtain⟨lo',hi',nl',nh'⟩:=w;unfold aj.ins aj.meet
 cases nl<;>cases nh<;>cases nl'<;>cases nh'<;>simp<;>grind
def F3(t:Rat):aj.all.has t:=⟨.inl J, .inl J⟩
def aAy(t:Rat):aj.all.ins t:=⟨.inl J, .inl J⟩
def vP:aj.all.Pos:= .inl J
def jj(k:Rat):Int.sign k.num=0↔k=0:=by rw[kV,lL]
def E4(k:Rat):0<k.num↔0<k:=by
 have h1:0<=k.num↔0<=k:=tV;have h2:k.num=0↔k=0:=lL;constructor
 ·intro h
  have a:=h1.1 (by omega);have b:k≠0:=fun e=>by have:=h2.2 e;omega
  grind
 ·intro h
  have a:=h1.2 (by grind);have b:k.num≠0:=fun e=>by have:=h2.1 e;grind
  omega
def jh(k:Rat):Int.sign k.num=1↔0<k:=by rw[Int.sign_eq_one_iff_pos,E4]
def mr(k:Rat):0<Int.sign k.num↔0<k:=by
 rw[<-jh];rcases mW k.num 0 with h|h|h
 ·rw[fQ h];decide
 ·rw[h];decide
 ·rw[fR h];decide
def ld(k:Rat):Int.sign k.num<0↔k<0:=by
 have h1:=jj k;have h2:=mr k;constructor
 ·intro h
  by_cases hk:0<k
  ·have:=h2.2 hk;omega
  ·by_cases h0:k=0
   ·have:=h1.2 h0;omega
   ·grind
 ·intro h
  have a1: ¬Int.sign k.num=0:=fun e=>by have:=h1.1 e;grind
  have a2: ¬0<Int.sign k.num:=fun e=>by have:=h2.1 e;grind
  omega
def xP{l m:aa}(v:aj)(hk:l.cutK m=0):l.cutV v m=v/\(l.cutB v m=true↔0<l.cutC m):=by
 have h:=(jj (l.cutK m)).2 hk;unfold aa.cutV aa.cutB;rw[if_pos h,if_pos h,decide_eq_true_iff,mr];exact⟨J,Iff.rfl⟩
def xR{l m:aa}(v:aj)(hk:0<l.cutK m):l.cutV v m=v.meet ⟨-(l.cutC m/l.cutK m),0,false,true⟩/\(l.cutB v m=true↔(l.cutV v m).Pos):=by
 have h0: ¬Int.sign (l.cutK m).num=0:=fun e=>by have:=(jj _).1 e;grind
 have h1:=(jh (l.cutK m)).2 hk;constructor
 ·unfold aa.cutV;rw[if_neg h0,if_pos h1]
 ·unfold aa.cutB;rw[if_neg h0,<-BU];simp
def wT{l m:aa}(v:aj)(hk:l.cutK m<0):l.cutV v m=v.meet ⟨0, -(l.cutC m/l.cutK m),true,false⟩/\(l.cutB v m=true↔(l.cutV v m).Pos):=by
 have h0: ¬Int.sign (l.cutK m).num=0:=fun e=>by have:=(jj _).1 e;grind
 have h1: ¬Int.sign (l.cutK m).num=1:=fun e=>by have:=(jh _).1 e;grind
 constructor
 ·unfold aa.cutV;rw[if_neg h0,if_neg h1]
 ·unfold aa.cutB;rw[if_neg h0,<-BU];simp
def Tk{C K t:Rat}(hk:0<K): -(C/K)<=t↔0<=C+t*K:=by
 have e:C=C/K*K:=by grind
 generalize C/K=d at*;rw[e,show d*K+t*K=(d+t)*K from by grind,jB hk];grind
def JY{C K t:Rat}(hk:0<K): -(C/K)<t↔0<C+t*K:=by
 have e:C=C/K*K:=by grind
 generalize C/K=d at*;rw[e,show d*K+t*K=(d+t)*K from by grind,il hk];grind
def aHO{C K t:Rat}(hk:K<0):t<= -(C/K)↔0<=C+t*K:=by
 have e:C=C/K*K:=by grind
 generalize C/K=d at*;rw[e,show d*K+t*K=(-(d+t))*(-K) from by grind,jB (by grind)];grind
def JH{C K t:Rat}(hk:K<0):t< -(C/K)↔0<C+t*K:=by
 have e:C=C/K*K:=by grind
 generalize C/K=d at*;rw[e,show d*K+t*K=(-(d+t))*(-K) from by grind,il (by grind)];grind
def fE(k:Rat):k=0\/0<k\/k<0:=by grind
def C6{l m:aa}{v:aj}(hb:l.cutB v m=true)(t:Rat):(l.cutV v m).has t↔v.has t/\0<=m.value (l.at t):=by
 rw[lI];rcases fE (l.cutK m) with hk|hk|hk
 ·obtain⟨h1,h2⟩:=xP v hk
  rw[h1,hk];have:=h2.1 hb;constructor
  ·intro h;exact⟨h,by grind⟩
  ·exact fun h=>h.1
 ·rw[(xR v hk).1,Kq,<-Tk hk]
  simp[aj.has]
 ·rw[(wT v hk).1,Kq,<-aHO hk]
  simp[aj.has]
def Cy{l m:aa}{v:aj}(hb:l.cutB v m=true)(t:Rat):(l.cutV v m).ins t↔v.ins t/\0<m.value (l.at t):=by
 rw[lI];rcases fE (l.cutK m) with hk|hk|hk
 ·obtain⟨h1,h2⟩:=xP v hk
  rw[h1,hk];have:=h2.1 hb;constructor
  ·intro h;exact⟨h,by grind⟩
  ·exact fun h=>h.1
 ·rw[(xR v hk).1,Pk,<-JY hk]
  simp[aj.ins]
 ·rw[(wT v hk).1,Pk,<-JH hk]
  simp[aj.ins]
def xJ{l m:aa}{v:aj}(hv:v.Pos)(hb:l.cutB v m=true):(l.cutV v m).Pos:=by
 rcases fE (l.cutK m) with hk|hk|hk
 ·rw[(xP v hk).1];exact hv
 ·exact(xR v hk).2.1 hb
 ·exact(wT v hk).2.1 hb
def AW{l m:aa}{v:aj}(hv:v.Pos)(hb:l.cutB v m=false){t:Rat}(ht:v.has t):m.value (l.at t)<=0:=by
 rw[lI];have hb': ¬l.cutB v m=true:=by rw[hb];decide
 rcases fE (l.cutK m) with hk|hk|hk
 ·have h2:=(xP v hk).2
  have: ¬0<l.cutC m:=fun h=>hb' (h2.2 h);rw[hk];grind
 ·obtain⟨h1,h2⟩:=xR v hk
  have hn: ¬(l.cutV v m).Pos:=fun h=>hb' (h2.2 h);rw[h1] at hn;have h3:=JY (C:=l.cutC m) (t:=t) hk
  suffices¬(-(l.cutC m/l.cutK m)<t) by grind
  generalize-(l.cutC m/l.cutK m)=d at*;obtain⟨lo,hi,nl,nh⟩:=v;unfold aj.Pos aj.meet at hn;unfold aj.Pos at hv;unfold aj.has at ht
  cases nl<;>cases nh<;>simp at* <;>grind
 ·obtain⟨h1,h2⟩:=wT v hk
  have hn: ¬(l.cutV v m).Pos:=fun h=>hb' (h2.2 h);rw[h1] at hn;have h3:=JH (C:=l.cutC m) (t:=t) hk
  suffices¬(t< -(l.cutC m/l.cutK m)) by grind
  generalize-(l.cutC m/l.cutK m)=d at*;obtain⟨lo,hi,nl,nh⟩:=v;unfold aj.Pos aj.meet at hn;unfold aj.Pos at hv;unfold aj.has at ht
  cases nl<;>cases nh<;>simp at* <;>grind
def bw(c:aC)(p:ab):Prop:= ∀s∈c,0<s.l.value p
def n0(c:aC)(p:ab):Prop:= ∀s∈c,0<=s.l.value p
def Eo(l:aa): ∀(c:aC) (v w:aj),v.Pos->nD l c v=some w->
  w.Pos/\(∀t,w.has t↔v.has t/\n0 c (l.at t))/\(∀t,w.ins t↔v.ins t/\bw c (l.at t))
 |[],v,w,hv,h=>by
  obtain rfl:v=w:=by simpa[nD] using h
  exact⟨hv,fun t=>⟨fun h=>⟨h,fun s hs=>absurd hs (by simp)⟩,fun h=>h.1⟩,fun t=>⟨fun h=>⟨h,fun s hs=>absurd hs (by simp)⟩,fun h=>h.1⟩⟩
 |s::c,v,w,hv,h=>by
  rw[nD] at h;split at h
  ·rename_i hb
   obtain⟨h1,h2,h3⟩:=Eo l c _ w (xJ hv hb) h;refine⟨h1,fun t=>?_,fun t=>?_⟩
   ·rw[h2,C6 hb]
    simp only[n0,cN];exact and_assoc
   ·rw[h3,Cy hb]
    simp only[bw,cN];exact and_assoc
  ·exact absurd h (by simp)
def JM(l:aa): ∀(c:aC) (v:aj),v.Pos->nD l c v=none-> ∀t,v.has t-> ¬bw c (l.at t)
 |[],v,hv,h=>by simp[nD] at h
 |s::c,v,hv,h=>by
  intro t ht hd;have hd':=cN.1 hd;rw[nD] at h;split at h
  ·rename_i hb
   exact JM l c _ (xJ hv hb) h t ((C6 hb t).2 ⟨ht,dS hd'.1⟩) hd'.2
  ·rename_i hb
   have:=AW hv (by simpa using hb) ht;have:=hd'.1;grind
def bw.open: ∀{c:aC} {q:ab} (u:ab),bw c q-> ∃e:Rat,0<e/\ ∀d,0<=d->d<=e->bw c (ce q u d)
 |[],q,u,_=>⟨1,by decide,fun d _ _ s hs=>absurd hs (by simp)⟩
 |s::c,q,u,h=>by
  have h':=cN.1 h;obtain⟨e,he,hd⟩:=bw.open (c:=c) u h'.2;have hs:=h'.1;generalize hk:s.l.nor.dot u=k;have hf: ∃f:Rat,0<f/\ ∀d,0<=d->d<=f->0<s.l.value q+d*k:=by
   by_cases hk0:0<=k
   ·exact⟨1,by decide,fun d h1 _=>by have:=eO h1 hk0;grind⟩
   ·refine⟨s.l.value q/(2* -k),?_,fun d h1 h2=>?_⟩
    ·have e1:s.l.value q/(2* -k)*(2* -k)=s.l.value q:=by grind
     exact(il (k:=2* -k) (by grind)).1 (by rw[e1];exact hs)
    ·have e1:s.l.value q/(2* -k)*(2* -k)=s.l.value q:=by grind
     generalize s.l.value q/(2* -k)=f at*;have:=eO (a:=f-d) (b:= -k) (by grind) (by grind);grind
  obtain⟨f,hf0,hf⟩:=hf;by_cases hef:e<=f
  ·refine⟨e,he,fun d h1 h2=>cN.2 ⟨?_,hd d h1 h2⟩⟩
   rw[iw,hk];exact hf d h1 (by grind)
  ·refine⟨f,hf0,fun d h1 h2=>cN.2 ⟨?_,hd d h1 (by grind)⟩⟩
   rw[iw,hk];exact hf d h1 h2
def Jo: ∀{c:aC} {q p:ab},bw c q->(∃s∈c,s.l.value p<=0)->
  ∃e:Rat,0<=e/\e<=1/\(∃s∈c,s.l.value p<=0/\s.l.value (bt q p e)=0)/\n0 c (bt q p e)
 |[],q,p,_,h=>by obtain⟨s,hs,_⟩:=h;exact absurd hs (by simp)
 |s::c,q,p,h,hex=>by
  have h':=cN.1 h;have hs:=h'.1;by_cases hc: ∃s∈c,s.l.value p<=0
  ·obtain⟨e,h0,h1,⟨s1,m1,n1,z1⟩,hC⟩:=Jo h'.2 hc
   by_cases hp:0<=s.l.value (bt q p e)
   ·exact⟨e,h0,h1,⟨s1,aZ _ m1,n1,z1⟩,cN.2 ⟨hp,hC⟩⟩
   ·rw[jH] at hp
    generalize hB:s.l.value p-s.l.value q=B at*;have hB0:B<0:=by
     by_cases hB0:0<=B
     ·have:=eO h0 hB0;grind
     ·grind
    have e1:s.l.value q/(-B)*(-B)=s.l.value q:=by grind
    generalize hf:s.l.value q/(-B)=f at*;have f0:0<=f:=(jB (k:= -B) (by grind)).1 (by rw[e1];grind);have f1:f<=e:=by
     have:=(jB (s:=e-f) (k:= -B) (by grind)).1 (by grind);grind
    have z:s.l.value (bt q p f)=0:=by rw[jH,hB];grind
    have np:s.l.value p<=0:=by
     have:=eO (a:=1-e) (b:= -B) (by grind) (by grind);grind
    refine⟨f,f0,by grind,⟨s,aQ,np,z⟩,cN.2 ⟨by rw[z];exact gT,fun s2 m2=>?_⟩⟩;have a1:=h'.2 s2 m2;have a2:=hC s2 m2;rw[jH] at a2⊢;exact Rs (dS a1) a2 f0 f1
  ·have np:s.l.value p<=0:=by
    obtain⟨s1,m1,n1⟩:=hex;rcases aY.1 m1 with rfl|m1
    ·exact n1
    ·exact absurd ⟨s1,m1,n1⟩ hc
   generalize hB:s.l.value p-s.l.value q=B at*;have hB0:B<0:=by grind
   have e1:s.l.value q/(-B)*(-B)=s.l.value q:=by grind
   generalize hf:s.l.value q/(-B)=f at*;have f0:0<=f:=(jB (k:= -B) (by grind)).1 (by rw[e1];grind);have f1:f<=1:=by
    have:=(jB (s:=1-f) (k:= -B) (by grind)).1 (by grind);grind
   have z:s.l.value (bt q p f)=0:=by rw[jH,hB];grind
   refine⟨f,f0,f1,⟨s,aQ,np,z⟩,cN.2 ⟨by rw[z];exact gT,fun s2 m2=>?_⟩⟩;have a1:=h'.2 s2 m2;have a2:0<s2.l.value p:=by
    by_cases h:0<s2.l.value p
    ·exact h
    ·exact absurd ⟨s2,m2,by grind⟩ hc
   rw[jH];have:=Rs (A:=s2.l.value q) (B:=s2.l.value p-s2.l.value q) (u:=f) (v:=1) (dS a1) (by grind) f0 f1;exact this
structure cI (c:aC):Prop where
 ne: ∃p,bw c p
 ok: ∀s∈c,s.l.ok
 edge: ∀s∈c,s.v.Pos/\ ∀t,s.v.has t↔n0 c (s.l.at t)
def cI.nil:cI []:=⟨⟨⟨0,0⟩,fun s hs=>absurd hs (by simp)⟩,fun s hs=>absurd hs (by simp),fun s hs=>absurd hs (by simp)⟩
def tf{c:aC}{m:aa}(hne: ∃q,bw c q)(h: ∀p,bw c p->0<m.value p){p:ab}(hp:n0 c p):0<=m.value p:=by
 obtain⟨q,hq⟩:=hne;have mq:=h q hq;by_cases hm:0<=m.value p
 ·exact hm
 ·exfalso
  generalize hB:m.value q-m.value p=B;have hB0:0<B:=by grind
  have e1: -m.value p/B*B= -m.value p:=by grind
  generalize-m.value p/B=e at*;have e0:0<e:=(il hB0).1 (by rw[e1];grind);have e2:e<=1:=by
   have:=(jB (s:=1-e) hB0).1 (by grind);grind
  have hd:bw c (bt p q e):=fun s hs=>by
   rw[jH];have a:=hp s hs;have b:=hq s hs;have:=b8 e0 b;have:=eO (a:=1-e) (b:=s.l.value p) (by grind) a;grind
  have:=h _ hd;rw[jH,hB,e1] at this;grind
def se{l:aa}{s':aO}: ∀{c:aC},s'∈eH l c↔ ∃s∈c,s.l.cutB s.v l=true/\s'=⟨s.l,s.l.cutV s.v l⟩
 |[]=>by simp[eH]
 |s::c=>by
  rw[eH];split
  ·rename_i hb
   rw[aY,se (c:=c)];constructor
   ·rintro (rfl|⟨s1,h1,h2⟩)
    ·exact⟨s,aQ,hb,J⟩
    ·exact⟨s1,aZ _ h1,h2⟩
   ·rintro ⟨s1,h1,h2,h3⟩
    rcases aY.1 h1 with rfl|h1
    ·exact .inl h3
    ·exact .inr ⟨s1,h1,h2,h3⟩
  ·rename_i hb
   rw[se (c:=c)];constructor
   ·rintro ⟨s1,h1,h2⟩;exact⟨s1,aZ _ h1,h2⟩
   ·rintro ⟨s1,h1,h2,h3⟩
    rcases aY.1 h1 with rfl|h1
    ·exact absurd h2 hb
    ·exact⟨s1,h1,h2,h3⟩
def qA{c:aC}{l:aa}{v:aj}{s:aO}:s∈mm c l v↔s=⟨l,v⟩\/s∈c:=by
 unfold mm;generalize gm (jo c l) 0 c.length=n;rw[bV,aY];have h:=kW n c;constructor
 ·rintro (h1|h1|h1)
  ·exact .inr (fK h1)
  ·exact .inl h1
  ·exact .inr (iY h1)
 ·rintro (h1|h1)
  ·exact .inr (.inl h1)
  ·rw[<-h,bV] at h1
   rcases h1 with h1|h1
   ·exact .inl h1
   ·exact .inr (.inr h1)
def Ud{c:aC}{l:aa}(hl:l.Ne)(hp:kG c l=none){p:ab}(h:bw c p):l.value p≠0:=by
 intro h0;obtain⟨t,rfl⟩:=yN hl h0;exact JM l c _ vP hp t (F3 t) h
def Gv{c:aC}{l:aa}(hl:l.Ne){v:aj}(hp:kG c l=some v):(∃q,bw c q/\0<l.value q)/\ ∃q,bw c q/\l.value q<0:=by
 obtain⟨h1,_,h3⟩:=Eo l c _ v vP hp;have hd:=((h3 v.sample).1 (p6 h1)).2;have h0:=nH hl v.sample;have hn:=po hl;constructor
 ·obtain⟨e,he,hm⟩:=hd.open l.nor
  refine⟨_,hm e (dS he) gT,?_⟩;rw[iw,h0];have:=b8 he hn;grind
 ·obtain⟨e,he,hm⟩:=hd.open ⟨-l.nor.x, -l.nor.y⟩
  refine⟨_,hm e (dS he) gT,?_⟩;rw[iw,h0];have:=b8 he hn;simp only[ab.dot] at this⊢;grind
def Uy{c:aC}{l:aa}{v:aj}(hc:cI c)(hl:l.ok)(hp:kG c l=some v):
  cI (mm (eH l c) l v)/\ ∀p,bw (mm (eH l c) l v) p↔bw c p/\0<l.value p:=by
 obtain⟨⟨q,hq,lq⟩,_⟩:=Gv hl.ne hp;obtain⟨v1,v2,v3⟩:=Eo l c _ v vP hp;have hD: ∀p,bw (mm (eH l c) l v) p↔bw c p/\0<l.value p:=by
  intro p;constructor
  ·intro h
   have lp:0<l.value p:=h ⟨l,v⟩ (qA.2 (.inl J));refine⟨fun s0 hs0=>?_,lp⟩;by_cases h0:0<s0.l.value p
   ·exact h0
   ·exfalso
    obtain⟨e,e0,e1,⟨s,ms,ns,zs⟩,hC⟩:=Jo (p:=p) hq ⟨s0,hs0,by grind⟩;obtain⟨t,ht⟩:=yN (hc.ok s ms).ne zs;rw[ht] at hC;obtain⟨p1,p2⟩:=hc.edge s ms;have hh:=(p2 t).2 hC;have lr:0<l.value (s.l.at t):=by
     rw[<-ht,jH];by_cases hB:0<=l.value p-l.value q
     ·have:=eO e0 hB;grind
     ·have:=eO (a:=1-e) (b:= -(l.value p-l.value q)) (by grind) (by grind)
      grind
    have hb:s.l.cutB s.v l=true:=by
     cases hb:s.l.cutB s.v l with
     |true=>rfl
     |false=>have:=AW p1 hb hh;grind
    have:=h ⟨s.l,s.l.cutV s.v l⟩ (qA.2 (.inr (se.2 ⟨s,ms,hb,J⟩)));simp only at this;grind
  ·rintro ⟨h1,h2⟩ s hs
   rcases qA.1 hs with rfl|hs
   ·exact h2
   ·obtain⟨s1,m1,_,rfl⟩:=se.1 hs
    exact h1 s1 m1
 have hne: ∃p,bw (mm (eH l c) l v) p:=⟨q,(hD q).2 ⟨hq,lq⟩⟩;have hC: ∀p,n0 (mm (eH l c) l v) p↔n0 c p/\0<=l.value p:=by
  intro p;constructor
  ·intro h
   refine⟨fun s hs=>?_,h ⟨l,v⟩ (qA.2 (.inl J))⟩;exact tf hne (fun p hp=>((hD p).1 hp).1 s hs) h
  ·rintro ⟨h1,h2⟩ s hs
   rcases qA.1 hs with rfl|hs
   ·exact h2
   ·obtain⟨s1,m1,_,rfl⟩:=se.1 hs
    exact h1 s1 m1
 refine⟨⟨hne,fun s hs=>?_,fun s hs=>?_⟩,hD⟩
 ·rcases qA.1 hs with rfl|hs
  ·exact hl
  ·obtain⟨s1,m1,_,rfl⟩:=se.1 hs
   exact hc.ok s1 m1
 ·rcases qA.1 hs with rfl|hs
  ·refine⟨v1,fun t=>?_⟩
   rw[hC];simp only;rw[v2];have h0:=nH hl.ne t;constructor
   ·intro h;exact⟨h.2,by rw[h0];exact gT⟩
   ·intro h;exact⟨F3 t,h.1⟩
  ·obtain⟨s1,m1,hb,rfl⟩:=se.1 hs
   obtain⟨p1,p2⟩:=hc.edge s1 m1;refine⟨xJ p1 hb,fun t=>?_⟩;rw[hC];simp only;rw[C6 hb,p2]
def bw.seg{c:aC}{q p:ab}{e:Rat}(hq:bw c q)(hp:bw c p)(h0:0<=e)(h1:e<=1):bw c (bt q p e):=fun s hs=>by
 rw[jH];have a:=hq s hs;have b:=hp s hs;by_cases he:e=0
 ·subst he;grind
 ·have:=b8 (a:=e) (by grind) b
  have:=eO (a:=1-e) (b:=s.l.value q) (by grind) (by grind);grind
def HK{v:aj}{t:Rat}(h:v.ins t):(∃u,u<t/\v.has u)/\ ∃u,t<u/\v.has u:=by
 obtain⟨lo,hi,nl,nh⟩:=v;unfold aj.ins at h;unfold aj.has;refine⟨⟨if nl=true then t-1 else lo,?_⟩,⟨if nh=true then t+1 else hi,?_⟩⟩<;>cases nl<;>cases nh<;>simp at* <;>grind
def wK{a b c x y z:Nat}(h1:x*b=a*y)(h2:x*c=a*z)(g:Nat.gcd (Nat.gcd a b) c=1):a∣x:=by
 have e:x=Nat.gcd (Nat.gcd (x*a) (x*b)) (x*c):=by
  rw[Nat.gcd_mul_left,Nat.gcd_mul_left,g,iL]
 rw[e];exact Nat.dvd_gcd (Nat.dvd_gcd (Nat.dvd_mul_left ..) (h1▸Nat.dvd_mul_right ..)) (h2▸Nat.dvd_mul_right ..)
def Wn{a b c x y z:Int}(h1:a*y=b*x)(h2:a*z=c*x)(h3:b*z=c*y)
  (g1:Nat.gcd (Nat.gcd a.natAbs b.natAbs) c.natAbs=1)(g2:Nat.gcd (Nat.gcd x.natAbs y.natAbs) z.natAbs=1):
  (a=x/\b=y/\c=z)\/(a= -x/\b= -y/\c= -z):=by
 have n1:a.natAbs*y.natAbs=b.natAbs*x.natAbs:=by rw[<-iT,<-iT,h1]
 have n2:a.natAbs*z.natAbs=c.natAbs*x.natAbs:=by rw[<-iT,<-iT,h2]
 have n3:b.natAbs*z.natAbs=c.natAbs*y.natAbs:=by rw[<-iT,<-iT,h3]
 generalize ha:a.natAbs=A at*;generalize hb:b.natAbs=B at*;generalize hc:c.natAbs=C at*;generalize hx:x.natAbs=X at*;generalize hy:y.natAbs=Y at*;generalize hz:z.natAbs=Z at*;have gB:Nat.gcd (Nat.gcd B A) C=1:=by rw[jV B A];exact g1
 have gC:Nat.gcd (Nat.gcd C A) B=1:=by rw[Nat.gcd_assoc,jV];exact g1
 have gY:Nat.gcd (Nat.gcd Y X) Z=1:=by rw[jV Y X];exact g2
 have gZ:Nat.gcd (Nat.gcd Z X) Y=1:=by rw[Nat.gcd_assoc,jV];exact g2
 have e1:A=X:=Nat.dvd_antisymm (wK (x:=X) (y:=Y) (z:=Z) (by grind) (by grind) g1) (wK (x:=A) (y:=B) (z:=C) (by grind) (by grind) g2);have e2:B=Y:=Nat.dvd_antisymm (wK (x:=Y) (y:=X) (z:=Z) (by grind) (by grind) gB) (wK (x:=B) (y:=A) (z:=C) (by grind) (by grind) gY);have e3:C=Z:=Nat.dvd_antisymm (wK (x:=Z) (y:=X) (z:=Y) (by grind) (by grind) gC) (wK (x:=C) (y:=A) (z:=B) (by grind) (by grind) gZ);have s1:a=x\/a= -x:=by omega
 have s2:b=y\/b= -y:=by omega
 have s3:c=z\/c= -z:=by omega
 clear ha hb hc hx hy hz n1 n2 n3 g1 g2 gB gC gY gZ e1 e2 e3;have z1:= @sM x y;have z2:= @sM x z;have z3:= @sM y z;rcases s1 with rfl|rfl<;>rcases s2 with rfl|rfl<;>rcases s3 with rfl|rfl<;>grind
def yj{l m:aa}(hl:l.ok)(hm:m.ok)(h: ∀t,l.value (m.at t)=0):l=m\/l=m.rev:=by
 have h0:=h 0;have h1:=h 1;rw[lI] at h0 h1;have hC:m.cutC l=0:=by grind
 have hK:m.cutK l=0:=by grind
 obtain⟨q,q1,q2⟩:=zO hm.ne;have hn:=po hm.ne;unfold aa.cutC at hC;rw[q2,lB] at hC;unfold aa.cutK at hK;simp only[aa.nor,aa.dir,ab.dot] at hK q1 hn hC;obtain⟨a,b,c⟩:=l;obtain⟨x,y,z⟩:=m;simp only at*;have e1:a*y=b*x:=by
  have:((a*y:Int):Rat)=((b*x:Int):Rat):=by rw[cS,cS];grind
  exact oM.1 this
 have e2:a*z=c*x:=by
  have:((a*z:Int):Rat)=((c*x:Int):Rat):=by rw[cS,cS];grind
  exact oM.1 this
 have e3:b*z=c*y:=by
  have:((b*z:Int):Rat)=((c*y:Int):Rat):=by rw[cS,cS];grind
  exact oM.1 this
 rcases Wn e1 e2 e3 hl.2 hm.2 with⟨rfl,rfl,rfl⟩|⟨rfl,rfl,rfl⟩
 ·exact .inl J
 ·exact .inr J
def aa.ok.rev{l:aa}(h:l.ok):l.rev.ok:=by
 obtain⟨h1,h2⟩:=h;refine⟨?_,?_⟩
 ·simp only[aa.rev];omega
 ·simp only[aa.rev,iR];exact h2
def Kh(l:aa): ∀c:aC,(∀s∈c,oq l s<=0/\s.l≠l)-> ¬0<nE l c
 |[],_=>by simp[nE]
 |s::c,h=>by
  have h':=cN.1 h;unfold nE;rw[if_neg h'.1.2];split
  ·have:=h'.1.1;omega
  ·exact Kh l c h'.2
def Ov{c:aC}{l:aa}(hc:cI c)(hl:l.ok)(hp:kG c l=none):
  (0<nE l c/\ ∀p,bw c p->0<l.value p)\/(¬0<nE l c/\ ∀p,bw c p->l.value p<0):=by
 have hoff:=fun p (h:bw c p)=>Ud hl.ne hp h;by_cases hq: ∃q,bw c q/\0<l.value q
 ·left
  obtain⟨q,hq,lq⟩:=hq;have hall: ∀p,bw c p->0<l.value p:=by
   intro p h;have:=hoff p h;by_cases h0:0<l.value p
   ·exact h0
   ·exfalso
    have hn:l.value p<0:=by grind
    have e1:l.value q/(l.value q-l.value p)*(l.value q-l.value p)=l.value q:=by grind
    generalize l.value q/(l.value q-l.value p)=e at*;have f0:0<=e:=(jB (k:=l.value q-l.value p) (by grind)).1 (by grind);have f1:e<=1:=by
     have:=(jB (s:=1-e) (k:=l.value q-l.value p) (by grind)).1 (by grind);grind
    exact hoff _ (hq.seg h f0 f1) (by rw[jH];grind)
  refine⟨?_,hall⟩
  cases c with
  |nil=>simp[kG,nD] at hp
  |cons s c=>
   obtain⟨p1,p2⟩:=hc.edge s aQ;have hi:=p6 p1;have hr:=tf hc.ne hall ((p2 _).1 hi.has);unfold nE;by_cases h0:oq l s=0
   ·rw[if_neg (by simpa using h0)]
    have hz:l.value (s.l.at s.v.sample)=0:=(jj _).1 h0;have hge: ∀t,s.v.has t->0<=l.value (s.l.at t):=fun t ht=>tf hc.ne hall ((p2 t).1 ht);obtain⟨⟨u1,m1,n1⟩,⟨u2,m2,n2⟩⟩:=HK hi;have g1:=hge _ n1;have g2:=hge _ n2;rw[lI] at hz g1 g2;have hK:s.l.cutK l=0:=by
     rcases fE (s.l.cutK l) with h|h|h
     ·exact h
     ·exfalso
      have:=b8 (a:=s.v.sample-u1) (b:=s.l.cutK l) (by grind) h;grind
     ·exfalso
      have:=b8 (a:=u2-s.v.sample) (b:= -s.l.cutK l) (by grind) (by grind);grind
    have hz2: ∀t,l.value (s.l.at t)=0:=fun t=>by rw[lI,hK];rw[hK] at hz;grind
    rcases yj hl (hc.ok s aQ) hz2 with h|h
    ·rw[if_pos h.symm];decide
    ·exfalso
     have:=hall q hq;rw[h,f7] at this;have:=hq s aQ;grind
   ·rw[if_pos h0]
    have hz:l.value (s.l.at s.v.sample)≠0:=fun e=>h0 ((jj _).2 e);exact(mr _).2 (by grind)
 ·right
  have hall: ∀p,bw c p->l.value p<0:=fun p h=>by
   have:=hoff p h;have: ¬0<l.value p:=fun h'=>hq ⟨p,h,h'⟩;grind
  refine⟨Kh l c fun s hs=>?_,hall⟩;obtain⟨p1,p2⟩:=hc.edge s hs;have hr:=tf (m:=l.rev) hc.ne (fun p h=>by rw[f7];have:=hall p h;grind) ((p2 _).1 (p6 p1).has);rw[f7] at hr;constructor
  ·have: ¬0<oq l s:=fun h=>by have:=(mr _).1 h;grind
   omega
  ·rintro rfl
   obtain⟨p,hp⟩:=hc.ne;have:=hall p hp;have:=hp s hs;grind
def r8{c:aC}{l:aa}(hc:cI c)(hl:l.ok):cH c l=true↔ ∃p,bw c p/\0<l.value p:=by
 unfold cH
 cases hp:kG c l with
 |some v=>exact⟨fun _=>(Gv hl.ne hp).1,fun _=>J⟩
 |none=>
  simp only[wD,hp,Option.isSome_none,dZ,if_false,decide_eq_true_iff];rcases Ov hc hl hp with⟨h1,h2⟩|⟨h1,h2⟩
  ·refine⟨fun _=>?_,fun _=>h1⟩
   obtain⟨p,hp⟩:=hc.ne;exact⟨p,hp,h2 p hp⟩
  ·refine⟨fun h=>absurd h h1,?_⟩
   rintro ⟨p,hp,h⟩;have:=h2 p hp;grind
def jv{c:aC}{l:aa}(hc:cI c)(hl:l.ok)(hb:cH c l=true):cI (bE c l)/\ ∀p,bw (bE c l) p↔bw c p/\0<l.value p:=by
 unfold bE
 cases hp:kG c l with
 |some v=>exact Uy hc hl hp
 |none=>
  refine⟨hc,fun p=>?_⟩;unfold cH at hb;simp only[hp,wD,Option.isSome_none,dZ,if_false,decide_eq_true_iff] at hb;rcases Ov hc hl hp with⟨h1,h2⟩|⟨h1,h2⟩
  ·exact⟨fun h=>⟨h,h2 p h⟩,fun h=>h.1⟩
  ·exact absurd hb h1
inductive aK1 (c:aC) (l:aa):Prop
 |left (h1:cH c l.rev=false) (h: ∀p,bw c p->0<l.value p)
 |right (h1:cH c l.rev=true) (h2:cH c l=false) (h: ∀p,bw c p->l.value p<0)
 |both (h1:cH c l.rev=true) (h2:cH c l=true) (g1:cI (bE c l)) (g2:cI (bE c l.rev))
   (e1: ∀p,bw (bE c l) p↔bw c p/\0<l.value p) (e2: ∀p,bw (bE c l.rev) p↔bw c p/\l.value p<0)
def Tr.restrict_A{l:aa}{e:aC}(X Y:Tr)(h:cH e l.rev=false):(Tr.node l X Y).restrict e=X.restrict e:=by
 rw[Tr.restrict,h];rfl
def Tr.restrict_B{l:aa}{e:aC}(X Y:Tr)(h:cH e l.rev=true)(h2:cH e l=false):(Tr.node l X Y).restrict e=Y.restrict e:=by
 rw[Tr.restrict,h,h2];rfl
def Tr.restrict_C{l:aa}{e:aC}(X Y:Tr)(h:cH e l.rev=true)(h2:cH e l=true):(Tr.node l X Y).restrict e=Tr.joinQ l (X.restrict (bE e l)) (Y.restrict (bE e l.rev)):=by
 rw[Tr.restrict,h,h2];rfl
def f9:List aa->aC->Option aC
 |[],c=>some c
 |l::t,c=>if cH c l then f9 t (bE c l) else none
def AN: ∀{ls:List aa} {c e:aC},cI c->(∀l∈ls,l.ok)->f9 ls c=some e->cI e/\ ∀p,bw e p↔bw c p/\ ∀l∈ls,0<l.value p
 |[],c,e,hc,_,h=>by
  obtain rfl:c=e:=by simpa[f9] using h
  exact⟨hc,fun p=>⟨fun h=>⟨h,fun l hl=>absurd hl (by simp)⟩,fun h=>h.1⟩⟩
 |l::t,c,e,hc,hl,h=>by
  have hl':=cN.1 hl;rw[f9] at h;split at h
  ·rename_i hb
   obtain⟨g1,g2⟩:=jv hc hl'.1 hb;obtain⟨k1,k2⟩:=AN g1 hl'.2 h;refine⟨k1,fun p=>?_⟩;rw[k2,g2,cN,and_assoc]
  ·exact absurd h (by simp)
def Ed: ∀{ls:List aa} {c:aC},cI c->(∀l∈ls,l.ok)->(∃p,bw c p/\ ∀l∈ls,0<l.value p)-> ∃e,f9 ls c=some e
 |[],c,_,_,_=>⟨c,J⟩
 |l::t,c,hc,hl,⟨p,h1,h2⟩=>by
  have hl':=cN.1 hl;have h2':=cN.1 h2;have hb:=(r8 hc hl'.1).2 ⟨p,h1,h2'.1⟩;obtain⟨g1,g2⟩:=jv hc hl'.1 hb;rw[f9,if_pos hb];exact Ed g1 hl'.2 ⟨p,(g2 p).2 ⟨h1,h2'.1⟩,h2'.2⟩
def Ek{c:aC}(hc:cI c){s:aO}(hs:s∈c){m:aa}(hm:m.ok)(h: ∀p,bw c p->0<m.value p)(hz:m.value (s.l.at s.v.sample)=0):m=s.l:=by
 obtain⟨p1,p2⟩:=hc.edge s hs;have hi:=p6 p1;have hge: ∀t,s.v.has t->0<=m.value (s.l.at t):=fun t ht=>tf hc.ne h ((p2 t).1 ht);obtain⟨⟨u1,m1,n1⟩,⟨u2,m2,n2⟩⟩:=HK hi;have g1:=hge _ n1;have g2:=hge _ n2;rw[lI] at hz g1 g2;have hK:s.l.cutK m=0:=by
  rcases fE (s.l.cutK m) with h|h|h
  ·exact h
  ·exfalso
   have:=b8 (a:=s.v.sample-u1) (b:=s.l.cutK m) (by grind) h;grind
  ·exfalso
   have:=b8 (a:=u2-s.v.sample) (b:= -s.l.cutK m) (by grind) (by grind);grind
 have hz2: ∀t,m.value (s.l.at t)=0:=fun t=>by rw[lI,hK];rw[hK] at hz;grind
 rcases yj hm (hc.ok s hs) hz2 with h'|h'
 ·exact h'
 ·exfalso
  obtain⟨q,hq⟩:=hc.ne;have:=h q hq;rw[h',f7] at this;have:=hq s hs;grind
def fk(l:aa):List aa->aj->Option aj
 |[],v=>some v
 |m::t,v=>if m=l then fk l t v else if l.cutB v m then fk l t (l.cutV v m) else none
def dh(c:List aa)(p:ab):Prop:= ∀m∈c,0<m.value p
def yP(l:aa): ∀(c:List aa) (v w:aj),v.Pos->fk l c v=some w->
  w.Pos/\(∀t,w.ins t↔v.ins t/\ ∀m∈c,m≠l->0<m.value (l.at t))
 |[],v,w,hv,h=>by
  obtain rfl:v=w:=by simpa[fk] using h
  exact⟨hv,fun t=>⟨fun h=>⟨h,fun s hs=>absurd hs (by simp)⟩,fun h=>h.1⟩⟩
 |m::c,v,w,hv,h=>by
  rw[fk] at h;split at h
  ·rename_i hm
   obtain⟨h1,h2⟩:=yP l c _ w hv h;refine⟨h1,fun t=>?_⟩;rw[h2,cN];exact⟨fun h=>⟨h.1,fun h'=>absurd hm h',h.2⟩,fun h=>⟨h.1,h.2.2⟩⟩
  ·rename_i hm
   split at h
   ·rename_i hb
    obtain⟨h1,h2⟩:=yP l c _ w (xJ hv hb) h;refine⟨h1,fun t=>?_⟩;rw[h2,Cy hb,cN,and_assoc];exact⟨fun h=>⟨h.1,fun _=>h.2.1,h.2.2⟩,fun h=>⟨h.1,h.2.1 hm,h.2.2⟩⟩
   ·exact absurd h (by simp)
def EV(l:aa): ∀(c:List aa) (v:aj),v.Pos->fk l c v=none-> ∀t,v.has t-> ¬ ∀m∈c,m≠l->0<m.value (l.at t)
 |[],v,hv,h=>by simp[fk] at h
 |m::c,v,hv,h=>by
  intro t ht hd;have hd':=cN.1 hd;rw[fk] at h;split at h
  ·exact EV l c _ hv h t ht hd'.2
  ·rename_i hm
   split at h
   ·rename_i hb
    exact EV l c _ (xJ hv hb) h t ((C6 hb t).2 ⟨ht,dS (hd'.1 hm)⟩) hd'.2
   ·rename_i hb
    have:=AW hv (by simpa using hb) ht;have:=hd'.1 hm;grind
def ll(c:List aa):Bool:=c.isEmpty||c.any (fun l=>(fk l c aj.all).isSome)
def Ll: ∀{ls:List aa} {c e:aC},f9 ls c=some e-> ∀s∈e,s.l∈ls\/ ∃s'∈c,s'.l=s.l
 |[],c,e,h,s,hs=>by
  obtain rfl:c=e:=by simpa[f9] using h
  exact .inr ⟨s,hs,J⟩
 |l::t,c,e,h,s,hs=>by
  rw[f9] at h;split at h
  ·rcases Ll h s hs with h1|⟨s',h1,h2⟩
   ·exact .inl (aZ _ h1)
   ·unfold bE at h1
    split at h1
    ·rcases qA.1 h1 with rfl|h1
     ·exact .inl (by rw[<-h2];exact aQ)
     ·obtain⟨s1,m1,_,rfl⟩:=se.1 h1
      exact .inr ⟨s1,m1,h2⟩
    ·exact .inr ⟨s',h1,h2⟩
  ·exact absurd h (by simp)
def AZ{c:List aa}(hok: ∀l∈c,l.ok)(hne: ∃p,dh c p): ∃e,f9 c []=some e/\cI e/\(∀p,bw e p↔dh c p)/\ ∀s∈e,s.l∈c/\(fk s.l c aj.all).isSome=true:=by
 obtain⟨p,hp⟩:=hne;obtain⟨e,he⟩:=Ed cI.nil hok ⟨p,fun s hs=>absurd hs (by simp),hp⟩;obtain⟨g1,g2⟩:=AN cI.nil hok he;have g3: ∀p,bw e p↔dh c p:=fun p=>by
  rw[g2];exact⟨fun h=>h.2,fun h=>⟨fun s hs=>absurd hs (by simp),h⟩⟩
 refine⟨e,he,g1,g3,fun s hs=>?_⟩;have hm:s.l∈c:=by
  rcases Ll he s hs with h|⟨_,h,_⟩
  ·exact h
  ·exact absurd h (by simp)
 refine⟨hm,?_⟩
 cases hp:fk s.l c aj.all with
 |some w=>rfl
 |none=>
  exfalso;obtain⟨p1,p2⟩:=g1.edge s hs;have hC:=(p2 s.v.sample).1 (p6 p1).has;refine EV s.l c _ vP hp s.v.sample (F3 _) fun m hmc hne=>?_;have hall: ∀p,bw e p->0<m.value p:=fun p hp=>(g3 p).1 hp m hmc;have h0:=tf g1.ne hall hC;have h1:m.value (s.l.at s.v.sample)≠0:=fun hz=>hne (Ek g1 hs (hok m hmc) hall hz);grind
def Cv{c:List aa}(hok: ∀l∈c,l.ok):ll c=true↔ ∃p,dh c p:=by
 unfold ll;rw[iU,List.isEmpty_iff,gK];constructor
 ·rintro (rfl|⟨l,hl,h⟩)
  ·exact⟨⟨0,0⟩,fun m hm=>absurd hm (by simp)⟩
  ·obtain⟨w,hw⟩:=qU.1 h
   obtain⟨w1,w2⟩:=yP l c _ w vP hw;have hi:=((w2 w.sample).1 (p6 w1)).2;have h0:=nH (hok l hl).ne w.sample;have hd:bw ((c.filter (fun m=>decide (m≠l))).map (fun m=>(⟨m,aj.all⟩:aO))) (l.at w.sample):=by
    intro s hs;obtain⟨m,hm,rfl⟩:=bJ.1 hs;rw[kS,decide_eq_true_iff] at hm;exact hi m hm.1 hm.2
   obtain⟨e,he,ho⟩:=hd.open l.nor;refine⟨ce (l.at w.sample) l.nor e,fun m hm=>?_⟩;by_cases hml:m=l
   ·subst hml
    rw[iw,h0];have:=b8 he (po (hok m hl).ne);grind
   ·exact ho e (dS he) gT ⟨m,aj.all⟩ (bJ.2 ⟨m,kS.2 ⟨hm,by simpa using hml⟩,J⟩)
 ·intro hne
  obtain⟨e,h1,h2,h3,h4⟩:=AZ hok hne
  cases c with
  |nil=>exact .inl J
  |cons l c=>
   right
   cases e with
   |nil=>
    exfalso;have:=(h3 (l.at 0)).1 (fun s hs=>absurd hs (by simp)) l aQ;rw[nH (hok l aQ).ne] at this;exact absurd this (by decide)
   |cons s e=>
    obtain⟨a,b⟩:=h4 s aQ;exact⟨s.l,a,b⟩
def mI(out:List aa)(l:aa):Nat:=(out.takeWhile (fun x=>decide (ck x.dir l.dir<0))).length
def oI(out:List aa)(l:aa):List aa:=if out[mI out l]? =some l then out else out.take (mI out l)++l::out.drop (mI out l)
def nC(c:List aa):List aa->List aa->List aa
 |[],out=>out
 |l::t,out=>nC c t (if(fk l c aj.all).isSome then oI out l else out)
def d9(c:List aa):List aa:=nC c c []
def HU{out:List aa}{l m:aa}:m∈oI out l↔m=l\/m∈out:=by
 unfold oI;split
 ·rename_i h
  exact⟨fun h=> .inr h,fun h'=>h'.elim (fun e=>e▸bX h) id⟩
 ·generalize mI out l=n
  have h:=kW n out;rw[bV,aY];constructor
  ·rintro (h1|h1|h1)
   ·exact .inr (fK h1)
   ·exact .inl h1
   ·exact .inr (iY h1)
  ·rintro (h1|h1)
   ·exact .inr (.inl h1)
   ·rw[<-h,bV] at h1
    rcases h1 with h1|h1
    ·exact .inl h1
    ·exact .inr (.inr h1)
def Pb{c:List aa}{m:aa}: ∀{t out:List aa},m∈nC c t out↔m∈out\/m∈t/\(fk m c aj.all).isSome=true
 |[],out=>by simp[nC]
 |l::t,out=>by
  rw[nC,Pb];split
  ·rename_i h
   rw[HU,aY];constructor
   ·rintro ((rfl|h1)|⟨h1,h2⟩)
    ·exact .inr ⟨.inl J,h⟩
    ·exact .inl h1
    ·exact .inr ⟨.inr h1,h2⟩
   ·rintro (h1|⟨rfl|h1,h2⟩)
    ·exact .inl (.inr h1)
    ·exact .inl (.inl J)
    ·exact .inr ⟨h1,h2⟩
  ·rename_i h
   rw[aY];constructor
   ·rintro (h1|⟨h1,h2⟩)
    ·exact .inl h1
    ·exact .inr ⟨.inr h1,h2⟩
   ·rintro (h1|⟨rfl|h1,h2⟩)
    ·exact .inl h1
    ·exact absurd h2 h
    ·exact .inr ⟨h1,h2⟩
def qx{c:List aa}{m:aa}:m∈d9 c↔m∈c/\(fk m c aj.all).isSome=true:=by
 unfold d9;rw[Pb];simp
def GN{c:List aa}(hok: ∀l∈c,l.ok)(hne: ∃p,dh c p)(p:ab):dh (d9 c) p↔dh c p:=by
 constructor
 ·intro h
  obtain⟨e,h1,h2,h3,h4⟩:=AZ hok hne;exact(h3 p).1 fun s hs=>h s.l (qx.2 (h4 s hs))
 ·intro h m hm;exact h m (qx.1 hm).1
def Ct(c:List aa)(l:aa):Int:=if ll (c++[l])&&ll (c++[l.rev]) then 0 else if ll (c++[l]) then 1 else-1
def Tr.restrictL:Tr->List aa->Tr
 | .leaf b,_=> .leaf b
 | .node l x y,c=>if Ct c l=1 then x.restrictL c else if Ct c l= -1 then y.restrictL c else joinQ l (x.restrictL (d9 (c++[l]))) (y.restrictL (d9 (c++[l.rev])))
def Hz{c:List aa}{l:aa}{p:ab}:dh (c++[l]) p↔dh c p/\0<l.value p:=by
 unfold dh;rw[List.forall_mem_append];simp
def NS{c:List aa}{l:aa}(hok: ∀m∈c,m.ok)(hl:l.ok): ∀m∈c++[l],m.ok:=by
 rw[List.forall_mem_append];exact⟨hok,by simpa using hl⟩
end Go.Sx
end
section
namespace Go.Sx
open Go Go.Proofs Tryz
variable {GB:Gh}
structure Br where
 lo:RV
 hi:RV
 nl:Bool
 nh:Bool
def Br.v(z:Br):Value:= .agg ⟨[.int .i64 z.lo.n, .int .i64 z.lo.d, .pointer z.lo.p, .int .i64 z.hi.n, .int .i64 z.hi.d, .pointer z.hi.p, .bool z.nl, .bool z.nh]⟩
section
variable {P:Program} {C:aD} {n:Nat} {fr:Fr} {own own' own1:List ao} {G:Gh} {Φ:Act->World->Prop}
variable {dst:Option Nat} {t t' ty':TypeId} {pos:String} {af:Array Edge} {gd:Option (Nat×Bool)} {x y:Operand} {e s by_:Nat}
end
structure WK (k:Nat) (G:Gh) (z:Br) (v:aj):Prop where
 lo:vz k G z.lo v.lo
 hi:vz k G z.hi v.hi
 nl:z.nl=v.nl
 nh:z.nh=v.nh
def LT:List Int->Int
 |[]=>0
 |x::t=>if x≠0 then x else LT t
def aLa(l m:aa):Int:=LT [cg l.a m.a,cg l.b m.b,cg l.c m.c]
structure z6 where
 l:LV
 v:Br
def z6.val(z:z6):Value:= .agg ⟨[.int .i64 z.l.a.n, .int .i64 z.l.a.d, .pointer z.l.a.p, .int .i64 z.l.b.n, .int .i64 z.l.b.d, .pointer z.l.b.p, .int .i64 z.l.c.n, .int .i64 z.l.c.d, .pointer z.l.c.p, .int .i64 z.v.lo.n, .int .i64 z.v.lo.d, .pointer z.v.lo.p, .int .i64 z.v.hi.n, .int .i64 z.v.hi.d, .pointer z.v.hi.p, .bool z.v.nl, .bool z.v.nh]⟩
structure Zs (k:Nat) (G:Gh) (z:z6) (f:aO):Prop where
 l:ED k G z.l f.l
 v:WK (25*k+6) G z.v f.v
inductive gl {α β:Type} (R:α->β->Prop):List α->List β->Prop
 |nil:gl R [] []
 |cons {a b us bs} (h:R a b) (t:gl R us bs):gl R (a::us) (b::bs)
def gl.len{α β:Type}{R:α->β->Prop}{us:List α}{bs:List β}(h:gl R us bs):us.length=bs.length:=by
 induction h with
 |nil=>rfl
 |cons _ _ ih=>simp[ih]
def gl.imp{α β:Type}{R S:α->β->Prop}{us:List α}{bs:List β}(h:gl R us bs)(k: ∀a b,R a b->S a b):gl S us bs:=by
 induction h with
 |nil=>exact .nil
 |cons h _ ih=>exact .cons (k _ _ h) ih
def gl.get{α β:Type}{R:α->β->Prop}{us:List α}{bs:List β}(h:gl R us bs){i:Nat}{b:β}(hi:bs[i]? =some b): ∃a,us[i]? =some a/\R a b:=by
 induction h generalizing i with
 |nil=>simp at hi
 | @cons a b' us bs h t ih=>
  cases i with
  |zero=>simp at hi;subst hi;exact⟨a,J,h⟩
  |succ i=>simpa using ih (i:=i) (by simpa using hi)
def gl.app{α β:Type}{R:α->β->Prop}{us us':List α}{bs bs':List β}(h:gl R us bs)(k:gl R us' bs'):gl R (us++us') (bs++bs'):=by
 induction h with
 |nil=>exact k
 |cons h _ ih=>exact .cons h ih
structure XH (k:Nat) (G:Gh) (x:SV) (c:aC):Prop where
 ex: ∃fs:List z6,eB G 17 x (fs.map z6.val)/\gl (Zs k G) fs c

section
variable {P:Program} {C:aD} {n:Nat} {fr:Fr} {own own':List ao} {G:Gh} {Φ:Act->World->Prop}
variable {dst:Option Nat} {t t' ty':TypeId} {pos:String} {af:Array Edge} {gd:Option (Nat×Bool)} {x y:Operand} {e s by_:Nat}
def Xh{o1 o2:ao}{rest:List ao}(h:o1.b≠o2.b->St C n fr (o1::o2::rest) G Φ):St C n fr (o1::o2::rest) G Φ:=
 fun a w rl=>h ((bY.1 rl.h.nd).1 _ aQ) a w rl
def CH[hT:cj P t e s by_]{k:IntKind}{b off len cap:Nat}{l:Int}(hx:aw fr x=some (.slice (some ⟨b,off,none⟩) len cap))(hy:aw fr y=some (.int k l))(h0:0<=l)(h1:l<=len)(h2:l<cap):
  Yd P C fr own G ⟨dst, .slice t x (some y) none none,ty',pos,af,gd⟩ (.slice (some ⟨b,off+l.toNat*s,none⟩) (len-l.toNat) (cap-l.toNat)):=by
 have h:=Ds (P:=P) (C:=C) (own:=own) (G:=G) (t:=t) (dst:=dst) (ty':=ty') (pos:=pos) (af:=af) (gd:=gd) (by_:=by_) hx hy h0 h1;unfold mh at h;rw[if_neg (by omega)] at h;simpa[oG] using h
end

section
variable {P:Program} {C:aD} {n:Nat} {fr:Fr} {own own':List ao} {G:Gh} {Φ:Act->World->Prop}
variable {dst:Option Nat} {t t' ty':TypeId} {pos:String} {af:Array Edge} {gd:Option (Nat×Bool)} {x y:Operand} {e s by_:Nat}
end

def GI(k:Nat)(G:Gh):Tr->Option Addr->Prop
 | .leaf b,p=> ∃n,p=some ⟨n,0,none⟩/\G n=some [.int .i64 0, .int .i64 0, .pointer none, .int .i64 0, .int .i64 0, .pointer none, .int .i64 0, .int .i64 0, .pointer none, .pointer none, .pointer none, .bool b]
 | .node l x y,p=> ∃(n:Nat) (z:LV) (q r:Option Addr),p=some ⟨n,0,none⟩/\G n=some [.int .i64 z.a.n, .int .i64 z.a.d, .pointer z.a.p, .int .i64 z.b.n, .int .i64 z.b.d, .pointer z.b.p, .int .i64 z.c.n, .int .i64 z.c.d, .pointer z.c.p, .pointer q, .pointer r, .bool false]/\ED k G z l/\GI k G x q/\GI k G y r
structure ND where
 a:IV
 b:IV
 c:IV
 l:Int
 r:Int
def ND.val(z:ND):Value:= .agg ⟨[.bool z.a.neg, .slice z.a.a.a z.a.a.n z.a.a.c, .bool z.b.neg, .slice z.b.a.a z.b.a.n z.b.a.c, .bool z.c.neg, .slice z.c.a.a z.c.a.n z.c.a.c, .int .i64 z.l, .int .i64 z.r]⟩
structure rp (k:Nat) (G:Gh) (z:ND) (n:NQ):Prop where
 a:l8 k G z.a n.l.a
 b:l8 k G z.b n.l.b
 c:l8 k G z.c n.l.c
 l:z.l=n.a
 r:z.r=n.b
def rp.up{k:Nat}{A G:Gh}{z:ND}{n:NQ}(h:rp k A z n)[GL A G]:rp k G z n:=⟨h.a.up,h.b.up,h.c.up,h.l,h.r⟩
structure SY (k:Nat) (G:Gh) (x:SV) (ns:List NQ):Prop where
 ex: ∃zs:List ND,eB G 8 x (zs.map ND.val)/\gl (rp k G) zs ns
def aJB(n i:Nat):List Value:=(List.range n).map fun j=> .bool (decide (j<i))

def ND.len8(zs:List ND): ∀v∈zs.map ND.val,(aE v).length=8:=fun v hv=>by
 obtain⟨f,_,rfl⟩:=bJ.1 hv;rfl
def ND.flat(zs:List ND): ∀v∈zs.map ND.val,∀c∈aE v,Sx.flat c=true:=fun v hv c hc=>by
 obtain⟨f,_,rfl⟩:=bJ.1 hv;simp only[ND.val,aE,aY,nZ,or_false] at hc;rcases hc with rfl|rfl|rfl|rfl|rfl|rfl|rfl|rfl<;>rfl
def gl.set{α β:Type}{R:α->β->Prop}{us:List α}{bs:List β}(h:gl R us bs){a:α}{b:β}(hr:R a b)(i:Nat):gl R (us.set i a) (bs.set i b):=by
 induction h generalizing i with
 |nil=>simp;exact .nil
 |cons h t ih=>
  cases i with
  |zero=>exact .cons hr t
  |succ i=>exact .cons h (ih i)
def J8(zs:List ND)(rest:List Value)(i j:Nat)(x:Value)(z:ND)(hi:i<zs.length)(hj:j<8)(hz:aE z.val=(aE (zs[i]).val).set j x):
  (aB (zs.map ND.val)++rest).set (i*8+j) x=aB ((zs.set i z).map ND.val)++rest:=by
 have hi':i<(zs.map ND.val).length:=by simpa using hi
 rw[NI hj _ i hi' (ND.len8 zs),pY,<-hz,oR,List.set_eq_take_append_cons_drop,if_pos hi',mC];have e:aB (z.val::(zs.map ND.val).drop (i+1))=aE z.val++aB ((zs.map ND.val).drop (i+1)):=by simp[aB]
 rw[e];simp[dK]
def oe(ob wb:Nat):Value:= .func (.func 170) #[] #[.pointer (some ⟨ob,0,none⟩), .pointer (some ⟨wb,0,none⟩)]
structure yR where
 x:SV
 p:Option Addr
def yR.val(z:yR):Value:= .agg ⟨[.slice z.x.a z.x.n z.x.c, .pointer z.p]⟩
structure SC (k:Nat) (G:Gh) (z:yR) (b:Bool×aC):Prop where
 c:XH k G z.x b.2
 t:GI k G (.leaf b.1) z.p
structure aLg (k:Nat) (G:Gh) (w:SV) (ps:List (Bool×aC)):Prop where
 ex: ∃zs:List yR,eB G 2 w (zs.map yR.val)/\gl (SC k G) zs ps
structure LI where
 a:IV
 b:IV
 c:IV
def LI.val(z:LI):Value:= .agg ⟨[.bool z.a.neg, .slice z.a.a.a z.a.a.n z.a.a.c, .bool z.b.neg, .slice z.b.a.a z.b.a.n z.b.a.c, .bool z.c.neg, .slice z.c.a.a z.c.a.n z.c.a.c]⟩
structure aJF (k:Nat) (G:Gh) (z:LI) (l:aa):Prop where
 a:l8 k G z.a l.a
 b:l8 k G z.b l.b
 c:l8 k G z.c l.c
structure aJN (k:Nat) (G:Gh) (x:SV) (ls:List aa):Prop where
 ex: ∃zs:List LI,eB G 6 x (zs.map LI.val)/\gl (aJF k G) zs ls
structure aJs (k:Nat) (G:Gh) (x:SV) (ls:List aa):Prop where
 ex: ∃zs:List LV,eB G 9 x (zs.map LV.v)/\gl (ED k G) zs ls
def wz{a b:Int}(h:a=b):eI a=eI b:=by rw[h]
def Da(z:Int):eQ (z:Rat)= .ag [.v (.bool (decide (z<0))),dN z.natAbs, .sl []]:=by unfold eQ;rw[sL,qL];rfl
def BV{a:Rat}(h:a.den=1):((a.num:Int):Rat)=a:=Rat.ext (sL _) (by rw[qL,h])
def T9{a b:Rat}(ha:a.den=1)(hb:b.den=1):a+b=((a.num+b.num:Int):Rat):=by
 rw[oN,BV ha,BV hb]
def WF{a b:Rat}(ha:a.den=1)(hb:b.den=1):a*b=((a.num*b.num:Int):Rat):=by
 rw[cS,BV ha,BV hb]
def xu(n:Nat)(h:0<n):(if n=1 then [] else(dg n).map dU).length=0↔n=1:=by
 by_cases q:n=1
 ·simp[q]
 ·rw[if_neg q,aJ,wv];omega
def NJ{n:Nat}(h:n≠1):dD n=dN n:=by unfold dD;rw[if_neg h];rfl
def FA{g:Nat}:(gw g 1=0)↔g=1:=by
 unfold gw;constructor
 ·intro h;split at h
  ·exact absurd h (by decide)
  ·split at h
   ·assumption
   ·exact absurd h (by decide)
 ·rintro rfl;rfl
def QK{x:Int}{d:Nat}(hd:0<d):zv (decide (x<0)) (x.natAbs/Nat.gcd x.natAbs d)=(mkRat x d).num:=by
 rw[Rat.num_mkRat,if_neg (by omega),jV];have hg:0<Nat.gcd d x.natAbs:=lQ _ hd;obtain⟨c,hc⟩:Nat.gcd d x.natAbs∣x.natAbs:=lU _ _;generalize Nat.gcd d x.natAbs=g at*;rw[hc,rW _ hg];unfold zv;by_cases q:x<0
 ·rw[if_pos (by simpa using q),show x=(g:Int)*(-(c:Int)) by rw[Int.mul_neg,<-jW];omega,Int.mul_ediv_cancel_left _ (by omega)]
 ·rw[if_neg (by simpa using q),show x=(g:Int)*(c:Int) by rw[<-jW];omega,Int.mul_ediv_cancel_left _ (by omega)]
def Lf{x:Int}{d:Nat}(hd:0<d):d/Nat.gcd x.natAbs d=(mkRat x d).den:=by
 rw[Rat.den_mkRat,if_neg (by omega),jV]
def V6{x:Int}{d:Nat}(hd:0<d)(h:Nat.gcd x.natAbs d=1):(mkRat x d).num=x/\(mkRat x d).den=d:=by
 rw[<-QK hd,<-Lf hd,h,tY,tY];exact⟨lx x,J⟩
instance BI.zv (neg:Bool) (m i:Nat) [h:BN m i]:BI (zv neg m) i:=⟨by rw[qb];exact h.h⟩
section
variable {GB:Gh} {C:aD} {n:Nat} {Q0:Exit->Act->World->Prop} {fr fr':aA} {own own':aG} {cf cf':Cf} {vc:List Prop}
def LF(fr:aA)(cf:Cf):Option Int:=match cd fr cf with
 |some ⟨_, .convert t t' x,_,_,_,_⟩=>match dt tt t,dt tt t' with
  |some ⟨.int .i64,_,_,_⟩,some ⟨.int .u64,_,_,_⟩=>match aH (bD fr cf) x with
   |some (.d (.v (.int .i64 p)))=>some p
   |_=>none
  |_,_=>none
 |_=>none
def Wh[fu:Fu]{p:Int}(q:Int)(h:LF fr cf=some p)(e:p%18446744073709551616=q)(hgo:cD tt n fu.n fr own cf (.d (.v (.int .u64 q))) [] []=⟨vc,fr',own',cf'⟩)(k:ak prog GB C n Q0 fr' own' cf')
  (hv:ah vc:=by first|exact trivial|(simp only[ah];omega)):ak prog GB C n Q0 fr own cf:=by
 unfold LF at h;split at h<;>try (cases h;done)
 rename_i hh;split at h<;>try (cases h;done)
 rename_i hT hT';split at h<;>cases h;rename_i hx;have:=yn (et _ _ hT) J;have:=yn (et _ _ hT') J;refine us hh (.x1 hx fun ρ G ov a w y _ r h1 h2=>?_) hgo hv k;rw[dm] at h2;subst h2;refine⟨_,dm.2 J,?_⟩;rw[<-e,<-nv];exact CT h1
def Qm(fr:aA)(cf:Cf):Option Int:=match cd fr cf with
 |some ⟨_, .unOp .neg _ x,_,_,_,_⟩=>match aH (bD fr cf) x with
  |some (.d (.v (.int .u64 p)))=>some p
  |_=>none
 |_=>none
def Wp[fu:Fu]{p:Int}(q:Int)(h:Qm fr cf=some p)(e:(0-p)%18446744073709551616=q)(hgo:cD tt n fu.n fr own cf (.d (.v (.int .u64 q))) [] []=⟨vc,fr',own',cf'⟩)(k:ak prog GB C n Q0 fr' own' cf')
  (hv:ah vc:=by first|exact trivial|(simp only[ah];omega)):ak prog GB C n Q0 fr own cf:=by
 unfold Qm at h;split at h<;>try (cases h;done)
 rename_i hh;split at h<;>cases h;rename_i hx;refine us hh (.x1 hx fun ρ G ov a w y _ r h1 h2=>?_) hgo hv k;rw[dm] at h2;subst h2;refine⟨_,dm.2 J,?_⟩;rw[<-e,<-nv];exact F7 h1
end
def JR{n:Int}(h0: -4611686018427387904<=n)(h1:n<=4611686018427387904):PF GB prog 157 [.v (.int .i64 n)] (eI n):=by
 refine fn func157 J J ntmps157 J J (fun C=>?_);refine br (fu1:=⟨3⟩) (fu2:=⟨6⟩) J J J (fun hc4=>?_) (fun hc4=>?_)
 .
  refine Wh (fu:=⟨0⟩) (18446744073709551616+n) J (by omega) J<|Wp (n.natAbs:Nat) J (by omega) J<|cl J (sH (u:=n.natAbs) (by omega)) J<|?_;refine cl J kH J<|?_;exact rz J (wz (by unfold zv;rw[if_pos J];omega))
 .
  refine av 11 (.d (.v (.int .u64 (n.natAbs:Nat)))) J (by show FX.d (.v (.int _ _))= .d (.v (.int _ _));congr 3;omega) ?_;refine gx J<|cl J (sH (u:=n.natAbs) (by omega)) J<|cl J kH J<|?_;exact rz J (wz (by unfold zv;rw[if_neg (by decide)];omega))
def OF{z:Int}:PF GB prog 123 [eI z] (vI z.sign):=by
 have hl:=fm (dg z.natAbs);have hz:= @wv z.natAbs;refine fn func123 J J ntmps123 J J (fun C=>?_);refine br J J J (fun hc6=>?_) (fun hc6=>?_)
 .
  exact rz J (by show DV.v (.int _ 0)=DV.v (.int _ _);rw[show z=0 by omega];rfl)
 .
  refine bd J J J (fun hc8=>?_) (fun hc8=>?_)
  .
   exact rz J (by show DV.v (.int _ (-1))=DV.v (.int _ _);rw[fQ (by omega)])
  .
   exact rz J (by show DV.v (.int _ 1)=DV.v (.int _ _);rw[fR (by omega)])
def zY{z:Int}:PF GB prog 124 [eI z] (eI (-z)):=by
 refine fn func124 J J ntmps124 J J (fun C=>?_);refine cl J kH J<|?_;exact rz J (wz (Xa z))
def SH{a b:Int}(h:decide (a<0)=decide (b<0)):zv (decide (a<0)) (a.natAbs+b.natAbs)=a+b:=by
 unfold zv;have h':a<0↔b<0:=by simpa using h
 by_cases q:a<0
 ·have:=h'.1 q
  simp[q];omega
 ·have: ¬b<0:=fun w=>q (h'.2 w)
  simp[q];omega
def S8{a b:Int}(h: ¬decide (a<0)=decide (b<0))(k:a.natAbs<b.natAbs):zv (decide (b<0)) (b.natAbs-a.natAbs)=a+b:=by
 unfold zv;have h': ¬(a<0↔b<0):=by simpa using h
 by_cases q:b<0
 ·have: ¬a<0:=fun w=>h' ⟨fun _=>q,fun _=>w⟩
  simp[q];omega
 ·have:a<0:=Int.not_le.1 fun w=>h' ⟨fun e=>by omega,fun e=>absurd e q⟩
  simp[q];omega
def aCg{a b:Int}(h: ¬decide (a<0)=decide (b<0))(k:b.natAbs<=a.natAbs):zv (decide (a<0)) (a.natAbs-b.natAbs)=a+b:=by
 unfold zv;have h': ¬(a<0↔b<0):=by simpa using h
 by_cases q:a<0
 ·have: ¬b<0:=fun w=>h' ⟨fun _=>w,fun _=>q⟩
  simp[q];omega
 ·have:b<0:=Int.not_le.1 fun w=>h' ⟨fun e=>absurd e q,fun e=>by omega⟩
  simp[q];omega
def Cg{a b:Int}{i j:Nat}[ha:BI a i][hb:BI b j](hi:i<=400000000:=by decide)(hj:j<=400000000:=by decide):PF GB prog 240 [eI a,eI b] (eI (a+b)):=by
 have hba:=l9 ha.h;have hbb:=l9 hb.h;refine fn (fu:=⟨15⟩) func240 J J ntmps240 J J (fun C=>?_);refine av 9 (.d (.v (.bool (decide (decide (a<0)=decide (b<0)))))) J (by congr 2) ?_;refine gx J<|?_;refine bd J J J (fun hc9=>?_) (fun hc9=>?_)
 .
  refine cl J (UI (by omega) (by omega)) J<|cl J kH J<|?_;exact rz J (wz (SH hc9))
 .
  refine cl J (zc (by omega) (by omega)) J<|?_;refine br J J J (fun hc23=>?_) (fun hc23=>?_)
  .
   refine cl J (Hi (by have:=xC.1 hc23;omega) (by omega)) J<|cl J kH J<|?_;exact rz J (wz (S8 hc9 (xC.1 hc23)))
  .
   refine cl J (Hi (sJ fun q=>hc23 (xC.2 q)) (by omega)) J<|cl J kH J<|?_;exact rz J (wz (aCg hc9 (sJ fun q=>hc23 (xC.2 q))))
def uG{a b:Int}{i j:Nat}[ha:BI a i][hb:BI b j](hi:i<=400000000:=by decide)(hj:j<=400000000:=by decide):PF GB prog 238 [eI a,eI b] (eI (a*b)):=by
 refine fn func238 J J ntmps238 J J (fun C=>?_);refine cl J (q8 (by omega) (by omega)) J<|cl J kH J<|?_;exact rz J (wz (XR a b))
def Fz{a b:Int}{i j:Nat}[ha:BI a i][hb:BI b j](hi:i<=400000000:=by decide)(hj:j<=400000000:=by decide):PF GB prog 268 [eI a,eI b] (vI (a-b).sign):=by
 refine fn func268 J J ntmps268 J J (fun C=>?_);refine cl J zY J<|cl J (Cg (by omega) (by omega)) J<|cl J OF J<|?_;exact rz J (by rw[Int.sub_eq_add_neg];rfl)
def j'{q:Rat}:PF GB prog 195 [eQ q] (dN q.den):=by
 refine fn func195 J J ntmps195 J J (fun C=>?_);refine br J J J (fun hc6=>?_) (fun hc6=>?_)
 .
  refine cl J FU J<|?_;exact rz J (by rw[(xu q.den (mz q)).1 (by omega)];rfl)
 .
  exact rz J (by exact NJ (fun e=>hc6 (by exact congrArg Int.ofNat ((xu q.den (mz q)).2 e))))
def Mf{n k:Nat}[h:BN n k](hk:k<=500000000):(dg n).length<=100000000:=by have:=l9 h.h;omega
def x8{x:Int}{d i j:Nat}[hx:BI x i][hd:BN d j](hd0:0<d)(hi:i<=200000000:=by decide)(hj:j<=200000000:=by decide):PF GB prog 156 [eI x,dN d] (eQ (mkRat x d)):=by
 obtain⟨q,hq⟩: ∃q,q=mkRat x d:=⟨_,rfl⟩;obtain⟨g,hg⟩: ∃g,g=Nat.gcd x.natAbs d:=⟨_,rfl⟩;have hg0:0<g:=hg▸oZ _ hd0;haveI hgB:BN g (i+j):=hg▸inferInstance;have hg1:(dg g).length<=100000000:=Mf (k:=i+j) (by omega);have ho1:(dg 1).length<=100000000:=by rw[zq];decide
 haveI hqB:BQ q (i+j):=hq▸vU hd0 (dJ hx.h (bR (by decide) (by omega))) (dJ hd.h (bR (by decide) (by omega)));refine fn func156 J J ntmps156 J J (fun C=>?_);refine cl (fu:=⟨0⟩) J (Hh (by omega) (by omega)) J<|?_;refine av 11 (.d (dN g)) J (by rw[hg]) ?_;refine gx (fu:=⟨4⟩) J<|?_;refine mg (fu:=⟨1⟩) (X:=Unit) (fun _=>[(1, .d (dN q.den)),(2, .ov 2 0),(4, .ov 4 0)]) (fun _=>[(4,some (.o 79 [.ff, .nl, .nl] true)),(2,some (.o 77 [.d (.v (.bool (decide (q.num<0)))), .d (dN q.num.natAbs)] true))]) (fun _=>True) [1,2,4] [4,2] rfl ?_ (fun _=>J) (fun _ hm=>?_)
 .
  refine gx J<|cl J FU J<|cl J (zc hg1 ho1) J<|?_;refine br J J J (fun hc15=>?_) (fun hc15=>?_)
  .
   refine cl J (wY hg0 (by omega) (by omega)) J<|cl (fu:=⟨0⟩) J kH J<|?_;refine av 26 (.d (eI q.num)) J (by show FX.d (eI (zv _ _))=_;rw[hg,QK hd0,hq]) ?_;refine gx J<|cl (fu:=⟨2⟩) J (wY hg0 (by omega) (by omega)) J<|?_;refine av 31 (.d (dN q.den)) J (by rw[hg,Lf hd0,hq]) ?_;refine gx J<|?_;exact at_ () trivial
  .
   have hm:=V6 (x:=x) hd0 (by rw[<-hg];exact FA.1 (Decidable.not_not.1 hc15));rw[<-hq] at hm;refine av 1 (.d (dN q.den)) J (by rw[hm.2]) ?_;exact at_ () trivial (hO:=⟨J,by rw[hm.1];rfl,trivial⟩)
 .
  refine mg (X:=Unit) (fun _=>[(1, .d (dD q.den)),(2, .ov 2 0),(4, .ov 4 0)]) (fun _=>[(4,some (.o 79 [.ff, .nl, .nl] true)),(2,some (.o 77 [.d (.v (.bool (decide (q.num<0)))), .d (dN q.num.natAbs)] true))]) (fun _=>True) [1,2,4] [4,2] rfl ?_ (fun _=>J) (fun _ hm=>?_)
  .
   refine gx J<|cl J FU J<|cl J (zc (Mf (k:=i+j) (by omega)) ho1) J<|?_;refine br J J J (fun hc36=>?_) (fun hc36=>?_)
   .
    refine Vo 1 J ?_;refine av 1 (.d (dD q.den)) J (by rw[FA.1 hc36];rfl) ?_;exact at_ () trivial
   .
    refine av 1 (.d (dD q.den)) J (by rw[NJ (fun e=>hc36 (FA.2 e))]) ?_;exact at_ () trivial
  .
   exact rz J (by rw[<-hq];rfl)
def M0(a:Rat):mkRat a.num a.den=a:=by simp[Rat.mkRat_self]
def Nv{a b:Rat}(h:b≠0):a/b=mkRat (a.num*zv (decide (b.num<0)) b.den) (a.den*b.num.natAbs):=by
 rw[oY];have ha:(a.num:Rat)/(a.den:Rat)=a:=by rw[<-oY,M0]
 have hb:(b.num:Rat)/(b.den:Rat)=b:=by rw[<-oY,M0]
 have h1:(a.den:Rat)≠0:=by have:=a.den_nz;exact_mod_cast this
 have h2:(b.den:Rat)≠0:=by have:=b.den_nz;exact_mod_cast this
 have h3:(b.num:Rat)≠0:=by
  intro e;rw[e] at hb;apply h;rw[<-hb];grind
 rw[cS,Rat.natCast_mul];by_cases q:b.num<0
 ·have e1:((zv (decide (b.num<0)) b.den:Int):Rat)= -(b.den:Rat):=by
   unfold zv;rw[if_pos (by simpa using q),pQ];rfl
  have e2:((b.num.natAbs:Nat):Rat)= -(b.num:Rat):=by
   have:((b.num.natAbs:Nat):Int)= -b.num:=by omega
   rw[<-pQ,<-this];rfl
  rw[e1,e2];generalize (a.num:Rat)=an at*;generalize (a.den:Rat)=ad at*;generalize (b.num:Rat)=bn at*;generalize (b.den:Rat)=bd at*;subst ha hb;grind
 ·have e1:((zv (decide (b.num<0)) b.den:Int):Rat)=(b.den:Rat):=by
   unfold zv;rw[if_neg (by simpa using q)];rfl
  have e2:((b.num.natAbs:Nat):Rat)=(b.num:Rat):=by
   have:((b.num.natAbs:Nat):Int)=b.num:=by omega
   rw[<-this];rfl
  rw[e1,e2];generalize (a.num:Rat)=an at*;generalize (a.den:Rat)=ad at*;generalize (b.num:Rat)=bn at*;generalize (b.den:Rat)=bd at*;subst ha hb;grind
def arz{q:Rat}{n:Int}{d:Nat}(hd:0<d)(h:q*(d:Rat)=(n:Rat)):q.num.natAbs<=n.natAbs/\q.den<=d:=by
 have e:q=mkRat n d:=by
  rw[oY];have:(d:Rat)≠0:=by exact_mod_cast (by omega:d≠0)
  rw[<-h];grind
 rw[e,Rat.num_mkRat,Rat.den_mkRat,if_neg (by omega),if_neg (by omega)];exact⟨nU n (d.gcd n.natAbs:Nat),kR ..⟩
theorem BQ.of_frac{q:Rat}{n:Int}{d i:Nat}(hd:0<d)(h:q*(d:Rat)=(n:Rat))(hn:n.natAbs<2^i)(hdi:d<2^i):BQ q i:=by
 have:=arz hd h;exact⟨by omega,by omega⟩
def J6{b:Rat}(h:b≠0):0<b.num.natAbs:=by
 have:b.num≠0:=fun e=>h (lL.1 e);omega
instance BQ.over (a b:Rat) (i j:Nat) [ha:BQ a i] [hb:BQ b j]:BQ (a/b) (i+j):=by
 by_cases h:b=0
 ·subst h
  rw[Rat.div_def,Rat.inv_zero,Rat.mul_zero];have h2:=ha.hd;have h3:0<a.den:=mz a;have h4:2^i*1<=2^i*2^j:=fL _ (fV (by decide));rw[<-fT] at h4;exact⟨by show 0<_;omega,by show 1<_;omega⟩
 ·rw[Nv h]
  have hb0:=J6 h;refine vU (jT (mz a) hb0) ?_ (pf ha.hd hb.hn);rw[iT,qb];exact pf ha.hn hb.hd
def o7{n:Int}(h0: -4611686018427387904<=n)(h1:n<=4611686018427387904):PF GB prog 101 [.v (.int .i64 n)] (eQ (n:Rat)):=by
 refine fn func101 J J ntmps101 J J (fun C=>?_);refine cl J (JR (by omega) (by omega)) J<|?_;exact rz J (by rw[Da];rfl)
def tk{q:Rat}:PF GB prog 44 [eQ q] (vI q.num.sign):=by
 refine fn func44 J J ntmps44 J J (fun C=>?_);refine cl J OF J<|?_;exact rz J J
def vp{q:Rat}:PF GB prog 45 [eQ q] (eQ (-q)):=by
 refine fn func45 J J ntmps45 J J (fun C=>?_);refine cl J zY J<|?_;exact rz J (by unfold eQ;rw[mL,pV];rfl)
def ji{a b:Rat}{i j:Nat}[ha:BQ a i][hb:BQ b j](hi:i<=20000000:=by decide)(hj:j<=20000000:=by decide):PF GB prog 149 [eQ a,eQ b] (eQ (a*b)):=by
 have had:=mz a;have hbd:=mz b;have hdp:=jT had hbd;have e1:=xu a.den had;have e2:=xu b.den hbd;refine fn func149 J J ntmps149 J J (fun C=>?_);refine cs 9 J J J (fun hg9=>?_) (fun hg9=>?_)
 .
  refine br J J J (fun hc14=>?_) (fun hc14=>?_)
  .
   refine cl J (uG (a:=a.num) (b:=b.num) (by omega) (by omega)) J<|?_;exact rz J (by rw[WF (e1.1 (by omega)) (e2.1 (by omega)),Da];rfl)
  .
   refine cl J (uG (a:=a.num) (b:=b.num) (by omega) (by omega)) J<|cl J j' J<|cl J j' J<|cl J (q8 (by omega) (by omega)) J<|?_;refine cl J (x8 hdp (by omega) (by omega)) J<|?_;exact rz J (by rw[zR];rfl)
 .
  refine cl J (uG (a:=a.num) (b:=b.num) (by omega) (by omega)) J<|cl J j' J<|cl J j' J<|cl J (q8 (by omega) (by omega)) J<|?_;refine cl J (x8 hdp (by omega) (by omega)) J<|?_;exact rz J (by rw[zR];rfl)
def q6{a b:Rat}{i j:Nat}[ha:BQ a i][hb:BQ b j](hi:i<=20000000:=by decide)(hj:j<=20000000:=by decide):PF GB prog 148 [eQ a,eQ b] (eQ (a+b)):=by
 have had:=mz a;have hbd:=mz b;have hdp:=jT had hbd;have e1:=xu a.den had;have e2:=xu b.den hbd;refine fn func148 J J ntmps148 J J (fun C=>?_);refine cs 9 J J J (fun hg9=>?_) (fun hg9=>?_)
 .
  refine br J J J (fun hc14=>?_) (fun hc14=>?_)
  .
   refine cl J (Cg (by omega) (by omega)) J<|?_;exact rz J (by rw[T9 (e1.1 (by omega)) (e2.1 (by omega)),Da];rfl)
  .
   refine cl J j' J<|cl J kH J<|cl J (uG (a:=a.num) (b:=zv false b.den) (by omega) (by omega)) J<|cl J j' J<|cl J kH J<|?_;refine cl J (uG (a:=b.num) (b:=zv false a.den) (by omega) (by omega)) J<|cl J (Cg (by omega) (by omega)) J<|cl J j' J<|?_;refine cl J j' J<|cl J (q8 (by omega) (by omega)) J<|cl J (x8 hdp (by omega) (by omega)) J<|?_;exact rz J (by rw[zi];rfl)
 .
  refine cl J j' J<|cl J kH J<|cl J (uG (a:=a.num) (b:=zv false b.den) (by omega) (by omega)) J<|cl J j' J<|?_;refine cl J kH J<|cl J (uG (a:=b.num) (b:=zv false a.den) (by omega) (by omega)) J<|cl J (Cg (by omega) (by omega)) J<|?_;refine cl J j' J<|cl J j' J<|cl J (q8 (by omega) (by omega)) J<|cl J (x8 hdp (by omega) (by omega)) J<|?_;exact rz J (by rw[zi];rfl)
def uQ{a b:Rat}{i j:Nat}[ha:BQ a i][hb:BQ b j](hi:i<=20000000:=by decide)(hj:j<=20000000:=by decide):PF GB prog 163 [eQ a,eQ b] (eQ (a-b)):=by
 refine fn func163 J J ntmps163 J J (fun C=>?_);refine cl J (vp (q:=b)) J<|cl J (q6 (a:=a) (b:= -b) hi hj) J<|?_;exact rz J (by rw[Rat.sub_eq_add_neg];rfl)
def xQ{a b:Rat}{i j:Nat}[ha:BQ a i][hb:BQ b j](hb0:b≠0)(hi:i<=20000000:=by decide)(hj:j<=20000000:=by decide):PF GB prog 147 [eQ a,eQ b] (eQ (a/b)):=by
 have hbp:=J6 hb0;have hdp:=jT (mz a) hbp;refine fn func147 J J ntmps147 J J (fun C=>?_);refine cl J j' J<|cl J kH J<|cl J (uG (a:=a.num) (b:=zv (decide (b.num<0)) b.den) (by omega) (by omega)) J<|cl J j' J<|?_;refine cl J (q8 (a:=a.den) (b:=b.num.natAbs) (by omega) (by omega)) J<|cl J (x8 (x:=a.num*zv (decide (b.num<0)) b.den) (d:=a.den*b.num.natAbs) hdp (by omega) (by omega)) J<|?_;exact rz J (by rw[Nv hb0];rfl)
def xd{a b:Rat}{i j:Nat}[ha:BQ a i][hb:BQ b j](hi:i<=20000000:=by decide)(hj:j<=20000000:=by decide):PF GB prog 115 [eQ a,eQ b] (vI (cg a b)):=by
 refine fn func115 J J ntmps115 J J (fun C=>?_);refine cl J (uQ hi hj) J<|cl J tk J<|?_;exact rz J (by show vI _=vI _;rw[Cd])
def Ss:((2:Int):Rat)≠0:=by decide
instance BI.two:BI 2 2:=⟨by decide⟩
def GV{a:Rat}{i:Nat}[ha:BQ a i](hi:i<=20000000:=by decide):PF GB prog 121 [eQ a] (eQ (a/2)):=by
 refine fn func121 J J ntmps121 J J (fun C=>?_);refine cl J (o7 (n:=2) (by decide) (by decide)) J<|cl J (xQ (a:=a) (b:=((2:Int):Rat)) Ss hi (by decide)) J<|?_;exact rz J J
def PA{a b:Rat}{i j:Nat}[ha:BQ a i][hb:BQ b j](hi:i<=2000000:=by decide)(hj:j<=2000000:=by decide):PF GB prog 237 [eQ a,eQ b] (eQ ((a+b)/2)):=by
 refine fn func237 J J ntmps237 J J (fun C=>?_);refine cl J (q6 (by omega) (by omega)) J<|cl J (GV (a:=a+b) (by omega)) J<|?_;exact rz J J
end Go.Sx
end
