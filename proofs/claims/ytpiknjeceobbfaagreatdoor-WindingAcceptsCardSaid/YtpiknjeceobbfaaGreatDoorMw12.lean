import Derived.Test.YtpiknjeceobbfaaGreatDoorMw11
set_option linter.all false
set_option maxHeartbeats 2000000
set_option maxRecDepth 100000
section
namespace Go.Sx
open Go Go.Proofs Tryz
variable {GB:Gh}
def uk:DV:= .v (.pointer none)
def Im(l:ab)(p q:DV):List DV:=[.v (.bool false), .v (.bool false), .v (.bool (decide (l.a<0))),dN l.a.natAbs, .v (.bool (decide (l.b<0))),dN l.b.natAbs, .v (.bool (decide (l.c<0))),dN l.c.natAbs,p,q]
inductive RF (ns:List RN):Int->(Nat->Bool)->DV->Bool->(Nat->Bool)->Prop where
 |leaf (b:Bool) (f:Nat->Bool):RF ns (sW b) f (eT (.leaf b)) true f
 |ij (rt:Int) (f:Nat->Bool) (h1:rt≠ -1) (h2:rt≠ -2) (h:rt<0\/(ns.length:Int)<=rt\/(∃k:Nat,rt=k/\k<ns.length/\f k=true)):RF ns rt f uk false f
 |line (k:Nat) (n:RN) (f:Nat->Bool) (h:ns[k]? =some n) (hf:f k=false) (hl:n.g.ln=none):RF ns (k:Int) f uk false (ny f k)
 |left (k:Nat) (n:RN) (l:ab) (f f2:Nat->Bool) (p:DV) (h:ns[k]? =some n) (hf:f k=false) (hl:n.g.ln=some l) (h1:RF ns n.l (ny f k) p false f2):RF ns (k:Int) f uk false f2
 |node (k:Nat) (n:RN) (l:ab) (f f2 f3:Nat->Bool) (p q:DV) (ok:Bool) (h:ns[k]? =some n) (hf:f k=false) (hl:n.g.ln=some l) (h1:RF ns n.l (ny f k) p true f2) (h2:RF ns n.r f2 q ok f3):RF ns (k:Int) f (.pt (Im l p q)) ok f3
def M8(n:Nat)(f:Nat->Bool):Bool:=(List.range n).all f
def IJ:ab:=⟨0,1,0⟩
def Qb:Tr:= .node IJ (.leaf true) (.leaf false)
structure Pn (k:Nat) (t:Tr):Prop where
 o:I7 k t
 s:t.size<=3000
def Or(es:List Int)(a:Nat):(Tr×Tr)×Nat:=
 let x:=kF es 0 a
 let y:=kF es 0 x.2
 let k:=ba es 3 y.2
 let u:=if(k.1:Int)=0 then gA es 3 k.2 else(x.1,k.2)
 let j:=ba es 3 u.2
 let v:=if(j.1:Int)=0 then gA es 3 j.2 else(y.1,j.2)
 ((u.1,v.1),v.2)
def OQ(es:List Int)(a:Nat):(Tr×Tr)×Nat:=
 let x:=kF es 0 a
 let y:=kF es 0 x.2
 let k:=ba es 6 y.2
 if(k.1:Int)=0 then((x.1, .node (lF es k.2).1 x.1 x.1),(lF es k.2).2)
 else if(k.1:Int)=1 then((x.1,y.1.mergeQ 1 x.1 []),k.2)
 else if(k.1:Int)=2 then((x.1,y.1.mergeQ 3 x.1 []),k.2)
 else if(k.1:Int)=3 then((x.1,(gA es 3 k.2).1),(gA es 3 k.2).2)
 else((x.1,y.1),k.2)
def CK(es:List Int):Nat->Nat->List Tr×Nat
 |0,a=>([],a)
 |n+1,a=>((kF es 0 a).1::(CK es n (kF es 0 a).2).1,(CK es n (kF es 0 a).2).2)
def Fb(r:List ZP)(i k:Nat):Bool:=decide (k=i)||decide (k=(i+1)%r.length)||decide (0<vA (r.getD i (0,0)).q (fC r i).q (r.getD k (0,0)).q)
def OK(r:List ZP):Bool:=(List.range r.length).all fun i=>(List.range r.length).all fun k=>Fb r i k
section
variable {GB:Gh} {C:au} {n:Nat} {Q0:Exit->Act->World->Prop} {fr fr' fr1 fr2:ak} {own own' own1 own2:aw} {cf cf' cf1 cf2:Cf} {vc vc1 vc2:List Prop}
def Pj(fr:ak)(cf:Cf):Option Int:=match bt fr cf with
 |some ⟨_, .binOp .and _ x (.const (.int .i64 3)) _,_,_,_,_⟩=>match az (aH fr cf) x with
  |some (.d (.v (.int .i64 p)))=>some p
  |_=>none
 |_=>none
end

def Ov(a b:Tr):DV:= .ag [eU a,eU b]
def O8:DV:= .ag [.v (.pointer none), .v (.pointer none)]
def OX(a:ab)(t:List ab):List Rat:=t.filterMap fun b=>if crossI a b=0 then none else some (jr a b).x
def OW(l:List ab)(x:Rat):List aa:=(s6 (vH (Dw l x))).map fun y=>⟨x,y⟩
def DD:Tr->aa->Bool
 | .leaf _,_=>true
 | .node l x y,p=>if(l.value p).num.sign=1 then DD x p else if(l.value p).num.sign= -1 then DD y p else false
structure NC (a b:Tr):Prop where
 ga:a.gd
 gb:b.gd
 sa:a.size<=3000
 sb:b.size<=3000
def PL(x y:Bool):Bool:=x&&!y
def Nl(x y:Bool):Bool:=y&&!x
def Nk(x y:Bool):Bool:=x&&y
def PA(x y:Bool):Bool:=!x&&!y
def MU(f:Bool->Bool->Bool)(a b:Tr)(k:Nat):Bool:=((tC a b).take k).any fun p=>f (mr a p) (mr b p)
def BG:Tr->List ab->List (List ab×Bool)
 | .leaf b,c=>if Cr c then [(k9 c,b)] else []
 | .node l x y,c=>if Cr c then BG x (k9 c++[l])++BG y (k9 c++[l.rev]) else []
def HA(c:List ab)(p:aa):Bool:=c.all fun l=>decide (0<Int.sign (l.value p).num)
def Oq(c:List ab):Option aa:=(EB (pQ c)).find? (HA c)
def Nt(c:bE):Prop:=(c.map fun s=>s.l.dir).Pairwise cF
def MY(c:List ab):Prop:=(c.map ab.dir).Pairwise cF
def F'(c:bE):Bool:=!c.isEmpty&&c.all fun s=>!s.v.nl&&!s.v.nh
def Mp(c:List ab)(v:aa):Bool:=c.all fun l=>decide (0<=Int.sign (l.dir.cross v).num)
def M7(c:List ab):Bool:=!c.isEmpty&&(c.flatMap fun l=>[l.dir,c8 l.dir]).all fun v=>!Mp c v
def sN:ab:=⟨1,0,0⟩
def JU(c:List ab)(i:Nat):List aa:=
 if 0<Int.sign ((c.getD i sN).dir.cross (c.getD ((i+1)%c.length) sN).dir).num then [jr (c.getD i sN) (c.getD ((i+1)%c.length) sN)] else []
def rA(c:List ab):List aa:=(List.range c.length).flatMap (JU c)
def KL(v:List aa)(i:Nat):List aa:=[v.getD 0 ⟨0,0⟩,v.getD (i+1) ⟨0,0⟩,v.getD (i+2) ⟨0,0⟩]
def B6(v:List aa):List (List aa):=(List.range (v.length-2)).map (KL v)
def OL(cs:List (List ab)):List (List aa):=cs.flatMap fun c=>B6 (rA c)
def O2(E:List aI)(c:List ab)(l:List aI):Prop:= ∀e∈E,∀t,e.v.ins t->Ht c (e.l.at t)-> ∃f∈l,f.l=e.l/\f.v.ins t
structure qW where
 ax:Rat
 ay:Rat
 ac:Rat
def qW.ev(g:qW)(p:aa):Rat:=g.ax*p.x+g.ay*p.y+g.ac
def qW.li(g:qW)(u:aa):Rat:=g.ax*u.x+g.ay*u.y
def Lx(a b x:aa):Prop:= ∃s:Rat,0<=s/\s<=1/\x=sX a b s
def F3(a b p r:aa):Prop:=Lx a b p/\((r=⟨b.x-p.x,b.y-p.y⟩/\b≠p)\/(r=⟨a.x-p.x,a.y-p.y⟩/\a≠p))
def Eb(r u:aa):Prop:= ∃k:Rat,0<k/\u=⟨k*r.x,k*r.y⟩
def LY(E:List (aa×aa))(p u:aa):Prop:=u≠⟨0,0⟩/\ ∀f∈E,∀r,F3 f.1 f.2 p r-> ¬Eb r u
def Ki(r:List ZP):List (aa×aa):=(List.range r.length).map fun k=>((r.getD k (0,0)).q,(fC r k).q)
def ER(rs:List (List ZP)):List (aa×aa):=rs.flatMap Ki
def Kz{a b:ZP}(h:a.q=b.q):a=b:=by
 have hx:(a.1:Rat)=(b.1:Rat):=congrArg aa.x h;have hy:(a.2:Rat)=(b.2:Rat):=congrArg aa.y h;exact Prod.ext (by exact_mod_cast hx) (by exact_mod_cast hy)
def IM(rs:List (List ZP))(fill:Int)(p v:aa)(b:Bool):Prop:= ∃e:Rat,0<e/\ ∀d,0<d->d<=e->EA rs fill (ee p v d)=b
section
variable {rs:List (List ZP)} {fill:Int} {p v w:aa} {b c:Bool}
end
def Hs(ds:List aa)(u:aa):Prop:=u≠⟨0,0⟩/\ ∀r∈ds,¬Eb r u
def Oj(ds:List aa)(v w:aa):Prop:= ∀s,0<=s->s<=1->Hs ds (sX v w s)
def pc(x y:aa):Nat:=if x.cross y<0 then 1 else if 0<x.cross y then 3 else if 0<x.dot y then 0 else 2
def Qc(x y z:aa):Prop:=pc x y<pc x z\/(pc x y=pc x z/\(pc x y=1\/pc x y=3)/\0<z.cross y)
section
variable {ds:List aa}
end
def OR(v:List aa):DV:= .sl (v.map eZ)
def O6(v:List aa):DV:= .sl (v.map gn)
def jb{α:Type}(f:α->Rat):List α->Rat
 |[]=>0
 |a::t=>f a+jb f t
def K0(f:aa->aa->Rat)(v:List aa):Rat:=jb (fun i=>f (v.getD i ⟨0,0⟩) (v.getD ((i+1)%v.length) ⟨0,0⟩)) (List.range v.length)
def OS(c:bE):Rat:=jb (fun s=>(s.v.hi-s.v.lo)*(s.l.c:Rat)) c
def Ow(t:Tr):Prop:= ∃(L:List ab) (R:Rat),(∀l∈L,l.ok)/\ ∀p,Hk L p->I2 R p->t.val p=false
def AA(es:List Int):Nat->Nat->Tr×Nat
 |0,a=>ly es a
 |d+1,a=>
  let k:=ba es 3 a
  if(k.1:Int)=0 then
   let x:=AA es d k.2
   let o:=ba es 4 x.2
   let y:=AA es d o.2
   (x.1.mergeQ (1+(o.1:Int)) y.1 [],y.2)
  else ly es k.2
def NX(f:aa->aa->Rat):Prop:= ∀(l:ab) (a b c:Rat),l.Ne->f (l.at a) (l.at c)=f (l.at a) (l.at b)+f (l.at b) (l.at c)
def NP(f:aa->aa->Rat)(s:aI):Rat:=f (s.l.at s.v.lo) (s.l.at s.v.hi)
def JF(f:aa->aa->Rat)(c:bE):Rat:=K0 f (rA (c.map (·.l)))
def JJ(f:aa->aa->Rat)(t:Tr)(c:bE):Rat:=jb (fun x:Bool×bE=>if x.1 then JF f x.2 else 0) (t.parts c)
def P3(f:aa->aa->Rat)(t:Tr)(c:bE)(l:ab):Rat:=if gw c l then JJ f t (ge c l) else 0
def MT(t:Tr)(c:bE):Prop:= ∀x∈t.parts c,x.1=true->F' x.2=true
def KU(v:List aa):List (aa×aa):=(List.range v.length).map fun i=>(v.getD i ⟨0,0⟩,v.getD ((i+1)%v.length) ⟨0,0⟩)
def jI(cs:List (List ab)):List (aa×aa):=cs.flatMap fun c=>KU (rA c)
def jO(cs:List bE):List (List ab):=cs.map fun c=>c.map (·.l)
def N0(x:aa×aa):List DV:=[qY x.1 x.2,eF (x.1.cross x.2)]

def Ny(x:List ab×Bool):DV:= .ag [.sl (x.1.map eL),vB x.2]
def Ni(c:List ab):DV:= .sl (c.map eL)
def Ol(ps:List (List ab×Bool)):List (List ab):=(ps.filter (·.2)).map (·.1)
def Pm(v:List aa):DV:= .sl (v.map eP)
def No(c:bE):List (List aa):=B6 (rA (c.map (·.l)))


def PE:List ZP:=[(0,0),(1,0),(0,1)]
def CV(r:List aa)(j:Nat):Nat->aa
 |0=>(((r.getD 0 ⟨0,0⟩).add (r.getD 1 ⟨0,0⟩)).add (r.getD 2 ⟨0,0⟩)).scale (((1:Int):Rat)/((3:Int):Rat))
 |k+1=>((CV r j k).add (r.getD j ⟨0,0⟩)).scale (((1:Int):Rat)/((2:Int):Rat))
def O5(ts:List (List aa))(i:Nat):aa:=CV (ts.getD (i%ts.length) []) (i%3) (i/ts.length)
theorem av.mono{p:aa}{i j:Nat}(h:av p i)(hj:i<=j):av p j:=⟨h.x.mono hj,h.y.mono hj⟩
structure FJ (cs:List bE) (b:Nat):Prop where
 lb: ∀c∈cs,∀s∈c,LB s.l
 sh: ∀c∈cs,c.length<=100000
 ln:cs.length<=1000000
 pt: ∀x∈jI (jO cs),av x.1 b/\av x.2 b
def DM(x:aa×aa):aa:=(x.1.add x.2).scale (x.1.cross x.2)
def A5{α:Type}(f:α->aa)(l:List α):aa:=⟨jb (fun x=>(f x).x) l,jb (fun x=>(f x).y) l⟩
def qF(es:List Int)(a:Nat):Rat×Nat:=
 (if((ba es 6 (ba es 9 a).2).1:Int)=0 then mkRat (2*(((ba es 9 a).1:Int)-4)+1) 2 else if((ba es 6 (ba es 9 a).2).1:Int)=1 then mkRat (3*(((ba es 9 a).1:Int)-4)+1) 3 else(((ba es 9 a).1:Rat)-4:Rat),(ba es 6 (ba es 9 a).2).2)
def wN(es:List Int)(a:Nat):aa×Nat:=(⟨(qF es a).1,(qF es (qF es a).2).1⟩,(qF es (qF es a).2).2)
def pk:ab:=⟨1,0,0⟩
def Pa(es:List Int)(L:List ab)(a:Nat):aa×Nat:=
 if L.length=0 then wN es a else
 if((ba es 3 (ba es L.length a).2).1:Int)=0 then
  (if crossI (L.getD (ba es L.length a).1 pk) (L.getD (ba es L.length (ba es 3 (ba es L.length a).2).2).1 pk)≠0 then(jr (L.getD (ba es L.length a).1 pk) (L.getD (ba es L.length (ba es 3 (ba es L.length a).2).2).1 pk),(ba es L.length (ba es 3 (ba es L.length a).2).2).2) else wN es (ba es L.length (ba es 3 (ba es L.length a).2).2).2)
 else if((ba es 3 (ba es L.length a).2).1:Int)=1 then((L.getD (ba es L.length a).1 pk).at (qF es (ba es 3 (ba es L.length a).2).2).1,(qF es (ba es 3 (ba es L.length a).2).2).2) else wN es (ba es 3 (ba es L.length a).2).2

def J2(x:aa×aa):Rat:=(x.1.x*x.1.x+x.2.x*x.2.x+(x.1.add x.2).x*(x.1.add x.2).x)*x.1.cross x.2
def IA(x:aa×aa):Rat:=(x.1.x*x.1.y+x.2.x*x.2.y+(x.1.add x.2).x*(x.1.add x.2).y)*x.1.cross x.2
def Gj(x:aa×aa):Rat:=(x.1.y*x.1.y+x.2.y*x.2.y+(x.1.add x.2).y*(x.1.add x.2).y)*x.1.cross x.2
structure PQ (cs:List bE):Prop where
 ed:FJ cs 1200
 cr: ∀x∈jI (jO cs),BQ (x.1.cross x.2) 5000
 ar: ∀k,BQ (jb (fun x=>x.1.cross x.2) ((jI (jO cs)).take k)) 2000000
 mo: ∀k,av (A5 DM ((jI (jO cs)).take k)) 3000000
 sa: ∀k,BQ (jb J2 ((jI (jO cs)).take k)) 4000000
 sb: ∀k,BQ (jb IA ((jI (jO cs)).take k)) 4000000
 sc: ∀k,BQ (jb Gj ((jI (jO cs)).take k)) 4000000
def Pk(t:Tr):Rat:=jb (fun x=>x.1.cross x.2) (jI (jO (vj t)))*mkRat 1 2
def Qa(t:Tr):aa:=(A5 DM (jI (jO (vj t)))).scale (((1:Int):Rat)/((6:Int):Rat))
def Nr:DV:= .ag [vB false, .sl [], .sl []]
def OD:DV:= .ag [vB false, .sl [], .sl [],vB false, .sl [], .sl []]
def MH:Rat:=((1:Int):Rat)/((24:Int):Rat)
def MV(f:aa×aa->Rat)(t:Tr):Rat:=jb f (jI (jO (vj t)))*MH
structure DQ (D B:Nat) (x:Rat):Prop where
 ex: ∃n:Int,x*((D:Nat):Rat)=(n:Rat)/\n.natAbs<=B*D
def Lc(l m:ab):Nat:=if crossI l m=0 then 1 else(crossI l m).natAbs
def IZ(K:List ab):List Nat:=K.flatMap fun l=>K.map (Lc l)
def Ns(K:List ab):Nat:=(IZ K).foldr (· * ·) 1
structure DP (D B:Nat) (p:aa):Prop where
 x:DQ D B p.x
 y:DQ D B p.y

def eM(a b c d e f:Rat):DV:= .ag [(.v (.bool (decide ((a).num<0)))),(dN (a).num.natAbs),(dD (a).den),(.v (.bool (decide ((b).num<0)))),(dN (b).num.natAbs),(dD (b).den),(.v (.bool (decide ((c).num<0)))),(dN (c).num.natAbs),(dD (c).den),(.v (.bool (decide ((d).num<0)))),(dN (d).num.natAbs),(dD (d).den),(.v (.bool (decide ((e).num<0)))),(dN (e).num.natAbs),(dD (e).den),(.v (.bool (decide ((f).num<0)))),(dN (f).num.natAbs),(dD (f).den)]
def OE:List DV:=[.v (.bool (decide ((0:Rat).num<0))),dN (0:Rat).num.natAbs,dD (0:Rat).den]

def KG:List ZP:=[(0,0),(2,0),(2,2),(0,2)]
def OH:Tr:=rB [KG] 2



def PJ(M:List ab)(E:List (aa×aa)):Prop:= ∀f∈E,∃m∈M,m.value f.1=0/\m.value f.2=0
section
variable {rs:List (List ZP)} {fill:Int} {p:aa}
def Pp(rs:List (List ZP))(fill:Int)(p:aa)(b:Bool):Prop:= ∃x,LY (ER rs) p x/\IM rs fill p x b
end
section
variable {rs:List (List ZP)} {fill:Int} {L:List ab} {p:aa}
end
def jE(v:aP)(t:Rat):Bool:=(v.nl||decide (bw v.lo t<=0))&&(v.nh||decide (0<=bw v.hi t))
def Mu{v:aP}{t:Rat}:jE v t=true↔v.has t:=by
 unfold jE aP.has;simp only[aR,fK,decide_eq_true_eq,Lh,Jy]
def gi(f:aI)(p:aa):Bool:=decide (Int.sign (f.l.value p).num=0)&&jE f.v (dq f.l p)
def Lt{f:aI}{p:aa}:gi f p=true↔f.l.value p=0/\f.v.has (dq f.l p):=by
 unfold gi;rw[aR,decide_eq_true_eq,pO,Mu]
def nN(f:aI)(p:aa):Int:=
 if Int.sign f.l.dir.y.num=0\/Int.sign (f.l.value p).num≠Int.sign f.l.dir.y.num then 0
 else if(if Int.sign f.l.dir.y.num<0 then f.v.nh=false/\0<bw (f.l.at f.v.hi).y p.y else f.v.nl=false/\0<bw (f.l.at f.v.lo).y p.y) then 0
 else if(if Int.sign f.l.dir.y.num<0 then f.v.nl=false/\bw (f.l.at f.v.lo).y p.y<=0 else f.v.nh=false/\bw (f.l.at f.v.hi).y p.y<=0) then 0
 else Int.sign f.l.dir.y.num
def ey(E:List aI)(p:aa):Int:=E.foldl (fun n f=>n+nN f p) 0
def vf{α:Type}(f:α->Int): ∀(l:List α) (n:Int),l.foldl (fun n x=>n+f x) n=n+l.foldl (fun n x=>n+f x) 0
 |[],n=>by simp
 |a::t,n=>by
  rw[iN,iN,vf f t (n+f a),vf f t (0+f a)];omega
def KH(E F:List aI)(p:aa):ey (E++F) p=ey E p+ey F p:=by
 unfold ey;rw[List.foldl_append,vf]
def El(f:aI)(p:aa):Bool:=f.v.nh||decide (bw (dq f.l p) f.v.hi<0)
def zy(f:aI)(p:aa):Bool:=f.v.nl||decide (0<bw (dq f.l p) f.v.lo)
def ew(p:aa)(f:aI):List aa:=if gi f p then(if El f p then [b8 f.l.dir] else [])++(if zy f p then [c8 (b8 f.l.dir)] else []) else []
def il(E:List aI)(p:aa):List aa:=jo (E.flatMap (ew p))
def lG(p d q:aa):Rat:=(⟨q.x-p.x,q.y-p.y⟩:aa).dot d/d.dot d
def oI(a b:Rat):Rat×Bool:=
 if 0<Int.sign b.num/\(¬0<Int.sign a.num\/bw b a<0) then(b,true) else if 0<Int.sign a.num then(a,true) else(0,false)
def f4(f:aI)(p d:aa):Rat×Bool:=
 if f.l.nor.dot d=0 then(if f.l.value p=0 then oI (lG p d (f.l.at f.v.lo)) (lG p d (f.l.at f.v.hi)) else(0,false))
 else(-(f.l.value p/f.l.nor.dot d),decide (0<Int.sign (-(f.l.value p/f.l.nor.dot d)).num)&&jE f.v (dq f.l (ee p d (-(f.l.value p/f.l.nor.dot d)))))
def iu(p d:aa)(s:Rat)(f:aI):Rat:=if gi f p then s else if(f4 f p d).2 then(if(f4 f p d).1<s then(f4 f p d).1 else s) else s
def jh(E:List aI)(p d:aa):aa:=ee p d (E.foldl (iu p d) 1*mkRat 1 2)
def qj(E:List aI)(p:aa)(acc:aa->Bool):Int:=
 if((fj (il E p)).any fun v=>acc (jh E p v))&&(fj (il E p)).all (fun v=>acc (jh E p v)) then 2 else if(fj (il E p)).any fun v=>acc (jh E p v) then 1 else 0
def DA{r:List ZP}: ∀{n:Nat} {f:aI},f∈ji r n-> ∃k,k<n/\f=ju (r.getD k (0,0)) (fC r k)
 |0,f,h=>by simp[ji] at h
 |n+1,f,h=>by
  rw[ji] at h;rcases dR.1 h with h|h
  ·obtain⟨k,h1,h2⟩:=DA h
   exact⟨k,by omega,h2⟩
  ·exact⟨n,by omega,aL.1 h⟩
def wZ{f:aI}{p d:aa}(h:d∈ew p f):f.l.value p=0/\(d=b8 f.l.dir\/d=c8 (b8 f.l.dir)):=by
 unfold ew at h;split at h
 ·rename_i k
  refine⟨(Lt.1 k).1,?_⟩;rcases dR.1 h with h|h
  ·split at h
   ·exact .inl (aL.1 h)
   ·cases h
  ·split at h
   ·exact .inr (aL.1 h)
   ·cases h
 ·cases h
def Aw{E:List aI}(hE: ∀f∈E,f.l.ok)(p:aa): ∀x∈E.flatMap (ew p),∀y∈E.flatMap (ew p),bP x y=0->x=y:=fun x hx y hy h=>by
 obtain⟨f,k1,k2⟩:=lV.1 hx;obtain⟨g,k3,k4⟩:=lV.1 hy;obtain⟨a1,a2⟩:=wZ k2;obtain⟨b1,b2⟩:=wZ k4;exact JY (hE f k1) (hE g k3) a1 b1 a2 b2 h
def La{l:List aa}(ht: ∀x∈l,∀y∈l,bP x y=0->x=y)(y:aa):y∈jo l↔y∈l:=by
 have h2: ∀y,y∈jo l->y∈l:=fun y hy=>by
  rcases ve bP hy with h|h
  ·exact h
  ·cases h
 refine⟨h2 y,fun hy=>?_⟩;obtain⟨e,e1,e2⟩:=wv bP (o:=[]) hy;rcases e2 with rfl|e2
 ·exact e1
 ·rw[<-ht e (h2 e e1) y hy e2];exact e1
section
variable {rs:List (List ZP)} {fill:Int} {p:aa}
end
def Cq{p q:aa}{i:Nat}[hp:av p i][hq:av q i](hi:i<=1000000:=by decide):PF GB prog 188 [eZ p,eZ q] (vB (decide (p.x=q.x/\p.y=q.y))):=by
 refine fn func188 J J ntmps188 J J (fun C=>?_);refine cl J (xm (p:=p.x) (q:=q.x) (i:=i) (j:=i) (by omega) (by omega)) J<|?_;refine csd 10 J J J (fun hg10=>?_) (fun hg10=>?_)
 .
  refine cl J (xm (p:=p.y) (q:=q.y) (i:=i) (j:=i) (by omega) (by omega)) J<|?_;exact rz J (by show DV.v (.bool _)= .v (.bool _);simp_all)
 .
  exact rz J (by show DV.v (.bool _)= .v (.bool _);simp_all)
def tR{p q:aa}{i j:Nat}[hp:av p i][hq:av q j](hi:i<=10000000:=by decide)(hj:j<=10000000:=by decide):PF GB prog 202 [eZ p,eZ q] (eZ ⟨p.x-q.x,p.y-q.y⟩):=by
 refine fn func202 J J ntmps202 J J (fun C=>?_);refine cl J (oM (p:=p.x) (q:=q.x) (i:=i) (j:=j) (by omega) (by omega)) J<|cl J (oM (p:=p.y) (q:=q.y) (i:=i) (j:=j) (by omega) (by omega)) J<|?_;exact rz J J
def qx{l:ab}{p:aa}{i:Nat}[hl:LB l][hp:av p i](hi:i<=1000000:=by decide):PF GB prog 155 [jn l,eZ p] (eF (dq l p)):=by
 refine fn func155 J J ntmps155 J J (fun C=>?_);refine cl J (sH (l:=l)) J<|cl (fu:=⟨0⟩) J (kr (p:=l.dir) (q:=p) (i:=97) (j:=i) (by decide) (by omega)) J<|?_;refine aF 10 (.d (eF (p.dot l.dir))) J (by rw[show l.dir.dot p=p.dot l.dir by unfold aa.dot;grind]) ?_;refine gx J<|cl J (kr (p:=l.dir) (q:=l.dir) (i:=97) (j:=97) (by decide) (by decide)) J<|cl J (pg (p:=p.dot l.dir) (q:=l.dir.dot l.dir) (i:=i+97+(i+97)+1) (j:=97+97+(97+97)+1) (by omega) (by decide)) J<|?_;exact rz J J
def Cc{v:aP}{t:Rat}{i:Nat}[h1:BQ v.lo i][h2:BQ v.hi i][h3:BQ t i](hi:i<=1000000:=by decide):PF GB prog 154 [eW v,eF t] (vB (jE v t)):=by
 refine fn func154 J J ntmps154 J J (fun C=>?_);refine gu 7 J J J (fun hg7=>?_) (fun hg7=>?_)
 .
  refine gu 17 J J J (fun hg17=>?_) (fun hg17=>?_)
  .
   exact rz J (by show DV.v (.bool _)= .v (.bool _);unfold jE;simp_all<;>(intros;omega))
  .
   refine cl J (gp (p:=v.hi) (q:=t) (i:=i) (j:=i) (by omega) (by omega)) J<|?_;exact rz J (by show DV.v (.bool _)= .v (.bool _);unfold jE;simp_all<;>(intros;omega))
 .
  refine cl J (gp (p:=v.lo) (q:=t) (i:=i) (j:=i) (by omega) (by omega)) J<|?_;refine cs 14 J J J (fun hg14=>?_) (fun hg14=>?_)
  .
   refine gu 17 J J J (fun hg17=>?_) (fun hg17=>?_)
   .
    exact rz J (by show DV.v (.bool _)= .v (.bool _);unfold jE;simp_all<;>(intros;omega))
   .
    refine cl J (gp (p:=v.hi) (q:=t) (i:=i) (j:=i) (by omega) (by omega)) J<|?_;exact rz J (by show DV.v (.bool _)= .v (.bool _);unfold jE;simp_all<;>(intros;omega))
  .
   exact rz J (by show DV.v (.bool _)= .v (.bool _);unfold jE;simp_all<;>(intros;omega))
def J6{G:Gh}{q:Rat}{y:Value}(h: ¬de q)(hy:Is G (cB q) y):y= .pointer none:=by
 unfold cB at hy;rw[decide_eq_false h] at hy;rcases ni.1 hy with⟨_,e⟩|⟨e,_⟩
 ·exact e
 ·cases e
def Hg{G:Gh}{q:Rat}(h: ¬de q):Is G (cB q) (.pointer none):=by
 unfold cB;rw[decide_eq_false h];exact ni.2 (.inl ⟨J,J⟩)
def xF(q:Rat):List Value:=[.int .i64 (cD q), .int .i64 (cE q), .pointer none]
def oO{G:Gh}{q:Rat}{t:List DV}{m:List Value}(h: ¬de q)(hm:IsLs G (vI (cD q)::vI (cE q)::cB q::t) m): ∃n,m=xF q++n/\IsLs G t n:=by
 obtain⟨y1,m1,rfl,h1,hm1⟩:=bz.1 hm;obtain⟨y2,m2,rfl,h2,hm2⟩:=bz.1 hm1;obtain⟨y3,m3,rfl,h3,hm3⟩:=bz.1 hm2;obtain rfl:=bh.1 h1;obtain rfl:=bh.1 h2;obtain rfl:=J6 h h3;exact⟨m3,J,hm3⟩
def oX{G:Gh}{q:Rat}{t:List DV}{n:List Value}(h: ¬de q)(k:IsLs G t n):IsLs G (vI (cD q)::vI (cE q)::cB q::t) (xF q++n):= .cons (bh.2 J) (.cons (bh.2 J) (.cons (Hg h) k))
def rV(q:Rat):Value:= .agg ⟨xF q⟩
def EZ{G:Gh}{q:Rat}{y:Value}(h: ¬de q)(hy:Is G (eF q) y):y=rV q:=by
 obtain⟨m,rfl,hm⟩:=du.1 hy;obtain⟨n,rfl,hn⟩:=oO h hm;rw[b9.1 hn];rfl
def Ft{G:Gh}{q:Rat}(h: ¬de q):Is G (eF q) (rV q):=du.2 ⟨_,J,oX h (b9.2 J)⟩
structure vW (f:aI):Prop where
 a: ¬de (f.l.a:Rat)
 b: ¬de (f.l.b:Rat)
 c: ¬de (f.l.c:Rat)
 lo: ¬de f.v.lo
 hi: ¬de f.v.hi
def l5(f:aI):Value:= .agg ⟨xF f.l.a++(xF f.l.b++(xF f.l.c++(xF f.v.lo++(xF f.v.hi++[.bool f.v.nl, .bool f.v.nh]))))⟩
def nX{G:Gh}{f:aI}{y:Value}(h:vW f)(hy:Is G (bG f) y):y=l5 f:=by
 obtain⟨m0,rfl,k0⟩:=du.1 hy;obtain⟨m1,rfl,k1⟩:=oO h.a k0;obtain⟨m2,rfl,k2⟩:=oO h.b k1;obtain⟨m3,rfl,k3⟩:=oO h.c k2;obtain⟨m4,rfl,k4⟩:=oO h.lo k3;obtain⟨m5,rfl,k5⟩:=oO h.hi k4;obtain⟨y1,m6,rfl,h1,k6⟩:=bz.1 k5;obtain⟨y2,m7,rfl,h2,k7⟩:=bz.1 k6;obtain rfl:=bh.1 h1;obtain rfl:=bh.1 h2;obtain rfl:=b9.1 k7;rfl
def o8{G:Gh}{f:aI}(h:vW f):Is G (bG f) (l5 f):=du.2 ⟨_,J,oX h.a (oX h.b (oX h.c (oX h.lo (oX h.hi (.cons (bh.2 J) (.cons (bh.2 J) (b9.2 J)))))))⟩
structure FE (f:aI):Prop where
 fo:pW f
 sm:vW f
 nl:f.v.nl=false
 nh:f.v.nh=false
theorem rO{l:ab}{p:aa}{i:Nat}(hl:LB l)[hp:av p i]:BQ (dq l p) (2*i+600):=by
 haveI:=hl;have h:BQ (p.dot l.dir/l.dir.dot l.dir) (i+97+(i+97)+1+(97+97+(97+97)+1)):=inferInstance;exact BQ.mono (show BQ (dq l p) _ from h) (by omega)
def wW{f:aI}(hf:FE f){p:aa}{i:Nat}[hp:av p i](hi:i<=100000:=by decide):PF GB prog 110 [bG f,eZ p] (vB (gi f p)):=by
 haveI:=hf.fo.lb;haveI:=hf.fo.lo;haveI:=hf.fo.hi;haveI:=rO (p:=p) (i:=i) hf.fo.lb;haveI:BQ f.v.lo (2*i+1800):=hf.fo.lo.mono (by omega);haveI:BQ f.v.hi (2*i+1800):=hf.fo.hi.mono (by omega);haveI:BQ (dq f.l p) (2*i+1800):=(rO (p:=p) (i:=i) hf.fo.lb).mono (by omega);refine fn func110 J J ntmps110 J J (fun C=>?_);refine cl (fu:=⟨0⟩) J (tG (l:=f.l) (p:=p) (i:=i) (by omega)) J<|?_;refine CB (v2:=fun hg9=>by simp only[ah];kernel_rfl) J J J J (fun hg9=>?_) (fun hg9=>?_)
 .
  refine cl J (qx (l:=f.l) (p:=p) (i:=i) (by omega)) J<|cl J (Cc (v:=f.v) (t:=dq f.l p) (i:=2*i+1800) (by omega)) J<|?_;exact rz J (by show DV.v (.bool _)= .v (.bool _);unfold gi;simp_all)
 .
  exact rz J (by show DV.v (.bool _)= .v (.bool _);unfold gi;simp_all)
def tA{f:aI}(hf:FE f):PF GB prog 140 [bG f] (.tp [eZ (f.l.at f.v.lo),vB true]):=by
 haveI:=hf.fo.lb;haveI:=hf.fo.lo;haveI:=hf.fo.hi;refine fn (fu:=⟨13⟩) func140 J J ntmps140 J J (fun C=>?_);refine aF 6 (.d (vB false)) J (by rw[hf.nl]<;>rfl) ?_;refine oN 6 J ?_;refine gx J<|cl J (BE (l:=f.l) (t:=f.v.lo) (i:=1200)) J<|?_;exact rz J J
def tK{f:aI}(hf:FE f):PF GB prog 141 [bG f] (.tp [eZ (f.l.at f.v.hi),vB true]):=by
 haveI:=hf.fo.lb;haveI:=hf.fo.lo;haveI:=hf.fo.hi;refine fn (fu:=⟨13⟩) func141 J J ntmps141 J J (fun C=>?_);refine aF 6 (.d (vB false)) J (by rw[hf.nh]<;>rfl) ?_;refine oN 6 J ?_;refine gx J<|cl J (BE (l:=f.l) (t:=f.v.hi) (i:=1200)) J<|?_;exact rz J J
def F5{α:Type}{g:α->Bool}{E:List α}{k:Nat}{f:α}(hk:E[k]? =some f)(h:(E.take k).any g=false):(E.take (k+1)).any g=g f:=by
 rw[cR,hk,List.any_append,h];simp
def Iz{α:Type}{g:α->Bool}{E:List α}{k:Nat}{f:α}(hk:E[k]? =some f)(h:g f=true):E.any g=true:=kM.2 ⟨f,aN hk,h⟩
def EQ{E:List aI}(hn:E.length<=1000000){f:FuncId}{pv:Value}{dp:DV}(hp:Is GB dp pv){g:aI->Bool}(hF: ∀x∈E,PF GB prog f [bG x,dp] (vB (g x))):PX GB prog 153 [.sl (E.map bG), .v (.func (.func f) ⟨[]⟩ ⟨[pv]⟩)] {j:Int//(0<=j↔E.any g=true)/\ -1<=j/\j<=1000000} (fun j=>vI j.1):=by
 have hml:(E.map bG).length=E.length:=aZ ..;refine JE (fu:=⟨10⟩) func153 J J ntmps153 J J (fun C=>?_);refine aF 7 (.d (vI (E.length:Nat))) J (by rw[hml]<;>rfl) ?_;refine gx J<|?_;refine lp (X:=Nat) (fun k=>[(8, .d (vI (k:Nat)))]) (fun k=>[]) (fun k=>k<=E.length/\(E.take k).any g=false) (fun k=>E.length-k) 0 J ⟨bS _,J⟩ (fun _=>J) (fun k hk=>?_);obtain⟨hk,hany⟩:=hk;refine br J J J (fun hc9=>?_) (fun hc9=>?_)
 .
  obtain⟨x,hx⟩: ∃u,E[k]? =some u:=⟨_,aX (by omega)⟩;refine ix (fu:=⟨1⟩) _ J (d7 hx) J<|mw (ds1:=[]) (ds2:=[dp]) J (b9.2 J) (.cons hp (b9.2 J)) (hF x (aN hx)) J<|?_;refine bb J J J (fun hc16=>?_) (fun hc16=>?_)
  .
   exact Bj ⟨(k:Int),⟨fun _=>Iz hx hc16,fun _=>by omega⟩,by omega,by omega⟩ J J
  .
   exact at_ (k+1) ⟨⟨by omega,by rw[F5 hx hany];simpa using hc16⟩,(by omega)⟩
 .
  obtain rfl:k=E.length:=by omega
  rw[dX] at hany;exact Bj ⟨-1,⟨fun h=>by omega,fun h=>by rw[hany] at h;cases h⟩,by omega,by omega⟩ J J
theorem oV{l:ab}{t:Rat}(hl:LB l)(ht:BQ t 1200):av (l.at t) 3000:=av.mono (inferInstance:av (l.at t) _) (by decide)
def kx{f:aI}(h1:f.v.nl=false)(h2:f.v.nh=false)(p:aa):nN f p=if Int.sign f.l.dir.y.num=0 then 0 else if Int.sign (f.l.value p).num≠Int.sign f.l.dir.y.num then 0 else
  if Int.sign f.l.dir.y.num<0 then(if 0<bw (f.l.at f.v.hi).y p.y then 0 else if bw (f.l.at f.v.lo).y p.y<=0 then 0 else Int.sign f.l.dir.y.num)
  else(if 0<bw (f.l.at f.v.lo).y p.y then 0 else if bw (f.l.at f.v.hi).y p.y<=0 then 0 else Int.sign f.l.dir.y.num):=by
 unfold nN;rw[h1,h2];generalize Int.sign f.l.dir.y.num=U;generalize Int.sign (f.l.value p).num=S;generalize bw (f.l.at f.v.hi).y p.y=a;generalize bw (f.l.at f.v.lo).y p.y=b;by_cases k:U=0
 ·simp[k]
 ·by_cases k2:S≠U
  ·simp[k2]
  ·rw[if_neg (by simp[k,k2]),if_neg k,if_neg k2]
   by_cases k3:U<0
   ·simp[k3]
   ·simp[k3]
def B3(f:aI)(p:aa):(nN f p).natAbs<=1:=by
 unfold nN;have:=Mt f.l.dir.y.num
 repeat' split
 all_goals omega
def AJ{E:List aI}{p:aa}{k:Nat}{f:aI}(h:E[k]? =some f):ey (E.take (k+1)) p=ey (E.take k) p+nN f p:=by
 rw[cR,h];show ey (E.take k++[f]) p=_;rw[KH];unfold ey;simp
def Ao(E:List aI)(p:aa): ∀k,(ey (E.take k) p).natAbs<=k
 |0=>by simp[ey]
 |k+1=>by
  have ih:=Ao E p k
  cases h:E[k]? with
  |none=>
   have:E.take (k+1)=E.take k:=by rw[cR,h];simp
   rw[this];omega
  |some f=>
   rw[AJ h];have:=B3 f p;omega
def HV{f:aI}(hf:FE f){p:aa}{i:Nat}[hp:av p i](hi:i<=100000:=by decide):PF GB prog 89 [bG f,eZ p] (vI (nN f p)):=by
 haveI:=hf.fo.lb;haveI:=hf.fo.lo;haveI:=hf.fo.hi;haveI:av (f.l.at f.v.hi) 3000:=oV hf.fo.lb hf.fo.hi;haveI:av (f.l.at f.v.lo) 3000:=oV hf.fo.lb hf.fo.lo;refine fn func89 J J ntmps89 J J (fun C=>?_);refine cl J (sH (l:=f.l)) J<|cl (fu:=⟨6⟩) J (ik (q:=f.l.dir.y) (i:=97)) J<|?_;rcases Int.lt_or_le (Int.sign f.l.dir.y.num) 0 with hu|hu
 .
  refine gx J<|?_;refine cs 19 J J J (fun hg19=>?_) (fun hg19=>?_)
  .
   exact rz J (by rw[kx hf.nl hf.nh];(repeat' split)<;>first|rfl|(exfalso;omega))
  .
   refine cl J (tG (l:=f.l) (p:=p) (i:=i) (by omega)) J<|?_;refine br (fu2:=⟨5⟩) J J J (fun hc26=>?_) (fun hc26=>?_)
   .
    exact rz J (by rw[kx hf.nl hf.nh];(repeat' split)<;>first|rfl|(exfalso;omega))
   .
    refine oJ (fu:=⟨1⟩) (l5 f) J (fun G y hy=>nX hf.sm hy) J<|oJ (fu:=⟨8⟩) (l5 f) J (fun G y hy=>nX hf.sm hy) J<|lr (fu:=⟨14⟩) J (by show some (decide _)=some true;rw[decide_eq_true (by omega)]) J<|?_;refine mw (fu:=⟨12⟩) (ds1:=[bG f]) (ds2:=[]) J (.cons (o8 hf.sm) (b9.2 J)) (b9.2 J) (tK hf) J<|?_;refine i6 41 J ?_;refine gx J<|cl J (gp (i:=3000) (j:=i) (by decide) (by omega)) J<|?_;refine br (fu2:=⟨6⟩) J J J (fun hc48=>?_) (fun hc48=>?_)
    .
     exact rz J (by rw[kx hf.nl hf.nh];(repeat' split)<;>first|rfl|(exfalso;omega))
    .
     refine mw (fu:=⟨12⟩) (ds1:=[bG f]) (ds2:=[]) J (.cons (o8 hf.sm) (b9.2 J)) (b9.2 J) (tA hf) J<|?_;refine i6 55 J ?_;refine gx J<|cl J (gp (i:=3000) (j:=i) (by decide) (by omega)) J<|?_;refine br J J J (fun hc62=>?_) (fun hc62=>?_)
     .
      exact rz J (by rw[kx hf.nl hf.nh];(repeat' split)<;>first|rfl|(exfalso;omega))
     .
      exact rz J (by rw[kx hf.nl hf.nh];(repeat' split)<;>first|rfl|(exfalso;omega))
 .
  refine gx J<|?_;refine cs 19 J J J (fun hg19=>?_) (fun hg19=>?_)
  .
   exact rz J (by rw[kx hf.nl hf.nh];(repeat' split)<;>first|rfl|(exfalso;omega))
  .
   refine cl J (tG (l:=f.l) (p:=p) (i:=i) (by omega)) J<|?_;refine br (fu2:=⟨5⟩) J J J (fun hc26=>?_) (fun hc26=>?_)
   .
    exact rz J (by rw[kx hf.nl hf.nh];(repeat' split)<;>first|rfl|(exfalso;omega))
   .
    refine oJ (fu:=⟨1⟩) (l5 f) J (fun G y hy=>nX hf.sm hy) J<|oJ (fu:=⟨8⟩) (l5 f) J (fun G y hy=>nX hf.sm hy) J<|jm (fu:=⟨9⟩) J (by show some (decide _)=some false;rw[decide_eq_false (by omega)]) J<|?_;refine mw (fu:=⟨12⟩) (ds1:=[bG f]) (ds2:=[]) J (.cons (o8 hf.sm) (b9.2 J)) (b9.2 J) (tA hf) J<|?_;refine i6 41 J ?_;refine gx J<|cl J (gp (i:=3000) (j:=i) (by decide) (by omega)) J<|?_;refine br (fu2:=⟨6⟩) J J J (fun hc48=>?_) (fun hc48=>?_)
    .
     exact rz J (by rw[kx hf.nl hf.nh];(repeat' split)<;>first|rfl|(exfalso;omega))
    .
     refine mw (fu:=⟨12⟩) (ds1:=[bG f]) (ds2:=[]) J (.cons (o8 hf.sm) (b9.2 J)) (b9.2 J) (tK hf) J<|?_;refine i6 55 J ?_;refine gx J<|cl J (gp (i:=3000) (j:=i) (by decide) (by omega)) J<|?_;refine br J J J (fun hc62=>?_) (fun hc62=>?_)
     .
      exact rz J (by rw[kx hf.nl hf.nh];(repeat' split)<;>first|rfl|(exfalso;omega))
     .
      exact rz J (by rw[kx hf.nl hf.nh];(repeat' split)<;>first|rfl|(exfalso;omega))
def Cz{E:List aI}(hE: ∀f∈E,FE f)(hn:E.length<=1000000){p:aa}{i:Nat}[hp:av p i](hi:i<=100000:=by decide):PF GB prog 44 [.sl (E.map bG),eZ p] (vI (ey E p)):=by
 have hml:(E.map bG).length=E.length:=aZ ..;refine fn (fu:=⟨16⟩) func44 J J ntmps44 J J (fun C=>?_);refine aF 9 (.d (vI (E.length:Nat))) J (by rw[hml]<;>rfl) ?_;refine gx J<|?_;refine lp (X:=Nat) (fun k=>[(10, .d (vI (k:Nat))),(5, .d (vI (ey (E.take k) p)))]) (fun k=>[]) (fun k=>k<=E.length) (fun k=>E.length-k) 0 J (bS _) (fun _=>J) (fun k hk=>?_);have hw:=Ao E p k;refine br J J J (fun hc11=>?_) (fun hc11=>?_)
 .
  obtain⟨f,hx⟩: ∃u,E[k]? =some u:=⟨_,aX (by omega)⟩;have hf:=hE f (aN hx);have hcl:=B3 f p;refine ix _ J (d7 hx) J<|cl J (HV hf (p:=p) (i:=i) hi) J<|?_;refine aF 5 (.d (vI (ey (E.take (k+1)) p))) J (by rw[AJ hx]<;>rfl) ?_;exact at_ (k+1) ⟨(by omega),(by omega)⟩
 .
  obtain rfl:k=E.length:=by omega
  rw[dX];exact rz J J
def K6{f:aI}(hf:FE f){p:aa}{i:Nat}[hp:av p i](hi:i<=100000:=by decide):PF GB prog 109 [bG f, .pt [vI (cD p.x),vI (cE p.x),cB p.x,vI (cD p.y),vI (cE p.y),cB p.y]] (vB (gi f p)):=by
 refine fn func109 J J ntmps109 J J (fun C=>?_);refine oQ 1 J<|gx J<|cl J (wW hf (p:=p) (i:=i) hi) J<|?_;exact rz J J
def Mg{E:List aI}(hn:E.length<=1000000){f:FuncId}{pv:Value}{dp:DV}(hp:Is GB dp pv){g:aI->Bool}(hF: ∀x∈E,PF GB prog f [bG x,dp] (vB (g x))):PF GB prog 108 [.sl (E.map bG), .v (.func (.func f) ⟨[]⟩ ⟨[pv]⟩)] (vB (E.any g)):=by
 refine fn func108 J J ntmps108 J J (fun C=>?_);refine cx J (EQ hn hp hF) (fun _=>J) (fun⟨j,hj,hj1,hj2⟩=>?_)
 try dsimp only
 exact rz J (by show DV.v (.bool (decide _))= .v (.bool _);congr 2;rw[Bool.eq_iff_iff,decide_eq_true_eq];exact hj)
def K8{E:List aI}(hE: ∀f∈E,FE f)(hn:E.length<=1000000){p:aa}{i:Nat}[hp:av p i](hi:i<=100000:=by decide):PF GB prog 59 [.sl (E.map bG),eZ p] (vB (E.any fun f=>gi f p)):=by
 refine fn (fu:=⟨9⟩) func59 J J ntmps59 J J (fun C=>?_);refine fz 3 J J ?_;refine nT 3 J (fun GB' pv hg hpv=>?_);refine C6 J J<|cl J (Mg (E:=E) hn hpv (fun f hf=>K6 (hE f hf) (p:=p) (i:=i) hi)) J<|?_;exact rz J J
def iH(v:List aa):List (List DV):=(List.range v.length).map fun i=>[vI (i:Nat),qY (v.getD i ⟨0,0⟩) (v.getD ((i+1)%v.length) ⟨0,0⟩)]
def yl{v:List aa}{i:Nat}{p q:aa}(h1:v[i]? =some p)(h2:v[(i+1)%v.length]? =some q):(iH v)[i]? =some [vI (i:Nat),qY p q]:=by
 have hi:=(aS.1 h1).1;unfold iH;rw[fZ,mN hi,fL,aV,aV,h1,h2];rfl
def Er{v:List aa}{i:Nat}{e:List DV}(h:(iH v)[i]? =some e): ∃p q,v[i]? =some p/\v[(i+1)%v.length]? =some q/\e=[vI (i:Nat),qY p q]:=by
 have hi:i<v.length:=by
  have:=(aS.1 h).1;unfold iH at this;simpa using this
 have h1:v[i]? =some v[i]:=aX hi;have hm:(i+1)%v.length<v.length:=cM _ (by omega);have h2:v[(i+1)%v.length]? =some v[(i+1)%v.length]:=aX hm;refine⟨_,_,h1,h2,?_⟩;rw[yl h1 h2] at h;exact(Option.some.inj h).symm
def Bx{v:List aa}: ∀e∈iH v,e.length=2:=fun e he=>by
 obtain⟨i,_,rfl⟩:=cX.1 he;rfl
def Dz{v:List aa}(hn:v.length<=100000):It GB prog 189 [.pt [.sl (v.map eZ)]] (iH v):=by
 have hml:(v.map eZ).length=v.length:=aZ ..;have hrl:(iH v).length=v.length:=by unfold iH;simp
 refine HK func189 J J ntmps189 J (fun _=>J) (fun l Jv Jx GB' hg H C hp hJ=>?_);refine oQ 1 J<|gx J<|?_;refine aF 6 (.d (vI (v.length:Nat))) J (by rw[hml]<;>rfl) ?_;refine Ji (X:=Nat) (fun k=>[(0, .d (.v (.func (.yield l) #[] #[]))),(1, .ep [.sl (v.map eZ)]),(5, .d (.sl (v.map eZ))),(6, .d (vI (v.length:Nat))),(7, .d (vI (k:Nat)))]) (fun k C=>k<=v.length/\Jv k C.G0 C.w0) (fun k=>v.length-k) 0 hp ⟨bS _,hJ⟩ (fun _=>J) (fun k C1 hp1 hk=>?_);obtain⟨hk1,hJ1⟩:=hk;refine br J J J (fun hc8=>?_) (fun hc8=>?_)
 ·obtain⟨p,hpx⟩: ∃u,v[k]? =some u:=⟨_,aX (by omega)⟩
  obtain⟨q,hqx⟩: ∃u,v[(k+1)%v.length]? =some u:=⟨_,aX (cM _ (by omega))⟩;refine ix _ J (d7 hpx) J<|?_;refine aF 20 (.d (vI (((k+1)%v.length:Nat):Int))) J (by rw[hml]<;>rfl) ?_;refine gx J<|ix _ J (d7 hqx) J<|Gs (len:=2) (s:=6) (e:=103) J (by kernel_rfl) (by kernel_rfl) J<|?_;refine GK (by kernel_rfl) J ?_;refine cy [(0, .d (.v (.func (.yield l) #[] #[]))),(1, .ep [.sl (v.map eZ)]),(5, .d (.sl (v.map eZ))),(6, .d (vI (v.length:Nat))),(7, .d (vI (k:Nat)))] H hp1 hJ1 J (yl hpx hqx) J (by repeat (first|exact trivial|refine And.intro J ?_)) J J J (fun C3 hp3 hJ3=>?_) (fun C3 hp3 hJ3=>?_)
  ·exact LD (k+1) hp3 ⟨⟨by omega,hJ3⟩,by omega⟩
  ·exact CC H hp3 (.inr hJ3) J
 ·obtain rfl:k=v.length:=by omega
  exact CC H hp1 (.inl (by rw[hrl];exact hJ1)) J
def De{v:List aa}:ti GB prog 136 [.sl (v.map eZ)] 189 (.pt [.sl (v.map eZ)]):=by
 refine FL func136 J J ntmps136 J J (fun C=>?_);refine fz 1 J J ?_;refine nT 1 J (fun GB' pv hg hp=>?_);refine C6 J J ?_;exact Fp J J hp
def J4:vQ 101:=fun x w=>by kernel_rfl
def LF(m:List Value):ra 101 (.agg ⟨m⟩) "Mul" 204:=fun w=>by kernel_rfl
def Gu(l:List Rat)(k:Nat)(y:Rat):(l.map eF).set k (eF y)=(l.set k y).map eF:=(List.map_set ..).symm
def gO(L:List Rat)(k:Rat)(j:Nat):List Rat:=(L.take j).map (· *k)++L.drop j
def EW(L:List Rat)(k:Rat)(j:Nat):(gO L k j).length=L.length:=by
 unfold gO;rw[bX,aZ,bR,kS];omega
def Jl{L:List Rat}{k a:Rat}{j:Nat}(h:L[j]? =some a):(gO L k j)[j]? =some a:=by
 have hj:=(aS.1 h).1;unfold gO;rw[fQ (by rw[aZ,bR];omega),aZ,bR,jN,<-h];congr 1;omega
def KY{L:List Rat}{k a:Rat}{j:Nat}(h:L[j]? =some a):(gO L k j).set j (a*k)=gO L k (j+1):=by
 have hj:=(aS.1 h).1;unfold gO;rw[cR,h,List.set_append_right _ _ (by rw[aZ,bR];omega),aZ,bR,show j-min j L.length=0 by omega,bL hj];simp only[Option.toList_some,fY,bN,gK,List.set_cons_zero,dL,gW,gN]
def Bp{L:List Rat}{k:Rat}{i:Nat}[hk:BQ k i](hL: ∀a∈L,¬de a)(hb: ∀a∈L,BQ a i)(hn:L.length<=1000)(hi:i<=1000000:=by decide):PB GB prog 245 (iq [some (eF k),none]) 3 101 (L.map eF) (fun w=> .v (.slice w.a w.n w.c)) ((L.map (· *k)).map eF):=by
 have hml:(L.map eF).length=L.length:=aZ ..;refine tc (fu:=⟨11⟩) func245 J J ntmps245 J J (fun C=>?_);refine aF 7 (.d (vI (L.length:Nat))) J (by rw[hml]<;>rfl) ?_;refine gx J<|?_;refine lp (X:=Nat) (fun j=>[(8, .d (vI (j:Nat)))]) (fun j=>[(1000000,some (.b 101 3 ((gO L k j).map eF) false))]) (fun j=>j<=L.length) (fun j=>L.length-j) 0 J (bS _) (fun _=>J) (fun j hk=>?_);have hsl:=EW L k j;have hsm:((gO L k j).map eF).length=(gO L k j).length:=aZ ..;refine br J J J (fun hc9=>?_) (fun hc9=>?_)
 .
  obtain⟨a,hx⟩: ∃u,L[j]? =some u:=⟨_,aX (by omega)⟩;have ham:=aN hx;haveI:=hb a ham;have hga:(gO L k j)[j]? =some a:=Jl hx;refine lb (fu:=⟨0⟩) _ J (d7 hga) J<|Jp (fu:=⟨1⟩) (rV a) J J4 (fun G y hy=>EZ (hL a ham) hy) J<|F7 J (LF _) (PF.arg0 (lg (p:=a) (q:=k) (i:=i) (j:=i) (by omega) (by omega)) (fun G y h=>by rw[bh.1 h];exact Ft (hL a ham))) J<|?_;refine sb (hv:=by simp only[ah];exact⟨by kernel_rfl,by omega⟩) _ ((gO L k (j+1)).map eF) J (d7 hga) J (by rw[<-KY hx,<-Gu]<;>rfl) J<|?_;exact at_ (j+1) ⟨(by omega),(by omega)⟩
 .
  obtain rfl:j=L.length:=by omega
  have hend:gO L k L.length=L.map (· *k):=by unfold gO;rw[dX,iR,lR]
  exact pM J J J (by rw[hend])
def tq{a:Int}{g:Nat}(hg:0<g)(hd:g∣a.natAbs):(a:Rat)*(((g:Nat):Int):Rat)⁻¹=((zv (decide (a<0)) (a.natAbs/g):Int):Rat):=by
 obtain⟨q,hq⟩:=hd;have e:zv (decide (a<0)) (a.natAbs/g)*(g:Int)=a:=by
  rw[hq,Nat.mul_div_cancel_left q hg];unfold zv;have hc:((g*q:Nat):Int)=(g:Int)*(q:Int):=by simp
  have hm:=Int.mul_comm (g:Int) (q:Int);split
  ·rename_i h
   have h:=of_decide_eq_true h;rw[Int.neg_mul];omega
  ·rename_i h
   have h: ¬a<0:=fun k=>h (decide_eq_true k);omega
 generalize zv (decide (a<0)) (a.natAbs/g)=z at*;have h0:((g:Int):Rat)≠0:=by
  intro k;have:(g:Int)=0:=by exact_mod_cast k
  omega
 rw[<-e,dK];generalize ((g:Int):Rat)=r at*;grind
def kE{z:Int}(h:z.natAbs<=1000000): ¬de (z:Rat):=fun k=>k ⟨by show z.natAbs<_;omega,by show 1<_;decide⟩
def Cv{q:Rat}{k:Nat}(h:BQ q k)(hk:k<=62): ¬de q:=fun b=>b (by
 have hp:2^k<=2^62:=bW (by decide) hk;have e:(2:Nat)^62=4611686018427387904:=by decide
 obtain⟨h1,h2⟩:=h;exact⟨by omega,by omega⟩)
theorem nY(p q:aa){i j:Nat}[av p i][av q j]:av ⟨p.x-q.x,p.y-q.y⟩ (i+j+1):=⟨inferInstanceAs (BQ (p.x-q.x) _),inferInstanceAs (BQ (p.y-q.y) _)⟩
theorem d9{z:Int}(h:z.natAbs<=1000000):BQ (z:Rat) 22:=by
 have e:(2:Nat)^21=2097152:=by decide
 haveI:BI z 21:=⟨by omega⟩;exact(inferInstance:BQ (z:Rat) 22)
def Jj{a b c:Int}(ha:a.natAbs<=1000000)(hb:b.natAbs<=1000000)(hc:c.natAbs<=1000000)(h0: ¬(a=0/\b=0)):PF GB prog 226 [eF (a:Rat),eF (b:Rat),eF (c:Rat)] (.tp [jn (eB a b c),vB true]):=by
 haveI:=d9 ha;haveI:=d9 hb;haveI:=d9 hc;have hgn:Nat.gcd a.natAbs b.natAbs≠0:=fun h=>h0 ⟨lL.1 (Nat.eq_zero_of_gcd_eq_zero_left h),lL.1 (Nat.eq_zero_of_gcd_eq_zero_right h)⟩;have hgp:0<Nat.gcd (Nat.gcd a.natAbs b.natAbs) c.natAbs:=mQ _ (iQ hgn);have eg:rgcd (rgcd (a:Rat) b) c=(((Nat.gcd (Nat.gcd a.natAbs b.natAbs) c.natAbs:Nat):Int):Rat):=by rw[tY,tY];rfl
 have e1:(a:Rat)*(rgcd (rgcd (a:Rat) b) c)⁻¹=((eB a b c).a:Rat):=by rw[eg];exact tq hgp (Nat.dvd_trans (iS _ _) (iS _ _))
 have e2:(b:Rat)*(rgcd (rgcd (a:Rat) b) c)⁻¹=((eB a b c).b:Rat):=by rw[eg];exact tq hgp (Nat.dvd_trans (iS _ _) (kW _ _))
 have e3:(c:Rat)*(rgcd (rgcd (a:Rat) b) c)⁻¹=((eB a b c).c:Rat):=by rw[eg];exact tq hgp (kW _ _)
 haveI:BQ (rgcd (a:Rat) b) 200:=BQ.mono (inferInstance:BQ (rgcd (a:Rat) b) _) (by decide);haveI:BQ (rgcd (rgcd (a:Rat) b) c) 600:=BQ.mono (inferInstance:BQ (rgcd (rgcd (a:Rat) b) c) _) (by decide);haveI:BQ (rgcd (rgcd (a:Rat) b) c)⁻¹ 600:=BQ.mono (inferInstance:BQ (rgcd (rgcd (a:Rat) b) c)⁻¹ _) (by decide);have hl4:([((eB a b c).a:Rat),((eB a b c).b:Rat),((eB a b c).c:Rat)].map eF).length=3:=J;have hl3:[((eB a b c).a:Rat),((eB a b c).b:Rat),((eB a b c).c:Rat)].length=3:=J;refine fn func226 J J ntmps226 J J (fun C=>?_);refine cl J (q7 (q:=(a:Rat))) J<|?_;refine csd 11 J J J (fun hg11=>?_) (fun hg11=>?_)
 .
  refine cl J (q7 (q:=(b:Rat))) J<|?_;refine bd J J J (fun hc14=>?_) (fun hc14=>?_)
  .
   exact absurd ⟨by exact_mod_cast hg11,by exact_mod_cast hc14⟩ h0
  .
   refine cl J (pC (p:=(a:Rat)) (q:=(b:Rat)) (i:=22) (j:=22)) J<|cl J (pC (p:=rgcd (a:Rat) b) (q:=(c:Rat)) (i:=200) (j:=22)) J<|?_;refine cl rfl (rS (q:=rgcd (rgcd (a:Rat) b) c) (i:=600)) rfl<|ro (fu:=⟨0⟩) J J<|cq (hv:=by simp only[ah];exact⟨by kernel_rfl,by omega⟩) ([((eB a b c).a:Rat),((eB a b c).b:Rat),((eB a b c).c:Rat)].map eF) rfl (Bp (L:=[(a:Rat),(b:Rat),(c:Rat)]) (k:=(rgcd (rgcd (a:Rat) b) c)⁻¹) (i:=600) (by intro q hq;simp only[bQ,jS,or_false] at hq;rcases hq with rfl|rfl|rfl;exact kE ha;exact kE hb;exact kE hc) (by intro q hq;simp only[bQ,jS,or_false] at hq;rcases hq with rfl|rfl|rfl;exact(d9 ha).mono (by decide);exact(d9 hb).mono (by decide);exact(d9 hc).mono (by decide)) (nb rfl)) (by simp only[bN,gK,e1,e2,e3]) rfl<|?_;refine lb _ J J J<|lb _ J J J<|lb _ J J J<|?_;exact rz J J
 .
  refine cl J (pC (p:=(a:Rat)) (q:=(b:Rat)) (i:=22) (j:=22)) J<|cl J (pC (p:=rgcd (a:Rat) b) (q:=(c:Rat)) (i:=200) (j:=22)) J<|?_;refine cl rfl (rS (q:=rgcd (rgcd (a:Rat) b) c) (i:=600)) rfl<|ro (fu:=⟨0⟩) J J<|cq (hv:=by simp only[ah];exact⟨by kernel_rfl,by omega⟩) ([((eB a b c).a:Rat),((eB a b c).b:Rat),((eB a b c).c:Rat)].map eF) rfl (Bp (L:=[(a:Rat),(b:Rat),(c:Rat)]) (k:=(rgcd (rgcd (a:Rat) b) c)⁻¹) (i:=600) (by intro q hq;simp only[bQ,jS,or_false] at hq;rcases hq with rfl|rfl|rfl;exact kE ha;exact kE hb;exact kE hc) (by intro q hq;simp only[bQ,jS,or_false] at hq;rcases hq with rfl|rfl|rfl;exact(d9 ha).mono (by decide);exact(d9 hb).mono (by decide);exact(d9 hc).mono (by decide)) (nb rfl)) (by simp only[bN,gK,e1,e2,e3]) rfl<|?_;refine lb _ J J J<|lb _ J J J<|lb _ J J J<|?_;exact rz J J
theorem nH{z:ZP}(h:ZP.le 100 z):av z.q 22:=⟨d9 (by have:=h.1;omega),d9 (by have:=h.2;omega)⟩
def mf{a b:Int}{m n:Nat}(ha:a.natAbs<=m)(hb:b.natAbs<=n):(a*b).natAbs<=m*n:=by
 rw[fV];exact kU ha hb
def E7{v w:ZP}(hv:ZP.le 100 v)(hw:ZP.le 100 w)(h:v≠w):PF GB prog 190 [eZ v.q,eZ w.q] (.tp [jn (jl v.1 v.2 w.1 w.2),vB true]):=by
 haveI:=nH hv;haveI:=nH hw;have hv1:=hv.1;have hv2:=hv.2;have hw1:=hw.1;have hw2:=hw.2;obtain⟨A,hA⟩: ∃A,A=iG v.2 w.2:=⟨_,rfl⟩;obtain⟨B,hB⟩: ∃B,B=iD v.1 w.1:=⟨_,rfl⟩;obtain⟨C0,hC⟩: ∃C0,C0=mj v.1 v.2 w.1 w.2:=⟨_,rfl⟩;have bA:A.natAbs<=200:=by rw[hA];unfold iG;omega
 have bB:B.natAbs<=200:=by rw[hB];unfold iD;omega
 have m1:=mf bA hv1;have m2:=mf bB hv2;have eC:C0= -(A*v.1+B*v.2):=by rw[hC,hA,hB];rfl
 have bC:C0.natAbs<=40000:=by rw[eC];omega
 have h0: ¬(A=0/\B=0):=fun k=>h (Prod.ext (by have:=k.2;rw[hB] at this;unfold iD at this;omega) (by have:=k.1;rw[hA] at this;unfold iG at this;omega));haveI:av (iP A B) 22:=⟨d9 (by omega),d9 (by omega)⟩;haveI:BQ ((A*v.1+B*v.2:Int):Rat) 22:=d9 (by omega);have eT:jx ⟨w.q.x-v.q.x,w.q.y-v.q.y⟩=iP A B:=by rw[hA,hB];unfold jx iP iG iD ZP.q iP;simp only[aa.mk.injEq];push_cast;constructor<;>grind
 have eD:(iP A B).dot v.q=((A*v.1+B*v.2:Int):Rat):=by unfold aa.dot iP ZP.q iP;push_cast;rfl
 have eN: -((A*v.1+B*v.2:Int):Rat)=((C0:Int):Rat):=by rw[eC];push_cast;rfl
 refine fn func190 J J ntmps190 J J (fun C=>?_);refine cl J (tR (p:=w.q) (q:=v.q) (i:=22) (j:=22)) J<|cl (fu:=⟨0⟩) J (Am (p:=⟨w.q.x-v.q.x,w.q.y-v.q.y⟩) (i:=45) (h:=nY w.q v.q)) J<|?_;refine aF 12 (.d (eZ (iP A B))) J (by rw[eT]) ?_;refine gx J<|cl (fu:=⟨0⟩) J (kr (p:=iP A B) (q:=v.q) (i:=22) (j:=22)) J<|?_;refine aF 19 (.d (eF ((A*v.1+B*v.2:Int):Rat))) J (by rw[eD]) ?_;refine gx J<|cl (fu:=⟨0⟩) J (ml (q:=((A*v.1+B*v.2:Int):Rat)) (i:=22)) J<|?_;refine aF 20 (.d (eF ((C0:Int):Rat))) J (by rw[eN]) ?_;refine gx J<|cl J (Jj (a:=A) (b:=B) (c:=C0) (by omega) (by omega) (by omega) h0) J<|?_;exact rz J (by rw[hA,hB,hC];rfl)
theorem AN{l:ab}(ho:l.ok)(ha:l.a.natAbs<=200)(hb:l.b.natAbs<=200){m n:Int}(hm:m.natAbs<=100)(hn:n.natAbs<=100):BQ (dq l (iP m n)) 60:=by
 have hd:=xd ho.ne;have p1:=mf ha ha;have p2:=mf hb hb;have p3:=mf hm hb;have p4:=mf hn ha;have h60:(2:Nat)^60=1152921504606846976:=by decide
 have hA:BI (l.a*l.a+l.b*l.b) 60:=⟨by omega⟩;have hB:BI (m*l.b-n*l.a) 60:=⟨by omega⟩;have e1:l.dir.dot l.dir=((l.a*l.a+l.b*l.b:Int):Rat):=by
  rw[Rat.intCast_add,dK,dK];simp only[ab.dir,aa.dot];grind
 have e2:(iP m n).dot l.dir=((m*l.b-n*l.a:Int):Rat):=by
  rw[Rat.intCast_sub,dK,dK];simp only[ab.dir,aa.dot,iP];grind
 have hd':((0:Int):Rat)<((l.a*l.a+l.b*l.b:Int):Rat):=by rw[<-e1];exact hd
 unfold dq;rw[e2,e1];clear e1 e2 p1 p2 p3 p4;generalize l.a*l.a+l.b*l.b=D at*;generalize m*l.b-n*l.a=M at*;have hD:0<D:=Rat.intCast_lt_intCast.1 hd';refine BQ.of_fracI (n:=M) (D:=D) (by omega) ?_ hB hA;have h0:(D:Rat)≠0:=fun e=>by rw[e] at hd';exact absurd hd' (by decide)
 have:((D.natAbs:Nat):Rat)=(D:Rat):=by
  have h1:((D.natAbs:Nat):Int)=D:=by omega
  rw[<-h1];rfl
 rw[this];grind
def CA{v w:ZP}(hv:ZP.le 100 v)(hw:ZP.le 100 w)(h:v≠w):FE (ju v w):=by
 have hf:=DZ hv hw h;have hv1:=hv.1;have hv2:=hv.2;have hw1:=hw.1;have hw2:=hw.2;have bA:(iG v.2 w.2).natAbs<=200:=by unfold iG;omega
 have bB:(iD v.1 w.1).natAbs<=200:=by unfold iD;omega
 have m1:=mf bA hv1;have m2:=mf bB hv2;have bC:(mj v.1 v.2 w.1 w.2).natAbs<=40000:=by unfold mj;omega
 obtain⟨k1,k2,k3⟩:=BU (iG v.2 w.2) (iD v.1 w.1) (mj v.1 v.2 w.1 w.2);have ea:(ju v w).l.a.natAbs<=200:=dS k1 bA;have eb:(ju v w).l.b.natAbs<=200:=dS k2 bB;have ec:(ju v w).l.c.natAbs<=40000:=dS k3 bC;exact⟨hf,⟨kE (by omega),kE (by omega),kE (by omega),Cv (AN hf.ok ea eb hv1 hv2) (by decide),Cv (AN hf.ok ea eb hw1 hw2) (by decide)⟩,J,J⟩
def I1{r:List ZP}(h:jz r): ∀f∈gr r,FE f:=fun f hf=>by
 obtain⟨k,hk,rfl⟩:=DA hf;exact CA (h.le _ (po hk)) (h.le _ (qH hk)) (h.ne k hk)
def DJ{rs:List (List ZP)}(h: ∀r∈rs,jz r): ∀f∈dl rs,FE f:=fun f hf=>by
 obtain⟨r,h1,h2⟩:=lV.1 hf;exact I1 (h r h1) f h2
def JG{v w:ZP}(hv:ZP.le 100 v)(hw:ZP.le 100 w)(h:v≠w):PF GB prog 137 [eZ v.q,eZ w.q] (.tp [bG (ju v w),vB true]):=by
 have hf:=CA hv hw h;haveI:LB (jl v.1 v.2 w.1 w.2):=hf.fo.lb;haveI:=nH hv;haveI:=nH hw;refine fn func137 J J ntmps137 J J (fun C=>?_);refine cl (fu:=⟨12⟩) J (E7 hv hw h) J<|?_;refine i6 14 J ?_;refine gx J<|cl J (qx (l:=jl v.1 v.2 w.1 w.2) (p:=v.q) (i:=22)) J<|cl J (qx (l:=jl v.1 v.2 w.1 w.2) (p:=w.q) (i:=22)) J<|?_;exact rz J J
def qT{r:List ZP}{k:Nat}{p:aa}(h:(r.map ZP.q)[k]? =some p):k<r.length/\p=(r.getD k (0,0)).q:=by
 rw[fZ] at h
 cases e:r[k]? with
 |none=>rw[e] at h;cases h
 |some z=>
  rw[e] at h;cases h;exact⟨(aS.1 e).1,by rw[aV,e];rfl⟩
def q8(r:List ZP): ∀n,(ji r n).length=n
 |0=>rfl
 |n+1=>by rw[ji,bX,q8 r n];rfl
def AI{r:List ZP}{k:Nat}: ∀{n:Nat},k<n->(ji r n)[k]? =some (ju (r.getD k (0,0)) (fC r k))
 |0,h=>by omega
 |n+1,h=>by
  rw[ji];by_cases e:k=n
  ·subst e
   rw[fQ (by rw[q8];omega),q8,Nat.sub_self];rfl
  ·rw[cV (by rw[q8];omega)]
   exact AI (by omega)
def DI(l:List aI):eh 17 (l.map bG):=fun d hd=>by
 obtain⟨x,_,rfl⟩:=cX.1 hd;exact⟨J,J⟩
def FN{L:List aI}{k:Nat}{l:aI}(h:L[k]? =some l):((L.take k).map bG)++[bG l]=(L.take (k+1)).map bG:=by
 rw[cR,h,fY];rfl
def My{r:List ZP}(h:jz r):PF GB prog 88 [.sl ((r.map ZP.q).map eZ)] (.sl ((gr r).map bG)):=by
 have hn:=h.n6;obtain⟨v,hv⟩: ∃v,v=r.map ZP.q:=⟨_,rfl⟩;have hvl:v.length=r.length:=by rw[hv,aZ]
 rw[<-hv];have hel:(gr r).length=r.length:=(tx h).1;have hrl:(iH v).length=r.length:=by unfold iH;rw[aZ,mK,hvl]
 refine BS func88 J J ntmps88 J J (fun C h0=>?_);refine Eq J J J De (fun _=>J) (fun GB1 pv hg1 hpv=>?_);refine Iw 3 0 50 130 17 J J J J J ?_;refine vO 3 2000003 h0.fx J ?_;refine yp (σ:=Empty) (fun k=>[(2000003,some (.o 96 [.rw 50] true)),(50,some (.b 130 17 (((gr r).take k).map bG) true))]) (fun _=>True) (fun _=>[]) (fun _=>False) [(3, .ov 2000003 0)]
  h0 J (Dz (by omega)) (.cons hpv .nil) ⟨J,trivial⟩ J ⟨J,J,trivial⟩ trivial Bx J J (fun k e GB' hE hg hp=>?_) (fun D hD hx hp=>?_) (fun D s hD hx hq=>hq.elim)
 ·obtain⟨p,q,hpx,hqx,rfl⟩:=Er hE
  rw[hvl] at hqx;rw[hv] at hpx hqx;obtain⟨hk,rfl⟩:=qT hpx;obtain⟨hk2,rfl⟩:=qT hqx;have hx:(gr r)[k]? =some (ju (r.getD k (0,0)) (fC r k)):=AI hk;have hml:(((gr r).take k).map bG).length=k:=by rw[aZ,bR];omega
  refine⟨?_,?_,fun C2=>?_,fun C2=>?_⟩
  rotate_left 2
  ·refine gx J<|y6 J J J ⟨J,J,J⟩ J ?_
   exact atR
  ·refine gx J<|qO 0 (e:=103) (len:=2) (s:=6) J (by kernel_rfl) (by kernel_rfl) (by decide) J<|qO 1 (e:=103) (len:=2) (s:=6) J (by kernel_rfl) (by kernel_rfl) (by decide) J<|?_
   refine cl J (JG (h.le _ (po hk)) (h.le _ (qH hk)) (h.ne k hk)) J<|?_;refine rf J J<|ap (((gr r).take (k+1)).map bG) J (FN hx) (DI [ju (r.getD k (0,0)) (fC r k)]) J<|?_;refine jq 23 50 J ?_;exact rq trivial ⟨J,J,trivial⟩
 ·rw[hrl,<-hel,dX]
  refine gx J<|?_;refine me 50 J ?_;exact Ct hD hx J J
def Fq{a i:Nat}[h:BN a i](hi:i<=1000000000:=by decide):PF GB prog 243 [dN a] (.v (.bool true)):=
 (xb (ds:=dg a) (dB _).2.1 (by have:=gv (a:=a) hi;omega)).to (by unfold vB;rw[decide_eq_true (dB a).2.2])
def BD{q:Rat}{i:Nat}[hq:BQ q i](hi:i<=1000000:=by decide):PF GB prog 223 [eR q] (.v (.bool true)):=by
 have hd:=q.den_pos;have hdl:0<(dg q.den).length:=iQ fun e=>by have:=sS.1 e;omega
 have hml:((dg q.den).map dU).length=(dg q.den).length:=aZ ..;have hco:Nat.gcd q.num.natAbs q.den=1:=q.reduced;refine fn func223 J J ntmps223 J J (fun C=>?_);refine cl (fu:=⟨0⟩) J (LO (m:=q.num) (i:=i) (h:=⟨hq.hn⟩) (by omega)) J<|?_;refine i6 5 J ?_;refine gx J<|cl (fu:=⟨0⟩) J (Fq (a:=q.den) (i:=i) (h:=⟨hq.hd⟩) (by omega)) J<|?_;refine i6 10 J ?_;refine gx (fu:=⟨6⟩) J<|jm J (by show some (decide _)=some false;rw[decide_eq_false (by omega)]) J<|cl (fu:=⟨0⟩) J (uv (a:=q.num.natAbs) (b:=q.den) (i:=i) (j:=i) (h:=⟨hq.hn⟩) (k:=⟨hq.hd⟩) (by omega) (by omega)) J<|?_;refine aF 24 (.d (dN 1)) J (by rw[hco]) ?_;refine gx J<|cl J (l4 (a:=1) (i:=1) (h:=⟨by decide⟩)) J<|?_;exact rz J J
def MR{p:aa}{i:Nat}[hp:av p i](hi:i<=1000000:=by decide):PF GB prog 185 [gn p] (.v (.bool true)):=by
 refine fn func185 J J ntmps185 J J (fun C=>?_);refine cl (fu:=⟨0⟩) J (BD (q:=p.x) (i:=i) (by omega)) J<|?_;refine i6 5 J ?_;refine gx J<|cl J (BD (q:=p.y) (i:=i) (by omega)) J<|?_;exact rz J J
def yt{m n:Int}(hm:m.natAbs<=1000000)(hn:n.natAbs<=1000000):PF GB prog 34 [vI m,vI n] (gn (iP m n)):=by
 haveI:=d9 hm;haveI:=d9 hn;haveI:av (iP m n) 22:=⟨d9 hm,d9 hn⟩;refine fn func34 J J ntmps34 J J (fun C=>?_);refine cl J (qy (m:=m) (by omega)) J<|cl J (qy (m:=n) (by omega)) J<|cl J (FQ (p:=iP m n) (i:=22)) J<|?_;exact rz J J
def lv(l:List aa)(p:aa):Int:=match l.findIdx? (fun q=>decide (q.x=p.x/\q.y=p.y)) with
 |some i=>(i:Nat)
 |none=> -1
def L5{l:List aa}{p q:aa}{k:Nat}(hx:l[k]? =some q)(h:(l.take k).all (fun q=>!decide (q.x=p.x/\q.y=p.y))=true)(hq:q.x=p.x/\q.y=p.y):lv l p=(k:Nat):=by
 have hk:=(aS.1 hx).1;have e:l.findIdx? (fun q=>decide (q.x=p.x/\q.y=p.y))=some k:=by
  rw[List.findIdx?_eq_some_iff_getElem];refine⟨hk,?_,fun j hj=>?_⟩
  ·rw[(aS.1 hx).2];exact decide_eq_true hq
  ·have:=cW.1 h l[j] (by rw[List.mem_take_iff_getElem];exact⟨j,by omega,J⟩)
   simp at this⊢;intro a b;rcases this with k|k
   ·exact k a
   ·exact k b
 unfold lv;rw[e]
def IR{l:List aa}{p:aa}(h:l.all (fun q=>!decide (q.x=p.x/\q.y=p.y))=true):lv l p= -1:=by
 have e:l.findIdx? (fun q=>decide (q.x=p.x/\q.y=p.y))=none:=by
  rw[List.findIdx?_eq_none_iff];intro x hx;have:=cW.1 h x hx;simp at this⊢;intro a b;rcases this with k|k
  ·exact k a
  ·exact k b
 unfold lv;rw[e]
def J5{l:List aa}{k:Nat}{q:aa}{g:aa->Bool}(hx:l[k]? =some q)(h:(l.take k).all g=true)(hq:g q=true):(l.take (k+1)).all g=true:=by
 rw[cR,hx,List.all_append,h];simp[hq]
def Fl{l:List aa}{p:aa}{i:Nat}[hp:av p i](hl: ∀q∈l,av q i)(hn:l.length<=100000)(hi:i<=1000000:=by decide):PF GB prog 187 [.sl (l.map eZ),eZ p] (vI (lv l p)):=by
 have hml:(l.map eZ).length=l.length:=aZ ..;refine fn (fu:=⟨11⟩) func187 J J ntmps187 J J (fun C=>?_);refine aF 8 (.d (vI (l.length:Nat))) J (by rw[hml]<;>rfl) ?_;refine gx J<|?_;refine lp (X:=Nat) (fun k=>[(9, .d (vI (k:Nat)))]) (fun k=>[]) (fun k=>k<=l.length/\(l.take k).all (fun q=>!decide (q.x=p.x/\q.y=p.y))=true) (fun k=>l.length-k) 0 J ⟨bS _,J⟩ (fun _=>J) (fun k hk=>?_);obtain⟨hk,hall⟩:=hk;refine br J J J (fun hc10=>?_) (fun hc10=>?_)
 .
  obtain⟨q,hx⟩: ∃u,l[k]? =some u:=⟨_,aX (by omega)⟩;haveI:=hl q (aN hx);refine ix _ J (d7 hx) J<|cl J (Cq (p:=q) (q:=p) (i:=i) hi) J<|?_;refine bd J J J (fun hc16=>?_) (fun hc16=>?_)
  .
   exact rz J (by rw[L5 hx hall hc16];rfl)
  .
   exact at_ (k+1) ⟨⟨by omega,J5 hx hall (by rw[decide_eq_false hc16];rfl)⟩,(by omega)⟩
 .
  obtain rfl:k=l.length:=by omega
  rw[dX] at hall;exact rz J (by rw[IR hall];rfl)
def dx(l:List aa):Nat->Nat
 |0=>0
 |k+1=>dx l k+if lv l (l.getD k ⟨0,0⟩)=(k:Nat) then 1 else 0
def fy(l:List aa)(k:Nat):Nat:=if 3<=dx l k then 3 else dx l k
def F2{l:List aa}{k:Nat}(h:fy l k<3)(e:dx l (k+1)=dx l k+1):((fy l k:Nat):Int)+1=((fy l (k+1):Nat):Int):=by
 have a:fy l k=if 3<=dx l k then 3 else dx l k:=J
 have b:fy l (k+1)=if 3<=dx l (k+1) then 3 else dx l (k+1):=J
 split at a<;>split at b<;>omega
def yh{l:List aa}{k:Nat}(h: ¬fy l k<3\/dx l (k+1)=dx l k)(m:dx l k<=dx l (k+1)):((fy l k:Nat):Int)=((fy l (k+1):Nat):Int):=by
 have a:fy l k=if 3<=dx l k then 3 else dx l k:=J
 have b:fy l (k+1)=if 3<=dx l (k+1) then 3 else dx l (k+1):=J
 split at a<;>split at b<;>omega
def IW(l:List aa)(k:Nat):fy l k<=3:=by unfold fy;split<;>omega
def IF{l:List aa}{k:Nat}(h:3<=dx l k):fy l k=3:=by unfold fy;rw[if_pos h]
def Gw{l:List aa}{k:Nat}{p:aa}(hx:l[k]? =some p)(h:lv l p=(k:Nat)):dx l (k+1)=dx l k+1:=by
 rw[dx,aV,hx,hZ,if_pos h]
def Mq{l:List aa}{k:Nat}{p:aa}(hx:l[k]? =some p)(h: ¬lv l p=(k:Nat)):dx l (k+1)=dx l k:=by
 rw[dx,aV,hx,hZ,if_neg h];rfl
def Kf{l:List aa}{k:Nat}:dx l k<=dx l (k+1):=by rw[dx];split<;>omega
def Ha{v:List aa}{k:Nat}{p:aa}(h:v[k]? =some p):((v.take k).map eZ)++[eZ p]=(v.take (k+1)).map eZ:=by
 rw[cR,h,fY];rfl
def Ii{r:List ZP}(h:jz r){k:Nat}(hk:k<r.length):decide ((r.getD k (0,0)).q.x=(fC r k).q.x/\(r.getD k (0,0)).q.y=(fC r k).q.y)=false:=decide_eq_false fun e=>h.ne k hk (Kz (by
 obtain⟨e1,e2⟩:=e;generalize (r.getD k (0,0)).q=a at*;generalize (fC r k).q=b at*
 cases a;cases b
 simp only[aa.mk.injEq];exact⟨e1,e2⟩))
def Hp{r:List ZP}(h:jz r)(h3:3<=dx (r.map ZP.q) (r.map ZP.q).length):PF GB prog 135 [lH r] (.tp [.sl ((r.map ZP.q).map eZ), .v .nilIface]):=by
 have hn:=h.n6;obtain⟨v,hv⟩: ∃v,v=r.map ZP.q:=⟨_,rfl⟩;have hvl:v.length=r.length:=by rw[hv,aZ]
 have hb: ∀p∈v,av p 22:=fun p hp=>by rw[hv] at hp;obtain⟨z,hz,rfl⟩:=cX.1 hp;exact nH (h.le z hz)
 unfold lH;rw[<-hv] at h3⊢;have hm1:(v.map gn).length=v.length:=aZ ..;have hm2:(v.map eZ).length=v.length:=aZ ..;have hrl:(iH v).length=v.length:=by unfold iH;rw[aZ,mK]
 refine BS (fu:=⟨11⟩) func135 J J ntmps135 J J (fun C h0=>?_);refine aF 13 (.d (vI (v.length:Nat))) J (by rw[hm1]<;>rfl) ?_;refine gx (fu:=⟨0⟩) J<|jm (fu:=⟨15⟩) J (by show some (decide _)=some false;rw[decide_eq_false (by omega)]) J<|?_;refine aF 20 (.d (vI (v.length:Nat))) J (by rw[hm1]<;>rfl) ?_;refine gx J<|?_;refine nr 4 4 103 6 J J J ?_;refine lp (X:=Nat) (fun k=>[(21, .d (vI (k:Nat))),(4, .rw 4)]) (fun k=>[(4,some (.b 103 6 ((v.take k).map eZ) true))]) (fun k=>k<=v.length) (fun k=>v.length-k) 0 J (bS _) (fun _=>J) (fun k hk=>?_);have hm3:((v.take k).map eZ).length<=k:=by rw[aZ,bR];omega
 refine br (fu2:=⟨0⟩) J J J (fun hc22=>?_) (fun hc22=>?_)
 .
  obtain⟨p,hx⟩: ∃u,v[k]? =some u:=⟨_,aX (by omega)⟩;haveI:=hb p (aN hx);refine ix _ J (d7 hx) J<|cl (fu:=⟨0⟩) J (MR (p:=p) (i:=22)) J<|?_;refine i6 27 J ?_;refine gx J<|cl J (sM (p:=p) (i:=22)) J<|rf J J<|ap ((v.take (k+1)).map eZ) J (Ha hx) (mP [p]) J<|?_;refine jq 41 4 J ?_;exact at_ (k+1) ⟨(by omega),(by omega)⟩
 .
  obtain rfl:k=v.length:=by omega
  rw[dX];refine Gf 4 J ?_;refine gx (fu:=⟨15⟩) J<|?_;refine aF 44 (.d (vI (v.length:Nat))) J (by rw[hm2]<;>rfl) ?_;refine gx J<|?_;refine lp (X:=Nat) (fun k=>[(45, .d (vI (k:Nat))),(7, .d (vI ((fy v k):Nat)))]) (fun k=>[]) (fun k=>k<=v.length) (fun k=>v.length-k) 0 J (bS _) (fun _=>J) (fun k hk=>?_);have hdm:=IW v k;refine br (fu2:=⟨9⟩) J J J (fun hc46=>?_) (fun hc46=>?_)
  .
   obtain⟨p,hx⟩: ∃u,v[k]? =some u:=⟨_,aX (by omega)⟩;haveI:=hb p (aN hx);have hcm:=Kf (l:=v) (k:=k);refine ix _ J (d7 hx) J<|?_;refine cs 52 J J J (fun hg52=>?_) (fun hg52=>?_)
   .
    refine cl J (Fl (l:=v) (p:=p) (i:=22) hb (by omega)) J<|?_;refine br J J J (fun hc58=>?_) (fun hc58=>?_)
    .
     have he7:=F2 (by omega) (Gw hx (by omega));refine aF 7 (.d (vI (fy v (k+1):Nat))) J (by rw[he7]<;>rfl) ?_;exact at_ (k+1) ⟨(by omega),(by omega)⟩
    .
     have he7:=yh (.inr (Mq hx (by omega))) hcm;refine aF 7 (.d (vI (fy v (k+1):Nat))) J (by rw[he7]<;>rfl) ?_;exact at_ (k+1) ⟨(by omega),(by omega)⟩
   .
    have he7:=yh (l:=v) (k:=k) (.inl (by omega)) hcm;refine aF 7 (.d (vI (fy v (k+1):Nat))) J (by rw[he7]<;>rfl) ?_;exact at_ (k+1) ⟨(by omega),(by omega)⟩
  .
   obtain rfl:k=v.length:=by omega
   have hd3:=IF h3;refine jm (fu:=⟨9⟩) J (by show some (decide _)=some false;rw[decide_eq_false (by omega)]) J<|?_;refine Eq J J J De (fun _=>J) (fun GB1 pv hg1 hpv=>?_);refine vO 2 2000002 h0.fx J<|vO 3 2000003 h0.fx J ?_;refine yp (σ:=Empty) (fun _=>[(2000002,some (.o 164 [.nl] true)),(2000003,some (.o 51 [.d (.v .nilIface)] true))]) (fun _=>True) (fun _=>[]) (fun _=>False) [(2, .ov 2000002 0),(3, .ov 2000003 0),(4, .d (.sl (v.map eZ)))] h0 J (Dz (by omega)) (.cons hpv .nil) ⟨J,J,J,trivial⟩ J ⟨J,J,trivial⟩ trivial Bx J J (fun k e GB' hE hg hp=>?_) (fun D hD hx hp=>?_) (fun D s hD hx hq=>hq.elim)
   ·obtain⟨p,q,hpx,hqx,rfl⟩:=Er hE
    rw[hvl] at hqx;rw[hv] at hpx hqx;obtain⟨hk,rfl⟩:=qT hpx;obtain⟨hk2,rfl⟩:=qT hqx;haveI:=nH (h.le _ (po hk));haveI:=nH (h.le _ (qH hk));have hne:=Ii h hk;refine⟨?_,?_,fun C2=>?_,fun C2=>?_⟩
    rotate_left 2
    ·refine gx J<|y6 J J J ⟨J,J,J⟩ J ?_
     exact atR
    ·refine gx J<|qO 0 (e:=103) (len:=2) (s:=6) J (by kernel_rfl) (by kernel_rfl) (by decide) J<|qO 1 (e:=103) (len:=2) (s:=6) J (by kernel_rfl) (by kernel_rfl) (by decide) J<|?_
     refine cl J (Cq (p:=(r.getD k (0,0)).q) (q:=(fC r k).q) (i:=22)) J<|?_;refine bd J J J (fun hc=>absurd (decide_eq_true hc) (by rw[hne];decide)) (fun hc=>?_);exact rq trivial ⟨J,J,trivial⟩
   ·refine gx J<|?_
    exact Ct hD hx J J
structure oT (r:List ZP):Prop where
 ok:jz r
 c3:3<=dx (r.map ZP.q) (r.map ZP.q).length
def kB(r:List ZP):DV:= .sl ((r.map ZP.q).map eZ)
def Fz(l:List (List ZP)):eh 1 (l.map kB):=fun d hd=>by
 obtain⟨x,_,rfl⟩:=cX.1 hd;exact⟨J,J⟩
def MK{L:List (List ZP)}{k:Nat}{l:List ZP}(h:L[k]? =some l):((L.take k).map kB)++[kB l]=(L.take (k+1)).map kB:=by
 rw[cR,h,fY];rfl
def Hd{L:List (List ZP)}{k:Nat}{l:List ZP}(h:L[k]? =some l):((dl (L.take k)).map bG)++((gr l).map bG)=(dl (L.take (k+1))).map bG:=by
 rw[EN h,fY]
def LH{rs:List (List ZP)}(h: ∀r∈rs,oT r)(hn:rs.length<=200):PF GB prog 87 [.sl (rs.map lH)] (.tp [.sl (rs.map kB), .v .nilIface]):=by
 have hml:(rs.map lH).length=rs.length:=aZ ..;refine fn (fu:=⟨11⟩) func87 J J ntmps87 J J (fun C=>?_);refine aF 10 (.d (vI (rs.length:Nat))) J (by rw[hml]<;>rfl) ?_;refine gx (fu:=⟨0⟩) J<|jm (fu:=⟨15⟩) J (by show some (decide _)=some false;rw[decide_eq_false (by omega)]) J<|?_;refine aF 17 (.d (vI (rs.length:Nat))) J (by rw[hml]<;>rfl) ?_;refine gx J<|?_;refine nr 4 4 164 1 J J J ?_;refine lp (X:=Nat) (fun k=>[(18, .d (vI (k:Nat))),(4, .rw 4)]) (fun k=>[(4,some (.b 164 1 ((rs.take k).map kB) true))]) (fun k=>k<=rs.length) (fun k=>rs.length-k) 0 J (bS _) (fun _=>J) (fun k hk=>?_);have hm3:((rs.take k).map kB).length<=k:=by rw[aZ,bR];omega
 refine br J J J (fun hc19=>?_) (fun hc19=>?_)
 .
  obtain⟨r,hx⟩: ∃u,rs[k]? =some u:=⟨_,aX (by omega)⟩;have hr:=h r (aN hx);refine ix _ J (d7 hx) J<|cl (fu:=⟨11⟩) J (Hp hr.ok hr.c3) J<|jm J J J<|rf J J<|ap ((rs.take (k+1)).map kB) J (MK hx) (Fz [r]) J<|?_;refine jq 33 4 J ?_;exact at_ (k+1) ⟨(by omega),(by omega)⟩
 .
  obtain rfl:k=rs.length:=by omega
  rw[dX];refine me 4 J ?_;exact rz J J
def DU{rs:List (List ZP)}(h: ∀r∈rs,oT r)(hn:rs.length<=200):PF GB prog 42 [.sl (rs.map lH)] (.tp [.sl ((dl rs).map bG), .v .nilIface]):=by
 have hml:(rs.map kB).length=rs.length:=aZ ..;refine fn func42 J J ntmps42 J J (fun C=>?_);refine cl (fu:=⟨11⟩) J (LH h hn) J<|jm (fu:=⟨15⟩) J J J<|?_;refine aF 18 (.d (vI (rs.length:Nat))) J (by rw[hml]<;>rfl) ?_;refine gx J<|?_;refine nr 6 6 130 17 J J J ?_;refine lp (X:=Nat) (fun k=>[(19, .d (vI (k:Nat))),(6, .rw 6)]) (fun k=>[(6,some (.b 130 17 ((dl (rs.take k)).map bG) true))]) (fun k=>k<=rs.length) (fun k=>rs.length-k) 0 J (bS _) (fun _=>J) (fun k hk=>?_);have hm5:=A' (fun r hr=>(h r hr).ok) k;have hm3:((dl (rs.take k)).map bG).length<=6*k:=by rw[aZ];exact A' (fun r hr=>(h r hr).ok) k
 refine br J J J (fun hc20=>?_) (fun hc20=>?_)
 .
  obtain⟨r,hx⟩: ∃u,rs[k]? =some u:=⟨_,aX (by omega)⟩;have hr:=h r (aN hx);have hel:=(tx hr.ok).1;have hn6:=hr.ok.n6;have hm4:((gr r).map bG).length=(gr r).length:=aZ ..;refine ix _ J (d7 hx) J<|cl J (My hr.ok) J<|ap ((dl (rs.take (k+1))).map bG) J (Hd hx) (DI (gr r)) J<|?_;refine jq 26 6 J ?_;exact at_ (k+1) ⟨(by omega),(by omega)⟩
 .
  obtain rfl:k=rs.length:=by omega
  rw[dX];refine me 6 J ?_;exact rz J J
def En{rs:List (List ZP)}(h: ∀r∈rs,oT r)(hn:rs.length<=200):(dl rs).length<=1200:=by
 have:=(wV fun r hr=>(h r hr).ok).1;omega
def A6(rs:List (List ZP))(p:aa):Bool:=(dl rs).any fun f=>gi f p
def sf{fill n:Int}:PF GB prog 8 [vI fill,vI n] (vB (eO fill n)):=by
 refine fn func8 J J ntmps8 J J (fun C=>?_);refine br J J J (fun hc6=>?_) (fun hc6=>?_)
 .
  exact rz J (by show DV.v (.bool _)= .v (.bool _);unfold eO;simp_all)
 .
  refine br J J J (fun hc11=>?_) (fun hc11=>?_)
  .
   exact rz J (by show DV.v (.bool _)= .v (.bool _);unfold eO;simp_all)
  .
   exact rz J (by show DV.v (.bool _)= .v (.bool _);unfold eO;simp_all)
def H7{rs:List (List ZP)}(h: ∀r∈rs,oT r)(hn:rs.length<=200){p:aa}{i:Nat}[hp:av p i](hno:A6 rs p=false)(hi:i<=100000:=by decide):PF GB prog 25 [.sl (rs.map lH),gn p] (.tp [vI (ey (dl rs) p), .v .nilIface]):=by
 have hel:=En h hn;have hfe:=DJ fun r hr=>(h r hr).ok;refine fn func25 J J ntmps25 J J (fun C=>?_);refine cl J (DU h hn) J<|cl (fu:=⟨9⟩) J (sM (p:=p) (i:=i) (by omega)) J<|jm J J J<|cl (fu:=⟨0⟩) J (K8 (E:=dl rs) hfe (by omega) (p:=p) (i:=i) hi) J<|?_;refine aF 23 (.d (vB false)) J (by rw[show(dl rs).any (fun f=>gi f p)=false from hno]) ?_;refine oN 23 J ?_;refine gx J<|cl J (Cz (E:=dl rs) hfe (by omega) (p:=p) (i:=i) hi) J<|?_;exact rz J J
end Go.Sx
end
