import Derived.Test.YtefoocgiaegobaaGreatDoorPb13
set_option linter.all false
set_option maxHeartbeats 2000000
set_option maxRecDepth 100000
section
namespace Go.Sx
open Go Go.Proofs Tryz
variable {GB:Gh}
def QT:ah:=⟨0,1,0⟩
def W1:Tr:= .node QT (.leaf true) (.leaf false)
structure Vh (k:Nat) (t:Tr):Prop where
 o:Pe k t
 s:t.size<=3000
def Us(es:List Int)(a:Nat):(Tr×Tr)×Nat:=
 let x:=nD es 0 a
 let y:=nD es 0 x.2
 let k:=aq es 3 y.2
 let u:=if(k.1:Int)=0 then jf es 3 k.2 else(x.1,k.2)
 let j:=aq es 3 u.2
 let v:=if(j.1:Int)=0 then jf es 3 j.2 else(y.1,j.2)
 ((u.1,v.1),v.2)
def Wd(es:List Int)(a:Nat):(Tr×Tr)×Nat:=
 let x:=nD es 0 a
 let y:=nD es 0 x.2
 let k:=aq es 6 y.2
 if(k.1:Int)=0 then((x.1, .node (lF es k.2).1 x.1 x.1),(lF es k.2).2)
 else if(k.1:Int)=1 then((x.1,y.1.mergeQ 1 x.1 []),k.2)
 else if(k.1:Int)=2 then((x.1,y.1.mergeQ 3 x.1 []),k.2)
 else if(k.1:Int)=3 then((x.1,(jf es 3 k.2).1),(jf es 3 k.2).2)
 else((x.1,y.1),k.2)
def C7(es:List Int):Nat->Nat->List Tr×Nat
 |0,a=>([],a)
 |n+1,a=>((nD es 0 a).1::(C7 es n (nD es 0 a).2).1,(C7 es n (nD es 0 a).2).2)
def LT(r:List ZP)(i k:Nat):Bool:=decide (k=i)||decide (k=(i+1)%r.length)||decide (0<o4 (r.getD i (0,0)).q (d4 r i).q (r.getD k (0,0)).q)
def VI(r:List ZP):Bool:=(List.range r.length).all fun i=>(List.range r.length).all fun k=>LT r i k
section
variable {GB:Gh} {C:az} {n:Nat} {Q0:Exit->Act->World->Prop} {fr fr' fr1 fr2:ao} {own own' own1 own2:aB} {cf cf' cf1 cf2:Cf} {vc vc1 vc2:List Prop}
def Ve(fr:ao)(cf:Cf):Option Int:=match bu fr cf with
 |some ⟨_, .binOp .and _ x (.const (.int .i64 3)) _,_,_,_,_⟩=>match aC (aI fr cf) x with
  |some (.d (.v (.int .i64 p)))=>some p
  |_=>none
 |_=>none
end
def Mt{es0 es:List Int}(hb:es0.length<=1125899906842624)(he:es=es0.take 400):PN GB prog 15 [.sl (es0.map vI)] 126 Unit (fun _=>[.sl (es.map vI), .v (.int .i64 (0:Nat))]):=by
 subst he;exact Oe hb
def V5(a b:Tr):DV:= .ag [eU a,eU b]
def WF:DV:= .ag [.v (.pointer none), .v (.pointer none)]
def Wq(a:ah)(t:List ah):List Rat:=t.filterMap fun b=>if crossI a b=0 then none else some (lI a b).x
def WH(l:List ah)(x:Rat):List aa:=(wE (x6 (Iu l x))).map fun y=>⟨x,y⟩
def JL:Tr->aa->Bool
 | .leaf _,_=>true
 | .node l x y,p=>if(l.value p).num.sign=1 then JL x p else if(l.value p).num.sign= -1 then JL y p else false
structure V' (a b:Tr):Prop where
 ga:a.gd
 gb:b.gd
 sa:a.size<=3000
 sb:b.size<=3000
def Vd(x y:Bool):Bool:=x&&!y
def U3(x y:Bool):Bool:=y&&!x
def Wl(x y:Bool):Bool:=x&&y
def UE(x y:Bool):Bool:=!x&&!y
def VW(f:Bool->Bool->Bool)(a b:Tr)(k:Nat):Bool:=((CB a b).take k).any fun p=>f (o5 a p) (o5 b p)
def Ef:Tr->List ah->List (List ah×Bool)
 | .leaf b,c=>if EO c then [(nf c,b)] else []
 | .node l x y,c=>if EO c then Ef x (nf c++[l])++Ef y (nf c++[l.rev]) else []
def QH(c:List ah)(p:aa):Bool:=c.all fun l=>decide (0<Int.sign (l.value p).num)
def Vv(c:List ah):Option aa:=(Ex (uH c)).find? (QH c)
def UM(c:bO):Prop:=(c.map fun s=>s.l.dir).Pairwise cP
def WO(c:List ah):Prop:=(c.map ah.dir).Pairwise cP
def Nv(c:bO):Bool:=!c.isEmpty&&c.all fun s=>!s.v.nl&&!s.v.nh
def KX(c:List ah)(v:aa):Bool:=c.all fun l=>decide (0<=Int.sign (l.dir.cross v).num)
def Vq(c:List ah):Bool:=!c.isEmpty&&(c.flatMap fun l=>[l.dir,dw l.dir]).all fun v=>!KX c v
def vL:ah:=⟨1,0,0⟩
def KF(c:List ah)(i:Nat):List aa:=
 if 0<Int.sign ((c.getD i vL).dir.cross (c.getD ((i+1)%c.length) vL).dir).num then [lI (c.getD i vL) (c.getD ((i+1)%c.length) vL)] else []
def xi(c:List ah):List aa:=(List.range c.length).flatMap (KF c)
def NJ(v:List aa)(i:Nat):List aa:=[v.getD 0 ⟨0,0⟩,v.getD (i+1) ⟨0,0⟩,v.getD (i+2) ⟨0,0⟩]
def HZ(v:List aa):List (List aa):=(List.range (v.length-2)).map (NJ v)
def V3(cs:List (List ah)):List (List aa):=cs.flatMap fun c=>HZ (xi c)
def MF(l:ah)(t u:Rat):l.at (t+u)=dx (l.at t) l.dir u:=by
 rw[<-qi,<-qi];unfold dx;simp only[aa.mk.injEq];constructor<;>grind
def J8(l:ah)(a b s:Rat):p6 (l.at a) (l.at b) s=l.at (a+s*(b-a)):=by
 rw[<-qi,<-qi,<-qi];unfold p6 dx;simp only[aa.mk.injEq];constructor<;>grind
def CS{l:ah}(h:l.Ne)(t:Rat):de l (l.at t)=t:=by
 obtain⟨q,_,hq⟩:=xt h;have h2:=tS h;have e0:l.dir.dot l.dir=l.nor.dot l.nor:=by unfold ah.dir ah.nor aa.dot;grind
 have e1:(l.at t).dot l.dir=t*l.dir.dot l.dir:=by
  rw[<-qi,hq];unfold dx ah.dir aa.dot;grind
 unfold de;rw[e1];rw[<-e0] at h2;generalize l.dir.dot l.dir=d at*;have:d≠0:=by grind
 grind
def xy{l:ah}(h:l.Ne){p:aa}(hp:l.value p=0):l.at (de l p)=p:=by
 obtain⟨t,rfl⟩:=IA h hp;rw[CS h]
def Bi(a:Int){g:Nat}(h:g∣a.natAbs):(g:Int)*zv (decide (a<0)) (a.natAbs/g)=a:=by
 obtain⟨k,hk⟩:=h;by_cases g0:g=0
 ·subst g0;simp at hk⊢;omega
 have e:a.natAbs/g=k:=by rw[hk];exact oT k (fS g0)
 rw[e];unfold zv;have hc:((g*k:Nat):Int)=(g:Int)*(k:Int):=by push_cast;rfl
 by_cases n:a<0
 ·simp only[n,decide_true,if_true];rw[Int.mul_neg];omega
 ·simp only[n,decide_false];show(g:Int)*(k:Int)=a;omega
def OW{a b c:Int}(h: ¬(a=0/\b=0)): ∃g:Int,0<g/\g*(eB a b c).a=a/\g*(eB a b c).b=b/\g*(eB a b c).c=c:=by
 have hg:0<Nat.gcd (Nat.gcd a.natAbs b.natAbs) c.natAbs:=kJ _ (fS fun e=>h ⟨lQ.1 (lR e),lQ.1 (lV e)⟩);refine⟨(Nat.gcd (Nat.gcd a.natAbs b.natAbs) c.natAbs:Nat),by omega,?_,?_,?_⟩
 ·exact Bi a (nM (iX _ _) (iX _ _))
 ·exact Bi b (nM (iX _ _) (jV _ _))
 ·exact Bi c (jV _ _)
def Ia{v w:ZP}(h:v≠w): ∃g:Rat,0<g/\(f5 v.1 v.2 w.1 w.2).value v.q=0/\(f5 v.1 v.2 w.1 w.2).value w.q=0/\w.q=dx v.q (f5 v.1 v.2 w.1 w.2).dir g:=by
 obtain⟨m,n⟩:=v;obtain⟨p,q⟩:=w;have hne: ¬(gF n q=0/\gz m p=0):=fun e=>h (by unfold gF gz at e;rw[Prod.mk.injEq];omega);obtain⟨g,g0,ga,gb,gc⟩:=OW (c:=lH m n p q) hne;dsimp only;unfold f5;generalize eB (gF n q) (gz m p) (lH m n p q)=l at*;have g0':(0:Rat)<(g:Rat):=by exact_mod_cast g0
 have ra:(g:Rat)*(l.a:Rat)= -((q:Rat)-(n:Rat)):=by rw[<-dW,ga];unfold gF;push_cast;grind
 have rb:(g:Rat)*(l.b:Rat)=(p:Rat)-(m:Rat):=by rw[<-dW,gb];unfold gz;push_cast;grind
 have rc:(g:Rat)*(l.c:Rat)= -(-((q:Rat)-(n:Rat))*(m:Rat)+((p:Rat)-(m:Rat))*(n:Rat)):=by rw[<-dW,gc];unfold lH gF gz;push_cast;grind
 have z: ∀x:Rat,(g:Rat)*x=0->x=0:=fun x hx=>by
  rcases Rat.mul_eq_zero.1 hx with e|e
  ·rw[e] at g0';exact absurd g0' (by decide)
  ·exact e
 refine⟨g,g0',z _ ?_,z _ ?_,?_⟩
 ·rw[nC];unfold ZP.q iP;dsimp only;grind
 ·rw[nC];unfold ZP.q iP;dsimp only;grind
 ·unfold ZP.q iP dx ah.dir;simp only[aa.mk.injEq];constructor<;>grind
def FS{v w:ZP}(h:v≠w)(ho:(b6 v w).l.ok):(b6 v w).l.at (b6 v w).v.lo=v.q/\(b6 v w).l.at (b6 v w).v.hi=w.q/\(b6 v w).v.lo<(b6 v w).v.hi:=by
 obtain⟨g,g0,h1,h2,h3⟩:=Ia h;unfold b6 at ho⊢;dsimp only at ho⊢;generalize f5 v.1 v.2 w.1 w.2=l at*;have e1:=xy ho.ne h1;have e2:=xy ho.ne h2;refine⟨e1,e2,?_⟩;have:de l w.q=de l v.q+g:=by
  have e3:=MF l (de l v.q) g;rw[e1,<-h3] at e3;rw[<-e3,CS ho.ne]
 rw[this];grind
def B7{r:List ZP}{k:Nat}: ∀{n:Nat},k<n->b6 (r.getD k (0,0)) (d4 r k)∈iB r n
 |n+1,h=>by
  rw[iB];by_cases e:k=n
  ·subst e;exact fQ _ (aL.2 J)
  ·exact cJ _ (B7 (by omega))
def V9(E:List bg)(c:List ah)(l:List bg):Prop:= ∀e∈E,∀t,e.v.ins t->Nz c (e.l.at t)-> ∃f∈l,f.l=e.l/\f.v.ins t
structure vH where
 ax:Rat
 ay:Rat
 ac:Rat
def vH.ev(g:vH)(p:aa):Rat:=g.ax*p.x+g.ay*p.y+g.ac
def vH.li(g:vH)(u:aa):Rat:=g.ax*u.x+g.ay*u.y
def nF(a b x:aa):Prop:= ∃s:Rat,0<=s/\s<=1/\x=p6 a b s
def LG(a b p r:aa):Prop:=nF a b p/\((r=⟨b.x-p.x,b.y-p.y⟩/\b≠p)\/(r=⟨a.x-p.x,a.y-p.y⟩/\a≠p))
def JV(r u:aa):Prop:= ∃k:Rat,0<k/\u=⟨k*r.x,k*r.y⟩
def MH(E:List (aa×aa))(p u:aa):Prop:=u≠⟨0,0⟩/\ ∀f∈E,∀r,LG f.1 f.2 p r-> ¬JV r u
def kH(r:List ZP):List (aa×aa):=(List.range r.length).map fun k=>((r.getD k (0,0)).q,(d4 r k).q)
def ER(rs:List (List ZP)):List (aa×aa):=rs.flatMap kH
def tF{a b:ZP}(h:a.q=b.q):a=b:=by
 have hx:(a.1:Rat)=(b.1:Rat):=congrArg aa.x h;have hy:(a.2:Rat)=(b.2:Rat):=congrArg aa.y h;exact Prod.ext (by exact_mod_cast hx) (by exact_mod_cast hy)
def KG(rs:List (List ZP))(fill:Int)(p v:aa)(b:Bool):Prop:= ∃e:Rat,0<e/\ ∀d,0<d->d<=e->ve rs fill (dx p v d)=b
section
variable {rs:List (List ZP)} {fill:Int} {p v w:aa} {b c:Bool}
end
def O1(ds:List aa)(u:aa):Prop:=u≠⟨0,0⟩/\ ∀r∈ds,¬JV r u
def Ux(ds:List aa)(v w:aa):Prop:= ∀s,0<=s->s<=1->O1 ds (p6 v w s)
def sn(x y:aa):Nat:=if x.cross y<0 then 1 else if 0<x.cross y then 3 else if 0<x.dot y then 0 else 2
def Up(x y z:aa):Prop:=sn x y<sn x z\/(sn x y=sn x z/\(sn x y=1\/sn x y=3)/\0<z.cross y)
section
variable {ds:List aa}
end
def OM(v:List aa):DV:= .sl (v.map eZ)
def Hb(v:List aa):DV:= .sl (v.map gm)
def kn{α:Type}(f:α->Rat):List α->Rat
 |[]=>0
 |a::t=>f a+kn f t
def Q8(f:aa->aa->Rat)(v:List aa):Rat:=kn (fun i=>f (v.getD i ⟨0,0⟩) (v.getD ((i+1)%v.length) ⟨0,0⟩)) (List.range v.length)
def U1(c:bO):Rat:=kn (fun s=>(s.v.hi-s.v.lo)*(s.l.c:Rat)) c
def VD(t:Tr):Prop:= ∃(L:List ah) (R:Rat),(∀l∈L,l.ok)/\ ∀p,Ol L p->LY R p->t.val p=false
def Eo(es:List Int):Nat->Nat->Tr×Nat
 |0,a=>om es a
 |d+1,a=>
  let k:=aq es 3 a
  if(k.1:Int)=0 then
   let x:=Eo es d k.2
   let o:=aq es 4 x.2
   let y:=Eo es d o.2
   (x.1.mergeQ (1+(o.1:Int)) y.1 [],y.2)
  else om es k.2
def UP(f:aa->aa->Rat):Prop:= ∀(l:ah) (a b c:Rat),l.Ne->f (l.at a) (l.at c)=f (l.at a) (l.at b)+f (l.at b) (l.at c)
def Vf(f:aa->aa->Rat)(s:bg):Rat:=f (s.l.at s.v.lo) (s.l.at s.v.hi)
def Tx(f:aa->aa->Rat)(c:bO):Rat:=Q8 f (xi (c.map (·.l)))
def Qq(f:aa->aa->Rat)(t:Tr)(c:bO):Rat:=kn (fun x:Bool×bO=>if x.1 then Tx f x.2 else 0) (t.parts c)
def U'(f:aa->aa->Rat)(t:Tr)(c:bO)(l:ah):Rat:=if jc c l then Qq f t (iD c l) else 0
def WI(t:Tr)(c:bO):Prop:= ∀x∈t.parts c,x.1=true->Nv x.2=true
def Lc(v:List aa):List (aa×aa):=(List.range v.length).map fun i=>(v.getD i ⟨0,0⟩,v.getD ((i+1)%v.length) ⟨0,0⟩)
def mr(cs:List (List ah)):List (aa×aa):=cs.flatMap fun c=>Lc (xi c)
def l9(cs:List bO):List (List ah):=cs.map fun c=>c.map (·.l)
def UF(x:aa×aa):List DV:=[vi x.1 x.2,eF (x.1.cross x.2)]

def UI(x:List ah×Bool):DV:= .ag [.sl (x.1.map eL),vB x.2]
def VN(c:List ah):DV:= .sl (c.map eL)
def Wz(ps:List (List ah×Bool)):List (List ah):=(ps.filter (·.2)).map (·.1)
def Ur(v:List aa):DV:= .sl (v.map eP)
structure Jw (GB:Gh) (ai al ae au:Addr):Prop extends EG GB ai al ae where
 ErrUnbounded:GB 5=some [.iface 499 (.pointer (some au))]
def Uj(c:bO):List (List aa):=HZ (xi (c.map (·.l)))
def KM{v:List aa}(hb: ∀p∈v,aA p 1200)(hn:v.length<=1000000):PF GB prog 105 [OM v] (Hb v):=by
 have hml:(v.map eZ).length=v.length:=aX ..;refine fn (fu:=⟨15⟩) func105 J J ntmps105 J J (fun C=>?_);refine ak 7 (.d (vI (v.length:Nat))) J (by rw[hml]<;>rfl) ?_;refine gx J<|?_;refine nr 3 3 73 6 J J J ?_;refine lp (X:=Nat) (fun k=>[(8, .d (vI (k:Nat))),(3, .rw 3)]) (fun k=>[(3,some (.b 73 6 ((v.take k).map gm) true))]) (fun k=>k<=v.length) (fun k=>v.length-k) 0 J (bL _) (fun _=>J) (fun k hk=>?_);have ham:((v.take k).map gm).length=k:=by rw[aX,bW];omega
 refine br J J J (fun hc9=>?_) (fun hc9=>?_)
 .
  obtain⟨p,hx⟩: ∃u,v[k]? =some u:=⟨_,aZ (by omega)⟩;haveI:=hb p (aS hx);refine ix _ J (d9 hx) J<|cl J (DX (p:=p) (i:=1200)) J<|rf J J<|ap ((v.take (k+1)).map gm) J (by rw[cM,hx,cX]<;>rfl) (IS [p]) J<|?_;refine iI 16 3 J ?_;exact at_ (k+1) ⟨(by omega),(by omega)⟩
 .
  have hS:v.take k=v:=aU (by omega);refine ki 3 J ?_;exact rz J (by rw[hS];rfl)


def W5:List ZP:=[(0,0),(1,0),(0,1)]
structure UX (GB:Gh) (ai al ae au ar:Addr):Prop extends Jw GB ai al ae au where
 ErrEmpty:GB 4=some [.iface 499 (.pointer (some ae))]
 ErrRange:GB 2=some [.iface 499 (.pointer (some ar))]
def Jn(r:List aa)(j:Nat):Nat->aa
 |0=>(((r.getD 0 ⟨0,0⟩).add (r.getD 1 ⟨0,0⟩)).add (r.getD 2 ⟨0,0⟩)).scale (((1:Int):Rat)/((3:Int):Rat))
 |k+1=>((Jn r j k).add (r.getD j ⟨0,0⟩)).scale (((1:Int):Rat)/((2:Int):Rat))
def UO(ts:List (List aa))(i:Nat):aa:=Jn (ts.getD (i%ts.length) []) (i%3) (i/ts.length)
theorem aA.mono{p:aa}{i j:Nat}(h:aA p i)(hj:i<=j):aA p j:=⟨h.x.mono hj,h.y.mono hj⟩
structure TO (cs:List bO) (b:Nat):Prop where
 lb: ∀c∈cs,∀s∈c,LB s.l
 sh: ∀c∈cs,c.length<=100000
 ln:cs.length<=1000000
 pt: ∀x∈mr (l9 cs),aA x.1 b/\aA x.2 b
def Gw(x:aa×aa):aa:=(x.1.add x.2).scale (x.1.cross x.2)
def Ir{α:Type}(f:α->aa)(l:List α):aa:=⟨kn (fun x=>(f x).x) l,kn (fun x=>(f x).y) l⟩
def FQ{n:Int}{d:Nat}(hn:n.natAbs<=1000)(hd:0<d)(hd1:d<=1000):PF GB prog 64 [vI n, .v (.int .i64 (d:Nat))] (eQ (mkRat n d)):=by
 haveI:BI n 10:=Ib (by omega);haveI:BN d 10:=⟨by omega⟩;refine fn func64 J J ntmps64 J J (fun C=>?_);refine cl J (Ej (n:=n) (by omega) (by omega)) J<|cl J (n8 (u:=d) (by omega)) J<|cl J (tV (x:=n) (d:=d) hd) J<|?_;exact rz J J
def qF(es:List Int)(a:Nat):Rat×Nat:=
 (if((aq es 6 (aq es 9 a).2).1:Int)=0 then mkRat (2*(((aq es 9 a).1:Int)-4)+1) 2 else if((aq es 6 (aq es 9 a).2).1:Int)=1 then mkRat (3*(((aq es 9 a).1:Int)-4)+1) 3 else(((aq es 9 a).1:Rat)-4:Rat),(aq es 6 (aq es 9 a).2).2)
theorem yk{es:List Int}{a:Nat}(ha:a<=es.length):BQ (qF es a).1 12/\(qF es a).2<=es.length:=by
 have h1:=gG (es:=es) (n:=9) (a:=a) (by decide);refine⟨?_,fw (fw ha)⟩;unfold qF;dsimp only;split
 ·exact qj (by decide) (by omega) (by decide)
 ·split
  ·exact qj (by decide) (by omega) (by decide)
  ·haveI:BI (((aq es 9 a).1:Int)-4:Int) 11:=Ib (by omega)
   have e:((((aq es 9 a).1:Rat)-4):Rat)=((((aq es 9 a).1:Int)-4:Int):Rat):=by rw[qZ];rfl
   rw[e];exact inferInstance
def ma(es:List Int)(a:Nat):aa×Nat:=(⟨(qF es a).1,(qF es (qF es a).2).1⟩,(qF es (qF es a).2).2)
theorem OQ{es:List Int}{a:Nat}(ha:a<=es.length):aA (ma es a).1 1200/\(ma es a).2<=es.length:=by
 obtain⟨h1,h2⟩:=yk ha;obtain⟨h3,h4⟩:=yk h2;exact⟨⟨h1.mono (by decide),h3.mono (by decide)⟩,h4⟩
def q9(z:Nat):(z:Rat)-4=(((z:Int)-4:Int):Rat):=by rw[qZ];rfl
def t7:ah:=⟨1,0,0⟩
def VF(es:List Int)(L:List ah)(a:Nat):aa×Nat:=
 if L.length=0 then ma es a else
 if((aq es 3 (aq es L.length a).2).1:Int)=0 then
  (if crossI (L.getD (aq es L.length a).1 t7) (L.getD (aq es L.length (aq es 3 (aq es L.length a).2).2).1 t7)≠0 then(lI (L.getD (aq es L.length a).1 t7) (L.getD (aq es L.length (aq es 3 (aq es L.length a).2).2).1 t7),(aq es L.length (aq es 3 (aq es L.length a).2).2).2) else ma es (aq es L.length (aq es 3 (aq es L.length a).2).2).2)
 else if((aq es 3 (aq es L.length a).2).1:Int)=1 then((L.getD (aq es L.length a).1 t7).at (qF es (aq es 3 (aq es L.length a).2).2).1,(qF es (aq es 3 (aq es L.length a).2).2).2) else ma es (aq es 3 (aq es L.length a).2).2
def Je{b:Nat}{es:List Int}(hes:es.length<=400){a:Nat}(ha:a<=es.length):PM GB prog 72 (f9 [none] b) b 126 [.sl (es.map vI), .v (.int .i64 (a:Nat))] (eQ (qF es a).1) [.sl (es.map vI), .v (.int .i64 ((qF es a).2:Nat))]:=by
 have h1:=gG (es:=es) (n:=9) (a:=a) (by decide);refine qc func72 J J ntmps72 J J (fun C b m lo hmb=>?_);refine cm J (fun b=>(lc (n:=9) hes ha (by decide) (by decide))) J<|cm J (fun b=>(lc (n:=6) hes (fw ha) (by decide) (by decide))) J<|?_;refine br J J J (fun hc9=>?_) (fun hc9=>?_)
 .
  refine cl J (FQ (n:=2*(((aq es 9 a).1:Int)-4)+1) (d:=2) (by omega) (by decide) (by decide)) J<|?_;exact gO hmb J J (by unfold qF;dsimp only;rw[if_pos hc9];rfl) J
 .
  refine br J J J (fun hc15=>?_) (fun hc15=>?_)
  .
   refine cl J (FQ (n:=3*(((aq es 9 a).1:Int)-4)+1) (d:=3) (by omega) (by decide) (by decide)) J<|?_;exact gO hmb J J (by unfold qF;dsimp only;rw[if_neg hc9,if_pos hc15];rfl) J
  .
   refine cl J (te (n:=(((aq es 9 a).1:Int)-4)) (by omega) (by omega)) J<|?_;exact gO hmb J J (by unfold qF;dsimp only;rw[if_neg hc9,if_neg hc15,q9];rfl) J
def SE{b:Nat}{es:List Int}(hes:es.length<=400){a:Nat}(ha:a<=es.length):PM GB prog 36 (f9 [none] b) b 126 [.sl (es.map vI), .v (.int .i64 (a:Nat))] (eP (ma es a).1) [.sl (es.map vI), .v (.int .i64 ((ma es a).2:Nat))]:=by
 refine qc func36 J J ntmps36 J J (fun C b m lo hmb=>?_);refine cm J (fun b=>(Je hes ha)) J<|cm J (fun b=>(Je hes (yk ha).2)) J<|?_;exact gO hmb J J J J

structure Wg (GB:Gh) (ai al ae au:Addr):Prop extends Jw GB ai al ae au where
 ErrEmpty:GB 4=some [.iface 499 (.pointer (some ae))]
def Mb(x:aa×aa):Rat:=(x.1.x*x.1.x+x.2.x*x.2.x+(x.1.add x.2).x*(x.1.add x.2).x)*x.1.cross x.2
def KY(x:aa×aa):Rat:=(x.1.x*x.1.y+x.2.x*x.2.y+(x.1.add x.2).x*(x.1.add x.2).y)*x.1.cross x.2
def Lr(x:aa×aa):Rat:=(x.1.y*x.1.y+x.2.y*x.2.y+(x.1.add x.2).y*(x.1.add x.2).y)*x.1.cross x.2
structure Vk (cs:List bO):Prop where
 ed:TO cs 1200
 cr: ∀x∈mr (l9 cs),BQ (x.1.cross x.2) 5000
 ar: ∀k,BQ (kn (fun x=>x.1.cross x.2) ((mr (l9 cs)).take k)) 2000000
 mo: ∀k,aA (Ir Gw ((mr (l9 cs)).take k)) 3000000
 sa: ∀k,BQ (kn Mb ((mr (l9 cs)).take k)) 4000000
 sb: ∀k,BQ (kn KY ((mr (l9 cs)).take k)) 4000000
 sc: ∀k,BQ (kn Lr ((mr (l9 cs)).take k)) 4000000
def VE(t:Tr):Rat:=kn (fun x=>x.1.cross x.2) (mr (l9 (Cn t)))*mkRat 1 2
def WM(t:Tr):aa:=(Ir Gw (mr (l9 (Cn t)))).scale (((1:Int):Rat)/((6:Int):Rat))
def UU:DV:= .ag [vB false, .sl [], .sl []]
def Vz:DV:= .ag [vB false, .sl [], .sl [],vB false, .sl [], .sl []]
def M9:Rat:=((1:Int):Rat)/((24:Int):Rat)
def V1(f:aa×aa->Rat)(t:Tr):Rat:=kn f (mr (l9 (Cn t)))*M9
structure DQ (D B:Nat) (x:Rat):Prop where
 ex: ∃n:Int,x*((D:Nat):Rat)=(n:Rat)/\n.natAbs<=B*D
def P1(l m:ah):Nat:=if crossI l m=0 then 1 else(crossI l m).natAbs
def Sg(K:List ah):List Nat:=K.flatMap fun l=>K.map (P1 l)
def WV(K:List ah):Nat:=(Sg K).foldr (· * ·) 1
structure DP (D B:Nat) (p:aa):Prop where
 x:DQ D B p.x
 y:DQ D B p.y

def eM(a b c d e f:Rat):DV:= .ag [(.v (.bool (decide ((a).num<0)))),(dN (a).num.natAbs),(dD (a).den),(.v (.bool (decide ((b).num<0)))),(dN (b).num.natAbs),(dD (b).den),(.v (.bool (decide ((c).num<0)))),(dN (c).num.natAbs),(dD (c).den),(.v (.bool (decide ((d).num<0)))),(dN (d).num.natAbs),(dD (d).den),(.v (.bool (decide ((e).num<0)))),(dN (e).num.natAbs),(dD (e).den),(.v (.bool (decide ((f).num<0)))),(dN (f).num.natAbs),(dD (f).den)]
def UN:List DV:=[.v (.bool (decide ((0:Rat).num<0))),dN (0:Rat).num.natAbs,dD (0:Rat).den]

def EB{C:az}{n:Nat}{Q0:Exit->Act->World->Prop}{fr fr':ao}{own own':aB}{cf cf':Cf}{vc:List Prop}[fu:Fu]{f:FuncId}{ds:List DV}(ha:rZ fr cf=some (f,ds))(hF:PF GB prog f ds (.v (.bool true)))(hgo:bF tt n fu.n fr own cf .tt [] []=⟨vc,fr',own',cf'⟩)(k:aj prog GB C n Q0 fr' own' cf')
  (hv:ab vc:=by first|exact trivial|(simp only[ab];kernel_rfl)|(simp only[ab];omega)):aj prog GB C n Q0 fr own cf:=by
 unfold rZ at ha;split at ha<;>try (cases ha;done)
 rename_i hh;exact us hh (bm.to (g:= .tt) (Bm ha hF) fun ρ G y hy=>(ba (G:=G)).1 hy) hgo hv k
def Lf:List ZP:=[(0,0),(2,0),(2,2),(0,2)]
def VV:Tr:=uW [Lf] 2



def Uh(M:List ah)(E:List (aa×aa)):Prop:= ∀f∈E,∃m∈M,m.value f.1=0/\m.value f.2=0
section
variable {rs:List (List ZP)} {fill:Int} {p:aa}
def Wx(rs:List (List ZP))(fill:Int)(p:aa)(b:Bool):Prop:= ∃x,MH (ER rs) p x/\KG rs fill p x b
end
section
variable {rs:List (List ZP)} {fill:Int} {L:List ah} {p:aa}
end
def lA(v:bi)(t:Rat):Bool:=(v.nl||decide (bv v.lo t<=0))&&(v.nh||decide (0<=bv v.hi t))
def S2{v:bi}{t:Rat}:lA v t=true↔v.has t:=by
 unfold lA bi.has;simp only[bJ,gX,decide_eq_true_eq,BC,S1]
def gv(f:bg)(p:aa):Bool:=decide (Int.sign (f.l.value p).num=0)&&lA f.v (de f.l p)
def DA{f:bg}{p:aa}:gv f p=true↔f.l.value p=0/\f.v.has (de f.l p):=by
 unfold gv;rw[bJ,decide_eq_true_eq,q7,S2]
def Lt{a b:Rat}(h:b≠0):a/b*b=a:=by grind
def Fv{v w:ZP}(h:v≠w)(ho:(b6 v w).l.ok){x:aa}:gv (b6 v w) x=true↔nF v.q w.q x:=by
 obtain⟨e1,e2,e3⟩:=FS h ho;have hv: ∀t,(b6 v w).v.has t↔(b6 v w).v.lo<=t/\t<=(b6 v w).v.hi:=fun t=>by
  unfold bi.has b6;simp
 rw[DA,hv];generalize (b6 v w).v.lo=lo at*;generalize (b6 v w).v.hi=hi at*;generalize (b6 v w).l=l at*;constructor
 ·rintro ⟨hz,h1,h2⟩
  have ex:=xy ho.ne hz;generalize de l x=t at*;have e:(t-lo)/(hi-lo)*(hi-lo)=t-lo:=Lt (by grind);refine⟨(t-lo)/(hi-lo),(FT (k:=hi-lo) (by grind)).1 (by rw[e];grind),?_,?_⟩
  ·have:=(FT (s:=1-(t-lo)/(hi-lo)) (k:=hi-lo) (by grind)).1 (by
    have e4:(1-(t-lo)/(hi-lo))*(hi-lo)=(hi-lo)-(t-lo)/(hi-lo)*(hi-lo):=by generalize (t-lo)/(hi-lo)=q;grind
    rw[e4,e];grind)
   grind
  ·rw[<-e1,<-e2,J8,<-ex]
   congr 1;rw[e];grind
 ·rintro ⟨s,s0,s1,rfl⟩
  rw[<-e1,<-e2,J8];rw[CS ho.ne];have:=mA s0 (show 0<=hi-lo by grind);have:=mA (show 0<=1-s by grind) (show 0<=hi-lo by grind);exact⟨OS ho.ne _,by grind,by grind⟩
def l7(f:bg)(p:aa):Int:=
 if Int.sign f.l.dir.y.num=0\/Int.sign (f.l.value p).num≠Int.sign f.l.dir.y.num then 0
 else if(if Int.sign f.l.dir.y.num<0 then f.v.nh=false/\0<bv (f.l.at f.v.hi).y p.y else f.v.nl=false/\0<bv (f.l.at f.v.lo).y p.y) then 0
 else if(if Int.sign f.l.dir.y.num<0 then f.v.nl=false/\bv (f.l.at f.v.lo).y p.y<=0 else f.v.nh=false/\bv (f.l.at f.v.hi).y p.y<=0) then 0
 else Int.sign f.l.dir.y.num
def ef(E:List bg)(p:aa):Int:=E.foldl (fun n f=>n+l7 f p) 0
def Mk{v w:ZP}(h:v≠w)(p:aa): ∃g:Rat,0<g/\ek v.q w.q p=g*(b6 v w).l.value p/\w.q.y-v.q.y=g*(b6 v w).l.dir.y:=by
 obtain⟨g,g0,h1,h2,h3⟩:=Ia h;refine⟨g,g0,?_,by rw[h3];unfold dx;show _=g*(f5 v.1 v.2 w.1 w.2).dir.y;dsimp only;grind⟩;show _=g*(f5 v.1 v.2 w.1 w.2).value p;rw[h3];generalize f5 v.1 v.2 w.1 w.2=l at*;rw[nC] at*;unfold ek dx ah.dir;dsimp only;grind
def P9{v w:ZP}(h:v≠w)(ho:(b6 v w).l.ok)(p:aa):l7 (b6 v w) p=oB v.q w.q p:=by
 obtain⟨e1,e2,e3⟩:=FS h ho;obtain⟨g,g0,o1,o2⟩:=Mk h p;have b1:(b6 v w).v.nl=false:=J;have b2:(b6 v w).v.nh=false:=J;have so:(0<ek v.q w.q p↔0<(b6 v w).l.value p)/\(ek v.q w.q p<0↔(b6 v w).l.value p<0):=by
  rw[o1];constructor
  ·rw[Rat.mul_comm];exact ol g0
  ·have:=ol (s:= -(b6 v w).l.value p) g0
   grind
 have sy:(v.q.y<w.q.y↔0<(b6 v w).l.dir.y)/\(w.q.y<v.q.y↔(b6 v w).l.dir.y<0):=by
  have t1:=ol (s:=(b6 v w).l.dir.y) g0;have t2:=ol (s:= -(b6 v w).l.dir.y) g0;constructor<;>grind
 unfold l7;rw[b1,b2,e1,e2];simp only[true_and,BC,HF];generalize (b6 v w).l.value p=z at*;generalize (b6 v w).l.dir.y=u at*;unfold oB;rcases Fc u with k|k|k
 ·rw[if_pos (.inl ((q7 _).2 k))]
  have: ¬(v.q.y<=p.y/\ ¬w.q.y<=p.y/\0<ek v.q w.q p):=fun q=>by grind
  have: ¬(¬v.q.y<=p.y/\w.q.y<=p.y/\ek v.q w.q p<0):=fun q=>by grind
  rw[if_neg ‹_›,if_neg ‹_›];rfl
 ·have su:Int.sign u.num=1:=(vM _).2 k
  rw[su];have n2: ¬(¬v.q.y<=p.y/\w.q.y<=p.y/\ek v.q w.q p<0):=fun q=>by grind
  rw[if_neg n2];simp only[show¬((1:Int)<0) by decide,if_false,show¬((1:Int)=0) by decide,false_or];by_cases hz:0<z
  ·rw[if_neg (by rw[(vM _).2 hz];simp)]
   by_cases a1:v.q.y<=p.y
   ·rw[if_neg (by grind)]
    by_cases a2:w.q.y<=p.y
    ·rw[if_pos a2,if_neg (by grind)];rfl
    ·rw[if_neg a2,if_pos ⟨a1,a2,so.1.2 hz⟩];rfl
   ·rw[if_pos (by grind),if_neg (by grind)];rfl
  ·rw[if_pos (fun q=>hz ((vM _).1 q)),if_neg (by grind)];rfl
 ·have su:Int.sign u.num= -1:=IH k
  rw[su];have n2: ¬(v.q.y<=p.y/\ ¬w.q.y<=p.y/\0<ek v.q w.q p):=fun q=>by grind
  rw[if_neg n2];simp only[show(-1:Int)<0 by decide,if_true,show¬((-1:Int)=0) by decide,false_or];by_cases hz:z<0
  ·rw[if_neg (by rw[IH hz];simp)]
   by_cases a1:w.q.y<=p.y
   ·rw[if_neg (by grind)]
    by_cases a2:v.q.y<=p.y
    ·rw[if_pos a2,if_neg (by grind)];rfl
    ·rw[if_neg a2,if_pos ⟨a2,a1,so.2.2 hz⟩];rfl
   ·rw[if_pos (by grind),if_neg (by grind)];rfl
  ·rw[if_pos (fun q=>hz (by
    have h4:Int.sign z.num<0:=by rw[q];decide
    exact(sf _).1 h4)),if_neg (by grind)];rfl
def wJ{α:Type}(f:α->Int): ∀(l:List α) (n:Int),l.foldl (fun n x=>n+f x) n=n+l.foldl (fun n x=>n+f x) 0
 |[],n=>by simp
 |a::t,n=>by
  rw[gN,gN,wJ f t (n+f a),wJ f t (0+f a)];omega
def yg(E F:List bg)(p:aa):ef (E++F) p=ef E p+ef F p:=by
 unfold ef;rw[mS,wJ]
def Qs{r:List ZP}(hr:dB r)(p:aa):ef (il r) p=fI r p:=by
 have key: ∀k,k<=r.length->ef (iB r k) p=pG r p k:=by
  intro k
  induction k with
  |zero=>intro _;rfl
  |succ k ih=>
   intro hk;have hm:=B7 (r:=r) (k:=k) (n:=r.length) (by omega);have ho:=((rp hr).2 _ hm).ok;rw[iB,yg,ih (by omega),tB,tB,lh];have e:ef [b6 (r.getD k (0,0)) (d4 r k)] p=l7 (b6 (r.getD k (0,0)) (d4 r k)) p:=by unfold ef;simp
   rw[e,P9 (hr.ne k (by omega)) ho]
 exact key r.length (aR _)
def Bu: ∀{rs:List (List ZP)},(∀r∈rs,dB r)-> ∀p,ef (c6 rs) p=rs.foldl (fun n r=>n+fI r p) 0
 |[],_,p=>rfl
 |r::rs,h,p=>by
  have e:c6 (r::rs)=il r++c6 rs:=J;rw[e,yg,Qs (h r aQ),Bu fun q hq=>h q (aV _ hq),gN,wJ _ rs (0+fI r p)];omega
def Gm(f:bg)(p:aa):Bool:=f.v.nh||decide (bv (de f.l p) f.v.hi<0)
def Dc(f:bg)(p:aa):Bool:=f.v.nl||decide (0<bv (de f.l p) f.v.lo)
def fq(p:aa)(f:bg):List aa:=if gv f p then(if Gm f p then [ck f.l.dir] else [])++(if Dc f p then [dw (ck f.l.dir)] else []) else []
def jq(E:List bg)(p:aa):List aa:=ld (E.flatMap (fq p))
def pp(p d q:aa):Rat:=(⟨q.x-p.x,q.y-p.y⟩:aa).dot d/d.dot d
def sO(a b:Rat):Rat×Bool:=
 if 0<Int.sign b.num/\(¬0<Int.sign a.num\/bv b a<0) then(b,true) else if 0<Int.sign a.num then(a,true) else(0,false)
def ir(f:bg)(p d:aa):Rat×Bool:=
 if f.l.nor.dot d=0 then(if f.l.value p=0 then sO (pp p d (f.l.at f.v.lo)) (pp p d (f.l.at f.v.hi)) else(0,false))
 else(-(f.l.value p/f.l.nor.dot d),decide (0<Int.sign (-(f.l.value p/f.l.nor.dot d)).num)&&lA f.v (de f.l (dx p d (-(f.l.value p/f.l.nor.dot d)))))
def j0(p d:aa)(s:Rat)(f:bg):Rat:=if gv f p then s else if(ir f p d).2 then(if(ir f p d).1<s then(ir f p d).1 else s) else s
def kO(E:List bg)(p d:aa):aa:=dx p d (E.foldl (j0 p d) 1*mkRat 1 2)
def uL(E:List bg)(p:aa)(acc:aa->Bool):Int:=
 if((gk (jq E p)).any fun v=>acc (kO E p v))&&(gk (jq E p)).all (fun v=>acc (kO E p v)) then 2 else if(gk (jq E p)).any fun v=>acc (kO E p v) then 1 else 0
def Rs{rs:List (List ZP)}(hr: ∀r∈rs,dB r){f:aa×aa}(hf:f∈ER rs): ∃v w:ZP,v≠w/\(b6 v w).l.ok/\b6 v w∈c6 rs/\f=(v.q,w.q):=by
 obtain⟨r,h1,h2⟩:=iJ.1 hf;obtain⟨k,hk,rfl⟩:=bT.1 h2;have hk':=kL.1 hk;have hm:=B7 (r:=r) (k:=k) (n:=r.length) hk';exact⟨_,_,(hr r h1).ne k hk',((rp (hr r h1)).2 _ hm).ok,iJ.2 ⟨r,h1,hm⟩,J⟩
def BD{r:List ZP}: ∀{n:Nat} {f:bg},f∈iB r n-> ∃k,k<n/\f=b6 (r.getD k (0,0)) (d4 r k)
 |0,f,h=>by simp[iB] at h
 |n+1,f,h=>by
  rw[iB] at h;rcases cL.1 h with h|h
  ·obtain⟨k,h1,h2⟩:=BD h
   exact⟨k,by omega,h2⟩
  ·exact⟨n,by omega,aL.1 h⟩
def Lz{rs:List (List ZP)}(hr: ∀r∈rs,dB r){f:bg}(hf:f∈c6 rs): ∃v w:ZP,v≠w/\(b6 v w).l.ok/\f=b6 v w/\(v.q,w.q)∈ER rs:=by
 obtain⟨r,h1,h2⟩:=iJ.1 hf;have ho:=((rp (hr r h1)).2 _ h2).ok;obtain⟨k,hk,rfl⟩:=BD h2;exact⟨_,_,(hr r h1).ne k hk,ho,J,iJ.2 ⟨r,h1,bT.2 ⟨k,kL.2 hk,J⟩⟩⟩
def Ba{f:bg}{p d:aa}(h:d∈fq p f):f.l.value p=0/\(d=ck f.l.dir\/d=dw (ck f.l.dir)):=by
 unfold fq at h;split at h
 ·rename_i k
  refine⟨(DA.1 k).1,?_⟩;rcases cL.1 h with h|h
  ·split at h
   ·exact .inl (aL.1 h)
   ·cases h
  ·split at h
   ·exact .inr (aL.1 h)
   ·cases h
 ·cases h
def FM{E:List bg}(hE: ∀f∈E,f.l.ok)(p:aa): ∀x∈E.flatMap (fq p),∀y∈E.flatMap (fq p),ce x y=0->x=y:=fun x hx y hy h=>by
 obtain⟨f,k1,k2⟩:=iJ.1 hx;obtain⟨g,k3,k4⟩:=iJ.1 hy;obtain⟨a1,a2⟩:=Ba k2;obtain⟨b1,b2⟩:=Ba k4;exact KO (hE f k1) (hE g k3) a1 b1 a2 b2 h
def Qn{l:List aa}(ht: ∀x∈l,∀y∈l,ce x y=0->x=y)(y:aa):y∈ld l↔y∈l:=by
 have h2: ∀y,y∈ld l->y∈l:=fun y hy=>by
  rcases wT ce hy with h|h
  ·exact h
  ·cases h
 refine⟨h2 y,fun hy=>?_⟩;obtain⟨e,e1,e2⟩:=Ad ce (o:=[]) hy;rcases e2 with rfl|e2
 ·exact e1
 ·rw[<-ht e (h2 e e1) y hy e2];exact e1
section
variable {rs:List (List ZP)} {fill:Int} {p:aa}
end
def FC{p q:aa}{i:Nat}[hp:aA p i][hq:aA q i](hi:i<=1000000:=by decide):PF GB prog 192 [eZ p,eZ q] (vB (decide (p.x=q.x/\p.y=q.y))):=by
 refine fn func192 J J ntmps192 J J (fun C=>?_);refine cl J (EM (p:=p.x) (q:=q.x) (i:=i) (j:=i) (by omega) (by omega)) J<|?_;refine csd 10 J J J (fun hg10=>?_) (fun hg10=>?_)
 .
  refine cl J (EM (p:=p.y) (q:=q.y) (i:=i) (j:=i) (by omega) (by omega)) J<|?_;exact rz J (by show DV.v (.bool _)= .v (.bool _);simp_all)
 .
  exact rz J (by show DV.v (.bool _)= .v (.bool _);simp_all)
def Aq{p q:aa}{i j:Nat}[hp:aA p i][hq:aA q j](hi:i<=10000000:=by decide)(hj:j<=10000000:=by decide):PF GB prog 241 [eZ p,eZ q] (eZ ⟨p.x-q.x,p.y-q.y⟩):=by
 refine fn func241 J J ntmps241 J J (fun C=>?_);refine cl J (rL (p:=p.x) (q:=q.x) (i:=i) (j:=j) (by omega) (by omega)) J<|cl J (rL (p:=p.y) (q:=q.y) (i:=i) (j:=j) (by omega) (by omega)) J<|?_;exact rz J J
def tP{l:ah}{p:aa}{i:Nat}[hl:LB l][hp:aA p i](hi:i<=1000000:=by decide):PF GB prog 254 [ly l,eZ p] (eF (de l p)):=by
 refine fn func254 J J ntmps254 J J (fun C=>?_);refine cl J (vx (l:=l)) J<|cl (fu:=⟨0⟩) J (l8 (p:=l.dir) (q:=p) (i:=97) (j:=i) (by decide) (by omega)) J<|?_;refine ak 10 (.d (eF (p.dot l.dir))) J (by rw[show l.dir.dot p=p.dot l.dir by unfold aa.dot;grind]) ?_;refine gx J<|cl J (l8 (p:=l.dir) (q:=l.dir) (i:=97) (j:=97) (by decide) (by decide)) J<|cl J (uB (p:=p.dot l.dir) (q:=l.dir.dot l.dir) (i:=i+97+(i+97)+1) (j:=97+97+(97+97)+1) (by omega) (by decide)) J<|?_;exact rz J J
def DK{v:bi}{t:Rat}{i:Nat}[h1:BQ v.lo i][h2:BQ v.hi i][h3:BQ t i](hi:i<=1000000:=by decide):PF GB prog 323 [eW v,eF t] (vB (lA v t)):=by
 refine fn func323 J J ntmps323 J J (fun C=>?_);refine jP 7 J J J (fun hg7=>?_) (fun hg7=>?_)
 .
  refine jP 17 J J J (fun hg17=>?_) (fun hg17=>?_)
  .
   exact rz J (by show DV.v (.bool _)= .v (.bool _);unfold lA;simp_all<;>(intros;omega))
  .
   refine cl J (ja (p:=v.hi) (q:=t) (i:=i) (j:=i) (by omega) (by omega)) J<|?_;exact rz J (by show DV.v (.bool _)= .v (.bool _);unfold lA;simp_all<;>(intros;omega))
 .
  refine cl J (ja (p:=v.lo) (q:=t) (i:=i) (j:=i) (by omega) (by omega)) J<|?_;refine cs 14 J J J (fun hg14=>?_) (fun hg14=>?_)
  .
   refine jP 17 J J J (fun hg17=>?_) (fun hg17=>?_)
   .
    exact rz J (by show DV.v (.bool _)= .v (.bool _);unfold lA;simp_all<;>(intros;omega))
   .
    refine cl J (ja (p:=v.hi) (q:=t) (i:=i) (j:=i) (by omega) (by omega)) J<|?_;exact rz J (by show DV.v (.bool _)= .v (.bool _);unfold lA;simp_all<;>(intros;omega))
  .
   exact rz J (by show DV.v (.bool _)= .v (.bool _);unfold lA;simp_all<;>(intros;omega))
def NK{G:Gh}{q:Rat}{y:Value}(h: ¬dF q)(hy:Is G (cF q) y):y= .pointer none:=by
 unfold cF at hy;rw[decide_eq_false h] at hy;rcases qg.1 hy with⟨_,e⟩|⟨e,_⟩
 ·exact e
 ·cases e
def P6{G:Gh}{q:Rat}(h: ¬dF q):Is G (cF q) (.pointer none):=by
 unfold cF;rw[decide_eq_false h];exact qg.2 (.inl ⟨J,J⟩)
def xF(q:Rat):List Value:=[.int .i64 (c7 q), .int .i64 (c8 q), .pointer none]
def rX{G:Gh}{q:Rat}{t:List DV}{m:List Value}(h: ¬dF q)(hm:IsLs G (vI (c7 q)::vI (c8 q)::cF q::t) m): ∃n,m=xF q++n/\IsLs G t n:=by
 obtain⟨y1,m1,rfl,h1,hm1⟩:=bE.1 hm;obtain⟨y2,m2,rfl,h2,hm2⟩:=bE.1 hm1;obtain⟨y3,m3,rfl,h3,hm3⟩:=bE.1 hm2;obtain rfl:=ba.1 h1;obtain rfl:=ba.1 h2;obtain rfl:=NK h h3;exact⟨m3,J,hm3⟩
def sI{G:Gh}{q:Rat}{t:List DV}{n:List Value}(h: ¬dF q)(k:IsLs G t n):IsLs G (vI (c7 q)::vI (c8 q)::cF q::t) (xF q++n):= .cons (ba.2 J) (.cons (ba.2 J) (.cons (P6 h) k))
def rV(q:Rat):Value:= .agg ⟨xF q⟩
def Sf{G:Gh}{q:Rat}{y:Value}(h: ¬dF q)(hy:Is G (eF q) y):y=rV q:=by
 obtain⟨m,rfl,hm⟩:=dP.1 hy;obtain⟨n,rfl,hn⟩:=rX h hm;rw[cb.1 hn];rfl
def QJ{G:Gh}{q:Rat}(h: ¬dF q):Is G (eF q) (rV q):=dP.2 ⟨_,J,sI h (cb.2 J)⟩
structure AL (f:bg):Prop where
 a: ¬dF (f.l.a:Rat)
 b: ¬dF (f.l.b:Rat)
 c: ¬dF (f.l.c:Rat)
 lo: ¬dF f.v.lo
 hi: ¬dF f.v.hi
def oF(f:bg):Value:= .agg ⟨xF f.l.a++(xF f.l.b++(xF f.l.c++(xF f.v.lo++(xF f.v.hi++[.bool f.v.nl, .bool f.v.nh]))))⟩
def sJ{G:Gh}{f:bg}{y:Value}(h:AL f)(hy:Is G (bP f) y):y=oF f:=by
 obtain⟨m0,rfl,k0⟩:=dP.1 hy;obtain⟨m1,rfl,k1⟩:=rX h.a k0;obtain⟨m2,rfl,k2⟩:=rX h.b k1;obtain⟨m3,rfl,k3⟩:=rX h.c k2;obtain⟨m4,rfl,k4⟩:=rX h.lo k3;obtain⟨m5,rfl,k5⟩:=rX h.hi k4;obtain⟨y1,m6,rfl,h1,k6⟩:=bE.1 k5;obtain⟨y2,m7,rfl,h2,k7⟩:=bE.1 k6;obtain rfl:=ba.1 h1;obtain rfl:=ba.1 h2;obtain rfl:=cb.1 k7;rfl
def sT{G:Gh}{f:bg}(h:AL f):Is G (bP f) (oF f):=dP.2 ⟨_,J,sI h.a (sI h.b (sI h.c (sI h.lo (sI h.hi (.cons (ba.2 J) (.cons (ba.2 J) (cb.2 J)))))))⟩
structure FE (f:bg):Prop where
 fo:tK f
 sm:AL f
 nl:f.v.nl=false
 nh:f.v.nh=false
theorem vJ{l:ah}{p:aa}{i:Nat}(hl:LB l)[hp:aA p i]:BQ (de l p) (2*i+600):=by
 haveI:=hl;have h:BQ (p.dot l.dir/l.dir.dot l.dir) (i+97+(i+97)+1+(97+97+(97+97)+1)):=inferInstance;exact BQ.mono (show BQ (de l p) _ from h) (by omega)
def A0{f:bg}(hf:FE f){p:aa}{i:Nat}[hp:aA p i](hi:i<=100000:=by decide):PF GB prog 226 [bP f,eZ p] (vB (gv f p)):=by
 haveI:=hf.fo.lb;haveI:=hf.fo.lo;haveI:=hf.fo.hi;haveI:=vJ (p:=p) (i:=i) hf.fo.lb;haveI:BQ f.v.lo (2*i+1800):=hf.fo.lo.mono (by omega);haveI:BQ f.v.hi (2*i+1800):=hf.fo.hi.mono (by omega);haveI:BQ (de f.l p) (2*i+1800):=(vJ (p:=p) (i:=i) hf.fo.lb).mono (by omega);refine fn func226 J J ntmps226 J J (fun C=>?_);refine cl (fu:=⟨0⟩) J (yj (l:=f.l) (p:=p) (i:=i) (by omega)) J<|?_;refine r8 (v2:=fun hg9=>by simp only[ab];kernel_rfl) J J J J (fun hg9=>?_) (fun hg9=>?_)
 .
  refine cl J (tP (l:=f.l) (p:=p) (i:=i) (by omega)) J<|cl J (DK (v:=f.v) (t:=de f.l p) (i:=2*i+1800) (by omega)) J<|?_;exact rz J (by show DV.v (.bool _)= .v (.bool _);unfold gv;simp_all)
 .
  exact rz J (by show DV.v (.bool _)= .v (.bool _);unfold gv;simp_all)
def BA{f:bg}(hf:FE f):PF GB prog 260 [bP f] (.tp [eZ (f.l.at f.v.lo),vB true]):=by
 haveI:=hf.fo.lb;haveI:=hf.fo.lo;haveI:=hf.fo.hi;refine fn (fu:=⟨13⟩) func260 J J ntmps260 J J (fun C=>?_);refine ak 6 (.d (vB false)) J (by rw[hf.nl]<;>rfl) ?_;refine sL 6 J ?_;refine gx J<|cl J (FB (l:=f.l) (t:=f.v.lo) (i:=1200)) J<|?_;exact rz J J
def BY{f:bg}(hf:FE f):PF GB prog 261 [bP f] (.tp [eZ (f.l.at f.v.hi),vB true]):=by
 haveI:=hf.fo.lb;haveI:=hf.fo.lo;haveI:=hf.fo.hi;refine fn (fu:=⟨13⟩) func261 J J ntmps261 J J (fun C=>?_);refine ak 6 (.d (vB false)) J (by rw[hf.nh]<;>rfl) ?_;refine sL 6 J ?_;refine gx J<|cl J (FB (l:=f.l) (t:=f.v.hi) (i:=1200)) J<|?_;exact rz J J
def Sy{α:Type}{g:α->Bool}{E:List α}{k:Nat}{f:α}(hk:E[k]? =some f)(h:(E.take k).any g=false):(E.take (k+1)).any g=g f:=by
 rw[cM,hk,List.any_append,h];simp
def R6{α:Type}{g:α->Bool}{E:List α}{k:Nat}{f:α}(hk:E[k]? =some f)(h:g f=true):E.any g=true:=lN.2 ⟨f,aS hk,h⟩
def Oa{E:List bg}(hn:E.length<=1000000){f:FuncId}{pv:Value}{dp:DV}(hp:Is GB dp pv){g:bg->Bool}(hF: ∀x∈E,PF GB prog f [bP x,dp] (vB (g x))):PX GB prog 322 [.sl (E.map bP), .v (.func (.func f) ⟨[]⟩ ⟨[pv]⟩)] {j:Int//(0<=j↔E.any g=true)/\ -1<=j/\j<=1000000} (fun j=>vI j.1):=by
 have hml:(E.map bP).length=E.length:=aX ..;refine KV (fu:=⟨10⟩) func322 J J ntmps322 J J (fun C=>?_);refine ak 7 (.d (vI (E.length:Nat))) J (by rw[hml]<;>rfl) ?_;refine gx J<|?_;refine lp (X:=Nat) (fun k=>[(8, .d (vI (k:Nat)))]) (fun k=>[]) (fun k=>k<=E.length/\(E.take k).any g=false) (fun k=>E.length-k) 0 J ⟨bL _,J⟩ (fun _=>J) (fun k hk=>?_);obtain⟨hk,hany⟩:=hk;refine br J J J (fun hc9=>?_) (fun hc9=>?_)
 .
  obtain⟨x,hx⟩: ∃u,E[k]? =some u:=⟨_,aZ (by omega)⟩;refine ix (fu:=⟨1⟩) _ J (d9 hx) J<|oc (ds1:=[]) (ds2:=[dp]) J (cb.2 J) (.cons hp (cb.2 J)) (hF x (aS hx)) J<|?_;refine bb J J J (fun hc16=>?_) (fun hc16=>?_)
  .
   exact Dp ⟨(k:Int),⟨fun _=>R6 hx hc16,fun _=>by omega⟩,by omega,by omega⟩ J J
  .
   exact at_ (k+1) ⟨⟨by omega,by rw[Sy hx hany];simpa using hc16⟩,(by omega)⟩
 .
  obtain rfl:k=E.length:=by omega
  rw[dX] at hany;exact Dp ⟨-1,⟨fun h=>by omega,fun h=>by rw[hany] at h;cases h⟩,by omega,by omega⟩ J J
theorem rN{l:ah}{t:Rat}(hl:LB l)(ht:BQ t 1200):aA (l.at t) 3000:=aA.mono (inferInstance:aA (l.at t) _) (by decide)
def mm{f:bg}(h1:f.v.nl=false)(h2:f.v.nh=false)(p:aa):l7 f p=if Int.sign f.l.dir.y.num=0 then 0 else if Int.sign (f.l.value p).num≠Int.sign f.l.dir.y.num then 0 else
  if Int.sign f.l.dir.y.num<0 then(if 0<bv (f.l.at f.v.hi).y p.y then 0 else if bv (f.l.at f.v.lo).y p.y<=0 then 0 else Int.sign f.l.dir.y.num)
  else(if 0<bv (f.l.at f.v.lo).y p.y then 0 else if bv (f.l.at f.v.hi).y p.y<=0 then 0 else Int.sign f.l.dir.y.num):=by
 unfold l7;rw[h1,h2];generalize Int.sign f.l.dir.y.num=U;generalize Int.sign (f.l.value p).num=S;generalize bv (f.l.at f.v.hi).y p.y=a;generalize bv (f.l.at f.v.lo).y p.y=b;by_cases k:U=0
 ·simp[k]
 ·by_cases k2:S≠U
  ·simp[k2]
  ·rw[if_neg (by simp[k,k2]),if_neg k,if_neg k2]
   by_cases k3:U<0
   ·simp[k3]
   ·simp[k3]
def Jj(f:bg)(p:aa):(l7 f p).natAbs<=1:=by
 unfold l7;have:=NW f.l.dir.y.num
 repeat' split
 all_goals omega
def Dm{E:List bg}{p:aa}{k:Nat}{f:bg}(h:E[k]? =some f):ef (E.take (k+1)) p=ef (E.take k) p+l7 f p:=by
 rw[cM,h];show ef (E.take k++[f]) p=_;rw[yg];unfold ef;simp
def C6(E:List bg)(p:aa): ∀k,(ef (E.take k) p).natAbs<=k
 |0=>by simp[ef]
 |k+1=>by
  have ih:=C6 E p k
  cases h:E[k]? with
  |none=>
   have:E.take (k+1)=E.take k:=by rw[cM,h];simp
   rw[this];omega
  |some f=>
   rw[Dm h];have:=Jj f p;omega
def S5{f:bg}(hf:FE f){p:aa}{i:Nat}[hp:aA p i](hi:i<=100000:=by decide):PF GB prog 169 [bP f,eZ p] (vI (l7 f p)):=by
 haveI:=hf.fo.lb;haveI:=hf.fo.lo;haveI:=hf.fo.hi;haveI:aA (f.l.at f.v.hi) 3000:=rN hf.fo.lb hf.fo.hi;haveI:aA (f.l.at f.v.lo) 3000:=rN hf.fo.lb hf.fo.lo;refine fn func169 J J ntmps169 J J (fun C=>?_);refine cl J (vx (l:=f.l)) J<|cl (fu:=⟨6⟩) J (jv (q:=f.l.dir.y) (i:=97)) J<|?_;rcases Int.lt_or_le (Int.sign f.l.dir.y.num) 0 with hu|hu
 .
  refine gx J<|?_;refine cs 19 J J J (fun hg19=>?_) (fun hg19=>?_)
  .
   exact rz J (by rw[mm hf.nl hf.nh];(repeat' split)<;>first|rfl|(exfalso;omega))
  .
   refine cl J (yj (l:=f.l) (p:=p) (i:=i) (by omega)) J<|?_;refine br (fu2:=⟨5⟩) J J J (fun hc26=>?_) (fun hc26=>?_)
   .
    exact rz J (by rw[mm hf.nl hf.nh];(repeat' split)<;>first|rfl|(exfalso;omega))
   .
    refine sQ (fu:=⟨1⟩) (oF f) J (fun G y hy=>sJ hf.sm hy) J<|sQ (fu:=⟨8⟩) (oF f) J (fun G y hy=>sJ hf.sm hy) J<|mB (fu:=⟨14⟩) J (by show some (decide _)=some true;rw[decide_eq_true (by omega)]) J<|?_;refine oc (fu:=⟨12⟩) (ds1:=[bP f]) (ds2:=[]) J (.cons (sT hf.sm) (cb.2 J)) (cb.2 J) (BY hf) J<|?_;refine kE 41 J ?_;refine gx J<|cl J (ja (i:=3000) (j:=i) (by decide) (by omega)) J<|?_;refine br (fu2:=⟨6⟩) J J J (fun hc48=>?_) (fun hc48=>?_)
    .
     exact rz J (by rw[mm hf.nl hf.nh];(repeat' split)<;>first|rfl|(exfalso;omega))
    .
     refine oc (fu:=⟨12⟩) (ds1:=[bP f]) (ds2:=[]) J (.cons (sT hf.sm) (cb.2 J)) (cb.2 J) (BA hf) J<|?_;refine kE 55 J ?_;refine gx J<|cl J (ja (i:=3000) (j:=i) (by decide) (by omega)) J<|?_;refine br J J J (fun hc62=>?_) (fun hc62=>?_)
     .
      exact rz J (by rw[mm hf.nl hf.nh];(repeat' split)<;>first|rfl|(exfalso;omega))
     .
      exact rz J (by rw[mm hf.nl hf.nh];(repeat' split)<;>first|rfl|(exfalso;omega))
 .
  refine gx J<|?_;refine cs 19 J J J (fun hg19=>?_) (fun hg19=>?_)
  .
   exact rz J (by rw[mm hf.nl hf.nh];(repeat' split)<;>first|rfl|(exfalso;omega))
  .
   refine cl J (yj (l:=f.l) (p:=p) (i:=i) (by omega)) J<|?_;refine br (fu2:=⟨5⟩) J J J (fun hc26=>?_) (fun hc26=>?_)
   .
    exact rz J (by rw[mm hf.nl hf.nh];(repeat' split)<;>first|rfl|(exfalso;omega))
   .
    refine sQ (fu:=⟨1⟩) (oF f) J (fun G y hy=>sJ hf.sm hy) J<|sQ (fu:=⟨8⟩) (oF f) J (fun G y hy=>sJ hf.sm hy) J<|ky (fu:=⟨9⟩) J (by show some (decide _)=some false;rw[decide_eq_false (by omega)]) J<|?_;refine oc (fu:=⟨12⟩) (ds1:=[bP f]) (ds2:=[]) J (.cons (sT hf.sm) (cb.2 J)) (cb.2 J) (BA hf) J<|?_;refine kE 41 J ?_;refine gx J<|cl J (ja (i:=3000) (j:=i) (by decide) (by omega)) J<|?_;refine br (fu2:=⟨6⟩) J J J (fun hc48=>?_) (fun hc48=>?_)
    .
     exact rz J (by rw[mm hf.nl hf.nh];(repeat' split)<;>first|rfl|(exfalso;omega))
    .
     refine oc (fu:=⟨12⟩) (ds1:=[bP f]) (ds2:=[]) J (.cons (sT hf.sm) (cb.2 J)) (cb.2 J) (BY hf) J<|?_;refine kE 55 J ?_;refine gx J<|cl J (ja (i:=3000) (j:=i) (by decide) (by omega)) J<|?_;refine br J J J (fun hc62=>?_) (fun hc62=>?_)
     .
      exact rz J (by rw[mm hf.nl hf.nh];(repeat' split)<;>first|rfl|(exfalso;omega))
     .
      exact rz J (by rw[mm hf.nl hf.nh];(repeat' split)<;>first|rfl|(exfalso;omega))
def F8{E:List bg}(hE: ∀f∈E,FE f)(hn:E.length<=1000000){p:aa}{i:Nat}[hp:aA p i](hi:i<=100000:=by decide):PF GB prog 77 [.sl (E.map bP),eZ p] (vI (ef E p)):=by
 have hml:(E.map bP).length=E.length:=aX ..;refine fn (fu:=⟨16⟩) func77 J J ntmps77 J J (fun C=>?_);refine ak 9 (.d (vI (E.length:Nat))) J (by rw[hml]<;>rfl) ?_;refine gx J<|?_;refine lp (X:=Nat) (fun k=>[(10, .d (vI (k:Nat))),(5, .d (vI (ef (E.take k) p)))]) (fun k=>[]) (fun k=>k<=E.length) (fun k=>E.length-k) 0 J (bL _) (fun _=>J) (fun k hk=>?_);have hw:=C6 E p k;refine br J J J (fun hc11=>?_) (fun hc11=>?_)
 .
  obtain⟨f,hx⟩: ∃u,E[k]? =some u:=⟨_,aZ (by omega)⟩;have hf:=hE f (aS hx);have hcl:=Jj f p;refine ix _ J (d9 hx) J<|cl J (S5 hf (p:=p) (i:=i) hi) J<|?_;refine ak 5 (.d (vI (ef (E.take (k+1)) p))) J (by rw[Dm hx]<;>rfl) ?_;exact at_ (k+1) ⟨(by omega),(by omega)⟩
 .
  obtain rfl:k=E.length:=by omega
  rw[dX];exact rz J J
def P5{f:bg}(hf:FE f){p:aa}{i:Nat}[hp:aA p i](hi:i<=100000:=by decide):PF GB prog 225 [bP f, .pt [vI (c7 p.x),vI (c8 p.x),cF p.x,vI (c7 p.y),vI (c8 p.y),cF p.y]] (vB (gv f p)):=by
 refine fn func225 J J ntmps225 J J (fun C=>?_);refine rm 1 J<|gx J<|cl J (A0 hf (p:=p) (i:=i) hi) J<|?_;exact rz J J
def MU{E:List bg}(hn:E.length<=1000000){f:FuncId}{pv:Value}{dp:DV}(hp:Is GB dp pv){g:bg->Bool}(hF: ∀x∈E,PF GB prog f [bP x,dp] (vB (g x))):PF GB prog 224 [.sl (E.map bP), .v (.func (.func f) ⟨[]⟩ ⟨[pv]⟩)] (vB (E.any g)):=by
 refine fn func224 J J ntmps224 J J (fun C=>?_);refine cx J (Oa hn hp hF) (fun _=>J) (fun⟨j,hj,hj1,hj2⟩=>?_)
 try dsimp only
 exact rz J (by show DV.v (.bool (decide _))= .v (.bool _);congr 2;rw[Bool.eq_iff_iff,decide_eq_true_eq];exact hj)
def H'{E:List bg}(hE: ∀f∈E,FE f)(hn:E.length<=1000000){p:aa}{i:Nat}[hp:aA p i](hi:i<=100000:=by decide):PF GB prog 131 [.sl (E.map bP),eZ p] (vB (E.any fun f=>gv f p)):=by
 refine fn (fu:=⟨9⟩) func131 J J ntmps131 J J (fun C=>?_);refine fz 3 J J ?_;refine sk 3 J (fun GB' pv hg hpv=>?_);refine De J J<|cl J (MU (E:=E) hn hpv (fun f hf=>P5 (hE f hf) (p:=p) (i:=i) hi)) J<|?_;exact rz J J
def kw(v:List aa):List (List DV):=(List.range v.length).map fun i=>[vI (i:Nat),vi (v.getD i ⟨0,0⟩) (v.getD ((i+1)%v.length) ⟨0,0⟩)]
def Em{v:List aa}{i:Nat}{p q:aa}(h1:v[i]? =some p)(h2:v[(i+1)%v.length]? =some q):(kw v)[i]? =some [vI (i:Nat),vi p q]:=by
 have hi:=(bQ.1 h1).1;unfold kw;rw[fR,qX hi,gM,aJ,aJ,h1,h2];rfl
def Ey{v:List aa}{i:Nat}{e:List DV}(h:(kw v)[i]? =some e): ∃p q,v[i]? =some p/\v[(i+1)%v.length]? =some q/\e=[vI (i:Nat),vi p q]:=by
 have hi:i<v.length:=by
  have:=(bQ.1 h).1;unfold kw at this;simpa using this
 have h1:v[i]? =some v[i]:=aZ hi;have hm:(i+1)%v.length<v.length:=cY _ (by omega);have h2:v[(i+1)%v.length]? =some v[(i+1)%v.length]:=aZ hm;refine⟨_,_,h1,h2,?_⟩;rw[Em h1 h2] at h;exact(Option.some.inj h).symm
def JO{v:List aa}: ∀e∈kw v,e.length=2:=fun e he=>by
 obtain⟨i,_,rfl⟩:=bT.1 he;rfl
def Fw{v:List aa}(hn:v.length<=100000):It GB prog 253 [.pt [.sl (v.map eZ)]] (kw v):=by
 have hml:(v.map eZ).length=v.length:=aX ..;have hrl:(kw v).length=v.length:=by unfold kw;simp
 refine TE func253 J J ntmps253 J (fun _=>J) (fun l Jv Jx GB' hg H C hp hJ=>?_);refine rm 1 J<|gx J<|?_;refine ak 6 (.d (vI (v.length:Nat))) J (by rw[hml]<;>rfl) ?_;refine R8 (X:=Nat) (fun k=>[(0, .d (.v (.func (.yield l) #[] #[]))),(1, .ep [.sl (v.map eZ)]),(5, .d (.sl (v.map eZ))),(6, .d (vI (v.length:Nat))),(7, .d (vI (k:Nat)))]) (fun k C=>k<=v.length/\Jv k C.G0 C.w0) (fun k=>v.length-k) 0 hp ⟨bL _,hJ⟩ (fun _=>J) (fun k C1 hp1 hk=>?_);obtain⟨hk1,hJ1⟩:=hk;refine br J J J (fun hc8=>?_) (fun hc8=>?_)
 ·obtain⟨p,hpx⟩: ∃u,v[k]? =some u:=⟨_,aZ (by omega)⟩
  obtain⟨q,hqx⟩: ∃u,v[(k+1)%v.length]? =some u:=⟨_,aZ (cY _ (by omega))⟩;refine ix _ J (d9 hpx) J<|?_;refine ak 20 (.d (vI (((k+1)%v.length:Nat):Int))) J (by rw[hml]<;>rfl) ?_;refine gx J<|ix _ J (d9 hqx) J<|MO (len:=2) (s:=6) (e:=141) J (by kernel_rfl) (by kernel_rfl) J<|?_;refine QP (by kernel_rfl) J ?_;refine cy [(0, .d (.v (.func (.yield l) #[] #[]))),(1, .ep [.sl (v.map eZ)]),(5, .d (.sl (v.map eZ))),(6, .d (vI (v.length:Nat))),(7, .d (vI (k:Nat)))] H hp1 hJ1 J (Em hpx hqx) J (by repeat (first|exact trivial|refine And.intro J ?_)) J J J (fun C3 hp3 hJ3=>?_) (fun C3 hp3 hJ3=>?_)
  ·exact Pp (k+1) hp3 ⟨⟨by omega,hJ3⟩,by omega⟩
  ·exact E8 H hp3 (.inr hJ3) J
 ·obtain rfl:k=v.length:=by omega
  exact E8 H hp1 (.inl (by rw[hrl];exact hJ1)) J
def I5{v:List aa}:Aw GB prog 165 [.sl (v.map eZ)] 253 (.pt [.sl (v.map eZ)]):=by
 refine Sj func165 J J ntmps165 J J (fun C=>?_);refine fz 1 J J ?_;refine sk 1 J (fun GB' pv hg hp=>?_);refine De J J ?_;exact R2 J J hp
def L4:zy 139:=fun x w=>by kernel_rfl
def K0(m:List Value):wi 139 (.agg ⟨m⟩) "Mul" 207:=fun w=>by kernel_rfl
def RD(l:List Rat)(k:Nat)(y:Rat):(l.map eF).set k (eF y)=(l.set k y).map eF:=(oM ..).symm
def jA(L:List Rat)(k:Rat)(j:Nat):List Rat:=(L.take j).map (· *k)++L.drop j
def M5(L:List Rat)(k:Rat)(j:Nat):(jA L k j).length=L.length:=by
 unfold jA;rw[aT,aX,bW,gW];omega
def PY{L:List Rat}{k a:Rat}{j:Nat}(h:L[j]? =some a):(jA L k j)[j]? =some a:=by
 have hj:=(bQ.1 h).1;unfold jA;rw[cV (by rw[aX,bW];omega),aX,bW,iR,<-h];congr 1;omega
def R5{L:List Rat}{k a:Rat}{j:Nat}(h:L[j]? =some a):(jA L k j).set j (a*k)=jA L k (j+1):=by
 have hj:=(bQ.1 h).1;unfold jA;rw[cM,h,List.set_append_right _ _ (by rw[aX,bW];omega),aX,bW,show j-min j L.length=0 by omega,bM hj];simp only[Option.toList_some,cX,cZ,iY,List.set_cons_zero,fJ,iL,jW]
def Gs{L:List Rat}{k:Rat}{i:Nat}[hk:BQ k i](hL: ∀a∈L,¬dF a)(hb: ∀a∈L,BQ a i)(hn:L.length<=1000)(hi:i<=1000000:=by decide):PB GB prog 338 (jo [some (eF k),none]) 3 139 (L.map eF) (fun w=> .v (.slice w.a w.n w.c)) ((L.map (· *k)).map eF):=by
 have hml:(L.map eF).length=L.length:=aX ..;refine zd (fu:=⟨11⟩) func338 J J ntmps338 J J (fun C=>?_);refine ak 7 (.d (vI (L.length:Nat))) J (by rw[hml]<;>rfl) ?_;refine gx J<|?_;refine lp (X:=Nat) (fun j=>[(8, .d (vI (j:Nat)))]) (fun j=>[(1000000,some (.b 139 3 ((jA L k j).map eF) false))]) (fun j=>j<=L.length) (fun j=>L.length-j) 0 J (bL _) (fun _=>J) (fun j hk=>?_);have hsl:=M5 L k j;have hsm:((jA L k j).map eF).length=(jA L k j).length:=aX ..;refine br J J J (fun hc9=>?_) (fun hc9=>?_)
 .
  obtain⟨a,hx⟩: ∃u,L[j]? =some u:=⟨_,aZ (by omega)⟩;have ham:=aS hx;haveI:=hb a ham;have hga:(jA L k j)[j]? =some a:=PY hx;refine lb (fu:=⟨0⟩) _ J (d9 hga) J<|QD (fu:=⟨1⟩) (rV a) J L4 (fun G y hy=>Sf (hL a ham) hy) J<|Ni J (K0 _) (PF.arg0 (nI (p:=a) (q:=k) (i:=i) (j:=i) (by omega) (by omega)) (fun G y h=>by rw[ba.1 h];exact QJ (hL a ham))) J<|?_;refine sb (hv:=by simp only[ab];exact⟨by kernel_rfl,by omega⟩) _ ((jA L k (j+1)).map eF) J (d9 hga) J (by rw[<-R5 hx,<-RD]<;>rfl) J<|?_;exact at_ (j+1) ⟨(by omega),(by omega)⟩
 .
  obtain rfl:j=L.length:=by omega
  have hend:jA L k L.length=L.map (· *k):=by unfold jA;rw[dX,iN,oZ]
  exact uE J J J (by rw[hend])
def AR{a:Int}{g:Nat}(hg:0<g)(hd:g∣a.natAbs):(a:Rat)*(((g:Nat):Int):Rat)⁻¹=((zv (decide (a<0)) (a.natAbs/g):Int):Rat):=by
 obtain⟨q,hq⟩:=hd;have e:zv (decide (a<0)) (a.natAbs/g)*(g:Int)=a:=by
  rw[hq,oT q hg];unfold zv;have hc:((g*q:Nat):Int)=(g:Int)*(q:Int):=by simp
  have hm:=Int.mul_comm (g:Int) (q:Int);split
  ·rename_i h
   have h:=of_decide_eq_true h;rw[Int.neg_mul];omega
  ·rename_i h
   have h: ¬a<0:=fun k=>h (decide_eq_true k);omega
 generalize zv (decide (a<0)) (a.natAbs/g)=z at*;have h0:((g:Int):Rat)≠0:=by
  intro k;have:(g:Int)=0:=by exact_mod_cast k
  omega
 rw[<-e,dW];generalize ((g:Int):Rat)=r at*;grind
def nG{z:Int}(h:z.natAbs<=1000000): ¬dF (z:Rat):=fun k=>k ⟨by show z.natAbs<_;omega,by show 1<_;decide⟩
def E7{q:Rat}{k:Nat}(h:BQ q k)(hk:k<=62): ¬dF q:=fun b=>b (by
 have hp:2^k<=2^62:=aM (by decide) hk;have e:(2:Nat)^62=4611686018427387904:=by decide
 obtain⟨h1,h2⟩:=h;exact⟨by omega,by omega⟩)
theorem sB(p q:aa){i j:Nat}[aA p i][aA q j]:aA ⟨p.x-q.x,p.y-q.y⟩ (i+j+1):=⟨inferInstanceAs (BQ (p.x-q.x) _),inferInstanceAs (BQ (p.y-q.y) _)⟩
theorem fm{z:Int}(h:z.natAbs<=1000000):BQ (z:Rat) 22:=by
 have e:(2:Nat)^21=2097152:=by decide
 haveI:BI z 21:=⟨by omega⟩;exact(inferInstance:BQ (z:Rat) 22)
def Kz{a b c:Int}(ha:a.natAbs<=1000000)(hb:b.natAbs<=1000000)(hc:c.natAbs<=1000000)(h0: ¬(a=0/\b=0)):PF GB prog 243 [eF (a:Rat),eF (b:Rat),eF (c:Rat)] (.tp [ly (eB a b c),vB true]):=by
 haveI:=fm ha;haveI:=fm hb;haveI:=fm hc;have hgn:Nat.gcd a.natAbs b.natAbs≠0:=fun h=>h0 ⟨lQ.1 (lR h),lQ.1 (lV h)⟩;have hgp:0<Nat.gcd (Nat.gcd a.natAbs b.natAbs) c.natAbs:=kJ _ (fS hgn);have eg:rgcd (rgcd (a:Rat) b) c=(((Nat.gcd (Nat.gcd a.natAbs b.natAbs) c.natAbs:Nat):Int):Rat):=by rw[AW,AW];rfl
 have e1:(a:Rat)*(rgcd (rgcd (a:Rat) b) c)⁻¹=((eB a b c).a:Rat):=by rw[eg];exact AR hgp (nM (iX _ _) (iX _ _))
 have e2:(b:Rat)*(rgcd (rgcd (a:Rat) b) c)⁻¹=((eB a b c).b:Rat):=by rw[eg];exact AR hgp (nM (iX _ _) (jV _ _))
 have e3:(c:Rat)*(rgcd (rgcd (a:Rat) b) c)⁻¹=((eB a b c).c:Rat):=by rw[eg];exact AR hgp (jV _ _)
 haveI:BQ (rgcd (a:Rat) b) 200:=BQ.mono (inferInstance:BQ (rgcd (a:Rat) b) _) (by decide);haveI:BQ (rgcd (rgcd (a:Rat) b) c) 600:=BQ.mono (inferInstance:BQ (rgcd (rgcd (a:Rat) b) c) _) (by decide);haveI:BQ (rgcd (rgcd (a:Rat) b) c)⁻¹ 600:=BQ.mono (inferInstance:BQ (rgcd (rgcd (a:Rat) b) c)⁻¹ _) (by decide);have hl4:([((eB a b c).a:Rat),((eB a b c).b:Rat),((eB a b c).c:Rat)].map eF).length=3:=J;have hl3:[((eB a b c).a:Rat),((eB a b c).b:Rat),((eB a b c).c:Rat)].length=3:=J;refine fn func243 J J ntmps243 J J (fun C=>?_);refine cl J (vd (q:=(a:Rat))) J<|?_;refine csd 11 J J J (fun hg11=>?_) (fun hg11=>?_)
 .
  refine cl J (vd (q:=(b:Rat))) J<|?_;refine bd J J J (fun hc14=>?_) (fun hc14=>?_)
  .
   exact absurd ⟨by exact_mod_cast hg11,by exact_mod_cast hc14⟩ h0
  .
   refine cl J (ud (p:=(a:Rat)) (q:=(b:Rat)) (i:=22) (j:=22)) J<|cl J (ud (p:=rgcd (a:Rat) b) (q:=(c:Rat)) (i:=200) (j:=22)) J<|?_;refine cl rfl (xp (q:=rgcd (rgcd (a:Rat) b) c) (i:=600)) rfl<|ro (fu:=⟨0⟩) J J<|cq (hv:=by simp only[ab];exact⟨by kernel_rfl,by omega⟩) ([((eB a b c).a:Rat),((eB a b c).b:Rat),((eB a b c).c:Rat)].map eF) rfl (Gs (L:=[(a:Rat),(b:Rat),(c:Rat)]) (k:=(rgcd (rgcd (a:Rat) b) c)⁻¹) (i:=600) (by intro q hq;simp only[bZ,jS,or_false] at hq;rcases hq with rfl|rfl|rfl;exact nG ha;exact nG hb;exact nG hc) (by intro q hq;simp only[bZ,jS,or_false] at hq;rcases hq with rfl|rfl|rfl;exact(fm ha).mono (by decide);exact(fm hb).mono (by decide);exact(fm hc).mono (by decide)) (nb rfl)) (by simp only[cZ,iY,e1,e2,e3]) rfl<|?_;refine lb _ J J J<|lb _ J J J<|lb _ J J J<|?_;exact rz J J
 .
  refine cl J (ud (p:=(a:Rat)) (q:=(b:Rat)) (i:=22) (j:=22)) J<|cl J (ud (p:=rgcd (a:Rat) b) (q:=(c:Rat)) (i:=200) (j:=22)) J<|?_;refine cl rfl (xp (q:=rgcd (rgcd (a:Rat) b) c) (i:=600)) rfl<|ro (fu:=⟨0⟩) J J<|cq (hv:=by simp only[ab];exact⟨by kernel_rfl,by omega⟩) ([((eB a b c).a:Rat),((eB a b c).b:Rat),((eB a b c).c:Rat)].map eF) rfl (Gs (L:=[(a:Rat),(b:Rat),(c:Rat)]) (k:=(rgcd (rgcd (a:Rat) b) c)⁻¹) (i:=600) (by intro q hq;simp only[bZ,jS,or_false] at hq;rcases hq with rfl|rfl|rfl;exact nG ha;exact nG hb;exact nG hc) (by intro q hq;simp only[bZ,jS,or_false] at hq;rcases hq with rfl|rfl|rfl;exact(fm ha).mono (by decide);exact(fm hb).mono (by decide);exact(fm hc).mono (by decide)) (nb rfl)) (by simp only[cZ,iY,e1,e2,e3]) rfl<|?_;refine lb _ J J J<|lb _ J J J<|lb _ J J J<|?_;exact rz J J
theorem o6{z:ZP}(h:ZP.le 100 z):aA z.q 22:=⟨fm (by have:=h.1;omega),fm (by have:=h.2;omega)⟩
def oe{a b:Int}{m n:Nat}(ha:a.natAbs<=m)(hb:b.natAbs<=n):(a*b).natAbs<=m*n:=by
 rw[fN];exact mQ ha hb
def Ra{v w:ZP}(hv:ZP.le 100 v)(hw:ZP.le 100 w)(h:v≠w):PF GB prog 151 [eZ v.q,eZ w.q] (.tp [ly (f5 v.1 v.2 w.1 w.2),vB true]):=by
 haveI:=o6 hv;haveI:=o6 hw;have hv1:=hv.1;have hv2:=hv.2;have hw1:=hw.1;have hw2:=hw.2;obtain⟨A,hA⟩: ∃A,A=gF v.2 w.2:=⟨_,rfl⟩;obtain⟨B,hB⟩: ∃B,B=gz v.1 w.1:=⟨_,rfl⟩;obtain⟨C0,hC⟩: ∃C0,C0=lH v.1 v.2 w.1 w.2:=⟨_,rfl⟩;have bA:A.natAbs<=200:=by rw[hA];unfold gF;omega
 have bB:B.natAbs<=200:=by rw[hB];unfold gz;omega
 have m1:=oe bA hv1;have m2:=oe bB hv2;have eC:C0= -(A*v.1+B*v.2):=by rw[hC,hA,hB];rfl
 have bC:C0.natAbs<=40000:=by rw[eC];omega
 have h0: ¬(A=0/\B=0):=fun k=>h (Prod.ext (by have:=k.2;rw[hB] at this;unfold gz at this;omega) (by have:=k.1;rw[hA] at this;unfold gF at this;omega));haveI:aA (iP A B) 22:=⟨fm (by omega),fm (by omega)⟩;haveI:BQ ((A*v.1+B*v.2:Int):Rat) 22:=fm (by omega);have eT:lm ⟨w.q.x-v.q.x,w.q.y-v.q.y⟩=iP A B:=by rw[hA,hB];unfold lm iP gF gz ZP.q iP;simp only[aa.mk.injEq];push_cast;constructor<;>grind
 have eD:(iP A B).dot v.q=((A*v.1+B*v.2:Int):Rat):=by unfold aa.dot iP ZP.q iP;push_cast;rfl
 have eN: -((A*v.1+B*v.2:Int):Rat)=((C0:Int):Rat):=by rw[eC];push_cast;rfl
 refine fn func151 J J ntmps151 J J (fun C=>?_);refine cl J (Aq (p:=w.q) (q:=v.q) (i:=22) (j:=22)) J<|cl (fu:=⟨0⟩) J (EV (p:=⟨w.q.x-v.q.x,w.q.y-v.q.y⟩) (i:=45) (h:=sB w.q v.q)) J<|?_;refine ak 12 (.d (eZ (iP A B))) J (by rw[eT]) ?_;refine gx J<|cl (fu:=⟨0⟩) J (l8 (p:=iP A B) (q:=v.q) (i:=22) (j:=22)) J<|?_;refine ak 19 (.d (eF ((A*v.1+B*v.2:Int):Rat))) J (by rw[eD]) ?_;refine gx J<|cl (fu:=⟨0⟩) J (pd (q:=((A*v.1+B*v.2:Int):Rat)) (i:=22)) J<|?_;refine ak 20 (.d (eF ((C0:Int):Rat))) J (by rw[eN]) ?_;refine gx J<|cl J (Kz (a:=A) (b:=B) (c:=C0) (by omega) (by omega) (by omega) h0) J<|?_;exact rz J (by rw[hA,hB,hC];rfl)
theorem I6{l:ah}(ho:l.ok)(ha:l.a.natAbs<=200)(hb:l.b.natAbs<=200){m n:Int}(hm:m.natAbs<=100)(hn:n.natAbs<=100):BQ (de l (iP m n)) 60:=by
 have hd:=H9 ho.ne;have p1:=oe ha ha;have p2:=oe hb hb;have p3:=oe hm hb;have p4:=oe hn ha;have h60:(2:Nat)^60=1152921504606846976:=by decide
 have hA:BI (l.a*l.a+l.b*l.b) 60:=⟨by omega⟩;have hB:BI (m*l.b-n*l.a) 60:=⟨by omega⟩;have e1:l.dir.dot l.dir=((l.a*l.a+l.b*l.b:Int):Rat):=by
  rw[qQ,dW,dW];simp only[ah.dir,aa.dot];grind
 have e2:(iP m n).dot l.dir=((m*l.b-n*l.a:Int):Rat):=by
  rw[qZ,dW,dW];simp only[ah.dir,aa.dot,iP];grind
 have hd':((0:Int):Rat)<((l.a*l.a+l.b*l.b:Int):Rat):=by rw[<-e1];exact hd
 unfold de;rw[e2,e1];clear e1 e2 p1 p2 p3 p4;generalize l.a*l.a+l.b*l.b=D at*;generalize m*l.b-n*l.a=M at*;have hD:0<D:=pX.1 hd';refine BQ.of_fracI (n:=M) (D:=D) (by omega) ?_ hB hA;have h0:(D:Rat)≠0:=fun e=>by rw[e] at hd';exact absurd hd' (by decide)
 have:((D.natAbs:Nat):Rat)=(D:Rat):=by
  have h1:((D.natAbs:Nat):Int)=D:=by omega
  rw[<-h1];rfl
 rw[this];grind
def E9{v w:ZP}(hv:ZP.le 100 v)(hw:ZP.le 100 w)(h:v≠w):FE (b6 v w):=by
 have hf:=F3 hv hw h;have hv1:=hv.1;have hv2:=hv.2;have hw1:=hw.1;have hw2:=hw.2;have bA:(gF v.2 w.2).natAbs<=200:=by unfold gF;omega
 have bB:(gz v.1 w.1).natAbs<=200:=by unfold gz;omega
 have m1:=oe bA hv1;have m2:=oe bB hv2;have bC:(lH v.1 v.2 w.1 w.2).natAbs<=40000:=by unfold lH;omega
 obtain⟨k1,k2,k3⟩:=GM (gF v.2 w.2) (gz v.1 w.1) (lH v.1 v.2 w.1 w.2);have ea:(b6 v w).l.a.natAbs<=200:=fX k1 bA;have eb:(b6 v w).l.b.natAbs<=200:=fX k2 bB;have ec:(b6 v w).l.c.natAbs<=40000:=fX k3 bC;exact⟨hf,⟨nG (by omega),nG (by omega),nG (by omega),E7 (I6 hf.ok ea eb hv1 hv2) (by decide),E7 (I6 hf.ok ea eb hw1 hw2) (by decide)⟩,J,J⟩
def Po{r:List ZP}(h:dB r): ∀f∈il r,FE f:=fun f hf=>by
 obtain⟨k,hk,rfl⟩:=BD hf;exact E9 (h.le _ (ug hk)) (h.le _ (uO hk)) (h.ne k hk)
def A8{rs:List (List ZP)}(h: ∀r∈rs,dB r): ∀f∈c6 rs,FE f:=fun f hf=>by
 obtain⟨r,h1,h2⟩:=iJ.1 hf;exact Po (h r h1) f h2
def O9{v w:ZP}(hv:ZP.le 100 v)(hw:ZP.le 100 w)(h:v≠w):PF GB prog 166 [eZ v.q,eZ w.q] (.tp [bP (b6 v w),vB true]):=by
 have hf:=E9 hv hw h;haveI:LB (f5 v.1 v.2 w.1 w.2):=hf.fo.lb;haveI:=o6 hv;haveI:=o6 hw;refine fn func166 J J ntmps166 J J (fun C=>?_);refine cl (fu:=⟨12⟩) J (Ra hv hw h) J<|?_;refine kE 14 J ?_;refine gx J<|cl J (tP (l:=f5 v.1 v.2 w.1 w.2) (p:=v.q) (i:=22)) J<|cl J (tP (l:=f5 v.1 v.2 w.1 w.2) (p:=w.q) (i:=22)) J<|?_;exact rz J J
def v7{r:List ZP}{k:Nat}{p:aa}(h:(r.map ZP.q)[k]? =some p):k<r.length/\p=(r.getD k (0,0)).q:=by
 rw[fR] at h
 cases e:r[k]? with
 |none=>rw[e] at h;cases h
 |some z=>
  rw[e] at h;cases h;exact⟨(bQ.1 e).1,by rw[aJ,e];rfl⟩
def vn(r:List ZP): ∀n,(iB r n).length=n
 |0=>rfl
 |n+1=>by rw[iB,aT,vn r n];rfl
def I3{r:List ZP}{k:Nat}: ∀{n:Nat},k<n->(iB r n)[k]? =some (b6 (r.getD k (0,0)) (d4 r k))
 |0,h=>by omega
 |n+1,h=>by
  rw[iB];by_cases e:k=n
  ·subst e
   rw[cV (by rw[vn];omega),vn,Nat.sub_self];rfl
  ·rw[bS (by rw[vn];omega)]
   exact I3 (by omega)
def J0(l:List bg):du 17 (l.map bP):=fun d hd=>by
 obtain⟨x,_,rfl⟩:=bT.1 hd;exact⟨J,J⟩
def Qz{L:List bg}{k:Nat}{l:bg}(h:L[k]? =some l):((L.take k).map bP)++[bP l]=(L.take (k+1)).map bP:=by
 rw[cM,h,cX];rfl
def Qx{r:List ZP}(h:dB r):PF GB prog 74 [.sl ((r.map ZP.q).map eZ)] (.sl ((il r).map bP)):=by
 have hn:=h.n6;obtain⟨v,hv⟩: ∃v,v=r.map ZP.q:=⟨_,rfl⟩;have hvl:v.length=r.length:=by rw[hv,aX]
 rw[<-hv];have hel:(il r).length=r.length:=(rp h).1;have hrl:(kw v).length=r.length:=by unfold kw;rw[aX,pJ,hvl]
 refine Gr func74 J J ntmps74 J J (fun C h0=>?_);refine Ed J J J I5 (fun _=>J) (fun GB1 pv hg1 hpv=>?_);refine PA 3 0 50 222 17 J J J J J ?_;refine AK 3 2000003 h0.fx J ?_;refine EP (σ:=Empty) (fun k=>[(2000003,some (.o 130 [.rw 50] true)),(50,some (.b 222 17 (((il r).take k).map bP) true))]) (fun _=>True) (fun _=>[]) (fun _=>False) [(3, .ov 2000003 0)]
  h0 J (Fw (by omega)) (.cons hpv .nil) ⟨J,trivial⟩ J ⟨J,J,trivial⟩ trivial JO J J (fun k e GB' hE hg hp=>?_) (fun D hD hx hp=>?_) (fun D s hD hx hq=>hq.elim)
 ·obtain⟨p,q,hpx,hqx,rfl⟩:=Ey hE
  rw[hvl] at hqx;rw[hv] at hpx hqx;obtain⟨hk,rfl⟩:=v7 hpx;obtain⟨hk2,rfl⟩:=v7 hqx;have hx:(il r)[k]? =some (b6 (r.getD k (0,0)) (d4 r k)):=I3 hk;have hml:(((il r).take k).map bP).length=k:=by rw[aX,bW];omega
  refine⟨?_,?_,fun C2=>?_,fun C2=>?_⟩
  rotate_left 2
  ·refine gx J<|H2 J J J ⟨J,J,J⟩ J ?_
   exact atR
  ·refine gx J<|uZ 0 (e:=141) (len:=2) (s:=6) J (by kernel_rfl) (by kernel_rfl) (by decide) J<|uZ 1 (e:=141) (len:=2) (s:=6) J (by kernel_rfl) (by kernel_rfl) (by decide) J<|?_
   refine cl J (O9 (h.le _ (ug hk)) (h.le _ (uO hk)) (h.ne k hk)) J<|?_;refine rf J J<|ap (((il r).take (k+1)).map bP) J (Qz hx) (J0 [b6 (r.getD k (0,0)) (d4 r k)]) J<|?_;refine iI 23 50 J ?_;exact rq trivial ⟨J,J,trivial⟩
 ·rw[hrl,<-hel,dX]
  refine gx J<|?_;refine ki 50 J ?_;exact F6 hD hx J J
end Go.Sx
end
