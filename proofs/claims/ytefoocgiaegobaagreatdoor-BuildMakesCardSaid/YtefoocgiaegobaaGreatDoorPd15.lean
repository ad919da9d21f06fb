import Derived.Test.YtefoocgiaegobaaGreatDoorPd14
set_option linter.all false
set_option maxHeartbeats 4000000
set_option maxRecDepth 100000
section
namespace Go.Sx
open Go Go.Proofs
def cO(a b p:ab):Rat:=(b.x-a.x)*(p.y-a.y)-(b.y-a.y)*(p.x-a.x)
def nE(v w p:ab):Int:=(if v.y<=p.y/\ ¬w.y<=p.y/\0<cO v w p then 1 else 0)-(if¬v.y<=p.y/\w.y<=p.y/\cO v w p<0 then 1 else 0)
def tD(v w q p:ab):Prop:= ∀s t:Rat,0<=s->s<=1->0<=t->t<=1->bp v w s≠bp q p t
def zc{a b:Rat}(h0:0<=a)(h1:a<=b)(hb:0<b):0<=a/b/\a/b<=1/\a/b*b=a:=by
 have e:a/b*b=a:=by grind
 generalize a/b=q at*;refine⟨?_,?_,e⟩
 ·exact(jB hb).1 (by rw[e];exact h0)
 ·have:=(jB (s:=1-q) hb).1 (by grind)
  grind
def VT{q p x:ab}(hy:q.y<p.y)(h:cO q p x=0)(h1:q.y<=x.y)(h2:x.y<=p.y): ∃t,0<=t/\t<=1/\x=bp q p t:=by
 obtain⟨a1,a2,a3⟩:=zc (a:=x.y-q.y) (b:=p.y-q.y) (by grind) (by grind) (by grind);refine⟨_,a1,a2,?_⟩;generalize (x.y-q.y)/(p.y-q.y)=t at*;obtain⟨X,Y⟩:=x;unfold cO at h;unfold bp;simp only at*;have e:X=q.x+t*(p.x-q.x):=by
  have h3:(p.y-q.y)*(X-q.x)=(p.y-q.y)*(t*(p.x-q.x)):=by grind
  have h4:p.y-q.y≠0:=by grind
  have:=Rat.mul_eq_zero.1 (show(p.y-q.y)*(X-q.x-t*(p.x-q.x))=0 by grind);rcases this with h5|h5
  ·exact absurd h5 h4
  ·grind
 rw[e];congr 1;grind
def Wg(q p v w:ab)(e:Rat):cO q p (bp v w e)=cO q p v+e*(cO q p w-cO q p v):=by
 unfold cO bp;grind
def KM(v w:ab)(a b e:Rat):bp (bp v w a) (bp v w b) e=bp v w (a+e*(b-a)):=by
 unfold bp;simp only[ab.mk.injEq];constructor<;>grind
def AA(v w:ab)(e:Rat):(bp v w e).y=v.y+e*(w.y-v.y):=rfl
def Hy{a b e lo hi:Rat}(h0:0<=e)(h1:e<=1)(ha:lo<=a)(hb:lo<=b)(ha2:a<=hi)(hb2:b<=hi):lo<=a+e*(b-a)/\a+e*(b-a)<=hi:=by
 have k1:=f6 h0 (show 0<=b-lo by grind);have k2:=f6 (show 0<=1-e by grind) (show 0<=a-lo by grind);have k3:=f6 h0 (show 0<=hi-b by grind);have k4:=f6 (show 0<=1-e by grind) (show 0<=hi-a by grind);constructor<;>grind
def VC{v w q p:ab}(hn:tD v w q p)(hy:q.y<p.y){a b:Rat}(a0:0<=a)(a1:a<=1)(b0:0<=b)(b1:b<=1)(ha:q.y<=(bp v w a).y/\(bp v w a).y<=p.y)(hb:q.y<=(bp v w b).y/\(bp v w b).y<=p.y)(h:cO q p (bp v w a)<0):cO q p (bp v w b)<0:=by
 by_cases k:cO q p (bp v w b)<0
 ·exact k
 ·exfalso
  obtain⟨e0,e1,e2⟩:=zc (a:= -(cO q p (bp v w a))) (b:=cO q p (bp v w b)-cO q p (bp v w a)) (by grind) (by grind) (by grind);generalize-(cO q p (bp v w a))/(cO q p (bp v w b)-cO q p (bp v w a))=e at*;have hz:cO q p (bp v w (a+e*(b-a)))=0:=by rw[<-KM,Wg];grind
  have hh:=Hy e0 e1 ha.1 hb.1 ha.2 hb.2;rw[<-AA,KM] at hh;obtain⟨t,t0,t1,ht⟩:=VT hy hz hh.1 hh.2;have h01:=Hy e0 e1 a0 b0 a1 b1;exact hn _ t h01.1 h01.2 t0 t1 ht
def ayT{v w q p:ab}(hn:tD v w q p)(hy:q.y<p.y): ∃r:Bool,∀s,0<=s->s<=1->q.y<=(bp v w s).y->(bp v w s).y<=p.y->(cO q p (bp v w s)<0↔r=true):=by
 by_cases h: ∃s,0<=s/\s<=1/\(q.y<=(bp v w s).y/\(bp v w s).y<=p.y)/\cO q p (bp v w s)<0
 ·obtain⟨s,s0,s1,s2,s3⟩:=h
  exact⟨true,fun t t0 t1 h1 h2=>⟨fun _=>J,fun _=>VC hn hy s0 s1 t0 t1 s2 ⟨h1,h2⟩ s3⟩⟩
 ·exact⟨false,fun t t0 t1 h1 h2=>⟨fun k=>absurd ⟨t,t0,t1,⟨h1,h2⟩,k⟩ h,fun k=>by cases k⟩⟩
def KN(v w:ab):bp v w 0=v:=by unfold bp;cases v;simp only[ab.mk.injEq];constructor<;>grind
def PT(v w:ab):bp v w 1=w:=by unfold bp;cases w;simp only[ab.mk.injEq];constructor<;>grind
def Ie{v w:ab}{y:Rat}(h:(v.y<=y/\ ¬w.y<=y)\/(¬v.y<=y/\w.y<=y)): ∃s,0<=s/\s<=1/\(bp v w s).y=y:=by
 rcases h with⟨h1,h2⟩|⟨h1,h2⟩
 ·obtain⟨a1,a2,a3⟩:=zc (a:=y-v.y) (b:=w.y-v.y) (by grind) (by grind) (by grind)
  refine⟨_,a1,a2,?_⟩;rw[AA];grind
 ·obtain⟨a1,a2,a3⟩:=zc (a:=v.y-y) (b:=v.y-w.y) (by grind) (by grind) (by grind)
  refine⟨_,a1,a2,?_⟩;rw[AA];grind
def KH{v w p:ab}{s:Rat}(h:(bp v w s).y=p.y):cO v w p=(w.y-v.y)*((bp v w s).x-p.x):=by
 unfold cO;unfold bp at*;simp only at*;rw[<-h];grind
def u9{a b:Rat}(ha:0<a):0<a*b↔0<b:=by rw[Rat.mul_comm];exact oe ha
def Et{a b:Rat}(ha:a<0):a*b<0↔0<b:=by
 have:=u9 (a:= -a) (b:=b) (by grind);constructor
 ·intro h;exact this.1 (by grind)
 ·intro h;have:=this.2 h;grind
def bI(b:Prop)[Decidable b]:Int:=if b then 1 else 0
def CF{v w p:ab}{r:Prop}[Decidable r](h: ∀s,0<=s->s<=1->(bp v w s).y=p.y->(p.x<(bp v w s).x↔r)):nE v w p=if r then bI (v.y<=p.y)-bI (w.y<=p.y) else 0:=by
 unfold nE bI;by_cases h1:v.y<=p.y<;>by_cases h2:w.y<=p.y
 ·simp[h1,h2]
 ·obtain⟨s,s0,s1,s2⟩:=Ie (.inl ⟨h1,h2⟩)
  have e:=KH s2;have k:=h s s0 s1 s2;have m:=u9 (a:=w.y-v.y) (b:=(bp v w s).x-p.x) (by grind);rw[<-e] at m;have m2:0<cO v w p↔r:=by rw[m,<-k];grind
  simp only[h1,h2,m2];by_cases q:r<;>simp[q]
 ·obtain⟨s,s0,s1,s2⟩:=Ie (.inr ⟨h1,h2⟩)
  have e:=KH s2;have k:=h s s0 s1 s2;have m:=Et (a:=w.y-v.y) (b:=(bp v w s).x-p.x) (by grind);rw[<-e] at m;have m2:cO v w p<0↔r:=by rw[m,<-k];grind
  simp only[h1,h2,m2];by_cases q:r<;>simp[q]
 ·simp[h1,h2]
def tE(q p u:ab):Int:=if q.y<u.y/\u.y<=p.y/\cO q p u<0 then 1 else 0
def Qj{v w q p:ab}(hn:tD v w q p)(hy:q.y<p.y):nE v w p-nE v w q=tE q p v-tE q p w:=by
 obtain⟨r,hr⟩:=ayT hn hy;have ep:=CF (v:=v) (w:=w) (p:=p) (r:=r=true) fun s s0 s1 s2=>by
  rw[<-hr s s0 s1 (by grind) (by grind)];have m:=u9 (a:=p.y-q.y) (b:=(bp v w s).x-p.x) (by grind);have:cO q p (bp v w s)= -((p.y-q.y)*((bp v w s).x-p.x)):=by unfold cO;rw[s2];grind
  rw[this];generalize (p.y-q.y)*((bp v w s).x-p.x)=z at*;constructor
  ·intro k;have:=m.2 (by grind);grind
  ·intro k;have:=m.1 (by grind);grind
 have eq:=CF (v:=v) (w:=w) (p:=q) (r:=r=true) fun s s0 s1 s2=>by
  rw[<-hr s s0 s1 (by grind) (by grind)];have m:=u9 (a:=p.y-q.y) (b:=(bp v w s).x-q.x) (by grind);have:cO q p (bp v w s)= -((p.y-q.y)*((bp v w s).x-q.x)):=by unfold cO;rw[s2];grind
  rw[this];generalize (p.y-q.y)*((bp v w s).x-q.x)=z at*;constructor
  ·intro k;have:=m.2 (by grind);grind
  ·intro k;have:=m.1 (by grind);grind
 have fv:tE q p v=if r=true then bI (v.y<=p.y)-bI (v.y<=q.y) else 0:=by
  have h:=hr 0 (by decide) (by decide);rw[KN] at h;unfold tE bI;by_cases h1:v.y<=p.y<;>by_cases h2:v.y<=q.y
  ·have: ¬q.y<v.y:=by grind
   simp[h1,h2,this]
  ·have h3:q.y<v.y:=by grind
   have:=h (by grind) h1;simp only[h1,h2,h3,this];by_cases q:r=true<;>simp[q]
  ·exfalso;grind
  ·simp[h1,h2]
 have fw:tE q p w=if r=true then bI (w.y<=p.y)-bI (w.y<=q.y) else 0:=by
  have h:=hr 1 (by decide) (by decide);rw[PT] at h;unfold tE bI;by_cases h1:w.y<=p.y<;>by_cases h2:w.y<=q.y
  ·have: ¬q.y<w.y:=by grind
   simp[h1,h2,this]
  ·have h3:q.y<w.y:=by grind
   have:=h (by grind) h1;simp only[h1,h2,h3,this];by_cases q:r=true<;>simp[q]
  ·exfalso;grind
  ·simp[h1,h2]
 rw[ep,eq,fv,fw];by_cases q:r=true
 ·simp only[if_pos q];omega
 ·simp only[if_neg q]
def WI{v w q p:ab}(hn:tD v w q p)(hy:q.y=p.y):nE v w p=nE v w q:=by
 have key: ∀s,0<=s->s<=1->(bp v w s).y=p.y->(p.x<(bp v w s).x↔q.x<(bp v w s).x):=fun s s0 s1 s2=>by
  have no: ∀a b:Rat,a<=(bp v w s).x->(bp v w s).x<b->((a=q.x/\b=p.x)\/(a=p.x/\b=q.x))->False:=fun a b h1 h2 h3=>by
   obtain⟨a1,a2,a3⟩:=zc (a:=(bp v w s).x-a) (b:=b-a) (by grind) (by grind) (by grind);generalize ((bp v w s).x-a)/(b-a)=t at*;rcases h3 with⟨e1,e2⟩|⟨e1,e2⟩
   ·refine hn s t s0 s1 a1 a2 ?_
    generalize hx:bp v w s=x at*;obtain⟨X,Y⟩:=x;unfold bp;simp only[ab.mk.injEq] at*;subst e1 e2;constructor<;>grind
   ·refine hn s (1-t) s0 s1 (by grind) (by grind) ?_
    generalize hx:bp v w s=x at*;obtain⟨X,Y⟩:=x;unfold bp;simp only[ab.mk.injEq] at*;subst e1 e2;constructor<;>grind
  constructor
  ·intro h
   by_cases k:q.x<(bp v w s).x
   ·exact k
   ·by_cases k2:(bp v w s).x=q.x
    ·exfalso
     refine hn s 0 s0 s1 (by decide) (by decide) ?_;rw[KN];generalize bp v w s=x at*;obtain⟨X,Y⟩:=x;obtain⟨A,B⟩:=q;simp only[ab.mk.injEq] at*;exact⟨k2,by grind⟩
    ·exact(no p.x q.x (by grind) (by grind) (.inr ⟨J,J⟩)).elim
  ·intro h
   by_cases k:p.x<(bp v w s).x
   ·exact k
   ·by_cases k2:(bp v w s).x=p.x
    ·exfalso
     refine hn s 1 s0 s1 (by decide) (by decide) ?_;rw[PT];generalize bp v w s=x at*;obtain⟨X,Y⟩:=x;obtain⟨A,B⟩:=p;simp only[ab.mk.injEq] at*;exact⟨k2,s2⟩
    ·exact(no q.x p.x (by grind) (by grind) (.inl ⟨J,J⟩)).elim
 by_cases hc:(v.y<=p.y/\ ¬w.y<=p.y)\/(¬v.y<=p.y/\w.y<=p.y)
 ·obtain⟨s,s0,s1,s2⟩:=Ie hc
  have uq: ∀t,(bp v w t).y=p.y->t=s:=fun t ht=>by
   rw[AA] at ht s2;have h4:w.y-v.y≠0:=by grind
   have:=Rat.mul_eq_zero.1 (show(w.y-v.y)*(t-s)=0 by grind);rcases this with h5|h5
   ·exact absurd h5 h4
   ·grind
  rw[CF (p:=p) (r:=p.x<(bp v w s).x) fun t _ _ ht=>by rw[uq t ht],CF (p:=q) (r:=p.x<(bp v w s).x) fun t _ _ ht=>by rw[uq t (by rw[ht,hy])];exact(key s s0 s1 s2).symm,hy]
 ·unfold nE
  rw[hy];by_cases h1:v.y<=p.y<;>by_cases h2:w.y<=p.y<;>simp[h1,h2] at hc⊢
def WO(q p:ab)(t:Rat):bp p q t=bp q p (1-t):=by unfold bp;simp only[ab.mk.injEq];constructor<;>grind
def tD.symm{v w q p:ab}(h:tD v w q p):tD v w p q:=fun s t s0 s1 t0 t1 e=>h s (1-t) s0 s1 (by grind) (by grind) (by rw[e,WO])
def jo(r:List ZP)(p:ab):Nat->Int
 |0=>0
 |k+1=>jo r p k+nE (r.getD k (0,0)).q (d8 r k).q p
def vX(r:List ZP)(q p:ab):Prop:= ∀k,k<r.length->tD (r.getD k (0,0)).q (d8 r k).q q p
def IC{r:List ZP}{q p:ab}(h:vX r q p)(hy:q.y<p.y): ∀k,k<r.length->jo r p k-jo r q k=tE q p (r.getD 0 (0,0)).q-tE q p (r.getD k (0,0)).q
 |0,_=>by simp[jo]
 |k+1,hk=>by
  have ih:=IC h hy k (by omega);have e:=Qj (h k (by omega)) hy;rw[DZ (by omega)] at e;rw[jo,jo,DZ (by omega)];omega
def N4{r:List ZP}{q p:ab}(h:vX r q p)(hy:q.y<p.y):jo r p r.length=jo r q r.length:=by
 cases hr:r.length with
 |zero=>rfl
 |succ n=>
  have ih:=IC h hy n (by omega);have e:=Qj (h n (by omega)) hy;rw[GJ (by omega)] at e;rw[jo,jo,GJ (by omega)];omega
def Ir{r:List ZP}{q p:ab}(h:vX r q p)(hy:q.y=p.y): ∀k,k<=r.length->jo r p k=jo r q k
 |0,_=>rfl
 |k+1,hk=>by rw[jo,jo,Ir h hy k (by omega),WI (h k (by omega)) hy]
def XT{r:List ZP}{q p:ab}(h:vX r q p):jo r p r.length=jo r q r.length:=by
 by_cases h1:q.y<p.y
 ·exact N4 h h1
 ·by_cases h2:p.y<q.y
  ·exact(N4 (fun k hk=>(h k hk).symm) h2).symm
  ·exact Ir h (by grind) _ (aL _)
def Zy(a b c:ab):rm a b c=(cO a b c).num.sign:=by
 unfold rm cO ab.cross cv;congr 2;grind
def Pc(a b:Rat):bg a b<=0↔a<=b:=by
 have:=B4 a b;constructor
 ·intro h
  by_cases q:b<a
  ·have:=this.2 q;omega
  ·grind
 ·intro h
  by_cases q:0<bg a b
  ·have:=this.1 q;grind
  ·omega
def UD(v w p:ab):ph v w p=nE v w p:=by
 unfold ph nE;simp only[Zy,r6,pc,Pc]
def Ad(r:List ZP)(p:ab): ∀k,me r p k=jo r p k
 |0=>rfl
 |k+1=>by rw[me,jo,Ad r p k,UD]
def SO{r:List ZP}{q p:ab}(h:vX r q p):ja r p=ja r q:=by
 unfold ja;rw[Ad,Ad,XT h]
def QX(R:Rat)(p:ab):Prop:=p.x< -R\/R<p.x\/p.y< -R\/R<p.y
def Dz(op:Int)(a b:Tr):Bool:=decide ((a.mergeQ op b []).isLeaf=true/\(a.mergeQ op b []).code=false)
def aDK(a b:Tr):Int:=if Dz 4 a b then 0 else if Dz 3 a b then-1 else if Dz 3 b a then 1 else 2
def tC:Tr->ab->Bool
 | .leaf b,_=>b
 | .node l x y,p=>if(l.value p).num.sign=1 then tC x p else if(l.value p).num.sign= -1 then tC y p else false
def H8(t:Tr):List aE:=((t.parts []).filter (·.1)).map (·.2)
def iE(l:aa)(p:ab):aE->Rat->Rat
 |[],f=>f
 |s::c,f=>iE l p c (if Int.sign (s.l.nor.dot l.nor).num<0 then(if-(s.l.value p/s.l.nor.dot l.nor)<f then-(s.l.value p/s.l.nor.dot l.nor) else f) else f)
def pC:aE->ab
 |[]=>⟨0,0⟩
 |s::c=>cv (s.l.at s.v.sample) s.l.nor (iE s.l (s.l.at s.v.sample) c 1*mkRat 1 2)
def Gs{v k:Rat}(hk:k<0)(hv:0<v):0< -(v/k):=by
 have e: -(v/k)* -k=v:=by grind
 exact(oe (k:= -k) (by grind)).1 (by rw[e];exact hv)
def Hu{l:aa}{p:ab}: ∀{c:aE} {f:Rat},0<f->(∀s∈c,s.l.nor.dot l.nor<0->0<s.l.value p)->0<iE l p c f/\iE l p c f<=f/\ ∀s∈c,s.l.nor.dot l.nor<0->iE l p c f<= -(s.l.value p/s.l.nor.dot l.nor)
 |[],f,hf,_=>⟨hf,gR,fun s hs=>by cases hs⟩
 |s::c,f,hf,h=>by
  have h0:=h s aQ;have h1:=fun u hu=>h u (aJ _ hu);rw[iE];by_cases hk:s.l.nor.dot l.nor<0
  ·have hp:=Gs hk (h0 hk)
   rw[if_pos ((pc _).2 hk)];obtain⟨k1,k2,k3⟩:=Hu (c:=c) (f:=if-(s.l.value p/s.l.nor.dot l.nor)<f then-(s.l.value p/s.l.nor.dot l.nor) else f) (by split<;>assumption) h1;refine⟨k1,?_,fun u hu=>?_⟩
   ·split at k2<;>grind
   ·rcases aT.1 hu with rfl|hu
    ·intro _;split at k2<;>grind
    ·exact k3 u hu
  ·rw[if_neg (fun e=>hk ((pc _).1 e))]
   obtain⟨k1,k2,k3⟩:=Hu (c:=c) hf h1;refine⟨k1,k2,fun u hu=>?_⟩;rcases aT.1 hu with rfl|hu
   ·intro e;exact absurd e hk
   ·exact k3 u hu
def Ry: ∀{c:aE},di c->bF c (pC c)
 |[],_=>XX _
 |s::c,hc=>by
  have hs:s∈s::c:=aQ;obtain⟨p1,p2⟩:=hc.edge s hs;have hin:=(p2 s.v.sample).1 (uG p1).has;have hne:=(hc.ok s hs).ne;have hself:=rE hne s.v.sample;have hpos: ∀g∈c,g.l≠s.l->0<g.l.value (s.l.at s.v.sample):=fun g hg hn=>by
   have h1:=hin g (aJ _ hg);have h2:g.l.value (s.l.at s.v.sample)≠0:=fun e=>hn (Lg hc hs (hc.ok g (aJ _ hg)) (fun p hp=>hp g (aJ _ hg)) e);grind
  have hnn:=n4 hne;have hk: ∀g∈c,g.l.nor.dot s.l.nor<0->0<g.l.value (s.l.at s.v.sample):=fun g hg hk=>hpos g hg (fun e=>by rw[e] at hk;grind);obtain⟨f1,f2,f3⟩:=Hu (l:=s.l) (p:=s.l.at s.v.sample) (c:=c) (f:=1) (by decide) hk;show bF (s::c) (cv (s.l.at s.v.sample) s.l.nor (iE s.l (s.l.at s.v.sample) c 1*mkRat 1 2));rw[P5];generalize iE s.l (s.l.at s.v.sample) c 1=F at f1 f2 f3⊢;intro g hg;rw[jq];have hhalf:0<F*(1/2):=by grind
  rcases aT.1 hg with e|hg
  ·rw[e,hself,Rat.zero_add]
   exact jb hhalf hnn
  ·by_cases he:g.l=s.l
   ·rw[he,hself]
    have:=jb (a:=F*(1/2)) (b:=s.l.nor.dot s.l.nor) (by grind) hnn;grind
   ·have hv:=hpos g hg he
    by_cases hk2:g.l.nor.dot s.l.nor<0
    ·have hf:=f3 g hg hk2
     generalize g.l.nor.dot s.l.nor=k at hk2 hf⊢;generalize g.l.value (s.l.at s.v.sample)=v at hf hv⊢;have e1: -(v/k)* -k=v:=by grind
     generalize-(v/k)=w at e1 hf;have:=f6 (a:=w-F) (b:= -k) (by grind) (by grind);clear hin hpos hk f3 hc p2;grind
    ·have h9:=f6 (a:=F*(1/2)) (b:=g.l.nor.dot s.l.nor) (fT hhalf) (by grind)
     generalize F*(1/2)*g.l.nor.dot s.l.nor=z at h9⊢;clear hin hpos hk f3 hc p2;grind
def sd:Tr->ab->ab->Bool×Bool
 | .leaf b,_,_=>(b,true)
 | .node l x y,p,v=>match (if(l.value p).num.sign=0 then(l.dir.cross v).num.sign else(l.value p).num.sign) with
  |1=>sd x p v
  | -1=>sd y p v
  |_=>(false,false)
def Gn(L:List aa)(p v:ab):Prop:= ∀l∈L,l.value p=0->l.nor.dot v≠0
def uz(u v:ab):Prop:=u.half<v.half\/(u.half=v.half/\0<u.cross v)
def nO(d:ab):ab:=⟨-d.x, -d.y⟩
def Nxt(ds:List ab)(u w:ab):Prop:=(uz u w/\ ∀d∈ds,¬(uz u d/\uz d w))\/((∀d∈ds,¬uz u d)/\ ∀d∈ds,¬uz d w)
structure aIw (ds:List ab):Prop where
 nz: ∀d∈ds,d.half≠0
 neg: ∀d∈ds,nO d∈ds
def btw(a b:Rat)(u w:ab):ab:=⟨a*u.x+b*w.x,a*u.y+b*w.y⟩
end Go.Sx
end
section
namespace Go.Sx
open Go
inductive OT where
 |z (π:List (Nat×Bool))
 |q (i:Nat) (t:OT)
 |a (i:Nat) (t:OT)
 |c (i:Nat) (t r:OT)
def OT.sz:OT->Nat
 | .z _=>0
 | .q _ t=>t.sz+1
 | .a _ t=>t.sz+1
 | .c _ t r=>t.sz+r.sz+1
def OT.d:OT->Nat
 | .z π=>π.length
 | .q _ t=>t.d+1
 | .a _ t=>t.d+1
 | .c _ t r=>Nat.max (t.d+1) r.d
section
variable {P:Program} {ops:Array Oper} {Q:Exit->Act->World->Prop} {S:World->Prop} {π₂:List (Nat×Bool)}
def uS(P:Program)(ops:Array Oper)(Q:Exit->Act->World->Prop)(K:(World->Prop)->Act->World->Prop):List Nat->OT->(World->Prop)->Act->World->Prop
 |ks, .z π,S,a,w=>vz P ops Q K ks π S a w
 |ks, .q i t,S,a,w=> ∃o v,ops[i]? =some o/\S w/\YieldsIf P ops S o v a/\uS P ops Q K ks t S (a.put o.dst v) w
 |ks, .a i t,S,a,w=>wpOp P ops Q i (uh S (uS P ops Q K ks t)) a w/\
   ∀j,(h:j∈ks)->wpOp P ops Q j (uh S (uS P ops Q K (bG ks j) (.a i t))) a w
 |ks, .c i t r,S,a,w=>wpOp P ops Q i (uh S (uS P ops Q K ks t)) a w/\uS P ops Q K ks r S a w/\
   ∀j,(h:j∈ks)->wpOp P ops Q j (uh S (uS P ops Q K (bG ks j) (.c i t r))) a w
termination_by ks t=>ks.length+t.sz
decreasing_by
 all_goals (first|(have:=F1 h;simp only[OT.sz] at*;omega)|(simp only[OT.sz];omega))
def r9(ops:Array Oper)(fin:Nat->Bool)(π₂:List (Nat×Bool)):Nat->Bool->List Nat->OT->Array Bool->List Nat->Bool
 |0,_,_,_,_,_=>false
 |n+1,false,ks, .z π,l,_=>yo ops fin π₂ n ks π l
 |_+1,true,_, .z _,_,_=>false
 |n+1,false,ks, .q i t,l,_=>vA ops fin l i&&r9 ops fin π₂ n false ks t (l.setIfInBounds i true) []
 |_+1,true,_, .q _ _,_,_=>false
 |n+1,true,ks, .a i t,l,rs=>rs.all (fun j=>Nat.beq j i)&&r9 ops fin π₂ n false ks t (l.setIfInBounds i true) []
 |n+1,false,ks, .a i t,l,_=>!(Region.ready .any ops l).isEmpty&&(Region.ready .any ops l).all (fun j=>Nat.beq j i||ks.contains j)&&r9 ops fin π₂ n false ks t (l.setIfInBounds i true) []&&ks.all fun j=>r9 ops fin π₂ n false (bG ks j) (.a i t) (l.setIfInBounds j true) []
 |n+1,true,ks, .c i t r,l,rs=>r9 ops fin π₂ n false ks t (l.setIfInBounds i true) []&&r9 ops fin π₂ n true ks r l (bG rs i)
 |n+1,false,ks, .c i t r,l,_=>!(Region.ready .any ops l).isEmpty&&r9 ops fin π₂ n false ks t (l.setIfInBounds i true) []&&r9 ops fin π₂ n true ks r l (bG ((Region.ready .any ops l).filter fun j=>!ks.contains j) i)&&ks.all fun j=>r9 ops fin π₂ n false (bG ks j) (.c i t r) (l.setIfInBounds j true) []
end
section
variable {P:Program} {GB:Gh} {C:aC} {n:Nat} {fr fr':d4} {own own' own0 own1 own1':List cG} {bs bs0 bs1 bs1':List dt} {ops:Array Oper} {Q:Exit->Act->World->Prop} {fd:List FD} {π₂:List (Nat×Bool)} {t r:OT}
abbrev dnK (P:Program) (ops:Array Oper) (Q:Exit->Act->World->Prop) (K:(World->Prop)->Act->World->Prop) (t:OT):List Nat->(World->Prop)->Act->World->Prop:=fun ks S=>uS P ops (gr Q) K ks t S
end
end Go.Sx
end
section
namespace Go.Sx
open Go Go.Proofs Tryz
variable {GB:Gh}
theorem ur{c:List aa}{l:aa}(hc: ∀m∈c,LB m)(hl:LB l): ∀m∈c++[l],LB m:=by
 rw[rQ];exact⟨hc,by simpa using hl⟩
theorem LB.rev{l:aa}(h:LB l):LB l.rev:=⟨⟨by rw[show l.rev.a= -l.a from J,kJ];exact h.bl.a,by rw[show l.rev.b= -l.b from J,kJ];exact h.bl.b,by rw[show l.rev.c= -l.c from J,kJ];exact h.bl.c⟩⟩
def Vo{c:List aa}{l:aa}(hc: ∀m∈c,LB m)(hok: ∀m∈c,m.ok)(hn:c.length<=900)(hl:LB l)(hlo:l.ok):PF GB prog 263 [.sl (c.map eL),eL l] (vI (pg c l)):=by
 have hcl:=tL c;refine fn func263 J J ntmps263 J J (fun C=>?_);refine qe J J<|ap (c.map eL) J J (fE _) J<|rf J J<|k8 ((c++[l]).map eL) J (by rw[bT];rfl) (fE [l]) J<|?_;refine cl J (Gi (c:=c++[l]) (ur hc hl) (lI hok hlo) (by simp;omega)) J<|qe J J<|ap (c.map eL) J J (fE _) J<|cl J (zz (l:=l)) J<|?_;refine rf J J<|k8 ((c++[l.rev]).map eL) J (by rw[bT];rfl) (fE [l.rev]) J<|cl J (Gi (c:=c++[l.rev]) (ur hc hl.rev) (lI hok hlo.rev) (by simp;omega)) J<|?_;refine jv 31 J J J (fun hg31=>?_) (fun hg31=>?_)
 .
  refine bb J J J (fun hc33=>?_) (fun hc33=>?_)
  .
   exact rz J (by show vI 0=vI _;congr 1;unfold pg;simp_all)
  .
   refine bb J J J (fun hc34=>?_) (fun hc34=>?_)
   .
    exact rz J (by show vI 1=vI _;congr 1;unfold pg;simp_all)
   .
    exact rz J (by simp[hg31] at hc34)
 .
  refine bb J J J (fun hc34=>?_) (fun hc34=>?_)
  .
   exact rz J (by simp[hg31] at hc34)
  .
   exact rz J (by show vI (-1)=vI _;congr 1;unfold pg;simp_all)
def DB{α:Type}{p:α->Bool}: ∀{xs:List α} {n:Nat},n<=xs.length->(∀j (h:j<xs.length),j<n->p xs[j]=true)->(∀h:n<xs.length,p xs[n]=false)->(xs.takeWhile p).length=n
 |[],n,h,_,_=>by simp at h;subst h;rfl
 |x::xs,0,_,_,h3=>by
  have:=h3 (by simp);simp only[nM] at this;simp[pL,this]
 |x::xs,n+1,h1,h2,h3=>by
  have hx:=h2 0 (by simp) (by omega);simp only[nM] at hx;rw[pL,if_pos hx,bU];rw[DB (n:=n) (by simpa using h1) (fun j h hj=>by have:=h2 (j+1) (by simpa using h) (by omega);simpa using this) (fun h=>by have:=h3 (by simpa using h);simpa using this)]
def K6{xs:List aa}{l:aa}{n:Nat}(h1:n<=xs.length)(h2: ∀j (h:j<xs.length),j<n->ir xs[j].dir l.dir<0)(h3: ∀h:n<xs.length,¬ir xs[n].dir l.dir<0):oB xs l=n:=
 DB h1 (fun j h hj=>decide_eq_true (h2 j h hj)) (fun h=>decide_eq_false (h3 h))
def UU{xs:List aa}{l:aa}{n:Nat}(hn:oB xs l=n)(h:n<xs.length)(e:xs[n]=l):qz xs l=xs:=by
 unfold qz;rw[hn,if_pos (by rw[aZ h,e])]
def Oi{xs:List aa}{l:aa}{n:Nat}(hn:oB xs l=n)(h: ∀h:n<xs.length,xs[n]≠l):qz xs l=xs.take n++l::xs.drop n:=by
 unfold qz;rw[hn,if_neg];intro e;obtain⟨h1,h2⟩:=aM.1 e;exact h h1 h2
def Qo(xs:List aa)(n:Nat):cC 6 ((xs.map eL).take n):=fun d hd=>fE xs d (fY hd)
def Hr(xs:List aa)(n m:Nat):cC 6 (((xs.map eL).take n).drop m):=fun d hd=>fE xs d (fY (iQ hd))
def La(xs:List aa)(n m:Nat)(l:aa):cC 6 ([eL l]++((xs.map eL).take n).drop m):=fun d hd=>by
 rcases cX.1 hd with h|h
 ·exact fE [l] d h
 ·exact Hr xs n m d h
structure kH (c:List aa) (k:Nat) (xs:List aa):Prop where
 le:k<=c.length
 f:n9 c (c.drop k) xs=il c
 m: ∀m∈xs,m∈c
 n:xs.length<=k
def kH.skip{c xs:List aa}{k:Nat}(h:kH c k xs)(hk:k<c.length)(e:(fy c[k] c aj.all).isSome=false):kH c (k+1) xs:=by
 have:=h.f;rw[bX hk,n9,e] at this;exact⟨hk,this,h.m,by have:=h.n;omega⟩
def kH.ins{c xs ys:List aa}{k:Nat}(h:kH c k xs)(hk:k<c.length)(e:(fy c[k] c aj.all).isSome=true)(hy:qz xs c[k]=ys)(hl:ys.length<=xs.length+1):kH c (k+1) ys:=by
 have:=h.f;rw[bX hk,n9,e,if_pos J,hy] at this;refine⟨hk,this,fun m hm=>?_,by have:=h.n;omega⟩;rw[<-hy] at hm;rcases Ph.1 hm with rfl|hm
 ·exact cV hk
 ·exact h.m m hm
def kH.done{c xs:List aa}{k:Nat}(h:kH c k xs)(hk:k=c.length):il c=xs:=by
 have:=h.f;rw[hk,fU,n9] at this;exact this.symm
def zq(c:List aa):Bool:=if(((c.map eL).length:Nat):Int)=0 then true else decide ((0:Int)<((((il c).map eL).length:Nat):Int))
def kH.nil(c:List aa):kH c 0 []:=⟨bQ _,J,fun m hm=>absurd hm (by simp),aL _⟩
def ay8{c:List aa}(hc: ∀m∈c,LB m)(hok: ∀m∈c,m.ok)(hn:c.length<=1000):PF GB prog 160 [.sl (c.map eL)] (.tp [.sl ((il c).map eL),vB (zq c)]):=by
 have hcl:=tL c;refine fn (fu:=⟨16⟩) func160 J J ntmps160 J J (fun C=>?_);refine ak 11 (.d (vI (c.length:Nat))) J (by rw[hcl];rfl) ?_;refine gx J<|?_;refine A4 4 J ?_;refine lp (X:=List aa×Nat) (fun⟨xs,k⟩=>[(12, .d (vI (k:Nat))),(11, .d (vI (c.length:Nat))),(10, .d (.sl (c.map eL))),(0, .d (.sl (c.map eL))),(4, .d (.sl (xs.map eL)))]) (fun⟨xs,k⟩=>[]) (fun⟨xs,k⟩=>kH c k xs) (fun⟨xs,k⟩=>c.length-k) ⟨[],0⟩ J (kH.nil c) (fun _=>J) (fun⟨xs,k⟩ hk=>?_)
 try dsimp only at hk⊢
 have hS:=hk;refine br J J J (fun hc13=>?_) (fun hc13=>?_)
 .
  have hk:k<c.length:=by omega
  obtain⟨m,hm⟩: ∃m,m=c[k]:=⟨_,rfl⟩;haveI hmb:LB m:=hm▸hc _ (cV hk);have hmo:m.ok:=hm▸hok _ (cV hk);have hxl:=tL xs;have hxn:=hS.n;refine ix (fu:=⟨1⟩) _ J (t8 hk) J<|?_;refine ak 16 (.d (eL m)) J (by rw[hm];rfl) ?_;refine gx J<|cl J (Pr hc hok hn hk) J<|?_;refine bb (fu2:=⟨8⟩) J J J (fun hc24=>?_) (fun hc24=>?_)
  .
   have hinv:kH c (k+1) xs:=hS.skip hk (by rw[<-ug];simpa using hc24);exact at_ ⟨xs,k+1⟩ (by dsimp only;exact⟨hinv,(by omega)⟩)
  .
   have hyes:(fy c[k] c aj.all).isSome=true:=by rw[<-ug];simpa using hc24
   refine mg (fu:=⟨6⟩) (X:=Unit) (fun _=>[(12, .d (vI (k:Nat))),(11, .d (vI (c.length:Nat))),(10, .d (.sl (c.map eL))),(0, .d (.sl (c.map eL))),(4, .d (.sl (xs.map eL))),(6, .ov 6 0),(9, .d (vI (oB xs m:Nat)))]) (fun _=>[(6,some (.o 115 [.d ((.v (.bool (decide (m.a<0))))), .d (dN m.a.natAbs), .d ((.v (.bool (decide (m.b<0))))), .d (dN m.b.natAbs), .d ((.v (.bool (decide (m.c<0))))), .d (dN m.c.natAbs)] true))]) (fun _=>True) [12,11,10,0,4,6,9] [6] rfl ?_ (fun _=>J) (fun _ _=>?_)
   .
    refine gx J<|?_;refine lp (fu:=⟨6⟩) (X:=Nat) (fun n=>[(12, .d (vI (k:Nat))),(11, .d (vI (c.length:Nat))),(10, .d (.sl (c.map eL))),(0, .d (.sl (c.map eL))),(4, .d (.sl (xs.map eL))),(6, .ov 6 0),(9, .d (vI (n:Nat)))]) (fun n=>[(6,some (.o 115 [.d ((.v (.bool (decide (m.a<0))))), .d (dN m.a.natAbs), .d ((.v (.bool (decide (m.b<0))))), .d (dN m.b.natAbs), .d ((.v (.bool (decide (m.c<0))))), .d (dN m.c.natAbs)] true))]) (fun n=>n<=xs.length/\ ∀j (h:j<xs.length),j<n->ir xs[j].dir m.dir<0) (fun n=>xs.length-n) 0 J ⟨bQ _,fun j _ hj=>absurd hj (by omega)⟩ (fun _=>J) (fun n hk=>?_);obtain⟨n1,n2⟩:=hk;refine l6 J J J J (fun hg28=>?_) (fun hg28=>?_)
    .
     refine ix _ J (t8 (by omega)) J<|?_;haveI:LB (xs[n]'(by omega)):=hc _ (hS.m _ (cV _));refine cl J (sr (l:=xs[n]'(by omega))) J<|cl J (sr (l:=m)) J<|cl J (Sb (u:=(xs[n]'(by omega)).dir) (v:=m.dir)) J<|?_;refine br J J J (fun hc39=>?_) (fun hc39=>?_)
     .
      exact at_ (n+1) ⟨⟨by omega,fun j h hj=>by by_cases q:j=n;(subst q;exact hc39);exact n2 j h (by omega)⟩,(by omega)⟩
     .
      have hidx:oB xs m=n:=K6 n1 n2 (fun h=>hc39);exact at_ () trivial
    .
     have hidx:oB xs m=n:=K6 n1 n2 (fun h=>absurd h (by omega));exact at_ () trivial
   .
    obtain⟨n,hnx⟩: ∃n,oB xs m=n:=⟨_,rfl⟩;rw[hnx];have hnl:n<=xs.length:=by rw[<-hnx];unfold oB;exact(List.takeWhile_sublist _).length_le
    have hcb: ∀m∈xs,LB m:=fun m hm=>hc m (hS.m m hm);refine l6 J J J J (fun hg45=>?_) (fun hg45=>?_)
    .
     refine ix _ J (t8 (by omega)) J<|cl J (B6 (l:=xs[n]'(by omega)) (m:=m) (hl:=hcb _ (cV (by omega)))) J<|?_;refine br J J J (fun hc54=>?_) (fun hc54=>?_)
     .
      have hn46:n<xs.length:=by omega
      have hinv:kH c (k+1) xs:=hS.ins hk hyes (by rw[<-hm];exact UU hnx hn46 ((BV _ m).1 hc54)) (by omega);exact at_ ⟨xs,k+1⟩ (by dsimp only;exact⟨hinv,(by omega)⟩)
     .
      have hnew: ∀h:n<xs.length,xs[n]≠m:=fun h e=>hc54 ((BV _ m).2 e);obtain⟨ys,hys⟩: ∃ys,ys=xs.take n++m::xs.drop n:=⟨_,rfl⟩;have hinv:kH c (k+1) ys:=hS.ins hk hyes (by rw[<-hm,Oi hnx hnew,hys]) (by rw[hys];simp;omega);refine s3 n _ J J J J (fE _) (by rw[hxl];exact hnl) J<|ro J J<|k9 n xs.length _ J J (by rw[hxl]) J (fE _) hnl (by omega) J<|?_;refine ap _ J J (Hr _ _ _) J<|k8 (hv:=by simp only[ah];exact⟨by kernel_rfl,by omega⟩) (ho:=fun _=>⟨Qo _ _,by simp⟩) (ys.map eL) J (by rw[hys,bT,bJ,jZ,kK,aU (l:=xs.map eL) (i:=xs.length) (by simp)];rfl) (La _ _ _ _) J<|?_;exact at_ ⟨ys,k+1⟩ (by dsimp only;exact⟨hinv,(by omega)⟩)
    .
     have hnew: ∀h:n<xs.length,xs[n]≠m:=fun h=>absurd h (by omega);obtain⟨ys,hys⟩: ∃ys,ys=xs.take n++m::xs.drop n:=⟨_,rfl⟩;have hinv:kH c (k+1) ys:=hS.ins hk hyes (by rw[<-hm,Oi hnx hnew,hys]) (by rw[hys];simp;omega);refine s3 n _ J J J J (fE _) (by rw[hxl];exact hnl) J<|ro J J<|k9 n xs.length _ J J (by rw[hxl]) J (fE _) hnl (by omega) J<|?_;refine ap _ J J (Hr _ _ _) J<|k8 (hv:=by simp only[ah];exact⟨by kernel_rfl,by omega⟩) (ho:=fun _=>⟨Qo _ _,by simp⟩) (ys.map eL) J (by rw[hys,bT,bJ,jZ,kK,aU (l:=xs.map eL) (i:=xs.length) (by simp)];rfl) (La _ _ _ _) J<|?_;exact at_ ⟨ys,k+1⟩ (by dsimp only;exact⟨hinv,(by omega)⟩)
 .
  have hfin:il c=xs:=hS.done (by have:=hS.le;omega);refine cs 71 J J J (fun hg71=>?_) (fun hg71=>?_)
  .
   exact rz J (by rw[zq,if_pos hg71,hfin];rfl)
  .
   exact rz J (by rw[zq,if_neg hg71,hfin];rfl)
section
variable {α:Type} (c:α->α->Int)
def e8(x:α):List α->List α
 |[]=>[x]
 |u::t=>if c u x<0 then u::e8 x t else if c u x=0 then u::t else x::u::t
def ju(x:α)(xs:List α):Nat:=(xs.takeWhile fun u=>decide (c u x<0)).length
def A'(x:α)(xs:List α):ju c x xs<=xs.length:=(List.takeWhile_sublist _).length_le
def tn{x:α}{xs:List α}{n:Nat}(h1:n<=xs.length)(h2: ∀j (h:j<xs.length),j<n->c xs[j] x<0)(h3: ∀h:n<xs.length,¬c xs[n] x<0):ju c x xs=n:=
 DB h1 (fun j h hj=>decide_eq_true (h2 j h hj)) (fun h=>decide_eq_false (h3 h))
def xu{x:α}: ∀{xs:List α} {n:Nat},ju c x xs=n->(h:n<xs.length)->c xs[n] x=0->e8 c x xs=xs
 |[],n,_,h,_=>by simp at h
 |u::t,n,hn,h,e=>by
  rw[e8];unfold ju at hn;rw[pL] at hn;by_cases hu:c u x<0
  ·rw[if_pos hu]
   rw[if_pos (by simpa using hu)] at hn;obtain⟨k,rfl⟩: ∃k,n=k+1:=⟨n-1,by simp at hn;omega⟩;rw[xu (xs:=t) (n:=k) (by unfold ju;simpa using hn) (by simpa using h) (by simpa using e)]
  ·rw[if_neg (by simpa using hu)] at hn
   simp at hn;subst hn;rw[if_neg hu,if_pos (by simpa using e)]
def rx{x:α}: ∀{xs:List α} {n:Nat},ju c x xs=n->(∀h:n<xs.length,c xs[n] x≠0)->e8 c x xs=xs.take n++x::xs.drop n
 |[],n,hn,_=>by simp[ju] at hn;subst hn;rfl
 |u::t,n,hn,e=>by
  rw[e8];unfold ju at hn;rw[pL] at hn;by_cases hu:c u x<0
  ·rw[if_pos hu]
   rw[if_pos (by simpa using hu)] at hn;obtain⟨k,rfl⟩: ∃k,n=k+1:=⟨n-1,by simp at hn;omega⟩;rw[rx (xs:=t) (n:=k) (by unfold ju;simpa using hn) (fun h=>by have:=e (by simpa using h);simpa using this)];simp
  ·rw[if_neg (by simpa using hu)] at hn
   simp at hn;subst hn;have:=e (by simp);rw[if_neg hu,if_neg (by simpa using this)];rfl
def A9(x:α): ∀(xs:List α),(e8 c x xs).length<=xs.length+1
 |[]=>aL _
 |u::t=>by
  have:=A9 x t;rw[e8];split
  ·simp;omega
  ·split<;>simp
def K9{x y:α}: ∀{xs:List α},y∈e8 c x xs->y=x\/y∈xs
 |[],h=>by rw[e8,aV] at h;exact .inl h
 |u::t,h=>by
  rw[e8] at h;split at h
  ·rcases aT.1 h with rfl|h
   ·exact .inr aQ
   ·rcases K9 h with h|h
    ·exact .inl h
    ·exact .inr (aJ _ h)
  ·split at h
   ·exact .inr h
   ·rcases aT.1 h with rfl|h
    ·exact .inl J
    ·exact .inr h
def rB(l:List α):List α:=l.foldl (fun out x=>e8 c x out) []
def Qc: ∀(l o:List α),(l.foldl (fun out x=>e8 c x out) o).length<=l.length+o.length
 |[],o=>by simp
 |x::t,o=>by
  have:=Qc t (e8 c x o);have:=A9 c x o;simp only[dT,bU];omega
def Jj{y:α}: ∀{l o:List α},y∈l.foldl (fun out x=>e8 c x out) o->y∈l\/y∈o
 |[],o,h=> .inr h
 |x::t,o,h=>by
  rcases Jj (l:=t) h with h|h
  ·exact .inl (aJ _ h)
  ·rcases K9 c h with rfl|h
   ·exact .inl aQ
   ·exact .inr h
end
def y0{x:Rat}: ∀{l:List Rat},en x l=e8 bg x l
 |[]=>rfl
 |u::t=>by
  have e1:bg u x<0↔u<x:=wY u x;have e2:bg u x=0↔u=x:=r7 u x;rw[en,e8,y0 (l:=t)];by_cases h:u<x
  ·rw[if_pos h,if_pos (e1.2 h)]
  ·rw[if_neg h,if_neg (fun e=>h (e1.1 e))]
   by_cases h2:u=x
   ·rw[if_pos h2,if_pos (e2.2 h2)]
   ·rw[if_neg h2,if_neg (fun e=>h2 (e2.1 e))]
def sB{α β:Type}{f:α->β}{l:List α}{k:Nat}{x:α}(h:l[k]? =some x):(l.take k).map f++[f x]=(l.take (k+1)).map f:=by
 rw[fW,h,bT];rfl
def Pi{a i:Nat}[ha:BN a i](hi:i<=400000000:=by decide):PF GB prog 194 [dN a] (dN a):=by
 have hl:=ez (dg a);have hb:=ld ha.h;refine fn func194 J J ntmps194 J J (fun C=>?_);refine qe J J<|ap ((dg a).map dU) J J (tk _) J<|?_;refine iA 5 J ?_;exact rz J J
def Co{z:Int}{i:Nat}[hz:BI z i](hi:i<=400000000:=by decide):PF GB prog 193 [eI z] (eI z):=by
 refine fn func193 J J ntmps193 J J (fun C=>?_);refine cl J (Pi (a:=z.natAbs) (i:=i) (ha:=⟨hz.h⟩) hi) J<|?_;exact rz J J
def aFs{l:aa}(hl:BL l 96):PF GB prog 139 [eL l] (eL l):=by
 haveI h1:BI l.a 96:=⟨hl.a⟩;haveI h2:BI l.b 96:=⟨hl.b⟩;haveI h3:BI l.c 96:=⟨hl.c⟩;refine fn func139 J J ntmps139 J J (fun C=>?_);refine cl J (Co (z:=l.a)) J<|cl J (Co (z:=l.b)) J<|cl J (Co (z:=l.c)) J<|?_;exact rz J J
def IQ{ds:List Nat}(hd:bw ds)(hn:ds.length<=1000000):PF GB prog 210 [fh ds] (dN (dv ds)):=by
 have hm:=ez ds;refine fn func210 J J ntmps210 J J (fun C=>?_);refine qe J J<|ap (ds.map dU) J J (tk _) J<|fz 5 J J<|cl J (pH (ds:=ds) (by omega)) J<|?_;exact rz J (by unfold dN;rw[nA hd];rfl)
def Th{neg:Bool}{ds:List Nat}(hd:bw ds)(hn:ds.length<=1000000):PF GB prog 185 [.ag [.v (.bool neg),fh ds]] (eI (wy neg ds)):=by
 refine fn func185 J J ntmps185 J J (fun C=>?_);refine cl J (IQ hd hn) J<|cl J jD J<|?_;exact rz J J
def rlD(r:RL):DV:= .tp [if r.nm then eL r.l else .ag [.v (.bool false), .sl [], .v (.bool false), .sl [], .v (.bool false), .sl []],vB (decide (r.nm/\r.l.ok))]
def smB(n:Int)(ls:List (List Nat)):Bool:=ls.all fun d=>decide ((d.length:Int)<=n)
def RL.smB(n:Int)(r:RL):Bool:=Sx.smB n [r.da,r.db,r.dc]
def rlB(n:Int)(ls:List RL):Bool:=ls.all fun r=>r.smB n
def aEP{n i:Nat}[h:BN n i](hi:i<=20000000:=by decide):PF GB prog 210 [dN n] (dN n):=by
 have hl:=ld h.h;have:=IQ (GB:=GB) (ds:=dg n) (jI n) (by omega);rw[b8,<-Ec] at this;exact this
def Rf(z:Int):wy (decide (z<0)) (dg z.natAbs)=z:=by
 unfold wy;rw[b8];split<;>(rename_i h;simp at h;omega)
def T3{z:Int}{i:Nat}[h:BI z i](hi:i<=20000000:=by decide):PF GB prog 185 [eI z] (eI z):=by
 have hl:=ld h.h;have:=Th (GB:=GB) (neg:=decide (z<0)) (ds:=dg z.natAbs) (jI _) (by omega);rw[Rf,<-Ec] at this;exact this
def VA{n:Nat}(h:0<n): ¬((((dg n).map dU).length:Nat):Int)=0:=by
 rw[aK];have:=tg (n:=n);omega
instance BQ.m1':BQ (((-1:Int):Int):Rat) 2:=⟨by decide,by decide⟩
instance BQ.m1:BQ (-1:Rat) 2:=⟨by decide,by decide⟩
def O9{q:Rat}{i:Nat}[h:BQ q i](hi:i<=20000000:=by decide):PF GB prog 116 [eR q] (eQ q):=by
 have hd:=q.den_pos;refine fn func116 J J ntmps116 J J (fun C=>?_);refine cl (fu:=⟨8⟩) J (aEP (n:=q.den) hi) J<|d7 J (by show some (decide _)=some false;rw[decide_eq_false (VA hd)]) J<|cl J (T3 (z:=q.num) hi) J<|?_;refine cl J (uV (x:=q.num) (d:=q.den) hd (by omega) (by omega)) J<|?_;exact rz J (by rw[sU];rfl)
def MS{q:Rat}{i:Nat}[h:BQ q i](hi:i<=400000000:=by decide):PF GB prog 106 [eQ q] (eR q):=by
 refine fn func106 J J ntmps106 J J (fun C=>?_);refine cl J (Co (z:=q.num) hi) J<|cl J (j' (q:=q)) J<|cl J (Pi (a:=q.den) hi) J<|?_;exact rz J J
def ZA{p:ab}{i:Nat}[h:aI p i](hi:i<=20000000:=by decide):PF GB prog 177 [mm p] (eP p):=by
 refine fn func177 J J ntmps177 J J (fun C=>?_);refine cl J (O9 (q:=p.x) hi) J<|cl J (O9 (q:=p.y) hi) J<|?_;exact rz J J
def WM{p:ab}{i:Nat}[h:aI p i](hi:i<=20000:=by decide):PF GB prog 35 [eP p] (mm p):=by
 refine fn func35 J J ntmps35 J J (fun C=>?_);refine cl J (MS (q:=p.x) (i:=i) (by omega)) J<|cl J (MS (q:=p.y) (i:=i) (by omega)) J<|?_;exact rz J J
def fI{α:Type}(f:α->DV)(l:List α):(l.map f).length=l.length:=aK ..
def pi(ps:List ab):cC 6 (ps.map eP):=fun d hd=>by
 obtain⟨u,_,rfl⟩:=bM.1 hd;exact⟨rfl,rfl⟩
def Xk(ps:List ab):cC 6 (ps.map mm):=fun d hd=>by
 obtain⟨u,_,rfl⟩:=bM.1 hd;exact⟨rfl,rfl⟩
def Wu{ps:List ab}(hb: ∀p∈ps,aI p 1200)(hn:ps.length<=1000000):PF GB prog 85 [.sl (ps.map mm)] (.sl (ps.map eP)):=by
 have hm:=fI mm ps;refine fn (fu:=⟨15⟩) func85 J J ntmps85 J J (fun C=>?_);refine ak 7 (.d (vI (ps.length:Nat))) J (by rw[hm]<;>rfl) ?_;refine gx J<|?_;refine nr 3 3 81 6 J J J ?_;refine lp (X:=Nat) (fun k=>[(8, .d (vI (k:Nat))),(3, .rw 3)]) (fun k=>[(3,some (.b 81 6 ((ps.take k).map eP) true))]) (fun k=>k<=ps.length) (fun k=>ps.length-k) 0 J (bQ _) (fun _=>J) (fun k hk=>?_);have hml:=fI eP (ps.take k);rw[cJ] at hml;refine br J J J (fun hc9=>?_) (fun hc9=>?_)
 .
  obtain⟨z,hz⟩: ∃s,ps[k]? =some s:=⟨_,aZ (by omega)⟩;have hzm:=bZ hz;refine ix _ J (d9 hz) J<|cl J (ZA (p:=z) (h:=hb z hzm)) J<|rf J J<|ap ((ps.take (k+1)).map eP) J (sB hz) (pi [z]) J<|?_;refine fA 16 3 J ?_;exact at_ (k+1) ⟨(by omega),(by omega)⟩
 .
  obtain rfl:k=ps.length:=by omega
  refine iA 3 J ?_;exact rz J (by rw[cM];rfl)
def Ng{ps:List ab}(hb: ∀p∈ps,aI p 1200)(hn:ps.length<=1000000):PF GB prog 32 [.sl (ps.map eP)] (.sl (ps.map mm)):=by
 have hm:=fI eP ps;refine fn (fu:=⟨15⟩) func32 J J ntmps32 J J (fun C=>?_);refine ak 7 (.d (vI (ps.length:Nat))) J (by rw[hm]<;>rfl) ?_;refine gx J<|?_;refine nr 3 3 73 6 J J J ?_;refine lp (X:=Nat) (fun k=>[(8, .d (vI (k:Nat))),(3, .rw 3)]) (fun k=>[(3,some (.b 73 6 ((ps.take k).map mm) true))]) (fun k=>k<=ps.length) (fun k=>ps.length-k) 0 J (bQ _) (fun _=>J) (fun k hk=>?_);have hml:=fI mm (ps.take k);rw[cJ] at hml;refine br J J J (fun hc9=>?_) (fun hc9=>?_)
 .
  obtain⟨z,hz⟩: ∃s,ps[k]? =some s:=⟨_,aZ (by omega)⟩;have hzm:=bZ hz;refine ix _ J (d9 hz) J<|cl J (WM (p:=z) (h:=hb z hzm)) J<|rf J J<|ap ((ps.take (k+1)).map mm) J (sB hz) (Xk [z]) J<|?_;refine fA 16 3 J ?_;exact at_ (k+1) ⟨(by omega),(by omega)⟩
 .
  obtain rfl:k=ps.length:=by omega
  refine iA 3 J ?_;exact rz J (by rw[cM];rfl)
def KQ{p q:ab}{i j:Nat}[hp:aI p i][hq:aI q j](hi:i<=100000:=by decide)(hj:j<=100000:=by decide):PF GB prog 154 [eP p,eP q] (eP (cv p q (-1))):=by
 refine fn func154 J J ntmps154 J J (fun C=>?_);refine cl J (kI (n:= -1) (by decide) (by decide)) J<|cl J (zp (p:=p) (q:=q) (c:=((-1:Int):Rat)) (i:=i) (j:=j) (k:=2) (by omega) (by omega)) J<|?_;exact rz J (by rw[show((-1:Int):Rat)= -1 from J];rfl)
def OA{a b c:ab}{i j k:Nat}[ha:aI a i][hb:aI b j][hc:aI c k](hi:i<=80000:=by decide)(hj:j<=80000:=by decide)(hk:k<=80000:=by decide):PF GB prog 62 [eP a,eP b,eP c] (vI (rm a b c)):=by
 refine fn func62 J J ntmps62 J J (fun C=>?_);refine cl J (KQ (p:=b) (q:=a) (i:=j) (j:=i) (by omega) (by omega)) J<|cl J (KQ (p:=c) (q:=a) (i:=k) (j:=i) (by omega) (by omega)) J<|?_;refine cl J (BD (p:=cv b a (-1)) (q:=cv c a (-1)) (by omega) (by omega)) J<|cl J (px (q:=(cv b a (-1)).cross (cv c a (-1)))) J<|?_;exact rz J J
def fB(p q:ab):Int:=if bg p.x q.x≠0 then bg p.x q.x else bg p.y q.y
def IY{p q:ab}{i j:Nat}[hp:aI p i][hq:aI q j](hi:i<=100000:=by decide)(hj:j<=100000:=by decide):PF GB prog 181 [eP p,eP q] (vI (fB p q)):=by
 refine fn func181 J J ntmps181 J J (fun C=>?_);refine cl J (lf (a:=p.x) (b:=q.x) (by omega) (by omega)) J<|?_;refine br J J J (fun hc12=>?_) (fun hc12=>?_)
 .
  exact rz J (by unfold fB;rw[if_pos hc12];rfl)
 .
  refine cl J (lf (a:=p.y) (b:=q.y) (by omega) (by omega)) J<|?_;exact rz J (by unfold fB;rw[if_neg hc12];rfl)
def uy(l:aa):Bool:=decide (l.a<0\/(l.a=0/\l.b<0))
def aa.canon(l:aa):aa:=if uy l then l.rev else l
def Al(a:Int):a.sign<0↔a<0:=by
 rcases oR a 0 with h|h|h
 ·rw[fZ h];omega
 ·subst h;simp
 ·rw[gV h];omega
def Lw(a:Int):a.sign=0↔a=0:=jX
def Lq{l:aa}(h:l.a<0\/(l.a=0/\l.b<0)):DV.tp [eL l.canon,vB (uy l)]= .tp [eL l.rev,vB true]:=by
 unfold aa.canon uy;rw[decide_eq_true h];rfl
def Jt{l:aa}(h: ¬(l.a<0\/(l.a=0/\l.b<0))):DV.tp [eL l.canon,vB (uy l)]= .tp [eL l,vB false]:=by
 unfold aa.canon uy;rw[decide_eq_false h];rfl
def Ws{l:aa}[hl:LB l]:PF GB prog 178 [eL l] (.tp [eL l.canon,vB (uy l)]):=by
 refine fn func178 J J ntmps178 J J (fun C=>?_);refine cl J (AX (z:=l.a)) J<|?_;refine cs 10 J J J (fun hg10=>?_) (fun hg10=>?_)
 .
  refine cl J (zz (l:=l)) J<|?_;exact rz J (by rw[Lq (.inl ((Al _).1 hg10))];rfl)
 .
  refine cs 13 J J J (fun hg13=>?_) (fun hg13=>?_)
  .
   refine cl J (AX (z:=l.b)) J<|?_;refine br J J J (fun hc19=>?_) (fun hc19=>?_)
   .
    refine cl J (zz (l:=l)) J<|?_;exact rz J (by rw[Lq (.inr ⟨(Lw _).1 hg13,(Al _).1 hc19⟩)];rfl)
   .
    exact rz J (by rw[Jt (fun e=>e.elim (fun e=>hg10 ((Al _).2 e)) (fun e=>hc19 ((Al _).2 e.2)))];rfl)
  .
   exact rz J (by rw[Jt (fun e=>e.elim (fun e=>hg10 ((Al _).2 e)) (fun e=>hg13 ((Lw _).2 e.1)))];rfl)
instance LB.canon (l:aa) [h:LB l]:LB l.canon:=by unfold aa.canon;split;exact LB.rev h;exact h
def qA{α β:Type}(c:β->β->Int)(g:α->β)(l:List α)(k:Nat):List β:=rB c ((l.take k).map g)
section
variable {α β:Type} {c:β->β->Int} {g:α->β} {l:List α} {k:Nat}
def vU{x:α}(h:l[k]? =some x):qA c g l (k+1)=e8 c (g x) (qA c g l k):=by
 unfold qA rB;rw[fW,h,Option.toList_some,bT,oS];rfl
def IS(h:k=l.length):qA c g l k=rB c (l.map g):=by unfold qA;rw[h,cM]
def PG:(qA c g l k).length<=k:=by
 have:=Qc c ((l.take k).map g) [];have h2:((l.take k).map g).length<=k:=by rw[aK,cJ];omega
 rw[iR] at this;unfold qA rB;omega
def Nm{y:β}(h:y∈qA c g l k): ∃x∈l,y=g x:=by
 rcases Jj c h with h|h
 ·obtain⟨x,hx,rfl⟩:=bM.1 h
  exact⟨x,fY hx,J⟩
 ·cases h
end
def ti{α:Type}{f:α->DV}{s:Nat}(ok: ∀l:List α,cC s (l.map f))(xs:List α)(n:Nat):cC s ((xs.map f).take n):=fun d hd=>ok xs d (fY hd)
def ri{α:Type}{f:α->DV}{s:Nat}(ok: ∀l:List α,cC s (l.map f))(xs:List α)(n m:Nat):cC s (((xs.map f).take n).drop m):=fun d hd=>ok xs d (fY (iQ hd))
def tq{α:Type}{f:α->DV}{s:Nat}(ok: ∀l:List α,cC s (l.map f))(xs:List α)(n m:Nat)(x:α):cC s ([f x]++((xs.map f).take n).drop m):=fun d hd=>by
 rcases cX.1 hd with h|h
 ·exact ok [x] d h
 ·exact ri ok xs n m d h
def p6{α:Type}{f:α->DV}{l:List α}{i:Nat}(h:i<l.length):(l.map f)[(i:Int).toNat]? =some (f l[i]):=by
 rw[bW,eJ,aZ h];rfl
def VY{ps:List ab}(hb: ∀p∈ps,aI p 1200)(hn:ps.length<=100000):PF GB prog 90 [.sl (ps.map eP)] (.sl ((rB fB ps).map eP)):=by
 have hm':=fI eP ps;refine fn (fu:=⟨15⟩) func90 J J ntmps90 J J (fun C=>?_);refine ak 8 (.d (vI (ps.length:Nat))) J (by rw[hm'];rfl) ?_;refine gx J<|?_;refine A4 3 J ?_;refine lp (X:=List ab×Nat) (fun⟨xs,k⟩=>[(9, .d (vI (k:Nat))),(8, .d (vI (ps.length:Nat))),(7, .d (.sl (ps.map eP))),(0, .d (.sl (ps.map eP))),(3, .d (.sl (xs.map eP)))]) (fun⟨xs,k⟩=>[]) (fun⟨xs,k⟩=>xs=qA fB id ps k/\k<=ps.length) (fun⟨xs,k⟩=>ps.length-k) ⟨[],0⟩ J ⟨J,bQ _⟩ (fun _=>J) (fun⟨xs,k⟩ hk=>?_)
 try dsimp only at hk⊢
 obtain⟨hS,hkl⟩:=hk;refine br J J J (fun hc10=>?_) (fun hc10=>?_)
 .
  have hk:k<ps.length:=by omega
  obtain⟨m,hm⟩: ∃m,m=ps[k]:=⟨_,rfl⟩;have hz:ps[k]? =some m:=by rw[hm];exact aZ hk
  haveI hmb:aI m 1200:=hm▸hb _ (cV hk);have hxl:=fI eP xs;have hxn:xs.length<=k:=by rw[hS];exact PG
  have hxb: ∀q∈xs,aI q 1200:=fun q hq=>by rw[hS] at hq;obtain⟨z,hz,he⟩:=Nm hq;rw[he];exact hb z hz
  refine ix (fu:=⟨1⟩) _ J (p6 hk) J<|?_;refine ak 12 (.d (eP m)) J (by rw[hm];rfl) ?_;refine gx (fu:=⟨10⟩) J<|?_;refine mg (fu:=⟨5⟩) (X:=Unit) (fun _=>[(9, .d (vI (k:Nat))),(8, .d (vI (ps.length:Nat))),(7, .d (.sl (ps.map eP))),(0, .d (.sl (ps.map eP))),(3, .d (.sl (xs.map eP))),(5, .ov 5 0),(6, .d (vI (ju fB m xs:Nat)))]) (fun _=>[(5,some (.o 81 [.d ((.v (.bool (decide (m.x.num<0))))), .d (dN m.x.num.natAbs), .d (dD m.x.den), .d ((.v (.bool (decide (m.y.num<0))))), .d (dN m.y.num.natAbs), .d (dD m.y.den)] true))]) (fun _=>True) [9,8,7,0,3,5,6] [5] rfl ?_ (fun _=>J) (fun _ _=>?_)
  .
   refine gx J<|?_;refine lp (fu:=⟨6⟩) (X:=Nat) (fun n=>[(9, .d (vI (k:Nat))),(8, .d (vI (ps.length:Nat))),(7, .d (.sl (ps.map eP))),(0, .d (.sl (ps.map eP))),(3, .d (.sl (xs.map eP))),(5, .ov 5 0),(6, .d (vI (n:Nat)))]) (fun n=>[(5,some (.o 81 [.d ((.v (.bool (decide (m.x.num<0))))), .d (dN m.x.num.natAbs), .d (dD m.x.den), .d ((.v (.bool (decide (m.y.num<0))))), .d (dN m.y.num.natAbs), .d (dD m.y.den)] true))]) (fun n=>n<=xs.length/\ ∀j (h:j<xs.length),j<n->fB xs[j] m<0) (fun n=>xs.length-n) 0 J ⟨bQ _,fun j _ hj=>absurd hj (by omega)⟩ (fun _=>J) (fun n hk=>?_);obtain⟨n1,n2⟩:=hk;refine l6 (v2:=fun hg16=>by simp only[ah];kernel_rfl) J J J J (fun hg16=>?_) (fun hg16=>?_)
   .
    refine ix _ J (p6 (by omega)) J<|cl J (IY (p:=xs[n]'(by omega)) (q:=m) (hp:=hxb _ (cV (by omega))) (hq:=hmb)) J<|?_;refine br J J J (fun hc25=>?_) (fun hc25=>?_)
    .
     exact at_ (n+1) ⟨⟨by omega,fun j h hj=>by by_cases q:j=n;(subst q;exact hc25);exact n2 j h (by omega)⟩,(by omega)⟩
    .
     have hidx:ju fB m xs=n:=tn fB n1 n2 (fun h=>hc25);exact at_ () trivial
   .
    have hidx:ju fB m xs=n:=tn fB n1 n2 (fun h=>absurd h (by omega));exact at_ () trivial
  .
   obtain⟨n,hnx⟩: ∃n,ju fB m xs=n:=⟨_,rfl⟩;rw[hnx];have hnl:n<=xs.length:=by rw[<-hnx];exact A' _ _ _
   refine l6 (v1:=fun hg31=>by simp only[ah];kernel_rfl) J J J J (fun hg31=>?_) (fun hg31=>?_)
   .
    have hnew: ∀h:n<xs.length,fB xs[n] m≠0:=fun h=>absurd h (by omega);obtain⟨ys,hys⟩: ∃ys,ys=xs.take n++m::xs.drop n:=⟨_,rfl⟩;have hin:e8 fB m xs=ys:=by rw[hys];exact rx fB hnx hnew
    have hyl:ys.length<=xs.length+1:=by rw[hys];simp;omega
    refine s3 n _ J J J J (pi _) (by rw[hxl];exact hnl) J<|ro J J<|k9 n xs.length _ J J (by rw[hxl]) J (pi _) hnl (by omega) J<|?_;refine ap _ J J (ri pi _ _ _) J<|k8 (hv:=by simp only[ah];exact⟨by kernel_rfl,by omega⟩) (ho:=fun _=>⟨ti pi _ _,by simp⟩) (ys.map eP) J (by rw[hys,bT,bJ,jZ,kK,aU (l:=xs.map eP) (i:=xs.length) (by simp)];rfl) (tq pi _ _ _ _) J<|?_;exact at_ ⟨ys,k+1⟩ (by dsimp only;exact⟨⟨by rw[vU hz,<-hS];exact hin.symm,by omega⟩,(by omega)⟩)
   .
    refine ix _ J (p6 (by omega)) J<|cl J (IY (p:=xs[n]'(by omega)) (q:=m) (hp:=hxb _ (cV (by omega))) (hq:=hmb)) J<|?_;refine br J J J (fun hc40=>?_) (fun hc40=>?_)
    .
     have hnew: ∀h:n<xs.length,fB xs[n] m≠0:=fun h=>hc40;obtain⟨ys,hys⟩: ∃ys,ys=xs.take n++m::xs.drop n:=⟨_,rfl⟩;have hin:e8 fB m xs=ys:=by rw[hys];exact rx fB hnx hnew
     have hyl:ys.length<=xs.length+1:=by rw[hys];simp;omega
     refine s3 n _ J J J J (pi _) (by rw[hxl];exact hnl) J<|ro J J<|k9 n xs.length _ J J (by rw[hxl]) J (pi _) hnl (by omega) J<|?_;refine ap _ J J (ri pi _ _ _) J<|k8 (hv:=by simp only[ah];exact⟨by kernel_rfl,by omega⟩) (ho:=fun _=>⟨ti pi _ _,by simp⟩) (ys.map eP) J (by rw[hys,bT,bJ,jZ,kK,aU (l:=xs.map eP) (i:=xs.length) (by simp)];rfl) (tq pi _ _ _ _) J<|?_;exact at_ ⟨ys,k+1⟩ (by dsimp only;exact⟨⟨by rw[vU hz,<-hS];exact hin.symm,by omega⟩,(by omega)⟩)
    .
     have hin:e8 fB m xs=xs:=xu fB hnx (by omega) (Decidable.not_not.1 hc40);exact at_ ⟨xs,k+1⟩ (by dsimp only;exact⟨⟨by rw[vU hz,<-hS];exact hin.symm,by omega⟩,(by omega)⟩)
 .
  have hfin:rB fB ps=xs:=by rw[hS,IS (by omega),List.map_id]
  exact rz J (by rw[hfin];rfl)
def uF(ls:List aa):List aa:=rB im (ls.map aa.canon)
def RZ{ls:List aa}(hb: ∀p∈ls,LB p)(hn:ls.length<=100000):PF GB prog 86 [.sl (ls.map eL)] (.sl ((uF ls).map eL)):=by
 have hm':=fI eL ls;refine fn (fu:=⟨15⟩) func86 J J ntmps86 J J (fun C=>?_);refine ak 8 (.d (vI (ls.length:Nat))) J (by rw[hm'];rfl) ?_;refine gx J<|?_;refine A4 3 J ?_;refine lp (X:=List aa×Nat) (fun⟨xs,k⟩=>[(9, .d (vI (k:Nat))),(8, .d (vI (ls.length:Nat))),(7, .d (.sl (ls.map eL))),(0, .d (.sl (ls.map eL))),(3, .d (.sl (xs.map eL)))]) (fun⟨xs,k⟩=>[]) (fun⟨xs,k⟩=>xs=qA im aa.canon ls k/\k<=ls.length) (fun⟨xs,k⟩=>ls.length-k) ⟨[],0⟩ J ⟨J,bQ _⟩ (fun _=>J) (fun⟨xs,k⟩ hk=>?_)
 try dsimp only at hk⊢
 obtain⟨hS,hkl⟩:=hk;refine br J J J (fun hc10=>?_) (fun hc10=>?_)
 .
  have hk:k<ls.length:=by omega
  obtain⟨z,hm⟩: ∃m,m=ls[k]:=⟨_,rfl⟩;have hz:ls[k]? =some z:=by rw[hm];exact aZ hk
  haveI hzb:LB z:=hm▸hb _ (cV hk);obtain⟨m,hmc⟩: ∃m,m=z.canon:=⟨_,rfl⟩;haveI hmb:LB m:=by rw[hmc];infer_instance
  have hxl:=fI eL xs;have hxn:xs.length<=k:=by rw[hS];exact PG
  have hxb: ∀q∈xs,LB q:=fun q hq=>by rw[hS] at hq;obtain⟨z,hz,rfl⟩:=Nm hq;haveI:=hb z hz;infer_instance
  refine ix (fu:=⟨1⟩) _ J (p6 hk) J<|?_;refine ak 12 (.d (eL z)) J (by rw[hm];rfl) ?_;refine gx J<|cl (fu:=⟨2⟩) J (Ws (l:=z)) J<|?_;refine ak 16 (.d (eL m)) J (by rw[hmc]) ?_;refine gx (fu:=⟨10⟩) J<|?_;refine mg (fu:=⟨5⟩) (X:=Unit) (fun _=>[(9, .d (vI (k:Nat))),(8, .d (vI (ls.length:Nat))),(7, .d (.sl (ls.map eL))),(0, .d (.sl (ls.map eL))),(3, .d (.sl (xs.map eL))),(5, .ov 5 0),(6, .d (vI (ju im m xs:Nat)))]) (fun _=>[(5,some (.o 115 [.d ((.v (.bool (decide (m.a<0))))), .d (dN m.a.natAbs), .d ((.v (.bool (decide (m.b<0))))), .d (dN m.b.natAbs), .d ((.v (.bool (decide (m.c<0))))), .d (dN m.c.natAbs)] true))]) (fun _=>True) [9,8,7,0,3,5,6] [5] rfl ?_ (fun _=>J) (fun _ _=>?_)
  .
   refine gx J<|?_;refine lp (fu:=⟨6⟩) (X:=Nat) (fun n=>[(9, .d (vI (k:Nat))),(8, .d (vI (ls.length:Nat))),(7, .d (.sl (ls.map eL))),(0, .d (.sl (ls.map eL))),(3, .d (.sl (xs.map eL))),(5, .ov 5 0),(6, .d (vI (n:Nat)))]) (fun n=>[(5,some (.o 115 [.d ((.v (.bool (decide (m.a<0))))), .d (dN m.a.natAbs), .d ((.v (.bool (decide (m.b<0))))), .d (dN m.b.natAbs), .d ((.v (.bool (decide (m.c<0))))), .d (dN m.c.natAbs)] true))]) (fun n=>n<=xs.length/\ ∀j (h:j<xs.length),j<n->im xs[j] m<0) (fun n=>xs.length-n) 0 J ⟨bQ _,fun j _ hj=>absurd hj (by omega)⟩ (fun _=>J) (fun n hk=>?_);obtain⟨n1,n2⟩:=hk;refine l6 (v2:=fun hg21=>by simp only[ah];kernel_rfl) J J J J (fun hg21=>?_) (fun hg21=>?_)
   .
    refine ix _ J (p6 (by omega)) J<|cl J (B6 (l:=xs[n]'(by omega)) (m:=m) (hl:=hxb _ (cV (by omega))) (hm:=hmb)) J<|?_;refine br J J J (fun hc30=>?_) (fun hc30=>?_)
    .
     exact at_ (n+1) ⟨⟨by omega,fun j h hj=>by by_cases q:j=n;(subst q;exact hc30);exact n2 j h (by omega)⟩,(by omega)⟩
    .
     have hidx:ju im m xs=n:=tn im n1 n2 (fun h=>hc30);exact at_ () trivial
   .
    have hidx:ju im m xs=n:=tn im n1 n2 (fun h=>absurd h (by omega));exact at_ () trivial
  .
   obtain⟨n,hnx⟩: ∃n,ju im m xs=n:=⟨_,rfl⟩;rw[hnx];have hnl:n<=xs.length:=by rw[<-hnx];exact A' _ _ _
   refine l6 (v1:=fun hg36=>by simp only[ah];kernel_rfl) J J J J (fun hg36=>?_) (fun hg36=>?_)
   .
    have hnew: ∀h:n<xs.length,im xs[n] m≠0:=fun h=>absurd h (by omega);obtain⟨ys,hys⟩: ∃ys,ys=xs.take n++m::xs.drop n:=⟨_,rfl⟩;have hin:e8 im m xs=ys:=by rw[hys];exact rx im hnx hnew
    have hyl:ys.length<=xs.length+1:=by rw[hys];simp;omega
    refine s3 n _ J J J J (fE _) (by rw[hxl];exact hnl) J<|ro J J<|k9 n xs.length _ J J (by rw[hxl]) J (fE _) hnl (by omega) J<|?_;refine ap _ J J (ri fE _ _ _) J<|k8 (hv:=by simp only[ah];exact⟨by kernel_rfl,by omega⟩) (ho:=fun _=>⟨ti fE _ _,by simp⟩) (ys.map eL) J (by rw[hys,bT,bJ,jZ,kK,aU (l:=xs.map eL) (i:=xs.length) (by simp)];rfl) (tq fE _ _ _ _) J<|?_;exact at_ ⟨ys,k+1⟩ (by dsimp only;exact⟨⟨by rw[vU hz,<-hS,<-hmc];exact hin.symm,by omega⟩,(by omega)⟩)
   .
    refine ix _ J (p6 (by omega)) J<|cl J (B6 (l:=xs[n]'(by omega)) (m:=m) (hl:=hxb _ (cV (by omega))) (hm:=hmb)) J<|?_;refine br J J J (fun hc45=>?_) (fun hc45=>?_)
    .
     have hnew: ∀h:n<xs.length,im xs[n] m≠0:=fun h=>hc45;obtain⟨ys,hys⟩: ∃ys,ys=xs.take n++m::xs.drop n:=⟨_,rfl⟩;have hin:e8 im m xs=ys:=by rw[hys];exact rx im hnx hnew
     have hyl:ys.length<=xs.length+1:=by rw[hys];simp;omega
     refine s3 n _ J J J J (fE _) (by rw[hxl];exact hnl) J<|ro J J<|k9 n xs.length _ J J (by rw[hxl]) J (fE _) hnl (by omega) J<|?_;refine ap _ J J (ri fE _ _ _) J<|k8 (hv:=by simp only[ah];exact⟨by kernel_rfl,by omega⟩) (ho:=fun _=>⟨ti fE _ _,by simp⟩) (ys.map eL) J (by rw[hys,bT,bJ,jZ,kK,aU (l:=xs.map eL) (i:=xs.length) (by simp)];rfl) (tq fE _ _ _ _) J<|?_;exact at_ ⟨ys,k+1⟩ (by dsimp only;exact⟨⟨by rw[vU hz,<-hS,<-hmc];exact hin.symm,by omega⟩,(by omega)⟩)
    .
     have hin:e8 im m xs=xs:=xu im hnx (by omega) (Decidable.not_not.1 hc45);exact at_ ⟨xs,k+1⟩ (by dsimp only;exact⟨⟨by rw[vU hz,<-hS,<-hmc];exact hin.symm,by omega⟩,(by omega)⟩)
 .
  have hfin:uF ls=xs:=by rw[hS,IS (by omega)];rfl
  exact rz J (by rw[hfin];rfl)
def Eb(a b:Tr):List ab:=L5 (uF (a.lns++b.lns))
def eqR(a b:Tr):Bool:=(Eb a b).all fun p=>tC a p==tC b p
def aIB(f:Bool->Bool->Bool)(a b:Tr):Bool:=(Eb a b).any fun p=>f (tC a p) (tC b p)
def aGw(v:Bool)(t:Tr):Bool:=decide ((t.restrict []).isLeaf=true/\(t.restrict []).code=v)
def Vu(L:List aa)(p:ab):List ab:=L.flatMap fun l=>if Int.sign (l.value p).num=0 then [l.dir,nO l.dir] else []
def Gw(S:List ab)(x:ab):Nat->Nat
 |0=>0
 |k+1=>if 0<ir (S.getD k ⟨0,0⟩) x then Gw S x k else k+1
def Y0(S:List ab)(x:ab):List ab:=S.take (Gw S x S.length)++x::S.drop (Gw S x S.length)
def aFv(ds:List ab):List ab:=ds.foldl Y0 []
structure aIv (L:List aa):Prop where
 ok: ∀l∈L,l.ok
 cn: ∀l∈L,uy l=false
 nd:L.Pairwise (fun a b=>a≠b)
def LX(v:ab):Nat:=Nat.gcd (v.x.num.natAbs*v.y.den) (v.y.num.natAbs*v.x.den)
def Kx(n:Int)(d g:Nat):Int:=if n<0 then-((n.natAbs*d/g:Nat):Int) else((n.natAbs*d/g:Nat):Int)
def OM(v:ab):ab:=if v.half=0 then⟨0,0⟩ else⟨(Kx v.x.num v.y.den (LX v):Int),(Kx v.y.num v.x.den (LX v):Int)⟩
def T8(ds:List ab)(i:Nat):List ab:=
 if ir (ds.getD i ⟨0,0⟩) (ds.getD ((i+1)%ds.length) ⟨0,0⟩)=0/\2<ds.length then []
 else if Int.sign ((ds.getD i ⟨0,0⟩).cross (ds.getD ((i+1)%ds.length) ⟨0,0⟩)).num=0 then [kP (ds.getD i ⟨0,0⟩)]
 else [cv (OM (ds.getD i ⟨0,0⟩)) (OM (ds.getD ((i+1)%ds.length) ⟨0,0⟩)) 1]
def Vx(ds:List ab):List ab:=if ds.length=0 then [⟨1,0⟩] else(List.range ds.length).flatMap (T8 ds)
def Ni(L:List aa)(p:ab):List ab:=Vx (aFv (Vu L p))
def aG2(t:Tr)(p:ab):Bool:=(Ni (uF t.lns) p).any fun v=>(sd t p v).1
def Vj(t:Tr)(p:ab):Bool:=(Ni (uF t.lns) p).all fun v=>(sd t p v).1
def Or{z:Rat}(h:z<0):Int.sign z.num= -1:=by
 have:=(pc _).2 h;rcases oR z.num 0 with q|q|q
 ·exact fZ q
 ·rw[q] at this;simp at this
 ·rw[gV q] at this;simp at this
def AH:Tr->ab->List aa
 | .leaf _,_=>[]
 | .node l x y,p=>(if Int.sign (l.value p).num=0 then [l] else [])++((if 0<=Int.sign (l.value p).num then AH x p else [])++(if Int.sign (l.value p).num<=0 then AH y p else []))
def aHZ(t:Tr)(p:ab)(b:Bool):Prop:= ∃v,Gn (AH t p) p v/\(sd t p v).1=b
def Vz(ds:List ab)(i:Nat):ab:=
 if 0<Int.sign ((ds.getD i ⟨0,0⟩).cross (ds.getD ((i+1)%ds.length) ⟨0,0⟩)).num then(ds.getD i ⟨0,0⟩).add (ds.getD ((i+1)%ds.length) ⟨0,0⟩) else kP (ds.getD i ⟨0,0⟩)
def yg(ds:List ab):List ab:=if ds.length=0 then [⟨1,0⟩] else(List.range ds.length).map (Vz ds)
def zb(v:ab):ab:=v.scale (rgcd v.x v.y)⁻¹
def Ms(t:Tr)(p:ab):List ab:=(AH t p).flatMap fun l=>[zb l.dir,nO (zb l.dir)]
def H9(ds:List ab):List ab:=rB ir ds
section
variable {α:Type} (c:α->α->Int)
end
def Mq(t:Tr)(p:ab):Bool:=(yg (H9 (Ms t p))).any fun v=>(sd t p v).1
def alP(t:Tr)(p:ab):Bool:=(yg (H9 (Ms t p))).all fun v=>(sd t p v).1
def aGl(t:Tr)(p:ab):Int:=if Mq t p&&alP t p then 2 else if Mq t p then 1 else 0
def vJ(vs:List aj):cC 8 (vs.map eV):=fun d hd=>by
 obtain⟨u,_,rfl⟩:=bM.1 hd;exact⟨rfl,rfl⟩
def iv(qs:List Rat):cC 3 (qs.map eQ):=fun d hd=>by
 obtain⟨u,_,rfl⟩:=bM.1 hd;exact⟨rfl,rfl⟩
def MA(bs:List Bool):cC 1 (bs.map vB):=fun d hd=>by
 obtain⟨u,_,rfl⟩:=bM.1 hd;exact⟨rfl,rfl⟩
def We{l:List aj}{k:Nat}{v:aj}{t:Rat}{a b:Int}(h:l[k]? =some v)(ha:a=if v.nl then 1 else bg t v.lo)(hb:b=if v.nh then-1 else bg t v.hi):
  oP (l.drop k) t=if 0<a/\b<0 then 2 else if(a=0/\b<=0)\/(b=0/\0<=a) then 1 else oP (l.drop (k+1)) t:=by
 obtain⟨hk,rfl⟩:=aM.1 h;rw[bX hk,oP,ha,hb]
structure l8 (v:aj):Prop where
 lo:BQ v.lo 1200
 hi:BQ v.hi 1200
def RU{l:List aj}{t:Rat}{i:Nat}[ht:BQ t i](hb: ∀v∈l,l8 v)(hn:l.length<=100000)(hi:i<=20000:=by decide):PF GB prog 295 [.sl (l.map eV),eQ t] (vI (oP l t)):=by
 have hm:=fI eV l;refine fn (fu:=⟨11⟩) func295 J J ntmps295 J J (fun C=>?_);refine ak 10 (.d (vI (l.length:Nat))) J (by rw[hm]<;>rfl) ?_;refine gx J<|?_;refine lp (X:=Nat) (fun k=>[(11, .d (vI (k:Nat)))]) (fun k=>[]) (fun k=>k<=l.length/\oP (l.drop k) t=oP l t) (fun k=>l.length-k) 0 J ⟨bQ _,J⟩ (fun _=>J) (fun k hk=>?_);obtain⟨h1,h2⟩:=hk;refine br J J J (fun hc12=>?_) (fun hc12=>?_)
 .
  obtain⟨v,hz⟩: ∃s,l[k]? =some s:=⟨_,aZ (by omega)⟩;have hv:=hb v (bZ hz);haveI:=hv.lo;haveI:=hv.hi;refine ix (fu:=⟨12⟩) _ J (d9 hz) J<|?_;refine mg (fu:=⟨1⟩) (X:=Int) (fun a=>[(7, .d (vI a))]) (fun a=>[]) (fun a=>a=if v.nl then 1 else bg t v.lo) [7] [] rfl ?_ (fun _=>J) (fun a ha=>?_)
  .
   refine gx J<|?_;refine bb J J J (fun hc17=>?_) (fun hc17=>?_)
   .
    refine cl J (lf (a:=t) (b:=v.lo) (i:=i) (by omega)) J<|?_;exact at_ (bg t v.lo) (by rw[if_neg (by simpa using hc17)])
   .
    exact at_ 1 (by rw[if_pos (by simpa using hc17)])
  .
   refine mg (X:=Int) (fun b=>[(8, .d (vI b))]) (fun b=>[]) (fun b=>b=if v.nh then-1 else bg t v.hi) [8] [] rfl ?_ (fun _=>J) (fun b hb'=>?_)
   .
    refine gx J<|?_;refine bb J J J (fun hc24=>?_) (fun hc24=>?_)
    .
     refine cl J (lf (a:=t) (b:=v.hi) (i:=i) (by omega)) J<|?_;exact at_ (bg t v.hi) (by rw[if_neg (by simpa using hc24)])
    .
     exact at_ (-1) (by rw[if_pos (by simpa using hc24)])
   .
    have hst:=We hz ha hb';refine cs 31 J J J (fun hg31=>?_) (fun hg31=>?_)
    .
     refine br J J J (fun hc34=>?_) (fun hc34=>?_)
     .
      exact rz J (by first|(rw[<-h2,fU];rfl)|(rw[<-h2,hst,if_pos (by omega)];rfl)|(rw[<-h2,hst,if_neg (by omega),if_pos (by omega)];rfl))
     .
      refine cs 37 J J J (fun hg37=>?_) (fun hg37=>?_)
      .
       refine cs 41 J J J (fun hg41=>?_) (fun hg41=>?_)
       .
        exact rz J (by first|(rw[<-h2,fU];rfl)|(rw[<-h2,hst,if_pos (by omega)];rfl)|(rw[<-h2,hst,if_neg (by omega),if_pos (by omega)];rfl))
       .
        refine cs 44 J J J (fun hg44=>?_) (fun hg44=>?_)
        .
         refine br J J J (fun hc48=>?_) (fun hc48=>?_)
         .
          exact rz J (by first|(rw[<-h2,fU];rfl)|(rw[<-h2,hst,if_pos (by omega)];rfl)|(rw[<-h2,hst,if_neg (by omega),if_pos (by omega)];rfl))
         .
          exact at_ (k+1) ⟨⟨by omega,by rw[<-h2,hst,if_neg (by omega),if_neg (by omega)]⟩,(by omega)⟩
        .
         exact at_ (k+1) ⟨⟨by omega,by rw[<-h2,hst,if_neg (by omega),if_neg (by omega)]⟩,(by omega)⟩
      .
       refine cs 44 J J J (fun hg44=>?_) (fun hg44=>?_)
       .
        refine br J J J (fun hc48=>?_) (fun hc48=>?_)
        .
         exact rz J (by first|(rw[<-h2,fU];rfl)|(rw[<-h2,hst,if_pos (by omega)];rfl)|(rw[<-h2,hst,if_neg (by omega),if_pos (by omega)];rfl))
        .
         exact at_ (k+1) ⟨⟨by omega,by rw[<-h2,hst,if_neg (by omega),if_neg (by omega)]⟩,(by omega)⟩
       .
        exact at_ (k+1) ⟨⟨by omega,by rw[<-h2,hst,if_neg (by omega),if_neg (by omega)]⟩,(by omega)⟩
    .
     refine cs 37 J J J (fun hg37=>?_) (fun hg37=>?_)
     .
      refine cs 41 J J J (fun hg41=>?_) (fun hg41=>?_)
      .
       exact rz J (by first|(rw[<-h2,fU];rfl)|(rw[<-h2,hst,if_pos (by omega)];rfl)|(rw[<-h2,hst,if_neg (by omega),if_pos (by omega)];rfl))
      .
       refine cs 44 J J J (fun hg44=>?_) (fun hg44=>?_)
       .
        refine br J J J (fun hc48=>?_) (fun hc48=>?_)
        .
         exact rz J (by first|(rw[<-h2,fU];rfl)|(rw[<-h2,hst,if_pos (by omega)];rfl)|(rw[<-h2,hst,if_neg (by omega),if_pos (by omega)];rfl))
        .
         exact at_ (k+1) ⟨⟨by omega,by rw[<-h2,hst,if_neg (by omega),if_neg (by omega)]⟩,(by omega)⟩
       .
        exact at_ (k+1) ⟨⟨by omega,by rw[<-h2,hst,if_neg (by omega),if_neg (by omega)]⟩,(by omega)⟩
     .
      refine cs 44 J J J (fun hg44=>?_) (fun hg44=>?_)
      .
       refine br J J J (fun hc48=>?_) (fun hc48=>?_)
       .
        exact rz J (by first|(rw[<-h2,fU];rfl)|(rw[<-h2,hst,if_pos (by omega)];rfl)|(rw[<-h2,hst,if_neg (by omega),if_pos (by omega)];rfl))
       .
        exact at_ (k+1) ⟨⟨by omega,by rw[<-h2,hst,if_neg (by omega),if_neg (by omega)]⟩,(by omega)⟩
      .
       exact at_ (k+1) ⟨⟨by omega,by rw[<-h2,hst,if_neg (by omega),if_neg (by omega)]⟩,(by omega)⟩
 .
  obtain rfl:k=l.length:=by omega
  exact rz J (by first|(rw[<-h2,fU];rfl)|(rw[<-h2,hst,if_pos (by omega)];rfl)|(rw[<-h2,hst,if_neg (by omega),if_pos (by omega)];rfl))
def OW{l:List aj}{t:Rat}{i:Nat}[ht:BQ t i](hb: ∀v∈l,l8 v)(hn:l.length<=100000)(hi:i<=20000:=by decide):PF GB prog 292 [.sl (l.map eV),eQ t] (vB (dE l t)):=by
 refine fn func292 J J ntmps292 J J (fun C=>?_);refine cl J (RU (l:=l) (t:=t) hb hn hi) J<|?_;exact rz J J
def OD: ∀{l:List Rat} {i:Nat} {a b:Rat},l[i]? =some a->l[i+1]? =some b->eO (l.take (i+2))=eO (l.take (i+1))++[(a+b)/2]
 |[],i,a,b,h,_=>by simp at h
 |[_],i,a,b,h,k=>by simp at k
 |c::d::t,0,a,b,h,k=>by
  simp at h k;subst h;subst k;simp[eO]
 |c::d::t,i+1,a,b,h,k=>by
  have:=OD (l:=d::t) (i:=i) (by simpa using h) (by simpa using k);rw[show(c::d::t).take (i+1+2)=c::d::t.take (i+1) by simp,show(c::d::t).take (i+1+1)=c::d::t.take i by simp,eO,eO,cK];congr 1
def Ft: ∀l:List Rat,(eO l).length<=l.length
 |[]=>aL _
 |[_]=>bQ _
 |a::b::t=>by rw[eO,bU,bU];exact Nat.succ_le_succ (Ft (b::t))
def XI{a:Rat}{t:List Rat}{z:Rat}(h:(a::t)[t.length]? =some z):c6 (a::t)=(a-1)::(eO (a::t)++[z+1]):=by
 rw[c6];have:(a::t).getLast (by simp)=z:=by
  rw[List.getLast_eq_getElem];have:=aM.1 h;obtain⟨h1,h2⟩:=this;rw[<-h2];congr 1
 rw[this]
def XA{cuts:List Rat}(hb: ∀q∈cuts,BQ q 1200)(hn:cuts.length<=100000):PF GB prog 291 [.sl (cuts.map eQ)] (.sl ((c6 cuts).map eQ)):=by
 have hm:=fI eQ cuts;refine fn (fu:=⟨10⟩) func291 J J ntmps291 J J (fun C=>?_);refine ak 6 (.d (vI (cuts.length:Nat))) J (by rw[hm]<;>rfl) ?_;refine gx J<|?_;refine br J J J (fun hc7=>?_) (fun hc7=>?_)
 .
  obtain rfl:cuts=[]:=bK (by omega);refine rf J J<|?_;exact rz J (by rw[c6];show DV.sl [_]=DV.sl [_];rw[LE])
 .
  obtain⟨a,ct,rfl⟩: ∃a t,cuts=a::t:=by cases cuts with|nil=>exact absurd rfl hc7|cons a t=>exact⟨a,t,rfl⟩
  haveI hab:=hb a aQ;have hcl:ct.length+1<=100000:=hn;refine ix _ J J J<|cl J (kI (n:=1) (by decide) (by decide)) J<|cl (fu:=⟨0⟩) J (ru (a:=a) (b:=((1:Int):Rat))) J<|?_;refine ak 14 (.d (eQ (a-1))) J J ?_;refine gx J<|ro J J<|?_;refine lp (fu:=⟨6⟩) (X:=Nat) (fun i=>[(4, .d (vI ((i+1:Nat):Int))),(3, .rw 15)]) (fun i=>[(15,some (.b 79 3 (((a-1)::eO ((a::ct).take (i+1))).map eQ) true))]) (fun i=>i<=ct.length) (fun i=>ct.length-i) 0 J (bQ _) (fun _=>J) (fun i hk=>?_);have hm2:=fI eQ (a::ct);have hml:=Ft (a::ct.take i);rw[bU,cJ] at hml;have hml2:=Ft (a::ct);rw[bU] at hml2;refine ak 18 (.d (vI ((ct.length+1:Nat):Int))) J (by rw[hm2]<;>rfl) ?_;refine gx J<|?_;refine br (fu2:=⟨11⟩) J J J (fun hc19=>?_) (fun hc19=>?_)
  .
   obtain⟨u,hu⟩: ∃s,(a::ct)[i]? =some s:=⟨_,aZ (by simp;omega)⟩;obtain⟨w,hw⟩: ∃s,(a::ct)[i+1]? =some s:=⟨_,aZ (by simp;omega)⟩;haveI:=hb u (bZ hu);haveI:=hb w (bZ hw);refine ix _ J (by rw[show((((i+1:Nat):Int))-1).toNat=i by omega,eJ,hu];rfl) J<|ix _ J (by rw[bW,eJ,hw];rfl) J<|?_;refine cl J (D4 (a:=u) (b:=w)) J<|rf J J<|ap (hv:=by simp only[ah];exact⟨by kernel_rfl,by omega⟩) (((a-1)::eO ((a::ct).take (i+1+1))).map eQ) J (by rw[OD hu hw,<-cK,bT];rfl) (iv [(u+w)/2]) J<|?_;refine fA 34 15 J ?_;exact at_ (i+1) ⟨(by omega),(by omega)⟩
  .
   obtain rfl:i=ct.length:=by omega
   obtain⟨z,hz⟩: ∃s,(a::ct)[ct.length]? =some s:=⟨_,aZ (by simp)⟩;haveI:=hb z (bZ hz);rw[show(a::ct).take (ct.length+1)=a::ct from cM (l:=a::ct)];refine ak 38 (.d (vI ((ct.length+1:Nat):Int))) J (by rw[hm2]<;>rfl) ?_;refine gx J<|ix _ J (by rw[show((((ct.length+1:Nat):Int))-1).toNat=ct.length by omega,eJ,hz];rfl) J<|cl J (kI (n:=1) (by decide) (by decide)) J<|?_;refine cl J (ot (a:=z) (b:=((1:Int):Rat))) J<|rf J J<|ap ((c6 (a::ct)).map eQ) J (by rw[XI hz,<-cK,bT];rfl) (iv [z+1]) J<|?_;refine iA 45 J ?_;exact rz J J
def Jm(o:List Rat)(s:aj):(fG o s).length<=o.length+2:=by
 unfold fG;have h:=fun(x:Rat) (l:List Rat)=>y0 (x:=x) (l:=l)▸A9 bg x l;have h1:=h s.lo o;have h2:=h s.hi o;have h3:=h s.hi (en s.lo o);split<;>split<;>omega
def pB(l:List aj)(k:Nat):List Rat:=d6 (l.take k)
def MP{l:List aj}{k:Nat}{v:aj}(h:l[k]? =some v):pB l (k+1)=fG (pB l k) v:=by
 unfold pB d6;rw[fW,h,oS];rfl
def B8(l:List aj): ∀k,(pB l k).length<=2*k
 |0=>aL _
 |k+1=>by
  cases h:l[k]? with
  |none=>
   have:=B8 l k;unfold pB at*;rw[fW,h];simp;omega
  |some v=>rw[MP h];have:=B8 l k;have:=Jm (pB l k) v;omega
theorem Jn{l:List aj}(hb: ∀v∈l,l8 v){k:Nat}: ∀y∈pB l k,BQ y 1200:=fun y hy=>by
 obtain⟨s,hs,h⟩:=(ES _).2 y hy;have:=hb s (fY hs);rcases h with⟨_,rfl⟩|⟨_,rfl⟩
 ·exact this.lo
 ·exact this.hi
def qj(o:List Rat)(v:aj)(j:Nat):List Rat:=if j=0 then o else if j=1 then(if v.nl then o else en v.lo o) else fG o v
def z8(v:aj)(j:Nat):Rat:=if j=0 then v.lo else v.hi
def po(v:aj)(j:Nat):Bool:=if j=0 then v.nl else v.nh
def ta{o:List Rat}{v:aj}{j:Nat}(hj:j<2):qj o v (j+1)=if po v j then qj o v j else e8 bg (z8 v j) (qj o v j):=by
 have:j=0\/j=1:=by omega
 rcases this with rfl|rfl
 ·simp[qj,po,z8,y0]
 ·simp[qj,po,z8,fG,y0]
def Wj{o:List Rat}{v:aj}{j:Nat}(hj:j<=2):(qj o v j).length<=o.length+2:=by
 unfold qj;have:=Jm o v;have h:=y0 (x:=v.lo) (l:=o)▸A9 bg v.lo o;split
 ·omega
 ·split
  ·split<;>omega
  ·exact this
theorem X2{o:List Rat}(ho: ∀q∈o,BQ q 1200){v:aj}(hv:l8 v){j:Nat}(hj:j<=2): ∀q∈qj o v j,BQ q 1200:=fun q hq=>by
 unfold qj fG at hq;have lo:=hv.lo;have hi:=hv.hi;split at hq
 ·exact ho q hq
 ·split at hq
  ·split at hq
   ·exact ho q hq
   ·rcases pd.1 hq with rfl|hq
    ·exact lo
    ·exact ho q hq
  ·split at hq
   ·split at hq
    ·exact ho q hq
    ·rcases pd.1 hq with rfl|hq
     ·exact lo
     ·exact ho q hq
   ·rcases pd.1 hq with rfl|hq
    ·exact hi
    ·split at hq
     ·exact ho q hq
     ·rcases pd.1 hq with rfl|hq
      ·exact lo
      ·exact ho q hq
def RH{l:List aj}(hb: ∀v∈l,l8 v)(hn:l.length<=10000):PF GB prog 290 [.sl (l.map eV)] (.sl ((d6 l).map eQ)):=by
 have hm:=fI eV l;refine fn (fu:=⟨15⟩) func290 J J ntmps290 J J (fun C=>?_);refine ak 10 (.d (vI (l.length:Nat))) J (by rw[hm]<;>rfl) ?_;refine gx J<|?_;refine A4 3 J ?_;refine lp (X:=List Rat×Nat) (fun⟨o,k⟩=>[(11, .d (vI (k:Nat))),(3, .d (.sl (o.map eQ)))]) (fun⟨o,k⟩=>[]) (fun⟨o,k⟩=>o=pB l k/\k<=l.length) (fun⟨o,k⟩=>l.length-k) ([],0) J ⟨J,bQ _⟩ (fun _=>J) (fun⟨o,k⟩ hk=>?_);dsimp only at hk⊢;obtain⟨h1,h2⟩:=hk;refine br J J J (fun hc12=>?_) (fun hc12=>?_)
 .
  obtain⟨v,hz⟩: ∃s,l[k]? =some s:=⟨_,aZ (by omega)⟩;have hv:=hb v (bZ hz);haveI:=hv.lo;haveI:=hv.hi;have hob:=Jn hb (k:=k);have hol:=B8 l k;rw[<-h1] at hob hol;refine ix _ J (d9 hz) J<|rf J J<|?_;refine lp (X:=List Rat×Nat) (fun⟨xs,j⟩=>[(21, .d (vI (j:Nat))),(3, .d (.sl (xs.map eQ)))]) (fun⟨xs,j⟩=>[]) (fun⟨xs,j⟩=>xs=qj o v j/\j<=2) (fun⟨xs,j⟩=>2-j) (o,0) J ⟨J,by omega⟩ (fun _=>J) (fun⟨xs,j⟩ hk=>?_);dsimp only at hk⊢;obtain⟨g1,g2⟩:=hk;refine br J J J (fun hc22=>?_) (fun hc22=>?_)
  .
   have hj2:j<2:=by have:=hc22;simp only[bU,iR] at this;omega
   obtain⟨m,hm2⟩: ∃m,m=z8 v j:=⟨_,rfl⟩;haveI hmb:BQ m 1200:=by rw[hm2];unfold z8;split;exact hv.lo;exact hv.hi
   have hxl:=fI eQ xs;have hxn:xs.length<=2*k+2:=by rw[g1];have:=Wj (o:=o) (v:=v) (j:=j) g2;omega
   have hxb: ∀q∈xs,BQ q 1200:=by rw[g1];exact X2 hob hv g2
   refine ix (fu:=⟨10⟩) _ rfl (by rw[bW];exact(show([v.lo,v.hi].map eQ)[j]? =some (eQ m) by rw[hm2];have:j=0\/j=1:=(by omega);rcases this with rfl|rfl<;>rfl)) rfl<|?_;rcases(show j=0\/j=1 by omega) with rfl|rfl
   .
    refine dx J J J<|?_;refine jv (fu2:=⟨1⟩) 32 J J J (fun hg32=>?_) (fun hg32=>?_)
    .
     exact at_ (xs,0+1) (by dsimp only;exact⟨⟨by rw[ta (by decide),if_pos (by simpa[po] using hg32),<-g1],by omega⟩,(by omega)⟩)
    .
     refine d7 (fu:=⟨16⟩) J J J<|?_;refine mg (fu:=⟨5⟩) (X:=Nat) (fun n=>[(8, .d (vI (n:Nat)))]) (fun n=>[]) (fun n=>ju bg m xs=n) [8] [] rfl ?_ (fun _=>J) (fun n hnx=>?_)
     .
      refine gx J<|?_;refine lp (fu:=⟨6⟩) (X:=Nat) (fun n=>[(8, .d (vI (n:Nat)))]) (fun n=>[]) (fun n=>n<=xs.length/\ ∀j (h:j<xs.length),j<n->bg xs[j] m<0) (fun n=>xs.length-n) 0 J ⟨bQ _,fun j _ hj=>absurd hj (by omega)⟩ (fun _=>J) (fun n hk=>?_);obtain⟨n1,n2⟩:=hk;refine l6 (v2:=fun hg43=>by simp only[ah];kernel_rfl) J J J J (fun hg43=>?_) (fun hg43=>?_)
      .
       refine ix _ J (p6 (by omega)) J<|cl J (lf (a:=xs[n]'(by omega)) (b:=m) (ha:=hxb _ (cV (by omega))) (hb:=hmb)) J<|?_;refine br J J J (fun hc52=>?_) (fun hc52=>?_)
       .
        exact at_ (n+1) ⟨⟨by omega,fun j h hj=>by by_cases q:j=n;(subst q;exact hc52);exact n2 j h (by omega)⟩,(by omega)⟩
       .
        exact at_ n (tn bg n1 n2 (fun h=>hc52))
      .
       exact at_ n (tn bg n1 n2 (fun h=>absurd h (by omega)))
     .
      have hnl:n<=xs.length:=by rw[<-hnx];exact A' _ _ _
      refine l6 (v1:=fun hg58=>by simp only[ah];kernel_rfl) J J J J (fun hg58=>?_) (fun hg58=>?_)
      .
       have hnew: ∀h:n<xs.length,bg xs[n] m≠0:=fun h=>absurd h (by omega);obtain⟨ys,hys⟩: ∃ys,ys=xs.take n++m::xs.drop n:=⟨_,rfl⟩;have hin:e8 bg m xs=ys:=by rw[hys];exact rx bg hnx hnew
       have hyl:ys.length<=xs.length+1:=by rw[hys];simp;omega
       refine s3 n _ J J J J (iv _) (by rw[hxl];exact hnl) J<|ro J J<|k9 n xs.length _ J J (by rw[hxl]) J (iv _) hnl (by omega) J<|?_;refine ap _ J J (ri iv _ _ _) J<|k8 (hv:=by simp only[ah];exact⟨by kernel_rfl,by omega⟩) (ho:=fun _=>⟨ti iv _ _,by simp⟩) (ys.map eQ) J (by rw[hys,bT,bJ,jZ,kK,aU (l:=xs.map eQ) (i:=xs.length) (by simp)];rfl) (tq iv _ _ _ _) J<|?_;exact at_ (ys,0+1) (by dsimp only;exact⟨⟨by rw[ta (by decide),if_neg (by simpa[po] using hg32),<-g1,<-hm2,hin],by omega⟩,(by omega)⟩)
      .
       refine ix _ J (p6 (by omega)) J<|cl J (lf (a:=xs[n]'(by omega)) (b:=m) (ha:=hxb _ (cV (by omega))) (hb:=hmb)) J<|?_;refine br (fu2:=⟨7⟩) J J J (fun hc67=>?_) (fun hc67=>?_)
       .
        have hnew: ∀h:n<xs.length,bg xs[n] m≠0:=fun h=>hc67;obtain⟨ys,hys⟩: ∃ys,ys=xs.take n++m::xs.drop n:=⟨_,rfl⟩;have hin:e8 bg m xs=ys:=by rw[hys];exact rx bg hnx hnew
        have hyl:ys.length<=xs.length+1:=by rw[hys];simp;omega
        refine s3 n _ J J J J (iv _) (by rw[hxl];exact hnl) J<|ro J J<|k9 n xs.length _ J J (by rw[hxl]) J (iv _) hnl (by omega) J<|?_;refine ap _ J J (ri iv _ _ _) J<|k8 (hv:=by simp only[ah];exact⟨by kernel_rfl,by omega⟩) (ho:=fun _=>⟨ti iv _ _,by simp⟩) (ys.map eQ) J (by rw[hys,bT,bJ,jZ,kK,aU (l:=xs.map eQ) (i:=xs.length) (by simp)];rfl) (tq iv _ _ _ _) J<|?_;exact at_ (ys,0+1) (by dsimp only;exact⟨⟨by rw[ta (by decide),if_neg (by simpa[po] using hg32),<-g1,<-hm2,hin],by omega⟩,(by omega)⟩)
       .
        have hin:e8 bg m xs=xs:=xu bg hnx (by omega) (Decidable.not_not.1 hc67);exact at_ (xs,0+1) (by dsimp only;exact⟨⟨by rw[ta (by decide),if_neg (by simpa[po] using hg32),<-g1,<-hm2,hin],by omega⟩,(by omega)⟩)
   .
    refine d7 (fu:=⟨6⟩) J J J<|dx J J J<|?_;refine bb (fu2:=⟨8⟩) J J J (fun hc39=>?_) (fun hc39=>?_)
    .
     exact at_ (xs,1+1) (by dsimp only;exact⟨⟨by rw[ta (by decide),if_pos (by simpa[po] using hc39),<-g1],by omega⟩,(by omega)⟩)
    .
     refine mg (fu:=⟨5⟩) (X:=Nat) (fun n=>[(8, .d (vI (n:Nat)))]) (fun n=>[]) (fun n=>ju bg m xs=n) [8] [] rfl ?_ (fun _=>J) (fun n hnx=>?_)
     .
      refine gx J<|?_;refine lp (fu:=⟨6⟩) (X:=Nat) (fun n=>[(8, .d (vI (n:Nat)))]) (fun n=>[]) (fun n=>n<=xs.length/\ ∀j (h:j<xs.length),j<n->bg xs[j] m<0) (fun n=>xs.length-n) 0 J ⟨bQ _,fun j _ hj=>absurd hj (by omega)⟩ (fun _=>J) (fun n hk=>?_);obtain⟨n1,n2⟩:=hk;refine l6 (v2:=fun hg43=>by simp only[ah];kernel_rfl) J J J J (fun hg43=>?_) (fun hg43=>?_)
      .
       refine ix _ J (p6 (by omega)) J<|cl J (lf (a:=xs[n]'(by omega)) (b:=m) (ha:=hxb _ (cV (by omega))) (hb:=hmb)) J<|?_;refine br J J J (fun hc52=>?_) (fun hc52=>?_)
       .
        exact at_ (n+1) ⟨⟨by omega,fun j h hj=>by by_cases q:j=n;(subst q;exact hc52);exact n2 j h (by omega)⟩,(by omega)⟩
       .
        exact at_ n (tn bg n1 n2 (fun h=>hc52))
      .
       exact at_ n (tn bg n1 n2 (fun h=>absurd h (by omega)))
     .
      have hnl:n<=xs.length:=by rw[<-hnx];exact A' _ _ _
      refine l6 (v1:=fun hg58=>by simp only[ah];kernel_rfl) J J J J (fun hg58=>?_) (fun hg58=>?_)
      .
       have hnew: ∀h:n<xs.length,bg xs[n] m≠0:=fun h=>absurd h (by omega);obtain⟨ys,hys⟩: ∃ys,ys=xs.take n++m::xs.drop n:=⟨_,rfl⟩;have hin:e8 bg m xs=ys:=by rw[hys];exact rx bg hnx hnew
       have hyl:ys.length<=xs.length+1:=by rw[hys];simp;omega
       refine s3 n _ J J J J (iv _) (by rw[hxl];exact hnl) J<|ro J J<|k9 n xs.length _ J J (by rw[hxl]) J (iv _) hnl (by omega) J<|?_;refine ap _ J J (ri iv _ _ _) J<|k8 (hv:=by simp only[ah];exact⟨by kernel_rfl,by omega⟩) (ho:=fun _=>⟨ti iv _ _,by simp⟩) (ys.map eQ) J (by rw[hys,bT,bJ,jZ,kK,aU (l:=xs.map eQ) (i:=xs.length) (by simp)];rfl) (tq iv _ _ _ _) J<|?_;exact at_ (ys,1+1) (by dsimp only;exact⟨⟨by rw[ta (by decide),if_neg (by simpa[po] using hc39),<-g1,<-hm2,hin],by omega⟩,(by omega)⟩)
      .
       refine ix _ J (p6 (by omega)) J<|cl J (lf (a:=xs[n]'(by omega)) (b:=m) (ha:=hxb _ (cV (by omega))) (hb:=hmb)) J<|?_;refine br J J J (fun hc67=>?_) (fun hc67=>?_)
       .
        have hnew: ∀h:n<xs.length,bg xs[n] m≠0:=fun h=>hc67;obtain⟨ys,hys⟩: ∃ys,ys=xs.take n++m::xs.drop n:=⟨_,rfl⟩;have hin:e8 bg m xs=ys:=by rw[hys];exact rx bg hnx hnew
        have hyl:ys.length<=xs.length+1:=by rw[hys];simp;omega
        refine s3 n _ J J J J (iv _) (by rw[hxl];exact hnl) J<|ro J J<|k9 n xs.length _ J J (by rw[hxl]) J (iv _) hnl (by omega) J<|?_;refine ap _ J J (ri iv _ _ _) J<|k8 (hv:=by simp only[ah];exact⟨by kernel_rfl,by omega⟩) (ho:=fun _=>⟨ti iv _ _,by simp⟩) (ys.map eQ) J (by rw[hys,bT,bJ,jZ,kK,aU (l:=xs.map eQ) (i:=xs.length) (by simp)];rfl) (tq iv _ _ _ _) J<|?_;exact at_ (ys,1+1) (by dsimp only;exact⟨⟨by rw[ta (by decide),if_neg (by simpa[po] using hc39),<-g1,<-hm2,hin],by omega⟩,(by omega)⟩)
       .
        have hin:e8 bg m xs=xs:=xu bg hnx (by omega) (Decidable.not_not.1 hc67);exact at_ (xs,1+1) (by dsimp only;exact⟨⟨by rw[ta (by decide),if_neg (by simpa[po] using hc39),<-g1,<-hm2,hin],by omega⟩,(by omega)⟩)
  .
   have hj2: ¬j<2:=by have:=hc22;simp only[bU,iR] at this;omega
   exact at_ (xs,k+1) (by dsimp only;exact⟨⟨by rw[MP hz,<-h1,g1,show j=2 by omega];rfl,by omega⟩,(by omega)⟩)
 .
  have hfin:d6 l=o:=by rw[h1,show k=l.length by omega];unfold pB;rw[cM]
  exact rz J (by rw[hfin];rfl)
end Go.Sx
end
