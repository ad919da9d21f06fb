import Derived.Test.YtochlbkonkgedaaGreatDoorQb15
set_option linter.all false
set_option maxHeartbeats 4000000
set_option maxRecDepth 100000
section
namespace Go.Sx
open Go Go.Proofs
def kA(p:aa):(p.half=1/\(0<p.y\/(p.y=0/\0<p.x)))\/(p.half=2/\(p.y<0\/(p.y=0/\p.x<0)))\/(p.half=0/\p.y=0/\p.x=0):=by
 unfold aa.half;simp only[kC,lc,jA];split
 ·rename_i h;exact .inl ⟨rfl,h⟩
 ·rename_i h
  split
  ·rename_i h2
   exact .inr (.inl ⟨J,by grind⟩)
  ·rename_i h2
   exact .inr (.inr ⟨J,by grind,by grind⟩)
def ou{p:aa}:p.half=1↔(0<p.y\/(p.y=0/\0<p.x)):=by
 rcases kA p with⟨h,k⟩|⟨h,k⟩|⟨h,k⟩<;>rw[h]<;>grind
def qz{p:aa}:p.half=2↔(p.y<0\/(p.y=0/\p.x<0)):=by
 rcases kA p with⟨h,k⟩|⟨h,k⟩|⟨h,k⟩<;>rw[h]<;>grind
def cD(u v:aa):Prop:=u.half<v.half\/(u.half=v.half/\0<u.cross v)
def ta{u v:aa}:cO u v<0↔cD u v:=by
 unfold cO cD;split
 ·rename_i h;exact⟨fun _=> .inl h,fun _=>by decide⟩
 ·rename_i h
  split
  ·rename_i h2;exact⟨fun e=>absurd e (by decide),fun e=>by omega⟩
  ·rename_i h2
   have e:u.half=v.half:=by omega
   rw[<-kC];constructor
   ·intro k;exact .inr ⟨e,by omega⟩
   ·rintro (k|⟨_,k⟩)
    ·omega
    ·omega
def bp(d:aa):aa:=⟨-d.x, -d.y⟩
def sH{d:aa}(h:d.half≠0):(bp d).half=3-d.half:=by
 rcases kA d with⟨e,k⟩|⟨e,k⟩|⟨e,k⟩
 ·rw[e];exact qz.2 (by unfold bp;grind)
 ·rw[e];exact ou.2 (by unfold bp;grind)
 ·exact absurd e h
def gr{d:aa}(h:d.half≠0):d.half=1\/d.half=2:=by
 rcases kA d with⟨e,_⟩|⟨e,_⟩|⟨e,_⟩
 ·exact .inl e
 ·exact .inr e
 ·exact absurd e h
def oe(ds:List aa)(u w:aa):Prop:=(cD u w/\ ∀d∈ds,¬(cD u d/\cD d w))\/((∀d∈ds,¬cD u d)/\ ∀d∈ds,¬cD d w)
structure vu (ds:List aa):Prop where
 nz: ∀d∈ds,d.half≠0
 neg: ∀d∈ds,bp d∈ds
def GR(u:aa):u.cross u=0:=by unfold aa.cross;grind
def fC(u v:aa):v.cross u= -u.cross v:=by unfold aa.cross;grind
def mH(u v:aa):u.cross (bp v)= -u.cross v:=by unfold aa.cross bp;grind
def oe.spec{ds:List aa}{u w:aa}(h:vu ds)(hu:u∈ds)(hw:w∈ds)(hn:oe ds u w):
  (u.half=w.half/\0<u.cross w/\ ∀d∈ds,¬(cD u d/\cD d w))\/(u.half≠w.half/\(∀d∈ds,d.half=u.half->0<=d.cross u)/\ ∀d∈ds,d.half=w.half->0<=w.cross d):=by
 have zu:=gr (h.nz u hu);have zw:=gr (h.nz w hw);rcases hn with⟨h1,h2⟩|⟨h1,h2⟩
 ·rcases h1 with k|⟨k,k2⟩
  ·refine .inr ⟨by omega,fun d hd e=>?_,fun d hd e=>?_⟩
   ·have:=h2 d hd
    rw[fC];by_cases hc:0<u.cross d
    ·exact absurd ⟨.inr ⟨e.symm,hc⟩, .inl (by omega)⟩ this
    ·grind
   ·have:=h2 d hd
    by_cases hc:0<d.cross w
    ·exact absurd ⟨.inl (by omega), .inr ⟨e,hc⟩⟩ this
    ·rw[fC] at hc;grind
  ·exact .inl ⟨k,k2,h2⟩
 ·have nu:=sH (h.nz u hu)
  have a1:=h1 _ (h.neg u hu);have a2:=h2 _ (h.neg u hu);unfold cD at a1 a2;rw[nu] at a1 a2;refine .inr ⟨fun e=>?_,fun d hd e=>?_,fun d hd e=>?_⟩
  ·rcases zu with z|z
   ·exact a1 (.inl (by omega))
   ·exact a2 (.inl (by omega))
  ·have:=h1 d hd
   rw[fC];by_cases hc:0<u.cross d
   ·exact absurd (.inr ⟨e.symm,hc⟩) this
   ·grind
  ·have:=h2 d hd
   by_cases hc:0<d.cross w
   ·exact absurd (.inr ⟨e,hc⟩) this
   ·rw[fC] at hc;grind
def oe.pos{ds:List aa}{u w:aa}(h:vu ds)(hu:u∈ds)(hw:w∈ds)(hn:oe ds u w):0<=u.cross w:=by
 rcases hn.spec h hu hw with⟨_,h2,_⟩|⟨h1,h2,h3⟩
 ·grind
 ·have:=h3 _ (h.neg u hu) (by rw[sH (h.nz u hu)];have:=gr (h.nz u hu);have:=gr (h.nz w hw);omega)
  rw[mH] at this;rw[fC];exact this
def gw(a b:Rat)(u w:aa):aa:=⟨a*u.x+b*w.x,a*u.y+b*w.y⟩
def OQ{a b:Rat}{u w:aa}:u.cross (gw a b u w)=b*u.cross w/\(gw a b u w).cross w=a*u.cross w:=by
 unfold aa.cross gw;constructor<;>grind
def GZ{a b:Rat}{u w:aa}(ha:0<a)(hb:0<b)(h:u.half=w.half)(hz:u.half≠0):(gw a b u w).half=u.half:=by
 rcases kA u with⟨e,k⟩|⟨e,k⟩|⟨e,k⟩
 ·rw[e] at h⊢
  have k2:=ou.1 h.symm;refine ou.2 ?_;unfold gw;simp only;have p1: ∀z:Rat,0<z->0<a*z:=fun z hz=>bF ha hz;have p2: ∀z:Rat,0<z->0<b*z:=fun z hz=>bF hb hz;rcases k with k|⟨k,k'⟩<;>rcases k2 with l|⟨l,l'⟩
  ·have:=p1 _ k;have:=p2 _ l;grind
  ·have:=p1 _ k;rw[l];grind
  ·have:=p2 _ l;rw[k];grind
  ·have:=p1 _ k';have:=p2 _ l';rw[k,l];grind
 ·rw[e] at h⊢
  have k2:=qz.1 h.symm;refine qz.2 ?_;unfold gw;simp only;have p1: ∀z:Rat,z<0->a*z<0:=fun z hz=>by have:=bF (a:=a) (b:= -z) ha (by grind);grind
  have p2: ∀z:Rat,z<0->b*z<0:=fun z hz=>by have:=bF (a:=b) (b:= -z) hb (by grind);grind
  rcases k with k|⟨k,k'⟩<;>rcases k2 with l|⟨l,l'⟩
  ·have:=p1 _ k;have:=p2 _ l;grind
  ·have:=p1 _ k;rw[l];grind
  ·have:=p2 _ l;rw[k];grind
  ·have:=p1 _ k';have:=p2 _ l';rw[k,l];grind
 ·exact absurd e hz
def oe.none{ds:List aa}{u w:aa}(h:vu ds)(hu:u∈ds)(hw:w∈ds)(hn:oe ds u w)(hc:u.cross w≠0){a b:Rat}(ha:0<a)(hb:0<b):gw a b u w∉ds:=fun hd=>by
 have hp:=hn.pos h hu hw;have hp:0<u.cross w:=by grind
 obtain⟨c1,c2⟩:=OQ (a:=a) (b:=b) (u:=u) (w:=w);have d1:0<u.cross (gw a b u w):=by rw[c1];exact bF hb hp
 have d2:0<(gw a b u w).cross w:=by rw[c2];exact bF ha hp
 have zu:=gr (h.nz u hu);have zw:=gr (h.nz w hw);have zd:=gr (h.nz _ hd);rcases hn.spec h hu hw with⟨h1,_,h3⟩|⟨h1,h2,h3⟩
 ·have e:=GZ ha hb h1 (h.nz u hu)
  exact h3 _ hd ⟨.inr ⟨e.symm,d1⟩, .inr ⟨e.trans h1,d2⟩⟩
 ·rcases(show(gw a b u w).half=u.half\/(gw a b u w).half=w.half by omega) with e|e
  ·have:=h2 _ hd e
   rw[fC] at this;grind
  ·have:=h3 _ hd e
   rw[fC] at this;grind
def ti{d e:aa}(h:e.cross d=0)(hp:0<e.dot d): ∃g:Rat,0<g/\e=⟨g*d.x,g*d.y⟩:=by
 have hd:0<d.dot d:=by
  unfold aa.dot at*;have h1:=rO d.x;have h2:=rO d.y;rcases eB d.x with k|k|k
  ·rcases eB d.y with l|l|l
   ·rw[k,l] at hp;grind
   ·have:=bF l l;grind
   ·have:=bF (a:= -d.y) (b:= -d.y) (by grind) (by grind);grind
  ·have:=bF k k;grind
  ·have:=bF (a:= -d.x) (b:= -d.x) (by grind) (by grind);grind
 have key:e.x*d.dot d=e.dot d*d.x/\e.y*d.dot d=e.dot d*d.y:=by
  unfold aa.dot aa.cross at*;constructor<;>grind
 have hg:e.dot d/d.dot d*d.dot d=e.dot d:=by grind
 refine⟨e.dot d/d.dot d,(gp hd).1 (by rw[hg];exact hp),?_⟩;generalize e.dot d/d.dot d=g at*;have x1:e.x=g*d.x:=by
  have:(e.x-g*d.x)*d.dot d=0:=by rw[<-hg] at key;grind
  have hz:d.dot d≠0:=by grind
  grind
 have x2:e.y=g*d.y:=by
  have:(e.y-g*d.y)*d.dot d=0:=by rw[<-hg] at key;grind
  have hz:d.dot d≠0:=by grind
  grind
 rw[<-x1,<-x2]
def Fm{e u:aa}(he:e.half≠0)(hu:u.half≠0)(hp:e.cross u=0):e.dot u≠0:=fun hz=>by
 have e1:e.x*(u.x*u.x+u.y*u.y)=0:=by unfold aa.dot aa.cross at*;grind
 have e2:e.y*(u.x*u.x+u.y*u.y)=0:=by unfold aa.dot aa.cross at*;grind
 have hu2:u.x*u.x+u.y*u.y≠0:=fun q=>by
  have h1:=rO u.x;have h2:=rO u.y;have x0:u.x=0:=by
   have:u.x*u.x=0:=by grind
   grind
  have y0:u.y=0:=by
   have:u.y*u.y=0:=by grind
   grind
  rcases kA u with⟨_,q⟩|⟨_,q⟩|⟨q,_⟩
  ·grind
  ·grind
  ·exact hu q
 have x0:e.x=0:=by grind
 have y0:e.y=0:=by grind
 rcases kA e with⟨_,q⟩|⟨_,q⟩|⟨q,_⟩
 ·grind
 ·grind
 ·exact he q
def oe.gen{ds:List aa}{u w:aa}(h:vu ds)(hu:u∈ds)(hw:w∈ds)(hn:oe ds u w)(hc:u.cross w≠0){a b:Rat}(ha:0<a)(hb:0<b): ∀d∈ds,d.cross (gw a b u w)≠0:=fun d hd hz=>by
 have hp:=hn.pos h hu hw;have hp:0<u.cross w:=by grind
 obtain⟨c1,c2⟩:=OQ (a:=a) (b:=b) (u:=u) (w:=w);have d1:0<u.cross (gw a b u w):=by rw[c1];exact bF hb hp
 -- of d and its opposite, one points the same way
 have key: ∀e∈ds,e.cross (gw a b u w)=0->0<e.dot (gw a b u w)->False:=fun e he h1 h2=>by
  obtain⟨g,g1,g2⟩:=ti h1 h2;refine hn.none h hu hw hc (a:=g*a) (b:=g*b) (bF g1 ha) (bF g1 hb) ?_;have:gw (g*a) (g*b) u w=e:=by rw[g2];unfold gw;simp only[aa.mk.injEq];constructor<;>grind
  rw[this];exact he
 rcases eB (d.dot (gw a b u w)) with k|k|k
 ·-- both 0: then d is 0, or the other is
  have hnz:=h.nz d hd;generalize gw a b u w=v at*;have e1:d.x*(v.x*v.x+v.y*v.y)=0:=by unfold aa.dot aa.cross at*;grind
  have e2:d.y*(v.x*v.x+v.y*v.y)=0:=by unfold aa.dot aa.cross at*;grind
  have hv:v.x*v.x+v.y*v.y≠0:=fun e=>by
   have h1:=rO v.x;have h2:=rO v.y;have x0:v.x=0:=by have:v.x*v.x=0:=(by grind);grind
   have y0:v.y=0:=by have:v.y*v.y=0:=(by grind);grind
   unfold aa.cross at d1;rw[x0,y0] at d1;grind
  have x0:d.x=0:=by grind
  have y0:d.y=0:=by grind
  rcases kA d with⟨_,q⟩|⟨_,q⟩|⟨q,_⟩
  ·grind
  ·grind
  ·exact hnz q
 ·exact key d hd hz k
 ·refine key _ (h.neg d hd) ?_ ?_
  ·unfold aa.cross bp at*;grind
  ·unfold aa.dot bp at*;grind
def M1(d u:aa):d.cross (gO u)=d.dot u:=by unfold aa.cross gO aa.dot;grind
def oe.turn{ds:List aa}{u w:aa}(h:vu ds)(hu:u∈ds)(hw:w∈ds)(hn:oe ds u w)(hc:u.cross w=0): ∀d∈ds,d.cross (gO u)≠0:=fun d hd=>by
 have zu:=gr (h.nz u hu);have zw:=gr (h.nz w hw);rw[M1];rcases hn.spec h hu hw with⟨_,h2,_⟩|⟨h1,h2,h3⟩
 ·rw[hc] at h2;exact absurd h2 (by decide)
 have par: ∀e∈ds,e.half=u.half->e.cross u=0:=fun e he k=>by
  have a1:=h2 e he k;have a2:=h3 _ (h.neg e he) (by rw[sH (h.nz e he)];omega);rw[mH] at a2
  -- w = -g u
  have hwu:w.cross u=0:=by rw[fC,hc];rfl
  have huw:w.dot u<0:=by
   rcases eB (w.dot u) with k0|k0|k0
   ·exact absurd k0 (Fm (h.nz w hw) (h.nz u hu) hwu)
   ·obtain⟨g,g1,g2⟩:=ti hwu k0
    exfalso;apply h1;rcases kA u with⟨x,q⟩|⟨x,q⟩|⟨x,q⟩
    ·rw[x]
     refine(ou.2 ?_).symm;rw[g2];simp only;rcases q with q|⟨q,q'⟩
     ·exact .inl (bF g1 q)
     ·exact .inr ⟨by rw[q];grind,bF g1 q'⟩
    ·rw[x]
     refine(qz.2 ?_).symm;rw[g2];simp only;rcases q with q|⟨q,q'⟩
     ·have:=bF (a:=g) (b:= -u.y) g1 (by grind);exact .inl (by grind)
     ·have:=bF (a:=g) (b:= -u.x) g1 (by grind);exact .inr ⟨by rw[q];grind,by grind⟩
    ·exact absurd x (h.nz u hu)
   ·exact k0
  obtain⟨g,g1,g2⟩:=ti (d:=u) (e:=bp w) (by unfold aa.cross bp at*;grind) (by unfold aa.dot bp at*;grind);have a3:0<= -(g*e.cross u):=by
   have e1:w=⟨-(g*u.x), -(g*u.y)⟩:=by
    have:=congrArg bp g2;unfold bp at this
    cases w
    simp only[Rat.neg_neg] at this;exact this
   rw[e1] at a2;unfold aa.cross at*;grind
  by_cases hz:0<e.cross u
  ·have:=bF g1 hz;grind
  ·grind
 have nzd: ∀e∈ds,e.half=u.half->e.dot u≠0:=fun e he k=>Fm (h.nz e he) (h.nz u hu) (par e he k);by_cases k:d.half=u.half
 ·exact nzd d hd k
 ·have:=nzd _ (h.neg d hd) (by rw[sH (h.nz d hd)];have:=gr (h.nz d hd);omega)
  unfold aa.dot bp at*;grind
end Go.Sx
end
section
namespace Go.Sx
open Go
inductive OT where
 |z (π:List (Nat×Bool))
 |q (i:Nat) (t:OT)
 |a (i:Nat) (t:OT)
 |c (i:Nat) (t r:OT)
def OT.sz:OT->Nat
 | .z _=>0
 | .q _ t=>t.sz+1
 | .a _ t=>t.sz+1
 | .c _ t r=>t.sz+r.sz+1
def OT.d:OT->Nat
 | .z π=>π.length
 | .q _ t=>t.d+1
 | .a _ t=>t.d+1
 | .c _ t r=>Nat.max (t.d+1) r.d
section
variable {P:Program} {ops:Array Oper} {Q:Exit->Act->World->Prop} {S:World->Prop} {π₂:List (Nat×Bool)}
def yc(P:Program)(ops:Array Oper)(Q:Exit->Act->World->Prop)(K:(World->Prop)->Act->World->Prop):List Nat->OT->(World->Prop)->Act->World->Prop
 |ks, .z π,S,a,w=>AV P ops Q K ks π S a w
 |ks, .q i t,S,a,w=> ∃o v,ops[i]? =some o/\S w/\YieldsIf P ops S o v a/\yc P ops Q K ks t S (a.put o.dst v) w
 |ks, .a i t,S,a,w=>wpOp P ops Q i (xh S (yc P ops Q K ks t)) a w/\
   ∀j,(h:j∈ks)->wpOp P ops Q j (xh S (yc P ops Q K (bH ks j) (.a i t))) a w
 |ks, .c i t r,S,a,w=>wpOp P ops Q i (xh S (yc P ops Q K ks t)) a w/\yc P ops Q K ks r S a w/\
   ∀j,(h:j∈ks)->wpOp P ops Q j (xh S (yc P ops Q K (bH ks j) (.c i t r))) a w
termination_by ks t=>ks.length+t.sz
decreasing_by
 all_goals (first|(have:=Ja h;simp only[OT.sz] at*;omega)|(simp only[OT.sz];omega))
def tO(ops:Array Oper)(fin:Nat->Bool)(π₂:List (Nat×Bool)):Nat->Bool->List Nat->OT->Array Bool->List Nat->Bool
 |0,_,_,_,_,_=>false
 |n+1,false,ks, .z π,l,_=>B7 ops fin π₂ n ks π l
 |_+1,true,_, .z _,_,_=>false
 |n+1,false,ks, .q i t,l,_=>AT ops fin l i&&tO ops fin π₂ n false ks t (l.setIfInBounds i true) []
 |_+1,true,_, .q _ _,_,_=>false
 |n+1,true,ks, .a i t,l,rs=>rs.all (fun j=>Nat.beq j i)&&tO ops fin π₂ n false ks t (l.setIfInBounds i true) []
 |n+1,false,ks, .a i t,l,_=>!(Region.ready .any ops l).isEmpty&&(Region.ready .any ops l).all (fun j=>Nat.beq j i||ks.contains j)&&tO ops fin π₂ n false ks t (l.setIfInBounds i true) []&&ks.all fun j=>tO ops fin π₂ n false (bH ks j) (.a i t) (l.setIfInBounds j true) []
 |n+1,true,ks, .c i t r,l,rs=>tO ops fin π₂ n false ks t (l.setIfInBounds i true) []&&tO ops fin π₂ n true ks r l (bH rs i)
 |n+1,false,ks, .c i t r,l,_=>!(Region.ready .any ops l).isEmpty&&tO ops fin π₂ n false ks t (l.setIfInBounds i true) []&&tO ops fin π₂ n true ks r l (bH ((Region.ready .any ops l).filter fun j=>!ks.contains j) i)&&ks.all fun j=>tO ops fin π₂ n false (bH ks j) (.c i t r) (l.setIfInBounds j true) []
end
section
variable {P:Program} {GB:Gh} {C:aD} {n:Nat} {fr fr':eo} {own own' own0 own1 own1':List dt} {bs bs0 bs1 bs1':List d4} {ops:Array Oper} {Q:Exit->Act->World->Prop} {fd:List FD} {π₂:List (Nat×Bool)} {t r:OT}
abbrev dnK (P:Program) (ops:Array Oper) (Q:Exit->Act->World->Prop) (K:(World->Prop)->Act->World->Prop) (t:OT):List Nat->(World->Prop)->Act->World->Prop:=fun ks S=>yc P ops (fH Q) K ks t S
end
end Go.Sx
end
section
namespace Go.Sx
open Go Go.Proofs Tryz
variable {GB:Gh}
theorem LB.rev{l:ab}(h:LB l):LB l.rev:=⟨⟨by rw[show l.rev.a= -l.a from J,jN];exact h.bl.a,by rw[show l.rev.b= -l.b from J,jN];exact h.bl.b,by rw[show l.rev.c= -l.c from J,jN];exact h.bl.c⟩⟩
def TV{α:Type}{p:α->Bool}: ∀{xs:List α} {n:Nat},n<=xs.length->(∀j (h:j<xs.length),j<n->p xs[j]=true)->(∀h:n<xs.length,p xs[n]=false)->(xs.takeWhile p).length=n
 |[],n,h,_,_=>by simp at h;subst h;rfl
 |x::xs,0,_,_,h3=>by
  have:=h3 (by simp);simp only[pJ] at this;simp[qR,this]
 |x::xs,n+1,h1,h2,h3=>by
  have hx:=h2 0 (by simp) (by omega);simp only[pJ] at hx;rw[qR,if_pos hx,bV];rw[TV (n:=n) (by simpa using h1) (fun j h hj=>by have:=h2 (j+1) (by simpa using h) (by omega);simpa using this) (fun h=>by have:=h3 (by simpa using h);simpa using this)]
structure Cst (c:List ab) (k:Nat) (xs:List ab):Prop where
 le:k<=c.length
 f:KN c (c.drop k) xs=tN c
 m: ∀m∈xs,m∈c
 n:xs.length<=k
def Na(c:List ab):Bool:=if(((c.map eL).length:Nat):Int)=0 then true else decide ((0:Int)<((((tN c).map eL).length:Nat):Int))
section
variable {α:Type} (c:α->α->Int)
def eE(x:α):List α->List α
 |[]=>[x]
 |u::t=>if c u x<0 then u::eE x t else if c u x=0 then u::t else x::u::t
def lH(x:α)(xs:List α):Nat:=(xs.takeWhile fun u=>decide (c u x<0)).length
def Od(x:α)(xs:List α):lH c x xs<=xs.length:=(List.takeWhile_sublist _).length_le
def GN{x:α}{xs:List α}{n:Nat}(h1:n<=xs.length)(h2: ∀j (h:j<xs.length),j<n->c xs[j] x<0)(h3: ∀h:n<xs.length,¬c xs[n] x<0):lH c x xs=n:=
 TV h1 (fun j h hj=>decide_eq_true (h2 j h hj)) (fun h=>decide_eq_false (h3 h))
def Hq{x:α}: ∀{xs:List α} {n:Nat},lH c x xs=n->(h:n<xs.length)->c xs[n] x=0->eE c x xs=xs
 |[],n,_,h,_=>by simp at h
 |u::t,n,hn,h,e=>by
  rw[eE];unfold lH at hn;rw[qR] at hn;by_cases hu:c u x<0
  ·rw[if_pos hu]
   rw[if_pos (by simpa using hu)] at hn;obtain⟨k,rfl⟩: ∃k,n=k+1:=⟨n-1,by simp at hn;omega⟩;rw[Hq (xs:=t) (n:=k) (by unfold lH;simpa using hn) (by simpa using h) (by simpa using e)]
  ·rw[if_neg (by simpa using hu)] at hn
   simp at hn;subst hn;rw[if_neg hu,if_pos (by simpa using e)]
def Du{x:α}: ∀{xs:List α} {n:Nat},lH c x xs=n->(∀h:n<xs.length,c xs[n] x≠0)->eE c x xs=xs.take n++x::xs.drop n
 |[],n,hn,_=>by simp[lH] at hn;subst hn;rfl
 |u::t,n,hn,e=>by
  rw[eE];unfold lH at hn;rw[qR] at hn;by_cases hu:c u x<0
  ·rw[if_pos hu]
   rw[if_pos (by simpa using hu)] at hn;obtain⟨k,rfl⟩: ∃k,n=k+1:=⟨n-1,by simp at hn;omega⟩;rw[Du (xs:=t) (n:=k) (by unfold lH;simpa using hn) (fun h=>by have:=e (by simpa using h);simpa using this)];simp
  ·rw[if_neg (by simpa using hu)] at hn
   simp at hn;subst hn;have:=e (by simp);rw[if_neg hu,if_neg (by simpa using this)];rfl
def Sc(x:α): ∀(xs:List α),(eE c x xs).length<=xs.length+1
 |[]=>bQ _
 |u::t=>by
  have:=Sc x t;rw[eE];split
  ·simp;omega
  ·split<;>simp
def I9{x y:α}: ∀{xs:List α},y∈eE c x xs->y=x\/y∈xs
 |[],h=>by rw[eE,aV] at h;exact .inl h
 |u::t,h=>by
  rw[eE] at h;split at h
  ·rcases aW.1 h with rfl|h
   ·exact .inr aQ
   ·rcases I9 h with h|h
    ·exact .inl h
    ·exact .inr (aZ _ h)
  ·split at h
   ·exact .inr h
   ·rcases aW.1 h with rfl|h
    ·exact .inl J
    ·exact .inr h
def rm(l:List α):List α:=l.foldl (fun out x=>eE c x out) []
def Gt: ∀(l o:List α),(l.foldl (fun out x=>eE c x out) o).length<=l.length+o.length
 |[],o=>by simp
 |x::t,o=>by
  have:=Gt t (eE c x o);have:=Sc c x o;simp only[dT,bV];omega
def AS{y:α}: ∀{l o:List α},y∈l.foldl (fun out x=>eE c x out) o->y∈l\/y∈o
 |[],o,h=> .inr h
 |x::t,o,h=>by
  rcases AS (l:=t) h with h|h
  ·exact .inl (aZ _ h)
  ·rcases I9 c h with rfl|h
   ·exact .inl aQ
   ·exact .inr h
end
def FC{α β:Type}{f:α->β}{l:List α}{k:Nat}{x:α}(h:l[k]? =some x):(l.take k).map f++[f x]=(l.take (k+1)).map f:=by
 rw[fN,h,dV];rfl
def Tk{a i:Nat}[ha:BN a i](hi:i<=400000000:=by decide):PF GB prog 86 [dN a] (dN a):=by
 have hl:=fB (dg a);have hb:=mi ha.h;refine fn func86 J J ntmps86 J J (fun C=>?_);refine D3 J J<|ap ((dg a).map dU) J J (vy _) J<|?_;refine mD 5 J ?_;exact rz J J
def Zm{z:Int}{i:Nat}[hz:BI z i](hi:i<=400000000:=by decide):PF GB prog 85 [eI z] (eI z):=by
 refine fn func85 J J ntmps85 J J (fun C=>?_);refine cl J (Tk (a:=z.natAbs) (i:=i) (ha:=⟨hz.h⟩) hi) J<|?_;exact rz J J
def Of{ds:List Nat}(hd:bw ds)(hn:ds.length<=1000000):PF GB prog 160 [fk ds] (dN (dv ds)):=by
 have hm:=fB ds;refine fn func160 J J ntmps160 J J (fun C=>?_);refine D3 J J<|ap (ds.map dU) J J (vy _) J<|fz 5 J J<|cl J (sI (ds:=ds) (by omega)) J<|?_;exact rz J (by unfold dN;rw[qe hd];rfl)
def aJo{neg:Bool}{ds:List Nat}(hd:bw ds)(hn:ds.length<=1000000):PF GB prog 161 [.ag [.v (.bool neg),fk ds]] (eI (o4 neg ds)):=by
 refine fn func161 J J ntmps161 J J (fun C=>?_);refine cl J (Of hd hn) J<|cl J lf J<|?_;exact rz J J
def rlD(r:RL):DV:= .tp [if r.nm then eL r.l else .ag [.v (.bool false), .sl [], .v (.bool false), .sl [], .v (.bool false), .sl []],vB (decide (r.nm/\r.l.ok))]
def smB(n:Int)(ls:List (List Nat)):Bool:=ls.all fun d=>decide ((d.length:Int)<=n)
def RL.smB(n:Int)(r:RL):Bool:=Sx.smB n [r.da,r.db,r.dc]
def rlB(n:Int)(ls:List RL):Bool:=ls.all fun r=>r.smB n
def aHh{n i:Nat}[h:BN n i](hi:i<=20000000:=by decide):PF GB prog 160 [dN n] (dN n):=by
 have hl:=mi h.h;have:=Of (GB:=GB) (ds:=dg n) (ku n) (by omega);rw[cx,<-K0] at this;exact this
def axq(z:Int):o4 (decide (z<0)) (dg z.natAbs)=z:=by
 unfold o4;rw[cx];split<;>(rename_i h;simp at h;omega)
def Ye{z:Int}{i:Nat}[h:BI z i](hi:i<=20000000:=by decide):PF GB prog 161 [eI z] (eI z):=by
 have hl:=mi h.h;have:=aJo (GB:=GB) (neg:=decide (z<0)) (ds:=dg z.natAbs) (ku _) (by omega);rw[axq,<-K0] at this;exact this
def U2{n:Nat}(h:0<n): ¬((((dg n).map dU).length:Nat):Int)=0:=by
 rw[aJ];have:=uX (n:=n);omega
instance BQ.m1':BQ (((-1:Int):Int):Rat) 2:=⟨by decide,by decide⟩
instance BQ.m1:BQ (-1:Rat) 2:=⟨by decide,by decide⟩
def PL{q:Rat}{i:Nat}[h:BQ q i](hi:i<=20000000:=by decide):PF GB prog 110 [eR q] (eQ q):=by
 have hd:=q.den_pos;refine fn func110 J J ntmps110 J J (fun C=>?_);refine cl (fu:=⟨8⟩) J (aHh (n:=q.den) hi) J<|ek J (by show some (decide _)=some false;rw[decide_eq_false (U2 hd)]) J<|cl J (Ye (z:=q.num) hi) J<|?_;refine cl J (yj (x:=q.num) (d:=q.den) hd (by omega) (by omega)) J<|?_;exact rz J (by rw[tY];rfl)
def OY{q:Rat}{i:Nat}[h:BQ q i](hi:i<=400000000:=by decide):PF GB prog 43 [eQ q] (eR q):=by
 refine fn func43 J J ntmps43 J J (fun C=>?_);refine cl J (Zm (z:=q.num) hi) J<|cl J (kH (q:=q)) J<|cl J (Tk (a:=q.den) hi) J<|?_;exact rz J J
def aI2{p:aa}{i:Nat}[h:aB p i](hi:i<=20000000:=by decide):PF GB prog 63 [mv p] (eP p):=by
 refine fn func63 J J ntmps63 J J (fun C=>?_);refine cl J (PL (q:=p.x) hi) J<|cl J (PL (q:=p.y) hi) J<|?_;exact rz J J
def HD{p:aa}{i:Nat}[h:aB p i](hi:i<=20000:=by decide):PF GB prog 15 [eP p] (mv p):=by
 refine fn func15 J J ntmps15 J J (fun C=>?_);refine cl J (OY (q:=p.x) (i:=i) (by omega)) J<|cl J (OY (q:=p.y) (i:=i) (by omega)) J<|?_;exact rz J J
def oH{α:Type}(f:α->DV)(l:List α):(l.map f).length=l.length:=aJ ..
def qP(ps:List aa):dH 6 (ps.map eP):=fun d hd=>by
 obtain⟨u,_,rfl⟩:=bJ.1 hd;exact⟨rfl,rfl⟩
def aFs(ps:List aa):dH 6 (ps.map mv):=fun d hd=>by
 obtain⟨u,_,rfl⟩:=bJ.1 hd;exact⟨rfl,rfl⟩
def YY{ps:List aa}(hb: ∀p∈ps,aB p 1200)(hn:ps.length<=1000000):PF GB prog 27 [.sl (ps.map mv)] (.sl (ps.map eP)):=by
 have hm:=oH mv ps;refine fn (fu:=⟨15⟩) func27 J J ntmps27 J J (fun C=>?_);refine ao 7 (.d (vI (ps.length:Nat))) J (by rw[hm]<;>rfl) ?_;refine gx J<|?_;refine nr 3 3 48 6 J J J ?_;refine lp (X:=Nat) (fun k=>[(8, .d (vI (k:Nat))),(3, .rw 3)]) (fun k=>[(3,some (.b 48 6 ((ps.take k).map eP) true))]) (fun k=>k<=ps.length) (fun k=>ps.length-k) 0 J (bT _) (fun _=>J) (fun k hk=>?_);have hml:=oH eP (ps.take k);rw[cK] at hml;refine br J J J (fun hc9=>?_) (fun hc9=>?_)
 .
  obtain⟨z,hz⟩: ∃s,ps[k]? =some s:=⟨_,aX (by omega)⟩;have hzm:=aM hz;refine ix _ J (ee hz) J<|cl J (aI2 (p:=z) (h:=hb z hzm)) J<|rf J J<|ap ((ps.take (k+1)).map eP) J (FC hz) (qP [z]) J<|?_;refine iv 16 3 J ?_;exact at_ (k+1) ⟨(by omega),(by omega)⟩
 .
  obtain rfl:k=ps.length:=by omega
  refine mD 3 J ?_;exact rz J (by rw[dS];rfl)
def L4{ps:List aa}(hb: ∀p∈ps,aB p 1200)(hn:ps.length<=1000000):PF GB prog 18 [.sl (ps.map eP)] (.sl (ps.map mv)):=by
 have hm:=oH eP ps;refine fn (fu:=⟨15⟩) func18 J J ntmps18 J J (fun C=>?_);refine ao 7 (.d (vI (ps.length:Nat))) J (by rw[hm]<;>rfl) ?_;refine gx J<|?_;refine nr 3 3 64 6 J J J ?_;refine lp (X:=Nat) (fun k=>[(8, .d (vI (k:Nat))),(3, .rw 3)]) (fun k=>[(3,some (.b 64 6 ((ps.take k).map mv) true))]) (fun k=>k<=ps.length) (fun k=>ps.length-k) 0 J (bT _) (fun _=>J) (fun k hk=>?_);have hml:=oH mv (ps.take k);rw[cK] at hml;refine br J J J (fun hc9=>?_) (fun hc9=>?_)
 .
  obtain⟨z,hz⟩: ∃s,ps[k]? =some s:=⟨_,aX (by omega)⟩;have hzm:=aM hz;refine ix _ J (ee hz) J<|cl J (HD (p:=z) (h:=hb z hzm)) J<|rf J J<|ap ((ps.take (k+1)).map mv) J (FC hz) (aFs [z]) J<|?_;refine iv 16 3 J ?_;exact at_ (k+1) ⟨(by omega),(by omega)⟩
 .
  obtain rfl:k=ps.length:=by omega
  refine mD 3 J ?_;exact rz J (by rw[dS];rfl)
def ge(p q:aa):Int:=if cg p.x q.x≠0 then cg p.x q.x else cg p.y q.y
def MS{p q:aa}{i j:Nat}[hp:aB p i][hq:aB q j](hi:i<=100000:=by decide)(hj:j<=100000:=by decide):PF GB prog 89 [eP p,eP q] (vI (ge p q)):=by
 refine fn func89 J J ntmps89 J J (fun C=>?_);refine cl J (Fl (a:=p.x) (b:=q.x) (by omega) (by omega)) J<|?_;refine br J J J (fun hc12=>?_) (fun hc12=>?_)
 .
  exact rz J (by unfold ge;rw[if_pos hc12];rfl)
 .
  refine cl J (Fl (a:=p.y) (b:=q.y) (by omega) (by omega)) J<|?_;exact rz J (by unfold ge;rw[if_neg hc12];rfl)
def qb(l:ab):Bool:=decide (l.a<0\/(l.a=0/\l.b<0))
def ab.canon(l:ab):ab:=if qb l then l.rev else l
def uM(a:Int):a.sign<0↔a<0:=by
 rcases lW a 0 with h|h|h
 ·rw[fY h];omega
 ·subst h;simp
 ·rw[fT h];omega
def oO(a:Int):a.sign=0↔a=0:=jL
def PE{l:ab}(h:l.a<0\/(l.a=0/\l.b<0)):DV.tp [eL l.canon,vB (qb l)]= .tp [eL l.rev,vB true]:=by
 unfold ab.canon qb;rw[decide_eq_true h];rfl
def Tc{l:ab}(h: ¬(l.a<0\/(l.a=0/\l.b<0))):DV.tp [eL l.canon,vB (qb l)]= .tp [eL l,vB false]:=by
 unfold ab.canon qb;rw[decide_eq_false h];rfl
def Wk{l:ab}[hl:LB l]:PF GB prog 65 [eL l] (.tp [eL l.canon,vB (qb l)]):=by
 refine fn func65 J J ntmps65 J J (fun C=>?_);refine cl J (GG (z:=l.a)) J<|?_;refine cs 10 J J J (fun hg10=>?_) (fun hg10=>?_)
 .
  refine cl J (L7 (l:=l)) J<|?_;exact rz J (by rw[PE (.inl ((uM _).1 hg10))];rfl)
 .
  refine cs 13 J J J (fun hg13=>?_) (fun hg13=>?_)
  .
   refine cl J (GG (z:=l.b)) J<|?_;refine br J J J (fun hc19=>?_) (fun hc19=>?_)
   .
    refine cl J (L7 (l:=l)) J<|?_;exact rz J (by rw[PE (.inr ⟨(oO _).1 hg13,(uM _).1 hc19⟩)];rfl)
   .
    exact rz J (by rw[Tc (fun e=>e.elim (fun e=>hg10 ((uM _).2 e)) (fun e=>hc19 ((uM _).2 e.2)))];rfl)
  .
   exact rz J (by rw[Tc (fun e=>e.elim (fun e=>hg10 ((uM _).2 e)) (fun e=>hg13 ((oO _).2 e.1)))];rfl)
instance LB.canon (l:ab) [h:LB l]:LB l.canon:=by unfold ab.canon;split;exact LB.rev h;exact h
def OR{l:ab}(h:l.ok):l.canon.ok:=by unfold ab.canon;split;exact h.rev;exact h
def r9{α β:Type}(c:β->β->Int)(g:α->β)(l:List α)(k:Nat):List β:=rm c ((l.take k).map g)
section
variable {α β:Type} {c:β->β->Int} {g:α->β} {l:List α} {k:Nat}
def AL{x:α}(h:l[k]? =some x):r9 c g l (k+1)=eE c (g x) (r9 c g l k):=by
 unfold r9 rm;rw[fN,h,Option.toList_some,dV,List.foldl_append];rfl
def NL(h:k=l.length):r9 c g l k=rm c (l.map g):=by unfold r9;rw[h,dS]
def Ol:(r9 c g l k).length<=k:=by
 have:=Gt c ((l.take k).map g) [];have h2:((l.take k).map g).length<=k:=by rw[aJ,cK];omega
 rw[gM] at this;unfold r9 rm;omega
def Pg{y:β}(h:y∈r9 c g l k): ∃x∈l,y=g x:=by
 rcases AS c h with h|h
 ·obtain⟨x,hx,rfl⟩:=bJ.1 h
  exact⟨x,fL hx,J⟩
 ·cases h
end
def EW{α:Type}{f:α->DV}{s:Nat}(ok: ∀l:List α,dH s (l.map f))(xs:List α)(n:Nat):dH s ((xs.map f).take n):=fun d hd=>ok xs d (fL hd)
def Dh{α:Type}{f:α->DV}{s:Nat}(ok: ∀l:List α,dH s (l.map f))(xs:List α)(n m:Nat):dH s (((xs.map f).take n).drop m):=fun d hd=>ok xs d (fL (jT hd))
def FR{α:Type}{f:α->DV}{s:Nat}(ok: ∀l:List α,dH s (l.map f))(xs:List α)(n m:Nat)(x:α):dH s ([f x]++((xs.map f).take n).drop m):=fun d hd=>by
 rcases bW.1 hd with h|h
 ·exact ok [x] d h
 ·exact Dh ok xs n m d h
def zg{α:Type}{f:α->DV}{l:List α}{i:Nat}(h:i<l.length):(l.map f)[(i:Int).toNat]? =some (f l[i]):=by
 rw[bZ,fS,aX h];rfl
def Xp{ps:List aa}(hb: ∀p∈ps,aB p 1200)(hn:ps.length<=100000):PF GB prog 52 [.sl (ps.map eP)] (.sl ((rm ge ps).map eP)):=by
 have hm':=oH eP ps;refine fn (fu:=⟨15⟩) func52 J J ntmps52 J J (fun C=>?_);refine ao 8 (.d (vI (ps.length:Nat))) J (by rw[hm'];rfl) ?_;refine gx J<|?_;refine O7 3 J ?_;refine lp (X:=List aa×Nat) (fun⟨xs,k⟩=>[(9, .d (vI (k:Nat))),(8, .d (vI (ps.length:Nat))),(7, .d (.sl (ps.map eP))),(0, .d (.sl (ps.map eP))),(3, .d (.sl (xs.map eP)))]) (fun⟨xs,k⟩=>[]) (fun⟨xs,k⟩=>xs=r9 ge id ps k/\k<=ps.length) (fun⟨xs,k⟩=>ps.length-k) ⟨[],0⟩ J ⟨J,bT _⟩ (fun _=>J) (fun⟨xs,k⟩ hk=>?_)
 try dsimp only at hk⊢
 obtain⟨hS,hkl⟩:=hk;refine br J J J (fun hc10=>?_) (fun hc10=>?_)
 .
  have hk:k<ps.length:=by omega
  obtain⟨m,hm⟩: ∃m,m=ps[k]:=⟨_,rfl⟩;have hz:ps[k]? =some m:=by rw[hm];exact aX hk
  haveI hmb:aB m 1200:=hm▸hb _ (gV hk);have hxl:=oH eP xs;have hxn:xs.length<=k:=by rw[hS];exact Ol
  have hxb: ∀q∈xs,aB q 1200:=fun q hq=>by rw[hS] at hq;obtain⟨z,hz,he⟩:=Pg hq;rw[he];exact hb z hz
  refine ix (fu:=⟨1⟩) _ J (zg hk) J<|?_;refine ao 12 (.d (eP m)) J (by rw[hm];rfl) ?_;refine gx (fu:=⟨10⟩) J<|?_;refine mg (fu:=⟨5⟩) (X:=Unit) (fun _=>[(9, .d (vI (k:Nat))),(8, .d (vI (ps.length:Nat))),(7, .d (.sl (ps.map eP))),(0, .d (.sl (ps.map eP))),(3, .d (.sl (xs.map eP))),(5, .ov 5 0),(6, .d (vI (lH ge m xs:Nat)))]) (fun _=>[(5,some (.o 48 [.d ((.v (.bool (decide (m.x.num<0))))), .d (dN m.x.num.natAbs), .d (dD m.x.den), .d ((.v (.bool (decide (m.y.num<0))))), .d (dN m.y.num.natAbs), .d (dD m.y.den)] true))]) (fun _=>True) [9,8,7,0,3,5,6] [5] rfl ?_ (fun _=>J) (fun _ _=>?_)
  .
   refine gx J<|?_;refine lp (fu:=⟨6⟩) (X:=Nat) (fun n=>[(9, .d (vI (k:Nat))),(8, .d (vI (ps.length:Nat))),(7, .d (.sl (ps.map eP))),(0, .d (.sl (ps.map eP))),(3, .d (.sl (xs.map eP))),(5, .ov 5 0),(6, .d (vI (n:Nat)))]) (fun n=>[(5,some (.o 48 [.d ((.v (.bool (decide (m.x.num<0))))), .d (dN m.x.num.natAbs), .d (dD m.x.den), .d ((.v (.bool (decide (m.y.num<0))))), .d (dN m.y.num.natAbs), .d (dD m.y.den)] true))]) (fun n=>n<=xs.length/\ ∀j (h:j<xs.length),j<n->ge xs[j] m<0) (fun n=>xs.length-n) 0 J ⟨bT _,fun j _ hj=>absurd hj (by omega)⟩ (fun _=>J) (fun n hk=>?_);obtain⟨n1,n2⟩:=hk;refine qt (v2:=fun hg16=>by simp only[ah];kernel_rfl) J J J J (fun hg16=>?_) (fun hg16=>?_)
   .
    refine ix _ J (zg (by omega)) J<|cl J (MS (p:=xs[n]'(by omega)) (q:=m) (hp:=hxb _ (gV (by omega))) (hq:=hmb)) J<|?_;refine br J J J (fun hc25=>?_) (fun hc25=>?_)
    .
     exact at_ (n+1) ⟨⟨by omega,fun j h hj=>by by_cases q:j=n;(subst q;exact hc25);exact n2 j h (by omega)⟩,(by omega)⟩
    .
     have hidx:lH ge m xs=n:=GN ge n1 n2 (fun h=>hc25);exact at_ () trivial
   .
    have hidx:lH ge m xs=n:=GN ge n1 n2 (fun h=>absurd h (by omega));exact at_ () trivial
  .
   obtain⟨n,hnx⟩: ∃n,lH ge m xs=n:=⟨_,rfl⟩;rw[hnx];have hnl:n<=xs.length:=by rw[<-hnx];exact Od _ _ _
   refine qt (v1:=fun hg31=>by simp only[ah];kernel_rfl) J J J J (fun hg31=>?_) (fun hg31=>?_)
   .
    have hnew: ∀h:n<xs.length,ge xs[n] m≠0:=fun h=>absurd h (by omega);obtain⟨ys,hys⟩: ∃ys,ys=xs.take n++m::xs.drop n:=⟨_,rfl⟩;have hin:eE ge m xs=ys:=by rw[hys];exact Du ge hnx hnew
    have hyl:ys.length<=xs.length+1:=by rw[hys];simp;omega
    refine s3 n _ J J J J (qP _) (by rw[hxl];exact hnl) J<|ro J J<|sv n xs.length _ J J (by rw[hxl]) J (qP _) hnl (by omega) J<|?_;refine ap _ J J (Dh qP _ _ _) J<|GQ (hv:=by simp only[ah];exact⟨by kernel_rfl,by omega⟩) (ho:=fun _=>⟨EW qP _ _,by simp⟩) (ys.map eP) J (by rw[hys,dV,bL,mW,qM,bX (l:=xs.map eP) (i:=xs.length) (by simp)];rfl) (FR qP _ _ _ _) J<|?_;exact at_ ⟨ys,k+1⟩ (by dsimp only;exact⟨⟨by rw[AL hz,<-hS];exact hin.symm,by omega⟩,(by omega)⟩)
   .
    refine ix _ J (zg (by omega)) J<|cl J (MS (p:=xs[n]'(by omega)) (q:=m) (hp:=hxb _ (gV (by omega))) (hq:=hmb)) J<|?_;refine br J J J (fun hc40=>?_) (fun hc40=>?_)
    .
     have hnew: ∀h:n<xs.length,ge xs[n] m≠0:=fun h=>hc40;obtain⟨ys,hys⟩: ∃ys,ys=xs.take n++m::xs.drop n:=⟨_,rfl⟩;have hin:eE ge m xs=ys:=by rw[hys];exact Du ge hnx hnew
     have hyl:ys.length<=xs.length+1:=by rw[hys];simp;omega
     refine s3 n _ J J J J (qP _) (by rw[hxl];exact hnl) J<|ro J J<|sv n xs.length _ J J (by rw[hxl]) J (qP _) hnl (by omega) J<|?_;refine ap _ J J (Dh qP _ _ _) J<|GQ (hv:=by simp only[ah];exact⟨by kernel_rfl,by omega⟩) (ho:=fun _=>⟨EW qP _ _,by simp⟩) (ys.map eP) J (by rw[hys,dV,bL,mW,qM,bX (l:=xs.map eP) (i:=xs.length) (by simp)];rfl) (FR qP _ _ _ _) J<|?_;exact at_ ⟨ys,k+1⟩ (by dsimp only;exact⟨⟨by rw[AL hz,<-hS];exact hin.symm,by omega⟩,(by omega)⟩)
    .
     have hin:eE ge m xs=xs:=Hq ge hnx (by omega) (Decidable.not_not.1 hc40);exact at_ ⟨xs,k+1⟩ (by dsimp only;exact⟨⟨by rw[AL hz,<-hS];exact hin.symm,by omega⟩,(by omega)⟩)
 .
  have hfin:rm ge ps=xs:=by rw[hS,NL (by omega),List.map_id]
  exact rz J (by rw[hfin];rfl)
def lz(ls:List ab):List ab:=rm fP (ls.map ab.canon)
def Ld{ls:List ab}{y:ab}(h:y∈lz ls): ∃x∈ls,y=x.canon:=by
 rcases AS fP h with h|h
 ·obtain⟨x,hx,rfl⟩:=bJ.1 h;exact⟨x,hx,rfl⟩
 ·cases h
def ask{ls:List ab}(hb: ∀p∈ls,LB p)(hn:ls.length<=100000):PF GB prog 29 [.sl (ls.map eL)] (.sl ((lz ls).map eL)):=by
 have hm':=oH eL ls;refine fn (fu:=⟨15⟩) func29 J J ntmps29 J J (fun C=>?_);refine ao 8 (.d (vI (ls.length:Nat))) J (by rw[hm'];rfl) ?_;refine gx J<|?_;refine O7 3 J ?_;refine lp (X:=List ab×Nat) (fun⟨xs,k⟩=>[(9, .d (vI (k:Nat))),(8, .d (vI (ls.length:Nat))),(7, .d (.sl (ls.map eL))),(0, .d (.sl (ls.map eL))),(3, .d (.sl (xs.map eL)))]) (fun⟨xs,k⟩=>[]) (fun⟨xs,k⟩=>xs=r9 fP ab.canon ls k/\k<=ls.length) (fun⟨xs,k⟩=>ls.length-k) ⟨[],0⟩ J ⟨J,bT _⟩ (fun _=>J) (fun⟨xs,k⟩ hk=>?_)
 try dsimp only at hk⊢
 obtain⟨hS,hkl⟩:=hk;refine br J J J (fun hc10=>?_) (fun hc10=>?_)
 .
  have hk:k<ls.length:=by omega
  obtain⟨z,hm⟩: ∃m,m=ls[k]:=⟨_,rfl⟩;have hz:ls[k]? =some z:=by rw[hm];exact aX hk
  haveI hzb:LB z:=hm▸hb _ (gV hk);obtain⟨m,hmc⟩: ∃m,m=z.canon:=⟨_,rfl⟩;haveI hmb:LB m:=by rw[hmc];infer_instance
  have hxl:=oH eL xs;have hxn:xs.length<=k:=by rw[hS];exact Ol
  have hxb: ∀q∈xs,LB q:=fun q hq=>by rw[hS] at hq;obtain⟨z,hz,rfl⟩:=Pg hq;haveI:=hb z hz;infer_instance
  refine ix (fu:=⟨1⟩) _ J (zg hk) J<|?_;refine ao 12 (.d (eL z)) J (by rw[hm];rfl) ?_;refine gx J<|cl (fu:=⟨2⟩) J (Wk (l:=z)) J<|?_;refine ao 16 (.d (eL m)) J (by rw[hmc]) ?_;refine gx (fu:=⟨10⟩) J<|?_;refine mg (fu:=⟨5⟩) (X:=Unit) (fun _=>[(9, .d (vI (k:Nat))),(8, .d (vI (ls.length:Nat))),(7, .d (.sl (ls.map eL))),(0, .d (.sl (ls.map eL))),(3, .d (.sl (xs.map eL))),(5, .ov 5 0),(6, .d (vI (lH fP m xs:Nat)))]) (fun _=>[(5,some (.o 51 [.d ((.v (.bool (decide (m.a<0))))), .d (dN m.a.natAbs), .d ((.v (.bool (decide (m.b<0))))), .d (dN m.b.natAbs), .d ((.v (.bool (decide (m.c<0))))), .d (dN m.c.natAbs)] true))]) (fun _=>True) [9,8,7,0,3,5,6] [5] rfl ?_ (fun _=>J) (fun _ _=>?_)
  .
   refine gx J<|?_;refine lp (fu:=⟨6⟩) (X:=Nat) (fun n=>[(9, .d (vI (k:Nat))),(8, .d (vI (ls.length:Nat))),(7, .d (.sl (ls.map eL))),(0, .d (.sl (ls.map eL))),(3, .d (.sl (xs.map eL))),(5, .ov 5 0),(6, .d (vI (n:Nat)))]) (fun n=>[(5,some (.o 51 [.d ((.v (.bool (decide (m.a<0))))), .d (dN m.a.natAbs), .d ((.v (.bool (decide (m.b<0))))), .d (dN m.b.natAbs), .d ((.v (.bool (decide (m.c<0))))), .d (dN m.c.natAbs)] true))]) (fun n=>n<=xs.length/\ ∀j (h:j<xs.length),j<n->fP xs[j] m<0) (fun n=>xs.length-n) 0 J ⟨bT _,fun j _ hj=>absurd hj (by omega)⟩ (fun _=>J) (fun n hk=>?_);obtain⟨n1,n2⟩:=hk;refine qt (v2:=fun hg21=>by simp only[ah];kernel_rfl) J J J J (fun hg21=>?_) (fun hg21=>?_)
   .
    refine ix _ J (zg (by omega)) J<|cl J (Po (l:=xs[n]'(by omega)) (m:=m) (hl:=hxb _ (gV (by omega))) (hm:=hmb)) J<|?_;refine br J J J (fun hc30=>?_) (fun hc30=>?_)
    .
     exact at_ (n+1) ⟨⟨by omega,fun j h hj=>by by_cases q:j=n;(subst q;exact hc30);exact n2 j h (by omega)⟩,(by omega)⟩
    .
     have hidx:lH fP m xs=n:=GN fP n1 n2 (fun h=>hc30);exact at_ () trivial
   .
    have hidx:lH fP m xs=n:=GN fP n1 n2 (fun h=>absurd h (by omega));exact at_ () trivial
  .
   obtain⟨n,hnx⟩: ∃n,lH fP m xs=n:=⟨_,rfl⟩;rw[hnx];have hnl:n<=xs.length:=by rw[<-hnx];exact Od _ _ _
   refine qt (v1:=fun hg36=>by simp only[ah];kernel_rfl) J J J J (fun hg36=>?_) (fun hg36=>?_)
   .
    have hnew: ∀h:n<xs.length,fP xs[n] m≠0:=fun h=>absurd h (by omega);obtain⟨ys,hys⟩: ∃ys,ys=xs.take n++m::xs.drop n:=⟨_,rfl⟩;have hin:eE fP m xs=ys:=by rw[hys];exact Du fP hnx hnew
    have hyl:ys.length<=xs.length+1:=by rw[hys];simp;omega
    refine s3 n _ J J J J (qg _) (by rw[hxl];exact hnl) J<|ro J J<|sv n xs.length _ J J (by rw[hxl]) J (qg _) hnl (by omega) J<|?_;refine ap _ J J (Dh qg _ _ _) J<|GQ (hv:=by simp only[ah];exact⟨by kernel_rfl,by omega⟩) (ho:=fun _=>⟨EW qg _ _,by simp⟩) (ys.map eL) J (by rw[hys,dV,bL,mW,qM,bX (l:=xs.map eL) (i:=xs.length) (by simp)];rfl) (FR qg _ _ _ _) J<|?_;exact at_ ⟨ys,k+1⟩ (by dsimp only;exact⟨⟨by rw[AL hz,<-hS,<-hmc];exact hin.symm,by omega⟩,(by omega)⟩)
   .
    refine ix _ J (zg (by omega)) J<|cl J (Po (l:=xs[n]'(by omega)) (m:=m) (hl:=hxb _ (gV (by omega))) (hm:=hmb)) J<|?_;refine br J J J (fun hc45=>?_) (fun hc45=>?_)
    .
     have hnew: ∀h:n<xs.length,fP xs[n] m≠0:=fun h=>hc45;obtain⟨ys,hys⟩: ∃ys,ys=xs.take n++m::xs.drop n:=⟨_,rfl⟩;have hin:eE fP m xs=ys:=by rw[hys];exact Du fP hnx hnew
     have hyl:ys.length<=xs.length+1:=by rw[hys];simp;omega
     refine s3 n _ J J J J (qg _) (by rw[hxl];exact hnl) J<|ro J J<|sv n xs.length _ J J (by rw[hxl]) J (qg _) hnl (by omega) J<|?_;refine ap _ J J (Dh qg _ _ _) J<|GQ (hv:=by simp only[ah];exact⟨by kernel_rfl,by omega⟩) (ho:=fun _=>⟨EW qg _ _,by simp⟩) (ys.map eL) J (by rw[hys,dV,bL,mW,qM,bX (l:=xs.map eL) (i:=xs.length) (by simp)];rfl) (FR qg _ _ _ _) J<|?_;exact at_ ⟨ys,k+1⟩ (by dsimp only;exact⟨⟨by rw[AL hz,<-hS,<-hmc];exact hin.symm,by omega⟩,(by omega)⟩)
    .
     have hin:eE fP m xs=xs:=Hq fP hnx (by omega) (Decidable.not_not.1 hc45);exact at_ ⟨xs,k+1⟩ (by dsimp only;exact⟨⟨by rw[AL hz,<-hS,<-hmc];exact hin.symm,by omega⟩,(by omega)⟩)
 .
  have hfin:lz ls=xs:=by rw[hS,NL (by omega)];rfl
  exact rz J (by rw[hfin];rfl)
def Ed{α:Type}{c:α->α->Int}(hc: ∀u x,c u x=0->u=x){x y:α}: ∀{xs:List α},y=x\/y∈xs->y∈eE c x xs
 |[],h=>by
  rcases h with rfl|h
  ·rw[eE];exact aV.2 J
  ·cases h
 |u::t,h=>by
  rw[eE];split
  ·rcases h with rfl|h
   ·exact aZ _ (Ed hc (.inl J))
   ·rcases aW.1 h with rfl|h
    ·exact aQ
    ·exact aZ _ (Ed hc (.inr h))
  ·split
   ·rename_i h0
    rcases h with rfl|h
    ·rw[<-hc _ _ h0];exact aQ
    ·exact h
   ·rcases h with rfl|h
    ·exact aQ
    ·exact aZ _ h
def R4{α:Type}{c:α->α->Int}(hc: ∀u x,c u x=0->u=x){y:α}: ∀{l o:List α},y∈l\/y∈o->y∈l.foldl (fun out x=>eE c x out) o
 |[],o,h=>h.elim (fun h=>by cases h) id
 |x::t,o,h=>by
  refine R4 hc (l:=t) ?_;rcases h with h|h
  ·rcases aW.1 h with rfl|h
   ·exact .inr (Ed hc (.inl J))
   ·exact .inl h
  ·exact .inr (Ed hc (.inr h))
def awS{ls:List ab}{x:ab}(h:x∈ls):x.canon∈lz ls:=
 R4 (fun u x e=>(XX u x).1 e) (.inl (gN h))
def Hk(l:ab)(p:aa):l.canon.value p=l.value p\/l.canon.value p= -l.value p:=by
 unfold ab.canon;split
 ·exact .inr (iE l p)
 ·exact .inl J
def Ls(a b:Tr):List aa:=NF (lz (a.lns++b.lns))
def eqR(a b:Tr):Bool:=(Ls a b).all fun p=>uI a p==uI b p
def aKm(f:Bool->Bool->Bool)(a b:Tr):Bool:=(Ls a b).any fun p=>f (uI a p) (uI b p)
def aJf(v:Bool)(t:Tr):Bool:=decide ((t.restrict []).isLeaf=true/\(t.restrict []).code=v)
def NS{α:Type}{c:α->α->Int}(hT: ∀u v w,c u v<0->c v w<0->c u w<0)(hA: ∀u v,¬c u v<0->c u v≠0->c v u<0){x:α}: ∀{xs:List α},xs.Pairwise (fun a b=>c a b<0)->(eE c x xs).Pairwise (fun a b=>c a b<0)
 |[],_=>by rw[eE];exact List.pairwise_singleton _ _
 |u::t,h=>by
  obtain⟨h1,h2⟩:=bK.1 h;rw[eE];split
  ·rename_i hu
   refine bK.2 ⟨fun y hy=>?_,NS hT hA h2⟩;rcases I9 c hy with rfl|hy
   ·exact hu
   ·exact h1 y hy
  ·rename_i hu
   split
   ·exact h
   ·rename_i hz
    have hx:=hA u x hu hz;refine bK.2 ⟨fun y hy=>?_,h⟩;rcases aW.1 hy with rfl|hy
    ·exact hx
    ·exact hT _ _ _ hx (h1 y hy)
def IQ{α:Type}{c:α->α->Int}(hT: ∀u v w,c u v<0->c v w<0->c u w<0)(hA: ∀u v,¬c u v<0->c u v≠0->c v u<0): ∀{l o:List α},o.Pairwise (fun a b=>c a b<0)->(l.foldl (fun out x=>eE c x out) o).Pairwise (fun a b=>c a b<0)
 |[],o,h=>h
 |x::l,o,h=>IQ (l:=l) (o:=eE c x o) hT hA (NS hT hA h)
def IW(l m:ab):fP l m<0↔l.a<m.a\/(l.a=m.a/\(l.b<m.b\/(l.b=m.b/\l.c<m.c))):=by
 unfold fP;split
 ·rename_i h;rw[uM];rw[ne_eq,oO] at h;omega
 ·rename_i h;rw[ne_eq,Decidable.not_not,oO] at h
  split
  ·rename_i k;rw[uM];rw[ne_eq,oO] at k;omega
  ·rename_i k;rw[ne_eq,Decidable.not_not,oO] at k;rw[uM];omega
def asc(l m:ab):fP l m=0↔l.a=m.a/\l.b=m.b/\l.c=m.c:=by
 unfold fP;split
 ·rename_i h;rw[oO];rw[ne_eq,oO] at h;omega
 ·rename_i h;rw[ne_eq,Decidable.not_not,oO] at h
  split
  ·rename_i k;rw[oO];rw[ne_eq,oO] at k;omega
  ·rename_i k;rw[ne_eq,Decidable.not_not,oO] at k;rw[oO];omega
def YE(ls:List ab):(lz ls).Pairwise (fun a b=>fP a b<0):=
 IQ (fun u v w h k=>by rw[IW] at*;omega) (fun u v h k=>by rw[IW] at*;rw[ne_eq,asc] at k;omega) List.Pairwise.nil
def ZR(L:List ab)(p:aa):List aa:=L.flatMap fun l=>if Int.sign (l.value p).num=0 then [l.dir,bp l.dir] else []
def Zp{u v:aa}:0<cO u v↔cD v u:=by
 unfold cO cD;split
 ·rename_i h;exact⟨fun e=>absurd e (by decide),fun e=>by omega⟩
 ·rename_i h
  split
  ·rename_i h2;exact⟨fun _=> .inl h2,fun _=>by decide⟩
  ·rename_i h2
   have e:v.half=u.half:=by omega
   rw[fC u v];constructor
   ·intro k
    have:Int.sign (u.cross v).num<0:=by omega
    rw[lc] at this;exact .inr ⟨e,by grind⟩
   ·rintro (k|⟨_,k⟩)
    ·omega
    ·have:Int.sign (u.cross v).num<0:=(lc _).2 (by grind)
     omega
def cD.trans{u v w:aa}(hu:u.half≠0)(hv:v.half≠0)(hw:w.half≠0)(h:cD u v)(k:cD v w):cD u w:=by
 rcases h with h|⟨h,h'⟩<;>rcases k with k|⟨k,k'⟩
 ·exact .inl (by omega)
 ·exact .inl (by omega)
 ·exact .inl (by omega)
 ·refine .inr ⟨h.trans k,?_⟩
  have id1:u.cross w*v.y=u.cross v*w.y+v.cross w*u.y:=by unfold aa.cross;grind
  rcases kA v with⟨x,q⟩|⟨x,q⟩|⟨x,q⟩
  ·rw[x] at h k
   have qu:=ou.1 h;have qw:=ou.1 k.symm;rcases q with q|⟨q,q'⟩
   ·rw[<-gp q,id1]
    have wy:0<=w.y:=by grind
    have uy:0<=u.y:=by grind
    have a1:=cj (cM h') wy;rcases qu with qu|⟨qu,qu'⟩
    ·have:=bF k' qu;grind
    ·rcases qw with qw|⟨qw,qw'⟩
     ·have:=bF h' qw;rw[qu];grind
     ·exfalso
      have hx:v.cross w= -(w.x*v.y):=by unfold aa.cross;rw[qw];grind
      have:=bF qw' q;grind
   ·exfalso
    have hx:u.cross v= -(v.x*u.y):=by unfold aa.cross;rw[q];grind
    have:=cj (a:=v.x) (b:=u.y) (cM q') (by grind);grind
  ·rw[x] at h k
   have qu:=qz.1 h;have qw:=qz.1 k.symm;rcases q with q|⟨q,q'⟩
   ·have e1:u.cross w* -v.y=u.cross v* -w.y+v.cross w* -u.y:=by grind
    rw[<-gp (k:= -v.y) (by grind),e1];have a1:=cj (a:=u.cross v) (b:= -w.y) (cM h') (by grind);rcases qu with qu|⟨qu,qu'⟩
    ·have:=bF (a:=v.cross w) (b:= -u.y) k' (by grind);grind
    ·rcases qw with qw|⟨qw,qw'⟩
     ·have:=bF (a:=u.cross v) (b:= -w.y) h' (by grind);rw[qu];grind
     ·exfalso
      have hx:v.cross w= -(-w.x* -v.y):=by unfold aa.cross;rw[qw];grind
      have:=bF (a:= -w.x) (b:= -v.y) (by grind) (by grind);grind
   ·exfalso
    have hx:u.cross v= -(-v.x* -u.y):=by unfold aa.cross;rw[q];grind
    have:=cj (a:= -v.x) (b:= -u.y) (by grind) (by grind);grind
  ·exact absurd x hv
def IS(S:List aa)(x:aa):Nat->Nat
 |0=>0
 |k+1=>if 0<cO (S.getD k ⟨0,0⟩) x then IS S x k else k+1
def VH(S:List aa)(x:aa):List aa:=S.take (IS S x S.length)++x::S.drop (IS S x S.length)
def U8(ds:List aa):List aa:=ds.foldl VH []
structure IP (L:List ab):Prop where
 ok: ∀l∈L,l.ok
 cn: ∀l∈L,qb l=false
 nd:L.Pairwise (fun a b=>a≠b)
def Kd{l:ab}(h:l.ok):qb l.canon=false:=by
 have hn:=h.ne;unfold ab.Ne at hn;unfold ab.canon;split
 ·rename_i k
  unfold qb at*;rw[decide_eq_true_eq] at k;rw[decide_eq_false_iff_not];show¬(-l.a<0\/(-l.a=0/\ -l.b<0));omega
 ·rename_i k;simpa using k
def Ze{ls:List ab}(h: ∀l∈ls,l.ok):IP (lz ls) where
 ok:=fun l hl=>by obtain⟨x,hx,rfl⟩:=Ld hl;exact OR (h x hx)
 cn:=fun l hl=>by obtain⟨x,hx,rfl⟩:=Ld hl;exact Kd (h x hx)
 nd:=(YE ls).imp fun{a b} k e=>by subst e;rw[IW] at k;omega
def yq{l:ab}(h:l.ok):l.dir.half≠0:=fun e=>by
 have hn:=h.ne;unfold ab.Ne at hn;rcases kA l.dir with⟨k,_⟩|⟨k,_⟩|⟨_,k1,k2⟩
 ·rw[k] at e;cases e
 ·rw[k] at e;cases e
 ·unfold ab.dir at k1 k2
  simp only at k1 k2;apply hn;refine⟨?_,dY.1 k2⟩;have:(l.a:Rat)=0:=by grind
  exact dY.1 this
def V2{d:aa}(h:d.half≠0):(bp d).half≠0:=by rw[sH h];have:=gr h;omega
def CX(d:aa):bp (bp d)=d:=by unfold bp;cases d;simp
def aBJ{l m:ab}(hl:l.ok)(hm:m.ok)(cl:qb l=false)(cm:qb m=false){p:aa}(h1:l.value p=0)(h2:m.value p=0)(hc:l.dir.cross m.dir=0):l=m:=by
 have key: ∀t,l.value (m.at t)=0:=fun t=>by
  obtain⟨s,rfl⟩:=Dt hm.ne h2;rw[oc] at h1⊢;have hk:m.cutK l=0:=by
   unfold ab.cutK;rw[<-ym];exact hc
  rw[hk] at h1⊢;grind
 rcases Gs hl hm key with e|e
 ·exact e
 ·exfalso
  have hn:=hm.ne;unfold ab.Ne at hn;rw[e] at cl;unfold qb at cl cm;rw[decide_eq_false_iff_not] at cl cm;have cl: ¬(-m.a<0\/(-m.a=0/\ -m.b<0)):=cl;omega
def My{ds:List aa}(h:ds.Pairwise cD)(hd:vu ds){i:Nat}(hi:i<ds.length)(hj:(i+1)%ds.length<ds.length):oe ds ds[i] ds[(i+1)%ds.length]:=by
 have hp:=nL.1 h;have irr: ∀{u v:aa},cD u v-> ¬cD v u:=fun{u v} a b=>by
  unfold cD at a b;rw[fC u v] at b;rcases a with a|⟨a,a'⟩<;>rcases b with b|⟨b,b'⟩
  ·omega
  ·omega
  ·omega
  ·grind
 have ord: ∀{j k:Nat} (a:j<ds.length) (b:k<ds.length),cD ds[j] ds[k]->j<k:=fun{j k} a b q=>by
  rcases pU j k with e|e|e
  ·exact e
  ·subst e;exact absurd q (irr q)
  ·exact absurd (hp k j b a e) (irr q)
 by_cases hl:i+1<ds.length
 ·have e:(i+1)%ds.length=i+1:=fU hl
  simp only[e];refine .inl ⟨hp i (i+1) hi hl (by omega),fun d hd' ⟨q1,q2⟩=>?_⟩;obtain⟨j,hj',rfl⟩:=oY hd';have:=ord hi hj' q1;have:=ord hj' hl q2;omega
 ·have e:(i+1)%ds.length=0:=by rw[show i+1=ds.length by omega];exact Nat.mod_self _
  simp only[e];refine .inr ⟨fun d hd' q=>?_,fun d hd' q=>?_⟩
  ·obtain⟨j,hj',rfl⟩:=oY hd'
   have:=ord hi hj' q;omega
  ·obtain⟨j,hj',rfl⟩:=oY hd'
   have:=ord hj' (by omega) q;omega
def T0(v:aa):Nat:=Nat.gcd (v.x.num.natAbs*v.y.den) (v.y.num.natAbs*v.x.den)
def Ts(n:Int)(d g:Nat):Int:=if n<0 then-((n.natAbs*d/g:Nat):Int) else((n.natAbs*d/g:Nat):Int)
def T3(v:aa):aa:=if v.half=0 then⟨0,0⟩ else⟨(Ts v.x.num v.y.den (T0 v):Int),(Ts v.y.num v.x.den (T0 v):Int)⟩
def Vm(ds:List aa)(i:Nat):List aa:=
 if cO (ds.getD i ⟨0,0⟩) (ds.getD ((i+1)%ds.length) ⟨0,0⟩)=0/\2<ds.length then []
 else if Int.sign ((ds.getD i ⟨0,0⟩).cross (ds.getD ((i+1)%ds.length) ⟨0,0⟩)).num=0 then [gO (ds.getD i ⟨0,0⟩)]
 else [bt (T3 (ds.getD i ⟨0,0⟩)) (T3 (ds.getD ((i+1)%ds.length) ⟨0,0⟩)) 1]
def X0(ds:List aa):List aa:=if ds.length=0 then [⟨1,0⟩] else(List.range ds.length).flatMap (Vm ds)
def MR(L:List ab)(p:aa):List aa:=X0 (U8 (ZR L p))
def F0{ds:List aa}{i:Nat}(h:i<ds.length):ds.getD i ⟨0,0⟩=ds[i]:=by
 rw[aK,aX h,jK]
def aJF(t:Tr)(p:aa):Bool:=(MR (lz t.lns) p).any fun v=>(fj t p v).1
def aI1(t:Tr)(p:aa):Bool:=(MR (lz t.lns) p).all fun v=>(fj t p v).1
def uY{z:Rat}(h:z<0):Int.sign z.num= -1:=by
 have:=(lc _).2 h;rcases lW z.num 0 with q|q|q
 ·exact fY q
 ·rw[q] at this;simp at this
 ·rw[fT q] at this;simp at this
def lI:Tr->aa->List ab
 | .leaf _,_=>[]
 | .node l x y,p=>(if Int.sign (l.value p).num=0 then [l] else [])++((if 0<=Int.sign (l.value p).num then lI x p else [])++(if Int.sign (l.value p).num<=0 then lI y p else []))
def oE: ∀{t:Tr} {p:aa} {l:ab},l∈lI t p->l∈t.lns/\l.value p=0
 | .leaf _,p,l,h=>by cases h
 | .node m x y,p,l,h=>by
  rw[lI,bW,bW] at h;rcases h with h|h|h
  ·split at h
   ·rw[aV] at h;subst h
    rename_i k;exact⟨aQ,(jA _).1 k⟩
   ·cases h
  ·split at h
   ·have:=oE h;exact⟨aZ _ (bM _ this.1),this.2⟩
   ·cases h
  ·split at h
   ·have:=oE h;exact⟨aZ _ (cJ _ this.1),this.2⟩
   ·cases h
def Pp{t:Tr}{p v:aa}(h:Gn t.lns p v):Gn (lI t p) p v:=fun l hl hz=>h l (oE hl).1 hz
def Bq: ∀{t:Tr} {p v w:aa},(∀l∈lI t p,Int.sign (l.nor.dot v).num=Int.sign (l.nor.dot w).num)->fj t p v=fj t p w
 | .leaf _,_,_,_,_=>rfl
 | .node l x y,p,v,w,h=>by
  have hx:0<=Int.sign (l.value p).num->fj x p v=fj x p w:=fun k=>Bq fun m hm=>h m (by rw[lI,bW,bW,if_pos k];exact .inr (.inl hm));have hy:Int.sign (l.value p).num<=0->fj y p v=fj y p w:=fun k=>Bq fun m hm=>h m (by rw[lI,bW,bW,if_pos k];exact .inr (.inr hm));rw[fj,fj,ym,ym];by_cases k:Int.sign (l.value p).num=0
  ·rw[if_pos k,if_pos k,<-h l (by rw[lI,if_pos k];exact aQ),hx (by omega),hy (by omega)]
  ·rw[if_neg k,if_neg k]
   generalize Int.sign (l.value p).num=s at*;split
   ·exact hx (by decide)
   ·exact hy (by decide)
   ·rfl
def GV{L M:List ab}{p v:aa}(hM: ∀l∈M,l.ok)(hL:Gn L p v): ∃w,Gn M p w/\ ∀l∈L,l.value p=0->Int.sign (l.nor.dot v).num=Int.sign (l.nor.dot w).num:=by
 have e2: ∀l:ab,l.value p=0->l.value (bt p v 1)=l.nor.dot v:=fun l hz=>by rw[i6,hz];grind
 have hp':b9 ((L.filter fun l=>decide (l.value p=0)).map fun l=>(⟨if 0<l.value (bt p v 1) then l else l.rev,av.all⟩:aE)) (bt p v 1):=fun s hs=>by
  obtain⟨l,hl,rfl⟩:=bJ.1 hs;obtain⟨h1,h2⟩:=jJ.1 hl;have h3:=of_decide_eq_true h2;have h0:l.value (bt p v 1)≠0:=by rw[e2 l h3];exact hL l h1 h3
  simp only;split
  ·assumption
  ·rw[iE];grind
 obtain⟨q,q1,q2⟩:=Hy hp' M hM;have e: ∀l:ab,l.value p=0->l.value q=l.nor.dot ⟨q.x-p.x,q.y-p.y⟩:=fun l hz=>by
  have h1:=i6 l p ⟨q.x-p.x,q.y-p.y⟩ 1;rw[hz] at h1;have h2:bt p ⟨q.x-p.x,q.y-p.y⟩ 1=q:=by
   unfold bt
   cases q
   simp only[aa.mk.injEq];constructor<;>grind
  rw[h2] at h1;rw[h1];grind
 refine⟨⟨q.x-p.x,q.y-p.y⟩,fun m hm hz=>?_,fun l hl hz=>?_⟩
 ·rw[<-e m hz];exact q2 m hm
 ·have h1:=q1 _ (bJ.2 ⟨l,jJ.2 ⟨hl,decide_eq_true hz⟩,J⟩)
  simp only at h1;rw[e2 l hz] at h1;rw[<-e l hz];have h0:=hL l hl hz;split at h1
  ·rename_i k
   rw[(jd _).2 k,(jd _).2 h1]
  ·rename_i k
   rw[iE] at h1;rw[uY (by grind),uY (by grind)]
def tI(t:Tr)(p:aa)(b:Bool):Prop:= ∃v,Gn (lI t p) p v/\(fj t p v).1=b
def aFh{t:Tr}{p w:aa}(h:Gn t.lns p w):tI t p (fj t p w).1:=⟨w,Pp h,J⟩
def aAU{t:Tr}{p:aa}{b:Bool}(h:tI t p b){M:List ab}(hM: ∀l∈M,l.ok): ∃w,Gn M p w/\(fj t p w).1=b:=by
 obtain⟨v,h1,h2⟩:=h;obtain⟨w,k1,k2⟩:=GV hM h1;exact⟨w,k1,by rw[<-h2,Bq fun l hl=>k2 l hl (oE hl).2]⟩
def Oe{M:List ab}(hM: ∀l∈M,l.ok)(p:aa): ∃w,Gn M p w:=by
 obtain⟨w,h,_⟩:=GV (L:=[]) (M:=M) (p:=p) (v:=⟨1,0⟩) hM fun l hl=>by cases hl
 exact⟨w,h⟩
def ayS{t:Tr}(ht:t.all ab.ok)(p:aa):tI t p true\/tI t p false:=by
 obtain⟨w,h⟩:=Oe (sP ht) p;have:=aFh h
 cases hb:(fj t p w).1 with
 |true=>rw[hb] at this;exact .inl this
 |false=>rw[hb] at this;exact .inr this
def min2{a b:Rat}(ha:0<a)(hb:0<b): ∃d:Rat,0<d/\d<=a/\d<=b:=by
 by_cases k:a<=b
 ·exact⟨a,ha,by grind,k⟩
 ·exact⟨b,hb,by grind,by grind⟩
def l5(ds:List aa)(i:Nat):aa:=
 if 0<Int.sign ((ds.getD i ⟨0,0⟩).cross (ds.getD ((i+1)%ds.length) ⟨0,0⟩)).num then(ds.getD i ⟨0,0⟩).add (ds.getD ((i+1)%ds.length) ⟨0,0⟩) else gO (ds.getD i ⟨0,0⟩)
def fy(ds:List aa):List aa:=if ds.length=0 then [⟨1,0⟩] else(List.range ds.length).map (l5 ds)
def Tm(u w:aa):u.add w=gw 1 1 u w:=by
 unfold aa.add gw;simp only[aa.mk.injEq];constructor<;>grind
def Mn{x:aa}: ∀{S:List aa},S≠[]->(∀d∈S,0<d.cross x)-> ∃u∈S,∀d∈S,0<=d.cross u
 |[],h,_=>absurd J h
 |[d],_,_=>⟨d,aQ,fun e he=>by rw[aV] at he;subst he;rw[GR];exact fZ⟩
 |d0::d1::S,_,h=>by
  obtain⟨u,h1,h2⟩:=Mn (S:=d1::S) (by simp) fun d hd=>h d (aZ _ hd);by_cases k:0<=d0.cross u
  ·exact⟨u,aZ _ h1,fun d hd=>(aW.1 hd).elim (fun e=>e▸k) (h2 d)⟩
  ·refine⟨d0,aQ,fun d hd=>(aW.1 hd).elim (fun e=>by rw[e,GR];exact fZ) fun hd=>?_⟩
   have p0:=h d0 aQ;have pu:=h u (aZ _ h1);have pd:=h d (aZ _ hd);have k1:=h2 d hd;have k2:0<u.cross d0:=by rw[fC] at k;grind
   have e:d.cross d0*u.cross x=u.cross d0*d.cross x+d.cross u*d0.cross x:=by unfold aa.cross;grind
   have n1:=bF k2 pd;have n2:=cj k1 (cM p0);generalize d.cross d0=A at*;generalize u.cross x=B at*;by_cases hA:0<=A
   ·exact hA
   ·have:=bF (a:= -A) (b:=B) (by grind) pu
    grind
def ayU{ds:List aa}(h:ds.Pairwise cD)(hd:vu ds)(hn:ds≠[]){x:aa}(hx: ∀d∈ds,d.cross x≠0): ∃i,i<ds.length/\ ∀d∈ds,Int.sign (d.cross x).num=Int.sign (d.cross (l5 ds i)).num:=by
 have hne:(ds.filter fun d=>decide (0<d.cross x))≠[]:=by
  obtain⟨d,r,rfl⟩:=List.exists_cons_of_ne_nil hn;intro e;have h1: ¬0<d.cross x:=fun k=>by
   have:d∈(d::r).filter fun d=>decide (0<d.cross x):=jJ.2 ⟨aQ,decide_eq_true k⟩;rw[e] at this;cases this
  have h2:=hx d aQ;have h3:0<(bp d).cross x:=by rw[fC,mH,<-fC];grind
  have:bp d∈(d::r).filter fun d=>decide (0<d.cross x):=jJ.2 ⟨hd.neg d aQ,decide_eq_true h3⟩;rw[e] at this;cases this
 obtain⟨u,hu,hl⟩:=Mn hne fun d hd=>of_decide_eq_true (jJ.1 hd).2;obtain⟨hu1,hu2⟩:=jJ.1 hu;have hux:=of_decide_eq_true hu2;obtain⟨i,hi,rfl⟩:=oY hu1;have hj:(i+1)%ds.length<ds.length:=dW _ (by omega);have hnx:=My h hd hi hj;have mw:=gV hj;refine⟨i,hi,?_⟩;have key: ∀d∈ds,0<d.cross x->0<d.cross (l5 ds i):=fun d hdm hdx=>by
  have hdu:0<=d.cross ds[i]:=hl d (jJ.2 ⟨hdm,decide_eq_true hdx⟩);unfold l5;rw[F0 hi,F0 hj];generalize ds[(i+1)%ds.length]=w at*;generalize ds[i]=u at*;have hp:=hnx.pos hd hu1 mw;have zd:=hd.nz d hdm;have zu:=hd.nz u hu1;split
  ·rename_i k
   have hc:=(kC _).1 k;rw[Tm];have hg:=hnx.gen hd hu1 mw (by grind) (a:=1) (b:=1) (by decide) (by decide) d hdm;have e:d.cross (gw 1 1 u w)=d.cross u+d.cross w:=by unfold aa.cross gw;grind
   rw[e] at hg⊢;by_cases hw:0<=d.cross w
   ·grind
   ·exfalso
    -- -d lies between u and w
    rcases eB (d.cross u) with q|q|q
    ·-- d runs along u
     have hdd:0<d.dot u:=by
      rcases eB (d.dot u) with r|r|r
      ·exact absurd r (Fm zd zu q)
      ·exact r
      ·exfalso
       have q':(bp d).cross u=0:=by unfold aa.cross bp at*;grind
       have r':0<(bp d).dot u:=by unfold aa.dot bp at*;grind
       obtain⟨g,g1,g2⟩:=ti q' r';have:d.cross x= -(g*u.cross x):=by
        have h1:(bp d).x=g*u.x:=by rw[g2]
        have h2:(bp d).y=g*u.y:=by rw[g2]
        unfold bp at h1 h2;simp only at h1 h2;unfold aa.cross;grind
       have:=bF g1 hux;grind
     obtain⟨g,g1,g2⟩:=ti q hdd;have:d.cross w=g*u.cross w:=by rw[g2];unfold aa.cross;grind
     have:=bF g1 hc;grind
    ·have hb:bp d=gw (-(d.cross w)/u.cross w) (d.cross u/u.cross w) u w:=by
      have hz:u.cross w≠0:=by grind
      have e1: -(d.cross w)/u.cross w*u.cross w= -(d.cross w):=by grind
      have e2:d.cross u/u.cross w*u.cross w=d.cross u:=by grind
      unfold bp gw;generalize-(d.cross w)/u.cross w=a at*;generalize d.cross u/u.cross w=b at*;simp only[aa.mk.injEq];have f1:(a*u.x+b*w.x+d.x)*u.cross w=0:=by
       have:(a*u.x+b*w.x+d.x)*u.cross w=a*u.cross w*u.x+b*u.cross w*w.x+d.x*u.cross w:=by grind
       rw[this,e1,e2];unfold aa.cross;grind
      have f2:(a*u.y+b*w.y+d.y)*u.cross w=0:=by
       have:(a*u.y+b*w.y+d.y)*u.cross w=a*u.cross w*u.y+b*u.cross w*w.y+d.y*u.cross w:=by grind
       rw[this,e1,e2];unfold aa.cross;grind
      constructor<;>grind
     refine hnx.none hd hu1 mw (by grind) (a:= -(d.cross w)/u.cross w) (b:=d.cross u/u.cross w) ?_ ?_ (by rw[<-hb];exact hd.neg d hdm)
     ·refine(gp (k:=u.cross w) hc).1 ?_
      have e1: -(d.cross w)/u.cross w*u.cross w= -(d.cross w):=by grind
      rw[e1];grind
     ·refine(gp (k:=u.cross w) hc).1 ?_
      have e1:d.cross u/u.cross w*u.cross w=d.cross u:=by grind
      rw[e1];exact q
    ·grind
  ·rename_i k
   have hc:u.cross w=0:=by have: ¬0<u.cross w:=fun e=>k ((kC _).2 e);grind
   have hg:=hnx.turn hd hu1 mw hc d hdm;rw[M1] at hg⊢;rcases eB (d.dot u) with r|r|r
   ·exact absurd r hg
   ·exact r
   ·exfalso
    -- all directions run along u
    have hdc:d.cross u=0:=by
     rcases hnx.spec hd hu1 mw with⟨_,h2,_⟩|⟨h1,h2,h3⟩
     ·rw[hc] at h2;exact absurd h2 (by decide)
     ·have zw:=gr (hd.nz w mw)
      have zu':=gr zu;have zd':=gr zd;have hwu: ∃g:Rat,0<g/\w=⟨g*(bp u).x,g*(bp u).y⟩:=by
       refine ti (d:=bp u) (e:=w) (by rw[mH,fC,hc];grind) ?_;rcases eB (w.dot u) with s|s|s
       ·exact absurd s (Fm (hd.nz w mw) zu (by rw[fC,hc];rfl))
       ·exfalso
        obtain⟨g,g1,g2⟩:=ti (d:=u) (e:=w) (by rw[fC,hc];rfl) s;apply h1;rw[g2];rcases kA u with⟨x0,s0⟩|⟨x0,s0⟩|⟨x0,s0⟩
        ·rw[x0]
         refine(ou.2 ?_).symm;rcases s0 with s0|⟨s0,s1⟩
         ·exact .inl (bF g1 s0)
         ·exact .inr ⟨by show g*u.y=0;rw[s0];grind,bF g1 s1⟩
        ·rw[x0]
         refine(qz.2 ?_).symm;rcases s0 with s0|⟨s0,s1⟩
         ·exact .inl (by show g*u.y<0;have:=bF (a:=g) (b:= -u.y) g1 (by grind);grind)
         ·exact .inr ⟨by show g*u.y=0;rw[s0];grind,by show g*u.x<0;have:=bF (a:=g) (b:= -u.x) g1 (by grind);grind⟩
        ·exact absurd x0 zu
       ·unfold aa.dot bp at*;grind
      obtain⟨g,g1,g2⟩:=hwu;have cw: ∀e:aa,w.cross e=g* -(u.cross e):=fun e=>by rw[g2];unfold aa.cross bp;grind
      by_cases hh:d.half=u.half
      ·have a1:=h2 d hdm hh
       have a2:=h3 _ (hd.neg d hdm) (by rw[sH zd];omega);rw[cw,mH,fC d u] at a2;rcases eB (d.cross u) with s|s|s
       ·exact s
       ·have:=bF g1 s;grind
       ·grind
      ·have a1:=h2 _ (hd.neg d hdm) (by rw[sH zd];omega)
       have a2:=h3 d hdm (by omega);rw[cw,fC d u] at a2;have e3:(bp d).cross u= -(d.cross u):=by unfold aa.cross bp;grind
       rw[e3] at a1;rcases eB (d.cross u) with s|s|s
       ·exact s
       ·grind
       ·have:=bF (a:=g) (b:= -(d.cross u)) g1 (by grind);grind
    have q':(bp d).cross u=0:=by unfold aa.cross bp at*;grind
    have r':0<(bp d).dot u:=by unfold aa.dot bp at*;grind
    obtain⟨g,g1,g2⟩:=ti q' r';have:d.cross x= -(g*u.cross x):=by
     have h1:(bp d).x=g*u.x:=by rw[g2]
     have h2:(bp d).y=g*u.y:=by rw[g2]
     unfold bp at h1 h2;simp only at h1 h2;unfold aa.cross;grind
    have:=bF g1 hux;grind
 intro d hdm;rcases eB (d.cross x) with k|k|k
 ·exact absurd k (hx d hdm)
 ·rw[(jd _).2 k,(jd _).2 (key d hdm k)]
 ·have en: ∀y:aa,(bp d).cross y= -(d.cross y):=fun y=>by unfold aa.cross bp;grind
  have:=key _ (hd.neg d hdm) (by rw[en];grind);rw[en] at this;rw[uY k,uY (by grind)]
def ck(v:aa):aa:=v.scale (rgcd v.x v.y)⁻¹
def dO(t:Tr)(p:aa):List aa:=(lI t p).flatMap fun l=>[ck l.dir,bp (ck l.dir)]
def gl(ds:List aa):List aa:=rm cO ds
def pC{t:Tr}{p d:aa}:d∈dO t p↔ ∃l∈lI t p,d=ck l.dir\/d=bp (ck l.dir):=by
 unfold dO;rw[cN];constructor
 ·rintro ⟨l,h1,h2⟩
  refine⟨l,h1,?_⟩;rcases aW.1 h2 with h|h
  ·exact .inl h
  ·exact .inr (aV.1 h)
 ·rintro ⟨l,h1,rfl|rfl⟩
  ·exact⟨l,h1,aQ⟩
  ·exact⟨l,h1,aZ _ aQ⟩
def Yi{x y:Rat}(h:x≠0\/y≠0):0<rgcd x y:=by
 unfold rgcd;have hd:0<x.den*y.den:=jS x.den_pos y.den_pos;have hg:0<Nat.gcd (x.num.natAbs*y.den) (y.num.natAbs*x.den):=by
  rcases h with h|h
  ·exact kS _ (jS (Int.natAbs_pos.2 fun e=>h (mR.1 e)) y.den_pos)
  ·exact oV _ (jS (Int.natAbs_pos.2 fun e=>h (mR.1 e)) x.den_pos)
 generalize Nat.gcd (x.num.natAbs*y.den) (y.num.natAbs*x.den)=g at*;generalize x.den*y.den=d at*;rw[<-Lv];have h1:mkRat (g:Int) d=(g:Rat)/(d:Rat):=by rw[oM];rfl
 rw[Lv,h1];have hg':(0:Rat)<(g:Rat):=by exact_mod_cast hg
 have hd':(0:Rat)<(d:Rat):=by exact_mod_cast hd
 have e:(g:Rat)/(d:Rat)*(d:Rat)=(g:Rat):=by grind
 exact(gp (k:=(d:Rat)) hd').1 (by rw[e];exact hg')
def Uu{v:aa}(h:v.half≠0):v.x≠0\/v.y≠0:=by
 rcases kA v with⟨_,k⟩|⟨_,k⟩|⟨k,_⟩
 ·rcases k with k|⟨_,k⟩
  ·exact .inr (by grind)
  ·exact .inl (by grind)
 ·rcases k with k|⟨_,k⟩
  ·exact .inr (by grind)
  ·exact .inl (by grind)
 ·exact absurd k h
def zq{v:aa}(h:v.half≠0): ∃a:Rat,0<a/\ck v=⟨a*v.x,a*v.y⟩:=by
 have hg:=Yi (Uu h);refine⟨(rgcd v.x v.y)⁻¹,?_,?_⟩
 ·generalize rgcd v.x v.y=g at*
  have e:g⁻¹*g=1:=by grind
  exact(gp (k:=g) hg).1 (by rw[e];decide)
 ·unfold ck aa.scale
  simp only[aa.mk.injEq];constructor<;>grind
def Xc(v:aa):ck (bp v)=bp (ck v):=by
 have e:rgcd (-v.x) (-v.y)=rgcd v.x v.y:=by
  unfold rgcd;rw[nQ,nQ,pS,pS,jN,jN]
 unfold ck aa.scale bp;simp only[aa.mk.injEq,e];constructor<;>grind
def Et{v:aa}(h:v.half≠0):(ck v).half=v.half:=by
 obtain⟨a,a1,e⟩:=zq h;have:=GZ (a:=a) (b:=a) (u:=v) (w:=v) a1 a1 J h;rw[<-this];have h2:ck v=gw (a*(1/2)) (a*(1/2)) v v:=by rw[e];unfold gw;simp only[aa.mk.injEq];constructor<;>grind
 have h3:=GZ (a:=a*(1/2)) (b:=a*(1/2)) (u:=v) (w:=v) (bF a1 (by grind)) (bF a1 (by grind)) J h;rw[h2,h3,this]
def V1{u v:aa}:cO u v=0↔u.half=v.half/\u.cross v=0:=by
 unfold cO;split
 ·constructor
  ·intro h;exact absurd h (by decide)
  ·intro h;omega
 ·split
  ·constructor
   ·intro h;exact absurd h (by decide)
   ·intro h;omega
  ·constructor
   ·intro h
    exact⟨by omega,(jA _).1 (by omega)⟩
   ·intro h
    rw[(jA _).2 h.2];rfl
def Au{u v w:aa}(h:cD u v)(k:cD v w):cD u w:=by
 by_cases hu:u.half=0
 ·by_cases hw:w.half=0
  ·have z: ∀x y:aa,x.half=0->x.cross y=0:=fun x y hx=>by
    rcases kA x with⟨e,_⟩|⟨e,_⟩|⟨_,e1,e2⟩
    ·rw[hx] at e;exact absurd e (by decide)
    ·rw[hx] at e;exact absurd e (by decide)
    ·unfold aa.cross;rw[e1,e2];grind
   rcases h with h|⟨h,h'⟩
   ·rcases k with k|⟨k,k'⟩
    ·omega
    ·have hv:v.half≠0:=by omega
     omega
   ·rw[z u v hu] at h';exact absurd h' (by decide)
  ·refine .inl ?_
   have h1:=gr hw;omega
 ·have hv:v.half≠0:=by
   intro e;rcases h with h|⟨h,_⟩
   ·have:=gr hu;omega
   ·omega
  have hw:w.half≠0:=by
   intro e;rcases k with k|⟨k,_⟩
   ·have:=gr hv;omega
   ·omega
  exact cD.trans hu hv hw h k
section
variable {α:Type} (c:α->α->Int)
def M5{x y:α}: ∀{xs:List α},y∈xs->y∈eE c x xs
 |[],h=>by cases h
 |u::t,h=>by
  rw[eE];split
  ·rcases aW.1 h with rfl|h
   ·exact aQ
   ·exact aZ _ (M5 h)
  ·split
   ·exact h
   ·exact aZ _ h
def QT{x:α}: ∀{xs:List α},∃e∈eE c x xs,e=x\/c e x=0
 |[]=>⟨x,aQ, .inl J⟩
 |u::t=>by
  rw[eE];split
  ·obtain⟨e,h1,h2⟩:=QT (x:=x) (xs:=t)
   exact⟨e,aZ _ h1,h2⟩
  ·split
   ·exact⟨u,aQ, .inr (by assumption)⟩
   ·exact⟨x,aQ, .inl J⟩
def Nr{y:α}: ∀{l o:List α},y∈o->y∈l.foldl (fun out x=>eE c x out) o
 |[],o,h=>h
 |x::t,o,h=>Nr (l:=t) (M5 c h)
def FU{d:α}: ∀{l o:List α},d∈l-> ∃e∈l.foldl (fun out x=>eE c x out) o,e=d\/c e d=0
 |[],o,h=>by cases h
 |x::t,o,h=>by
  rcases aW.1 h with rfl|h
  ·obtain⟨e,h1,h2⟩:=QT c (x:=d) (xs:=o)
   exact⟨e,Nr c (l:=t) h1,h2⟩
  ·exact FU (l:=t) h
end
def BT(ds:List aa):(gl ds).Pairwise cD:=by
 have:=IQ (c:=cO) (fun u v w h k=>ta.2 (Au (ta.1 h) (ta.1 k))) (fun u v h k=>ta.2 (Zp.1 (by omega))) (l:=ds) (o:=[]) List.Pairwise.nil;exact this.imp fun h=>ta.1 h
def Hd{l m:ab}(hl:l.ok)(hm:m.ok){p:aa}(h1:l.value p=0)(h2:m.value p=0){d e:aa}(hd:d=ck l.dir\/d=bp (ck l.dir))(he:e=ck m.dir\/e=bp (ck m.dir))(h:cO d e=0):d=e:=by
 obtain⟨hh,hc⟩:=V1.1 h;have zl:=yq hl;have zm:=yq hm;have zpl:(ck l.dir).half≠0:=by rw[Et zl];exact zl
 have zpm:(ck m.dir).half≠0:=by rw[Et zm];exact zm
 have cr:l.dir.cross m.dir=0:=by
  obtain⟨a,a1,e1⟩:=zq zl;obtain⟨b,b1,e2⟩:=zq zm;have c0:(ck l.dir).cross (ck m.dir)=0:=by
   rcases hd with rfl|rfl<;>rcases he with rfl|rfl
   ·exact hc
   ·rw[mH] at hc;grind
   ·rw[fC,mH] at hc;rw[fC];grind
   ·rw[mH,fC,mH] at hc;rw[fC];grind
  have e3:(ck l.dir).cross (ck m.dir)=(a*b)*l.dir.cross m.dir:=by rw[e1,e2];unfold aa.cross;grind
  have hab:=bF a1 b1;rw[e3] at c0;clear e1 e2 e3;generalize a*b=k at*;generalize l.dir.cross m.dir=z at*;rcases eB z with q|q|q
  ·exact q
  ·have:=bF hab q;grind
  ·have:=bF (a:=k) (b:= -z) hab (by grind);grind
 have dirR: ∀k:ab,k.rev.dir=bp k.dir:=fun k=>by
  unfold ab.dir ab.rev bp;simp only[aa.mk.injEq,pW]
  try constructor<;>grind
 have cdir: ∀k:ab,k.canon.dir=k.dir\/k.canon.dir=bp k.dir:=fun k=>by
  unfold ab.canon;split
  ·exact .inr (dirR k)
  ·exact .inl J
 have cval: ∀k:ab,k.value p=0->k.canon.value p=0:=fun k hk=>by rcases Hk k p with e|e<;>rw[e,hk]<;>rfl
 have okc: ∀k:ab,k.ok->k.canon.ok:=fun k hk=>by unfold ab.canon;split;exact hk.rev;exact hk
 have ec:l.canon=m.canon:=aBJ (okc l hl) (okc m hm) (Kd hl) (Kd hm) (cval l h1) (cval m h2) (by
  rcases cdir l with e1|e1<;>rcases cdir m with e2|e2<;>rw[e1,e2]
  ·exact cr
  ·rw[mH,cr];rfl
  ·rw[fC,mH,fC,cr];rfl
  ·rw[mH,fC,mH,fC,cr];rfl)
 have hdir:l.dir=m.dir\/l.dir=bp m.dir:=by
  have e1:=cdir l;have e2:=cdir m;rw[ec] at e1;rcases e1 with e1|e1<;>rcases e2 with e2|e2
  ·exact .inl (e1.symm.trans e2)
  ·exact .inr (e1.symm.trans e2)
  ·right;rw[<-e2,e1,CX]
  ·left;rw[<-CX l.dir,<-e1,e2,CX]
 have hP:ck l.dir=ck m.dir\/ck l.dir=bp (ck m.dir):=by
  rcases hdir with e|e
  ·exact .inl (by rw[e])
  ·exact .inr (by rw[e,Xc])
 have hn:=sH zpm;have h3:=gr zpm;have key:d=ck m.dir\/d=bp (ck m.dir):=by
  rcases hd with rfl|rfl<;>rcases hP with e|e
  ·exact .inl e
  ·exact .inr e
  ·exact .inr (by rw[e])
  ·exact .inl (by rw[e,CX])
 rcases key with rfl|rfl<;>rcases he with rfl|rfl
 ·rfl
 ·exfalso;omega
 ·exfalso;omega
 ·rfl
def T7{t:Tr}(ht:t.all ab.ok)(p:aa):(gl (dO t p)).Pairwise cD/\vu (gl (dO t p))/\ ∀y,y∈gl (dO t p)↔y∈dO t p:=by
 have h2: ∀y,y∈gl (dO t p)->y∈dO t p:=fun y hy=>by
  rcases AS cO hy with h|h
  ·exact h
  ·cases h
 have h3: ∀y,y∈dO t p->y∈gl (dO t p):=fun y hy=>by
  obtain⟨e,e1,e2⟩:=FU cO (o:=[]) hy;rcases e2 with rfl|e2
  ·exact e1
  ·obtain⟨l,k1,k2⟩:=pC.1 hy
   obtain⟨m,k3,k4⟩:=pC.1 (h2 e e1);obtain⟨a1,a2⟩:=oE k1;obtain⟨b1,b2⟩:=oE k3;rw[<-Hd (sP ht _ b1) (sP ht _ a1) b2 a2 k4 k2 e2];exact e1
 refine⟨BT _,⟨fun d hd=>?_,fun d hd=>?_⟩,fun y=>⟨h2 y,h3 y⟩⟩
 ·obtain⟨l,k1,k2⟩:=pC.1 (h2 d hd)
  have z:=yq (sP ht _ (oE k1).1);have z2:(ck l.dir).half≠0:=by rw[Et z];exact z
  rcases k2 with rfl|rfl
  ·exact z2
  ·exact V2 z2
 ·obtain⟨l,k1,k2⟩:=pC.1 (h2 d hd)
  refine h3 _ (pC.2 ⟨l,k1,?_⟩);rcases k2 with rfl|rfl
  ·exact .inr J
  ·exact .inl (CX _)
def MK{t:Tr}(ht:t.all ab.ok){p v:aa}(hv:v∈fy (gl (dO t p))):Gn (lI t p) p v:=by
 obtain⟨h1,h2,h3⟩:=T7 ht p;have key:(∀d∈gl (dO t p),d.cross v≠0)->Gn (lI t p) p v:=fun k l hl hz e=>by
  have z:=yq (sP ht _ (oE hl).1);obtain⟨a,a1,a2⟩:=zq z;refine k _ ((h3 _).2 (pC.2 ⟨l,hl, .inl J⟩)) ?_;rw[<-ym] at e;have:(ck l.dir).cross v=a*l.dir.cross v:=by rw[a2];unfold aa.cross;grind
  rw[this,e];grind
 generalize gl (dO t p)=ds at*;unfold fy at hv;split at hv
 ·rename_i hn
  refine key fun d hd=>?_;rw[List.length_eq_zero_iff.1 hn] at hd;cases hd
 ·obtain⟨i,hi,rfl⟩:=bJ.1 hv
  rw[jY] at hi;have hj:(i+1)%ds.length<ds.length:=dW _ (by omega);have hx:=My h1 h2 hi hj;have mu:=gV hi;have mw:=gV hj;have hp:=hx.pos h2 mu mw;refine key ?_;unfold l5;rw[F0 hi,F0 hj];split
  ·rename_i k
   have hc:=(kC _).1 k;rw[Tm];exact hx.gen h2 mu mw (by grind) (by decide) (by decide)
  ·rename_i k
   exact hx.turn h2 mu mw (by have: ¬0<ds[i].cross ds[(i+1)%ds.length]:=fun e=>k ((kC _).2 e);grind)
def MY{t:Tr}(ht:t.all ab.ok){p x:aa}(hx:Gn (lI t p) p x): ∃v∈fy (gl (dO t p)),(fj t p v).1=(fj t p x).1:=by
 obtain⟨h1,h2,h3⟩:=T7 ht p;have cr: ∀l∈lI t p,∃a:Rat,0<a/\ ∀y,(ck l.dir).cross y=a*l.nor.dot y:=fun l hl=>by
  obtain⟨a,a1,a2⟩:=zq (yq (sP ht _ (oE hl).1));exact⟨a,a1,fun y=>by rw[a2,<-ym];unfold aa.cross;grind⟩
 by_cases hn:gl (dO t p)=[]
 ·refine⟨⟨1,0⟩,by unfold fy;rw[if_pos (by rw[hn];rfl)];exact aQ,?_⟩
  rw[Bq fun l hl=>?_];have:=(h3 _).2 (pC.2 ⟨l,hl, .inl J⟩);rw[hn] at this;cases this
 ·obtain⟨i,hi,hs⟩:=ayU h1 h2 hn (x:=x) fun d hd=>by
   obtain⟨l,k1,k2⟩:=pC.1 ((h3 d).1 hd);obtain⟨a,a1,a2⟩:=cr l k1;have hz:=hx l k1 (oE k1).2;have e:(ck l.dir).cross x≠0:=by rw[a2];grind
   rcases k2 with rfl|rfl
   ·exact e
   ·intro q;apply e;unfold aa.cross bp at*;grind
  refine⟨l5 (gl (dO t p)) i,?_,?_⟩
  ·unfold fy
   rw[if_neg (by omega)];exact bJ.2 ⟨i,jY.2 hi,J⟩
  ·rw[Bq fun l hl=>?_]
   have:=hs _ ((h3 _).2 (pC.2 ⟨l,hl, .inl J⟩));obtain⟨a,a1,a2⟩:=cr l hl;rw[a2,a2] at this;have sg: ∀z:Rat,Int.sign (a*z).num=Int.sign z.num:=fun z=>by
    rcases eB z with k|k|k
    ·subst k;rw[show a*0=0 by grind]
    ·rw[(jd _).2 k,(jd _).2 (bF a1 k)]
    ·rw[uY k,uY (by have:=bF (a:=a) (b:= -z) a1 (by grind);grind)]
   rw[sg,sg] at this;exact this.symm
def uu(t:Tr)(p:aa):Bool:=(fy (gl (dO t p))).any fun v=>(fj t p v).1
def AX(t:Tr)(p:aa):Bool:=(fy (gl (dO t p))).all fun v=>(fj t p v).1
def mE(t:Tr)(p:aa):Int:=if uu t p&&AX t p then 2 else if uu t p then 1 else 0
def K9{t:Tr}(ht:t.all ab.ok){p:aa}:uu t p=true↔tI t p true:=by
 unfold uu;rw[mX];constructor
 ·rintro ⟨v,h1,h2⟩;exact⟨v,MK ht h1,h2⟩
 ·rintro ⟨x,h1,h2⟩
  obtain⟨v,k1,k2⟩:=MY ht h1;exact⟨v,k1,by rw[k2,h2]⟩
def L6{t:Tr}(ht:t.all ab.ok){p:aa}:AX t p=true↔ ¬tI t p false:=by
 unfold AX;rw[fW];constructor
 ·rintro h ⟨x,h1,h2⟩
  obtain⟨v,k1,k2⟩:=MY ht h1;have:=h v k1;rw[k2,h2] at this;cases this
 ·intro h v hv
  cases hb:(fj t p v).1 with
  |true=>rfl
  |false=>exact absurd ⟨v,MK ht hv,hb⟩ h
def ZV(t:Tr)(p:aa):mE t p=0\/mE t p=1\/mE t p=2:=by
 unfold mE;split
 ·exact .inr (.inr J)
 ·split
  ·exact .inr (.inl J)
  ·exact .inl J
def LH{t:Tr}(ht:t.all ab.ok){p:aa}:mE t p=2↔ ¬tI t p false:=by
 unfold mE;constructor
 ·intro h
  split at h
  ·rename_i k;rw[aL] at k;exact(L6 ht).1 k.2
  ·split at h<;>exact absurd h (by decide)
 ·intro h
  have h1:=(L6 ht).2 h;have h2:=(K9 ht).2 ((ayS ht p).resolve_right h);rw[h1,h2];rfl
def Su{t:Tr}(ht:t.all ab.ok){p:aa}:mE t p=0↔ ¬tI t p true:=by
 unfold mE;constructor
 ·intro h k
  rw[(K9 ht).2 k] at h;split at h
  ·exact absurd h (by decide)
  ·exact absurd h (by decide)
 ·intro h
  have h1:uu t p=false:=by
   cases e:uu t p with
   |false=>rfl
   |true=>exact absurd ((K9 ht).1 e) h
  rw[h1];rfl
def vf(u:aa): ¬cD u u:=by
 rintro (h|⟨_,h⟩)
 ·omega
 ·have:u.cross u=0:=by unfold aa.cross;grind
  rw[this] at h;exact absurd h (by decide)
def Cg{u v:aa}(h:cD u v)(k:cD v u):False:=vf u (Au h k)
def OE{x y:aa}(h: ¬cD x y)(k: ¬cD y x):cO x y=0:=by
 rw[<-ta] at h k;unfold cO at*;split at h<;>try omega
 split at h<;>try omega
 split at k<;>try omega
 rw[show y.cross x= -(x.cross y) by unfold aa.cross;grind,nQ,Int.sign_neg] at k;omega
structure IvB (v:av):Prop where
 lo:BQ v.lo 1200
 hi:BQ v.hi 1200
def aIF(l:List av)(k:Nat):List Rat:=gP (l.take k)
def aJZ(o:List Rat)(v:av)(j:Nat):List Rat:=if j=0 then o else if j=1 then(if v.nl then o else fp v.lo o) else i8 o v
def aKz(v:av)(j:Nat):Rat:=if j=0 then v.lo else v.hi
def aJS(v:av)(j:Nat):Bool:=if j=0 then v.nl else v.nh
def aJg(l m:ab)(side:Int):DV:= .tp [.sl ((vj l m side).map eV),vB (vX l m)]
def xi(f:aE):DV:= .ag [.v (.bool (decide (f.l.a<0))),dN f.l.a.natAbs, .v (.bool (decide (f.l.b<0))),dN f.l.b.natAbs, .v (.bool (decide (f.l.c<0))),dN f.l.c.natAbs, .v (.bool (decide (f.v.lo.num<0))),dN f.v.lo.num.natAbs,dD f.v.lo.den, .v (.bool (decide (f.v.hi.num<0))),dN f.v.hi.num.natAbs,dD f.v.hi.den, .v (.bool f.v.nl), .v (.bool f.v.nh)]
def aDf(fs:List aE):dH 14 (fs.map xi):=fun d hd=>by
 obtain⟨u,_,rfl⟩:=bJ.1 hd;exact⟨rfl,rfl⟩
theorem Jf{p:ZP}(h:ZP.le 100 p):aB p.q 12:=by
 haveI:BI p.1 11:=jt (by have:=h.1;omega) (by decide);haveI:BI p.2 11:=jt (by have:=h.2;omega) (by decide);exact(inferInstance:aB (iP p.1 p.2) 12)
def asV{v w:ZP}(hv:ZP.le 100 v)(hw:ZP.le 100 w)(h:v≠w):PF GB prog 64 [eP v.q,eP w.q] (.tp [xi (bj v w),vB true]):=by
 have hne: ¬(w.1=v.1/\w.2=v.2):=fun e=>h (Prod.ext e.1.symm e.2.symm);obtain⟨hlb,hlo⟩:=PT (m:=v.1) (n:=v.2) (p:=w.1) (q:=w.2) (by have:=hv.1;omega) (by have:=hv.2;omega) (by have:=hw.1;omega) (by have:=hw.2;omega) hne;haveI:=hlb;haveI:=Jf hv;haveI:=Jf hw;refine fn func64 J J ntmps64 J J (fun C=>?_);refine cl (fu:=⟨3⟩) J (atX (m:=v.1) (n:=v.2) (m':=w.1) (n':=w.2) (by have:=hv.1;omega) (by have:=hv.2;omega) (by have:=hw.1;omega) (by have:=hw.2;omega) (fun e=>hne ⟨e.1.symm,e.2.symm⟩)) J<|?_;refine lx 13 J ?_;refine gx J<|cl J (QS (l:=i5 v.1 v.2 w.1 w.2) (p:=v.q) hlo.ne) J<|cl J (QS (l:=i5 v.1 v.2 w.1 w.2) (p:=w.q) hlo.ne) J<|?_;exact rz J J
def aJB(v w:av):av:=⟨v.lo,w.hi,v.nl,v.nh⟩

end Go.Sx
end
