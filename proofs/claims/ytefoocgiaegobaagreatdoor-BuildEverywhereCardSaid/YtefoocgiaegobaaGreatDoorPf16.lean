import Derived.Test.YtefoocgiaegobaaGreatDoorPf15
set_option linter.all false
set_option maxHeartbeats 4000000
set_option maxRecDepth 100000
section
namespace Go.Sx
open Go Go.Proofs
def lA(p:aa):(p.half=1/\(0<p.y\/(p.y=0/\0<p.x)))\/(p.half=2/\(p.y<0\/(p.y=0/\p.x<0)))\/(p.half=0/\p.y=0/\p.x=0):=by
 unfold aa.half;simp only[nk,mI,kg];split
 ·rename_i h;exact .inl ⟨rfl,h⟩
 ·rename_i h
  split
  ·rename_i h2
   exact .inr (.inl ⟨J,by grind⟩)
  ·rename_i h2
   exact .inr (.inr ⟨J,by grind,by grind⟩)
def wA{p:aa}:p.half=1↔(0<p.y\/(p.y=0/\0<p.x)):=by
 rcases lA p with⟨h,k⟩|⟨h,k⟩|⟨h,k⟩<;>rw[h]<;>grind
def vR{p:aa}:p.half=2↔(p.y<0\/(p.y=0/\p.x<0)):=by
 rcases lA p with⟨h,k⟩|⟨h,k⟩|⟨h,k⟩<;>rw[h]<;>grind
def c7(u v:aa):Prop:=u.half<v.half\/(u.half=v.half/\0<u.cross v)
def rp{u v:aa}:di u v<0↔c7 u v:=by
 unfold di c7;split
 ·rename_i h;exact⟨fun _=> .inl h,fun _=>by decide⟩
 ·rename_i h
  split
  ·rename_i h2;exact⟨fun e=>absurd e (by decide),fun e=>by omega⟩
  ·rename_i h2
   have e:u.half=v.half:=by omega
   rw[<-nk];constructor
   ·intro k;exact .inr ⟨e,by omega⟩
   ·rintro (k|⟨_,k⟩)
    ·omega
    ·omega
def b8(d:aa):aa:=⟨-d.x, -d.y⟩
def tE{d:aa}(h:d.half≠0):(b8 d).half=3-d.half:=by
 rcases lA d with⟨e,k⟩|⟨e,k⟩|⟨e,k⟩
 ·rw[e];exact vR.2 (by unfold b8;grind)
 ·rw[e];exact wA.2 (by unfold b8;grind)
 ·exact absurd e h
def ku{d:aa}(h:d.half≠0):d.half=1\/d.half=2:=by
 rcases lA d with⟨e,_⟩|⟨e,_⟩|⟨e,_⟩
 ·exact .inl e
 ·exact .inr e
 ·exact absurd e h
def qe(ds:List aa)(u w:aa):Prop:=(c7 u w/\ ∀d∈ds,¬(c7 u d/\c7 d w))\/((∀d∈ds,¬c7 u d)/\ ∀d∈ds,¬c7 d w)
structure tI (ds:List aa):Prop where
 nz: ∀d∈ds,d.half≠0
 neg: ∀d∈ds,b8 d∈ds
def Pg(u:aa):u.cross u=0:=by unfold aa.cross;grind
def gE(u v:aa):v.cross u= -u.cross v:=by unfold aa.cross;grind
def oc(u v:aa):u.cross (b8 v)= -u.cross v:=by unfold aa.cross b8;grind
def qe.spec{ds:List aa}{u w:aa}(h:tI ds)(hu:u∈ds)(hw:w∈ds)(hn:qe ds u w):
  (u.half=w.half/\0<u.cross w/\ ∀d∈ds,¬(c7 u d/\c7 d w))\/(u.half≠w.half/\(∀d∈ds,d.half=u.half->0<=d.cross u)/\ ∀d∈ds,d.half=w.half->0<=w.cross d):=by
 have zu:=ku (h.nz u hu);have zw:=ku (h.nz w hw);rcases hn with⟨h1,h2⟩|⟨h1,h2⟩
 ·rcases h1 with k|⟨k,k2⟩
  ·refine .inr ⟨by omega,fun d hd e=>?_,fun d hd e=>?_⟩
   ·have:=h2 d hd
    rw[gE];by_cases hc:0<u.cross d
    ·exact absurd ⟨.inr ⟨e.symm,hc⟩, .inl (by omega)⟩ this
    ·grind
   ·have:=h2 d hd
    by_cases hc:0<d.cross w
    ·exact absurd ⟨.inl (by omega), .inr ⟨e,hc⟩⟩ this
    ·rw[gE] at hc;grind
  ·exact .inl ⟨k,k2,h2⟩
 ·have nu:=tE (h.nz u hu)
  have a1:=h1 _ (h.neg u hu);have a2:=h2 _ (h.neg u hu);unfold c7 at a1 a2;rw[nu] at a1 a2;refine .inr ⟨fun e=>?_,fun d hd e=>?_,fun d hd e=>?_⟩
  ·rcases zu with z|z
   ·exact a1 (.inl (by omega))
   ·exact a2 (.inl (by omega))
  ·have:=h1 d hd
   rw[gE];by_cases hc:0<u.cross d
   ·exact absurd (.inr ⟨e.symm,hc⟩) this
   ·grind
  ·have:=h2 d hd
   by_cases hc:0<d.cross w
   ·exact absurd (.inr ⟨e,hc⟩) this
   ·rw[gE] at hc;grind
def qe.pos{ds:List aa}{u w:aa}(h:tI ds)(hu:u∈ds)(hw:w∈ds)(hn:qe ds u w):0<=u.cross w:=by
 rcases hn.spec h hu hw with⟨_,h2,_⟩|⟨h1,h2,h3⟩
 ·grind
 ·have:=h3 _ (h.neg u hu) (by rw[tE (h.nz u hu)];have:=ku (h.nz u hu);have:=ku (h.nz w hw);omega)
  rw[oc] at this;rw[gE];exact this
def gt(a b:Rat)(u w:aa):aa:=⟨a*u.x+b*w.x,a*u.y+b*w.y⟩
def N9{a b:Rat}{u w:aa}:u.cross (gt a b u w)=b*u.cross w/\(gt a b u w).cross w=a*u.cross w:=by
 unfold aa.cross gt;constructor<;>grind
def HJ{a b:Rat}{u w:aa}(ha:0<a)(hb:0<b)(h:u.half=w.half)(hz:u.half≠0):(gt a b u w).half=u.half:=by
 rcases lA u with⟨e,k⟩|⟨e,k⟩|⟨e,k⟩
 ·rw[e] at h⊢
  have k2:=wA.1 h.symm;refine wA.2 ?_;unfold gt;simp only;have p1: ∀z:Rat,0<z->0<a*z:=fun z hz=>ce ha hz;have p2: ∀z:Rat,0<z->0<b*z:=fun z hz=>ce hb hz;rcases k with k|⟨k,k'⟩<;>rcases k2 with l|⟨l,l'⟩
  ·have:=p1 _ k;have:=p2 _ l;grind
  ·have:=p1 _ k;rw[l];grind
  ·have:=p2 _ l;rw[k];grind
  ·have:=p1 _ k';have:=p2 _ l';rw[k,l];grind
 ·rw[e] at h⊢
  have k2:=vR.1 h.symm;refine vR.2 ?_;unfold gt;simp only;have p1: ∀z:Rat,z<0->a*z<0:=fun z hz=>by have:=ce (a:=a) (b:= -z) ha (by grind);grind
  have p2: ∀z:Rat,z<0->b*z<0:=fun z hz=>by have:=ce (a:=b) (b:= -z) hb (by grind);grind
  rcases k with k|⟨k,k'⟩<;>rcases k2 with l|⟨l,l'⟩
  ·have:=p1 _ k;have:=p2 _ l;grind
  ·have:=p1 _ k;rw[l];grind
  ·have:=p2 _ l;rw[k];grind
  ·have:=p1 _ k';have:=p2 _ l';rw[k,l];grind
 ·exact absurd e hz
def qe.none{ds:List aa}{u w:aa}(h:tI ds)(hu:u∈ds)(hw:w∈ds)(hn:qe ds u w)(hc:u.cross w≠0){a b:Rat}(ha:0<a)(hb:0<b):gt a b u w∉ds:=fun hd=>by
 have hp:=hn.pos h hu hw;have hp:0<u.cross w:=by grind
 obtain⟨c1,c2⟩:=N9 (a:=a) (b:=b) (u:=u) (w:=w);have d1:0<u.cross (gt a b u w):=by rw[c1];exact ce hb hp
 have d2:0<(gt a b u w).cross w:=by rw[c2];exact ce ha hp
 have zu:=ku (h.nz u hu);have zw:=ku (h.nz w hw);have zd:=ku (h.nz _ hd);rcases hn.spec h hu hw with⟨h1,_,h3⟩|⟨h1,h2,h3⟩
 ·have e:=HJ ha hb h1 (h.nz u hu)
  exact h3 _ hd ⟨.inr ⟨e.symm,d1⟩, .inr ⟨e.trans h1,d2⟩⟩
 ·rcases(show(gt a b u w).half=u.half\/(gt a b u w).half=w.half by omega) with e|e
  ·have:=h2 _ hd e
   rw[gE] at this;grind
  ·have:=h3 _ hd e
   rw[gE] at this;grind
def uR{d e:aa}(h:e.cross d=0)(hp:0<e.dot d): ∃g:Rat,0<g/\e=⟨g*d.x,g*d.y⟩:=by
 have hd:0<d.dot d:=by
  unfold aa.dot at*;have h1:=uz d.x;have h2:=uz d.y;rcases gP d.x with k|k|k
  ·rcases gP d.y with l|l|l
   ·rw[k,l] at hp;grind
   ·have:=ce l l;grind
   ·have:=ce (a:= -d.y) (b:= -d.y) (by grind) (by grind);grind
  ·have:=ce k k;grind
  ·have:=ce (a:= -d.x) (b:= -d.x) (by grind) (by grind);grind
 have key:e.x*d.dot d=e.dot d*d.x/\e.y*d.dot d=e.dot d*d.y:=by
  unfold aa.dot aa.cross at*;constructor<;>grind
 have hg:e.dot d/d.dot d*d.dot d=e.dot d:=by grind
 refine⟨e.dot d/d.dot d,(ke hd).1 (by rw[hg];exact hp),?_⟩;generalize e.dot d/d.dot d=g at*;have x1:e.x=g*d.x:=by
  have:(e.x-g*d.x)*d.dot d=0:=by rw[<-hg] at key;grind
  have hz:d.dot d≠0:=by grind
  grind
 have x2:e.y=g*d.y:=by
  have:(e.y-g*d.y)*d.dot d=0:=by rw[<-hg] at key;grind
  have hz:d.dot d≠0:=by grind
  grind
 rw[<-x1,<-x2]
def BS{e u:aa}(he:e.half≠0)(hu:u.half≠0)(hp:e.cross u=0):e.dot u≠0:=fun hz=>by
 have e1:e.x*(u.x*u.x+u.y*u.y)=0:=by unfold aa.dot aa.cross at*;grind
 have e2:e.y*(u.x*u.x+u.y*u.y)=0:=by unfold aa.dot aa.cross at*;grind
 have hu2:u.x*u.x+u.y*u.y≠0:=fun q=>by
  have h1:=uz u.x;have h2:=uz u.y;have x0:u.x=0:=by
   have:u.x*u.x=0:=by grind
   grind
  have y0:u.y=0:=by
   have:u.y*u.y=0:=by grind
   grind
  rcases lA u with⟨_,q⟩|⟨_,q⟩|⟨q,_⟩
  ·grind
  ·grind
  ·exact hu q
 have x0:e.x=0:=by grind
 have y0:e.y=0:=by grind
 rcases lA e with⟨_,q⟩|⟨_,q⟩|⟨q,_⟩
 ·grind
 ·grind
 ·exact he q
def qe.gen{ds:List aa}{u w:aa}(h:tI ds)(hu:u∈ds)(hw:w∈ds)(hn:qe ds u w)(hc:u.cross w≠0){a b:Rat}(ha:0<a)(hb:0<b): ∀d∈ds,d.cross (gt a b u w)≠0:=fun d hd hz=>by
 have hp:=hn.pos h hu hw;have hp:0<u.cross w:=by grind
 obtain⟨c1,c2⟩:=N9 (a:=a) (b:=b) (u:=u) (w:=w);have d1:0<u.cross (gt a b u w):=by rw[c1];exact ce hb hp
 -- of d and its opposite, one points the same way
 have key: ∀e∈ds,e.cross (gt a b u w)=0->0<e.dot (gt a b u w)->False:=fun e he h1 h2=>by
  obtain⟨g,g1,g2⟩:=uR h1 h2;refine hn.none h hu hw hc (a:=g*a) (b:=g*b) (ce g1 ha) (ce g1 hb) ?_;have:gt (g*a) (g*b) u w=e:=by rw[g2];unfold gt;simp only[aa.mk.injEq];constructor<;>grind
  rw[this];exact he
 rcases gP (d.dot (gt a b u w)) with k|k|k
 ·-- both 0: then d is 0, or the other is
  have hnz:=h.nz d hd;generalize gt a b u w=v at*;have e1:d.x*(v.x*v.x+v.y*v.y)=0:=by unfold aa.dot aa.cross at*;grind
  have e2:d.y*(v.x*v.x+v.y*v.y)=0:=by unfold aa.dot aa.cross at*;grind
  have hv:v.x*v.x+v.y*v.y≠0:=fun e=>by
   have h1:=uz v.x;have h2:=uz v.y;have x0:v.x=0:=by have:v.x*v.x=0:=(by grind);grind
   have y0:v.y=0:=by have:v.y*v.y=0:=(by grind);grind
   unfold aa.cross at d1;rw[x0,y0] at d1;grind
  have x0:d.x=0:=by grind
  have y0:d.y=0:=by grind
  rcases lA d with⟨_,q⟩|⟨_,q⟩|⟨q,_⟩
  ·grind
  ·grind
  ·exact hnz q
 ·exact key d hd hz k
 ·refine key _ (h.neg d hd) ?_ ?_
  ·unfold aa.cross b8 at*;grind
  ·unfold aa.dot b8 at*;grind
def KW(d u:aa):d.cross (ly u)=d.dot u:=by unfold aa.cross ly aa.dot;grind
def qe.turn{ds:List aa}{u w:aa}(h:tI ds)(hu:u∈ds)(hw:w∈ds)(hn:qe ds u w)(hc:u.cross w=0): ∀d∈ds,d.cross (ly u)≠0:=fun d hd=>by
 have zu:=ku (h.nz u hu);have zw:=ku (h.nz w hw);rw[KW];rcases hn.spec h hu hw with⟨_,h2,_⟩|⟨h1,h2,h3⟩
 ·rw[hc] at h2;exact absurd h2 (by decide)
 have par: ∀e∈ds,e.half=u.half->e.cross u=0:=fun e he k=>by
  have a1:=h2 e he k;have a2:=h3 _ (h.neg e he) (by rw[tE (h.nz e he)];omega);rw[oc] at a2
  -- w = -g u
  have hwu:w.cross u=0:=by rw[gE,hc];rfl
  have huw:w.dot u<0:=by
   rcases gP (w.dot u) with k0|k0|k0
   ·exact absurd k0 (BS (h.nz w hw) (h.nz u hu) hwu)
   ·obtain⟨g,g1,g2⟩:=uR hwu k0
    exfalso;apply h1;rcases lA u with⟨x,q⟩|⟨x,q⟩|⟨x,q⟩
    ·rw[x]
     refine(wA.2 ?_).symm;rw[g2];simp only;rcases q with q|⟨q,q'⟩
     ·exact .inl (ce g1 q)
     ·exact .inr ⟨by rw[q];grind,ce g1 q'⟩
    ·rw[x]
     refine(vR.2 ?_).symm;rw[g2];simp only;rcases q with q|⟨q,q'⟩
     ·have:=ce (a:=g) (b:= -u.y) g1 (by grind);exact .inl (by grind)
     ·have:=ce (a:=g) (b:= -u.x) g1 (by grind);exact .inr ⟨by rw[q];grind,by grind⟩
    ·exact absurd x (h.nz u hu)
   ·exact k0
  obtain⟨g,g1,g2⟩:=uR (d:=u) (e:=b8 w) (by unfold aa.cross b8 at*;grind) (by unfold aa.dot b8 at*;grind);have a3:0<= -(g*e.cross u):=by
   have e1:w=⟨-(g*u.x), -(g*u.y)⟩:=by
    have:=congrArg b8 g2;unfold b8 at this
    cases w
    simp only[Rat.neg_neg] at this;exact this
   rw[e1] at a2;unfold aa.cross at*;grind
  by_cases hz:0<e.cross u
  ·have:=ce g1 hz;grind
  ·grind
 have nzd: ∀e∈ds,e.half=u.half->e.dot u≠0:=fun e he k=>BS (h.nz e he) (h.nz u hu) (par e he k);by_cases k:d.half=u.half
 ·exact nzd d hd k
 ·have:=nzd _ (h.neg d hd) (by rw[tE (h.nz d hd)];have:=ku (h.nz d hd);omega)
  unfold aa.dot b8 at*;grind
end Go.Sx
end
section
namespace Go.Sx
open Go
inductive OT where
 |z (π:List (Nat×Bool))
 |q (i:Nat) (t:OT)
 |a (i:Nat) (t:OT)
 |c (i:Nat) (t r:OT)
def OT.sz:OT->Nat
 | .z _=>0
 | .q _ t=>t.sz+1
 | .a _ t=>t.sz+1
 | .c _ t r=>t.sz+r.sz+1
def OT.d:OT->Nat
 | .z π=>π.length
 | .q _ t=>t.d+1
 | .a _ t=>t.d+1
 | .c _ t r=>Nat.max (t.d+1) r.d
section
variable {P:Program} {ops:Array Oper} {Q:Exit->Act->World->Prop} {S:World->Prop} {π₂:List (Nat×Bool)}
def wm(P:Program)(ops:Array Oper)(Q:Exit->Act->World->Prop)(K:(World->Prop)->Act->World->Prop):List Nat->OT->(World->Prop)->Act->World->Prop
 |ks, .z π,S,a,w=>xg P ops Q K ks π S a w
 |ks, .q i t,S,a,w=> ∃o v,ops[i]? =some o/\S w/\YieldsIf P ops S o v a/\wm P ops Q K ks t S (a.put o.dst v) w
 |ks, .a i t,S,a,w=>wpOp P ops Q i (vu S (wm P ops Q K ks t)) a w/\
   ∀j,(h:j∈ks)->wpOp P ops Q j (vu S (wm P ops Q K (bE ks j) (.a i t))) a w
 |ks, .c i t r,S,a,w=>wpOp P ops Q i (vu S (wm P ops Q K ks t)) a w/\wm P ops Q K ks r S a w/\
   ∀j,(h:j∈ks)->wpOp P ops Q j (vu S (wm P ops Q K (bE ks j) (.c i t r))) a w
termination_by ks t=>ks.length+t.sz
decreasing_by
 all_goals (first|(have:=FY h;simp only[OT.sz] at*;omega)|(simp only[OT.sz];omega))
def ti(ops:Array Oper)(fin:Nat->Bool)(π₂:List (Nat×Bool)):Nat->Bool->List Nat->OT->Array Bool->List Nat->Bool
 |0,_,_,_,_,_=>false
 |n+1,false,ks, .z π,l,_=>z6 ops fin π₂ n ks π l
 |_+1,true,_, .z _,_,_=>false
 |n+1,false,ks, .q i t,l,_=>yw ops fin l i&&ti ops fin π₂ n false ks t (l.setIfInBounds i true) []
 |_+1,true,_, .q _ _,_,_=>false
 |n+1,true,ks, .a i t,l,rs=>rs.all (fun j=>Nat.beq j i)&&ti ops fin π₂ n false ks t (l.setIfInBounds i true) []
 |n+1,false,ks, .a i t,l,_=>!(Region.ready .any ops l).isEmpty&&(Region.ready .any ops l).all (fun j=>Nat.beq j i||ks.contains j)&&ti ops fin π₂ n false ks t (l.setIfInBounds i true) []&&ks.all fun j=>ti ops fin π₂ n false (bE ks j) (.a i t) (l.setIfInBounds j true) []
 |n+1,true,ks, .c i t r,l,rs=>ti ops fin π₂ n false ks t (l.setIfInBounds i true) []&&ti ops fin π₂ n true ks r l (bE rs i)
 |n+1,false,ks, .c i t r,l,_=>!(Region.ready .any ops l).isEmpty&&ti ops fin π₂ n false ks t (l.setIfInBounds i true) []&&ti ops fin π₂ n true ks r l (bE ((Region.ready .any ops l).filter fun j=>!ks.contains j) i)&&ks.all fun j=>ti ops fin π₂ n false (bE ks j) (.c i t r) (l.setIfInBounds j true) []
end
section
variable {P:Program} {GB:Gh} {C:aD} {n:Nat} {fr fr':et} {own own' own0 own1 own1':List de} {bs bs0 bs1 bs1':List d4} {ops:Array Oper} {Q:Exit->Act->World->Prop} {fd:List FD} {π₂:List (Nat×Bool)} {t r:OT}
abbrev dnK (P:Program) (ops:Array Oper) (Q:Exit->Act->World->Prop) (K:(World->Prop)->Act->World->Prop) (t:OT):List Nat->(World->Prop)->Act->World->Prop:=fun ks S=>wm P ops (fC Q) K ks t S
end
end Go.Sx
end
section
namespace Go.Sx
open Go Go.Proofs Tryz
variable {GB:Gh}
theorem LB.rev{l:ab}(h:LB l):LB l.rev:=⟨⟨by rw[show l.rev.a= -l.a from J,jR];exact h.bl.a,by rw[show l.rev.b= -l.b from J,jR];exact h.bl.b,by rw[show l.rev.c= -l.c from J,jR];exact h.bl.c⟩⟩
def Ro{α:Type}{p:α->Bool}: ∀{xs:List α} {n:Nat},n<=xs.length->(∀j (h:j<xs.length),j<n->p xs[j]=true)->(∀h:n<xs.length,p xs[n]=false)->(xs.takeWhile p).length=n
 |[],n,h,_,_=>by simp at h;subst h;rfl
 |x::xs,0,_,_,h3=>by
  have:=h3 (by simp);simp only[oN] at this;simp[qV,this]
 |x::xs,n+1,h1,h2,h3=>by
  have hx:=h2 0 (by simp) (by omega);simp only[oN] at hx;rw[qV,if_pos hx,bX];rw[Ro (n:=n) (by simpa using h1) (fun j h hj=>by have:=h2 (j+1) (by simpa using h) (by omega);simpa using this) (fun h=>by have:=h3 (by simpa using h);simpa using this)]
structure Cst (c:List ab) (k:Nat) (xs:List ab):Prop where
 le:k<=c.length
 f:Gc c (c.drop k) xs=s7 c
 m: ∀m∈xs,m∈c
 n:xs.length<=k
def P8(c:List ab):Bool:=if(((c.map eL).length:Nat):Int)=0 then true else decide ((0:Int)<((((s7 c).map eL).length:Nat):Int))
section
variable {α:Type} (c:α->α->Int)
def dH(x:α):List α->List α
 |[]=>[x]
 |u::t=>if c u x<0 then u::dH x t else if c u x=0 then u::t else x::u::t
def kH(x:α)(xs:List α):Nat:=(xs.takeWhile fun u=>decide (c u x<0)).length
def Gl(x:α)(xs:List α):kH c x xs<=xs.length:=(List.takeWhile_sublist _).length_le
def wG{x:α}{xs:List α}{n:Nat}(h1:n<=xs.length)(h2: ∀j (h:j<xs.length),j<n->c xs[j] x<0)(h3: ∀h:n<xs.length,¬c xs[n] x<0):kH c x xs=n:=
 Ro h1 (fun j h hj=>decide_eq_true (h2 j h hj)) (fun h=>decide_eq_false (h3 h))
def Cb{x:α}: ∀{xs:List α} {n:Nat},kH c x xs=n->(h:n<xs.length)->c xs[n] x=0->dH c x xs=xs
 |[],n,_,h,_=>by simp at h
 |u::t,n,hn,h,e=>by
  rw[dH];unfold kH at hn;rw[qV] at hn;by_cases hu:c u x<0
  ·rw[if_pos hu]
   rw[if_pos (by simpa using hu)] at hn;obtain⟨k,rfl⟩: ∃k,n=k+1:=⟨n-1,by simp at hn;omega⟩;rw[Cb (xs:=t) (n:=k) (by unfold kH;simpa using hn) (by simpa using h) (by simpa using e)]
  ·rw[if_neg (by simpa using hu)] at hn
   simp at hn;subst hn;rw[if_neg hu,if_pos (by simpa using e)]
def wc{x:α}: ∀{xs:List α} {n:Nat},kH c x xs=n->(∀h:n<xs.length,c xs[n] x≠0)->dH c x xs=xs.take n++x::xs.drop n
 |[],n,hn,_=>by simp[kH] at hn;subst hn;rfl
 |u::t,n,hn,e=>by
  rw[dH];unfold kH at hn;rw[qV] at hn;by_cases hu:c u x<0
  ·rw[if_pos hu]
   rw[if_pos (by simpa using hu)] at hn;obtain⟨k,rfl⟩: ∃k,n=k+1:=⟨n-1,by simp at hn;omega⟩;rw[wc (xs:=t) (n:=k) (by unfold kH;simpa using hn) (fun h=>by have:=e (by simpa using h);simpa using this)];simp
  ·rw[if_neg (by simpa using hu)] at hn
   simp at hn;subst hn;have:=e (by simp);rw[if_neg hu,if_neg (by simpa using this)];rfl
def M3(x:α): ∀(xs:List α),(dH c x xs).length<=xs.length+1
 |[]=>aM _
 |u::t=>by
  have:=M3 x t;rw[dH];split
  ·simp;omega
  ·split<;>simp
def IH{x y:α}: ∀{xs:List α},y∈dH c x xs->y=x\/y∈xs
 |[],h=>by rw[dH,aY] at h;exact .inl h
 |u::t,h=>by
  rw[dH] at h;split at h
  ·rcases aV.1 h with rfl|h
   ·exact .inr aQ
   ·rcases IH h with h|h
    ·exact .inl h
    ·exact .inr (aZ _ h)
  ·split at h
   ·exact .inr h
   ·rcases aV.1 h with rfl|h
    ·exact .inl J
    ·exact .inr h
def om(l:List α):List α:=l.foldl (fun out x=>dH c x out) []
def Du: ∀(l o:List α),(l.foldl (fun out x=>dH c x out) o).length<=l.length+o.length
 |[],o=>by simp
 |x::t,o=>by
  have:=Du t (dH c x o);have:=M3 c x o;simp only[dX,bX];omega
def Am{y:α}: ∀{l o:List α},y∈l.foldl (fun out x=>dH c x out) o->y∈l\/y∈o
 |[],o,h=> .inr h
 |x::t,o,h=>by
  rcases Am (l:=t) h with h|h
  ·exact .inl (aZ _ h)
  ·rcases IH c h with rfl|h
   ·exact .inl aQ
   ·exact .inr h
end
def K4{x:Rat}: ∀{l:List Rat},eE x l=dH bO x l
 |[]=>rfl
 |u::t=>by
  have e1:bO u x<0↔u<x:=zj u x;have e2:bO u x=0↔u=x:=s5 u x;rw[eE,dH,K4 (l:=t)];by_cases h:u<x
  ·rw[if_pos h,if_pos (e1.2 h)]
  ·rw[if_neg h,if_neg (fun e=>h (e1.1 e))]
   by_cases h2:u=x
   ·rw[if_pos h2,if_pos (e2.2 h2)]
   ·rw[if_neg h2,if_neg (fun e=>h2 (e2.1 e))]
def AQ{α β:Type}{f:α->β}{l:List α}{k:Nat}{x:α}(h:l[k]? =some x):(l.take k).map f++[f x]=(l.take (k+1)).map f:=by
 rw[gU,h,cR];rfl
def Mm{a i:Nat}[ha:BN a i](hi:i<=400000000:=by decide):PF GB prog 194 [dN a] (dN a):=by
 have hl:=fA (dg a);have hb:=lC ha.h;refine fn func194 J J ntmps194 J J (fun C=>?_);refine CA J J<|ap ((dg a).map dU) J J (uN _) J<|?_;refine lB 5 J ?_;exact rz J J
def V2{z:Int}{i:Nat}[hz:BI z i](hi:i<=400000000:=by decide):PF GB prog 193 [eI z] (eI z):=by
 refine fn func193 J J ntmps193 J J (fun C=>?_);refine cl J (Mm (a:=z.natAbs) (i:=i) (ha:=⟨hz.h⟩) hi) J<|?_;exact rz J J
def Q3{ds:List Nat}(hd:bp ds)(hn:ds.length<=1000000):PF GB prog 210 [fk ds] (dN (dv ds)):=by
 have hm:=fA ds;refine fn func210 J J ntmps210 J J (fun C=>?_);refine CA J J<|ap (ds.map dU) J J (uN _) J<|fz 5 J J<|cl J (q0 (ds:=ds) (by omega)) J<|?_;exact rz J (by unfold dN;rw[pz hd];rfl)
def VH{neg:Bool}{ds:List Nat}(hd:bp ds)(hn:ds.length<=1000000):PF GB prog 185 [.ag [.v (.bool neg),fk ds]] (eI (n7 neg ds)):=by
 refine fn func185 J J ntmps185 J J (fun C=>?_);refine cl J (Q3 hd hn) J<|cl J kB J<|?_;exact rz J J
def rlD(r:RL):DV:= .tp [if r.nm then eL r.l else .ag [.v (.bool false), .sl [], .v (.bool false), .sl [], .v (.bool false), .sl []],vB (decide (r.nm/\r.l.ok))]
def smB(n:Int)(ls:List (List Nat)):Bool:=ls.all fun d=>decide ((d.length:Int)<=n)
def RL.smB(n:Int)(r:RL):Bool:=Sx.smB n [r.da,r.db,r.dc]
def rlB(n:Int)(ls:List RL):Bool:=ls.all fun r=>r.smB n
def Zf{n i:Nat}[h:BN n i](hi:i<=20000000:=by decide):PF GB prog 210 [dN n] (dN n):=by
 have hl:=lC h.h;have:=Q3 (GB:=GB) (ds:=dg n) (kA n) (by omega);rw[cj,<-Iy] at this;exact this
def Vu(z:Int):n7 (decide (z<0)) (dg z.natAbs)=z:=by
 unfold n7;rw[cj];split<;>(rename_i h;simp at h;omega)
def WK{z:Int}{i:Nat}[h:BI z i](hi:i<=20000000:=by decide):PF GB prog 185 [eI z] (eI z):=by
 have hl:=lC h.h;have:=VH (GB:=GB) (neg:=decide (z<0)) (ds:=dg z.natAbs) (kA _) (by omega);rw[Vu,<-Iy] at this;exact this
def SF{n:Nat}(h:0<n): ¬((((dg n).map dU).length:Nat):Int)=0:=by
 rw[aJ];have:=um (n:=n);omega
instance BQ.m1':BQ (((-1:Int):Int):Rat) 2:=⟨by decide,by decide⟩
instance BQ.m1:BQ (-1:Rat) 2:=⟨by decide,by decide⟩
def PA{q:Rat}{i:Nat}[h:BQ q i](hi:i<=20000000:=by decide):PF GB prog 116 [eR q] (eQ q):=by
 have hd:=q.den_pos;refine fn func116 J J ntmps116 J J (fun C=>?_);refine cl (fu:=⟨8⟩) J (Zf (n:=q.den) hi) J<|dt J (by show some (decide _)=some false;rw[decide_eq_false (SF hd)]) J<|cl J (WK (z:=q.num) hi) J<|?_;refine cl J (xS (x:=q.num) (d:=q.den) hd (by omega) (by omega)) J<|?_;exact rz J (by rw[tX];rfl)
def LN{q:Rat}{i:Nat}[h:BQ q i](hi:i<=400000000:=by decide):PF GB prog 106 [eQ q] (eR q):=by
 refine fn func106 J J ntmps106 J J (fun C=>?_);refine cl J (V2 (z:=q.num) hi) J<|cl J (kI (q:=q)) J<|cl J (Mm (a:=q.den) hi) J<|?_;exact rz J J
def XK{p:aa}{i:Nat}[h:aI p i](hi:i<=20000000:=by decide):PF GB prog 177 [l6 p] (eP p):=by
 refine fn func177 J J ntmps177 J J (fun C=>?_);refine cl J (PA (q:=p.x) hi) J<|cl J (PA (q:=p.y) hi) J<|?_;exact rz J J
def DT{p:aa}{i:Nat}[h:aI p i](hi:i<=20000:=by decide):PF GB prog 35 [eP p] (l6 p):=by
 refine fn func35 J J ntmps35 J J (fun C=>?_);refine cl J (LN (q:=p.x) (i:=i) (by omega)) J<|cl J (LN (q:=p.y) (i:=i) (by omega)) J<|?_;exact rz J J
def ir{α:Type}(f:α->DV)(l:List α):(l.map f).length=l.length:=aJ ..
def pe(ps:List aa):dG 6 (ps.map eP):=fun d hd=>by
 obtain⟨u,_,rfl⟩:=bV.1 hd;exact⟨rfl,rfl⟩
def Wc(ps:List aa):dG 6 (ps.map l6):=fun d hd=>by
 obtain⟨u,_,rfl⟩:=bV.1 hd;exact⟨rfl,rfl⟩
def WT{ps:List aa}(hb: ∀p∈ps,aI p 1200)(hn:ps.length<=1000000):PF GB prog 85 [.sl (ps.map l6)] (.sl (ps.map eP)):=by
 have hm:=ir l6 ps;refine fn (fu:=⟨15⟩) func85 J J ntmps85 J J (fun C=>?_);refine ao 7 (.d (vI (ps.length:Nat))) J (by rw[hm]<;>rfl) ?_;refine gx J<|?_;refine nr 3 3 81 6 J J J ?_;refine lp (X:=Nat) (fun k=>[(8, .d (vI (k:Nat))),(3, .rw 3)]) (fun k=>[(3,some (.b 81 6 ((ps.take k).map eP) true))]) (fun k=>k<=ps.length) (fun k=>ps.length-k) 0 J (bK _) (fun _=>J) (fun k hk=>?_);have hml:=ir eP (ps.take k);rw[bM] at hml;refine br J J J (fun hc9=>?_) (fun hc9=>?_)
 .
  obtain⟨z,hz⟩: ∃s,ps[k]? =some s:=⟨_,aX (by omega)⟩;have hzm:=aS hz;refine ix _ J (d6 hz) J<|cl J (XK (p:=z) (h:=hb z hzm)) J<|rf J J<|ap ((ps.take (k+1)).map eP) J (AQ hz) (pe [z]) J<|?_;refine gI 16 3 J ?_;exact at_ (k+1) ⟨(by omega),(by omega)⟩
 .
  obtain rfl:k=ps.length:=by omega
  refine lB 3 J ?_;exact rz J (by rw[dT];rfl)
def Ji{ps:List aa}(hb: ∀p∈ps,aI p 1200)(hn:ps.length<=1000000):PF GB prog 32 [.sl (ps.map eP)] (.sl (ps.map l6)):=by
 have hm:=ir eP ps;refine fn (fu:=⟨15⟩) func32 J J ntmps32 J J (fun C=>?_);refine ao 7 (.d (vI (ps.length:Nat))) J (by rw[hm]<;>rfl) ?_;refine gx J<|?_;refine nr 3 3 73 6 J J J ?_;refine lp (X:=Nat) (fun k=>[(8, .d (vI (k:Nat))),(3, .rw 3)]) (fun k=>[(3,some (.b 73 6 ((ps.take k).map l6) true))]) (fun k=>k<=ps.length) (fun k=>ps.length-k) 0 J (bK _) (fun _=>J) (fun k hk=>?_);have hml:=ir l6 (ps.take k);rw[bM] at hml;refine br J J J (fun hc9=>?_) (fun hc9=>?_)
 .
  obtain⟨z,hz⟩: ∃s,ps[k]? =some s:=⟨_,aX (by omega)⟩;have hzm:=aS hz;refine ix _ J (d6 hz) J<|cl J (DT (p:=z) (h:=hb z hzm)) J<|rf J J<|ap ((ps.take (k+1)).map l6) J (AQ hz) (Wc [z]) J<|?_;refine gI 16 3 J ?_;exact at_ (k+1) ⟨(by omega),(by omega)⟩
 .
  obtain rfl:k=ps.length:=by omega
  refine lB 3 J ?_;exact rz J (by rw[dT];rfl)
def f9(p q:aa):Int:=if bO p.x q.x≠0 then bO p.x q.x else bO p.y q.y
def Qh{p q:aa}{i j:Nat}[hp:aI p i][hq:aI q j](hi:i<=100000:=by decide)(hj:j<=100000:=by decide):PF GB prog 181 [eP p,eP q] (vI (f9 p q)):=by
 refine fn func181 J J ntmps181 J J (fun C=>?_);refine cl J (wL (a:=p.x) (b:=q.x) (by omega) (by omega)) J<|?_;refine br J J J (fun hc12=>?_) (fun hc12=>?_)
 .
  exact rz J (by unfold f9;rw[if_pos hc12];rfl)
 .
  refine cl J (wL (a:=p.y) (b:=q.y) (by omega) (by omega)) J<|?_;exact rz J (by unfold f9;rw[if_neg hc12];rfl)
def pp(l:ab):Bool:=decide (l.a<0\/(l.a=0/\l.b<0))
def ab.canon(l:ab):ab:=if pp l then l.rev else l
def zB(a:Int):a.sign<0↔a<0:=by
 rcases nM a 0 with h|h|h
 ·rw[fZ h];omega
 ·subst h;simp
 ·rw[gJ h];omega
def Pd(a:Int):a.sign=0↔a=0:=fM
def I6{l:ab}(h:l.a<0\/(l.a=0/\l.b<0)):DV.tp [eL l.canon,vB (pp l)]= .tp [eL l.rev,vB true]:=by
 unfold ab.canon pp;rw[decide_eq_true h];rfl
def Ms{l:ab}(h: ¬(l.a<0\/(l.a=0/\l.b<0))):DV.tp [eL l.canon,vB (pp l)]= .tp [eL l,vB false]:=by
 unfold ab.canon pp;rw[decide_eq_false h];rfl
def ayr{l:ab}[hl:LB l]:PF GB prog 178 [eL l] (.tp [eL l.canon,vB (pp l)]):=by
 refine fn func178 J J ntmps178 J J (fun C=>?_);refine cl J (yF (z:=l.a)) J<|?_;refine cs 10 J J J (fun hg10=>?_) (fun hg10=>?_)
 .
  refine cl J (PE (l:=l)) J<|?_;exact rz J (by rw[I6 (.inl ((zB _).1 hg10))];rfl)
 .
  refine cs 13 J J J (fun hg13=>?_) (fun hg13=>?_)
  .
   refine cl J (yF (z:=l.b)) J<|?_;refine br J J J (fun hc19=>?_) (fun hc19=>?_)
   .
    refine cl J (PE (l:=l)) J<|?_;exact rz J (by rw[I6 (.inr ⟨(Pd _).1 hg13,(zB _).1 hc19⟩)];rfl)
   .
    exact rz J (by rw[Ms (fun e=>e.elim (fun e=>hg10 ((zB _).2 e)) (fun e=>hc19 ((zB _).2 e.2)))];rfl)
  .
   exact rz J (by rw[Ms (fun e=>e.elim (fun e=>hg10 ((zB _).2 e)) (fun e=>hg13 ((Pd _).2 e.1)))];rfl)
instance LB.canon (l:ab) [h:LB l]:LB l.canon:=by unfold ab.canon;split;exact LB.rev h;exact h
def ax2{l:ab}(h:l.ok):l.canon.ok:=by unfold ab.canon;split;exact h.rev;exact h
def qj{α β:Type}(c:β->β->Int)(g:α->β)(l:List α)(k:Nat):List β:=om c ((l.take k).map g)
section
variable {α β:Type} {c:β->β->Int} {g:α->β} {l:List α} {k:Nat}
def tj{x:α}(h:l[k]? =some x):qj c g l (k+1)=dH c (g x) (qj c g l k):=by
 unfold qj om;rw[gU,h,Option.toList_some,cR,List.foldl_append];rfl
def GM(h:k=l.length):qj c g l k=om c (l.map g):=by unfold qj;rw[h,dT]
def GU:(qj c g l k).length<=k:=by
 have:=Du c ((l.take k).map g) [];have h2:((l.take k).map g).length<=k:=by rw[aJ,bM];omega
 rw[iK] at this;unfold qj om;omega
def Gs{y:β}(h:y∈qj c g l k): ∃x∈l,y=g x:=by
 rcases Am c h with h|h
 ·obtain⟨x,hx,rfl⟩:=bV.1 h
  exact⟨x,fV hx,J⟩
 ·cases h
end
def wK{α:Type}{f:α->DV}{s:Nat}(ok: ∀l:List α,dG s (l.map f))(xs:List α)(n:Nat):dG s ((xs.map f).take n):=fun d hd=>ok xs d (fV hd)
def vM{α:Type}{f:α->DV}{s:Nat}(ok: ∀l:List α,dG s (l.map f))(xs:List α)(n m:Nat):dG s (((xs.map f).take n).drop m):=fun d hd=>ok xs d (fV (iL hd))
def yC{α:Type}{f:α->DV}{s:Nat}(ok: ∀l:List α,dG s (l.map f))(xs:List α)(n m:Nat)(x:α):dG s ([f x]++((xs.map f).take n).drop m):=fun d hd=>by
 rcases bS.1 hd with h|h
 ·exact ok [x] d h
 ·exact vM ok xs n m d h
def tY{α:Type}{f:α->DV}{l:List α}{i:Nat}(h:i<l.length):(l.map f)[(i:Int).toNat]? =some (f l[i]):=by
 rw[bZ,eX,aX h];rfl
def VP{ps:List aa}(hb: ∀p∈ps,aI p 1200)(hn:ps.length<=100000):PF GB prog 90 [.sl (ps.map eP)] (.sl ((om f9 ps).map eP)):=by
 have hm':=ir eP ps;refine fn (fu:=⟨15⟩) func90 J J ntmps90 J J (fun C=>?_);refine ao 8 (.d (vI (ps.length:Nat))) J (by rw[hm'];rfl) ?_;refine gx J<|?_;refine HN 3 J ?_;refine lp (X:=List aa×Nat) (fun⟨xs,k⟩=>[(9, .d (vI (k:Nat))),(8, .d (vI (ps.length:Nat))),(7, .d (.sl (ps.map eP))),(0, .d (.sl (ps.map eP))),(3, .d (.sl (xs.map eP)))]) (fun⟨xs,k⟩=>[]) (fun⟨xs,k⟩=>xs=qj f9 id ps k/\k<=ps.length) (fun⟨xs,k⟩=>ps.length-k) ⟨[],0⟩ J ⟨J,bK _⟩ (fun _=>J) (fun⟨xs,k⟩ hk=>?_)
 try dsimp only at hk⊢
 obtain⟨hS,hkl⟩:=hk;refine br J J J (fun hc10=>?_) (fun hc10=>?_)
 .
  have hk:k<ps.length:=by omega
  obtain⟨m,hm⟩: ∃m,m=ps[k]:=⟨_,rfl⟩;have hz:ps[k]? =some m:=by rw[hm];exact aX hk
  haveI hmb:aI m 1200:=hm▸hb _ (fJ hk);have hxl:=ir eP xs;have hxn:xs.length<=k:=by rw[hS];exact GU
  have hxb: ∀q∈xs,aI q 1200:=fun q hq=>by rw[hS] at hq;obtain⟨z,hz,he⟩:=Gs hq;rw[he];exact hb z hz
  refine ix (fu:=⟨1⟩) _ J (tY hk) J<|?_;refine ao 12 (.d (eP m)) J (by rw[hm];rfl) ?_;refine gx (fu:=⟨10⟩) J<|?_;refine mg (fu:=⟨5⟩) (X:=Unit) (fun _=>[(9, .d (vI (k:Nat))),(8, .d (vI (ps.length:Nat))),(7, .d (.sl (ps.map eP))),(0, .d (.sl (ps.map eP))),(3, .d (.sl (xs.map eP))),(5, .ov 5 0),(6, .d (vI (kH f9 m xs:Nat)))]) (fun _=>[(5,some (.o 81 [.d ((.v (.bool (decide (m.x.num<0))))), .d (dN m.x.num.natAbs), .d (dD m.x.den), .d ((.v (.bool (decide (m.y.num<0))))), .d (dN m.y.num.natAbs), .d (dD m.y.den)] true))]) (fun _=>True) [9,8,7,0,3,5,6] [5] rfl ?_ (fun _=>J) (fun _ _=>?_)
  .
   refine gx J<|?_;refine lp (fu:=⟨6⟩) (X:=Nat) (fun n=>[(9, .d (vI (k:Nat))),(8, .d (vI (ps.length:Nat))),(7, .d (.sl (ps.map eP))),(0, .d (.sl (ps.map eP))),(3, .d (.sl (xs.map eP))),(5, .ov 5 0),(6, .d (vI (n:Nat)))]) (fun n=>[(5,some (.o 81 [.d ((.v (.bool (decide (m.x.num<0))))), .d (dN m.x.num.natAbs), .d (dD m.x.den), .d ((.v (.bool (decide (m.y.num<0))))), .d (dN m.y.num.natAbs), .d (dD m.y.den)] true))]) (fun n=>n<=xs.length/\ ∀j (h:j<xs.length),j<n->f9 xs[j] m<0) (fun n=>xs.length-n) 0 J ⟨bK _,fun j _ hj=>absurd hj (by omega)⟩ (fun _=>J) (fun n hk=>?_);obtain⟨n1,n2⟩:=hk;refine pi (v2:=fun hg16=>by simp only[ah];kernel_rfl) J J J J (fun hg16=>?_) (fun hg16=>?_)
   .
    refine ix _ J (tY (by omega)) J<|cl J (Qh (p:=xs[n]'(by omega)) (q:=m) (hp:=hxb _ (fJ (by omega))) (hq:=hmb)) J<|?_;refine br J J J (fun hc25=>?_) (fun hc25=>?_)
    .
     exact at_ (n+1) ⟨⟨by omega,fun j h hj=>by by_cases q:j=n;(subst q;exact hc25);exact n2 j h (by omega)⟩,(by omega)⟩
    .
     have hidx:kH f9 m xs=n:=wG f9 n1 n2 (fun h=>hc25);exact at_ () trivial
   .
    have hidx:kH f9 m xs=n:=wG f9 n1 n2 (fun h=>absurd h (by omega));exact at_ () trivial
  .
   obtain⟨n,hnx⟩: ∃n,kH f9 m xs=n:=⟨_,rfl⟩;rw[hnx];have hnl:n<=xs.length:=by rw[<-hnx];exact Gl _ _ _
   refine pi (v1:=fun hg31=>by simp only[ah];kernel_rfl) J J J J (fun hg31=>?_) (fun hg31=>?_)
   .
    have hnew: ∀h:n<xs.length,f9 xs[n] m≠0:=fun h=>absurd h (by omega);obtain⟨ys,hys⟩: ∃ys,ys=xs.take n++m::xs.drop n:=⟨_,rfl⟩;have hin:dH f9 m xs=ys:=by rw[hys];exact wc f9 hnx hnew
    have hyl:ys.length<=xs.length+1:=by rw[hys];simp;omega
    refine s3 n _ J J J J (pe _) (by rw[hxl];exact hnl) J<|ro J J<|oy n xs.length _ J J (by rw[hxl]) J (pe _) hnl (by omega) J<|?_;refine ap _ J J (vM pe _ _ _) J<|xt (hv:=by simp only[ah];exact⟨by kernel_rfl,by omega⟩) (ho:=fun _=>⟨wK pe _ _,by simp⟩) (ys.map eP) J (by rw[hys,cR,bW,kK,mS,bQ (l:=xs.map eP) (i:=xs.length) (by simp)];rfl) (yC pe _ _ _ _) J<|?_;exact at_ ⟨ys,k+1⟩ (by dsimp only;exact⟨⟨by rw[tj hz,<-hS];exact hin.symm,by omega⟩,(by omega)⟩)
   .
    refine ix _ J (tY (by omega)) J<|cl J (Qh (p:=xs[n]'(by omega)) (q:=m) (hp:=hxb _ (fJ (by omega))) (hq:=hmb)) J<|?_;refine br J J J (fun hc40=>?_) (fun hc40=>?_)
    .
     have hnew: ∀h:n<xs.length,f9 xs[n] m≠0:=fun h=>hc40;obtain⟨ys,hys⟩: ∃ys,ys=xs.take n++m::xs.drop n:=⟨_,rfl⟩;have hin:dH f9 m xs=ys:=by rw[hys];exact wc f9 hnx hnew
     have hyl:ys.length<=xs.length+1:=by rw[hys];simp;omega
     refine s3 n _ J J J J (pe _) (by rw[hxl];exact hnl) J<|ro J J<|oy n xs.length _ J J (by rw[hxl]) J (pe _) hnl (by omega) J<|?_;refine ap _ J J (vM pe _ _ _) J<|xt (hv:=by simp only[ah];exact⟨by kernel_rfl,by omega⟩) (ho:=fun _=>⟨wK pe _ _,by simp⟩) (ys.map eP) J (by rw[hys,cR,bW,kK,mS,bQ (l:=xs.map eP) (i:=xs.length) (by simp)];rfl) (yC pe _ _ _ _) J<|?_;exact at_ ⟨ys,k+1⟩ (by dsimp only;exact⟨⟨by rw[tj hz,<-hS];exact hin.symm,by omega⟩,(by omega)⟩)
    .
     have hin:dH f9 m xs=xs:=Cb f9 hnx (by omega) (Decidable.not_not.1 hc40);exact at_ ⟨xs,k+1⟩ (by dsimp only;exact⟨⟨by rw[tj hz,<-hS];exact hin.symm,by omega⟩,(by omega)⟩)
 .
  have hfin:om f9 ps=xs:=by rw[hS,GM (by omega),List.map_id]
  exact rz J (by rw[hfin];rfl)
def jH(ls:List ab):List ab:=om gH (ls.map ab.canon)
def T4{ls:List ab}{y:ab}(h:y∈jH ls): ∃x∈ls,y=x.canon:=by
 rcases Am gH h with h|h
 ·obtain⟨x,hx,rfl⟩:=bV.1 h;exact⟨x,hx,rfl⟩
 ·cases h
def SI{ls:List ab}(hb: ∀p∈ls,LB p)(hn:ls.length<=100000):PF GB prog 86 [.sl (ls.map eL)] (.sl ((jH ls).map eL)):=by
 have hm':=ir eL ls;refine fn (fu:=⟨15⟩) func86 J J ntmps86 J J (fun C=>?_);refine ao 8 (.d (vI (ls.length:Nat))) J (by rw[hm'];rfl) ?_;refine gx J<|?_;refine HN 3 J ?_;refine lp (X:=List ab×Nat) (fun⟨xs,k⟩=>[(9, .d (vI (k:Nat))),(8, .d (vI (ls.length:Nat))),(7, .d (.sl (ls.map eL))),(0, .d (.sl (ls.map eL))),(3, .d (.sl (xs.map eL)))]) (fun⟨xs,k⟩=>[]) (fun⟨xs,k⟩=>xs=qj gH ab.canon ls k/\k<=ls.length) (fun⟨xs,k⟩=>ls.length-k) ⟨[],0⟩ J ⟨J,bK _⟩ (fun _=>J) (fun⟨xs,k⟩ hk=>?_)
 try dsimp only at hk⊢
 obtain⟨hS,hkl⟩:=hk;refine br J J J (fun hc10=>?_) (fun hc10=>?_)
 .
  have hk:k<ls.length:=by omega
  obtain⟨z,hm⟩: ∃m,m=ls[k]:=⟨_,rfl⟩;have hz:ls[k]? =some z:=by rw[hm];exact aX hk
  haveI hzb:LB z:=hm▸hb _ (fJ hk);obtain⟨m,hmc⟩: ∃m,m=z.canon:=⟨_,rfl⟩;haveI hmb:LB m:=by rw[hmc];infer_instance
  have hxl:=ir eL xs;have hxn:xs.length<=k:=by rw[hS];exact GU
  have hxb: ∀q∈xs,LB q:=fun q hq=>by rw[hS] at hq;obtain⟨z,hz,rfl⟩:=Gs hq;haveI:=hb z hz;infer_instance
  refine ix (fu:=⟨1⟩) _ J (tY hk) J<|?_;refine ao 12 (.d (eL z)) J (by rw[hm];rfl) ?_;refine gx J<|cl (fu:=⟨2⟩) J (ayr (l:=z)) J<|?_;refine ao 16 (.d (eL m)) J (by rw[hmc]) ?_;refine gx (fu:=⟨10⟩) J<|?_;refine mg (fu:=⟨5⟩) (X:=Unit) (fun _=>[(9, .d (vI (k:Nat))),(8, .d (vI (ls.length:Nat))),(7, .d (.sl (ls.map eL))),(0, .d (.sl (ls.map eL))),(3, .d (.sl (xs.map eL))),(5, .ov 5 0),(6, .d (vI (kH gH m xs:Nat)))]) (fun _=>[(5,some (.o 115 [.d ((.v (.bool (decide (m.a<0))))), .d (dN m.a.natAbs), .d ((.v (.bool (decide (m.b<0))))), .d (dN m.b.natAbs), .d ((.v (.bool (decide (m.c<0))))), .d (dN m.c.natAbs)] true))]) (fun _=>True) [9,8,7,0,3,5,6] [5] rfl ?_ (fun _=>J) (fun _ _=>?_)
  .
   refine gx J<|?_;refine lp (fu:=⟨6⟩) (X:=Nat) (fun n=>[(9, .d (vI (k:Nat))),(8, .d (vI (ls.length:Nat))),(7, .d (.sl (ls.map eL))),(0, .d (.sl (ls.map eL))),(3, .d (.sl (xs.map eL))),(5, .ov 5 0),(6, .d (vI (n:Nat)))]) (fun n=>[(5,some (.o 115 [.d ((.v (.bool (decide (m.a<0))))), .d (dN m.a.natAbs), .d ((.v (.bool (decide (m.b<0))))), .d (dN m.b.natAbs), .d ((.v (.bool (decide (m.c<0))))), .d (dN m.c.natAbs)] true))]) (fun n=>n<=xs.length/\ ∀j (h:j<xs.length),j<n->gH xs[j] m<0) (fun n=>xs.length-n) 0 J ⟨bK _,fun j _ hj=>absurd hj (by omega)⟩ (fun _=>J) (fun n hk=>?_);obtain⟨n1,n2⟩:=hk;refine pi (v2:=fun hg21=>by simp only[ah];kernel_rfl) J J J J (fun hg21=>?_) (fun hg21=>?_)
   .
    refine ix _ J (tY (by omega)) J<|cl J (Q7 (l:=xs[n]'(by omega)) (m:=m) (hl:=hxb _ (fJ (by omega))) (hm:=hmb)) J<|?_;refine br J J J (fun hc30=>?_) (fun hc30=>?_)
    .
     exact at_ (n+1) ⟨⟨by omega,fun j h hj=>by by_cases q:j=n;(subst q;exact hc30);exact n2 j h (by omega)⟩,(by omega)⟩
    .
     have hidx:kH gH m xs=n:=wG gH n1 n2 (fun h=>hc30);exact at_ () trivial
   .
    have hidx:kH gH m xs=n:=wG gH n1 n2 (fun h=>absurd h (by omega));exact at_ () trivial
  .
   obtain⟨n,hnx⟩: ∃n,kH gH m xs=n:=⟨_,rfl⟩;rw[hnx];have hnl:n<=xs.length:=by rw[<-hnx];exact Gl _ _ _
   refine pi (v1:=fun hg36=>by simp only[ah];kernel_rfl) J J J J (fun hg36=>?_) (fun hg36=>?_)
   .
    have hnew: ∀h:n<xs.length,gH xs[n] m≠0:=fun h=>absurd h (by omega);obtain⟨ys,hys⟩: ∃ys,ys=xs.take n++m::xs.drop n:=⟨_,rfl⟩;have hin:dH gH m xs=ys:=by rw[hys];exact wc gH hnx hnew
    have hyl:ys.length<=xs.length+1:=by rw[hys];simp;omega
    refine s3 n _ J J J J (pk _) (by rw[hxl];exact hnl) J<|ro J J<|oy n xs.length _ J J (by rw[hxl]) J (pk _) hnl (by omega) J<|?_;refine ap _ J J (vM pk _ _ _) J<|xt (hv:=by simp only[ah];exact⟨by kernel_rfl,by omega⟩) (ho:=fun _=>⟨wK pk _ _,by simp⟩) (ys.map eL) J (by rw[hys,cR,bW,kK,mS,bQ (l:=xs.map eL) (i:=xs.length) (by simp)];rfl) (yC pk _ _ _ _) J<|?_;exact at_ ⟨ys,k+1⟩ (by dsimp only;exact⟨⟨by rw[tj hz,<-hS,<-hmc];exact hin.symm,by omega⟩,(by omega)⟩)
   .
    refine ix _ J (tY (by omega)) J<|cl J (Q7 (l:=xs[n]'(by omega)) (m:=m) (hl:=hxb _ (fJ (by omega))) (hm:=hmb)) J<|?_;refine br J J J (fun hc45=>?_) (fun hc45=>?_)
    .
     have hnew: ∀h:n<xs.length,gH xs[n] m≠0:=fun h=>hc45;obtain⟨ys,hys⟩: ∃ys,ys=xs.take n++m::xs.drop n:=⟨_,rfl⟩;have hin:dH gH m xs=ys:=by rw[hys];exact wc gH hnx hnew
     have hyl:ys.length<=xs.length+1:=by rw[hys];simp;omega
     refine s3 n _ J J J J (pk _) (by rw[hxl];exact hnl) J<|ro J J<|oy n xs.length _ J J (by rw[hxl]) J (pk _) hnl (by omega) J<|?_;refine ap _ J J (vM pk _ _ _) J<|xt (hv:=by simp only[ah];exact⟨by kernel_rfl,by omega⟩) (ho:=fun _=>⟨wK pk _ _,by simp⟩) (ys.map eL) J (by rw[hys,cR,bW,kK,mS,bQ (l:=xs.map eL) (i:=xs.length) (by simp)];rfl) (yC pk _ _ _ _) J<|?_;exact at_ ⟨ys,k+1⟩ (by dsimp only;exact⟨⟨by rw[tj hz,<-hS,<-hmc];exact hin.symm,by omega⟩,(by omega)⟩)
    .
     have hin:dH gH m xs=xs:=Cb gH hnx (by omega) (Decidable.not_not.1 hc45);exact at_ ⟨xs,k+1⟩ (by dsimp only;exact⟨⟨by rw[tj hz,<-hS,<-hmc];exact hin.symm,by omega⟩,(by omega)⟩)
 .
  have hfin:jH ls=xs:=by rw[hS,GM (by omega)];rfl
  exact rz J (by rw[hfin];rfl)
def BX{α:Type}{c:α->α->Int}(hc: ∀u x,c u x=0->u=x){x y:α}: ∀{xs:List α},y=x\/y∈xs->y∈dH c x xs
 |[],h=>by
  rcases h with rfl|h
  ·rw[dH];exact aY.2 J
  ·cases h
 |u::t,h=>by
  rw[dH];split
  ·rcases h with rfl|h
   ·exact aZ _ (BX hc (.inl J))
   ·rcases aV.1 h with rfl|h
    ·exact aQ
    ·exact aZ _ (BX hc (.inr h))
  ·split
   ·rename_i h0
    rcases h with rfl|h
    ·rw[<-hc _ _ h0];exact aQ
    ·exact h
   ·rcases h with rfl|h
    ·exact aQ
    ·exact aZ _ h
def K9{α:Type}{c:α->α->Int}(hc: ∀u x,c u x=0->u=x){y:α}: ∀{l o:List α},y∈l\/y∈o->y∈l.foldl (fun out x=>dH c x out) o
 |[],o,h=>h.elim (fun h=>by cases h) id
 |x::t,o,h=>by
  refine K9 hc (l:=t) ?_;rcases h with h|h
  ·rcases aV.1 h with rfl|h
   ·exact .inr (BX hc (.inl J))
   ·exact .inl h
  ·exact .inr (BX hc (.inr h))
def Sm{ls:List ab}{x:ab}(h:x∈ls):x.canon∈jH ls:=
 K9 (fun u x e=>(asv u x).1 e) (.inl (gS h))
def WG(l:ab)(p:aa):l.canon.value p=l.value p\/l.canon.value p= -l.value p:=by
 unfold ab.canon;split
 ·exact .inr (ij l p)
 ·exact .inl J
def IK(a b:Tr):List aa:=nC (jH (a.lns++b.lns))
def eqR(a b:Tr):Bool:=(IK a b).all fun p=>uh a p==uh b p
def aKo(f:Bool->Bool->Bool)(a b:Tr):Bool:=(IK a b).any fun p=>f (uh a p) (uh b p)
def aJt(v:Bool)(t:Tr):Bool:=decide ((t.restrict []).isLeaf=true/\(t.restrict []).code=v)
def Oq{α:Type}{c:α->α->Int}(hT: ∀u v w,c u v<0->c v w<0->c u w<0)(hA: ∀u v,¬c u v<0->c u v≠0->c v u<0){x:α}: ∀{xs:List α},xs.Pairwise (fun a b=>c a b<0)->(dH c x xs).Pairwise (fun a b=>c a b<0)
 |[],_=>by rw[dH];exact List.pairwise_singleton _ _
 |u::t,h=>by
  obtain⟨h1,h2⟩:=bJ.1 h;rw[dH];split
  ·rename_i hu
   refine bJ.2 ⟨fun y hy=>?_,Oq hT hA h2⟩;rcases IH c hy with rfl|hy
   ·exact hu
   ·exact h1 y hy
  ·rename_i hu
   split
   ·exact h
   ·rename_i hz
    have hx:=hA u x hu hz;refine bJ.2 ⟨fun y hy=>?_,h⟩;rcases aV.1 hy with rfl|hy
    ·exact hx
    ·exact hT _ _ _ hx (h1 y hy)
def MB{α:Type}{c:α->α->Int}(hT: ∀u v w,c u v<0->c v w<0->c u w<0)(hA: ∀u v,¬c u v<0->c u v≠0->c v u<0): ∀{l o:List α},o.Pairwise (fun a b=>c a b<0)->(l.foldl (fun out x=>dH c x out) o).Pairwise (fun a b=>c a b<0)
 |[],o,h=>h
 |x::l,o,h=>MB (l:=l) (o:=dH c x o) hT hA (Oq hT hA h)
def R6(L:List ab)(p:aa):List aa:=L.flatMap fun l=>if Int.sign (l.value p).num=0 then [l.dir,b8 l.dir] else []
def Z1{u v:aa}:0<di u v↔c7 v u:=by
 unfold di c7;split
 ·rename_i h;exact⟨fun e=>absurd e (by decide),fun e=>by omega⟩
 ·rename_i h
  split
  ·rename_i h2;exact⟨fun _=> .inl h2,fun _=>by decide⟩
  ·rename_i h2
   have e:v.half=u.half:=by omega
   rw[gE u v];constructor
   ·intro k
    have:Int.sign (u.cross v).num<0:=by omega
    rw[mI] at this;exact .inr ⟨e,by grind⟩
   ·rintro (k|⟨_,k⟩)
    ·omega
    ·have:Int.sign (u.cross v).num<0:=(mI _).2 (by grind)
     omega
def c7.trans{u v w:aa}(hu:u.half≠0)(hv:v.half≠0)(hw:w.half≠0)(h:c7 u v)(k:c7 v w):c7 u w:=by
 rcases h with h|⟨h,h'⟩<;>rcases k with k|⟨k,k'⟩
 ·exact .inl (by omega)
 ·exact .inl (by omega)
 ·exact .inl (by omega)
 ·refine .inr ⟨h.trans k,?_⟩
  have id1:u.cross w*v.y=u.cross v*w.y+v.cross w*u.y:=by unfold aa.cross;grind
  rcases lA v with⟨x,q⟩|⟨x,q⟩|⟨x,q⟩
  ·rw[x] at h k
   have qu:=wA.1 h;have qw:=wA.1 k.symm;rcases q with q|⟨q,q'⟩
   ·rw[<-ke q,id1]
    have wy:0<=w.y:=by grind
    have uy:0<=u.y:=by grind
    have a1:=fy (fY h') wy;rcases qu with qu|⟨qu,qu'⟩
    ·have:=ce k' qu;grind
    ·rcases qw with qw|⟨qw,qw'⟩
     ·have:=ce h' qw;rw[qu];grind
     ·exfalso
      have hx:v.cross w= -(w.x*v.y):=by unfold aa.cross;rw[qw];grind
      have:=ce qw' q;grind
   ·exfalso
    have hx:u.cross v= -(v.x*u.y):=by unfold aa.cross;rw[q];grind
    have:=fy (a:=v.x) (b:=u.y) (fY q') (by grind);grind
  ·rw[x] at h k
   have qu:=vR.1 h;have qw:=vR.1 k.symm;rcases q with q|⟨q,q'⟩
   ·have e1:u.cross w* -v.y=u.cross v* -w.y+v.cross w* -u.y:=by grind
    rw[<-ke (k:= -v.y) (by grind),e1];have a1:=fy (a:=u.cross v) (b:= -w.y) (fY h') (by grind);rcases qu with qu|⟨qu,qu'⟩
    ·have:=ce (a:=v.cross w) (b:= -u.y) k' (by grind);grind
    ·rcases qw with qw|⟨qw,qw'⟩
     ·have:=ce (a:=u.cross v) (b:= -w.y) h' (by grind);rw[qu];grind
     ·exfalso
      have hx:v.cross w= -(-w.x* -v.y):=by unfold aa.cross;rw[qw];grind
      have:=ce (a:= -w.x) (b:= -v.y) (by grind) (by grind);grind
   ·exfalso
    have hx:u.cross v= -(-v.x* -u.y):=by unfold aa.cross;rw[q];grind
    have:=fy (a:= -v.x) (b:= -u.y) (by grind) (by grind);grind
  ·exact absurd x hv
def FB(S:List aa)(x:aa):Nat->Nat
 |0=>0
 |k+1=>if 0<di (S.getD k ⟨0,0⟩) x then FB S x k else k+1
def W3(S:List aa)(x:aa):List aa:=S.take (FB S x S.length)++x::S.drop (FB S x S.length)
def aHE(ds:List aa):List aa:=ds.foldl W3 []
structure aKR (L:List ab):Prop where
 ok: ∀l∈L,l.ok
 cn: ∀l∈L,pp l=false
 nd:L.Pairwise (fun a b=>a≠b)
def MV{l:ab}(h:l.ok):pp l.canon=false:=by
 have hn:=h.ne;unfold ab.Ne at hn;unfold ab.canon;split
 ·rename_i k
  unfold pp at*;rw[decide_eq_true_eq] at k;rw[decide_eq_false_iff_not];show¬(-l.a<0\/(-l.a=0/\ -l.b<0));omega
 ·rename_i k;simpa using k
def Ay{l:ab}(h:l.ok):l.dir.half≠0:=fun e=>by
 have hn:=h.ne;unfold ab.Ne at hn;rcases lA l.dir with⟨k,_⟩|⟨k,_⟩|⟨_,k1,k2⟩
 ·rw[k] at e;cases e
 ·rw[k] at e;cases e
 ·unfold ab.dir at k1 k2
  simp only at k1 k2;apply hn;refine⟨?_,cW.1 k2⟩;have:(l.a:Rat)=0:=by grind
  exact cW.1 this
def Tk{d:aa}(h:d.half≠0):(b8 d).half≠0:=by rw[tE h];have:=ku h;omega
def zr(d:aa):b8 (b8 d)=d:=by unfold b8;cases d;simp
def XN{l m:ab}(hl:l.ok)(hm:m.ok)(cl:pp l=false)(cm:pp m=false){p:aa}(h1:l.value p=0)(h2:m.value p=0)(hc:l.dir.cross m.dir=0):l=m:=by
 have key: ∀t,l.value (m.at t)=0:=fun t=>by
  obtain⟨s,rfl⟩:=zR hm.ne h2;rw[nH] at h1⊢;have hk:m.cutK l=0:=by
   unfold ab.cutK;rw[<-yn];exact hc
  rw[hk] at h1⊢;grind
 rcases DM hl hm key with e|e
 ·exact e
 ·exfalso
  have hn:=hm.ne;unfold ab.Ne at hn;rw[e] at cl;unfold pp at cl cm;rw[decide_eq_false_iff_not] at cl cm;have cl: ¬(-m.a<0\/(-m.a=0/\ -m.b<0)):=cl;omega
def Ke{ds:List aa}(h:ds.Pairwise c7)(hd:tI ds){i:Nat}(hi:i<ds.length)(hj:(i+1)%ds.length<ds.length):qe ds ds[i] ds[(i+1)%ds.length]:=by
 have hp:=pN.1 h;have irr: ∀{u v:aa},c7 u v-> ¬c7 v u:=fun{u v} a b=>by
  unfold c7 at a b;rw[gE u v] at b;rcases a with a|⟨a,a'⟩<;>rcases b with b|⟨b,b'⟩
  ·omega
  ·omega
  ·omega
  ·grind
 have ord: ∀{j k:Nat} (a:j<ds.length) (b:k<ds.length),c7 ds[j] ds[k]->j<k:=fun{j k} a b q=>by
  rcases rT j k with e|e|e
  ·exact e
  ·subst e;exact absurd q (irr q)
  ·exact absurd (hp k j b a e) (irr q)
 by_cases hl:i+1<ds.length
 ·have e:(i+1)%ds.length=i+1:=fU hl
  simp only[e];refine .inl ⟨hp i (i+1) hi hl (by omega),fun d hd' ⟨q1,q2⟩=>?_⟩;obtain⟨j,hj',rfl⟩:=qW hd';have:=ord hi hj' q1;have:=ord hj' hl q2;omega
 ·have e:(i+1)%ds.length=0:=by rw[show i+1=ds.length by omega];exact Nat.mod_self _
  simp only[e];refine .inr ⟨fun d hd' q=>?_,fun d hd' q=>?_⟩
  ·obtain⟨j,hj',rfl⟩:=qW hd'
   have:=ord hi hj' q;omega
  ·obtain⟨j,hj',rfl⟩:=qW hd'
   have:=ord hj' (by omega) q;omega
def Ol(v:aa):Nat:=Nat.gcd (v.x.num.natAbs*v.y.den) (v.y.num.natAbs*v.x.den)
def PZ(n:Int)(d g:Nat):Int:=if n<0 then-((n.natAbs*d/g:Nat):Int) else((n.natAbs*d/g:Nat):Int)
def KB(v:aa):aa:=if v.half=0 then⟨0,0⟩ else⟨(PZ v.x.num v.y.den (Ol v):Int),(PZ v.y.num v.x.den (Ol v):Int)⟩
def Sh(ds:List aa)(i:Nat):List aa:=
 if di (ds.getD i ⟨0,0⟩) (ds.getD ((i+1)%ds.length) ⟨0,0⟩)=0/\2<ds.length then []
 else if Int.sign ((ds.getD i ⟨0,0⟩).cross (ds.getD ((i+1)%ds.length) ⟨0,0⟩)).num=0 then [ly (ds.getD i ⟨0,0⟩)]
 else [dC (KB (ds.getD i ⟨0,0⟩)) (KB (ds.getD ((i+1)%ds.length) ⟨0,0⟩)) 1]
def Vs(ds:List aa):List aa:=if ds.length=0 then [⟨1,0⟩] else(List.range ds.length).flatMap (Sh ds)
def Rn(L:List ab)(p:aa):List aa:=Vs (aHE (R6 L p))
def Cn{ds:List aa}{i:Nat}(h:i<ds.length):ds.getD i ⟨0,0⟩=ds[i]:=by
 rw[aK,aX h,jZ]
def YY(t:Tr)(p:aa):Bool:=(Rn (jH t.lns) p).any fun v=>(fB t p v).1
def XT(t:Tr)(p:aa):Bool:=(Rn (jH t.lns) p).all fun v=>(fB t p v).1
def se{z:Rat}(h:z<0):Int.sign z.num= -1:=by
 have:=(mI _).2 h;rcases nM z.num 0 with q|q|q
 ·exact fZ q
 ·rw[q] at this;simp at this
 ·rw[gJ q] at this;simp at this
def lc:Tr->aa->List ab
 | .leaf _,_=>[]
 | .node l x y,p=>(if Int.sign (l.value p).num=0 then [l] else [])++((if 0<=Int.sign (l.value p).num then lc x p else [])++(if Int.sign (l.value p).num<=0 then lc y p else []))
def o7: ∀{t:Tr} {p:aa} {l:ab},l∈lc t p->l∈t.lns/\l.value p=0
 | .leaf _,p,l,h=>by cases h
 | .node m x y,p,l,h=>by
  rw[lc,bS,bS] at h;rcases h with h|h|h
  ·split at h
   ·rw[aY] at h;subst h
    rename_i k;exact⟨aQ,(kg _).1 k⟩
   ·cases h
  ·split at h
   ·have:=o7 h;exact⟨aZ _ (cJ _ this.1),this.2⟩
   ·cases h
  ·split at h
   ·have:=o7 h;exact⟨aZ _ (cV _ this.1),this.2⟩
   ·cases h
def aDa{t:Tr}{p v:aa}(h:Gn t.lns p v):Gn (lc t p) p v:=fun l hl hz=>h l (o7 hl).1 hz
def BY: ∀{t:Tr} {p v w:aa},(∀l∈lc t p,Int.sign (l.nor.dot v).num=Int.sign (l.nor.dot w).num)->fB t p v=fB t p w
 | .leaf _,_,_,_,_=>rfl
 | .node l x y,p,v,w,h=>by
  have hx:0<=Int.sign (l.value p).num->fB x p v=fB x p w:=fun k=>BY fun m hm=>h m (by rw[lc,bS,bS,if_pos k];exact .inr (.inl hm));have hy:Int.sign (l.value p).num<=0->fB y p v=fB y p w:=fun k=>BY fun m hm=>h m (by rw[lc,bS,bS,if_pos k];exact .inr (.inr hm));rw[fB,fB,yn,yn];by_cases k:Int.sign (l.value p).num=0
  ·rw[if_pos k,if_pos k,<-h l (by rw[lc,if_pos k];exact aQ),hx (by omega),hy (by omega)]
  ·rw[if_neg k,if_neg k]
   generalize Int.sign (l.value p).num=s at*;split
   ·exact hx (by decide)
   ·exact hy (by decide)
   ·rfl
def axy{L M:List ab}{p v:aa}(hM: ∀l∈M,l.ok)(hL:Gn L p v): ∃w,Gn M p w/\ ∀l∈L,l.value p=0->Int.sign (l.nor.dot v).num=Int.sign (l.nor.dot w).num:=by
 have e2: ∀l:ab,l.value p=0->l.value (dC p v 1)=l.nor.dot v:=fun l hz=>by rw[jG,hz];grind
 have hp':bP ((L.filter fun l=>decide (l.value p=0)).map fun l=>(⟨if 0<l.value (dC p v 1) then l else l.rev,av.all⟩:aH)) (dC p v 1):=fun s hs=>by
  obtain⟨l,hl,rfl⟩:=bV.1 hs;obtain⟨h1,h2⟩:=jN.1 hl;have h3:=of_decide_eq_true h2;have h0:l.value (dC p v 1)≠0:=by rw[e2 l h3];exact hL l h1 h3
  simp only;split
  ·assumption
  ·rw[ij];grind
 obtain⟨q,q1,q2⟩:=D1 hp' M hM;have e: ∀l:ab,l.value p=0->l.value q=l.nor.dot ⟨q.x-p.x,q.y-p.y⟩:=fun l hz=>by
  have h1:=jG l p ⟨q.x-p.x,q.y-p.y⟩ 1;rw[hz] at h1;have h2:dC p ⟨q.x-p.x,q.y-p.y⟩ 1=q:=by
   unfold dC
   cases q
   simp only[aa.mk.injEq];constructor<;>grind
  rw[h2] at h1;rw[h1];grind
 refine⟨⟨q.x-p.x,q.y-p.y⟩,fun m hm hz=>?_,fun l hl hz=>?_⟩
 ·rw[<-e m hz];exact q2 m hm
 ·have h1:=q1 _ (bV.2 ⟨l,jN.2 ⟨hl,decide_eq_true hz⟩,J⟩)
  simp only at h1;rw[e2 l hz] at h1;rw[<-e l hz];have h0:=hL l hl hz;split at h1
  ·rename_i k
   rw[(kd _).2 k,(kd _).2 h1]
  ·rename_i k
   rw[ij] at h1;rw[se (by grind),se (by grind)]
def tA(t:Tr)(p:aa)(b:Bool):Prop:= ∃v,Gn (lc t p) p v/\(fB t p v).1=b
def Xb{t:Tr}{p w:aa}(h:Gn t.lns p w):tA t p (fB t p w).1:=⟨w,aDa h,J⟩
def Sc{M:List ab}(hM: ∀l∈M,l.ok)(p:aa): ∃w,Gn M p w:=by
 obtain⟨w,h,_⟩:=axy (L:=[]) (M:=M) (p:=p) (v:=⟨1,0⟩) hM fun l hl=>by cases hl
 exact⟨w,h⟩
def RY{t:Tr}(ht:t.all ab.ok)(p:aa):tA t p true\/tA t p false:=by
 obtain⟨w,h⟩:=Sc (uL ht) p;have:=Xb h
 cases hb:(fB t p w).1 with
 |true=>rw[hb] at this;exact .inl this
 |false=>rw[hb] at this;exact .inr this
def ol(ds:List aa)(i:Nat):aa:=
 if 0<Int.sign ((ds.getD i ⟨0,0⟩).cross (ds.getD ((i+1)%ds.length) ⟨0,0⟩)).num then(ds.getD i ⟨0,0⟩).add (ds.getD ((i+1)%ds.length) ⟨0,0⟩) else ly (ds.getD i ⟨0,0⟩)
def i9(ds:List aa):List aa:=if ds.length=0 then [⟨1,0⟩] else(List.range ds.length).map (ol ds)
def MU(u w:aa):u.add w=gt 1 1 u w:=by
 unfold aa.add gt;simp only[aa.mk.injEq];constructor<;>grind
def M5{x:aa}: ∀{S:List aa},S≠[]->(∀d∈S,0<d.cross x)-> ∃u∈S,∀d∈S,0<=d.cross u
 |[],h,_=>absurd J h
 |[d],_,_=>⟨d,aQ,fun e he=>by rw[aY] at he;subst he;rw[Pg];exact iZ⟩
 |d0::d1::S,_,h=>by
  obtain⟨u,h1,h2⟩:=M5 (S:=d1::S) (by simp) fun d hd=>h d (aZ _ hd);by_cases k:0<=d0.cross u
  ·exact⟨u,aZ _ h1,fun d hd=>(aV.1 hd).elim (fun e=>e▸k) (h2 d)⟩
  ·refine⟨d0,aQ,fun d hd=>(aV.1 hd).elim (fun e=>by rw[e,Pg];exact iZ) fun hd=>?_⟩
   have p0:=h d0 aQ;have pu:=h u (aZ _ h1);have pd:=h d (aZ _ hd);have k1:=h2 d hd;have k2:0<u.cross d0:=by rw[gE] at k;grind
   have e:d.cross d0*u.cross x=u.cross d0*d.cross x+d.cross u*d0.cross x:=by unfold aa.cross;grind
   have n1:=ce k2 pd;have n2:=fy k1 (fY p0);generalize d.cross d0=A at*;generalize u.cross x=B at*;by_cases hA:0<=A
   ·exact hA
   ·have:=ce (a:= -A) (b:=B) (by grind) pu
    grind
def Ul{ds:List aa}(h:ds.Pairwise c7)(hd:tI ds)(hn:ds≠[]){x:aa}(hx: ∀d∈ds,d.cross x≠0): ∃i,i<ds.length/\ ∀d∈ds,Int.sign (d.cross x).num=Int.sign (d.cross (ol ds i)).num:=by
 have hne:(ds.filter fun d=>decide (0<d.cross x))≠[]:=by
  obtain⟨d,r,rfl⟩:=List.exists_cons_of_ne_nil hn;intro e;have h1: ¬0<d.cross x:=fun k=>by
   have:d∈(d::r).filter fun d=>decide (0<d.cross x):=jN.2 ⟨aQ,decide_eq_true k⟩;rw[e] at this;cases this
  have h2:=hx d aQ;have h3:0<(b8 d).cross x:=by rw[gE,oc,<-gE];grind
  have:b8 d∈(d::r).filter fun d=>decide (0<d.cross x):=jN.2 ⟨hd.neg d aQ,decide_eq_true h3⟩;rw[e] at this;cases this
 obtain⟨u,hu,hl⟩:=M5 hne fun d hd=>of_decide_eq_true (jN.1 hd).2;obtain⟨hu1,hu2⟩:=jN.1 hu;have hux:=of_decide_eq_true hu2;obtain⟨i,hi,rfl⟩:=qW hu1;have hj:(i+1)%ds.length<ds.length:=dZ _ (by omega);have hnx:=Ke h hd hi hj;have mw:=fJ hj;refine⟨i,hi,?_⟩;have key: ∀d∈ds,0<d.cross x->0<d.cross (ol ds i):=fun d hdm hdx=>by
  have hdu:0<=d.cross ds[i]:=hl d (jN.2 ⟨hdm,decide_eq_true hdx⟩);unfold ol;rw[Cn hi,Cn hj];generalize ds[(i+1)%ds.length]=w at*;generalize ds[i]=u at*;have hp:=hnx.pos hd hu1 mw;have zd:=hd.nz d hdm;have zu:=hd.nz u hu1;split
  ·rename_i k
   have hc:=(nk _).1 k;rw[MU];have hg:=hnx.gen hd hu1 mw (by grind) (a:=1) (b:=1) (by decide) (by decide) d hdm;have e:d.cross (gt 1 1 u w)=d.cross u+d.cross w:=by unfold aa.cross gt;grind
   rw[e] at hg⊢;by_cases hw:0<=d.cross w
   ·grind
   ·exfalso
    -- -d lies between u and w
    rcases gP (d.cross u) with q|q|q
    ·-- d runs along u
     have hdd:0<d.dot u:=by
      rcases gP (d.dot u) with r|r|r
      ·exact absurd r (BS zd zu q)
      ·exact r
      ·exfalso
       have q':(b8 d).cross u=0:=by unfold aa.cross b8 at*;grind
       have r':0<(b8 d).dot u:=by unfold aa.dot b8 at*;grind
       obtain⟨g,g1,g2⟩:=uR q' r';have:d.cross x= -(g*u.cross x):=by
        have h1:(b8 d).x=g*u.x:=by rw[g2]
        have h2:(b8 d).y=g*u.y:=by rw[g2]
        unfold b8 at h1 h2;simp only at h1 h2;unfold aa.cross;grind
       have:=ce g1 hux;grind
     obtain⟨g,g1,g2⟩:=uR q hdd;have:d.cross w=g*u.cross w:=by rw[g2];unfold aa.cross;grind
     have:=ce g1 hc;grind
    ·have hb:b8 d=gt (-(d.cross w)/u.cross w) (d.cross u/u.cross w) u w:=by
      have hz:u.cross w≠0:=by grind
      have e1: -(d.cross w)/u.cross w*u.cross w= -(d.cross w):=by grind
      have e2:d.cross u/u.cross w*u.cross w=d.cross u:=by grind
      unfold b8 gt;generalize-(d.cross w)/u.cross w=a at*;generalize d.cross u/u.cross w=b at*;simp only[aa.mk.injEq];have f1:(a*u.x+b*w.x+d.x)*u.cross w=0:=by
       have:(a*u.x+b*w.x+d.x)*u.cross w=a*u.cross w*u.x+b*u.cross w*w.x+d.x*u.cross w:=by grind
       rw[this,e1,e2];unfold aa.cross;grind
      have f2:(a*u.y+b*w.y+d.y)*u.cross w=0:=by
       have:(a*u.y+b*w.y+d.y)*u.cross w=a*u.cross w*u.y+b*u.cross w*w.y+d.y*u.cross w:=by grind
       rw[this,e1,e2];unfold aa.cross;grind
      constructor<;>grind
     refine hnx.none hd hu1 mw (by grind) (a:= -(d.cross w)/u.cross w) (b:=d.cross u/u.cross w) ?_ ?_ (by rw[<-hb];exact hd.neg d hdm)
     ·refine(ke (k:=u.cross w) hc).1 ?_
      have e1: -(d.cross w)/u.cross w*u.cross w= -(d.cross w):=by grind
      rw[e1];grind
     ·refine(ke (k:=u.cross w) hc).1 ?_
      have e1:d.cross u/u.cross w*u.cross w=d.cross u:=by grind
      rw[e1];exact q
    ·grind
  ·rename_i k
   have hc:u.cross w=0:=by have: ¬0<u.cross w:=fun e=>k ((nk _).2 e);grind
   have hg:=hnx.turn hd hu1 mw hc d hdm;rw[KW] at hg⊢;rcases gP (d.dot u) with r|r|r
   ·exact absurd r hg
   ·exact r
   ·exfalso
    -- all directions run along u
    have hdc:d.cross u=0:=by
     rcases hnx.spec hd hu1 mw with⟨_,h2,_⟩|⟨h1,h2,h3⟩
     ·rw[hc] at h2;exact absurd h2 (by decide)
     ·have zw:=ku (hd.nz w mw)
      have zu':=ku zu;have zd':=ku zd;have hwu: ∃g:Rat,0<g/\w=⟨g*(b8 u).x,g*(b8 u).y⟩:=by
       refine uR (d:=b8 u) (e:=w) (by rw[oc,gE,hc];grind) ?_;rcases gP (w.dot u) with s|s|s
       ·exact absurd s (BS (hd.nz w mw) zu (by rw[gE,hc];rfl))
       ·exfalso
        obtain⟨g,g1,g2⟩:=uR (d:=u) (e:=w) (by rw[gE,hc];rfl) s;apply h1;rw[g2];rcases lA u with⟨x0,s0⟩|⟨x0,s0⟩|⟨x0,s0⟩
        ·rw[x0]
         refine(wA.2 ?_).symm;rcases s0 with s0|⟨s0,s1⟩
         ·exact .inl (ce g1 s0)
         ·exact .inr ⟨by show g*u.y=0;rw[s0];grind,ce g1 s1⟩
        ·rw[x0]
         refine(vR.2 ?_).symm;rcases s0 with s0|⟨s0,s1⟩
         ·exact .inl (by show g*u.y<0;have:=ce (a:=g) (b:= -u.y) g1 (by grind);grind)
         ·exact .inr ⟨by show g*u.y=0;rw[s0];grind,by show g*u.x<0;have:=ce (a:=g) (b:= -u.x) g1 (by grind);grind⟩
        ·exact absurd x0 zu
       ·unfold aa.dot b8 at*;grind
      obtain⟨g,g1,g2⟩:=hwu;have cw: ∀e:aa,w.cross e=g* -(u.cross e):=fun e=>by rw[g2];unfold aa.cross b8;grind
      by_cases hh:d.half=u.half
      ·have a1:=h2 d hdm hh
       have a2:=h3 _ (hd.neg d hdm) (by rw[tE zd];omega);rw[cw,oc,gE d u] at a2;rcases gP (d.cross u) with s|s|s
       ·exact s
       ·have:=ce g1 s;grind
       ·grind
      ·have a1:=h2 _ (hd.neg d hdm) (by rw[tE zd];omega)
       have a2:=h3 d hdm (by omega);rw[cw,gE d u] at a2;have e3:(b8 d).cross u= -(d.cross u):=by unfold aa.cross b8;grind
       rw[e3] at a1;rcases gP (d.cross u) with s|s|s
       ·exact s
       ·grind
       ·have:=ce (a:=g) (b:= -(d.cross u)) g1 (by grind);grind
    have q':(b8 d).cross u=0:=by unfold aa.cross b8 at*;grind
    have r':0<(b8 d).dot u:=by unfold aa.dot b8 at*;grind
    obtain⟨g,g1,g2⟩:=uR q' r';have:d.cross x= -(g*u.cross x):=by
     have h1:(b8 d).x=g*u.x:=by rw[g2]
     have h2:(b8 d).y=g*u.y:=by rw[g2]
     unfold b8 at h1 h2;simp only at h1 h2;unfold aa.cross;grind
    have:=ce g1 hux;grind
 intro d hdm;rcases gP (d.cross x) with k|k|k
 ·exact absurd k (hx d hdm)
 ·rw[(kd _).2 k,(kd _).2 (key d hdm k)]
 ·have en: ∀y:aa,(b8 d).cross y= -(d.cross y):=fun y=>by unfold aa.cross b8;grind
  have:=key _ (hd.neg d hdm) (by rw[en];grind);rw[en] at this;rw[se k,se (by grind)]
def dO(v:aa):aa:=v.scale (rgcd v.x v.y)⁻¹
def dP(t:Tr)(p:aa):List aa:=(lc t p).flatMap fun l=>[dO l.dir,b8 (dO l.dir)]
def gz(ds:List aa):List aa:=om di ds
def oC{t:Tr}{p d:aa}:d∈dP t p↔ ∃l∈lc t p,d=dO l.dir\/d=b8 (dO l.dir):=by
 unfold dP;rw[gK];constructor
 ·rintro ⟨l,h1,h2⟩
  refine⟨l,h1,?_⟩;rcases aV.1 h2 with h|h
  ·exact .inl h
  ·exact .inr (aY.1 h)
 ·rintro ⟨l,h1,rfl|rfl⟩
  ·exact⟨l,h1,aQ⟩
  ·exact⟨l,h1,aZ _ aQ⟩
def aw2{x y:Rat}(h:x≠0\/y≠0):0<rgcd x y:=by
 unfold rgcd;have hd:0<x.den*y.den:=jU x.den_pos y.den_pos;have hg:0<Nat.gcd (x.num.natAbs*y.den) (y.num.natAbs*x.den):=by
  rcases h with h|h
  ·exact kR _ (jU (Int.natAbs_pos.2 fun e=>h (mW.1 e)) y.den_pos)
  ·exact oX _ (jU (Int.natAbs_pos.2 fun e=>h (mW.1 e)) x.den_pos)
 generalize Nat.gcd (x.num.natAbs*y.den) (y.num.natAbs*x.den)=g at*;generalize x.den*y.den=d at*;rw[<-Gj];have h1:mkRat (g:Int) d=(g:Rat)/(d:Rat):=by rw[oT];rfl
 rw[Gj,h1];have hg':(0:Rat)<(g:Rat):=by exact_mod_cast hg
 have hd':(0:Rat)<(d:Rat):=by exact_mod_cast hd
 have e:(g:Rat)/(d:Rat)*(d:Rat)=(g:Rat):=by grind
 exact(ke (k:=(d:Rat)) hd').1 (by rw[e];exact hg')
def Ve{v:aa}(h:v.half≠0):v.x≠0\/v.y≠0:=by
 rcases lA v with⟨_,k⟩|⟨_,k⟩|⟨k,_⟩
 ·rcases k with k|⟨_,k⟩
  ·exact .inr (by grind)
  ·exact .inl (by grind)
 ·rcases k with k|⟨_,k⟩
  ·exact .inr (by grind)
  ·exact .inl (by grind)
 ·exact absurd k h
def Ah{v:aa}(h:v.half≠0): ∃a:Rat,0<a/\dO v=⟨a*v.x,a*v.y⟩:=by
 have hg:=aw2 (Ve h);refine⟨(rgcd v.x v.y)⁻¹,?_,?_⟩
 ·generalize rgcd v.x v.y=g at*
  have e:g⁻¹*g=1:=by grind
  exact(ke (k:=g) hg).1 (by rw[e];decide)
 ·unfold dO aa.scale
  simp only[aa.mk.injEq];constructor<;>grind
def Yu(v:aa):dO (b8 v)=b8 (dO v):=by
 have e:rgcd (-v.x) (-v.y)=rgcd v.x v.y:=by
  unfold rgcd;rw[mR,mR,pW,pW,jR,jR]
 unfold dO aa.scale b8;simp only[aa.mk.injEq,e];constructor<;>grind
def D4{v:aa}(h:v.half≠0):(dO v).half=v.half:=by
 obtain⟨a,a1,e⟩:=Ah h;have:=HJ (a:=a) (b:=a) (u:=v) (w:=v) a1 a1 J h;rw[<-this];have h2:dO v=gt (a*(1/2)) (a*(1/2)) v v:=by rw[e];unfold gt;simp only[aa.mk.injEq];constructor<;>grind
 have h3:=HJ (a:=a*(1/2)) (b:=a*(1/2)) (u:=v) (w:=v) (ce a1 (by grind)) (ce a1 (by grind)) J h;rw[h2,h3,this]
def Zw{u v:aa}:di u v=0↔u.half=v.half/\u.cross v=0:=by
 unfold di;split
 ·constructor
  ·intro h;exact absurd h (by decide)
  ·intro h;omega
 ·split
  ·constructor
   ·intro h;exact absurd h (by decide)
   ·intro h;omega
  ·constructor
   ·intro h
    exact⟨by omega,(kg _).1 (by omega)⟩
   ·intro h
    rw[(kg _).2 h.2];rfl
def De{u v w:aa}(h:c7 u v)(k:c7 v w):c7 u w:=by
 by_cases hu:u.half=0
 ·by_cases hw:w.half=0
  ·have z: ∀x y:aa,x.half=0->x.cross y=0:=fun x y hx=>by
    rcases lA x with⟨e,_⟩|⟨e,_⟩|⟨_,e1,e2⟩
    ·rw[hx] at e;exact absurd e (by decide)
    ·rw[hx] at e;exact absurd e (by decide)
    ·unfold aa.cross;rw[e1,e2];grind
   rcases h with h|⟨h,h'⟩
   ·rcases k with k|⟨k,k'⟩
    ·omega
    ·have hv:v.half≠0:=by omega
     omega
   ·rw[z u v hu] at h';exact absurd h' (by decide)
  ·refine .inl ?_
   have h1:=ku hw;omega
 ·have hv:v.half≠0:=by
   intro e;rcases h with h|⟨h,_⟩
   ·have:=ku hu;omega
   ·omega
  have hw:w.half≠0:=by
   intro e;rcases k with k|⟨k,_⟩
   ·have:=ku hv;omega
   ·omega
  exact c7.trans hu hv hw h k
section
variable {α:Type} (c:α->α->Int)
def Mf{x y:α}: ∀{xs:List α},y∈xs->y∈dH c x xs
 |[],h=>by cases h
 |u::t,h=>by
  rw[dH];split
  ·rcases aV.1 h with rfl|h
   ·exact aQ
   ·exact aZ _ (Mf h)
  ·split
   ·exact h
   ·exact aZ _ h
def NT{x:α}: ∀{xs:List α},∃e∈dH c x xs,e=x\/c e x=0
 |[]=>⟨x,aQ, .inl J⟩
 |u::t=>by
  rw[dH];split
  ·obtain⟨e,h1,h2⟩:=NT (x:=x) (xs:=t)
   exact⟨e,aZ _ h1,h2⟩
  ·split
   ·exact⟨u,aQ, .inr (by assumption)⟩
   ·exact⟨x,aQ, .inl J⟩
def Oy{y:α}: ∀{l o:List α},y∈o->y∈l.foldl (fun out x=>dH c x out) o
 |[],o,h=>h
 |x::t,o,h=>Oy (l:=t) (Mf c h)
def DX{d:α}: ∀{l o:List α},d∈l-> ∃e∈l.foldl (fun out x=>dH c x out) o,e=d\/c e d=0
 |[],o,h=>by cases h
 |x::t,o,h=>by
  rcases aV.1 h with rfl|h
  ·obtain⟨e,h1,h2⟩:=NT c (x:=d) (xs:=o)
   exact⟨e,Oy c (l:=t) h1,h2⟩
  ·exact DX (l:=t) h
end
def JH(ds:List aa):(gz ds).Pairwise c7:=by
 have:=MB (c:=di) (fun u v w h k=>rp.2 (De (rp.1 h) (rp.1 k))) (fun u v h k=>rp.2 (Z1.1 (by omega))) (l:=ds) (o:=[]) List.Pairwise.nil;exact this.imp fun h=>rp.1 h
def M7{l m:ab}(hl:l.ok)(hm:m.ok){p:aa}(h1:l.value p=0)(h2:m.value p=0){d e:aa}(hd:d=dO l.dir\/d=b8 (dO l.dir))(he:e=dO m.dir\/e=b8 (dO m.dir))(h:di d e=0):d=e:=by
 obtain⟨hh,hc⟩:=Zw.1 h;have zl:=Ay hl;have zm:=Ay hm;have zpl:(dO l.dir).half≠0:=by rw[D4 zl];exact zl
 have zpm:(dO m.dir).half≠0:=by rw[D4 zm];exact zm
 have cr:l.dir.cross m.dir=0:=by
  obtain⟨a,a1,e1⟩:=Ah zl;obtain⟨b,b1,e2⟩:=Ah zm;have c0:(dO l.dir).cross (dO m.dir)=0:=by
   rcases hd with rfl|rfl<;>rcases he with rfl|rfl
   ·exact hc
   ·rw[oc] at hc;grind
   ·rw[gE,oc] at hc;rw[gE];grind
   ·rw[oc,gE,oc] at hc;rw[gE];grind
  have e3:(dO l.dir).cross (dO m.dir)=(a*b)*l.dir.cross m.dir:=by rw[e1,e2];unfold aa.cross;grind
  have hab:=ce a1 b1;rw[e3] at c0;clear e1 e2 e3;generalize a*b=k at*;generalize l.dir.cross m.dir=z at*;rcases gP z with q|q|q
  ·exact q
  ·have:=ce hab q;grind
  ·have:=ce (a:=k) (b:= -z) hab (by grind);grind
 have dirR: ∀k:ab,k.rev.dir=b8 k.dir:=fun k=>by
  unfold ab.dir ab.rev b8;simp only[aa.mk.injEq,pZ]
  try constructor<;>grind
 have cdir: ∀k:ab,k.canon.dir=k.dir\/k.canon.dir=b8 k.dir:=fun k=>by
  unfold ab.canon;split
  ·exact .inr (dirR k)
  ·exact .inl J
 have cval: ∀k:ab,k.value p=0->k.canon.value p=0:=fun k hk=>by rcases WG k p with e|e<;>rw[e,hk]<;>rfl
 have okc: ∀k:ab,k.ok->k.canon.ok:=fun k hk=>by unfold ab.canon;split;exact hk.rev;exact hk
 have ec:l.canon=m.canon:=XN (okc l hl) (okc m hm) (MV hl) (MV hm) (cval l h1) (cval m h2) (by
  rcases cdir l with e1|e1<;>rcases cdir m with e2|e2<;>rw[e1,e2]
  ·exact cr
  ·rw[oc,cr];rfl
  ·rw[gE,oc,gE,cr];rfl
  ·rw[oc,gE,oc,gE,cr];rfl)
 have hdir:l.dir=m.dir\/l.dir=b8 m.dir:=by
  have e1:=cdir l;have e2:=cdir m;rw[ec] at e1;rcases e1 with e1|e1<;>rcases e2 with e2|e2
  ·exact .inl (e1.symm.trans e2)
  ·exact .inr (e1.symm.trans e2)
  ·right;rw[<-e2,e1,zr]
  ·left;rw[<-zr l.dir,<-e1,e2,zr]
 have hP:dO l.dir=dO m.dir\/dO l.dir=b8 (dO m.dir):=by
  rcases hdir with e|e
  ·exact .inl (by rw[e])
  ·exact .inr (by rw[e,Yu])
 have hn:=tE zpm;have h3:=ku zpm;have key:d=dO m.dir\/d=b8 (dO m.dir):=by
  rcases hd with rfl|rfl<;>rcases hP with e|e
  ·exact .inl e
  ·exact .inr e
  ·exact .inr (by rw[e])
  ·exact .inl (by rw[e,zr])
 rcases key with rfl|rfl<;>rcases he with rfl|rfl
 ·rfl
 ·exfalso;omega
 ·exfalso;omega
 ·rfl
def MH{t:Tr}(ht:t.all ab.ok)(p:aa):(gz (dP t p)).Pairwise c7/\tI (gz (dP t p))/\ ∀y,y∈gz (dP t p)↔y∈dP t p:=by
 have h2: ∀y,y∈gz (dP t p)->y∈dP t p:=fun y hy=>by
  rcases Am di hy with h|h
  ·exact h
  ·cases h
 have h3: ∀y,y∈dP t p->y∈gz (dP t p):=fun y hy=>by
  obtain⟨e,e1,e2⟩:=DX di (o:=[]) hy;rcases e2 with rfl|e2
  ·exact e1
  ·obtain⟨l,k1,k2⟩:=oC.1 hy
   obtain⟨m,k3,k4⟩:=oC.1 (h2 e e1);obtain⟨a1,a2⟩:=o7 k1;obtain⟨b1,b2⟩:=o7 k3;rw[<-M7 (uL ht _ b1) (uL ht _ a1) b2 a2 k4 k2 e2];exact e1
 refine⟨JH _,⟨fun d hd=>?_,fun d hd=>?_⟩,fun y=>⟨h2 y,h3 y⟩⟩
 ·obtain⟨l,k1,k2⟩:=oC.1 (h2 d hd)
  have z:=Ay (uL ht _ (o7 k1).1);have z2:(dO l.dir).half≠0:=by rw[D4 z];exact z
  rcases k2 with rfl|rfl
  ·exact z2
  ·exact Tk z2
 ·obtain⟨l,k1,k2⟩:=oC.1 (h2 d hd)
  refine h3 _ (oC.2 ⟨l,k1,?_⟩);rcases k2 with rfl|rfl
  ·exact .inr J
  ·exact .inl (zr _)
def Ki{t:Tr}(ht:t.all ab.ok){p v:aa}(hv:v∈i9 (gz (dP t p))):Gn (lc t p) p v:=by
 obtain⟨h1,h2,h3⟩:=MH ht p;have key:(∀d∈gz (dP t p),d.cross v≠0)->Gn (lc t p) p v:=fun k l hl hz e=>by
  have z:=Ay (uL ht _ (o7 hl).1);obtain⟨a,a1,a2⟩:=Ah z;refine k _ ((h3 _).2 (oC.2 ⟨l,hl, .inl J⟩)) ?_;rw[<-yn] at e;have:(dO l.dir).cross v=a*l.dir.cross v:=by rw[a2];unfold aa.cross;grind
  rw[this,e];grind
 generalize gz (dP t p)=ds at*;unfold i9 at hv;split at hv
 ·rename_i hn
  refine key fun d hd=>?_;rw[List.length_eq_zero_iff.1 hn] at hd;cases hd
 ·obtain⟨i,hi,rfl⟩:=bV.1 hv
  rw[nQ] at hi;have hj:(i+1)%ds.length<ds.length:=dZ _ (by omega);have hx:=Ke h1 h2 hi hj;have mu:=fJ hi;have mw:=fJ hj;have hp:=hx.pos h2 mu mw;refine key ?_;unfold ol;rw[Cn hi,Cn hj];split
  ·rename_i k
   have hc:=(nk _).1 k;rw[MU];exact hx.gen h2 mu mw (by grind) (by decide) (by decide)
  ·rename_i k
   exact hx.turn h2 mu mw (by have: ¬0<ds[i].cross ds[(i+1)%ds.length]:=fun e=>k ((nk _).2 e);grind)
def QX{t:Tr}(ht:t.all ab.ok){p x:aa}(hx:Gn (lc t p) p x): ∃v∈i9 (gz (dP t p)),(fB t p v).1=(fB t p x).1:=by
 obtain⟨h1,h2,h3⟩:=MH ht p;have cr: ∀l∈lc t p,∃a:Rat,0<a/\ ∀y,(dO l.dir).cross y=a*l.nor.dot y:=fun l hl=>by
  obtain⟨a,a1,a2⟩:=Ah (Ay (uL ht _ (o7 hl).1));exact⟨a,a1,fun y=>by rw[a2,<-yn];unfold aa.cross;grind⟩
 by_cases hn:gz (dP t p)=[]
 ·refine⟨⟨1,0⟩,by unfold i9;rw[if_pos (by rw[hn];rfl)];exact aQ,?_⟩
  rw[BY fun l hl=>?_];have:=(h3 _).2 (oC.2 ⟨l,hl, .inl J⟩);rw[hn] at this;cases this
 ·obtain⟨i,hi,hs⟩:=Ul h1 h2 hn (x:=x) fun d hd=>by
   obtain⟨l,k1,k2⟩:=oC.1 ((h3 d).1 hd);obtain⟨a,a1,a2⟩:=cr l k1;have hz:=hx l k1 (o7 k1).2;have e:(dO l.dir).cross x≠0:=by rw[a2];grind
   rcases k2 with rfl|rfl
   ·exact e
   ·intro q;apply e;unfold aa.cross b8 at*;grind
  refine⟨ol (gz (dP t p)) i,?_,?_⟩
  ·unfold i9
   rw[if_neg (by omega)];exact bV.2 ⟨i,nQ.2 hi,J⟩
  ·rw[BY fun l hl=>?_]
   have:=hs _ ((h3 _).2 (oC.2 ⟨l,hl, .inl J⟩));obtain⟨a,a1,a2⟩:=cr l hl;rw[a2,a2] at this;have sg: ∀z:Rat,Int.sign (a*z).num=Int.sign z.num:=fun z=>by
    rcases gP z with k|k|k
    ·subst k;rw[show a*0=0 by grind]
    ·rw[(kd _).2 k,(kd _).2 (ce a1 k)]
    ·rw[se k,se (by have:=ce (a:=a) (b:= -z) a1 (by grind);grind)]
   rw[sg,sg] at this;exact this.symm
def tf(t:Tr)(p:aa):Bool:=(i9 (gz (dP t p))).any fun v=>(fB t p v).1
def yB(t:Tr)(p:aa):Bool:=(i9 (gz (dP t p))).all fun v=>(fB t p v).1
def r5(t:Tr)(p:aa):Int:=if tf t p&&yB t p then 2 else if tf t p then 1 else 0
def H2{t:Tr}(ht:t.all ab.ok){p:aa}:tf t p=true↔tA t p true:=by
 unfold tf;rw[kU];constructor
 ·rintro ⟨v,h1,h2⟩;exact⟨v,Ki ht h1,h2⟩
 ·rintro ⟨x,h1,h2⟩
  obtain⟨v,k1,k2⟩:=QX ht h1;exact⟨v,k1,by rw[k2,h2]⟩
def J5{t:Tr}(ht:t.all ab.ok){p:aa}:yB t p=true↔ ¬tA t p false:=by
 unfold yB;rw[fX];constructor
 ·rintro h ⟨x,h1,h2⟩
  obtain⟨v,k1,k2⟩:=QX ht h1;have:=h v k1;rw[k2,h2] at this;cases this
 ·intro h v hv
  cases hb:(fB t p v).1 with
  |true=>rfl
  |false=>exact absurd ⟨v,Ki ht hv,hb⟩ h
def Y5{t:Tr}(ht:t.all ab.ok){p:aa}:r5 t p=2↔ ¬tA t p false:=by
 unfold r5;constructor
 ·intro h
  split at h
  ·rename_i k;rw[aN] at k;exact(J5 ht).1 k.2
  ·split at h<;>exact absurd h (by decide)
 ·intro h
  have h1:=(J5 ht).2 h;have h2:=(H2 ht).2 ((RY ht p).resolve_right h);rw[h1,h2];rfl
def YW{t:Tr}(ht:t.all ab.ok){p:aa}:r5 t p=0↔ ¬tA t p true:=by
 unfold r5;constructor
 ·intro h k
  rw[(H2 ht).2 k] at h;split at h
  ·exact absurd h (by decide)
  ·exact absurd h (by decide)
 ·intro h
  have h1:tf t p=false:=by
   cases e:tf t p with
   |false=>rfl
   |true=>exact absurd ((H2 ht).1 e) h
  rw[h1];rfl
def IM{p v:aa}: ∀{u:Tr},f5 u.lns p->(fB u p v).1=u.val p
 | .leaf b,_=>rfl
 | .node l x y,ho=>by
  have h0:=ho.l;rw[fB,if_neg (fun e=>h0 ((kg _).1 e))];by_cases k:0<l.value p
  ·rw[(kd _).2 k,Tr.val_pos k];exact IM ho.x
  ·rw[se (by grind),Tr.val_neg k];exact IM ho.y
def Sp{t:Tr}(ht:t.all ab.ok){p:aa}(h:f5 t.lns p):r5 t p=if t.val p then 2 else 0:=by
 have key: ∀b,tA t p b->t.val p=b:=fun b ⟨v,_,h2⟩=>by rw[<-h2,IM h]
 cases hb:t.val p with
 |true=>exact(Y5 ht).2 fun k=>by have:=key _ k;rw[hb] at this;cases this
 |false=>exact(YW ht).2 fun k=>by have:=key _ k;rw[hb] at this;cases this
def AR(u:aa): ¬c7 u u:=by
 rintro (h|⟨_,h⟩)
 ·omega
 ·have:u.cross u=0:=by unfold aa.cross;grind
  rw[this] at h;exact absurd h (by decide)
def VY{u v:aa}(h:c7 u v)(k:c7 v u):False:=AR u (De h k)
def QN{x y:aa}(h: ¬c7 x y)(k: ¬c7 y x):di x y=0:=by
 rw[<-rp] at h k;unfold di at*;split at h<;>try omega
 split at h<;>try omega
 split at k<;>try omega
 rw[show y.cross x= -(x.cross y) by unfold aa.cross;grind,mR,Int.sign_neg] at k;omega
def mz(qs:List Rat):dG 3 (qs.map eQ):=fun d hd=>by
 obtain⟨u,_,rfl⟩:=bV.1 hd;exact⟨rfl,rfl⟩
structure IvB (v:av):Prop where
 lo:BQ v.lo 1200
 hi:BQ v.hi 1200
def MJ: ∀{l:List Rat} {i:Nat} {a b:Rat},l[i]? =some a->l[i+1]? =some b->fe (l.take (i+2))=fe (l.take (i+1))++[(a+b)/2]
 |[],i,a,b,h,_=>by simp at h
 |[_],i,a,b,h,k=>by simp at k
 |c::d::t,0,a,b,h,k=>by
  simp at h k;subst h;subst k;simp[fe]
 |c::d::t,i+1,a,b,h,k=>by
  have:=MJ (l:=d::t) (i:=i) (by simpa using h) (by simpa using k);rw[show(c::d::t).take (i+1+2)=c::d::t.take (i+1) by simp,show(c::d::t).take (i+1+1)=c::d::t.take i by simp,fe,fe,cK];congr 1
def E8: ∀l:List Rat,(fe l).length<=l.length
 |[]=>aM _
 |[_]=>bK _
 |a::b::t=>by rw[fe,bX,bX];exact Nat.succ_le_succ (E8 (b::t))
def R4{a:Rat}{t:List Rat}{z:Rat}(h:(a::t)[t.length]? =some z):cE (a::t)=(a-1)::(fe (a::t)++[z+1]):=by
 rw[cE];have:(a::t).getLast (by simp)=z:=by
  rw[List.getLast_eq_getElem];have:=aU.1 h;obtain⟨h1,h2⟩:=this;rw[<-h2];congr 1
 rw[this]
def aJs(l:List av)(k:Nat):List Rat:=gA (l.take k)
def aKK(o:List Rat)(v:av)(j:Nat):List Rat:=if j=0 then o else if j=1 then(if v.nl then o else eE v.lo o) else iH o v
def aKE(v:av)(j:Nat):Rat:=if j=0 then v.lo else v.hi
def aKe(v:av)(j:Nat):Bool:=if j=0 then v.nl else v.nh
def aJP(l m:ab)(side:Int):DV:= .tp [.sl ((uF l m side).map eV),vB (tU l m)]
def vX(f:aH):DV:= .ag [.v (.bool (decide (f.l.a<0))),dN f.l.a.natAbs, .v (.bool (decide (f.l.b<0))),dN f.l.b.natAbs, .v (.bool (decide (f.l.c<0))),dN f.l.c.natAbs, .v (.bool (decide (f.v.lo.num<0))),dN f.v.lo.num.natAbs,dD f.v.lo.den, .v (.bool (decide (f.v.hi.num<0))),dN f.v.hi.num.natAbs,dD f.v.hi.den, .v (.bool f.v.nl), .v (.bool f.v.nh)]
def U'(fs:List aH):dG 14 (fs.map vX):=fun d hd=>by
 obtain⟨u,_,rfl⟩:=bV.1 hd;exact⟨rfl,rfl⟩
theorem HO{p:ZP}(h:ZP.le 100 p):aI p.q 12:=by
 haveI:BI p.1 11:=jo (by have:=h.1;omega) (by decide);haveI:BI p.2 11:=jo (by have:=h.2;omega) (by decide);exact(inferInstance:aI (iP p.1 p.2) 12)
def Z6{v w:ZP}(hv:ZP.le 100 v)(hw:ZP.le 100 w)(h:v≠w):PF GB prog 173 [eP v.q,eP w.q] (.tp [vX (dl v w),vB true]):=by
 have hne: ¬(w.1=v.1/\w.2=v.2):=fun e=>h (Prod.ext e.1.symm e.2.symm);obtain⟨hlb,hlo⟩:=PL (m:=v.1) (n:=v.2) (p:=w.1) (q:=w.2) (by have:=hv.1;omega) (by have:=hv.2;omega) (by have:=hw.1;omega) (by have:=hw.2;omega) hne;haveI:=hlb;haveI:=HO hv;haveI:=HO hw;refine fn func173 J J ntmps173 J J (fun C=>?_);refine cl (fu:=⟨3⟩) J (Zr (m:=v.1) (n:=v.2) (m':=w.1) (n':=w.2) (by have:=hv.1;omega) (by have:=hv.2;omega) (by have:=hw.1;omega) (by have:=hw.2;omega) (fun e=>hne ⟨e.1.symm,e.2.symm⟩)) J<|?_;refine mf 13 J ?_;refine gx J<|cl J (K1 (l:=iO v.1 v.2 w.1 w.2) (p:=v.q) hlo.ne) J<|cl J (K1 (l:=iO v.1 v.2 w.1 w.2) (p:=w.q) hlo.ne) J<|?_;exact rz J J
def aJF(v w:av):av:=⟨v.lo,w.hi,v.nl,v.nh⟩
def K6{g:Rat}: ∀{l:List Rat},g∈fe l-> ∃a∈l,∃b∈l,g=(a+b)/2
 |[],h=>by cases h
 |[_],h=>by cases h
 |a::b::t,h=>by
  rw[fe] at h;rcases aV.1 h with rfl|h
  ·exact⟨a,aQ,b,aZ _ aQ,J⟩
  ·obtain⟨c,hc,d,hd,e⟩:=K6 h
   exact⟨c,aZ _ hc,d,aZ _ hd,e⟩
end Go.Sx
end
