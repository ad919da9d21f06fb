import Derived.Test.YtpiknjeceobbfaaGreatDoorMy15
set_option linter.all false
set_option maxRecDepth 100000
section
namespace Go.Sx
open Go Go.Proofs Tryz
variable {GB:Gh}
def Eu{l:ab}: ∀{c:List ab} {v:aA},(pe l c v).2=true->ig l c v=some (pe l c v).1
 |[],v,_=>rfl
 |m::t,v,h=>by
  rw[pe] at h⊢;rw[ig];split
  ·rename_i e;rw[if_pos e] at h;exact Eu h
  ·rename_i e
   rw[if_neg e] at h;split
   ·rename_i k;rw[if_pos k] at h;exact Eu h
   ·rename_i k;rw[if_neg k] at h;cases h
def YI{v:aA}(h:v.Pos):v.ins (DC v):=by
 obtain⟨lo,hi,nl,nh⟩:=v;unfold aA.Pos at h;unfold DC aA.ins
 cases nl<;>cases nh<;>simp at* <;>grind
def yz{p v:aa}: ∀{c:List ab} {s:Rat},0<s->0<jG p v c s/\jG p v c s<=s/\ ∀m∈c,0<m.value p->m.nor.dot v<0->jG p v c s<= -(m.value p/m.nor.dot v)/2
 |[],s,h=>⟨h,dR,fun m hm=>by cases hm⟩
 |m::t,s,h=>by
  have hk:m.value (aD p v ((1:Int):Rat))-m.value p=m.nor.dot v:=by rw[gA];grind
  have key:0<lD p v m s/\lD p v m s<=s/\(0<m.value p->m.nor.dot v<0->lD p v m s<= -(m.value p/m.nor.dot v)/2):=by
   unfold lD pk;simp only[hk,fD,jg,vN];split
   ·rename_i e;exact⟨h,dR,fun _ k=>by rw[e] at k;exact absurd k (by decide)⟩
   ·split
    ·rename_i e;exact⟨h,dR,fun k=>by rw[e] at k;exact absurd k (by decide)⟩
    ·split
     ·rename_i e
      split
      ·exact⟨by grind,by grind,fun _ _=>dR⟩
      ·exact⟨h,dR,fun _ _=>by grind⟩
     ·rename_i e
      exact⟨h,dR,fun k1 k2=>absurd (Js k2 k1) e⟩
  obtain⟨a1,a2,a3⟩:=key;obtain⟨b1,b2,b3⟩:=yz (p:=p) (v:=v) (c:=t) a1;rw[jG];refine⟨b1,by grind,fun u hu k1 k2=>?_⟩;rcases aU.1 hu with rfl|hu
  ·have:=a3 k1 k2;grind
  ·exact b3 u hu k1 k2
def Zx{c:List ab}{p v:aa}(h: ∀m∈c,0<m.value p\/(m.value p=0/\0<m.nor.dot v)):fh c (js c p v):=fun m hm=>by
 obtain⟨s0,_,s2⟩:=yz (p:=p) (v:=v) (c:=c) (s:=((1:Int):Rat)) (by decide);unfold js;generalize jG p v c ((1:Int):Rat)=s at*;rw[gA];rcases h m hm with k|⟨k,k2⟩
 ·by_cases q:m.nor.dot v<0
  ·have h3:=s2 m hm k q
   have h4:=Js q k;have e:m.value p/m.nor.dot v*m.nor.dot v=m.value p:=by grind
   generalize m.value p/m.nor.dot v=z at*;have h5:=bG (a:= -z/2-s) (b:= -m.nor.dot v) (by grind) (by grind);grind
  ·have:=bG (cS s0) (show 0<=m.nor.dot v by grind)
   grind
 ·have:=bt s0 k2
  grind
def R5{m:ab}(h:m.Ne):0<m.nor.dot (d6 m.dir):=by
 have:=r4 h;have e:m.nor.dot (d6 m.dir)=m.nor.dot m.nor:=by unfold d6 ab.dir ab.nor aa.dot;grind
 rw[e];exact this
def UO{c:List ab}(hok: ∀m∈c,m.ok)(hb:t6 c=true):fh c (wL c c):=by
 have key: ∀t:List ab,(∀m∈t,m∈c)->(∃m∈t,(ig m c aA.all).isSome=true)->fh c (wL c t):=by
  intro t
  induction t with
  |nil=>rintro _ ⟨m,hm,_⟩;cases hm
  |cons m t ih=>
   intro hs hx;rw[wL];split
   ·rename_i e
    obtain⟨h1,h2⟩:=C4 m c _ _ vx (Eu e);have h3:=((h2 _).1 (YI h1)).2;have hmo:=(hok m (hs m aQ)).ne;refine Zx fun u hu=>?_;by_cases q:u=m
    ·subst q;exact .inr ⟨qI hmo _,R5 hmo⟩
    ·exact .inl (h3 u hu q)
   ·rename_i e
    refine ih (fun u hu=>hs u (aJ _ hu)) ?_;obtain⟨u,hu,h⟩:=hx;rcases aU.1 hu with rfl|hu
    ·rw[D3] at e;exact absurd h e
    ·exact⟨u,hu,h⟩
 unfold t6 at hb;rw[gL,List.isEmpty_iff,kX] at hb;rcases hb with rfl|⟨m,hm,h⟩
 ·exact fun m hm=>by cases hm
 ·exact key c (fun _ h=>h) ⟨m,hm,h⟩
def fh.seg{c:List ab}{q p:aa}{e:Rat}(hq:fh c q)(hp:fh c p)(h0:0<=e)(h1:e<=1):fh c (aC q p e):=fun m hm=>by
 rw[mp];have a:=hq m hm;have b:=hp m hm;by_cases z:e=0
 ·subst z;grind
 ·have k1:=bt (show 0<e by grind) b
  have k2:=bG (show 0<=1-e by grind) (cS a);grind
def fh.open{c:List ab}{q:aa}(u:aa)(h:fh c q): ∃e:Rat,0<e/\ ∀d,0<=d->d<=e->fh c (aD q u d):=by
 have hd:cg (c.map fun m=>(⟨m,aA.all⟩:aH)) q:=fun s hs=>by
  obtain⟨m,hm,rfl⟩:=bZ.1 hs;exact h m hm
 obtain⟨e,he,ho⟩:=hd.open u;exact⟨e,he,fun d d0 d1 m hm=>ho d d0 d1 ⟨m,aA.all⟩ (jQ hm)⟩
def D4(l:ab)(t u:Rat):l.at (t+u)=aD (l.at t) l.dir u:=by
 rw[<-r5,<-r5];unfold aD;simp only[aa.mk.injEq];constructor<;>grind
def E7(l:ab)(a b s:Rat):aC (l.at a) (l.at b) s=l.at (a+s*(b-a)):=by
 rw[<-r5,<-r5,<-r5];unfold aC aD;simp only[aa.mk.injEq];constructor<;>grind
def wZ{l:ab}(h:l.Ne)(t:Rat):ci l (l.at t)=t:=by
 obtain⟨q,_,hq⟩:=ym h;have h2:=r4 h;have e0:l.dir.dot l.dir=l.nor.dot l.nor:=by unfold ab.dir ab.nor aa.dot;grind
 have e1:(l.at t).dot l.dir=t*l.dir.dot l.dir:=by
  rw[<-r5,hq];unfold aD ab.dir aa.dot;grind
 unfold ci;rw[e1];rw[<-e0] at h2;generalize l.dir.dot l.dir=d at*;have:d≠0:=by grind
 grind
def BJ{l:ab}(h:l.Ne){p:aa}(hp:l.value p=0):l.at (ci l p)=p:=by
 obtain⟨t,rfl⟩:=B4 h hp;rw[wZ h]
def Gk(a:Int){g:Nat}(h:g∣a.natAbs):(g:Int)*zv (decide (a<0)) (a.natAbs/g)=a:=by
 obtain⟨k,hk⟩:=h;by_cases g0:g=0
 ·subst g0;simp at hk⊢;omega
 have e:a.natAbs/g=k:=by rw[hk];exact qW k (fL g0)
 rw[e];unfold zv;have hc:((g*k:Nat):Int)=(g:Int)*(k:Int):=by push_cast;rfl
 by_cases n:a<0
 ·simp only[n,decide_true,if_true];rw[Int.mul_neg];omega
 ·simp only[n,decide_false];show(g:Int)*(k:Int)=a;omega
def V2{a b c:Int}(h: ¬(a=0/\b=0)): ∃g:Int,0<g/\g*(fA a b c).a=a/\g*(fA a b c).b=b/\g*(fA a b c).c=c:=by
 have hg:0<Nat.gcd (Nat.gcd a.natAbs b.natAbs) c.natAbs:=kJ _ (fL fun e=>h ⟨jN.1 (kM e),jN.1 (kR e)⟩);refine⟨(Nat.gcd (Nat.gcd a.natAbs b.natAbs) c.natAbs:Nat),by omega,?_,?_,?_⟩
 ·exact Gk a (pL (iN _ _) (iN _ _))
 ·exact Gk b (pL (iN _ _) (jR _ _))
 ·exact Gk c (jR _ _)
def Fm{v w:ZP}(h:v≠w): ∃g:Rat,0<g/\(gE v.1 v.2 w.1 w.2).value v.q=0/\(gE v.1 v.2 w.1 w.2).value w.q=0/\w.q=aD v.q (gE v.1 v.2 w.1 w.2).dir g:=by
 obtain⟨m,n⟩:=v;obtain⟨p,q⟩:=w;have hne: ¬(jc n q=0/\i5 m p=0):=fun e=>h (by unfold jc i5 at e;rw[Prod.mk.injEq];omega);obtain⟨g,g0,ga,gb,gc⟩:=V2 (c:=oq m n p q) hne;dsimp only;unfold gE;generalize fA (jc n q) (i5 m p) (oq m n p q)=l at*;have g0':(0:Rat)<(g:Rat):=by exact_mod_cast g0
 have ra:(g:Rat)*(l.a:Rat)= -((q:Rat)-(n:Rat)):=by rw[<-cR,ga];unfold jc;push_cast;grind
 have rb:(g:Rat)*(l.b:Rat)=(p:Rat)-(m:Rat):=by rw[<-cR,gb];unfold i5;push_cast;grind
 have rc:(g:Rat)*(l.c:Rat)= -(-((q:Rat)-(n:Rat))*(m:Rat)+((p:Rat)-(m:Rat))*(n:Rat)):=by rw[<-cR,gc];unfold oq jc i5;push_cast;grind
 have z: ∀x:Rat,(g:Rat)*x=0->x=0:=fun x hx=>by
  rcases cW.1 hx with e|e
  ·rw[e] at g0';exact absurd g0' (by decide)
  ·exact e
 refine⟨g,g0',z _ ?_,z _ ?_,?_⟩
 ·rw[lG];unfold ZP.q iP;dsimp only;grind
 ·rw[lG];unfold ZP.q iP;dsimp only;grind
 ·unfold ZP.q iP aD ab.dir;simp only[aa.mk.injEq];constructor<;>grind
def xt{v w:ZP}(h:v≠w)(ho:(aP v w).l.ok):(aP v w).l.at (aP v w).v.lo=v.q/\(aP v w).l.at (aP v w).v.hi=w.q/\(aP v w).v.lo<(aP v w).v.hi:=by
 obtain⟨g,g0,h1,h2,h3⟩:=Fm h;unfold aP at ho⊢;dsimp only at ho⊢;generalize gE v.1 v.2 w.1 w.2=l at*;have e1:=BJ ho.ne h1;have e2:=BJ ho.ne h2;refine⟨e1,e2,?_⟩;have:ci l w.q=ci l v.q+g:=by
  have e3:=D4 l (ci l v.q) g;rw[e1,<-h3] at e3;rw[<-e3,wZ ho.ne]
 rw[this];grind
def wW{r:List ZP}{k:Nat}: ∀{n:Nat},k<n->aP (r.getD k (0,0)) (c6 r k)∈iF r n
 |n+1,h=>by
  rw[iF];by_cases e:k=n
  ·subst e;exact cX _ (aV.2 J)
  ·exact bR _ (wW (by omega))
def TB{r:List ZP}(hr:b9 r){c:List ab}(hc: ∀e∈cP r,∀t,e.v.ins t-> ¬fh c (e.l.at t)){q p:aa}(hq:fh c q)(hp:fh c p):tS r q p:=fun k hk s t s0 s1 t0 t1 he=>by
 have hm:aP (r.getD k (0,0)) (c6 r k)∈cP r:=wW hk;have ho:=((qz hr).2 _ hm).ok;obtain⟨e1,e2,e3⟩:=xt (hr.ne k hk) ho;have hno:=hc _ hm;have hx:=hq.seg hp t0 t1;rw[<-he,<-e1,<-e2,E7] at hx;have hv: ∀u,(aP (r.getD k (0,0)) (c6 r k)).v.lo<u->u<(aP (r.getD k (0,0)) (c6 r k)).v.hi-> ¬fh c ((aP (r.getD k (0,0)) (c6 r k)).l.at u):=fun u h1 h2=>hno u ⟨.inr h1, .inr h2⟩;generalize aP (r.getD k (0,0)) (c6 r k)=e at*;have hb:=DX s0 s1 (dR) (cS e3) (cS e3) (dR);generalize e.v.lo+s*(e.v.hi-e.v.lo)=u at*;obtain⟨d,d0,hd⟩:=hx.open e.l.dir;obtain⟨d',d0',hd'⟩:=hx.open (ba e.l.dir);by_cases h1:e.v.lo<u
 ·by_cases h2:u<e.v.hi
  ·exact hv u h1 h2 hx
  ·have eu:u=e.v.hi:=by grind
   obtain⟨z,z0,z1,z2⟩: ∃z:Rat,0<z/\z<=d'/\z<e.v.hi-e.v.lo:=by
    by_cases k:d'<(e.v.hi-e.v.lo)/2
    ·exact⟨d',d0',dR,by grind⟩
    ·exact⟨(e.v.hi-e.v.lo)/2,by grind,by grind,by grind⟩
   refine hv (u+ -z) (by grind) (by grind) ?_;rw[D4];have:=hd' z (cS z0) z1;have e5:aD (e.l.at u) (ba e.l.dir) z=aD (e.l.at u) e.l.dir (-z):=by unfold aD ba;simp only[aa.mk.injEq];constructor<;>grind
   rw[e5] at this;exact this
 ·have eu:u=e.v.lo:=by grind
  obtain⟨z,z0,z1,z2⟩: ∃z:Rat,0<z/\z<=d/\z<e.v.hi-e.v.lo:=by
   by_cases k:d<(e.v.hi-e.v.lo)/2
   ·exact⟨d,d0,dR,by grind⟩
   ·exact⟨(e.v.hi-e.v.lo)/2,by grind,by grind,by grind⟩
  refine hv (u+z) (by grind) (by grind) ?_;rw[D4];exact hd z (cS z0) z1
def VP{rs:List (List ZP)}{fill:Int}(hr: ∀r∈rs,b9 r){c:List ab}(hc: ∀e∈bO rs,∀t,e.v.ins t-> ¬fh c (e.l.at t)){q p:aa}(hq:fh c q)(hp:fh c p):dP rs fill q=dP rs fill p:=by
 have key: ∀(rs:List (List ZP)),(∀r∈rs,b9 r)->(∀e∈bO rs,∀t,e.v.ins t-> ¬fh c (e.l.at t))-> ∀n:Int,rs.foldl (fun n r=>n+il r q) n=rs.foldl (fun n r=>n+il r p) n:=by
  intro rs
  induction rs with
  |nil=>intro _ _ n;rfl
  |cons r t ih=>
   intro hr hc n;rw[fY,fY,<-OG (TB (hr r aQ) (fun e he=>hc e (cY.2 ⟨r,aQ,he⟩)) hq hp)];exact ih (fun r h=>hr r (aJ _ h)) (fun e he=>hc e (by obtain⟨r,h1,h2⟩:=cY.1 he;exact cY.2 ⟨r,aJ _ h1,h2⟩)) _
 unfold dP;rw[key rs hr hc]
def yr{cuts:List Rat}(h:cuts.Pairwise (· < ·)){i j:Nat}(hij:i<j)(hj:j<cuts.length):cuts.getD i 0<cuts.getD j 0:=by
 rw[aX,aX,aZ hj,aZ (by omega)];exact iU.1 h i j (by omega) hj hij
def Gm{cuts:List Rat}{marks:List Bool}(h:cuts.Pairwise (· < ·)): ∀{k:Nat},∀v∈qo cuts marks (k+1),k<cuts.length->(v.nh=false/\v.hi<=cuts.getD k 0)/\(v.nl=true\/v.lo<cuts.getD k 0)
 |k,v,hv,hk=>by
  have hg:((kC cuts k).nh=false/\(kC cuts k).hi<=cuts.getD k 0)/\((kC cuts k).nl=true\/(kC cuts k).lo<cuts.getD k 0):=by
   unfold kC;dsimp only;refine⟨⟨by simp;omega,by rw[if_pos hk];exact dR⟩,?_⟩;by_cases z:k=0
   ·left;simp[z]
   ·right;rw[if_neg z];exact yr h (by omega) hk
  have hold: ∀v∈qo cuts marks k,(v.nh=false/\v.hi<=cuts.getD k 0)/\(v.nl=true\/v.lo<cuts.getD k 0):=fun v hv=>by
   cases k with
   |zero=>cases hv
   |succ k=>
    have ih:=Gm h v hv (by omega);have:=yr h (Nat.lt_succ_self k) hk;exact⟨⟨ih.1.1,by have:=ih.1.2;grind⟩,ih.2.imp id fun z=>by grind⟩
  rw[qo] at hv;split at hv
  ·split at hv
   ·split at hv
    ·rename_i w hw
     rcases bT.1 hv with q|q
     ·exact hold v ((rJ _).subset q)
     ·rw[aV] at q;subst q
      exact⟨hg.1,(hold w (oL hw)).2⟩
    ·rcases bT.1 hv with q|q
     ·exact hold v q
     ·rw[aV] at q;subst q;exact hg
   ·rcases bT.1 hv with q|q
    ·exact hold v q
    ·rw[aV] at q;subst q;exact hg
  ·exact hold v hv
def L7{cuts:List Rat}{marks:List Bool}(h:cuts.Pairwise (· < ·)){x:Rat}{i:Nat}(hm:marks.getD i false=true)(hx:(kC cuts i).ins x): ∀{k:Nat},k<=cuts.length+1->i<k-> ∃v∈qo cuts marks k,v.ins x
 |k+1,hk,hi=>by
  by_cases e:i=k
  ·subst e
   rw[qo,if_pos hm];split
   ·rename_i h0
    split
    ·rename_i w hw
     refine⟨_,cX _ (aV.2 J),?_,hx.2⟩;obtain⟨j,rfl⟩: ∃j,i=j+1:=⟨i-1,by omega⟩;have:=(Gm h w (oL hw) (by omega)).2;have hl:=hx.1;unfold kC at hl;dsimp only at hl;rw[if_neg (by omega),show j+1-1=j by omega] at hl;have hl':cuts.getD j 0<x:=hl.resolve_left (by simp);exact this.imp id fun z=>by show w.lo<x;grind
    ·exact⟨_,cX _ (aV.2 J),hx⟩
   ·exact⟨_,cX _ (aV.2 J),hx⟩
  ·obtain⟨v,hv,hvx⟩:=L7 h hm hx (k:=k) (by omega) (by omega)
   rw[qo];split
   ·split
    ·split
     ·rename_i w hw
      by_cases q:v=w
      ·subst q
       refine⟨_,cX _ (aV.2 J),hvx.1,?_⟩;show(kC cuts k).nh=true\/x<(kC cuts k).hi;obtain⟨j,rfl⟩: ∃j,k=j+1:=⟨k-1,by omega⟩;obtain⟨⟨b1,b2⟩,_⟩:=Gm h v hv (by omega);have hh:=hvx.2.resolve_left (by rw[b1];decide);unfold kC;dsimp only;by_cases z:j+1<cuts.length
       ·right;rw[if_pos z];have:=yr h (Nat.lt_succ_self j) z;grind
       ·left;simp;omega
      ·refine⟨v,bR _ ?_,hvx⟩
       obtain⟨l,hl⟩:=List.getLast?_eq_some_iff.1 hw;rw[hl] at hv⊢;rw[List.dropLast_concat];rcases bT.1 hv with z|z
       ·exact z
       ·rw[aV] at z;exact absurd z q
     ·exact⟨v,bR _ hv,hvx⟩
    ·exact⟨v,bR _ hv,hvx⟩
   ·exact⟨v,hv,hvx⟩
def LT: ∀{l:List Rat} {i:Nat},i+1<l.length->(oI l).getD i 0=(l.getD i 0+l.getD (i+1) 0)/2
 |[],_,h=>by simp at h
 |[_],_,h=>by simp at h
 |a::b::t,0,_=>by simp[oI]
 |a::b::t,i+1,h=>by
  have:=LT (l:=b::t) (i:=i) (by simp at h⊢;omega);rw[oI,kS,this];simp only[kS]
def CA: ∀(l:List Rat) (a:Rat),(oI (a::l)).length=l.length
 |[],_=>rfl
 |b::t,a=>by rw[oI,bU,CA t b,bU]
def Se{cuts:List Rat}(h:cuts.Pairwise (· < ·)){i j:Nat}(hi:i<=cuts.length)(hj:j<cuts.length):(cuts.getD j 0<(mi cuts).getD i 0↔j<i)/\cuts.getD j 0≠(mi cuts).getD i 0:=by
 have mono: ∀{a b:Nat},a<=b->b<cuts.length->cuts.getD a 0<=cuts.getD b 0:=fun{a b} hab hb=>by
  by_cases e:a=b
  ·subst e;exact dR
  ·exact cS (yr h (by omega) hb)
 cases cuts with
 |nil=>simp at hj
 |cons a t=>
  have hl:(a::t).length=t.length+1:=J;rw[mi]
  cases i with
  |zero=>
   rw[sX];have:=mono (bN j) hj;rw[sX] at this;constructor
   ·constructor
    ·intro q;exfalso;grind
    ·intro q;omega
   ·intro q;grind
  |succ i=>
   rw[kS];by_cases e:i<t.length
   ·have e1:(oI (a::t)++[(a::t).getLast (by simp)+1]).getD i 0=((a::t).getD i 0+(a::t).getD (i+1) 0)/2:=by
     rw[<-LT (by omega),aX,aX,dQ (by rw[CA];exact e)]
    rw[e1];have h1:=yr h (Nat.lt_succ_self i) (by omega);by_cases q:j<=i
    ·have:=mono q (by omega)
     constructor
     ·exact⟨fun _=>by omega,fun _=>by grind⟩
     ·grind
    ·have:=mono (show i+1<=j by omega) hj
     constructor
     ·exact⟨fun _=>by exfalso;grind,fun _=>by omega⟩
     ·grind
   ·have ei:i=t.length:=by omega
    have e1:(oI (a::t)++[(a::t).getLast (by simp)+1]).getD i 0=(a::t).getLast (by simp)+1:=by
     rw[aX,fM (by rw[CA];omega),CA,ei];simp
    rw[e1];have:=Ii h (by simp) ((a::t).getD j 0) (by rw[aX,aZ hj];exact cK _);constructor
    ·exact⟨fun _=>by omega,fun _=>by grind⟩
    ·grind
def Lr(x:Rat): ∀{cuts:List Rat},cuts.Pairwise (· < ·)-> ∃i,i<=cuts.length/\ ∀j,j<cuts.length->(cuts.getD j 0<x↔j<i)
 |[],_=>⟨0,aN _,fun j hj=>by simp at hj⟩
 |a::t,h=>by
  rw[bX] at h;by_cases q:a<x
  ·obtain⟨i,h1,h2⟩:=Lr x h.2
   refine⟨i+1,by simp;exact h1,fun j hj=>?_⟩
   cases j with
   |zero=>simp[q]
   |succ j=>rw[kS,h2 j (by simpa using hj)];omega
  ·refine⟨0,bN _,fun j hj=>⟨fun k=>?_,fun k=>by omega⟩⟩
   exfalso
   cases j with
   |zero=>simp at k;grind
   |succ j=>
    rw[kS] at k;have hj':j<t.length:=by simpa using hj
    have:=h.1 (t.getD j 0) (by rw[aX,aZ hj'];exact cK _);grind
def PP{out:List Rat}{s:aA}{y:Rat}:y∈nC out s↔y∈out\/(s.nl=false/\y=s.lo)\/(s.nh=false/\y=s.hi):=by
 unfold nC
 cases e1:s.nl<;>cases e2:s.nh<;>simp[uC]<;>grind
def MN{v:aA}{x:Rat}:vm [v] x=true↔v.ins x:=by
 unfold vm Cp Cp aA.ins;have h1:=CP x v.lo;have h2:=vN x v.hi;rw[decide_eq_true_eq]
 cases e1:v.nl<;>cases e2:v.nh<;>simp only[if_true,gM,if_false,false_or,true_or,h1,h2,and_true,true_and,show(0:Int)<1 from by decide,show(-1:Int)<0 from by decide]<;>grind
def IR{cuts:List Rat}{v:aA}(hl:v.nl=true\/v.lo∈cuts)(hh:v.nh=true\/v.hi∈cuts){x g:Rat}(ho: ∀u∈cuts,(u<x↔u<g)/\u≠x/\u≠g)(h:v.ins x):v.ins g:=by
 refine⟨?_,?_⟩
 ·rcases hl with e|e
  ·exact .inl e
  ·rcases h.1 with k|k
   ·exact .inl k
   ·exact .inr ((ho _ e).1.1 k)
 ·rcases hh with e|e
  ·exact .inl e
  ·rcases h.2 with k|k
   ·exact .inl k
   ·obtain⟨a,b,c⟩:=ho _ e
    right;by_cases q:v.hi<g
    ·have:=a.2 q;grind
    ·grind
def Rt{v w:aA}{t:Rat}(hv:v.ins t)(hw:w.ins t): ∃z∈xu 2 [v] [w],z.ins t:=by
 have hmem: ∀y,y∈l5 ([v]++[w])↔((v.nl=false/\y=v.lo)\/(v.nh=false/\y=v.hi))\/(w.nl=false/\y=w.lo)\/(w.nh=false/\y=w.hi):=fun y=>by
  show y∈nC (nC [] v) w↔_;rw[PP,PP];simp
 have hasc:=(MY ([v]++[w])).1;have h0: ∀u∈l5 ([v]++[w]),u≠t:=fun u hu e=>by
  subst e;rcases(hmem u).1 hu with(⟨a,b⟩|⟨a,b⟩)|⟨a,b⟩|⟨a,b⟩
  ·have:=hv.1.resolve_left (by rw[a];decide);grind
  ·have:=hv.2.resolve_left (by rw[a];decide);grind
  ·have:=hw.1.resolve_left (by rw[a];decide);grind
  ·have:=hw.2.resolve_left (by rw[a];decide);grind
 have l1:v.nl=true\/v.lo∈l5 ([v]++[w]):=by
  cases e:v.nl with
  |true=>exact .inl J
  |false=>exact .inr ((hmem _).2 (.inl (.inl ⟨e,J⟩)))
 have l2:v.nh=true\/v.hi∈l5 ([v]++[w]):=by
  cases e:v.nh with
  |true=>exact .inl J
  |false=>exact .inr ((hmem _).2 (.inl (.inr ⟨e,J⟩)))
 have l3:w.nl=true\/w.lo∈l5 ([v]++[w]):=by
  cases e:w.nl with
  |true=>exact .inl J
  |false=>exact .inr ((hmem _).2 (.inr (.inl ⟨e,J⟩)))
 have l4:w.nh=true\/w.hi∈l5 ([v]++[w]):=by
  cases e:w.nh with
  |true=>exact .inl J
  |false=>exact .inr ((hmem _).2 (.inr (.inr ⟨e,J⟩)))
 unfold xu EE;generalize l5 ([v]++[w])=cuts at*;obtain⟨i,hi,ho⟩:=Lr t hasc;have hord: ∀u∈cuts,(u<t↔u<(mi cuts).getD i 0)/\u≠t/\u≠(mi cuts).getD i 0:=fun u hu=>by
  obtain⟨j,hj,e⟩:=oM.1 hu;have e':cuts.getD j 0=u:=by rw[aX,aZ hj];exact e
  obtain⟨g1,g2⟩:=Se hasc hi hj;have:=ho j hj;rw[e'] at g1 g2 this;exact⟨this.trans g1.symm,h0 u hu,g2⟩
 have hlen:(mi cuts).length=cuts.length+1:=IF;refine L7 hasc (i:=i) ?_ ?_ (by rw[aK,hlen];exact aN _) (by rw[aK,hlen];omega)
 ·rw[aX,fS,aZ (by omega)]
  show MT 2 (vm [v] _) (vm [w] _)=true;have e:(mi cuts)[i]'(by omega)=(mi cuts).getD i 0:=by rw[aX,aZ (by omega)];rfl
  rw[e,MN.2 (IR l1 l2 hord hv),MN.2 (IR l3 l4 hord hw)];rfl
 ·unfold kC aA.ins
  dsimp only;refine⟨?_,?_⟩
  ·by_cases z:i=0
   ·left;simp[z]
   ·right;rw[if_neg z];exact(ho (i-1) (by omega)).2 (by omega)
  ·by_cases z:i=cuts.length
   ·left;simp[z]
   ·right
    rw[if_pos (by omega)];have a:=ho i (by omega);have b:=h0 (cuts.getD i 0) (by rw[aX,aZ (by omega)];exact cK _);have c: ¬cuts.getD i 0<t:=fun k=>by have:=a.1 k;omega
    grind
def JT{l m:ab}(h:crossI l m=0):l.cutK m=0:=by
 have e:l.cutK m= -(crossI l m:Rat):=by unfold ab.cutK ab.nor ab.dir aa.dot crossI;push_cast;grind
 rw[e,h];rfl
def YP{k:Rat}{side:Int}(hs:side=1\/side= -1)(h:0<(side:Rat)*k):k.num.sign=side:=by
 rcases hs with rfl|rfl
 ·exact(ij k).2 (by grind)
 ·have:k.num.sign<0:=(lw k).2 (by grind)
  have:=sK k.num;omega
def Wv{f:aH}{m:ab}{side:Int}(hs:side=1\/side= -1)(hl:f.l.Ne){t:Rat}(ht:f.v.ins t)(hm:0<(side:Rat)*m.value (f.l.at t)): ∃g∈m9 f m side,g.l=f.l/\g.v.ins t:=by
 have hv:=ow f.l m t;have ho: ¬uM f.l m=true:=fun e=>by
  unfold uM at e;rw[decide_eq_true_eq,fD] at e;rw[JT e.1,show f.l.cutC m=m.value f.l.base from J,e.2] at hv;rw[hv] at hm;grind
 unfold m9;rw[if_neg ho];have hh: ∃w,u' f.l m side=[w]/\w.ins t:=by
  unfold u';by_cases hc:crossI f.l m=0
  ·rw[if_pos hc]
   rw[JT hc,show f.l.cutC m=m.value f.l.base from J] at hv;rw[if_pos (YP hs (by rw[hv] at hm;grind))];exact⟨_,J,Yl t⟩
  ·rw[if_neg hc]
   have hp:=Th hl hc;have hK:f.l.cutK m≠0:=fun e=>by
    have e2:f.l.cutK m= -(crossI f.l m:Rat):=by unfold ab.cutK ab.nor ab.dir aa.dot crossI;push_cast;grind
    rw[e2] at e;have:(crossI f.l m:Rat)=0:=by grind
    exact hc (jK.1 this)
   generalize hx:ci f.l (kh f.l m)=x at*;have hv2: ∀u,m.value (f.l.at u)=f.l.cutK m*(u-x):=fun u=>by rw[ow,hp];grind
   rw[hv2] at hm;have e1:m.value (f.l.at (x+1))=f.l.cutK m:=by rw[hv2];grind
   rw[e1];generalize f.l.cutK m=K at*;by_cases q:K.num.sign=side
   ·rw[if_pos q]
    refine⟨_,J, .inr ?_, .inl J⟩;show x<t;rcases hs with rfl|rfl
    ·have:=(ij K).1 q
     have:=(vY this).1 (show 0<K*(t-x) by grind);grind
    ·have:=(lw K).1 (by omega)
     have:=(HA this).1 (show K*(t-x)<0 by grind);grind
   ·rw[if_neg q]
    refine⟨_,J, .inl J, .inr ?_⟩;show t<x;have h3:=di K;rcases hs with rfl|rfl
    ·have kn:K<0:=by
      rcases h3 with h|h|h
      ·exact absurd h hK
      ·exact absurd ((ij K).2 h) q
      ·exact h
     have:=(HA kn (b:=x-t)).1 (by grind);grind
    ·have kp:0<K:=by
      rcases h3 with h|h|h
      ·exact absurd h hK
      ·exact h
      ·exact absurd (by have:=(lw K).2 h;have:=sK K.num;omega) q
     have:=(vY kp (b:=x-t)).1 (by grind);grind
 obtain⟨w,e,hw⟩:=hh;rw[e];obtain⟨z,hz,hzt⟩:=Rt ht hw;exact⟨⟨f.l,z⟩,jQ hz,J,hzt⟩
def Df(E:List aH)(c:List ab)(l:List aH):Prop:= ∀e∈E,∀t,e.v.ins t->fh c (e.l.at t)-> ∃f∈l,f.l=e.l/\f.v.ins t
def Df.split{E l:List aH}{c:List ab}(h:Df E c l)(hE: ∀e∈E,e.l.Ne){m:ab}{side:Int}(hs:side=1\/side= -1){m':ab}(hm': ∀p,m'.value p=(side:Rat)*m.value p):Df E (c++[m']) (l.flatMap fun g=>m9 g m side):=fun e he t ht hin=>by
 obtain⟨h1,h2⟩:=Ht.1 hin;obtain⟨f,hf,ef,hft⟩:=h e he t ht h1;rw[hm'] at h2;obtain⟨g,hg,eg,hgt⟩:=Wv (f:=f) hs (by rw[ef];exact hE e he) hft (by rw[ef];exact h2);exact⟨g,cY.2 ⟨f,hf,hg⟩,by rw[eg,ef],hgt⟩
def HH{acc:aa->Bool}{E:List aH}(hE: ∀e∈E,e.l.Ne)(ha: ∀(c:List ab) (q p:aa),(∀e∈E,∀t,e.v.ins t-> ¬fh c (e.l.at t))->fh c q->fh c p->acc q=acc p): ∀{n:Nat} {l:List aH} {c:List ab} {p:aa},(∀f∈l,pp f)->Dh n l->(∀m∈c,m.ok)->Df E c l->fh c p->ji (pc acc n l c).lns p->(pc acc n l c).val p=acc p
 |n,[],c,p,_,_,hc,hcov,hp,_=>by
  have e:pc acc n [] c= .leaf (acc (wL c c)):=by cases n<;>rfl
  rw[e,Tr.val];exact ha c _ _ (fun e he t ht hin=>by obtain⟨f,hf,_⟩:=hcov e he t ht hin;cases hf) (UO hc ((Zt hc).2 ⟨p,hp⟩)) hp
 |0,f::t,_,_,_,hf,_,_,_,_=>by
  obtain⟨K,hK,hs⟩:=hf;obtain⟨m,hm,_⟩:=hs f aQ;have:K=[]:=cV (by omega);rw[this] at hm;cases hm
 |n+1,f::t,c,p,hok,hf,hc,hcov,hp,hoff=>by
  have fo:=hok f aQ;have hok': ∀side,∀g∈(f::t).flatMap fun g=>m9 g f.l side,pp g:=fun side g hg=>by
   obtain⟨q,hq,hg⟩:=cY.1 hg;exact(NP (hok q hq) fo.lb g hg).1
  rw[pc] at hoff⊢;by_cases q:0<f.l.value p
  ·rw[Tr.val_pos q]
   exact HH hE ha (hok' 1) (hf.split hok) (J5 hc fo.ok) (hcov.split hE (.inl J) fun p=>by grind) (Ht.2 ⟨hp,q⟩) hoff.x
  ·rw[Tr.val_neg q]
   have:=hoff.l;exact HH hE ha (hok' (-1)) (hf.split hok) (J5 hc fo.ok.rev) (hcov.split hE (.inr J) fun p=>by rw[nA];grind) (Ht.2 ⟨hp,by rw[nA];grind⟩) hoff.y
def T0{rs:List (List ZP)}{fill:Int}(hr: ∀r∈rs,b9 r){p:aa}(ho:ji (rE rs fill).lns p):(gg rs fill).val p=dP rs fill p:=by
 obtain⟨h1,h2⟩:=mF hr;have hok:(rE rs fill).all ab.ok:=CW fun f hf=>(h2 f hf).ok;unfold gg;rw[Tr.val_restrict _ _ _ hok ip.nil (fun s hs=>by cases hs) ho];unfold rE at ho⊢;refine HH (E:=bO rs) (fun e he=>(h2 e he).ok.ne) (fun c q p hno hq hp=>VP hr hno hq hp) h2 ?_ (fun m hm=>by cases hm) (fun e he t ht _=>⟨e,he,J,ht⟩) (fun m hm=>by cases hm) ho;exact⟨(bO rs).map (·.l),by rw[aK];exact aN _,fun f hf=>⟨f.l,jQ hf, .inl J⟩⟩
structure gD where
 ax:Rat
 ay:Rat
 ac:Rat
def gD.ev(g:gD)(p:aa):Rat:=g.ax*p.x+g.ay*p.y+g.ac
def gD.li(g:gD)(u:aa):Rat:=g.ax*u.x+g.ay*u.y
def gD.mov(g:gD)(p u:aa)(d:Rat):g.ev (aD p u d)=g.ev p+d*g.li u:=by
 unfold gD.ev gD.li aD;dsimp only;grind
def gD.seg(g:gD)(u w:aa)(s:Rat):g.li (aC u w s)=g.li u+s*(g.li w-g.li u):=by
 unfold gD.li aC;dsimp only;grind
def gz(a b x:aa):Prop:= ∃s:Rat,0<=s/\s<=1/\x=aC a b s
def HG{x y:Rat}(h: ¬(x=0/\y=0)):0<x*x+y*y:=by
 have h1:=qm x;have h2:=qm y;rcases di (x*x+y*y) with k|k|k
 ·exfalso
  refine h ⟨?_,?_⟩
  ·have:x*x=0:=by grind
   exact(cW.1 this).elim id id
  ·have:y*y=0:=by grind
   exact(cW.1 this).elim id id
 ·exact k
 ·grind
def Jf{a b:aa}(h:a≠b): ¬(b.x-a.x=0/\b.y-a.y=0):=fun k=>h (by
 cases a;cases b
 simp only[aa.mk.injEq] at*;constructor<;>grind)
def TS{a b p:aa}(hab:a≠b)(h: ¬gz a b p): ∃g:gD,0<g.ev p/\ ∀x,gz a b x->g.ev x<=0:=by
 have hN:=HG (Jf hab);obtain⟨dx,hdx⟩: ∃dx,dx=b.x-a.x:=⟨_,rfl⟩;obtain⟨dy,hdy⟩: ∃dy,dy=b.y-a.y:=⟨_,rfl⟩;rw[<-hdx,<-hdy] at hN;have on: ∀x,gz a b x-> ∃s:Rat,0<=s/\s<=1/\x.x=a.x+s*dx/\x.y=a.y+s*dy:=fun x ⟨s,s0,s1,e⟩=>⟨s,s0,s1,by rw[e,hdx];rfl,by rw[e,hdy];rfl⟩;rcases di (dx*(p.y-a.y)-dy*(p.x-a.x)) with k|k|k
 ·-- on the line
  obtain⟨T,hT⟩: ∃T,T=(p.x-a.x)*dx+(p.y-a.y)*dy:=⟨_,rfl⟩;by_cases t0:T<0
  ·refine⟨⟨-dx, -dy,a.x*dx+a.y*dy⟩,by unfold gD.ev;dsimp only;grind,fun x hx=>?_⟩
   obtain⟨s,s0,s1,e1,e2⟩:=on x hx;have:=bG s0 (cS hN);unfold gD.ev;dsimp only;rw[e1,e2];grind
  ·by_cases t1:dx*dx+dy*dy<T
   ·refine⟨⟨dx,dy, -(a.x*dx+a.y*dy)-(dx*dx+dy*dy)⟩,by unfold gD.ev;dsimp only;grind,fun x hx=>?_⟩
    obtain⟨s,s0,s1,e1,e2⟩:=on x hx;have:=bG (show 0<=1-s by grind) (cS hN);unfold gD.ev;dsimp only;rw[e1,e2];grind
   ·exfalso
    refine h ⟨T/(dx*dx+dy*dy),?_,?_,?_⟩
    ·have e:T/(dx*dx+dy*dy)*(dx*dx+dy*dy)=T:=by generalize dx*dx+dy*dy=N at*;grind
     exact(jD hN).1 (by rw[e];grind)
    ·have e:T/(dx*dx+dy*dy)*(dx*dx+dy*dy)=T:=by generalize dx*dx+dy*dy=N at*;grind
     have:=(jD (s:=1-T/(dx*dx+dy*dy)) hN).1 (by
      generalize T/(dx*dx+dy*dy)=q at*;generalize dx*dx+dy*dy=N at*;have:(1-q)*N=N-q*N:=by grind
      rw[this,e];grind)
     grind
    ·have e1:(p.x-a.x)*(dx*dx+dy*dy)=T*dx:=by rw[hT];grind
     have e2:(p.y-a.y)*(dx*dx+dy*dy)=T*dy:=by rw[hT];grind
     unfold aC;rw[<-hdx,<-hdy];generalize dx*dx+dy*dy=N at*
     cases p
     simp only[aa.mk.injEq] at*;constructor<;>grind
 ·refine⟨⟨-dy,dx,dy*a.x-dx*a.y⟩,by unfold gD.ev;dsimp only;grind,fun x hx=>?_⟩
  obtain⟨s,s0,s1,e1,e2⟩:=on x hx;unfold gD.ev;dsimp only;rw[e1,e2];grind
 ·refine⟨⟨dy, -dx, -(dy*a.x-dx*a.y)⟩,by unfold gD.ev;dsimp only;grind,fun x hx=>?_⟩
  obtain⟨s,s0,s1,e1,e2⟩:=on x hx;unfold gD.ev;dsimp only;rw[e1,e2];grind
def XE{g:gD}{p:aa}(v w:aa)(h:0<g.ev p): ∃e:Rat,0<e/\ ∀d s,0<=d->d<=e->0<=s->s<=1->0<g.ev (aD p (aC v w s) d):=by
 have hK: ∃K:Rat,0<K/\ -K<=g.li v/\ -K<=g.li w:=by
  generalize g.li v=a;generalize g.li w=b;refine⟨1+(if 0<=a then a else-a)+(if 0<=b then b else-b),?_,?_,?_⟩<;>split<;>split<;>grind
 obtain⟨K,k0,k1,k2⟩:=hK;generalize hz:g.ev p=z at*;have e1:z/(2*K)*(2*K)=z:=by grind
 refine⟨z/(2*K),(fk (k:=2*K) (by grind)).1 (by rw[e1];exact h),fun d s d0 d1 s0 s1=>?_⟩;generalize z/(2*K)=e at*;rw[gD.mov,hz,gD.seg];generalize g.li v=a at*;generalize g.li w=b at*;have h1:=bG (show 0<=1-s by grind) (show 0<=a+K by grind);have h2:=bG s0 (show 0<=b+K by grind);have h3:0<=a+s*(b-a)+K:=by grind
 have h4:=bG d0 h3;have h5:=bG (show 0<=e-d by grind) (cS k0);grind
def Bi: ∀{E:List (aa×aa)},(∀f∈E,f.1≠f.2)-> ∀(p v w:aa),∃e:Rat,0<e/\ ∀f∈E,¬gz f.1 f.2 p-> ∀d s,0<=d->d<=e->0<=s->s<=1-> ¬gz f.1 f.2 (aD p (aC v w s) d)
 |[],_,p,v,w=>⟨1,by decide,fun f hf=>by cases hf⟩
 |f::E,hE,p,v,w=>by
  obtain⟨e1,a1,b1⟩:=Bi (E:=E) (fun f hf=>hE f (aJ _ hf)) p v w;by_cases hp:gz f.1 f.2 p
  ·refine⟨e1,a1,fun g hg hn=>?_⟩
   rcases aU.1 hg with rfl|hg
   ·exact absurd hp hn
   ·exact b1 g hg hn
  ·obtain⟨g,g0,g1⟩:=TS (hE f aQ) hp
   obtain⟨e2,a2,b2⟩:=XE v w g0;obtain⟨e,c1,c2,c3⟩:=min2 a1 a2;refine⟨e,c1,fun h hh hn d s d0 d1 s0 s1=>?_⟩;rcases aU.1 hh with rfl|hh
   ·intro ho
    have:=g1 _ ho;have:=b2 d s d0 (by grind) s0 s1;grind
   ·exact b1 h hh hn d s d0 (by grind) s0 s1
def CJ(a b p r:aa):Prop:=gz a b p/\((r=⟨b.x-p.x,b.y-p.y⟩/\b≠p)\/(r=⟨a.x-p.x,a.y-p.y⟩/\a≠p))
def qH(r u:aa):Prop:= ∃k:Rat,0<k/\u=⟨k*r.x,k*r.y⟩
def div_pos{a b:Rat}(ha:0<a)(hb:0<b):0<a/b:=by
 have e:a/b*b=a:=by grind
 exact(fk hb).1 (by rw[e];exact ha)
def OF{a b p u:aa}{d:Rat}(hab:a≠b)(hd:0<d)(hu:u≠⟨0,0⟩)(h1:gz a b p)(h2:gz a b (aD p u d)): ∃r,CJ a b p r/\qH r u:=by
 have hN:=Jf hab;obtain⟨t,t0,t1,et⟩:=id h1;obtain⟨s,s0,s1,es⟩:=h2;obtain⟨dx,hdx⟩: ∃dx,dx=b.x-a.x:=⟨_,rfl⟩;obtain⟨dy,hdy⟩: ∃dy,dy=b.y-a.y:=⟨_,rfl⟩;rw[<-hdx,<-hdy] at hN;have px:p.x=a.x+t*dx:=by rw[et,hdx];rfl
 have py:p.y=a.y+t*dy:=by rw[et,hdy];rfl
 have ux:d*u.x=(s-t)*dx:=by
  have:=congrArg aa.x es;unfold aD aC at this;dsimp only at this;rw[<-hdx] at this;grind
 have uy:d*u.y=(s-t)*dy:=by
  have:=congrArg aa.y es;unfold aD aC at this;dsimp only at this;rw[<-hdy] at this;grind
 have bx:b.x-p.x=(1-t)*dx:=by rw[px];grind
 have bY:b.y-p.y=(1-t)*dy:=by rw[py];grind
 have ax:a.x-p.x= -t*dx:=by rw[px];grind
 have aY:a.y-p.y= -t*dy:=by rw[py];grind
 rcases di (s-t) with k|k|k
 ·exfalso
  rw[k] at ux uy;refine hu ?_;have d0:d≠0:=by grind
  have z1:u.x=0:=(cW.1 (show d*u.x=0 by rw[ux];grind)).resolve_left d0;have z2:u.y=0:=(cW.1 (show d*u.y=0 by rw[uy];grind)).resolve_left d0
  cases u
  simp only[aa.mk.injEq] at*;exact⟨z1,z2⟩
 ·have q:0<1-t:=by grind
  refine⟨_,⟨h1, .inl ⟨J,fun e=>hN ?_⟩⟩,(s-t)/(d*(1-t)),div_pos k (bt hd q),?_⟩
  ·have z1:(1-t)*dx=0:=by rw[<-bx,e];grind
   have z2:(1-t)*dy=0:=by rw[<-bY,e];grind
   exact⟨(cW.1 z1).resolve_left (by grind),(cW.1 z2).resolve_left (by grind)⟩
  ·have hq:=bt hd q
   have e:(s-t)/(d*(1-t))*(d*(1-t))=s-t:=by generalize d*(1-t)=m at*;grind
   rw[bx,bY];generalize (s-t)/(d*(1-t))=m at*;have d0:d≠0:=by grind
   have e1:d*(u.x-m*((1-t)*dx))=0:=by grind
   have e2:d*(u.y-m*((1-t)*dy))=0:=by grind
   have f1:=(cW.1 e1).resolve_left d0;have f2:=(cW.1 e2).resolve_left d0
   cases u
   simp only[aa.mk.injEq] at*;constructor<;>grind
 ·have q:0<t:=by grind
  refine⟨_,⟨h1, .inr ⟨J,fun e=>hN ?_⟩⟩,(t-s)/(d*t),div_pos (by grind) (bt hd q),?_⟩
  ·have z1:t*dx=0:=by have:=ax;rw[e] at this;grind
   have z2:t*dy=0:=by have:=aY;rw[e] at this;grind
   exact⟨(cW.1 z1).resolve_left (by grind),(cW.1 z2).resolve_left (by grind)⟩
  ·have hq:=bt hd q
   have e:(t-s)/(d*t)*(d*t)=t-s:=by generalize d*t=m at*;grind
   rw[ax,aY];generalize (t-s)/(d*t)=m at*;have d0:d≠0:=by grind
   have e1:d*(u.x-m*(-t*dx))=0:=by grind
   have e2:d*(u.y-m*(-t*dy))=0:=by grind
   have f1:=(cW.1 e1).resolve_left d0;have f2:=(cW.1 e2).resolve_left d0
   cases u
   simp only[aa.mk.injEq] at*;constructor<;>grind
def gF(E:List (aa×aa))(p u:aa):Prop:=u≠⟨0,0⟩/\ ∀f∈E,∀r,CJ f.1 f.2 p r-> ¬qH r u
def YY(p v w:aa)(d t:Rat):aC (aD p v d) (aD p w d) t=aD p (aC v w t) d:=by
 unfold aC aD;simp only[aa.mk.injEq];constructor<;>grind
def De(p v:aa)(d d' t:Rat):aC (aD p v d) (aD p v d') t=aD p v (d+t*(d'-d)):=by
 unfold aC aD;simp only[aa.mk.injEq];constructor<;>grind
def yh(v:aa)(s:Rat):aC v v s=v:=by
 unfold aC;cases v;simp only[aa.mk.injEq];constructor<;>grind
def Ia{E:List (aa×aa)}(hE: ∀f∈E,f.1≠f.2){p v w:aa}{e:Rat}(he: ∀f∈E,¬gz f.1 f.2 p-> ∀d s,0<=d->d<=e->0<=s->s<=1-> ¬gz f.1 f.2 (aD p (aC v w s) d)){f:aa×aa}(hf:f∈E){d s:Rat}(d0:0<d)(d1:d<=e)(s0:0<=s)(s1:s<=1)(hu:gF E p (aC v w s)): ¬gz f.1 f.2 (aD p (aC v w s) d):=fun ho=>by
 by_cases hp:gz f.1 f.2 p
 ·obtain⟨r,r1,r2⟩:=OF (hE f hf) d0 hu.1 hp ho
  exact hu.2 f hf r r1 r2
 ·exact he f hf hp d s (cS d0) d1 s0 s1 ho
def UI{E:List (aa×aa)}(hE: ∀f∈E,f.1≠f.2){p v w:aa}(hu: ∀s,0<=s->s<=1->gF E p (aC v w s)): ∃e:Rat,0<e/\ ∀d,0<d->d<=e-> ∀f∈E,om f.1 f.2 (aD p v d) (aD p w d):=by
 obtain⟨e,e0,he⟩:=Bi hE p v w;refine⟨e,e0,fun d d0 d1 f hf s t s0 s1 t0 t1 h=>?_⟩;rw[YY] at h;exact Ia hE he hf d0 d1 t0 t1 (hu t t0 t1) ⟨s,s0,s1,h.symm⟩
def SF{E:List (aa×aa)}(hE: ∀f∈E,f.1≠f.2){p v:aa}(hu:gF E p v): ∃e:Rat,0<e/\ ∀d d',0<d->d<=e->0<d'->d'<=e-> ∀f∈E,om f.1 f.2 (aD p v d) (aD p v d'):=by
 obtain⟨e,e0,he⟩:=Bi hE p v v;refine⟨e,e0,fun d d' d0 d1 e1 e2 f hf s t s0 s1 t0 t1 h=>?_⟩;rw[De] at h;have h1:=bG (show 0<=1-t by grind) (show 0<=d by grind);have h2:=bG t0 (show 0<=d' by grind);have h3:=bG (show 0<=1-t by grind) (show 0<=e-d by grind);have h4:=bG t0 (show 0<=e-d' by grind);have p0:0<d+t*(d'-d):=by
  rcases di t with k|k|k
  ·rw[k];grind
  ·have:=bt k e1;grind
  ·grind
 have p1:d+t*(d'-d)<=e:=by grind
 have:=Ia hE he hf (s:=0) p0 p1 (by decide) (by decide) (by rw[yh];exact hu);rw[yh] at this;exact this ⟨s,s0,s1,h.symm⟩
def sf(r:List ZP):List (aa×aa):=(List.range r.length).map fun k=>((r.getD k (0,0)).q,(c6 r k).q)
def ER(rs:List (List ZP)):List (aa×aa):=rs.flatMap sf
def wH{a b:ZP}(h:a.q=b.q):a=b:=by
 have hx:(a.1:Rat)=(b.1:Rat):=congrArg aa.x h;have hy:(a.2:Rat)=(b.2:Rat):=congrArg aa.y h;exact Prod.ext (by exact_mod_cast hx) (by exact_mod_cast hy)
def Bp{rs:List (List ZP)}(hr: ∀r∈rs,b9 r): ∀f∈ER rs,f.1≠f.2:=fun f hf=>by
 obtain⟨r,h1,h2⟩:=cY.1 hf;obtain⟨k,hk,rfl⟩:=bZ.1 h2;exact fun e=>(hr r h1).ne k (fN.1 hk) (wH e)
def A4{rs:List (List ZP)}{fill:Int}{q p:aa}(h: ∀f∈ER rs,om f.1 f.2 q p):dP rs fill p=dP rs fill q:=by
 have key: ∀(rs:List (List ZP)),(∀f∈ER rs,om f.1 f.2 q p)-> ∀n:Int,rs.foldl (fun n r=>n+il r p) n=rs.foldl (fun n r=>n+il r q) n:=by
  intro rs
  induction rs with
  |nil=>intro _ n;rfl
  |cons r t ih=>
   intro h n;have hc:tS r q p:=fun k hk=>h _ (cY.2 ⟨r,aQ,bZ.2 ⟨k,fN.2 hk,J⟩⟩);rw[fY,fY,OG hc];exact ih (fun f hf=>h f (by obtain⟨s,s1,s2⟩:=cY.1 hf;exact cY.2 ⟨s,aJ _ s1,s2⟩)) _
 unfold dP;rw[key rs h]
def kz(rs:List (List ZP))(fill:Int)(p v:aa)(b:Bool):Prop:= ∃e:Rat,0<e/\ ∀d,0<d->d<=e->dP rs fill (aD p v d)=b
section
variable {rs:List (List ZP)} {fill:Int} {p v w:aa} {b c:Bool}
def E5(hr: ∀r∈rs,b9 r)(hv:gF (ER rs) p v): ∃b,kz rs fill p v b:=by
 obtain⟨e,e0,he⟩:=SF (Bp hr) hv;exact⟨_,e,e0,fun d d0 d1=>A4 (fill:=fill) (he e d e0 dR d0 d1)⟩
def kz.uniq(h:kz rs fill p v b)(k:kz rs fill p v c):b=c:=by
 obtain⟨e1,a1,b1⟩:=h;obtain⟨e2,a2,b2⟩:=k;obtain⟨e,c1,c2,c3⟩:=min2 a1 a2;rw[<-b1 e c1 c2,<-b2 e c1 c3]
def zc(hr: ∀r∈rs,b9 r)(hu: ∀s,0<=s->s<=1->gF (ER rs) p (aC v w s))(h:kz rs fill p v b):kz rs fill p w b:=by
 obtain⟨e1,a1,b1⟩:=UI (Bp hr) hu;obtain⟨e2,a2,b2⟩:=h;obtain⟨e,c1,c2,c3⟩:=min2 a1 a2;exact⟨e,c1,fun d d0 d1=>by rw[A4 (fill:=fill) (b1 d d0 (by grind)),b2 d d0 (by grind)]⟩
end
def Pe{ds:List aa}(h:ds.Pairwise bv){i:Nat}{s w:aa}(hs:ds[i]? =some s)(hw:ds[(i+1)%ds.length]? =some w):me ds s w:=by
 obtain⟨hi,rfl⟩:=aM.1 hs;obtain⟨hj,rfl⟩:=aM.1 hw;have hp:=iU.1 h;by_cases e:i+1<ds.length
 ·have em:(i+1)%ds.length=i+1:=dT e
  left;simp only[em];refine⟨hp i (i+1) hi e (by omega),fun d hd=>?_⟩;obtain⟨j,hj,rfl⟩:=oM.1 hd;rintro ⟨a,b⟩;rcases oW j i with k|k|k
  ·exact x4 a (hp j i hj hi k)
  ·subst k;exact tF _ a
  ·by_cases z:j=i+1
   ·subst z;exact tF _ b
   ·exact x4 b (hp (i+1) j e hj (by omega))
 ·have ei:i+1=ds.length:=by omega
  have em:(i+1)%ds.length=0:=by rw[ei,Nat.mod_self]
  right;simp only[em];refine⟨fun d hd a=>?_,fun d hd b=>?_⟩
  ·obtain⟨j,hj,rfl⟩:=oM.1 hd
   by_cases k:j=i
   ·subst k;exact tF _ a
   ·exact x4 a (hp j i hj hi (by omega))
  ·obtain⟨j,hj,rfl⟩:=oM.1 hd
   by_cases k:j=0
   ·subst k;exact tF _ b
   ·exact x4 b (hp 0 j (by omega) hj (by omega))
def Sp{s u w:aa}(hs:s.half≠0)(hw:w.half≠0)(hu:u.half≠0)(h1:0<s.cross u)(h2:0<u.cross w)(h3:0<s.cross w)(e:s.half=w.half):u.half=s.half:=by
 rcases e8 hs with k|k
 ·rw[k] at e⊢
  have a:=ng.1 k;have b:=ng.1 e.symm;rw[ng];unfold aa.cross at*
  -- u is between s and w
  have i1:(s.x*w.y-s.y*w.x)*u.y=(u.x*w.y-u.y*w.x)*s.y+(s.x*u.y-s.y*u.x)*w.y:=by grind
  have i2:(s.x*w.y-s.y*w.x)*u.x=(u.x*w.y-u.y*w.x)*s.x+(s.x*u.y-s.y*u.x)*w.x:=by grind
  have y0:0<=s.y:=by grind
  have y1:0<=w.y:=by grind
  have m1:=bG (cS h2) y0;have m2:=bG (cS h1) y1;have uy:0<=u.y:=(jD h3).1 (by grind);by_cases z:0<u.y
  ·exact .inl z
  ·right
   have z0:u.y=0:=by grind
   have i3:(u.x*w.y-u.y*w.x)*s.y+(s.x*u.y-s.y*u.x)*w.y=0:=by rw[<-i1,z0];grind
   have A0:(u.x*w.y-u.y*w.x)*s.y=0:=by generalize (u.x*w.y-u.y*w.x)*s.y=A at*;generalize (s.x*u.y-s.y*u.x)*w.y=B at*;grind
   have B0:(s.x*u.y-s.y*u.x)*w.y=0:=by grind
   have n1:s.y=0:=by
    rcases cW.1 A0 with q|q
    ·grind
    ·exact q
   have n2:w.y=0:=by
    rcases cW.1 B0 with q|q
    ·grind
    ·exact q
   rw[n1,n2] at h3;grind
 ·rw[k] at e⊢
  have a:=pg.1 k;have b:=pg.1 e.symm;rw[pg];unfold aa.cross at*;have i1:(s.x*w.y-s.y*w.x)*u.y=(u.x*w.y-u.y*w.x)*s.y+(s.x*u.y-s.y*u.x)*w.y:=by grind
  have y0:0<= -s.y:=by grind
  have y1:0<= -w.y:=by grind
  have m1:=bG (cS h2) y0;have m2:=bG (cS h1) y1;have uy:0<= -u.y:=(jD h3).1 (by grind);by_cases z:u.y<0
  ·exact .inl z
  ·right
   have z0:u.y=0:=by grind
   have i3:(u.x*w.y-u.y*w.x)*s.y+(s.x*u.y-s.y*u.x)*w.y=0:=by rw[<-i1,z0];grind
   have m3:(u.x*w.y-u.y*w.x)* -s.y= -((u.x*w.y-u.y*w.x)*s.y):=by grind
   have m4:(s.x*u.y-s.y*u.x)* -w.y= -((s.x*u.y-s.y*u.x)*w.y):=by grind
   rw[m3] at m1;rw[m4] at m2;have A0:(u.x*w.y-u.y*w.x)*s.y=0:=by generalize (u.x*w.y-u.y*w.x)*s.y=A at*;generalize (s.x*u.y-s.y*u.x)*w.y=B at*;grind
   have B0:(s.x*u.y-s.y*u.x)*w.y=0:=by grind
   have n1:s.y=0:=by
    rcases cW.1 A0 with q|q
    ·grind
    ·exact q
   have n2:w.y=0:=by
    rcases cW.1 B0 with q|q
    ·grind
    ·exact q
   rw[n1,n2] at h3;grind
def O8{ds:List aa}(nz: ∀d∈ds,d.half≠0){s u w:aa}(hs:s∈ds)(hu:u∈ds)(hw:w∈ds)(hn:me ds s w)(h1:0<s.cross u)(h2:0<u.cross w)(h3:0<s.cross w):False:=by
 have zs:=e8 (nz s hs);have zu:=e8 (nz u hu);have zw:=e8 (nz w hw);rcases hn with⟨b,no⟩|⟨n1,n2⟩
 ·by_cases e:s.half=w.half
  ·have e2:=Sp (nz s hs) (nz w hw) (nz u hu) h1 h2 h3 e
   exact no u hu ⟨.inr ⟨e2.symm,h1⟩, .inr ⟨by omega,h2⟩⟩
  ·have e1:s.half=1/\w.half=2:=by
    rcases b with b|⟨b,_⟩
    ·omega
    ·exact absurd b e
   rcases zu with k|k
   ·exact no u hu ⟨.inr ⟨by omega,h1⟩, .inl (by omega)⟩
   ·exact no u hu ⟨.inl (by omega), .inr ⟨by omega,h2⟩⟩
 ·have a:=n1 u hu
  have b:=n2 u hu;have a1: ¬s.half<u.half:=fun k=>a (.inl k);have a2:s.half≠u.half:=fun k=>a (.inr ⟨k,h1⟩);have b1: ¬u.half<w.half:=fun k=>b (.inl k);have b2:u.half≠w.half:=fun k=>b (.inr ⟨k,h2⟩);omega
def M1{u w n:aa}(hu:u.half≠0)(hw:w.half≠0)(hn:n.half≠0)(e1:w.half=u.half)(e2:u.half=n.half)(h1:0<u.cross n)(h2: ¬0<u.cross w):0<w.cross n:=by
 by_cases k:0<w.cross u
 ·have b1:bv w u:= .inr ⟨e1,k⟩
  have b2:bv u n:= .inr ⟨e2,h1⟩;rcases wE b1 b2 with q|⟨_,q⟩
  ·omega
  ·exact q
 ·have hz:w.cross u=0:=by rw[d5] at k⊢;grind
  by_cases q:0<w.cross n
  ·exact q
  ·exfalso
   have b2:bv u n:= .inr ⟨e2,h1⟩;by_cases q2:0<n.cross w
   ·have b3:bv n w:= .inr ⟨by omega,q2⟩
    rcases wE b2 b3 with z|⟨_,z⟩
    ·omega
    ·exact h2 z
   ·have hz2:w.cross n=0:=by rw[d5] at q2;grind
    rcases e8 hw with hh|hh
    ·have a:=ng.1 hh
     have b:=ng.1 (show u.half=1 by omega);have c:=ng.1 (show n.half=1 by omega);unfold aa.cross at*;have j1:w.x*(u.x*n.y-u.y*n.x)=0:=by grind
     have j2:w.y*(u.x*n.y-u.y*n.x)=0:=by grind
     rcases cW.1 j1 with z|z
     ·rcases cW.1 j2 with z2|z2<;>grind
     ·grind
    ·have a:=pg.1 hh
     unfold aa.cross at*;have j1:w.x*(u.x*n.y-u.y*n.x)=0:=by grind
     have j2:w.y*(u.x*n.y-u.y*n.x)=0:=by grind
     rcases cW.1 j1 with z|z
     ·rcases cW.1 j2 with z2|z2<;>grind
     ·grind
def JR{ds:List aa}(nz: ∀d∈ds,d.half≠0){s u w:aa}(hs:s∈ds)(hu:u∈ds)(hw:w∈ds)(hn:me ds s w)(h1:0<s.cross u):0<s.cross w:=by
 have zs:=e8 (nz s hs);have zu:=e8 (nz u hu);have zw:=e8 (nz w hw);have hneg:=mB (nz s hs);have hnz:(ba s).half≠0:=by omega
 have e1:u.cross (ba s)=s.cross u:=by rw[je,d5 s u];grind
 have e2:w.cross (ba s)=s.cross w:=by rw[je,d5 s w];grind
 rcases hn with⟨b,no⟩|⟨n1,n2⟩
 ·by_cases e:s.half=w.half
  ·rcases b with b|⟨_,b⟩
   ·omega
   ·exact b
  ·have e3:s.half=1/\w.half=2:=by
    rcases b with b|⟨b,_⟩
    ·omega
    ·exact absurd b e
   have nu:=no u hu;rcases zu with k|k
   ·exact absurd ⟨.inr ⟨by omega,h1⟩, .inl (by omega)⟩ nu
   ·rw[<-e2]
    exact M1 (nz u hu) (nz w hw) hnz (by omega) (by omega) (by rw[e1];exact h1) fun q=>nu ⟨.inl (by omega), .inr ⟨by omega,q⟩⟩
 ·have a:=n1 u hu
  have b:=n2 u hu;have a1: ¬s.half<u.half:=fun k=>a (.inl k);have a2:s.half≠u.half:=fun k=>a (.inr ⟨k,h1⟩);have b1: ¬u.half<w.half:=fun k=>b (.inl k);rw[<-e2];exact M1 (nz u hu) (nz w hw) hnz (by omega) (by omega) (by rw[e1];exact h1) fun q=>b (.inr ⟨by omega,q⟩)
def pb(ds:List aa)(u:aa):Prop:=u≠⟨0,0⟩/\ ∀r∈ds,¬qH r u
def yl(ds:List aa)(v w:aa):Prop:= ∀s,0<=s->s<=1->pb ds (aC v w s)
def Ix{α:Type}{R:α->α->Prop}(irr: ∀a,¬R a a)(tr: ∀a b c,R a b->R b c->R a c): ∀{l:List α},l≠[]-> ∃m∈l,∀y∈l,¬R y m
 |[],h=>absurd J h
 |[a],_=>⟨a,aQ,fun y hy=>by rw[aV.1 hy];exact irr a⟩
 |a::b::t,_=>by
  obtain⟨m,hm,h⟩:=Ix irr tr (l:=b::t) (by simp);by_cases k:R a m
  ·refine⟨a,aQ,fun y hy=>?_⟩
   rcases aU.1 hy with rfl|hy
   ·exact irr _
   ·exact fun q=>h y hy (tr _ _ _ q k)
  ·refine⟨m,aJ _ hm,fun y hy=>?_⟩
   rcases aU.1 hy with rfl|hy
   ·exact k
   ·exact h y hy
def jy(x y:aa):Nat:=if x.cross y<0 then 1 else if 0<x.cross y then 3 else if 0<x.dot y then 0 else 2
def Dc(x y z:aa):Prop:=jy x y<jy x z\/(jy x y=jy x z/\(jy x y=1\/jy x y=3)/\0<z.cross y)
def uE{x y:aa}:jy x y=1↔x.cross y<0:=by
 unfold jy;split
 ·simp_all
 ·split
  ·simp_all
  ·split<;>simp_all
def Cq{x y:aa}:jy x y=3↔0<x.cross y:=by
 unfold jy;split
 ·rename_i h;simp;grind
 ·split
  ·simp_all
  ·split<;>simp_all
def JP(x z y t:aa):x.cross z*t.cross y=x.cross t*z.cross y+x.cross y*t.cross z:=by unfold aa.cross;grind
def UY(x a:aa): ¬Dc x a a:=by
 rintro (h|⟨_,_,h⟩)
 ·omega
 ·rw[AQ] at h;grind
def Y6(x a b c:aa)(h:Dc x a b)(k:Dc x b c):Dc x a c:=by
 rcases h with h|⟨h1,h2,h3⟩
 ·rcases k with k|⟨k1,k2,k3⟩
  ·exact .inl (by omega)
  ·exact .inl (by omega)
 ·rcases k with k|⟨k1,k2,k3⟩
  ·exact .inl (by omega)
  ·refine .inr ⟨by omega,h2,?_⟩
   have e:=JP x b a c;rcases h2 with q|q
   ·have a1:=uE.1 q
    have b1:=uE.1 (h1▸q);have c1:=uE.1 (k1▸h1▸q);have m1:=bt (show 0< -x.cross c by grind) h3;have m2:=bt (show 0< -x.cross a by grind) k3;exact(fk (k:= -x.cross b) (by grind)).1 (by grind)
   ·have a1:=Cq.1 q
    have b1:=Cq.1 (h1▸q);have c1:=Cq.1 (k1▸h1▸q);have m1:=bt c1 h3;have m2:=bt a1 k3;exact(fk (k:=x.cross b) b1).1 (by grind)
def QW{s w x:aa}(h1:0<s.cross w)(h2:0<s.cross x)(h3:x.cross w=0):qH w x:=by
 refine⟨s.cross x/s.cross w,div_pos h2 h1,?_⟩;have e:s.cross x/s.cross w*s.cross w=s.cross x:=by generalize s.cross w=m at*;grind
 have e1:x.x*s.cross w=w.x*s.cross x:=by unfold aa.cross at*;grind
 have e2:x.y*s.cross w=w.y*s.cross x:=by unfold aa.cross at*;grind
 generalize s.cross x/s.cross w=k at*;generalize s.cross w=m at*;generalize s.cross x=n at*;have f1:m*(x.x-k*w.x)=0:=by grind
 have f2:m*(x.y-k*w.y)=0:=by grind
 have m0:m≠0:=by grind
 have g1:=(cW.1 f1).resolve_left m0;have g2:=(cW.1 f2).resolve_left m0
 cases x
 simp only[aa.mk.injEq] at*;constructor<;>grind
def yw(s v w:aa)(t:Rat):s.cross (aC v w t)=s.cross v+t*(s.cross w-s.cross v)/\(aC v w t).cross s=v.cross s+t*(w.cross s-v.cross s):=by
 unfold aa.cross aC;dsimp only;constructor<;>grind
def sk{r u:aa}(h:qH r u)(s:aa):(0<s.cross u->0<s.cross r)/\(0<u.cross s->0<r.cross s)/\(s.cross u<0->s.cross r<0):=by
 obtain⟨k,k0,rfl⟩:=h;have e1:s.cross ⟨k*r.x,k*r.y⟩=s.cross r*k:=by unfold aa.cross;grind
 have e2:aa.cross ⟨k*r.x,k*r.y⟩ s=r.cross s*k:=by unfold aa.cross;grind
 rw[e1,e2];refine⟨(fk k0).1,(fk k0).1,fun h=>?_⟩;have:=(fk (s:= -s.cross r) k0).1 (by grind);grind
def BE{s u:aa}(h:s.cross u≠0):u≠⟨0,0⟩:=fun e=>h (by rw[e];unfold aa.cross;grind)
def Nt{z:Rat}(h: -z=0):z=0:=by grind
def Gl(s:aa):s.cross (d6 s)=s.x*s.x+s.y*s.y:=by unfold aa.cross d6;grind
def MU{s:aa}(h:s.half≠0):0<s.x*s.x+s.y*s.y:=HG fun k=>by
 rcases iE s with⟨_,q⟩|⟨_,q⟩|⟨q,_⟩
 ·grind
 ·grind
 ·exact h q
section
variable {ds:List aa}
def xX{x:aa}(hx:pb ds x):yl ds x x:=fun s _ _=>by rw[yh];exact hx
def EU{s v w:aa}(hn: ∀r∈ds,¬0<s.cross r)(hv:0<s.cross v)(hw:0<=s.cross w)(hf:pb ds w):yl ds v w:=fun t t0 t1=>by
 by_cases ht:t=1
 ·rw[ht,CE];exact hf
 ·have h1:=bt (show 0<1-t by grind) hv
  have h2:=bG t0 hw;have hp:0<s.cross (aC v w t):=by rw[(yw s v w t).1];grind
  exact⟨BE (s:=s) (by grind),fun r hr q=>hn r hr ((sk q s).1 hp)⟩
def ayi{i:Nat}(hi:i<ds.length):gy ds i∈eO ds:=by
 unfold eO;rw[if_neg (by omega)];exact bZ.2 ⟨i,fN.2 hi,J⟩
def Pq{i:Nat}{s w:aa}(hs:ds[i]? =some s)(hw:ds[(i+1)%ds.length]? =some w):gy ds i=if 0<s.cross w then s.add w else d6 s:=by
 unfold gy;rw[aX,aX,hs,hw];show(if 0<Int.sign (s.cross w).num then _ else _)=_;simp only[jg];rfl
def Oi(s w:aa):s.cross (s.add w)=s.cross w/\(s.add w).cross w=s.cross w:=by unfold aa.cross aa.add;dsimp only;constructor<;>grind
def BD(ha:ds.Pairwise bv)(nz: ∀d∈ds,d.half≠0){v:aa}(hv:v∈eO ds):pb ds v:=by
 unfold eO at hv;split at hv
 ·rename_i h0
  rw[cV h0,aV.1 hv];exact⟨by simp,fun r hr=>by cases hr⟩
 ·obtain⟨i,hi,rfl⟩:=bZ.1 hv
  have hi':=fN.1 hi;obtain⟨s,hs⟩: ∃s,ds[i]? =some s:=⟨_,aZ hi'⟩;obtain⟨w,hw⟩: ∃w,ds[(i+1)%ds.length]? =some w:=⟨_,aZ (cL _ (by omega))⟩;have ms:=aS hs;have mw:=aS hw;have hn:=Pe ha hs hw;rw[Pq hs hw];by_cases h:0<s.cross w
  ·rw[if_pos h]
   obtain⟨c1,c2⟩:=Oi s w;exact⟨BE (s:=s) (by rw[c1];grind),fun r hr q=>O8 nz ms hr mw hn ((sk q s).1 (by rw[c1];exact h)) ((sk q w).2.1 (by rw[c2];exact h)) h⟩
  ·rw[if_neg h]
   have hp:0<s.cross (d6 s):=by rw[Gl];exact MU (nz s ms)
   exact⟨BE (s:=s) (by grind),fun r hr q=>h (JR nz ms hr mw hn ((sk q s).1 hp))⟩
def ZO(ha:ds.Pairwise bv)(nz: ∀d∈ds,d.half≠0){x:aa}(hx:pb ds x): ∃v∈eO ds,∃y,yl ds v y/\yl ds y x:=by
 by_cases h0:ds=[]
 ·subst h0
  have fr: ∀{u:aa},u≠⟨0,0⟩->pb [] u:=fun h=>⟨h,fun r hr=>by cases hr⟩;refine⟨⟨1,0⟩,aV.2 J,?_⟩;have sx: ∀(a b:aa) (t:Rat),(aC a b t).x=a.x+t*(b.x-a.x)/\(aC a b t).y=a.y+t*(b.y-a.y):=fun _ _ _=>⟨J,J⟩;have go: ∀{a b:aa},(0<a.x/\0<=b.x/\b≠⟨0,0⟩/\(b.x=0->b.y≠0))\/(0<a.y/\0<=b.y/\(b.y=0->b.x≠0))\/(a.y=0/\0<a.x/\b.y≠0)->yl [] a b:=fun{a b} h t t0 t1=>fr fun e=>by
   obtain⟨e1,e2⟩:=sx a b t;rw[e] at e1 e2;dsimp only at e1 e2;by_cases ht:t=1
   ·subst ht
    grind
   ·rcases h with⟨k1,k2,_,_⟩|⟨k1,k2,_⟩|⟨k1,k2,k3⟩
    ·have:=bt (show 0<1-t by grind) k1
     have:=bG t0 k2;grind
    ·have:=bt (show 0<1-t by grind) k1
     have:=bG t0 k2;grind
    ·rw[k1] at e2
     have z:t*b.y=0:=by grind
     rcases cW.1 z with q|q
     ·rw[q] at e1;grind
     ·exact k3 q
  by_cases hy:x.y=0
  ·by_cases hp:0<x.x
   ·exact⟨⟨1,0⟩,xX (fr (by simp)),go (.inl ⟨by decide,cS hp,hx.1,fun e=>by grind⟩)⟩
   ·have hne:x.x≠0:=fun e=>hx.1 (by cases x;simp only[aa.mk.injEq] at*;exact⟨e,hy⟩)
    exact⟨⟨0,1⟩,go (.inr (.inr ⟨J,by decide,by decide⟩)),go (.inr (.inl ⟨by decide,by rw[hy];exact dR,fun _=>hne⟩))⟩
  ·exact⟨⟨1,0⟩,xX (fr (by simp)),go (.inr (.inr ⟨J,by decide,hy⟩))⟩
 obtain⟨s,ms,hmin⟩:=Ix (UY x) (Y6 x) h0;obtain⟨i,hi,hs'⟩:=jZ ms;have hs:ds[i]? =some s:=by rw[aZ hi,hs']
 obtain⟨w,hw⟩: ∃w,ds[(i+1)%ds.length]? =some w:=⟨_,aZ (cL _ (by omega))⟩;have mw:=aS hw;have hn:=Pe ha hs hw;have hsq:=MU (nz s ms);have htp:0<s.cross (d6 s):=by rw[Gl];exact hsq
 have sw: ∀a b:aa,a.cross b= -b.cross a:=fun a b=>d5 b a;refine⟨gy ds i,ayi hi,?_⟩;rw[Pq hs hw];rcases di (s.cross x) with hc|hc|hc
 ·-- x opposite to s
  have hdot: ¬0<x.dot s:=fun q=>hx.2 s ms (by
   obtain⟨g,g0,e⟩:=q7 (d:=s) (e:=x) (by rw[sw];grind) q;exact⟨g,g0,e⟩)
  have c2:jy x s=2:=by
   have e0:x.cross s=0:=by rw[sw];grind
   unfold jy;rw[e0,if_neg (by grind),if_neg (by grind),if_neg hdot]
  have hno: ∀r∈ds,¬0<s.cross r:=fun r hr q=>hmin r hr (.inl (by
   have hxr:x.cross r<0:=by
    -- x is a negative multiple of s
    have e:=JP s x r (d6 s);have ht:=Gl s;have e2:(d6 s).cross r*(s.x*s.x+s.y*s.y)=(d6 s).cross r*s.cross (d6 s):=by rw[ht]
    have e3:x.cross r*(s.x*s.x+s.y*s.y)=x.dot s*s.cross r+s.cross x* -(s.dot r):=by unfold aa.cross aa.dot;grind
    rw[hc] at e3;have hd0:x.dot s≠0:=fun z=>by
     have f1:x.x*(s.x*s.x+s.y*s.y)=0:=by unfold aa.cross aa.dot at*;grind
     have f2:x.y*(s.x*s.x+s.y*s.y)=0:=by unfold aa.cross aa.dot at*;grind
     have n0:s.x*s.x+s.y*s.y≠0:=by grind
     exact hx.1 (by
      have g1:=(cW.1 f1).resolve_right n0;have g2:=(cW.1 f2).resolve_right n0
      cases x;simp only[aa.mk.injEq] at*;exact⟨g1,g2⟩)
    have m:=bt (show 0< -x.dot s by grind) q;have:=(fk (s:= -x.cross r) hsq).1 (by grind);grind
   rw[uE.2 hxr,c2];decide))
  rw[if_neg (hno w mw)];exact⟨x,EU hno htp (by rw[hc];exact dR) hx,xX hx⟩
 ·-- x to the left of s
  have f1: ∀r∈ds,¬(0<s.cross r/\0<r.cross x):=fun r hr q=>hmin r hr (.inr (by
   have a1:jy x r=1:=uE.2 (by rw[sw];grind);have a2:jy x s=1:=uE.2 (by rw[sw];grind);exact⟨by rw[a1,a2], .inl a1,q.1⟩))
  by_cases h:0<s.cross w
  ·rw[if_pos h]
   have hxw:0<x.cross w:=by
    rcases di (x.cross w) with k|k|k
    ·exact absurd (QW h hc k) (hx.2 w mw)
    ·exact k
    ·exact absurd ⟨h,by rw[sw];grind⟩ (f1 w mw)
   obtain⟨c1,c2⟩:=Oi s w;refine⟨x,fun t t0 t1=>?_,xX hx⟩;have p1:0<s.cross (aC (s.add w) x t):=by
    rw[(yw s _ x t).1,c1];have:=bG (show 0<=1-t by grind) (cS h);have:=bG t0 (cS hc);by_cases ht:t=1
    ·rw[ht];grind
    ·have:=bt (show 0<1-t by grind) h
     grind
   have p2:0<(aC (s.add w) x t).cross w:=by
    rw[(yw w _ x t).2,c2];have:=bG t0 (cS hxw);by_cases ht:t=1
    ·rw[ht];grind
    ·have:=bt (show 0<1-t by grind) h
     grind
   exact⟨BE (s:=s) (by grind),fun r hr q=>O8 nz ms hr mw hn ((sk q s).1 p1) ((sk q w).2.1 p2) h⟩
  ·rw[if_neg h]
   exact⟨x,EU (fun r hr q=>h (JR nz ms hr mw hn q)) htp (cS hc) hx,xX hx⟩
 ·-- x to the right of s
  have c3:jy x s=3:=Cq.2 (by rw[sw];grind);have hno: ∀r∈ds,¬0<s.cross r:=fun r hr q=>hmin r hr (by
   by_cases k:jy x r=3
   ·exact .inr ⟨by rw[k,c3], .inr k,q⟩
   ·refine .inl ?_
    have:jy x r<=3:=by unfold jy;split<;>(try split)<;>(try split)<;>omega
    omega)
  have f4: ∀r∈ds,¬0<r.cross x:=fun r hr q=>hmin r hr (.inl (by rw[uE.2 (by rw[sw];grind),c3];decide));have sn:s.cross (ba s)=0:=by unfold aa.cross ba;grind
  have fneg:pb ds (ba s):=⟨fun e=>by
   have e1:=congrArg aa.x e;have e2:=congrArg aa.y e;unfold ba at e1 e2;dsimp only at e1 e2;rw[Nt e1,Nt e2] at hsq;exact absurd hsq (by decide+kernel),fun r hr q=>f4 r hr ((sk q x).2.1 (by
    have:(ba s).cross x= -s.cross x:=by unfold aa.cross ba;grind
    rw[this];grind))⟩
  rw[if_neg (hno w mw)];refine⟨ba s,EU hno htp (by rw[sn];exact dR) fneg,fun t t0 t1=>?_⟩;by_cases ht:t=1
  ·rw[ht,CE];exact hx
  ·have hq:0<(aC (ba s) x t).cross x:=by
    rw[(yw x _ x t).2,AQ];have:(ba s).cross x= -s.cross x:=by unfold aa.cross ba;grind
    rw[this];have:=bt (show 0<1-t by grind) (show 0< -s.cross x by grind);grind
   exact⟨fun e=>by rw[e] at hq;unfold aa.cross at hq;grind,fun r hr q=>f4 r hr ((sk q x).2.1 hq)⟩
end
def Md{rs:List (List ZP)}{fill:Int}{p:aa}(hr: ∀r∈rs,b9 r){ds:List aa}(ha:ds.Pairwise bv)(nz: ∀d∈ds,d.half≠0)(hd: ∀u,gF (ER rs) p u↔pb ds u)(b:Bool):(∃v∈eO ds,kz rs fill p v b)↔ ∃x,gF (ER rs) p x/\kz rs fill p x b:=by
 constructor
 ·rintro ⟨v,h1,h2⟩
  exact⟨v,(hd v).2 (BD ha nz h1),h2⟩
 ·rintro ⟨x,h1,h2⟩
  obtain⟨v,hv,y,k1,k2⟩:=ZO ha nz ((hd x).1 h1);obtain⟨c,hc⟩:=E5 (fill:=fill) hr ((hd v).2 (BD ha nz hv));have h3:=zc hr (fun s s0 s1=>(hd _).2 (k2 s s0 s1)) (zc hr (fun s s0 s1=>(hd _).2 (k1 s s0 s1)) hc);rw[h3.uniq h2] at hc;exact⟨v,hv,hc⟩
def eRz(v:List aa):DV:= .sl (v.map eZ)
def eRa(v:List aa):DV:= .sl (v.map i9)
def oh{α:Type}(f:α->Rat):List α->Rat
 |[]=>0
 |a::t=>f a+oh f t
def Tl(f:aa->aa->Rat)(v:List aa):Rat:=oh (fun i=>f (v.getD i ⟨0,0⟩) (v.getD ((i+1)%v.length) ⟨0,0⟩)) (List.range v.length)
def aGQ(c:bw):Rat:=oh (fun s=>(s.v.hi-s.v.lo)*(s.l.c:Rat)) c
def aHE(t:Tr):Prop:= ∃(L:List ab) (R:Rat),(∀l∈L,l.ok)/\ ∀p,ji L p->Uv R p->t.val p=false
def II{rs:List (List ZP)}{fill:Int}(hr: ∀r∈rs,b9 r):(rE rs fill).all ab.ok:=CW fun f hf=>((mF hr).2 f hf).ok
def Pp(es:List Int):Nat->Nat->Tr×Nat
 |0,a=>tE es a
 |d+1,a=>
  let k:=ao es 3 a
  if(k.1:Int)=0 then
   let x:=Pp es d k.2
   let o:=ao es 4 x.2
   let y:=Pp es d o.2
   (x.1.mergeQ (1+(o.1:Int)) y.1 [],y.2)
  else tE es k.2
def aG5(f:aa->aa->Rat):Prop:= ∀(l:ab) (a b c:Rat),l.Ne->f (l.at a) (l.at c)=f (l.at a) (l.at b)+f (l.at b) (l.at c)
def sdF(f:aa->aa->Rat)(s:aH):Rat:=f (s.l.at s.v.lo) (s.l.at s.v.hi)
def Yu(f:aa->aa->Rat)(c:bw):Rat:=Tl f (Bl (c.map (·.l)))
def muT(f:aa->aa->Rat)(t:Tr)(c:bw):Rat:=oh (fun x:Bool×bw=>if x.1 then Yu f x.2 else 0) (t.parts c)
def muG(f:aa->aa->Rat)(t:Tr)(c:bw)(l:ab):Rat:=if fi c l then muT f t (gj c l) else 0
def aHJ(t:Tr)(c:bw):Prop:= ∀x∈t.parts c,x.1=true->XL x.2=true
def Zj(v:List aa):List (aa×aa):=(List.range v.length).map fun i=>(v.getD i ⟨0,0⟩,v.getD ((i+1)%v.length) ⟨0,0⟩)
def pP(cs:List (List ab)):List (aa×aa):=cs.flatMap fun c=>Zj (Bl c)
def pA(cs:List bw):List (List ab):=cs.map fun c=>c.map (·.l)
def edE(x:aa×aa):List DV:=[Cw x.1 x.2,eF (x.1.cross x.2)]

def eCl(x:List ab×Bool):DV:= .ag [.sl (x.1.map eL),vB x.2]
def eSd(c:List ab):DV:= .sl (c.map eL)
def aHA(ps:List (List ab×Bool)):List (List ab):=(ps.filter (·.2)).map (·.1)
def eRp(v:List aa):DV:= .sl (v.map eP)
def aHF(c:bw):List (List aa):=IS (Bl (c.map (·.l)))
def Xr{p:aa}:PF GB prog 100 [eP p] (eP (ba p)):=by
 refine fn func100 J J ntmps100 J J (fun C=>?_);refine cl J qb J<|cl J qb J<|?_;exact rz J J

def aHy:List ZP:=[(0,0),(1,0),(0,1)]
def MW(r:List aa)(j:Nat):Nat->aa
 |0=>(((r.getD 0 ⟨0,0⟩).add (r.getD 1 ⟨0,0⟩)).add (r.getD 2 ⟨0,0⟩)).scale (((1:Int):Rat)/((3:Int):Rat))
 |k+1=>((MW r j k).add (r.getD j ⟨0,0⟩)).scale (((1:Int):Rat)/((2:Int):Rat))
def smp(ts:List (List aa))(i:Nat):aa:=MW (ts.getD (i%ts.length) []) (i%3) (i/ts.length)
theorem aq.mono{p:aa}{i j:Nat}(h:aq p i)(hj:i<=j):aq p j:=⟨h.x.mono hj,h.y.mono hj⟩
structure Qg (cs:List bw) (b:Nat):Prop where
 lb: ∀c∈cs,∀s∈c,LB s.l
 sh: ∀c∈cs,c.length<=100000
 ln:cs.length<=1000000
 pt: ∀x∈pP (pA cs),aq x.1 b/\aq x.2 b
def LJ(x:aa×aa):aa:=(x.1.add x.2).scale (x.1.cross x.2)
def I1{α:Type}(f:α->aa)(l:List α):aa:=⟨oh (fun x=>(f x).x) l,oh (fun x=>(f x).y) l⟩
def KB{n:Int}{d:Nat}(hn:n.natAbs<=1000)(hd:0<d)(hd1:d<=1000):PF GB prog 40 [vI n, .v (.int .i64 (d:Nat))] (eQ (mkRat n d)):=by
 haveI:BI n 10:=xd (by omega);haveI:BN d 10:=⟨by omega⟩;refine fn func40 J J ntmps40 J J (fun C=>?_);refine cl J (Ja (n:=n) (by omega) (by omega)) J<|cl J (q8 (u:=d) (by omega)) J<|cl J (uA (x:=n) (d:=d) hd) J<|?_;exact rz J J
def qF(es:List Int)(a:Nat):Rat×Nat:=
 (if((ao es 6 (ao es 9 a).2).1:Int)=0 then mkRat (2*(((ao es 9 a).1:Int)-4)+1) 2 else if((ao es 6 (ao es 9 a).2).1:Int)=1 then mkRat (3*(((ao es 9 a).1:Int)-4)+1) 3 else(((ao es 9 a).1:Rat)-4:Rat),(ao es 6 (ao es 9 a).2).2)
theorem A2{es:List Int}{a:Nat}(ha:a<=es.length):BQ (qF es a).1 12/\(qF es a).2<=es.length:=by
 have h1:=iA (es:=es) (n:=9) (a:=a) (by decide);refine⟨?_,f9 (f9 ha)⟩;unfold qF;dsimp only;split
 ·exact uZ (by decide) (by omega) (by decide)
 ·split
  ·exact uZ (by decide) (by omega) (by decide)
  ·haveI:BI (((ao es 9 a).1:Int)-4:Int) 11:=xd (by omega)
   have e:((((ao es 9 a).1:Rat)-4):Rat)=((((ao es 9 a).1:Int)-4:Int):Rat):=by rw[lR];rfl
   rw[e];exact inferInstance
def oy(es:List Int)(a:Nat):aa×Nat:=(⟨(qF es a).1,(qF es (qF es a).2).1⟩,(qF es (qF es a).2).2)
theorem Lp{es:List Int}{a:Nat}(ha:a<=es.length):aq (oy es a).1 1200/\(oy es a).2<=es.length:=by
 obtain⟨h1,h2⟩:=A2 ha;obtain⟨h3,h4⟩:=A2 h2;exact⟨⟨h1.mono (by decide),h3.mono (by decide)⟩,h4⟩
def q9(z:Nat):(z:Rat)-4=(((z:Int)-4:Int):Rat):=by rw[lR];rfl
def z7:ab:=⟨1,0,0⟩
def aHt(es:List Int)(L:List ab)(a:Nat):aa×Nat:=
 if L.length=0 then oy es a else
 if((ao es 3 (ao es L.length a).2).1:Int)=0 then
  (if crossI (L.getD (ao es L.length a).1 z7) (L.getD (ao es L.length (ao es 3 (ao es L.length a).2).2).1 z7)≠0 then(kh (L.getD (ao es L.length a).1 z7) (L.getD (ao es L.length (ao es 3 (ao es L.length a).2).2).1 z7),(ao es L.length (ao es 3 (ao es L.length a).2).2).2) else oy es (ao es L.length (ao es 3 (ao es L.length a).2).2).2)
 else if((ao es 3 (ao es L.length a).2).1:Int)=1 then((L.getD (ao es L.length a).1 z7).at (qF es (ao es 3 (ao es L.length a).2).2).1,(qF es (ao es 3 (ao es L.length a).2).2).2) else oy es (ao es 3 (ao es L.length a).2).2
def HP{b:Nat}{es:List Int}(hes:es.length<=400){a:Nat}(ha:a<=es.length):PM GB prog 16 (jh [none] b) b 89 [.sl (es.map vI), .v (.int .i64 (a:Nat))] (eQ (qF es a).1) [.sl (es.map vI), .v (.int .i64 ((qF es a).2:Nat))]:=by
 have h1:=iA (es:=es) (n:=9) (a:=a) (by decide);refine u5 func16 J J ntmps16 J J (fun C b m lo hmb=>?_);refine cm J (fun b=>(lz (n:=9) hes ha (by decide) (by decide))) J<|cm J (fun b=>(lz (n:=6) hes (f9 ha) (by decide) (by decide))) J<|?_;refine br J J J (fun hc9=>?_) (fun hc9=>?_)
 .
  refine cl J (KB (n:=2*(((ao es 9 a).1:Int)-4)+1) (d:=2) (by omega) (by decide) (by decide)) J<|?_;exact jO hmb J J (by unfold qF;dsimp only;rw[if_pos hc9];rfl) J
 .
  refine br J J J (fun hc15=>?_) (fun hc15=>?_)
  .
   refine cl J (KB (n:=3*(((ao es 9 a).1:Int)-4)+1) (d:=3) (by omega) (by decide) (by decide)) J<|?_;exact jO hmb J J (by unfold qF;dsimp only;rw[if_neg hc9,if_pos hc15];rfl) J
  .
   refine cl J (nH (n:=(((ao es 9 a).1:Int)-4)) (by omega) (by omega)) J<|?_;exact jO hmb J J (by unfold qF;dsimp only;rw[if_neg hc9,if_neg hc15,q9];rfl) J
def TV{b:Nat}{es:List Int}(hes:es.length<=400){a:Nat}(ha:a<=es.length):PM GB prog 12 (jh [none] b) b 89 [.sl (es.map vI), .v (.int .i64 (a:Nat))] (eP (oy es a).1) [.sl (es.map vI), .v (.int .i64 ((oy es a).2:Nat))]:=by
 refine u5 func12 J J ntmps12 J J (fun C b m lo hmb=>?_);refine cm J (fun b=>(HP hes ha)) J<|cm J (fun b=>(HP hes (A2 ha).2)) J<|?_;exact jO hmb J J J J

def XW(x:aa×aa):Rat:=(x.1.x*x.1.x+x.2.x*x.2.x+(x.1.add x.2).x*(x.1.add x.2).x)*x.1.cross x.2
def Y5(x:aa×aa):Rat:=(x.1.x*x.1.y+x.2.x*x.2.y+(x.1.add x.2).x*(x.1.add x.2).y)*x.1.cross x.2
def Qz(x:aa×aa):Rat:=(x.1.y*x.1.y+x.2.y*x.2.y+(x.1.add x.2).y*(x.1.add x.2).y)*x.1.cross x.2
structure aG0 (cs:List bw):Prop where
 ed:Qg cs 1200
 cr: ∀x∈pP (pA cs),BQ (x.1.cross x.2) 5000
 ar: ∀k,BQ (oh (fun x=>x.1.cross x.2) ((pP (pA cs)).take k)) 2000000
 mo: ∀k,aq (I1 LJ ((pP (pA cs)).take k)) 3000000
 sa: ∀k,BQ (oh XW ((pP (pA cs)).take k)) 4000000
 sb: ∀k,BQ (oh Y5 ((pP (pA cs)).take k)) 4000000
 sc: ∀k,BQ (oh Qz ((pP (pA cs)).take k)) 4000000
def aFP(t:Tr):Rat:=oh (fun x=>x.1.cross x.2) (pP (pA (GN t)))*mkRat 1 2
def aG4(t:Tr):aa:=(I1 LJ (pP (pA (GN t)))).scale (((1:Int):Rat)/((6:Int):Rat))
def zR0:DV:= .ag [vB false, .sl [], .sl []]
def zP0:DV:= .ag [vB false, .sl [], .sl [],vB false, .sl [], .sl []]
def Wm:Rat:=((1:Int):Rat)/((24:Int):Rat)
def aG8(f:aa×aa->Rat)(t:Tr):Rat:=oh f (pP (pA (GN t)))*Wm
structure DQ (D B:Nat) (x:Rat):Prop where
 ex: ∃n:Int,x*((D:Nat):Rat)=(n:Rat)/\n.natAbs<=B*D
def W8(l m:ab):Nat:=if crossI l m=0 then 1 else(crossI l m).natAbs
def Xb(K:List ab):List Nat:=K.flatMap fun l=>K.map (W8 l)
def aHK(K:List ab):Nat:=(Xb K).foldr (· * ·) 1
structure DP (D B:Nat) (p:aa):Prop where
 x:DQ D B p.x
 y:DQ D B p.y

def eM(a b c d e f:Rat):DV:= .ag [(.v (.bool (decide ((a).num<0)))),(dN (a).num.natAbs),(dD (a).den),(.v (.bool (decide ((b).num<0)))),(dN (b).num.natAbs),(dD (b).den),(.v (.bool (decide ((c).num<0)))),(dN (c).num.natAbs),(dD (c).den),(.v (.bool (decide ((d).num<0)))),(dN (d).num.natAbs),(dD (d).den),(.v (.bool (decide ((e).num<0)))),(dN (e).num.natAbs),(dD (e).den),(.v (.bool (decide ((f).num<0)))),(dN (f).num.natAbs),(dD (f).den)]
def zq3:List DV:=[.v (.bool (decide ((0:Rat).num<0))),dN (0:Rat).num.natAbs,dD (0:Rat).den]

def Py{C:az}{n:Nat}{Q0:Exit->Act->World->Prop}{fr fr':au}{own own':aB}{cf cf':Cf}{vc:List Prop}[fu:Fu]{f:FuncId}{ds:List DV}(ha:vt fr cf=some (f,ds))(hF:PF GB prog f ds (.v (.bool true)))(hgo:cd tt n fu.n fr own cf .tt [] []=⟨vc,fr',own',cf'⟩)(k:ak prog GB C n Q0 fr' own' cf')
  (hv:ah vc:=by first|exact trivial|(simp only[ah];kernel_rfl)|(simp only[ah];omega)):ak prog GB C n Q0 fr own cf:=by
 unfold vt at ha;split at ha<;>try (cases ha;done)
 rename_i hh;exact us hh (bz.to (g:= .tt) (D9 ha hF) fun ρ G y hy=>(bi (G:=G)).1 hy) hgo hv k
def S1:List ZP:=[(0,0),(2,0),(2,2),(0,2)]
def sqT:Tr:=gg [S1] 2


def S7(n q p:aa)(e:Rat):n.dot (aC q p e)=n.dot q+e*(n.dot p-n.dot q):=by
 unfold aa.dot aC;grind
def lO(M:List ab)(E:List (aa×aa)):Prop:= ∀f∈E,∃m∈M,m.value f.1=0/\m.value f.2=0
def He(m:ab)(a p:aa):m.nor.dot ⟨a.x-p.x,a.y-p.y⟩=m.value a-m.value p:=by
 rw[lG,lG];unfold ab.nor aa.dot;dsimp only;grind
def Tq(n:aa)(k:Rat)(r:aa):n.dot ⟨k*r.x,k*r.y⟩=k*n.dot r:=by unfold aa.dot;dsimp only;grind
def sB{M:List ab}{E:List (aa×aa)}(hM:lO M E){p v:aa}(hv:v≠⟨0,0⟩)(hg:Gn M p v):gF E p v:=⟨hv,fun f hf r ⟨ho,hr⟩ ⟨k,k0,e⟩=>by
 obtain⟨m,hm,h1,h2⟩:=hM f hf;obtain⟨s,s0,s1,es⟩:=ho;have hp:m.value p=0:=by rw[es,mp,h1,h2];grind
 refine hg m hm hp ?_;rw[e,Tq];rcases hr with⟨rfl,_⟩|⟨rfl,_⟩
 ·rw[He,h2,hp];grind
 ·rw[He,h1,hp];grind⟩
def VW{M:List ab}{E:List (aa×aa)}(hM:lO M E)(ok: ∀l∈M,l.ok){p x:aa}(hx:gF E p x): ∃w,Gn M p w/\w≠⟨0,0⟩/\ ∀s,0<=s->s<=1->gF E p (aC x w s):=by
 by_cases h0: ∃m∈M,m.value p=0
 ·obtain⟨m0,hm0,z0⟩:=h0
  obtain⟨w,g1,g2⟩:=DY (L:=M.filter fun l=>decide (l.nor.dot x≠0)) (M:=M) (p:=p) (v:=x) ok fun l hl _=>by simpa using (iJ.1 hl).2
  have nz: ∀{u:aa} {n:aa},n.dot u≠0->u≠⟨0,0⟩:=fun h e=>h (by rw[e];unfold aa.dot;grind);refine⟨w,g1,nz (g1 m0 hm0 z0),fun s s0 s1=>?_⟩;by_cases hs:s=0
  ·rw[hs,HF];exact hx
  ·have key: ∀m∈M,m.value p=0->m.nor.dot (aC x w s)≠0:=fun m hm hz=>by
    rw[S7];have hw:=g1 m hm hz;by_cases k:m.nor.dot x=0
    ·rw[k]
     intro e;have e':s*m.nor.dot w=0:=by grind
     exact(cW.1 e').elim hs hw
    ·have hsg:=g2 m (iJ.2 ⟨hm,decide_eq_true k⟩) hz
     generalize m.nor.dot x=a at*;generalize m.nor.dot w=b at*;rcases di a with q|q|q
     ·exact absurd q k
     ·have hb:0<b:=(ij _).1 (by rw[<-hsg];exact(ij _).2 q)
      have m1:=bG (show 0<=1-s by grind) (cS q);have m2:=bt (show 0<s by grind) hb;grind
     ·have hb:b<0:=(lw _).1 (by rw[<-hsg];exact(lw _).2 q)
      have m1:=bG (show 0<=1-s by grind) (show 0<= -a by grind);have m2:=bt (show 0<s by grind) (show 0< -b by grind);grind
   exact sB hM (nz (key m0 hm0 z0)) fun m hm hz=>key m hm hz
 ·exact⟨x,fun l hl hz=>absurd ⟨l,hl,hz⟩ h0,hx.1,fun s _ _=>by rw[yh];exact hx⟩
def P1:qr.ok:=by unfold ab.ok qr;decide
section
variable {rs:List (List ZP)} {fill:Int} {p:aa}
def oO(rs:List (List ZP))(fill:Int)(p:aa)(b:Bool):Prop:= ∃x,gF (ER rs) p x/\kz rs fill p x b
def H7(hr: ∀r∈rs,b9 r){M:List ab}(hM:lO M (ER rs))(ok: ∀l∈M,l.ok){b:Bool}:oO rs fill p b↔ ∃w,w≠⟨0,0⟩/\Gn M p w/\kz rs fill p w b:=by
 constructor
 ·rintro ⟨x,h1,h2⟩
  obtain⟨w,w1,w2,w3⟩:=VW hM ok h1;exact⟨w,w2,w1,zc hr w3 h2⟩
 ·rintro ⟨w,w1,w2,w3⟩
  exact⟨w,sB hM w1 w2,w3⟩
def Wc(hr: ∀r∈rs,b9 r){M:List ab}(hM:lO M (ER rs))(ok: ∀l∈M,l.ok):oO rs fill p true\/oO rs fill p false:=by
 obtain⟨w,hw⟩:=Lk (M:=qr::M) (fun l hl=>by rcases aU.1 hl with rfl|hl;exact P1;exact ok l hl) p;by_cases h0:w=⟨0,0⟩
 ·-- no line of M runs through p
  have hf:gF (ER rs) p ⟨1,0⟩:=sB hM (by simp) fun l hl hz=>by
   have:=hw l (aJ _ hl) hz;rw[h0] at this;exact absurd (by unfold aa.dot;grind) this
  obtain⟨b,hb⟩:=E5 (fill:=fill) hr hf
  cases b with
  |true=>exact .inl ⟨_,hf,hb⟩
  |false=>exact .inr ⟨_,hf,hb⟩
 ·have hf:=sB hM h0 fun l hl=>hw l (aJ _ hl)
  obtain⟨b,hb⟩:=E5 (fill:=fill) hr hf
  cases b with
  |true=>exact .inl ⟨_,hf,hb⟩
  |false=>exact .inr ⟨_,hf,hb⟩
def MH(hr: ∀r∈rs,b9 r){v:aa}{s:Rat}(h0:0<s)(hv:gF (ER rs) p v)(hs: ∀f∈ER rs,¬gz f.1 f.2 p-> ∀t,0<t->t<=s-> ¬gz f.1 f.2 (aD p v t)):kz rs fill p v (dP rs fill (aD p v s)):=by
 refine⟨s,h0,fun d d0 d1=>?_⟩;refine(A4 (q:=aD p v d) (p:=aD p v s) fun f hf a t a0 a1 t0 t1 h=>?_).symm;rw[De] at h;have q0:0<d+t*(s-d):=by
  have:=bG t0 (show 0<=s-d by grind);grind
 have q1:d+t*(s-d)<=s:=by
  have:=bG (show 0<=1-t by grind) (show 0<=s-d by grind);grind
 have ho:gz f.1 f.2 (aD p v (d+t*(s-d))):=⟨a,a0,a1,h.symm⟩;by_cases hp:gz f.1 f.2 p
 ·obtain⟨r,r1,r2⟩:=OF (Bp hr f hf) q0 hv.1 hp ho
  exact hv.2 f hf r r1 r2
 ·exact hs f hf hp _ q0 q1 ho
def XI(hr: ∀r∈rs,b9 r){M:List ab}(hM:lO M (ER rs))(ok: ∀l∈M,l.ok)(b:Bool):qG (gg rs fill) p b↔oO rs fill p b:=by
 have hraw:=II (fill:=fill) hr;have hb:(gg rs fill).all ab.ok:=Tr.restrict_all ab.ok _ _ hraw
 -- all lines in sight
 have okA: ∀l∈(qr::M)++((rE rs fill).lns++(gg rs fill).lns),l.ok:=fun l hl=>by
  rcases bT.1 hl with h|h
  ·rcases aU.1 h with rfl|h
   ·exact P1
   ·exact ok l h
  ·exact(bT.1 h).elim (tG hraw l) (tG hb l)
 have hMA:lO ((qr::M)++((rE rs fill).lns++(gg rs fill).lns)) (ER rs):=fun f hf=>by
  obtain⟨m,h1,h2⟩:=hM f hf;exact⟨m,bR _ (aJ _ h1),h2⟩
 have same: ∀{w:aa},Gn ((qr::M)++((rE rs fill).lns++(gg rs fill).lns)) p w-> ∃e:Rat,0<e/\ ∀d,0<d->d<=e->(fI (gg rs fill) p w).1=dP rs fill (aD p w d):=fun{w} hw=>by
  obtain⟨e1,a1,b1⟩:=Bs (t:=rE rs fill) fun l hl=>hw l (cX _ (bR _ hl));obtain⟨e2,a2,b2⟩:=Bs (t:=gg rs fill) fun l hl=>hw l (cX _ (cX _ hl));obtain⟨e,c1,c2,c3⟩:=min2 a1 a2;refine⟨e,c1,fun d d0 d1=>?_⟩;rw[(b2 d d0 (by grind)).2,T0 hr (b1 d d0 (by grind)).1]
 constructor
 ·intro h
  obtain⟨w,w1,w2⟩:=Yj h okA;obtain⟨e,e0,he⟩:=same w1;have hger:kz rs fill p w b:=⟨e,e0,fun d d0 d1=>by rw[<-he d d0 d1,w2]⟩;by_cases h0:w=⟨0,0⟩
  ·have hf:gF (ER rs) p ⟨1,0⟩:=sB hM (by simp) fun l hl hz=>by
    have:=w1 l (bR _ (aJ _ hl)) hz;rw[h0] at this;exact absurd (by unfold aa.dot;grind) this
   -- p lies on no line at all
   have hoff: ∀f∈ER rs,¬gz f.1 f.2 p:=fun f hf ⟨s,s0,s1,es⟩=>by
    obtain⟨m,h1,h2,h3⟩:=hM f hf;have hp:m.value p=0:=by rw[es,mp,h2,h3];grind
    have:=w1 m (bR _ (aJ _ h1)) hp;rw[h0] at this;exact this (by unfold aa.dot;grind)
   obtain⟨e3,a3,b3⟩:=Bi (Bp hr) p ⟨1,0⟩ ⟨1,0⟩;refine⟨⟨1,0⟩,hf,e3,a3,fun d d0 d1=>?_⟩;have hpb:dP rs fill p=b:=by
    have:=he e e0 dR;rw[h0,show aD p ⟨0,0⟩ e=p by unfold aD;cases p;simp only[aa.mk.injEq];constructor<;>grind] at this;rw[<-this,<-w2,h0]
   rw[<-hpb];refine A4 (q:=p) (p:=aD p ⟨1,0⟩ d) fun f hf a t a0 a1 t0 t1 h=>?_;have e4:aC p (aD p ⟨1,0⟩ d) t=aD p (aC ⟨1,0⟩ ⟨1,0⟩ 0) (t*d):=by rw[yh];unfold aC aD;simp only[aa.mk.injEq];constructor<;>grind
   rw[e4] at h;have:=bG (show 0<=1-t by grind) (cS d0);exact b3 f hf (hoff f hf) (t*d) 0 (bG t0 (cS d0)) (by grind) (by decide) (by decide) ⟨a,a0,a1,h.symm⟩
  ·exact⟨w,sB hMA h0 w1,hger⟩
 ·intro h
  obtain⟨w,w1,w2,e,e0,he⟩:=(H7 hr hMA okA).1 h;obtain⟨e2,a2,b2⟩:=same w2;obtain⟨d,c1,c2,c3⟩:=min2 e0 a2;refine⟨w,Jp fun l hl=>w2 l (cX _ (cX _ hl)),?_⟩;rw[b2 d c1 c3,he d c1 c2]
end
end Go.Sx
end
