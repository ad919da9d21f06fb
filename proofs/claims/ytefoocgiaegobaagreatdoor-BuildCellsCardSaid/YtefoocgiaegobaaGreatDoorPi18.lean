import Derived.Test.YtefoocgiaegobaaGreatDoorPi17
set_option linter.all false
set_option maxHeartbeats 2000000
set_option maxRecDepth 100000
section
namespace Go.Sx
open Go Go.Proofs Tryz
variable {GB:Gh}
def HX{l:aa}: ∀{c:List aa} {v:aj},(gt l c v).2=true->fk l c v=some (gt l c v).1
 |[],v,_=>rfl
 |m::t,v,h=>by
  rw[gt] at h⊢;rw[fk];split
  ·rename_i e;rw[if_pos e] at h;exact HX h
  ·rename_i e
   rw[if_neg e] at h;split
   ·rename_i k;rw[if_pos k] at h;exact HX h
   ·rename_i k;rw[if_neg k] at h;cases h
def J4{v:aj}(h:v.Pos):v.ins (lE v):=by
 obtain⟨lo,hi,nl,nh⟩:=v;unfold aj.Pos at h;unfold lE aj.ins
 cases nl<;>cases nh<;>simp at* <;>grind
def PH{p v:ab}: ∀{c:List aa} {s:Rat},0<s->0<pe p v c s/\pe p v c s<=s/\ ∀m∈c,0<m.value p->m.nor.dot v<0->pe p v c s<= -(m.value p/m.nor.dot v)/2
 |[],s,h=>⟨h,gT,fun m hm=>by cases hm⟩
 |m::t,s,h=>by
  have hk:m.value (ce p v ((1:Int):Rat))-m.value p=m.nor.dot v:=by rw[iw];grind
  have key:0<qa p v m s/\qa p v m s<=s/\(0<m.value p->m.nor.dot v<0->qa p v m s<= -(m.value p/m.nor.dot v)/2):=by
   unfold qa t8;simp only[hk,jj,mr,F5];split
   ·rename_i e;exact⟨h,gT,fun _ k=>by rw[e] at k;exact absurd k (by decide)⟩
   ·split
    ·rename_i e;exact⟨h,gT,fun k=>by rw[e] at k;exact absurd k (by decide)⟩
    ·split
     ·rename_i e
      split
      ·exact⟨by grind,by grind,fun _ _=>gT⟩
      ·exact⟨h,gT,fun _ _=>by grind⟩
     ·rename_i e
      exact⟨h,gT,fun k1 k2=>absurd (D5 k2 k1) e⟩
  obtain⟨a1,a2,a3⟩:=key;obtain⟨b1,b2,b3⟩:=PH (p:=p) (v:=v) (c:=t) a1;rw[pe];refine⟨b1,by grind,fun u hu k1 k2=>?_⟩;rcases aY.1 hu with rfl|hu
  ·have:=a3 k1 k2;grind
  ·exact b3 u hu k1 k2
def UX{c:List aa}{p v:ab}(h: ∀m∈c,0<m.value p\/(m.value p=0/\0<m.nor.dot v)):dh c (tO c p v):=fun m hm=>by
 obtain⟨s0,_,s2⟩:=PH (p:=p) (v:=v) (c:=c) (s:=((1:Int):Rat)) (by decide);unfold tO;generalize pe p v c ((1:Int):Rat)=s at*;rw[iw];rcases h m hm with k|⟨k,k2⟩
 ·by_cases q:m.nor.dot v<0
  ·have h3:=s2 m hm k q
   have h4:=D5 q k;have e:m.value p/m.nor.dot v*m.nor.dot v=m.value p:=by grind
   generalize m.value p/m.nor.dot v=z at*;have h5:=eO (a:= -z/2-s) (b:= -m.nor.dot v) (by grind) (by grind);grind
  ·have:=eO (dS s0) (show 0<=m.nor.dot v by grind)
   grind
 ·have:=b8 s0 k2
  grind
def S5{m:aa}(h:m.Ne):0<m.nor.dot (jC m.dir):=by
 have:=po h;have e:m.nor.dot (jC m.dir)=m.nor.dot m.nor:=by unfold jC aa.dir aa.nor ab.dot;grind
 rw[e];exact this
def at9{c:List aa}(hok: ∀m∈c,m.ok)(hb:ll c=true):dh c (kr c c):=by
 have key: ∀t:List aa,(∀m∈t,m∈c)->(∃m∈t,(fk m c aj.all).isSome=true)->dh c (kr c t):=by
  intro t
  induction t with
  |nil=>rintro _ ⟨m,hm,_⟩;cases hm
  |cons m t ih=>
   intro hs hx;rw[kr];split
   ·rename_i e
    obtain⟨h1,h2⟩:=yP m c _ _ vP (HX e);have h3:=((h2 _).1 (J4 h1)).2;have hmo:=(hok m (hs m aQ)).ne;refine UX fun u hu=>?_;by_cases q:u=m
    ·subst q;exact .inr ⟨nH hmo _,S5 hmo⟩
    ·exact .inl (h3 u hu q)
   ·rename_i e
    refine ih (fun u hu=>hs u (aZ _ hu)) ?_;obtain⟨u,hu,h⟩:=hx;rcases aY.1 hu with rfl|hu
    ·rw[vR] at e;exact absurd h e
    ·exact⟨u,hu,h⟩
 unfold ll at hb;rw[iU,List.isEmpty_iff,gK] at hb;rcases hb with rfl|⟨m,hm,h⟩
 ·exact fun m hm=>by cases hm
 ·exact key c (fun _ h=>h) ⟨m,hm,h⟩
def dh.seg{c:List aa}{q p:ab}{e:Rat}(hq:dh c q)(hp:dh c p)(h0:0<=e)(h1:e<=1):dh c (bt q p e):=fun m hm=>by
 rw[jH];have a:=hq m hm;have b:=hp m hm;by_cases z:e=0
 ·subst z;grind
 ·have k1:=b8 (show 0<e by grind) b
  have k2:=eO (show 0<=1-e by grind) (dS a);grind
def dh.open{c:List aa}{q:ab}(u:ab)(h:dh c q): ∃e:Rat,0<e/\ ∀d,0<=d->d<=e->dh c (ce q u d):=by
 have hd:bw (c.map fun m=>(⟨m,aj.all⟩:aO)) q:=fun s hs=>by
  obtain⟨m,hm,rfl⟩:=bJ.1 hs;exact h m hm
 obtain⟨e,he,ho⟩:=hd.open u;exact⟨e,he,fun d d0 d1 m hm=>ho d d0 d1 ⟨m,aj.all⟩ (iN hm)⟩
def EE(l:aa)(t u:Rat):l.at (t+u)=ce (l.at t) l.dir u:=by
 rw[<-sr,<-sr];unfold ce;simp only[ab.mk.injEq];constructor<;>grind
def ZJ(l:aa)(a b s:Rat):bt (l.at a) (l.at b) s=l.at (a+s*(b-a)):=by
 rw[<-sr,<-sr,<-sr];unfold bt ce;simp only[ab.mk.injEq];constructor<;>grind
def Nb{l:aa}(h:l.Ne)(t:Rat):fg l (l.at t)=t:=by
 obtain⟨q,_,hq⟩:=zO h;have h2:=po h;have e0:l.dir.dot l.dir=l.nor.dot l.nor:=by unfold aa.dir aa.nor ab.dot;grind
 have e1:(l.at t).dot l.dir=t*l.dir.dot l.dir:=by
  rw[<-sr,hq];unfold ce aa.dir ab.dot;grind
 unfold fg;rw[e1];rw[<-e0] at h2;generalize l.dir.dot l.dir=d at*;have:d≠0:=by grind
 grind
def K5{l:aa}(h:l.Ne){p:ab}(hp:l.value p=0):l.at (fg l p)=p:=by
 obtain⟨t,rfl⟩:=yN h hp;rw[Nb h]
def FL(a:Int){g:Nat}(h:g∣a.natAbs):(g:Int)*zv (decide (a<0)) (a.natAbs/g)=a:=by
 obtain⟨k,hk⟩:=h;by_cases g0:g=0
 ·subst g0;simp at hk⊢;omega
 have e:a.natAbs/g=k:=by rw[hk];exact rW k (iV g0)
 rw[e];unfold zv;have hc:((g*k:Nat):Int)=(g:Int)*(k:Int):=by push_cast;rfl
 by_cases n:a<0
 ·simp only[n,decide_true,if_true];rw[Int.mul_neg];omega
 ·simp only[n,decide_false];show(g:Int)*(k:Int)=a;omega
def Xi{a b c:Int}(h: ¬(a=0/\b=0)): ∃g:Int,0<g/\g*(gn a b c).a=a/\g*(gn a b c).b=b/\g*(gn a b c).c=c:=by
 have hg:0<Nat.gcd (Nat.gcd a.natAbs b.natAbs) c.natAbs:=lQ _ (iV fun e=>h ⟨kN.1 (lM e),kN.1 (lT e)⟩);refine⟨(Nat.gcd (Nat.gcd a.natAbs b.natAbs) c.natAbs:Nat),by omega,?_,?_,?_⟩
 ·exact FL a (qT (kJ _ _) (kJ _ _))
 ·exact FL b (qT (kJ _ _) (lU _ _))
 ·exact FL c (lU _ _)
def MW{v w:ZP}(h:v≠w): ∃g:Rat,0<g/\(iE v.1 v.2 w.1 w.2).value v.q=0/\(iE v.1 v.2 w.1 w.2).value w.q=0/\w.q=ce v.q (iE v.1 v.2 w.1 w.2).dir g:=by
 obtain⟨m,n⟩:=v;obtain⟨p,q⟩:=w;have hne: ¬(iO n q=0/\jb m p=0):=fun e=>h (by unfold iO jb at e;rw[Prod.mk.injEq];omega);obtain⟨g,g0,ga,gb,gc⟩:=Xi (c:=m8 m n p q) hne;dsimp only;unfold iE;generalize gn (iO n q) (jb m p) (m8 m n p q)=l at*;have g0':(0:Rat)<(g:Rat):=by exact_mod_cast g0
 have ra:(g:Rat)*(l.a:Rat)= -((q:Rat)-(n:Rat)):=by rw[<-cS,ga];unfold iO;push_cast;grind
 have rb:(g:Rat)*(l.b:Rat)=(p:Rat)-(m:Rat):=by rw[<-cS,gb];unfold jb;push_cast;grind
 have rc:(g:Rat)*(l.c:Rat)= -(-((q:Rat)-(n:Rat))*(m:Rat)+((p:Rat)-(m:Rat))*(n:Rat)):=by rw[<-cS,gc];unfold m8 iO jb;push_cast;grind
 have z: ∀x:Rat,(g:Rat)*x=0->x=0:=fun x hx=>by
  rcases qN.1 hx with e|e
  ·rw[e] at g0';exact absurd g0' (by decide)
  ·exact e
 refine⟨g,g0',z _ ?_,z _ ?_,?_⟩
 ·rw[lB];unfold ZP.q iP;dsimp only;grind
 ·rw[lB];unfold ZP.q iP;dsimp only;grind
 ·unfold ZP.q iP ce aa.dir;simp only[ab.mk.injEq];constructor<;>grind
def Fk{v w:ZP}(h:v≠w)(ho:(dx v w).l.ok):(dx v w).l.at (dx v w).v.lo=v.q/\(dx v w).l.at (dx v w).v.hi=w.q/\(dx v w).v.lo<(dx v w).v.hi:=by
 obtain⟨g,g0,h1,h2,h3⟩:=MW h;unfold dx at ho⊢;dsimp only at ho⊢;generalize iE v.1 v.2 w.1 w.2=l at*;have e1:=K5 ho.ne h1;have e2:=K5 ho.ne h2;refine⟨e1,e2,?_⟩;have:fg l w.q=fg l v.q+g:=by
  have e3:=EE l (fg l v.q) g;rw[e1,<-h3] at e3;rw[<-e3,Nb ho.ne]
 rw[this];grind
def Fx{r:List ZP}{k:Nat}: ∀{n:Nat},k<n->dx (r.getD k (0,0)) (fD r k)∈ly r n
 |n+1,h=>by
  rw[ly];by_cases e:k=n
  ·subst e;exact bM _ (aW.2 J)
  ·exact bK _ (Fx (by omega))
def XQ{r:List ZP}(hr:gi r){c:List aa}(hc: ∀e∈iI r,∀t,e.v.ins t-> ¬dh c (e.l.at t)){q p:ab}(hq:dh c q)(hp:dh c p):wG r q p:=fun k hk s t s0 s1 t0 t1 he=>by
 have hm:dx (r.getD k (0,0)) (fD r k)∈iI r:=Fx hk;have ho:=((wi hr).2 _ hm).ok;obtain⟨e1,e2,e3⟩:=Fk (hr.ne k hk) ho;have hno:=hc _ hm;have hx:=hq.seg hp t0 t1;rw[<-he,<-e1,<-e2,ZJ] at hx;have hv: ∀u,(dx (r.getD k (0,0)) (fD r k)).v.lo<u->u<(dx (r.getD k (0,0)) (fD r k)).v.hi-> ¬dh c ((dx (r.getD k (0,0)) (fD r k)).l.at u):=fun u h1 h2=>hno u ⟨.inr h1, .inr h2⟩;generalize dx (r.getD k (0,0)) (fD r k)=e at*;have hb:=EU s0 s1 (gT) (dS e3) (dS e3) (gT);generalize e.v.lo+s*(e.v.hi-e.v.lo)=u at*;obtain⟨d,d0,hd⟩:=hx.open e.l.dir;obtain⟨d',d0',hd'⟩:=hx.open (b7 e.l.dir);by_cases h1:e.v.lo<u
 ·by_cases h2:u<e.v.hi
  ·exact hv u h1 h2 hx
  ·have eu:u=e.v.hi:=by grind
   obtain⟨z,z0,z1,z2⟩: ∃z:Rat,0<z/\z<=d'/\z<e.v.hi-e.v.lo:=by
    by_cases k:d'<(e.v.hi-e.v.lo)/2
    ·exact⟨d',d0',gT,by grind⟩
    ·exact⟨(e.v.hi-e.v.lo)/2,by grind,by grind,by grind⟩
   refine hv (u+ -z) (by grind) (by grind) ?_;rw[EE];have:=hd' z (dS z0) z1;have e5:ce (e.l.at u) (b7 e.l.dir) z=ce (e.l.at u) e.l.dir (-z):=by unfold ce b7;simp only[ab.mk.injEq];constructor<;>grind
   rw[e5] at this;exact this
 ·have eu:u=e.v.lo:=by grind
  obtain⟨z,z0,z1,z2⟩: ∃z:Rat,0<z/\z<=d/\z<e.v.hi-e.v.lo:=by
   by_cases k:d<(e.v.hi-e.v.lo)/2
   ·exact⟨d,d0,gT,by grind⟩
   ·exact⟨(e.v.hi-e.v.lo)/2,by grind,by grind,by grind⟩
  refine hv (u+z) (by grind) (by grind) ?_;rw[EE];exact hd z (dS z0) z1
def Lq{rs:List (List ZP)}{fill:Int}(hr: ∀r∈rs,gi r){c:List aa}(hc: ∀e∈c6 rs,∀t,e.v.ins t-> ¬dh c (e.l.at t)){q p:ab}(hq:dh c q)(hp:dh c p):kB rs fill q=kB rs fill p:=by
 have key: ∀(rs:List (List ZP)),(∀r∈rs,gi r)->(∀e∈c6 rs,∀t,e.v.ins t-> ¬dh c (e.l.at t))-> ∀n:Int,rs.foldl (fun n r=>n+pg r q) n=rs.foldl (fun n r=>n+pg r p) n:=by
  intro rs
  induction rs with
  |nil=>intro _ _ n;rfl
  |cons r t ih=>
   intro hr hc n;rw[fN,fN,<-Vw (XQ (hr r aQ) (fun e he=>hc e (gM.2 ⟨r,aQ,he⟩)) hq hp)];exact ih (fun r h=>hr r (aZ _ h)) (fun e he=>hc e (by obtain⟨r,h1,h2⟩:=gM.1 he;exact gM.2 ⟨r,aZ _ h1,h2⟩)) _
 unfold kB;rw[key rs hr hc]
def AI{cuts:List Rat}(h:cuts.Pairwise (· < ·)){i j:Nat}(hij:i<j)(hj:j<cuts.length):cuts.getD i 0<cuts.getD j 0:=by
 rw[aK,aK,aX hj,aX (by omega)];exact lN.1 h i j (by omega) hj hij
def GX{cuts:List Rat}{marks:List Bool}(h:cuts.Pairwise (· < ·)): ∀{k:Nat},∀v∈iH cuts marks (k+1),k<cuts.length->(v.nh=false/\v.hi<=cuts.getD k 0)/\(v.nl=true\/v.lo<cuts.getD k 0)
 |k,v,hv,hk=>by
  have hg:((gA cuts k).nh=false/\(gA cuts k).hi<=cuts.getD k 0)/\((gA cuts k).nl=true\/(gA cuts k).lo<cuts.getD k 0):=by
   unfold gA;dsimp only;refine⟨⟨by simp;omega,by rw[if_pos hk];exact gT⟩,?_⟩;by_cases z:k=0
   ·left;simp[z]
   ·right;rw[if_neg z];exact AI h (by omega) hk
  have hold: ∀v∈iH cuts marks k,(v.nh=false/\v.hi<=cuts.getD k 0)/\(v.nl=true\/v.lo<cuts.getD k 0):=fun v hv=>by
   cases k with
   |zero=>cases hv
   |succ k=>
    have ih:=GX h v hv (by omega);have:=AI h (Nat.lt_succ_self k) hk;exact⟨⟨ih.1.1,by have:=ih.1.2;grind⟩,ih.2.imp id fun z=>by grind⟩
  rw[iH] at hv;split at hv
  ·split at hv
   ·split at hv
    ·rename_i w hw
     rcases bV.1 hv with q|q
     ·exact hold v ((List.dropLast_sublist _).subset q)
     ·rw[aW] at q;subst q
      exact⟨hg.1,(hold w (sU hw)).2⟩
    ·rcases bV.1 hv with q|q
     ·exact hold v q
     ·rw[aW] at q;subst q;exact hg
   ·rcases bV.1 hv with q|q
    ·exact hold v q
    ·rw[aW] at q;subst q;exact hg
  ·exact hold v hv
def JO{cuts:List Rat}{marks:List Bool}(h:cuts.Pairwise (· < ·)){x:Rat}{i:Nat}(hm:marks.getD i false=true)(hx:(gA cuts i).ins x): ∀{k:Nat},k<=cuts.length+1->i<k-> ∃v∈iH cuts marks k,v.ins x
 |k+1,hk,hi=>by
  by_cases e:i=k
  ·subst e
   rw[iH,if_pos hm];split
   ·rename_i h0
    split
    ·rename_i w hw
     refine⟨_,bM _ (aW.2 J),?_,hx.2⟩;obtain⟨j,rfl⟩: ∃j,i=j+1:=⟨i-1,by omega⟩;have:=(GX h w (sU hw) (by omega)).2;have hl:=hx.1;unfold gA at hl;dsimp only at hl;rw[if_neg (by omega),show j+1-1=j by omega] at hl;have hl':cuts.getD j 0<x:=hl.resolve_left (by simp);exact this.imp id fun z=>by show w.lo<x;grind
    ·exact⟨_,bM _ (aW.2 J),hx⟩
   ·exact⟨_,bM _ (aW.2 J),hx⟩
  ·obtain⟨v,hv,hvx⟩:=JO h hm hx (k:=k) (by omega) (by omega)
   rw[iH];split
   ·split
    ·split
     ·rename_i w hw
      by_cases q:v=w
      ·subst q
       refine⟨_,bM _ (aW.2 J),hvx.1,?_⟩;show(gA cuts k).nh=true\/x<(gA cuts k).hi;obtain⟨j,rfl⟩: ∃j,k=j+1:=⟨k-1,by omega⟩;obtain⟨⟨b1,b2⟩,_⟩:=GX h v hv (by omega);have hh:=hvx.2.resolve_left (by rw[b1];decide);unfold gA;dsimp only;by_cases z:j+1<cuts.length
       ·right;rw[if_pos z];have:=AI h (Nat.lt_succ_self j) z;grind
       ·left;simp;omega
      ·refine⟨v,bK _ ?_,hvx⟩
       obtain⟨l,hl⟩:=List.getLast?_eq_some_iff.1 hw;rw[hl] at hv⊢;rw[List.dropLast_concat];rcases bV.1 hv with z|z
       ·exact z
       ·rw[aW] at z;exact absurd z q
     ·exact⟨v,bK _ hv,hvx⟩
    ·exact⟨v,bK _ hv,hvx⟩
   ·exact⟨v,hv,hvx⟩
def QU: ∀{l:List Rat} {i:Nat},i+1<l.length->(i8 l).getD i 0=(l.getD i 0+l.getD (i+1) 0)/2
 |[],_,h=>by simp at h
 |[_],_,h=>by simp at h
 |a::b::t,0,_=>by simp[i8]
 |a::b::t,i+1,h=>by
  have:=QU (l:=b::t) (i:=i) (by simp at h⊢;omega);rw[i8,lS,this];simp only[lS]
def Dd: ∀(l:List Rat) (a:Rat),(i8 (a::l)).length=l.length
 |[],_=>rfl
 |b::t,a=>by rw[i8,bW,Dd t b,bW]
def V7{cuts:List Rat}(h:cuts.Pairwise (· < ·)){i j:Nat}(hi:i<=cuts.length)(hj:j<cuts.length):(cuts.getD j 0<(gG cuts).getD i 0↔j<i)/\cuts.getD j 0≠(gG cuts).getD i 0:=by
 have mono: ∀{a b:Nat},a<=b->b<cuts.length->cuts.getD a 0<=cuts.getD b 0:=fun{a b} hab hb=>by
  by_cases e:a=b
  ·subst e;exact gT
  ·exact dS (AI h (by omega) hb)
 cases cuts with
 |nil=>simp at hj
 |cons a t=>
  have hl:(a::t).length=t.length+1:=J;rw[gG]
  cases i with
  |zero=>
   rw[tZ];have:=mono (bU j) hj;rw[tZ] at this;constructor
   ·constructor
    ·intro q;exfalso;grind
    ·intro q;omega
   ·intro q;grind
  |succ i=>
   rw[lS];by_cases e:i<t.length
   ·have e1:(i8 (a::t)++[(a::t).getLast (by simp)+1]).getD i 0=((a::t).getD i 0+(a::t).getD (i+1) 0)/2:=by
     rw[<-QU (by omega),aK,aK,eJ (by rw[Dd];exact e)]
    rw[e1];have h1:=AI h (Nat.lt_succ_self i) (by omega);by_cases q:j<=i
    ·have:=mono q (by omega)
     constructor
     ·exact⟨fun _=>by omega,fun _=>by grind⟩
     ·grind
    ·have:=mono (show i+1<=j by omega) hj
     constructor
     ·exact⟨fun _=>by exfalso;grind,fun _=>by omega⟩
     ·grind
   ·have ei:i=t.length:=by omega
    have e1:(i8 (a::t)++[(a::t).getLast (by simp)+1]).getD i 0=(a::t).getLast (by simp)+1:=by
     rw[aK,gQ (by rw[Dd];omega),Dd,ei];simp
    rw[e1];have:=OE h (by simp) ((a::t).getD j 0) (by rw[aK,aX hj];exact cY _);constructor
    ·exact⟨fun _=>by omega,fun _=>by grind⟩
    ·grind
def LX(x:Rat): ∀{cuts:List Rat},cuts.Pairwise (· < ·)-> ∃i,i<=cuts.length/\ ∀j,j<cuts.length->(cuts.getD j 0<x↔j<i)
 |[],_=>⟨0,aN _,fun j hj=>by simp at hj⟩
 |a::t,h=>by
  rw[bY] at h;by_cases q:a<x
  ·obtain⟨i,h1,h2⟩:=LX x h.2
   refine⟨i+1,by simp;exact h1,fun j hj=>?_⟩
   cases j with
   |zero=>simp[q]
   |succ j=>rw[lS,h2 j (by simpa using hj)];omega
  ·refine⟨0,bU _,fun j hj=>⟨fun k=>?_,fun k=>by omega⟩⟩
   exfalso
   cases j with
   |zero=>simp at k;grind
   |succ j=>
    rw[lS] at k;have hj':j<t.length:=by simpa using hj
    have:=h.1 (t.getD j 0) (by rw[aK,aX hj'];exact cY _);grind
def Rm{out:List Rat}{s:aj}{y:Rat}:y∈iG out s↔y∈out\/(s.nl=false/\y=s.lo)\/(s.nh=false/\y=s.hi):=by
 unfold iG
 cases e1:s.nl<;>cases e2:s.nh<;>simp[wB]<;>grind
def wJ{v:aj}{x:Rat}:ng [v] x=true↔v.ins x:=by
 unfold ng Aw Aw aj.ins;have h1:=CM x v.lo;have h2:=F5 x v.hi;rw[decide_eq_true_eq]
 cases e1:v.nl<;>cases e2:v.nh<;>simp only[if_true,dZ,if_false,false_or,true_or,h1,h2,and_true,true_and,show(0:Int)<1 from by decide,show(-1:Int)<0 from by decide]<;>grind
def Py{cuts:List Rat}{v:aj}(hl:v.nl=true\/v.lo∈cuts)(hh:v.nh=true\/v.hi∈cuts){x g:Rat}(ho: ∀u∈cuts,(u<x↔u<g)/\u≠x/\u≠g)(h:v.ins x):v.ins g:=by
 refine⟨?_,?_⟩
 ·rcases hl with e|e
  ·exact .inl e
  ·rcases h.1 with k|k
   ·exact .inl k
   ·exact .inr ((ho _ e).1.1 k)
 ·rcases hh with e|e
  ·exact .inl e
  ·rcases h.2 with k|k
   ·exact .inl k
   ·obtain⟨a,b,c⟩:=ho _ e
    right;by_cases q:v.hi<g
    ·have:=a.2 q;grind
    ·grind
def Vp{v w:aj}{t:Rat}(hv:v.ins t)(hw:w.ins t): ∃z∈i5 2 [v] [w],z.ins t:=by
 have hmem: ∀y,y∈gF ([v]++[w])↔((v.nl=false/\y=v.lo)\/(v.nh=false/\y=v.hi))\/(w.nl=false/\y=w.lo)\/(w.nh=false/\y=w.hi):=fun y=>by
  show y∈iG (iG [] v) w↔_;rw[Rm,Rm];simp
 have hasc:=(Q8 ([v]++[w])).1;have h0: ∀u∈gF ([v]++[w]),u≠t:=fun u hu e=>by
  subst e;rcases(hmem u).1 hu with(⟨a,b⟩|⟨a,b⟩)|⟨a,b⟩|⟨a,b⟩
  ·have:=hv.1.resolve_left (by rw[a];decide);grind
  ·have:=hv.2.resolve_left (by rw[a];decide);grind
  ·have:=hw.1.resolve_left (by rw[a];decide);grind
  ·have:=hw.2.resolve_left (by rw[a];decide);grind
 have l1:v.nl=true\/v.lo∈gF ([v]++[w]):=by
  cases e:v.nl with
  |true=>exact .inl J
  |false=>exact .inr ((hmem _).2 (.inl (.inl ⟨e,J⟩)))
 have l2:v.nh=true\/v.hi∈gF ([v]++[w]):=by
  cases e:v.nh with
  |true=>exact .inl J
  |false=>exact .inr ((hmem _).2 (.inl (.inr ⟨e,J⟩)))
 have l3:w.nl=true\/w.lo∈gF ([v]++[w]):=by
  cases e:w.nl with
  |true=>exact .inl J
  |false=>exact .inr ((hmem _).2 (.inr (.inl ⟨e,J⟩)))
 have l4:w.nh=true\/w.hi∈gF ([v]++[w]):=by
  cases e:w.nh with
  |true=>exact .inl J
  |false=>exact .inr ((hmem _).2 (.inr (.inr ⟨e,J⟩)))
 unfold i5 lD;generalize gF ([v]++[w])=cuts at*;obtain⟨i,hi,ho⟩:=LX t hasc;have hord: ∀u∈cuts,(u<t↔u<(gG cuts).getD i 0)/\u≠t/\u≠(gG cuts).getD i 0:=fun u hu=>by
  obtain⟨j,hj,e⟩:=sT.1 hu;have e':cuts.getD j 0=u:=by rw[aK,aX hj];exact e
  obtain⟨g1,g2⟩:=V7 hasc hi hj;have:=ho j hj;rw[e'] at g1 g2 this;exact⟨this.trans g1.symm,h0 u hu,g2⟩
 have hlen:(gG cuts).length=cuts.length+1:=Mc;refine JO hasc (i:=i) ?_ ?_ (by rw[aJ,hlen];exact aN _) (by rw[aJ,hlen];omega)
 ·rw[aK,fS,aX (by omega)]
  show EH 2 (ng [v] _) (ng [w] _)=true;have e:(gG cuts)[i]'(by omega)=(gG cuts).getD i 0:=by rw[aK,aX (by omega)];rfl
  rw[e,wJ.2 (Py l1 l2 hord hv),wJ.2 (Py l3 l4 hord hw)];rfl
 ·unfold gA aj.ins
  dsimp only;refine⟨?_,?_⟩
  ·by_cases z:i=0
   ·left;simp[z]
   ·right;rw[if_neg z];exact(ho (i-1) (by omega)).2 (by omega)
  ·by_cases z:i=cuts.length
   ·left;simp[z]
   ·right
    rw[if_pos (by omega)];have a:=ho i (by omega);have b:=h0 (cuts.getD i 0) (by rw[aK,aX (by omega)];exact cY _);have c: ¬cuts.getD i 0<t:=fun k=>by have:=a.1 k;omega
    grind
def Iy{l m:aa}(h:crossI l m=0):l.cutK m=0:=by
 have e:l.cutK m= -(crossI l m:Rat):=by unfold aa.cutK aa.nor aa.dir ab.dot crossI;push_cast;grind
 rw[e,h];rfl
def KU{k:Rat}{side:Int}(hs:side=1\/side= -1)(h:0<(side:Rat)*k):k.num.sign=side:=by
 rcases hs with rfl|rfl
 ·exact(jh k).2 (by grind)
 ·have:k.num.sign<0:=(ld k).2 (by grind)
  have:=qJ k.num;omega
def avC{f:aO}{m:aa}{side:Int}(hs:side=1\/side= -1)(hl:f.l.Ne){t:Rat}(ht:f.v.ins t)(hm:0<(side:Rat)*m.value (f.l.at t)): ∃g∈jz f m side,g.l=f.l/\g.v.ins t:=by
 have hv:=lI f.l m t;have ho: ¬uS f.l m=true:=fun e=>by
  unfold uS at e;rw[decide_eq_true_eq,jj] at e;rw[Iy e.1,show f.l.cutC m=m.value f.l.base from J,e.2] at hv;rw[hv] at hm;grind
 unfold jz;rw[if_neg ho];have hh: ∃w,vd f.l m side=[w]/\w.ins t:=by
  unfold vd;by_cases hc:crossI f.l m=0
  ·rw[if_pos hc]
   rw[Iy hc,show f.l.cutC m=m.value f.l.base from J] at hv;rw[if_pos (KU hs (by rw[hv] at hm;grind))];exact⟨_,J,aAy t⟩
  ·rw[if_neg hc]
   have hp:=xh hl hc;have hK:f.l.cutK m≠0:=fun e=>by
    have e2:f.l.cutK m= -(crossI f.l m:Rat):=by unfold aa.cutK aa.nor aa.dir ab.dot crossI;push_cast;grind
    rw[e2] at e;have:(crossI f.l m:Rat)=0:=by grind
    exact hc (dQ.1 this)
   generalize hx:fg f.l (gr f.l m)=x at*;have hv2: ∀u,m.value (f.l.at u)=f.l.cutK m*(u-x):=fun u=>by rw[lI,hp];grind
   rw[hv2] at hm;have e1:m.value (f.l.at (x+1))=f.l.cutK m:=by rw[hv2];grind
   rw[e1];generalize f.l.cutK m=K at*;by_cases q:K.num.sign=side
   ·rw[if_pos q]
    refine⟨_,J, .inr ?_, .inl J⟩;show x<t;rcases hs with rfl|rfl
    ·have:=(jh K).1 q
     have:=(yw this).1 (show 0<K*(t-x) by grind);grind
    ·have:=(ld K).1 (by omega)
     have:=(FN this).1 (show K*(t-x)<0 by grind);grind
   ·rw[if_neg q]
    refine⟨_,J, .inl J, .inr ?_⟩;show t<x;have h3:=fE K;rcases hs with rfl|rfl
    ·have kn:K<0:=by
      rcases h3 with h|h|h
      ·exact absurd h hK
      ·exact absurd ((jh K).2 h) q
      ·exact h
     have:=(FN kn (b:=x-t)).1 (by grind);grind
    ·have kp:0<K:=by
      rcases h3 with h|h|h
      ·exact absurd h hK
      ·exact h
      ·exact absurd (by have:=(ld K).2 h;have:=qJ K.num;omega) q
     have:=(yw kp (b:=x-t)).1 (by grind);grind
 obtain⟨w,e,hw⟩:=hh;rw[e];obtain⟨z,hz,hzt⟩:=Vp ht hw;exact⟨⟨f.l,z⟩,iN hz,J,hzt⟩
def Bh(E:List aO)(c:List aa)(l:List aO):Prop:= ∀e∈E,∀t,e.v.ins t->dh c (e.l.at t)-> ∃f∈l,f.l=e.l/\f.v.ins t
def Bh.split{E l:List aO}{c:List aa}(h:Bh E c l)(hE: ∀e∈E,e.l.Ne){m:aa}{side:Int}(hs:side=1\/side= -1){m':aa}(hm': ∀p,m'.value p=(side:Rat)*m.value p):Bh E (c++[m']) (l.flatMap fun g=>jz g m side):=fun e he t ht hin=>by
 obtain⟨h1,h2⟩:=Hz.1 hin;obtain⟨f,hf,ef,hft⟩:=h e he t ht h1;rw[hm'] at h2;obtain⟨g,hg,eg,hgt⟩:=avC (f:=f) hs (by rw[ef];exact hE e he) hft (by rw[ef];exact h2);exact⟨g,gM.2 ⟨f,hf,hg⟩,by rw[eg,ef],hgt⟩
def ET{acc:ab->Bool}{E:List aO}(hE: ∀e∈E,e.l.Ne)(ha: ∀(c:List aa) (q p:ab),(∀e∈E,∀t,e.v.ins t-> ¬dh c (e.l.at t))->dh c q->dh c p->acc q=acc p): ∀{n:Nat} {l:List aO} {c:List aa} {p:ab},(∀f∈l,ph f)->mO n l->(∀m∈c,m.ok)->Bh E c l->dh c p->e8 (kj acc n l c).lns p->(kj acc n l c).val p=acc p
 |n,[],c,p,_,_,hc,hcov,hp,_=>by
  have e:kj acc n [] c= .leaf (acc (kr c c)):=by cases n<;>rfl
  rw[e,Tr.val];exact ha c _ _ (fun e he t ht hin=>by obtain⟨f,hf,_⟩:=hcov e he t ht hin;cases hf) (at9 hc ((Cv hc).2 ⟨p,hp⟩)) hp
 |0,f::t,_,_,_,hf,_,_,_,_=>by
  obtain⟨K,hK,hs⟩:=hf;obtain⟨m,hm,_⟩:=hs f aQ;have:K=[]:=bL (by omega);rw[this] at hm;cases hm
 |n+1,f::t,c,p,hok,hf,hc,hcov,hp,hoff=>by
  have fo:=hok f aQ;have hok': ∀side,∀g∈(f::t).flatMap fun g=>jz g f.l side,ph g:=fun side g hg=>by
   obtain⟨q,hq,hg⟩:=gM.1 hg;exact(CU (hok q hq) fo.lb g hg).1
  rw[kj] at hoff⊢;by_cases q:0<f.l.value p
  ·rw[Tr.val_pos q]
   exact ET hE ha (hok' 1) (hf.split hok) (NS hc fo.ok) (hcov.split hE (.inl J) fun p=>by grind) (Hz.2 ⟨hp,q⟩) hoff.x
  ·rw[Tr.val_neg q]
   have:=hoff.l;exact ET hE ha (hok' (-1)) (hf.split hok) (NS hc fo.ok.rev) (hcov.split hE (.inr J) fun p=>by rw[f7];grind) (Hz.2 ⟨hp,by rw[f7];grind⟩) hoff.y
def atI{rs:List (List ZP)}{fill:Int}(hr: ∀r∈rs,gi r){p:ab}(ho:e8 (pA rs fill).lns p):(lf rs fill).val p=kB rs fill p:=by
 obtain⟨h1,h2⟩:=sB hr;have hok:(pA rs fill).all aa.ok:=rP fun f hf=>(h2 f hf).ok;unfold lf;rw[Tr.val_restrict _ _ _ hok cI.nil (fun s hs=>by cases hs) ho];unfold pA at ho⊢;refine ET (E:=c6 rs) (fun e he=>(h2 e he).ok.ne) (fun c q p hno hq hp=>Lq hr hno hq hp) h2 ?_ (fun m hm=>by cases hm) (fun e he t ht _=>⟨e,he,J,ht⟩) (fun m hm=>by cases hm) ho;exact⟨(c6 rs).map (·.l),by rw[aJ];exact aN _,fun f hf=>⟨f.l,iN hf, .inl J⟩⟩
structure CI where
 ax:Rat
 ay:Rat
 ac:Rat
def CI.ev(g:CI)(p:ab):Rat:=g.ax*p.x+g.ay*p.y+g.ac
def CI.li(g:CI)(u:ab):Rat:=g.ax*u.x+g.ay*u.y
def QV(a b x:ab):Prop:= ∃s:Rat,0<=s/\s<=1/\x=bt a b s
def aJK(a b p r:ab):Prop:=QV a b p/\((r=⟨b.x-p.x,b.y-p.y⟩/\b≠p)\/(r=⟨a.x-p.x,a.y-p.y⟩/\a≠p))
def LZ(r u:ab):Prop:= ∃k:Rat,0<k/\u=⟨k*r.x,k*r.y⟩
def div_pos{a b:Rat}(ha:0<a)(hb:0<b):0<a/b:=by
 have e:a/b*b=a:=by grind
 exact(il hb).1 (by rw[e];exact ha)
def aI7(E:List (ab×ab))(p u:ab):Prop:=u≠⟨0,0⟩/\ ∀f∈E,∀r,aJK f.1 f.2 p r-> ¬LZ r u
def tv(r:List ZP):List (ab×ab):=(List.range r.length).map fun k=>((r.getD k (0,0)).q,(fD r k).q)
def ER(rs:List (List ZP)):List (ab×ab):=rs.flatMap tv
def aE0{a b:ZP}(h:a.q=b.q):a=b:=by
 have hx:(a.1:Rat)=(b.1:Rat):=congrArg ab.x h;have hy:(a.2:Rat)=(b.2:Rat):=congrArg ab.y h;exact Prod.ext (by exact_mod_cast hx) (by exact_mod_cast hy)
def aI1(rs:List (List ZP))(fill:Int)(p v:ab)(b:Bool):Prop:= ∃e:Rat,0<e/\ ∀d,0<d->d<=e->kB rs fill (ce p v d)=b
section
variable {rs:List (List ZP)} {fill:Int} {p v w:ab} {b c:Bool}
end
def aGX(ds:List ab)(u:ab):Prop:=u≠⟨0,0⟩/\ ∀r∈ds,¬LZ r u
def WdD(ds:List ab)(v w:ab):Prop:= ∀s,0<=s->s<=1->aGX ds (bt v w s)
def wR(x y:ab):Nat:=if x.cross y<0 then 1 else if 0<x.cross y then 3 else if 0<x.dot y then 0 else 2
def aIH(x y z:ab):Prop:=wR x y<wR x z\/(wR x y=wR x z/\(wR x y=1\/wR x y=3)/\0<z.cross y)
section
variable {ds:List ab}
end
def ePa(x:Bool×aC):DV:= .ag [.sl (x.2.map bj),eU (.leaf x.1)]
def eC(c:aC):DV:= .sl (c.map bj)
def aIf(ps:List (Bool×aC)):List aC:=(ps.filter (·.1)).map (·.2)
def aHr(G:Gh)(y:Value)(h:Is G (.ag [vI 0,vI 0, .v (.pointer none),vI 0,vI 0, .v (.pointer none)]) y):Is G (eZ (pE [])) y:=by
 obtain⟨m,rfl,g⟩:=c8.1 h;obtain⟨v1,m,rfl,h1,g⟩:=aP.1 g;obtain⟨v2,m,rfl,h2,g⟩:=aP.1 g;obtain⟨v3,m,rfl,h3,g⟩:=aP.1 g;obtain⟨v4,m,rfl,h4,g⟩:=aP.1 g;obtain⟨v5,m,rfl,h5,g⟩:=aP.1 g;obtain⟨v6,m,rfl,h6,g⟩:=aP.1 g
 cases cG.1 g
 have e1:=vW G _ (c8.2 ⟨[v1,v2,v3],J, .cons h1 (.cons h2 (.cons h3 .nil))⟩);have e2:=vW G _ (c8.2 ⟨[v4,v5,v6],J, .cons h4 (.cons h5 (.cons h6 .nil))⟩);obtain⟨m1,q1,g1⟩:=c8.1 e1;obtain⟨m2,q2,g2⟩:=c8.1 e2
 cases q1;cases q2
 exact c8.2 ⟨_,J,g1.app g2⟩
theorem BQ.samp(v:aj)(i j:Nat)[h1:BQ v.lo i][h2:BQ v.hi j]:BQ v.sample (i+j+1+2):=by
 have b1:BQ (1:Rat) 1:=⟨by decide,by decide⟩;unfold aj.sample;split
 ·exact BQ.z1.mono (by omega)
 ·split
  ·exact(inferInstance:BQ (v.hi-1) (j+1+1)).mono (by omega)
  ·split
   ·exact(inferInstance:BQ (v.lo+1) (i+1+1)).mono (by omega)
   ·exact inferInstance
theorem EY{s:aO}(h:AV s):aI (s.l.at s.v.sample) 3500:=by
 haveI:=h.lb;haveI:=h.v.lo;haveI:=h.v.hi;have h0:BQ s.v.sample _:=BQ.samp s.v 1200 1200;have:= @aI.at s.l s.v.sample _ _ h0;exact⟨this.x.mono (by decide),this.y.mono (by decide)⟩
theorem D3{s g:aO}(hs:AV s)(hg:AV g):BQ (-(g.l.value (s.l.at s.v.sample)/g.l.nor.dot s.l.nor)) 9000:=by
 haveI:=hs.lb;haveI:=hg.lb;haveI:=EY hs;exact BQ.mono (inferInstance:BQ (-(g.l.value (s.l.at s.v.sample)/g.l.nor.dot s.l.nor)) _) (by decide)
def ZY:PF GB prog 255 [eC []] (eZ (pE [])):=by
 refine fn (fu:=⟨10⟩) func255 J J ntmps255 J J (fun C=>?_);refine f8 J (by rfl) J<|?_;exact ja J aHr
def VF(l:List aO):ew 17 (l.map bj):=fun d hd=>by
 obtain⟨x,_,rfl⟩:=bJ.1 hd;exact⟨J,J⟩
def Nr{l:aa}{p:ab}{cs:aC}{k:Nat}{g:aO}{f:Rat}(h:cs[k]? =some g):jg l p (cs.drop k) f=jg l p (cs.drop (k+1)) (if Int.sign (g.l.nor.dot l.nor).num<0 then(if-(g.l.value p/g.l.nor.dot l.nor)<f then-(g.l.value p/g.l.nor.dot l.nor) else f) else f):=by
 obtain⟨h1,h2⟩:=aR.1 h;rw[aM h1,h2,jg]
def Qn(s:aO)(cs:aC):pE (s::cs)=(s.l.at s.v.sample).add (s.l.nor.scale (jg s.l (s.l.at s.v.sample) cs 1*mkRat 1 2)):=by
 show ce _ _ _=_;unfold ce ab.add ab.scale;simp only[ab.mk.injEq];constructor<;>grind
def W9{s:aO}{cs:aC}(hc:iu (s::cs))(hn:cs.length<=100000):PF GB prog 255 [eC (s::cs)] (eZ (pE (s::cs))):=by
 have hs:=hc s aQ;have hsl:=hs.lb;have hv1:=hs.v.lo;have hv2:=hs.v.hi;have hp:=EY hs;have hml:((s::cs).map bj).length=cs.length+1:=by simp
 have hml2:(cs.map bj).length=cs.length:=aJ ..;refine fn (fu:=⟨10⟩) func255 J J ntmps255 J J (fun C=>?_);refine eE J (by show some (decide _)=some false;rw[decide_eq_false (by simp;omega)]) J<|ix _ J J J<|ix _ J J J<|cl J (LY (v:=s.v) (i:=1200)) J<|?_;refine cl J (Do (l:=s.l) (t:=s.v.sample)) J<|ix _ J J J<|cl J (xY (l:=s.l)) J<|cl J (pP (by omega)) J<|vS (fu:=⟨1⟩) 1 (cs.length+1) (cs.map bj) J J (by rw[hml]) (by rw[bZ (by rw[hml];exact aN _)];rfl) (VF _) (by omega) (by omega) J<|?_;refine av 31 (.d (vI (cs.length:Nat))) J (by rw[hml2]<;>rfl) ?_;refine gx J<|?_;refine lp (X:=Rat×Nat) (fun⟨f,k⟩=>[(32, .d (vI (k:Nat))),(5, .ov 5 0)]) (fun⟨f,k⟩=>[(5,some (.o 139 [.d (vI (dC f)), .d (vI (dB f)), .d (du f)] true))]) (fun⟨f,k⟩=>jg s.l (s.l.at s.v.sample) (cs.drop k) f=jg s.l (s.l.at s.v.sample) cs 1/\k<=cs.length/\BQ f 9000) (fun⟨f,k⟩=>cs.length-k) ⟨((1:Int):Rat),0⟩ J ⟨J,bU _,BQ.mono (k:=2) ⟨by decide,by decide⟩ (by decide)⟩ (fun _=>J) (fun⟨f,k⟩ hk=>?_)
 try dsimp only at hk⊢
 obtain⟨h1,h2,h3⟩:=hk;refine br J J J (fun hc33=>?_) (fun hc33=>?_)
 .
  obtain⟨g,hx⟩: ∃g,cs[k]? =some g:=⟨_,aX (by omega)⟩;have hg:=hc g (aZ _ (bX hx));have hgl:=hg.lb;have hfb:=D3 hs hg;refine ix _ J (fh hx) J<|cl J (xY (l:=g.l)) J<|cl J (uM (p:=g.l.nor) (q:=s.l.nor)) J<|cl J (my (q:=g.l.nor.dot s.l.nor)) J<|?_;refine br J J J (fun hc43=>?_) (fun hc43=>?_)
  .
   refine cl J (Ie (l:=g.l) (p:=(s.l.at s.v.sample))) J<|cl J (Ac (p:=g.l.value (s.l.at s.v.sample)) (q:=g.l.nor.dot s.l.nor)) J<|?_;refine cl J (ot (q:=g.l.value (s.l.at s.v.sample)/g.l.nor.dot s.l.nor)) J<|cl (hv:=by simp only[ah];exact⟨by kernel_rfl,by omega⟩) J (Ka (p:=f) (q:= -(g.l.value (s.l.at s.v.sample)/g.l.nor.dot s.l.nor))) J<|?_;exact at_ ⟨if-(g.l.value (s.l.at s.v.sample)/g.l.nor.dot s.l.nor)<f then-(g.l.value (s.l.at s.v.sample)/g.l.nor.dot s.l.nor) else f,k+1⟩ (by dsimp only;exact⟨⟨by rw[<-h1,Nr hx,if_pos hc43],by omega,by split;exact D3 hs hg;exact h3⟩,(by omega)⟩)
  .
   exact at_ ⟨f,k+1⟩ (by dsimp only;exact⟨⟨by rw[<-h1,Nr hx,if_neg hc43],by omega,h3⟩,(by omega)⟩)
 .
  obtain rfl:k=cs.length:=by omega
  obtain rfl:f=jg s.l (s.l.at s.v.sample) cs 1:=by rw[jZ] at h1;exact h1
  refine cl J (IX (q:=jg s.l (s.l.at s.v.sample) cs 1)) J<|cl J (B5 (p:=s.l.nor) (c:=jg s.l (s.l.at s.v.sample) cs 1*mkRat 1 2)) J<|?_;refine cl J (HC (p:=(s.l.at s.v.sample)) (q:=s.l.nor.scale (jg s.l (s.l.at s.v.sample) cs 1*mkRat 1 2))) J<|?_;exact rz J (by rw[Qn];rfl)
def eRz(v:List ab):DV:= .sl (v.map eZ)
def eRa(v:List ab):DV:= .sl (v.map oo)
def ow{α:Type}(f:α->Rat):List α->Rat
 |[]=>0
 |a::t=>f a+ow f t
def T2(f:ab->ab->Rat)(v:List ab):Rat:=ow (fun i=>f (v.getD i ⟨0,0⟩) (v.getD ((i+1)%v.length) ⟨0,0⟩)) (List.range v.length)
def aIW(c:aC):Rat:=ow (fun s=>(s.v.hi-s.v.lo)*(s.l.c:Rat)) c
def aKQ(t:Tr):Prop:= ∃(L:List aa) (R:Rat),(∀l∈L,l.ok)/\ ∀p,e8 L p->UH R p->t.val p=false
def Mn(es:List Int):Nat->Nat->Tr×Nat
 |0,a=>tM es a
 |d+1,a=>
  let k:=bg es 3 a
  if(k.1:Int)=0 then
   let x:=Mn es d k.2
   let o:=bg es 4 x.2
   let y:=Mn es d o.2
   (x.1.mergeQ (1+(o.1:Int)) y.1 [],y.2)
  else tM es k.2
def aLq(f:ab->ab->Rat):Prop:= ∀(l:aa) (a b c:Rat),l.Ne->f (l.at a) (l.at c)=f (l.at a) (l.at b)+f (l.at b) (l.at c)
def sdF(f:ab->ab->Rat)(s:aO):Rat:=f (s.l.at s.v.lo) (s.l.at s.v.hi)
def Zx(f:ab->ab->Rat)(c:aC):Rat:=T2 f (wx (c.map (·.l)))
def YL(f:ab->ab->Rat)(t:Tr)(c:aC):Rat:=ow (fun x:Bool×aC=>if x.1 then Zx f x.2 else 0) (t.parts c)
def muG(f:ab->ab->Rat)(t:Tr)(c:aC)(l:aa):Rat:=if cH c l then YL f t (bE c l) else 0
def aKT(t:Tr)(c:aC):Prop:= ∀x∈t.parts c,x.1=true->Ws x.2=true
def Po(v:List ab):List (ab×ab):=(List.range v.length).map fun i=>(v.getD i ⟨0,0⟩,v.getD ((i+1)%v.length) ⟨0,0⟩)
def qy(cs:List (List aa)):List (ab×ab):=cs.flatMap fun c=>Po (wx c)
def rx(cs:List aC):List (List aa):=cs.map fun c=>c.map (·.l)
def edE(x:ab×ab):List DV:=[Di x.1 x.2,eF (x.1.cross x.2)]

def eCl(x:List aa×Bool):DV:= .ag [.sl (x.1.map eL),vB x.2]
def eSd(c:List aa):DV:= .sl (c.map eL)
def aKt(ps:List (List aa×Bool)):List (List aa):=(ps.filter (·.2)).map (·.1)
def eRp(v:List ab):DV:= .sl (v.map eP)
structure O8 (GB:Gh) (ai al ae au:Addr):Prop extends EG GB ai al ae where
 ErrUnbounded:GB 5=some [.iface 499 (.pointer (some au))]
def aKE(c:aC):List (List ab):=KB (wx (c.map (·.l)))


def vn:List ZP:=[(0,0),(1,0),(0,1)]
def ZT:gi vn:=⟨by decide,by decide,fun p hp=>by
 unfold vn at hp;simp only[aY,nZ,or_false] at hp;rcases hp with rfl|rfl|rfl<;>exact⟨by decide,by decide⟩,by decide⟩
structure EGS (GB:Gh) (ai al ae au ar:Addr):Prop extends O8 GB ai al ae au where
 ErrEmpty:GB 4=some [.iface 499 (.pointer (some ae))]
 ErrRange:GB 2=some [.iface 499 (.pointer (some ar))]
def Jq(r:List ab)(j:Nat):Nat->ab
 |0=>(((r.getD 0 ⟨0,0⟩).add (r.getD 1 ⟨0,0⟩)).add (r.getD 2 ⟨0,0⟩)).scale (((1:Int):Rat)/((3:Int):Rat))
 |k+1=>((Jq r j k).add (r.getD j ⟨0,0⟩)).scale (((1:Int):Rat)/((2:Int):Rat))
def smp(ts:List (List ab))(i:Nat):ab:=Jq (ts.getD (i%ts.length) []) (i%3) (i/ts.length)
theorem aI.mono{p:ab}{i j:Nat}(h:aI p i)(hj:i<=j):aI p j:=⟨h.x.mono hj,h.y.mono hj⟩
structure Yl (cs:List aC) (b:Nat):Prop where
 lb: ∀c∈cs,∀s∈c,LB s.l
 sh: ∀c∈cs,c.length<=100000
 ln:cs.length<=1000000
 pt: ∀x∈qy (rx cs),aI x.1 b/\aI x.2 b
def Oh(x:ab×ab):ab:=(x.1.add x.2).scale (x.1.cross x.2)
def Kn{α:Type}(f:α->ab)(l:List α):ab:=⟨ow (fun x=>(f x).x) l,ow (fun x=>(f x).y) l⟩
def DD{n:Int}{d:Nat}(hn:n.natAbs<=1000)(hd:0<d)(hd1:d<=1000):PF GB prog 64 [vI n, .v (.int .i64 (d:Nat))] (eQ (mkRat n d)):=by
 haveI:BI n 10:=Av (by omega);haveI:BN d 10:=⟨by omega⟩;refine fn func64 J J ntmps64 J J (fun C=>?_);refine cl J (JR (n:=n) (by omega) (by omega)) J<|cl J (sH (u:=d) (by omega)) J<|cl J (x8 (x:=n) (d:=d) hd) J<|?_;exact rz J J
def qF(es:List Int)(a:Nat):Rat×Nat:=
 (if((bg es 6 (bg es 9 a).2).1:Int)=0 then mkRat (2*(((bg es 9 a).1:Int)-4)+1) 2 else if((bg es 6 (bg es 9 a).2).1:Int)=1 then mkRat (3*(((bg es 9 a).1:Int)-4)+1) 3 else(((bg es 9 a).1:Rat)-4:Rat),(bg es 6 (bg es 9 a).2).2)
theorem I0{es:List Int}{a:Nat}(ha:a<=es.length):BQ (qF es a).1 12/\(qF es a).2<=es.length:=by
 have h1:=uC (es:=es) (n:=9) (a:=a) (by decide);refine⟨?_,qr (qr ha)⟩;unfold qF;dsimp only;split
 ·exact vU (by decide) (by omega) (by decide)
 ·split
  ·exact vU (by decide) (by omega) (by decide)
  ·haveI:BI (((bg es 9 a).1:Int)-4:Int) 11:=Av (by omega)
   have e:((((bg es 9 a).1:Rat)-4):Rat)=((((bg es 9 a).1:Int)-4:Int):Rat):=by rw[mU];rfl
   rw[e];exact inferInstance
def p8(es:List Int)(a:Nat):ab×Nat:=(⟨(qF es a).1,(qF es (qF es a).2).1⟩,(qF es (qF es a).2).2)
theorem aAF{es:List Int}{a:Nat}(ha:a<=es.length):aI (p8 es a).1 1200/\(p8 es a).2<=es.length:=by
 obtain⟨h1,h2⟩:=I0 ha;obtain⟨h3,h4⟩:=I0 h2;exact⟨⟨h1.mono (by decide),h3.mono (by decide)⟩,h4⟩
def q9(z:Nat):(z:Rat)-4=(((z:Int)-4:Int):Rat):=by rw[mU];rfl
def Af:aa:=⟨1,0,0⟩
def aKA(es:List Int)(L:List aa)(a:Nat):ab×Nat:=
 if L.length=0 then p8 es a else
 if((bg es 3 (bg es L.length a).2).1:Int)=0 then
  (if crossI (L.getD (bg es L.length a).1 Af) (L.getD (bg es L.length (bg es 3 (bg es L.length a).2).2).1 Af)≠0 then(gr (L.getD (bg es L.length a).1 Af) (L.getD (bg es L.length (bg es 3 (bg es L.length a).2).2).1 Af),(bg es L.length (bg es 3 (bg es L.length a).2).2).2) else p8 es (bg es L.length (bg es 3 (bg es L.length a).2).2).2)
 else if((bg es 3 (bg es L.length a).2).1:Int)=1 then((L.getD (bg es L.length a).1 Af).at (qF es (bg es 3 (bg es L.length a).2).2).1,(qF es (bg es 3 (bg es L.length a).2).2).2) else p8 es (bg es 3 (bg es L.length a).2).2
def Rf{b:Nat}{es:List Int}(hes:es.length<=400){a:Nat}(ha:a<=es.length):PM GB prog 72 (gI [none] b) b 126 [.sl (es.map vI), .v (.int .i64 (a:Nat))] (eQ (qF es a).1) [.sl (es.map vI), .v (.int .i64 ((qF es a).2:Nat))]:=by
 have h1:=uC (es:=es) (n:=9) (a:=a) (by decide);refine uz func72 J J ntmps72 J J (fun C b m lo hmb=>?_);refine cm J (fun b=>(yg (n:=9) hes ha (by decide) (by decide))) J<|cm J (fun b=>(yg (n:=6) hes (qr ha) (by decide) (by decide))) J<|?_;refine br J J J (fun hc9=>?_) (fun hc9=>?_)
 .
  refine cl J (DD (n:=2*(((bg es 9 a).1:Int)-4)+1) (d:=2) (by omega) (by decide) (by decide)) J<|?_;exact n5 hmb J J (by unfold qF;dsimp only;rw[if_pos hc9];rfl) J
 .
  refine br J J J (fun hc15=>?_) (fun hc15=>?_)
  .
   refine cl J (DD (n:=3*(((bg es 9 a).1:Int)-4)+1) (d:=3) (by omega) (by decide) (by decide)) J<|?_;exact n5 hmb J J (by unfold qF;dsimp only;rw[if_neg hc9,if_pos hc15];rfl) J
  .
   refine cl J (o7 (n:=(((bg es 9 a).1:Int)-4)) (by omega) (by omega)) J<|?_;exact n5 hmb J J (by unfold qF;dsimp only;rw[if_neg hc9,if_neg hc15,q9];rfl) J
def T3{b:Nat}{es:List Int}(hes:es.length<=400){a:Nat}(ha:a<=es.length):PM GB prog 36 (gI [none] b) b 126 [.sl (es.map vI), .v (.int .i64 (a:Nat))] (eP (p8 es a).1) [.sl (es.map vI), .v (.int .i64 ((p8 es a).2:Nat))]:=by
 refine uz func36 J J ntmps36 J J (fun C b m lo hmb=>?_);refine cm J (fun b=>(Rf hes ha)) J<|cm J (fun b=>(Rf hes (I0 ha).2)) J<|?_;exact n5 hmb J J J J

structure EGV (GB:Gh) (ai al ae au:Addr):Prop extends O8 GB ai al ae au where
 ErrEmpty:GB 4=some [.iface 499 (.pointer (some ae))]
def Tc(x:ab×ab):Rat:=(x.1.x*x.1.x+x.2.x*x.2.x+(x.1.add x.2).x*(x.1.add x.2).x)*x.1.cross x.2
def aJ2(x:ab×ab):Rat:=(x.1.x*x.1.y+x.2.x*x.2.y+(x.1.add x.2).x*(x.1.add x.2).y)*x.1.cross x.2
def aKb(x:ab×ab):Rat:=(x.1.y*x.1.y+x.2.y*x.2.y+(x.1.add x.2).y*(x.1.add x.2).y)*x.1.cross x.2
structure aK8 (cs:List aC):Prop where
 ed:Yl cs 1200
 cr: ∀x∈qy (rx cs),BQ (x.1.cross x.2) 5000
 ar: ∀k,BQ (ow (fun x=>x.1.cross x.2) ((qy (rx cs)).take k)) 2000000
 mo: ∀k,aI (Kn Oh ((qy (rx cs)).take k)) 3000000
 sa: ∀k,BQ (ow Tc ((qy (rx cs)).take k)) 4000000
 sb: ∀k,BQ (ow aJ2 ((qy (rx cs)).take k)) 4000000
 sc: ∀k,BQ (ow aKb ((qy (rx cs)).take k)) 4000000
def aI6(t:Tr):Rat:=ow (fun x=>x.1.cross x.2) (qy (rx (F8 t)))*mkRat 1 2
def aKz(t:Tr):ab:=(Kn Oh (qy (rx (F8 t)))).scale (((1:Int):Rat)/((6:Int):Rat))
def zR0:DV:= .ag [vB false, .sl [], .sl []]
def zP0:DV:= .ag [vB false, .sl [], .sl [],vB false, .sl [], .sl []]
def UB:Rat:=((1:Int):Rat)/((24:Int):Rat)
def aKH(f:ab×ab->Rat)(t:Tr):Rat:=ow f (qy (rx (F8 t)))*UB
structure DQ (D B:Nat) (x:Rat):Prop where
 ex: ∃n:Int,x*((D:Nat):Rat)=(n:Rat)/\n.natAbs<=B*D
def Yy(l m:aa):Nat:=if crossI l m=0 then 1 else(crossI l m).natAbs
def aJe(K:List aa):List Nat:=K.flatMap fun l=>K.map (Yy l)
def aK9(K:List aa):Nat:=(aJe K).foldr (· * ·) 1
structure DP (D B:Nat) (p:ab):Prop where
 x:DQ D B p.x
 y:DQ D B p.y

def eM(a b c d e f:Rat):DV:= .ag [(.v (.bool (decide ((a).num<0)))),(dN (a).num.natAbs),(dD (a).den),(.v (.bool (decide ((b).num<0)))),(dN (b).num.natAbs),(dD (b).den),(.v (.bool (decide ((c).num<0)))),(dN (c).num.natAbs),(dD (c).den),(.v (.bool (decide ((d).num<0)))),(dN (d).num.natAbs),(dD (d).den),(.v (.bool (decide ((e).num<0)))),(dN (e).num.natAbs),(dD (e).den),(.v (.bool (decide ((f).num<0)))),(dN (f).num.natAbs),(dD (f).den)]
def zq3:List DV:=[.v (.bool (decide ((0:Rat).num<0))),dN (0:Rat).num.natAbs,dD (0:Rat).den]

def LC{C:aD}{n:Nat}{Q0:Exit->Act->World->Prop}{fr fr':aA}{own own':aG}{cf cf':Cf}{vc:List Prop}[fu:Fu]{f:FuncId}{ds:List DV}(ha:xL fr cf=some (f,ds))(hF:PF GB prog f ds (.v (.bool true)))(hgo:cD tt n fu.n fr own cf .tt [] []=⟨vc,fr',own',cf'⟩)(k:ak prog GB C n Q0 fr' own' cf')
  (hv:ah vc:=by first|exact trivial|(simp only[ah];kernel_rfl)|(simp only[ah];omega)):ak prog GB C n Q0 fr own cf:=by
 unfold xL at ha;split at ha<;>try (cases ha;done)
 rename_i hh;exact us hh (bH.to (g:= .tt) (HN ha hF) fun ρ G y hy=>(aF (G:=G)).1 hy) hgo hv k
def sqA:List ZP:=[(0,0),(2,0),(2,2),(0,2)]
def sqT:Tr:=lf [sqA] 2



def aKy(M:List aa)(E:List (ab×ab)):Prop:= ∀f∈E,∃m∈M,m.value f.1=0/\m.value f.2=0
def N2(m:aa)(a p:ab):m.nor.dot ⟨a.x-p.x,a.y-p.y⟩=m.value a-m.value p:=by
 rw[lB,lB];unfold aa.nor ab.dot;dsimp only;grind
section
variable {rs:List (List ZP)} {fill:Int} {p:ab}
def aKs(rs:List (List ZP))(fill:Int)(p:ab)(b:Bool):Prop:= ∃x,aI7 (ER rs) p x/\aI1 rs fill p x b
end
section
variable {rs:List (List ZP)} {fill:Int} {L:List aa} {p:ab}
end
def NN(v:aj)(t:Rat):Bool:=(v.nl||decide (cg v.lo t<=0))&&(v.nh||decide (0<=cg v.hi t))
def Io(f:aO)(p:ab):Bool:=decide (Int.sign (f.l.value p).num=0)&&NN f.v (fg f.l p)
def q7(f:aO)(p:ab):Int:=
 if Int.sign f.l.dir.y.num=0\/Int.sign (f.l.value p).num≠Int.sign f.l.dir.y.num then 0
 else if(if Int.sign f.l.dir.y.num<0 then f.v.nh=false/\0<cg (f.l.at f.v.hi).y p.y else f.v.nl=false/\0<cg (f.l.at f.v.lo).y p.y) then 0
 else if(if Int.sign f.l.dir.y.num<0 then f.v.nl=false/\cg (f.l.at f.v.lo).y p.y<=0 else f.v.nh=false/\cg (f.l.at f.v.hi).y p.y<=0) then 0
 else Int.sign f.l.dir.y.num
def jd(E:List aO)(p:ab):Int:=E.foldl (fun n f=>n+q7 f p) 0
def U3{v w:ZP}(h:v≠w)(p:ab): ∃g:Rat,0<g/\c9 v.q w.q p=g*(dx v w).l.value p/\w.q.y-v.q.y=g*(dx v w).l.dir.y:=by
 obtain⟨g,g0,h1,h2,h3⟩:=MW h;refine⟨g,g0,?_,by rw[h3];unfold ce;show _=g*(iE v.1 v.2 w.1 w.2).dir.y;dsimp only;grind⟩;show _=g*(iE v.1 v.2 w.1 w.2).value p;rw[h3];generalize iE v.1 v.2 w.1 w.2=l at*;rw[lB] at*;unfold c9 ce aa.dir;dsimp only;grind
def Vk{v w:ZP}(h:v≠w)(ho:(dx v w).l.ok)(p:ab):q7 (dx v w) p=oP v.q w.q p:=by
 obtain⟨e1,e2,e3⟩:=Fk h ho;obtain⟨g,g0,o1,o2⟩:=U3 h p;have b1:(dx v w).v.nl=false:=J;have b2:(dx v w).v.nh=false:=J;have so:(0<c9 v.q w.q p↔0<(dx v w).l.value p)/\(c9 v.q w.q p<0↔(dx v w).l.value p<0):=by
  rw[o1];constructor
  ·rw[Rat.mul_comm];exact il g0
  ·have:=il (s:= -(dx v w).l.value p) g0
   grind
 have sy:(v.q.y<w.q.y↔0<(dx v w).l.dir.y)/\(w.q.y<v.q.y↔(dx v w).l.dir.y<0):=by
  have t1:=il (s:=(dx v w).l.dir.y) g0;have t2:=il (s:= -(dx v w).l.dir.y) g0;constructor<;>grind
 unfold q7;rw[b1,b2,e1,e2];simp only[true_and,Of,CM];generalize (dx v w).l.value p=z at*;generalize (dx v w).l.dir.y=u at*;unfold oP;rcases fE u with k|k|k
 ·rw[if_pos (.inl ((jj _).2 k))]
  have: ¬(v.q.y<=p.y/\ ¬w.q.y<=p.y/\0<c9 v.q w.q p):=fun q=>by grind
  have: ¬(¬v.q.y<=p.y/\w.q.y<=p.y/\c9 v.q w.q p<0):=fun q=>by grind
  rw[if_neg ‹_›,if_neg ‹_›];rfl
 ·have su:Int.sign u.num=1:=(jh _).2 k
  rw[su];have n2: ¬(¬v.q.y<=p.y/\w.q.y<=p.y/\c9 v.q w.q p<0):=fun q=>by grind
  rw[if_neg n2];simp only[show¬((1:Int)<0) by decide,if_false,show¬((1:Int)=0) by decide,false_or];by_cases hz:0<z
  ·rw[if_neg (by rw[(jh _).2 hz];simp)]
   by_cases a1:v.q.y<=p.y
   ·rw[if_neg (by grind)]
    by_cases a2:w.q.y<=p.y
    ·rw[if_pos a2,if_neg (by grind)];rfl
    ·rw[if_neg a2,if_pos ⟨a1,a2,so.1.2 hz⟩];rfl
   ·rw[if_pos (by grind),if_neg (by grind)];rfl
  ·rw[if_pos (fun q=>hz ((jh _).1 q)),if_neg (by grind)];rfl
 ·have su:Int.sign u.num= -1:=qG k
  rw[su];have n2: ¬(v.q.y<=p.y/\ ¬w.q.y<=p.y/\0<c9 v.q w.q p):=fun q=>by grind
  rw[if_neg n2];simp only[show(-1:Int)<0 by decide,if_true,show¬((-1:Int)=0) by decide,false_or];by_cases hz:z<0
  ·rw[if_neg (by rw[qG hz];simp)]
   by_cases a1:w.q.y<=p.y
   ·rw[if_neg (by grind)]
    by_cases a2:v.q.y<=p.y
    ·rw[if_pos a2,if_neg (by grind)];rfl
    ·rw[if_neg a2,if_pos ⟨a2,a1,so.2.2 hz⟩];rfl
   ·rw[if_pos (by grind),if_neg (by grind)];rfl
  ·rw[if_pos (fun q=>hz (by
    have h4:Int.sign z.num<0:=by rw[q];decide
    exact(ld _).1 h4)),if_neg (by grind)];rfl
def DC{α:Type}(f:α->Int): ∀(l:List α) (n:Int),l.foldl (fun n x=>n+f x) n=n+l.foldl (fun n x=>n+f x) 0
 |[],n=>by simp
 |a::t,n=>by
  rw[fN,fN,DC f t (n+f a),DC f t (0+f a)];omega
def IW(E F:List aO)(p:ab):jd (E++F) p=jd E p+jd F p:=by
 unfold jd;rw[List.foldl_append,DC]
def Ta{r:List ZP}(hr:gi r)(p:ab):jd (iI r) p=pg r p:=by
 have key: ∀k,k<=r.length->jd (ly r k) p=zb r p k:=by
  intro k
  induction k with
  |zero=>intro _;rfl
  |succ k ih=>
   intro hk;have hm:=Fx (r:=r) (k:=k) (n:=r.length) (by omega);have ho:=((wi hr).2 _ hm).ok;rw[ly,IW,ih (by omega),zN,zN,jA];have e:jd [dx (r.getD k (0,0)) (fD r k)] p=q7 (dx (r.getD k (0,0)) (fD r k)) p:=by unfold jd;simp
   rw[e,Vk (hr.ne k (by omega)) ho]
 exact key r.length (aN _)
def Rt: ∀{rs:List (List ZP)},(∀r∈rs,gi r)-> ∀p,jd (c6 rs) p=rs.foldl (fun n r=>n+pg r p) 0
 |[],_,p=>rfl
 |r::rs,h,p=>by
  have e:c6 (r::rs)=iI r++c6 rs:=J;rw[e,IW,Ta (h r aQ),Rt fun q hq=>h q (aZ _ hq),fN,DC _ rs (0+pg r p)];omega
def Wi(f:aO)(p:ab):Bool:=f.v.nh||decide (cg (fg f.l p) f.v.hi<0)
def loR(f:aO)(p:ab):Bool:=f.v.nl||decide (0<cg (fg f.l p) f.v.lo)
def Xc(p:ab)(f:aO):List ab:=if Io f p then(if Wi f p then [dE f.l.dir] else [])++(if loR f p then [b7 (dE f.l.dir)] else []) else []
def Ea(E:List aO)(p:ab):List ab:=gD (E.flatMap (Xc p))
def Qi(p d q:ab):Rat:=(⟨q.x-p.x,q.y-p.y⟩:ab).dot d/d.dot d
def S9(a b:Rat):Rat×Bool:=
 if 0<Int.sign b.num/\(¬0<Int.sign a.num\/cg b a<0) then(b,true) else if 0<Int.sign a.num then(a,true) else(0,false)
def Gl(f:aO)(p d:ab):Rat×Bool:=
 if f.l.nor.dot d=0 then(if f.l.value p=0 then S9 (Qi p d (f.l.at f.v.lo)) (Qi p d (f.l.at f.v.hi)) else(0,false))
 else(-(f.l.value p/f.l.nor.dot d),decide (0<Int.sign (-(f.l.value p/f.l.nor.dot d)).num)&&NN f.v (fg f.l (ce p d (-(f.l.value p/f.l.nor.dot d)))))
def aJV(p d:ab)(s:Rat)(f:aO):Rat:=if Io f p then s else if(Gl f p d).2 then(if(Gl f p d).1<s then(Gl f p d).1 else s) else s
def IK(E:List aO)(p d:ab):ab:=ce p d (E.foldl (aJV p d) 1*mkRat 1 2)
def aLv(E:List aO)(p:ab)(acc:ab->Bool):Int:=
 if((je (Ea E p)).any fun v=>acc (IK E p v))&&(je (Ea E p)).all (fun v=>acc (IK E p v)) then 2 else if(je (Ea E p)).any fun v=>acc (IK E p v) then 1 else 0
def H2{r:List ZP}: ∀{n:Nat} {f:aO},f∈ly r n-> ∃k,k<n/\f=dx (r.getD k (0,0)) (fD r k)
 |0,f,h=>by simp[ly] at h
 |n+1,f,h=>by
  rw[ly] at h;rcases bV.1 h with h|h
  ·obtain⟨k,h1,h2⟩:=H2 h
   exact⟨k,by omega,h2⟩
  ·exact⟨n,by omega,aW.1 h⟩
def Zr{rs:List (List ZP)}(hr: ∀r∈rs,gi r){f:aO}(hf:f∈c6 rs): ∃v w:ZP,v≠w/\(dx v w).l.ok/\f=dx v w/\(v.q,w.q)∈ER rs:=by
 obtain⟨r,h1,h2⟩:=gM.1 hf;have ho:=((wi (hr r h1)).2 _ h2).ok;obtain⟨k,hk,rfl⟩:=H2 h2;exact⟨_,_,(hr r h1).ne k hk,ho,J,gM.2 ⟨r,h1,bJ.2 ⟨k,oV.2 hk,J⟩⟩⟩
section
variable {rs:List (List ZP)} {fill:Int} {p:ab}
end
def cE(lo hi:Rat):aj:=⟨lo,hi,false,false⟩
def pD{lo hi x:Rat}:ng [cE lo hi] x=decide (lo<x/\x<hi):=by
 rw[oL,wJ,decide_eq_true_eq];simp[cE,aj.ins]
def y6{t x:Rat}:ng [⟨t,0,false,true⟩] x=decide (t<x):=by
 rw[oL,wJ,decide_eq_true_eq];simp[aj.ins]
def zX{t x:Rat}:ng [⟨0,t,true,false⟩] x=decide (x<t):=by
 rw[oL,wJ,decide_eq_true_eq];simp[aj.ins]
def pG{a b:List aj}{cuts:List Rat}{marks:List Bool}{out:List aj}(h1:gF (a++b)=cuts)(h2:(gG cuts).map (fun t=>ng a t&&ng b t)=marks)(h3:lD cuts marks=out):i5 2 a b=out:=by
 unfold i5;rw[h1,<-h3,<-h2];rfl
def Tm{lo hi:Rat}(h:lo<hi):i5 2 [cE lo hi] [aj.all]=[cE lo hi]:=by
 refine pG (cuts:=[lo,hi]) (marks:=[false,true,false]) (by simp[gF,iG,cE,aj.all,fq,h]) ?_ (by simp[lD,iH,gA,cE]);have b: ∀x,ng [aj.all] x=true:=fun x=>wJ.2 ⟨.inl J, .inl J⟩;simp only[gG,i8,bS,dR,cW,cV,pD,b,Bool.and_true];simp only[iQ,iZ,List.cons.injEq,decide_eq_false_iff_not,decide_eq_true_eq,and_true];exact⟨by grind,by grind,by grind⟩
def atv(v:aj):i5 2 [v] []=[]:=by
 unfold i5 lD;have key: ∀(cuts:List Rat) (m:List Bool),(∀x∈m,x=false)-> ∀k,iH cuts m k=[]:=fun cuts m hm k=>by
  induction k with
  |zero=>rfl
  |succ k ih=>
   rw[iH,ih];have:m.getD k false=false:=by
    rw[aK]
    cases e:m[k]? with
    |none=>rfl
    |some x=>exact hm x (bX e)
   rw[this];rfl
 refine key _ _ (fun x hx=>?_) _;obtain⟨t,_,rfl⟩:=bJ.1 hx;have:ng [] t=false:=by unfold ng Aw;decide
 rw[this];simp[EH]
def Tz{lo hi t:Rat}(h:lo<hi)(k:t<lo):i5 2 [cE lo hi] [⟨t,0,false,true⟩]=[cE lo hi]:=by
 refine pG (cuts:=[t,lo,hi]) (marks:=[false,false,true,false]) ?_ ?_ (by simp[lD,iH,gA,pB,cE])
 ·simp only[gF,iG,cE,cW,cV,fN,lR,if_true,dZ,if_false,fq]
  grind [fq]
 ·simp only[gG,i8,bS,dR,cW,cV,pD,y6]
  simp only[iQ,iZ,List.cons.injEq,iS,aL,decide_eq_false_iff_not,decide_eq_true_eq,and_true];exact⟨by grind,by grind,by grind,by grind⟩
def aGM{lo hi t:Rat}(h:lo<hi)(k:t=lo):i5 2 [cE lo hi] [⟨t,0,false,true⟩]=[cE lo hi]:=by
 refine pG (cuts:=[lo,hi]) (marks:=[false,true,false]) ?_ ?_ (by simp[lD,iH,gA,pB,cE])
 ·simp only[gF,iG,cE,cW,cV,fN,lR,if_true,dZ,if_false,fq]
  grind [fq]
 ·simp only[gG,i8,bS,dR,cW,cV,pD,y6]
  simp only[iQ,iZ,List.cons.injEq,iS,aL,decide_eq_false_iff_not,decide_eq_true_eq,and_true];exact⟨by grind,by grind,by grind⟩
def RY{lo hi t:Rat}(h:lo<hi)(k:lo<t)(k2:t<hi):i5 2 [cE lo hi] [⟨t,0,false,true⟩]=[cE t hi]:=by
 refine pG (cuts:=[lo,t,hi]) (marks:=[false,false,true,false]) ?_ ?_ (by simp[lD,iH,gA,pB,cE])
 ·simp only[gF,iG,cE,cW,cV,fN,lR,if_true,dZ,if_false,fq]
  grind [fq]
 ·simp only[gG,i8,bS,dR,cW,cV,pD,y6]
  simp only[iQ,iZ,List.cons.injEq,iS,aL,decide_eq_false_iff_not,decide_eq_true_eq,and_true];exact⟨by grind,by grind,by grind,by grind⟩
def WJ{lo hi t:Rat}(h:lo<hi)(k:t=hi):i5 2 [cE lo hi] [⟨t,0,false,true⟩]=[]:=by
 refine pG (cuts:=[lo,hi]) (marks:=[false,false,false]) ?_ ?_ (by simp[lD,iH,gA,pB,cE])
 ·simp only[gF,iG,cE,cW,cV,fN,lR,if_true,dZ,if_false,fq]
  grind [fq]
 ·simp only[gG,i8,bS,dR,cW,cV,pD,y6]
  simp only[iQ,iZ,List.cons.injEq,iS,aL,decide_eq_false_iff_not,decide_eq_true_eq,and_true];exact⟨by grind,by grind,by grind⟩
def aHo{lo hi t:Rat}(h:lo<hi)(k:hi<t):i5 2 [cE lo hi] [⟨t,0,false,true⟩]=[]:=by
 refine pG (cuts:=[lo,hi,t]) (marks:=[false,false,false,false]) ?_ ?_ (by simp[lD,iH,gA,pB,cE])
 ·simp only[gF,iG,cE,cW,cV,fN,lR,if_true,dZ,if_false,fq]
  grind [fq]
 ·simp only[gG,i8,bS,dR,cW,cV,pD,y6]
  simp only[iQ,iZ,List.cons.injEq,iS,aL,decide_eq_false_iff_not,decide_eq_true_eq,and_true];exact⟨by grind,by grind,by grind,by grind⟩
def WB{lo hi t:Rat}(h:lo<hi)(k:t<lo):i5 2 [cE lo hi] [⟨0,t,true,false⟩]=[]:=by
 refine pG (cuts:=[t,lo,hi]) (marks:=[false,false,false,false]) ?_ ?_ (by simp[lD,iH,gA,pB,cE])
 ·simp only[gF,iG,cE,cW,cV,fN,lR,if_true,dZ,if_false,fq]
  grind [fq]
 ·simp only[gG,i8,bS,dR,cW,cV,pD,zX]
  simp only[iQ,iZ,List.cons.injEq,iS,aL,decide_eq_false_iff_not,decide_eq_true_eq,and_true];exact⟨by grind,by grind,by grind,by grind⟩
def aHx{lo hi t:Rat}(h:lo<hi)(k:t=lo):i5 2 [cE lo hi] [⟨0,t,true,false⟩]=[]:=by
 refine pG (cuts:=[lo,hi]) (marks:=[false,false,false]) ?_ ?_ (by simp[lD,iH,gA,pB,cE])
 ·simp only[gF,iG,cE,cW,cV,fN,lR,if_true,dZ,if_false,fq]
  grind [fq]
 ·simp only[gG,i8,bS,dR,cW,cV,pD,zX]
  simp only[iQ,iZ,List.cons.injEq,iS,aL,decide_eq_false_iff_not,decide_eq_true_eq,and_true];exact⟨by grind,by grind,by grind⟩
def aGy{lo hi t:Rat}(h:lo<hi)(k:lo<t)(k2:t<hi):i5 2 [cE lo hi] [⟨0,t,true,false⟩]=[cE lo t]:=by
 refine pG (cuts:=[lo,t,hi]) (marks:=[false,true,false,false]) ?_ ?_ (by simp[lD,iH,gA,pB,cE])
 ·simp only[gF,iG,cE,cW,cV,fN,lR,if_true,dZ,if_false,fq]
  grind [fq]
 ·simp only[gG,i8,bS,dR,cW,cV,pD,zX]
  simp only[iQ,iZ,List.cons.injEq,iS,aL,decide_eq_false_iff_not,decide_eq_true_eq,and_true];exact⟨by grind,by grind,by grind,by grind⟩
def Wb{lo hi t:Rat}(h:lo<hi)(k:t=hi):i5 2 [cE lo hi] [⟨0,t,true,false⟩]=[cE lo hi]:=by
 refine pG (cuts:=[lo,hi]) (marks:=[false,true,false]) ?_ ?_ (by simp[lD,iH,gA,pB,cE])
 ·simp only[gF,iG,cE,cW,cV,fN,lR,if_true,dZ,if_false,fq]
  grind [fq]
 ·simp only[gG,i8,bS,dR,cW,cV,pD,zX]
  simp only[iQ,iZ,List.cons.injEq,iS,aL,decide_eq_false_iff_not,decide_eq_true_eq,and_true];exact⟨by grind,by grind,by grind⟩
def U2{lo hi t:Rat}(h:lo<hi)(k:hi<t):i5 2 [cE lo hi] [⟨0,t,true,false⟩]=[cE lo hi]:=by
 refine pG (cuts:=[lo,hi,t]) (marks:=[false,true,false,false]) ?_ ?_ (by simp[lD,iH,gA,pB,cE])
 ·simp only[gF,iG,cE,cW,cV,fN,lR,if_true,dZ,if_false,fq]
  grind [fq]
 ·simp only[gG,i8,bS,dR,cW,cV,pD,zX]
  simp only[iQ,iZ,List.cons.injEq,iS,aL,decide_eq_false_iff_not,decide_eq_true_eq,and_true];exact⟨by grind,by grind,by grind,by grind⟩
def C5(a b:Rat):a<b\/a=b\/b<a:=by grind
def splitP(f:aO)(m:aa):List aO:=if f.l.cutB f.v m then [⟨f.l,f.l.cutV f.v m⟩] else []
structure gv (f:aO):Prop where
 ok:f.l.ok
 nl:f.v.nl=false
 nh:f.v.nh=false
 lt:f.v.lo<f.v.hi
def gv.seg{f:aO}(h:gv f):f.v=cE f.v.lo f.v.hi:=by
 have h1:=h.nl;have h2:=h.nh;unfold cE
 cases hv:f.v with
 |mk a b c d=>rw[hv] at h1 h2;simp_all
def gv.pos{f:aO}(h:gv f):f.v.Pos:= .inr (.inr h.lt)
def NL{lo hi:Rat}:(cE lo hi).Pos↔lo<hi:=by unfold aj.Pos cE;simp
def Oq{lo hi t:Rat}:(cE lo hi).meet ⟨t,0,false,true⟩=cE (if lo<t then t else lo) hi:=by simp[aj.meet,cE];rfl
def Nz{lo hi t:Rat}:(cE lo hi).meet ⟨0,t,true,false⟩=cE lo (if t<hi then t else hi):=by simp[aj.meet,cE];rfl
def Ww{lo hi t:Rat}(h:lo<hi):i5 2 [cE lo hi] [⟨t,0,false,true⟩]=if(if lo<t then t else lo)<hi then [cE (if lo<t then t else lo) hi] else []:=by
 rcases C5 t lo with k|k|k
 ·rw[Tz h k,if_neg (show¬lo<t by grind),if_pos h]
 ·rw[aGM h k,if_neg (show¬lo<t by grind),if_pos h]
 ·rw[if_pos k]
  rcases C5 t hi with k2|k2|k2
  ·rw[RY h k k2,if_pos k2]
  ·rw[WJ h k2,if_neg (by grind)]
  ·rw[aHo h k2,if_neg (by grind)]
def R7{lo hi t:Rat}(h:lo<hi):i5 2 [cE lo hi] [⟨0,t,true,false⟩]=if lo<(if t<hi then t else hi) then [cE lo (if t<hi then t else hi)] else []:=by
 rcases C5 t hi with k|k|k
 ·rw[if_pos k]
  rcases C5 t lo with k2|k2|k2
  ·rw[WB h k2,if_neg (by grind)]
  ·rw[aHx h k2,if_neg (by grind)]
  ·rw[aGy h k2 k,if_pos k2]
 ·rw[Wb h k,if_neg (show¬t<hi by grind),if_pos h]
 ·rw[U2 h k,if_neg (show¬t<hi by grind),if_pos h]
def Ts(l m:aa):l.cutK m.rev= -l.cutK m:=by unfold aa.cutK aa.rev aa.nor aa.dir ab.dot;dsimp only;push_cast;grind
def SE(l m:aa):l.cutC m.rev= -l.cutC m:=f7 m l.base
def aDF(a b:Rat): -a/ -b=a/b:=by grind
def PJ{f:aO}(h:gv f){m:aa}{side:Int}(hs:side=1\/side= -1):jz f m side=splitP f (if side=1 then m else m.rev):=by
 obtain⟨M,hM⟩: ∃M,M=(if side=1 then m else m.rev):=⟨_,rfl⟩;have hK:f.l.cutK M=(side:Rat)*f.l.cutK m:=by
  rcases hs with rfl|rfl
  ·rw[hM,if_pos J];grind
  ·rw[hM,if_neg (by decide),Ts];grind
 have hC:f.l.cutC M=(side:Rat)*f.l.cutC m:=by
  rcases hs with rfl|rfl
  ·rw[hM,if_pos J];grind
  ·rw[hM,if_neg (by decide),SE];grind
 have hq:f.l.cutC M/f.l.cutK M=f.l.cutC m/f.l.cutK m:=by
  rw[hK,hC];rcases hs with rfl|rfl
  ·grind
  ·rw[show((-1:Int):Rat)*f.l.cutC m= -f.l.cutC m by grind,show((-1:Int):Rat)*f.l.cutK m= -f.l.cutK m by grind,aDF]
 rw[<-hM];have hseg:=h.seg;have hlt:=h.lt;unfold jz splitP uS vd;by_cases hc:crossI f.l m=0
 ·have k0:f.l.cutK m=0:=Iy hc
  have kM:f.l.cutK M=0:=by rw[hK,k0];grind
  obtain⟨e1,e2⟩:=xP (l:=f.l) (m:=M) f.v kM;by_cases c0:f.l.cutC m=0
  ·rw[if_pos (decide_eq_true ⟨hc,(jj _).2 c0⟩),if_neg (fun e=>by have:=e2.1 e;rw[hC,c0] at this;grind)]
  ·rw[if_neg (by rw[decide_eq_true_eq];exact fun e=>c0 ((jj _).1 e.2)),if_pos hc]
   by_cases g:(m.value f.l.base).num.sign=side
   ·have:0<f.l.cutC M:=by
     rw[hC];rcases hs with rfl|rfl
     ·have:=(jh _).1 g;show 0<((1:Int):Rat)*m.value f.l.base;grind
     ·have:=(ld (m.value f.l.base)).1 (by omega);show 0<((-1:Int):Rat)*m.value f.l.base;grind
    rw[if_pos g,if_pos (e2.2 this),e1,hseg,Tm hlt];rfl
   ·have: ¬0<f.l.cutC M:=fun e=>g (KU hs (by rw[hC] at e;exact e))
    rw[if_neg g,if_neg (fun e=>this (e2.1 e)),atv];rfl
 ·rw[if_neg (by rw[decide_eq_true_eq];exact fun e=>hc e.1),if_neg hc]
  have hp:=xh h.ok.ne hc;have hne:f.l.cutK m≠0:=fun e=>by
   rw[Am] at e;have:(crossI f.l m:Rat)=0:=by grind
   exact hc (dQ.1 this)
  have hv1:m.value (f.l.at (fg f.l (gr f.l m)+1))=f.l.cutK m:=by rw[lI,hp];grind
  rw[hv1,hp];by_cases g:(f.l.cutK m).num.sign=side
  ·have kM:0<f.l.cutK M:=by
    rw[hK];rcases hs with rfl|rfl
    ·have:=(jh _).1 g;grind
    ·have:=(ld (f.l.cutK m)).1 (by omega);grind
   obtain⟨e1,e2⟩:=xR (l:=f.l) (m:=M) f.v kM;rw[if_pos g,e1] at*;rw[hq,hseg,Oq,NL] at e2;rw[hq,hseg,Oq,Ww hlt];by_cases q:(if f.v.lo< -(f.l.cutC m/f.l.cutK m) then-(f.l.cutC m/f.l.cutK m) else f.v.lo)<f.v.hi
   ·rw[if_pos q,if_pos (e2.2 q)];rfl
   ·rw[if_neg q,if_neg (fun e=>q (e2.1 e))];rfl
  ·have kM:f.l.cutK M<0:=by
    rw[hK];rcases fE (f.l.cutK m) with k|k|k
    ·exact absurd k hne
    ·rcases hs with rfl|rfl
     ·exact absurd ((jh _).2 k) g
     ·grind
    ·rcases hs with rfl|rfl
     ·grind
     ·exact absurd (by have:=(ld (f.l.cutK m)).2 k;have:=qJ (f.l.cutK m).num;omega) g
   obtain⟨e1,e2⟩:=wT (l:=f.l) (m:=M) f.v kM;rw[if_neg g,e1] at*;rw[hq,hseg,Nz,NL] at e2;rw[hq,hseg,Nz,R7 hlt];by_cases q:f.v.lo<(if-(f.l.cutC m/f.l.cutK m)<f.v.hi then-(f.l.cutC m/f.l.cutK m) else f.v.hi)
   ·rw[if_pos q,if_pos (e2.2 q)];rfl
   ·rw[if_neg q,if_neg (fun e=>q (e2.1 e))];rfl
def ie(acc:ab->Bool):Nat->List aO->aC->Tr
 |_,[],c=> .leaf (acc (pE c))
 |0,_::_,_=> .leaf false
 |n+1,f::t,c=> .node f.l (ie acc n ((f::t).flatMap fun g=>splitP g f.l) (bE c f.l)) (ie acc n ((f::t).flatMap fun g=>splitP g f.l.rev) (bE c f.l.rev))
def Tr.like:Tr->Tr->Prop
 | .leaf _, .leaf _=>True
 | .node l x y, .node m u v=>l=m/\x.like u/\y.like v
 |_,_=>False
def gv.cut{f:aO}(h:gv f){m:aa}(hb:f.l.cutB f.v m=true):gv ⟨f.l,f.l.cutV f.v m⟩:=by
 have hp:=xJ h.pos hb;have e:(f.l.cutV f.v m).nl=false/\(f.l.cutV f.v m).nh=false:=by
  have h1:=h.nl;have h2:=h.nh;unfold aa.cutV;split
  ·exact⟨h1,h2⟩
  ·split<;>simp[aj.meet,h1,h2]
 refine⟨h.ok,e.1,e.2,?_⟩;rcases hp with h|h|h
 ·rw[e.1] at h;cases h
 ·rw[e.2] at h;cases h
 ·exact h
def gv.split{f g:aO}(h:gv f){m:aa}(hg:g∈splitP f m):gv g:=by
 unfold splitP at hg;split at hg
 ·rename_i hb
  rw[aW] at hg;subst hg;exact h.cut hb
 ·cases hg
def Gd{l:List aO}(h: ∀f∈l,gv f)(m:aa):l.flatMap (fun g=>jz g m 1)=l.flatMap (fun g=>splitP g m)/\l.flatMap (fun g=>jz g m (-1))=l.flatMap (fun g=>splitP g m.rev):=by
 induction l with
 |nil=>exact⟨J,J⟩
 |cons f t ih=>
  obtain⟨i1,i2⟩:=ih fun g hg=>h g (aZ _ hg);have hf:=h f aQ;refine⟨?_,?_⟩
  ·rw[nM,nM,i1,PJ hf (.inl J),if_pos J]
  ·rw[nM,nM,i2,PJ hf (.inr J),if_neg (by decide)]
def gv.splits{l:List aO}(h: ∀f∈l,gv f)(m:aa): ∀g∈l.flatMap (fun g=>splitP g m),gv g:=fun g hg=>by
 obtain⟨f,hf,hg⟩:=gM.1 hg;exact(h f hf).split hg
def Ew{a b:ab->Bool}: ∀{n:Nat} {l:List aO} {c:aC} {d:List aa},(∀f∈l,gv f)->(ie a n l c).like (kj b n l d)
 |n,[],c,d,_=>by cases n<;>exact trivial
 |0,f::t,c,d,_=>trivial
 |n+1,f::t,c,d,h=>by
  rw[ie,kj];obtain⟨e1,e2⟩:=Gd h f.l;refine⟨J,?_,?_⟩
  ·rw[e1];exact Ew (gv.splits h f.l)
  ·rw[e2];exact Ew (gv.splits h f.l.rev)
def Tr.like_lns: ∀{t u:Tr},t.like u->t.lns=u.lns
 | .leaf _, .leaf _,_=>rfl
 | .node l x y, .node m u v,⟨h,h1,h2⟩=>by rw[Tr.lns,Tr.lns,h,Tr.like_lns h1,Tr.like_lns h2]
def AD{M:List aa}(hM: ∀l∈M,l.ok): ∀{t u:Tr} {c:aC},t.like u->(∀l∈t.lns,l∈M)->cI c->(∀p,bw c p->e8 M p->t.val p=u.val p)->t.restrict c=u.restrict c
 | .leaf a, .leaf b,c,_,_,hc,hv=>by
  obtain⟨p,hp,ho⟩:=Ug hc M hM;have:=hv p hp ho;rw[Tr.val,Tr.val] at this;rw[this]
 | .node l x y, .node m u v,c,⟨e,h1,h2⟩,hl,hc,hv=>by
  subst e;have hlM:=hl l aQ;have hx: ∀m∈x.lns,m∈M:=fun m hm=>hl m (aZ _ (bK _ hm));have hy: ∀m∈y.lns,m∈M:=fun m hm=>hl m (aZ _ (bM _ hm));have hok:=hM l hlM
  cases hb:cH c l.rev with
  |false=>
   rw[Tr.restrict_A _ _ hb,Tr.restrict_A _ _ hb];refine AD hM h1 hx hc fun p hp ho=>?_;have q:=RT hc hok hb hp (ho l hlM);have:=hv p hp ho;rwa [Tr.val_pos q,Tr.val_pos q] at this
  |true=>
   cases hb2:cH c l with
   |false=>
    rw[Tr.restrict_B _ _ hb hb2,Tr.restrict_B _ _ hb hb2];refine AD hM h2 hy hc fun p hp ho=>?_;have q:=Rk hc hok hb2 hp;have:=hv p hp ho;rwa [Tr.val_neg q,Tr.val_neg q] at this
   |true=>
    obtain⟨g1,i1⟩:=jv hc hok hb2;obtain⟨g2,i2⟩:=jv hc hok.rev hb;rw[Tr.restrict_C _ _ hb hb2,Tr.restrict_C _ _ hb hb2];congr 1
    ·refine AD hM h1 hx g1 fun p hp ho=>?_
     obtain⟨a1,a2⟩:=(i1 p).1 hp;have:=hv p a1 ho;rwa [Tr.val_pos a2,Tr.val_pos a2] at this
    ·refine AD hM h2 hy g2 fun p hp ho=>?_
     obtain⟨a1,a2⟩:=(i2 p).1 hp;rw[f7] at a2;have:=hv p a1 ho;rwa [Tr.val_neg (by grind),Tr.val_neg (by grind)] at this
def Tr.Prp:Tr->aC->Prop
 | .leaf _,_=>True
 | .node l x y,c=>cH c l=true/\cH c l.rev=true/\x.Prp (bE c l)/\y.Prp (bE c l.rev)
def RC{c:aC}(hc:cI c){l:aa}(hl:l.ok){p:ab}(hp:bw c p)(h0:l.value p=0):cH c l=true/\cH c l.rev=true:=by
 have hn:=po hl.ne;obtain⟨e,he,hm⟩:=hp.open l.nor;obtain⟨f,hf,hk⟩:=hp.open (b7 l.nor);have hn2:l.nor.dot (b7 l.nor)= -(l.nor.dot l.nor):=by unfold b7 ab.dot;dsimp only;grind
 refine⟨(r8 hc hl).2 ⟨_,hm e (by grind) (by grind),?_⟩,(r8 hc hl.rev).2 ⟨_,hk f (by grind) (by grind),?_⟩⟩
 ·rw[iw,h0];have:=b8 he hn;grind
 ·rw[f7,iw,h0,hn2];have:=b8 hf hn;grind
def vA(l:List aO)(c:aC):Prop:= ∀f∈l,∀t,f.v.ins t->bw c (f.l.at t)
def vA.split{l:List aO}{c:aC}(h:vA l c){m:aa}(i1: ∀p,bw (bE c m) p↔bw c p/\0<m.value p):vA (l.flatMap fun g=>splitP g m) (bE c m):=fun g hg t ht=>by
 obtain⟨f,hf,hg⟩:=gM.1 hg;unfold splitP at hg;split at hg
 ·rename_i hb
  rw[aW] at hg;subst hg;obtain⟨k1,k2⟩:=(Cy hb t).1 ht;exact(i1 _).2 ⟨h f hf t k1,k2⟩
 ·cases hg
def vA.cross{f:aO}{t:List aO}{c:aC}(h:vA (f::t) c)(hf:gv f)(hc:cI c):cH c f.l=true/\cH c f.l.rev=true:=by
 have hs:f.v.ins (lE f.v):=J4 hf.pos;exact RC hc hf.ok (h f aQ _ hs) (nH hf.ok.ne _)
def Gg{acc:ab->Bool}: ∀{n:Nat} {l:List aO} {c:aC},(∀f∈l,gv f)->cI c->vA l c->(ie acc n l c).Prp c
 |n,[],c,_,_,_=>by cases n<;>exact trivial
 |0,f::t,c,_,_,_=>trivial
 |n+1,f::t,c,h,hc,hl=>by
  rw[ie];have hf:=h f aQ;obtain⟨b1,b2⟩:=hl.cross hf hc;obtain⟨g1,i1⟩:=jv hc hf.ok b1;obtain⟨g2,i2⟩:=jv hc hf.ok.rev b2;exact⟨b1,b2,Gg (gv.splits h _) g1 (hl.split i1),Gg (gv.splits h _) g2 (hl.split i2)⟩
def Ck(E:List aO)(c:aC)(l:List aO):Prop:= ∀e∈E,∀t,e.v.ins t->bw c (e.l.at t)-> ∃f∈l,f.l=e.l/\f.v.ins t
def Ck.split{E l:List aO}{c:aC}(h:Ck E c l)(hs: ∀f∈l,gv f){m:aa}(i1: ∀p,bw (bE c m) p↔bw c p/\0<m.value p):Ck E (bE c m) (l.flatMap fun g=>splitP g m):=fun e he t ht hin=>by
 obtain⟨h1,h2⟩:=(i1 _).1 hin;obtain⟨f,hf,ef,hft⟩:=h e he t ht h1;have hb:f.l.cutB f.v m=true:=by
  cases q:f.l.cutB f.v m with
  |true=>rfl
  |false=>
   have:=AW (hs f hf).pos q hft.has;rw[ef] at this;exact absurd this (by grind)
 refine⟨⟨f.l,f.l.cutV f.v m⟩,gM.2 ⟨f,hf,by unfold splitP;rw[if_pos hb];exact aW.2 J⟩,ef,?_⟩;exact(Cy hb t).2 ⟨hft,by rw[ef];exact h2⟩
structure FS (f:aO):Prop where
 fo:ph f
 sg:gv f
def FS.splits{l:List aO}(h: ∀f∈l,FS f){m:aa}(hm:LB m):(∀g∈l.flatMap (fun g=>splitP g m),FS g)/\ ∀g∈l.flatMap (fun g=>splitP g m.rev),FS g:=by
 obtain⟨e1,e2⟩:=Gd (fun f hf=>(h f hf).sg) m;refine⟨fun g hg=>⟨?_,gv.splits (fun f hf=>(h f hf).sg) m g hg⟩,fun g hg=>⟨?_,gv.splits (fun f hf=>(h f hf).sg) m.rev g hg⟩⟩
 ·rw[<-e1] at hg
  obtain⟨q,hq,hg⟩:=gM.1 hg;exact(CU (h q hq).fo hm g hg).1
 ·rw[<-e2] at hg
  obtain⟨q,hq,hg⟩:=gM.1 hg;exact(CU (h q hq).fo hm g hg).1
def mO.splitP{n:Nat}{f:aO}{t:List aO}(h:mO (n+1) (f::t))(hok: ∀g∈f::t,FS g):mO n ((f::t).flatMap fun g=>splitP g f.l)/\mO n ((f::t).flatMap fun g=>splitP g f.l.rev):=by
 obtain⟨e1,e2⟩:=Gd (fun f hf=>(hok f hf).sg) f.l;rw[<-e1,<-e2];exact⟨h.split (fun g hg=>(hok g hg).fo),h.split (fun g hg=>(hok g hg).fo)⟩
def mO.no{f:aO}{t:List aO}(h:mO 0 (f::t)):False:=by
 obtain⟨K,hK,hs⟩:=h;obtain⟨m,hm,_⟩:=hs f aQ;rw[bL (show K.length=0 by omega)] at hm;cases hm
def Eh{acc:ab->Bool}{E:List aO}(ha: ∀(c:aC) (q p:ab),(∀e∈E,∀t,e.v.ins t-> ¬bw c (e.l.at t))->bw c q->bw c p->acc q=acc p): ∀{n:Nat} {l:List aO} {c:aC} {p:ab},(∀f∈l,FS f)->mO n l->cI c->vA l c->Ck E c l->bw c p->e8 (ie acc n l c).lns p->(ie acc n l c).val p=acc p
 |n,[],c,p,_,_,hc,_,hcov,hp,_=>by
  have e:ie acc n [] c= .leaf (acc (pE c)):=by cases n<;>rfl
  rw[e,Tr.val];exact ha c _ _ (fun e he t ht hin=>by obtain⟨f,hf,_⟩:=hcov e he t ht hin;cases hf) (av6 hc) hp
 |0,f::t,_,_,_,hf,_,_,_,_,_=>hf.no.elim
 |n+1,f::t,c,p,hok,hf,hc,hl,hcov,hp,hoff=>by
  have fo:=hok f aQ;have hsg:=fun g hg=>(hok g hg).sg;obtain⟨k1,k2⟩:=FS.splits hok fo.fo.lb;obtain⟨w1,w2⟩:=hf.splitP hok;obtain⟨b1,b2⟩:=hl.cross fo.sg hc;obtain⟨g1,i1⟩:=jv hc fo.sg.ok b1;obtain⟨g2,i2⟩:=jv hc fo.sg.ok.rev b2;rw[ie] at hoff⊢;by_cases q:0<f.l.value p
  ·rw[Tr.val_pos q]
   exact Eh ha k1 w1 g1 (hl.split i1) (hcov.split hsg i1) ((i1 p).2 ⟨hp,q⟩) hoff.x
  ·rw[Tr.val_neg q]
   have:=hoff.l;exact Eh ha k2 w2 g2 (hl.split i2) (hcov.split hsg i2) ((i2 p).2 ⟨hp,by rw[f7];grind⟩) hoff.y
def Y5{v w:ZP}(h:v≠w)(ho:(dx v w).l.ok):gv (dx v w):=⟨ho,J,J,(Fk h ho).2.2⟩
def zh{rs:List (List ZP)}(hr: ∀r∈rs,gi r): ∀f∈c6 rs,FS f:=fun f hf=>by
 have h2:=(sB hr).2 f hf;obtain⟨v,w,hn,ho,rfl,_⟩:=Zr hr hf;exact⟨h2,Y5 hn ho⟩
def ID(rs:List (List ZP)):mO (c6 rs).length (c6 rs):=⟨(c6 rs).map (·.l),by rw[aJ];exact aN _,fun f hf=>⟨f.l,iN hf, .inl J⟩⟩
def F9{c:aC}{p:ab}:bw c p↔dh (c.map fun s=>s.l) p:=by
 unfold bw dh;constructor
 ·intro h m hm
  obtain⟨s,hs,rfl⟩:=bJ.1 hm;exact h s hs
 ·intro h s hs
  exact h s.l (iN hs)
def km(rs:List (List ZP))(fill:Int):Tr:=ie (kB rs fill) (c6 rs).length (c6 rs) []
def axE{rs:List (List ZP)}{fill:Int}(hr: ∀r∈rs,gi r){p:ab}(ho:e8 (km rs fill).lns p):(km rs fill).val p=kB rs fill p:=
 Eh (E:=c6 rs) (fun c q p hno hq hp=>Lq hr (c:=c.map fun s=>s.l) (fun e he t ht hin=>hno e he t ht (F9.2 hin)) (F9.1 hq) (F9.1 hp)) (zh hr) (ID rs) cI.nil (fun f hf t ht s hs=>by cases hs) (fun e he t ht _=>⟨e,he,J,ht⟩) (fun s hs=>by cases hs) ho
def X3{rs:List (List ZP)}{fill:Int}(hr: ∀r∈rs,gi r){p:ab}(ho:e8 (pA rs fill).lns p):(pA rs fill).val p=kB rs fill p:=by
 rw[<-atI hr ho];unfold lf;rw[Tr.val_restrict (pA rs fill) [] p (rP fun f hf=>((sB hr).2 f hf).ok) cI.nil (fun s hs=>by cases hs) ho]
def Pm{rs:List (List ZP)}{fill:Int}(hr: ∀r∈rs,gi r):(km rs fill).like (pA rs fill)/\(km rs fill).Prp []/\(km rs fill).all aa.ok:=by
 have hl:(km rs fill).like (pA rs fill):=Ew fun f hf=>(zh hr f hf).sg;refine⟨hl,Gg (fun f hf=>(zh hr f hf).sg) cI.nil (fun f hf t ht s hs=>by cases hs),?_⟩;have hk:(pA rs fill).all aa.ok:=rP fun f hf=>((sB hr).2 f hf).ok;rw[pH,Tr.like_lns hl,<-pH];exact hk
def aEy{rs:List (List ZP)}{fill:Int}(hr: ∀r∈rs,gi r):(km rs fill).restrict []=lf rs fill:=by
 obtain⟨h1,h2,h3⟩:=Pm (fill:=fill) hr;unfold lf;refine AD (M:=(km rs fill).lns) (pH.1 h3) h1 (fun l hl=>hl) cI.nil fun p hp ho=>?_;rw[axE hr ho,X3 hr (by rw[<-Tr.like_lns h1];exact ho)]
end Go.Sx
end
