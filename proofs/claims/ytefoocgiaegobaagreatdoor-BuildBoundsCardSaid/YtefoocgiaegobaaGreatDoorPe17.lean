import Derived.Test.YtefoocgiaegobaaGreatDoorPe16
set_option linter.all false
set_option maxHeartbeats 2000000
set_option maxRecDepth 100000
section
namespace Go.Sx
open Go Go.Proofs Tryz
def FT{l:aa}: ∀{c:List aa} {v:ao},(o5 l c v).2=true->il l c v=some (o5 l c v).1
 |[],v,_=>rfl
 |m::t,v,h=>by
  rw[o5] at h⊢;rw[il];split
  ·rename_i e;rw[if_pos e] at h;exact FT h
  ·rename_i e
   rw[if_neg e] at h;split
   ·rename_i k;rw[if_pos k] at h;exact FT h
   ·rename_i k;rw[if_neg k] at h;cases h
def I7{v:ao}(h:v.Pos):v.ins (Ck v):=by
 obtain⟨lo,hi,nl,nh⟩:=v;unfold ao.Pos at h;unfold Ck ao.ins
 cases nl<;>cases nh<;>simp at* <;>grind
def O3{p v:ab}: ∀{c:List aa} {s:Rat},0<s->0<tU p v c s/\tU p v c s<=s/\ ∀m∈c,0<m.value p->m.nor.dot v<0->tU p v c s<= -(m.value p/m.nor.dot v)/2
 |[],s,h=>⟨h,iQ,fun m hm=>by cases hm⟩
 |m::t,s,h=>by
  have hk:m.value (dG p v ((1:Int):Rat))-m.value p=m.nor.dot v:=by rw[jG];grind
  have key:0<y4 p v m s/\y4 p v m s<=s/\(0<m.value p->m.nor.dot v<0->y4 p v m s<= -(m.value p/m.nor.dot v)/2):=by
   unfold y4 Cp;simp only[hk,nG,sD,Bw];split
   ·rename_i e;exact⟨h,iQ,fun _ k=>by rw[e] at k;exact absurd k (by decide)⟩
   ·split
    ·rename_i e;exact⟨h,iQ,fun k=>by rw[e] at k;exact absurd k (by decide)⟩
    ·split
     ·rename_i e
      split
      ·exact⟨by grind,by grind,fun _ _=>iQ⟩
      ·exact⟨h,iQ,fun _ _=>by grind⟩
     ·rename_i e
      exact⟨h,iQ,fun k1 k2=>absurd (Gf k2 k1) e⟩
  obtain⟨a1,a2,a3⟩:=key;obtain⟨b1,b2,b3⟩:=O3 (p:=p) (v:=v) (c:=t) a1;rw[tU];refine⟨b1,by grind,fun u hu k1 k2=>?_⟩;rcases aW.1 hu with rfl|hu
  ·have:=a3 k1 k2;grind
  ·exact b3 u hu k1 k2
def Wn{c:List aa}{p v:ab}(h: ∀m∈c,0<m.value p\/(m.value p=0/\0<m.nor.dot v)):et c (yg c p v):=fun m hm=>by
 obtain⟨s0,_,s2⟩:=O3 (p:=p) (v:=v) (c:=c) (s:=((1:Int):Rat)) (by decide);unfold yg;generalize tU p v c ((1:Int):Rat)=s at*;rw[jG];rcases h m hm with k|⟨k,k2⟩
 ·by_cases q:m.nor.dot v<0
  ·have h3:=s2 m hm k q
   have h4:=Gf q k;have e:m.value p/m.nor.dot v*m.nor.dot v=m.value p:=by grind
   generalize m.value p/m.nor.dot v=z at*;have h5:=fG (a:= -z/2-s) (b:= -m.nor.dot v) (by grind) (by grind);grind
  ·have:=fG (gJ s0) (show 0<=m.nor.dot v by grind)
   grind
 ·have:=ji s0 k2
  grind
def Q2{m:aa}(h:m.Ne):0<m.nor.dot (qd m.dir):=by
 have:=oF h;have e:m.nor.dot (qd m.dir)=m.nor.dot m.nor:=by unfold qd aa.dir aa.nor ab.dot;grind
 rw[e];exact this
def Ul{c:List aa}(hok: ∀m∈c,m.ok)(hb:tY c=true):et c (uQ c c):=by
 have key: ∀t:List aa,(∀m∈t,m∈c)->(∃m∈t,(il m c ao.all).isSome=true)->et c (uQ c t):=by
  intro t
  induction t with
  |nil=>rintro _ ⟨m,hm,_⟩;cases hm
  |cons m t ih=>
   intro hs hx;rw[uQ];split
   ·rename_i e
    obtain⟨h1,h2⟩:=CC m c _ _ vV (FT e);have h3:=((h2 _).1 (I7 h1)).2;have hmo:=(hok m (hs m aQ)).ne;refine Wn fun u hu=>?_;by_cases q:u=m
    ·subst q;exact .inr ⟨qq hmo _,Q2 hmo⟩
    ·exact .inl (h3 u hu q)
   ·rename_i e
    refine ih (fun u hu=>hs u (aZ _ hu)) ?_;obtain⟨u,hu,h⟩:=hx;rcases aW.1 hu with rfl|hu
    ·rw[EF] at e;exact absurd h e
    ·exact⟨u,hu,h⟩
 unfold tY at hb;rw[iT,List.isEmpty_iff,nL] at hb;rcases hb with rfl|⟨m,hm,h⟩
 ·exact fun m hm=>by cases hm
 ·exact key c (fun _ h=>h) ⟨m,hm,h⟩
def et.seg{c:List aa}{q p:ab}{e:Rat}(hq:et c q)(hp:et c p)(h0:0<=e)(h1:e<=1):et c (bp q p e):=fun m hm=>by
 rw[jP];have a:=hq m hm;have b:=hp m hm;by_cases z:e=0
 ·subst z;grind
 ·have k1:=ji (show 0<e by grind) b
  have k2:=fG (show 0<=1-e by grind) (gJ a);grind
def et.open{c:List aa}{q:ab}(u:ab)(h:et c q): ∃e:Rat,0<e/\ ∀d,0<=d->d<=e->et c (dG q u d):=by
 have hd:bO (c.map fun m=>(⟨m,ao.all⟩:aO)) q:=fun s hs=>by
  obtain⟨m,hm,rfl⟩:=bJ.1 hs;exact h m hm
 obtain⟨e,he,ho⟩:=hd.open u;exact⟨e,he,fun d d0 d1 m hm=>ho d d0 d1 ⟨m,ao.all⟩ (fM hm)⟩
def DO(l:aa)(t u:Rat):l.at (t+u)=dG (l.at t) l.dir u:=by
 rw[<-rI,<-rI];unfold dG;simp only[ab.mk.injEq];constructor<;>grind
def VY(l:aa)(a b s:Rat):bp (l.at a) (l.at b) s=l.at (a+s*(b-a)):=by
 rw[<-rI,<-rI,<-rI];unfold bp dG;simp only[ab.mk.injEq];constructor<;>grind
def IK{l:aa}(h:l.Ne)(t:Rat):en l (l.at t)=t:=by
 obtain⟨q,_,hq⟩:=xq h;have h2:=oF h;have e0:l.dir.dot l.dir=l.nor.dot l.nor:=by unfold aa.dir aa.nor ab.dot;grind
 have e1:(l.at t).dot l.dir=t*l.dir.dot l.dir:=by
  rw[<-rI,hq];unfold dG aa.dir ab.dot;grind
 unfold en;rw[e1];rw[<-e0] at h2;generalize l.dir.dot l.dir=d at*;have:d≠0:=by grind
 grind
def Jt{l:aa}(h:l.Ne){p:ab}(hp:l.value p=0):l.at (en l p)=p:=by
 obtain⟨t,rfl⟩:=CA h hp;rw[IK h]
def E3(a:Int){g:Nat}(h:g∣a.natAbs):(g:Int)*zv (decide (a<0)) (a.natAbs/g)=a:=by
 obtain⟨k,hk⟩:=h;by_cases g0:g=0
 ·subst g0;simp at hk⊢;omega
 have e:a.natAbs/g=k:=by rw[hk];exact qR k (iX g0)
 rw[e];unfold zv;have hc:((g*k:Nat):Int)=(g:Int)*(k:Int):=by push_cast;rfl
 by_cases n:a<0
 ·simp only[n,decide_true,if_true];rw[Int.mul_neg];omega
 ·simp only[n,decide_false];show(g:Int)*(k:Int)=a;omega
def X3{a b c:Int}(h: ¬(a=0/\b=0)): ∃g:Int,0<g/\g*(gg a b c).a=a/\g*(gg a b c).b=b/\g*(gg a b c).c=c:=by
 have hg:0<Nat.gcd (Nat.gcd a.natAbs b.natAbs) c.natAbs:=oQ _ (iX fun e=>h ⟨mW.1 (nU e),mW.1 (nJ e)⟩);refine⟨(Nat.gcd (Nat.gcd a.natAbs b.natAbs) c.natAbs:Nat),by omega,?_,?_,?_⟩
 ·exact E3 a (qQ (jL _ _) (jL _ _))
 ·exact E3 b (qQ (jL _ _) (kN _ _))
 ·exact E3 c (kN _ _)
def Nj{v w:ZP}(h:v≠w): ∃g:Rat,0<g/\(i6 v.1 v.2 w.1 w.2).value v.q=0/\(i6 v.1 v.2 w.1 w.2).value w.q=0/\w.q=dG v.q (i6 v.1 v.2 w.1 w.2).dir g:=by
 obtain⟨m,n⟩:=v;obtain⟨p,q⟩:=w;have hne: ¬(jr n q=0/\jv m p=0):=fun e=>h (by unfold jr jv at e;rw[Prod.mk.injEq];omega);obtain⟨g,g0,ga,gb,gc⟩:=X3 (c:=oq m n p q) hne;dsimp only;unfold i6;generalize gg (jr n q) (jv m p) (oq m n p q)=l at*;have g0':(0:Rat)<(g:Rat):=by exact_mod_cast g0
 have ra:(g:Rat)*(l.a:Rat)= -((q:Rat)-(n:Rat)):=by rw[<-cR,ga];unfold jr;push_cast;grind
 have rb:(g:Rat)*(l.b:Rat)=(p:Rat)-(m:Rat):=by rw[<-cR,gb];unfold jv;push_cast;grind
 have rc:(g:Rat)*(l.c:Rat)= -(-((q:Rat)-(n:Rat))*(m:Rat)+((p:Rat)-(m:Rat))*(n:Rat)):=by rw[<-cR,gc];unfold oq jr jv;push_cast;grind
 have z: ∀x:Rat,(g:Rat)*x=0->x=0:=fun x hx=>by
  rcases Rat.mul_eq_zero.1 hx with e|e
  ·rw[e] at g0';exact absurd g0' (by decide)
  ·exact e
 refine⟨g,g0',z _ ?_,z _ ?_,?_⟩
 ·rw[nf];unfold ZP.q iP;dsimp only;grind
 ·rw[nf];unfold ZP.q iP;dsimp only;grind
 ·unfold ZP.q iP dG aa.dir;simp only[ab.mk.injEq];constructor<;>grind
def Ey{v w:ZP}(h:v≠w)(ho:(c8 v w).l.ok):(c8 v w).l.at (c8 v w).v.lo=v.q/\(c8 v w).l.at (c8 v w).v.hi=w.q/\(c8 v w).v.lo<(c8 v w).v.hi:=by
 obtain⟨g,g0,h1,h2,h3⟩:=Nj h;unfold c8 at ho⊢;dsimp only at ho⊢;generalize i6 v.1 v.2 w.1 w.2=l at*;have e1:=Jt ho.ne h1;have e2:=Jt ho.ne h2;refine⟨e1,e2,?_⟩;have:en l w.q=en l v.q+g:=by
  have e3:=DO l (en l v.q) g;rw[e1,<-h3] at e3;rw[<-e3,IK ho.ne]
 rw[this];grind
def DE{r:List ZP}{k:Nat}: ∀{n:Nat},k<n->c8 (r.getD k (0,0)) (ek r k)∈kl r n
 |n+1,h=>by
  rw[kl];by_cases e:k=n
  ·subst e;exact cW _ (aU.2 J)
  ·exact cZ _ (DE (by omega))
def Ux{r:List ZP}(hr:dC r){c:List aa}(hc: ∀e∈gi r,∀t,e.v.ins t-> ¬et c (e.l.at t)){q p:ab}(hq:et c q)(hp:et c p):vn r q p:=fun k hk s t s0 s1 t0 t1 he=>by
 have hm:c8 (r.getD k (0,0)) (ek r k)∈gi r:=DE hk;have ho:=((r8 hr).2 _ hm).ok;obtain⟨e1,e2,e3⟩:=Ey (hr.ne k hk) ho;have hno:=hc _ hm;have hx:=hq.seg hp t0 t1;rw[<-he,<-e1,<-e2,VY] at hx;have hv: ∀u,(c8 (r.getD k (0,0)) (ek r k)).v.lo<u->u<(c8 (r.getD k (0,0)) (ek r k)).v.hi-> ¬et c ((c8 (r.getD k (0,0)) (ek r k)).l.at u):=fun u h1 h2=>hno u ⟨.inr h1, .inr h2⟩;generalize c8 (r.getD k (0,0)) (ek r k)=e at*;have hb:=GK s0 s1 (iQ) (gJ e3) (gJ e3) (iQ);generalize e.v.lo+s*(e.v.hi-e.v.lo)=u at*;obtain⟨d,d0,hd⟩:=hx.open e.l.dir;obtain⟨d',d0',hd'⟩:=hx.open (oc e.l.dir);by_cases h1:e.v.lo<u
 ·by_cases h2:u<e.v.hi
  ·exact hv u h1 h2 hx
  ·have eu:u=e.v.hi:=by grind
   obtain⟨z,z0,z1,z2⟩: ∃z:Rat,0<z/\z<=d'/\z<e.v.hi-e.v.lo:=by
    by_cases k:d'<(e.v.hi-e.v.lo)/2
    ·exact⟨d',d0',iQ,by grind⟩
    ·exact⟨(e.v.hi-e.v.lo)/2,by grind,by grind,by grind⟩
   refine hv (u+ -z) (by grind) (by grind) ?_;rw[DO];have:=hd' z (gJ z0) z1;have e5:dG (e.l.at u) (oc e.l.dir) z=dG (e.l.at u) e.l.dir (-z):=by unfold dG oc;simp only[ab.mk.injEq];constructor<;>grind
   rw[e5] at this;exact this
 ·have eu:u=e.v.lo:=by grind
  obtain⟨z,z0,z1,z2⟩: ∃z:Rat,0<z/\z<=d/\z<e.v.hi-e.v.lo:=by
   by_cases k:d<(e.v.hi-e.v.lo)/2
   ·exact⟨d,d0,iQ,by grind⟩
   ·exact⟨(e.v.hi-e.v.lo)/2,by grind,by grind,by grind⟩
  refine hv (u+z) (by grind) (by grind) ?_;rw[DO];exact hd z (gJ z0) z1
def MR{rs:List (List ZP)}{fill:Int}(hr: ∀r∈rs,dC r){c:List aa}(hc: ∀e∈co rs,∀t,e.v.ins t-> ¬et c (e.l.at t)){q p:ab}(hq:et c q)(hp:et c p):jw rs fill q=jw rs fill p:=by
 have key: ∀(rs:List (List ZP)),(∀r∈rs,dC r)->(∀e∈co rs,∀t,e.v.ins t-> ¬et c (e.l.at t))-> ∀n:Int,rs.foldl (fun n r=>n+mO r q) n=rs.foldl (fun n r=>n+mO r p) n:=by
  intro rs
  induction rs with
  |nil=>intro _ _ n;rfl
  |cons r t ih=>
   intro hr hc n;rw[dS,dS,<-WK (Ux (hr r aQ) (fun e he=>hc e (gN.2 ⟨r,aQ,he⟩)) hq hp)];exact ih (fun r h=>hr r (aZ _ h)) (fun e he=>hc e (by obtain⟨r,h1,h2⟩:=gN.1 he;exact gN.2 ⟨r,aZ _ h1,h2⟩)) _
 unfold jw;rw[key rs hr hc]
def x9{cuts:List Rat}(h:cuts.Pairwise (· < ·)){i j:Nat}(hij:i<j)(hj:j<cuts.length):cuts.getD i 0<cuts.getD j 0:=by
 rw[aK,aK,aX hj,aX (by omega)];exact List.pairwise_iff_getElem.1 h i j (by omega) hj hij
def HC{cuts:List Rat}{marks:List Bool}(h:cuts.Pairwise (· < ·)): ∀{k:Nat},∀v∈gw cuts marks (k+1),k<cuts.length->(v.nh=false/\v.hi<=cuts.getD k 0)/\(v.nl=true\/v.lo<cuts.getD k 0)
 |k,v,hv,hk=>by
  have hg:((fH cuts k).nh=false/\(fH cuts k).hi<=cuts.getD k 0)/\((fH cuts k).nl=true\/(fH cuts k).lo<cuts.getD k 0):=by
   unfold fH;dsimp only;refine⟨⟨by simp;omega,by rw[if_pos hk];exact iQ⟩,?_⟩;by_cases z:k=0
   ·left;simp[z]
   ·right;rw[if_neg z];exact x9 h (by omega) hk
  have hold: ∀v∈gw cuts marks k,(v.nh=false/\v.hi<=cuts.getD k 0)/\(v.nl=true\/v.lo<cuts.getD k 0):=fun v hv=>by
   cases k with
   |zero=>cases hv
   |succ k=>
    have ih:=HC h v hv (by omega);have:=x9 h (Nat.lt_succ_self k) hk;exact⟨⟨ih.1.1,by have:=ih.1.2;grind⟩,ih.2.imp id fun z=>by grind⟩
  rw[gw] at hv;split at hv
  ·split at hv
   ·split at hv
    ·rename_i w hw
     rcases cX.1 hv with q|q
     ·exact hold v ((rT _).subset q)
     ·rw[aU] at q;subst q
      exact⟨hg.1,(hold w (pQ hw)).2⟩
    ·rcases cX.1 hv with q|q
     ·exact hold v q
     ·rw[aU] at q;subst q;exact hg
   ·rcases cX.1 hv with q|q
    ·exact hold v q
    ·rw[aU] at q;subst q;exact hg
  ·exact hold v hv
def Md{cuts:List Rat}{marks:List Bool}(h:cuts.Pairwise (· < ·)){x:Rat}{i:Nat}(hm:marks.getD i false=true)(hx:(fH cuts i).ins x): ∀{k:Nat},k<=cuts.length+1->i<k-> ∃v∈gw cuts marks k,v.ins x
 |k+1,hk,hi=>by
  by_cases e:i=k
  ·subst e
   rw[gw,if_pos hm];split
   ·rename_i h0
    split
    ·rename_i w hw
     refine⟨_,cW _ (aU.2 J),?_,hx.2⟩;obtain⟨j,rfl⟩: ∃j,i=j+1:=⟨i-1,by omega⟩;have:=(HC h w (pQ hw) (by omega)).2;have hl:=hx.1;unfold fH at hl;dsimp only at hl;rw[if_neg (by omega),show j+1-1=j by omega] at hl;have hl':cuts.getD j 0<x:=hl.resolve_left (by simp);exact this.imp id fun z=>by show w.lo<x;grind
    ·exact⟨_,cW _ (aU.2 J),hx⟩
   ·exact⟨_,cW _ (aU.2 J),hx⟩
  ·obtain⟨v,hv,hvx⟩:=Md h hm hx (k:=k) (by omega) (by omega)
   rw[gw];split
   ·split
    ·split
     ·rename_i w hw
      by_cases q:v=w
      ·subst q
       refine⟨_,cW _ (aU.2 J),hvx.1,?_⟩;show(fH cuts k).nh=true\/x<(fH cuts k).hi;obtain⟨j,rfl⟩: ∃j,k=j+1:=⟨k-1,by omega⟩;obtain⟨⟨b1,b2⟩,_⟩:=HC h v hv (by omega);have hh:=hvx.2.resolve_left (by rw[b1];decide);unfold fH;dsimp only;by_cases z:j+1<cuts.length
       ·right;rw[if_pos z];have:=x9 h (Nat.lt_succ_self j) z;grind
       ·left;simp;omega
      ·refine⟨v,cZ _ ?_,hvx⟩
       obtain⟨l,hl⟩:=List.getLast?_eq_some_iff.1 hw;rw[hl] at hv⊢;rw[List.dropLast_concat];rcases cX.1 hv with z|z
       ·exact z
       ·rw[aU] at z;exact absurd z q
     ·exact⟨v,cZ _ hv,hvx⟩
    ·exact⟨v,cZ _ hv,hvx⟩
   ·exact⟨v,hv,hvx⟩
def IX: ∀{l:List Rat} {i:Nat},i+1<l.length->(gG l).getD i 0=(l.getD i 0+l.getD (i+1) 0)/2
 |[],_,h=>by simp at h
 |[_],_,h=>by simp at h
 |a::b::t,0,_=>by simp[gG]
 |a::b::t,i+1,h=>by
  have:=IX (l:=b::t) (i:=i) (by simp at h⊢;omega);rw[gG,lZ,this];simp only[lZ]
def BX: ∀(l:List Rat) (a:Rat),(gG (a::l)).length=l.length
 |[],_=>rfl
 |b::t,a=>by rw[gG,bT,BX t b,bT]
def WX{cuts:List Rat}(h:cuts.Pairwise (· < ·)){i j:Nat}(hi:i<=cuts.length)(hj:j<cuts.length):(cuts.getD j 0<(fI cuts).getD i 0↔j<i)/\cuts.getD j 0≠(fI cuts).getD i 0:=by
 have mono: ∀{a b:Nat},a<=b->b<cuts.length->cuts.getD a 0<=cuts.getD b 0:=fun{a b} hab hb=>by
  by_cases e:a=b
  ·subst e;exact iQ
  ·exact gJ (x9 h (by omega) hb)
 cases cuts with
 |nil=>simp at hj
 |cons a t=>
  have hl:(a::t).length=t.length+1:=J;rw[fI]
  cases i with
  |zero=>
   rw[sW];have:=mono (bL j) hj;rw[sW] at this;constructor
   ·constructor
    ·intro q;exfalso;grind
    ·intro q;omega
   ·intro q;grind
  |succ i=>
   rw[lZ];by_cases e:i<t.length
   ·have e1:(gG (a::t)++[(a::t).getLast (by simp)+1]).getD i 0=((a::t).getD i 0+(a::t).getD (i+1) 0)/2:=by
     rw[<-IX (by omega),aK,aK,cS (by rw[BX];exact e)]
    rw[e1];have h1:=x9 h (Nat.lt_succ_self i) (by omega);by_cases q:j<=i
    ·have:=mono q (by omega)
     constructor
     ·exact⟨fun _=>by omega,fun _=>by grind⟩
     ·grind
    ·have:=mono (show i+1<=j by omega) hj
     constructor
     ·exact⟨fun _=>by exfalso;grind,fun _=>by omega⟩
     ·grind
   ·have ei:i=t.length:=by omega
    have e1:(gG (a::t)++[(a::t).getLast (by simp)+1]).getD i 0=(a::t).getLast (by simp)+1:=by
     rw[aK,fV (by rw[BX];omega),BX,ei];simp
    rw[e1];have:=OV h (by simp) ((a::t).getD j 0) (by rw[aK,aX hj];exact jW _);constructor
    ·exact⟨fun _=>by omega,fun _=>by grind⟩
    ·grind
def Pe(x:Rat): ∀{cuts:List Rat},cuts.Pairwise (· < ·)-> ∃i,i<=cuts.length/\ ∀j,j<cuts.length->(cuts.getD j 0<x↔j<i)
 |[],_=>⟨0,aL _,fun j hj=>by simp at hj⟩
 |a::t,h=>by
  rw[bX] at h;by_cases q:a<x
  ·obtain⟨i,h1,h2⟩:=Pe x h.2
   refine⟨i+1,by simp;exact h1,fun j hj=>?_⟩
   cases j with
   |zero=>simp[q]
   |succ j=>rw[lZ,h2 j (by simpa using hj)];omega
  ·refine⟨0,bL _,fun j hj=>⟨fun k=>?_,fun k=>by omega⟩⟩
   exfalso
   cases j with
   |zero=>simp at k;grind
   |succ j=>
    rw[lZ] at k;have hj':j<t.length:=by simpa using hj
    have:=h.1 (t.getD j 0) (by rw[aK,aX hj'];exact jW _);grind
def OC{out:List Rat}{s:ao}{y:Rat}:y∈gv out s↔y∈out\/(s.nl=false/\y=s.lo)\/(s.nh=false/\y=s.hi):=by
 unfold gv
 cases e1:s.nl<;>cases e2:s.nh<;>simp[uj]<;>grind
def vw{v:ao}{x:Rat}:lO [v] x=true↔v.ins x:=by
 unfold lO Aa Aa ao.ins;have h1:=CN x v.lo;have h2:=Bw x v.hi;rw[decide_eq_true_eq]
 cases e1:v.nl<;>cases e2:v.nh<;>simp only[if_true,cM,if_false,false_or,true_or,h1,h2,and_true,true_and,show(0:Int)<1 from by decide,show(-1:Int)<0 from by decide]<;>grind
def Pz{cuts:List Rat}{v:ao}(hl:v.nl=true\/v.lo∈cuts)(hh:v.nh=true\/v.hi∈cuts){x g:Rat}(ho: ∀u∈cuts,(u<x↔u<g)/\u≠x/\u≠g)(h:v.ins x):v.ins g:=by
 refine⟨?_,?_⟩
 ·rcases hl with e|e
  ·exact .inl e
  ·rcases h.1 with k|k
   ·exact .inl k
   ·exact .inr ((ho _ e).1.1 k)
 ·rcases hh with e|e
  ·exact .inl e
  ·rcases h.2 with k|k
   ·exact .inl k
   ·obtain⟨a,b,c⟩:=ho _ e
    right;by_cases q:v.hi<g
    ·have:=a.2 q;grind
    ·grind
def Yk{v w:ao}{t:Rat}(hv:v.ins t)(hw:w.ins t): ∃z∈gI 2 [v] [w],z.ins t:=by
 have hmem: ∀y,y∈fP ([v]++[w])↔((v.nl=false/\y=v.lo)\/(v.nh=false/\y=v.hi))\/(w.nl=false/\y=w.lo)\/(w.nh=false/\y=w.hi):=fun y=>by
  show y∈gv (gv [] v) w↔_;rw[OC,OC];simp
 have hasc:=(LF ([v]++[w])).1;have h0: ∀u∈fP ([v]++[w]),u≠t:=fun u hu e=>by
  subst e;rcases(hmem u).1 hu with(⟨a,b⟩|⟨a,b⟩)|⟨a,b⟩|⟨a,b⟩
  ·have:=hv.1.resolve_left (by rw[a];decide);grind
  ·have:=hv.2.resolve_left (by rw[a];decide);grind
  ·have:=hw.1.resolve_left (by rw[a];decide);grind
  ·have:=hw.2.resolve_left (by rw[a];decide);grind
 have l1:v.nl=true\/v.lo∈fP ([v]++[w]):=by
  cases e:v.nl with
  |true=>exact .inl J
  |false=>exact .inr ((hmem _).2 (.inl (.inl ⟨e,J⟩)))
 have l2:v.nh=true\/v.hi∈fP ([v]++[w]):=by
  cases e:v.nh with
  |true=>exact .inl J
  |false=>exact .inr ((hmem _).2 (.inl (.inr ⟨e,J⟩)))
 have l3:w.nl=true\/w.lo∈fP ([v]++[w]):=by
  cases e:w.nl with
  |true=>exact .inl J
  |false=>exact .inr ((hmem _).2 (.inr (.inl ⟨e,J⟩)))
 have l4:w.nh=true\/w.hi∈fP ([v]++[w]):=by
  cases e:w.nh with
  |true=>exact .inl J
  |false=>exact .inr ((hmem _).2 (.inr (.inr ⟨e,J⟩)))
 unfold gI kg;generalize fP ([v]++[w])=cuts at*;obtain⟨i,hi,ho⟩:=Pe t hasc;have hord: ∀u∈cuts,(u<t↔u<(fI cuts).getD i 0)/\u≠t/\u≠(fI cuts).getD i 0:=fun u hu=>by
  obtain⟨j,hj,e⟩:=List.mem_iff_getElem.1 hu;have e':cuts.getD j 0=u:=by rw[aK,aX hj];exact e
  obtain⟨g1,g2⟩:=WX hasc hi hj;have:=ho j hj;rw[e'] at g1 g2 this;exact⟨this.trans g1.symm,h0 u hu,g2⟩
 have hlen:(fI cuts).length=cuts.length+1:=KO;refine Md hasc (i:=i) ?_ ?_ (by rw[aJ,hlen];exact aL _) (by rw[aJ,hlen];omega)
 ·rw[aK,fU,aX (by omega)]
  show GX 2 (lO [v] _) (lO [w] _)=true;have e:(fI cuts)[i]'(by omega)=(fI cuts).getD i 0:=by rw[aK,aX (by omega)];rfl
  rw[e,vw.2 (Pz l1 l2 hord hv),vw.2 (Pz l3 l4 hord hw)];rfl
 ·unfold fH ao.ins
  dsimp only;refine⟨?_,?_⟩
  ·by_cases z:i=0
   ·left;simp[z]
   ·right;rw[if_neg z];exact(ho (i-1) (by omega)).2 (by omega)
  ·by_cases z:i=cuts.length
   ·left;simp[z]
   ·right
    rw[if_pos (by omega)];have a:=ho i (by omega);have b:=h0 (cuts.getD i 0) (by rw[aK,aX (by omega)];exact jW _);have c: ¬cuts.getD i 0<t:=fun k=>by have:=a.1 k;omega
    grind
def Fq{l m:aa}(h:crossI l m=0):l.cutK m=0:=by
 have e:l.cutK m= -(crossI l m:Rat):=by unfold aa.cutK aa.nor aa.dir ab.dot crossI;push_cast;grind
 rw[e,h];rfl
def Mn{k:Rat}{side:Int}(hs:side=1\/side= -1)(h:0<(side:Rat)*k):k.num.sign=side:=by
 rcases hs with rfl|rfl
 ·exact(m9 k).2 (by grind)
 ·have:k.num.sign<0:=(oO k).2 (by grind)
  have:=pS k.num;omega
def Sd{f:aO}{m:aa}{side:Int}(hs:side=1\/side= -1)(hl:f.l.Ne){t:Rat}(ht:f.v.ins t)(hm:0<(side:Rat)*m.value (f.l.at t)): ∃g∈i4 f m side,g.l=f.l/\g.v.ins t:=by
 have hv:=mf f.l m t;have ho: ¬tv f.l m=true:=fun e=>by
  unfold tv at e;rw[decide_eq_true_eq,nG] at e;rw[Fq e.1,show f.l.cutC m=m.value f.l.base from J,e.2] at hv;rw[hv] at hm;grind
 unfold i4;rw[if_neg ho];have hh: ∃w,tj f.l m side=[w]/\w.ins t:=by
  unfold tj;by_cases hc:crossI f.l m=0
  ·rw[if_pos hc]
   rw[Fq hc,show f.l.cutC m=m.value f.l.base from J] at hv;rw[if_pos (Mn hs (by rw[hv] at hm;grind))];exact⟨_,J,Rq t⟩
  ·rw[if_neg hc]
   have hp:=vg hl hc;have hK:f.l.cutK m≠0:=fun e=>by
    have e2:f.l.cutK m= -(crossI f.l m:Rat):=by unfold aa.cutK aa.nor aa.dir ab.dot crossI;push_cast;grind
    rw[e2] at e;have:(crossI f.l m:Rat)=0:=by grind
    exact hc (fZ.1 this)
   generalize hx:en f.l (gO f.l m)=x at*;have hv2: ∀u,m.value (f.l.at u)=f.l.cutK m*(u-x):=fun u=>by rw[mf,hp];grind
   rw[hv2] at hm;have e1:m.value (f.l.at (x+1))=f.l.cutK m:=by rw[hv2];grind
   rw[e1];generalize f.l.cutK m=K at*;by_cases q:K.num.sign=side
   ·rw[if_pos q]
    refine⟨_,J, .inr ?_, .inl J⟩;show x<t;rcases hs with rfl|rfl
    ·have:=(m9 K).1 q
     have:=(wk this).1 (show 0<K*(t-x) by grind);grind
    ·have:=(oO K).1 (by omega)
     have:=(Eb this).1 (show K*(t-x)<0 by grind);grind
   ·rw[if_neg q]
    refine⟨_,J, .inl J, .inr ?_⟩;show t<x;have h3:=n8 K;rcases hs with rfl|rfl
    ·have kn:K<0:=by
      rcases h3 with h|h|h
      ·exact absurd h hK
      ·exact absurd ((m9 K).2 h) q
      ·exact h
     have:=(Eb kn (b:=x-t)).1 (by grind);grind
    ·have kp:0<K:=by
      rcases h3 with h|h|h
      ·exact absurd h hK
      ·exact h
      ·exact absurd (by have:=(oO K).2 h;have:=pS K.num;omega) q
     have:=(wk kp (b:=x-t)).1 (by grind);grind
 obtain⟨w,e,hw⟩:=hh;rw[e];obtain⟨z,hz,hzt⟩:=Yk ht hw;exact⟨⟨f.l,z⟩,fM hz,J,hzt⟩
def Bm(E:List aO)(c:List aa)(l:List aO):Prop:= ∀e∈E,∀t,e.v.ins t->et c (e.l.at t)-> ∃f∈l,f.l=e.l/\f.v.ins t
def Bm.split{E l:List aO}{c:List aa}(h:Bm E c l)(hE: ∀e∈E,e.l.Ne){m:aa}{side:Int}(hs:side=1\/side= -1){m':aa}(hm': ∀p,m'.value p=(side:Rat)*m.value p):Bm E (c++[m']) (l.flatMap fun g=>i4 g m side):=fun e he t ht hin=>by
 obtain⟨h1,h2⟩:=HR.1 hin;obtain⟨f,hf,ef,hft⟩:=h e he t ht h1;rw[hm'] at h2;obtain⟨g,hg,eg,hgt⟩:=Sd (f:=f) hs (by rw[ef];exact hE e he) hft (by rw[ef];exact h2);exact⟨g,gN.2 ⟨f,hf,hg⟩,by rw[eg,ef],hgt⟩
def GC{acc:ab->Bool}{E:List aO}(hE: ∀e∈E,e.l.Ne)(ha: ∀(c:List aa) (q p:ab),(∀e∈E,∀t,e.v.ins t-> ¬et c (e.l.at t))->et c q->et c p->acc q=acc p): ∀{n:Nat} {l:List aO} {c:List aa} {p:ab},(∀f∈l,m8 f)->l9 n l->(∀m∈c,m.ok)->Bm E c l->et c p->gD (jq acc n l c).lns p->(jq acc n l c).val p=acc p
 |n,[],c,p,_,_,hc,hcov,hp,_=>by
  have e:jq acc n [] c= .leaf (acc (uQ c c)):=by cases n<;>rfl
  rw[e,Tr.val];exact ha c _ _ (fun e he t ht hin=>by obtain⟨f,hf,_⟩:=hcov e he t ht hin;cases hf) (Ul hc ((RW hc).2 ⟨p,hp⟩)) hp
 |0,f::t,_,_,_,hf,_,_,_,_=>by
  obtain⟨K,hK,hs⟩:=hf;obtain⟨m,hm,_⟩:=hs f aQ;have:K=[]:=bU (by omega);rw[this] at hm;cases hm
 |n+1,f::t,c,p,hok,hf,hc,hcov,hp,hoff=>by
  have fo:=hok f aQ;have hok': ∀side,∀g∈(f::t).flatMap fun g=>i4 g f.l side,m8 g:=fun side g hg=>by
   obtain⟨q,hq,hg⟩:=gN.1 hg;exact(Bg (hok q hq) fo.lb g hg).1
  rw[jq] at hoff⊢;by_cases q:0<f.l.value p
  ·rw[Tr.val_pos q]
   exact GC hE ha (hok' 1) (hf.split hok) (MG hc fo.ok) (hcov.split hE (.inl J) fun p=>by grind) (HR.2 ⟨hp,q⟩) hoff.x
  ·rw[Tr.val_neg q]
   have:=hoff.l;exact GC hE ha (hok' (-1)) (hf.split hok) (MG hc fo.ok.rev) (hcov.split hE (.inr J) fun p=>by rw[ik];grind) (HR.2 ⟨hp,by rw[ik];grind⟩) hoff.y
def Sb{rs:List (List ZP)}{fill:Int}(hr: ∀r∈rs,dC r){p:ab}(ho:gD (oG rs fill).lns p):(ie rs fill).val p=jw rs fill p:=by
 obtain⟨h1,h2⟩:=n9 hr;have hok:(oG rs fill).all aa.ok:=pp fun f hf=>(h2 f hf).ok;unfold ie;rw[Tr.val_restrict _ _ _ hok dw.nil (fun s hs=>by cases hs) ho];unfold oG at ho⊢;refine GC (E:=co rs) (fun e he=>(h2 e he).ok.ne) (fun c q p hno hq hp=>MR hr hno hq hp) h2 ?_ (fun m hm=>by cases hm) (fun e he t ht _=>⟨e,he,J,ht⟩) (fun m hm=>by cases hm) ho;exact⟨(co rs).map (·.l),by rw[aJ];exact aL _,fun f hf=>⟨f.l,fM hf, .inl J⟩⟩
structure AV where
 ax:Rat
 ay:Rat
 ac:Rat
def AV.ev(g:AV)(p:ab):Rat:=g.ax*p.x+g.ay*p.y+g.ac
def AV.li(g:AV)(u:ab):Rat:=g.ax*u.x+g.ay*u.y
def IG(a b x:ab):Prop:= ∃s:Rat,0<=s/\s<=1/\x=bp a b s
def UJ(a b p r:ab):Prop:=IG a b p/\((r=⟨b.x-p.x,b.y-p.y⟩/\b≠p)\/(r=⟨a.x-p.x,a.y-p.y⟩/\a≠p))
def NB(r u:ab):Prop:= ∃k:Rat,0<k/\u=⟨k*r.x,k*r.y⟩
def Wk(E:List (ab×ab))(p u:ab):Prop:=u≠⟨0,0⟩/\ ∀f∈E,∀r,UJ f.1 f.2 p r-> ¬NB r u
def rE(r:List ZP):List (ab×ab):=(List.range r.length).map fun k=>((r.getD k (0,0)).q,(ek r k).q)
def ER(rs:List (List ZP)):List (ab×ab):=rs.flatMap rE
def zw{a b:ZP}(h:a.q=b.q):a=b:=by
 have hx:(a.1:Rat)=(b.1:Rat):=congrArg ab.x h;have hy:(a.2:Rat)=(b.2:Rat):=congrArg ab.y h;exact Prod.ext (by exact_mod_cast hx) (by exact_mod_cast hy)
def Zq(rs:List (List ZP))(fill:Int)(p v:ab)(b:Bool):Prop:= ∃e:Rat,0<e/\ ∀d,0<d->d<=e->jw rs fill (dG p v d)=b
section
variable {rs:List (List ZP)} {fill:Int} {p v w:ab} {b c:Bool}
end
def Ur(ds:List ab)(u:ab):Prop:=u≠⟨0,0⟩/\ ∀r∈ds,¬NB r u
def WdD(ds:List ab)(v w:ab):Prop:= ∀s,0<=s->s<=1->Ur ds (bp v w s)
def vO(x y:ab):Nat:=if x.cross y<0 then 1 else if 0<x.cross y then 3 else if 0<x.dot y then 0 else 2
def aEn(x y z:ab):Prop:=vO x y<vO x z\/(vO x y=vO x z/\(vO x y=1\/vO x y=3)/\0<z.cross y)
section
variable {ds:List ab}
end
def ePa(x:Bool×aF):DV:= .ag [.sl (x.2.map bi),eU (.leaf x.1)]
def eC(c:aF):DV:= .sl (c.map bi)
def aDK(ps:List (Bool×aF)):List aF:=(ps.filter (·.1)).map (·.2)
def Qs(G:Gh)(y:Value)(h:Is G (.ag [vI 0,vI 0, .v (.pointer none),vI 0,vI 0, .v (.pointer none)]) y):Is G (eZ (oB [])) y:=by
 obtain⟨m,rfl,g⟩:=c6.1 h;obtain⟨v1,m,rfl,h1,g⟩:=ba.1 g;obtain⟨v2,m,rfl,h2,g⟩:=ba.1 g;obtain⟨v3,m,rfl,h3,g⟩:=ba.1 g;obtain⟨v4,m,rfl,h4,g⟩:=ba.1 g;obtain⟨v5,m,rfl,h5,g⟩:=ba.1 g;obtain⟨v6,m,rfl,h6,g⟩:=ba.1 g
 cases cA.1 g
 have e1:=wu G _ (c6.2 ⟨[v1,v2,v3],J, .cons h1 (.cons h2 (.cons h3 .nil))⟩);have e2:=wu G _ (c6.2 ⟨[v4,v5,v6],J, .cons h4 (.cons h5 (.cons h6 .nil))⟩);obtain⟨m1,q1,g1⟩:=c6.1 e1;obtain⟨m2,q2,g2⟩:=c6.1 e2
 cases q1;cases q2
 exact c6.2 ⟨_,J,g1.app g2⟩
theorem BQ.samp(v:ao)(i j:Nat)[h1:BQ v.lo i][h2:BQ v.hi j]:BQ v.sample (i+j+1+2):=by
 have b1:BQ (1:Rat) 1:=⟨by decide,by decide⟩;unfold ao.sample;split
 ·exact BQ.z1.mono (by omega)
 ·split
  ·exact(inferInstance:BQ (v.hi-1) (j+1+1)).mono (by omega)
  ·split
   ·exact(inferInstance:BQ (v.lo+1) (i+1+1)).mono (by omega)
   ·exact inferInstance
theorem Hr{s:aO}(h:AG s):bg (s.l.at s.v.sample) 3500:=by
 haveI:=h.lb;haveI:=h.v.lo;haveI:=h.v.hi;have h0:BQ s.v.sample _:=BQ.samp s.v 1200 1200;have:= @bg.at s.l s.v.sample _ _ h0;exact⟨this.x.mono (by decide),this.y.mono (by decide)⟩
theorem H5{s g:aO}(hs:AG s)(hg:AG g):BQ (-(g.l.value (s.l.at s.v.sample)/g.l.nor.dot s.l.nor)) 9000:=by
 haveI:=hs.lb;haveI:=hg.lb;haveI:=Hr hs;exact BQ.mono (inferInstance:BQ (-(g.l.value (s.l.at s.v.sample)/g.l.nor.dot s.l.nor)) _) (by decide)
def Vt{GB:Gh}:PF GB prog 255 [eC []] (eZ (oB [])):=by
 refine fn (fu:=⟨10⟩) func255 J J ntmps255 J J (fun C=>?_);refine gu J (by rfl) J<|?_;exact iu J Qs
def XA(l:List aO):dB 17 (l.map bi):=fun d hd=>by
 obtain⟨x,_,rfl⟩:=bJ.1 hd;exact⟨J,J⟩
def NX{l:aa}{p:ab}{cs:aF}{k:Nat}{g:aO}{f:Rat}(h:cs[k]? =some g):ip l p (cs.drop k) f=ip l p (cs.drop (k+1)) (if Int.sign (g.l.nor.dot l.nor).num<0 then(if-(g.l.value p/g.l.nor.dot l.nor)<f then-(g.l.value p/g.l.nor.dot l.nor) else f) else f):=by
 obtain⟨h1,h2⟩:=aS.1 h;rw[cJ h1,h2,ip]
def N3(s:aO)(cs:aF):oB (s::cs)=(s.l.at s.v.sample).add (s.l.nor.scale (ip s.l (s.l.at s.v.sample) cs 1*mkRat 1 2)):=by
 show dG _ _ _=_;unfold dG ab.add ab.scale;simp only[ab.mk.injEq];constructor<;>grind
def RG{GB:Gh}{s:aO}{cs:aF}(hc:iH (s::cs))(hn:cs.length<=100000):PF GB prog 255 [eC (s::cs)] (eZ (oB (s::cs))):=by
 have hs:=hc s aQ;have hsl:=hs.lb;have hv1:=hs.v.lo;have hv2:=hs.v.hi;have hp:=Hr hs;have hml:((s::cs).map bi).length=cs.length+1:=by simp
 have hml2:(cs.map bi).length=cs.length:=aJ ..;refine fn (fu:=⟨10⟩) func255 J J ntmps255 J J (fun C=>?_);refine ee J (by show some (decide _)=some false;rw[decide_eq_false (by simp;omega)]) J<|ix _ J J J<|ix _ J J J<|cl J (OL (v:=s.v) (i:=1200)) J<|?_;refine cl J (AZ (l:=s.l) (t:=s.v.sample)) J<|ix _ J J J<|cl J (zt (l:=s.l)) J<|cl J (qf (by omega)) J<|sG (fu:=⟨1⟩) 1 (cs.length+1) (cs.map bi) J J (by rw[hml]) (by rw[bQ (by rw[hml];exact aL _)];rfl) (XA _) (by omega) (by omega) J<|?_;refine aB 31 (.d (vI (cs.length:Nat))) J (by rw[hml2]<;>rfl) ?_;refine gx J<|?_;refine lp (X:=Rat×Nat) (fun⟨f,k⟩=>[(32, .d (vI (k:Nat))),(5, .ov 5 0)]) (fun⟨f,k⟩=>[(5,some (.o 139 [.d (vI (dm f)), .d (vI (dq f)), .d (di f)] true))]) (fun⟨f,k⟩=>ip s.l (s.l.at s.v.sample) (cs.drop k) f=ip s.l (s.l.at s.v.sample) cs 1/\k<=cs.length/\BQ f 9000) (fun⟨f,k⟩=>cs.length-k) ⟨((1:Int):Rat),0⟩ J ⟨J,bL _,BQ.mono (k:=2) ⟨by decide,by decide⟩ (by decide)⟩ (fun _=>J) (fun⟨f,k⟩ hk=>?_)
 try dsimp only at hk⊢
 obtain⟨h1,h2,h3⟩:=hk;refine br J J J (fun hc33=>?_) (fun hc33=>?_)
 .
  obtain⟨g,hx⟩: ∃g,cs[k]? =some g:=⟨_,aX (by omega)⟩;have hg:=hc g (aZ _ (bZ hx));have hgl:=hg.lb;have hfb:=H5 hs hg;refine ix _ J (eH hx) J<|cl J (zt (l:=g.l)) J<|cl J (tN (p:=g.l.nor) (q:=s.l.nor)) J<|cl J (lv (q:=g.l.nor.dot s.l.nor)) J<|?_;refine br J J J (fun hc43=>?_) (fun hc43=>?_)
  .
   refine cl J (Dr (l:=g.l) (p:=(s.l.at s.v.sample))) J<|cl J (yp (p:=g.l.value (s.l.at s.v.sample)) (q:=g.l.nor.dot s.l.nor)) J<|?_;refine cl J (oD (q:=g.l.value (s.l.at s.v.sample)/g.l.nor.dot s.l.nor)) J<|cl (hv:=by simp only[ah];exact⟨by kernel_rfl,by omega⟩) J (K3 (p:=f) (q:= -(g.l.value (s.l.at s.v.sample)/g.l.nor.dot s.l.nor))) J<|?_;exact at_ ⟨if-(g.l.value (s.l.at s.v.sample)/g.l.nor.dot s.l.nor)<f then-(g.l.value (s.l.at s.v.sample)/g.l.nor.dot s.l.nor) else f,k+1⟩ (by dsimp only;exact⟨⟨by rw[<-h1,NX hx,if_pos hc43],by omega,by split;exact H5 hs hg;exact h3⟩,(by omega)⟩)
  .
   exact at_ ⟨f,k+1⟩ (by dsimp only;exact⟨⟨by rw[<-h1,NX hx,if_neg hc43],by omega,h3⟩,(by omega)⟩)
 .
  obtain rfl:k=cs.length:=by omega
  obtain rfl:f=ip s.l (s.l.at s.v.sample) cs 1:=by rw[jY] at h1;exact h1
  refine cl J (Ib (q:=ip s.l (s.l.at s.v.sample) cs 1)) J<|cl J (E1 (p:=s.l.nor) (c:=ip s.l (s.l.at s.v.sample) cs 1*mkRat 1 2)) J<|?_;refine cl J (Kq (p:=(s.l.at s.v.sample)) (q:=s.l.nor.scale (ip s.l (s.l.at s.v.sample) cs 1*mkRat 1 2))) J<|?_;exact rz J (by rw[N3];rfl)
def eRz(v:List ab):DV:= .sl (v.map eZ)
def eRa(v:List ab):DV:= .sl (v.map pb)
def mP{α:Type}(f:α->Rat):List α->Rat
 |[]=>0
 |a::t=>f a+mP f t
def Z2(f:ab->ab->Rat)(v:List ab):Rat:=mP (fun i=>f (v.getD i ⟨0,0⟩) (v.getD ((i+1)%v.length) ⟨0,0⟩)) (List.range v.length)
def aFC(c:aF):Rat:=mP (fun s=>(s.v.hi-s.v.lo)*(s.l.c:Rat)) c
def aGu(t:Tr):Prop:= ∃(L:List aa) (R:Rat),(∀l∈L,l.ok)/\ ∀p,gD L p->V8 R p->t.val p=false
def Oq(es:List Int):Nat->Nat->Tr×Nat
 |0,a=>sF es a
 |d+1,a=>
  let k:=aA es 3 a
  if(k.1:Int)=0 then
   let x:=Oq es d k.2
   let o:=aA es 4 x.2
   let y:=Oq es d o.2
   (x.1.mergeQ (1+(o.1:Int)) y.1 [],y.2)
  else sF es k.2
def aGn(f:ab->ab->Rat):Prop:= ∀(l:aa) (a b c:Rat),l.Ne->f (l.at a) (l.at c)=f (l.at a) (l.at b)+f (l.at b) (l.at c)
def sdF(f:ab->ab->Rat)(s:aO):Rat:=f (s.l.at s.v.lo) (s.l.at s.v.hi)
def U1(f:ab->ab->Rat)(c:aF):Rat:=Z2 f (CT (c.map (·.l)))
def Rf(f:ab->ab->Rat)(t:Tr)(c:aF):Rat:=mP (fun x:Bool×aF=>if x.1 then U1 f x.2 else 0) (t.parts c)
def muG(f:ab->ab->Rat)(t:Tr)(c:aF)(l:aa):Rat:=if cE c l then Rf f t (bF c l) else 0
def aGb(t:Tr)(c:aF):Prop:= ∀x∈t.parts c,x.1=true->YV x.2=true
def Wt(v:List ab):List (ab×ab):=(List.range v.length).map fun i=>(v.getD i ⟨0,0⟩,v.getD ((i+1)%v.length) ⟨0,0⟩)
def pG(cs:List (List aa)):List (ab×ab):=cs.flatMap fun c=>Wt (CT c)
def p6(cs:List aF):List (List aa):=cs.map fun c=>c.map (·.l)
def edE(x:ab×ab):List DV:=[By x.1 x.2,eF (x.1.cross x.2)]

def eCl(x:List aa×Bool):DV:= .ag [.sl (x.1.map eL),vB x.2]
def eSd(c:List aa):DV:= .sl (c.map eL)
def aFY(ps:List (List aa×Bool)):List (List aa):=(ps.filter (·.2)).map (·.1)
def eRp(v:List ab):DV:= .sl (v.map eP)
structure KF (GB:Gh) (ai al ae au:Addr):Prop extends EG GB ai al ae where
 ErrUnbounded:GB 5=some [.iface 499 (.pointer (some au))]
def aGE(c:aF):List (List ab):=Ls (CT (c.map (·.l)))


def uE:List ZP:=[(0,0),(1,0),(0,1)]
def Wv:dC uE:=⟨by decide,by decide,fun p hp=>by
 unfold uE at hp;simp only[aW,jM,or_false] at hp;rcases hp with rfl|rfl|rfl<;>exact⟨by decide,by decide⟩,by decide⟩
structure EGS (GB:Gh) (ai al ae au ar:Addr):Prop extends KF GB ai al ae au where
 ErrEmpty:GB 4=some [.iface 499 (.pointer (some ae))]
 ErrRange:GB 2=some [.iface 499 (.pointer (some ar))]
def KG(r:List ab)(j:Nat):Nat->ab
 |0=>(((r.getD 0 ⟨0,0⟩).add (r.getD 1 ⟨0,0⟩)).add (r.getD 2 ⟨0,0⟩)).scale (((1:Int):Rat)/((3:Int):Rat))
 |k+1=>((KG r j k).add (r.getD j ⟨0,0⟩)).scale (((1:Int):Rat)/((2:Int):Rat))
def smp(ts:List (List ab))(i:Nat):ab:=KG (ts.getD (i%ts.length) []) (i%3) (i/ts.length)
theorem bg.mono{p:ab}{i j:Nat}(h:bg p i)(hj:i<=j):bg p j:=⟨h.x.mono hj,h.y.mono hj⟩
structure XR (cs:List aF) (b:Nat):Prop where
 lb: ∀c∈cs,∀s∈c,LB s.l
 sh: ∀c∈cs,c.length<=100000
 ln:cs.length<=1000000
 pt: ∀x∈pG (p6 cs),bg x.1 b/\bg x.2 b
def LX(x:ab×ab):ab:=(x.1.add x.2).scale (x.1.cross x.2)
def Ll{α:Type}(f:α->ab)(l:List α):ab:=⟨mP (fun x=>(f x).x) l,mP (fun x=>(f x).y) l⟩
def qF(es:List Int)(a:Nat):Rat×Nat:=
 (if((aA es 6 (aA es 9 a).2).1:Int)=0 then mkRat (2*(((aA es 9 a).1:Int)-4)+1) 2 else if((aA es 6 (aA es 9 a).2).1:Int)=1 then mkRat (3*(((aA es 9 a).1:Int)-4)+1) 3 else(((aA es 9 a).1:Rat)-4:Rat),(aA es 6 (aA es 9 a).2).2)
def Hy(es:List Int)(a:Nat):ab×Nat:=(⟨(qF es a).1,(qF es (qF es a).2).1⟩,(qF es (qF es a).2).2)
def xl:aa:=⟨1,0,0⟩
def aGc(es:List Int)(L:List aa)(a:Nat):ab×Nat:=
 if L.length=0 then Hy es a else
 if((aA es 3 (aA es L.length a).2).1:Int)=0 then
  (if crossI (L.getD (aA es L.length a).1 xl) (L.getD (aA es L.length (aA es 3 (aA es L.length a).2).2).1 xl)≠0 then(gO (L.getD (aA es L.length a).1 xl) (L.getD (aA es L.length (aA es 3 (aA es L.length a).2).2).1 xl),(aA es L.length (aA es 3 (aA es L.length a).2).2).2) else Hy es (aA es L.length (aA es 3 (aA es L.length a).2).2).2)
 else if((aA es 3 (aA es L.length a).2).1:Int)=1 then((L.getD (aA es L.length a).1 xl).at (qF es (aA es 3 (aA es L.length a).2).2).1,(qF es (aA es 3 (aA es L.length a).2).2).2) else Hy es (aA es 3 (aA es L.length a).2).2

structure EGV (GB:Gh) (ai al ae au:Addr):Prop extends KF GB ai al ae au where
 ErrEmpty:GB 4=some [.iface 499 (.pointer (some ae))]
def WL(x:ab×ab):Rat:=(x.1.x*x.1.x+x.2.x*x.2.x+(x.1.add x.2).x*(x.1.add x.2).x)*x.1.cross x.2
def Z7(x:ab×ab):Rat:=(x.1.x*x.1.y+x.2.x*x.2.y+(x.1.add x.2).x*(x.1.add x.2).y)*x.1.cross x.2
def P7(x:ab×ab):Rat:=(x.1.y*x.1.y+x.2.y*x.2.y+(x.1.add x.2).y*(x.1.add x.2).y)*x.1.cross x.2
structure aGk (cs:List aF):Prop where
 ed:XR cs 1200
 cr: ∀x∈pG (p6 cs),BQ (x.1.cross x.2) 5000
 ar: ∀k,BQ (mP (fun x=>x.1.cross x.2) ((pG (p6 cs)).take k)) 2000000
 mo: ∀k,bg (Ll LX ((pG (p6 cs)).take k)) 3000000
 sa: ∀k,BQ (mP WL ((pG (p6 cs)).take k)) 4000000
 sb: ∀k,BQ (mP Z7 ((pG (p6 cs)).take k)) 4000000
 sc: ∀k,BQ (mP P7 ((pG (p6 cs)).take k)) 4000000
def aE3(t:Tr):Rat:=mP (fun x=>x.1.cross x.2) (pG (p6 (EH t)))*mkRat 1 2
def aGS(t:Tr):ab:=(Ll LX (pG (p6 (EH t)))).scale (((1:Int):Rat)/((6:Int):Rat))
def zR0:DV:= .ag [vB false, .sl [], .sl []]
def zP0:DV:= .ag [vB false, .sl [], .sl [],vB false, .sl [], .sl []]
def W8:Rat:=((1:Int):Rat)/((24:Int):Rat)
def aGz(f:ab×ab->Rat)(t:Tr):Rat:=mP f (pG (p6 (EH t)))*W8
structure DQ (D B:Nat) (x:Rat):Prop where
 ex: ∃n:Int,x*((D:Nat):Rat)=(n:Rat)/\n.natAbs<=B*D
def UV(l m:aa):Nat:=if crossI l m=0 then 1 else(crossI l m).natAbs
def WM(K:List aa):List Nat:=K.flatMap fun l=>K.map (UV l)
def aGO(K:List aa):Nat:=(WM K).foldr (· * ·) 1
structure DP (D B:Nat) (p:ab):Prop where
 x:DQ D B p.x
 y:DQ D B p.y

def eM(a b c d e f:Rat):DV:= .ag [(.v (.bool (decide ((a).num<0)))),(dN (a).num.natAbs),(dD (a).den),(.v (.bool (decide ((b).num<0)))),(dN (b).num.natAbs),(dD (b).den),(.v (.bool (decide ((c).num<0)))),(dN (c).num.natAbs),(dD (c).den),(.v (.bool (decide ((d).num<0)))),(dN (d).num.natAbs),(dD (d).den),(.v (.bool (decide ((e).num<0)))),(dN (e).num.natAbs),(dD (e).den),(.v (.bool (decide ((f).num<0)))),(dN (f).num.natAbs),(dD (f).den)]
def zq3:List DV:=[.v (.bool (decide ((0:Rat).num<0))),dN (0:Rat).num.natAbs,dD (0:Rat).den]

def UQ:List ZP:=[(0,0),(2,0),(2,2),(0,2)]
def sqT:Tr:=ie [UQ] 2



def aGo(M:List aa)(E:List (ab×ab)):Prop:= ∀f∈E,∃m∈M,m.value f.1=0/\m.value f.2=0
section
variable {rs:List (List ZP)} {fill:Int} {p:ab}
def aFV(rs:List (List ZP))(fill:Int)(p:ab)(b:Bool):Prop:= ∃x,Wk (ER rs) p x/\Zq rs fill p x b
end
section
variable {rs:List (List ZP)} {fill:Int} {L:List aa} {p:ab}
end
def NT(v:ao)(t:Rat):Bool:=(v.nl||decide (b9 v.lo t<=0))&&(v.nh||decide (0<=b9 v.hi t))
def Hi(f:aO)(p:ab):Bool:=decide (Int.sign (f.l.value p).num=0)&&NT f.v (en f.l p)
def qj(f:aO)(p:ab):Int:=
 if Int.sign f.l.dir.y.num=0\/Int.sign (f.l.value p).num≠Int.sign f.l.dir.y.num then 0
 else if(if Int.sign f.l.dir.y.num<0 then f.v.nh=false/\0<b9 (f.l.at f.v.hi).y p.y else f.v.nl=false/\0<b9 (f.l.at f.v.lo).y p.y) then 0
 else if(if Int.sign f.l.dir.y.num<0 then f.v.nl=false/\b9 (f.l.at f.v.lo).y p.y<=0 else f.v.nh=false/\b9 (f.l.at f.v.hi).y p.y<=0) then 0
 else Int.sign f.l.dir.y.num
def im(E:List aO)(p:ab):Int:=E.foldl (fun n f=>n+qj f p) 0
def Qz{v w:ZP}(h:v≠w)(p:ab): ∃g:Rat,0<g/\c7 v.q w.q p=g*(c8 v w).l.value p/\w.q.y-v.q.y=g*(c8 v w).l.dir.y:=by
 obtain⟨g,g0,h1,h2,h3⟩:=Nj h;refine⟨g,g0,?_,by rw[h3];unfold dG;show _=g*(i6 v.1 v.2 w.1 w.2).dir.y;dsimp only;grind⟩;show _=g*(i6 v.1 v.2 w.1 w.2).value p;rw[h3];generalize i6 v.1 v.2 w.1 w.2=l at*;rw[nf] at*;unfold c7 dG aa.dir;dsimp only;grind
def VM{v w:ZP}(h:v≠w)(ho:(c8 v w).l.ok)(p:ab):qj (c8 v w) p=nA v.q w.q p:=by
 obtain⟨e1,e2,e3⟩:=Ey h ho;obtain⟨g,g0,o1,o2⟩:=Qz h p;have b1:(c8 v w).v.nl=false:=J;have b2:(c8 v w).v.nh=false:=J;have so:(0<c7 v.q w.q p↔0<(c8 v w).l.value p)/\(c7 v.q w.q p<0↔(c8 v w).l.value p<0):=by
  rw[o1];constructor
  ·rw[Rat.mul_comm];exact n7 g0
  ·have:=n7 (s:= -(c8 v w).l.value p) g0
   grind
 have sy:(v.q.y<w.q.y↔0<(c8 v w).l.dir.y)/\(w.q.y<v.q.y↔(c8 v w).l.dir.y<0):=by
  have t1:=n7 (s:=(c8 v w).l.dir.y) g0;have t2:=n7 (s:= -(c8 v w).l.dir.y) g0;constructor<;>grind
 unfold qj;rw[b1,b2,e1,e2];simp only[true_and,Iy,CN];generalize (c8 v w).l.value p=z at*;generalize (c8 v w).l.dir.y=u at*;unfold nA;rcases n8 u with k|k|k
 ·rw[if_pos (.inl ((nG _).2 k))]
  have: ¬(v.q.y<=p.y/\ ¬w.q.y<=p.y/\0<c7 v.q w.q p):=fun q=>by grind
  have: ¬(¬v.q.y<=p.y/\w.q.y<=p.y/\c7 v.q w.q p<0):=fun q=>by grind
  rw[if_neg ‹_›,if_neg ‹_›];rfl
 ·have su:Int.sign u.num=1:=(m9 _).2 k
  rw[su];have n2: ¬(¬v.q.y<=p.y/\w.q.y<=p.y/\c7 v.q w.q p<0):=fun q=>by grind
  rw[if_neg n2];simp only[show¬((1:Int)<0) by decide,if_false,show¬((1:Int)=0) by decide,false_or];by_cases hz:0<z
  ·rw[if_neg (by rw[(m9 _).2 hz];simp)]
   by_cases a1:v.q.y<=p.y
   ·rw[if_neg (by grind)]
    by_cases a2:w.q.y<=p.y
    ·rw[if_pos a2,if_neg (by grind)];rfl
    ·rw[if_neg a2,if_pos ⟨a1,a2,so.1.2 hz⟩];rfl
   ·rw[if_pos (by grind),if_neg (by grind)];rfl
  ·rw[if_pos (fun q=>hz ((m9 _).1 q)),if_neg (by grind)];rfl
 ·have su:Int.sign u.num= -1:=Nl k
  rw[su];have n2: ¬(v.q.y<=p.y/\ ¬w.q.y<=p.y/\0<c7 v.q w.q p):=fun q=>by grind
  rw[if_neg n2];simp only[show(-1:Int)<0 by decide,if_true,show¬((-1:Int)=0) by decide,false_or];by_cases hz:z<0
  ·rw[if_neg (by rw[Nl hz];simp)]
   by_cases a1:w.q.y<=p.y
   ·rw[if_neg (by grind)]
    by_cases a2:v.q.y<=p.y
    ·rw[if_pos a2,if_neg (by grind)];rfl
    ·rw[if_neg a2,if_pos ⟨a2,a1,so.2.2 hz⟩];rfl
   ·rw[if_pos (by grind),if_neg (by grind)];rfl
  ·rw[if_pos (fun q=>hz (by
    have h4:Int.sign z.num<0:=by rw[q];decide
    exact(oO _).1 h4)),if_neg (by grind)];rfl
def AD{α:Type}(f:α->Int): ∀(l:List α) (n:Int),l.foldl (fun n x=>n+f x) n=n+l.foldl (fun n x=>n+f x) 0
 |[],n=>by simp
 |a::t,n=>by
  rw[dS,dS,AD f t (n+f a),AD f t (0+f a)];omega
def D1(E F:List aO)(p:ab):im (E++F) p=im E p+im F p:=by
 unfold im;rw[List.foldl_append,AD]
def UI{r:List ZP}(hr:dC r)(p:ab):im (gi r) p=mO r p:=by
 have key: ∀k,k<=r.length->im (kl r k) p=Ar r p k:=by
  intro k
  induction k with
  |zero=>intro _;rfl
  |succ k ih=>
   intro hk;have hm:=DE (r:=r) (k:=k) (n:=r.length) (by omega);have ho:=((r8 hr).2 _ hm).ok;rw[kl,D1,ih (by omega),Am,Am,i9];have e:im [c8 (r.getD k (0,0)) (ek r k)] p=qj (c8 (r.getD k (0,0)) (ek r k)) p:=by unfold im;simp
   rw[e,VM (hr.ne k (by omega)) ho]
 exact key r.length (aL _)
def M9: ∀{rs:List (List ZP)},(∀r∈rs,dC r)-> ∀p,im (co rs) p=rs.foldl (fun n r=>n+mO r p) 0
 |[],_,p=>rfl
 |r::rs,h,p=>by
  have e:co (r::rs)=gi r++co rs:=J;rw[e,D1,UI (h r aQ),M9 fun q hq=>h q (aZ _ hq),dS,AD _ rs (0+mO r p)];omega
def U2(f:aO)(p:ab):Bool:=f.v.nh||decide (b9 (en f.l p) f.v.hi<0)
def Wg(f:aO)(p:ab):Bool:=f.v.nl||decide (0<b9 (en f.l p) f.v.lo)
def Q7(p:ab)(f:aO):List ab:=if Hi f p then(if U2 f p then [zy f.l.dir] else [])++(if Wg f p then [oc (zy f.l.dir)] else []) else []
def GM(E:List aO)(p:ab):List ab:=FZ (E.flatMap (Q7 p))
def M2(p d q:ab):Rat:=(⟨q.x-p.x,q.y-p.y⟩:ab).dot d/d.dot d
def RM(a b:Rat):Rat×Bool:=
 if 0<Int.sign b.num/\(¬0<Int.sign a.num\/b9 b a<0) then(b,true) else if 0<Int.sign a.num then(a,true) else(0,false)
def FH(f:aO)(p d:ab):Rat×Bool:=
 if f.l.nor.dot d=0 then(if f.l.value p=0 then RM (M2 p d (f.l.at f.v.lo)) (M2 p d (f.l.at f.v.hi)) else(0,false))
 else(-(f.l.value p/f.l.nor.dot d),decide (0<Int.sign (-(f.l.value p/f.l.nor.dot d)).num)&&NT f.v (en f.l (dG p d (-(f.l.value p/f.l.nor.dot d)))))
def PJ(p d:ab)(s:Rat)(f:aO):Rat:=if Hi f p then s else if(FH f p d).2 then(if(FH f p d).1<s then(FH f p d).1 else s) else s
def D9(E:List aO)(p d:ab):ab:=dG p d (E.foldl (PJ p d) 1*mkRat 1 2)
def aF0(E:List aO)(p:ab)(acc:ab->Bool):Int:=
 if((xt (GM E p)).any fun v=>acc (D9 E p v))&&(xt (GM E p)).all (fun v=>acc (D9 E p v)) then 2 else if(xt (GM E p)).any fun v=>acc (D9 E p v) then 1 else 0
def HW{r:List ZP}: ∀{n:Nat} {f:aO},f∈kl r n-> ∃k,k<n/\f=c8 (r.getD k (0,0)) (ek r k)
 |0,f,h=>by simp[kl] at h
 |n+1,f,h=>by
  rw[kl] at h;rcases cX.1 h with h|h
  ·obtain⟨k,h1,h2⟩:=HW h
   exact⟨k,by omega,h2⟩
  ·exact⟨n,by omega,aU.1 h⟩
def SN{rs:List (List ZP)}(hr: ∀r∈rs,dC r){f:aO}(hf:f∈co rs): ∃v w:ZP,v≠w/\(c8 v w).l.ok/\f=c8 v w/\(v.q,w.q)∈ER rs:=by
 obtain⟨r,h1,h2⟩:=gN.1 hf;have ho:=((r8 (hr r h1)).2 _ h2).ok;obtain⟨k,hk,rfl⟩:=HW h2;exact⟨_,_,(hr r h1).ne k hk,ho,J,gN.2 ⟨r,h1,bJ.2 ⟨k,qN.2 hk,J⟩⟩⟩
section
variable {rs:List (List ZP)} {fill:Int} {p:ab}
end
def cp(lo hi:Rat):ao:=⟨lo,hi,false,false⟩
def ou{lo hi x:Rat}:lO [cp lo hi] x=decide (lo<x/\x<hi):=by
 rw[oW,vw,decide_eq_true_eq];simp[cp,ao.ins]
def yb{t x:Rat}:lO [⟨t,0,false,true⟩] x=decide (t<x):=by
 rw[oW,vw,decide_eq_true_eq];simp[ao.ins]
def Av{t x:Rat}:lO [⟨0,t,true,false⟩] x=decide (x<t):=by
 rw[oW,vw,decide_eq_true_eq];simp[ao.ins]
def oz{a b:List ao}{cuts:List Rat}{marks:List Bool}{out:List ao}(h1:fP (a++b)=cuts)(h2:(fI cuts).map (fun t=>lO a t&&lO b t)=marks)(h3:kg cuts marks=out):gI 2 a b=out:=by
 unfold gI;rw[h1,<-h3,<-h2];rfl
def Tk{lo hi:Rat}(h:lo<hi):gI 2 [cp lo hi] [ao.all]=[cp lo hi]:=by
 refine oz (cuts:=[lo,hi]) (marks:=[false,true,false]) (by simp[fP,gv,cp,ao.all,eo,h]) ?_ (by simp[kg,gw,fH,cp]);have b: ∀x,lO [ao.all] x=true:=fun x=>vw.2 ⟨.inl J, .inl J⟩;simp only[fI,gG,bW,dR,cV,cK,ou,b,Bool.and_true];simp only[gT,gR,List.cons.injEq,decide_eq_false_iff_not,decide_eq_true_eq,and_true];exact⟨by grind,by grind,by grind⟩
def ZN(v:ao):gI 2 [v] []=[]:=by
 unfold gI kg;have key: ∀(cuts:List Rat) (m:List Bool),(∀x∈m,x=false)-> ∀k,gw cuts m k=[]:=fun cuts m hm k=>by
  induction k with
  |zero=>rfl
  |succ k ih=>
   rw[gw,ih];have:m.getD k false=false:=by
    rw[aK]
    cases e:m[k]? with
    |none=>rfl
    |some x=>exact hm x (bZ e)
   rw[this];rfl
 refine key _ _ (fun x hx=>?_) _;obtain⟨t,_,rfl⟩:=bJ.1 hx;have:lO [] t=false:=by unfold lO Aa;decide
 rw[this];simp[GX]
def Vq{lo hi t:Rat}(h:lo<hi)(k:t<lo):gI 2 [cp lo hi] [⟨t,0,false,true⟩]=[cp lo hi]:=by
 refine oz (cuts:=[t,lo,hi]) (marks:=[false,false,true,false]) ?_ ?_ (by simp[kg,gw,fH,og,cp])
 ·simp only[fP,gv,cp,cV,cK,dS,lQ,if_true,cM,if_false,eo]
  grind [eo]
 ·simp only[fI,gG,bW,dR,cV,cK,ou,yb]
  simp only[gT,gR,List.cons.injEq,iJ,aN,decide_eq_false_iff_not,decide_eq_true_eq,and_true];exact⟨by grind,by grind,by grind,by grind⟩
def Z5{lo hi t:Rat}(h:lo<hi)(k:t=lo):gI 2 [cp lo hi] [⟨t,0,false,true⟩]=[cp lo hi]:=by
 refine oz (cuts:=[lo,hi]) (marks:=[false,true,false]) ?_ ?_ (by simp[kg,gw,fH,og,cp])
 ·simp only[fP,gv,cp,cV,cK,dS,lQ,if_true,cM,if_false,eo]
  grind [eo]
 ·simp only[fI,gG,bW,dR,cV,cK,ou,yb]
  simp only[gT,gR,List.cons.injEq,iJ,aN,decide_eq_false_iff_not,decide_eq_true_eq,and_true];exact⟨by grind,by grind,by grind⟩
def UW{lo hi t:Rat}(h:lo<hi)(k:lo<t)(k2:t<hi):gI 2 [cp lo hi] [⟨t,0,false,true⟩]=[cp t hi]:=by
 refine oz (cuts:=[lo,t,hi]) (marks:=[false,false,true,false]) ?_ ?_ (by simp[kg,gw,fH,og,cp])
 ·simp only[fP,gv,cp,cV,cK,dS,lQ,if_true,cM,if_false,eo]
  grind [eo]
 ·simp only[fI,gG,bW,dR,cV,cK,ou,yb]
  simp only[gT,gR,List.cons.injEq,iJ,aN,decide_eq_false_iff_not,decide_eq_true_eq,and_true];exact⟨by grind,by grind,by grind,by grind⟩
def R6{lo hi t:Rat}(h:lo<hi)(k:t=hi):gI 2 [cp lo hi] [⟨t,0,false,true⟩]=[]:=by
 refine oz (cuts:=[lo,hi]) (marks:=[false,false,false]) ?_ ?_ (by simp[kg,gw,fH,og,cp])
 ·simp only[fP,gv,cp,cV,cK,dS,lQ,if_true,cM,if_false,eo]
  grind [eo]
 ·simp only[fI,gG,bW,dR,cV,cK,ou,yb]
  simp only[gT,gR,List.cons.injEq,iJ,aN,decide_eq_false_iff_not,decide_eq_true_eq,and_true];exact⟨by grind,by grind,by grind⟩
def T3{lo hi t:Rat}(h:lo<hi)(k:hi<t):gI 2 [cp lo hi] [⟨t,0,false,true⟩]=[]:=by
 refine oz (cuts:=[lo,hi,t]) (marks:=[false,false,false,false]) ?_ ?_ (by simp[kg,gw,fH,og,cp])
 ·simp only[fP,gv,cp,cV,cK,dS,lQ,if_true,cM,if_false,eo]
  grind [eo]
 ·simp only[fI,gG,bW,dR,cV,cK,ou,yb]
  simp only[gT,gR,List.cons.injEq,iJ,aN,decide_eq_false_iff_not,decide_eq_true_eq,and_true];exact⟨by grind,by grind,by grind,by grind⟩
def Q3{lo hi t:Rat}(h:lo<hi)(k:t<lo):gI 2 [cp lo hi] [⟨0,t,true,false⟩]=[]:=by
 refine oz (cuts:=[t,lo,hi]) (marks:=[false,false,false,false]) ?_ ?_ (by simp[kg,gw,fH,og,cp])
 ·simp only[fP,gv,cp,cV,cK,dS,lQ,if_true,cM,if_false,eo]
  grind [eo]
 ·simp only[fI,gG,bW,dR,cV,cK,ou,Av]
  simp only[gT,gR,List.cons.injEq,iJ,aN,decide_eq_false_iff_not,decide_eq_true_eq,and_true];exact⟨by grind,by grind,by grind,by grind⟩
def S3{lo hi t:Rat}(h:lo<hi)(k:t=lo):gI 2 [cp lo hi] [⟨0,t,true,false⟩]=[]:=by
 refine oz (cuts:=[lo,hi]) (marks:=[false,false,false]) ?_ ?_ (by simp[kg,gw,fH,og,cp])
 ·simp only[fP,gv,cp,cV,cK,dS,lQ,if_true,cM,if_false,eo]
  grind [eo]
 ·simp only[fI,gG,bW,dR,cV,cK,ou,Av]
  simp only[gT,gR,List.cons.injEq,iJ,aN,decide_eq_false_iff_not,decide_eq_true_eq,and_true];exact⟨by grind,by grind,by grind⟩
def RZ{lo hi t:Rat}(h:lo<hi)(k:lo<t)(k2:t<hi):gI 2 [cp lo hi] [⟨0,t,true,false⟩]=[cp lo t]:=by
 refine oz (cuts:=[lo,t,hi]) (marks:=[false,true,false,false]) ?_ ?_ (by simp[kg,gw,fH,og,cp])
 ·simp only[fP,gv,cp,cV,cK,dS,lQ,if_true,cM,if_false,eo]
  grind [eo]
 ·simp only[fI,gG,bW,dR,cV,cK,ou,Av]
  simp only[gT,gR,List.cons.injEq,iJ,aN,decide_eq_false_iff_not,decide_eq_true_eq,and_true];exact⟨by grind,by grind,by grind,by grind⟩
def SO{lo hi t:Rat}(h:lo<hi)(k:t=hi):gI 2 [cp lo hi] [⟨0,t,true,false⟩]=[cp lo hi]:=by
 refine oz (cuts:=[lo,hi]) (marks:=[false,true,false]) ?_ ?_ (by simp[kg,gw,fH,og,cp])
 ·simp only[fP,gv,cp,cV,cK,dS,lQ,if_true,cM,if_false,eo]
  grind [eo]
 ·simp only[fI,gG,bW,dR,cV,cK,ou,Av]
  simp only[gT,gR,List.cons.injEq,iJ,aN,decide_eq_false_iff_not,decide_eq_true_eq,and_true];exact⟨by grind,by grind,by grind⟩
def PG{lo hi t:Rat}(h:lo<hi)(k:hi<t):gI 2 [cp lo hi] [⟨0,t,true,false⟩]=[cp lo hi]:=by
 refine oz (cuts:=[lo,hi,t]) (marks:=[false,true,false,false]) ?_ ?_ (by simp[kg,gw,fH,og,cp])
 ·simp only[fP,gv,cp,cV,cK,dS,lQ,if_true,cM,if_false,eo]
  grind [eo]
 ·simp only[fI,gG,bW,dR,cV,cK,ou,Av]
  simp only[gT,gR,List.cons.injEq,iJ,aN,decide_eq_false_iff_not,decide_eq_true_eq,and_true];exact⟨by grind,by grind,by grind,by grind⟩
def BD(a b:Rat):a<b\/a=b\/b<a:=by grind
def splitP(f:aO)(m:aa):List aO:=if f.l.cutB f.v m then [⟨f.l,f.l.cutV f.v m⟩] else []
structure fq (f:aO):Prop where
 ok:f.l.ok
 nl:f.v.nl=false
 nh:f.v.nh=false
 lt:f.v.lo<f.v.hi
def fq.seg{f:aO}(h:fq f):f.v=cp f.v.lo f.v.hi:=by
 have h1:=h.nl;have h2:=h.nh;unfold cp
 cases hv:f.v with
 |mk a b c d=>rw[hv] at h1 h2;simp_all
def fq.pos{f:aO}(h:fq f):f.v.Pos:= .inr (.inr h.lt)
def Ng{lo hi:Rat}:(cp lo hi).Pos↔lo<hi:=by unfold ao.Pos cp;simp
def Pn{lo hi t:Rat}:(cp lo hi).meet ⟨t,0,false,true⟩=cp (if lo<t then t else lo) hi:=by simp[ao.meet,cp];rfl
def Na{lo hi t:Rat}:(cp lo hi).meet ⟨0,t,true,false⟩=cp lo (if t<hi then t else hi):=by simp[ao.meet,cp];rfl
def YQ{lo hi t:Rat}(h:lo<hi):gI 2 [cp lo hi] [⟨t,0,false,true⟩]=if(if lo<t then t else lo)<hi then [cp (if lo<t then t else lo) hi] else []:=by
 rcases BD t lo with k|k|k
 ·rw[Vq h k,if_neg (show¬lo<t by grind),if_pos h]
 ·rw[Z5 h k,if_neg (show¬lo<t by grind),if_pos h]
 ·rw[if_pos k]
  rcases BD t hi with k2|k2|k2
  ·rw[UW h k k2,if_pos k2]
  ·rw[R6 h k2,if_neg (by grind)]
  ·rw[T3 h k2,if_neg (by grind)]
def ZJ{lo hi t:Rat}(h:lo<hi):gI 2 [cp lo hi] [⟨0,t,true,false⟩]=if lo<(if t<hi then t else hi) then [cp lo (if t<hi then t else hi)] else []:=by
 rcases BD t hi with k|k|k
 ·rw[if_pos k]
  rcases BD t lo with k2|k2|k2
  ·rw[Q3 h k2,if_neg (by grind)]
  ·rw[S3 h k2,if_neg (by grind)]
  ·rw[RZ h k2 k,if_pos k2]
 ·rw[SO h k,if_neg (show¬t<hi by grind),if_pos h]
 ·rw[PG h k,if_neg (show¬t<hi by grind),if_pos h]
def P3(l m:aa):l.cutK m.rev= -l.cutK m:=by unfold aa.cutK aa.rev aa.nor aa.dir ab.dot;dsimp only;push_cast;grind
def S1(l m:aa):l.cutC m.rev= -l.cutC m:=ik m l.base
def YP(a b:Rat): -a/ -b=a/b:=by grind
def Pb{f:aO}(h:fq f){m:aa}{side:Int}(hs:side=1\/side= -1):i4 f m side=splitP f (if side=1 then m else m.rev):=by
 obtain⟨M,hM⟩: ∃M,M=(if side=1 then m else m.rev):=⟨_,rfl⟩;have hK:f.l.cutK M=(side:Rat)*f.l.cutK m:=by
  rcases hs with rfl|rfl
  ·rw[hM,if_pos J];grind
  ·rw[hM,if_neg (by decide),P3];grind
 have hC:f.l.cutC M=(side:Rat)*f.l.cutC m:=by
  rcases hs with rfl|rfl
  ·rw[hM,if_pos J];grind
  ·rw[hM,if_neg (by decide),S1];grind
 have hq:f.l.cutC M/f.l.cutK M=f.l.cutC m/f.l.cutK m:=by
  rw[hK,hC];rcases hs with rfl|rfl
  ·grind
  ·rw[show((-1:Int):Rat)*f.l.cutC m= -f.l.cutC m by grind,show((-1:Int):Rat)*f.l.cutK m= -f.l.cutK m by grind,YP]
 rw[<-hM];have hseg:=h.seg;have hlt:=h.lt;unfold i4 splitP tv tj;by_cases hc:crossI f.l m=0
 ·have k0:f.l.cutK m=0:=Fq hc
  have kM:f.l.cutK M=0:=by rw[hK,k0];grind
  obtain⟨e1,e2⟩:=wy (l:=f.l) (m:=M) f.v kM;by_cases c0:f.l.cutC m=0
  ·rw[if_pos (decide_eq_true ⟨hc,(nG _).2 c0⟩),if_neg (fun e=>by have:=e2.1 e;rw[hC,c0] at this;grind)]
  ·rw[if_neg (by rw[decide_eq_true_eq];exact fun e=>c0 ((nG _).1 e.2)),if_pos hc]
   by_cases g:(m.value f.l.base).num.sign=side
   ·have:0<f.l.cutC M:=by
     rw[hC];rcases hs with rfl|rfl
     ·have:=(m9 _).1 g;show 0<((1:Int):Rat)*m.value f.l.base;grind
     ·have:=(oO (m.value f.l.base)).1 (by omega);show 0<((-1:Int):Rat)*m.value f.l.base;grind
    rw[if_pos g,if_pos (e2.2 this),e1,hseg,Tk hlt];rfl
   ·have: ¬0<f.l.cutC M:=fun e=>g (Mn hs (by rw[hC] at e;exact e))
    rw[if_neg g,if_neg (fun e=>this (e2.1 e)),ZN];rfl
 ·rw[if_neg (by rw[decide_eq_true_eq];exact fun e=>hc e.1),if_neg hc]
  have hp:=vg h.ok.ne hc;have hne:f.l.cutK m≠0:=fun e=>by
   rw[ze] at e;have:(crossI f.l m:Rat)=0:=by grind
   exact hc (fZ.1 this)
  have hv1:m.value (f.l.at (en f.l (gO f.l m)+1))=f.l.cutK m:=by rw[mf,hp];grind
  rw[hv1,hp];by_cases g:(f.l.cutK m).num.sign=side
  ·have kM:0<f.l.cutK M:=by
    rw[hK];rcases hs with rfl|rfl
    ·have:=(m9 _).1 g;grind
    ·have:=(oO (f.l.cutK m)).1 (by omega);grind
   obtain⟨e1,e2⟩:=vf (l:=f.l) (m:=M) f.v kM;rw[if_pos g,e1] at*;rw[hq,hseg,Pn,Ng] at e2;rw[hq,hseg,Pn,YQ hlt];by_cases q:(if f.v.lo< -(f.l.cutC m/f.l.cutK m) then-(f.l.cutC m/f.l.cutK m) else f.v.lo)<f.v.hi
   ·rw[if_pos q,if_pos (e2.2 q)];rfl
   ·rw[if_neg q,if_neg (fun e=>q (e2.1 e))];rfl
  ·have kM:f.l.cutK M<0:=by
    rw[hK];rcases n8 (f.l.cutK m) with k|k|k
    ·exact absurd k hne
    ·rcases hs with rfl|rfl
     ·exact absurd ((m9 _).2 k) g
     ·grind
    ·rcases hs with rfl|rfl
     ·grind
     ·exact absurd (by have:=(oO (f.l.cutK m)).2 k;have:=pS (f.l.cutK m).num;omega) g
   obtain⟨e1,e2⟩:=wg (l:=f.l) (m:=M) f.v kM;rw[if_neg g,e1] at*;rw[hq,hseg,Na,Ng] at e2;rw[hq,hseg,Na,ZJ hlt];by_cases q:f.v.lo<(if-(f.l.cutC m/f.l.cutK m)<f.v.hi then-(f.l.cutC m/f.l.cutK m) else f.v.hi)
   ·rw[if_pos q,if_pos (e2.2 q)];rfl
   ·rw[if_neg q,if_neg (fun e=>q (e2.1 e))];rfl
def f7(acc:ab->Bool):Nat->List aO->aF->Tr
 |_,[],c=> .leaf (acc (oB c))
 |0,_::_,_=> .leaf false
 |n+1,f::t,c=> .node f.l (f7 acc n ((f::t).flatMap fun g=>splitP g f.l) (bF c f.l)) (f7 acc n ((f::t).flatMap fun g=>splitP g f.l.rev) (bF c f.l.rev))
def Tr.like:Tr->Tr->Prop
 | .leaf _, .leaf _=>True
 | .node l x y, .node m u v=>l=m/\x.like u/\y.like v
 |_,_=>False
def fq.cut{f:aO}(h:fq f){m:aa}(hb:f.l.cutB f.v m=true):fq ⟨f.l,f.l.cutV f.v m⟩:=by
 have hp:=uT h.pos hb;have e:(f.l.cutV f.v m).nl=false/\(f.l.cutV f.v m).nh=false:=by
  have h1:=h.nl;have h2:=h.nh;unfold aa.cutV;split
  ·exact⟨h1,h2⟩
  ·split<;>simp[ao.meet,h1,h2]
 refine⟨h.ok,e.1,e.2,?_⟩;rcases hp with h|h|h
 ·rw[e.1] at h;cases h
 ·rw[e.2] at h;cases h
 ·exact h
def fq.split{f g:aO}(h:fq f){m:aa}(hg:g∈splitP f m):fq g:=by
 unfold splitP at hg;split at hg
 ·rename_i hb
  rw[aU] at hg;subst hg;exact h.cut hb
 ·cases hg
def Hp{l:List aO}(h: ∀f∈l,fq f)(m:aa):l.flatMap (fun g=>i4 g m 1)=l.flatMap (fun g=>splitP g m)/\l.flatMap (fun g=>i4 g m (-1))=l.flatMap (fun g=>splitP g m.rev):=by
 induction l with
 |nil=>exact⟨J,J⟩
 |cons f t ih=>
  obtain⟨i1,i2⟩:=ih fun g hg=>h g (aZ _ hg);have hf:=h f aQ;refine⟨?_,?_⟩
  ·rw[nK,nK,i1,Pb hf (.inl J),if_pos J]
  ·rw[nK,nK,i2,Pb hf (.inr J),if_neg (by decide)]
def fq.splits{l:List aO}(h: ∀f∈l,fq f)(m:aa): ∀g∈l.flatMap (fun g=>splitP g m),fq g:=fun g hg=>by
 obtain⟨f,hf,hg⟩:=gN.1 hg;exact(h f hf).split hg
def HK{a b:ab->Bool}: ∀{n:Nat} {l:List aO} {c:aF} {d:List aa},(∀f∈l,fq f)->(f7 a n l c).like (jq b n l d)
 |n,[],c,d,_=>by cases n<;>exact trivial
 |0,f::t,c,d,_=>trivial
 |n+1,f::t,c,d,h=>by
  rw[f7,jq];obtain⟨e1,e2⟩:=Hp h f.l;refine⟨J,?_,?_⟩
  ·rw[e1];exact HK (fq.splits h f.l)
  ·rw[e2];exact HK (fq.splits h f.l.rev)
def Tr.like_lns: ∀{t u:Tr},t.like u->t.lns=u.lns
 | .leaf _, .leaf _,_=>rfl
 | .node l x y, .node m u v,⟨h,h1,h2⟩=>by rw[Tr.lns,Tr.lns,h,Tr.like_lns h1,Tr.like_lns h2]
def yk{M:List aa}(hM: ∀l∈M,l.ok): ∀{t u:Tr} {c:aF},t.like u->(∀l∈t.lns,l∈M)->dw c->(∀p,bO c p->gD M p->t.val p=u.val p)->t.restrict c=u.restrict c
 | .leaf a, .leaf b,c,_,_,hc,hv=>by
  obtain⟨p,hp,ho⟩:=RI hc M hM;have:=hv p hp ho;rw[Tr.val,Tr.val] at this;rw[this]
 | .node l x y, .node m u v,c,⟨e,h1,h2⟩,hl,hc,hv=>by
  subst e;have hlM:=hl l aQ;have hx: ∀m∈x.lns,m∈M:=fun m hm=>hl m (aZ _ (cZ _ hm));have hy: ∀m∈y.lns,m∈M:=fun m hm=>hl m (aZ _ (cW _ hm));have hok:=hM l hlM
  cases hb:cE c l.rev with
  |false=>
   rw[Tr.restrict_A _ _ hb,Tr.restrict_A _ _ hb];refine yk hM h1 hx hc fun p hp ho=>?_;have q:=Lh hc hok hb hp (ho l hlM);have:=hv p hp ho;rwa [Tr.val_pos q,Tr.val_pos q] at this
  |true=>
   cases hb2:cE c l with
   |false=>
    rw[Tr.restrict_B _ _ hb hb2,Tr.restrict_B _ _ hb hb2];refine yk hM h2 hy hc fun p hp ho=>?_;have q:=JI hc hok hb2 hp;have:=hv p hp ho;rwa [Tr.val_neg q,Tr.val_neg q] at this
   |true=>
    obtain⟨g1,i1⟩:=js hc hok hb2;obtain⟨g2,i2⟩:=js hc hok.rev hb;rw[Tr.restrict_C _ _ hb hb2,Tr.restrict_C _ _ hb hb2];congr 1
    ·refine yk hM h1 hx g1 fun p hp ho=>?_
     obtain⟨a1,a2⟩:=(i1 p).1 hp;have:=hv p a1 ho;rwa [Tr.val_pos a2,Tr.val_pos a2] at this
    ·refine yk hM h2 hy g2 fun p hp ho=>?_
     obtain⟨a1,a2⟩:=(i2 p).1 hp;rw[ik] at a2;have:=hv p a1 ho;rwa [Tr.val_neg (by grind),Tr.val_neg (by grind)] at this
def Tr.Prp:Tr->aF->Prop
 | .leaf _,_=>True
 | .node l x y,c=>cE c l=true/\cE c l.rev=true/\x.Prp (bF c l)/\y.Prp (bF c l.rev)
def Tr.red_prp: ∀{t:Tr} {c:aF},t.Red c->t.Prp c
 | .leaf _,_,_=>trivial
 | .node _ _ _,_,⟨h1,h2,h3,h4,_⟩=>⟨h1,h2,Tr.red_prp h3,Tr.red_prp h4⟩
def Mr{c:aF}(hc:dw c){l:aa}(hl:l.ok){p:ab}(hp:bO c p)(h0:l.value p=0):cE c l=true/\cE c l.rev=true:=by
 have hn:=oF hl.ne;obtain⟨e,he,hm⟩:=hp.open l.nor;obtain⟨f,hf,hk⟩:=hp.open (oc l.nor);have hn2:l.nor.dot (oc l.nor)= -(l.nor.dot l.nor):=by unfold oc ab.dot;dsimp only;grind
 refine⟨(ri hc hl).2 ⟨_,hm e (by grind) (by grind),?_⟩,(ri hc hl.rev).2 ⟨_,hk f (by grind) (by grind),?_⟩⟩
 ·rw[jG,h0];have:=ji he hn;grind
 ·rw[ik,jG,h0,hn2];have:=ji hf hn;grind
def ui(l:List aO)(c:aF):Prop:= ∀f∈l,∀t,f.v.ins t->bO c (f.l.at t)
def ui.split{l:List aO}{c:aF}(h:ui l c){m:aa}(i1: ∀p,bO (bF c m) p↔bO c p/\0<m.value p):ui (l.flatMap fun g=>splitP g m) (bF c m):=fun g hg t ht=>by
 obtain⟨f,hf,hg⟩:=gN.1 hg;unfold splitP at hg;split at hg
 ·rename_i hb
  rw[aU] at hg;subst hg;obtain⟨k1,k2⟩:=(Cl hb t).1 ht;exact(i1 _).2 ⟨h f hf t k1,k2⟩
 ·cases hg
def ui.cross{f:aO}{t:List aO}{c:aF}(h:ui (f::t) c)(hf:fq f)(hc:dw c):cE c f.l=true/\cE c f.l.rev=true:=by
 have hs:f.v.ins (Ck f.v):=I7 hf.pos;exact Mr hc hf.ok (h f aQ _ hs) (qq hf.ok.ne _)
def Hf{acc:ab->Bool}: ∀{n:Nat} {l:List aO} {c:aF},(∀f∈l,fq f)->dw c->ui l c->(f7 acc n l c).Prp c
 |n,[],c,_,_,_=>by cases n<;>exact trivial
 |0,f::t,c,_,_,_=>trivial
 |n+1,f::t,c,h,hc,hl=>by
  rw[f7];have hf:=h f aQ;obtain⟨b1,b2⟩:=hl.cross hf hc;obtain⟨g1,i1⟩:=js hc hf.ok b1;obtain⟨g2,i2⟩:=js hc hf.ok.rev b2;exact⟨b1,b2,Hf (fq.splits h _) g1 (hl.split i1),Hf (fq.splits h _) g2 (hl.split i2)⟩
def AH(E:List aO)(c:aF)(l:List aO):Prop:= ∀e∈E,∀t,e.v.ins t->bO c (e.l.at t)-> ∃f∈l,f.l=e.l/\f.v.ins t
def AH.split{E l:List aO}{c:aF}(h:AH E c l)(hs: ∀f∈l,fq f){m:aa}(i1: ∀p,bO (bF c m) p↔bO c p/\0<m.value p):AH E (bF c m) (l.flatMap fun g=>splitP g m):=fun e he t ht hin=>by
 obtain⟨h1,h2⟩:=(i1 _).1 hin;obtain⟨f,hf,ef,hft⟩:=h e he t ht h1;have hb:f.l.cutB f.v m=true:=by
  cases q:f.l.cutB f.v m with
  |true=>rfl
  |false=>
   have:=AE (hs f hf).pos q hft.has;rw[ef] at this;exact absurd this (by grind)
 refine⟨⟨f.l,f.l.cutV f.v m⟩,gN.2 ⟨f,hf,by unfold splitP;rw[if_pos hb];exact aU.2 J⟩,ef,?_⟩;exact(Cl hb t).2 ⟨hft,by rw[ef];exact h2⟩
structure FS (f:aO):Prop where
 fo:m8 f
 sg:fq f
def FS.splits{l:List aO}(h: ∀f∈l,FS f){m:aa}(hm:LB m):(∀g∈l.flatMap (fun g=>splitP g m),FS g)/\ ∀g∈l.flatMap (fun g=>splitP g m.rev),FS g:=by
 obtain⟨e1,e2⟩:=Hp (fun f hf=>(h f hf).sg) m;refine⟨fun g hg=>⟨?_,fq.splits (fun f hf=>(h f hf).sg) m g hg⟩,fun g hg=>⟨?_,fq.splits (fun f hf=>(h f hf).sg) m.rev g hg⟩⟩
 ·rw[<-e1] at hg
  obtain⟨q,hq,hg⟩:=gN.1 hg;exact(Bg (h q hq).fo hm g hg).1
 ·rw[<-e2] at hg
  obtain⟨q,hq,hg⟩:=gN.1 hg;exact(Bg (h q hq).fo hm g hg).1
def l9.splitP{n:Nat}{f:aO}{t:List aO}(h:l9 (n+1) (f::t))(hok: ∀g∈f::t,FS g):l9 n ((f::t).flatMap fun g=>splitP g f.l)/\l9 n ((f::t).flatMap fun g=>splitP g f.l.rev):=by
 obtain⟨e1,e2⟩:=Hp (fun f hf=>(hok f hf).sg) f.l;rw[<-e1,<-e2];exact⟨h.split (fun g hg=>(hok g hg).fo),h.split (fun g hg=>(hok g hg).fo)⟩
def l9.no{f:aO}{t:List aO}(h:l9 0 (f::t)):False:=by
 obtain⟨K,hK,hs⟩:=h;obtain⟨m,hm,_⟩:=hs f aQ;rw[bU (show K.length=0 by omega)] at hm;cases hm
def F'{acc:ab->Bool}{E:List aO}(ha: ∀(c:aF) (q p:ab),(∀e∈E,∀t,e.v.ins t-> ¬bO c (e.l.at t))->bO c q->bO c p->acc q=acc p): ∀{n:Nat} {l:List aO} {c:aF} {p:ab},(∀f∈l,FS f)->l9 n l->dw c->ui l c->AH E c l->bO c p->gD (f7 acc n l c).lns p->(f7 acc n l c).val p=acc p
 |n,[],c,p,_,_,hc,_,hcov,hp,_=>by
  have e:f7 acc n [] c= .leaf (acc (oB c)):=by cases n<;>rfl
  rw[e,Tr.val];exact ha c _ _ (fun e he t ht hin=>by obtain⟨f,hf,_⟩:=hcov e he t ht hin;cases hf) (WR hc) hp
 |0,f::t,_,_,_,hf,_,_,_,_,_=>hf.no.elim
 |n+1,f::t,c,p,hok,hf,hc,hl,hcov,hp,hoff=>by
  have fo:=hok f aQ;have hsg:=fun g hg=>(hok g hg).sg;obtain⟨k1,k2⟩:=FS.splits hok fo.fo.lb;obtain⟨w1,w2⟩:=hf.splitP hok;obtain⟨b1,b2⟩:=hl.cross fo.sg hc;obtain⟨g1,i1⟩:=js hc fo.sg.ok b1;obtain⟨g2,i2⟩:=js hc fo.sg.ok.rev b2;rw[f7] at hoff⊢;by_cases q:0<f.l.value p
  ·rw[Tr.val_pos q]
   exact F' ha k1 w1 g1 (hl.split i1) (hcov.split hsg i1) ((i1 p).2 ⟨hp,q⟩) hoff.x
  ·rw[Tr.val_neg q]
   have:=hoff.l;exact F' ha k2 w2 g2 (hl.split i2) (hcov.split hsg i2) ((i2 p).2 ⟨hp,by rw[ik];grind⟩) hoff.y
def SU{v w:ZP}(h:v≠w)(ho:(c8 v w).l.ok):fq (c8 v w):=⟨ho,J,J,(Ey h ho).2.2⟩
def zp{rs:List (List ZP)}(hr: ∀r∈rs,dC r): ∀f∈co rs,FS f:=fun f hf=>by
 have h2:=(n9 hr).2 f hf;obtain⟨v,w,hn,ho,rfl,_⟩:=SN hr hf;exact⟨h2,SU hn ho⟩
def Dx(rs:List (List ZP)):l9 (co rs).length (co rs):=⟨(co rs).map (·.l),by rw[aJ];exact aL _,fun f hf=>⟨f.l,fM hf, .inl J⟩⟩
def Ha{c:aF}{p:ab}:bO c p↔et (c.map fun s=>s.l) p:=by
 unfold bO et;constructor
 ·intro h m hm
  obtain⟨s,hs,rfl⟩:=bJ.1 hm;exact h s hs
 ·intro h s hs
  exact h s.l (fM hs)
def jl(rs:List (List ZP))(fill:Int):Tr:=f7 (jw rs fill) (co rs).length (co rs) []
def Va{rs:List (List ZP)}{fill:Int}(hr: ∀r∈rs,dC r){p:ab}(ho:gD (jl rs fill).lns p):(jl rs fill).val p=jw rs fill p:=
 F' (E:=co rs) (fun c q p hno hq hp=>MR hr (c:=c.map fun s=>s.l) (fun e he t ht hin=>hno e he t ht (Ha.2 hin)) (Ha.1 hq) (Ha.1 hp)) (zp hr) (Dx rs) dw.nil (fun f hf t ht s hs=>by cases hs) (fun e he t ht _=>⟨e,he,J,ht⟩) (fun s hs=>by cases hs) ho
def X4{rs:List (List ZP)}{fill:Int}(hr: ∀r∈rs,dC r){p:ab}(ho:gD (oG rs fill).lns p):(oG rs fill).val p=jw rs fill p:=by
 rw[<-Sb hr ho];unfold ie;rw[Tr.val_restrict (oG rs fill) [] p (pp fun f hf=>((n9 hr).2 f hf).ok) dw.nil (fun s hs=>by cases hs) ho]
def Im{rs:List (List ZP)}{fill:Int}(hr: ∀r∈rs,dC r):(jl rs fill).like (oG rs fill)/\(jl rs fill).Prp []/\(jl rs fill).all aa.ok:=by
 have hl:(jl rs fill).like (oG rs fill):=HK fun f hf=>(zp hr f hf).sg;refine⟨hl,Hf (fun f hf=>(zp hr f hf).sg) dw.nil (fun f hf t ht s hs=>by cases hs),?_⟩;have hk:(oG rs fill).all aa.ok:=pp fun f hf=>((n9 hr).2 f hf).ok;rw[uF,Tr.like_lns hl,<-uF];exact hk
def Su{rs:List (List ZP)}{fill:Int}(hr: ∀r∈rs,dC r):(jl rs fill).restrict []=ie rs fill:=by
 obtain⟨h1,h2,h3⟩:=Im (fill:=fill) hr;unfold ie;refine yk (M:=(jl rs fill).lns) (uF.1 h3) h1 (fun l hl=>hl) dw.nil fun p hp ho=>?_;rw[Va hr ho,X4 hr (by rw[<-Tr.like_lns h1];exact ho)]
end Go.Sx
end
