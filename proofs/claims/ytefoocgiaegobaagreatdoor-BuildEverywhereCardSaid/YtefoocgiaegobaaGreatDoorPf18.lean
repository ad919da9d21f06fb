import Derived.Test.YtefoocgiaegobaaGreatDoorPf17
set_option linter.all false
set_option maxHeartbeats 2000000
set_option maxRecDepth 100000
section
namespace Go.Sx
open Go Go.Proofs Tryz
def IW{l:ab}: ∀{c:List ab} {v:av},(qd l c v).2=true->je l c v=some (qd l c v).1
 |[],v,_=>rfl
 |m::t,v,h=>by
  rw[qd] at h⊢;rw[je];split
  ·rename_i e;rw[if_pos e] at h;exact IW h
  ·rename_i e
   rw[if_neg e] at h;split
   ·rename_i k;rw[if_pos k] at h;exact IW h
   ·rename_i k;rw[if_neg k] at h;cases h
def Rh{v:av}(h:v.Pos):v.ins (CI v):=by
 obtain⟨lo,hi,nl,nh⟩:=v;unfold av.Pos at h;unfold CI av.ins
 cases nl<;>cases nh<;>simp at* <;>grind
def Ko{p v:aa}: ∀{c:List ab} {s:Rat},0<s->0<vH p v c s/\vH p v c s<=s/\ ∀m∈c,0<m.value p->m.nor.dot v<0->vH p v c s<= -(m.value p/m.nor.dot v)/2
 |[],s,h=>⟨h,iZ,fun m hm=>by cases hm⟩
 |m::t,s,h=>by
  have hk:m.value (dC p v ((1:Int):Rat))-m.value p=m.nor.dot v:=by rw[jG];grind
  have key:0<yT p v m s/\yT p v m s<=s/\(0<m.value p->m.nor.dot v<0->yT p v m s<= -(m.value p/m.nor.dot v)/2):=by
   unfold yT CF;simp only[hk,kg,nk,zj];split
   ·rename_i e;exact⟨h,iZ,fun _ k=>by rw[e] at k;exact absurd k (by decide)⟩
   ·split
    ·rename_i e;exact⟨h,iZ,fun k=>by rw[e] at k;exact absurd k (by decide)⟩
    ·split
     ·rename_i e
      split
      ·exact⟨by grind,by grind,fun _ _=>iZ⟩
      ·exact⟨h,iZ,fun _ _=>by grind⟩
     ·rename_i e
      exact⟨h,iZ,fun k1 k2=>absurd (IY k2 k1) e⟩
  obtain⟨a1,a2,a3⟩:=key;obtain⟨b1,b2,b3⟩:=Ko (p:=p) (v:=v) (c:=t) a1;rw[vH];refine⟨b1,by grind,fun u hu k1 k2=>?_⟩;rcases aV.1 hu with rfl|hu
  ·have:=a3 k1 k2;grind
  ·exact b3 u hu k1 k2
def ZT{c:List ab}{p v:aa}(h: ∀m∈c,0<m.value p\/(m.value p=0/\0<m.nor.dot v)):fp c (zt c p v):=fun m hm=>by
 obtain⟨s0,_,s2⟩:=Ko (p:=p) (v:=v) (c:=c) (s:=((1:Int):Rat)) (by decide);unfold zt;generalize vH p v c ((1:Int):Rat)=s at*;rw[jG];rcases h m hm with k|⟨k,k2⟩
 ·by_cases q:m.nor.dot v<0
  ·have h3:=s2 m hm k q
   have h4:=IY q k;have e:m.value p/m.nor.dot v*m.nor.dot v=m.value p:=by grind
   generalize m.value p/m.nor.dot v=z at*;have h5:=fy (a:= -z/2-s) (b:= -m.nor.dot v) (by grind) (by grind);grind
  ·have:=fy (fY s0) (show 0<=m.nor.dot v by grind)
   grind
 ·have:=ce s0 k2
  grind
def awx{m:ab}(h:m.Ne):0<m.nor.dot (ly m.dir):=by
 have:=pP h;have e:m.nor.dot (ly m.dir)=m.nor.dot m.nor:=by unfold ly ab.dir ab.nor aa.dot;grind
 rw[e];exact this
def Za{c:List ab}(hok: ∀m∈c,m.ok)(hb:vN c=true):fp c (wT c c):=by
 have key: ∀t:List ab,(∀m∈t,m∈c)->(∃m∈t,(je m c av.all).isSome=true)->fp c (wT c t):=by
  intro t
  induction t with
  |nil=>rintro _ ⟨m,hm,_⟩;cases hm
  |cons m t ih=>
   intro hs hx;rw[wT];split
   ·rename_i e
    obtain⟨h1,h2⟩:=DO m c _ _ wU (IW e);have h3:=((h2 _).1 (Rh h1)).2;have hmo:=(hok m (hs m aQ)).ne;refine ZT fun u hu=>?_;by_cases q:u=m
    ·subst q;exact .inr ⟨sP hmo _,awx hmo⟩
    ·exact .inl (h3 u hu q)
   ·rename_i e
    refine ih (fun u hu=>hs u (aZ _ hu)) ?_;obtain⟨u,hu,h⟩:=hx;rcases aV.1 hu with rfl|hu
    ·rw[DY] at e;exact absurd h e
    ·exact⟨u,hu,h⟩
 unfold vN at hb;rw[iR,List.isEmpty_iff,kU] at hb;rcases hb with rfl|⟨m,hm,h⟩
 ·exact fun m hm=>by cases hm
 ·exact key c (fun _ h=>h) ⟨m,hm,h⟩
def fp.seg{c:List ab}{q p:aa}{e:Rat}(hq:fp c q)(hp:fp c p)(h0:0<=e)(h1:e<=1):fp c (bu q p e):=fun m hm=>by
 rw[lx];have a:=hq m hm;have b:=hp m hm;by_cases z:e=0
 ·subst z;grind
 ·have k1:=ce (show 0<e by grind) b
  have k2:=fy (show 0<=1-e by grind) (fY a);grind
def fp.open{c:List ab}{q:aa}(u:aa)(h:fp c q): ∃e:Rat,0<e/\ ∀d,0<=d->d<=e->fp c (dC q u d):=by
 have hd:bP (c.map fun m=>(⟨m,av.all⟩:aH)) q:=fun s hs=>by
  obtain⟨m,hm,rfl⟩:=bV.1 hs;exact h m hm
 obtain⟨e,he,ho⟩:=hd.open u;exact⟨e,he,fun d d0 d1 m hm=>ho d d0 d1 ⟨m,av.all⟩ (gS hm)⟩
def En(l:ab)(t u:Rat):l.at (t+u)=dC (l.at t) l.dir u:=by
 rw[<-t8,<-t8];unfold dC;simp only[aa.mk.injEq];constructor<;>grind
def X3(l:ab)(a b s:Rat):bu (l.at a) (l.at b) s=l.at (a+s*(b-a)):=by
 rw[<-t8,<-t8,<-t8];unfold bu dC;simp only[aa.mk.injEq];constructor<;>grind
def P0{l:ab}(h:l.Ne)(t:Rat):ey l (l.at t)=t:=by
 obtain⟨q,_,hq⟩:=yv h;have h2:=pP h;have e0:l.dir.dot l.dir=l.nor.dot l.nor:=by unfold ab.dir ab.nor aa.dot;grind
 have e1:(l.at t).dot l.dir=t*l.dir.dot l.dir:=by
  rw[<-t8,hq];unfold dC ab.dir aa.dot;grind
 unfold ey;rw[e1];rw[<-e0] at h2;generalize l.dir.dot l.dir=d at*;have:d≠0:=by grind
 grind
def JR{l:ab}(h:l.Ne){p:aa}(hp:l.value p=0):l.at (ey l p)=p:=by
 obtain⟨t,rfl⟩:=zR h hp;rw[P0 h]
def Fi(a:Int){g:Nat}(h:g∣a.natAbs):(g:Int)*zv (decide (a<0)) (a.natAbs/g)=a:=by
 obtain⟨k,hk⟩:=h;by_cases g0:g=0
 ·subst g0;simp at hk⊢;omega
 have e:a.natAbs/g=k:=by rw[hk];exact rK k (iV g0)
 rw[e];unfold zv;have hc:((g*k:Nat):Int)=(g:Int)*(k:Int):=by push_cast;rfl
 by_cases n:a<0
 ·simp only[n,decide_true,if_true];rw[Int.mul_neg];omega
 ·simp only[n,decide_false];show(g:Int)*(k:Int)=a;omega
def Ys{a b c:Int}(h: ¬(a=0/\b=0)): ∃g:Int,0<g/\g*(gp a b c).a=a/\g*(gp a b c).b=b/\g*(gp a b c).c=c:=by
 have hg:0<Nat.gcd (Nat.gcd a.natAbs b.natAbs) c.natAbs:=kR _ (iV fun e=>h ⟨kY.1 (lT e),kY.1 (lV e)⟩);refine⟨(Nat.gcd (Nat.gcd a.natAbs b.natAbs) c.natAbs:Nat),by omega,?_,?_,?_⟩
 ·exact Fi a (qT (kZ _ _) (kZ _ _))
 ·exact Fi b (qT (kZ _ _) (lK _ _))
 ·exact Fi c (lK _ _)
def K0{v w:ZP}(h:v≠w): ∃g:Rat,0<g/\(iO v.1 v.2 w.1 w.2).value v.q=0/\(iO v.1 v.2 w.1 w.2).value w.q=0/\w.q=dC v.q (iO v.1 v.2 w.1 w.2).dir g:=by
 obtain⟨m,n⟩:=v;obtain⟨p,q⟩:=w;have hne: ¬(jP n q=0/\jC m p=0):=fun e=>h (by unfold jP jC at e;rw[Prod.mk.injEq];omega);obtain⟨g,g0,ga,gb,gc⟩:=Ys (c:=qh m n p q) hne;dsimp only;unfold iO;generalize gp (jP n q) (jC m p) (qh m n p q)=l at*;have g0':(0:Rat)<(g:Rat):=by exact_mod_cast g0
 have ra:(g:Rat)*(l.a:Rat)= -((q:Rat)-(n:Rat)):=by rw[<-cM,ga];unfold jP;push_cast;grind
 have rb:(g:Rat)*(l.b:Rat)=(p:Rat)-(m:Rat):=by rw[<-cM,gb];unfold jC;push_cast;grind
 have rc:(g:Rat)*(l.c:Rat)= -(-((q:Rat)-(n:Rat))*(m:Rat)+((p:Rat)-(m:Rat))*(n:Rat)):=by rw[<-cM,gc];unfold qh jP jC;push_cast;grind
 have z: ∀x:Rat,(g:Rat)*x=0->x=0:=fun x hx=>by
  rcases qN.1 hx with e|e
  ·rw[e] at g0';exact absurd g0' (by decide)
  ·exact e
 refine⟨g,g0',z _ ?_,z _ ?_,?_⟩
 ·rw[m8];unfold ZP.q iP;dsimp only;grind
 ·rw[m8];unfold ZP.q iP;dsimp only;grind
 ·unfold ZP.q iP dC ab.dir;simp only[aa.mk.injEq];constructor<;>grind
def Ej{v w:ZP}(h:v≠w)(ho:(dl v w).l.ok):(dl v w).l.at (dl v w).v.lo=v.q/\(dl v w).l.at (dl v w).v.hi=w.q/\(dl v w).v.lo<(dl v w).v.hi:=by
 obtain⟨g,g0,h1,h2,h3⟩:=K0 h;unfold dl at ho⊢;dsimp only at ho⊢;generalize iO v.1 v.2 w.1 w.2=l at*;have e1:=JR ho.ne h1;have e2:=JR ho.ne h2;refine⟨e1,e2,?_⟩;have:ey l w.q=ey l v.q+g:=by
  have e3:=En l (ey l v.q) g;rw[e1,<-h3] at e3;rw[<-e3,P0 ho.ne]
 rw[this];grind
def H0{r:List ZP}{k:Nat}: ∀{n:Nat},k<n->dl (r.getD k (0,0)) (e7 r k)∈jl r n
 |n+1,h=>by
  rw[jl];by_cases e:k=n
  ·subst e;exact cV _ (aY.2 J)
  ·exact cJ _ (H0 (by omega))
def Vb{r:List ZP}(hr:dq r){c:List ab}(hc: ∀e∈eG r,∀t,e.v.ins t-> ¬fp c (e.l.at t)){q p:aa}(hq:fp c q)(hp:fp c p):yk r q p:=fun k hk s t s0 s1 t0 t1 he=>by
 have hm:dl (r.getD k (0,0)) (e7 r k)∈eG r:=H0 hk;have ho:=((tq hr).2 _ hm).ok;obtain⟨e1,e2,e3⟩:=Ej (hr.ne k hk) ho;have hno:=hc _ hm;have hx:=hq.seg hp t0 t1;rw[<-he,<-e1,<-e2,X3] at hx;have hv: ∀u,(dl (r.getD k (0,0)) (e7 r k)).v.lo<u->u<(dl (r.getD k (0,0)) (e7 r k)).v.hi-> ¬fp c ((dl (r.getD k (0,0)) (e7 r k)).l.at u):=fun u h1 h2=>hno u ⟨.inr h1, .inr h2⟩;generalize dl (r.getD k (0,0)) (e7 r k)=e at*;have hb:=Ix s0 s1 (iZ) (fY e3) (fY e3) (iZ);generalize e.v.lo+s*(e.v.hi-e.v.lo)=u at*;obtain⟨d,d0,hd⟩:=hx.open e.l.dir;obtain⟨d',d0',hd'⟩:=hx.open (b8 e.l.dir);by_cases h1:e.v.lo<u
 ·by_cases h2:u<e.v.hi
  ·exact hv u h1 h2 hx
  ·have eu:u=e.v.hi:=by grind
   obtain⟨z,z0,z1,z2⟩: ∃z:Rat,0<z/\z<=d'/\z<e.v.hi-e.v.lo:=by
    by_cases k:d'<(e.v.hi-e.v.lo)/2
    ·exact⟨d',d0',iZ,by grind⟩
    ·exact⟨(e.v.hi-e.v.lo)/2,by grind,by grind,by grind⟩
   refine hv (u+ -z) (by grind) (by grind) ?_;rw[En];have:=hd' z (fY z0) z1;have e5:dC (e.l.at u) (b8 e.l.dir) z=dC (e.l.at u) e.l.dir (-z):=by unfold dC b8;simp only[aa.mk.injEq];constructor<;>grind
   rw[e5] at this;exact this
 ·have eu:u=e.v.lo:=by grind
  obtain⟨z,z0,z1,z2⟩: ∃z:Rat,0<z/\z<=d/\z<e.v.hi-e.v.lo:=by
   by_cases k:d<(e.v.hi-e.v.lo)/2
   ·exact⟨d,d0,iZ,by grind⟩
   ·exact⟨(e.v.hi-e.v.lo)/2,by grind,by grind,by grind⟩
  refine hv (u+z) (by grind) (by grind) ?_;rw[En];exact hd z (fY z0) z1
def Lj{rs:List (List ZP)}{fill:Int}(hr: ∀r∈rs,dq r){c:List ab}(hc: ∀e∈cb rs,∀t,e.v.ins t-> ¬fp c (e.l.at t)){q p:aa}(hq:fp c q)(hp:fp c p):jb rs fill q=jb rs fill p:=by
 have key: ∀(rs:List (List ZP)),(∀r∈rs,dq r)->(∀e∈cb rs,∀t,e.v.ins t-> ¬fp c (e.l.at t))-> ∀n:Int,rs.foldl (fun n r=>n+py r q) n=rs.foldl (fun n r=>n+py r p) n:=by
  intro rs
  induction rs with
  |nil=>intro _ _ n;rfl
  |cons r t ih=>
   intro hr hc n;rw[dX,dX,<-Ym (Vb (hr r aQ) (fun e he=>hc e (gK.2 ⟨r,aQ,he⟩)) hq hp)];exact ih (fun r h=>hr r (aZ _ h)) (fun e he=>hc e (by obtain⟨r,h1,h2⟩:=gK.1 he;exact gK.2 ⟨r,aZ _ h1,h2⟩)) _
 unfold jb;rw[key rs hr hc]
def AB{cuts:List Rat}(h:cuts.Pairwise (· < ·)){i j:Nat}(hij:i<j)(hj:j<cuts.length):cuts.getD i 0<cuts.getD j 0:=by
 rw[aK,aK,aX hj,aX (by omega)];exact pN.1 h i j (by omega) hj hij
def H1{cuts:List Rat}{marks:List Bool}(h:cuts.Pairwise (· < ·)): ∀{k:Nat},∀v∈iC cuts marks (k+1),k<cuts.length->(v.nh=false/\v.hi<=cuts.getD k 0)/\(v.nl=true\/v.lo<cuts.getD k 0)
 |k,v,hv,hk=>by
  have hg:((gl cuts k).nh=false/\(gl cuts k).hi<=cuts.getD k 0)/\((gl cuts k).nl=true\/(gl cuts k).lo<cuts.getD k 0):=by
   unfold gl;dsimp only;refine⟨⟨by simp;omega,by rw[if_pos hk];exact iZ⟩,?_⟩;by_cases z:k=0
   ·left;simp[z]
   ·right;rw[if_neg z];exact AB h (by omega) hk
  have hold: ∀v∈iC cuts marks k,(v.nh=false/\v.hi<=cuts.getD k 0)/\(v.nl=true\/v.lo<cuts.getD k 0):=fun v hv=>by
   cases k with
   |zero=>cases hv
   |succ k=>
    have ih:=H1 h v hv (by omega);have:=AB h (Nat.lt_succ_self k) hk;exact⟨⟨ih.1.1,by have:=ih.1.2;grind⟩,ih.2.imp id fun z=>by grind⟩
  rw[iC] at hv;split at hv
  ·split at hv
   ·split at hv
    ·rename_i w hw
     rcases bS.1 hv with q|q
     ·exact hold v ((sJ _).subset q)
     ·rw[aY] at q;subst q
      exact⟨hg.1,(hold w (pY hw)).2⟩
    ·rcases bS.1 hv with q|q
     ·exact hold v q
     ·rw[aY] at q;subst q;exact hg
   ·rcases bS.1 hv with q|q
    ·exact hold v q
    ·rw[aY] at q;subst q;exact hg
  ·exact hold v hv
def MR{cuts:List Rat}{marks:List Bool}(h:cuts.Pairwise (· < ·)){x:Rat}{i:Nat}(hm:marks.getD i false=true)(hx:(gl cuts i).ins x): ∀{k:Nat},k<=cuts.length+1->i<k-> ∃v∈iC cuts marks k,v.ins x
 |k+1,hk,hi=>by
  by_cases e:i=k
  ·subst e
   rw[iC,if_pos hm];split
   ·rename_i h0
    split
    ·rename_i w hw
     refine⟨_,cV _ (aY.2 J),?_,hx.2⟩;obtain⟨j,rfl⟩: ∃j,i=j+1:=⟨i-1,by omega⟩;have:=(H1 h w (pY hw) (by omega)).2;have hl:=hx.1;unfold gl at hl;dsimp only at hl;rw[if_neg (by omega),show j+1-1=j by omega] at hl;have hl':cuts.getD j 0<x:=hl.resolve_left (by simp);exact this.imp id fun z=>by show w.lo<x;grind
    ·exact⟨_,cV _ (aY.2 J),hx⟩
   ·exact⟨_,cV _ (aY.2 J),hx⟩
  ·obtain⟨v,hv,hvx⟩:=MR h hm hx (k:=k) (by omega) (by omega)
   rw[iC];split
   ·split
    ·split
     ·rename_i w hw
      by_cases q:v=w
      ·subst q
       refine⟨_,cV _ (aY.2 J),hvx.1,?_⟩;show(gl cuts k).nh=true\/x<(gl cuts k).hi;obtain⟨j,rfl⟩: ∃j,k=j+1:=⟨k-1,by omega⟩;obtain⟨⟨b1,b2⟩,_⟩:=H1 h v hv (by omega);have hh:=hvx.2.resolve_left (by rw[b1];decide);unfold gl;dsimp only;by_cases z:j+1<cuts.length
       ·right;rw[if_pos z];have:=AB h (Nat.lt_succ_self j) z;grind
       ·left;simp;omega
      ·refine⟨v,cJ _ ?_,hvx⟩
       obtain⟨l,hl⟩:=List.getLast?_eq_some_iff.1 hw;rw[hl] at hv⊢;rw[List.dropLast_concat];rcases bS.1 hv with z|z
       ·exact z
       ·rw[aY] at z;exact absurd z q
     ·exact⟨v,cJ _ hv,hvx⟩
    ·exact⟨v,cJ _ hv,hvx⟩
   ·exact⟨v,hv,hvx⟩
def Ru: ∀{l:List Rat} {i:Nat},i+1<l.length->(fe l).getD i 0=(l.getD i 0+l.getD (i+1) 0)/2
 |[],_,h=>by simp at h
 |[_],_,h=>by simp at h
 |a::b::t,0,_=>by simp[fe]
 |a::b::t,i+1,h=>by
  have:=Ru (l:=b::t) (i:=i) (by simp at h⊢;omega);rw[fe,lU,this];simp only[lU]
def A9: ∀(l:List Rat) (a:Rat),(fe (a::l)).length=l.length
 |[],_=>rfl
 |b::t,a=>by rw[fe,bX,A9 t b,bX]
def WU{cuts:List Rat}(h:cuts.Pairwise (· < ·)){i j:Nat}(hi:i<=cuts.length)(hj:j<cuts.length):(cuts.getD j 0<(cE cuts).getD i 0↔j<i)/\cuts.getD j 0≠(cE cuts).getD i 0:=by
 have mono: ∀{a b:Nat},a<=b->b<cuts.length->cuts.getD a 0<=cuts.getD b 0:=fun{a b} hab hb=>by
  by_cases e:a=b
  ·subst e;exact iZ
  ·exact fY (AB h (by omega) hb)
 cases cuts with
 |nil=>simp at hj
 |cons a t=>
  have hl:(a::t).length=t.length+1:=J;rw[cE]
  cases i with
  |zero=>
   rw[sN];have:=mono (bK j) hj;rw[sN] at this;constructor
   ·constructor
    ·intro q;exfalso;grind
    ·intro q;omega
   ·intro q;grind
  |succ i=>
   rw[lU];by_cases e:i<t.length
   ·have e1:(fe (a::t)++[(a::t).getLast (by simp)+1]).getD i 0=((a::t).getD i 0+(a::t).getD (i+1) 0)/2:=by
     rw[<-Ru (by omega),aK,aK,cN (by rw[A9];exact e)]
    rw[e1];have h1:=AB h (Nat.lt_succ_self i) (by omega);by_cases q:j<=i
    ·have:=mono q (by omega)
     constructor
     ·exact⟨fun _=>by omega,fun _=>by grind⟩
     ·grind
    ·have:=mono (show i+1<=j by omega) hj
     constructor
     ·exact⟨fun _=>by exfalso;grind,fun _=>by omega⟩
     ·grind
   ·have ei:i=t.length:=by omega
    have e1:(fe (a::t)++[(a::t).getLast (by simp)+1]).getD i 0=(a::t).getLast (by simp)+1:=by
     rw[aK,fR (by rw[A9];omega),A9,ei];simp
    rw[e1];have:=Ez h (by simp) ((a::t).getD j 0) (by rw[aK,aX hj];exact fJ _);constructor
    ·exact⟨fun _=>by omega,fun _=>by grind⟩
    ·grind
def NJ(x:Rat): ∀{cuts:List Rat},cuts.Pairwise (· < ·)-> ∃i,i<=cuts.length/\ ∀j,j<cuts.length->(cuts.getD j 0<x↔j<i)
 |[],_=>⟨0,aM _,fun j hj=>by simp at hj⟩
 |a::t,h=>by
  rw[bJ] at h;by_cases q:a<x
  ·obtain⟨i,h1,h2⟩:=NJ x h.2
   refine⟨i+1,by simp;exact h1,fun j hj=>?_⟩
   cases j with
   |zero=>simp[q]
   |succ j=>rw[lU,h2 j (by simpa using hj)];omega
  ·refine⟨0,bK _,fun j hj=>⟨fun k=>?_,fun k=>by omega⟩⟩
   exfalso
   cases j with
   |zero=>simp at k;grind
   |succ j=>
    rw[lU] at k;have hj':j<t.length:=by simpa using hj
    have:=h.1 (t.getD j 0) (by rw[aK,aX hj'];exact fJ _);grind
def Rp{out:List Rat}{s:av}{y:Rat}:y∈iH out s↔y∈out\/(s.nl=false/\y=s.lo)\/(s.nh=false/\y=s.hi):=by
 unfold iH
 cases e1:s.nl<;>cases e2:s.nh<;>simp[uJ]<;>grind
def wV{v:av}{x:Rat}:nD [v] x=true↔v.ins x:=by
 unfold nD AC AC av.ins;have h1:=CB x v.lo;have h2:=zj x v.hi;rw[decide_eq_true_eq]
 cases e1:v.nl<;>cases e2:v.nh<;>simp only[if_true,dJ,if_false,false_or,true_or,h1,h2,and_true,true_and,show(0:Int)<1 from by decide,show(-1:Int)<0 from by decide]<;>grind
def OQ{cuts:List Rat}{v:av}(hl:v.nl=true\/v.lo∈cuts)(hh:v.nh=true\/v.hi∈cuts){x g:Rat}(ho: ∀u∈cuts,(u<x↔u<g)/\u≠x/\u≠g)(h:v.ins x):v.ins g:=by
 refine⟨?_,?_⟩
 ·rcases hl with e|e
  ·exact .inl e
  ·rcases h.1 with k|k
   ·exact .inl k
   ·exact .inr ((ho _ e).1.1 k)
 ·rcases hh with e|e
  ·exact .inl e
  ·rcases h.2 with k|k
   ·exact .inl k
   ·obtain⟨a,b,c⟩:=ho _ e
    right;by_cases q:v.hi<g
    ·have:=a.2 q;grind
    ·grind
def XQ{v w:av}{t:Rat}(hv:v.ins t)(hw:w.ins t): ∃z∈i7 2 [v] [w],z.ins t:=by
 have hmem: ∀y,y∈gA ([v]++[w])↔((v.nl=false/\y=v.lo)\/(v.nh=false/\y=v.hi))\/(w.nl=false/\y=w.lo)\/(w.nh=false/\y=w.hi):=fun y=>by
  show y∈iH (iH [] v) w↔_;rw[Rp,Rp];simp
 have hasc:=(L4 ([v]++[w])).1;have h0: ∀u∈gA ([v]++[w]),u≠t:=fun u hu e=>by
  subst e;rcases(hmem u).1 hu with(⟨a,b⟩|⟨a,b⟩)|⟨a,b⟩|⟨a,b⟩
  ·have:=hv.1.resolve_left (by rw[a];decide);grind
  ·have:=hv.2.resolve_left (by rw[a];decide);grind
  ·have:=hw.1.resolve_left (by rw[a];decide);grind
  ·have:=hw.2.resolve_left (by rw[a];decide);grind
 have l1:v.nl=true\/v.lo∈gA ([v]++[w]):=by
  cases e:v.nl with
  |true=>exact .inl J
  |false=>exact .inr ((hmem _).2 (.inl (.inl ⟨e,J⟩)))
 have l2:v.nh=true\/v.hi∈gA ([v]++[w]):=by
  cases e:v.nh with
  |true=>exact .inl J
  |false=>exact .inr ((hmem _).2 (.inl (.inr ⟨e,J⟩)))
 have l3:w.nl=true\/w.lo∈gA ([v]++[w]):=by
  cases e:w.nl with
  |true=>exact .inl J
  |false=>exact .inr ((hmem _).2 (.inr (.inl ⟨e,J⟩)))
 have l4:w.nh=true\/w.hi∈gA ([v]++[w]):=by
  cases e:w.nh with
  |true=>exact .inl J
  |false=>exact .inr ((hmem _).2 (.inr (.inr ⟨e,J⟩)))
 unfold i7 l9;generalize gA ([v]++[w])=cuts at*;obtain⟨i,hi,ho⟩:=NJ t hasc;have hord: ∀u∈cuts,(u<t↔u<(cE cuts).getD i 0)/\u≠t/\u≠(cE cuts).getD i 0:=fun u hu=>by
  obtain⟨j,hj,e⟩:=List.mem_iff_getElem.1 hu;have e':cuts.getD j 0=u:=by rw[aK,aX hj];exact e
  obtain⟨g1,g2⟩:=WU hasc hi hj;have:=ho j hj;rw[e'] at g1 g2 this;exact⟨this.trans g1.symm,h0 u hu,g2⟩
 have hlen:(cE cuts).length=cuts.length+1:=BF;refine MR hasc (i:=i) ?_ ?_ (by rw[aJ,hlen];exact aM _) (by rw[aJ,hlen];omega)
 ·rw[aK,eX,aX (by omega)]
  show F1 2 (nD [v] _) (nD [w] _)=true;have e:(cE cuts)[i]'(by omega)=(cE cuts).getD i 0:=by rw[aK,aX (by omega)];rfl
  rw[e,wV.2 (OQ l1 l2 hord hv),wV.2 (OQ l3 l4 hord hw)];rfl
 ·unfold gl av.ins
  dsimp only;refine⟨?_,?_⟩
  ·by_cases z:i=0
   ·left;simp[z]
   ·right;rw[if_neg z];exact(ho (i-1) (by omega)).2 (by omega)
  ·by_cases z:i=cuts.length
   ·left;simp[z]
   ·right
    rw[if_pos (by omega)];have a:=ho i (by omega);have b:=h0 (cuts.getD i 0) (by rw[aK,aX (by omega)];exact fJ _);have c: ¬cuts.getD i 0<t:=fun k=>by have:=a.1 k;omega
    grind
def Hh{l m:ab}(h:crossI l m=0):l.cutK m=0:=by
 have e:l.cutK m= -(crossI l m:Rat):=by unfold ab.cutK ab.nor ab.dir aa.dot crossI;push_cast;grind
 rw[e,h];rfl
def Kq{k:Rat}{side:Int}(hs:side=1\/side= -1)(h:0<(side:Rat)*k):k.num.sign=side:=by
 rcases hs with rfl|rfl
 ·exact(kd k).2 (by grind)
 ·have:k.num.sign<0:=(mI k).2 (by grind)
  have:=qK k.num;omega
def Ue{f:aH}{m:ab}{side:Int}(hs:side=1\/side= -1)(hl:f.l.Ne){t:Rat}(ht:f.v.ins t)(hm:0<(side:Rat)*m.value (f.l.at t)): ∃g∈j' f m side,g.l=f.l/\g.v.ins t:=by
 have hv:=nH f.l m t;have ho: ¬tU f.l m=true:=fun e=>by
  unfold tU at e;rw[decide_eq_true_eq,kg] at e;rw[Hh e.1,show f.l.cutC m=m.value f.l.base from J,e.2] at hv;rw[hv] at hm;grind
 unfold j';rw[if_neg ho];have hh: ∃w,uF f.l m side=[w]/\w.ins t:=by
  unfold uF;by_cases hc:crossI f.l m=0
  ·rw[if_pos hc]
   rw[Hh hc,show f.l.cutC m=m.value f.l.base from J] at hv;rw[if_pos (Kq hs (by rw[hv] at hm;grind))];exact⟨_,J,VG t⟩
  ·rw[if_neg hc]
   have hp:=yf hl hc;have hK:f.l.cutK m≠0:=fun e=>by
    have e2:f.l.cutK m= -(crossI f.l m:Rat):=by unfold ab.cutK ab.nor ab.dir aa.dot crossI;push_cast;grind
    rw[e2] at e;have:(crossI f.l m:Rat)=0:=by grind
    exact hc (cW.1 this)
   generalize hx:ey f.l (ge f.l m)=x at*;have hv2: ∀u,m.value (f.l.at u)=f.l.cutK m*(u-x):=fun u=>by rw[nH,hp];grind
   rw[hv2] at hm;have e1:m.value (f.l.at (x+1))=f.l.cutK m:=by rw[hv2];grind
   rw[e1];generalize f.l.cutK m=K at*;by_cases q:K.num.sign=side
   ·rw[if_pos q]
    refine⟨_,J, .inr ?_, .inl J⟩;show x<t;rcases hs with rfl|rfl
    ·have:=(kd K).1 q
     have:=(xR this).1 (show 0<K*(t-x) by grind);grind
    ·have:=(mI K).1 (by omega)
     have:=(GI this).1 (show K*(t-x)<0 by grind);grind
   ·rw[if_neg q]
    refine⟨_,J, .inl J, .inr ?_⟩;show t<x;have h3:=gP K;rcases hs with rfl|rfl
    ·have kn:K<0:=by
      rcases h3 with h|h|h
      ·exact absurd h hK
      ·exact absurd ((kd K).2 h) q
      ·exact h
     have:=(GI kn (b:=x-t)).1 (by grind);grind
    ·have kp:0<K:=by
      rcases h3 with h|h|h
      ·exact absurd h hK
      ·exact h
      ·exact absurd (by have:=(mI K).2 h;have:=qK K.num;omega) q
     have:=(xR kp (b:=x-t)).1 (by grind);grind
 obtain⟨w,e,hw⟩:=hh;rw[e];obtain⟨z,hz,hzt⟩:=XQ ht hw;exact⟨⟨f.l,z⟩,gS hz,J,hzt⟩
def Cs(E:List aH)(c:List ab)(l:List aH):Prop:= ∀e∈E,∀t,e.v.ins t->fp c (e.l.at t)-> ∃f∈l,f.l=e.l/\f.v.ins t
def Cs.split{E l:List aH}{c:List ab}(h:Cs E c l)(hE: ∀e∈E,e.l.Ne){m:ab}{side:Int}(hs:side=1\/side= -1){m':ab}(hm': ∀p,m'.value p=(side:Rat)*m.value p):Cs E (c++[m']) (l.flatMap fun g=>j' g m side):=fun e he t ht hin=>by
 obtain⟨h1,h2⟩:=E3.1 hin;obtain⟨f,hf,ef,hft⟩:=h e he t ht h1;rw[hm'] at h2;obtain⟨g,hg,eg,hgt⟩:=Ue (f:=f) hs (by rw[ef];exact hE e he) hft (by rw[ef];exact h2);exact⟨g,gK.2 ⟨f,hf,hg⟩,by rw[eg,ef],hgt⟩
def F'{acc:aa->Bool}{E:List aH}(hE: ∀e∈E,e.l.Ne)(ha: ∀(c:List ab) (q p:aa),(∀e∈E,∀t,e.v.ins t-> ¬fp c (e.l.at t))->fp c q->fp c p->acc q=acc p): ∀{n:Nat} {l:List aH} {c:List ab} {p:aa},(∀f∈l,pA f)->nj n l->(∀m∈c,m.ok)->Cs E c l->fp c p->f5 (km acc n l c).lns p->(km acc n l c).val p=acc p
 |n,[],c,p,_,_,hc,hcov,hp,_=>by
  have e:km acc n [] c= .leaf (acc (wT c c)):=by cases n<;>rfl
  rw[e,Tr.val];exact ha c _ _ (fun e he t ht hin=>by obtain⟨f,hf,_⟩:=hcov e he t ht hin;cases hf) (Za hc ((Z0 hc).2 ⟨p,hp⟩)) hp
 |0,f::t,_,_,_,hf,_,_,_,_=>by
  obtain⟨K,hK,hs⟩:=hf;obtain⟨m,hm,_⟩:=hs f aQ;have:K=[]:=bT (by omega);rw[this] at hm;cases hm
 |n+1,f::t,c,p,hok,hf,hc,hcov,hp,hoff=>by
  have fo:=hok f aQ;have hok': ∀side,∀g∈(f::t).flatMap fun g=>j' g f.l side,pA g:=fun side g hg=>by
   obtain⟨q,hq,hg⟩:=gK.1 hg;exact(Dq (hok q hq) fo.lb g hg).1
  rw[km] at hoff⊢;by_cases q:0<f.l.value p
  ·rw[Tr.val_pos q]
   exact F' hE ha (hok' 1) (hf.split hok) (OR hc fo.ok) (hcov.split hE (.inl J) fun p=>by grind) (E3.2 ⟨hp,q⟩) hoff.x
  ·rw[Tr.val_neg q]
   have:=hoff.l;exact F' hE ha (hok' (-1)) (hf.split hok) (OR hc fo.ok.rev) (hcov.split hE (.inr J) fun p=>by rw[ij];grind) (E3.2 ⟨hp,by rw[ij];grind⟩) hoff.y
def Qd{rs:List (List ZP)}{fill:Int}(hr: ∀r∈rs,dq r){p:aa}(ho:f5 (o4 rs fill).lns p):(iG rs fill).val p=jb rs fill p:=by
 obtain⟨h1,h2⟩:=ng hr;have hok:(o4 rs fill).all ab.ok:=rF fun f hf=>(h2 f hf).ok;unfold iG;rw[Tr.val_restrict _ _ _ hok d8.nil (fun s hs=>by cases hs) ho];unfold o4 at ho⊢;refine F' (E:=cb rs) (fun e he=>(h2 e he).ok.ne) (fun c q p hno hq hp=>Lj hr hno hq hp) h2 ?_ (fun m hm=>by cases hm) (fun e he t ht _=>⟨e,he,J,ht⟩) (fun m hm=>by cases hm) ho;exact⟨(cb rs).map (·.l),by rw[aJ];exact aM _,fun f hf=>⟨f.l,gS hf, .inl J⟩⟩
structure BR where
 ax:Rat
 ay:Rat
 ac:Rat
def BR.ev(g:BR)(p:aa):Rat:=g.ax*p.x+g.ay*p.y+g.ac
def BR.li(g:BR)(u:aa):Rat:=g.ax*u.x+g.ay*u.y
def OL(a b x:aa):Prop:= ∃s:Rat,0<=s/\s<=1/\x=bu a b s
def WX(a b p r:aa):Prop:=OL a b p/\((r=⟨b.x-p.x,b.y-p.y⟩/\b≠p)\/(r=⟨a.x-p.x,a.y-p.y⟩/\a≠p))
def O3(r u:aa):Prop:= ∃k:Rat,0<k/\u=⟨k*r.x,k*r.y⟩
def Xh(E:List (aa×aa))(p u:aa):Prop:=u≠⟨0,0⟩/\ ∀f∈E,∀r,WX f.1 f.2 p r-> ¬O3 r u
def tB(r:List ZP):List (aa×aa):=(List.range r.length).map fun k=>((r.getD k (0,0)).q,(e7 r k).q)
def ER(rs:List (List ZP)):List (aa×aa):=rs.flatMap tB
def zy{a b:ZP}(h:a.q=b.q):a=b:=by
 have hx:(a.1:Rat)=(b.1:Rat):=congrArg aa.x h;have hy:(a.2:Rat)=(b.2:Rat):=congrArg aa.y h;exact Prod.ext (by exact_mod_cast hx) (by exact_mod_cast hy)
def Sl(rs:List (List ZP))(fill:Int)(p v:aa)(b:Bool):Prop:= ∃e:Rat,0<e/\ ∀d,0<d->d<=e->jb rs fill (dC p v d)=b
section
variable {rs:List (List ZP)} {fill:Int} {p v w:aa} {b c:Bool}
end
def RO(ds:List aa)(u:aa):Prop:=u≠⟨0,0⟩/\ ∀r∈ds,¬O3 r u
def WdD(ds:List aa)(v w:aa):Prop:= ∀s,0<=s->s<=1->RO ds (bu v w s)
def xX(x y:aa):Nat:=if x.cross y<0 then 1 else if 0<x.cross y then 3 else if 0<x.dot y then 0 else 2
def aIm(x y z:aa):Prop:=xX x y<xX x z\/(xX x y=xX x z/\(xX x y=1\/xX x y=3)/\0<z.cross y)
section
variable {ds:List aa}
end
def ePa(x:Bool×aF):DV:= .ag [.sl (x.2.map bh),eU (.leaf x.1)]
def eC(c:aF):DV:= .sl (c.map bh)
def aHQ(ps:List (Bool×aF)):List aF:=(ps.filter (·.1)).map (·.2)
def Xf(G:Gh)(y:Value)(h:Is G (.ag [vI 0,vI 0, .v (.pointer none),vI 0,vI 0, .v (.pointer none)]) y):Is G (eZ (p6 [])) y:=by
 obtain⟨m,rfl,g⟩:=cO.1 h;obtain⟨v1,m,rfl,h1,g⟩:=ba.1 g;obtain⟨v2,m,rfl,h2,g⟩:=ba.1 g;obtain⟨v3,m,rfl,h3,g⟩:=ba.1 g;obtain⟨v4,m,rfl,h4,g⟩:=ba.1 g;obtain⟨v5,m,rfl,h5,g⟩:=ba.1 g;obtain⟨v6,m,rfl,h6,g⟩:=ba.1 g
 cases cD.1 g
 have e1:=vn G _ (cO.2 ⟨[v1,v2,v3],J, .cons h1 (.cons h2 (.cons h3 .nil))⟩);have e2:=vn G _ (cO.2 ⟨[v4,v5,v6],J, .cons h4 (.cons h5 (.cons h6 .nil))⟩);obtain⟨m1,q1,g1⟩:=cO.1 e1;obtain⟨m2,q2,g2⟩:=cO.1 e2
 cases q1;cases q2
 exact cO.2 ⟨_,J,g1.app g2⟩
theorem BQ.samp(v:av)(i j:Nat)[h1:BQ v.lo i][h2:BQ v.hi j]:BQ v.sample (i+j+1+2):=by
 have b1:BQ (1:Rat) 1:=⟨by decide,by decide⟩;unfold av.sample;split
 ·exact BQ.z1.mono (by omega)
 ·split
  ·exact(inferInstance:BQ (v.hi-1) (j+1+1)).mono (by omega)
  ·split
   ·exact(inferInstance:BQ (v.lo+1) (i+1+1)).mono (by omega)
   ·exact inferInstance
theorem Gb{s:aH}(h:Dr s):aI (s.l.at s.v.sample) 3500:=by
 haveI:=h.lb;haveI:=h.v.lo;haveI:=h.v.hi;have h0:BQ s.v.sample _:=BQ.samp s.v 1200 1200;have:= @aI.at s.l s.v.sample _ _ h0;exact⟨this.x.mono (by decide),this.y.mono (by decide)⟩
theorem Ea{s g:aH}(hs:Dr s)(hg:Dr g):BQ (-(g.l.value (s.l.at s.v.sample)/g.l.nor.dot s.l.nor)) 9000:=by
 haveI:=hs.lb;haveI:=hg.lb;haveI:=Gb hs;exact BQ.mono (inferInstance:BQ (-(g.l.value (s.l.at s.v.sample)/g.l.nor.dot s.l.nor)) _) (by decide)
def TG{GB:Gh}:PF GB prog 255 [eC []] (eZ (p6 [])):=by
 refine fn (fu:=⟨10⟩) func255 J J ntmps255 J J (fun C=>?_);refine ie J (by rfl) J<|?_;exact i4 J Xf
def Sk(l:List aH):dG 17 (l.map bh):=fun d hd=>by
 obtain⟨x,_,rfl⟩:=bV.1 hd;exact⟨J,J⟩
def Qy{l:ab}{p:aa}{cs:aF}{k:Nat}{g:aH}{f:Rat}(h:cs[k]? =some g):jd l p (cs.drop k) f=jd l p (cs.drop (k+1)) (if Int.sign (g.l.nor.dot l.nor).num<0 then(if-(g.l.value p/g.l.nor.dot l.nor)<f then-(g.l.value p/g.l.nor.dot l.nor) else f) else f):=by
 obtain⟨h1,h2⟩:=aU.1 h;rw[bY h1,h2,jd]
def Nu(s:aH)(cs:aF):p6 (s::cs)=(s.l.at s.v.sample).add (s.l.nor.scale (jd s.l (s.l.at s.v.sample) cs 1*mkRat 1 2)):=by
 show dC _ _ _=_;unfold dC aa.add aa.scale;simp only[aa.mk.injEq];constructor<;>grind
def Se{GB:Gh}{s:aH}{cs:aF}(hc:jj (s::cs))(hn:cs.length<=100000):PF GB prog 255 [eC (s::cs)] (eZ (p6 (s::cs))):=by
 have hs:=hc s aQ;have hsl:=hs.lb;have hv1:=hs.v.lo;have hv2:=hs.v.hi;have hp:=Gb hs;have hml:((s::cs).map bh).length=cs.length+1:=by simp
 have hml2:(cs.map bh).length=cs.length:=aJ ..;refine fn (fu:=⟨10⟩) func255 J J ntmps255 J J (fun C=>?_);refine dt J (by show some (decide _)=some false;rw[decide_eq_false (by simp;omega)]) J<|ix _ J J J<|ix _ J J J<|cl J (OA (v:=s.v) (i:=1200)) J<|?_;refine cl J (Br (l:=s.l) (t:=s.v.sample)) J<|ix _ J J J<|cl J (xm (l:=s.l)) J<|cl J (qt (by omega)) J<|oy (fu:=⟨1⟩) 1 (cs.length+1) (cs.map bh) J J (by rw[hml]) (by rw[bQ (by rw[hml];exact aM _)];rfl) (Sk _) (by omega) (by omega) J<|?_;refine ao 31 (.d (vI (cs.length:Nat))) J (by rw[hml2]<;>rfl) ?_;refine gx J<|?_;refine lp (X:=Rat×Nat) (fun⟨f,k⟩=>[(32, .d (vI (k:Nat))),(5, .ov 5 0)]) (fun⟨f,k⟩=>[(5,some (.o 139 [.d (vI (dx f)), .d (vI (dB f)), .d (c9 f)] true))]) (fun⟨f,k⟩=>jd s.l (s.l.at s.v.sample) (cs.drop k) f=jd s.l (s.l.at s.v.sample) cs 1/\k<=cs.length/\BQ f 9000) (fun⟨f,k⟩=>cs.length-k) ⟨((1:Int):Rat),0⟩ J ⟨J,bK _,BQ.mono (k:=2) ⟨by decide,by decide⟩ (by decide)⟩ (fun _=>J) (fun⟨f,k⟩ hk=>?_)
 try dsimp only at hk⊢
 obtain⟨h1,h2,h3⟩:=hk;refine br J J J (fun hc33=>?_) (fun hc33=>?_)
 .
  obtain⟨g,hx⟩: ∃g,cs[k]? =some g:=⟨_,aX (by omega)⟩;have hg:=hc g (aZ _ (aS hx));have hgl:=hg.lb;have hfb:=Ea hs hg;refine ix _ J (d6 hx) J<|cl J (xm (l:=g.l)) J<|cl J (uD (p:=g.l.nor) (q:=s.l.nor)) J<|cl J (mr (q:=g.l.nor.dot s.l.nor)) J<|?_;refine br J J J (fun hc43=>?_) (fun hc43=>?_)
  .
   refine cl J (Ip (l:=g.l) (p:=(s.l.at s.v.sample))) J<|cl J (yW (p:=g.l.value (s.l.at s.v.sample)) (q:=g.l.nor.dot s.l.nor)) J<|?_;refine cl J (n8 (q:=g.l.value (s.l.at s.v.sample)/g.l.nor.dot s.l.nor)) J<|cl (hv:=by simp only[ah];exact⟨by kernel_rfl,by omega⟩) J (Rs (p:=f) (q:= -(g.l.value (s.l.at s.v.sample)/g.l.nor.dot s.l.nor))) J<|?_;exact at_ ⟨if-(g.l.value (s.l.at s.v.sample)/g.l.nor.dot s.l.nor)<f then-(g.l.value (s.l.at s.v.sample)/g.l.nor.dot s.l.nor) else f,k+1⟩ (by dsimp only;exact⟨⟨by rw[<-h1,Qy hx,if_pos hc43],by omega,by split;exact Ea hs hg;exact h3⟩,(by omega)⟩)
  .
   exact at_ ⟨f,k+1⟩ (by dsimp only;exact⟨⟨by rw[<-h1,Qy hx,if_neg hc43],by omega,h3⟩,(by omega)⟩)
 .
  obtain rfl:k=cs.length:=by omega
  obtain rfl:f=jd s.l (s.l.at s.v.sample) cs 1:=by rw[jK] at h1;exact h1
  refine cl J (Hr (q:=jd s.l (s.l.at s.v.sample) cs 1)) J<|cl J (DF (p:=s.l.nor) (c:=jd s.l (s.l.at s.v.sample) cs 1*mkRat 1 2)) J<|?_;refine cl J (I0 (p:=(s.l.at s.v.sample)) (q:=s.l.nor.scale (jd s.l (s.l.at s.v.sample) cs 1*mkRat 1 2))) J<|?_;exact rz J (by rw[Nu];rfl)
def eRz(v:List aa):DV:= .sl (v.map eZ)
def eRa(v:List aa):DV:= .sl (v.map l6)
def oH{α:Type}(f:α->Rat):List α->Rat
 |[]=>0
 |a::t=>f a+oH f t
def aIO(f:aa->aa->Rat)(v:List aa):Rat:=oH (fun i=>f (v.getD i ⟨0,0⟩) (v.getD ((i+1)%v.length) ⟨0,0⟩)) (List.range v.length)
def aJN(c:aF):Rat:=oH (fun s=>(s.v.hi-s.v.lo)*(s.l.c:Rat)) c
def aKM(t:Tr):Prop:= ∃(L:List ab) (R:Rat),(∀l∈L,l.ok)/\ ∀p,f5 L p->Vl R p->t.val p=false
def PU(es:List Int):Nat->Nat->Tr×Nat
 |0,a=>uQ es a
 |d+1,a=>
  let k:=aB es 3 a
  if(k.1:Int)=0 then
   let x:=PU es d k.2
   let o:=aB es 4 x.2
   let y:=PU es d o.2
   (x.1.mergeQ (1+(o.1:Int)) y.1 [],y.2)
  else uQ es k.2
def aKu(f:aa->aa->Rat):Prop:= ∀(l:ab) (a b c:Rat),l.Ne->f (l.at a) (l.at c)=f (l.at a) (l.at b)+f (l.at b) (l.at c)
def sdF(f:aa->aa->Rat)(s:aH):Rat:=f (s.l.at s.v.lo) (s.l.at s.v.hi)
def TW(f:aa->aa->Rat)(c:aF):Rat:=aIO f (Dn (c.map (·.l)))
def muT(f:aa->aa->Rat)(t:Tr)(c:aF):Rat:=oH (fun x:Bool×aF=>if x.1 then TW f x.2 else 0) (t.parts c)
def muG(f:aa->aa->Rat)(t:Tr)(c:aF)(l:ab):Rat:=if cP c l then muT f t (bF c l) else 0
def aKf(t:Tr)(c:aF):Prop:= ∀x∈t.parts c,x.1=true->XD x.2=true
def Wd(v:List aa):List (aa×aa):=(List.range v.length).map fun i=>(v.getD i ⟨0,0⟩,v.getD ((i+1)%v.length) ⟨0,0⟩)
def q9(cs:List (List ab)):List (aa×aa):=cs.flatMap fun c=>Wd (Dn c)
def r6(cs:List aF):List (List ab):=cs.map fun c=>c.map (·.l)
def edE(x:aa×aa):List DV:=[BC x.1 x.2,eF (x.1.cross x.2)]

def eCl(x:List ab×Bool):DV:= .ag [.sl (x.1.map eL),vB x.2]
def eSd(c:List ab):DV:= .sl (c.map eL)
def aK5(ps:List (List ab×Bool)):List (List ab):=(ps.filter (·.2)).map (·.1)
def eRp(v:List aa):DV:= .sl (v.map eP)
structure Nr (GB:Gh) (ai al ae au:Addr):Prop extends EG GB ai al ae where
 ErrUnbounded:GB 5=some [.iface 499 (.pointer (some au))]
def aKr(c:aF):List (List aa):=PK (Dn (c.map (·.l)))


def wh:List ZP:=[(0,0),(1,0),(0,1)]
def Zt:dq wh:=⟨by decide,by decide,fun p hp=>by
 unfold wh at hp;simp only[aV,kX,or_false] at hp;rcases hp with rfl|rfl|rfl<;>exact⟨by decide,by decide⟩,by decide⟩
structure EGS (GB:Gh) (ai al ae au ar:Addr):Prop extends Nr GB ai al ae au where
 ErrEmpty:GB 4=some [.iface 499 (.pointer (some ae))]
 ErrRange:GB 2=some [.iface 499 (.pointer (some ar))]
def Mi(r:List aa)(j:Nat):Nat->aa
 |0=>(((r.getD 0 ⟨0,0⟩).add (r.getD 1 ⟨0,0⟩)).add (r.getD 2 ⟨0,0⟩)).scale (((1:Int):Rat)/((3:Int):Rat))
 |k+1=>((Mi r j k).add (r.getD j ⟨0,0⟩)).scale (((1:Int):Rat)/((2:Int):Rat))
def smp(ts:List (List aa))(i:Nat):aa:=Mi (ts.getD (i%ts.length) []) (i%3) (i/ts.length)
theorem aI.mono{p:aa}{i j:Nat}(h:aI p i)(hj:i<=j):aI p j:=⟨h.x.mono hj,h.y.mono hj⟩
structure Sq (cs:List aF) (b:Nat):Prop where
 lb: ∀c∈cs,∀s∈c,LB s.l
 sh: ∀c∈cs,c.length<=100000
 ln:cs.length<=1000000
 pt: ∀x∈q9 (r6 cs),aI x.1 b/\aI x.2 b
def MY(x:aa×aa):aa:=(x.1.add x.2).scale (x.1.cross x.2)
def QI{α:Type}(f:α->aa)(l:List α):aa:=⟨oH (fun x=>(f x).x) l,oH (fun x=>(f x).y) l⟩
def qF(es:List Int)(a:Nat):Rat×Nat:=
 (if((aB es 6 (aB es 9 a).2).1:Int)=0 then mkRat (2*(((aB es 9 a).1:Int)-4)+1) 2 else if((aB es 6 (aB es 9 a).2).1:Int)=1 then mkRat (3*(((aB es 9 a).1:Int)-4)+1) 3 else(((aB es 9 a).1:Rat)-4:Rat),(aB es 6 (aB es 9 a).2).2)
def F8(es:List Int)(a:Nat):aa×Nat:=(⟨(qF es a).1,(qF es (qF es a).2).1⟩,(qF es (qF es a).2).2)
def zT:ab:=⟨1,0,0⟩
def aKk(es:List Int)(L:List ab)(a:Nat):aa×Nat:=
 if L.length=0 then F8 es a else
 if((aB es 3 (aB es L.length a).2).1:Int)=0 then
  (if crossI (L.getD (aB es L.length a).1 zT) (L.getD (aB es L.length (aB es 3 (aB es L.length a).2).2).1 zT)≠0 then(ge (L.getD (aB es L.length a).1 zT) (L.getD (aB es L.length (aB es 3 (aB es L.length a).2).2).1 zT),(aB es L.length (aB es 3 (aB es L.length a).2).2).2) else F8 es (aB es L.length (aB es 3 (aB es L.length a).2).2).2)
 else if((aB es 3 (aB es L.length a).2).1:Int)=1 then((L.getD (aB es L.length a).1 zT).at (qF es (aB es 3 (aB es L.length a).2).2).1,(qF es (aB es 3 (aB es L.length a).2).2).2) else F8 es (aB es 3 (aB es L.length a).2).2

structure EGV (GB:Gh) (ai al ae au:Addr):Prop extends Nr GB ai al ae au where
 ErrEmpty:GB 4=some [.iface 499 (.pointer (some ae))]
def aJQ(x:aa×aa):Rat:=(x.1.x*x.1.x+x.2.x*x.2.x+(x.1.add x.2).x*(x.1.add x.2).x)*x.1.cross x.2
def aJl(x:aa×aa):Rat:=(x.1.x*x.1.y+x.2.x*x.2.y+(x.1.add x.2).x*(x.1.add x.2).y)*x.1.cross x.2
def U2(x:aa×aa):Rat:=(x.1.y*x.1.y+x.2.y*x.2.y+(x.1.add x.2).y*(x.1.add x.2).y)*x.1.cross x.2
structure aKx (cs:List aF):Prop where
 ed:Sq cs 1200
 cr: ∀x∈q9 (r6 cs),BQ (x.1.cross x.2) 5000
 ar: ∀k,BQ (oH (fun x=>x.1.cross x.2) ((q9 (r6 cs)).take k)) 2000000
 mo: ∀k,aI (QI MY ((q9 (r6 cs)).take k)) 3000000
 sa: ∀k,BQ (oH aJQ ((q9 (r6 cs)).take k)) 4000000
 sb: ∀k,BQ (oH aJl ((q9 (r6 cs)).take k)) 4000000
 sc: ∀k,BQ (oH U2 ((q9 (r6 cs)).take k)) 4000000
def aIR(t:Tr):Rat:=oH (fun x=>x.1.cross x.2) (q9 (r6 (E6 t)))*mkRat 1 2
def aK2(t:Tr):aa:=(QI MY (q9 (r6 (E6 t)))).scale (((1:Int):Rat)/((6:Int):Rat))
def zR0:DV:= .ag [vB false, .sl [], .sl []]
def zP0:DV:= .ag [vB false, .sl [], .sl [],vB false, .sl [], .sl []]
def tw4:Rat:=((1:Int):Rat)/((24:Int):Rat)
def aKv(f:aa×aa->Rat)(t:Tr):Rat:=oH f (q9 (r6 (E6 t)))*tw4
structure DQ (D B:Nat) (x:Rat):Prop where
 ex: ∃n:Int,x*((D:Nat):Rat)=(n:Rat)/\n.natAbs<=B*D
def Wi(l m:ab):Nat:=if crossI l m=0 then 1 else(crossI l m).natAbs
def Uk(K:List ab):List Nat:=K.flatMap fun l=>K.map (Wi l)
def aKj(K:List ab):Nat:=(Uk K).foldr (· * ·) 1
structure DP (D B:Nat) (p:aa):Prop where
 x:DQ D B p.x
 y:DQ D B p.y

def eM(a b c d e f:Rat):DV:= .ag [(.v (.bool (decide ((a).num<0)))),(dN (a).num.natAbs),(dD (a).den),(.v (.bool (decide ((b).num<0)))),(dN (b).num.natAbs),(dD (b).den),(.v (.bool (decide ((c).num<0)))),(dN (c).num.natAbs),(dD (c).den),(.v (.bool (decide ((d).num<0)))),(dN (d).num.natAbs),(dD (d).den),(.v (.bool (decide ((e).num<0)))),(dN (e).num.natAbs),(dD (e).den),(.v (.bool (decide ((f).num<0)))),(dN (f).num.natAbs),(dD (f).den)]
def zq3:List DV:=[.v (.bool (decide ((0:Rat).num<0))),dN (0:Rat).num.natAbs,dD (0:Rat).den]

def UJ:List ZP:=[(0,0),(2,0),(2,2),(0,2)]
def sqT:Tr:=iG [UJ] 2



def aKp(M:List ab)(E:List (aa×aa)):Prop:= ∀f∈E,∃m∈M,m.value f.1=0/\m.value f.2=0
section
variable {rs:List (List ZP)} {fill:Int} {p:aa}
def aKT(rs:List (List ZP))(fill:Int)(p:aa)(b:Bool):Prop:= ∃x,Xh (ER rs) p x/\Sl rs fill p x b
end
section
variable {rs:List (List ZP)} {fill:Int} {L:List ab} {p:aa}
end
def rj(v:av)(t:Rat):Bool:=(v.nl||decide (bO v.lo t<=0))&&(v.nh||decide (0<=bO v.hi t))
def Yg{v:av}{t:Rat}:rj v t=true↔v.has t:=by
 unfold rj av.has;simp only[aN,iR,decide_eq_true_eq,FR,QE]
def qA(f:aH)(p:aa):Bool:=decide (Int.sign (f.l.value p).num=0)&&rj f.v (ey f.l p)
def Xn{f:aH}{p:aa}:qA f p=true↔f.l.value p=0/\f.v.has (ey f.l p):=by
 unfold qA;rw[aN,decide_eq_true_eq,kg,Yg]
def qH(f:aH)(p:aa):Int:=
 if Int.sign f.l.dir.y.num=0\/Int.sign (f.l.value p).num≠Int.sign f.l.dir.y.num then 0
 else if(if Int.sign f.l.dir.y.num<0 then f.v.nh=false/\0<bO (f.l.at f.v.hi).y p.y else f.v.nl=false/\0<bO (f.l.at f.v.lo).y p.y) then 0
 else if(if Int.sign f.l.dir.y.num<0 then f.v.nl=false/\bO (f.l.at f.v.lo).y p.y<=0 else f.v.nh=false/\bO (f.l.at f.v.hi).y p.y<=0) then 0
 else Int.sign f.l.dir.y.num
def io(E:List aH)(p:aa):Int:=E.foldl (fun n f=>n+qH f p) 0
def aBb{v w:ZP}(h:v≠w)(p:aa): ∃g:Rat,0<g/\dw v.q w.q p=g*(dl v w).l.value p/\w.q.y-v.q.y=g*(dl v w).l.dir.y:=by
 obtain⟨g,g0,h1,h2,h3⟩:=K0 h;refine⟨g,g0,?_,by rw[h3];unfold dC;show _=g*(iO v.1 v.2 w.1 w.2).dir.y;dsimp only;grind⟩;show _=g*(iO v.1 v.2 w.1 w.2).value p;rw[h3];generalize iO v.1 v.2 w.1 w.2=l at*;rw[m8] at*;unfold dw dC ab.dir;dsimp only;grind
def VF{v w:ZP}(h:v≠w)(ho:(dl v w).l.ok)(p:aa):qH (dl v w) p=oD v.q w.q p:=by
 obtain⟨e1,e2,e3⟩:=Ej h ho;obtain⟨g,g0,o1,o2⟩:=aBb h p;have b1:(dl v w).v.nl=false:=J;have b2:(dl v w).v.nh=false:=J;have so:(0<dw v.q w.q p↔0<(dl v w).l.value p)/\(dw v.q w.q p<0↔(dl v w).l.value p<0):=by
  rw[o1];constructor
  ·rw[Rat.mul_comm];exact ke g0
  ·have:=ke (s:= -(dl v w).l.value p) g0
   grind
 have sy:(v.q.y<w.q.y↔0<(dl v w).l.dir.y)/\(w.q.y<v.q.y↔(dl v w).l.dir.y<0):=by
  have t1:=ke (s:=(dl v w).l.dir.y) g0;have t2:=ke (s:= -(dl v w).l.dir.y) g0;constructor<;>grind
 unfold qH;rw[b1,b2,e1,e2];simp only[true_and,FR,CB];generalize (dl v w).l.value p=z at*;generalize (dl v w).l.dir.y=u at*;unfold oD;rcases gP u with k|k|k
 ·rw[if_pos (.inl ((kg _).2 k))]
  have: ¬(v.q.y<=p.y/\ ¬w.q.y<=p.y/\0<dw v.q w.q p):=fun q=>by grind
  have: ¬(¬v.q.y<=p.y/\w.q.y<=p.y/\dw v.q w.q p<0):=fun q=>by grind
  rw[if_neg ‹_›,if_neg ‹_›];rfl
 ·have su:Int.sign u.num=1:=(kd _).2 k
  rw[su];have n2: ¬(¬v.q.y<=p.y/\w.q.y<=p.y/\dw v.q w.q p<0):=fun q=>by grind
  rw[if_neg n2];simp only[show¬((1:Int)<0) by decide,if_false,show¬((1:Int)=0) by decide,false_or];by_cases hz:0<z
  ·rw[if_neg (by rw[(kd _).2 hz];simp)]
   by_cases a1:v.q.y<=p.y
   ·rw[if_neg (by grind)]
    by_cases a2:w.q.y<=p.y
    ·rw[if_pos a2,if_neg (by grind)];rfl
    ·rw[if_neg a2,if_pos ⟨a1,a2,so.1.2 hz⟩];rfl
   ·rw[if_pos (by grind),if_neg (by grind)];rfl
  ·rw[if_pos (fun q=>hz ((kd _).1 q)),if_neg (by grind)];rfl
 ·have su:Int.sign u.num= -1:=se k
  rw[su];have n2: ¬(v.q.y<=p.y/\ ¬w.q.y<=p.y/\0<dw v.q w.q p):=fun q=>by grind
  rw[if_neg n2];simp only[show(-1:Int)<0 by decide,if_true,show¬((-1:Int)=0) by decide,false_or];by_cases hz:z<0
  ·rw[if_neg (by rw[se hz];simp)]
   by_cases a1:w.q.y<=p.y
   ·rw[if_neg (by grind)]
    by_cases a2:v.q.y<=p.y
    ·rw[if_pos a2,if_neg (by grind)];rfl
    ·rw[if_neg a2,if_pos ⟨a2,a1,so.2.2 hz⟩];rfl
   ·rw[if_pos (by grind),if_neg (by grind)];rfl
  ·rw[if_pos (fun q=>hz (by
    have h4:Int.sign z.num<0:=by rw[q];decide
    exact(mI _).1 h4)),if_neg (by grind)];rfl
def A7{α:Type}(f:α->Int): ∀(l:List α) (n:Int),l.foldl (fun n x=>n+f x) n=n+l.foldl (fun n x=>n+f x) 0
 |[],n=>by simp
 |a::t,n=>by
  rw[dX,dX,A7 f t (n+f a),A7 f t (0+f a)];omega
def He(E F:List aH)(p:aa):io (E++F) p=io E p+io F p:=by
 unfold io;rw[List.foldl_append,A7]
def TZ{r:List ZP}(hr:dq r)(p:aa):io (eG r) p=py r p:=by
 have key: ∀k,k<=r.length->io (jl r k) p=yP r p k:=by
  intro k
  induction k with
  |zero=>intro _;rfl
  |succ k ih=>
   intro hk;have hm:=H0 (r:=r) (k:=k) (n:=r.length) (by omega);have ho:=((tq hr).2 _ hm).ok;rw[jl,He,ih (by omega),Ag,Ag,jx];have e:io [dl (r.getD k (0,0)) (e7 r k)] p=qH (dl (r.getD k (0,0)) (e7 r k)) p:=by unfold io;simp
   rw[e,VF (hr.ne k (by omega)) ho]
 exact key r.length (aM _)
def QT: ∀{rs:List (List ZP)},(∀r∈rs,dq r)-> ∀p,io (cb rs) p=rs.foldl (fun n r=>n+py r p) 0
 |[],_,p=>rfl
 |r::rs,h,p=>by
  have e:cb (r::rs)=eG r++cb rs:=J;rw[e,He,TZ (h r aQ),QT fun q hq=>h q (aZ _ hq),dX,A7 _ rs (0+py r p)];omega
def Tu(f:aH)(p:aa):Bool:=f.v.nh||decide (bO (ey f.l p) f.v.hi<0)
def loR(f:aH)(p:aa):Bool:=f.v.nl||decide (0<bO (ey f.l p) f.v.lo)
def Tf(p:aa)(f:aH):List aa:=if qA f p then(if Tu f p then [dO f.l.dir] else [])++(if loR f p then [b8 (dO f.l.dir)] else []) else []
def Fw(E:List aH)(p:aa):List aa:=gz (E.flatMap (Tf p))
def Mt(p d q:aa):Rat:=(⟨q.x-p.x,q.y-p.y⟩:aa).dot d/d.dot d
def Uw(a b:Rat):Rat×Bool:=
 if 0<Int.sign b.num/\(¬0<Int.sign a.num\/bO b a<0) then(b,true) else if 0<Int.sign a.num then(a,true) else(0,false)
def IF(f:aH)(p d:aa):Rat×Bool:=
 if f.l.nor.dot d=0 then(if f.l.value p=0 then Uw (Mt p d (f.l.at f.v.lo)) (Mt p d (f.l.at f.v.hi)) else(0,false))
 else(-(f.l.value p/f.l.nor.dot d),decide (0<Int.sign (-(f.l.value p/f.l.nor.dot d)).num)&&rj f.v (ey f.l (dC p d (-(f.l.value p/f.l.nor.dot d)))))
def aIY(p d:aa)(s:Rat)(f:aH):Rat:=if qA f p then s else if(IF f p d).2 then(if(IF f p d).1<s then(IF f p d).1 else s) else s
def Ec(E:List aH)(p d:aa):aa:=dC p d (E.foldl (aIY p d) 1*mkRat 1 2)
def aKt(E:List aH)(p:aa)(acc:aa->Bool):Int:=
 if((i9 (Fw E p)).any fun v=>acc (Ec E p v))&&(i9 (Fw E p)).all (fun v=>acc (Ec E p v)) then 2 else if(i9 (Fw E p)).any fun v=>acc (Ec E p v) then 1 else 0
def Hg{r:List ZP}: ∀{n:Nat} {f:aH},f∈jl r n-> ∃k,k<n/\f=dl (r.getD k (0,0)) (e7 r k)
 |0,f,h=>by simp[jl] at h
 |n+1,f,h=>by
  rw[jl] at h;rcases bS.1 h with h|h
  ·obtain⟨k,h1,h2⟩:=Hg h
   exact⟨k,by omega,h2⟩
  ·exact⟨n,by omega,aY.1 h⟩
def arM{rs:List (List ZP)}(hr: ∀r∈rs,dq r){f:aH}(hf:f∈cb rs): ∃v w:ZP,v≠w/\(dl v w).l.ok/\f=dl v w/\(v.q,w.q)∈ER rs:=by
 obtain⟨r,h1,h2⟩:=gK.1 hf;have ho:=((tq (hr r h1)).2 _ h2).ok;obtain⟨k,hk,rfl⟩:=Hg h2;exact⟨_,_,(hr r h1).ne k hk,ho,J,gK.2 ⟨r,h1,bV.2 ⟨k,nQ.2 hk,J⟩⟩⟩
section
variable {rs:List (List ZP)} {fill:Int} {p:aa}
end
def cC(lo hi:Rat):av:=⟨lo,hi,false,false⟩
def ql{lo hi x:Rat}:nD [cC lo hi] x=decide (lo<x/\x<hi):=by
 rw[nU,wV,decide_eq_true_eq];simp[cC,av.ins]
def zQ{t x:Rat}:nD [⟨t,0,false,true⟩] x=decide (t<x):=by
 rw[nU,wV,decide_eq_true_eq];simp[av.ins]
def yS{t x:Rat}:nD [⟨0,t,true,false⟩] x=decide (x<t):=by
 rw[nU,wV,decide_eq_true_eq];simp[av.ins]
def qf{a b:List av}{cuts:List Rat}{marks:List Bool}{out:List av}(h1:gA (a++b)=cuts)(h2:(cE cuts).map (fun t=>nD a t&&nD b t)=marks)(h3:l9 cuts marks=out):i7 2 a b=out:=by
 unfold i7;rw[h1,<-h3,<-h2];rfl
def Tm{lo hi:Rat}(h:lo<hi):i7 2 [cC lo hi] [av.all]=[cC lo hi]:=by
 refine qf (cuts:=[lo,hi]) (marks:=[false,true,false]) (by simp[gA,iH,cC,av.all,eE,h]) ?_ (by simp[l9,iC,gl,cC]);have b: ∀x,nD [av.all] x=true:=fun x=>wV.2 ⟨.inl J, .inl J⟩;simp only[cE,fe,bW,eK,cK,cY,ql,b,Bool.and_true];simp only[gM,gN,List.cons.injEq,decide_eq_false_iff_not,decide_eq_true_eq,and_true];exact⟨by grind,by grind,by grind⟩
def WM(v:av):i7 2 [v] []=[]:=by
 unfold i7 l9;have key: ∀(cuts:List Rat) (m:List Bool),(∀x∈m,x=false)-> ∀k,iC cuts m k=[]:=fun cuts m hm k=>by
  induction k with
  |zero=>rfl
  |succ k ih=>
   rw[iC,ih];have:m.getD k false=false:=by
    rw[aK]
    cases e:m[k]? with
    |none=>rfl
    |some x=>exact hm x (aS e)
   rw[this];rfl
 refine key _ _ (fun x hx=>?_) _;obtain⟨t,_,rfl⟩:=bV.1 hx;have:nD [] t=false:=by unfold nD AC;decide
 rw[this];simp[F1]
def XE{lo hi t:Rat}(h:lo<hi)(k:t<lo):i7 2 [cC lo hi] [⟨t,0,false,true⟩]=[cC lo hi]:=by
 refine qf (cuts:=[t,lo,hi]) (marks:=[false,false,true,false]) ?_ ?_ (by simp[l9,iC,gl,qo,cC])
 ·simp only[gA,iH,cC,cK,cY,dX,lY,if_true,dJ,if_false,eE]
  grind [eE]
 ·simp only[cE,fe,bW,eK,cK,cY,ql,zQ]
  simp only[gM,gN,List.cons.injEq,iY,aN,decide_eq_false_iff_not,decide_eq_true_eq,and_true];exact⟨by grind,by grind,by grind,by grind⟩
def RP{lo hi t:Rat}(h:lo<hi)(k:t=lo):i7 2 [cC lo hi] [⟨t,0,false,true⟩]=[cC lo hi]:=by
 refine qf (cuts:=[lo,hi]) (marks:=[false,true,false]) ?_ ?_ (by simp[l9,iC,gl,qo,cC])
 ·simp only[gA,iH,cC,cK,cY,dX,lY,if_true,dJ,if_false,eE]
  grind [eE]
 ·simp only[cE,fe,bW,eK,cK,cY,ql,zQ]
  simp only[gM,gN,List.cons.injEq,iY,aN,decide_eq_false_iff_not,decide_eq_true_eq,and_true];exact⟨by grind,by grind,by grind⟩
def aGZ{lo hi t:Rat}(h:lo<hi)(k:lo<t)(k2:t<hi):i7 2 [cC lo hi] [⟨t,0,false,true⟩]=[cC t hi]:=by
 refine qf (cuts:=[lo,t,hi]) (marks:=[false,false,true,false]) ?_ ?_ (by simp[l9,iC,gl,qo,cC])
 ·simp only[gA,iH,cC,cK,cY,dX,lY,if_true,dJ,if_false,eE]
  grind [eE]
 ·simp only[cE,fe,bW,eK,cK,cY,ql,zQ]
  simp only[gM,gN,List.cons.injEq,iY,aN,decide_eq_false_iff_not,decide_eq_true_eq,and_true];exact⟨by grind,by grind,by grind,by grind⟩
def V6{lo hi t:Rat}(h:lo<hi)(k:t=hi):i7 2 [cC lo hi] [⟨t,0,false,true⟩]=[]:=by
 refine qf (cuts:=[lo,hi]) (marks:=[false,false,false]) ?_ ?_ (by simp[l9,iC,gl,qo,cC])
 ·simp only[gA,iH,cC,cK,cY,dX,lY,if_true,dJ,if_false,eE]
  grind [eE]
 ·simp only[cE,fe,bW,eK,cK,cY,ql,zQ]
  simp only[gM,gN,List.cons.injEq,iY,aN,decide_eq_false_iff_not,decide_eq_true_eq,and_true];exact⟨by grind,by grind,by grind⟩
def ZV{lo hi t:Rat}(h:lo<hi)(k:hi<t):i7 2 [cC lo hi] [⟨t,0,false,true⟩]=[]:=by
 refine qf (cuts:=[lo,hi,t]) (marks:=[false,false,false,false]) ?_ ?_ (by simp[l9,iC,gl,qo,cC])
 ·simp only[gA,iH,cC,cK,cY,dX,lY,if_true,dJ,if_false,eE]
  grind [eE]
 ·simp only[cE,fe,bW,eK,cK,cY,ql,zQ]
  simp only[gM,gN,List.cons.injEq,iY,aN,decide_eq_false_iff_not,decide_eq_true_eq,and_true];exact⟨by grind,by grind,by grind,by grind⟩
def Wr{lo hi t:Rat}(h:lo<hi)(k:t<lo):i7 2 [cC lo hi] [⟨0,t,true,false⟩]=[]:=by
 refine qf (cuts:=[t,lo,hi]) (marks:=[false,false,false,false]) ?_ ?_ (by simp[l9,iC,gl,qo,cC])
 ·simp only[gA,iH,cC,cK,cY,dX,lY,if_true,dJ,if_false,eE]
  grind [eE]
 ·simp only[cE,fe,bW,eK,cK,cY,ql,yS]
  simp only[gM,gN,List.cons.injEq,iY,aN,decide_eq_false_iff_not,decide_eq_true_eq,and_true];exact⟨by grind,by grind,by grind,by grind⟩
def VD{lo hi t:Rat}(h:lo<hi)(k:t=lo):i7 2 [cC lo hi] [⟨0,t,true,false⟩]=[]:=by
 refine qf (cuts:=[lo,hi]) (marks:=[false,false,false]) ?_ ?_ (by simp[l9,iC,gl,qo,cC])
 ·simp only[gA,iH,cC,cK,cY,dX,lY,if_true,dJ,if_false,eE]
  grind [eE]
 ·simp only[cE,fe,bW,eK,cK,cY,ql,yS]
  simp only[gM,gN,List.cons.injEq,iY,aN,decide_eq_false_iff_not,decide_eq_true_eq,and_true];exact⟨by grind,by grind,by grind⟩
def aF4{lo hi t:Rat}(h:lo<hi)(k:lo<t)(k2:t<hi):i7 2 [cC lo hi] [⟨0,t,true,false⟩]=[cC lo t]:=by
 refine qf (cuts:=[lo,t,hi]) (marks:=[false,true,false,false]) ?_ ?_ (by simp[l9,iC,gl,qo,cC])
 ·simp only[gA,iH,cC,cK,cY,dX,lY,if_true,dJ,if_false,eE]
  grind [eE]
 ·simp only[cE,fe,bW,eK,cK,cY,ql,yS]
  simp only[gM,gN,List.cons.injEq,iY,aN,decide_eq_false_iff_not,decide_eq_true_eq,and_true];exact⟨by grind,by grind,by grind,by grind⟩
def SO{lo hi t:Rat}(h:lo<hi)(k:t=hi):i7 2 [cC lo hi] [⟨0,t,true,false⟩]=[cC lo hi]:=by
 refine qf (cuts:=[lo,hi]) (marks:=[false,true,false]) ?_ ?_ (by simp[l9,iC,gl,qo,cC])
 ·simp only[gA,iH,cC,cK,cY,dX,lY,if_true,dJ,if_false,eE]
  grind [eE]
 ·simp only[cE,fe,bW,eK,cK,cY,ql,yS]
  simp only[gM,gN,List.cons.injEq,iY,aN,decide_eq_false_iff_not,decide_eq_true_eq,and_true];exact⟨by grind,by grind,by grind⟩
def TC{lo hi t:Rat}(h:lo<hi)(k:hi<t):i7 2 [cC lo hi] [⟨0,t,true,false⟩]=[cC lo hi]:=by
 refine qf (cuts:=[lo,hi,t]) (marks:=[false,true,false,false]) ?_ ?_ (by simp[l9,iC,gl,qo,cC])
 ·simp only[gA,iH,cC,cK,cY,dX,lY,if_true,dJ,if_false,eE]
  grind [eE]
 ·simp only[cE,fe,bW,eK,cK,cY,ql,yS]
  simp only[gM,gN,List.cons.injEq,iY,aN,decide_eq_false_iff_not,decide_eq_true_eq,and_true];exact⟨by grind,by grind,by grind,by grind⟩
def Ce(a b:Rat):a<b\/a=b\/b<a:=by grind
def splitP(f:aH)(m:ab):List aH:=if f.l.cutB f.v m then [⟨f.l,f.l.cutV f.v m⟩] else []
structure gk (f:aH):Prop where
 ok:f.l.ok
 nl:f.v.nl=false
 nh:f.v.nh=false
 lt:f.v.lo<f.v.hi
def gk.seg{f:aH}(h:gk f):f.v=cC f.v.lo f.v.hi:=by
 have h1:=h.nl;have h2:=h.nh;unfold cC
 cases hv:f.v with
 |mk a b c d=>rw[hv] at h1 h2;simp_all
def gk.pos{f:aH}(h:gk f):f.v.Pos:= .inr (.inr h.lt)
def OH{lo hi:Rat}:(cC lo hi).Pos↔lo<hi:=by unfold av.Pos cC;simp
def Pj{lo hi t:Rat}:(cC lo hi).meet ⟨t,0,false,true⟩=cC (if lo<t then t else lo) hi:=by simp[av.meet,cC];rfl
def Qz{lo hi t:Rat}:(cC lo hi).meet ⟨0,t,true,false⟩=cC lo (if t<hi then t else hi):=by simp[av.meet,cC];rfl
def aBG{lo hi t:Rat}(h:lo<hi):i7 2 [cC lo hi] [⟨t,0,false,true⟩]=if(if lo<t then t else lo)<hi then [cC (if lo<t then t else lo) hi] else []:=by
 rcases Ce t lo with k|k|k
 ·rw[XE h k,if_neg (show¬lo<t by grind),if_pos h]
 ·rw[RP h k,if_neg (show¬lo<t by grind),if_pos h]
 ·rw[if_pos k]
  rcases Ce t hi with k2|k2|k2
  ·rw[aGZ h k k2,if_pos k2]
  ·rw[V6 h k2,if_neg (by grind)]
  ·rw[ZV h k2,if_neg (by grind)]
def aCp{lo hi t:Rat}(h:lo<hi):i7 2 [cC lo hi] [⟨0,t,true,false⟩]=if lo<(if t<hi then t else hi) then [cC lo (if t<hi then t else hi)] else []:=by
 rcases Ce t hi with k|k|k
 ·rw[if_pos k]
  rcases Ce t lo with k2|k2|k2
  ·rw[Wr h k2,if_neg (by grind)]
  ·rw[VD h k2,if_neg (by grind)]
  ·rw[aF4 h k2 k,if_pos k2]
 ·rw[SO h k,if_neg (show¬t<hi by grind),if_pos h]
 ·rw[TC h k,if_neg (show¬t<hi by grind),if_pos h]
def YC(l m:ab):l.cutK m.rev= -l.cutK m:=by unfold ab.cutK ab.rev ab.nor ab.dir aa.dot;dsimp only;push_cast;grind
def Yv(l m:ab):l.cutC m.rev= -l.cutC m:=ij m l.base
def aFv(a b:Rat): -a/ -b=a/b:=by grind
def JV{f:aH}(h:gk f){m:ab}{side:Int}(hs:side=1\/side= -1):j' f m side=splitP f (if side=1 then m else m.rev):=by
 obtain⟨M,hM⟩: ∃M,M=(if side=1 then m else m.rev):=⟨_,rfl⟩;have hK:f.l.cutK M=(side:Rat)*f.l.cutK m:=by
  rcases hs with rfl|rfl
  ·rw[hM,if_pos J];grind
  ·rw[hM,if_neg (by decide),YC];grind
 have hC:f.l.cutC M=(side:Rat)*f.l.cutC m:=by
  rcases hs with rfl|rfl
  ·rw[hM,if_pos J];grind
  ·rw[hM,if_neg (by decide),Yv];grind
 have hq:f.l.cutC M/f.l.cutK M=f.l.cutC m/f.l.cutK m:=by
  rw[hK,hC];rcases hs with rfl|rfl
  ·grind
  ·rw[show((-1:Int):Rat)*f.l.cutC m= -f.l.cutC m by grind,show((-1:Int):Rat)*f.l.cutK m= -f.l.cutK m by grind,aFv]
 rw[<-hM];have hseg:=h.seg;have hlt:=h.lt;unfold j' splitP tU uF;by_cases hc:crossI f.l m=0
 ·have k0:f.l.cutK m=0:=Hh hc
  have kM:f.l.cutK M=0:=by rw[hK,k0];grind
  obtain⟨e1,e2⟩:=xQ (l:=f.l) (m:=M) f.v kM;by_cases c0:f.l.cutC m=0
  ·rw[if_pos (decide_eq_true ⟨hc,(kg _).2 c0⟩),if_neg (fun e=>by have:=e2.1 e;rw[hC,c0] at this;grind)]
  ·rw[if_neg (by rw[decide_eq_true_eq];exact fun e=>c0 ((kg _).1 e.2)),if_pos hc]
   by_cases g:(m.value f.l.base).num.sign=side
   ·have:0<f.l.cutC M:=by
     rw[hC];rcases hs with rfl|rfl
     ·have:=(kd _).1 g;show 0<((1:Int):Rat)*m.value f.l.base;grind
     ·have:=(mI (m.value f.l.base)).1 (by omega);show 0<((-1:Int):Rat)*m.value f.l.base;grind
    rw[if_pos g,if_pos (e2.2 this),e1,hseg,Tm hlt];rfl
   ·have: ¬0<f.l.cutC M:=fun e=>g (Kq hs (by rw[hC] at e;exact e))
    rw[if_neg g,if_neg (fun e=>this (e2.1 e)),WM];rfl
 ·rw[if_neg (by rw[decide_eq_true_eq];exact fun e=>hc e.1),if_neg hc]
  have hp:=yf h.ok.ne hc;have hne:f.l.cutK m≠0:=fun e=>by
   rw[Ap] at e;have:(crossI f.l m:Rat)=0:=by grind
   exact hc (cW.1 this)
  have hv1:m.value (f.l.at (ey f.l (ge f.l m)+1))=f.l.cutK m:=by rw[nH,hp];grind
  rw[hv1,hp];by_cases g:(f.l.cutK m).num.sign=side
  ·have kM:0<f.l.cutK M:=by
    rw[hK];rcases hs with rfl|rfl
    ·have:=(kd _).1 g;grind
    ·have:=(mI (f.l.cutK m)).1 (by omega);grind
   obtain⟨e1,e2⟩:=yN (l:=f.l) (m:=M) f.v kM;rw[if_pos g,e1] at*;rw[hq,hseg,Pj,OH] at e2;rw[hq,hseg,Pj,aBG hlt];by_cases q:(if f.v.lo< -(f.l.cutC m/f.l.cutK m) then-(f.l.cutC m/f.l.cutK m) else f.v.lo)<f.v.hi
   ·rw[if_pos q,if_pos (e2.2 q)];rfl
   ·rw[if_neg q,if_neg (fun e=>q (e2.1 e))];rfl
  ·have kM:f.l.cutK M<0:=by
    rw[hK];rcases gP (f.l.cutK m) with k|k|k
    ·exact absurd k hne
    ·rcases hs with rfl|rfl
     ·exact absurd ((kd _).2 k) g
     ·grind
    ·rcases hs with rfl|rfl
     ·grind
     ·exact absurd (by have:=(mI (f.l.cutK m)).2 k;have:=qK (f.l.cutK m).num;omega) g
   obtain⟨e1,e2⟩:=xH (l:=f.l) (m:=M) f.v kM;rw[if_neg g,e1] at*;rw[hq,hseg,Qz,OH] at e2;rw[hq,hseg,Qz,aCp hlt];by_cases q:f.v.lo<(if-(f.l.cutC m/f.l.cutK m)<f.v.hi then-(f.l.cutC m/f.l.cutK m) else f.v.hi)
   ·rw[if_pos q,if_pos (e2.2 q)];rfl
   ·rw[if_neg q,if_neg (fun e=>q (e2.1 e))];rfl
def gv(acc:aa->Bool):Nat->List aH->aF->Tr
 |_,[],c=> .leaf (acc (p6 c))
 |0,_::_,_=> .leaf false
 |n+1,f::t,c=> .node f.l (gv acc n ((f::t).flatMap fun g=>splitP g f.l) (bF c f.l)) (gv acc n ((f::t).flatMap fun g=>splitP g f.l.rev) (bF c f.l.rev))
def Tr.like:Tr->Tr->Prop
 | .leaf _, .leaf _=>True
 | .node l x y, .node m u v=>l=m/\x.like u/\y.like v
 |_,_=>False
def gk.cut{f:aH}(h:gk f){m:ab}(hb:f.l.cutB f.v m=true):gk ⟨f.l,f.l.cutV f.v m⟩:=by
 have hp:=ym h.pos hb;have e:(f.l.cutV f.v m).nl=false/\(f.l.cutV f.v m).nh=false:=by
  have h1:=h.nl;have h2:=h.nh;unfold ab.cutV;split
  ·exact⟨h1,h2⟩
  ·split<;>simp[av.meet,h1,h2]
 refine⟨h.ok,e.1,e.2,?_⟩;rcases hp with h|h|h
 ·rw[e.1] at h;cases h
 ·rw[e.2] at h;cases h
 ·exact h
def gk.split{f g:aH}(h:gk f){m:ab}(hg:g∈splitP f m):gk g:=by
 unfold splitP at hg;split at hg
 ·rename_i hb
  rw[aY] at hg;subst hg;exact h.cut hb
 ·cases hg
def Et{l:List aH}(h: ∀f∈l,gk f)(m:ab):l.flatMap (fun g=>j' g m 1)=l.flatMap (fun g=>splitP g m)/\l.flatMap (fun g=>j' g m (-1))=l.flatMap (fun g=>splitP g m.rev):=by
 induction l with
 |nil=>exact⟨J,J⟩
 |cons f t ih=>
  obtain⟨i1,i2⟩:=ih fun g hg=>h g (aZ _ hg);have hf:=h f aQ;refine⟨?_,?_⟩
  ·rw[lW,lW,i1,JV hf (.inl J),if_pos J]
  ·rw[lW,lW,i2,JV hf (.inr J),if_neg (by decide)]
def gk.splits{l:List aH}(h: ∀f∈l,gk f)(m:ab): ∀g∈l.flatMap (fun g=>splitP g m),gk g:=fun g hg=>by
 obtain⟨f,hf,hg⟩:=gK.1 hg;exact(h f hf).split hg
def ES{a b:aa->Bool}: ∀{n:Nat} {l:List aH} {c:aF} {d:List ab},(∀f∈l,gk f)->(gv a n l c).like (km b n l d)
 |n,[],c,d,_=>by cases n<;>exact trivial
 |0,f::t,c,d,_=>trivial
 |n+1,f::t,c,d,h=>by
  rw[gv,km];obtain⟨e1,e2⟩:=Et h f.l;refine⟨J,?_,?_⟩
  ·rw[e1];exact ES (gk.splits h f.l)
  ·rw[e2];exact ES (gk.splits h f.l.rev)
def Tr.like_lns: ∀{t u:Tr},t.like u->t.lns=u.lns
 | .leaf _, .leaf _,_=>rfl
 | .node l x y, .node m u v,⟨h,h1,h2⟩=>by rw[Tr.lns,Tr.lns,h,Tr.like_lns h1,Tr.like_lns h2]
def zA{M:List ab}(hM: ∀l∈M,l.ok): ∀{t u:Tr} {c:aF},t.like u->(∀l∈t.lns,l∈M)->d8 c->(∀p,bP c p->f5 M p->t.val p=u.val p)->t.restrict c=u.restrict c
 | .leaf a, .leaf b,c,_,_,hc,hv=>by
  obtain⟨p,hp,ho⟩:=RM hc M hM;have:=hv p hp ho;rw[Tr.val,Tr.val] at this;rw[this]
 | .node l x y, .node m u v,c,⟨e,h1,h2⟩,hl,hc,hv=>by
  subst e;have hlM:=hl l aQ;have hx: ∀m∈x.lns,m∈M:=fun m hm=>hl m (aZ _ (cJ _ hm));have hy: ∀m∈y.lns,m∈M:=fun m hm=>hl m (aZ _ (cV _ hm));have hok:=hM l hlM
  cases hb:cP c l.rev with
  |false=>
   rw[Tr.restrict_A _ _ hb,Tr.restrict_A _ _ hb];refine zA hM h1 hx hc fun p hp ho=>?_;have q:=OC hc hok hb hp (ho l hlM);have:=hv p hp ho;rwa [Tr.val_pos q,Tr.val_pos q] at this
  |true=>
   cases hb2:cP c l with
   |false=>
    rw[Tr.restrict_B _ _ hb hb2,Tr.restrict_B _ _ hb hb2];refine zA hM h2 hy hc fun p hp ho=>?_;have q:=Oc hc hok hb2 hp;have:=hv p hp ho;rwa [Tr.val_neg q,Tr.val_neg q] at this
   |true=>
    obtain⟨g1,i1⟩:=kC hc hok hb2;obtain⟨g2,i2⟩:=kC hc hok.rev hb;rw[Tr.restrict_C _ _ hb hb2,Tr.restrict_C _ _ hb hb2];congr 1
    ·refine zA hM h1 hx g1 fun p hp ho=>?_
     obtain⟨a1,a2⟩:=(i1 p).1 hp;have:=hv p a1 ho;rwa [Tr.val_pos a2,Tr.val_pos a2] at this
    ·refine zA hM h2 hy g2 fun p hp ho=>?_
     obtain⟨a1,a2⟩:=(i2 p).1 hp;rw[ij] at a2;have:=hv p a1 ho;rwa [Tr.val_neg (by grind),Tr.val_neg (by grind)] at this
def Tr.Prp:Tr->aF->Prop
 | .leaf _,_=>True
 | .node l x y,c=>cP c l=true/\cP c l.rev=true/\x.Prp (bF c l)/\y.Prp (bF c l.rev)
def NX{c:aF}(hc:d8 c){l:ab}(hl:l.ok){p:aa}(hp:bP c p)(h0:l.value p=0):cP c l=true/\cP c l.rev=true:=by
 have hn:=pP hl.ne;obtain⟨e,he,hm⟩:=hp.open l.nor;obtain⟨f,hf,hk⟩:=hp.open (b8 l.nor);have hn2:l.nor.dot (b8 l.nor)= -(l.nor.dot l.nor):=by unfold b8 aa.dot;dsimp only;grind
 refine⟨(sr hc hl).2 ⟨_,hm e (by grind) (by grind),?_⟩,(sr hc hl.rev).2 ⟨_,hk f (by grind) (by grind),?_⟩⟩
 ·rw[jG,h0];have:=ce he hn;grind
 ·rw[ij,jG,h0,hn2];have:=ce hf hn;grind
def wu(l:List aH)(c:aF):Prop:= ∀f∈l,∀t,f.v.ins t->bP c (f.l.at t)
def wu.split{l:List aH}{c:aF}(h:wu l c){m:ab}(i1: ∀p,bP (bF c m) p↔bP c p/\0<m.value p):wu (l.flatMap fun g=>splitP g m) (bF c m):=fun g hg t ht=>by
 obtain⟨f,hf,hg⟩:=gK.1 hg;unfold splitP at hg;split at hg
 ·rename_i hb
  rw[aY] at hg;subst hg;obtain⟨k1,k2⟩:=(Cd hb t).1 ht;exact(i1 _).2 ⟨h f hf t k1,k2⟩
 ·cases hg
def wu.cross{f:aH}{t:List aH}{c:aF}(h:wu (f::t) c)(hf:gk f)(hc:d8 c):cP c f.l=true/\cP c f.l.rev=true:=by
 have hs:f.v.ins (CI f.v):=Rh hf.pos;exact NX hc hf.ok (h f aQ _ hs) (sP hf.ok.ne _)
def HR{acc:aa->Bool}: ∀{n:Nat} {l:List aH} {c:aF},(∀f∈l,gk f)->d8 c->wu l c->(gv acc n l c).Prp c
 |n,[],c,_,_,_=>by cases n<;>exact trivial
 |0,f::t,c,_,_,_=>trivial
 |n+1,f::t,c,h,hc,hl=>by
  rw[gv];have hf:=h f aQ;obtain⟨b1,b2⟩:=hl.cross hf hc;obtain⟨g1,i1⟩:=kC hc hf.ok b1;obtain⟨g2,i2⟩:=kC hc hf.ok.rev b2;exact⟨b1,b2,HR (gk.splits h _) g1 (hl.split i1),HR (gk.splits h _) g2 (hl.split i2)⟩
def C5(E:List aH)(c:aF)(l:List aH):Prop:= ∀e∈E,∀t,e.v.ins t->bP c (e.l.at t)-> ∃f∈l,f.l=e.l/\f.v.ins t
def C5.split{E l:List aH}{c:aF}(h:C5 E c l)(hs: ∀f∈l,gk f){m:ab}(i1: ∀p,bP (bF c m) p↔bP c p/\0<m.value p):C5 E (bF c m) (l.flatMap fun g=>splitP g m):=fun e he t ht hin=>by
 obtain⟨h1,h2⟩:=(i1 _).1 hin;obtain⟨f,hf,ef,hft⟩:=h e he t ht h1;have hb:f.l.cutB f.v m=true:=by
  cases q:f.l.cutB f.v m with
  |true=>rfl
  |false=>
   have:=AS (hs f hf).pos q hft.has;rw[ef] at this;exact absurd this (by grind)
 refine⟨⟨f.l,f.l.cutV f.v m⟩,gK.2 ⟨f,hf,by unfold splitP;rw[if_pos hb];exact aY.2 J⟩,ef,?_⟩;exact(Cd hb t).2 ⟨hft,by rw[ef];exact h2⟩
structure FS (f:aH):Prop where
 fo:pA f
 sg:gk f
def FS.splits{l:List aH}(h: ∀f∈l,FS f){m:ab}(hm:LB m):(∀g∈l.flatMap (fun g=>splitP g m),FS g)/\ ∀g∈l.flatMap (fun g=>splitP g m.rev),FS g:=by
 obtain⟨e1,e2⟩:=Et (fun f hf=>(h f hf).sg) m;refine⟨fun g hg=>⟨?_,gk.splits (fun f hf=>(h f hf).sg) m g hg⟩,fun g hg=>⟨?_,gk.splits (fun f hf=>(h f hf).sg) m.rev g hg⟩⟩
 ·rw[<-e1] at hg
  obtain⟨q,hq,hg⟩:=gK.1 hg;exact(Dq (h q hq).fo hm g hg).1
 ·rw[<-e2] at hg
  obtain⟨q,hq,hg⟩:=gK.1 hg;exact(Dq (h q hq).fo hm g hg).1
def nj.splitP{n:Nat}{f:aH}{t:List aH}(h:nj (n+1) (f::t))(hok: ∀g∈f::t,FS g):nj n ((f::t).flatMap fun g=>splitP g f.l)/\nj n ((f::t).flatMap fun g=>splitP g f.l.rev):=by
 obtain⟨e1,e2⟩:=Et (fun f hf=>(hok f hf).sg) f.l;rw[<-e1,<-e2];exact⟨h.split (fun g hg=>(hok g hg).fo),h.split (fun g hg=>(hok g hg).fo)⟩
def nj.no{f:aH}{t:List aH}(h:nj 0 (f::t)):False:=by
 obtain⟨K,hK,hs⟩:=h;obtain⟨m,hm,_⟩:=hs f aQ;rw[bT (show K.length=0 by omega)] at hm;cases hm
def Ff{acc:aa->Bool}{E:List aH}(ha: ∀(c:aF) (q p:aa),(∀e∈E,∀t,e.v.ins t-> ¬bP c (e.l.at t))->bP c q->bP c p->acc q=acc p): ∀{n:Nat} {l:List aH} {c:aF} {p:aa},(∀f∈l,FS f)->nj n l->d8 c->wu l c->C5 E c l->bP c p->f5 (gv acc n l c).lns p->(gv acc n l c).val p=acc p
 |n,[],c,p,_,_,hc,_,hcov,hp,_=>by
  have e:gv acc n [] c= .leaf (acc (p6 c)):=by cases n<;>rfl
  rw[e,Tr.val];exact ha c _ _ (fun e he t ht hin=>by obtain⟨f,hf,_⟩:=hcov e he t ht hin;cases hf) (Vi hc) hp
 |0,f::t,_,_,_,hf,_,_,_,_,_=>hf.no.elim
 |n+1,f::t,c,p,hok,hf,hc,hl,hcov,hp,hoff=>by
  have fo:=hok f aQ;have hsg:=fun g hg=>(hok g hg).sg;obtain⟨k1,k2⟩:=FS.splits hok fo.fo.lb;obtain⟨w1,w2⟩:=hf.splitP hok;obtain⟨b1,b2⟩:=hl.cross fo.sg hc;obtain⟨g1,i1⟩:=kC hc fo.sg.ok b1;obtain⟨g2,i2⟩:=kC hc fo.sg.ok.rev b2;rw[gv] at hoff⊢;by_cases q:0<f.l.value p
  ·rw[Tr.val_pos q]
   exact Ff ha k1 w1 g1 (hl.split i1) (hcov.split hsg i1) ((i1 p).2 ⟨hp,q⟩) hoff.x
  ·rw[Tr.val_neg q]
   have:=hoff.l;exact Ff ha k2 w2 g2 (hl.split i2) (hcov.split hsg i2) ((i2 p).2 ⟨hp,by rw[ij];grind⟩) hoff.y
def Wv{v w:ZP}(h:v≠w)(ho:(dl v w).l.ok):gk (dl v w):=⟨ho,J,J,(Ej h ho).2.2⟩
def Aq{rs:List (List ZP)}(hr: ∀r∈rs,dq r): ∀f∈cb rs,FS f:=fun f hf=>by
 have h2:=(ng hr).2 f hf;obtain⟨v,w,hn,ho,rfl,_⟩:=arM hr hf;exact⟨h2,Wv hn ho⟩
def DZ(rs:List (List ZP)):nj (cb rs).length (cb rs):=⟨(cb rs).map (·.l),by rw[aJ];exact aM _,fun f hf=>⟨f.l,gS hf, .inl J⟩⟩
def H3{c:aF}{p:aa}:bP c p↔fp (c.map fun s=>s.l) p:=by
 unfold bP fp;constructor
 ·intro h m hm
  obtain⟨s,hs,rfl⟩:=bV.1 hm;exact h s hs
 ·intro h s hs
  exact h s.l (gS hs)
def kt(rs:List (List ZP))(fill:Int):Tr:=gv (jb rs fill) (cb rs).length (cb rs) []
def WA{rs:List (List ZP)}{fill:Int}(hr: ∀r∈rs,dq r){p:aa}(ho:f5 (kt rs fill).lns p):(kt rs fill).val p=jb rs fill p:=
 Ff (E:=cb rs) (fun c q p hno hq hp=>Lj hr (c:=c.map fun s=>s.l) (fun e he t ht hin=>hno e he t ht (H3.2 hin)) (H3.1 hq) (H3.1 hp)) (Aq hr) (DZ rs) d8.nil (fun f hf t ht s hs=>by cases hs) (fun e he t ht _=>⟨e,he,J,ht⟩) (fun s hs=>by cases hs) ho
def YL{rs:List (List ZP)}{fill:Int}(hr: ∀r∈rs,dq r){p:aa}(ho:f5 (o4 rs fill).lns p):(o4 rs fill).val p=jb rs fill p:=by
 rw[<-Qd hr ho];unfold iG;rw[Tr.val_restrict (o4 rs fill) [] p (rF fun f hf=>((ng hr).2 f hf).ok) d8.nil (fun s hs=>by cases hs) ho]
def QL{rs:List (List ZP)}{fill:Int}(hr: ∀r∈rs,dq r):(kt rs fill).like (o4 rs fill)/\(kt rs fill).Prp []/\(kt rs fill).all ab.ok:=by
 have hl:(kt rs fill).like (o4 rs fill):=ES fun f hf=>(Aq hr f hf).sg;refine⟨hl,HR (fun f hf=>(Aq hr f hf).sg) d8.nil (fun f hf t ht s hs=>by cases hs),?_⟩;have hk:(o4 rs fill).all ab.ok:=rF fun f hf=>((ng hr).2 f hf).ok;rw[qr,Tr.like_lns hl,<-qr];exact hk
def Yp{rs:List (List ZP)}{fill:Int}(hr: ∀r∈rs,dq r):(kt rs fill).restrict []=iG rs fill:=by
 obtain⟨h1,h2,h3⟩:=QL (fill:=fill) hr;unfold iG;refine zA (M:=(kt rs fill).lns) (qr.1 h3) h1 (fun l hl=>hl) d8.nil fun p hp ho=>?_;rw[WA hr ho,YL hr (by rw[<-Tr.like_lns h1];exact ho)]
end Go.Sx
end
