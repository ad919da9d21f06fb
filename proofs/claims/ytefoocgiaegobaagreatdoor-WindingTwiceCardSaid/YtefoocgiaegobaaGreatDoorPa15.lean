import Derived.Test.YtefoocgiaegobaaGreatDoorPa14
set_option linter.all false
set_option maxRecDepth 100000
section
namespace Go.Sx
open Go Go.Proofs Tryz
variable {GB:Gh}
def EE{l:ab}: ∀{c:List ab} {v:aB},(nE l c v).2=true->gE l c v=some (nE l c v).1
 |[],v,_=>rfl
 |m::t,v,h=>by
  rw[nE] at h⊢;rw[gE];split
  ·rename_i e;rw[if_pos e] at h;exact EE h
  ·rename_i e
   rw[if_neg e] at h;split
   ·rename_i k;rw[if_pos k] at h;exact EE h
   ·rename_i k;rw[if_neg k] at h;cases h
def X1{v:aB}(h:v.Pos):v.ins (FZ v):=by
 obtain⟨lo,hi,nl,nh⟩:=v;unfold aB.Pos at h;unfold FZ aB.ins
 cases nl<;>cases nh<;>simp at* <;>grind
def I7{p v:aa}: ∀{c:List ab} {s:Rat},0<s->0<tF p v c s/\tF p v c s<=s/\ ∀m∈c,0<m.value p->m.nor.dot v<0->tF p v c s<= -(m.value p/m.nor.dot v)/2
 |[],s,h=>⟨h,dV,fun m hm=>by cases hm⟩
 |m::t,s,h=>by
  have hk:m.value (bc p v ((1:Int):Rat))-m.value p=m.nor.dot v:=by rw[ic];grind
  have key:0<xO p v m s/\xO p v m s<=s/\(0<m.value p->m.nor.dot v<0->xO p v m s<= -(m.value p/m.nor.dot v)/2):=by
   unfold xO AZ;simp only[hk,jk,jF,vU];split
   ·rename_i e;exact⟨h,dV,fun _ k=>by rw[e] at k;exact absurd k (by decide)⟩
   ·split
    ·rename_i e;exact⟨h,dV,fun k=>by rw[e] at k;exact absurd k (by decide)⟩
    ·split
     ·rename_i e
      split
      ·exact⟨by grind,by grind,fun _ _=>dV⟩
      ·exact⟨h,dV,fun _ _=>by grind⟩
     ·rename_i e
      exact⟨h,dV,fun k1 k2=>absurd (Nl k2 k1) e⟩
  obtain⟨a1,a2,a3⟩:=key;obtain⟨b1,b2,b3⟩:=I7 (p:=p) (v:=v) (c:=t) a1;rw[tF];refine⟨b1,by grind,fun u hu k1 k2=>?_⟩;rcases aU.1 hu with rfl|hu
  ·have:=a3 k1 k2;grind
  ·exact b3 u hu k1 k2
def Ru{c:List ab}{p v:aa}(h: ∀m∈c,0<m.value p\/(m.value p=0/\0<m.nor.dot v)):e6 c (wE c p v):=fun m hm=>by
 obtain⟨s0,_,s2⟩:=I7 (p:=p) (v:=v) (c:=c) (s:=((1:Int):Rat)) (by decide);unfold wE;generalize tF p v c ((1:Int):Rat)=s at*;rw[ic];rcases h m hm with k|⟨k,k2⟩
 ·by_cases q:m.nor.dot v<0
  ·have h3:=s2 m hm k q
   have h4:=Nl q k;have e:m.value p/m.nor.dot v*m.nor.dot v=m.value p:=by grind
   generalize m.value p/m.nor.dot v=z at*;have h5:=bG (a:= -z/2-s) (b:= -m.nor.dot v) (by grind) (by grind);grind
  ·have:=bG (cY s0) (show 0<=m.nor.dot v by grind)
   grind
 ·have:=bv s0 k2
  grind
def XP{m:ab}(h:m.Ne):0<m.nor.dot (fH m.dir):=by
 have:=p9 h;have e:m.nor.dot (fH m.dir)=m.nor.dot m.nor:=by unfold fH ab.dir ab.nor aa.dot;grind
 rw[e];exact this
def WQ{c:List ab}(hok: ∀m∈c,m.ok)(hb:sM c=true):e6 c (vA c c):=by
 have key: ∀t:List ab,(∀m∈t,m∈c)->(∃m∈t,(gE m c aB.all).isSome=true)->e6 c (vA c t):=by
  intro t
  induction t with
  |nil=>rintro _ ⟨m,hm,_⟩;cases hm
  |cons m t ih=>
   intro hs hx;rw[vA];split
   ·rename_i e
    obtain⟨h1,h2⟩:=Bo m c _ _ uU (EE e);have h3:=((h2 _).1 (X1 h1)).2;have hmo:=(hok m (hs m aQ)).ne;refine Ru fun u hu=>?_;by_cases q:u=m
    ·subst q;exact .inr ⟨pO hmo _,XP hmo⟩
    ·exact .inl (h3 u hu q)
   ·rename_i e
    refine ih (fun u hu=>hs u (aJ _ hu)) ?_;obtain⟨u,hu,h⟩:=hx;rcases aU.1 hu with rfl|hu
    ·rw[Du] at e;exact absurd h e
    ·exact⟨u,hu,h⟩
 unfold sM at hb;rw[gV,List.isEmpty_iff,jL] at hb;rcases hb with rfl|⟨m,hm,h⟩
 ·exact fun m hm=>by cases hm
 ·exact key c (fun _ h=>h) ⟨m,hm,h⟩
def e6.seg{c:List ab}{q p:aa}{e:Rat}(hq:e6 c q)(hp:e6 c p)(h0:0<=e)(h1:e<=1):e6 c (aF q p e):=fun m hm=>by
 rw[l8];have a:=hq m hm;have b:=hp m hm;by_cases z:e=0
 ·subst z;grind
 ·have k1:=bv (show 0<e by grind) b
  have k2:=bG (show 0<=1-e by grind) (cY a);grind
def e6.open{c:List ab}{q:aa}(u:aa)(h:e6 c q): ∃e:Rat,0<e/\ ∀d,0<=d->d<=e->e6 c (bc q u d):=by
 have hd:cd (c.map fun m=>(⟨m,aB.all⟩:aP)) q:=fun s hs=>by
  obtain⟨m,hm,rfl⟩:=bX.1 hs;exact h m hm
 obtain⟨e,he,ho⟩:=hd.open u;exact⟨e,he,fun d d0 d1 m hm=>ho d d0 d1 ⟨m,aB.all⟩ (iT hm)⟩
def CU(l:ab)(t u:Rat):l.at (t+u)=bc (l.at t) l.dir u:=by
 rw[<-rB,<-rB];unfold bc;simp only[aa.mk.injEq];constructor<;>grind
def BP(l:ab)(a b s:Rat):aF (l.at a) (l.at b) s=l.at (a+s*(b-a)):=by
 rw[<-rB,<-rB,<-rB];unfold aF bc;simp only[aa.mk.injEq];constructor<;>grind
def wu{l:ab}(h:l.Ne)(t:Rat):ck l (l.at t)=t:=by
 obtain⟨q,_,hq⟩:=wn h;have h2:=p9 h;have e0:l.dir.dot l.dir=l.nor.dot l.nor:=by unfold ab.dir ab.nor aa.dot;grind
 have e1:(l.at t).dot l.dir=t*l.dir.dot l.dir:=by
  rw[<-rB,hq];unfold bc ab.dir aa.dot;grind
 unfold ck;rw[e1];rw[<-e0] at h2;generalize l.dir.dot l.dir=d at*;have:d≠0:=by grind
 grind
def Aw{l:ab}(h:l.Ne){p:aa}(hp:l.value p=0):l.at (ck l p)=p:=by
 obtain⟨t,rfl⟩:=yS h hp;rw[wu h]
def Cw(a:Int){g:Nat}(h:g∣a.natAbs):(g:Int)*zv (decide (a<0)) (a.natAbs/g)=a:=by
 obtain⟨k,hk⟩:=h;by_cases g0:g=0
 ·subst g0;simp at hk⊢;omega
 have e:a.natAbs/g=k:=by rw[hk];exact pS k (gT g0)
 rw[e];unfold zv;have hc:((g*k:Nat):Int)=(g:Int)*(k:Int):=by push_cast;rfl
 by_cases n:a<0
 ·simp only[n,decide_true,if_true];rw[Int.mul_neg];omega
 ·simp only[n,decide_false];show(g:Int)*(k:Int)=a;omega
def X9{a b c:Int}(h: ¬(a=0/\b=0)): ∃g:Int,0<g/\g*(f9 a b c).a=a/\g*(f9 a b c).b=b/\g*(f9 a b c).c=c:=by
 have hg:0<Nat.gcd (Nat.gcd a.natAbs b.natAbs) c.natAbs:=lK _ (gT fun e=>h ⟨mQ.1 (mL e),mQ.1 (mY e)⟩);refine⟨(Nat.gcd (Nat.gcd a.natAbs b.natAbs) c.natAbs:Nat),by omega,?_,?_,?_⟩
 ·exact Cw a (oN (jX _ _) (jX _ _))
 ·exact Cw b (oN (jX _ _) (kV _ _))
 ·exact Cw c (kV _ _)
def Dj{v w:ZP}(h:v≠w): ∃g:Rat,0<g/\(ir v.1 v.2 w.1 w.2).value v.q=0/\(ir v.1 v.2 w.1 w.2).value w.q=0/\w.q=bc v.q (ir v.1 v.2 w.1 w.2).dir g:=by
 obtain⟨m,n⟩:=v;obtain⟨p,q⟩:=w;have hne: ¬(iI n q=0/\i4 m p=0):=fun e=>h (by unfold iI i4 at e;rw[Prod.mk.injEq];omega);obtain⟨g,g0,ga,gb,gc⟩:=X9 (c:=nG m n p q) hne;dsimp only;unfold ir;generalize f9 (iI n q) (i4 m p) (nG m n p q)=l at*;have g0':(0:Rat)<(g:Rat):=by exact_mod_cast g0
 have ra:(g:Rat)*(l.a:Rat)= -((q:Rat)-(n:Rat)):=by rw[<-cR,ga];unfold iI;push_cast;grind
 have rb:(g:Rat)*(l.b:Rat)=(p:Rat)-(m:Rat):=by rw[<-cR,gb];unfold i4;push_cast;grind
 have rc:(g:Rat)*(l.c:Rat)= -(-((q:Rat)-(n:Rat))*(m:Rat)+((p:Rat)-(m:Rat))*(n:Rat)):=by rw[<-cR,gc];unfold nG iI i4;push_cast;grind
 have z: ∀x:Rat,(g:Rat)*x=0->x=0:=fun x hx=>by
  rcases cK.1 hx with e|e
  ·rw[e] at g0';exact absurd g0' (by decide)
  ·exact e
 refine⟨g,g0',z _ ?_,z _ ?_,?_⟩
 ·rw[kE];unfold ZP.q iP;dsimp only;grind
 ·rw[kE];unfold ZP.q iP;dsimp only;grind
 ·unfold ZP.q iP bc ab.dir;simp only[aa.mk.injEq];constructor<;>grind
def xE{v w:ZP}(h:v≠w)(ho:(ba v w).l.ok):(ba v w).l.at (ba v w).v.lo=v.q/\(ba v w).l.at (ba v w).v.hi=w.q/\(ba v w).v.lo<(ba v w).v.hi:=by
 obtain⟨g,g0,h1,h2,h3⟩:=Dj h;unfold ba at ho⊢;dsimp only at ho⊢;generalize ir v.1 v.2 w.1 w.2=l at*;have e1:=Aw ho.ne h1;have e2:=Aw ho.ne h2;refine⟨e1,e2,?_⟩;have:ck l w.q=ck l v.q+g:=by
  have e3:=CU l (ck l v.q) g;rw[e1,<-h3] at e3;rw[<-e3,wu ho.ne]
 rw[this];grind
def wW{r:List ZP}{k:Nat}: ∀{n:Nat},k<n->ba (r.getD k (0,0)) (de r k)∈jz r n
 |n+1,h=>by
  rw[jz];by_cases e:k=n
  ·subst e;exact bN _ (aW.2 J)
  ·exact bU _ (wW (by omega))
def Q5{r:List ZP}(hr:b9 r){c:List ab}(hc: ∀e∈ip r,∀t,e.v.ins t-> ¬e6 c (e.l.at t)){q p:aa}(hq:e6 c q)(hp:e6 c p):s7 r q p:=fun k hk s t s0 s1 t0 t1 he=>by
 have hm:ba (r.getD k (0,0)) (de r k)∈ip r:=wW hk;have ho:=((tH hr).2 _ hm).ok;obtain⟨e1,e2,e3⟩:=xE (hr.ne k hk) ho;have hno:=hc _ hm;have hx:=hq.seg hp t0 t1;rw[<-he,<-e1,<-e2,BP] at hx;have hv: ∀u,(ba (r.getD k (0,0)) (de r k)).v.lo<u->u<(ba (r.getD k (0,0)) (de r k)).v.hi-> ¬e6 c ((ba (r.getD k (0,0)) (de r k)).l.at u):=fun u h1 h2=>hno u ⟨.inr h1, .inr h2⟩;generalize ba (r.getD k (0,0)) (de r k)=e at*;have hb:=CT s0 s1 (dV) (cY e3) (cY e3) (dV);generalize e.v.lo+s*(e.v.hi-e.v.lo)=u at*;obtain⟨d,d0,hd⟩:=hx.open e.l.dir;obtain⟨d',d0',hd'⟩:=hx.open (bg e.l.dir);by_cases h1:e.v.lo<u
 ·by_cases h2:u<e.v.hi
  ·exact hv u h1 h2 hx
  ·have eu:u=e.v.hi:=by grind
   obtain⟨z,z0,z1,z2⟩: ∃z:Rat,0<z/\z<=d'/\z<e.v.hi-e.v.lo:=by
    by_cases k:d'<(e.v.hi-e.v.lo)/2
    ·exact⟨d',d0',dV,by grind⟩
    ·exact⟨(e.v.hi-e.v.lo)/2,by grind,by grind,by grind⟩
   refine hv (u+ -z) (by grind) (by grind) ?_;rw[CU];have:=hd' z (cY z0) z1;have e5:bc (e.l.at u) (bg e.l.dir) z=bc (e.l.at u) e.l.dir (-z):=by unfold bc bg;simp only[aa.mk.injEq];constructor<;>grind
   rw[e5] at this;exact this
 ·have eu:u=e.v.lo:=by grind
  obtain⟨z,z0,z1,z2⟩: ∃z:Rat,0<z/\z<=d/\z<e.v.hi-e.v.lo:=by
   by_cases k:d<(e.v.hi-e.v.lo)/2
   ·exact⟨d,d0,dV,by grind⟩
   ·exact⟨(e.v.hi-e.v.lo)/2,by grind,by grind,by grind⟩
  refine hv (u+z) (by grind) (by grind) ?_;rw[CU];exact hd z (cY z0) z1
def PH{rs:List (List ZP)}{fill:Int}(hr: ∀r∈rs,b9 r){c:List ab}(hc: ∀e∈bH rs,∀t,e.v.ins t-> ¬e6 c (e.l.at t)){q p:aa}(hq:e6 c q)(hp:e6 c p):dE rs fill q=dE rs fill p:=by
 have key: ∀(rs:List (List ZP)),(∀r∈rs,b9 r)->(∀e∈bH rs,∀t,e.v.ins t-> ¬e6 c (e.l.at t))-> ∀n:Int,rs.foldl (fun n r=>n+e8 r q) n=rs.foldl (fun n r=>n+e8 r p) n:=by
  intro rs
  induction rs with
  |nil=>intro _ _ n;rfl
  |cons r t ih=>
   intro hr hc n;rw[fN,fN,<-LN (Q5 (hr r aQ) (fun e he=>hc e (cS.2 ⟨r,aQ,he⟩)) hq hp)];exact ih (fun r h=>hr r (aJ _ h)) (fun e he=>hc e (by obtain⟨r,h1,h2⟩:=cS.1 he;exact cS.2 ⟨r,aJ _ h1,h2⟩)) _
 unfold dE;rw[key rs hr hc]
def xD{cuts:List Rat}(h:cuts.Pairwise (· < ·)){i j:Nat}(hij:i<j)(hj:j<cuts.length):cuts.getD i 0<cuts.getD j 0:=by
 rw[aX,aX,aZ hj,aZ (by omega)];exact mK.1 h i j (by omega) hj hij
def En{cuts:List Rat}{marks:List Bool}(h:cuts.Pairwise (· < ·)): ∀{k:Nat},∀v∈oy cuts marks (k+1),k<cuts.length->(v.nh=false/\v.hi<=cuts.getD k 0)/\(v.nl=true\/v.lo<cuts.getD k 0)
 |k,v,hv,hk=>by
  have hg:((j' cuts k).nh=false/\(j' cuts k).hi<=cuts.getD k 0)/\((j' cuts k).nl=true\/(j' cuts k).lo<cuts.getD k 0):=by
   unfold j';dsimp only;refine⟨⟨by simp;omega,by rw[if_pos hk];exact dV⟩,?_⟩;by_cases z:k=0
   ·left;simp[z]
   ·right;rw[if_neg z];exact xD h (by omega) hk
  have hold: ∀v∈oy cuts marks k,(v.nh=false/\v.hi<=cuts.getD k 0)/\(v.nl=true\/v.lo<cuts.getD k 0):=fun v hv=>by
   cases k with
   |zero=>cases hv
   |succ k=>
    have ih:=En h v hv (by omega);have:=xD h (Nat.lt_succ_self k) hk;exact⟨⟨ih.1.1,by have:=ih.1.2;grind⟩,ih.2.imp id fun z=>by grind⟩
  rw[oy] at hv;split at hv
  ·split at hv
   ·split at hv
    ·rename_i w hw
     rcases bV.1 hv with q|q
     ·exact hold v ((qR _).subset q)
     ·rw[aW] at q;subst q
      exact⟨hg.1,(hold w (oX hw)).2⟩
    ·rcases bV.1 hv with q|q
     ·exact hold v q
     ·rw[aW] at q;subst q;exact hg
   ·rcases bV.1 hv with q|q
    ·exact hold v q
    ·rw[aW] at q;subst q;exact hg
  ·exact hold v hv
def NZ{cuts:List Rat}{marks:List Bool}(h:cuts.Pairwise (· < ·)){x:Rat}{i:Nat}(hm:marks.getD i false=true)(hx:(j' cuts i).ins x): ∀{k:Nat},k<=cuts.length+1->i<k-> ∃v∈oy cuts marks k,v.ins x
 |k+1,hk,hi=>by
  by_cases e:i=k
  ·subst e
   rw[oy,if_pos hm];split
   ·rename_i h0
    split
    ·rename_i w hw
     refine⟨_,bN _ (aW.2 J),?_,hx.2⟩;obtain⟨j,rfl⟩: ∃j,i=j+1:=⟨i-1,by omega⟩;have:=(En h w (oX hw) (by omega)).2;have hl:=hx.1;unfold j' at hl;dsimp only at hl;rw[if_neg (by omega),show j+1-1=j by omega] at hl;have hl':cuts.getD j 0<x:=hl.resolve_left (by simp);exact this.imp id fun z=>by show w.lo<x;grind
    ·exact⟨_,bN _ (aW.2 J),hx⟩
   ·exact⟨_,bN _ (aW.2 J),hx⟩
  ·obtain⟨v,hv,hvx⟩:=NZ h hm hx (k:=k) (by omega) (by omega)
   rw[oy];split
   ·split
    ·split
     ·rename_i w hw
      by_cases q:v=w
      ·subst q
       refine⟨_,bN _ (aW.2 J),hvx.1,?_⟩;show(j' cuts k).nh=true\/x<(j' cuts k).hi;obtain⟨j,rfl⟩: ∃j,k=j+1:=⟨k-1,by omega⟩;obtain⟨⟨b1,b2⟩,_⟩:=En h v hv (by omega);have hh:=hvx.2.resolve_left (by rw[b1];decide);unfold j';dsimp only;by_cases z:j+1<cuts.length
       ·right;rw[if_pos z];have:=xD h (Nat.lt_succ_self j) z;grind
       ·left;simp;omega
      ·refine⟨v,bU _ ?_,hvx⟩
       obtain⟨l,hl⟩:=List.getLast?_eq_some_iff.1 hw;rw[hl] at hv⊢;rw[List.dropLast_concat];rcases bV.1 hv with z|z
       ·exact z
       ·rw[aW] at z;exact absurd z q
     ·exact⟨v,bU _ hv,hvx⟩
    ·exact⟨v,bU _ hv,hvx⟩
   ·exact⟨v,hv,hvx⟩
def IL: ∀{l:List Rat} {i:Nat},i+1<l.length->(nO l).getD i 0=(l.getD i 0+l.getD (i+1) 0)/2
 |[],_,h=>by simp at h
 |[_],_,h=>by simp at h
 |a::b::t,0,_=>by simp[nO]
 |a::b::t,i+1,h=>by
  have:=IL (l:=b::t) (i:=i) (by simp at h⊢;omega);rw[nO,kW,this];simp only[kW]
def yk: ∀(l:List Rat) (a:Rat),(nO (a::l)).length=l.length
 |[],_=>rfl
 |b::t,a=>by rw[nO,cX,yk t b,cX]
def Pa{cuts:List Rat}(h:cuts.Pairwise (· < ·)){i j:Nat}(hi:i<=cuts.length)(hj:j<cuts.length):(cuts.getD j 0<(lh cuts).getD i 0↔j<i)/\cuts.getD j 0≠(lh cuts).getD i 0:=by
 have mono: ∀{a b:Nat},a<=b->b<cuts.length->cuts.getD a 0<=cuts.getD b 0:=fun{a b} hab hb=>by
  by_cases e:a=b
  ·subst e;exact dV
  ·exact cY (xD h (by omega) hb)
 cases cuts with
 |nil=>simp at hj
 |cons a t=>
  have hl:(a::t).length=t.length+1:=J;rw[lh]
  cases i with
  |zero=>
   rw[rU];have:=mono (cV j) hj;rw[rU] at this;constructor
   ·constructor
    ·intro q;exfalso;grind
    ·intro q;omega
   ·intro q;grind
  |succ i=>
   rw[kW];by_cases e:i<t.length
   ·have e1:(nO (a::t)++[(a::t).getLast (by simp)+1]).getD i 0=((a::t).getD i 0+(a::t).getD (i+1) 0)/2:=by
     rw[<-IL (by omega),aX,aX,cJ (by rw[yk];exact e)]
    rw[e1];have h1:=xD h (Nat.lt_succ_self i) (by omega);by_cases q:j<=i
    ·have:=mono q (by omega)
     constructor
     ·exact⟨fun _=>by omega,fun _=>by grind⟩
     ·grind
    ·have:=mono (show i+1<=j by omega) hj
     constructor
     ·exact⟨fun _=>by exfalso;grind,fun _=>by omega⟩
     ·grind
   ·have ei:i=t.length:=by omega
    have e1:(nO (a::t)++[(a::t).getLast (by simp)+1]).getD i 0=(a::t).getLast (by simp)+1:=by
     rw[aX,cM (by rw[yk];omega),yk,ei];simp
    rw[e1];have:=LT h (by simp) ((a::t).getD j 0) (by rw[aX,aZ hj];exact fR _);constructor
    ·exact⟨fun _=>by omega,fun _=>by grind⟩
    ·grind
def GI(x:Rat): ∀{cuts:List Rat},cuts.Pairwise (· < ·)-> ∃i,i<=cuts.length/\ ∀j,j<cuts.length->(cuts.getD j 0<x↔j<i)
 |[],_=>⟨0,aL _,fun j hj=>by simp at hj⟩
 |a::t,h=>by
  rw[bW] at h;by_cases q:a<x
  ·obtain⟨i,h1,h2⟩:=GI x h.2
   refine⟨i+1,by simp;exact h1,fun j hj=>?_⟩
   cases j with
   |zero=>simp[q]
   |succ j=>rw[kW,h2 j (by simpa using hj)];omega
  ·refine⟨0,cV _,fun j hj=>⟨fun k=>?_,fun k=>by omega⟩⟩
   exfalso
   cases j with
   |zero=>simp at k;grind
   |succ j=>
    rw[kW] at k;have hj':j<t.length:=by simpa using hj
    have:=h.1 (t.getD j 0) (by rw[aX,aZ hj'];exact fR _);grind
def NY{out:List Rat}{s:aB}{y:Rat}:y∈ml out s↔y∈out\/(s.nl=false/\y=s.lo)\/(s.nh=false/\y=s.hi):=by
 unfold ml
 cases e1:s.nl<;>cases e2:s.nh<;>simp[tE]<;>grind
def JL{v:aB}{x:Rat}:va [v] x=true↔v.ins x:=by
 unfold va Aj Aj aB.ins;have h1:=yl x v.lo;have h2:=vU x v.hi;rw[decide_eq_true_eq]
 cases e1:v.nl<;>cases e2:v.nh<;>simp only[if_true,gU,if_false,false_or,true_or,h1,h2,and_true,true_and,show(0:Int)<1 from by decide,show(-1:Int)<0 from by decide]<;>grind
def GH{cuts:List Rat}{v:aB}(hl:v.nl=true\/v.lo∈cuts)(hh:v.nh=true\/v.hi∈cuts){x g:Rat}(ho: ∀u∈cuts,(u<x↔u<g)/\u≠x/\u≠g)(h:v.ins x):v.ins g:=by
 refine⟨?_,?_⟩
 ·rcases hl with e|e
  ·exact .inl e
  ·rcases h.1 with k|k
   ·exact .inl k
   ·exact .inr ((ho _ e).1.1 k)
 ·rcases hh with e|e
  ·exact .inl e
  ·rcases h.2 with k|k
   ·exact .inl k
   ·obtain⟨a,b,c⟩:=ho _ e
    right;by_cases q:v.hi<g
    ·have:=a.2 q;grind
    ·grind
def Rh{v w:aB}{t:Rat}(hv:v.ins t)(hw:w.ins t): ∃z∈vL 2 [v] [w],z.ins t:=by
 have hmem: ∀y,y∈kG ([v]++[w])↔((v.nl=false/\y=v.lo)\/(v.nh=false/\y=v.hi))\/(w.nl=false/\y=w.lo)\/(w.nh=false/\y=w.hi):=fun y=>by
  show y∈ml (ml [] v) w↔_;rw[NY,NY];simp
 have hasc:=(JZ ([v]++[w])).1;have h0: ∀u∈kG ([v]++[w]),u≠t:=fun u hu e=>by
  subst e;rcases(hmem u).1 hu with(⟨a,b⟩|⟨a,b⟩)|⟨a,b⟩|⟨a,b⟩
  ·have:=hv.1.resolve_left (by rw[a];decide);grind
  ·have:=hv.2.resolve_left (by rw[a];decide);grind
  ·have:=hw.1.resolve_left (by rw[a];decide);grind
  ·have:=hw.2.resolve_left (by rw[a];decide);grind
 have l1:v.nl=true\/v.lo∈kG ([v]++[w]):=by
  cases e:v.nl with
  |true=>exact .inl J
  |false=>exact .inr ((hmem _).2 (.inl (.inl ⟨e,J⟩)))
 have l2:v.nh=true\/v.hi∈kG ([v]++[w]):=by
  cases e:v.nh with
  |true=>exact .inl J
  |false=>exact .inr ((hmem _).2 (.inl (.inr ⟨e,J⟩)))
 have l3:w.nl=true\/w.lo∈kG ([v]++[w]):=by
  cases e:w.nl with
  |true=>exact .inl J
  |false=>exact .inr ((hmem _).2 (.inr (.inl ⟨e,J⟩)))
 have l4:w.nh=true\/w.hi∈kG ([v]++[w]):=by
  cases e:w.nh with
  |true=>exact .inl J
  |false=>exact .inr ((hmem _).2 (.inr (.inr ⟨e,J⟩)))
 unfold vL EK;generalize kG ([v]++[w])=cuts at*;obtain⟨i,hi,ho⟩:=GI t hasc;have hord: ∀u∈cuts,(u<t↔u<(lh cuts).getD i 0)/\u≠t/\u≠(lh cuts).getD i 0:=fun u hu=>by
  obtain⟨j,hj,e⟩:=oJ.1 hu;have e':cuts.getD j 0=u:=by rw[aX,aZ hj];exact e
  obtain⟨g1,g2⟩:=Pa hasc hi hj;have:=ho j hj;rw[e'] at g1 g2 this;exact⟨this.trans g1.symm,h0 u hu,g2⟩
 have hlen:(lh cuts).length=cuts.length+1:=Gj;refine NZ hasc (i:=i) ?_ ?_ (by rw[aK,hlen];exact aL _) (by rw[aK,hlen];omega)
 ·rw[aX,gX,aZ (by omega)]
  show Jy 2 (va [v] _) (va [w] _)=true;have e:(lh cuts)[i]'(by omega)=(lh cuts).getD i 0:=by rw[aX,aZ (by omega)];rfl
  rw[e,JL.2 (GH l1 l2 hord hv),JL.2 (GH l3 l4 hord hw)];rfl
 ·unfold j' aB.ins
  dsimp only;refine⟨?_,?_⟩
  ·by_cases z:i=0
   ·left;simp[z]
   ·right;rw[if_neg z];exact(ho (i-1) (by omega)).2 (by omega)
  ·by_cases z:i=cuts.length
   ·left;simp[z]
   ·right
    rw[if_pos (by omega)];have a:=ho i (by omega);have b:=h0 (cuts.getD i 0) (by rw[aX,aZ (by omega)];exact fR _);have c: ¬cuts.getD i 0<t:=fun k=>by have:=a.1 k;omega
    grind
def L5{l m:ab}(h:crossI l m=0):l.cutK m=0:=by
 have e:l.cutK m= -(crossI l m:Rat):=by unfold ab.cutK ab.nor ab.dir aa.dot crossI;push_cast;grind
 rw[e,h];rfl
def T0{k:Rat}{side:Int}(hs:side=1\/side= -1)(h:0<(side:Rat)*k):k.num.sign=side:=by
 rcases hs with rfl|rfl
 ·exact(io k).2 (by grind)
 ·have:k.num.sign<0:=(lD k).2 (by grind)
  have:=rT k.num;omega
def TY{f:aP}{m:ab}{side:Int}(hs:side=1\/side= -1)(hl:f.l.Ne){t:Rat}(ht:f.v.ins t)(hm:0<(side:Rat)*m.value (f.l.at t)): ∃g∈lG f m side,g.l=f.l/\g.v.ins t:=by
 have hv:=n4 f.l m t;have ho: ¬ti f.l m=true:=fun e=>by
  unfold ti at e;rw[decide_eq_true_eq,jk] at e;rw[L5 e.1,show f.l.cutC m=m.value f.l.base from J,e.2] at hv;rw[hv] at hm;grind
 unfold lG;rw[if_neg ho];have hh: ∃w,s4 f.l m side=[w]/\w.ins t:=by
  unfold s4;by_cases hc:crossI f.l m=0
  ·rw[if_pos hc]
   rw[L5 hc,show f.l.cutC m=m.value f.l.base from J] at hv;rw[if_pos (T0 hs (by rw[hv] at hm;grind))];exact⟨_,J,W5 t⟩
  ·rw[if_neg hc]
   have hp:=Tq hl hc;have hK:f.l.cutK m≠0:=fun e=>by
    have e2:f.l.cutK m= -(crossI f.l m:Rat):=by unfold ab.cutK ab.nor ab.dir aa.dot crossI;push_cast;grind
    rw[e2] at e;have:(crossI f.l m:Rat)=0:=by grind
    exact hc (iL.1 this)
   generalize hx:ck f.l (jh f.l m)=x at*;have hv2: ∀u,m.value (f.l.at u)=f.l.cutK m*(u-x):=fun u=>by rw[n4,hp];grind
   rw[hv2] at hm;have e1:m.value (f.l.at (x+1))=f.l.cutK m:=by rw[hv2];grind
   rw[e1];generalize f.l.cutK m=K at*;by_cases q:K.num.sign=side
   ·rw[if_pos q]
    refine⟨_,J, .inr ?_, .inl J⟩;show x<t;rcases hs with rfl|rfl
    ·have:=(io K).1 q
     have:=(vJ this).1 (show 0<K*(t-x) by grind);grind
    ·have:=(lD K).1 (by omega)
     have:=(EC this).1 (show K*(t-x)<0 by grind);grind
   ·rw[if_neg q]
    refine⟨_,J, .inl J, .inr ?_⟩;show t<x;have h3:=dC K;rcases hs with rfl|rfl
    ·have kn:K<0:=by
      rcases h3 with h|h|h
      ·exact absurd h hK
      ·exact absurd ((io K).2 h) q
      ·exact h
     have:=(EC kn (b:=x-t)).1 (by grind);grind
    ·have kp:0<K:=by
      rcases h3 with h|h|h
      ·exact absurd h hK
      ·exact h
      ·exact absurd (by have:=(lD K).2 h;have:=rT K.num;omega) q
     have:=(vJ kp (b:=x-t)).1 (by grind);grind
 obtain⟨w,e,hw⟩:=hh;rw[e];obtain⟨z,hz,hzt⟩:=Rh ht hw;exact⟨⟨f.l,z⟩,iT hz,J,hzt⟩
def yO(E:List aP)(c:List ab)(l:List aP):Prop:= ∀e∈E,∀t,e.v.ins t->e6 c (e.l.at t)-> ∃f∈l,f.l=e.l/\f.v.ins t
def yO.split{E l:List aP}{c:List ab}(h:yO E c l)(hE: ∀e∈E,e.l.Ne){m:ab}{side:Int}(hs:side=1\/side= -1){m':ab}(hm': ∀p,m'.value p=(side:Rat)*m.value p):yO E (c++[m']) (l.flatMap fun g=>lG g m side):=fun e he t ht hin=>by
 obtain⟨h1,h2⟩:=Cq.1 hin;obtain⟨f,hf,ef,hft⟩:=h e he t ht h1;rw[hm'] at h2;obtain⟨g,hg,eg,hgt⟩:=TY (f:=f) hs (by rw[ef];exact hE e he) hft (by rw[ef];exact h2);exact⟨g,cS.2 ⟨f,hf,hg⟩,by rw[eg,ef],hgt⟩
def FR{acc:aa->Bool}{E:List aP}(hE: ∀e∈E,e.l.Ne)(ha: ∀(c:List ab) (q p:aa),(∀e∈E,∀t,e.v.ins t-> ¬e6 c (e.l.at t))->e6 c q->e6 c p->acc q=acc p): ∀{n:Nat} {l:List aP} {c:List ab} {p:aa},(∀f∈l,o6 f)->Bc n l->(∀m∈c,m.ok)->yO E c l->e6 c p->im (n9 acc n l c).lns p->(n9 acc n l c).val p=acc p
 |n,[],c,p,_,_,hc,hcov,hp,_=>by
  have e:n9 acc n [] c= .leaf (acc (vA c c)):=by cases n<;>rfl
  rw[e,Tr.val];exact ha c _ _ (fun e he t ht hin=>by obtain⟨f,hf,_⟩:=hcov e he t ht hin;cases hf) (WQ hc ((QI hc).2 ⟨p,hp⟩)) hp
 |0,f::t,_,_,_,hf,_,_,_,_=>by
  obtain⟨K,hK,hs⟩:=hf;obtain⟨m,hm,_⟩:=hs f aQ;have:K=[]:=bR (by omega);rw[this] at hm;cases hm
 |n+1,f::t,c,p,hok,hf,hc,hcov,hp,hoff=>by
  have fo:=hok f aQ;have hok': ∀side,∀g∈(f::t).flatMap fun g=>lG g f.l side,o6 g:=fun side g hg=>by
   obtain⟨q,hq,hg⟩:=cS.1 hg;exact(NR (hok q hq) fo.lb g hg).1
  rw[n9] at hoff⊢;by_cases q:0<f.l.value p
  ·rw[Tr.val_pos q]
   exact FR hE ha (hok' 1) (hf.split hok) (K0 hc fo.ok) (hcov.split hE (.inl J) fun p=>by grind) (Cq.2 ⟨hp,q⟩) hoff.x
  ·rw[Tr.val_neg q]
   have:=hoff.l;exact FR hE ha (hok' (-1)) (hf.split hok) (K0 hc fo.ok.rev) (hcov.split hE (.inr J) fun p=>by rw[m8];grind) (Cq.2 ⟨hp,by rw[m8];grind⟩) hoff.y
def VV{rs:List (List ZP)}{fill:Int}(hr: ∀r∈rs,b9 r){p:aa}(ho:im (pC rs fill).lns p):(d4 rs fill).val p=dE rs fill p:=by
 obtain⟨h1,h2⟩:=qr hr;have hok:(pC rs fill).all ab.ok:=Bi fun f hf=>(h2 f hf).ok;unfold d4;rw[Tr.val_restrict _ _ _ hok gA.nil (fun s hs=>by cases hs) ho];unfold pC at ho⊢;refine FR (E:=bH rs) (fun e he=>(h2 e he).ok.ne) (fun c q p hno hq hp=>PH hr hno hq hp) h2 ?_ (fun m hm=>by cases hm) (fun e he t ht _=>⟨e,he,J,ht⟩) (fun m hm=>by cases hm) ho;exact⟨(bH rs).map (·.l),by rw[aK];exact aL _,fun f hf=>⟨f.l,iT hf, .inl J⟩⟩
structure gq where
 ax:Rat
 ay:Rat
 ac:Rat
def gq.ev(g:gq)(p:aa):Rat:=g.ax*p.x+g.ay*p.y+g.ac
def gq.li(g:gq)(u:aa):Rat:=g.ax*u.x+g.ay*u.y
def gq.mov(g:gq)(p u:aa)(d:Rat):g.ev (bc p u d)=g.ev p+d*g.li u:=by
 unfold gq.ev gq.li bc;dsimp only;grind
def gq.seg(g:gq)(u w:aa)(s:Rat):g.li (aF u w s)=g.li u+s*(g.li w-g.li u):=by
 unfold gq.li aF;dsimp only;grind
def gl(a b x:aa):Prop:= ∃s:Rat,0<=s/\s<=1/\x=aF a b s
def Dg{x y:Rat}(h: ¬(x=0/\y=0)):0<x*x+y*y:=by
 have h1:=oD x;have h2:=oD y;rcases dC (x*x+y*y) with k|k|k
 ·exfalso
  refine h ⟨?_,?_⟩
  ·have:x*x=0:=by grind
   exact(cK.1 this).elim id id
  ·have:y*y=0:=by grind
   exact(cK.1 this).elim id id
 ·exact k
 ·grind
def Mu{a b:aa}(h:a≠b): ¬(b.x-a.x=0/\b.y-a.y=0):=fun k=>h (by
 cases a;cases b
 simp only[aa.mk.injEq] at*;constructor<;>grind)
def UZ{a b p:aa}(hab:a≠b)(h: ¬gl a b p): ∃g:gq,0<g.ev p/\ ∀x,gl a b x->g.ev x<=0:=by
 have hN:=Dg (Mu hab);obtain⟨dx,hdx⟩: ∃dx,dx=b.x-a.x:=⟨_,rfl⟩;obtain⟨dy,hdy⟩: ∃dy,dy=b.y-a.y:=⟨_,rfl⟩;rw[<-hdx,<-hdy] at hN;have on: ∀x,gl a b x-> ∃s:Rat,0<=s/\s<=1/\x.x=a.x+s*dx/\x.y=a.y+s*dy:=fun x ⟨s,s0,s1,e⟩=>⟨s,s0,s1,by rw[e,hdx];rfl,by rw[e,hdy];rfl⟩;rcases dC (dx*(p.y-a.y)-dy*(p.x-a.x)) with k|k|k
 ·-- on the line
  obtain⟨T,hT⟩: ∃T,T=(p.x-a.x)*dx+(p.y-a.y)*dy:=⟨_,rfl⟩;by_cases t0:T<0
  ·refine⟨⟨-dx, -dy,a.x*dx+a.y*dy⟩,by unfold gq.ev;dsimp only;grind,fun x hx=>?_⟩
   obtain⟨s,s0,s1,e1,e2⟩:=on x hx;have:=bG s0 (cY hN);unfold gq.ev;dsimp only;rw[e1,e2];grind
  ·by_cases t1:dx*dx+dy*dy<T
   ·refine⟨⟨dx,dy, -(a.x*dx+a.y*dy)-(dx*dx+dy*dy)⟩,by unfold gq.ev;dsimp only;grind,fun x hx=>?_⟩
    obtain⟨s,s0,s1,e1,e2⟩:=on x hx;have:=bG (show 0<=1-s by grind) (cY hN);unfold gq.ev;dsimp only;rw[e1,e2];grind
   ·exfalso
    refine h ⟨T/(dx*dx+dy*dy),?_,?_,?_⟩
    ·have e:T/(dx*dx+dy*dy)*(dx*dx+dy*dy)=T:=by generalize dx*dx+dy*dy=N at*;grind
     exact(iC hN).1 (by rw[e];grind)
    ·have e:T/(dx*dx+dy*dy)*(dx*dx+dy*dy)=T:=by generalize dx*dx+dy*dy=N at*;grind
     have:=(iC (s:=1-T/(dx*dx+dy*dy)) hN).1 (by
      generalize T/(dx*dx+dy*dy)=q at*;generalize dx*dx+dy*dy=N at*;have:(1-q)*N=N-q*N:=by grind
      rw[this,e];grind)
     grind
    ·have e1:(p.x-a.x)*(dx*dx+dy*dy)=T*dx:=by rw[hT];grind
     have e2:(p.y-a.y)*(dx*dx+dy*dy)=T*dy:=by rw[hT];grind
     unfold aF;rw[<-hdx,<-hdy];generalize dx*dx+dy*dy=N at*
     cases p
     simp only[aa.mk.injEq] at*;constructor<;>grind
 ·refine⟨⟨-dy,dx,dy*a.x-dx*a.y⟩,by unfold gq.ev;dsimp only;grind,fun x hx=>?_⟩
  obtain⟨s,s0,s1,e1,e2⟩:=on x hx;unfold gq.ev;dsimp only;rw[e1,e2];grind
 ·refine⟨⟨dy, -dx, -(dy*a.x-dx*a.y)⟩,by unfold gq.ev;dsimp only;grind,fun x hx=>?_⟩
  obtain⟨s,s0,s1,e1,e2⟩:=on x hx;unfold gq.ev;dsimp only;rw[e1,e2];grind
def Vb{g:gq}{p:aa}(v w:aa)(h:0<g.ev p): ∃e:Rat,0<e/\ ∀d s,0<=d->d<=e->0<=s->s<=1->0<g.ev (bc p (aF v w s) d):=by
 have hK: ∃K:Rat,0<K/\ -K<=g.li v/\ -K<=g.li w:=by
  generalize g.li v=a;generalize g.li w=b;refine⟨1+(if 0<=a then a else-a)+(if 0<=b then b else-b),?_,?_,?_⟩<;>split<;>split<;>grind
 obtain⟨K,k0,k1,k2⟩:=hK;generalize hz:g.ev p=z at*;have e1:z/(2*K)*(2*K)=z:=by grind
 refine⟨z/(2*K),(fi (k:=2*K) (by grind)).1 (by rw[e1];exact h),fun d s d0 d1 s0 s1=>?_⟩;generalize z/(2*K)=e at*;rw[gq.mov,hz,gq.seg];generalize g.li v=a at*;generalize g.li w=b at*;have h1:=bG (show 0<=1-s by grind) (show 0<=a+K by grind);have h2:=bG s0 (show 0<=b+K by grind);have h3:0<=a+s*(b-a)+K:=by grind
 have h4:=bG d0 h3;have h5:=bG (show 0<=e-d by grind) (cY k0);grind
def AF: ∀{E:List (aa×aa)},(∀f∈E,f.1≠f.2)-> ∀(p v w:aa),∃e:Rat,0<e/\ ∀f∈E,¬gl f.1 f.2 p-> ∀d s,0<=d->d<=e->0<=s->s<=1-> ¬gl f.1 f.2 (bc p (aF v w s) d)
 |[],_,p,v,w=>⟨1,by decide,fun f hf=>by cases hf⟩
 |f::E,hE,p,v,w=>by
  obtain⟨e1,a1,b1⟩:=AF (E:=E) (fun f hf=>hE f (aJ _ hf)) p v w;by_cases hp:gl f.1 f.2 p
  ·refine⟨e1,a1,fun g hg hn=>?_⟩
   rcases aU.1 hg with rfl|hg
   ·exact absurd hp hn
   ·exact b1 g hg hn
  ·obtain⟨g,g0,g1⟩:=UZ (hE f aQ) hp
   obtain⟨e2,a2,b2⟩:=Vb v w g0;obtain⟨e,c1,c2,c3⟩:=min2 a1 a2;refine⟨e,c1,fun h hh hn d s d0 d1 s0 s1=>?_⟩;rcases aU.1 hh with rfl|hh
   ·intro ho
    have:=g1 _ ho;have:=b2 d s d0 (by grind) s0 s1;grind
   ·exact b1 h hh hn d s d0 (by grind) s0 s1
def Ae(a b p r:aa):Prop:=gl a b p/\((r=⟨b.x-p.x,b.y-p.y⟩/\b≠p)\/(r=⟨a.x-p.x,a.y-p.y⟩/\a≠p))
def qm(r u:aa):Prop:= ∃k:Rat,0<k/\u=⟨k*r.x,k*r.y⟩
def div_pos{a b:Rat}(ha:0<a)(hb:0<b):0<a/b:=by
 have e:a/b*b=a:=by grind
 exact(fi hb).1 (by rw[e];exact ha)
def Nt{a b p u:aa}{d:Rat}(hab:a≠b)(hd:0<d)(hu:u≠⟨0,0⟩)(h1:gl a b p)(h2:gl a b (bc p u d)): ∃r,Ae a b p r/\qm r u:=by
 have hN:=Mu hab;obtain⟨t,t0,t1,et⟩:=id h1;obtain⟨s,s0,s1,es⟩:=h2;obtain⟨dx,hdx⟩: ∃dx,dx=b.x-a.x:=⟨_,rfl⟩;obtain⟨dy,hdy⟩: ∃dy,dy=b.y-a.y:=⟨_,rfl⟩;rw[<-hdx,<-hdy] at hN;have px:p.x=a.x+t*dx:=by rw[et,hdx];rfl
 have py:p.y=a.y+t*dy:=by rw[et,hdy];rfl
 have ux:d*u.x=(s-t)*dx:=by
  have:=congrArg aa.x es;unfold bc aF at this;dsimp only at this;rw[<-hdx] at this;grind
 have uy:d*u.y=(s-t)*dy:=by
  have:=congrArg aa.y es;unfold bc aF at this;dsimp only at this;rw[<-hdy] at this;grind
 have bx:b.x-p.x=(1-t)*dx:=by rw[px];grind
 have bY:b.y-p.y=(1-t)*dy:=by rw[py];grind
 have ax:a.x-p.x= -t*dx:=by rw[px];grind
 have aY:a.y-p.y= -t*dy:=by rw[py];grind
 rcases dC (s-t) with k|k|k
 ·exfalso
  rw[k] at ux uy;refine hu ?_;have d0:d≠0:=by grind
  have z1:u.x=0:=(cK.1 (show d*u.x=0 by rw[ux];grind)).resolve_left d0;have z2:u.y=0:=(cK.1 (show d*u.y=0 by rw[uy];grind)).resolve_left d0
  cases u
  simp only[aa.mk.injEq] at*;exact⟨z1,z2⟩
 ·have q:0<1-t:=by grind
  refine⟨_,⟨h1, .inl ⟨J,fun e=>hN ?_⟩⟩,(s-t)/(d*(1-t)),div_pos k (bv hd q),?_⟩
  ·have z1:(1-t)*dx=0:=by rw[<-bx,e];grind
   have z2:(1-t)*dy=0:=by rw[<-bY,e];grind
   exact⟨(cK.1 z1).resolve_left (by grind),(cK.1 z2).resolve_left (by grind)⟩
  ·have hq:=bv hd q
   have e:(s-t)/(d*(1-t))*(d*(1-t))=s-t:=by generalize d*(1-t)=m at*;grind
   rw[bx,bY];generalize (s-t)/(d*(1-t))=m at*;have d0:d≠0:=by grind
   have e1:d*(u.x-m*((1-t)*dx))=0:=by grind
   have e2:d*(u.y-m*((1-t)*dy))=0:=by grind
   have f1:=(cK.1 e1).resolve_left d0;have f2:=(cK.1 e2).resolve_left d0
   cases u
   simp only[aa.mk.injEq] at*;constructor<;>grind
 ·have q:0<t:=by grind
  refine⟨_,⟨h1, .inr ⟨J,fun e=>hN ?_⟩⟩,(t-s)/(d*t),div_pos (by grind) (bv hd q),?_⟩
  ·have z1:t*dx=0:=by have:=ax;rw[e] at this;grind
   have z2:t*dy=0:=by have:=aY;rw[e] at this;grind
   exact⟨(cK.1 z1).resolve_left (by grind),(cK.1 z2).resolve_left (by grind)⟩
  ·have hq:=bv hd q
   have e:(t-s)/(d*t)*(d*t)=t-s:=by generalize d*t=m at*;grind
   rw[ax,aY];generalize (t-s)/(d*t)=m at*;have d0:d≠0:=by grind
   have e1:d*(u.x-m*(-t*dx))=0:=by grind
   have e2:d*(u.y-m*(-t*dy))=0:=by grind
   have f1:=(cK.1 e1).resolve_left d0;have f2:=(cK.1 e2).resolve_left d0
   cases u
   simp only[aa.mk.injEq] at*;constructor<;>grind
def i5(E:List (aa×aa))(p u:aa):Prop:=u≠⟨0,0⟩/\ ∀f∈E,∀r,Ae f.1 f.2 p r-> ¬qm r u
def Tf(p v w:aa)(d t:Rat):aF (bc p v d) (bc p w d) t=bc p (aF v w t) d:=by
 unfold aF bc;simp only[aa.mk.injEq];constructor<;>grind
def yT(p v:aa)(d d' t:Rat):aF (bc p v d) (bc p v d') t=bc p v (d+t*(d'-d)):=by
 unfold aF bc;simp only[aa.mk.injEq];constructor<;>grind
def xz(v:aa)(s:Rat):aF v v s=v:=by
 unfold aF;cases v;simp only[aa.mk.injEq];constructor<;>grind
def Lv{E:List (aa×aa)}(hE: ∀f∈E,f.1≠f.2){p v w:aa}{e:Rat}(he: ∀f∈E,¬gl f.1 f.2 p-> ∀d s,0<=d->d<=e->0<=s->s<=1-> ¬gl f.1 f.2 (bc p (aF v w s) d)){f:aa×aa}(hf:f∈E){d s:Rat}(d0:0<d)(d1:d<=e)(s0:0<=s)(s1:s<=1)(hu:i5 E p (aF v w s)): ¬gl f.1 f.2 (bc p (aF v w s) d):=fun ho=>by
 by_cases hp:gl f.1 f.2 p
 ·obtain⟨r,r1,r2⟩:=Nt (hE f hf) d0 hu.1 hp ho
  exact hu.2 f hf r r1 r2
 ·exact he f hf hp d s (cY d0) d1 s0 s1 ho
def Tm{E:List (aa×aa)}(hE: ∀f∈E,f.1≠f.2){p v w:aa}(hu: ∀s,0<=s->s<=1->i5 E p (aF v w s)): ∃e:Rat,0<e/\ ∀d,0<d->d<=e-> ∀f∈E,mI f.1 f.2 (bc p v d) (bc p w d):=by
 obtain⟨e,e0,he⟩:=AF hE p v w;refine⟨e,e0,fun d d0 d1 f hf s t s0 s1 t0 t1 h=>?_⟩;rw[Tf] at h;exact Lv hE he hf d0 d1 t0 t1 (hu t t0 t1) ⟨s,s0,s1,h.symm⟩
def OD{E:List (aa×aa)}(hE: ∀f∈E,f.1≠f.2){p v:aa}(hu:i5 E p v): ∃e:Rat,0<e/\ ∀d d',0<d->d<=e->0<d'->d'<=e-> ∀f∈E,mI f.1 f.2 (bc p v d) (bc p v d'):=by
 obtain⟨e,e0,he⟩:=AF hE p v v;refine⟨e,e0,fun d d' d0 d1 e1 e2 f hf s t s0 s1 t0 t1 h=>?_⟩;rw[yT] at h;have h1:=bG (show 0<=1-t by grind) (show 0<=d by grind);have h2:=bG t0 (show 0<=d' by grind);have h3:=bG (show 0<=1-t by grind) (show 0<=e-d by grind);have h4:=bG t0 (show 0<=e-d' by grind);have p0:0<d+t*(d'-d):=by
  rcases dC t with k|k|k
  ·rw[k];grind
  ·have:=bv k e1;grind
  ·grind
 have p1:d+t*(d'-d)<=e:=by grind
 have:=Lv hE he hf (s:=0) p0 p1 (by decide) (by decide) (by rw[xz];exact hu);rw[xz] at this;exact this ⟨s,s0,s1,h.symm⟩
def r7(r:List ZP):List (aa×aa):=(List.range r.length).map fun k=>((r.getD k (0,0)).q,(de r k).q)
def ER(rs:List (List ZP)):List (aa×aa):=rs.flatMap r7
def vK{a b:ZP}(h:a.q=b.q):a=b:=by
 have hx:(a.1:Rat)=(b.1:Rat):=congrArg aa.x h;have hy:(a.2:Rat)=(b.2:Rat):=congrArg aa.y h;exact Prod.ext (by exact_mod_cast hx) (by exact_mod_cast hy)
def AC{rs:List (List ZP)}(hr: ∀r∈rs,b9 r): ∀f∈ER rs,f.1≠f.2:=fun f hf=>by
 obtain⟨r,h1,h2⟩:=cS.1 hf;obtain⟨k,hk,rfl⟩:=bX.1 h2;exact fun e=>(hr r h1).ne k (iK.1 hk) (vK e)
def A8{rs:List (List ZP)}{fill:Int}{q p:aa}(h: ∀f∈ER rs,mI f.1 f.2 q p):dE rs fill p=dE rs fill q:=by
 have key: ∀(rs:List (List ZP)),(∀f∈ER rs,mI f.1 f.2 q p)-> ∀n:Int,rs.foldl (fun n r=>n+e8 r p) n=rs.foldl (fun n r=>n+e8 r q) n:=by
  intro rs
  induction rs with
  |nil=>intro _ n;rfl
  |cons r t ih=>
   intro h n;have hc:s7 r q p:=fun k hk=>h _ (cS.2 ⟨r,aQ,bX.2 ⟨k,iK.2 hk,J⟩⟩);rw[fN,fN,LN hc];exact ih (fun f hf=>h f (by obtain⟨s,s1,s2⟩:=cS.1 hf;exact cS.2 ⟨s,aJ _ s1,s2⟩)) _
 unfold dE;rw[key rs h]
def lx(rs:List (List ZP))(fill:Int)(p v:aa)(b:Bool):Prop:= ∃e:Rat,0<e/\ ∀d,0<d->d<=e->dE rs fill (bc p v d)=b
section
variable {rs:List (List ZP)} {fill:Int} {p v w:aa} {b c:Bool}
def Ce(hr: ∀r∈rs,b9 r)(hv:i5 (ER rs) p v): ∃b,lx rs fill p v b:=by
 obtain⟨e,e0,he⟩:=OD (AC hr) hv;exact⟨_,e,e0,fun d d0 d1=>A8 (fill:=fill) (he e d e0 dV d0 d1)⟩
def lx.uniq(h:lx rs fill p v b)(k:lx rs fill p v c):b=c:=by
 obtain⟨e1,a1,b1⟩:=h;obtain⟨e2,a2,b2⟩:=k;obtain⟨e,c1,c2,c3⟩:=min2 a1 a2;rw[<-b1 e c1 c2,<-b2 e c1 c3]
def F7(hr: ∀r∈rs,b9 r)(hu: ∀s,0<=s->s<=1->i5 (ER rs) p (aF v w s))(h:lx rs fill p v b):lx rs fill p w b:=by
 obtain⟨e1,a1,b1⟩:=Tm (AC hr) hu;obtain⟨e2,a2,b2⟩:=h;obtain⟨e,c1,c2,c3⟩:=min2 a1 a2;exact⟨e,c1,fun d d0 d1=>by rw[A8 (fill:=fill) (b1 d d0 (by grind)),b2 d d0 (by grind)]⟩
end
def LE{ds:List aa}(h:ds.Pairwise b8){i:Nat}{s w:aa}(hs:ds[i]? =some s)(hw:ds[(i+1)%ds.length]? =some w):kI ds s w:=by
 obtain⟨hi,rfl⟩:=aN.1 hs;obtain⟨hj,rfl⟩:=aN.1 hw;have hp:=mK.1 h;by_cases e:i+1<ds.length
 ·have em:(i+1)%ds.length=i+1:=dY e
  left;simp only[em];refine⟨hp i (i+1) hi e (by omega),fun d hd=>?_⟩;obtain⟨j,hj,rfl⟩:=oJ.1 hd;rintro ⟨a,b⟩;rcases nS j i with k|k|k
  ·exact wm a (hp j i hj hi k)
  ·subst k;exact rH _ a
  ·by_cases z:j=i+1
   ·subst z;exact rH _ b
   ·exact wm b (hp (i+1) j e hj (by omega))
 ·have ei:i+1=ds.length:=by omega
  have em:(i+1)%ds.length=0:=by rw[ei,rS]
  right;simp only[em];refine⟨fun d hd a=>?_,fun d hd b=>?_⟩
  ·obtain⟨j,hj,rfl⟩:=oJ.1 hd
   by_cases k:j=i
   ·subst k;exact rH _ a
   ·exact wm a (hp j i hj hi (by omega))
  ·obtain⟨j,hj,rfl⟩:=oJ.1 hd
   by_cases k:j=0
   ·subst k;exact rH _ b
   ·exact wm b (hp 0 j (by omega) hj (by omega))
def W6{s u w:aa}(hs:s.half≠0)(hw:w.half≠0)(hu:u.half≠0)(h1:0<s.cross u)(h2:0<u.cross w)(h3:0<s.cross w)(e:s.half=w.half):u.half=s.half:=by
 rcases fm hs with k|k
 ·rw[k] at e⊢
  have a:=l9.1 k;have b:=l9.1 e.symm;rw[l9];unfold aa.cross at*
  -- u is between s and w
  have i1:(s.x*w.y-s.y*w.x)*u.y=(u.x*w.y-u.y*w.x)*s.y+(s.x*u.y-s.y*u.x)*w.y:=by grind
  have i2:(s.x*w.y-s.y*w.x)*u.x=(u.x*w.y-u.y*w.x)*s.x+(s.x*u.y-s.y*u.x)*w.x:=by grind
  have y0:0<=s.y:=by grind
  have y1:0<=w.y:=by grind
  have m1:=bG (cY h2) y0;have m2:=bG (cY h1) y1;have uy:0<=u.y:=(iC h3).1 (by grind);by_cases z:0<u.y
  ·exact .inl z
  ·right
   have z0:u.y=0:=by grind
   have i3:(u.x*w.y-u.y*w.x)*s.y+(s.x*u.y-s.y*u.x)*w.y=0:=by rw[<-i1,z0];grind
   have A0:(u.x*w.y-u.y*w.x)*s.y=0:=by generalize (u.x*w.y-u.y*w.x)*s.y=A at*;generalize (s.x*u.y-s.y*u.x)*w.y=B at*;grind
   have B0:(s.x*u.y-s.y*u.x)*w.y=0:=by grind
   have n1:s.y=0:=by
    rcases cK.1 A0 with q|q
    ·grind
    ·exact q
   have n2:w.y=0:=by
    rcases cK.1 B0 with q|q
    ·grind
    ·exact q
   rw[n1,n2] at h3;grind
 ·rw[k] at e⊢
  have a:=nf.1 k;have b:=nf.1 e.symm;rw[nf];unfold aa.cross at*;have i1:(s.x*w.y-s.y*w.x)*u.y=(u.x*w.y-u.y*w.x)*s.y+(s.x*u.y-s.y*u.x)*w.y:=by grind
  have y0:0<= -s.y:=by grind
  have y1:0<= -w.y:=by grind
  have m1:=bG (cY h2) y0;have m2:=bG (cY h1) y1;have uy:0<= -u.y:=(iC h3).1 (by grind);by_cases z:u.y<0
  ·exact .inl z
  ·right
   have z0:u.y=0:=by grind
   have i3:(u.x*w.y-u.y*w.x)*s.y+(s.x*u.y-s.y*u.x)*w.y=0:=by rw[<-i1,z0];grind
   have m3:(u.x*w.y-u.y*w.x)* -s.y= -((u.x*w.y-u.y*w.x)*s.y):=by grind
   have m4:(s.x*u.y-s.y*u.x)* -w.y= -((s.x*u.y-s.y*u.x)*w.y):=by grind
   rw[m3] at m1;rw[m4] at m2;have A0:(u.x*w.y-u.y*w.x)*s.y=0:=by generalize (u.x*w.y-u.y*w.x)*s.y=A at*;generalize (s.x*u.y-s.y*u.x)*w.y=B at*;grind
   have B0:(s.x*u.y-s.y*u.x)*w.y=0:=by grind
   have n1:s.y=0:=by
    rcases cK.1 A0 with q|q
    ·grind
    ·exact q
   have n2:w.y=0:=by
    rcases cK.1 B0 with q|q
    ·grind
    ·exact q
   rw[n1,n2] at h3;grind
def NP{ds:List aa}(nz: ∀d∈ds,d.half≠0){s u w:aa}(hs:s∈ds)(hu:u∈ds)(hw:w∈ds)(hn:kI ds s w)(h1:0<s.cross u)(h2:0<u.cross w)(h3:0<s.cross w):False:=by
 have zs:=fm (nz s hs);have zu:=fm (nz u hu);have zw:=fm (nz w hw);rcases hn with⟨b,no⟩|⟨n1,n2⟩
 ·by_cases e:s.half=w.half
  ·have e2:=W6 (nz s hs) (nz w hw) (nz u hu) h1 h2 h3 e
   exact no u hu ⟨.inr ⟨e2.symm,h1⟩, .inr ⟨by omega,h2⟩⟩
  ·have e1:s.half=1/\w.half=2:=by
    rcases b with b|⟨b,_⟩
    ·omega
    ·exact absurd b e
   rcases zu with k|k
   ·exact no u hu ⟨.inr ⟨by omega,h1⟩, .inl (by omega)⟩
   ·exact no u hu ⟨.inl (by omega), .inr ⟨by omega,h2⟩⟩
 ·have a:=n1 u hu
  have b:=n2 u hu;have a1: ¬s.half<u.half:=fun k=>a (.inl k);have a2:s.half≠u.half:=fun k=>a (.inr ⟨k,h1⟩);have b1: ¬u.half<w.half:=fun k=>b (.inl k);have b2:u.half≠w.half:=fun k=>b (.inr ⟨k,h2⟩);omega
def N8{u w n:aa}(hu:u.half≠0)(hw:w.half≠0)(hn:n.half≠0)(e1:w.half=u.half)(e2:u.half=n.half)(h1:0<u.cross n)(h2: ¬0<u.cross w):0<w.cross n:=by
 by_cases k:0<w.cross u
 ·have b1:b8 w u:= .inr ⟨e1,k⟩
  have b2:b8 u n:= .inr ⟨e2,h1⟩;rcases um b1 b2 with q|⟨_,q⟩
  ·omega
  ·exact q
 ·have hz:w.cross u=0:=by rw[eH] at k⊢;grind
  by_cases q:0<w.cross n
  ·exact q
  ·exfalso
   have b2:b8 u n:= .inr ⟨e2,h1⟩;by_cases q2:0<n.cross w
   ·have b3:b8 n w:= .inr ⟨by omega,q2⟩
    rcases um b2 b3 with z|⟨_,z⟩
    ·omega
    ·exact h2 z
   ·have hz2:w.cross n=0:=by rw[eH] at q2;grind
    rcases fm hw with hh|hh
    ·have a:=l9.1 hh
     have b:=l9.1 (show u.half=1 by omega);have c:=l9.1 (show n.half=1 by omega);unfold aa.cross at*;have j1:w.x*(u.x*n.y-u.y*n.x)=0:=by grind
     have j2:w.y*(u.x*n.y-u.y*n.x)=0:=by grind
     rcases cK.1 j1 with z|z
     ·rcases cK.1 j2 with z2|z2<;>grind
     ·grind
    ·have a:=nf.1 hh
     unfold aa.cross at*;have j1:w.x*(u.x*n.y-u.y*n.x)=0:=by grind
     have j2:w.y*(u.x*n.y-u.y*n.x)=0:=by grind
     rcases cK.1 j1 with z|z
     ·rcases cK.1 j2 with z2|z2<;>grind
     ·grind
def Mi{ds:List aa}(nz: ∀d∈ds,d.half≠0){s u w:aa}(hs:s∈ds)(hu:u∈ds)(hw:w∈ds)(hn:kI ds s w)(h1:0<s.cross u):0<s.cross w:=by
 have zs:=fm (nz s hs);have zu:=fm (nz u hu);have zw:=fm (nz w hw);have hneg:=pm (nz s hs);have hnz:(bg s).half≠0:=by omega
 have e1:u.cross (bg s)=s.cross u:=by rw[kv,eH s u];grind
 have e2:w.cross (bg s)=s.cross w:=by rw[kv,eH s w];grind
 rcases hn with⟨b,no⟩|⟨n1,n2⟩
 ·by_cases e:s.half=w.half
  ·rcases b with b|⟨_,b⟩
   ·omega
   ·exact b
  ·have e3:s.half=1/\w.half=2:=by
    rcases b with b|⟨b,_⟩
    ·omega
    ·exact absurd b e
   have nu:=no u hu;rcases zu with k|k
   ·exact absurd ⟨.inr ⟨by omega,h1⟩, .inl (by omega)⟩ nu
   ·rw[<-e2]
    exact N8 (nz u hu) (nz w hw) hnz (by omega) (by omega) (by rw[e1];exact h1) fun q=>nu ⟨.inl (by omega), .inr ⟨by omega,q⟩⟩
 ·have a:=n1 u hu
  have b:=n2 u hu;have a1: ¬s.half<u.half:=fun k=>a (.inl k);have a2:s.half≠u.half:=fun k=>a (.inr ⟨k,h1⟩);have b1: ¬u.half<w.half:=fun k=>b (.inl k);rw[<-e2];exact N8 (nz u hu) (nz w hw) hnz (by omega) (by omega) (by rw[e1];exact h1) fun q=>b (.inr ⟨by omega,q⟩)
def o8(ds:List aa)(u:aa):Prop:=u≠⟨0,0⟩/\ ∀r∈ds,¬qm r u
def vQ(ds:List aa)(v w:aa):Prop:= ∀s,0<=s->s<=1->o8 ds (aF v w s)
def MQ{α:Type}{R:α->α->Prop}(irr: ∀a,¬R a a)(tr: ∀a b c,R a b->R b c->R a c): ∀{l:List α},l≠[]-> ∃m∈l,∀y∈l,¬R y m
 |[],h=>absurd J h
 |[a],_=>⟨a,aQ,fun y hy=>by rw[aW.1 hy];exact irr a⟩
 |a::b::t,_=>by
  obtain⟨m,hm,h⟩:=MQ irr tr (l:=b::t) (by simp);by_cases k:R a m
  ·refine⟨a,aQ,fun y hy=>?_⟩
   rcases aU.1 hy with rfl|hy
   ·exact irr _
   ·exact fun q=>h y hy (tr _ _ _ q k)
  ·refine⟨m,aJ _ hm,fun y hy=>?_⟩
   rcases aU.1 hy with rfl|hy
   ·exact k
   ·exact h y hy
def jf(x y:aa):Nat:=if x.cross y<0 then 1 else if 0<x.cross y then 3 else if 0<x.dot y then 0 else 2
def Ak(x y z:aa):Prop:=jf x y<jf x z\/(jf x y=jf x z/\(jf x y=1\/jf x y=3)/\0<z.cross y)
def tI{x y:aa}:jf x y=1↔x.cross y<0:=by
 unfold jf;split
 ·simp_all
 ·split
  ·simp_all
  ·split<;>simp_all
def AA{x y:aa}:jf x y=3↔0<x.cross y:=by
 unfold jf;split
 ·rename_i h;simp;grind
 ·split
  ·simp_all
  ·split<;>simp_all
def JW(x z y t:aa):x.cross z*t.cross y=x.cross t*z.cross y+x.cross y*t.cross z:=by unfold aa.cross;grind
def Ql(x a:aa): ¬Ak x a a:=by
 rintro (h|⟨_,_,h⟩)
 ·omega
 ·rw[yw] at h;grind
def VZ(x a b c:aa)(h:Ak x a b)(k:Ak x b c):Ak x a c:=by
 rcases h with h|⟨h1,h2,h3⟩
 ·rcases k with k|⟨k1,k2,k3⟩
  ·exact .inl (by omega)
  ·exact .inl (by omega)
 ·rcases k with k|⟨k1,k2,k3⟩
  ·exact .inl (by omega)
  ·refine .inr ⟨by omega,h2,?_⟩
   have e:=JW x b a c;rcases h2 with q|q
   ·have a1:=tI.1 q
    have b1:=tI.1 (h1▸q);have c1:=tI.1 (k1▸h1▸q);have m1:=bv (show 0< -x.cross c by grind) h3;have m2:=bv (show 0< -x.cross a by grind) k3;exact(fi (k:= -x.cross b) (by grind)).1 (by grind)
   ·have a1:=AA.1 q
    have b1:=AA.1 (h1▸q);have c1:=AA.1 (k1▸h1▸q);have m1:=bv c1 h3;have m2:=bv a1 k3;exact(fi (k:=x.cross b) b1).1 (by grind)
def Uq{s w x:aa}(h1:0<s.cross w)(h2:0<s.cross x)(h3:x.cross w=0):qm w x:=by
 refine⟨s.cross x/s.cross w,div_pos h2 h1,?_⟩;have e:s.cross x/s.cross w*s.cross w=s.cross x:=by generalize s.cross w=m at*;grind
 have e1:x.x*s.cross w=w.x*s.cross x:=by unfold aa.cross at*;grind
 have e2:x.y*s.cross w=w.y*s.cross x:=by unfold aa.cross at*;grind
 generalize s.cross x/s.cross w=k at*;generalize s.cross w=m at*;generalize s.cross x=n at*;have f1:m*(x.x-k*w.x)=0:=by grind
 have f2:m*(x.y-k*w.y)=0:=by grind
 have m0:m≠0:=by grind
 have g1:=(cK.1 f1).resolve_left m0;have g2:=(cK.1 f2).resolve_left m0
 cases x
 simp only[aa.mk.injEq] at*;constructor<;>grind
def yq(s v w:aa)(t:Rat):s.cross (aF v w t)=s.cross v+t*(s.cross w-s.cross v)/\(aF v w t).cross s=v.cross s+t*(w.cross s-v.cross s):=by
 unfold aa.cross aF;dsimp only;constructor<;>grind
def rx{r u:aa}(h:qm r u)(s:aa):(0<s.cross u->0<s.cross r)/\(0<u.cross s->0<r.cross s)/\(s.cross u<0->s.cross r<0):=by
 obtain⟨k,k0,rfl⟩:=h;have e1:s.cross ⟨k*r.x,k*r.y⟩=s.cross r*k:=by unfold aa.cross;grind
 have e2:aa.cross ⟨k*r.x,k*r.y⟩ s=r.cross s*k:=by unfold aa.cross;grind
 rw[e1,e2];refine⟨(fi k0).1,(fi k0).1,fun h=>?_⟩;have:=(fi (s:= -s.cross r) k0).1 (by grind);grind
def yj{s u:aa}(h:s.cross u≠0):u≠⟨0,0⟩:=fun e=>h (by rw[e];unfold aa.cross;grind)
def Ie{z:Rat}(h: -z=0):z=0:=by grind
def DO(s:aa):s.cross (fH s)=s.x*s.x+s.y*s.y:=by unfold aa.cross fH;grind
def LQ{s:aa}(h:s.half≠0):0<s.x*s.x+s.y*s.y:=Dg fun k=>by
 rcases ja s with⟨_,q⟩|⟨_,q⟩|⟨q,_⟩
 ·grind
 ·grind
 ·exact h q
section
variable {ds:List aa}
def xP{x:aa}(hx:o8 ds x):vQ ds x x:=fun s _ _=>by rw[xz];exact hx
def Fz{s v w:aa}(hn: ∀r∈ds,¬0<s.cross r)(hv:0<s.cross v)(hw:0<=s.cross w)(hf:o8 ds w):vQ ds v w:=fun t t0 t1=>by
 by_cases ht:t=1
 ·rw[ht,xX];exact hf
 ·have h1:=bv (show 0<1-t by grind) hv
  have h2:=bG t0 hw;have hp:0<s.cross (aF v w t):=by rw[(yq s v w t).1];grind
  exact⟨yj (s:=s) (by grind),fun r hr q=>hn r hr ((rx q s).1 hp)⟩
def Xn{i:Nat}(hi:i<ds.length):jo ds i∈eG ds:=by
 unfold eG;rw[if_neg (by omega)];exact bX.2 ⟨i,iK.2 hi,J⟩
def Na{i:Nat}{s w:aa}(hs:ds[i]? =some s)(hw:ds[(i+1)%ds.length]? =some w):jo ds i=if 0<s.cross w then s.add w else fH s:=by
 unfold jo;rw[aX,aX,hs,hw];show(if 0<Int.sign (s.cross w).num then _ else _)=_;simp only[jF];rfl
def KB(s w:aa):s.cross (s.add w)=s.cross w/\(s.add w).cross w=s.cross w:=by unfold aa.cross aa.add;dsimp only;constructor<;>grind
def Bl(ha:ds.Pairwise b8)(nz: ∀d∈ds,d.half≠0){v:aa}(hv:v∈eG ds):o8 ds v:=by
 unfold eG at hv;split at hv
 ·rename_i h0
  rw[bR h0,aW.1 hv];exact⟨by simp,fun r hr=>by cases hr⟩
 ·obtain⟨i,hi,rfl⟩:=bX.1 hv
  have hi':=iK.1 hi;obtain⟨s,hs⟩: ∃s,ds[i]? =some s:=⟨_,aZ hi'⟩;obtain⟨w,hw⟩: ∃w,ds[(i+1)%ds.length]? =some w:=⟨_,aZ (cN _ (by omega))⟩;have ms:=bQ hs;have mw:=bQ hw;have hn:=LE ha hs hw;rw[Na hs hw];by_cases h:0<s.cross w
  ·rw[if_pos h]
   obtain⟨c1,c2⟩:=KB s w;exact⟨yj (s:=s) (by rw[c1];grind),fun r hr q=>NP nz ms hr mw hn ((rx q s).1 (by rw[c1];exact h)) ((rx q w).2.1 (by rw[c2];exact h)) h⟩
  ·rw[if_neg h]
   have hp:0<s.cross (fH s):=by rw[DO];exact LQ (nz s ms)
   exact⟨yj (s:=s) (by grind),fun r hr q=>h (Mi nz ms hr mw hn ((rx q s).1 hp))⟩
def YI(ha:ds.Pairwise b8)(nz: ∀d∈ds,d.half≠0){x:aa}(hx:o8 ds x): ∃v∈eG ds,∃y,vQ ds v y/\vQ ds y x:=by
 by_cases h0:ds=[]
 ·subst h0
  have fr: ∀{u:aa},u≠⟨0,0⟩->o8 [] u:=fun h=>⟨h,fun r hr=>by cases hr⟩;refine⟨⟨1,0⟩,aW.2 J,?_⟩;have sx: ∀(a b:aa) (t:Rat),(aF a b t).x=a.x+t*(b.x-a.x)/\(aF a b t).y=a.y+t*(b.y-a.y):=fun _ _ _=>⟨J,J⟩;have go: ∀{a b:aa},(0<a.x/\0<=b.x/\b≠⟨0,0⟩/\(b.x=0->b.y≠0))\/(0<a.y/\0<=b.y/\(b.y=0->b.x≠0))\/(a.y=0/\0<a.x/\b.y≠0)->vQ [] a b:=fun{a b} h t t0 t1=>fr fun e=>by
   obtain⟨e1,e2⟩:=sx a b t;rw[e] at e1 e2;dsimp only at e1 e2;by_cases ht:t=1
   ·subst ht
    grind
   ·rcases h with⟨k1,k2,_,_⟩|⟨k1,k2,_⟩|⟨k1,k2,k3⟩
    ·have:=bv (show 0<1-t by grind) k1
     have:=bG t0 k2;grind
    ·have:=bv (show 0<1-t by grind) k1
     have:=bG t0 k2;grind
    ·rw[k1] at e2
     have z:t*b.y=0:=by grind
     rcases cK.1 z with q|q
     ·rw[q] at e1;grind
     ·exact k3 q
  by_cases hy:x.y=0
  ·by_cases hp:0<x.x
   ·exact⟨⟨1,0⟩,xP (fr (by simp)),go (.inl ⟨by decide,cY hp,hx.1,fun e=>by grind⟩)⟩
   ·have hne:x.x≠0:=fun e=>hx.1 (by cases x;simp only[aa.mk.injEq] at*;exact⟨e,hy⟩)
    exact⟨⟨0,1⟩,go (.inr (.inr ⟨J,by decide,by decide⟩)),go (.inr (.inl ⟨by decide,by rw[hy];exact dV,fun _=>hne⟩))⟩
  ·exact⟨⟨1,0⟩,xP (fr (by simp)),go (.inr (.inr ⟨J,by decide,hy⟩))⟩
 obtain⟨s,ms,hmin⟩:=MQ (Ql x) (VZ x) h0;obtain⟨i,hi,hs'⟩:=mN ms;have hs:ds[i]? =some s:=by rw[aZ hi,hs']
 obtain⟨w,hw⟩: ∃w,ds[(i+1)%ds.length]? =some w:=⟨_,aZ (cN _ (by omega))⟩;have mw:=bQ hw;have hn:=LE ha hs hw;have hsq:=LQ (nz s ms);have htp:0<s.cross (fH s):=by rw[DO];exact hsq
 have sw: ∀a b:aa,a.cross b= -b.cross a:=fun a b=>eH b a;refine⟨jo ds i,Xn hi,?_⟩;rw[Na hs hw];rcases dC (s.cross x) with hc|hc|hc
 ·-- x opposite to s
  have hdot: ¬0<x.dot s:=fun q=>hx.2 s ms (by
   obtain⟨g,g0,e⟩:=qA (d:=s) (e:=x) (by rw[sw];grind) q;exact⟨g,g0,e⟩)
  have c2:jf x s=2:=by
   have e0:x.cross s=0:=by rw[sw];grind
   unfold jf;rw[e0,if_neg (by grind),if_neg (by grind),if_neg hdot]
  have hno: ∀r∈ds,¬0<s.cross r:=fun r hr q=>hmin r hr (.inl (by
   have hxr:x.cross r<0:=by
    -- x is a negative multiple of s
    have e:=JW s x r (fH s);have ht:=DO s;have e2:(fH s).cross r*(s.x*s.x+s.y*s.y)=(fH s).cross r*s.cross (fH s):=by rw[ht]
    have e3:x.cross r*(s.x*s.x+s.y*s.y)=x.dot s*s.cross r+s.cross x* -(s.dot r):=by unfold aa.cross aa.dot;grind
    rw[hc] at e3;have hd0:x.dot s≠0:=fun z=>by
     have f1:x.x*(s.x*s.x+s.y*s.y)=0:=by unfold aa.cross aa.dot at*;grind
     have f2:x.y*(s.x*s.x+s.y*s.y)=0:=by unfold aa.cross aa.dot at*;grind
     have n0:s.x*s.x+s.y*s.y≠0:=by grind
     exact hx.1 (by
      have g1:=(cK.1 f1).resolve_right n0;have g2:=(cK.1 f2).resolve_right n0
      cases x;simp only[aa.mk.injEq] at*;exact⟨g1,g2⟩)
    have m:=bv (show 0< -x.dot s by grind) q;have:=(fi (s:= -x.cross r) hsq).1 (by grind);grind
   rw[tI.2 hxr,c2];decide))
  rw[if_neg (hno w mw)];exact⟨x,Fz hno htp (by rw[hc];exact dV) hx,xP hx⟩
 ·-- x to the left of s
  have f1: ∀r∈ds,¬(0<s.cross r/\0<r.cross x):=fun r hr q=>hmin r hr (.inr (by
   have a1:jf x r=1:=tI.2 (by rw[sw];grind);have a2:jf x s=1:=tI.2 (by rw[sw];grind);exact⟨by rw[a1,a2], .inl a1,q.1⟩))
  by_cases h:0<s.cross w
  ·rw[if_pos h]
   have hxw:0<x.cross w:=by
    rcases dC (x.cross w) with k|k|k
    ·exact absurd (Uq h hc k) (hx.2 w mw)
    ·exact k
    ·exact absurd ⟨h,by rw[sw];grind⟩ (f1 w mw)
   obtain⟨c1,c2⟩:=KB s w;refine⟨x,fun t t0 t1=>?_,xP hx⟩;have p1:0<s.cross (aF (s.add w) x t):=by
    rw[(yq s _ x t).1,c1];have:=bG (show 0<=1-t by grind) (cY h);have:=bG t0 (cY hc);by_cases ht:t=1
    ·rw[ht];grind
    ·have:=bv (show 0<1-t by grind) h
     grind
   have p2:0<(aF (s.add w) x t).cross w:=by
    rw[(yq w _ x t).2,c2];have:=bG t0 (cY hxw);by_cases ht:t=1
    ·rw[ht];grind
    ·have:=bv (show 0<1-t by grind) h
     grind
   exact⟨yj (s:=s) (by grind),fun r hr q=>NP nz ms hr mw hn ((rx q s).1 p1) ((rx q w).2.1 p2) h⟩
  ·rw[if_neg h]
   exact⟨x,Fz (fun r hr q=>h (Mi nz ms hr mw hn q)) htp (cY hc) hx,xP hx⟩
 ·-- x to the right of s
  have c3:jf x s=3:=AA.2 (by rw[sw];grind);have hno: ∀r∈ds,¬0<s.cross r:=fun r hr q=>hmin r hr (by
   by_cases k:jf x r=3
   ·exact .inr ⟨by rw[k,c3], .inr k,q⟩
   ·refine .inl ?_
    have:jf x r<=3:=by unfold jf;split<;>(try split)<;>(try split)<;>omega
    omega)
  have f4: ∀r∈ds,¬0<r.cross x:=fun r hr q=>hmin r hr (.inl (by rw[tI.2 (by rw[sw];grind),c3];decide));have sn:s.cross (bg s)=0:=by unfold aa.cross bg;grind
  have fneg:o8 ds (bg s):=⟨fun e=>by
   have e1:=congrArg aa.x e;have e2:=congrArg aa.y e;unfold bg at e1 e2;dsimp only at e1 e2;rw[Ie e1,Ie e2] at hsq;exact absurd hsq (by decide+kernel),fun r hr q=>f4 r hr ((rx q x).2.1 (by
    have:(bg s).cross x= -s.cross x:=by unfold aa.cross bg;grind
    rw[this];grind))⟩
  rw[if_neg (hno w mw)];refine⟨bg s,Fz hno htp (by rw[sn];exact dV) fneg,fun t t0 t1=>?_⟩;by_cases ht:t=1
  ·rw[ht,xX];exact hx
  ·have hq:0<(aF (bg s) x t).cross x:=by
    rw[(yq x _ x t).2,yw];have:(bg s).cross x= -s.cross x:=by unfold aa.cross bg;grind
    rw[this];have:=bv (show 0<1-t by grind) (show 0< -s.cross x by grind);grind
   exact⟨fun e=>by rw[e] at hq;unfold aa.cross at hq;grind,fun r hr q=>f4 r hr ((rx q x).2.1 hq)⟩
end
def RB{rs:List (List ZP)}{fill:Int}{p:aa}(hr: ∀r∈rs,b9 r){ds:List aa}(ha:ds.Pairwise b8)(nz: ∀d∈ds,d.half≠0)(hd: ∀u,i5 (ER rs) p u↔o8 ds u)(b:Bool):(∃v∈eG ds,lx rs fill p v b)↔ ∃x,i5 (ER rs) p x/\lx rs fill p x b:=by
 constructor
 ·rintro ⟨v,h1,h2⟩
  exact⟨v,(hd v).2 (Bl ha nz h1),h2⟩
 ·rintro ⟨x,h1,h2⟩
  obtain⟨v,hv,y,k1,k2⟩:=YI ha nz ((hd x).1 h1);obtain⟨c,hc⟩:=Ce (fill:=fill) hr ((hd v).2 (Bl ha nz hv));have h3:=F7 hr (fun s s0 s1=>(hd _).2 (k2 s s0 s1)) (F7 hr (fun s s0 s1=>(hd _).2 (k1 s s0 s1)) hc);rw[h3.uniq h2] at hc;exact⟨v,hv,hc⟩
def Yq(v:List aa):DV:= .sl (v.map eZ)
def Lp(v:List aa):DV:= .sl (v.map je)
def mt{α:Type}(f:α->Rat):List α->Rat
 |[]=>0
 |a::t=>f a+mt f t
def U'(f:aa->aa->Rat)(v:List aa):Rat:=mt (fun i=>f (v.getD i ⟨0,0⟩) (v.getD ((i+1)%v.length) ⟨0,0⟩)) (List.range v.length)
def aFc(c:bw):Rat:=mt (fun s=>(s.v.hi-s.v.lo)*(s.l.c:Rat)) c
def aGf(t:Tr):Prop:= ∃(L:List ab) (R:Rat),(∀l∈L,l.ok)/\ ∀p,im L p->Ub R p->t.val p=false
def vP{rs:List (List ZP)}{fill:Int}(hr: ∀r∈rs,b9 r):(pC rs fill).all ab.ok:=Bi fun f hf=>((qr hr).2 f hf).ok
def Lk(es:List Int):Nat->Nat->Tr×Nat
 |0,a=>qO es a
 |d+1,a=>
  let k:=aq es 3 a
  if(k.1:Int)=0 then
   let x:=Lk es d k.2
   let o:=aq es 4 x.2
   let y:=Lk es d o.2
   (x.1.mergeQ (1+(o.1:Int)) y.1 [],y.2)
  else qO es k.2
def Z1(f:aa->aa->Rat):Prop:= ∀(l:ab) (a b c:Rat),l.Ne->f (l.at a) (l.at c)=f (l.at a) (l.at b)+f (l.at b) (l.at c)
def Z7(f:aa->aa->Rat)(s:aP):Rat:=f (s.l.at s.v.lo) (s.l.at s.v.hi)
def Oq(f:aa->aa->Rat)(c:bw):Rat:=U' f (Bj (c.map (·.l)))
def R4(f:aa->aa->Rat)(t:Tr)(c:bw):Rat:=mt (fun x:Bool×bw=>if x.1 then Oq f x.2 else 0) (t.parts c)
def Z4(f:aa->aa->Rat)(t:Tr)(c:bw)(l:ab):Rat:=if e7 c l then R4 f t (gi c l) else 0
def YO(t:Tr)(c:bw):Prop:= ∀x∈t.parts c,x.1=true->WP x.2=true
def Wp(v:List aa):List (aa×aa):=(List.range v.length).map fun i=>(v.getD i ⟨0,0⟩,v.getD ((i+1)%v.length) ⟨0,0⟩)
def oF(cs:List (List ab)):List (aa×aa):=cs.flatMap fun c=>Wp (Bj c)
def ow(cs:List bw):List (List ab):=cs.map fun c=>c.map (·.l)
def edE(x:aa×aa):List DV:=[yN x.1 x.2,eF (x.1.cross x.2)]

def eCl(x:List ab×Bool):DV:= .ag [.sl (x.1.map eL),vB x.2]
def eSd(c:List ab):DV:= .sl (c.map eL)
def aGc(ps:List (List ab×Bool)):List (List ab):=(ps.filter (·.2)).map (·.1)
def eRp(v:List aa):DV:= .sl (v.map eP)
structure Kk (GB:Gh) (ai al ae au:Addr):Prop extends EG GB ai al ae where
 ErrUnbounded:GB 5=some [.iface 499 (.pointer (some au))]
def Z5(c:bw):List (List aa):=II (Bj (c.map (·.l)))
def Q3{v:List aa}(hb: ∀p∈v,az p 1200)(hn:v.length<=1000000):PF GB prog 105 [Yq v] (Lp v):=by
 have hml:(v.map eZ).length=v.length:=aK ..;refine fn (fu:=⟨15⟩) func105 J J ntmps105 J J (fun C=>?_);refine ak 7 (.d (vI (v.length:Nat))) J (by rw[hml]<;>rfl) ?_;refine gx J<|?_;refine nr 3 3 73 6 J J J ?_;refine lp (X:=Nat) (fun k=>[(8, .d (vI (k:Nat))),(3, .rw 3)]) (fun k=>[(3,some (.b 73 6 ((v.take k).map je) true))]) (fun k=>k<=v.length) (fun k=>v.length-k) 0 J (cV _) (fun _=>J) (fun k hk=>?_);have ham:((v.take k).map je).length=k:=by rw[aK,cZ];omega
 refine br J J J (fun hc9=>?_) (fun hc9=>?_)
 .
  obtain⟨p,hx⟩: ∃u,v[k]? =some u:=⟨_,aZ (by omega)⟩;haveI:=hb p (bQ hx);refine ix _ J (fj hx) J<|cl J (NV (p:=p) (i:=1200)) J<|rf J J<|ap ((v.take (k+1)).map je) J (by rw[dL,hx,dZ]<;>rfl) (LC [p]) J<|?_;refine ly 16 3 J ?_;exact at_ (k+1) ⟨(by omega),(by omega)⟩
 .
  have hS:v.take k=v:=aS (by omega);refine n5 3 J ?_;exact rz J (by rw[hS];rfl)


def Y9:List ZP:=[(0,0),(1,0),(0,1)]
structure EGS (GB:Gh) (ai al ae au ar:Addr):Prop extends Kk GB ai al ae au where
 ErrEmpty:GB 4=some [.iface 499 (.pointer (some ae))]
 ErrRange:GB 2=some [.iface 499 (.pointer (some ar))]
def Ma(r:List aa)(j:Nat):Nat->aa
 |0=>(((r.getD 0 ⟨0,0⟩).add (r.getD 1 ⟨0,0⟩)).add (r.getD 2 ⟨0,0⟩)).scale (((1:Int):Rat)/((3:Int):Rat))
 |k+1=>((Ma r j k).add (r.getD j ⟨0,0⟩)).scale (((1:Int):Rat)/((2:Int):Rat))
def Y6(ts:List (List aa))(i:Nat):aa:=Ma (ts.getD (i%ts.length) []) (i%3) (i/ts.length)
theorem az.mono{p:aa}{i j:Nat}(h:az p i)(hj:i<=j):az p j:=⟨h.x.mono hj,h.y.mono hj⟩
structure P5 (cs:List bw) (b:Nat):Prop where
 lb: ∀c∈cs,∀s∈c,LB s.l
 sh: ∀c∈cs,c.length<=100000
 ln:cs.length<=1000000
 pt: ∀x∈oF (ow cs),az x.1 b/\az x.2 b
def Hb(x:aa×aa):aa:=(x.1.add x.2).scale (x.1.cross x.2)
def HM{α:Type}(f:α->aa)(l:List α):aa:=⟨mt (fun x=>(f x).x) l,mt (fun x=>(f x).y) l⟩
def Ii{n:Int}{d:Nat}(hn:n.natAbs<=1000)(hd:0<d)(hd1:d<=1000):PF GB prog 64 [vI n, .v (.int .i64 (d:Nat))] (eQ (mkRat n d)):=by
 haveI:BI n 10:=GR (by omega);haveI:BN d 10:=⟨by omega⟩;refine fn func64 J J ntmps64 J J (fun C=>?_);refine cl J (J4 (n:=n) (by omega) (by omega)) J<|cl J (pH (u:=d) (by omega)) J<|cl J (wq (x:=n) (d:=d) hd) J<|?_;exact rz J J
def qF(es:List Int)(a:Nat):Rat×Nat:=
 (if((aq es 6 (aq es 9 a).2).1:Int)=0 then mkRat (2*(((aq es 9 a).1:Int)-4)+1) 2 else if((aq es 6 (aq es 9 a).2).1:Int)=1 then mkRat (3*(((aq es 9 a).1:Int)-4)+1) 3 else(((aq es 9 a).1:Rat)-4:Rat),(aq es 6 (aq es 9 a).2).2)
theorem Bt{es:List Int}{a:Nat}(ha:a<=es.length):BQ (qF es a).1 12/\(qF es a).2<=es.length:=by
 have h1:=jA (es:=es) (n:=9) (a:=a) (by decide);refine⟨?_,il (il ha)⟩;unfold qF;dsimp only;split
 ·exact tS (by decide) (by omega) (by decide)
 ·split
  ·exact tS (by decide) (by omega) (by decide)
  ·haveI:BI (((aq es 9 a).1:Int)-4:Int) 11:=GR (by omega)
   have e:((((aq es 9 a).1:Rat)-4):Rat)=((((aq es 9 a).1:Int)-4:Int):Rat):=by rw[lW];rfl
   rw[e];exact inferInstance
def ot(es:List Int)(a:Nat):aa×Nat:=(⟨(qF es a).1,(qF es (qF es a).2).1⟩,(qF es (qF es a).2).2)
theorem O9{es:List Int}{a:Nat}(ha:a<=es.length):az (ot es a).1 1200/\(ot es a).2<=es.length:=by
 obtain⟨h1,h2⟩:=Bt ha;obtain⟨h3,h4⟩:=Bt h2;exact⟨⟨h1.mono (by decide),h3.mono (by decide)⟩,h4⟩
def q9(z:Nat):(z:Rat)-4=(((z:Int)-4:Int):Rat):=by rw[lW];rfl
def xl:ab:=⟨1,0,0⟩
def aGv(es:List Int)(L:List ab)(a:Nat):aa×Nat:=
 if L.length=0 then ot es a else
 if((aq es 3 (aq es L.length a).2).1:Int)=0 then
  (if crossI (L.getD (aq es L.length a).1 xl) (L.getD (aq es L.length (aq es 3 (aq es L.length a).2).2).1 xl)≠0 then(jh (L.getD (aq es L.length a).1 xl) (L.getD (aq es L.length (aq es 3 (aq es L.length a).2).2).1 xl),(aq es L.length (aq es 3 (aq es L.length a).2).2).2) else ot es (aq es L.length (aq es 3 (aq es L.length a).2).2).2)
 else if((aq es 3 (aq es L.length a).2).1:Int)=1 then((L.getD (aq es L.length a).1 xl).at (qF es (aq es 3 (aq es L.length a).2).2).1,(qF es (aq es 3 (aq es L.length a).2).2).2) else ot es (aq es 3 (aq es L.length a).2).2
def KP{b:Nat}{es:List Int}(hes:es.length<=400){a:Nat}(ha:a<=es.length):PM GB prog 72 (i8 [none] b) b 126 [.sl (es.map vI), .v (.int .i64 (a:Nat))] (eQ (qF es a).1) [.sl (es.map vI), .v (.int .i64 ((qF es a).2:Nat))]:=by
 have h1:=jA (es:=es) (n:=9) (a:=a) (by decide);refine uD func72 J J ntmps72 J J (fun C b m lo hmb=>?_);refine cm J (fun b=>(oG (n:=9) hes ha (by decide) (by decide))) J<|cm J (fun b=>(oG (n:=6) hes (il ha) (by decide) (by decide))) J<|?_;refine br J J J (fun hc9=>?_) (fun hc9=>?_)
 .
  refine cl J (Ii (n:=2*(((aq es 9 a).1:Int)-4)+1) (d:=2) (by omega) (by decide) (by decide)) J<|?_;exact j0 hmb J J (by unfold qF;dsimp only;rw[if_pos hc9];rfl) J
 .
  refine br J J J (fun hc15=>?_) (fun hc15=>?_)
  .
   refine cl J (Ii (n:=3*(((aq es 9 a).1:Int)-4)+1) (d:=3) (by omega) (by decide) (by decide)) J<|?_;exact j0 hmb J J (by unfold qF;dsimp only;rw[if_neg hc9,if_pos hc15];rfl) J
  .
   refine cl J (xa (n:=(((aq es 9 a).1:Int)-4)) (by omega) (by omega)) J<|?_;exact j0 hmb J J (by unfold qF;dsimp only;rw[if_neg hc9,if_neg hc15,q9];rfl) J
def Tn{b:Nat}{es:List Int}(hes:es.length<=400){a:Nat}(ha:a<=es.length):PM GB prog 36 (i8 [none] b) b 126 [.sl (es.map vI), .v (.int .i64 (a:Nat))] (eP (ot es a).1) [.sl (es.map vI), .v (.int .i64 ((ot es a).2:Nat))]:=by
 refine uD func36 J J ntmps36 J J (fun C b m lo hmb=>?_);refine cm J (fun b=>(KP hes ha)) J<|cm J (fun b=>(KP hes (Bt ha).2)) J<|?_;exact j0 hmb J J J J

structure ZA (GB:Gh) (ai al ae au:Addr):Prop extends Kk GB ai al ae au where
 ErrEmpty:GB 4=some [.iface 499 (.pointer (some ae))]
def Vf(x:aa×aa):Rat:=(x.1.x*x.1.x+x.2.x*x.2.x+(x.1.add x.2).x*(x.1.add x.2).x)*x.1.cross x.2
def SF(x:aa×aa):Rat:=(x.1.x*x.1.y+x.2.x*x.2.y+(x.1.add x.2).x*(x.1.add x.2).y)*x.1.cross x.2
def Sm(x:aa×aa):Rat:=(x.1.y*x.1.y+x.2.y*x.2.y+(x.1.add x.2).y*(x.1.add x.2).y)*x.1.cross x.2
structure aGs (cs:List bw):Prop where
 ed:P5 cs 1200
 cr: ∀x∈oF (ow cs),BQ (x.1.cross x.2) 5000
 ar: ∀k,BQ (mt (fun x=>x.1.cross x.2) ((oF (ow cs)).take k)) 2000000
 mo: ∀k,az (HM Hb ((oF (ow cs)).take k)) 3000000
 sa: ∀k,BQ (mt Vf ((oF (ow cs)).take k)) 4000000
 sb: ∀k,BQ (mt SF ((oF (ow cs)).take k)) 4000000
 sc: ∀k,BQ (mt Sm ((oF (ow cs)).take k)) 4000000
def YX(t:Tr):Rat:=mt (fun x=>x.1.cross x.2) (oF (ow (EB t)))*mkRat 1 2
def Y'(t:Tr):aa:=(HM Hb (oF (ow (EB t)))).scale (((1:Int):Rat)/((6:Int):Rat))
def ZF:DV:= .ag [vB false, .sl [], .sl []]
def Y8:DV:= .ag [vB false, .sl [], .sl [],vB false, .sl [], .sl []]
def Rv:Rat:=((1:Int):Rat)/((24:Int):Rat)
def Zr(f:aa×aa->Rat)(t:Tr):Rat:=mt f (oF (ow (EB t)))*Rv
structure DQ (D B:Nat) (x:Rat):Prop where
 ex: ∃n:Int,x*((D:Nat):Rat)=(n:Rat)/\n.natAbs<=B*D
def Tl(l m:ab):Nat:=if crossI l m=0 then 1 else(crossI l m).natAbs
def PD(K:List ab):List Nat:=K.flatMap fun l=>K.map (Tl l)
def YN(K:List ab):Nat:=(PD K).foldr (· * ·) 1
structure DP (D B:Nat) (p:aa):Prop where
 x:DQ D B p.x
 y:DQ D B p.y

def eM(a b c d e f:Rat):DV:= .ag [(.v (.bool (decide ((a).num<0)))),(dN (a).num.natAbs),(dD (a).den),(.v (.bool (decide ((b).num<0)))),(dN (b).num.natAbs),(dD (b).den),(.v (.bool (decide ((c).num<0)))),(dN (c).num.natAbs),(dD (c).den),(.v (.bool (decide ((d).num<0)))),(dN (d).num.natAbs),(dD (d).den),(.v (.bool (decide ((e).num<0)))),(dN (e).num.natAbs),(dD (e).den),(.v (.bool (decide ((f).num<0)))),(dN (f).num.natAbs),(dD (f).den)]
def zq3:List DV:=[.v (.bool (decide ((0:Rat).num<0))),dN (0:Rat).num.natAbs,dD (0:Rat).den]

def SQ{C:aA}{n:Nat}{Q0:Exit->Act->World->Prop}{fr fr':ao}{own own':aC}{cf cf':Cf}{vc:List Prop}[fu:Fu]{f:FuncId}{ds:List DV}(ha:t7 fr cf=some (f,ds))(hF:PF GB prog f ds (.v (.bool true)))(hgo:cg tt n fu.n fr own cf .tt [] []=⟨vc,fr',own',cf'⟩)(k:aj prog GB C n Q0 fr' own' cf')
  (hv:ah vc:=by first|exact trivial|(simp only[ah];kernel_rfl)|(simp only[ah];omega)):aj prog GB C n Q0 fr own cf:=by
 unfold t7 at ha;split at ha<;>try (cases ha;done)
 rename_i hh;exact us hh (bD.to (g:= .tt) (Dq ha hF) fun ρ G y hy=>(bt (G:=G)).1 hy) hgo hv k
def UI:List ZP:=[(0,0),(2,0),(2,2),(0,2)]
def Zi:Tr:=d4 [UI] 2


def V'(n q p:aa)(e:Rat):n.dot (aF q p e)=n.dot q+e*(n.dot p-n.dot q):=by
 unfold aa.dot aF;grind
def kD(M:List ab)(E:List (aa×aa)):Prop:= ∀f∈E,∃m∈M,m.value f.1=0/\m.value f.2=0
def FJ(m:ab)(a p:aa):m.nor.dot ⟨a.x-p.x,a.y-p.y⟩=m.value a-m.value p:=by
 rw[kE,kE];unfold ab.nor aa.dot;dsimp only;grind
def XY(n:aa)(k:Rat)(r:aa):n.dot ⟨k*r.x,k*r.y⟩=k*n.dot r:=by unfold aa.dot;dsimp only;grind
def vw{M:List ab}{E:List (aa×aa)}(hM:kD M E){p v:aa}(hv:v≠⟨0,0⟩)(hg:Gn M p v):i5 E p v:=⟨hv,fun f hf r ⟨ho,hr⟩ ⟨k,k0,e⟩=>by
 obtain⟨m,hm,h1,h2⟩:=hM f hf;obtain⟨s,s0,s1,es⟩:=ho;have hp:m.value p=0:=by rw[es,l8,h1,h2];grind
 refine hg m hm hp ?_;rw[e,XY];rcases hr with⟨rfl,_⟩|⟨rfl,_⟩
 ·rw[FJ,h2,hp];grind
 ·rw[FJ,h1,hp];grind⟩
def W3{M:List ab}{E:List (aa×aa)}(hM:kD M E)(ok: ∀l∈M,l.ok){p x:aa}(hx:i5 E p x): ∃w,Gn M p w/\w≠⟨0,0⟩/\ ∀s,0<=s->s<=1->i5 E p (aF x w s):=by
 by_cases h0: ∃m∈M,m.value p=0
 ·obtain⟨m0,hm0,z0⟩:=h0
  obtain⟨w,g1,g2⟩:=Cg (L:=M.filter fun l=>decide (l.nor.dot x≠0)) (M:=M) (p:=p) (v:=x) ok fun l hl _=>by simpa using (gL.1 hl).2
  have nz: ∀{u:aa} {n:aa},n.dot u≠0->u≠⟨0,0⟩:=fun h e=>h (by rw[e];unfold aa.dot;grind);refine⟨w,g1,nz (g1 m0 hm0 z0),fun s s0 s1=>?_⟩;by_cases hs:s=0
  ·rw[hs,Dt];exact hx
  ·have key: ∀m∈M,m.value p=0->m.nor.dot (aF x w s)≠0:=fun m hm hz=>by
    rw[V'];have hw:=g1 m hm hz;by_cases k:m.nor.dot x=0
    ·rw[k]
     intro e;have e':s*m.nor.dot w=0:=by grind
     exact(cK.1 e').elim hs hw
    ·have hsg:=g2 m (gL.2 ⟨hm,decide_eq_true k⟩) hz
     generalize m.nor.dot x=a at*;generalize m.nor.dot w=b at*;rcases dC a with q|q|q
     ·exact absurd q k
     ·have hb:0<b:=(io _).1 (by rw[<-hsg];exact(io _).2 q)
      have m1:=bG (show 0<=1-s by grind) (cY q);have m2:=bv (show 0<s by grind) hb;grind
     ·have hb:b<0:=(lD _).1 (by rw[<-hsg];exact(lD _).2 q)
      have m1:=bG (show 0<=1-s by grind) (show 0<= -a by grind);have m2:=bv (show 0<s by grind) (show 0< -b by grind);grind
   exact vw hM (nz (key m0 hm0 z0)) fun m hm hz=>key m hm hz
 ·exact⟨x,fun l hl hz=>absurd ⟨l,hl,hz⟩ h0,hx.1,fun s _ _=>by rw[xz];exact hx⟩
def MK:oB.ok:=by unfold ab.ok oB;decide
section
variable {rs:List (List ZP)} {fill:Int} {p:aa}
def og(rs:List (List ZP))(fill:Int)(p:aa)(b:Bool):Prop:= ∃x,i5 (ER rs) p x/\lx rs fill p x b
def TO(hr: ∀r∈rs,b9 r){M:List ab}(hM:kD M (ER rs))(ok: ∀l∈M,l.ok){b:Bool}:og rs fill p b↔ ∃w,w≠⟨0,0⟩/\Gn M p w/\lx rs fill p w b:=by
 constructor
 ·rintro ⟨x,h1,h2⟩
  obtain⟨w,w1,w2,w3⟩:=W3 hM ok h1;exact⟨w,w2,w1,F7 hr w3 h2⟩
 ·rintro ⟨w,w1,w2,w3⟩
  exact⟨w,vw hM w1 w2,w3⟩
def Oh(hr: ∀r∈rs,b9 r){M:List ab}(hM:kD M (ER rs))(ok: ∀l∈M,l.ok):og rs fill p true\/og rs fill p false:=by
 obtain⟨w,hw⟩:=IG (M:=oB::M) (fun l hl=>by rcases aU.1 hl with rfl|hl;exact MK;exact ok l hl) p;by_cases h0:w=⟨0,0⟩
 ·-- no line of M runs through p
  have hf:i5 (ER rs) p ⟨1,0⟩:=vw hM (by simp) fun l hl hz=>by
   have:=hw l (aJ _ hl) hz;rw[h0] at this;exact absurd (by unfold aa.dot;grind) this
  obtain⟨b,hb⟩:=Ce (fill:=fill) hr hf
  cases b with
  |true=>exact .inl ⟨_,hf,hb⟩
  |false=>exact .inr ⟨_,hf,hb⟩
 ·have hf:=vw hM h0 fun l hl=>hw l (aJ _ hl)
  obtain⟨b,hb⟩:=Ce (fill:=fill) hr hf
  cases b with
  |true=>exact .inl ⟨_,hf,hb⟩
  |false=>exact .inr ⟨_,hf,hb⟩
def RJ(hr: ∀r∈rs,b9 r){v:aa}{s:Rat}(h0:0<s)(hv:i5 (ER rs) p v)(hs: ∀f∈ER rs,¬gl f.1 f.2 p-> ∀t,0<t->t<=s-> ¬gl f.1 f.2 (bc p v t)):lx rs fill p v (dE rs fill (bc p v s)):=by
 refine⟨s,h0,fun d d0 d1=>?_⟩;refine(A8 (q:=bc p v d) (p:=bc p v s) fun f hf a t a0 a1 t0 t1 h=>?_).symm;rw[yT] at h;have q0:0<d+t*(s-d):=by
  have:=bG t0 (show 0<=s-d by grind);grind
 have q1:d+t*(s-d)<=s:=by
  have:=bG (show 0<=1-t by grind) (show 0<=s-d by grind);grind
 have ho:gl f.1 f.2 (bc p v (d+t*(s-d))):=⟨a,a0,a1,h.symm⟩;by_cases hp:gl f.1 f.2 p
 ·obtain⟨r,r1,r2⟩:=Nt (AC hr f hf) q0 hv.1 hp ho
  exact hv.2 f hf r r1 r2
 ·exact hs f hf hp _ q0 q1 ho
def yo(hr: ∀r∈rs,b9 r){M:List ab}(hM:kD M (ER rs))(ok: ∀l∈M,l.ok)(b:Bool):od (d4 rs fill) p b↔og rs fill p b:=by
 have hraw:=vP (fill:=fill) hr;have hb:(d4 rs fill).all ab.ok:=Tr.restrict_all ab.ok _ _ hraw
 -- all lines in sight
 have okA: ∀l∈(oB::M)++((pC rs fill).lns++(d4 rs fill).lns),l.ok:=fun l hl=>by
  rcases bV.1 hl with h|h
  ·rcases aU.1 h with rfl|h
   ·exact MK
   ·exact ok l h
  ·exact(bV.1 h).elim (qI hraw l) (qI hb l)
 have hMA:kD ((oB::M)++((pC rs fill).lns++(d4 rs fill).lns)) (ER rs):=fun f hf=>by
  obtain⟨m,h1,h2⟩:=hM f hf;exact⟨m,bU _ (aJ _ h1),h2⟩
 have same: ∀{w:aa},Gn ((oB::M)++((pC rs fill).lns++(d4 rs fill).lns)) p w-> ∃e:Rat,0<e/\ ∀d,0<d->d<=e->(fC (d4 rs fill) p w).1=dE rs fill (bc p w d):=fun{w} hw=>by
  obtain⟨e1,a1,b1⟩:=Ay (t:=pC rs fill) fun l hl=>hw l (bN _ (bU _ hl));obtain⟨e2,a2,b2⟩:=Ay (t:=d4 rs fill) fun l hl=>hw l (bN _ (bN _ hl));obtain⟨e,c1,c2,c3⟩:=min2 a1 a2;refine⟨e,c1,fun d d0 d1=>?_⟩;rw[(b2 d d0 (by grind)).2,VV hr (b1 d d0 (by grind)).1]
 constructor
 ·intro h
  obtain⟨w,w1,w2⟩:=O6 h okA;obtain⟨e,e0,he⟩:=same w1;have hger:lx rs fill p w b:=⟨e,e0,fun d d0 d1=>by rw[<-he d d0 d1,w2]⟩;by_cases h0:w=⟨0,0⟩
  ·have hf:i5 (ER rs) p ⟨1,0⟩:=vw hM (by simp) fun l hl hz=>by
    have:=w1 l (bU _ (aJ _ hl)) hz;rw[h0] at this;exact absurd (by unfold aa.dot;grind) this
   -- p lies on no line at all
   have hoff: ∀f∈ER rs,¬gl f.1 f.2 p:=fun f hf ⟨s,s0,s1,es⟩=>by
    obtain⟨m,h1,h2,h3⟩:=hM f hf;have hp:m.value p=0:=by rw[es,l8,h2,h3];grind
    have:=w1 m (bU _ (aJ _ h1)) hp;rw[h0] at this;exact this (by unfold aa.dot;grind)
   obtain⟨e3,a3,b3⟩:=AF (AC hr) p ⟨1,0⟩ ⟨1,0⟩;refine⟨⟨1,0⟩,hf,e3,a3,fun d d0 d1=>?_⟩;have hpb:dE rs fill p=b:=by
    have:=he e e0 dV;rw[h0,show bc p ⟨0,0⟩ e=p by unfold bc;cases p;simp only[aa.mk.injEq];constructor<;>grind] at this;rw[<-this,<-w2,h0]
   rw[<-hpb];refine A8 (q:=p) (p:=bc p ⟨1,0⟩ d) fun f hf a t a0 a1 t0 t1 h=>?_;have e4:aF p (bc p ⟨1,0⟩ d) t=bc p (aF ⟨1,0⟩ ⟨1,0⟩ 0) (t*d):=by rw[xz];unfold aF bc;simp only[aa.mk.injEq];constructor<;>grind
   rw[e4] at h;have:=bG (show 0<=1-t by grind) (cY d0);exact b3 f hf (hoff f hf) (t*d) 0 (bG t0 (cY d0)) (by grind) (by decide) (by decide) ⟨a,a0,a1,h.symm⟩
  ·exact⟨w,vw hMA h0 w1,hger⟩
 ·intro h
  obtain⟨w,w1,w2,e,e0,he⟩:=(TO hr hMA okA).1 h;obtain⟨e2,a2,b2⟩:=same w2;obtain⟨d,c1,c2,c3⟩:=min2 e0 a2;refine⟨w,Js fun l hl=>w2 l (bN _ (bN _ hl)),?_⟩;rw[b2 d c1 c3,he d c1 c2]
end
def N0{rs:List (List ZP)}(hr: ∀r∈rs,b9 r){ls:List ab}(hl: ∀f∈bH rs,f.l∈ls):kD (my ls) (ER rs):=fun f hf=>by
 obtain⟨r,h1,h2⟩:=cS.1 hf;obtain⟨k,hk,rfl⟩:=bX.1 h2;have hk':=iK.1 hk;have he:ba (r.getD k (0,0)) (de r k)∈bH rs:=cS.2 ⟨r,h1,wW hk'⟩;obtain⟨g,_,z1,z2,_⟩:=Dj ((hr r h1).ne k hk');refine⟨_,TB (hl _ he),?_,?_⟩
 ·rcases FU (ba (r.getD k (0,0)) (de r k)).l (r.getD k (0,0)).q with e|e<;>rw[e]
  ·exact z1
  ·rw[show(ba (r.getD k (0,0)) (de r k)).l.value (r.getD k (0,0)).q=0 from z1];rfl
 ·rcases FU (ba (r.getD k (0,0)) (de r k)).l (de r k).q with e|e<;>rw[e]
  ·exact z2
  ·rw[show(ba (r.getD k (0,0)) (de r k)).l.value (de r k).q=0 from z2];rfl
section
variable {rs:List (List ZP)} {fill:Int} {L:List ab} {p:aa}
def XM(hr: ∀r∈rs,b9 r)(h:sr L)(hM:kD L (ER rs)){vs:List aa}{q:aa->aa}(hv: ∀b,(∃v∈vs,dE rs fill (q v)=b)↔og rs fill p b):gy (d4 rs fill) p=if(vs.any fun v=>dE rs fill (q v))&&vs.all (fun v=>dE rs fill (q v)) then 2 else if vs.any fun v=>dE rs fill (q v) then 1 else 0:=by
 have hb:(d4 rs fill).all ab.ok:=Tr.restrict_all ab.ok _ _ (vP hr);have hd:=yo (p:=p) (fill:=fill) hr hM h.ok;have a1:(vs.any fun v=>dE rs fill (q v))=true↔og rs fill p true:=by rw[<-hv,jL]
 have a2:(vs.all fun v=>dE rs fill (q v))=true↔ ¬og rs fill p false:=by
  rw[<-hv,dR];constructor
  ·rintro k ⟨v,v1,v2⟩;rw[k v v1] at v2;cases v2
  ·intro k v hv'
   cases e:dE rs fill (q v) with
   |true=>rfl
   |false=>exact absurd ⟨v,hv',e⟩ k
 have hs:=Oh (p:=p) (fill:=fill) hr hM h.ok
 cases b1:vs.any fun v=>dE rs fill (q v) with
 |false=>
  have n1: ¬og rs fill p true:=fun k=>by rw[a1.2 k] at b1;cases b1
  simp only[Bool.false_and,gU,if_false];exact(tO hb).2 fun k=>n1 ((hd true).1 k)
 |true=>
  cases b2:vs.all fun v=>dE rs fill (q v) with
  |true=>
   simp only[Bool.and_self,if_true];exact(uC hb).2 fun k=>a2.1 b2 ((hd false).1 k)
  |false=>
   simp only[Bool.true_and,gU,if_false,if_true];have n2:og rs fill p false:=Classical.byContradiction fun k=>by rw[a2.2 k] at b2;cases b2
   have c0:gy (d4 rs fill) p≠0:=fun k=>(tO hb).1 k ((hd true).2 (a1.1 b1));have c2:gy (d4 rs fill) p≠2:=fun k=>(uC hb).1 k ((hd false).2 n2);rcases Ed (d4 rs fill) p with k|k|k
   ·exact absurd k c0
   ·exact k
   ·exact absurd k c2
end
end Go.Sx
end
