import Derived.Test.YtefoocgiaegobaaGreatDoorPh16
set_option linter.all false
set_option maxHeartbeats 2000000
set_option maxRecDepth 100000
section
namespace Go.Sx
open Go Go.Proofs Tryz
variable {GB:Gh}
def FR{l:ab}: ∀{c:List ab} {v:ao},(pn l c v).2=true->iG l c v=some (pn l c v).1
 |[],v,_=>rfl
 |m::t,v,h=>by
  rw[pn] at h⊢;rw[iG];split
  ·rename_i e;rw[if_pos e] at h;exact FR h
  ·rename_i e
   rw[if_neg e] at h;split
   ·rename_i k;rw[if_pos k] at h;exact FR h
   ·rename_i k;rw[if_neg k] at h;cases h
def Nv{v:ao}(h:v.Pos):v.ins (Ah v):=by
 obtain⟨lo,hi,nl,nh⟩:=v;unfold ao.Pos at h;unfold Ah ao.ins
 cases nl<;>cases nh<;>simp at* <;>grind
def Me{p v:aa}: ∀{c:List ab} {s:Rat},0<s->0<uC p v c s/\uC p v c s<=s/\ ∀m∈c,0<m.value p->m.nor.dot v<0->uC p v c s<= -(m.value p/m.nor.dot v)/2
 |[],s,h=>⟨h,gS,fun m hm=>by cases hm⟩
 |m::t,s,h=>by
  have hk:m.value (cd p v ((1:Int):Rat))-m.value p=m.nor.dot v:=by rw[ie];grind
  have key:0<yb p v m s/\yb p v m s<=s/\(0<m.value p->m.nor.dot v<0->yb p v m s<= -(m.value p/m.nor.dot v)/2):=by
   unfold yb Bc;simp only[hk,ke,mD,CA];split
   ·rename_i e;exact⟨h,gS,fun _ k=>by rw[e] at k;exact absurd k (by decide)⟩
   ·split
    ·rename_i e;exact⟨h,gS,fun k=>by rw[e] at k;exact absurd k (by decide)⟩
    ·split
     ·rename_i e
      split
      ·exact⟨by grind,by grind,fun _ _=>gS⟩
      ·exact⟨h,gS,fun _ _=>by grind⟩
     ·rename_i e
      exact⟨h,gS,fun k1 k2=>absurd (GC k2 k1) e⟩
  obtain⟨a1,a2,a3⟩:=key;obtain⟨b1,b2,b3⟩:=Me (p:=p) (v:=v) (c:=t) a1;rw[uC];refine⟨b1,by grind,fun u hu k1 k2=>?_⟩;rcases aU.1 hu with rfl|hu
  ·have:=a3 k1 k2;grind
  ·exact b3 u hu k1 k2
def U'{c:List ab}{p v:aa}(h: ∀m∈c,0<m.value p\/(m.value p=0/\0<m.nor.dot v)):ek c (y9 c p v):=fun m hm=>by
 obtain⟨s0,_,s2⟩:=Me (p:=p) (v:=v) (c:=c) (s:=((1:Int):Rat)) (by decide);unfold y9;generalize uC p v c ((1:Int):Rat)=s at*;rw[ie];rcases h m hm with k|⟨k,k2⟩
 ·by_cases q:m.nor.dot v<0
  ·have h3:=s2 m hm k q
   have h4:=GC q k;have e:m.value p/m.nor.dot v*m.nor.dot v=m.value p:=by grind
   generalize m.value p/m.nor.dot v=z at*;have h5:=er (a:= -z/2-s) (b:= -m.nor.dot v) (by grind) (by grind);grind
  ·have:=er (fQ s0) (show 0<=m.nor.dot v by grind)
   grind
 ·have:=b9 s0 k2
  grind
def XL{m:ab}(h:m.Ne):0<m.nor.dot (jl m.dir):=by
 have:=n4 h;have e:m.nor.dot (jl m.dir)=m.nor.dot m.nor:=by unfold jl ab.dir ab.nor aa.dot;grind
 rw[e];exact this
def Vb{c:List ab}(hok: ∀m∈c,m.ok)(hb:uk c=true):ek c (vw c c):=by
 have key: ∀t:List ab,(∀m∈t,m∈c)->(∃m∈t,(iG m c ao.all).isSome=true)->ek c (vw c t):=by
  intro t
  induction t with
  |nil=>rintro _ ⟨m,hm,_⟩;cases hm
  |cons m t ih=>
   intro hs hx;rw[vw];split
   ·rename_i e
    obtain⟨h1,h2⟩:=AD m c _ _ vA (FR e);have h3:=((h2 _).1 (Nv h1)).2;have hmo:=(hok m (hs m aQ)).ne;refine U' fun u hu=>?_;by_cases q:u=m
    ·subst q;exact .inr ⟨rm hmo _,XL hmo⟩
    ·exact .inl (h3 u hu q)
   ·rename_i e
    refine ih (fun u hu=>hs u (aZ _ hu)) ?_;obtain⟨u,hu,h⟩:=hx;rcases aU.1 hu with rfl|hu
    ·rw[FL] at e;exact absurd h e
    ·exact⟨u,hu,h⟩
 unfold uk at hb;rw[iN,List.isEmpty_iff,jR] at hb;rcases hb with rfl|⟨m,hm,h⟩
 ·exact fun m hm=>by cases hm
 ·exact key c (fun _ h=>h) ⟨m,hm,h⟩
def ek.seg{c:List ab}{q p:aa}{e:Rat}(hq:ek c q)(hp:ek c p)(h0:0<=e)(h1:e<=1):ek c (bp q p e):=fun m hm=>by
 rw[ku];have a:=hq m hm;have b:=hp m hm;by_cases z:e=0
 ·subst z;grind
 ·have k1:=b9 (show 0<e by grind) b
  have k2:=er (show 0<=1-e by grind) (fQ a);grind
def ek.open{c:List ab}{q:aa}(u:aa)(h:ek c q): ∃e:Rat,0<e/\ ∀d,0<=d->d<=e->ek c (cd q u d):=by
 have hd:bH (c.map fun m=>(⟨m,ao.all⟩:aP)) q:=fun s hs=>by
  obtain⟨m,hm,rfl⟩:=bW.1 hs;exact h m hm
 obtain⟨e,he,ho⟩:=hd.open u;exact⟨e,he,fun d d0 d1 m hm=>ho d d0 d1 ⟨m,ao.all⟩ (kX hm)⟩
def Fj(l:ab)(t u:Rat):l.at (t+u)=cd (l.at t) l.dir u:=by
 rw[<-sH,<-sH];unfold cd;simp only[aa.mk.injEq];constructor<;>grind
def S0(l:ab)(a b s:Rat):bp (l.at a) (l.at b) s=l.at (a+s*(b-a)):=by
 rw[<-sH,<-sH,<-sH];unfold bp cd;simp only[aa.mk.injEq];constructor<;>grind
def KM{l:ab}(h:l.Ne)(t:Rat):eH l (l.at t)=t:=by
 obtain⟨q,_,hq⟩:=xJ h;have h2:=n4 h;have e0:l.dir.dot l.dir=l.nor.dot l.nor:=by unfold ab.dir ab.nor aa.dot;grind
 have e1:(l.at t).dot l.dir=t*l.dir.dot l.dir:=by
  rw[<-sH,hq];unfold cd ab.dir aa.dot;grind
 unfold eH;rw[e1];rw[<-e0] at h2;generalize l.dir.dot l.dir=d at*;have:d≠0:=by grind
 grind
def O6{l:ab}(h:l.Ne){p:aa}(hp:l.value p=0):l.at (eH l p)=p:=by
 obtain⟨t,rfl⟩:=yj h hp;rw[KM h]
def FU(a:Int){g:Nat}(h:g∣a.natAbs):(g:Int)*zv (decide (a<0)) (a.natAbs/g)=a:=by
 obtain⟨k,hk⟩:=h;by_cases g0:g=0
 ·subst g0;simp at hk⊢;omega
 have e:a.natAbs/g=k:=by rw[hk];exact qL k (iZ g0)
 rw[e];unfold zv;have hc:((g*k:Nat):Int)=(g:Int)*(k:Int):=by push_cast;rfl
 by_cases n:a<0
 ·simp only[n,decide_true,if_true];rw[Int.mul_neg];omega
 ·simp only[n,decide_false];show(g:Int)*(k:Int)=a;omega
def Pe{a b c:Int}(h: ¬(a=0/\b=0)): ∃g:Int,0<g/\g*(gm a b c).a=a/\g*(gm a b c).b=b/\g*(gm a b c).c=c:=by
 have hg:0<Nat.gcd (Nat.gcd a.natAbs b.natAbs) c.natAbs:=kS _ (iZ fun e=>h ⟨kR.1 (lT e),kR.1 (lV e)⟩);refine⟨(Nat.gcd (Nat.gcd a.natAbs b.natAbs) c.natAbs:Nat),by omega,?_,?_,?_⟩
 ·exact FU a (nL (iT _ _) (iT _ _))
 ·exact FU b (nL (iT _ _) (jM _ _))
 ·exact FU c (jM _ _)
def J9{v w:ZP}(h:v≠w): ∃g:Rat,0<g/\(jo v.1 v.2 w.1 w.2).value v.q=0/\(jo v.1 v.2 w.1 w.2).value w.q=0/\w.q=cd v.q (jo v.1 v.2 w.1 w.2).dir g:=by
 obtain⟨m,n⟩:=v;obtain⟨p,q⟩:=w;have hne: ¬(jE n q=0/\j0 m p=0):=fun e=>h (by unfold jE j0 at e;rw[Prod.mk.injEq];omega);obtain⟨g,g0,ga,gb,gc⟩:=Pe (c:=pm m n p q) hne;dsimp only;unfold jo;generalize gm (jE n q) (j0 m p) (pm m n p q)=l at*;have g0':(0:Rat)<(g:Rat):=by exact_mod_cast g0
 have ra:(g:Rat)*(l.a:Rat)= -((q:Rat)-(n:Rat)):=by rw[<-cR,ga];unfold jE;push_cast;grind
 have rb:(g:Rat)*(l.b:Rat)=(p:Rat)-(m:Rat):=by rw[<-cR,gb];unfold j0;push_cast;grind
 have rc:(g:Rat)*(l.c:Rat)= -(-((q:Rat)-(n:Rat))*(m:Rat)+((p:Rat)-(m:Rat))*(n:Rat)):=by rw[<-cR,gc];unfold pm jE j0;push_cast;grind
 have z: ∀x:Rat,(g:Rat)*x=0->x=0:=fun x hx=>by
  rcases oM.1 hx with e|e
  ·rw[e] at g0';exact absurd g0' (by decide)
  ·exact e
 refine⟨g,g0',z _ ?_,z _ ?_,?_⟩
 ·rw[me];unfold ZP.q iP;dsimp only;grind
 ·rw[me];unfold ZP.q iP;dsimp only;grind
 ·unfold ZP.q iP cd ab.dir;simp only[aa.mk.injEq];constructor<;>grind
def GT{v w:ZP}(h:v≠w)(ho:(dq v w).l.ok):(dq v w).l.at (dq v w).v.lo=v.q/\(dq v w).l.at (dq v w).v.hi=w.q/\(dq v w).v.lo<(dq v w).v.hi:=by
 obtain⟨g,g0,h1,h2,h3⟩:=J9 h;unfold dq at ho⊢;dsimp only at ho⊢;generalize jo v.1 v.2 w.1 w.2=l at*;have e1:=O6 ho.ne h1;have e2:=O6 ho.ne h2;refine⟨e1,e2,?_⟩;have:eH l w.q=eH l v.q+g:=by
  have e3:=Fj l (eH l v.q) g;rw[e1,<-h3] at e3;rw[<-e3,KM ho.ne]
 rw[this];grind
def Hs{r:List ZP}{k:Nat}: ∀{n:Nat},k<n->dq (r.getD k (0,0)) (fe r k)∈lf r n
 |n+1,h=>by
  rw[lf];by_cases e:k=n
  ·subst e;exact cZ _ (aV.2 J)
  ·exact bJ _ (Hs (by omega))
def RZ{r:List ZP}(hr:fG r){c:List ab}(hc: ∀e∈iv r,∀t,e.v.ins t-> ¬ek c (e.l.at t)){q p:aa}(hq:ek c q)(hp:ek c p):xf r q p:=fun k hk s t s0 s1 t0 t1 he=>by
 have hm:dq (r.getD k (0,0)) (fe r k)∈iv r:=Hs hk;have ho:=((u6 hr).2 _ hm).ok;obtain⟨e1,e2,e3⟩:=GT (hr.ne k hk) ho;have hno:=hc _ hm;have hx:=hq.seg hp t0 t1;rw[<-he,<-e1,<-e2,S0] at hx;have hv: ∀u,(dq (r.getD k (0,0)) (fe r k)).v.lo<u->u<(dq (r.getD k (0,0)) (fe r k)).v.hi-> ¬ek c ((dq (r.getD k (0,0)) (fe r k)).l.at u):=fun u h1 h2=>hno u ⟨.inr h1, .inr h2⟩;generalize dq (r.getD k (0,0)) (fe r k)=e at*;have hb:=Ep s0 s1 (gS) (fQ e3) (fQ e3) (gS);generalize e.v.lo+s*(e.v.hi-e.v.lo)=u at*;obtain⟨d,d0,hd⟩:=hx.open e.l.dir;obtain⟨d',d0',hd'⟩:=hx.open (bO e.l.dir);by_cases h1:e.v.lo<u
 ·by_cases h2:u<e.v.hi
  ·exact hv u h1 h2 hx
  ·have eu:u=e.v.hi:=by grind
   obtain⟨z,z0,z1,z2⟩: ∃z:Rat,0<z/\z<=d'/\z<e.v.hi-e.v.lo:=by
    by_cases k:d'<(e.v.hi-e.v.lo)/2
    ·exact⟨d',d0',gS,by grind⟩
    ·exact⟨(e.v.hi-e.v.lo)/2,by grind,by grind,by grind⟩
   refine hv (u+ -z) (by grind) (by grind) ?_;rw[Fj];have:=hd' z (fQ z0) z1;have e5:cd (e.l.at u) (bO e.l.dir) z=cd (e.l.at u) e.l.dir (-z):=by unfold cd bO;simp only[aa.mk.injEq];constructor<;>grind
   rw[e5] at this;exact this
 ·have eu:u=e.v.lo:=by grind
  obtain⟨z,z0,z1,z2⟩: ∃z:Rat,0<z/\z<=d/\z<e.v.hi-e.v.lo:=by
   by_cases k:d<(e.v.hi-e.v.lo)/2
   ·exact⟨d,d0,gS,by grind⟩
   ·exact⟨(e.v.hi-e.v.lo)/2,by grind,by grind,by grind⟩
  refine hv (u+z) (by grind) (by grind) ?_;rw[Fj];exact hd z (fQ z0) z1
def Ip{rs:List (List ZP)}{fill:Int}(hr: ∀r∈rs,fG r){c:List ab}(hc: ∀e∈cI rs,∀t,e.v.ins t-> ¬ek c (e.l.at t)){q p:aa}(hq:ek c q)(hp:ek c p):jB rs fill q=jB rs fill p:=by
 have key: ∀(rs:List (List ZP)),(∀r∈rs,fG r)->(∀e∈cI rs,∀t,e.v.ins t-> ¬ek c (e.l.at t))-> ∀n:Int,rs.foldl (fun n r=>n+oo r q) n=rs.foldl (fun n r=>n+oo r p) n:=by
  intro rs
  induction rs with
  |nil=>intro _ _ n;rfl
  |cons r t ih=>
   intro hr hc n;rw[fU,fU,<-VP (RZ (hr r aQ) (fun e he=>hc e (gK.2 ⟨r,aQ,he⟩)) hq hp)];exact ih (fun r h=>hr r (aZ _ h)) (fun e he=>hc e (by obtain⟨r,h1,h2⟩:=gK.1 he;exact gK.2 ⟨r,aZ _ h1,h2⟩)) _
 unfold jB;rw[key rs hr hc]
def xO{cuts:List Rat}(h:cuts.Pairwise (· < ·)){i j:Nat}(hij:i<j)(hj:j<cuts.length):cuts.getD i 0<cuts.getD j 0:=by
 rw[aK,aK,aX hj,aX (by omega)];exact pS.1 h i j (by omega) hj hij
def GR{cuts:List Rat}{marks:List Bool}(h:cuts.Pairwise (· < ·)): ∀{k:Nat},∀v∈im cuts marks (k+1),k<cuts.length->(v.nh=false/\v.hi<=cuts.getD k 0)/\(v.nl=true\/v.lo<cuts.getD k 0)
 |k,v,hv,hk=>by
  have hg:((gi cuts k).nh=false/\(gi cuts k).hi<=cuts.getD k 0)/\((gi cuts k).nl=true\/(gi cuts k).lo<cuts.getD k 0):=by
   unfold gi;dsimp only;refine⟨⟨by simp;omega,by rw[if_pos hk];exact gS⟩,?_⟩;by_cases z:k=0
   ·left;simp[z]
   ·right;rw[if_neg z];exact xO h (by omega) hk
  have hold: ∀v∈im cuts marks k,(v.nh=false/\v.hi<=cuts.getD k 0)/\(v.nl=true\/v.lo<cuts.getD k 0):=fun v hv=>by
   cases k with
   |zero=>cases hv
   |succ k=>
    have ih:=GR h v hv (by omega);have:=xO h (Nat.lt_succ_self k) hk;exact⟨⟨ih.1.1,by have:=ih.1.2;grind⟩,ih.2.imp id fun z=>by grind⟩
  rw[im] at hv;split at hv
  ·split at hv
   ·split at hv
    ·rename_i w hw
     rcases bV.1 hv with q|q
     ·exact hold v ((List.dropLast_sublist _).subset q)
     ·rw[aV] at q;subst q
      exact⟨hg.1,(hold w (sZ hw)).2⟩
    ·rcases bV.1 hv with q|q
     ·exact hold v q
     ·rw[aV] at q;subst q;exact hg
   ·rcases bV.1 hv with q|q
    ·exact hold v q
    ·rw[aV] at q;subst q;exact hg
  ·exact hold v hv
def NW{cuts:List Rat}{marks:List Bool}(h:cuts.Pairwise (· < ·)){x:Rat}{i:Nat}(hm:marks.getD i false=true)(hx:(gi cuts i).ins x): ∀{k:Nat},k<=cuts.length+1->i<k-> ∃v∈im cuts marks k,v.ins x
 |k+1,hk,hi=>by
  by_cases e:i=k
  ·subst e
   rw[im,if_pos hm];split
   ·rename_i h0
    split
    ·rename_i w hw
     refine⟨_,cZ _ (aV.2 J),?_,hx.2⟩;obtain⟨j,rfl⟩: ∃j,i=j+1:=⟨i-1,by omega⟩;have:=(GR h w (sZ hw) (by omega)).2;have hl:=hx.1;unfold gi at hl;dsimp only at hl;rw[if_neg (by omega),show j+1-1=j by omega] at hl;have hl':cuts.getD j 0<x:=hl.resolve_left (by simp);exact this.imp id fun z=>by show w.lo<x;grind
    ·exact⟨_,cZ _ (aV.2 J),hx⟩
   ·exact⟨_,cZ _ (aV.2 J),hx⟩
  ·obtain⟨v,hv,hvx⟩:=NW h hm hx (k:=k) (by omega) (by omega)
   rw[im];split
   ·split
    ·split
     ·rename_i w hw
      by_cases q:v=w
      ·subst q
       refine⟨_,cZ _ (aV.2 J),hvx.1,?_⟩;show(gi cuts k).nh=true\/x<(gi cuts k).hi;obtain⟨j,rfl⟩: ∃j,k=j+1:=⟨k-1,by omega⟩;obtain⟨⟨b1,b2⟩,_⟩:=GR h v hv (by omega);have hh:=hvx.2.resolve_left (by rw[b1];decide);unfold gi;dsimp only;by_cases z:j+1<cuts.length
       ·right;rw[if_pos z];have:=xO h (Nat.lt_succ_self j) z;grind
       ·left;simp;omega
      ·refine⟨v,bJ _ ?_,hvx⟩
       obtain⟨l,hl⟩:=List.getLast?_eq_some_iff.1 hw;rw[hl] at hv⊢;rw[List.dropLast_concat];rcases bV.1 hv with z|z
       ·exact z
       ·rw[aV] at z;exact absurd z q
     ·exact⟨v,bJ _ hv,hvx⟩
    ·exact⟨v,bJ _ hv,hvx⟩
   ·exact⟨v,hv,hvx⟩
def L6: ∀{l:List Rat} {i:Nat},i+1<l.length->(iu l).getD i 0=(l.getD i 0+l.getD (i+1) 0)/2
 |[],_,h=>by simp at h
 |[_],_,h=>by simp at h
 |a::b::t,0,_=>by simp[iu]
 |a::b::t,i+1,h=>by
  have:=L6 (l:=b::t) (i:=i) (by simp at h⊢;omega);rw[iu,lY,this];simp only[lY]
def An: ∀(l:List Rat) (a:Rat),(iu (a::l)).length=l.length
 |[],_=>rfl
 |b::t,a=>by rw[iu,bK,An t b,bK]
def Y'{cuts:List Rat}(h:cuts.Pairwise (· < ·)){i j:Nat}(hi:i<=cuts.length)(hj:j<cuts.length):(cuts.getD j 0<(gv cuts).getD i 0↔j<i)/\cuts.getD j 0≠(gv cuts).getD i 0:=by
 have mono: ∀{a b:Nat},a<=b->b<cuts.length->cuts.getD a 0<=cuts.getD b 0:=fun{a b} hab hb=>by
  by_cases e:a=b
  ·subst e;exact gS
  ·exact fQ (xO h (by omega) hb)
 cases cuts with
 |nil=>simp at hj
 |cons a t=>
  have hl:(a::t).length=t.length+1:=J;rw[gv]
  cases i with
  |zero=>
   rw[sW];have:=mono (cJ j) hj;rw[sW] at this;constructor
   ·constructor
    ·intro q;exfalso;grind
    ·intro q;omega
   ·intro q;grind
  |succ i=>
   rw[lY];by_cases e:i<t.length
   ·have e1:(iu (a::t)++[(a::t).getLast (by simp)+1]).getD i 0=((a::t).getD i 0+(a::t).getD (i+1) 0)/2:=by
     rw[<-L6 (by omega),aK,aK,eX (by rw[An];exact e)]
    rw[e1];have h1:=xO h (Nat.lt_succ_self i) (by omega);by_cases q:j<=i
    ·have:=mono q (by omega)
     constructor
     ·exact⟨fun _=>by omega,fun _=>by grind⟩
     ·grind
    ·have:=mono (show i+1<=j by omega) hj
     constructor
     ·exact⟨fun _=>by exfalso;grind,fun _=>by omega⟩
     ·grind
   ·have ei:i=t.length:=by omega
    have e1:(iu (a::t)++[(a::t).getLast (by simp)+1]).getD i 0=(a::t).getLast (by simp)+1:=by
     rw[aK,fT (by rw[An];omega),An,ei];simp
    rw[e1];have:=Hz h (by simp) ((a::t).getD j 0) (by rw[aK,aX hj];exact jX _);constructor
    ·exact⟨fun _=>by omega,fun _=>by grind⟩
    ·grind
def Ja(x:Rat): ∀{cuts:List Rat},cuts.Pairwise (· < ·)-> ∃i,i<=cuts.length/\ ∀j,j<cuts.length->(cuts.getD j 0<x↔j<i)
 |[],_=>⟨0,aN _,fun j hj=>by simp at hj⟩
 |a::t,h=>by
  rw[bY] at h;by_cases q:a<x
  ·obtain⟨i,h1,h2⟩:=Ja x h.2
   refine⟨i+1,by simp;exact h1,fun j hj=>?_⟩
   cases j with
   |zero=>simp[q]
   |succ j=>rw[lY,h2 j (by simpa using hj)];omega
  ·refine⟨0,cJ _,fun j hj=>⟨fun k=>?_,fun k=>by omega⟩⟩
   exfalso
   cases j with
   |zero=>simp at k;grind
   |succ j=>
    rw[lY] at k;have hj':j<t.length:=by simpa using hj
    have:=h.1 (t.getD j 0) (by rw[aK,aX hj'];exact jX _);grind
def J'{out:List Rat}{s:ao}{y:Rat}:y∈il out s↔y∈out\/(s.nl=false/\y=s.lo)\/(s.nh=false/\y=s.hi):=by
 unfold il
 cases e1:s.nl<;>cases e2:s.nh<;>simp[uu]<;>grind
def wK{v:ao}{x:Rat}:mv [v] x=true↔v.ins x:=by
 unfold mv yI yI ao.ins;have h1:=A6 x v.lo;have h2:=CA x v.hi;rw[decide_eq_true_eq]
 cases e1:v.nl<;>cases e2:v.nh<;>simp only[if_true,cM,if_false,false_or,true_or,h1,h2,and_true,true_and,show(0:Int)<1 from by decide,show(-1:Int)<0 from by decide]<;>grind
def KG{cuts:List Rat}{v:ao}(hl:v.nl=true\/v.lo∈cuts)(hh:v.nh=true\/v.hi∈cuts){x g:Rat}(ho: ∀u∈cuts,(u<x↔u<g)/\u≠x/\u≠g)(h:v.ins x):v.ins g:=by
 refine⟨?_,?_⟩
 ·rcases hl with e|e
  ·exact .inl e
  ·rcases h.1 with k|k
   ·exact .inl k
   ·exact .inr ((ho _ e).1.1 k)
 ·rcases hh with e|e
  ·exact .inl e
  ·rcases h.2 with k|k
   ·exact .inl k
   ·obtain⟨a,b,c⟩:=ho _ e
    right;by_cases q:v.hi<g
    ·have:=a.2 q;grind
    ·grind
def PL{v w:ao}{t:Rat}(hv:v.ins t)(hw:w.ins t): ∃z∈iB 2 [v] [w],z.ins t:=by
 have hmem: ∀y,y∈gz ([v]++[w])↔((v.nl=false/\y=v.lo)\/(v.nh=false/\y=v.hi))\/(w.nl=false/\y=w.lo)\/(w.nh=false/\y=w.hi):=fun y=>by
  show y∈il (il [] v) w↔_;rw[J',J'];simp
 have hasc:=(MG ([v]++[w])).1;have h0: ∀u∈gz ([v]++[w]),u≠t:=fun u hu e=>by
  subst e;rcases(hmem u).1 hu with(⟨a,b⟩|⟨a,b⟩)|⟨a,b⟩|⟨a,b⟩
  ·have:=hv.1.resolve_left (by rw[a];decide);grind
  ·have:=hv.2.resolve_left (by rw[a];decide);grind
  ·have:=hw.1.resolve_left (by rw[a];decide);grind
  ·have:=hw.2.resolve_left (by rw[a];decide);grind
 have l1:v.nl=true\/v.lo∈gz ([v]++[w]):=by
  cases e:v.nl with
  |true=>exact .inl J
  |false=>exact .inr ((hmem _).2 (.inl (.inl ⟨e,J⟩)))
 have l2:v.nh=true\/v.hi∈gz ([v]++[w]):=by
  cases e:v.nh with
  |true=>exact .inl J
  |false=>exact .inr ((hmem _).2 (.inl (.inr ⟨e,J⟩)))
 have l3:w.nl=true\/w.lo∈gz ([v]++[w]):=by
  cases e:w.nl with
  |true=>exact .inl J
  |false=>exact .inr ((hmem _).2 (.inr (.inl ⟨e,J⟩)))
 have l4:w.nh=true\/w.hi∈gz ([v]++[w]):=by
  cases e:w.nh with
  |true=>exact .inl J
  |false=>exact .inr ((hmem _).2 (.inr (.inr ⟨e,J⟩)))
 unfold iB kI;generalize gz ([v]++[w])=cuts at*;obtain⟨i,hi,ho⟩:=Ja t hasc;have hord: ∀u∈cuts,(u<t↔u<(gv cuts).getD i 0)/\u≠t/\u≠(gv cuts).getD i 0:=fun u hu=>by
  obtain⟨j,hj,e⟩:=List.mem_iff_getElem.1 hu;have e':cuts.getD j 0=u:=by rw[aK,aX hj];exact e
  obtain⟨g1,g2⟩:=Y' hasc hi hj;have:=ho j hj;rw[e'] at g1 g2 this;exact⟨this.trans g1.symm,h0 u hu,g2⟩
 have hlen:(gv cuts).length=cuts.length+1:=Nz;refine NW hasc (i:=i) ?_ ?_ (by rw[aJ,hlen];exact aN _) (by rw[aJ,hlen];omega)
 ·rw[aK,fR,aX (by omega)]
  show DK 2 (mv [v] _) (mv [w] _)=true;have e:(gv cuts)[i]'(by omega)=(gv cuts).getD i 0:=by rw[aK,aX (by omega)];rfl
  rw[e,wK.2 (KG l1 l2 hord hv),wK.2 (KG l3 l4 hord hw)];rfl
 ·unfold gi ao.ins
  dsimp only;refine⟨?_,?_⟩
  ·by_cases z:i=0
   ·left;simp[z]
   ·right;rw[if_neg z];exact(ho (i-1) (by omega)).2 (by omega)
  ·by_cases z:i=cuts.length
   ·left;simp[z]
   ·right
    rw[if_pos (by omega)];have a:=ho i (by omega);have b:=h0 (cuts.getD i 0) (by rw[aK,aX (by omega)];exact jX _);have c: ¬cuts.getD i 0<t:=fun k=>by have:=a.1 k;omega
    grind
def F5{l m:ab}(h:crossI l m=0):l.cutK m=0:=by
 have e:l.cutK m= -(crossI l m:Rat):=by unfold ab.cutK ab.nor ab.dir aa.dot crossI;push_cast;grind
 rw[e,h];rfl
def Pj{k:Rat}{side:Int}(hs:side=1\/side= -1)(h:0<(side:Rat)*k):k.num.sign=side:=by
 rcases hs with rfl|rfl
 ·exact(i9 k).2 (by grind)
 ·have:k.num.sign<0:=(kD k).2 (by grind)
  have:=qZ k.num;omega
def aq0{f:aP}{m:ab}{side:Int}(hs:side=1\/side= -1)(hl:f.l.Ne){t:Rat}(ht:f.v.ins t)(hm:0<(side:Rat)*m.value (f.l.at t)): ∃g∈jr f m side,g.l=f.l/\g.v.ins t:=by
 have hv:=mr f.l m t;have ho: ¬tL f.l m=true:=fun e=>by
  unfold tL at e;rw[decide_eq_true_eq,ke] at e;rw[F5 e.1,show f.l.cutC m=m.value f.l.base from J,e.2] at hv;rw[hv] at hm;grind
 unfold jr;rw[if_neg ho];have hh: ∃w,tD f.l m side=[w]/\w.ins t:=by
  unfold tD;by_cases hc:crossI f.l m=0
  ·rw[if_pos hc]
   rw[F5 hc,show f.l.cutC m=m.value f.l.base from J] at hv;rw[if_pos (Pj hs (by rw[hv] at hm;grind))];exact⟨_,J,azo t⟩
  ·rw[if_neg hc]
   have hp:=wW hl hc;have hK:f.l.cutK m≠0:=fun e=>by
    have e2:f.l.cutK m= -(crossI f.l m:Rat):=by unfold ab.cutK ab.nor ab.dir aa.dot crossI;push_cast;grind
    rw[e2] at e;have:(crossI f.l m:Rat)=0:=by grind
    exact hc (dV.1 this)
   generalize hx:eH f.l (io f.l m)=x at*;have hv2: ∀u,m.value (f.l.at u)=f.l.cutK m*(u-x):=fun u=>by rw[mr,hp];grind
   rw[hv2] at hm;have e1:m.value (f.l.at (x+1))=f.l.cutK m:=by rw[hv2];grind
   rw[e1];generalize f.l.cutK m=K at*;by_cases q:K.num.sign=side
   ·rw[if_pos q]
    refine⟨_,J, .inr ?_, .inl J⟩;show x<t;rcases hs with rfl|rfl
    ·have:=(i9 K).1 q
     have:=(wX this).1 (show 0<K*(t-x) by grind);grind
    ·have:=(kD K).1 (by omega)
     have:=(Ev this).1 (show K*(t-x)<0 by grind);grind
   ·rw[if_neg q]
    refine⟨_,J, .inl J, .inr ?_⟩;show t<x;have h3:=fp K;rcases hs with rfl|rfl
    ·have kn:K<0:=by
      rcases h3 with h|h|h
      ·exact absurd h hK
      ·exact absurd ((i9 K).2 h) q
      ·exact h
     have:=(Ev kn (b:=x-t)).1 (by grind);grind
    ·have kp:0<K:=by
      rcases h3 with h|h|h
      ·exact absurd h hK
      ·exact h
      ·exact absurd (by have:=(kD K).2 h;have:=qZ K.num;omega) q
     have:=(wX kp (b:=x-t)).1 (by grind);grind
 obtain⟨w,e,hw⟩:=hh;rw[e];obtain⟨z,hz,hzt⟩:=PL ht hw;exact⟨⟨f.l,z⟩,kX hz,J,hzt⟩
def zR(E:List aP)(c:List ab)(l:List aP):Prop:= ∀e∈E,∀t,e.v.ins t->ek c (e.l.at t)-> ∃f∈l,f.l=e.l/\f.v.ins t
def zR.split{E l:List aP}{c:List ab}(h:zR E c l)(hE: ∀e∈E,e.l.Ne){m:ab}{side:Int}(hs:side=1\/side= -1){m':ab}(hm': ∀p,m'.value p=(side:Rat)*m.value p):zR E (c++[m']) (l.flatMap fun g=>jr g m side):=fun e he t ht hin=>by
 obtain⟨h1,h2⟩:=Ez.1 hin;obtain⟨f,hf,ef,hft⟩:=h e he t ht h1;rw[hm'] at h2;obtain⟨g,hg,eg,hgt⟩:=aq0 (f:=f) hs (by rw[ef];exact hE e he) hft (by rw[ef];exact h2);exact⟨g,gK.2 ⟨f,hf,hg⟩,by rw[eg,ef],hgt⟩
def EW{acc:aa->Bool}{E:List aP}(hE: ∀e∈E,e.l.Ne)(ha: ∀(c:List ab) (q p:aa),(∀e∈E,∀t,e.v.ins t-> ¬ek c (e.l.at t))->ek c q->ek c p->acc q=acc p): ∀{n:Nat} {l:List aP} {c:List ab} {p:aa},(∀f∈l,nH f)->mm n l->(∀m∈c,m.ok)->zR E c l->ek c p->eB (kd acc n l c).lns p->(kd acc n l c).val p=acc p
 |n,[],c,p,_,_,hc,hcov,hp,_=>by
  have e:kd acc n [] c= .leaf (acc (vw c c)):=by cases n<;>rfl
  rw[e,Tr.val];exact ha c _ _ (fun e he t ht hin=>by obtain⟨f,hf,_⟩:=hcov e he t ht hin;cases hf) (Vb hc ((R3 hc).2 ⟨p,hp⟩)) hp
 |0,f::t,_,_,_,hf,_,_,_,_=>by
  obtain⟨K,hK,hs⟩:=hf;obtain⟨m,hm,_⟩:=hs f aQ;have:K=[]:=bL (by omega);rw[this] at hm;cases hm
 |n+1,f::t,c,p,hok,hf,hc,hcov,hp,hoff=>by
  have fo:=hok f aQ;have hok': ∀side,∀g∈(f::t).flatMap fun g=>jr g f.l side,nH g:=fun side g hg=>by
   obtain⟨q,hq,hg⟩:=gK.1 hg;exact(Be (hok q hq) fo.lb g hg).1
  rw[kd] at hoff⊢;by_cases q:0<f.l.value p
  ·rw[Tr.val_pos q]
   exact EW hE ha (hok' 1) (hf.split hok) (Og hc fo.ok) (hcov.split hE (.inl J) fun p=>by grind) (Ez.2 ⟨hp,q⟩) hoff.x
  ·rw[Tr.val_neg q]
   have:=hoff.l;exact EW hE ha (hok' (-1)) (hf.split hok) (Og hc fo.ok.rev) (hcov.split hE (.inr J) fun p=>by rw[fI];grind) (Ez.2 ⟨hp,by rw[fI];grind⟩) hoff.y
def PZ{rs:List (List ZP)}{fill:Int}(hr: ∀r∈rs,fG r){p:aa}(ho:eB (pk rs fill).lns p):(kt rs fill).val p=jB rs fill p:=by
 obtain⟨h1,h2⟩:=q7 hr;have hok:(pk rs fill).all ab.ok:=r8 fun f hf=>(h2 f hf).ok;unfold kt;rw[Tr.val_restrict _ _ _ hok dG.nil (fun s hs=>by cases hs) ho];unfold pk at ho⊢;refine EW (E:=cI rs) (fun e he=>(h2 e he).ok.ne) (fun c q p hno hq hp=>Ip hr hno hq hp) h2 ?_ (fun m hm=>by cases hm) (fun e he t ht _=>⟨e,he,J,ht⟩) (fun m hm=>by cases hm) ho;exact⟨(cI rs).map (·.l),by rw[aJ];exact aN _,fun f hf=>⟨f.l,kX hf, .inl J⟩⟩
structure Cv where
 ax:Rat
 ay:Rat
 ac:Rat
def Cv.ev(g:Cv)(p:aa):Rat:=g.ax*p.x+g.ay*p.y+g.ac
def Cv.li(g:Cv)(u:aa):Rat:=g.ax*u.x+g.ay*u.y
def Kz(a b x:aa):Prop:= ∃s:Rat,0<=s/\s<=1/\x=bp a b s
def V0(a b p r:aa):Prop:=Kz a b p/\((r=⟨b.x-p.x,b.y-p.y⟩/\b≠p)\/(r=⟨a.x-p.x,a.y-p.y⟩/\a≠p))
def H3(r u:aa):Prop:= ∃k:Rat,0<k/\u=⟨k*r.x,k*r.y⟩
def div_pos{a b:Rat}(ha:0<a)(hb:0<b):0<a/b:=by
 have e:a/b*b=a:=by grind
 exact(iH hb).1 (by rw[e];exact ha)
def UQ(E:List (aa×aa))(p u:aa):Prop:=u≠⟨0,0⟩/\ ∀f∈E,∀r,V0 f.1 f.2 p r-> ¬H3 r u
def tj(r:List ZP):List (aa×aa):=(List.range r.length).map fun k=>((r.getD k (0,0)).q,(fe r k).q)
def ER(rs:List (List ZP)):List (aa×aa):=rs.flatMap tj
def aBn{a b:ZP}(h:a.q=b.q):a=b:=by
 have hx:(a.1:Rat)=(b.1:Rat):=congrArg aa.x h;have hy:(a.2:Rat)=(b.2:Rat):=congrArg aa.y h;exact Prod.ext (by exact_mod_cast hx) (by exact_mod_cast hy)
def Vx(rs:List (List ZP))(fill:Int)(p v:aa)(b:Bool):Prop:= ∃e:Rat,0<e/\ ∀d,0<d->d<=e->jB rs fill (cd p v d)=b
section
variable {rs:List (List ZP)} {fill:Int} {p v w:aa} {b c:Bool}
end
def W9(ds:List aa)(u:aa):Prop:=u≠⟨0,0⟩/\ ∀r∈ds,¬H3 r u
def WdD(ds:List aa)(v w:aa):Prop:= ∀s,0<=s->s<=1->W9 ds (bp v w s)
def wc(x y:aa):Nat:=if x.cross y<0 then 1 else if 0<x.cross y then 3 else if 0<x.dot y then 0 else 2
def aGD(x y z:aa):Prop:=wc x y<wc x z\/(wc x y=wc x z/\(wc x y=1\/wc x y=3)/\0<z.cross y)
section
variable {ds:List aa}
end
def ePa(x:Bool×aE):DV:= .ag [.sl (x.2.map bj),eU (.leaf x.1)]
def eC(c:aE):DV:= .sl (c.map bj)
def aFC(ps:List (Bool×aE)):List aE:=(ps.filter (·.1)).map (·.2)
def aFl(G:Gh)(y:Value)(h:Is G (.ag [vI 0,vI 0, .v (.pointer none),vI 0,vI 0, .v (.pointer none)]) y):Is G (eZ (o7 [])) y:=by
 obtain⟨m,rfl,g⟩:=cO.1 h;obtain⟨v1,m,rfl,h1,g⟩:=aO.1 g;obtain⟨v2,m,rfl,h2,g⟩:=aO.1 g;obtain⟨v3,m,rfl,h3,g⟩:=aO.1 g;obtain⟨v4,m,rfl,h4,g⟩:=aO.1 g;obtain⟨v5,m,rfl,h5,g⟩:=aO.1 g;obtain⟨v6,m,rfl,h6,g⟩:=aO.1 g
 cases cB.1 g
 have e1:=uR G _ (cO.2 ⟨[v1,v2,v3],J, .cons h1 (.cons h2 (.cons h3 .nil))⟩);have e2:=uR G _ (cO.2 ⟨[v4,v5,v6],J, .cons h4 (.cons h5 (.cons h6 .nil))⟩);obtain⟨m1,q1,g1⟩:=cO.1 e1;obtain⟨m2,q2,g2⟩:=cO.1 e2
 cases q1;cases q2
 exact cO.2 ⟨_,J,g1.app g2⟩
theorem BQ.samp(v:ao)(i j:Nat)[h1:BQ v.lo i][h2:BQ v.hi j]:BQ v.sample (i+j+1+2):=by
 have b1:BQ (1:Rat) 1:=⟨by decide,by decide⟩;unfold ao.sample;split
 ·exact BQ.z1.mono (by omega)
 ·split
  ·exact(inferInstance:BQ (v.hi-1) (j+1+1)).mono (by omega)
  ·split
   ·exact(inferInstance:BQ (v.lo+1) (i+1+1)).mono (by omega)
   ·exact inferInstance
theorem Er{s:aP}(h:A4 s):aG (s.l.at s.v.sample) 3500:=by
 haveI:=h.lb;haveI:=h.v.lo;haveI:=h.v.hi;have h0:BQ s.v.sample _:=BQ.samp s.v 1200 1200;have:= @aG.at s.l s.v.sample _ _ h0;exact⟨this.x.mono (by decide),this.y.mono (by decide)⟩
theorem FF{s g:aP}(hs:A4 s)(hg:A4 g):BQ (-(g.l.value (s.l.at s.v.sample)/g.l.nor.dot s.l.nor)) 9000:=by
 haveI:=hs.lb;haveI:=hg.lb;haveI:=Er hs;exact BQ.mono (inferInstance:BQ (-(g.l.value (s.l.at s.v.sample)/g.l.nor.dot s.l.nor)) _) (by decide)
def au0:PF GB prog 255 [eC []] (eZ (o7 [])):=by
 refine fn (fu:=⟨10⟩) func255 J J ntmps255 J J (fun C=>?_);refine fD J (by rfl) J<|?_;exact iA J aFl
def PT(l:List aP):fm 17 (l.map bj):=fun d hd=>by
 obtain⟨x,_,rfl⟩:=bW.1 hd;exact⟨J,J⟩
def MU{l:ab}{p:aa}{cs:aE}{k:Nat}{g:aP}{f:Rat}(h:cs[k]? =some g):iI l p (cs.drop k) f=iI l p (cs.drop (k+1)) (if Int.sign (g.l.nor.dot l.nor).num<0 then(if-(g.l.value p/g.l.nor.dot l.nor)<f then-(g.l.value p/g.l.nor.dot l.nor) else f) else f):=by
 obtain⟨h1,h2⟩:=aS.1 h;rw[cX h1,h2,iI]
def Oq(s:aP)(cs:aE):o7 (s::cs)=(s.l.at s.v.sample).add (s.l.nor.scale (iI s.l (s.l.at s.v.sample) cs 1*mkRat 1 2)):=by
 show cd _ _ _=_;unfold cd aa.add aa.scale;simp only[aa.mk.injEq];constructor<;>grind
def WH{s:aP}{cs:aE}(hc:jb (s::cs))(hn:cs.length<=100000):PF GB prog 255 [eC (s::cs)] (eZ (o7 (s::cs))):=by
 have hs:=hc s aQ;have hsl:=hs.lb;have hv1:=hs.v.lo;have hv2:=hs.v.hi;have hp:=Er hs;have hml:((s::cs).map bj).length=cs.length+1:=by simp
 have hml2:(cs.map bj).length=cs.length:=aJ ..;refine fn (fu:=⟨10⟩) func255 J J ntmps255 J J (fun C=>?_);refine eo J (by show some (decide _)=some false;rw[decide_eq_false (by simp;omega)]) J<|ix _ J J J<|ix _ J J J<|cl J (Mq (v:=s.v) (i:=1200)) J<|?_;refine cl J (Bp (l:=s.l) (t:=s.v.sample)) J<|ix _ J J J<|cl J (vY (l:=s.l)) J<|cl J (o9 (by omega)) J<|yi (fu:=⟨1⟩) 1 (cs.length+1) (cs.map bj) J J (by rw[hml]) (by rw[bQ (by rw[hml];exact aN _)];rfl) (PT _) (by omega) (by omega) J<|?_;refine aA 31 (.d (vI (cs.length:Nat))) J (by rw[hml2]<;>rfl) ?_;refine gx J<|?_;refine lp (X:=Rat×Nat) (fun⟨f,k⟩=>[(32, .d (vI (k:Nat))),(5, .ov 5 0)]) (fun⟨f,k⟩=>[(5,some (.o 139 [.d (vI (dt f)), .d (vI (du f)), .d (dl f)] true))]) (fun⟨f,k⟩=>iI s.l (s.l.at s.v.sample) (cs.drop k) f=iI s.l (s.l.at s.v.sample) cs 1/\k<=cs.length/\BQ f 9000) (fun⟨f,k⟩=>cs.length-k) ⟨((1:Int):Rat),0⟩ J ⟨J,cJ _,BQ.mono (k:=2) ⟨by decide,by decide⟩ (by decide)⟩ (fun _=>J) (fun⟨f,k⟩ hk=>?_)
 try dsimp only at hk⊢
 obtain⟨h1,h2,h3⟩:=hk;refine br J J J (fun hc33=>?_) (fun hc33=>?_)
 .
  obtain⟨g,hx⟩: ∃g,cs[k]? =some g:=⟨_,aX (by omega)⟩;have hg:=hc g (aZ _ (bU hx));have hgl:=hg.lb;have hfb:=FF hs hg;refine ix _ J (ge hx) J<|cl J (vY (l:=g.l)) J<|cl J (qo (p:=g.l.nor) (q:=s.l.nor)) J<|cl J (lO (q:=g.l.nor.dot s.l.nor)) J<|?_;refine br J J J (fun hc43=>?_) (fun hc43=>?_)
  .
   refine cl J (Dr (l:=g.l) (p:=(s.l.at s.v.sample))) J<|cl J (zc (p:=g.l.value (s.l.at s.v.sample)) (q:=g.l.nor.dot s.l.nor)) J<|?_;refine cl J (lw (q:=g.l.value (s.l.at s.v.sample)/g.l.nor.dot s.l.nor)) J<|cl (hv:=by simp only[ah];exact⟨by kernel_rfl,by omega⟩) J (Ph (p:=f) (q:= -(g.l.value (s.l.at s.v.sample)/g.l.nor.dot s.l.nor))) J<|?_;exact at_ ⟨if-(g.l.value (s.l.at s.v.sample)/g.l.nor.dot s.l.nor)<f then-(g.l.value (s.l.at s.v.sample)/g.l.nor.dot s.l.nor) else f,k+1⟩ (by dsimp only;exact⟨⟨by rw[<-h1,MU hx,if_pos hc43],by omega,by split;exact FF hs hg;exact h3⟩,(by omega)⟩)
  .
   exact at_ ⟨f,k+1⟩ (by dsimp only;exact⟨⟨by rw[<-h1,MU hx,if_neg hc43],by omega,h3⟩,(by omega)⟩)
 .
  obtain rfl:k=cs.length:=by omega
  obtain rfl:f=iI s.l (s.l.at s.v.sample) cs 1:=by rw[jJ] at h1;exact h1
  refine cl J (Dq (q:=iI s.l (s.l.at s.v.sample) cs 1)) J<|cl J (BU (p:=s.l.nor) (c:=iI s.l (s.l.at s.v.sample) cs 1*mkRat 1 2)) J<|?_;refine cl J (CO (p:=(s.l.at s.v.sample)) (q:=s.l.nor.scale (iI s.l (s.l.at s.v.sample) cs 1*mkRat 1 2))) J<|?_;exact rz J (by rw[Oq];rfl)
def eRz(v:List aa):DV:= .sl (v.map eZ)
def eRa(v:List aa):DV:= .sl (v.map kG)
def nO{α:Type}(f:α->Rat):List α->Rat
 |[]=>0
 |a::t=>f a+nO f t
def aHr(f:aa->aa->Rat)(v:List aa):Rat:=nO (fun i=>f (v.getD i ⟨0,0⟩) (v.getD ((i+1)%v.length) ⟨0,0⟩)) (List.range v.length)
def aHl(c:aE):Rat:=nO (fun s=>(s.v.hi-s.v.lo)*(s.l.c:Rat)) c
def aIE(t:Tr):Prop:= ∃(L:List ab) (R:Rat),(∀l∈L,l.ok)/\ ∀p,eB L p->Zz R p->t.val p=false
def Jo(es:List Int):Nat->Nat->Tr×Nat
 |0,a=>tr es a
 |d+1,a=>
  let k:=bh es 3 a
  if(k.1:Int)=0 then
   let x:=Jo es d k.2
   let o:=bh es 4 x.2
   let y:=Jo es d o.2
   (x.1.mergeQ (1+(o.1:Int)) y.1 [],y.2)
  else tr es k.2
def aH9(f:aa->aa->Rat):Prop:= ∀(l:ab) (a b c:Rat),l.Ne->f (l.at a) (l.at c)=f (l.at a) (l.at b)+f (l.at b) (l.at c)
def sdF(f:aa->aa->Rat)(s:aP):Rat:=f (s.l.at s.v.lo) (s.l.at s.v.hi)
def Ti(f:aa->aa->Rat)(c:aE):Rat:=aHr f (uU (c.map (·.l)))
def RK(f:aa->aa->Rat)(t:Tr)(c:aE):Rat:=nO (fun x:Bool×aE=>if x.1 then Ti f x.2 else 0) (t.parts c)
def muG(f:aa->aa->Rat)(t:Tr)(c:aE)(l:ab):Rat:=if cP c l then RK f t (bF c l) else 0
def aIC(t:Tr)(c:aE):Prop:= ∀x∈t.parts c,x.1=true->Zu x.2=true
def QD(v:List aa):List (aa×aa):=(List.range v.length).map fun i=>(v.getD i ⟨0,0⟩,v.getD ((i+1)%v.length) ⟨0,0⟩)
def qm(cs:List (List ab)):List (aa×aa):=cs.flatMap fun c=>QD (uU c)
def qa(cs:List aE):List (List ab):=cs.map fun c=>c.map (·.l)
def edE(x:aa×aa):List DV:=[Bl x.1 x.2,eF (x.1.cross x.2)]

def eCl(x:List ab×Bool):DV:= .ag [.sl (x.1.map eL),vB x.2]
def eSd(c:List ab):DV:= .sl (c.map eL)
def aIf(ps:List (List ab×Bool)):List (List ab):=(ps.filter (·.2)).map (·.1)
def eRp(v:List aa):DV:= .sl (v.map eP)
structure IQ (GB:Gh) (ai al ae au:Addr):Prop extends EG GB ai al ae where
 ErrUnbounded:GB 5=some [.iface 499 (.pointer (some au))]
def aIi(c:aE):List (List aa):=OS (uU (c.map (·.l)))


def uG:List ZP:=[(0,0),(1,0),(0,1)]
def Qd:fG uG:=⟨by decide,by decide,fun p hp=>by
 unfold uG at hp;simp only[aU,jL,or_false] at hp;rcases hp with rfl|rfl|rfl<;>exact⟨by decide,by decide⟩,by decide⟩
structure EGS (GB:Gh) (ai al ae au ar:Addr):Prop extends IQ GB ai al ae au where
 ErrEmpty:GB 4=some [.iface 499 (.pointer (some ae))]
 ErrRange:GB 2=some [.iface 499 (.pointer (some ar))]
def Oy(r:List aa)(j:Nat):Nat->aa
 |0=>(((r.getD 0 ⟨0,0⟩).add (r.getD 1 ⟨0,0⟩)).add (r.getD 2 ⟨0,0⟩)).scale (((1:Int):Rat)/((3:Int):Rat))
 |k+1=>((Oy r j k).add (r.getD j ⟨0,0⟩)).scale (((1:Int):Rat)/((2:Int):Rat))
def smp(ts:List (List aa))(i:Nat):aa:=Oy (ts.getD (i%ts.length) []) (i%3) (i/ts.length)
theorem aG.mono{p:aa}{i j:Nat}(h:aG p i)(hj:i<=j):aG p j:=⟨h.x.mono hj,h.y.mono hj⟩
structure WT (cs:List aE) (b:Nat):Prop where
 lb: ∀c∈cs,∀s∈c,LB s.l
 sh: ∀c∈cs,c.length<=100000
 ln:cs.length<=1000000
 pt: ∀x∈qm (qa cs),aG x.1 b/\aG x.2 b
def Nw(x:aa×aa):aa:=(x.1.add x.2).scale (x.1.cross x.2)
def HU{α:Type}(f:α->aa)(l:List α):aa:=⟨nO (fun x=>(f x).x) l,nO (fun x=>(f x).y) l⟩
def Ob{n:Int}{d:Nat}(hn:n.natAbs<=1000)(hd:0<d)(hd1:d<=1000):PF GB prog 64 [vI n, .v (.int .i64 (d:Nat))] (eQ (mkRat n d)):=by
 haveI:BI n 10:=GN (by omega);haveI:BN d 10:=⟨by omega⟩;refine fn func64 J J ntmps64 J J (fun C=>?_);refine cl J (L9 (n:=n) (by omega) (by omega)) J<|cl J (qE (u:=d) (by omega)) J<|cl J (zk (x:=n) (d:=d) hd) J<|?_;exact rz J J
def qF(es:List Int)(a:Nat):Rat×Nat:=
 (if((bh es 6 (bh es 9 a).2).1:Int)=0 then mkRat (2*(((bh es 9 a).1:Int)-4)+1) 2 else if((bh es 6 (bh es 9 a).2).1:Int)=1 then mkRat (3*(((bh es 9 a).1:Int)-4)+1) 3 else(((bh es 9 a).1:Rat)-4:Rat),(bh es 6 (bh es 9 a).2).2)
theorem Wy{es:List Int}{a:Nat}(ha:a<=es.length):BQ (qF es a).1 12/\(qF es a).2<=es.length:=by
 have h1:=Fy (es:=es) (n:=9) (a:=a) (by decide);refine⟨?_,yx (yx ha)⟩;unfold qF;dsimp only;split
 ·exact rD (by decide) (by omega) (by decide)
 ·split
  ·exact rD (by decide) (by omega) (by decide)
  ·haveI:BI (((bh es 9 a).1:Int)-4:Int) 11:=GN (by omega)
   have e:((((bh es 9 a).1:Rat)-4):Rat)=((((bh es 9 a).1:Int)-4:Int):Rat):=by rw[lU];rfl
   rw[e];exact inferInstance
def lI(es:List Int)(a:Nat):aa×Nat:=(⟨(qF es a).1,(qF es (qF es a).2).1⟩,(qF es (qF es a).2).2)
def q9(z:Nat):(z:Rat)-4=(((z:Int)-4:Int):Rat):=by rw[lU];rfl
def yL:ab:=⟨1,0,0⟩
def aIx(es:List Int)(L:List ab)(a:Nat):aa×Nat:=
 if L.length=0 then lI es a else
 if((bh es 3 (bh es L.length a).2).1:Int)=0 then
  (if crossI (L.getD (bh es L.length a).1 yL) (L.getD (bh es L.length (bh es 3 (bh es L.length a).2).2).1 yL)≠0 then(io (L.getD (bh es L.length a).1 yL) (L.getD (bh es L.length (bh es 3 (bh es L.length a).2).2).1 yL),(bh es L.length (bh es 3 (bh es L.length a).2).2).2) else lI es (bh es L.length (bh es 3 (bh es L.length a).2).2).2)
 else if((bh es 3 (bh es L.length a).2).1:Int)=1 then((L.getD (bh es L.length a).1 yL).at (qF es (bh es 3 (bh es L.length a).2).2).1,(qF es (bh es 3 (bh es L.length a).2).2).2) else lI es (bh es 3 (bh es L.length a).2).2
def NC{b:Nat}{es:List Int}(hes:es.length<=400){a:Nat}(ha:a<=es.length):PM GB prog 72 (jq [none] b) b 126 [.sl (es.map vI), .v (.int .i64 (a:Nat))] (eQ (qF es a).1) [.sl (es.map vI), .v (.int .i64 ((qF es a).2:Nat))]:=by
 have h1:=Fy (es:=es) (n:=9) (a:=a) (by decide);refine yv func72 J J ntmps72 J J (fun C b m lo hmb=>?_);refine cm J (fun b=>(Lk (n:=9) hes ha (by decide) (by decide))) J<|cm J (fun b=>(Lk (n:=6) hes (yx ha) (by decide) (by decide))) J<|?_;refine br J J J (fun hc9=>?_) (fun hc9=>?_)
 .
  refine cl J (Ob (n:=2*(((bh es 9 a).1:Int)-4)+1) (d:=2) (by omega) (by decide) (by decide)) J<|?_;exact r5 hmb J J (by unfold qF;dsimp only;rw[if_pos hc9];rfl) J
 .
  refine br J J J (fun hc15=>?_) (fun hc15=>?_)
  .
   refine cl J (Ob (n:=3*(((bh es 9 a).1:Int)-4)+1) (d:=3) (by omega) (by decide) (by decide)) J<|?_;exact r5 hmb J J (by unfold qF;dsimp only;rw[if_neg hc9,if_pos hc15];rfl) J
  .
   refine cl J (zS (n:=(((bh es 9 a).1:Int)-4)) (by omega) (by omega)) J<|?_;exact r5 hmb J J (by unfold qF;dsimp only;rw[if_neg hc9,if_neg hc15,q9];rfl) J
def QG{b:Nat}{es:List Int}(hes:es.length<=400){a:Nat}(ha:a<=es.length):PM GB prog 36 (jq [none] b) b 126 [.sl (es.map vI), .v (.int .i64 (a:Nat))] (eP (lI es a).1) [.sl (es.map vI), .v (.int .i64 ((lI es a).2:Nat))]:=by
 refine yv func36 J J ntmps36 J J (fun C b m lo hmb=>?_);refine cm J (fun b=>(NC hes ha)) J<|cm J (fun b=>(NC hes (Wy ha).2)) J<|?_;exact r5 hmb J J J J

structure EGV (GB:Gh) (ai al ae au:Addr):Prop extends IQ GB ai al ae au where
 ErrEmpty:GB 4=some [.iface 499 (.pointer (some ae))]
def WL(x:aa×aa):Rat:=(x.1.x*x.1.x+x.2.x*x.2.x+(x.1.add x.2).x*(x.1.add x.2).x)*x.1.cross x.2
def U9(x:aa×aa):Rat:=(x.1.x*x.1.y+x.2.x*x.2.y+(x.1.add x.2).x*(x.1.add x.2).y)*x.1.cross x.2
def aGZ(x:aa×aa):Rat:=(x.1.y*x.1.y+x.2.y*x.2.y+(x.1.add x.2).y*(x.1.add x.2).y)*x.1.cross x.2
structure aIn (cs:List aE):Prop where
 ed:WT cs 1200
 cr: ∀x∈qm (qa cs),BQ (x.1.cross x.2) 5000
 ar: ∀k,BQ (nO (fun x=>x.1.cross x.2) ((qm (qa cs)).take k)) 2000000
 mo: ∀k,aG (HU Nw ((qm (qa cs)).take k)) 3000000
 sa: ∀k,BQ (nO WL ((qm (qa cs)).take k)) 4000000
 sb: ∀k,BQ (nO U9 ((qm (qa cs)).take k)) 4000000
 sc: ∀k,BQ (nO aGZ ((qm (qa cs)).take k)) 4000000
def aGU(t:Tr):Rat:=nO (fun x=>x.1.cross x.2) (qm (qa (D1 t)))*mkRat 1 2
def aIN(t:Tr):aa:=(HU Nw (qm (qa (D1 t)))).scale (((1:Int):Rat)/((6:Int):Rat))
def zR0:DV:= .ag [vB false, .sl [], .sl []]
def zP0:DV:= .ag [vB false, .sl [], .sl [],vB false, .sl [], .sl []]
def Uo:Rat:=((1:Int):Rat)/((24:Int):Rat)
def aIO(f:aa×aa->Rat)(t:Tr):Rat:=nO f (qm (qa (D1 t)))*Uo
structure DQ (D B:Nat) (x:Rat):Prop where
 ex: ∃n:Int,x*((D:Nat):Rat)=(n:Rat)/\n.natAbs<=B*D
def Tf(l m:ab):Nat:=if crossI l m=0 then 1 else(crossI l m).natAbs
def UD(K:List ab):List Nat:=K.flatMap fun l=>K.map (Tf l)
def aIM(K:List ab):Nat:=(UD K).foldr (· * ·) 1
structure DP (D B:Nat) (p:aa):Prop where
 x:DQ D B p.x
 y:DQ D B p.y
def KX{x y a b:Nat}(hx:x<=2^a)(hy:y<=2^b):x*y<=2^(a+b):=by
 rw[fJ];exact kV hx hy
def eM(a b c d e f:Rat):DV:= .ag [(.v (.bool (decide ((a).num<0)))),(dN (a).num.natAbs),(dD (a).den),(.v (.bool (decide ((b).num<0)))),(dN (b).num.natAbs),(dD (b).den),(.v (.bool (decide ((c).num<0)))),(dN (c).num.natAbs),(dD (c).den),(.v (.bool (decide ((d).num<0)))),(dN (d).num.natAbs),(dD (d).den),(.v (.bool (decide ((e).num<0)))),(dN (e).num.natAbs),(dD (e).den),(.v (.bool (decide ((f).num<0)))),(dN (f).num.natAbs),(dD (f).den)]
def zq3:List DV:=[.v (.bool (decide ((0:Rat).num<0))),dN (0:Rat).num.natAbs,dD (0:Rat).den]

def Zb:List ZP:=[(0,0),(2,0),(2,2),(0,2)]
def sqT:Tr:=kt [Zb] 2



def aH5(M:List ab)(E:List (aa×aa)):Prop:= ∀f∈E,∃m∈M,m.value f.1=0/\m.value f.2=0
def HK(m:ab)(a p:aa):m.nor.dot ⟨a.x-p.x,a.y-p.y⟩=m.value a-m.value p:=by
 rw[me,me];unfold ab.nor aa.dot;dsimp only;grind
section
variable {rs:List (List ZP)} {fill:Int} {p:aa}
def aIs(rs:List (List ZP))(fill:Int)(p:aa)(b:Bool):Prop:= ∃x,UQ (ER rs) p x/\Vx rs fill p x b
end
section
variable {rs:List (List ZP)} {fill:Int} {L:List ab} {p:aa}
end
def JC(v:ao)(t:Rat):Bool:=(v.nl||decide (cp v.lo t<=0))&&(v.nh||decide (0<=cp v.hi t))
def E9(f:aP)(p:aa):Bool:=decide (Int.sign (f.l.value p).num=0)&&JC f.v (eH f.l p)
def p6(f:aP)(p:aa):Int:=
 if Int.sign f.l.dir.y.num=0\/Int.sign (f.l.value p).num≠Int.sign f.l.dir.y.num then 0
 else if(if Int.sign f.l.dir.y.num<0 then f.v.nh=false/\0<cp (f.l.at f.v.hi).y p.y else f.v.nl=false/\0<cp (f.l.at f.v.lo).y p.y) then 0
 else if(if Int.sign f.l.dir.y.num<0 then f.v.nl=false/\cp (f.l.at f.v.lo).y p.y<=0 else f.v.nh=false/\cp (f.l.at f.v.hi).y p.y<=0) then 0
 else Int.sign f.l.dir.y.num
def iO(E:List aP)(p:aa):Int:=E.foldl (fun n f=>n+p6 f p) 0
def Qy{v w:ZP}(h:v≠w)(p:aa): ∃g:Rat,0<g/\cC v.q w.q p=g*(dq v w).l.value p/\w.q.y-v.q.y=g*(dq v w).l.dir.y:=by
 obtain⟨g,g0,h1,h2,h3⟩:=J9 h;refine⟨g,g0,?_,by rw[h3];unfold cd;show _=g*(jo v.1 v.2 w.1 w.2).dir.y;dsimp only;grind⟩;show _=g*(jo v.1 v.2 w.1 w.2).value p;rw[h3];generalize jo v.1 v.2 w.1 w.2=l at*;rw[me] at*;unfold cC cd ab.dir;dsimp only;grind
def Tm{v w:ZP}(h:v≠w)(ho:(dq v w).l.ok)(p:aa):p6 (dq v w) p=nI v.q w.q p:=by
 obtain⟨e1,e2,e3⟩:=GT h ho;obtain⟨g,g0,o1,o2⟩:=Qy h p;have b1:(dq v w).v.nl=false:=J;have b2:(dq v w).v.nh=false:=J;have so:(0<cC v.q w.q p↔0<(dq v w).l.value p)/\(cC v.q w.q p<0↔(dq v w).l.value p<0):=by
  rw[o1];constructor
  ·rw[Rat.mul_comm];exact iH g0
  ·have:=iH (s:= -(dq v w).l.value p) g0
   grind
 have sy:(v.q.y<w.q.y↔0<(dq v w).l.dir.y)/\(w.q.y<v.q.y↔(dq v w).l.dir.y<0):=by
  have t1:=iH (s:=(dq v w).l.dir.y) g0;have t2:=iH (s:= -(dq v w).l.dir.y) g0;constructor<;>grind
 unfold p6;rw[b1,b2,e1,e2];simp only[true_and,LA,A6];generalize (dq v w).l.value p=z at*;generalize (dq v w).l.dir.y=u at*;unfold nI;rcases fp u with k|k|k
 ·rw[if_pos (.inl ((ke _).2 k))]
  have: ¬(v.q.y<=p.y/\ ¬w.q.y<=p.y/\0<cC v.q w.q p):=fun q=>by grind
  have: ¬(¬v.q.y<=p.y/\w.q.y<=p.y/\cC v.q w.q p<0):=fun q=>by grind
  rw[if_neg ‹_›,if_neg ‹_›];rfl
 ·have su:Int.sign u.num=1:=(i9 _).2 k
  rw[su];have n2: ¬(¬v.q.y<=p.y/\w.q.y<=p.y/\cC v.q w.q p<0):=fun q=>by grind
  rw[if_neg n2];simp only[show¬((1:Int)<0) by decide,if_false,show¬((1:Int)=0) by decide,false_or];by_cases hz:0<z
  ·rw[if_neg (by rw[(i9 _).2 hz];simp)]
   by_cases a1:v.q.y<=p.y
   ·rw[if_neg (by grind)]
    by_cases a2:w.q.y<=p.y
    ·rw[if_pos a2,if_neg (by grind)];rfl
    ·rw[if_neg a2,if_pos ⟨a1,a2,so.1.2 hz⟩];rfl
   ·rw[if_pos (by grind),if_neg (by grind)];rfl
  ·rw[if_pos (fun q=>hz ((i9 _).1 q)),if_neg (by grind)];rfl
 ·have su:Int.sign u.num= -1:=rx k
  rw[su];have n2: ¬(v.q.y<=p.y/\ ¬w.q.y<=p.y/\0<cC v.q w.q p):=fun q=>by grind
  rw[if_neg n2];simp only[show(-1:Int)<0 by decide,if_true,show¬((-1:Int)=0) by decide,false_or];by_cases hz:z<0
  ·rw[if_neg (by rw[rx hz];simp)]
   by_cases a1:w.q.y<=p.y
   ·rw[if_neg (by grind)]
    by_cases a2:v.q.y<=p.y
    ·rw[if_pos a2,if_neg (by grind)];rfl
    ·rw[if_neg a2,if_pos ⟨a2,a1,so.2.2 hz⟩];rfl
   ·rw[if_pos (by grind),if_neg (by grind)];rfl
  ·rw[if_pos (fun q=>hz (by
    have h4:Int.sign z.num<0:=by rw[q];decide
    exact(kD _).1 h4)),if_neg (by grind)];rfl
def BZ{α:Type}(f:α->Int): ∀(l:List α) (n:Int),l.foldl (fun n x=>n+f x) n=n+l.foldl (fun n x=>n+f x) 0
 |[],n=>by simp
 |a::t,n=>by
  rw[fU,fU,BZ f t (n+f a),BZ f t (0+f a)];omega
def D0(E F:List aP)(p:aa):iO (E++F) p=iO E p+iO F p:=by
 unfold iO;rw[List.foldl_append,BZ]
def Uz{r:List ZP}(hr:fG r)(p:aa):iO (iv r) p=oo r p:=by
 have key: ∀k,k<=r.length->iO (lf r k) p=zi r p k:=by
  intro k
  induction k with
  |zero=>intro _;rfl
  |succ k ih=>
   intro hk;have hm:=Hs (r:=r) (k:=k) (n:=r.length) (by omega);have ho:=((u6 hr).2 _ hm).ok;rw[lf,D0,ih (by omega),xG,xG,jv];have e:iO [dq (r.getD k (0,0)) (fe r k)] p=p6 (dq (r.getD k (0,0)) (fe r k)) p:=by unfold iO;simp
   rw[e,Tm (hr.ne k (by omega)) ho]
 exact key r.length (aN _)
def Nn: ∀{rs:List (List ZP)},(∀r∈rs,fG r)-> ∀p,iO (cI rs) p=rs.foldl (fun n r=>n+oo r p) 0
 |[],_,p=>rfl
 |r::rs,h,p=>by
  have e:cI (r::rs)=iv r++cI rs:=J;rw[e,D0,Uz (h r aQ),Nn fun q hq=>h q (aZ _ hq),fU,BZ _ rs (0+oo r p)];omega
def S6(f:aP)(p:aa):Bool:=f.v.nh||decide (cp (eH f.l p) f.v.hi<0)
def Ra(f:aP)(p:aa):Bool:=f.v.nl||decide (0<cp (eH f.l p) f.v.lo)
def Yw(p:aa)(f:aP):List aa:=if E9 f p then(if S6 f p then [dx f.l.dir] else [])++(if Ra f p then [bO (dx f.l.dir)] else []) else []
def GO(E:List aP)(p:aa):List aa:=gr (E.flatMap (Yw p))
def IT(p d q:aa):Rat:=(⟨q.x-p.x,q.y-p.y⟩:aa).dot d/d.dot d
def WR(a b:Rat):Rat×Bool:=
 if 0<Int.sign b.num/\(¬0<Int.sign a.num\/cp b a<0) then(b,true) else if 0<Int.sign a.num then(a,true) else(0,false)
def Ec(f:aP)(p d:aa):Rat×Bool:=
 if f.l.nor.dot d=0 then(if f.l.value p=0 then WR (IT p d (f.l.at f.v.lo)) (IT p d (f.l.at f.v.hi)) else(0,false))
 else(-(f.l.value p/f.l.nor.dot d),decide (0<Int.sign (-(f.l.value p/f.l.nor.dot d)).num)&&JC f.v (eH f.l (cd p d (-(f.l.value p/f.l.nor.dot d)))))
def YZ(p d:aa)(s:Rat)(f:aP):Rat:=if E9 f p then s else if(Ec f p d).2 then(if(Ec f p d).1<s then(Ec f p d).1 else s) else s
def FN(E:List aP)(p d:aa):aa:=cd p d (E.foldl (YZ p d) 1*mkRat 1 2)
def aIa(E:List aP)(p:aa)(acc:aa->Bool):Int:=
 if((iF (GO E p)).any fun v=>acc (FN E p v))&&(iF (GO E p)).all (fun v=>acc (FN E p v)) then 2 else if(iF (GO E p)).any fun v=>acc (FN E p v) then 1 else 0
def CG{r:List ZP}: ∀{n:Nat} {f:aP},f∈lf r n-> ∃k,k<n/\f=dq (r.getD k (0,0)) (fe r k)
 |0,f,h=>by simp[lf] at h
 |n+1,f,h=>by
  rw[lf] at h;rcases bV.1 h with h|h
  ·obtain⟨k,h1,h2⟩:=CG h
   exact⟨k,by omega,h2⟩
  ·exact⟨n,by omega,aV.1 h⟩
def apY{rs:List (List ZP)}(hr: ∀r∈rs,fG r){f:aP}(hf:f∈cI rs): ∃v w:ZP,v≠w/\(dq v w).l.ok/\f=dq v w/\(v.q,w.q)∈ER rs:=by
 obtain⟨r,h1,h2⟩:=gK.1 hf;have ho:=((u6 (hr r h1)).2 _ h2).ok;obtain⟨k,hk,rfl⟩:=CG h2;exact⟨_,_,(hr r h1).ne k hk,ho,J,gK.2 ⟨r,h1,bW.2 ⟨k,oZ.2 hk,J⟩⟩⟩
section
variable {rs:List (List ZP)} {fill:Int} {p:aa}
end
def cv(lo hi:Rat):ao:=⟨lo,hi,false,false⟩
def oF{lo hi x:Rat}:mv [cv lo hi] x=decide (lo<x/\x<hi):=by
 rw[oT,wK,decide_eq_true_eq];simp[cv,ao.ins]
def zr{t x:Rat}:mv [⟨t,0,false,true⟩] x=decide (t<x):=by
 rw[oT,wK,decide_eq_true_eq];simp[ao.ins]
def yP{t x:Rat}:mv [⟨0,t,true,false⟩] x=decide (x<t):=by
 rw[oT,wK,decide_eq_true_eq];simp[ao.ins]
def oy{a b:List ao}{cuts:List Rat}{marks:List Bool}{out:List ao}(h1:gz (a++b)=cuts)(h2:(gv cuts).map (fun t=>mv a t&&mv b t)=marks)(h3:kI cuts marks=out):iB 2 a b=out:=by
 unfold iB;rw[h1,<-h3,<-h2];rfl
def avG{lo hi:Rat}(h:lo<hi):iB 2 [cv lo hi] [ao.all]=[cv lo hi]:=by
 refine oy (cuts:=[lo,hi]) (marks:=[false,true,false]) (by simp[gz,il,cv,ao.all,eO,h]) ?_ (by simp[kI,im,gi,cv]);have b: ∀x,mv [ao.all] x=true:=fun x=>wK.2 ⟨.inl J, .inl J⟩;simp only[gv,iu,bR,dK,cW,cV,oF,b,Bool.and_true];simp only[gW,gU,List.cons.injEq,decide_eq_false_iff_not,decide_eq_true_eq,and_true];exact⟨by grind,by grind,by grind⟩
def Zs(v:ao):iB 2 [v] []=[]:=by
 unfold iB kI;have key: ∀(cuts:List Rat) (m:List Bool),(∀x∈m,x=false)-> ∀k,im cuts m k=[]:=fun cuts m hm k=>by
  induction k with
  |zero=>rfl
  |succ k ih=>
   rw[im,ih];have:m.getD k false=false:=by
    rw[aK]
    cases e:m[k]? with
    |none=>rfl
    |some x=>exact hm x (bU e)
   rw[this];rfl
 refine key _ _ (fun x hx=>?_) _;obtain⟨t,_,rfl⟩:=bW.1 hx;have:mv [] t=false:=by unfold mv yI;decide
 rw[this];simp[DK]
def Yk{lo hi t:Rat}(h:lo<hi)(k:t<lo):iB 2 [cv lo hi] [⟨t,0,false,true⟩]=[cv lo hi]:=by
 refine oy (cuts:=[t,lo,hi]) (marks:=[false,false,true,false]) ?_ ?_ (by simp[kI,im,gi,pp,cv])
 ·simp only[gz,il,cv,cW,cV,fU,lW,if_true,cM,if_false,eO]
  grind [eO]
 ·simp only[gv,iu,bR,dK,cW,cV,oF,zr]
  simp only[gW,gU,List.cons.injEq,iV,aL,decide_eq_false_iff_not,decide_eq_true_eq,and_true];exact⟨by grind,by grind,by grind,by grind⟩
def Q7{lo hi t:Rat}(h:lo<hi)(k:t=lo):iB 2 [cv lo hi] [⟨t,0,false,true⟩]=[cv lo hi]:=by
 refine oy (cuts:=[lo,hi]) (marks:=[false,true,false]) ?_ ?_ (by simp[kI,im,gi,pp,cv])
 ·simp only[gz,il,cv,cW,cV,fU,lW,if_true,cM,if_false,eO]
  grind [eO]
 ·simp only[gv,iu,bR,dK,cW,cV,oF,zr]
  simp only[gW,gU,List.cons.injEq,iV,aL,decide_eq_false_iff_not,decide_eq_true_eq,and_true];exact⟨by grind,by grind,by grind⟩
def Q5{lo hi t:Rat}(h:lo<hi)(k:lo<t)(k2:t<hi):iB 2 [cv lo hi] [⟨t,0,false,true⟩]=[cv t hi]:=by
 refine oy (cuts:=[lo,t,hi]) (marks:=[false,false,true,false]) ?_ ?_ (by simp[kI,im,gi,pp,cv])
 ·simp only[gz,il,cv,cW,cV,fU,lW,if_true,cM,if_false,eO]
  grind [eO]
 ·simp only[gv,iu,bR,dK,cW,cV,oF,zr]
  simp only[gW,gU,List.cons.injEq,iV,aL,decide_eq_false_iff_not,decide_eq_true_eq,and_true];exact⟨by grind,by grind,by grind,by grind⟩
def ZC{lo hi t:Rat}(h:lo<hi)(k:t=hi):iB 2 [cv lo hi] [⟨t,0,false,true⟩]=[]:=by
 refine oy (cuts:=[lo,hi]) (marks:=[false,false,false]) ?_ ?_ (by simp[kI,im,gi,pp,cv])
 ·simp only[gz,il,cv,cW,cV,fU,lW,if_true,cM,if_false,eO]
  grind [eO]
 ·simp only[gv,iu,bR,dK,cW,cV,oF,zr]
  simp only[gW,gU,List.cons.injEq,iV,aL,decide_eq_false_iff_not,decide_eq_true_eq,and_true];exact⟨by grind,by grind,by grind⟩
def Zc{lo hi t:Rat}(h:lo<hi)(k:hi<t):iB 2 [cv lo hi] [⟨t,0,false,true⟩]=[]:=by
 refine oy (cuts:=[lo,hi,t]) (marks:=[false,false,false,false]) ?_ ?_ (by simp[kI,im,gi,pp,cv])
 ·simp only[gz,il,cv,cW,cV,fU,lW,if_true,cM,if_false,eO]
  grind [eO]
 ·simp only[gv,iu,bR,dK,cW,cV,oF,zr]
  simp only[gW,gU,List.cons.injEq,iV,aL,decide_eq_false_iff_not,decide_eq_true_eq,and_true];exact⟨by grind,by grind,by grind,by grind⟩
def Rf{lo hi t:Rat}(h:lo<hi)(k:t<lo):iB 2 [cv lo hi] [⟨0,t,true,false⟩]=[]:=by
 refine oy (cuts:=[t,lo,hi]) (marks:=[false,false,false,false]) ?_ ?_ (by simp[kI,im,gi,pp,cv])
 ·simp only[gz,il,cv,cW,cV,fU,lW,if_true,cM,if_false,eO]
  grind [eO]
 ·simp only[gv,iu,bR,dK,cW,cV,oF,yP]
  simp only[gW,gU,List.cons.injEq,iV,aL,decide_eq_false_iff_not,decide_eq_true_eq,and_true];exact⟨by grind,by grind,by grind,by grind⟩
def aEf{lo hi t:Rat}(h:lo<hi)(k:t=lo):iB 2 [cv lo hi] [⟨0,t,true,false⟩]=[]:=by
 refine oy (cuts:=[lo,hi]) (marks:=[false,false,false]) ?_ ?_ (by simp[kI,im,gi,pp,cv])
 ·simp only[gz,il,cv,cW,cV,fU,lW,if_true,cM,if_false,eO]
  grind [eO]
 ·simp only[gv,iu,bR,dK,cW,cV,oF,yP]
  simp only[gW,gU,List.cons.injEq,iV,aL,decide_eq_false_iff_not,decide_eq_true_eq,and_true];exact⟨by grind,by grind,by grind⟩
def P8{lo hi t:Rat}(h:lo<hi)(k:lo<t)(k2:t<hi):iB 2 [cv lo hi] [⟨0,t,true,false⟩]=[cv lo t]:=by
 refine oy (cuts:=[lo,t,hi]) (marks:=[false,true,false,false]) ?_ ?_ (by simp[kI,im,gi,pp,cv])
 ·simp only[gz,il,cv,cW,cV,fU,lW,if_true,cM,if_false,eO]
  grind [eO]
 ·simp only[gv,iu,bR,dK,cW,cV,oF,yP]
  simp only[gW,gU,List.cons.injEq,iV,aL,decide_eq_false_iff_not,decide_eq_true_eq,and_true];exact⟨by grind,by grind,by grind,by grind⟩
def SU{lo hi t:Rat}(h:lo<hi)(k:t=hi):iB 2 [cv lo hi] [⟨0,t,true,false⟩]=[cv lo hi]:=by
 refine oy (cuts:=[lo,hi]) (marks:=[false,true,false]) ?_ ?_ (by simp[kI,im,gi,pp,cv])
 ·simp only[gz,il,cv,cW,cV,fU,lW,if_true,cM,if_false,eO]
  grind [eO]
 ·simp only[gv,iu,bR,dK,cW,cV,oF,yP]
  simp only[gW,gU,List.cons.injEq,iV,aL,decide_eq_false_iff_not,decide_eq_true_eq,and_true];exact⟨by grind,by grind,by grind⟩
def P7{lo hi t:Rat}(h:lo<hi)(k:hi<t):iB 2 [cv lo hi] [⟨0,t,true,false⟩]=[cv lo hi]:=by
 refine oy (cuts:=[lo,hi,t]) (marks:=[false,true,false,false]) ?_ ?_ (by simp[kI,im,gi,pp,cv])
 ·simp only[gz,il,cv,cW,cV,fU,lW,if_true,cM,if_false,eO]
  grind [eO]
 ·simp only[gv,iu,bR,dK,cW,cV,oF,yP]
  simp only[gW,gU,List.cons.injEq,iV,aL,decide_eq_false_iff_not,decide_eq_true_eq,and_true];exact⟨by grind,by grind,by grind,by grind⟩
def xT(a b:Rat):a<b\/a=b\/b<a:=by grind
def splitP(f:aP)(m:ab):List aP:=if f.l.cutB f.v m then [⟨f.l,f.l.cutV f.v m⟩] else []
structure gk (f:aP):Prop where
 ok:f.l.ok
 nl:f.v.nl=false
 nh:f.v.nh=false
 lt:f.v.lo<f.v.hi
def gk.seg{f:aP}(h:gk f):f.v=cv f.v.lo f.v.hi:=by
 have h1:=h.nl;have h2:=h.nh;unfold cv
 cases hv:f.v with
 |mk a b c d=>rw[hv] at h1 h2;simp_all
def gk.pos{f:aP}(h:gk f):f.v.Pos:= .inr (.inr h.lt)
def HY{lo hi:Rat}:(cv lo hi).Pos↔lo<hi:=by unfold ao.Pos cv;simp
def N2{lo hi t:Rat}:(cv lo hi).meet ⟨t,0,false,true⟩=cv (if lo<t then t else lo) hi:=by simp[ao.meet,cv];rfl
def KE{lo hi t:Rat}:(cv lo hi).meet ⟨0,t,true,false⟩=cv lo (if t<hi then t else hi):=by simp[ao.meet,cv];rfl
def R6{lo hi t:Rat}(h:lo<hi):iB 2 [cv lo hi] [⟨t,0,false,true⟩]=if(if lo<t then t else lo)<hi then [cv (if lo<t then t else lo) hi] else []:=by
 rcases xT t lo with k|k|k
 ·rw[Yk h k,if_neg (show¬lo<t by grind),if_pos h]
 ·rw[Q7 h k,if_neg (show¬lo<t by grind),if_pos h]
 ·rw[if_pos k]
  rcases xT t hi with k2|k2|k2
  ·rw[Q5 h k k2,if_pos k2]
  ·rw[ZC h k2,if_neg (by grind)]
  ·rw[Zc h k2,if_neg (by grind)]
def QC{lo hi t:Rat}(h:lo<hi):iB 2 [cv lo hi] [⟨0,t,true,false⟩]=if lo<(if t<hi then t else hi) then [cv lo (if t<hi then t else hi)] else []:=by
 rcases xT t hi with k|k|k
 ·rw[if_pos k]
  rcases xT t lo with k2|k2|k2
  ·rw[Rf h k2,if_neg (by grind)]
  ·rw[aEf h k2,if_neg (by grind)]
  ·rw[P8 h k2 k,if_pos k2]
 ·rw[SU h k,if_neg (show¬t<hi by grind),if_pos h]
 ·rw[P7 h k,if_neg (show¬t<hi by grind),if_pos h]
def TC(l m:ab):l.cutK m.rev= -l.cutK m:=by unfold ab.cutK ab.rev ab.nor ab.dir aa.dot;dsimp only;push_cast;grind
def auw(l m:ab):l.cutC m.rev= -l.cutC m:=fI m l.base
def XQ(a b:Rat): -a/ -b=a/b:=by grind
def JX{f:aP}(h:gk f){m:ab}{side:Int}(hs:side=1\/side= -1):jr f m side=splitP f (if side=1 then m else m.rev):=by
 obtain⟨M,hM⟩: ∃M,M=(if side=1 then m else m.rev):=⟨_,rfl⟩;have hK:f.l.cutK M=(side:Rat)*f.l.cutK m:=by
  rcases hs with rfl|rfl
  ·rw[hM,if_pos J];grind
  ·rw[hM,if_neg (by decide),TC];grind
 have hC:f.l.cutC M=(side:Rat)*f.l.cutC m:=by
  rcases hs with rfl|rfl
  ·rw[hM,if_pos J];grind
  ·rw[hM,if_neg (by decide),auw];grind
 have hq:f.l.cutC M/f.l.cutK M=f.l.cutC m/f.l.cutK m:=by
  rw[hK,hC];rcases hs with rfl|rfl
  ·grind
  ·rw[show((-1:Int):Rat)*f.l.cutC m= -f.l.cutC m by grind,show((-1:Int):Rat)*f.l.cutK m= -f.l.cutK m by grind,XQ]
 rw[<-hM];have hseg:=h.seg;have hlt:=h.lt;unfold jr splitP tL tD;by_cases hc:crossI f.l m=0
 ·have k0:f.l.cutK m=0:=F5 hc
  have kM:f.l.cutK M=0:=by rw[hK,k0];grind
  obtain⟨e1,e2⟩:=wF (l:=f.l) (m:=M) f.v kM;by_cases c0:f.l.cutC m=0
  ·rw[if_pos (decide_eq_true ⟨hc,(ke _).2 c0⟩),if_neg (fun e=>by have:=e2.1 e;rw[hC,c0] at this;grind)]
  ·rw[if_neg (by rw[decide_eq_true_eq];exact fun e=>c0 ((ke _).1 e.2)),if_pos hc]
   by_cases g:(m.value f.l.base).num.sign=side
   ·have:0<f.l.cutC M:=by
     rw[hC];rcases hs with rfl|rfl
     ·have:=(i9 _).1 g;show 0<((1:Int):Rat)*m.value f.l.base;grind
     ·have:=(kD (m.value f.l.base)).1 (by omega);show 0<((-1:Int):Rat)*m.value f.l.base;grind
    rw[if_pos g,if_pos (e2.2 this),e1,hseg,avG hlt];rfl
   ·have: ¬0<f.l.cutC M:=fun e=>g (Pj hs (by rw[hC] at e;exact e))
    rw[if_neg g,if_neg (fun e=>this (e2.1 e)),Zs];rfl
 ·rw[if_neg (by rw[decide_eq_true_eq];exact fun e=>hc e.1),if_neg hc]
  have hp:=wW h.ok.ne hc;have hne:f.l.cutK m≠0:=fun e=>by
   rw[zt] at e;have:(crossI f.l m:Rat)=0:=by grind
   exact hc (dV.1 this)
  have hv1:m.value (f.l.at (eH f.l (io f.l m)+1))=f.l.cutK m:=by rw[mr,hp];grind
  rw[hv1,hp];by_cases g:(f.l.cutK m).num.sign=side
  ·have kM:0<f.l.cutK M:=by
    rw[hK];rcases hs with rfl|rfl
    ·have:=(i9 _).1 g;grind
    ·have:=(kD (f.l.cutK m)).1 (by omega);grind
   obtain⟨e1,e2⟩:=vN (l:=f.l) (m:=M) f.v kM;rw[if_pos g,e1] at*;rw[hq,hseg,N2,HY] at e2;rw[hq,hseg,N2,R6 hlt];by_cases q:(if f.v.lo< -(f.l.cutC m/f.l.cutK m) then-(f.l.cutC m/f.l.cutK m) else f.v.lo)<f.v.hi
   ·rw[if_pos q,if_pos (e2.2 q)];rfl
   ·rw[if_neg q,if_neg (fun e=>q (e2.1 e))];rfl
  ·have kM:f.l.cutK M<0:=by
    rw[hK];rcases fp (f.l.cutK m) with k|k|k
    ·exact absurd k hne
    ·rcases hs with rfl|rfl
     ·exact absurd ((i9 _).2 k) g
     ·grind
    ·rcases hs with rfl|rfl
     ·grind
     ·exact absurd (by have:=(kD (f.l.cutK m)).2 k;have:=qZ (f.l.cutK m).num;omega) g
   obtain⟨e1,e2⟩:=xo (l:=f.l) (m:=M) f.v kM;rw[if_neg g,e1] at*;rw[hq,hseg,KE,HY] at e2;rw[hq,hseg,KE,QC hlt];by_cases q:f.v.lo<(if-(f.l.cutC m/f.l.cutK m)<f.v.hi then-(f.l.cutC m/f.l.cutK m) else f.v.hi)
   ·rw[if_pos q,if_pos (e2.2 q)];rfl
   ·rw[if_neg q,if_neg (fun e=>q (e2.1 e))];rfl
def gt(acc:aa->Bool):Nat->List aP->aE->Tr
 |_,[],c=> .leaf (acc (o7 c))
 |0,_::_,_=> .leaf false
 |n+1,f::t,c=> .node f.l (gt acc n ((f::t).flatMap fun g=>splitP g f.l) (bF c f.l)) (gt acc n ((f::t).flatMap fun g=>splitP g f.l.rev) (bF c f.l.rev))
def Tr.like:Tr->Tr->Prop
 | .leaf _, .leaf _=>True
 | .node l x y, .node m u v=>l=m/\x.like u/\y.like v
 |_,_=>False
def gk.cut{f:aP}(h:gk f){m:ab}(hb:f.l.cutB f.v m=true):gk ⟨f.l,f.l.cutV f.v m⟩:=by
 have hp:=xd h.pos hb;have e:(f.l.cutV f.v m).nl=false/\(f.l.cutV f.v m).nh=false:=by
  have h1:=h.nl;have h2:=h.nh;unfold ab.cutV;split
  ·exact⟨h1,h2⟩
  ·split<;>simp[ao.meet,h1,h2]
 refine⟨h.ok,e.1,e.2,?_⟩;rcases hp with h|h|h
 ·rw[e.1] at h;cases h
 ·rw[e.2] at h;cases h
 ·exact h
def gk.split{f g:aP}(h:gk f){m:ab}(hg:g∈splitP f m):gk g:=by
 unfold splitP at hg;split at hg
 ·rename_i hb
  rw[aV] at hg;subst hg;exact h.cut hb
 ·cases hg
def Es{l:List aP}(h: ∀f∈l,gk f)(m:ab):l.flatMap (fun g=>jr g m 1)=l.flatMap (fun g=>splitP g m)/\l.flatMap (fun g=>jr g m (-1))=l.flatMap (fun g=>splitP g m.rev):=by
 induction l with
 |nil=>exact⟨J,J⟩
 |cons f t ih=>
  obtain⟨i1,i2⟩:=ih fun g hg=>h g (aZ _ hg);have hf:=h f aQ;refine⟨?_,?_⟩
  ·rw[nT,nT,i1,JX hf (.inl J),if_pos J]
  ·rw[nT,nT,i2,JX hf (.inr J),if_neg (by decide)]
def gk.splits{l:List aP}(h: ∀f∈l,gk f)(m:ab): ∀g∈l.flatMap (fun g=>splitP g m),gk g:=fun g hg=>by
 obtain⟨f,hf,hg⟩:=gK.1 hg;exact(h f hf).split hg
def F4{a b:aa->Bool}: ∀{n:Nat} {l:List aP} {c:aE} {d:List ab},(∀f∈l,gk f)->(gt a n l c).like (kd b n l d)
 |n,[],c,d,_=>by cases n<;>exact trivial
 |0,f::t,c,d,_=>trivial
 |n+1,f::t,c,d,h=>by
  rw[gt,kd];obtain⟨e1,e2⟩:=Es h f.l;refine⟨J,?_,?_⟩
  ·rw[e1];exact F4 (gk.splits h f.l)
  ·rw[e2];exact F4 (gk.splits h f.l.rev)
def Tr.like_lns: ∀{t u:Tr},t.like u->t.lns=u.lns
 | .leaf _, .leaf _,_=>rfl
 | .node l x y, .node m u v,⟨h,h1,h2⟩=>by rw[Tr.lns,Tr.lns,h,Tr.like_lns h1,Tr.like_lns h2]
def yX{M:List ab}(hM: ∀l∈M,l.ok): ∀{t u:Tr} {c:aE},t.like u->(∀l∈t.lns,l∈M)->dG c->(∀p,bH c p->eB M p->t.val p=u.val p)->t.restrict c=u.restrict c
 | .leaf a, .leaf b,c,_,_,hc,hv=>by
  obtain⟨p,hp,ho⟩:=T5 hc M hM;have:=hv p hp ho;rw[Tr.val,Tr.val] at this;rw[this]
 | .node l x y, .node m u v,c,⟨e,h1,h2⟩,hl,hc,hv=>by
  subst e;have hlM:=hl l aQ;have hx: ∀m∈x.lns,m∈M:=fun m hm=>hl m (aZ _ (bJ _ hm));have hy: ∀m∈y.lns,m∈M:=fun m hm=>hl m (aZ _ (cZ _ hm));have hok:=hM l hlM
  cases hb:cP c l.rev with
  |false=>
   rw[Tr.restrict_A _ _ hb,Tr.restrict_A _ _ hb];refine yX hM h1 hx hc fun p hp ho=>?_;have q:=Jp hc hok hb hp (ho l hlM);have:=hv p hp ho;rwa [Tr.val_pos q,Tr.val_pos q] at this
  |true=>
   cases hb2:cP c l with
   |false=>
    rw[Tr.restrict_B _ _ hb hb2,Tr.restrict_B _ _ hb hb2];refine yX hM h2 hy hc fun p hp ho=>?_;have q:=OV hc hok hb2 hp;have:=hv p hp ho;rwa [Tr.val_neg q,Tr.val_neg q] at this
   |true=>
    obtain⟨g1,i1⟩:=j' hc hok hb2;obtain⟨g2,i2⟩:=j' hc hok.rev hb;rw[Tr.restrict_C _ _ hb hb2,Tr.restrict_C _ _ hb hb2];congr 1
    ·refine yX hM h1 hx g1 fun p hp ho=>?_
     obtain⟨a1,a2⟩:=(i1 p).1 hp;have:=hv p a1 ho;rwa [Tr.val_pos a2,Tr.val_pos a2] at this
    ·refine yX hM h2 hy g2 fun p hp ho=>?_
     obtain⟨a1,a2⟩:=(i2 p).1 hp;rw[fI] at a2;have:=hv p a1 ho;rwa [Tr.val_neg (by grind),Tr.val_neg (by grind)] at this
def Tr.Prp:Tr->aE->Prop
 | .leaf _,_=>True
 | .node l x y,c=>cP c l=true/\cP c l.rev=true/\x.Prp (bF c l)/\y.Prp (bF c l.rev)
def Lc{c:aE}(hc:dG c){l:ab}(hl:l.ok){p:aa}(hp:bH c p)(h0:l.value p=0):cP c l=true/\cP c l.rev=true:=by
 have hn:=n4 hl.ne;obtain⟨e,he,hm⟩:=hp.open l.nor;obtain⟨f,hf,hk⟩:=hp.open (bO l.nor);have hn2:l.nor.dot (bO l.nor)= -(l.nor.dot l.nor):=by unfold bO aa.dot;dsimp only;grind
 refine⟨(rG hc hl).2 ⟨_,hm e (by grind) (by grind),?_⟩,(rG hc hl.rev).2 ⟨_,hk f (by grind) (by grind),?_⟩⟩
 ·rw[ie,h0];have:=b9 he hn;grind
 ·rw[fI,ie,h0,hn2];have:=b9 hf hn;grind
def uH(l:List aP)(c:aE):Prop:= ∀f∈l,∀t,f.v.ins t->bH c (f.l.at t)
def uH.split{l:List aP}{c:aE}(h:uH l c){m:ab}(i1: ∀p,bH (bF c m) p↔bH c p/\0<m.value p):uH (l.flatMap fun g=>splitP g m) (bF c m):=fun g hg t ht=>by
 obtain⟨f,hf,hg⟩:=gK.1 hg;unfold splitP at hg;split at hg
 ·rename_i hb
  rw[aV] at hg;subst hg;obtain⟨k1,k2⟩:=(zO hb t).1 ht;exact(i1 _).2 ⟨h f hf t k1,k2⟩
 ·cases hg
def uH.cross{f:aP}{t:List aP}{c:aE}(h:uH (f::t) c)(hf:gk f)(hc:dG c):cP c f.l=true/\cP c f.l.rev=true:=by
 have hs:f.v.ins (Ah f.v):=Nv hf.pos;exact Lc hc hf.ok (h f aQ _ hs) (rm hf.ok.ne _)
def E3{acc:aa->Bool}: ∀{n:Nat} {l:List aP} {c:aE},(∀f∈l,gk f)->dG c->uH l c->(gt acc n l c).Prp c
 |n,[],c,_,_,_=>by cases n<;>exact trivial
 |0,f::t,c,_,_,_=>trivial
 |n+1,f::t,c,h,hc,hl=>by
  rw[gt];have hf:=h f aQ;obtain⟨b1,b2⟩:=hl.cross hf hc;obtain⟨g1,i1⟩:=j' hc hf.ok b1;obtain⟨g2,i2⟩:=j' hc hf.ok.rev b2;exact⟨b1,b2,E3 (gk.splits h _) g1 (hl.split i1),E3 (gk.splits h _) g2 (hl.split i2)⟩
def BA(E:List aP)(c:aE)(l:List aP):Prop:= ∀e∈E,∀t,e.v.ins t->bH c (e.l.at t)-> ∃f∈l,f.l=e.l/\f.v.ins t
def BA.split{E l:List aP}{c:aE}(h:BA E c l)(hs: ∀f∈l,gk f){m:ab}(i1: ∀p,bH (bF c m) p↔bH c p/\0<m.value p):BA E (bF c m) (l.flatMap fun g=>splitP g m):=fun e he t ht hin=>by
 obtain⟨h1,h2⟩:=(i1 _).1 hin;obtain⟨f,hf,ef,hft⟩:=h e he t ht h1;have hb:f.l.cutB f.v m=true:=by
  cases q:f.l.cutB f.v m with
  |true=>rfl
  |false=>
   have:=z8 (hs f hf).pos q hft.has;rw[ef] at this;exact absurd this (by grind)
 refine⟨⟨f.l,f.l.cutV f.v m⟩,gK.2 ⟨f,hf,by unfold splitP;rw[if_pos hb];exact aV.2 J⟩,ef,?_⟩;exact(zO hb t).2 ⟨hft,by rw[ef];exact h2⟩
structure FS (f:aP):Prop where
 fo:nH f
 sg:gk f
def FS.splits{l:List aP}(h: ∀f∈l,FS f){m:ab}(hm:LB m):(∀g∈l.flatMap (fun g=>splitP g m),FS g)/\ ∀g∈l.flatMap (fun g=>splitP g m.rev),FS g:=by
 obtain⟨e1,e2⟩:=Es (fun f hf=>(h f hf).sg) m;refine⟨fun g hg=>⟨?_,gk.splits (fun f hf=>(h f hf).sg) m g hg⟩,fun g hg=>⟨?_,gk.splits (fun f hf=>(h f hf).sg) m.rev g hg⟩⟩
 ·rw[<-e1] at hg
  obtain⟨q,hq,hg⟩:=gK.1 hg;exact(Be (h q hq).fo hm g hg).1
 ·rw[<-e2] at hg
  obtain⟨q,hq,hg⟩:=gK.1 hg;exact(Be (h q hq).fo hm g hg).1
def mm.splitP{n:Nat}{f:aP}{t:List aP}(h:mm (n+1) (f::t))(hok: ∀g∈f::t,FS g):mm n ((f::t).flatMap fun g=>splitP g f.l)/\mm n ((f::t).flatMap fun g=>splitP g f.l.rev):=by
 obtain⟨e1,e2⟩:=Es (fun f hf=>(hok f hf).sg) f.l;rw[<-e1,<-e2];exact⟨h.split (fun g hg=>(hok g hg).fo),h.split (fun g hg=>(hok g hg).fo)⟩
def mm.no{f:aP}{t:List aP}(h:mm 0 (f::t)):False:=by
 obtain⟨K,hK,hs⟩:=h;obtain⟨m,hm,_⟩:=hs f aQ;rw[bL (show K.length=0 by omega)] at hm;cases hm
def Hu{acc:aa->Bool}{E:List aP}(ha: ∀(c:aE) (q p:aa),(∀e∈E,∀t,e.v.ins t-> ¬bH c (e.l.at t))->bH c q->bH c p->acc q=acc p): ∀{n:Nat} {l:List aP} {c:aE} {p:aa},(∀f∈l,FS f)->mm n l->dG c->uH l c->BA E c l->bH c p->eB (gt acc n l c).lns p->(gt acc n l c).val p=acc p
 |n,[],c,p,_,_,hc,_,hcov,hp,_=>by
  have e:gt acc n [] c= .leaf (acc (o7 c)):=by cases n<;>rfl
  rw[e,Tr.val];exact ha c _ _ (fun e he t ht hin=>by obtain⟨f,hf,_⟩:=hcov e he t ht hin;cases hf) (Sf hc) hp
 |0,f::t,_,_,_,hf,_,_,_,_,_=>hf.no.elim
 |n+1,f::t,c,p,hok,hf,hc,hl,hcov,hp,hoff=>by
  have fo:=hok f aQ;have hsg:=fun g hg=>(hok g hg).sg;obtain⟨k1,k2⟩:=FS.splits hok fo.fo.lb;obtain⟨w1,w2⟩:=hf.splitP hok;obtain⟨b1,b2⟩:=hl.cross fo.sg hc;obtain⟨g1,i1⟩:=j' hc fo.sg.ok b1;obtain⟨g2,i2⟩:=j' hc fo.sg.ok.rev b2;rw[gt] at hoff⊢;by_cases q:0<f.l.value p
  ·rw[Tr.val_pos q]
   exact Hu ha k1 w1 g1 (hl.split i1) (hcov.split hsg i1) ((i1 p).2 ⟨hp,q⟩) hoff.x
  ·rw[Tr.val_neg q]
   have:=hoff.l;exact Hu ha k2 w2 g2 (hl.split i2) (hcov.split hsg i2) ((i2 p).2 ⟨hp,by rw[fI];grind⟩) hoff.y
def UE{v w:ZP}(h:v≠w)(ho:(dq v w).l.ok):gk (dq v w):=⟨ho,J,J,(GT h ho).2.2⟩
def xC{rs:List (List ZP)}(hr: ∀r∈rs,fG r): ∀f∈cI rs,FS f:=fun f hf=>by
 have h2:=(q7 hr).2 f hf;obtain⟨v,w,hn,ho,rfl,_⟩:=apY hr hf;exact⟨h2,UE hn ho⟩
def GD(rs:List (List ZP)):mm (cI rs).length (cI rs):=⟨(cI rs).map (·.l),by rw[aJ];exact aN _,fun f hf=>⟨f.l,kX hf, .inl J⟩⟩
def Df{c:aE}{p:aa}:bH c p↔ek (c.map fun s=>s.l) p:=by
 unfold bH ek;constructor
 ·intro h m hm
  obtain⟨s,hs,rfl⟩:=bW.1 hm;exact h s hs
 ·intro h s hs
  exact h s.l (kX hs)
def jD(rs:List (List ZP))(fill:Int):Tr:=gt (jB rs fill) (cI rs).length (cI rs) []
def Y1{rs:List (List ZP)}{fill:Int}(hr: ∀r∈rs,fG r){p:aa}(ho:eB (jD rs fill).lns p):(jD rs fill).val p=jB rs fill p:=
 Hu (E:=cI rs) (fun c q p hno hq hp=>Ip hr (c:=c.map fun s=>s.l) (fun e he t ht hin=>hno e he t ht (Df.2 hin)) (Df.1 hq) (Df.1 hp)) (xC hr) (GD rs) dG.nil (fun f hf t ht s hs=>by cases hs) (fun e he t ht _=>⟨e,he,J,ht⟩) (fun s hs=>by cases hs) ho
def avJ{rs:List (List ZP)}{fill:Int}(hr: ∀r∈rs,fG r){p:aa}(ho:eB (pk rs fill).lns p):(pk rs fill).val p=jB rs fill p:=by
 rw[<-PZ hr ho];unfold kt;rw[Tr.val_restrict (pk rs fill) [] p (r8 fun f hf=>((q7 hr).2 f hf).ok) dG.nil (fun s hs=>by cases hs) ho]
def L4{rs:List (List ZP)}{fill:Int}(hr: ∀r∈rs,fG r):(jD rs fill).like (pk rs fill)/\(jD rs fill).Prp []/\(jD rs fill).all ab.ok:=by
 have hl:(jD rs fill).like (pk rs fill):=F4 fun f hf=>(xC hr f hf).sg;refine⟨hl,E3 (fun f hf=>(xC hr f hf).sg) dG.nil (fun f hf t ht s hs=>by cases hs),?_⟩;have hk:(pk rs fill).all ab.ok:=r8 fun f hf=>((q7 hr).2 f hf).ok;rw[pb,Tr.like_lns hl,<-pb];exact hk
def Tw{rs:List (List ZP)}{fill:Int}(hr: ∀r∈rs,fG r):(jD rs fill).restrict []=kt rs fill:=by
 obtain⟨h1,h2,h3⟩:=L4 (fill:=fill) hr;unfold kt;refine yX (M:=(jD rs fill).lns) (pb.1 h3) h1 (fun l hl=>hl) dG.nil fun p hp ho=>?_;rw[Y1 hr ho,avJ hr (by rw[<-Tr.like_lns h1];exact ho)]
end Go.Sx
end
