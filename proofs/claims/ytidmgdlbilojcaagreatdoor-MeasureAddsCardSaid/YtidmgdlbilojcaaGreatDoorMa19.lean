import Derived.Test.YtidmgdlbilojcaaGreatDoorMa18
set_option linter.all false
set_option maxHeartbeats 1000000
set_option maxRecDepth 100000
section
namespace Go.Sx
open Go Go.Proofs Tryz
variable {GB:Gh}
def I'{l:aa}: ∀{c:List aa} {v:ah},(fj l c v).2=true->eO l c v=some (fj l c v).1
 |[],v,_=>rfl
 |m::t,v,h=>by
  rw[fj] at h⊢;rw[eO];split
  ·rename_i e;rw[if_pos e] at h;exact I' h
  ·rename_i e
   rw[if_neg e] at h;split
   ·rename_i k;rw[if_pos k] at h;exact I' h
   ·rename_i k;rw[if_neg k] at h;cases h
def Uj{v:ah}(h:v.Pos):v.ins (jB v):=by
 obtain⟨lo,hi,nl,nh⟩:=v;unfold ah.Pos at h;unfold jB ah.ins
 cases nl<;>cases nh<;>simp at* <;>grind
def QP{p v:ab}: ∀{c:List aa} {s:Rat},0<s->0<m5 p v c s/\m5 p v c s<=s/\ ∀m∈c,0<m.value p->m.nor.dot v<0->m5 p v c s<= -(m.value p/m.nor.dot v)/2
 |[],s,h=>⟨h,fU,fun m hm=>by cases hm⟩
 |m::t,s,h=>by
  have hk:m.value (ck p v ((1:Int):Rat))-m.value p=m.nor.dot v:=by rw[jl];grind
  have key:0<om p v m s/\om p v m s<=s/\(0<m.value p->m.nor.dot v<0->om p v m s<= -(m.value p/m.nor.dot v)/2):=by
   unfold om tF;simp only[hk,n8,nO,As];split
   ·rename_i e;exact⟨h,fU,fun _ k=>by rw[e] at k;exact absurd k (by decide)⟩
   ·split
    ·rename_i e;exact⟨h,fU,fun k=>by rw[e] at k;exact absurd k (by decide)⟩
    ·split
     ·rename_i e
      split
      ·exact⟨by grind,by grind,fun _ _=>fU⟩
      ·exact⟨h,fU,fun _ _=>by grind⟩
     ·rename_i e
      exact⟨h,fU,fun k1 k2=>absurd (KA k2 k1) e⟩
  obtain⟨a1,a2,a3⟩:=key;obtain⟨b1,b2,b3⟩:=QP (p:=p) (v:=v) (c:=t) a1;rw[m5];refine⟨b1,by grind,fun u hu k1 k2=>?_⟩;rcases aY.1 hu with rfl|hu
  ·have:=a3 k1 k2;grind
  ·exact b3 u hu k1 k2
def Vr{c:List aa}{p v:ab}(h: ∀m∈c,0<m.value p\/(m.value p=0/\0<m.nor.dot v)):cF c (xw c p v):=fun m hm=>by
 obtain⟨s0,_,s2⟩:=QP (p:=p) (v:=v) (c:=c) (s:=((1:Int):Rat)) (by decide);unfold xw;generalize m5 p v c ((1:Int):Rat)=s at*;rw[jl];rcases h m hm with k|⟨k,k2⟩
 ·by_cases q:m.nor.dot v<0
  ·have h3:=s2 m hm k q
   have h4:=KA q k;have e:m.value p/m.nor.dot v*m.nor.dot v=m.value p:=by grind
   generalize m.value p/m.nor.dot v=z at*;have h5:=di (a:= -z/2-s) (b:= -m.nor.dot v) (by grind) (by grind);grind
  ·have:=di (cM s0) (show 0<=m.nor.dot v by grind)
   grind
 ·have:=ge s0 k2
  grind
def S6{m:aa}(h:m.Ne):0<m.nor.dot (oq m.dir):=by
 have:=q7 h;have e:m.nor.dot (oq m.dir)=m.nor.dot m.nor:=by unfold oq aa.dir aa.nor ab.dot;grind
 rw[e];exact this
def UN{c:List aa}(hok: ∀m∈c,m.ok)(hb:i5 c=true):cF c (iG c c):=by
 have key: ∀t:List aa,(∀m∈t,m∈c)->(∃m∈t,(eO m c ah.all).isSome=true)->cF c (iG c t):=by
  intro t
  induction t with
  |nil=>rintro _ ⟨m,hm,_⟩;cases hm
  |cons m t ih=>
   intro hs hx;rw[iG];split
   ·rename_i e
    obtain⟨h1,h2⟩:=Aa m c _ _ tG (I' e);have h3:=((h2 _).1 (Uj h1)).2;have hmo:=(hok m (hs m aQ)).ne;refine Vr fun u hu=>?_;by_cases q:u=m
    ·subst q;exact .inr ⟨me hmo _,S6 hmo⟩
    ·exact .inl (h3 u hu q)
   ·rename_i e
    refine ih (fun u hu=>hs u (aJ _ hu)) ?_;obtain⟨u,hu,h⟩:=hx;rcases aY.1 hu with rfl|hu
    ·rw[wI] at e;exact absurd h e
    ·exact⟨u,hu,h⟩
 unfold i5 at hb;rw[iW,List.isEmpty_iff,jS] at hb;rcases hb with rfl|⟨m,hm,h⟩
 ·exact fun m hm=>by cases hm
 ·exact key c (fun _ h=>h) ⟨m,hm,h⟩
def cF.seg{c:List aa}{q p:ab}{e:Rat}(hq:cF c q)(hp:cF c p)(h0:0<=e)(h1:e<=1):cF c (bw q p e):=fun m hm=>by
 rw[m7];have a:=hq m hm;have b:=hp m hm;by_cases z:e=0
 ·subst z;grind
 ·have k1:=ge (show 0<e by grind) b
  have k2:=di (show 0<=1-e by grind) (cM a);grind
def cF.open{c:List aa}{q:ab}(u:ab)(h:cF c q): ∃e:Rat,0<e/\ ∀d,0<=d->d<=e->cF c (ck q u d):=by
 have hd:bc (c.map fun m=>(⟨m,ah.all⟩:bj)) q:=fun s hs=>by
  obtain⟨m,hm,rfl⟩:=bV.1 hs;exact h m hm
 obtain⟨e,he,ho⟩:=hd.open u;exact⟨e,he,fun d d0 d1 m hm=>ho d d0 d1 ⟨m,ah.all⟩ (eX hm)⟩
def wG(l:aa)(t u:Rat):l.at (t+u)=ck (l.at t) l.dir u:=by
 rw[<-tj,<-tj];unfold ck;simp only[ab.mk.injEq];constructor<;>grind
def WU(l:aa)(a b s:Rat):bw (l.at a) (l.at b) s=l.at (a+s*(b-a)):=by
 rw[<-tj,<-tj,<-tj];unfold bw ck;simp only[ab.mk.injEq];constructor<;>grind
def RD{l:aa}(h:l.Ne)(t:Rat):gw l (l.at t)=t:=by
 obtain⟨q,_,hq⟩:=wX h;have h2:=q7 h;have e0:l.dir.dot l.dir=l.nor.dot l.nor:=by unfold aa.dir aa.nor ab.dot;grind
 have e1:(l.at t).dot l.dir=t*l.dir.dot l.dir:=by
  rw[<-tj,hq];unfold ck aa.dir ab.dot;grind
 unfold gw;rw[e1];rw[<-e0] at h2;generalize l.dir.dot l.dir=d at*;have:d≠0:=by grind
 grind
def Rg{l:aa}(h:l.Ne){p:ab}(hp:l.value p=0):l.at (gw l p)=p:=by
 obtain⟨t,rfl⟩:=Dn h hp;rw[RD h]
def Eo(a:Int){g:Nat}(h:g∣a.natAbs):(g:Int)*zv (decide (a<0)) (a.natAbs/g)=a:=by
 obtain⟨k,hk⟩:=h;by_cases g0:g=0
 ·subst g0;simp at hk⊢;omega
 have e:a.natAbs/g=k:=by rw[hk];exact Nat.mul_div_cancel_left k (iM g0)
 rw[e];unfold zv;have hc:((g*k:Nat):Int)=(g:Int)*(k:Int):=by push_cast;rfl
 by_cases n:a<0
 ·simp only[n,decide_true,if_true];rw[sV];omega
 ·simp only[n,decide_false];show(g:Int)*(k:Int)=a;omega
def R2{a b c:Int}(h: ¬(a=0/\b=0)): ∃g:Int,0<g/\g*(qe a b c).a=a/\g*(qe a b c).b=b/\g*(qe a b c).c=c:=by
 have hg:0<Nat.gcd (Nat.gcd a.natAbs b.natAbs) c.natAbs:=oK _ (iM fun e=>h ⟨nQ.1 (nL e),nQ.1 (nR e)⟩);refine⟨(Nat.gcd (Nat.gcd a.natAbs b.natAbs) c.natAbs:Nat),by omega,?_,?_,?_⟩
 ·exact Eo a (sJ (mS _ _) (mS _ _))
 ·exact Eo b (sJ (mS _ _) (nU _ _))
 ·exact Eo c (nU _ _)
def Vl{v w:ZP}(h:v≠w): ∃g:Rat,0<g/\(mh v.1 v.2 w.1 w.2).value v.q=0/\(mh v.1 v.2 w.1 w.2).value w.q=0/\w.q=ck v.q (mh v.1 v.2 w.1 w.2).dir g:=by
 obtain⟨m,n⟩:=v;obtain⟨p,q⟩:=w;have hne: ¬(pD n q=0/\pu m p=0):=fun e=>h (by unfold pD pu at e;rw[Prod.mk.injEq];omega);obtain⟨g,g0,ga,gb,gc⟩:=R2 (c:=wA m n p q) hne;dsimp only;unfold mh;generalize qe (pD n q) (pu m p) (wA m n p q)=l at*;have g0':(0:Rat)<(g:Rat):=by exact_mod_cast g0
 have ra:(g:Rat)*(l.a:Rat)= -((q:Rat)-(n:Rat)):=by rw[<-cW,ga];unfold pD;push_cast;grind
 have rb:(g:Rat)*(l.b:Rat)=(p:Rat)-(m:Rat):=by rw[<-cW,gb];unfold pu;push_cast;grind
 have rc:(g:Rat)*(l.c:Rat)= -(-((q:Rat)-(n:Rat))*(m:Rat)+((p:Rat)-(m:Rat))*(n:Rat)):=by rw[<-cW,gc];unfold wA pD pu;push_cast;grind
 have z: ∀x:Rat,(g:Rat)*x=0->x=0:=fun x hx=>by
  rcases gK.1 hx with e|e
  ·rw[e] at g0';exact absurd g0' (by decide)
  ·exact e
 refine⟨g,g0',z _ ?_,z _ ?_,?_⟩
 ·rw[jf];unfold ZP.q iP;dsimp only;grind
 ·rw[jf];unfold ZP.q iP;dsimp only;grind
 ·unfold ZP.q iP ck aa.dir;simp only[ab.mk.injEq];constructor<;>grind
def aDz{v w:ZP}(h:v≠w)(ho:(kr v w).l.ok):(kr v w).l.at (kr v w).v.lo=v.q/\(kr v w).l.at (kr v w).v.hi=w.q/\(kr v w).v.lo<(kr v w).v.hi:=by
 obtain⟨g,g0,h1,h2,h3⟩:=Vl h;unfold kr at ho⊢;dsimp only at ho⊢;generalize mh v.1 v.2 w.1 w.2=l at*;have e1:=Rg ho.ne h1;have e2:=Rg ho.ne h2;refine⟨e1,e2,?_⟩;have:gw l w.q=gw l v.q+g:=by
  have e3:=wG l (gw l v.q) g;rw[e1,<-h3] at e3;rw[<-e3,RD ho.ne]
 rw[this];grind
def OR{r:List ZP}{k:Nat}: ∀{n:Nat},k<n->kr (r.getD k (0,0)) (gv r k)∈qx r n
 |n+1,h=>by
  rw[qx];by_cases e:k=n
  ·subst e;exact bL _ (aW.2 J)
  ·exact bU _ (OR (by omega))
def Yu{r:List ZP}(hr:dO r){c:List aa}(hc: ∀e∈km r,∀t,e.v.ins t-> ¬cF c (e.l.at t)){q p:ab}(hq:cF c q)(hp:cF c p):yt r q p:=fun k hk s t s0 s1 t0 t1 he=>by
 have hm:kr (r.getD k (0,0)) (gv r k)∈km r:=OR hk;have ho:=((BX hr).2 _ hm).ok;obtain⟨e1,e2,e3⟩:=aDz (hr.ne k hk) ho;have hno:=hc _ hm;have hx:=hq.seg hp t0 t1;rw[<-he,<-e1,<-e2,WU] at hx;have hv: ∀u,(kr (r.getD k (0,0)) (gv r k)).v.lo<u->u<(kr (r.getD k (0,0)) (gv r k)).v.hi-> ¬cF c ((kr (r.getD k (0,0)) (gv r k)).l.at u):=fun u h1 h2=>hno u ⟨.inr h1, .inr h2⟩;generalize kr (r.getD k (0,0)) (gv r k)=e at*;have hb:=F7 s0 s1 (fU) (cM e3) (cM e3) (fU);generalize e.v.lo+s*(e.v.hi-e.v.lo)=u at*;obtain⟨d,d0,hd⟩:=hx.open e.l.dir;obtain⟨d',d0',hd'⟩:=hx.open (kt e.l.dir);by_cases h1:e.v.lo<u
 ·by_cases h2:u<e.v.hi
  ·exact hv u h1 h2 hx
  ·have eu:u=e.v.hi:=by grind
   obtain⟨z,z0,z1,z2⟩: ∃z:Rat,0<z/\z<=d'/\z<e.v.hi-e.v.lo:=by
    by_cases k:d'<(e.v.hi-e.v.lo)/2
    ·exact⟨d',d0',fU,by grind⟩
    ·exact⟨(e.v.hi-e.v.lo)/2,by grind,by grind,by grind⟩
   refine hv (u+ -z) (by grind) (by grind) ?_;rw[wG];have:=hd' z (cM z0) z1;have e5:ck (e.l.at u) (kt e.l.dir) z=ck (e.l.at u) e.l.dir (-z):=by unfold ck kt;simp only[ab.mk.injEq];constructor<;>grind
   rw[e5] at this;exact this
 ·have eu:u=e.v.lo:=by grind
  obtain⟨z,z0,z1,z2⟩: ∃z:Rat,0<z/\z<=d/\z<e.v.hi-e.v.lo:=by
   by_cases k:d<(e.v.hi-e.v.lo)/2
   ·exact⟨d,d0,fU,by grind⟩
   ·exact⟨(e.v.hi-e.v.lo)/2,by grind,by grind,by grind⟩
  refine hv (u+z) (by grind) (by grind) ?_;rw[wG];exact hd z (cM z0) z1
def S4{rs:List (List ZP)}{fill:Int}(hr: ∀r∈rs,dO r){c:List aa}(hc: ∀e∈iw rs,∀t,e.v.ins t-> ¬cF c (e.l.at t)){q p:ab}(hq:cF c q)(hp:cF c p):mi rs fill q=mi rs fill p:=by
 have key: ∀(rs:List (List ZP)),(∀r∈rs,dO r)->(∀e∈iw rs,∀t,e.v.ins t-> ¬cF c (e.l.at t))-> ∀n:Int,rs.foldl (fun n r=>n+lw r q) n=rs.foldl (fun n r=>n+lw r p) n:=by
  intro rs
  induction rs with
  |nil=>intro _ _ n;rfl
  |cons r t ih=>
   intro hr hc n;rw[jU,jU,<-Vc (Yu (hr r aQ) (fun e he=>hc e (gX.2 ⟨r,aQ,he⟩)) hq hp)];exact ih (fun r h=>hr r (aJ _ h)) (fun e he=>hc e (by obtain⟨r,h1,h2⟩:=gX.1 he;exact gX.2 ⟨r,aJ _ h1,h2⟩)) _
 unfold mi;rw[key rs hr hc]
def AL{cuts:List Rat}(h:cuts.Pairwise (· < ·)){i j:Nat}(hij:i<j)(hj:j<cuts.length):cuts.getD i 0<cuts.getD j 0:=by
 rw[aX,aX,aZ hj,aZ (by omega)];exact nV.1 h i j (by omega) hj hij
def EY{cuts:List Rat}{marks:List Bool}(h:cuts.Pairwise (· < ·)): ∀{k:Nat},∀v∈fH cuts marks (k+1),k<cuts.length->(v.nh=false/\v.hi<=cuts.getD k 0)/\(v.nl=true\/v.lo<cuts.getD k 0)
 |k,v,hv,hk=>by
  have hg:((dl cuts k).nh=false/\(dl cuts k).hi<=cuts.getD k 0)/\((dl cuts k).nl=true\/(dl cuts k).lo<cuts.getD k 0):=by
   unfold dl;dsimp only;refine⟨⟨by simp;omega,by rw[if_pos hk];exact fU⟩,?_⟩;by_cases z:k=0
   ·left;simp[z]
   ·right;rw[if_neg z];exact AL h (by omega) hk
  have hold: ∀v∈fH cuts marks k,(v.nh=false/\v.hi<=cuts.getD k 0)/\(v.nl=true\/v.lo<cuts.getD k 0):=fun v hv=>by
   cases k with
   |zero=>cases hv
   |succ k=>
    have ih:=EY h v hv (by omega);have:=AL h (Nat.lt_succ_self k) hk;exact⟨⟨ih.1.1,by have:=ih.1.2;grind⟩,ih.2.imp id fun z=>by grind⟩
  rw[fH] at hv;split at hv
  ·split at hv
   ·split at hv
    ·rename_i w hw
     rcases bW.1 hv with q|q
     ·exact hold v ((sQ _).subset q)
     ·rw[aW] at q;subst q
      exact⟨hg.1,(hold w (nT hw)).2⟩
    ·rcases bW.1 hv with q|q
     ·exact hold v q
     ·rw[aW] at q;subst q;exact hg
   ·rcases bW.1 hv with q|q
    ·exact hold v q
    ·rw[aW] at q;subst q;exact hg
  ·exact hold v hv
def JU{cuts:List Rat}{marks:List Bool}(h:cuts.Pairwise (· < ·)){x:Rat}{i:Nat}(hm:marks.getD i false=true)(hx:(dl cuts i).ins x): ∀{k:Nat},k<=cuts.length+1->i<k-> ∃v∈fH cuts marks k,v.ins x
 |k+1,hk,hi=>by
  by_cases e:i=k
  ·subst e
   rw[fH,if_pos hm];split
   ·rename_i h0
    split
    ·rename_i w hw
     refine⟨_,bL _ (aW.2 J),?_,hx.2⟩;obtain⟨j,rfl⟩: ∃j,i=j+1:=⟨i-1,by omega⟩;have:=(EY h w (nT hw) (by omega)).2;have hl:=hx.1;unfold dl at hl;dsimp only at hl;rw[if_neg (by omega),show j+1-1=j by omega] at hl;have hl':cuts.getD j 0<x:=hl.resolve_left (by simp);exact this.imp id fun z=>by show w.lo<x;grind
    ·exact⟨_,bL _ (aW.2 J),hx⟩
   ·exact⟨_,bL _ (aW.2 J),hx⟩
  ·obtain⟨v,hv,hvx⟩:=JU h hm hx (k:=k) (by omega) (by omega)
   rw[fH];split
   ·split
    ·split
     ·rename_i w hw
      by_cases q:v=w
      ·subst q
       refine⟨_,bL _ (aW.2 J),hvx.1,?_⟩;show(dl cuts k).nh=true\/x<(dl cuts k).hi;obtain⟨j,rfl⟩: ∃j,k=j+1:=⟨k-1,by omega⟩;obtain⟨⟨b1,b2⟩,_⟩:=EY h v hv (by omega);have hh:=hvx.2.resolve_left (by rw[b1];decide);unfold dl;dsimp only;by_cases z:j+1<cuts.length
       ·right;rw[if_pos z];have:=AL h (Nat.lt_succ_self j) z;grind
       ·left;simp;omega
      ·refine⟨v,bU _ ?_,hvx⟩
       obtain⟨l,hl⟩:=List.getLast?_eq_some_iff.1 hw;rw[hl] at hv⊢;rw[List.dropLast_concat];rcases bW.1 hv with z|z
       ·exact z
       ·rw[aW] at z;exact absurd z q
     ·exact⟨v,bU _ hv,hvx⟩
    ·exact⟨v,bU _ hv,hvx⟩
   ·exact⟨v,hv,hvx⟩
def Qm: ∀{l:List Rat} {i:Nat},i+1<l.length->(iI l).getD i 0=(l.getD i 0+l.getD (i+1) 0)/2
 |[],_,h=>by simp at h
 |[_],_,h=>by simp at h
 |a::b::t,0,_=>by simp[iI]
 |a::b::t,i+1,h=>by
  have:=Qm (l:=b::t) (i:=i) (by simp at h⊢;omega);rw[iI,lV,this];simp only[lV]
def DH: ∀(l:List Rat) (a:Rat),(iI (a::l)).length=l.length
 |[],_=>rfl
 |b::t,a=>by rw[iI,bZ,DH t b,bZ]
def Ww{cuts:List Rat}(h:cuts.Pairwise (· < ·)){i j:Nat}(hi:i<=cuts.length)(hj:j<cuts.length):(cuts.getD j 0<(ey cuts).getD i 0↔j<i)/\cuts.getD j 0≠(ey cuts).getD i 0:=by
 have mono: ∀{a b:Nat},a<=b->b<cuts.length->cuts.getD a 0<=cuts.getD b 0:=fun{a b} hab hb=>by
  by_cases e:a=b
  ·subst e;exact fU
  ·exact cM (AL h (by omega) hb)
 cases cuts with
 |nil=>simp at hj
 |cons a t=>
  have hl:(a::t).length=t.length+1:=J;rw[ey]
  cases i with
  |zero=>
   rw[tZ];have:=mono (bJ j) hj;rw[tZ] at this;constructor
   ·constructor
    ·intro q;exfalso;grind
    ·intro q;omega
   ·intro q;grind
  |succ i=>
   rw[lV];by_cases e:i<t.length
   ·have e1:(iI (a::t)++[(a::t).getLast (by simp)+1]).getD i 0=((a::t).getD i 0+(a::t).getD (i+1) 0)/2:=by
     rw[<-Qm (by omega),aX,aX,dR (by rw[DH];exact e)]
    rw[e1];have h1:=AL h (Nat.lt_succ_self i) (by omega);by_cases q:j<=i
    ·have:=mono q (by omega)
     constructor
     ·exact⟨fun _=>by omega,fun _=>by grind⟩
     ·grind
    ·have:=mono (show i+1<=j by omega) hj
     constructor
     ·exact⟨fun _=>by exfalso;grind,fun _=>by omega⟩
     ·grind
   ·have ei:i=t.length:=by omega
    have e1:(iI (a::t)++[(a::t).getLast (by simp)+1]).getD i 0=(a::t).getLast (by simp)+1:=by
     rw[aX,gU (by rw[DH];omega),DH,ei];simp
    rw[e1];have:=JO h (by simp) ((a::t).getD j 0) (by rw[aX,aZ hj];exact cJ _);constructor
    ·exact⟨fun _=>by omega,fun _=>by grind⟩
    ·grind
def K8(x:Rat): ∀{cuts:List Rat},cuts.Pairwise (· < ·)-> ∃i,i<=cuts.length/\ ∀j,j<cuts.length->(cuts.getD j 0<x↔j<i)
 |[],_=>⟨0,aN _,fun j hj=>by simp at hj⟩
 |a::t,h=>by
  rw[cK] at h;by_cases q:a<x
  ·obtain⟨i,h1,h2⟩:=K8 x h.2
   refine⟨i+1,by simp;exact h1,fun j hj=>?_⟩
   cases j with
   |zero=>simp[q]
   |succ j=>rw[lV,h2 j (by simpa using hj)];omega
  ·refine⟨0,bJ _,fun j hj=>⟨fun k=>?_,fun k=>by omega⟩⟩
   exfalso
   cases j with
   |zero=>simp at k;grind
   |succ j=>
    rw[lV] at k;have hj':j<t.length:=by simpa using hj
    have:=h.1 (t.getD j 0) (by rw[aX,aZ hj'];exact cJ _);grind
def PK{out:List Rat}{s:ah}{y:Rat}:y∈lg out s↔y∈out\/(s.nl=false/\y=s.lo)\/(s.nh=false/\y=s.hi):=by
 unfold lg
 cases e1:s.nl<;>cases e2:s.nh<;>simp[qj]<;>grind
def JA{v:ah}{x:Rat}:fD [v] x=true↔v.ins x:=by
 unfold fD sE sE ah.ins;have h1:=Hn x v.lo;have h2:=As x v.hi;rw[decide_eq_true_eq]
 cases e1:v.nl<;>cases e2:v.nh<;>simp only[if_true,iL,if_false,false_or,true_or,h1,h2,and_true,true_and,show(0:Int)<1 from by decide,show(-1:Int)<0 from by decide]<;>grind
def RU{cuts:List Rat}{v:ah}(hl:v.nl=true\/v.lo∈cuts)(hh:v.nh=true\/v.hi∈cuts){x g:Rat}(ho: ∀u∈cuts,(u<x↔u<g)/\u≠x/\u≠g)(h:v.ins x):v.ins g:=by
 refine⟨?_,?_⟩
 ·rcases hl with e|e
  ·exact .inl e
  ·rcases h.1 with k|k
   ·exact .inl k
   ·exact .inr ((ho _ e).1.1 k)
 ·rcases hh with e|e
  ·exact .inl e
  ·rcases h.2 with k|k
   ·exact .inl k
   ·obtain⟨a,b,c⟩:=ho _ e
    right;by_cases q:v.hi<g
    ·have:=a.2 q;grind
    ·grind
def Z3{v w:ah}{t:Rat}(hv:v.ins t)(hw:w.ins t): ∃z∈ow 2 [v] [w],z.ins t:=by
 have hmem: ∀y,y∈gH ([v]++[w])↔((v.nl=false/\y=v.lo)\/(v.nh=false/\y=v.hi))\/(w.nl=false/\y=w.lo)\/(w.nh=false/\y=w.hi):=fun y=>by
  show y∈lg (lg [] v) w↔_;rw[PK,PK];simp
 have hasc:=(ES ([v]++[w])).1;have h0: ∀u∈gH ([v]++[w]),u≠t:=fun u hu e=>by
  subst e;rcases(hmem u).1 hu with(⟨a,b⟩|⟨a,b⟩)|⟨a,b⟩|⟨a,b⟩
  ·have:=hv.1.resolve_left (by rw[a];decide);grind
  ·have:=hv.2.resolve_left (by rw[a];decide);grind
  ·have:=hw.1.resolve_left (by rw[a];decide);grind
  ·have:=hw.2.resolve_left (by rw[a];decide);grind
 have l1:v.nl=true\/v.lo∈gH ([v]++[w]):=by
  cases e:v.nl with
  |true=>exact .inl J
  |false=>exact .inr ((hmem _).2 (.inl (.inl ⟨e,J⟩)))
 have l2:v.nh=true\/v.hi∈gH ([v]++[w]):=by
  cases e:v.nh with
  |true=>exact .inl J
  |false=>exact .inr ((hmem _).2 (.inl (.inr ⟨e,J⟩)))
 have l3:w.nl=true\/w.lo∈gH ([v]++[w]):=by
  cases e:w.nl with
  |true=>exact .inl J
  |false=>exact .inr ((hmem _).2 (.inr (.inl ⟨e,J⟩)))
 have l4:w.nh=true\/w.hi∈gH ([v]++[w]):=by
  cases e:w.nh with
  |true=>exact .inl J
  |false=>exact .inr ((hmem _).2 (.inr (.inr ⟨e,J⟩)))
 unfold ow vy;generalize gH ([v]++[w])=cuts at*;obtain⟨i,hi,ho⟩:=K8 t hasc;have hord: ∀u∈cuts,(u<t↔u<(ey cuts).getD i 0)/\u≠t/\u≠(ey cuts).getD i 0:=fun u hu=>by
  obtain⟨j,hj,e⟩:=mX.1 hu;have e':cuts.getD j 0=u:=by rw[aX,aZ hj];exact e
  obtain⟨g1,g2⟩:=Ww hasc hi hj;have:=ho j hj;rw[e'] at g1 g2 this;exact⟨this.trans g1.symm,h0 u hu,g2⟩
 have hlen:(ey cuts).length=cuts.length+1:=zI;refine JU hasc (i:=i) ?_ ?_ (by rw[aK,hlen];exact aN _) (by rw[aK,hlen];omega)
 ·rw[aX,cV,aZ (by omega)]
  show nj 2 (fD [v] _) (fD [w] _)=true;have e:(ey cuts)[i]'(by omega)=(ey cuts).getD i 0:=by rw[aX,aZ (by omega)];rfl
  rw[e,JA.2 (RU l1 l2 hord hv),JA.2 (RU l3 l4 hord hw)];rfl
 ·unfold dl ah.ins
  dsimp only;refine⟨?_,?_⟩
  ·by_cases z:i=0
   ·left;simp[z]
   ·right;rw[if_neg z];exact(ho (i-1) (by omega)).2 (by omega)
  ·by_cases z:i=cuts.length
   ·left;simp[z]
   ·right
    rw[if_pos (by omega)];have a:=ho i (by omega);have b:=h0 (cuts.getD i 0) (by rw[aX,aZ (by omega)];exact cJ _);have c: ¬cuts.getD i 0<t:=fun k=>by have:=a.1 k;omega
    grind
def Ou{l m:aa}(h:crossI l m=0):l.cutK m=0:=by
 have e:l.cutK m= -(crossI l m:Rat):=by unfold aa.cutK aa.nor aa.dir ab.dot crossI;push_cast;grind
 rw[e,h];rfl
def aym{k:Rat}{side:Int}(hs:side=1\/side= -1)(h:0<(side:Rat)*k):k.num.sign=side:=by
 rcases hs with rfl|rfl
 ·exact(xK k).2 (by grind)
 ·have:k.num.sign<0:=(yS k).2 (by grind)
  have:=tX k.num;omega
def XL{f:bj}{m:aa}{side:Int}(hs:side=1\/side= -1)(hl:f.l.Ne){t:Rat}(ht:f.v.ins t)(hm:0<(side:Rat)*m.value (f.l.at t)): ∃g∈eh f m side,g.l=f.l/\g.v.ins t:=by
 have hv:=j9 f.l m t;have ho: ¬lh f.l m=true:=fun e=>by
  unfold lh at e;rw[decide_eq_true_eq,n8] at e;rw[Ou e.1,show f.l.cutC m=m.value f.l.base from J,e.2] at hv;rw[hv] at hm;grind
 unfold eh;rw[if_neg ho];have hh: ∃w,iD f.l m side=[w]/\w.ins t:=by
  unfold iD;by_cases hc:crossI f.l m=0
  ·rw[if_pos hc]
   rw[Ou hc,show f.l.cutC m=m.value f.l.base from J] at hv;rw[if_pos (aym hs (by rw[hv] at hm;grind))];exact⟨_,J,Tc t⟩
  ·rw[if_neg hc]
   have hp:=zX hl hc;have hK:f.l.cutK m≠0:=fun e=>by
    have e2:f.l.cutK m= -(crossI f.l m:Rat):=by unfold aa.cutK aa.nor aa.dir ab.dot crossI;push_cast;grind
    rw[e2] at e;have:(crossI f.l m:Rat)=0:=by grind
    exact hc (cN.1 this)
   generalize hx:gw f.l (dH f.l m)=x at*;have hv2: ∀u,m.value (f.l.at u)=f.l.cutK m*(u-x):=fun u=>by rw[j9,hp];grind
   rw[hv2] at hm;have e1:m.value (f.l.at (x+1))=f.l.cutK m:=by rw[hv2];grind
   rw[e1];generalize f.l.cutK m=K at*;by_cases q:K.num.sign=side
   ·rw[if_pos q]
    refine⟨_,J, .inr ?_, .inl J⟩;show x<t;rcases hs with rfl|rfl
    ·have:=(xK K).1 q
     have:=(xk this).1 (show 0<K*(t-x) by grind);grind
    ·have:=(yS K).1 (by omega)
     have:=(FH this).1 (show K*(t-x)<0 by grind);grind
   ·rw[if_neg q]
    refine⟨_,J, .inl J, .inr ?_⟩;show t<x;have h3:=kv K;rcases hs with rfl|rfl
    ·have kn:K<0:=by
      rcases h3 with h|h|h
      ·exact absurd h hK
      ·exact absurd ((xK K).2 h) q
      ·exact h
     have:=(FH kn (b:=x-t)).1 (by grind);grind
    ·have kp:0<K:=by
      rcases h3 with h|h|h
      ·exact absurd h hK
      ·exact h
      ·exact absurd (by have:=(yS K).2 h;have:=tX K.num;omega) q
     have:=(xk kp (b:=x-t)).1 (by grind);grind
 obtain⟨w,e,hw⟩:=hh;rw[e];obtain⟨z,hz,hzt⟩:=Z3 ht hw;exact⟨⟨f.l,z⟩,eX hz,J,hzt⟩
def Dc(E:List bj)(c:List aa)(l:List bj):Prop:= ∀e∈E,∀t,e.v.ins t->cF c (e.l.at t)-> ∃f∈l,f.l=e.l/\f.v.ins t
def Dc.split{E l:List bj}{c:List aa}(h:Dc E c l)(hE: ∀e∈E,e.l.Ne){m:aa}{side:Int}(hs:side=1\/side= -1){m':aa}(hm': ∀p,m'.value p=(side:Rat)*m.value p):Dc E (c++[m']) (l.flatMap fun g=>eh g m side):=fun e he t ht hin=>by
 obtain⟨h1,h2⟩:=jC.1 hin;obtain⟨f,hf,ef,hft⟩:=h e he t ht h1;rw[hm'] at h2;obtain⟨g,hg,eg,hgt⟩:=XL (f:=f) hs (by rw[ef];exact hE e he) hft (by rw[ef];exact h2);exact⟨g,gX.2 ⟨f,hf,hg⟩,by rw[eg,ef],hgt⟩
def Ir{acc:ab->Bool}{E:List bj}(hE: ∀e∈E,e.l.Ne)(ha: ∀(c:List aa) (q p:ab),(∀e∈E,∀t,e.v.ins t-> ¬cF c (e.l.at t))->cF c q->cF c p->acc q=acc p): ∀{n:Nat} {l:List bj} {c:List aa} {p:ab},(∀f∈l,nI f)->sv n l->(∀m∈c,m.ok)->Dc E c l->cF c p->eB (i7 acc n l c).lns p->(i7 acc n l c).val p=acc p
 |n,[],c,p,_,_,hc,hcov,hp,_=>by
  have e:i7 acc n [] c= .leaf (acc (iG c c)):=by cases n<;>rfl
  rw[e,Tr.val];exact ha c _ _ (fun e he t ht hin=>by obtain⟨f,hf,_⟩:=hcov e he t ht hin;cases hf) (UN hc ((xg hc).2 ⟨p,hp⟩)) hp
 |0,f::t,_,_,_,hf,_,_,_,_=>by
  obtain⟨K,hK,hs⟩:=hf;obtain⟨m,hm,_⟩:=hs f aQ;have:K=[]:=bS (by omega);rw[this] at hm;cases hm
 |n+1,f::t,c,p,hok,hf,hc,hcov,hp,hoff=>by
  have fo:=hok f aQ;have hok': ∀side,∀g∈(f::t).flatMap fun g=>eh g f.l side,nI g:=fun side g hg=>by
   obtain⟨q,hq,hg⟩:=gX.1 hg;exact(BW (hok q hq) fo.lb g hg).1
  rw[i7] at hoff⊢;by_cases q:0<f.l.value p
  ·rw[Tr.val_pos q]
   exact Ir hE ha (hok' 1) (hf.split hok) (iu hc fo.ok) (hcov.split hE (.inl J) fun p=>by grind) (jC.2 ⟨hp,q⟩) hoff.x
  ·rw[Tr.val_neg q]
   have:=hoff.l;exact Ir hE ha (hok' (-1)) (hf.split hok) (iu hc fo.ok.rev) (hcov.split hE (.inr J) fun p=>by rw[dx];grind) (jC.2 ⟨hp,by rw[dx];grind⟩) hoff.y
def auo{rs:List (List ZP)}{fill:Int}(hr: ∀r∈rs,dO r){p:ab}(ho:eB (wx rs fill).lns p):(pz rs fill).val p=mi rs fill p:=by
 obtain⟨h1,h2⟩:=tr hr;have hok:(wx rs fill).all aa.ok:=wD fun f hf=>(h2 f hf).ok;unfold pz;rw[Tr.val_restrict _ _ _ hok bH.nil (fun s hs=>by cases hs) ho];unfold wx at ho⊢;refine Ir (E:=iw rs) (fun e he=>(h2 e he).ok.ne) (fun c q p hno hq hp=>S4 hr hno hq hp) h2 ?_ (fun m hm=>by cases hm) (fun e he t ht _=>⟨e,he,J,ht⟩) (fun m hm=>by cases hm) ho;exact⟨(iw rs).map (·.l),by rw[aK];exact aN _,fun f hf=>⟨f.l,eX hf, .inl J⟩⟩
def EB: ∀(c:ao) (A B:bj->Rat),(∀u∈c,0<=A u/\(0<=B u\/0<A u))-> ∃e:Rat,0<e/\ ∀u∈c,0<=A u+e*B u
 |[],_,_,_=>⟨1,by decide,fun u hu=>by cases hu⟩
 |s::t,A,B,h=>by
  obtain⟨e,e0,he⟩:=EB t A B fun u hu=>h u (aJ _ hu);obtain⟨h1,h2⟩:=h s aQ;have hold: ∀q,0<=q->q<=e-> ∀u∈t,0<=A u+q*B u:=fun q q0 q1 u hu=>I9 (h u (aJ _ hu)).1 (he u hu) q0 q1;by_cases hb:0<=B s
  ·refine⟨e,e0,fun u hu=>?_⟩
   rcases aY.1 hu with rfl|hu
   ·have:=di (cM e0) hb;grind
   ·exact he u hu
  ·have ha:=h2.resolve_left hb
   have hq:0<A s/ -(B s):=(jv (k:= -(B s)) (by grind)).1 (by rw[show A s/ -(B s)* -(B s)=A s by grind];exact ha);have hm:A s/ -(B s)* -(B s)=A s:=by grind
   generalize A s/ -(B s)=q at*;by_cases k:q<=e
   ·refine⟨q,hq,fun u hu=>?_⟩
    rcases aY.1 hu with rfl|hu
    ·grind
    ·exact hold q (cM hq) k u hu
   ·refine⟨e,e0,fun u hu=>?_⟩
    rcases aY.1 hu with rfl|hu
    ·have:=di (show 0<=q-e by grind) (show 0<= -(B u) by grind)
     grind
    ·exact he u hu
def NJ(l m:aa)(t e:Rat):m.value (l.at (t+e))=m.value (l.at t)+e*m.nor.dot l.dir:=by
 rw[wG,jl]
def J'{s:bj}(h:s.v.Pos)(nh:s.v.nh=false):s.v.has s.v.hi:=by
 unfold ah.Pos at h;refine⟨?_, .inr fU⟩;rcases h with h|h|h
 ·exact .inl h
 ·rw[nh] at h;cases h
 ·exact .inr (cM h)
def RX{s:bj}(h:s.v.Pos)(nl:s.v.nl=false):s.v.has s.v.lo:=by
 unfold ah.Pos at h;refine⟨.inr fU,?_⟩;rcases h with h|h|h
 ·rw[nl] at h;cases h
 ·exact .inl h
 ·exact .inr (cM h)
def Pg{c:ao}(hc:bH c){s:bj}(hs:s∈c)(nh:s.v.nh=false): ∃u∈c,u.l.value (s.l.at s.v.hi)=0/\u.l.nor.dot s.l.dir<0:=by
 obtain⟨p1,p2⟩:=hc.edge s hs;have hin:=(p2 _).1 (J' p1 nh);by_cases q: ∃u∈c,u.l.value (s.l.at s.v.hi)=0/\u.l.nor.dot s.l.dir<0
 ·exact q
 ·exfalso
  obtain⟨e,e0,he⟩:=EB c (fun u=>u.l.value (s.l.at s.v.hi)) (fun u=>u.l.nor.dot s.l.dir) fun u hu=>by
   have h1:=hin u hu;refine⟨h1,?_⟩;by_cases k:0<=u.l.nor.dot s.l.dir
   ·exact .inl k
   ·right
    by_cases z:u.l.value (s.l.at s.v.hi)=0
    ·exact absurd ⟨u,hu,z,by grind⟩ q
    ·grind
  have hh:=(p2 (s.v.hi+e)).2 fun u hu=>by rw[NJ];exact he u hu
  have:=hh.2;rw[nh] at this;rcases this with z|z
  ·cases z
  ·grind
def ZB{c:ao}(hc:bH c){s:bj}(hs:s∈c)(nl:s.v.nl=false): ∃u∈c,u.l.value (s.l.at s.v.lo)=0/\0<u.l.nor.dot s.l.dir:=by
 obtain⟨p1,p2⟩:=hc.edge s hs;have hin:=(p2 _).1 (RX p1 nl);by_cases q: ∃u∈c,u.l.value (s.l.at s.v.lo)=0/\0<u.l.nor.dot s.l.dir
 ·exact q
 ·exfalso
  obtain⟨e,e0,he⟩:=EB c (fun u=>u.l.value (s.l.at s.v.lo)) (fun u=> -(u.l.nor.dot s.l.dir)) fun u hu=>by
   have h1:=hin u hu;refine⟨h1,?_⟩;by_cases k:0<= -(u.l.nor.dot s.l.dir)
   ·exact .inl k
   ·right
    by_cases z:u.l.value (s.l.at s.v.lo)=0
    ·exact absurd ⟨u,hu,z,by grind⟩ q
    ·grind
  have hh:=(p2 (s.v.lo+ -e)).2 fun u hu=>by rw[NJ];have:=he u hu;grind
  have:=hh.1;rw[nl] at this;rcases this with z|z
  ·cases z
  ·grind
def aCi{ds:List ab}(h:ds.Pairwise d9){i:Nat}{s w:ab}(hs:ds[i]? =some s)(hw:ds[(i+1)%ds.length]? =some w):xN ds s w:=by
 obtain⟨hi,rfl⟩:=aS.1 hs;obtain⟨hj,rfl⟩:=aS.1 hw;have hp:=nV.1 h;by_cases e:i+1<ds.length
 ·have em:(i+1)%ds.length=i+1:=fW e
  left;simp only[em];refine⟨hp i (i+1) hi e (by omega),fun d hd=>?_⟩;obtain⟨j,hj,rfl⟩:=mX.1 hd;rintro ⟨a,b⟩;rcases rY j i with k|k|k
  ·exact Ah a (hp j i hj hi k)
  ·subst k;exact wZ _ a
  ·by_cases z:j=i+1
   ·subst z;exact wZ _ b
   ·exact Ah b (hp (i+1) j e hj (by omega))
 ·have ei:i+1=ds.length:=by omega
  have em:(i+1)%ds.length=0:=by rw[ei,Nat.mod_self]
  right;simp only[em];refine⟨fun d hd a=>?_,fun d hd b=>?_⟩
  ·obtain⟨j,hj,rfl⟩:=mX.1 hd
   by_cases k:j=i
   ·subst k;exact wZ _ a
   ·exact Ah a (hp j i hj hi (by omega))
  ·obtain⟨j,hj,rfl⟩:=mX.1 hd
   by_cases k:j=0
   ·subst k;exact wZ _ b
   ·exact Ah b (hp 0 j (by omega) hj (by omega))
def avl{s u w:ab}(hs:s.half≠0)(hw:w.half≠0)(hu:u.half≠0)(h1:0<s.cross u)(h2:0<u.cross w)(h3:0<s.cross w)(e:s.half=w.half):u.half=s.half:=by
 rcases qC hs with k|k
 ·rw[k] at e⊢
  have a:=se.1 k;have b:=se.1 e.symm;rw[se];unfold ab.cross at*
  -- u is between s and w
  have i1:(s.x*w.y-s.y*w.x)*u.y=(u.x*w.y-u.y*w.x)*s.y+(s.x*u.y-s.y*u.x)*w.y:=by grind
  have i2:(s.x*w.y-s.y*w.x)*u.x=(u.x*w.y-u.y*w.x)*s.x+(s.x*u.y-s.y*u.x)*w.x:=by grind
  have y0:0<=s.y:=by grind
  have y1:0<=w.y:=by grind
  have m1:=di (cM h2) y0;have m2:=di (cM h1) y1;have uy:0<=u.y:=(lz h3).1 (by grind);by_cases z:0<u.y
  ·exact .inl z
  ·right
   have z0:u.y=0:=by grind
   have i3:(u.x*w.y-u.y*w.x)*s.y+(s.x*u.y-s.y*u.x)*w.y=0:=by rw[<-i1,z0];grind
   have A0:(u.x*w.y-u.y*w.x)*s.y=0:=by generalize (u.x*w.y-u.y*w.x)*s.y=A at*;generalize (s.x*u.y-s.y*u.x)*w.y=B at*;grind
   have B0:(s.x*u.y-s.y*u.x)*w.y=0:=by grind
   have n1:s.y=0:=by
    rcases gK.1 A0 with q|q
    ·grind
    ·exact q
   have n2:w.y=0:=by
    rcases gK.1 B0 with q|q
    ·grind
    ·exact q
   rw[n1,n2] at h3;grind
 ·rw[k] at e⊢
  have a:=uM.1 k;have b:=uM.1 e.symm;rw[uM];unfold ab.cross at*;have i1:(s.x*w.y-s.y*w.x)*u.y=(u.x*w.y-u.y*w.x)*s.y+(s.x*u.y-s.y*u.x)*w.y:=by grind
  have y0:0<= -s.y:=by grind
  have y1:0<= -w.y:=by grind
  have m1:=di (cM h2) y0;have m2:=di (cM h1) y1;have uy:0<= -u.y:=(lz h3).1 (by grind);by_cases z:u.y<0
  ·exact .inl z
  ·right
   have z0:u.y=0:=by grind
   have i3:(u.x*w.y-u.y*w.x)*s.y+(s.x*u.y-s.y*u.x)*w.y=0:=by rw[<-i1,z0];grind
   have m3:(u.x*w.y-u.y*w.x)* -s.y= -((u.x*w.y-u.y*w.x)*s.y):=by grind
   have m4:(s.x*u.y-s.y*u.x)* -w.y= -((s.x*u.y-s.y*u.x)*w.y):=by grind
   rw[m3] at m1;rw[m4] at m2;have A0:(u.x*w.y-u.y*w.x)*s.y=0:=by generalize (u.x*w.y-u.y*w.x)*s.y=A at*;generalize (s.x*u.y-s.y*u.x)*w.y=B at*;grind
   have B0:(s.x*u.y-s.y*u.x)*w.y=0:=by grind
   have n1:s.y=0:=by
    rcases gK.1 A0 with q|q
    ·grind
    ·exact q
   have n2:w.y=0:=by
    rcases gK.1 B0 with q|q
    ·grind
    ·exact q
   rw[n1,n2] at h3;grind
def N4{ds:List ab}(nz: ∀d∈ds,d.half≠0){s u w:ab}(hs:s∈ds)(hu:u∈ds)(hw:w∈ds)(hn:xN ds s w)(h1:0<s.cross u)(h2:0<u.cross w)(h3:0<s.cross w):False:=by
 have zs:=qC (nz s hs);have zu:=qC (nz u hu);have zw:=qC (nz w hw);rcases hn with⟨b,no⟩|⟨n1,n2⟩
 ·by_cases e:s.half=w.half
  ·have e2:=avl (nz s hs) (nz w hw) (nz u hu) h1 h2 h3 e
   exact no u hu ⟨.inr ⟨e2.symm,h1⟩, .inr ⟨by omega,h2⟩⟩
  ·have e1:s.half=1/\w.half=2:=by
    rcases b with b|⟨b,_⟩
    ·omega
    ·exact absurd b e
   rcases zu with k|k
   ·exact no u hu ⟨.inr ⟨by omega,h1⟩, .inl (by omega)⟩
   ·exact no u hu ⟨.inl (by omega), .inr ⟨by omega,h2⟩⟩
 ·have a:=n1 u hu
  have b:=n2 u hu;have a1: ¬s.half<u.half:=fun k=>a (.inl k);have a2:s.half≠u.half:=fun k=>a (.inr ⟨k,h1⟩);have b1: ¬u.half<w.half:=fun k=>b (.inl k);have b2:u.half≠w.half:=fun k=>b (.inr ⟨k,h2⟩);omega
def P6{u w n:ab}(hu:u.half≠0)(hw:w.half≠0)(hn:n.half≠0)(e1:w.half=u.half)(e2:u.half=n.half)(h1:0<u.cross n)(h2: ¬0<u.cross w):0<w.cross n:=by
 by_cases k:0<w.cross u
 ·have b1:d9 w u:= .inr ⟨e1,k⟩
  have b2:d9 u n:= .inr ⟨e2,h1⟩;rcases Aj b1 b2 with q|⟨_,q⟩
  ·omega
  ·exact q
 ·have hz:w.cross u=0:=by rw[wq] at k⊢;grind
  by_cases q:0<w.cross n
  ·exact q
  ·exfalso
   have b2:d9 u n:= .inr ⟨e2,h1⟩;by_cases q2:0<n.cross w
   ·have b3:d9 n w:= .inr ⟨by omega,q2⟩
    rcases Aj b2 b3 with z|⟨_,z⟩
    ·omega
    ·exact h2 z
   ·have hz2:w.cross n=0:=by rw[wq] at q2;grind
    rcases qC hw with hh|hh
    ·have a:=se.1 hh
     have b:=se.1 (show u.half=1 by omega);have c:=se.1 (show n.half=1 by omega);unfold ab.cross at*;have j1:w.x*(u.x*n.y-u.y*n.x)=0:=by grind
     have j2:w.y*(u.x*n.y-u.y*n.x)=0:=by grind
     rcases gK.1 j1 with z|z
     ·rcases gK.1 j2 with z2|z2<;>grind
     ·grind
    ·have a:=uM.1 hh
     unfold ab.cross at*;have j1:w.x*(u.x*n.y-u.y*n.x)=0:=by grind
     have j2:w.y*(u.x*n.y-u.y*n.x)=0:=by grind
     rcases gK.1 j1 with z|z
     ·rcases gK.1 j2 with z2|z2<;>grind
     ·grind
def aBA{ds:List ab}(nz: ∀d∈ds,d.half≠0){s u w:ab}(hs:s∈ds)(hu:u∈ds)(hw:w∈ds)(hn:xN ds s w)(h1:0<s.cross u):0<s.cross w:=by
 have zs:=qC (nz s hs);have zu:=qC (nz u hu);have zw:=qC (nz w hw);have hneg:=ax1 (nz s hs);have hnz:(kt s).half≠0:=by omega
 have e1:u.cross (kt s)=s.cross u:=by rw[Rr,wq s u];grind
 have e2:w.cross (kt s)=s.cross w:=by rw[Rr,wq s w];grind
 rcases hn with⟨b,no⟩|⟨n1,n2⟩
 ·by_cases e:s.half=w.half
  ·rcases b with b|⟨_,b⟩
   ·omega
   ·exact b
  ·have e3:s.half=1/\w.half=2:=by
    rcases b with b|⟨b,_⟩
    ·omega
    ·exact absurd b e
   have nu:=no u hu;rcases zu with k|k
   ·exact absurd ⟨.inr ⟨by omega,h1⟩, .inl (by omega)⟩ nu
   ·rw[<-e2]
    exact P6 (nz u hu) (nz w hw) hnz (by omega) (by omega) (by rw[e1];exact h1) fun q=>nu ⟨.inl (by omega), .inr ⟨by omega,q⟩⟩
 ·have a:=n1 u hu
  have b:=n2 u hu;have a1: ¬s.half<u.half:=fun k=>a (.inl k);have a2:s.half≠u.half:=fun k=>a (.inr ⟨k,h1⟩);have b1: ¬u.half<w.half:=fun k=>b (.inl k);rw[<-e2];exact P6 (nz u hu) (nz w hw) hnz (by omega) (by omega) (by rw[e1];exact h1) fun q=>b (.inr ⟨by omega,q⟩)
def QJ(s u w:aa)(h p:ab):s.dir.cross u.dir*w.value p=s.dir.cross u.dir*w.value h+w.dir.cross u.dir*(s.value p-s.value h)+s.dir.cross w.dir*(u.value p-u.value h):=by
 rw[jf,jf,jf,jf,jf,jf];unfold ab.cross aa.dir;grind
def Pk{c:ao}(hc:bH c): ∀d∈c.map (fun s=>s.l.dir),d.half≠0:=fun d hd=>by
 obtain⟨s,hs,rfl⟩:=bV.1 hd;exact Ju (hc.ok s hs)
def Si{c:ao}(hc:bH c){s w:bj}(hs:s∈c)(hw:w∈c)(hn:xN (c.map fun s=>s.l.dir) s.l.dir w.l.dir)(nh:s.v.nh=false):0<s.l.dir.cross w.l.dir/\w.l.value (s.l.at s.v.hi)=0:=by
 obtain⟨u,hu,z1,z2⟩:=Pg hc hs nh;have su:0<s.l.dir.cross u.l.dir:=by rw[wq,Rh];grind
 have nz:=Pk hc;have ms:=eX (f:=fun s:bj=>s.l.dir) hs;have mu:=eX (f:=fun s:bj=>s.l.dir) hu;have mw:=eX (f:=fun s:bj=>s.l.dir) hw;have sw:=aBA nz ms mu mw hn su;refine⟨sw,?_⟩;obtain⟨p1,p2⟩:=hc.edge s hs;have hin:=(p2 _).1 (J' p1 nh);have hs0:=me (hc.ok s hs).ne s.v.hi;have h0:=hin w hw;by_cases q:w.l.value (s.l.at s.v.hi)=0
 ·exact q
 ·exfalso
  have wu:0<=w.l.dir.cross u.l.dir:=by
   by_cases k:0<u.l.dir.cross w.l.dir
   ·exact(N4 nz ms mu mw hn su k sw).elim
   ·rw[wq];grind
  obtain⟨t1,t2⟩:=Ab hc hw;have e:=QJ s.l u.l w.l (s.l.at s.v.hi) (w.l.at w.v.sample);rw[t2,z1,hs0] at e;have g1:=ge su (show 0<w.l.value (s.l.at s.v.hi) by grind);have g2:=di wu (t1 s hs);have g3:=di (cM sw) (t1 u hu);grind
def TZ{c:ao}(hc:bH c){s w:bj}(hs:s∈c)(hw:w∈c)(hn:xN (c.map fun s=>s.l.dir) s.l.dir w.l.dir)(sw:0<s.l.dir.cross w.l.dir)(nl:w.v.nl=false):s.l.value (w.l.at w.v.lo)=0:=by
 obtain⟨u,hu,z1,z2⟩:=ZB hc hw nl;have uw:0<u.l.dir.cross w.l.dir:=by rw[Rh];exact z2
 have nz:=Pk hc;have ms:=eX (f:=fun s:bj=>s.l.dir) hs;have mu:=eX (f:=fun s:bj=>s.l.dir) hu;have mw:=eX (f:=fun s:bj=>s.l.dir) hw;obtain⟨p1,p2⟩:=hc.edge w hw;have hin:=(p2 _).1 (RX p1 nl);have hw0:=me (hc.ok w hw).ne w.v.lo;have h0:=hin s hs;by_cases q:s.l.value (w.l.at w.v.lo)=0
 ·exact q
 ·exfalso
  have us:0<=u.l.dir.cross s.l.dir:=by
   by_cases k:0<s.l.dir.cross u.l.dir
   ·exact(N4 nz ms mu mw hn k uw sw).elim
   ·rw[wq];grind
  obtain⟨t1,t2⟩:=Ab hc hs;have e:=QJ u.l w.l s.l (w.l.at w.v.lo) (s.l.at s.v.sample);rw[t2,z1,hw0] at e;have g1:=ge uw (show 0<s.l.value (w.l.at w.v.lo) by grind);have g2:=di (cM sw) (t1 u hu);have g3:=di us (t1 w hw);grind
def lm(x:Bool×ao):DV:= .ag [.sl (x.2.map dt),eU (.leaf x.1)]
def aEs(l:List (Bool×ao)):cI 2 (l.map lm):=fun d hd=>by
 obtain⟨x,_,rfl⟩:=bV.1 hd;exact⟨J,J⟩
def zy: ∀(t:Tr) (c:ao),(t.parts c).length<=t.size+1
 | .leaf _,_=>aN _
 | .node l x y,c=>by
  have h1:=zy x (bg c l);have h2:=zy y (bg c l.rev);rw[Tr.parts,aV,Tr.size];split<;>split<;>(try simp only[fX])<;>omega
def xi{q:Rat}{i:Nat}[h:BQ q i](hi:i<=900000000:=by decide):PF GB prog 40 [eF q] (eR q):=by
 refine fn func40 J J ntmps40 J J (fun C=>?_);refine cl J (rh (q:=q) (i:=i) hi) J<|cl J (qH (q:=q) (i:=i) hi) J<|?_;exact rz J J
def aBP{p:ab}{i:Nat}[h:aO p i](hi:i<=900000000:=by decide):PF GB prog 69 [eZ p] (pc p):=by
 refine fn func69 J J ntmps69 J J (fun C=>?_);refine cl J (xi (q:=p.x) (i:=i) hi) J<|cl J (xi (q:=p.y) (i:=i) hi) J<|?_;exact rz J J
def Ya{b:Bool}{c:ao}{o:List (Bool×ao)}(hs:o.length<=1000000):PB GB prog 166 (fB [some (eU (.leaf b)),some (.sl (c.map dt)),none]) 2 106 (o.map lm) (fun w=> .v (.slice w.a w.n w.c)) ((o++Tr.parts (.leaf b) c).map lm):=by
 refine Qt func166 J J ntmps166 J J (fun C=>?_);refine cl (fu:=⟨0⟩) J qI J<|?_;refine pi 12 J ?_;refine gx J<|rf J J<|JP ((o++[(b,c)]).map lm) J (by rw[bR]<;>rfl) (aEs [(b,c)]) J<|?_;exact zo J J J J
def Wu{l:aa}{x y:Tr}{c:ao}{o:List (Bool×ao)}(hl:LB l)(hlo:l.ok)(hc:f5 c)(hn:c.length+(Tr.node l x y).depth<=100000)(hs:o.length+((Tr.node l x y).size+1)<=1000000)(ihx: ∀{c:ao} {o:List (Bool×ao)},f5 c->c.length+x.depth<=100000->o.length+(x.size+1)<=1000000->PB GB prog 166 (fB [some (eU x),some (.sl (c.map dt)),none]) 2 106 (o.map lm) (fun w=> .v (.slice w.a w.n w.c)) ((o++Tr.parts x c).map lm))(ihy: ∀{c:ao} {o:List (Bool×ao)},f5 c->c.length+y.depth<=100000->o.length+(y.size+1)<=1000000->PB GB prog 166 (fB [some (eU y),some (.sl (c.map dt)),none]) 2 106 (o.map lm) (fun w=> .v (.slice w.a w.n w.c)) ((o++Tr.parts y c).map lm)):PB GB prog 166 (fB [some (eU (.node l x y)),some (.sl (c.map dt)),none]) 2 106 (o.map lm) (fun w=> .v (.slice w.a w.n w.c)) ((o++Tr.parts (.node l x y) c).map lm):=by
 have hk1:=vt c l;have hk2:=vt c l.rev;have hd:(Tr.node l x y).depth=1+max x.depth y.depth:=J;have hz:(Tr.node l x y).size=1+x.size+y.size:=J;have hp:=zy x (bg c l);refine Qt func166 J J ntmps166 J J (fun C=>?_);refine cl (fu:=⟨0⟩) J rC J<|?_;refine rB 12 J ?_;refine gx J<|cl J (Eq hlo hc (by omega)) J<|?_;refine bb J J J (fun hc30=>?_) (fun hc30=>?_)
 .
  have hs2:(o++x.parts (bg c l)).length+(y.size+1)<=1000000:=by rw[aV];omega
  refine cq ((o++x.parts (bg c l)).map lm) J (ihx (t8 hlo hc) (by omega) (by omega)) J J<|?_;refine bb J J J (fun hc38=>?_) (fun hc38=>?_)
  .
   refine cq _ J (ihy (t8 hlo.rev hc) (by omega) (by first|exact hs2|omega)) J J<|?_;exact zo J J J (by simp[Tr.parts,hc30,hc38])
  .
   exact zo J J J (by simp[Tr.parts,hc30,hc38])
 .
  refine bb J J J (fun hc38=>?_) (fun hc38=>?_)
  .
   refine cq _ J (ihy (t8 hlo.rev hc) (by omega) (by first|exact hs2|omega)) J J<|?_;exact zo J J J (by simp[Tr.parts,hc30,hc38])
  .
   exact zo J J J (by simp[Tr.parts,hc30,hc38])
def Er: ∀{t:Tr} {c:ao} {o:List (Bool×ao)},t.all LB->t.all aa.ok->f5 c->c.length+t.depth<=100000->o.length+(t.size+1)<=1000000->PB GB prog 166 (fB [some (eU t),some (.sl (c.map dt)),none]) 2 106 (o.map lm) (fun w=> .v (.slice w.a w.n w.c)) ((o++Tr.parts t c).map lm)
 | .leaf _,_,_,_,_,_,_,hs=>Ya (by simp only[Tr.size] at hs;omega)
 | .node _ _ _,_,_,hb,ho,hc,hn,hs=>Wu hb.1 ho.1 hc hn hs (fun k1 k2 k3=>Er hb.2.1 ho.2.1 k1 k2 k3) (fun k1 k2 k3=>Er hb.2.2 ho.2.2 k1 k2 k3)
def Xo{t:Tr}(hb:t.all LB)(ho:t.all aa.ok)(hd:t.depth<=100000)(hs:t.size<=900000):PB GB prog 166 (fB [some (eU t),some (.sl []),none]) 2 106 [] (fun w=> .v (.slice w.a w.n w.c)) ((t.parts []).map lm):=
 Er (c:=[]) (o:=[]) hb ho f5.nil (by rw[fX];omega) (by rw[fX];omega)
def eC(c:ao):DV:= .sl (c.map dt)
def ZG(l:List ao):cI 1 (l.map eC):=fun d hd=>by
 obtain⟨x,_,rfl⟩:=bV.1 hd;exact⟨J,J⟩
def Af(ps:List (Bool×ao)):List ao:=(ps.filter (·.1)).map (·.2)
def OV{ps:List (Bool×ao)}{k:Nat}{b:Bool}{e:ao}(h:ps[k]? =some (b,e)):Af (ps.drop k)=(if b then [e] else [])++Af (ps.drop (k+1)):=by
 obtain⟨h1,h2⟩:=aS.1 h;rw[bX h1,h2];unfold Af
 cases b<;>simp
def aDC{t:Tr}(hb:t.all LB)(ho:t.all aa.ok)(hd:t.depth<=100000)(hs:t.size<=900000):PF GB prog 103 [eU t] (.sl ((t.parts []).map lm)):=by
 refine fn func103 J J ntmps103 J J (fun C=>?_);refine Xv _ J (Xo hb ho hd hs) J J<|?_;refine i9 4 J ?_;exact rz J J
def aB8{t:Tr}(hb:t.all LB)(ho:t.all aa.ok)(hd:t.depth<=100000)(hs:t.size<=900000):PF GB prog 133 [eU t] (.sl ((bP t).map eC)):=by
 obtain⟨ps,hps⟩: ∃ps,ps=t.parts []:=⟨_,rfl⟩;have hpl:=zy t [];rw[<-hps] at hpl;have hml:(ps.map lm).length=ps.length:=aK ..;refine fn func133 J J ntmps133 J J (fun C=>?_);refine cl (fu:=⟨0⟩) J (aDC hb ho hd hs) J<|?_;refine aj 7 (.d (.sl (ps.map lm))) J (by rw[hps]) ?_;refine gx (fu:=⟨1⟩) J<|?_;refine aj 8 (.d (vI (ps.length:Nat))) J (by rw[hml]<;>rfl) ?_;refine gx J<|?_;refine nr 3 3 103 1 J J J ?_;refine lp (X:=List ao×Nat) (fun⟨acc,k⟩=>[(9, .d (vI (k:Nat))),(3, .rw 3)]) (fun⟨acc,k⟩=>[(3,some (.b 103 1 (acc.map eC) true))]) (fun⟨acc,k⟩=>acc++Af (ps.drop k)=bP t/\k<=ps.length) (fun⟨acc,k⟩=>ps.length-k) ⟨[],0⟩ J ⟨by rw[hps];rfl,bJ _⟩ (fun _=>J) (fun⟨acc,k⟩ hk=>?_)
 try dsimp only at hk⊢
 obtain⟨h1,h2⟩:=hk;have hal:acc.length<=ps.length:=by
  have q1:=congrArg List.length h1;have q2:(bP t).length<=ps.length:=by unfold bP;rw[aK,hps];exact lY ..
  rw[aV] at q1;omega
 have ham:(acc.map eC).length=acc.length:=aK ..;refine br J J J (fun hc10=>?_) (fun hc10=>?_)
 .
  obtain⟨⟨b,e⟩,hx⟩: ∃x,ps[k]? =some x:=⟨_,aZ (by omega)⟩;refine ix _ J (fe hx) J<|?_;refine bb J J J (fun hc17=>?_) (fun hc17=>?_)
  .
   refine rf J J<|ap ((acc++[e]).map eC) J (by rw[bR]<;>rfl) (ZG [e]) J<|?_;refine iv 22 3 J ?_;exact at_ ⟨acc++[e],k+1⟩ (by dsimp only;exact⟨⟨by rw[<-h1,OV hx,if_pos hc17];simp,by omega⟩,(by omega)⟩)
  .
   exact at_ ⟨acc,k+1⟩ (by dsimp only;exact⟨⟨by rw[<-h1,OV hx,if_neg (by simp at hc17;rw[hc17];decide)];rfl,by omega⟩,(by omega)⟩)
 .
  obtain rfl:k=ps.length:=by omega
  obtain rfl:acc=bP t:=by rw[gQ] at h1;simpa[Af] using h1
  refine i9 3 J ?_;exact rz J J
def UX(l m:aa):l.dir.cross m.dir=(crossI l m:Rat):=by
 unfold ab.cross aa.dir crossI;rw[kS,cW,cW];grind
def Ja{l m:aa}(h:0<Int.sign (l.dir.cross m.dir).num):crossI l m≠0:=fun e=>by
 rw[nO,UX,e] at h;exact absurd h (by decide)
def OF{l m:aa}(h:crossI l m≠0):l.nor.cross m.nor≠0:=fun e=>by
 have:l.nor.cross m.nor=(crossI l m:Rat):=by
  unfold ab.cross aa.nor crossI;rw[kS,cW,cW];grind
 rw[this] at e;exact h (cN.1 e)
def RY{l m:aa}(h:crossI l m≠0):dH l m=⟨((l.b:Rat)*(m.c:Rat)-(l.c:Rat)*(m.b:Rat))/l.nor.cross m.nor,((l.c:Rat)*(m.a:Rat)-(l.a:Rat)*(m.c:Rat))/l.nor.cross m.nor⟩:=by
 have e1:(meetX l m:Rat)=(l.b:Rat)*(m.c:Rat)-(l.c:Rat)*(m.b:Rat):=by unfold meetX;rw[kS,cW,cW];grind
 have e2:(meetY l m:Rat)=(l.c:Rat)*(m.a:Rat)-(l.a:Rat)*(m.c:Rat):=by unfold meetY;rw[kS,cW,cW];grind
 have e3:(crossI l m:Rat)=l.nor.cross m.nor:=by unfold ab.cross aa.nor crossI;rw[kS,cW,cW];grind
 unfold dH;rw[if_neg h,e1,e2,e3]
def DO: ∀{t:Tr} {c:ao} {x:Bool×ao},t.all LB->t.all aa.ok->f5 c->x∈t.parts c->f5 x.2/\x.2.length<=c.length+t.depth
 | .leaf b,c,x,_,_,hc,h=>by
  rw[Tr.parts,aW] at h;subst h;exact⟨hc,mT _ _⟩
 | .node l u v,c,x,hb,ho,hc,h=>by
  have hl:=hb.1;have hd:(Tr.node l u v).depth=1+max u.depth v.depth:=J;rw[Tr.parts] at h;rcases bW.1 h with h|h
  ·split at h
   ·obtain⟨k1,k2⟩:=DO hb.2.1 ho.2.1 (t8 ho.1 hc) h
    have:=vt c l;exact⟨k1,by omega⟩
   ·cases h
  ·split at h
   ·obtain⟨k1,k2⟩:=DO hb.2.2 ho.2.2 (t8 ho.1.rev hc) h
    have:=vt c l.rev;exact⟨k1,by omega⟩
   ·cases h
def FJ(t:Tr):(bP t).length<=t.size+1:=by
 unfold bP;rw[aK];exact cY (lY ..) (zy t [])
def Ic{t:Tr}(hb:t.all LB)(ho:t.all aa.ok): ∀c∈bP t,c.length<=t.depth:=fun c hc=>by
 have:=(DO hb ho f5.nil (xJ.1 hc)).2;simpa using this
theorem Jw{t:Tr}(hb:t.all LB)(ho:t.all aa.ok): ∀c∈bP t,∀s∈c,LB s.l:=fun c hc s hs=>((DO hb ho f5.nil (xJ.1 hc)).1 s hs).lb
def Xm(l:List ab):cI 6 (l.map eZ):=fun d hd=>by
 obtain⟨x,_,rfl⟩:=bV.1 hd;exact⟨J,J⟩
def eRz(v:List ab):DV:= .sl (v.map eZ)
def eRa(v:List ab):DV:= .sl (v.map pc)
def AV{α:Type}{vs:List α}{f:α->Bool}{k:Nat}{v:α}(h:vs[k]? =some v):(vs.drop k).all f=(f v&&(vs.drop (k+1)).all f):=by
 obtain⟨h1,h2⟩:=aS.1 h;rw[bX h1,h2,List.all_cons]
def Wv{l m:aa}[hl:LB l][hm:LB m](hz:crossI l m≠0):PF GB prog 146 [eG l,eG m] (.tp [eZ (dH l m),vB true]):=by
 haveI:=aO.nor l;haveI:=aO.nor m;refine fn func146 J J ntmps146 J J (fun C=>?_);refine cl J (AK (l:=l)) J<|cl J (AK (l:=m)) J<|cl J (BP (p:=l.nor) (q:=m.nor) (i:=97) (j:=97)) J<|cl (fu:=⟨0⟩) J (wU (q:=l.nor.cross m.nor)) J<|?_;refine aj 15 (.d (vB false)) J (by rw[decide_eq_false (OF hz)]) ?_;refine rB 15 J ?_;refine gx J<|cl J (gD (p:=(l.b:Rat)) (q:=(m.c:Rat)) (i:=97) (j:=97)) J<|cl J (gD (p:=(l.c:Rat)) (q:=(m.b:Rat)) (i:=97) (j:=97)) J<|?_;refine cl J (uN (p:=(l.b:Rat)*(m.c:Rat)) (q:=(l.c:Rat)*(m.b:Rat))) J<|cl J (xT (p:=(l.b:Rat)*(m.c:Rat)-(l.c:Rat)*(m.b:Rat)) (q:=l.nor.cross m.nor)) J<|?_;refine cl J (gD (p:=(l.c:Rat)) (q:=(m.a:Rat)) (i:=97) (j:=97)) J<|cl J (gD (p:=(l.a:Rat)) (q:=(m.c:Rat)) (i:=97) (j:=97)) J<|?_;refine cl J (uN (p:=(l.c:Rat)*(m.a:Rat)) (q:=(l.a:Rat)*(m.c:Rat))) J<|cl J (xT (p:=(l.c:Rat)*(m.a:Rat)-(l.a:Rat)*(m.c:Rat)) (q:=l.nor.cross m.nor)) J<|?_;exact rz J (by rw[RY hz];rfl)
def S5{c:ao}(hb: ∀s∈c,LB s.l)(hn:c.length<=100000):PF GB prog 80 [eC c] (.sl ((il (c.map (·.l))).map eZ)):=by
 have hml:(c.map dt).length=c.length:=aK ..;obtain⟨L,hL⟩: ∃L,L=c.map (·.l):=⟨_,rfl⟩;have hLl:L.length=c.length:=by rw[hL,aK]
 refine fn (fu:=⟨15⟩) func80 J J ntmps80 J J (fun C=>?_);refine aj 10 (.d (vI (c.length:Nat))) J (by rw[hml]<;>rfl) ?_;refine gx J<|?_;refine nr 3 3 146 6 J J J ?_;refine lp (X:=List ab×Nat) (fun⟨acc,k⟩=>[(11, .d (vI (k:Nat))),(3, .rw 3)]) (fun⟨acc,k⟩=>[(3,some (.b 146 6 (acc.map eZ) true))]) (fun⟨acc,k⟩=>acc=(List.range k).flatMap (qy L)/\k<=c.length) (fun⟨acc,k⟩=>c.length-k) ⟨[],0⟩ J ⟨J,bJ _⟩ (fun _=>J) (fun⟨acc,k⟩ hk=>?_)
 try dsimp only at hk⊢
 obtain⟨h1,h2⟩:=hk;have hal:=DJ L k;rw[<-h1] at hal;have ham:(acc.map eZ).length=acc.length:=aK ..;refine br J J J (fun hc12=>?_) (fun hc12=>?_)
 .
  obtain⟨s,hx⟩: ∃u,c[k]? =some u:=⟨_,aZ (by omega)⟩;obtain⟨u,hw⟩: ∃w,c[(k+1)%c.length]? =some w:=⟨_,aZ (dQ _ (by omega))⟩;haveI:=hb s (aL hx);haveI:=hb u (aL hw);have hxl:L[k]? =some s.l:=by rw[hL,cV,hx];rfl
  have hwl:L[(k+1)%L.length]? =some u.l:=by rw[hLl,hL,cV,hw];rfl
  refine ix (fu:=⟨13⟩) _ J (fe hx) J<|?_;refine aj 20 (.d (vI (c.length:Nat))) J (by rw[hml]<;>rfl) ?_;refine gx (fu:=⟨1⟩) J<|?_;refine aj 21 (.d (vI (((k+1)%c.length:Nat):Int))) J J ?_;refine gx J<|ix _ J (fe hw) J<|cl J (xR (l:=s.l)) J<|cl J (xR (l:=u.l)) J<|cl J (BP (p:=s.l.dir) (q:=u.l.dir) (i:=97) (j:=97)) J<|?_;refine cl J (po (q:=s.l.dir.cross u.l.dir)) J<|?_;refine br J J J (fun hc32=>?_) (fun hc32=>?_)
  .
   refine cl J (Wv (l:=s.l) (m:=u.l) (Ja hc32)) J<|rf J J<|ap ((acc++[dH s.l u.l]).map eZ) J (by rw[bR]<;>rfl) (Xm [dH s.l u.l]) J<|?_;refine iv 44 3 J ?_;exact at_ ⟨acc++[dH s.l u.l],k+1⟩ (by dsimp only;exact⟨⟨by rw[Ha,Ac hxl hwl,if_pos hc32,<-h1],by omega⟩,(by omega)⟩)
  .
   exact at_ ⟨acc,k+1⟩ (by dsimp only;exact⟨⟨by rw[Ha,Ac hxl hwl,if_neg hc32,<-h1,jJ],by omega⟩,(by omega)⟩)
 .
  have hS:il L=acc:=by unfold il;rw[hLl,h1,show k=c.length by omega]
  refine i9 3 J ?_;exact rz J (by rw[<-hL,hS];rfl)
def Vw{c:ao}(hn:c.length<=100000):PF GB prog 44 [eC c] (vB (et c)):=by
 have hml:(c.map dt).length=c.length:=aK ..;refine fn (fu:=⟨10⟩) func44 J J ntmps44 J J (fun C=>?_);refine aj 6 (.d (vI (c.length:Nat))) J (by rw[hml]<;>rfl) ?_;refine gx J<|?_;refine lp (X:=Nat) (fun k=>[(7, .d (vI (k:Nat)))]) (fun k=>[]) (fun k=>(c.drop k).all (fun s:bj=>!s.v.nl&&!s.v.nh)=c.all (fun s:bj=>!s.v.nl&&!s.v.nh)/\k<=c.length) (fun k=>c.length-k) 0 J ⟨J,bJ _⟩ (fun _=>J) (fun k hk=>?_);obtain⟨h1,h2⟩:=hk;refine br (fu2:=⟨9⟩) J J J (fun hc8=>?_) (fun hc8=>?_)
 .
  obtain⟨s,hx⟩: ∃u,c[k]? =some u:=⟨_,aZ (by omega)⟩;refine ix _ J (fe hx) J<|?_;refine jy 14 J J J (fun hg14=>?_) (fun hg14=>?_)
  .
   have hF:et c=false:=by unfold et;rw[<-h1,AV hx,hg14];simp
   exact rz J (by rw[hF];rfl)
  .
   refine bb J J J (fun hc18=>?_) (fun hc18=>?_)
   .
    have hF:et c=false:=by unfold et;rw[<-h1,AV hx,hc18];simp
    exact rz J (by rw[hF];rfl)
   .
    exact at_ (k+1) ⟨⟨by rw[<-h1,AV hx,hg14,hc18];rfl,by omega⟩,(by omega)⟩
 .
  have hT:et c=decide ((0:Int)<(c.length:Nat)):=by unfold et;rw[<-h1,fL (by omega)];cases c with|nil=>rfl|cons a b=>simp
  refine aj 21 (.d (vI (c.length:Nat))) J (by rw[hml]<;>rfl) ?_;refine gx J<|?_;exact rz J (by rw[hT];rfl)
def Gm{l m:aa}(h:crossI l m≠0){p:ab}(h1:l.value p=0)(h2:m.value p=0):p=dH l m:=by
 rw[RY h];have hd:=OF h;rw[jf] at h1 h2;obtain⟨x,y⟩:=p;have e1:x*l.nor.cross m.nor=(l.b:Rat)*(m.c:Rat)-(l.c:Rat)*(m.b:Rat):=by unfold ab.cross aa.nor;grind
 have e2:y*l.nor.cross m.nor=(l.c:Rat)*(m.a:Rat)-(l.a:Rat)*(m.c:Rat):=by unfold ab.cross aa.nor;grind
 generalize l.nor.cross m.nor=d at*;simp only[ab.mk.injEq];constructor<;>grind
def vi{c:ao}(hb:et c=true):c≠[]/\ ∀s∈c,s.v.nl=false/\s.v.nh=false:=by
 unfold et at hb;rw[bM,fQ] at hb;refine⟨fun e=>by rw[e] at hb;simp at hb,fun s hs=>?_⟩;have:=hb.2 s hs;simpa using this
def L6{c:ao}(hc:bH c)(ha:f9 c)(hb:et c=true){i:Nat}{s w:bj}(hs:c[i]? =some s)(hw:c[(i+1)%c.length]? =some w):0<s.l.dir.cross w.l.dir/\dH s.l w.l=s.l.at s.v.hi/\w.l.at w.v.lo=s.l.at s.v.hi:=by
 have he:=(vi hb).2;have ms:=aL hs;have mw:=aL hw;have hn:xN (c.map fun s=>s.l.dir) s.l.dir w.l.dir:=aCi ha (by rw[cV,hs];rfl) (by rw[aK,cV,hw];rfl);obtain⟨h1,h2⟩:=Si hc ms mw hn (he s ms).2;have h3:=TZ hc ms mw hn h1 (he w mw).1;have hx:crossI s.l w.l≠0:=Ja ((nO _).2 h1);refine⟨h1,(Gm hx (me (hc.ok s ms).ne _) h2).symm,?_⟩;rw[Gm hx h3 (me (hc.ok w mw).ne _),Gm hx (me (hc.ok s ms).ne _) h2]
def QB{α β:Type}(f:α->β): ∀l:List α,l.flatMap (fun x=>[f x])=l.map f
 |[]=>rfl
 |a::t=>by rw[kK,QB f t];rfl
def KE{α β:Type}{f g:α->List β}: ∀{l:List α},(∀x∈l,f x=g x)->l.flatMap f=l.flatMap g
 |[],_=>rfl
 |a::t,h=>by rw[kK,kK,h a aQ,KE fun x hx=>h x (aJ _ hx)]
def Uz{c:ao}(hc:bH c)(ha:f9 c)(hb:et c=true):il (c.map (·.l))=c.map fun s=>s.l.at s.v.hi:=by
 unfold il;rw[aK];have h0: ∀i∈List.range c.length,qy (c.map (·.l)) i=[(c.map fun s=>s.l.at s.v.hi).getD i ⟨0,0⟩]:=fun i hi=>by
  have hi':=mZ.1 hi;obtain⟨s,hs⟩: ∃s,c[i]? =some s:=⟨_,aZ hi'⟩;obtain⟨w,hw⟩: ∃w,c[(i+1)%c.length]? =some w:=⟨_,aZ (dQ _ (by omega))⟩;obtain⟨h1,h2,h3⟩:=L6 hc ha hb hs hw;rw[Ac (l:=s.l) (m:=w.l) (by rw[cV,hs];rfl) (by rw[aK,cV,hw];rfl),if_pos ((nO _).2 h1),h2,aX,cV,hs];rfl
 rw[KE h0,QB];refine List.ext_getElem (by simp) fun i h1 h2=>?_;rw[oQ,List.getElem_range,aX,aZ (by simpa using h2)];rfl
def aB{α:Type}(f:α->Rat):List α->Rat
 |[]=>0
 |a::t=>f a+aB f t
def vS{α:Type}(f:α->Rat): ∀(l m:List α),aB f (l++m)=aB f l+aB f m
 |[],m=>by rw[jT,aB];grind
 |a::t,m=>by rw[iV,aB,aB,vS f t m];grind
def uB{α:Type}{f g:α->Rat}: ∀{l:List α},(∀x∈l,f x=g x)->aB f l=aB g l
 |[],_=>rfl
 |a::t,h=>by rw[aB,aB,h a aQ,uB fun x hx=>h x (aJ _ hx)]
def yQ{α β:Type}(f:β->Rat)(g:α->β): ∀l:List α,aB f (l.map g)=aB (fun x=>f (g x)) l
 |[]=>rfl
 |a::t=>by rw[bT,aB,aB,yQ f g t]
def JG{α β:Type}(f:β->Rat)(g:α->List β): ∀l:List α,aB f (l.flatMap g)=aB (fun x=>aB f (g x)) l
 |[]=>rfl
 |a::t=>by rw[kK,vS,aB,JG f g t]
def Ge{α:Type}(f g:α->Rat): ∀l:List α,aB (fun x=>f x+g x) l=aB f l+aB g l
 |[]=>by simp only[aB];grind
 |a::t=>by rw[aB,aB,aB,Ge f g t];grind
def Nk{α:Type}(k:Rat)(f:α->Rat): ∀l:List α,aB (fun x=>k*f x) l=k*aB f l
 |[]=>by simp only[aB];grind
 |a::t=>by rw[aB,aB,Nk k f t];grind
def P1{α:Type}{f:α->Rat}: ∀{l:List α},(∀x∈l,0<=f x)->0<=aB f l
 |[],_=>fU
 |a::t,h=>by rw[aB];have h1:=h a aQ;have h2:=P1 fun x hx=>h x (aJ a hx);grind
def AZ(f:ab->ab->Rat)(v:List ab):Rat:=aB (fun i=>f (v.getD i ⟨0,0⟩) (v.getD ((i+1)%v.length) ⟨0,0⟩)) (List.range v.length)
def O9(n:Nat):List.range (n+1)=0::(List.range n).map (· +1):=by
 rw[List.range_succ_eq_map]
def OS(g:Nat->Rat)(n:Nat):aB (fun i=>g ((i+1)%n)) (List.range n)=aB g (List.range n):=by
 cases n with
 |zero=>rfl
 |succ n=>
  have e1:aB (fun i=>g ((i+1)%(n+1))) (List.range (n+1))=aB (fun i=>g (i+1)) (List.range n)+g 0:=by
   rw[List.range_succ,vS,uB (g:=fun i=>g (i+1)) fun i hi=>by rw[fW (by have:=mZ.1 hi;omega)]];simp only[aB,Nat.mod_self];grind
  have e2:aB g (List.range (n+1))=g 0+aB (fun i=>g (i+1)) (List.range n):=by rw[O9,aB,yQ]
  rw[e1,e2];grind
def NS{α:Type}(f:α->Rat)(d:α): ∀l:List α,aB (fun i=>f (l.getD i d)) (List.range l.length)=aB f l
 |[]=>rfl
 |a::t=>by
  rw[bZ,O9,aB,yQ,aB,<-NS f d t];rfl
def C4{c:ao}(hc:bH c)(ha:f9 c)(hb:et c=true)(f:ab->ab->Rat):AZ f (il (c.map (·.l)))=aB (fun s=>f (s.l.at s.v.lo) (s.l.at s.v.hi)) c:=by
 rw[Uz hc ha hb];unfold AZ;rw[aK];obtain⟨d,hd⟩: ∃d:bj,d=⟨z',ah.all⟩:=⟨_,rfl⟩;rw[<-NS (fun s:bj=>f (s.l.at s.v.lo) (s.l.at s.v.hi)) d c,<-OS (fun i=>f ((c.getD i d).l.at (c.getD i d).v.lo) ((c.getD i d).l.at (c.getD i d).v.hi)) c.length];refine uB fun i hi=>?_;have hi':=mZ.1 hi;have hj:=dQ (i+1) (show 0<c.length by omega);obtain⟨s,hs⟩: ∃s,c[i]? =some s:=⟨_,aZ hi'⟩;obtain⟨w,hw⟩: ∃w,c[(i+1)%c.length]? =some w:=⟨_,aZ hj⟩;obtain⟨h1,h2,h3⟩:=L6 hc ha hb hs hw;rw[aX,aX,aX,cV,cV,hs,hw];show f (s.l.at s.v.hi) (w.l.at w.v.hi)=f (w.l.at w.v.lo) (w.l.at w.v.hi);rw[h3]
def s6{l:aa}(h:l.Ne)(a b:Rat):(l.at a).cross (l.at b)=(b-a)*(l.c:Rat):=by
 have h1:=me h a;have e:l.at b=ck (l.at a) l.dir (b-a):=by rw[<-wG];congr 1;grind
 rw[e];rw[jf] at h1;generalize l.at a=p at*;unfold ab.cross ck aa.dir;grind
def aI4(c:ao):Rat:=aB (fun s=>(s.v.hi-s.v.lo)*(s.l.c:Rat)) c
def av6{c:ao}(hc:bH c)(ha:f9 c)(hb:et c=true)(g:ab->Rat):aB (fun s=>g (s.l.at s.v.hi)-g (s.l.at s.v.lo)) c=0:=by
 have e:=C4 hc ha hb fun p q=>g q-g p;rw[<-e];unfold AZ;generalize il (c.map (·.l))=v;have e2:aB (fun i=>g (v.getD ((i+1)%v.length) ⟨0,0⟩)) (List.range v.length)=aB (fun i=>g (v.getD i ⟨0,0⟩)) (List.range v.length):=OS (fun i=>g (v.getD i ⟨0,0⟩)) _;have e3:=Ge (fun i=>g (v.getD ((i+1)%v.length) ⟨0,0⟩)-g (v.getD i ⟨0,0⟩)) (fun i=>g (v.getD i ⟨0,0⟩)) (List.range v.length);have e4:aB (fun i=>g (v.getD ((i+1)%v.length) ⟨0,0⟩)-g (v.getD i ⟨0,0⟩)+g (v.getD i ⟨0,0⟩)) (List.range v.length)=aB (fun i=>g (v.getD ((i+1)%v.length) ⟨0,0⟩)) (List.range v.length):=uB fun i _=>by grind
 rw[e4,e2] at e3;grind
def oC(t:Tr):Prop:= ∃(L:List aa) (R:Rat),(∀l∈L,l.ok)/\ ∀p,eB L p->ul R p->t.val p=false
def ul.mono{R S:Rat}{p:ab}(h:ul S p)(hr:R<=S):ul R p:=by
 unfold ul at*;rcases h with h|h|h|h
 ·left;grind
 ·right;left;grind
 ·right;right;left;grind
 ·right;right;right;grind
def Ua(fill:Int):tI fill 0=false:=by
 unfold tI;simp
def aBf{rs:List (List ZP)}{fill:Int}(hr: ∀r∈rs,dO r){p:ab}(hp:ul 100 p):mi rs fill p=false:=by
 have key: ∀(rs:List (List ZP)),(∀r∈rs,dO r)->rs.foldl (fun n r=>n+lw r p) (0:Int)=0:=by
  intro rs
  induction rs with
  |nil=>intro _;rfl
  |cons r t ih=>
   intro hr;have e:lw r p=0:=by
    unfold lw;rw[D6];refine UA (R:=100) (fun v hv=>?_) hp;obtain⟨h1,h2⟩:=(hr r aQ).le v hv;have c: ∀z:Int,z.natAbs<=100-> -(100:Rat)<=(z:Rat)/\(z:Rat)<=100:=fun z hz=>by
     have a:((-100:Int):Rat)<=(z:Rat):=Rat.intCast_le_intCast.2 (by omega);have b:(z:Rat)<=((100:Int):Rat):=Rat.intCast_le_intCast.2 (by omega);exact⟨a,b⟩
    exact⟨(c _ h1).1,(c _ h1).2,(c _ h2).1,(c _ h2).2⟩
   rw[jU,e];exact ih fun r h=>hr r (aJ _ h)
 unfold mi;rw[key rs hr,Ua]
def We{rs:List (List ZP)}{fill:Int}(hr: ∀r∈rs,dO r):(wx rs fill).all aa.ok:=wD fun f hf=>((tr hr).2 f hf).ok
def Es{rs:List (List ZP)}{fill:Int}(hr: ∀r∈rs,dO r):oC (pz rs fill):=
 ⟨(wx rs fill).lns,100,tB (We hr),fun p ho hp=>by rw[auo hr ho,aBf hr hp]⟩
def avb(op:Int):yi op false false=false:=by
 unfold yi;split
 ·rfl
 ·split
  ·rfl
  ·split<;>rfl
def oC.merge{a b:Tr}(ha:oC a)(hb:oC b)(oa:a.all aa.ok)(ob:b.all aa.ok)(op:Int):oC (a.mergeQ op b []):=by
 obtain⟨L,R,h1,h2⟩:=ha;obtain⟨M,S,k1,k2⟩:=hb;refine⟨(L++M)++(a.lns++b.lns),if R<=S then S else R,fun l hl=>?_,fun p ho hp=>?_⟩
 ·rcases bW.1 hl with h|h
  ·exact(bW.1 h).elim (h1 l) (k1 l)
  ·exact(bW.1 h).elim (tB oa l) (tB ob l)
 ·obtain⟨o1,o2⟩:=eB.app.1 ho
  obtain⟨oL,oM⟩:=eB.app.1 o1;obtain⟨oA,oB⟩:=eB.app.1 o2;rw[Tr.val_merge op b ob a [] p oa bH.nil (fun s hs=>by cases hs) oA oB,h2 p oL (hp.mono (by split<;>grind)),k2 p oM (hp.mono (by split<;>grind)),avb]
def aAQ{A:Rat}(hA:A≠0)(B:Rat): ∃N:Rat,0<=N/\ ∀n,N<=n->A+n*B≠0:=by
 by_cases hB:B=0
 ·exact⟨0,by decide,fun n _=>by rw[hB];grind⟩
 ·have e:A/B*B=A:=by grind
  generalize A/B=q at*;refine⟨if 0<= -q then-q+1 else 0,by split<;>grind,fun n hn h=>?_⟩;have h2:B*(q+n)=0:=by grind
  rcases gK.1 h2 with k|k
  ·exact hB k
  ·split at hn<;>grind
def V5{L:List aa}{p d:ab}(h:eB L p): ∃N:Rat,0<=N/\ ∀n,N<=n->eB L (ck p d n):=by
 induction L with
 |nil=>exact⟨0,by decide,fun n _ l hl=>by cases hl⟩
 |cons l L ih=>
  obtain⟨N,n0,hN⟩:=ih (h.sub fun m hm=>aJ _ hm);obtain⟨M,m0,hM⟩:=aAQ (h l aQ) (l.nor.dot d);refine⟨N+M,by grind,fun n hn m hm=>?_⟩;rcases aY.1 hm with rfl|hm
  ·rw[jl];exact hM n (by grind)
  ·exact hN n (by grind) m hm
def BS{a:Rat}(ha:0<a)(x R:Rat): ∃N:Rat,0<=N/\ ∀n,N<=n->R<x+n*a:=by
 have e:(R-x)/a*a=R-x:=by grind
 generalize (R-x)/a=q at*;refine⟨if 0<=q then q+1 else 0,by split<;>grind,fun n hn=>?_⟩;have h2:=ge (show 0<n-q by split at hn<;>grind) ha;grind
def Vg{p d:ab}(hd:d≠⟨0,0⟩)(R:Rat): ∃N:Rat,0<=N/\ ∀n,N<=n->ul R (ck p d n):=by
 obtain⟨x,y⟩:=d;rcases kv x with h|h|h
 ·rcases kv y with k|k|k
  ·exact absurd (by rw[h,k]) hd
  ·obtain⟨N,n0,hN⟩:=BS k p.y R
   exact⟨N,n0,fun n hn=> .inr (.inr (.inr (hN n hn)))⟩
  ·obtain⟨N,n0,hN⟩:=BS (a:= -y) (by grind) (-p.y) R
   exact⟨N,n0,fun n hn=> .inr (.inr (.inl (by have:=hN n hn;show p.y+n*y< -R;grind)))⟩
 ·obtain⟨N,n0,hN⟩:=BS h p.x R
  exact⟨N,n0,fun n hn=> .inr (.inl (hN n hn))⟩
 ·obtain⟨N,n0,hN⟩:=BS (a:= -x) (by grind) (-p.x) R
  exact⟨N,n0,fun n hn=> .inl (by have:=hN n hn;show p.x+n*x< -R;grind)⟩
def Ky{c:ao}(hc:bH c)(h:et c=false): ∃d:ab,d≠⟨0,0⟩/\ ∀u∈c,0<=u.l.nor.dot d:=by
 unfold et at h
 cases c with
 |nil=>exact⟨⟨1,0⟩,by simp,fun u hu=>by cases hu⟩
 |cons s0 c0=>
  have h':((s0::c0).all fun s=>!s.v.nl&&!s.v.nh)=false:=by simpa using h
  rw[List.all_eq_false] at h';obtain⟨s,hs,hv⟩:=h';have hne:s.l.dir≠⟨0,0⟩:=fun e=>Ju (hc.ok s hs) (by rw[e];decide)
  cases nh:s.v.nh with
  |true=>exact⟨s.l.dir,hne,W5 hc hs nh⟩
  |false=>
   have nl:s.v.nl=true:=by simpa[nh] using hv
   refine⟨kt s.l.dir,fun e=>hne ?_,fun u hu=>?_⟩
   ·unfold kt at e
    generalize s.l.dir=d at*;obtain⟨x,y⟩:=d;simp only[ab.mk.injEq] at*;constructor<;>grind
   ·have:=W7 hc hs nl u hu
    unfold kt ab.dot at*;grind
def tn{t:Tr}(ht:t.all aa.ok)(hb:oC t):(bP t).all et=true:=by
 rw[fQ];intro c hc;obtain⟨hg,hv⟩:=HX ht bH.nil (xJ.1 hc)
 cases hq:et c with
 |true=>rfl
 |false=>
  exfalso;obtain⟨L,R,h1,h2⟩:=hb;obtain⟨d,d0,hd⟩:=Ky hg hq;obtain⟨p,hp,ho⟩:=Ow hg L h1;obtain⟨N,n0,hN⟩:=V5 (d:=d) ho;obtain⟨M,m0,hM⟩:=Vg (p:=p) d0 R;have hin:bc c (ck p d (N+M)):=fun s hs=>by
   rw[jl];have a:=hp s hs;have b:=di (show 0<=N+M by grind) (hd s hs);grind
  have:=(hv _ hin).2;rw[h2 _ (hN _ (by grind)) (hM _ (by grind))] at this
  cases this
def Im{rs:List (List ZP)}{fill:Int}(h: ∀r∈rs,dO r)(hn:rs.length<=2):gi 12 (pz rs fill):=by
 obtain⟨h1,h2⟩:=tr h;exact((GI h2 J).restrict []).mono (by omega)
def BY{es:List Int}{a:Nat}(ha:a<=es.length):gi 12 (ki es a).1/\oC (ki es a).1:=by
 obtain⟨r1,r2⟩:=x7 ha;have h3:=iA (n:=3) r2;unfold ki;dsimp only;split
 ·obtain⟨s1,s2⟩:=x7 h3
  have hr: ∀r∈[(fC es a).1,(fC es (aw es 3 (fC es a).2).2).1],dO r:=fun r hr=>by simp only[aY,iT,or_false] at hr;rcases hr with rfl|rfl;exact r1;exact s1
  exact⟨Im hr (by simp),Es hr⟩
 ·have hr: ∀r∈[(fC es a).1],dO r:=fun r hr=>by simp only[aY,iT,or_false] at hr;subst hr;exact r1
  exact⟨Im hr (by simp),Es hr⟩
def ek(es:List Int):Nat->Nat->Tr×Nat
 |0,a=>ki es a
 |d+1,a=>
  let k:=aw es 3 a
  if(k.1:Int)=0 then
   let x:=ek es d k.2
   let o:=aw es 4 x.2
   let y:=ek es d o.2
   (x.1.mergeQ (1+(o.1:Int)) y.1 [],y.2)
  else ki es k.2
def AA{es:List Int}: ∀{d a:Nat},a<=es.length->gi (12*2^d) (ek es d a).1/\oC (ek es d a).1/\(ek es d a).1.Red []/\(ek es d a).2<=es.length
 |0,a,ha=>⟨(BY ha).1,(BY ha).2,NI es a,(OU ha).2⟩
 |d+1,a,ha=>by
  have h0:=iA (n:=3) ha;rw[ek]
  try dsimp only
  split
  ·obtain⟨x1,x2,x3,x4⟩:=AA (d:=d) h0
   have h1:=iA (n:=4) x4;obtain⟨y1,y2,y3,y4⟩:=AA (d:=d) h1;refine⟨?_,x2.merge y2 x1.gd.ok y1.gd.ok _,Tr.merge_red _ _ _ _,y4⟩;have:=x1.merge (op:=1+((aw es 4 (ek es d (aw es 3 a).2).2).1:Int)) y1;exact this.mono (by rw[fV];omega)
  ·refine⟨(BY h0).1.mono ?_,(BY h0).2,NI _ _,(OU h0).2⟩
   have:1<=2^(d+1):=Nat.one_le_two_pow;omega
end Go.Sx
end
