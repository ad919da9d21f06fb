import Derived.Test.YtpiknjeceobbfaaGreatDoorMx14
set_option linter.all false
set_option maxRecDepth 100000
section
namespace Go.Sx
open Go Go.Proofs Tryz
variable {GB:Gh}
def Cq{l:ab}: ∀{c:List ab} {v:aA},(n9 l c v).2=true->ik l c v=some (n9 l c v).1
 |[],v,_=>rfl
 |m::t,v,h=>by
  rw[n9] at h⊢;rw[ik];split
  ·rename_i e;rw[if_pos e] at h;exact Cq h
  ·rename_i e
   rw[if_neg e] at h;split
   ·rename_i k;rw[if_pos k] at h;exact Cq h
   ·rename_i k;rw[if_neg k] at h;cases h
def Uj{v:aA}(h:v.Pos):v.ins (Bu v):=by
 obtain⟨lo,hi,nl,nh⟩:=v;unfold aA.Pos at h;unfold Bu aA.ins
 cases nl<;>cases nh<;>simp at* <;>grind
def M9{p v:aa}: ∀{c:List ab} {s:Rat},0<s->0<ta p v c s/\ta p v c s<=s/\ ∀m∈c,0<m.value p->m.nor.dot v<0->ta p v c s<= -(m.value p/m.nor.dot v)/2
 |[],s,h=>⟨h,dJ,fun m hm=>by cases hm⟩
 |m::t,s,h=>by
  have hk:m.value (aG p v ((1:Int):Rat))-m.value p=m.nor.dot v:=by rw[io];grind
  have key:0<vU p v m s/\vU p v m s<=s/\(0<m.value p->m.nor.dot v<0->vU p v m s<= -(m.value p/m.nor.dot v)/2):=by
   unfold vU xX;simp only[hk,jf,jD,zJ];split
   ·rename_i e;exact⟨h,dJ,fun _ k=>by rw[e] at k;exact absurd k (by decide)⟩
   ·split
    ·rename_i e;exact⟨h,dJ,fun k=>by rw[e] at k;exact absurd k (by decide)⟩
    ·split
     ·rename_i e
      split
      ·exact⟨by grind,by grind,fun _ _=>dJ⟩
      ·exact⟨h,dJ,fun _ _=>by grind⟩
     ·rename_i e
      exact⟨h,dJ,fun k1 k2=>absurd (FT k2 k1) e⟩
  obtain⟨a1,a2,a3⟩:=key;obtain⟨b1,b2,b3⟩:=M9 (p:=p) (v:=v) (c:=t) a1;rw[ta];refine⟨b1,by grind,fun u hu k1 k2=>?_⟩;rcases aU.1 hu with rfl|hu
  ·have:=a3 k1 k2;grind
  ·exact b3 u hu k1 k2
def W3{c:List ab}{p v:aa}(h: ∀m∈c,0<m.value p\/(m.value p=0/\0<m.nor.dot v)):fg c (Dt c p v):=fun m hm=>by
 obtain⟨s0,_,s2⟩:=M9 (p:=p) (v:=v) (c:=c) (s:=((1:Int):Rat)) (by decide);unfold Dt;generalize ta p v c ((1:Int):Rat)=s at*;rw[io];rcases h m hm with k|⟨k,k2⟩
 ·by_cases q:m.nor.dot v<0
  ·have h3:=s2 m hm k q
   have h4:=FT q k;have e:m.value p/m.nor.dot v*m.nor.dot v=m.value p:=by grind
   generalize m.value p/m.nor.dot v=z at*;have h5:=bE (a:= -z/2-s) (b:= -m.nor.dot v) (by grind) (by grind);grind
  ·have:=bE (bN s0) (show 0<=m.nor.dot v by grind)
   grind
 ·have:=bj s0 k2
  grind
def Qb{m:ab}(h:m.Ne):0<m.nor.dot (fG m.dir):=by
 have:=qk h;have e:m.nor.dot (fG m.dir)=m.nor.dot m.nor:=by unfold fG ab.dir ab.nor aa.dot;grind
 rw[e];exact this
def OX{c:List ab}(hok: ∀m∈c,m.ok)(hb:sP c=true):fg c (t7 c c):=by
 have key: ∀t:List ab,(∀m∈t,m∈c)->(∃m∈t,(ik m c aA.all).isSome=true)->fg c (t7 c t):=by
  intro t
  induction t with
  |nil=>rintro _ ⟨m,hm,_⟩;cases hm
  |cons m t ih=>
   intro hs hx;rw[t7];split
   ·rename_i e
    obtain⟨h1,h2⟩:=Av m c _ _ uV (Cq e);have h3:=((h2 _).1 (Uj h1)).2;have hmo:=(hok m (hs m aQ)).ne;refine W3 fun u hu=>?_;by_cases q:u=m
    ·subst q;exact .inr ⟨p6 hmo _,Qb hmo⟩
    ·exact .inl (h3 u hu q)
   ·rename_i e
    refine ih (fun u hu=>hs u (aZ _ hu)) ?_;obtain⟨u,hu,h⟩:=hx;rcases aU.1 hu with rfl|hu
    ·rw[Dk] at e;exact absurd h e
    ·exact⟨u,hu,h⟩
 unfold sP at hb;rw[fR,List.isEmpty_iff,jQ] at hb;rcases hb with rfl|⟨m,hm,h⟩
 ·exact fun m hm=>by cases hm
 ·exact key c (fun _ h=>h) ⟨m,hm,h⟩
def fg.seg{c:List ab}{q p:aa}{e:Rat}(hq:fg c q)(hp:fg c p)(h0:0<=e)(h1:e<=1):fg c (aD q p e):=fun m hm=>by
 rw[mf];have a:=hq m hm;have b:=hp m hm;by_cases z:e=0
 ·subst z;grind
 ·have k1:=bj (show 0<e by grind) b
  have k2:=bE (show 0<=1-e by grind) (bN a);grind
def fg.open{c:List ab}{q:aa}(u:aa)(h:fg c q): ∃e:Rat,0<e/\ ∀d,0<=d->d<=e->fg c (aG q u d):=by
 have hd:cg (c.map fun m=>(⟨m,aA.all⟩:aP)) q:=fun s hs=>by
  obtain⟨m,hm,rfl⟩:=bK.1 hs;exact h m hm
 obtain⟨e,he,ho⟩:=hd.open u;exact⟨e,he,fun d d0 d1 m hm=>ho d d0 d1 ⟨m,aA.all⟩ (lX hm)⟩
def C5(l:ab)(t u:Rat):l.at (t+u)=aG (l.at t) l.dir u:=by
 rw[<-rD,<-rD];unfold aG;simp only[aa.mk.injEq];constructor<;>grind
def DZ(l:ab)(a b s:Rat):aD (l.at a) (l.at b) s=l.at (a+s*(b-a)):=by
 rw[<-rD,<-rD,<-rD];unfold aD aG;simp only[aa.mk.injEq];constructor<;>grind
def w5{l:ab}(h:l.Ne)(t:Rat):co l (l.at t)=t:=by
 obtain⟨q,_,hq⟩:=xc h;have h2:=qk h;have e0:l.dir.dot l.dir=l.nor.dot l.nor:=by unfold ab.dir ab.nor aa.dot;grind
 have e1:(l.at t).dot l.dir=t*l.dir.dot l.dir:=by
  rw[<-rD,hq];unfold aG ab.dir aa.dot;grind
 unfold co;rw[e1];rw[<-e0] at h2;generalize l.dir.dot l.dir=d at*;have:d≠0:=by grind
 grind
def xM{l:ab}(h:l.Ne){p:aa}(hp:l.value p=0):l.at (co l p)=p:=by
 obtain⟨t,rfl⟩:=xy h hp;rw[w5 h]
def Dp(a:Int){g:Nat}(h:g∣a.natAbs):(g:Int)*zv (decide (a<0)) (a.natAbs/g)=a:=by
 obtain⟨k,hk⟩:=h;by_cases g0:g=0
 ·subst g0;simp at hk⊢;omega
 have e:a.natAbs/g=k:=by rw[hk];exact pW k (gW g0)
 rw[e];unfold zv;have hc:((g*k:Nat):Int)=(g:Int)*(k:Int):=by push_cast;rfl
 by_cases n:a<0
 ·simp only[n,decide_true,if_true];rw[Int.mul_neg];omega
 ·simp only[n,decide_false];show(g:Int)*(k:Int)=a;omega
def N1{a b c:Int}(h: ¬(a=0/\b=0)): ∃g:Int,0<g/\g*(fH a b c).a=a/\g*(fH a b c).b=b/\g*(fH a b c).c=c:=by
 have hg:0<Nat.gcd (Nat.gcd a.natAbs b.natAbs) c.natAbs:=kM _ (gW fun e=>h ⟨lS.1 (mU e),lS.1 (mK e)⟩);refine⟨(Nat.gcd (Nat.gcd a.natAbs b.natAbs) c.natAbs:Nat),by omega,?_,?_,?_⟩
 ·exact Dp a (oR (jZ _ _) (jZ _ _))
 ·exact Dp b (oR (jZ _ _) (kJ _ _))
 ·exact Dp c (kJ _ _)
def Bx{v w:ZP}(h:v≠w): ∃g:Rat,0<g/\(iF v.1 v.2 w.1 w.2).value v.q=0/\(iF v.1 v.2 w.1 w.2).value w.q=0/\w.q=aG v.q (iF v.1 v.2 w.1 w.2).dir g:=by
 obtain⟨m,n⟩:=v;obtain⟨p,q⟩:=w;have hne: ¬(i9 n q=0/\i6 m p=0):=fun e=>h (by unfold i9 i6 at e;rw[Prod.mk.injEq];omega);obtain⟨g,g0,ga,gb,gc⟩:=N1 (c:=n4 m n p q) hne;dsimp only;unfold iF;generalize fH (i9 n q) (i6 m p) (n4 m n p q)=l at*;have g0':(0:Rat)<(g:Rat):=by exact_mod_cast g0
 have ra:(g:Rat)*(l.a:Rat)= -((q:Rat)-(n:Rat)):=by rw[<-cY,ga];unfold i9;push_cast;grind
 have rb:(g:Rat)*(l.b:Rat)=(p:Rat)-(m:Rat):=by rw[<-cY,gb];unfold i6;push_cast;grind
 have rc:(g:Rat)*(l.c:Rat)= -(-((q:Rat)-(n:Rat))*(m:Rat)+((p:Rat)-(m:Rat))*(n:Rat)):=by rw[<-cY,gc];unfold n4 i9 i6;push_cast;grind
 have z: ∀x:Rat,(g:Rat)*x=0->x=0:=fun x hx=>by
  rcases bR.1 hx with e|e
  ·rw[e] at g0';exact absurd g0' (by decide)
  ·exact e
 refine⟨g,g0',z _ ?_,z _ ?_,?_⟩
 ·rw[lj];unfold ZP.q iP;dsimp only;grind
 ·rw[lj];unfold ZP.q iP;dsimp only;grind
 ·unfold ZP.q iP aG ab.dir;simp only[aa.mk.injEq];constructor<;>grind
def w4{v w:ZP}(h:v≠w)(ho:(ba v w).l.ok):(ba v w).l.at (ba v w).v.lo=v.q/\(ba v w).l.at (ba v w).v.hi=w.q/\(ba v w).v.lo<(ba v w).v.hi:=by
 obtain⟨g,g0,h1,h2,h3⟩:=Bx h;unfold ba at ho⊢;dsimp only at ho⊢;generalize iF v.1 v.2 w.1 w.2=l at*;have e1:=xM ho.ne h1;have e2:=xM ho.ne h2;refine⟨e1,e2,?_⟩;have:co l w.q=co l v.q+g:=by
  have e3:=C5 l (co l v.q) g;rw[e1,<-h3] at e3;rw[<-e3,w5 ho.ne]
 rw[this];grind
def vO{r:List ZP}{k:Nat}: ∀{n:Nat},k<n->ba (r.getD k (0,0)) (ci r k)∈jF r n
 |n+1,h=>by
  rw[jF];by_cases e:k=n
  ·subst e;exact cJ _ (aV.2 J)
  ·exact bU _ (vO (by omega))
def R2{r:List ZP}(hr:cB r){c:List ab}(hc: ∀e∈i4 r,∀t,e.v.ins t-> ¬fg c (e.l.at t)){q p:aa}(hq:fg c q)(hp:fg c p):sZ r q p:=fun k hk s t s0 s1 t0 t1 he=>by
 have hm:ba (r.getD k (0,0)) (ci r k)∈i4 r:=vO hk;have ho:=((sN hr).2 _ hm).ok;obtain⟨e1,e2,e3⟩:=w4 (hr.ne k hk) ho;have hno:=hc _ hm;have hx:=hq.seg hp t0 t1;rw[<-he,<-e1,<-e2,DZ] at hx;have hv: ∀u,(ba (r.getD k (0,0)) (ci r k)).v.lo<u->u<(ba (r.getD k (0,0)) (ci r k)).v.hi-> ¬fg c ((ba (r.getD k (0,0)) (ci r k)).l.at u):=fun u h1 h2=>hno u ⟨.inr h1, .inr h2⟩;generalize ba (r.getD k (0,0)) (ci r k)=e at*;have hb:=CT s0 s1 (dJ) (bN e3) (bN e3) (dJ);generalize e.v.lo+s*(e.v.hi-e.v.lo)=u at*;obtain⟨d,d0,hd⟩:=hx.open e.l.dir;obtain⟨d',d0',hd'⟩:=hx.open (bc e.l.dir);by_cases h1:e.v.lo<u
 ·by_cases h2:u<e.v.hi
  ·exact hv u h1 h2 hx
  ·have eu:u=e.v.hi:=by grind
   obtain⟨z,z0,z1,z2⟩: ∃z:Rat,0<z/\z<=d'/\z<e.v.hi-e.v.lo:=by
    by_cases k:d'<(e.v.hi-e.v.lo)/2
    ·exact⟨d',d0',dJ,by grind⟩
    ·exact⟨(e.v.hi-e.v.lo)/2,by grind,by grind,by grind⟩
   refine hv (u+ -z) (by grind) (by grind) ?_;rw[C5];have:=hd' z (bN z0) z1;have e5:aG (e.l.at u) (bc e.l.dir) z=aG (e.l.at u) e.l.dir (-z):=by unfold aG bc;simp only[aa.mk.injEq];constructor<;>grind
   rw[e5] at this;exact this
 ·have eu:u=e.v.lo:=by grind
  obtain⟨z,z0,z1,z2⟩: ∃z:Rat,0<z/\z<=d/\z<e.v.hi-e.v.lo:=by
   by_cases k:d<(e.v.hi-e.v.lo)/2
   ·exact⟨d,d0,dJ,by grind⟩
   ·exact⟨(e.v.hi-e.v.lo)/2,by grind,by grind,by grind⟩
  refine hv (u+z) (by grind) (by grind) ?_;rw[C5];exact hd z (bN z0) z1
def XA{rs:List (List ZP)}{fill:Int}(hr: ∀r∈rs,cB r){c:List ab}(hc: ∀e∈bz rs,∀t,e.v.ins t-> ¬fg c (e.l.at t)){q p:aa}(hq:fg c q)(hp:fg c p):fi rs fill q=fi rs fill p:=by
 have key: ∀(rs:List (List ZP)),(∀r∈rs,cB r)->(∀e∈bz rs,∀t,e.v.ins t-> ¬fg c (e.l.at t))-> ∀n:Int,rs.foldl (fun n r=>n+im r q) n=rs.foldl (fun n r=>n+im r p) n:=by
  intro rs
  induction rs with
  |nil=>intro _ _ n;rfl
  |cons r t ih=>
   intro hr hc n;rw[gS,gS,<-JP (R2 (hr r aQ) (fun e he=>hc e (cR.2 ⟨r,aQ,he⟩)) hq hp)];exact ih (fun r h=>hr r (aZ _ h)) (fun e he=>hc e (by obtain⟨r,h1,h2⟩:=cR.1 he;exact cR.2 ⟨r,aZ _ h1,h2⟩)) _
 unfold fi;rw[key rs hr hc]
def wi{cuts:List Rat}(h:cuts.Pairwise (· < ·)){i j:Nat}(hij:i<j)(hj:j<cuts.length):cuts.getD i 0<cuts.getD j 0:=by
 rw[aJ,aJ,aX hj,aX (by omega)];exact mQ.1 h i j (by omega) hj hij
def Fd{cuts:List Rat}{marks:List Bool}(h:cuts.Pairwise (· < ·)): ∀{k:Nat},∀v∈pq cuts marks (k+1),k<cuts.length->(v.nh=false/\v.hi<=cuts.getD k 0)/\(v.nl=true\/v.lo<cuts.getD k 0)
 |k,v,hv,hk=>by
  have hg:((kg cuts k).nh=false/\(kg cuts k).hi<=cuts.getD k 0)/\((kg cuts k).nl=true\/(kg cuts k).lo<cuts.getD k 0):=by
   unfold kg;dsimp only;refine⟨⟨by simp;omega,by rw[if_pos hk];exact dJ⟩,?_⟩;by_cases z:k=0
   ·left;simp[z]
   ·right;rw[if_neg z];exact wi h (by omega) hk
  have hold: ∀v∈pq cuts marks k,(v.nh=false/\v.hi<=cuts.getD k 0)/\(v.nl=true\/v.lo<cuts.getD k 0):=fun v hv=>by
   cases k with
   |zero=>cases hv
   |succ k=>
    have ih:=Fd h v hv (by omega);have:=wi h (Nat.lt_succ_self k) hk;exact⟨⟨ih.1.1,by have:=ih.1.2;grind⟩,ih.2.imp id fun z=>by grind⟩
  rw[pq] at hv;split at hv
  ·split at hv
   ·split at hv
    ·rename_i w hw
     rcases bL.1 hv with q|q
     ·exact hold v ((List.dropLast_sublist _).subset q)
     ·rw[aV] at q;subst q
      exact⟨hg.1,(hold w (qW hw)).2⟩
    ·rcases bL.1 hv with q|q
     ·exact hold v q
     ·rw[aV] at q;subst q;exact hg
   ·rcases bL.1 hv with q|q
    ·exact hold v q
    ·rw[aV] at q;subst q;exact hg
  ·exact hold v hv
def Jp{cuts:List Rat}{marks:List Bool}(h:cuts.Pairwise (· < ·)){x:Rat}{i:Nat}(hm:marks.getD i false=true)(hx:(kg cuts i).ins x): ∀{k:Nat},k<=cuts.length+1->i<k-> ∃v∈pq cuts marks k,v.ins x
 |k+1,hk,hi=>by
  by_cases e:i=k
  ·subst e
   rw[pq,if_pos hm];split
   ·rename_i h0
    split
    ·rename_i w hw
     refine⟨_,cJ _ (aV.2 J),?_,hx.2⟩;obtain⟨j,rfl⟩: ∃j,i=j+1:=⟨i-1,by omega⟩;have:=(Fd h w (qW hw) (by omega)).2;have hl:=hx.1;unfold kg at hl;dsimp only at hl;rw[if_neg (by omega),show j+1-1=j by omega] at hl;have hl':cuts.getD j 0<x:=hl.resolve_left (by simp);exact this.imp id fun z=>by show w.lo<x;grind
    ·exact⟨_,cJ _ (aV.2 J),hx⟩
   ·exact⟨_,cJ _ (aV.2 J),hx⟩
  ·obtain⟨v,hv,hvx⟩:=Jp h hm hx (k:=k) (by omega) (by omega)
   rw[pq];split
   ·split
    ·split
     ·rename_i w hw
      by_cases q:v=w
      ·subst q
       refine⟨_,cJ _ (aV.2 J),hvx.1,?_⟩;show(kg cuts k).nh=true\/x<(kg cuts k).hi;obtain⟨j,rfl⟩: ∃j,k=j+1:=⟨k-1,by omega⟩;obtain⟨⟨b1,b2⟩,_⟩:=Fd h v hv (by omega);have hh:=hvx.2.resolve_left (by rw[b1];decide);unfold kg;dsimp only;by_cases z:j+1<cuts.length
       ·right;rw[if_pos z];have:=wi h (Nat.lt_succ_self j) z;grind
       ·left;simp;omega
      ·refine⟨v,bU _ ?_,hvx⟩
       obtain⟨l,hl⟩:=List.getLast?_eq_some_iff.1 hw;rw[hl] at hv⊢;rw[List.dropLast_concat];rcases bL.1 hv with z|z
       ·exact z
       ·rw[aV] at z;exact absurd z q
     ·exact⟨v,bU _ hv,hvx⟩
    ·exact⟨v,bU _ hv,hvx⟩
   ·exact⟨v,hv,hvx⟩
def Ga: ∀{l:List Rat} {i:Nat},i+1<l.length->(nF l).getD i 0=(l.getD i 0+l.getD (i+1) 0)/2
 |[],_,h=>by simp at h
 |[_],_,h=>by simp at h
 |a::b::t,0,_=>by simp[nF]
 |a::b::t,i+1,h=>by
  have:=Ga (l:=b::t) (i:=i) (by simp at h⊢;omega);rw[nF,gT,this];simp only[gT]
def ze: ∀(l:List Rat) (a:Rat),(nF (a::l)).length=l.length
 |[],_=>rfl
 |b::t,a=>by rw[nF,bS,ze t b,bS]
def W6{cuts:List Rat}(h:cuts.Pairwise (· < ·)){i j:Nat}(hi:i<=cuts.length)(hj:j<cuts.length):(cuts.getD j 0<(lx cuts).getD i 0↔j<i)/\cuts.getD j 0≠(lx cuts).getD i 0:=by
 have mono: ∀{a b:Nat},a<=b->b<cuts.length->cuts.getD a 0<=cuts.getD b 0:=fun{a b} hab hb=>by
  by_cases e:a=b
  ·subst e;exact dJ
  ·exact bN (wi h (by omega) hb)
 cases cuts with
 |nil=>simp at hj
 |cons a t=>
  have hl:(a::t).length=t.length+1:=J;rw[lx]
  cases i with
  |zero=>
   rw[lZ];have:=mono (cK j) hj;rw[lZ] at this;constructor
   ·constructor
    ·intro q;exfalso;grind
    ·intro q;omega
   ·intro q;grind
  |succ i=>
   rw[gT];by_cases e:i<t.length
   ·have e1:(nF (a::t)++[(a::t).getLast (by simp)+1]).getD i 0=((a::t).getD i 0+(a::t).getD (i+1) 0)/2:=by
     rw[<-Ga (by omega),aJ,aJ,dR (by rw[ze];exact e)]
    rw[e1];have h1:=wi h (Nat.lt_succ_self i) (by omega);by_cases q:j<=i
    ·have:=mono q (by omega)
     constructor
     ·exact⟨fun _=>by omega,fun _=>by grind⟩
     ·grind
    ·have:=mono (show i+1<=j by omega) hj
     constructor
     ·exact⟨fun _=>by exfalso;grind,fun _=>by omega⟩
     ·grind
   ·have ei:i=t.length:=by omega
    have e1:(nF (a::t)++[(a::t).getLast (by simp)+1]).getD i 0=(a::t).getLast (by simp)+1:=by
     rw[aJ,fL (by rw[ze];omega),ze,ei];simp
    rw[e1];have:=Ng h (by simp) ((a::t).getD j 0) (by rw[aJ,aX hj];exact gL _);constructor
    ·exact⟨fun _=>by omega,fun _=>by grind⟩
    ·grind
def Jr(x:Rat): ∀{cuts:List Rat},cuts.Pairwise (· < ·)-> ∃i,i<=cuts.length/\ ∀j,j<cuts.length->(cuts.getD j 0<x↔j<i)
 |[],_=>⟨0,aN _,fun j hj=>by simp at hj⟩
 |a::t,h=>by
  rw[bM] at h;by_cases q:a<x
  ·obtain⟨i,h1,h2⟩:=Jr x h.2
   refine⟨i+1,by simp;exact h1,fun j hj=>?_⟩
   cases j with
   |zero=>simp[q]
   |succ j=>rw[gT,h2 j (by simpa using hj)];omega
  ·refine⟨0,cK _,fun j hj=>⟨fun k=>?_,fun k=>by omega⟩⟩
   exfalso
   cases j with
   |zero=>simp at k;grind
   |succ j=>
    rw[gT] at k;have hj':j<t.length:=by simpa using hj
    have:=h.1 (t.getD j 0) (by rw[aJ,aX hj'];exact gL _);grind
def Jy{out:List Rat}{s:aA}{y:Rat}:y∈ni out s↔y∈out\/(s.nl=false/\y=s.lo)\/(s.nh=false/\y=s.hi):=by
 unfold ni
 cases e1:s.nl<;>cases e2:s.nh<;>simp[sJ]<;>grind
def M1{v:aA}{x:Rat}:uQ [v] x=true↔v.ins x:=by
 unfold uQ y9 y9 aA.ins;have h1:=Ai x v.lo;have h2:=zJ x v.hi;rw[decide_eq_true_eq]
 cases e1:v.nl<;>cases e2:v.nh<;>simp only[if_true,gV,if_false,false_or,true_or,h1,h2,and_true,true_and,show(0:Int)<1 from by decide,show(-1:Int)<0 from by decide]<;>grind
def HZ{cuts:List Rat}{v:aA}(hl:v.nl=true\/v.lo∈cuts)(hh:v.nh=true\/v.hi∈cuts){x g:Rat}(ho: ∀u∈cuts,(u<x↔u<g)/\u≠x/\u≠g)(h:v.ins x):v.ins g:=by
 refine⟨?_,?_⟩
 ·rcases hl with e|e
  ·exact .inl e
  ·rcases h.1 with k|k
   ·exact .inl k
   ·exact .inr ((ho _ e).1.1 k)
 ·rcases hh with e|e
  ·exact .inl e
  ·rcases h.2 with k|k
   ·exact .inl k
   ·obtain⟨a,b,c⟩:=ho _ e
    right;by_cases q:v.hi<g
    ·have:=a.2 q;grind
    ·grind
def Nx{v w:aA}{t:Rat}(hv:v.ins t)(hw:w.ins t): ∃z∈wx 2 [v] [w],z.ins t:=by
 have hmem: ∀y,y∈kO ([v]++[w])↔((v.nl=false/\y=v.lo)\/(v.nh=false/\y=v.hi))\/(w.nl=false/\y=w.lo)\/(w.nh=false/\y=w.hi):=fun y=>by
  show y∈ni (ni [] v) w↔_;rw[Jy,Jy];simp
 have hasc:=(Lf ([v]++[w])).1;have h0: ∀u∈kO ([v]++[w]),u≠t:=fun u hu e=>by
  subst e;rcases(hmem u).1 hu with(⟨a,b⟩|⟨a,b⟩)|⟨a,b⟩|⟨a,b⟩
  ·have:=hv.1.resolve_left (by rw[a];decide);grind
  ·have:=hv.2.resolve_left (by rw[a];decide);grind
  ·have:=hw.1.resolve_left (by rw[a];decide);grind
  ·have:=hw.2.resolve_left (by rw[a];decide);grind
 have l1:v.nl=true\/v.lo∈kO ([v]++[w]):=by
  cases e:v.nl with
  |true=>exact .inl J
  |false=>exact .inr ((hmem _).2 (.inl (.inl ⟨e,J⟩)))
 have l2:v.nh=true\/v.hi∈kO ([v]++[w]):=by
  cases e:v.nh with
  |true=>exact .inl J
  |false=>exact .inr ((hmem _).2 (.inl (.inr ⟨e,J⟩)))
 have l3:w.nl=true\/w.lo∈kO ([v]++[w]):=by
  cases e:w.nl with
  |true=>exact .inl J
  |false=>exact .inr ((hmem _).2 (.inr (.inl ⟨e,J⟩)))
 have l4:w.nh=true\/w.hi∈kO ([v]++[w]):=by
  cases e:w.nh with
  |true=>exact .inl J
  |false=>exact .inr ((hmem _).2 (.inr (.inr ⟨e,J⟩)))
 unfold wx Eb;generalize kO ([v]++[w])=cuts at*;obtain⟨i,hi,ho⟩:=Jr t hasc;have hord: ∀u∈cuts,(u<t↔u<(lx cuts).getD i 0)/\u≠t/\u≠(lx cuts).getD i 0:=fun u hu=>by
  obtain⟨j,hj,e⟩:=oQ.1 hu;have e':cuts.getD j 0=u:=by rw[aJ,aX hj];exact e
  obtain⟨g1,g2⟩:=W6 hasc hi hj;have:=ho j hj;rw[e'] at g1 g2 this;exact⟨this.trans g1.symm,h0 u hu,g2⟩
 have hlen:(lx cuts).length=cuts.length+1:=H4;refine Jp hasc (i:=i) ?_ ?_ (by rw[aK,hlen];exact aN _) (by rw[aK,hlen];omega)
 ·rw[aJ,fS,aX (by omega)]
  show Le 2 (uQ [v] _) (uQ [w] _)=true;have e:(lx cuts)[i]'(by omega)=(lx cuts).getD i 0:=by rw[aJ,aX (by omega)];rfl
  rw[e,M1.2 (HZ l1 l2 hord hv),M1.2 (HZ l3 l4 hord hw)];rfl
 ·unfold kg aA.ins
  dsimp only;refine⟨?_,?_⟩
  ·by_cases z:i=0
   ·left;simp[z]
   ·right;rw[if_neg z];exact(ho (i-1) (by omega)).2 (by omega)
  ·by_cases z:i=cuts.length
   ·left;simp[z]
   ·right
    rw[if_pos (by omega)];have a:=ho i (by omega);have b:=h0 (cuts.getD i 0) (by rw[aJ,aX (by omega)];exact gL _);have c: ¬cuts.getD i 0<t:=fun k=>by have:=a.1 k;omega
    grind
def GQ{l m:ab}(h:crossI l m=0):l.cutK m=0:=by
 have e:l.cutK m= -(crossI l m:Rat):=by unfold ab.cutK ab.nor ab.dir aa.dot crossI;push_cast;grind
 rw[e,h];rfl
def Wi{k:Rat}{side:Int}(hs:side=1\/side= -1)(h:0<(side:Rat)*k):k.num.sign=side:=by
 rcases hs with rfl|rfl
 ·exact(iH k).2 (by grind)
 ·have:k.num.sign<0:=(lm k).2 (by grind)
  have:=qM k.num;omega
def Tl{f:aP}{m:ab}{side:Int}(hs:side=1\/side= -1)(hl:f.l.Ne){t:Rat}(ht:f.v.ins t)(hm:0<(side:Rat)*m.value (f.l.at t)): ∃g∈lI f m side,g.l=f.l/\g.v.ins t:=by
 have hv:=n8 f.l m t;have ho: ¬s7 f.l m=true:=fun e=>by
  unfold s7 at e;rw[decide_eq_true_eq,jf] at e;rw[GQ e.1,show f.l.cutC m=m.value f.l.base from J,e.2] at hv;rw[hv] at hm;grind
 unfold lI;rw[if_neg ho];have hh: ∃w,tq f.l m side=[w]/\w.ins t:=by
  unfold tq;by_cases hc:crossI f.l m=0
  ·rw[if_pos hc]
   rw[GQ hc,show f.l.cutC m=m.value f.l.base from J] at hv;rw[if_pos (Wi hs (by rw[hv] at hm;grind))];exact⟨_,J,Sk t⟩
  ·rw[if_neg hc]
   have hp:=Uk hl hc;have hK:f.l.cutK m≠0:=fun e=>by
    have e2:f.l.cutK m= -(crossI f.l m:Rat):=by unfold ab.cutK ab.nor ab.dir aa.dot crossI;push_cast;grind
    rw[e2] at e;have:(crossI f.l m:Rat)=0:=by grind
    exact hc (iT.1 this)
   generalize hx:co f.l (jr f.l m)=x at*;have hv2: ∀u,m.value (f.l.at u)=f.l.cutK m*(u-x):=fun u=>by rw[n8,hp];grind
   rw[hv2] at hm;have e1:m.value (f.l.at (x+1))=f.l.cutK m:=by rw[hv2];grind
   rw[e1];generalize f.l.cutK m=K at*;by_cases q:K.num.sign=side
   ·rw[if_pos q]
    refine⟨_,J, .inr ?_, .inl J⟩;show x<t;rcases hs with rfl|rfl
    ·have:=(iH K).1 q
     have:=(ud this).1 (show 0<K*(t-x) by grind);grind
    ·have:=(lm K).1 (by omega)
     have:=(De this).1 (show K*(t-x)<0 by grind);grind
   ·rw[if_neg q]
    refine⟨_,J, .inl J, .inr ?_⟩;show t<x;have h3:=dF K;rcases hs with rfl|rfl
    ·have kn:K<0:=by
      rcases h3 with h|h|h
      ·exact absurd h hK
      ·exact absurd ((iH K).2 h) q
      ·exact h
     have:=(De kn (b:=x-t)).1 (by grind);grind
    ·have kp:0<K:=by
      rcases h3 with h|h|h
      ·exact absurd h hK
      ·exact h
      ·exact absurd (by have:=(lm K).2 h;have:=qM K.num;omega) q
     have:=(ud kp (b:=x-t)).1 (by grind);grind
 obtain⟨w,e,hw⟩:=hh;rw[e];obtain⟨z,hz,hzt⟩:=Nx ht hw;exact⟨⟨f.l,z⟩,lX hz,J,hzt⟩
def AE(E:List aP)(c:List ab)(l:List aP):Prop:= ∀e∈E,∀t,e.v.ins t->fg c (e.l.at t)-> ∃f∈l,f.l=e.l/\f.v.ins t
def AE.split{E l:List aP}{c:List ab}(h:AE E c l)(hE: ∀e∈E,e.l.Ne){m:ab}{side:Int}(hs:side=1\/side= -1){m':ab}(hm': ∀p,m'.value p=(side:Rat)*m.value p):AE E (c++[m']) (l.flatMap fun g=>lI g m side):=fun e he t ht hin=>by
 obtain⟨h1,h2⟩:=DK.1 hin;obtain⟨f,hf,ef,hft⟩:=h e he t ht h1;rw[hm'] at h2;obtain⟨g,hg,eg,hgt⟩:=Tl (f:=f) hs (by rw[ef];exact hE e he) hft (by rw[ef];exact h2);exact⟨g,cR.2 ⟨f,hf,hg⟩,by rw[eg,ef],hgt⟩
def Dh{acc:aa->Bool}{E:List aP}(hE: ∀e∈E,e.l.Ne)(ha: ∀(c:List ab) (q p:aa),(∀e∈E,∀t,e.v.ins t-> ¬fg c (e.l.at t))->fg c q->fg c p->acc q=acc p): ∀{n:Nat} {l:List aP} {c:List ab} {p:aa},(∀f∈l,ou f)->yu n l->(∀m∈c,m.ok)->AE E c l->fg c p->iD (om acc n l c).lns p->(om acc n l c).val p=acc p
 |n,[],c,p,_,_,hc,hcov,hp,_=>by
  have e:om acc n [] c= .leaf (acc (t7 c c)):=by cases n<;>rfl
  rw[e,Tr.val];exact ha c _ _ (fun e he t ht hin=>by obtain⟨f,hf,_⟩:=hcov e he t ht hin;cases hf) (OX hc ((Or hc).2 ⟨p,hp⟩)) hp
 |0,f::t,_,_,_,hf,_,_,_,_=>by
  obtain⟨K,hK,hs⟩:=hf;obtain⟨m,hm,_⟩:=hs f aQ;have:K=[]:=cX (by omega);rw[this] at hm;cases hm
 |n+1,f::t,c,p,hok,hf,hc,hcov,hp,hoff=>by
  have fo:=hok f aQ;have hok': ∀side,∀g∈(f::t).flatMap fun g=>lI g f.l side,ou g:=fun side g hg=>by
   obtain⟨q,hq,hg⟩:=cR.1 hg;exact(IX (hok q hq) fo.lb g hg).1
  rw[om] at hoff⊢;by_cases q:0<f.l.value p
  ·rw[Tr.val_pos q]
   exact Dh hE ha (hok' 1) (hf.split hok) (Mu hc fo.ok) (hcov.split hE (.inl J) fun p=>by grind) (DK.2 ⟨hp,q⟩) hoff.x
  ·rw[Tr.val_neg q]
   have:=hoff.l;exact Dh hE ha (hok' (-1)) (hf.split hok) (Mu hc fo.ok.rev) (hcov.split hE (.inr J) fun p=>by rw[my];grind) (DK.2 ⟨hp,by rw[my];grind⟩) hoff.y
def Ps{rs:List (List ZP)}{fill:Int}(hr: ∀r∈rs,cB r){p:aa}(ho:iD (qf rs fill).lns p):(gv rs fill).val p=fi rs fill p:=by
 obtain⟨h1,h2⟩:=qq hr;have hok:(qf rs fill).all ab.ok:=zb fun f hf=>(h2 f hf).ok;unfold gv;rw[Tr.val_restrict _ _ _ hok ic.nil (fun s hs=>by cases hs) ho];unfold qf at ho⊢;refine Dh (E:=bz rs) (fun e he=>(h2 e he).ok.ne) (fun c q p hno hq hp=>XA hr hno hq hp) h2 ?_ (fun m hm=>by cases hm) (fun e he t ht _=>⟨e,he,J,ht⟩) (fun m hm=>by cases hm) ho;exact⟨(bz rs).map (·.l),by rw[aK];exact aN _,fun f hf=>⟨f.l,lX hf, .inl J⟩⟩
structure gp where
 ax:Rat
 ay:Rat
 ac:Rat
def gp.ev(g:gp)(p:aa):Rat:=g.ax*p.x+g.ay*p.y+g.ac
def gp.li(g:gp)(u:aa):Rat:=g.ax*u.x+g.ay*u.y
def gp.mov(g:gp)(p u:aa)(d:Rat):g.ev (aG p u d)=g.ev p+d*g.li u:=by
 unfold gp.ev gp.li aG;dsimp only;grind
def gp.seg(g:gp)(u w:aa)(s:Rat):g.li (aD u w s)=g.li u+s*(g.li w-g.li u):=by
 unfold gp.li aD;dsimp only;grind
def fm(a b x:aa):Prop:= ∃s:Rat,0<=s/\s<=1/\x=aD a b s
def xH{x y:Rat}(h: ¬(x=0/\y=0)):0<x*x+y*y:=by
 have h1:=o8 x;have h2:=o8 y;rcases dF (x*x+y*y) with k|k|k
 ·exfalso
  refine h ⟨?_,?_⟩
  ·have:x*x=0:=by grind
   exact(bR.1 this).elim id id
  ·have:y*y=0:=by grind
   exact(bR.1 this).elim id id
 ·exact k
 ·grind
def BS{a b:aa}(h:a≠b): ¬(b.x-a.x=0/\b.y-a.y=0):=fun k=>h (by
 cases a;cases b
 simp only[aa.mk.injEq] at*;constructor<;>grind)
def OE{a b p:aa}(hab:a≠b)(h: ¬fm a b p): ∃g:gp,0<g.ev p/\ ∀x,fm a b x->g.ev x<=0:=by
 have hN:=xH (BS hab);obtain⟨dx,hdx⟩: ∃dx,dx=b.x-a.x:=⟨_,rfl⟩;obtain⟨dy,hdy⟩: ∃dy,dy=b.y-a.y:=⟨_,rfl⟩;rw[<-hdx,<-hdy] at hN;have on: ∀x,fm a b x-> ∃s:Rat,0<=s/\s<=1/\x.x=a.x+s*dx/\x.y=a.y+s*dy:=fun x ⟨s,s0,s1,e⟩=>⟨s,s0,s1,by rw[e,hdx];rfl,by rw[e,hdy];rfl⟩;rcases dF (dx*(p.y-a.y)-dy*(p.x-a.x)) with k|k|k
 ·-- on the line
  obtain⟨T,hT⟩: ∃T,T=(p.x-a.x)*dx+(p.y-a.y)*dy:=⟨_,rfl⟩;by_cases t0:T<0
  ·refine⟨⟨-dx, -dy,a.x*dx+a.y*dy⟩,by unfold gp.ev;dsimp only;grind,fun x hx=>?_⟩
   obtain⟨s,s0,s1,e1,e2⟩:=on x hx;have:=bE s0 (bN hN);unfold gp.ev;dsimp only;rw[e1,e2];grind
  ·by_cases t1:dx*dx+dy*dy<T
   ·refine⟨⟨dx,dy, -(a.x*dx+a.y*dy)-(dx*dx+dy*dy)⟩,by unfold gp.ev;dsimp only;grind,fun x hx=>?_⟩
    obtain⟨s,s0,s1,e1,e2⟩:=on x hx;have:=bE (show 0<=1-s by grind) (bN hN);unfold gp.ev;dsimp only;rw[e1,e2];grind
   ·exfalso
    refine h ⟨T/(dx*dx+dy*dy),?_,?_,?_⟩
    ·have e:T/(dx*dx+dy*dy)*(dx*dx+dy*dy)=T:=by generalize dx*dx+dy*dy=N at*;grind
     exact(gO hN).1 (by rw[e];grind)
    ·have e:T/(dx*dx+dy*dy)*(dx*dx+dy*dy)=T:=by generalize dx*dx+dy*dy=N at*;grind
     have:=(gO (s:=1-T/(dx*dx+dy*dy)) hN).1 (by
      generalize T/(dx*dx+dy*dy)=q at*;generalize dx*dx+dy*dy=N at*;have:(1-q)*N=N-q*N:=by grind
      rw[this,e];grind)
     grind
    ·have e1:(p.x-a.x)*(dx*dx+dy*dy)=T*dx:=by rw[hT];grind
     have e2:(p.y-a.y)*(dx*dx+dy*dy)=T*dy:=by rw[hT];grind
     unfold aD;rw[<-hdx,<-hdy];generalize dx*dx+dy*dy=N at*
     cases p
     simp only[aa.mk.injEq] at*;constructor<;>grind
 ·refine⟨⟨-dy,dx,dy*a.x-dx*a.y⟩,by unfold gp.ev;dsimp only;grind,fun x hx=>?_⟩
  obtain⟨s,s0,s1,e1,e2⟩:=on x hx;unfold gp.ev;dsimp only;rw[e1,e2];grind
 ·refine⟨⟨dy, -dx, -(dy*a.x-dx*a.y)⟩,by unfold gp.ev;dsimp only;grind,fun x hx=>?_⟩
  obtain⟨s,s0,s1,e1,e2⟩:=on x hx;unfold gp.ev;dsimp only;rw[e1,e2];grind
def V4{g:gp}{p:aa}(v w:aa)(h:0<g.ev p): ∃e:Rat,0<e/\ ∀d s,0<=d->d<=e->0<=s->s<=1->0<g.ev (aG p (aD v w s) d):=by
 have hK: ∃K:Rat,0<K/\ -K<=g.li v/\ -K<=g.li w:=by
  generalize g.li v=a;generalize g.li w=b;refine⟨1+(if 0<=a then a else-a)+(if 0<=b then b else-b),?_,?_,?_⟩<;>split<;>split<;>grind
 obtain⟨K,k0,k1,k2⟩:=hK;generalize hz:g.ev p=z at*;have e1:z/(2*K)*(2*K)=z:=by grind
 refine⟨z/(2*K),(eO (k:=2*K) (by grind)).1 (by rw[e1];exact h),fun d s d0 d1 s0 s1=>?_⟩;generalize z/(2*K)=e at*;rw[gp.mov,hz,gp.seg];generalize g.li v=a at*;generalize g.li w=b at*;have h1:=bE (show 0<=1-s by grind) (show 0<=a+K by grind);have h2:=bE s0 (show 0<=b+K by grind);have h3:0<=a+s*(b-a)+K:=by grind
 have h4:=bE d0 h3;have h5:=bE (show 0<=e-d by grind) (bN k0);grind
def zM: ∀{E:List (aa×aa)},(∀f∈E,f.1≠f.2)-> ∀(p v w:aa),∃e:Rat,0<e/\ ∀f∈E,¬fm f.1 f.2 p-> ∀d s,0<=d->d<=e->0<=s->s<=1-> ¬fm f.1 f.2 (aG p (aD v w s) d)
 |[],_,p,v,w=>⟨1,by decide,fun f hf=>by cases hf⟩
 |f::E,hE,p,v,w=>by
  obtain⟨e1,a1,b1⟩:=zM (E:=E) (fun f hf=>hE f (aZ _ hf)) p v w;by_cases hp:fm f.1 f.2 p
  ·refine⟨e1,a1,fun g hg hn=>?_⟩
   rcases aU.1 hg with rfl|hg
   ·exact absurd hp hn
   ·exact b1 g hg hn
  ·obtain⟨g,g0,g1⟩:=OE (hE f aQ) hp
   obtain⟨e2,a2,b2⟩:=V4 v w g0;obtain⟨e,c1,c2,c3⟩:=min2 a1 a2;refine⟨e,c1,fun h hh hn d s d0 d1 s0 s1=>?_⟩;rcases aU.1 hh with rfl|hh
   ·intro ho
    have:=g1 _ ho;have:=b2 d s d0 (by grind) s0 s1;grind
   ·exact b1 h hh hn d s d0 (by grind) s0 s1
def zX(a b p r:aa):Prop:=fm a b p/\((r=⟨b.x-p.x,b.y-p.y⟩/\b≠p)\/(r=⟨a.x-p.x,a.y-p.y⟩/\a≠p))
def qg(r u:aa):Prop:= ∃k:Rat,0<k/\u=⟨k*r.x,k*r.y⟩
def div_pos{a b:Rat}(ha:0<a)(hb:0<b):0<a/b:=by
 have e:a/b*b=a:=by grind
 exact(eO hb).1 (by rw[e];exact ha)
def Jl{a b p u:aa}{d:Rat}(hab:a≠b)(hd:0<d)(hu:u≠⟨0,0⟩)(h1:fm a b p)(h2:fm a b (aG p u d)): ∃r,zX a b p r/\qg r u:=by
 have hN:=BS hab;obtain⟨t,t0,t1,et⟩:=id h1;obtain⟨s,s0,s1,es⟩:=h2;obtain⟨dx,hdx⟩: ∃dx,dx=b.x-a.x:=⟨_,rfl⟩;obtain⟨dy,hdy⟩: ∃dy,dy=b.y-a.y:=⟨_,rfl⟩;rw[<-hdx,<-hdy] at hN;have px:p.x=a.x+t*dx:=by rw[et,hdx];rfl
 have py:p.y=a.y+t*dy:=by rw[et,hdy];rfl
 have ux:d*u.x=(s-t)*dx:=by
  have:=congrArg aa.x es;unfold aG aD at this;dsimp only at this;rw[<-hdx] at this;grind
 have uy:d*u.y=(s-t)*dy:=by
  have:=congrArg aa.y es;unfold aG aD at this;dsimp only at this;rw[<-hdy] at this;grind
 have bx:b.x-p.x=(1-t)*dx:=by rw[px];grind
 have bY:b.y-p.y=(1-t)*dy:=by rw[py];grind
 have ax:a.x-p.x= -t*dx:=by rw[px];grind
 have aY:a.y-p.y= -t*dy:=by rw[py];grind
 rcases dF (s-t) with k|k|k
 ·exfalso
  rw[k] at ux uy;refine hu ?_;have d0:d≠0:=by grind
  have z1:u.x=0:=(bR.1 (show d*u.x=0 by rw[ux];grind)).resolve_left d0;have z2:u.y=0:=(bR.1 (show d*u.y=0 by rw[uy];grind)).resolve_left d0
  cases u
  simp only[aa.mk.injEq] at*;exact⟨z1,z2⟩
 ·have q:0<1-t:=by grind
  refine⟨_,⟨h1, .inl ⟨J,fun e=>hN ?_⟩⟩,(s-t)/(d*(1-t)),div_pos k (bj hd q),?_⟩
  ·have z1:(1-t)*dx=0:=by rw[<-bx,e];grind
   have z2:(1-t)*dy=0:=by rw[<-bY,e];grind
   exact⟨(bR.1 z1).resolve_left (by grind),(bR.1 z2).resolve_left (by grind)⟩
  ·have hq:=bj hd q
   have e:(s-t)/(d*(1-t))*(d*(1-t))=s-t:=by generalize d*(1-t)=m at*;grind
   rw[bx,bY];generalize (s-t)/(d*(1-t))=m at*;have d0:d≠0:=by grind
   have e1:d*(u.x-m*((1-t)*dx))=0:=by grind
   have e2:d*(u.y-m*((1-t)*dy))=0:=by grind
   have f1:=(bR.1 e1).resolve_left d0;have f2:=(bR.1 e2).resolve_left d0
   cases u
   simp only[aa.mk.injEq] at*;constructor<;>grind
 ·have q:0<t:=by grind
  refine⟨_,⟨h1, .inr ⟨J,fun e=>hN ?_⟩⟩,(t-s)/(d*t),div_pos (by grind) (bj hd q),?_⟩
  ·have z1:t*dx=0:=by have:=ax;rw[e] at this;grind
   have z2:t*dy=0:=by have:=aY;rw[e] at this;grind
   exact⟨(bR.1 z1).resolve_left (by grind),(bR.1 z2).resolve_left (by grind)⟩
  ·have hq:=bj hd q
   have e:(t-s)/(d*t)*(d*t)=t-s:=by generalize d*t=m at*;grind
   rw[ax,aY];generalize (t-s)/(d*t)=m at*;have d0:d≠0:=by grind
   have e1:d*(u.x-m*(-t*dx))=0:=by grind
   have e2:d*(u.y-m*(-t*dy))=0:=by grind
   have f1:=(bR.1 e1).resolve_left d0;have f2:=(bR.1 e2).resolve_left d0
   cases u
   simp only[aa.mk.injEq] at*;constructor<;>grind
def jo(E:List (aa×aa))(p u:aa):Prop:=u≠⟨0,0⟩/\ ∀f∈E,∀r,zX f.1 f.2 p r-> ¬qg r u
def Qp(p v w:aa)(d t:Rat):aD (aG p v d) (aG p w d) t=aG p (aD v w t) d:=by
 unfold aD aG;simp only[aa.mk.injEq];constructor<;>grind
def Ao(p v:aa)(d d' t:Rat):aD (aG p v d) (aG p v d') t=aG p v (d+t*(d'-d)):=by
 unfold aD aG;simp only[aa.mk.injEq];constructor<;>grind
def vS(v:aa)(s:Rat):aD v v s=v:=by
 unfold aD;cases v;simp only[aa.mk.injEq];constructor<;>grind
def FM{E:List (aa×aa)}(hE: ∀f∈E,f.1≠f.2){p v w:aa}{e:Rat}(he: ∀f∈E,¬fm f.1 f.2 p-> ∀d s,0<=d->d<=e->0<=s->s<=1-> ¬fm f.1 f.2 (aG p (aD v w s) d)){f:aa×aa}(hf:f∈E){d s:Rat}(d0:0<d)(d1:d<=e)(s0:0<=s)(s1:s<=1)(hu:jo E p (aD v w s)): ¬fm f.1 f.2 (aG p (aD v w s) d):=fun ho=>by
 by_cases hp:fm f.1 f.2 p
 ·obtain⟨r,r1,r2⟩:=Jl (hE f hf) d0 hu.1 hp ho
  exact hu.2 f hf r r1 r2
 ·exact he f hf hp d s (bN d0) d1 s0 s1 ho
def Vr{E:List (aa×aa)}(hE: ∀f∈E,f.1≠f.2){p v w:aa}(hu: ∀s,0<=s->s<=1->jo E p (aD v w s)): ∃e:Rat,0<e/\ ∀d,0<d->d<=e-> ∀f∈E,mP f.1 f.2 (aG p v d) (aG p w d):=by
 obtain⟨e,e0,he⟩:=zM hE p v w;refine⟨e,e0,fun d d0 d1 f hf s t s0 s1 t0 t1 h=>?_⟩;rw[Qp] at h;exact FM hE he hf d0 d1 t0 t1 (hu t t0 t1) ⟨s,s0,s1,h.symm⟩
def Sn{E:List (aa×aa)}(hE: ∀f∈E,f.1≠f.2){p v:aa}(hu:jo E p v): ∃e:Rat,0<e/\ ∀d d',0<d->d<=e->0<d'->d'<=e-> ∀f∈E,mP f.1 f.2 (aG p v d) (aG p v d'):=by
 obtain⟨e,e0,he⟩:=zM hE p v v;refine⟨e,e0,fun d d' d0 d1 e1 e2 f hf s t s0 s1 t0 t1 h=>?_⟩;rw[Ao] at h;have h1:=bE (show 0<=1-t by grind) (show 0<=d by grind);have h2:=bE t0 (show 0<=d' by grind);have h3:=bE (show 0<=1-t by grind) (show 0<=e-d by grind);have h4:=bE t0 (show 0<=e-d' by grind);have p0:0<d+t*(d'-d):=by
  rcases dF t with k|k|k
  ·rw[k];grind
  ·have:=bj k e1;grind
  ·grind
 have p1:d+t*(d'-d)<=e:=by grind
 have:=FM hE he hf (s:=0) p0 p1 (by decide) (by decide) (by rw[vS];exact hu);rw[vS] at this;exact this ⟨s,s0,s1,h.symm⟩
def d6(r:List ZP):List (aa×aa):=(List.range r.length).map fun k=>((r.getD k (0,0)).q,(ci r k).q)
def ER(rs:List (List ZP)):List (aa×aa):=rs.flatMap d6
def wZ{a b:ZP}(h:a.q=b.q):a=b:=by
 have hx:(a.1:Rat)=(b.1:Rat):=congrArg aa.x h;have hy:(a.2:Rat)=(b.2:Rat):=congrArg aa.y h;exact Prod.ext (by exact_mod_cast hx) (by exact_mod_cast hy)
def wq{rs:List (List ZP)}(hr: ∀r∈rs,cB r): ∀f∈ER rs,f.1≠f.2:=fun f hf=>by
 obtain⟨r,h1,h2⟩:=cR.1 hf;obtain⟨k,hk,rfl⟩:=bK.1 h2;exact fun e=>(hr r h1).ne k (fV.1 hk) (wZ e)
def yE{rs:List (List ZP)}{fill:Int}{q p:aa}(h: ∀f∈ER rs,mP f.1 f.2 q p):fi rs fill p=fi rs fill q:=by
 have key: ∀(rs:List (List ZP)),(∀f∈ER rs,mP f.1 f.2 q p)-> ∀n:Int,rs.foldl (fun n r=>n+im r p) n=rs.foldl (fun n r=>n+im r q) n:=by
  intro rs
  induction rs with
  |nil=>intro _ n;rfl
  |cons r t ih=>
   intro h n;have hc:sZ r q p:=fun k hk=>h _ (cR.2 ⟨r,aQ,bK.2 ⟨k,fV.2 hk,J⟩⟩);rw[gS,gS,JP hc];exact ih (fun f hf=>h f (by obtain⟨s,s1,s2⟩:=cR.1 hf;exact cR.2 ⟨s,aZ _ s1,s2⟩)) _
 unfold fi;rw[key rs h]
def mj(rs:List (List ZP))(fill:Int)(p v:aa)(b:Bool):Prop:= ∃e:Rat,0<e/\ ∀d,0<d->d<=e->fi rs fill (aG p v d)=b
section
variable {rs:List (List ZP)} {fill:Int} {p v w:aa} {b c:Bool}
def Fj(hr: ∀r∈rs,cB r)(hv:jo (ER rs) p v): ∃b,mj rs fill p v b:=by
 obtain⟨e,e0,he⟩:=Sn (wq hr) hv;exact⟨_,e,e0,fun d d0 d1=>yE (fill:=fill) (he e d e0 dJ d0 d1)⟩
def mj.uniq(h:mj rs fill p v b)(k:mj rs fill p v c):b=c:=by
 obtain⟨e1,a1,b1⟩:=h;obtain⟨e2,a2,b2⟩:=k;obtain⟨e,c1,c2,c3⟩:=min2 a1 a2;rw[<-b1 e c1 c2,<-b2 e c1 c3]
def AP(hr: ∀r∈rs,cB r)(hu: ∀s,0<=s->s<=1->jo (ER rs) p (aD v w s))(h:mj rs fill p v b):mj rs fill p w b:=by
 obtain⟨e1,a1,b1⟩:=Vr (wq hr) hu;obtain⟨e2,a2,b2⟩:=h;obtain⟨e,c1,c2,c3⟩:=min2 a1 a2;exact⟨e,c1,fun d d0 d1=>by rw[yE (fill:=fill) (b1 d d0 (by grind)),b2 d d0 (by grind)]⟩
end
def IZ{ds:List aa}(h:ds.Pairwise cd){i:Nat}{s w:aa}(hs:ds[i]? =some s)(hw:ds[(i+1)%ds.length]? =some w):lw ds s w:=by
 obtain⟨hi,rfl⟩:=aS.1 hs;obtain⟨hj,rfl⟩:=aS.1 hw;have hp:=mQ.1 h;by_cases e:i+1<ds.length
 ·have em:(i+1)%ds.length=i+1:=dY e
  left;simp only[em];refine⟨hp i (i+1) hi e (by omega),fun d hd=>?_⟩;obtain⟨j,hj,rfl⟩:=oQ.1 hd;rintro ⟨a,b⟩;rcases nU j i with k|k|k
  ·exact vq a (hp j i hj hi k)
  ·subst k;exact q7 _ a
  ·by_cases z:j=i+1
   ·subst z;exact q7 _ b
   ·exact vq b (hp (i+1) j e hj (by omega))
 ·have ei:i+1=ds.length:=by omega
  have em:(i+1)%ds.length=0:=by rw[ei,Nat.mod_self]
  right;simp only[em];refine⟨fun d hd a=>?_,fun d hd b=>?_⟩
  ·obtain⟨j,hj,rfl⟩:=oQ.1 hd
   by_cases k:j=i
   ·subst k;exact q7 _ a
   ·exact vq a (hp j i hj hi (by omega))
  ·obtain⟨j,hj,rfl⟩:=oQ.1 hd
   by_cases k:j=0
   ·subst k;exact q7 _ b
   ·exact vq b (hp 0 j (by omega) hj (by omega))
def Uu{s u w:aa}(hs:s.half≠0)(hw:w.half≠0)(hu:u.half≠0)(h1:0<s.cross u)(h2:0<u.cross w)(h3:0<s.cross w)(e:s.half=w.half):u.half=s.half:=by
 rcases fq hs with k|k
 ·rw[k] at e⊢
  have a:=lH.1 k;have b:=lH.1 e.symm;rw[lH];unfold aa.cross at*
  -- u is between s and w
  have i1:(s.x*w.y-s.y*w.x)*u.y=(u.x*w.y-u.y*w.x)*s.y+(s.x*u.y-s.y*u.x)*w.y:=by grind
  have i2:(s.x*w.y-s.y*w.x)*u.x=(u.x*w.y-u.y*w.x)*s.x+(s.x*u.y-s.y*u.x)*w.x:=by grind
  have y0:0<=s.y:=by grind
  have y1:0<=w.y:=by grind
  have m1:=bE (bN h2) y0;have m2:=bE (bN h1) y1;have uy:0<=u.y:=(gO h3).1 (by grind);by_cases z:0<u.y
  ·exact .inl z
  ·right
   have z0:u.y=0:=by grind
   have i3:(u.x*w.y-u.y*w.x)*s.y+(s.x*u.y-s.y*u.x)*w.y=0:=by rw[<-i1,z0];grind
   have A0:(u.x*w.y-u.y*w.x)*s.y=0:=by generalize (u.x*w.y-u.y*w.x)*s.y=A at*;generalize (s.x*u.y-s.y*u.x)*w.y=B at*;grind
   have B0:(s.x*u.y-s.y*u.x)*w.y=0:=by grind
   have n1:s.y=0:=by
    rcases bR.1 A0 with q|q
    ·grind
    ·exact q
   have n2:w.y=0:=by
    rcases bR.1 B0 with q|q
    ·grind
    ·exact q
   rw[n1,n2] at h3;grind
 ·rw[k] at e⊢
  have a:=nn.1 k;have b:=nn.1 e.symm;rw[nn];unfold aa.cross at*;have i1:(s.x*w.y-s.y*w.x)*u.y=(u.x*w.y-u.y*w.x)*s.y+(s.x*u.y-s.y*u.x)*w.y:=by grind
  have y0:0<= -s.y:=by grind
  have y1:0<= -w.y:=by grind
  have m1:=bE (bN h2) y0;have m2:=bE (bN h1) y1;have uy:0<= -u.y:=(gO h3).1 (by grind);by_cases z:u.y<0
  ·exact .inl z
  ·right
   have z0:u.y=0:=by grind
   have i3:(u.x*w.y-u.y*w.x)*s.y+(s.x*u.y-s.y*u.x)*w.y=0:=by rw[<-i1,z0];grind
   have m3:(u.x*w.y-u.y*w.x)* -s.y= -((u.x*w.y-u.y*w.x)*s.y):=by grind
   have m4:(s.x*u.y-s.y*u.x)* -w.y= -((s.x*u.y-s.y*u.x)*w.y):=by grind
   rw[m3] at m1;rw[m4] at m2;have A0:(u.x*w.y-u.y*w.x)*s.y=0:=by generalize (u.x*w.y-u.y*w.x)*s.y=A at*;generalize (s.x*u.y-s.y*u.x)*w.y=B at*;grind
   have B0:(s.x*u.y-s.y*u.x)*w.y=0:=by grind
   have n1:s.y=0:=by
    rcases bR.1 A0 with q|q
    ·grind
    ·exact q
   have n2:w.y=0:=by
    rcases bR.1 B0 with q|q
    ·grind
    ·exact q
   rw[n1,n2] at h3;grind
def Gb{ds:List aa}(nz: ∀d∈ds,d.half≠0){s u w:aa}(hs:s∈ds)(hu:u∈ds)(hw:w∈ds)(hn:lw ds s w)(h1:0<s.cross u)(h2:0<u.cross w)(h3:0<s.cross w):False:=by
 have zs:=fq (nz s hs);have zu:=fq (nz u hu);have zw:=fq (nz w hw);rcases hn with⟨b,no⟩|⟨n1,n2⟩
 ·by_cases e:s.half=w.half
  ·have e2:=Uu (nz s hs) (nz w hw) (nz u hu) h1 h2 h3 e
   exact no u hu ⟨.inr ⟨e2.symm,h1⟩, .inr ⟨by omega,h2⟩⟩
  ·have e1:s.half=1/\w.half=2:=by
    rcases b with b|⟨b,_⟩
    ·omega
    ·exact absurd b e
   rcases zu with k|k
   ·exact no u hu ⟨.inr ⟨by omega,h1⟩, .inl (by omega)⟩
   ·exact no u hu ⟨.inl (by omega), .inr ⟨by omega,h2⟩⟩
 ·have a:=n1 u hu
  have b:=n2 u hu;have a1: ¬s.half<u.half:=fun k=>a (.inl k);have a2:s.half≠u.half:=fun k=>a (.inr ⟨k,h1⟩);have b1: ¬u.half<w.half:=fun k=>b (.inl k);have b2:u.half≠w.half:=fun k=>b (.inr ⟨k,h2⟩);omega
def Ma{u w n:aa}(hu:u.half≠0)(hw:w.half≠0)(hn:n.half≠0)(e1:w.half=u.half)(e2:u.half=n.half)(h1:0<u.cross n)(h2: ¬0<u.cross w):0<w.cross n:=by
 by_cases k:0<w.cross u
 ·have b1:cd w u:= .inr ⟨e1,k⟩
  have b2:cd u n:= .inr ⟨e2,h1⟩;rcases uE b1 b2 with q|⟨_,q⟩
  ·omega
  ·exact q
 ·have hz:w.cross u=0:=by rw[eE] at k⊢;grind
  by_cases q:0<w.cross n
  ·exact q
  ·exfalso
   have b2:cd u n:= .inr ⟨e2,h1⟩;by_cases q2:0<n.cross w
   ·have b3:cd n w:= .inr ⟨by omega,q2⟩
    rcases uE b2 b3 with z|⟨_,z⟩
    ·omega
    ·exact h2 z
   ·have hz2:w.cross n=0:=by rw[eE] at q2;grind
    rcases fq hw with hh|hh
    ·have a:=lH.1 hh
     have b:=lH.1 (show u.half=1 by omega);have c:=lH.1 (show n.half=1 by omega);unfold aa.cross at*;have j1:w.x*(u.x*n.y-u.y*n.x)=0:=by grind
     have j2:w.y*(u.x*n.y-u.y*n.x)=0:=by grind
     rcases bR.1 j1 with z|z
     ·rcases bR.1 j2 with z2|z2<;>grind
     ·grind
    ·have a:=nn.1 hh
     unfold aa.cross at*;have j1:w.x*(u.x*n.y-u.y*n.x)=0:=by grind
     have j2:w.y*(u.x*n.y-u.y*n.x)=0:=by grind
     rcases bR.1 j1 with z|z
     ·rcases bR.1 j2 with z2|z2<;>grind
     ·grind
def H0{ds:List aa}(nz: ∀d∈ds,d.half≠0){s u w:aa}(hs:s∈ds)(hu:u∈ds)(hw:w∈ds)(hn:lw ds s w)(h1:0<s.cross u):0<s.cross w:=by
 have zs:=fq (nz s hs);have zu:=fq (nz u hu);have zw:=fq (nz w hw);have hneg:=po (nz s hs);have hnz:(bc s).half≠0:=by omega
 have e1:u.cross (bc s)=s.cross u:=by rw[kA,eE s u];grind
 have e2:w.cross (bc s)=s.cross w:=by rw[kA,eE s w];grind
 rcases hn with⟨b,no⟩|⟨n1,n2⟩
 ·by_cases e:s.half=w.half
  ·rcases b with b|⟨_,b⟩
   ·omega
   ·exact b
  ·have e3:s.half=1/\w.half=2:=by
    rcases b with b|⟨b,_⟩
    ·omega
    ·exact absurd b e
   have nu:=no u hu;rcases zu with k|k
   ·exact absurd ⟨.inr ⟨by omega,h1⟩, .inl (by omega)⟩ nu
   ·rw[<-e2]
    exact Ma (nz u hu) (nz w hw) hnz (by omega) (by omega) (by rw[e1];exact h1) fun q=>nu ⟨.inl (by omega), .inr ⟨by omega,q⟩⟩
 ·have a:=n1 u hu
  have b:=n2 u hu;have a1: ¬s.half<u.half:=fun k=>a (.inl k);have a2:s.half≠u.half:=fun k=>a (.inr ⟨k,h1⟩);have b1: ¬u.half<w.half:=fun k=>b (.inl k);rw[<-e2];exact Ma (nz u hu) (nz w hw) hnz (by omega) (by omega) (by rw[e1];exact h1) fun q=>b (.inr ⟨by omega,q⟩)
def pb(ds:List aa)(u:aa):Prop:=u≠⟨0,0⟩/\ ∀r∈ds,¬qg r u
def wc(ds:List aa)(v w:aa):Prop:= ∀s,0<=s->s<=1->pb ds (aD v w s)
def LT{α:Type}{R:α->α->Prop}(irr: ∀a,¬R a a)(tr: ∀a b c,R a b->R b c->R a c): ∀{l:List α},l≠[]-> ∃m∈l,∀y∈l,¬R y m
 |[],h=>absurd J h
 |[a],_=>⟨a,aQ,fun y hy=>by rw[aV.1 hy];exact irr a⟩
 |a::b::t,_=>by
  obtain⟨m,hm,h⟩:=LT irr tr (l:=b::t) (by simp);by_cases k:R a m
  ·refine⟨a,aQ,fun y hy=>?_⟩
   rcases aU.1 hy with rfl|hy
   ·exact irr _
   ·exact fun q=>h y hy (tr _ _ _ q k)
  ·refine⟨m,aZ _ hm,fun y hy=>?_⟩
   rcases aU.1 hy with rfl|hy
   ·exact k
   ·exact h y hy
def jk(x y:aa):Nat:=if x.cross y<0 then 1 else if 0<x.cross y then 3 else if 0<x.dot y then 0 else 2
def zn(x y z:aa):Prop:=jk x y<jk x z\/(jk x y=jk x z/\(jk x y=1\/jk x y=3)/\0<z.cross y)
def tw{x y:aa}:jk x y=1↔x.cross y<0:=by
 unfold jk;split
 ·simp_all
 ·split
  ·simp_all
  ·split<;>simp_all
def yg{x y:aa}:jk x y=3↔0<x.cross y:=by
 unfold jk;split
 ·rename_i h;simp;grind
 ·split
  ·simp_all
  ·split<;>simp_all
def KY(x z y t:aa):x.cross z*t.cross y=x.cross t*z.cross y+x.cross y*t.cross z:=by unfold aa.cross;grind
def UT(x a:aa): ¬zn x a a:=by
 rintro (h|⟨_,_,h⟩)
 ·omega
 ·rw[zI] at h;grind
def Nq(x a b c:aa)(h:zn x a b)(k:zn x b c):zn x a c:=by
 rcases h with h|⟨h1,h2,h3⟩
 ·rcases k with k|⟨k1,k2,k3⟩
  ·exact .inl (by omega)
  ·exact .inl (by omega)
 ·rcases k with k|⟨k1,k2,k3⟩
  ·exact .inl (by omega)
  ·refine .inr ⟨by omega,h2,?_⟩
   have e:=KY x b a c;rcases h2 with q|q
   ·have a1:=tw.1 q
    have b1:=tw.1 (h1▸q);have c1:=tw.1 (k1▸h1▸q);have m1:=bj (show 0< -x.cross c by grind) h3;have m2:=bj (show 0< -x.cross a by grind) k3;exact(eO (k:= -x.cross b) (by grind)).1 (by grind)
   ·have a1:=yg.1 q
    have b1:=yg.1 (h1▸q);have c1:=yg.1 (k1▸h1▸q);have m1:=bj c1 h3;have m2:=bj a1 k3;exact(eO (k:=x.cross b) b1).1 (by grind)
def SC{s w x:aa}(h1:0<s.cross w)(h2:0<s.cross x)(h3:x.cross w=0):qg w x:=by
 refine⟨s.cross x/s.cross w,div_pos h2 h1,?_⟩;have e:s.cross x/s.cross w*s.cross w=s.cross x:=by generalize s.cross w=m at*;grind
 have e1:x.x*s.cross w=w.x*s.cross x:=by unfold aa.cross at*;grind
 have e2:x.y*s.cross w=w.y*s.cross x:=by unfold aa.cross at*;grind
 generalize s.cross x/s.cross w=k at*;generalize s.cross w=m at*;generalize s.cross x=n at*;have f1:m*(x.x-k*w.x)=0:=by grind
 have f2:m*(x.y-k*w.y)=0:=by grind
 have m0:m≠0:=by grind
 have g1:=(bR.1 f1).resolve_left m0;have g2:=(bR.1 f2).resolve_left m0
 cases x
 simp only[aa.mk.injEq] at*;constructor<;>grind
def y6(s v w:aa)(t:Rat):s.cross (aD v w t)=s.cross v+t*(s.cross w-s.cross v)/\(aD v w t).cross s=v.cross s+t*(w.cross s-v.cross s):=by
 unfold aa.cross aD;dsimp only;constructor<;>grind
def rK{r u:aa}(h:qg r u)(s:aa):(0<s.cross u->0<s.cross r)/\(0<u.cross s->0<r.cross s)/\(s.cross u<0->s.cross r<0):=by
 obtain⟨k,k0,rfl⟩:=h;have e1:s.cross ⟨k*r.x,k*r.y⟩=s.cross r*k:=by unfold aa.cross;grind
 have e2:aa.cross ⟨k*r.x,k*r.y⟩ s=r.cross s*k:=by unfold aa.cross;grind
 rw[e1,e2];refine⟨(eO k0).1,(eO k0).1,fun h=>?_⟩;have:=(eO (s:= -s.cross r) k0).1 (by grind);grind
def zO{s u:aa}(h:s.cross u≠0):u≠⟨0,0⟩:=fun e=>h (by rw[e];unfold aa.cross;grind)
def Gk{z:Rat}(h: -z=0):z=0:=by grind
def Cy(s:aa):s.cross (fG s)=s.x*s.x+s.y*s.y:=by unfold aa.cross fG;grind
def Hd{s:aa}(h:s.half≠0):0<s.x*s.x+s.y*s.y:=xH fun k=>by
 rcases jj s with⟨_,q⟩|⟨_,q⟩|⟨q,_⟩
 ·grind
 ·grind
 ·exact h q
section
variable {ds:List aa}
def wE{x:aa}(hx:pb ds x):wc ds x x:=fun s _ _=>by rw[vS];exact hx
def E1{s v w:aa}(hn: ∀r∈ds,¬0<s.cross r)(hv:0<s.cross v)(hw:0<=s.cross w)(hf:pb ds w):wc ds v w:=fun t t0 t1=>by
 by_cases ht:t=1
 ·rw[ht,xP];exact hf
 ·have h1:=bj (show 0<1-t by grind) hv
  have h2:=bE t0 hw;have hp:0<s.cross (aD v w t):=by rw[(y6 s v w t).1];grind
  exact⟨zO (s:=s) (by grind),fun r hr q=>hn r hr ((rK q s).1 hp)⟩
def Ox{i:Nat}(hi:i<ds.length):jp ds i∈eG ds:=by
 unfold eG;rw[if_neg (by omega)];exact bK.2 ⟨i,fV.2 hi,J⟩
def LW{i:Nat}{s w:aa}(hs:ds[i]? =some s)(hw:ds[(i+1)%ds.length]? =some w):jp ds i=if 0<s.cross w then s.add w else fG s:=by
 unfold jp;rw[aJ,aJ,hs,hw];show(if 0<Int.sign (s.cross w).num then _ else _)=_;simp only[jD];rfl
def Ix(s w:aa):s.cross (s.add w)=s.cross w/\(s.add w).cross w=s.cross w:=by unfold aa.cross aa.add;dsimp only;constructor<;>grind
def x6(ha:ds.Pairwise cd)(nz: ∀d∈ds,d.half≠0){v:aa}(hv:v∈eG ds):pb ds v:=by
 unfold eG at hv;split at hv
 ·rename_i h0
  rw[cX h0,aV.1 hv];exact⟨by simp,fun r hr=>by cases hr⟩
 ·obtain⟨i,hi,rfl⟩:=bK.1 hv
  have hi':=fV.1 hi;obtain⟨s,hs⟩: ∃s,ds[i]? =some s:=⟨_,aX hi'⟩;obtain⟨w,hw⟩: ∃w,ds[(i+1)%ds.length]? =some w:=⟨_,aX (cS _ (by omega))⟩;have ms:=bJ hs;have mw:=bJ hw;have hn:=IZ ha hs hw;rw[LW hs hw];by_cases h:0<s.cross w
  ·rw[if_pos h]
   obtain⟨c1,c2⟩:=Ix s w;exact⟨zO (s:=s) (by rw[c1];grind),fun r hr q=>Gb nz ms hr mw hn ((rK q s).1 (by rw[c1];exact h)) ((rK q w).2.1 (by rw[c2];exact h)) h⟩
  ·rw[if_neg h]
   have hp:0<s.cross (fG s):=by rw[Cy];exact Hd (nz s ms)
   exact⟨zO (s:=s) (by grind),fun r hr q=>h (H0 nz ms hr mw hn ((rK q s).1 hp))⟩
def Ta(ha:ds.Pairwise cd)(nz: ∀d∈ds,d.half≠0){x:aa}(hx:pb ds x): ∃v∈eG ds,∃y,wc ds v y/\wc ds y x:=by
 by_cases h0:ds=[]
 ·subst h0
  have fr: ∀{u:aa},u≠⟨0,0⟩->pb [] u:=fun h=>⟨h,fun r hr=>by cases hr⟩;refine⟨⟨1,0⟩,aV.2 J,?_⟩;have sx: ∀(a b:aa) (t:Rat),(aD a b t).x=a.x+t*(b.x-a.x)/\(aD a b t).y=a.y+t*(b.y-a.y):=fun _ _ _=>⟨J,J⟩;have go: ∀{a b:aa},(0<a.x/\0<=b.x/\b≠⟨0,0⟩/\(b.x=0->b.y≠0))\/(0<a.y/\0<=b.y/\(b.y=0->b.x≠0))\/(a.y=0/\0<a.x/\b.y≠0)->wc [] a b:=fun{a b} h t t0 t1=>fr fun e=>by
   obtain⟨e1,e2⟩:=sx a b t;rw[e] at e1 e2;dsimp only at e1 e2;by_cases ht:t=1
   ·subst ht
    grind
   ·rcases h with⟨k1,k2,_,_⟩|⟨k1,k2,_⟩|⟨k1,k2,k3⟩
    ·have:=bj (show 0<1-t by grind) k1
     have:=bE t0 k2;grind
    ·have:=bj (show 0<1-t by grind) k1
     have:=bE t0 k2;grind
    ·rw[k1] at e2
     have z:t*b.y=0:=by grind
     rcases bR.1 z with q|q
     ·rw[q] at e1;grind
     ·exact k3 q
  by_cases hy:x.y=0
  ·by_cases hp:0<x.x
   ·exact⟨⟨1,0⟩,wE (fr (by simp)),go (.inl ⟨by decide,bN hp,hx.1,fun e=>by grind⟩)⟩
   ·have hne:x.x≠0:=fun e=>hx.1 (by cases x;simp only[aa.mk.injEq] at*;exact⟨e,hy⟩)
    exact⟨⟨0,1⟩,go (.inr (.inr ⟨J,by decide,by decide⟩)),go (.inr (.inl ⟨by decide,by rw[hy];exact dJ,fun _=>hne⟩))⟩
  ·exact⟨⟨1,0⟩,wE (fr (by simp)),go (.inr (.inr ⟨J,by decide,hy⟩))⟩
 obtain⟨s,ms,hmin⟩:=LT (UT x) (Nq x) h0;obtain⟨i,hi,hs'⟩:=mS ms;have hs:ds[i]? =some s:=by rw[aX hi,hs']
 obtain⟨w,hw⟩: ∃w,ds[(i+1)%ds.length]? =some w:=⟨_,aX (cS _ (by omega))⟩;have mw:=bJ hw;have hn:=IZ ha hs hw;have hsq:=Hd (nz s ms);have htp:0<s.cross (fG s):=by rw[Cy];exact hsq
 have sw: ∀a b:aa,a.cross b= -b.cross a:=fun a b=>eE b a;refine⟨jp ds i,Ox hi,?_⟩;rw[LW hs hw];rcases dF (s.cross x) with hc|hc|hc
 ·-- x opposite to s
  have hdot: ¬0<x.dot s:=fun q=>hx.2 s ms (by
   obtain⟨g,g0,e⟩:=qD (d:=s) (e:=x) (by rw[sw];grind) q;exact⟨g,g0,e⟩)
  have c2:jk x s=2:=by
   have e0:x.cross s=0:=by rw[sw];grind
   unfold jk;rw[e0,if_neg (by grind),if_neg (by grind),if_neg hdot]
  have hno: ∀r∈ds,¬0<s.cross r:=fun r hr q=>hmin r hr (.inl (by
   have hxr:x.cross r<0:=by
    -- x is a negative multiple of s
    have e:=KY s x r (fG s);have ht:=Cy s;have e2:(fG s).cross r*(s.x*s.x+s.y*s.y)=(fG s).cross r*s.cross (fG s):=by rw[ht]
    have e3:x.cross r*(s.x*s.x+s.y*s.y)=x.dot s*s.cross r+s.cross x* -(s.dot r):=by unfold aa.cross aa.dot;grind
    rw[hc] at e3;have hd0:x.dot s≠0:=fun z=>by
     have f1:x.x*(s.x*s.x+s.y*s.y)=0:=by unfold aa.cross aa.dot at*;grind
     have f2:x.y*(s.x*s.x+s.y*s.y)=0:=by unfold aa.cross aa.dot at*;grind
     have n0:s.x*s.x+s.y*s.y≠0:=by grind
     exact hx.1 (by
      have g1:=(bR.1 f1).resolve_right n0;have g2:=(bR.1 f2).resolve_right n0
      cases x;simp only[aa.mk.injEq] at*;exact⟨g1,g2⟩)
    have m:=bj (show 0< -x.dot s by grind) q;have:=(eO (s:= -x.cross r) hsq).1 (by grind);grind
   rw[tw.2 hxr,c2];decide))
  rw[if_neg (hno w mw)];exact⟨x,E1 hno htp (by rw[hc];exact dJ) hx,wE hx⟩
 ·-- x to the left of s
  have f1: ∀r∈ds,¬(0<s.cross r/\0<r.cross x):=fun r hr q=>hmin r hr (.inr (by
   have a1:jk x r=1:=tw.2 (by rw[sw];grind);have a2:jk x s=1:=tw.2 (by rw[sw];grind);exact⟨by rw[a1,a2], .inl a1,q.1⟩))
  by_cases h:0<s.cross w
  ·rw[if_pos h]
   have hxw:0<x.cross w:=by
    rcases dF (x.cross w) with k|k|k
    ·exact absurd (SC h hc k) (hx.2 w mw)
    ·exact k
    ·exact absurd ⟨h,by rw[sw];grind⟩ (f1 w mw)
   obtain⟨c1,c2⟩:=Ix s w;refine⟨x,fun t t0 t1=>?_,wE hx⟩;have p1:0<s.cross (aD (s.add w) x t):=by
    rw[(y6 s _ x t).1,c1];have:=bE (show 0<=1-t by grind) (bN h);have:=bE t0 (bN hc);by_cases ht:t=1
    ·rw[ht];grind
    ·have:=bj (show 0<1-t by grind) h
     grind
   have p2:0<(aD (s.add w) x t).cross w:=by
    rw[(y6 w _ x t).2,c2];have:=bE t0 (bN hxw);by_cases ht:t=1
    ·rw[ht];grind
    ·have:=bj (show 0<1-t by grind) h
     grind
   exact⟨zO (s:=s) (by grind),fun r hr q=>Gb nz ms hr mw hn ((rK q s).1 p1) ((rK q w).2.1 p2) h⟩
  ·rw[if_neg h]
   exact⟨x,E1 (fun r hr q=>h (H0 nz ms hr mw hn q)) htp (bN hc) hx,wE hx⟩
 ·-- x to the right of s
  have c3:jk x s=3:=yg.2 (by rw[sw];grind);have hno: ∀r∈ds,¬0<s.cross r:=fun r hr q=>hmin r hr (by
   by_cases k:jk x r=3
   ·exact .inr ⟨by rw[k,c3], .inr k,q⟩
   ·refine .inl ?_
    have:jk x r<=3:=by unfold jk;split<;>(try split)<;>(try split)<;>omega
    omega)
  have f4: ∀r∈ds,¬0<r.cross x:=fun r hr q=>hmin r hr (.inl (by rw[tw.2 (by rw[sw];grind),c3];decide));have sn:s.cross (bc s)=0:=by unfold aa.cross bc;grind
  have fneg:pb ds (bc s):=⟨fun e=>by
   have e1:=congrArg aa.x e;have e2:=congrArg aa.y e;unfold bc at e1 e2;dsimp only at e1 e2;rw[Gk e1,Gk e2] at hsq;exact absurd hsq (by decide+kernel),fun r hr q=>f4 r hr ((rK q x).2.1 (by
    have:(bc s).cross x= -s.cross x:=by unfold aa.cross bc;grind
    rw[this];grind))⟩
  rw[if_neg (hno w mw)];refine⟨bc s,E1 hno htp (by rw[sn];exact dJ) fneg,fun t t0 t1=>?_⟩;by_cases ht:t=1
  ·rw[ht,xP];exact hx
  ·have hq:0<(aD (bc s) x t).cross x:=by
    rw[(y6 x _ x t).2,zI];have:(bc s).cross x= -s.cross x:=by unfold aa.cross bc;grind
    rw[this];have:=bj (show 0<1-t by grind) (show 0< -s.cross x by grind);grind
   exact⟨fun e=>by rw[e] at hq;unfold aa.cross at hq;grind,fun r hr q=>f4 r hr ((rK q x).2.1 hq)⟩
end
def Qq{rs:List (List ZP)}{fill:Int}{p:aa}(hr: ∀r∈rs,cB r){ds:List aa}(ha:ds.Pairwise cd)(nz: ∀d∈ds,d.half≠0)(hd: ∀u,jo (ER rs) p u↔pb ds u)(b:Bool):(∃v∈eG ds,mj rs fill p v b)↔ ∃x,jo (ER rs) p x/\mj rs fill p x b:=by
 constructor
 ·rintro ⟨v,h1,h2⟩
  exact⟨v,(hd v).2 (x6 ha nz h1),h2⟩
 ·rintro ⟨x,h1,h2⟩
  obtain⟨v,hv,y,k1,k2⟩:=Ta ha nz ((hd x).1 h1);obtain⟨c,hc⟩:=Fj (fill:=fill) hr ((hd v).2 (x6 ha nz hv));have h3:=AP hr (fun s s0 s1=>(hd _).2 (k2 s s0 s1)) (AP hr (fun s s0 s1=>(hd _).2 (k1 s s0 s1)) hc);rw[h3.uniq h2] at hc;exact⟨v,hv,hc⟩
def eRz(v:List aa):DV:= .sl (v.map eZ)
def YJ(v:List aa):DV:= .sl (v.map jI)
def mF{α:Type}(f:α->Rat):List α->Rat
 |[]=>0
 |a::t=>f a+mF f t
def Xv(f:aa->aa->Rat)(v:List aa):Rat:=mF (fun i=>f (v.getD i ⟨0,0⟩) (v.getD ((i+1)%v.length) ⟨0,0⟩)) (List.range v.length)
def Ym(c:bw):Rat:=mF (fun s=>(s.v.hi-s.v.lo)*(s.l.c:Rat)) c
def Zl(t:Tr):Prop:= ∃(L:List ab) (R:Rat),(∀l∈L,l.ok)/\ ∀p,iD L p->XO R p->t.val p=false
def Cg{rs:List (List ZP)}{fill:Int}(hr: ∀r∈rs,cB r):(qf rs fill).all ab.ok:=zb fun f hf=>((qq hr).2 f hf).ok
def FI(es:List Int):Nat->Nat->Tr×Nat
 |0,a=>sf es a
 |d+1,a=>
  let k:=aj es 3 a
  if(k.1:Int)=0 then
   let x:=FI es d k.2
   let o:=aj es 4 x.2
   let y:=FI es d o.2
   (x.1.mergeQ (1+(o.1:Int)) y.1 [],y.2)
  else sf es k.2
def X1(f:aa->aa->Rat):Prop:= ∀(l:ab) (a b c:Rat),l.Ne->f (l.at a) (l.at c)=f (l.at a) (l.at b)+f (l.at b) (l.at c)
def Zo(f:aa->aa->Rat)(s:aP):Rat:=f (s.l.at s.v.lo) (s.l.at s.v.hi)
def Tm(f:aa->aa->Rat)(c:bw):Rat:=Xv f (Au (c.map (·.l)))
def WW(f:aa->aa->Rat)(t:Tr)(c:bw):Rat:=mF (fun x:Bool×bw=>if x.1 then Tm f x.2 else 0) (t.parts c)
def Za(f:aa->aa->Rat)(t:Tr)(c:bw)(l:ab):Rat:=if e7 c l then WW f t (gh c l) else 0
def XW(t:Tr)(c:bw):Prop:= ∀x∈t.parts c,x.1=true->Qs x.2=true
def RA(v:List aa):List (aa×aa):=(List.range v.length).map fun i=>(v.getD i ⟨0,0⟩,v.getD ((i+1)%v.length) ⟨0,0⟩)
def pi(cs:List (List ab)):List (aa×aa):=cs.flatMap fun c=>RA (Au c)
def pB(cs:List bw):List (List ab):=cs.map fun c=>c.map (·.l)
def Y8(x:aa×aa):List DV:=[y4 x.1 x.2,eF (x.1.cross x.2)]

def Yl(x:List ab×Bool):DV:= .ag [.sl (x.1.map eL),vB x.2]
def ZQ(c:List ab):DV:= .sl (c.map eL)
def X4(ps:List (List ab×Bool)):List (List ab):=(ps.filter (·.2)).map (·.1)
def eRp(v:List aa):DV:= .sl (v.map eP)
def YP(c:bw):List (List aa):=Gw (Au (c.map (·.l)))


def Zs:List ZP:=[(0,0),(1,0),(0,1)]
def KO(r:List aa)(j:Nat):Nat->aa
 |0=>(((r.getD 0 ⟨0,0⟩).add (r.getD 1 ⟨0,0⟩)).add (r.getD 2 ⟨0,0⟩)).scale (((1:Int):Rat)/((3:Int):Rat))
 |k+1=>((KO r j k).add (r.getD j ⟨0,0⟩)).scale (((1:Int):Rat)/((2:Int):Rat))
def ZG(ts:List (List aa))(i:Nat):aa:=KO (ts.getD (i%ts.length) []) (i%3) (i/ts.length)
theorem aw.mono{p:aa}{i j:Nat}(h:aw p i)(hj:i<=j):aw p j:=⟨h.x.mono hj,h.y.mono hj⟩
structure QQ (cs:List bw) (b:Nat):Prop where
 lb: ∀c∈cs,∀s∈c,LB s.l
 sh: ∀c∈cs,c.length<=100000
 ln:cs.length<=1000000
 pt: ∀x∈pi (pB cs),aw x.1 b/\aw x.2 b
def Hi(x:aa×aa):aa:=(x.1.add x.2).scale (x.1.cross x.2)
def Lw{α:Type}(f:α->aa)(l:List α):aa:=⟨mF (fun x=>(f x).x) l,mF (fun x=>(f x).y) l⟩
def Kg{n:Int}{d:Nat}(hn:n.natAbs<=1000)(hd:0<d)(hd1:d<=1000):PF GB prog 40 [vI n, .v (.int .i64 (d:Nat))] (eQ (mkRat n d)):=by
 haveI:BI n 10:=H2 (by omega);haveI:BN d 10:=⟨by omega⟩;refine fn func40 J J ntmps40 J J (fun C=>?_);refine cl J (J2 (n:=n) (by omega) (by omega)) J<|cl J (qB (u:=d) (by omega)) J<|cl J (wR (x:=n) (d:=d) hd) J<|?_;exact rz J J
def qF(es:List Int)(a:Nat):Rat×Nat:=
 (if((aj es 6 (aj es 9 a).2).1:Int)=0 then mkRat (2*(((aj es 9 a).1:Int)-4)+1) 2 else if((aj es 6 (aj es 9 a).2).1:Int)=1 then mkRat (3*(((aj es 9 a).1:Int)-4)+1) 3 else(((aj es 9 a).1:Rat)-4:Rat),(aj es 6 (aj es 9 a).2).2)
theorem Db{es:List Int}{a:Nat}(ha:a<=es.length):BQ (qF es a).1 12/\(qF es a).2<=es.length:=by
 have h1:=ir (es:=es) (n:=9) (a:=a) (by decide);refine⟨?_,ie (ie ha)⟩;unfold qF;dsimp only;split
 ·exact sV (by decide) (by omega) (by decide)
 ·split
  ·exact sV (by decide) (by omega) (by decide)
  ·haveI:BI (((aj es 9 a).1:Int)-4:Int) 11:=H2 (by omega)
   have e:((((aj es 9 a).1:Rat)-4):Rat)=((((aj es 9 a).1:Int)-4:Int):Rat):=by rw[lQ];rfl
   rw[e];exact inferInstance
def pj(es:List Int)(a:Nat):aa×Nat:=(⟨(qF es a).1,(qF es (qF es a).2).1⟩,(qF es (qF es a).2).2)
theorem Xs{es:List Int}{a:Nat}(ha:a<=es.length):aw (pj es a).1 1200/\(pj es a).2<=es.length:=by
 obtain⟨h1,h2⟩:=Db ha;obtain⟨h3,h4⟩:=Db h2;exact⟨⟨h1.mono (by decide),h3.mono (by decide)⟩,h4⟩
def q9(z:Nat):(z:Rat)-4=(((z:Int)-4:Int):Rat):=by rw[lQ];rfl
def vC:ab:=⟨1,0,0⟩
def ZE(es:List Int)(L:List ab)(a:Nat):aa×Nat:=
 if L.length=0 then pj es a else
 if((aj es 3 (aj es L.length a).2).1:Int)=0 then
  (if crossI (L.getD (aj es L.length a).1 vC) (L.getD (aj es L.length (aj es 3 (aj es L.length a).2).2).1 vC)≠0 then(jr (L.getD (aj es L.length a).1 vC) (L.getD (aj es L.length (aj es 3 (aj es L.length a).2).2).1 vC),(aj es L.length (aj es 3 (aj es L.length a).2).2).2) else pj es (aj es L.length (aj es 3 (aj es L.length a).2).2).2)
 else if((aj es 3 (aj es L.length a).2).1:Int)=1 then((L.getD (aj es L.length a).1 vC).at (qF es (aj es 3 (aj es L.length a).2).2).1,(qF es (aj es 3 (aj es L.length a).2).2).2) else pj es (aj es 3 (aj es L.length a).2).2
def MX{b:Nat}{es:List Int}(hes:es.length<=400){a:Nat}(ha:a<=es.length):PM GB prog 16 (jB [none] b) b 89 [.sl (es.map vI), .v (.int .i64 (a:Nat))] (eQ (qF es a).1) [.sl (es.map vI), .v (.int .i64 ((qF es a).2:Nat))]:=by
 have h1:=ir (es:=es) (n:=9) (a:=a) (by decide);refine yz func16 J J ntmps16 J J (fun C b m lo hmb=>?_);refine cm J (fun b=>(l8 (n:=9) hes ha (by decide) (by decide))) J<|cm J (fun b=>(l8 (n:=6) hes (ie ha) (by decide) (by decide))) J<|?_;refine br J J J (fun hc9=>?_) (fun hc9=>?_)
 .
  refine cl J (Kg (n:=2*(((aj es 9 a).1:Int)-4)+1) (d:=2) (by omega) (by decide) (by decide)) J<|?_;exact pn hmb J J (by unfold qF;dsimp only;rw[if_pos hc9];rfl) J
 .
  refine br J J J (fun hc15=>?_) (fun hc15=>?_)
  .
   refine cl J (Kg (n:=3*(((aj es 9 a).1:Int)-4)+1) (d:=3) (by omega) (by decide) (by decide)) J<|?_;exact pn hmb J J (by unfold qF;dsimp only;rw[if_neg hc9,if_pos hc15];rfl) J
  .
   refine cl J (tW (n:=(((aj es 9 a).1:Int)-4)) (by omega) (by omega)) J<|?_;exact pn hmb J J (by unfold qF;dsimp only;rw[if_neg hc9,if_neg hc15,q9];rfl) J
def Nn{b:Nat}{es:List Int}(hes:es.length<=400){a:Nat}(ha:a<=es.length):PM GB prog 12 (jB [none] b) b 89 [.sl (es.map vI), .v (.int .i64 (a:Nat))] (eP (pj es a).1) [.sl (es.map vI), .v (.int .i64 ((pj es a).2:Nat))]:=by
 refine yz func12 J J ntmps12 J J (fun C b m lo hmb=>?_);refine cm J (fun b=>(MX hes ha)) J<|cm J (fun b=>(MX hes (Db ha).2)) J<|?_;exact pn hmb J J J J

def Oh(x:aa×aa):Rat:=(x.1.x*x.1.x+x.2.x*x.2.x+(x.1.add x.2).x*(x.1.add x.2).x)*x.1.cross x.2
def Qo(x:aa×aa):Rat:=(x.1.x*x.1.y+x.2.x*x.2.y+(x.1.add x.2).x*(x.1.add x.2).y)*x.1.cross x.2
def OQ(x:aa×aa):Rat:=(x.1.y*x.1.y+x.2.y*x.2.y+(x.1.add x.2).y*(x.1.add x.2).y)*x.1.cross x.2
structure Zc (cs:List bw):Prop where
 ed:QQ cs 1200
 cr: ∀x∈pi (pB cs),BQ (x.1.cross x.2) 5000
 ar: ∀k,BQ (mF (fun x=>x.1.cross x.2) ((pi (pB cs)).take k)) 2000000
 mo: ∀k,aw (Lw Hi ((pi (pB cs)).take k)) 3000000
 sa: ∀k,BQ (mF Oh ((pi (pB cs)).take k)) 4000000
 sb: ∀k,BQ (mF Qo ((pi (pB cs)).take k)) 4000000
 sc: ∀k,BQ (mF OQ ((pi (pB cs)).take k)) 4000000
def Zk(t:Tr):Rat:=mF (fun x=>x.1.cross x.2) (pi (pB (CG t)))*mkRat 1 2
def YG(t:Tr):aa:=(Lw Hi (pi (pB (CG t)))).scale (((1:Int):Rat)/((6:Int):Rat))
def ZV:DV:= .ag [vB false, .sl [], .sl []]
def zP0:DV:= .ag [vB false, .sl [], .sl [],vB false, .sl [], .sl []]
def Uv:Rat:=((1:Int):Rat)/((24:Int):Rat)
def YI(f:aa×aa->Rat)(t:Tr):Rat:=mF f (pi (pB (CG t)))*Uv
structure DQ (D B:Nat) (x:Rat):Prop where
 ex: ∃n:Int,x*((D:Nat):Rat)=(n:Rat)/\n.natAbs<=B*D
def Tc(l m:ab):Nat:=if crossI l m=0 then 1 else(crossI l m).natAbs
def PP(K:List ab):List Nat:=K.flatMap fun l=>K.map (Tc l)
def aF3(K:List ab):Nat:=(PP K).foldr (· * ·) 1
structure DP (D B:Nat) (p:aa):Prop where
 x:DQ D B p.x
 y:DQ D B p.y

def eM(a b c d e f:Rat):DV:= .ag [(.v (.bool (decide ((a).num<0)))),(dN (a).num.natAbs),(dD (a).den),(.v (.bool (decide ((b).num<0)))),(dN (b).num.natAbs),(dD (b).den),(.v (.bool (decide ((c).num<0)))),(dN (c).num.natAbs),(dD (c).den),(.v (.bool (decide ((d).num<0)))),(dN (d).num.natAbs),(dD (d).den),(.v (.bool (decide ((e).num<0)))),(dN (e).num.natAbs),(dD (e).den),(.v (.bool (decide ((f).num<0)))),(dN (f).num.natAbs),(dD (f).den)]
def YY:List DV:=[.v (.bool (decide ((0:Rat).num<0))),dN (0:Rat).num.natAbs,dD (0:Rat).den]

def OY:List ZP:=[(0,0),(2,0),(2,2),(0,2)]
def YZ:Tr:=gv [OY] 2


def PH(n q p:aa)(e:Rat):n.dot (aD q p e)=n.dot q+e*(n.dot p-n.dot q):=by
 unfold aa.dot aD;grind
def pk(M:List ab)(E:List (aa×aa)):Prop:= ∀f∈E,∃m∈M,m.value f.1=0/\m.value f.2=0
def EB(m:ab)(a p:aa):m.nor.dot ⟨a.x-p.x,a.y-p.y⟩=m.value a-m.value p:=by
 rw[lj,lj];unfold ab.nor aa.dot;dsimp only;grind
def OO(n:aa)(k:Rat)(r:aa):n.dot ⟨k*r.x,k*r.y⟩=k*n.dot r:=by unfold aa.dot;dsimp only;grind
def va{M:List ab}{E:List (aa×aa)}(hM:pk M E){p v:aa}(hv:v≠⟨0,0⟩)(hg:Gn M p v):jo E p v:=⟨hv,fun f hf r ⟨ho,hr⟩ ⟨k,k0,e⟩=>by
 obtain⟨m,hm,h1,h2⟩:=hM f hf;obtain⟨s,s0,s1,es⟩:=ho;have hp:m.value p=0:=by rw[es,mf,h1,h2];grind
 refine hg m hm hp ?_;rw[e,OO];rcases hr with⟨rfl,_⟩|⟨rfl,_⟩
 ·rw[EB,h2,hp];grind
 ·rw[EB,h1,hp];grind⟩
def Ug{M:List ab}{E:List (aa×aa)}(hM:pk M E)(ok: ∀l∈M,l.ok){p x:aa}(hx:jo E p x): ∃w,Gn M p w/\w≠⟨0,0⟩/\ ∀s,0<=s->s<=1->jo E p (aD x w s):=by
 by_cases h0: ∃m∈M,m.value p=0
 ·obtain⟨m0,hm0,z0⟩:=h0
  obtain⟨w,g1,g2⟩:=BT (L:=M.filter fun l=>decide (l.nor.dot x≠0)) (M:=M) (p:=p) (v:=x) ok fun l hl _=>by simpa using (iK.1 hl).2
  have nz: ∀{u:aa} {n:aa},n.dot u≠0->u≠⟨0,0⟩:=fun h e=>h (by rw[e];unfold aa.dot;grind);refine⟨w,g1,nz (g1 m0 hm0 z0),fun s s0 s1=>?_⟩;by_cases hs:s=0
  ·rw[hs,Df];exact hx
  ·have key: ∀m∈M,m.value p=0->m.nor.dot (aD x w s)≠0:=fun m hm hz=>by
    rw[PH];have hw:=g1 m hm hz;by_cases k:m.nor.dot x=0
    ·rw[k]
     intro e;have e':s*m.nor.dot w=0:=by grind
     exact(bR.1 e').elim hs hw
    ·have hsg:=g2 m (iK.2 ⟨hm,decide_eq_true k⟩) hz
     generalize m.nor.dot x=a at*;generalize m.nor.dot w=b at*;rcases dF a with q|q|q
     ·exact absurd q k
     ·have hb:0<b:=(iH _).1 (by rw[<-hsg];exact(iH _).2 q)
      have m1:=bE (show 0<=1-s by grind) (bN q);have m2:=bj (show 0<s by grind) hb;grind
     ·have hb:b<0:=(lm _).1 (by rw[<-hsg];exact(lm _).2 q)
      have m1:=bE (show 0<=1-s by grind) (show 0<= -a by grind);have m2:=bj (show 0<s by grind) (show 0< -b by grind);grind
   exact va hM (nz (key m0 hm0 z0)) fun m hm hz=>key m hm hz
 ·exact⟨x,fun l hl hz=>absurd ⟨l,hl,hz⟩ h0,hx.1,fun s _ _=>by rw[vS];exact hx⟩
def Gu:oH.ok:=by unfold ab.ok oH;decide
section
variable {rs:List (List ZP)} {fill:Int} {p:aa}
def mD(rs:List (List ZP))(fill:Int)(p:aa)(b:Bool):Prop:= ∃x,jo (ER rs) p x/\mj rs fill p x b
def Wk(hr: ∀r∈rs,cB r){M:List ab}(hM:pk M (ER rs))(ok: ∀l∈M,l.ok){b:Bool}:mD rs fill p b↔ ∃w,w≠⟨0,0⟩/\Gn M p w/\mj rs fill p w b:=by
 constructor
 ·rintro ⟨x,h1,h2⟩
  obtain⟨w,w1,w2,w3⟩:=Ug hM ok h1;exact⟨w,w2,w1,AP hr w3 h2⟩
 ·rintro ⟨w,w1,w2,w3⟩
  exact⟨w,va hM w1 w2,w3⟩
def QT(hr: ∀r∈rs,cB r){M:List ab}(hM:pk M (ER rs))(ok: ∀l∈M,l.ok):mD rs fill p true\/mD rs fill p false:=by
 obtain⟨w,hw⟩:=HE (M:=oH::M) (fun l hl=>by rcases aU.1 hl with rfl|hl;exact Gu;exact ok l hl) p;by_cases h0:w=⟨0,0⟩
 ·-- no line of M runs through p
  have hf:jo (ER rs) p ⟨1,0⟩:=va hM (by simp) fun l hl hz=>by
   have:=hw l (aZ _ hl) hz;rw[h0] at this;exact absurd (by unfold aa.dot;grind) this
  obtain⟨b,hb⟩:=Fj (fill:=fill) hr hf
  cases b with
  |true=>exact .inl ⟨_,hf,hb⟩
  |false=>exact .inr ⟨_,hf,hb⟩
 ·have hf:=va hM h0 fun l hl=>hw l (aZ _ hl)
  obtain⟨b,hb⟩:=Fj (fill:=fill) hr hf
  cases b with
  |true=>exact .inl ⟨_,hf,hb⟩
  |false=>exact .inr ⟨_,hf,hb⟩
def XB(hr: ∀r∈rs,cB r){v:aa}{s:Rat}(h0:0<s)(hv:jo (ER rs) p v)(hs: ∀f∈ER rs,¬fm f.1 f.2 p-> ∀t,0<t->t<=s-> ¬fm f.1 f.2 (aG p v t)):mj rs fill p v (fi rs fill (aG p v s)):=by
 refine⟨s,h0,fun d d0 d1=>?_⟩;refine(yE (q:=aG p v d) (p:=aG p v s) fun f hf a t a0 a1 t0 t1 h=>?_).symm;rw[Ao] at h;have q0:0<d+t*(s-d):=by
  have:=bE t0 (show 0<=s-d by grind);grind
 have q1:d+t*(s-d)<=s:=by
  have:=bE (show 0<=1-t by grind) (show 0<=s-d by grind);grind
 have ho:fm f.1 f.2 (aG p v (d+t*(s-d))):=⟨a,a0,a1,h.symm⟩;by_cases hp:fm f.1 f.2 p
 ·obtain⟨r,r1,r2⟩:=Jl (wq hr f hf) q0 hv.1 hp ho
  exact hv.2 f hf r r1 r2
 ·exact hs f hf hp _ q0 q1 ho
def HN(hr: ∀r∈rs,cB r){M:List ab}(hM:pk M (ER rs))(ok: ∀l∈M,l.ok)(b:Bool):qm (gv rs fill) p b↔mD rs fill p b:=by
 have hraw:=Cg (fill:=fill) hr;have hb:(gv rs fill).all ab.ok:=Tr.restrict_all ab.ok _ _ hraw
 -- all lines in sight
 have okA: ∀l∈(oH::M)++((qf rs fill).lns++(gv rs fill).lns),l.ok:=fun l hl=>by
  rcases bL.1 hl with h|h
  ·rcases aU.1 h with rfl|h
   ·exact Gu
   ·exact ok l h
  ·exact(bL.1 h).elim (q6 hraw l) (q6 hb l)
 have hMA:pk ((oH::M)++((qf rs fill).lns++(gv rs fill).lns)) (ER rs):=fun f hf=>by
  obtain⟨m,h1,h2⟩:=hM f hf;exact⟨m,bU _ (aZ _ h1),h2⟩
 have same: ∀{w:aa},Gn ((oH::M)++((qf rs fill).lns++(gv rs fill).lns)) p w-> ∃e:Rat,0<e/\ ∀d,0<d->d<=e->(gi (gv rs fill) p w).1=fi rs fill (aG p w d):=fun{w} hw=>by
  obtain⟨e1,a1,b1⟩:=Ae (t:=qf rs fill) fun l hl=>hw l (cJ _ (bU _ hl));obtain⟨e2,a2,b2⟩:=Ae (t:=gv rs fill) fun l hl=>hw l (cJ _ (cJ _ hl));obtain⟨e,c1,c2,c3⟩:=min2 a1 a2;refine⟨e,c1,fun d d0 d1=>?_⟩;rw[(b2 d d0 (by grind)).2,Ps hr (b1 d d0 (by grind)).1]
 constructor
 ·intro h
  obtain⟨w,w1,w2⟩:=Wh h okA;obtain⟨e,e0,he⟩:=same w1;have hger:mj rs fill p w b:=⟨e,e0,fun d d0 d1=>by rw[<-he d d0 d1,w2]⟩;by_cases h0:w=⟨0,0⟩
  ·have hf:jo (ER rs) p ⟨1,0⟩:=va hM (by simp) fun l hl hz=>by
    have:=w1 l (bU _ (aZ _ hl)) hz;rw[h0] at this;exact absurd (by unfold aa.dot;grind) this
   -- p lies on no line at all
   have hoff: ∀f∈ER rs,¬fm f.1 f.2 p:=fun f hf ⟨s,s0,s1,es⟩=>by
    obtain⟨m,h1,h2,h3⟩:=hM f hf;have hp:m.value p=0:=by rw[es,mf,h2,h3];grind
    have:=w1 m (bU _ (aZ _ h1)) hp;rw[h0] at this;exact this (by unfold aa.dot;grind)
   obtain⟨e3,a3,b3⟩:=zM (wq hr) p ⟨1,0⟩ ⟨1,0⟩;refine⟨⟨1,0⟩,hf,e3,a3,fun d d0 d1=>?_⟩;have hpb:fi rs fill p=b:=by
    have:=he e e0 dJ;rw[h0,show aG p ⟨0,0⟩ e=p by unfold aG;cases p;simp only[aa.mk.injEq];constructor<;>grind] at this;rw[<-this,<-w2,h0]
   rw[<-hpb];refine yE (q:=p) (p:=aG p ⟨1,0⟩ d) fun f hf a t a0 a1 t0 t1 h=>?_;have e4:aD p (aG p ⟨1,0⟩ d) t=aG p (aD ⟨1,0⟩ ⟨1,0⟩ 0) (t*d):=by rw[vS];unfold aD aG;simp only[aa.mk.injEq];constructor<;>grind
   rw[e4] at h;have:=bE (show 0<=1-t by grind) (bN d0);exact b3 f hf (hoff f hf) (t*d) 0 (bE t0 (bN d0)) (by grind) (by decide) (by decide) ⟨a,a0,a1,h.symm⟩
  ·exact⟨w,va hMA h0 w1,hger⟩
 ·intro h
  obtain⟨w,w1,w2,e,e0,he⟩:=(Wk hr hMA okA).1 h;obtain⟨e2,a2,b2⟩:=same w2;obtain⟨d,c1,c2,c3⟩:=min2 e0 a2;refine⟨w,Ly fun l hl=>w2 l (cJ _ (cJ _ hl)),?_⟩;rw[b2 d c1 c3,he d c1 c2]
end
def GJ{rs:List (List ZP)}(hr: ∀r∈rs,cB r){ls:List ab}(hl: ∀f∈bz rs,f.l∈ls):pk (o5 ls) (ER rs):=fun f hf=>by
 obtain⟨r,h1,h2⟩:=cR.1 hf;obtain⟨k,hk,rfl⟩:=bK.1 h2;have hk':=fV.1 hk;have he:ba (r.getD k (0,0)) (ci r k)∈bz rs:=cR.2 ⟨r,h1,vO hk'⟩;obtain⟨g,_,z1,z2,_⟩:=Bx ((hr r h1).ne k hk');refine⟨_,T6 (hl _ he),?_,?_⟩
 ·rcases Co (ba (r.getD k (0,0)) (ci r k)).l (r.getD k (0,0)).q with e|e<;>rw[e]
  ·exact z1
  ·rw[show(ba (r.getD k (0,0)) (ci r k)).l.value (r.getD k (0,0)).q=0 from z1];rfl
 ·rcases Co (ba (r.getD k (0,0)) (ci r k)).l (ci r k).q with e|e<;>rw[e]
  ·exact z2
  ·rw[show(ba (r.getD k (0,0)) (ci r k)).l.value (ci r k).q=0 from z2];rfl
section
variable {rs:List (List ZP)} {fill:Int} {L:List ab} {p:aa}
def N0(hr: ∀r∈rs,cB r)(h:yl L)(hM:pk L (ER rs)){vs:List aa}{q:aa->aa}(hv: ∀b,(∃v∈vs,fi rs fill (q v)=b)↔mD rs fill p b):kH (gv rs fill) p=if(vs.any fun v=>fi rs fill (q v))&&vs.all (fun v=>fi rs fill (q v)) then 2 else if vs.any fun v=>fi rs fill (q v) then 1 else 0:=by
 have hb:(gv rs fill).all ab.ok:=Tr.restrict_all ab.ok _ _ (Cg hr);have hd:=HN (p:=p) (fill:=fill) hr hM h.ok;have a1:(vs.any fun v=>fi rs fill (q v))=true↔mD rs fill p true:=by rw[<-hv,jQ]
 have a2:(vs.all fun v=>fi rs fill (q v))=true↔ ¬mD rs fill p false:=by
  rw[<-hv,cM];constructor
  ·rintro k ⟨v,v1,v2⟩;rw[k v v1] at v2;cases v2
  ·intro k v hv'
   cases e:fi rs fill (q v) with
   |true=>rfl
   |false=>exact absurd ⟨v,hv',e⟩ k
 have hs:=QT (p:=p) (fill:=fill) hr hM h.ok
 cases b1:vs.any fun v=>fi rs fill (q v) with
 |false=>
  have n1: ¬mD rs fill p true:=fun k=>by rw[a1.2 k] at b1;cases b1
  simp only[rQ,gV,if_false];exact(xJ hb).2 fun k=>n1 ((hd true).1 k)
 |true=>
  cases b2:vs.all fun v=>fi rs fill (q v) with
  |true=>
   simp only[Bool.and_self,if_true];exact(zy hb).2 fun k=>a2.1 b2 ((hd false).1 k)
  |false=>
   simp only[oT,gV,if_false,if_true];have n2:mD rs fill p false:=Classical.byContradiction fun k=>by rw[a2.2 k] at b2;cases b2
   have c0:kH (gv rs fill) p≠0:=fun k=>(xJ hb).1 k ((hd true).2 (a1.1 b1));have c2:kH (gv rs fill) p≠2:=fun k=>(zy hb).1 k ((hd false).2 n2);rcases Hz (gv rs fill) p with k|k|k
   ·exact absurd k c0
   ·exact k
   ·exact absurd k c2
end
end Go.Sx
end
