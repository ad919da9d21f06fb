import Derived.Test.YtmhfhhiaecjhiaaGreatDoorBr15
set_option linter.all false
set_option maxHeartbeats 2000000
set_option maxRecDepth 100000
section
namespace Go.Sx
open Go Go.Proofs Tryz
variable {GB:Gh}
def ES{l:ab}: ∀{c:List ab} {v:ao},(o9 l c v).2=true->fA l c v=some (o9 l c v).1
 |[],v,_=>rfl
 |m::t,v,h=>by
  rw[o9] at h⊢;rw[fA];split
  .rename_i e;rw[if_pos e] at h;exact ES h
  .rename_i e
   rw[if_neg e] at h;split
   .rename_i k;rw[if_pos k] at h;exact ES h
   .rename_i k;rw[if_neg k] at h;cases h
def LW{v:ao}(h:v.Pos):v.ins (Bj v):=by
 obtain⟨lo,hi,nl,nh⟩:=v;unfold ao.Pos at h;unfold Bj ao.ins
 cases nl<;>cases nh<;>simp at* <;>grind
def KI{p v:aa}: ∀{c:List ab} {s:Rat},0<s->0<uO p v c s/\uO p v c s<=s/\ ∀m∈c,0<m.value p->m.nor.dot v<0->uO p v c s<= -(m.value p/m.nor.dot v)/2
 |[],s,h=>⟨h,gU,fun m hm=>by cases hm⟩
 |m::t,s,h=>by
  have hk:m.value (dB p v ((1:Int):Rat))-m.value p=m.nor.dot v:=by rw[jF];grind
  have key:0<xD p v m s/\xD p v m s<=s/\(0<m.value p->m.nor.dot v<0->xD p v m s<= -(m.value p/m.nor.dot v)/2):=by
   unfold xD Bt;simp only[hk,lw,pI,Aq];split
   .rename_i e;exact⟨h,gU,fun _ k=>by rw[e] at k;exact absurd k (by decide)⟩
   .split
    .rename_i e;exact⟨h,gU,fun k=>by rw[e] at k;exact absurd k (by decide)⟩
    .split
     .rename_i e
      split
      .exact⟨by grind,by grind,fun _ _=>gU⟩
      .exact⟨h,gU,fun _ _=>by grind⟩
     .rename_i e
      exact⟨h,gU,fun k1 k2=>absurd (Hu k2 k1) e⟩
  obtain⟨a1,a2,a3⟩:=key;obtain⟨b1,b2,b3⟩:=KI (p:=p) (v:=v) (c:=t) a1;rw[uO];refine⟨b1,by grind,fun u hu k1 k2=>?_⟩;rcases aU.1 hu with rfl|hu
  .have:=a3 k1 k2;grind
  .exact b3 u hu k1 k2
def ZQ{c:List ab}{p v:aa}(h: ∀m∈c,0<m.value p\/(m.value p=0/\0<m.nor.dot v)):d8 c (xz c p v):=fun m hm=>by
 obtain⟨s0,_,s2⟩:=KI (p:=p) (v:=v) (c:=c) (s:=((1:Int):Rat)) (by decide);unfold xz;generalize uO p v c ((1:Int):Rat)=s at*;rw[jF];rcases h m hm with k|⟨k,k2⟩
 .by_cases q:m.nor.dot v<0
  .have h3:=s2 m hm k q
   have h4:=Hu q k;have e:m.value p/m.nor.dot v*m.nor.dot v=m.value p:=by grind
   generalize m.value p/m.nor.dot v=z at*;have h5:=eO (a:= -z/2-s) (b:= -m.nor.dot v) (by grind) (by grind);grind
  .have:=eO (fQ s0) (show 0<=m.nor.dot v by grind)
   grind
 .have:=fp s0 k2
  grind
def awR{m:ab}(h:m.Ne):0<m.nor.dot (oe m.dir):=by
 have:=ow h;have e:m.nor.dot (oe m.dir)=m.nor.dot m.nor:=by unfold oe ab.dir ab.nor aa.dot;grind
 rw[e];exact this
def UK{c:List ab}(hok: ∀m∈c,m.ok)(hb:r6 c=true):d8 c (vn c c):=by
 have key: ∀t:List ab,(∀m∈t,m∈c)->(∃m∈t,(fA m c ao.all).isSome=true)->d8 c (vn c t):=by
  intro t
  induction t with
  |nil=>rintro _ ⟨m,hm,_⟩;cases hm
  |cons m t ih=>
   intro hs hx;rw[vn];split
   .rename_i e
    obtain⟨h1,h2⟩:=xm m c _ _ uL (ES e);have h3:=((h2 _).1 (LW h1)).2;have hmo:=(hok m (hs m aQ)).ne;refine ZQ fun u hu=>?_;by_cases q:u=m
    .subst q;exact .inr ⟨mD hmo _,awR hmo⟩
    .exact .inl (h3 u hu q)
   .rename_i e
    refine ih (fun u hu=>hs u (aJ _ hu)) ?_;obtain⟨u,hu,h⟩:=hx;rcases aU.1 hu with rfl|hu
    .rw[HR] at e;exact absurd h e
    .exact⟨u,hu,h⟩
 unfold r6 at hb;rw[iR,List.isEmpty_iff,mQ] at hb;rcases hb with rfl|⟨m,hm,h⟩
 .exact fun m hm=>by cases hm
 .exact key c (fun _ h=>h) ⟨m,hm,h⟩
def d8.seg{c:List ab}{q p:aa}{e:Rat}(hq:d8 c q)(hp:d8 c p)(h0:0<=e)(h1:e<=1):d8 c (bG q p e):=fun m hm=>by
 rw[jD];have a:=hq m hm;have b:=hp m hm;by_cases z:e=0
 .subst z;grind
 .have k1:=fp (show 0<e by grind) b
  have k2:=eO (show 0<=1-e by grind) (fQ a);grind
def d8.open{c:List ab}{q:aa}(u:aa)(h:d8 c q): ∃e:Rat,0<e/\ ∀d,0<=d->d<=e->d8 c (dB q u d):=by
 have hd:bH (c.map fun m=>(⟨m,ao.all⟩:aH)) q:=fun s hs=>by
  obtain⟨m,hm,rfl⟩:=bX.1 hs;exact h m hm
 obtain⟨e,he,ho⟩:=hd.open u;exact⟨e,he,fun d d0 d1 m hm=>ho d d0 d1 ⟨m,ao.all⟩ (fZ hm)⟩
def Ap(l:ab)(t u:Rat):l.at (t+u)=dB (l.at t) l.dir u:=by
 rw[<-tg,<-tg];unfold dB;simp only[aa.mk.injEq];constructor<;>grind
def XJ(l:ab)(a b s:Rat):bG (l.at a) (l.at b) s=l.at (a+s*(b-a)):=by
 rw[<-tg,<-tg,<-tg];unfold bG dB;simp only[aa.mk.injEq];constructor<;>grind
def ID{l:ab}(h:l.Ne)(t:Rat):dH l (l.at t)=t:=by
 obtain⟨q,_,hq⟩:=yp h;have h2:=ow h;have e0:l.dir.dot l.dir=l.nor.dot l.nor:=by unfold ab.dir ab.nor aa.dot;grind
 have e1:(l.at t).dot l.dir=t*l.dir.dot l.dir:=by
  rw[<-tg,hq];unfold dB ab.dir aa.dot;grind
 unfold dH;rw[e1];rw[<-e0] at h2;generalize l.dir.dot l.dir=d at*;have:d≠0:=by grind
 grind
def Da{l:ab}(h:l.Ne){p:aa}(hp:l.value p=0):l.at (dH l p)=p:=by
 obtain⟨t,rfl⟩:=Bx h hp;rw[ID h]
def GT(a:Int){g:Nat}(h:g∣a.natAbs):(g:Int)*zv (decide (a<0)) (a.natAbs/g)=a:=by
 obtain⟨k,hk⟩:=h;by_cases g0:g=0
 .subst g0;simp at hk⊢;omega
 have e:a.natAbs/g=k:=by rw[hk];exact nR k (eK g0)
 rw[e];unfold zv;have hc:((g*k:Nat):Int)=(g:Int)*(k:Int):=by push_cast;rfl
 by_cases n:a<0
 .simp only[n,decide_true,if_true];rw[Int.mul_neg];omega
 .simp only[n,decide_false];show(g:Int)*(k:Int)=a;omega
def Qg{a b c:Int}(h: ¬(a=0/\b=0)): ∃g:Int,0<g/\g*(ge a b c).a=a/\g*(ge a b c).b=b/\g*(ge a b c).c=c:=by
 have hg:0<Nat.gcd (Nat.gcd a.natAbs b.natAbs) c.natAbs:=kZ _ (eK fun e=>h ⟨iU.1 (jU e),iU.1 (jY e)⟩);refine⟨(Nat.gcd (Nat.gcd a.natAbs b.natAbs) c.natAbs:Nat),by omega,?_,?_,?_⟩
 .exact GT a (nK (iW _ _) (iW _ _))
 .exact GT b (nK (iW _ _) (jW _ _))
 .exact GT c (jW _ _)
def I2{v w:ZP}(h:v≠w): ∃g:Rat,0<g/\(ja v.1 v.2 w.1 w.2).value v.q=0/\(ja v.1 v.2 w.1 w.2).value w.q=0/\w.q=dB v.q (ja v.1 v.2 w.1 w.2).dir g:=by
 obtain⟨m,n⟩:=v;obtain⟨p,q⟩:=w;have hne: ¬(jd n q=0/\ji m p=0):=fun e=>h (by unfold jd ji at e;rw[Prod.mk.injEq];omega);obtain⟨g,g0,ga,gb,gc⟩:=Qg (c:=oy m n p q) hne;dsimp only;unfold ja;generalize ge (jd n q) (ji m p) (oy m n p q)=l at*;have g0':(0:Rat)<(g:Rat):=by exact_mod_cast g0
 have ra:(g:Rat)*(l.a:Rat)= -((q:Rat)-(n:Rat)):=by rw[<-cK,ga];unfold jd;push_cast;grind
 have rb:(g:Rat)*(l.b:Rat)=(p:Rat)-(m:Rat):=by rw[<-cK,gb];unfold ji;push_cast;grind
 have rc:(g:Rat)*(l.c:Rat)= -(-((q:Rat)-(n:Rat))*(m:Rat)+((p:Rat)-(m:Rat))*(n:Rat)):=by rw[<-cK,gc];unfold oy jd ji;push_cast;grind
 have z: ∀x:Rat,(g:Rat)*x=0->x=0:=fun x hx=>by
  rcases kL.1 hx with e|e
  .rw[e] at g0';exact absurd g0' (by decide)
  .exact e
 refine⟨g,g0',z _ ?_,z _ ?_,?_⟩
 .rw[lj];unfold ZP.q iP;dsimp only;grind
 .rw[lj];unfold ZP.q iP;dsimp only;grind
 .unfold ZP.q iP dB ab.dir;simp only[aa.mk.injEq];constructor<;>grind
def Dn{v w:ZP}(h:v≠w)(ho:(di v w).l.ok):(di v w).l.at (di v w).v.lo=v.q/\(di v w).l.at (di v w).v.hi=w.q/\(di v w).v.lo<(di v w).v.hi:=by
 obtain⟨g,g0,h1,h2,h3⟩:=I2 h;unfold di at ho⊢;dsimp only at ho⊢;generalize ja v.1 v.2 w.1 w.2=l at*;have e1:=Da ho.ne h1;have e2:=Da ho.ne h2;refine⟨e1,e2,?_⟩;have:dH l w.q=dH l v.q+g:=by
  have e3:=Ap l (dH l v.q) g;rw[e1,<-h3] at e3;rw[<-e3,ID ho.ne]
 rw[this];grind
def IA{r:List ZP}{k:Nat}: ∀{n:Nat},k<n->di (r.getD k (0,0)) (et r k)∈kt r n
 |n+1,h=>by
  rw[kt];by_cases e:k=n
  .subst e;exact dX _ (aY.2 J)
  .exact cV _ (IA (by omega))
def WY{r:List ZP}(hr:dz r){c:List ab}(hc: ∀e∈ij r,∀t,e.v.ins t-> ¬d8 c (e.l.at t)){q p:aa}(hq:d8 c q)(hp:d8 c p):vV r q p:=fun k hk s t s0 s1 t0 t1 he=>by
 have hm:di (r.getD k (0,0)) (et r k)∈ij r:=IA hk;have ho:=((ud hr).2 _ hm).ok;obtain⟨e1,e2,e3⟩:=Dn (hr.ne k hk) ho;have hno:=hc _ hm;have hx:=hq.seg hp t0 t1;rw[<-he,<-e1,<-e2,XJ] at hx;have hv: ∀u,(di (r.getD k (0,0)) (et r k)).v.lo<u->u<(di (r.getD k (0,0)) (et r k)).v.hi-> ¬d8 c ((di (r.getD k (0,0)) (et r k)).l.at u):=fun u h1 h2=>hno u ⟨.inr h1, .inr h2⟩;generalize di (r.getD k (0,0)) (et r k)=e at*;have hb:=FM s0 s1 (gU) (fQ e3) (fQ e3) (gU);generalize e.v.lo+s*(e.v.hi-e.v.lo)=u at*;obtain⟨d,d0,hd⟩:=hx.open e.l.dir;obtain⟨d',d0',hd'⟩:=hx.open (kP e.l.dir);by_cases h1:e.v.lo<u
 .by_cases h2:u<e.v.hi
  .exact hv u h1 h2 hx
  .have eu:u=e.v.hi:=by grind
   obtain⟨z,z0,z1,z2⟩: ∃z:Rat,0<z/\z<=d'/\z<e.v.hi-e.v.lo:=by
    by_cases k:d'<(e.v.hi-e.v.lo)/2
    .exact⟨d',d0',gU,by grind⟩
    .exact⟨(e.v.hi-e.v.lo)/2,by grind,by grind,by grind⟩
   refine hv (u+ -z) (by grind) (by grind) ?_;rw[Ap];have:=hd' z (fQ z0) z1;have e5:dB (e.l.at u) (kP e.l.dir) z=dB (e.l.at u) e.l.dir (-z):=by unfold dB kP;simp only[aa.mk.injEq];constructor<;>grind
   rw[e5] at this;exact this
 .have eu:u=e.v.lo:=by grind
  obtain⟨z,z0,z1,z2⟩: ∃z:Rat,0<z/\z<=d/\z<e.v.hi-e.v.lo:=by
   by_cases k:d<(e.v.hi-e.v.lo)/2
   .exact⟨d,d0,gU,by grind⟩
   .exact⟨(e.v.hi-e.v.lo)/2,by grind,by grind,by grind⟩
  refine hv (u+z) (by grind) (by grind) ?_;rw[Ap];exact hd z (fQ z0) z1
def Lv{rs:List (List ZP)}{fill:Int}(hr: ∀r∈rs,dz r){c:List ab}(hc: ∀e∈cP rs,∀t,e.v.ins t-> ¬d8 c (e.l.at t)){q p:aa}(hq:d8 c q)(hp:d8 c p):jp rs fill q=jp rs fill p:=by
 have key: ∀(rs:List (List ZP)),(∀r∈rs,dz r)->(∀e∈cP rs,∀t,e.v.ins t-> ¬d8 c (e.l.at t))-> ∀n:Int,rs.foldl (fun n r=>n+oh r q) n=rs.foldl (fun n r=>n+oh r p) n:=by
  intro rs
  induction rs with
  |nil=>intro _ _ n;rfl
  |cons r t ih=>
   intro hr hc n;rw[dY,dY,<-at8 (WY (hr r aQ) (fun e he=>hc e (gQ.2 ⟨r,aQ,he⟩)) hq hp)];exact ih (fun r h=>hr r (aJ _ h)) (fun e he=>hc e (by obtain⟨r,h1,h2⟩:=gQ.1 he;exact gQ.2 ⟨r,aJ _ h1,h2⟩)) _
 unfold jp;rw[key rs hr hc]
def xp{cuts:List Rat}(h:cuts.Pairwise (· < ·)){i j:Nat}(hij:i<j)(hj:j<cuts.length):cuts.getD i 0<cuts.getD j 0:=by
 rw[aK,aK,aZ hj,aZ (by omega)];exact pL.1 h i j (by omega) hj hij
def Ft{cuts:List Rat}{marks:List Bool}(h:cuts.Pairwise (· < ·)): ∀{k:Nat},∀v∈gw cuts marks (k+1),k<cuts.length->(v.nh=false/\v.hi<=cuts.getD k 0)/\(v.nl=true\/v.lo<cuts.getD k 0)
 |k,v,hv,hk=>by
  have hg:((fI cuts k).nh=false/\(fI cuts k).hi<=cuts.getD k 0)/\((fI cuts k).nl=true\/(fI cuts k).lo<cuts.getD k 0):=by
   unfold fI;dsimp only;refine⟨⟨by simp;omega,by rw[if_pos hk];exact gU⟩,?_⟩;by_cases z:k=0
   .left;simp[z]
   .right;rw[if_neg z];exact xp h (by omega) hk
  have hold: ∀v∈gw cuts marks k,(v.nh=false/\v.hi<=cuts.getD k 0)/\(v.nl=true\/v.lo<cuts.getD k 0):=fun v hv=>by
   cases k with
   |zero=>cases hv
   |succ k=>
    have ih:=Ft h v hv (by omega);have:=xp h (Nat.lt_succ_self k) hk;exact⟨⟨ih.1.1,by have:=ih.1.2;grind⟩,ih.2.imp id fun z=>by grind⟩
  rw[gw] at hv;split at hv
  .split at hv
   .split at hv
    .rename_i w hw
     rcases bS.1 hv with q|q
     .exact hold v ((rT _).subset q)
     .rw[aY] at q;subst q
      exact⟨hg.1,(hold w (pJ hw)).2⟩
    .rcases bS.1 hv with q|q
     .exact hold v q
     .rw[aY] at q;subst q;exact hg
   .rcases bS.1 hv with q|q
    .exact hold v q
    .rw[aY] at q;subst q;exact hg
  .exact hold v hv
def O2{cuts:List Rat}{marks:List Bool}(h:cuts.Pairwise (· < ·)){x:Rat}{i:Nat}(hm:marks.getD i false=true)(hx:(fI cuts i).ins x): ∀{k:Nat},k<=cuts.length+1->i<k-> ∃v∈gw cuts marks k,v.ins x
 |k+1,hk,hi=>by
  by_cases e:i=k
  .subst e
   rw[gw,if_pos hm];split
   .rename_i h0
    split
    .rename_i w hw
     refine⟨_,dX _ (aY.2 J),?_,hx.2⟩;obtain⟨j,rfl⟩: ∃j,i=j+1:=⟨i-1,by omega⟩;have:=(Ft h w (pJ hw) (by omega)).2;have hl:=hx.1;unfold fI at hl;dsimp only at hl;rw[if_neg (by omega),show j+1-1=j by omega] at hl;have hl':cuts.getD j 0<x:=hl.resolve_left (by simp);exact this.imp id fun z=>by show w.lo<x;grind
    .exact⟨_,dX _ (aY.2 J),hx⟩
   .exact⟨_,dX _ (aY.2 J),hx⟩
  .obtain⟨v,hv,hvx⟩:=O2 h hm hx (k:=k) (by omega) (by omega)
   rw[gw];split
   .split
    .split
     .rename_i w hw
      by_cases q:v=w
      .subst q
       refine⟨_,dX _ (aY.2 J),hvx.1,?_⟩;show(fI cuts k).nh=true\/x<(fI cuts k).hi;obtain⟨j,rfl⟩: ∃j,k=j+1:=⟨k-1,by omega⟩;obtain⟨⟨b1,b2⟩,_⟩:=Ft h v hv (by omega);have hh:=hvx.2.resolve_left (by rw[b1];decide);unfold fI;dsimp only;by_cases z:j+1<cuts.length
       .right;rw[if_pos z];have:=xp h (Nat.lt_succ_self j) z;grind
       .left;simp;omega
      .refine⟨v,cV _ ?_,hvx⟩
       obtain⟨l,hl⟩:=List.getLast?_eq_some_iff.1 hw;rw[hl] at hv⊢;rw[List.dropLast_concat];rcases bS.1 hv with z|z
       .exact z
       .rw[aY] at z;exact absurd z q
     .exact⟨v,cV _ hv,hvx⟩
    .exact⟨v,cV _ hv,hvx⟩
   .exact⟨v,hv,hvx⟩
def PH: ∀{l:List Rat} {i:Nat},i+1<l.length->(gP l).getD i 0=(l.getD i 0+l.getD (i+1) 0)/2
 |[],_,h=>by simp at h
 |[_],_,h=>by simp at h
 |a::b::t,0,_=>by simp[gP]
 |a::b::t,i+1,h=>by
  have:=PH (l:=b::t) (i:=i) (by simp at h⊢;omega);rw[gP,kU,this];simp only[kU]
def AW: ∀(l:List Rat) (a:Rat),(gP (a::l)).length=l.length
 |[],_=>rfl
 |b::t,a=>by rw[gP,bY,AW t b,bY]
def av2{cuts:List Rat}(h:cuts.Pairwise (· < ·)){i j:Nat}(hi:i<=cuts.length)(hj:j<cuts.length):(cuts.getD j 0<(gg cuts).getD i 0↔j<i)/\cuts.getD j 0≠(gg cuts).getD i 0:=by
 have mono: ∀{a b:Nat},a<=b->b<cuts.length->cuts.getD a 0<=cuts.getD b 0:=fun{a b} hab hb=>by
  by_cases e:a=b
  .subst e;exact gU
  .exact fQ (xp h (by omega) hb)
 cases cuts with
 |nil=>simp at hj
 |cons a t=>
  have hl:(a::t).length=t.length+1:=J;rw[gg]
  cases i with
  |zero=>
   rw[sS];have:=mono (aN j) hj;rw[sS] at this;constructor
   .constructor
    .intro q;exfalso;grind
    .intro q;omega
   .intro q;grind
  |succ i=>
   rw[kU];by_cases e:i<t.length
   .have e1:(gP (a::t)++[(a::t).getLast (by simp)+1]).getD i 0=((a::t).getD i 0+(a::t).getD (i+1) 0)/2:=by
     rw[<-PH (by omega),aK,aK,eX (by rw[AW];exact e)]
    rw[e1];have h1:=xp h (Nat.lt_succ_self i) (by omega);by_cases q:j<=i
    .have:=mono q (by omega)
     constructor
     .exact⟨fun _=>by omega,fun _=>by grind⟩
     .grind
    .have:=mono (show i+1<=j by omega) hj
     constructor
     .exact⟨fun _=>by exfalso;grind,fun _=>by omega⟩
     .grind
   .have ei:i=t.length:=by omega
    have e1:(gP (a::t)++[(a::t).getLast (by simp)+1]).getD i 0=(a::t).getLast (by simp)+1:=by
     rw[aK,gK (by rw[AW];omega),AW,ei];simp
    rw[e1];have:=Oe h (by simp) ((a::t).getD j 0) (by rw[aK,aZ hj];exact iZ _);constructor
    .exact⟨fun _=>by omega,fun _=>by grind⟩
    .grind
def IY(x:Rat): ∀{cuts:List Rat},cuts.Pairwise (· < ·)-> ∃i,i<=cuts.length/\ ∀j,j<cuts.length->(cuts.getD j 0<x↔j<i)
 |[],_=>⟨0,bQ _,fun j hj=>by simp at hj⟩
 |a::t,h=>by
  rw[bZ] at h;by_cases q:a<x
  .obtain⟨i,h1,h2⟩:=IY x h.2
   refine⟨i+1,by simp;exact h1,fun j hj=>?_⟩
   cases j with
   |zero=>simp[q]
   |succ j=>rw[kU,h2 j (by simpa using hj)];omega
  .refine⟨0,aN _,fun j hj=>⟨fun k=>?_,fun k=>by omega⟩⟩
   exfalso
   cases j with
   |zero=>simp at k;grind
   |succ j=>
    rw[kU] at k;have hj':j<t.length:=by simpa using hj
    have:=h.1 (t.getD j 0) (by rw[aK,aZ hj'];exact iZ _);grind
def Qh{out:List Rat}{s:ao}{y:Rat}:y∈gv out s↔y∈out\/(s.nl=false/\y=s.lo)\/(s.nh=false/\y=s.hi):=by
 unfold gv
 cases e1:s.nl<;>cases e2:s.nh<;>simp[uT]<;>grind
def w7{v:ao}{x:Rat}:mf [v] x=true↔v.ins x:=by
 unfold mf y6 y6 ao.ins;have h1:=Ba x v.lo;have h2:=Aq x v.hi;rw[decide_eq_true_eq]
 cases e1:v.nl<;>cases e2:v.nh<;>simp only[if_true,cM,if_false,false_or,true_or,h1,h2,and_true,true_and,show(0:Int)<1 from by decide,show(-1:Int)<0 from by decide]<;>grind
def JR{cuts:List Rat}{v:ao}(hl:v.nl=true\/v.lo∈cuts)(hh:v.nh=true\/v.hi∈cuts){x g:Rat}(ho: ∀u∈cuts,(u<x↔u<g)/\u≠x/\u≠g)(h:v.ins x):v.ins g:=by
 refine⟨?_,?_⟩
 .rcases hl with e|e
  .exact .inl e
  .rcases h.1 with k|k
   .exact .inl k
   .exact .inr ((ho _ e).1.1 k)
 .rcases hh with e|e
  .exact .inl e
  .rcases h.2 with k|k
   .exact .inl k
   .obtain⟨a,b,c⟩:=ho _ e
    right;by_cases q:v.hi<g
    .have:=a.2 q;grind
    .grind
def TM{v w:ao}{t:Rat}(hv:v.ins t)(hw:w.ins t): ∃z∈gO 2 [v] [w],z.ins t:=by
 have hmem: ∀y,y∈f7 ([v]++[w])↔((v.nl=false/\y=v.lo)\/(v.nh=false/\y=v.hi))\/(w.nl=false/\y=w.lo)\/(w.nh=false/\y=w.hi):=fun y=>by
  show y∈gv (gv [] v) w↔_;rw[Qh,Qh];simp
 have hasc:=(OL ([v]++[w])).1;have h0: ∀u∈f7 ([v]++[w]),u≠t:=fun u hu e=>by
  subst e;rcases(hmem u).1 hu with(⟨a,b⟩|⟨a,b⟩)|⟨a,b⟩|⟨a,b⟩
  .have:=hv.1.resolve_left (by rw[a];decide);grind
  .have:=hv.2.resolve_left (by rw[a];decide);grind
  .have:=hw.1.resolve_left (by rw[a];decide);grind
  .have:=hw.2.resolve_left (by rw[a];decide);grind
 have l1:v.nl=true\/v.lo∈f7 ([v]++[w]):=by
  cases e:v.nl with
  |true=>exact .inl J
  |false=>exact .inr ((hmem _).2 (.inl (.inl ⟨e,J⟩)))
 have l2:v.nh=true\/v.hi∈f7 ([v]++[w]):=by
  cases e:v.nh with
  |true=>exact .inl J
  |false=>exact .inr ((hmem _).2 (.inl (.inr ⟨e,J⟩)))
 have l3:w.nl=true\/w.lo∈f7 ([v]++[w]):=by
  cases e:w.nl with
  |true=>exact .inl J
  |false=>exact .inr ((hmem _).2 (.inr (.inl ⟨e,J⟩)))
 have l4:w.nh=true\/w.hi∈f7 ([v]++[w]):=by
  cases e:w.nh with
  |true=>exact .inl J
  |false=>exact .inr ((hmem _).2 (.inr (.inr ⟨e,J⟩)))
 unfold gO km;generalize f7 ([v]++[w])=cuts at*;obtain⟨i,hi,ho⟩:=IY t hasc;have hord: ∀u∈cuts,(u<t↔u<(gg cuts).getD i 0)/\u≠t/\u≠(gg cuts).getD i 0:=fun u hu=>by
  obtain⟨j,hj,e⟩:=lV.1 hu;have e':cuts.getD j 0=u:=by rw[aK,aZ hj];exact e
  obtain⟨g1,g2⟩:=av2 hasc hi hj;have:=ho j hj;rw[e'] at g1 g2 this;exact⟨this.trans g1.symm,h0 u hu,g2⟩
 have hlen:(gg cuts).length=cuts.length+1:=Kk;refine O2 hasc (i:=i) ?_ ?_ (by rw[aX,hlen];exact bQ _) (by rw[aX,hlen];omega)
 .rw[aK,fY,aZ (by omega)]
  show Ex 2 (mf [v] _) (mf [w] _)=true;have e:(gg cuts)[i]'(by omega)=(gg cuts).getD i 0:=by rw[aK,aZ (by omega)];rfl
  rw[e,w7.2 (JR l1 l2 hord hv),w7.2 (JR l3 l4 hord hw)];rfl
 .unfold fI ao.ins
  dsimp only;refine⟨?_,?_⟩
  .by_cases z:i=0
   .left;simp[z]
   .right;rw[if_neg z];exact(ho (i-1) (by omega)).2 (by omega)
  .by_cases z:i=cuts.length
   .left;simp[z]
   .right
    rw[if_pos (by omega)];have a:=ho i (by omega);have b:=h0 (cuts.getD i 0) (by rw[aK,aZ (by omega)];exact iZ _);have c: ¬cuts.getD i 0<t:=fun k=>by have:=a.1 k;omega
    grind
def Ei{l m:ab}(h:crossI l m=0):l.cutK m=0:=by
 have e:l.cutK m= -(crossI l m:Rat):=by unfold ab.cutK ab.nor ab.dir aa.dot crossI;push_cast;grind
 rw[e,h];rfl
def OS{k:Rat}{side:Int}(hs:side=1\/side= -1)(h:0<(side:Rat)*k):k.num.sign=side:=by
 rcases hs with rfl|rfl
 .exact(og k).2 (by grind)
 .have:k.num.sign<0:=(n8 k).2 (by grind)
  have:=qQ k.num;omega
def aul{f:aH}{m:ab}{side:Int}(hs:side=1\/side= -1)(hl:f.l.Ne){t:Rat}(ht:f.v.ins t)(hm:0<(side:Rat)*m.value (f.l.at t)): ∃g∈i0 f m side,g.l=f.l/\g.v.ins t:=by
 have hv:=kE f.l m t;have ho: ¬sD f.l m=true:=fun e=>by
  unfold sD at e;rw[decide_eq_true_eq,lw] at e;rw[Ei e.1,show f.l.cutC m=m.value f.l.base from J,e.2] at hv;rw[hv] at hm;grind
 unfold i0;rw[if_neg ho];have hh: ∃w,sE f.l m side=[w]/\w.ins t:=by
  unfold sE;by_cases hc:crossI f.l m=0
  .rw[if_pos hc]
   rw[Ei hc,show f.l.cutC m=m.value f.l.base from J] at hv;rw[if_pos (OS hs (by rw[hv] at hm;grind))];exact⟨_,J,aAD t⟩
  .rw[if_neg hc]
   have hp:=wk hl hc;have hK:f.l.cutK m≠0:=fun e=>by
    have e2:f.l.cutK m= -(crossI f.l m:Rat):=by unfold ab.cutK ab.nor ab.dir aa.dot crossI;push_cast;grind
    rw[e2] at e;have:(crossI f.l m:Rat)=0:=by grind
    exact hc (dV.1 this)
   generalize hx:dH f.l (gG f.l m)=x at*;have hv2: ∀u,m.value (f.l.at u)=f.l.cutK m*(u-x):=fun u=>by rw[kE,hp];grind
   rw[hv2] at hm;have e1:m.value (f.l.at (x+1))=f.l.cutK m:=by rw[hv2];grind
   rw[e1];generalize f.l.cutK m=K at*;by_cases q:K.num.sign=side
   .rw[if_pos q]
    refine⟨_,J, .inr ?_, .inl J⟩;show x<t;rcases hs with rfl|rfl
    .have:=(og K).1 q
     have:=(wI this).1 (show 0<K*(t-x) by grind);grind
    .have:=(n8 K).1 (by omega)
     have:=(H3 this).1 (show K*(t-x)<0 by grind);grind
   .rw[if_neg q]
    refine⟨_,J, .inl J, .inr ?_⟩;show t<x;have h3:=mC K;rcases hs with rfl|rfl
    .have kn:K<0:=by
      rcases h3 with h|h|h
      .exact absurd h hK
      .exact absurd ((og K).2 h) q
      .exact h
     have:=(H3 kn (b:=x-t)).1 (by grind);grind
    .have kp:0<K:=by
      rcases h3 with h|h|h
      .exact absurd h hK
      .exact h
      .exact absurd (by have:=(n8 K).2 h;have:=qQ K.num;omega) q
     have:=(wI kp (b:=x-t)).1 (by grind);grind
 obtain⟨w,e,hw⟩:=hh;rw[e];obtain⟨z,hz,hzt⟩:=TM ht hw;exact⟨⟨f.l,z⟩,fZ hz,J,hzt⟩
def Dc(E:List aH)(c:List ab)(l:List aH):Prop:= ∀e∈E,∀t,e.v.ins t->d8 c (e.l.at t)-> ∃f∈l,f.l=e.l/\f.v.ins t
def Dc.split{E l:List aH}{c:List ab}(h:Dc E c l)(hE: ∀e∈E,e.l.Ne){m:ab}{side:Int}(hs:side=1\/side= -1){m':ab}(hm': ∀p,m'.value p=(side:Rat)*m.value p):Dc E (c++[m']) (l.flatMap fun g=>i0 g m side):=fun e he t ht hin=>by
 obtain⟨h1,h2⟩:=Fg.1 hin;obtain⟨f,hf,ef,hft⟩:=h e he t ht h1;rw[hm'] at h2;obtain⟨g,hg,eg,hgt⟩:=aul (f:=f) hs (by rw[ef];exact hE e he) hft (by rw[ef];exact h2);exact⟨g,gQ.2 ⟨f,hf,hg⟩,by rw[eg,ef],hgt⟩
def G9{acc:aa->Bool}{E:List aH}(hE: ∀e∈E,e.l.Ne)(ha: ∀(c:List ab) (q p:aa),(∀e∈E,∀t,e.v.ins t-> ¬d8 c (e.l.at t))->d8 c q->d8 c p->acc q=acc p): ∀{n:Nat} {l:List aH} {c:List ab} {p:aa},(∀f∈l,lc f)->lh n l->(∀m∈c,m.ok)->Dc E c l->d8 c p->gF (iu acc n l c).lns p->(iu acc n l c).val p=acc p
 |n,[],c,p,_,_,hc,hcov,hp,_=>by
  have e:iu acc n [] c= .leaf (acc (vn c c)):=by cases n<;>rfl
  rw[e,Tr.val];exact ha c _ _ (fun e he t ht hin=>by obtain⟨f,hf,_⟩:=hcov e he t ht hin;cases hf) (UK hc ((Jy hc).2 ⟨p,hp⟩)) hp
 |0,f::t,_,_,_,hf,_,_,_,_=>by
  obtain⟨K,hK,hs⟩:=hf;obtain⟨m,hm,_⟩:=hs f aQ;have:K=[]:=bL (by omega);rw[this] at hm;cases hm
 |n+1,f::t,c,p,hok,hf,hc,hcov,hp,hoff=>by
  have fo:=hok f aQ;have hok': ∀side,∀g∈(f::t).flatMap fun g=>i0 g f.l side,lc g:=fun side g hg=>by
   obtain⟨q,hq,hg⟩:=gQ.1 hg;exact(BY (hok q hq) fo.lb g hg).1
  rw[iu] at hoff⊢;by_cases q:0<f.l.value p
  .rw[Tr.val_pos q]
   exact G9 hE ha (hok' 1) (hf.split hok) (KC hc fo.ok) (hcov.split hE (.inl J) fun p=>by grind) (Fg.2 ⟨hp,q⟩) hoff.x
  .rw[Tr.val_neg q]
   have:=hoff.l;exact G9 hE ha (hok' (-1)) (hf.split hok) (KC hc fo.ok.rev) (hcov.split hE (.inr J) fun p=>by rw[gA];grind) (Fg.2 ⟨hp,by rw[gA];grind⟩) hoff.y
def R9{rs:List (List ZP)}{fill:Int}(hr: ∀r∈rs,dz r){p:aa}(ho:gF (oo rs fill).lns p):(iB rs fill).val p=jp rs fill p:=by
 obtain⟨h1,h2⟩:=qI hr;have hok:(oo rs fill).all ab.ok:=qa fun f hf=>(h2 f hf).ok;unfold iB;rw[Tr.val_restrict _ _ _ hok cx.nil (fun s hs=>by cases hs) ho];unfold oo at ho⊢;refine G9 (E:=cP rs) (fun e he=>(h2 e he).ok.ne) (fun c q p hno hq hp=>Lv hr hno hq hp) h2 ?_ (fun m hm=>by cases hm) (fun e he t ht _=>⟨e,he,J,ht⟩) (fun m hm=>by cases hm) ho;exact⟨(cP rs).map (·.l),by rw[aX];exact bQ _,fun f hf=>⟨f.l,fZ hf, .inl J⟩⟩
structure CJ where
 ax:Rat
 ay:Rat
 ac:Rat
def CJ.ev(g:CJ)(p:aa):Rat:=g.ax*p.x+g.ay*p.y+g.ac
def CJ.li(g:CJ)(u:aa):Rat:=g.ax*u.x+g.ay*u.y
def Pf(a b x:aa):Prop:= ∃s:Rat,0<=s/\s<=1/\x=bG a b s
def S0(a b p r:aa):Prop:=Pf a b p/\((r=⟨b.x-p.x,b.y-p.y⟩/\b≠p)\/(r=⟨a.x-p.x,a.y-p.y⟩/\a≠p))
def QP(r u:aa):Prop:= ∃k:Rat,0<k/\u=⟨k*r.x,k*r.y⟩
def div_pos{a b:Rat}(ha:0<a)(hb:0<b):0<a/b:=by
 have e:a/b*b=a:=by grind
 exact(jb hb).1 (by rw[e];exact ha)
def WK(E:List (aa×aa))(p u:aa):Prop:=u≠⟨0,0⟩/\ ∀f∈E,∀r,S0 f.1 f.2 p r-> ¬QP r u
def sC(r:List ZP):List (aa×aa):=(List.range r.length).map fun k=>((r.getD k (0,0)).q,(et r k).q)
def ER(rs:List (List ZP)):List (aa×aa):=rs.flatMap sC
def zG{a b:ZP}(h:a.q=b.q):a=b:=by
 have hx:(a.1:Rat)=(b.1:Rat):=congrArg aa.x h;have hy:(a.2:Rat)=(b.2:Rat):=congrArg aa.y h;exact Prod.ext (by exact_mod_cast hx) (by exact_mod_cast hy)
def aJf(rs:List (List ZP))(fill:Int)(p v:aa)(b:Bool):Prop:= ∃e:Rat,0<e/\ ∀d,0<d->d<=e->jp rs fill (dB p v d)=b
section
variable {rs:List (List ZP)} {fill:Int} {p v w:aa} {b c:Bool}
end
def Ul(ds:List aa)(u:aa):Prop:=u≠⟨0,0⟩/\ ∀r∈ds,¬QP r u
def WdD(ds:List aa)(v w:aa):Prop:= ∀s,0<=s->s<=1->Ul ds (bG v w s)
def w5(x y:aa):Nat:=if x.cross y<0 then 1 else if 0<x.cross y then 3 else if 0<x.dot y then 0 else 2
def aHC(x y z:aa):Prop:=w5 x y<w5 x z\/(w5 x y=w5 x z/\(w5 x y=1\/w5 x y=3)/\0<z.cross y)
section
variable {ds:List aa}
end
def eRz(v:List aa):DV:= .sl (v.map eZ)
def eRa(v:List aa):DV:= .sl (v.map gh)
def mw{α:Type}(f:α->Rat):List α->Rat
 |[]=>0
 |a::t=>f a+mw f t
def SS(f:aa->aa->Rat)(v:List aa):Rat:=mw (fun i=>f (v.getD i ⟨0,0⟩) (v.getD ((i+1)%v.length) ⟨0,0⟩)) (List.range v.length)
def aJx(c:aA):Rat:=mw (fun s=>(s.v.hi-s.v.lo)*(s.l.c:Rat)) c
def aK7(t:Tr):Prop:= ∃(L:List ab) (R:Rat),(∀l∈L,l.ok)/\ ∀p,gF L p->Uk R p->t.val p=false
def OM(es:List Int):Nat->Nat->Tr×Nat
 |0,a=>ta es a
 |d+1,a=>
  let k:=aB es 3 a
  if(k.1:Int)=0 then
   let x:=OM es d k.2
   let o:=aB es 4 x.2
   let y:=OM es d o.2
   (x.1.mergeQ (1+(o.1:Int)) y.1 [],y.2)
  else ta es k.2
def aLm(f:aa->aa->Rat):Prop:= ∀(l:ab) (a b c:Rat),l.Ne->f (l.at a) (l.at c)=f (l.at a) (l.at b)+f (l.at b) (l.at c)
def sdF(f:aa->aa->Rat)(s:aH):Rat:=f (s.l.at s.v.lo) (s.l.at s.v.hi)
def Rd(f:aa->aa->Rat)(c:aA):Rat:=SS f (uS (c.map (·.l)))
def Uy(f:aa->aa->Rat)(t:Tr)(c:aA):Rat:=mw (fun x:Bool×aA=>if x.1 then Rd f x.2 else 0) (t.parts c)
def muG(f:aa->aa->Rat)(t:Tr)(c:aA)(l:ab):Rat:=if co c l then Uy f t (bO c l) else 0
def aKb(t:Tr)(c:aA):Prop:= ∀x∈t.parts c,x.1=true->aIO x.2=true
def r9(v:List aa):List (aa×aa):=(List.range v.length).map fun i=>(v.getD i ⟨0,0⟩,v.getD ((i+1)%v.length) ⟨0,0⟩)
def ql(cs:List (List ab)):List (aa×aa):=cs.flatMap fun c=>r9 (uS c)
def p8(cs:List aA):List (List ab):=cs.map fun c=>c.map (·.l)
def edE(x:aa×aa):List DV:=[Di x.1 x.2,eF (x.1.cross x.2)]

def eCl(x:List ab×Bool):DV:= .ag [.sl (x.1.map eL),vB x.2]
def eSd(c:List ab):DV:= .sl (c.map eL)
def aLp(ps:List (List ab×Bool)):List (List ab):=(ps.filter (·.2)).map (·.1)
def eRp(v:List aa):DV:= .sl (v.map eP)
def aKQ(c:aA):List (List aa):=NT (uS (c.map (·.l)))


def ve:List ZP:=[(0,0),(1,0),(0,1)]
def XV:dz ve:=⟨by decide,by decide,fun p hp=>by
 unfold ve at hp;simp only[aU,jS,or_false] at hp;rcases hp with rfl|rfl|rfl<;>exact⟨by decide,by decide⟩,by decide⟩
def KE(r:List aa)(j:Nat):Nat->aa
 |0=>(((r.getD 0 ⟨0,0⟩).add (r.getD 1 ⟨0,0⟩)).add (r.getD 2 ⟨0,0⟩)).scale (((1:Int):Rat)/((3:Int):Rat))
 |k+1=>((KE r j k).add (r.getD j ⟨0,0⟩)).scale (((1:Int):Rat)/((2:Int):Rat))
def smp(ts:List (List aa))(i:Nat):aa:=KE (ts.getD (i%ts.length) []) (i%3) (i/ts.length)
theorem aO.mono{p:aa}{i j:Nat}(h:aO p i)(hj:i<=j):aO p j:=⟨h.x.mono hj,h.y.mono hj⟩
structure aGe (cs:List aA) (b:Nat):Prop where
 lb: ∀c∈cs,∀s∈c,LB s.l
 sh: ∀c∈cs,c.length<=100000
 ln:cs.length<=1000000
 pt: ∀x∈ql (p8 cs),aO x.1 b/\aO x.2 b
def LX(x:aa×aa):aa:=(x.1.add x.2).scale (x.1.cross x.2)
def KL{α:Type}(f:α->aa)(l:List α):aa:=⟨mw (fun x=>(f x).x) l,mw (fun x=>(f x).y) l⟩
def qF(es:List Int)(a:Nat):Rat×Nat:=
 (if((aB es 6 (aB es 9 a).2).1:Int)=0 then mkRat (2*(((aB es 9 a).1:Int)-4)+1) 2 else if((aB es 6 (aB es 9 a).2).1:Int)=1 then mkRat (3*(((aB es 9 a).1:Int)-4)+1) 3 else(((aB es 9 a).1:Rat)-4:Rat),(aB es 6 (aB es 9 a).2).2)
def D7(es:List Int)(a:Nat):aa×Nat:=(⟨(qF es a).1,(qF es (qF es a).2).1⟩,(qF es (qF es a).2).2)
def zm:ab:=⟨1,0,0⟩
def aLc(es:List Int)(L:List ab)(a:Nat):aa×Nat:=
 if L.length=0 then D7 es a else
 if((aB es 3 (aB es L.length a).2).1:Int)=0 then
  (if crossI (L.getD (aB es L.length a).1 zm) (L.getD (aB es L.length (aB es 3 (aB es L.length a).2).2).1 zm)≠0 then(gG (L.getD (aB es L.length a).1 zm) (L.getD (aB es L.length (aB es 3 (aB es L.length a).2).2).1 zm),(aB es L.length (aB es 3 (aB es L.length a).2).2).2) else D7 es (aB es L.length (aB es 3 (aB es L.length a).2).2).2)
 else if((aB es 3 (aB es L.length a).2).1:Int)=1 then((L.getD (aB es L.length a).1 zm).at (qF es (aB es 3 (aB es L.length a).2).2).1,(qF es (aB es 3 (aB es L.length a).2).2).2) else D7 es (aB es 3 (aB es L.length a).2).2

def aJd(x:aa×aa):Rat:=(x.1.x*x.1.x+x.2.x*x.2.x+(x.1.add x.2).x*(x.1.add x.2).x)*x.1.cross x.2
def WI(x:aa×aa):Rat:=(x.1.x*x.1.y+x.2.x*x.2.y+(x.1.add x.2).x*(x.1.add x.2).y)*x.1.cross x.2
def Wg(x:aa×aa):Rat:=(x.1.y*x.1.y+x.2.y*x.2.y+(x.1.add x.2).y*(x.1.add x.2).y)*x.1.cross x.2
structure aKr (cs:List aA):Prop where
 ed:aGe cs 1200
 cr: ∀x∈ql (p8 cs),BQ (x.1.cross x.2) 5000
 ar: ∀k,BQ (mw (fun x=>x.1.cross x.2) ((ql (p8 cs)).take k)) 2000000
 mo: ∀k,aO (KL LX ((ql (p8 cs)).take k)) 3000000
 sa: ∀k,BQ (mw aJd ((ql (p8 cs)).take k)) 4000000
 sb: ∀k,BQ (mw WI ((ql (p8 cs)).take k)) 4000000
 sc: ∀k,BQ (mw Wg ((ql (p8 cs)).take k)) 4000000
def aIA(t:Tr):Rat:=mw (fun x=>x.1.cross x.2) (ql (p8 (wX t)))*mkRat 1 2
def aKL(t:Tr):aa:=(KL LX (ql (p8 (wX t)))).scale (((1:Int):Rat)/((6:Int):Rat))
def zR0:DV:= .ag [vB false, .sl [], .sl []]
def zP0:DV:= .ag [vB false, .sl [], .sl [],vB false, .sl [], .sl []]
def tw4:Rat:=((1:Int):Rat)/((24:Int):Rat)
def aK5(f:aa×aa->Rat)(t:Tr):Rat:=mw f (ql (p8 (wX t)))*tw4
structure DQ (D B:Nat) (x:Rat):Prop where
 ex: ∃n:Int,x*((D:Nat):Rat)=(n:Rat)/\n.natAbs<=B*D
def UB(l m:ab):Nat:=if crossI l m=0 then 1 else(crossI l m).natAbs
def Wt(K:List ab):List Nat:=K.flatMap fun l=>K.map (UB l)
def aKi(K:List ab):Nat:=(Wt K).foldr (· * ·) 1
structure DP (D B:Nat) (p:aa):Prop where
 x:DQ D B p.x
 y:DQ D B p.y

def eM(a b c d e f:Rat):DV:= .ag [(.v (.bool (decide ((a).num<0)))),(dN (a).num.natAbs),(dD (a).den),(.v (.bool (decide ((b).num<0)))),(dN (b).num.natAbs),(dD (b).den),(.v (.bool (decide ((c).num<0)))),(dN (c).num.natAbs),(dD (c).den),(.v (.bool (decide ((d).num<0)))),(dN (d).num.natAbs),(dD (d).den),(.v (.bool (decide ((e).num<0)))),(dN (e).num.natAbs),(dD (e).den),(.v (.bool (decide ((f).num<0)))),(dN (f).num.natAbs),(dD (f).den)]
def zq3:List DV:=[.v (.bool (decide ((0:Rat).num<0))),dN (0:Rat).num.natAbs,dD (0:Rat).den]

def fq{C:aC}{n:Nat}{Q0:Exit->Act->World->Prop}{fr fr':av}{own own':aF}{cf cf':Cf}{vc:List Prop}[fu:Fu]{f:FuncId}{ds:List DV}(ha:wD fr cf=some (f,ds))(hF:PF GB prog f ds (.v (.bool true)))(hgo:cv tt n fu.n fr own cf .tt [] []=⟨vc,fr',own',cf'⟩)(k:ak prog GB C n Q0 fr' own' cf')
  (hv:autoParam (aj vc) cL._auto_1):ak prog GB C n Q0 fr own cf:=by
 unfold wD at ha;split at ha<;>try (cases ha;done)
 rename_i hh;exact us hh (b7.to (g:= .tt) (Jl ha hF) fun ρ G y hy=>(aP (G:=G)).1 hy) hgo hv k
def Vs:List ZP:=[(0,0),(2,0),(2,2),(0,2)]
def sqT:Tr:=iB [Vs] 2



def aJ6(M:List ab)(E:List (aa×aa)):Prop:= ∀f∈E,∃m∈M,m.value f.1=0/\m.value f.2=0
section
variable {rs:List (List ZP)} {fill:Int} {p:aa}
def aKF(rs:List (List ZP))(fill:Int)(p:aa)(b:Bool):Prop:= ∃x,WK (ER rs) p x/\aJf rs fill p x b
end
section
variable {rs:List (List ZP)} {fill:Int} {L:List ab} {p:aa}
end
def Oz(v:ao)(t:Rat):Bool:=(v.nl||decide (ce v.lo t<=0))&&(v.nh||decide (0<=ce v.hi t))
def EA(f:aH)(p:aa):Bool:=decide (Int.sign (f.l.value p).num=0)&&Oz f.v (dH f.l p)
def oE(f:aH)(p:aa):Int:=
 if Int.sign f.l.dir.y.num=0\/Int.sign (f.l.value p).num≠Int.sign f.l.dir.y.num then 0
 else if(if Int.sign f.l.dir.y.num<0 then f.v.nh=false/\0<ce (f.l.at f.v.hi).y p.y else f.v.nl=false/\0<ce (f.l.at f.v.lo).y p.y) then 0
 else if(if Int.sign f.l.dir.y.num<0 then f.v.nl=false/\ce (f.l.at f.v.lo).y p.y<=0 else f.v.nh=false/\ce (f.l.at f.v.hi).y p.y<=0) then 0
 else Int.sign f.l.dir.y.num
def f9(E:List aH)(p:aa):Int:=E.foldl (fun n f=>n+oE f p) 0
def Zw{v w:ZP}(h:v≠w)(p:aa): ∃g:Rat,0<g/\c7 v.q w.q p=g*(di v w).l.value p/\w.q.y-v.q.y=g*(di v w).l.dir.y:=by
 obtain⟨g,g0,h1,h2,h3⟩:=I2 h;refine⟨g,g0,?_,by rw[h3];unfold dB;show _=g*(ja v.1 v.2 w.1 w.2).dir.y;dsimp only;grind⟩;show _=g*(ja v.1 v.2 w.1 w.2).value p;rw[h3];generalize ja v.1 v.2 w.1 w.2=l at*;rw[lj] at*;unfold c7 dB ab.dir;dsimp only;grind
def TY{v w:ZP}(h:v≠w)(ho:(di v w).l.ok)(p:aa):oE (di v w) p=nO v.q w.q p:=by
 obtain⟨e1,e2,e3⟩:=Dn h ho;obtain⟨g,g0,o1,o2⟩:=Zw h p;have b1:(di v w).v.nl=false:=J;have b2:(di v w).v.nh=false:=J;have so:(0<c7 v.q w.q p↔0<(di v w).l.value p)/\(c7 v.q w.q p<0↔(di v w).l.value p<0):=by
  rw[o1];constructor
  .rw[Rat.mul_comm];exact jb g0
  .have:=jb (s:= -(di v w).l.value p) g0
   grind
 have sy:(v.q.y<w.q.y↔0<(di v w).l.dir.y)/\(w.q.y<v.q.y↔(di v w).l.dir.y<0):=by
  have t1:=jb (s:=(di v w).l.dir.y) g0;have t2:=jb (s:= -(di v w).l.dir.y) g0;constructor<;>grind
 unfold oE;rw[b1,b2,e1,e2];simp only[true_and,Of,Ba];generalize (di v w).l.value p=z at*;generalize (di v w).l.dir.y=u at*;unfold nO;rcases mC u with k|k|k
 .rw[if_pos (.inl ((lw _).2 k))]
  have: ¬(v.q.y<=p.y/\ ¬w.q.y<=p.y/\0<c7 v.q w.q p):=fun q=>by grind
  have: ¬(¬v.q.y<=p.y/\w.q.y<=p.y/\c7 v.q w.q p<0):=fun q=>by grind
  rw[if_neg ‹_›,if_neg ‹_›];rfl
 .have su:Int.sign u.num=1:=(og _).2 k
  rw[su];have n2: ¬(¬v.q.y<=p.y/\w.q.y<=p.y/\c7 v.q w.q p<0):=fun q=>by grind
  rw[if_neg n2];simp only[show¬((1:Int)<0) by decide,if_false,show¬((1:Int)=0) by decide,false_or];by_cases hz:0<z
  .rw[if_neg (by rw[(og _).2 hz];simp)]
   by_cases a1:v.q.y<=p.y
   .rw[if_neg (by grind)]
    by_cases a2:w.q.y<=p.y
    .rw[if_pos a2,if_neg (by grind)];rfl
    .rw[if_neg a2,if_pos ⟨a1,a2,so.1.2 hz⟩];rfl
   .rw[if_pos (by grind),if_neg (by grind)];rfl
  .rw[if_pos (fun q=>hz ((og _).1 q)),if_neg (by grind)];rfl
 .have su:Int.sign u.num= -1:=Qc k
  rw[su];have n2: ¬(v.q.y<=p.y/\ ¬w.q.y<=p.y/\0<c7 v.q w.q p):=fun q=>by grind
  rw[if_neg n2];simp only[show(-1:Int)<0 by decide,if_true,show¬((-1:Int)=0) by decide,false_or];by_cases hz:z<0
  .rw[if_neg (by rw[Qc hz];simp)]
   by_cases a1:w.q.y<=p.y
   .rw[if_neg (by grind)]
    by_cases a2:v.q.y<=p.y
    .rw[if_pos a2,if_neg (by grind)];rfl
    .rw[if_neg a2,if_pos ⟨a2,a1,so.2.2 hz⟩];rfl
   .rw[if_pos (by grind),if_neg (by grind)];rfl
  .rw[if_pos (fun q=>hz (by
    have h4:Int.sign z.num<0:=by rw[q];decide
    exact(n8 _).1 h4)),if_neg (by grind)];rfl
def BF{α:Type}(f:α->Int): ∀(l:List α) (n:Int),l.foldl (fun n x=>n+f x) n=n+l.foldl (fun n x=>n+f x) 0
 |[],n=>by simp
 |a::t,n=>by
  rw[dY,dY,BF f t (n+f a),BF f t (0+f a)];omega
def Do(E F:List aH)(p:aa):f9 (E++F) p=f9 E p+f9 F p:=by
 unfold f9;rw[List.foldl_append,BF]
def T1{r:List ZP}(hr:dz r)(p:aa):f9 (ij r) p=oh r p:=by
 have key: ∀k,k<=r.length->f9 (kt r k) p=xV r p k:=by
  intro k
  induction k with
  |zero=>intro _;rfl
  |succ k ih=>
   intro hk;have hm:=IA (r:=r) (k:=k) (n:=r.length) (by omega);have ho:=((ud hr).2 _ hm).ok;rw[kt,Do,ih (by omega),xv,xv,i8];have e:f9 [di (r.getD k (0,0)) (et r k)] p=oE (di (r.getD k (0,0)) (et r k)) p:=by unfold f9;simp
   rw[e,TY (hr.ne k (by omega)) ho]
 exact key r.length (bQ _)
def Pe: ∀{rs:List (List ZP)},(∀r∈rs,dz r)-> ∀p,f9 (cP rs) p=rs.foldl (fun n r=>n+oh r p) 0
 |[],_,p=>rfl
 |r::rs,h,p=>by
  have e:cP (r::rs)=ij r++cP rs:=J;rw[e,Do,T1 (h r aQ),Pe fun q hq=>h q (aJ _ hq),dY,BF _ rs (0+oh r p)];omega
def Ui(f:aH)(p:aa):Bool:=f.v.nh||decide (ce (dH f.l p) f.v.hi<0)
def VI(f:aH)(p:aa):Bool:=f.v.nl||decide (0<ce (dH f.l p) f.v.lo)
def Yh(p:aa)(f:aH):List aa:=if EA f p then(if Ui f p then [yT f.l.dir] else [])++(if VI f p then [kP (yT f.l.dir)] else []) else []
def Hq(E:List aH)(p:aa):List aa:=Gc (E.flatMap (Yh p))
def Jo(p d q:aa):Rat:=(⟨q.x-p.x,q.y-p.y⟩:aa).dot d/d.dot d
def aJz(a b:Rat):Rat×Bool:=
 if 0<Int.sign b.num/\(¬0<Int.sign a.num\/ce b a<0) then(b,true) else if 0<Int.sign a.num then(a,true) else(0,false)
def Ha(f:aH)(p d:aa):Rat×Bool:=
 if f.l.nor.dot d=0 then(if f.l.value p=0 then aJz (Jo p d (f.l.at f.v.lo)) (Jo p d (f.l.at f.v.hi)) else(0,false))
 else(-(f.l.value p/f.l.nor.dot d),decide (0<Int.sign (-(f.l.value p/f.l.nor.dot d)).num)&&Oz f.v (dH f.l (dB p d (-(f.l.value p/f.l.nor.dot d)))))
def aJN(p d:aa)(s:Rat)(f:aH):Rat:=if EA f p then s else if(Ha f p d).2 then(if(Ha f p d).1<s then(Ha f p d).1 else s) else s
def DE(E:List aH)(p d:aa):aa:=dB p d (E.foldl (aJN p d) 1*mkRat 1 2)
def aKE(E:List aH)(p:aa)(acc:aa->Bool):Int:=
 if((yl (Hq E p)).any fun v=>acc (DE E p v))&&(yl (Hq E p)).all (fun v=>acc (DE E p v)) then 2 else if(yl (Hq E p)).any fun v=>acc (DE E p v) then 1 else 0
def GO{r:List ZP}: ∀{n:Nat} {f:aH},f∈kt r n-> ∃k,k<n/\f=di (r.getD k (0,0)) (et r k)
 |0,f,h=>by simp[kt] at h
 |n+1,f,h=>by
  rw[kt] at h;rcases bS.1 h with h|h
  .obtain⟨k,h1,h2⟩:=GO h
   exact⟨k,by omega,h2⟩
  .exact⟨n,by omega,aY.1 h⟩
def VS{rs:List (List ZP)}(hr: ∀r∈rs,dz r){f:aH}(hf:f∈cP rs): ∃v w:ZP,v≠w/\(di v w).l.ok/\f=di v w/\(v.q,w.q)∈ER rs:=by
 obtain⟨r,h1,h2⟩:=gQ.1 hf;have ho:=((ud (hr r h1)).2 _ h2).ok;obtain⟨k,hk,rfl⟩:=GO h2;exact⟨_,_,(hr r h1).ne k hk,ho,J,gQ.2 ⟨r,h1,bX.2 ⟨k,rZ.2 hk,J⟩⟩⟩
section
variable {rs:List (List ZP)} {fill:Int} {p:aa}
end
def AZ{p q:aa}{i:Nat}[hp:aO p i][hq:aO q i](hi:i<=1000000:=by decide):PF GB prog 116 [eZ p,eZ q] (vB (decide (p.x=q.x/\p.y=q.y))):=by
 refine fn func116 J J ntmps116 J J (fun C=>?_);refine cl J (wG (p:=p.x) (q:=q.x) (i:=i) (j:=i) (by omega) (by omega)) J<|csd 10 J J J (fun hg10=>?_) (fun hg10=>?_)
 .
  refine cl J (wG (p:=p.y) (q:=q.y) (i:=i) (j:=i) (by omega) (by omega)) J<|rz J (by show DV.v (.bool _)= .v (.bool _);simp_all)
 .
  exact rz J (by show DV.v (.bool _)= .v (.bool _);simp_all)
def Ko{p q:aa}{i j:Nat}[hp:aO p i][hq:aO q j](hi:i<=10000000:=by decide)(hj:j<=10000000:=by decide):PF GB prog 182 [eZ p,eZ q] (eZ ⟨p.x-q.x,p.y-q.y⟩):=by
 refine fn func182 J J ntmps182 J J (fun C=>?_);refine cl J (tn (p:=p.x) (q:=q.x) (i:=i) (j:=j) (by omega) (by omega)) J<|cl J (tn (p:=p.y) (q:=q.y) (i:=i) (j:=j) (by omega) (by omega)) J<|rz J J
def BO{l:ab}{p:aa}{i:Nat}[hl:LB l][hp:aO p i](hi:i<=1000000:=by decide):PF GB prog 119 [cG l,eZ p] (eF (dH l p)):=by
 refine fn func119 J J ntmps119 J J (fun C=>?_);refine cl J (vu (l:=l)) J<|cl (fu:=⟨0⟩) J (sj (p:=l.dir) (q:=p) (i:=97) (j:=i) (by decide) (by omega)) J<|ah 10 (.d (eF (p.dot l.dir))) J (by rw[show l.dir.dot p=p.dot l.dir by unfold aa.dot;grind])<|gx J<|cl J (sj (p:=l.dir) (q:=l.dir) (i:=97) (j:=97) (by decide) (by decide)) J<|cl J (xu (p:=p.dot l.dir) (q:=l.dir.dot l.dir) (i:=i+97+(i+97)+1) (j:=97+97+(97+97)+1) (by omega) (by decide)) J<|rz J J
def xF(q:Rat):List Value:=[.int .i64 (cc q), .int .i64 (cb q), .pointer none]
def rV(q:Rat):Value:= .agg ⟨xF q⟩
structure YW (f:aH):Prop where
 a: ¬fG (f.l.a:Rat)
 b: ¬fG (f.l.b:Rat)
 c: ¬fG (f.l.c:Rat)
 lo: ¬fG f.v.lo
 hi: ¬fG f.v.hi
def frV(f:aH):Value:= .agg ⟨xF f.l.a++(xF f.l.b++(xF f.l.c++(xF f.v.lo++(xF f.v.hi++[.bool f.v.nl, .bool f.v.nh]))))⟩
structure FE (f:aH):Prop where
 fo:lc f
 sm:YW f
 nl:f.v.nl=false
 nh:f.v.nh=false
structure FG (f:aH):Prop where
 fo:lc f
 nl:f.v.nl=false
 nh:f.v.nh=false
def FE.g{f:aH}(h:FE f):FG f:=⟨h.fo,h.nl,h.nh⟩
def Lh{f:aH}(hf:FG f):PF GB prog 126 [bj f] (.tp [eZ (f.l.at f.v.lo),vB true]):=by
 haveI:=hf.fo.lb;haveI:=hf.fo.lo;haveI:=hf.fo.hi;refine fn (fu:=⟨13⟩) func126 J J ntmps126 J J (fun C=>?_);refine ah 6 (.d (vB false)) J (by rw[hf.nl]<;>rfl)<|jH 6 J<|gx J<|cl J (BU (l:=f.l) (t:=f.v.lo) (i:=1200)) J<|rz J J
def JB{f:aH}(hf:FG f):PF GB prog 127 [bj f] (.tp [eZ (f.l.at f.v.hi),vB true]):=by
 haveI:=hf.fo.lb;haveI:=hf.fo.lo;haveI:=hf.fo.hi;refine fn (fu:=⟨13⟩) func127 J J ntmps127 J J (fun C=>?_);refine ah 6 (.d (vB false)) J (by rw[hf.nh]<;>rfl)<|jH 6 J<|gx J<|cl J (BU (l:=f.l) (t:=f.v.hi) (i:=1200)) J<|rz J J
def L3(f:aH)(a b c d e:Value):DV:= .ag [vI (cc (f.l.a:Rat)),vI (cb (f.l.a:Rat)), .v a,vI (cc (f.l.b:Rat)),vI (cb (f.l.b:Rat)), .v b,vI (cc (f.l.c:Rat)),vI (cb (f.l.c:Rat)), .v c,vI (cc f.v.lo),vI (cb f.v.lo), .v d,vI (cc f.v.hi),vI (cb f.v.hi), .v e, .v (.bool f.v.nl), .v (.bool f.v.nh)]
def si(f:aH)(a b c d e:Value):Value:= .agg ⟨[.int .i64 (cc (f.l.a:Rat)), .int .i64 (cb (f.l.a:Rat)),a, .int .i64 (cc (f.l.b:Rat)), .int .i64 (cb (f.l.b:Rat)),b, .int .i64 (cc (f.l.c:Rat)), .int .i64 (cb (f.l.c:Rat)),c, .int .i64 (cc f.v.lo), .int .i64 (cb f.v.lo),d, .int .i64 (cc f.v.hi), .int .i64 (cb f.v.hi),e, .bool f.v.nl, .bool f.v.nh]⟩
def GI{G:Gh}: ∀{l m:List Value},IsLs G (l.map DV.v) m->m=l
 |[],m,h=>ck.1 h
 |x::t,m,h=>by
  obtain⟨y,n,rfl,h1,h2⟩:=bm.1 h;rw[aP.1 h1,GI h2]
def Py{G:Gh}: ∀(l:List Value),IsLs G (l.map DV.v) l
 |[]=>ck.2 J
 |_::t=> .cons (aP.2 J) (Py t)
def Ck{G:Gh}{f:aH}{a b c d e y:Value}(h:Is G (L3 f a b c d e) y):y=si f a b c d e:=by
 obtain⟨m,rfl,hm⟩:=dm.1 h;exact congrArg (fun l=>Value.agg ⟨l⟩) (GI (l:=[.int .i64 (cc (f.l.a:Rat)), .int .i64 (cb (f.l.a:Rat)),a, .int .i64 (cc (f.l.b:Rat)), .int .i64 (cb (f.l.b:Rat)),b, .int .i64 (cc (f.l.c:Rat)), .int .i64 (cb (f.l.c:Rat)),c, .int .i64 (cc f.v.lo), .int .i64 (cb f.v.lo),d, .int .i64 (cc f.v.hi), .int .i64 (cb f.v.hi),e, .bool f.v.nl, .bool f.v.nh]) hm)
def Fa{G:Gh}{f:aH}{a b c d e y:Value}(h:Is G (bj f) (si f a b c d e))(hy:Is G (.ag [vI (cc (f.l.a:Rat)),vI (cb (f.l.a:Rat)), .v a,vI (cc (f.l.b:Rat)),vI (cb (f.l.b:Rat)), .v b,vI (cc (f.l.c:Rat)),vI (cb (f.l.c:Rat)), .v c]) y):Is G (cG f.l) y:=by
 obtain⟨m,rfl,hm⟩:=dm.1 hy;obtain rfl:=GI (l:=[.int .i64 (cc (f.l.a:Rat)), .int .i64 (cb (f.l.a:Rat)),a, .int .i64 (cc (f.l.b:Rat)), .int .i64 (cb (f.l.b:Rat)),b, .int .i64 (cc (f.l.c:Rat)), .int .i64 (cb (f.l.c:Rat)),c]) hm;obtain⟨m,e1,hm⟩:=dm.1 h
 cases e1
 exact dm.2 ⟨_,J,hm.take 9⟩
def zp{G:Gh}{q:Rat}{y:Value}(h:Is G (dC q) y): ∃p,y= .pointer p:=by
 unfold dC at h;rcases tA.1 h with⟨_,e⟩|⟨_,h⟩
 .exact⟨none,e⟩
 .obtain⟨b,cs,e,_⟩:=l7.1 h
  exact⟨_,e⟩
def aCJ{G:Gh}{f:aH}{v:Value}(h:Is G (bj f) v): ∃a b c d e:Option Addr,v=si f (.pointer a) (.pointer b) (.pointer c) (.pointer d) (.pointer e):=by
 obtain⟨m0,rfl,k0⟩:=dm.1 h;obtain⟨x1,m1,rfl,h1,k1⟩:=bm.1 k0;obtain⟨x2,m2,rfl,h2,k2⟩:=bm.1 k1;obtain⟨x3,m3,rfl,h3,k3⟩:=bm.1 k2;obtain⟨x4,m4,rfl,h4,k4⟩:=bm.1 k3;obtain⟨x5,m5,rfl,h5,k5⟩:=bm.1 k4;obtain⟨x6,m6,rfl,h6,k6⟩:=bm.1 k5;obtain⟨x7,m7,rfl,h7,k7⟩:=bm.1 k6;obtain⟨x8,m8,rfl,h8,k8⟩:=bm.1 k7;obtain⟨x9,m9,rfl,h9,k9⟩:=bm.1 k8;obtain⟨x10,m10,rfl,h10,k10⟩:=bm.1 k9;obtain⟨x11,m11,rfl,h11,k11⟩:=bm.1 k10;obtain⟨x12,m12,rfl,h12,k12⟩:=bm.1 k11;obtain⟨x13,m13,rfl,h13,k13⟩:=bm.1 k12;obtain⟨x14,m14,rfl,h14,k14⟩:=bm.1 k13;obtain⟨x15,m15,rfl,h15,k15⟩:=bm.1 k14;obtain⟨x16,m16,rfl,h16,k16⟩:=bm.1 k15;obtain⟨x17,m17,rfl,h17,k17⟩:=bm.1 k16;obtain rfl:=ck.1 k17;obtain rfl:=aP.1 h1;obtain rfl:=aP.1 h2;obtain⟨p3,rfl⟩:=zp h3;obtain rfl:=aP.1 h4;obtain rfl:=aP.1 h5;obtain⟨p6,rfl⟩:=zp h6;obtain rfl:=aP.1 h7;obtain rfl:=aP.1 h8;obtain⟨p9,rfl⟩:=zp h9;obtain rfl:=aP.1 h10;obtain rfl:=aP.1 h11;obtain⟨p12,rfl⟩:=zp h12;obtain rfl:=aP.1 h13;obtain rfl:=aP.1 h14;obtain⟨p15,rfl⟩:=zp h15;obtain rfl:=aP.1 h16;obtain rfl:=aP.1 h17;exact⟨p3,p6,p9,p12,p15,J⟩
theorem Qa{l:ab}{t:Rat}(hl:LB l)(ht:BQ t 1200):aO (l.at t) 3000:=aO.mono (inferInstance:aO (l.at t) _) (by decide)
def pk{f:aH}(h1:f.v.nl=false)(h2:f.v.nh=false)(p:aa):oE f p=if Int.sign f.l.dir.y.num=0 then 0 else if Int.sign (f.l.value p).num≠Int.sign f.l.dir.y.num then 0 else
  if Int.sign f.l.dir.y.num<0 then(if 0<ce (f.l.at f.v.hi).y p.y then 0 else if ce (f.l.at f.v.lo).y p.y<=0 then 0 else Int.sign f.l.dir.y.num)
  else(if 0<ce (f.l.at f.v.lo).y p.y then 0 else if ce (f.l.at f.v.hi).y p.y<=0 then 0 else Int.sign f.l.dir.y.num):=by
 unfold oE;rw[h1,h2];generalize Int.sign f.l.dir.y.num=U;generalize Int.sign (f.l.value p).num=S;generalize ce (f.l.at f.v.hi).y p.y=a;generalize ce (f.l.at f.v.lo).y p.y=b;by_cases k:U=0
 .simp[k]
 .by_cases k2:S≠U
  .simp[k2]
  .rw[if_neg (by simp[k,k2]),if_neg k,if_neg k2]
   by_cases k3:U<0
   .simp[k3]
   .simp[k3]
def J5(f:aH)(p:aa):(oE f p).natAbs<=1:=by
 unfold oE;have:=Zm f.l.dir.y.num
 repeat' split
 all_goals omega
def Km{E:List aH}{p:aa}{k:Nat}{f:aH}(h:E[k]? =some f):f9 (E.take (k+1)) p=f9 (E.take k) p+oE f p:=by
 rw[fJ,h];show f9 (E.take k++[f]) p=_;rw[Do];unfold f9;simp
def LF(E:List aH)(p:aa): ∀k,(f9 (E.take k) p).natAbs<=k
 |0=>by simp[f9]
 |k+1=>by
  have ih:=LF E p k
  cases h:E[k]? with
  |none=>
   have:E.take (k+1)=E.take k:=by rw[fJ,h];simp
   rw[this];omega
  |some f=>
   rw[Km h];have:=J5 f p;omega
def T4{f:aH}(hf:FG f){p:aa}{i:Nat}[hp:aO p i](hi:i<=100000:=by decide){a b c d e:Option Addr}(hv:Is GB (bj f) (si f (.pointer a) (.pointer b) (.pointer c) (.pointer d) (.pointer e))):PF GB prog 73 [L3 f (.pointer a) (.pointer b) (.pointer c) (.pointer d) (.pointer e),eZ p] (vI (oE f p)):=by
 haveI:=hf.fo.lb;haveI:=hf.fo.lo;haveI:=hf.fo.hi;haveI:aO (f.l.at f.v.hi) 3000:=Qa hf.fo.lb hf.fo.hi;haveI:aO (f.l.at f.v.lo) 3000:=Qa hf.fo.lb hf.fo.lo;refine fn (fu:=⟨11⟩) func73 J J ntmps73 J J (fun C=>?_);refine El 13 J (fun G y hg hy=>Fa (hv.up hg) hy)<|gx J<|cl J (vu (l:=f.l)) J<|cl (fu:=⟨6⟩) J (mE (q:=f.l.dir.y) (i:=97)) J<|?_;rcases Int.lt_or_le (Int.sign f.l.dir.y.num) 0 with hu|hu
 .
  refine gx J<|cs (fu2:=⟨2⟩) 19 J J J (fun hg19=>?_) (fun hg19=>?_)
  .
   exact rz J (by rw[pk hf.nl hf.nh];(repeat' split)<;>first|rfl|(exfalso;omega))
  .
   refine El 21 J (fun G y hg hy=>Fa (hv.up hg) hy)<|gx J<|cl J (Fw (l:=f.l) (p:=p) (i:=i) (by omega)) J<|br (fu2:=⟨5⟩) J J J (fun hc26=>?_) (fun hc26=>?_)
   .
    exact rz J (by rw[pk hf.nl hf.nh];(repeat' split)<;>first|rfl|(exfalso;omega))
   .
    refine CK (fu:=⟨1⟩) (si f (.pointer a) (.pointer b) (.pointer c) (.pointer d) (.pointer e)) J (fun G y hy=>Ck hy) J<|CK (fu:=⟨8⟩) (si f (.pointer a) (.pointer b) (.pointer c) (.pointer d) (.pointer e)) J (fun G y hy=>Ck hy) J<|dh (fu:=⟨14⟩) J (by show some (decide _)=some true;rw[decide_eq_true (by omega)]) J<|xy (fu:=⟨12⟩) (ds1:=[bj f]) (ds2:=[]) J (.cons hv (ck.2 J)) (ck.2 J) (JB hf) J<|fi 41 J<|gx J<|cl J (pi (i:=3000) (j:=i) (by decide) (by omega)) J<|br (fu2:=⟨6⟩) J J J (fun hc48=>?_) (fun hc48=>?_)
    .
     exact rz J (by rw[pk hf.nl hf.nh];(repeat' split)<;>first|rfl|(exfalso;omega))
    .
     refine xy (fu:=⟨12⟩) (ds1:=[bj f]) (ds2:=[]) J (.cons hv (ck.2 J)) (ck.2 J) (Lh hf) J<|fi 55 J<|gx J<|cl J (pi (i:=3000) (j:=i) (by decide) (by omega)) J<|br J J J (fun hc62=>?_) (fun hc62=>?_)
     .
      exact rz J (by rw[pk hf.nl hf.nh];(repeat' split)<;>first|rfl|(exfalso;omega))
     .
      exact rz J (by rw[pk hf.nl hf.nh];(repeat' split)<;>first|rfl|(exfalso;omega))
 .
  refine gx J<|cs (fu2:=⟨2⟩) 19 J J J (fun hg19=>?_) (fun hg19=>?_)
  .
   exact rz J (by rw[pk hf.nl hf.nh];(repeat' split)<;>first|rfl|(exfalso;omega))
  .
   refine El 21 J (fun G y hg hy=>Fa (hv.up hg) hy)<|gx J<|cl J (Fw (l:=f.l) (p:=p) (i:=i) (by omega)) J<|br (fu2:=⟨5⟩) J J J (fun hc26=>?_) (fun hc26=>?_)
   .
    exact rz J (by rw[pk hf.nl hf.nh];(repeat' split)<;>first|rfl|(exfalso;omega))
   .
    refine CK (fu:=⟨1⟩) (si f (.pointer a) (.pointer b) (.pointer c) (.pointer d) (.pointer e)) J (fun G y hy=>Ck hy) J<|CK (fu:=⟨8⟩) (si f (.pointer a) (.pointer b) (.pointer c) (.pointer d) (.pointer e)) J (fun G y hy=>Ck hy) J<|b9 (fu:=⟨9⟩) J (by show some (decide _)=some false;rw[decide_eq_false (by omega)]) J<|xy (fu:=⟨12⟩) (ds1:=[bj f]) (ds2:=[]) J (.cons hv (ck.2 J)) (ck.2 J) (Lh hf) J<|fi 41 J<|gx J<|cl J (pi (i:=3000) (j:=i) (by decide) (by omega)) J<|br (fu2:=⟨6⟩) J J J (fun hc48=>?_) (fun hc48=>?_)
    .
     exact rz J (by rw[pk hf.nl hf.nh];(repeat' split)<;>first|rfl|(exfalso;omega))
    .
     refine xy (fu:=⟨12⟩) (ds1:=[bj f]) (ds2:=[]) J (.cons hv (ck.2 J)) (ck.2 J) (JB hf) J<|fi 55 J<|gx J<|cl J (pi (i:=3000) (j:=i) (by decide) (by omega)) J<|br J J J (fun hc62=>?_) (fun hc62=>?_)
     .
      exact rz J (by rw[pk hf.nl hf.nh];(repeat' split)<;>first|rfl|(exfalso;omega))
     .
      exact rz J (by rw[pk hf.nl hf.nh];(repeat' split)<;>first|rfl|(exfalso;omega))
def ZW{f:aH}(hf:FG f){p:aa}{i:Nat}[hp:aO p i](hi:i<=100000:=by decide):PF GB prog 73 [bj f,eZ p] (vI (oE f p)):=PF.nmd fun G vs hg h=>by
 obtain⟨y,m,rfl,h1,hm⟩:=bm.1 h;obtain⟨a,b,c,d,e,rfl⟩:=aCJ h1;exact⟨_, .cons (dm.2 ⟨_,J,Py [.int .i64 (cc (f.l.a:Rat)), .int .i64 (cb (f.l.a:Rat)), .pointer a, .int .i64 (cc (f.l.b:Rat)), .int .i64 (cb (f.l.b:Rat)), .pointer b, .int .i64 (cc (f.l.c:Rat)), .int .i64 (cb (f.l.c:Rat)), .pointer c, .int .i64 (cc f.v.lo), .int .i64 (cb f.v.lo), .pointer d, .int .i64 (cc f.v.hi), .int .i64 (cb f.v.hi), .pointer e, .bool f.v.nl, .bool f.v.nh]⟩) hm,T4 hf (p:=p) (i:=i) hi h1⟩
def Up{E:List aH}(hE: ∀f∈E,FG f)(hn:E.length<=1000000){p:aa}{i:Nat}[hp:aO p i](hi:i<=100000:=by decide):PF GB prog 34 [.sl (E.map bj),eZ p] (vI (f9 E p)):=by
 have hml:(E.map bj).length=E.length:=aX ..;refine fn (fu:=⟨16⟩) func34 J J ntmps34 J J (fun C=>?_);refine ah 9 (.d (vI (E.length:Nat))) J (by rw[hml]<;>rfl)<|gx J<|lp (X:=Nat) (fun k=>[(10, .d (vI (k:Nat))),(5, .d (vI (f9 (E.take k) p)))]) (fun k=>[]) (fun k=>k<=E.length) (fun k=>E.length-k) 0 J (aN _) (fun _=>J) (fun k hk=>?_);have hw:=LF E p k;refine br J J J (fun hc11=>?_) (fun hc11=>?_)
 .
  obtain⟨f,hx⟩: ∃u,E[k]? =some u:=⟨_,aZ (by omega)⟩;have hf:=hE f (aV hx);have hcl:=J5 f p;refine ix _ J (cO hx) J<|cl J (ZW hf (p:=p) (i:=i) hi) J<|ah 5 (.d (vI (f9 (E.take (k+1)) p))) J (by rw[Km hx]<;>rfl)<|at_ (k+1) ⟨(by omega),(by omega)⟩
 .
  obtain rfl:k=E.length:=by omega
  rw[cJ];exact rz J J
def jl(v:List aa):List (List DV):=(List.range v.length).map fun i=>[vI (i:Nat),Di (v.getD i ⟨0,0⟩) (v.getD ((i+1)%v.length) ⟨0,0⟩)]
def K2{v:List aa}{i:Nat}{p q:aa}(h1:v[i]? =some p)(h2:v[(i+1)%v.length]? =some q):(jl v)[i]? =some [vI (i:Nat),Di p q]:=by
 have hi:=(aT.1 h1).1;unfold jl;rw[fY,List.getElem?_range hi,kR,aK,aK,h1,h2];rfl
def zh{v:List aa}{i:Nat}{e:List DV}(h:(jl v)[i]? =some e): ∃p q,v[i]? =some p/\v[(i+1)%v.length]? =some q/\e=[vI (i:Nat),Di p q]:=by
 have hi:i<v.length:=by
  have:=(aT.1 h).1;unfold jl at this;simpa using this
 have h1:v[i]? =some v[i]:=aZ hi;have hm:(i+1)%v.length<v.length:=dQ _ (by omega);have h2:v[(i+1)%v.length]? =some v[(i+1)%v.length]:=aZ hm;refine⟨_,_,h1,h2,?_⟩;rw[K2 h1 h2] at h;exact(Option.some.inj h).symm
def zi{v:List aa}: ∀e∈jl v,e.length=2:=fun e he=>by
 obtain⟨i,_,rfl⟩:=bX.1 he;rfl
def zJ{v:List aa}(hn:v.length<=100000:=by omega):It GB prog 117 [.pt [.sl (v.map eZ)]] (jl v):=by
 have hml:(v.map eZ).length=v.length:=aX ..;have hrl:(jl v).length=v.length:=by unfold jl;simp
 refine X8 func117 J J ntmps117 J (fun _=>J) (fun l Jv Jx GB' hg H C hp hJ=>?_);refine D2 1 J<|gx J<|ah 6 (.d (vI (v.length:Nat))) J (by rw[hml]<;>rfl)<|Yc (X:=Nat) (fun k=>[(0, .d (.v (.func (.yield l) #[] #[]))),(1, .ep [.sl (v.map eZ)]),(5, .d (.sl (v.map eZ))),(6, .d (vI (v.length:Nat))),(7, .d (vI (k:Nat)))]) (fun k C=>k<=v.length/\Jv k C.G0 C.w0) (fun k=>v.length-k) 0 hp ⟨aN _,hJ⟩ (fun _=>J) (fun k C1 hp1 hk=>?_);obtain⟨hk1,hJ1⟩:=hk;refine br J J J (fun hc8=>?_) (fun hc8=>?_)
 .obtain⟨p,hpx⟩: ∃u,v[k]? =some u:=⟨_,aZ (by omega)⟩
  obtain⟨q,hqx⟩: ∃u,v[(k+1)%v.length]? =some u:=⟨_,aZ (dQ _ (by omega))⟩;refine ix _ J (cO hpx) J<|ah 20 (.d (vI (((k+1)%v.length:Nat):Int))) J (by rw[hml]<;>rfl)<|gx J<|ix _ J (cO hqx) J<|Z9 (len:=2) (s:=6) (e:=102) J (by kernel_rfl) (by kernel_rfl) J<|SZ (by kernel_rfl) J ?_;refine cy [(0, .d (.v (.func (.yield l) #[] #[]))),(1, .ep [.sl (v.map eZ)]),(5, .d (.sl (v.map eZ))),(6, .d (vI (v.length:Nat))),(7, .d (vI (k:Nat)))] H hp1 hJ1 J (K2 hpx hqx) J (by repeat (first|exact trivial|refine And.intro J ?_)) J J J (fun C3 hp3 hJ3=>?_) (fun C3 hp3 hJ3=>?_)
  .exact Zo (k+1) hp3 ⟨⟨by omega,hJ3⟩,by omega⟩
  .exact Lg H hp3 (.inr hJ3) J
 .obtain rfl:k=v.length:=by omega
  exact Lg H hp1 (.inl (by rw[hrl];exact hJ1)) J
def yo{v:List aa}:E5 GB prog 68 [.sl (v.map eZ)] 117 (.pt [.sl (v.map eZ)]):=by
 refine aI5 func68 J J ntmps68 J J (fun C=>?_);refine fz 1 J J<|q9 1 J (fun GB' pv hg hp=>?_);refine WR J J<|WT J J hp
def aFk:wo 100:=fun x w=>by kernel_rfl
def Wb(m:List Value):zT 100 (.agg ⟨m⟩) "Mul" 226:=fun w=>by kernel_rfl
def Vn{G:Gh}{q:Rat}{u:Value}(h:Is G (eF q) u):zT 100 u "Mul" 226:=by
 obtain⟨m,rfl,_⟩:=dm.1 h;exact Wb m
def avc(l:List Rat)(k:Nat)(y:Rat):(l.map eF).set k (eF y)=(l.set k y).map eF:=(oX ..).symm
def lB(L:List Rat)(k:Rat)(j:Nat):List Rat:=(L.take j).map (· *k)++L.drop j
def aAI(L:List Rat)(k:Rat)(j:Nat):(lB L k j).length=L.length:=by
 unfold lB;rw[aL,aX,bK,fN];omega
def aBe{L:List Rat}{k a:Rat}{j:Nat}(h:L[j]? =some a):(lB L k j)[j]? =some a:=by
 have hj:=(aT.1 h).1;unfold lB;rw[gK (by rw[aX,bK];omega),aX,bK,lQ,<-h];congr 1;omega
def aAX{L:List Rat}{k a:Rat}{j:Nat}(h:L[j]? =some a):(lB L k j).set j (a*k)=lB L k (j+1):=by
 have hj:=(aT.1 h).1;unfold lB;rw[fJ,h,mT _ _ (by rw[aX,bK];omega),aX,bK,show j-min j L.length=0 by omega,cW hj];simp only[Option.toList_some,cY,bJ,dS,List.set_cons_zero,cN,cX,cZ]
def Bo{L:List Rat}{k:Rat}{i:Nat}[hk:BQ k i](hb: ∀a∈L,BQ a i)(hn:L.length<=1000)(hi:i<=1000000:=by decide):PB GB prog 231 (mA [some (eF k),none]) 3 100 (L.map eF) (fun w=> .v (.slice w.a w.n w.c)) ((L.map (· *k)).map eF):=by
 have hml:(L.map eF).length=L.length:=aX ..;refine Og (fu:=⟨11⟩) func231 J J ntmps231 J J (fun C=>?_);refine ah 7 (.d (vI (L.length:Nat))) J (by rw[hml]<;>rfl)<|gx J<|lp (X:=Nat) (fun j=>[(8, .d (vI (j:Nat)))]) (fun j=>[(1000000,some (.b 100 3 ((lB L k j).map eF) false))]) (fun j=>j<=L.length) (fun j=>L.length-j) 0 J (aN _) (fun _=>J) (fun j hk=>?_);have hsl:=aAI L k j;have hsm:((lB L k j).map eF).length=(lB L k j).length:=aX ..;refine br J J J (fun hc9=>?_) (fun hc9=>?_)
 .
  obtain⟨a,hx⟩: ∃u,L[j]? =some u:=⟨_,aZ (by omega)⟩;have ham:=aV hx;haveI:=hb a ham;have hga:(lB L k j)[j]? =some a:=aBe hx;refine lb (fu:=⟨0⟩) _ J (cO hga) J<|SE (fu:=⟨1⟩) J aFk J<|Ww J (fun G u h=>Vn h) (rj (p:=a) (q:=k) (i:=i) (j:=i) (by omega) (by omega)) J<|sb (hv:=by simp only[aj];exact⟨by kernel_rfl,by omega⟩) _ ((lB L k (j+1)).map eF) J (cO hga) J (by rw[<-aAX hx,<-avc]<;>rfl) J<|at_ (j+1) ⟨(by omega),(by omega)⟩
 .
  obtain rfl:j=L.length:=by omega
  have hend:lB L k L.length=L.map (· *k):=by unfold lB;rw[cJ,lZ,iN]
  exact Fk J J J (by rw[hend])
def Ey{a:Int}{g:Nat}(hg:0<g)(hd:g∣a.natAbs):(a:Rat)*(((g:Nat):Int):Rat)⁻¹=((zv (decide (a<0)) (a.natAbs/g):Int):Rat):=by
 obtain⟨q,hq⟩:=hd;have e:zv (decide (a<0)) (a.natAbs/g)*(g:Int)=a:=by
  rw[hq,nR q hg];unfold zv;have hc:((g*q:Nat):Int)=(g:Int)*(q:Int):=by simp
  have hm:=qN (g:Int) (q:Int);split
  .rename_i h
   have h:=of_decide_eq_true h;rw[Int.neg_mul];omega
  .rename_i h
   have h: ¬a<0:=fun k=>h (decide_eq_true k);omega
 generalize zv (decide (a<0)) (a.natAbs/g)=z at*;have h0:((g:Int):Rat)≠0:=by
  intro k;have:(g:Int)=0:=by exact_mod_cast k
  omega
 rw[<-e,cK];generalize ((g:Int):Rat)=r at*;grind
def FY{z:Int}(h:z.natAbs<=1000000:=by omega): ¬fG (z:Rat):=fun k=>k ⟨by show z.natAbs<_;omega,by show 1<_;decide⟩
theorem I4(p q:aa){i j:Nat}[aO p i][aO q j]:aO ⟨p.x-q.x,p.y-q.y⟩ (i+j+1):=⟨inferInstanceAs (BQ (p.x-q.x) _),inferInstanceAs (BQ (p.y-q.y) _)⟩
theorem lD{z:Int}(h:z.natAbs<=1000000:=by omega):BQ (z:Rat) 22:=by
 have e:(2:Nat)^21=2097152:=by decide
 haveI:BI z 21:=⟨u7 (by omega)⟩;exact(inferInstance:BQ (z:Rat) 22)
def Rb{a b c:Int}(ha:a.natAbs<=1000000)(hb:b.natAbs<=1000000)(hc:c.natAbs<=1000000)(h0: ¬(a=0/\b=0)):PF GB prog 184 [eF (a:Rat),eF (b:Rat),eF (c:Rat)] (.tp [cG (ge a b c),vB true]):=by
 haveI:=lD ha;haveI:=lD hb;haveI:=lD hc;have hgn:Nat.gcd a.natAbs b.natAbs≠0:=fun h=>h0 ⟨iU.1 (jU h),iU.1 (jY h)⟩;have hgp:0<Nat.gcd (Nat.gcd a.natAbs b.natAbs) c.natAbs:=kZ _ (eK hgn);have eg:rgcd (rgcd (a:Rat) b) c=(((Nat.gcd (Nat.gcd a.natAbs b.natAbs) c.natAbs:Nat):Int):Rat):=by rw[tU,tU];rfl
 have e1:(a:Rat)*(rgcd (rgcd (a:Rat) b) c)⁻¹=((ge a b c).a:Rat):=by rw[eg];exact Ey hgp (nK (iW _ _) (iW _ _))
 have e2:(b:Rat)*(rgcd (rgcd (a:Rat) b) c)⁻¹=((ge a b c).b:Rat):=by rw[eg];exact Ey hgp (nK (iW _ _) (jW _ _))
 have e3:(c:Rat)*(rgcd (rgcd (a:Rat) b) c)⁻¹=((ge a b c).c:Rat):=by rw[eg];exact Ey hgp (jW _ _)
 haveI:BQ (rgcd (a:Rat) b) 200:=BQ.mono (inferInstance:BQ (rgcd (a:Rat) b) _);haveI:BQ (rgcd (rgcd (a:Rat) b) c) 600:=BQ.mono (inferInstance:BQ (rgcd (rgcd (a:Rat) b) c) _);haveI:BQ (rgcd (rgcd (a:Rat) b) c)⁻¹ 600:=BQ.mono (inferInstance:BQ (rgcd (rgcd (a:Rat) b) c)⁻¹ _);have hl4:([((ge a b c).a:Rat),((ge a b c).b:Rat),((ge a b c).c:Rat)].map eF).length=3:=J;have hl3:[((ge a b c).a:Rat),((ge a b c).b:Rat),((ge a b c).c:Rat)].length=3:=J;refine fn func184 J J ntmps184 J J (fun C=>?_);refine cl J (qv (q:=(a:Rat))) J<|csd 11 J J J (fun hg11=>?_) (fun hg11=>?_)
 .
  refine cl J (qv (q:=(b:Rat))) J<|bd J J J (fun hc14=>?_) (fun hc14=>?_)
  .
   exact absurd ⟨by exact_mod_cast hg11,by exact_mod_cast hc14⟩ h0
  .
   refine cl rfl (kw (p:=(a:Rat)) (q:=(b:Rat)) (i:=22) (j:=22)) rfl<|cl rfl (kw (p:=rgcd (a:Rat) b) (q:=(c:Rat)) (i:=200) (j:=22)) rfl<|cl rfl (yL (q:=rgcd (rgcd (a:Rat) b) c) (i:=600)) rfl<|ro (fu:=⟨0⟩) J J<|cq (hv:=by simp only[aj];exact⟨by kernel_rfl,by omega⟩) ([((ge a b c).a:Rat),((ge a b c).b:Rat),((ge a b c).c:Rat)].map eF) rfl (Bo (L:=[(a:Rat),(b:Rat),(c:Rat)]) (k:=(rgcd (rgcd (a:Rat) b) c)⁻¹) (i:=600) (by intro q hq;simp only[aU,jS,or_false] at hq;rcases hq with rfl|rfl|rfl;exact(lD ha).mono (by decide);exact(lD hb).mono (by decide);exact(lD hc).mono (by decide)) (nb rfl)) (by simp only[bJ,dS,e1,e2,e3]) rfl<|lb _ J J J<|lb _ J J J<|lb _ J J J<|rz J J
 .
  refine cl rfl (kw (p:=(a:Rat)) (q:=(b:Rat)) (i:=22) (j:=22)) rfl<|cl rfl (kw (p:=rgcd (a:Rat) b) (q:=(c:Rat)) (i:=200) (j:=22)) rfl<|cl rfl (yL (q:=rgcd (rgcd (a:Rat) b) c) (i:=600)) rfl<|ro (fu:=⟨0⟩) J J<|cq (hv:=by simp only[aj];exact⟨by kernel_rfl,by omega⟩) ([((ge a b c).a:Rat),((ge a b c).b:Rat),((ge a b c).c:Rat)].map eF) rfl (Bo (L:=[(a:Rat),(b:Rat),(c:Rat)]) (k:=(rgcd (rgcd (a:Rat) b) c)⁻¹) (i:=600) (by intro q hq;simp only[aU,jS,or_false] at hq;rcases hq with rfl|rfl|rfl;exact(lD ha).mono (by decide);exact(lD hb).mono (by decide);exact(lD hc).mono (by decide)) (nb rfl)) (by simp only[bJ,dS,e1,e2,e3]) rfl<|lb _ J J J<|lb _ J J J<|lb _ J J J<|rz J J
theorem uP{z:ZP}(h:ZP.le 100 z):aO z.q 22:=⟨lD (by have:=h.1;omega),lD (by have:=h.2;omega)⟩
def tH{a b:Int}{m n:Nat}(ha:a.natAbs<=m)(hb:b.natAbs<=n):(a*b).natAbs<=m*n:=by
 rw[fX];exact kW ha hb
def WF{v w:ZP}(hv:ZP.le 100 v)(hw:ZP.le 100 w)(h:v≠w):PF GB prog 118 [eZ v.q,eZ w.q] (.tp [cG (ja v.1 v.2 w.1 w.2),vB true]):=by
 haveI:=uP hv;haveI:=uP hw;have hv1:=hv.1;have hv2:=hv.2;have hw1:=hw.1;have hw2:=hw.2;obtain⟨A,hA⟩: ∃A,A=jd v.2 w.2:=⟨_,rfl⟩;obtain⟨B,hB⟩: ∃B,B=ji v.1 w.1:=⟨_,rfl⟩;obtain⟨C0,hC⟩: ∃C0,C0=oy v.1 v.2 w.1 w.2:=⟨_,rfl⟩;have bA:A.natAbs<=200:=by rw[hA];unfold jd;omega
 have bB:B.natAbs<=200:=by rw[hB];unfold ji;omega
 have m1:=tH bA hv1;have m2:=tH bB hv2;have eC:C0= -(A*v.1+B*v.2):=by rw[hC,hA,hB];rfl
 have bC:C0.natAbs<=40000:=by rw[eC];omega
 have h0: ¬(A=0/\B=0):=fun k=>h (Prod.ext (by have:=k.2;rw[hB] at this;unfold ji at this;omega) (by have:=k.1;rw[hA] at this;unfold jd at this;omega));haveI:aO (iP A B) 22:=⟨lD,lD⟩;haveI:BQ ((A*v.1+B*v.2:Int):Rat) 22:=lD;have eT:oe ⟨w.q.x-v.q.x,w.q.y-v.q.y⟩=iP A B:=by rw[hA,hB];unfold oe iP jd ji ZP.q iP;simp only[aa.mk.injEq];push_cast;constructor<;>grind
 have eD:(iP A B).dot v.q=((A*v.1+B*v.2:Int):Rat):=by unfold aa.dot iP ZP.q iP;push_cast;rfl
 have eN: -((A*v.1+B*v.2:Int):Rat)=((C0:Int):Rat):=by rw[eC];push_cast;rfl
 refine fn func118 J J ntmps118 J J (fun C=>?_);refine cl J (Ko (p:=w.q) (q:=v.q) (i:=22) (j:=22)) J<|cl (fu:=⟨0⟩) J (Nb (p:=⟨w.q.x-v.q.x,w.q.y-v.q.y⟩) (i:=45) (h:=I4 w.q v.q)) J<|ah 12 (.d (eZ (iP A B))) J (by rw[eT])<|gx J<|cl (fu:=⟨0⟩) J (sj (p:=iP A B) (q:=v.q) (i:=22) (j:=22)) J<|ah 19 (.d (eF ((A*v.1+B*v.2:Int):Rat))) J (by rw[eD])<|gx J<|cl (fu:=⟨0⟩) J (nA (q:=((A*v.1+B*v.2:Int):Rat)) (i:=22)) J<|ah 20 (.d (eF ((C0:Int):Rat))) J (by rw[eN])<|gx J<|cl J (Rb (a:=A) (b:=B) (c:=C0) (by omega) (by omega) (by omega) h0) J<|rz J (by rw[hA,hB,hC];rfl)
def PP{l:ab}(ho:l.ok)(ha:l.a.natAbs<=200)(hb:l.b.natAbs<=200){m n:Int}(hm:m.natAbs<=100)(hn:n.natAbs<=100): ¬fG (dH l (iP m n)):=by
 have hd:=y7 ho.ne;have p1:=tH ha ha;have p2:=tH hb hb;have p3:=tH hm hb;have p4:=tH hn ha;have hA:(l.a*l.a+l.b*l.b).natAbs<4611686018427387904:=by omega
 have hB:(m*l.b-n*l.a).natAbs<4611686018427387904:=by omega
 have e1:l.dir.dot l.dir=((l.a*l.a+l.b*l.b:Int):Rat):=by
  rw[oU,cK,cK];simp only[ab.dir,aa.dot];grind
 have e2:(iP m n).dot l.dir=((m*l.b-n*l.a:Int):Rat):=by
  rw[oT,cK,cK];simp only[ab.dir,aa.dot,iP];grind
 have hd':((0:Int):Rat)<((l.a*l.a+l.b*l.b:Int):Rat):=by rw[<-e1];exact hd
 unfold dH;rw[e2,e1];clear e1 e2 p1 p2 p3 p4;generalize l.a*l.a+l.b*l.b=D at*;generalize m*l.b-n*l.a=M at*;have hD:0<D:=rK.1 hd';have h0:(D:Rat)≠0:=fun e=>by rw[e] at hd';exact absurd hd' (by decide)
 have:((D.natAbs:Nat):Rat)=(D:Rat):=by
  have h1:((D.natAbs:Nat):Int)=D:=by omega
  rw[<-h1];rfl
 have hf:=JP (q:=(M:Rat)/(D:Rat)) (n:=M) (d:=D.natAbs) (by omega) (by rw[this];grind);exact fun k=>k ⟨by omega,by omega⟩
def QH{v w:ZP}(hv:ZP.le 100 v)(hw:ZP.le 100 w)(h:v≠w):FE (di v w):=by
 have hf:=MX hv hw h;have hv1:=hv.1;have hv2:=hv.2;have hw1:=hw.1;have hw2:=hw.2;have bA:(jd v.2 w.2).natAbs<=200:=by unfold jd;omega
 have bB:(ji v.1 w.1).natAbs<=200:=by unfold ji;omega
 have m1:=tH bA hv1;have m2:=tH bB hv2;have bC:(oy v.1 v.2 w.1 w.2).natAbs<=40000:=by unfold oy;omega
 obtain⟨k1,k2,k3⟩:=Pk (jd v.2 w.2) (ji v.1 w.1) (oy v.1 v.2 w.1 w.2);have ea:(di v w).l.a.natAbs<=200:=dJ k1 bA;have eb:(di v w).l.b.natAbs<=200:=dJ k2 bB;have ec:(di v w).l.c.natAbs<=40000:=dJ k3 bC;exact⟨hf,⟨FY,FY,FY,PP hf.ok ea eb hv1 hv2,PP hf.ok ea eb hw1 hw2⟩,J,J⟩
def awJ{r:List ZP}(h:dz r): ∀f∈ij r,FE f:=fun f hf=>by
 obtain⟨k,hk,rfl⟩:=GO hf;exact QH (h.le _ (xZ hk)) (h.le _ (Ae hk)) (h.ne k hk)
def Rn{rs:List (List ZP)}(h: ∀r∈rs,dz r): ∀f∈cP rs,FE f:=fun f hf=>by
 obtain⟨r,h1,h2⟩:=gQ.1 hf;exact awJ (h r h1) f h2
def Rv{v w:ZP}(hv:ZP.le 100 v)(hw:ZP.le 100 w)(h:v≠w):PF GB prog 69 [eZ v.q,eZ w.q] (.tp [bj (di v w),vB true]):=by
 have hf:=QH hv hw h;haveI:LB (ja v.1 v.2 w.1 w.2):=hf.fo.lb;haveI:=uP hv;haveI:=uP hw;refine fn func69 J J ntmps69 J J (fun C=>?_);refine cl (fu:=⟨12⟩) J (WF hv hw h) J<|fi 14 J<|gx J<|cl J (BO (l:=ja v.1 v.2 w.1 w.2) (p:=v.q) (i:=22)) J<|cl J (BO (l:=ja v.1 v.2 w.1 w.2) (p:=w.q) (i:=22)) J<|rz J J
def Dg{r:List ZP}{k:Nat}{p:aa}(h:(r.map ZP.q)[k]? =some p):k<r.length/\p=(r.getD k (0,0)).q:=by
 rw[fY] at h
 cases e:r[k]? with
 |none=>rw[e] at h;cases h
 |some z=>
  rw[e] at h;cases h;exact⟨(aT.1 e).1,by rw[aK,e];rfl⟩
def B5(r:List ZP): ∀n,(kt r n).length=n
 |0=>rfl
 |n+1=>by rw[kt,aL,B5 r n];rfl
def IJ{r:List ZP}{k:Nat}: ∀{n:Nat},k<n->(kt r n)[k]? =some (di (r.getD k (0,0)) (et r k))
 |0,h=>by omega
 |n+1,h=>by
  rw[kt];by_cases e:k=n
  .subst e
   rw[gK (by rw[B5];omega),B5,nN];rfl
  .rw[eX (by rw[B5];omega)]
   exact IJ (by omega)
def sF(l:List aH):du 17 (l.map bj):=fun d hd=>by
 obtain⟨x,_,rfl⟩:=bX.1 hd;exact⟨J,J⟩
def J3{L:List aH}{k:Nat}{l:aH}(h:L[k]? =some l):((L.take k).map bj)++[bj l]=(L.take (k+1)).map bj:=by
 rw[fJ,h,cY];rfl
def P1{r:List ZP}(h:dz r):PF GB prog 30 [.sl ((r.map ZP.q).map eZ)] (.sl ((ij r).map bj)):=by
 have hn:=h.n6;obtain⟨v,hv⟩: ∃v,v=r.map ZP.q:=⟨_,rfl⟩;have hvl:v.length=r.length:=by rw[hv,aX]
 rw[<-hv];have hel:(ij r).length=r.length:=(ud h).1;have hrl:(jl v).length=r.length:=by unfold jl;rw[aX,oN,hvl]
 refine Bv func30 J J ntmps30 J J (fun C h0=>?_);refine xi J J J yo (fun _=>J) (fun GB1 pv hg1 hpv=>?_);refine wA 3 0 50 139 17 J J J J J<|sO 3 2000003 h0.fx J ?_;refine yw (σ:=Empty) (fun k=>[(2000003,some (.o 91 [.rw 50] true)),(50,some (.b 139 17 (((ij r).take k).map bj) true))]) (fun _=>True) (fun _=>[]) (fun _=>False) [(3, .ov 2000003 0)]
  h0 J (zJ) (.cons hpv .nil) ⟨J,trivial⟩ J ⟨J,J,trivial⟩ trivial zi J J (fun k e GB' hE hg hp=>?_) (fun D hD hx hp=>?_) (fun D s hD hx hq=>hq.elim)
 .obtain⟨p,q,hpx,hqx,rfl⟩:=zh hE
  rw[hvl] at hqx;rw[hv] at hpx hqx;obtain⟨hk,rfl⟩:=Dg hpx;obtain⟨hk2,rfl⟩:=Dg hqx;have hx:(ij r)[k]? =some (di (r.getD k (0,0)) (et r k)):=IJ hk;have hml:(((ij r).take k).map bj).length=k:=by rw[aX,bK];omega
  refine⟨?_,?_,fun C2=>?_,fun C2=>?_⟩
  rotate_left 2
  .refine gx J<|zS J J J ⟨J,J,J⟩ J ?_
   exact atR
  .refine gx J<|pH 0 (e:=102) (len:=2) (s:=6) J (by kernel_rfl) (by kernel_rfl) (by decide) J<|pH 1 (e:=102) (len:=2) (s:=6) J (by kernel_rfl) (by kernel_rfl) (by decide) J<|cl J (Rv (h.le _ (xZ hk)) (h.le _ (Ae hk)) (h.ne k hk)) J<|rf J J<|ap (((ij r).take (k+1)).map bj) J (J3 hx) (sF [di (r.getD k (0,0)) (et r k)]) J<|fD 23 50 J ?_
   exact rq trivial ⟨J,J,trivial⟩
 .rw[hrl,<-hel,cJ]
  refine gx J<|ke 50 J ?_;exact A9 hD hx J J
def aKl(x:Rat):Rat:=if 0<x then x else 0
def aJW(w1 w2 w3 w4:Rat)(p1 p2 p3 p4:aa):aa:=⟨(w1*p1.x+w2*p2.x+w3*p3.x+w4*p4.x)*(w1+w2+w3+w4)⁻¹,(w1*p1.y+w2*p2.y+w3*p3.y+w4*p4.y)*(w1+w2+w3+w4)⁻¹⟩
end Go.Sx
end
