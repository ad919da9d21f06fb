import Derived.Test.YtjpdfobnjmflkaaGreatDoorMs16
import Derived.RangeFuncSeq
set_option linter.all false
set_option maxHeartbeats 1000000
set_option maxRecDepth 100000
section
namespace Go.Sx
open Go Go.Proofs Tryz
variable {GB G G1:Gh}{l m:aa}{e c d:ao}{s:bw}{ds:List ah}{n i g k j:Nat}{α X:Type}{t x y:Tr}{u p:ah}{a:Act}{b:Bool}{w w1:World}{P:Program}{Q Q0:Exit->Act->World->Prop}{ops:Array Oper}{o:Oper}{r pre:List Oper}{K:List Kt}{C C':aE}{fr fr0 fr' fr1 fr2:aD}{own0 own' own1 own2:aI}{cf' cf1 cf2:Cf}{vc vc1 vc2:List Prop}{fb:Func}{E:List (List DV)}{Jv:Nat->Gh->World->Prop}{Jx:Gh->World->Prop}
def aDd(hl:l.ok)(hm:m.ok)(h:ge l.dir m.dir=0): ∃k e:Rat,0<k/\ ∀p,m.value p=k*l.value p+e:=by
 obtain⟨h1,h2⟩:=Zd.1 h;have z1:=DK hl;have key: ∃k:Rat,0<k/\m.dir.x=k*l.dir.x/\m.dir.y=k*l.dir.y:=by
  unfold ah.cross at h2;rcases vo l.dir with⟨e,k⟩|⟨e,k⟩|⟨e,k⟩
  .rw[e] at h1
   have k2:=oH.1 h1.symm;rcases k with k|⟨k,k'⟩
   .have y2:0<m.dir.y:=by
     rcases k2 with k2|⟨k2,k3⟩
     .exact k2
     .exfalso
      rw[k2] at h2;have:=di k k3;grind
    refine⟨m.dir.y/l.dir.y,?_,by grind,by grind⟩;have:0<m.dir.y/l.dir.y:=(f8 k).1 (by rw[show m.dir.y/l.dir.y*l.dir.y=m.dir.y by grind];exact y2);exact this
   .rw[k] at h2
    have y2:m.dir.y=0:=by
     rcases fK.1 (show l.dir.x*m.dir.y=0 by grind) with q|q
     .rw[q] at k';exact absurd k' (by decide)
     .exact q
    have x2:0<m.dir.x:=by
     rcases k2 with k2|⟨_,k3⟩
     .rw[y2] at k2;exact absurd k2 (by decide)
     .exact k3
    refine⟨m.dir.x/l.dir.x,(f8 k').1 (by rw[show m.dir.x/l.dir.x*l.dir.x=m.dir.x by grind];exact x2),by grind,by rw[y2,k];grind⟩
  .rw[e] at h1
   have k2:=u7.1 h1.symm;rcases k with k|⟨k,k'⟩
   .have y2:m.dir.y<0:=by
     rcases k2 with k2|⟨k2,k3⟩
     .exact k2
     .exfalso
      rw[k2] at h2;have:=di (show 0< -l.dir.y by grind) (show 0< -m.dir.x by grind);grind
    refine⟨m.dir.y/l.dir.y,(f8 (show 0< -l.dir.y by grind)).1 (by rw[show m.dir.y/l.dir.y* -l.dir.y= -m.dir.y by grind];grind),by grind,by grind⟩
   .rw[k] at h2
    have y2:m.dir.y=0:=by
     rcases fK.1 (show l.dir.x*m.dir.y=0 by grind) with q|q
     .rw[q] at k';exact absurd k' (by decide)
     .exact q
    have x2:m.dir.x<0:=by
     rcases k2 with k2|⟨_,k3⟩
     .rw[y2] at k2;exact absurd k2 (by decide)
     .exact k3
    refine⟨m.dir.x/l.dir.x,(f8 (show 0< -l.dir.x by grind)).1 (by rw[show m.dir.x/l.dir.x* -l.dir.x= -m.dir.x by grind];grind),by grind,by rw[y2,k];grind⟩
  .exact absurd e z1
 obtain⟨k,k0,kx,ky⟩:=key;simp only[aa.dir] at kx ky;refine⟨k,(m.c:Rat)-k*(l.c:Rat),k0,fun p=>?_⟩;rw[je,je,kx];have:(m.a:Rat)=k*(l.a:Rat):=by grind
 rw[this];grind
def O9(hne: ∃q,bt e q)(hl:l.ok)(hm:m.ok)(pl: ∀p,bt e p->0<l.value p)(pm: ∀p,bt e p->0<m.value p)(tl: ∃p,gI e p/\l.value p=0)(tm: ∃p,gI e p/\m.value p=0)(ha:ge l.dir m.dir=0):l=m:=by
 obtain⟨k,c,k0,hk⟩:=aDd hl hm ha;obtain⟨p,p1,p2⟩:=tl;obtain⟨q,q1,q2⟩:=tm;have g1:=sj hne pm p1;rw[hk,p2] at g1;have g2:=sj hne pl q1;have g3:=cI (dQ k0) g2;rw[hk] at q2;have c0:c=0:=by grind
 have hz: ∀t,m.value (l.at t)=0:=fun t=>by rw[hk,l7 hl.ne,c0];grind
 rcases yo hm hl hz with h|h
 .exact h.symm
 .exfalso
  obtain⟨u,hu⟩:=hne;have a:=pl u hu;have b:=pm u hu;rw[h,eh] at b;grind
def yg(hc:bC c)(hs:s∈c):gI c (s.l.at s.v.sample)/\s.l.value (s.l.at s.v.sample)=0:=
 ⟨((hc.edge s hs).2 _).1 (oG (hc.edge s hs).1).has,l7 (hc.ok s hs).ne _⟩
def fq(c:ao):Prop:=(c.map fun s=>s.l.dir).Pairwise ek
def IF{p:Nat->Bool}{N:Nat}(hm: ∀i j,i<=j->j<N->p j=true->p i=true): ∀(d i j:Nat),j-i<=d->i<=j->j<=N->(∀k,k<i->p k=true)->(∀k,j<=k->k<N->p k=false)->(∀k,k<fG p i j->p k=true)/\ ∀k,fG p i j<=k->k<N->p k=false
 |0,i,j,h,hij,hN,h1,h2=>by
  obtain rfl:i=j:=by omega
  rw[fG,dif_neg (by omega)];exact⟨h1,h2⟩
 |d+1,i,j,h,hij,hN,h1,h2=>by
  by_cases q:i<j
  .rw[fG,dif_pos q]
   by_cases r:p ((i+j)/2)=true
   .rw[if_pos r]
    exact IF hm d _ _ (by omega) (by omega) hN (fun k hk=>hm k ((i+j)/2) (by omega) (by omega) r) h2
   .rw[if_neg r]
    refine IF hm d _ _ (by omega) (by omega) (by omega) h1 fun k hk hkN=>?_
    cases hp:p k with
    |false=>rfl
    |true=>exact absurd (hm _ k hk hkN hp) r
  .obtain rfl:i=j:=by omega
   rw[fG,dif_neg q];exact⟨h1,h2⟩
def K1{d:ah}(h:ds.Pairwise ek)(h1: ∀x∈ds.take n,ek x d)(h2: ∀x∈ds.drop n,ek d x):(ds.take n++d::ds.drop n).Pairwise ek:=by
 have hs:=h;rw[<-kX n ds,gT] at hs;obtain⟨a,b,c⟩:=hs;rw[gT];refine⟨a,bL.2 ⟨h2,b⟩,fun x hx y hy=>?_⟩;rcases aW.1 hy with rfl|hy
 .exact h1 x hx
 .exact c x hx y hy
def FZ(l:aa): ∀c:ao,((d7 l c).map fun s=>s.l.dir).Sublist (c.map fun s=>s.l.dir)
 |[]=>List.Sublist.refl _
 |s::c=>by
  rw[d7];split
  .exact(FZ l c).cons_cons _
  .exact(FZ l c).cons _
def Qf{l:List α}{x:α}(h:x∈l.take n): ∃i,i<n/\l[i]? =some x:=by
 obtain⟨i,hi,e⟩:=oJ.1 h;rw[bT] at hi;exact⟨i,by omega,by rw[List.getElem_take] at e;rw[aZ (by omega),e]⟩
def SA{l:List α}{x:α}(h:x∈l.drop n): ∃i,n<=i/\i<l.length/\l[i]? =some x:=by
 obtain⟨i,hi,e⟩:=oJ.1 h;rw[gU] at hi;exact⟨n+i,by omega,by omega,by rw[List.getElem_drop] at e;rw[aZ (by omega),e]⟩
def CS(hc:bC c)(hl:l.ok)(ha:fq c)(hb:co c l=true):fq (bD c l):=by
 have hg:=(gv hc hl hb).1;unfold bD at hg⊢
 cases hp:kh c l with
 |none=>exact ha
 |some v=>
  simp only[hp] at hg⊢;have hs:fq (d7 l c):=ha.sublist (FZ l c);have nt: ∀s∈d7 l c,ge s.l.dir l.dir≠0:=fun s h e=>by
   have m1:s∈ld (d7 l c) l v:=qt.2 (.inr h);have m2:(⟨l,v⟩:bw)∈ld (d7 l c) l v:=qt.2 (.inl J);have ee:=O9 hg.ne (hg.ok s m1) hl (fun p hp=>hp s m1) (fun p hp=>hp ⟨l,v⟩ m2) ⟨_,yg hg m1⟩ ⟨_,yg hg m2⟩ e;obtain⟨s0,g1,_,rfl⟩:=q8.1 h;obtain⟨_,q,q1,q2⟩:=HQ hl.ne hp;have h5:=q1 s0 g1;have e5:s0.l=l:=ee;rw[e5] at h5;grind
  generalize d7 l c=d at*;have hmo: ∀i j,i<=j->j<d.length->ja d l j=true->ja d l i=true:=fun i j hij hj h=>by
   unfold ja at h⊢;rw[aZ hj] at h;rw[aZ (by omega)];simp only[decide_eq_true_eq,wY] at h⊢;by_cases q:i=j
   .subst q;exact h
   .have:=qX.1 hs i j (by simp;omega) (by simp;omega) (by omega)
    simp only[pL] at this;exact Br this h
  obtain⟨k1,k2⟩:=IF hmo d.length 0 d.length (by omega) (by omega) (bK _) (fun k h=>absurd h (by omega)) (fun k h h'=>absurd h' (by omega));unfold ld fq;generalize fG (ja d l) 0 d.length=n at*;rw[aS,bU,iR,jZ];refine K1 hs (fun x hx=>?_) (fun x hx=>?_)
  .rw[<-iR] at hx
   obtain⟨s,h1,rfl⟩:=aT.1 hx;obtain⟨i,hi,e⟩:=Qf h1;have:=k1 i hi;unfold ja at this;rw[e] at this;simpa[wY] using this
  .rw[<-jZ] at hx
   obtain⟨s,h1,rfl⟩:=aT.1 hx;obtain⟨i,hi,hi2,e⟩:=SA h1;have:=k2 i hi hi2;unfold ja at this;rw[e] at this;have h3: ¬ek s.l.dir l.dir:=by simpa[wY] using this
   by_cases q:ek l.dir s.l.dir
   .exact q
   .exact absurd (M' h3 q) (nt s (gR h1))
def J3: ∀{t:Tr} {c:ao},t.all aa.ok->bC c->fq c-> ∀x∈t.parts c,fq x.2
 | .leaf b,c,_,_,ha,x,h=>by
  rw[Tr.parts,aU] at h;subst h;exact ha
 | .node l u v,c,ht,hc,ha,x,h=>by
  rw[Tr.parts] at h;rcases bJ.1 h with h|h
  .split at h
   .rename_i hb
    exact J3 ht.2.1 (gv hc ht.1 hb).1 (CS hc ht.1 ha hb) x h
   .cases h
  .split at h
   .rename_i hb
    exact J3 ht.2.2 (gv hc ht.1.rev hb).1 (CS hc ht.1.rev ha hb) x h
   .cases h
def t7(c:List aa):Prop:=(c.map aa.dir).Pairwise ek
def Kb{c:List aa}(hs: ∀s∈e,s.l∈c)(hl:l.ok)(he:(f9 l c ar.all).isSome=true): ∃w:ar,w.Pos/\ ∀t,w.ins t->gI e (l.at t)/\l.value (l.at t)=0/\ ∀m∈c,m≠l->0<m.value (l.at t):=by
 obtain⟨w,hw⟩:=qU.1 he;obtain⟨h1,h2⟩:=Er l c _ w zq hw;refine⟨w,h1,fun t ht=>?_⟩;have h3:=((h2 t).1 ht).2;refine⟨fun s hs'=>?_,l7 hl.ne t,h3⟩;by_cases q:s.l=l
 .rw[q,l7 hl.ne];exact iY
 .exact dQ (h3 _ (hs s hs') q)
def RA{α:Type}{p:α->Bool}: ∀(l:List α),(∀i x,i<(l.takeWhile p).length->l[i]? =some x->p x=true)/\ ∀x,l[(l.takeWhile p).length]? =some x->p x=false
 |[]=>⟨fun i x h _=>by simp at h,fun x h=>by simp at h⟩
 |a::l=>by
  obtain⟨h1,h2⟩:=RA (p:=p) l;rw[oU]
  cases ha:p a with
  |false=>
   refine⟨fun i x h _=>by simp at h,fun x h=>?_⟩;simp at h;rw[<-h];exact ha
  |true=>
   simp only[if_true,bZ];refine⟨fun i x h e=>?_,fun x h=>h2 x (by simpa using h)⟩
   cases i with
   |zero=>simp at e;rw[<-e];exact ha
   |succ i=>exact h1 i x (by omega) (by simpa using e)
def VZ{out:List aa}(ha:t7 out)(ht: ∀m∈out,ge m.dir l.dir=0->m=l):t7 (pp out l):=by
 unfold pp;split
 .exact ha
 .rename_i hne
  obtain⟨k1,k2⟩:=RA (p:=fun x:aa=>decide (ge x.dir l.dir<0)) out;have e0:m7 out l=(out.takeWhile fun x=>decide (ge x.dir l.dir<0)).length:=J;rw[<-e0] at k1 k2;generalize m7 out l=n at*;unfold t7;rw[aS,bU,iR,jZ];refine K1 ha (fun x hx=>?_) (fun x hx=>?_)
  .rw[<-iR] at hx
   obtain⟨m,h1,rfl⟩:=aT.1 hx;obtain⟨i,hi,e⟩:=Qf h1;simpa[wY] using k1 i m hi e
  .rw[<-jZ] at hx
   obtain⟨m,h1,rfl⟩:=aT.1 hx;obtain⟨i,hi,hi2,e⟩:=SA h1;have hn:n<out.length:=by omega
   have h3: ¬ek (out[n]).dir l.dir:=by simpa[wY] using k2 _ (aZ hn)
   have h4:ek l.dir (out[n]).dir:=by
    by_cases q:ek l.dir (out[n]).dir
    .exact q
    .exact absurd (by rw[aZ hn,ht _ (dX hn) (M' h3 q)]) hne
   by_cases q:i=n
   .subst q
    rw[aZ hn] at e
    cases e
    exact h4
   .have:=qX.1 ha n i (by simp;omega) (by simp;omega) (by omega)
    simp only[pL] at this;rw[aZ hi2] at e
    cases e
    exact Br h4 this
def F7{c:List aa}(ht: ∀l∈c,∀m∈c,(f9 l c ar.all).isSome=true->(f9 m c ar.all).isSome=true->ge m.dir l.dir=0->m=l): ∀{t out:List aa},(∀l∈t,l∈c)->(∀m∈out,m∈c/\(f9 m c ar.all).isSome=true)->t7 out->t7 (mE c t out)
 |[],out,_,_,ha=>ha
 |l::t,out,hc,ho,ha=>by
  have hl:=hc l aQ;rw[mE];by_cases q:(f9 l c ar.all).isSome=true
  .rw[if_pos q]
   refine F7 ht (fun l h=>hc l (aJ _ h)) (fun m hm=>?_) (VZ ha fun m hm e=>ht l hl m (ho m hm).1 q (ho m hm).2 e);rcases Jo.1 hm with rfl|h
   .exact⟨hl,q⟩
   .exact ho m h
  .rw[if_neg q]
   exact F7 ht (fun l h=>hc l (aJ _ h)) ho ha
def WW{c:List aa}(hok: ∀l∈c,l.ok)(hne: ∃p,dE c p):t7 (ce c):=by
 obtain⟨e,_,hg,hi,hs⟩:=D1 hok hne;refine F7 (fun l hl m hm el em h=>?_) (fun l h=>h) (fun m h=>by cases h) .nil;obtain⟨w1,p1,k1⟩:=Kb (fun s h=>(hs s h).1) (hok l hl) el;obtain⟨w2,p2,k2⟩:=Kb (fun s h=>(hs s h).1) (hok m hm) em;obtain⟨a1,a2,_⟩:=k1 _ (oG p1);obtain⟨b1,b2,_⟩:=k2 _ (oG p2);exact O9 hg.ne (hok m hm) (hok l hl) (fun p hp=>(hi p).1 hp m hm) (fun p hp=>(hi p).1 hp l hl) ⟨_,b1,b2⟩ ⟨_,a1,a2⟩ h
def SY{v:ar}{t u:Rat}(h:v.ins t)(k:v.has u):v.ins ((t+u)*(1/2)):=by
 obtain⟨lo,hi,nl,nh⟩:=v;unfold ar.ins at*;unfold ar.has at k
 cases nl<;>cases nh<;>simp at* <;>grind
def Fx(hc: ∃q,bt c q)(h: ∀p,bt c p↔bt d p)(hp:gI c p):gI d p:=fun s hs=>sj hc (fun q hq=>(h q).1 hq s hs) hp
def Yp{c:List aa}(hok: ∀l∈c,l.ok)(hd:bC d)(h: ∀p,bt d p↔dE c p)(l:aa):l∈d.map (·.l)↔l∈ce c:=by
 have hne: ∃p,dE c p:=hd.ne.elim fun q hq=>⟨q,(h q).1 hq⟩;obtain⟨e,_,hg,hi,hs⟩:=D1 hok hne;have hde: ∀p,bt d p↔bt e p:=fun p=>by rw[h,hi]
 constructor
 .intro hl
  obtain⟨s,k,rfl⟩:=aT.1 hl;obtain⟨t1,t2⟩:=yg hd k;have t3:=Fx hd.ne hde t1;have: ¬bt e (s.l.at s.v.sample):=fun q=>by
   have:=(hde _).2 q s k;rw[t2] at this;exact absurd this (by decide)
  obtain⟨u,hu,hz⟩: ∃u∈e,u.l.value (s.l.at s.v.sample)=0:=by
   by_cases q: ∃u∈e,u.l.value (s.l.at s.v.sample)=0
   .exact q
   .exfalso
    refine this fun u hu=>?_;have g1:=t3 u hu;have g2:u.l.value (s.l.at s.v.sample)≠0:=fun e=>q ⟨u,hu,e⟩;grind
  have:=N4 hd k (hg.ok u hu) (fun p hp=>(hde p).1 hp u hu) hz;rw[<-this];exact jw.2 (hs u hu)
 .intro hl
  obtain⟨l1,l2⟩:=jw.1 hl;obtain⟨w,p1,k1⟩:=Kb (fun s h=>(hs s h).1) (hok l l1) l2;have hed: ∀p,bt e p↔bt d p:=fun p=>(hde p).symm;have hi1:=oG p1;obtain⟨⟨u1,m1,n1⟩,⟨u2,m2,n2⟩⟩:=FL hi1;have g1:=SY hi1 n1;have g2:=SY hi1 n2;obtain⟨c0,c1,_⟩:=k1 _ hi1;have c2:=Fx hg.ne hed c0;have: ¬bt d (l.at w.sample):=fun q=>by
   have:=(h _).1 q l l1;rw[c1] at this;exact absurd this (by decide)
  obtain⟨s,hsd,hz⟩: ∃s∈d,s.l.value (l.at w.sample)=0:=by
   by_cases q: ∃u∈d,u.l.value (l.at w.sample)=0
   .exact q
   .exfalso
    refine this fun u hu=>?_;have g1:=c2 u hu;have g2:u.l.value (l.at w.sample)≠0:=fun e=>q ⟨u,hu,e⟩;grind
  have e1:=Fx hg.ne hed (k1 _ g1).1 s hsd;have e2:=Fx hg.ne hed (k1 _ g2).1 s hsd;rw[lB] at hz e1 e2;have hK:l.cutK s.l=0:=by
   rcases jI (l.cutK s.l) with h|h|h
   .exact h
   .exfalso
    have:=di (a:=w.sample-u1) (b:=l.cutK s.l) (by grind) h;grind
   .exfalso
    have:=di (a:=u2-w.sample) (b:= -l.cutK s.l) (by grind) (by grind);grind
  have hz2: ∀t,s.l.value (l.at t)=0:=fun t=>by rw[lB,hK];rw[hK] at hz;grind
  rcases yo (hd.ok s hsd) (hok l l1) hz2 with q|q
  .rw[<-q];exact dK hsd
  .exfalso
   obtain⟨u,hu⟩:=hd.ne;have a:=hu s hsd;have b:=(h u).1 hu l l1;rw[q,eh] at a;grind
def MR: ∀{l m:List aa},t7 l->t7 m->(∀x,x∈l↔x∈m)->l=m
 |[],[],_,_,_=>rfl
 |[],b::m,_,_,h=>absurd ((h b).2 aQ) (by simp)
 |a::l,[],_,_,h=>absurd ((h a).1 aQ) (by simp)
 |a::l,b::m,h1,h2,h=>by
  obtain⟨p1,p2⟩:=bL.1 h1;obtain⟨q1,q2⟩:=bL.1 h2;have p1': ∀x∈l,ek a.dir x.dir:=fun x hx=>p1 _ (dK hx);have q1': ∀x∈m,ek b.dir x.dir:=fun x hx=>q1 _ (dK hx);have e:a=b:=by
   rcases aW.1 ((h a).1 aQ) with e|e
   .exact e
   .rcases aW.1 ((h b).2 aQ) with f|f
    .exact f.symm
    .exact(BA (q1' a e) (p1' b f)).elim
  subst e;congr 1;refine MR p2 q2 fun x=>⟨fun hx=>?_,fun hx=>?_⟩
  .rcases aW.1 ((h x).1 (aJ _ hx)) with e|e
   .subst e;exact(wH _ (p1' _ hx)).elim
   .exact e
  .rcases aW.1 ((h x).2 (aJ _ hx)) with e|e
   .subst e;exact(wH _ (q1' _ hx)).elim
   .exact e
def Gw{c:List aa}(hok: ∀l∈c,l.ok)(hd:bC d)(ha:fq d)(h: ∀p,bt d p↔dE c p):ce c=d.map (·.l):=by
 refine MR (WW hok (hd.ne.elim fun q hq=>⟨q,(h q).1 hq⟩)) ?_ fun x=>(Yp hok hd h x).symm;unfold t7;rw[qQ];exact ha
def au7{c:List aa}(h:lv c≠true)(t:Tr):gq t c=[]:=by
 cases t<;>rw[gq,if_neg h]
def Ki: ∀{t:Tr} {c:List aa} {d:ao},t.all aa.ok->(∀l∈c,l.ok)->bC d->fq d->(∀p,bt d p↔dE c p)->gq t c=(t.parts d).map fun x=>(x.2.map (·.l),x.1)
 | .leaf b,c,d,_,hok,hd,ha,h=>by
  have hb:lv c=true:=(Gu hok).2 (hd.ne.elim fun q hq=>⟨q,(h q).1 hq⟩);rw[gq,if_pos hb,Tr.parts,Gw hok hd ha h];rfl
 | .node l x y,c,d,ht,hok,hd,ha,h=>by
  have hne: ∃p,dE c p:=hd.ne.elim fun q hq=>⟨q,(h q).1 hq⟩;have hb:lv c=true:=(Gu hok).2 hne;have hck: ∀m∈ce c,m.ok:=fun m hm=>hok m (jw.1 hm).1;have go: ∀(k:aa) (u:Tr),k.ok->u.all aa.ok->(∀{c:List aa} {d:ao},(∀l∈c,l.ok)->bC d->fq d->(∀p,bt d p↔dE c p)->gq u c=(u.parts d).map fun x=>(x.2.map (·.l),x.1))->gq u (ce c++[k])=(if co d k then u.parts (bD d k) else []).map fun x=>(x.2.map (·.l),x.1):=fun k u hk hu ih=>by
   have hok2:=i9 hck hk;have hin: ∀p,dE (ce c++[k]) p↔bt d p/\0<k.value p:=fun p=>by rw[lh,BD hok hne,h]
   by_cases q:co d k=true
   .rw[if_pos q]
    obtain⟨g1,g2⟩:=gv hd hk q;exact ih hok2 g1 (CS hd hk ha q) fun p=>by rw[g2,hin]
   .rw[if_neg q]
    refine au7 (fun e=>q ((po hd hk).2 ?_)) u;obtain⟨p,hp⟩:=(Gu hok2).1 e;exact⟨p,(hin p).1 hp⟩
  rw[gq,if_pos hb,Tr.parts,aS,go l x ht.1 ht.2.1 (fun a b c d=>Ki ht.2.1 a b c d),go l.rev y ht.1.rev ht.2.2 fun a b c d=>Ki ht.2.2 a b c d]
def H7(hc:bC c)(hs:s∈c)(h:s.v.nh=true): ∀u∈c,0<=u.l.nor.dot s.l.dir:=fun u hu=>by
 obtain⟨p1,p2⟩:=hc.edge s hs;have hi:=(oG p1).has;have key: ∀n:Rat,0<=n->0<=u.l.value (s.l.at (s.v.sample+n)):=fun n hn=>((p2 _).1 ⟨hi.1.imp id fun q=>by grind, .inl h⟩) u hu;have h0:=key 0 (by decide);rw[lB] at h0;by_cases q:0<=u.l.nor.dot s.l.dir
 .exact q
 .exfalso
  have q':0< -(s.l.cutK u.l):=by unfold aa.cutK;grind
  have h1:=key ((s.l.cutC u.l+s.v.sample*s.l.cutK u.l+1)/ -(s.l.cutK u.l)) (by
   have:=(f8 (s:=(s.l.cutC u.l+s.v.sample*s.l.cutK u.l+1)/ -(s.l.cutK u.l)) q').1 (by rw[show(s.l.cutC u.l+s.v.sample*s.l.cutK u.l+1)/ -(s.l.cutK u.l)* -(s.l.cutK u.l)=s.l.cutC u.l+s.v.sample*s.l.cutK u.l+1 by grind];grind);grind)
  rw[lB] at h1;have:(s.l.cutC u.l+s.v.sample*s.l.cutK u.l+1)/ -(s.l.cutK u.l)*s.l.cutK u.l= -(s.l.cutC u.l+s.v.sample*s.l.cutK u.l+1):=by grind
  grind
def P1(hc:bC c)(hs:s∈c)(h:s.v.nl=true): ∀u∈c,u.l.nor.dot s.l.dir<=0:=fun u hu=>by
 obtain⟨p1,p2⟩:=hc.edge s hs;have hi:=(oG p1).has;have key: ∀n:Rat,0<=n->0<=u.l.value (s.l.at (s.v.sample-n)):=fun n hn=>((p2 _).1 ⟨.inl h,hi.2.imp id fun q=>by grind⟩) u hu;have h0:=key 0 (by decide);rw[lB] at h0;by_cases q:u.l.nor.dot s.l.dir<=0
 .exact q
 .exfalso
  have q':0<s.l.cutK u.l:=by unfold aa.cutK;grind
  have h1:=key ((s.l.cutC u.l+s.v.sample*s.l.cutK u.l+1)/s.l.cutK u.l) (by
   have:=(f8 (s:=(s.l.cutC u.l+s.v.sample*s.l.cutK u.l+1)/s.l.cutK u.l) q').1 (by rw[show(s.l.cutC u.l+s.v.sample*s.l.cutK u.l+1)/s.l.cutK u.l*s.l.cutK u.l=s.l.cutC u.l+s.v.sample*s.l.cutK u.l+1 by grind];grind);grind)
  rw[lB] at h1;have:(s.l.cutC u.l+s.v.sample*s.l.cutK u.l+1)/s.l.cutK u.l*s.l.cutK u.l=s.l.cutC u.l+s.v.sample*s.l.cutK u.l+1:=by grind
  grind
def sD(c:List aa)(v:ah):Bool:=c.all fun l=>decide (0<=Int.sign (l.dir.cross v).num)
def WQ(k:Rat):0<=Int.sign k.num↔0<=k:=by
 have h1:=Cv k;constructor<;>intro h
 .by_cases q:0<=k
  .exact q
  .exact absurd (h1.2 (by grind)) (by omega)
 .by_cases q:0<=Int.sign k.num
  .exact q
  .exact absurd (h1.1 (by omega)) (by grind)
def R1{v:ah}:sD (c.map (·.l)) v=true↔ ∀u∈c,0<=u.l.nor.dot v:=by
 unfold sD;rw[List.all_map,dJ];simp only[Function.comp,decide_eq_true_eq,WQ,A3]
def DA:aa:=⟨1,0,0⟩
def qr(c:List aa)(i:Nat):List ah:=
 if 0<Int.sign ((c.getD i DA).dir.cross (c.getD ((i+1)%c.length) DA).dir).num then [c8 (c.getD i DA) (c.getD ((i+1)%c.length) DA)] else []
def gi(c:List aa):List ah:=(List.range c.length).flatMap (qr c)
def qF{c:List aa}(h1:c[i]? =some l)(h2:c[(i+1)%c.length]? =some m):qr c i=if 0<Int.sign (l.dir.cross m.dir).num then [c8 l m] else []:=by
 unfold qr;rw[aV,aV,h1,h2];rfl
def AM(c:List aa)(k:Nat):(List.range (k+1)).flatMap (qr c)=(List.range k).flatMap (qr c)++qr c k:=by
 rw[rZ,qY];simp
def Dz(c:List aa): ∀k,((List.range k).flatMap (qr c)).length<=k
 |0=>bK _
 |k+1=>by
  have:=Dz c k;have h2:(qr c k).length<=1:=by unfold qr;split<;>simp
  rw[AM,aY];omega
def ayc{c:List aa}(h:p∈gi c): ∃l∈c,∃m∈c,p=c8 l m:=by
 obtain⟨i,hi,hp⟩:=iQ.1 h;have hi':=kQ.1 hi;have e1:=aZ hi';have e2:=aZ (l:=c) (dV (i+1) (show 0<c.length by omega));rw[qF e1 e2] at hp;split at hp
 .exact⟨_,dX _,_,dX _,aU.1 hp⟩
 .cases hp
def aHF(ht:t.all aa.ok):((gq t []).filter (·.2)).map (·.1)=(cD t).map fun c=>c.map (·.l):=by
 rw[Ki (d:=[]) ht (fun l h=>by cases h) bC.nil .nil (fun p=>⟨fun _ _ h=>(by cases h),fun _ _ h=>(by cases h)⟩)];unfold cD;rw[List.filter_map,qQ,qQ];rfl
def aqm(ht:t.all aa.ok): ∀c∈cD t,bC c:=fun c hc=>(Ky ht bC.nil (qp.1 hc)).1
def dE.open{c:List aa}{q:ah}(u:ah)(h:dE c q): ∃e:Rat,0<e/\ ∀d,0<=d->d<=e->dE c (cF q u d):=by
 have hd:bt (c.map fun m=>(⟨m,ar.all⟩:bw)) q:=fun s hs=>by
  obtain⟨m,hm,rfl⟩:=aT.1 hs;exact h m hm
 obtain⟨e,he,ho⟩:=hd.open u;exact⟨e,he,fun d d0 d1 m hm=>ho d d0 d1 ⟨m,ar.all⟩ (dK hm)⟩
def El(l:aa)(t u:Rat):l.at (t+u)=cF (l.at t) l.dir u:=by
 rw[<-xX,<-xX];unfold cF;simp only[ah.mk.injEq];constructor<;>grind
def H5(a:Int)(h:g∣a.natAbs):(g:Int)*zv (decide (a<0)) (a.natAbs/g)=a:=by
 obtain⟨k,hk⟩:=h;by_cases g0:g=0
 .subst g0;simp at hk⊢;omega
 have e:a.natAbs/g=k:=by rw[hk];exact rY k (iW g0)
 rw[e];unfold zv;have hc:((g*k:Nat):Int)=(g:Int)*(k:Int):=by push_cast;rfl
 by_cases n:a<0
 .simp only[n,decide_true,if_true];rw[Int.mul_neg];omega
 .simp only[n,decide_false];show(g:Int)*(k:Int)=a;omega
def aDK{a b c:Int}(h: ¬(a=0/\b=0)): ∃g:Int,0<g/\g*(m5 a b c).a=a/\g*(m5 a b c).b=b/\g*(m5 a b c).c=c:=by
 have hg:0<Nat.gcd (Nat.gcd a.natAbs b.natAbs) c.natAbs:=mR _ (iW fun e=>h ⟨kU.1 (mJ e),kU.1 (mQ e)⟩);refine⟨(Nat.gcd (Nat.gcd a.natAbs b.natAbs) c.natAbs:Nat),by omega,?_,?_,?_⟩
 .exact H5 a (qS (kL _ _) (kL _ _))
 .exact H5 b (qS (kL _ _) (lM _ _))
 .exact H5 c (lM _ _)
def I1: ∀(c:ao) (A B:bw->Rat),(∀u∈c,0<=A u/\(0<=B u\/0<A u))-> ∃e:Rat,0<e/\ ∀u∈c,0<=A u+e*B u
 |[],_,_,_=>⟨1,by decide,fun u hu=>by cases hu⟩
 |s::t,A,B,h=>by
  obtain⟨e,e0,he⟩:=I1 t A B fun u hu=>h u (aJ _ hu);obtain⟨h1,h2⟩:=h s aQ;have hold: ∀q,0<=q->q<=e-> ∀u∈t,0<=A u+q*B u:=fun q q0 q1 u hu=>HE (h u (aJ _ hu)).1 (he u hu) q0 q1;by_cases hb:0<=B s
  .refine⟨e,e0,fun u hu=>?_⟩
   rcases aW.1 hu with rfl|hu
   .have:=cI (dQ e0) hb;grind
   .exact he u hu
  .have ha:=h2.resolve_left hb
   have hq:0<A s/ -(B s):=(f8 (k:= -(B s)) (by grind)).1 (by rw[show A s/ -(B s)* -(B s)=A s by grind];exact ha);have hm:A s/ -(B s)* -(B s)=A s:=by grind
   generalize A s/ -(B s)=q at*;by_cases k:q<=e
   .refine⟨q,hq,fun u hu=>?_⟩
    rcases aW.1 hu with rfl|hu
    .grind
    .exact hold q (dQ hq) k u hu
   .refine⟨e,e0,fun u hu=>?_⟩
    rcases aW.1 hu with rfl|hu
    .have:=cI (show 0<=q-e by grind) (show 0<= -(B u) by grind)
     grind
    .exact he u hu
def Gb(l m:aa)(t e:Rat):m.value (l.at (t+e))=m.value (l.at t)+e*m.nor.dot l.dir:=by
 rw[El,jh]
def F0(h:s.v.Pos)(nh:s.v.nh=false):s.v.has s.v.hi:=by
 unfold ar.Pos at h;refine⟨?_, .inr iY⟩;rcases h with h|h|h
 .exact .inl h
 .rw[nh] at h;cases h
 .exact .inr (dQ h)
def KM(h:s.v.Pos)(nl:s.v.nl=false):s.v.has s.v.lo:=by
 unfold ar.Pos at h;refine⟨.inr iY,?_⟩;rcases h with h|h|h
 .rw[nl] at h;cases h
 .exact .inl h
 .exact .inr (dQ h)
def aBR(hc:bC c)(hs:s∈c)(nh:s.v.nh=false): ∃u∈c,u.l.value (s.l.at s.v.hi)=0/\u.l.nor.dot s.l.dir<0:=by
 obtain⟨p1,p2⟩:=hc.edge s hs;have hin:=(p2 _).1 (F0 p1 nh);by_cases q: ∃u∈c,u.l.value (s.l.at s.v.hi)=0/\u.l.nor.dot s.l.dir<0
 .exact q
 .exfalso
  obtain⟨e,e0,he⟩:=I1 c (fun u=>u.l.value (s.l.at s.v.hi)) (fun u=>u.l.nor.dot s.l.dir) fun u hu=>by
   have h1:=hin u hu;refine⟨h1,?_⟩;by_cases k:0<=u.l.nor.dot s.l.dir
   .exact .inl k
   .right
    by_cases z:u.l.value (s.l.at s.v.hi)=0
    .exact absurd ⟨u,hu,z,by grind⟩ q
    .grind
  have hh:=(p2 (s.v.hi+e)).2 fun u hu=>by rw[Gb];exact he u hu
  have:=hh.2;rw[nh] at this;rcases this with z|z
  .cases z
  .grind
def aCn(hc:bC c)(hs:s∈c)(nl:s.v.nl=false): ∃u∈c,u.l.value (s.l.at s.v.lo)=0/\0<u.l.nor.dot s.l.dir:=by
 obtain⟨p1,p2⟩:=hc.edge s hs;have hin:=(p2 _).1 (KM p1 nl);by_cases q: ∃u∈c,u.l.value (s.l.at s.v.lo)=0/\0<u.l.nor.dot s.l.dir
 .exact q
 .exfalso
  obtain⟨e,e0,he⟩:=I1 c (fun u=>u.l.value (s.l.at s.v.lo)) (fun u=> -(u.l.nor.dot s.l.dir)) fun u hu=>by
   have h1:=hin u hu;refine⟨h1,?_⟩;by_cases k:0<= -(u.l.nor.dot s.l.dir)
   .exact .inl k
   .right
    by_cases z:u.l.value (s.l.at s.v.lo)=0
    .exact absurd ⟨u,hu,z,by grind⟩ q
    .grind
  have hh:=(p2 (s.v.lo+ -e)).2 fun u hu=>by rw[Gb];have:=he u hu;grind
  have:=hh.1;rw[nl] at this;rcases this with z|z
  .cases z
  .grind
def N2(h:ds.Pairwise ek){s w:ah}(hs:ds[i]? =some s)(hw:ds[(i+1)%ds.length]? =some w):x9 ds s w:=by
 obtain⟨hi,rfl⟩:=aR.1 hs;obtain⟨hj,rfl⟩:=aR.1 hw;have hp:=qX.1 h;by_cases e:i+1<ds.length
 .have em:(i+1)%ds.length=i+1:=kZ e
  left;simp only[em];refine⟨hp i (i+1) hi e (by omega),fun d hd=>?_⟩;obtain⟨j,hj,rfl⟩:=oJ.1 hd;rintro ⟨a,b⟩;rcases rS j i with k|k|k
  .exact BA a (hp j i hj hi k)
  .subst k;exact wH _ a
  .by_cases z:j=i+1
   .subst z;exact wH _ b
   .exact BA b (hp (i+1) j e hj (by omega))
 .have ei:i+1=ds.length:=by omega
  have em:(i+1)%ds.length=0:=by rw[ei,Nat.mod_self]
  right;simp only[em];refine⟨fun d hd a=>?_,fun d hd b=>?_⟩
  .obtain⟨j,hj,rfl⟩:=oJ.1 hd
   by_cases k:j=i
   .subst k;exact wH _ a
   .exact BA a (hp j i hj hi (by omega))
  .obtain⟨j,hj,rfl⟩:=oJ.1 hd
   by_cases k:j=0
   .subst k;exact wH _ b
   .exact BA b (hp 0 j (by omega) hj (by omega))
def awG{s w:ah}(hs:s.half≠0)(hw:w.half≠0)(hu:u.half≠0)(h1:0<s.cross u)(h2:0<u.cross w)(h3:0<s.cross w)(e:s.half=w.half):u.half=s.half:=by
 rcases oA hs with k|k
 .rw[k] at e⊢
  have a:=oH.1 k;have b:=oH.1 e.symm;rw[oH];unfold ah.cross at*
  -- u is FI s and w
  have i1:(s.x*w.y-s.y*w.x)*u.y=(u.x*w.y-u.y*w.x)*s.y+(s.x*u.y-s.y*u.x)*w.y:=by grind
  have i2:(s.x*w.y-s.y*w.x)*u.x=(u.x*w.y-u.y*w.x)*s.x+(s.x*u.y-s.y*u.x)*w.x:=by grind
  have y0:0<=s.y:=by grind
  have y1:0<=w.y:=by grind
  have m1:=cI (dQ h2) y0;have m2:=cI (dQ h1) y1;have uy:0<=u.y:=(ig h3).1 (by grind);by_cases z:0<u.y
  .exact .inl z
  .right
   have z0:u.y=0:=by grind
   have i3:(u.x*w.y-u.y*w.x)*s.y+(s.x*u.y-s.y*u.x)*w.y=0:=by rw[<-i1,z0];grind
   have A0:(u.x*w.y-u.y*w.x)*s.y=0:=by generalize (u.x*w.y-u.y*w.x)*s.y=A at*;generalize (s.x*u.y-s.y*u.x)*w.y=B at*;grind
   have B0:(s.x*u.y-s.y*u.x)*w.y=0:=by grind
   have n1:s.y=0:=by
    rcases fK.1 A0 with q|q
    .grind
    .exact q
   have n2:w.y=0:=by
    rcases fK.1 B0 with q|q
    .grind
    .exact q
   rw[n1,n2] at h3;grind
 .rw[k] at e⊢
  have a:=u7.1 k;have b:=u7.1 e.symm;rw[u7];unfold ah.cross at*;have i1:(s.x*w.y-s.y*w.x)*u.y=(u.x*w.y-u.y*w.x)*s.y+(s.x*u.y-s.y*u.x)*w.y:=by grind
  have y0:0<= -s.y:=by grind
  have y1:0<= -w.y:=by grind
  have m1:=cI (dQ h2) y0;have m2:=cI (dQ h1) y1;have uy:0<= -u.y:=(ig h3).1 (by grind);by_cases z:u.y<0
  .exact .inl z
  .right
   have z0:u.y=0:=by grind
   have i3:(u.x*w.y-u.y*w.x)*s.y+(s.x*u.y-s.y*u.x)*w.y=0:=by rw[<-i1,z0];grind
   have m3:(u.x*w.y-u.y*w.x)* -s.y= -((u.x*w.y-u.y*w.x)*s.y):=by grind
   have m4:(s.x*u.y-s.y*u.x)* -w.y= -((s.x*u.y-s.y*u.x)*w.y):=by grind
   rw[m3] at m1;rw[m4] at m2;have A0:(u.x*w.y-u.y*w.x)*s.y=0:=by generalize (u.x*w.y-u.y*w.x)*s.y=A at*;generalize (s.x*u.y-s.y*u.x)*w.y=B at*;grind
   have B0:(s.x*u.y-s.y*u.x)*w.y=0:=by grind
   have n1:s.y=0:=by
    rcases fK.1 A0 with q|q
    .grind
    .exact q
   have n2:w.y=0:=by
    rcases fK.1 B0 with q|q
    .grind
    .exact q
   rw[n1,n2] at h3;grind
def as6(nz: ∀d∈ds,d.half≠0){s w:ah}(hs:s∈ds)(hu:u∈ds)(hw:w∈ds)(hn:x9 ds s w)(h1:0<s.cross u)(h2:0<u.cross w)(h3:0<s.cross w):False:=by
 have zs:=oA (nz s hs);have zu:=oA (nz u hu);have zw:=oA (nz w hw);rcases hn with⟨b,no⟩|⟨n1,n2⟩
 .by_cases e:s.half=w.half
  .have e2:=awG (nz s hs) (nz w hw) (nz u hu) h1 h2 h3 e
   exact no u hu ⟨.inr ⟨e2.symm,h1⟩, .inr ⟨by omega,h2⟩⟩
  .have e1:s.half=1/\w.half=2:=by
    rcases b with b|⟨b,_⟩
    .omega
    .exact absurd b e
   rcases zu with k|k
   .exact no u hu ⟨.inr ⟨by omega,h1⟩, .inl (by omega)⟩
   .exact no u hu ⟨.inl (by omega), .inr ⟨by omega,h2⟩⟩
 .have a:=n1 u hu
  have b:=n2 u hu;have a1: ¬s.half<u.half:=fun k=>a (.inl k);have a2:s.half≠u.half:=fun k=>a (.inr ⟨k,h1⟩);have b1: ¬u.half<w.half:=fun k=>b (.inl k);have b2:u.half≠w.half:=fun k=>b (.inr ⟨k,h2⟩);omega
def NJ{w n:ah}(hu:u.half≠0)(hw:w.half≠0)(hn:n.half≠0)(e1:w.half=u.half)(e2:u.half=n.half)(h1:0<u.cross n)(h2: ¬0<u.cross w):0<w.cross n:=by
 by_cases k:0<w.cross u
 .have b1:ek w u:= .inr ⟨e1,k⟩
  have b2:ek u n:= .inr ⟨e2,h1⟩;rcases Br b1 b2 with q|⟨_,q⟩
  .omega
  .exact q
 .have hz:w.cross u=0:=by rw[wn] at k⊢;grind
  by_cases q:0<w.cross n
  .exact q
  .exfalso
   have b2:ek u n:= .inr ⟨e2,h1⟩;by_cases q2:0<n.cross w
   .have b3:ek n w:= .inr ⟨by omega,q2⟩
    rcases Br b2 b3 with z|⟨_,z⟩
    .omega
    .exact h2 z
   .have hz2:w.cross n=0:=by rw[wn] at q2;grind
    rcases oA hw with hh|hh
    .have a:=oH.1 hh
     have b:=oH.1 (show u.half=1 by omega);have c:=oH.1 (show n.half=1 by omega);unfold ah.cross at*;have j1:w.x*(u.x*n.y-u.y*n.x)=0:=by grind
     have j2:w.y*(u.x*n.y-u.y*n.x)=0:=by grind
     rcases fK.1 j1 with z|z
     .rcases fK.1 j2 with z2|z2<;>grind
     .grind
    .have a:=u7.1 hh
     unfold ah.cross at*;have j1:w.x*(u.x*n.y-u.y*n.x)=0:=by grind
     have j2:w.y*(u.x*n.y-u.y*n.x)=0:=by grind
     rcases fK.1 j1 with z|z
     .rcases fK.1 j2 with z2|z2<;>grind
     .grind
def aDH(nz: ∀d∈ds,d.half≠0){s w:ah}(hs:s∈ds)(hu:u∈ds)(hw:w∈ds)(hn:x9 ds s w)(h1:0<s.cross u):0<s.cross w:=by
 have zs:=oA (nz s hs);have zu:=oA (nz u hu);have zw:=oA (nz w hw);have hneg:=Ut (nz s hs);have hnz:(bF s).half≠0:=by omega
 have e1:u.cross (bF s)=s.cross u:=by rw[MI,wn s u];grind
 have e2:w.cross (bF s)=s.cross w:=by rw[MI,wn s w];grind
 rcases hn with⟨b,no⟩|⟨n1,n2⟩
 .by_cases e:s.half=w.half
  .rcases b with b|⟨_,b⟩
   .omega
   .exact b
  .have e3:s.half=1/\w.half=2:=by
    rcases b with b|⟨b,_⟩
    .omega
    .exact absurd b e
   have nu:=no u hu;rcases zu with k|k
   .exact absurd ⟨.inr ⟨by omega,h1⟩, .inl (by omega)⟩ nu
   .rw[<-e2]
    exact NJ (nz u hu) (nz w hw) hnz (by omega) (by omega) (by rw[e1];exact h1) fun q=>nu ⟨.inl (by omega), .inr ⟨by omega,q⟩⟩
 .have a:=n1 u hu
  have b:=n2 u hu;have a1: ¬s.half<u.half:=fun k=>a (.inl k);have a2:s.half≠u.half:=fun k=>a (.inr ⟨k,h1⟩);have b1: ¬u.half<w.half:=fun k=>b (.inl k);rw[<-e2];exact NJ (nz u hu) (nz w hw) hnz (by omega) (by omega) (by rw[e1];exact h1) fun q=>b (.inr ⟨by omega,q⟩)
def ayh(s u w:aa)(h p:ah):s.dir.cross u.dir*w.value p=s.dir.cross u.dir*w.value h+w.dir.cross u.dir*(s.value p-s.value h)+s.dir.cross w.dir*(u.value p-u.value h):=by
 rw[je,je,je,je,je,je];unfold ah.cross aa.dir;grind
def YT(hc:bC c): ∀d∈c.map (fun s=>s.l.dir),d.half≠0:=fun d hd=>by
 obtain⟨s,hs,rfl⟩:=aT.1 hd;exact DK (hc.ok s hs)
def Np(hc:bC c){w:bw}(hs:s∈c)(hw:w∈c)(hn:x9 (c.map fun s=>s.l.dir) s.l.dir w.l.dir)(nh:s.v.nh=false):0<s.l.dir.cross w.l.dir/\w.l.value (s.l.at s.v.hi)=0:=by
 obtain⟨u,hu,z1,z2⟩:=aBR hc hs nh;have su:0<s.l.dir.cross u.l.dir:=by rw[wn,A3];grind
 have nz:=YT hc;have ms:=dK (f:=fun s:bw=>s.l.dir) hs;have mu:=dK (f:=fun s:bw=>s.l.dir) hu;have mw:=dK (f:=fun s:bw=>s.l.dir) hw;have sw:=aDH nz ms mu mw hn su;refine⟨sw,?_⟩;obtain⟨p1,p2⟩:=hc.edge s hs;have hin:=(p2 _).1 (F0 p1 nh);have hs0:=l7 (hc.ok s hs).ne s.v.hi;have h0:=hin w hw;by_cases q:w.l.value (s.l.at s.v.hi)=0
 .exact q
 .exfalso
  have wu:0<=w.l.dir.cross u.l.dir:=by
   by_cases k:0<u.l.dir.cross w.l.dir
   .exact(as6 nz ms mu mw hn su k sw).elim
   .rw[wn];grind
  obtain⟨t1,t2⟩:=yg hc hw;have e:=ayh s.l u.l w.l (s.l.at s.v.hi) (w.l.at w.v.sample);rw[t2,z1,hs0] at e;have g1:=di su (show 0<w.l.value (s.l.at s.v.hi) by grind);have g2:=cI wu (t1 s hs);have g3:=cI (dQ sw) (t1 u hu);grind
def k8(x:Bool×ao):DV:= .ag [.sl (x.2.map dd),eU (.leaf x.1)]
def aHD(l:List (Bool×ao)):cO 2 (l.map k8):=fun d hd=>by
 obtain⟨x,_,rfl⟩:=aT.1 hd;exact⟨J,J⟩
def B5: ∀(t:Tr) (c:ao),(t.parts c).length<=t.size+1
 | .leaf _,_=>bK _
 | .node l x y,c=>by
  have h1:=B5 x (bD c l);have h2:=B5 y (bD c l.rev);rw[Tr.parts,aY,Tr.size];split<;>split<;>(try simp only[dS])<;>omega
def aoj{o:List (Bool×ao)}(hs:o.length<=1000000):PB GB prog 234 (fA [some (eU (.leaf b)),some (.sl (c.map dd)),none]) 2 281 (o.map k8) (fun w=> .v (.slice w.a w.n w.c)) ((o++Tr.parts (.leaf b) c).map k8):=by
 refine Dj func234 J J ntmps234 J J (fun C=>?_);refine cl (fu:=⟨0⟩) J qd J<|mn 12 J<|gx J<|rf J J<|Lu ((o++[(b,c)]).map k8) J (by rw[aS]<;>rfl) (aHD [(b,c)]) J<|?_;exact vw J J J J
def anE{o:List (Bool×ao)}(hl:LB l)(hlo:l.ok)(hc:d9 c)(hn:c.length+(Tr.node l x y).depth<=100000)(hs:o.length+((Tr.node l x y).size+1)<=1000000)(ihx: ∀{c:ao} {o:List (Bool×ao)},d9 c->c.length+x.depth<=100000->o.length+(x.size+1)<=1000000->PB GB prog 234 (fA [some (eU x),some (.sl (c.map dd)),none]) 2 281 (o.map k8) (fun w=> .v (.slice w.a w.n w.c)) ((o++Tr.parts x c).map k8))(ihy: ∀{c:ao} {o:List (Bool×ao)},d9 c->c.length+y.depth<=100000->o.length+(y.size+1)<=1000000->PB GB prog 234 (fA [some (eU y),some (.sl (c.map dd)),none]) 2 281 (o.map k8) (fun w=> .v (.slice w.a w.n w.c)) ((o++Tr.parts y c).map k8)):PB GB prog 234 (fA [some (eU (.node l x y)),some (.sl (c.map dd)),none]) 2 281 (o.map k8) (fun w=> .v (.slice w.a w.n w.c)) ((o++Tr.parts (.node l x y) c).map k8):=by
 have hk1:=tC c l;have hk2:=tC c l.rev;have hd:(Tr.node l x y).depth=1+max x.depth y.depth:=J;have hz:(Tr.node l x y).size=1+x.size+y.size:=J;have hp:=B5 x (bD c l);refine Dj func234 J J ntmps234 J J (fun C=>?_);refine cl (fu:=⟨0⟩) J ry J<|sh 12 J<|gx J<|cl J (Iy hlo hc) J<|bb J J J (fun hc30=>?_) (fun hc30=>?_)
 .
  have hs2:(o++x.parts (bD c l)).length+(y.size+1)<=1000000:=by rw[aY];omega
  refine cq ((o++x.parts (bD c l)).map k8) J (ihx (qI hlo hc) (by omega) (by omega)) J J<|bb J J J (fun hc38=>?_) (fun hc38=>?_)
  .
   refine cq _ J (ihy (qI hlo.rev hc) (by omega) (by first|exact hs2|omega)) J J<|?_;exact vw J J J (by simp[Tr.parts,hc30,hc38])
  .
   exact vw J J J (by simp[Tr.parts,hc30,hc38])
 .
  refine bb J J J (fun hc38=>?_) (fun hc38=>?_)
  .
   refine cq _ J (ihy (qI hlo.rev hc) (by omega) (by first|exact hs2|omega)) J J<|?_;exact vw J J J (by simp[Tr.parts,hc30,hc38])
  .
   exact vw J J J (by simp[Tr.parts,hc30,hc38])
def Kf: ∀{t:Tr} {c:ao} {o:List (Bool×ao)},t.all LB->t.all aa.ok->d9 c->c.length+t.depth<=100000->o.length+(t.size+1)<=1000000->PB GB prog 234 (fA [some (eU t),some (.sl (c.map dd)),none]) 2 281 (o.map k8) (fun w=> .v (.slice w.a w.n w.c)) ((o++Tr.parts t c).map k8)
 | .leaf _,_,_,_,_,_,_,hs=>aoj (by simp only[Tr.size] at hs;omega)
 | .node _ _ _,_,_,hb,ho,hc,hn,hs=>anE hb.1 ho.1 hc hn hs (fun k1 k2 k3=>Kf hb.2.1 ho.2.1 k1 k2 k3) (fun k1 k2 k3=>Kf hb.2.2 ho.2.2 k1 k2 k3)
def az9(hb:t.all LB)(ho:t.all aa.ok)(hd:t.depth<=100000)(hs:t.size<=900000):PB GB prog 234 (fA [some (eU t),some (.sl []),none]) 2 281 [] (fun w=> .v (.slice w.a w.n w.c)) ((t.parts []).map k8):=
 Kf (c:=[]) (o:=[]) hb ho d9.nil (by rw[dS];omega) (by rw[dS];omega)
def eC(c:ao):DV:= .sl (c.map dd)
def Xr(l:List ao):cO 1 (l.map eC):=fun d hd=>by
 obtain⟨x,_,rfl⟩:=aT.1 hd;exact⟨J,J⟩
def AE(ps:List (Bool×ao)):List ao:=(ps.filter (·.1)).map (·.2)
def Ok{ps:List (Bool×ao)}(h:ps[k]? =some (b,e)):AE (ps.drop k)=(if b then [e] else [])++AE (ps.drop (k+1)):=by
 obtain⟨h1,h2⟩:=aR.1 h;rw[bX h1,h2];unfold AE
 cases b<;>simp
def aBW(hb:t.all LB)(ho:t.all aa.ok)(hd:t.depth<=100000)(hs:t.size<=900000):PF GB prog 165 [eU t] (.sl ((t.parts []).map k8)):=by
 refine fn func165 J J ntmps165 J J (fun C=>?_);refine cqn _ J (az9 hb ho hd hs) J J<|gm 4 J<|rz J J
def aCq(hb:t.all LB)(ho:t.all aa.ok)(hd:t.depth<=100000)(hs:t.size<=900000):PF GB prog 93 [eU t] (.sl ((cD t).map eC)):=by
 obtain⟨ps,hps⟩: ∃ps,ps=t.parts []:=⟨_,rfl⟩;have hpl:=B5 t [];rw[<-hps] at hpl;have hml:(ps.map k8).length=ps.length:=aX ..;refine fn func93 J J ntmps93 J J (fun C=>?_);refine cl (fu:=⟨0⟩) J (aBW hb ho hd hs) J<|aj 7 (.d (.sl (ps.map k8))) J (by rw[hps])<|gx (fu:=⟨1⟩) J<|aj 8 (.d (vI (ps.length:Nat))) J (by rw[hml]<;>rfl)<|gx J<|nr 3 3 127 1 J J J<|lp (X:=List ao×Nat) (fun⟨acc,k⟩=>[(9, .d (vI (k:Nat))),(3, .rw 3)]) (fun⟨acc,k⟩=>[(3,some (.b 127 1 (acc.map eC) true))]) (fun⟨acc,k⟩=>acc++AE (ps.drop k)=cD t/\k<=ps.length) (fun⟨acc,k⟩=>ps.length-k) ⟨[],0⟩ J ⟨by rw[hps];rfl,aM _⟩ (fun _=>J) (fun⟨acc,k⟩ hk=>?_)
 try dsimp only at hk⊢
 obtain⟨h1,h2⟩:=hk;have hal:acc.length<=ps.length:=by
  have q1:=congrArg List.length h1;have q2:(cD t).length<=ps.length:=by unfold cD;rw[aX,hps];exact nL ..
  rw[aY] at q1;omega
 have ham:(acc.map eC).length=acc.length:=aX ..;refine br J J J (fun hc10=>?_) (fun hc10=>?_)
 .
  obtain⟨⟨b,e⟩,hx⟩: ∃x,ps[k]? =some x:=⟨_,aZ (by omega)⟩;refine ix _ J (ck hx) J<|bb J J J (fun hc17=>?_) (fun hc17=>?_)
  .
   refine rf J J<|ap ((acc++[e]).map eC) J (by rw[aS]<;>rfl) (Xr [e]) J<|d8 22 3 J<|at_ ⟨acc++[e],k+1⟩ (by dsimp only;exact⟨⟨by rw[<-h1,Ok hx,if_pos hc17];simp,by omega⟩,(by omega)⟩)
  .
   exact at_ ⟨acc,k+1⟩ (by dsimp only;exact⟨⟨by rw[<-h1,Ok hx,if_neg (by simp at hc17;rw[hc17];decide)];rfl,by omega⟩,(by omega)⟩)
 .
  obtain rfl:k=ps.length:=by omega
  obtain rfl:acc=cD t:=by rw[fY] at h1;simpa[AE] using h1
  refine gm 3 J<|rz J J
theorem BQ.samp(v:ar)(i j:Nat)[h1:BQ v.lo i][h2:BQ v.hi j]:BQ v.sample (i+j+1+2):=by
 have b1:BQ (1:Rat) 1:=⟨by decide,by decide⟩;unfold ar.sample;split
 .exact BQ.z1.mono (by omega)
 .split
  .exact(inferInstance:BQ (v.hi-1) (j+1+1)).mono (by omega)
  .split
   .exact(inferInstance:BQ (v.lo+1) (i+1+1)).mono (by omega)
   .exact inferInstance
theorem Tu(h:Ob s):aC (s.l.at s.v.sample) 3500:=by
 haveI:=h.lb;haveI:=h.v.lo;haveI:=h.v.hi;have h0:BQ s.v.sample _:=BQ.samp s.v 1200 1200;have:= @aC.at s.l s.v.sample _ _ h0;exact⟨this.x.mono (by decide),this.y.mono (by decide)⟩
def atf(l m:aa):l.dir.cross m.dir=(crossI l m:Rat):=by
 unfold ah.cross aa.dir crossI;rw[iV,bM,bM];grind
def Iz(h:0<Int.sign (l.dir.cross m.dir).num):crossI l m≠0:=fun e=>by
 rw[nq,atf,e] at h;exact absurd h (by decide)
def Lo(h:crossI l m≠0):l.nor.cross m.nor≠0:=fun e=>by
 have:l.nor.cross m.nor=(crossI l m:Rat):=by
  unfold ah.cross aa.nor crossI;rw[iV,bM,bM];grind
 rw[this] at e;exact h (cR.1 e)
def Nh(h:crossI l m≠0):c8 l m=⟨((l.b:Rat)*(m.c:Rat)-(l.c:Rat)*(m.b:Rat))/l.nor.cross m.nor,((l.c:Rat)*(m.a:Rat)-(l.a:Rat)*(m.c:Rat))/l.nor.cross m.nor⟩:=by
 have e1:(meetX l m:Rat)=(l.b:Rat)*(m.c:Rat)-(l.c:Rat)*(m.b:Rat):=by unfold meetX;rw[iV,bM,bM];grind
 have e2:(meetY l m:Rat)=(l.c:Rat)*(m.a:Rat)-(l.a:Rat)*(m.c:Rat):=by unfold meetY;rw[iV,bM,bM];grind
 have e3:(crossI l m:Rat)=l.nor.cross m.nor:=by unfold ah.cross aa.nor crossI;rw[iV,bM,bM];grind
 unfold c8;rw[if_neg h,e1,e2,e3]
def B7: ∀{t:Tr} {c:ao} {x:Bool×ao},t.all LB->t.all aa.ok->d9 c->x∈t.parts c->d9 x.2/\x.2.length<=c.length+t.depth
 | .leaf b,c,x,_,_,hc,h=>by
  rw[Tr.parts,aU] at h;subst h;exact⟨hc,nJ _ _⟩
 | .node l u v,c,x,hb,ho,hc,h=>by
  have hl:=hb.1;have hd:(Tr.node l u v).depth=1+max u.depth v.depth:=J;rw[Tr.parts] at h;rcases bJ.1 h with h|h
  .split at h
   .obtain⟨k1,k2⟩:=B7 hb.2.1 ho.2.1 (qI ho.1 hc) h
    have:=tC c l;exact⟨k1,by omega⟩
   .cases h
  .split at h
   .obtain⟨k1,k2⟩:=B7 hb.2.2 ho.2.2 (qI ho.1.rev hc) h
    have:=tC c l.rev;exact⟨k1,by omega⟩
   .cases h
def Ft(t:Tr):(cD t).length<=t.size+1:=by
 unfold cD;rw[aX];exact cM (nL ..) (B5 t [])
def A'(hb:t.all LB)(ho:t.all aa.ok): ∀c∈cD t,c.length<=t.depth:=fun c hc=>by
 have:=(B7 hb ho d9.nil (qp.1 hc)).2;simpa using this
theorem ax8(hb:t.all LB)(ho:t.all aa.ok): ∀c∈cD t,∀s∈c,LB s.l:=fun c hc s hs=>((B7 hb ho d9.nil (qp.1 hc)).1 s hs).lb
def U'(l:List ah):cO 6 (l.map eZ):=fun d hd=>by
 obtain⟨x,_,rfl⟩:=aT.1 hd;exact⟨J,J⟩
def Fg{vs:List α}{f:α->Bool}{v:α}(h:vs[k]? =some v):(vs.drop k).all f=(f v&&(vs.drop (k+1)).all f):=by
 obtain⟨h1,h2⟩:=aR.1 h;rw[bX h1,h2,sN]
def Tj[hl:LB l][hm:LB m](hz:crossI l m≠0):PF GB prog 266 [cP l,cP m] (.tp [eZ (c8 l m),vB true]):=by
 haveI:=aC.nor l;haveI:=aC.nor m;refine fn func266 J J ntmps266 J J (fun C=>?_);refine cl J (wz (l:=l)) J<|cl J (wz (l:=m)) J<|cl J (Cs (p:=l.nor) (q:=m.nor) (i:=97) (j:=97)) J<|cl (fu:=⟨0⟩) J (Au (q:=l.nor.cross m.nor)) J<|aj 15 (.d (vB false)) J (by rw[decide_eq_false (Lo hz)])<|sh 15 J<|gx J<|cl J (n8 (p:=(l.b:Rat)) (q:=(m.c:Rat)) (i:=97) (j:=97)) J<|cl J (n8 (p:=(l.c:Rat)) (q:=(m.b:Rat)) (i:=97) (j:=97)) J<|cl J (p7 (p:=(l.b:Rat)*(m.c:Rat)) (q:=(l.c:Rat)*(m.b:Rat))) J<|cl J (BG (p:=(l.b:Rat)*(m.c:Rat)-(l.c:Rat)*(m.b:Rat)) (q:=l.nor.cross m.nor)) J<|cl J (n8 (p:=(l.c:Rat)) (q:=(m.a:Rat)) (i:=97) (j:=97)) J<|cl J (n8 (p:=(l.a:Rat)) (q:=(m.c:Rat)) (i:=97) (j:=97)) J<|cl J (p7 (p:=(l.c:Rat)*(m.a:Rat)) (q:=(l.a:Rat)*(m.c:Rat))) J<|cl J (BG (p:=(l.c:Rat)*(m.a:Rat)-(l.a:Rat)*(m.c:Rat)) (q:=l.nor.cross m.nor)) J<|rz J (by rw[Nh hz];rfl)
def aEn(hb: ∀s∈c,LB s.l)(hn:c.length<=100000):PF GB prog 206 [eC c] (.sl ((gi (c.map (·.l))).map eZ)):=by
 have hml:(c.map dd).length=c.length:=aX ..;obtain⟨L,hL⟩: ∃L,L=c.map (·.l):=⟨_,rfl⟩;have hLl:L.length=c.length:=by rw[hL,aX]
 refine fn (fu:=⟨15⟩) func206 J J ntmps206 J J (fun C=>?_);refine aj 10 (.d (vI (c.length:Nat))) J (by rw[hml]<;>rfl)<|gx J<|nr 3 3 160 6 J J J<|lp (X:=List ah×Nat) (fun⟨acc,k⟩=>[(11, .d (vI (k:Nat))),(3, .rw 3)]) (fun⟨acc,k⟩=>[(3,some (.b 160 6 (acc.map eZ) true))]) (fun⟨acc,k⟩=>acc=(List.range k).flatMap (qr L)/\k<=c.length) (fun⟨acc,k⟩=>c.length-k) ⟨[],0⟩ J ⟨J,aM _⟩ (fun _=>J) (fun⟨acc,k⟩ hk=>?_)
 try dsimp only at hk⊢
 obtain⟨h1,h2⟩:=hk;have hal:=Dz L k;rw[<-h1] at hal;have ham:(acc.map eZ).length=acc.length:=aX ..;refine br J J J (fun hc12=>?_) (fun hc12=>?_)
 .
  obtain⟨s,hx⟩: ∃u,c[k]? =some u:=⟨_,aZ (by omega)⟩;obtain⟨u,hw⟩: ∃w,c[(k+1)%c.length]? =some w:=⟨_,aZ (dV _ (by omega))⟩;haveI:=hb s (aK hx);haveI:=hb u (aK hw);have hxl:L[k]? =some s.l:=by rw[hL,cY,hx];rfl
  have hwl:L[(k+1)%L.length]? =some u.l:=by rw[hLl,hL,cY,hw];rfl
  refine ix (fu:=⟨13⟩) _ J (ck hx) J<|aj 20 (.d (vI (c.length:Nat))) J (by rw[hml]<;>rfl)<|gx (fu:=⟨1⟩) J<|aj 21 (.d (vI (((k+1)%c.length:Nat):Int))) J J<|gx J<|ix _ J (ck hw) J<|cl J (vK (l:=s.l)) J<|cl J (vK (l:=u.l)) J<|cl J (Cs (p:=s.l.dir) (q:=u.l.dir) (i:=97) (j:=97)) J<|cl J (mc (q:=s.l.dir.cross u.l.dir)) J<|br J J J (fun hc32=>?_) (fun hc32=>?_)
  .
   refine cl J (Tj (l:=s.l) (m:=u.l) (Iz hc32)) J<|rf J J<|ap ((acc++[c8 s.l u.l]).map eZ) J (by rw[aS]<;>rfl) (U' [c8 s.l u.l]) J<|d8 44 3 J<|at_ ⟨acc++[c8 s.l u.l],k+1⟩ (by dsimp only;exact⟨⟨by rw[AM,qF hxl hwl,if_pos hc32,<-h1],by omega⟩,(by omega)⟩)
  .
   exact at_ ⟨acc,k+1⟩ (by dsimp only;exact⟨⟨by rw[AM,qF hxl hwl,if_neg hc32,<-h1,fR],by omega⟩,(by omega)⟩)
 .
  have hS:gi L=acc:=by unfold gi;rw[hLl,h1,show k=c.length by omega]
  refine gm 3 J<|rz J (by rw[<-hL,hS];rfl)
def L2(h:crossI l m≠0)(h1:l.value p=0)(h2:m.value p=0):p=c8 l m:=by
 rw[Nh h];have hd:=Lo h;rw[je] at h1 h2;obtain⟨x,y⟩:=p;have e1:x*l.nor.cross m.nor=(l.b:Rat)*(m.c:Rat)-(l.c:Rat)*(m.b:Rat):=by unfold ah.cross aa.nor;grind
 have e2:y*l.nor.cross m.nor=(l.c:Rat)*(m.a:Rat)-(l.a:Rat)*(m.c:Rat):=by unfold ah.cross aa.nor;grind
 generalize l.nor.cross m.nor=d at*;simp only[ah.mk.injEq];constructor<;>grind
def N'(l:aa)(t:Rat):l.at t=cF (l.at 0) l.dir t:=by rw[<-El];congr 1;grind
section
variable {F:Fence}{md:Region.Mode}
def NR: ∀{k:Nat} {listed:Array Bool} {a:Act} {w:World},wpAnyIn F n P md ops Q k listed a w->wpAnyIn F n P md ops Q (k+1) listed a w
 |0,_,_,_,h=>⟨fun _=>h.2,fun i hi=>by rw[h.1] at hi;cases hi⟩
 |_+1,_,_,_,h=>⟨h.1,fun i hi=>wpOpIn_mono (fun _ _ k=>NR k) (h.2 i hi)⟩
def NL{k:Nat}{listed:Array Bool}{a:Act}{w:World}(h:wpAnyIn F n P md ops Q k listed a w): ∀j,wpAnyIn F n P md ops Q (j+k) listed a w
 |0=>by rw[eY];exact h
 |j+1=>by rw[show j+1+k=j+k+1 by omega];exact NR (NL h j)
def Bf.lt{l:List Oper}(he:m9 0 l=true)(h:Bf l i j):j<i:=by
 induction h with
 |b ho hm hb=>have:=rk he _ _ ho _ hm hb;omega
 |s ho hm hb _ ih=>have:=rk he _ _ ho _ hm hb;omega
def Bf.inv{l:List Oper}(h:Bf l i j): ∃o e,l[i]? =some o/\e∈o.after/\Region.binds .any e=true/\(e.on=j\/Bf l e.on j):=by
 induction h with
 |b ho hm hb=>exact⟨_,_,ho,hm,hb, .inl J⟩
 |s ho hm hb hh _=>exact⟨_,_,ho,hm,hb, .inr hh⟩
def SN(he:m9 0 ops.toList=true): ∀(r pre:List Oper),ops.toList=pre++r->(∀i,pre.length<=i->i<ops.size-> ∀j,j<i->Bf ops.toList i j)-> ∀(listed:Array Bool) (a:Act) (w:World),(∀j d,listed.getD j d=if j<pre.length then true else if j<ops.size then false else d)->wpListIn F n P ops Q r a w->wpAnyIn F n P .any ops Q r.length listed a w
 |[],pre,hops,_,listed,a,w,hl,h=>by
  refine⟨?_,h⟩;rw[List.eq_nil_iff_forall_not_mem];intro i hi;obtain⟨h1,o,h2,_⟩:=mem_ready.1 hi;have h3:=(fU.1 h2).1;have h4:pre.length=ops.size:=by rw[<-kN,hops];simp
  rw[hl,if_pos (by omega)] at h1
  cases h1
 |o::r,pre,hops,hc,listed,a,w,hl,h=>by
  have hsz:ops.size=pre.length+(r.length+1):=by rw[<-kN,hops];simp
  have hp:ops.toList[pre.length]? =some o:=by rw[hops];simp
  have hp':ops[pre.length]? =some o:=by simpa using hp
  have only: ∀i,i∈Region.ready .any ops listed↔i=pre.length:=fun i=>by
   rw[mem_ready];constructor
   .rintro ⟨h1,o',h2,h3⟩
    have h4:=(fU.1 h2).1;rw[hl] at h1;split at h1
    .cases h1
    .rename_i h5
     apply Classical.byContradiction;intro h6;have hb:=hc i (by omega) h4 pre.length (by omega);obtain⟨o2,e,ho,hm,hb,hh⟩:=hb.inv;have e':o'=o2:=Option.some.inj (h2.symm.trans (by simpa using ho));subst e';have h7:=h3 _ hm hb;have h9:=rk he _ _ ho _ hm hb;have h8:pre.length<=e.on:=by
      rcases hh with hh|hh
      .omega
      .have:=hh.lt he;omega
     rw[hl,if_neg (by omega),if_pos (by omega)] at h7
     cases h7
   .rintro rfl
    refine⟨by rw[hl,if_neg (by omega),if_pos (by omega)],o,hp',fun e hm hb=>?_⟩;have:=rk he _ _ hp _ hm hb;rw[hl,if_pos (by omega)]
  refine⟨fun hn=>?_,fun i hi=>?_⟩
  .have:=(only pre.length).2 J
   rw[hn] at this;cases this
  .obtain rfl:=(only i).1 hi
   have ih:=SN he r (pre++[o]) (by rw[hops];simp) (fun i h1 h2=>hc i (by simp at h1;omega) h2) (listed.setIfInBounds pre.length true);have hl': ∀j d,(listed.setIfInBounds pre.length true).getD j d=if j<(pre++[o]).length then true else if j<ops.size then false else d:=fun j d=>by
    have hls:pre.length<listed.size:=by
     apply Classical.byContradiction;intro hq;have h1:=hl pre.length true;rw[if_neg (by omega),if_pos (by omega),cX,oM (by omega)] at h1
     cases h1
    have h1:=hl j d;rw[cX] at h1⊢;rw[eJ];by_cases hj:pre.length=j
    .subst hj;rw[if_pos J,if_pos hls,if_pos (by simp)];rfl
    .rw[if_neg hj,h1]
     simp only[aY,bZ,dS];by_cases h2:j<pre.length
     .rw[if_pos h2,if_pos (by omega)]
     .rw[if_neg h2]
      by_cases h3:j<ops.size
      .rw[if_pos h3,if_neg (by omega)];
      .rw[if_neg h3,if_neg (by omega)]
   unfold wpOpIn;rw[hp'];simp only[wpListIn] at h⊢;split
   .rename_i hw;rw[if_pos hw] at h
    exact Oper.wpIn_mono (fun a w k=>ih a w hl' k) h
   .rename_i hw;rw[if_neg hw] at h
    exact⟨h.1,ih _ _ hl' h.2⟩
def EF(F:Fence)(n:Nat)(P:Program)(ops:Array Oper)(r:List Oper)(Q:Exit->Act->World->Prop):Exit->Act->World->Prop
 | .normal=>wpListIn F n P ops Q r
 |e=>Q e
def aHK{K:Act->World->Prop}(h:o.wpIn F n P a w K (EF F n P ops r Q)):o.wpIn F n P a w K Q:=by
 refine⟨h.1,?_⟩;have:=h.2
 cases hr:(o.semAt F.round a.eval).run P w with
 |ok x w'=>
  rw[hr] at this
  cases x with
  |enter f args=>exact⟨this.1,CallsIn.mono this.2 fun e w'' he=>by cases e<;>exact he⟩
  |round l f t x y=>exact⟨this.1,RoundIn.mono this.2 fun e w'' he=>by cases e<;>exact he⟩
  |_=>exact this
 |halt x w'=>
  rw[hr] at this
  cases x<;>exact this
def Ti(hops:ops.toList=pre++r)(hg: ∀o∈pre,o.guard=none)(he:m9 0 ops.toList=true)(hc: ∀i,pre.length<=i->i<ops.size-> ∀j,j<i->Bf ops.toList i j):
  ∀(fuel:Nat) (L listed:Array Bool) (a:Act) (w:World),L.size=pre.length->(∀j d,listed.getD j d=if j<pre.length then L.getD j d else if j<ops.size then false else d)->(∀i o,ops.toList[i]? =some o->listed.getD i false=true-> ∀e∈o.after,Region.binds .any e=true->listed.getD e.on false=true)->
   wpAnyIn F n P .any pre.toArray (EF F n P ops r Q) fuel L a w->wpAnyIn F n P .any ops Q (fuel+r.length) listed a w:=by
 have hsz:ops.size=pre.length+r.length:=by rw[<-kN,hops];simp
 have hget: ∀i,i<pre.length->ops[i]? =pre.toArray[i]? :=fun i hi=>by rw[<-pK,hops,jR hi];simp
 -- all of the first part is done
 have fin: ∀(L listed:Array Bool) (a:Act) (w:World),L.size=pre.length->(∀j d,listed.getD j d=if j<pre.length then L.getD j d else if j<ops.size then false else d)->Region.ready .any pre.toArray L=[]->wpListIn F n P ops Q r a w->wpAnyIn F n P .any ops Q r.length listed a w:=by
  intro L listed a w hL hl hr h;have all: ∀i,i<pre.length->L.getD i true=true:=by
   intro i
   induction i using Nat.strongRecOn with
   |ind i ih=>
    intro hi
    cases hq:L.getD i true with
    |true=>rfl
    |false=>
     have:i∈Region.ready .any pre.toArray L:=mem_ready.2 ⟨hq,pre[i],by simp[hi],fun e hm hb=>by
      have hlt:=rk he i pre[i] (by rw[hops,jR hi];simp[hi]) e hm hb;have:=ih e.on (by omega) (by omega);rw[cX,gS (by omega)] at this⊢;simpa using this⟩
     rw[hr] at this;cases this
  refine SN he r pre hops hc listed a w (fun j d=>?_) h;rw[hl];by_cases hj:j<pre.length
  .have:=all j hj
   rw[if_pos hj,if_pos hj];rw[cX,gS (by omega)] at this⊢;simpa using this
  .rw[if_neg hj,if_neg hj]
 intro fuel
 induction fuel with
 |zero=>
  intro L listed a w hL hl hcl h;rw[eY];exact fin L listed a w hL hl h.1 h.2
 |succ fuel ih=>
  intro L listed a w hL hl hcl h;by_cases hr:Region.ready .any pre.toArray L=[]
  .exact NL (fin L listed a w hL hl hr (h.1 hr)) (fuel+1)
  .have sub: ∀i,i∈Region.ready .any pre.toArray L->i∈Region.ready .any ops listed:=fun i hi=>by
    obtain⟨h1,o,h2,h3⟩:=mem_ready.1 hi;have hi':i<pre.length:=by have:=(fU.1 h2).1;simpa using this
    refine mem_ready.2 ⟨by rw[hl,if_pos hi'];exact h1,o,by rw[hget i hi'];exact h2,fun e hm hb=>?_⟩;have hlt:=rk he i o (by rw[hops,jR hi'];simpa using h2) e hm hb;rw[hl,if_pos (by omega)];exact h3 e hm hb
   have sup: ∀i,i∈Region.ready .any ops listed->i∈Region.ready .any pre.toArray L:=fun i hi=>by
    obtain⟨h1,o,h2,h3⟩:=mem_ready.1 hi;have h4:=(fU.1 h2).1;by_cases hi':i<pre.length
    .rw[hl,if_pos hi'] at h1
     refine mem_ready.2 ⟨h1,o,by rw[<-hget i hi'];exact h2,fun e hm hb=>?_⟩;have hlt:=rk he i o (by simpa using h2) e hm hb;have:=h3 e hm hb;rw[hl,if_pos (by omega)] at this;exact this
    .exfalso
     obtain⟨j,hj⟩:=List.exists_mem_of_ne_nil _ hr;obtain⟨g1,o2,g2,_⟩:=mem_ready.1 hj;have hj':j<pre.length:=by have:=(fU.1 g2).1;simpa using this
     have clo: ∀i j,Bf ops.toList i j->listed.getD i false=true->listed.getD j false=true:=fun i j hb=>by
      induction hb with
      |b ho hm hb=>intro hi;exact hcl _ _ ho hi _ hm hb
      |s ho hm hb _ ih=>intro hi;exact ih (hcl _ _ ho hi _ hm hb)
     have hjf:listed.getD j false=false:=by
      rw[hl,if_pos hj'];rw[cX,gS (by omega)] at g1⊢;simpa using g1
     have:listed.getD j false=true:=by
      obtain⟨o2,e,ho,hm,hb,hh⟩:=(hc i (by omega) h4 j (by omega)).inv;have e':o=o2:=Option.some.inj (h2.symm.trans (by simpa using ho));subst e';rcases hh with hh|hh
      .rw[<-hh];exact h3 _ hm hb
      .exact clo _ _ hh (h3 _ hm hb)
     rw[hjf] at this;cases this
   rw[show fuel+1+r.length=(fuel+r.length)+1 by omega];refine⟨fun hn=>?_,fun i hi=>?_⟩
   .obtain⟨j,hj⟩:=List.exists_mem_of_ne_nil _ hr
    have:=sub j hj;rw[hn] at this;cases this
   .have hi0:=sup i hi
    have hk:=h.2 i hi0;obtain⟨h1,o,h2,h3⟩:=mem_ready.1 hi0;have hi':i<pre.length:=by have:=(fU.1 h2).1;simpa using this
    have hgo:o.guard=none:=hg o (by
     have h2':pre[i]? =some o:=by simpa using h2
     exact aK h2')
    have step: ∀a w,wpAnyIn F n P .any pre.toArray (EF F n P ops r Q) fuel (L.setIfInBounds i true) a w->wpAnyIn F n P .any ops Q (fuel+r.length) (listed.setIfInBounds i true) a w:=by
     intro a w hh;have hls:i<listed.size:=by
      apply Classical.byContradiction;intro hq;have q:=hl i true;have q':=hl i false;rw[if_pos hi'] at q q';rw[cX,oM (by omega)] at q q';rw[cX,gS (by omega)] at q q';simp only[Option.getD_none,lU] at q q';rw[<-q] at q';cases q'
     have hl': ∀j d,(listed.setIfInBounds i true).getD j d=if j<pre.length then(L.setIfInBounds i true).getD j d else if j<ops.size then false else d:=fun j d=>by
      have q:=hl j d;rw[cX] at q⊢;rw[cX] at q⊢;rw[eJ,eJ];by_cases hj:i=j
      .subst hj;rw[if_pos J,if_pos J,if_pos hls,if_pos hi',if_pos (by omega)]
      .rw[if_neg hj,if_neg hj];exact q
     refine ih _ _ a w (by simp[hL]) hl' (fun i2 o2 g1 g2 e hm hb=>?_) hh;have g3:i2=i\/listed.getD i2 false=true:=by
      rw[cX,eJ] at g2;by_cases hj:i=i2
      .exact .inl hj.symm
      .rw[if_neg hj] at g2;rw[cX];exact .inr g2
     have g4:listed.getD e.on false=true:=by
      rcases g3 with rfl|g3
      .have e':o=o2:=Option.some.inj (((hget i2 hi').trans h2).symm.trans (by simpa using g1))
       subst e';have hlt:=rk he i2 o g1 e hm hb;rw[hl,if_pos (by omega)];exact h3 e hm hb
      .exact hcl i2 o2 g1 g3 e hm hb
     rw[cX,eJ];by_cases hj:i=e.on
     .rw[if_pos hj];rw[if_pos hls];rfl
     .rw[if_neg hj];rw[cX] at g4;exact g4
    unfold wpOpIn at hk⊢;rw[hget i hi',h2];rw[h2] at hk;have hw: ∀y,Region.wanted o y=true:=fun y=>by unfold Region.wanted;rw[hgo]
    simp only[hw,if_true] at hk⊢;exact aHK (Oper.wpIn_mono step hk)
end
section
variable {own:aI}{us:List Rc}{id:Nat}
def DW(x:Nat):Nat->Bool
 |0=>true
 |i+1=>x.testBit i&&DW x i
def M3{x:Nat}: ∀{i:Nat},DW x i=true-> ∀j,j<i->x.testBit j=true
 |i+1,h,j,hj=>by
  simp only[DW,bV] at h;by_cases e:j=i
  .subst e;exact h.1
  .exact M3 h.2 j (by omega)
def BO:Nat->List Nat->Bool
 |_,[]=>true
 |i,x::t=>DW x i&&BO (i+1) t
def L7: ∀{l:List Nat} {k:Nat},BO k l=true-> ∀i x,l[i]? =some x-> ∀j,j<k+i->x.testBit j=true
 |y::t,k,h,0,x,hx,j,hj=>by
  simp only[BO,bV] at h
  cases hx
  exact M3 h.1 j (by omega)
 |y::t,k,h,i+1,x,hx,j,hj=>by
  simp only[BO,bV] at h;exact L7 h.2 i x (by simpa using hx) j (by omega)
def OR: ∀(r:List Oper) (acc:List Nat),(pn r acc).length=acc.length+r.length
 |[],acc=>by simp[pn]
 |o::r,acc=>by simp only[pn];rw[OR];simp;omega
def H6(m:Nat)(pre all:List Oper)(us:List Rc)(fr0:aD)(own0:aI):Bool:=
 (pre.all (fun o=>o.guard.isNone)&&vk (pn pre []) [] us)&&((m9 0 all&&BO m ((pn all []).drop m))&&Dh us fr0 own0)
def VV(hm:P.follows .mixedOrders=true)(h:H6 us.length (ops.toList.take us.length) ops.toList us fr0 own0=true)(k:av P GB C n Q0 fr own (.ops ops r K)):av P GB C n Q0 fr own (.dr id ops fr0 own0 us r K):=by
 intro D;obtain⟨pre,hp,hl⟩:=D.pre;have ht:ops.toList.take us.length=pre:=by rw[hp,<-hl];simp
 rw[ht] at h;simp only[H6,bV] at h;obtain⟨⟨h1,h2⟩,⟨h3,h4⟩,h5⟩:=h;have hg: ∀o∈pre,o.guard=none:=fun o ho=>by simpa using dJ.1 h1 o ho
 have hgt: ∀i,i<pre.length->ops[i]? =pre.toArray[i]? :=fun i hi=>by rw[<-pK,hp,jR hi];simp
 have hc: ∀i,pre.length<=i->i<ops.size-> ∀j,j<i->Bf ops.toList i j:=fun i g1 g2 j g3=>by
  refine Hj ops.toList [] [] J J (fun i j h=>by simp at h) i j ?_;have hlen:=OR ops.toList [];have hi:i<(pn ops.toList []).length:=by rw[hlen];simpa using g2
  rw[aV,aZ hi];refine L7 h4 (i-us.length) _ ?_ j (by omega);rw[mK,show us.length+(i-us.length)=i by omega];exact aZ hi
 have he':m9 0 pre=true:=by
  have: ∀(l l':List Oper) (k:Nat),m9 k (l++l')=true->m9 k l=true:=by
   intro l l'
   induction l with
   |nil=>intros;rfl
   |cons o t ih=>intro k h;simp only[gW,m9,bV] at h⊢;exact⟨h.1,ih _ h.2⟩
  exact this pre r 0 (by rw[<-hp];exact h3)
 have D':jz P GB C n pre.toArray us (aO fr0,bu own0):=by
  refine⟨by simpa using hl.symm,fun i u o hu ho=>?_,by simpa using h2,by simpa using he',MF h5⟩;have hi:i<pre.length:=by have:=(fU.1 ho).1;simpa using this
  obtain⟨d1,d2⟩:=D.snd i u o hu (by rw[hgt i hi];exact ho);refine⟨d1,fun Q tl tb K s1 s2 hf hk=>?_⟩;refine(d2 Q tl tb K s1 s2 hf hk).imp fun a w q=>?_;have hgo:o.guard=none:=hg o (aK (by simpa using ho));have hw: ∀y,Region.wanted o y=true:=fun y=>by unfold Region.wanted;rw[hgo]
  unfold wO at q⊢;simp only[hw,if_true] at q⊢;exact q
 have e:cv (dB (Array.replicate pre.length false)) 0 (aO fr0,bu own0) us=(aO fr0,bu own0):=by
  have: ∀(l:List Rc) (k:Nat) (s:ST),cv (dB (Array.replicate pre.length false)) k s l=s:=fun l=>by
   induction l with
   |nil=>intro k s;rfl
   |cons y l ih=>
    intro k s;simp only[cv];rw[ih];rw[Fc];rfl
  exact this us 0 _
 have hw:=D'.walk (Q:=EF (FW C.rd) 0 P ops r (cQ C.rd P Q0 K)) (by rw[D.st];exact k) pre.toArray.size (Array.replicate pre.length false) (by simp) (fun i o _ hi=>by rw[Fc] at hi;cases hi) (by unfold un;exact cM (nL _ _) (by simp));rw[e] at hw;refine hw.drew.imp fun a w q=>wpIn_region_any hm ?_;have hsz:ops.size=pre.toArray.size+r.length:=by rw[<-kN,hp];simp
 rw[show wpAnyIn (FW C.rd) 0 P .any ops (cQ C.rd P Q0 K) ops.size=wpAnyIn (FW C.rd) 0 P .any ops (cQ C.rd P Q0 K) (pre.toArray.size+r.length) by rw[hsz]];refine Ti hp hg h3 hc _ _ _ _ _ (by simp) (fun j d=>?_) (fun i o _ hi=>?_) q
 .have hs2:ops.size=pre.length+r.length:=by simpa using hsz
  simp only[cX,qT];by_cases g1:j<pre.length
  .rw[if_pos (by omega),if_pos g1,if_pos g1]
  .by_cases g2:j<ops.size
   .rw[if_pos g2,if_neg g1,if_pos g2];rfl
   .rw[if_neg g2,if_neg g1,if_neg g2];rfl
 .simp only[cX,qT] at hi
  split at hi<;>cases hi
end
section
variable {own:aI}{us:List Rc}{id:Nat}
def W4[fu:Fu](h:H6 us.length (ops.toList.take us.length) ops.toList us fr0 own0=true)(hgo:go tt n fu.n [] fr own (.ops ops r K)=⟨vc,fr',own',cf'⟩)(k:av prog GB C n Q0 fr' own' cf')
  (hv:autoParam (ak vc) cL._auto_1):av prog GB C n Q0 fr own (.dr id ops fr0 own0 us r K):=
 VV follows h (fI hgo hv k)
end
def I'(o:Obj):Prop:= ∀cs ty z,o≠ .cells cs ty z
section
variable {own:List aA}
def bH.ctx(h:bH C own G w)(h1:C'.w0=C.w0)(h2:C'.G0=C.G0)(h3:C'.mb=C.mb)(h4: ∀p∈C'.ex,p∈C.ex):bH C' own G w:=by
 obtain⟨a1,a2,a3,a4,a5,a6,a7,a8,a9,a10,a11,a12⟩:=h;exact⟨by rw[h1];exact a1,by rw[h1];exact a2,by rw[h1];exact a3,by rw[h1];exact a4,by rw[h1,h3];exact a5,a6,by rw[h2];exact a7,by rw[h1,h2];exact a8,by rw[h1,h3];exact a9,a10,by rw[h1];exact a11,fun p hp=>a12 p (h4 p hp)⟩
def bH.addx(h:bH C own G w){o:Obj}(ho:I' o)(h1:C'.w0=C.w0)(h2:C'.G0=C.G0)(h3:C'.mb=C.mb)(h4: ∀p∈C'.ex,p=(w.heap.size,o)\/p∈C.ex):bH C' own G (w.alloc o):=by
 have old: ∀b,b<w.heap.size->(w.alloc o).heap[b]? =w.heap[b]? :=fun b hb=>RowKit.Below.heap_alloc _ _ _ hb;obtain⟨a1,a2,a3,a4,a5,a6,a7,a8,a9,a10,a11,a12⟩:=h;refine⟨by rw[h1];exact a1,by rw[h1];exact a2,by rw[h1];exact a3,by rw[h1];simp;omega,?_,?_,by rw[h2];exact a7,by rw[h1,h2];exact a8,?_,a10,by rw[h1];exact a11,?_⟩
 .rw[h1,h3];intro b hb hm;rw[old b (by omega)];exact a5 b hb hm
 .intro b cs hb
  obtain⟨ty,fz,hc⟩:=a6 b cs hb;exact⟨ty,fz,by rw[old b (iq hc)];exact hc⟩
 .rw[h1,h3];intro x hx
  obtain⟨b1,b2⟩:=a9 x hx;exact⟨by rw[old _ (iq b1)];exact b1,b2⟩
 .intro p hp
  rcases h4 p hp with rfl|hp
  .exact⟨ho,World.alloc_heap_new w o⟩
  .exact⟨(a12 p hp).1,by rw[old _ (iq (a12 p hp).2)];exact(a12 p hp).2⟩
def bH.putx(h:bH C own G w){l:Nat}{o0 o:Obj}(hl:(l,o0)∈C.ex)(hs:C.w0.heap.size<=l)(ho:I' o)(h1:C'.w0=C.w0)(h2:C'.G0=C.G0)(h3:C'.mb=C.mb)(h4: ∀p∈C'.ex,p=(l,o)\/p∈C.ex/\p.1≠l):bH C' own G (w.putObj l o):=by
 have hne: ∀{b:Nat} {cs:Array Value} {ty:TypeId} {z:Nat×Nat},w.heap[b]? =some (.cells cs ty z)->b≠l:=fun hb e=>h.extNe hl hb e.symm;have hlt:=iq (h.ext _ hl).2;obtain⟨a1,a2,a3,a4,a5,a6,a7,a8,a9,a10,a11,a12⟩:=h;refine⟨by rw[h1];exact a1,by rw[h1];exact a2,by rw[h1];exact a3,by rw[h1];simpa using a4,?_,?_,by rw[h2];exact a7,by rw[h1,h2];exact a8,?_,a10,by rw[h1];exact a11,?_⟩
 .rw[h1,h3];intro b hb hm;rw[World.putObj_heap_other (by omega)];exact a5 b hb hm
 .intro b cs hb
  obtain⟨ty,fz,hc⟩:=a6 b cs hb;exact⟨ty,fz,by rw[World.putObj_heap_other (hne hc)];exact hc⟩
 .rw[h1,h3];intro x hx
  obtain⟨b1,b2⟩:=a9 x hx;exact⟨by rw[World.putObj_heap_other (hne b1)];exact b1,b2⟩
 .intro p hp
  rcases h4 p hp with rfl|⟨hp,hpl⟩
  .exact⟨ho,World.putObj_heap_same hlt⟩
  .exact⟨(a12 p hp).1,by rw[World.putObj_heap_other hpl];exact(a12 p hp).2⟩
end
abbrev nk (w:World) (G:Gh):aE:=⟨w,G,[],[],[],none,fun _=>none⟩
def Jn(G:Gh)(w:World):Prop:= ∀b cs,G b=some cs-> ∃ty fz,w.heap[b]? =some (.cells ⟨cs⟩ ty fz)
structure MG (Jv:Gh->World->Prop):Prop where
 frz: ∀G w,Jv G w->Jn G w
 on: ∀G w G1 w1,Jv G w->bH (nk w G) [] G1 w1->Jv G1 w1
def Ku(h:Jn G w):bH (nk w G) [] G w:=
 ⟨J,J,J,bK _,fun _ _ _=>J,h,bP.refl _,fun _ _=>J,fun o ho=>(by cases ho), .nil,bK _,fun p hp=>by cases hp⟩
structure As (GB:Gh) (P:Program) (l:Nat) (Jv:Nat->Gh->World->Prop) (Jx:Gh->World->Prop) (E:List (List DV)):Prop where
 st: ∀k,MG (Jv k)
 sx:MG Jx
 yd: ∀k e G w ys,E[k]? =some e->bP GB G->Jv k G w->IsLs G e ys->YieldAt (FW none) 0 P l ⟨ys⟩ w fun e w'=> ∃G',bP G G'/\(e= .returned (.bool true)/\Jv (k+1) G' w'\/e= .returned (.bool false)/\Jx G' w')
structure It (GB:Gh) (P:Program) (f:FuncId) (ds:List DV) (E:List (List DV)):Prop where
 able:tv P f
 run: ∀(l:Nat) (Jv:Nat->Gh->World->Prop) (Jx:Gh->World->Prop) (GB':Gh),bP GB GB'->As GB' P l Jv Jx E-> ∀w vs,Jv 0 GB' w->IsLs GB' ds vs->
  CallsIn (FW none) 0 P f ⟨.func (.yield l) #[] #[]::vs⟩ w fun e w'=> ∃G',bP GB' G'/\(∃v,e= .returned v)/\(Jv E.length G' w'\/Jx G' w')
structure Pl (C:aE):Prop where
 mb:C.mb=[]
 mks:C.mks=[]
 rd:C.rd=none
def IQ(P:Program)(fb:Func)(GB:Gh)(Jv:Nat->Gh->World->Prop)(Jx:Gh->World->Prop)(N:Nat):Exit->Act->World->Prop:=
 bodyPost P fb fun e w'=> ∃G',bP GB G'/\(∃v,e= .returned v)/\(Jv N G' w'\/Jx G' w')
section
variable {own:aI}
def aKY[fu:Fu]{f:FuncId}{c:Code}{m:Nat}{ds:List DV}{cf:Nat->Cf}{fr:Nat->aD}{own:Nat->aI}{vc:Nat->List Prop}(hf:prog.funcs[f]? =some fb)(hb:fb.body=some c)(hn:(fb.name== "runtime.NumGoroutine")=false)(hm:fb.ntmps=m)(hlen:Nat.ble (ds.length+1) m=true)
  (hgo: ∀l,go tt m fu.n [] (q7 0 (.v (.func (.yield l) #[] #[])::ds)) [] (.code c [])=⟨vc l,fr l,own l,cf l⟩)
  (k: ∀l Jv Jx GB',bP GB GB'->As GB' prog l Jv Jx E-> ∀C,Pl C->Jv 0 C.G0 C.w0->av prog GB' C m (IQ prog fb GB' Jv Jx E.length) (fr l) (own l) (cf l))
  (hv: ∀l,ak (vc l):=by intros;first|exact trivial|(simp only[ak];kernel_rfl)|(simp only[ak];omega)):It GB prog f ds E:=by
 refine⟨⟨fb,hf,hn,by simp[hb]⟩,fun l Jv Jx GB' hg H w vs hJ hvs=>?_⟩;have hlen':vs.length+1<=m:=by rw[hvs.len];simpa using hlen
 have h:=fI (GB:=GB') (C:=nk w GB') (Q0:=IQ prog fb GB' Jv Jx E.length) (hgo l) (hv l) (k l Jv Jx GB' hg H (nk w GB') ⟨J,J,J⟩ hJ);refine callsIn_wide.2 (calls_of_wp hf hb ?_);have hvs':IsLs GB' (.v (.func (.yield l) #[] #[])::ds) (.func (.yield l) #[] #[]::vs):= .cons (aH.2 J) hvs;refine uY J (h.run (fun _=>⟨none,0,0⟩) GB' [] _ w ⟨bP.refl _,Ku ((H.st 0).frz _ _ hJ),by simp;omega,J,fun k f e=>yj hvs' (fun k v hk=>?_) k f e,(fun nm B e=>by cases e),(fun nm nm' B B' e=>by cases e),fun nm p _ _ e=>by cases e⟩);obtain⟨j,rfl,hj⟩:=wk (.func (.yield l) #[] #[]::vs) 0 k v hk;have hj':=(aR.1 hj).1;rw[lR (by simpa using hj')];simpa using hj
def bH.pl{ov:List aA}(h:bH C ov G w)(hp:Pl C):bH (nk C.w0 C.G0) [] G w:=
 (h.drop (jY _)).ctx J J hp.mb.symm (fun p hp=>by cases hp)
def KJ{l:Nat}{e:Exit}(H:As GB P l Jv Jx E)(hp:Pl C)(hJ:Jv E.length C.G0 C.w0\/Jx C.G0 C.w0)(hr:fb.results.toList=[])(he:CB e=true:=by rfl):
  av P GB C n (IQ P fb GB Jv Jx E.length) fr own (.ex e []):=by
 refine⟨fun ρ G ov a w r=>?_⟩;have hj:Jv E.length G w\/Jx G w:=hJ.imp (fun h=>(H.st _).on _ _ _ _ h (r.h.pl hp)) fun h=>H.sx.on _ _ _ _ h (r.h.pl hp);have hr':jG P (cw a) ov fb.results.toList []:=by rw[hr];exact .nil
 cases e with
 |ret=>exact⟨r.df.trans hp.mks,_,tg hr' (cG a) r.h,G,r.gb,⟨_,J⟩,hj⟩
 |normal=>exact⟨r.df.trans hp.mks,_,tg hr' (cG a) r.h,G,r.gb,⟨_,J⟩,hj⟩
 |_=>cases he
def Ws{fo:Operand}{args:Array Operand}{tys:Array TypeId}{vs:List Value}{fr:Fr}{l:Nat}{dst:Option Nat}{ty':TypeId}{pos:String}{af:Array Edge}{gd:Option (Nat×Bool)}(hf:lm fr a)(ho:aB fr fo=some (.func (.yield l) ⟨[]⟩ ⟨[]⟩))(hv:fm fr args.toList=some vs):
  (execOp a.eval ⟨dst, .call ⟨.value fo,args,tys⟩,ty',pos,af,gd⟩).run P w=(Instr.yield l ⟨vs⟩).run P w:=by
 have e:args.map a.eval=⟨vs⟩:=by apply Array.ext';simpa using A9 hf hv
 simp only[execOp,resolve,bB hf ho,e,Deferred.ofValue];show(invoke (.fn (.yield l) ⟨[]⟩) (⟨[]⟩++⟨vs⟩)).run P w=_;simp only[invoke];rw[show((⟨[]⟩:Array Value)++⟨vs⟩)=⟨vs⟩ by simp]
def oz:aD->aD
 |[]=>[]
 |(k,f)::t=>match f with
  | .ov .. =>oz t
  | .rw .. =>oz t
  | .be .. =>oz t
  | .rs .. =>oz t
  | .bx .. =>oz t
  | .no=>oz t
  |f=>(k,f)::oz t
def Q8(fr:aD)(ops:Array Oper)(o:Oper):Option (Nat×List DV×Nat):=match o with
 |⟨some d, .call ⟨.value fo,args,_⟩,_,_,_,none⟩=>match bh (aO fr) fo,evDs (aO fr) args.toList with
  |some (.d (.v (.func (.yield l) ⟨[]⟩ ⟨[]⟩))),some ds=>some (l,ds,d)
  |_,_=>none
 |_=>none
def cy[fu1:Fu][fu2:Fu]{l d:Nat}{ds:List DV}(frd:aD)(H:As GB prog l Jv Jx E)(hp:Pl C)(hJ:Jv k C.G0 C.w0)(ha:Q8 fr ops o=some (l,ds,d))(hE:E[k]? =some ds)(hd:cj n (some d)=true)
  (hfd:ue frd fr)(hnd:oz frd=frd)
  (g1:go tt n fu1.n [] ((d, .tt)::frd) [] (.ops ops r K)=⟨vc1,fr1,own1,cf1⟩)(g2:go tt n fu2.n [] ((d, .ff)::frd) [] (.ops ops r K)=⟨vc2,fr2,own2,cf2⟩)
  (k1: ∀C',Pl C'->Jv (k+1) C'.G0 C'.w0->av prog GB C' n Q0 fr1 own1 cf1)(k2: ∀C',Pl C'->Jx C'.G0 C'.w0->av prog GB C' n Q0 fr2 own2 cf2)
  (v1:autoParam (ak vc1) cL._auto_1)(v2:autoParam (ak vc2) cL._auto_1):
  av prog GB C n Q0 fr own (.ops ops (o::r) K):=by
 unfold Q8 at ha;split at ha<;>try (cases ha;done)
 rename_i d0 fo args tys ty pos af;split at ha<;>cases ha;rename_i h1 h2;have nmd: ∀{f:aD},oz f=f-> ∀k x,aO f k=some x->x.nm=none:=by
  have len: ∀f:aD,(oz f).length<=f.length:=fun f=>by
   induction f with
   |nil=>exact bK _
   |cons e t ih=>obtain⟨j,x⟩:=e;cases x<;>simp only[oz,bZ]<;>omega
  intro f
  induction f with
  |nil=>intro _ k x e;cases e
  |cons e t ih=>
   obtain⟨j,y⟩:=e;intro hd k x hx;rw[jO] at hx;have:=len t;split at hx
   .cases hx
    cases y<;>first|rfl|(have:=congrArg List.length hd;simp only[oz,bZ] at this;omega)
   .refine ih ?_ k x hx
    cases y<;>first|exact(List.cons.inj hd).2|(have:=congrArg List.length hd;simp only[oz,bZ] at this;omega)
 refine⟨fun ρ G ov a w rl=>?_⟩;have hJG:Jv k G w:=(H.st k).on _ _ _ _ hJ (rl.h.pl hp);obtain⟨y,hy,hy'⟩:=rl.ev h1;rw[(aH (G:=G)).1 hy'] at hy;obtain⟨vs,h3,h4⟩:=rl.evDs h2;obtain⟨fn,tmps,assign,body,hrun,hround⟩:=H.yd k ds G w vs hE rl.gb hJG h4;rw[hp.rd];simp only[wpListIn];rw[if_pos (by rfl)];refine⟨fun _ _=>trivial,?_⟩;have hs: ∀o:Oper,Oper.semAt (FW none).round a.eval o=execOp a.eval o:=fun _=>J;rw[hs,Ws (cG a) hy h3,hrun];refine⟨fun h=>(by cases h),hround.mono fun e w' he=>?_⟩;obtain⟨G',hg,he⟩:=he;have rel: ∀(b:Bool) (f:FX),(∀ρ,b9 ρ G' f (.bool b))->Jn G' w'->bO GB (nk w' G') n (aO ((d,f)::frd)) (bu []) ρ G' [] (a.put (some d) (.bool b)) w':=fun b f hfb hz=>by
  have pa:=rl.putA (dst:=some d) (.bool b) hd;refine⟨rl.gb.trans hg,Ku hz,pa.sz,by rw[pa.df];exact hp.mks,fun k g e=>?_,(fun nm B e=>by cases e),(fun nm nm' B B' e=>by cases e),fun nm p _ _ e=>by cases e⟩;have e':ef (aO frd) (some d) f k=some g:=by
   rw[jO] at e;simp only[ef];split at e
   .rename_i hk;rw[if_pos hk];exact e
   .rename_i hk;rw[if_neg hk];exact e
  refine pa.fx (fun k g _ e=>?_) (hfb ρ) k g e';obtain⟨u,h5,h6⟩:=rl.fx k g (wK hfd k g e);exact⟨u,h5,h6.up hg⟩
 rcases he with⟨rfl,hj⟩|⟨rfl,hj⟩
 .exact(fI (GB:=GB) (C:=nk w' G') (Q0:=Q0) g1 v1 (k1 (nk w' G') ⟨J,J,J⟩ hj)).run ρ G' [] _ w' (rel true .tt (fun _=>J) ((H.st _).frz _ _ hj))
 .exact(fI (GB:=GB) (C:=nk w' G') (Q0:=Q0) g2 v2 (k2 (nk w' G') ⟨J,J,J⟩ hj)).run ρ G' [] _ w' (rel false .ff (fun _=>J) (H.sx.frz _ _ hj))
def Nk(GB:Gh)(n:Nat)(F:X->aD)(I:X->aE->Prop)(a:Act)(w:World):Prop:=
 ∃C x ρ G ov,Pl C/\I x C/\bO GB C n (aO (F x)) (bu []) ρ G ov a w
def lpC[fu:Fu]{c:Code}(F:X->aD)(I:X->aE->Prop)(μ:X->Nat)(x0:X){cf':X->Cf}{fr':X->aD}{own':X->aI}{vc:X->List Prop}(hp:Pl C)(hI:I x0 C)
  (hgo: ∀x,go tt n fu.n [] (F x) [] (.code c (.ag (Nk GB n F (fun y C=>I y C/\μ y<μ x))::K))=⟨vc x,fr' x,own' x,cf' x⟩)
  (round: ∀x C,Pl C->I x C->av prog GB C n Q0 (fr' x) (own' x) (cf' x))(hF:ue (F x0) fr:=by repeat (first|exact trivial|refine And.intro J ?_|refine And.intro (py J (by first|omega|(dsimp only;omega))) ?_|refine And.intro (py J (by simp)) ?_))
  (hv: ∀x C,I x C->ak (vc x):=by intros;first|exact trivial|(simp only[ak];kernel_rfl)|(simp only[ak];omega)|(simp only[ak,aX,bQ,aL];omega)):av prog GB C n Q0 fr own (.code (.loop c) K):=by
 refine⟨fun ρ G ov a w r=>?_⟩;have r0:=r.mono (bk:=bu []) (wK hF) (fun k x e=>by cases e);rw[hp.rd];intro b k cs hro hb hrm;have key: ∀m a w,(∃C x ρ G ov,Pl C/\I x C/\μ x=m/\bO GB C n (aO (F x)) (bu []) ρ G ov a w)->
   ∃e a' w',cQ none prog Q0 K e a' w'/\ArrivesIn (Machine.fenced prog (FW none)) prog (lone (b.atR a (.code c:: .inLoop c::k)) cs w) b k cs e a' w':=by
  intro m
  induction m using Nat.strongRecOn with
  |_ m ih=>
   intro a w ⟨C,x,ρ,G,ov,hpc,hx,hm,hr⟩;have h1:=fI (GB:=GB) (C:=C) (Q0:=Q0) (hgo x) (hv x C hx) (round x C hpc hx);have h2:=h1.run ρ G ov a w hr;rw[hpc.rd] at h2;obtain⟨e,a₁,w₁,hq,harr⟩:=h2 b (.inLoop c::k) cs hro hb hrm
   cases e with
   |normal=>
    obtain⟨C',x',ρ',G',ov',hpc',⟨hx',hlt⟩,hr'⟩:=hq;obtain⟨e₂,a₂,w₂,hq₂,harr₂⟩:=ih (μ x') (hm▸hlt) a₁ w₁ ⟨C',x',ρ',G',ov',hpc',hx',rfl,hr'⟩;exact⟨e₂,a₂,w₂,hq₂, .of_steps (StepsIn.trans harr (.one (fenced_calm hb hrm J) stepR_inLoop)) harr₂⟩
   |exit id=>exact⟨_,a₁,w₁,hq, .pass (x:= .inLoop c) J (fun _ _=> .inl (by simp)) harr⟩
   |goto l=>exact⟨_,a₁,w₁,hq, .pass (x:= .inLoop c) J (fun _ _=> .inl (by simp)) harr⟩
   |ret=>exact⟨_,a₁,w₁,hq, .pass (x:= .inLoop c) J (fun _ _=> .inl (by simp)) harr⟩
   |panic ch=>exact⟨_,a₁,w₁,hq, .pass (x:= .inLoop c) J (fun _ _=> .inl (by simp)) harr⟩
   |outgrown=>exact⟨_,a₁,w₁,hq, .pass (x:= .inLoop c) J (fun _ _=> .inl (by simp)) harr⟩
 obtain⟨e,a',w',q,rr⟩:=key (μ x0) a w ⟨C,x0,ρ,G,ov,hp,hI,rfl,r0⟩;exact⟨e,a',w',q, .of_steps (.one (fenced_calm hb hrm J) stepR_loop) rr⟩
def atC{F:X->aD}{I:X->aE->Prop}(x:X)(hp:Pl C)(hI:I x C)(hF:ue (F x) fr:=by repeat (first|exact trivial|refine And.intro J ?_|refine And.intro (py J (by first|omega|(dsimp only;omega))) ?_|refine And.intro (py J (by simp)) ?_)):av P GB C n Q0 fr own (.ex .normal (.ag (Nk GB n F I)::K)):=
 ⟨fun ρ G ov a w r=>⟨C,x,ρ,G,ov,hp,hI,r.mono (wK hF) (fun k x e=>by cases e)⟩⟩
end
end Go.Sx
end
