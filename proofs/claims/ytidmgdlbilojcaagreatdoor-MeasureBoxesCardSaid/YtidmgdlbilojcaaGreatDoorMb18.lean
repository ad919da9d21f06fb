import Derived.Test.YtidmgdlbilojcaaGreatDoorMb17
set_option linter.all false
set_option maxHeartbeats 1000000
set_option maxRecDepth 100000
section
namespace Go.Sx
open Go Go.Proofs Tryz
variable {GB:Gh}
def XO{l m:aa}(hl:l.ok)(hm:m.ok)(h:co l.dir m.dir=0): ∃k e:Rat,0<k/\ ∀p,m.value p=k*l.value p+e:=by
 obtain⟨h1,h2⟩:=Mz.1 h;have z1:=uH hl;have key: ∃k:Rat,0<k/\m.dir.x=k*l.dir.x/\m.dir.y=k*l.dir.y:=by
  unfold ab.cross at h2;rcases lc l.dir with⟨e,k⟩|⟨e,k⟩|⟨e,k⟩
  ·rw[e] at h1
   have k2:=nB.1 h1.symm;rcases k with k|⟨k,k'⟩
   ·have y2:0<m.dir.y:=by
     rcases k2 with k2|⟨k2,k3⟩
     ·exact k2
     ·exfalso
      rw[k2] at h2;have:=bO k k3;grind
    refine⟨m.dir.y/l.dir.y,?_,by grind,by grind⟩;have:0<m.dir.y/l.dir.y:=(gy k).1 (by rw[show m.dir.y/l.dir.y*l.dir.y=m.dir.y by grind];exact y2);exact this
   ·rw[k] at h2
    have y2:m.dir.y=0:=by
     rcases gT.1 (show l.dir.x*m.dir.y=0 by grind) with q|q
     ·rw[q] at k';exact absurd k' (by decide)
     ·exact q
    have x2:0<m.dir.x:=by
     rcases k2 with k2|⟨_,k3⟩
     ·rw[y2] at k2;exact absurd k2 (by decide)
     ·exact k3
    refine⟨m.dir.x/l.dir.x,(gy k').1 (by rw[show m.dir.x/l.dir.x*l.dir.x=m.dir.x by grind];exact x2),by grind,by rw[y2,k];grind⟩
  ·rw[e] at h1
   have k2:=qd.1 h1.symm;rcases k with k|⟨k,k'⟩
   ·have y2:m.dir.y<0:=by
     rcases k2 with k2|⟨k2,k3⟩
     ·exact k2
     ·exfalso
      rw[k2] at h2;have:=bO (show 0< -l.dir.y by grind) (show 0< -m.dir.x by grind);grind
    refine⟨m.dir.y/l.dir.y,(gy (show 0< -l.dir.y by grind)).1 (by rw[show m.dir.y/l.dir.y* -l.dir.y= -m.dir.y by grind];grind),by grind,by grind⟩
   ·rw[k] at h2
    have y2:m.dir.y=0:=by
     rcases gT.1 (show l.dir.x*m.dir.y=0 by grind) with q|q
     ·rw[q] at k';exact absurd k' (by decide)
     ·exact q
    have x2:m.dir.x<0:=by
     rcases k2 with k2|⟨_,k3⟩
     ·rw[y2] at k2;exact absurd k2 (by decide)
     ·exact k3
    refine⟨m.dir.x/l.dir.x,(gy (show 0< -l.dir.x by grind)).1 (by rw[show m.dir.x/l.dir.x* -l.dir.x= -m.dir.x by grind];grind),by grind,by rw[y2,k];grind⟩
  ·exact absurd e z1
 obtain⟨k,k0,kx,ky⟩:=key;simp only[aa.dir] at kx ky;refine⟨k,(m.c:Rat)-k*(l.c:Rat),k0,fun p=>?_⟩;rw[iG,iG,kx];have:(m.a:Rat)=k*(l.a:Rat):=by grind
 rw[this];grind
def OU{e:aw}(hne: ∃q,bm e q){l m:aa}(hl:l.ok)(hm:m.ok)(pl: ∀p,bm e p->0<l.value p)(pm: ∀p,bm e p->0<m.value p)(tl: ∃p,lD e p/\l.value p=0)(tm: ∃p,lD e p/\m.value p=0)(ha:co l.dir m.dir=0):l=m:=by
 obtain⟨k,c,k0,hk⟩:=XO hl hm ha;obtain⟨p,p1,p2⟩:=tl;obtain⟨q,q1,q2⟩:=tm;have g1:=t7 hne pm p1;rw[hk,p2] at g1;have g2:=t7 hne pl q1;have g3:=cD (dQ k0) g2;rw[hk] at q2;have c0:c=0:=by grind
 have hz: ∀t,m.value (l.at t)=0:=fun t=>by rw[hk,lm hl.ne,c0];grind
 rcases zf hm hl hz with h|h
 ·exact h.symm
 ·exfalso
  obtain⟨u,hu⟩:=hne;have a:=pl u hu;have b:=pm u hu;rw[h,fh] at b;grind
def AP{c:aw}(hc:bP c){s:ba}(hs:s∈c):lD c (s.l.at s.v.sample)/\s.l.value (s.l.at s.v.sample)=0:=
 ⟨((hc.edge s hs).2 _).1 (po (hc.edge s hs).1).has,lm (hc.ok s hs).ne _⟩
def jb(c:aw):Prop:=(c.map fun s=>s.l.dir).Pairwise b7
def GO{p:Nat->Bool}{N:Nat}(hm: ∀i j,i<=j->j<N->p j=true->p i=true): ∀(d i j:Nat),j-i<=d->i<=j->j<=N->(∀k,k<i->p k=true)->(∀k,j<=k->k<N->p k=false)->(∀k,k<gr p i j->p k=true)/\ ∀k,gr p i j<=k->k<N->p k=false
 |0,i,j,h,hij,hN,h1,h2=>by
  obtain rfl:i=j:=by omega
  rw[gr,dif_neg (by omega)];exact⟨h1,h2⟩
 |d+1,i,j,h,hij,hN,h1,h2=>by
  by_cases q:i<j
  ·rw[gr,dif_pos q]
   by_cases r:p ((i+j)/2)=true
   ·rw[if_pos r]
    exact GO hm d _ _ (by omega) (by omega) hN (fun k hk=>hm k ((i+j)/2) (by omega) (by omega) r) h2
   ·rw[if_neg r]
    refine GO hm d _ _ (by omega) (by omega) (by omega) h1 fun k hk hkN=>?_
    cases hp:p k with
    |false=>rfl
    |true=>exact absurd (hm _ k hk hkN hp) r
  ·obtain rfl:i=j:=by omega
   rw[gr,dif_neg q];exact⟨h1,h2⟩
def Sk{ds:List ab}{d:ab}{n:Nat}(h:ds.Pairwise b7)(h1: ∀x∈ds.take n,b7 x d)(h2: ∀x∈ds.drop n,b7 d x):(ds.take n++d::ds.drop n).Pairwise b7:=by
 have hs:=h;rw[<-jN n ds,gX] at hs;obtain⟨a,b,c⟩:=hs;rw[gX];refine⟨a,bR.2 ⟨h2,b⟩,fun x hx y hy=>?_⟩;rcases aW.1 hy with rfl|hy
 ·exact h1 x hx
 ·exact c x hx y hy
def Id(l:aa): ∀c:aw,((ew l c).map fun s=>s.l.dir).Sublist (c.map fun s=>s.l.dir)
 |[]=>List.Sublist.refl _
 |s::c=>by
  rw[ew];split
  ·exact(Id l c).cons_cons _
  ·exact(Id l c).cons _
def S0{α:Type}{l:List α}{n:Nat}{x:α}(h:x∈l.take n): ∃i,i<n/\l[i]? =some x:=by
 obtain⟨i,hi,e⟩:=mV.1 h;rw[cW] at hi;exact⟨i,by omega,by rw[List.getElem_take] at e;rw[aZ (by omega),e]⟩
def Sf{α:Type}{l:List α}{n:Nat}{x:α}(h:x∈l.drop n): ∃i,n<=i/\i<l.length/\l[i]? =some x:=by
 obtain⟨i,hi,e⟩:=mV.1 h;rw[gN] at hi;exact⟨n+i,by omega,by omega,by rw[List.getElem_drop] at e;rw[aZ (by omega),e]⟩
def HG{c:aw}{l:aa}(hc:bP c)(hl:l.ok)(ha:jb c)(hb:dh c l=true):jb (cj c l):=by
 have hg:=(jy hc hl hb).1;unfold cj at hg⊢
 cases hp:lC c l with
 |none=>exact ha
 |some v=>
  simp only[hp] at hg⊢;have hs:jb (ew l c):=ha.sublist (Id l c);have nt: ∀s∈ew l c,co s.l.dir l.dir≠0:=fun s h e=>by
   have m1:s∈ni (ew l c) l v:=q7.2 (.inr h);have m2:(⟨l,v⟩:ba)∈ni (ew l c) l v:=q7.2 (.inl J);have ee:=OU hg.ne (hg.ok s m1) hl (fun p hp=>hp s m1) (fun p hp=>hp ⟨l,v⟩ m2) ⟨_,AP hg m1⟩ ⟨_,AP hg m2⟩ e;obtain⟨s0,g1,_,rfl⟩:=rm.1 h;obtain⟨_,q,q1,q2⟩:=JL hl.ne hp;have h5:=q1 s0 g1;have e5:s0.l=l:=ee;rw[e5] at h5;grind
  generalize ew l c=d at*;have hmo: ∀i j,i<=j->j<d.length->jt d l j=true->jt d l i=true:=fun i j hij hj h=>by
   unfold jt at h⊢;rw[aZ hj] at h;rw[aZ (by omega)];simp only[decide_eq_true_eq,nj] at h⊢;by_cases q:i=j
   ·subst q;exact h
   ·have:=kY.1 hs i j (by simp;omega) (by simp;omega) (by omega)
    simp only[qX] at this;exact uu this h
  obtain⟨k1,k2⟩:=GO hmo d.length 0 d.length (by omega) (by omega) (aN _) (fun k h=>absurd h (by omega)) (fun k h h'=>absurd h' (by omega));unfold ni jb;generalize gr (jt d l) 0 d.length=n at*;rw[bS,cK,gR,iM];refine Sk hs (fun x hx=>?_) (fun x hx=>?_)
  ·rw[<-gR] at hx
   obtain⟨s,h1,rfl⟩:=bQ.1 hx;obtain⟨i,hi,e⟩:=S0 h1;have:=k1 i hi;unfold jt at this;rw[e] at this;simpa[nj] using this
  ·rw[<-iM] at hx
   obtain⟨s,h1,rfl⟩:=bQ.1 hx;obtain⟨i,hi,hi2,e⟩:=Sf h1;have:=k2 i hi hi2;unfold jt at this;rw[e] at this;have h3: ¬b7 s.l.dir l.dir:=by simpa[nj] using this
   by_cases q:b7 l.dir s.l.dir
   ·exact q
   ·exact absurd (Fz h3 q) (nt s (gS h1))
def JI: ∀{t:Tr} {c:aw},t.all aa.ok->bP c->jb c-> ∀x∈t.parts c,jb x.2
 | .leaf b,c,_,_,ha,x,h=>by
  rw[Tr.parts,aU] at h;subst h;exact ha
 | .node l u v,c,ht,hc,ha,x,h=>by
  rw[Tr.parts] at h;rcases bK.1 h with h|h
  ·split at h
   ·rename_i hb
    exact JI ht.2.1 (jy hc ht.1 hb).1 (HG hc ht.1 ha hb) x h
   ·cases h
  ·split at h
   ·rename_i hb
    exact JI ht.2.2 (jy hc ht.1.rev hb).1 (HG hc ht.1.rev ha hb) x h
   ·cases h
def tP(c:List aa):Prop:=(c.map aa.dir).Pairwise b7
def Gc{c:List aa}{e:aw}(hs: ∀s∈e,s.l∈c){l:aa}(hl:l.ok)(he:(fj l c ah.all).isSome=true): ∃w:ah,w.Pos/\ ∀t,w.ins t->lD e (l.at t)/\l.value (l.at t)=0/\ ∀m∈c,m≠l->0<m.value (l.at t):=by
 obtain⟨w,hw⟩:=qT.1 he;obtain⟨h1,h2⟩:=Cj l c _ w x9 hw;refine⟨w,h1,fun t ht=>?_⟩;have h3:=((h2 t).1 ht).2;refine⟨fun s hs'=>?_,lm hl.ne t,h3⟩;by_cases q:s.l=l
 ·rw[q,lm hl.ne];exact dR
 ·exact dQ (h3 _ (hs s hs') q)
def RY{α:Type}{p:α->Bool}: ∀(l:List α),(∀i x,i<(l.takeWhile p).length->l[i]? =some x->p x=true)/\ ∀x,l[(l.takeWhile p).length]? =some x->p x=false
 |[]=>⟨fun i x h _=>by simp at h,fun x h=>by simp at h⟩
 |a::l=>by
  obtain⟨h1,h2⟩:=RY (p:=p) l;rw[oS]
  cases ha:p a with
  |false=>
   refine⟨fun i x h _=>by simp at h,fun x h=>?_⟩;simp at h;rw[<-h];exact ha
  |true=>
   simp only[if_true,bX];refine⟨fun i x h e=>?_,fun x h=>h2 x (by simpa using h)⟩
   cases i with
   |zero=>simp at e;rw[<-e];exact ha
   |succ i=>exact h1 i x (by omega) (by simpa using e)
def TQ{out:List aa}{l:aa}(ha:tP out)(ht: ∀m∈out,co m.dir l.dir=0->m=l):tP (pw out l):=by
 unfold pw;split
 ·exact ha
 ·rename_i hne
  obtain⟨k1,k2⟩:=RY (p:=fun x:aa=>decide (co x.dir l.dir<0)) out;have e0:oh out l=(out.takeWhile fun x=>decide (co x.dir l.dir<0)).length:=J;rw[<-e0] at k1 k2;generalize oh out l=n at*;unfold tP;rw[bS,cK,gR,iM];refine Sk ha (fun x hx=>?_) (fun x hx=>?_)
  ·rw[<-gR] at hx
   obtain⟨m,h1,rfl⟩:=bQ.1 hx;obtain⟨i,hi,e⟩:=S0 h1;simpa[nj] using k1 i m hi e
  ·rw[<-iM] at hx
   obtain⟨m,h1,rfl⟩:=bQ.1 hx;obtain⟨i,hi,hi2,e⟩:=Sf h1;have hn:n<out.length:=by omega
   have h3: ¬b7 (out[n]).dir l.dir:=by simpa[nj] using k2 _ (aZ hn)
   have h4:b7 l.dir (out[n]).dir:=by
    by_cases q:b7 l.dir (out[n]).dir
    ·exact q
    ·exact absurd (by rw[aZ hn,ht _ (bM hn) (Fz h3 q)]) hne
   by_cases q:i=n
   ·subst q
    rw[aZ hn] at e
    cases e
    exact h4
   ·have:=kY.1 ha n i (by simp;omega) (by simp;omega) (by omega)
    simp only[qX] at this;rw[aZ hi2] at e
    cases e
    exact uu h4 this
def JN{c:List aa}(ht: ∀l∈c,∀m∈c,(fj l c ah.all).isSome=true->(fj m c ah.all).isSome=true->co m.dir l.dir=0->m=l): ∀{t out:List aa},(∀l∈t,l∈c)->(∀m∈out,m∈c/\(fj m c ah.all).isSome=true)->tP out->tP (nH c t out)
 |[],out,_,_,ha=>ha
 |l::t,out,hc,ho,ha=>by
  have hl:=hc l aQ;rw[nH];by_cases q:(fj l c ah.all).isSome=true
  ·rw[if_pos q]
   refine JN ht (fun l h=>hc l (aJ _ h)) (fun m hm=>?_) (TQ ha fun m hm e=>ht l hl m (ho m hm).1 q (ho m hm).2 e);rcases Gj.1 hm with rfl|h
   ·exact⟨hl,q⟩
   ·exact ho m h
  ·rw[if_neg q]
   exact JN ht (fun l h=>hc l (aJ _ h)) ho ha
def Us{c:List aa}(hok: ∀l∈c,l.ok)(hne: ∃p,cI c p):tP (e8 c):=by
 obtain⟨e,_,hg,hi,hs⟩:=Fe hok hne;refine JN (fun l hl m hm el em h=>?_) (fun l h=>h) (fun m h=>by cases h) .nil;obtain⟨w1,p1,k1⟩:=Gc (fun s h=>(hs s h).1) (hok l hl) el;obtain⟨w2,p2,k2⟩:=Gc (fun s h=>(hs s h).1) (hok m hm) em;obtain⟨a1,a2,_⟩:=k1 _ (po p1);obtain⟨b1,b2,_⟩:=k2 _ (po p2);exact OU hg.ne (hok m hm) (hok l hl) (fun p hp=>(hi p).1 hp m hm) (fun p hp=>(hi p).1 hp l hl) ⟨_,b1,b2⟩ ⟨_,a1,a2⟩ h
def Oj{v:ah}{t u:Rat}(h:v.ins t)(k:v.has u):v.ins ((t+u)*(1/2)):=by
 obtain⟨lo,hi,nl,nh⟩:=v;unfold ah.ins at*;unfold ah.has at k
 cases nl<;>cases nh<;>simp at* <;>grind
def ED{c d:aw}(hc: ∃q,bm c q)(h: ∀p,bm c p↔bm d p){p:ab}(hp:lD c p):lD d p:=fun s hs=>t7 hc (fun q hq=>(h q).1 hq s hs) hp
def Xu{c:List aa}{d:aw}(hok: ∀l∈c,l.ok)(hd:bP d)(h: ∀p,bm d p↔cI c p)(l:aa):l∈d.map (·.l)↔l∈e8 c:=by
 have hne: ∃p,cI c p:=hd.ne.elim fun q hq=>⟨q,(h q).1 hq⟩;obtain⟨e,_,hg,hi,hs⟩:=Fe hok hne;have hde: ∀p,bm d p↔bm e p:=fun p=>by rw[h,hi]
 constructor
 ·intro hl
  obtain⟨s,k,rfl⟩:=bQ.1 hl;obtain⟨t1,t2⟩:=AP hd k;have t3:=ED hd.ne hde t1;have: ¬bm e (s.l.at s.v.sample):=fun q=>by
   have:=(hde _).2 q s k;rw[t2] at this;exact absurd this (by decide)
  obtain⟨u,hu,hz⟩: ∃u∈e,u.l.value (s.l.at s.v.sample)=0:=by
   by_cases q: ∃u∈e,u.l.value (s.l.at s.v.sample)=0
   ·exact q
   ·exfalso
    refine this fun u hu=>?_;have g1:=t3 u hu;have g2:u.l.value (s.l.at s.v.sample)≠0:=fun e=>q ⟨u,hu,e⟩;grind
  have:=S2 hd k (hg.ok u hu) (fun p hp=>(hde p).1 hp u hu) hz;rw[<-this];exact pc.2 (hs u hu)
 ·intro hl
  obtain⟨l1,l2⟩:=pc.1 hl;obtain⟨w,p1,k1⟩:=Gc (fun s h=>(hs s h).1) (hok l l1) l2;have hed: ∀p,bm e p↔bm d p:=fun p=>(hde p).symm;have hi1:=po p1;obtain⟨⟨u1,m1,n1⟩,⟨u2,m2,n2⟩⟩:=KG hi1;have g1:=Oj hi1 n1;have g2:=Oj hi1 n2;obtain⟨c0,c1,_⟩:=k1 _ hi1;have c2:=ED hg.ne hed c0;have: ¬bm d (l.at w.sample):=fun q=>by
   have:=(h _).1 q l l1;rw[c1] at this;exact absurd this (by decide)
  obtain⟨s,hsd,hz⟩: ∃s∈d,s.l.value (l.at w.sample)=0:=by
   by_cases q: ∃u∈d,u.l.value (l.at w.sample)=0
   ·exact q
   ·exfalso
    refine this fun u hu=>?_;have g1:=c2 u hu;have g2:u.l.value (l.at w.sample)≠0:=fun e=>q ⟨u,hu,e⟩;grind
  have e1:=ED hg.ne hed (k1 _ g1).1 s hsd;have e2:=ED hg.ne hed (k1 _ g2).1 s hsd;rw[j'] at hz e1 e2;have hK:l.cutK s.l=0:=by
   rcases fD (l.cutK s.l) with h|h|h
   ·exact h
   ·exfalso
    have:=bO (a:=w.sample-u1) (b:=l.cutK s.l) (by grind) h;grind
   ·exfalso
    have:=bO (a:=u2-w.sample) (b:= -l.cutK s.l) (by grind) (by grind);grind
  have hz2: ∀t,s.l.value (l.at t)=0:=fun t=>by rw[j',hK];rw[hK] at hz;grind
  rcases zf (hd.ok s hsd) (hok l l1) hz2 with q|q
  ·rw[<-q];exact eJ hsd
  ·exfalso
   obtain⟨u,hu⟩:=hd.ne;have a:=hu s hsd;have b:=(h u).1 hu l l1;rw[q,fh] at a;grind
def OM: ∀{l m:List aa},tP l->tP m->(∀x,x∈l↔x∈m)->l=m
 |[],[],_,_,_=>rfl
 |[],b::m,_,_,h=>absurd ((h b).2 aQ) (by simp)
 |a::l,[],_,_,h=>absurd ((h a).1 aQ) (by simp)
 |a::l,b::m,h1,h2,h=>by
  obtain⟨p1,p2⟩:=bR.1 h1;obtain⟨q1,q2⟩:=bR.1 h2;have p1': ∀x∈l,b7 a.dir x.dir:=fun x hx=>p1 _ (eJ hx);have q1': ∀x∈m,b7 b.dir x.dir:=fun x hx=>q1 _ (eJ hx);have e:a=b:=by
   rcases aW.1 ((h a).1 aQ) with e|e
   ·exact e
   ·rcases aW.1 ((h b).2 aQ) with f|f
    ·exact f.symm
    ·exact(AD (q1' a e) (p1' b f)).elim
  subst e;congr 1;refine OM p2 q2 fun x=>⟨fun hx=>?_,fun hx=>?_⟩
  ·rcases aW.1 ((h x).1 (aJ _ hx)) with e|e
   ·subst e;exact(sI _ (p1' _ hx)).elim
   ·exact e
  ·rcases aW.1 ((h x).2 (aJ _ hx)) with e|e
   ·subst e;exact(sI _ (q1' _ hx)).elim
   ·exact e
def ayT{c:List aa}{d:aw}(hok: ∀l∈c,l.ok)(hd:bP d)(ha:jb d)(h: ∀p,bm d p↔cI c p):e8 c=d.map (·.l):=by
 refine OM (Us hok (hd.ne.elim fun q hq=>⟨q,(h q).1 hq⟩)) ?_ fun x=>(Xu hok hd h x).symm;unfold tP;rw[pU];exact ha
def auC{c:List aa}(h:ru c≠true)(t:Tr):mB t c=[]:=by
 cases t<;>rw[mB,if_neg h]
def KZ: ∀{t:Tr} {c:List aa} {d:aw},t.all aa.ok->(∀l∈c,l.ok)->bP d->jb d->(∀p,bm d p↔cI c p)->mB t c=(t.parts d).map fun x=>(x.2.map (·.l),x.1)
 | .leaf b,c,d,_,hok,hd,ha,h=>by
  have hb:ru c=true:=(JR hok).2 (hd.ne.elim fun q hq=>⟨q,(h q).1 hq⟩);rw[mB,if_pos hb,Tr.parts,ayT hok hd ha h];rfl
 | .node l x y,c,d,ht,hok,hd,ha,h=>by
  have hne: ∃p,cI c p:=hd.ne.elim fun q hq=>⟨q,(h q).1 hq⟩;have hb:ru c=true:=(JR hok).2 hne;have hck: ∀m∈e8 c,m.ok:=fun m hm=>hok m (pc.1 hm).1;have go: ∀(k:aa) (u:Tr),k.ok->u.all aa.ok->(∀{c:List aa} {d:aw},(∀l∈c,l.ok)->bP d->jb d->(∀p,bm d p↔cI c p)->mB u c=(u.parts d).map fun x=>(x.2.map (·.l),x.1))->mB u (e8 c++[k])=(if dh d k then u.parts (cj d k) else []).map fun x=>(x.2.map (·.l),x.1):=fun k u hk hu ih=>by
   have hok2:=iv hck hk;have hin: ∀p,cI (e8 c++[k]) p↔bm d p/\0<k.value p:=fun p=>by rw[jx,AJ hok hne,h]
   by_cases q:dh d k=true
   ·rw[if_pos q]
    obtain⟨g1,g2⟩:=jy hd hk q;exact ih hok2 g1 (HG hd hk ha q) fun p=>by rw[g2,hin]
   ·rw[if_neg q]
    refine auC (fun e=>q ((sr hd hk).2 ?_)) u;obtain⟨p,hp⟩:=(JR hok2).1 e;exact⟨p,(hin p).1 hp⟩
  rw[mB,if_pos hb,Tr.parts,bS,go l x ht.1 ht.2.1 (fun a b c d=>KZ ht.2.1 a b c d),go l.rev y ht.1.rev ht.2.2 fun a b c d=>KZ ht.2.2 a b c d]
def dw(c:aw):Bool:=!c.isEmpty&&c.all fun s=>!s.v.nl&&!s.v.nh
def aCm{c:aw}(hc:bP c){s:ba}(hs:s∈c)(h:s.v.nh=true): ∀u∈c,0<=u.l.nor.dot s.l.dir:=fun u hu=>by
 obtain⟨p1,p2⟩:=hc.edge s hs;have hi:=(po p1).has;have key: ∀n:Rat,0<=n->0<=u.l.value (s.l.at (s.v.sample+n)):=fun n hn=>((p2 _).1 ⟨hi.1.imp id fun q=>by grind, .inl h⟩) u hu;have h0:=key 0 (by decide);rw[j'] at h0;by_cases q:0<=u.l.nor.dot s.l.dir
 ·exact q
 ·exfalso
  have q':0< -(s.l.cutK u.l):=by unfold aa.cutK;grind
  have h1:=key ((s.l.cutC u.l+s.v.sample*s.l.cutK u.l+1)/ -(s.l.cutK u.l)) (by
   have:=(gy (s:=(s.l.cutC u.l+s.v.sample*s.l.cutK u.l+1)/ -(s.l.cutK u.l)) q').1 (by rw[show(s.l.cutC u.l+s.v.sample*s.l.cutK u.l+1)/ -(s.l.cutK u.l)* -(s.l.cutK u.l)=s.l.cutC u.l+s.v.sample*s.l.cutK u.l+1 by grind];grind);grind)
  rw[j'] at h1;have:(s.l.cutC u.l+s.v.sample*s.l.cutK u.l+1)/ -(s.l.cutK u.l)*s.l.cutK u.l= -(s.l.cutC u.l+s.v.sample*s.l.cutK u.l+1):=by grind
  grind
def Zz{c:aw}(hc:bP c){s:ba}(hs:s∈c)(h:s.v.nl=true): ∀u∈c,u.l.nor.dot s.l.dir<=0:=fun u hu=>by
 obtain⟨p1,p2⟩:=hc.edge s hs;have hi:=(po p1).has;have key: ∀n:Rat,0<=n->0<=u.l.value (s.l.at (s.v.sample-n)):=fun n hn=>((p2 _).1 ⟨.inl h,hi.2.imp id fun q=>by grind⟩) u hu;have h0:=key 0 (by decide);rw[j'] at h0;by_cases q:u.l.nor.dot s.l.dir<=0
 ·exact q
 ·exfalso
  have q':0<s.l.cutK u.l:=by unfold aa.cutK;grind
  have h1:=key ((s.l.cutC u.l+s.v.sample*s.l.cutK u.l+1)/s.l.cutK u.l) (by
   have:=(gy (s:=(s.l.cutC u.l+s.v.sample*s.l.cutK u.l+1)/s.l.cutK u.l) q').1 (by rw[show(s.l.cutC u.l+s.v.sample*s.l.cutK u.l+1)/s.l.cutK u.l*s.l.cutK u.l=s.l.cutC u.l+s.v.sample*s.l.cutK u.l+1 by grind];grind);grind)
  rw[j'] at h1;have:(s.l.cutC u.l+s.v.sample*s.l.cutK u.l+1)/s.l.cutK u.l*s.l.cutK u.l=s.l.cutC u.l+s.v.sample*s.l.cutK u.l+1:=by grind
  grind
def aHh(c:List aa)(v:ab):Bool:=c.all fun l=>decide (0<=Int.sign (l.dir.cross v).num)
def aJX(c:List aa):Bool:=!c.isEmpty&&(c.flatMap fun l=>[l.dir,bG l.dir]).all fun v=>!aHh c v
def A4:aa:=⟨1,0,0⟩
def qH(c:List aa)(i:Nat):List ab:=
 if 0<Int.sign ((c.getD i A4).dir.cross (c.getD ((i+1)%c.length) A4).dir).num then [d9 (c.getD i A4) (c.getD ((i+1)%c.length) A4)] else []
def ey(c:List aa):List ab:=(List.range c.length).flatMap (qH c)
def aIX(v:List ab)(i:Nat):List ab:=[v.getD 0 ⟨0,0⟩,v.getD (i+1) ⟨0,0⟩,v.getD (i+2) ⟨0,0⟩]
def NV(v:List ab):List (List ab):=(List.range (v.length-2)).map (aIX v)
def aI5(cs:List (List aa)):List (List ab):=cs.flatMap fun c=>NV (ey c)
def CC{c:List aa}{i:Nat}{l m:aa}(h1:c[i]? =some l)(h2:c[(i+1)%c.length]? =some m):qH c i=if 0<Int.sign (l.dir.cross m.dir).num then [d9 l m] else []:=by
 unfold qH;rw[aX,aX,h1,h2];rfl
def JV(c:List aa)(k:Nat):(List.range (k+1)).flatMap (qH c)=(List.range k).flatMap (qH c)++qH c k:=by
 rw[List.range_succ,mN];simp
def DX(c:List aa): ∀k,((List.range k).flatMap (qH c)).length<=k
 |0=>aN _
 |k+1=>by
  have:=DX c k;have h2:(qH c k).length<=1:=by unfold qH;split<;>simp
  rw[JV,aV];omega
def ZV{c:List aa}{p:ab}(h:p∈ey c): ∃l∈c,∃m∈c,p=d9 l m:=by
 obtain⟨i,hi,hp⟩:=gQ.1 h;have hi':=kJ.1 hi;have e1:=aZ hi';have e2:=aZ (l:=c) (dX (i+1) (show 0<c.length by omega));rw[CC e1 e2] at hp;split at hp
 ·exact⟨_,bM _,_,bM _,aU.1 hp⟩
 ·cases hp
def Wg{t:Tr}(ht:t.all aa.ok):((mB t []).filter (·.2)).map (·.1)=(aO t).map fun c=>c.map (·.l):=by
 rw[KZ (d:=[]) ht (fun l h=>by cases h) bP.nil .nil (fun p=>⟨fun _ _ h=>(by cases h),fun _ _ h=>(by cases h)⟩)];unfold aO;rw[List.filter_map,pU,pU];rfl
def vJ{t:Tr}(ht:t.all aa.ok): ∀c∈aO t,bP c:=fun c hc=>(A1 ht bP.nil (xh.1 hc)).1
def J1{l:aa}: ∀{c:List aa} {v:ah},(fm l c v).2=true->fj l c v=some (fm l c v).1
 |[],v,_=>rfl
 |m::t,v,h=>by
  rw[fm] at h⊢;rw[fj];split
  ·rename_i e;rw[if_pos e] at h;exact J1 h
  ·rename_i e
   rw[if_neg e] at h;split
   ·rename_i k;rw[if_pos k] at h;exact J1 h
   ·rename_i k;rw[if_neg k] at h;cases h
def Ws{v:ah}(h:v.Pos):v.ins (jw v):=by
 obtain⟨lo,hi,nl,nh⟩:=v;unfold ah.Pos at h;unfold jw ah.ins
 cases nl<;>cases nh<;>simp at* <;>grind
def NO{p v:ab}: ∀{c:List aa} {s:Rat},0<s->0<m8 p v c s/\m8 p v c s<=s/\ ∀m∈c,0<m.value p->m.nor.dot v<0->m8 p v c s<= -(m.value p/m.nor.dot v)/2
 |[],s,h=>⟨h,dR,fun m hm=>by cases hm⟩
 |m::t,s,h=>by
  have hk:m.value (bF p v ((1:Int):Rat))-m.value p=m.nor.dot v:=by rw[gv];grind
  have key:0<ow p v m s/\ow p v m s<=s/\(0<m.value p->m.nor.dot v<0->ow p v m s<= -(m.value p/m.nor.dot v)/2):=by
   unfold ow tA;simp only[hk,ll,kH,A5];split
   ·rename_i e;exact⟨h,dR,fun _ k=>by rw[e] at k;exact absurd k (by decide)⟩
   ·split
    ·rename_i e;exact⟨h,dR,fun k=>by rw[e] at k;exact absurd k (by decide)⟩
    ·split
     ·rename_i e
      split
      ·exact⟨by grind,by grind,fun _ _=>dR⟩
      ·exact⟨h,dR,fun _ _=>by grind⟩
     ·rename_i e
      exact⟨h,dR,fun k1 k2=>absurd (Q2 k2 k1) e⟩
  obtain⟨a1,a2,a3⟩:=key;obtain⟨b1,b2,b3⟩:=NO (p:=p) (v:=v) (c:=t) a1;rw[m8];refine⟨b1,by grind,fun u hu k1 k2=>?_⟩;rcases aW.1 hu with rfl|hu
  ·have:=a3 k1 k2;grind
  ·exact b3 u hu k1 k2
def U5{c:List aa}{p v:ab}(h: ∀m∈c,0<m.value p\/(m.value p=0/\0<m.nor.dot v)):cI c (Am c p v):=fun m hm=>by
 obtain⟨s0,_,s2⟩:=NO (p:=p) (v:=v) (c:=c) (s:=((1:Int):Rat)) (by decide);unfold Am;generalize m8 p v c ((1:Int):Rat)=s at*;rw[gv];rcases h m hm with k|⟨k,k2⟩
 ·by_cases q:m.nor.dot v<0
  ·have h3:=s2 m hm k q
   have h4:=Q2 q k;have e:m.value p/m.nor.dot v*m.nor.dot v=m.value p:=by grind
   generalize m.value p/m.nor.dot v=z at*;have h5:=cD (a:= -z/2-s) (b:= -m.nor.dot v) (by grind) (by grind);grind
  ·have:=cD (dQ s0) (show 0<=m.nor.dot v by grind)
   grind
 ·have:=bO s0 k2
  grind
def ZR{m:aa}(h:m.Ne):0<m.nor.dot (jh m.dir):=by
 have:=sv h;have e:m.nor.dot (jh m.dir)=m.nor.dot m.nor:=by unfold jh aa.dir aa.nor ab.dot;grind
 rw[e];exact this
def auW{c:List aa}(hok: ∀m∈c,m.ok)(hb:iO c=true):cI c (iC c c):=by
 have key: ∀t:List aa,(∀m∈t,m∈c)->(∃m∈t,(fj m c ah.all).isSome=true)->cI c (iC c t):=by
  intro t
  induction t with
  |nil=>rintro _ ⟨m,hm,_⟩;cases hm
  |cons m t ih=>
   intro hs hx;rw[iC];split
   ·rename_i e
    obtain⟨h1,h2⟩:=Cj m c _ _ x9 (J1 e);have h3:=((h2 _).1 (Ws h1)).2;have hmo:=(hok m (hs m aQ)).ne;refine U5 fun u hu=>?_;by_cases q:u=m
    ·subst q;exact .inr ⟨lm hmo _,ZR hmo⟩
    ·exact .inl (h3 u hu q)
   ·rename_i e
    refine ih (fun u hu=>hs u (aJ _ hu)) ?_;obtain⟨u,hu,h⟩:=hx;rcases aW.1 hu with rfl|hu
    ·rw[wg] at e;exact absurd h e
    ·exact⟨u,hu,h⟩
 unfold iO at hb;rw[iV,List.isEmpty_iff,jV] at hb;rcases hb with rfl|⟨m,hm,h⟩
 ·exact fun m hm=>by cases hm
 ·exact key c (fun _ h=>h) ⟨m,hm,h⟩
def cI.seg{c:List aa}{q p:ab}{e:Rat}(hq:cI c q)(hp:cI c p)(h0:0<=e)(h1:e<=1):cI c (bj q p e):=fun m hm=>by
 rw[nO];have a:=hq m hm;have b:=hp m hm;by_cases z:e=0
 ·subst z;grind
 ·have k1:=bO (show 0<e by grind) b
  have k2:=cD (show 0<=1-e by grind) (dQ a);grind
def cI.open{c:List aa}{q:ab}(u:ab)(h:cI c q): ∃e:Rat,0<e/\ ∀d,0<=d->d<=e->cI c (bF q u d):=by
 have hd:bm (c.map fun m=>(⟨m,ah.all⟩:ba)) q:=fun s hs=>by
  obtain⟨m,hm,rfl⟩:=bQ.1 hs;exact h m hm
 obtain⟨e,he,ho⟩:=hd.open u;exact⟨e,he,fun d d0 d1 m hm=>ho d d0 d1 ⟨m,ah.all⟩ (eJ hm)⟩
def vu(l:aa)(t u:Rat):l.at (t+u)=bF (l.at t) l.dir u:=by
 rw[<-tL,<-tL];unfold bF;simp only[ab.mk.injEq];constructor<;>grind
def aEh(l:aa)(a b s:Rat):bj (l.at a) (l.at b) s=l.at (a+s*(b-a)):=by
 rw[<-tL,<-tL,<-tL];unfold bj bF;simp only[ab.mk.injEq];constructor<;>grind
def Ll{l:aa}(h:l.Ne)(t:Rat):gk l (l.at t)=t:=by
 obtain⟨q,_,hq⟩:=BT h;have h2:=sv h;have e0:l.dir.dot l.dir=l.nor.dot l.nor:=by unfold aa.dir aa.nor ab.dot;grind
 have e1:(l.at t).dot l.dir=t*l.dir.dot l.dir:=by
  rw[<-tL,hq];unfold bF aa.dir ab.dot;grind
 unfold gk;rw[e1];rw[<-e0] at h2;generalize l.dir.dot l.dir=d at*;have:d≠0:=by grind
 grind
def TJ{l:aa}(h:l.Ne){p:ab}(hp:l.value p=0):l.at (gk l p)=p:=by
 obtain⟨t,rfl⟩:=zz h hp;rw[Ll h]
def I5(a:Int){g:Nat}(h:g∣a.natAbs):(g:Int)*zv (decide (a<0)) (a.natAbs/g)=a:=by
 obtain⟨k,hk⟩:=h;by_cases g0:g=0
 ·subst g0;simp at hk⊢;omega
 have e:a.natAbs/g=k:=by rw[hk];exact Nat.mul_div_cancel_left k (iS g0)
 rw[e];unfold zv;have hc:((g*k:Nat):Int)=(g:Int)*(k:Int):=by push_cast;rfl
 by_cases n:a<0
 ·simp only[n,decide_true,if_true];rw[sU];omega
 ·simp only[n,decide_false];show(g:Int)*(k:Int)=a;omega
def Xe{a b c:Int}(h: ¬(a=0/\b=0)): ∃g:Int,0<g/\g*(qz a b c).a=a/\g*(qz a b c).b=b/\g*(qz a b c).c=c:=by
 have hg:0<Nat.gcd (Nat.gcd a.natAbs b.natAbs) c.natAbs:=mY _ (iS fun e=>h ⟨nS.1 (oT e),nS.1 (oW e)⟩);refine⟨(Nat.gcd (Nat.gcd a.natAbs b.natAbs) c.natAbs:Nat),by omega,?_,?_,?_⟩
 ·exact I5 a (sV (nU _ _) (nU _ _))
 ·exact I5 b (sV (nU _ _) (oK _ _))
 ·exact I5 c (oK _ _)
def ax4{v w:ZP}(h:v≠w): ∃g:Rat,0<g/\(mp v.1 v.2 w.1 w.2).value v.q=0/\(mp v.1 v.2 w.1 w.2).value w.q=0/\w.q=bF v.q (mp v.1 v.2 w.1 w.2).dir g:=by
 obtain⟨m,n⟩:=v;obtain⟨p,q⟩:=w;have hne: ¬(p8 n q=0/\pq m p=0):=fun e=>h (by unfold p8 pq at e;rw[Prod.mk.injEq];omega);obtain⟨g,g0,ga,gb,gc⟩:=Xe (c:=xb m n p q) hne;dsimp only;unfold mp;generalize qz (p8 n q) (pq m p) (xb m n p q)=l at*;have g0':(0:Rat)<(g:Rat):=by exact_mod_cast g0
 have ra:(g:Rat)*(l.a:Rat)= -((q:Rat)-(n:Rat)):=by rw[<-cY,ga];unfold p8;push_cast;grind
 have rb:(g:Rat)*(l.b:Rat)=(p:Rat)-(m:Rat):=by rw[<-cY,gb];unfold pq;push_cast;grind
 have rc:(g:Rat)*(l.c:Rat)= -(-((q:Rat)-(n:Rat))*(m:Rat)+((p:Rat)-(m:Rat))*(n:Rat)):=by rw[<-cY,gc];unfold xb p8 pq;push_cast;grind
 have z: ∀x:Rat,(g:Rat)*x=0->x=0:=fun x hx=>by
  rcases gT.1 hx with e|e
  ·rw[e] at g0';exact absurd g0' (by decide)
  ·exact e
 refine⟨g,g0',z _ ?_,z _ ?_,?_⟩
 ·rw[iG];unfold ZP.q iP;dsimp only;grind
 ·rw[iG];unfold ZP.q iP;dsimp only;grind
 ·unfold ZP.q iP bF aa.dir;simp only[ab.mk.injEq];constructor<;>grind
def aBx{v w:ZP}(h:v≠w)(ho:(kv v w).l.ok):(kv v w).l.at (kv v w).v.lo=v.q/\(kv v w).l.at (kv v w).v.hi=w.q/\(kv v w).v.lo<(kv v w).v.hi:=by
 obtain⟨g,g0,h1,h2,h3⟩:=ax4 h;unfold kv at ho⊢;dsimp only at ho⊢;generalize mp v.1 v.2 w.1 w.2=l at*;have e1:=TJ ho.ne h1;have e2:=TJ ho.ne h2;refine⟨e1,e2,?_⟩;have:gk l w.q=gk l v.q+g:=by
  have e3:=vu l (gk l v.q) g;rw[e1,<-h3] at e3;rw[<-e3,Ll ho.ne]
 rw[this];grind
def Nt{r:List ZP}{k:Nat}: ∀{n:Nat},k<n->kv (r.getD k (0,0)) (gn r k)∈qv r n
 |n+1,h=>by
  rw[qv];by_cases e:k=n
  ·subst e;exact cJ _ (aU.2 J)
  ·exact bT _ (Nt (by omega))
def Vm{r:List ZP}(hr:d5 r){c:List aa}(hc: ∀e∈ki r,∀t,e.v.ins t-> ¬cI c (e.l.at t)){q p:ab}(hq:cI c q)(hp:cI c p):zi r q p:=fun k hk s t s0 s1 t0 t1 he=>by
 have hm:kv (r.getD k (0,0)) (gn r k)∈ki r:=Nt hk;have ho:=((CW hr).2 _ hm).ok;obtain⟨e1,e2,e3⟩:=aBx (hr.ne k hk) ho;have hno:=hc _ hm;have hx:=hq.seg hp t0 t1;rw[<-he,<-e1,<-e2,aEh] at hx;have hv: ∀u,(kv (r.getD k (0,0)) (gn r k)).v.lo<u->u<(kv (r.getD k (0,0)) (gn r k)).v.hi-> ¬cI c ((kv (r.getD k (0,0)) (gn r k)).l.at u):=fun u h1 h2=>hno u ⟨.inr h1, .inr h2⟩;generalize kv (r.getD k (0,0)) (gn r k)=e at*;have hb:=KV s0 s1 (dR) (dQ e3) (dQ e3) (dR);generalize e.v.lo+s*(e.v.hi-e.v.lo)=u at*;obtain⟨d,d0,hd⟩:=hx.open e.l.dir;obtain⟨d',d0',hd'⟩:=hx.open (bG e.l.dir);by_cases h1:e.v.lo<u
 ·by_cases h2:u<e.v.hi
  ·exact hv u h1 h2 hx
  ·have eu:u=e.v.hi:=by grind
   obtain⟨z,z0,z1,z2⟩: ∃z:Rat,0<z/\z<=d'/\z<e.v.hi-e.v.lo:=by
    by_cases k:d'<(e.v.hi-e.v.lo)/2
    ·exact⟨d',d0',dR,by grind⟩
    ·exact⟨(e.v.hi-e.v.lo)/2,by grind,by grind,by grind⟩
   refine hv (u+ -z) (by grind) (by grind) ?_;rw[vu];have:=hd' z (dQ z0) z1;have e5:bF (e.l.at u) (bG e.l.dir) z=bF (e.l.at u) e.l.dir (-z):=by unfold bF bG;simp only[ab.mk.injEq];constructor<;>grind
   rw[e5] at this;exact this
 ·have eu:u=e.v.lo:=by grind
  obtain⟨z,z0,z1,z2⟩: ∃z:Rat,0<z/\z<=d/\z<e.v.hi-e.v.lo:=by
   by_cases k:d<(e.v.hi-e.v.lo)/2
   ·exact⟨d,d0,dR,by grind⟩
   ·exact⟨(e.v.hi-e.v.lo)/2,by grind,by grind,by grind⟩
  refine hv (u+z) (by grind) (by grind) ?_;rw[vu];exact hd z (dQ z0) z1
def axv{rs:List (List ZP)}{fill:Int}(hr: ∀r∈rs,d5 r){c:List aa}(hc: ∀e∈iw rs,∀t,e.v.ins t-> ¬cI c (e.l.at t)){q p:ab}(hq:cI c q)(hp:cI c p):mn rs fill q=mn rs fill p:=by
 have key: ∀(rs:List (List ZP)),(∀r∈rs,d5 r)->(∀e∈iw rs,∀t,e.v.ins t-> ¬cI c (e.l.at t))-> ∀n:Int,rs.foldl (fun n r=>n+lA r q) n=rs.foldl (fun n r=>n+lA r p) n:=by
  intro rs
  induction rs with
  |nil=>intro _ _ n;rfl
  |cons r t ih=>
   intro hr hc n;rw[jZ,jZ,<-W7 (Vm (hr r aQ) (fun e he=>hc e (gQ.2 ⟨r,aQ,he⟩)) hq hp)];exact ih (fun r h=>hr r (aJ _ h)) (fun e he=>hc e (by obtain⟨r,h1,h2⟩:=gQ.1 he;exact gQ.2 ⟨r,aJ _ h1,h2⟩)) _
 unfold mn;rw[key rs hr hc]
def BP{cuts:List Rat}(h:cuts.Pairwise (· < ·)){i j:Nat}(hij:i<j)(hj:j<cuts.length):cuts.getD i 0<cuts.getD j 0:=by
 rw[aX,aX,aZ hj,aZ (by omega)];exact kY.1 h i j (by omega) hj hij
def I3{cuts:List Rat}{marks:List Bool}(h:cuts.Pairwise (· < ·)): ∀{k:Nat},∀v∈fC cuts marks (k+1),k<cuts.length->(v.nh=false/\v.hi<=cuts.getD k 0)/\(v.nl=true\/v.lo<cuts.getD k 0)
 |k,v,hv,hk=>by
  have hg:((dt cuts k).nh=false/\(dt cuts k).hi<=cuts.getD k 0)/\((dt cuts k).nl=true\/(dt cuts k).lo<cuts.getD k 0):=by
   unfold dt;dsimp only;refine⟨⟨by simp;omega,by rw[if_pos hk];exact dR⟩,?_⟩;by_cases z:k=0
   ·left;simp[z]
   ·right;rw[if_neg z];exact BP h (by omega) hk
  have hold: ∀v∈fC cuts marks k,(v.nh=false/\v.hi<=cuts.getD k 0)/\(v.nl=true\/v.lo<cuts.getD k 0):=fun v hv=>by
   cases k with
   |zero=>cases hv
   |succ k=>
    have ih:=I3 h v hv (by omega);have:=BP h (Nat.lt_succ_self k) hk;exact⟨⟨ih.1.1,by have:=ih.1.2;grind⟩,ih.2.imp id fun z=>by grind⟩
  rw[fC] at hv;split at hv
  ·split at hv
   ·split at hv
    ·rename_i w hw
     rcases bK.1 hv with q|q
     ·exact hold v ((sZ _).subset q)
     ·rw[aU] at q;subst q
      exact⟨hg.1,(hold w (oV hw)).2⟩
    ·rcases bK.1 hv with q|q
     ·exact hold v q
     ·rw[aU] at q;subst q;exact hg
   ·rcases bK.1 hv with q|q
    ·exact hold v q
    ·rw[aU] at q;subst q;exact hg
  ·exact hold v hv
def OI{cuts:List Rat}{marks:List Bool}(h:cuts.Pairwise (· < ·)){x:Rat}{i:Nat}(hm:marks.getD i false=true)(hx:(dt cuts i).ins x): ∀{k:Nat},k<=cuts.length+1->i<k-> ∃v∈fC cuts marks k,v.ins x
 |k+1,hk,hi=>by
  by_cases e:i=k
  ·subst e
   rw[fC,if_pos hm];split
   ·rename_i h0
    split
    ·rename_i w hw
     refine⟨_,cJ _ (aU.2 J),?_,hx.2⟩;obtain⟨j,rfl⟩: ∃j,i=j+1:=⟨i-1,by omega⟩;have:=(I3 h w (oV hw) (by omega)).2;have hl:=hx.1;unfold dt at hl;dsimp only at hl;rw[if_neg (by omega),show j+1-1=j by omega] at hl;have hl':cuts.getD j 0<x:=hl.resolve_left (by simp);exact this.imp id fun z=>by show w.lo<x;grind
    ·exact⟨_,cJ _ (aU.2 J),hx⟩
   ·exact⟨_,cJ _ (aU.2 J),hx⟩
  ·obtain⟨v,hv,hvx⟩:=OI h hm hx (k:=k) (by omega) (by omega)
   rw[fC];split
   ·split
    ·split
     ·rename_i w hw
      by_cases q:v=w
      ·subst q
       refine⟨_,cJ _ (aU.2 J),hvx.1,?_⟩;show(dt cuts k).nh=true\/x<(dt cuts k).hi;obtain⟨j,rfl⟩: ∃j,k=j+1:=⟨k-1,by omega⟩;obtain⟨⟨b1,b2⟩,_⟩:=I3 h v hv (by omega);have hh:=hvx.2.resolve_left (by rw[b1];decide);unfold dt;dsimp only;by_cases z:j+1<cuts.length
       ·right;rw[if_pos z];have:=BP h (Nat.lt_succ_self j) z;grind
       ·left;simp;omega
      ·refine⟨v,bT _ ?_,hvx⟩
       obtain⟨l,hl⟩:=List.getLast?_eq_some_iff.1 hw;rw[hl] at hv⊢;rw[List.dropLast_concat];rcases bK.1 hv with z|z
       ·exact z
       ·rw[aU] at z;exact absurd z q
     ·exact⟨v,bT _ hv,hvx⟩
    ·exact⟨v,bT _ hv,hvx⟩
   ·exact⟨v,hv,hvx⟩
def Qs: ∀{l:List Rat} {i:Nat},i+1<l.length->(iI l).getD i 0=(l.getD i 0+l.getD (i+1) 0)/2
 |[],_,h=>by simp at h
 |[_],_,h=>by simp at h
 |a::b::t,0,_=>by simp[iI]
 |a::b::t,i+1,h=>by
  have:=Qs (l:=b::t) (i:=i) (by simp at h⊢;omega);rw[iI,lT,this];simp only[lT]
def Eg: ∀(l:List Rat) (a:Rat),(iI (a::l)).length=l.length
 |[],_=>rfl
 |b::t,a=>by rw[iI,bX,Eg t b,bX]
def ax2{cuts:List Rat}(h:cuts.Pairwise (· < ·)){i j:Nat}(hi:i<=cuts.length)(hj:j<cuts.length):(cuts.getD j 0<(e7 cuts).getD i 0↔j<i)/\cuts.getD j 0≠(e7 cuts).getD i 0:=by
 have mono: ∀{a b:Nat},a<=b->b<cuts.length->cuts.getD a 0<=cuts.getD b 0:=fun{a b} hab hb=>by
  by_cases e:a=b
  ·subst e;exact dR
  ·exact dQ (BP h (by omega) hb)
 cases cuts with
 |nil=>simp at hj
 |cons a t=>
  have hl:(a::t).length=t.length+1:=J;rw[e7]
  cases i with
  |zero=>
   rw[tQ];have:=mono (bV j) hj;rw[tQ] at this;constructor
   ·constructor
    ·intro q;exfalso;grind
    ·intro q;omega
   ·intro q;grind
  |succ i=>
   rw[lT];by_cases e:i<t.length
   ·have e1:(iI (a::t)++[(a::t).getLast (by simp)+1]).getD i 0=((a::t).getD i 0+(a::t).getD (i+1) 0)/2:=by
     rw[<-Qs (by omega),aX,aX,cN (by rw[Eg];exact e)]
    rw[e1];have h1:=BP h (Nat.lt_succ_self i) (by omega);by_cases q:j<=i
    ·have:=mono q (by omega)
     constructor
     ·exact⟨fun _=>by omega,fun _=>by grind⟩
     ·grind
    ·have:=mono (show i+1<=j by omega) hj
     constructor
     ·exact⟨fun _=>by exfalso;grind,fun _=>by omega⟩
     ·grind
   ·have ei:i=t.length:=by omega
    have e1:(iI (a::t)++[(a::t).getLast (by simp)+1]).getD i 0=(a::t).getLast (by simp)+1:=by
     rw[aX,fM (by rw[Eg];omega),Eg,ei];simp
    rw[e1];have:=MC h (by simp) ((a::t).getD j 0) (by rw[aX,aZ hj];exact bM _);constructor
    ·exact⟨fun _=>by omega,fun _=>by grind⟩
    ·grind
def PP(x:Rat): ∀{cuts:List Rat},cuts.Pairwise (· < ·)-> ∃i,i<=cuts.length/\ ∀j,j<cuts.length->(cuts.getD j 0<x↔j<i)
 |[],_=>⟨0,aN _,fun j hj=>by simp at hj⟩
 |a::t,h=>by
  rw[bR] at h;by_cases q:a<x
  ·obtain⟨i,h1,h2⟩:=PP x h.2
   refine⟨i+1,by simp;exact h1,fun j hj=>?_⟩
   cases j with
   |zero=>simp[q]
   |succ j=>rw[lT,h2 j (by simpa using hj)];omega
  ·refine⟨0,bV _,fun j hj=>⟨fun k=>?_,fun k=>by omega⟩⟩
   exfalso
   cases j with
   |zero=>simp at k;grind
   |succ j=>
    rw[lT] at k;have hj':j<t.length:=by simpa using hj
    have:=h.1 (t.getD j 0) (by rw[aX,aZ hj'];exact bM _);grind
def Ql{out:List Rat}{s:ah}{y:Rat}:y∈lx out s↔y∈out\/(s.nl=false/\y=s.lo)\/(s.nh=false/\y=s.hi):=by
 unfold lx
 cases e1:s.nl<;>cases e2:s.nh<;>simp[qj]<;>grind
def Qn{v:ah}{x:Rat}:fA [v] x=true↔v.ins x:=by
 unfold fA sD sD ah.ins;have h1:=HM x v.lo;have h2:=A5 x v.hi;rw[decide_eq_true_eq]
 cases e1:v.nl<;>cases e2:v.nh<;>simp only[if_true,jT,if_false,false_or,true_or,h1,h2,and_true,true_and,show(0:Int)<1 from by decide,show(-1:Int)<0 from by decide]<;>grind
def NI{cuts:List Rat}{v:ah}(hl:v.nl=true\/v.lo∈cuts)(hh:v.nh=true\/v.hi∈cuts){x g:Rat}(ho: ∀u∈cuts,(u<x↔u<g)/\u≠x/\u≠g)(h:v.ins x):v.ins g:=by
 refine⟨?_,?_⟩
 ·rcases hl with e|e
  ·exact .inl e
  ·rcases h.1 with k|k
   ·exact .inl k
   ·exact .inr ((ho _ e).1.1 k)
 ·rcases hh with e|e
  ·exact .inl e
  ·rcases h.2 with k|k
   ·exact .inl k
   ·obtain⟨a,b,c⟩:=ho _ e
    right;by_cases q:v.hi<g
    ·have:=a.2 q;grind
    ·grind
def axy{v w:ah}{t:Rat}(hv:v.ins t)(hw:w.ins t): ∃z∈oq 2 [v] [w],z.ins t:=by
 have hmem: ∀y,y∈gG ([v]++[w])↔((v.nl=false/\y=v.lo)\/(v.nh=false/\y=v.hi))\/(w.nl=false/\y=w.lo)\/(w.nh=false/\y=w.hi):=fun y=>by
  show y∈lx (lx [] v) w↔_;rw[Ql,Ql];simp
 have hasc:=(H5 ([v]++[w])).1;have h0: ∀u∈gG ([v]++[w]),u≠t:=fun u hu e=>by
  subst e;rcases(hmem u).1 hu with(⟨a,b⟩|⟨a,b⟩)|⟨a,b⟩|⟨a,b⟩
  ·have:=hv.1.resolve_left (by rw[a];decide);grind
  ·have:=hv.2.resolve_left (by rw[a];decide);grind
  ·have:=hw.1.resolve_left (by rw[a];decide);grind
  ·have:=hw.2.resolve_left (by rw[a];decide);grind
 have l1:v.nl=true\/v.lo∈gG ([v]++[w]):=by
  cases e:v.nl with
  |true=>exact .inl J
  |false=>exact .inr ((hmem _).2 (.inl (.inl ⟨e,J⟩)))
 have l2:v.nh=true\/v.hi∈gG ([v]++[w]):=by
  cases e:v.nh with
  |true=>exact .inl J
  |false=>exact .inr ((hmem _).2 (.inl (.inr ⟨e,J⟩)))
 have l3:w.nl=true\/w.lo∈gG ([v]++[w]):=by
  cases e:w.nl with
  |true=>exact .inl J
  |false=>exact .inr ((hmem _).2 (.inr (.inl ⟨e,J⟩)))
 have l4:w.nh=true\/w.hi∈gG ([v]++[w]):=by
  cases e:w.nh with
  |true=>exact .inl J
  |false=>exact .inr ((hmem _).2 (.inr (.inr ⟨e,J⟩)))
 unfold oq uC;generalize gG ([v]++[w])=cuts at*;obtain⟨i,hi,ho⟩:=PP t hasc;have hord: ∀u∈cuts,(u<t↔u<(e7 cuts).getD i 0)/\u≠t/\u≠(e7 cuts).getD i 0:=fun u hu=>by
  obtain⟨j,hj,e⟩:=mV.1 hu;have e':cuts.getD j 0=u:=by rw[aX,aZ hj];exact e
  obtain⟨g1,g2⟩:=ax2 hasc hi hj;have:=ho j hj;rw[e'] at g1 g2 this;exact⟨this.trans g1.symm,h0 u hu,g2⟩
 have hlen:(e7 cuts).length=cuts.length+1:=A9;refine OI hasc (i:=i) ?_ ?_ (by rw[aK,hlen];exact aN _) (by rw[aK,hlen];omega)
 ·rw[aX,cV,aZ (by omega)]
  show nI 2 (fA [v] _) (fA [w] _)=true;have e:(e7 cuts)[i]'(by omega)=(e7 cuts).getD i 0:=by rw[aX,aZ (by omega)];rfl
  rw[e,Qn.2 (NI l1 l2 hord hv),Qn.2 (NI l3 l4 hord hw)];rfl
 ·unfold dt ah.ins
  dsimp only;refine⟨?_,?_⟩
  ·by_cases z:i=0
   ·left;simp[z]
   ·right;rw[if_neg z];exact(ho (i-1) (by omega)).2 (by omega)
  ·by_cases z:i=cuts.length
   ·left;simp[z]
   ·right
    rw[if_pos (by omega)];have a:=ho i (by omega);have b:=h0 (cuts.getD i 0) (by rw[aX,aZ (by omega)];exact bM _);have c: ¬cuts.getD i 0<t:=fun k=>by have:=a.1 k;omega
    grind
def R4{l m:aa}(h:crossI l m=0):l.cutK m=0:=by
 have e:l.cutK m= -(crossI l m:Rat):=by unfold aa.cutK aa.nor aa.dir ab.dot crossI;push_cast;grind
 rw[e,h];rfl
def axP{k:Rat}{side:Int}(hs:side=1\/side= -1)(h:0<(side:Rat)*k):k.num.sign=side:=by
 rcases hs with rfl|rfl
 ·exact(oo k).2 (by grind)
 ·have:k.num.sign<0:=(sC k).2 (by grind)
  have:=tZ k.num;omega
def atL{f:ba}{m:aa}{side:Int}(hs:side=1\/side= -1)(hl:f.l.Ne){t:Rat}(ht:f.v.ins t)(hm:0<(side:Rat)*m.value (f.l.at t)): ∃g∈et f m side,g.l=f.l/\g.v.ins t:=by
 have hv:=j' f.l m t;have ho: ¬ly f.l m=true:=fun e=>by
  unfold ly at e;rw[decide_eq_true_eq,ll] at e;rw[R4 e.1,show f.l.cutC m=m.value f.l.base from J,e.2] at hv;rw[hv] at hm;grind
 unfold et;rw[if_neg ho];have hh: ∃w,iF f.l m side=[w]/\w.ins t:=by
  unfold iF;by_cases hc:crossI f.l m=0
  ·rw[if_pos hc]
   rw[R4 hc,show f.l.cutC m=m.value f.l.base from J] at hv;rw[if_pos (axP hs (by rw[hv] at hm;grind))];exact⟨_,J,XE t⟩
  ·rw[if_neg hc]
   have hp:=Ct hl hc;have hK:f.l.cutK m≠0:=fun e=>by
    have e2:f.l.cutK m= -(crossI f.l m:Rat):=by unfold aa.cutK aa.nor aa.dir ab.dot crossI;push_cast;grind
    rw[e2] at e;have:(crossI f.l m:Rat)=0:=by grind
    exact hc (dV.1 this)
   generalize hx:gk f.l (d9 f.l m)=x at*;have hv2: ∀u,m.value (f.l.at u)=f.l.cutK m*(u-x):=fun u=>by rw[j',hp];grind
   rw[hv2] at hm;have e1:m.value (f.l.at (x+1))=f.l.cutK m:=by rw[hv2];grind
   rw[e1];generalize f.l.cutK m=K at*;by_cases q:K.num.sign=side
   ·rw[if_pos q]
    refine⟨_,J, .inr ?_, .inl J⟩;show x<t;rcases hs with rfl|rfl
    ·have:=(oo K).1 q
     have:=(y6 this).1 (show 0<K*(t-x) by grind);grind
    ·have:=(sC K).1 (by omega)
     have:=(ID this).1 (show K*(t-x)<0 by grind);grind
   ·rw[if_neg q]
    refine⟨_,J, .inl J, .inr ?_⟩;show t<x;have h3:=fD K;rcases hs with rfl|rfl
    ·have kn:K<0:=by
      rcases h3 with h|h|h
      ·exact absurd h hK
      ·exact absurd ((oo K).2 h) q
      ·exact h
     have:=(ID kn (b:=x-t)).1 (by grind);grind
    ·have kp:0<K:=by
      rcases h3 with h|h|h
      ·exact absurd h hK
      ·exact h
      ·exact absurd (by have:=(sC K).2 h;have:=tZ K.num;omega) q
     have:=(y6 kp (b:=x-t)).1 (by grind);grind
 obtain⟨w,e,hw⟩:=hh;rw[e];obtain⟨z,hz,hzt⟩:=axy ht hw;exact⟨⟨f.l,z⟩,eJ hz,J,hzt⟩
def DM(E:List ba)(c:List aa)(l:List ba):Prop:= ∀e∈E,∀t,e.v.ins t->cI c (e.l.at t)-> ∃f∈l,f.l=e.l/\f.v.ins t
def DM.split{E l:List ba}{c:List aa}(h:DM E c l)(hE: ∀e∈E,e.l.Ne){m:aa}{side:Int}(hs:side=1\/side= -1){m':aa}(hm': ∀p,m'.value p=(side:Rat)*m.value p):DM E (c++[m']) (l.flatMap fun g=>et g m side):=fun e he t ht hin=>by
 obtain⟨h1,h2⟩:=jx.1 hin;obtain⟨f,hf,ef,hft⟩:=h e he t ht h1;rw[hm'] at h2;obtain⟨g,hg,eg,hgt⟩:=atL (f:=f) hs (by rw[ef];exact hE e he) hft (by rw[ef];exact h2);exact⟨g,gQ.2 ⟨f,hf,hg⟩,by rw[eg,ef],hgt⟩
def GQ{acc:ab->Bool}{E:List ba}(hE: ∀e∈E,e.l.Ne)(ha: ∀(c:List aa) (q p:ab),(∀e∈E,∀t,e.v.ins t-> ¬cI c (e.l.at t))->cI c q->cI c p->acc q=acc p): ∀{n:Nat} {l:List ba} {c:List aa} {p:ab},(∀f∈l,nA f)->r8 n l->(∀m∈c,m.ok)->DM E c l->cI c p->fi (i8 acc n l c).lns p->(i8 acc n l c).val p=acc p
 |n,[],c,p,_,_,hc,hcov,hp,_=>by
  have e:i8 acc n [] c= .leaf (acc (iC c c)):=by cases n<;>rfl
  rw[e,Tr.val];exact ha c _ _ (fun e he t ht hin=>by obtain⟨f,hf,_⟩:=hcov e he t ht hin;cases hf) (auW hc ((zq hc).2 ⟨p,hp⟩)) hp
 |0,f::t,_,_,_,hf,_,_,_,_=>by
  obtain⟨K,hK,hs⟩:=hf;obtain⟨m,hm,_⟩:=hs f aQ;have:K=[]:=bU (by omega);rw[this] at hm;cases hm
 |n+1,f::t,c,p,hok,hf,hc,hcov,hp,hoff=>by
  have fo:=hok f aQ;have hok': ∀side,∀g∈(f::t).flatMap fun g=>et g f.l side,nA g:=fun side g hg=>by
   obtain⟨q,hq,hg⟩:=gQ.1 hg;exact(FT (hok q hq) fo.lb g hg).1
  rw[i8] at hoff⊢;by_cases q:0<f.l.value p
  ·rw[Tr.val_pos q]
   exact GQ hE ha (hok' 1) (hf.split hok) (iv hc fo.ok) (hcov.split hE (.inl J) fun p=>by grind) (jx.2 ⟨hp,q⟩) hoff.x
  ·rw[Tr.val_neg q]
   have:=hoff.l;exact GQ hE ha (hok' (-1)) (hf.split hok) (iv hc fo.ok.rev) (hcov.split hE (.inr J) fun p=>by rw[fh];grind) (jx.2 ⟨hp,by rw[fh];grind⟩) hoff.y
def T5{rs:List (List ZP)}{fill:Int}(hr: ∀r∈rs,d5 r){p:ab}(ho:fi (wv rs fill).lns p):(pf rs fill).val p=mn rs fill p:=by
 obtain⟨h1,h2⟩:=uh hr;have hok:(wv rs fill).all aa.ok:=vM fun f hf=>(h2 f hf).ok;unfold pf;rw[Tr.val_restrict _ _ _ hok bP.nil (fun s hs=>by cases hs) ho];unfold wv at ho⊢;refine GQ (E:=iw rs) (fun e he=>(h2 e he).ok.ne) (fun c q p hno hq hp=>axv hr hno hq hp) h2 ?_ (fun m hm=>by cases hm) (fun e he t ht _=>⟨e,he,J,ht⟩) (fun m hm=>by cases hm) ho;exact⟨(iw rs).map (·.l),by rw[aK];exact aN _,fun f hf=>⟨f.l,eJ hf, .inl J⟩⟩
def Gq: ∀(c:aw) (A B:ba->Rat),(∀u∈c,0<=A u/\(0<=B u\/0<A u))-> ∃e:Rat,0<e/\ ∀u∈c,0<=A u+e*B u
 |[],_,_,_=>⟨1,by decide,fun u hu=>by cases hu⟩
 |s::t,A,B,h=>by
  obtain⟨e,e0,he⟩:=Gq t A B fun u hu=>h u (aJ _ hu);obtain⟨h1,h2⟩:=h s aQ;have hold: ∀q,0<=q->q<=e-> ∀u∈t,0<=A u+q*B u:=fun q q0 q1 u hu=>JY (h u (aJ _ hu)).1 (he u hu) q0 q1;by_cases hb:0<=B s
  ·refine⟨e,e0,fun u hu=>?_⟩
   rcases aW.1 hu with rfl|hu
   ·have:=cD (dQ e0) hb;grind
   ·exact he u hu
  ·have ha:=h2.resolve_left hb
   have hq:0<A s/ -(B s):=(gy (k:= -(B s)) (by grind)).1 (by rw[show A s/ -(B s)* -(B s)=A s by grind];exact ha);have hm:A s/ -(B s)* -(B s)=A s:=by grind
   generalize A s/ -(B s)=q at*;by_cases k:q<=e
   ·refine⟨q,hq,fun u hu=>?_⟩
    rcases aW.1 hu with rfl|hu
    ·grind
    ·exact hold q (dQ hq) k u hu
   ·refine⟨e,e0,fun u hu=>?_⟩
    rcases aW.1 hu with rfl|hu
    ·have:=cD (show 0<=q-e by grind) (show 0<= -(B u) by grind)
     grind
    ·exact he u hu
def Pd(l m:aa)(t e:Rat):m.value (l.at (t+e))=m.value (l.at t)+e*m.nor.dot l.dir:=by
 rw[vu,gv]
def LJ{s:ba}(h:s.v.Pos)(nh:s.v.nh=false):s.v.has s.v.hi:=by
 unfold ah.Pos at h;refine⟨?_, .inr dR⟩;rcases h with h|h|h
 ·exact .inl h
 ·rw[nh] at h;cases h
 ·exact .inr (dQ h)
def KO{s:ba}(h:s.v.Pos)(nl:s.v.nl=false):s.v.has s.v.lo:=by
 unfold ah.Pos at h;refine⟨.inr dR,?_⟩;rcases h with h|h|h
 ·rw[nl] at h;cases h
 ·exact .inl h
 ·exact .inr (dQ h)
def Sy{c:aw}(hc:bP c){s:ba}(hs:s∈c)(nh:s.v.nh=false): ∃u∈c,u.l.value (s.l.at s.v.hi)=0/\u.l.nor.dot s.l.dir<0:=by
 obtain⟨p1,p2⟩:=hc.edge s hs;have hin:=(p2 _).1 (LJ p1 nh);by_cases q: ∃u∈c,u.l.value (s.l.at s.v.hi)=0/\u.l.nor.dot s.l.dir<0
 ·exact q
 ·exfalso
  obtain⟨e,e0,he⟩:=Gq c (fun u=>u.l.value (s.l.at s.v.hi)) (fun u=>u.l.nor.dot s.l.dir) fun u hu=>by
   have h1:=hin u hu;refine⟨h1,?_⟩;by_cases k:0<=u.l.nor.dot s.l.dir
   ·exact .inl k
   ·right
    by_cases z:u.l.value (s.l.at s.v.hi)=0
    ·exact absurd ⟨u,hu,z,by grind⟩ q
    ·grind
  have hh:=(p2 (s.v.hi+e)).2 fun u hu=>by rw[Pd];exact he u hu
  have:=hh.2;rw[nh] at this;rcases this with z|z
  ·cases z
  ·grind
def aBy{c:aw}(hc:bP c){s:ba}(hs:s∈c)(nl:s.v.nl=false): ∃u∈c,u.l.value (s.l.at s.v.lo)=0/\0<u.l.nor.dot s.l.dir:=by
 obtain⟨p1,p2⟩:=hc.edge s hs;have hin:=(p2 _).1 (KO p1 nl);by_cases q: ∃u∈c,u.l.value (s.l.at s.v.lo)=0/\0<u.l.nor.dot s.l.dir
 ·exact q
 ·exfalso
  obtain⟨e,e0,he⟩:=Gq c (fun u=>u.l.value (s.l.at s.v.lo)) (fun u=> -(u.l.nor.dot s.l.dir)) fun u hu=>by
   have h1:=hin u hu;refine⟨h1,?_⟩;by_cases k:0<= -(u.l.nor.dot s.l.dir)
   ·exact .inl k
   ·right
    by_cases z:u.l.value (s.l.at s.v.lo)=0
    ·exact absurd ⟨u,hu,z,by grind⟩ q
    ·grind
  have hh:=(p2 (s.v.lo+ -e)).2 fun u hu=>by rw[Pd];have:=he u hu;grind
  have:=hh.1;rw[nl] at this;rcases this with z|z
  ·cases z
  ·grind
def aBB{ds:List ab}(h:ds.Pairwise b7){i:Nat}{s w:ab}(hs:ds[i]? =some s)(hw:ds[(i+1)%ds.length]? =some w):lv ds s w:=by
 obtain⟨hi,rfl⟩:=aS.1 hs;obtain⟨hj,rfl⟩:=aS.1 hw;have hp:=kY.1 h;by_cases e:i+1<ds.length
 ·have em:(i+1)%ds.length=i+1:=eX e
  left;simp only[em];refine⟨hp i (i+1) hi e (by omega),fun d hd=>?_⟩;obtain⟨j,hj,rfl⟩:=mV.1 hd;rintro ⟨a,b⟩;rcases pS j i with k|k|k
  ·exact AD a (hp j i hj hi k)
  ·subst k;exact sI _ a
  ·by_cases z:j=i+1
   ·subst z;exact sI _ b
   ·exact AD b (hp (i+1) j e hj (by omega))
 ·have ei:i+1=ds.length:=by omega
  have em:(i+1)%ds.length=0:=by rw[ei,tX]
  right;simp only[em];refine⟨fun d hd a=>?_,fun d hd b=>?_⟩
  ·obtain⟨j,hj,rfl⟩:=mV.1 hd
   by_cases k:j=i
   ·subst k;exact sI _ a
   ·exact AD a (hp j i hj hi (by omega))
  ·obtain⟨j,hj,rfl⟩:=mV.1 hd
   by_cases k:j=0
   ·subst k;exact sI _ b
   ·exact AD b (hp 0 j (by omega) hj (by omega))
def awr{s u w:ab}(hs:s.half≠0)(hw:w.half≠0)(hu:u.half≠0)(h1:0<s.cross u)(h2:0<u.cross w)(h3:0<s.cross w)(e:s.half=w.half):u.half=s.half:=by
 rcases gO hs with k|k
 ·rw[k] at e⊢
  have a:=nB.1 k;have b:=nB.1 e.symm;rw[nB];unfold ab.cross at*
  -- u is between s and w
  have i1:(s.x*w.y-s.y*w.x)*u.y=(u.x*w.y-u.y*w.x)*s.y+(s.x*u.y-s.y*u.x)*w.y:=by grind
  have i2:(s.x*w.y-s.y*w.x)*u.x=(u.x*w.y-u.y*w.x)*s.x+(s.x*u.y-s.y*u.x)*w.x:=by grind
  have y0:0<=s.y:=by grind
  have y1:0<=w.y:=by grind
  have m1:=cD (dQ h2) y0;have m2:=cD (dQ h1) y1;have uy:0<=u.y:=(kw h3).1 (by grind);by_cases z:0<u.y
  ·exact .inl z
  ·right
   have z0:u.y=0:=by grind
   have i3:(u.x*w.y-u.y*w.x)*s.y+(s.x*u.y-s.y*u.x)*w.y=0:=by rw[<-i1,z0];grind
   have A0:(u.x*w.y-u.y*w.x)*s.y=0:=by generalize (u.x*w.y-u.y*w.x)*s.y=A at*;generalize (s.x*u.y-s.y*u.x)*w.y=B at*;grind
   have B0:(s.x*u.y-s.y*u.x)*w.y=0:=by grind
   have n1:s.y=0:=by
    rcases gT.1 A0 with q|q
    ·grind
    ·exact q
   have n2:w.y=0:=by
    rcases gT.1 B0 with q|q
    ·grind
    ·exact q
   rw[n1,n2] at h3;grind
 ·rw[k] at e⊢
  have a:=qd.1 k;have b:=qd.1 e.symm;rw[qd];unfold ab.cross at*;have i1:(s.x*w.y-s.y*w.x)*u.y=(u.x*w.y-u.y*w.x)*s.y+(s.x*u.y-s.y*u.x)*w.y:=by grind
  have y0:0<= -s.y:=by grind
  have y1:0<= -w.y:=by grind
  have m1:=cD (dQ h2) y0;have m2:=cD (dQ h1) y1;have uy:0<= -u.y:=(kw h3).1 (by grind);by_cases z:u.y<0
  ·exact .inl z
  ·right
   have z0:u.y=0:=by grind
   have i3:(u.x*w.y-u.y*w.x)*s.y+(s.x*u.y-s.y*u.x)*w.y=0:=by rw[<-i1,z0];grind
   have m3:(u.x*w.y-u.y*w.x)* -s.y= -((u.x*w.y-u.y*w.x)*s.y):=by grind
   have m4:(s.x*u.y-s.y*u.x)* -w.y= -((s.x*u.y-s.y*u.x)*w.y):=by grind
   rw[m3] at m1;rw[m4] at m2;have A0:(u.x*w.y-u.y*w.x)*s.y=0:=by generalize (u.x*w.y-u.y*w.x)*s.y=A at*;generalize (s.x*u.y-s.y*u.x)*w.y=B at*;grind
   have B0:(s.x*u.y-s.y*u.x)*w.y=0:=by grind
   have n1:s.y=0:=by
    rcases gT.1 A0 with q|q
    ·grind
    ·exact q
   have n2:w.y=0:=by
    rcases gT.1 B0 with q|q
    ·grind
    ·exact q
   rw[n1,n2] at h3;grind
def Le{ds:List ab}(nz: ∀d∈ds,d.half≠0){s u w:ab}(hs:s∈ds)(hu:u∈ds)(hw:w∈ds)(hn:lv ds s w)(h1:0<s.cross u)(h2:0<u.cross w)(h3:0<s.cross w):False:=by
 have zs:=gO (nz s hs);have zu:=gO (nz u hu);have zw:=gO (nz w hw);rcases hn with⟨b,no⟩|⟨n1,n2⟩
 ·by_cases e:s.half=w.half
  ·have e2:=awr (nz s hs) (nz w hw) (nz u hu) h1 h2 h3 e
   exact no u hu ⟨.inr ⟨e2.symm,h1⟩, .inr ⟨by omega,h2⟩⟩
  ·have e1:s.half=1/\w.half=2:=by
    rcases b with b|⟨b,_⟩
    ·omega
    ·exact absurd b e
   rcases zu with k|k
   ·exact no u hu ⟨.inr ⟨by omega,h1⟩, .inl (by omega)⟩
   ·exact no u hu ⟨.inl (by omega), .inr ⟨by omega,h2⟩⟩
 ·have a:=n1 u hu
  have b:=n2 u hu;have a1: ¬s.half<u.half:=fun k=>a (.inl k);have a2:s.half≠u.half:=fun k=>a (.inr ⟨k,h1⟩);have b1: ¬u.half<w.half:=fun k=>b (.inl k);have b2:u.half≠w.half:=fun k=>b (.inr ⟨k,h2⟩);omega
def TG{u w n:ab}(hu:u.half≠0)(hw:w.half≠0)(hn:n.half≠0)(e1:w.half=u.half)(e2:u.half=n.half)(h1:0<u.cross n)(h2: ¬0<u.cross w):0<w.cross n:=by
 by_cases k:0<w.cross u
 ·have b1:b7 w u:= .inr ⟨e1,k⟩
  have b2:b7 u n:= .inr ⟨e2,h1⟩;rcases uu b1 b2 with q|⟨_,q⟩
  ·omega
  ·exact q
 ·have hz:w.cross u=0:=by rw[fk] at k⊢;grind
  by_cases q:0<w.cross n
  ·exact q
  ·exfalso
   have b2:b7 u n:= .inr ⟨e2,h1⟩;by_cases q2:0<n.cross w
   ·have b3:b7 n w:= .inr ⟨by omega,q2⟩
    rcases uu b2 b3 with z|⟨_,z⟩
    ·omega
    ·exact h2 z
   ·have hz2:w.cross n=0:=by rw[fk] at q2;grind
    rcases gO hw with hh|hh
    ·have a:=nB.1 hh
     have b:=nB.1 (show u.half=1 by omega);have c:=nB.1 (show n.half=1 by omega);unfold ab.cross at*;have j1:w.x*(u.x*n.y-u.y*n.x)=0:=by grind
     have j2:w.y*(u.x*n.y-u.y*n.x)=0:=by grind
     rcases gT.1 j1 with z|z
     ·rcases gT.1 j2 with z2|z2<;>grind
     ·grind
    ·have a:=qd.1 hh
     unfold ab.cross at*;have j1:w.x*(u.x*n.y-u.y*n.x)=0:=by grind
     have j2:w.y*(u.x*n.y-u.y*n.x)=0:=by grind
     rcases gT.1 j1 with z|z
     ·rcases gT.1 j2 with z2|z2<;>grind
     ·grind
def Z3{ds:List ab}(nz: ∀d∈ds,d.half≠0){s u w:ab}(hs:s∈ds)(hu:u∈ds)(hw:w∈ds)(hn:lv ds s w)(h1:0<s.cross u):0<s.cross w:=by
 have zs:=gO (nz s hs);have zu:=gO (nz u hu);have zw:=gO (nz w hw);have hneg:=ue (nz s hs);have hnz:(bG s).half≠0:=by omega
 have e1:u.cross (bG s)=s.cross u:=by rw[mP,fk s u];grind
 have e2:w.cross (bG s)=s.cross w:=by rw[mP,fk s w];grind
 rcases hn with⟨b,no⟩|⟨n1,n2⟩
 ·by_cases e:s.half=w.half
  ·rcases b with b|⟨_,b⟩
   ·omega
   ·exact b
  ·have e3:s.half=1/\w.half=2:=by
    rcases b with b|⟨b,_⟩
    ·omega
    ·exact absurd b e
   have nu:=no u hu;rcases zu with k|k
   ·exact absurd ⟨.inr ⟨by omega,h1⟩, .inl (by omega)⟩ nu
   ·rw[<-e2]
    exact TG (nz u hu) (nz w hw) hnz (by omega) (by omega) (by rw[e1];exact h1) fun q=>nu ⟨.inl (by omega), .inr ⟨by omega,q⟩⟩
 ·have a:=n1 u hu
  have b:=n2 u hu;have a1: ¬s.half<u.half:=fun k=>a (.inl k);have a2:s.half≠u.half:=fun k=>a (.inr ⟨k,h1⟩);have b1: ¬u.half<w.half:=fun k=>b (.inl k);rw[<-e2];exact TG (nz u hu) (nz w hw) hnz (by omega) (by omega) (by rw[e1];exact h1) fun q=>b (.inr ⟨by omega,q⟩)
def LC(s u w:aa)(h p:ab):s.dir.cross u.dir*w.value p=s.dir.cross u.dir*w.value h+w.dir.cross u.dir*(s.value p-s.value h)+s.dir.cross w.dir*(u.value p-u.value h):=by
 rw[iG,iG,iG,iG,iG,iG];unfold ab.cross aa.dir;grind
def Q6{c:aw}(hc:bP c): ∀d∈c.map (fun s=>s.l.dir),d.half≠0:=fun d hd=>by
 obtain⟨s,hs,rfl⟩:=bQ.1 hd;exact uH (hc.ok s hs)
def aB2{c:aw}(hc:bP c){s w:ba}(hs:s∈c)(hw:w∈c)(hn:lv (c.map fun s=>s.l.dir) s.l.dir w.l.dir)(nh:s.v.nh=false):0<s.l.dir.cross w.l.dir/\w.l.value (s.l.at s.v.hi)=0:=by
 obtain⟨u,hu,z1,z2⟩:=Sy hc hs nh;have su:0<s.l.dir.cross u.l.dir:=by rw[fk,tE];grind
 have nz:=Q6 hc;have ms:=eJ (f:=fun s:ba=>s.l.dir) hs;have mu:=eJ (f:=fun s:ba=>s.l.dir) hu;have mw:=eJ (f:=fun s:ba=>s.l.dir) hw;have sw:=Z3 nz ms mu mw hn su;refine⟨sw,?_⟩;obtain⟨p1,p2⟩:=hc.edge s hs;have hin:=(p2 _).1 (LJ p1 nh);have hs0:=lm (hc.ok s hs).ne s.v.hi;have h0:=hin w hw;by_cases q:w.l.value (s.l.at s.v.hi)=0
 ·exact q
 ·exfalso
  have wu:0<=w.l.dir.cross u.l.dir:=by
   by_cases k:0<u.l.dir.cross w.l.dir
   ·exact(Le nz ms mu mw hn su k sw).elim
   ·rw[fk];grind
  obtain⟨t1,t2⟩:=AP hc hw;have e:=LC s.l u.l w.l (s.l.at s.v.hi) (w.l.at w.v.sample);rw[t2,z1,hs0] at e;have g1:=bO su (show 0<w.l.value (s.l.at s.v.hi) by grind);have g2:=cD wu (t1 s hs);have g3:=cD (dQ sw) (t1 u hu);grind
def Zg{c:aw}(hc:bP c){s w:ba}(hs:s∈c)(hw:w∈c)(hn:lv (c.map fun s=>s.l.dir) s.l.dir w.l.dir)(sw:0<s.l.dir.cross w.l.dir)(nl:w.v.nl=false):s.l.value (w.l.at w.v.lo)=0:=by
 obtain⟨u,hu,z1,z2⟩:=aBy hc hw nl;have uw:0<u.l.dir.cross w.l.dir:=by rw[tE];exact z2
 have nz:=Q6 hc;have ms:=eJ (f:=fun s:ba=>s.l.dir) hs;have mu:=eJ (f:=fun s:ba=>s.l.dir) hu;have mw:=eJ (f:=fun s:ba=>s.l.dir) hw;obtain⟨p1,p2⟩:=hc.edge w hw;have hin:=(p2 _).1 (KO p1 nl);have hw0:=lm (hc.ok w hw).ne w.v.lo;have h0:=hin s hs;by_cases q:s.l.value (w.l.at w.v.lo)=0
 ·exact q
 ·exfalso
  have us:0<=u.l.dir.cross s.l.dir:=by
   by_cases k:0<s.l.dir.cross u.l.dir
   ·exact(Le nz ms mu mw hn k uw sw).elim
   ·rw[fk];grind
  obtain⟨t1,t2⟩:=AP hc hs;have e:=LC u.l w.l s.l (w.l.at w.v.lo) (s.l.at s.v.sample);rw[t2,z1,hw0] at e;have g1:=bO uw (show 0<s.l.value (w.l.at w.v.lo) by grind);have g2:=cD (dQ sw) (t1 u hu);have g3:=cD us (t1 w hw);grind
def lg(x:Bool×aw):DV:= .ag [.sl (x.2.map fq),eU (.leaf x.1)]
def aER(l:List (Bool×aw)):cP 2 (l.map lg):=fun d hd=>by
 obtain⟨x,_,rfl⟩:=bQ.1 hd;exact⟨J,J⟩
def BR: ∀(t:Tr) (c:aw),(t.parts c).length<=t.size+1
 | .leaf _,_=>aN _
 | .node l x y,c=>by
  have h1:=BR x (cj c l);have h2:=BR y (cj c l.rev);rw[Tr.parts,aV,Tr.size];split<;>split<;>(try simp only[fU])<;>omega
def Ar{q:Rat}{i:Nat}[h:BQ q i](hi:i<=900000000:=by decide):PF GB prog 40 [eF q] (eR q):=by
 refine fn func40 J J ntmps40 J J (fun C=>?_);refine cl J (xm (q:=q) (i:=i) hi) J<|cl J (q6 (q:=q) (i:=i) hi) J<|?_;exact rz J J
def KL{p:ab}{i:Nat}[h:ay p i](hi:i<=900000000:=by decide):PF GB prog 69 [eZ p] (jG p):=by
 refine fn func69 J J ntmps69 J J (fun C=>?_);refine cl J (Ar (q:=p.x) (i:=i) hi) J<|cl J (Ar (q:=p.y) (i:=i) hi) J<|?_;exact rz J J
def Zk{b:Bool}{c:aw}{o:List (Bool×aw)}(hs:o.length<=1000000):PB GB prog 166 (dG [some (eU (.leaf b)),some (.sl (c.map fq)),none]) 2 106 (o.map lg) (fun w=> .v (.slice w.a w.n w.c)) ((o++Tr.parts (.leaf b) c).map lg):=by
 refine ul func166 J J ntmps166 J J (fun C=>?_);refine cl (fu:=⟨0⟩) J Dn J<|?_;refine tO 12 J ?_;refine gx J<|rf J J<|IF ((o++[(b,c)]).map lg) J (by rw[bS]<;>rfl) (aER [(b,c)]) J<|?_;exact oG J J J J
def XA{l:aa}{x y:Tr}{c:aw}{o:List (Bool×aw)}(hl:LB l)(hlo:l.ok)(hc:jq c)(hn:c.length+(Tr.node l x y).depth<=100000)(hs:o.length+((Tr.node l x y).size+1)<=1000000)(ihx: ∀{c:aw} {o:List (Bool×aw)},jq c->c.length+x.depth<=100000->o.length+(x.size+1)<=1000000->PB GB prog 166 (dG [some (eU x),some (.sl (c.map fq)),none]) 2 106 (o.map lg) (fun w=> .v (.slice w.a w.n w.c)) ((o++Tr.parts x c).map lg))(ihy: ∀{c:aw} {o:List (Bool×aw)},jq c->c.length+y.depth<=100000->o.length+(y.size+1)<=1000000->PB GB prog 166 (dG [some (eU y),some (.sl (c.map fq)),none]) 2 106 (o.map lg) (fun w=> .v (.slice w.a w.n w.c)) ((o++Tr.parts y c).map lg)):PB GB prog 166 (dG [some (eU (.node l x y)),some (.sl (c.map fq)),none]) 2 106 (o.map lg) (fun w=> .v (.slice w.a w.n w.c)) ((o++Tr.parts (.node l x y) c).map lg):=by
 have hk1:=DD c l;have hk2:=DD c l.rev;have hd:(Tr.node l x y).depth=1+max x.depth y.depth:=J;have hz:(Tr.node l x y).size=1+x.size+y.size:=J;have hp:=BR x (cj c l);refine ul func166 J J ntmps166 J J (fun C=>?_);refine cl (fu:=⟨0⟩) J Ai J<|?_;refine wn 12 J ?_;refine gx J<|cl J (Vn hlo hc (by omega)) J<|?_;refine bb J J J (fun hc30=>?_) (fun hc30=>?_)
 .
  have hs2:(o++x.parts (cj c l)).length+(y.size+1)<=1000000:=by rw[aV];omega
  refine cq ((o++x.parts (cj c l)).map lg) J (ihx (AX hlo hc) (by omega) (by omega)) J J<|?_;refine bb J J J (fun hc38=>?_) (fun hc38=>?_)
  .
   refine cq _ J (ihy (AX hlo.rev hc) (by omega) (by first|exact hs2|omega)) J J<|?_;exact oG J J J (by simp[Tr.parts,hc30,hc38])
  .
   exact oG J J J (by simp[Tr.parts,hc30,hc38])
 .
  refine bb J J J (fun hc38=>?_) (fun hc38=>?_)
  .
   refine cq _ J (ihy (AX hlo.rev hc) (by omega) (by first|exact hs2|omega)) J J<|?_;exact oG J J J (by simp[Tr.parts,hc30,hc38])
  .
   exact oG J J J (by simp[Tr.parts,hc30,hc38])
def F': ∀{t:Tr} {c:aw} {o:List (Bool×aw)},t.all LB->t.all aa.ok->jq c->c.length+t.depth<=100000->o.length+(t.size+1)<=1000000->PB GB prog 166 (dG [some (eU t),some (.sl (c.map fq)),none]) 2 106 (o.map lg) (fun w=> .v (.slice w.a w.n w.c)) ((o++Tr.parts t c).map lg)
 | .leaf _,_,_,_,_,_,_,hs=>Zk (by simp only[Tr.size] at hs;omega)
 | .node _ _ _,_,_,hb,ho,hc,hn,hs=>XA hb.1 ho.1 hc hn hs (fun k1 k2 k3=>F' hb.2.1 ho.2.1 k1 k2 k3) (fun k1 k2 k3=>F' hb.2.2 ho.2.2 k1 k2 k3)
def U0{t:Tr}(hb:t.all LB)(ho:t.all aa.ok)(hd:t.depth<=100000)(hs:t.size<=900000):PB GB prog 166 (dG [some (eU t),some (.sl []),none]) 2 106 [] (fun w=> .v (.slice w.a w.n w.c)) ((t.parts []).map lg):=
 F' (c:=[]) (o:=[]) hb ho jq.nil (by rw[fU];omega) (by rw[fU];omega)
def eC(c:aw):DV:= .sl (c.map fq)
def aGK(l:List aw):cP 1 (l.map eC):=fun d hd=>by
 obtain⟨x,_,rfl⟩:=bQ.1 hd;exact⟨J,J⟩
def BO(ps:List (Bool×aw)):List aw:=(ps.filter (·.1)).map (·.2)
def La{ps:List (Bool×aw)}{k:Nat}{b:Bool}{e:aw}(h:ps[k]? =some (b,e)):BO (ps.drop k)=(if b then [e] else [])++BO (ps.drop (k+1)):=by
 obtain⟨h1,h2⟩:=aS.1 h;rw[bZ h1,h2];unfold BO
 cases b<;>simp
def aCa{t:Tr}(hb:t.all LB)(ho:t.all aa.ok)(hd:t.depth<=100000)(hs:t.size<=900000):PF GB prog 103 [eU t] (.sl ((t.parts []).map lg)):=by
 refine fn func103 J J ntmps103 J J (fun C=>?_);refine Mk _ J (U0 hb ho hd hs) J J<|?_;refine iE 4 J ?_;exact rz J J
def aBC{t:Tr}(hb:t.all LB)(ho:t.all aa.ok)(hd:t.depth<=100000)(hs:t.size<=900000):PF GB prog 133 [eU t] (.sl ((aO t).map eC)):=by
 obtain⟨ps,hps⟩: ∃ps,ps=t.parts []:=⟨_,rfl⟩;have hpl:=BR t [];rw[<-hps] at hpl;have hml:(ps.map lg).length=ps.length:=aK ..;refine fn func133 J J ntmps133 J J (fun C=>?_);refine cl (fu:=⟨0⟩) J (aCa hb ho hd hs) J<|?_;refine aj 7 (.d (.sl (ps.map lg))) J (by rw[hps]) ?_;refine gx (fu:=⟨1⟩) J<|?_;refine aj 8 (.d (vI (ps.length:Nat))) J (by rw[hml]<;>rfl) ?_;refine gx J<|?_;refine nr 3 3 103 1 J J J ?_;refine lp (X:=List aw×Nat) (fun⟨acc,k⟩=>[(9, .d (vI (k:Nat))),(3, .rw 3)]) (fun⟨acc,k⟩=>[(3,some (.b 103 1 (acc.map eC) true))]) (fun⟨acc,k⟩=>acc++BO (ps.drop k)=aO t/\k<=ps.length) (fun⟨acc,k⟩=>ps.length-k) ⟨[],0⟩ J ⟨by rw[hps];rfl,bV _⟩ (fun _=>J) (fun⟨acc,k⟩ hk=>?_)
 try dsimp only at hk⊢
 obtain⟨h1,h2⟩:=hk;have hal:acc.length<=ps.length:=by
  have q1:=congrArg List.length h1;have q2:(aO t).length<=ps.length:=by unfold aO;rw[aK,hps];exact lL ..
  rw[aV] at q1;omega
 have ham:(acc.map eC).length=acc.length:=aK ..;refine br J J J (fun hc10=>?_) (fun hc10=>?_)
 .
  obtain⟨⟨b,e⟩,hx⟩: ∃x,ps[k]? =some x:=⟨_,aZ (by omega)⟩;refine ix _ J (d8 hx) J<|?_;refine bb J J J (fun hc17=>?_) (fun hc17=>?_)
  .
   refine rf J J<|ap ((acc++[e]).map eC) J (by rw[bS]<;>rfl) (aGK [e]) J<|?_;refine gI 22 3 J ?_;exact at_ ⟨acc++[e],k+1⟩ (by dsimp only;exact⟨⟨by rw[<-h1,La hx,if_pos hc17];simp,by omega⟩,(by omega)⟩)
  .
   exact at_ ⟨acc,k+1⟩ (by dsimp only;exact⟨⟨by rw[<-h1,La hx,if_neg (by simp at hc17;rw[hc17];decide)];rfl,by omega⟩,(by omega)⟩)
 .
  obtain rfl:k=ps.length:=by omega
  obtain rfl:acc=aO t:=by rw[fV] at h1;simpa[BO] using h1
  refine iE 3 J ?_;exact rz J J
def Ul(l m:aa):l.dir.cross m.dir=(crossI l m:Rat):=by
 unfold ab.cross aa.dir crossI;rw[jL,cY,cY];grind
def Hb{l m:aa}(h:0<Int.sign (l.dir.cross m.dir).num):crossI l m≠0:=fun e=>by
 rw[kH,Ul,e] at h;exact absurd h (by decide)
def L3{l m:aa}(h:crossI l m≠0):l.nor.cross m.nor≠0:=fun e=>by
 have:l.nor.cross m.nor=(crossI l m:Rat):=by
  unfold ab.cross aa.nor crossI;rw[jL,cY,cY];grind
 rw[this] at e;exact h (dV.1 e)
def Mn{l m:aa}(h:crossI l m≠0):d9 l m=⟨((l.b:Rat)*(m.c:Rat)-(l.c:Rat)*(m.b:Rat))/l.nor.cross m.nor,((l.c:Rat)*(m.a:Rat)-(l.a:Rat)*(m.c:Rat))/l.nor.cross m.nor⟩:=by
 have e1:(meetX l m:Rat)=(l.b:Rat)*(m.c:Rat)-(l.c:Rat)*(m.b:Rat):=by unfold meetX;rw[jL,cY,cY];grind
 have e2:(meetY l m:Rat)=(l.c:Rat)*(m.a:Rat)-(l.a:Rat)*(m.c:Rat):=by unfold meetY;rw[jL,cY,cY];grind
 have e3:(crossI l m:Rat)=l.nor.cross m.nor:=by unfold ab.cross aa.nor crossI;rw[jL,cY,cY];grind
 unfold d9;rw[if_neg h,e1,e2,e3]
def DA: ∀{t:Tr} {c:aw} {x:Bool×aw},t.all LB->t.all aa.ok->jq c->x∈t.parts c->jq x.2/\x.2.length<=c.length+t.depth
 | .leaf b,c,x,_,_,hc,h=>by
  rw[Tr.parts,aU] at h;subst h;exact⟨hc,nV _ _⟩
 | .node l u v,c,x,hb,ho,hc,h=>by
  have hl:=hb.1;have hd:(Tr.node l u v).depth=1+max u.depth v.depth:=J;rw[Tr.parts] at h;rcases bK.1 h with h|h
  ·split at h
   ·obtain⟨k1,k2⟩:=DA hb.2.1 ho.2.1 (AX ho.1 hc) h
    have:=DD c l;exact⟨k1,by omega⟩
   ·cases h
  ·split at h
   ·obtain⟨k1,k2⟩:=DA hb.2.2 ho.2.2 (AX ho.1.rev hc) h
    have:=DD c l.rev;exact⟨k1,by omega⟩
   ·cases h
def HA(t:Tr):(aO t).length<=t.size+1:=by
 unfold aO;rw[aK];exact cR (lL ..) (BR t [])
def Hk{t:Tr}(hb:t.all LB)(ho:t.all aa.ok): ∀c∈aO t,c.length<=t.depth:=fun c hc=>by
 have:=(DA hb ho jq.nil (xh.1 hc)).2;simpa using this
theorem GP{t:Tr}(hb:t.all LB)(ho:t.all aa.ok): ∀c∈aO t,∀s∈c,LB s.l:=fun c hc s hs=>((DA hb ho jq.nil (xh.1 hc)).1 s hs).lb
def aEH(l:List ab):cP 6 (l.map eZ):=fun d hd=>by
 obtain⟨x,_,rfl⟩:=bQ.1 hd;exact⟨J,J⟩
def eRz(v:List ab):DV:= .sl (v.map eZ)
def eRa(v:List ab):DV:= .sl (v.map jG)
def BZ{α:Type}{vs:List α}{f:α->Bool}{k:Nat}{v:α}(h:vs[k]? =some v):(vs.drop k).all f=(f v&&(vs.drop (k+1)).all f):=by
 obtain⟨h1,h2⟩:=aS.1 h;rw[bZ h1,h2,List.all_cons]
def aA2{l m:aa}[hl:LB l][hm:LB m](hz:crossI l m≠0):PF GB prog 146 [gi l,gi m] (.tp [eZ (d9 l m),vB true]):=by
 haveI:=ay.nor l;haveI:=ay.nor m;refine fn func146 J J ntmps146 J J (fun C=>?_);refine cl J (yl (l:=l)) J<|cl J (yl (l:=m)) J<|cl J (Bo (p:=l.nor) (q:=m.nor) (i:=97) (j:=97)) J<|cl (fu:=⟨0⟩) J (wV (q:=l.nor.cross m.nor)) J<|?_;refine aj 15 (.d (vB false)) J (by rw[decide_eq_false (L3 hz)]) ?_;refine wn 15 J ?_;refine gx J<|cl J (gt (p:=(l.b:Rat)) (q:=(m.c:Rat)) (i:=97) (j:=97)) J<|cl J (gt (p:=(l.c:Rat)) (q:=(m.b:Rat)) (i:=97) (j:=97)) J<|?_;refine cl J (u7 (p:=(l.b:Rat)*(m.c:Rat)) (q:=(l.c:Rat)*(m.b:Rat))) J<|cl J (Ap (p:=(l.b:Rat)*(m.c:Rat)-(l.c:Rat)*(m.b:Rat)) (q:=l.nor.cross m.nor)) J<|?_;refine cl J (gt (p:=(l.c:Rat)) (q:=(m.a:Rat)) (i:=97) (j:=97)) J<|cl J (gt (p:=(l.a:Rat)) (q:=(m.c:Rat)) (i:=97) (j:=97)) J<|?_;refine cl J (u7 (p:=(l.c:Rat)*(m.a:Rat)) (q:=(l.a:Rat)*(m.c:Rat))) J<|cl J (Ap (p:=(l.c:Rat)*(m.a:Rat)-(l.a:Rat)*(m.c:Rat)) (q:=l.nor.cross m.nor)) J<|?_;exact rz J (by rw[Mn hz];rfl)
def Li{c:aw}(hb: ∀s∈c,LB s.l)(hn:c.length<=100000):PF GB prog 80 [eC c] (.sl ((ey (c.map (·.l))).map eZ)):=by
 have hml:(c.map fq).length=c.length:=aK ..;obtain⟨L,hL⟩: ∃L,L=c.map (·.l):=⟨_,rfl⟩;have hLl:L.length=c.length:=by rw[hL,aK]
 refine fn (fu:=⟨15⟩) func80 J J ntmps80 J J (fun C=>?_);refine aj 10 (.d (vI (c.length:Nat))) J (by rw[hml]<;>rfl) ?_;refine gx J<|?_;refine nr 3 3 146 6 J J J ?_;refine lp (X:=List ab×Nat) (fun⟨acc,k⟩=>[(11, .d (vI (k:Nat))),(3, .rw 3)]) (fun⟨acc,k⟩=>[(3,some (.b 146 6 (acc.map eZ) true))]) (fun⟨acc,k⟩=>acc=(List.range k).flatMap (qH L)/\k<=c.length) (fun⟨acc,k⟩=>c.length-k) ⟨[],0⟩ J ⟨J,bV _⟩ (fun _=>J) (fun⟨acc,k⟩ hk=>?_)
 try dsimp only at hk⊢
 obtain⟨h1,h2⟩:=hk;have hal:=DX L k;rw[<-h1] at hal;have ham:(acc.map eZ).length=acc.length:=aK ..;refine br J J J (fun hc12=>?_) (fun hc12=>?_)
 .
  obtain⟨s,hx⟩: ∃u,c[k]? =some u:=⟨_,aZ (by omega)⟩;obtain⟨u,hw⟩: ∃w,c[(k+1)%c.length]? =some w:=⟨_,aZ (dX _ (by omega))⟩;haveI:=hb s (aT hx);haveI:=hb u (aT hw);have hxl:L[k]? =some s.l:=by rw[hL,cV,hx];rfl
  have hwl:L[(k+1)%L.length]? =some u.l:=by rw[hLl,hL,cV,hw];rfl
  refine ix (fu:=⟨13⟩) _ J (d8 hx) J<|?_;refine aj 20 (.d (vI (c.length:Nat))) J (by rw[hml]<;>rfl) ?_;refine gx (fu:=⟨1⟩) J<|?_;refine aj 21 (.d (vI (((k+1)%c.length:Nat):Int))) J J ?_;refine gx J<|ix _ J (d8 hw) J<|cl J (xk (l:=s.l)) J<|cl J (xk (l:=u.l)) J<|cl J (Bo (p:=s.l.dir) (q:=u.l.dir) (i:=97) (j:=97)) J<|?_;refine cl J (nF (q:=s.l.dir.cross u.l.dir)) J<|?_;refine br J J J (fun hc32=>?_) (fun hc32=>?_)
  .
   refine cl J (aA2 (l:=s.l) (m:=u.l) (Hb hc32)) J<|rf J J<|ap ((acc++[d9 s.l u.l]).map eZ) J (by rw[bS]<;>rfl) (aEH [d9 s.l u.l]) J<|?_;refine gI 44 3 J ?_;exact at_ ⟨acc++[d9 s.l u.l],k+1⟩ (by dsimp only;exact⟨⟨by rw[JV,CC hxl hwl,if_pos hc32,<-h1],by omega⟩,(by omega)⟩)
  .
   exact at_ ⟨acc,k+1⟩ (by dsimp only;exact⟨⟨by rw[JV,CC hxl hwl,if_neg hc32,<-h1,mS],by omega⟩,(by omega)⟩)
 .
  have hS:ey L=acc:=by unfold ey;rw[hLl,h1,show k=c.length by omega]
  refine iE 3 J ?_;exact rz J (by rw[<-hL,hS];rfl)
def UZ{c:aw}(hn:c.length<=100000):PF GB prog 44 [eC c] (vB (dw c)):=by
 have hml:(c.map fq).length=c.length:=aK ..;refine fn (fu:=⟨10⟩) func44 J J ntmps44 J J (fun C=>?_);refine aj 6 (.d (vI (c.length:Nat))) J (by rw[hml]<;>rfl) ?_;refine gx J<|?_;refine lp (X:=Nat) (fun k=>[(7, .d (vI (k:Nat)))]) (fun k=>[]) (fun k=>(c.drop k).all (fun s:ba=>!s.v.nl&&!s.v.nh)=c.all (fun s:ba=>!s.v.nl&&!s.v.nh)/\k<=c.length) (fun k=>c.length-k) 0 J ⟨J,bV _⟩ (fun _=>J) (fun k hk=>?_);obtain⟨h1,h2⟩:=hk;refine br (fu2:=⟨9⟩) J J J (fun hc8=>?_) (fun hc8=>?_)
 .
  obtain⟨s,hx⟩: ∃u,c[k]? =some u:=⟨_,aZ (by omega)⟩;refine ix _ J (d8 hx) J<|?_;refine jd 14 J J J (fun hg14=>?_) (fun hg14=>?_)
  .
   have hF:dw c=false:=by unfold dw;rw[<-h1,BZ hx,hg14];simp
   exact rz J (by rw[hF];rfl)
  .
   refine bb J J J (fun hc18=>?_) (fun hc18=>?_)
   .
    have hF:dw c=false:=by unfold dw;rw[<-h1,BZ hx,hc18];simp
    exact rz J (by rw[hF];rfl)
   .
    exact at_ (k+1) ⟨⟨by rw[<-h1,BZ hx,hg14,hc18];rfl,by omega⟩,(by omega)⟩
 .
  have hT:dw c=decide ((0:Int)<(c.length:Nat)):=by unfold dw;rw[<-h1,fL (by omega)];cases c with|nil=>rfl|cons a b=>simp
  refine aj 21 (.d (vI (c.length:Nat))) J (by rw[hml]<;>rfl) ?_;refine gx J<|?_;exact rz J (by rw[hT];rfl)
def IN{l m:aa}(h:crossI l m≠0){p:ab}(h1:l.value p=0)(h2:m.value p=0):p=d9 l m:=by
 rw[Mn h];have hd:=L3 h;rw[iG] at h1 h2;obtain⟨x,y⟩:=p;have e1:x*l.nor.cross m.nor=(l.b:Rat)*(m.c:Rat)-(l.c:Rat)*(m.b:Rat):=by unfold ab.cross aa.nor;grind
 have e2:y*l.nor.cross m.nor=(l.c:Rat)*(m.a:Rat)-(l.a:Rat)*(m.c:Rat):=by unfold ab.cross aa.nor;grind
 generalize l.nor.cross m.nor=d at*;simp only[ab.mk.injEq];constructor<;>grind
def qD{c:aw}(hb:dw c=true):c≠[]/\ ∀s∈c,s.v.nl=false/\s.v.nh=false:=by
 unfold dw at hb;rw[bL,dK] at hb;refine⟨fun e=>by rw[e] at hb;simp at hb,fun s hs=>?_⟩;have:=hb.2 s hs;simpa using this
def H9{c:aw}(hc:bP c)(ha:jb c)(hb:dw c=true){i:Nat}{s w:ba}(hs:c[i]? =some s)(hw:c[(i+1)%c.length]? =some w):0<s.l.dir.cross w.l.dir/\d9 s.l w.l=s.l.at s.v.hi/\w.l.at w.v.lo=s.l.at s.v.hi:=by
 have he:=(qD hb).2;have ms:=aT hs;have mw:=aT hw;have hn:lv (c.map fun s=>s.l.dir) s.l.dir w.l.dir:=aBB ha (by rw[cV,hs];rfl) (by rw[aK,cV,hw];rfl);obtain⟨h1,h2⟩:=aB2 hc ms mw hn (he s ms).2;have h3:=Zg hc ms mw hn h1 (he w mw).1;have hx:crossI s.l w.l≠0:=Hb ((kH _).2 h1);refine⟨h1,(IN hx (lm (hc.ok s ms).ne _) h2).symm,?_⟩;rw[IN hx h3 (lm (hc.ok w mw).ne _),IN hx (lm (hc.ok s ms).ne _) h2]
def ON{α β:Type}(f:α->β): ∀l:List α,l.flatMap (fun x=>[f x])=l.map f
 |[]=>rfl
 |a::t=>by rw[kU,ON f t];rfl
def HO{α β:Type}{f g:α->List β}: ∀{l:List α},(∀x∈l,f x=g x)->l.flatMap f=l.flatMap g
 |[],_=>rfl
 |a::t,h=>by rw[kU,kU,h a aQ,HO fun x hx=>h x (aJ _ hx)]
def Ff{c:aw}(hc:bP c)(ha:jb c)(hb:dw c=true):ey (c.map (·.l))=c.map fun s=>s.l.at s.v.hi:=by
 unfold ey;rw[aK];have h0: ∀i∈List.range c.length,qH (c.map (·.l)) i=[(c.map fun s=>s.l.at s.v.hi).getD i ⟨0,0⟩]:=fun i hi=>by
  have hi':=kJ.1 hi;obtain⟨s,hs⟩: ∃s,c[i]? =some s:=⟨_,aZ hi'⟩;obtain⟨w,hw⟩: ∃w,c[(i+1)%c.length]? =some w:=⟨_,aZ (dX _ (by omega))⟩;obtain⟨h1,h2,h3⟩:=H9 hc ha hb hs hw;rw[CC (l:=s.l) (m:=w.l) (by rw[cV,hs];rfl) (by rw[aK,cV,hw];rfl),if_pos ((kH _).2 h1),h2,aX,cV,hs];rfl
 rw[HO h0,ON];refine List.ext_getElem (by simp) fun i h1 h2=>?_;rw[qX,List.getElem_range,aX,aZ (by simpa using h2)];rfl
def Mv{c:aw}(hc:bP c)(ha:jb c)(hb:dw c=true):0<c.length:=by
 have:=(qD hb).1
 cases c with
 |nil=>exact absurd J this
 |cons a t=>simp
def aE{α:Type}(f:α->Rat):List α->Rat
 |[]=>0
 |a::t=>f a+aE f t
def C8{α:Type}(f:α->Rat): ∀(l m:List α),aE f (l++m)=aE f l+aE f m
 |[],m=>by rw[kS,aE];grind
 |a::t,m=>by rw[jJ,aE,aE,C8 f t m];grind
def q8{α:Type}{f g:α->Rat}: ∀{l:List α},(∀x∈l,f x=g x)->aE f l=aE g l
 |[],_=>rfl
 |a::t,h=>by rw[aE,aE,h a aQ,q8 fun x hx=>h x (aJ _ hx)]
def vO{α β:Type}(f:β->Rat)(g:α->β): ∀l:List α,aE f (l.map g)=aE (fun x=>f (g x)) l
 |[]=>rfl
 |a::t=>by rw[cK,aE,aE,vO f g t]
def He{α β:Type}(f:β->Rat)(g:α->List β): ∀l:List α,aE f (l.flatMap g)=aE (fun x=>aE f (g x)) l
 |[]=>rfl
 |a::t=>by rw[kU,C8,aE,He f g t]
def B9{α:Type}(f g:α->Rat): ∀l:List α,aE (fun x=>f x+g x) l=aE f l+aE g l
 |[]=>by simp only[aE];grind
 |a::t=>by rw[aE,aE,aE,B9 f g t];grind
def A'{α:Type}(k:Rat)(f:α->Rat): ∀l:List α,aE (fun x=>k*f x) l=k*aE f l
 |[]=>by simp only[aE];grind
 |a::t=>by rw[aE,aE,A' k f t];grind
def C7{α:Type}{f:α->Rat}: ∀{l:List α},(∀x∈l,0<=f x)->0<=aE f l
 |[],_=>dR
 |a::t,h=>by rw[aE];have h1:=h a aQ;have h2:=C7 fun x hx=>h x (aJ a hx);grind
def OL{α:Type}{f:α->Rat}{l:List α}(h: ∀x∈l,0<f x)(hn:l≠[]):0<aE f l:=by
 cases l with
 |nil=>exact absurd J hn
 |cons a t=>
  rw[aE];have h1:=h a aQ;have h2:=C7 (f:=f) (l:=t) fun x hx=>dQ (h x (aJ a hx));grind
def ww(f:ab->ab->Rat)(v:List ab):Rat:=aE (fun i=>f (v.getD i ⟨0,0⟩) (v.getD ((i+1)%v.length) ⟨0,0⟩)) (List.range v.length)
def L9(n:Nat):List.range (n+1)=0::(List.range n).map (· +1):=by
 rw[List.range_succ_eq_map]
def Sq(g:Nat->Rat)(n:Nat):aE (fun i=>g ((i+1)%n)) (List.range n)=aE g (List.range n):=by
 cases n with
 |zero=>rfl
 |succ n=>
  have e1:aE (fun i=>g ((i+1)%(n+1))) (List.range (n+1))=aE (fun i=>g (i+1)) (List.range n)+g 0:=by
   rw[List.range_succ,C8,q8 (g:=fun i=>g (i+1)) fun i hi=>by rw[eX (by have:=kJ.1 hi;omega)]];simp only[aE,tX];grind
  have e2:aE g (List.range (n+1))=g 0+aE (fun i=>g (i+1)) (List.range n):=by rw[L9,aE,vO]
  rw[e1,e2];grind
def Qo{α:Type}(f:α->Rat)(d:α): ∀l:List α,aE (fun i=>f (l.getD i d)) (List.range l.length)=aE f l
 |[]=>rfl
 |a::t=>by
  rw[bX,L9,aE,vO,aE,<-Qo f d t];rfl
def Fm{c:aw}(hc:bP c)(ha:jb c)(hb:dw c=true)(f:ab->ab->Rat):ww f (ey (c.map (·.l)))=aE (fun s=>f (s.l.at s.v.lo) (s.l.at s.v.hi)) c:=by
 rw[Ff hc ha hb];unfold ww;rw[aK];obtain⟨d,hd⟩: ∃d:ba,d=⟨A4,ah.all⟩:=⟨_,rfl⟩;rw[<-Qo (fun s:ba=>f (s.l.at s.v.lo) (s.l.at s.v.hi)) d c,<-Sq (fun i=>f ((c.getD i d).l.at (c.getD i d).v.lo) ((c.getD i d).l.at (c.getD i d).v.hi)) c.length];refine q8 fun i hi=>?_;have hi':=kJ.1 hi;have hj:=dX (i+1) (show 0<c.length by omega);obtain⟨s,hs⟩: ∃s,c[i]? =some s:=⟨_,aZ hi'⟩;obtain⟨w,hw⟩: ∃w,c[(i+1)%c.length]? =some w:=⟨_,aZ hj⟩;obtain⟨h1,h2,h3⟩:=H9 hc ha hb hs hw;rw[aX,aX,aX,cV,cV,hs,hw];show f (s.l.at s.v.hi) (w.l.at w.v.hi)=f (w.l.at w.v.lo) (w.l.at w.v.hi);rw[h3]
def Zc{l:aa}(h:l.Ne)(a b:Rat):(l.at a).cross (l.at b)=(b-a)*(l.c:Rat):=by
 have h1:=lm h a;have e:l.at b=bF (l.at a) l.dir (b-a):=by rw[<-vu];congr 1;grind
 rw[e];rw[iG] at h1;generalize l.at a=p at*;unfold ab.cross bF aa.dir;grind
def vY(c:aw):Rat:=aE (fun s=>(s.v.hi-s.v.lo)*(s.l.c:Rat)) c
def WN{c:aw}(hc:bP c)(ha:jb c)(hb:dw c=true):ww ab.cross (ey (c.map (·.l)))=vY c:=by
 rw[Fm hc ha hb];exact q8 fun s hs=>Zc (hc.ok s hs).ne _ _
def HE{c:aw}(hc:bP c)(ha:jb c)(hb:dw c=true)(g:ab->Rat):aE (fun s=>g (s.l.at s.v.hi)-g (s.l.at s.v.lo)) c=0:=by
 have e:=Fm hc ha hb fun p q=>g q-g p;rw[<-e];unfold ww;generalize ey (c.map (·.l))=v;have e2:aE (fun i=>g (v.getD ((i+1)%v.length) ⟨0,0⟩)) (List.range v.length)=aE (fun i=>g (v.getD i ⟨0,0⟩)) (List.range v.length):=Sq (fun i=>g (v.getD i ⟨0,0⟩)) _;have e3:=B9 (fun i=>g (v.getD ((i+1)%v.length) ⟨0,0⟩)-g (v.getD i ⟨0,0⟩)) (fun i=>g (v.getD i ⟨0,0⟩)) (List.range v.length);have e4:aE (fun i=>g (v.getD ((i+1)%v.length) ⟨0,0⟩)-g (v.getD i ⟨0,0⟩)+g (v.getD i ⟨0,0⟩)) (List.range v.length)=aE (fun i=>g (v.getD ((i+1)%v.length) ⟨0,0⟩)) (List.range v.length):=q8 fun i _=>by grind
 rw[e4,e2] at e3;grind
def Wd{c:aw}(hc:bP c)(ha:jb c)(hb:dw c=true):0<vY c:=by
 obtain⟨p,hp⟩:=hc.ne;have key:aE (fun s=>(s.v.hi-s.v.lo)*s.l.value p) c=vY c:=by
  have e1:=HE hc ha hb fun q=>q.x*p.y-q.y*p.x;have e2:=B9 (fun s:ba=>(s.v.hi-s.v.lo)*(s.l.c:Rat)) (fun s=>((s.l.at s.v.hi).x*p.y-(s.l.at s.v.hi).y*p.x)-((s.l.at s.v.lo).x*p.y-(s.l.at s.v.lo).y*p.x)) c;rw[e1] at e2;unfold vY;have e5:aE (fun s:ba=>(s.v.hi-s.v.lo)*s.l.value p) c=aE (fun s:ba=>(s.v.hi-s.v.lo)*(s.l.c:Rat)+(((s.l.at s.v.hi).x*p.y-(s.l.at s.v.hi).y*p.x)-((s.l.at s.v.lo).x*p.y-(s.l.at s.v.lo).y*p.x))) c:=q8 fun s hs=>by
   have e:s.l.at s.v.hi=bF (s.l.at s.v.lo) s.l.dir (s.v.hi-s.v.lo):=by rw[<-vu];congr 1;grind
   rw[e,iG];generalize s.l.at s.v.lo=q;unfold bF aa.dir;grind
  rw[e5,e2];grind
 rw[<-key];refine OL (fun s hs=>?_) (qD hb).1;have h1:=(qD hb).2 s hs;have h2:=(hc.edge s hs).1;unfold ah.Pos at h2;rw[h1.1,h1.2] at h2;exact bO (by grind) (hp s hs)
end Go.Sx
end
