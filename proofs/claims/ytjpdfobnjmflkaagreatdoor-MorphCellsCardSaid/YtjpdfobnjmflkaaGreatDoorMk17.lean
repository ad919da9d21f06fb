import Derived.Test.YtjpdfobnjmflkaaGreatDoorMk16
import Derived.RangeFuncSeq
set_option linter.all false
set_option maxHeartbeats 1000000
set_option maxRecDepth 100000
section
namespace Go.Sx
open Go Go.Proofs Tryz
variable {GB G G1:Gh}{l m:aa}{e c d:ao}{s:bA}{ds:List ah}{n i g x y k j D:Nat}{α X:Type}{t:Tr}{u p:ah}{a:Act}{b:Bool}{w w1:World}{P:Program}{Q Q0:Exit->Act->World->Prop}{ops:Array Oper}{o:Oper}{r pre:List Oper}{K:List Kt}{C C':aF}{fr fr0 fr' fr1 fr2:aC}{own0 own' own1 own2:aI}{cf' cf1 cf2:Cf}{vc vc1 vc2:List Prop}{f:FuncId}{fb:Func}{E:List (List DV)}{Jv:Nat->Gh->World->Prop}{Jx:Gh->World->Prop}{rv:DV}
def WS(hl:l.ok)(hm:m.ok)(h:gc l.dir m.dir=0): ∃k e:Rat,0<k/\ ∀p,m.value p=k*l.value p+e:=by
 obtain⟨h1,h2⟩:=ayQ.1 h;have z1:=Cb hl;have key: ∃k:Rat,0<k/\m.dir.x=k*l.dir.x/\m.dir.y=k*l.dir.y:=by
  unfold ah.cross at h2;rcases uj l.dir with⟨e,k⟩|⟨e,k⟩|⟨e,k⟩
  .rw[e] at h1
   have k2:=ow.1 h1.symm;rcases k with k|⟨k,k'⟩
   .have y2:0<m.dir.y:=by
     rcases k2 with k2|⟨k2,k3⟩
     .exact k2
     .exfalso
      rw[k2] at h2;have:=dd k k3;grind
    refine⟨m.dir.y/l.dir.y,?_,by grind,by grind⟩;have:0<m.dir.y/l.dir.y:=(f8 k).1 (by rw[show m.dir.y/l.dir.y*l.dir.y=m.dir.y by grind];exact y2);exact this
   .rw[k] at h2
    have y2:m.dir.y=0:=by
     rcases fJ.1 (show l.dir.x*m.dir.y=0 by grind) with q|q
     .rw[q] at k';exact absurd k' (by decide)
     .exact q
    have x2:0<m.dir.x:=by
     rcases k2 with k2|⟨_,k3⟩
     .rw[y2] at k2;exact absurd k2 (by decide)
     .exact k3
    refine⟨m.dir.x/l.dir.x,(f8 k').1 (by rw[show m.dir.x/l.dir.x*l.dir.x=m.dir.x by grind];exact x2),by grind,by rw[y2,k];grind⟩
  .rw[e] at h1
   have k2:=vj.1 h1.symm;rcases k with k|⟨k,k'⟩
   .have y2:m.dir.y<0:=by
     rcases k2 with k2|⟨k2,k3⟩
     .exact k2
     .exfalso
      rw[k2] at h2;have:=dd (show 0< -l.dir.y by grind) (show 0< -m.dir.x by grind);grind
    refine⟨m.dir.y/l.dir.y,(f8 (show 0< -l.dir.y by grind)).1 (by rw[show m.dir.y/l.dir.y* -l.dir.y= -m.dir.y by grind];grind),by grind,by grind⟩
   .rw[k] at h2
    have y2:m.dir.y=0:=by
     rcases fJ.1 (show l.dir.x*m.dir.y=0 by grind) with q|q
     .rw[q] at k';exact absurd k' (by decide)
     .exact q
    have x2:m.dir.x<0:=by
     rcases k2 with k2|⟨_,k3⟩
     .rw[y2] at k2;exact absurd k2 (by decide)
     .exact k3
    refine⟨m.dir.x/l.dir.x,(f8 (show 0< -l.dir.x by grind)).1 (by rw[show m.dir.x/l.dir.x* -l.dir.x= -m.dir.x by grind];grind),by grind,by rw[y2,k];grind⟩
  .exact absurd e z1
 obtain⟨k,k0,kx,ky⟩:=key;simp only[aa.dir] at kx ky;refine⟨k,(m.c:Rat)-k*(l.c:Rat),k0,fun p=>?_⟩;rw[jd,jd,kx];have:(m.a:Rat)=k*(l.a:Rat):=by grind
 rw[this];grind
def QR(hne: ∃q,bu e q)(hl:l.ok)(hm:m.ok)(pl: ∀p,bu e p->0<l.value p)(pm: ∀p,bu e p->0<m.value p)(tl: ∃p,gH e p/\l.value p=0)(tm: ∃p,gH e p/\m.value p=0)(ha:gc l.dir m.dir=0):l=m:=by
 obtain⟨k,c,k0,hk⟩:=WS hl hm ha;obtain⟨p,p1,p2⟩:=tl;obtain⟨q,q1,q2⟩:=tm;have g1:=sr hne pm p1;rw[hk,p2] at g1;have g2:=sr hne pl q1;have g3:=cG (dQ k0) g2;rw[hk] at q2;have c0:c=0:=by grind
 have hz: ∀t,m.value (l.at t)=0:=fun t=>by rw[hk,lE hl.ne,c0];grind
 rcases w8 hm hl hz with h|h
 .exact h.symm
 .exfalso
  obtain⟨u,hu⟩:=hne;have a:=pl u hu;have b:=pm u hu;rw[h,fe] at b;grind
def yo(hc:bC c)(hs:s∈c):gH c (s.l.at s.v.sample)/\s.l.value (s.l.at s.v.sample)=0:=
 ⟨((hc.edge s hs).2 _).1 (nD (hc.edge s hs).1).has,lE (hc.ok s hs).ne _⟩
def fD(c:ao):Prop:=(c.map fun s=>s.l.dir).Pairwise d9
def Ir{p:Nat->Bool}{N:Nat}(hm: ∀i j,i<=j->j<N->p j=true->p i=true): ∀(d i j:Nat),j-i<=d->i<=j->j<=N->(∀k,k<i->p k=true)->(∀k,j<=k->k<N->p k=false)->(∀k,k<f7 p i j->p k=true)/\ ∀k,f7 p i j<=k->k<N->p k=false
 |0,i,j,h,hij,hN,h1,h2=>by
  obtain rfl:i=j:=by omega
  rw[f7,dif_neg (by omega)];exact⟨h1,h2⟩
 |d+1,i,j,h,hij,hN,h1,h2=>by
  by_cases q:i<j
  .rw[f7,dif_pos q]
   by_cases r:p ((i+j)/2)=true
   .rw[if_pos r]
    exact Ir hm d _ _ (by omega) (by omega) hN (fun k hk=>hm k ((i+j)/2) (by omega) (by omega) r) h2
   .rw[if_neg r]
    refine Ir hm d _ _ (by omega) (by omega) (by omega) h1 fun k hk hkN=>?_
    cases hp:p k with
    |false=>rfl
    |true=>exact absurd (hm _ k hk hkN hp) r
  .obtain rfl:i=j:=by omega
   rw[f7,dif_neg q];exact⟨h1,h2⟩
def RB{d:ah}(h:ds.Pairwise d9)(h1: ∀x∈ds.take n,d9 x d)(h2: ∀x∈ds.drop n,d9 d x):(ds.take n++d::ds.drop n).Pairwise d9:=by
 have hs:=h;rw[<-kX n ds,fS] at hs;obtain⟨a,b,c⟩:=hs;rw[fS];refine⟨a,bL.2 ⟨h2,b⟩,fun x hx y hy=>?_⟩;rcases aW.1 hy with rfl|hy
 .exact h1 x hx
 .exact c x hx y hy
def IZ(l:aa): ∀c:ao,((d7 l c).map fun s=>s.l.dir).Sublist (c.map fun s=>s.l.dir)
 |[]=>List.Sublist.refl _
 |s::c=>by
  rw[d7];split
  .exact(IZ l c).cons_cons _
  .exact(IZ l c).cons _
def Oz{l:List α}{x:α}(h:x∈l.take n): ∃i,i<n/\l[i]? =some x:=by
 obtain⟨i,hi,e⟩:=oX.1 h;rw[bT] at hi;exact⟨i,by omega,by rw[List.getElem_take] at e;rw[aZ (by omega),e]⟩
def KZ{l:List α}{x:α}(h:x∈l.drop n): ∃i,n<=i/\i<l.length/\l[i]? =some x:=by
 obtain⟨i,hi,e⟩:=oX.1 h;rw[gV] at hi;exact⟨n+i,by omega,by omega,by rw[List.getElem_drop] at e;rw[aZ (by omega),e]⟩
def F6(hc:bC c)(hl:l.ok)(ha:fD c)(hb:cp c l=true):fD (bE c l):=by
 have hg:=(gG hc hl hb).1;unfold bE at hg⊢
 cases hp:jz c l with
 |none=>exact ha
 |some v=>
  simp only[hp] at hg⊢;have hs:fD (d7 l c):=ha.sublist (IZ l c);have nt: ∀s∈d7 l c,gc s.l.dir l.dir≠0:=fun s h e=>by
   have m1:s∈kI (d7 l c) l v:=pO.2 (.inr h);have m2:(⟨l,v⟩:bA)∈kI (d7 l c) l v:=pO.2 (.inl J);have ee:=QR hg.ne (hg.ok s m1) hl (fun p hp=>hp s m1) (fun p hp=>hp ⟨l,v⟩ m2) ⟨_,yo hg m1⟩ ⟨_,yo hg m2⟩ e;obtain⟨s0,g1,_,rfl⟩:=r5.1 h;obtain⟨_,q,q1,q2⟩:=GU hl.ne hp;have h5:=q1 s0 g1;have e5:s0.l=l:=ee;rw[e5] at h5;grind
  generalize d7 l c=d at*;have hmo: ∀i j,i<=j->j<d.length->i0 d l j=true->i0 d l i=true:=fun i j hij hj h=>by
   unfold i0 at h⊢;rw[aZ hj] at h;rw[aZ (by omega)];simp only[decide_eq_true_eq,xj] at h⊢;by_cases q:i=j
   .subst q;exact h
   .have:=qX.1 hs i j (by simp;omega) (by simp;omega) (by omega)
    simp only[pS] at this;exact AV this h
  obtain⟨k1,k2⟩:=Ir hmo d.length 0 d.length (by omega) (by omega) (bW _) (fun k h=>absurd h (by omega)) (fun k h h'=>absurd h' (by omega));unfold kI fD;generalize f7 (i0 d l) 0 d.length=n at*;rw[aL,bU,iU,iN];refine RB hs (fun x hx=>?_) (fun x hx=>?_)
  .rw[<-iU] at hx
   obtain⟨s,h1,rfl⟩:=aT.1 hx;obtain⟨i,hi,e⟩:=Oz h1;have:=k1 i hi;unfold i0 at this;rw[e] at this;simpa[xj] using this
  .rw[<-iN] at hx
   obtain⟨s,h1,rfl⟩:=aT.1 hx;obtain⟨i,hi,hi2,e⟩:=KZ h1;have:=k2 i hi hi2;unfold i0 at this;rw[e] at this;have h3: ¬d9 s.l.dir l.dir:=by simpa[xj] using this
   by_cases q:d9 l.dir s.l.dir
   .exact q
   .exact absurd (KX h3 q) (nt s (gW h1))
def J2: ∀{t:Tr} {c:ao},t.all aa.ok->bC c->fD c-> ∀x∈t.parts c,fD x.2
 | .leaf b,c,_,_,ha,x,h=>by
  rw[Tr.parts,aU] at h;subst h;exact ha
 | .node l u v,c,ht,hc,ha,x,h=>by
  rw[Tr.parts] at h;rcases bJ.1 h with h|h
  .split at h
   .rename_i hb
    exact J2 ht.2.1 (gG hc ht.1 hb).1 (F6 hc ht.1 ha hb) x h
   .cases h
  .split at h
   .rename_i hb
    exact J2 ht.2.2 (gG hc ht.1.rev hb).1 (F6 hc ht.1.rev ha hb) x h
   .cases h
def tk(c:List aa):Prop:=(c.map aa.dir).Pairwise d9
def Hl{c:List aa}(hs: ∀s∈e,s.l∈c)(hl:l.ok)(he:(fH l c ar.all).isSome=true): ∃w:ar,w.Pos/\ ∀t,w.ins t->gH e (l.at t)/\l.value (l.at t)=0/\ ∀m∈c,m≠l->0<m.value (l.at t):=by
 obtain⟨w,hw⟩:=qU.1 he;obtain⟨h1,h2⟩:=BP l c _ w yr hw;refine⟨w,h1,fun t ht=>?_⟩;have h3:=((h2 t).1 ht).2;refine⟨fun s hs'=>?_,lE hl.ne t,h3⟩;by_cases q:s.l=l
 .rw[q,lE hl.ne];exact iW
 .exact dQ (h3 _ (hs s hs') q)
def Nl{α:Type}{p:α->Bool}: ∀(l:List α),(∀i x,i<(l.takeWhile p).length->l[i]? =some x->p x=true)/\ ∀x,l[(l.takeWhile p).length]? =some x->p x=false
 |[]=>⟨fun i x h _=>by simp at h,fun x h=>by simp at h⟩
 |a::l=>by
  obtain⟨h1,h2⟩:=Nl (p:=p) l;rw[oY]
  cases ha:p a with
  |false=>
   refine⟨fun i x h _=>by simp at h,fun x h=>?_⟩;simp at h;rw[<-h];exact ha
  |true=>
   simp only[if_true,bZ];refine⟨fun i x h e=>?_,fun x h=>h2 x (by simpa using h)⟩
   cases i with
   |zero=>simp at e;rw[<-e];exact ha
   |succ i=>exact h1 i x (by omega) (by simpa using e)
def anN{out:List aa}(ha:tk out)(ht: ∀m∈out,gc m.dir l.dir=0->m=l):tk (pe out l):=by
 unfold pe;split
 .exact ha
 .rename_i hne
  obtain⟨k1,k2⟩:=Nl (p:=fun x:aa=>decide (gc x.dir l.dir<0)) out;have e0:m7 out l=(out.takeWhile fun x=>decide (gc x.dir l.dir<0)).length:=J;rw[<-e0] at k1 k2;generalize m7 out l=n at*;unfold tk;rw[aL,bU,iU,iN];refine RB ha (fun x hx=>?_) (fun x hx=>?_)
  .rw[<-iU] at hx
   obtain⟨m,h1,rfl⟩:=aT.1 hx;obtain⟨i,hi,e⟩:=Oz h1;simpa[xj] using k1 i m hi e
  .rw[<-iN] at hx
   obtain⟨m,h1,rfl⟩:=aT.1 hx;obtain⟨i,hi,hi2,e⟩:=KZ h1;have hn:n<out.length:=by omega
   have h3: ¬d9 (out[n]).dir l.dir:=by simpa[xj] using k2 _ (aZ hn)
   have h4:d9 l.dir (out[n]).dir:=by
    by_cases q:d9 l.dir (out[n]).dir
    .exact q
    .exact absurd (by rw[aZ hn,ht _ (dX hn) (KX h3 q)]) hne
   by_cases q:i=n
   .subst q
    rw[aZ hn] at e
    cases e
    exact h4
   .have:=qX.1 ha n i (by simp;omega) (by simp;omega) (by omega)
    simp only[pS] at this;rw[aZ hi2] at e
    cases e
    exact AV h4 this
def H1{c:List aa}(ht: ∀l∈c,∀m∈c,(fH l c ar.all).isSome=true->(fH m c ar.all).isSome=true->gc m.dir l.dir=0->m=l): ∀{t out:List aa},(∀l∈t,l∈c)->(∀m∈out,m∈c/\(fH m c ar.all).isSome=true)->tk out->tk (m9 c t out)
 |[],out,_,_,ha=>ha
 |l::t,out,hc,ho,ha=>by
  have hl:=hc l aQ;rw[m9];by_cases q:(fH l c ar.all).isSome=true
  .rw[if_pos q]
   refine H1 ht (fun l h=>hc l (aJ _ h)) (fun m hm=>?_) (anN ha fun m hm e=>ht l hl m (ho m hm).1 q (ho m hm).2 e);rcases FY.1 hm with rfl|h
   .exact⟨hl,q⟩
   .exact ho m h
  .rw[if_neg q]
   exact H1 ht (fun l h=>hc l (aJ _ h)) ho ha
def asC{c:List aa}(hok: ∀l∈c,l.ok)(hne: ∃p,f9 c p):tk (fP c):=by
 obtain⟨e,_,hg,hi,hs⟩:=Fj hok hne;refine H1 (fun l hl m hm el em h=>?_) (fun l h=>h) (fun m h=>by cases h) .nil;obtain⟨w1,p1,k1⟩:=Hl (fun s h=>(hs s h).1) (hok l hl) el;obtain⟨w2,p2,k2⟩:=Hl (fun s h=>(hs s h).1) (hok m hm) em;obtain⟨a1,a2,_⟩:=k1 _ (nD p1);obtain⟨b1,b2,_⟩:=k2 _ (nD p2);exact QR hg.ne (hok m hm) (hok l hl) (fun p hp=>(hi p).1 hp m hm) (fun p hp=>(hi p).1 hp l hl) ⟨_,b1,b2⟩ ⟨_,a1,a2⟩ h
def Qx{v:ar}{t u:Rat}(h:v.ins t)(k:v.has u):v.ins ((t+u)*(1/2)):=by
 obtain⟨lo,hi,nl,nh⟩:=v;unfold ar.ins at*;unfold ar.has at k
 cases nl<;>cases nh<;>simp at* <;>grind
def EK(hc: ∃q,bu c q)(h: ∀p,bu c p↔bu d p)(hp:gH c p):gH d p:=fun s hs=>sr hc (fun q hq=>(h q).1 hq s hs) hp
def ZI{c:List aa}(hok: ∀l∈c,l.ok)(hd:bC d)(h: ∀p,bu d p↔f9 c p)(l:aa):l∈d.map (·.l)↔l∈fP c:=by
 have hne: ∃p,f9 c p:=hd.ne.elim fun q hq=>⟨q,(h q).1 hq⟩;obtain⟨e,_,hg,hi,hs⟩:=Fj hok hne;have hde: ∀p,bu d p↔bu e p:=fun p=>by rw[h,hi]
 constructor
 .intro hl
  obtain⟨s,k,rfl⟩:=aT.1 hl;obtain⟨t1,t2⟩:=yo hd k;have t3:=EK hd.ne hde t1;have: ¬bu e (s.l.at s.v.sample):=fun q=>by
   have:=(hde _).2 q s k;rw[t2] at this;exact absurd this (by decide)
  obtain⟨u,hu,hz⟩: ∃u∈e,u.l.value (s.l.at s.v.sample)=0:=by
   by_cases q: ∃u∈e,u.l.value (s.l.at s.v.sample)=0
   .exact q
   .exfalso
    refine this fun u hu=>?_;have g1:=t3 u hu;have g2:u.l.value (s.l.at s.v.sample)≠0:=fun e=>q ⟨u,hu,e⟩;grind
  have:=L5 hd k (hg.ok u hu) (fun p hp=>(hde p).1 hp u hu) hz;rw[<-this];exact pz.2 (hs u hu)
 .intro hl
  obtain⟨l1,l2⟩:=pz.1 hl;obtain⟨w,p1,k1⟩:=Hl (fun s h=>(hs s h).1) (hok l l1) l2;have hed: ∀p,bu e p↔bu d p:=fun p=>(hde p).symm;have hi1:=nD p1;obtain⟨⟨u1,m1,n1⟩,⟨u2,m2,n2⟩⟩:=Gl hi1;have g1:=Qx hi1 n1;have g2:=Qx hi1 n2;obtain⟨c0,c1,_⟩:=k1 _ hi1;have c2:=EK hg.ne hed c0;have: ¬bu d (l.at w.sample):=fun q=>by
   have:=(h _).1 q l l1;rw[c1] at this;exact absurd this (by decide)
  obtain⟨s,hsd,hz⟩: ∃s∈d,s.l.value (l.at w.sample)=0:=by
   by_cases q: ∃u∈d,u.l.value (l.at w.sample)=0
   .exact q
   .exfalso
    refine this fun u hu=>?_;have g1:=c2 u hu;have g2:u.l.value (l.at w.sample)≠0:=fun e=>q ⟨u,hu,e⟩;grind
  have e1:=EK hg.ne hed (k1 _ g1).1 s hsd;have e2:=EK hg.ne hed (k1 _ g2).1 s hsd;rw[li] at hz e1 e2;have hK:l.cutK s.l=0:=by
   rcases j0 (l.cutK s.l) with h|h|h
   .exact h
   .exfalso
    have:=dd (a:=w.sample-u1) (b:=l.cutK s.l) (by grind) h;grind
   .exfalso
    have:=dd (a:=u2-w.sample) (b:= -l.cutK s.l) (by grind) (by grind);grind
  have hz2: ∀t,s.l.value (l.at t)=0:=fun t=>by rw[li,hK];rw[hK] at hz;grind
  rcases w8 (hd.ok s hsd) (hok l l1) hz2 with q|q
  .rw[<-q];exact dT hsd
  .exfalso
   obtain⟨u,hu⟩:=hd.ne;have a:=hu s hsd;have b:=(h u).1 hu l l1;rw[q,fe] at a;grind
def Mr: ∀{l m:List aa},tk l->tk m->(∀x,x∈l↔x∈m)->l=m
 |[],[],_,_,_=>rfl
 |[],b::m,_,_,h=>absurd ((h b).2 aQ) (by simp)
 |a::l,[],_,_,h=>absurd ((h a).1 aQ) (by simp)
 |a::l,b::m,h1,h2,h=>by
  obtain⟨p1,p2⟩:=bL.1 h1;obtain⟨q1,q2⟩:=bL.1 h2;have p1': ∀x∈l,d9 a.dir x.dir:=fun x hx=>p1 _ (dT hx);have q1': ∀x∈m,d9 b.dir x.dir:=fun x hx=>q1 _ (dT hx);have e:a=b:=by
   rcases aW.1 ((h a).1 aQ) with e|e
   .exact e
   .rcases aW.1 ((h b).2 aQ) with f|f
    .exact f.symm
    .exact(zr (q1' a e) (p1' b f)).elim
  subst e;congr 1;refine Mr p2 q2 fun x=>⟨fun hx=>?_,fun hx=>?_⟩
  .rcases aW.1 ((h x).1 (aJ _ hx)) with e|e
   .subst e;exact(wl _ (p1' _ hx)).elim
   .exact e
  .rcases aW.1 ((h x).2 (aJ _ hx)) with e|e
   .subst e;exact(wl _ (q1' _ hx)).elim
   .exact e
def QI{c:List aa}(hok: ∀l∈c,l.ok)(hd:bC d)(ha:fD d)(h: ∀p,bu d p↔f9 c p):fP c=d.map (·.l):=by
 refine Mr (asC hok (hd.ne.elim fun q hq=>⟨q,(h q).1 hq⟩)) ?_ fun x=>(ZI hok hd h x).symm;unfold tk;rw[List.map_map];exact ha
def H2(hc:bC c)(hs:s∈c)(h:s.v.nh=true): ∀u∈c,0<=u.l.nor.dot s.l.dir:=fun u hu=>by
 obtain⟨p1,p2⟩:=hc.edge s hs;have hi:=(nD p1).has;have key: ∀n:Rat,0<=n->0<=u.l.value (s.l.at (s.v.sample+n)):=fun n hn=>((p2 _).1 ⟨hi.1.imp id fun q=>by grind, .inl h⟩) u hu;have h0:=key 0 (by decide);rw[li] at h0;by_cases q:0<=u.l.nor.dot s.l.dir
 .exact q
 .exfalso
  have q':0< -(s.l.cutK u.l):=by unfold aa.cutK;grind
  have h1:=key ((s.l.cutC u.l+s.v.sample*s.l.cutK u.l+1)/ -(s.l.cutK u.l)) (by
   have:=(f8 (s:=(s.l.cutC u.l+s.v.sample*s.l.cutK u.l+1)/ -(s.l.cutK u.l)) q').1 (by rw[show(s.l.cutC u.l+s.v.sample*s.l.cutK u.l+1)/ -(s.l.cutK u.l)* -(s.l.cutK u.l)=s.l.cutC u.l+s.v.sample*s.l.cutK u.l+1 by grind];grind);grind)
  rw[li] at h1;have:(s.l.cutC u.l+s.v.sample*s.l.cutK u.l+1)/ -(s.l.cutK u.l)*s.l.cutK u.l= -(s.l.cutC u.l+s.v.sample*s.l.cutK u.l+1):=by grind
  grind
def KJ(hc:bC c)(hs:s∈c)(h:s.v.nl=true): ∀u∈c,u.l.nor.dot s.l.dir<=0:=fun u hu=>by
 obtain⟨p1,p2⟩:=hc.edge s hs;have hi:=(nD p1).has;have key: ∀n:Rat,0<=n->0<=u.l.value (s.l.at (s.v.sample-n)):=fun n hn=>((p2 _).1 ⟨.inl h,hi.2.imp id fun q=>by grind⟩) u hu;have h0:=key 0 (by decide);rw[li] at h0;by_cases q:u.l.nor.dot s.l.dir<=0
 .exact q
 .exfalso
  have q':0<s.l.cutK u.l:=by unfold aa.cutK;grind
  have h1:=key ((s.l.cutC u.l+s.v.sample*s.l.cutK u.l+1)/s.l.cutK u.l) (by
   have:=(f8 (s:=(s.l.cutC u.l+s.v.sample*s.l.cutK u.l+1)/s.l.cutK u.l) q').1 (by rw[show(s.l.cutC u.l+s.v.sample*s.l.cutK u.l+1)/s.l.cutK u.l*s.l.cutK u.l=s.l.cutC u.l+s.v.sample*s.l.cutK u.l+1 by grind];grind);grind)
  rw[li] at h1;have:(s.l.cutC u.l+s.v.sample*s.l.cutK u.l+1)/s.l.cutK u.l*s.l.cutK u.l=s.l.cutC u.l+s.v.sample*s.l.cutK u.l+1:=by grind
  grind
def tr(c:List aa)(v:ah):Bool:=c.all fun l=>decide (0<=Int.sign (l.dir.cross v).num)
def Te(k:Rat):0<=Int.sign k.num↔0<=k:=by
 have h1:=Du k;constructor<;>intro h
 .by_cases q:0<=k
  .exact q
  .exact absurd (h1.2 (by grind)) (by omega)
 .by_cases q:0<=Int.sign k.num
  .exact q
  .exact absurd (h1.1 (by omega)) (by grind)
def Sp{v:ah}:tr (c.map (·.l)) v=true↔ ∀u∈c,0<=u.l.nor.dot v:=by
 unfold tr;rw[List.all_map,dJ];simp only[Function.comp,decide_eq_true_eq,Te,AZ]
def Dr:aa:=⟨1,0,0⟩
def ql(c:List aa)(i:Nat):List ah:=
 if 0<Int.sign ((c.getD i Dr).dir.cross (c.getD ((i+1)%c.length) Dr).dir).num then [cP (c.getD i Dr) (c.getD ((i+1)%c.length) Dr)] else []
def gh(c:List aa):List ah:=(List.range c.length).flatMap (ql c)
def rC{c:List aa}(h1:c[i]? =some l)(h2:c[(i+1)%c.length]? =some m):ql c i=if 0<Int.sign (l.dir.cross m.dir).num then [cP l m] else []:=by
 unfold ql;rw[aV,aV,h1,h2];rfl
def Bi(c:List aa)(k:Nat):(List.range (k+1)).flatMap (ql c)=(List.range k).flatMap (ql c)++ql c k:=by
 rw[rX,qY];simp
def CN(c:List aa): ∀k,((List.range k).flatMap (ql c)).length<=k
 |0=>bW _
 |k+1=>by
  have:=CN c k;have h2:(ql c k).length<=1:=by unfold ql;split<;>simp
  rw[Bi,aY];omega
def TH{c:List aa}(h:p∈gh c): ∃l∈c,∃m∈c,p=cP l m:=by
 obtain⟨i,hi,hp⟩:=iQ.1 h;have hi':=kQ.1 hi;have e1:=aZ hi';have e2:=aZ (l:=c) (dK (i+1) (show 0<c.length by omega));rw[rC e1 e2] at hp;split at hp
 .exact⟨_,dX _,_,dX _,aU.1 hp⟩
 .cases hp
def apT(ht:t.all aa.ok): ∀c∈fh t,bC c:=fun c hc=>(FC ht bC.nil (t8.1 hc)).1
def f9.open{c:List aa}{q:ah}(u:ah)(h:f9 c q): ∃e:Rat,0<e/\ ∀d,0<=d->d<=e->f9 c (cF q u d):=by
 have hd:bu (c.map fun m=>(⟨m,ar.all⟩:bA)) q:=fun s hs=>by
  obtain⟨m,hm,rfl⟩:=aT.1 hs;exact h m hm
 obtain⟨e,he,ho⟩:=hd.open u;exact⟨e,he,fun d d0 d1 m hm=>ho d d0 d1 ⟨m,ar.all⟩ (dT hm)⟩
def EU(l:aa)(t u:Rat):l.at (t+u)=cF (l.at t) l.dir u:=by
 rw[<-wW,<-wW];unfold cF;simp only[ah.mk.injEq];constructor<;>grind
def Jh(a:Int)(h:g∣a.natAbs):(g:Int)*zv (decide (a<0)) (a.natAbs/g)=a:=by
 obtain⟨k,hk⟩:=h;by_cases g0:g=0
 .subst g0;simp at hk⊢;omega
 have e:a.natAbs/g=k:=by rw[hk];exact rU k (iV g0)
 rw[e];unfold zv;have hc:((g*k:Nat):Int)=(g:Int)*(k:Int):=by push_cast;rfl
 by_cases n:a<0
 .simp only[n,decide_true,if_true];rw[Int.mul_neg];omega
 .simp only[n,decide_false];show(g:Int)*(k:Int)=a;omega
def UP{a b c:Int}(h: ¬(a=0/\b=0)): ∃g:Int,0<g/\g*(my a b c).a=a/\g*(my a b c).b=b/\g*(my a b c).c=c:=by
 have hg:0<Nat.gcd (Nat.gcd a.natAbs b.natAbs) c.natAbs:=mS _ (iV fun e=>h ⟨kU.1 (mJ e),kU.1 (mQ e)⟩);refine⟨(Nat.gcd (Nat.gcd a.natAbs b.natAbs) c.natAbs:Nat),by omega,?_,?_,?_⟩
 .exact Jh a (qS (kS _ _) (kS _ _))
 .exact Jh b (qS (kS _ _) (lN _ _))
 .exact Jh c (lN _ _)
def Gd: ∀(c:ao) (A B:bA->Rat),(∀u∈c,0<=A u/\(0<=B u\/0<A u))-> ∃e:Rat,0<e/\ ∀u∈c,0<=A u+e*B u
 |[],_,_,_=>⟨1,by decide,fun u hu=>by cases hu⟩
 |s::t,A,B,h=>by
  obtain⟨e,e0,he⟩:=Gd t A B fun u hu=>h u (aJ _ hu);obtain⟨h1,h2⟩:=h s aQ;have hold: ∀q,0<=q->q<=e-> ∀u∈t,0<=A u+q*B u:=fun q q0 q1 u hu=>HR (h u (aJ _ hu)).1 (he u hu) q0 q1;by_cases hb:0<=B s
  .refine⟨e,e0,fun u hu=>?_⟩
   rcases aW.1 hu with rfl|hu
   .have:=cG (dQ e0) hb;grind
   .exact he u hu
  .have ha:=h2.resolve_left hb
   have hq:0<A s/ -(B s):=(f8 (k:= -(B s)) (by grind)).1 (by rw[show A s/ -(B s)* -(B s)=A s by grind];exact ha);have hm:A s/ -(B s)* -(B s)=A s:=by grind
   generalize A s/ -(B s)=q at*;by_cases k:q<=e
   .refine⟨q,hq,fun u hu=>?_⟩
    rcases aW.1 hu with rfl|hu
    .grind
    .exact hold q (dQ hq) k u hu
   .refine⟨e,e0,fun u hu=>?_⟩
    rcases aW.1 hu with rfl|hu
    .have:=cG (show 0<=q-e by grind) (show 0<= -(B u) by grind)
     grind
    .exact he u hu
def GA(l m:aa)(t e:Rat):m.value (l.at (t+e))=m.value (l.at t)+e*m.nor.dot l.dir:=by
 rw[EU,jc]
def Iz(h:s.v.Pos)(nh:s.v.nh=false):s.v.has s.v.hi:=by
 unfold ar.Pos at h;refine⟨?_, .inr iW⟩;rcases h with h|h|h
 .exact .inl h
 .rw[nh] at h;cases h
 .exact .inr (dQ h)
def MK(h:s.v.Pos)(nl:s.v.nl=false):s.v.has s.v.lo:=by
 unfold ar.Pos at h;refine⟨.inr iW,?_⟩;rcases h with h|h|h
 .rw[nl] at h;cases h
 .exact .inl h
 .exact .inr (dQ h)
def aBr(hc:bC c)(hs:s∈c)(nh:s.v.nh=false): ∃u∈c,u.l.value (s.l.at s.v.hi)=0/\u.l.nor.dot s.l.dir<0:=by
 obtain⟨p1,p2⟩:=hc.edge s hs;have hin:=(p2 _).1 (Iz p1 nh);by_cases q: ∃u∈c,u.l.value (s.l.at s.v.hi)=0/\u.l.nor.dot s.l.dir<0
 .exact q
 .exfalso
  obtain⟨e,e0,he⟩:=Gd c (fun u=>u.l.value (s.l.at s.v.hi)) (fun u=>u.l.nor.dot s.l.dir) fun u hu=>by
   have h1:=hin u hu;refine⟨h1,?_⟩;by_cases k:0<=u.l.nor.dot s.l.dir
   .exact .inl k
   .right
    by_cases z:u.l.value (s.l.at s.v.hi)=0
    .exact absurd ⟨u,hu,z,by grind⟩ q
    .grind
  have hh:=(p2 (s.v.hi+e)).2 fun u hu=>by rw[GA];exact he u hu
  have:=hh.2;rw[nh] at this;rcases this with z|z
  .cases z
  .grind
def aC5(hc:bC c)(hs:s∈c)(nl:s.v.nl=false): ∃u∈c,u.l.value (s.l.at s.v.lo)=0/\0<u.l.nor.dot s.l.dir:=by
 obtain⟨p1,p2⟩:=hc.edge s hs;have hin:=(p2 _).1 (MK p1 nl);by_cases q: ∃u∈c,u.l.value (s.l.at s.v.lo)=0/\0<u.l.nor.dot s.l.dir
 .exact q
 .exfalso
  obtain⟨e,e0,he⟩:=Gd c (fun u=>u.l.value (s.l.at s.v.lo)) (fun u=> -(u.l.nor.dot s.l.dir)) fun u hu=>by
   have h1:=hin u hu;refine⟨h1,?_⟩;by_cases k:0<= -(u.l.nor.dot s.l.dir)
   .exact .inl k
   .right
    by_cases z:u.l.value (s.l.at s.v.lo)=0
    .exact absurd ⟨u,hu,z,by grind⟩ q
    .grind
  have hh:=(p2 (s.v.lo+ -e)).2 fun u hu=>by rw[GA];have:=he u hu;grind
  have:=hh.1;rw[nl] at this;rcases this with z|z
  .cases z
  .grind
def OI(h:ds.Pairwise d9){s w:ah}(hs:ds[i]? =some s)(hw:ds[(i+1)%ds.length]? =some w):xU ds s w:=by
 obtain⟨hi,rfl⟩:=aR.1 hs;obtain⟨hj,rfl⟩:=aR.1 hw;have hp:=qX.1 h;by_cases e:i+1<ds.length
 .have em:(i+1)%ds.length=i+1:=kZ e
  left;simp only[em];refine⟨hp i (i+1) hi e (by omega),fun d hd=>?_⟩;obtain⟨j,hj,rfl⟩:=oX.1 hd;rintro ⟨a,b⟩;rcases rL j i with k|k|k
  .exact zr a (hp j i hj hi k)
  .subst k;exact wl _ a
  .by_cases z:j=i+1
   .subst z;exact wl _ b
   .exact zr b (hp (i+1) j e hj (by omega))
 .have ei:i+1=ds.length:=by omega
  have em:(i+1)%ds.length=0:=by rw[ei,Nat.mod_self]
  right;simp only[em];refine⟨fun d hd a=>?_,fun d hd b=>?_⟩
  .obtain⟨j,hj,rfl⟩:=oX.1 hd
   by_cases k:j=i
   .subst k;exact wl _ a
   .exact zr a (hp j i hj hi (by omega))
  .obtain⟨j,hj,rfl⟩:=oX.1 hd
   by_cases k:j=0
   .subst k;exact wl _ b
   .exact zr b (hp 0 j (by omega) hj (by omega))
def Y9{s w:ah}(hs:s.half≠0)(hw:w.half≠0)(hu:u.half≠0)(h1:0<s.cross u)(h2:0<u.cross w)(h3:0<s.cross w)(e:s.half=w.half):u.half=s.half:=by
 rcases od hs with k|k
 .rw[k] at e⊢
  have a:=ow.1 k;have b:=ow.1 e.symm;rw[ow];unfold ah.cross at*
  -- u is EO s and w
  have i1:(s.x*w.y-s.y*w.x)*u.y=(u.x*w.y-u.y*w.x)*s.y+(s.x*u.y-s.y*u.x)*w.y:=by grind
  have i2:(s.x*w.y-s.y*w.x)*u.x=(u.x*w.y-u.y*w.x)*s.x+(s.x*u.y-s.y*u.x)*w.x:=by grind
  have y0:0<=s.y:=by grind
  have y1:0<=w.y:=by grind
  have m1:=cG (dQ h2) y0;have m2:=cG (dQ h1) y1;have uy:0<=u.y:=(ij h3).1 (by grind);by_cases z:0<u.y
  .exact .inl z
  .right
   have z0:u.y=0:=by grind
   have i3:(u.x*w.y-u.y*w.x)*s.y+(s.x*u.y-s.y*u.x)*w.y=0:=by rw[<-i1,z0];grind
   have A0:(u.x*w.y-u.y*w.x)*s.y=0:=by generalize (u.x*w.y-u.y*w.x)*s.y=A at*;generalize (s.x*u.y-s.y*u.x)*w.y=B at*;grind
   have B0:(s.x*u.y-s.y*u.x)*w.y=0:=by grind
   have n1:s.y=0:=by
    rcases fJ.1 A0 with q|q
    .grind
    .exact q
   have n2:w.y=0:=by
    rcases fJ.1 B0 with q|q
    .grind
    .exact q
   rw[n1,n2] at h3;grind
 .rw[k] at e⊢
  have a:=vj.1 k;have b:=vj.1 e.symm;rw[vj];unfold ah.cross at*;have i1:(s.x*w.y-s.y*w.x)*u.y=(u.x*w.y-u.y*w.x)*s.y+(s.x*u.y-s.y*u.x)*w.y:=by grind
  have y0:0<= -s.y:=by grind
  have y1:0<= -w.y:=by grind
  have m1:=cG (dQ h2) y0;have m2:=cG (dQ h1) y1;have uy:0<= -u.y:=(ij h3).1 (by grind);by_cases z:u.y<0
  .exact .inl z
  .right
   have z0:u.y=0:=by grind
   have i3:(u.x*w.y-u.y*w.x)*s.y+(s.x*u.y-s.y*u.x)*w.y=0:=by rw[<-i1,z0];grind
   have m3:(u.x*w.y-u.y*w.x)* -s.y= -((u.x*w.y-u.y*w.x)*s.y):=by grind
   have m4:(s.x*u.y-s.y*u.x)* -w.y= -((s.x*u.y-s.y*u.x)*w.y):=by grind
   rw[m3] at m1;rw[m4] at m2;have A0:(u.x*w.y-u.y*w.x)*s.y=0:=by generalize (u.x*w.y-u.y*w.x)*s.y=A at*;generalize (s.x*u.y-s.y*u.x)*w.y=B at*;grind
   have B0:(s.x*u.y-s.y*u.x)*w.y=0:=by grind
   have n1:s.y=0:=by
    rcases fJ.1 A0 with q|q
    .grind
    .exact q
   have n2:w.y=0:=by
    rcases fJ.1 B0 with q|q
    .grind
    .exact q
   rw[n1,n2] at h3;grind
def Ts(nz: ∀d∈ds,d.half≠0){s w:ah}(hs:s∈ds)(hu:u∈ds)(hw:w∈ds)(hn:xU ds s w)(h1:0<s.cross u)(h2:0<u.cross w)(h3:0<s.cross w):False:=by
 have zs:=od (nz s hs);have zu:=od (nz u hu);have zw:=od (nz w hw);rcases hn with⟨b,no⟩|⟨n1,n2⟩
 .by_cases e:s.half=w.half
  .have e2:=Y9 (nz s hs) (nz w hw) (nz u hu) h1 h2 h3 e
   exact no u hu ⟨.inr ⟨e2.symm,h1⟩, .inr ⟨by omega,h2⟩⟩
  .have e1:s.half=1/\w.half=2:=by
    rcases b with b|⟨b,_⟩
    .omega
    .exact absurd b e
   rcases zu with k|k
   .exact no u hu ⟨.inr ⟨by omega,h1⟩, .inl (by omega)⟩
   .exact no u hu ⟨.inl (by omega), .inr ⟨by omega,h2⟩⟩
 .have a:=n1 u hu
  have b:=n2 u hu;have a1: ¬s.half<u.half:=fun k=>a (.inl k);have a2:s.half≠u.half:=fun k=>a (.inr ⟨k,h1⟩);have b1: ¬u.half<w.half:=fun k=>b (.inl k);have b2:u.half≠w.half:=fun k=>b (.inr ⟨k,h2⟩);omega
def RJ{w n:ah}(hu:u.half≠0)(hw:w.half≠0)(hn:n.half≠0)(e1:w.half=u.half)(e2:u.half=n.half)(h1:0<u.cross n)(h2: ¬0<u.cross w):0<w.cross n:=by
 by_cases k:0<w.cross u
 .have b1:d9 w u:= .inr ⟨e1,k⟩
  have b2:d9 u n:= .inr ⟨e2,h1⟩;rcases AV b1 b2 with q|⟨_,q⟩
  .omega
  .exact q
 .have hz:w.cross u=0:=by rw[wB] at k⊢;grind
  by_cases q:0<w.cross n
  .exact q
  .exfalso
   have b2:d9 u n:= .inr ⟨e2,h1⟩;by_cases q2:0<n.cross w
   .have b3:d9 n w:= .inr ⟨by omega,q2⟩
    rcases AV b2 b3 with z|⟨_,z⟩
    .omega
    .exact h2 z
   .have hz2:w.cross n=0:=by rw[wB] at q2;grind
    rcases od hw with hh|hh
    .have a:=ow.1 hh
     have b:=ow.1 (show u.half=1 by omega);have c:=ow.1 (show n.half=1 by omega);unfold ah.cross at*;have j1:w.x*(u.x*n.y-u.y*n.x)=0:=by grind
     have j2:w.y*(u.x*n.y-u.y*n.x)=0:=by grind
     rcases fJ.1 j1 with z|z
     .rcases fJ.1 j2 with z2|z2<;>grind
     .grind
    .have a:=vj.1 hh
     unfold ah.cross at*;have j1:w.x*(u.x*n.y-u.y*n.x)=0:=by grind
     have j2:w.y*(u.x*n.y-u.y*n.x)=0:=by grind
     rcases fJ.1 j1 with z|z
     .rcases fJ.1 j2 with z2|z2<;>grind
     .grind
def VW(nz: ∀d∈ds,d.half≠0){s w:ah}(hs:s∈ds)(hu:u∈ds)(hw:w∈ds)(hn:xU ds s w)(h1:0<s.cross u):0<s.cross w:=by
 have zs:=od (nz s hs);have zu:=od (nz u hu);have zw:=od (nz w hw);have hneg:=V7 (nz s hs);have hnz:(dh s).half≠0:=by omega
 have e1:u.cross (dh s)=s.cross u:=by rw[Lm,wB s u];grind
 have e2:w.cross (dh s)=s.cross w:=by rw[Lm,wB s w];grind
 rcases hn with⟨b,no⟩|⟨n1,n2⟩
 .by_cases e:s.half=w.half
  .rcases b with b|⟨_,b⟩
   .omega
   .exact b
  .have e3:s.half=1/\w.half=2:=by
    rcases b with b|⟨b,_⟩
    .omega
    .exact absurd b e
   have nu:=no u hu;rcases zu with k|k
   .exact absurd ⟨.inr ⟨by omega,h1⟩, .inl (by omega)⟩ nu
   .rw[<-e2]
    exact RJ (nz u hu) (nz w hw) hnz (by omega) (by omega) (by rw[e1];exact h1) fun q=>nu ⟨.inl (by omega), .inr ⟨by omega,q⟩⟩
 .have a:=n1 u hu
  have b:=n2 u hu;have a1: ¬s.half<u.half:=fun k=>a (.inl k);have a2:s.half≠u.half:=fun k=>a (.inr ⟨k,h1⟩);have b1: ¬u.half<w.half:=fun k=>b (.inl k);rw[<-e2];exact RJ (nz u hu) (nz w hw) hnz (by omega) (by omega) (by rw[e1];exact h1) fun q=>b (.inr ⟨by omega,q⟩)
def axX(s u w:aa)(h p:ah):s.dir.cross u.dir*w.value p=s.dir.cross u.dir*w.value h+w.dir.cross u.dir*(s.value p-s.value h)+s.dir.cross w.dir*(u.value p-u.value h):=by
 rw[jd,jd,jd,jd,jd,jd];unfold ah.cross aa.dir;grind
def aCN(hc:bC c): ∀d∈c.map (fun s=>s.l.dir),d.half≠0:=fun d hd=>by
 obtain⟨s,hs,rfl⟩:=aT.1 hd;exact Cb (hc.ok s hs)
def Ly(hc:bC c){w:bA}(hs:s∈c)(hw:w∈c)(hn:xU (c.map fun s=>s.l.dir) s.l.dir w.l.dir)(nh:s.v.nh=false):0<s.l.dir.cross w.l.dir/\w.l.value (s.l.at s.v.hi)=0:=by
 obtain⟨u,hu,z1,z2⟩:=aBr hc hs nh;have su:0<s.l.dir.cross u.l.dir:=by rw[wB,AZ];grind
 have nz:=aCN hc;have ms:=dT (f:=fun s:bA=>s.l.dir) hs;have mu:=dT (f:=fun s:bA=>s.l.dir) hu;have mw:=dT (f:=fun s:bA=>s.l.dir) hw;have sw:=VW nz ms mu mw hn su;refine⟨sw,?_⟩;obtain⟨p1,p2⟩:=hc.edge s hs;have hin:=(p2 _).1 (Iz p1 nh);have hs0:=lE (hc.ok s hs).ne s.v.hi;have h0:=hin w hw;by_cases q:w.l.value (s.l.at s.v.hi)=0
 .exact q
 .exfalso
  have wu:0<=w.l.dir.cross u.l.dir:=by
   by_cases k:0<u.l.dir.cross w.l.dir
   .exact(Ts nz ms mu mw hn su k sw).elim
   .rw[wB];grind
  obtain⟨t1,t2⟩:=yo hc hw;have e:=axX s.l u.l w.l (s.l.at s.v.hi) (w.l.at w.v.sample);rw[t2,z1,hs0] at e;have g1:=dd su (show 0<w.l.value (s.l.at s.v.hi) by grind);have g2:=cG wu (t1 s hs);have g3:=cG (dQ sw) (t1 u hu);grind
def kO(x:Bool×ao):DV:= .ag [.sl (x.2.map cO),eU (.leaf x.1)]
def aEM(l:List (Bool×ao)):cE 2 (l.map kO):=fun d hd=>by
 obtain⟨x,_,rfl⟩:=aT.1 hd;exact⟨J,J⟩
def Bm: ∀(t:Tr) (c:ao),(t.parts c).length<=t.size+1
 | .leaf _,_=>bW _
 | .node l x y,c=>by
  have h1:=Bm x (bE c l);have h2:=Bm y (bE c l.rev);rw[Tr.parts,aY,Tr.size];split<;>split<;>(try simp only[eY])<;>omega
def Vc{o:List (Bool×ao)}(hs:o.length<=1000000):PB GB prog 234 (fw [some (eU (.leaf b)),some (.sl (c.map cO)),none]) 2 281 (o.map kO) (fun w=> .v (.slice w.a w.n w.c)) ((o++Tr.parts (.leaf b) c).map kO):=by
 refine DL func234 J J ntmps234 J J (fun C=>?_);refine cl (fu:=⟨0⟩) J qd J<|jO 12 J<|gx J<|rf J J<|QU ((o++[(b,c)]).map kO) J (by rw[aL]<;>rfl) (aEM [(b,c)]) J<|?_;exact uE J J J J
def T2{x y:Tr}{o:List (Bool×ao)}(hl:LB l)(hlo:l.ok)(hc:dE c)(hn:c.length+(Tr.node l x y).depth<=100000)(hs:o.length+((Tr.node l x y).size+1)<=1000000)(ihx: ∀{c:ao} {o:List (Bool×ao)},dE c->c.length+x.depth<=100000->o.length+(x.size+1)<=1000000->PB GB prog 234 (fw [some (eU x),some (.sl (c.map cO)),none]) 2 281 (o.map kO) (fun w=> .v (.slice w.a w.n w.c)) ((o++Tr.parts x c).map kO))(ihy: ∀{c:ao} {o:List (Bool×ao)},dE c->c.length+y.depth<=100000->o.length+(y.size+1)<=1000000->PB GB prog 234 (fw [some (eU y),some (.sl (c.map cO)),none]) 2 281 (o.map kO) (fun w=> .v (.slice w.a w.n w.c)) ((o++Tr.parts y c).map kO)):PB GB prog 234 (fw [some (eU (.node l x y)),some (.sl (c.map cO)),none]) 2 281 (o.map kO) (fun w=> .v (.slice w.a w.n w.c)) ((o++Tr.parts (.node l x y) c).map kO):=by
 have hk1:=tw c l;have hk2:=tw c l.rev;have hd:(Tr.node l x y).depth=1+max x.depth y.depth:=J;have hz:(Tr.node l x y).size=1+x.size+y.size:=J;have hp:=Bm x (bE c l);refine DL func234 J J ntmps234 J J (fun C=>?_);refine cl (fu:=⟨0⟩) J ru J<|qc 12 J<|gx J<|cl J (IY hlo hc) J<|bb J J J (fun hc30=>?_) (fun hc30=>?_)
 .
  have hs2:(o++x.parts (bE c l)).length+(y.size+1)<=1000000:=by rw[aY];omega
  refine cq ((o++x.parts (bE c l)).map kO) J (ihx (pG hlo hc) (by omega) (by omega)) J J<|bb J J J (fun hc38=>?_) (fun hc38=>?_)
  .
   refine cq _ J (ihy (pG hlo.rev hc) (by omega) (by first|exact hs2|omega)) J J<|?_;exact uE J J J (by simp[Tr.parts,hc30,hc38])
  .
   exact uE J J J (by simp[Tr.parts,hc30,hc38])
 .
  refine bb J J J (fun hc38=>?_) (fun hc38=>?_)
  .
   refine cq _ J (ihy (pG hlo.rev hc) (by omega) (by first|exact hs2|omega)) J J<|?_;exact uE J J J (by simp[Tr.parts,hc30,hc38])
  .
   exact uE J J J (by simp[Tr.parts,hc30,hc38])
def GZ: ∀{t:Tr} {c:ao} {o:List (Bool×ao)},t.all LB->t.all aa.ok->dE c->c.length+t.depth<=100000->o.length+(t.size+1)<=1000000->PB GB prog 234 (fw [some (eU t),some (.sl (c.map cO)),none]) 2 281 (o.map kO) (fun w=> .v (.slice w.a w.n w.c)) ((o++Tr.parts t c).map kO)
 | .leaf _,_,_,_,_,_,_,hs=>Vc (by simp only[Tr.size] at hs;omega)
 | .node _ _ _,_,_,hb,ho,hc,hn,hs=>T2 hb.1 ho.1 hc hn hs (fun k1 k2 k3=>GZ hb.2.1 ho.2.1 k1 k2 k3) (fun k1 k2 k3=>GZ hb.2.2 ho.2.2 k1 k2 k3)
def ayp(hb:t.all LB)(ho:t.all aa.ok)(hd:t.depth<=100000)(hs:t.size<=900000):PB GB prog 234 (fw [some (eU t),some (.sl []),none]) 2 281 [] (fun w=> .v (.slice w.a w.n w.c)) ((t.parts []).map kO):=
 GZ (c:=[]) (o:=[]) hb ho dE.nil (by rw[eY];omega) (by rw[eY];omega)
def eC(c:ao):DV:= .sl (c.map cO)
def VO(l:List ao):cE 1 (l.map eC):=fun d hd=>by
 obtain⟨x,_,rfl⟩:=aT.1 hd;exact⟨J,J⟩
def BH(ps:List (Bool×ao)):List ao:=(ps.filter (·.1)).map (·.2)
def Qo{ps:List (Bool×ao)}(h:ps[k]? =some (b,e)):BH (ps.drop k)=(if b then [e] else [])++BH (ps.drop (k+1)):=by
 obtain⟨h1,h2⟩:=aR.1 h;rw[bX h1,h2];unfold BH
 cases b<;>simp
def aBq(hb:t.all LB)(ho:t.all aa.ok)(hd:t.depth<=100000)(hs:t.size<=900000):PF GB prog 165 [eU t] (.sl ((t.parts []).map kO)):=by
 refine fn func165 J J ntmps165 J J (fun C=>?_);refine WA _ J (ayp hb ho hd hs) J J<|gp 4 J<|rz J J
def Wt(hb:t.all LB)(ho:t.all aa.ok)(hd:t.depth<=100000)(hs:t.size<=900000):PF GB prog 93 [eU t] (.sl ((fh t).map eC)):=by
 obtain⟨ps,hps⟩: ∃ps,ps=t.parts []:=⟨_,rfl⟩;have hpl:=Bm t [];rw[<-hps] at hpl;have hml:(ps.map kO).length=ps.length:=aX ..;refine fn func93 J J ntmps93 J J (fun C=>?_);refine cl (fu:=⟨0⟩) J (aBq hb ho hd hs) J<|aj 7 (.d (.sl (ps.map kO))) J (by rw[hps])<|gx (fu:=⟨1⟩) J<|aj 8 (.d (vI (ps.length:Nat))) J (by rw[hml]<;>rfl)<|gx J<|nr 3 3 127 1 J J J<|lp (X:=List ao×Nat) (fun⟨acc,k⟩=>[(9, .d (vI (k:Nat))),(3, .rw 3)]) (fun⟨acc,k⟩=>[(3,some (.b 127 1 (acc.map eC) true))]) (fun⟨acc,k⟩=>acc++BH (ps.drop k)=fh t/\k<=ps.length) (fun⟨acc,k⟩=>ps.length-k) ⟨[],0⟩ J ⟨by rw[hps];rfl,aM _⟩ (fun _=>J) (fun⟨acc,k⟩ hk=>?_)
 try dsimp only at hk⊢
 obtain⟨h1,h2⟩:=hk;have hal:acc.length<=ps.length:=by
  have q1:=congrArg List.length h1;have q2:(fh t).length<=ps.length:=by unfold fh;rw[aX,hps];exact pJ ..
  rw[aY] at q1;omega
 have ham:(acc.map eC).length=acc.length:=aX ..;refine br J J J (fun hc10=>?_) (fun hc10=>?_)
 .
  obtain⟨⟨b,e⟩,hx⟩: ∃x,ps[k]? =some x:=⟨_,aZ (by omega)⟩;refine ix _ J (cg hx) J<|bb J J J (fun hc17=>?_) (fun hc17=>?_)
  .
   refine rf J J<|ap ((acc++[e]).map eC) J (by rw[aL]<;>rfl) (VO [e]) J<|d6 22 3 J<|at_ ⟨acc++[e],k+1⟩ (by dsimp only;exact⟨⟨by rw[<-h1,Qo hx,if_pos hc17];simp,by omega⟩,(by omega)⟩)
  .
   exact at_ ⟨acc,k+1⟩ (by dsimp only;exact⟨⟨by rw[<-h1,Qo hx,if_neg (by simp at hc17;rw[hc17];decide)];rfl,by omega⟩,(by omega)⟩)
 .
  obtain rfl:k=ps.length:=by omega
  obtain rfl:acc=fh t:=by rw[fL] at h1;simpa[BH] using h1
  refine gp 3 J<|rz J J
theorem BQ.samp(v:ar)(i j:Nat)[h1:BQ v.lo i][h2:BQ v.hi j]:BQ v.sample (i+j+1+2):=by
 have b1:BQ (1:Rat) 1:=⟨by decide,by decide⟩;unfold ar.sample;split
 .exact BQ.z1.mono (by omega)
 .split
  .exact(inferInstance:BQ (v.hi-1) (j+1+1)).mono (by omega)
  .split
   .exact(inferInstance:BQ (v.lo+1) (i+1+1)).mono (by omega)
   .exact inferInstance
theorem azV(h:OK s):aD (s.l.at s.v.sample) 3500:=by
 haveI:=h.lb;haveI:=h.v.lo;haveI:=h.v.hi;have h0:BQ s.v.sample _:=BQ.samp s.v 1200 1200;have:= @aD.at s.l s.v.sample _ _ h0;exact⟨this.x.mono (by decide),this.y.mono (by decide)⟩
def Uc(l m:aa):l.dir.cross m.dir=(crossI l m:Rat):=by
 unfold ah.cross aa.dir crossI;rw[iK,cZ,cZ];grind
def JH(h:0<Int.sign (l.dir.cross m.dir).num):crossI l m≠0:=fun e=>by
 rw[nj,Uc,e] at h;exact absurd h (by decide)
def Qs(h:crossI l m≠0):l.nor.cross m.nor≠0:=fun e=>by
 have:l.nor.cross m.nor=(crossI l m:Rat):=by
  unfold ah.cross aa.nor crossI;rw[iK,cZ,cZ];grind
 rw[this] at e;exact h (cY.1 e)
def R6(h:crossI l m≠0):cP l m=⟨((l.b:Rat)*(m.c:Rat)-(l.c:Rat)*(m.b:Rat))/l.nor.cross m.nor,((l.c:Rat)*(m.a:Rat)-(l.a:Rat)*(m.c:Rat))/l.nor.cross m.nor⟩:=by
 have e1:(meetX l m:Rat)=(l.b:Rat)*(m.c:Rat)-(l.c:Rat)*(m.b:Rat):=by unfold meetX;rw[iK,cZ,cZ];grind
 have e2:(meetY l m:Rat)=(l.c:Rat)*(m.a:Rat)-(l.a:Rat)*(m.c:Rat):=by unfold meetY;rw[iK,cZ,cZ];grind
 have e3:(crossI l m:Rat)=l.nor.cross m.nor:=by unfold ah.cross aa.nor crossI;rw[iK,cZ,cZ];grind
 unfold cP;rw[if_neg h,e1,e2,e3]
def Dy: ∀{t:Tr} {c:ao} {x:Bool×ao},t.all LB->t.all aa.ok->dE c->x∈t.parts c->dE x.2/\x.2.length<=c.length+t.depth
 | .leaf b,c,x,_,_,hc,h=>by
  rw[Tr.parts,aU] at h;subst h;exact⟨hc,oU _ _⟩
 | .node l u v,c,x,hb,ho,hc,h=>by
  have hl:=hb.1;have hd:(Tr.node l u v).depth=1+max u.depth v.depth:=J;rw[Tr.parts] at h;rcases bJ.1 h with h|h
  .split at h
   .obtain⟨k1,k2⟩:=Dy hb.2.1 ho.2.1 (pG ho.1 hc) h
    have:=tw c l;exact⟨k1,by omega⟩
   .cases h
  .split at h
   .obtain⟨k1,k2⟩:=Dy hb.2.2 ho.2.2 (pG ho.1.rev hc) h
    have:=tw c l.rev;exact⟨k1,by omega⟩
   .cases h
def O2(t:Tr):(fh t).length<=t.size+1:=by
 unfold fh;rw[aX];exact cN (pJ ..) (Bm t [])
def Ig(hb:t.all LB)(ho:t.all aa.ok): ∀c∈fh t,c.length<=t.depth:=fun c hc=>by
 have:=(Dy hb ho dE.nil (t8.1 hc)).2;simpa using this
def W3(l:List ah):cE 6 (l.map eZ):=fun d hd=>by
 obtain⟨x,_,rfl⟩:=aT.1 hd;exact⟨J,J⟩
def Dh{vs:List α}{f:α->Bool}{v:α}(h:vs[k]? =some v):(vs.drop k).all f=(f v&&(vs.drop (k+1)).all f):=by
 obtain⟨h1,h2⟩:=aR.1 h;rw[bX h1,h2,sL]
def Tq[hl:LB l][hm:LB m](hz:crossI l m≠0):PF GB prog 266 [ck l,ck m] (.tp [eZ (cP l m),vB true]):=by
 haveI:=aD.nor l;haveI:=aD.nor m;refine fn func266 J J ntmps266 J J (fun C=>?_);refine cl J (vu (l:=l)) J<|cl J (vu (l:=m)) J<|cl J (CJ (p:=l.nor) (q:=m.nor) (i:=97) (j:=97)) J<|cl (fu:=⟨0⟩) J (z7 (q:=l.nor.cross m.nor)) J<|aj 15 (.d (vB false)) J (by rw[decide_eq_false (Qs hz)])<|qc 15 J<|gx J<|cl J (oc (p:=(l.b:Rat)) (q:=(m.c:Rat)) (i:=97) (j:=97)) J<|cl J (oc (p:=(l.c:Rat)) (q:=(m.b:Rat)) (i:=97) (j:=97)) J<|cl J (py (p:=(l.b:Rat)*(m.c:Rat)) (q:=(l.c:Rat)*(m.b:Rat))) J<|cl J (Bu (p:=(l.b:Rat)*(m.c:Rat)-(l.c:Rat)*(m.b:Rat)) (q:=l.nor.cross m.nor)) J<|cl J (oc (p:=(l.c:Rat)) (q:=(m.a:Rat)) (i:=97) (j:=97)) J<|cl J (oc (p:=(l.a:Rat)) (q:=(m.c:Rat)) (i:=97) (j:=97)) J<|cl J (py (p:=(l.c:Rat)*(m.a:Rat)) (q:=(l.a:Rat)*(m.c:Rat))) J<|cl J (Bu (p:=(l.c:Rat)*(m.a:Rat)-(l.a:Rat)*(m.c:Rat)) (q:=l.nor.cross m.nor)) J<|rz J (by rw[R6 hz];rfl)
def TJ(hb: ∀s∈c,LB s.l)(hn:c.length<=100000):PF GB prog 206 [eC c] (.sl ((gh (c.map (·.l))).map eZ)):=by
 have hml:(c.map cO).length=c.length:=aX ..;obtain⟨L,hL⟩: ∃L,L=c.map (·.l):=⟨_,rfl⟩;have hLl:L.length=c.length:=by rw[hL,aX]
 refine fn (fu:=⟨15⟩) func206 J J ntmps206 J J (fun C=>?_);refine aj 10 (.d (vI (c.length:Nat))) J (by rw[hml]<;>rfl)<|gx J<|nr 3 3 160 6 J J J<|lp (X:=List ah×Nat) (fun⟨acc,k⟩=>[(11, .d (vI (k:Nat))),(3, .rw 3)]) (fun⟨acc,k⟩=>[(3,some (.b 160 6 (acc.map eZ) true))]) (fun⟨acc,k⟩=>acc=(List.range k).flatMap (ql L)/\k<=c.length) (fun⟨acc,k⟩=>c.length-k) ⟨[],0⟩ J ⟨J,aM _⟩ (fun _=>J) (fun⟨acc,k⟩ hk=>?_)
 try dsimp only at hk⊢
 obtain⟨h1,h2⟩:=hk;have hal:=CN L k;rw[<-h1] at hal;have ham:(acc.map eZ).length=acc.length:=aX ..;refine br J J J (fun hc12=>?_) (fun hc12=>?_)
 .
  obtain⟨s,hx⟩: ∃u,c[k]? =some u:=⟨_,aZ (by omega)⟩;obtain⟨u,hw⟩: ∃w,c[(k+1)%c.length]? =some w:=⟨_,aZ (dK _ (by omega))⟩;haveI:=hb s (aK hx);haveI:=hb u (aK hw);have hxl:L[k]? =some s.l:=by rw[hL,cR,hx];rfl
  have hwl:L[(k+1)%L.length]? =some u.l:=by rw[hLl,hL,cR,hw];rfl
  refine ix (fu:=⟨13⟩) _ J (cg hx) J<|aj 20 (.d (vI (c.length:Nat))) J (by rw[hml]<;>rfl)<|gx (fu:=⟨1⟩) J<|aj 21 (.d (vI (((k+1)%c.length:Nat):Int))) J J<|gx J<|ix _ J (cg hw) J<|cl J (wI (l:=s.l)) J<|cl J (wI (l:=u.l)) J<|cl J (CJ (p:=s.l.dir) (q:=u.l.dir) (i:=97) (j:=97)) J<|cl J (mi (q:=s.l.dir.cross u.l.dir)) J<|br J J J (fun hc32=>?_) (fun hc32=>?_)
  .
   refine cl J (Tq (l:=s.l) (m:=u.l) (JH hc32)) J<|rf J J<|ap ((acc++[cP s.l u.l]).map eZ) J (by rw[aL]<;>rfl) (W3 [cP s.l u.l]) J<|d6 44 3 J<|at_ ⟨acc++[cP s.l u.l],k+1⟩ (by dsimp only;exact⟨⟨by rw[Bi,rC hxl hwl,if_pos hc32,<-h1],by omega⟩,(by omega)⟩)
  .
   exact at_ ⟨acc,k+1⟩ (by dsimp only;exact⟨⟨by rw[Bi,rC hxl hwl,if_neg hc32,<-h1,fW],by omega⟩,(by omega)⟩)
 .
  have hS:gh L=acc:=by unfold gh;rw[hLl,h1,show k=c.length by omega]
  refine gp 3 J<|rz J (by rw[<-hL,hS];rfl)
def OX(h:crossI l m≠0)(h1:l.value p=0)(h2:m.value p=0):p=cP l m:=by
 rw[R6 h];have hd:=Qs h;rw[jd] at h1 h2;obtain⟨x,y⟩:=p;have e1:x*l.nor.cross m.nor=(l.b:Rat)*(m.c:Rat)-(l.c:Rat)*(m.b:Rat):=by unfold ah.cross aa.nor;grind
 have e2:y*l.nor.cross m.nor=(l.c:Rat)*(m.a:Rat)-(l.a:Rat)*(m.c:Rat):=by unfold ah.cross aa.nor;grind
 generalize l.nor.cross m.nor=d at*;simp only[ah.mk.injEq];constructor<;>grind
def ON(l:aa)(t:Rat):l.at t=cF (l.at 0) l.dir t:=by rw[<-EU];congr 1;grind
section
variable {F:Fence}{md:Region.Mode}
def QP: ∀{k:Nat} {listed:Array Bool} {a:Act} {w:World},wpAnyIn F n P md ops Q k listed a w->wpAnyIn F n P md ops Q (k+1) listed a w
 |0,_,_,_,h=>⟨fun _=>h.2,fun i hi=>by rw[h.1] at hi;cases hi⟩
 |_+1,_,_,_,h=>⟨h.1,fun i hi=>wpOpIn_mono (fun _ _ k=>QP k) (h.2 i hi)⟩
def RH{k:Nat}{listed:Array Bool}{a:Act}{w:World}(h:wpAnyIn F n P md ops Q k listed a w): ∀j,wpAnyIn F n P md ops Q (j+k) listed a w
 |0=>by rw[eJ];exact h
 |j+1=>by rw[show j+1+k=j+k+1 by omega];exact QP (RH h j)
def Bf.lt{l:List Oper}(he:m5 0 l=true)(h:Bf l i j):j<i:=by
 induction h with
 |b ho hm hb=>have:=qB he _ _ ho _ hm hb;omega
 |s ho hm hb _ ih=>have:=qB he _ _ ho _ hm hb;omega
def Bf.inv{l:List Oper}(h:Bf l i j): ∃o e,l[i]? =some o/\e∈o.after/\Region.binds .any e=true/\(e.on=j\/Bf l e.on j):=by
 induction h with
 |b ho hm hb=>exact⟨_,_,ho,hm,hb, .inl J⟩
 |s ho hm hb hh _=>exact⟨_,_,ho,hm,hb, .inr hh⟩
def Nt(he:m5 0 ops.toList=true): ∀(r pre:List Oper),ops.toList=pre++r->(∀i,pre.length<=i->i<ops.size-> ∀j,j<i->Bf ops.toList i j)-> ∀(listed:Array Bool) (a:Act) (w:World),(∀j d,listed.getD j d=if j<pre.length then true else if j<ops.size then false else d)->wpListIn F n P ops Q r a w->wpAnyIn F n P .any ops Q r.length listed a w
 |[],pre,hops,_,listed,a,w,hl,h=>by
  refine⟨?_,h⟩;rw[List.eq_nil_iff_forall_not_mem];intro i hi;obtain⟨h1,o,h2,_⟩:=mem_ready.1 hi;have h3:=(fY.1 h2).1;have h4:pre.length=ops.size:=by rw[<-kM,hops];simp
  rw[hl,if_pos (by omega)] at h1
  cases h1
 |o::r,pre,hops,hc,listed,a,w,hl,h=>by
  have hsz:ops.size=pre.length+(r.length+1):=by rw[<-kM,hops];simp
  have hp:ops.toList[pre.length]? =some o:=by rw[hops];simp
  have hp':ops[pre.length]? =some o:=by simpa using hp
  have only: ∀i,i∈Region.ready .any ops listed↔i=pre.length:=fun i=>by
   rw[mem_ready];constructor
   .rintro ⟨h1,o',h2,h3⟩
    have h4:=(fY.1 h2).1;rw[hl] at h1;split at h1
    .cases h1
    .rename_i h5
     apply Classical.byContradiction;intro h6;have hb:=hc i (by omega) h4 pre.length (by omega);obtain⟨o2,e,ho,hm,hb,hh⟩:=hb.inv;have e':o'=o2:=Option.some.inj (h2.symm.trans (by simpa using ho));subst e';have h7:=h3 _ hm hb;have h9:=qB he _ _ ho _ hm hb;have h8:pre.length<=e.on:=by
      rcases hh with hh|hh
      .omega
      .have:=hh.lt he;omega
     rw[hl,if_neg (by omega),if_pos (by omega)] at h7
     cases h7
   .rintro rfl
    refine⟨by rw[hl,if_neg (by omega),if_pos (by omega)],o,hp',fun e hm hb=>?_⟩;have:=qB he _ _ hp _ hm hb;rw[hl,if_pos (by omega)]
  refine⟨fun hn=>?_,fun i hi=>?_⟩
  .have:=(only pre.length).2 J
   rw[hn] at this;cases this
  .obtain rfl:=(only i).1 hi
   have ih:=Nt he r (pre++[o]) (by rw[hops];simp) (fun i h1 h2=>hc i (by simp at h1;omega) h2) (listed.setIfInBounds pre.length true);have hl': ∀j d,(listed.setIfInBounds pre.length true).getD j d=if j<(pre++[o]).length then true else if j<ops.size then false else d:=fun j d=>by
    have hls:pre.length<listed.size:=by
     apply Classical.byContradiction;intro hq;have h1:=hl pre.length true;rw[if_neg (by omega),if_pos (by omega),cJ,oL (by omega)] at h1
     cases h1
    have h1:=hl j d;rw[cJ] at h1⊢;rw[dS];by_cases hj:pre.length=j
    .subst hj;rw[if_pos J,if_pos hls,if_pos (by simp)];rfl
    .rw[if_neg hj,h1]
     simp only[aY,bZ,eY];by_cases h2:j<pre.length
     .rw[if_pos h2,if_pos (by omega)]
     .rw[if_neg h2]
      by_cases h3:j<ops.size
      .rw[if_pos h3,if_neg (by omega)];
      .rw[if_neg h3,if_neg (by omega)]
   unfold wpOpIn;rw[hp'];simp only[wpListIn] at h⊢;split
   .rename_i hw;rw[if_pos hw] at h
    exact Oper.wpIn_mono (fun a w k=>ih a w hl' k) h
   .rename_i hw;rw[if_neg hw] at h
    exact⟨h.1,ih _ _ hl' h.2⟩
def Es(F:Fence)(n:Nat)(P:Program)(ops:Array Oper)(r:List Oper)(Q:Exit->Act->World->Prop):Exit->Act->World->Prop
 | .normal=>wpListIn F n P ops Q r
 |e=>Q e
def WE{K:Act->World->Prop}(h:o.wpIn F n P a w K (Es F n P ops r Q)):o.wpIn F n P a w K Q:=by
 refine⟨h.1,?_⟩;have:=h.2
 cases hr:(o.semAt F.round a.eval).run P w with
 |ok x w'=>
  rw[hr] at this
  cases x with
  |enter f args=>exact⟨this.1,CallsIn.mono this.2 fun e w'' he=>by cases e<;>exact he⟩
  |round l f t x y=>exact⟨this.1,RoundIn.mono this.2 fun e w'' he=>by cases e<;>exact he⟩
  |_=>exact this
 |halt x w'=>
  rw[hr] at this
  cases x<;>exact this
def aFB(hops:ops.toList=pre++r)(hg: ∀o∈pre,o.guard=none)(he:m5 0 ops.toList=true)(hc: ∀i,pre.length<=i->i<ops.size-> ∀j,j<i->Bf ops.toList i j):
  ∀(fuel:Nat) (L listed:Array Bool) (a:Act) (w:World),L.size=pre.length->(∀j d,listed.getD j d=if j<pre.length then L.getD j d else if j<ops.size then false else d)->(∀i o,ops.toList[i]? =some o->listed.getD i false=true-> ∀e∈o.after,Region.binds .any e=true->listed.getD e.on false=true)->
   wpAnyIn F n P .any pre.toArray (Es F n P ops r Q) fuel L a w->wpAnyIn F n P .any ops Q (fuel+r.length) listed a w:=by
 have hsz:ops.size=pre.length+r.length:=by rw[<-kM,hops];simp
 have hget: ∀i,i<pre.length->ops[i]? =pre.toArray[i]? :=fun i hi=>by rw[<-pX,hops,jS hi];simp
 -- all of the first part is done
 have fin: ∀(L listed:Array Bool) (a:Act) (w:World),L.size=pre.length->(∀j d,listed.getD j d=if j<pre.length then L.getD j d else if j<ops.size then false else d)->Region.ready .any pre.toArray L=[]->wpListIn F n P ops Q r a w->wpAnyIn F n P .any ops Q r.length listed a w:=by
  intro L listed a w hL hl hr h;have all: ∀i,i<pre.length->L.getD i true=true:=by
   intro i
   induction i using Nat.strongRecOn with
   |ind i ih=>
    intro hi
    cases hq:L.getD i true with
    |true=>rfl
    |false=>
     have:i∈Region.ready .any pre.toArray L:=mem_ready.2 ⟨hq,pre[i],by simp[hi],fun e hm hb=>by
      have hlt:=qB he i pre[i] (by rw[hops,jS hi];simp[hi]) e hm hb;have:=ih e.on (by omega) (by omega);rw[cJ,gU (by omega)] at this⊢;simpa using this⟩
     rw[hr] at this;cases this
  refine Nt he r pre hops hc listed a w (fun j d=>?_) h;rw[hl];by_cases hj:j<pre.length
  .have:=all j hj
   rw[if_pos hj,if_pos hj];rw[cJ,gU (by omega)] at this⊢;simpa using this
  .rw[if_neg hj,if_neg hj]
 intro fuel
 induction fuel with
 |zero=>
  intro L listed a w hL hl hcl h;rw[eJ];exact fin L listed a w hL hl h.1 h.2
 |succ fuel ih=>
  intro L listed a w hL hl hcl h;by_cases hr:Region.ready .any pre.toArray L=[]
  .exact RH (fin L listed a w hL hl hr (h.1 hr)) (fuel+1)
  .have sub: ∀i,i∈Region.ready .any pre.toArray L->i∈Region.ready .any ops listed:=fun i hi=>by
    obtain⟨h1,o,h2,h3⟩:=mem_ready.1 hi;have hi':i<pre.length:=by have:=(fY.1 h2).1;simpa using this
    refine mem_ready.2 ⟨by rw[hl,if_pos hi'];exact h1,o,by rw[hget i hi'];exact h2,fun e hm hb=>?_⟩;have hlt:=qB he i o (by rw[hops,jS hi'];simpa using h2) e hm hb;rw[hl,if_pos (by omega)];exact h3 e hm hb
   have sup: ∀i,i∈Region.ready .any ops listed->i∈Region.ready .any pre.toArray L:=fun i hi=>by
    obtain⟨h1,o,h2,h3⟩:=mem_ready.1 hi;have h4:=(fY.1 h2).1;by_cases hi':i<pre.length
    .rw[hl,if_pos hi'] at h1
     refine mem_ready.2 ⟨h1,o,by rw[<-hget i hi'];exact h2,fun e hm hb=>?_⟩;have hlt:=qB he i o (by simpa using h2) e hm hb;have:=h3 e hm hb;rw[hl,if_pos (by omega)] at this;exact this
    .exfalso
     obtain⟨j,hj⟩:=List.exists_mem_of_ne_nil _ hr;obtain⟨g1,o2,g2,_⟩:=mem_ready.1 hj;have hj':j<pre.length:=by have:=(fY.1 g2).1;simpa using this
     have clo: ∀i j,Bf ops.toList i j->listed.getD i false=true->listed.getD j false=true:=fun i j hb=>by
      induction hb with
      |b ho hm hb=>intro hi;exact hcl _ _ ho hi _ hm hb
      |s ho hm hb _ ih=>intro hi;exact ih (hcl _ _ ho hi _ hm hb)
     have hjf:listed.getD j false=false:=by
      rw[hl,if_pos hj'];rw[cJ,gU (by omega)] at g1⊢;simpa using g1
     have:listed.getD j false=true:=by
      obtain⟨o2,e,ho,hm,hb,hh⟩:=(hc i (by omega) h4 j (by omega)).inv;have e':o=o2:=Option.some.inj (h2.symm.trans (by simpa using ho));subst e';rcases hh with hh|hh
      .rw[<-hh];exact h3 _ hm hb
      .exact clo _ _ hh (h3 _ hm hb)
     rw[hjf] at this;cases this
   rw[show fuel+1+r.length=(fuel+r.length)+1 by omega];refine⟨fun hn=>?_,fun i hi=>?_⟩
   .obtain⟨j,hj⟩:=List.exists_mem_of_ne_nil _ hr
    have:=sub j hj;rw[hn] at this;cases this
   .have hi0:=sup i hi
    have hk:=h.2 i hi0;obtain⟨h1,o,h2,h3⟩:=mem_ready.1 hi0;have hi':i<pre.length:=by have:=(fY.1 h2).1;simpa using this
    have hgo:o.guard=none:=hg o (by
     have h2':pre[i]? =some o:=by simpa using h2
     exact aK h2')
    have step: ∀a w,wpAnyIn F n P .any pre.toArray (Es F n P ops r Q) fuel (L.setIfInBounds i true) a w->wpAnyIn F n P .any ops Q (fuel+r.length) (listed.setIfInBounds i true) a w:=by
     intro a w hh;have hls:i<listed.size:=by
      apply Classical.byContradiction;intro hq;have q:=hl i true;have q':=hl i false;rw[if_pos hi'] at q q';rw[cJ,oL (by omega)] at q q';rw[cJ,gU (by omega)] at q q';simp only[Option.getD_none,lU] at q q';rw[<-q] at q';cases q'
     have hl': ∀j d,(listed.setIfInBounds i true).getD j d=if j<pre.length then(L.setIfInBounds i true).getD j d else if j<ops.size then false else d:=fun j d=>by
      have q:=hl j d;rw[cJ] at q⊢;rw[cJ] at q⊢;rw[dS,dS];by_cases hj:i=j
      .subst hj;rw[if_pos J,if_pos J,if_pos hls,if_pos hi',if_pos (by omega)]
      .rw[if_neg hj,if_neg hj];exact q
     refine ih _ _ a w (by simp[hL]) hl' (fun i2 o2 g1 g2 e hm hb=>?_) hh;have g3:i2=i\/listed.getD i2 false=true:=by
      rw[cJ,dS] at g2;by_cases hj:i=i2
      .exact .inl hj.symm
      .rw[if_neg hj] at g2;rw[cJ];exact .inr g2
     have g4:listed.getD e.on false=true:=by
      rcases g3 with rfl|g3
      .have e':o=o2:=Option.some.inj (((hget i2 hi').trans h2).symm.trans (by simpa using g1))
       subst e';have hlt:=qB he i2 o g1 e hm hb;rw[hl,if_pos (by omega)];exact h3 e hm hb
      .exact hcl i2 o2 g1 g3 e hm hb
     rw[cJ,dS];by_cases hj:i=e.on
     .rw[if_pos hj];rw[if_pos hls];rfl
     .rw[if_neg hj];rw[cJ] at g4;exact g4
    unfold wpOpIn at hk⊢;rw[hget i hi',h2];rw[h2] at hk;have hw: ∀y,Region.wanted o y=true:=fun y=>by unfold Region.wanted;rw[hgo]
    simp only[hw,if_true] at hk⊢;exact WE (Oper.wpIn_mono step hk)
end
section
variable {own:aI}{us:List Rc}{id:Nat}
def Dx(x:Nat):Nat->Bool
 |0=>true
 |i+1=>x.testBit i&&Dx x i
def No{x:Nat}: ∀{i:Nat},Dx x i=true-> ∀j,j<i->x.testBit j=true
 |i+1,h,j,hj=>by
  simp only[Dx,bK] at h;by_cases e:j=i
  .subst e;exact h.1
  .exact No h.2 j (by omega)
def zp:Nat->List Nat->Bool
 |_,[]=>true
 |i,x::t=>Dx x i&&zp (i+1) t
def O8: ∀{l:List Nat} {k:Nat},zp k l=true-> ∀i x,l[i]? =some x-> ∀j,j<k+i->x.testBit j=true
 |y::t,k,h,0,x,hx,j,hj=>by
  simp only[zp,bK] at h
  cases hx
  exact No h.1 j (by omega)
 |y::t,k,h,i+1,x,hx,j,hj=>by
  simp only[zp,bK] at h;exact O8 h.2 i x (by simpa using hx) j (by omega)
def NZ: ∀(r:List Oper) (acc:List Nat),(oF r acc).length=acc.length+r.length
 |[],acc=>by simp[oF]
 |o::r,acc=>by simp only[oF];rw[NZ];simp;omega
def F3(m:Nat)(pre all:List Oper)(us:List Rc)(fr0:aC)(own0:aI):Bool:=
 (pre.all (fun o=>o.guard.isNone)&&tH (oF pre []) [] us)&&((m5 0 all&&zp m ((oF all []).drop m))&&Cq us fr0 own0)
def Ym(hm:P.follows .mixedOrders=true)(h:F3 us.length (ops.toList.take us.length) ops.toList us fr0 own0=true)(k:av P GB C n Q0 fr own (.ops ops r K)):av P GB C n Q0 fr own (.dr id ops fr0 own0 us r K):=by
 intro D;obtain⟨pre,hp,hl⟩:=D.pre;have ht:ops.toList.take us.length=pre:=by rw[hp,<-hl];simp
 rw[ht] at h;simp only[F3,bK] at h;obtain⟨⟨h1,h2⟩,⟨h3,h4⟩,h5⟩:=h;have hg: ∀o∈pre,o.guard=none:=fun o ho=>by simpa using dJ.1 h1 o ho
 have hgt: ∀i,i<pre.length->ops[i]? =pre.toArray[i]? :=fun i hi=>by rw[<-pX,hp,jS hi];simp
 have hc: ∀i,pre.length<=i->i<ops.size-> ∀j,j<i->Bf ops.toList i j:=fun i g1 g2 j g3=>by
  refine F2 ops.toList [] [] J J (fun i j h=>by simp at h) i j ?_;have hlen:=NZ ops.toList [];have hi:i<(oF ops.toList []).length:=by rw[hlen];simpa using g2
  rw[aV,aZ hi];refine O8 h4 (i-us.length) _ ?_ j (by omega);rw[mK,show us.length+(i-us.length)=i by omega];exact aZ hi
 have he':m5 0 pre=true:=by
  have: ∀(l l':List Oper) (k:Nat),m5 k (l++l')=true->m5 k l=true:=by
   intro l l'
   induction l with
   |nil=>intros;rfl
   |cons o t ih=>intro k h;simp only[gN,m5,bK] at h⊢;exact⟨h.1,ih _ h.2⟩
  exact this pre r 0 (by rw[<-hp];exact h3)
 have D':ju P GB C n pre.toArray us (aO fr0,bt own0):=by
  refine⟨by simpa using hl.symm,fun i u o hu ho=>?_,by simpa using h2,by simpa using he',Pc h5⟩;have hi:i<pre.length:=by have:=(fY.1 ho).1;simpa using this
  obtain⟨d1,d2⟩:=D.snd i u o hu (by rw[hgt i hi];exact ho);refine⟨d1,fun Q tl tb K s1 s2 hf hk=>?_⟩;refine(d2 Q tl tb K s1 s2 hf hk).imp fun a w q=>?_;have hgo:o.guard=none:=hg o (aK (by simpa using ho));have hw: ∀y,Region.wanted o y=true:=fun y=>by unfold Region.wanted;rw[hgo]
  unfold wO at q⊢;simp only[hw,if_true] at q⊢;exact q
 have e:cv (dx (Array.replicate pre.length false)) 0 (aO fr0,bt own0) us=(aO fr0,bt own0):=by
  have: ∀(l:List Rc) (k:Nat) (s:ST),cv (dx (Array.replicate pre.length false)) k s l=s:=fun l=>by
   induction l with
   |nil=>intro k s;rfl
   |cons y l ih=>
    intro k s;simp only[cv];rw[ih];rw[CZ];rfl
  exact this us 0 _
 have hw:=D'.walk (Q:=Es (FW C.rd) 0 P ops r (cQ C.rd P Q0 K)) (by rw[D.st];exact k) pre.toArray.size (Array.replicate pre.length false) (by simp) (fun i o _ hi=>by rw[CZ] at hi;cases hi) (by unfold un;exact cN (pJ _ _) (by simp));rw[e] at hw;refine hw.drew.imp fun a w q=>wpIn_region_any hm ?_;have hsz:ops.size=pre.toArray.size+r.length:=by rw[<-kM,hp];simp
 rw[show wpAnyIn (FW C.rd) 0 P .any ops (cQ C.rd P Q0 K) ops.size=wpAnyIn (FW C.rd) 0 P .any ops (cQ C.rd P Q0 K) (pre.toArray.size+r.length) by rw[hsz]];refine aFB hp hg h3 hc _ _ _ _ _ (by simp) (fun j d=>?_) (fun i o _ hi=>?_) q
 .have hs2:ops.size=pre.length+r.length:=by simpa using hsz
  simp only[cJ,qT];by_cases g1:j<pre.length
  .rw[if_pos (by omega),if_pos g1,if_pos g1]
  .by_cases g2:j<ops.size
   .rw[if_pos g2,if_neg g1,if_pos g2];rfl
   .rw[if_neg g2,if_neg g1,if_neg g2];rfl
 .simp only[cJ,qT] at hi
  split at hi<;>cases hi
end
section
variable {own:aI}{us:List Rc}{id:Nat}
def drT[fu:Fu](h:F3 us.length (ops.toList.take us.length) ops.toList us fr0 own0=true)(hgo:go tt n fu.n [] fr own (.ops ops r K)=⟨vc,fr',own',cf'⟩)(k:av prog GB C n Q0 fr' own' cf')
  (hv:autoParam (ak vc) cL._auto_1):av prog GB C n Q0 fr own (.dr id ops fr0 own0 us r K):=
 Ym follows h (fB hgo hv k)
end
def HA(o:Obj):Prop:= ∀cs ty z,o≠ .cells cs ty z
section
variable {own:List aA}
def bF.ctx(h:bF C own G w)(h1:C'.w0=C.w0)(h2:C'.G0=C.G0)(h3:C'.mb=C.mb)(h4: ∀p∈C'.ex,p∈C.ex):bF C' own G w:=by
 obtain⟨a1,a2,a3,a4,a5,a6,a7,a8,a9,a10,a11,a12⟩:=h;exact⟨by rw[h1];exact a1,by rw[h1];exact a2,by rw[h1];exact a3,by rw[h1];exact a4,by rw[h1,h3];exact a5,a6,by rw[h2];exact a7,by rw[h1,h2];exact a8,by rw[h1,h3];exact a9,a10,by rw[h1];exact a11,fun p hp=>a12 p (h4 p hp)⟩
def bF.addx(h:bF C own G w){o:Obj}(ho:HA o)(h1:C'.w0=C.w0)(h2:C'.G0=C.G0)(h3:C'.mb=C.mb)(h4: ∀p∈C'.ex,p=(w.heap.size,o)\/p∈C.ex):bF C' own G (w.alloc o):=by
 have old: ∀b,b<w.heap.size->(w.alloc o).heap[b]? =w.heap[b]? :=fun b hb=>RowKit.Below.heap_alloc _ _ _ hb;obtain⟨a1,a2,a3,a4,a5,a6,a7,a8,a9,a10,a11,a12⟩:=h;refine⟨by rw[h1];exact a1,by rw[h1];exact a2,by rw[h1];exact a3,by rw[h1];simp;omega,?_,?_,by rw[h2];exact a7,by rw[h1,h2];exact a8,?_,a10,by rw[h1];exact a11,?_⟩
 .rw[h1,h3];intro b hb hm;rw[old b (by omega)];exact a5 b hb hm
 .intro b cs hb
  obtain⟨ty,fz,hc⟩:=a6 b cs hb;exact⟨ty,fz,by rw[old b (ip hc)];exact hc⟩
 .rw[h1,h3];intro x hx
  obtain⟨b1,b2⟩:=a9 x hx;exact⟨by rw[old _ (ip b1)];exact b1,b2⟩
 .intro p hp
  rcases h4 p hp with rfl|hp
  .exact⟨ho,World.alloc_heap_new w o⟩
  .exact⟨(a12 p hp).1,by rw[old _ (ip (a12 p hp).2)];exact(a12 p hp).2⟩
def bF.putx(h:bF C own G w){l:Nat}{o0 o:Obj}(hl:(l,o0)∈C.ex)(hs:C.w0.heap.size<=l)(ho:HA o)(h1:C'.w0=C.w0)(h2:C'.G0=C.G0)(h3:C'.mb=C.mb)(h4: ∀p∈C'.ex,p=(l,o)\/p∈C.ex/\p.1≠l):bF C' own G (w.putObj l o):=by
 have hne: ∀{b:Nat} {cs:Array Value} {ty:TypeId} {z:Nat×Nat},w.heap[b]? =some (.cells cs ty z)->b≠l:=fun hb e=>h.extNe hl hb e.symm;have hlt:=ip (h.ext _ hl).2;obtain⟨a1,a2,a3,a4,a5,a6,a7,a8,a9,a10,a11,a12⟩:=h;refine⟨by rw[h1];exact a1,by rw[h1];exact a2,by rw[h1];exact a3,by rw[h1];simpa using a4,?_,?_,by rw[h2];exact a7,by rw[h1,h2];exact a8,?_,a10,by rw[h1];exact a11,?_⟩
 .rw[h1,h3];intro b hb hm;rw[World.putObj_heap_other (by omega)];exact a5 b hb hm
 .intro b cs hb
  obtain⟨ty,fz,hc⟩:=a6 b cs hb;exact⟨ty,fz,by rw[World.putObj_heap_other (hne hc)];exact hc⟩
 .rw[h1,h3];intro x hx
  obtain⟨b1,b2⟩:=a9 x hx;exact⟨by rw[World.putObj_heap_other (hne b1)];exact b1,b2⟩
 .intro p hp
  rcases h4 p hp with rfl|⟨hp,hpl⟩
  .exact⟨ho,World.putObj_heap_same hlt⟩
  .exact⟨(a12 p hp).1,by rw[World.putObj_heap_other hpl];exact(a12 p hp).2⟩
end
abbrev mr (w:World) (G:Gh):aF:=⟨w,G,[],[],[],none,fun _=>none⟩
def I1(G:Gh)(w:World):Prop:= ∀b cs,G b=some cs-> ∃ty fz,w.heap[b]? =some (.cells ⟨cs⟩ ty fz)
structure OL (Jv:Gh->World->Prop):Prop where
 frz: ∀G w,Jv G w->I1 G w
 on: ∀G w G1 w1,Jv G w->bF (mr w G) [] G1 w1->Jv G1 w1
def FA(h:I1 G w):bF (mr w G) [] G w:=
 ⟨J,J,J,bW _,fun _ _ _=>J,h,bI.refl _,fun _ _=>J,fun o ho=>(by cases ho), .nil,bW _,fun p hp=>by cases hp⟩
structure Am (GB:Gh) (P:Program) (l:Nat) (Jv:Nat->Gh->World->Prop) (Jx:Gh->World->Prop) (E:List (List DV)):Prop where
 st: ∀k,OL (Jv k)
 sx:OL Jx
 yd: ∀k e G w ys,E[k]? =some e->bI GB G->Jv k G w->IsLs G e ys->YieldAt (FW none) 0 P l ⟨ys⟩ w fun e w'=> ∃G',bI G G'/\(e= .returned (.bool true)/\Jv (k+1) G' w'\/e= .returned (.bool false)/\Jx G' w')
structure It (GB:Gh) (P:Program) (f:FuncId) (ds:List DV) (E:List (List DV)):Prop where
 able:rB P f
 run: ∀(l:Nat) (Jv:Nat->Gh->World->Prop) (Jx:Gh->World->Prop) (GB':Gh),bI GB GB'->Am GB' P l Jv Jx E-> ∀w vs,Jv 0 GB' w->IsLs GB' ds vs->
  CallsIn (FW none) 0 P f ⟨.func (.yield l) #[] #[]::vs⟩ w fun e w'=> ∃G',bI GB' G'/\(∃v,e= .returned v)/\(Jv E.length G' w'\/Jx G' w')
structure Pl (C:aF):Prop where
 mb:C.mb=[]
 mks:C.mks=[]
 rd:C.rd=none
def Gi(P:Program)(fb:Func)(GB:Gh)(Jv:Nat->Gh->World->Prop)(Jx:Gh->World->Prop)(N:Nat):Exit->Act->World->Prop:=
 bodyPost P fb fun e w'=> ∃G',bI GB G'/\(∃v,e= .returned v)/\(Jv N G' w'\/Jx G' w')
section
variable {own:aI}
def aKi[fu:Fu]{c:Code}{m:Nat}{ds:List DV}{cf:Nat->Cf}{fr:Nat->aC}{own:Nat->aI}{vc:Nat->List Prop}(hf:prog.funcs[f]? =some fb)(hb:fb.body=some c)(hn:(fb.name== "runtime.NumGoroutine")=false)(hm:fb.ntmps=m)(hlen:Nat.ble (ds.length+1) m=true)
  (hgo: ∀l,go tt m fu.n [] (rx 0 (.v (.func (.yield l) #[] #[])::ds)) [] (.code c [])=⟨vc l,fr l,own l,cf l⟩)
  (k: ∀l Jv Jx GB',bI GB GB'->Am GB' prog l Jv Jx E-> ∀C,Pl C->Jv 0 C.G0 C.w0->av prog GB' C m (Gi prog fb GB' Jv Jx E.length) (fr l) (own l) (cf l))
  (hv: ∀l,ak (vc l):=by intros;first|exact trivial|(simp only[ak];kernel_rfl)|(simp only[ak];omega)):It GB prog f ds E:=by
 refine⟨⟨fb,hf,hn,by simp[hb]⟩,fun l Jv Jx GB' hg H w vs hJ hvs=>?_⟩;have hlen':vs.length+1<=m:=by rw[hvs.len];simpa using hlen
 have h:=fB (GB:=GB') (C:=mr w GB') (Q0:=Gi prog fb GB' Jv Jx E.length) (hgo l) (hv l) (k l Jv Jx GB' hg H (mr w GB') ⟨J,J,J⟩ hJ);refine callsIn_wide.2 (calls_of_wp hf hb ?_);have hvs':IsLs GB' (.v (.func (.yield l) #[] #[])::ds) (.func (.yield l) #[] #[]::vs):= .cons (aH.2 J) hvs;refine si J (h.run (fun _=>⟨none,0,0⟩) GB' [] _ w ⟨bI.refl _,FA ((H.st 0).frz _ _ hJ),by simp;omega,J,fun k f e=>ze hvs' (fun k v hk=>?_) k f e,(fun nm B e=>by cases e),(fun nm nm' B B' e=>by cases e),fun nm p _ _ e=>by cases e⟩);obtain⟨j,rfl,hj⟩:=vZ (.func (.yield l) #[] #[]::vs) 0 k v hk;have hj':=(aR.1 hj).1;rw[lR (by simpa using hj')];simpa using hj
def bF.pl{ov:List aA}(h:bF C ov G w)(hp:Pl C):bF (mr C.w0 C.G0) [] G w:=
 (h.drop (jQ _)).ctx J J hp.mb.symm (fun p hp=>by cases hp)
def La{l:Nat}{e:Exit}(H:Am GB P l Jv Jx E)(hp:Pl C)(hJ:Jv E.length C.G0 C.w0\/Jx C.G0 C.w0)(hr:fb.results.toList=[])(he:Cx e=true:=by rfl):
  av P GB C n (Gi P fb GB Jv Jx E.length) fr own (.ex e []):=by
 refine⟨fun ρ G ov a w r=>?_⟩;have hj:Jv E.length G w\/Jx G w:=hJ.imp (fun h=>(H.st _).on _ _ _ _ h (r.h.pl hp)) fun h=>H.sx.on _ _ _ _ h (r.h.pl hp);have hr':jE P (co a) ov fb.results.toList []:=by rw[hr];exact .nil
 cases e with
 |ret=>exact⟨r.df.trans hp.mks,_,sA hr' (cB a) r.h,G,r.gb,⟨_,J⟩,hj⟩
 |normal=>exact⟨r.df.trans hp.mks,_,sA hr' (cB a) r.h,G,r.gb,⟨_,J⟩,hj⟩
 |_=>cases he
def XA{fo:Operand}{args:Array Operand}{tys:Array TypeId}{vs:List Value}{fr:Fr}{l:Nat}{dst:Option Nat}{ty':TypeId}{pos:String}{af:Array Edge}{gd:Option (Nat×Bool)}(hf:kB fr a)(ho:aB fr fo=some (.func (.yield l) ⟨[]⟩ ⟨[]⟩))(hv:fi fr args.toList=some vs):
  (execOp a.eval ⟨dst, .call ⟨.value fo,args,tys⟩,ty',pos,af,gd⟩).run P w=(Instr.yield l ⟨vs⟩).run P w:=by
 have e:args.map a.eval=⟨vs⟩:=by apply Array.ext';simpa using AI hf hv
 simp only[execOp,resolve,bB hf ho,e,Deferred.ofValue];show(invoke (.fn (.yield l) ⟨[]⟩) (⟨[]⟩++⟨vs⟩)).run P w=_;simp only[invoke];rw[show((⟨[]⟩:Array Value)++⟨vs⟩)=⟨vs⟩ by simp]
def n0:aC->aC
 |[]=>[]
 |(k,f)::t=>match f with
  | .ov .. =>n0 t
  | .rw .. =>n0 t
  | .be .. =>n0 t
  | .rs .. =>n0 t
  | .bx .. =>n0 t
  | .no=>n0 t
  |f=>(k,f)::n0 t
def Ps(fr:aC)(ops:Array Oper)(o:Oper):Option (Nat×List DV×Nat):=match o with
 |⟨some d, .call ⟨.value fo,args,_⟩,_,_,_,none⟩=>match bh (aO fr) fo,evDs (aO fr) args.toList with
  |some (.d (.v (.func (.yield l) ⟨[]⟩ ⟨[]⟩))),some ds=>some (l,ds,d)
  |_,_=>none
 |_=>none
def cy[fu1:Fu][fu2:Fu]{l d:Nat}{ds:List DV}(frd:aC)(H:Am GB prog l Jv Jx E)(hp:Pl C)(hJ:Jv k C.G0 C.w0)(ha:Ps fr ops o=some (l,ds,d))(hE:E[k]? =some ds)(hd:ce n (some d)=true)
  (hfd:vo frd fr)(hnd:n0 frd=frd)
  (g1:go tt n fu1.n [] ((d, .tt)::frd) [] (.ops ops r K)=⟨vc1,fr1,own1,cf1⟩)(g2:go tt n fu2.n [] ((d, .ff)::frd) [] (.ops ops r K)=⟨vc2,fr2,own2,cf2⟩)
  (k1: ∀C',Pl C'->Jv (k+1) C'.G0 C'.w0->av prog GB C' n Q0 fr1 own1 cf1)(k2: ∀C',Pl C'->Jx C'.G0 C'.w0->av prog GB C' n Q0 fr2 own2 cf2)
  (v1:autoParam (ak vc1) cL._auto_1)(v2:autoParam (ak vc2) cL._auto_1):
  av prog GB C n Q0 fr own (.ops ops (o::r) K):=by
 unfold Ps at ha;split at ha<;>try (cases ha;done)
 rename_i d0 fo args tys ty pos af;split at ha<;>cases ha;rename_i h1 h2;have nmd: ∀{f:aC},n0 f=f-> ∀k x,aO f k=some x->x.nm=none:=by
  have len: ∀f:aC,(n0 f).length<=f.length:=fun f=>by
   induction f with
   |nil=>exact bW _
   |cons e t ih=>obtain⟨j,x⟩:=e;cases x<;>simp only[n0,bZ]<;>omega
  intro f
  induction f with
  |nil=>intro _ k x e;cases e
  |cons e t ih=>
   obtain⟨j,y⟩:=e;intro hd k x hx;rw[jP] at hx;have:=len t;split at hx
   .cases hx
    cases y<;>first|rfl|(have:=congrArg List.length hd;simp only[n0,bZ] at this;omega)
   .refine ih ?_ k x hx
    cases y<;>first|exact(List.cons.inj hd).2|(have:=congrArg List.length hd;simp only[n0,bZ] at this;omega)
 refine⟨fun ρ G ov a w rl=>?_⟩;have hJG:Jv k G w:=(H.st k).on _ _ _ _ hJ (rl.h.pl hp);obtain⟨y,hy,hy'⟩:=rl.ev h1;rw[(aH (G:=G)).1 hy'] at hy;obtain⟨vs,h3,h4⟩:=rl.evDs h2;obtain⟨fn,tmps,assign,body,hrun,hround⟩:=H.yd k ds G w vs hE rl.gb hJG h4;rw[hp.rd];simp only[wpListIn];rw[if_pos (by rfl)];refine⟨fun _ _=>trivial,?_⟩;have hs: ∀o:Oper,Oper.semAt (FW none).round a.eval o=execOp a.eval o:=fun _=>J;rw[hs,XA (cB a) hy h3,hrun];refine⟨fun h=>(by cases h),hround.mono fun e w' he=>?_⟩;obtain⟨G',hg,he⟩:=he;have rel: ∀(b:Bool) (f:FX),(∀ρ,bP ρ G' f (.bool b))->I1 G' w'->bH GB (mr w' G') n (aO ((d,f)::frd)) (bt []) ρ G' [] (a.put (some d) (.bool b)) w':=fun b f hfb hz=>by
  have pa:=rl.putA (dst:=some d) (.bool b) hd;refine⟨rl.gb.trans hg,FA hz,pa.sz,by rw[pa.df];exact hp.mks,fun k g e=>?_,(fun nm B e=>by cases e),(fun nm nm' B B' e=>by cases e),fun nm p _ _ e=>by cases e⟩;have e':d8 (aO frd) (some d) f k=some g:=by
   rw[jP] at e;simp only[d8];split at e
   .rename_i hk;rw[if_pos hk];exact e
   .rename_i hk;rw[if_neg hk];exact e
  refine pa.fx (fun k g _ e=>?_) (hfb ρ) k g e';obtain⟨u,h5,h6⟩:=rl.fx k g (vP hfd k g e);exact⟨u,h5,h6.up hg⟩
 rcases he with⟨rfl,hj⟩|⟨rfl,hj⟩
 .exact(fB (GB:=GB) (C:=mr w' G') (Q0:=Q0) g1 v1 (k1 (mr w' G') ⟨J,J,J⟩ hj)).run ρ G' [] _ w' (rel true .tt (fun _=>J) ((H.st _).frz _ _ hj))
 .exact(fB (GB:=GB) (C:=mr w' G') (Q0:=Q0) g2 v2 (k2 (mr w' G') ⟨J,J,J⟩ hj)).run ρ G' [] _ w' (rel false .ff (fun _=>J) (H.sx.frz _ _ hj))
def Nq(GB:Gh)(n:Nat)(F:X->aC)(I:X->aF->Prop)(a:Act)(w:World):Prop:=
 ∃C x ρ G ov,Pl C/\I x C/\bH GB C n (aO (F x)) (bt []) ρ G ov a w
def lpC[fu:Fu]{c:Code}(F:X->aC)(I:X->aF->Prop)(μ:X->Nat)(x0:X){cf':X->Cf}{fr':X->aC}{own':X->aI}{vc:X->List Prop}(hp:Pl C)(hI:I x0 C)
  (hgo: ∀x,go tt n fu.n [] (F x) [] (.code c (.ag (Nq GB n F (fun y C=>I y C/\μ y<μ x))::K))=⟨vc x,fr' x,own' x,cf' x⟩)
  (round: ∀x C,Pl C->I x C->av prog GB C n Q0 (fr' x) (own' x) (cf' x))(hF:vo (F x0) fr:=by repeat (first|exact trivial|refine And.intro J ?_|refine And.intro (oO J (by first|omega|(dsimp only;omega))) ?_|refine And.intro (oO J (by simp)) ?_))
  (hv: ∀x C,I x C->ak (vc x):=by intros;first|exact trivial|(simp only[ak];kernel_rfl)|(simp only[ak];omega)|(simp only[ak,aX,bQ,aS];omega)):av prog GB C n Q0 fr own (.code (.loop c) K):=by
 refine⟨fun ρ G ov a w r=>?_⟩;have r0:=r.mono (bk:=bt []) (vP hF) (fun k x e=>by cases e);rw[hp.rd];intro b k cs hro hb hrm;have key: ∀m a w,(∃C x ρ G ov,Pl C/\I x C/\μ x=m/\bH GB C n (aO (F x)) (bt []) ρ G ov a w)->
   ∃e a' w',cQ none prog Q0 K e a' w'/\ArrivesIn (Machine.fenced prog (FW none)) prog (lone (b.atR a (.code c:: .inLoop c::k)) cs w) b k cs e a' w':=by
  intro m
  induction m using Nat.strongRecOn with
  |_ m ih=>
   intro a w ⟨C,x,ρ,G,ov,hpc,hx,hm,hr⟩;have h1:=fB (GB:=GB) (C:=C) (Q0:=Q0) (hgo x) (hv x C hx) (round x C hpc hx);have h2:=h1.run ρ G ov a w hr;rw[hpc.rd] at h2;obtain⟨e,a₁,w₁,hq,harr⟩:=h2 b (.inLoop c::k) cs hro hb hrm
   cases e with
   |normal=>
    obtain⟨C',x',ρ',G',ov',hpc',⟨hx',hlt⟩,hr'⟩:=hq;obtain⟨e₂,a₂,w₂,hq₂,harr₂⟩:=ih (μ x') (hm▸hlt) a₁ w₁ ⟨C',x',ρ',G',ov',hpc',hx',rfl,hr'⟩;exact⟨e₂,a₂,w₂,hq₂, .of_steps (StepsIn.trans harr (.one (fenced_calm hb hrm J) stepR_inLoop)) harr₂⟩
   |exit id=>exact⟨_,a₁,w₁,hq, .pass (x:= .inLoop c) J (fun _ _=> .inl (by simp)) harr⟩
   |goto l=>exact⟨_,a₁,w₁,hq, .pass (x:= .inLoop c) J (fun _ _=> .inl (by simp)) harr⟩
   |ret=>exact⟨_,a₁,w₁,hq, .pass (x:= .inLoop c) J (fun _ _=> .inl (by simp)) harr⟩
   |panic ch=>exact⟨_,a₁,w₁,hq, .pass (x:= .inLoop c) J (fun _ _=> .inl (by simp)) harr⟩
   |outgrown=>exact⟨_,a₁,w₁,hq, .pass (x:= .inLoop c) J (fun _ _=> .inl (by simp)) harr⟩
 obtain⟨e,a',w',q,rr⟩:=key (μ x0) a w ⟨C,x0,ρ,G,ov,hp,hI,rfl,r0⟩;exact⟨e,a',w',q, .of_steps (.one (fenced_calm hb hrm J) stepR_loop) rr⟩
def atC{F:X->aC}{I:X->aF->Prop}(x:X)(hp:Pl C)(hI:I x C)(hF:vo (F x) fr:=by repeat (first|exact trivial|refine And.intro J ?_|refine And.intro (oO J (by first|omega|(dsimp only;omega))) ?_|refine And.intro (oO J (by simp)) ?_)):av P GB C n Q0 fr own (.ex .normal (.ag (Nq GB n F I)::K)):=
 ⟨fun ρ G ov a w r=>⟨C,x,ρ,G,ov,hp,hI,r.mono (vP hF) (fun k x e=>by cases e)⟩⟩
end
section
variable {own:aI}{cf:Cf}
def aCr{Φ:Act->World->Prop}{R:As}(hfx:C.fx=fun _=>none)(h:xi x y fr own=some R)(hk:SX GB C n (aO R.fr) (bt R.own) Φ):SX GB C n (aO fr) (bt own) Φ:=by
 unfold xi at h;rw[cond_eq_ite] at h;split at h<;>try (cases h;done)
 rename_i hb;have hxy:x≠y:=fun e=>hb (by subst e;simp);rw[Ia,GX] at h;cases h;refine⟨fun ρ G ov a w r=>hk.run (fun k=>if k=y then ρ x else ρ k) G ov a w ?_⟩;have inv: ∀m B,bt (own.map fun e=>(bif Nat.beq e.1 y then x else bif Nat.beq e.1 x then y else e.1,bif Nat.beq e.1 y then none else rm x y e.2)) m=some B-> ∃m0 B0,bt own m0=some B0/\rm x y (some B0)=some B/\(m=y/\m0=x\/m≠y/\m≠x/\m0=m):=fun m B e=>by
  rw[GH hxy] at e;split at e
  .cases e
  .rename_i hm
   split at e
   .cases hl:bt own x with
    |none=>rw[hl] at e;cases e
    |some B0=>rw[hl] at e;exact⟨x,B0,hl,e, .inl ⟨by assumption,J⟩⟩
   .cases hl:bt own m with
    |none=>rw[hl] at e;cases e
    |some B0=>rw[hl] at e;exact⟨m,B0,hl,e, .inr ⟨by assumption,hm,J⟩⟩
 have rho: ∀m m0,(m=y/\m0=x\/m≠y/\m≠x/\m0=m)->(fun k=>if k=y then ρ x else ρ k) m=ρ m0:=fun m m0 h=>by
  rcases h with⟨h1,h2⟩|⟨h1,_,h2⟩
  .subst h1 h2;simp
  .subst h2;exact if_neg h1
 refine⟨r.gb,r.h,r.sz,r.df,fun k f e=>?_,fun m B e=>?_,fun m m' B B' e e' hne=>?_,fun m p _ _ e=>by rw[hfx] at e;cases e⟩
 .rw[B7] at e
  cases hf:aO fr k with
  |none=>rw[hf] at e;cases e
  |some g=>
   rw[hf] at e;cases e;obtain⟨v,h1,h2⟩:=r.fx k g hf;exact⟨v,h1,Hr hxy h2⟩
 .obtain⟨m0,B0,h1,h2,h3⟩:=inv m B e
  obtain⟨os,h4,h5⟩:=r.bx m0 B0 h1;refine⟨os,?_,h5⟩;have hr:=rho m m0 h3
  cases B0 with
  |b=>cases h2;obtain⟨vs,q1,q2,q3,q4⟩:=h4;exact⟨vs,by rw[hr];exact q1,q2,q3,q4⟩
  |c=>cases h2;obtain⟨vs,q1,q2,q3,q4,q5⟩:=h4;exact⟨vs,by rw[hr];exact q1,q2,q3,q4,by rw[hr];exact q5⟩
  |o ty cs lo=>cases h2;obtain⟨b,q,q1,q2,q3⟩:=h4;exact⟨b,q,by rw[hr];exact q1,q2,GD hxy q3⟩
 .obtain⟨m0,B0,h1,_,h3⟩:=inv m B e
  obtain⟨m1,B1,h4,_,h6⟩:=inv m' B' e';have q1:=rho m m0 h3;have q2:=rho m' m1 h6;simp only at q1 q2;rw[q1,q2];refine r.dj m0 m1 B0 B1 h1 h4 fun e=>?_;rcases h3 with⟨h7,h8⟩|⟨h7,h8,h9⟩<;>rcases h6 with⟨g7,g8⟩|⟨g7,g8,g9⟩
  .exact hne (h7.trans g7.symm)
  .exact g8 (by rw[<-g9,<-e,h8])
  .exact h8 (by rw[<-h9,e,g8])
  .exact hne (by rw[<-h9,e,g9])
def wU(x y:Nat){c:Code}(hfx:C.fx=fun _=>none)(h:xi x y fr own=some ⟨fr1,own1⟩)(k:av P GB C n Q0 fr1 own1 (.code c K)):av P GB C n Q0 fr own (.code c K):=aCr hfx h k
def HN(P:Program)(fb:Func)(R:Ending->World->Prop):Exit->Act->World->Prop:=bodyPostM (FW none) 0 P fb R
structure Pb (C:aF):Prop where
 mks:C.mks=[]
 rd:C.rd=none
 fx:C.fx=fun _=>none
def GQ[fu:Fu]{c:Code}{m:Nat}{ds:List DV}(hf:prog.funcs[f]? =some fb)(hb:fb.body=some c)(hn:(fb.name== "runtime.NumGoroutine")=false)(hm:fb.ntmps=m)(hlen:Nat.ble ds.length m=true)
  (hgo:go tt m fu.n [] (rx 0 ds) [] (.code c [])=⟨vc,fr,own,cf⟩)(k: ∀C:aF,Pb C->av prog GB C m (HN prog fb (lB C (fun v G'=>Is G' rv v))) fr own cf)
  (hv:autoParam (ak vc) fn._auto_1):PF GB prog f ds rv:=by
 intro G vs hg hvs;refine⟨⟨fb,hf,hn,by simp[hb]⟩,fun w hw=>?_⟩;have hlen':vs.length<=m:=by rw[hvs.len];simpa using hlen
 have h:=fB (GB:=GB) (C:=mr w G) (Q0:=HN prog fb (lB (mr w G) (fun v G'=>Is G' rv v))) hgo hv (k (mr w G) ⟨J,J,J⟩);refine(callsIn_wide (n:=0)).1 (callsIn_of_wp_marks (F:=FW none) (n:=0) hf hb trivial ?_);refine h.run (fun _=>⟨none,0,0⟩) G [] _ w ⟨hg,FA hw,by simp;omega,J,fun k f e=>ze hvs (fun k v hk=>?_) k f e,(fun nm B e=>by cases e),(fun nm nm' B B' e=>by cases e),fun nm p _ _ e=>by cases e⟩;obtain⟨j,rfl,hj⟩:=vZ vs 0 k v hk;have hj':=(aR.1 hj).1;rw[lR (by simpa using hj')];simpa using hj
def aF.mk3(C:aF)(D:Nat):aF:={C with ex:=(D, .deferred (some []))::C.ex,mks:=[{target:= .collected D,args:= #[]}]}
def Ed{e:Exit}{ds:List DV}(hD:C.w0.heap.size<=D)(hx: ∀p∈C.ex,p.1≠D)(hr:rj tt fr own fb.results.toList=some ds)(hd:eG ds=rv)(he:Cx e=true:=by rfl):av prog GB (C.mk3 D) n (HN prog fb (lB C (fun v G'=>Is G' rv v))) fr own (.ex e []):=by
 refine⟨fun ρ G ov a w r=>?_⟩;obtain⟨vs,h1,h2⟩:=Ff r hr;have hk:Is G rv (nv vs):=hd▸EC h2;have hex:((D,Obj.deferred (some [])):Nat×Obj)∈(C.mk3 D).ex:=aQ;have h3:bF C ov G (w.putObj D (.deferred none)):=r.h.putx hex hD (fun _ _ _ h=>by cases h) J J J fun p hp=> .inr ⟨aJ _ hp,hx p hp⟩;have hres:=sA (C:=C) (G:=G) (own:=ov) (w:=w.putObj D (.deferred none)) h1 (cB a) h3;have key:LeavesInM (FW none) 0 prog fb a.tmps (lB C (fun v G'=>Is G' rv v)) a.defers .returning w:=by
  rw[r.df];exact⟨by simp, .inl ⟨D,_,J,run_takeDeferred (r.h.ext _ hex).2,_,hres,_,G,J,h3.drop (jQ _),hk⟩⟩
 cases e with
 |ret=>exact key
 |normal=>exact key
 |_=>cases he
end
end Go.Sx
end
