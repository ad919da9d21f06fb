import Derived.Test.YtjpdfobnjmflkaaGreatDoorMp19
import Derived.RecoverIn
set_option linter.all false
set_option maxHeartbeats 2000000
set_option maxRecDepth 100000
section
namespace Go.Sx
open Go Go.Proofs Tryz
variable {GB G:Gh}{m l m0:ah}{b t u:Tr}{M K:List ah}{p q1 q2 w:aa}{V v o ds:List aa}{q:Rat}{c:ar}{rs:List (List ZP)}{fill op d D X Y z:Int}{L:List Rat}{n a A B j i:Nat}{r:List ZP}{es:List Int}{C:aG}{Q0:Exit->Act->World->Prop}{fr fr':aC}{own':aH}{cf cf':Cf}{vc:List Prop}{y:Value}{ai al ae:Addr}
def aER{m:Tr}(hm:m.all ah.ok)(hb:b.all ah.ok)(hM: ∀l∈M,l.ok)(h: ∀q,cj m.lns q->cj b.lns q->cj M q->b.val q=true->m.val q=true)(hd:i6 b p true):i6 m p true:=by
 obtain⟨w,k1,k2⟩:=AJ hd (M:=m.lns++(b.lns++M)) fun l hl=>(aL.1 hl).elim (gF hm l) fun hl=>(aL.1 hl).elim (gF hb l) (hM l);have g1:Gn m.lns p w:=fun l hl=>k1 l (bK _ hl);have g2:Gn b.lns p w:=fun l hl=>k1 l (bQ _ (bK _ hl));have g3:Gn M p w:=fun l hl=>k1 l (bQ _ (bQ _ hl));obtain⟨e1,a1,b1⟩:=mP g1;obtain⟨e2,a2,b2⟩:=mP g2;obtain⟨e3,a3,b3⟩: ∃e:Rat,0<e/\ ∀d,0<d->d<=e->cj M (b8 p w d):=by
  obtain⟨e,a,b⟩:=mP (t:=ig M) (p:=p) (v:=w) (by rw[AD];exact g3);refine⟨e,a,fun d d0 d1=>?_⟩;have:=(b d d0 d1).1;rwa [AD] at this
 obtain⟨d,d0,d1,d2⟩:=min2 a1 a2;obtain⟨d',d0',d1',d2'⟩:=min2 d0 a3;obtain⟨o1,t1⟩:=b1 d' d0' (by grind);obtain⟨o2,t2⟩:=b2 d' d0' (by grind);have hv:b.val (b8 p w d')=true:=by rw[t2] at k2;exact k2
 have:=h _ o1 o2 (b3 d' d0' d2') hv;have:=vz g1;rw[t1] at this;rwa [‹m.val (b8 p w d')=true›] at this
def Nr(ht:t.all ah.ok):d8 t p≠0↔i6 t p true:=by
 rw[ne_eq,w7 ht];exact⟨fun h=>Classical.byContradiction h,fun h k=>k h⟩
def Yz{m:Tr}(hm:m.all ah.ok)(hb:b.all ah.ok)(hM: ∀l∈M,l.ok)(h: ∀q,cj m.lns q->cj b.lns q->cj M q->b.val q=true->m.val q=true)(hd:d8 b p≠0):d8 m p≠0:=by
 rw[Nr hb] at hd;rw[Nr hm];exact aER hm hb hM h hd
def PU(q v:aa):(q.add v).subQ v=q/\(q.subQ v).add v=q:=by
 unfold aa.subQ aa.add;cases q;simp only[aa.mk.injEq];constructor<;>constructor<;>grind
def TO{E:List (aa×aa)}(hB:gp V E)(ht:t.all ah.ok){q v:aa}(hq:d8 t q≠0)(hv:v∈V):d8 (lv V E t) (q.add v)≠0:=by
 have htr:=t.restrict_all ah.ok [] ht;rw[<-aqB ht] at hq;obtain⟨c,hc,hin⟩:=aDm htr hq;obtain⟨g,a⟩:=xf ht c hc;have h1:=Wm hB g a hin hv;obtain⟨s1,s2,s3⟩:=Gk hB ht;have hMo: ∀l∈DJ V E t,l.ok:=fun l hl=>by
  obtain⟨d,hd,hl⟩:=iJ.1 hl;obtain⟨g',a'⟩:=xf ht d hd;exact gF (AX hB g' a') l hl
 exact Yz s1 (AX hB g a) hMo (fun r _ _ ho hr=>(s3 r ho).2 ⟨c,hc,hr⟩) h1
def XZ(ht:t.all ah.ok)(hc:bm c p)(h: ∀q,bm c q->d8 t q≠0):d8 t p=2:=by
 rw[u9 ht];intro hd;obtain⟨q,hq,ho,_,hv⟩:=DH ht hd (M:=[]) (fun m hm=>by cases hm) hc;have:=h q hq;rw[Wq ht ho,hv] at this;exact this J
def CV(l:ah)(v:aa):ah:=eo l.a l.b (l.c-l.nor.dot v)
def L7(hl:l.ok)(v:aa): ∃g:Rat,0<g/\ ∀p,(CV l v).value p=g*l.value (p.subQ v):=by
 obtain⟨g,g0,hg⟩:=Ao (c:=l.c-l.nor.dot v) (Ey hl);refine⟨g,g0,fun p=>?_⟩;unfold CV;rw[hg,yk,Bv];unfold ah.nor aa.dot;dsimp only;grind
def azQ(ht:t.all ah.ok){q:aa}(h:d8 t q=2): ∃c:ar,bm c q/\(∀s∈c,s.l.ok)/\ ∀x,bm c x->d8 t x=2:=by
 -- the sides of the lines that do not contain q
 refine⟨(t.lns.filter fun l=>decide (l.value q≠0)).map fun l=>⟨if 0<l.value q then l else l.rev,ao.all⟩,fun s hs=>?_,fun s hs=>?_,fun x hx=>?_⟩
 .obtain⟨l,hl,rfl⟩:=aU.1 hs
  have h0:=of_decide_eq_true (iR.1 hl).2;dsimp only;split
  .assumption
  .rw[dE];grind
 .obtain⟨l,hl,rfl⟩:=aU.1 hs
  have h0:=gF ht l (iR.1 hl).1;dsimp only;split
  .exact h0
  .exact h0.rev
 .-- points near to x are near to q in a direction
  rw[u9 ht];intro hd;rw[u9 ht] at h;obtain⟨y,hy,ho,_,hv⟩:=DH ht hd (M:=[]) (fun m hm=>by cases hm) hx;refine h ?_;have hgn:Gn t.lns q ⟨y.x-q.x,y.y-q.y⟩:=fun m hm hz=>by rw[Fa,hz];have:=ho m hm;grind
  have hd2:=vz hgn;obtain⟨e,he,hs⟩:=mP hgn;have same: ∀d,0<d->d<=1->t.val (b8 q ⟨y.x-q.x,y.y-q.y⟩ d)=t.val y:=fun d d0 d1=>by
   have key: ∀u:Tr,(∀l∈u.lns,l∈t.lns)->u.val (b8 q ⟨y.x-q.x,y.y-q.y⟩ d)=u.val y:=by
    intro u
    induction u with
    |leaf b=>intro _;rfl
    |node l u1 u2 i1 i2=>
     intro hsub;have hl:=hsub l aQ;have e1:l.value (b8 q ⟨y.x-q.x,y.y-q.y⟩ d)=l.value q+d*(l.value y-l.value q):=by rw[gi,<-Fa]
     have hy0:=ho l hl;have sgn:0<l.value (b8 q ⟨y.x-q.x,y.y-q.y⟩ d)↔0<l.value y:=by
      rw[e1];by_cases hz:l.value q=0
      .rw[hz]
       constructor
       .intro k
        have:=(wv d0 (b:=l.value y)).1 (by grind);exact this
       .intro k
        have:=bD d0 k;grind
      .have hside:=hy ⟨if 0<l.value q then l else l.rev,ao.all⟩ (aU.2 ⟨l,iR.2 ⟨hl,decide_eq_true hz⟩,J⟩)
       dsimp only at hside;split at hside
       .rename_i k
        have a:=cA (show 0<=1-d by grind) (cM k);have b:=bD d0 hside;exact⟨fun _=>hside,fun _=>by grind⟩
       .rename_i k
        rw[dE] at hside;have a:=cA (show 0<=1-d by grind) (show 0<= -l.value q by grind);have b:=bD d0 hside;exact⟨fun _=>by grind,fun _=>by grind⟩
     have r1:=i1 fun m hm=>hsub m (aJ _ (bK _ hm));have r2:=i2 fun m hm=>hsub m (aJ _ (bQ _ hm));by_cases k:0<l.value y
     .rw[Tr.val_pos k,Tr.val_pos (sgn.2 k),r1]
     .rw[Tr.val_neg k,Tr.val_neg (fun z=>k (sgn.1 z)),r2]
   exact key t fun l hl=>hl
  obtain⟨d,hd0,d1,d2⟩:=min2 he (show(0:Rat)<1 by decide);rw[(hs d hd0 d1).2,same d hd0 d2,hv] at hd2;exact hd2
def Y9{E:List (aa×aa)}(hB:gp V E)(ht:t.all ah.ok){q v:aa}(hq:d8 t q=2)(hv:v∈V):d8 (lv V E t) (q.add v)=2:=by
 obtain⟨c,hc,hok,hall⟩:=azQ ht hq;refine XZ (Gk hB ht).1 (c:=c.map fun s=>⟨CV s.l v,ao.all⟩) (fun s hs=>?_) fun x hx=>?_
 .obtain⟨w,hw,rfl⟩:=aU.1 hs
  obtain⟨g,g0,hg⟩:=L7 (hok w hw) v;dsimp only;rw[hg,(PU q v).1];exact bD g0 (hc w hw)
 .have hin:bm c (x.subQ v):=fun s hs=>by
   have:=hx _ (dZ (f:=fun s:bu=>(⟨CV s.l v,ao.all⟩:bu)) hs);obtain⟨g,g0,hg⟩:=L7 (hok s hs) v;dsimp only at this;rw[hg] at this;exact(wv g0).1 this
  have h2:=hall _ hin;have:=TO hB ht (q:=x.subQ v) (v:=v) (by rw[h2];decide) hv;rwa [(PU x v).2] at this
def H1: ∀t:Tr,t.compl.compl=t
 | .leaf b=>by show Tr.leaf (!(!b))=_;rw[Bool.not_not]
 | .node l x y=>by show Tr.node l x.compl.compl y.compl.compl=_;rw[H1 x,H1 y]
def QQ(ht:t.all ah.ok)(p:aa):(d8 t.compl p=0↔d8 t p=2)/\(d8 t.compl p=2↔d8 t p=0):=by
 have hc:t.compl.all ah.ok:=t.compl_all _ ht;have hd: ∀b,i6 t.compl p b↔i6 t p (!b):=fun b=>by
  have one: ∀{t:Tr} {b:Bool},t.all ah.ok->i6 t p b->i6 t.compl p (!b):=fun{t b} ht h=>by
   have hc:t.compl.all ah.ok:=t.compl_all _ ht;obtain⟨w,k1,k2⟩:=AJ h (M:=t.lns++t.compl.lns) fun l hl=>(aL.1 hl).elim (gF ht l) (gF hc l);have g1:Gn t.lns p w:=fun l hl=>k1 l (bK _ hl);have g2:Gn t.compl.lns p w:=fun l hl=>k1 l (bQ _ hl);obtain⟨e1,a1,b1⟩:=mP g1;obtain⟨e2,a2,b2⟩:=mP g2;obtain⟨d,d0,d1,d2⟩:=min2 a1 a2;rw[(b1 d d0 d1).2] at k2;have:=vz g2;rw[(b2 d d0 d2).2,t.val_compl] at this;dsimp only at this k2;rwa [k2] at this
  constructor
  .intro h
   have:=one hc h;rwa [show t.compl.compl=t from H1 t] at this
  .intro h
   have:=one ht h;rwa [Bool.not_not] at this
 rw[w7 hc,u9 ht,u9 hc,w7 ht,hd,hd];exact⟨Iff.rfl,Iff.rfl⟩
def W6{E:List (aa×aa)}(hB:gp V E)(ht:t.all ah.ok){v:aa}(hp:d8 (lv (V.map aO) (E.map wR) t.compl).compl p≠0)(hv:v∈V):d8 t (p.add v)≠0:=fun h=>by
 have hc:t.compl.all ah.ok:=t.compl_all _ ht;have h2:=(QQ ht (p.add v)).2.2 h;have h3:=Y9 (I0 hB) hc h2 (dZ (f:=aO) hv);have e:(p.add v).add (aO v)=p:=by unfold aa.add aO;cases p;simp only[aa.mk.injEq];constructor<;>grind
 rw[e] at h3;exact hp ((QQ (Gk (I0 hB) hc).1 p).1.2 h3)
section
variable {L:List ah}
end
section
end
def Tr.Prp:Tr->ar->Prop
 | .leaf _,_=>True
 | .node l x y,c=>cx c l=true/\cx c l.rev=true/\x.Prp (bB c l)/\y.Prp (bB c l.rev)
def Tr.red_prp: ∀{t:Tr} {c:ar},t.Red c->t.Prp c
 | .leaf _,_,_=>trivial
 | .node _ _ _,_,⟨h1,h2,h3,h4,_⟩=>⟨h1,h2,Tr.red_prp h3,Tr.red_prp h4⟩
def atn(hc:bC c)(hl:l.ok)(hp:bm c p)(h0:l.value p=0):cx c l=true/\cx c l.rev=true:=by
 have hn:=ni hl.ne;obtain⟨e,he,hm⟩:=hp.open l.nor;obtain⟨f,hf,hk⟩:=hp.open (aO l.nor);have hn2:l.nor.dot (aO l.nor)= -(l.nor.dot l.nor):=by unfold aO aa.dot;dsimp only;grind
 refine⟨(pe hc hl).2 ⟨_,hm e (by grind) (by grind),?_⟩,(pe hc hl.rev).2 ⟨_,hk f (by grind) (by grind),?_⟩⟩
 .rw[gi,h0];have:=bD he hn;grind
 .rw[dE,gi,h0,hn2];have:=bD hf hn;grind
def mB(c:ar)(m:ah):Bool:=cx c m&&cx c m.rev
def oh(hc:bC c)(hm:m.ok):mB c m=true↔EY m c:=by
 unfold mB;rw[bT];constructor
 .rintro ⟨h1,h2⟩
  obtain⟨p,hp,k1⟩:=(pe hc hm).1 h1;obtain⟨q,hq,k2⟩:=(pe hc hm.rev).1 h2;rw[dE] at k2;generalize hA:m.value p=A at*;generalize hB:m.value q=B at*;have hAB:0<A-B:=by grind
  have e:A/(A-B)*(A-B)=A:=by grind
  generalize A/(A-B)=r at*;have r0:0<=r:=(ip hAB).1 (by rw[e];exact cM k1);have r1:r<=1:=by
   have:=(ip (s:=1-r) hAB).1 (by grind);grind
  exact⟨kg p q r,hp.seg hq r0 r1,by rw[lO,hA,hB];grind⟩
 .rintro ⟨p,hp,h0⟩
  exact atn hc hm hp h0
def xB(c:ar)(m n:ah):Bool:=decide (¬m.same n)&&(decide (n.value (yw m n)=0)&&qp c (yw m n))
def q8{n:ah}(hm:m.ok)(hn:n.ok):xB c m n=true↔ ¬m.same n/\ ∃z,bm c z/\m.value z=0/\n.value z=0:=by
 unfold xB;rw[bT,bT,decide_eq_true_eq,decide_eq_true_eq,sO];constructor
 .rintro ⟨h1,h2,h3⟩
  exact⟨h1,_,h3,mv hm.ne _,h2⟩
 .rintro ⟨h1,z,hz,k1,k2⟩
  rcases F0 hm hn k1 k2 with h|h
  .exact absurd h h1
  .rw[<-h];exact⟨h1,k2,hz⟩
def Hb{n:ah}(hm:m.ok)(hn:n.ok):xB c m n=xB c n m:=by
 rw[oJ,q8 hm hn,q8 hn hm];constructor<;>(rintro ⟨h,z,hz,k1,k2⟩;exact⟨fun e=>h e.symm,z,hz,k2,k1⟩)
def iE(f:ah->Nat):List ah->Nat
 |[]=>0
 |m::K=>f m+iE f K
def bN(b:Bool):Nat:=if b then 1 else 0
def NC{f g:ah->Nat}: ∀{K:List ah},(∀m∈K,f m<=g m)->iE f K<=iE g K
 |[],_=>bW _
 |m::K,h=>by
  have:=NC (f:=f) (g:=g) (K:=K) fun n hn=>h n (aJ _ hn);have:=h m aQ;show f m+iE f K<=g m+iE g K;omega
def z8(f g:ah->Nat): ∀K,iE (fun m=>f m+g m) K=iE f K+iE g K
 |[]=>rfl
 |m::K=>by
  have:=z8 f g K;show f m+g m+iE (fun m=>f m+g m) K=f m+iE f K+(g m+iE g K);omega
def x9{f g:ah->Nat}{d:Nat}{m0:ah}: ∀{K:List ah},(∀m∈K,f m<=g m)->m0∈K->f m0+d<=g m0->iE f K+d<=iE g K
 |[],_,h,_=>by cases h
 |m::K,h,hm,hd=>by
  have i1:=NC (f:=f) (g:=g) (K:=K) fun n hn=>h n (aJ _ hn);have:=h m aQ;show f m+iE f K+d<=g m+iE g K;rcases aK.1 hm with rfl|hm
  .omega
  .have:=x9 (f:=f) (g:=g) (d:=d) (K:=K) (fun n hn=>h n (aJ _ hn)) hm hd
   omega
def Ax{f:ah->Nat}{B:Nat}: ∀{K:List ah},(∀m∈K,f m<=B)->iE f K<=K.length*B
 |[],_=>bV _
 |m::K,h=>by
  have:=Ax (f:=f) (B:=B) (K:=K) fun n hn=>h n (aJ _ hn);have:=h m aQ;show f m+iE f K<=(K.length+1)*B;rw[gX];omega
def qq(K:List ah)(c:ar):Nat:=iE (fun m=>bN (mB c m)) K
def kn(K:List ah)(c:ar)(m:ah):Nat:=iE (fun n=>bN (xB c m n)) K
def Az(K:List ah)(c:ar):Nat:=iE (kn K c) K
def Ia(b:Bool):bN b<=1:=by cases b<;>decide
def atA(hK: ∀m∈K,m.ok)(hc:bC c){n:ah}(hn:n.ok)(h0:m0∈K)(hs:m0.same n)(hb:cx c n=true)(hb2:cx c n.rev=true):
  qq K (bB c n)+qq K (bB c n.rev)+1<=qq K c+kn K c m0/\Az K (bB c n)+Az K (bB c n.rev)+2*kn K c m0<=Az K c:=by
 obtain⟨g1,i1⟩:=gH hc hn hb;obtain⟨g2,i2⟩:=gH hc hn.rev hb2;have i2: ∀p,bm (bB c n.rev) p↔bm c p/\n.value p<0:=fun p=>by rw[i2,dE];constructor<;>(rintro ⟨a,b⟩;exact⟨a,by grind⟩)
 have hm0:=hK m0 h0;have z1: ∀m,m.ok->(mB (bB c n) m=true->mB c m=true)/\(mB (bB c n.rev) m=true->mB c m=true):=fun m hm=>by
  rw[oh g1 hm,oh g2 hm,oh hc hm];exact⟨fun⟨p,hp,k⟩=>⟨p,((i1 p).1 hp).1,k⟩,fun⟨p,hp,k⟩=>⟨p,((i2 p).1 hp).1,k⟩⟩
 have z2: ∀m,m.ok->mB (bB c n) m=true->mB (bB c n.rev) m=true->xB c m0 m=true:=fun m hm h1 h2=>by
  obtain⟨p,hp,k1⟩:=(oh g1 hm).1 h1;obtain⟨q,hq,k2⟩:=(oh g2 hm).1 h2;obtain⟨hp,ap⟩:=(i1 p).1 hp;obtain⟨hq,aq⟩:=(i2 q).1 hq;rw[q8 hm0 hm];refine⟨fun e=>?_,?_⟩
  .rw[pj hs (pj e.symm k1)] at ap;grind
  generalize hA:n.value p=A at*;generalize hB:n.value q=B at*;have hAB:0<A-B:=by grind
  have e:A/(A-B)*(A-B)=A:=by grind
  generalize A/(A-B)=r at*;have r0:0<=r:=(ip hAB).1 (by rw[e];exact cM ap);have r1:r<=1:=by
   have:=(ip (s:=1-r) hAB).1 (by grind);grind
  exact⟨kg p q r,hp.seg hq r0 r1,pj hs.symm (by rw[lO,hA,hB];grind),by rw[lO,k1,k2];grind⟩
 have w1: ∀m m',m.ok->m'.ok->xB (bB c n) m m'=true->xB c m m'=true/\ ¬xB (bB c n.rev) m m'=true:=fun m m' hm hm' h=>by
  rw[q8 hm hm'] at h;obtain⟨e,z,hz,k1,k2⟩:=h;obtain⟨hz,az⟩:=(i1 z).1 hz;refine⟨(q8 hm hm').2 ⟨e,z,hz,k1,k2⟩,fun h=>?_⟩;obtain⟨_,y,hy,j1,j2⟩:=(q8 hm hm').1 h;obtain⟨hy,ay⟩:=(i2 y).1 hy;rcases F0 hm hm' k1 k2 with h|h
  .exact e h
  .rcases F0 hm hm' j1 j2 with h'|h'
   .exact e h'
   .rw[h'] at ay;rw[h] at az;grind
 have w2: ∀m m',m.ok->m'.ok->xB (bB c n.rev) m m'=true->xB c m m'=true:=fun m m' hm hm' h=>by
  rw[q8 hm hm'] at h⊢;obtain⟨e,z,hz,k1,k2⟩:=h;exact⟨e,z,((i2 z).1 hz).1,k1,k2⟩
 have w3: ∀m,m.ok->xB (bB c n) m m0=false/\xB (bB c n.rev) m m0=false:=fun m hm=>by
  constructor
  .rw[<-jY,q8 hm hm0]
   rintro ⟨_,z,hz,_,k2⟩;have:=((i1 z).1 hz).2;rw[pj hs k2] at this;grind
  .rw[<-jY,q8 hm hm0]
   rintro ⟨_,z,hz,_,k2⟩;have:=((i2 z).1 hz).2;rw[pj hs k2] at this;grind
 have hmm: ∀d,xB d m0 m0=false:=fun d=>by
  rw[<-jY,q8 hm0 hm0];rintro ⟨h,_⟩;exact h (.inl rfl)
 have n1: ∀d:ar,bC d->(∀p,bm d p->n.value p≠0)->mB d m0=false:=fun d hd h=>by
  rw[<-jY,oh hd hm0];rintro ⟨p,hp,k⟩;exact h p hp (pj hs k)
 have n2:mB c m0=true:=by
  rw[oh hc hm0];obtain⟨p,hp,k⟩:=(oh hc hn).1 (by unfold mB;rw[hb,hb2];rfl);exact⟨p,hp,pj hs.symm k⟩
 constructor
 .unfold qq kn
  rw[<-z8,<-z8];refine x9 (m0:=m0) (d:=1) (fun m hm=>?_) h0 ?_
  .have hmk:=hK m hm
   obtain⟨a1,a2⟩:=z1 m hmk;have a3:=z2 m hmk
   try dsimp only
   cases e1:mB (bB c n) m<;>cases e2:mB (bB c n.rev) m<;>simp only[e1,e2,forall_const,reduceCtorEq,false_implies] at a1 a2 a3<;>simp_all [bN]
  .try dsimp only
   rw[n1 _ g1 (fun p hp=>by have:=((i1 p).1 hp).2;grind),n1 _ g2 (fun p hp=>by have:=((i2 p).1 hp).2;grind),n2,hmm];decide
 .have row: ∀m∈K,kn K (bB c n) m+kn K (bB c n.rev) m+bN (xB c m m0)<=kn K c m:=fun m hm=>by
   have hmk:=hK m hm;unfold kn;rw[<-z8];refine x9 (m0:=m0) (d:=bN (xB c m m0)) (fun m' hm'=>?_) h0 ?_
   .have hmk':=hK m' hm'
    have b1:=w1 m m' hmk hmk';have b2:=w2 m m' hmk hmk'
    try dsimp only
    cases e1:xB (bB c n) m m'<;>cases e2:xB (bB c n.rev) m m'<;>simp_all [bN]
   .obtain⟨c1,c2⟩:=w3 m hmk
    try dsimp only
    rw[c1,c2];simp[bN]
  have r0:kn K (bB c n) m0=0/\kn K (bB c n.rev) m0=0:=by
   have z: ∀d,(∀m∈K,xB d m0 m=false)->kn K d m0=0:=fun d h=>by
    have:=Ax (f:=fun m=>bN (xB d m0 m)) (B:=0) (K:=K) fun m hm=>by rw[h m hm];decide
    unfold kn;omega
   exact⟨z _ fun m hm=>by rw[Hb hm0 (hK m hm)];exact(w3 m (hK m hm)).1,z _ fun m hm=>by rw[Hb hm0 (hK m hm)];exact(w3 m (hK m hm)).2⟩
  have cs:iE (fun m=>bN (xB c m m0)) K=kn K c m0:=by
   unfold kn;have key: ∀Jv:List ah,(∀m∈Jv,m.ok)->iE (fun m=>bN (xB c m m0)) Jv=iE (fun m=>bN (xB c m0 m)) Jv:=fun Jv=>by
    induction Jv with
    |nil=>intro _;rfl
    |cons a Jv ih=>
     intro h;show bN (xB c a m0)+_=bN (xB c m0 a)+_;rw[ih fun m hm=>h m (aJ _ hm),Hb (h a aQ) hm0]
   exact key K hK
  have:=x9 (f:=fun m=>kn K (bB c n) m+kn K (bB c n.rev) m+bN (xB c m m0)) (g:=kn K c) (d:=kn K c m0) (m0:=m0) row h0 (by rw[r0.1,r0.2,hmm];simp[bN]);rw[z8,z8,cs] at this;unfold Az;omega
def Io{K:List ah}(hK: ∀m∈K,m.ok): ∀{t:Tr} {c:ar},t.Prp c->t.all ah.ok->bC c->gn K t->2*t.size<=2*qq K c+Az K c
 | .leaf _,_,_,_,_,_=>bV _
 | .node n x y,c,⟨h1,h2,h3,h4⟩,⟨hn,hx,hy⟩,hc,⟨⟨m0,hm0,hs⟩,kx,ky⟩=>by
  obtain⟨g1,_⟩:=gH hc hn h1;obtain⟨g2,_⟩:=gH hc hn.rev h2;have a:=Io hK h3 hx g1 kx;have b:=Io hK h4 hy g2 ky;obtain⟨d1,d2⟩:=atA hK hc hn hm0 hs h1 h2;rw[Tr.size];omega
def Qq(hK: ∀m∈K,m.ok)(h:t.Prp c)(ht:t.all ah.ok)(hc:bC c)(hA:gn K t):2*t.size<=K.length*(K.length+1):=by
 have h1:=Io hK h ht hc hA;have h2:qq K c<=K.length*1:=Ax fun m _=>Ia _;have h3:Az K c<=K.length*(K.length-1):=Ax fun m hm=>by
  have:=x9 (f:=fun n=>bN (xB c m n)) (g:=fun _=>1) (d:=1) (m0:=m) (K:=K) (fun n _=>Ia _) hm (by
   have:xB c m m=false:=by rw[<-jY,q8 (hK m hm) (hK m hm)];rintro ⟨h,_⟩;exact h (.inl rfl)
   rw[this];decide)
  have l1:iE (fun _=>1) K<=K.length*1:=Ax fun _ _=>bW _;unfold kn;omega
 have:K.length*(K.length+1)=K.length*(K.length-1)+2*K.length:=by
  cases K.length with
  |zero=>rfl
  |succ k=>rw[Nat.succ_sub_one,Nat.mul_succ,Nat.mul_succ,gX];omega
 omega
def KA{K:List ah}(hK: ∀m∈K,m.ok): ∀{t:Tr} {c:ar},t.Prp c->t.all ah.ok->bC c->gn K t->t.depth<=qq K c
 | .leaf _,_,_,_,_,_=>bV _
 | .node n x y,c,⟨h1,h2,h3,h4⟩,⟨hn,hx,hy⟩,hc,⟨⟨m0,hm0,hs⟩,kx,ky⟩=>by
  obtain⟨g1,i1⟩:=gH hc hn h1;obtain⟨g2,i2⟩:=gH hc hn.rev h2;have a:=KA hK h3 hx g1 kx;have b:=KA hK h4 hy g2 ky;have hm0k:=hK m0 hm0;have n2:mB c m0=true:=by
   rw[oh hc hm0k];obtain⟨p,hp,k⟩:=(oh hc hn).1 (by unfold mB;rw[h1,h2];rfl);exact⟨p,hp,pj hs.symm k⟩
  have key: ∀d:ar,bC d->(∀p,bm d p->bm c p/\n.value p≠0)->qq K d+1<=qq K c:=fun d hd h=>by
   unfold qq;refine x9 (m0:=m0) (d:=1) (fun m hm=>?_) hm0 ?_
   .have hmk:=hK m hm
    cases e1:mB d m with
    |false=>exact bV _
    |true=>
     obtain⟨p,hp,k⟩:=(oh hd hmk).1 e1;rw[(oh hc hmk).2 ⟨p,(h p hp).1,k⟩];exact bW _
   .have e1:mB d m0=false:=by
     rw[<-jY,oh hd hm0k];rintro ⟨p,hp,k⟩;exact(h p hp).2 (pj hs k)
    try dsimp only
    rw[e1,n2];decide
  have d1:=key _ g1 fun p hp=>⟨((i1 p).1 hp).1,by have:=((i1 p).1 hp).2;grind⟩;have d2:=key _ g2 fun p hp=>⟨((i2 p).1 hp).1,by have:=((i2 p).1 hp).2;rw[dE] at this;grind⟩;show 1+max _ _<=_;omega
def ax2(hK: ∀m∈K,m.ok)(h:t.Prp c)(ht:t.all ah.ok)(hc:bC c)(hA:gn K t):t.depth<=K.length:=by
 have h1:=KA hK h ht hc hA;have h2:qq K c<=K.length*1:=Ax fun m _=>Ia _;omega
structure sj (K:List ah) (t:Tr):Prop where
 ok:t.all ah.ok
 am:gn K t
 rd:t.Red []
def sj.size{K:List ah}(hK: ∀m∈K,m.ok){t:Tr}(h:sj K t):2*t.size<=K.length*(K.length+1)/\t.depth<=K.length:=
 ⟨Qq hK (Tr.red_prp h.rd) h.ok bC.nil h.am,ax2 hK (Tr.red_prp h.rd) h.ok bC.nil h.am⟩
def sj.merge{K:List ah}{op:Int}{t u:Tr}(h:sj K t)(hu:u.all ah.ok)(hA:gn K u):sj K (t.mergeQ op u []):=
 ⟨Tr.mergeQ_all ah.ok op hu t [] h.ok,h.am.merge hA [],Tr.merge_red op u t []⟩
def sj.lim(hK: ∀m∈K,m.ok)(hn:K.length<=361)(h:sj K t)(hu:u.all ah.ok)(hA:gn K u)(hd:u.depth<=600):oe op t u=some (t.mergeQ op u []):=by
 obtain⟨a1,a2⟩:=h.size hK;obtain⟨b1,_⟩:=(h.merge (op:=op) hu hA).size hK;have:K.length*(K.length+1)<=361*362:=iW hn (by omega);exact Xh (op:=op) (a:=t) (b:=u) (by omega) (by omega)
def Qm{K:List ah}(hK: ∀m∈K,m.ok)(hn:K.length<=361){op:Int}: ∀{us:List Tr} {t:Tr},(∀u∈us,u.all ah.ok/\gn K u/\u.depth<=600)->sj K t->oH op t us=some (us.foldl (fun t u=>t.mergeQ op u []) t)/\sj K (us.foldl (fun t u=>t.mergeQ op u []) t)
 |[],t,_,ht=>⟨J,ht⟩
 |u::us,t,h,ht=>by
  obtain⟨h1,h2,h3⟩:=h u aQ;obtain⟨i1,i2⟩:=Qm hK hn (op:=op) (us:=us) (fun v hv=>h v (aJ _ hv)) (ht.merge (op:=op) h1 h2);refine⟨?_,i2⟩;rw[oH,ht.lim hK hn h1 h2 h3];exact i1
def ri(V:List aa)(E:List (aa×aa))(K:List ah)(cs:List ar):List ah:=(K.flatMap fun l=>[km l V,km l.rev V])++cs.flatMap fun c=>E.filterMap (l7 c)
def JD{α β:Type}{f:α->List β}{n:Nat}: ∀{l:List α},(∀x∈l,(f x).length<=n)->(l.flatMap f).length<=l.length*n
 |[],_=>by simp
 |x::l,h=>by
  have:=JD (f:=f) (n:=n) (l:=l) fun y hy=>h y (aJ _ hy);have:=h x aQ;rw[mJ,aY,aN,gX];omega
def YU{E:List (aa×aa)}{cs:List ar}:(ri V E K cs).length<=K.length*2+cs.length*E.length:=by
 unfold ri;rw[aY];have h1:=JD (f:=fun l=>[km l V,km l.rev V]) (n:=2) (l:=K) fun x _=>bW _;have h2:=JD (f:=fun c=>E.filterMap (l7 c)) (n:=E.length) (l:=cs) fun x _=>mR _ _;omega
def KH{E:List (aa×aa)}(hB:gp V E)(hK: ∀l∈K,l.ok){cs:List ar}: ∀l∈ri V E K cs,l.ok:=fun l hl=>by
 rcases aL.1 hl with h|h
 .obtain⟨k,hk,h⟩:=iJ.1 h
  simp only[aK,eY,or_false] at h;rcases h with rfl|rfl
  .exact(zo (hK k hk) V).1
  .exact(zo (hK k hk).rev V).1
 .obtain⟨c,_,h⟩:=iJ.1 h
  obtain⟨f,hf,h⟩:=jS.1 h;obtain⟨_,_,h1,_⟩:=Br (hB.nz hf) h;exact h1
def YA{E:List (aa×aa)}{cs:List ar}(hc:c∈cs)(hs: ∀s∈c,∃m∈K,m.same s.l): ∀l∈jp c V E,l∈ri V E K cs:=fun l hl=>by
 unfold jp at hl;rcases aL.1 hl with h|h
 .obtain⟨s,hs',rfl⟩:=aU.1 h
  obtain⟨m,hm,k⟩:=hs s hs';refine bK _ (iJ.2 ⟨m,hm,?_⟩);rcases k with k|k<;>rw[k]<;>simp
 .exact bQ _ (iJ.2 ⟨c,hc,h⟩)
def ava{L:List ah}: ∀l∈iH L,l∈L:=fun _ h=>(tH.1 h).1
def Gp{E:List (aa×aa)}{P:ah->Prop}(h: ∀l∈jp c V E,P l):(fk V E c).all P:=Gu fun l hl=>h l (ava l hl)
def auC{E:List (aa×aa)}:(jp c V E).length<=c.length+E.length:=by
 unfold jp;rw[aY,aX];have:=mR (l7 c) E;omega
def ayx{E:List (aa×aa)}:(fk V E c).depth<=c.length+E.length:=by
 unfold fk;rw[Tv];exact cS (Bu _) auC
def ats(hA:gn K t)(hc:c∈eH t): ∀s∈c,∃m∈K,m.same s.l:=
 xV (P:=fun l=> ∃m∈K,m.same l) (fun l ⟨m,hm,h⟩=>⟨m,hm,h.trans (.inr J)⟩) hA (fun s hs=>by cases hs) (tc.1 hc)
def WJ{E:List (aa×aa)}(hB:gp V E)(ht:t.all ah.ok)(hK: ∀l∈K,l.ok)(hA:gn K t)(hs: ∀c∈eH (t.restrict []),c.length+E.length<=600)(hn:(ri V E K (eH (t.restrict []))).length<=361):
  oH 1 (Tr.leaf false) ((eH (t.restrict [])).map (fk V E))=some (lv V E t)/\sj (ri V E K (eH (t.restrict []))) (lv V E t):=by
 have h:=Qm (K:=ri V E K (eH (t.restrict []))) (KH hB hK) hn (op:=1) (us:=(eH (t.restrict [])).map (fk V E)) (t:= .leaf false) (fun u hu=>by
  obtain⟨c,hc,rfl⟩:=aU.1 hu;obtain⟨g1,g2⟩:=xf ht c hc;exact⟨AX hB g1 g2,Gp fun l hl=>⟨l,YA hc (ats (hA.restrict []) hc) l hl, .inl J⟩,cS ayx (hs c hc)⟩) ⟨trivial,trivial,trivial⟩
 rw[List.foldl_map] at h;exact h
def ZB(p:aa):Prop:= ∃m n:Int,p=iP m n/\m.natAbs<=8/\n.natAbs<=8
def ZB.neg(h:ZB p):ZB (aO p):=by
 obtain⟨m,n,rfl,h1,h2⟩:=h;refine⟨-m, -n,?_,by omega,by omega⟩;unfold aO iP;rw[iL,iL]
def QD(k:Nat)(q:aa):Prop:= ∃(D:Nat) (X Y:Int),0<D/\D<=2^k/\X.natAbs<=2^k/\Y.natAbs<=2^k/\q.x*((D:Int):Rat)=(X:Rat)/\q.y*((D:Int):Rat)=(Y:Rat)
def QH(x y z:Int):eo (x:Rat) (y:Rat) (z:Rat)=oG x y z:=by
 unfold eo;simp only[oK,oV];simp
def iF{a b:Int}(ha:a.natAbs<=A)(hb:b.natAbs<=B):(a*b).natAbs<=A*B:=by
 rw[fR];exact iW ha hb
def JB{a b c:Int}{k:Nat}(ha:a.natAbs<2^k)(hb:b.natAbs<2^k)(hc:c.natAbs<2^k)(hd:d.natAbs<2^k):(a*b-c*d).natAbs<=2^(2*k+1):=by
 have h1:=iF (gW ha) (gW hb);have h2:=iF (gW hc) (gW hd);have e:2^(2*k+1)=2^k*2^k+2^k*2^k:=by rw[iQ,Nat.two_mul,fY];omega
 generalize a*b=u at*;generalize c*d=v at*;generalize 2^k*2^k=w at*;omega
def MQ{k:Nat}{q:aa}(h0:D≠0)(hD:D.natAbs<=2^k)(hX:X.natAbs<=2^k)(hY:Y.natAbs<=2^k)(e1:q.x*(D:Rat)=(X:Rat))(e2:q.y*(D:Rat)=(Y:Rat)):QD k q:=by
 rcases Int.lt_or_lt_of_ne h0 with h|h
 .refine⟨D.natAbs, -X, -Y,by omega,hD,by omega,by omega,?_,?_⟩
  .rw[show((D.natAbs:Int))= -D by omega,iL,iL];grind
  .rw[show((D.natAbs:Int))= -D by omega,iL,iL];grind
 .refine⟨D.natAbs,X,Y,by omega,hD,hX,hY,?_,?_⟩
  .rw[show((D.natAbs:Int))=D by omega];exact e1
  .rw[show((D.natAbs:Int))=D by omega];exact e2
def QY{k:Nat}(hl:BL l k)(hm:BL m k)(h:crossI l m≠0):QD (2*k+1) (dm l m):=by
 have h':((crossI l m:Int):Rat)≠0:=fun e=>h (cR.1 e);refine MQ (D:=crossI l m) (X:=meetX l m) (Y:=meetY l m) h (JB hl.a hm.b hm.a hl.b) ?_ ?_ ?_ ?_
 .unfold meetX;exact JB hl.b hm.c hm.b hl.c
 .unfold meetY;exact JB hm.a hl.c hl.a hm.c
 .unfold dm;rw[if_neg h];exact rR h'
 .unfold dm;rw[if_neg h];exact rR h'
def So{k:Nat}(hl:BL l k)(h:l.ok):QD (2*k+1) l.base:=by
 have hn:=ni h.ne;have e:l.nor.dot l.nor=((l.a*l.a+l.b*l.b:Int):Rat):=by
  unfold ah.nor aa.dot;rw[lU,cX,cX]
 have hz:l.nor.dot l.nor≠0:=by grind
 have h0:l.a*l.a+l.b*l.b≠0:=fun k=>hz (by rw[e,k];rfl);have e4:(2:Nat)^(2*k+1)=2^k*2^k+2^k*2^k:=by rw[iQ,Nat.two_mul,fY];omega
 have q1:=iF (gW hl.a) (gW hl.a);have q2:=iF (gW hl.b) (gW hl.b);have q3:=iF (gW hl.a) (gW hl.c);have q4:=iF (gW hl.b) (gW hl.c);refine MQ (D:=l.a*l.a+l.b*l.b) (X:= -(l.a*l.c)) (Y:= -(l.b*l.c)) h0 (by omega) (by omega) (by omega) ?_ ?_
 .rw[<-e]
  show(l.a:Rat)*(-(l.c:Rat)/l.nor.dot l.nor)*l.nor.dot l.nor=_;rw[Rat.mul_assoc,rR hz,iL,cX];grind
 .rw[<-e]
  show(l.b:Rat)*(-(l.c:Rat)/l.nor.dot l.nor)*l.nor.dot l.nor=_;rw[Rat.mul_assoc,rR hz,iL,cX];grind
def TN{L:List ah}{q:aa}(h:q∈jH L): ∃l∈L,∃m∈L,crossI l m≠0/\q=dm l m:=by
 obtain⟨i,hi,h⟩:=iJ.1 h;rw[jR] at hi;obtain⟨l,hl⟩: ∃l,L[i]? =some l:=⟨_,aZ hi⟩;obtain⟨m,hm⟩: ∃m,L[(i+1)%L.length]? =some m:=⟨_,aZ (dK _ (by omega))⟩;rw[xy hl hm] at h;split at h
 .rename_i hc
  refine⟨l,aV hl,m,aV hm,fun e=>?_,by simpa using h⟩;have h2:l.dir.cross m.dir=0:=by
   have:=uO l m;rw[e] at this;unfold aa.cross ah.dir;dsimp only;have z:((0:Int):Rat)=0:=J;rw[z] at this;grind
  rw[h2] at hc;exact absurd hc (by decide)
 .cases h
def aEi{k:Nat}(hc:bC c)(ha:gq c)(hk: ∀s∈c,BL s.l k){f:aa×aa}(hn: ¬((bE f).x=0/\(bE f).y=0))(h1:ZB f.1)(h2:ZB f.2)(h:l7 c f=some l):BL l (2*k+10):=by
 unfold l7 at h
 cases hf:iq c (bE f) with
 |none=>rw[hf] at h;cases h
 |some m=>
  rw[hf] at h
  cases h
  obtain⟨e1,e2⟩:=RY hc ha hn hf;obtain⟨q,hq,e3⟩:=(qd (n:=bE f) e2).2;rw[e1] at e3;have hqd:QD (2*k+1) q:=by
   unfold xZ at hq;split at hq
   .obtain⟨l,hl,rfl⟩:=aU.1 hq
    obtain⟨s,hs,rfl⟩:=aU.1 hl;exact So (hk s hs) (hc.ok s hs)
   .obtain⟨l,hl,m,hm,hx,rfl⟩:=TN hq
    obtain⟨s,hs,rfl⟩:=aU.1 hl;obtain⟨u,hu,rfl⟩:=aU.1 hm;exact QY (hk s hs) (hk u hu) hx
  obtain⟨D,X,Y,hD0,hD,hX,hY,x1,y1⟩:=hqd;obtain⟨m1,n1,p1,a1,a2⟩:=h1;obtain⟨m2,n2,p2,a3,a4⟩:=h2;have nx:(bE f).x=((n1-n2:Int):Rat):=by unfold bE;rw[p1,p2];unfold iP;rw[gL];grind
  have ny:(bE f).y=((m2-m1:Int):Rat):=by unfold bE;rw[p1,p2];unfold iP;rw[gL]
  generalize hA:n1-n2=A at nx;generalize hB:m2-m1=B at ny;have hD0':(0:Rat)<((D:Int):Rat):=by exact_mod_cast hD0
  have key:eo (bE f).x (bE f).y (-(m+(bE f).dot f.1))=oG (A*D) (B*D) (-(A*X+B*Y+(A*m1+B*n1)*D)):=by
   rw[<-QH];refine(UG (fun uv=>?_) hn hD0' fun p=>?_).symm
   .obtain⟨u,v⟩:=uv
    rw[cX,<-nx] at u;rw[cX,<-ny] at v;refine hn ⟨?_,?_⟩
    .rcases fV.1 u with u|u
     .exact u
     .grind
    .rcases fV.1 v with v|v
     .exact v
     .grind
   .rw[e3,p1]
    unfold aa.dot iP;dsimp only;rw[nx,ny];simp only[cX,iL,lU];rw[<-x1,<-y1];grind
  show BL (eo (bE f).x (bE f).y (-(m+(bE f).dot f.1))) _;rw[key];have hA16:A.natAbs<=16:=by omega
  have hB16:B.natAbs<=16:=by omega
  have b0:(D:Int).natAbs<=2^(2*k+1):=hD;have b1:=iF hA16 b0;have b2:=iF hB16 b0;have b3:=iF hA16 hX;have b4:=iF hB16 hY;have b5:(A*m1+B*n1).natAbs<=256:=by
   have:=iF hA16 a1;have:=iF hB16 a2;omega
  have b6:=iF b5 b0;obtain⟨r1,r2,r3⟩:=Ce (A*D) (B*D) (-(A*X+B*Y+(A*m1+B*n1)*D));have e9:2^(2*k+10)=2^(2*k+1)*512:=by rw[show 2*k+10=2*k+1+9 by omega,fY]
  have w0:0<2^(2*k+1):=gK (by decide);generalize 2^(2*k+1)=w at*;exact⟨by omega,by omega,by omega⟩
def aE5{k:Nat}(hl:l.ok)(hk:BL l k)(hV:V≠[])(hz: ∀v∈V,ZB v):BL (km l V) (2*k+10):=by
 obtain⟨v,hv,e⟩:=(qd (n:=l.nor) hV).2;obtain⟨m,n,rfl,h1,h2⟩:=hz v hv;unfold km;have e2:(l.c:Rat)-jO l.nor V=((l.c-(l.a*m+l.b*n):Int):Rat):=by
  rw[e];unfold aa.dot ah.nor iP;rw[gL,lU,cX,cX]
 rw[e2,QH];obtain⟨r1,r2,r3⟩:=Ce l.a l.b (l.c-(l.a*m+l.b*n));have b1:=iF (gW hk.a) h1;have b2:=iF (gW hk.b) h2;have ka:=hk.a;have kb:=hk.b;have kc:=hk.c;have e9:2^(2*k+10)=2^k*(2^k*1024):=by rw[show 2*k+10=k+(k+10) by omega,fY,fY]
 have w1:1<=2^k:=gK (by decide);have e10:2^k*1024<=2^k*(2^k*1024):=by rw[<-cY];exact bS _ (mN _ w1)
 generalize 2^k*(2^k*1024)=z at*;generalize 2^k=w at*;exact⟨by omega,by omega,by omega⟩
def BL.mono{k:Nat}(h:BL l j)(hk:j<=k):BL l k:=by
 have:=bL (n:=2) (by decide) hk;exact⟨dJ h.a this,dJ h.b this,dJ h.c this⟩
def BL.rev{l:ah}{k:Nat}(h:BL l k):BL l.rev k:=⟨by unfold ah.rev;dsimp only;rw[jX];exact h.a,by unfold ah.rev;dsimp only;rw[jX];exact h.b,by unfold ah.rev;dsimp only;rw[jX];exact h.c⟩
def Gz{k:Nat}{E:List (aa×aa)}(hB:gp V E)(hz: ∀v∈V,ZB v)(hc:bC c)(ha:gq c)(hk: ∀s∈c,BL s.l k): ∀l∈jp c V E,BL l (2*k+10):=fun l hl=>by
 rcases aL.1 hl with h|h
 .obtain⟨s,hs,rfl⟩:=aU.1 h
  exact aE5 (hc.ok s hs) (hk s hs) hB.vne hz
 .obtain⟨f,hf,h⟩:=jS.1 h
  exact aEi hc ha hk (hB.nz hf) (hz _ (hB.ends f hf).1) (hz _ (hB.ends f hf).2) h
def aCI{k:Nat}{E:List (aa×aa)}(hB:gp V E)(hz: ∀v∈V,ZB v)(ht:t.all ah.ok)(hk:t.all fun l=>BL l k):(lv V E t).all fun l=>BL l (2*k+10):=by
 unfold lv;have hb: ∀c∈eH (t.restrict []),(fk V E c).all fun l=>BL l (2*k+10):=fun c hc=>by
  obtain⟨g1,g2⟩:=xf ht c hc;exact Gp (Gz hB hz g1 g2 (xV (P:=fun l=>BL l k) (fun l h=>h.rev) (t.restrict_all _ [] hk) (fun s hs=>by cases hs) (tc.1 hc)))
 have key: ∀(cs:List ar) (u:Tr),(∀c∈cs,(fk V E c).all fun l=>BL l (2*k+10))->(u.all fun l=>BL l (2*k+10))->(vo V E cs u).all fun l=>BL l (2*k+10):=fun cs=>by
  induction cs with
  |nil=>intro u _ hu;exact hu
  |cons c cs ih=>
   intro u h hu;exact ih _ (fun d hd=>h d (aJ _ hd)) (Tr.mergeQ_all _ 1 (h c aQ) u [] hu)
 exact key _ _ hb trivial
section
end
def Zo(p u v:ZP):bG p.q (j0 p u).q (j0 p v).q=((jE u v:Int):Rat):=by
 unfold bG j0 jE ZP.q iP;dsimp only;push_cast;grind
def xt(p:Nat->Bool):Nat->Nat->Nat->Nat
 |0,i,_=>i
 |d+1,i,j=>if i<j then(if p ((i+j)/2) then xt p d ((i+j)/2+1) j else xt p d i ((i+j)/2)) else i
def Kq(p:Nat->Bool): ∀(d i j:Nat),j-i<=d->gh p i j=xt p d i j
 |0,i,j,h=>by
  rw[gh,xt,dif_neg (by omega)]
 |d+1,i,j,h=>by
  rw[gh,xt];by_cases k:i<j
  .rw[dif_pos k,if_pos k]
   split
   .exact Kq p d _ _ (by omega)
   .exact Kq p d _ _ (by omega)
  .rw[dif_neg k,if_neg k]
def Ky(c:ar)(l:ah)(v:ao):ar:=c.take (xt (jj c l) c.length 0 c.length)++⟨l,v⟩::c.drop (xt (jj c l) c.length 0 c.length)
def zi(c:ar)(l:ah):ar:=match kd c l with
 |some v=>Ky (ek l c) l v
 |none=>c
def Ew(c:ar)(l:ah):bB c l=zi c l:=by
 unfold bB zi
 cases h:kd c l with
 |none=>rfl
 |some v=>
  show lI (ek l c) l v=Ky (ek l c) l v;unfold lI Ky;rw[Kq _ (ek l c).length _ _ (by omega)]
def Tr.restrictF:Tr->ar->Tr
 | .leaf b,_=> .leaf b
 | .node l x y,c=>if !cx c l.rev then x.restrictF c else if !cx c l then y.restrictF c else joinQ l (x.restrictF (zi c l)) (y.restrictF (zi c l.rev))
def Tr.restrict_F: ∀(t:Tr) (c:ar),t.restrict c=t.restrictF c
 | .leaf _,_=>rfl
 | .node l x y,c=>by
  rw[Tr.restrict,Tr.restrictF,x.restrict_F c,y.restrict_F c,Ew,Ew,x.restrict_F,y.restrict_F]
def wi:List ZP:=[(0,0),(3,0),(3,1),(1,1),(1,3),(0,3)]
def UT:(f7 [wi] 2).size<=9:=by
 unfold f7;rw[Tr.restrict_F];decide+kernel
def MF:fe wi:=⟨by decide,by decide,fun p hp=>by
  simp only[wi,aK,eY,or_false] at hp;rcases hp with rfl|rfl|rfl|rfl|rfl|rfl<;>exact⟨by decide,by decide⟩,fun i hi=>by
  have:i=0\/i=1\/i=2\/i=3\/i=4\/i=5:=by simp[wi] at hi;omega
  rcases this with rfl|rfl|rfl|rfl|rfl|rfl<;>decide⟩
def tG(v:List aa)(k i:Nat):Bool:=decide (i=k)||(decide (i=(k+1)%v.length)||decide (0<bG (v.getD k ⟨0,0⟩) (v.getD ((k+1)%v.length) ⟨0,0⟩) (v.getD i ⟨0,0⟩)))
def lC(v:List aa):Bool:=(List.range v.length).all fun k=>(List.range v.length).all fun i=>tG v k i
def L1:lC v=true↔ ∀k<v.length,∀i<v.length,tG v k i=true:=by
 unfold lC;simp only[dW,jR]
def aHP{k:Nat}(hk:k<v.length)(hi:i<v.length)(h:tG v k i=false):lC v=false:=by
 rw[<-jY,L1];exact fun f=>by rw[f k hk i hi] at h;cases h
def Zz{k:Nat}(h1:v[k]? =some q1)(h2:v[(k+1)%v.length]? =some q2)(h3:v[i]? =some w):tG v k i=(decide (i=k)||(decide (i=(k+1)%v.length)||decide (0<bG q1 q2 w))):=by
 unfold tG;rw[aW,aW,aW,h1,h2,h3];rfl
structure jz (V:List aa):Prop where
 br:gp V (cH V)
 zb: ∀v∈V,ZB v
 le:V.length<=4
def RA(V:List aa):cH (V.map aO)=(cH V).map wR:=by
 unfold cH;rw[aX,List.map_map];refine List.map_congr_left fun i hi=>?_;have key: ∀k,(V.map aO).getD k ⟨0,0⟩=aO (V.getD k ⟨0,0⟩):=fun k=>by
  rw[aW,aW,cV]
  cases V[k]? with
  |some p=>rfl
  |none=>show(⟨0,0⟩:aa)=aO ⟨0,0⟩;unfold aO;simp
 show _=wR _;unfold wR;rw[key,key]
def jz.neg{V:List aa}(h:jz V):jz (V.map aO):=
 ⟨by rw[RA];exact I0 h.br,fun v hv=>by
  obtain⟨u,hu,rfl⟩:=aU.1 hv;exact(h.zb u hu).neg,by rw[aX];exact h.le⟩
def VU(a b c:aa):cH [a,b,c]=[(a,b),(b,c),(c,a)]:=by unfold cH;simp[pN]
def aJs(a b c d:aa):cH [a,b,c,d]=[(a,b),(b,c),(c,d),(d,a)]:=by unfold cH;simp[pN]
def Qp(a b c:aa):bG b c a=bG a b c:=by unfold bG;grind
def aLE{a b c:aa}(h:0<bG a b c):lC [a,b,c]=true:=by
 have h1:=Qp a b c;have h2:=Qp b c a;simp[lC,tG,pN,h1,h2,h]
def Wh{a b c d:Rat}(h1:a<c)(h2:b<d):lC [⟨a,b⟩,⟨c,b⟩,⟨c,d⟩,⟨a,d⟩]=true:=by
 have k:=Rat.mul_pos (show(0:Rat)<c-a by grind) (show(0:Rat)<d-b by grind);have o1:0<bG ⟨a,b⟩ ⟨c,b⟩ ⟨c,d⟩:=by unfold bG;dsimp only;grind
 have o2:0<bG ⟨a,b⟩ ⟨c,b⟩ ⟨a,d⟩:=by unfold bG;dsimp only;grind
 have o3:0<bG ⟨c,b⟩ ⟨c,d⟩ ⟨a,b⟩:=by unfold bG;dsimp only;grind
 have o4:0<bG ⟨c,b⟩ ⟨c,d⟩ ⟨a,d⟩:=by unfold bG;dsimp only;grind
 have o5:0<bG ⟨c,d⟩ ⟨a,d⟩ ⟨a,b⟩:=by unfold bG;dsimp only;grind
 have o6:0<bG ⟨c,d⟩ ⟨a,d⟩ ⟨c,b⟩:=by unfold bG;dsimp only;grind
 have o7:0<bG ⟨a,d⟩ ⟨a,b⟩ ⟨c,b⟩:=by unfold bG;dsimp only;grind
 have o8:0<bG ⟨a,d⟩ ⟨a,b⟩ ⟨c,d⟩:=by unfold bG;dsimp only;grind
 simp[lC,tG,pN,o1,o2,o3,o4,o5,o6,o7,o8]
def GH{p:ZP}(h:p.1.natAbs<=8/\p.2.natAbs<=8):ZB p.q:=⟨p.1,p.2,J,h⟩
def O4{a b c:ZP}(h:0<bG a.q b.q c.q)(ha:a.1.natAbs<=8/\a.2.natAbs<=8)(hb:b.1.natAbs<=8/\b.2.natAbs<=8)(hc:c.1.natAbs<=8/\c.2.natAbs<=8):jz ([a,b,c].map ZP.q)/\lC ([a,b,c].map ZP.q)=true:=by
 refine⟨⟨?_,fun v hv=>?_,by simp⟩,aLE h⟩
 .show gp [a.q,b.q,c.q] (cH [a.q,b.q,c.q])
  rw[VU];exact YD h
 .simp only[bU,gN,aK,eY,or_false] at hv
  rcases hv with rfl|rfl|rfl
  .exact GH ha
  .exact GH hb
  .exact GH hc
def LH{a b c:Int}(h1:a<c:=by decide)(h2:b<d:=by decide)(ha:a.natAbs<=8:=by decide)(hb:b.natAbs<=8:=by decide)(hc:c.natAbs<=8:=by decide)(hd:d.natAbs<=8:=by decide):jz ((eG a b c d).map ZP.q)/\lC ((eG a b c d).map ZP.q)=true:=by
 have e:(eG a b c d).map ZP.q=[⟨(a:Rat),(b:Rat)⟩,⟨(c:Rat),(b:Rat)⟩,⟨(c:Rat),(d:Rat)⟩,⟨(a:Rat),(d:Rat)⟩]:=J;have q1:(a:Rat)<(c:Rat):=by exact_mod_cast h1
 have q2:(b:Rat)<(d:Rat):=by exact_mod_cast h2
 rw[e];refine⟨⟨?_,fun v hv=>?_,by simp⟩,Wh q1 q2⟩
 .rw[aJs];exact aJC q1 q2
 .simp only[aK,eY,or_false] at hv
  rcases hv with rfl|rfl|rfl|rfl
  .exact⟨a,b,J,ha,hb⟩
  .exact⟨c,b,J,hc,hb⟩
  .exact⟨c,d,J,hc,hd⟩
  .exact⟨a,d,J,ha,hd⟩
def Y1(ha:a<=es.length):jz ((gr es a).1.map ZP.q)/\lC ((gr es a).1.map ZP.q)=true:=by
 have h0:=gD (n:=2) ha;unfold gr;dsimp only;split
 .unfold yv
  dsimp only;generalize (au es 2 a).2=k at*;have e1:=dH (es:=es) (n:=3) (a:=k);generalize au es 3 k=x at*;have e2:=dH (es:=es) (n:=3) (a:=x.2);generalize au es 3 x.2=y at*;have e3:=dH (es:=es) (n:=2) (a:=y.2);generalize au es 2 y.2=z at*;have e4:=dH (es:=es) (n:=2) (a:=z.2);generalize au es 2 z.2=w at*;exact LH (by omega) (by omega) (by omega) (by omega) (by omega) (by omega)
 .generalize (au es 2 a).2=k at*
  have e1:=dH (es:=es) (n:=3) (a:=k);generalize au es 3 k=x at*;have e2:=dH (es:=es) (n:=3) (a:=x.2);generalize au es 3 x.2=y at*;have e3:=dH (es:=es) (n:=2) (a:=y.2);generalize au es 2 y.2=u1 at*;have e4:=dH (es:=es) (n:=3) (a:=u1.2);generalize au es 3 u1.2=u2 at*;have e5:=dH (es:=es) (n:=3) (a:=u2.2);generalize au es 3 u2.2=v1 at*;have e6:=dH (es:=es) (n:=2) (a:=v1.2);generalize au es 2 v1.2=v2 at*;split
  .rename_i hcr
   have:=Zo ((x.1:Int)-1,(y.1:Int)-1) (1+(u1.1:Int),(u2.1:Int)-1) ((v1.1:Int)-1,1+(v2.1:Int));exact O4 (by rw[this];exact_mod_cast hcr) ⟨by dsimp only;omega,by dsimp only;omega⟩ ⟨by unfold j0;dsimp only;omega,by unfold j0;dsimp only;omega⟩ ⟨by unfold j0;dsimp only;omega,by unfold j0;dsimp only;omega⟩
  .exact O4 (by decide+kernel) ⟨by decide,by decide⟩ ⟨by decide,by decide⟩ ⟨by decide,by decide⟩
def lm(es:List Int)(a:Nat):Tr×Nat:=
 let k:=au es 4 a
 if(k.1:Int)=0 then(Ad (lF es k.2).1,(lF es k.2).2)
 else if(k.1:Int)=1 then(f7 [(gr es k.2).1] 2,(gr es k.2).2)
 else if(k.1:Int)=2 then((f7 [(gr es k.2).1] 2).compl,(gr es k.2).2)
 else(f7 [wi] 2,k.2)
def PK{v w:ZP}(h1:v.1.natAbs<=8)(h2:v.2.natAbs<=8)(h3:(w.1-v.1).natAbs<=8)(h4:(w.2-v.2).natAbs<=7):BL (nv v.1 v.2 w.1 w.2) 8:=by
 obtain⟨r1,r2,r3⟩:=Ce (l9 v.2 w.2) (l8 v.1 w.1) (t6 v.1 v.2 w.1 w.2);have b1:(l9 v.2 w.2*v.1).natAbs<=7*8:=iF (by unfold l9;omega) h1;have b2:(l8 v.1 w.1*v.2).natAbs<=8*8:=iF (by unfold l8;omega) h2;have b3:(l9 v.2 w.2).natAbs<=7:=by unfold l9;omega
 have b4:(l8 v.1 w.1).natAbs<=8:=by unfold l8;omega
 have b5:(t6 v.1 v.2 w.1 w.2).natAbs<=120:=by
  show(-(l9 v.2 w.2*v.1+l8 v.1 w.1*v.2)).natAbs<=120;omega
 exact⟨fU r1 (by omega),fU r2 (by omega),fU r3 (by omega)⟩
def azi(hr:fe r)(h: ∀p∈r,p.1.natAbs<=3/\p.2.natAbs<=3)(fill:Int):(f7 [r] fill).all fun l=>BL l 8:=by
 unfold f7 t7;refine Tr.restrict_all _ _ [] (z7 fun f hf=>?_);unfold i8 at hf;rw[mJ,List.flatMap_nil,fK] at hf;have key: ∀n,n<=r.length-> ∀f∈qj r n,BL f.l 8:=fun n=>by
  induction n with
  |zero=>intro _ f hf;cases hf
  |succ n ih=>
   intro hn f hf;rw[qj] at hf;rcases aL.1 hf with hf|hf
   .exact ih (by omega) f hf
   .rw[aT.1 hf]
    have a1:=h _ (vk (r:=r) (i:=n));have a2:=h _ (yx (r:=r) (i:=n));exact PK (by omega) (by omega) (by omega) (by omega)
 exact key _ (bW _) f hf
structure lA (t:Tr):Prop where
 x:i7 18 t
 rd:t.Red []
 bl:t.all fun l=>BL l 8
 dp:t.depth<=6
 k: ∃K:List ah,K.length*2+4*(t.size+1)<=52/\K.length<=6/\(∀l∈K,l.ok)/\gn K t
def lA.compl{t:Tr}(h:lA t):lA t.compl:=by
 obtain⟨K,h1,h2,h3,h4⟩:=h.k;exact⟨h.x.compl,Tr.compl_red h.rd,t.compl_all _ h.bl,by rw[t.compl_depth];exact h.dp,K,by rw[t.compl_size];exact h1,h2,h3,h4.compl⟩
def IX(hr:fe r)(h: ∀p∈r,p.1.natAbs<=3/\p.2.natAbs<=3)(hn:r.length*2+4*((f7 [r] 2).size+1)<=52):lA (f7 [r] 2):=by
 have ho:=Ha (rs:=[r]) (fill:=2) (fun q hq=>by rw[aT.1 hq];exact hr) (by simp);obtain⟨e1,e2⟩:=Cz hr;have hR:t7 [r] 2=jC (od [r] 2) r.length (kt r) []:=by
  unfold t7 i8;rw[mJ,List.flatMap_nil,fK,e1]
 have hro:jI r.length (f7 [r] 2):=by
  unfold f7;rw[hR];exact(FP (acc:=od [r] 2) e2 e1).restrict []
 have h6:=hr.n6;obtain⟨K,k1,k2,k3⟩:=hro.am;exact⟨ho.x (Di _ _) (by decide),Di _ _,azi hr h 2,cS hro.dp h6,K,by omega,by omega,k2,k3⟩
def Nq(hr:fe r)(hn:r.length<=4):(f7 [r] 2).size<=10:=by
 obtain⟨e1,e2⟩:=Cz hr;have hR:t7 [r] 2=jC (od [r] 2) r.length (kt r) []:=by
  unfold t7 i8;rw[mJ,List.flatMap_nil,fK,e1]
 have hro:jI r.length (f7 [r] 2):=by
  unfold f7;rw[hR];exact(FP (acc:=od [r] 2) e2 e1).restrict []
 obtain⟨K,k1,k2,k3⟩:=hro.am;have:=Qq k2 (Tr.red_prp (Di [r] 2)) hro.gd.ok bC.nil k3;have h4:K.length*(K.length+1)<=4*5:=iW (by omega) (by omega);omega
def Ys(ha:a<=es.length):(∀p∈(gr es a).1,p.1.natAbs<=3/\p.2.natAbs<=3)/\(gr es a).1.length<=4:=by
 have h0:=gD (n:=2) ha;unfold gr;dsimp only;split
 .unfold yv
  dsimp only;generalize (au es 2 a).2=k at*;have e1:=dH (es:=es) (n:=3) (a:=k);generalize au es 3 k=x at*;have e2:=dH (es:=es) (n:=3) (a:=x.2);generalize au es 3 x.2=y at*;have e3:=dH (es:=es) (n:=2) (a:=y.2);generalize au es 2 y.2=z at*;have e4:=dH (es:=es) (n:=2) (a:=z.2);generalize au es 2 z.2=w at*;refine⟨fun p hp=>?_,by simp[eG]⟩;simp only[eG,aK,eY,or_false] at hp;rcases hp with rfl|rfl|rfl|rfl<;>exact⟨by dsimp only;omega,by dsimp only;omega⟩
 .generalize (au es 2 a).2=k at*
  have e1:=dH (es:=es) (n:=3) (a:=k);generalize au es 3 k=x at*;have e2:=dH (es:=es) (n:=3) (a:=x.2);generalize au es 3 x.2=y at*;have e3:=dH (es:=es) (n:=2) (a:=y.2);generalize au es 2 y.2=u1 at*;have e4:=dH (es:=es) (n:=3) (a:=u1.2);generalize au es 3 u1.2=u2 at*;have e5:=dH (es:=es) (n:=3) (a:=u2.2);generalize au es 3 u2.2=v1 at*;have e6:=dH (es:=es) (n:=2) (a:=v1.2);generalize au es 2 v1.2=v2 at*;split
  .refine⟨fun p hp=>?_,by simp[gA]⟩
   simp only[gA,j0,aK,eY,or_false] at hp;rcases hp with rfl|rfl|rfl<;>exact⟨by dsimp only;omega,by dsimp only;omega⟩
  .refine⟨fun p hp=>?_,sY J⟩
   simp only[BH,aK,eY,or_false] at hp;rcases hp with rfl|rfl|rfl<;>exact⟨by decide,by decide⟩
def OW(ha:a<=es.length):lA (f7 [(gr es a).1] 2):=by
 obtain⟨h1,h2⟩:=Ys ha;have hr:=(Al ha).1;have:=Nq hr h2;exact IX hr h1 (by omega)
def Y5(ha:a<=es.length):BL (lF es a).1 8:=by
 obtain⟨h1,h2,h3⟩:=BT ha;obtain⟨k1,k2,_,_⟩:=IE h3;unfold lF;dsimp only;exact PK (v:=(pF es a).1) (w:=((pF es a).1.1+1*(vF es (pF es a).2).1.1,(pF es a).1.2+1*(vF es (pF es a).2).1.2)) (by omega) (by omega) (by dsimp only;omega) (by dsimp only;omega)
def aET(h:LS l)(hb:BL l 8):lA (Ad l):=by
 have ho:=aDT h;have hr:(Ad l).Red []:=Tr.restrict_red _ _;have hs:(Ad l).size<=1:=Tr.restrict_size (.node l (.leaf true) (.leaf false)) [];have hd:=(Ad l).depth_size;refine⟨ho.x hr (by decide),hr,Tr.restrict_all _ _ [] ⟨hb,trivial,trivial⟩,by omega,[l],by rw[gJ];omega,sY J,fun m hm=>by rw[aT.1 hm];exact h.ok,?_⟩;exact gn.restrict (t:= .node l (.leaf true) (.leaf false)) ⟨⟨l,aT.2 J, .inl J⟩,trivial,trivial⟩ []
def VO(ha:a<=es.length):lA (lm es a).1/\(lm es a).2<=es.length:=by
 have h0:=gD (n:=4) ha;unfold lm;dsimp only;split
 .obtain⟨h1,h2⟩:=Od h0
  exact⟨aET h1 (Y5 h0),h2⟩
 .split
  .exact⟨OW h0,(Al h0).2⟩
  .split
   .exact⟨(OW h0).compl,(Al h0).2⟩
   .refine⟨IX MF (fun p hp=>?_) (by have:=UT;simp only[wi,aN,dT] at*;omega),h0⟩
    simp only[wi,aK,eY,or_false] at hp;rcases hp with rfl|rfl|rfl|rfl|rfl|rfl<;>exact⟨by decide,by decide⟩
def Gf(hV:jz V)(h:lA t):oH 1 (Tr.leaf false) ((eH (t.restrict [])).map (fk V (cH V)))=some (lv V (cH V) t)/\i7 54 (lv V (cH V) t)/\(lv V (cH V) t).Red []/\(lv V (cH V) t).all (fun l=>BL l 26):=by
 obtain⟨K,h1,h2,h3,h4⟩:=h.k;have hE:(cH V).length<=4:=by unfold cH;rw[aX,lW];exact hV.le
 have ho:=h.x.ok;have hcl:(eH (t.restrict [])).length<=t.size+1:=cS (Sc _) (Nat.succ_le_succ (t.restrict_size []));have hKl:(ri V (cH V) K (eH (t.restrict []))).length<=52:=by
  have:=YU (V:=V) (E:=cH V) (K:=K) (cs:=eH (t.restrict []));have:(eH (t.restrict [])).length*(cH V).length<=(t.size+1)*4:=iW hcl hE;omega
 have hs: ∀c∈eH (t.restrict []),c.length+(cH V).length<=600:=fun c hc=>by
  have:=I2 (t.restrict_all LB [] h.x.lb) (t.restrict_all ah.ok [] ho) c hc;have:=t.restrict_depth [];have:=h.dp;omega
 obtain⟨a1,a2⟩:=WJ hV.br ho h3 h4 hs (by omega);have hb:=aCI hV.br hV.zb ho h.bl;obtain⟨b1,b2⟩:=a2.size (KH hV.br h3);have b3:(ri V (cH V) K (eH (t.restrict []))).length*((ri V (cH V) K (eH (t.restrict []))).length+1)<=52*53:=iW hKl (by omega);exact⟨a1,⟨⟨⟨Tr.all_imp (fun l h=>⟨h.mono (by decide)⟩) hb,a2.ok⟩,by omega,_,by omega,KH hV.br h3,a2.am⟩,by omega⟩,a2.rd,hb⟩
section
variable {own:aH}{lk:LK}{bk:BM}
variable {dst:Option Nat}{t t' ty':TypeId}{pos:String}{af:Array Edge}{gd:Option (Nat×Bool)}{x y:Operand}
end
section
variable {own:aH}{ops:Array Oper}{r:List Oper}{K:List Kt}
end
section
variable (hE:EG GB ai al ae){k:Nat}{a:Tr}(ha:i7 j a)(hb:i7 k b)
include hE ha
include hb
end
section
variable (hE:EG GB ai al ae)
include hE
end

def DK(l:List aa):c9 6 (l.map eZ):=fun d hd=>by
 obtain⟨x,_,rfl⟩:=aU.1 hd;exact⟨J,J⟩
instance aE.negp (p:aa) (i:Nat) [h:aE p i]:aE (aO p) i:=⟨inferInstanceAs (BQ (-p.x) i),inferInstanceAs (BQ (-p.y) i)⟩
instance aE.prip (l:ah) [LB l]:aE (eg l.dir) 500:=by
 have h:=(inferInstance:aE (l.dir.scale (rgcd l.dir.x l.dir.y)⁻¹) _);exact⟨h.x.mono (by decide),h.y.mono (by decide)⟩
def TY[h:aE p i](hi:i<=900000000:=by decide):PF GB prog 168 [eZ p] (eZ (aO p)):=by
 refine fn func168 J J ntmps168 J J (fun C=>?_);refine cl J (pA (q:=p.x) (i:=i) hi) J<|cl J (pA (q:=p.y) (i:=i) hi) J<|rz J J
def TQ[h:aE p i](hi:i<=900000000:=by decide):PF GB prog 129 [eZ p] (eZ (fG p)):=by
 refine fn func129 J J ntmps129 J J (fun C=>?_);refine cl J (pA (q:=p.y) (i:=i) hi) J<|rz J J
def Yc[h:aE p i](hi:i<=1000000:=by decide):PF GB prog 225 [eZ p] (eZ (eg p)):=by
 refine fn func225 J J ntmps225 J J (fun C=>?_);refine cl J (tE (p:=p.x) (q:=p.y) (i:=i) (j:=i) (by omega) (by omega)) J<|cl J (EV (q:=rgcd p.x p.y) (i:=i+i+(i+i)) (by omega)) J<|cl J (GJ (p:=p) (c:=(rgcd p.x p.y)⁻¹) (i:=i) (j:=i+i+(i+i)) (by omega) (by omega)) J<|rz J J
def DE(l:ah)(x y:Tr)(p:aa):d6 (.node l x y) p=(if Int.sign (l.value p).num=0 then [eg l.dir,aO (eg l.dir)] else [])++((if 0<=Int.sign (l.value p).num then d6 x p else [])++(if Int.sign (l.value p).num<=0 then d6 y p else [])):=by
 unfold d6;rw[lG,pJ,pJ];congr 1
 .split<;>simp
 .congr 1<;>split<;>simp
def D9: ∀(t:Tr) (p:aa),(d6 t p).length<=2*t.size
 | .leaf _,_=>bV _
 | .node l x y,p=>by
  have h1:=D9 x p;have h2:=D9 y p;rw[DE,aY,aY,Tr.size];split<;>split<;>split<;>simp only[aN,dT]<;>omega
def X2{b:Bool}:PB GB prog 150 (dB [some (eU (.leaf b)),some (eZ p),none]) 6 160 (o.map eZ) (fun w=> .v (.slice w.a w.n w.c)) ((o++d6 (.leaf b) p).map eZ):=by
 refine r6 func150 J J ntmps150 J J (fun C=>?_);refine cl (fu:=⟨0⟩) J o9 J<|ll 10 J<|gx J<|?_;exact mc J J J (by show _=(o++[]).map eZ;rw[fK])
def Y'{x y:Tr}[hp:aE p i](hl:LB l)(hi:i<=10000000)(hs:o.length+2*(Tr.node l x y).size<=1000000)(hz:Int.sign (l.value p).num=0)(ihx: ∀{o:List aa},o.length+2*x.size<=1000000->PB GB prog 150 (dB [some (eU x),some (eZ p),none]) 6 160 (o.map eZ) (fun w=> .v (.slice w.a w.n w.c)) ((o++d6 x p).map eZ))(ihy: ∀{o:List aa},o.length+2*y.size<=1000000->PB GB prog 150 (dB [some (eU y),some (eZ p),none]) 6 160 (o.map eZ) (fun w=> .v (.slice w.a w.n w.c)) ((o++d6 y p).map eZ)):PB GB prog 150 (dB [some (eU (.node l x y)),some (eZ p),none]) 6 160 (o.map eZ) (fun w=> .v (.slice w.a w.n w.c)) ((o++d6 (.node l x y) p).map eZ):=by
 haveI:=hl;have hz2:(Tr.node l x y).size=1+x.size+y.size:=J;have hp1:=D9 x p;refine r6 func150 J J ntmps150 J J (fun C=>?_);refine cl (fu:=⟨0⟩) J n4 J<|pg 10 J<|gx J<|cl (fu:=⟨7⟩) J (BZ (l:=l) (p:=p) (i:=i) hi) J<|dP J (by show some (decide _)=some true;rw[decide_eq_true (by omega)]) J<|cl J (vr (l:=l)) J<|cl J (Yc (p:=l.dir) (i:=97)) J<|cl J (TY (p:=eg l.dir) (i:=500)) J<|rf J J<|HJ (fu:=⟨7⟩) ((o++[eg l.dir,aO (eg l.dir)]).map eZ) J (by rw[bX]<;>rfl) (DK [eg l.dir,aO (eg l.dir)]) J<|dP J (by show some (decide _)=some true;rw[decide_eq_true (by omega)]) J<|cq (fu:=⟨7⟩) (((o++[eg l.dir,aO (eg l.dir)])++d6 x p).map eZ) J (ihx (by rw[aY,aN,aN,dT];omega)) J J<|dP J (by show some (decide _)=some true;rw[decide_eq_true (by omega)]) J<|cq _ J (ihy (by rw[aY,aY,aN,aN,dT];omega)) J J<|?_;exact mc J J J (by rw[DE,hz];simp)
def aAt{x y:Tr}[hp:aE p i](hl:LB l)(hi:i<=10000000)(hs:o.length+2*(Tr.node l x y).size<=1000000)(hz:Int.sign (l.value p).num=1)(ihx: ∀{o:List aa},o.length+2*x.size<=1000000->PB GB prog 150 (dB [some (eU x),some (eZ p),none]) 6 160 (o.map eZ) (fun w=> .v (.slice w.a w.n w.c)) ((o++d6 x p).map eZ)):PB GB prog 150 (dB [some (eU (.node l x y)),some (eZ p),none]) 6 160 (o.map eZ) (fun w=> .v (.slice w.a w.n w.c)) ((o++d6 (.node l x y) p).map eZ):=by
 haveI:=hl;have hz2:(Tr.node l x y).size=1+x.size+y.size:=J;refine r6 func150 J J ntmps150 J J (fun C=>?_);refine cl (fu:=⟨0⟩) J n4 J<|pg 10 J<|gx J<|cl (fu:=⟨7⟩) J (BZ (l:=l) (p:=p) (i:=i) hi) J<|cg (fu:=⟨9⟩) J (by show some (decide _)=some false;rw[decide_eq_false (by omega)]) J<|dP J (by show some (decide _)=some true;rw[decide_eq_true (by omega)]) J<|cq (fu:=⟨7⟩) _ J (ihx (by omega)) J J<|cg J (by show some (decide _)=some false;rw[decide_eq_false (by omega)]) J<|?_;exact mc J J J (by rw[DE,hz];simp)
def Zx{x y:Tr}[hp:aE p i](hl:LB l)(hi:i<=10000000)(hs:o.length+2*(Tr.node l x y).size<=1000000)(hz:Int.sign (l.value p).num= -1)(ihy: ∀{o:List aa},o.length+2*y.size<=1000000->PB GB prog 150 (dB [some (eU y),some (eZ p),none]) 6 160 (o.map eZ) (fun w=> .v (.slice w.a w.n w.c)) ((o++d6 y p).map eZ)):PB GB prog 150 (dB [some (eU (.node l x y)),some (eZ p),none]) 6 160 (o.map eZ) (fun w=> .v (.slice w.a w.n w.c)) ((o++d6 (.node l x y) p).map eZ):=by
 haveI:=hl;have hz2:(Tr.node l x y).size=1+x.size+y.size:=J;refine r6 func150 J J ntmps150 J J (fun C=>?_);refine cl (fu:=⟨0⟩) J n4 J<|pg 10 J<|gx J<|cl (fu:=⟨7⟩) J (BZ (l:=l) (p:=p) (i:=i) hi) J<|cg (fu:=⟨9⟩) J (by show some (decide _)=some false;rw[decide_eq_false (by omega)]) J<|cg (fu:=⟨9⟩) J (by show some (decide _)=some false;rw[decide_eq_false (by omega)]) J<|dP J (by show some (decide _)=some true;rw[decide_eq_true (by omega)]) J<|cq _ J (ihy (by omega)) J J<|?_;exact mc J J J (by rw[DE,hz];simp)
def BF{p:aa}{i:Nat}[hp:aE p i](hi:i<=10000000:=by decide): ∀{t:Tr} {o:List aa},t.all LB->o.length+2*t.size<=1000000->PB GB prog 150 (dB [some (eU t),some (eZ p),none]) 6 160 (o.map eZ) (fun w=> .v (.slice w.a w.n w.c)) ((o++d6 t p).map eZ)
 | .leaf _,_,_,_=>X2
 | .node l x y,_,hb,hs=>by
  have hz2:(Tr.node l x y).size=1+x.size+y.size:=J;rcases lV (l.value p).num 0 with h|h|h
  .exact Zx hb.1 hi hs (dY h) fun k=>BF hi hb.2.2 k
  .exact Y' hb.1 hi hs (by rw[h];rfl) (fun k=>BF hi hb.2.1 k) fun k=>BF hi hb.2.2 k
  .exact aAt hb.1 hi hs (eK h) fun k=>BF hi hb.2.1 k
def VJ{v:aa}[hp:aE p i][hv:aE v j](hb:t.all LB)(hi:i<=10000000:=by decide)(hj:j<=10000000:=by decide):PF GB prog 151 [eU t,eZ p,eZ v] (.tp [vB (gg t p v).1,vB (gg t p v).2]):=by
 refine fn func151 J J ntmps151 J J (fun C=>?_);refine lp (X:=Tr) (fun s=>[(0, .d (eU s))]) (fun s=>[]) (fun s=>gg s p v=gg t p v/\s.all LB) (fun s=>s.size) t J ⟨J,hb⟩ (fun _=>J) (fun s hk=>?_);obtain⟨h1,hb2⟩:=hk;rcases s with b|⟨l,x,y⟩
 .
  have hA:gg t p v=(b,true):=h1.symm;refine cl (fu:=⟨0⟩) J o9 J<|ll 10 J<|gx J<|rz J (by rw[hA];rfl)
 .
  have hAn:=h1.symm;rw[gg,ru] at hAn;haveI:=hb2.1;refine cl (fu:=⟨0⟩) J n4 J<|pg 10 J<|gx J<|cl (fu:=⟨4⟩) J (BZ (l:=l) (p:=p) (i:=i) hi) J<|mg (X:=Int) (fun s8=>[(8, .d (vI s8))]) (fun s8=>[]) (fun s8=>s8=(if(l.value p).num.sign=0 then(l.nor.dot v).num.sign else(l.value p).num.sign)) [8] [] rfl ?_ (fun _=>J) (fun s8 hs8=>?_)
  .
   refine gx J<|br J J J (fun hc19=>?_) (fun hc19=>?_)
   .
    refine cl J (vd (l:=l)) J<|cl J (ux (p:=l.nor) (q:=v) (i:=97) (j:=j) (by decide) (by omega)) J<|cl J (lu (q:=l.nor.dot v) (by omega)) J<|at_ (l.nor.dot v).num.sign (if_pos hc19).symm
   .
    exact at_ (l.value p).num.sign (if_neg hc19).symm
  .
   rw[<-hs8] at hAn;refine br J J J (fun hc29=>?_) (fun hc29=>?_)
   .
    exact at_ x ⟨⟨by rw[hAn,hc29];rfl,hb2.2.1⟩,(by simp only[Tr.size];omega)⟩
   .
    refine br J J J (fun hc35=>?_) (fun hc35=>?_)
    .
     exact at_ y ⟨⟨by rw[hAn,hc35];rfl,hb2.2.2⟩,(by simp only[Tr.size];omega)⟩
    .
     exact rz J (by rw[hAn];split<;>first|rfl|contradiction)
def Nn[h:BQ q i](hi:i<=400000000:=by decide):PF GB prog 153 [eR q] (eF q):=by
 haveI:BN q.num.natAbs i:=⟨h.hn⟩;haveI:BN q.den i:=⟨h.hd⟩;refine fn func153 J J ntmps153 J J (fun C=>?_);refine cl (fu:=⟨0⟩) J (uT (n:=decide (q.num<0)) (a:=q.num.natAbs) (d:=q.den) (i:=i) (j:=i) (by omega) (by omega)) J<|aj 7 (.d (eF q)) J (by rw[mf,sZ])<|gx J<|rz J J
def Qj[h:aE p i](hi:i<=400000000:=by decide):PF GB prog 79 [nI p] (eZ p):=by
 refine fn func79 J J ntmps79 J J (fun C=>?_);refine cl J (Nn (q:=p.x) (i:=i) hi) J<|cl J (Nn (q:=p.y) (i:=i) hi) J<|rz J J
def aKj(G:Gh)(y:Value)(h:Is G (.sl [.ag [vI (dC 1),vI (dx 1),di 1,vI 0,vI 0, .v (.pointer none)]]) y):Is G (.sl ((lc []).map eZ)) y:=by
 obtain⟨s,x,es,rfl,h1,h2⟩:=gt.1 h;obtain⟨v,m,rfl,k,h3⟩:=bj.1 h2
 cases et.1 h3
 refine gt.2 ⟨s,x,_,J,h1, .cons ?_ .nil⟩;obtain⟨m4,rfl,g4⟩:=dO.1 k;obtain⟨v1,m1,rfl,k1,g1⟩:=bj.1 g4;obtain⟨v2,m2,rfl,k2,g2⟩:=bj.1 g1;obtain⟨v3,m3,rfl,k3,g3⟩:=bj.1 g2;obtain⟨m5,q5,g5⟩:=dO.1 (AN _ _ (dO.2 ⟨m3,rfl,g3⟩))
 cases q5
 exact dO.2 ⟨_,J, .cons k1 (.cons k2 (.cons k3 g5))⟩
def TV{k:Nat}{u:aa}(h1:ds[k]? =some u)(h2:ds[(k+1)%ds.length]? =some w):oP ds k=if 0<Int.sign (u.cross w).num then u.add w else fG u:=by
 unfold oP;rw[aW,aW,h1,h2];rfl
def Md(ds:List aa)(k:Nat):(List.range (k+1)).map (oP ds)=(List.range k).map (oP ds)++[oP ds k]:=by rw[pN,bX];rfl
def aFK:PF GB prog 148 [.sl []] (.sl ((lc []).map eZ)):=by
 refine fn (fu:=⟨10⟩) func148 J J ntmps148 J J (fun C=>?_);refine dP J (by rfl) J<|cl J (uR (by omega)) J<|rf J J<|jq J aKj
def aD9(h0:0<ds.length)(hb: ∀d∈ds,aE d i)(hn:ds.length<=10000000)(hi:i<=1000000:=by decide):PF GB prog 148 [.sl (ds.map eZ)] (.sl ((lc ds).map eZ)):=by
 have hml:(ds.map eZ).length=ds.length:=aX ..;refine fn (fu:=⟨10⟩) func148 J J ntmps148 J J (fun C=>?_);refine aj 8 (.d (vI (ds.length:Nat))) J (by rw[hml]<;>rfl)<|gx (fu:=⟨0⟩) J<|cg (fu:=⟨15⟩) J (by show some (decide _)=some false;rw[decide_eq_false (by omega)]) J<|aj 14 (.d (vI (ds.length:Nat))) J (by rw[hml]<;>rfl)<|gx J<|nr 3 3 160 6 J J J<|lp (X:=List aa×Nat) (fun⟨acc,k⟩=>[(15, .d (vI (k:Nat))),(3, .rw 3)]) (fun⟨acc,k⟩=>[(3,some (.b 160 6 (acc.map eZ) true))]) (fun⟨acc,k⟩=>acc=(List.range k).map (oP ds)/\k<=ds.length) (fun⟨acc,k⟩=>ds.length-k) ⟨[],0⟩ J ⟨J,bV _⟩ (fun _=>J) (fun⟨acc,k⟩ hk=>?_)
 try dsimp only at hk⊢
 obtain⟨h1,h2⟩:=hk;have hal:acc.length=k:=by rw[h1,aX,lW]
 have ham:(acc.map eZ).length=acc.length:=aX ..;refine br J J J (fun hc16=>?_) (fun hc16=>?_)
 .
  obtain⟨u,hx⟩: ∃u,ds[k]? =some u:=⟨_,aZ (by omega)⟩;obtain⟨w,hw⟩: ∃w,ds[(k+1)%ds.length]? =some w:=⟨_,aZ (dK _ (by omega))⟩;haveI:=hb u (aV hx);haveI:=hb w (aV hw);refine ix (fu:=⟨13⟩) _ J (cD hx) J<|aj 24 (.d (vI (ds.length:Nat))) J (by rw[hml]<;>rfl)<|gx (fu:=⟨1⟩) J<|aj 25 (.d (vI (((k+1)%ds.length:Nat):Int))) J J<|gx J<|ix _ J (cD hw) J<|cl J (AB (p:=u) (q:=w) (by omega) (by omega)) J<|cl J (lu (q:=u.cross w) (by omega)) J<|br J J J (fun hc32=>?_) (fun hc32=>?_)
  .
   refine cl J (Mi (p:=u) (q:=w) (by omega) (by omega)) J<|rf J J<|ap ((acc++[u.add w]).map eZ) J (by rw[bX]<;>rfl) (DK [u.add w]) J<|fw 38 3 J<|at_ ⟨acc++[u.add w],k+1⟩ (by dsimp only;exact⟨⟨by rw[Md,TV hx hw,if_pos hc32,<-h1],by omega⟩,(by omega)⟩)
  .
   refine cl J (TQ (p:=u) (by omega)) J<|rf J J<|ap ((acc++[fG u]).map eZ) J (by rw[bX]<;>rfl) (DK [fG u]) J<|fw 43 3 J<|at_ ⟨acc++[fG u],k+1⟩ (by dsimp only;exact⟨⟨by rw[Md,TV hx hw,if_neg hc32,<-h1],by omega⟩,(by omega)⟩)
 .
  obtain rfl:k=ds.length:=by omega
  have hS:lc ds=acc:=by unfold lc;rw[if_neg (by omega),h1]
  refine iu 3 J<|rz J (by rw[hS];rfl)
def awZ(hb: ∀d∈ds,aE d i)(hn:ds.length<=10000000)(hi:i<=1000000:=by decide):PF GB prog 148 [.sl (ds.map eZ)] (.sl ((lc ds).map eZ)):=by
 cases ds with
 |nil=>exact aFK
 |cons d ds=>exact aD9 (i:=i) (Nat.zero_lt_succ _) hb hn hi
def Oa{q:aa}[hp:aE p i][hq:aE q i](hi:i<=1000000:=by decide):PF GB prog 189 [eZ p,eZ q] (vB (decide (p.x=q.x/\p.y=q.y))):=by
 refine fn func189 J J ntmps189 J J (fun C=>?_);refine cl J (C7 (p:=p.x) (q:=q.x) (i:=i) (j:=i) (by omega) (by omega)) J<|csd 10 J J J (fun hg10=>?_) (fun hg10=>?_)
 .
  refine cl J (C7 (p:=p.y) (q:=q.y) (i:=i) (j:=i) (by omega) (by omega)) J<|rz J (by show DV.v (.bool _)= .v (.bool _);simp_all)
 .
  exact rz J (by show DV.v (.bool _)= .v (.bool _);simp_all)
def HU{q:aa}[hp:aE p i][hq:aE q j](hi:i<=10000000:=by decide)(hj:j<=10000000:=by decide):PF GB prog 128 [eZ p,eZ q] (eZ ⟨p.x-q.x,p.y-q.y⟩):=by
 refine fn func128 J J ntmps128 J J (fun C=>?_);refine cl J (qC (p:=p.x) (q:=q.x) (i:=i) (j:=j) (by omega) (by omega)) J<|cl J (qC (p:=p.y) (q:=q.y) (i:=i) (j:=j) (by omega) (by omega)) J<|rz J J
def YE(h: ¬gz q)(hy:Is G (di q) y):y= .pointer none:=by
 unfold di at hy;rw[decide_eq_false h] at hy;rcases td.1 hy with⟨_,e⟩|⟨e,_⟩
 .exact e
 .cases e
def UA(h: ¬gz q):Is G (di q) (.pointer none):=by
 unfold di;rw[decide_eq_false h];exact td.2 (.inl ⟨J,J⟩)
def xF(q:Rat):List Value:=[.int .i64 (dC q), .int .i64 (dx q), .pointer none]
def WY{t:List DV}{m:List Value}(h: ¬gz q)(hm:IsLs G (vI (dC q)::vI (dx q)::di q::t) m): ∃n,m=xF q++n/\IsLs G t n:=by
 obtain⟨y1,m1,rfl,h1,hm1⟩:=bj.1 hm;obtain⟨y2,m2,rfl,h2,hm2⟩:=bj.1 hm1;obtain⟨y3,m3,rfl,h3,hm3⟩:=bj.1 hm2;obtain rfl:=aI.1 h1;obtain rfl:=aI.1 h2;obtain rfl:=YE h h3;exact⟨m3,J,hm3⟩
def aCU{t:List DV}{n:List Value}(h: ¬gz q)(k:IsLs G t n):IsLs G (vI (dC q)::vI (dx q)::di q::t) (xF q++n):= .cons (aI.2 J) (.cons (aI.2 J) (.cons (UA h) k))
def rV(q:Rat):Value:= .agg ⟨xF q⟩
def aLF(h: ¬gz q)(hy:Is G (eF q) y):y=rV q:=by
 obtain⟨m,rfl,hm⟩:=dO.1 hy;obtain⟨n,rfl,hn⟩:=WY h hm;rw[et.1 hn];rfl
def YK(h: ¬gz q):Is G (eF q) (rV q):=dO.2 ⟨_,J,aCU h (et.2 J)⟩

def nD(v:List aa):List (List DV):=(List.range v.length).map fun i=>[vI (i:Nat),J8 (v.getD i ⟨0,0⟩) (v.getD ((i+1)%v.length) ⟨0,0⟩)]
def No{q:aa}(h1:v[i]? =some p)(h2:v[(i+1)%v.length]? =some q):(nD v)[i]? =some [vI (i:Nat),J8 p q]:=by
 have hi:=(aS.1 h1).1;unfold nD;rw[cV,pQ hi,kK,aW,aW,h1,h2];rfl
def HP{e:List DV}(h:(nD v)[i]? =some e): ∃p q,v[i]? =some p/\v[(i+1)%v.length]? =some q/\e=[vI (i:Nat),J8 p q]:=by
 have hi:i<v.length:=by
  have:=(aS.1 h).1;unfold nD at this;simpa using this
 have h1:v[i]? =some v[i]:=aZ hi;have hm:(i+1)%v.length<v.length:=dK _ (by omega);have h2:v[(i+1)%v.length]? =some v[(i+1)%v.length]:=aZ hm;refine⟨_,_,h1,h2,?_⟩;rw[No h1 h2] at h;exact(Option.some.inj h).symm
def Hg: ∀e∈nD v,e.length=2:=fun e he=>by
 obtain⟨i,_,rfl⟩:=aU.1 he;rfl
def Kg(hn:v.length<=100000:=by omega):It GB prog 202 [.pt [.sl (v.map eZ)]] (nD v):=by
 have hml:(v.map eZ).length=v.length:=aX ..;have hrl:(nD v).length=v.length:=by unfold nD;simp
 refine aLo func202 J J ntmps202 J (fun _=>J) (fun l Jv Jx GB' hg H C hp hJ=>?_);refine ptE 1 J<|gx J<|aj 6 (.d (vI (v.length:Nat))) J (by rw[hml]<;>rfl)<|lpC (X:=Nat) (fun k=>[(0, .d (.v (.func (.yield l) #[] #[]))),(1, .ep [.sl (v.map eZ)]),(5, .d (.sl (v.map eZ))),(6, .d (vI (v.length:Nat))),(7, .d (vI (k:Nat)))]) (fun k C=>k<=v.length/\Jv k C.G0 C.w0) (fun k=>v.length-k) 0 hp ⟨bV _,hJ⟩ (fun _=>J) (fun k C1 hp1 hk=>?_);obtain⟨hk1,hJ1⟩:=hk;refine br J J J (fun hc8=>?_) (fun hc8=>?_)
 .obtain⟨p,hpx⟩: ∃u,v[k]? =some u:=⟨_,aZ (by omega)⟩
  obtain⟨q,hqx⟩: ∃u,v[(k+1)%v.length]? =some u:=⟨_,aZ (dK _ (by omega))⟩;refine ix _ J (cD hpx) J<|aj 20 (.d (vI (((k+1)%v.length:Nat):Int))) J (by rw[hml]<;>rfl)<|gx J<|ix _ J (cD hqx) J<|V2 (len:=2) (s:=6) (e:=160) J (by kernel_rfl) (by kernel_rfl) J<|Ym (by kernel_rfl) J ?_;refine cy [(0, .d (.v (.func (.yield l) #[] #[]))),(1, .ep [.sl (v.map eZ)]),(5, .d (.sl (v.map eZ))),(6, .d (vI (v.length:Nat))),(7, .d (vI (k:Nat)))] H hp1 hJ1 J (No hpx hqx) J (by repeat (first|exact trivial|refine And.intro J ?_)) J J J (fun C3 hp3 hJ3=>?_) (fun C3 hp3 hJ3=>?_)
  .exact ZC (k+1) hp3 ⟨⟨by omega,hJ3⟩,by omega⟩
  .exact T2 H hp3 (.inr hJ3) J
 .obtain rfl:k=v.length:=by omega
  exact T2 H hp1 (.inl (by rw[hrl];exact hJ1)) J
def IA:Jt GB prog 127 [.sl (v.map eZ)] 202 (.pt [.sl (v.map eZ)]):=by
 refine aLJ func127 J J ntmps127 J J (fun C=>?_);refine fz 1 J J<|aKr 1 J (fun GB' pv hg hp=>?_);refine UM J J<|aLK J J hp
def aJ1:Ij 158:=fun x w=>by kernel_rfl
def aJ9(m:List Value):DQ 158 (.agg ⟨m⟩) "Mul" 215:=fun w=>by kernel_rfl
def Xn(l:List Rat)(k:Nat)(y:Rat):(l.map eF).set k (eF y)=(l.set k y).map eF:=(kQ ..).symm
def nA(L:List Rat)(k:Rat)(j:Nat):List Rat:=(L.take j).map (· *k)++L.drop j
def Xe(L:List Rat)(k:Rat)(j:Nat):(nA L k j).length=L.length:=by
 unfold nA;rw[aY,aX,bR,gU];omega
def aCP{k a:Rat}(h:L[j]? =some a):(nA L k j)[j]? =some a:=by
 have hj:=(aS.1 h).1;unfold nA;rw[gV (by rw[aX,bR];omega),aX,bR,lR,<-h];congr 1;omega
def aDf{k a:Rat}(h:L[j]? =some a):(nA L k j).set j (a*k)=nA L k (j+1):=by
 have hj:=(aS.1 h).1;unfold nA;rw[dR,h,nM _ _ (by rw[aX,bR];omega),aX,bR,show j-min j L.length=0 by omega,bJ hj];simp only[pL,bX,bU,gN,List.set_cons_zero,dX,iX,kZ]
def Nc{k:Rat}[hk:BQ k i](hL: ∀a∈L,¬gz a)(hb: ∀a∈L,BQ a i)(hn:L.length<=1000)(hi:i<=1000000:=by decide):PB GB prog 199 (dB [some (eF k),none]) 3 158 (L.map eF) (fun w=> .v (.slice w.a w.n w.c)) ((L.map (· *k)).map eF):=by
 have hml:(L.map eF).length=L.length:=aX ..;refine r6 (fu:=⟨11⟩) func199 J J ntmps199 J J (fun C=>?_);refine aj 7 (.d (vI (L.length:Nat))) J (by rw[hml]<;>rfl)<|gx J<|lp (X:=Nat) (fun j=>[(8, .d (vI (j:Nat)))]) (fun j=>[(1000000,some (.b 158 3 ((nA L k j).map eF) false))]) (fun j=>j<=L.length) (fun j=>L.length-j) 0 J (bV _) (fun _=>J) (fun j hk=>?_);have hsl:=Xe L k j;have hsm:((nA L k j).map eF).length=(nA L k j).length:=aX ..;refine br J J J (fun hc9=>?_) (fun hc9=>?_)
 .
  obtain⟨a,hx⟩: ∃u,L[j]? =some u:=⟨_,aZ (by omega)⟩;have ham:=aV hx;haveI:=hb a ham;have hga:(nA L k j)[j]? =some a:=aCP hx;refine lb (fu:=⟨0⟩) _ J (cD hga) J<|mki (fu:=⟨1⟩) (rV a) J aJ1 (fun G y hy=>aLF (hL a ham) hy) J<|ivk J (aJ9 _) (PF.arg0 (pf (p:=a) (q:=k) (i:=i) (j:=i) (by omega) (by omega)) (fun G y h=>by rw[aI.1 h];exact YK (hL a ham))) J<|sb (hv:=by simp only[ak];exact⟨by kernel_rfl,by omega⟩) _ ((nA L k (j+1)).map eF) J (cD hga) J (by rw[<-aDf hx,<-Xn]<;>rfl) J<|at_ (j+1) ⟨(by omega),(by omega)⟩
 .
  obtain rfl:j=L.length:=by omega
  have hend:nA L k L.length=L.map (· *k):=by unfold nA;rw[dQ,fW,fK]
  exact mc J J J (by rw[hend])
def Jq{a:Int}{g:Nat}(hg:0<g)(hd:g∣a.natAbs):(a:Rat)*(((g:Nat):Int):Rat)⁻¹=((zv (decide (a<0)) (a.natAbs/g):Int):Rat):=by
 obtain⟨q,hq⟩:=hd;have e:zv (decide (a<0)) (a.natAbs/g)*(g:Int)=a:=by
  rw[hq,rL q hg];unfold zv;have hc:((g*q:Nat):Int)=(g:Int)*(q:Int):=by simp
  have hm:=sQ (g:Int) (q:Int);split
  .rename_i h
   have h:=of_decide_eq_true h;rw[Int.neg_mul];omega
  .rename_i h
   have h: ¬a<0:=fun k=>h (decide_eq_true k);omega
 generalize zv (decide (a<0)) (a.natAbs/g)=z at*;have h0:((g:Int):Rat)≠0:=by
  intro k;have:(g:Int)=0:=by exact_mod_cast k
  omega
 rw[<-e,cX];generalize ((g:Int):Rat)=r at*;grind
def yr{k:Nat}(h:BQ q k)(hk:k<=62:=by decide): ¬gz q:=fun b=>b (by
 have hp:2^k<=2^62:=bL (by decide) hk;have e:(2:Nat)^62=4611686018427387904:=by decide
 obtain⟨h1,h2⟩:=h;exact⟨by omega,by omega⟩)
theorem D7(p q:aa)[aE p i][aE q j]:aE ⟨p.x-q.x,p.y-q.y⟩ (i+j+1):=⟨inferInstanceAs (BQ (p.x-q.x) _),inferInstanceAs (BQ (p.y-q.y) _)⟩
theorem TD(h:z.natAbs<=1000000):BQ (z:Rat) 22:=by
 have e:(2:Nat)^21=2097152:=by decide
 haveI:BI z 21:=⟨by omega⟩;exact(inferInstance:BQ (z:Rat) 22)
theorem IM{z:ZP}(h:ZP.le 100 z):aE z.q 22:=⟨TD (by have:=h.1;omega),TD (by have:=h.2;omega)⟩
def PS{k:Nat}(h:(r.map ZP.q)[k]? =some p):k<r.length/\p=(r.getD k (0,0)).q:=by
 rw[cV] at h
 cases e:r[k]? with
 |none=>rw[e] at h;cases h
 |some z=>
  rw[e] at h;cases h;exact⟨(aS.1 e).1,by rw[aW,e];rfl⟩
end Go.Sx
end
