import Derived.Test.YtefoocgiaegobaaGreatDoorPh17
set_option linter.all false
set_option maxHeartbeats 4000000
set_option maxRecDepth 100000
section
namespace Go.Sx
open Go Go.Proofs Tryz
variable {GB:Gh}
def mB(c:aE)(m:ab):Bool:=cP c m&&cP c m.rev
def s9{c:aE}(hc:dG c){m:ab}(hm:m.ok):mB c m=true↔BK m c:=by
 unfold mB;rw[aL];constructor
 ·rintro ⟨h1,h2⟩
  obtain⟨p,hp,k1⟩:=(rG hc hm).1 h1;obtain⟨q,hq,k2⟩:=(rG hc hm.rev).1 h2;rw[fI] at k2;generalize hA:m.value p=A at*;generalize hB:m.value q=B at*;have hAB:0<A-B:=by grind
  have e:A/(A-B)*(A-B)=A:=by grind
  generalize A/(A-B)=r at*;have r0:0<=r:=(jt hAB).1 (by rw[e];exact fQ k1);have r1:r<=1:=by
   have:=(jt (s:=1-r) hAB).1 (by grind);grind
  exact⟨bp p q r,hp.seg hq r0 r1,by rw[ku,hA,hB];grind⟩
 ·rintro ⟨p,hp,h0⟩
  exact Lc hc hm hp h0
def xB(c:aE)(m n:ab):Bool:=decide (¬m.same n)&&(decide (n.value (vL m n)=0)&&po c (vL m n))
def pc{c:aE}{m n:ab}(hm:m.ok)(hn:n.ok):xB c m n=true↔ ¬m.same n/\ ∃z,bH c z/\m.value z=0/\n.value z=0:=by
 unfold xB;rw[aL,aL,decide_eq_true_eq,decide_eq_true_eq,qk];constructor
 ·rintro ⟨h1,h2,h3⟩
  exact⟨h1,_,h3,rm hm.ne _,h2⟩
 ·rintro ⟨h1,z,hz,k1,k2⟩
  rcases Bi hm hn k1 k2 with h|h
  ·exact absurd h h1
  ·rw[<-h];exact⟨h1,k2,hz⟩
def Ga{c:aE}{m n:ab}(hm:m.ok)(hn:n.ok):xB c m n=xB c n m:=by
 rw[oT,pc hm hn,pc hn hm];constructor<;>(rintro ⟨h,z,hz,k1,k2⟩;exact⟨fun e=>h e.symm,z,hz,k2,k1⟩)
def gH(f:ab->Nat):List ab->Nat
 |[]=>0
 |m::K=>f m+gH f K
def bN(b:Bool):Nat:=if b then 1 else 0
def OR{f g:ab->Nat}: ∀{K:List ab},(∀m∈K,f m<=g m)->gH f K<=gH g K
 |[],_=>aN _
 |m::K,h=>by
  have:=OR (f:=f) (g:=g) (K:=K) fun n hn=>h n (aZ _ hn);have:=h m aQ;show f m+gH f K<=g m+gH g K;omega
def wv(f g:ab->Nat): ∀K,gH (fun m=>f m+g m) K=gH f K+gH g K
 |[]=>rfl
 |m::K=>by
  have:=wv f g K;show f m+g m+gH (fun m=>f m+g m) K=f m+gH f K+(g m+gH g K);omega
def xZ{f g:ab->Nat}{d:Nat}{m0:ab}: ∀{K:List ab},(∀m∈K,f m<=g m)->m0∈K->f m0+d<=g m0->gH f K+d<=gH g K
 |[],_,h,_=>by cases h
 |m::K,h,hm,hd=>by
  have i1:=OR (f:=f) (g:=g) (K:=K) fun n hn=>h n (aZ _ hn);have:=h m aQ;show f m+gH f K+d<=g m+gH g K;rcases aU.1 hm with rfl|hm
  ·omega
  ·have:=xZ (f:=f) (g:=g) (d:=d) (K:=K) (fun n hn=>h n (aZ _ hn)) hm hd
   omega
def yw{f:ab->Nat}{B:Nat}: ∀{K:List ab},(∀m∈K,f m<=B)->gH f K<=K.length*B
 |[],_=>cJ _
 |m::K,h=>by
  have:=yw (f:=f) (B:=B) (K:=K) fun n hn=>h n (aZ _ hn);have:=h m aQ;show f m+gH f K<=(K.length+1)*B;rw[gQ];omega
def ww(K:List ab)(c:aE):Nat:=gH (fun m=>bN (mB c m)) K
def jw(K:List ab)(c:aE)(m:ab):Nat:=gH (fun n=>bN (xB c m n)) K
def xm(K:List ab)(c:aE):Nat:=gH (jw K c) K
def N3(b:Bool):bN b<=1:=by cases b<;>decide
def Yi{K:List ab}(hK: ∀m∈K,m.ok){c:aE}(hc:dG c){n m0:ab}(hn:n.ok)(h0:m0∈K)(hs:m0.same n)(hb:cP c n=true)(hb2:cP c n.rev=true):
  ww K (bF c n)+ww K (bF c n.rev)+1<=ww K c+jw K c m0/\xm K (bF c n)+xm K (bF c n.rev)+2*jw K c m0<=xm K c:=by
 obtain⟨g1,i1⟩:=j' hc hn hb;obtain⟨g2,i2⟩:=j' hc hn.rev hb2;have i2: ∀p,bH (bF c n.rev) p↔bH c p/\n.value p<0:=fun p=>by rw[i2,fI];constructor<;>(rintro ⟨a,b⟩;exact⟨a,by grind⟩)
 have hm0:=hK m0 h0;have z1: ∀m,m.ok->(mB (bF c n) m=true->mB c m=true)/\(mB (bF c n.rev) m=true->mB c m=true):=fun m hm=>by
  rw[s9 g1 hm,s9 g2 hm,s9 hc hm];exact⟨fun⟨p,hp,k⟩=>⟨p,((i1 p).1 hp).1,k⟩,fun⟨p,hp,k⟩=>⟨p,((i2 p).1 hp).1,k⟩⟩
 have z2: ∀m,m.ok->mB (bF c n) m=true->mB (bF c n.rev) m=true->xB c m0 m=true:=fun m hm h1 h2=>by
  obtain⟨p,hp,k1⟩:=(s9 g1 hm).1 h1;obtain⟨q,hq,k2⟩:=(s9 g2 hm).1 h2;obtain⟨hp,ap⟩:=(i1 p).1 hp;obtain⟨hq,aq⟩:=(i2 q).1 hq;rw[pc hm0 hm];refine⟨fun e=>?_,?_⟩
  ·rw[o5 hs (o5 e.symm k1)] at ap;grind
  generalize hA:n.value p=A at*;generalize hB:n.value q=B at*;have hAB:0<A-B:=by grind
  have e:A/(A-B)*(A-B)=A:=by grind
  generalize A/(A-B)=r at*;have r0:0<=r:=(jt hAB).1 (by rw[e];exact fQ ap);have r1:r<=1:=by
   have:=(jt (s:=1-r) hAB).1 (by grind);grind
  exact⟨bp p q r,hp.seg hq r0 r1,o5 hs.symm (by rw[ku,hA,hB];grind),by rw[ku,k1,k2];grind⟩
 have w1: ∀m m',m.ok->m'.ok->xB (bF c n) m m'=true->xB c m m'=true/\ ¬xB (bF c n.rev) m m'=true:=fun m m' hm hm' h=>by
  rw[pc hm hm'] at h;obtain⟨e,z,hz,k1,k2⟩:=h;obtain⟨hz,az⟩:=(i1 z).1 hz;refine⟨(pc hm hm').2 ⟨e,z,hz,k1,k2⟩,fun h=>?_⟩;obtain⟨_,y,hy,j1,j2⟩:=(pc hm hm').1 h;obtain⟨hy,ay⟩:=(i2 y).1 hy;rcases Bi hm hm' k1 k2 with h|h
  ·exact e h
  ·rcases Bi hm hm' j1 j2 with h'|h'
   ·exact e h'
   ·rw[h'] at ay;rw[h] at az;grind
 have w2: ∀m m',m.ok->m'.ok->xB (bF c n.rev) m m'=true->xB c m m'=true:=fun m m' hm hm' h=>by
  rw[pc hm hm'] at h⊢;obtain⟨e,z,hz,k1,k2⟩:=h;exact⟨e,z,((i2 z).1 hz).1,k1,k2⟩
 have w3: ∀m,m.ok->xB (bF c n) m m0=false/\xB (bF c n.rev) m m0=false:=fun m hm=>by
  constructor
  ·rw[<-mQ,pc hm hm0]
   rintro ⟨_,z,hz,_,k2⟩;have:=((i1 z).1 hz).2;rw[o5 hs k2] at this;grind
  ·rw[<-mQ,pc hm hm0]
   rintro ⟨_,z,hz,_,k2⟩;have:=((i2 z).1 hz).2;rw[o5 hs k2] at this;grind
 have hmm: ∀d,xB d m0 m0=false:=fun d=>by
  rw[<-mQ,pc hm0 hm0];rintro ⟨h,_⟩;exact h (.inl rfl)
 have n1: ∀d:aE,dG d->(∀p,bH d p->n.value p≠0)->mB d m0=false:=fun d hd h=>by
  rw[<-mQ,s9 hd hm0];rintro ⟨p,hp,k⟩;exact h p hp (o5 hs k)
 have n2:mB c m0=true:=by
  rw[s9 hc hm0];obtain⟨p,hp,k⟩:=(s9 hc hn).1 (by unfold mB;rw[hb,hb2];rfl);exact⟨p,hp,o5 hs.symm k⟩
 constructor
 ·unfold ww jw
  rw[<-wv,<-wv];refine xZ (m0:=m0) (d:=1) (fun m hm=>?_) h0 ?_
  ·have hmk:=hK m hm
   obtain⟨a1,a2⟩:=z1 m hmk;have a3:=z2 m hmk
   try dsimp only
   cases e1:mB (bF c n) m<;>cases e2:mB (bF c n.rev) m<;>simp only[e1,e2,forall_const,reduceCtorEq,false_implies] at a1 a2 a3<;>simp_all [bN]
  ·try dsimp only
   rw[n1 _ g1 (fun p hp=>by have:=((i1 p).1 hp).2;grind),n1 _ g2 (fun p hp=>by have:=((i2 p).1 hp).2;grind),n2,hmm];decide
 ·have row: ∀m∈K,jw K (bF c n) m+jw K (bF c n.rev) m+bN (xB c m m0)<=jw K c m:=fun m hm=>by
   have hmk:=hK m hm;unfold jw;rw[<-wv];refine xZ (m0:=m0) (d:=bN (xB c m m0)) (fun m' hm'=>?_) h0 ?_
   ·have hmk':=hK m' hm'
    have b1:=w1 m m' hmk hmk';have b2:=w2 m m' hmk hmk'
    try dsimp only
    cases e1:xB (bF c n) m m'<;>cases e2:xB (bF c n.rev) m m'<;>simp_all [bN]
   ·obtain⟨c1,c2⟩:=w3 m hmk
    try dsimp only
    rw[c1,c2];simp[bN]
  have r0:jw K (bF c n) m0=0/\jw K (bF c n.rev) m0=0:=by
   have z: ∀d,(∀m∈K,xB d m0 m=false)->jw K d m0=0:=fun d h=>by
    have:=yw (f:=fun m=>bN (xB d m0 m)) (B:=0) (K:=K) fun m hm=>by rw[h m hm];decide
    unfold jw;omega
   exact⟨z _ fun m hm=>by rw[Ga hm0 (hK m hm)];exact(w3 m (hK m hm)).1,z _ fun m hm=>by rw[Ga hm0 (hK m hm)];exact(w3 m (hK m hm)).2⟩
  have cs:gH (fun m=>bN (xB c m m0)) K=jw K c m0:=by
   unfold jw;have key: ∀Jv:List ab,(∀m∈Jv,m.ok)->gH (fun m=>bN (xB c m m0)) Jv=gH (fun m=>bN (xB c m0 m)) Jv:=fun Jv=>by
    induction Jv with
    |nil=>intro _;rfl
    |cons a Jv ih=>
     intro h;show bN (xB c a m0)+_=bN (xB c m0 a)+_;rw[ih fun m hm=>h m (aZ _ hm),Ga (h a aQ) hm0]
   exact key K hK
  have:=xZ (f:=fun m=>jw K (bF c n) m+jw K (bF c n.rev) m+bN (xB c m m0)) (g:=jw K c) (d:=jw K c m0) (m0:=m0) row h0 (by rw[r0.1,r0.2,hmm];simp[bN]);rw[wv,wv,cs] at this;unfold xm;omega
def DS{K:List ab}(hK: ∀m∈K,m.ok): ∀{t:Tr} {c:aE},t.Prp c->t.all ab.ok->dG c->mE K t->2*t.size<=2*ww K c+xm K c
 | .leaf _,_,_,_,_,_=>cJ _
 | .node n x y,c,⟨h1,h2,h3,h4⟩,⟨hn,hx,hy⟩,hc,⟨⟨m0,hm0,hs⟩,kx,ky⟩=>by
  obtain⟨g1,_⟩:=j' hc hn h1;obtain⟨g2,_⟩:=j' hc hn.rev h2;have a:=DS hK h3 hx g1 kx;have b:=DS hK h4 hy g2 ky;obtain⟨d1,d2⟩:=Yi hK hc hn hm0 hs h1 h2;rw[Tr.size];omega
def Uw{K:List ab}(hK: ∀m∈K,m.ok){t:Tr}{c:aE}(h:t.Prp c)(ht:t.all ab.ok)(hc:dG c)(hA:mE K t):2*t.size<=K.length*(K.length+1):=by
 have h1:=DS hK h ht hc hA;have h2:ww K c<=K.length*1:=yw fun m _=>N3 _;have h3:xm K c<=K.length*(K.length-1):=yw fun m hm=>by
  have:=xZ (f:=fun n=>bN (xB c m n)) (g:=fun _=>1) (d:=1) (m0:=m) (K:=K) (fun n _=>N3 _) hm (by
   have:xB c m m=false:=by rw[<-mQ,pc (hK m hm) (hK m hm)];rintro ⟨h,_⟩;exact h (.inl rfl)
   rw[this];decide)
  have l1:gH (fun _=>1) K<=K.length*1:=yw fun _ _=>aN _;unfold jw;omega
 have:K.length*(K.length+1)=K.length*(K.length-1)+2*K.length:=by
  cases K.length with
  |zero=>rfl
  |succ k=>rw[Nat.succ_sub_one,Nat.mul_succ,Nat.mul_succ,gQ];omega
 omega
section
variable {GB:Gh} {ai al ae:Addr} (hE:EG GB ai al ae) {j k:Nat} {a b:Tr} (ha:pA j a) (hb:pA k b)
include hE ha
include hb
end
section
variable {GB:Gh} {ai al ae:Addr} (hE:EG GB ai al ae)
include hE
end
def ptZ:DV:= .ag [vI 0,vI 0, .v (.pointer none),vI 0,vI 0, .v (.pointer none)]
def apZ:DV:= .ag [.v (.bool false), .sl [], .sl [], .v (.bool false), .sl [], .sl []]
def ZM{c:aE}(hc:jb c)(hn:c.length<=100000):PF GB prog 255 [eC c] (eZ (o7 c)):=by
 cases c with
 |nil=>exact au0
 |cons s cs=>exact WH hc (by rw[bK] at hn;omega)
def FK(d:Rat):Prop:=True
theorem Jf{s:aP}{p:aa}: ∀{c:aE} {f:Rat},BQ f 9000->(∀g∈c,BQ (-(g.l.value p/g.l.nor.dot s.l.nor)) 9000)->BQ (iI s.l p c f) 9000
 |[],f,h,_=>h
 |g::c,f,h,k=>by
  rw[iI];refine Jf ?_ fun u hu=>k u (aZ _ hu);split
  ·split
   ·exact k g aQ
   ·exact h
  ·exact h
theorem Te{c:aE}(hc:jb c):aG (o7 c) 20000:=by
 cases c with
 |nil=>exact⟨BQ.mono (k:=2) ⟨by decide,by decide⟩ (by decide),BQ.mono (k:=2) ⟨by decide,by decide⟩ (by decide)⟩
 |cons s cs=>
  have hs:=hc s aQ;haveI:=hs.lb;haveI:=Er hs;haveI:=Jf (s:=s) (p:=s.l.at s.v.sample) (c:=cs) (f:=1) (BQ.mono (k:=2) ⟨by decide,by decide⟩ (by decide)) fun g hg=>FF hs (hc g (aZ _ hg));rw[Oq];have:=(inferInstance:aG ((s.l.at s.v.sample).add (s.l.nor.scale (iI s.l (s.l.at s.v.sample) cs 1*mkRat 1 2))) _);exact⟨this.x.mono (by decide),this.y.mono (by decide)⟩
def Bx(l:List aa):fm 6 (l.map eZ):=fun d hd=>by
 obtain⟨x,_,rfl⟩:=bW.1 hd;exact⟨J,J⟩
instance aG.negp (p:aa) (i:Nat) [h:aG p i]:aG (bO p) i:=⟨inferInstanceAs (BQ (-p.x) i),inferInstanceAs (BQ (-p.y) i)⟩
instance aG.prip (l:ab) [LB l]:aG (dx l.dir) 500:=by
 have h:=(inferInstance:aG (l.dir.scale (rgcd l.dir.x l.dir.y)⁻¹) _);exact⟨h.x.mono (by decide),h.y.mono (by decide)⟩
def ZG{p:aa}{i:Nat}[h:aG p i](hi:i<=900000000:=by decide):PF GB prog 320 [eZ p] (eZ (bO p)):=by
 refine fn func320 J J ntmps320 J J (fun C=>?_);refine cl J (lw (q:=p.x) (i:=i) hi) J<|cl J (lw (q:=p.y) (i:=i) hi) J<|?_;exact rz J J
def Ci{p:aa}{i:Nat}[h:aG p i](hi:i<=900000000:=by decide):PF GB prog 242 [eZ p] (eZ (jl p)):=by
 refine fn func242 J J ntmps242 J J (fun C=>?_);refine cl J (lw (q:=p.y) (i:=i) hi) J<|?_;exact rz J J
def YE{p:aa}{i:Nat}[h:aG p i](hi:i<=1000000:=by decide):PF GB prog 319 [eZ p] (eZ (dx p)):=by
 refine fn func319 J J ntmps319 J J (fun C=>?_);refine cl J (kC (p:=p.x) (q:=p.y) (i:=i) (j:=i) (by omega) (by omega)) J<|cl J (vr (q:=rgcd p.x p.y) (i:=i+i+(i+i)) (by omega)) J<|?_;refine cl J (BU (p:=p) (c:=(rgcd p.x p.y)⁻¹) (i:=i) (j:=i+i+(i+i)) (by omega) (by omega)) J<|?_;exact rz J J
def Aa(l:ab)(x y:Tr)(p:aa):dC (.node l x y) p=(if Int.sign (l.value p).num=0 then [dx l.dir,bO (dx l.dir)] else [])++((if 0<=Int.sign (l.value p).num then dC x p else [])++(if Int.sign (l.value p).num<=0 then dC y p else [])):=by
 unfold dC;rw[ki,qJ,qJ];congr 1
 ·split<;>simp
 ·congr 1<;>split<;>simp
def B8: ∀(t:Tr) (p:aa),(dC t p).length<=2*t.size
 | .leaf _,_=>cJ _
 | .node l x y,p=>by
  have h1:=B8 x p;have h2:=B8 y p;rw[Aa,aT,aT,Tr.size];split<;>split<;>split<;>simp only[bK,iU]<;>omega
def TL{b:Bool}{p:aa}{o:List aa}:PB GB prog 222 (gq [some (eU (.leaf b)),some (eZ p),none]) 6 141 (o.map eZ) (fun w=> .v (.slice w.a w.n w.c)) ((o++dC (.leaf b) p).map eZ):=by
 refine uN func222 J J ntmps222 J J (fun C=>?_);refine cl (fu:=⟨0⟩) J uz J<|?_;refine jH 10 J ?_;refine gx J<|?_;exact ru J J J (by show _=(o++[]).map eZ;rw[iK])
def XO{l:ab}{x y:Tr}{p:aa}{i:Nat}[hp:aG p i](hl:LB l)(hi:i<=10000000){o:List aa}(hs:o.length+2*(Tr.node l x y).size<=1000000)(hz:Int.sign (l.value p).num=0)(ihx: ∀{o:List aa},o.length+2*x.size<=1000000->PB GB prog 222 (gq [some (eU x),some (eZ p),none]) 6 141 (o.map eZ) (fun w=> .v (.slice w.a w.n w.c)) ((o++dC x p).map eZ))(ihy: ∀{o:List aa},o.length+2*y.size<=1000000->PB GB prog 222 (gq [some (eU y),some (eZ p),none]) 6 141 (o.map eZ) (fun w=> .v (.slice w.a w.n w.c)) ((o++dC y p).map eZ)):PB GB prog 222 (gq [some (eU (.node l x y)),some (eZ p),none]) 6 141 (o.map eZ) (fun w=> .v (.slice w.a w.n w.c)) ((o++dC (.node l x y) p).map eZ):=by
 haveI:=hl;have hz2:(Tr.node l x y).size=1+x.size+y.size:=J;have hp1:=B8 x p;refine uN func222 J J ntmps222 J J (fun C=>?_);refine cl (fu:=⟨0⟩) J sv J<|?_;refine qD 10 J ?_;refine gx J<|cl (fu:=⟨7⟩) J (ux (l:=l) (p:=p) (i:=i) hi) J<|fD J (by show some (decide _)=some true;rw[decide_eq_true (by omega)]) J<|?_;refine cl J (ul (l:=l)) J<|cl J (YE (p:=l.dir) (i:=97)) J<|cl J (ZG (p:=dx l.dir) (i:=500)) J<|rf J J<|?_;refine Rd (fu:=⟨7⟩) ((o++[dx l.dir,bO (dx l.dir)]).map eZ) J (by rw[iJ]<;>rfl) (Bx [dx l.dir,bO (dx l.dir)]) J<|fD J (by show some (decide _)=some true;rw[decide_eq_true (by omega)]) J<|?_;refine cq (fu:=⟨7⟩) (((o++[dx l.dir,bO (dx l.dir)])++dC x p).map eZ) J (ihx (by rw[aT,bK,bK,iU];omega)) J J<|?_;refine fD J (by show some (decide _)=some true;rw[decide_eq_true (by omega)]) J<|cq _ J (ihy (by rw[aT,aT,bK,bK,iU];omega)) J J<|?_;exact ru J J J (by rw[Aa,hz];simp)
def Vs{l:ab}{x y:Tr}{p:aa}{i:Nat}[hp:aG p i](hl:LB l)(hi:i<=10000000){o:List aa}(hs:o.length+2*(Tr.node l x y).size<=1000000)(hz:Int.sign (l.value p).num=1)(ihx: ∀{o:List aa},o.length+2*x.size<=1000000->PB GB prog 222 (gq [some (eU x),some (eZ p),none]) 6 141 (o.map eZ) (fun w=> .v (.slice w.a w.n w.c)) ((o++dC x p).map eZ)):PB GB prog 222 (gq [some (eU (.node l x y)),some (eZ p),none]) 6 141 (o.map eZ) (fun w=> .v (.slice w.a w.n w.c)) ((o++dC (.node l x y) p).map eZ):=by
 haveI:=hl;have hz2:(Tr.node l x y).size=1+x.size+y.size:=J;refine uN func222 J J ntmps222 J J (fun C=>?_);refine cl (fu:=⟨0⟩) J sv J<|?_;refine qD 10 J ?_;refine gx J<|cl (fu:=⟨7⟩) J (ux (l:=l) (p:=p) (i:=i) hi) J<|eo (fu:=⟨9⟩) J (by show some (decide _)=some false;rw[decide_eq_false (by omega)]) J<|?_;refine fD J (by show some (decide _)=some true;rw[decide_eq_true (by omega)]) J<|cq (fu:=⟨7⟩) _ J (ihx (by omega)) J J<|eo J (by show some (decide _)=some false;rw[decide_eq_false (by omega)]) J<|?_;exact ru J J J (by rw[Aa,hz];simp)
def Uu{l:ab}{x y:Tr}{p:aa}{i:Nat}[hp:aG p i](hl:LB l)(hi:i<=10000000){o:List aa}(hs:o.length+2*(Tr.node l x y).size<=1000000)(hz:Int.sign (l.value p).num= -1)(ihy: ∀{o:List aa},o.length+2*y.size<=1000000->PB GB prog 222 (gq [some (eU y),some (eZ p),none]) 6 141 (o.map eZ) (fun w=> .v (.slice w.a w.n w.c)) ((o++dC y p).map eZ)):PB GB prog 222 (gq [some (eU (.node l x y)),some (eZ p),none]) 6 141 (o.map eZ) (fun w=> .v (.slice w.a w.n w.c)) ((o++dC (.node l x y) p).map eZ):=by
 haveI:=hl;have hz2:(Tr.node l x y).size=1+x.size+y.size:=J;refine uN func222 J J ntmps222 J J (fun C=>?_);refine cl (fu:=⟨0⟩) J sv J<|?_;refine qD 10 J ?_;refine gx J<|cl (fu:=⟨7⟩) J (ux (l:=l) (p:=p) (i:=i) hi) J<|eo (fu:=⟨9⟩) J (by show some (decide _)=some false;rw[decide_eq_false (by omega)]) J<|?_;refine eo (fu:=⟨9⟩) J (by show some (decide _)=some false;rw[decide_eq_false (by omega)]) J<|fD J (by show some (decide _)=some true;rw[decide_eq_true (by omega)]) J<|?_;refine cq _ J (ihy (by omega)) J J<|?_;exact ru J J J (by rw[Aa,hz];simp)
def xE{p:aa}{i:Nat}[hp:aG p i](hi:i<=10000000:=by decide): ∀{t:Tr} {o:List aa},t.all LB->o.length+2*t.size<=1000000->PB GB prog 222 (gq [some (eU t),some (eZ p),none]) 6 141 (o.map eZ) (fun w=> .v (.slice w.a w.n w.c)) ((o++dC t p).map eZ)
 | .leaf _,_,_,_=>TL
 | .node l x y,_,hb,hs=>by
  have hz2:(Tr.node l x y).size=1+x.size+y.size:=J;rcases lK (l.value p).num 0 with h|h|h
  ·exact Uu hb.1 hi hs (dY h) fun k=>xE hi hb.2.2 k
  ·exact XO hb.1 hi hs (by rw[h];rfl) (fun k=>xE hi hb.2.1 k) fun k=>xE hi hb.2.2 k
  ·exact Vs hb.1 hi hs (dS h) fun k=>xE hi hb.2.1 k
def asH{t:Tr}{p v:aa}{i j:Nat}[hp:aG p i][hv:aG v j](hb:t.all LB)(hi:i<=10000000:=by decide)(hj:j<=10000000:=by decide):PF GB prog 223 [eU t,eZ p,eZ v] (.tp [vB (eG t p v).1,vB (eG t p v).2]):=by
 refine fn func223 J J ntmps223 J J (fun C=>?_);refine lp (X:=Tr) (fun s=>[(0, .d (eU s))]) (fun s=>[]) (fun s=>eG s p v=eG t p v/\s.all LB) (fun s=>s.size) t J ⟨J,hb⟩ (fun _=>J) (fun s hk=>?_);obtain⟨h1,hb2⟩:=hk;rcases s with b|⟨l,x,y⟩
 .
  have hA:eG t p v=(b,true):=h1.symm;refine cl (fu:=⟨0⟩) J uz J<|?_;refine jH 10 J ?_;refine gx J<|?_;exact rz J (by rw[hA];rfl)
 .
  have hAn:=h1.symm;rw[eG,tZ] at hAn;haveI:=hb2.1;refine cl (fu:=⟨0⟩) J sv J<|?_;refine qD 10 J ?_;refine gx J<|cl (fu:=⟨4⟩) J (ux (l:=l) (p:=p) (i:=i) hi) J<|?_;refine mg (X:=Int) (fun s8=>[(8, .d (vI s8))]) (fun s8=>[]) (fun s8=>s8=(if(l.value p).num.sign=0 then(l.nor.dot v).num.sign else(l.value p).num.sign)) [8] [] rfl ?_ (fun _=>J) (fun s8 hs8=>?_)
  .
   refine gx J<|?_;refine br J J J (fun hc19=>?_) (fun hc19=>?_)
   .
    refine cl J (vY (l:=l)) J<|cl J (qo (p:=l.nor) (q:=v) (i:=97) (j:=j) (by decide) (by omega)) J<|cl J (lO (q:=l.nor.dot v) (by omega)) J<|?_;exact at_ (l.nor.dot v).num.sign (if_pos hc19).symm
   .
    exact at_ (l.value p).num.sign (if_neg hc19).symm
  .
   rw[<-hs8] at hAn;refine br J J J (fun hc29=>?_) (fun hc29=>?_)
   .
    exact at_ x ⟨⟨by rw[hAn,hc29];rfl,hb2.2.1⟩,(by simp only[Tr.size];omega)⟩
   .
    refine br J J J (fun hc35=>?_) (fun hc35=>?_)
    .
     exact at_ y ⟨⟨by rw[hAn,hc35];rfl,hb2.2.2⟩,(by simp only[Tr.size];omega)⟩
    .
     exact rz J (by rw[hAn];split<;>first|rfl|contradiction)
def M8{q:Rat}{i:Nat}[h:BQ q i](hi:i<=400000000:=by decide):PF GB prog 198 [eR q] (eF q):=by
 haveI:BN q.num.natAbs i:=⟨h.hn⟩;haveI:BN q.den i:=⟨h.hd⟩;refine fn func198 J J ntmps198 J J (fun C=>?_);refine cl (fu:=⟨0⟩) J (sD (n:=decide (q.num<0)) (a:=q.num.natAbs) (d:=q.den) (i:=i) (j:=i) (by omega) (by omega)) J<|?_;refine aA 7 (.d (eF q)) J (by rw[kE,sT]) ?_;refine gx J<|?_;exact rz J J
def xh{p:aa}{i:Nat}[h:aG p i](hi:i<=400000000:=by decide):PF GB prog 110 [kG p] (eZ p):=by
 refine fn func110 J J ntmps110 J J (fun C=>?_);refine cl J (M8 (q:=p.x) (i:=i) hi) J<|cl J (M8 (q:=p.y) (i:=i) hi) J<|?_;exact rz J J
def aDQ(G:Gh)(y:Value)(h:Is G (.sl [.ag [vI (dt 1),vI (du 1),dl 1,vI 0,vI 0, .v (.pointer none)]]) y):Is G (.sl ((iF []).map eZ)) y:=by
 obtain⟨s,x,es,rfl,h1,h2⟩:=gG.1 h;obtain⟨v,m,rfl,k,h3⟩:=aO.1 h2
 cases cB.1 h3
 refine gG.2 ⟨s,x,_,J,h1, .cons ?_ .nil⟩;obtain⟨m4,rfl,g4⟩:=cO.1 k;obtain⟨v1,m1,rfl,k1,g1⟩:=aO.1 g4;obtain⟨v2,m2,rfl,k2,g2⟩:=aO.1 g1;obtain⟨v3,m3,rfl,k3,g3⟩:=aO.1 g2;obtain⟨m5,q5,g5⟩:=cO.1 (uR _ _ (cO.2 ⟨m3,rfl,g3⟩))
 cases q5
 exact cO.2 ⟨_,J, .cons k1 (.cons k2 (.cons k3 g5))⟩
def KI{ds:List aa}{k:Nat}{u w:aa}(h1:ds[k]? =some u)(h2:ds[(k+1)%ds.length]? =some w):mO ds k=if 0<Int.sign (u.cross w).num then u.add w else jl u:=by
 unfold mO;rw[aK,aK,h1,h2];rfl
def MC(ds:List aa)(k:Nat):(List.range (k+1)).map (mO ds)=(List.range k).map (mO ds)++[mO ds k]:=by rw[List.range_succ,iJ];rfl
def ayV:PF GB prog 220 [.sl []] (.sl ((iF []).map eZ)):=by
 refine fn (fu:=⟨10⟩) func220 J J ntmps220 J J (fun C=>?_);refine fD J (by rfl) J<|cl J (o9 (by omega)) J<|rf J J<|?_;exact iA J aDQ
def Rz{ds:List aa}{i:Nat}(h0:0<ds.length)(hb: ∀d∈ds,aG d i)(hn:ds.length<=10000000)(hi:i<=1000000:=by decide):PF GB prog 220 [.sl (ds.map eZ)] (.sl ((iF ds).map eZ)):=by
 have hml:(ds.map eZ).length=ds.length:=aJ ..;refine fn (fu:=⟨10⟩) func220 J J ntmps220 J J (fun C=>?_);refine aA 8 (.d (vI (ds.length:Nat))) J (by rw[hml]<;>rfl) ?_;refine gx (fu:=⟨0⟩) J<|eo (fu:=⟨15⟩) J (by show some (decide _)=some false;rw[decide_eq_false (by omega)]) J<|?_;refine aA 14 (.d (vI (ds.length:Nat))) J (by rw[hml]<;>rfl) ?_;refine gx J<|?_;refine nr 3 3 141 6 J J J ?_;refine lp (X:=List aa×Nat) (fun⟨acc,k⟩=>[(15, .d (vI (k:Nat))),(3, .rw 3)]) (fun⟨acc,k⟩=>[(3,some (.b 141 6 (acc.map eZ) true))]) (fun⟨acc,k⟩=>acc=(List.range k).map (mO ds)/\k<=ds.length) (fun⟨acc,k⟩=>ds.length-k) ⟨[],0⟩ J ⟨J,cJ _⟩ (fun _=>J) (fun⟨acc,k⟩ hk=>?_)
 try dsimp only at hk⊢
 obtain⟨h1,h2⟩:=hk;have hal:acc.length=k:=by rw[h1,aJ,nU]
 have ham:(acc.map eZ).length=acc.length:=aJ ..;refine br J J J (fun hc16=>?_) (fun hc16=>?_)
 .
  obtain⟨u,hx⟩: ∃u,ds[k]? =some u:=⟨_,aX (by omega)⟩;obtain⟨w,hw⟩: ∃w,ds[(k+1)%ds.length]? =some w:=⟨_,aX (cN _ (by omega))⟩;haveI:=hb u (bU hx);haveI:=hb w (bU hw);refine ix (fu:=⟨13⟩) _ J (ge hx) J<|?_;refine aA 24 (.d (vI (ds.length:Nat))) J (by rw[hml]<;>rfl) ?_;refine gx (fu:=⟨1⟩) J<|?_;refine aA 25 (.d (vI (((k+1)%ds.length:Nat):Int))) J J ?_;refine gx J<|ix _ J (ge hw) J<|cl J (Jr (p:=u) (q:=w) (by omega) (by omega)) J<|cl J (lO (q:=u.cross w) (by omega)) J<|?_;refine br J J J (fun hc32=>?_) (fun hc32=>?_)
  .
   refine cl J (CO (p:=u) (q:=w) (by omega) (by omega)) J<|rf J J<|ap ((acc++[u.add w]).map eZ) J (by rw[iJ]<;>rfl) (Bx [u.add w]) J<|?_;refine pe 38 3 J ?_;exact at_ ⟨acc++[u.add w],k+1⟩ (by dsimp only;exact⟨⟨by rw[MC,KI hx hw,if_pos hc32,<-h1],by omega⟩,(by omega)⟩)
  .
   refine cl J (Ci (p:=u) (by omega)) J<|rf J J<|ap ((acc++[jl u]).map eZ) J (by rw[iJ]<;>rfl) (Bx [jl u]) J<|?_;refine pe 43 3 J ?_;exact at_ ⟨acc++[jl u],k+1⟩ (by dsimp only;exact⟨⟨by rw[MC,KI hx hw,if_neg hc32,<-h1],by omega⟩,(by omega)⟩)
 .
  obtain rfl:k=ds.length:=by omega
  have hS:iF ds=acc:=by unfold iF;rw[if_neg (by omega),h1]
  refine qi 3 J ?_;exact rz J (by rw[hS];rfl)
def Uy{ds:List aa}{i:Nat}(hb: ∀d∈ds,aG d i)(hn:ds.length<=10000000)(hi:i<=1000000:=by decide):PF GB prog 220 [.sl (ds.map eZ)] (.sl ((iF ds).map eZ)):=by
 cases ds with
 |nil=>exact ayV
 |cons d ds=>exact Rz (i:=i) (Nat.zero_lt_succ _) hb hn hi
def Po{p q:aa}{i:Nat}[hp:aG p i][hq:aG q i](hi:i<=1000000:=by decide):PF GB prog 192 [eZ p,eZ q] (vB (decide (p.x=q.x/\p.y=q.y))):=by
 refine fn func192 J J ntmps192 J J (fun C=>?_);refine cl J (vM (p:=p.x) (q:=q.x) (i:=i) (j:=i) (by omega) (by omega)) J<|?_;refine csd 10 J J J (fun hg10=>?_) (fun hg10=>?_)
 .
  refine cl J (vM (p:=p.y) (q:=q.y) (i:=i) (j:=i) (by omega) (by omega)) J<|?_;exact rz J (by show DV.v (.bool _)= .v (.bool _);simp_all)
 .
  exact rz J (by show DV.v (.bool _)= .v (.bool _);simp_all)
def Gv{p q:aa}{i j:Nat}[hp:aG p i][hq:aG q j](hi:i<=10000000:=by decide)(hj:j<=10000000:=by decide):PF GB prog 241 [eZ p,eZ q] (eZ ⟨p.x-q.x,p.y-q.y⟩):=by
 refine fn func241 J J ntmps241 J J (fun C=>?_);refine cl J (sP (p:=p.x) (q:=q.x) (i:=i) (j:=j) (by omega) (by omega)) J<|cl J (sP (p:=p.y) (q:=q.y) (i:=i) (j:=j) (by omega) (by omega)) J<|?_;exact rz J J
def NV{l:ab}{p:aa}{i:Nat}[hl:LB l][hp:aG p i](hi:i<=1000000:=by decide):PF GB prog 254 [d8 l,eZ p] (eF (eH l p)):=by
 refine fn func254 J J ntmps254 J J (fun C=>?_);refine cl J (ul (l:=l)) J<|cl (fu:=⟨0⟩) J (qo (p:=l.dir) (q:=p) (i:=97) (j:=i) (by decide) (by omega)) J<|?_;refine aA 10 (.d (eF (p.dot l.dir))) J (by rw[show l.dir.dot p=p.dot l.dir by unfold aa.dot;grind]) ?_;refine gx J<|cl J (qo (p:=l.dir) (q:=l.dir) (i:=97) (j:=97) (by decide) (by decide)) J<|cl J (zc (p:=p.dot l.dir) (q:=l.dir.dot l.dir) (i:=i+97+(i+97)+1) (j:=97+97+(97+97)+1) (by omega) (by decide)) J<|?_;exact rz J J
def QB{G:Gh}{q:Rat}{y:Value}(h: ¬et q)(hy:Is G (dl q) y):y= .pointer none:=by
 unfold dl at hy;rw[decide_eq_false h] at hy;rcases rA.1 hy with⟨_,e⟩|⟨e,_⟩
 ·exact e
 ·cases e
def WO{G:Gh}{q:Rat}(h: ¬et q):Is G (dl q) (.pointer none):=by
 unfold dl;rw[decide_eq_false h];exact rA.2 (.inl ⟨J,J⟩)
def xF(q:Rat):List Value:=[.int .i64 (dt q), .int .i64 (du q), .pointer none]
def wn{G:Gh}{q:Rat}{t:List DV}{m:List Value}(h: ¬et q)(hm:IsLs G (vI (dt q)::vI (du q)::dl q::t) m): ∃n,m=xF q++n/\IsLs G t n:=by
 obtain⟨y1,m1,rfl,h1,hm1⟩:=aO.1 hm;obtain⟨y2,m2,rfl,h2,hm2⟩:=aO.1 hm1;obtain⟨y3,m3,rfl,h3,hm3⟩:=aO.1 hm2;obtain rfl:=aF.1 h1;obtain rfl:=aF.1 h2;obtain rfl:=QB h h3;exact⟨m3,J,hm3⟩
def xp{G:Gh}{q:Rat}{t:List DV}{n:List Value}(h: ¬et q)(k:IsLs G t n):IsLs G (vI (dt q)::vI (du q)::dl q::t) (xF q++n):= .cons (aF.2 J) (.cons (aF.2 J) (.cons (WO h) k))
def rV(q:Rat):Value:= .agg ⟨xF q⟩
def X3{G:Gh}{q:Rat}{y:Value}(h: ¬et q)(hy:Is G (eF q) y):y=rV q:=by
 obtain⟨m,rfl,hm⟩:=cO.1 hy;obtain⟨n,rfl,hn⟩:=wn h hm;rw[cB.1 hn];rfl
def YI{G:Gh}{q:Rat}(h: ¬et q):Is G (eF q) (rV q):=cO.2 ⟨_,J,xp h (cB.2 J)⟩
structure F3 (f:aP):Prop where
 a: ¬et (f.l.a:Rat)
 b: ¬et (f.l.b:Rat)
 c: ¬et (f.l.c:Rat)
 lo: ¬et f.v.lo
 hi: ¬et f.v.hi
def vz(f:aP):Value:= .agg ⟨xF f.l.a++(xF f.l.b++(xF f.l.c++(xF f.v.lo++(xF f.v.hi++[.bool f.v.nl, .bool f.v.nh]))))⟩
def Au{G:Gh}{f:aP}{y:Value}(h:F3 f)(hy:Is G (bj f) y):y=vz f:=by
 obtain⟨m0,rfl,k0⟩:=cO.1 hy;obtain⟨m1,rfl,k1⟩:=wn h.a k0;obtain⟨m2,rfl,k2⟩:=wn h.b k1;obtain⟨m3,rfl,k3⟩:=wn h.c k2;obtain⟨m4,rfl,k4⟩:=wn h.lo k3;obtain⟨m5,rfl,k5⟩:=wn h.hi k4;obtain⟨y1,m6,rfl,h1,k6⟩:=aO.1 k5;obtain⟨y2,m7,rfl,h2,k7⟩:=aO.1 k6;obtain rfl:=aF.1 h1;obtain rfl:=aF.1 h2;obtain rfl:=cB.1 k7;rfl
def AO{G:Gh}{f:aP}(h:F3 f):Is G (bj f) (vz f):=cO.2 ⟨_,J,xp h.a (xp h.b (xp h.c (xp h.lo (xp h.hi (.cons (aF.2 J) (.cons (aF.2 J) (cB.2 J)))))))⟩
structure FE (f:aP):Prop where
 fo:nH f
 sm:F3 f
 nl:f.v.nl=false
 nh:f.v.nh=false
def ON{f:aP}(hf:FE f):PF GB prog 260 [bj f] (.tp [eZ (f.l.at f.v.lo),vB true]):=by
 haveI:=hf.fo.lb;haveI:=hf.fo.lo;haveI:=hf.fo.hi;refine fn (fu:=⟨13⟩) func260 J J ntmps260 J J (fun C=>?_);refine aA 6 (.d (vB false)) J (by rw[hf.nl]<;>rfl) ?_;refine qD 6 J ?_;refine gx J<|cl J (Bp (l:=f.l) (t:=f.v.lo) (i:=1200)) J<|?_;exact rz J J
def Pc{f:aP}(hf:FE f):PF GB prog 261 [bj f] (.tp [eZ (f.l.at f.v.hi),vB true]):=by
 haveI:=hf.fo.lb;haveI:=hf.fo.lo;haveI:=hf.fo.hi;refine fn (fu:=⟨13⟩) func261 J J ntmps261 J J (fun C=>?_);refine aA 6 (.d (vB false)) J (by rw[hf.nh]<;>rfl) ?_;refine qD 6 J ?_;refine gx J<|cl J (Bp (l:=f.l) (t:=f.v.hi) (i:=1200)) J<|?_;exact rz J J
theorem H0{l:ab}{t:Rat}(hl:LB l)(ht:BQ t 1200):aG (l.at t) 3000:=aG.mono (inferInstance:aG (l.at t) _) (by decide)
def qf{f:aP}(h1:f.v.nl=false)(h2:f.v.nh=false)(p:aa):p6 f p=if Int.sign f.l.dir.y.num=0 then 0 else if Int.sign (f.l.value p).num≠Int.sign f.l.dir.y.num then 0 else
  if Int.sign f.l.dir.y.num<0 then(if 0<cp (f.l.at f.v.hi).y p.y then 0 else if cp (f.l.at f.v.lo).y p.y<=0 then 0 else Int.sign f.l.dir.y.num)
  else(if 0<cp (f.l.at f.v.lo).y p.y then 0 else if cp (f.l.at f.v.hi).y p.y<=0 then 0 else Int.sign f.l.dir.y.num):=by
 unfold p6;rw[h1,h2];generalize Int.sign f.l.dir.y.num=U;generalize Int.sign (f.l.value p).num=S;generalize cp (f.l.at f.v.hi).y p.y=a;generalize cp (f.l.at f.v.lo).y p.y=b;by_cases k:U=0
 ·simp[k]
 ·by_cases k2:S≠U
  ·simp[k2]
  ·rw[if_neg (by simp[k,k2]),if_neg k,if_neg k2]
   by_cases k3:U<0
   ·simp[k3]
   ·simp[k3]
def N1(f:aP)(p:aa):(p6 f p).natAbs<=1:=by
 unfold p6;have:=RJ f.l.dir.y.num
 repeat' split
 all_goals omega
def Od{E:List aP}{p:aa}{k:Nat}{f:aP}(h:E[k]? =some f):iO (E.take (k+1)) p=iO (E.take k) p+p6 f p:=by
 rw[iS,h];show iO (E.take k++[f]) p=_;rw[D0];unfold iO;simp
def KV(E:List aP)(p:aa): ∀k,(iO (E.take k) p).natAbs<=k
 |0=>by simp[iO]
 |k+1=>by
  have ih:=KV E p k
  cases h:E[k]? with
  |none=>
   have:E.take (k+1)=E.take k:=by rw[iS,h];simp
   rw[this];omega
  |some f=>
   rw[Od h];have:=N1 f p;omega
def Tv{f:aP}(hf:FE f){p:aa}{i:Nat}[hp:aG p i](hi:i<=100000:=by decide):PF GB prog 169 [bj f,eZ p] (vI (p6 f p)):=by
 haveI:=hf.fo.lb;haveI:=hf.fo.lo;haveI:=hf.fo.hi;haveI:aG (f.l.at f.v.hi) 3000:=H0 hf.fo.lb hf.fo.hi;haveI:aG (f.l.at f.v.lo) 3000:=H0 hf.fo.lb hf.fo.lo;refine fn func169 J J ntmps169 J J (fun C=>?_);refine cl J (ul (l:=f.l)) J<|cl (fu:=⟨6⟩) J (lO (q:=f.l.dir.y) (i:=97)) J<|?_;rcases Int.lt_or_le (Int.sign f.l.dir.y.num) 0 with hu|hu
 .
  refine gx J<|?_;refine cs 19 J J J (fun hg19=>?_) (fun hg19=>?_)
  .
   exact rz J (by rw[qf hf.nl hf.nh];(repeat' split)<;>first|rfl|(exfalso;omega))
  .
   refine cl J (ux (l:=f.l) (p:=p) (i:=i) (by omega)) J<|?_;refine br (fu2:=⟨5⟩) J J J (fun hc26=>?_) (fun hc26=>?_)
   .
    exact rz J (by rw[qf hf.nl hf.nh];(repeat' split)<;>first|rfl|(exfalso;omega))
   .
    refine AS (fu:=⟨1⟩) (vz f) J (fun G y hy=>Au hf.sm hy) J<|AS (fu:=⟨8⟩) (vz f) J (fun G y hy=>Au hf.sm hy) J<|fD (fu:=⟨14⟩) J (by show some (decide _)=some true;rw[decide_eq_true (by omega)]) J<|?_;refine yB (fu:=⟨12⟩) (ds1:=[bj f]) (ds2:=[]) J (.cons (AO hf.sm) (cB.2 J)) (cB.2 J) (Pc hf) J<|?_;refine jH 41 J ?_;refine gx J<|cl J (oG (i:=3000) (j:=i) (by decide) (by omega)) J<|?_;refine br (fu2:=⟨6⟩) J J J (fun hc48=>?_) (fun hc48=>?_)
    .
     exact rz J (by rw[qf hf.nl hf.nh];(repeat' split)<;>first|rfl|(exfalso;omega))
    .
     refine yB (fu:=⟨12⟩) (ds1:=[bj f]) (ds2:=[]) J (.cons (AO hf.sm) (cB.2 J)) (cB.2 J) (ON hf) J<|?_;refine jH 55 J ?_;refine gx J<|cl J (oG (i:=3000) (j:=i) (by decide) (by omega)) J<|?_;refine br J J J (fun hc62=>?_) (fun hc62=>?_)
     .
      exact rz J (by rw[qf hf.nl hf.nh];(repeat' split)<;>first|rfl|(exfalso;omega))
     .
      exact rz J (by rw[qf hf.nl hf.nh];(repeat' split)<;>first|rfl|(exfalso;omega))
 .
  refine gx J<|?_;refine cs 19 J J J (fun hg19=>?_) (fun hg19=>?_)
  .
   exact rz J (by rw[qf hf.nl hf.nh];(repeat' split)<;>first|rfl|(exfalso;omega))
  .
   refine cl J (ux (l:=f.l) (p:=p) (i:=i) (by omega)) J<|?_;refine br (fu2:=⟨5⟩) J J J (fun hc26=>?_) (fun hc26=>?_)
   .
    exact rz J (by rw[qf hf.nl hf.nh];(repeat' split)<;>first|rfl|(exfalso;omega))
   .
    refine AS (fu:=⟨1⟩) (vz f) J (fun G y hy=>Au hf.sm hy) J<|AS (fu:=⟨8⟩) (vz f) J (fun G y hy=>Au hf.sm hy) J<|eo (fu:=⟨9⟩) J (by show some (decide _)=some false;rw[decide_eq_false (by omega)]) J<|?_;refine yB (fu:=⟨12⟩) (ds1:=[bj f]) (ds2:=[]) J (.cons (AO hf.sm) (cB.2 J)) (cB.2 J) (ON hf) J<|?_;refine jH 41 J ?_;refine gx J<|cl J (oG (i:=3000) (j:=i) (by decide) (by omega)) J<|?_;refine br (fu2:=⟨6⟩) J J J (fun hc48=>?_) (fun hc48=>?_)
    .
     exact rz J (by rw[qf hf.nl hf.nh];(repeat' split)<;>first|rfl|(exfalso;omega))
    .
     refine yB (fu:=⟨12⟩) (ds1:=[bj f]) (ds2:=[]) J (.cons (AO hf.sm) (cB.2 J)) (cB.2 J) (Pc hf) J<|?_;refine jH 55 J ?_;refine gx J<|cl J (oG (i:=3000) (j:=i) (by decide) (by omega)) J<|?_;refine br J J J (fun hc62=>?_) (fun hc62=>?_)
     .
      exact rz J (by rw[qf hf.nl hf.nh];(repeat' split)<;>first|rfl|(exfalso;omega))
     .
      exact rz J (by rw[qf hf.nl hf.nh];(repeat' split)<;>first|rfl|(exfalso;omega))
def Xb{E:List aP}(hE: ∀f∈E,FE f)(hn:E.length<=1000000){p:aa}{i:Nat}[hp:aG p i](hi:i<=100000:=by decide):PF GB prog 77 [.sl (E.map bj),eZ p] (vI (iO E p)):=by
 have hml:(E.map bj).length=E.length:=aJ ..;refine fn (fu:=⟨16⟩) func77 J J ntmps77 J J (fun C=>?_);refine aA 9 (.d (vI (E.length:Nat))) J (by rw[hml]<;>rfl) ?_;refine gx J<|?_;refine lp (X:=Nat) (fun k=>[(10, .d (vI (k:Nat))),(5, .d (vI (iO (E.take k) p)))]) (fun k=>[]) (fun k=>k<=E.length) (fun k=>E.length-k) 0 J (cJ _) (fun _=>J) (fun k hk=>?_);have hw:=KV E p k;refine br J J J (fun hc11=>?_) (fun hc11=>?_)
 .
  obtain⟨f,hx⟩: ∃u,E[k]? =some u:=⟨_,aX (by omega)⟩;have hf:=hE f (bU hx);have hcl:=N1 f p;refine ix _ J (ge hx) J<|cl J (Tv hf (p:=p) (i:=i) hi) J<|?_;refine aA 5 (.d (vI (iO (E.take (k+1)) p))) J (by rw[Od hx]<;>rfl) ?_;exact at_ (k+1) ⟨(by omega),(by omega)⟩
 .
  obtain rfl:k=E.length:=by omega
  rw[iQ];exact rz J J
def oe(v:List aa):List (List DV):=(List.range v.length).map fun i=>[vI (i:Nat),Bl (v.getD i ⟨0,0⟩) (v.getD ((i+1)%v.length) ⟨0,0⟩)]
def KA{v:List aa}{i:Nat}{p q:aa}(h1:v[i]? =some p)(h2:v[(i+1)%v.length]? =some q):(oe v)[i]? =some [vI (i:Nat),Bl p q]:=by
 have hi:=(aS.1 h1).1;unfold oe;rw[fR,pL hi,jW,aK,aK,h1,h2];rfl
def MN{v:List aa}{i:Nat}{e:List DV}(h:(oe v)[i]? =some e): ∃p q,v[i]? =some p/\v[(i+1)%v.length]? =some q/\e=[vI (i:Nat),Bl p q]:=by
 have hi:i<v.length:=by
  have:=(aS.1 h).1;unfold oe at this;simpa using this
 have h1:v[i]? =some v[i]:=aX hi;have hm:(i+1)%v.length<v.length:=cN _ (by omega);have h2:v[(i+1)%v.length]? =some v[(i+1)%v.length]:=aX hm;refine⟨_,_,h1,h2,?_⟩;rw[KA h1 h2] at h;exact(Option.some.inj h).symm
def IG{v:List aa}: ∀e∈oe v,e.length=2:=fun e he=>by
 obtain⟨i,_,rfl⟩:=bW.1 he;rfl
def N5{v:List aa}(hn:v.length<=100000):It GB prog 253 [.pt [.sl (v.map eZ)]] (oe v):=by
 have hml:(v.map eZ).length=v.length:=aJ ..;have hrl:(oe v).length=v.length:=by unfold oe;simp
 refine aHi func253 J J ntmps253 J (fun _=>J) (fun l Jv Jx GB' hg H C hp hJ=>?_);refine Fb 1 J<|gx J<|?_;refine aA 6 (.d (vI (v.length:Nat))) J (by rw[hml]<;>rfl) ?_;refine UX (X:=Nat) (fun k=>[(0, .d (.v (.func (.yield l) #[] #[]))),(1, .ep [.sl (v.map eZ)]),(5, .d (.sl (v.map eZ))),(6, .d (vI (v.length:Nat))),(7, .d (vI (k:Nat)))]) (fun k C=>k<=v.length/\Jv k C.G0 C.w0) (fun k=>v.length-k) 0 hp ⟨cJ _,hJ⟩ (fun _=>J) (fun k C1 hp1 hk=>?_);obtain⟨hk1,hJ1⟩:=hk;refine br J J J (fun hc8=>?_) (fun hc8=>?_)
 ·obtain⟨p,hpx⟩: ∃u,v[k]? =some u:=⟨_,aX (by omega)⟩
  obtain⟨q,hqx⟩: ∃u,v[(k+1)%v.length]? =some u:=⟨_,aX (cN _ (by omega))⟩;refine ix _ J (ge hpx) J<|?_;refine aA 20 (.d (vI (((k+1)%v.length:Nat):Int))) J (by rw[hml]<;>rfl) ?_;refine gx J<|ix _ J (ge hqx) J<|Yy (len:=2) (s:=6) (e:=141) J (by kernel_rfl) (by kernel_rfl) J<|?_;refine RB (by kernel_rfl) J ?_;refine cy [(0, .d (.v (.func (.yield l) #[] #[]))),(1, .ep [.sl (v.map eZ)]),(5, .d (.sl (v.map eZ))),(6, .d (vI (v.length:Nat))),(7, .d (vI (k:Nat)))] H hp1 hJ1 J (KA hpx hqx) J (by repeat (first|exact trivial|refine And.intro J ?_)) J J J (fun C3 hp3 hJ3=>?_) (fun C3 hp3 hJ3=>?_)
  ·exact SC (k+1) hp3 ⟨⟨by omega,hJ3⟩,by omega⟩
  ·exact Ny H hp3 (.inr hJ3) J
 ·obtain rfl:k=v.length:=by omega
  exact Ny H hp1 (.inl (by rw[hrl];exact hJ1)) J
def O1{v:List aa}:Dy GB prog 165 [.sl (v.map eZ)] 253 (.pt [.sl (v.map eZ)]):=by
 refine Uk func165 J J ntmps165 J J (fun C=>?_);refine fz 1 J J ?_;refine yk 1 J (fun GB' pv hg hp=>?_);refine V4 J J ?_;exact Ty J J hp
def Us:Eg 139:=fun x w=>by kernel_rfl
def Xj(m:List Value):Bn 139 (.agg ⟨m⟩) "Mul" 207:=fun w=>by kernel_rfl
def ZD(l:List Rat)(k:Nat)(y:Rat):(l.map eF).set k (eF y)=(l.set k y).map eF:=(pV ..).symm
def mp(L:List Rat)(k:Rat)(j:Nat):List Rat:=(L.take j).map (· *k)++L.drop j
def QP(L:List Rat)(k:Rat)(j:Nat):(mp L k j).length=L.length:=by
 unfold mp;rw[aT,aJ,cK,gN];omega
def Vz{L:List Rat}{k a:Rat}{j:Nat}(h:L[j]? =some a):(mp L k j)[j]? =some a:=by
 have hj:=(aS.1 h).1;unfold mp;rw[fT (by rw[aJ,cK];omega),aJ,cK,lS,<-h];congr 1;omega
def ayj{L:List Rat}{k a:Rat}{j:Nat}(h:L[j]? =some a):(mp L k j).set j (a*k)=mp L k (j+1):=by
 have hj:=(aS.1 h).1;unfold mp;rw[iS,h,nZ _ _ (by rw[aJ,cK];omega),aJ,cK,show j-min j L.length=0 by omega,cX hj];simp only[Option.toList_some,iJ,bR,dK,List.set_cons_zero,dQ,cW,cV]
def zY{L:List Rat}{k:Rat}{i:Nat}[hk:BQ k i](hL: ∀a∈L,¬et a)(hb: ∀a∈L,BQ a i)(hn:L.length<=1000)(hi:i<=1000000:=by decide):PB GB prog 338 (gq [some (eF k),none]) 3 139 (L.map eF) (fun w=> .v (.slice w.a w.n w.c)) ((L.map (· *k)).map eF):=by
 have hml:(L.map eF).length=L.length:=aJ ..;refine uN (fu:=⟨11⟩) func338 J J ntmps338 J J (fun C=>?_);refine aA 7 (.d (vI (L.length:Nat))) J (by rw[hml]<;>rfl) ?_;refine gx J<|?_;refine lp (X:=Nat) (fun j=>[(8, .d (vI (j:Nat)))]) (fun j=>[(1000000,some (.b 139 3 ((mp L k j).map eF) false))]) (fun j=>j<=L.length) (fun j=>L.length-j) 0 J (cJ _) (fun _=>J) (fun j hk=>?_);have hsl:=QP L k j;have hsm:((mp L k j).map eF).length=(mp L k j).length:=aJ ..;refine br J J J (fun hc9=>?_) (fun hc9=>?_)
 .
  obtain⟨a,hx⟩: ∃u,L[j]? =some u:=⟨_,aX (by omega)⟩;have ham:=bU hx;haveI:=hb a ham;have hga:(mp L k j)[j]? =some a:=Vz hx;refine lb (fu:=⟨0⟩) _ J (ge hga) J<|YP (fu:=⟨1⟩) (rV a) J Us (fun G y hy=>X3 (hL a ham) hy) J<|Vp J (Xj _) (PF.arg0 (rE (p:=a) (q:=k) (i:=i) (j:=i) (by omega) (by omega)) (fun G y h=>by rw[aF.1 h];exact YI (hL a ham))) J<|?_;refine sb (hv:=by simp only[ah];exact⟨by kernel_rfl,by omega⟩) _ ((mp L k (j+1)).map eF) J (ge hga) J (by rw[<-ayj hx,<-ZD]<;>rfl) J<|?_;exact at_ (j+1) ⟨(by omega),(by omega)⟩
 .
  obtain rfl:j=L.length:=by omega
  have hend:mp L k L.length=L.map (· *k):=by unfold mp;rw[iQ,jJ,iK]
  exact ru J J J (by rw[hend])
def vV{a:Int}{g:Nat}(hg:0<g)(hd:g∣a.natAbs):(a:Rat)*(((g:Nat):Int):Rat)⁻¹=((zv (decide (a<0)) (a.natAbs/g):Int):Rat):=by
 obtain⟨q,hq⟩:=hd;have e:zv (decide (a<0)) (a.natAbs/g)*(g:Int)=a:=by
  rw[hq,qL q hg];unfold zv;have hc:((g*q:Nat):Int)=(g:Int)*(q:Int):=by simp
  have hm:=Int.mul_comm (g:Int) (q:Int);split
  ·rename_i h
   have h:=of_decide_eq_true h;rw[Int.neg_mul];omega
  ·rename_i h
   have h: ¬a<0:=fun k=>h (decide_eq_true k);omega
 generalize zv (decide (a<0)) (a.natAbs/g)=z at*;have h0:((g:Int):Rat)≠0:=by
  intro k;have:(g:Int)=0:=by exact_mod_cast k
  omega
 rw[<-e,cR];generalize ((g:Int):Rat)=r at*;grind
def rj{z:Int}(h:z.natAbs<=1000000): ¬et (z:Rat):=fun k=>k ⟨by show z.natAbs<_;omega,by show 1<_;decide⟩
def tf{q:Rat}{k:Nat}(h:BQ q k)(hk:k<=62): ¬et q:=fun b=>b (by
 have hp:2^k<=2^62:=bZ (by decide) hk;have e:(2:Nat)^62=4611686018427387904:=by decide
 obtain⟨h1,h2⟩:=h;exact⟨by omega,by omega⟩)
theorem DR(p q:aa){i j:Nat}[aG p i][aG q j]:aG ⟨p.x-q.x,p.y-q.y⟩ (i+j+1):=⟨inferInstanceAs (BQ (p.x-q.x) _),inferInstanceAs (BQ (p.y-q.y) _)⟩
theorem mj{z:Int}(h:z.natAbs<=1000000):BQ (z:Rat) 22:=by
 have e:(2:Nat)^21=2097152:=by decide
 haveI:BI z 21:=⟨by omega⟩;exact(inferInstance:BQ (z:Rat) 22)
def VN{a b c:Int}(ha:a.natAbs<=1000000)(hb:b.natAbs<=1000000)(hc:c.natAbs<=1000000)(h0: ¬(a=0/\b=0)):PF GB prog 243 [eF (a:Rat),eF (b:Rat),eF (c:Rat)] (.tp [d8 (gm a b c),vB true]):=by
 haveI:=mj ha;haveI:=mj hb;haveI:=mj hc;have hgn:Nat.gcd a.natAbs b.natAbs≠0:=fun h=>h0 ⟨kR.1 (lT h),kR.1 (lV h)⟩;have hgp:0<Nat.gcd (Nat.gcd a.natAbs b.natAbs) c.natAbs:=kS _ (iZ hgn);have eg:rgcd (rgcd (a:Rat) b) c=(((Nat.gcd (Nat.gcd a.natAbs b.natAbs) c.natAbs:Nat):Int):Rat):=by rw[uh,uh];rfl
 have e1:(a:Rat)*(rgcd (rgcd (a:Rat) b) c)⁻¹=((gm a b c).a:Rat):=by rw[eg];exact vV hgp (nL (iT _ _) (iT _ _))
 have e2:(b:Rat)*(rgcd (rgcd (a:Rat) b) c)⁻¹=((gm a b c).b:Rat):=by rw[eg];exact vV hgp (nL (iT _ _) (jM _ _))
 have e3:(c:Rat)*(rgcd (rgcd (a:Rat) b) c)⁻¹=((gm a b c).c:Rat):=by rw[eg];exact vV hgp (jM _ _)
 haveI:BQ (rgcd (a:Rat) b) 200:=BQ.mono (inferInstance:BQ (rgcd (a:Rat) b) _) (by decide);haveI:BQ (rgcd (rgcd (a:Rat) b) c) 600:=BQ.mono (inferInstance:BQ (rgcd (rgcd (a:Rat) b) c) _) (by decide);haveI:BQ (rgcd (rgcd (a:Rat) b) c)⁻¹ 600:=BQ.mono (inferInstance:BQ (rgcd (rgcd (a:Rat) b) c)⁻¹ _) (by decide);have hl4:([((gm a b c).a:Rat),((gm a b c).b:Rat),((gm a b c).c:Rat)].map eF).length=3:=J;have hl3:[((gm a b c).a:Rat),((gm a b c).b:Rat),((gm a b c).c:Rat)].length=3:=J;refine fn func243 J J ntmps243 J J (fun C=>?_);refine cl J (nG (q:=(a:Rat))) J<|?_;refine csd 11 J J J (fun hg11=>?_) (fun hg11=>?_)
 .
  refine cl J (nG (q:=(b:Rat))) J<|?_;refine bd J J J (fun hc14=>?_) (fun hc14=>?_)
  .
   exact absurd ⟨by exact_mod_cast hg11,by exact_mod_cast hc14⟩ h0
  .
   refine cl J (kC (p:=(a:Rat)) (q:=(b:Rat)) (i:=22) (j:=22)) J<|cl J (kC (p:=rgcd (a:Rat) b) (q:=(c:Rat)) (i:=200) (j:=22)) J<|?_;refine cl rfl (vr (q:=rgcd (rgcd (a:Rat) b) c) (i:=600)) rfl<|ro (fu:=⟨0⟩) J J<|cq (hv:=by simp only[ah];exact⟨by kernel_rfl,by omega⟩) ([((gm a b c).a:Rat),((gm a b c).b:Rat),((gm a b c).c:Rat)].map eF) rfl (zY (L:=[(a:Rat),(b:Rat),(c:Rat)]) (k:=(rgcd (rgcd (a:Rat) b) c)⁻¹) (i:=600) (by intro q hq;simp only[aU,jL,or_false] at hq;rcases hq with rfl|rfl|rfl;exact rj ha;exact rj hb;exact rj hc) (by intro q hq;simp only[aU,jL,or_false] at hq;rcases hq with rfl|rfl|rfl;exact(mj ha).mono (by decide);exact(mj hb).mono (by decide);exact(mj hc).mono (by decide)) (nb rfl)) (by simp only[bR,dK,e1,e2,e3]) rfl<|?_;refine lb _ J J J<|lb _ J J J<|lb _ J J J<|?_;exact rz J J
 .
  refine cl J (kC (p:=(a:Rat)) (q:=(b:Rat)) (i:=22) (j:=22)) J<|cl J (kC (p:=rgcd (a:Rat) b) (q:=(c:Rat)) (i:=200) (j:=22)) J<|?_;refine cl rfl (vr (q:=rgcd (rgcd (a:Rat) b) c) (i:=600)) rfl<|ro (fu:=⟨0⟩) J J<|cq (hv:=by simp only[ah];exact⟨by kernel_rfl,by omega⟩) ([((gm a b c).a:Rat),((gm a b c).b:Rat),((gm a b c).c:Rat)].map eF) rfl (zY (L:=[(a:Rat),(b:Rat),(c:Rat)]) (k:=(rgcd (rgcd (a:Rat) b) c)⁻¹) (i:=600) (by intro q hq;simp only[aU,jL,or_false] at hq;rcases hq with rfl|rfl|rfl;exact rj ha;exact rj hb;exact rj hc) (by intro q hq;simp only[aU,jL,or_false] at hq;rcases hq with rfl|rfl|rfl;exact(mj ha).mono (by decide);exact(mj hb).mono (by decide);exact(mj hc).mono (by decide)) (nb rfl)) (by simp only[bR,dK,e1,e2,e3]) rfl<|?_;refine lb _ J J J<|lb _ J J J<|lb _ J J J<|?_;exact rz J J
theorem vk{z:ZP}(h:ZP.le 100 z):aG z.q 22:=⟨mj (by have:=h.1;omega),mj (by have:=h.2;omega)⟩
def tB{a b:Int}{m n:Nat}(ha:a.natAbs<=m)(hb:b.natAbs<=n):(a*b).natAbs<=m*n:=by
 rw[gX];exact kV ha hb
def Tj{v w:ZP}(hv:ZP.le 100 v)(hw:ZP.le 100 w)(h:v≠w):PF GB prog 151 [eZ v.q,eZ w.q] (.tp [d8 (jo v.1 v.2 w.1 w.2),vB true]):=by
 haveI:=vk hv;haveI:=vk hw;have hv1:=hv.1;have hv2:=hv.2;have hw1:=hw.1;have hw2:=hw.2;obtain⟨A,hA⟩: ∃A,A=jE v.2 w.2:=⟨_,rfl⟩;obtain⟨B,hB⟩: ∃B,B=j0 v.1 w.1:=⟨_,rfl⟩;obtain⟨C0,hC⟩: ∃C0,C0=pm v.1 v.2 w.1 w.2:=⟨_,rfl⟩;have bA:A.natAbs<=200:=by rw[hA];unfold jE;omega
 have bB:B.natAbs<=200:=by rw[hB];unfold j0;omega
 have m1:=tB bA hv1;have m2:=tB bB hv2;have eC:C0= -(A*v.1+B*v.2):=by rw[hC,hA,hB];rfl
 have bC:C0.natAbs<=40000:=by rw[eC];omega
 have h0: ¬(A=0/\B=0):=fun k=>h (Prod.ext (by have:=k.2;rw[hB] at this;unfold j0 at this;omega) (by have:=k.1;rw[hA] at this;unfold jE at this;omega));haveI:aG (iP A B) 22:=⟨mj (by omega),mj (by omega)⟩;haveI:BQ ((A*v.1+B*v.2:Int):Rat) 22:=mj (by omega);have eT:jl ⟨w.q.x-v.q.x,w.q.y-v.q.y⟩=iP A B:=by rw[hA,hB];unfold jl iP jE j0 ZP.q iP;simp only[aa.mk.injEq];push_cast;constructor<;>grind
 have eD:(iP A B).dot v.q=((A*v.1+B*v.2:Int):Rat):=by unfold aa.dot iP ZP.q iP;push_cast;rfl
 have eN: -((A*v.1+B*v.2:Int):Rat)=((C0:Int):Rat):=by rw[eC];push_cast;rfl
 refine fn func151 J J ntmps151 J J (fun C=>?_);refine cl J (Gv (p:=w.q) (q:=v.q) (i:=22) (j:=22)) J<|cl (fu:=⟨0⟩) J (Ci (p:=⟨w.q.x-v.q.x,w.q.y-v.q.y⟩) (i:=45) (h:=DR w.q v.q)) J<|?_;refine aA 12 (.d (eZ (iP A B))) J (by rw[eT]) ?_;refine gx J<|cl (fu:=⟨0⟩) J (qo (p:=iP A B) (q:=v.q) (i:=22) (j:=22)) J<|?_;refine aA 19 (.d (eF ((A*v.1+B*v.2:Int):Rat))) J (by rw[eD]) ?_;refine gx J<|cl (fu:=⟨0⟩) J (lw (q:=((A*v.1+B*v.2:Int):Rat)) (i:=22)) J<|?_;refine aA 20 (.d (eF ((C0:Int):Rat))) J (by rw[eN]) ?_;refine gx J<|cl J (VN (a:=A) (b:=B) (c:=C0) (by omega) (by omega) (by omega) h0) J<|?_;exact rz J (by rw[hA,hB,hC];rfl)
theorem Iz{l:ab}(ho:l.ok)(ha:l.a.natAbs<=200)(hb:l.b.natAbs<=200){m n:Int}(hm:m.natAbs<=100)(hn:n.natAbs<=100):BQ (eH l (iP m n)) 60:=by
 have hd:=xu ho.ne;have p1:=tB ha ha;have p2:=tB hb hb;have p3:=tB hm hb;have p4:=tB hn ha;have h60:(2:Nat)^60=1152921504606846976:=by decide
 have hA:BI (l.a*l.a+l.b*l.b) 60:=⟨by omega⟩;have hB:BI (m*l.b-n*l.a) 60:=⟨by omega⟩;have e1:l.dir.dot l.dir=((l.a*l.a+l.b*l.b:Int):Rat):=by
  rw[oS,cR,cR];simp only[ab.dir,aa.dot];grind
 have e2:(iP m n).dot l.dir=((m*l.b-n*l.a:Int):Rat):=by
  rw[lU,cR,cR];simp only[ab.dir,aa.dot,iP];grind
 have hd':((0:Int):Rat)<((l.a*l.a+l.b*l.b:Int):Rat):=by rw[<-e1];exact hd
 unfold eH;rw[e2,e1];clear e1 e2 p1 p2 p3 p4;generalize l.a*l.a+l.b*l.b=D at*;generalize m*l.b-n*l.a=M at*;have hD:0<D:=Rat.intCast_lt_intCast.1 hd';refine BQ.of_fracI (n:=M) (D:=D) (by omega) ?_ hB hA;have h0:(D:Rat)≠0:=fun e=>by rw[e] at hd';exact absurd hd' (by decide)
 have:((D.natAbs:Nat):Rat)=(D:Rat):=by
  have h1:((D.natAbs:Nat):Int)=D:=by omega
  rw[<-h1];rfl
 rw[this];grind
def Kb{v w:ZP}(hv:ZP.le 100 v)(hw:ZP.le 100 w)(h:v≠w):FE (dq v w):=by
 have hf:=OW hv hw h;have hv1:=hv.1;have hv2:=hv.2;have hw1:=hw.1;have hw2:=hw.2;have bA:(jE v.2 w.2).natAbs<=200:=by unfold jE;omega
 have bB:(j0 v.1 w.1).natAbs<=200:=by unfold j0;omega
 have m1:=tB bA hv1;have m2:=tB bB hv2;have bC:(pm v.1 v.2 w.1 w.2).natAbs<=40000:=by unfold pm;omega
 obtain⟨k1,k2,k3⟩:=FC (jE v.2 w.2) (j0 v.1 w.1) (pm v.1 v.2 w.1 w.2);have ea:(dq v w).l.a.natAbs<=200:=dT k1 bA;have eb:(dq v w).l.b.natAbs<=200:=dT k2 bB;have ec:(dq v w).l.c.natAbs<=40000:=dT k3 bC;exact⟨hf,⟨rj (by omega),rj (by omega),rj (by omega),tf (Iz hf.ok ea eb hv1 hv2) (by decide),tf (Iz hf.ok ea eb hw1 hw2) (by decide)⟩,J,J⟩
def Ui{r:List ZP}(h:fG r): ∀f∈iv r,FE f:=fun f hf=>by
 obtain⟨k,hk,rfl⟩:=CG hf;exact Kb (h.le _ (zg hk)) (h.le _ (BF hk)) (h.ne k hk)
def ZB{rs:List (List ZP)}(h: ∀r∈rs,fG r): ∀f∈cI rs,FE f:=fun f hf=>by
 obtain⟨r,h1,h2⟩:=gK.1 hf;exact Ui (h r h1) f h2
def Wb{v w:ZP}(hv:ZP.le 100 v)(hw:ZP.le 100 w)(h:v≠w):PF GB prog 166 [eZ v.q,eZ w.q] (.tp [bj (dq v w),vB true]):=by
 have hf:=Kb hv hw h;haveI:LB (jo v.1 v.2 w.1 w.2):=hf.fo.lb;haveI:=vk hv;haveI:=vk hw;refine fn func166 J J ntmps166 J J (fun C=>?_);refine cl (fu:=⟨12⟩) J (Tj hv hw h) J<|?_;refine jH 14 J ?_;refine gx J<|cl J (NV (l:=jo v.1 v.2 w.1 w.2) (p:=v.q) (i:=22)) J<|cl J (NV (l:=jo v.1 v.2 w.1 w.2) (p:=w.q) (i:=22)) J<|?_;exact rz J J
def Ao{r:List ZP}{k:Nat}{p:aa}(h:(r.map ZP.q)[k]? =some p):k<r.length/\p=(r.getD k (0,0)).q:=by
 rw[fR] at h
 cases e:r[k]? with
 |none=>rw[e] at h;cases h
 |some z=>
  rw[e] at h;cases h;exact⟨(aS.1 e).1,by rw[aK,e];rfl⟩
def zz(r:List ZP): ∀n,(lf r n).length=n
 |0=>rfl
 |n+1=>by rw[lf,aT,zz r n];rfl
def Pn{r:List ZP}{k:Nat}: ∀{n:Nat},k<n->(lf r n)[k]? =some (dq (r.getD k (0,0)) (fe r k))
 |0,h=>by omega
 |n+1,h=>by
  rw[lf];by_cases e:k=n
  ·subst e
   rw[fT (by rw[zz];omega),zz,sY];rfl
  ·rw[eX (by rw[zz];omega)]
   exact Pn (by omega)
def ya(l:List aP):fm 17 (l.map bj):=fun d hd=>by
 obtain⟨x,_,rfl⟩:=bW.1 hd;exact⟨J,J⟩
def WB{L:List aP}{k:Nat}{l:aP}(h:L[k]? =some l):((L.take k).map bj)++[bj l]=(L.take (k+1)).map bj:=by
 rw[iS,h,iJ];rfl
def JU{r:List ZP}(h:fG r):PF GB prog 74 [.sl ((r.map ZP.q).map eZ)] (.sl ((iv r).map bj)):=by
 have hn:=h.n6;obtain⟨v,hv⟩: ∃v,v=r.map ZP.q:=⟨_,rfl⟩;have hvl:v.length=r.length:=by rw[hv,aJ]
 rw[<-hv];have hel:(iv r).length=r.length:=(u6 h).1;have hrl:(oe v).length=r.length:=by unfold oe;rw[aJ,nU,hvl]
 refine Mc func74 J J ntmps74 J J (fun C h0=>?_);refine JY J J J O1 (fun _=>J) (fun GB1 pv hg1 hpv=>?_);refine DH 3 0 50 222 17 J J J J J ?_;refine GA 3 2000003 h0.fx J ?_;refine On (σ:=Empty) (fun k=>[(2000003,some (.o 130 [.rw 50] true)),(50,some (.b 222 17 (((iv r).take k).map bj) true))]) (fun _=>True) (fun _=>[]) (fun _=>False) [(3, .ov 2000003 0)]
  h0 J (N5 (by omega)) (.cons hpv .nil) ⟨J,trivial⟩ J ⟨J,J,trivial⟩ trivial IG J J (fun k e GB' hE hg hp=>?_) (fun D hD hx hp=>?_) (fun D s hD hx hq=>hq.elim)
 ·obtain⟨p,q,hpx,hqx,rfl⟩:=MN hE
  rw[hvl] at hqx;rw[hv] at hpx hqx;obtain⟨hk,rfl⟩:=Ao hpx;obtain⟨hk2,rfl⟩:=Ao hqx;have hx:(iv r)[k]? =some (dq (r.getD k (0,0)) (fe r k)):=Pn hk;have hml:(((iv r).take k).map bj).length=k:=by rw[aJ,cK];omega
  refine⟨?_,?_,fun C2=>?_,fun C2=>?_⟩
  rotate_left 2
  ·refine gx J<|Lg J J J ⟨J,J,J⟩ J ?_
   exact atR
  ·refine gx J<|Cg 0 (e:=141) (len:=2) (s:=6) J (by kernel_rfl) (by kernel_rfl) (by decide) J<|Cg 1 (e:=141) (len:=2) (s:=6) J (by kernel_rfl) (by kernel_rfl) (by decide) J<|?_
   refine cl J (Wb (h.le _ (zg hk)) (h.le _ (BF hk)) (h.ne k hk)) J<|?_;refine rf J J<|ap (((iv r).take (k+1)).map bj) J (WB hx) (ya [dq (r.getD k (0,0)) (fe r k)]) J<|?_;refine pe 23 50 J ?_;exact rq trivial ⟨J,J,trivial⟩
 ·rw[hrl,<-hel,iQ]
  refine gx J<|?_;refine qi 50 J ?_;exact Jk hD hx J J
def UK{a i:Nat}[h:BN a i](hi:i<=1000000000:=by decide):PF GB prog 348 [dN a] (.v (.bool true)):=
 (Kx (ds:=dg a) (d9 _).2.1 (by have:=l6 (a:=a) hi;omega)).to (by unfold vB;rw[decide_eq_true (d9 a).2.2])
def Nr{q:Rat}{i:Nat}[hq:BQ q i](hi:i<=1000000:=by decide):PF GB prog 284 [eR q] (.v (.bool true)):=by
 have hd:=q.den_pos;have hdl:0<(dg q.den).length:=iZ fun e=>by have:=wV.1 e;omega
 have hml:((dg q.den).map dU).length=(dg q.den).length:=aJ ..;have hco:Nat.gcd q.num.natAbs q.den=1:=q.reduced;refine fn func284 J J ntmps284 J J (fun C=>?_);refine cl (fu:=⟨0⟩) J (qv (m:=q.num) (i:=i) (h:=⟨hq.hn⟩) (by omega)) J<|?_;refine jH 5 J ?_;refine gx J<|cl (fu:=⟨0⟩) J (UK (a:=q.den) (i:=i) (h:=⟨hq.hd⟩) (by omega)) J<|?_;refine jH 10 J ?_;refine gx (fu:=⟨6⟩) J<|eo J (by show some (decide _)=some false;rw[decide_eq_false (by omega)]) J<|cl (fu:=⟨0⟩) J (Ef (a:=q.num.natAbs) (b:=q.den) (i:=i) (j:=i) (h:=⟨hq.hn⟩) (k:=⟨hq.hd⟩) (by omega) (by omega)) J<|?_;refine aA 24 (.d (dN 1)) J (by rw[hco]) ?_;refine gx J<|cl J (sk (a:=1) (i:=1) (h:=⟨by decide⟩)) J<|?_;exact rz J J
def Rj{p:aa}{i:Nat}[hp:aG p i](hi:i<=1000000:=by decide):PF GB prog 189 [kG p] (.v (.bool true)):=by
 refine fn func189 J J ntmps189 J J (fun C=>?_);refine cl (fu:=⟨0⟩) J (Nr (q:=p.x) (i:=i) (by omega)) J<|?_;refine jH 5 J ?_;refine gx J<|cl J (Nr (q:=p.y) (i:=i) (by omega)) J<|?_;exact rz J J
def tF(l:List aa)(p:aa):Int:=match l.findIdx? (fun q=>decide (q.x=p.x/\q.y=p.y)) with
 |some i=>(i:Nat)
 |none=> -1
def VW{l:List aa}{p q:aa}{k:Nat}(hx:l[k]? =some q)(h:(l.take k).all (fun q=>!decide (q.x=p.x/\q.y=p.y))=true)(hq:q.x=p.x/\q.y=p.y):tF l p=(k:Nat):=by
 have hk:=(aS.1 hx).1;have e:l.findIdx? (fun q=>decide (q.x=p.x/\q.y=p.y))=some k:=by
  rw[List.findIdx?_eq_some_iff_getElem];refine⟨hk,?_,fun j hj=>?_⟩
  ·rw[(aS.1 hx).2];exact decide_eq_true hq
  ·have:=eY.1 h l[j] (by rw[List.mem_take_iff_getElem];exact⟨j,by omega,J⟩)
   simp at this⊢;intro a b;rcases this with k|k
   ·exact k a
   ·exact k b
 unfold tF;rw[e]
def S5{l:List aa}{p:aa}(h:l.all (fun q=>!decide (q.x=p.x/\q.y=p.y))=true):tF l p= -1:=by
 have e:l.findIdx? (fun q=>decide (q.x=p.x/\q.y=p.y))=none:=by
  rw[List.findIdx?_eq_none_iff];intro x hx;have:=eY.1 h x hx;simp at this⊢;intro a b;rcases this with k|k
  ·exact k a
  ·exact k b
 unfold tF;rw[e]
def Rq{l:List aa}{k:Nat}{q:aa}{g:aa->Bool}(hx:l[k]? =some q)(h:(l.take k).all g=true)(hq:g q=true):(l.take (k+1)).all g=true:=by
 rw[iS,hx,List.all_append,h];simp[hq]
def T8{l:List aa}{p:aa}{i:Nat}[hp:aG p i](hl: ∀q∈l,aG q i)(hn:l.length<=100000)(hi:i<=1000000:=by decide):PF GB prog 191 [.sl (l.map eZ),eZ p] (vI (tF l p)):=by
 have hml:(l.map eZ).length=l.length:=aJ ..;refine fn (fu:=⟨11⟩) func191 J J ntmps191 J J (fun C=>?_);refine aA 8 (.d (vI (l.length:Nat))) J (by rw[hml]<;>rfl) ?_;refine gx J<|?_;refine lp (X:=Nat) (fun k=>[(9, .d (vI (k:Nat)))]) (fun k=>[]) (fun k=>k<=l.length/\(l.take k).all (fun q=>!decide (q.x=p.x/\q.y=p.y))=true) (fun k=>l.length-k) 0 J ⟨cJ _,J⟩ (fun _=>J) (fun k hk=>?_);obtain⟨hk,hall⟩:=hk;refine br J J J (fun hc10=>?_) (fun hc10=>?_)
 .
  obtain⟨q,hx⟩: ∃u,l[k]? =some u:=⟨_,aX (by omega)⟩;haveI:=hl q (bU hx);refine ix _ J (ge hx) J<|cl J (Po (p:=q) (q:=p) (i:=i) hi) J<|?_;refine bd J J J (fun hc16=>?_) (fun hc16=>?_)
  .
   exact rz J (by rw[VW hx hall hc16];rfl)
  .
   exact at_ (k+1) ⟨⟨by omega,Rq hx hall (by rw[decide_eq_false hc16];rfl)⟩,(by omega)⟩
 .
  obtain rfl:k=l.length:=by omega
  rw[iQ] at hall;exact rz J (by rw[S5 hall];rfl)
def fC(l:List aa):Nat->Nat
 |0=>0
 |k+1=>fC l k+if tF l (l.getD k ⟨0,0⟩)=(k:Nat) then 1 else 0
def jA(l:List aa)(k:Nat):Nat:=if 3<=fC l k then 3 else fC l k
def Tq{l:List aa}{k:Nat}(h:jA l k<3)(e:fC l (k+1)=fC l k+1):((jA l k:Nat):Int)+1=((jA l (k+1):Nat):Int):=by
 have a:jA l k=if 3<=fC l k then 3 else fC l k:=J
 have b:jA l (k+1)=if 3<=fC l (k+1) then 3 else fC l (k+1):=J
 split at a<;>split at b<;>omega
def OI{l:List aa}{k:Nat}(h: ¬jA l k<3\/fC l (k+1)=fC l k)(m:fC l k<=fC l (k+1)):((jA l k:Nat):Int)=((jA l (k+1):Nat):Int):=by
 have a:jA l k=if 3<=fC l k then 3 else fC l k:=J
 have b:jA l (k+1)=if 3<=fC l (k+1) then 3 else fC l (k+1):=J
 split at a<;>split at b<;>omega
def aDW(l:List aa)(k:Nat):jA l k<=3:=by unfold jA;split<;>omega
def R1{l:List aa}{k:Nat}(h:3<=fC l k):jA l k=3:=by unfold jA;rw[if_pos h]
def Y9{l:List aa}{k:Nat}{p:aa}(hx:l[k]? =some p)(h:tF l p=(k:Nat)):fC l (k+1)=fC l k+1:=by
 rw[fC,aK,hx,jT,if_pos h]
def TY{l:List aa}{k:Nat}{p:aa}(hx:l[k]? =some p)(h: ¬tF l p=(k:Nat)):fC l (k+1)=fC l k:=by
 rw[fC,aK,hx,jT,if_neg h];rfl
def ZL{l:List aa}{k:Nat}:fC l k<=fC l (k+1):=by rw[fC];split<;>omega
def Wp{v:List aa}{k:Nat}{p:aa}(h:v[k]? =some p):((v.take k).map eZ)++[eZ p]=(v.take (k+1)).map eZ:=by
 rw[iS,h,iJ];rfl
def azR{r:List ZP}(h:fG r){k:Nat}(hk:k<r.length):decide ((r.getD k (0,0)).q.x=(fe r k).q.x/\(r.getD k (0,0)).q.y=(fe r k).q.y)=false:=decide_eq_false fun e=>h.ne k hk (aBn (by
 obtain⟨e1,e2⟩:=e;generalize (r.getD k (0,0)).q=a at*;generalize (fe r k).q=b at*
 cases a;cases b
 simp only[aa.mk.injEq];exact⟨e1,e2⟩))
def Wx{r:List ZP}(h:fG r)(h3:3<=fC (r.map ZP.q) (r.map ZP.q).length):PF GB prog 102 [ur r] (.tp [.sl ((r.map ZP.q).map eZ), .v .nilIface]):=by
 have hn:=h.n6;obtain⟨v,hv⟩: ∃v,v=r.map ZP.q:=⟨_,rfl⟩;have hvl:v.length=r.length:=by rw[hv,aJ]
 have hb: ∀p∈v,aG p 22:=fun p hp=>by rw[hv] at hp;obtain⟨z,hz,rfl⟩:=bW.1 hp;exact vk (h.le z hz)
 unfold ur;rw[<-hv] at h3⊢;have hm1:(v.map kG).length=v.length:=aJ ..;have hm2:(v.map eZ).length=v.length:=aJ ..;have hrl:(oe v).length=v.length:=by unfold oe;rw[aJ,nU]
 refine Mc (fu:=⟨11⟩) func102 J J ntmps102 J J (fun C h0=>?_);refine aA 13 (.d (vI (v.length:Nat))) J (by rw[hm1]<;>rfl) ?_;refine gx (fu:=⟨0⟩) J<|eo (fu:=⟨15⟩) J (by show some (decide _)=some false;rw[decide_eq_false (by omega)]) J<|?_;refine aA 20 (.d (vI (v.length:Nat))) J (by rw[hm1]<;>rfl) ?_;refine gx J<|?_;refine nr 4 4 141 6 J J J ?_;refine lp (X:=Nat) (fun k=>[(21, .d (vI (k:Nat))),(4, .rw 4)]) (fun k=>[(4,some (.b 141 6 ((v.take k).map eZ) true))]) (fun k=>k<=v.length) (fun k=>v.length-k) 0 J (cJ _) (fun _=>J) (fun k hk=>?_);have hm3:((v.take k).map eZ).length<=k:=by rw[aJ,cK];omega
 refine br (fu2:=⟨0⟩) J J J (fun hc22=>?_) (fun hc22=>?_)
 .
  obtain⟨p,hx⟩: ∃u,v[k]? =some u:=⟨_,aX (by omega)⟩;haveI:=hb p (bU hx);refine ix _ J (ge hx) J<|cl (fu:=⟨0⟩) J (Rj (p:=p) (i:=22)) J<|?_;refine jH 27 J ?_;refine gx J<|cl J (xh (p:=p) (i:=22)) J<|rf J J<|ap ((v.take (k+1)).map eZ) J (Wp hx) (Bx [p]) J<|?_;refine pe 41 4 J ?_;exact at_ (k+1) ⟨(by omega),(by omega)⟩
 .
  obtain rfl:k=v.length:=by omega
  rw[iQ];refine zX 4 J ?_;refine gx (fu:=⟨15⟩) J<|?_;refine aA 44 (.d (vI (v.length:Nat))) J (by rw[hm2]<;>rfl) ?_;refine gx J<|?_;refine lp (X:=Nat) (fun k=>[(45, .d (vI (k:Nat))),(7, .d (vI ((jA v k):Nat)))]) (fun k=>[]) (fun k=>k<=v.length) (fun k=>v.length-k) 0 J (cJ _) (fun _=>J) (fun k hk=>?_);have hdm:=aDW v k;refine br (fu2:=⟨9⟩) J J J (fun hc46=>?_) (fun hc46=>?_)
  .
   obtain⟨p,hx⟩: ∃u,v[k]? =some u:=⟨_,aX (by omega)⟩;haveI:=hb p (bU hx);have hcm:=ZL (l:=v) (k:=k);refine ix _ J (ge hx) J<|?_;refine cs 52 J J J (fun hg52=>?_) (fun hg52=>?_)
   .
    refine cl J (T8 (l:=v) (p:=p) (i:=22) hb (by omega)) J<|?_;refine br J J J (fun hc58=>?_) (fun hc58=>?_)
    .
     have he7:=Tq (by omega) (Y9 hx (by omega));refine aA 7 (.d (vI (jA v (k+1):Nat))) J (by rw[he7]<;>rfl) ?_;exact at_ (k+1) ⟨(by omega),(by omega)⟩
    .
     have he7:=OI (.inr (TY hx (by omega))) hcm;refine aA 7 (.d (vI (jA v (k+1):Nat))) J (by rw[he7]<;>rfl) ?_;exact at_ (k+1) ⟨(by omega),(by omega)⟩
   .
    have he7:=OI (l:=v) (k:=k) (.inl (by omega)) hcm;refine aA 7 (.d (vI (jA v (k+1):Nat))) J (by rw[he7]<;>rfl) ?_;exact at_ (k+1) ⟨(by omega),(by omega)⟩
  .
   obtain rfl:k=v.length:=by omega
   have hd3:=R1 h3;refine eo (fu:=⟨9⟩) J (by show some (decide _)=some false;rw[decide_eq_false (by omega)]) J<|?_;refine JY J J J O1 (fun _=>J) (fun GB1 pv hg1 hpv=>?_);refine GA 2 2000002 h0.fx J<|GA 3 2000003 h0.fx J ?_;refine On (σ:=Empty) (fun _=>[(2000002,some (.o 132 [.nl] true)),(2000003,some (.o 34 [.d (.v .nilIface)] true))]) (fun _=>True) (fun _=>[]) (fun _=>False) [(2, .ov 2000002 0),(3, .ov 2000003 0),(4, .d (.sl (v.map eZ)))] h0 J (N5 (by omega)) (.cons hpv .nil) ⟨J,J,J,trivial⟩ J ⟨J,J,trivial⟩ trivial IG J J (fun k e GB' hE hg hp=>?_) (fun D hD hx hp=>?_) (fun D s hD hx hq=>hq.elim)
   ·obtain⟨p,q,hpx,hqx,rfl⟩:=MN hE
    rw[hvl] at hqx;rw[hv] at hpx hqx;obtain⟨hk,rfl⟩:=Ao hpx;obtain⟨hk2,rfl⟩:=Ao hqx;haveI:=vk (h.le _ (zg hk));haveI:=vk (h.le _ (BF hk));have hne:=azR h hk;refine⟨?_,?_,fun C2=>?_,fun C2=>?_⟩
    rotate_left 2
    ·refine gx J<|Lg J J J ⟨J,J,J⟩ J ?_
     exact atR
    ·refine gx J<|Cg 0 (e:=141) (len:=2) (s:=6) J (by kernel_rfl) (by kernel_rfl) (by decide) J<|Cg 1 (e:=141) (len:=2) (s:=6) J (by kernel_rfl) (by kernel_rfl) (by decide) J<|?_
     refine cl J (Po (p:=(r.getD k (0,0)).q) (q:=(fe r k).q) (i:=22)) J<|?_;refine bd J J J (fun hc=>absurd (decide_eq_true hc) (by rw[hne];decide)) (fun hc=>?_);exact rq trivial ⟨J,J,trivial⟩
   ·refine gx J<|?_
    exact Jk hD hx J J
structure Ay (r:List ZP):Prop where
 ok:fG r
 c3:3<=fC (r.map ZP.q) (r.map ZP.q).length
def qP(r:List ZP):DV:= .sl ((r.map ZP.q).map eZ)
def TJ(l:List (List ZP)):fm 1 (l.map qP):=fun d hd=>by
 obtain⟨x,_,rfl⟩:=bW.1 hd;exact⟨J,J⟩
def PH{L:List (List ZP)}{k:Nat}{l:List ZP}(h:L[k]? =some l):((L.take k).map qP)++[qP l]=(L.take (k+1)).map qP:=by
 rw[iS,h,iJ];rfl
def IH{L:List (List ZP)}{k:Nat}{l:List ZP}(h:L[k]? =some l):((cI (L.take k)).map bj)++((iv l).map bj)=(cI (L.take (k+1))).map bj:=by
 rw[Rv h,iJ]
def Vc{rs:List (List ZP)}(h: ∀r∈rs,Ay r)(hn:rs.length<=200):PF GB prog 73 [.sl (rs.map ur)] (.tp [.sl (rs.map qP), .v .nilIface]):=by
 have hml:(rs.map ur).length=rs.length:=aJ ..;refine fn (fu:=⟨11⟩) func73 J J ntmps73 J J (fun C=>?_);refine aA 10 (.d (vI (rs.length:Nat))) J (by rw[hml]<;>rfl) ?_;refine gx (fu:=⟨0⟩) J<|eo (fu:=⟨15⟩) J (by show some (decide _)=some false;rw[decide_eq_false (by omega)]) J<|?_;refine aA 17 (.d (vI (rs.length:Nat))) J (by rw[hml]<;>rfl) ?_;refine gx J<|?_;refine nr 4 4 132 1 J J J ?_;refine lp (X:=Nat) (fun k=>[(18, .d (vI (k:Nat))),(4, .rw 4)]) (fun k=>[(4,some (.b 132 1 ((rs.take k).map qP) true))]) (fun k=>k<=rs.length) (fun k=>rs.length-k) 0 J (cJ _) (fun _=>J) (fun k hk=>?_);have hm3:((rs.take k).map qP).length<=k:=by rw[aJ,cK];omega
 refine br J J J (fun hc19=>?_) (fun hc19=>?_)
 .
  obtain⟨r,hx⟩: ∃u,rs[k]? =some u:=⟨_,aX (by omega)⟩;have hr:=h r (bU hx);refine ix _ J (ge hx) J<|cl (fu:=⟨11⟩) J (Wx hr.ok hr.c3) J<|eo J J J<|rf J J<|ap ((rs.take (k+1)).map qP) J (PH hx) (TJ [r]) J<|?_;refine pe 33 4 J ?_;exact at_ (k+1) ⟨(by omega),(by omega)⟩
 .
  obtain rfl:k=rs.length:=by omega
  rw[iQ];refine qi 4 J ?_;exact rz J J
def onR(rs:List (List ZP))(p:aa):Bool:=(cI rs).any fun f=>E9 f p
def VT{fill n:Int}:PF GB prog 59 [vI fill,vI n] (vB (vf fill n)):=by
 refine fn func59 J J ntmps59 J J (fun C=>?_);refine br J J J (fun hc6=>?_) (fun hc6=>?_)
 .
  exact rz J (by show DV.v (.bool _)= .v (.bool _);unfold vf;simp_all)
 .
  refine br J J J (fun hc11=>?_) (fun hc11=>?_)
  .
   exact rz J (by show DV.v (.bool _)= .v (.bool _);unfold vf;simp_all)
  .
   exact rz J (by show DV.v (.bool _)= .v (.bool _);unfold vf;simp_all)
def M'(f:aP)(m:ab):(splitP f m).length<=1:=by unfold splitP;split<;>simp
def lP(l:List aP)(m:ab):List aP:=l.flatMap fun g=>splitP g m
def AY(l:List aP)(m:ab):(lP l m).length<=l.length:=by
 induction l with
 |nil=>exact aN _
 |cons f t ih=>
  unfold lP at ih⊢;rw[nT,aT,bK];have:(splitP f m).length<=1:=by unfold splitP;split<;>simp
  omega
def NX{l:List aP}{k:Nat}{f:aP}{m:ab}(h:l[k]? =some f):(lP (l.take k) m).map bj++(splitP f m).map bj=(lP (l.take (k+1)) m).map bj:=by
 unfold lP;rw[iS,h,qJ,iJ];simp
def BP{f:aP}{m:ab}{a b:Bool}(ha:f.l.cutB f.v m=a)(hb:f.l.cutB f.v m.rev=b):(DV.tp [.sl (if a then [bj ⟨f.l,f.l.cutV f.v m⟩] else []), .sl (if b then [bj ⟨f.l,f.l.cutV f.v m.rev⟩] else [])])= .tp [.sl ((splitP f m).map bj), .sl ((splitP f m.rev).map bj)]:=by
 subst ha hb;unfold splitP;split<;>split<;>rfl
def Rm{f:aP}{m:ab}(hf:FS f)(hm:LB m):PF GB prog 256 [bj f,d8 m] (.tp [.sl ((splitP f m).map bj), .sl ((splitP f m.rev).map bj)]):=by
 haveI:=hf.fo.lb;haveI:=hf.fo.lo;haveI:=hf.fo.hi;haveI:=hm;refine fn func256 J J ntmps256 J J (fun C=>?_);refine cl J (xH (l:=f.l) (v:=f.v) (m:=m) (i:=1200)) J<|?_;refine bb J J J (fun hc19=>?_) (fun hc19=>?_)
 .
  refine rf J J<|cl J EP J<|cl J (xH (l:=f.l) (v:=f.v) (m:=m.rev) (i:=1200)) J<|?_;refine bb J J J (fun hc35=>?_) (fun hc35=>?_)
  .
   refine rf J J<|?_;exact rz J (BP hc19 hc35)
  .
   exact rz J (BP hc19 hc35)
 .
  refine cl J EP J<|cl J (xH (l:=f.l) (v:=f.v) (m:=m.rev) (i:=1200)) J<|?_;refine bb J J J (fun hc35=>?_) (fun hc35=>?_)
  .
   refine rf J J<|?_;exact rz J (BP hc19 hc35)
  .
   exact rz J (BP hc19 hc35)
def VL:KN prog 167:=by
 intro p q w;refine callsDIn_of_wpSIn func167 J trivial fun c₀ cs hu=>?_;apply wpSIn_seq;apply wpSIn_region;simp[wpOpsSIn,go_sem,recoverD,hu,ntmps167,Exit.thenS,FW,Fence.wide];apply wpSIn_seq;apply wpSIn_region;simp[wpOpsSIn,go_sem,Exit.thenS,FW,Fence.wide];refine wpSIn_cond (t:=false) (by simp[Act.eval,Array.replicate]) ?_;simp only[cM,if_false];refine wpSIn_of_wpIn J (wpIn_skip ?_)
 cases c₀
 simp_all [bodyPostS,results,Tryz.results167,go_sem]
def alA{b:Nat}{f:FuncId}{c2:List Value}{ds2:List DV}(hc2:IsLs GB ds2 c2){acc:aa->Bool}(hF: ∀q,aG q 20000->PF GB prog f (eZ q::ds2) (vB (acc q))){n:Nat}{c:aE}{d N:Nat}(hc:jb c)(hcl:c.length<=100000):PM GB prog 168 (jq [none,some (.sl (([]:List aP).map bj)),some (.sl (c.map bj)),some (.v (.int .i64 (d:Nat)))] b) b 272 [.v (.int .i64 (N:Nat)),(.v (.func (.func f) ⟨[]⟩ ⟨c2⟩))] (eU (gt acc n [] c)) [.v (.int .i64 (N+(gt acc n [] c).size:Nat)),(.v (.func (.func f) ⟨[]⟩ ⟨c2⟩))]:=by
 have hib:=Te hc;refine yv (fu:=⟨10⟩) func168 J J ntmps168 J J (fun C b m lo hmb=>?_);refine fD (fu:=⟨8⟩) J J J<|SF J J J J J J<|cl (fu:=⟨0⟩) J (ZM (c:=c) hc hcl) J<|yB (ds1:=[]) (ds2:=ds2) J (cB.2 J) hc2 (hF (o7 c) hib) J<|?_;refine cl J (q8 (b:=acc (o7 c))) J<|?_;exact r5 hmb J J (by cases n<;>rfl) (by cases n<;>rfl)
def Wl{b:Nat}{f:FuncId}{c2:List Value}{g:aP}{t:List aP}{c:aE}{d N:Nat}{x y:Tr}(hl: ∀u∈g::t,FS u)(hlen:(g::t).length<=100000)(hc:jb c)(hcl:c.length<=100000)(hd:d<1000)(hN:N+(1+x.size+y.size)<=65536)(ih1: ∀{b N:Nat},N+x.size<=65536->PM GB prog 168 (jq [none,some (.sl ((lP (g::t) g.l).map bj)),some (.sl ((bF c g.l).map bj)),some (.v (.int .i64 (d+1:Nat)))] b) b 272 [.v (.int .i64 (N:Nat)),(.v (.func (.func f) ⟨[]⟩ ⟨c2⟩))] (eU x) [.v (.int .i64 (N+x.size:Nat)),(.v (.func (.func f) ⟨[]⟩ ⟨c2⟩))])(ih2: ∀{b N:Nat},N+y.size<=65536->PM GB prog 168 (jq [none,some (.sl ((lP (g::t) g.l.rev).map bj)),some (.sl ((bF c g.l.rev).map bj)),some (.v (.int .i64 (d+1:Nat)))] b) b 272 [.v (.int .i64 (N:Nat)),(.v (.func (.func f) ⟨[]⟩ ⟨c2⟩))] (eU y) [.v (.int .i64 (N+y.size:Nat)),(.v (.func (.func f) ⟨[]⟩ ⟨c2⟩))]):PM GB prog 168 (jq [none,some (.sl ((g::t).map bj)),some (.sl (c.map bj)),some (.v (.int .i64 (d:Nat)))] b) b 272 [.v (.int .i64 (N:Nat)),(.v (.func (.func f) ⟨[]⟩ ⟨c2⟩))] (eU (Tr.node g.l x y)) [.v (.int .i64 (N+(Tr.node g.l x y).size:Nat)),(.v (.func (.func f) ⟨[]⟩ ⟨c2⟩))]:=by
 have hg:=hl g aQ;haveI hlb:=hg.fo.lb;have hlt:t.length+1<=100000:=hlen;have hml:((g::t).map bj).length=(g::t).length:=aJ ..;refine yv (fu:=⟨10⟩) func168 J J ntmps168 J J (fun C b m lo hmb=>?_);refine aA 22 (.d (vI ((t.length+1:Nat):Int))) J (by rw[hml]<;>rfl) ?_;refine gx (fu:=⟨0⟩) J<|eo (fu:=⟨13⟩) (hv:=by simp only[ah];exact(by omega)) J (by show some (decide _)=some false;rw[decide_eq_false (by omega)]) J<|?_;refine aA 36 (.d (.v (.int .i64 (N+1:Nat)))) J J ?_;refine gx (fu:=⟨11⟩) J<|eo (fu:=⟨2⟩) J (by show some (decide _)=some false;rw[decide_eq_false (by omega)]) J<|eo J (by show some (decide _)=some false;rw[decide_eq_false (by omega)]) J<|?_;refine ix (fu:=⟨17⟩) _ J J J<|?_;refine aA 55 (.d (vI ((t.length+1:Nat):Int))) J (by rw[hml]<;>rfl) ?_;refine gx J<|?_;refine nr 10 10 222 17 J J J ?_;refine nr 11 11 222 17 J J J ?_;refine lp (X:=Nat) (fun k=>[(56, .d (vI (k:Nat))),(10, .rw 10),(11, .rw 11)]) (fun k=>[(10,some (.b 222 17 ((lP ((g::t).take k) g.l).map bj) true)),(11,some (.b 222 17 ((lP ((g::t).take k) g.l.rev).map bj) true))]) (fun k=>k<=t.length+1) (fun k=>t.length+1-k) 0 J (cJ _) (fun _=>J) (fun k hk=>?_);have hm1:=AY ((g::t).take k) g.l;have hm2:=AY ((g::t).take k) g.l.rev;have hm3:((g::t).take k).length<=k:=by rw[cK];omega
 have hm4:((lP ((g::t).take k) g.l).map bj).length<=k:=by rw[aJ];omega
 have hm5:((lP ((g::t).take k) g.l.rev).map bj).length<=k:=by rw[aJ];omega
 refine br (fu2:=⟨0⟩) J J J (fun hc57=>?_) (fun hc57=>?_)
 .
  obtain⟨u,hx⟩: ∃u,(g::t)[k]? =some u:=⟨_,aX (by rw[bK];omega)⟩;have hu:=hl u (bU hx);have hs1:=M' u g.l;have hs2:=M' u g.l.rev;refine ix _ J (ge hx) J<|cl J (Rm hu hlb) J<|ap ((lP ((g::t).take (k+1)) g.l).map bj) J (NX hx) (ya (splitP u g.l)) J<|?_;refine ap ((lP ((g::t).take (k+1)) g.l.rev).map bj) J (NX hx) (ya (splitP u g.l.rev)) J<|?_;refine pe 68 10 J ?_;refine pe 71 11 J ?_;exact at_ (k+1) ⟨(by omega),(by omega)⟩
 .
  obtain rfl:k=t.length+1:=by omega
  rw[show(g::t).take (t.length+1)=g::t from iQ (l:=g::t)];refine zX 11 J ?_;refine gx J<|cl (fu:=⟨18⟩) J (J1 (l:=g.l) (c:=c) hg.fo.ok hc hcl) J<|?_;refine aA 85 (.d (.v (.int .i64 (d+1:Nat)))) J J ?_;refine gx J<|fz 10 J J<|cm (fu:=⟨12⟩) J (fun b=>(ih1 (N:=N+1) (by omega))) J<|?_;refine aA 93 (.d (.v (.int .i64 (d+1:Nat)))) J J ?_;refine gx J<|cm J (fun b=>(ih2 (N:=N+1+x.size) (by omega))) J<|cl J wP J<|?_;exact r5 hmb J J J (by rw[show N+(Tr.node g.l x y).size=N+1+x.size+y.size from by rw[Tr.size];omega])
def GQ{f:FuncId}{c2:List Value}{ds2:List DV}(hc2:IsLs GB ds2 c2){acc:aa->Bool}(hF: ∀q,aG q 20000->PF GB prog f (eZ q::ds2) (vB (acc q))): ∀{n:Nat} {l:List aP} {c:aE} {d N b:Nat},(∀u∈l,FS u)->mm n l->l.length<=100000->jb c->c.length+n<=100000->d+n<=1000->N+(gt acc n l c).size<=65536->PM GB prog 168 (jq [none,some (.sl (l.map bj)),some (.sl (c.map bj)),some (.v (.int .i64 (d:Nat)))] b) b 272 [.v (.int .i64 (N:Nat)),(.v (.func (.func f) ⟨[]⟩ ⟨c2⟩))] (eU (gt acc n l c)) [.v (.int .i64 (N+(gt acc n l c).size:Nat)),(.v (.func (.func f) ⟨[]⟩ ⟨c2⟩))]
 |_,[],c,d,N,b,_,_,_,hc,hcl,_,_=>alA hc2 hF hc (by omega)
 |0,g::t,_,_,_,_,_,hf,_,_,_,_,_=>hf.no.elim
 |n+1,g::t,c,d,N,b,hl,hf,hlen,hc,hcl,hd,hN=>by
  have hg:=hl g aQ;haveI hlb:=hg.fo.lb;obtain⟨f1,f2⟩:=FS.splits hl hlb;obtain⟨w1,w2⟩:=hf.splitP hl;have n1:=AY (g::t) g.l;have n2:=AY (g::t) g.l.rev;have k1:=Bj c g.l;have k2:=Bj c g.l.rev;have o1:=Ca hg.fo.ok hc;have o2:=Ca (l:=g.l.rev) (ab.ok.rev hg.fo.ok) hc;refine Wl (x:=gt acc n (lP (g::t) g.l) (bF c g.l)) (y:=gt acc n (lP (g::t) g.l.rev) (bF c g.l.rev)) hl hlen hc (by omega) (by omega) hN (fun{b' N'} h2=>?_) (fun{b' N'} h2=>?_)
  ·exact GQ hc2 hF f1 w1 (by omega) o1 (by omega) (by omega) h2
  ·exact GQ hc2 hF f2 w2 (by omega) o2 (by omega) (by omega) h2
def JP{E:List aP}(hE: ∀u∈E,FS u){n:Nat}(hw:mm n E)(hn:n<=1000)(hlen:E.length<=100000){f:FuncId}{c2:List Value}{ds2:List DV}(hc2:IsLs GB ds2 c2){acc:aa->Bool}(hF: ∀q,aG q 20000->PF GB prog f (eZ q::ds2) (vB (acc q)))
  (hs:(gt acc n E []).size<=65536)(hd:(gt acc n E []).depth<=1000)(ho:(gt acc n E []).all ab.ok)(hb:(gt acc n E []).all LB):PF GB prog 75 [.sl (E.map bj), .v (.func (.func f) ⟨[]⟩ ⟨c2⟩)] (.tp [eU ((gt acc n E []).restrict []), .v .nilIface]):=by
 refine T4 func75 J J ntmps75 J J (fun C h0=>?_);refine SJ h0 J J J (by decide) (fun p q=>?_);refine gx J ?_;refine cm J (fun b=>GQ (b:=b) hc2 hF (n:=n) (l:=E) (c:=[]) (d:=0) (N:=0) hE hw hlen (fun s hs=>by cases hs) (by simp;omega) (by omega) (by omega)) J ?_;refine cl J (Ua hb ho (by omega)) J ?_;exact So VL ⟨_,func167,J,J⟩ J J
end Go.Sx
end
