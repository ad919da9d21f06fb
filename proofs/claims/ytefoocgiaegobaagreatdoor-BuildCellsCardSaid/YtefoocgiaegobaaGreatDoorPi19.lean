import Derived.Test.YtefoocgiaegobaaGreatDoorPi18
set_option linter.all false
set_option maxHeartbeats 4000000
set_option maxRecDepth 100000
section
namespace Go.Sx
open Go Go.Proofs Tryz
variable {GB:Gh}
def mB(c:aC)(m:aa):Bool:=cH c m&&cH c m.rev
def ur{c:aC}(hc:cI c){m:aa}(hm:m.ok):mB c m=true↔BR m c:=by
 unfold mB;rw[aL];constructor
 ·rintro ⟨h1,h2⟩
  obtain⟨p,hp,k1⟩:=(r8 hc hm).1 h1;obtain⟨q,hq,k2⟩:=(r8 hc hm.rev).1 h2;rw[f7] at k2;generalize hA:m.value p=A at*;generalize hB:m.value q=B at*;have hAB:0<A-B:=by grind
  have e:A/(A-B)*(A-B)=A:=by grind
  generalize A/(A-B)=r at*;have r0:0<=r:=(jB hAB).1 (by rw[e];exact dS k1);have r1:r<=1:=by
   have:=(jB (s:=1-r) hAB).1 (by grind);grind
  exact⟨bt p q r,hp.seg hq r0 r1,by rw[jH,hA,hB];grind⟩
 ·rintro ⟨p,hp,h0⟩
  exact RC hc hm hp h0
def xB(c:aC)(m n:aa):Bool:=decide (¬m.same n)&&(decide (n.value (ym m n)=0)&&p9 c (ym m n))
def qg{c:aC}{m n:aa}(hm:m.ok)(hn:n.ok):xB c m n=true↔ ¬m.same n/\ ∃z,bw c z/\m.value z=0/\n.value z=0:=by
 unfold xB;rw[aL,aL,decide_eq_true_eq,decide_eq_true_eq,rj];constructor
 ·rintro ⟨h1,h2,h3⟩
  exact⟨h1,_,h3,nH hm.ne _,h2⟩
 ·rintro ⟨h1,z,hz,k1,k2⟩
  rcases Cm hm hn k1 k2 with h|h
  ·exact absurd h h1
  ·rw[<-h];exact⟨h1,k2,hz⟩
def Fy{c:aC}{m n:aa}(hm:m.ok)(hn:n.ok):xB c m n=xB c n m:=by
 rw[oL,qg hm hn,qg hn hm];constructor<;>(rintro ⟨h,z,hz,k1,k2⟩;exact⟨fun e=>h e.symm,z,hz,k2,k1⟩)
def iq(f:aa->Nat):List aa->Nat
 |[]=>0
 |m::K=>f m+iq f K
def bN(b:Bool):Nat:=if b then 1 else 0
def Qo{f g:aa->Nat}: ∀{K:List aa},(∀m∈K,f m<=g m)->iq f K<=iq g K
 |[],_=>aN _
 |m::K,h=>by
  have:=Qo (f:=f) (g:=g) (K:=K) fun n hn=>h n (aZ _ hn);have:=h m aQ;show f m+iq f K<=g m+iq g K;omega
def yr(f g:aa->Nat): ∀K,iq (fun m=>f m+g m) K=iq f K+iq g K
 |[]=>rfl
 |m::K=>by
  have:=yr f g K;show f m+g m+iq (fun m=>f m+g m) K=f m+iq f K+(g m+iq g K);omega
def zp{f g:aa->Nat}{d:Nat}{m0:aa}: ∀{K:List aa},(∀m∈K,f m<=g m)->m0∈K->f m0+d<=g m0->iq f K+d<=iq g K
 |[],_,h,_=>by cases h
 |m::K,h,hm,hd=>by
  have i1:=Qo (f:=f) (g:=g) (K:=K) fun n hn=>h n (aZ _ hn);have:=h m aQ;show f m+iq f K+d<=g m+iq g K;rcases aY.1 hm with rfl|hm
  ·omega
  ·have:=zp (f:=f) (g:=g) (d:=d) (K:=K) (fun n hn=>h n (aZ _ hn)) hm hd
   omega
def yG{f:aa->Nat}{B:Nat}: ∀{K:List aa},(∀m∈K,f m<=B)->iq f K<=K.length*B
 |[],_=>bU _
 |m::K,h=>by
  have:=yG (f:=f) (B:=B) (K:=K) fun n hn=>h n (aZ _ hn);have:=h m aQ;show f m+iq f K<=(K.length+1)*B;rw[gU];omega
def xO(K:List aa)(c:aC):Nat:=iq (fun m=>bN (mB c m)) K
def jI(K:List aa)(c:aC)(m:aa):Nat:=iq (fun n=>bN (xB c m n)) K
def x6(K:List aa)(c:aC):Nat:=iq (jI K c) K
def ML(b:Bool):bN b<=1:=by cases b<;>decide
def Zl{K:List aa}(hK: ∀m∈K,m.ok){c:aC}(hc:cI c){n m0:aa}(hn:n.ok)(h0:m0∈K)(hs:m0.same n)(hb:cH c n=true)(hb2:cH c n.rev=true):
  xO K (bE c n)+xO K (bE c n.rev)+1<=xO K c+jI K c m0/\x6 K (bE c n)+x6 K (bE c n.rev)+2*jI K c m0<=x6 K c:=by
 obtain⟨g1,i1⟩:=jv hc hn hb;obtain⟨g2,i2⟩:=jv hc hn.rev hb2;have i2: ∀p,bw (bE c n.rev) p↔bw c p/\n.value p<0:=fun p=>by rw[i2,f7];constructor<;>(rintro ⟨a,b⟩;exact⟨a,by grind⟩)
 have hm0:=hK m0 h0;have z1: ∀m,m.ok->(mB (bE c n) m=true->mB c m=true)/\(mB (bE c n.rev) m=true->mB c m=true):=fun m hm=>by
  rw[ur g1 hm,ur g2 hm,ur hc hm];exact⟨fun⟨p,hp,k⟩=>⟨p,((i1 p).1 hp).1,k⟩,fun⟨p,hp,k⟩=>⟨p,((i2 p).1 hp).1,k⟩⟩
 have z2: ∀m,m.ok->mB (bE c n) m=true->mB (bE c n.rev) m=true->xB c m0 m=true:=fun m hm h1 h2=>by
  obtain⟨p,hp,k1⟩:=(ur g1 hm).1 h1;obtain⟨q,hq,k2⟩:=(ur g2 hm).1 h2;obtain⟨hp,ap⟩:=(i1 p).1 hp;obtain⟨hq,aq⟩:=(i2 q).1 hq;rw[qg hm0 hm];refine⟨fun e=>?_,?_⟩
  ·rw[qn hs (qn e.symm k1)] at ap;grind
  generalize hA:n.value p=A at*;generalize hB:n.value q=B at*;have hAB:0<A-B:=by grind
  have e:A/(A-B)*(A-B)=A:=by grind
  generalize A/(A-B)=r at*;have r0:0<=r:=(jB hAB).1 (by rw[e];exact dS ap);have r1:r<=1:=by
   have:=(jB (s:=1-r) hAB).1 (by grind);grind
  exact⟨bt p q r,hp.seg hq r0 r1,qn hs.symm (by rw[jH,hA,hB];grind),by rw[jH,k1,k2];grind⟩
 have w1: ∀m m',m.ok->m'.ok->xB (bE c n) m m'=true->xB c m m'=true/\ ¬xB (bE c n.rev) m m'=true:=fun m m' hm hm' h=>by
  rw[qg hm hm'] at h;obtain⟨e,z,hz,k1,k2⟩:=h;obtain⟨hz,az⟩:=(i1 z).1 hz;refine⟨(qg hm hm').2 ⟨e,z,hz,k1,k2⟩,fun h=>?_⟩;obtain⟨_,y,hy,j1,j2⟩:=(qg hm hm').1 h;obtain⟨hy,ay⟩:=(i2 y).1 hy;rcases Cm hm hm' k1 k2 with h|h
  ·exact e h
  ·rcases Cm hm hm' j1 j2 with h'|h'
   ·exact e h'
   ·rw[h'] at ay;rw[h] at az;grind
 have w2: ∀m m',m.ok->m'.ok->xB (bE c n.rev) m m'=true->xB c m m'=true:=fun m m' hm hm' h=>by
  rw[qg hm hm'] at h⊢;obtain⟨e,z,hz,k1,k2⟩:=h;exact⟨e,z,((i2 z).1 hz).1,k1,k2⟩
 have w3: ∀m,m.ok->xB (bE c n) m m0=false/\xB (bE c n.rev) m m0=false:=fun m hm=>by
  constructor
  ·rw[<-kK,qg hm hm0]
   rintro ⟨_,z,hz,_,k2⟩;have:=((i1 z).1 hz).2;rw[qn hs k2] at this;grind
  ·rw[<-kK,qg hm hm0]
   rintro ⟨_,z,hz,_,k2⟩;have:=((i2 z).1 hz).2;rw[qn hs k2] at this;grind
 have hmm: ∀d,xB d m0 m0=false:=fun d=>by
  rw[<-kK,qg hm0 hm0];rintro ⟨h,_⟩;exact h (.inl rfl)
 have n1: ∀d:aC,cI d->(∀p,bw d p->n.value p≠0)->mB d m0=false:=fun d hd h=>by
  rw[<-kK,ur hd hm0];rintro ⟨p,hp,k⟩;exact h p hp (qn hs k)
 have n2:mB c m0=true:=by
  rw[ur hc hm0];obtain⟨p,hp,k⟩:=(ur hc hn).1 (by unfold mB;rw[hb,hb2];rfl);exact⟨p,hp,qn hs.symm k⟩
 constructor
 ·unfold xO jI
  rw[<-yr,<-yr];refine zp (m0:=m0) (d:=1) (fun m hm=>?_) h0 ?_
  ·have hmk:=hK m hm
   obtain⟨a1,a2⟩:=z1 m hmk;have a3:=z2 m hmk
   try dsimp only
   cases e1:mB (bE c n) m<;>cases e2:mB (bE c n.rev) m<;>simp only[e1,e2,forall_const,reduceCtorEq,false_implies] at a1 a2 a3<;>simp_all [bN]
  ·try dsimp only
   rw[n1 _ g1 (fun p hp=>by have:=((i1 p).1 hp).2;grind),n1 _ g2 (fun p hp=>by have:=((i2 p).1 hp).2;grind),n2,hmm];decide
 ·have row: ∀m∈K,jI K (bE c n) m+jI K (bE c n.rev) m+bN (xB c m m0)<=jI K c m:=fun m hm=>by
   have hmk:=hK m hm;unfold jI;rw[<-yr];refine zp (m0:=m0) (d:=bN (xB c m m0)) (fun m' hm'=>?_) h0 ?_
   ·have hmk':=hK m' hm'
    have b1:=w1 m m' hmk hmk';have b2:=w2 m m' hmk hmk'
    try dsimp only
    cases e1:xB (bE c n) m m'<;>cases e2:xB (bE c n.rev) m m'<;>simp_all [bN]
   ·obtain⟨c1,c2⟩:=w3 m hmk
    try dsimp only
    rw[c1,c2];simp[bN]
  have r0:jI K (bE c n) m0=0/\jI K (bE c n.rev) m0=0:=by
   have z: ∀d,(∀m∈K,xB d m0 m=false)->jI K d m0=0:=fun d h=>by
    have:=yG (f:=fun m=>bN (xB d m0 m)) (B:=0) (K:=K) fun m hm=>by rw[h m hm];decide
    unfold jI;omega
   exact⟨z _ fun m hm=>by rw[Fy hm0 (hK m hm)];exact(w3 m (hK m hm)).1,z _ fun m hm=>by rw[Fy hm0 (hK m hm)];exact(w3 m (hK m hm)).2⟩
  have cs:iq (fun m=>bN (xB c m m0)) K=jI K c m0:=by
   unfold jI;have key: ∀Jv:List aa,(∀m∈Jv,m.ok)->iq (fun m=>bN (xB c m m0)) Jv=iq (fun m=>bN (xB c m0 m)) Jv:=fun Jv=>by
    induction Jv with
    |nil=>intro _;rfl
    |cons a Jv ih=>
     intro h;show bN (xB c a m0)+_=bN (xB c m0 a)+_;rw[ih fun m hm=>h m (aZ _ hm),Fy (h a aQ) hm0]
   exact key K hK
  have:=zp (f:=fun m=>jI K (bE c n) m+jI K (bE c n.rev) m+bN (xB c m m0)) (g:=jI K c) (d:=jI K c m0) (m0:=m0) row h0 (by rw[r0.1,r0.2,hmm];simp[bN]);rw[yr,yr,cs] at this;unfold x6;omega
def F6{K:List aa}(hK: ∀m∈K,m.ok): ∀{t:Tr} {c:aC},t.Prp c->t.all aa.ok->cI c->od K t->2*t.size<=2*xO K c+x6 K c
 | .leaf _,_,_,_,_,_=>bU _
 | .node n x y,c,⟨h1,h2,h3,h4⟩,⟨hn,hx,hy⟩,hc,⟨⟨m0,hm0,hs⟩,kx,ky⟩=>by
  obtain⟨g1,_⟩:=jv hc hn h1;obtain⟨g2,_⟩:=jv hc hn.rev h2;have a:=F6 hK h3 hx g1 kx;have b:=F6 hK h4 hy g2 ky;obtain⟨d1,d2⟩:=Zl hK hc hn hm0 hs h1 h2;rw[Tr.size];omega
def VB{K:List aa}(hK: ∀m∈K,m.ok){t:Tr}{c:aC}(h:t.Prp c)(ht:t.all aa.ok)(hc:cI c)(hA:od K t):2*t.size<=K.length*(K.length+1):=by
 have h1:=F6 hK h ht hc hA;have h2:xO K c<=K.length*1:=yG fun m _=>ML _;have h3:x6 K c<=K.length*(K.length-1):=yG fun m hm=>by
  have:=zp (f:=fun n=>bN (xB c m n)) (g:=fun _=>1) (d:=1) (m0:=m) (K:=K) (fun n _=>ML _) hm (by
   have:xB c m m=false:=by rw[<-kK,qg (hK m hm) (hK m hm)];rintro ⟨h,_⟩;exact h (.inl rfl)
   rw[this];decide)
  have l1:iq (fun _=>1) K<=K.length*1:=yG fun _ _=>aN _;unfold jI;omega
 have:K.length*(K.length+1)=K.length*(K.length-1)+2*K.length:=by
  cases K.length with
  |zero=>rfl
  |succ k=>rw[Nat.succ_sub_one,Nat.mul_succ,Nat.mul_succ,gU];omega
 omega
section
variable {GB:Gh} {ai al ae:Addr} (hE:EG GB ai al ae) {j k:Nat} {a b:Tr} (ha:nB j a) (hb:nB k b)
include hE ha
include hb
end
section
variable {GB:Gh} {ai al ae:Addr} (hE:EG GB ai al ae)
include hE
end
def ptZ:DV:= .ag [vI 0,vI 0, .v (.pointer none),vI 0,vI 0, .v (.pointer none)]
def apZ:DV:= .ag [.v (.bool false), .sl [], .sl [], .v (.bool false), .sl [], .sl []]
def Vb{c:aC}(hc:iu c)(hn:c.length<=100000):PF GB prog 255 [eC c] (eZ (pE c)):=by
 cases c with
 |nil=>exact ZY
 |cons s cs=>exact W9 hc (by rw[bW] at hn;omega)
def FK(d:Rat):Prop:=True
theorem JB{s:aO}{p:ab}: ∀{c:aC} {f:Rat},BQ f 9000->(∀g∈c,BQ (-(g.l.value p/g.l.nor.dot s.l.nor)) 9000)->BQ (jg s.l p c f) 9000
 |[],f,h,_=>h
 |g::c,f,h,k=>by
  rw[jg];refine JB ?_ fun u hu=>k u (aZ _ hu);split
  ·split
   ·exact k g aQ
   ·exact h
  ·exact h
theorem V8{c:aC}(hc:iu c):aI (pE c) 20000:=by
 cases c with
 |nil=>exact⟨BQ.mono (k:=2) ⟨by decide,by decide⟩ (by decide),BQ.mono (k:=2) ⟨by decide,by decide⟩ (by decide)⟩
 |cons s cs=>
  have hs:=hc s aQ;haveI:=hs.lb;haveI:=EY hs;haveI:=JB (s:=s) (p:=s.l.at s.v.sample) (c:=cs) (f:=1) (BQ.mono (k:=2) ⟨by decide,by decide⟩ (by decide)) fun g hg=>D3 hs (hc g (aZ _ hg));rw[Qn];have:=(inferInstance:aI ((s.l.at s.v.sample).add (s.l.nor.scale (jg s.l (s.l.at s.v.sample) cs 1*mkRat 1 2))) _);exact⟨this.x.mono (by decide),this.y.mono (by decide)⟩
def Dn(l:List ab):ew 6 (l.map eZ):=fun d hd=>by
 obtain⟨x,_,rfl⟩:=bJ.1 hd;exact⟨J,J⟩
instance aI.negp (p:ab) (i:Nat) [h:aI p i]:aI (b7 p) i:=⟨inferInstanceAs (BQ (-p.x) i),inferInstanceAs (BQ (-p.y) i)⟩
instance aI.prip (l:aa) [LB l]:aI (dE l.dir) 500:=by
 have h:=(inferInstance:aI (l.dir.scale (rgcd l.dir.x l.dir.y)⁻¹) _);exact⟨h.x.mono (by decide),h.y.mono (by decide)⟩
def aED{p:ab}{i:Nat}[h:aI p i](hi:i<=900000000:=by decide):PF GB prog 320 [eZ p] (eZ (b7 p)):=by
 refine fn func320 J J ntmps320 J J (fun C=>?_);refine cl J (ot (q:=p.x) (i:=i) hi) J<|cl J (ot (q:=p.y) (i:=i) hi) J<|?_;exact rz J J
def MG{p:ab}{i:Nat}[h:aI p i](hi:i<=900000000:=by decide):PF GB prog 242 [eZ p] (eZ (jC p)):=by
 refine fn func242 J J ntmps242 J J (fun C=>?_);refine cl J (ot (q:=p.y) (i:=i) hi) J<|?_;exact rz J J
def Xj{p:ab}{i:Nat}[h:aI p i](hi:i<=1000000:=by decide):PF GB prog 319 [eZ p] (eZ (dE p)):=by
 refine fn func319 J J ntmps319 J J (fun C=>?_);refine cl J (n8 (p:=p.x) (q:=p.y) (i:=i) (j:=i) (by omega) (by omega)) J<|cl J (DS (q:=rgcd p.x p.y) (i:=i+i+(i+i)) (by omega)) J<|?_;refine cl J (B5 (p:=p) (c:=(rgcd p.x p.y)⁻¹) (i:=i) (j:=i+i+(i+i)) (by omega) (by omega)) J<|?_;exact rz J J
def DM(l:aa)(x y:Tr)(p:ab):dO (.node l x y) p=(if Int.sign (l.value p).num=0 then [dE l.dir,b7 (dE l.dir)] else [])++((if 0<=Int.sign (l.value p).num then dO x p else [])++(if Int.sign (l.value p).num<=0 then dO y p else [])):=by
 unfold dO;rw[lm,qV,qV];congr 1
 ·split<;>simp
 ·congr 1<;>split<;>simp
def A9: ∀(t:Tr) (p:ab),(dO t p).length<=2*t.size
 | .leaf _,_=>bU _
 | .node l x y,p=>by
  have h1:=A9 x p;have h2:=A9 y p;rw[DM,aS,aS,Tr.size];split<;>split<;>split<;>simp only[bW,jQ]<;>omega
def Yb{b:Bool}{p:ab}{o:List ab}:PB GB prog 222 (ey [some (eU (.leaf b)),some (eZ p),none]) 6 141 (o.map eZ) (fun w=> .v (.slice w.a w.n w.c)) ((o++dO (.leaf b) p).map eZ):=by
 refine wu func222 J J ntmps222 J J (fun C=>?_);refine cl (fu:=⟨0⟩) J wA J<|?_;refine kP 10 J ?_;refine gx J<|?_;exact tn J J J (by show _=(o++[]).map eZ;rw[iK])
def Xf{l:aa}{x y:Tr}{p:ab}{i:Nat}[hp:aI p i](hl:LB l)(hi:i<=10000000){o:List ab}(hs:o.length+2*(Tr.node l x y).size<=1000000)(hz:Int.sign (l.value p).num=0)(ihx: ∀{o:List ab},o.length+2*x.size<=1000000->PB GB prog 222 (ey [some (eU x),some (eZ p),none]) 6 141 (o.map eZ) (fun w=> .v (.slice w.a w.n w.c)) ((o++dO x p).map eZ))(ihy: ∀{o:List ab},o.length+2*y.size<=1000000->PB GB prog 222 (ey [some (eU y),some (eZ p),none]) 6 141 (o.map eZ) (fun w=> .v (.slice w.a w.n w.c)) ((o++dO y p).map eZ)):PB GB prog 222 (ey [some (eU (.node l x y)),some (eZ p),none]) 6 141 (o.map eZ) (fun w=> .v (.slice w.a w.n w.c)) ((o++dO (.node l x y) p).map eZ):=by
 haveI:=hl;have hz2:(Tr.node l x y).size=1+x.size+y.size:=J;have hp1:=A9 x p;refine wu func222 J J ntmps222 J J (fun C=>?_);refine cl (fu:=⟨0⟩) J uA J<|?_;refine oD 10 J ?_;refine gx J<|cl (fu:=⟨7⟩) J (wh (l:=l) (p:=p) (i:=i) hi) J<|f8 J (by show some (decide _)=some true;rw[decide_eq_true (by omega)]) J<|?_;refine cl J (vE (l:=l)) J<|cl J (Xj (p:=l.dir) (i:=97)) J<|cl J (aED (p:=dE l.dir) (i:=500)) J<|rf J J<|?_;refine P6 (fu:=⟨7⟩) ((o++[dE l.dir,b7 (dE l.dir)]).map eZ) J (by rw[eX]<;>rfl) (Dn [dE l.dir,b7 (dE l.dir)]) J<|f8 J (by show some (decide _)=some true;rw[decide_eq_true (by omega)]) J<|?_;refine cq (fu:=⟨7⟩) (((o++[dE l.dir,b7 (dE l.dir)])++dO x p).map eZ) J (ihx (by rw[aS,bW,bW,jQ];omega)) J J<|?_;refine f8 J (by show some (decide _)=some true;rw[decide_eq_true (by omega)]) J<|cq _ J (ihy (by rw[aS,aS,bW,bW,jQ];omega)) J J<|?_;exact tn J J J (by rw[DM,hz];simp)
def WI{l:aa}{x y:Tr}{p:ab}{i:Nat}[hp:aI p i](hl:LB l)(hi:i<=10000000){o:List ab}(hs:o.length+2*(Tr.node l x y).size<=1000000)(hz:Int.sign (l.value p).num=1)(ihx: ∀{o:List ab},o.length+2*x.size<=1000000->PB GB prog 222 (ey [some (eU x),some (eZ p),none]) 6 141 (o.map eZ) (fun w=> .v (.slice w.a w.n w.c)) ((o++dO x p).map eZ)):PB GB prog 222 (ey [some (eU (.node l x y)),some (eZ p),none]) 6 141 (o.map eZ) (fun w=> .v (.slice w.a w.n w.c)) ((o++dO (.node l x y) p).map eZ):=by
 haveI:=hl;have hz2:(Tr.node l x y).size=1+x.size+y.size:=J;refine wu func222 J J ntmps222 J J (fun C=>?_);refine cl (fu:=⟨0⟩) J uA J<|?_;refine oD 10 J ?_;refine gx J<|cl (fu:=⟨7⟩) J (wh (l:=l) (p:=p) (i:=i) hi) J<|eE (fu:=⟨9⟩) J (by show some (decide _)=some false;rw[decide_eq_false (by omega)]) J<|?_;refine f8 J (by show some (decide _)=some true;rw[decide_eq_true (by omega)]) J<|cq (fu:=⟨7⟩) _ J (ihx (by omega)) J J<|eE J (by show some (decide _)=some false;rw[decide_eq_false (by omega)]) J<|?_;exact tn J J J (by rw[DM,hz];simp)
def awa{l:aa}{x y:Tr}{p:ab}{i:Nat}[hp:aI p i](hl:LB l)(hi:i<=10000000){o:List ab}(hs:o.length+2*(Tr.node l x y).size<=1000000)(hz:Int.sign (l.value p).num= -1)(ihy: ∀{o:List ab},o.length+2*y.size<=1000000->PB GB prog 222 (ey [some (eU y),some (eZ p),none]) 6 141 (o.map eZ) (fun w=> .v (.slice w.a w.n w.c)) ((o++dO y p).map eZ)):PB GB prog 222 (ey [some (eU (.node l x y)),some (eZ p),none]) 6 141 (o.map eZ) (fun w=> .v (.slice w.a w.n w.c)) ((o++dO (.node l x y) p).map eZ):=by
 haveI:=hl;have hz2:(Tr.node l x y).size=1+x.size+y.size:=J;refine wu func222 J J ntmps222 J J (fun C=>?_);refine cl (fu:=⟨0⟩) J uA J<|?_;refine oD 10 J ?_;refine gx J<|cl (fu:=⟨7⟩) J (wh (l:=l) (p:=p) (i:=i) hi) J<|eE (fu:=⟨9⟩) J (by show some (decide _)=some false;rw[decide_eq_false (by omega)]) J<|?_;refine eE (fu:=⟨9⟩) J (by show some (decide _)=some false;rw[decide_eq_false (by omega)]) J<|f8 J (by show some (decide _)=some true;rw[decide_eq_true (by omega)]) J<|?_;refine cq _ J (ihy (by omega)) J J<|?_;exact tn J J J (by rw[DM,hz];simp)
def As{p:ab}{i:Nat}[hp:aI p i](hi:i<=10000000:=by decide): ∀{t:Tr} {o:List ab},t.all LB->o.length+2*t.size<=1000000->PB GB prog 222 (ey [some (eU t),some (eZ p),none]) 6 141 (o.map eZ) (fun w=> .v (.slice w.a w.n w.c)) ((o++dO t p).map eZ)
 | .leaf _,_,_,_=>Yb
 | .node l x y,_,hb,hs=>by
  have hz2:(Tr.node l x y).size=1+x.size+y.size:=J;rcases mW (l.value p).num 0 with h|h|h
  ·exact awa hb.1 hi hs (fQ h) fun k=>As hi hb.2.2 k
  ·exact Xf hb.1 hi hs (by rw[h];rfl) (fun k=>As hi hb.2.1 k) fun k=>As hi hb.2.2 k
  ·exact WI hb.1 hi hs (fR h) fun k=>As hi hb.2.1 k
def asn{t:Tr}{p v:ab}{i j:Nat}[hp:aI p i][hv:aI v j](hb:t.all LB)(hi:i<=10000000:=by decide)(hj:j<=10000000:=by decide):PF GB prog 223 [eU t,eZ p,eZ v] (.tp [vB (fe t p v).1,vB (fe t p v).2]):=by
 refine fn func223 J J ntmps223 J J (fun C=>?_);refine lp (X:=Tr) (fun s=>[(0, .d (eU s))]) (fun s=>[]) (fun s=>fe s p v=fe t p v/\s.all LB) (fun s=>s.size) t J ⟨J,hb⟩ (fun _=>J) (fun s hk=>?_);obtain⟨h1,hb2⟩:=hk;rcases s with b|⟨l,x,y⟩
 .
  have hA:fe t p v=(b,true):=h1.symm;refine cl (fu:=⟨0⟩) J wA J<|?_;refine kP 10 J ?_;refine gx J<|?_;exact rz J (by rw[hA];rfl)
 .
  have hAn:=h1.symm;rw[fe,vL] at hAn;haveI:=hb2.1;refine cl (fu:=⟨0⟩) J uA J<|?_;refine oD 10 J ?_;refine gx J<|cl (fu:=⟨4⟩) J (wh (l:=l) (p:=p) (i:=i) hi) J<|?_;refine mg (X:=Int) (fun s8=>[(8, .d (vI s8))]) (fun s8=>[]) (fun s8=>s8=(if(l.value p).num.sign=0 then(l.nor.dot v).num.sign else(l.value p).num.sign)) [8] [] rfl ?_ (fun _=>J) (fun s8 hs8=>?_)
  .
   refine gx J<|?_;refine br J J J (fun hc19=>?_) (fun hc19=>?_)
   .
    refine cl J (xY (l:=l)) J<|cl J (uM (p:=l.nor) (q:=v) (i:=97) (j:=j) (by decide) (by omega)) J<|cl J (my (q:=l.nor.dot v) (by omega)) J<|?_;exact at_ (l.nor.dot v).num.sign (if_pos hc19).symm
   .
    exact at_ (l.value p).num.sign (if_neg hc19).symm
  .
   rw[<-hs8] at hAn;refine br J J J (fun hc29=>?_) (fun hc29=>?_)
   .
    exact at_ x ⟨⟨by rw[hAn,hc29];rfl,hb2.2.1⟩,(by simp only[Tr.size];omega)⟩
   .
    refine br J J J (fun hc35=>?_) (fun hc35=>?_)
    .
     exact at_ y ⟨⟨by rw[hAn,hc35];rfl,hb2.2.2⟩,(by simp only[Tr.size];omega)⟩
    .
     exact rz J (by rw[hAn];split<;>first|rfl|contradiction)
def K4{q:Rat}{i:Nat}[h:BQ q i](hi:i<=400000000:=by decide):PF GB prog 198 [eR q] (eF q):=by
 haveI:BN q.num.natAbs i:=⟨h.hn⟩;haveI:BN q.den i:=⟨h.hd⟩;refine fn func198 J J ntmps198 J J (fun C=>?_);refine cl (fu:=⟨0⟩) J (uc (n:=decide (q.num<0)) (a:=q.num.natAbs) (d:=q.den) (i:=i) (j:=i) (by omega) (by omega)) J<|?_;refine av 7 (.d (eF q)) J (by rw[lx,Rat.mkRat_self]) ?_;refine gx J<|?_;exact rz J J
def O0{p:ab}{i:Nat}[h:aI p i](hi:i<=400000000:=by decide):PF GB prog 110 [oo p] (eZ p):=by
 refine fn func110 J J ntmps110 J J (fun C=>?_);refine cl J (K4 (q:=p.x) (i:=i) hi) J<|cl J (K4 (q:=p.y) (i:=i) hi) J<|?_;exact rz J J
def Tt(G:Gh)(y:Value)(h:Is G (.sl [.ag [vI (dC 1),vI (dB 1),du 1,vI 0,vI 0, .v (.pointer none)]]) y):Is G (.sl ((je []).map eZ)) y:=by
 obtain⟨s,x,es,rfl,h1,h2⟩:=ij.1 h;obtain⟨v,m,rfl,k,h3⟩:=aP.1 h2
 cases cG.1 h3
 refine ij.2 ⟨s,x,_,J,h1, .cons ?_ .nil⟩;obtain⟨m4,rfl,g4⟩:=c8.1 k;obtain⟨v1,m1,rfl,k1,g1⟩:=aP.1 g4;obtain⟨v2,m2,rfl,k2,g2⟩:=aP.1 g1;obtain⟨v3,m3,rfl,k3,g3⟩:=aP.1 g2;obtain⟨m5,q5,g5⟩:=c8.1 (vW _ _ (c8.2 ⟨m3,rfl,g3⟩))
 cases q5
 exact c8.2 ⟨_,J, .cons k1 (.cons k2 (.cons k3 g5))⟩
def Lg{ds:List ab}{k:Nat}{u w:ab}(h1:ds[k]? =some u)(h2:ds[(k+1)%ds.length]? =some w):oc ds k=if 0<Int.sign (u.cross w).num then u.add w else jC u:=by
 unfold oc;rw[aK,aK,h1,h2];rfl
def Qp(ds:List ab)(k:Nat):(List.range (k+1)).map (oc ds)=(List.range k).map (oc ds)++[oc ds k]:=by rw[List.range_succ,eX];rfl
def R5:PF GB prog 220 [.sl []] (.sl ((je []).map eZ)):=by
 refine fn (fu:=⟨10⟩) func220 J J ntmps220 J J (fun C=>?_);refine f8 J (by rfl) J<|cl J (pP (by omega)) J<|rf J J<|?_;exact ja J Tt
def Se{ds:List ab}{i:Nat}(h0:0<ds.length)(hb: ∀d∈ds,aI d i)(hn:ds.length<=10000000)(hi:i<=1000000:=by decide):PF GB prog 220 [.sl (ds.map eZ)] (.sl ((je ds).map eZ)):=by
 have hml:(ds.map eZ).length=ds.length:=aJ ..;refine fn (fu:=⟨10⟩) func220 J J ntmps220 J J (fun C=>?_);refine av 8 (.d (vI (ds.length:Nat))) J (by rw[hml]<;>rfl) ?_;refine gx (fu:=⟨0⟩) J<|eE (fu:=⟨15⟩) J (by show some (decide _)=some false;rw[decide_eq_false (by omega)]) J<|?_;refine av 14 (.d (vI (ds.length:Nat))) J (by rw[hml]<;>rfl) ?_;refine gx J<|?_;refine nr 3 3 141 6 J J J ?_;refine lp (X:=List ab×Nat) (fun⟨acc,k⟩=>[(15, .d (vI (k:Nat))),(3, .rw 3)]) (fun⟨acc,k⟩=>[(3,some (.b 141 6 (acc.map eZ) true))]) (fun⟨acc,k⟩=>acc=(List.range k).map (oc ds)/\k<=ds.length) (fun⟨acc,k⟩=>ds.length-k) ⟨[],0⟩ J ⟨J,bU _⟩ (fun _=>J) (fun⟨acc,k⟩ hk=>?_)
 try dsimp only at hk⊢
 obtain⟨h1,h2⟩:=hk;have hal:acc.length=k:=by rw[h1,aJ,nL]
 have ham:(acc.map eZ).length=acc.length:=aJ ..;refine br J J J (fun hc16=>?_) (fun hc16=>?_)
 .
  obtain⟨u,hx⟩: ∃u,ds[k]? =some u:=⟨_,aX (by omega)⟩;obtain⟨w,hw⟩: ∃w,ds[(k+1)%ds.length]? =some w:=⟨_,aX (dX _ (by omega))⟩;haveI:=hb u (bX hx);haveI:=hb w (bX hw);refine ix (fu:=⟨13⟩) _ J (fh hx) J<|?_;refine av 24 (.d (vI (ds.length:Nat))) J (by rw[hml]<;>rfl) ?_;refine gx (fu:=⟨1⟩) J<|?_;refine av 25 (.d (vI (((k+1)%ds.length:Nat):Int))) J J ?_;refine gx J<|ix _ J (fh hw) J<|cl J (RD (p:=u) (q:=w) (by omega) (by omega)) J<|cl J (my (q:=u.cross w) (by omega)) J<|?_;refine br J J J (fun hc32=>?_) (fun hc32=>?_)
  .
   refine cl J (HC (p:=u) (q:=w) (by omega) (by omega)) J<|rf J J<|ap ((acc++[u.add w]).map eZ) J (by rw[eX]<;>rfl) (Dn [u.add w]) J<|?_;refine ny 38 3 J ?_;exact at_ ⟨acc++[u.add w],k+1⟩ (by dsimp only;exact⟨⟨by rw[Qp,Lg hx hw,if_pos hc32,<-h1],by omega⟩,(by omega)⟩)
  .
   refine cl J (MG (p:=u) (by omega)) J<|rf J J<|ap ((acc++[jC u]).map eZ) J (by rw[eX]<;>rfl) (Dn [jC u]) J<|?_;refine ny 43 3 J ?_;exact at_ ⟨acc++[jC u],k+1⟩ (by dsimp only;exact⟨⟨by rw[Qp,Lg hx hw,if_neg hc32,<-h1],by omega⟩,(by omega)⟩)
 .
  obtain rfl:k=ds.length:=by omega
  have hS:je ds=acc:=by unfold je;rw[if_neg (by omega),h1]
  refine mp 3 J ?_;exact rz J (by rw[hS];rfl)
def SG{ds:List ab}{i:Nat}(hb: ∀d∈ds,aI d i)(hn:ds.length<=10000000)(hi:i<=1000000:=by decide):PF GB prog 220 [.sl (ds.map eZ)] (.sl ((je ds).map eZ)):=by
 cases ds with
 |nil=>exact R5
 |cons d ds=>exact Se (i:=i) (Nat.zero_lt_succ _) hb hn hi
def N3{p q:ab}{i:Nat}[hp:aI p i][hq:aI q i](hi:i<=1000000:=by decide):PF GB prog 192 [eZ p,eZ q] (vB (decide (p.x=q.x/\p.y=q.y))):=by
 refine fn func192 J J ntmps192 J J (fun C=>?_);refine cl J (xo (p:=p.x) (q:=q.x) (i:=i) (j:=i) (by omega) (by omega)) J<|?_;refine csd 10 J J J (fun hg10=>?_) (fun hg10=>?_)
 .
  refine cl J (xo (p:=p.y) (q:=q.y) (i:=i) (j:=i) (by omega) (by omega)) J<|?_;exact rz J (by show DV.v (.bool _)= .v (.bool _);simp_all)
 .
  exact rz J (by show DV.v (.bool _)= .v (.bool _);simp_all)
def VM{p q:ab}{i j:Nat}[hp:aI p i][hq:aI q j](hi:i<=10000000:=by decide)(hj:j<=10000000:=by decide):PF GB prog 241 [eZ p,eZ q] (eZ ⟨p.x-q.x,p.y-q.y⟩):=by
 refine fn func241 J J ntmps241 J J (fun C=>?_);refine cl J (tA (p:=p.x) (q:=q.x) (i:=i) (j:=j) (by omega) (by omega)) J<|cl J (tA (p:=p.y) (q:=q.y) (i:=i) (j:=j) (by omega) (by omega)) J<|?_;exact rz J J
def Nd{l:aa}{p:ab}{i:Nat}[hl:LB l][hp:aI p i](hi:i<=1000000:=by decide):PF GB prog 254 [dq l,eZ p] (eF (fg l p)):=by
 refine fn func254 J J ntmps254 J J (fun C=>?_);refine cl J (vE (l:=l)) J<|cl (fu:=⟨0⟩) J (uM (p:=l.dir) (q:=p) (i:=97) (j:=i) (by decide) (by omega)) J<|?_;refine av 10 (.d (eF (p.dot l.dir))) J (by rw[show l.dir.dot p=p.dot l.dir by unfold ab.dot;grind]) ?_;refine gx J<|cl J (uM (p:=l.dir) (q:=l.dir) (i:=97) (j:=97) (by decide) (by decide)) J<|cl J (Ac (p:=p.dot l.dir) (q:=l.dir.dot l.dir) (i:=i+97+(i+97)+1) (j:=97+97+(97+97)+1) (by omega) (by decide)) J<|?_;exact rz J J
def aHB{G:Gh}{q:Rat}{y:Value}(h: ¬fj q)(hy:Is G (du q) y):y= .pointer none:=by
 unfold du at hy;rw[decide_eq_false h] at hy;rcases tc.1 hy with⟨_,e⟩|⟨e,_⟩
 ·exact e
 ·cases e
def Zp{G:Gh}{q:Rat}(h: ¬fj q):Is G (du q) (.pointer none):=by
 unfold du;rw[decide_eq_false h];exact tc.2 (.inl ⟨J,J⟩)
def xF(q:Rat):List Value:=[.int .i64 (dC q), .int .i64 (dB q), .pointer none]
def xM{G:Gh}{q:Rat}{t:List DV}{m:List Value}(h: ¬fj q)(hm:IsLs G (vI (dC q)::vI (dB q)::du q::t) m): ∃n,m=xF q++n/\IsLs G t n:=by
 obtain⟨y1,m1,rfl,h1,hm1⟩:=aP.1 hm;obtain⟨y2,m2,rfl,h2,hm2⟩:=aP.1 hm1;obtain⟨y3,m3,rfl,h3,hm3⟩:=aP.1 hm2;obtain rfl:=aF.1 h1;obtain rfl:=aF.1 h2;obtain rfl:=aHB h h3;exact⟨m3,J,hm3⟩
def x7{G:Gh}{q:Rat}{t:List DV}{n:List Value}(h: ¬fj q)(k:IsLs G t n):IsLs G (vI (dC q)::vI (dB q)::du q::t) (xF q++n):= .cons (aF.2 J) (.cons (aF.2 J) (.cons (Zp h) k))
def rV(q:Rat):Value:= .agg ⟨xF q⟩
def aJa{G:Gh}{q:Rat}{y:Value}(h: ¬fj q)(hy:Is G (eF q) y):y=rV q:=by
 obtain⟨m,rfl,hm⟩:=c8.1 hy;obtain⟨n,rfl,hn⟩:=xM h hm;rw[cG.1 hn];rfl
def aJp{G:Gh}{q:Rat}(h: ¬fj q):Is G (eF q) (rV q):=c8.2 ⟨_,J,x7 h (cG.2 J)⟩
structure E3 (f:aO):Prop where
 a: ¬fj (f.l.a:Rat)
 b: ¬fj (f.l.b:Rat)
 c: ¬fj (f.l.c:Rat)
 lo: ¬fj f.v.lo
 hi: ¬fj f.v.hi
def yl(f:aO):Value:= .agg ⟨xF f.l.a++(xF f.l.b++(xF f.l.c++(xF f.v.lo++(xF f.v.hi++[.bool f.v.nl, .bool f.v.nh]))))⟩
def C9{G:Gh}{f:aO}{y:Value}(h:E3 f)(hy:Is G (bj f) y):y=yl f:=by
 obtain⟨m0,rfl,k0⟩:=c8.1 hy;obtain⟨m1,rfl,k1⟩:=xM h.a k0;obtain⟨m2,rfl,k2⟩:=xM h.b k1;obtain⟨m3,rfl,k3⟩:=xM h.c k2;obtain⟨m4,rfl,k4⟩:=xM h.lo k3;obtain⟨m5,rfl,k5⟩:=xM h.hi k4;obtain⟨y1,m6,rfl,h1,k6⟩:=aP.1 k5;obtain⟨y2,m7,rfl,h2,k7⟩:=aP.1 k6;obtain rfl:=aF.1 h1;obtain rfl:=aF.1 h2;obtain rfl:=cG.1 k7;rfl
def BT{G:Gh}{f:aO}(h:E3 f):Is G (bj f) (yl f):=c8.2 ⟨_,J,x7 h.a (x7 h.b (x7 h.c (x7 h.lo (x7 h.hi (.cons (aF.2 J) (.cons (aF.2 J) (cG.2 J)))))))⟩
structure FE (f:aO):Prop where
 fo:ph f
 sm:E3 f
 nl:f.v.nl=false
 nh:f.v.nh=false
def Rn{f:aO}(hf:FE f):PF GB prog 260 [bj f] (.tp [eZ (f.l.at f.v.lo),vB true]):=by
 haveI:=hf.fo.lb;haveI:=hf.fo.lo;haveI:=hf.fo.hi;refine fn (fu:=⟨13⟩) func260 J J ntmps260 J J (fun C=>?_);refine av 6 (.d (vB false)) J (by rw[hf.nl]<;>rfl) ?_;refine oD 6 J ?_;refine gx J<|cl J (Do (l:=f.l) (t:=f.v.lo) (i:=1200)) J<|?_;exact rz J J
def MQ{f:aO}(hf:FE f):PF GB prog 261 [bj f] (.tp [eZ (f.l.at f.v.hi),vB true]):=by
 haveI:=hf.fo.lb;haveI:=hf.fo.lo;haveI:=hf.fo.hi;refine fn (fu:=⟨13⟩) func261 J J ntmps261 J J (fun C=>?_);refine av 6 (.d (vB false)) J (by rw[hf.nh]<;>rfl) ?_;refine oD 6 J ?_;refine gx J<|cl J (Do (l:=f.l) (t:=f.v.hi) (i:=1200)) J<|?_;exact rz J J
theorem Pj{l:aa}{t:Rat}(hl:LB l)(ht:BQ t 1200):aI (l.at t) 3000:=aI.mono (inferInstance:aI (l.at t) _) (by decide)
def qB{f:aO}(h1:f.v.nl=false)(h2:f.v.nh=false)(p:ab):q7 f p=if Int.sign f.l.dir.y.num=0 then 0 else if Int.sign (f.l.value p).num≠Int.sign f.l.dir.y.num then 0 else
  if Int.sign f.l.dir.y.num<0 then(if 0<cg (f.l.at f.v.hi).y p.y then 0 else if cg (f.l.at f.v.lo).y p.y<=0 then 0 else Int.sign f.l.dir.y.num)
  else(if 0<cg (f.l.at f.v.lo).y p.y then 0 else if cg (f.l.at f.v.hi).y p.y<=0 then 0 else Int.sign f.l.dir.y.num):=by
 unfold q7;rw[h1,h2];generalize Int.sign f.l.dir.y.num=U;generalize Int.sign (f.l.value p).num=S;generalize cg (f.l.at f.v.hi).y p.y=a;generalize cg (f.l.at f.v.lo).y p.y=b;by_cases k:U=0
 ·simp[k]
 ·by_cases k2:S≠U
  ·simp[k2]
  ·rw[if_neg (by simp[k,k2]),if_neg k,if_neg k2]
   by_cases k3:U<0
   ·simp[k3]
   ·simp[k3]
def N0(f:aO)(p:ab):(q7 f p).natAbs<=1:=by
 unfold q7;have:=OD f.l.dir.y.num
 repeat' split
 all_goals omega
def Nl{E:List aO}{p:ab}{k:Nat}{f:aO}(h:E[k]? =some f):jd (E.take (k+1)) p=jd (E.take k) p+q7 f p:=by
 rw[gR,h];show jd (E.take k++[f]) p=_;rw[IW];unfold jd;simp
def Px(E:List aO)(p:ab): ∀k,(jd (E.take k) p).natAbs<=k
 |0=>by simp[jd]
 |k+1=>by
  have ih:=Px E p k
  cases h:E[k]? with
  |none=>
   have:E.take (k+1)=E.take k:=by rw[gR,h];simp
   rw[this];omega
  |some f=>
   rw[Nl h];have:=N0 f p;omega
def SW{f:aO}(hf:FE f){p:ab}{i:Nat}[hp:aI p i](hi:i<=100000:=by decide):PF GB prog 169 [bj f,eZ p] (vI (q7 f p)):=by
 haveI:=hf.fo.lb;haveI:=hf.fo.lo;haveI:=hf.fo.hi;haveI:aI (f.l.at f.v.hi) 3000:=Pj hf.fo.lb hf.fo.hi;haveI:aI (f.l.at f.v.lo) 3000:=Pj hf.fo.lb hf.fo.lo;refine fn func169 J J ntmps169 J J (fun C=>?_);refine cl J (vE (l:=f.l)) J<|cl (fu:=⟨6⟩) J (my (q:=f.l.dir.y) (i:=97)) J<|?_;rcases Int.lt_or_le (Int.sign f.l.dir.y.num) 0 with hu|hu
 .
  refine gx J<|?_;refine cs 19 J J J (fun hg19=>?_) (fun hg19=>?_)
  .
   exact rz J (by rw[qB hf.nl hf.nh];(repeat' split)<;>first|rfl|(exfalso;omega))
  .
   refine cl J (wh (l:=f.l) (p:=p) (i:=i) (by omega)) J<|?_;refine br (fu2:=⟨5⟩) J J J (fun hc26=>?_) (fun hc26=>?_)
   .
    exact rz J (by rw[qB hf.nl hf.nh];(repeat' split)<;>first|rfl|(exfalso;omega))
   .
    refine BH (fu:=⟨1⟩) (yl f) J (fun G y hy=>C9 hf.sm hy) J<|BH (fu:=⟨8⟩) (yl f) J (fun G y hy=>C9 hf.sm hy) J<|f8 (fu:=⟨14⟩) J (by show some (decide _)=some true;rw[decide_eq_true (by omega)]) J<|?_;refine Ad (fu:=⟨12⟩) (ds1:=[bj f]) (ds2:=[]) J (.cons (BT hf.sm) (cG.2 J)) (cG.2 J) (MQ hf) J<|?_;refine kP 41 J ?_;refine gx J<|cl J (qm (i:=3000) (j:=i) (by decide) (by omega)) J<|?_;refine br (fu2:=⟨6⟩) J J J (fun hc48=>?_) (fun hc48=>?_)
    .
     exact rz J (by rw[qB hf.nl hf.nh];(repeat' split)<;>first|rfl|(exfalso;omega))
    .
     refine Ad (fu:=⟨12⟩) (ds1:=[bj f]) (ds2:=[]) J (.cons (BT hf.sm) (cG.2 J)) (cG.2 J) (Rn hf) J<|?_;refine kP 55 J ?_;refine gx J<|cl J (qm (i:=3000) (j:=i) (by decide) (by omega)) J<|?_;refine br J J J (fun hc62=>?_) (fun hc62=>?_)
     .
      exact rz J (by rw[qB hf.nl hf.nh];(repeat' split)<;>first|rfl|(exfalso;omega))
     .
      exact rz J (by rw[qB hf.nl hf.nh];(repeat' split)<;>first|rfl|(exfalso;omega))
 .
  refine gx J<|?_;refine cs 19 J J J (fun hg19=>?_) (fun hg19=>?_)
  .
   exact rz J (by rw[qB hf.nl hf.nh];(repeat' split)<;>first|rfl|(exfalso;omega))
  .
   refine cl J (wh (l:=f.l) (p:=p) (i:=i) (by omega)) J<|?_;refine br (fu2:=⟨5⟩) J J J (fun hc26=>?_) (fun hc26=>?_)
   .
    exact rz J (by rw[qB hf.nl hf.nh];(repeat' split)<;>first|rfl|(exfalso;omega))
   .
    refine BH (fu:=⟨1⟩) (yl f) J (fun G y hy=>C9 hf.sm hy) J<|BH (fu:=⟨8⟩) (yl f) J (fun G y hy=>C9 hf.sm hy) J<|eE (fu:=⟨9⟩) J (by show some (decide _)=some false;rw[decide_eq_false (by omega)]) J<|?_;refine Ad (fu:=⟨12⟩) (ds1:=[bj f]) (ds2:=[]) J (.cons (BT hf.sm) (cG.2 J)) (cG.2 J) (Rn hf) J<|?_;refine kP 41 J ?_;refine gx J<|cl J (qm (i:=3000) (j:=i) (by decide) (by omega)) J<|?_;refine br (fu2:=⟨6⟩) J J J (fun hc48=>?_) (fun hc48=>?_)
    .
     exact rz J (by rw[qB hf.nl hf.nh];(repeat' split)<;>first|rfl|(exfalso;omega))
    .
     refine Ad (fu:=⟨12⟩) (ds1:=[bj f]) (ds2:=[]) J (.cons (BT hf.sm) (cG.2 J)) (cG.2 J) (MQ hf) J<|?_;refine kP 55 J ?_;refine gx J<|cl J (qm (i:=3000) (j:=i) (by decide) (by omega)) J<|?_;refine br J J J (fun hc62=>?_) (fun hc62=>?_)
     .
      exact rz J (by rw[qB hf.nl hf.nh];(repeat' split)<;>first|rfl|(exfalso;omega))
     .
      exact rz J (by rw[qB hf.nl hf.nh];(repeat' split)<;>first|rfl|(exfalso;omega))
def aE4{E:List aO}(hE: ∀f∈E,FE f)(hn:E.length<=1000000){p:ab}{i:Nat}[hp:aI p i](hi:i<=100000:=by decide):PF GB prog 77 [.sl (E.map bj),eZ p] (vI (jd E p)):=by
 have hml:(E.map bj).length=E.length:=aJ ..;refine fn (fu:=⟨16⟩) func77 J J ntmps77 J J (fun C=>?_);refine av 9 (.d (vI (E.length:Nat))) J (by rw[hml]<;>rfl) ?_;refine gx J<|?_;refine lp (X:=Nat) (fun k=>[(10, .d (vI (k:Nat))),(5, .d (vI (jd (E.take k) p)))]) (fun k=>[]) (fun k=>k<=E.length) (fun k=>E.length-k) 0 J (bU _) (fun _=>J) (fun k hk=>?_);have hw:=Px E p k;refine br J J J (fun hc11=>?_) (fun hc11=>?_)
 .
  obtain⟨f,hx⟩: ∃u,E[k]? =some u:=⟨_,aX (by omega)⟩;have hf:=hE f (bX hx);have hcl:=N0 f p;refine ix _ J (fh hx) J<|cl J (SW hf (p:=p) (i:=i) hi) J<|?_;refine av 5 (.d (vI (jd (E.take (k+1)) p))) J (by rw[Nl hx]<;>rfl) ?_;exact at_ (k+1) ⟨(by omega),(by omega)⟩
 .
  obtain rfl:k=E.length:=by omega
  rw[fY];exact rz J J
def o9(v:List ab):List (List DV):=(List.range v.length).map fun i=>[vI (i:Nat),Di (v.getD i ⟨0,0⟩) (v.getD ((i+1)%v.length) ⟨0,0⟩)]
def Rd{v:List ab}{i:Nat}{p q:ab}(h1:v[i]? =some p)(h2:v[(i+1)%v.length]? =some q):(o9 v)[i]? =some [vI (i:Nat),Di p q]:=by
 have hi:=(aR.1 h1).1;unfold o9;rw[fS,pN hi,jR,aK,aK,h1,h2];rfl
def Pp{v:List ab}{i:Nat}{e:List DV}(h:(o9 v)[i]? =some e): ∃p q,v[i]? =some p/\v[(i+1)%v.length]? =some q/\e=[vI (i:Nat),Di p q]:=by
 have hi:i<v.length:=by
  have:=(aR.1 h).1;unfold o9 at this;simpa using this
 have h1:v[i]? =some v[i]:=aX hi;have hm:(i+1)%v.length<v.length:=dX _ (by omega);have h2:v[(i+1)%v.length]? =some v[(i+1)%v.length]:=aX hm;refine⟨_,_,h1,h2,?_⟩;rw[Rd h1 h2] at h;exact(Option.some.inj h).symm
def Kg{v:List ab}: ∀e∈o9 v,e.length=2:=fun e he=>by
 obtain⟨i,_,rfl⟩:=bJ.1 he;rfl
def KZ{v:List ab}(hn:v.length<=100000):It GB prog 253 [.pt [.sl (v.map eZ)]] (o9 v):=by
 have hml:(v.map eZ).length=v.length:=aJ ..;have hrl:(o9 v).length=v.length:=by unfold o9;simp
 refine aJG func253 J J ntmps253 J (fun _=>J) (fun l Jv Jx GB' hg H C hp hJ=>?_);refine Gt 1 J<|gx J<|?_;refine av 6 (.d (vI (v.length:Nat))) J (by rw[hml]<;>rfl) ?_;refine Ve (X:=Nat) (fun k=>[(0, .d (.v (.func (.yield l) #[] #[]))),(1, .ep [.sl (v.map eZ)]),(5, .d (.sl (v.map eZ))),(6, .d (vI (v.length:Nat))),(7, .d (vI (k:Nat)))]) (fun k C=>k<=v.length/\Jv k C.G0 C.w0) (fun k=>v.length-k) 0 hp ⟨bU _,hJ⟩ (fun _=>J) (fun k C1 hp1 hk=>?_);obtain⟨hk1,hJ1⟩:=hk;refine br J J J (fun hc8=>?_) (fun hc8=>?_)
 ·obtain⟨p,hpx⟩: ∃u,v[k]? =some u:=⟨_,aX (by omega)⟩
  obtain⟨q,hqx⟩: ∃u,v[(k+1)%v.length]? =some u:=⟨_,aX (dX _ (by omega))⟩;refine ix _ J (fh hpx) J<|?_;refine av 20 (.d (vI (((k+1)%v.length:Nat):Int))) J (by rw[hml]<;>rfl) ?_;refine gx J<|ix _ J (fh hqx) J<|Z8 (len:=2) (s:=6) (e:=141) J (by kernel_rfl) (by kernel_rfl) J<|?_;refine XV (by kernel_rfl) J ?_;refine cy [(0, .d (.v (.func (.yield l) #[] #[]))),(1, .ep [.sl (v.map eZ)]),(5, .d (.sl (v.map eZ))),(6, .d (vI (v.length:Nat))),(7, .d (vI (k:Nat)))] H hp1 hJ1 J (Rd hpx hqx) J (by repeat (first|exact trivial|refine And.intro J ?_)) J J J (fun C3 hp3 hJ3=>?_) (fun C3 hp3 hJ3=>?_)
  ·exact TQ (k+1) hp3 ⟨⟨by omega,hJ3⟩,by omega⟩
  ·exact Qb H hp3 (.inr hJ3) J
 ·obtain rfl:k=v.length:=by omega
  exact Qb H hp1 (.inl (by rw[hrl];exact hJ1)) J
def JT{v:List ab}:Ge GB prog 165 [.sl (v.map eZ)] 253 (.pt [.sl (v.map eZ)]):=by
 refine aI0 func165 J J ntmps165 J J (fun C=>?_);refine fz 1 J J ?_;refine zP 1 J (fun GB' pv hg hp=>?_);refine Z1 J J ?_;exact Wz J J hp
def aHe:IT 139:=fun x w=>by kernel_rfl
def Ua(m:List Value):Co 139 (.agg ⟨m⟩) "Mul" 207:=fun w=>by kernel_rfl
def Xo(l:List Rat)(k:Nat)(y:Rat):(l.map eF).set k (eF y)=(l.set k y).map eF:=(oR ..).symm
def nA(L:List Rat)(k:Rat)(j:Nat):List Rat:=(L.take j).map (· *k)++L.drop j
def aAj(L:List Rat)(k:Rat)(j:Nat):(nA L k j).length=L.length:=by
 unfold nA;rw[aS,aJ,cK,gL];omega
def aAS{L:List Rat}{k a:Rat}{j:Nat}(h:L[j]? =some a):(nA L k j)[j]? =some a:=by
 have hj:=(aR.1 h).1;unfold nA;rw[gQ (by rw[aJ,cK];omega),aJ,cK,mZ,<-h];congr 1;omega
def aCb{L:List Rat}{k a:Rat}{j:Nat}(h:L[j]? =some a):(nA L k j).set j (a*k)=nA L k (j+1):=by
 have hj:=(aR.1 h).1;unfold nA;rw[gR,h,nW _ _ (by rw[aJ,cK];omega),aJ,cK,show j-min j L.length=0 by omega,aM hj];simp only[Option.toList_some,eX,bS,dR,List.set_cons_zero,dK,cW,cV]
def OJ{L:List Rat}{k:Rat}{i:Nat}[hk:BQ k i](hL: ∀a∈L,¬fj a)(hb: ∀a∈L,BQ a i)(hn:L.length<=1000)(hi:i<=1000000:=by decide):PB GB prog 338 (ey [some (eF k),none]) 3 139 (L.map eF) (fun w=> .v (.slice w.a w.n w.c)) ((L.map (· *k)).map eF):=by
 have hml:(L.map eF).length=L.length:=aJ ..;refine wu (fu:=⟨11⟩) func338 J J ntmps338 J J (fun C=>?_);refine av 7 (.d (vI (L.length:Nat))) J (by rw[hml]<;>rfl) ?_;refine gx J<|?_;refine lp (X:=Nat) (fun j=>[(8, .d (vI (j:Nat)))]) (fun j=>[(1000000,some (.b 139 3 ((nA L k j).map eF) false))]) (fun j=>j<=L.length) (fun j=>L.length-j) 0 J (bU _) (fun _=>J) (fun j hk=>?_);have hsl:=aAj L k j;have hsm:((nA L k j).map eF).length=(nA L k j).length:=aJ ..;refine br J J J (fun hc9=>?_) (fun hc9=>?_)
 .
  obtain⟨a,hx⟩: ∃u,L[j]? =some u:=⟨_,aX (by omega)⟩;have ham:=bX hx;haveI:=hb a ham;have hga:(nA L k j)[j]? =some a:=aAS hx;refine lb (fu:=⟨0⟩) _ J (fh hga) J<|TM (fu:=⟨1⟩) (rV a) J aHe (fun G y hy=>aJa (hL a ham) hy) J<|SP J (Ua _) (PF.arg0 (si (p:=a) (q:=k) (i:=i) (j:=i) (by omega) (by omega)) (fun G y h=>by rw[aF.1 h];exact aJp (hL a ham))) J<|?_;refine sb (hv:=by simp only[ah];exact⟨by kernel_rfl,by omega⟩) _ ((nA L k (j+1)).map eF) J (fh hga) J (by rw[<-aCb hx,<-Xo]<;>rfl) J<|?_;exact at_ (j+1) ⟨(by omega),(by omega)⟩
 .
  obtain rfl:j=L.length:=by omega
  have hend:nA L k L.length=L.map (· *k):=by unfold nA;rw[fY,jZ,iK]
  exact tn J J J (by rw[hend])
def E2{a:Int}{g:Nat}(hg:0<g)(hd:g∣a.natAbs):(a:Rat)*(((g:Nat):Int):Rat)⁻¹=((zv (decide (a<0)) (a.natAbs/g):Int):Rat):=by
 obtain⟨q,hq⟩:=hd;have e:zv (decide (a<0)) (a.natAbs/g)*(g:Int)=a:=by
  rw[hq,rW q hg];unfold zv;have hc:((g*q:Nat):Int)=(g:Int)*(q:Int):=by simp
  have hm:=Int.mul_comm (g:Int) (q:Int);split
  ·rename_i h
   have h:=of_decide_eq_true h;rw[Int.neg_mul];omega
  ·rename_i h
   have h: ¬a<0:=fun k=>h (decide_eq_true k);omega
 generalize zv (decide (a<0)) (a.natAbs/g)=z at*;have h0:((g:Int):Rat)≠0:=by
  intro k;have:(g:Int)=0:=by exact_mod_cast k
  omega
 rw[<-e,cS];generalize ((g:Int):Rat)=r at*;grind
def sk{z:Int}(h:z.natAbs<=1000000): ¬fj (z:Rat):=fun k=>k ⟨by show z.natAbs<_;omega,by show 1<_;decide⟩
def Ol{q:Rat}{k:Nat}(h:BQ q k)(hk:k<=62): ¬fj q:=fun b=>b (by
 have hp:2^k<=2^62:=bR (by decide) hk;have e:(2:Nat)^62=4611686018427387904:=by decide
 obtain⟨h1,h2⟩:=h;exact⟨by omega,by omega⟩)
theorem YZ(p q:ab){i j:Nat}[aI p i][aI q j]:aI ⟨p.x-q.x,p.y-q.y⟩ (i+j+1):=⟨inferInstanceAs (BQ (p.x-q.x) _),inferInstanceAs (BQ (p.y-q.y) _)⟩
theorem mP{z:Int}(h:z.natAbs<=1000000):BQ (z:Rat) 22:=by
 have e:(2:Nat)^21=2097152:=by decide
 haveI:BI z 21:=⟨by omega⟩;exact(inferInstance:BQ (z:Rat) 22)
def aBJ{a b c:Int}(ha:a.natAbs<=1000000)(hb:b.natAbs<=1000000)(hc:c.natAbs<=1000000)(h0: ¬(a=0/\b=0)):PF GB prog 243 [eF (a:Rat),eF (b:Rat),eF (c:Rat)] (.tp [dq (gn a b c),vB true]):=by
 haveI:=mP ha;haveI:=mP hb;haveI:=mP hc;have hgn:Nat.gcd a.natAbs b.natAbs≠0:=fun h=>h0 ⟨kN.1 (lM h),kN.1 (lT h)⟩;have hgp:0<Nat.gcd (Nat.gcd a.natAbs b.natAbs) c.natAbs:=lQ _ (iV hgn);have eg:rgcd (rgcd (a:Rat) b) c=(((Nat.gcd (Nat.gcd a.natAbs b.natAbs) c.natAbs:Nat):Int):Rat):=by rw[wn,wn];rfl
 have e1:(a:Rat)*(rgcd (rgcd (a:Rat) b) c)⁻¹=((gn a b c).a:Rat):=by rw[eg];exact E2 hgp (qT (kJ _ _) (kJ _ _))
 have e2:(b:Rat)*(rgcd (rgcd (a:Rat) b) c)⁻¹=((gn a b c).b:Rat):=by rw[eg];exact E2 hgp (qT (kJ _ _) (lU _ _))
 have e3:(c:Rat)*(rgcd (rgcd (a:Rat) b) c)⁻¹=((gn a b c).c:Rat):=by rw[eg];exact E2 hgp (lU _ _)
 haveI:BQ (rgcd (a:Rat) b) 200:=BQ.mono (inferInstance:BQ (rgcd (a:Rat) b) _) (by decide);haveI:BQ (rgcd (rgcd (a:Rat) b) c) 600:=BQ.mono (inferInstance:BQ (rgcd (rgcd (a:Rat) b) c) _) (by decide);haveI:BQ (rgcd (rgcd (a:Rat) b) c)⁻¹ 600:=BQ.mono (inferInstance:BQ (rgcd (rgcd (a:Rat) b) c)⁻¹ _) (by decide);have hl4:([((gn a b c).a:Rat),((gn a b c).b:Rat),((gn a b c).c:Rat)].map eF).length=3:=J;have hl3:[((gn a b c).a:Rat),((gn a b c).b:Rat),((gn a b c).c:Rat)].length=3:=J;refine fn func243 J J ntmps243 J J (fun C=>?_);refine cl J (tB (q:=(a:Rat))) J<|?_;refine csd 11 J J J (fun hg11=>?_) (fun hg11=>?_)
 .
  refine cl J (tB (q:=(b:Rat))) J<|?_;refine bd J J J (fun hc14=>?_) (fun hc14=>?_)
  .
   exact absurd ⟨by exact_mod_cast hg11,by exact_mod_cast hc14⟩ h0
  .
   refine cl J (n8 (p:=(a:Rat)) (q:=(b:Rat)) (i:=22) (j:=22)) J<|cl J (n8 (p:=rgcd (a:Rat) b) (q:=(c:Rat)) (i:=200) (j:=22)) J<|?_;refine cl rfl (DS (q:=rgcd (rgcd (a:Rat) b) c) (i:=600)) rfl<|ro (fu:=⟨0⟩) J J<|cq (hv:=by simp only[ah];exact⟨by kernel_rfl,by omega⟩) ([((gn a b c).a:Rat),((gn a b c).b:Rat),((gn a b c).c:Rat)].map eF) rfl (OJ (L:=[(a:Rat),(b:Rat),(c:Rat)]) (k:=(rgcd (rgcd (a:Rat) b) c)⁻¹) (i:=600) (by intro q hq;simp only[aY,nZ,or_false] at hq;rcases hq with rfl|rfl|rfl;exact sk ha;exact sk hb;exact sk hc) (by intro q hq;simp only[aY,nZ,or_false] at hq;rcases hq with rfl|rfl|rfl;exact(mP ha).mono (by decide);exact(mP hb).mono (by decide);exact(mP hc).mono (by decide)) (nb rfl)) (by simp only[bS,dR,e1,e2,e3]) rfl<|?_;refine lb _ J J J<|lb _ J J J<|lb _ J J J<|?_;exact rz J J
 .
  refine cl J (n8 (p:=(a:Rat)) (q:=(b:Rat)) (i:=22) (j:=22)) J<|cl J (n8 (p:=rgcd (a:Rat) b) (q:=(c:Rat)) (i:=200) (j:=22)) J<|?_;refine cl rfl (DS (q:=rgcd (rgcd (a:Rat) b) c) (i:=600)) rfl<|ro (fu:=⟨0⟩) J J<|cq (hv:=by simp only[ah];exact⟨by kernel_rfl,by omega⟩) ([((gn a b c).a:Rat),((gn a b c).b:Rat),((gn a b c).c:Rat)].map eF) rfl (OJ (L:=[(a:Rat),(b:Rat),(c:Rat)]) (k:=(rgcd (rgcd (a:Rat) b) c)⁻¹) (i:=600) (by intro q hq;simp only[aY,nZ,or_false] at hq;rcases hq with rfl|rfl|rfl;exact sk ha;exact sk hb;exact sk hc) (by intro q hq;simp only[aY,nZ,or_false] at hq;rcases hq with rfl|rfl|rfl;exact(mP ha).mono (by decide);exact(mP hb).mono (by decide);exact(mP hc).mono (by decide)) (nb rfl)) (by simp only[bS,dR,e1,e2,e3]) rfl<|?_;refine lb _ J J J<|lb _ J J J<|lb _ J J J<|?_;exact rz J J
theorem vN{z:ZP}(h:ZP.le 100 z):aI z.q 22:=⟨mP (by have:=h.1;omega),mP (by have:=h.2;omega)⟩
def tI{a b:Int}{m n:Nat}(ha:a.natAbs<=m)(hb:b.natAbs<=n):(a*b).natAbs<=m*n:=by
 rw[iT];exact jN ha hb
def aDM{v w:ZP}(hv:ZP.le 100 v)(hw:ZP.le 100 w)(h:v≠w):PF GB prog 151 [eZ v.q,eZ w.q] (.tp [dq (iE v.1 v.2 w.1 w.2),vB true]):=by
 haveI:=vN hv;haveI:=vN hw;have hv1:=hv.1;have hv2:=hv.2;have hw1:=hw.1;have hw2:=hw.2;obtain⟨A,hA⟩: ∃A,A=iO v.2 w.2:=⟨_,rfl⟩;obtain⟨B,hB⟩: ∃B,B=jb v.1 w.1:=⟨_,rfl⟩;obtain⟨C0,hC⟩: ∃C0,C0=m8 v.1 v.2 w.1 w.2:=⟨_,rfl⟩;have bA:A.natAbs<=200:=by rw[hA];unfold iO;omega
 have bB:B.natAbs<=200:=by rw[hB];unfold jb;omega
 have m1:=tI bA hv1;have m2:=tI bB hv2;have eC:C0= -(A*v.1+B*v.2):=by rw[hC,hA,hB];rfl
 have bC:C0.natAbs<=40000:=by rw[eC];omega
 have h0: ¬(A=0/\B=0):=fun k=>h (Prod.ext (by have:=k.2;rw[hB] at this;unfold jb at this;omega) (by have:=k.1;rw[hA] at this;unfold iO at this;omega));haveI:aI (iP A B) 22:=⟨mP (by omega),mP (by omega)⟩;haveI:BQ ((A*v.1+B*v.2:Int):Rat) 22:=mP (by omega);have eT:jC ⟨w.q.x-v.q.x,w.q.y-v.q.y⟩=iP A B:=by rw[hA,hB];unfold jC iP iO jb ZP.q iP;simp only[ab.mk.injEq];push_cast;constructor<;>grind
 have eD:(iP A B).dot v.q=((A*v.1+B*v.2:Int):Rat):=by unfold ab.dot iP ZP.q iP;push_cast;rfl
 have eN: -((A*v.1+B*v.2:Int):Rat)=((C0:Int):Rat):=by rw[eC];push_cast;rfl
 refine fn func151 J J ntmps151 J J (fun C=>?_);refine cl J (VM (p:=w.q) (q:=v.q) (i:=22) (j:=22)) J<|cl (fu:=⟨0⟩) J (MG (p:=⟨w.q.x-v.q.x,w.q.y-v.q.y⟩) (i:=45) (h:=YZ w.q v.q)) J<|?_;refine av 12 (.d (eZ (iP A B))) J (by rw[eT]) ?_;refine gx J<|cl (fu:=⟨0⟩) J (uM (p:=iP A B) (q:=v.q) (i:=22) (j:=22)) J<|?_;refine av 19 (.d (eF ((A*v.1+B*v.2:Int):Rat))) J (by rw[eD]) ?_;refine gx J<|cl (fu:=⟨0⟩) J (ot (q:=((A*v.1+B*v.2:Int):Rat)) (i:=22)) J<|?_;refine av 20 (.d (eF ((C0:Int):Rat))) J (by rw[eN]) ?_;refine gx J<|cl J (aBJ (a:=A) (b:=B) (c:=C0) (by omega) (by omega) (by omega) h0) J<|?_;exact rz J (by rw[hA,hB,hC];rfl)
theorem L3{l:aa}(ho:l.ok)(ha:l.a.natAbs<=200)(hb:l.b.natAbs<=200){m n:Int}(hm:m.natAbs<=100)(hn:n.natAbs<=100):BQ (fg l (iP m n)) 60:=by
 have hd:=xy ho.ne;have p1:=tI ha ha;have p2:=tI hb hb;have p3:=tI hm hb;have p4:=tI hn ha;have h60:(2:Nat)^60=1152921504606846976:=by decide
 have hA:BI (l.a*l.a+l.b*l.b) 60:=⟨by omega⟩;have hB:BI (m*l.b-n*l.a) 60:=⟨by omega⟩;have e1:l.dir.dot l.dir=((l.a*l.a+l.b*l.b:Int):Rat):=by
  rw[oN,cS,cS];simp only[aa.dir,ab.dot];grind
 have e2:(iP m n).dot l.dir=((m*l.b-n*l.a:Int):Rat):=by
  rw[mU,cS,cS];simp only[aa.dir,ab.dot,iP];grind
 have hd':((0:Int):Rat)<((l.a*l.a+l.b*l.b:Int):Rat):=by rw[<-e1];exact hd
 unfold fg;rw[e2,e1];clear e1 e2 p1 p2 p3 p4;generalize l.a*l.a+l.b*l.b=D at*;generalize m*l.b-n*l.a=M at*;have hD:0<D:=Rat.intCast_lt_intCast.1 hd';refine BQ.of_fracI (n:=M) (D:=D) (by omega) ?_ hB hA;have h0:(D:Rat)≠0:=fun e=>by rw[e] at hd';exact absurd hd' (by decide)
 have:((D.natAbs:Nat):Rat)=(D:Rat):=by
  have h1:((D.natAbs:Nat):Int)=D:=by omega
  rw[<-h1];rfl
 rw[this];grind
def NC{v w:ZP}(hv:ZP.le 100 v)(hw:ZP.le 100 w)(h:v≠w):FE (dx v w):=by
 have hf:=MK hv hw h;have hv1:=hv.1;have hv2:=hv.2;have hw1:=hw.1;have hw2:=hw.2;have bA:(iO v.2 w.2).natAbs<=200:=by unfold iO;omega
 have bB:(jb v.1 w.1).natAbs<=200:=by unfold jb;omega
 have m1:=tI bA hv1;have m2:=tI bB hv2;have bC:(m8 v.1 v.2 w.1 w.2).natAbs<=40000:=by unfold m8;omega
 obtain⟨k1,k2,k3⟩:=FJ (iO v.2 w.2) (jb v.1 w.1) (m8 v.1 v.2 w.1 w.2);have ea:(dx v w).l.a.natAbs<=200:=cM k1 bA;have eb:(dx v w).l.b.natAbs<=200:=cM k2 bB;have ec:(dx v w).l.c.natAbs<=40000:=cM k3 bC;exact⟨hf,⟨sk (by omega),sk (by omega),sk (by omega),Ol (L3 hf.ok ea eb hv1 hv2) (by decide),Ol (L3 hf.ok ea eb hw1 hw2) (by decide)⟩,J,J⟩
def ZV{r:List ZP}(h:gi r): ∀f∈iI r,FE f:=fun f hf=>by
 obtain⟨k,hk,rfl⟩:=H2 hf;exact NC (h.le _ (AM hk)) (h.le _ (CL hk)) (h.ne k hk)
def ZH{rs:List (List ZP)}(h: ∀r∈rs,gi r): ∀f∈c6 rs,FE f:=fun f hf=>by
 obtain⟨r,h1,h2⟩:=gM.1 hf;exact ZV (h r h1) f h2
def TA{v w:ZP}(hv:ZP.le 100 v)(hw:ZP.le 100 w)(h:v≠w):PF GB prog 166 [eZ v.q,eZ w.q] (.tp [bj (dx v w),vB true]):=by
 have hf:=NC hv hw h;haveI:LB (iE v.1 v.2 w.1 w.2):=hf.fo.lb;haveI:=vN hv;haveI:=vN hw;refine fn func166 J J ntmps166 J J (fun C=>?_);refine cl (fu:=⟨12⟩) J (aDM hv hw h) J<|?_;refine kP 14 J ?_;refine gx J<|cl J (Nd (l:=iE v.1 v.2 w.1 w.2) (p:=v.q) (i:=22)) J<|cl J (Nd (l:=iE v.1 v.2 w.1 w.2) (p:=w.q) (i:=22)) J<|?_;exact rz J J
def Cs{r:List ZP}{k:Nat}{p:ab}(h:(r.map ZP.q)[k]? =some p):k<r.length/\p=(r.getD k (0,0)).q:=by
 rw[fS] at h
 cases e:r[k]? with
 |none=>rw[e] at h;cases h
 |some z=>
  rw[e] at h;cases h;exact⟨(aR.1 e).1,by rw[aK,e];rfl⟩
def Dv(r:List ZP): ∀n,(ly r n).length=n
 |0=>rfl
 |n+1=>by rw[ly,aS,Dv r n];rfl
def MN{r:List ZP}{k:Nat}: ∀{n:Nat},k<n->(ly r n)[k]? =some (dx (r.getD k (0,0)) (fD r k))
 |0,h=>by omega
 |n+1,h=>by
  rw[ly];by_cases e:k=n
  ·subst e
   rw[gQ (by rw[Dv];omega),Dv,tJ];rfl
  ·rw[eJ (by rw[Dv];omega)]
   exact MN (by omega)
def Ab(l:List aO):ew 17 (l.map bj):=fun d hd=>by
 obtain⟨x,_,rfl⟩:=bJ.1 hd;exact⟨J,J⟩
def YT{L:List aO}{k:Nat}{l:aO}(h:L[k]? =some l):((L.take k).map bj)++[bj l]=(L.take (k+1)).map bj:=by
 rw[gR,h,eX];rfl
def QS{r:List ZP}(h:gi r):PF GB prog 74 [.sl ((r.map ZP.q).map eZ)] (.sl ((iI r).map bj)):=by
 have hn:=h.n6;obtain⟨v,hv⟩: ∃v,v=r.map ZP.q:=⟨_,rfl⟩;have hvl:v.length=r.length:=by rw[hv,aJ]
 rw[<-hv];have hel:(iI r).length=r.length:=(wi h).1;have hrl:(o9 v).length=r.length:=by unfold o9;rw[aJ,nL,hvl]
 refine Jp func74 J J ntmps74 J J (fun C h0=>?_);refine NT J J J JT (fun _=>J) (fun GB1 pv hg1 hpv=>?_);refine Ec 3 0 50 222 17 J J J J J ?_;refine EW 3 2000003 h0.fx J ?_;refine Ji (σ:=Empty) (fun k=>[(2000003,some (.o 130 [.rw 50] true)),(50,some (.b 222 17 (((iI r).take k).map bj) true))]) (fun _=>True) (fun _=>[]) (fun _=>False) [(3, .ov 2000003 0)]
  h0 J (KZ (by omega)) (.cons hpv .nil) ⟨J,trivial⟩ J ⟨J,J,trivial⟩ trivial Kg J J (fun k e GB' hE hg hp=>?_) (fun D hD hx hp=>?_) (fun D s hD hx hq=>hq.elim)
 ·obtain⟨p,q,hpx,hqx,rfl⟩:=Pp hE
  rw[hvl] at hqx;rw[hv] at hpx hqx;obtain⟨hk,rfl⟩:=Cs hpx;obtain⟨hk2,rfl⟩:=Cs hqx;have hx:(iI r)[k]? =some (dx (r.getD k (0,0)) (fD r k)):=MN hk;have hml:(((iI r).take k).map bj).length=k:=by rw[aJ,cK];omega
  refine⟨?_,?_,fun C2=>?_,fun C2=>?_⟩
  rotate_left 2
  ·refine gx J<|OI J J J ⟨J,J,J⟩ J ?_
   exact atR
  ·refine gx J<|A4 0 (e:=141) (len:=2) (s:=6) J (by kernel_rfl) (by kernel_rfl) (by decide) J<|A4 1 (e:=141) (len:=2) (s:=6) J (by kernel_rfl) (by kernel_rfl) (by decide) J<|?_
   refine cl J (TA (h.le _ (AM hk)) (h.le _ (CL hk)) (h.ne k hk)) J<|?_;refine rf J J<|ap (((iI r).take (k+1)).map bj) J (YT hx) (Ab [dx (r.getD k (0,0)) (fD r k)]) J<|?_;refine ny 23 50 J ?_;exact rq trivial ⟨J,J,trivial⟩
 ·rw[hrl,<-hel,fY]
  refine gx J<|?_;refine mp 50 J ?_;exact M3 hD hx J J
def Vd{a i:Nat}[h:BN a i](hi:i<=1000000000:=by decide):PF GB prog 348 [dN a] (.v (.bool true)):=
 (KJ (ds:=dg a) (eo _).2.1 (by have:=mi (a:=a) hi;omega)).to (by unfold vB;rw[decide_eq_true (eo a).2.2])
def N7{q:Rat}{i:Nat}[hq:BQ q i](hi:i<=1000000:=by decide):PF GB prog 284 [eR q] (.v (.bool true)):=by
 have hd:=q.den_pos;have hdl:0<(dg q.den).length:=iV fun e=>by have:=wv.1 e;omega
 have hml:((dg q.den).map dU).length=(dg q.den).length:=aJ ..;have hco:Nat.gcd q.num.natAbs q.den=1:=q.reduced;refine fn func284 J J ntmps284 J J (fun C=>?_);refine cl (fu:=⟨0⟩) J (rG (m:=q.num) (i:=i) (h:=⟨hq.hn⟩) (by omega)) J<|?_;refine kP 5 J ?_;refine gx J<|cl (fu:=⟨0⟩) J (Vd (a:=q.den) (i:=i) (h:=⟨hq.hd⟩) (by omega)) J<|?_;refine kP 10 J ?_;refine gx (fu:=⟨6⟩) J<|eE J (by show some (decide _)=some false;rw[decide_eq_false (by omega)]) J<|cl (fu:=⟨0⟩) J (Iw (a:=q.num.natAbs) (b:=q.den) (i:=i) (j:=i) (h:=⟨hq.hn⟩) (k:=⟨hq.hd⟩) (by omega) (by omega)) J<|?_;refine av 24 (.d (dN 1)) J (by rw[hco]) ?_;refine gx J<|cl J (ud (a:=1) (i:=1) (h:=⟨by decide⟩)) J<|?_;exact rz J J
def WO{p:ab}{i:Nat}[hp:aI p i](hi:i<=1000000:=by decide):PF GB prog 189 [oo p] (.v (.bool true)):=by
 refine fn func189 J J ntmps189 J J (fun C=>?_);refine cl (fu:=⟨0⟩) J (N7 (q:=p.x) (i:=i) (by omega)) J<|?_;refine kP 5 J ?_;refine gx J<|cl J (N7 (q:=p.y) (i:=i) (by omega)) J<|?_;exact rz J J
def uP(l:List ab)(p:ab):Int:=match l.findIdx? (fun q=>decide (q.x=p.x/\q.y=p.y)) with
 |some i=>(i:Nat)
 |none=> -1
def YG{l:List ab}{p q:ab}{k:Nat}(hx:l[k]? =some q)(h:(l.take k).all (fun q=>!decide (q.x=p.x/\q.y=p.y))=true)(hq:q.x=p.x/\q.y=p.y):uP l p=(k:Nat):=by
 have hk:=(aR.1 hx).1;have e:l.findIdx? (fun q=>decide (q.x=p.x/\q.y=p.y))=some k:=by
  rw[List.findIdx?_eq_some_iff_getElem];refine⟨hk,?_,fun j hj=>?_⟩
  ·rw[(aR.1 hx).2];exact decide_eq_true hq
  ·have:=fZ.1 h l[j] (by rw[List.mem_take_iff_getElem];exact⟨j,by omega,J⟩)
   simp at this⊢;intro a b;rcases this with k|k
   ·exact k a
   ·exact k b
 unfold uP;rw[e]
def Xg{l:List ab}{p:ab}(h:l.all (fun q=>!decide (q.x=p.x/\q.y=p.y))=true):uP l p= -1:=by
 have e:l.findIdx? (fun q=>decide (q.x=p.x/\q.y=p.y))=none:=by
  rw[List.findIdx?_eq_none_iff];intro x hx;have:=fZ.1 h x hx;simp at this⊢;intro a b;rcases this with k|k
  ·exact k a
  ·exact k b
 unfold uP;rw[e]
def SL{l:List ab}{k:Nat}{q:ab}{g:ab->Bool}(hx:l[k]? =some q)(h:(l.take k).all g=true)(hq:g q=true):(l.take (k+1)).all g=true:=by
 rw[gR,hx,List.all_append,h];simp[hq]
def Uo{l:List ab}{p:ab}{i:Nat}[hp:aI p i](hl: ∀q∈l,aI q i)(hn:l.length<=100000)(hi:i<=1000000:=by decide):PF GB prog 191 [.sl (l.map eZ),eZ p] (vI (uP l p)):=by
 have hml:(l.map eZ).length=l.length:=aJ ..;refine fn (fu:=⟨11⟩) func191 J J ntmps191 J J (fun C=>?_);refine av 8 (.d (vI (l.length:Nat))) J (by rw[hml]<;>rfl) ?_;refine gx J<|?_;refine lp (X:=Nat) (fun k=>[(9, .d (vI (k:Nat)))]) (fun k=>[]) (fun k=>k<=l.length/\(l.take k).all (fun q=>!decide (q.x=p.x/\q.y=p.y))=true) (fun k=>l.length-k) 0 J ⟨bU _,J⟩ (fun _=>J) (fun k hk=>?_);obtain⟨hk,hall⟩:=hk;refine br J J J (fun hc10=>?_) (fun hc10=>?_)
 .
  obtain⟨q,hx⟩: ∃u,l[k]? =some u:=⟨_,aX (by omega)⟩;haveI:=hl q (bX hx);refine ix _ J (fh hx) J<|cl J (N3 (p:=q) (q:=p) (i:=i) hi) J<|?_;refine bd J J J (fun hc16=>?_) (fun hc16=>?_)
  .
   exact rz J (by rw[YG hx hall hc16];rfl)
  .
   exact at_ (k+1) ⟨⟨by omega,SL hx hall (by rw[decide_eq_false hc16];rfl)⟩,(by omega)⟩
 .
  obtain rfl:k=l.length:=by omega
  rw[fY] at hall;exact rz J (by rw[Xg hall];rfl)
def ge(l:List ab):Nat->Nat
 |0=>0
 |k+1=>ge l k+if uP l (l.getD k ⟨0,0⟩)=(k:Nat) then 1 else 0
def kd(l:List ab)(k:Nat):Nat:=if 3<=ge l k then 3 else ge l k
def We{l:List ab}{k:Nat}(h:kd l k<3)(e:ge l (k+1)=ge l k+1):((kd l k:Nat):Int)+1=((kd l (k+1):Nat):Int):=by
 have a:kd l k=if 3<=ge l k then 3 else ge l k:=J
 have b:kd l (k+1)=if 3<=ge l (k+1) then 3 else ge l (k+1):=J
 split at a<;>split at b<;>omega
def KY{l:List ab}{k:Nat}(h: ¬kd l k<3\/ge l (k+1)=ge l k)(m:ge l k<=ge l (k+1)):((kd l k:Nat):Int)=((kd l (k+1):Nat):Int):=by
 have a:kd l k=if 3<=ge l k then 3 else ge l k:=J
 have b:kd l (k+1)=if 3<=ge l (k+1) then 3 else ge l (k+1):=J
 split at a<;>split at b<;>omega
def XS(l:List ab)(k:Nat):kd l k<=3:=by unfold kd;split<;>omega
def So{l:List ab}{k:Nat}(h:3<=ge l k):kd l k=3:=by unfold kd;rw[if_pos h]
def RW{l:List ab}{k:Nat}{p:ab}(hx:l[k]? =some p)(h:uP l p=(k:Nat)):ge l (k+1)=ge l k+1:=by
 rw[ge,aK,hx,jS,if_pos h]
def Wr{l:List ab}{k:Nat}{p:ab}(hx:l[k]? =some p)(h: ¬uP l p=(k:Nat)):ge l (k+1)=ge l k:=by
 rw[ge,aK,hx,jS,if_neg h];rfl
def Vi{l:List ab}{k:Nat}:ge l k<=ge l (k+1):=by rw[ge];split<;>omega
def asy{v:List ab}{k:Nat}{p:ab}(h:v[k]? =some p):((v.take k).map eZ)++[eZ p]=(v.take (k+1)).map eZ:=by
 rw[gR,h,eX];rfl
def aBK{r:List ZP}(h:gi r){k:Nat}(hk:k<r.length):decide ((r.getD k (0,0)).q.x=(fD r k).q.x/\(r.getD k (0,0)).q.y=(fD r k).q.y)=false:=decide_eq_false fun e=>h.ne k hk (aE0 (by
 obtain⟨e1,e2⟩:=e;generalize (r.getD k (0,0)).q=a at*;generalize (fD r k).q=b at*
 cases a;cases b
 simp only[ab.mk.injEq];exact⟨e1,e2⟩))
def ZQ{r:List ZP}(h:gi r)(h3:3<=ge (r.map ZP.q) (r.map ZP.q).length):PF GB prog 102 [vx r] (.tp [.sl ((r.map ZP.q).map eZ), .v .nilIface]):=by
 have hn:=h.n6;obtain⟨v,hv⟩: ∃v,v=r.map ZP.q:=⟨_,rfl⟩;have hvl:v.length=r.length:=by rw[hv,aJ]
 have hb: ∀p∈v,aI p 22:=fun p hp=>by rw[hv] at hp;obtain⟨z,hz,rfl⟩:=bJ.1 hp;exact vN (h.le z hz)
 unfold vx;rw[<-hv] at h3⊢;have hm1:(v.map oo).length=v.length:=aJ ..;have hm2:(v.map eZ).length=v.length:=aJ ..;have hrl:(o9 v).length=v.length:=by unfold o9;rw[aJ,nL]
 refine Jp (fu:=⟨11⟩) func102 J J ntmps102 J J (fun C h0=>?_);refine av 13 (.d (vI (v.length:Nat))) J (by rw[hm1]<;>rfl) ?_;refine gx (fu:=⟨0⟩) J<|eE (fu:=⟨15⟩) J (by show some (decide _)=some false;rw[decide_eq_false (by omega)]) J<|?_;refine av 20 (.d (vI (v.length:Nat))) J (by rw[hm1]<;>rfl) ?_;refine gx J<|?_;refine nr 4 4 141 6 J J J ?_;refine lp (X:=Nat) (fun k=>[(21, .d (vI (k:Nat))),(4, .rw 4)]) (fun k=>[(4,some (.b 141 6 ((v.take k).map eZ) true))]) (fun k=>k<=v.length) (fun k=>v.length-k) 0 J (bU _) (fun _=>J) (fun k hk=>?_);have hm3:((v.take k).map eZ).length<=k:=by rw[aJ,cK];omega
 refine br (fu2:=⟨0⟩) J J J (fun hc22=>?_) (fun hc22=>?_)
 .
  obtain⟨p,hx⟩: ∃u,v[k]? =some u:=⟨_,aX (by omega)⟩;haveI:=hb p (bX hx);refine ix _ J (fh hx) J<|cl (fu:=⟨0⟩) J (WO (p:=p) (i:=22)) J<|?_;refine kP 27 J ?_;refine gx J<|cl J (O0 (p:=p) (i:=22)) J<|rf J J<|ap ((v.take (k+1)).map eZ) J (asy hx) (Dn [p]) J<|?_;refine ny 41 4 J ?_;exact at_ (k+1) ⟨(by omega),(by omega)⟩
 .
  obtain rfl:k=v.length:=by omega
  rw[fY];refine yJ 4 J ?_;refine gx (fu:=⟨15⟩) J<|?_;refine av 44 (.d (vI (v.length:Nat))) J (by rw[hm2]<;>rfl) ?_;refine gx J<|?_;refine lp (X:=Nat) (fun k=>[(45, .d (vI (k:Nat))),(7, .d (vI ((kd v k):Nat)))]) (fun k=>[]) (fun k=>k<=v.length) (fun k=>v.length-k) 0 J (bU _) (fun _=>J) (fun k hk=>?_);have hdm:=XS v k;refine br (fu2:=⟨9⟩) J J J (fun hc46=>?_) (fun hc46=>?_)
  .
   obtain⟨p,hx⟩: ∃u,v[k]? =some u:=⟨_,aX (by omega)⟩;haveI:=hb p (bX hx);have hcm:=Vi (l:=v) (k:=k);refine ix _ J (fh hx) J<|?_;refine cs 52 J J J (fun hg52=>?_) (fun hg52=>?_)
   .
    refine cl J (Uo (l:=v) (p:=p) (i:=22) hb (by omega)) J<|?_;refine br J J J (fun hc58=>?_) (fun hc58=>?_)
    .
     have he7:=We (by omega) (RW hx (by omega));refine av 7 (.d (vI (kd v (k+1):Nat))) J (by rw[he7]<;>rfl) ?_;exact at_ (k+1) ⟨(by omega),(by omega)⟩
    .
     have he7:=KY (.inr (Wr hx (by omega))) hcm;refine av 7 (.d (vI (kd v (k+1):Nat))) J (by rw[he7]<;>rfl) ?_;exact at_ (k+1) ⟨(by omega),(by omega)⟩
   .
    have he7:=KY (l:=v) (k:=k) (.inl (by omega)) hcm;refine av 7 (.d (vI (kd v (k+1):Nat))) J (by rw[he7]<;>rfl) ?_;exact at_ (k+1) ⟨(by omega),(by omega)⟩
  .
   obtain rfl:k=v.length:=by omega
   have hd3:=So h3;refine eE (fu:=⟨9⟩) J (by show some (decide _)=some false;rw[decide_eq_false (by omega)]) J<|?_;refine NT J J J JT (fun _=>J) (fun GB1 pv hg1 hpv=>?_);refine EW 2 2000002 h0.fx J<|EW 3 2000003 h0.fx J ?_;refine Ji (σ:=Empty) (fun _=>[(2000002,some (.o 132 [.nl] true)),(2000003,some (.o 34 [.d (.v .nilIface)] true))]) (fun _=>True) (fun _=>[]) (fun _=>False) [(2, .ov 2000002 0),(3, .ov 2000003 0),(4, .d (.sl (v.map eZ)))] h0 J (KZ (by omega)) (.cons hpv .nil) ⟨J,J,J,trivial⟩ J ⟨J,J,trivial⟩ trivial Kg J J (fun k e GB' hE hg hp=>?_) (fun D hD hx hp=>?_) (fun D s hD hx hq=>hq.elim)
   ·obtain⟨p,q,hpx,hqx,rfl⟩:=Pp hE
    rw[hvl] at hqx;rw[hv] at hpx hqx;obtain⟨hk,rfl⟩:=Cs hpx;obtain⟨hk2,rfl⟩:=Cs hqx;haveI:=vN (h.le _ (AM hk));haveI:=vN (h.le _ (CL hk));have hne:=aBK h hk;refine⟨?_,?_,fun C2=>?_,fun C2=>?_⟩
    rotate_left 2
    ·refine gx J<|OI J J J ⟨J,J,J⟩ J ?_
     exact atR
    ·refine gx J<|A4 0 (e:=141) (len:=2) (s:=6) J (by kernel_rfl) (by kernel_rfl) (by decide) J<|A4 1 (e:=141) (len:=2) (s:=6) J (by kernel_rfl) (by kernel_rfl) (by decide) J<|?_
     refine cl J (N3 (p:=(r.getD k (0,0)).q) (q:=(fD r k).q) (i:=22)) J<|?_;refine bd J J J (fun hc=>absurd (decide_eq_true hc) (by rw[hne];decide)) (fun hc=>?_);exact rq trivial ⟨J,J,trivial⟩
   ·refine gx J<|?_
    exact M3 hD hx J J
structure Df (r:List ZP):Prop where
 ok:gi r
 c3:3<=ge (r.map ZP.q) (r.map ZP.q).length
def r9(r:List ZP):DV:= .sl ((r.map ZP.q).map eZ)
def aFC(l:List (List ZP)):ew 1 (l.map r9):=fun d hd=>by
 obtain⟨x,_,rfl⟩:=bJ.1 hd;exact⟨J,J⟩
def X1{L:List (List ZP)}{k:Nat}{l:List ZP}(h:L[k]? =some l):((L.take k).map r9)++[r9 l]=(L.take (k+1)).map r9:=by
 rw[gR,h,eX];rfl
def Kw{L:List (List ZP)}{k:Nat}{l:List ZP}(h:L[k]? =some l):((c6 (L.take k)).map bj)++((iI l).map bj)=(c6 (L.take (k+1))).map bj:=by
 rw[aoi h,eX]
def auW{rs:List (List ZP)}(h: ∀r∈rs,Df r)(hn:rs.length<=200):PF GB prog 73 [.sl (rs.map vx)] (.tp [.sl (rs.map r9), .v .nilIface]):=by
 have hml:(rs.map vx).length=rs.length:=aJ ..;refine fn (fu:=⟨11⟩) func73 J J ntmps73 J J (fun C=>?_);refine av 10 (.d (vI (rs.length:Nat))) J (by rw[hml]<;>rfl) ?_;refine gx (fu:=⟨0⟩) J<|eE (fu:=⟨15⟩) J (by show some (decide _)=some false;rw[decide_eq_false (by omega)]) J<|?_;refine av 17 (.d (vI (rs.length:Nat))) J (by rw[hml]<;>rfl) ?_;refine gx J<|?_;refine nr 4 4 132 1 J J J ?_;refine lp (X:=Nat) (fun k=>[(18, .d (vI (k:Nat))),(4, .rw 4)]) (fun k=>[(4,some (.b 132 1 ((rs.take k).map r9) true))]) (fun k=>k<=rs.length) (fun k=>rs.length-k) 0 J (bU _) (fun _=>J) (fun k hk=>?_);have hm3:((rs.take k).map r9).length<=k:=by rw[aJ,cK];omega
 refine br J J J (fun hc19=>?_) (fun hc19=>?_)
 .
  obtain⟨r,hx⟩: ∃u,rs[k]? =some u:=⟨_,aX (by omega)⟩;have hr:=h r (bX hx);refine ix _ J (fh hx) J<|cl (fu:=⟨11⟩) J (ZQ hr.ok hr.c3) J<|eE J J J<|rf J J<|ap ((rs.take (k+1)).map r9) J (X1 hx) (aFC [r]) J<|?_;refine ny 33 4 J ?_;exact at_ (k+1) ⟨(by omega),(by omega)⟩
 .
  obtain rfl:k=rs.length:=by omega
  rw[fY];refine mp 4 J ?_;exact rz J J
def onR(rs:List (List ZP))(p:ab):Bool:=(c6 rs).any fun f=>Io f p
def WD{fill n:Int}:PF GB prog 59 [vI fill,vI n] (vB (vy fill n)):=by
 refine fn func59 J J ntmps59 J J (fun C=>?_);refine br J J J (fun hc6=>?_) (fun hc6=>?_)
 .
  exact rz J (by show DV.v (.bool _)= .v (.bool _);unfold vy;simp_all)
 .
  refine br J J J (fun hc11=>?_) (fun hc11=>?_)
  .
   exact rz J (by show DV.v (.bool _)= .v (.bool _);unfold vy;simp_all)
  .
   exact rz J (by show DV.v (.bool _)= .v (.bool _);unfold vy;simp_all)
def Ms(f:aO)(m:aa):(splitP f m).length<=1:=by unfold splitP;split<;>simp
def mc(l:List aO)(m:aa):List aO:=l.flatMap fun g=>splitP g m
def CX(l:List aO)(m:aa):(mc l m).length<=l.length:=by
 induction l with
 |nil=>exact aN _
 |cons f t ih=>
  unfold mc at ih⊢;rw[nM,aS,bW];have:(splitP f m).length<=1:=by unfold splitP;split<;>simp
  omega
def MY{l:List aO}{k:Nat}{f:aO}{m:aa}(h:l[k]? =some f):(mc (l.take k) m).map bj++(splitP f m).map bj=(mc (l.take (k+1)) m).map bj:=by
 unfold mc;rw[gR,h,qV,eX];simp
def DE{f:aO}{m:aa}{a b:Bool}(ha:f.l.cutB f.v m=a)(hb:f.l.cutB f.v m.rev=b):(DV.tp [.sl (if a then [bj ⟨f.l,f.l.cutV f.v m⟩] else []), .sl (if b then [bj ⟨f.l,f.l.cutV f.v m.rev⟩] else [])])= .tp [.sl ((splitP f m).map bj), .sl ((splitP f m.rev).map bj)]:=by
 subst ha hb;unfold splitP;split<;>split<;>rfl
def VJ{f:aO}{m:aa}(hf:FS f)(hm:LB m):PF GB prog 256 [bj f,dq m] (.tp [.sl ((splitP f m).map bj), .sl ((splitP f m.rev).map bj)]):=by
 haveI:=hf.fo.lb;haveI:=hf.fo.lo;haveI:=hf.fo.hi;haveI:=hm;refine fn func256 J J ntmps256 J J (fun C=>?_);refine cl J (Ag (l:=f.l) (v:=f.v) (m:=m) (i:=1200)) J<|?_;refine bb J J J (fun hc19=>?_) (fun hc19=>?_)
 .
  refine rf J J<|cl J FB J<|cl J (Ag (l:=f.l) (v:=f.v) (m:=m.rev) (i:=1200)) J<|?_;refine bb J J J (fun hc35=>?_) (fun hc35=>?_)
  .
   refine rf J J<|?_;exact rz J (DE hc19 hc35)
  .
   exact rz J (DE hc19 hc35)
 .
  refine cl J FB J<|cl J (Ag (l:=f.l) (v:=f.v) (m:=m.rev) (i:=1200)) J<|?_;refine bb J J J (fun hc35=>?_) (fun hc35=>?_)
  .
   refine rf J J<|?_;exact rz J (DE hc19 hc35)
  .
   exact rz J (DE hc19 hc35)
def aAT:Rv prog 167:=by
 intro p q w;refine callsDIn_of_wpSIn func167 J trivial fun c₀ cs hu=>?_;apply wpSIn_seq;apply wpSIn_region;simp[wpOpsSIn,go_sem,recoverD,hu,ntmps167,Exit.thenS,FW,Fence.wide];apply wpSIn_seq;apply wpSIn_region;simp[wpOpsSIn,go_sem,Exit.thenS,FW,Fence.wide];refine wpSIn_cond (t:=false) (by simp[Act.eval,Array.replicate]) ?_;simp only[dZ,if_false];refine wpSIn_of_wpIn J (wpIn_skip ?_)
 cases c₀
 simp_all [bodyPostS,results,Tryz.results167,go_sem]
def Uc{b:Nat}{f:FuncId}{c2:List Value}{ds2:List DV}(hc2:IsLs GB ds2 c2){acc:ab->Bool}(hF: ∀q,aI q 20000->PF GB prog f (eZ q::ds2) (vB (acc q))){n:Nat}{c:aC}{d N:Nat}(hc:iu c)(hcl:c.length<=100000):PM GB prog 168 (gI [none,some (.sl (([]:List aO).map bj)),some (.sl (c.map bj)),some (.v (.int .i64 (d:Nat)))] b) b 272 [.v (.int .i64 (N:Nat)),(.v (.func (.func f) ⟨[]⟩ ⟨c2⟩))] (eU (ie acc n [] c)) [.v (.int .i64 (N+(ie acc n [] c).size:Nat)),(.v (.func (.func f) ⟨[]⟩ ⟨c2⟩))]:=by
 have hib:=V8 hc;refine uz (fu:=⟨10⟩) func168 J J ntmps168 J J (fun C b m lo hmb=>?_);refine f8 (fu:=⟨8⟩) J J J<|ldO J J J J J J<|cl (fu:=⟨0⟩) J (Vb (c:=c) hc hcl) J<|Ad (ds1:=[]) (ds2:=ds2) J (cG.2 J) hc2 (hF (pE c) hib) J<|?_;refine cl J (s7 (b:=acc (pE c))) J<|?_;exact n5 hmb J J (by cases n<;>rfl) (by cases n<;>rfl)
def Zo{b:Nat}{f:FuncId}{c2:List Value}{g:aO}{t:List aO}{c:aC}{d N:Nat}{x y:Tr}(hl: ∀u∈g::t,FS u)(hlen:(g::t).length<=100000)(hc:iu c)(hcl:c.length<=100000)(hd:d<1000)(hN:N+(1+x.size+y.size)<=65536)(ih1: ∀{b N:Nat},N+x.size<=65536->PM GB prog 168 (gI [none,some (.sl ((mc (g::t) g.l).map bj)),some (.sl ((bE c g.l).map bj)),some (.v (.int .i64 (d+1:Nat)))] b) b 272 [.v (.int .i64 (N:Nat)),(.v (.func (.func f) ⟨[]⟩ ⟨c2⟩))] (eU x) [.v (.int .i64 (N+x.size:Nat)),(.v (.func (.func f) ⟨[]⟩ ⟨c2⟩))])(ih2: ∀{b N:Nat},N+y.size<=65536->PM GB prog 168 (gI [none,some (.sl ((mc (g::t) g.l.rev).map bj)),some (.sl ((bE c g.l.rev).map bj)),some (.v (.int .i64 (d+1:Nat)))] b) b 272 [.v (.int .i64 (N:Nat)),(.v (.func (.func f) ⟨[]⟩ ⟨c2⟩))] (eU y) [.v (.int .i64 (N+y.size:Nat)),(.v (.func (.func f) ⟨[]⟩ ⟨c2⟩))]):PM GB prog 168 (gI [none,some (.sl ((g::t).map bj)),some (.sl (c.map bj)),some (.v (.int .i64 (d:Nat)))] b) b 272 [.v (.int .i64 (N:Nat)),(.v (.func (.func f) ⟨[]⟩ ⟨c2⟩))] (eU (Tr.node g.l x y)) [.v (.int .i64 (N+(Tr.node g.l x y).size:Nat)),(.v (.func (.func f) ⟨[]⟩ ⟨c2⟩))]:=by
 have hg:=hl g aQ;haveI hlb:=hg.fo.lb;have hlt:t.length+1<=100000:=hlen;have hml:((g::t).map bj).length=(g::t).length:=aJ ..;refine uz (fu:=⟨10⟩) func168 J J ntmps168 J J (fun C b m lo hmb=>?_);refine av 22 (.d (vI ((t.length+1:Nat):Int))) J (by rw[hml]<;>rfl) ?_;refine gx (fu:=⟨0⟩) J<|eE (fu:=⟨13⟩) (hv:=by simp only[ah];exact(by omega)) J (by show some (decide _)=some false;rw[decide_eq_false (by omega)]) J<|?_;refine av 36 (.d (.v (.int .i64 (N+1:Nat)))) J J ?_;refine gx (fu:=⟨11⟩) J<|eE (fu:=⟨2⟩) J (by show some (decide _)=some false;rw[decide_eq_false (by omega)]) J<|eE J (by show some (decide _)=some false;rw[decide_eq_false (by omega)]) J<|?_;refine ix (fu:=⟨17⟩) _ J J J<|?_;refine av 55 (.d (vI ((t.length+1:Nat):Int))) J (by rw[hml]<;>rfl) ?_;refine gx J<|?_;refine nr 10 10 222 17 J J J ?_;refine nr 11 11 222 17 J J J ?_;refine lp (X:=Nat) (fun k=>[(56, .d (vI (k:Nat))),(10, .rw 10),(11, .rw 11)]) (fun k=>[(10,some (.b 222 17 ((mc ((g::t).take k) g.l).map bj) true)),(11,some (.b 222 17 ((mc ((g::t).take k) g.l.rev).map bj) true))]) (fun k=>k<=t.length+1) (fun k=>t.length+1-k) 0 J (bU _) (fun _=>J) (fun k hk=>?_);have hm1:=CX ((g::t).take k) g.l;have hm2:=CX ((g::t).take k) g.l.rev;have hm3:((g::t).take k).length<=k:=by rw[cK];omega
 have hm4:((mc ((g::t).take k) g.l).map bj).length<=k:=by rw[aJ];omega
 have hm5:((mc ((g::t).take k) g.l.rev).map bj).length<=k:=by rw[aJ];omega
 refine br (fu2:=⟨0⟩) J J J (fun hc57=>?_) (fun hc57=>?_)
 .
  obtain⟨u,hx⟩: ∃u,(g::t)[k]? =some u:=⟨_,aX (by rw[bW];omega)⟩;have hu:=hl u (bX hx);have hs1:=Ms u g.l;have hs2:=Ms u g.l.rev;refine ix _ J (fh hx) J<|cl J (VJ hu hlb) J<|ap ((mc ((g::t).take (k+1)) g.l).map bj) J (MY hx) (Ab (splitP u g.l)) J<|?_;refine ap ((mc ((g::t).take (k+1)) g.l.rev).map bj) J (MY hx) (Ab (splitP u g.l.rev)) J<|?_;refine ny 68 10 J ?_;refine ny 71 11 J ?_;exact at_ (k+1) ⟨(by omega),(by omega)⟩
 .
  obtain rfl:k=t.length+1:=by omega
  rw[show(g::t).take (t.length+1)=g::t from fY (l:=g::t)];refine yJ 11 J ?_;refine gx J<|cl (fu:=⟨18⟩) J (JJ (l:=g.l) (c:=c) hg.fo.ok hc hcl) J<|?_;refine av 85 (.d (.v (.int .i64 (d+1:Nat)))) J J ?_;refine gx J<|fz 10 J J<|cm (fu:=⟨12⟩) J (fun b=>(ih1 (N:=N+1) (by omega))) J<|?_;refine av 93 (.d (.v (.int .i64 (d+1:Nat)))) J J ?_;refine gx J<|cm J (fun b=>(ih2 (N:=N+1+x.size) (by omega))) J<|cl J wM J<|?_;exact n5 hmb J J J (by rw[show N+(Tr.node g.l x y).size=N+1+x.size+y.size from by rw[Tr.size];omega])
def I2{f:FuncId}{c2:List Value}{ds2:List DV}(hc2:IsLs GB ds2 c2){acc:ab->Bool}(hF: ∀q,aI q 20000->PF GB prog f (eZ q::ds2) (vB (acc q))): ∀{n:Nat} {l:List aO} {c:aC} {d N b:Nat},(∀u∈l,FS u)->mO n l->l.length<=100000->iu c->c.length+n<=100000->d+n<=1000->N+(ie acc n l c).size<=65536->PM GB prog 168 (gI [none,some (.sl (l.map bj)),some (.sl (c.map bj)),some (.v (.int .i64 (d:Nat)))] b) b 272 [.v (.int .i64 (N:Nat)),(.v (.func (.func f) ⟨[]⟩ ⟨c2⟩))] (eU (ie acc n l c)) [.v (.int .i64 (N+(ie acc n l c).size:Nat)),(.v (.func (.func f) ⟨[]⟩ ⟨c2⟩))]
 |_,[],c,d,N,b,_,_,_,hc,hcl,_,_=>Uc hc2 hF hc (by omega)
 |0,g::t,_,_,_,_,_,hf,_,_,_,_,_=>hf.no.elim
 |n+1,g::t,c,d,N,b,hl,hf,hlen,hc,hcl,hd,hN=>by
  have hg:=hl g aQ;haveI hlb:=hg.fo.lb;obtain⟨f1,f2⟩:=FS.splits hl hlb;obtain⟨w1,w2⟩:=hf.splitP hl;have n1:=CX (g::t) g.l;have n2:=CX (g::t) g.l.rev;have k1:=Ar c g.l;have k2:=Ar c g.l.rev;have o1:=Aa hg.fo.ok hc;have o2:=Aa (l:=g.l.rev) (aa.ok.rev hg.fo.ok) hc;refine Zo (x:=ie acc n (mc (g::t) g.l) (bE c g.l)) (y:=ie acc n (mc (g::t) g.l.rev) (bE c g.l.rev)) hl hlen hc (by omega) (by omega) hN (fun{b' N'} h2=>?_) (fun{b' N'} h2=>?_)
  ·exact I2 hc2 hF f1 w1 (by omega) o1 (by omega) (by omega) h2
  ·exact I2 hc2 hF f2 w2 (by omega) o2 (by omega) (by omega) h2
def Lh{E:List aO}(hE: ∀u∈E,FS u){n:Nat}(hw:mO n E)(hn:n<=1000)(hlen:E.length<=100000){f:FuncId}{c2:List Value}{ds2:List DV}(hc2:IsLs GB ds2 c2){acc:ab->Bool}(hF: ∀q,aI q 20000->PF GB prog f (eZ q::ds2) (vB (acc q)))
  (hs:(ie acc n E []).size<=65536)(hd:(ie acc n E []).depth<=1000)(ho:(ie acc n E []).all aa.ok)(hb:(ie acc n E []).all LB):PF GB prog 75 [.sl (E.map bj), .v (.func (.func f) ⟨[]⟩ ⟨c2⟩)] (.tp [eU ((ie acc n E []).restrict []), .v .nilIface]):=by
 refine Wx func75 J J ntmps75 J J (fun C h0=>?_);refine WG h0 J J J (by decide) (fun p q=>?_);refine gx J ?_;refine cm J (fun b=>I2 (b:=b) hc2 hF (n:=n) (l:=E) (c:=[]) (d:=0) (N:=0) hE hw hlen (fun s hs=>by cases hs) (by simp;omega) (by omega) (by omega)) J ?_;refine cl J (ax5 hb ho (by omega)) J ?_;exact VN aAT ⟨_,func167,J,J⟩ J J
end Go.Sx
end
