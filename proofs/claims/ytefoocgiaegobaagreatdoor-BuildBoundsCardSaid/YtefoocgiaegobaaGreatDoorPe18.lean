import Derived.Test.YtefoocgiaegobaaGreatDoorPe17
set_option linter.all false
set_option maxHeartbeats 4000000
set_option maxRecDepth 100000
section
namespace Go.Sx
open Go Go.Proofs Tryz
variable {GB:Gh}
def mB(c:aF)(m:aa):Bool:=cE c m&&cE c m.rev
def sC{c:aF}(hc:dw c){m:aa}(hm:m.ok):mB c m=true↔AL m c:=by
 unfold mB;rw[aN];constructor
 ·rintro ⟨h1,h2⟩
  obtain⟨p,hp,k1⟩:=(ri hc hm).1 h1;obtain⟨q,hq,k2⟩:=(ri hc hm.rev).1 h2;rw[ik] at k2;generalize hA:m.value p=A at*;generalize hB:m.value q=B at*;have hAB:0<A-B:=by grind
  have e:A/(A-B)*(A-B)=A:=by grind
  generalize A/(A-B)=r at*;have r0:0<=r:=(jd hAB).1 (by rw[e];exact gJ k1);have r1:r<=1:=by
   have:=(jd (s:=1-r) hAB).1 (by grind);grind
  exact⟨bp p q r,hp.seg hq r0 r1,by rw[jP,hA,hB];grind⟩
 ·rintro ⟨p,hp,h0⟩
  exact Mr hc hm hp h0
def xB(c:aF)(m n:aa):Bool:=decide (¬m.same n)&&(decide (n.value (vA m n)=0)&&ow c (vA m n))
def o4{c:aF}{m n:aa}(hm:m.ok)(hn:n.ok):xB c m n=true↔ ¬m.same n/\ ∃z,bO c z/\m.value z=0/\n.value z=0:=by
 unfold xB;rw[aN,aN,decide_eq_true_eq,decide_eq_true_eq,pw];constructor
 ·rintro ⟨h1,h2,h3⟩
  exact⟨h1,_,h3,qq hm.ne _,h2⟩
 ·rintro ⟨h1,z,hz,k1,k2⟩
  rcases Bc hm hn k1 k2 with h|h
  ·exact absurd h h1
  ·rw[<-h];exact⟨h1,k2,hz⟩
def E6{c:aF}{m n:aa}(hm:m.ok)(hn:n.ok):xB c m n=xB c n m:=by
 rw[oW,o4 hm hn,o4 hn hm];constructor<;>(rintro ⟨h,z,hz,k1,k2⟩;exact⟨fun e=>h e.symm,z,hz,k2,k1⟩)
def gp(f:aa->Nat):List aa->Nat
 |[]=>0
 |m::K=>f m+gp f K
def bN(b:Bool):Nat:=if b then 1 else 0
def N1{f g:aa->Nat}: ∀{K:List aa},(∀m∈K,f m<=g m)->gp f K<=gp g K
 |[],_=>aL _
 |m::K,h=>by
  have:=N1 (f:=f) (g:=g) (K:=K) fun n hn=>h n (aZ _ hn);have:=h m aQ;show f m+gp f K<=g m+gp g K;omega
def vx(f g:aa->Nat): ∀K,gp (fun m=>f m+g m) K=gp f K+gp g K
 |[]=>rfl
 |m::K=>by
  have:=vx f g K;show f m+g m+gp (fun m=>f m+g m) K=f m+gp f K+(g m+gp g K);omega
def xv{f g:aa->Nat}{d:Nat}{m0:aa}: ∀{K:List aa},(∀m∈K,f m<=g m)->m0∈K->f m0+d<=g m0->gp f K+d<=gp g K
 |[],_,h,_=>by cases h
 |m::K,h,hm,hd=>by
  have i1:=N1 (f:=f) (g:=g) (K:=K) fun n hn=>h n (aZ _ hn);have:=h m aQ;show f m+gp f K+d<=g m+gp g K;rcases aW.1 hm with rfl|hm
  ·omega
  ·have:=xv (f:=f) (g:=g) (d:=d) (K:=K) (fun n hn=>h n (aZ _ hn)) hm hd
   omega
def yo{f:aa->Nat}{B:Nat}: ∀{K:List aa},(∀m∈K,f m<=B)->gp f K<=K.length*B
 |[],_=>bL _
 |m::K,h=>by
  have:=yo (f:=f) (B:=B) (K:=K) fun n hn=>h n (aZ _ hn);have:=h m aQ;show f m+gp f K<=(K.length+1)*B;rw[gX];omega
def uM(K:List aa)(c:aF):Nat:=gp (fun m=>bN (mB c m)) K
def jc(K:List aa)(c:aF)(m:aa):Nat:=gp (fun n=>bN (xB c m n)) K
def vq(K:List aa)(c:aF):Nat:=gp (jc K c) K
def Pv(b:Bool):bN b<=1:=by cases b<;>decide
def Wq{K:List aa}(hK: ∀m∈K,m.ok){c:aF}(hc:dw c){n m0:aa}(hn:n.ok)(h0:m0∈K)(hs:m0.same n)(hb:cE c n=true)(hb2:cE c n.rev=true):
  uM K (bF c n)+uM K (bF c n.rev)+1<=uM K c+jc K c m0/\vq K (bF c n)+vq K (bF c n.rev)+2*jc K c m0<=vq K c:=by
 obtain⟨g1,i1⟩:=js hc hn hb;obtain⟨g2,i2⟩:=js hc hn.rev hb2;have i2: ∀p,bO (bF c n.rev) p↔bO c p/\n.value p<0:=fun p=>by rw[i2,ik];constructor<;>(rintro ⟨a,b⟩;exact⟨a,by grind⟩)
 have hm0:=hK m0 h0;have z1: ∀m,m.ok->(mB (bF c n) m=true->mB c m=true)/\(mB (bF c n.rev) m=true->mB c m=true):=fun m hm=>by
  rw[sC g1 hm,sC g2 hm,sC hc hm];exact⟨fun⟨p,hp,k⟩=>⟨p,((i1 p).1 hp).1,k⟩,fun⟨p,hp,k⟩=>⟨p,((i2 p).1 hp).1,k⟩⟩
 have z2: ∀m,m.ok->mB (bF c n) m=true->mB (bF c n.rev) m=true->xB c m0 m=true:=fun m hm h1 h2=>by
  obtain⟨p,hp,k1⟩:=(sC g1 hm).1 h1;obtain⟨q,hq,k2⟩:=(sC g2 hm).1 h2;obtain⟨hp,ap⟩:=(i1 p).1 hp;obtain⟨hq,aq⟩:=(i2 q).1 hq;rw[o4 hm0 hm];refine⟨fun e=>?_,?_⟩
  ·rw[oA hs (oA e.symm k1)] at ap;grind
  generalize hA:n.value p=A at*;generalize hB:n.value q=B at*;have hAB:0<A-B:=by grind
  have e:A/(A-B)*(A-B)=A:=by grind
  generalize A/(A-B)=r at*;have r0:0<=r:=(jd hAB).1 (by rw[e];exact gJ ap);have r1:r<=1:=by
   have:=(jd (s:=1-r) hAB).1 (by grind);grind
  exact⟨bp p q r,hp.seg hq r0 r1,oA hs.symm (by rw[jP,hA,hB];grind),by rw[jP,k1,k2];grind⟩
 have w1: ∀m m',m.ok->m'.ok->xB (bF c n) m m'=true->xB c m m'=true/\ ¬xB (bF c n.rev) m m'=true:=fun m m' hm hm' h=>by
  rw[o4 hm hm'] at h;obtain⟨e,z,hz,k1,k2⟩:=h;obtain⟨hz,az⟩:=(i1 z).1 hz;refine⟨(o4 hm hm').2 ⟨e,z,hz,k1,k2⟩,fun h=>?_⟩;obtain⟨_,y,hy,j1,j2⟩:=(o4 hm hm').1 h;obtain⟨hy,ay⟩:=(i2 y).1 hy;rcases Bc hm hm' k1 k2 with h|h
  ·exact e h
  ·rcases Bc hm hm' j1 j2 with h'|h'
   ·exact e h'
   ·rw[h'] at ay;rw[h] at az;grind
 have w2: ∀m m',m.ok->m'.ok->xB (bF c n.rev) m m'=true->xB c m m'=true:=fun m m' hm hm' h=>by
  rw[o4 hm hm'] at h⊢;obtain⟨e,z,hz,k1,k2⟩:=h;exact⟨e,z,((i2 z).1 hz).1,k1,k2⟩
 have w3: ∀m,m.ok->xB (bF c n) m m0=false/\xB (bF c n.rev) m m0=false:=fun m hm=>by
  constructor
  ·rw[<-mX,o4 hm hm0]
   rintro ⟨_,z,hz,_,k2⟩;have:=((i1 z).1 hz).2;rw[oA hs k2] at this;grind
  ·rw[<-mX,o4 hm hm0]
   rintro ⟨_,z,hz,_,k2⟩;have:=((i2 z).1 hz).2;rw[oA hs k2] at this;grind
 have hmm: ∀d,xB d m0 m0=false:=fun d=>by
  rw[<-mX,o4 hm0 hm0];rintro ⟨h,_⟩;exact h (.inl rfl)
 have n1: ∀d:aF,dw d->(∀p,bO d p->n.value p≠0)->mB d m0=false:=fun d hd h=>by
  rw[<-mX,sC hd hm0];rintro ⟨p,hp,k⟩;exact h p hp (oA hs k)
 have n2:mB c m0=true:=by
  rw[sC hc hm0];obtain⟨p,hp,k⟩:=(sC hc hn).1 (by unfold mB;rw[hb,hb2];rfl);exact⟨p,hp,oA hs.symm k⟩
 constructor
 ·unfold uM jc
  rw[<-vx,<-vx];refine xv (m0:=m0) (d:=1) (fun m hm=>?_) h0 ?_
  ·have hmk:=hK m hm
   obtain⟨a1,a2⟩:=z1 m hmk;have a3:=z2 m hmk
   try dsimp only
   cases e1:mB (bF c n) m<;>cases e2:mB (bF c n.rev) m<;>simp only[e1,e2,forall_const,reduceCtorEq,false_implies] at a1 a2 a3<;>simp_all [bN]
  ·try dsimp only
   rw[n1 _ g1 (fun p hp=>by have:=((i1 p).1 hp).2;grind),n1 _ g2 (fun p hp=>by have:=((i2 p).1 hp).2;grind),n2,hmm];decide
 ·have row: ∀m∈K,jc K (bF c n) m+jc K (bF c n.rev) m+bN (xB c m m0)<=jc K c m:=fun m hm=>by
   have hmk:=hK m hm;unfold jc;rw[<-vx];refine xv (m0:=m0) (d:=bN (xB c m m0)) (fun m' hm'=>?_) h0 ?_
   ·have hmk':=hK m' hm'
    have b1:=w1 m m' hmk hmk';have b2:=w2 m m' hmk hmk'
    try dsimp only
    cases e1:xB (bF c n) m m'<;>cases e2:xB (bF c n.rev) m m'<;>simp_all [bN]
   ·obtain⟨c1,c2⟩:=w3 m hmk
    try dsimp only
    rw[c1,c2];simp[bN]
  have r0:jc K (bF c n) m0=0/\jc K (bF c n.rev) m0=0:=by
   have z: ∀d,(∀m∈K,xB d m0 m=false)->jc K d m0=0:=fun d h=>by
    have:=yo (f:=fun m=>bN (xB d m0 m)) (B:=0) (K:=K) fun m hm=>by rw[h m hm];decide
    unfold jc;omega
   exact⟨z _ fun m hm=>by rw[E6 hm0 (hK m hm)];exact(w3 m (hK m hm)).1,z _ fun m hm=>by rw[E6 hm0 (hK m hm)];exact(w3 m (hK m hm)).2⟩
  have cs:gp (fun m=>bN (xB c m m0)) K=jc K c m0:=by
   unfold jc;have key: ∀Jv:List aa,(∀m∈Jv,m.ok)->gp (fun m=>bN (xB c m m0)) Jv=gp (fun m=>bN (xB c m0 m)) Jv:=fun Jv=>by
    induction Jv with
    |nil=>intro _;rfl
    |cons a Jv ih=>
     intro h;show bN (xB c a m0)+_=bN (xB c m0 a)+_;rw[ih fun m hm=>h m (aZ _ hm),E6 (h a aQ) hm0]
   exact key K hK
  have:=xv (f:=fun m=>jc K (bF c n) m+jc K (bF c n.rev) m+bN (xB c m m0)) (g:=jc K c) (d:=jc K c m0) (m0:=m0) row h0 (by rw[r0.1,r0.2,hmm];simp[bN]);rw[vx,vx,cs] at this;unfold vq;omega
def E9{K:List aa}(hK: ∀m∈K,m.ok): ∀{t:Tr} {c:aF},t.Prp c->t.all aa.ok->dw c->lf K t->2*t.size<=2*uM K c+vq K c
 | .leaf _,_,_,_,_,_=>bL _
 | .node n x y,c,⟨h1,h2,h3,h4⟩,⟨hn,hx,hy⟩,hc,⟨⟨m0,hm0,hs⟩,kx,ky⟩=>by
  obtain⟨g1,_⟩:=js hc hn h1;obtain⟨g2,_⟩:=js hc hn.rev h2;have a:=E9 hK h3 hx g1 kx;have b:=E9 hK h4 hy g2 ky;obtain⟨d1,d2⟩:=Wq hK hc hn hm0 hs h1 h2;rw[Tr.size];omega
def Pi{K:List aa}(hK: ∀m∈K,m.ok){t:Tr}{c:aF}(h:t.Prp c)(ht:t.all aa.ok)(hc:dw c)(hA:lf K t):2*t.size<=K.length*(K.length+1):=by
 have h1:=E9 hK h ht hc hA;have h2:uM K c<=K.length*1:=yo fun m _=>Pv _;have h3:vq K c<=K.length*(K.length-1):=yo fun m hm=>by
  have:=xv (f:=fun n=>bN (xB c m n)) (g:=fun _=>1) (d:=1) (m0:=m) (K:=K) (fun n _=>Pv _) hm (by
   have:xB c m m=false:=by rw[<-mX,o4 (hK m hm) (hK m hm)];rintro ⟨h,_⟩;exact h (.inl rfl)
   rw[this];decide)
  have l1:gp (fun _=>1) K<=K.length*1:=yo fun _ _=>aL _;unfold jc;omega
 have:K.length*(K.length+1)=K.length*(K.length-1)+2*K.length:=by
  cases K.length with
  |zero=>rfl
  |succ k=>rw[Nat.succ_sub_one,Nat.mul_succ,Nat.mul_succ,gX];omega
 omega
section
variable {GB:Gh} {ai al ae:Addr} (hE:EG GB ai al ae) {j k:Nat} {a b:Tr} (ha:oh j a) (hb:oh k b)
include hE ha
include hb
end
section
variable {GB:Gh} {ai al ae:Addr} (hE:EG GB ai al ae)
include hE
end
def ptZ:DV:= .ag [vI 0,vI 0, .v (.pointer none),vI 0,vI 0, .v (.pointer none)]
def apZ:DV:= .ag [.v (.bool false), .sl [], .sl [], .v (.bool false), .sl [], .sl []]
def Xq{c:aF}(hc:iH c)(hn:c.length<=100000):PF GB prog 255 [eC c] (eZ (oB c)):=by
 cases c with
 |nil=>exact Vt
 |cons s cs=>exact RG hc (by rw[bT] at hn;omega)
def FK(d:Rat):Prop:=True
theorem IA{s:aO}{p:ab}: ∀{c:aF} {f:Rat},BQ f 9000->(∀g∈c,BQ (-(g.l.value p/g.l.nor.dot s.l.nor)) 9000)->BQ (ip s.l p c f) 9000
 |[],f,h,_=>h
 |g::c,f,h,k=>by
  rw[ip];refine IA ?_ fun u hu=>k u (aZ _ hu);split
  ·split
   ·exact k g aQ
   ·exact h
  ·exact h
theorem Uu{c:aF}(hc:iH c):bg (oB c) 20000:=by
 cases c with
 |nil=>exact⟨BQ.mono (k:=2) ⟨by decide,by decide⟩ (by decide),BQ.mono (k:=2) ⟨by decide,by decide⟩ (by decide)⟩
 |cons s cs=>
  have hs:=hc s aQ;haveI:=hs.lb;haveI:=Hr hs;haveI:=IA (s:=s) (p:=s.l.at s.v.sample) (c:=cs) (f:=1) (BQ.mono (k:=2) ⟨by decide,by decide⟩ (by decide)) fun g hg=>H5 hs (hc g (aZ _ hg));rw[N3];have:=(inferInstance:bg ((s.l.at s.v.sample).add (s.l.nor.scale (ip s.l (s.l.at s.v.sample) cs 1*mkRat 1 2))) _);exact⟨this.x.mono (by decide),this.y.mono (by decide)⟩
def ZA(l:List ab):dB 6 (l.map eZ):=fun d hd=>by
 obtain⟨x,_,rfl⟩:=bJ.1 hd;exact⟨J,J⟩
instance bg.negp (p:ab) (i:Nat) [h:bg p i]:bg (oc p) i:=⟨inferInstanceAs (BQ (-p.x) i),inferInstanceAs (BQ (-p.y) i)⟩
instance bg.prip (l:aa) [LB l]:bg (zy l.dir) 500:=by
 have h:=(inferInstance:bg (l.dir.scale (rgcd l.dir.x l.dir.y)⁻¹) _);exact⟨h.x.mono (by decide),h.y.mono (by decide)⟩
def T2{p:ab}{i:Nat}[h:bg p i](hi:i<=900000000:=by decide):PF GB prog 242 [eZ p] (eZ (qd p)):=by
 refine fn func242 J J ntmps242 J J (fun C=>?_);refine cl J (oD (q:=p.y) (i:=i) hi) J<|?_;exact rz J J
def Lt{q:Rat}{i:Nat}[h:BQ q i](hi:i<=400000000:=by decide):PF GB prog 198 [eR q] (eF q):=by
 haveI:BN q.num.natAbs i:=⟨h.hn⟩;haveI:BN q.den i:=⟨h.hd⟩;refine fn func198 J J ntmps198 J J (fun C=>?_);refine cl (fu:=⟨0⟩) J (sE (n:=decide (q.num<0)) (a:=q.num.natAbs) (d:=q.den) (i:=i) (j:=i) (by omega) (by omega)) J<|?_;refine aB 7 (.d (eF q)) J (by rw[kC,Rat.mkRat_self]) ?_;refine gx J<|?_;exact rz J J
def VT{p:ab}{i:Nat}[h:bg p i](hi:i<=400000000:=by decide):PF GB prog 110 [pb p] (eZ p):=by
 refine fn func110 J J ntmps110 J J (fun C=>?_);refine cl J (Lt (q:=p.x) (i:=i) hi) J<|cl J (Lt (q:=p.y) (i:=i) hi) J<|?_;exact rz J J
def My{p q:ab}{i:Nat}[hp:bg p i][hq:bg q i](hi:i<=1000000:=by decide):PF GB prog 192 [eZ p,eZ q] (vB (decide (p.x=q.x/\p.y=q.y))):=by
 refine fn func192 J J ntmps192 J J (fun C=>?_);refine cl J (uJ (p:=p.x) (q:=q.x) (i:=i) (j:=i) (by omega) (by omega)) J<|?_;refine csd 10 J J J (fun hg10=>?_) (fun hg10=>?_)
 .
  refine cl J (uJ (p:=p.y) (q:=q.y) (i:=i) (j:=i) (by omega) (by omega)) J<|?_;exact rz J (by show DV.v (.bool _)= .v (.bool _);simp_all)
 .
  exact rz J (by show DV.v (.bool _)= .v (.bool _);simp_all)
def RD{p q:ab}{i j:Nat}[hp:bg p i][hq:bg q j](hi:i<=10000000:=by decide)(hj:j<=10000000:=by decide):PF GB prog 241 [eZ p,eZ q] (eZ ⟨p.x-q.x,p.y-q.y⟩):=by
 refine fn func241 J J ntmps241 J J (fun C=>?_);refine cl J (s5 (p:=p.x) (q:=q.x) (i:=i) (j:=j) (by omega) (by omega)) J<|cl J (s5 (p:=p.y) (q:=q.y) (i:=i) (j:=j) (by omega) (by omega)) J<|?_;exact rz J J
def Ms{l:aa}{p:ab}{i:Nat}[hl:LB l][hp:bg p i](hi:i<=1000000:=by decide):PF GB prog 254 [cb l,eZ p] (eF (en l p)):=by
 refine fn func254 J J ntmps254 J J (fun C=>?_);refine cl J (vH (l:=l)) J<|cl (fu:=⟨0⟩) J (tN (p:=l.dir) (q:=p) (i:=97) (j:=i) (by decide) (by omega)) J<|?_;refine aB 10 (.d (eF (p.dot l.dir))) J (by rw[show l.dir.dot p=p.dot l.dir by unfold ab.dot;grind]) ?_;refine gx J<|cl J (tN (p:=l.dir) (q:=l.dir) (i:=97) (j:=97) (by decide) (by decide)) J<|cl J (yp (p:=p.dot l.dir) (q:=l.dir.dot l.dir) (i:=i+97+(i+97)+1) (j:=97+97+(97+97)+1) (by omega) (by decide)) J<|?_;exact rz J J
def Xu{G:Gh}{q:Rat}{y:Value}(h: ¬eh q)(hy:Is G (di q) y):y= .pointer none:=by
 unfold di at hy;rw[decide_eq_false h] at hy;rcases qI.1 hy with⟨_,e⟩|⟨e,_⟩
 ·exact e
 ·cases e
def YA{G:Gh}{q:Rat}(h: ¬eh q):Is G (di q) (.pointer none):=by
 unfold di;rw[decide_eq_false h];exact qI.2 (.inl ⟨J,J⟩)
def xF(q:Rat):List Value:=[.int .i64 (dm q), .int .i64 (dq q), .pointer none]
def vk{G:Gh}{q:Rat}{t:List DV}{m:List Value}(h: ¬eh q)(hm:IsLs G (vI (dm q)::vI (dq q)::di q::t) m): ∃n,m=xF q++n/\IsLs G t n:=by
 obtain⟨y1,m1,rfl,h1,hm1⟩:=ba.1 hm;obtain⟨y2,m2,rfl,h2,hm2⟩:=ba.1 hm1;obtain⟨y3,m3,rfl,h3,hm3⟩:=ba.1 hm2;obtain rfl:=aG.1 h1;obtain rfl:=aG.1 h2;obtain rfl:=Xu h h3;exact⟨m3,J,hm3⟩
def vt{G:Gh}{q:Rat}{t:List DV}{n:List Value}(h: ¬eh q)(k:IsLs G t n):IsLs G (vI (dm q)::vI (dq q)::di q::t) (xF q++n):= .cons (aG.2 J) (.cons (aG.2 J) (.cons (YA h) k))
def rV(q:Rat):Value:= .agg ⟨xF q⟩
def WI{G:Gh}{q:Rat}{y:Value}(h: ¬eh q)(hy:Is G (eF q) y):y=rV q:=by
 obtain⟨m,rfl,hm⟩:=c6.1 hy;obtain⟨n,rfl,hn⟩:=vk h hm;rw[cA.1 hn];rfl
def UL{G:Gh}{q:Rat}(h: ¬eh q):Is G (eF q) (rV q):=c6.2 ⟨_,J,vt h (cA.2 J)⟩
structure Ds (f:aO):Prop where
 a: ¬eh (f.l.a:Rat)
 b: ¬eh (f.l.b:Rat)
 c: ¬eh (f.l.c:Rat)
 lo: ¬eh f.v.lo
 hi: ¬eh f.v.hi
def vY(f:aO):Value:= .agg ⟨xF f.l.a++(xF f.l.b++(xF f.l.c++(xF f.v.lo++(xF f.v.hi++[.bool f.v.nl, .bool f.v.nh]))))⟩
def Bp{G:Gh}{f:aO}{y:Value}(h:Ds f)(hy:Is G (bi f) y):y=vY f:=by
 obtain⟨m0,rfl,k0⟩:=c6.1 hy;obtain⟨m1,rfl,k1⟩:=vk h.a k0;obtain⟨m2,rfl,k2⟩:=vk h.b k1;obtain⟨m3,rfl,k3⟩:=vk h.c k2;obtain⟨m4,rfl,k4⟩:=vk h.lo k3;obtain⟨m5,rfl,k5⟩:=vk h.hi k4;obtain⟨y1,m6,rfl,h1,k6⟩:=ba.1 k5;obtain⟨y2,m7,rfl,h2,k7⟩:=ba.1 k6;obtain rfl:=aG.1 h1;obtain rfl:=aG.1 h2;obtain rfl:=cA.1 k7;rfl
def Ci{G:Gh}{f:aO}(h:Ds f):Is G (bi f) (vY f):=c6.2 ⟨_,J,vt h.a (vt h.b (vt h.c (vt h.lo (vt h.hi (.cons (aG.2 J) (.cons (aG.2 J) (cA.2 J)))))))⟩
structure FE (f:aO):Prop where
 fo:m8 f
 sm:Ds f
 nl:f.v.nl=false
 nh:f.v.nh=false
def OD{f:aO}(hf:FE f):PF GB prog 260 [bi f] (.tp [eZ (f.l.at f.v.lo),vB true]):=by
 haveI:=hf.fo.lb;haveI:=hf.fo.lo;haveI:=hf.fo.hi;refine fn (fu:=⟨13⟩) func260 J J ntmps260 J J (fun C=>?_);refine aB 6 (.d (vB false)) J (by rw[hf.nl]<;>rfl) ?_;refine sL 6 J ?_;refine gx J<|cl J (AZ (l:=f.l) (t:=f.v.lo) (i:=1200)) J<|?_;exact rz J J
def Mq{f:aO}(hf:FE f):PF GB prog 261 [bi f] (.tp [eZ (f.l.at f.v.hi),vB true]):=by
 haveI:=hf.fo.lb;haveI:=hf.fo.lo;haveI:=hf.fo.hi;refine fn (fu:=⟨13⟩) func261 J J ntmps261 J J (fun C=>?_);refine aB 6 (.d (vB false)) J (by rw[hf.nh]<;>rfl) ?_;refine sL 6 J ?_;refine gx J<|cl J (AZ (l:=f.l) (t:=f.v.hi) (i:=1200)) J<|?_;exact rz J J
theorem IB{l:aa}{t:Rat}(hl:LB l)(ht:BQ t 1200):bg (l.at t) 3000:=bg.mono (inferInstance:bg (l.at t) _) (by decide)
def qn{f:aO}(h1:f.v.nl=false)(h2:f.v.nh=false)(p:ab):qj f p=if Int.sign f.l.dir.y.num=0 then 0 else if Int.sign (f.l.value p).num≠Int.sign f.l.dir.y.num then 0 else
  if Int.sign f.l.dir.y.num<0 then(if 0<b9 (f.l.at f.v.hi).y p.y then 0 else if b9 (f.l.at f.v.lo).y p.y<=0 then 0 else Int.sign f.l.dir.y.num)
  else(if 0<b9 (f.l.at f.v.lo).y p.y then 0 else if b9 (f.l.at f.v.hi).y p.y<=0 then 0 else Int.sign f.l.dir.y.num):=by
 unfold qj;rw[h1,h2];generalize Int.sign f.l.dir.y.num=U;generalize Int.sign (f.l.value p).num=S;generalize b9 (f.l.at f.v.hi).y p.y=a;generalize b9 (f.l.at f.v.lo).y p.y=b;by_cases k:U=0
 ·simp[k]
 ·by_cases k2:S≠U
  ·simp[k2]
  ·rw[if_neg (by simp[k,k2]),if_neg k,if_neg k2]
   by_cases k3:U<0
   ·simp[k3]
   ·simp[k3]
def MA(f:aO)(p:ab):(qj f p).natAbs<=1:=by
 unfold qj;have:=UX f.l.dir.y.num
 repeat' split
 all_goals omega
def NZ{E:List aO}{p:ab}{k:Nat}{f:aO}(h:E[k]? =some f):im (E.take (k+1)) p=im (E.take k) p+qj f p:=by
 rw[gK,h];show im (E.take k++[f]) p=_;rw[D1];unfold im;simp
def Oh(E:List aO)(p:ab): ∀k,(im (E.take k) p).natAbs<=k
 |0=>by simp[im]
 |k+1=>by
  have ih:=Oh E p k
  cases h:E[k]? with
  |none=>
   have:E.take (k+1)=E.take k:=by rw[gK,h];simp
   rw[this];omega
  |some f=>
   rw[NZ h];have:=MA f p;omega
def XU{f:aO}(hf:FE f){p:ab}{i:Nat}[hp:bg p i](hi:i<=100000:=by decide):PF GB prog 169 [bi f,eZ p] (vI (qj f p)):=by
 haveI:=hf.fo.lb;haveI:=hf.fo.lo;haveI:=hf.fo.hi;haveI:bg (f.l.at f.v.hi) 3000:=IB hf.fo.lb hf.fo.hi;haveI:bg (f.l.at f.v.lo) 3000:=IB hf.fo.lb hf.fo.lo;refine fn func169 J J ntmps169 J J (fun C=>?_);refine cl J (vH (l:=f.l)) J<|cl (fu:=⟨6⟩) J (lv (q:=f.l.dir.y) (i:=97)) J<|?_;rcases Int.lt_or_le (Int.sign f.l.dir.y.num) 0 with hu|hu
 .
  refine gx J<|?_;refine cs 19 J J J (fun hg19=>?_) (fun hg19=>?_)
  .
   exact rz J (by rw[qn hf.nl hf.nh];(repeat' split)<;>first|rfl|(exfalso;omega))
  .
   refine cl J (DC (l:=f.l) (p:=p) (i:=i) (by omega)) J<|?_;refine br (fu2:=⟨5⟩) J J J (fun hc26=>?_) (fun hc26=>?_)
   .
    exact rz J (by rw[qn hf.nl hf.nh];(repeat' split)<;>first|rfl|(exfalso;omega))
   .
    refine Cn (fu:=⟨1⟩) (vY f) J (fun G y hy=>Bp hf.sm hy) J<|Cn (fu:=⟨8⟩) (vY f) J (fun G y hy=>Bp hf.sm hy) J<|gu (fu:=⟨14⟩) J (by show some (decide _)=some true;rw[decide_eq_true (by omega)]) J<|?_;refine yf (fu:=⟨12⟩) (ds1:=[bi f]) (ds2:=[]) J (.cons (Ci hf.sm) (cA.2 J)) (cA.2 J) (Mq hf) J<|?_;refine kd 41 J ?_;refine gx J<|cl J (pg (i:=3000) (j:=i) (by decide) (by omega)) J<|?_;refine br (fu2:=⟨6⟩) J J J (fun hc48=>?_) (fun hc48=>?_)
    .
     exact rz J (by rw[qn hf.nl hf.nh];(repeat' split)<;>first|rfl|(exfalso;omega))
    .
     refine yf (fu:=⟨12⟩) (ds1:=[bi f]) (ds2:=[]) J (.cons (Ci hf.sm) (cA.2 J)) (cA.2 J) (OD hf) J<|?_;refine kd 55 J ?_;refine gx J<|cl J (pg (i:=3000) (j:=i) (by decide) (by omega)) J<|?_;refine br J J J (fun hc62=>?_) (fun hc62=>?_)
     .
      exact rz J (by rw[qn hf.nl hf.nh];(repeat' split)<;>first|rfl|(exfalso;omega))
     .
      exact rz J (by rw[qn hf.nl hf.nh];(repeat' split)<;>first|rfl|(exfalso;omega))
 .
  refine gx J<|?_;refine cs 19 J J J (fun hg19=>?_) (fun hg19=>?_)
  .
   exact rz J (by rw[qn hf.nl hf.nh];(repeat' split)<;>first|rfl|(exfalso;omega))
  .
   refine cl J (DC (l:=f.l) (p:=p) (i:=i) (by omega)) J<|?_;refine br (fu2:=⟨5⟩) J J J (fun hc26=>?_) (fun hc26=>?_)
   .
    exact rz J (by rw[qn hf.nl hf.nh];(repeat' split)<;>first|rfl|(exfalso;omega))
   .
    refine Cn (fu:=⟨1⟩) (vY f) J (fun G y hy=>Bp hf.sm hy) J<|Cn (fu:=⟨8⟩) (vY f) J (fun G y hy=>Bp hf.sm hy) J<|ee (fu:=⟨9⟩) J (by show some (decide _)=some false;rw[decide_eq_false (by omega)]) J<|?_;refine yf (fu:=⟨12⟩) (ds1:=[bi f]) (ds2:=[]) J (.cons (Ci hf.sm) (cA.2 J)) (cA.2 J) (OD hf) J<|?_;refine kd 41 J ?_;refine gx J<|cl J (pg (i:=3000) (j:=i) (by decide) (by omega)) J<|?_;refine br (fu2:=⟨6⟩) J J J (fun hc48=>?_) (fun hc48=>?_)
    .
     exact rz J (by rw[qn hf.nl hf.nh];(repeat' split)<;>first|rfl|(exfalso;omega))
    .
     refine yf (fu:=⟨12⟩) (ds1:=[bi f]) (ds2:=[]) J (.cons (Ci hf.sm) (cA.2 J)) (cA.2 J) (Mq hf) J<|?_;refine kd 55 J ?_;refine gx J<|cl J (pg (i:=3000) (j:=i) (by decide) (by omega)) J<|?_;refine br J J J (fun hc62=>?_) (fun hc62=>?_)
     .
      exact rz J (by rw[qn hf.nl hf.nh];(repeat' split)<;>first|rfl|(exfalso;omega))
     .
      exact rz J (by rw[qn hf.nl hf.nh];(repeat' split)<;>first|rfl|(exfalso;omega))
def U8{E:List aO}(hE: ∀f∈E,FE f)(hn:E.length<=1000000){p:ab}{i:Nat}[hp:bg p i](hi:i<=100000:=by decide):PF GB prog 77 [.sl (E.map bi),eZ p] (vI (im E p)):=by
 have hml:(E.map bi).length=E.length:=aJ ..;refine fn (fu:=⟨16⟩) func77 J J ntmps77 J J (fun C=>?_);refine aB 9 (.d (vI (E.length:Nat))) J (by rw[hml]<;>rfl) ?_;refine gx J<|?_;refine lp (X:=Nat) (fun k=>[(10, .d (vI (k:Nat))),(5, .d (vI (im (E.take k) p)))]) (fun k=>[]) (fun k=>k<=E.length) (fun k=>E.length-k) 0 J (bL _) (fun _=>J) (fun k hk=>?_);have hw:=Oh E p k;refine br J J J (fun hc11=>?_) (fun hc11=>?_)
 .
  obtain⟨f,hx⟩: ∃u,E[k]? =some u:=⟨_,aX (by omega)⟩;have hf:=hE f (bZ hx);have hcl:=MA f p;refine ix _ J (eH hx) J<|cl J (XU hf (p:=p) (i:=i) hi) J<|?_;refine aB 5 (.d (vI (im (E.take (k+1)) p))) J (by rw[NZ hx]<;>rfl) ?_;exact at_ (k+1) ⟨(by omega),(by omega)⟩
 .
  obtain rfl:k=E.length:=by omega
  rw[dY];exact rz J J
def nE(v:List ab):List (List DV):=(List.range v.length).map fun i=>[vI (i:Nat),By (v.getD i ⟨0,0⟩) (v.getD ((i+1)%v.length) ⟨0,0⟩)]
def NU{v:List ab}{i:Nat}{p q:ab}(h1:v[i]? =some p)(h2:v[(i+1)%v.length]? =some q):(nE v)[i]? =some [vI (i:Nat),By p q]:=by
 have hi:=(aS.1 h1).1;unfold nE;rw[fU,pU hi,jJ,aK,aK,h1,h2];rfl
def IH{v:List ab}{i:Nat}{e:List DV}(h:(nE v)[i]? =some e): ∃p q,v[i]? =some p/\v[(i+1)%v.length]? =some q/\e=[vI (i:Nat),By p q]:=by
 have hi:i<v.length:=by
  have:=(aS.1 h).1;unfold nE at this;simpa using this
 have h1:v[i]? =some v[i]:=aX hi;have hm:(i+1)%v.length<v.length:=dT _ (by omega);have h2:v[(i+1)%v.length]? =some v[(i+1)%v.length]:=aX hm;refine⟨_,_,h1,h2,?_⟩;rw[NU h1 h2] at h;exact(Option.some.inj h).symm
def Ir{v:List ab}: ∀e∈nE v,e.length=2:=fun e he=>by
 obtain⟨i,_,rfl⟩:=bJ.1 he;rfl
def JP{v:List ab}(hn:v.length<=100000):It GB prog 253 [.pt [.sl (v.map eZ)]] (nE v):=by
 have hml:(v.map eZ).length=v.length:=aJ ..;have hrl:(nE v).length=v.length:=by unfold nE;simp
 refine Un func253 J J ntmps253 J (fun _=>J) (fun l Jv Jx GB' hg H C hp hJ=>?_);refine Ez 1 J<|gx J<|?_;refine aB 6 (.d (vI (v.length:Nat))) J (by rw[hml]<;>rfl) ?_;refine PD (X:=Nat) (fun k=>[(0, .d (.v (.func (.yield l) #[] #[]))),(1, .ep [.sl (v.map eZ)]),(5, .d (.sl (v.map eZ))),(6, .d (vI (v.length:Nat))),(7, .d (vI (k:Nat)))]) (fun k C=>k<=v.length/\Jv k C.G0 C.w0) (fun k=>v.length-k) 0 hp ⟨bL _,hJ⟩ (fun _=>J) (fun k C1 hp1 hk=>?_);obtain⟨hk1,hJ1⟩:=hk;refine br J J J (fun hc8=>?_) (fun hc8=>?_)
 ·obtain⟨p,hpx⟩: ∃u,v[k]? =some u:=⟨_,aX (by omega)⟩
  obtain⟨q,hqx⟩: ∃u,v[(k+1)%v.length]? =some u:=⟨_,aX (dT _ (by omega))⟩;refine ix _ J (eH hpx) J<|?_;refine aB 20 (.d (vI (((k+1)%v.length:Nat):Int))) J (by rw[hml]<;>rfl) ?_;refine gx J<|ix _ J (eH hqx) J<|PO (len:=2) (s:=6) (e:=141) J (by kernel_rfl) (by kernel_rfl) J<|?_;refine QZ (by kernel_rfl) J ?_;refine cy [(0, .d (.v (.func (.yield l) #[] #[]))),(1, .ep [.sl (v.map eZ)]),(5, .d (.sl (v.map eZ))),(6, .d (vI (v.length:Nat))),(7, .d (vI (k:Nat)))] H hp1 hJ1 J (NU hpx hqx) J (by repeat (first|exact trivial|refine And.intro J ?_)) J J J (fun C3 hp3 hJ3=>?_) (fun C3 hp3 hJ3=>?_)
  ·exact Uw (k+1) hp3 ⟨⟨by omega,hJ3⟩,by omega⟩
  ·exact OK H hp3 (.inr hJ3) J
 ·obtain rfl:k=v.length:=by omega
  exact OK H hp1 (.inl (by rw[hrl];exact hJ1)) J
def Mc{v:List ab}:HG GB prog 165 [.sl (v.map eZ)] 253 (.pt [.sl (v.map eZ)]):=by
 refine WQ func165 J J ntmps165 J J (fun C=>?_);refine fz 1 J J ?_;refine xk 1 J (fun GB' pv hg hp=>?_);refine Td J J ?_;exact Xm J J hp
def Vn:Eo 139:=fun x w=>by kernel_rfl
def Rk(m:List Value):A6 139 (.agg ⟨m⟩) "Mul" 207:=fun w=>by kernel_rfl
def PZ(l:List Rat)(k:Nat)(y:Rat):(l.map eF).set k (eF y)=(l.set k y).map eF:=(pX ..).symm
def lx(L:List Rat)(k:Rat)(j:Nat):List Rat:=(L.take j).map (· *k)++L.drop j
def Wi(L:List Rat)(k:Rat)(j:Nat):(lx L k j).length=L.length:=by
 unfold lx;rw[aR,aJ,bM,gM];omega
def Z'{L:List Rat}{k a:Rat}{j:Nat}(h:L[j]? =some a):(lx L k j)[j]? =some a:=by
 have hj:=(aS.1 h).1;unfold lx;rw[fV (by rw[aJ,bM];omega),aJ,bM,lJ,<-h];congr 1;omega
def WT{L:List Rat}{k a:Rat}{j:Nat}(h:L[j]? =some a):(lx L k j).set j (a*k)=lx L k (j+1):=by
 have hj:=(aS.1 h).1;unfold lx;rw[gK,h,mY _ _ (by rw[aJ,bM];omega),aJ,bM,show j-min j L.length=0 by omega,cJ hj];simp only[Option.toList_some,fQ,bW,dR,List.set_cons_zero,dQ,cV,cK]
def In{L:List Rat}{k:Rat}{i:Nat}[hk:BQ k i](hL: ∀a∈L,¬eh a)(hb: ∀a∈L,BQ a i)(hn:L.length<=1000)(hi:i<=1000000:=by decide):PB GB prog 338 (mA [some (eF k),none]) 3 139 (L.map eF) (fun w=> .v (.slice w.a w.n w.c)) ((L.map (· *k)).map eF):=by
 have hml:(L.map eF).length=L.length:=aJ ..;refine Kl (fu:=⟨11⟩) func338 J J ntmps338 J J (fun C=>?_);refine aB 7 (.d (vI (L.length:Nat))) J (by rw[hml]<;>rfl) ?_;refine gx J<|?_;refine lp (X:=Nat) (fun j=>[(8, .d (vI (j:Nat)))]) (fun j=>[(1000000,some (.b 139 3 ((lx L k j).map eF) false))]) (fun j=>j<=L.length) (fun j=>L.length-j) 0 J (bL _) (fun _=>J) (fun j hk=>?_);have hsl:=Wi L k j;have hsm:((lx L k j).map eF).length=(lx L k j).length:=aJ ..;refine br J J J (fun hc9=>?_) (fun hc9=>?_)
 .
  obtain⟨a,hx⟩: ∃u,L[j]? =some u:=⟨_,aX (by omega)⟩;have ham:=bZ hx;haveI:=hb a ham;have hga:(lx L k j)[j]? =some a:=Z' hx;refine lb (fu:=⟨0⟩) _ J (eH hga) J<|Zn (fu:=⟨1⟩) (rV a) J Vn (fun G y hy=>WI (hL a ham) hy) J<|Y6 J (Rk _) (PF.arg0 (qC (p:=a) (q:=k) (i:=i) (j:=i) (by omega) (by omega)) (fun G y h=>by rw[aG.1 h];exact UL (hL a ham))) J<|?_;refine sb (hv:=by simp only[ah];exact⟨by kernel_rfl,by omega⟩) _ ((lx L k (j+1)).map eF) J (eH hga) J (by rw[<-WT hx,<-PZ]<;>rfl) J<|?_;exact at_ (j+1) ⟨(by omega),(by omega)⟩
 .
  obtain rfl:j=L.length:=by omega
  have hend:lx L k L.length=L.map (· *k):=by unfold lx;rw[dY,jY,iS]
  exact AK J J J (by rw[hend])
def Gm{a:Int}{g:Nat}(hg:0<g)(hd:g∣a.natAbs):(a:Rat)*(((g:Nat):Int):Rat)⁻¹=((zv (decide (a<0)) (a.natAbs/g):Int):Rat):=by
 obtain⟨q,hq⟩:=hd;have e:zv (decide (a<0)) (a.natAbs/g)*(g:Int)=a:=by
  rw[hq,qR q hg];unfold zv;have hc:((g*q:Nat):Int)=(g:Int)*(q:Int):=by simp
  have hm:=sY (g:Int) (q:Int);split
  ·rename_i h
   have h:=of_decide_eq_true h;rw[Int.neg_mul];omega
  ·rename_i h
   have h: ¬a<0:=fun k=>h (decide_eq_true k);omega
 generalize zv (decide (a<0)) (a.natAbs/g)=z at*;have h0:((g:Int):Rat)≠0:=by
  intro k;have:(g:Int)=0:=by exact_mod_cast k
  omega
 rw[<-e,cR];generalize ((g:Int):Rat)=r at*;grind
def qr{z:Int}(h:z.natAbs<=1000000): ¬eh (z:Rat):=fun k=>k ⟨by show z.natAbs<_;omega,by show 1<_;decide⟩
def Pu{q:Rat}{k:Nat}(h:BQ q k)(hk:k<=62): ¬eh q:=fun b=>b (by
 have hp:2^k<=2^62:=bV (by decide) hk;have e:(2:Nat)^62=4611686018427387904:=by decide
 obtain⟨h1,h2⟩:=h;exact⟨by omega,by omega⟩)
theorem YL(p q:ab){i j:Nat}[bg p i][bg q j]:bg ⟨p.x-q.x,p.y-q.y⟩ (i+j+1):=⟨inferInstanceAs (BQ (p.x-q.x) _),inferInstanceAs (BQ (p.y-q.y) _)⟩
theorem lC{z:Int}(h:z.natAbs<=1000000):BQ (z:Rat) 22:=by
 have e:(2:Nat)^21=2097152:=by decide
 haveI:BI z 21:=⟨by omega⟩;exact(inferInstance:BQ (z:Rat) 22)
def Xl{a b c:Int}(ha:a.natAbs<=1000000)(hb:b.natAbs<=1000000)(hc:c.natAbs<=1000000)(h0: ¬(a=0/\b=0)):PF GB prog 243 [eF (a:Rat),eF (b:Rat),eF (c:Rat)] (.tp [cb (gg a b c),vB true]):=by
 haveI:=lC ha;haveI:=lC hb;haveI:=lC hc;have hgn:Nat.gcd a.natAbs b.natAbs≠0:=fun h=>h0 ⟨mW.1 (nU h),mW.1 (nJ h)⟩;have hgp:0<Nat.gcd (Nat.gcd a.natAbs b.natAbs) c.natAbs:=oQ _ (iX hgn);have eg:rgcd (rgcd (a:Rat) b) c=(((Nat.gcd (Nat.gcd a.natAbs b.natAbs) c.natAbs:Nat):Int):Rat):=by rw[uh,uh];rfl
 have e1:(a:Rat)*(rgcd (rgcd (a:Rat) b) c)⁻¹=((gg a b c).a:Rat):=by rw[eg];exact Gm hgp (qQ (jL _ _) (jL _ _))
 have e2:(b:Rat)*(rgcd (rgcd (a:Rat) b) c)⁻¹=((gg a b c).b:Rat):=by rw[eg];exact Gm hgp (qQ (jL _ _) (kN _ _))
 have e3:(c:Rat)*(rgcd (rgcd (a:Rat) b) c)⁻¹=((gg a b c).c:Rat):=by rw[eg];exact Gm hgp (kN _ _)
 haveI:BQ (rgcd (a:Rat) b) 200:=BQ.mono (inferInstance:BQ (rgcd (a:Rat) b) _) (by decide);haveI:BQ (rgcd (rgcd (a:Rat) b) c) 600:=BQ.mono (inferInstance:BQ (rgcd (rgcd (a:Rat) b) c) _) (by decide);haveI:BQ (rgcd (rgcd (a:Rat) b) c)⁻¹ 600:=BQ.mono (inferInstance:BQ (rgcd (rgcd (a:Rat) b) c)⁻¹ _) (by decide);have hl4:([((gg a b c).a:Rat),((gg a b c).b:Rat),((gg a b c).c:Rat)].map eF).length=3:=J;have hl3:[((gg a b c).a:Rat),((gg a b c).b:Rat),((gg a b c).c:Rat)].length=3:=J;refine fn func243 J J ntmps243 J J (fun C=>?_);refine cl J (r6 (q:=(a:Rat))) J<|?_;refine csd 11 J J J (fun hg11=>?_) (fun hg11=>?_)
 .
  refine cl J (r6 (q:=(b:Rat))) J<|?_;refine bd J J J (fun hc14=>?_) (fun hc14=>?_)
  .
   exact absurd ⟨by exact_mod_cast hg11,by exact_mod_cast hc14⟩ h0
  .
   refine cl J (nH (p:=(a:Rat)) (q:=(b:Rat)) (i:=22) (j:=22)) J<|cl J (nH (p:=rgcd (a:Rat) b) (q:=(c:Rat)) (i:=200) (j:=22)) J<|?_;refine cl rfl (EJ (q:=rgcd (rgcd (a:Rat) b) c) (i:=600)) rfl<|ro (fu:=⟨0⟩) J J<|cq (hv:=by simp only[ah];exact⟨by kernel_rfl,by omega⟩) ([((gg a b c).a:Rat),((gg a b c).b:Rat),((gg a b c).c:Rat)].map eF) rfl (In (L:=[(a:Rat),(b:Rat),(c:Rat)]) (k:=(rgcd (rgcd (a:Rat) b) c)⁻¹) (i:=600) (by intro q hq;simp only[aW,jM,or_false] at hq;rcases hq with rfl|rfl|rfl;exact qr ha;exact qr hb;exact qr hc) (by intro q hq;simp only[aW,jM,or_false] at hq;rcases hq with rfl|rfl|rfl;exact(lC ha).mono (by decide);exact(lC hb).mono (by decide);exact(lC hc).mono (by decide)) (nb rfl)) (by simp only[bW,dR,e1,e2,e3]) rfl<|?_;refine lb _ J J J<|lb _ J J J<|lb _ J J J<|?_;exact rz J J
 .
  refine cl J (nH (p:=(a:Rat)) (q:=(b:Rat)) (i:=22) (j:=22)) J<|cl J (nH (p:=rgcd (a:Rat) b) (q:=(c:Rat)) (i:=200) (j:=22)) J<|?_;refine cl rfl (EJ (q:=rgcd (rgcd (a:Rat) b) c) (i:=600)) rfl<|ro (fu:=⟨0⟩) J J<|cq (hv:=by simp only[ah];exact⟨by kernel_rfl,by omega⟩) ([((gg a b c).a:Rat),((gg a b c).b:Rat),((gg a b c).c:Rat)].map eF) rfl (In (L:=[(a:Rat),(b:Rat),(c:Rat)]) (k:=(rgcd (rgcd (a:Rat) b) c)⁻¹) (i:=600) (by intro q hq;simp only[aW,jM,or_false] at hq;rcases hq with rfl|rfl|rfl;exact qr ha;exact qr hb;exact qr hc) (by intro q hq;simp only[aW,jM,or_false] at hq;rcases hq with rfl|rfl|rfl;exact(lC ha).mono (by decide);exact(lC hb).mono (by decide);exact(lC hc).mono (by decide)) (nb rfl)) (by simp only[bW,dR,e1,e2,e3]) rfl<|?_;refine lb _ J J J<|lb _ J J J<|lb _ J J J<|?_;exact rz J J
theorem ug{z:ZP}(h:ZP.le 100 z):bg z.q 22:=⟨lC (by have:=h.1;omega),lC (by have:=h.2;omega)⟩
def tf{a b:Int}{m n:Nat}(ha:a.natAbs<=m)(hb:b.natAbs<=n):(a*b).natAbs<=m*n:=by
 rw[iN];exact kQ ha hb
def SH{v w:ZP}(hv:ZP.le 100 v)(hw:ZP.le 100 w)(h:v≠w):PF GB prog 151 [eZ v.q,eZ w.q] (.tp [cb (i6 v.1 v.2 w.1 w.2),vB true]):=by
 haveI:=ug hv;haveI:=ug hw;have hv1:=hv.1;have hv2:=hv.2;have hw1:=hw.1;have hw2:=hw.2;obtain⟨A,hA⟩: ∃A,A=jr v.2 w.2:=⟨_,rfl⟩;obtain⟨B,hB⟩: ∃B,B=jv v.1 w.1:=⟨_,rfl⟩;obtain⟨C0,hC⟩: ∃C0,C0=oq v.1 v.2 w.1 w.2:=⟨_,rfl⟩;have bA:A.natAbs<=200:=by rw[hA];unfold jr;omega
 have bB:B.natAbs<=200:=by rw[hB];unfold jv;omega
 have m1:=tf bA hv1;have m2:=tf bB hv2;have eC:C0= -(A*v.1+B*v.2):=by rw[hC,hA,hB];rfl
 have bC:C0.natAbs<=40000:=by rw[eC];omega
 have h0: ¬(A=0/\B=0):=fun k=>h (Prod.ext (by have:=k.2;rw[hB] at this;unfold jv at this;omega) (by have:=k.1;rw[hA] at this;unfold jr at this;omega));haveI:bg (iP A B) 22:=⟨lC (by omega),lC (by omega)⟩;haveI:BQ ((A*v.1+B*v.2:Int):Rat) 22:=lC (by omega);have eT:qd ⟨w.q.x-v.q.x,w.q.y-v.q.y⟩=iP A B:=by rw[hA,hB];unfold qd iP jr jv ZP.q iP;simp only[ab.mk.injEq];push_cast;constructor<;>grind
 have eD:(iP A B).dot v.q=((A*v.1+B*v.2:Int):Rat):=by unfold ab.dot iP ZP.q iP;push_cast;rfl
 have eN: -((A*v.1+B*v.2:Int):Rat)=((C0:Int):Rat):=by rw[eC];push_cast;rfl
 refine fn func151 J J ntmps151 J J (fun C=>?_);refine cl J (RD (p:=w.q) (q:=v.q) (i:=22) (j:=22)) J<|cl (fu:=⟨0⟩) J (T2 (p:=⟨w.q.x-v.q.x,w.q.y-v.q.y⟩) (i:=45) (h:=YL w.q v.q)) J<|?_;refine aB 12 (.d (eZ (iP A B))) J (by rw[eT]) ?_;refine gx J<|cl (fu:=⟨0⟩) J (tN (p:=iP A B) (q:=v.q) (i:=22) (j:=22)) J<|?_;refine aB 19 (.d (eF ((A*v.1+B*v.2:Int):Rat))) J (by rw[eD]) ?_;refine gx J<|cl (fu:=⟨0⟩) J (oD (q:=((A*v.1+B*v.2:Int):Rat)) (i:=22)) J<|?_;refine aB 20 (.d (eF ((C0:Int):Rat))) J (by rw[eN]) ?_;refine gx J<|cl J (Xl (a:=A) (b:=B) (c:=C0) (by omega) (by omega) (by omega) h0) J<|?_;exact rz J (by rw[hA,hB,hC];rfl)
theorem KE{l:aa}(ho:l.ok)(ha:l.a.natAbs<=200)(hb:l.b.natAbs<=200){m n:Int}(hm:m.natAbs<=100)(hn:n.natAbs<=100):BQ (en l (iP m n)) 60:=by
 have hd:=ye ho.ne;have p1:=tf ha ha;have p2:=tf hb hb;have p3:=tf hm hb;have p4:=tf hn ha;have h60:(2:Nat)^60=1152921504606846976:=by decide
 have hA:BI (l.a*l.a+l.b*l.b) 60:=⟨by omega⟩;have hB:BI (m*l.b-n*l.a) 60:=⟨by omega⟩;have e1:l.dir.dot l.dir=((l.a*l.a+l.b*l.b:Int):Rat):=by
  rw[oU,cR,cR];simp only[aa.dir,ab.dot];grind
 have e2:(iP m n).dot l.dir=((m*l.b-n*l.a:Int):Rat):=by
  rw[oT,cR,cR];simp only[aa.dir,ab.dot,iP];grind
 have hd':((0:Int):Rat)<((l.a*l.a+l.b*l.b:Int):Rat):=by rw[<-e1];exact hd
 unfold en;rw[e2,e1];clear e1 e2 p1 p2 p3 p4;generalize l.a*l.a+l.b*l.b=D at*;generalize m*l.b-n*l.a=M at*;have hD:0<D:=lL.1 hd';refine BQ.of_fracI (n:=M) (D:=D) (by omega) ?_ hB hA;have h0:(D:Rat)≠0:=fun e=>by rw[e] at hd';exact absurd hd' (by decide)
 have:((D.natAbs:Nat):Rat)=(D:Rat):=by
  have h1:((D.natAbs:Nat):Int)=D:=by omega
  rw[<-h1];rfl
 rw[this];grind
def ID{v w:ZP}(hv:ZP.le 100 v)(hw:ZP.le 100 w)(h:v≠w):FE (c8 v w):=by
 have hf:=J' hv hw h;have hv1:=hv.1;have hv2:=hv.2;have hw1:=hw.1;have hw2:=hw.2;have bA:(jr v.2 w.2).natAbs<=200:=by unfold jr;omega
 have bB:(jv v.1 w.1).natAbs<=200:=by unfold jv;omega
 have m1:=tf bA hv1;have m2:=tf bB hv2;have bC:(oq v.1 v.2 w.1 w.2).natAbs<=40000:=by unfold oq;omega
 obtain⟨k1,k2,k3⟩:=K4 (jr v.2 w.2) (jv v.1 w.1) (oq v.1 v.2 w.1 w.2);have ea:(c8 v w).l.a.natAbs<=200:=dW k1 bA;have eb:(c8 v w).l.b.natAbs<=200:=dW k2 bB;have ec:(c8 v w).l.c.natAbs<=40000:=dW k3 bC;exact⟨hf,⟨qr (by omega),qr (by omega),qr (by omega),Pu (KE hf.ok ea eb hv1 hv2) (by decide),Pu (KE hf.ok ea eb hw1 hw2) (by decide)⟩,J,J⟩
def R8{r:List ZP}(h:dC r): ∀f∈gi r,FE f:=fun f hf=>by
 obtain⟨k,hk,rfl⟩:=HW hf;exact ID (h.le _ (As hk)) (h.le _ (AB hk)) (h.ne k hk)
def VX{rs:List (List ZP)}(h: ∀r∈rs,dC r): ∀f∈co rs,FE f:=fun f hf=>by
 obtain⟨r,h1,h2⟩:=gN.1 hf;exact R8 (h r h1) f h2
def Q6{v w:ZP}(hv:ZP.le 100 v)(hw:ZP.le 100 w)(h:v≠w):PF GB prog 166 [eZ v.q,eZ w.q] (.tp [bi (c8 v w),vB true]):=by
 have hf:=ID hv hw h;haveI:LB (i6 v.1 v.2 w.1 w.2):=hf.fo.lb;haveI:=ug hv;haveI:=ug hw;refine fn func166 J J ntmps166 J J (fun C=>?_);refine cl (fu:=⟨12⟩) J (SH hv hw h) J<|?_;refine kd 14 J ?_;refine gx J<|cl J (Ms (l:=i6 v.1 v.2 w.1 w.2) (p:=v.q) (i:=22)) J<|cl J (Ms (l:=i6 v.1 v.2 w.1 w.2) (p:=w.q) (i:=22)) J<|?_;exact rz J J
def Bu{r:List ZP}{k:Nat}{p:ab}(h:(r.map ZP.q)[k]? =some p):k<r.length/\p=(r.getD k (0,0)).q:=by
 rw[fU] at h
 cases e:r[k]? with
 |none=>rw[e] at h;cases h
 |some z=>
  rw[e] at h;cases h;exact⟨(aS.1 e).1,by rw[aK,e];rfl⟩
def Dk(r:List ZP): ∀n,(kl r n).length=n
 |0=>rfl
 |n+1=>by rw[kl,aR,Dk r n];rfl
def Oy{r:List ZP}{k:Nat}: ∀{n:Nat},k<n->(kl r n)[k]? =some (c8 (r.getD k (0,0)) (ek r k))
 |0,h=>by omega
 |n+1,h=>by
  rw[kl];by_cases e:k=n
  ·subst e
   rw[fV (by rw[Dk];omega),Dk,qL];rfl
  ·rw[cS (by rw[Dk];omega)]
   exact Oy (by omega)
def vm(l:List aO):dB 17 (l.map bi):=fun d hd=>by
 obtain⟨x,_,rfl⟩:=bJ.1 hd;exact⟨J,J⟩
def WU{L:List aO}{k:Nat}{l:aO}(h:L[k]? =some l):((L.take k).map bi)++[bi l]=(L.take (k+1)).map bi:=by
 rw[gK,h,fQ];rfl
def Gp{r:List ZP}(h:dC r):PF GB prog 74 [.sl ((r.map ZP.q).map eZ)] (.sl ((gi r).map bi)):=by
 have hn:=h.n6;obtain⟨v,hv⟩: ∃v,v=r.map ZP.q:=⟨_,rfl⟩;have hvl:v.length=r.length:=by rw[hv,aJ]
 rw[<-hv];have hel:(gi r).length=r.length:=(r8 h).1;have hrl:(nE v).length=r.length:=by unfold nE;rw[aJ,rX,hvl]
 refine Nx func74 J J ntmps74 J J (fun C h0=>?_);refine Ka J J J Mc (fun _=>J) (fun GB1 pv hg1 hpv=>?_);refine E2 3 0 50 222 17 J J J J J ?_;refine EQ 3 2000003 h0.fx J ?_;refine IM (σ:=Empty) (fun k=>[(2000003,some (.o 130 [.rw 50] true)),(50,some (.b 222 17 (((gi r).take k).map bi) true))]) (fun _=>True) (fun _=>[]) (fun _=>False) [(3, .ov 2000003 0)]
  h0 J (JP (by omega)) (.cons hpv .nil) ⟨J,trivial⟩ J ⟨J,J,trivial⟩ trivial Ir J J (fun k e GB' hE hg hp=>?_) (fun D hD hx hp=>?_) (fun D s hD hx hq=>hq.elim)
 ·obtain⟨p,q,hpx,hqx,rfl⟩:=IH hE
  rw[hvl] at hqx;rw[hv] at hpx hqx;obtain⟨hk,rfl⟩:=Bu hpx;obtain⟨hk2,rfl⟩:=Bu hqx;have hx:(gi r)[k]? =some (c8 (r.getD k (0,0)) (ek r k)):=Oy hk;have hml:(((gi r).take k).map bi).length=k:=by rw[aJ,bM];omega
  refine⟨?_,?_,fun C2=>?_,fun C2=>?_⟩
  rotate_left 2
  ·refine gx J<|I0 J J J ⟨J,J,J⟩ J ?_
   exact atR
  ·refine gx J<|A3 0 (e:=141) (len:=2) (s:=6) J (by kernel_rfl) (by kernel_rfl) (by decide) J<|A3 1 (e:=141) (len:=2) (s:=6) J (by kernel_rfl) (by kernel_rfl) (by decide) J<|?_
   refine cl J (Q6 (h.le _ (As hk)) (h.le _ (AB hk)) (h.ne k hk)) J<|?_;refine rf J J<|ap (((gi r).take (k+1)).map bi) J (WU hx) (vm [c8 (r.getD k (0,0)) (ek r k)]) J<|?_;refine kr 23 50 J ?_;exact rq trivial ⟨J,J,trivial⟩
 ·rw[hrl,<-hel,dY]
  refine gx J<|?_;refine nv 50 J ?_;exact JG hD hx J J
def Xt{a i:Nat}[h:BN a i](hi:i<=1000000000:=by decide):PF GB prog 348 [dN a] (.v (.bool true)):=
 (KY (ds:=dg a) (d4 _).2.1 (by have:=ll (a:=a) hi;omega)).to (by unfold vB;rw[decide_eq_true (d4 a).2.2])
def L9{q:Rat}{i:Nat}[hq:BQ q i](hi:i<=1000000:=by decide):PF GB prog 284 [eR q] (.v (.bool true)):=by
 have hd:=q.den_pos;have hdl:0<(dg q.den).length:=iX fun e=>by have:=uW.1 e;omega
 have hml:((dg q.den).map dU).length=(dg q.den).length:=aJ ..;have hco:Nat.gcd q.num.natAbs q.den=1:=q.reduced;refine fn func284 J J ntmps284 J J (fun C=>?_);refine cl (fu:=⟨0⟩) J (pO (m:=q.num) (i:=i) (h:=⟨hq.hn⟩) (by omega)) J<|?_;refine kd 5 J ?_;refine gx J<|cl (fu:=⟨0⟩) J (Xt (a:=q.den) (i:=i) (h:=⟨hq.hd⟩) (by omega)) J<|?_;refine kd 10 J ?_;refine gx (fu:=⟨6⟩) J<|ee J (by show some (decide _)=some false;rw[decide_eq_false (by omega)]) J<|cl (fu:=⟨0⟩) J (Hb (a:=q.num.natAbs) (b:=q.den) (i:=i) (j:=i) (h:=⟨hq.hn⟩) (k:=⟨hq.hd⟩) (by omega) (by omega)) J<|?_;refine aB 24 (.d (dN 1)) J (by rw[hco]) ?_;refine gx J<|cl J (tr (a:=1) (i:=1) (h:=⟨by decide⟩)) J<|?_;exact rz J J
def Tb{p:ab}{i:Nat}[hp:bg p i](hi:i<=1000000:=by decide):PF GB prog 189 [pb p] (.v (.bool true)):=by
 refine fn func189 J J ntmps189 J J (fun C=>?_);refine cl (fu:=⟨0⟩) J (L9 (q:=p.x) (i:=i) (by omega)) J<|?_;refine kd 5 J ?_;refine gx J<|cl J (L9 (q:=p.y) (i:=i) (by omega)) J<|?_;exact rz J J
def lh(l:List ab)(p:ab):Int:=match l.findIdx? (fun q=>decide (q.x=p.x/\q.y=p.y)) with
 |some i=>(i:Nat)
 |none=> -1
def AS{l:List ab}{p q:ab}{k:Nat}(hx:l[k]? =some q)(h:(l.take k).all (fun q=>!decide (q.x=p.x/\q.y=p.y))=true)(hq:q.x=p.x/\q.y=p.y):lh l p=(k:Nat):=by
 have hk:=(aS.1 hx).1;have e:l.findIdx? (fun q=>decide (q.x=p.x/\q.y=p.y))=some k:=by
  rw[List.findIdx?_eq_some_iff_getElem];refine⟨hk,?_,fun j hj=>?_⟩
  ·rw[(aS.1 hx).2];exact decide_eq_true hq
  ·have:=fJ.1 h l[j] (by rw[List.mem_take_iff_getElem];exact⟨j,by omega,J⟩)
   simp at this⊢;intro a b;rcases this with k|k
   ·exact k a
   ·exact k b
 unfold lh;rw[e]
def SL{l:List ab}{p:ab}(h:l.all (fun q=>!decide (q.x=p.x/\q.y=p.y))=true):lh l p= -1:=by
 have e:l.findIdx? (fun q=>decide (q.x=p.x/\q.y=p.y))=none:=by
  rw[List.findIdx?_eq_none_iff];intro x hx;have:=fJ.1 h x hx;simp at this⊢;intro a b;rcases this with k|k
  ·exact k a
  ·exact k b
 unfold lh;rw[e]
def ZE{l:List ab}{k:Nat}{q:ab}{g:ab->Bool}(hx:l[k]? =some q)(h:(l.take k).all g=true)(hq:g q=true):(l.take (k+1)).all g=true:=by
 rw[gK,hx,List.all_append,h];simp[hq]
def ZG{l:List ab}{p:ab}{i:Nat}[hp:bg p i](hl: ∀q∈l,bg q i)(hn:l.length<=100000)(hi:i<=1000000:=by decide):PF GB prog 191 [.sl (l.map eZ),eZ p] (vI (lh l p)):=by
 have hml:(l.map eZ).length=l.length:=aJ ..;refine fn (fu:=⟨11⟩) func191 J J ntmps191 J J (fun C=>?_);refine aB 8 (.d (vI (l.length:Nat))) J (by rw[hml]<;>rfl) ?_;refine gx J<|?_;refine lp (X:=Nat) (fun k=>[(9, .d (vI (k:Nat)))]) (fun k=>[]) (fun k=>k<=l.length/\(l.take k).all (fun q=>!decide (q.x=p.x/\q.y=p.y))=true) (fun k=>l.length-k) 0 J ⟨bL _,J⟩ (fun _=>J) (fun k hk=>?_);obtain⟨hk,hall⟩:=hk;refine br J J J (fun hc10=>?_) (fun hc10=>?_)
 .
  obtain⟨q,hx⟩: ∃u,l[k]? =some u:=⟨_,aX (by omega)⟩;haveI:=hl q (bZ hx);refine ix _ J (eH hx) J<|cl J (My (p:=q) (q:=p) (i:=i) hi) J<|?_;refine bd J J J (fun hc16=>?_) (fun hc16=>?_)
  .
   exact rz J (by rw[AS hx hall hc16];rfl)
  .
   exact at_ (k+1) ⟨⟨by omega,ZE hx hall (by rw[decide_eq_false hc16];rfl)⟩,(by omega)⟩
 .
  obtain rfl:k=l.length:=by omega
  rw[dY] at hall;exact rz J (by rw[SL hall];rfl)
def d9(l:List ab):Nat->Nat
 |0=>0
 |k+1=>d9 l k+if lh l (l.getD k ⟨0,0⟩)=(k:Nat) then 1 else 0
def jt(l:List ab)(k:Nat):Nat:=if 3<=d9 l k then 3 else d9 l k
def QX{l:List ab}{k:Nat}(h:jt l k<3)(e:d9 l (k+1)=d9 l k+1):((jt l k:Nat):Int)+1=((jt l (k+1):Nat):Int):=by
 have a:jt l k=if 3<=d9 l k then 3 else d9 l k:=J
 have b:jt l (k+1)=if 3<=d9 l (k+1) then 3 else d9 l (k+1):=J
 split at a<;>split at b<;>omega
def Oo{l:List ab}{k:Nat}(h: ¬jt l k<3\/d9 l (k+1)=d9 l k)(m:d9 l k<=d9 l (k+1)):((jt l k:Nat):Int)=((jt l (k+1):Nat):Int):=by
 have a:jt l k=if 3<=d9 l k then 3 else d9 l k:=J
 have b:jt l (k+1)=if 3<=d9 l (k+1) then 3 else d9 l (k+1):=J
 split at a<;>split at b<;>omega
def YJ(l:List ab)(k:Nat):jt l k<=3:=by unfold jt;split<;>omega
def Vf{l:List ab}{k:Nat}(h:3<=d9 l k):jt l k=3:=by unfold jt;rw[if_pos h]
def C7{l:List ab}{k:Nat}{p:ab}(hx:l[k]? =some p)(h:lh l p=(k:Nat)):d9 l (k+1)=d9 l k+1:=by
 rw[d9,aK,hx,jV,if_pos h]
def WH{l:List ab}{k:Nat}{p:ab}(hx:l[k]? =some p)(h: ¬lh l p=(k:Nat)):d9 l (k+1)=d9 l k:=by
 rw[d9,aK,hx,jV,if_neg h];rfl
def Nd{l:List ab}{k:Nat}:d9 l k<=d9 l (k+1):=by rw[d9];split<;>omega
def Wy{v:List ab}{k:Nat}{p:ab}(h:v[k]? =some p):((v.take k).map eZ)++[eZ p]=(v.take (k+1)).map eZ:=by
 rw[gK,h,fQ];rfl
def Wl{r:List ZP}(h:dC r){k:Nat}(hk:k<r.length):decide ((r.getD k (0,0)).q.x=(ek r k).q.x/\(r.getD k (0,0)).q.y=(ek r k).q.y)=false:=decide_eq_false fun e=>h.ne k hk (zw (by
 obtain⟨e1,e2⟩:=e;generalize (r.getD k (0,0)).q=a at*;generalize (ek r k).q=b at*
 cases a;cases b
 simp only[ab.mk.injEq];exact⟨e1,e2⟩))
def XB{r:List ZP}(h:dC r)(h3:3<=d9 (r.map ZP.q) (r.map ZP.q).length):PF GB prog 102 [lw r] (.tp [.sl ((r.map ZP.q).map eZ), .v .nilIface]):=by
 have hn:=h.n6;obtain⟨v,hv⟩: ∃v,v=r.map ZP.q:=⟨_,rfl⟩;have hvl:v.length=r.length:=by rw[hv,aJ]
 have hb: ∀p∈v,bg p 22:=fun p hp=>by rw[hv] at hp;obtain⟨z,hz,rfl⟩:=bJ.1 hp;exact ug (h.le z hz)
 unfold lw;rw[<-hv] at h3⊢;have hm1:(v.map pb).length=v.length:=aJ ..;have hm2:(v.map eZ).length=v.length:=aJ ..;have hrl:(nE v).length=v.length:=by unfold nE;rw[aJ,rX]
 refine Nx (fu:=⟨11⟩) func102 J J ntmps102 J J (fun C h0=>?_);refine aB 13 (.d (vI (v.length:Nat))) J (by rw[hm1]<;>rfl) ?_;refine gx (fu:=⟨0⟩) J<|ee (fu:=⟨15⟩) J (by show some (decide _)=some false;rw[decide_eq_false (by omega)]) J<|?_;refine aB 20 (.d (vI (v.length:Nat))) J (by rw[hm1]<;>rfl) ?_;refine gx J<|?_;refine nr 4 4 141 6 J J J ?_;refine lp (X:=Nat) (fun k=>[(21, .d (vI (k:Nat))),(4, .rw 4)]) (fun k=>[(4,some (.b 141 6 ((v.take k).map eZ) true))]) (fun k=>k<=v.length) (fun k=>v.length-k) 0 J (bL _) (fun _=>J) (fun k hk=>?_);have hm3:((v.take k).map eZ).length<=k:=by rw[aJ,bM];omega
 refine br (fu2:=⟨0⟩) J J J (fun hc22=>?_) (fun hc22=>?_)
 .
  obtain⟨p,hx⟩: ∃u,v[k]? =some u:=⟨_,aX (by omega)⟩;haveI:=hb p (bZ hx);refine ix _ J (eH hx) J<|cl (fu:=⟨0⟩) J (Tb (p:=p) (i:=22)) J<|?_;refine kd 27 J ?_;refine gx J<|cl J (VT (p:=p) (i:=22)) J<|rf J J<|ap ((v.take (k+1)).map eZ) J (Wy hx) (ZA [p]) J<|?_;refine kr 41 4 J ?_;exact at_ (k+1) ⟨(by omega),(by omega)⟩
 .
  obtain rfl:k=v.length:=by omega
  rw[dY];refine uS 4 J ?_;refine gx (fu:=⟨15⟩) J<|?_;refine aB 44 (.d (vI (v.length:Nat))) J (by rw[hm2]<;>rfl) ?_;refine gx J<|?_;refine lp (X:=Nat) (fun k=>[(45, .d (vI (k:Nat))),(7, .d (vI ((jt v k):Nat)))]) (fun k=>[]) (fun k=>k<=v.length) (fun k=>v.length-k) 0 J (bL _) (fun _=>J) (fun k hk=>?_);have hdm:=YJ v k;refine br (fu2:=⟨9⟩) J J J (fun hc46=>?_) (fun hc46=>?_)
  .
   obtain⟨p,hx⟩: ∃u,v[k]? =some u:=⟨_,aX (by omega)⟩;haveI:=hb p (bZ hx);have hcm:=Nd (l:=v) (k:=k);refine ix _ J (eH hx) J<|?_;refine cs 52 J J J (fun hg52=>?_) (fun hg52=>?_)
   .
    refine cl J (ZG (l:=v) (p:=p) (i:=22) hb (by omega)) J<|?_;refine br J J J (fun hc58=>?_) (fun hc58=>?_)
    .
     have he7:=QX (by omega) (C7 hx (by omega));refine aB 7 (.d (vI (jt v (k+1):Nat))) J (by rw[he7]<;>rfl) ?_;exact at_ (k+1) ⟨(by omega),(by omega)⟩
    .
     have he7:=Oo (.inr (WH hx (by omega))) hcm;refine aB 7 (.d (vI (jt v (k+1):Nat))) J (by rw[he7]<;>rfl) ?_;exact at_ (k+1) ⟨(by omega),(by omega)⟩
   .
    have he7:=Oo (l:=v) (k:=k) (.inl (by omega)) hcm;refine aB 7 (.d (vI (jt v (k+1):Nat))) J (by rw[he7]<;>rfl) ?_;exact at_ (k+1) ⟨(by omega),(by omega)⟩
  .
   obtain rfl:k=v.length:=by omega
   have hd3:=Vf h3;refine ee (fu:=⟨9⟩) J (by show some (decide _)=some false;rw[decide_eq_false (by omega)]) J<|?_;refine Ka J J J Mc (fun _=>J) (fun GB1 pv hg1 hpv=>?_);refine EQ 2 2000002 h0.fx J<|EQ 3 2000003 h0.fx J ?_;refine IM (σ:=Empty) (fun _=>[(2000002,some (.o 132 [.nl] true)),(2000003,some (.o 34 [.d (.v .nilIface)] true))]) (fun _=>True) (fun _=>[]) (fun _=>False) [(2, .ov 2000002 0),(3, .ov 2000003 0),(4, .d (.sl (v.map eZ)))] h0 J (JP (by omega)) (.cons hpv .nil) ⟨J,J,J,trivial⟩ J ⟨J,J,trivial⟩ trivial Ir J J (fun k e GB' hE hg hp=>?_) (fun D hD hx hp=>?_) (fun D s hD hx hq=>hq.elim)
   ·obtain⟨p,q,hpx,hqx,rfl⟩:=IH hE
    rw[hvl] at hqx;rw[hv] at hpx hqx;obtain⟨hk,rfl⟩:=Bu hpx;obtain⟨hk2,rfl⟩:=Bu hqx;haveI:=ug (h.le _ (As hk));haveI:=ug (h.le _ (AB hk));have hne:=Wl h hk;refine⟨?_,?_,fun C2=>?_,fun C2=>?_⟩
    rotate_left 2
    ·refine gx J<|I0 J J J ⟨J,J,J⟩ J ?_
     exact atR
    ·refine gx J<|A3 0 (e:=141) (len:=2) (s:=6) J (by kernel_rfl) (by kernel_rfl) (by decide) J<|A3 1 (e:=141) (len:=2) (s:=6) J (by kernel_rfl) (by kernel_rfl) (by decide) J<|?_
     refine cl J (My (p:=(r.getD k (0,0)).q) (q:=(ek r k).q) (i:=22)) J<|?_;refine bd J J J (fun hc=>absurd (decide_eq_true hc) (by rw[hne];decide)) (fun hc=>?_);exact rq trivial ⟨J,J,trivial⟩
   ·refine gx J<|?_
    exact JG hD hx J J
structure j0 (r:List ZP):Prop where
 ok:dC r
 c3:3<=d9 (r.map ZP.q) (r.map ZP.q).length
def pI(r:List ZP):DV:= .sl ((r.map ZP.q).map eZ)
def YE(l:List (List ZP)):dB 1 (l.map pI):=fun d hd=>by
 obtain⟨x,_,rfl⟩:=bJ.1 hd;exact⟨J,J⟩
def WC{L:List (List ZP)}{k:Nat}{l:List ZP}(h:L[k]? =some l):((L.take k).map pI)++[pI l]=(L.take (k+1)).map pI:=by
 rw[gK,h,fQ];rfl
def Ei{L:List (List ZP)}{k:Nat}{l:List ZP}(h:L[k]? =some l):((co (L.take k)).map bi)++((gi l).map bi)=(co (L.take (k+1))).map bi:=by
 rw[QA h,fQ]
def Lm{rs:List (List ZP)}(h: ∀r∈rs,j0 r)(hn:rs.length<=200):PF GB prog 73 [.sl (rs.map lw)] (.tp [.sl (rs.map pI), .v .nilIface]):=by
 have hml:(rs.map lw).length=rs.length:=aJ ..;refine fn (fu:=⟨11⟩) func73 J J ntmps73 J J (fun C=>?_);refine aB 10 (.d (vI (rs.length:Nat))) J (by rw[hml]<;>rfl) ?_;refine gx (fu:=⟨0⟩) J<|ee (fu:=⟨15⟩) J (by show some (decide _)=some false;rw[decide_eq_false (by omega)]) J<|?_;refine aB 17 (.d (vI (rs.length:Nat))) J (by rw[hml]<;>rfl) ?_;refine gx J<|?_;refine nr 4 4 132 1 J J J ?_;refine lp (X:=Nat) (fun k=>[(18, .d (vI (k:Nat))),(4, .rw 4)]) (fun k=>[(4,some (.b 132 1 ((rs.take k).map pI) true))]) (fun k=>k<=rs.length) (fun k=>rs.length-k) 0 J (bL _) (fun _=>J) (fun k hk=>?_);have hm3:((rs.take k).map pI).length<=k:=by rw[aJ,bM];omega
 refine br J J J (fun hc19=>?_) (fun hc19=>?_)
 .
  obtain⟨r,hx⟩: ∃u,rs[k]? =some u:=⟨_,aX (by omega)⟩;have hr:=h r (bZ hx);refine ix _ J (eH hx) J<|cl (fu:=⟨11⟩) J (XB hr.ok hr.c3) J<|ee J J J<|rf J J<|ap ((rs.take (k+1)).map pI) J (WC hx) (YE [r]) J<|?_;refine kr 33 4 J ?_;exact at_ (k+1) ⟨(by omega),(by omega)⟩
 .
  obtain rfl:k=rs.length:=by omega
  rw[dY];refine nv 4 J ?_;exact rz J J
def ZY{rs:List (List ZP)}(h: ∀r∈rs,j0 r)(hn:rs.length<=200):PF GB prog 107 [.sl (rs.map lw)] (.tp [.sl ((co rs).map bi), .v .nilIface]):=by
 have hml:(rs.map pI).length=rs.length:=aJ ..;refine fn func107 J J ntmps107 J J (fun C=>?_);refine cl (fu:=⟨11⟩) J (Lm h hn) J<|ee (fu:=⟨15⟩) J J J<|?_;refine aB 18 (.d (vI (rs.length:Nat))) J (by rw[hml]<;>rfl) ?_;refine gx J<|?_;refine nr 6 6 222 17 J J J ?_;refine lp (X:=Nat) (fun k=>[(19, .d (vI (k:Nat))),(6, .rw 6)]) (fun k=>[(6,some (.b 222 17 ((co (rs.take k)).map bi) true))]) (fun k=>k<=rs.length) (fun k=>rs.length-k) 0 J (bL _) (fun _=>J) (fun k hk=>?_);have hm5:=xe (fun r hr=>(h r hr).ok) k;have hm3:((co (rs.take k)).map bi).length<=6*k:=by rw[aJ];exact xe (fun r hr=>(h r hr).ok) k
 refine br J J J (fun hc20=>?_) (fun hc20=>?_)
 .
  obtain⟨r,hx⟩: ∃u,rs[k]? =some u:=⟨_,aX (by omega)⟩;have hr:=h r (bZ hx);have hel:=(r8 hr.ok).1;have hn6:=hr.ok.n6;have hm4:((gi r).map bi).length=(gi r).length:=aJ ..;refine ix _ J (eH hx) J<|cl J (Gp hr.ok) J<|ap ((co (rs.take (k+1))).map bi) J (Ei hx) (vm (gi r)) J<|?_;refine kr 26 6 J ?_;exact at_ (k+1) ⟨(by omega),(by omega)⟩
 .
  obtain rfl:k=rs.length:=by omega
  rw[dY];refine nv 6 J ?_;exact rz J J
def ME{rs:List (List ZP)}(h: ∀r∈rs,j0 r)(hn:rs.length<=200):(co rs).length<=1200:=by
 have:=(n9 fun r hr=>(h r hr).ok).1;omega
def onR(rs:List (List ZP))(p:ab):Bool:=(co rs).any fun f=>Hi f p
def R9{fill n:Int}:PF GB prog 59 [vI fill,vI n] (vB (uz fill n)):=by
 refine fn func59 J J ntmps59 J J (fun C=>?_);refine br J J J (fun hc6=>?_) (fun hc6=>?_)
 .
  exact rz J (by show DV.v (.bool _)= .v (.bool _);unfold uz;simp_all)
 .
  refine br J J J (fun hc11=>?_) (fun hc11=>?_)
  .
   exact rz J (by show DV.v (.bool _)= .v (.bool _);unfold uz;simp_all)
  .
   exact rz J (by show DV.v (.bool _)= .v (.bool _);unfold uz;simp_all)
def OJ(f:aO)(m:aa):(splitP f m).length<=1:=by unfold splitP;split<;>simp
def kE(l:List aO)(m:aa):List aO:=l.flatMap fun g=>splitP g m
def AY(l:List aO)(m:aa):(kE l m).length<=l.length:=by
 induction l with
 |nil=>exact aL _
 |cons f t ih=>
  unfold kE at ih⊢;rw[nK,aR,bT];have:(splitP f m).length<=1:=by unfold splitP;split<;>simp
  omega
def JC{l:List aO}{k:Nat}{f:aO}{m:aa}(h:l[k]? =some f):(kE (l.take k) m).map bi++(splitP f m).map bi=(kE (l.take (k+1)) m).map bi:=by
 unfold kE;rw[gK,h,List.flatMap_append,fQ];simp
def CE{f:aO}{m:aa}{a b:Bool}(ha:f.l.cutB f.v m=a)(hb:f.l.cutB f.v m.rev=b):(DV.tp [.sl (if a then [bi ⟨f.l,f.l.cutV f.v m⟩] else []), .sl (if b then [bi ⟨f.l,f.l.cutV f.v m.rev⟩] else [])])= .tp [.sl ((splitP f m).map bi), .sl ((splitP f m.rev).map bi)]:=by
 subst ha hb;unfold splitP;split<;>split<;>rfl
def T0{f:aO}{m:aa}(hf:FS f)(hm:LB m):PF GB prog 256 [bi f,cb m] (.tp [.sl ((splitP f m).map bi), .sl ((splitP f m.rev).map bi)]):=by
 haveI:=hf.fo.lb;haveI:=hf.fo.lo;haveI:=hf.fo.hi;haveI:=hm;refine fn func256 J J ntmps256 J J (fun C=>?_);refine cl J (Au (l:=f.l) (v:=f.v) (m:=m) (i:=1200)) J<|?_;refine bb J J J (fun hc19=>?_) (fun hc19=>?_)
 .
  refine rf J J<|cl J Bs J<|cl J (Au (l:=f.l) (v:=f.v) (m:=m.rev) (i:=1200)) J<|?_;refine bb J J J (fun hc35=>?_) (fun hc35=>?_)
  .
   refine rf J J<|?_;exact rz J (CE hc19 hc35)
  .
   exact rz J (CE hc19 hc35)
 .
  refine cl J Bs J<|cl J (Au (l:=f.l) (v:=f.v) (m:=m.rev) (i:=1200)) J<|?_;refine bb J J J (fun hc35=>?_) (fun hc35=>?_)
  .
   refine rf J J<|?_;exact rz J (CE hc19 hc35)
  .
   exact rz J (CE hc19 hc35)
def UK:Oi prog 167:=by
 intro p q w;refine callsDIn_of_wpSIn func167 J trivial fun c₀ cs hu=>?_;apply wpSIn_seq;apply wpSIn_region;simp[wpOpsSIn,go_sem,recoverD,hu,ntmps167,Exit.thenS,FW,Fence.wide];apply wpSIn_seq;apply wpSIn_region;simp[wpOpsSIn,go_sem,Exit.thenS,FW,Fence.wide];refine wpSIn_cond (t:=false) (by simp[Act.eval,Array.replicate]) ?_;simp only[cM,if_false];refine wpSIn_of_wpIn J (wpIn_skip ?_)
 cases c₀
 simp_all [bodyPostS,results,Tryz.results167,go_sem]
def aml{b:Nat}{f:FuncId}{c2:List Value}{ds2:List DV}(hc2:IsLs GB ds2 c2){acc:ab->Bool}(hF: ∀q,bg q 20000->PF GB prog f (eZ q::ds2) (vB (acc q))){n:Nat}{c:aF}{d N:Nat}(hc:iH c)(hcl:c.length<=100000):PM GB prog 168 (ir [none,some (.sl (([]:List aO).map bi)),some (.sl (c.map bi)),some (.v (.int .i64 (d:Nat)))] b) b 272 [.v (.int .i64 (N:Nat)),(.v (.func (.func f) ⟨[]⟩ ⟨c2⟩))] (eU (f7 acc n [] c)) [.v (.int .i64 (N+(f7 acc n [] c).size:Nat)),(.v (.func (.func f) ⟨[]⟩ ⟨c2⟩))]:=by
 have hib:=Uu hc;refine tF (fu:=⟨10⟩) func168 J J ntmps168 J J (fun C b m lo hmb=>?_);refine gu (fu:=⟨8⟩) J J J<|TL J J J J J J<|cl (fu:=⟨0⟩) J (Xq (c:=c) hc hcl) J<|yf (ds1:=[]) (ds2:=ds2) J (cA.2 J) hc2 (hF (oB c) hib) J<|?_;refine cl J (tW (b:=acc (oB c))) J<|?_;exact lj hmb J J (by cases n<;>rfl) (by cases n<;>rfl)
def Tq{b:Nat}{f:FuncId}{c2:List Value}{g:aO}{t:List aO}{c:aF}{d N:Nat}{x y:Tr}(hl: ∀u∈g::t,FS u)(hlen:(g::t).length<=100000)(hc:iH c)(hcl:c.length<=100000)(hd:d<1000)(hN:N+(1+x.size+y.size)<=65536)(ih1: ∀{b N:Nat},N+x.size<=65536->PM GB prog 168 (ir [none,some (.sl ((kE (g::t) g.l).map bi)),some (.sl ((bF c g.l).map bi)),some (.v (.int .i64 (d+1:Nat)))] b) b 272 [.v (.int .i64 (N:Nat)),(.v (.func (.func f) ⟨[]⟩ ⟨c2⟩))] (eU x) [.v (.int .i64 (N+x.size:Nat)),(.v (.func (.func f) ⟨[]⟩ ⟨c2⟩))])(ih2: ∀{b N:Nat},N+y.size<=65536->PM GB prog 168 (ir [none,some (.sl ((kE (g::t) g.l.rev).map bi)),some (.sl ((bF c g.l.rev).map bi)),some (.v (.int .i64 (d+1:Nat)))] b) b 272 [.v (.int .i64 (N:Nat)),(.v (.func (.func f) ⟨[]⟩ ⟨c2⟩))] (eU y) [.v (.int .i64 (N+y.size:Nat)),(.v (.func (.func f) ⟨[]⟩ ⟨c2⟩))]):PM GB prog 168 (ir [none,some (.sl ((g::t).map bi)),some (.sl (c.map bi)),some (.v (.int .i64 (d:Nat)))] b) b 272 [.v (.int .i64 (N:Nat)),(.v (.func (.func f) ⟨[]⟩ ⟨c2⟩))] (eU (Tr.node g.l x y)) [.v (.int .i64 (N+(Tr.node g.l x y).size:Nat)),(.v (.func (.func f) ⟨[]⟩ ⟨c2⟩))]:=by
 have hg:=hl g aQ;haveI hlb:=hg.fo.lb;have hlt:t.length+1<=100000:=hlen;have hml:((g::t).map bi).length=(g::t).length:=aJ ..;refine tF (fu:=⟨10⟩) func168 J J ntmps168 J J (fun C b m lo hmb=>?_);refine aB 22 (.d (vI ((t.length+1:Nat):Int))) J (by rw[hml]<;>rfl) ?_;refine gx (fu:=⟨0⟩) J<|ee (fu:=⟨13⟩) (hv:=by simp only[ah];exact(by omega)) J (by show some (decide _)=some false;rw[decide_eq_false (by omega)]) J<|?_;refine aB 36 (.d (.v (.int .i64 (N+1:Nat)))) J J ?_;refine gx (fu:=⟨11⟩) J<|ee (fu:=⟨2⟩) J (by show some (decide _)=some false;rw[decide_eq_false (by omega)]) J<|ee J (by show some (decide _)=some false;rw[decide_eq_false (by omega)]) J<|?_;refine ix (fu:=⟨17⟩) _ J J J<|?_;refine aB 55 (.d (vI ((t.length+1:Nat):Int))) J (by rw[hml]<;>rfl) ?_;refine gx J<|?_;refine nr 10 10 222 17 J J J ?_;refine nr 11 11 222 17 J J J ?_;refine lp (X:=Nat) (fun k=>[(56, .d (vI (k:Nat))),(10, .rw 10),(11, .rw 11)]) (fun k=>[(10,some (.b 222 17 ((kE ((g::t).take k) g.l).map bi) true)),(11,some (.b 222 17 ((kE ((g::t).take k) g.l.rev).map bi) true))]) (fun k=>k<=t.length+1) (fun k=>t.length+1-k) 0 J (bL _) (fun _=>J) (fun k hk=>?_);have hm1:=AY ((g::t).take k) g.l;have hm2:=AY ((g::t).take k) g.l.rev;have hm3:((g::t).take k).length<=k:=by rw[bM];omega
 have hm4:((kE ((g::t).take k) g.l).map bi).length<=k:=by rw[aJ];omega
 have hm5:((kE ((g::t).take k) g.l.rev).map bi).length<=k:=by rw[aJ];omega
 refine br (fu2:=⟨0⟩) J J J (fun hc57=>?_) (fun hc57=>?_)
 .
  obtain⟨u,hx⟩: ∃u,(g::t)[k]? =some u:=⟨_,aX (by rw[bT];omega)⟩;have hu:=hl u (bZ hx);have hs1:=OJ u g.l;have hs2:=OJ u g.l.rev;refine ix _ J (eH hx) J<|cl J (T0 hu hlb) J<|ap ((kE ((g::t).take (k+1)) g.l).map bi) J (JC hx) (vm (splitP u g.l)) J<|?_;refine ap ((kE ((g::t).take (k+1)) g.l.rev).map bi) J (JC hx) (vm (splitP u g.l.rev)) J<|?_;refine kr 68 10 J ?_;refine kr 71 11 J ?_;exact at_ (k+1) ⟨(by omega),(by omega)⟩
 .
  obtain rfl:k=t.length+1:=by omega
  rw[show(g::t).take (t.length+1)=g::t from dY (l:=g::t)];refine uS 11 J ?_;refine gx J<|cl (fu:=⟨18⟩) J (Lk (l:=g.l) (c:=c) hg.fo.ok hc hcl) J<|?_;refine aB 85 (.d (.v (.int .i64 (d+1:Nat)))) J J ?_;refine gx J<|fz 10 J J<|cm (fu:=⟨12⟩) J (fun b=>(ih1 (N:=N+1) (by omega))) J<|?_;refine aB 93 (.d (.v (.int .i64 (d+1:Nat)))) J J ?_;refine gx J<|cm J (fun b=>(ih2 (N:=N+1+x.size) (by omega))) J<|cl J Ap J<|?_;exact lj hmb J J J (by rw[show N+(Tr.node g.l x y).size=N+1+x.size+y.size from by rw[Tr.size];omega])
def FR{f:FuncId}{c2:List Value}{ds2:List DV}(hc2:IsLs GB ds2 c2){acc:ab->Bool}(hF: ∀q,bg q 20000->PF GB prog f (eZ q::ds2) (vB (acc q))): ∀{n:Nat} {l:List aO} {c:aF} {d N b:Nat},(∀u∈l,FS u)->l9 n l->l.length<=100000->iH c->c.length+n<=100000->d+n<=1000->N+(f7 acc n l c).size<=65536->PM GB prog 168 (ir [none,some (.sl (l.map bi)),some (.sl (c.map bi)),some (.v (.int .i64 (d:Nat)))] b) b 272 [.v (.int .i64 (N:Nat)),(.v (.func (.func f) ⟨[]⟩ ⟨c2⟩))] (eU (f7 acc n l c)) [.v (.int .i64 (N+(f7 acc n l c).size:Nat)),(.v (.func (.func f) ⟨[]⟩ ⟨c2⟩))]
 |_,[],c,d,N,b,_,_,_,hc,hcl,_,_=>aml hc2 hF hc (by omega)
 |0,g::t,_,_,_,_,_,hf,_,_,_,_,_=>hf.no.elim
 |n+1,g::t,c,d,N,b,hl,hf,hlen,hc,hcl,hd,hN=>by
  have hg:=hl g aQ;haveI hlb:=hg.fo.lb;obtain⟨f1,f2⟩:=FS.splits hl hlb;obtain⟨w1,w2⟩:=hf.splitP hl;have n1:=AY (g::t) g.l;have n2:=AY (g::t) g.l.rev;have k1:=Ca c g.l;have k2:=Ca c g.l.rev;have o1:=BE hg.fo.ok hc;have o2:=BE (l:=g.l.rev) (aa.ok.rev hg.fo.ok) hc;refine Tq (x:=f7 acc n (kE (g::t) g.l) (bF c g.l)) (y:=f7 acc n (kE (g::t) g.l.rev) (bF c g.l.rev)) hl hlen hc (by omega) (by omega) hN (fun{b' N'} h2=>?_) (fun{b' N'} h2=>?_)
  ·exact FR hc2 hF f1 w1 (by omega) o1 (by omega) (by omega) h2
  ·exact FR hc2 hF f2 w2 (by omega) o2 (by omega) (by omega) h2
def Lu{E:List aO}(hE: ∀u∈E,FS u){n:Nat}(hw:l9 n E)(hn:n<=1000)(hlen:E.length<=100000){f:FuncId}{c2:List Value}{ds2:List DV}(hc2:IsLs GB ds2 c2){acc:ab->Bool}(hF: ∀q,bg q 20000->PF GB prog f (eZ q::ds2) (vB (acc q)))
  (hs:(f7 acc n E []).size<=65536)(hd:(f7 acc n E []).depth<=1000)(ho:(f7 acc n E []).all aa.ok)(hb:(f7 acc n E []).all LB):PF GB prog 75 [.sl (E.map bi), .v (.func (.func f) ⟨[]⟩ ⟨c2⟩)] (.tp [eU ((f7 acc n E []).restrict []), .v .nilIface]):=by
 refine Yt func75 J J ntmps75 J J (fun C h0=>?_);refine Sk h0 J J J (by decide) (fun p q=>?_);refine gx J ?_;refine cm J (fun b=>FR (b:=b) hc2 hF (n:=n) (l:=E) (c:=[]) (d:=0) (N:=0) hE hw hlen (fun s hs=>by cases hs) (by simp;omega) (by omega) (by omega)) J ?_;refine cl J (Kv hb ho (by omega)) J ?_;exact Wx UK ⟨_,func167,J,J⟩ J J
def IL{E:List aO}(hE: ∀f∈E,FE f)(hn:E.length<=100000){fill:Int}{q:ab}{i:Nat}[hq:bg q i](hi:i<=80000):PF GB prog 76 [eZ q, .pt [vI fill], .pt [.sl (E.map bi)]] (vB (uz fill (im E q))):=by
 refine fn (fu:=⟨3⟩) func76 J J ntmps76 J J (fun C=>?_);refine Ez 1 J<|Ez 2 J<|gx J<|cl J (U8 hE (by omega) (p:=q) (i:=i) (by omega)) J<|cl J (R9 (fill:=fill) (n:=im E q)) J<|?_;exact rz J J
def Ol{rs:List (List ZP)}(hr: ∀r∈rs,dC r)(fill:Int):(fun q=>uz fill (im (co rs) q))=jw rs fill:=by
 funext q;rw[M9 hr];rfl
def Tr.like_depth: ∀{t u:Tr},t.like u->t.depth=u.depth
 | .leaf _, .leaf _,_=>rfl
 | .node _ _ _, .node _ _ _,h=>by rw[Tr.depth,Tr.depth,Tr.like_depth h.2.1,Tr.like_depth h.2.2]
def RA{rs:List (List ZP)}{fill:Int}(h: ∀r∈rs,dC r)(hn:rs.length<=3):(jl rs fill).all LB/\(jl rs fill).all aa.ok/\(jl rs fill).depth<=18/\(jl rs fill).size<=171:=by
 obtain⟨h1,h2,h3⟩:=Im (fill:=fill) h;obtain⟨k1,k2⟩:=n9 h;have hd:(oG rs fill).depth<=(co rs).length:=Cr;have ha: ∀{P:aa->Prop},(∀f∈co rs,P f.l)->(jl rs fill).all P:=fun hP=>by
  rw[uF,Tr.like_lns h1,<-uF];exact pp hP
 have hA:lf ((co rs).map (·.l)) (jl rs fill):=ha fun f hf=>⟨f.l,fM hf, .inl J⟩;have hs:=Pi (K:=(co rs).map (·.l)) (fun m hm=>by obtain⟨f,hf,rfl⟩:=bJ.1 hm;exact(k2 f hf).ok) h2 h3 dw.nil hA;rw[aJ] at hs;refine⟨ha fun f hf=>(k2 f hf).lb,h3,by rw[Tr.like_depth h1];omega,?_⟩;have:(co rs).length*((co rs).length+1)<=18*19:=kQ (by omega) (by omega);omega
def IN{rs:List (List ZP)}(h: ∀r∈rs,j0 r)(hn:rs.length<=3){fill:Int}(hfill:fill=1\/fill=2):PF GB prog 19 [.sl (rs.map lw),vI fill] (.tp [eA (ie rs fill), .v .nilIface]):=by
 have hr: ∀r∈rs,dC r:=fun r hr=>(h r hr).ok;have hel0:=(n9 hr).1;have hfe:=VX hr;obtain⟨b1,b2,b3,b4⟩:=RA (fill:=fill) hr hn;have hbx:=(HD (fill:=fill) hr hn).x (Ak _ _) (by decide);have hbs:=hbx.s;have hbE:(f7 (jw rs fill) (co rs).length (co rs) []).restrict []=ie rs fill:=Su hr;have hbl:=hbx.lb;have hml:(rs.map pI).length=rs.length:=aJ ..;refine fn func19 J J ntmps19 J J (fun C=>?_);refine cl (fu:=⟨13⟩) J (Lm h (by omega)) J<|ee J J J<|?_;refine cs (fu2:=⟨20⟩) 25 J J J (fun hg25=>?_) (fun hg25=>?_)
 .
  refine br (fu2:=⟨13⟩) J J J (fun hc22=>?_) (fun hc22=>?_)
  .
   exact absurd hfill (by omega)
  .
   refine aB 32 (.d (vI (rs.length:Nat))) J (by rw[hml]<;>rfl) ?_;refine gx J<|?_;refine E2 8 0 80 222 17 J J J J J ?_;refine lp (X:=Nat) (fun k=>[(33, .d (vI (k:Nat))),(8, .ov 8 0)]) (fun k=>[(8,some (.o 130 [.rw 80] true)),(80,some (.b 222 17 ((co (rs.take k)).map bi) true))]) (fun k=>k<=rs.length) (fun k=>rs.length-k) 0 J (bL _) (fun _=>J) (fun k hk=>?_);have hm5:=xe hr k;have hm3:((co (rs.take k)).map bi).length<=6*k:=by rw[aJ];exact xe hr k
   refine br (fu2:=⟨0⟩) J J J (fun hc34=>?_) (fun hc34=>?_)
   .
    obtain⟨r,hx⟩: ∃u,rs[k]? =some u:=⟨_,aX (by omega)⟩;have hrr:=h r (bZ hx);have hel:=(r8 hrr.ok).1;have hn6:=hrr.ok.n6;have hm4:((gi r).map bi).length=(gi r).length:=aJ ..;refine ix _ J (eH hx) J<|cl J (Gp hrr.ok) J<|ap (hv:=by simp only[ah];exact⟨by kernel_rfl,by omega⟩) ((co (rs.take (k+1))).map bi) J (Ei hx) (vm (gi r)) J<|?_;refine kr 40 80 J ?_;exact at_ (k+1) ⟨(by omega),(by omega)⟩
   .
    obtain rfl:k=rs.length:=by omega
    rw[dY];refine uS 80 J ?_;refine gx (fu:=⟨7⟩) J<|?_;refine gx J<|fz 3 J J<|fz 8 J J ?_;refine xk 3 J (fun GB1 pv1 hg1 hp1=>?_);refine xk 8 J (fun GB2 pv2 hg2 hp2=>?_);refine Ix (fu:=⟨0⟩) J J ?_;refine cl J (Lu (E:=co rs) (zp hr) (Dx rs) (by omega) (by omega) (f:=76) (c2:=[pv1,pv2]) (ds2:=[.pt [vI fill], .pt [.sl ((co rs).map bi)]]) (.cons (hp1.up hg2) (.cons hp2 (cA.2 J))) (acc:=jw rs fill) (fun q hq=>by rw[<-Ol hr];exact IL hfe (by omega) (q:=q) (i:=20000) (by decide)) (show(jl rs fill).size<=65536 by omega) (show(jl rs fill).depth<=1000 by omega) b2 b1) J ?_;refine cl J (N2 (t:=(f7 (jw rs fill) (co rs).length (co rs) []).restrict []) (by rw[hbE];exact hbl) (by rw[hbE];omega)) J ?_;exact rz J (by rw[hbE]<;>rfl)
 .
  refine aB 32 (.d (vI (rs.length:Nat))) J (by rw[hml]<;>rfl) ?_;refine gx J<|?_;refine E2 8 0 80 222 17 J J J J J ?_;refine lp (X:=Nat) (fun k=>[(33, .d (vI (k:Nat))),(8, .ov 8 0)]) (fun k=>[(8,some (.o 130 [.rw 80] true)),(80,some (.b 222 17 ((co (rs.take k)).map bi) true))]) (fun k=>k<=rs.length) (fun k=>rs.length-k) 0 J (bL _) (fun _=>J) (fun k hk=>?_);have hm5:=xe hr k;have hm3:((co (rs.take k)).map bi).length<=6*k:=by rw[aJ];exact xe hr k
  refine br (fu2:=⟨0⟩) J J J (fun hc34=>?_) (fun hc34=>?_)
  .
   obtain⟨r,hx⟩: ∃u,rs[k]? =some u:=⟨_,aX (by omega)⟩;have hrr:=h r (bZ hx);have hel:=(r8 hrr.ok).1;have hn6:=hrr.ok.n6;have hm4:((gi r).map bi).length=(gi r).length:=aJ ..;refine ix _ J (eH hx) J<|cl J (Gp hrr.ok) J<|ap (hv:=by simp only[ah];exact⟨by kernel_rfl,by omega⟩) ((co (rs.take (k+1))).map bi) J (Ei hx) (vm (gi r)) J<|?_;refine kr 40 80 J ?_;exact at_ (k+1) ⟨(by omega),(by omega)⟩
  .
   obtain rfl:k=rs.length:=by omega
   rw[dY];refine uS 80 J ?_;refine gx (fu:=⟨7⟩) J<|?_;refine gx J<|fz 3 J J<|fz 8 J J ?_;refine xk 3 J (fun GB1 pv1 hg1 hp1=>?_);refine xk 8 J (fun GB2 pv2 hg2 hp2=>?_);refine Ix (fu:=⟨0⟩) J J ?_;refine cl J (Lu (E:=co rs) (zp hr) (Dx rs) (by omega) (by omega) (f:=76) (c2:=[pv1,pv2]) (ds2:=[.pt [vI fill], .pt [.sl ((co rs).map bi)]]) (.cons (hp1.up hg2) (.cons hp2 (cA.2 J))) (acc:=jw rs fill) (fun q hq=>by rw[<-Ol hr];exact IL hfe (by omega) (q:=q) (i:=20000) (by decide)) (show(jl rs fill).size<=65536 by omega) (show(jl rs fill).depth<=1000 by omega) b2 b1) J ?_;refine cl J (N2 (t:=(f7 (jw rs fill) (co rs).length (co rs) []).restrict []) (by rw[hbE];exact hbl) (by rw[hbE];omega)) J ?_;exact rz J (by rw[hbE]<;>rfl)
def Dy(x:ab):List ab->List ab
 |[]=>[]
 |y::l=>if kG y x=0 then Dy y l else y::Dy y l
def aEU:List ab->List ab
 |[]=>[]
 |x::l=>x::Dy x l
def vZ:DV:= .ag [vI 0,vI 0, .v (.pointer none),vI 0,vI 0, .v (.pointer none)]
end Go.Sx
end
