import Derived.Test.YtefoocgiaegobaaGreatDoorPf18
set_option linter.all false
set_option maxHeartbeats 2000000
set_option maxRecDepth 100000
section
namespace Go.Sx
open Go Go.Proofs Tryz
variable {GB:Gh}
def mB(c:aF)(m:ab):Bool:=cP c m&&cP c m.rev
def ul{c:aF}(hc:d8 c){m:ab}(hm:m.ok):mB c m=true↔Bi m c:=by
 unfold mB;rw[aN];constructor
 ·rintro ⟨h1,h2⟩
  obtain⟨p,hp,k1⟩:=(sr hc hm).1 h1;obtain⟨q,hq,k2⟩:=(sr hc hm.rev).1 h2;rw[ij] at k2;generalize hA:m.value p=A at*;generalize hB:m.value q=B at*;have hAB:0<A-B:=by grind
  have e:A/(A-B)*(A-B)=A:=by grind
  generalize A/(A-B)=r at*;have r0:0<=r:=(j0 hAB).1 (by rw[e];exact fY k1);have r1:r<=1:=by
   have:=(j0 (s:=1-r) hAB).1 (by grind);grind
  exact⟨bu p q r,hp.seg hq r0 r1,by rw[lx,hA,hB];grind⟩
 ·rintro ⟨p,hp,h0⟩
  exact NX hc hm hp h0
def xB(c:aF)(m n:ab):Bool:=decide (¬m.same n)&&(decide (n.value (wM m n)=0)&&pE c (wM m n))
def qm{c:aF}{m n:ab}(hm:m.ok)(hn:n.ok):xB c m n=true↔ ¬m.same n/\ ∃z,bP c z/\m.value z=0/\n.value z=0:=by
 unfold xB;rw[aN,aN,decide_eq_true_eq,decide_eq_true_eq,ri];constructor
 ·rintro ⟨h1,h2,h3⟩
  exact⟨h1,_,h3,sP hm.ne _,h2⟩
 ·rintro ⟨h1,z,hz,k1,k2⟩
  rcases Cl hm hn k1 k2 with h|h
  ·exact absurd h h1
  ·rw[<-h];exact⟨h1,k2,hz⟩
def Fo{c:aF}{m n:ab}(hm:m.ok)(hn:n.ok):xB c m n=xB c n m:=by
 rw[nU,qm hm hn,qm hn hm];constructor<;>(rintro ⟨h,z,hz,k1,k2⟩;exact⟨fun e=>h e.symm,z,hz,k2,k1⟩)
def ip(f:ab->Nat):List ab->Nat
 |[]=>0
 |m::K=>f m+ip f K
def bN(b:Bool):Nat:=if b then 1 else 0
def QW{f g:ab->Nat}: ∀{K:List ab},(∀m∈K,f m<=g m)->ip f K<=ip g K
 |[],_=>aM _
 |m::K,h=>by
  have:=QW (f:=f) (g:=g) (K:=K) fun n hn=>h n (aZ _ hn);have:=h m aQ;show f m+ip f K<=g m+ip g K;omega
def xf(f g:ab->Nat): ∀K,ip (fun m=>f m+g m) K=ip f K+ip g K
 |[]=>rfl
 |m::K=>by
  have:=xf f g K;show f m+g m+ip (fun m=>f m+g m) K=f m+ip f K+(g m+ip g K);omega
def AJ{f g:ab->Nat}{d:Nat}{m0:ab}: ∀{K:List ab},(∀m∈K,f m<=g m)->m0∈K->f m0+d<=g m0->ip f K+d<=ip g K
 |[],_,h,_=>by cases h
 |m::K,h,hm,hd=>by
  have i1:=QW (f:=f) (g:=g) (K:=K) fun n hn=>h n (aZ _ hn);have:=h m aQ;show f m+ip f K+d<=g m+ip g K;rcases aV.1 hm with rfl|hm
  ·omega
  ·have:=AJ (f:=f) (g:=g) (d:=d) (K:=K) (fun n hn=>h n (aZ _ hn)) hm hd
   omega
def zg{f:ab->Nat}{B:Nat}: ∀{K:List ab},(∀m∈K,f m<=B)->ip f K<=K.length*B
 |[],_=>bK _
 |m::K,h=>by
  have:=zg (f:=f) (B:=B) (K:=K) fun n hn=>h n (aZ _ hn);have:=h m aQ;show f m+ip f K<=(K.length+1)*B;rw[gX];omega
def xG(K:List ab)(c:aF):Nat:=ip (fun m=>bN (mB c m)) K
def jz(K:List ab)(c:aF)(m:ab):Nat:=ip (fun n=>bN (xB c m n)) K
def xl(K:List ab)(c:aF):Nat:=ip (jz K c) K
def NG(b:Bool):bN b<=1:=by cases b<;>decide
def Ud{K:List ab}(hK: ∀m∈K,m.ok){c:aF}(hc:d8 c){n m0:ab}(hn:n.ok)(h0:m0∈K)(hs:m0.same n)(hb:cP c n=true)(hb2:cP c n.rev=true):
  xG K (bF c n)+xG K (bF c n.rev)+1<=xG K c+jz K c m0/\xl K (bF c n)+xl K (bF c n.rev)+2*jz K c m0<=xl K c:=by
 obtain⟨g1,i1⟩:=kC hc hn hb;obtain⟨g2,i2⟩:=kC hc hn.rev hb2;have i2: ∀p,bP (bF c n.rev) p↔bP c p/\n.value p<0:=fun p=>by rw[i2,ij];constructor<;>(rintro ⟨a,b⟩;exact⟨a,by grind⟩)
 have hm0:=hK m0 h0;have z1: ∀m,m.ok->(mB (bF c n) m=true->mB c m=true)/\(mB (bF c n.rev) m=true->mB c m=true):=fun m hm=>by
  rw[ul g1 hm,ul g2 hm,ul hc hm];exact⟨fun⟨p,hp,k⟩=>⟨p,((i1 p).1 hp).1,k⟩,fun⟨p,hp,k⟩=>⟨p,((i2 p).1 hp).1,k⟩⟩
 have z2: ∀m,m.ok->mB (bF c n) m=true->mB (bF c n.rev) m=true->xB c m0 m=true:=fun m hm h1 h2=>by
  obtain⟨p,hp,k1⟩:=(ul g1 hm).1 h1;obtain⟨q,hq,k2⟩:=(ul g2 hm).1 h2;obtain⟨hp,ap⟩:=(i1 p).1 hp;obtain⟨hq,aq⟩:=(i2 q).1 hq;rw[qm hm0 hm];refine⟨fun e=>?_,?_⟩
  ·rw[qp hs (qp e.symm k1)] at ap;grind
  generalize hA:n.value p=A at*;generalize hB:n.value q=B at*;have hAB:0<A-B:=by grind
  have e:A/(A-B)*(A-B)=A:=by grind
  generalize A/(A-B)=r at*;have r0:0<=r:=(j0 hAB).1 (by rw[e];exact fY ap);have r1:r<=1:=by
   have:=(j0 (s:=1-r) hAB).1 (by grind);grind
  exact⟨bu p q r,hp.seg hq r0 r1,qp hs.symm (by rw[lx,hA,hB];grind),by rw[lx,k1,k2];grind⟩
 have w1: ∀m m',m.ok->m'.ok->xB (bF c n) m m'=true->xB c m m'=true/\ ¬xB (bF c n.rev) m m'=true:=fun m m' hm hm' h=>by
  rw[qm hm hm'] at h;obtain⟨e,z,hz,k1,k2⟩:=h;obtain⟨hz,az⟩:=(i1 z).1 hz;refine⟨(qm hm hm').2 ⟨e,z,hz,k1,k2⟩,fun h=>?_⟩;obtain⟨_,y,hy,j1,j2⟩:=(qm hm hm').1 h;obtain⟨hy,ay⟩:=(i2 y).1 hy;rcases Cl hm hm' k1 k2 with h|h
  ·exact e h
  ·rcases Cl hm hm' j1 j2 with h'|h'
   ·exact e h'
   ·rw[h'] at ay;rw[h] at az;grind
 have w2: ∀m m',m.ok->m'.ok->xB (bF c n.rev) m m'=true->xB c m m'=true:=fun m m' hm hm' h=>by
  rw[qm hm hm'] at h⊢;obtain⟨e,z,hz,k1,k2⟩:=h;exact⟨e,z,((i2 z).1 hz).1,k1,k2⟩
 have w3: ∀m,m.ok->xB (bF c n) m m0=false/\xB (bF c n.rev) m m0=false:=fun m hm=>by
  constructor
  ·rw[<-mZ,qm hm hm0]
   rintro ⟨_,z,hz,_,k2⟩;have:=((i1 z).1 hz).2;rw[qp hs k2] at this;grind
  ·rw[<-mZ,qm hm hm0]
   rintro ⟨_,z,hz,_,k2⟩;have:=((i2 z).1 hz).2;rw[qp hs k2] at this;grind
 have hmm: ∀d,xB d m0 m0=false:=fun d=>by
  rw[<-mZ,qm hm0 hm0];rintro ⟨h,_⟩;exact h (.inl rfl)
 have n1: ∀d:aF,d8 d->(∀p,bP d p->n.value p≠0)->mB d m0=false:=fun d hd h=>by
  rw[<-mZ,ul hd hm0];rintro ⟨p,hp,k⟩;exact h p hp (qp hs k)
 have n2:mB c m0=true:=by
  rw[ul hc hm0];obtain⟨p,hp,k⟩:=(ul hc hn).1 (by unfold mB;rw[hb,hb2];rfl);exact⟨p,hp,qp hs.symm k⟩
 constructor
 ·unfold xG jz
  rw[<-xf,<-xf];refine AJ (m0:=m0) (d:=1) (fun m hm=>?_) h0 ?_
  ·have hmk:=hK m hm
   obtain⟨a1,a2⟩:=z1 m hmk;have a3:=z2 m hmk
   try dsimp only
   cases e1:mB (bF c n) m<;>cases e2:mB (bF c n.rev) m<;>simp only[e1,e2,forall_const,reduceCtorEq,false_implies] at a1 a2 a3<;>simp_all [bN]
  ·try dsimp only
   rw[n1 _ g1 (fun p hp=>by have:=((i1 p).1 hp).2;grind),n1 _ g2 (fun p hp=>by have:=((i2 p).1 hp).2;grind),n2,hmm];decide
 ·have row: ∀m∈K,jz K (bF c n) m+jz K (bF c n.rev) m+bN (xB c m m0)<=jz K c m:=fun m hm=>by
   have hmk:=hK m hm;unfold jz;rw[<-xf];refine AJ (m0:=m0) (d:=bN (xB c m m0)) (fun m' hm'=>?_) h0 ?_
   ·have hmk':=hK m' hm'
    have b1:=w1 m m' hmk hmk';have b2:=w2 m m' hmk hmk'
    try dsimp only
    cases e1:xB (bF c n) m m'<;>cases e2:xB (bF c n.rev) m m'<;>simp_all [bN]
   ·obtain⟨c1,c2⟩:=w3 m hmk
    try dsimp only
    rw[c1,c2];simp[bN]
  have r0:jz K (bF c n) m0=0/\jz K (bF c n.rev) m0=0:=by
   have z: ∀d,(∀m∈K,xB d m0 m=false)->jz K d m0=0:=fun d h=>by
    have:=zg (f:=fun m=>bN (xB d m0 m)) (B:=0) (K:=K) fun m hm=>by rw[h m hm];decide
    unfold jz;omega
   exact⟨z _ fun m hm=>by rw[Fo hm0 (hK m hm)];exact(w3 m (hK m hm)).1,z _ fun m hm=>by rw[Fo hm0 (hK m hm)];exact(w3 m (hK m hm)).2⟩
  have cs:ip (fun m=>bN (xB c m m0)) K=jz K c m0:=by
   unfold jz;have key: ∀Jv:List ab,(∀m∈Jv,m.ok)->ip (fun m=>bN (xB c m m0)) Jv=ip (fun m=>bN (xB c m0 m)) Jv:=fun Jv=>by
    induction Jv with
    |nil=>intro _;rfl
    |cons a Jv ih=>
     intro h;show bN (xB c a m0)+_=bN (xB c m0 a)+_;rw[ih fun m hm=>h m (aZ _ hm),Fo (h a aQ) hm0]
   exact key K hK
  have:=AJ (f:=fun m=>jz K (bF c n) m+jz K (bF c n.rev) m+bN (xB c m m0)) (g:=jz K c) (d:=jz K c m0) (m0:=m0) row h0 (by rw[r0.1,r0.2,hmm];simp[bN]);rw[xf,xf,cs] at this;unfold xl;omega
def HD{K:List ab}(hK: ∀m∈K,m.ok): ∀{t:Tr} {c:aF},t.Prp c->t.all ab.ok->d8 c->n9 K t->2*t.size<=2*xG K c+xl K c
 | .leaf _,_,_,_,_,_=>bK _
 | .node n x y,c,⟨h1,h2,h3,h4⟩,⟨hn,hx,hy⟩,hc,⟨⟨m0,hm0,hs⟩,kx,ky⟩=>by
  obtain⟨g1,_⟩:=kC hc hn h1;obtain⟨g2,_⟩:=kC hc hn.rev h2;have a:=HD hK h3 hx g1 kx;have b:=HD hK h4 hy g2 ky;obtain⟨d1,d2⟩:=Ud hK hc hn hm0 hs h1 h2;rw[Tr.size];omega
def awP{K:List ab}(hK: ∀m∈K,m.ok){t:Tr}{c:aF}(h:t.Prp c)(ht:t.all ab.ok)(hc:d8 c)(hA:n9 K t):2*t.size<=K.length*(K.length+1):=by
 have h1:=HD hK h ht hc hA;have h2:xG K c<=K.length*1:=zg fun m _=>NG _;have h3:xl K c<=K.length*(K.length-1):=zg fun m hm=>by
  have:=AJ (f:=fun n=>bN (xB c m n)) (g:=fun _=>1) (d:=1) (m0:=m) (K:=K) (fun n _=>NG _) hm (by
   have:xB c m m=false:=by rw[<-mZ,qm (hK m hm) (hK m hm)];rintro ⟨h,_⟩;exact h (.inl rfl)
   rw[this];decide)
  have l1:ip (fun _=>1) K<=K.length*1:=zg fun _ _=>aM _;unfold jz;omega
 have:K.length*(K.length+1)=K.length*(K.length-1)+2*K.length:=by
  cases K.length with
  |zero=>rfl
  |succ k=>rw[Nat.succ_sub_one,Nat.mul_succ,Nat.mul_succ,gX];omega
 omega
section
variable {GB:Gh} {ai al ae:Addr} (hE:EG GB ai al ae) {j k:Nat} {a b:Tr} (ha:si j a) (hb:si k b)
include hE ha
include hb
end
section
variable {GB:Gh} {ai al ae:Addr} (hE:EG GB ai al ae)
include hE
end
def ptZ:DV:= .ag [vI 0,vI 0, .v (.pointer none),vI 0,vI 0, .v (.pointer none)]
def apZ:DV:= .ag [.v (.bool false), .sl [], .sl [], .v (.bool false), .sl [], .sl []]
def YR{c:aF}(hc:jj c)(hn:c.length<=100000):PF GB prog 255 [eC c] (eZ (p6 c)):=by
 cases c with
 |nil=>exact TG
 |cons s cs=>exact Se hc (by rw[bX] at hn;omega)
def FK(d:Rat):Prop:=True
theorem Ka{s:aH}{p:aa}: ∀{c:aF} {f:Rat},BQ f 9000->(∀g∈c,BQ (-(g.l.value p/g.l.nor.dot s.l.nor)) 9000)->BQ (jd s.l p c f) 9000
 |[],f,h,_=>h
 |g::c,f,h,k=>by
  rw[jd];refine Ka ?_ fun u hu=>k u (aZ _ hu);split
  ·split
   ·exact k g aQ
   ·exact h
  ·exact h
theorem We{c:aF}(hc:jj c):aI (p6 c) 20000:=by
 cases c with
 |nil=>exact⟨BQ.mono (k:=2) ⟨by decide,by decide⟩ (by decide),BQ.mono (k:=2) ⟨by decide,by decide⟩ (by decide)⟩
 |cons s cs=>
  have hs:=hc s aQ;haveI:=hs.lb;haveI:=Gb hs;haveI:=Ka (s:=s) (p:=s.l.at s.v.sample) (c:=cs) (f:=1) (BQ.mono (k:=2) ⟨by decide,by decide⟩ (by decide)) fun g hg=>Ea hs (hc g (aZ _ hg));rw[Nu];have:=(inferInstance:aI ((s.l.at s.v.sample).add (s.l.nor.scale (jd s.l (s.l.at s.v.sample) cs 1*mkRat 1 2))) _);exact⟨this.x.mono (by decide),this.y.mono (by decide)⟩
def Bb(l:List aa):dG 6 (l.map eZ):=fun d hd=>by
 obtain⟨x,_,rfl⟩:=bV.1 hd;exact⟨J,J⟩
instance aI.negp (p:aa) (i:Nat) [h:aI p i]:aI (b8 p) i:=⟨inferInstanceAs (BQ (-p.x) i),inferInstanceAs (BQ (-p.y) i)⟩
instance aI.prip (l:ab) [LB l]:aI (dO l.dir) 500:=by
 have h:=(inferInstance:aI (l.dir.scale (rgcd l.dir.x l.dir.y)⁻¹) _);exact⟨h.x.mono (by decide),h.y.mono (by decide)⟩
def Sa{p:aa}{i:Nat}[h:aI p i](hi:i<=900000000:=by decide):PF GB prog 320 [eZ p] (eZ (b8 p)):=by
 refine fn func320 J J ntmps320 J J (fun C=>?_);refine cl J (n8 (q:=p.x) (i:=i) hi) J<|cl J (n8 (q:=p.y) (i:=i) hi) J<|?_;exact rz J J
def KP{p:aa}{i:Nat}[h:aI p i](hi:i<=900000000:=by decide):PF GB prog 242 [eZ p] (eZ (ly p)):=by
 refine fn func242 J J ntmps242 J J (fun C=>?_);refine cl J (n8 (q:=p.y) (i:=i) hi) J<|?_;exact rz J J
def YK{p:aa}{i:Nat}[h:aI p i](hi:i<=1000000:=by decide):PF GB prog 319 [eZ p] (eZ (dO p)):=by
 refine fn func319 J J ntmps319 J J (fun C=>?_);refine cl J (od (p:=p.x) (q:=p.y) (i:=i) (j:=i) (by omega) (by omega)) J<|cl J (A8 (q:=rgcd p.x p.y) (i:=i+i+(i+i)) (by omega)) J<|?_;refine cl J (DF (p:=p) (c:=(rgcd p.x p.y)⁻¹) (i:=i) (j:=i+i+(i+i)) (by omega) (by omega)) J<|?_;exact rz J J
def A'(l:ab)(x y:Tr)(p:aa):dP (.node l x y) p=(if Int.sign (l.value p).num=0 then [dO l.dir,b8 (dO l.dir)] else [])++((if 0<=Int.sign (l.value p).num then dP x p else [])++(if Int.sign (l.value p).num<=0 then dP y p else [])):=by
 unfold dP;rw[lc,qY,qY];congr 1
 ·split<;>simp
 ·congr 1<;>split<;>simp
def Bz: ∀(t:Tr) (p:aa),(dP t p).length<=2*t.size
 | .leaf _,_=>bK _
 | .node l x y,p=>by
  have h1:=Bz x p;have h2:=Bz y p;rw[A',aT,aT,Tr.size];split<;>split<;>split<;>simp only[bX,iK]<;>omega
def S0{b:Bool}{p:aa}{o:List aa}:PB GB prog 222 (gw [some (eU (.leaf b)),some (eZ p),none]) 6 141 (o.map eZ) (fun w=> .v (.slice w.a w.n w.c)) ((o++dP (.leaf b) p).map eZ):=by
 refine vE func222 J J ntmps222 J J (fun C=>?_);refine cl (fu:=⟨0⟩) J vo J<|?_;refine mf 10 J ?_;refine gx J<|?_;exact sF J J J (by show _=(o++[]).map eZ;rw[iW])
def R2{l:ab}{x y:Tr}{p:aa}{i:Nat}[hp:aI p i](hl:LB l)(hi:i<=10000000){o:List aa}(hs:o.length+2*(Tr.node l x y).size<=1000000)(hz:Int.sign (l.value p).num=0)(ihx: ∀{o:List aa},o.length+2*x.size<=1000000->PB GB prog 222 (gw [some (eU x),some (eZ p),none]) 6 141 (o.map eZ) (fun w=> .v (.slice w.a w.n w.c)) ((o++dP x p).map eZ))(ihy: ∀{o:List aa},o.length+2*y.size<=1000000->PB GB prog 222 (gw [some (eU y),some (eZ p),none]) 6 141 (o.map eZ) (fun w=> .v (.slice w.a w.n w.c)) ((o++dP y p).map eZ)):PB GB prog 222 (gw [some (eU (.node l x y)),some (eZ p),none]) 6 141 (o.map eZ) (fun w=> .v (.slice w.a w.n w.c)) ((o++dP (.node l x y) p).map eZ):=by
 haveI:=hl;have hz2:(Tr.node l x y).size=1+x.size+y.size:=J;have hp1:=Bz x p;refine vE func222 J J ntmps222 J J (fun C=>?_);refine cl (fu:=⟨0⟩) J uW J<|?_;refine qn 10 J ?_;refine gx J<|cl (fu:=⟨7⟩) J (vf (l:=l) (p:=p) (i:=i) hi) J<|ie J (by show some (decide _)=some true;rw[decide_eq_true (by omega)]) J<|?_;refine cl J (vC (l:=l)) J<|cl J (YK (p:=l.dir) (i:=97)) J<|cl J (Sa (p:=dO l.dir) (i:=500)) J<|rf J J<|?_;refine Yr (fu:=⟨7⟩) ((o++[dO l.dir,b8 (dO l.dir)]).map eZ) J (by rw[cR]<;>rfl) (Bb [dO l.dir,b8 (dO l.dir)]) J<|ie J (by show some (decide _)=some true;rw[decide_eq_true (by omega)]) J<|?_;refine cq (fu:=⟨7⟩) (((o++[dO l.dir,b8 (dO l.dir)])++dP x p).map eZ) J (ihx (by rw[aT,bX,bX,iK];omega)) J J<|?_;refine ie J (by show some (decide _)=some true;rw[decide_eq_true (by omega)]) J<|cq _ J (ihy (by rw[aT,aT,bX,bX,iK];omega)) J J<|?_;exact sF J J J (by rw[A',hz];simp)
def ax1{l:ab}{x y:Tr}{p:aa}{i:Nat}[hp:aI p i](hl:LB l)(hi:i<=10000000){o:List aa}(hs:o.length+2*(Tr.node l x y).size<=1000000)(hz:Int.sign (l.value p).num=1)(ihx: ∀{o:List aa},o.length+2*x.size<=1000000->PB GB prog 222 (gw [some (eU x),some (eZ p),none]) 6 141 (o.map eZ) (fun w=> .v (.slice w.a w.n w.c)) ((o++dP x p).map eZ)):PB GB prog 222 (gw [some (eU (.node l x y)),some (eZ p),none]) 6 141 (o.map eZ) (fun w=> .v (.slice w.a w.n w.c)) ((o++dP (.node l x y) p).map eZ):=by
 haveI:=hl;have hz2:(Tr.node l x y).size=1+x.size+y.size:=J;refine vE func222 J J ntmps222 J J (fun C=>?_);refine cl (fu:=⟨0⟩) J uW J<|?_;refine qn 10 J ?_;refine gx J<|cl (fu:=⟨7⟩) J (vf (l:=l) (p:=p) (i:=i) hi) J<|dt (fu:=⟨9⟩) J (by show some (decide _)=some false;rw[decide_eq_false (by omega)]) J<|?_;refine ie J (by show some (decide _)=some true;rw[decide_eq_true (by omega)]) J<|cq (fu:=⟨7⟩) _ J (ihx (by omega)) J J<|dt J (by show some (decide _)=some false;rw[decide_eq_false (by omega)]) J<|?_;exact sF J J J (by rw[A',hz];simp)
def ax0{l:ab}{x y:Tr}{p:aa}{i:Nat}[hp:aI p i](hl:LB l)(hi:i<=10000000){o:List aa}(hs:o.length+2*(Tr.node l x y).size<=1000000)(hz:Int.sign (l.value p).num= -1)(ihy: ∀{o:List aa},o.length+2*y.size<=1000000->PB GB prog 222 (gw [some (eU y),some (eZ p),none]) 6 141 (o.map eZ) (fun w=> .v (.slice w.a w.n w.c)) ((o++dP y p).map eZ)):PB GB prog 222 (gw [some (eU (.node l x y)),some (eZ p),none]) 6 141 (o.map eZ) (fun w=> .v (.slice w.a w.n w.c)) ((o++dP (.node l x y) p).map eZ):=by
 haveI:=hl;have hz2:(Tr.node l x y).size=1+x.size+y.size:=J;refine vE func222 J J ntmps222 J J (fun C=>?_);refine cl (fu:=⟨0⟩) J uW J<|?_;refine qn 10 J ?_;refine gx J<|cl (fu:=⟨7⟩) J (vf (l:=l) (p:=p) (i:=i) hi) J<|dt (fu:=⟨9⟩) J (by show some (decide _)=some false;rw[decide_eq_false (by omega)]) J<|?_;refine dt (fu:=⟨9⟩) J (by show some (decide _)=some false;rw[decide_eq_false (by omega)]) J<|ie J (by show some (decide _)=some true;rw[decide_eq_true (by omega)]) J<|?_;refine cq _ J (ihy (by omega)) J J<|?_;exact sF J J J (by rw[A',hz];simp)
def Ax{p:aa}{i:Nat}[hp:aI p i](hi:i<=10000000:=by decide): ∀{t:Tr} {o:List aa},t.all LB->o.length+2*t.size<=1000000->PB GB prog 222 (gw [some (eU t),some (eZ p),none]) 6 141 (o.map eZ) (fun w=> .v (.slice w.a w.n w.c)) ((o++dP t p).map eZ)
 | .leaf _,_,_,_=>S0
 | .node l x y,_,hb,hs=>by
  have hz2:(Tr.node l x y).size=1+x.size+y.size:=J;rcases nM (l.value p).num 0 with h|h|h
  ·exact ax0 hb.1 hi hs (fZ h) fun k=>Ax hi hb.2.2 k
  ·exact R2 hb.1 hi hs (by rw[h];rfl) (fun k=>Ax hi hb.2.1 k) fun k=>Ax hi hb.2.2 k
  ·exact ax1 hb.1 hi hs (gJ h) fun k=>Ax hi hb.2.1 k
def XR{t:Tr}{p v:aa}{i j:Nat}[hp:aI p i][hv:aI v j](hb:t.all LB)(hi:i<=10000000:=by decide)(hj:j<=10000000:=by decide):PF GB prog 223 [eU t,eZ p,eZ v] (.tp [vB (fB t p v).1,vB (fB t p v).2]):=by
 refine fn func223 J J ntmps223 J J (fun C=>?_);refine lp (X:=Tr) (fun s=>[(0, .d (eU s))]) (fun s=>[]) (fun s=>fB s p v=fB t p v/\s.all LB) (fun s=>s.size) t J ⟨J,hb⟩ (fun _=>J) (fun s hk=>?_);obtain⟨h1,hb2⟩:=hk;rcases s with b|⟨l,x,y⟩
 .
  have hA:fB t p v=(b,true):=h1.symm;refine cl (fu:=⟨0⟩) J vo J<|?_;refine mf 10 J ?_;refine gx J<|?_;exact rz J (by rw[hA];rfl)
 .
  have hAn:=h1.symm;rw[fB,yn] at hAn;haveI:=hb2.1;refine cl (fu:=⟨0⟩) J uW J<|?_;refine qn 10 J ?_;refine gx J<|cl (fu:=⟨4⟩) J (vf (l:=l) (p:=p) (i:=i) hi) J<|?_;refine mg (X:=Int) (fun s8=>[(8, .d (vI s8))]) (fun s8=>[]) (fun s8=>s8=(if(l.value p).num.sign=0 then(l.nor.dot v).num.sign else(l.value p).num.sign)) [8] [] rfl ?_ (fun _=>J) (fun s8 hs8=>?_)
  .
   refine gx J<|?_;refine br J J J (fun hc19=>?_) (fun hc19=>?_)
   .
    refine cl J (xm (l:=l)) J<|cl J (uD (p:=l.nor) (q:=v) (i:=97) (j:=j) (by decide) (by omega)) J<|cl J (mr (q:=l.nor.dot v) (by omega)) J<|?_;exact at_ (l.nor.dot v).num.sign (if_pos hc19).symm
   .
    exact at_ (l.value p).num.sign (if_neg hc19).symm
  .
   rw[<-hs8] at hAn;refine br J J J (fun hc29=>?_) (fun hc29=>?_)
   .
    exact at_ x ⟨⟨by rw[hAn,hc29];rfl,hb2.2.1⟩,(by simp only[Tr.size];omega)⟩
   .
    refine br J J J (fun hc35=>?_) (fun hc35=>?_)
    .
     exact at_ y ⟨⟨by rw[hAn,hc35];rfl,hb2.2.2⟩,(by simp only[Tr.size];omega)⟩
    .
     exact rz J (by rw[hAn];split<;>first|rfl|contradiction)
def Od{q:Rat}{i:Nat}[h:BQ q i](hi:i<=400000000:=by decide):PF GB prog 198 [eR q] (eF q):=by
 haveI:BN q.num.natAbs i:=⟨h.hn⟩;haveI:BN q.den i:=⟨h.hd⟩;refine fn func198 J J ntmps198 J J (fun C=>?_);refine cl (fu:=⟨0⟩) J (tF (n:=decide (q.num<0)) (a:=q.num.natAbs) (d:=q.den) (i:=i) (j:=i) (by omega) (by omega)) J<|?_;refine ao 7 (.d (eF q)) J (by rw[l5,tX]) ?_;refine gx J<|?_;exact rz J J
def IU{p:aa}{i:Nat}[h:aI p i](hi:i<=400000000:=by decide):PF GB prog 110 [l6 p] (eZ p):=by
 refine fn func110 J J ntmps110 J J (fun C=>?_);refine cl J (Od (q:=p.x) (i:=i) hi) J<|cl J (Od (q:=p.y) (i:=i) hi) J<|?_;exact rz J J
def Tg(G:Gh)(y:Value)(h:Is G (.sl [.ag [vI (dx 1),vI (dB 1),c9 1,vI 0,vI 0, .v (.pointer none)]]) y):Is G (.sl ((i9 []).map eZ)) y:=by
 obtain⟨s,x,es,rfl,h1,h2⟩:=gO.1 h;obtain⟨v,m,rfl,k,h3⟩:=ba.1 h2
 cases cD.1 h3
 refine gO.2 ⟨s,x,_,J,h1, .cons ?_ .nil⟩;obtain⟨m4,rfl,g4⟩:=cO.1 k;obtain⟨v1,m1,rfl,k1,g1⟩:=ba.1 g4;obtain⟨v2,m2,rfl,k2,g2⟩:=ba.1 g1;obtain⟨v3,m3,rfl,k3,g3⟩:=ba.1 g2;obtain⟨m5,q5,g5⟩:=cO.1 (vn _ _ (cO.2 ⟨m3,rfl,g3⟩))
 cases q5
 exact cO.2 ⟨_,J, .cons k1 (.cons k2 (.cons k3 g5))⟩
def J9{ds:List aa}{k:Nat}{u w:aa}(h1:ds[k]? =some u)(h2:ds[(k+1)%ds.length]? =some w):ol ds k=if 0<Int.sign (u.cross w).num then u.add w else ly u:=by
 unfold ol;rw[aK,aK,h1,h2];rfl
def Mc(ds:List aa)(k:Nat):(List.range (k+1)).map (ol ds)=(List.range k).map (ol ds)++[ol ds k]:=by rw[List.range_succ,cR];rfl
def Um:PF GB prog 220 [.sl []] (.sl ((i9 []).map eZ)):=by
 refine fn (fu:=⟨10⟩) func220 J J ntmps220 J J (fun C=>?_);refine ie J (by rfl) J<|cl J (qt (by omega)) J<|rf J J<|?_;exact i4 J Tg
def RU{ds:List aa}{i:Nat}(h0:0<ds.length)(hb: ∀d∈ds,aI d i)(hn:ds.length<=10000000)(hi:i<=1000000:=by decide):PF GB prog 220 [.sl (ds.map eZ)] (.sl ((i9 ds).map eZ)):=by
 have hml:(ds.map eZ).length=ds.length:=aJ ..;refine fn (fu:=⟨10⟩) func220 J J ntmps220 J J (fun C=>?_);refine ao 8 (.d (vI (ds.length:Nat))) J (by rw[hml]<;>rfl) ?_;refine gx (fu:=⟨0⟩) J<|dt (fu:=⟨15⟩) J (by show some (decide _)=some false;rw[decide_eq_false (by omega)]) J<|?_;refine ao 14 (.d (vI (ds.length:Nat))) J (by rw[hml]<;>rfl) ?_;refine gx J<|?_;refine nr 3 3 141 6 J J J ?_;refine lp (X:=List aa×Nat) (fun⟨acc,k⟩=>[(15, .d (vI (k:Nat))),(3, .rw 3)]) (fun⟨acc,k⟩=>[(3,some (.b 141 6 (acc.map eZ) true))]) (fun⟨acc,k⟩=>acc=(List.range k).map (ol ds)/\k<=ds.length) (fun⟨acc,k⟩=>ds.length-k) ⟨[],0⟩ J ⟨J,bK _⟩ (fun _=>J) (fun⟨acc,k⟩ hk=>?_)
 try dsimp only at hk⊢
 obtain⟨h1,h2⟩:=hk;have hal:acc.length=k:=by rw[h1,aJ,nN]
 have ham:(acc.map eZ).length=acc.length:=aJ ..;refine br J J J (fun hc16=>?_) (fun hc16=>?_)
 .
  obtain⟨u,hx⟩: ∃u,ds[k]? =some u:=⟨_,aX (by omega)⟩;obtain⟨w,hw⟩: ∃w,ds[(k+1)%ds.length]? =some w:=⟨_,aX (dZ _ (by omega))⟩;haveI:=hb u (aS hx);haveI:=hb w (aS hw);refine ix (fu:=⟨13⟩) _ J (d6 hx) J<|?_;refine ao 24 (.d (vI (ds.length:Nat))) J (by rw[hml]<;>rfl) ?_;refine gx (fu:=⟨1⟩) J<|?_;refine ao 25 (.d (vI (((k+1)%ds.length:Nat):Int))) J J ?_;refine gx J<|ix _ J (d6 hw) J<|cl J (Lc (p:=u) (q:=w) (by omega) (by omega)) J<|cl J (mr (q:=u.cross w) (by omega)) J<|?_;refine br J J J (fun hc32=>?_) (fun hc32=>?_)
  .
   refine cl J (I0 (p:=u) (q:=w) (by omega) (by omega)) J<|rf J J<|ap ((acc++[u.add w]).map eZ) J (by rw[cR]<;>rfl) (Bb [u.add w]) J<|?_;refine gI 38 3 J ?_;exact at_ ⟨acc++[u.add w],k+1⟩ (by dsimp only;exact⟨⟨by rw[Mc,J9 hx hw,if_pos hc32,<-h1],by omega⟩,(by omega)⟩)
  .
   refine cl J (KP (p:=u) (by omega)) J<|rf J J<|ap ((acc++[ly u]).map eZ) J (by rw[cR]<;>rfl) (Bb [ly u]) J<|?_;refine gI 43 3 J ?_;exact at_ ⟨acc++[ly u],k+1⟩ (by dsimp only;exact⟨⟨by rw[Mc,J9 hx hw,if_neg hc32,<-h1],by omega⟩,(by omega)⟩)
 .
  obtain rfl:k=ds.length:=by omega
  have hS:i9 ds=acc:=by unfold i9;rw[if_neg (by omega),h1]
  refine lB 3 J ?_;exact rz J (by rw[hS];rfl)
def V5{ds:List aa}{i:Nat}(hb: ∀d∈ds,aI d i)(hn:ds.length<=10000000)(hi:i<=1000000:=by decide):PF GB prog 220 [.sl (ds.map eZ)] (.sl ((i9 ds).map eZ)):=by
 cases ds with
 |nil=>exact Um
 |cons d ds=>exact RU (i:=i) (Nat.zero_lt_succ _) hb hn hi
def O5{p q:aa}{i:Nat}[hp:aI p i][hq:aI q i](hi:i<=1000000:=by decide):PF GB prog 192 [eZ p,eZ q] (vB (decide (p.x=q.x/\p.y=q.y))):=by
 refine fn func192 J J ntmps192 J J (fun C=>?_);refine cl J (yl (p:=p.x) (q:=q.x) (i:=i) (j:=i) (by omega) (by omega)) J<|?_;refine csd 10 J J J (fun hg10=>?_) (fun hg10=>?_)
 .
  refine cl J (yl (p:=p.y) (q:=q.y) (i:=i) (j:=i) (by omega) (by omega)) J<|?_;exact rz J (by show DV.v (.bool _)= .v (.bool _);simp_all)
 .
  exact rz J (by show DV.v (.bool _)= .v (.bool _);simp_all)
def Sv{p q:aa}{i j:Nat}[hp:aI p i][hq:aI q j](hi:i<=10000000:=by decide)(hj:j<=10000000:=by decide):PF GB prog 241 [eZ p,eZ q] (eZ ⟨p.x-q.x,p.y-q.y⟩):=by
 refine fn func241 J J ntmps241 J J (fun C=>?_);refine cl J (uB (p:=p.x) (q:=q.x) (i:=i) (j:=j) (by omega) (by omega)) J<|cl J (uB (p:=p.y) (q:=q.y) (i:=i) (j:=j) (by omega) (by omega)) J<|?_;exact rz J J
def Ed{l:ab}{p:aa}{i:Nat}[hl:LB l][hp:aI p i](hi:i<=1000000:=by decide):PF GB prog 254 [eH l,eZ p] (eF (ey l p)):=by
 refine fn func254 J J ntmps254 J J (fun C=>?_);refine cl J (vC (l:=l)) J<|cl (fu:=⟨0⟩) J (uD (p:=l.dir) (q:=p) (i:=97) (j:=i) (by decide) (by omega)) J<|?_;refine ao 10 (.d (eF (p.dot l.dir))) J (by rw[show l.dir.dot p=p.dot l.dir by unfold aa.dot;grind]) ?_;refine gx J<|cl J (uD (p:=l.dir) (q:=l.dir) (i:=97) (j:=97) (by decide) (by decide)) J<|cl J (yW (p:=p.dot l.dir) (q:=l.dir.dot l.dir) (i:=i+97+(i+97)+1) (j:=97+97+(97+97)+1) (by omega) (by decide)) J<|?_;exact rz J J
def aBQ{v:av}{t:Rat}{i:Nat}[h1:BQ v.lo i][h2:BQ v.hi i][h3:BQ t i](hi:i<=1000000:=by decide):PF GB prog 323 [eW v,eF t] (vB (rj v t)):=by
 refine fn func323 J J ntmps323 J J (fun C=>?_);refine nv 7 J J J (fun hg7=>?_) (fun hg7=>?_)
 .
  refine nv 17 J J J (fun hg17=>?_) (fun hg17=>?_)
  .
   exact rz J (by show DV.v (.bool _)= .v (.bool _);unfold rj;simp_all<;>(intros;omega))
  .
   refine cl J (m9 (p:=v.hi) (q:=t) (i:=i) (j:=i) (by omega) (by omega)) J<|?_;exact rz J (by show DV.v (.bool _)= .v (.bool _);unfold rj;simp_all<;>(intros;omega))
 .
  refine cl J (m9 (p:=v.lo) (q:=t) (i:=i) (j:=i) (by omega) (by omega)) J<|?_;refine cs 14 J J J (fun hg14=>?_) (fun hg14=>?_)
  .
   refine nv 17 J J J (fun hg17=>?_) (fun hg17=>?_)
   .
    exact rz J (by show DV.v (.bool _)= .v (.bool _);unfold rj;simp_all<;>(intros;omega))
   .
    refine cl J (m9 (p:=v.hi) (q:=t) (i:=i) (j:=i) (by omega) (by omega)) J<|?_;exact rz J (by show DV.v (.bool _)= .v (.bool _);unfold rj;simp_all<;>(intros;omega))
  .
   exact rz J (by show DV.v (.bool _)= .v (.bool _);unfold rj;simp_all<;>(intros;omega))
def Z4{G:Gh}{q:Rat}{y:Value}(h: ¬fh q)(hy:Is G (c9 q) y):y= .pointer none:=by
 unfold c9 at hy;rw[decide_eq_false h] at hy;rcases tc.1 hy with⟨_,e⟩|⟨e,_⟩
 ·exact e
 ·cases e
def W1{G:Gh}{q:Rat}(h: ¬fh q):Is G (c9 q) (.pointer none):=by
 unfold c9;rw[decide_eq_false h];exact tc.2 (.inl ⟨J,J⟩)
def xF(q:Rat):List Value:=[.int .i64 (dx q), .int .i64 (dB q), .pointer none]
def wX{G:Gh}{q:Rat}{t:List DV}{m:List Value}(h: ¬fh q)(hm:IsLs G (vI (dx q)::vI (dB q)::c9 q::t) m): ∃n,m=xF q++n/\IsLs G t n:=by
 obtain⟨y1,m1,rfl,h1,hm1⟩:=ba.1 hm;obtain⟨y2,m2,rfl,h2,hm2⟩:=ba.1 hm1;obtain⟨y3,m3,rfl,h3,hm3⟩:=ba.1 hm2;obtain rfl:=aG.1 h1;obtain rfl:=aG.1 h2;obtain rfl:=Z4 h h3;exact⟨m3,J,hm3⟩
def xO{G:Gh}{q:Rat}{t:List DV}{n:List Value}(h: ¬fh q)(k:IsLs G t n):IsLs G (vI (dx q)::vI (dB q)::c9 q::t) (xF q++n):= .cons (aG.2 J) (.cons (aG.2 J) (.cons (W1 h) k))
def rV(q:Rat):Value:= .agg ⟨xF q⟩
def Zi{G:Gh}{q:Rat}{y:Value}(h: ¬fh q)(hy:Is G (eF q) y):y=rV q:=by
 obtain⟨m,rfl,hm⟩:=cO.1 hy;obtain⟨n,rfl,hn⟩:=wX h hm;rw[cD.1 hn];rfl
def aJr{G:Gh}{q:Rat}(h: ¬fh q):Is G (eF q) (rV q):=cO.2 ⟨_,J,xO h (cD.2 J)⟩
structure GX (f:aH):Prop where
 a: ¬fh (f.l.a:Rat)
 b: ¬fh (f.l.b:Rat)
 c: ¬fh (f.l.c:Rat)
 lo: ¬fh f.v.lo
 hi: ¬fh f.v.hi
def xU(f:aH):Value:= .agg ⟨xF f.l.a++(xF f.l.b++(xF f.l.c++(xF f.v.lo++(xF f.v.hi++[.bool f.v.nl, .bool f.v.nh]))))⟩
def Cj{G:Gh}{f:aH}{y:Value}(h:GX f)(hy:Is G (bh f) y):y=xU f:=by
 obtain⟨m0,rfl,k0⟩:=cO.1 hy;obtain⟨m1,rfl,k1⟩:=wX h.a k0;obtain⟨m2,rfl,k2⟩:=wX h.b k1;obtain⟨m3,rfl,k3⟩:=wX h.c k2;obtain⟨m4,rfl,k4⟩:=wX h.lo k3;obtain⟨m5,rfl,k5⟩:=wX h.hi k4;obtain⟨y1,m6,rfl,h1,k6⟩:=ba.1 k5;obtain⟨y2,m7,rfl,h2,k7⟩:=ba.1 k6;obtain rfl:=aG.1 h1;obtain rfl:=aG.1 h2;obtain rfl:=cD.1 k7;rfl
def BH{G:Gh}{f:aH}(h:GX f):Is G (bh f) (xU f):=cO.2 ⟨_,J,xO h.a (xO h.b (xO h.c (xO h.lo (xO h.hi (.cons (aG.2 J) (.cons (aG.2 J) (cD.2 J)))))))⟩
structure FE (f:aH):Prop where
 fo:pA f
 sm:GX f
 nl:f.v.nl=false
 nh:f.v.nh=false
theorem Jw{l:ab}{p:aa}{i:Nat}(hl:LB l)[hp:aI p i]:BQ (ey l p) (2*i+600):=by
 haveI:=hl;have h:BQ (p.dot l.dir/l.dir.dot l.dir) (i+97+(i+97)+1+(97+97+(97+97)+1)):=inferInstance;exact BQ.mono (show BQ (ey l p) _ from h) (by omega)
def aEl{f:aH}(hf:FE f){p:aa}{i:Nat}[hp:aI p i](hi:i<=100000:=by decide):PF GB prog 226 [bh f,eZ p] (vB (qA f p)):=by
 haveI:=hf.fo.lb;haveI:=hf.fo.lo;haveI:=hf.fo.hi;haveI:=Jw (p:=p) (i:=i) hf.fo.lb;haveI:BQ f.v.lo (2*i+1800):=hf.fo.lo.mono (by omega);haveI:BQ f.v.hi (2*i+1800):=hf.fo.hi.mono (by omega);haveI:BQ (ey f.l p) (2*i+1800):=(Jw (p:=p) (i:=i) hf.fo.lb).mono (by omega);refine fn func226 J J ntmps226 J J (fun C=>?_);refine cl (fu:=⟨0⟩) J (vf (l:=f.l) (p:=p) (i:=i) (by omega)) J<|?_;refine pi (v2:=fun hg9=>by simp only[ah];kernel_rfl) J J J J (fun hg9=>?_) (fun hg9=>?_)
 .
  refine cl J (Ed (l:=f.l) (p:=p) (i:=i) (by omega)) J<|cl J (aBQ (v:=f.v) (t:=ey f.l p) (i:=2*i+1800) (by omega)) J<|?_;exact rz J (by show DV.v (.bool _)= .v (.bool _);unfold qA;simp_all)
 .
  exact rz J (by show DV.v (.bool _)= .v (.bool _);unfold qA;simp_all)
def L5{f:aH}(hf:FE f):PF GB prog 260 [bh f] (.tp [eZ (f.l.at f.v.lo),vB true]):=by
 haveI:=hf.fo.lb;haveI:=hf.fo.lo;haveI:=hf.fo.hi;refine fn (fu:=⟨13⟩) func260 J J ntmps260 J J (fun C=>?_);refine ao 6 (.d (vB false)) J (by rw[hf.nl]<;>rfl) ?_;refine qn 6 J ?_;refine gx J<|cl J (Br (l:=f.l) (t:=f.v.lo) (i:=1200)) J<|?_;exact rz J J
def NS{f:aH}(hf:FE f):PF GB prog 261 [bh f] (.tp [eZ (f.l.at f.v.hi),vB true]):=by
 haveI:=hf.fo.lb;haveI:=hf.fo.lo;haveI:=hf.fo.hi;refine fn (fu:=⟨13⟩) func261 J J ntmps261 J J (fun C=>?_);refine ao 6 (.d (vB false)) J (by rw[hf.nh]<;>rfl) ?_;refine qn 6 J ?_;refine gx J<|cl J (Br (l:=f.l) (t:=f.v.hi) (i:=1200)) J<|?_;exact rz J J
def UL{α:Type}{g:α->Bool}{E:List α}{k:Nat}{f:α}(hk:E[k]? =some f)(h:(E.take k).any g=false):(E.take (k+1)).any g=g f:=by
 rw[gU,hk,List.any_append,h];simp
def T8{α:Type}{g:α->Bool}{E:List α}{k:Nat}{f:α}(hk:E[k]? =some f)(h:g f=true):E.any g=true:=kU.2 ⟨f,aS hk,h⟩
def aAM{E:List aH}(hn:E.length<=1000000){f:FuncId}{pv:Value}{dp:DV}(hp:Is GB dp pv){g:aH->Bool}(hF: ∀x∈E,PF GB prog f [bh x,dp] (vB (g x))):PX GB prog 322 [.sl (E.map bh), .v (.func (.func f) ⟨[]⟩ ⟨[pv]⟩)] {j:Int//(0<=j↔E.any g=true)/\ -1<=j/\j<=1000000} (fun j=>vI j.1):=by
 have hml:(E.map bh).length=E.length:=aJ ..;refine T6 (fu:=⟨10⟩) func322 J J ntmps322 J J (fun C=>?_);refine ao 7 (.d (vI (E.length:Nat))) J (by rw[hml]<;>rfl) ?_;refine gx J<|?_;refine lp (X:=Nat) (fun k=>[(8, .d (vI (k:Nat)))]) (fun k=>[]) (fun k=>k<=E.length/\(E.take k).any g=false) (fun k=>E.length-k) 0 J ⟨bK _,J⟩ (fun _=>J) (fun k hk=>?_);obtain⟨hk,hany⟩:=hk;refine br J J J (fun hc9=>?_) (fun hc9=>?_)
 .
  obtain⟨x,hx⟩: ∃u,E[k]? =some u:=⟨_,aX (by omega)⟩;refine ix (fu:=⟨1⟩) _ J (d6 hx) J<|wR (ds1:=[]) (ds2:=[dp]) J (cD.2 J) (.cons hp (cD.2 J)) (hF x (aS hx)) J<|?_;refine bb J J J (fun hc16=>?_) (fun hc16=>?_)
  .
   exact Lr ⟨(k:Int),⟨fun _=>T8 hx hc16,fun _=>by omega⟩,by omega,by omega⟩ J J
  .
   exact at_ (k+1) ⟨⟨by omega,by rw[UL hx hany];simpa using hc16⟩,(by omega)⟩
 .
  obtain rfl:k=E.length:=by omega
  rw[dT] at hany;exact Lr ⟨-1,⟨fun h=>by omega,fun h=>by rw[hany] at h;cases h⟩,by omega,by omega⟩ J J
theorem QB{l:ab}{t:Rat}(hl:LB l)(ht:BQ t 1200):aI (l.at t) 3000:=aI.mono (inferInstance:aI (l.at t) _) (by decide)
def qE{f:aH}(h1:f.v.nl=false)(h2:f.v.nh=false)(p:aa):qH f p=if Int.sign f.l.dir.y.num=0 then 0 else if Int.sign (f.l.value p).num≠Int.sign f.l.dir.y.num then 0 else
  if Int.sign f.l.dir.y.num<0 then(if 0<bO (f.l.at f.v.hi).y p.y then 0 else if bO (f.l.at f.v.lo).y p.y<=0 then 0 else Int.sign f.l.dir.y.num)
  else(if 0<bO (f.l.at f.v.lo).y p.y then 0 else if bO (f.l.at f.v.hi).y p.y<=0 then 0 else Int.sign f.l.dir.y.num):=by
 unfold qH;rw[h1,h2];generalize Int.sign f.l.dir.y.num=U;generalize Int.sign (f.l.value p).num=S;generalize bO (f.l.at f.v.hi).y p.y=a;generalize bO (f.l.at f.v.lo).y p.y=b;by_cases k:U=0
 ·simp[k]
 ·by_cases k2:S≠U
  ·simp[k2]
  ·rw[if_neg (by simp[k,k2]),if_neg k,if_neg k2]
   by_cases k3:U<0
   ·simp[k3]
   ·simp[k3]
def Kr(f:aH)(p:aa):(qH f p).natAbs<=1:=by
 unfold qH;have:=WY f.l.dir.y.num
 repeat' split
 all_goals omega
def PJ{E:List aH}{p:aa}{k:Nat}{f:aH}(h:E[k]? =some f):io (E.take (k+1)) p=io (E.take k) p+qH f p:=by
 rw[gU,h];show io (E.take k++[f]) p=_;rw[He];unfold io;simp
def Jk(E:List aH)(p:aa): ∀k,(io (E.take k) p).natAbs<=k
 |0=>by simp[io]
 |k+1=>by
  have ih:=Jk E p k
  cases h:E[k]? with
  |none=>
   have:E.take (k+1)=E.take k:=by rw[gU,h];simp
   rw[this];omega
  |some f=>
   rw[PJ h];have:=Kr f p;omega
def Tl{f:aH}(hf:FE f){p:aa}{i:Nat}[hp:aI p i](hi:i<=100000:=by decide):PF GB prog 169 [bh f,eZ p] (vI (qH f p)):=by
 haveI:=hf.fo.lb;haveI:=hf.fo.lo;haveI:=hf.fo.hi;haveI:aI (f.l.at f.v.hi) 3000:=QB hf.fo.lb hf.fo.hi;haveI:aI (f.l.at f.v.lo) 3000:=QB hf.fo.lb hf.fo.lo;refine fn func169 J J ntmps169 J J (fun C=>?_);refine cl J (vC (l:=f.l)) J<|cl (fu:=⟨6⟩) J (mr (q:=f.l.dir.y) (i:=97)) J<|?_;rcases Int.lt_or_le (Int.sign f.l.dir.y.num) 0 with hu|hu
 .
  refine gx J<|?_;refine cs 19 J J J (fun hg19=>?_) (fun hg19=>?_)
  .
   exact rz J (by rw[qE hf.nl hf.nh];(repeat' split)<;>first|rfl|(exfalso;omega))
  .
   refine cl J (vf (l:=f.l) (p:=p) (i:=i) (by omega)) J<|?_;refine br (fu2:=⟨5⟩) J J J (fun hc26=>?_) (fun hc26=>?_)
   .
    exact rz J (by rw[qE hf.nl hf.nh];(repeat' split)<;>first|rfl|(exfalso;omega))
   .
    refine BE (fu:=⟨1⟩) (xU f) J (fun G y hy=>Cj hf.sm hy) J<|BE (fu:=⟨8⟩) (xU f) J (fun G y hy=>Cj hf.sm hy) J<|ie (fu:=⟨14⟩) J (by show some (decide _)=some true;rw[decide_eq_true (by omega)]) J<|?_;refine wR (fu:=⟨12⟩) (ds1:=[bh f]) (ds2:=[]) J (.cons (BH hf.sm) (cD.2 J)) (cD.2 J) (NS hf) J<|?_;refine mf 41 J ?_;refine gx J<|cl J (m9 (i:=3000) (j:=i) (by decide) (by omega)) J<|?_;refine br (fu2:=⟨6⟩) J J J (fun hc48=>?_) (fun hc48=>?_)
    .
     exact rz J (by rw[qE hf.nl hf.nh];(repeat' split)<;>first|rfl|(exfalso;omega))
    .
     refine wR (fu:=⟨12⟩) (ds1:=[bh f]) (ds2:=[]) J (.cons (BH hf.sm) (cD.2 J)) (cD.2 J) (L5 hf) J<|?_;refine mf 55 J ?_;refine gx J<|cl J (m9 (i:=3000) (j:=i) (by decide) (by omega)) J<|?_;refine br J J J (fun hc62=>?_) (fun hc62=>?_)
     .
      exact rz J (by rw[qE hf.nl hf.nh];(repeat' split)<;>first|rfl|(exfalso;omega))
     .
      exact rz J (by rw[qE hf.nl hf.nh];(repeat' split)<;>first|rfl|(exfalso;omega))
 .
  refine gx J<|?_;refine cs 19 J J J (fun hg19=>?_) (fun hg19=>?_)
  .
   exact rz J (by rw[qE hf.nl hf.nh];(repeat' split)<;>first|rfl|(exfalso;omega))
  .
   refine cl J (vf (l:=f.l) (p:=p) (i:=i) (by omega)) J<|?_;refine br (fu2:=⟨5⟩) J J J (fun hc26=>?_) (fun hc26=>?_)
   .
    exact rz J (by rw[qE hf.nl hf.nh];(repeat' split)<;>first|rfl|(exfalso;omega))
   .
    refine BE (fu:=⟨1⟩) (xU f) J (fun G y hy=>Cj hf.sm hy) J<|BE (fu:=⟨8⟩) (xU f) J (fun G y hy=>Cj hf.sm hy) J<|dt (fu:=⟨9⟩) J (by show some (decide _)=some false;rw[decide_eq_false (by omega)]) J<|?_;refine wR (fu:=⟨12⟩) (ds1:=[bh f]) (ds2:=[]) J (.cons (BH hf.sm) (cD.2 J)) (cD.2 J) (L5 hf) J<|?_;refine mf 41 J ?_;refine gx J<|cl J (m9 (i:=3000) (j:=i) (by decide) (by omega)) J<|?_;refine br (fu2:=⟨6⟩) J J J (fun hc48=>?_) (fun hc48=>?_)
    .
     exact rz J (by rw[qE hf.nl hf.nh];(repeat' split)<;>first|rfl|(exfalso;omega))
    .
     refine wR (fu:=⟨12⟩) (ds1:=[bh f]) (ds2:=[]) J (.cons (BH hf.sm) (cD.2 J)) (cD.2 J) (NS hf) J<|?_;refine mf 55 J ?_;refine gx J<|cl J (m9 (i:=3000) (j:=i) (by decide) (by omega)) J<|?_;refine br J J J (fun hc62=>?_) (fun hc62=>?_)
     .
      exact rz J (by rw[qE hf.nl hf.nh];(repeat' split)<;>first|rfl|(exfalso;omega))
     .
      exact rz J (by rw[qE hf.nl hf.nh];(repeat' split)<;>first|rfl|(exfalso;omega))
def No{E:List aH}(hE: ∀f∈E,FE f)(hn:E.length<=1000000){p:aa}{i:Nat}[hp:aI p i](hi:i<=100000:=by decide):PF GB prog 77 [.sl (E.map bh),eZ p] (vI (io E p)):=by
 have hml:(E.map bh).length=E.length:=aJ ..;refine fn (fu:=⟨16⟩) func77 J J ntmps77 J J (fun C=>?_);refine ao 9 (.d (vI (E.length:Nat))) J (by rw[hml]<;>rfl) ?_;refine gx J<|?_;refine lp (X:=Nat) (fun k=>[(10, .d (vI (k:Nat))),(5, .d (vI (io (E.take k) p)))]) (fun k=>[]) (fun k=>k<=E.length) (fun k=>E.length-k) 0 J (bK _) (fun _=>J) (fun k hk=>?_);have hw:=Jk E p k;refine br J J J (fun hc11=>?_) (fun hc11=>?_)
 .
  obtain⟨f,hx⟩: ∃u,E[k]? =some u:=⟨_,aX (by omega)⟩;have hf:=hE f (aS hx);have hcl:=Kr f p;refine ix _ J (d6 hx) J<|cl J (Tl hf (p:=p) (i:=i) hi) J<|?_;refine ao 5 (.d (vI (io (E.take (k+1)) p))) J (by rw[PJ hx]<;>rfl) ?_;exact at_ (k+1) ⟨(by omega),(by omega)⟩
 .
  obtain rfl:k=E.length:=by omega
  rw[dT];exact rz J J
def SZ{f:aH}(hf:FE f){p:aa}{i:Nat}[hp:aI p i](hi:i<=100000:=by decide):PF GB prog 225 [bh f, .pt [vI (dx p.x),vI (dB p.x),c9 p.x,vI (dx p.y),vI (dB p.y),c9 p.y]] (vB (qA f p)):=by
 refine fn func225 J J ntmps225 J J (fun C=>?_);refine Dl 1 J<|gx J<|cl J (aEl hf (p:=p) (i:=i) hi) J<|?_;exact rz J J
def awy{E:List aH}(hn:E.length<=1000000){f:FuncId}{pv:Value}{dp:DV}(hp:Is GB dp pv){g:aH->Bool}(hF: ∀x∈E,PF GB prog f [bh x,dp] (vB (g x))):PF GB prog 224 [.sl (E.map bh), .v (.func (.func f) ⟨[]⟩ ⟨[pv]⟩)] (vB (E.any g)):=by
 refine fn func224 J J ntmps224 J J (fun C=>?_);refine cx J (aAM hn hp hF) (fun _=>J) (fun⟨j,hj,hj1,hj2⟩=>?_)
 try dsimp only
 exact rz J (by show DV.v (.bool (decide _))= .v (.bool _);congr 2;rw[nU,decide_eq_true_eq];exact hj)
def aJd{E:List aH}(hE: ∀f∈E,FE f)(hn:E.length<=1000000){p:aa}{i:Nat}[hp:aI p i](hi:i<=100000:=by decide):PF GB prog 131 [.sl (E.map bh),eZ p] (vB (E.any fun f=>qA f p)):=by
 refine fn (fu:=⟨9⟩) func131 J J ntmps131 J J (fun C=>?_);refine fz 3 J J ?_;refine xY 3 J (fun GB' pv hg hpv=>?_);refine P9 J J<|cl J (awy (E:=E) hn hpv (fun f hf=>SZ (hE f hf) (p:=p) (i:=i) hi)) J<|?_;exact rz J J
def pb(v:List aa):List (List DV):=(List.range v.length).map fun i=>[vI (i:Nat),BC (v.getD i ⟨0,0⟩) (v.getD ((i+1)%v.length) ⟨0,0⟩)]
def Rx{v:List aa}{i:Nat}{p q:aa}(h1:v[i]? =some p)(h2:v[(i+1)%v.length]? =some q):(pb v)[i]? =some [vI (i:Nat),BC p q]:=by
 have hi:=(aU.1 h1).1;unfold pb;rw[eX,qQ hi,jT,aK,aK,h1,h2];rfl
def Qr{v:List aa}{i:Nat}{e:List DV}(h:(pb v)[i]? =some e): ∃p q,v[i]? =some p/\v[(i+1)%v.length]? =some q/\e=[vI (i:Nat),BC p q]:=by
 have hi:i<v.length:=by
  have:=(aU.1 h).1;unfold pb at this;simpa using this
 have h1:v[i]? =some v[i]:=aX hi;have hm:(i+1)%v.length<v.length:=dZ _ (by omega);have h2:v[(i+1)%v.length]? =some v[(i+1)%v.length]:=aX hm;refine⟨_,_,h1,h2,?_⟩;rw[Rx h1 h2] at h;exact(Option.some.inj h).symm
def J1{v:List aa}: ∀e∈pb v,e.length=2:=fun e he=>by
 obtain⟨i,_,rfl⟩:=bV.1 he;rfl
def N8{v:List aa}(hn:v.length<=100000):It GB prog 253 [.pt [.sl (v.map eZ)]] (pb v):=by
 have hml:(v.map eZ).length=v.length:=aJ ..;have hrl:(pb v).length=v.length:=by unfold pb;simp
 refine aI0 func253 J J ntmps253 J (fun _=>J) (fun l Jv Jx GB' hg H C hp hJ=>?_);refine Dl 1 J<|gx J<|?_;refine ao 6 (.d (vI (v.length:Nat))) J (by rw[hml]<;>rfl) ?_;refine SP (X:=Nat) (fun k=>[(0, .d (.v (.func (.yield l) #[] #[]))),(1, .ep [.sl (v.map eZ)]),(5, .d (.sl (v.map eZ))),(6, .d (vI (v.length:Nat))),(7, .d (vI (k:Nat)))]) (fun k C=>k<=v.length/\Jv k C.G0 C.w0) (fun k=>v.length-k) 0 hp ⟨bK _,hJ⟩ (fun _=>J) (fun k C1 hp1 hk=>?_);obtain⟨hk1,hJ1⟩:=hk;refine br J J J (fun hc8=>?_) (fun hc8=>?_)
 ·obtain⟨p,hpx⟩: ∃u,v[k]? =some u:=⟨_,aX (by omega)⟩
  obtain⟨q,hqx⟩: ∃u,v[(k+1)%v.length]? =some u:=⟨_,aX (dZ _ (by omega))⟩;refine ix _ J (d6 hpx) J<|?_;refine ao 20 (.d (vI (((k+1)%v.length:Nat):Int))) J (by rw[hml]<;>rfl) ?_;refine gx J<|ix _ J (d6 hqx) J<|Vh (len:=2) (s:=6) (e:=141) J (by kernel_rfl) (by kernel_rfl) J<|?_;refine Y1 (by kernel_rfl) J ?_;refine cy [(0, .d (.v (.func (.yield l) #[] #[]))),(1, .ep [.sl (v.map eZ)]),(5, .d (.sl (v.map eZ))),(6, .d (vI (v.length:Nat))),(7, .d (vI (k:Nat)))] H hp1 hJ1 J (Rx hpx hqx) J (by repeat (first|exact trivial|refine And.intro J ?_)) J J J (fun C3 hp3 hJ3=>?_) (fun C3 hp3 hJ3=>?_)
  ·exact XY (k+1) hp3 ⟨⟨by omega,hJ3⟩,by omega⟩
  ·exact Oe H hp3 (.inr hJ3) J
 ·obtain rfl:k=v.length:=by omega
  exact Oe H hp1 (.inl (by rw[hrl];exact hJ1)) J
def Of{v:List aa}:Iw GB prog 165 [.sl (v.map eZ)] 253 (.pt [.sl (v.map eZ)]):=by
 refine RT func165 J J ntmps165 J J (fun C=>?_);refine fz 1 J J ?_;refine xY 1 J (fun GB' pv hg hp=>?_);refine P9 J J ?_;exact XX J J hp
def aHu:ET 139:=fun x w=>by kernel_rfl
def aGU(m:List Value):CU 139 (.agg ⟨m⟩) "Mul" 207:=fun w=>by kernel_rfl
def Wh(l:List Rat)(k:Nat)(y:Rat):(l.map eF).set k (eF y)=(l.set k y).map eF:=(pT ..).symm
def nA(L:List Rat)(k:Rat)(j:Nat):List Rat:=(L.take j).map (· *k)++L.drop j
def aAN(L:List Rat)(k:Rat)(j:Nat):(nA L k j).length=L.length:=by
 unfold nA;rw[aT,aJ,bM,gR];omega
def XI{L:List Rat}{k a:Rat}{j:Nat}(h:L[j]? =some a):(nA L k j)[j]? =some a:=by
 have hj:=(aU.1 h).1;unfold nA;rw[fR (by rw[aJ,bM];omega),aJ,bM,lL,<-h];congr 1;omega
def YN{L:List Rat}{k a:Rat}{j:Nat}(h:L[j]? =some a):(nA L k j).set j (a*k)=nA L k (j+1):=by
 have hj:=(aU.1 h).1;unfold nA;rw[gU,h,nJ _ _ (by rw[aJ,bM];omega),aJ,bM,show j-min j L.length=0 by omega,bY hj];simp only[Option.toList_some,cR,bW,eK,List.set_cons_zero,dQ,cK,cY]
def OX{L:List Rat}{k:Rat}{i:Nat}[hk:BQ k i](hL: ∀a∈L,¬fh a)(hb: ∀a∈L,BQ a i)(hn:L.length<=1000)(hi:i<=1000000:=by decide):PB GB prog 338 (gw [some (eF k),none]) 3 139 (L.map eF) (fun w=> .v (.slice w.a w.n w.c)) ((L.map (· *k)).map eF):=by
 have hml:(L.map eF).length=L.length:=aJ ..;refine vE (fu:=⟨11⟩) func338 J J ntmps338 J J (fun C=>?_);refine ao 7 (.d (vI (L.length:Nat))) J (by rw[hml]<;>rfl) ?_;refine gx J<|?_;refine lp (X:=Nat) (fun j=>[(8, .d (vI (j:Nat)))]) (fun j=>[(1000000,some (.b 139 3 ((nA L k j).map eF) false))]) (fun j=>j<=L.length) (fun j=>L.length-j) 0 J (bK _) (fun _=>J) (fun j hk=>?_);have hsl:=aAN L k j;have hsm:((nA L k j).map eF).length=(nA L k j).length:=aJ ..;refine br J J J (fun hc9=>?_) (fun hc9=>?_)
 .
  obtain⟨a,hx⟩: ∃u,L[j]? =some u:=⟨_,aX (by omega)⟩;have ham:=aS hx;haveI:=hb a ham;have hga:(nA L k j)[j]? =some a:=XI hx;refine lb (fu:=⟨0⟩) _ J (d6 hga) J<|Zy (fu:=⟨1⟩) (rV a) J aHu (fun G y hy=>Zi (hL a ham) hy) J<|Zn J (aGU _) (PF.arg0 (sk (p:=a) (q:=k) (i:=i) (j:=i) (by omega) (by omega)) (fun G y h=>by rw[aG.1 h];exact aJr (hL a ham))) J<|?_;refine sb (hv:=by simp only[ah];exact⟨by kernel_rfl,by omega⟩) _ ((nA L k (j+1)).map eF) J (d6 hga) J (by rw[<-YN hx,<-Wh]<;>rfl) J<|?_;exact at_ (j+1) ⟨(by omega),(by omega)⟩
 .
  obtain rfl:j=L.length:=by omega
  have hend:nA L k L.length=L.map (· *k):=by unfold nA;rw[dT,jK,iW]
  exact sF J J J (by rw[hend])
def Hd{a:Int}{g:Nat}(hg:0<g)(hd:g∣a.natAbs):(a:Rat)*(((g:Nat):Int):Rat)⁻¹=((zv (decide (a<0)) (a.natAbs/g):Int):Rat):=by
 obtain⟨q,hq⟩:=hd;have e:zv (decide (a<0)) (a.natAbs/g)*(g:Int)=a:=by
  rw[hq,rK q hg];unfold zv;have hc:((g*q:Nat):Int)=(g:Int)*(q:Int):=by simp
  have hm:=tQ (g:Int) (q:Int);split
  ·rename_i h
   have h:=of_decide_eq_true h;rw[Int.neg_mul];omega
  ·rename_i h
   have h: ¬a<0:=fun k=>h (decide_eq_true k);omega
 generalize zv (decide (a<0)) (a.natAbs/g)=z at*;have h0:((g:Int):Rat)≠0:=by
  intro k;have:(g:Int)=0:=by exact_mod_cast k
  omega
 rw[<-e,cM];generalize ((g:Int):Rat)=r at*;grind
def sH{z:Int}(h:z.natAbs<=1000000): ¬fh (z:Rat):=fun k=>k ⟨by show z.natAbs<_;omega,by show 1<_;decide⟩
def J'{q:Rat}{k:Nat}(h:BQ q k)(hk:k<=62): ¬fh q:=fun b=>b (by
 have hp:2^k<=2^62:=bR (by decide) hk;have e:(2:Nat)^62=4611686018427387904:=by decide
 obtain⟨h1,h2⟩:=h;exact⟨by omega,by omega⟩)
theorem aJv(p q:aa){i j:Nat}[aI p i][aI q j]:aI ⟨p.x-q.x,p.y-q.y⟩ (i+j+1):=⟨inferInstanceAs (BQ (p.x-q.x) _),inferInstanceAs (BQ (p.y-q.y) _)⟩
theorem ni{z:Int}(h:z.natAbs<=1000000):BQ (z:Rat) 22:=by
 have e:(2:Nat)^21=2097152:=by decide
 haveI:BI z 21:=⟨by omega⟩;exact(inferInstance:BQ (z:Rat) 22)
def aCo{a b c:Int}(ha:a.natAbs<=1000000)(hb:b.natAbs<=1000000)(hc:c.natAbs<=1000000)(h0: ¬(a=0/\b=0)):PF GB prog 243 [eF (a:Rat),eF (b:Rat),eF (c:Rat)] (.tp [eH (gp a b c),vB true]):=by
 haveI:=ni ha;haveI:=ni hb;haveI:=ni hc;have hgn:Nat.gcd a.natAbs b.natAbs≠0:=fun h=>h0 ⟨kY.1 (lT h),kY.1 (lV h)⟩;have hgp:0<Nat.gcd (Nat.gcd a.natAbs b.natAbs) c.natAbs:=kR _ (iV hgn);have eg:rgcd (rgcd (a:Rat) b) c=(((Nat.gcd (Nat.gcd a.natAbs b.natAbs) c.natAbs:Nat):Int):Rat):=by rw[ww,ww];rfl
 have e1:(a:Rat)*(rgcd (rgcd (a:Rat) b) c)⁻¹=((gp a b c).a:Rat):=by rw[eg];exact Hd hgp (qT (kZ _ _) (kZ _ _))
 have e2:(b:Rat)*(rgcd (rgcd (a:Rat) b) c)⁻¹=((gp a b c).b:Rat):=by rw[eg];exact Hd hgp (qT (kZ _ _) (lK _ _))
 have e3:(c:Rat)*(rgcd (rgcd (a:Rat) b) c)⁻¹=((gp a b c).c:Rat):=by rw[eg];exact Hd hgp (lK _ _)
 haveI:BQ (rgcd (a:Rat) b) 200:=BQ.mono (inferInstance:BQ (rgcd (a:Rat) b) _) (by decide);haveI:BQ (rgcd (rgcd (a:Rat) b) c) 600:=BQ.mono (inferInstance:BQ (rgcd (rgcd (a:Rat) b) c) _) (by decide);haveI:BQ (rgcd (rgcd (a:Rat) b) c)⁻¹ 600:=BQ.mono (inferInstance:BQ (rgcd (rgcd (a:Rat) b) c)⁻¹ _) (by decide);have hl4:([((gp a b c).a:Rat),((gp a b c).b:Rat),((gp a b c).c:Rat)].map eF).length=3:=J;have hl3:[((gp a b c).a:Rat),((gp a b c).b:Rat),((gp a b c).c:Rat)].length=3:=J;refine fn func243 J J ntmps243 J J (fun C=>?_);refine cl J (u9 (q:=(a:Rat))) J<|?_;refine csd 11 J J J (fun hg11=>?_) (fun hg11=>?_)
 .
  refine cl J (u9 (q:=(b:Rat))) J<|?_;refine bd J J J (fun hc14=>?_) (fun hc14=>?_)
  .
   exact absurd ⟨by exact_mod_cast hg11,by exact_mod_cast hc14⟩ h0
  .
   refine cl J (od (p:=(a:Rat)) (q:=(b:Rat)) (i:=22) (j:=22)) J<|cl J (od (p:=rgcd (a:Rat) b) (q:=(c:Rat)) (i:=200) (j:=22)) J<|?_;refine cl rfl (A8 (q:=rgcd (rgcd (a:Rat) b) c) (i:=600)) rfl<|ro (fu:=⟨0⟩) J J<|cq (hv:=by simp only[ah];exact⟨by kernel_rfl,by omega⟩) ([((gp a b c).a:Rat),((gp a b c).b:Rat),((gp a b c).c:Rat)].map eF) rfl (OX (L:=[(a:Rat),(b:Rat),(c:Rat)]) (k:=(rgcd (rgcd (a:Rat) b) c)⁻¹) (i:=600) (by intro q hq;simp only[aV,kX,or_false] at hq;rcases hq with rfl|rfl|rfl;exact sH ha;exact sH hb;exact sH hc) (by intro q hq;simp only[aV,kX,or_false] at hq;rcases hq with rfl|rfl|rfl;exact(ni ha).mono (by decide);exact(ni hb).mono (by decide);exact(ni hc).mono (by decide)) (nb rfl)) (by simp only[bW,eK,e1,e2,e3]) rfl<|?_;refine lb _ J J J<|lb _ J J J<|lb _ J J J<|?_;exact rz J J
 .
  refine cl J (od (p:=(a:Rat)) (q:=(b:Rat)) (i:=22) (j:=22)) J<|cl J (od (p:=rgcd (a:Rat) b) (q:=(c:Rat)) (i:=200) (j:=22)) J<|?_;refine cl rfl (A8 (q:=rgcd (rgcd (a:Rat) b) c) (i:=600)) rfl<|ro (fu:=⟨0⟩) J J<|cq (hv:=by simp only[ah];exact⟨by kernel_rfl,by omega⟩) ([((gp a b c).a:Rat),((gp a b c).b:Rat),((gp a b c).c:Rat)].map eF) rfl (OX (L:=[(a:Rat),(b:Rat),(c:Rat)]) (k:=(rgcd (rgcd (a:Rat) b) c)⁻¹) (i:=600) (by intro q hq;simp only[aV,kX,or_false] at hq;rcases hq with rfl|rfl|rfl;exact sH ha;exact sH hb;exact sH hc) (by intro q hq;simp only[aV,kX,or_false] at hq;rcases hq with rfl|rfl|rfl;exact(ni ha).mono (by decide);exact(ni hb).mono (by decide);exact(ni hc).mono (by decide)) (nb rfl)) (by simp only[bW,eK,e1,e2,e3]) rfl<|?_;refine lb _ J J J<|lb _ J J J<|lb _ J J J<|?_;exact rz J J
theorem wz{z:ZP}(h:ZP.le 100 z):aI z.q 22:=⟨ni (by have:=h.1;omega),ni (by have:=h.2;omega)⟩
def ut{a b:Int}{m n:Nat}(ha:a.natAbs<=m)(hb:b.natAbs<=n):(a*b).natAbs<=m*n:=by
 rw[jV];exact jL ha hb
def Yf{v w:ZP}(hv:ZP.le 100 v)(hw:ZP.le 100 w)(h:v≠w):PF GB prog 151 [eZ v.q,eZ w.q] (.tp [eH (iO v.1 v.2 w.1 w.2),vB true]):=by
 haveI:=wz hv;haveI:=wz hw;have hv1:=hv.1;have hv2:=hv.2;have hw1:=hw.1;have hw2:=hw.2;obtain⟨A,hA⟩: ∃A,A=jP v.2 w.2:=⟨_,rfl⟩;obtain⟨B,hB⟩: ∃B,B=jC v.1 w.1:=⟨_,rfl⟩;obtain⟨C0,hC⟩: ∃C0,C0=qh v.1 v.2 w.1 w.2:=⟨_,rfl⟩;have bA:A.natAbs<=200:=by rw[hA];unfold jP;omega
 have bB:B.natAbs<=200:=by rw[hB];unfold jC;omega
 have m1:=ut bA hv1;have m2:=ut bB hv2;have eC:C0= -(A*v.1+B*v.2):=by rw[hC,hA,hB];rfl
 have bC:C0.natAbs<=40000:=by rw[eC];omega
 have h0: ¬(A=0/\B=0):=fun k=>h (Prod.ext (by have:=k.2;rw[hB] at this;unfold jC at this;omega) (by have:=k.1;rw[hA] at this;unfold jP at this;omega));haveI:aI (iP A B) 22:=⟨ni (by omega),ni (by omega)⟩;haveI:BQ ((A*v.1+B*v.2:Int):Rat) 22:=ni (by omega);have eT:ly ⟨w.q.x-v.q.x,w.q.y-v.q.y⟩=iP A B:=by rw[hA,hB];unfold ly iP jP jC ZP.q iP;simp only[aa.mk.injEq];push_cast;constructor<;>grind
 have eD:(iP A B).dot v.q=((A*v.1+B*v.2:Int):Rat):=by unfold aa.dot iP ZP.q iP;push_cast;rfl
 have eN: -((A*v.1+B*v.2:Int):Rat)=((C0:Int):Rat):=by rw[eC];push_cast;rfl
 refine fn func151 J J ntmps151 J J (fun C=>?_);refine cl J (Sv (p:=w.q) (q:=v.q) (i:=22) (j:=22)) J<|cl (fu:=⟨0⟩) J (KP (p:=⟨w.q.x-v.q.x,w.q.y-v.q.y⟩) (i:=45) (h:=aJv w.q v.q)) J<|?_;refine ao 12 (.d (eZ (iP A B))) J (by rw[eT]) ?_;refine gx J<|cl (fu:=⟨0⟩) J (uD (p:=iP A B) (q:=v.q) (i:=22) (j:=22)) J<|?_;refine ao 19 (.d (eF ((A*v.1+B*v.2:Int):Rat))) J (by rw[eD]) ?_;refine gx J<|cl (fu:=⟨0⟩) J (n8 (q:=((A*v.1+B*v.2:Int):Rat)) (i:=22)) J<|?_;refine ao 20 (.d (eF ((C0:Int):Rat))) J (by rw[eN]) ?_;refine gx J<|cl J (aCo (a:=A) (b:=B) (c:=C0) (by omega) (by omega) (by omega) h0) J<|?_;exact rz J (by rw[hA,hB,hC];rfl)
theorem LA{l:ab}(ho:l.ok)(ha:l.a.natAbs<=200)(hb:l.b.natAbs<=200){m n:Int}(hm:m.natAbs<=100)(hn:n.natAbs<=100):BQ (ey l (iP m n)) 60:=by
 have hd:=xj ho.ne;have p1:=ut ha ha;have p2:=ut hb hb;have p3:=ut hm hb;have p4:=ut hn ha;have h60:(2:Nat)^60=1152921504606846976:=by decide
 have hA:BI (l.a*l.a+l.b*l.b) 60:=⟨by omega⟩;have hB:BI (m*l.b-n*l.a) 60:=⟨by omega⟩;have e1:l.dir.dot l.dir=((l.a*l.a+l.b*l.b:Int):Rat):=by
  rw[pQ,cM,cM];simp only[ab.dir,aa.dot];grind
 have e2:(iP m n).dot l.dir=((m*l.b-n*l.a:Int):Rat):=by
  rw[pX,cM,cM];simp only[ab.dir,aa.dot,iP];grind
 have hd':((0:Int):Rat)<((l.a*l.a+l.b*l.b:Int):Rat):=by rw[<-e1];exact hd
 unfold ey;rw[e2,e1];clear e1 e2 p1 p2 p3 p4;generalize l.a*l.a+l.b*l.b=D at*;generalize m*l.b-n*l.a=M at*;have hD:0<D:=rL.1 hd';refine BQ.of_fracI (n:=M) (D:=D) (by omega) ?_ hB hA;have h0:(D:Rat)≠0:=fun e=>by rw[e] at hd';exact absurd hd' (by decide)
 have:((D.natAbs:Nat):Rat)=(D:Rat):=by
  have h1:((D.natAbs:Nat):Int)=D:=by omega
  rw[<-h1];rfl
 rw[this];grind
def Mn{v w:ZP}(hv:ZP.le 100 v)(hw:ZP.le 100 w)(h:v≠w):FE (dl v w):=by
 have hf:=PY hv hw h;have hv1:=hv.1;have hv2:=hv.2;have hw1:=hw.1;have hw2:=hw.2;have bA:(jP v.2 w.2).natAbs<=200:=by unfold jP;omega
 have bB:(jC v.1 w.1).natAbs<=200:=by unfold jC;omega
 have m1:=ut bA hv1;have m2:=ut bB hv2;have bC:(qh v.1 v.2 w.1 w.2).natAbs<=40000:=by unfold qh;omega
 obtain⟨k1,k2,k3⟩:=M4 (jP v.2 w.2) (jC v.1 w.1) (qh v.1 v.2 w.1 w.2);have ea:(dl v w).l.a.natAbs<=200:=dR k1 bA;have eb:(dl v w).l.b.natAbs<=200:=dR k2 bB;have ec:(dl v w).l.c.natAbs<=40000:=dR k3 bC;exact⟨hf,⟨sH (by omega),sH (by omega),sH (by omega),J' (LA hf.ok ea eb hv1 hv2) (by decide),J' (LA hf.ok ea eb hw1 hw2) (by decide)⟩,J,J⟩
def Zc{r:List ZP}(h:dq r): ∀f∈eG r,FE f:=fun f hf=>by
 obtain⟨k,hk,rfl⟩:=Hg hf;exact Mn (h.le _ (xi hk)) (h.le _ (Al hk)) (h.ne k hk)
def NN{rs:List (List ZP)}(h: ∀r∈rs,dq r): ∀f∈cb rs,FE f:=fun f hf=>by
 obtain⟨r,h1,h2⟩:=gK.1 hf;exact Zc (h r h1) f h2
def Yq{v w:ZP}(hv:ZP.le 100 v)(hw:ZP.le 100 w)(h:v≠w):PF GB prog 166 [eZ v.q,eZ w.q] (.tp [bh (dl v w),vB true]):=by
 have hf:=Mn hv hw h;haveI:LB (iO v.1 v.2 w.1 w.2):=hf.fo.lb;haveI:=wz hv;haveI:=wz hw;refine fn func166 J J ntmps166 J J (fun C=>?_);refine cl (fu:=⟨12⟩) J (Yf hv hw h) J<|?_;refine mf 14 J ?_;refine gx J<|cl J (Ed (l:=iO v.1 v.2 w.1 w.2) (p:=v.q) (i:=22)) J<|cl J (Ed (l:=iO v.1 v.2 w.1 w.2) (p:=w.q) (i:=22)) J<|?_;exact rz J J
def Bm{r:List ZP}{k:Nat}{p:aa}(h:(r.map ZP.q)[k]? =some p):k<r.length/\p=(r.getD k (0,0)).q:=by
 rw[eX] at h
 cases e:r[k]? with
 |none=>rw[e] at h;cases h
 |some z=>
  rw[e] at h;cases h;exact⟨(aU.1 e).1,by rw[aK,e];rfl⟩
def Dw(r:List ZP): ∀n,(jl r n).length=n
 |0=>rfl
 |n+1=>by rw[jl,aT,Dw r n];rfl
def KD{r:List ZP}{k:Nat}: ∀{n:Nat},k<n->(jl r n)[k]? =some (dl (r.getD k (0,0)) (e7 r k))
 |0,h=>by omega
 |n+1,h=>by
  rw[jl];by_cases e:k=n
  ·subst e
   rw[fR (by rw[Dw];omega),Dw,rY];rfl
  ·rw[cN (by rw[Dw];omega)]
   exact KD (by omega)
def xw(l:List aH):dG 17 (l.map bh):=fun d hd=>by
 obtain⟨x,_,rfl⟩:=bV.1 hd;exact⟨J,J⟩
def Xq{L:List aH}{k:Nat}{l:aH}(h:L[k]? =some l):((L.take k).map bh)++[bh l]=(L.take (k+1)).map bh:=by
 rw[gU,h,cR];rfl
def Gw{r:List ZP}(h:dq r):PF GB prog 74 [.sl ((r.map ZP.q).map eZ)] (.sl ((eG r).map bh)):=by
 have hn:=h.n6;obtain⟨v,hv⟩: ∃v,v=r.map ZP.q:=⟨_,rfl⟩;have hvl:v.length=r.length:=by rw[hv,aJ]
 rw[<-hv];have hel:(eG r).length=r.length:=(tq h).1;have hrl:(pb v).length=r.length:=by unfold pb;rw[aJ,nN,hvl]
 refine OY func74 J J ntmps74 J J (fun C h0=>?_);refine PD J J J Of (fun _=>J) (fun GB1 pv hg1 hpv=>?_);refine Fk 3 0 50 222 17 J J J J J ?_;refine Hy 3 2000003 h0.fx J ?_;refine ON (σ:=Empty) (fun k=>[(2000003,some (.o 130 [.rw 50] true)),(50,some (.b 222 17 (((eG r).take k).map bh) true))]) (fun _=>True) (fun _=>[]) (fun _=>False) [(3, .ov 2000003 0)]
  h0 J (N8 (by omega)) (.cons hpv .nil) ⟨J,trivial⟩ J ⟨J,J,trivial⟩ trivial J1 J J (fun k e GB' hE hg hp=>?_) (fun D hD hx hp=>?_) (fun D s hD hx hq=>hq.elim)
 ·obtain⟨p,q,hpx,hqx,rfl⟩:=Qr hE
  rw[hvl] at hqx;rw[hv] at hpx hqx;obtain⟨hk,rfl⟩:=Bm hpx;obtain⟨hk2,rfl⟩:=Bm hqx;have hx:(eG r)[k]? =some (dl (r.getD k (0,0)) (e7 r k)):=KD hk;have hml:(((eG r).take k).map bh).length=k:=by rw[aJ,bM];omega
  refine⟨?_,?_,fun C2=>?_,fun C2=>?_⟩
  rotate_left 2
  ·refine gx J<|M0 J J J ⟨J,J,J⟩ J ?_
   exact atR
  ·refine gx J<|Ba 0 (e:=141) (len:=2) (s:=6) J (by kernel_rfl) (by kernel_rfl) (by decide) J<|Ba 1 (e:=141) (len:=2) (s:=6) J (by kernel_rfl) (by kernel_rfl) (by decide) J<|?_
   refine cl J (Yq (h.le _ (xi hk)) (h.le _ (Al hk)) (h.ne k hk)) J<|?_;refine rf J J<|ap (((eG r).take (k+1)).map bh) J (Xq hx) (xw [dl (r.getD k (0,0)) (e7 r k)]) J<|?_;refine gI 23 50 J ?_;exact rq trivial ⟨J,J,trivial⟩
 ·rw[hrl,<-hel,dT]
  refine gx J<|?_;refine lB 50 J ?_;exact QD hD hx J J
def RW{a i:Nat}[h:BN a i](hi:i<=1000000000:=by decide):PF GB prog 348 [dN a] (.v (.bool true)):=
 (Q2 (ds:=dg a) (ew _).2.1 (by have:=mt (a:=a) hi;omega)).to (by unfold vB;rw[decide_eq_true (ew a).2.2])
def JY{q:Rat}{i:Nat}[hq:BQ q i](hi:i<=1000000:=by decide):PF GB prog 284 [eR q] (.v (.bool true)):=by
 have hd:=q.den_pos;have hdl:0<(dg q.den).length:=iV fun e=>by have:=um.1 e;omega
 have hml:((dg q.den).map dU).length=(dg q.den).length:=aJ ..;have hco:Nat.gcd q.num.natAbs q.den=1:=q.reduced;refine fn func284 J J ntmps284 J J (fun C=>?_);refine cl (fu:=⟨0⟩) J (rG (m:=q.num) (i:=i) (h:=⟨hq.hn⟩) (by omega)) J<|?_;refine mf 5 J ?_;refine gx J<|cl (fu:=⟨0⟩) J (RW (a:=q.den) (i:=i) (h:=⟨hq.hd⟩) (by omega)) J<|?_;refine mf 10 J ?_;refine gx (fu:=⟨6⟩) J<|dt J (by show some (decide _)=some false;rw[decide_eq_false (by omega)]) J<|cl (fu:=⟨0⟩) J (Eu (a:=q.num.natAbs) (b:=q.den) (i:=i) (j:=i) (h:=⟨hq.hn⟩) (k:=⟨hq.hd⟩) (by omega) (by omega)) J<|?_;refine ao 24 (.d (dN 1)) J (by rw[hco]) ?_;refine gx J<|cl J (uP (a:=1) (i:=1) (h:=⟨by decide⟩)) J<|?_;exact rz J J
def Z3{p:aa}{i:Nat}[hp:aI p i](hi:i<=1000000:=by decide):PF GB prog 189 [l6 p] (.v (.bool true)):=by
 refine fn func189 J J ntmps189 J J (fun C=>?_);refine cl (fu:=⟨0⟩) J (JY (q:=p.x) (i:=i) (by omega)) J<|?_;refine mf 5 J ?_;refine gx J<|cl J (JY (q:=p.y) (i:=i) (by omega)) J<|?_;exact rz J J
def mh(l:List aa)(p:aa):Int:=match l.findIdx? (fun q=>decide (q.x=p.x/\q.y=p.y)) with
 |some i=>(i:Nat)
 |none=> -1
def Dd{l:List aa}{p q:aa}{k:Nat}(hx:l[k]? =some q)(h:(l.take k).all (fun q=>!decide (q.x=p.x/\q.y=p.y))=true)(hq:q.x=p.x/\q.y=p.y):mh l p=(k:Nat):=by
 have hk:=(aU.1 hx).1;have e:l.findIdx? (fun q=>decide (q.x=p.x/\q.y=p.y))=some k:=by
  rw[List.findIdx?_eq_some_iff_getElem];refine⟨hk,?_,fun j hj=>?_⟩
  ·rw[(aU.1 hx).2];exact decide_eq_true hq
  ·have:=fX.1 h l[j] (by rw[List.mem_take_iff_getElem];exact⟨j,by omega,J⟩)
   simp at this⊢;intro a b;rcases this with k|k
   ·exact k a
   ·exact k b
 unfold mh;rw[e]
def V0{l:List aa}{p:aa}(h:l.all (fun q=>!decide (q.x=p.x/\q.y=p.y))=true):mh l p= -1:=by
 have e:l.findIdx? (fun q=>decide (q.x=p.x/\q.y=p.y))=none:=by
  rw[List.findIdx?_eq_none_iff];intro x hx;have:=fX.1 h x hx;simp at this⊢;intro a b;rcases this with k|k
  ·exact k a
  ·exact k b
 unfold mh;rw[e]
def ayF{l:List aa}{k:Nat}{q:aa}{g:aa->Bool}(hx:l[k]? =some q)(h:(l.take k).all g=true)(hq:g q=true):(l.take (k+1)).all g=true:=by
 rw[gU,hx,List.all_append,h];simp[hq]
def aAo{l:List aa}{p:aa}{i:Nat}[hp:aI p i](hl: ∀q∈l,aI q i)(hn:l.length<=100000)(hi:i<=1000000:=by decide):PF GB prog 191 [.sl (l.map eZ),eZ p] (vI (mh l p)):=by
 have hml:(l.map eZ).length=l.length:=aJ ..;refine fn (fu:=⟨11⟩) func191 J J ntmps191 J J (fun C=>?_);refine ao 8 (.d (vI (l.length:Nat))) J (by rw[hml]<;>rfl) ?_;refine gx J<|?_;refine lp (X:=Nat) (fun k=>[(9, .d (vI (k:Nat)))]) (fun k=>[]) (fun k=>k<=l.length/\(l.take k).all (fun q=>!decide (q.x=p.x/\q.y=p.y))=true) (fun k=>l.length-k) 0 J ⟨bK _,J⟩ (fun _=>J) (fun k hk=>?_);obtain⟨hk,hall⟩:=hk;refine br J J J (fun hc10=>?_) (fun hc10=>?_)
 .
  obtain⟨q,hx⟩: ∃u,l[k]? =some u:=⟨_,aX (by omega)⟩;haveI:=hl q (aS hx);refine ix _ J (d6 hx) J<|cl J (O5 (p:=q) (q:=p) (i:=i) hi) J<|?_;refine bd J J J (fun hc16=>?_) (fun hc16=>?_)
  .
   exact rz J (by rw[Dd hx hall hc16];rfl)
  .
   exact at_ (k+1) ⟨⟨by omega,ayF hx hall (by rw[decide_eq_false hc16];rfl)⟩,(by omega)⟩
 .
  obtain rfl:k=l.length:=by omega
  rw[dT] at hall;exact rz J (by rw[V0 hall];rfl)
def e8(l:List aa):Nat->Nat
 |0=>0
 |k+1=>e8 l k+if mh l (l.getD k ⟨0,0⟩)=(k:Nat) then 1 else 0
def kv(l:List aa)(k:Nat):Nat:=if 3<=e8 l k then 3 else e8 l k
def T2{l:List aa}{k:Nat}(h:kv l k<3)(e:e8 l (k+1)=e8 l k+1):((kv l k:Nat):Int)+1=((kv l (k+1):Nat):Int):=by
 have a:kv l k=if 3<=e8 l k then 3 else e8 l k:=J
 have b:kv l (k+1)=if 3<=e8 l (k+1) then 3 else e8 l (k+1):=J
 split at a<;>split at b<;>omega
def LR{l:List aa}{k:Nat}(h: ¬kv l k<3\/e8 l (k+1)=e8 l k)(m:e8 l k<=e8 l (k+1)):((kv l k:Nat):Int)=((kv l (k+1):Nat):Int):=by
 have a:kv l k=if 3<=e8 l k then 3 else e8 l k:=J
 have b:kv l (k+1)=if 3<=e8 l (k+1) then 3 else e8 l (k+1):=J
 split at a<;>split at b<;>omega
def aGk(l:List aa)(k:Nat):kv l k<=3:=by unfold kv;split<;>omega
def SN{l:List aa}{k:Nat}(h:3<=e8 l k):kv l k=3:=by unfold kv;rw[if_pos h]
def C6{l:List aa}{k:Nat}{p:aa}(hx:l[k]? =some p)(h:mh l p=(k:Nat)):e8 l (k+1)=e8 l k+1:=by
 rw[e8,aK,hx,jZ,if_pos h]
def Xz{l:List aa}{k:Nat}{p:aa}(hx:l[k]? =some p)(h: ¬mh l p=(k:Nat)):e8 l (k+1)=e8 l k:=by
 rw[e8,aK,hx,jZ,if_neg h];rfl
def O7{l:List aa}{k:Nat}:e8 l k<=e8 l (k+1):=by rw[e8];split<;>omega
def Uu{v:List aa}{k:Nat}{p:aa}(h:v[k]? =some p):((v.take k).map eZ)++[eZ p]=(v.take (k+1)).map eZ:=by
 rw[gU,h,cR];rfl
def aCv{r:List ZP}(h:dq r){k:Nat}(hk:k<r.length):decide ((r.getD k (0,0)).q.x=(e7 r k).q.x/\(r.getD k (0,0)).q.y=(e7 r k).q.y)=false:=decide_eq_false fun e=>h.ne k hk (zy (by
 obtain⟨e1,e2⟩:=e;generalize (r.getD k (0,0)).q=a at*;generalize (e7 r k).q=b at*
 cases a;cases b
 simp only[aa.mk.injEq];exact⟨e1,e2⟩))
def Zu{r:List ZP}(h:dq r)(h3:3<=e8 (r.map ZP.q) (r.map ZP.q).length):PF GB prog 102 [lG r] (.tp [.sl ((r.map ZP.q).map eZ), .v .nilIface]):=by
 have hn:=h.n6;obtain⟨v,hv⟩: ∃v,v=r.map ZP.q:=⟨_,rfl⟩;have hvl:v.length=r.length:=by rw[hv,aJ]
 have hb: ∀p∈v,aI p 22:=fun p hp=>by rw[hv] at hp;obtain⟨z,hz,rfl⟩:=bV.1 hp;exact wz (h.le z hz)
 unfold lG;rw[<-hv] at h3⊢;have hm1:(v.map l6).length=v.length:=aJ ..;have hm2:(v.map eZ).length=v.length:=aJ ..;have hrl:(pb v).length=v.length:=by unfold pb;rw[aJ,nN]
 refine OY (fu:=⟨11⟩) func102 J J ntmps102 J J (fun C h0=>?_);refine ao 13 (.d (vI (v.length:Nat))) J (by rw[hm1]<;>rfl) ?_;refine gx (fu:=⟨0⟩) J<|dt (fu:=⟨15⟩) J (by show some (decide _)=some false;rw[decide_eq_false (by omega)]) J<|?_;refine ao 20 (.d (vI (v.length:Nat))) J (by rw[hm1]<;>rfl) ?_;refine gx J<|?_;refine nr 4 4 141 6 J J J ?_;refine lp (X:=Nat) (fun k=>[(21, .d (vI (k:Nat))),(4, .rw 4)]) (fun k=>[(4,some (.b 141 6 ((v.take k).map eZ) true))]) (fun k=>k<=v.length) (fun k=>v.length-k) 0 J (bK _) (fun _=>J) (fun k hk=>?_);have hm3:((v.take k).map eZ).length<=k:=by rw[aJ,bM];omega
 refine br (fu2:=⟨0⟩) J J J (fun hc22=>?_) (fun hc22=>?_)
 .
  obtain⟨p,hx⟩: ∃u,v[k]? =some u:=⟨_,aX (by omega)⟩;haveI:=hb p (aS hx);refine ix _ J (d6 hx) J<|cl (fu:=⟨0⟩) J (Z3 (p:=p) (i:=22)) J<|?_;refine mf 27 J ?_;refine gx J<|cl J (IU (p:=p) (i:=22)) J<|rf J J<|ap ((v.take (k+1)).map eZ) J (Uu hx) (Bb [p]) J<|?_;refine gI 41 4 J ?_;exact at_ (k+1) ⟨(by omega),(by omega)⟩
 .
  obtain rfl:k=v.length:=by omega
  rw[dT];refine qD 4 J ?_;refine gx (fu:=⟨15⟩) J<|?_;refine ao 44 (.d (vI (v.length:Nat))) J (by rw[hm2]<;>rfl) ?_;refine gx J<|?_;refine lp (X:=Nat) (fun k=>[(45, .d (vI (k:Nat))),(7, .d (vI ((kv v k):Nat)))]) (fun k=>[]) (fun k=>k<=v.length) (fun k=>v.length-k) 0 J (bK _) (fun _=>J) (fun k hk=>?_);have hdm:=aGk v k;refine br (fu2:=⟨9⟩) J J J (fun hc46=>?_) (fun hc46=>?_)
  .
   obtain⟨p,hx⟩: ∃u,v[k]? =some u:=⟨_,aX (by omega)⟩;haveI:=hb p (aS hx);have hcm:=O7 (l:=v) (k:=k);refine ix _ J (d6 hx) J<|?_;refine cs 52 J J J (fun hg52=>?_) (fun hg52=>?_)
   .
    refine cl J (aAo (l:=v) (p:=p) (i:=22) hb (by omega)) J<|?_;refine br J J J (fun hc58=>?_) (fun hc58=>?_)
    .
     have he7:=T2 (by omega) (C6 hx (by omega));refine ao 7 (.d (vI (kv v (k+1):Nat))) J (by rw[he7]<;>rfl) ?_;exact at_ (k+1) ⟨(by omega),(by omega)⟩
    .
     have he7:=LR (.inr (Xz hx (by omega))) hcm;refine ao 7 (.d (vI (kv v (k+1):Nat))) J (by rw[he7]<;>rfl) ?_;exact at_ (k+1) ⟨(by omega),(by omega)⟩
   .
    have he7:=LR (l:=v) (k:=k) (.inl (by omega)) hcm;refine ao 7 (.d (vI (kv v (k+1):Nat))) J (by rw[he7]<;>rfl) ?_;exact at_ (k+1) ⟨(by omega),(by omega)⟩
  .
   obtain rfl:k=v.length:=by omega
   have hd3:=SN h3;refine dt (fu:=⟨9⟩) J (by show some (decide _)=some false;rw[decide_eq_false (by omega)]) J<|?_;refine PD J J J Of (fun _=>J) (fun GB1 pv hg1 hpv=>?_);refine Hy 2 2000002 h0.fx J<|Hy 3 2000003 h0.fx J ?_;refine ON (σ:=Empty) (fun _=>[(2000002,some (.o 132 [.nl] true)),(2000003,some (.o 34 [.d (.v .nilIface)] true))]) (fun _=>True) (fun _=>[]) (fun _=>False) [(2, .ov 2000002 0),(3, .ov 2000003 0),(4, .d (.sl (v.map eZ)))] h0 J (N8 (by omega)) (.cons hpv .nil) ⟨J,J,J,trivial⟩ J ⟨J,J,trivial⟩ trivial J1 J J (fun k e GB' hE hg hp=>?_) (fun D hD hx hp=>?_) (fun D s hD hx hq=>hq.elim)
   ·obtain⟨p,q,hpx,hqx,rfl⟩:=Qr hE
    rw[hvl] at hqx;rw[hv] at hpx hqx;obtain⟨hk,rfl⟩:=Bm hpx;obtain⟨hk2,rfl⟩:=Bm hqx;haveI:=wz (h.le _ (xi hk));haveI:=wz (h.le _ (Al hk));have hne:=aCv h hk;refine⟨?_,?_,fun C2=>?_,fun C2=>?_⟩
    rotate_left 2
    ·refine gx J<|M0 J J J ⟨J,J,J⟩ J ?_
     exact atR
    ·refine gx J<|Ba 0 (e:=141) (len:=2) (s:=6) J (by kernel_rfl) (by kernel_rfl) (by decide) J<|Ba 1 (e:=141) (len:=2) (s:=6) J (by kernel_rfl) (by kernel_rfl) (by decide) J<|?_
     refine cl J (O5 (p:=(r.getD k (0,0)).q) (q:=(e7 r k).q) (i:=22)) J<|?_;refine bd J J J (fun hc=>absurd (decide_eq_true hc) (by rw[hne];decide)) (fun hc=>?_);exact rq trivial ⟨J,J,trivial⟩
   ·refine gx J<|?_
    exact QD hD hx J J
structure ld (r:List ZP):Prop where
 ok:dq r
 c3:3<=e8 (r.map ZP.q) (r.map ZP.q).length
def q6(r:List ZP):DV:= .sl ((r.map ZP.q).map eZ)
def aEY(l:List (List ZP)):dG 1 (l.map q6):=fun d hd=>by
 obtain⟨x,_,rfl⟩:=bV.1 hd;exact⟨J,J⟩
def Zg{L:List (List ZP)}{k:Nat}{l:List ZP}(h:L[k]? =some l):((L.take k).map q6)++[q6 l]=(L.take (k+1)).map q6:=by
 rw[gU,h,cR];rfl
def EV{L:List (List ZP)}{k:Nat}{l:List ZP}(h:L[k]? =some l):((cb (L.take k)).map bh)++((eG l).map bh)=(cb (L.take (k+1))).map bh:=by
 rw[Mh h,cR]
def K7{rs:List (List ZP)}(h: ∀r∈rs,ld r)(hn:rs.length<=200):PF GB prog 73 [.sl (rs.map lG)] (.tp [.sl (rs.map q6), .v .nilIface]):=by
 have hml:(rs.map lG).length=rs.length:=aJ ..;refine fn (fu:=⟨11⟩) func73 J J ntmps73 J J (fun C=>?_);refine ao 10 (.d (vI (rs.length:Nat))) J (by rw[hml]<;>rfl) ?_;refine gx (fu:=⟨0⟩) J<|dt (fu:=⟨15⟩) J (by show some (decide _)=some false;rw[decide_eq_false (by omega)]) J<|?_;refine ao 17 (.d (vI (rs.length:Nat))) J (by rw[hml]<;>rfl) ?_;refine gx J<|?_;refine nr 4 4 132 1 J J J ?_;refine lp (X:=Nat) (fun k=>[(18, .d (vI (k:Nat))),(4, .rw 4)]) (fun k=>[(4,some (.b 132 1 ((rs.take k).map q6) true))]) (fun k=>k<=rs.length) (fun k=>rs.length-k) 0 J (bK _) (fun _=>J) (fun k hk=>?_);have hm3:((rs.take k).map q6).length<=k:=by rw[aJ,bM];omega
 refine br J J J (fun hc19=>?_) (fun hc19=>?_)
 .
  obtain⟨r,hx⟩: ∃u,rs[k]? =some u:=⟨_,aX (by omega)⟩;have hr:=h r (aS hx);refine ix _ J (d6 hx) J<|cl (fu:=⟨11⟩) J (Zu hr.ok hr.c3) J<|dt J J J<|rf J J<|ap ((rs.take (k+1)).map q6) J (Zg hx) (aEY [r]) J<|?_;refine gI 33 4 J ?_;exact at_ (k+1) ⟨(by omega),(by omega)⟩
 .
  obtain rfl:k=rs.length:=by omega
  rw[dT];refine lB 4 J ?_;exact rz J J
def SS{rs:List (List ZP)}(h: ∀r∈rs,ld r)(hn:rs.length<=200):PF GB prog 107 [.sl (rs.map lG)] (.tp [.sl ((cb rs).map bh), .v .nilIface]):=by
 have hml:(rs.map q6).length=rs.length:=aJ ..;refine fn func107 J J ntmps107 J J (fun C=>?_);refine cl (fu:=⟨11⟩) J (K7 h hn) J<|dt (fu:=⟨15⟩) J J J<|?_;refine ao 18 (.d (vI (rs.length:Nat))) J (by rw[hml]<;>rfl) ?_;refine gx J<|?_;refine nr 6 6 222 17 J J J ?_;refine lp (X:=Nat) (fun k=>[(19, .d (vI (k:Nat))),(6, .rw 6)]) (fun k=>[(6,some (.b 222 17 ((cb (rs.take k)).map bh) true))]) (fun k=>k<=rs.length) (fun k=>rs.length-k) 0 J (bK _) (fun _=>J) (fun k hk=>?_);have hm5:=vm (fun r hr=>(h r hr).ok) k;have hm3:((cb (rs.take k)).map bh).length<=6*k:=by rw[aJ];exact vm (fun r hr=>(h r hr).ok) k
 refine br J J J (fun hc20=>?_) (fun hc20=>?_)
 .
  obtain⟨r,hx⟩: ∃u,rs[k]? =some u:=⟨_,aX (by omega)⟩;have hr:=h r (aS hx);have hel:=(tq hr.ok).1;have hn6:=hr.ok.n6;have hm4:((eG r).map bh).length=(eG r).length:=aJ ..;refine ix _ J (d6 hx) J<|cl J (Gw hr.ok) J<|ap ((cb (rs.take (k+1))).map bh) J (EV hx) (xw (eG r)) J<|?_;refine gI 26 6 J ?_;exact at_ (k+1) ⟨(by omega),(by omega)⟩
 .
  obtain rfl:k=rs.length:=by omega
  rw[dT];refine lB 6 J ?_;exact rz J J
def Y0{rs:List (List ZP)}(h: ∀r∈rs,ld r)(hn:rs.length<=200):(cb rs).length<=1200:=by
 have:=(ng fun r hr=>(h r hr).ok).1;omega
def Ig(rs:List (List ZP))(p:aa):Bool:=(cb rs).any fun f=>qA f p
def F6{fill n:Int}:PF GB prog 59 [vI fill,vI n] (vB (tH fill n)):=by
 refine fn func59 J J ntmps59 J J (fun C=>?_);refine br J J J (fun hc6=>?_) (fun hc6=>?_)
 .
  exact rz J (by show DV.v (.bool _)= .v (.bool _);unfold tH;simp_all)
 .
  refine br J J J (fun hc11=>?_) (fun hc11=>?_)
  .
   exact rz J (by show DV.v (.bool _)= .v (.bool _);unfold tH;simp_all)
  .
   exact rz J (by show DV.v (.bool _)= .v (.bool _);unfold tH;simp_all)
def SE{rs:List (List ZP)}(h: ∀r∈rs,ld r)(hn:rs.length<=200){p:aa}{i:Nat}[hp:aI p i](hno:Ig rs p=false)(hi:i<=100000:=by decide):PF GB prog 50 [.sl (rs.map lG),l6 p] (.tp [vI (io (cb rs) p), .v .nilIface]):=by
 have hel:=Y0 h hn;have hfe:=NN fun r hr=>(h r hr).ok;refine fn func50 J J ntmps50 J J (fun C=>?_);refine cl J (SS h hn) J<|cl (fu:=⟨9⟩) J (IU (p:=p) (i:=i) (by omega)) J<|dt J J J<|cl (fu:=⟨0⟩) J (aJd (E:=cb rs) hfe (by omega) (p:=p) (i:=i) hi) J<|?_;refine ao 23 (.d (vB false)) J (by rw[show(cb rs).any (fun f=>qA f p)=false from hno]) ?_;refine qn 23 J ?_;refine gx J<|cl J (No (E:=cb rs) hfe (by omega) (p:=p) (i:=i) hi) J<|?_;exact rz J J
end Go.Sx
end
