import Derived.Test.YtochlbkonkgedaaGreatDoorQb18
set_option linter.all false
set_option maxHeartbeats 1000000
set_option maxRecDepth 100000
section
namespace Go.Sx
open Go Go.Proofs Tryz
variable {GB:Gh}
def Iu(f:aE)(p:aa):Bool:=f.v.nh||decide (cg (cB f.l p) f.v.hi<0)
def Hu(f:aE)(p:aa):Bool:=f.v.nl||decide (0<cg (cB f.l p) f.v.lo)
def iC(p:aa)(f:aE):List aa:=if kl f p then(if Iu f p then [ck f.l.dir] else [])++(if Hu f p then [bp (ck f.l.dir)] else []) else []
def lm(E:List aE)(p:aa):List aa:=gl (E.flatMap (iC p))
def p8(p d q:aa):Rat:=(⟨q.x-p.x,q.y-p.y⟩:aa).dot d/d.dot d
def q8(a b:Rat):Rat×Bool:=
 if 0<Int.sign b.num/\(¬0<Int.sign a.num\/cg b a<0) then(b,true) else if 0<Int.sign a.num then(a,true) else(0,false)
def gm(f:aE)(p d:aa):Rat×Bool:=
 if f.l.nor.dot d=0 then(if f.l.value p=0 then q8 (p8 p d (f.l.at f.v.lo)) (p8 p d (f.l.at f.v.hi)) else(0,false))
 else(-(f.l.value p/f.l.nor.dot d),decide (0<Int.sign (-(f.l.value p/f.l.nor.dot d)).num)&&qD f.v (cB f.l (bt p d (-(f.l.value p/f.l.nor.dot d)))))
def jl(p d:aa)(s:Rat)(f:aE):Rat:=if kl f p then s else if(gm f p d).2 then(if(gm f p d).1<s then(gm f p d).1 else s) else s
def ny(E:List aE)(p d:aa):aa:=bt p d (E.foldl (jl p d) 1*mkRat 1 2)
def zj(E:List aE)(p:aa)(acc:aa->Bool):Int:=
 if((fy (lm E p)).any fun v=>acc (ny E p v))&&(fy (lm E p)).all (fun v=>acc (ny E p v)) then 2 else if(fy (lm E p)).any fun v=>acc (ny E p v) then 1 else 0
def Ub{a b:Rat}:((q8 a b).2=true->0<(q8 a b).1)/\(∀t,0<t->(0<a/\a<=t\/0<b/\b<=t)->(q8 a b).2=true/\(q8 a b).1<=t):=by
 unfold q8;simp only[kC,Bn];split
 ·exact⟨fun _=>by dsimp only;grind,fun t t0 h=>⟨J,by dsimp only;grind⟩⟩
 ·split
  ·exact⟨fun _=>by dsimp only;grind,fun t t0 h=>⟨J,by dsimp only;grind⟩⟩
  ·exact⟨fun h=>by simp at h,fun t t0 h=>by grind⟩
def aBI{f:aE}{p d:aa}(h:(gm f p d).2=true):0<(gm f p d).1:=by
 unfold gm at*;split at h
 ·rw[if_pos (by assumption)]
  split at h
  ·rw[if_pos (by assumption)];exact Ub.1 h
  ·cases h
 ·rw[if_neg (by assumption)]
  simp only[aL,decide_eq_true_eq,kC] at h;exact h.1
def Sy{d:aa}(h:d≠⟨0,0⟩):0<d.dot d:=by
 have:=J7 (x:=d.x) (y:=d.y) fun k=>h (by cases d;simp only[aa.mk.injEq] at*;exact k);unfold aa.dot;exact this
def Rl{l:ab}(ho:l.ok){p d q:aa}(hd:d≠⟨0,0⟩)(h0:l.nor.dot d=0)(h1:l.value p=0)(h2:l.value q=0):q=bt p d (p8 p d q):=by
 have hp:=Sy hd;have hn: ¬(l.nor.x=0/\l.nor.y=0):=fun k=>by
  have hq:l.Ne:=ho.ne;refine hq ⟨?_,?_⟩
  ·have:=k.1;unfold ab.nor at this;dsimp only at this;exact_mod_cast this
  ·have:=k.2;unfold ab.nor at this;dsimp only at this;exact_mod_cast this
 have e:l.nor.dot ⟨q.x-p.x,q.y-p.y⟩=0:=by rw[Ly,h1,h2];grind
 unfold p8 bt;have ed:(⟨q.x-p.x,q.y-p.y⟩:aa).dot d/d.dot d*d.dot d=(⟨q.x-p.x,q.y-p.y⟩:aa).dot d:=by
  generalize d.dot d=m at*;exact Es (by grind)
 have ec:(q.x-p.x)*d.y=(q.y-p.y)*d.x:=by
  unfold aa.dot at e h0;dsimp only at e;generalize l.nor.x=a at*;generalize l.nor.y=b at*;by_cases k:a=0
  ·have hb:b≠0:=fun z=>hn ⟨k,z⟩
   rw[k] at e h0;have e1:b*(q.y-p.y)=0:=by grind
   have e2:b*d.y=0:=by grind
   rw[(cS.1 e1).resolve_left hb,(cS.1 e2).resolve_left hb];grind
  ·have e3:a*((q.x-p.x)*d.y-(q.y-p.y)*d.x)=0:=by grind
   have:=(cS.1 e3).resolve_left k;grind
 have e1:(q.x-p.x)*d.dot d=(⟨q.x-p.x,q.y-p.y⟩:aa).dot d*d.x:=by unfold aa.dot;dsimp only;grind
 have e2:(q.y-p.y)*d.dot d=(⟨q.x-p.x,q.y-p.y⟩:aa).dot d*d.y:=by unfold aa.dot;dsimp only;grind
 generalize (⟨q.x-p.x,q.y-p.y⟩:aa).dot d/d.dot d=k at*;generalize (⟨q.x-p.x,q.y-p.y⟩:aa).dot d=n at*;generalize d.dot d=m at*;have m0:m≠0:=by grind
 have f1:m*(q.x-p.x-k*d.x)=0:=by grind
 have f2:m*(q.y-p.y-k*d.y)=0:=by grind
 have g1:=(cS.1 f1).resolve_left m0;have g2:=(cS.1 f2).resolve_left m0
 cases q
 simp only[aa.mk.injEq] at*;constructor<;>grind
def aAP{p d:aa}(hd:d≠⟨0,0⟩){s t:Rat}(h:bt p d s=bt p d t):s=t:=by
 have hp:=Sy hd;have hx:=congrArg aa.x h;have hy:=congrArg aa.y h;unfold bt at hx hy;dsimp only at hx hy;unfold aa.dot at hp;have:(s-t)*(d.x*d.x+d.y*d.y)=0:=by grind
 have:=(cS.1 this).resolve_right (by grind);grind
def V7{v w:ZP}(h:v≠w)(ho:(bj v w).l.ok){p d:aa}(hd:d≠⟨0,0⟩)(hp: ¬iH v.q w.q p){t:Rat}(t0:0<t)(ht:iH v.q w.q (bt p d t)):(gm (bj v w) p d).2=true/\(gm (bj v w) p d).1<=t:=by
 obtain⟨e1,e2,e3⟩:=Al h ho;have hv:=FH.1 ((FL h ho).2 ht);have hz:(bj v w).l.value p+t*(bj v w).l.nor.dot d=0:=by rw[<-i6];exact hv.1
 unfold gm;by_cases k:(bj v w).l.nor.dot d=0
 ·have hc:(bj v w).l.value p=0:=by rw[k] at hz;grind
  rw[if_pos k,if_pos hc,e1,e2];have a1:(bj v w).l.value v.q=0:=by rw[<-e1];exact pn ho.ne _
  have a2:(bj v w).l.value w.q=0:=by rw[<-e2];exact pn ho.ne _
  have b1:=Rl ho hd k hc a1;have b2:=Rl ho hd k hc a2;generalize p8 p d v.q=s1 at*;generalize p8 p d w.q=s2 at*;obtain⟨s,z0,z1,es⟩:=ht;rw[b1,b2,DY] at es;have et:=aAP hd es;refine Ub.2 t t0 ?_
  -- p does not lie between
  have hn: ∀m,0<=m->m<=1->s1+m*(s2-s1)≠0:=fun m m0 m1 em=>hp ⟨m,m0,m1,by
   rw[b1,b2,DY,em];unfold bt;cases p;simp only[aa.mk.injEq];constructor<;>grind⟩
  have n1:s1≠0:=fun e=>hn 0 (by decide) (by decide) (by rw[e];grind);have n2:s2≠0:=fun e=>hn 1 (by decide) (by decide) (by rw[e];grind);have key: ∀x y:Rat,x<0->0<y->0<= -x/(y-x)/\ -x/(y-x)<=1/\x+ -x/(y-x)*(y-x)=0:=fun x y hx hy=>by
   have em: -x/(y-x)*(y-x)= -x:=Es (by grind);have q0:=div_pos (a:= -x) (b:=y-x) (by grind) (by grind);generalize-x/(y-x)=m at*;refine⟨cM q0,?_,by rw[em];grind⟩;have:=(ig (s:=1-m) (k:=y-x) (by grind)).1 (by
    have:(1-m)*(y-x)=(y-x)-m*(y-x):=by grind
    rw[this,em];grind)
   grind
  rcases eB s1 with q1|q1|q1
  ·exact absurd q1 n1
  ·rcases eB s2 with q2|q2|q2
   ·exact absurd q2 n2
   ·by_cases c:s1<=s2
    ·have:=cj z0 (show 0<=s2-s1 by grind)
     exact .inl ⟨q1,by grind⟩
    ·have:=cj (show 0<=1-s by grind) (show 0<=s1-s2 by grind)
     exact .inr ⟨q2,by grind⟩
   ·obtain⟨c1,c2,c3⟩:=key s2 s1 q2 q1
    exfalso;refine hn (1- -s2/(s1-s2)) (by grind) (by grind) ?_;generalize-s2/(s1-s2)=m at*;grind
  ·rcases eB s2 with q2|q2|q2
   ·exact absurd q2 n2
   ·obtain⟨c1,c2,c3⟩:=key s1 s2 q1 q2
    exact absurd c3 (hn _ c1 c2)
   ·exfalso
    have:=cj z0 (show 0<= -s2 by grind);have:=cj (show 0<=1-s by grind) (show 0<= -s1 by grind);grind
 ·rw[if_neg k]
  have et: -((bj v w).l.value p/(bj v w).l.nor.dot d)=t:=by
   generalize (bj v w).l.nor.dot d=n at*;generalize (bj v w).l.value p=z at*;grind
  rw[et];exact⟨by rw[aL,decide_eq_true_eq,kC,Qu];exact⟨t0,hv.2⟩,fZ⟩
def MQ{p d:aa}: ∀{E:List aE} {s:Rat},0<s->0<E.foldl (jl p d) s/\E.foldl (jl p d) s<=s/\ ∀f∈E,kl f p=false->(gm f p d).2=true->E.foldl (jl p d) s<=(gm f p d).1
 |[],s,h=>⟨h,fZ,fun f hf=>by cases hf⟩
 |g::E,s,h=>by
  have key:0<jl p d s g/\jl p d s g<=s/\(kl g p=false->(gm g p d).2=true->jl p d s g<=(gm g p d).1):=by
   unfold jl;by_cases h1:kl g p=true
   ·rw[if_pos h1];exact⟨h,fZ,fun q=>by rw[h1] at q;cases q⟩
   ·rw[if_neg h1]
    by_cases h2:(gm g p d).2=true
    ·rw[if_pos h2]
     have:=aBI h2;split
     ·exact⟨this,by grind,fun _ _=>fZ⟩
     ·exact⟨h,fZ,fun _ _=>by grind⟩
    ·rw[if_neg h2];exact⟨h,fZ,fun _ q=>absurd q h2⟩
  obtain⟨k1,k2,k3⟩:=key;obtain⟨i1,i2,i3⟩:=MQ (p:=p) (d:=d) (E:=E) k1;rw[dT];refine⟨i1,by grind,fun f hf q1 q2=>?_⟩;rcases aW.1 hf with rfl|hf
  ·have:=k3 q1 q2;grind
  ·exact i3 f hf q1 q2
def S1{rs:List (List ZP)}(hr: ∀r∈rs,cp r){f:aa×aa}(hf:f∈ER rs): ∃v w:ZP,v≠w/\(bj v w).l.ok/\bj v w∈bO rs/\f=(v.q,w.q):=by
 obtain⟨r,h1,h2⟩:=cN.1 hf;obtain⟨k,hk,rfl⟩:=bJ.1 h2;have hk':=jY.1 hk;have hm:=Br (r:=r) (k:=k) (n:=r.length) hk';exact⟨_,_,(hr r h1).ne k hk',((rA (hr r h1)).2 _ hm).ok,cN.2 ⟨r,h1,hm⟩,J⟩
def JG{r:List ZP}: ∀{n:Nat} {f:aE},f∈jr r n-> ∃k,k<n/\f=bj (r.getD k (0,0)) (dP r k)
 |0,f,h=>by simp[jr] at h
 |n+1,f,h=>by
  rw[jr] at h;rcases bW.1 h with h|h
  ·obtain⟨k,h1,h2⟩:=JG h
   exact⟨k,by omega,h2⟩
  ·exact⟨n,by omega,aV.1 h⟩
def M0{rs:List (List ZP)}(hr: ∀r∈rs,cp r){f:aE}(hf:f∈bO rs): ∃v w:ZP,v≠w/\(bj v w).l.ok/\f=bj v w/\(v.q,w.q)∈ER rs:=by
 obtain⟨r,h1,h2⟩:=cN.1 hf;have ho:=((rA (hr r h1)).2 _ h2).ok;obtain⟨k,hk,rfl⟩:=JG h2;exact⟨_,_,(hr r h1).ne k hk,ho,J,cN.2 ⟨r,h1,bJ.2 ⟨k,jY.2 hk,J⟩⟩⟩
def Sm{rs:List (List ZP)}{fill:Int}{p v:aa}(hr: ∀r∈rs,cp r)(hv:lG (ER rs) p v):ow rs fill p v (fe rs fill (ny (bO rs) p v)):=by
 obtain⟨k1,k2,k3⟩:=MQ (p:=p) (d:=v) (E:=bO rs) (s:=1) (by decide);unfold ny;generalize (bO rs).foldl (jl p v) 1=s at*;have hh:s*mkRat 1 2=s/2:=by rw[show mkRat 1 2=(1:Rat)/2 by decide+kernel];grind
 rw[hh];refine Z2 hr (by grind) hv fun f hf hn t t0 t1 ho=>?_;obtain⟨a,b,h1,h2,h3,rfl⟩:=S1 hr hf;obtain⟨c1,c2⟩:=V7 h1 h2 hv.1 hn t0 ho;have:=k3 _ h3 (by
  cases e:kl (bj a b) p with
  |false=>rfl
  |true=>exact absurd ((FL h1 h2).1 e) hn) c1
 grind
def axO{l:ab}(h:l.ok): ∃a:Rat,0<a/\ck l.dir=⟨a*l.dir.x,a*l.dir.y⟩:=zq (yq h)
def uO{r:aa}{k:Rat}(hk:0<k)(u:aa):tn ⟨k*r.x,k*r.y⟩ u↔tn r u:=by
 constructor
 ·rintro ⟨m,m0,rfl⟩
  exact⟨m*k,bF m0 hk,by simp only[aa.mk.injEq];constructor<;>grind⟩
 ·rintro ⟨m,m0,rfl⟩
  have e:m/k*k=m:=Es (by grind);refine⟨m/k,div_pos m0 hk,?_⟩;generalize m/k=q at*;simp only[aa.mk.injEq];constructor<;>grind
def QG(l:ab)(a b:Rat):(⟨(l.at a).x-(l.at b).x,(l.at a).y-(l.at b).y⟩:aa)=⟨(a-b)*l.dir.x,(a-b)*l.dir.y⟩:=by
 unfold ab.at aa.add aa.scale;simp only[aa.mk.injEq];constructor<;>grind
def M6{v w:ZP}(h:v≠w)(ho:(bj v w).l.ok)(p u:aa):(∃r,Fd v.q w.q p r/\tn r u)↔ ∃d∈iC p (bj v w),tn d u:=by
 obtain⟨e1,e2,e3⟩:=Al h ho;obtain⟨α,a0,ea⟩:=axO ho;have b1:(bj v w).v.nl=false:=J;have b2:(bj v w).v.nh=false:=J;unfold Fd iC;by_cases hp:iH v.q w.q p
 ·have hf:=(FL h ho).2 hp
  rw[if_pos hf];obtain⟨hz,h1,h2⟩:=FH.1 hf;rw[b1] at h1;rw[b2] at h2;have h1:(bj v w).v.lo<=cB (bj v w).l p:=by simpa using h1
  have h2:cB (bj v w).l p<=(bj v w).v.hi:=by simpa using h2
  have ep:=Fk ho.ne hz;unfold Iu Hu;simp only[b1,b2,sU,decide_eq_true_eq,Bn,Dp,ea];have dw:=QG (bj v w).l (bj v w).v.hi (cB (bj v w).l p);have dv:=QG (bj v w).l (bj v w).v.lo (cB (bj v w).l p);rw[ep,e2] at dw;rw[ep,e1] at dv;have nw:w.q≠p↔cB (bj v w).l p<(bj v w).v.hi:=by
   constructor
   ·intro k
    have:cB (bj v w).l p≠(bj v w).v.hi:=fun e=>k (by rw[<-e2,<-e,ep]);grind
   ·rintro k e
    have:=CM ho.ne (bj v w).v.hi;rw[e2,e] at this;grind
  have nv:v.q≠p↔(bj v w).v.lo<cB (bj v w).l p:=by
   constructor
   ·intro k
    have:cB (bj v w).l p≠(bj v w).v.lo:=fun e=>k (by rw[<-e1,<-e,ep]);grind
   ·rintro k e
    have:=CM ho.ne (bj v w).v.lo;rw[e1,e] at this;grind
  rw[nw,nv,dw,dv];generalize cB (bj v w).l p=t at*;generalize (bj v w).v.lo=lo at*;generalize (bj v w).v.hi=hi at*;generalize (bj v w).l.dir=D at*;have en: ∀k:Rat,(⟨k*D.x,k*D.y⟩:aa)=⟨-k*(bp D).x, -k*(bp D).y⟩:=fun k=>by unfold bp;simp only[aa.mk.injEq];constructor<;>grind
  have en2:bp ⟨α*D.x,α*D.y⟩=⟨α*(bp D).x,α*(bp D).y⟩:=by unfold bp;simp only[aa.mk.injEq];constructor<;>grind
  constructor
  ·rintro ⟨r,⟨_,hr⟩,hu⟩
   rcases hr with⟨rfl,k⟩|⟨rfl,k⟩
   ·refine⟨_,bM _ (by rw[if_pos k];exact aV.2 J),?_⟩
    rw[uO a0];exact(uO (show 0<hi-t by grind) u).1 hu
   ·refine⟨_,cJ _ (by rw[if_pos k];exact aV.2 J),?_⟩
    rw[en2,uO a0];rw[en] at hu;exact(uO (show 0< -(lo-t) by grind) u).1 hu
  ·rintro ⟨d,hd,hu⟩
   rcases bW.1 hd with hd|hd
   ·split at hd
    ·rename_i k
     rw[aV.1 hd,uO a0] at hu;exact⟨_,⟨hp, .inl ⟨J,k⟩⟩,(uO (show 0<hi-t by grind) u).2 hu⟩
    ·cases hd
   ·split at hd
    ·rename_i k
     rw[aV.1 hd,en2,uO a0] at hu;refine⟨_,⟨hp, .inr ⟨J,k⟩⟩,?_⟩;rw[en];exact(uO (show 0< -(lo-t) by grind) u).2 hu
    ·cases hd
 ·have hf:kl (bj v w) p≠true:=fun k=>hp ((FL h ho).1 k)
  rw[if_neg hf];constructor
  ·rintro ⟨r,⟨k,_⟩,_⟩;exact absurd k hp
  ·rintro ⟨d,hd,_⟩;cases hd
def F6{f:aE}{p d:aa}(h:d∈iC p f):f.l.value p=0/\(d=ck f.l.dir\/d=bp (ck f.l.dir)):=by
 unfold iC at h;split at h
 ·rename_i k
  refine⟨(FH.1 k).1,?_⟩;rcases bW.1 h with h|h
  ·split at h
   ·exact .inl (aV.1 h)
   ·cases h
  ·split at h
   ·exact .inr (aV.1 h)
   ·cases h
 ·cases h
def BJ{E:List aE}(hE: ∀f∈E,f.l.ok)(p:aa): ∀x∈E.flatMap (iC p),∀y∈E.flatMap (iC p),cO x y=0->x=y:=fun x hx y hy h=>by
 obtain⟨f,k1,k2⟩:=cN.1 hx;obtain⟨g,k3,k4⟩:=cN.1 hy;obtain⟨a1,a2⟩:=F6 k2;obtain⟨b1,b2⟩:=F6 k4;exact Hd (hE f k1) (hE g k3) a1 b1 a2 b2 h
def F1{l:List aa}(ht: ∀x∈l,∀y∈l,cO x y=0->x=y)(y:aa):y∈gl l↔y∈l:=by
 have h2: ∀y,y∈gl l->y∈l:=fun y hy=>by
  rcases AS cO hy with h|h
  ·exact h
  ·cases h
 refine⟨h2 y,fun hy=>?_⟩;obtain⟨e,e1,e2⟩:=FU cO (o:=[]) hy;rcases e2 with rfl|e2
 ·exact e1
 ·rw[<-ht e (h2 e e1) y hy e2];exact e1
def Y9{d:aa}(h:d.half≠0):(bp d).half≠0:=by
 have:=sH h;have:=gr h;omega
def aym{E:List aE}(hE: ∀f∈E,f.l.ok){p d:aa}(h:d∈E.flatMap (iC p)):d.half≠0:=by
 obtain⟨f,k1,k2⟩:=cN.1 h;have z:=yq (hE f k1);have z2:(ck f.l.dir).half≠0:=by rw[Et z];exact z
 rcases(F6 k2).2 with rfl|rfl
 ·exact z2
 ·exact Y9 z2
section
variable {rs:List (List ZP)} {fill:Int} {p:aa}
def Jk(hr: ∀r∈rs,cp r)(u:aa):lG (ER rs) p u↔ru (lm (bO rs) p) u:=by
 have hE: ∀f∈bO rs,f.l.ok:=fun f hf=>((lj hr).2 f hf).ok;unfold lG ru lm;constructor
 ·rintro ⟨h1,h2⟩
  refine⟨h1,fun d hd hu=>?_⟩;obtain⟨f,k1,k2⟩:=cN.1 ((F1 (BJ hE p) d).1 hd);obtain⟨v,w,q1,q2,rfl,q4⟩:=M0 hr k1;obtain⟨r,r1,r2⟩:=(M6 q1 q2 p u).2 ⟨d,k2,hu⟩;exact h2 _ q4 r r1 r2
 ·rintro ⟨h1,h2⟩
  refine⟨h1,fun f hf r hr' hu=>?_⟩;obtain⟨v,w,q1,q2,q3,rfl⟩:=S1 hr hf;obtain⟨d,d1,d2⟩:=(M6 q1 q2 p u).1 ⟨r,hr',hu⟩;exact h2 d ((F1 (BJ hE p) d).2 (cN.2 ⟨_,q3,d1⟩)) d2
def Vq(hr: ∀r∈rs,cp r){L:List ab}(h:IP L)(hM:th L (ER rs)):zj (bO rs) p (fe rs fill)=mE (fm rs fill) p:=by
 have hE: ∀f∈bO rs,f.l.ok:=fun f hf=>((lj hr).2 f hf).ok;have hnz: ∀d∈lm (bO rs) p,d.half≠0:=fun d hd=>aym hE ((F1 (BJ hE p) d).1 hd);have hs:=aCk (fill:=fill) hr (BT _) hnz fun u=>Jk (p:=p) hr u;refine(Wy hr h hM (vs:=fy (lm (bO rs) p)) (q:=ny (bO rs) p) fun b=>?_).symm;unfold rG;rw[<-hs b];constructor
 ·rintro ⟨v,h1,h2⟩
  exact⟨v,h1,h2▸Sm hr ((Jk hr v).2 (FZ (BT _) hnz h1))⟩
 ·rintro ⟨v,h1,h2⟩
  exact⟨v,h1,(Sm hr ((Jk hr v).2 (FZ (BT _) hnz h1))).uniq h2⟩
end
def cF(lo hi:Rat):av:=⟨lo,hi,false,false⟩
def qi{lo hi x:Rat}:oo [cF lo hi] x=decide (lo<x/\x<hi):=by
 rw[pK,Az,decide_eq_true_eq];simp[cF,av.ins]
def Cv{t x:Rat}:oo [⟨t,0,false,true⟩] x=decide (t<x):=by
 rw[pK,Az,decide_eq_true_eq];simp[av.ins]
def CC{t x:Rat}:oo [⟨0,t,true,false⟩] x=decide (x<t):=by
 rw[pK,Az,decide_eq_true_eq];simp[av.ins]
def qy{a b:List av}{cuts:List Rat}{marks:List Bool}{out:List av}(h1:gP (a++b)=cuts)(h2:(gH cuts).map (fun t=>oo a t&&oo b t)=marks)(h3:mC cuts marks=out):jg 2 a b=out:=by
 unfold jg;rw[h1,<-h3,<-h2];rfl
def Wt{lo hi:Rat}(h:lo<hi):jg 2 [cF lo hi] [av.all]=[cF lo hi]:=by
 refine qy (cuts:=[lo,hi]) (marks:=[false,true,false]) (by simp[gP,i8,cF,av.all,fp,h]) ?_ (by simp[mC,i4,gE,cF]);have b: ∀x,oo [av.all] x=true:=fun x=>Az.2 ⟨.inl J, .inl J⟩;simp only[gH,jh,bL,fK,cR,cY,qi,b,Bool.and_true];simp only[iZ,iX,List.cons.injEq,decide_eq_false_iff_not,decide_eq_true_eq,and_true];exact⟨by grind,by grind,by grind⟩
def UN(v:av):jg 2 [v] []=[]:=by
 unfold jg mC;have key: ∀(cuts:List Rat) (m:List Bool),(∀x∈m,x=false)-> ∀k,i4 cuts m k=[]:=fun cuts m hm k=>by
  induction k with
  |zero=>rfl
  |succ k ih=>
   rw[i4,ih];have:m.getD k false=false:=by
    rw[aK]
    cases e:m[k]? with
    |none=>rfl
    |some x=>exact hm x (aM e)
   rw[this];rfl
 refine key _ _ (fun x hx=>?_) _;obtain⟨t,_,rfl⟩:=bJ.1 hx;have:oo [] t=false:=by unfold oo Db;decide
 rw[this];simp[JQ]
def aF4{lo hi t:Rat}(h:lo<hi)(k:t<lo):jg 2 [cF lo hi] [⟨t,0,false,true⟩]=[cF lo hi]:=by
 refine qy (cuts:=[t,lo,hi]) (marks:=[false,false,true,false]) ?_ ?_ (by simp[mC,i4,gE,rg,cF])
 ·simp only[gP,i8,cF,cR,cY,dT,lR,if_true,dJ,if_false,fp]
  grind [fp]
 ·simp only[gH,jh,bL,fK,cR,cY,qi,Cv]
  simp only[iZ,iX,List.cons.injEq,iT,aL,decide_eq_false_iff_not,decide_eq_true_eq,and_true];exact⟨by grind,by grind,by grind,by grind⟩
def aHl{lo hi t:Rat}(h:lo<hi)(k:t=lo):jg 2 [cF lo hi] [⟨t,0,false,true⟩]=[cF lo hi]:=by
 refine qy (cuts:=[lo,hi]) (marks:=[false,true,false]) ?_ ?_ (by simp[mC,i4,gE,rg,cF])
 ·simp only[gP,i8,cF,cR,cY,dT,lR,if_true,dJ,if_false,fp]
  grind [fp]
 ·simp only[gH,jh,bL,fK,cR,cY,qi,Cv]
  simp only[iZ,iX,List.cons.injEq,iT,aL,decide_eq_false_iff_not,decide_eq_true_eq,and_true];exact⟨by grind,by grind,by grind⟩
def YB{lo hi t:Rat}(h:lo<hi)(k:lo<t)(k2:t<hi):jg 2 [cF lo hi] [⟨t,0,false,true⟩]=[cF t hi]:=by
 refine qy (cuts:=[lo,t,hi]) (marks:=[false,false,true,false]) ?_ ?_ (by simp[mC,i4,gE,rg,cF])
 ·simp only[gP,i8,cF,cR,cY,dT,lR,if_true,dJ,if_false,fp]
  grind [fp]
 ·simp only[gH,jh,bL,fK,cR,cY,qi,Cv]
  simp only[iZ,iX,List.cons.injEq,iT,aL,decide_eq_false_iff_not,decide_eq_true_eq,and_true];exact⟨by grind,by grind,by grind,by grind⟩
def UD{lo hi t:Rat}(h:lo<hi)(k:t=hi):jg 2 [cF lo hi] [⟨t,0,false,true⟩]=[]:=by
 refine qy (cuts:=[lo,hi]) (marks:=[false,false,false]) ?_ ?_ (by simp[mC,i4,gE,rg,cF])
 ·simp only[gP,i8,cF,cR,cY,dT,lR,if_true,dJ,if_false,fp]
  grind [fp]
 ·simp only[gH,jh,bL,fK,cR,cY,qi,Cv]
  simp only[iZ,iX,List.cons.injEq,iT,aL,decide_eq_false_iff_not,decide_eq_true_eq,and_true];exact⟨by grind,by grind,by grind⟩
def VY{lo hi t:Rat}(h:lo<hi)(k:hi<t):jg 2 [cF lo hi] [⟨t,0,false,true⟩]=[]:=by
 refine qy (cuts:=[lo,hi,t]) (marks:=[false,false,false,false]) ?_ ?_ (by simp[mC,i4,gE,rg,cF])
 ·simp only[gP,i8,cF,cR,cY,dT,lR,if_true,dJ,if_false,fp]
  grind [fp]
 ·simp only[gH,jh,bL,fK,cR,cY,qi,Cv]
  simp only[iZ,iX,List.cons.injEq,iT,aL,decide_eq_false_iff_not,decide_eq_true_eq,and_true];exact⟨by grind,by grind,by grind,by grind⟩
def aF2{lo hi t:Rat}(h:lo<hi)(k:t<lo):jg 2 [cF lo hi] [⟨0,t,true,false⟩]=[]:=by
 refine qy (cuts:=[t,lo,hi]) (marks:=[false,false,false,false]) ?_ ?_ (by simp[mC,i4,gE,rg,cF])
 ·simp only[gP,i8,cF,cR,cY,dT,lR,if_true,dJ,if_false,fp]
  grind [fp]
 ·simp only[gH,jh,bL,fK,cR,cY,qi,CC]
  simp only[iZ,iX,List.cons.injEq,iT,aL,decide_eq_false_iff_not,decide_eq_true_eq,and_true];exact⟨by grind,by grind,by grind,by grind⟩
def UB{lo hi t:Rat}(h:lo<hi)(k:t=lo):jg 2 [cF lo hi] [⟨0,t,true,false⟩]=[]:=by
 refine qy (cuts:=[lo,hi]) (marks:=[false,false,false]) ?_ ?_ (by simp[mC,i4,gE,rg,cF])
 ·simp only[gP,i8,cF,cR,cY,dT,lR,if_true,dJ,if_false,fp]
  grind [fp]
 ·simp only[gH,jh,bL,fK,cR,cY,qi,CC]
  simp only[iZ,iX,List.cons.injEq,iT,aL,decide_eq_false_iff_not,decide_eq_true_eq,and_true];exact⟨by grind,by grind,by grind⟩
def ZF{lo hi t:Rat}(h:lo<hi)(k:lo<t)(k2:t<hi):jg 2 [cF lo hi] [⟨0,t,true,false⟩]=[cF lo t]:=by
 refine qy (cuts:=[lo,t,hi]) (marks:=[false,true,false,false]) ?_ ?_ (by simp[mC,i4,gE,rg,cF])
 ·simp only[gP,i8,cF,cR,cY,dT,lR,if_true,dJ,if_false,fp]
  grind [fp]
 ·simp only[gH,jh,bL,fK,cR,cY,qi,CC]
  simp only[iZ,iX,List.cons.injEq,iT,aL,decide_eq_false_iff_not,decide_eq_true_eq,and_true];exact⟨by grind,by grind,by grind,by grind⟩
def aHs{lo hi t:Rat}(h:lo<hi)(k:t=hi):jg 2 [cF lo hi] [⟨0,t,true,false⟩]=[cF lo hi]:=by
 refine qy (cuts:=[lo,hi]) (marks:=[false,true,false]) ?_ ?_ (by simp[mC,i4,gE,rg,cF])
 ·simp only[gP,i8,cF,cR,cY,dT,lR,if_true,dJ,if_false,fp]
  grind [fp]
 ·simp only[gH,jh,bL,fK,cR,cY,qi,CC]
  simp only[iZ,iX,List.cons.injEq,iT,aL,decide_eq_false_iff_not,decide_eq_true_eq,and_true];exact⟨by grind,by grind,by grind⟩
def aHy{lo hi t:Rat}(h:lo<hi)(k:hi<t):jg 2 [cF lo hi] [⟨0,t,true,false⟩]=[cF lo hi]:=by
 refine qy (cuts:=[lo,hi,t]) (marks:=[false,true,false,false]) ?_ ?_ (by simp[mC,i4,gE,rg,cF])
 ·simp only[gP,i8,cF,cR,cY,dT,lR,if_true,dJ,if_false,fp]
  grind [fp]
 ·simp only[gH,jh,bL,fK,cR,cY,qi,CC]
  simp only[iZ,iX,List.cons.injEq,iT,aL,decide_eq_false_iff_not,decide_eq_true_eq,and_true];exact⟨by grind,by grind,by grind,by grind⟩
def Ez(a b:Rat):a<b\/a=b\/b<a:=by grind
def splitP(f:aE)(m:ab):List aE:=if f.l.cutB f.v m then [⟨f.l,f.l.cutV f.v m⟩] else []
structure gA (f:aE):Prop where
 ok:f.l.ok
 nl:f.v.nl=false
 nh:f.v.nh=false
 lt:f.v.lo<f.v.hi
def gA.seg{f:aE}(h:gA f):f.v=cF f.v.lo f.v.hi:=by
 have h1:=h.nl;have h2:=h.nh;unfold cF
 cases hv:f.v with
 |mk a b c d=>rw[hv] at h1 h2;simp_all
def gA.pos{f:aE}(h:gA f):f.v.Pos:= .inr (.inr h.lt)
def Np{lo hi:Rat}:(cF lo hi).Pos↔lo<hi:=by unfold av.Pos cF;simp
def NH{lo hi t:Rat}:(cF lo hi).meet ⟨t,0,false,true⟩=cF (if lo<t then t else lo) hi:=by simp[av.meet,cF];rfl
def PK{lo hi t:Rat}:(cF lo hi).meet ⟨0,t,true,false⟩=cF lo (if t<hi then t else hi):=by simp[av.meet,cF];rfl
def aAr{lo hi t:Rat}(h:lo<hi):jg 2 [cF lo hi] [⟨t,0,false,true⟩]=if(if lo<t then t else lo)<hi then [cF (if lo<t then t else lo) hi] else []:=by
 rcases Ez t lo with k|k|k
 ·rw[aF4 h k,if_neg (show¬lo<t by grind),if_pos h]
 ·rw[aHl h k,if_neg (show¬lo<t by grind),if_pos h]
 ·rw[if_pos k]
  rcases Ez t hi with k2|k2|k2
  ·rw[YB h k k2,if_pos k2]
  ·rw[UD h k2,if_neg (by grind)]
  ·rw[VY h k2,if_neg (by grind)]
def WS{lo hi t:Rat}(h:lo<hi):jg 2 [cF lo hi] [⟨0,t,true,false⟩]=if lo<(if t<hi then t else hi) then [cF lo (if t<hi then t else hi)] else []:=by
 rcases Ez t hi with k|k|k
 ·rw[if_pos k]
  rcases Ez t lo with k2|k2|k2
  ·rw[aF2 h k2,if_neg (by grind)]
  ·rw[UB h k2,if_neg (by grind)]
  ·rw[ZF h k2 k,if_pos k2]
 ·rw[aHs h k,if_neg (show¬t<hi by grind),if_pos h]
 ·rw[aHy h k,if_neg (show¬t<hi by grind),if_pos h]
def ayi(l m:ab):l.cutK m.rev= -l.cutK m:=by unfold ab.cutK ab.rev ab.nor ab.dir aa.dot;dsimp only;push_cast;grind
def ayj(l m:ab):l.cutC m.rev= -l.cutC m:=iE m l.base
def aE8(a b:Rat): -a/ -b=a/b:=by grind
def L9{f:aE}(h:gA f){m:ab}{side:Int}(hs:side=1\/side= -1):jI f m side=splitP f (if side=1 then m else m.rev):=by
 obtain⟨M,hM⟩: ∃M,M=(if side=1 then m else m.rev):=⟨_,rfl⟩;have hK:f.l.cutK M=(side:Rat)*f.l.cutK m:=by
  rcases hs with rfl|rfl
  ·rw[hM,if_pos J];grind
  ·rw[hM,if_neg (by decide),ayi];grind
 have hC:f.l.cutC M=(side:Rat)*f.l.cutC m:=by
  rcases hs with rfl|rfl
  ·rw[hM,if_pos J];grind
  ·rw[hM,if_neg (by decide),ayj];grind
 have hq:f.l.cutC M/f.l.cutK M=f.l.cutC m/f.l.cutK m:=by
  rw[hK,hC];rcases hs with rfl|rfl
  ·grind
  ·rw[show((-1:Int):Rat)*f.l.cutC m= -f.l.cutC m by grind,show((-1:Int):Rat)*f.l.cutK m= -f.l.cutK m by grind,aE8]
 rw[<-hM];have hseg:=h.seg;have hlt:=h.lt;unfold jI splitP vX vj;by_cases hc:crossI f.l m=0
 ·have k0:f.l.cutK m=0:=Ky hc
  have kM:f.l.cutK M=0:=by rw[hK,k0];grind
  obtain⟨e1,e2⟩:=A5 (l:=f.l) (m:=M) f.v kM;by_cases c0:f.l.cutC m=0
  ·rw[if_pos (decide_eq_true ⟨hc,(jA _).2 c0⟩),if_neg (fun e=>by have:=e2.1 e;rw[hC,c0] at this;grind)]
  ·rw[if_neg (by rw[decide_eq_true_eq];exact fun e=>c0 ((jA _).1 e.2)),if_pos hc]
   by_cases g:(m.value f.l.base).num.sign=side
   ·have:0<f.l.cutC M:=by
     rw[hC];rcases hs with rfl|rfl
     ·have:=(jd _).1 g;show 0<((1:Int):Rat)*m.value f.l.base;grind
     ·have:=(lc (m.value f.l.base)).1 (by omega);show 0<((-1:Int):Rat)*m.value f.l.base;grind
    rw[if_pos g,if_pos (e2.2 this),e1,hseg,Wt hlt];rfl
   ·have: ¬0<f.l.cutC M:=fun e=>g (P4 hs (by rw[hC] at e;exact e))
    rw[if_neg g,if_neg (fun e=>this (e2.1 e)),UN];rfl
 ·rw[if_neg (by rw[decide_eq_true_eq];exact fun e=>hc e.1),if_neg hc]
  have hp:=AM h.ok.ne hc;have hne:f.l.cutK m≠0:=fun e=>by
   rw[De] at e;have:(crossI f.l m:Rat)=0:=by grind
   exact hc (dY.1 this)
  have hv1:m.value (f.l.at (cB f.l (gg f.l m)+1))=f.l.cutK m:=by rw[oc,hp];grind
  rw[hv1,hp];by_cases g:(f.l.cutK m).num.sign=side
  ·have kM:0<f.l.cutK M:=by
    rw[hK];rcases hs with rfl|rfl
    ·have:=(jd _).1 g;grind
    ·have:=(lc (f.l.cutK m)).1 (by omega);grind
   obtain⟨e1,e2⟩:=Bl (l:=f.l) (m:=M) f.v kM;rw[if_pos g,e1] at*;rw[hq,hseg,NH,Np] at e2;rw[hq,hseg,NH,aAr hlt];by_cases q:(if f.v.lo< -(f.l.cutC m/f.l.cutK m) then-(f.l.cutC m/f.l.cutK m) else f.v.lo)<f.v.hi
   ·rw[if_pos q,if_pos (e2.2 q)];rfl
   ·rw[if_neg q,if_neg (fun e=>q (e2.1 e))];rfl
  ·have kM:f.l.cutK M<0:=by
    rw[hK];rcases eB (f.l.cutK m) with k|k|k
    ·exact absurd k hne
    ·rcases hs with rfl|rfl
     ·exact absurd ((jd _).2 k) g
     ·grind
    ·rcases hs with rfl|rfl
     ·grind
     ·exact absurd (by have:=(lc (f.l.cutK m)).2 k;have:=qT (f.l.cutK m).num;omega) g
   obtain⟨e1,e2⟩:=zp (l:=f.l) (m:=M) f.v kM;rw[if_neg g,e1] at*;rw[hq,hseg,PK,Np] at e2;rw[hq,hseg,PK,WS hlt];by_cases q:f.v.lo<(if-(f.l.cutC m/f.l.cutK m)<f.v.hi then-(f.l.cutC m/f.l.cutK m) else f.v.hi)
   ·rw[if_pos q,if_pos (e2.2 q)];rfl
   ·rw[if_neg q,if_neg (fun e=>q (e2.1 e))];rfl
def ie(acc:aa->Bool):Nat->List aE->aG->Tr
 |_,[],c=> .leaf (acc (ql c))
 |0,_::_,_=> .leaf false
 |n+1,f::t,c=> .node f.l (ie acc n ((f::t).flatMap fun g=>splitP g f.l) (bP c f.l)) (ie acc n ((f::t).flatMap fun g=>splitP g f.l.rev) (bP c f.l.rev))
def Tr.like:Tr->Tr->Prop
 | .leaf _, .leaf _=>True
 | .node l x y, .node m u v=>l=m/\x.like u/\y.like v
 |_,_=>False
def gA.cut{f:aE}(h:gA f){m:ab}(hb:f.l.cutB f.v m=true):gA ⟨f.l,f.l.cutV f.v m⟩:=by
 have hp:=AD h.pos hb;have e:(f.l.cutV f.v m).nl=false/\(f.l.cutV f.v m).nh=false:=by
  have h1:=h.nl;have h2:=h.nh;unfold ab.cutV;split
  ·exact⟨h1,h2⟩
  ·split<;>simp[av.meet,h1,h2]
 refine⟨h.ok,e.1,e.2,?_⟩;rcases hp with h|h|h
 ·rw[e.1] at h;cases h
 ·rw[e.2] at h;cases h
 ·exact h
def gA.split{f g:aE}(h:gA f){m:ab}(hg:g∈splitP f m):gA g:=by
 unfold splitP at hg;split at hg
 ·rename_i hb
  rw[aV] at hg;subst hg;exact h.cut hb
 ·cases hg
def J8{l:List aE}(h: ∀f∈l,gA f)(m:ab):l.flatMap (fun g=>jI g m 1)=l.flatMap (fun g=>splitP g m)/\l.flatMap (fun g=>jI g m (-1))=l.flatMap (fun g=>splitP g m.rev):=by
 induction l with
 |nil=>exact⟨J,J⟩
 |cons f t ih=>
  obtain⟨i1,i2⟩:=ih fun g hg=>h g (aZ _ hg);have hf:=h f aQ;refine⟨?_,?_⟩
  ·rw[lT,lT,i1,L9 hf (.inl J),if_pos J]
  ·rw[lT,lT,i2,L9 hf (.inr J),if_neg (by decide)]
def gA.splits{l:List aE}(h: ∀f∈l,gA f)(m:ab): ∀g∈l.flatMap (fun g=>splitP g m),gA g:=fun g hg=>by
 obtain⟨f,hf,hg⟩:=cN.1 hg;exact(h f hf).split hg
def Hg{a b:aa->Bool}: ∀{n:Nat} {l:List aE} {c:aG} {d:List ab},(∀f∈l,gA f)->(ie a n l c).like (kB b n l d)
 |n,[],c,d,_=>by cases n<;>exact trivial
 |0,f::t,c,d,_=>trivial
 |n+1,f::t,c,d,h=>by
  rw[ie,kB];obtain⟨e1,e2⟩:=J8 h f.l;refine⟨J,?_,?_⟩
  ·rw[e1];exact Hg (gA.splits h f.l)
  ·rw[e2];exact Hg (gA.splits h f.l.rev)
def Tr.like_lns: ∀{t u:Tr},t.like u->t.lns=u.lns
 | .leaf _, .leaf _,_=>rfl
 | .node l x y, .node m u v,⟨h,h1,h2⟩=>by rw[Tr.lns,Tr.lns,h,Tr.like_lns h1,Tr.like_lns h2]
def Di{M:List ab}(hM: ∀l∈M,l.ok): ∀{t u:Tr} {c:aG},t.like u->(∀l∈t.lns,l∈M)->d8 c->(∀p,b9 c p->iw M p->t.val p=u.val p)->t.restrict c=u.restrict c
 | .leaf a, .leaf b,c,_,_,hc,hv=>by
  obtain⟨p,hp,ho⟩:=V5 hc M hM;have:=hv p hp ho;rw[Tr.val,Tr.val] at this;rw[this]
 | .node l x y, .node m u v,c,⟨e,h1,h2⟩,hl,hc,hv=>by
  subst e;have hlM:=hl l aQ;have hx: ∀m∈x.lns,m∈M:=fun m hm=>hl m (aZ _ (bM _ hm));have hy: ∀m∈y.lns,m∈M:=fun m hm=>hl m (aZ _ (cJ _ hm));have hok:=hM l hlM
  cases hb:de c l.rev with
  |false=>
   rw[Tr.restrict_A _ _ hb,Tr.restrict_A _ _ hb];refine Di hM h1 hx hc fun p hp ho=>?_;have q:=Q8 hc hok hb hp (ho l hlM);have:=hv p hp ho;rwa [Tr.val_pos q,Tr.val_pos q] at this
  |true=>
   cases hb2:de c l with
   |false=>
    rw[Tr.restrict_B _ _ hb hb2,Tr.restrict_B _ _ hb hb2];refine Di hM h2 hy hc fun p hp ho=>?_;have q:=Mu hc hok hb2 hp;have:=hv p hp ho;rwa [Tr.val_neg q,Tr.val_neg q] at this
   |true=>
    obtain⟨g1,i1⟩:=lu hc hok hb2;obtain⟨g2,i2⟩:=lu hc hok.rev hb;rw[Tr.restrict_C _ _ hb hb2,Tr.restrict_C _ _ hb hb2];congr 1
    ·refine Di hM h1 hx g1 fun p hp ho=>?_
     obtain⟨a1,a2⟩:=(i1 p).1 hp;have:=hv p a1 ho;rwa [Tr.val_pos a2,Tr.val_pos a2] at this
    ·refine Di hM h2 hy g2 fun p hp ho=>?_
     obtain⟨a1,a2⟩:=(i2 p).1 hp;rw[iE] at a2;have:=hv p a1 ho;rwa [Tr.val_neg (by grind),Tr.val_neg (by grind)] at this
def Tr.Prp:Tr->aG->Prop
 | .leaf _,_=>True
 | .node l x y,c=>de c l=true/\de c l.rev=true/\x.Prp (bP c l)/\y.Prp (bP c l.rev)
def Oy{c:aG}(hc:d8 c){l:ab}(hl:l.ok){p:aa}(hp:b9 c p)(h0:l.value p=0):de c l=true/\de c l.rev=true:=by
 have hn:=qn hl.ne;obtain⟨e,he,hm⟩:=hp.open l.nor;obtain⟨f,hf,hk⟩:=hp.open (bp l.nor);have hn2:l.nor.dot (bp l.nor)= -(l.nor.dot l.nor):=by unfold bp aa.dot;dsimp only;grind
 refine⟨(tL hc hl).2 ⟨_,hm e (by grind) (by grind),?_⟩,(tL hc hl.rev).2 ⟨_,hk f (by grind) (by grind),?_⟩⟩
 ·rw[i6,h0];have:=bF he hn;grind
 ·rw[iE,i6,h0,hn2];have:=bF hf hn;grind
def xy(l:List aE)(c:aG):Prop:= ∀f∈l,∀t,f.v.ins t->b9 c (f.l.at t)
def xy.split{l:List aE}{c:aG}(h:xy l c){m:ab}(i1: ∀p,b9 (bP c m) p↔b9 c p/\0<m.value p):xy (l.flatMap fun g=>splitP g m) (bP c m):=fun g hg t ht=>by
 obtain⟨f,hf,hg⟩:=cN.1 hg;unfold splitP at hg;split at hg
 ·rename_i hb
  rw[aV] at hg;subst hg;obtain⟨k1,k2⟩:=(EC hb t).1 ht;exact(i1 _).2 ⟨h f hf t k1,k2⟩
 ·cases hg
def xy.cross{f:aE}{t:List aE}{c:aG}(h:xy (f::t) c)(hf:gA f)(hc:d8 c):de c f.l=true/\de c f.l.rev=true:=by
 have hs:f.v.ins (Ek f.v):=Rf hf.pos;exact Oy hc hf.ok (h f aQ _ hs) (pn hf.ok.ne _)
def JD{acc:aa->Bool}: ∀{n:Nat} {l:List aE} {c:aG},(∀f∈l,gA f)->d8 c->xy l c->(ie acc n l c).Prp c
 |n,[],c,_,_,_=>by cases n<;>exact trivial
 |0,f::t,c,_,_,_=>trivial
 |n+1,f::t,c,h,hc,hl=>by
  rw[ie];have hf:=h f aQ;obtain⟨b1,b2⟩:=hl.cross hf hc;obtain⟨g1,i1⟩:=lu hc hf.ok b1;obtain⟨g2,i2⟩:=lu hc hf.ok.rev b2;exact⟨b1,b2,JD (gA.splits h _) g1 (hl.split i1),JD (gA.splits h _) g2 (hl.split i2)⟩
def Gu(E:List aE)(c:aG)(l:List aE):Prop:= ∀e∈E,∀t,e.v.ins t->b9 c (e.l.at t)-> ∃f∈l,f.l=e.l/\f.v.ins t
def Gu.split{E l:List aE}{c:aG}(h:Gu E c l)(hs: ∀f∈l,gA f){m:ab}(i1: ∀p,b9 (bP c m) p↔b9 c p/\0<m.value p):Gu E (bP c m) (l.flatMap fun g=>splitP g m):=fun e he t ht hin=>by
 obtain⟨h1,h2⟩:=(i1 _).1 hin;obtain⟨f,hf,ef,hft⟩:=h e he t ht h1;have hb:f.l.cutB f.v m=true:=by
  cases q:f.l.cutB f.v m with
  |true=>rfl
  |false=>
   have:=Fc (hs f hf).pos q hft.has;rw[ef] at this;exact absurd this (by grind)
 refine⟨⟨f.l,f.l.cutV f.v m⟩,cN.2 ⟨f,hf,by unfold splitP;rw[if_pos hb];exact aV.2 J⟩,ef,?_⟩;exact(EC hb t).2 ⟨hft,by rw[ef];exact h2⟩
structure FS (f:aE):Prop where
 fo:pz f
 sg:gA f
def FS.splits{l:List aE}(h: ∀f∈l,FS f){m:ab}(hm:LB m):(∀g∈l.flatMap (fun g=>splitP g m),FS g)/\ ∀g∈l.flatMap (fun g=>splitP g m.rev),FS g:=by
 obtain⟨e1,e2⟩:=J8 (fun f hf=>(h f hf).sg) m;refine⟨fun g hg=>⟨?_,gA.splits (fun f hf=>(h f hf).sg) m g hg⟩,fun g hg=>⟨?_,gA.splits (fun f hf=>(h f hf).sg) m.rev g hg⟩⟩
 ·rw[<-e1] at hg
  obtain⟨q,hq,hg⟩:=cN.1 hg;exact(Gm (h q hq).fo hm g hg).1
 ·rw[<-e2] at hg
  obtain⟨q,hq,hg⟩:=cN.1 hg;exact(Gm (h q hq).fo hm g hg).1
def n9.splitP{n:Nat}{f:aE}{t:List aE}(h:n9 (n+1) (f::t))(hok: ∀g∈f::t,FS g):n9 n ((f::t).flatMap fun g=>splitP g f.l)/\n9 n ((f::t).flatMap fun g=>splitP g f.l.rev):=by
 obtain⟨e1,e2⟩:=J8 (fun f hf=>(hok f hf).sg) f.l;rw[<-e1,<-e2];exact⟨h.split (fun g hg=>(hok g hg).fo),h.split (fun g hg=>(hok g hg).fo)⟩
def n9.no{f:aE}{t:List aE}(h:n9 0 (f::t)):False:=by
 obtain⟨K,hK,hs⟩:=h;obtain⟨m,hm,_⟩:=hs f aQ;rw[bU (show K.length=0 by omega)] at hm;cases hm
def Hp{acc:aa->Bool}{E:List aE}(ha: ∀(c:aG) (q p:aa),(∀e∈E,∀t,e.v.ins t-> ¬b9 c (e.l.at t))->b9 c q->b9 c p->acc q=acc p): ∀{n:Nat} {l:List aE} {c:aG} {p:aa},(∀f∈l,FS f)->n9 n l->d8 c->xy l c->Gu E c l->b9 c p->iw (ie acc n l c).lns p->(ie acc n l c).val p=acc p
 |n,[],c,p,_,_,hc,_,hcov,hp,_=>by
  have e:ie acc n [] c= .leaf (acc (ql c)):=by cases n<;>rfl
  rw[e,Tr.val];exact ha c _ _ (fun e he t ht hin=>by obtain⟨f,hf,_⟩:=hcov e he t ht hin;cases hf) (axu hc) hp
 |0,f::t,_,_,_,hf,_,_,_,_,_=>hf.no.elim
 |n+1,f::t,c,p,hok,hf,hc,hl,hcov,hp,hoff=>by
  have fo:=hok f aQ;have hsg:=fun g hg=>(hok g hg).sg;obtain⟨k1,k2⟩:=FS.splits hok fo.fo.lb;obtain⟨w1,w2⟩:=hf.splitP hok;obtain⟨b1,b2⟩:=hl.cross fo.sg hc;obtain⟨g1,i1⟩:=lu hc fo.sg.ok b1;obtain⟨g2,i2⟩:=lu hc fo.sg.ok.rev b2;rw[ie] at hoff⊢;by_cases q:0<f.l.value p
  ·rw[Tr.val_pos q]
   exact Hp ha k1 w1 g1 (hl.split i1) (hcov.split hsg i1) ((i1 p).2 ⟨hp,q⟩) hoff.x
  ·rw[Tr.val_neg q]
   have:=hoff.l;exact Hp ha k2 w2 g2 (hl.split i2) (hcov.split hsg i2) ((i2 p).2 ⟨hp,by rw[iE];grind⟩) hoff.y
def awU{v w:ZP}(h:v≠w)(ho:(bj v w).l.ok):gA (bj v w):=⟨ho,J,J,(Al h ho).2.2⟩
def CP{rs:List (List ZP)}(hr: ∀r∈rs,cp r): ∀f∈bO rs,FS f:=fun f hf=>by
 have h2:=(lj hr).2 f hf;obtain⟨v,w,hn,ho,rfl,_⟩:=M0 hr hf;exact⟨h2,awU hn ho⟩
def Jc(rs:List (List ZP)):n9 (bO rs).length (bO rs):=⟨(bO rs).map (·.l),by rw[aJ];exact bQ _,fun f hf=>⟨f.l,gN hf, .inl J⟩⟩
def Kg{c:aG}{p:aa}:b9 c p↔fA (c.map fun s=>s.l) p:=by
 unfold b9 fA;constructor
 ·intro h m hm
  obtain⟨s,hs,rfl⟩:=bJ.1 hm;exact h s hs
 ·intro h s hs
  exact h s.l (gN hs)
def kD(rs:List (List ZP))(fill:Int):Tr:=ie (fe rs fill) (bO rs).length (bO rs) []
def axl{rs:List (List ZP)}{fill:Int}(hr: ∀r∈rs,cp r){p:aa}(ho:iw (kD rs fill).lns p):(kD rs fill).val p=fe rs fill p:=
 Hp (E:=bO rs) (fun c q p hno hq hp=>Qc hr (c:=c.map fun s=>s.l) (fun e he t ht hin=>hno e he t ht (Kg.2 hin)) (Kg.1 hq) (Kg.1 hp)) (CP hr) (Jc rs) d8.nil (fun f hf t ht s hs=>by cases hs) (fun e he t ht _=>⟨e,he,J,ht⟩) (fun s hs=>by cases hs) ho
def YL{rs:List (List ZP)}{fill:Int}(hr: ∀r∈rs,cp r){p:aa}(ho:iw (me rs fill).lns p):(me rs fill).val p=fe rs fill p:=by
 rw[<-Ny hr ho];unfold fm;rw[Tr.val_restrict (me rs fill) [] p (rE fun f hf=>((lj hr).2 f hf).ok) d8.nil (fun s hs=>by cases hs) ho]
def Qe{rs:List (List ZP)}{fill:Int}(hr: ∀r∈rs,cp r):(kD rs fill).like (me rs fill)/\(kD rs fill).Prp []/\(kD rs fill).all ab.ok:=by
 have hl:(kD rs fill).like (me rs fill):=Hg fun f hf=>(CP hr f hf).sg;refine⟨hl,JD (fun f hf=>(CP hr f hf).sg) d8.nil (fun f hf t ht s hs=>by cases hs),?_⟩;have hk:(me rs fill).all ab.ok:=rE fun f hf=>((lj hr).2 f hf).ok;rw[uk,Tr.like_lns hl,<-uk];exact hk
def X2{rs:List (List ZP)}{fill:Int}(hr: ∀r∈rs,cp r):(kD rs fill).restrict []=fm rs fill:=by
 obtain⟨h1,h2,h3⟩:=Qe (fill:=fill) hr;unfold fm;refine Di (M:=(kD rs fill).lns) (uk.1 h3) h1 (fun l hl=>hl) d8.nil fun p hp ho=>?_;rw[axl hr ho,YL hr (by rw[<-Tr.like_lns h1];exact ho)]
def mB(c:aG)(m:ab):Bool:=de c m&&de c m.rev
def uB{c:aG}(hc:d8 c){m:ab}(hm:m.ok):mB c m=true↔DH m c:=by
 unfold mB;rw[aL];constructor
 ·rintro ⟨h1,h2⟩
  obtain⟨p,hp,k1⟩:=(tL hc hm).1 h1;obtain⟨q,hq,k2⟩:=(tL hc hm.rev).1 h2;rw[iE] at k2;generalize hA:m.value p=A at*;generalize hB:m.value q=B at*;have hAB:0<A-B:=by grind
  have e:A/(A-B)*(A-B)=A:=by grind
  generalize A/(A-B)=r at*;have r0:0<=r:=(ig hAB).1 (by rw[e];exact cM k1);have r1:r<=1:=by
   have:=(ig (s:=1-r) hAB).1 (by grind);grind
  exact⟨ba p q r,hp.seg hq r0 r1,by rw[kt,hA,hB];grind⟩
 ·rintro ⟨p,hp,h0⟩
  exact Oy hc hm hp h0
def xB(c:aG)(m n:ab):Bool:=decide (¬m.same n)&&(decide (n.value (Ai m n)=0)&&rh c (Ai m n))
def qf{c:aG}{m n:ab}(hm:m.ok)(hn:n.ok):xB c m n=true↔ ¬m.same n/\ ∃z,b9 c z/\m.value z=0/\n.value z=0:=by
 unfold xB;rw[aL,aL,decide_eq_true_eq,decide_eq_true_eq,sk];constructor
 ·rintro ⟨h1,h2,h3⟩
  exact⟨h1,_,h3,pn hm.ne _,h2⟩
 ·rintro ⟨h1,z,hz,k1,k2⟩
  rcases FP hm hn k1 k2 with h|h
  ·exact absurd h h1
  ·rw[<-h];exact⟨h1,k2,hz⟩
def KC{c:aG}{m n:ab}(hm:m.ok)(hn:n.ok):xB c m n=xB c n m:=by
 rw[pK,qf hm hn,qf hn hm];constructor<;>(rintro ⟨h,z,hz,k1,k2⟩;exact⟨fun e=>h e.symm,z,hz,k2,k1⟩)
def iD(f:ab->Nat):List ab->Nat
 |[]=>0
 |m::K=>f m+iD f K
def bN(b:Bool):Nat:=if b then 1 else 0
def So{f g:ab->Nat}: ∀{K:List ab},(∀m∈K,f m<=g m)->iD f K<=iD g K
 |[],_=>bQ _
 |m::K,h=>by
  have:=So (f:=f) (g:=g) (K:=K) fun n hn=>h n (aZ _ hn);have:=h m aQ;show f m+iD f K<=g m+iD g K;omega
def z6(f g:ab->Nat): ∀K,iD (fun m=>f m+g m) K=iD f K+iD g K
 |[]=>rfl
 |m::K=>by
  have:=z6 f g K;show f m+g m+iD (fun m=>f m+g m) K=f m+iD f K+(g m+iD g K);omega
def BX{f g:ab->Nat}{d:Nat}{m0:ab}: ∀{K:List ab},(∀m∈K,f m<=g m)->m0∈K->f m0+d<=g m0->iD f K+d<=iD g K
 |[],_,h,_=>by cases h
 |m::K,h,hm,hd=>by
  have i1:=So (f:=f) (g:=g) (K:=K) fun n hn=>h n (aZ _ hn);have:=h m aQ;show f m+iD f K+d<=g m+iD g K;rcases aW.1 hm with rfl|hm
  ·omega
  ·have:=BX (f:=f) (g:=g) (d:=d) (K:=K) (fun n hn=>h n (aZ _ hn)) hm hd
   omega
def Dk{f:ab->Nat}{B:Nat}: ∀{K:List ab},(∀m∈K,f m<=B)->iD f K<=K.length*B
 |[],_=>bT _
 |m::K,h=>by
  have:=Dk (f:=f) (B:=B) (K:=K) fun n hn=>h n (aZ _ hn);have:=h m aQ;show f m+iD f K<=(K.length+1)*B;rw[gS];omega
def zo(K:List ab)(c:aG):Nat:=iD (fun m=>bN (mB c m)) K
def jO(K:List ab)(c:aG)(m:ab):Nat:=iD (fun n=>bN (xB c m n)) K
def yy(K:List ab)(c:aG):Nat:=iD (jO K c) K
def R5(b:Bool):bN b<=1:=by cases b<;>decide
def Yl{K:List ab}(hK: ∀m∈K,m.ok){c:aG}(hc:d8 c){n m0:ab}(hn:n.ok)(h0:m0∈K)(hs:m0.same n)(hb:de c n=true)(hb2:de c n.rev=true):
  zo K (bP c n)+zo K (bP c n.rev)+1<=zo K c+jO K c m0/\yy K (bP c n)+yy K (bP c n.rev)+2*jO K c m0<=yy K c:=by
 obtain⟨g1,i1⟩:=lu hc hn hb;obtain⟨g2,i2⟩:=lu hc hn.rev hb2;have i2: ∀p,b9 (bP c n.rev) p↔b9 c p/\n.value p<0:=fun p=>by rw[i2,iE];constructor<;>(rintro ⟨a,b⟩;exact⟨a,by grind⟩)
 have hm0:=hK m0 h0;have z1: ∀m,m.ok->(mB (bP c n) m=true->mB c m=true)/\(mB (bP c n.rev) m=true->mB c m=true):=fun m hm=>by
  rw[uB g1 hm,uB g2 hm,uB hc hm];exact⟨fun⟨p,hp,k⟩=>⟨p,((i1 p).1 hp).1,k⟩,fun⟨p,hp,k⟩=>⟨p,((i2 p).1 hp).1,k⟩⟩
 have z2: ∀m,m.ok->mB (bP c n) m=true->mB (bP c n.rev) m=true->xB c m0 m=true:=fun m hm h1 h2=>by
  obtain⟨p,hp,k1⟩:=(uB g1 hm).1 h1;obtain⟨q,hq,k2⟩:=(uB g2 hm).1 h2;obtain⟨hp,ap⟩:=(i1 p).1 hp;obtain⟨hq,aq⟩:=(i2 q).1 hq;rw[qf hm0 hm];refine⟨fun e=>?_,?_⟩
  ·rw[qj hs (qj e.symm k1)] at ap;grind
  generalize hA:n.value p=A at*;generalize hB:n.value q=B at*;have hAB:0<A-B:=by grind
  have e:A/(A-B)*(A-B)=A:=by grind
  generalize A/(A-B)=r at*;have r0:0<=r:=(ig hAB).1 (by rw[e];exact cM ap);have r1:r<=1:=by
   have:=(ig (s:=1-r) hAB).1 (by grind);grind
  exact⟨ba p q r,hp.seg hq r0 r1,qj hs.symm (by rw[kt,hA,hB];grind),by rw[kt,k1,k2];grind⟩
 have w1: ∀m m',m.ok->m'.ok->xB (bP c n) m m'=true->xB c m m'=true/\ ¬xB (bP c n.rev) m m'=true:=fun m m' hm hm' h=>by
  rw[qf hm hm'] at h;obtain⟨e,z,hz,k1,k2⟩:=h;obtain⟨hz,az⟩:=(i1 z).1 hz;refine⟨(qf hm hm').2 ⟨e,z,hz,k1,k2⟩,fun h=>?_⟩;obtain⟨_,y,hy,j1,j2⟩:=(qf hm hm').1 h;obtain⟨hy,ay⟩:=(i2 y).1 hy;rcases FP hm hm' k1 k2 with h|h
  ·exact e h
  ·rcases FP hm hm' j1 j2 with h'|h'
   ·exact e h'
   ·rw[h'] at ay;rw[h] at az;grind
 have w2: ∀m m',m.ok->m'.ok->xB (bP c n.rev) m m'=true->xB c m m'=true:=fun m m' hm hm' h=>by
  rw[qf hm hm'] at h⊢;obtain⟨e,z,hz,k1,k2⟩:=h;exact⟨e,z,((i2 z).1 hz).1,k1,k2⟩
 have w3: ∀m,m.ok->xB (bP c n) m m0=false/\xB (bP c n.rev) m m0=false:=fun m hm=>by
  constructor
  ·rw[<-nK,qf hm hm0]
   rintro ⟨_,z,hz,_,k2⟩;have:=((i1 z).1 hz).2;rw[qj hs k2] at this;grind
  ·rw[<-nK,qf hm hm0]
   rintro ⟨_,z,hz,_,k2⟩;have:=((i2 z).1 hz).2;rw[qj hs k2] at this;grind
 have hmm: ∀d,xB d m0 m0=false:=fun d=>by
  rw[<-nK,qf hm0 hm0];rintro ⟨h,_⟩;exact h (.inl rfl)
 have n1: ∀d:aG,d8 d->(∀p,b9 d p->n.value p≠0)->mB d m0=false:=fun d hd h=>by
  rw[<-nK,uB hd hm0];rintro ⟨p,hp,k⟩;exact h p hp (qj hs k)
 have n2:mB c m0=true:=by
  rw[uB hc hm0];obtain⟨p,hp,k⟩:=(uB hc hn).1 (by unfold mB;rw[hb,hb2];rfl);exact⟨p,hp,qj hs.symm k⟩
 constructor
 ·unfold zo jO
  rw[<-z6,<-z6];refine BX (m0:=m0) (d:=1) (fun m hm=>?_) h0 ?_
  ·have hmk:=hK m hm
   obtain⟨a1,a2⟩:=z1 m hmk;have a3:=z2 m hmk
   try dsimp only
   cases e1:mB (bP c n) m<;>cases e2:mB (bP c n.rev) m<;>simp only[e1,e2,forall_const,reduceCtorEq,false_implies] at a1 a2 a3<;>simp_all [bN]
  ·try dsimp only
   rw[n1 _ g1 (fun p hp=>by have:=((i1 p).1 hp).2;grind),n1 _ g2 (fun p hp=>by have:=((i2 p).1 hp).2;grind),n2,hmm];decide
 ·have row: ∀m∈K,jO K (bP c n) m+jO K (bP c n.rev) m+bN (xB c m m0)<=jO K c m:=fun m hm=>by
   have hmk:=hK m hm;unfold jO;rw[<-z6];refine BX (m0:=m0) (d:=bN (xB c m m0)) (fun m' hm'=>?_) h0 ?_
   ·have hmk':=hK m' hm'
    have b1:=w1 m m' hmk hmk';have b2:=w2 m m' hmk hmk'
    try dsimp only
    cases e1:xB (bP c n) m m'<;>cases e2:xB (bP c n.rev) m m'<;>simp_all [bN]
   ·obtain⟨c1,c2⟩:=w3 m hmk
    try dsimp only
    rw[c1,c2];simp[bN]
  have r0:jO K (bP c n) m0=0/\jO K (bP c n.rev) m0=0:=by
   have z: ∀d,(∀m∈K,xB d m0 m=false)->jO K d m0=0:=fun d h=>by
    have:=Dk (f:=fun m=>bN (xB d m0 m)) (B:=0) (K:=K) fun m hm=>by rw[h m hm];decide
    unfold jO;omega
   exact⟨z _ fun m hm=>by rw[KC hm0 (hK m hm)];exact(w3 m (hK m hm)).1,z _ fun m hm=>by rw[KC hm0 (hK m hm)];exact(w3 m (hK m hm)).2⟩
  have cs:iD (fun m=>bN (xB c m m0)) K=jO K c m0:=by
   unfold jO;have key: ∀Jv:List ab,(∀m∈Jv,m.ok)->iD (fun m=>bN (xB c m m0)) Jv=iD (fun m=>bN (xB c m0 m)) Jv:=fun Jv=>by
    induction Jv with
    |nil=>intro _;rfl
    |cons a Jv ih=>
     intro h;show bN (xB c a m0)+_=bN (xB c m0 a)+_;rw[ih fun m hm=>h m (aZ _ hm),KC (h a aQ) hm0]
   exact key K hK
  have:=BX (f:=fun m=>jO K (bP c n) m+jO K (bP c n.rev) m+bN (xB c m m0)) (g:=jO K c) (d:=jO K c m0) (m0:=m0) row h0 (by rw[r0.1,r0.2,hmm];simp[bN]);rw[z6,z6,cs] at this;unfold yy;omega
def Kz{K:List ab}(hK: ∀m∈K,m.ok): ∀{t:Tr} {c:aG},t.Prp c->t.all ab.ok->d8 c->o9 K t->2*t.size<=2*zo K c+yy K c
 | .leaf _,_,_,_,_,_=>bT _
 | .node n x y,c,⟨h1,h2,h3,h4⟩,⟨hn,hx,hy⟩,hc,⟨⟨m0,hm0,hs⟩,kx,ky⟩=>by
  obtain⟨g1,_⟩:=lu hc hn h1;obtain⟨g2,_⟩:=lu hc hn.rev h2;have a:=Kz hK h3 hx g1 kx;have b:=Kz hK h4 hy g2 ky;obtain⟨d1,d2⟩:=Yl hK hc hn hm0 hs h1 h2;rw[Tr.size];omega
def ayv{K:List ab}(hK: ∀m∈K,m.ok){t:Tr}{c:aG}(h:t.Prp c)(ht:t.all ab.ok)(hc:d8 c)(hA:o9 K t):2*t.size<=K.length*(K.length+1):=by
 have h1:=Kz hK h ht hc hA;have h2:zo K c<=K.length*1:=Dk fun m _=>R5 _;have h3:yy K c<=K.length*(K.length-1):=Dk fun m hm=>by
  have:=BX (f:=fun n=>bN (xB c m n)) (g:=fun _=>1) (d:=1) (m0:=m) (K:=K) (fun n _=>R5 _) hm (by
   have:xB c m m=false:=by rw[<-nK,qf (hK m hm) (hK m hm)];rintro ⟨h,_⟩;exact h (.inl rfl)
   rw[this];decide)
  have l1:iD (fun _=>1) K<=K.length*1:=Dk fun _ _=>bQ _;unfold jO;omega
 have:K.length*(K.length+1)=K.length*(K.length-1)+2*K.length:=by
  cases K.length with
  |zero=>rfl
  |succ k=>rw[Nat.succ_sub_one,Nat.mul_succ,Nat.mul_succ,gS];omega
 omega
section
variable {GB:Gh} {ai al ae:Addr} (hE:EG GB ai al ae) {j k:Nat} {a b:Tr} (ha:t7 j a) (hb:t7 k b)
include hE ha
include hb
end
section
variable {GB:Gh} {ai al ae:Addr} (hE:EG GB ai al ae)
include hE
end
def ptZ:DV:= .ag [vI 0,vI 0, .v (.pointer none),vI 0,vI 0, .v (.pointer none)]
def apZ:DV:= .ag [.v (.bool false), .sl [], .sl [], .v (.bool false), .sl [], .sl []]
def Vk{c:aG}(hc:jG c)(hn:c.length<=100000):PF GB prog 98 [eC c] (eZ (ql c)):=by
 cases c with
 |nil=>exact awB
 |cons s cs=>exact Yg hc (by rw[bV] at hn;omega)
def FK(d:Rat):Prop:=True
theorem NZ{s:aE}{p:aa}: ∀{c:aG} {f:Rat},BQ f 9000->(∀g∈c,BQ (-(g.l.value p/g.l.nor.dot s.l.nor)) 9000)->BQ (jk s.l p c f) 9000
 |[],f,h,_=>h
 |g::c,f,h,k=>by
  rw[jk];refine NZ ?_ fun u hu=>k u (aZ _ hu);split
  ·split
   ·exact k g aQ
   ·exact h
  ·exact h
theorem Vs{c:aG}(hc:jG c):aB (ql c) 20000:=by
 cases c with
 |nil=>exact⟨BQ.mono (k:=2) ⟨by decide,by decide⟩ (by decide),BQ.mono (k:=2) ⟨by decide,by decide⟩ (by decide)⟩
 |cons s cs=>
  have hs:=hc s aQ;haveI:=hs.lb;haveI:=Kb hs;haveI:=NZ (s:=s) (p:=s.l.at s.v.sample) (c:=cs) (f:=1) (BQ.mono (k:=2) ⟨by decide,by decide⟩ (by decide)) fun g hg=>Ln hs (hc g (aZ _ hg));rw[NB];have:=(inferInstance:aB ((s.l.at s.v.sample).add (s.l.nor.scale (jk s.l (s.l.at s.v.sample) cs 1*mkRat 1 2))) _);exact⟨this.x.mono (by decide),this.y.mono (by decide)⟩
def wg(l:List aa):dH 6 (l.map eZ):=fun d hd=>by
 obtain⟨x,_,rfl⟩:=bJ.1 hd;exact⟨J,J⟩
instance aB.negp (p:aa) (i:Nat) [h:aB p i]:aB (bp p) i:=⟨inferInstanceAs (BQ (-p.x) i),inferInstanceAs (BQ (-p.y) i)⟩
instance aB.prip (l:ab) [LB l]:aB (ck l.dir) 500:=by
 have h:=(inferInstance:aB (l.dir.scale (rgcd l.dir.x l.dir.y)⁻¹) _);exact⟨h.x.mono (by decide),h.y.mono (by decide)⟩
def IC{p:aa}{i:Nat}[h:aB p i](hi:i<=900000000:=by decide):PF GB prog 132 [eZ p] (eZ (bp p)):=by
 refine fn func132 J J ntmps132 J J (fun C=>?_);refine cl J (n4 (q:=p.x) (i:=i) hi) J<|cl J (n4 (q:=p.y) (i:=i) hi) J<|?_;exact rz J J
def SP{p:aa}{i:Nat}[h:aB p i](hi:i<=900000000:=by decide):PF GB prog 126 [eZ p] (eZ (gO p)):=by
 refine fn func126 J J ntmps126 J J (fun C=>?_);refine cl J (n4 (q:=p.y) (i:=i) hi) J<|?_;exact rz J J
def Qv{p:aa}{i:Nat}[h:aB p i](hi:i<=1000000:=by decide):PF GB prog 131 [eZ p] (eZ (ck p)):=by
 refine fn func131 J J ntmps131 J J (fun C=>?_);refine cl J (oC (p:=p.x) (q:=p.y) (i:=i) (j:=i) (by omega) (by omega)) J<|cl J (E2 (q:=rgcd p.x p.y) (i:=i+i+(i+i)) (by omega)) J<|?_;refine cl J (y9 (p:=p) (c:=(rgcd p.x p.y)⁻¹) (i:=i) (j:=i+i+(i+i)) (by omega) (by omega)) J<|?_;exact rz J J
def Dx(l:ab)(x y:Tr)(p:aa):dO (.node l x y) p=(if Int.sign (l.value p).num=0 then [ck l.dir,bp (ck l.dir)] else [])++((if 0<=Int.sign (l.value p).num then dO x p else [])++(if Int.sign (l.value p).num<=0 then dO y p else [])):=by
 unfold dO;rw[lI,qS,qS];congr 1
 ·split<;>simp
 ·congr 1<;>split<;>simp
def DX: ∀(t:Tr) (p:aa),(dO t p).length<=2*t.size
 | .leaf _,_=>bT _
 | .node l x y,p=>by
  have h1:=DX x p;have h2:=DX y p;rw[Dx,aR,aR,Tr.size];split<;>split<;>split<;>simp only[bV,gM]<;>omega
def ao2{b:Bool}{p:aa}{o:List aa}:PB GB prog 81 (ij [some (eU (.leaf b)),some (eZ p),none]) 6 89 (o.map eZ) (fun w=> .v (.slice w.a w.n w.c)) ((o++dO (.leaf b) p).map eZ):=by
 refine xb func81 J J ntmps81 J J (fun C=>?_);refine cl (fu:=⟨0⟩) J xo J<|?_;refine lx 10 J ?_;refine gx J<|?_;exact tf J J J (by show _=(o++[]).map eZ;rw[iU])
def WR{l:ab}{x y:Tr}{p:aa}{i:Nat}[hp:aB p i](hl:LB l)(hi:i<=10000000){o:List aa}(hs:o.length+2*(Tr.node l x y).size<=1000000)(hz:Int.sign (l.value p).num=0)(ihx: ∀{o:List aa},o.length+2*x.size<=1000000->PB GB prog 81 (ij [some (eU x),some (eZ p),none]) 6 89 (o.map eZ) (fun w=> .v (.slice w.a w.n w.c)) ((o++dO x p).map eZ))(ihy: ∀{o:List aa},o.length+2*y.size<=1000000->PB GB prog 81 (ij [some (eU y),some (eZ p),none]) 6 89 (o.map eZ) (fun w=> .v (.slice w.a w.n w.c)) ((o++dO y p).map eZ)):PB GB prog 81 (ij [some (eU (.node l x y)),some (eZ p),none]) 6 89 (o.map eZ) (fun w=> .v (.slice w.a w.n w.c)) ((o++dO (.node l x y) p).map eZ):=by
 haveI:=hl;have hz2:(Tr.node l x y).size=1+x.size+y.size:=J;have hp1:=DX x p;refine xb func81 J J ntmps81 J J (fun C=>?_);refine cl (fu:=⟨0⟩) J vY J<|?_;refine s9 10 J ?_;refine gx J<|cl (fu:=⟨7⟩) J (vM (l:=l) (p:=p) (i:=i) hi) J<|gj J (by show some (decide _)=some true;rw[decide_eq_true (by omega)]) J<|?_;refine cl J (vQ (l:=l)) J<|cl J (Qv (p:=l.dir) (i:=97)) J<|cl J (IC (p:=ck l.dir) (i:=500)) J<|rf J J<|?_;refine VM (fu:=⟨7⟩) ((o++[ck l.dir,bp (ck l.dir)]).map eZ) J (by rw[dV]<;>rfl) (wg [ck l.dir,bp (ck l.dir)]) J<|gj J (by show some (decide _)=some true;rw[decide_eq_true (by omega)]) J<|?_;refine cq (fu:=⟨7⟩) (((o++[ck l.dir,bp (ck l.dir)])++dO x p).map eZ) J (ihx (by rw[aR,bV,bV,gM];omega)) J J<|?_;refine gj J (by show some (decide _)=some true;rw[decide_eq_true (by omega)]) J<|cq _ J (ihy (by rw[aR,aR,bV,bV,gM];omega)) J J<|?_;exact tf J J J (by rw[Dx,hz];simp)
def WU{l:ab}{x y:Tr}{p:aa}{i:Nat}[hp:aB p i](hl:LB l)(hi:i<=10000000){o:List aa}(hs:o.length+2*(Tr.node l x y).size<=1000000)(hz:Int.sign (l.value p).num=1)(ihx: ∀{o:List aa},o.length+2*x.size<=1000000->PB GB prog 81 (ij [some (eU x),some (eZ p),none]) 6 89 (o.map eZ) (fun w=> .v (.slice w.a w.n w.c)) ((o++dO x p).map eZ)):PB GB prog 81 (ij [some (eU (.node l x y)),some (eZ p),none]) 6 89 (o.map eZ) (fun w=> .v (.slice w.a w.n w.c)) ((o++dO (.node l x y) p).map eZ):=by
 haveI:=hl;have hz2:(Tr.node l x y).size=1+x.size+y.size:=J;refine xb func81 J J ntmps81 J J (fun C=>?_);refine cl (fu:=⟨0⟩) J vY J<|?_;refine s9 10 J ?_;refine gx J<|cl (fu:=⟨7⟩) J (vM (l:=l) (p:=p) (i:=i) hi) J<|ek (fu:=⟨9⟩) J (by show some (decide _)=some false;rw[decide_eq_false (by omega)]) J<|?_;refine gj J (by show some (decide _)=some true;rw[decide_eq_true (by omega)]) J<|cq (fu:=⟨7⟩) _ J (ihx (by omega)) J J<|ek J (by show some (decide _)=some false;rw[decide_eq_false (by omega)]) J<|?_;exact tf J J J (by rw[Dx,hz];simp)
def axV{l:ab}{x y:Tr}{p:aa}{i:Nat}[hp:aB p i](hl:LB l)(hi:i<=10000000){o:List aa}(hs:o.length+2*(Tr.node l x y).size<=1000000)(hz:Int.sign (l.value p).num= -1)(ihy: ∀{o:List aa},o.length+2*y.size<=1000000->PB GB prog 81 (ij [some (eU y),some (eZ p),none]) 6 89 (o.map eZ) (fun w=> .v (.slice w.a w.n w.c)) ((o++dO y p).map eZ)):PB GB prog 81 (ij [some (eU (.node l x y)),some (eZ p),none]) 6 89 (o.map eZ) (fun w=> .v (.slice w.a w.n w.c)) ((o++dO (.node l x y) p).map eZ):=by
 haveI:=hl;have hz2:(Tr.node l x y).size=1+x.size+y.size:=J;refine xb func81 J J ntmps81 J J (fun C=>?_);refine cl (fu:=⟨0⟩) J vY J<|?_;refine s9 10 J ?_;refine gx J<|cl (fu:=⟨7⟩) J (vM (l:=l) (p:=p) (i:=i) hi) J<|ek (fu:=⟨9⟩) J (by show some (decide _)=some false;rw[decide_eq_false (by omega)]) J<|?_;refine ek (fu:=⟨9⟩) J (by show some (decide _)=some false;rw[decide_eq_false (by omega)]) J<|gj J (by show some (decide _)=some true;rw[decide_eq_true (by omega)]) J<|?_;refine cq _ J (ihy (by omega)) J J<|?_;exact tf J J J (by rw[Dx,hz];simp)
def Bt{p:aa}{i:Nat}[hp:aB p i](hi:i<=10000000:=by decide): ∀{t:Tr} {o:List aa},t.all LB->o.length+2*t.size<=1000000->PB GB prog 81 (ij [some (eU t),some (eZ p),none]) 6 89 (o.map eZ) (fun w=> .v (.slice w.a w.n w.c)) ((o++dO t p).map eZ)
 | .leaf _,_,_,_=>ao2
 | .node l x y,_,hb,hs=>by
  have hz2:(Tr.node l x y).size=1+x.size+y.size:=J;rcases lW (l.value p).num 0 with h|h|h
  ·exact axV hb.1 hi hs (fY h) fun k=>Bt hi hb.2.2 k
  ·exact WR hb.1 hi hs (by rw[h];rfl) (fun k=>Bt hi hb.2.1 k) fun k=>Bt hi hb.2.2 k
  ·exact WU hb.1 hi hs (fT h) fun k=>Bt hi hb.2.1 k
def asG{t:Tr}{p v:aa}{i j:Nat}[hp:aB p i][hv:aB v j](hb:t.all LB)(hi:i<=10000000:=by decide)(hj:j<=10000000:=by decide):PF GB prog 82 [eU t,eZ p,eZ v] (.tp [vB (fj t p v).1,vB (fj t p v).2]):=by
 refine fn func82 J J ntmps82 J J (fun C=>?_);refine lp (X:=Tr) (fun s=>[(0, .d (eU s))]) (fun s=>[]) (fun s=>fj s p v=fj t p v/\s.all LB) (fun s=>s.size) t J ⟨J,hb⟩ (fun _=>J) (fun s hk=>?_);obtain⟨h1,hb2⟩:=hk;rcases s with b|⟨l,x,y⟩
 .
  have hA:fj t p v=(b,true):=h1.symm;refine cl (fu:=⟨0⟩) J xo J<|?_;refine lx 10 J ?_;refine gx J<|?_;exact rz J (by rw[hA];rfl)
 .
  have hAn:=h1.symm;rw[fj,ym] at hAn;haveI:=hb2.1;refine cl (fu:=⟨0⟩) J vY J<|?_;refine s9 10 J ?_;refine gx J<|cl (fu:=⟨4⟩) J (vM (l:=l) (p:=p) (i:=i) hi) J<|?_;refine mg (X:=Int) (fun s8=>[(8, .d (vI s8))]) (fun s8=>[]) (fun s8=>s8=(if(l.value p).num.sign=0 then(l.nor.dot v).num.sign else(l.value p).num.sign)) [8] [] rfl ?_ (fun _=>J) (fun s8 hs8=>?_)
  .
   refine gx J<|?_;refine br J J J (fun hc19=>?_) (fun hc19=>?_)
   .
    refine cl J (wz (l:=l)) J<|cl J (oA (p:=l.nor) (q:=v) (i:=97) (j:=j) (by decide) (by omega)) J<|cl J (kv (q:=l.nor.dot v) (by omega)) J<|?_;exact at_ (l.nor.dot v).num.sign (if_pos hc19).symm
   .
    exact at_ (l.value p).num.sign (if_neg hc19).symm
  .
   rw[<-hs8] at hAn;refine br J J J (fun hc29=>?_) (fun hc29=>?_)
   .
    exact at_ x ⟨⟨by rw[hAn,hc29];rfl,hb2.2.1⟩,(by simp only[Tr.size];omega)⟩
   .
    refine br J J J (fun hc35=>?_) (fun hc35=>?_)
    .
     exact at_ y ⟨⟨by rw[hAn,hc35];rfl,hb2.2.2⟩,(by simp only[Tr.size];omega)⟩
    .
     exact rz J (by rw[hAn];split<;>first|rfl|contradiction)
def Pb{q:Rat}{i:Nat}[h:BQ q i](hi:i<=400000000:=by decide):PF GB prog 84 [eR q] (eF q):=by
 haveI:BN q.num.natAbs i:=⟨h.hn⟩;haveI:BN q.den i:=⟨h.hd⟩;refine fn func84 J J ntmps84 J J (fun C=>?_);refine cl (fu:=⟨0⟩) J (uV (n:=decide (q.num<0)) (a:=q.num.natAbs) (d:=q.den) (i:=i) (j:=i) (by omega) (by omega)) J<|?_;refine ao 7 (.d (eF q)) J (by rw[my,tY]) ?_;refine gx J<|?_;exact rz J J
def DM{p:aa}{i:Nat}[h:aB p i](hi:i<=400000000:=by decide):PF GB prog 42 [mv p] (eZ p):=by
 refine fn func42 J J ntmps42 J J (fun C=>?_);refine cl J (Pb (q:=p.x) (i:=i) hi) J<|cl J (Pb (q:=p.y) (i:=i) hi) J<|?_;exact rz J J
def aG0(G:Gh)(y:Value)(h:Is G (.sl [.ag [vI (dq 1),vI (dm 1),dh 1,vI 0,vI 0, .v (.pointer none)]]) y):Is G (.sl ((fy []).map eZ)) y:=by
 obtain⟨s,x,es,rfl,h1,h2⟩:=iu.1 h;obtain⟨v,m,rfl,k,h3⟩:=aP.1 h2
 cases co.1 h3
 refine iu.2 ⟨s,x,_,J,h1, .cons ?_ .nil⟩;obtain⟨m4,rfl,g4⟩:=c7.1 k;obtain⟨v1,m1,rfl,k1,g1⟩:=aP.1 g4;obtain⟨v2,m2,rfl,k2,g2⟩:=aP.1 g1;obtain⟨v3,m3,rfl,k3,g3⟩:=aP.1 g2;obtain⟨m5,q5,g5⟩:=c7.1 (ut _ _ (c7.2 ⟨m3,rfl,g3⟩))
 cases q5
 exact c7.2 ⟨_,J, .cons k1 (.cons k2 (.cons k3 g5))⟩
def SF{ds:List aa}{k:Nat}{u w:aa}(h1:ds[k]? =some u)(h2:ds[(k+1)%ds.length]? =some w):l5 ds k=if 0<Int.sign (u.cross w).num then u.add w else gO u:=by
 unfold l5;rw[aK,aK,h1,h2];rfl
def Qk(ds:List aa)(k:Nat):(List.range (k+1)).map (l5 ds)=(List.range k).map (l5 ds)++[l5 ds k]:=by rw[List.range_succ,dV];rfl
def aCR:PF GB prog 79 [.sl []] (.sl ((fy []).map eZ)):=by
 refine fn (fu:=⟨10⟩) func79 J J ntmps79 J J (fun C=>?_);refine gj J (by rfl) J<|cl J (ph (by omega)) J<|rf J J<|?_;exact jf J aG0
def Zs{ds:List aa}{i:Nat}(h0:0<ds.length)(hb: ∀d∈ds,aB d i)(hn:ds.length<=10000000)(hi:i<=1000000:=by decide):PF GB prog 79 [.sl (ds.map eZ)] (.sl ((fy ds).map eZ)):=by
 have hml:(ds.map eZ).length=ds.length:=aJ ..;refine fn (fu:=⟨10⟩) func79 J J ntmps79 J J (fun C=>?_);refine ao 8 (.d (vI (ds.length:Nat))) J (by rw[hml]<;>rfl) ?_;refine gx (fu:=⟨0⟩) J<|ek (fu:=⟨15⟩) J (by show some (decide _)=some false;rw[decide_eq_false (by omega)]) J<|?_;refine ao 14 (.d (vI (ds.length:Nat))) J (by rw[hml]<;>rfl) ?_;refine gx J<|?_;refine nr 3 3 89 6 J J J ?_;refine lp (X:=List aa×Nat) (fun⟨acc,k⟩=>[(15, .d (vI (k:Nat))),(3, .rw 3)]) (fun⟨acc,k⟩=>[(3,some (.b 89 6 (acc.map eZ) true))]) (fun⟨acc,k⟩=>acc=(List.range k).map (l5 ds)/\k<=ds.length) (fun⟨acc,k⟩=>ds.length-k) ⟨[],0⟩ J ⟨J,bT _⟩ (fun _=>J) (fun⟨acc,k⟩ hk=>?_)
 try dsimp only at hk⊢
 obtain⟨h1,h2⟩:=hk;have hal:acc.length=k:=by rw[h1,aJ,oX]
 have ham:(acc.map eZ).length=acc.length:=aJ ..;refine br J J J (fun hc16=>?_) (fun hc16=>?_)
 .
  obtain⟨u,hx⟩: ∃u,ds[k]? =some u:=⟨_,aX (by omega)⟩;obtain⟨w,hw⟩: ∃w,ds[(k+1)%ds.length]? =some w:=⟨_,aX (dW _ (by omega))⟩;haveI:=hb u (aM hx);haveI:=hb w (aM hw);refine ix (fu:=⟨13⟩) _ J (ee hx) J<|?_;refine ao 24 (.d (vI (ds.length:Nat))) J (by rw[hml]<;>rfl) ?_;refine gx (fu:=⟨1⟩) J<|?_;refine ao 25 (.d (vI (((k+1)%ds.length:Nat):Int))) J J ?_;refine gx J<|ix _ J (ee hw) J<|cl J (Mo (p:=u) (q:=w) (by omega) (by omega)) J<|cl J (kv (q:=u.cross w) (by omega)) J<|?_;refine br J J J (fun hc32=>?_) (fun hc32=>?_)
  .
   refine cl J (C9 (p:=u) (q:=w) (by omega) (by omega)) J<|rf J J<|ap ((acc++[u.add w]).map eZ) J (by rw[dV]<;>rfl) (wg [u.add w]) J<|?_;refine iv 38 3 J ?_;exact at_ ⟨acc++[u.add w],k+1⟩ (by dsimp only;exact⟨⟨by rw[Qk,SF hx hw,if_pos hc32,<-h1],by omega⟩,(by omega)⟩)
  .
   refine cl J (SP (p:=u) (by omega)) J<|rf J J<|ap ((acc++[gO u]).map eZ) J (by rw[dV]<;>rfl) (wg [gO u]) J<|?_;refine iv 43 3 J ?_;exact at_ ⟨acc++[gO u],k+1⟩ (by dsimp only;exact⟨⟨by rw[Qk,SF hx hw,if_neg hc32,<-h1],by omega⟩,(by omega)⟩)
 .
  obtain rfl:k=ds.length:=by omega
  have hS:fy ds=acc:=by unfold fy;rw[if_neg (by omega),h1]
  refine mD 3 J ?_;exact rz J (by rw[hS];rfl)
def OO{ds:List aa}{i:Nat}(hb: ∀d∈ds,aB d i)(hn:ds.length<=10000000)(hi:i<=1000000:=by decide):PF GB prog 79 [.sl (ds.map eZ)] (.sl ((fy ds).map eZ)):=by
 cases ds with
 |nil=>exact aCR
 |cons d ds=>exact Zs (i:=i) (Nat.zero_lt_succ _) hb hn hi
def Q9{p q:aa}{i:Nat}[hp:aB p i][hq:aB q i](hi:i<=1000000:=by decide):PF GB prog 93 [eZ p,eZ q] (vB (decide (p.x=q.x/\p.y=q.y))):=by
 refine fn func93 J J ntmps93 J J (fun C=>?_);refine cl J (Aw (p:=p.x) (q:=q.x) (i:=i) (j:=i) (by omega) (by omega)) J<|?_;refine csd 10 J J J (fun hg10=>?_) (fun hg10=>?_)
 .
  refine cl J (Aw (p:=p.y) (q:=q.y) (i:=i) (j:=i) (by omega) (by omega)) J<|?_;exact rz J (by show DV.v (.bool _)= .v (.bool _);simp_all)
 .
  exact rz J (by show DV.v (.bool _)= .v (.bool _);simp_all)
def LA{p q:aa}{i j:Nat}[hp:aB p i][hq:aB q j](hi:i<=10000000:=by decide)(hj:j<=10000000:=by decide):PF GB prog 145 [eZ p,eZ q] (eZ ⟨p.x-q.x,p.y-q.y⟩):=by
 refine fn func145 J J ntmps145 J J (fun C=>?_);refine cl J (u6 (p:=p.x) (q:=q.x) (i:=i) (j:=j) (by omega) (by omega)) J<|cl J (u6 (p:=p.y) (q:=q.y) (i:=i) (j:=j) (by omega) (by omega)) J<|?_;exact rz J J
def Dm{l:ab}{p:aa}{i:Nat}[hl:LB l][hp:aB p i](hi:i<=1000000:=by decide):PF GB prog 96 [e7 l,eZ p] (eF (cB l p)):=by
 refine fn func96 J J ntmps96 J J (fun C=>?_);refine cl J (vQ (l:=l)) J<|cl (fu:=⟨0⟩) J (oA (p:=l.dir) (q:=p) (i:=97) (j:=i) (by decide) (by omega)) J<|?_;refine ao 10 (.d (eF (p.dot l.dir))) J (by rw[show l.dir.dot p=p.dot l.dir by unfold aa.dot;grind]) ?_;refine gx J<|cl J (oA (p:=l.dir) (q:=l.dir) (i:=97) (j:=97) (by decide) (by decide)) J<|cl J (uD (p:=p.dot l.dir) (q:=l.dir.dot l.dir) (i:=i+97+(i+97)+1) (j:=97+97+(97+97)+1) (by omega) (by decide)) J<|?_;exact rz J J
def QE{v:av}{t:Rat}{i:Nat}[h1:BQ v.lo i][h2:BQ v.hi i][h3:BQ t i](hi:i<=1000000:=by decide):PF GB prog 186 [eW v,eF t] (vB (qD v t)):=by
 refine fn func186 J J ntmps186 J J (fun C=>?_);refine ml 7 J J J (fun hg7=>?_) (fun hg7=>?_)
 .
  refine ml 17 J J J (fun hg17=>?_) (fun hg17=>?_)
  .
   exact rz J (by show DV.v (.bool _)= .v (.bool _);unfold qD;simp_all<;>(intros;omega))
  .
   refine cl J (jE (p:=v.hi) (q:=t) (i:=i) (j:=i) (by omega) (by omega)) J<|?_;exact rz J (by show DV.v (.bool _)= .v (.bool _);unfold qD;simp_all<;>(intros;omega))
 .
  refine cl J (jE (p:=v.lo) (q:=t) (i:=i) (j:=i) (by omega) (by omega)) J<|?_;refine cs 14 J J J (fun hg14=>?_) (fun hg14=>?_)
  .
   refine ml 17 J J J (fun hg17=>?_) (fun hg17=>?_)
   .
    exact rz J (by show DV.v (.bool _)= .v (.bool _);unfold qD;simp_all<;>(intros;omega))
   .
    refine cl J (jE (p:=v.hi) (q:=t) (i:=i) (j:=i) (by omega) (by omega)) J<|?_;exact rz J (by show DV.v (.bool _)= .v (.bool _);unfold qD;simp_all<;>(intros;omega))
  .
   exact rz J (by show DV.v (.bool _)= .v (.bool _);unfold qD;simp_all<;>(intros;omega))
def aHw{G:Gh}{q:Rat}{y:Value}(h: ¬fi q)(hy:Is G (dh q) y):y= .pointer none:=by
 unfold dh at hy;rw[decide_eq_false h] at hy;rcases tj.1 hy with⟨_,e⟩|⟨e,_⟩
 ·exact e
 ·cases e
def ZJ{G:Gh}{q:Rat}(h: ¬fi q):Is G (dh q) (.pointer none):=by
 unfold dh;rw[decide_eq_false h];exact tj.2 (.inl ⟨J,J⟩)
def xF(q:Rat):List Value:=[.int .i64 (dq q), .int .i64 (dm q), .pointer none]
def zh{G:Gh}{q:Rat}{t:List DV}{m:List Value}(h: ¬fi q)(hm:IsLs G (vI (dq q)::vI (dm q)::dh q::t) m): ∃n,m=xF q++n/\IsLs G t n:=by
 obtain⟨y1,m1,rfl,h1,hm1⟩:=aP.1 hm;obtain⟨y2,m2,rfl,h2,hm2⟩:=aP.1 hm1;obtain⟨y3,m3,rfl,h3,hm3⟩:=aP.1 hm2;obtain rfl:=aH.1 h1;obtain rfl:=aH.1 h2;obtain rfl:=aHw h h3;exact⟨m3,J,hm3⟩
def z'{G:Gh}{q:Rat}{t:List DV}{n:List Value}(h: ¬fi q)(k:IsLs G t n):IsLs G (vI (dq q)::vI (dm q)::dh q::t) (xF q++n):= .cons (aH.2 J) (.cons (aH.2 J) (.cons (ZJ h) k))
def rV(q:Rat):Value:= .agg ⟨xF q⟩
def U5{G:Gh}{q:Rat}{y:Value}(h: ¬fi q)(hy:Is G (eF q) y):y=rV q:=by
 obtain⟨m,rfl,hm⟩:=c7.1 hy;obtain⟨n,rfl,hn⟩:=zh h hm;rw[co.1 hn];rfl
def aI4{G:Gh}{q:Rat}(h: ¬fi q):Is G (eF q) (rV q):=c7.2 ⟨_,J,z' h (co.2 J)⟩
structure I3 (f:aE):Prop where
 a: ¬fi (f.l.a:Rat)
 b: ¬fi (f.l.b:Rat)
 c: ¬fi (f.l.c:Rat)
 lo: ¬fi f.v.lo
 hi: ¬fi f.v.hi
def wh(f:aE):Value:= .agg ⟨xF f.l.a++(xF f.l.b++(xF f.l.c++(xF f.v.lo++(xF f.v.hi++[.bool f.v.nl, .bool f.v.nh]))))⟩
def Av{G:Gh}{f:aE}{y:Value}(h:I3 f)(hy:Is G (bh f) y):y=wh f:=by
 obtain⟨m0,rfl,k0⟩:=c7.1 hy;obtain⟨m1,rfl,k1⟩:=zh h.a k0;obtain⟨m2,rfl,k2⟩:=zh h.b k1;obtain⟨m3,rfl,k3⟩:=zh h.c k2;obtain⟨m4,rfl,k4⟩:=zh h.lo k3;obtain⟨m5,rfl,k5⟩:=zh h.hi k4;obtain⟨y1,m6,rfl,h1,k6⟩:=aP.1 k5;obtain⟨y2,m7,rfl,h2,k7⟩:=aP.1 k6;obtain rfl:=aH.1 h1;obtain rfl:=aH.1 h2;obtain rfl:=co.1 k7;rfl
def A7{G:Gh}{f:aE}(h:I3 f):Is G (bh f) (wh f):=c7.2 ⟨_,J,z' h.a (z' h.b (z' h.c (z' h.lo (z' h.hi (.cons (aH.2 J) (.cons (aH.2 J) (co.2 J)))))))⟩
structure FE (f:aE):Prop where
 fo:pz f
 sm:I3 f
 nl:f.v.nl=false
 nh:f.v.nh=false
theorem DO{l:ab}{p:aa}{i:Nat}(hl:LB l)[hp:aB p i]:BQ (cB l p) (2*i+600):=by
 haveI:=hl;have h:BQ (p.dot l.dir/l.dir.dot l.dir) (i+97+(i+97)+1+(97+97+(97+97)+1)):=inferInstance;exact BQ.mono (show BQ (cB l p) _ from h) (by omega)
def Uf{f:aE}(hf:FE f){p:aa}{i:Nat}[hp:aB p i](hi:i<=100000:=by decide):PF GB prog 137 [bh f,eZ p] (vB (kl f p)):=by
 haveI:=hf.fo.lb;haveI:=hf.fo.lo;haveI:=hf.fo.hi;haveI:=DO (p:=p) (i:=i) hf.fo.lb;haveI:BQ f.v.lo (2*i+1800):=hf.fo.lo.mono (by omega);haveI:BQ f.v.hi (2*i+1800):=hf.fo.hi.mono (by omega);haveI:BQ (cB f.l p) (2*i+1800):=(DO (p:=p) (i:=i) hf.fo.lb).mono (by omega);refine fn func137 J J ntmps137 J J (fun C=>?_);refine cl (fu:=⟨0⟩) J (vM (l:=f.l) (p:=p) (i:=i) (by omega)) J<|?_;refine qt (v2:=fun hg9=>by simp only[ah];kernel_rfl) J J J J (fun hg9=>?_) (fun hg9=>?_)
 .
  refine cl J (Dm (l:=f.l) (p:=p) (i:=i) (by omega)) J<|cl J (QE (v:=f.v) (t:=cB f.l p) (i:=2*i+1800) (by omega)) J<|?_;exact rz J (by show DV.v (.bool _)= .v (.bool _);unfold kl;simp_all)
 .
  exact rz J (by show DV.v (.bool _)= .v (.bool _);unfold kl;simp_all)
def Ic{f:aE}(hf:FE f):PF GB prog 106 [bh f] (.tp [eZ (f.l.at f.v.lo),vB true]):=by
 haveI:=hf.fo.lb;haveI:=hf.fo.lo;haveI:=hf.fo.hi;refine fn (fu:=⟨13⟩) func106 J J ntmps106 J J (fun C=>?_);refine ao 6 (.d (vB false)) J (by rw[hf.nl]<;>rfl) ?_;refine s9 6 J ?_;refine gx J<|cl J (Ey (l:=f.l) (t:=f.v.lo) (i:=1200)) J<|?_;exact rz J J
def IF{f:aE}(hf:FE f):PF GB prog 107 [bh f] (.tp [eZ (f.l.at f.v.hi),vB true]):=by
 haveI:=hf.fo.lb;haveI:=hf.fo.lo;haveI:=hf.fo.hi;refine fn (fu:=⟨13⟩) func107 J J ntmps107 J J (fun C=>?_);refine ao 6 (.d (vB false)) J (by rw[hf.nh]<;>rfl) ?_;refine s9 6 J ?_;refine gx J<|cl J (Ey (l:=f.l) (t:=f.v.hi) (i:=1200)) J<|?_;exact rz J J
theorem AR{l:ab}{t:Rat}(hl:LB l)(ht:BQ t 1200):aB (l.at t) 3000:=aB.mono (inferInstance:aB (l.at t) _) (by decide)
def rj{f:aE}(h1:f.v.nl=false)(h2:f.v.nh=false)(p:aa):sA f p=if Int.sign f.l.dir.y.num=0 then 0 else if Int.sign (f.l.value p).num≠Int.sign f.l.dir.y.num then 0 else
  if Int.sign f.l.dir.y.num<0 then(if 0<cg (f.l.at f.v.hi).y p.y then 0 else if cg (f.l.at f.v.lo).y p.y<=0 then 0 else Int.sign f.l.dir.y.num)
  else(if 0<cg (f.l.at f.v.lo).y p.y then 0 else if cg (f.l.at f.v.hi).y p.y<=0 then 0 else Int.sign f.l.dir.y.num):=by
 unfold sA;rw[h1,h2];generalize Int.sign f.l.dir.y.num=U;generalize Int.sign (f.l.value p).num=S;generalize cg (f.l.at f.v.hi).y p.y=a;generalize cg (f.l.at f.v.lo).y p.y=b;by_cases k:U=0
 ·simp[k]
 ·by_cases k2:S≠U
  ·simp[k2]
  ·rw[if_neg (by simp[k,k2]),if_neg k,if_neg k2]
   by_cases k3:U<0
   ·simp[k3]
   ·simp[k3]
def Rj(f:aE)(p:aa):(sA f p).natAbs<=1:=by
 unfold sA;have:=aFa f.l.dir.y.num
 repeat' split
 all_goals omega
def Uk{E:List aE}{p:aa}{k:Nat}{f:aE}(h:E[k]? =some f):gn (E.take (k+1)) p=gn (E.take k) p+sA f p:=by
 rw[fN,h];show gn (E.take k++[f]) p=_;rw[Ij];unfold gn;simp
def Qm(E:List aE)(p:aa): ∀k,(gn (E.take k) p).natAbs<=k
 |0=>by simp[gn]
 |k+1=>by
  have ih:=Qm E p k
  cases h:E[k]? with
  |none=>
   have:E.take (k+1)=E.take k:=by rw[fN,h];simp
   rw[this];omega
  |some f=>
   rw[Uk h];have:=Rj f p;omega
def ay1{f:aE}(hf:FE f){p:aa}{i:Nat}[hp:aB p i](hi:i<=100000:=by decide):PF GB prog 59 [bh f,eZ p] (vI (sA f p)):=by
 haveI:=hf.fo.lb;haveI:=hf.fo.lo;haveI:=hf.fo.hi;haveI:aB (f.l.at f.v.hi) 3000:=AR hf.fo.lb hf.fo.hi;haveI:aB (f.l.at f.v.lo) 3000:=AR hf.fo.lb hf.fo.lo;refine fn func59 J J ntmps59 J J (fun C=>?_);refine cl J (vQ (l:=f.l)) J<|cl (fu:=⟨6⟩) J (kv (q:=f.l.dir.y) (i:=97)) J<|?_;rcases Int.lt_or_le (Int.sign f.l.dir.y.num) 0 with hu|hu
 .
  refine gx J<|?_;refine cs 19 J J J (fun hg19=>?_) (fun hg19=>?_)
  .
   exact rz J (by rw[rj hf.nl hf.nh];(repeat' split)<;>first|rfl|(exfalso;omega))
  .
   refine cl J (vM (l:=f.l) (p:=p) (i:=i) (by omega)) J<|?_;refine br (fu2:=⟨5⟩) J J J (fun hc26=>?_) (fun hc26=>?_)
   .
    exact rz J (by rw[rj hf.nl hf.nh];(repeat' split)<;>first|rfl|(exfalso;omega))
   .
    refine AJ (fu:=⟨1⟩) (wh f) J (fun G y hy=>Av hf.sm hy) J<|AJ (fu:=⟨8⟩) (wh f) J (fun G y hy=>Av hf.sm hy) J<|gj (fu:=⟨14⟩) J (by show some (decide _)=some true;rw[decide_eq_true (by omega)]) J<|?_;refine uK (fu:=⟨12⟩) (ds1:=[bh f]) (ds2:=[]) J (.cons (A7 hf.sm) (co.2 J)) (co.2 J) (IF hf) J<|?_;refine lx 41 J ?_;refine gx J<|cl J (jE (i:=3000) (j:=i) (by decide) (by omega)) J<|?_;refine br (fu2:=⟨6⟩) J J J (fun hc48=>?_) (fun hc48=>?_)
    .
     exact rz J (by rw[rj hf.nl hf.nh];(repeat' split)<;>first|rfl|(exfalso;omega))
    .
     refine uK (fu:=⟨12⟩) (ds1:=[bh f]) (ds2:=[]) J (.cons (A7 hf.sm) (co.2 J)) (co.2 J) (Ic hf) J<|?_;refine lx 55 J ?_;refine gx J<|cl J (jE (i:=3000) (j:=i) (by decide) (by omega)) J<|?_;refine br J J J (fun hc62=>?_) (fun hc62=>?_)
     .
      exact rz J (by rw[rj hf.nl hf.nh];(repeat' split)<;>first|rfl|(exfalso;omega))
     .
      exact rz J (by rw[rj hf.nl hf.nh];(repeat' split)<;>first|rfl|(exfalso;omega))
 .
  refine gx J<|?_;refine cs 19 J J J (fun hg19=>?_) (fun hg19=>?_)
  .
   exact rz J (by rw[rj hf.nl hf.nh];(repeat' split)<;>first|rfl|(exfalso;omega))
  .
   refine cl J (vM (l:=f.l) (p:=p) (i:=i) (by omega)) J<|?_;refine br (fu2:=⟨5⟩) J J J (fun hc26=>?_) (fun hc26=>?_)
   .
    exact rz J (by rw[rj hf.nl hf.nh];(repeat' split)<;>first|rfl|(exfalso;omega))
   .
    refine AJ (fu:=⟨1⟩) (wh f) J (fun G y hy=>Av hf.sm hy) J<|AJ (fu:=⟨8⟩) (wh f) J (fun G y hy=>Av hf.sm hy) J<|ek (fu:=⟨9⟩) J (by show some (decide _)=some false;rw[decide_eq_false (by omega)]) J<|?_;refine uK (fu:=⟨12⟩) (ds1:=[bh f]) (ds2:=[]) J (.cons (A7 hf.sm) (co.2 J)) (co.2 J) (Ic hf) J<|?_;refine lx 41 J ?_;refine gx J<|cl J (jE (i:=3000) (j:=i) (by decide) (by omega)) J<|?_;refine br (fu2:=⟨6⟩) J J J (fun hc48=>?_) (fun hc48=>?_)
    .
     exact rz J (by rw[rj hf.nl hf.nh];(repeat' split)<;>first|rfl|(exfalso;omega))
    .
     refine uK (fu:=⟨12⟩) (ds1:=[bh f]) (ds2:=[]) J (.cons (A7 hf.sm) (co.2 J)) (co.2 J) (IF hf) J<|?_;refine lx 55 J ?_;refine gx J<|cl J (jE (i:=3000) (j:=i) (by decide) (by omega)) J<|?_;refine br J J J (fun hc62=>?_) (fun hc62=>?_)
     .
      exact rz J (by rw[rj hf.nl hf.nh];(repeat' split)<;>first|rfl|(exfalso;omega))
     .
      exact rz J (by rw[rj hf.nl hf.nh];(repeat' split)<;>first|rfl|(exfalso;omega))
def Py{E:List aE}(hE: ∀f∈E,FE f)(hn:E.length<=1000000){p:aa}{i:Nat}[hp:aB p i](hi:i<=100000:=by decide):PF GB prog 25 [.sl (E.map bh),eZ p] (vI (gn E p)):=by
 have hml:(E.map bh).length=E.length:=aJ ..;refine fn (fu:=⟨16⟩) func25 J J ntmps25 J J (fun C=>?_);refine ao 9 (.d (vI (E.length:Nat))) J (by rw[hml]<;>rfl) ?_;refine gx J<|?_;refine lp (X:=Nat) (fun k=>[(10, .d (vI (k:Nat))),(5, .d (vI (gn (E.take k) p)))]) (fun k=>[]) (fun k=>k<=E.length) (fun k=>E.length-k) 0 J (bT _) (fun _=>J) (fun k hk=>?_);have hw:=Qm E p k;refine br J J J (fun hc11=>?_) (fun hc11=>?_)
 .
  obtain⟨f,hx⟩: ∃u,E[k]? =some u:=⟨_,aX (by omega)⟩;have hf:=hE f (aM hx);have hcl:=Rj f p;refine ix _ J (ee hx) J<|cl J (ay1 hf (p:=p) (i:=i) hi) J<|?_;refine ao 5 (.d (vI (gn (E.take (k+1)) p))) J (by rw[Uk hx]<;>rfl) ?_;exact at_ (k+1) ⟨(by omega),(by omega)⟩
 .
  obtain rfl:k=E.length:=by omega
  rw[dS];exact rz J J
end Go.Sx
end
