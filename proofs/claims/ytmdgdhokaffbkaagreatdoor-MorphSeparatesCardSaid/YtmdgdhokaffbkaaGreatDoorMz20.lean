import Derived.Test.YtmdgdhokaffbkaaGreatDoorMz19
import Derived.RecoverIn
set_option linter.all false
set_option maxHeartbeats 2000000
set_option maxRecDepth 100000
section
namespace Go.Sx
open Go Go.Proofs Tryz
variable {GB G:Gh}{K:List ah}{t:Tr}{c:ar}{op b d D X Y z:Int}{u p q1 q2 w:aa}{V l v o ds:List aa}{L:List Rat}{a j i n i0:Nat}{A B q O β γ:Rat}{r:List ZP}{y:Value}{C:aG}{α:Type}{es:List Int}{Q0:Exit->Act->World->Prop}{fr fr':aD}{own':aI}{cf cf':Cf}{vc:List Prop}{ai al ae:Addr}
def IT{K:List ah}(hK: ∀m∈K,m.ok): ∀{t:Tr} {c:ar},t.Prp c->t.all ah.ok->bG c->jj K t->t.depth<=r7 K c
 | .leaf _,_,_,_,_,_=>bK _
 | .node n x y,c,⟨h1,h2,h3,h4⟩,⟨hn,hx,hy⟩,hc,⟨⟨m0,hm0,hs⟩,kx,ky⟩=>by
  obtain⟨g1,i1⟩:=ir hc hn h1;obtain⟨g2,i2⟩:=ir hc hn.rev h2;have a:=IT hK h3 hx g1 kx;have b:=IT hK h4 hy g2 ky;have hm0k:=hK m0 hm0;have n2:mB c m0=true:=by
   rw[pH hc hm0k];obtain⟨p,hp,k⟩:=(pH hc hn).1 (by unfold mB;rw[h1,h2];rfl);exact⟨p,hp,px hs.symm k⟩
  have key: ∀d:ar,bG d->(∀p,bw d p->bw c p/\n.value p≠0)->r7 K d+1<=r7 K c:=fun d hd h=>by
   unfold r7;refine yN (m0:=m0) (d:=1) (fun m hm=>?_) hm0 ?_
   .have hmk:=hK m hm
    cases e1:mB d m with
    |false=>exact bK _
    |true=>
     obtain⟨p,hp,k⟩:=(pH hd hmk).1 e1;rw[(pH hc hmk).2 ⟨p,(h p hp).1,k⟩];exact bW _
   .have e1:mB d m0=false:=by
     rw[<-kJ,pH hd hm0k];rintro ⟨p,hp,k⟩;exact(h p hp).2 (px hs k)
    try dsimp only
    rw[e1,n2];decide
  have d1:=key _ g1 fun p hp=>⟨((i1 p).1 hp).1,by have:=((i1 p).1 hp).2;grind⟩;have d2:=key _ g2 fun p hp=>⟨((i2 p).1 hp).1,by have:=((i2 p).1 hp).2;rw[fh] at this;grind⟩;show 1+max _ _<=_;omega
def axx(hK: ∀m∈K,m.ok)(h:t.Prp c)(ht:t.all ah.ok)(hc:bG c)(hA:jj K t):t.depth<=K.length:=by
 have h1:=IT hK h ht hc hA;have h2:r7 K c<=K.length*1:=yL fun m _=>Kd _;omega
structure um (K:List ah) (t:Tr):Prop where
 ok:t.all ah.ok
 am:jj K t
 rd:t.Red []
def um.size{K:List ah}(hK: ∀m∈K,m.ok){t:Tr}(h:um K t):2*t.size<=K.length*(K.length+1)/\t.depth<=K.length:=
 ⟨QS hK (Tr.red_prp h.rd) h.ok bG.nil h.am,axx hK (Tr.red_prp h.rd) h.ok bG.nil h.am⟩
def um.merge{K:List ah}{op:Int}{t u:Tr}(h:um K t)(hu:u.all ah.ok)(hA:jj K u):um K (t.mergeQ op u []):=
 ⟨Tr.mergeQ_all ah.ok op hu t [] h.ok,h.am.merge hA [],Tr.merge_red op u t []⟩
def um.lim(hK: ∀m∈K,m.ok)(hn:K.length<=361){u:Tr}(h:um K t)(hu:u.all ah.ok)(hA:jj K u)(hd:u.depth<=600):oG op t u=some (t.mergeQ op u []):=by
 obtain⟨a1,a2⟩:=h.size hK;obtain⟨b1,_⟩:=(h.merge (op:=op) hu hA).size hK;have:K.length*(K.length+1)<=361*362:=iS hn m5;exact awW (op:=op) (a:=t) (b:=u) m5 m5
def N7{K:List ah}(hK: ∀m∈K,m.ok)(hn:K.length<=361){op:Int}: ∀{us:List Tr} {t:Tr},(∀u∈us,u.all ah.ok/\jj K u/\u.depth<=600)->um K t->qA op t us=some (us.foldl (fun t u=>t.mergeQ op u []) t)/\um K (us.foldl (fun t u=>t.mergeQ op u []) t)
 |[],t,_,ht=>⟨J,ht⟩
 |u::us,t,h,ht=>by
  obtain⟨h1,h2,h3⟩:=h u aQ;obtain⟨i1,i2⟩:=N7 hK hn (op:=op) (us:=us) (fun v hv=>h v (aJ _ hv)) (ht.merge (op:=op) h1 h2);refine⟨?_,i2⟩;rw[qA,ht.lim hK hn h1 h2 h3];exact i1
def tO(V:List aa)(E:List (aa×aa))(K:List ah)(cs:List ar):List ah:=(K.flatMap fun l=>[k8 l V,k8 l.rev V])++cs.flatMap fun c=>E.filterMap (ni c)
def J9{α β:Type}{f:α->List β}{n:Nat}: ∀{l:List α},(∀x∈l,(f x).length<=n)->(l.flatMap f).length<=l.length*n
 |[],_=>by simp
 |x::l,h=>by
  have:=J9 (f:=f) (n:=n) (l:=l) fun y hy=>h y (aJ _ hy);have:=h x aQ;rw[kK,aU,aN,gK];omega
def Xm{E:List (aa×aa)}{cs:List ar}:(tO V E K cs).length<=K.length*2+cs.length*E.length:=by
 unfold tO;rw[aU];have h1:=J9 (f:=fun l=>[k8 l V,k8 l.rev V]) (n:=2) (l:=K) fun x _=>bW _;have h2:=J9 (f:=fun c=>E.filterMap (ni c)) (n:=E.length) (l:=cs) fun x _=>mN _ _;omega
def KO{E:List (aa×aa)}(hB:iz V E)(hK: ∀l∈K,l.ok){cs:List ar}: ∀l∈tO V E K cs,l.ok:=fun l hl=>by
 rcases aL.1 hl with h|h
 .obtain⟨k,hk,h⟩:=gJ.1 h
  simp only[aV,fJ,or_false] at h;rcases h with rfl|rfl
  .exact(Ca (hK k hk) V).1
  .exact(Ca (hK k hk).rev V).1
 .obtain⟨c,_,h⟩:=gJ.1 h
  obtain⟨f,hf,h⟩:=kY.1 h;obtain⟨_,_,h1,_⟩:=Eh (hB.nz hf) h;exact h1
def WZ{E:List (aa×aa)}{cs:List ar}(hc:c∈cs)(hs: ∀s∈c,∃m∈K,m.same s.l): ∀l∈kB c V E,l∈tO V E K cs:=fun l hl=>by
 unfold kB at hl;rcases aL.1 hl with h|h
 .obtain⟨s,hs',rfl⟩:=aT.1 h
  obtain⟨m,hm,k⟩:=hs s hs';refine bJ _ (gJ.2 ⟨m,hm,?_⟩);rcases k with k|k<;>rw[k]<;>simp
 .exact aM _ (gJ.2 ⟨c,hc,h⟩)
def XW{L:List ah}: ∀l∈jl L,l∈L:=fun _ h=>(uD.1 h).1
def IZ{E:List (aa×aa)}{P:ah->Prop}(h: ∀l∈kB c V E,P l):(gj V E c).all P:=Lw fun l hl=>h l (XW l hl)
def avY{E:List (aa×aa)}:(kB c V E).length<=c.length+E.length:=by
 unfold kB;rw[aU,aX];have:=mN (ni c) E;omega
def aBP{E:List (aa×aa)}:(gj V E c).depth<=c.length+E.length:=by
 unfold gj;rw[RY];exact dZ (Am _) avY
def WV(hA:jj K t)(hc:c∈f7 t): ∀s∈c,∃m∈K,m.same s.l:=
 yw (P:=fun l=> ∃m∈K,m.same l) (fun l ⟨m,hm,h⟩=>⟨m,hm,h.trans (.inr J)⟩) hA (fun s hs=>by cases hs) (tF.1 hc)
def aFI{E:List (aa×aa)}(hB:iz V E)(ht:t.all ah.ok)(hK: ∀l∈K,l.ok)(hA:jj K t)(hs: ∀c∈f7 (t.restrict []),c.length+E.length<=600)(hn:(tO V E K (f7 (t.restrict []))).length<=361):
  qA 1 (Tr.leaf false) ((f7 (t.restrict [])).map (gj V E))=some (jI V E t)/\um (tO V E K (f7 (t.restrict []))) (jI V E t):=by
 have h:=N7 (K:=tO V E K (f7 (t.restrict []))) (KO hB hK) hn (op:=1) (us:=(f7 (t.restrict [])).map (gj V E)) (t:= .leaf false) (fun u hu=>by
  obtain⟨c,hc,rfl⟩:=aT.1 hu;obtain⟨g1,g2⟩:=vY ht c hc;exact⟨CW hB g1 g2,IZ fun l hl=>⟨l,WZ hc (WV (hA.restrict []) hc) l hl, .inl J⟩,dZ aBP (hs c hc)⟩) ⟨trivial,trivial,trivial⟩
 rw[List.foldl_map] at h;exact h
def ZB(p:aa):Prop:= ∃m n:Int,p=iP m n/\m.natAbs<=8/\n.natAbs<=8
def QD(k:Nat)(q:aa):Prop:= ∃(D:Nat) (X Y:Int),0<D/\D<=2^k/\X.natAbs<=2^k/\Y.natAbs<=2^k/\q.x*((D:Int):Rat)=(X:Rat)/\q.y*((D:Int):Rat)=(Y:Rat)
def Ky(x y z:Int):ew (x:Rat) (y:Rat) (z:Rat)=pk x y z:=by
 unfold ew;simp only[lL,lM];simp
def jn{a:Int}{A B:Nat}(ha:a.natAbs<=A)(hb:b.natAbs<=B):(a*b).natAbs<=A*B:=by
 rw[fL];exact iS ha hb
def Je{a c:Int}{k:Nat}(ha:a.natAbs<2^k)(hb:b.natAbs<2^k)(hc:c.natAbs<2^k)(hd:d.natAbs<2^k):(a*b-c*d).natAbs<=2^(2*k+1):=by
 have h1:=jn (gU ha) (gU hb);have h2:=jn (gU hc) (gU hd);have e:2^(2*k+1)=2^k*2^k+2^k*2^k:=by rw[iZ,Nat.two_mul,fU];omega
 generalize a*b=u at*;generalize c*d=v at*;generalize 2^k*2^k=w at*;omega
def UJ{k:Nat}{q:aa}(h0:D≠0)(hD:D.natAbs<=2^k)(hX:X.natAbs<=2^k)(hY:Y.natAbs<=2^k)(e1:q.x*(D:Rat)=(X:Rat))(e2:q.y*(D:Rat)=(Y:Rat)):QD k q:=by
 rcases Int.lt_or_lt_of_ne h0 with h|h
 .refine⟨D.natAbs, -X, -Y,m5,hD,m5,m5,?_,?_⟩
  .rw[show((D.natAbs:Int))= -D by omega,jV,jV];grind
  .rw[show((D.natAbs:Int))= -D by omega,jV,jV];grind
 .refine⟨D.natAbs,X,Y,m5,hD,hX,hY,?_,?_⟩
  .rw[show((D.natAbs:Int))=D by omega];exact e1
  .rw[show((D.natAbs:Int))=D by omega];exact e2
def MP{l m:ah}{k:Nat}(hl:BL l k)(hm:BL m k)(h:crossI l m≠0):QD (2*k+1) (dC l m):=by
 have h':((crossI l m:Int):Rat)≠0:=fun e=>h (cS.1 e);refine UJ (D:=crossI l m) (X:=meetX l m) (Y:=meetY l m) h (Je hl.a hm.b hm.a hl.b) ?_ ?_ ?_ ?_
 .unfold meetX;exact Je hl.b hm.c hm.b hl.c
 .unfold meetY;exact Je hm.a hl.c hl.a hm.c
 .unfold dC;rw[if_neg h];exact sQ h'
 .unfold dC;rw[if_neg h];exact sQ h'
def QG{l:ah}{k:Nat}(hl:BL l k)(h:l.ok):QD (2*k+1) l.base:=by
 have hn:=mG h.ne;have e:l.nor.dot l.nor=((l.a*l.a+l.b*l.b:Int):Rat):=by
  unfold ah.nor aa.dot;rw[lS,cV,cV]
 have hz:l.nor.dot l.nor≠0:=by grind
 have h0:l.a*l.a+l.b*l.b≠0:=fun k=>hz (by rw[e,k];rfl);have e4:(2:Nat)^(2*k+1)=2^k*2^k+2^k*2^k:=by rw[iZ,Nat.two_mul,fU];omega
 have q1:=jn (gU hl.a) (gU hl.a);have q2:=jn (gU hl.b) (gU hl.b);have q3:=jn (gU hl.a) (gU hl.c);have q4:=jn (gU hl.b) (gU hl.c);refine UJ (D:=l.a*l.a+l.b*l.b) (X:= -(l.a*l.c)) (Y:= -(l.b*l.c)) h0 m5 m5 m5 ?_ ?_
 .rw[<-e]
  show(l.a:Rat)*(-(l.c:Rat)/l.nor.dot l.nor)*l.nor.dot l.nor=_;rw[Rat.mul_assoc,sQ hz,jV,cV];grind
 .rw[<-e]
  show(l.b:Rat)*(-(l.c:Rat)/l.nor.dot l.nor)*l.nor.dot l.nor=_;rw[Rat.mul_assoc,sQ hz,jV,cV];grind
def Um{L:List ah}{q:aa}(h:q∈kE L): ∃l∈L,∃m∈L,crossI l m≠0/\q=dC l m:=by
 obtain⟨i,hi,h⟩:=gJ.1 h;rw[jU] at hi;obtain⟨l,hl⟩: ∃l,L[i]? =some l:=⟨_,aZ hi⟩;obtain⟨m,hm⟩: ∃m,L[(i+1)%L.length]? =some m:=⟨_,aZ (dJ _ m5)⟩;rw[xT hl hm] at h;split at h
 .rename_i hc
  refine⟨l,aW hl,m,aW hm,fun e=>?_,by simpa using h⟩;have h2:l.dir.cross m.dir=0:=by
   have:=w6 l m;rw[e] at this;unfold aa.cross ah.dir;dsimp only;have z:((0:Int):Rat)=0:=J;rw[z] at this;grind
  rw[h2] at hc;exact absurd hc pb
 .cases h
def aG0{k:Nat}(hc:bG c)(ha:iq c)(hk: ∀s∈c,BL s.l k){f:aa×aa}(hn: ¬((bu f).x=0/\(bu f).y=0))(h1:ZB f.1)(h2:ZB f.2){l:ah}(h:ni c f=some l):BL l (2*k+10):=by
 unfold ni at h
 cases hf:iI c (bu f) with
 |none=>rw[hf] at h;cases h
 |some m=>
  rw[hf] at h
  cases h
  obtain⟨e1,e2⟩:=Pw hc ha hn hf;obtain⟨q,hq,e3⟩:=(tC (n:=bu f) e2).2;rw[e1] at e3;have hqd:QD (2*k+1) q:=by
   unfold zH at hq;split at hq
   .obtain⟨l,hl,rfl⟩:=aT.1 hq
    obtain⟨s,hs,rfl⟩:=aT.1 hl;exact QG (hk s hs) (hc.ok s hs)
   .obtain⟨l,hl,m,hm,hx,rfl⟩:=Um hq
    obtain⟨s,hs,rfl⟩:=aT.1 hl;obtain⟨u,hu,rfl⟩:=aT.1 hm;exact MP (hk s hs) (hk u hu) hx
  obtain⟨D,X,Y,hD0,hD,hX,hY,x1,y1⟩:=hqd;obtain⟨m1,n1,p1,a1,a2⟩:=h1;obtain⟨m2,n2,p2,a3,a4⟩:=h2;have nx:(bu f).x=((n1-n2:Int):Rat):=by unfold bu;rw[p1,p2];unfold iP;rw[gV];grind
  have ny:(bu f).y=((m2-m1:Int):Rat):=by unfold bu;rw[p1,p2];unfold iP;rw[gV]
  generalize hA:n1-n2=A at nx;generalize hB:m2-m1=B at ny;have hD0':(0:Rat)<((D:Int):Rat):=by exact_mod_cast hD0
  have key:ew (bu f).x (bu f).y (-(m+(bu f).dot f.1))=pk (A*D) (B*D) (-(A*X+B*Y+(A*m1+B*n1)*D)):=by
   rw[<-Ky];refine(azZ (fun uv=>?_) hn hD0' fun p=>?_).symm
   .obtain⟨u,v⟩:=uv
    rw[cV,<-nx] at u;rw[cV,<-ny] at v;refine hn ⟨?_,?_⟩
    .rcases fX.1 u with u|u
     .exact u
     .grind
    .rcases fX.1 v with v|v
     .exact v
     .grind
   .rw[e3,p1]
    unfold aa.dot iP;dsimp only;rw[nx,ny];simp only[cV,jV,lS];rw[<-x1,<-y1];grind
  show BL (ew (bu f).x (bu f).y (-(m+(bu f).dot f.1))) _;rw[key];have hA16:A.natAbs<=16:=by omega
  have hB16:B.natAbs<=16:=by omega
  have b0:(D:Int).natAbs<=2^(2*k+1):=hD;have b1:=jn hA16 b0;have b2:=jn hB16 b0;have b3:=jn hA16 hX;have b4:=jn hB16 hY;have b5:(A*m1+B*n1).natAbs<=256:=by
   have:=jn hA16 a1;have:=jn hB16 a2;omega
  have b6:=jn b5 b0;obtain⟨r1,r2,r3⟩:=BW (A*D) (B*D) (-(A*X+B*Y+(A*m1+B*n1)*D));have e9:2^(2*k+10)=2^(2*k+1)*512:=by rw[show 2*k+10=2*k+1+9 by omega,fU]
  have w0:0<2^(2*k+1):=gW pb;generalize 2^(2*k+1)=w at*;exact⟨m5,m5,m5⟩
def aGc{k:Nat}{l:ah}(hl:l.ok)(hk:BL l k)(hV:V≠[])(hz: ∀v∈V,ZB v):BL (k8 l V) (2*k+10):=by
 obtain⟨v,hv,e⟩:=(tC (n:=l.nor) hV).2;obtain⟨m,n,rfl,h1,h2⟩:=hz v hv;unfold k8;have e2:(l.c:Rat)-ku l.nor V=((l.c-(l.a*m+l.b*n):Int):Rat):=by
  rw[e];unfold aa.dot ah.nor iP;rw[gV,lS,cV,cV]
 rw[e2,Ky];obtain⟨r1,r2,r3⟩:=BW l.a l.b (l.c-(l.a*m+l.b*n));have b1:=jn (gU hk.a) h1;have b2:=jn (gU hk.b) h2;have ka:=hk.a;have kb:=hk.b;have kc:=hk.c;have e9:2^(2*k+10)=2^k*(2^k*1024):=by rw[show 2*k+10=k+(k+10) by omega,fU,fU]
 have w1:1<=2^k:=gW pb;have e10:2^k*1024<=2^k*(2^k*1024):=by rw[<-cM];exact bS _ (nK _ w1)
 generalize 2^k*(2^k*1024)=z at*;generalize 2^k=w at*;exact⟨m5,m5,m5⟩
def BL.mono{l:ah}{k:Nat}(h:BL l j)(hk:j<=k):BL l k:=by
 have:=bT (n:=2) pb hk;exact⟨cN h.a this,cN h.b this,cN h.c this⟩
def BL.rev{l:ah}{k:Nat}(h:BL l k):BL l.rev k:=⟨by unfold ah.rev;dsimp only;rw[jX];exact h.a,by unfold ah.rev;dsimp only;rw[jX];exact h.b,by unfold ah.rev;dsimp only;rw[jX];exact h.c⟩
def HH{k:Nat}{E:List (aa×aa)}(hB:iz V E)(hz: ∀v∈V,ZB v)(hc:bG c)(ha:iq c)(hk: ∀s∈c,BL s.l k): ∀l∈kB c V E,BL l (2*k+10):=fun l hl=>by
 rcases aL.1 hl with h|h
 .obtain⟨s,hs,rfl⟩:=aT.1 h
  exact aGc (hc.ok s hs) (hk s hs) hB.vne hz
 .obtain⟨f,hf,h⟩:=kY.1 h
  exact aG0 hc ha hk (hB.nz hf) (hz _ (hB.ends f hf).1) (hz _ (hB.ends f hf).2) h
def aEZ{k:Nat}{E:List (aa×aa)}(hB:iz V E)(hz: ∀v∈V,ZB v)(ht:t.all ah.ok)(hk:t.all fun l=>BL l k):(jI V E t).all fun l=>BL l (2*k+10):=by
 unfold jI;have hb: ∀c∈f7 (t.restrict []),(gj V E c).all fun l=>BL l (2*k+10):=fun c hc=>by
  obtain⟨g1,g2⟩:=vY ht c hc;exact IZ (HH hB hz g1 g2 (yw (P:=fun l=>BL l k) (fun l h=>h.rev) (t.restrict_all _ [] hk) (fun s hs=>by cases hs) (tF.1 hc)))
 have key: ∀(cs:List ar) (u:Tr),(∀c∈cs,(gj V E c).all fun l=>BL l (2*k+10))->(u.all fun l=>BL l (2*k+10))->(vG V E cs u).all fun l=>BL l (2*k+10):=fun cs=>by
  induction cs with
  |nil=>intro u _ hu;exact hu
  |cons c cs ih=>
   intro u h hu;exact ih _ (fun d hd=>h d (aJ _ hd)) (Tr.mergeQ_all _ 1 (h c aQ) u [] hu)
 exact key _ _ hb trivial
section
end
def nP(x y:Rat):(0<=x->0<=y->0<=x*y)/\(0<=x->y<=0->x*y<=0)/\(x<=0->0<=y->x*y<=0)/\(x<=0->y<=0->0<=x*y)/\(0<x->0<y->0<x*y)/\(0<x->y<0->x*y<0)/\(x<0->0<y->x*y<0)/\(x<0->y<0->0<x*y):=by
 refine⟨cC,fun h k=>?_,fun h k=>?_,fun h k=>?_,bE,fun h k=>?_,fun h k=>?_,fun h k=>?_⟩
 .have:=cC h (show 0<= -y by grind);grind
 .have:=cC (show 0<= -x by grind) k;grind
 .have:=cC (show 0<= -x by grind) (show 0<= -y by grind);grind
 .have:=bE h (show 0< -y by grind);grind
 .have:=bE (show 0< -x by grind) k;grind
 .have:=bE (show 0< -x by grind) (show 0< -y by grind);grind
def wS(x y O:Rat):Int:=(if x<=0/\ ¬y<=0/\0<O then 1 else 0)-(if¬x<=0/\y<=0/\O<0 then 1 else 0)
def KM(v w p:aa):ld v w p=wS (v.y-p.y) (w.y-p.y) (aB v w p):=by
 unfold ld wS;have e1:v.y<=p.y↔v.y-p.y<=0:=by grind
 have e2:w.y<=p.y↔w.y-p.y<=0:=by grind
 simp only[e1,e2]
def Ej{x y:Rat}(hx:x<=0)(hy:y<=0):wS x y O=0:=by unfold wS;rw[if_neg (fun q=>q.2.1 hy),if_neg (fun q=>q.1 hx)];rfl
def Fe{x y:Rat}(hx:0<x)(hy:0<y):wS x y O=0:=by unfold wS;rw[if_neg (fun q=>by grind),if_neg (fun q=>by grind)];rfl
def LJ{x y:Rat}(hx:x<=0)(hy:0<y):wS x y O=if 0<O then 1 else 0:=by
 unfold wS;rw[if_neg (c:= ¬x<=0/\_) (fun q=>q.1 hx)];by_cases h:0<O
 .rw[if_pos ⟨hx,va,h⟩,if_pos h];rfl
 .rw[if_neg (fun q=>h q.2.2),if_neg h];rfl
def S8{x y:Rat}(hx:0<x)(hy:y<=0):wS x y O=if O<0 then-1 else 0:=by
 unfold wS;rw[if_neg (c:=x<=0/\_) (fun q=>by grind)];by_cases h:O<0
 .rw[if_pos ⟨va,hy,h⟩,if_pos h];rfl
 .rw[if_neg (fun q=>h q.2.2),if_neg h];rfl
def HG{C α:Rat}(h:A*α+B*β+C*γ=0)(hs:0<A+B+C)(ha:α<=0)(hb:0<β)(hc:γ<=0):(0<A->0<B->0<C->wS α β C+wS β γ A+wS γ α B=1)/\(A<0\/B<0\/C<0->wS α β C+wS β γ A+wS γ α B=0):=by
 rw[LJ ha hb,S8 hb hc,Ej hc ha];obtain⟨a1,a2,a3,a4,a5,a6,a7,a8⟩:=nP A α;obtain⟨b1,b2,b3,b4,b5,b6,b7,b8⟩:=nP B β;obtain⟨c1,c2,c3,c4,c5,c6,c7,c8⟩:=nP C γ;generalize A*α=x at*;generalize B*β=y at*;generalize C*γ=z at*;constructor
 .intro h1 h2 h3
  rw[if_pos h3,if_neg va];rfl
 .intro hn
  by_cases h3:0<C
  .by_cases h1:A<0
   .rw[if_pos h3,if_pos h1];rfl
   .exfalso
    have hB:B<0:=by grind
    have:=a2 va ha;have:=c2 va hc;have:=b7 hB hb;grind
  .by_cases h1:A<0
   .exfalso
    have:=a4 va ha;have:=c4 va hc;have hB:0<B:=by grind
    have:=b5 hB hb;grind
   .rw[if_neg h3,if_neg h1];rfl
def Hu{C α:Rat}(h:A*α+B*β+C*γ=0)(hs:0<A+B+C)(ha:α<=0)(hb:0<β)(hc:0<γ):(0<A->0<B->0<C->wS α β C+wS β γ A+wS γ α B=1)/\(A<0\/B<0\/C<0->wS α β C+wS β γ A+wS γ α B=0):=by
 rw[LJ ha hb,Fe hb hc,S8 hc ha];obtain⟨a1,a2,a3,a4,a5,a6,a7,a8⟩:=nP A α;obtain⟨b1,b2,b3,b4,b5,b6,b7,b8⟩:=nP B β;obtain⟨c1,c2,c3,c4,c5,c6,c7,c8⟩:=nP C γ;generalize A*α=x at*;generalize B*β=y at*;generalize C*γ=z at*;constructor
 .intro h1 h2 h3
  rw[if_pos h3,if_neg va];rfl
 .intro hn
  by_cases h3:0<C
  .by_cases h1:B<0
   .rw[if_pos h3,if_pos h1];rfl
   .exfalso
    have hA:A<0:=by grind
    have:=a4 va ha;have:=c5 h3 hc;have:=b1 va (cR hb);grind
  .by_cases h1:B<0
   .exfalso
    have hA:0<A:=by grind
    have:=a2 va ha;have:=c3 va (cR hc);have:=b7 h1 hb;grind
   .rw[if_neg h3,if_neg h1];rfl
def Ym{C α:Rat}(h:A*α+B*β+C*γ=0)(hs:0<A+B+C)(hz: ¬(α=0/\β=0/\γ=0)):(0<A->0<B->0<C->wS α β C+wS β γ A+wS γ α B=1)/\(A<0\/B<0\/C<0->wS α β C+wS β γ A+wS γ α B=0):=by
 have r1:B*β+C*γ+A*α=0:=by grind
 have r2:C*γ+A*α+B*β=0:=by grind
 by_cases ha:α<=0
 .by_cases hb:β<=0
  .by_cases hc:γ<=0
   .rw[Ej ha hb,Ej hb hc,Ej hc ha]
    refine⟨fun h1 h2 h3=>?_,fun _=>J⟩;exfalso;have:=(nP A α).2.2.2.2.2.1 h1;have:=(nP B β).2.2.2.2.2.1 h2;have:=(nP C γ).2.2.2.2.2.1 h3;have:=(nP A α).2.1 (cR h1) ha;have:=(nP B β).2.1 (cR h2) hb;have:=(nP C γ).2.1 (cR h3) hc;grind
   .obtain⟨q1,q2⟩:=HG r1 va hb va ha
    exact⟨fun h1 h2 h3=>by have:=q1 h2 h3 h1;omega,fun k=>by have:=q2 va;omega⟩
  .by_cases hc:γ<=0
   .exact HG h hs ha va hc
   .exact Hu h hs ha va va
 .by_cases hb:β<=0
  .by_cases hc:γ<=0
   .obtain⟨q1,q2⟩:=HG r2 va hc va hb
    exact⟨fun h1 h2 h3=>by have:=q1 h3 h1 h2;omega,fun k=>by have:=q2 va;omega⟩
   .obtain⟨q1,q2⟩:=Hu r1 va hb va va
    exact⟨fun h1 h2 h3=>by have:=q1 h2 h3 h1;omega,fun k=>by have:=q2 va;omega⟩
  .by_cases hc:γ<=0
   .obtain⟨q1,q2⟩:=Hu r2 va hc va va
    exact⟨fun h1 h2 h3=>by have:=q1 h3 h1 h2;omega,fun k=>by have:=q2 va;omega⟩
   .rw[Fe va va,Fe va va,Fe va va]
    refine⟨fun h1 h2 h3=>?_,fun _=>J⟩;exfalso;have:=(nP A α).2.2.2.2.1 h1 va;have:=(nP B β).2.2.2.2.1 h2 va;have:=(nP C γ).2.2.2.2.1 h3 va;grind
def YB(a b c p:aa):aB b c p+aB c a p+aB a b p=aB a b c/\aB b c p*(a.y-p.y)+aB c a p*(b.y-p.y)+aB a b p*(c.y-p.y)=0/\aB b c p*(a.x-p.x)+aB c a p*(b.x-p.x)+aB a b p*(c.x-p.x)=0:=by
 unfold aB;refine⟨?_,?_,?_⟩<;>grind
def TN{P:α->Prop}{x y z:α}:(∀f∈[x,y,z],P f)↔P x/\P y/\P z:=by simp
def OL{P:α->Prop}{x y z:α}:(∃f∈[x,y,z],P f)↔P x\/P y\/P z:=by simp
def U4{P:α->Prop}{x y z u:α}:(∀f∈[x,y,z,u],P f)↔P x/\P y/\P z/\P u:=by simp
def RX{P:α->Prop}{x y z u:α}:(∃f∈[x,y,z,u],P f)↔P x\/P y\/P z\/P u:=by simp
def Pr(p u v:ZP):aB p.q (kP p u).q (kP p v).q=((kv u v:Int):Rat):=by
 unfold aB kP kv ZP.q iP;dsimp only;push_cast;grind
def xj(p:Nat->Bool):Nat->Nat->Nat->Nat
 |0,i,_=>i
 |d+1,i,j=>if i<j then(if p ((i+j)/2) then xj p d ((i+j)/2+1) j else xj p d i ((i+j)/2)) else i
def KL(p:Nat->Bool): ∀(d i j:Nat),j-i<=d->gG p i j=xj p d i j
 |0,i,j,h=>by
  rw[gG,xj,dif_neg m5]
 |d+1,i,j,h=>by
  rw[gG,xj];by_cases k:i<j
  .rw[dif_pos k,if_pos k]
   split
   .exact KL p d _ _ m5
   .exact KL p d _ _ m5
  .rw[dif_neg k,if_neg k]
def Hd(c:ar)(l:ah)(v:ao):ar:=c.take (xj (jC c l) c.length 0 c.length)++⟨l,v⟩::c.drop (xj (jC c l) c.length 0 c.length)
def yM(c:ar)(l:ah):ar:=match lc c l with
 |some v=>Hd (fk l c) l v
 |none=>c
def Dh(c:ar)(l:ah):bH c l=yM c l:=by
 unfold bH yM
 cases h:lc c l with
 |none=>rfl
 |some v=>
  show me (fk l c) l v=Hd (fk l c) l v;unfold me Hd;rw[KL _ (fk l c).length _ _ m5]
def Tr.restrictF:Tr->ar->Tr
 | .leaf b,_=> .leaf b
 | .node l x y,c=>if !cH c l.rev then x.restrictF c else if !cH c l then y.restrictF c else joinQ l (x.restrictF (yM c l)) (y.restrictF (yM c l.rev))
def Tr.restrict_F: ∀(t:Tr) (c:ar),t.restrict c=t.restrictF c
 | .leaf _,_=>rfl
 | .node l x y,c=>by
  rw[Tr.restrict,Tr.restrictF,x.restrict_F c,y.restrict_F c,Dh,Dh,x.restrict_F,y.restrict_F]
def uM(v:List aa)(k i:Nat):Bool:=decide (i=k)||(decide (i=(k+1)%v.length)||decide (0<aB (v.getD k ⟨0,0⟩) (v.getD ((k+1)%v.length) ⟨0,0⟩) (v.getD i ⟨0,0⟩)))
def mP(v:List aa):Bool:=(List.range v.length).all fun k=>(List.range v.length).all fun i=>uM v k i
def TS:mP v=true↔ ∀k<v.length,∀i<v.length,uM v k i=true:=by
 unfold mP;simp only[dW,jU]
def YV{k:Nat}(hk:k<v.length)(hi:i<v.length)(h:uM v k i=false):mP v=false:=by
 rw[<-kJ,TS];exact fun f=>by rw[f k hk i hi] at h;cases h
def aMR{k:Nat}(h1:v[k]? =some q1)(h2:v[(k+1)%v.length]? =some q2)(h3:v[i]? =some w):uM v k i=(decide (i=k)||(decide (i=(k+1)%v.length)||decide (0<aB q1 q2 w))):=by
 unfold uM;rw[aK,aK,aK,h1,h2,h3];rfl
structure si (V:List aa):Prop where
 br:iz V (co V)
 zb: ∀v∈V,ZB v
 le:V.length<=4
def Ga(a b c:aa):co [a,b,c]=[(a,b),(b,c),(c,a)]:=by unfold co;simp[qZ]
def Gs(a b c d:aa):co [a,b,c,d]=[(a,b),(b,c),(c,d),(d,a)]:=by unfold co;simp[qZ]
def S'(a b c:aa):aB b c a=aB a b c:=by unfold aB;grind
def WT{a b c:aa}(h:0<aB a b c):mP [a,b,c]=true:=by
 have h1:=S' a b c;have h2:=S' b c a;simp[mP,uM,qZ,h1,h2,h]
def aN6{a b c d:Rat}(h1:a<c)(h2:b<d):mP [⟨a,b⟩,⟨c,b⟩,⟨c,d⟩,⟨a,d⟩]=true:=by
 have k:=Rat.mul_pos (show(0:Rat)<c-a by grind) (show(0:Rat)<d-b by grind);have o1:0<aB ⟨a,b⟩ ⟨c,b⟩ ⟨c,d⟩:=by unfold aB;dsimp only;grind
 have o2:0<aB ⟨a,b⟩ ⟨c,b⟩ ⟨a,d⟩:=by unfold aB;dsimp only;grind
 have o3:0<aB ⟨c,b⟩ ⟨c,d⟩ ⟨a,b⟩:=by unfold aB;dsimp only;grind
 have o4:0<aB ⟨c,b⟩ ⟨c,d⟩ ⟨a,d⟩:=by unfold aB;dsimp only;grind
 have o5:0<aB ⟨c,d⟩ ⟨a,d⟩ ⟨a,b⟩:=by unfold aB;dsimp only;grind
 have o6:0<aB ⟨c,d⟩ ⟨a,d⟩ ⟨c,b⟩:=by unfold aB;dsimp only;grind
 have o7:0<aB ⟨a,d⟩ ⟨a,b⟩ ⟨c,b⟩:=by unfold aB;dsimp only;grind
 have o8:0<aB ⟨a,d⟩ ⟨a,b⟩ ⟨c,d⟩:=by unfold aB;dsimp only;grind
 simp[mP,uM,qZ,o1,o2,o3,o4,o5,o6,o7,o8]
def IG{p:ZP}(h:p.1.natAbs<=8/\p.2.natAbs<=8):ZB p.q:=⟨p.1,p.2,J,h⟩
def OC{a b c:ZP}(h:0<aB a.q b.q c.q)(ha:a.1.natAbs<=8/\a.2.natAbs<=8)(hb:b.1.natAbs<=8/\b.2.natAbs<=8)(hc:c.1.natAbs<=8/\c.2.natAbs<=8):si ([a,b,c].map ZP.q)/\mP ([a,b,c].map ZP.q)=true:=by
 refine⟨⟨?_,fun v hv=>?_,vb⟩,WT h⟩
 .show iz [a.q,b.q,c.q] (co [a.q,b.q,c.q])
  rw[Ga];exact Xn h
 .simp only[bY,iQ,aV,fJ,or_false] at hv
  rcases hv with rfl|rfl|rfl
  .exact IG ha
  .exact IG hb
  .exact IG hc
def Pe{a c:Int}(h1:a<c:=by decide)(h2:b<d:=by decide)(ha:a.natAbs<=8:=by decide)(hb:b.natAbs<=8:=by decide)(hc:c.natAbs<=8:=by decide)(hd:d.natAbs<=8:=by decide):si ((fD a b c d).map ZP.q)/\mP ((fD a b c d).map ZP.q)=true:=by
 have e:(fD a b c d).map ZP.q=[⟨(a:Rat),(b:Rat)⟩,⟨(c:Rat),(b:Rat)⟩,⟨(c:Rat),(d:Rat)⟩,⟨(a:Rat),(d:Rat)⟩]:=J;have q1:(a:Rat)<(c:Rat):=by exact_mod_cast h1
 have q2:(b:Rat)<(d:Rat):=by exact_mod_cast h2
 rw[e];refine⟨⟨?_,fun v hv=>?_,vb⟩,aN6 q1 q2⟩
 .rw[Gs];exact aMf q1 q2
 .simp only[aV,fJ,or_false] at hv
  rcases hv with rfl|rfl|rfl|rfl
  .exact⟨a,b,J,ha,hb⟩
  .exact⟨c,b,J,hc,hb⟩
  .exact⟨c,d,J,hc,hd⟩
  .exact⟨a,d,J,ha,hd⟩
def Jt(ha:a<=es.length):si ((dE es a).1.map ZP.q)/\mP ((dE es a).1.map ZP.q)=true:=by
 have h0:=jf (n:=2) ha;unfold dE;dsimp only;split
 .unfold xz
  dsimp only;generalize (au es 2 a).2=k at*;have e1:=fp (es:=es) (n:=3) (a:=k);generalize au es 3 k=x at*;have e2:=fp (es:=es) (n:=3) (a:=x.2);generalize au es 3 x.2=y at*;have e3:=fp (es:=es) (n:=2) (a:=y.2);generalize au es 2 y.2=z at*;have e4:=fp (es:=es) (n:=2) (a:=z.2);generalize au es 2 z.2=w at*;exact Pe m5 m5 m5 m5 m5 m5
 .generalize (au es 2 a).2=k at*
  have e1:=fp (es:=es) (n:=3) (a:=k);generalize au es 3 k=x at*;have e2:=fp (es:=es) (n:=3) (a:=x.2);generalize au es 3 x.2=y at*;have e3:=fp (es:=es) (n:=2) (a:=y.2);generalize au es 2 y.2=u1 at*;have e4:=fp (es:=es) (n:=3) (a:=u1.2);generalize au es 3 u1.2=u2 at*;have e5:=fp (es:=es) (n:=3) (a:=u2.2);generalize au es 3 u2.2=v1 at*;have e6:=fp (es:=es) (n:=2) (a:=v1.2);generalize au es 2 v1.2=v2 at*;split
  .rename_i hcr
   have:=Pr ((x.1:Int)-1,(y.1:Int)-1) (1+(u1.1:Int),(u2.1:Int)-1) ((v1.1:Int)-1,1+(v2.1:Int));exact OC (by rw[this];exact_mod_cast hcr) ⟨by dsimp only;omega,by dsimp only;omega⟩ ⟨by unfold kP;dsimp only;omega,by unfold kP;dsimp only;omega⟩ ⟨by unfold kP;dsimp only;omega,by unfold kP;dsimp only;omega⟩
  .exact OC (by decide+kernel) ⟨pb,pb⟩ ⟨pb,pb⟩ ⟨pb,pb⟩
def aEP{v w:ZP}(h1:v.1.natAbs<=8)(h2:v.2.natAbs<=8)(h3:(w.1-v.1).natAbs<=8)(h4:(w.2-v.2).natAbs<=7):BL (uu v.1 v.2 w.1 w.2) 8:=by
 obtain⟨r1,r2,r3⟩:=BW (pC v.2 w.2) (qe v.1 w.1) (xq v.1 v.2 w.1 w.2);have b1:(pC v.2 w.2*v.1).natAbs<=7*8:=jn (by unfold pC;omega) h1;have b2:(qe v.1 w.1*v.2).natAbs<=8*8:=jn (by unfold qe;omega) h2;have b3:(pC v.2 w.2).natAbs<=7:=by unfold pC;omega
 have b4:(qe v.1 w.1).natAbs<=8:=by unfold qe;omega
 have b5:(xq v.1 v.2 w.1 w.2).natAbs<=120:=by
  show(-(pC v.2 w.2*v.1+qe v.1 w.1*v.2)).natAbs<=120;omega
 exact⟨fQ r1 m5,fQ r2 m5,fQ r3 m5⟩
def aBZ(hr:iG r)(h: ∀p∈r,p.1.natAbs<=3/\p.2.natAbs<=3)(fill:Int):(iA [r] fill).all fun l=>BL l 8:=by
 unfold iA vw;refine Tr.restrict_all _ _ [] (wP fun f hf=>?_);unfold uh at hf;rw[kK,List.flatMap_nil,fT] at hf;have key: ∀n,n<=r.length-> ∀f∈vk r n,BL f.l 8:=fun n=>by
  induction n with
  |zero=>intro _ f hf;cases hf
  |succ n ih=>
   intro hn f hf;rw[vk] at hf;rcases aL.1 hf with hf|hf
   .exact ih m5 f hf
   .rw[aY.1 hf]
    have a1:=h _ (zN (r:=r) (i:=n));have a2:=h _ (Fi (r:=r) (i:=n));exact aEP m5 m5 m5 m5
 exact key _ (bW _) f hf
structure yu (t:Tr):Prop where
 x:kw 18 t
 rd:t.Red []
 bl:t.all fun l=>BL l 8
 dp:t.depth<=6
 k: ∃K:List ah,K.length*2+4*(t.size+1)<=52/\K.length<=6/\(∀l∈K,l.ok)/\jj K t
def UH(hr:iG r)(h: ∀p∈r,p.1.natAbs<=3/\p.2.natAbs<=3)(hn:r.length*2+4*((iA [r] 2).size+1)<=52):yu (iA [r] 2):=by
 have ho:=JV (rs:=[r]) (fill:=2) (fun q hq=>by rw[aY.1 hq];exact hr) vb;obtain⟨e1,e2⟩:=JI hr;have hR:vw [r] 2=jg (vT [r] 2) r.length (Ag r) []:=by
  unfold vw uh;rw[kK,List.flatMap_nil,fT,e1]
 have hro:m7 r.length (iA [r] 2):=by
  unfold iA;rw[hR];exact(AC (acc:=vT [r] 2) e2 e1).restrict []
 have h6:=hr.n6;obtain⟨K,k1,k2,k3⟩:=hro.am;exact⟨ho.x (En _ _) pb,En _ _,aBZ hr h 2,dZ hro.dp h6,K,m5,m5,k2,k3⟩
def SI(hr:iG r)(hn:r.length<=4):(iA [r] 2).size<=10:=by
 obtain⟨e1,e2⟩:=JI hr;have hR:vw [r] 2=jg (vT [r] 2) r.length (Ag r) []:=by
  unfold vw uh;rw[kK,List.flatMap_nil,fT,e1]
 have hro:m7 r.length (iA [r] 2):=by
  unfold iA;rw[hR];exact(AC (acc:=vT [r] 2) e2 e1).restrict []
 obtain⟨K,k1,k2,k3⟩:=hro.am;have:=QS k2 (Tr.red_prp (En [r] 2)) hro.gd.ok bG.nil k3;have h4:K.length*(K.length+1)<=4*5:=iS m5 m5;omega
def N1(ha:a<=es.length):(∀p∈(dE es a).1,p.1.natAbs<=3/\p.2.natAbs<=3)/\(dE es a).1.length<=4:=by
 have h0:=jf (n:=2) ha;unfold dE;dsimp only;split
 .unfold xz
  dsimp only;generalize (au es 2 a).2=k at*;have e1:=fp (es:=es) (n:=3) (a:=k);generalize au es 3 k=x at*;have e2:=fp (es:=es) (n:=3) (a:=x.2);generalize au es 3 x.2=y at*;have e3:=fp (es:=es) (n:=2) (a:=y.2);generalize au es 2 y.2=z at*;have e4:=fp (es:=es) (n:=2) (a:=z.2);generalize au es 2 z.2=w at*;refine⟨fun p hp=>?_,by simp[fD]⟩;simp only[fD,aV,fJ,or_false] at hp;rcases hp with rfl|rfl|rfl|rfl<;>exact⟨by dsimp only;omega,by dsimp only;omega⟩
 .generalize (au es 2 a).2=k at*
  have e1:=fp (es:=es) (n:=3) (a:=k);generalize au es 3 k=x at*;have e2:=fp (es:=es) (n:=3) (a:=x.2);generalize au es 3 x.2=y at*;have e3:=fp (es:=es) (n:=2) (a:=y.2);generalize au es 2 y.2=u1 at*;have e4:=fp (es:=es) (n:=3) (a:=u1.2);generalize au es 3 u1.2=u2 at*;have e5:=fp (es:=es) (n:=3) (a:=u2.2);generalize au es 3 u2.2=v1 at*;have e6:=fp (es:=es) (n:=2) (a:=v1.2);generalize au es 2 v1.2=v2 at*;split
  .refine⟨fun p hp=>?_,by simp[im]⟩
   simp only[im,kP,aV,fJ,or_false] at hp;rcases hp with rfl|rfl|rfl<;>exact⟨by dsimp only;omega,by dsimp only;omega⟩
  .refine⟨fun p hp=>?_,Nat.le_of_ble_eq_true J⟩
   simp only[Ax,aV,fJ,or_false] at hp;rcases hp with rfl|rfl|rfl<;>exact⟨pb,pb⟩
def Zk(ha:a<=es.length):yu (iA [(dE es a).1] 2):=by
 obtain⟨h1,h2⟩:=N1 ha;have hr:=(zo ha).1;have:=SI hr h2;exact UH hr h1 m5
def Sw(hV:si V)(h:yu t):qA 1 (Tr.leaf false) ((f7 (t.restrict [])).map (gj V (co V)))=some (jI V (co V) t)/\kw 54 (jI V (co V) t)/\(jI V (co V) t).Red []/\(jI V (co V) t).all (fun l=>BL l 26):=by
 obtain⟨K,h1,h2,h3,h4⟩:=h.k;have hE:(co V).length<=4:=by unfold co;rw[aX,lT];exact hV.le
 have ho:=h.x.ok;have hcl:(f7 (t.restrict [])).length<=t.size+1:=dZ (Rv _) (Nat.succ_le_succ (t.restrict_size []));have hKl:(tO V (co V) K (f7 (t.restrict []))).length<=52:=by
  have:=Xm (V:=V) (E:=co V) (K:=K) (cs:=f7 (t.restrict []));have:(f7 (t.restrict [])).length*(co V).length<=(t.size+1)*4:=iS hcl hE;omega
 have hs: ∀c∈f7 (t.restrict []),c.length+(co V).length<=600:=fun c hc=>by
  have:=IQ (t.restrict_all LB [] h.x.lb) (t.restrict_all ah.ok [] ho) c hc;have:=t.restrict_depth [];have:=h.dp;omega
 obtain⟨a1,a2⟩:=aFI hV.br ho h3 h4 hs m5;have hb:=aEZ hV.br hV.zb ho h.bl;obtain⟨b1,b2⟩:=a2.size (KO hV.br h3);have b3:(tO V (co V) K (f7 (t.restrict []))).length*((tO V (co V) K (f7 (t.restrict []))).length+1)<=52*53:=iS hKl m5;exact⟨a1,⟨⟨⟨Tr.all_imp (fun l h=>⟨h.mono pb⟩) hb,a2.ok⟩,m5,_,m5,KO hV.br h3,a2.am⟩,m5⟩,a2.rd,hb⟩
section
variable {own:aI}{lk:LK}{bk:BM}
variable {dst:Option Nat}{t t' ty':TypeId}{pos:String}{af:Array Edge}{gd:Option (Nat×Bool)}{x y:Operand}
end
section
variable {own:aI}{ops:Array Oper}{r:List Oper}{K:List Kt}
end
section
variable (hE:EG GB ai al ae){k:Nat}{a b:Tr}(ha:kw j a)(hb:kw k b)
include hE ha
include hb
end
section
variable (hE:EG GB ai al ae)
include hE
end

def FI(l:List aa):dm 6 (l.map eZ):=fun d hd=>by
 obtain⟨x,_,rfl⟩:=aT.1 hd;exact⟨J,J⟩
instance aC.negp (p:aa) (i:Nat) [h:aC p i]:aC (bD p) i:=⟨inferInstanceAs (BQ (-p.x) i),inferInstanceAs (BQ (-p.y) i)⟩
instance aC.prip (l:ah) [LB l]:aC (fg l.dir) 500:=by
 have h:=(inferInstance:aC (l.dir.scale (rgcd l.dir.x l.dir.y)⁻¹) _);exact⟨h.x.mono pb,h.y.mono pb⟩
def aIz[h:aC p i](hi:i<=900000000:=by decide):PF GB prog 233 [eZ p] (eZ (bD p)):=by
 refine fn func233 J J ntmps233 J J (fun C=>?_);refine cl J (qi (q:=p.x) (i:=i) hi) J<|cl J (qi (q:=p.y) (i:=i) hi) J<|rz J J
def Qg[h:aC p i](hi:i<=900000000:=by decide):PF GB prog 219 [eZ p] (eZ (f9 p)):=by
 refine fn func219 J J ntmps219 J J (fun C=>?_);refine cl J (qi (q:=p.y) (i:=i) hi) J<|rz J J
def aGy[h:aC p i](hi:i<=1000000:=by decide):PF GB prog 232 [eZ p] (eZ (fg p)):=by
 refine fn func232 J J ntmps232 J J (fun C=>?_);refine cl J (vr (p:=p.x) (q:=p.y) (i:=i) (j:=i) m5 m5) J<|cl J (EW (q:=rgcd p.x p.y) (i:=i+i+(i+i)) m5) J<|cl J (J8 (p:=p) (c:=(rgcd p.x p.y)⁻¹) (i:=i) (j:=i+i+(i+i)) m5 m5) J<|rz J J
def Ec(l:ah)(x y:Tr)(p:aa):eG (.node l x y) p=(if Int.sign (l.value p).num=0 then [fg l.dir,bD (fg l.dir)] else [])++((if 0<=Int.sign (l.value p).num then eG x p else [])++(if Int.sign (l.value p).num<=0 then eG y p else [])):=by
 unfold eG;rw[mp,pV,pV];congr 1
 .split<;>simp
 .congr 1<;>split<;>simp
def EU: ∀(t:Tr) (p:aa),(eG t p).length<=2*t.size
 | .leaf _,_=>bK _
 | .node l x y,p=>by
  have h1:=EU x p;have h2:=EU y p;rw[Ec,aU,aU,Tr.size];split<;>split<;>split<;>simp only[aN,eK]<;>omega
def YX{b:Bool}:PB GB prog 154 (eh [some (eU (.leaf b)),some (eZ p),none]) 6 103 (o.map eZ) (fun w=> .v (.slice w.a w.n w.c)) ((o++eG (.leaf b) p).map eZ):=by
 refine tj func154 J J ntmps154 J J (fun C=>?_);refine cl (fu:=⟨0⟩) J pq J<|mo 10 J<|gx J<|?_;exact m6 J J J (by show _=(o++[]).map eZ;rw[fT])
def aAh{l:ah}{x y:Tr}[hp:aC p i](hl:LB l)(hi:i<=10000000)(hs:o.length+2*(Tr.node l x y).size<=1000000)(hz:Int.sign (l.value p).num=0)(ihx: ∀{o:List aa},o.length+2*x.size<=1000000->PB GB prog 154 (eh [some (eU x),some (eZ p),none]) 6 103 (o.map eZ) (fun w=> .v (.slice w.a w.n w.c)) ((o++eG x p).map eZ))(ihy: ∀{o:List aa},o.length+2*y.size<=1000000->PB GB prog 154 (eh [some (eU y),some (eZ p),none]) 6 103 (o.map eZ) (fun w=> .v (.slice w.a w.n w.c)) ((o++eG y p).map eZ)):PB GB prog 154 (eh [some (eU (.node l x y)),some (eZ p),none]) 6 103 (o.map eZ) (fun w=> .v (.slice w.a w.n w.c)) ((o++eG (.node l x y) p).map eZ):=by
 haveI:=hl;have hz2:(Tr.node l x y).size=1+x.size+y.size:=J;have hp1:=EU x p;refine tj func154 J J ntmps154 J J (fun C=>?_);refine cl (fu:=⟨0⟩) J pc J<|p6 10 J<|gx J<|cl (fu:=⟨7⟩) J (Aw (l:=l) (p:=p) (i:=i) hi) J<|d7 J (we m5) J<|cl J (wC (l:=l)) J<|cl J (aGy (p:=l.dir) (i:=97)) J<|cl J (aIz (p:=fg l.dir) (i:=500)) J<|rf J J<|Hk (fu:=⟨7⟩) ((o++[fg l.dir,bD (fg l.dir)]).map eZ) J okn (FI [fg l.dir,bD (fg l.dir)]) J<|d7 J (we m5) J<|cq (fu:=⟨7⟩) (((o++[fg l.dir,bD (fg l.dir)])++eG x p).map eZ) J (ihx (by rw[aU,aN,aN,eK];omega)) J J<|d7 J (we m5) J<|cq _ J (ihy (by rw[aU,aU,aN,aN,eK];omega)) J J<|?_;exact m6 J J J (by rw[Ec,hz];simp)
def YE{l:ah}{x y:Tr}[hp:aC p i](hl:LB l)(hi:i<=10000000)(hs:o.length+2*(Tr.node l x y).size<=1000000)(hz:Int.sign (l.value p).num=1)(ihx: ∀{o:List aa},o.length+2*x.size<=1000000->PB GB prog 154 (eh [some (eU x),some (eZ p),none]) 6 103 (o.map eZ) (fun w=> .v (.slice w.a w.n w.c)) ((o++eG x p).map eZ)):PB GB prog 154 (eh [some (eU (.node l x y)),some (eZ p),none]) 6 103 (o.map eZ) (fun w=> .v (.slice w.a w.n w.c)) ((o++eG (.node l x y) p).map eZ):=by
 haveI:=hl;have hz2:(Tr.node l x y).size=1+x.size+y.size:=J;refine tj func154 J J ntmps154 J J (fun C=>?_);refine cl (fu:=⟨0⟩) J pc J<|p6 10 J<|gx J<|cl (fu:=⟨7⟩) J (Aw (l:=l) (p:=p) (i:=i) hi) J<|c9 (fu:=⟨9⟩) J (oma m5) J<|d7 J (we m5) J<|cq (fu:=⟨7⟩) _ J (ihx m5) J J<|c9 J (oma m5) J<|?_;exact m6 J J J (by rw[Ec,hz];simp)
def aAW{l:ah}{x y:Tr}[hp:aC p i](hl:LB l)(hi:i<=10000000)(hs:o.length+2*(Tr.node l x y).size<=1000000)(hz:Int.sign (l.value p).num= -1)(ihy: ∀{o:List aa},o.length+2*y.size<=1000000->PB GB prog 154 (eh [some (eU y),some (eZ p),none]) 6 103 (o.map eZ) (fun w=> .v (.slice w.a w.n w.c)) ((o++eG y p).map eZ)):PB GB prog 154 (eh [some (eU (.node l x y)),some (eZ p),none]) 6 103 (o.map eZ) (fun w=> .v (.slice w.a w.n w.c)) ((o++eG (.node l x y) p).map eZ):=by
 haveI:=hl;have hz2:(Tr.node l x y).size=1+x.size+y.size:=J;refine tj func154 J J ntmps154 J J (fun C=>?_);refine cl (fu:=⟨0⟩) J pc J<|p6 10 J<|gx J<|cl (fu:=⟨7⟩) J (Aw (l:=l) (p:=p) (i:=i) hi) J<|c9 (fu:=⟨9⟩) J (oma m5) J<|c9 (fu:=⟨9⟩) J (oma m5) J<|d7 J (we m5) J<|cq _ J (ihy m5) J J<|?_;exact m6 J J J (by rw[Ec,hz];simp)
def BT{p:aa}{i:Nat}[hp:aC p i](hi:i<=10000000:=by decide): ∀{t:Tr} {o:List aa},t.all LB->o.length+2*t.size<=1000000->PB GB prog 154 (eh [some (eU t),some (eZ p),none]) 6 103 (o.map eZ) (fun w=> .v (.slice w.a w.n w.c)) ((o++eG t p).map eZ)
 | .leaf _,_,_,_=>YX
 | .node l x y,_,hb,hs=>by
  have hz2:(Tr.node l x y).size=1+x.size+y.size:=J;rcases lU (l.value p).num 0 with h|h|h
  .exact aAW hb.1 hi hs (dY h) fun k=>BT hi hb.2.2 k
  .exact aAh hb.1 hi hs (by rw[h];rfl) (fun k=>BT hi hb.2.1 k) fun k=>BT hi hb.2.2 k
  .exact YE hb.1 hi hs (eJ h) fun k=>BT hi hb.2.1 k
def azf{v:aa}[hp:aC p i][hv:aC v j](hb:t.all LB)(hi:i<=10000000:=by decide)(hj:j<=10000000:=by decide):PF GB prog 155 [eU t,eZ p,eZ v] (.tp [vB (gO t p v).1,vB (gO t p v).2]):=by
 refine fn func155 J J ntmps155 J J (fun C=>?_);refine lp (X:=Tr) (fun s=>[(0, .d (eU s))]) (fun s=>[]) (fun s=>gO s p v=gO t p v/\s.all LB) (fun s=>s.size) t J ⟨J,hb⟩ (fun _=>J) (fun s hk=>?_);obtain⟨h1,hb2⟩:=hk;rcases s with b|⟨l,x,y⟩
 .
  have hA:gO t p v=(b,true):=h1.symm;refine cl (fu:=⟨0⟩) J pq J<|mo 10 J<|gx J<|rz J (by rw[hA];rfl)
 .
  have hAn:=h1.symm;rw[gO,tv] at hAn;haveI:=hb2.1;refine cl (fu:=⟨0⟩) J pc J<|p6 10 J<|gx J<|cl (fu:=⟨4⟩) J (Aw (l:=l) (p:=p) (i:=i) hi) J<|mg (X:=Int) (fun s8=>[(8, .d (vI s8))]) (fun s8=>[]) (fun s8=>s8=(if(l.value p).num.sign=0 then(l.nor.dot v).num.sign else(l.value p).num.sign)) [8] [] rfl ?_ (fun _=>J) (fun s8 hs8=>?_)
  .
   refine gx J<|br J J J (fun hc19=>?_) (fun hc19=>?_)
   .
    refine cl J (vJ (l:=l)) J<|cl J (uN (p:=l.nor) (q:=v) (i:=97) (j:=j) pb m5) J<|cl J (l6 (q:=l.nor.dot v) m5) J<|at_ (l.nor.dot v).num.sign (if_pos hc19).symm
   .
    exact at_ (l.value p).num.sign (if_neg hc19).symm
  .
   rw[<-hs8] at hAn;refine br J J J (fun hc29=>?_) (fun hc29=>?_)
   .
    exact at_ x ⟨⟨by rw[hAn,hc29];rfl,hb2.2.1⟩,okp⟩
   .
    refine br J J J (fun hc35=>?_) (fun hc35=>?_)
    .
     exact at_ y ⟨⟨by rw[hAn,hc35];rfl,hb2.2.2⟩,okp⟩
    .
     exact rz J (by rw[hAn];split<;>first|rfl|contradiction)
def Ur[h:BQ q i](hi:i<=400000000:=by decide):PF GB prog 102 [eR q] (eF q):=by
 haveI:BN q.num.natAbs i:=⟨h.hn⟩;haveI:BN q.den i:=⟨h.hd⟩;refine fn func102 J J ntmps102 J J (fun C=>?_);refine cl (fu:=⟨0⟩) J (vM (n:=decide (q.num<0)) (a:=q.num.natAbs) (d:=q.den) (i:=i) (j:=i) m5 m5) J<|aj 7 (.d (eF q)) J (by rw[mF,qY])<|gx J<|rz J J
def Sz[h:aC p i](hi:i<=400000000:=by decide):PF GB prog 43 [oc p] (eZ p):=by
 refine fn func43 J J ntmps43 J J (fun C=>?_);refine cl J (Ur (q:=p.x) (i:=i) hi) J<|cl J (Ur (q:=p.y) (i:=i) hi) J<|rz J J
def WW(G:Gh)(y:Value)(h:Is G (.sl [.ag [vI (ek 1),vI (eo 1),dH 1,vI 0,vI 0, .v (.pointer none)]]) y):Is G (.sl ((lG []).map eZ)) y:=by
 obtain⟨s,x,es,rfl,h1,h2⟩:=il.1 h;obtain⟨v,m,rfl,k,h3⟩:=bj.1 h2
 cases fj.1 h3
 refine il.2 ⟨s,x,_,J,h1, .cons ?_ .nil⟩;obtain⟨m4,rfl,g4⟩:=eD.1 k;obtain⟨v1,m1,rfl,k1,g1⟩:=bj.1 g4;obtain⟨v2,m2,rfl,k2,g2⟩:=bj.1 g1;obtain⟨v3,m3,rfl,k3,g3⟩:=bj.1 g2;obtain⟨m5,q5,g5⟩:=eD.1 (Bd _ _ (eD.2 ⟨m3,rfl,g3⟩))
 cases q5
 exact eD.2 ⟨_,J, .cons k1 (.cons k2 (.cons k3 g5))⟩
def RP{k:Nat}(h1:ds[k]? =some u)(h2:ds[(k+1)%ds.length]? =some w):pf ds k=if 0<Int.sign (u.cross w).num then u.add w else f9 u:=by
 unfold pf;rw[aK,aK,h1,h2];rfl
def Ut(ds:List aa)(k:Nat):(List.range (k+1)).map (pf ds)=(List.range k).map (pf ds)++[pf ds k]:=by rw[qZ,bX];rfl
def aGb:PF GB prog 152 [.sl []] (.sl ((lG []).map eZ)):=by
 refine fn (fu:=⟨10⟩) func152 J J ntmps152 J J (fun C=>?_);refine d7 J okA J<|cl J (vN m5) J<|rf J J<|jO J WW
def aFb(h0:0<ds.length)(hb: ∀d∈ds,aC d i)(hn:ds.length<=10000000)(hi:i<=1000000:=by decide):PF GB prog 152 [.sl (ds.map eZ)] (.sl ((lG ds).map eZ)):=by
 have hml:(ds.map eZ).length=ds.length:=aX ..;refine fn (fu:=⟨10⟩) func152 J J ntmps152 J J (fun C=>?_);refine aj 8 (.d (vI (ds.length:Nat))) J omh<|gx (fu:=⟨0⟩) J<|c9 (fu:=⟨15⟩) J (oma m5) J<|aj 14 (.d (vI (ds.length:Nat))) J omh<|gx J<|nr 3 3 103 6 J J J<|lp (X:=List aa×Nat) (fun⟨acc,k⟩=>[(15, .d (vI (k:Nat))),(3, .rw 3)]) (fun⟨acc,k⟩=>[(3,some (.b 103 6 (acc.map eZ) true))]) (fun⟨acc,k⟩=>acc=(List.range k).map (pf ds)/\k<=ds.length) (fun⟨acc,k⟩=>ds.length-k) ⟨[],0⟩ J ⟨J,bK _⟩ (fun _=>J) (fun⟨acc,k⟩ hk=>?_)
 try dsimp only at hk⊢
 obtain⟨h1,h2⟩:=hk;have hal:acc.length=k:=by rw[h1,aX,lT]
 have ham:(acc.map eZ).length=acc.length:=aX ..;refine br J J J (fun hc16=>?_) (fun hc16=>?_)
 .
  obtain⟨u,hx⟩: ∃u,ds[k]? =some u:=⟨_,aZ m5⟩;obtain⟨w,hw⟩: ∃w,ds[(k+1)%ds.length]? =some w:=⟨_,aZ (dJ _ m5)⟩;haveI:=hb u (aW hx);haveI:=hb w (aW hw);refine ix (fu:=⟨13⟩) _ J (cO hx) J<|aj 24 (.d (vI (ds.length:Nat))) J omh<|gx (fu:=⟨1⟩) J<|aj 25 (.d (vI (((k+1)%ds.length:Nat):Int))) J J<|gx J<|ix _ J (cO hw) J<|cl J (A8 (p:=u) (q:=w) m5 m5) J<|cl J (l6 (q:=u.cross w) m5) J<|br J J J (fun hc32=>?_) (fun hc32=>?_)
  .
   refine cl J (LD (p:=u) (q:=w) m5 m5) J<|rf J J<|ap ((acc++[u.add w]).map eZ) J okn (FI [u.add w]) J<|fI 38 3 J<|at_ ⟨acc++[u.add w],k+1⟩ (by dsimp only;exact⟨⟨by rw[Ut,RP hx hw,if_pos hc32,<-h1],m5⟩,m5⟩)
  .
   refine cl J (Qg (p:=u) m5) J<|rf J J<|ap ((acc++[f9 u]).map eZ) J okn (FI [f9 u]) J<|fI 43 3 J<|at_ ⟨acc++[f9 u],k+1⟩ (by dsimp only;exact⟨⟨by rw[Ut,RP hx hw,if_neg hc32,<-h1],m5⟩,m5⟩)
 .
  obtain rfl:k=ds.length:=by omega
  have hS:lG ds=acc:=by unfold lG;rw[if_neg m5,h1]
  refine iH 3 J<|rz J (by rw[hS];rfl)
def YL(hb: ∀d∈ds,aC d i)(hn:ds.length<=10000000)(hi:i<=1000000:=by decide):PF GB prog 152 [.sl (ds.map eZ)] (.sl ((lG ds).map eZ)):=by
 cases ds with
 |nil=>exact aGb
 |cons d ds=>exact aFb (i:=i) (Nat.zero_lt_succ _) hb hn hi
def L9{q:aa}[hp:aC p i][hq:aC q i](hi:i<=1000000:=by decide):PF GB prog 173 [eZ p,eZ q] (vB (decide (p.x=q.x/\p.y=q.y))):=by
 refine fn func173 J J ntmps173 J J (fun C=>?_);refine cl J (DO (p:=p.x) (q:=q.x) (i:=i) (j:=i) m5 m5) J<|csd 10 J J J (fun hg10=>?_) (fun hg10=>?_)
 .
  refine cl J (DO (p:=p.y) (q:=q.y) (i:=i) (j:=i) m5 m5) J<|rz J (by show DV.v (.bool _)= .v (.bool _);simp_all)
 .
  exact rz J (by show DV.v (.bool _)= .v (.bool _);simp_all)
def Ha{q:aa}[hp:aC p i][hq:aC q j](hi:i<=10000000:=by decide)(hj:j<=10000000:=by decide):PF GB prog 175 [eZ p,eZ q] (eZ ⟨p.x-q.x,p.y-q.y⟩):=by
 refine fn func175 J J ntmps175 J J (fun C=>?_);refine cl J (rF (p:=p.x) (q:=q.x) (i:=i) (j:=j) m5 m5) J<|cl J (rF (p:=p.y) (q:=q.y) (i:=i) (j:=j) m5 m5) J<|rz J J
def WJ(h: ¬ip q)(hy:Is G (dH q) y):y= .pointer none:=by
 unfold dH at hy;rw[decide_eq_false h] at hy;rcases vg.1 hy with⟨_,e⟩|⟨e,_⟩
 .exact e
 .cases e
def aMO(h: ¬ip q):Is G (dH q) (.pointer none):=by
 unfold dH;rw[decide_eq_false h];exact vg.2 (.inl ⟨J,J⟩)
def xF(q:Rat):List Value:=[.int .i64 (ek q), .int .i64 (eo q), .pointer none]
def aGE{t:List DV}{m:List Value}(h: ¬ip q)(hm:IsLs G (vI (ek q)::vI (eo q)::dH q::t) m): ∃n,m=xF q++n/\IsLs G t n:=by
 obtain⟨y1,m1,rfl,h1,hm1⟩:=bj.1 hm;obtain⟨y2,m2,rfl,h2,hm2⟩:=bj.1 hm1;obtain⟨y3,m3,rfl,h3,hm3⟩:=bj.1 hm2;obtain rfl:=aO.1 h1;obtain rfl:=aO.1 h2;obtain rfl:=WJ h h3;exact⟨m3,J,hm3⟩
def Zc{t:List DV}{n:List Value}(h: ¬ip q)(k:IsLs G t n):IsLs G (vI (ek q)::vI (eo q)::dH q::t) (xF q++n):= .cons (aO.2 J) (.cons (aO.2 J) (.cons (aMO h) k))
def rV(q:Rat):Value:= .agg ⟨xF q⟩
def Yo(h: ¬ip q)(hy:Is G (eF q) y):y=rV q:=by
 obtain⟨m,rfl,hm⟩:=eD.1 hy;obtain⟨n,rfl,hn⟩:=aGE h hm;rw[fj.1 hn];rfl
def aOh(h: ¬ip q):Is G (eF q) (rV q):=eD.2 ⟨_,J,Zc h (fj.2 J)⟩

def oz(v:List aa):List (List DV):=(List.range v.length).map fun i=>[vI (i:Nat),F4 (v.getD i ⟨0,0⟩) (v.getD ((i+1)%v.length) ⟨0,0⟩)]
def Qa{q:aa}(h1:v[i]? =some p)(h2:v[(i+1)%v.length]? =some q):(oz v)[i]? =some [vI (i:Nat),F4 p q]:=by
 have hi:=(aS.1 h1).1;unfold oz;rw[cZ,pJ hi,kU,aK,aK,h1,h2];rfl
def JT{e:List DV}(h:(oz v)[i]? =some e): ∃p q,v[i]? =some p/\v[(i+1)%v.length]? =some q/\e=[vI (i:Nat),F4 p q]:=by
 have hi:i<v.length:=by
  have:=(aS.1 h).1;unfold oz at this;simpa using this
 have h1:v[i]? =some v[i]:=aZ hi;have hm:(i+1)%v.length<v.length:=dJ _ m5;have h2:v[(i+1)%v.length]? =some v[(i+1)%v.length]:=aZ hm;refine⟨_,_,h1,h2,?_⟩;rw[Qa h1 h2] at h;exact(Option.some.inj h).symm
def ID: ∀e∈oz v,e.length=2:=fun e he=>by
 obtain⟨i,_,rfl⟩:=aT.1 he;rfl
def Hv(hn:v.length<=100000:=by omega):It GB prog 174 [.pt [.sl (v.map eZ)]] (oz v):=by
 have hml:(v.map eZ).length=v.length:=aX ..;have hrl:(oz v).length=v.length:=by unfold oz;simp
 refine aNW func174 J J ntmps174 J (fun _=>J) (fun l Jv Jx GB' hg H C hp hJ=>?_);refine ptE 1 J<|gx J<|aj 6 (.d (vI (v.length:Nat))) J omh<|Zf (X:=Nat) (fun k=>[(0, .d (.v (.func (.yield l) #[] #[]))),(1, .ep [.sl (v.map eZ)]),(5, .d (.sl (v.map eZ))),(6, .d (vI (v.length:Nat))),(7, .d (vI (k:Nat)))]) (fun k C=>k<=v.length/\Jv k C.G0 C.w0) (fun k=>v.length-k) 0 hp ⟨bK _,hJ⟩ (fun _=>J) (fun k C1 hp1 hk=>?_);obtain⟨hk1,hJ1⟩:=hk;refine br J J J (fun hc8=>?_) (fun hc8=>?_)
 .obtain⟨p,hpx⟩: ∃u,v[k]? =some u:=⟨_,aZ m5⟩
  obtain⟨q,hqx⟩: ∃u,v[(k+1)%v.length]? =some u:=⟨_,aZ (dJ _ m5)⟩;refine ix _ J (cO hpx) J<|aj 20 (.d (vI (((k+1)%v.length:Nat):Int))) J omh<|gx J<|ix _ J (cO hqx) J<|bar (len:=2) (s:=6) (e:=103) J v6 v6 J<|drT v6 J ?_;refine cy [(0, .d (.v (.func (.yield l) #[] #[]))),(1, .ep [.sl (v.map eZ)]),(5, .d (.sl (v.map eZ))),(6, .d (vI (v.length:Nat))),(7, .d (vI (k:Nat)))] H hp1 hJ1 J (Qa hpx hqx) J (by repeat (first|exact trivial|refine And.intro J ?_)) J J J (fun C3 hp3 hJ3=>?_) (fun C3 hp3 hJ3=>?_)
  .exact Zy (k+1) hp3 ⟨⟨m5,hJ3⟩,m5⟩
  .exact Rp H hp3 (.inr hJ3) J
 .obtain rfl:k=v.length:=by omega
  exact Rp H hp1 (.inl (by rw[hrl];exact hJ1)) J
def J3:Kj GB prog 103 [.sl (v.map eZ)] 174 (.pt [.sl (v.map eZ)]):=by
 refine ZV func103 J J ntmps103 J J (fun C=>?_);refine fz 1 J J<|aLS 1 J (fun GB' pv hg hp=>?_);refine mkG J J<|Ze J J hp
def aLG:KK 101:=fun x w=>by kernel_rfl
def aMK(m:List Value):FG 101 (.agg ⟨m⟩) "Mul" 194:=fun w=>by kernel_rfl
def az3(l:List Rat)(k:Nat)(y:Rat):(l.map eF).set k (eF y)=(l.set k y).map eF:=(jM ..).symm
def og(L:List Rat)(k:Rat)(j:Nat):List Rat:=(L.take j).map (· *k)++L.drop j
def aGw(L:List Rat)(k:Rat)(j:Nat):(og L k j).length=L.length:=by
 unfold og;rw[aU,aX,bL,gT];omega
def aGj{k a:Rat}(h:L[j]? =some a):(og L k j)[j]? =some a:=by
 have hj:=(aS.1 h).1;unfold og;rw[fN (by rw[aX,bL];omega),aX,bL,mQ,<-h];congr 1;omega
def aFN{k a:Rat}(h:L[j]? =some a):(og L k j).set j (a*k)=og L k (j+1):=by
 have hj:=(aS.1 h).1;unfold og;rw[dT,h,oK _ _ (by rw[aX,bL];omega),aX,bL,show j-min j L.length=0 by omega,bV hj];simp only[pN,bX,bY,iQ,List.set_cons_zero,dK,iV,kQ]
def LL{k:Rat}[hk:BQ k i](hL: ∀a∈L,¬ip a)(hb: ∀a∈L,BQ a i)(hn:L.length<=1000)(hi:i<=1000000:=by decide):PB GB prog 274 (eh [some (eF k),none]) 3 101 (L.map eF) (fun w=> .v (.slice w.a w.n w.c)) ((L.map (· *k)).map eF):=by
 have hml:(L.map eF).length=L.length:=aX ..;refine tj (fu:=⟨11⟩) func274 J J ntmps274 J J (fun C=>?_);refine aj 7 (.d (vI (L.length:Nat))) J omh<|gx J<|lp (X:=Nat) (fun j=>[(8, .d (vI (j:Nat)))]) (fun j=>[(1000000,some (.b 101 3 ((og L k j).map eF) false))]) (fun j=>j<=L.length) (fun j=>L.length-j) 0 J (bK _) (fun _=>J) (fun j hk=>?_);have hsl:=aGw L k j;have hsm:((og L k j).map eF).length=(og L k j).length:=aX ..;refine br J J J (fun hc9=>?_) (fun hc9=>?_)
 .
  obtain⟨a,hx⟩: ∃u,L[j]? =some u:=⟨_,aZ m5⟩;have ham:=aW hx;haveI:=hb a ham;have hga:(og L k j)[j]? =some a:=aGj hx;refine lb (fu:=⟨0⟩) _ J (cO hga) J<|Zg (fu:=⟨1⟩) (rV a) J aLG (fun G y hy=>Yo (hL a ham) hy) J<|ivk J (aMK _) (PF.arg0 (qd (p:=a) (q:=k) (i:=i) (j:=i) m5 m5) (fun G y h=>by rw[aO.1 h];exact aOh (hL a ham))) J<|sb (hv:=by simp only[ak];exact⟨v6,m5⟩) _ ((og L k (j+1)).map eF) J (cO hga) J (by rw[<-aFN hx,<-az3]<;>rfl) J<|at_ (j+1) ⟨m5,m5⟩
 .
  obtain rfl:j=L.length:=by omega
  have hend:og L k L.length=L.map (· *k):=by unfold og;rw[dX,fR,fT]
  exact m6 J J J (by rw[hend])
def Hl{a:Int}{g:Nat}(hg:0<g)(hd:g∣a.natAbs):(a:Rat)*(((g:Nat):Int):Rat)⁻¹=((zv (decide (a<0)) (a.natAbs/g):Int):Rat):=by
 obtain⟨q,hq⟩:=hd;have e:zv (decide (a<0)) (a.natAbs/g)*(g:Int)=a:=by
  rw[hq,sX q hg];unfold zv;have hc:((g*q:Nat):Int)=(g:Int)*(q:Int):=by simp
  have hm:=sW (g:Int) (q:Int);split
  .rename_i h
   have h:=of_decide_eq_true h;rw[Int.neg_mul];omega
  .rename_i h
   have h: ¬a<0:=fun k=>h (decide_eq_true k);omega
 generalize zv (decide (a<0)) (a.natAbs/g)=z at*;have h0:((g:Int):Rat)≠0:=by
  intro k;have:(g:Int)=0:=by exact_mod_cast k
  omega
 rw[<-e,cV];generalize ((g:Int):Rat)=r at*;grind
def yQ{k:Nat}(h:BQ q k)(hk:k<=62:=by decide): ¬ip q:=fun b=>b (by
 have hp:2^k<=2^62:=bT pb hk;have e:(2:Nat)^62=4611686018427387904:=by decide
 obtain⟨h1,h2⟩:=h;exact⟨m5,m5⟩)
theorem EM(p q:aa)[aC p i][aC q j]:aC ⟨p.x-q.x,p.y-q.y⟩ (i+j+1):=⟨inferInstanceAs (BQ (p.x-q.x) _),inferInstanceAs (BQ (p.y-q.y) _)⟩
theorem Qk(h:z.natAbs<=1000000):BQ (z:Rat) 22:=by
 have e:(2:Nat)^21=2097152:=by decide
 haveI:BI z 21:=⟨m5⟩;exact(inferInstance:BQ (z:Rat) 22)
theorem GV{z:ZP}(h:ZP.le 100 z):aC z.q 22:=⟨Qk (by have:=h.1;omega),Qk (by have:=h.2;omega)⟩
def Lu{k:Nat}(h:(r.map ZP.q)[k]? =some p):k<r.length/\p=(r.getD k (0,0)).q:=by
 rw[cZ] at h
 cases e:r[k]? with
 |none=>rw[e] at h;cases h
 |some z=>
  rw[e] at h;cases h;exact⟨(aS.1 e).1,by rw[aK,e];rfl⟩
def aGN[h:BN a i](hi:i<=1000000000:=by decide):PF GB prog 290 [dN a] (.v (.bool true)):=
 (Qp (ds:=dg a) (gE _).2.1 (by have:=jH (a:=a) hi;omega)).to (by unfold vB;rw[decide_eq_true (gE a).2.2])
def SZ[hq:BQ q i](hi:i<=1000000:=by decide):PF GB prog 245 [eR q] (.v (.bool true)):=by
 have hd:=q.den_pos;have hdl:0<(dg q.den).length:=iR fun e=>by have:=wh.1 e;omega
 have hml:((dg q.den).map dU).length=(dg q.den).length:=aX ..;have hco:Nat.gcd q.num.natAbs q.den=1:=q.reduced;refine fn func245 J J ntmps245 J J (fun C=>?_);refine cl (fu:=⟨0⟩) J (Fa (m:=q.num) (i:=i) (h:=⟨hq.hn⟩) m5) J<|mo 5 J<|gx J<|cl (fu:=⟨0⟩) J (aGN (a:=q.den) (i:=i) (h:=⟨hq.hd⟩) m5) J<|mo 10 J<|gx (fu:=⟨6⟩) J<|c9 J (oma m5) J<|cl (fu:=⟨0⟩) J (IA (a:=q.num.natAbs) (b:=q.den) (i:=i) (j:=i) (h:=⟨hq.hn⟩) (k:=⟨hq.hd⟩) m5 m5) J<|aj 24 (.d (dN 1)) J (by rw[hco])<|gx J<|cl J (wF (a:=1) (i:=1) (h:=⟨pb⟩)) J<|rz J J
def aFJ[hp:aC p i](hi:i<=1000000:=by decide):PF GB prog 170 [oc p] (.v (.bool true)):=by
 refine fn func170 J J ntmps170 J J (fun C=>?_);refine cl (fu:=⟨0⟩) J (SZ (q:=p.x) (i:=i) m5) J<|mo 5 J<|gx J<|cl J (SZ (q:=p.y) (i:=i) m5) J<|rz J J
def vC(l:List aa)(p:aa):Int:=match l.findIdx? (fun q=>decide (q.x=p.x/\q.y=p.y)) with
 |some i=>(i:Nat)
 |none=> -1
def Dx{q:aa}{k:Nat}(hx:l[k]? =some q)(h:(l.take k).all (fun q=>!decide (q.x=p.x/\q.y=p.y))=true)(hq:q.x=p.x/\q.y=p.y):vC l p=(k:Nat):=by
 have hk:=(aS.1 hx).1;have e:l.findIdx? (fun q=>decide (q.x=p.x/\q.y=p.y))=some k:=by
  rw[List.findIdx?_eq_some_iff_getElem];refine⟨hk,?_,fun j hj=>?_⟩
  .rw[(aS.1 hx).2];exact decide_eq_true hq
  .have:=dW.1 h l[j] (by rw[List.mem_take_iff_getElem];exact⟨j,m5,J⟩)
   simp at this⊢;intro a b;rcases this with k|k
   .exact k a
   .exact k b
 unfold vC;rw[e]
def aH0(h:l.all (fun q=>!decide (q.x=p.x/\q.y=p.y))=true):vC l p= -1:=by
 have e:l.findIdx? (fun q=>decide (q.x=p.x/\q.y=p.y))=none:=by
  rw[List.findIdx?_eq_none_iff];intro x hx;have:=dW.1 h x hx;simp at this⊢;intro a b;rcases this with k|k
  .exact k a
  .exact k b
 unfold vC;rw[e]
def V5{k:Nat}{q:aa}{g:aa->Bool}(hx:l[k]? =some q)(h:(l.take k).all g=true)(hq:g q=true):(l.take (k+1)).all g=true:=by
 rw[dT,hx,List.all_append,h];simp[hq]
def X0[hp:aC p i](hl: ∀q∈l,aC q i)(hn:l.length<=100000)(hi:i<=1000000:=by decide):PF GB prog 172 [.sl (l.map eZ),eZ p] (vI (vC l p)):=by
 have hml:(l.map eZ).length=l.length:=aX ..;refine fn (fu:=⟨11⟩) func172 J J ntmps172 J J (fun C=>?_);refine aj 8 (.d (vI (l.length:Nat))) J omh<|gx J<|lp (X:=Nat) (fun k=>[(9, .d (vI (k:Nat)))]) (fun k=>[]) (fun k=>k<=l.length/\(l.take k).all (fun q=>!decide (q.x=p.x/\q.y=p.y))=true) (fun k=>l.length-k) 0 J ⟨bK _,J⟩ (fun _=>J) (fun k hk=>?_);obtain⟨hk,hall⟩:=hk;refine br J J J (fun hc10=>?_) (fun hc10=>?_)
 .
  obtain⟨q,hx⟩: ∃u,l[k]? =some u:=⟨_,aZ m5⟩;haveI:=hl q (aW hx);refine ix _ J (cO hx) J<|cl J (L9 (p:=q) (q:=p) (i:=i) hi) J<|bd J J J (fun hc16=>?_) (fun hc16=>?_)
  .
   exact rz J (by rw[Dx hx hall hc16];rfl)
  .
   exact at_ (k+1) ⟨⟨m5,V5 hx hall (by rw[decide_eq_false hc16];rfl)⟩,m5⟩
 .
  obtain rfl:k=l.length:=by omega
  rw[dX] at hall;exact rz J (by rw[aH0 hall];rfl)
def gu(l:List aa):Nat->Nat
 |0=>0
 |k+1=>gu l k+if vC l (l.getD k ⟨0,0⟩)=(k:Nat) then 1 else 0
def lw(l:List aa)(k:Nat):Nat:=if 3<=gu l k then 3 else gu l k
def aK5{k:Nat}(h:lw l k<3)(e:gu l (k+1)=gu l k+1):((lw l k:Nat):Int)+1=((lw l (k+1):Nat):Int):=by
 have a:lw l k=if 3<=gu l k then 3 else gu l k:=J
 have b:lw l (k+1)=if 3<=gu l (k+1) then 3 else gu l (k+1):=J
 split at a<;>split at b<;>omega
def U'{k:Nat}(h: ¬lw l k<3\/gu l (k+1)=gu l k)(m:gu l k<=gu l (k+1)):((lw l k:Nat):Int)=((lw l (k+1):Nat):Int):=by
 have a:lw l k=if 3<=gu l k then 3 else gu l k:=J
 have b:lw l (k+1)=if 3<=gu l (k+1) then 3 else gu l (k+1):=J
 split at a<;>split at b<;>omega
def aLR(l:List aa)(k:Nat):lw l k<=3:=by unfold lw;split<;>omega
def ZO{k:Nat}(h:3<=gu l k):lw l k=3:=by unfold lw;rw[if_pos h]
def Ey{k:Nat}(hx:l[k]? =some p)(h:vC l p=(k:Nat)):gu l (k+1)=gu l k+1:=by
 rw[gu,aK,hx,lJ,if_pos h]
def aKR{k:Nat}(hx:l[k]? =some p)(h: ¬vC l p=(k:Nat)):gu l (k+1)=gu l k:=by
 rw[gu,aK,hx,lJ,if_neg h];rfl
def TE{k:Nat}:gu l k<=gu l (k+1):=by rw[gu];split<;>omega
def awx{k:Nat}(h:v[k]? =some p):((v.take k).map eZ)++[eZ p]=(v.take (k+1)).map eZ:=by
 rw[dT,h,bX];rfl
def aEz(h:iG r){k:Nat}(hk:k<r.length):decide ((r.getD k (0,0)).q.x=(ks r k).q.x/\(r.getD k (0,0)).q.y=(ks r k).q.y)=false:=decide_eq_false fun e=>h.ne k hk (Dm (by
 obtain⟨e1,e2⟩:=e;generalize (r.getD k (0,0)).q=a at*;generalize (ks r k).q=b at*
 cases a;cases b
 simp only[aa.mk.injEq];exact⟨e1,e2⟩))
def aAK(h:iG r)(h3:3<=gu (r.map ZP.q) (r.map ZP.q).length):PF GB prog 100 [yr r] (.tp [.sl ((r.map ZP.q).map eZ), .v .nilIface]):=by
 have hn:=h.n6;obtain⟨v,hv⟩: ∃v,v=r.map ZP.q:=⟨_,rfl⟩;have hvl:v.length=r.length:=by rw[hv,aX]
 have hb: ∀p∈v,aC p 22:=fun p hp=>by rw[hv] at hp;obtain⟨z,hz,rfl⟩:=aT.1 hp;exact GV (h.le z hz)
 unfold yr;rw[<-hv] at h3⊢;have hm1:(v.map oc).length=v.length:=aX ..;have hm2:(v.map eZ).length=v.length:=aX ..;have hrl:(oz v).length=v.length:=by unfold oz;rw[aX,lT]
 refine Ji (fu:=⟨11⟩) func100 J J ntmps100 J J (fun C h0=>?_);refine aj 13 (.d (vI (v.length:Nat))) J (by rw[hm1]<;>rfl)<|gx (fu:=⟨0⟩) J<|c9 (fu:=⟨15⟩) J (oma m5) J<|aj 20 (.d (vI (v.length:Nat))) J (by rw[hm1]<;>rfl)<|gx J<|nr 4 4 103 6 J J J<|lp (X:=Nat) (fun k=>[(21, .d (vI (k:Nat))),(4, .rw 4)]) (fun k=>[(4,some (.b 103 6 ((v.take k).map eZ) true))]) (fun k=>k<=v.length) (fun k=>v.length-k) 0 J (bK _) (fun _=>J) (fun k hk=>?_);have hm3:((v.take k).map eZ).length<=k:=by rw[aX,bL];omega
 refine br (fu2:=⟨0⟩) J J J (fun hc22=>?_) (fun hc22=>?_)
 .
  obtain⟨p,hx⟩: ∃u,v[k]? =some u:=⟨_,aZ m5⟩;haveI:=hb p (aW hx);refine ix _ J (cO hx) J<|cl (fu:=⟨0⟩) J (aFJ (p:=p) (i:=22)) J<|mo 27 J<|gx J<|cl J (Sz (p:=p) (i:=22)) J<|rf J J<|ap ((v.take (k+1)).map eZ) J (awx hx) (FI [p]) J<|fI 41 4 J<|at_ (k+1) ⟨m5,m5⟩
 .
  obtain rfl:k=v.length:=by omega
  rw[dX];refine oA 4 J<|gx (fu:=⟨15⟩) J<|aj 44 (.d (vI (v.length:Nat))) J okM<|gx J<|lp (X:=Nat) (fun k=>[(45, .d (vI (k:Nat))),(7, .d (vI ((lw v k):Nat)))]) (fun k=>[]) (fun k=>k<=v.length) (fun k=>v.length-k) 0 J (bK _) (fun _=>J) (fun k hk=>?_);have hdm:=aLR v k;refine br (fu2:=⟨9⟩) J J J (fun hc46=>?_) (fun hc46=>?_)
  .
   obtain⟨p,hx⟩: ∃u,v[k]? =some u:=⟨_,aZ m5⟩;haveI:=hb p (aW hx);have hcm:=TE (l:=v) (k:=k);refine ix _ J (cO hx) J<|cs 52 J J J (fun hg52=>?_) (fun hg52=>?_)
   .
    refine cl J (X0 (l:=v) (p:=p) (i:=22) hb m5) J<|br J J J (fun hc58=>?_) (fun hc58=>?_)
    .
     have he7:=aK5 m5 (Ey hx m5);refine aj 7 (.d (vI (lw v (k+1):Nat))) J (by rw[he7]<;>rfl)<|at_ (k+1) ⟨m5,m5⟩
    .
     have he7:=U' (.inr (aKR hx m5)) hcm;refine aj 7 (.d (vI (lw v (k+1):Nat))) J (by rw[he7]<;>rfl)<|at_ (k+1) ⟨m5,m5⟩
   .
    have he7:=U' (l:=v) (k:=k) (.inl m5) hcm;refine aj 7 (.d (vI (lw v (k+1):Nat))) J (by rw[he7]<;>rfl)<|at_ (k+1) ⟨m5,m5⟩
  .
   obtain rfl:k=v.length:=by omega
   have hd3:=ZO h3;refine c9 (fu:=⟨9⟩) J (oma m5) J<|HO J J J J3 (fun _=>J) (fun GB1 pv hg1 hpv=>?_);refine yX 2 2000002 h0.fx J<|yX 3 2000003 h0.fx J ?_;refine GJ (σ:=Empty) (fun _=>[(2000002,some (.o 106 [.nl] true)),(2000003,some (.o 41 [.d (.v .nilIface)] true))]) (fun _=>True) (fun _=>[]) (fun _=>False) [(2, .ov 2000002 0),(3, .ov 2000003 0),(4, .d (.sl (v.map eZ)))] h0 J (Hv) (.cons hpv .nil) ⟨J,J,J,trivial⟩ J ⟨J,J,trivial⟩ trivial ID J J (fun k e GB' hE hg hp=>?_) (fun D hD hx hp=>?_) (fun D s hD hx hq=>hq.elim)
   .obtain⟨p,q,hpx,hqx,rfl⟩:=JT hE
    rw[hvl] at hqx;rw[hv] at hpx hqx;obtain⟨hk,rfl⟩:=Lu hpx;obtain⟨hk2,rfl⟩:=Lu hqx;haveI:=GV (h.le _ (zN hk));haveI:=GV (h.le _ (Fi hk));have hne:=aEz h hk;refine⟨?_,?_,fun C2=>?_,fun C2=>?_⟩
    rotate_left 2
    .refine gx J<|Gz J J J ⟨J,J,J⟩ J ?_
     exact atR
    .refine gx J<|pD 0 (e:=103) (len:=2) (s:=6) J v6 v6 pb J<|pD 1 (e:=103) (len:=2) (s:=6) J v6 v6 pb J<|cl J (L9 (p:=(r.getD k (0,0)).q) (q:=(ks r k).q) (i:=22)) J<|bd J J J (fun hc=>absurd (decide_eq_true hc) (by rw[hne];decide)) (fun hc=>?_)
     exact rq trivial ⟨J,J,trivial⟩
   .refine gx J<|?_
    exact Fm hD hx J J
structure wV (r:List ZP):Prop where
 ok:iG r
 c3:3<=gu (r.map ZP.q) (r.map ZP.q).length



def OS{v:aa}[hp:aC u i][hq:aC v j](hi:i<=10000000:=by decide)(hj:j<=10000000:=by decide):PF GB prog 229 [eZ u,eZ v] (vB (decide (cE u v=0))):=by
 refine fn func229 J J ntmps229 J J (fun C=>?_);refine cl J (Id (u:=u) (v:=v) hi hj) J<|rz J J
def lH(x:aa):List aa->List aa
 |[]=>[]
 |y::l=>if cE y x=0 then lH y l else y::lH y l
def sF:List aa->List aa
 |[]=>[]
 |x::l=>x::lH x l
def E0{k:Nat}{x y:aa}(h:l[k]? =some y):lH x (l.drop k)=if cE y x=0 then lH y (l.drop (k+1)) else y::lH y (l.drop (k+1)):=by
 obtain⟨h1,h2⟩:=aS.1 h;rw[bV h1,h2,lH]
def azn{k:Nat}{y:aa}(h:l[k]? =some y):l.take (k+1)=l.take k++[y]:=by
 rw[dT,h];rfl
def Zm(l:List aa)(k:Nat)(y:aa):(l.map eZ).set k (eZ y)=(l.set k y).map eZ:=(jM ..).symm
def aqF(h:l.length<2):sF l=l:=by
 cases l with
 |nil=>rfl
 |cons x l=>cases l with
  |nil=>rfl
  |cons y l=>simp at h;omega
def aFG{x:aa}(h:l[0]? =some x):sF l=l.take 1++lH x (l.drop 1):=by
 cases l with
 |nil=>cases h
 |cons y l=>cases h;rfl
def OY{r:List aa}{b:Nat}(h:a<=b)(e:r.drop a=l.drop a):r[b]? =l[b]? :=by
 have:=congrArg (·[b-a]?) e;simpa[mQ,show a+(b-a)=b by omega] using this
def V0{r:List aa}{b:Nat}(h:a<=b)(e:r.drop a=l.drop a):r.drop b=l.drop b:=by
 have:=congrArg (List.drop (b-a)) e;simpa[uZ,show a+(b-a)=b by omega] using this
def Wu{r:List aa}(h:i<r.length):(r.set i u).take (i+1)=r.take i++[u]:=by
 rw[dT,pM h,List.take_set_of_le (bW _)];rfl
def Y8{r:List aa}(h:i<r.length):(r.map eZ)[(i:Int).toNat]? =some (eZ r[i]):=by simp[h]
def axi(hb: ∀d∈l,aC d i0)(hn:l.length<=10000000)(hi:i0<=10000000):PB GB prog 228 (eh [none,some (.v (.func (.func 229) #[] #[]))]) 6 103 (l.map eZ) (fun w=> .v (.slice w.a w.n w.c)) ((sF l).map eZ):=by
 have hml:(l.map eZ).length=l.length:=aX ..;refine tj (fu:=⟨10⟩) func228 J J ntmps228 J J (fun C=>?_);refine aj 9 (.d (vI (l.length:Nat))) J omh<|gx J<|br J J J (fun hc10=>?_) (fun hc10=>?_)
 .
  exact m6 J J J (by rw[aqF m5])
 .
  obtain⟨x0,hx0⟩: ∃x,l[0]? =some x:=⟨_,aZ m5⟩;refine lp (fu:=⟨6⟩) (X:=Nat×aa) (fun⟨k,x⟩=>[(5, .d (vI (k:Nat)))]) (fun⟨k,x⟩=>[]) (fun⟨k,x⟩=>1<=k/\k<=l.length/\l[k-1]? =some x/\sF l=l.take k++lH x (l.drop k)) (fun⟨k,x⟩=>l.length-k) ⟨1,x0⟩ J ⟨bW _,m5,hx0,by rw[aFG hx0]⟩ (fun _=>J) (fun⟨k,x⟩ hk=>?_)
  try dsimp only at hk⊢
  obtain⟨h1,h2,h3,h4⟩:=hk;refine aj 14 (.d (vI (l.length:Nat))) J omh<|gx J<|br J J J (fun hc15=>?_) (fun hc15=>?_)
  .
   obtain⟨y,hy⟩: ∃y,l[k]? =some y:=⟨_,aZ m5⟩;haveI:=hb y (aW hy);haveI:=hb x (aW h3);refine lb (fu:=⟨3⟩) _ J (cO hy) J<|aj 25 (.d (vI ((k-1:Nat):Int))) J (by rw[Int.ofNat_sub h1]<;>rfl)<|gx J<|lb (fu:=⟨0⟩) _ J (cO h3) J<|cl J (OS (u:=y) (v:=x) hi hi) J<|bd (fu1:=⟨4⟩) J J J (fun hc28=>?_) (fun hc28=>?_)
   .
    have hc28':=hc28;refine Tu k (l.length-k) J J m5 m5 J<|lp (fu:=⟨5⟩) (X:=Nat×Nat×aa×List aa) (fun⟨i,m,z,r⟩=>[(5, .d (vI (i:Nat))),(7, .d (vI (m:Nat)))]) (fun⟨i,m,z,r⟩=>[(1000000,some (.b 103 6 (r.map eZ) false))]) (fun⟨i,m,z,r⟩=>1<=m/\k+m<=l.length/\i+1<=k+m/\r.length=l.length/\r.drop (k+m-1)=l.drop (k+m-1)/\l[k+m-1]? =some z/\sF l=r.take i++lH z (l.drop (k+m))) (fun⟨i,m,z,r⟩=>l.length-m) ⟨k,1,y,l⟩ J ⟨bW _,m5,m5,J,J,by rw[mL];exact hy,by rw[h4,E0 hy,if_pos hc28']⟩ (fun _=>J) (fun⟨i,m,z,r⟩ hk=>?_)
    try dsimp only at hk⊢
    obtain⟨g1,g2,g3,g4,g5,g6,g7⟩:=hk;have hrl:(r.map eZ).length=r.length:=aX ..;refine rsn J J<|br (fu1:=⟨9⟩) (fu2:=⟨9⟩) J J J (fun hc35=>?_) (fun hc35=>?_)
    .
     obtain⟨u,hu⟩: ∃u,l[k+m]? =some u:=⟨_,aZ m5⟩;haveI:=hb u (aW hu);haveI:=hb z (aW g6);have g8:r[k+m]? =some u:=by rw[<-hu];exact OY m5 g5
     have g10:r[k+m-1]? =some z:=by rw[<-g6];exact OY (bW _) g5
     have g9:r.drop (k+m)=l.drop (k+m):=V0 m5 g5;refine Jp (k+m) J m5 m5 m5 J<|lb (fu:=⟨3⟩) _ J (cO g8) J<|Jp (k+m-1) J m5 m5 m5 J<|lb (fu:=⟨0⟩) _ J (cO g10) J<|cl J (OS (u:=u) (v:=z) hi hi) J<|bb (fu1:=⟨6⟩) J J J (fun hc49=>?_) (fun hc49=>?_)
     .
      have hc49': ¬cE u z=0:=by simpa using hc49
      refine Jp (k+m) J m5 m5 m5 J<|lb _ J (cO g8) J<|sb _ ((r.set i u).map eZ) J (Y8 m5) J (by rw[<-Zm]<;>rfl) J<|at_ ⟨i+1,m+1,u,r.set i u⟩ (by dsimp only;exact⟨⟨m5,m5,m5,by rw[bZ];exact g4,by rw[show k+(m+1)-1=k+m by omega,rX m5];exact g9,by rw[show k+(m+1)-1=k+m by omega];exact hu,by rw[g7,E0 hu,if_neg hc49',Wu m5,dK];rfl⟩,m5⟩)
     .
      have hc49':cE u z=0:=by simpa using hc49
      exact at_ ⟨i,m+1,u,r⟩ (by dsimp only;exact⟨⟨m5,m5,m5,g4,by rw[show k+(m+1)-1=k+m by omega];exact g9,by rw[show k+(m+1)-1=k+m by omega];exact hu,by rw[g7,E0 hu,if_pos hc49'];rfl⟩,m5⟩)
    .
     obtain hm:k+m=l.length:=by omega
     refine Tu i (l.length-i) J J m5 m5 J<|rcl (fu:=⟨6⟩) _ J (by rw[hrl];omega) m5 J J<|IH ((r.take i).map eZ) i J J (by rw[aU,bL,aR,hrl];omega) (by rw[fV (by rw[bL,hrl];omega),List.take_take,Nat.min_self,gM]) J<|?_;exact m6 J J J (by rw[g7,hm,fR,lH,fT])
   .
    have hc28':=hc28;exact at_ ⟨k+1,y⟩ (by dsimp only;exact⟨⟨m5,m5,hy,by rw[h4,E0 hy,if_neg hc28',azn hy,dK];rfl⟩,m5⟩)
  .
   exact m6 J J J (by rw[h4,show k=l.length by omega,fR,lH,fT,dX])
end Go.Sx
end
