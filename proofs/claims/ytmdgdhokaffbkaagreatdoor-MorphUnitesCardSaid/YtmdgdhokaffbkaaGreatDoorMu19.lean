import Derived.Test.YtmdgdhokaffbkaaGreatDoorMu18
import Derived.RecoverIn
import Derived.Shelf.SlSortCmp.NoneTotal
import Derived.Test.YtmdgdhokaffbkaaGreatDoorProg
import Derived.Shelf.SlicesQ.Reverse
set_option linter.all false
set_option maxHeartbeats 2000000
set_option maxRecDepth 100000
section
namespace Go.Sx
open Go Go.Proofs Tryz
variable {GB G:Gh}{K:List aa}{t u:Tr}{c:ar}{op b d D X Y z:Int}{V l v:List ah}{L:List Rat}{a A B j i n:Nat}{q:Rat}{r:List ZP}{p q1 q2:ah}{es:List Int}{C:aE}{Q0:Exit->Act->World->Prop}{fr fr':aC}{own':aG}{cf cf':Cf}{vc:List Prop}{y:Value}{ai al ae:Addr}
def I6{K:List aa}(hK: ∀m∈K,m.ok): ∀{t:Tr} {c:ar},t.Prp c->t.all aa.ok->bu c->eG K t->t.depth<=pI K c
 | .leaf _,_,_,_,_,_=>bJ _
 | .node n x y,c,⟨h1,h2,h3,h4⟩,⟨hn,hx,hy⟩,hc,⟨⟨m0,hm0,hs⟩,kx,ky⟩=>by
  obtain⟨g1,i1⟩:=gk hc hn h1;obtain⟨g2,i2⟩:=gk hc hn.rev h2;have a:=I6 hK h3 hx g1 kx;have b:=I6 hK h4 hy g2 ky;have hm0k:=hK m0 hm0;have n2:mB c m0=true:=by
   rw[n5 hc hm0k];obtain⟨p,hp,k⟩:=(n5 hc hn).1 (by unfold mB;rw[h1,h2];rfl);exact⟨p,hp,nO hs.symm k⟩
  have key: ∀d:ar,bu d->(∀p,bm d p->bm c p/\n.value p≠0)->pI K d+1<=pI K c:=fun d hd h=>by
   unfold pI;refine yx (m0:=m0) (d:=1) (fun m hm=>?_) hm0 ?_
   .have hmk:=hK m hm
    cases e1:mB d m with
    |false=>exact bJ _
    |true=>
     obtain⟨p,hp,k⟩:=(n5 hd hmk).1 e1;rw[(n5 hc hmk).2 ⟨p,(h p hp).1,k⟩];exact bW _
   .have e1:mB d m0=false:=by
     rw[<-jU,n5 hd hm0k];rintro ⟨p,hp,k⟩;exact(h p hp).2 (nO hs k)
    try dsimp only
    rw[e1,n2];decide
  have d1:=key _ g1 fun p hp=>⟨((i1 p).1 hp).1,by have:=((i1 p).1 hp).2;grind⟩;have d2:=key _ g2 fun p hp=>⟨((i2 p).1 hp).1,by have:=((i2 p).1 hp).2;rw[en] at this;grind⟩;show 1+max _ _<=_;omega
def Zz(hK: ∀m∈K,m.ok)(h:t.Prp c)(ht:t.all aa.ok)(hc:bu c)(hA:eG K t):t.depth<=K.length:=by
 have h1:=I6 hK h ht hc hA;have h2:pI K c<=K.length*1:=wz fun m _=>HB _;omega
structure oI (K:List aa) (t:Tr):Prop where
 ok:t.all aa.ok
 am:eG K t
 rd:t.Red []
def oI.size{K:List aa}(hK: ∀m∈K,m.ok){t:Tr}(h:oI K t):2*t.size<=K.length*(K.length+1)/\t.depth<=K.length:=
 ⟨Nr hK (Tr.red_prp h.rd) h.ok bu.nil h.am,Zz hK (Tr.red_prp h.rd) h.ok bu.nil h.am⟩
def oI.merge{K:List aa}{op:Int}{t u:Tr}(h:oI K t)(hu:u.all aa.ok)(hA:eG K u):oI K (t.mergeQ op u []):=
 ⟨Tr.mergeQ_all aa.ok op hu t [] h.ok,h.am.merge hA [],Tr.merge_red op u t []⟩
def oI.lim(hK: ∀m∈K,m.ok)(hn:K.length<=361)(h:oI K t)(hu:u.all aa.ok)(hA:eG K u)(hd:u.depth<=600):hH op t u=some (t.mergeQ op u []):=by
 obtain⟨a1,a2⟩:=h.size hK;obtain⟨b1,_⟩:=(h.merge (op:=op) hu hA).size hK;have:K.length*(K.length+1)<=361*362:=fJ hn (by omega);exact IG (op:=op) (a:=t) (b:=u) (by omega) (by omega)
def RG{K:List aa}(hK: ∀m∈K,m.ok)(hn:K.length<=361){op:Int}: ∀{us:List Tr} {t:Tr},(∀u∈us,u.all aa.ok/\eG K u/\u.depth<=600)->oI K t->m8 op t us=some (us.foldl (fun t u=>t.mergeQ op u []) t)/\oI K (us.foldl (fun t u=>t.mergeQ op u []) t)
 |[],t,_,ht=>⟨J,ht⟩
 |u::us,t,h,ht=>by
  obtain⟨h1,h2,h3⟩:=h u aQ;obtain⟨i1,i2⟩:=RG hK hn (op:=op) (us:=us) (fun v hv=>h v (aJ _ hv)) (ht.merge (op:=op) h1 h2);refine⟨?_,i2⟩;rw[m8,ht.lim hK hn h1 h2 h3];exact i1
def oe(V:List ah)(E:List (ah×ah))(K:List aa)(cs:List ar):List aa:=(K.flatMap fun l=>[jx l V,jx l.rev V])++cs.flatMap fun c=>E.filterMap (lv c)
def JB{α β:Type}{f:α->List β}{n:Nat}: ∀{l:List α},(∀x∈l,(f x).length<=n)->(l.flatMap f).length<=l.length*n
 |[],_=>by simp
 |x::l,h=>by
  have:=JB (f:=f) (n:=n) (l:=l) fun y hy=>h y (aJ _ hy);have:=h x aQ;rw[lS,aY,bQ,fS];omega
def NB{E:List (ah×ah)}{cs:List ar}:(oe V E K cs).length<=K.length*2+cs.length*E.length:=by
 unfold oe;rw[aY];have h1:=JB (f:=fun l=>[jx l V,jx l.rev V]) (n:=2) (l:=K) fun x _=>bW _;have h2:=JB (f:=fun c=>E.filterMap (lv c)) (n:=E.length) (l:=cs) fun x _=>mX _ _;omega
def Dr{E:List (ah×ah)}(hB:gD V E)(hK: ∀l∈K,l.ok){cs:List ar}: ∀l∈oe V E K cs,l.ok:=fun l hl=>by
 rcases aM.1 hl with h|h
 .obtain⟨k,hk,h⟩:=iX.1 h
  simp only[aK,dT,or_false] at h;rcases h with rfl|rfl
  .exact(BJ (hK k hk) V).1
  .exact(BJ (hK k hk).rev V).1
 .obtain⟨c,_,h⟩:=iX.1 h
  obtain⟨f,hf,h⟩:=jS.1 h;obtain⟨_,_,h1,_⟩:=Cm (hB.nz hf) h;exact h1
def YX{E:List (ah×ah)}{cs:List ar}(hc:c∈cs)(hs: ∀s∈c,∃m∈K,m.same s.l): ∀l∈jd c V E,l∈oe V E K cs:=fun l hl=>by
 unfold jd at hl;rcases aM.1 hl with h|h
 .obtain⟨s,hs',rfl⟩:=aR.1 h
  obtain⟨m,hm,k⟩:=hs s hs';refine bV _ (iX.2 ⟨m,hm,?_⟩);rcases k with k|k<;>rw[k]<;>simp
 .exact bZ _ (iX.2 ⟨c,hc,h⟩)
def WT{L:List aa}: ∀l∈ij L,l∈L:=fun _ h=>(td.1 h).1
def Gz{E:List (ah×ah)}{P:aa->Prop}(h: ∀l∈jd c V E,P l):(eu V E c).all P:=Or fun l hl=>h l (WT l hl)
def Yb{E:List (ah×ah)}:(jd c V E).length<=c.length+E.length:=by
 unfold jd;rw[aY,aX];have:=mX (lv c) E;omega
def XB{E:List (ah×ah)}:(eu V E c).depth<=c.length+E.length:=by
 unfold eu;rw[Po];exact cS (Ai _) Yb
def Xg(hA:eG K t)(hc:c∈de t): ∀s∈c,∃m∈K,m.same s.l:=
 wk (P:=fun l=> ∃m∈K,m.same l) (fun l ⟨m,hm,h⟩=>⟨m,hm,h.trans (.inr J)⟩) hA (fun s hs=>by cases hs) (q9.1 hc)
def N5{E:List (ah×ah)}(hB:gD V E)(ht:t.all aa.ok)(hK: ∀l∈K,l.ok)(hA:eG K t)(hs: ∀c∈de (t.restrict []),c.length+E.length<=600)(hn:(oe V E K (de (t.restrict []))).length<=361:=by omega):
  m8 1 (Tr.leaf false) ((de (t.restrict [])).map (eu V E))=some (dB V E t)/\oI (oe V E K (de (t.restrict []))) (dB V E t):=by
 have h:=RG (K:=oe V E K (de (t.restrict []))) (Dr hB hK) hn (op:=1) (us:=(de (t.restrict [])).map (eu V E)) (t:= .leaf false) (fun u hu=>by
  obtain⟨c,hc,rfl⟩:=aR.1 hu;obtain⟨g1,g2⟩:=t7 ht c hc;exact⟨EB hB g1 g2,Gz fun l hl=>⟨l,YX hc (Xg (hA.restrict []) hc) l hl, .inl J⟩,cS XB (hs c hc)⟩) ⟨trivial,trivial,trivial⟩
 rw[List.foldl_map] at h;exact h
def ZB(p:ah):Prop:= ∃m n:Int,p=iP m n/\m.natAbs<=8/\n.natAbs<=8
def QD(k:Nat)(q:ah):Prop:= ∃(D:Nat) (X Y:Int),0<D/\D<=2^k/\X.natAbs<=2^k/\Y.natAbs<=2^k/\q.x*((D:Int):Rat)=(X:Rat)/\q.y*((D:Int):Rat)=(Y:Rat)
def Ko(x y z:Int):dH (x:Rat) (y:Rat) (z:Rat)=nD x y z:=by
 unfold dH;simp only[nY,nU];simp
def im{a:Int}(ha:a.natAbs<=A)(hb:b.natAbs<=B):(a*b).natAbs<=A*B:=by
 rw[fW];exact fJ ha hb
def Gf{a c:Int}{k:Nat}(ha:a.natAbs<2^k)(hb:b.natAbs<2^k)(hc:c.natAbs<2^k)(hd:d.natAbs<2^k):(a*b-c*d).natAbs<=2^(2*k+1):=by
 have h1:=im (gJ ha) (gJ hb);have h2:=im (gJ hc) (gJ hd);have e:2^(2*k+1)=2^k*2^k+2^k*2^k:=by rw[gR,Nat.two_mul,fX];omega
 generalize a*b=u at*;generalize c*d=v at*;generalize 2^k*2^k=w at*;omega
def Ro{k:Nat}{q:ah}(h0:D≠0)(hD:D.natAbs<=2^k)(hX:X.natAbs<=2^k)(hY:Y.natAbs<=2^k)(e1:q.x*(D:Rat)=(X:Rat))(e2:q.y*(D:Rat)=(Y:Rat)):QD k q:=by
 rcases Int.lt_or_lt_of_ne h0 with h|h
 .refine⟨D.natAbs, -X, -Y,by omega,hD,by omega,by omega,?_,?_⟩
  .rw[show((D.natAbs:Int))= -D by omega,jJ,jJ];grind
  .rw[show((D.natAbs:Int))= -D by omega,jJ,jJ];grind
 .refine⟨D.natAbs,X,Y,by omega,hD,hX,hY,?_,?_⟩
  .rw[show((D.natAbs:Int))=D by omega];exact e1
  .rw[show((D.natAbs:Int))=D by omega];exact e2
def KD{l m:aa}{k:Nat}(hl:BL l k)(hm:BL m k)(h:crossI l m≠0):QD (2*k+1) (c7 l m):=by
 have h':((crossI l m:Int):Rat)≠0:=fun e=>h (cW.1 e);refine Ro (D:=crossI l m) (X:=meetX l m) (Y:=meetY l m) h (Gf hl.a hm.b hm.a hl.b) ?_ ?_ ?_ ?_
 .unfold meetX;exact Gf hl.b hm.c hm.b hl.c
 .unfold meetY;exact Gf hm.a hl.c hl.a hm.c
 .unfold c7;rw[if_neg h];exact qN h'
 .unfold c7;rw[if_neg h];exact qN h'
def Lg{l:aa}{k:Nat}(hl:BL l k)(h:l.ok):QD (2*k+1) l.base:=by
 have hn:=mf h.ne;have e:l.nor.dot l.nor=((l.a*l.a+l.b*l.b:Int):Rat):=by
  unfold aa.nor ah.dot;rw[lZ,bM,bM]
 have hz:l.nor.dot l.nor≠0:=by grind
 have h0:l.a*l.a+l.b*l.b≠0:=fun k=>hz (by rw[e,k];rfl);have e4:(2:Nat)^(2*k+1)=2^k*2^k+2^k*2^k:=by rw[gR,Nat.two_mul,fX];omega
 have q1:=im (gJ hl.a) (gJ hl.a);have q2:=im (gJ hl.b) (gJ hl.b);have q3:=im (gJ hl.a) (gJ hl.c);have q4:=im (gJ hl.b) (gJ hl.c);refine Ro (D:=l.a*l.a+l.b*l.b) (X:= -(l.a*l.c)) (Y:= -(l.b*l.c)) h0 (by omega) (by omega) (by omega) ?_ ?_
 .rw[<-e]
  show(l.a:Rat)*(-(l.c:Rat)/l.nor.dot l.nor)*l.nor.dot l.nor=_;rw[Rat.mul_assoc,qN hz,jJ,bM];grind
 .rw[<-e]
  show(l.b:Rat)*(-(l.c:Rat)/l.nor.dot l.nor)*l.nor.dot l.nor=_;rw[Rat.mul_assoc,qN hz,jJ,bM];grind
def Le{L:List aa}{q:ah}(h:q∈jj L): ∃l∈L,∃m∈L,crossI l m≠0/\q=c7 l m:=by
 obtain⟨i,hi,h⟩:=iX.1 h;rw[kV] at hi;obtain⟨l,hl⟩: ∃l,L[i]? =some l:=⟨_,aZ hi⟩;obtain⟨m,hm⟩: ∃m,L[(i+1)%L.length]? =some m:=⟨_,aZ (dK _ (by omega))⟩;rw[vx hl hm] at h;split at h
 .rename_i hc
  refine⟨l,aV hl,m,aV hm,fun e=>?_,by simpa using h⟩;have h2:l.dir.cross m.dir=0:=by
   have:=tk l m;rw[e] at this;unfold ah.cross aa.dir;dsimp only;have z:((0:Int):Rat)=0:=J;rw[z] at this;grind
  rw[h2] at hc;exact absurd hc (by decide)
 .cases h
def aBO{k:Nat}(hc:bu c)(ha:gg c)(hk: ∀s∈c,BL s.l k){f:ah×ah}(hn: ¬((bD f).x=0/\(bD f).y=0))(h1:ZB f.1)(h2:ZB f.2){l:aa}(h:lv c f=some l):BL l (2*k+10):=by
 unfold lv at h
 cases hf:gz c (bD f) with
 |none=>rw[hf] at h;cases h
 |some m=>
  rw[hf] at h
  cases h
  obtain⟨e1,e2⟩:=QJ hc ha hn hf;obtain⟨q,hq,e3⟩:=(qo (n:=bD f) e2).2;rw[e1] at e3;have hqd:QD (2*k+1) q:=by
   unfold x8 at hq;split at hq
   .obtain⟨l,hl,rfl⟩:=aR.1 hq
    obtain⟨s,hs,rfl⟩:=aR.1 hl;exact Lg (hk s hs) (hc.ok s hs)
   .obtain⟨l,hl,m,hm,hx,rfl⟩:=Le hq
    obtain⟨s,hs,rfl⟩:=aR.1 hl;obtain⟨u,hu,rfl⟩:=aR.1 hm;exact KD (hk s hs) (hk u hu) hx
  obtain⟨D,X,Y,hD0,hD,hX,hY,x1,y1⟩:=hqd;obtain⟨m1,n1,p1,a1,a2⟩:=h1;obtain⟨m2,n2,p2,a3,a4⟩:=h2;have nx:(bD f).x=((n1-n2:Int):Rat):=by unfold bD;rw[p1,p2];unfold iP;rw[iJ];grind
  have ny:(bD f).y=((m2-m1:Int):Rat):=by unfold bD;rw[p1,p2];unfold iP;rw[iJ]
  generalize hA:n1-n2=A at nx;generalize hB:m2-m1=B at ny;have hD0':(0:Rat)<((D:Int):Rat):=by exact_mod_cast hD0
  have key:dH (bD f).x (bD f).y (-(m+(bD f).dot f.1))=nD (A*D) (B*D) (-(A*X+B*Y+(A*m1+B*n1)*D)):=by
   rw[<-Ko];refine(YA (fun uv=>?_) hn hD0' fun p=>?_).symm
   .obtain⟨u,v⟩:=uv
    rw[bM,<-nx] at u;rw[bM,<-ny] at v;refine hn ⟨?_,?_⟩
    .rcases fZ.1 u with u|u
     .exact u
     .grind
    .rcases fZ.1 v with v|v
     .exact v
     .grind
   .rw[e3,p1]
    unfold ah.dot iP;dsimp only;rw[nx,ny];simp only[bM,jJ,lZ];rw[<-x1,<-y1];grind
  show BL (dH (bD f).x (bD f).y (-(m+(bD f).dot f.1))) _;rw[key];have hA16:A.natAbs<=16:=by omega
  have hB16:B.natAbs<=16:=by omega
  have b0:(D:Int).natAbs<=2^(2*k+1):=hD;have b1:=im hA16 b0;have b2:=im hB16 b0;have b3:=im hA16 hX;have b4:=im hB16 hY;have b5:(A*m1+B*n1).natAbs<=256:=by
   have:=im hA16 a1;have:=im hB16 a2;omega
  have b6:=im b5 b0;obtain⟨r1,r2,r3⟩:=zo (A*D) (B*D) (-(A*X+B*Y+(A*m1+B*n1)*D));have e9:2^(2*k+10)=2^(2*k+1)*512:=by rw[show 2*k+10=2*k+1+9 by omega,fX]
  have w0:0<2^(2*k+1):=fN (by decide);generalize 2^(2*k+1)=w at*;exact⟨by omega,by omega,by omega⟩
def Y1{k:Nat}{l:aa}(hl:l.ok)(hk:BL l k)(hV:V≠[])(hz: ∀v∈V,ZB v):BL (jx l V) (2*k+10):=by
 obtain⟨v,hv,e⟩:=(qo (n:=l.nor) hV).2;obtain⟨m,n,rfl,h1,h2⟩:=hz v hv;unfold jx;have e2:(l.c:Rat)-jm l.nor V=((l.c-(l.a*m+l.b*n):Int):Rat):=by
  rw[e];unfold ah.dot aa.nor iP;rw[iJ,lZ,bM,bM]
 rw[e2,Ko];obtain⟨r1,r2,r3⟩:=zo l.a l.b (l.c-(l.a*m+l.b*n));have b1:=im (gJ hk.a) h1;have b2:=im (gJ hk.b) h2;have ka:=hk.a;have kb:=hk.b;have kc:=hk.c;have e9:2^(2*k+10)=2^k*(2^k*1024):=by rw[show 2*k+10=k+(k+10) by omega,fX,fX]
 have w1:1<=2^k:=fN (by decide);have e10:2^k*1024<=2^k*(2^k*1024):=by rw[<-cV];exact bT _ (mK _ w1)
 generalize 2^k*(2^k*1024)=z at*;generalize 2^k=w at*;exact⟨by omega,by omega,by omega⟩
def BL.mono{l:aa}{k:Nat}(h:BL l j)(hk:j<=k):BL l k:=by
 have:=bR (n:=2) (by decide) hk;exact⟨dZ h.a this,dZ h.b this,dZ h.c this⟩
def BL.rev{l:aa}{k:Nat}(h:BL l k):BL l.rev k:=⟨by unfold aa.rev;dsimp only;rw[jW];exact h.a,by unfold aa.rev;dsimp only;rw[jW];exact h.b,by unfold aa.rev;dsimp only;rw[jW];exact h.c⟩
def I1{k:Nat}{E:List (ah×ah)}(hB:gD V E)(hz: ∀v∈V,ZB v)(hc:bu c)(ha:gg c)(hk: ∀s∈c,BL s.l k): ∀l∈jd c V E,BL l (2*k+10):=fun l hl=>by
 rcases aM.1 hl with h|h
 .obtain⟨s,hs,rfl⟩:=aR.1 h
  exact Y1 (hc.ok s hs) (hk s hs) hB.vne hz
 .obtain⟨f,hf,h⟩:=jS.1 h
  exact aBO hc ha hk (hB.nz hf) (hz _ (hB.ends f hf).1) (hz _ (hB.ends f hf).2) h
def K5{k:Nat}{E:List (ah×ah)}(hB:gD V E)(hz: ∀v∈V,ZB v)(ht:t.all aa.ok)(hk:t.all fun l=>BL l k):(dB V E t).all fun l=>BL l (2*k+10):=by
 unfold dB;have hb: ∀c∈de (t.restrict []),(eu V E c).all fun l=>BL l (2*k+10):=fun c hc=>by
  obtain⟨g1,g2⟩:=t7 ht c hc;exact Gz (I1 hB hz g1 g2 (wk (P:=fun l=>BL l k) (fun l h=>h.rev) (t.restrict_all _ [] hk) (fun s hs=>by cases hs) (q9.1 hc)))
 have key: ∀(cs:List ar) (u:Tr),(∀c∈cs,(eu V E c).all fun l=>BL l (2*k+10))->(u.all fun l=>BL l (2*k+10))->(tH V E cs u).all fun l=>BL l (2*k+10):=fun cs=>by
  induction cs with
  |nil=>intro u _ hu;exact hu
  |cons c cs ih=>
   intro u h hu;exact ih _ (fun d hd=>h d (aJ _ hd)) (Tr.mergeQ_all _ 1 (h c aQ) u [] hu)
 exact key _ _ hb trivial
section
end
def SH(p u v:ZP):bF p.q (jH p u).q (jH p v).q=((jr u v:Int):Rat):=by
 unfold bF jH jr ZP.q iP;dsimp only;push_cast;grind
def vh(p:Nat->Bool):Nat->Nat->Nat->Nat
 |0,i,_=>i
 |d+1,i,j=>if i<j then(if p ((i+j)/2) then vh p d ((i+j)/2+1) j else vh p d i ((i+j)/2)) else i
def JX(p:Nat->Bool): ∀(d i j:Nat),j-i<=d->fy p i j=vh p d i j
 |0,i,j,h=>by
  rw[fy,vh,dif_neg (by omega)]
 |d+1,i,j,h=>by
  rw[fy,vh];by_cases k:i<j
  .rw[dif_pos k,if_pos k]
   split
   .exact JX p d _ _ (by omega)
   .exact JX p d _ _ (by omega)
  .rw[dif_neg k,if_neg k]
def He(c:ar)(l:aa)(v:ao):ar:=c.take (vh (iO c l) c.length 0 c.length)++⟨l,v⟩::c.drop (vh (iO c l) c.length 0 c.length)
def xh(c:ar)(l:aa):ar:=match jC c l with
 |some v=>He (dC l c) l v
 |none=>c
def Ey(c:ar)(l:aa):bz c l=xh c l:=by
 unfold bz xh
 cases h:jC c l with
 |none=>rfl
 |some v=>
  show kO (dC l c) l v=He (dC l c) l v;unfold kO He;rw[JX _ (dC l c).length _ _ (by omega)]
def Tr.restrictF:Tr->ar->Tr
 | .leaf b,_=> .leaf b
 | .node l x y,c=>if !cg c l.rev then x.restrictF c else if !cg c l then y.restrictF c else joinQ l (x.restrictF (xh c l)) (y.restrictF (xh c l.rev))
def Tr.restrict_F: ∀(t:Tr) (c:ar),t.restrict c=t.restrictF c
 | .leaf _,_=>rfl
 | .node l x y,c=>by
  rw[Tr.restrict,Tr.restrictF,x.restrict_F c,y.restrict_F c,Ey,Ey,x.restrict_F,y.restrict_F]
def tG:List ZP:=[(0,0),(3,0),(3,1),(1,1),(1,3),(0,3)]
def axe:(fq [tG] 2).size<=9:=by
 unfold fq;rw[Tr.restrict_F];decide+kernel
def Lu:eg tG:=⟨by decide,by decide,fun p hp=>by
  simp only[tG,aK,dT,or_false] at hp;rcases hp with rfl|rfl|rfl|rfl|rfl|rfl<;>exact⟨by decide,by decide⟩,fun i hi=>by
  have:i=0\/i=1\/i=2\/i=3\/i=4\/i=5:=by simp[tG] at hi;omega
  rcases this with rfl|rfl|rfl|rfl|rfl|rfl<;>decide⟩
def ta(v:List ah)(k i:Nat):Bool:=decide (i=k)||(decide (i=(k+1)%v.length)||decide (0<bF (v.getD k ⟨0,0⟩) (v.getD ((k+1)%v.length) ⟨0,0⟩) (v.getD i ⟨0,0⟩)))
def kH(v:List ah):Bool:=(List.range v.length).all fun k=>(List.range v.length).all fun i=>ta v k i
def KH:kH v=true↔ ∀k<v.length,∀i<v.length,ta v k i=true:=by
 unfold kH;simp only[dJ,kV]
def YS{k:Nat}(hk:k<v.length)(hi:i<v.length)(h:ta v k i=false):kH v=false:=by
 rw[<-jU,KH];exact fun f=>by rw[f k hk i hi] at h;cases h
def aHC{k:Nat}{w:ah}(h1:v[k]? =some q1)(h2:v[(k+1)%v.length]? =some q2)(h3:v[i]? =some w):ta v k i=(decide (i=k)||(decide (i=(k+1)%v.length)||decide (0<bF q1 q2 w))):=by
 unfold ta;rw[aW,aW,aW,h1,h2,h3];rfl
structure mD (V:List ah):Prop where
 br:gD V (bC V)
 zb: ∀v∈V,ZB v
 le:V.length<=4
def aGM(a b c:ah):bC [a,b,c]=[(a,b),(b,c),(c,a)]:=by unfold bC;simp[qL]
def aGB(a b c d:ah):bC [a,b,c,d]=[(a,b),(b,c),(c,d),(d,a)]:=by unfold bC;simp[qL]
def Sb(a b c:ah):bF b c a=bF a b c:=by unfold bF;grind
def X7{a b c:ah}(h:0<bF a b c):kH [a,b,c]=true:=by
 have h1:=Sb a b c;have h2:=Sb b c a;simp[kH,ta,qL,h1,h2,h]
def aIy{a b c d:Rat}(h1:a<c)(h2:b<d):kH [⟨a,b⟩,⟨c,b⟩,⟨c,d⟩,⟨a,d⟩]=true:=by
 have k:=Rat.mul_pos (show(0:Rat)<c-a by grind) (show(0:Rat)<d-b by grind);have o1:0<bF ⟨a,b⟩ ⟨c,b⟩ ⟨c,d⟩:=by unfold bF;dsimp only;grind
 have o2:0<bF ⟨a,b⟩ ⟨c,b⟩ ⟨a,d⟩:=by unfold bF;dsimp only;grind
 have o3:0<bF ⟨c,b⟩ ⟨c,d⟩ ⟨a,b⟩:=by unfold bF;dsimp only;grind
 have o4:0<bF ⟨c,b⟩ ⟨c,d⟩ ⟨a,d⟩:=by unfold bF;dsimp only;grind
 have o5:0<bF ⟨c,d⟩ ⟨a,d⟩ ⟨a,b⟩:=by unfold bF;dsimp only;grind
 have o6:0<bF ⟨c,d⟩ ⟨a,d⟩ ⟨c,b⟩:=by unfold bF;dsimp only;grind
 have o7:0<bF ⟨a,d⟩ ⟨a,b⟩ ⟨c,b⟩:=by unfold bF;dsimp only;grind
 have o8:0<bF ⟨a,d⟩ ⟨a,b⟩ ⟨c,d⟩:=by unfold bF;dsimp only;grind
 simp[kH,ta,qL,o1,o2,o3,o4,o5,o6,o7,o8]
def Hd{p:ZP}(h:p.1.natAbs<=8/\p.2.natAbs<=8):ZB p.q:=⟨p.1,p.2,J,h⟩
def Ok{a b c:ZP}(h:0<bF a.q b.q c.q)(ha:a.1.natAbs<=8/\a.2.natAbs<=8)(hb:b.1.natAbs<=8/\b.2.natAbs<=8)(hc:c.1.natAbs<=8/\c.2.natAbs<=8):mD ([a,b,c].map ZP.q)/\kH ([a,b,c].map ZP.q)=true:=by
 refine⟨⟨?_,fun v hv=>?_,by simp⟩,X7 h⟩
 .show gD [a.q,b.q,c.q] (bC [a.q,b.q,c.q])
  rw[aGM];exact Tg h
 .simp only[bY,gN,aK,dT,or_false] at hv
  rcases hv with rfl|rfl|rfl
  .exact Hd ha
  .exact Hd hb
  .exact Hd hc
def NS{a c:Int}(h1:a<c:=by decide)(h2:b<d:=by decide)(ha:a.natAbs<=8:=by decide)(hb:b.natAbs<=8:=by decide)(hc:c.natAbs<=8:=by decide)(hd:d.natAbs<=8:=by decide):mD ((dO a b c d).map ZP.q)/\kH ((dO a b c d).map ZP.q)=true:=by
 have e:(dO a b c d).map ZP.q=[⟨(a:Rat),(b:Rat)⟩,⟨(c:Rat),(b:Rat)⟩,⟨(c:Rat),(d:Rat)⟩,⟨(a:Rat),(d:Rat)⟩]:=J;have q1:(a:Rat)<(c:Rat):=by exact_mod_cast h1
 have q2:(b:Rat)<(d:Rat):=by exact_mod_cast h2
 rw[e];refine⟨⟨?_,fun v hv=>?_,by simp⟩,aIy q1 q2⟩
 .rw[aGB];exact WA q1 q2
 .simp only[aK,dT,or_false] at hv
  rcases hv with rfl|rfl|rfl|rfl
  .exact⟨a,b,J,ha,hb⟩
  .exact⟨c,b,J,hc,hb⟩
  .exact⟨c,d,J,hc,hd⟩
  .exact⟨a,d,J,ha,hd⟩
def Vf(ha:a<=es.length):mD ((f8 es a).1.map ZP.q)/\kH ((f8 es a).1.map ZP.q)=true:=by
 have h0:=gO (n:=2) ha;unfold f8;dsimp only;split
 .unfold yw
  dsimp only;generalize (au es 2 a).2=k at*;have e1:=dx (es:=es) (n:=3) (a:=k);generalize au es 3 k=x at*;have e2:=dx (es:=es) (n:=3) (a:=x.2);generalize au es 3 x.2=y at*;have e3:=dx (es:=es) (n:=2) (a:=y.2);generalize au es 2 y.2=z at*;have e4:=dx (es:=es) (n:=2) (a:=z.2);generalize au es 2 z.2=w at*;exact NS (by omega) (by omega) (by omega) (by omega) (by omega) (by omega)
 .generalize (au es 2 a).2=k at*
  have e1:=dx (es:=es) (n:=3) (a:=k);generalize au es 3 k=x at*;have e2:=dx (es:=es) (n:=3) (a:=x.2);generalize au es 3 x.2=y at*;have e3:=dx (es:=es) (n:=2) (a:=y.2);generalize au es 2 y.2=u1 at*;have e4:=dx (es:=es) (n:=3) (a:=u1.2);generalize au es 3 u1.2=u2 at*;have e5:=dx (es:=es) (n:=3) (a:=u2.2);generalize au es 3 u2.2=v1 at*;have e6:=dx (es:=es) (n:=2) (a:=v1.2);generalize au es 2 v1.2=v2 at*;split
  .rename_i hcr
   have:=SH ((x.1:Int)-1,(y.1:Int)-1) (1+(u1.1:Int),(u2.1:Int)-1) ((v1.1:Int)-1,1+(v2.1:Int));exact Ok (by rw[this];exact_mod_cast hcr) ⟨by dsimp only;omega,by dsimp only;omega⟩ ⟨by unfold jH;dsimp only;omega,by unfold jH;dsimp only;omega⟩ ⟨by unfold jH;dsimp only;omega,by unfold jH;dsimp only;omega⟩
  .exact Ok (by decide+kernel) ⟨by decide,by decide⟩ ⟨by decide,by decide⟩ ⟨by decide,by decide⟩
def jG(es:List Int)(a:Nat):Tr×Nat:=
 let k:=au es 4 a
 if(k.1:Int)=0 then(zg (lF es k.2).1,(lF es k.2).2)
 else if(k.1:Int)=1 then(fq [(f8 es k.2).1] 2,(f8 es k.2).2)
 else if(k.1:Int)=2 then((fq [(f8 es k.2).1] 2).compl,(f8 es k.2).2)
 else(fq [tG] 2,k.2)
def NL{v w:ZP}(h1:v.1.natAbs<=8)(h2:v.2.natAbs<=8)(h3:(w.1-v.1).natAbs<=8)(h4:(w.2-v.2).natAbs<=7):BL (mP v.1 v.2 w.1 w.2) 8:=by
 obtain⟨r1,r2,r3⟩:=zo (lx v.2 w.2) (lz v.1 w.1) (te v.1 v.2 w.1 w.2);have b1:(lx v.2 w.2*v.1).natAbs<=7*8:=im (by unfold lx;omega) h1;have b2:(lz v.1 w.1*v.2).natAbs<=8*8:=im (by unfold lz;omega) h2;have b3:(lx v.2 w.2).natAbs<=7:=by unfold lx;omega
 have b4:(lz v.1 w.1).natAbs<=8:=by unfold lz;omega
 have b5:(te v.1 v.2 w.1 w.2).natAbs<=120:=by
  show(-(lx v.2 w.2*v.1+lz v.1 w.1*v.2)).natAbs<=120;omega
 exact⟨fK r1 (by omega),fK r2 (by omega),fK r3 (by omega)⟩
def ZV(hr:eg r)(h: ∀p∈r,p.1.natAbs<=3/\p.2.natAbs<=3)(fill:Int):(fq [r] fill).all fun l=>BL l 8:=by
 unfold fq sB;refine Tr.restrict_all _ _ [] (wv fun f hf=>?_);unfold ir at hf;rw[lS,List.flatMap_nil,fL] at hf;have key: ∀n,n<=r.length-> ∀f∈pi r n,BL f.l 8:=fun n=>by
  induction n with
  |zero=>intro _ f hf;cases hf
  |succ n ih=>
   intro hn f hf;rw[pi] at hf;rcases aM.1 hf with hf|hf
   .exact ih (by omega) f hf
   .rw[aU.1 hf]
    have a1:=h _ (tN (r:=r) (i:=n));have a2:=h _ (yk (r:=r) (i:=n));exact NL (by omega) (by omega) (by omega) (by omega)
 exact key _ (bW _) f hf
structure ip (t:Tr):Prop where
 x:fA 18 t
 rd:t.Red []
 bl:t.all fun l=>BL l 8
 dp:t.depth<=6
 k: ∃K:List aa,K.length*2+4*(t.size+1)<=52/\K.length<=6/\(∀l∈K,l.ok)/\eG K t
def ip.compl{t:Tr}(h:ip t):ip t.compl:=by
 obtain⟨K,h1,h2,h3,h4⟩:=h.k;exact⟨h.x.compl,Tr.compl_red h.rd,t.compl_all _ h.bl,by rw[t.compl_depth];exact h.dp,K,by rw[t.compl_size];exact h1,h2,h3,h4.compl⟩
def IK(hr:eg r)(h: ∀p∈r,p.1.natAbs<=3/\p.2.natAbs<=3)(hn:r.length*2+4*((fq [r] 2).size+1)<=52):ip (fq [r] 2):=by
 have ho:=H2 (rs:=[r]) (fill:=2) (fun q hq=>by rw[aU.1 hq];exact hr) (by simp);obtain⟨e1,e2⟩:=AW hr;have hR:sB [r] 2=jq (mj [r] 2) r.length (jO r) []:=by
  unfold sB ir;rw[lS,List.flatMap_nil,fL,e1]
 have hro:fP r.length (fq [r] 2):=by
  unfold fq;rw[hR];exact(CA (acc:=mj [r] 2) e2 e1).restrict []
 have h6:=hr.n6;obtain⟨K,k1,k2,k3⟩:=hro.am;exact⟨ho.x (Cc _ _) (by decide),Cc _ _,ZV hr h 2,cS hro.dp h6,K,by omega,by omega,k2,k3⟩
def KZ(hr:eg r)(hn:r.length<=4):(fq [r] 2).size<=10:=by
 obtain⟨e1,e2⟩:=AW hr;have hR:sB [r] 2=jq (mj [r] 2) r.length (jO r) []:=by
  unfold sB ir;rw[lS,List.flatMap_nil,fL,e1]
 have hro:fP r.length (fq [r] 2):=by
  unfold fq;rw[hR];exact(CA (acc:=mj [r] 2) e2 e1).restrict []
 obtain⟨K,k1,k2,k3⟩:=hro.am;have:=Nr k2 (Tr.red_prp (Cc [r] 2)) hro.gd.ok bu.nil k3;have h4:K.length*(K.length+1)<=4*5:=fJ (by omega) (by omega);omega
def S2(ha:a<=es.length):(∀p∈(f8 es a).1,p.1.natAbs<=3/\p.2.natAbs<=3)/\(f8 es a).1.length<=4:=by
 have h0:=gO (n:=2) ha;unfold f8;dsimp only;split
 .unfold yw
  dsimp only;generalize (au es 2 a).2=k at*;have e1:=dx (es:=es) (n:=3) (a:=k);generalize au es 3 k=x at*;have e2:=dx (es:=es) (n:=3) (a:=x.2);generalize au es 3 x.2=y at*;have e3:=dx (es:=es) (n:=2) (a:=y.2);generalize au es 2 y.2=z at*;have e4:=dx (es:=es) (n:=2) (a:=z.2);generalize au es 2 z.2=w at*;refine⟨fun p hp=>?_,by simp[dO]⟩;simp only[dO,aK,dT,or_false] at hp;rcases hp with rfl|rfl|rfl|rfl<;>exact⟨by dsimp only;omega,by dsimp only;omega⟩
 .generalize (au es 2 a).2=k at*
  have e1:=dx (es:=es) (n:=3) (a:=k);generalize au es 3 k=x at*;have e2:=dx (es:=es) (n:=3) (a:=x.2);generalize au es 3 x.2=y at*;have e3:=dx (es:=es) (n:=2) (a:=y.2);generalize au es 2 y.2=u1 at*;have e4:=dx (es:=es) (n:=3) (a:=u1.2);generalize au es 3 u1.2=u2 at*;have e5:=dx (es:=es) (n:=3) (a:=u2.2);generalize au es 3 u2.2=v1 at*;have e6:=dx (es:=es) (n:=2) (a:=v1.2);generalize au es 2 v1.2=v2 at*;split
  .refine⟨fun p hp=>?_,by simp[ge]⟩
   simp only[ge,jH,aK,dT,or_false] at hp;rcases hp with rfl|rfl|rfl<;>exact⟨by dsimp only;omega,by dsimp only;omega⟩
  .refine⟨fun p hp=>?_,rM J⟩
   simp only[AO,aK,dT,or_false] at hp;rcases hp with rfl|rfl|rfl<;>exact⟨by decide,by decide⟩
def J'(ha:a<=es.length):ip (fq [(f8 es a).1] 2):=by
 obtain⟨h1,h2⟩:=S2 ha;have hr:=(BO ha).1;have:=KZ hr h2;exact IK hr h1 (by omega)
def W8(ha:a<=es.length):BL (lF es a).1 8:=by
 obtain⟨h1,h2,h3⟩:=Ap ha;obtain⟨k1,k2,_,_⟩:=HM h3;unfold lF;dsimp only;exact NL (v:=(pF es a).1) (w:=((pF es a).1.1+1*(vF es (pF es a).2).1.1,(pF es a).1.2+1*(vF es (pF es a).2).1.2)) (by omega) (by omega) (by dsimp only;omega) (by dsimp only;omega)
def U'{l:aa}(h:LS l)(hb:BL l 8):ip (zg l):=by
 have ho:=Zj h;have hr:(zg l).Red []:=Tr.restrict_red _ _;have hs:(zg l).size<=1:=Tr.restrict_size (.node l (.leaf true) (.leaf false)) [];have hd:=(zg l).depth_size;refine⟨ho.x hr (by decide),hr,Tr.restrict_all _ _ [] ⟨hb,trivial,trivial⟩,by omega,[l],by rw[fM];omega,rM J,fun m hm=>by rw[aU.1 hm];exact h.ok,?_⟩;exact eG.restrict (t:= .node l (.leaf true) (.leaf false)) ⟨⟨l,aU.2 J, .inl J⟩,trivial,trivial⟩ []
def LY(ha:a<=es.length):ip (jG es a).1/\(jG es a).2<=es.length:=by
 have h0:=gO (n:=4) ha;unfold jG;dsimp only;split
 .obtain⟨h1,h2⟩:=QC h0
  exact⟨U' h1 (W8 h0),h2⟩
 .split
  .exact⟨J' h0,(BO h0).2⟩
  .split
   .exact⟨(J' h0).compl,(BO h0).2⟩
   .refine⟨IK Lu (fun p hp=>?_) (by have:=axe;simp only[tG,bQ,eY] at*;omega),h0⟩
    simp only[tG,aK,dT,or_false] at hp;rcases hp with rfl|rfl|rfl|rfl|rfl|rfl<;>exact⟨by decide,by decide⟩
def Et(hV:mD V)(h:ip t):m8 1 (Tr.leaf false) ((de (t.restrict [])).map (eu V (bC V)))=some (dB V (bC V) t)/\fA 54 (dB V (bC V) t)/\(dB V (bC V) t).Red []/\(dB V (bC V) t).all (fun l=>BL l 26):=by
 obtain⟨K,h1,h2,h3,h4⟩:=h.k;have hE:(bC V).length<=4:=by unfold bC;rw[aX,lT];exact hV.le
 have ho:=h.x.ok;have hcl:(de (t.restrict [])).length<=t.size+1:=cS (HV _) (Nat.succ_le_succ (t.restrict_size []));have hKl:(oe V (bC V) K (de (t.restrict []))).length<=52:=by
  have:=NB (V:=V) (E:=bC V) (K:=K) (cs:=de (t.restrict []));have:(de (t.restrict [])).length*(bC V).length<=(t.size+1)*4:=fJ hcl hE;omega
 have hs: ∀c∈de (t.restrict []),c.length+(bC V).length<=600:=fun c hc=>by
  have:=EO (t.restrict_all LB [] h.x.lb) (t.restrict_all aa.ok [] ho) c hc;have:=t.restrict_depth [];have:=h.dp;omega
 obtain⟨a1,a2⟩:=N5 hV.br ho h3 h4 hs;have hb:=K5 hV.br hV.zb ho h.bl;obtain⟨b1,b2⟩:=a2.size (Dr hV.br h3);have b3:(oe V (bC V) K (de (t.restrict []))).length*((oe V (bC V) K (de (t.restrict []))).length+1)<=52*53:=fJ hKl (by omega);exact⟨a1,⟨⟨⟨Tr.all_imp (fun l h=>⟨h.mono (by decide)⟩) hb,a2.ok⟩,by omega,_,by omega,Dr hV.br h3,a2.am⟩,by omega⟩,a2.rd,hb⟩
section
variable {own:aG}{lk:LK}{bk:BM}
variable {dst:Option Nat}{t t' ty':TypeId}{pos:String}{af:Array Edge}{gd:Option (Nat×Bool)}{x y:Operand}
end
section
variable {own:aG}{ops:Array Oper}{r:List Oper}{K:List Kt}
end
section
variable (hE:EG GB ai al ae){k:Nat}{a b:Tr}(ha:fA j a)(hb:fA k b)
include hE ha
include hb
end
section
variable (hE:EG GB ai al ae)
include hE
end

def aDw(l:List ah):cA 6 (l.map eZ):=fun d hd=>by
 obtain⟨x,_,rfl⟩:=aR.1 hd;exact⟨J,J⟩
def Wa[h:aI p i](hi:i<=900000000:=by decide):PF GB prog 219 [eZ p] (eZ (gF p)):=by
 refine fn func219 J J ntmps219 J J (fun C=>?_);refine cl J (p9 (q:=p.y) (i:=i) hi) J<|rz J J
def OO[h:BQ q i](hi:i<=400000000:=by decide):PF GB prog 102 [eR q] (eF q):=by
 haveI:BN q.num.natAbs i:=⟨h.hn⟩;haveI:BN q.den i:=⟨h.hd⟩;refine fn func102 J J ntmps102 J J (fun C=>?_);refine cl (fu:=⟨0⟩) J (tC (n:=decide (q.num<0)) (a:=q.num.natAbs) (d:=q.den) (i:=i) (j:=i) (by omega) (by omega)) J<|aj 7 (.d (eF q)) J (by rw[lD,rY])<|gx J<|rz J J
def aDA[h:aI p i](hi:i<=400000000:=by decide):PF GB prog 43 [n7 p] (eZ p):=by
 refine fn func43 J J ntmps43 J J (fun C=>?_);refine cl J (OO (q:=p.x) (i:=i) hi) J<|cl J (OO (q:=p.y) (i:=i) hi) J<|rz J J
def Nt{q:ah}[hp:aI p i][hq:aI q i](hi:i<=1000000:=by decide):PF GB prog 173 [eZ p,eZ q] (vB (decide (p.x=q.x/\p.y=q.y))):=by
 refine fn func173 J J ntmps173 J J (fun C=>?_);refine cl J (Dz (p:=p.x) (q:=q.x) (i:=i) (j:=i) (by omega) (by omega)) J<|csd 10 J J J (fun hg10=>?_) (fun hg10=>?_)
 .
  refine cl J (Dz (p:=p.y) (q:=q.y) (i:=i) (j:=i) (by omega) (by omega)) J<|rz J (by show DV.v (.bool _)= .v (.bool _);simp_all)
 .
  exact rz J (by show DV.v (.bool _)= .v (.bool _);simp_all)
def FM{q:ah}[hp:aI p i][hq:aI q j](hi:i<=10000000:=by decide)(hj:j<=10000000:=by decide):PF GB prog 175 [eZ p,eZ q] (eZ ⟨p.x-q.x,p.y-q.y⟩):=by
 refine fn func175 J J ntmps175 J J (fun C=>?_);refine cl J (pu (p:=p.x) (q:=q.x) (i:=i) (j:=j) (by omega) (by omega)) J<|cl J (pu (p:=p.y) (q:=q.y) (i:=i) (j:=j) (by omega) (by omega)) J<|rz J J
def aG0(h: ¬gj q)(hy:Is G (c9 q) y):y= .pointer none:=by
 unfold c9 at hy;rw[decide_eq_false h] at hy;rcases s7.1 hy with⟨_,e⟩|⟨e,_⟩
 .exact e
 .cases e
def Tm(h: ¬gj q):Is G (c9 q) (.pointer none):=by
 unfold c9;rw[decide_eq_false h];exact s7.2 (.inl ⟨J,J⟩)
def xF(q:Rat):List Value:=[.int .i64 (di q), .int .i64 (dh q), .pointer none]
def aAV{t:List DV}{m:List Value}(h: ¬gj q)(hm:IsLs G (vI (di q)::vI (dh q)::c9 q::t) m): ∃n,m=xF q++n/\IsLs G t n:=by
 obtain⟨y1,m1,rfl,h1,hm1⟩:=bi.1 hm;obtain⟨y2,m2,rfl,h2,hm2⟩:=bi.1 hm1;obtain⟨y3,m3,rfl,h3,hm3⟩:=bi.1 hm2;obtain rfl:=aH.1 h1;obtain rfl:=aH.1 h2;obtain rfl:=aG0 h h3;exact⟨m3,J,hm3⟩
def WM{t:List DV}{n:List Value}(h: ¬gj q)(k:IsLs G t n):IsLs G (vI (di q)::vI (dh q)::c9 q::t) (xF q++n):= .cons (aH.2 J) (.cons (aH.2 J) (.cons (Tm h) k))
def rV(q:Rat):Value:= .agg ⟨xF q⟩
def Yr(h: ¬gj q)(hy:Is G (eF q) y):y=rV q:=by
 obtain⟨m,rfl,hm⟩:=d9.1 hy;obtain⟨n,rfl,hn⟩:=aAV h hm;rw[d8.1 hn];rfl
def aIm(h: ¬gj q):Is G (eF q) (rV q):=d9.2 ⟨_,J,WM h (d8.2 J)⟩

def mG(v:List ah):List (List DV):=(List.range v.length).map fun i=>[vI (i:Nat),IA (v.getD i ⟨0,0⟩) (v.getD ((i+1)%v.length) ⟨0,0⟩)]
def Mt{q:ah}(h1:v[i]? =some p)(h2:v[(i+1)%v.length]? =some q):(mG v)[i]? =some [vI (i:Nat),IA p q]:=by
 have hi:=(aT.1 h1).1;unfold mG;rw[cY,pM hi,lQ,aW,aW,h1,h2];rfl
def I9{e:List DV}(h:(mG v)[i]? =some e): ∃p q,v[i]? =some p/\v[(i+1)%v.length]? =some q/\e=[vI (i:Nat),IA p q]:=by
 have hi:i<v.length:=by
  have:=(aT.1 h).1;unfold mG at this;simpa using this
 have h1:v[i]? =some v[i]:=aZ hi;have hm:(i+1)%v.length<v.length:=dK _ (by omega);have h2:v[(i+1)%v.length]? =some v[(i+1)%v.length]:=aZ hm;refine⟨_,_,h1,h2,?_⟩;rw[Mt h1 h2] at h;exact(Option.some.inj h).symm
def IQ: ∀e∈mG v,e.length=2:=fun e he=>by
 obtain⟨i,_,rfl⟩:=aR.1 he;rfl
def HU(hn:v.length<=100000:=by omega):It GB prog 174 [.pt [.sl (v.map eZ)]] (mG v):=by
 have hml:(v.map eZ).length=v.length:=aX ..;have hrl:(mG v).length=v.length:=by unfold mG;simp
 refine aIi func174 J J ntmps174 J (fun _=>J) (fun l Jv Jx GB' hg H C hp hJ=>?_);refine ptE 1 J<|gx J<|aj 6 (.d (vI (v.length:Nat))) J (by rw[hml]<;>rfl)<|VK (X:=Nat) (fun k=>[(0, .d (.v (.func (.yield l) #[] #[]))),(1, .ep [.sl (v.map eZ)]),(5, .d (.sl (v.map eZ))),(6, .d (vI (v.length:Nat))),(7, .d (vI (k:Nat)))]) (fun k C=>k<=v.length/\Jv k C.G0 C.w0) (fun k=>v.length-k) 0 hp ⟨bJ _,hJ⟩ (fun _=>J) (fun k C1 hp1 hk=>?_);obtain⟨hk1,hJ1⟩:=hk;refine br J J J (fun hc8=>?_) (fun hc8=>?_)
 .obtain⟨p,hpx⟩: ∃u,v[k]? =some u:=⟨_,aZ (by omega)⟩
  obtain⟨q,hqx⟩: ∃u,v[(k+1)%v.length]? =some u:=⟨_,aZ (dK _ (by omega))⟩;refine ix _ J (cO hpx) J<|aj 20 (.d (vI (((k+1)%v.length:Nat):Int))) J (by rw[hml]<;>rfl)<|gx J<|ix _ J (cO hqx) J<|Y3 (len:=2) (s:=6) (e:=103) J (by kernel_rfl) (by kernel_rfl) J<|drT (by kernel_rfl) J ?_;refine cy [(0, .d (.v (.func (.yield l) #[] #[]))),(1, .ep [.sl (v.map eZ)]),(5, .d (.sl (v.map eZ))),(6, .d (vI (v.length:Nat))),(7, .d (vI (k:Nat)))] H hp1 hJ1 J (Mt hpx hqx) J (by repeat (first|exact trivial|refine And.intro J ?_)) J J J (fun C3 hp3 hJ3=>?_) (fun C3 hp3 hJ3=>?_)
  .exact U3 (k+1) hp3 ⟨⟨by omega,hJ3⟩,by omega⟩
  .exact LN H hp3 (.inr hJ3) J
 .obtain rfl:k=v.length:=by omega
  exact LN H hp1 (.inl (by rw[hrl];exact hJ1)) J
def Gj:FP GB prog 103 [.sl (v.map eZ)] 174 (.pt [.sl (v.map eZ)]):=by
 refine UK func103 J J ntmps103 J J (fun C=>?_);refine fz 1 J J<|aGv 1 J (fun GB' pv hg hp=>?_);refine Ve J J<|UW J J hp
def aGs:F2 101:=fun x w=>by kernel_rfl
def Wr(m:List Value):C6 101 (.agg ⟨m⟩) "Mul" 194:=fun w=>by kernel_rfl
def TM(l:List Rat)(k:Nat)(y:Rat):(l.map eF).set k (eF y)=(l.set k y).map eF:=(jR ..).symm
def mm(L:List Rat)(k:Rat)(j:Nat):List Rat:=(L.take j).map (· *k)++L.drop j
def aAu(L:List Rat)(k:Rat)(j:Nat):(mm L k j).length=L.length:=by
 unfold mm;rw[aY,aX,bL,gK];omega
def Va{k a:Rat}(h:L[j]? =some a):(mm L k j)[j]? =some a:=by
 have hj:=(aT.1 h).1;unfold mm;rw[jV (by rw[aX,bL];omega),aX,bL,lN,<-h];congr 1;omega
def Su{k a:Rat}(h:L[j]? =some a):(mm L k j).set j (a*k)=mm L k (j+1):=by
 have hj:=(aT.1 h).1;unfold mm;rw[eK,h,nX _ _ (by rw[aX,bL];omega),aX,bL,show j-min j L.length=0 by omega,bK hj];simp only[oL,bX,bY,gN,List.set_cons_zero,dX,gL,jL]
def Lz{k:Rat}[hk:BQ k i](hL: ∀a∈L,¬gj a)(hb: ∀a∈L,BQ a i)(hn:L.length<=1000)(hi:i<=1000000:=by decide):PB GB prog 274 (fi [some (eF k),none]) 3 101 (L.map eF) (fun w=> .v (.slice w.a w.n w.c)) ((L.map (· *k)).map eF):=by
 have hml:(L.map eF).length=L.length:=aX ..;refine Co (fu:=⟨11⟩) func274 J J ntmps274 J J (fun C=>?_);refine aj 7 (.d (vI (L.length:Nat))) J (by rw[hml]<;>rfl)<|gx J<|lp (X:=Nat) (fun j=>[(8, .d (vI (j:Nat)))]) (fun j=>[(1000000,some (.b 101 3 ((mm L k j).map eF) false))]) (fun j=>j<=L.length) (fun j=>L.length-j) 0 J (bJ _) (fun _=>J) (fun j hk=>?_);have hsl:=aAu L k j;have hsm:((mm L k j).map eF).length=(mm L k j).length:=aX ..;refine br J J J (fun hc9=>?_) (fun hc9=>?_)
 .
  obtain⟨a,hx⟩: ∃u,L[j]? =some u:=⟨_,aZ (by omega)⟩;have ham:=aV hx;haveI:=hb a ham;have hga:(mm L k j)[j]? =some a:=Va hx;refine lb (fu:=⟨0⟩) _ J (cO hga) J<|Vs (fu:=⟨1⟩) (rV a) J aGs (fun G y hy=>Yr (hL a ham) hy) J<|Zf J (Wr _) (PF.arg0 (n8 (p:=a) (q:=k) (i:=i) (j:=i) (by omega) (by omega)) (fun G y h=>by rw[aH.1 h];exact aIm (hL a ham))) J<|sb (hv:=by simp only[ak];exact⟨by kernel_rfl,by omega⟩) _ ((mm L k (j+1)).map eF) J (cO hga) J (by rw[<-Su hx,<-TM]<;>rfl) J<|at_ (j+1) ⟨(by omega),(by omega)⟩
 .
  obtain rfl:j=L.length:=by omega
  have hend:mm L k L.length=L.map (· *k):=by unfold mm;rw[dQ,gV,fL]
  exact uk J J J (by rw[hend])
def HH{a:Int}{g:Nat}(hg:0<g)(hd:g∣a.natAbs):(a:Rat)*(((g:Nat):Int):Rat)⁻¹=((zv (decide (a<0)) (a.natAbs/g):Int):Rat):=by
 obtain⟨q,hq⟩:=hd;have e:zv (decide (a<0)) (a.natAbs/g)*(g:Int)=a:=by
  rw[hq,rZ q hg];unfold zv;have hc:((g*q:Nat):Int)=(g:Int)*(q:Int):=by simp
  have hm:=rK (g:Int) (q:Int);split
  .rename_i h
   have h:=of_decide_eq_true h;rw[Int.neg_mul];omega
  .rename_i h
   have h: ¬a<0:=fun k=>h (decide_eq_true k);omega
 generalize zv (decide (a<0)) (a.natAbs/g)=z at*;have h0:((g:Int):Rat)≠0:=by
  intro k;have:(g:Int)=0:=by exact_mod_cast k
  omega
 rw[<-e,bM];generalize ((g:Int):Rat)=r at*;grind
def yq{k:Nat}(h:BQ q k)(hk:k<=62:=by decide): ¬gj q:=fun b=>b (by
 have hp:2^k<=2^62:=bR (by decide) hk;have e:(2:Nat)^62=4611686018427387904:=by decide
 obtain⟨h1,h2⟩:=h;exact⟨by omega,by omega⟩)
theorem Ct(p q:ah)[aI p i][aI q j]:aI ⟨p.x-q.x,p.y-q.y⟩ (i+j+1):=⟨inferInstanceAs (BQ (p.x-q.x) _),inferInstanceAs (BQ (p.y-q.y) _)⟩
theorem P8(h:z.natAbs<=1000000):BQ (z:Rat) 22:=by
 have e:(2:Nat)^21=2097152:=by decide
 haveI:BI z 21:=⟨by omega⟩;exact(inferInstance:BQ (z:Rat) 22)
theorem Hz{z:ZP}(h:ZP.le 100 z):aI z.q 22:=⟨P8 (by have:=h.1;omega),P8 (by have:=h.2;omega)⟩
def Me{k:Nat}(h:(r.map ZP.q)[k]? =some p):k<r.length/\p=(r.getD k (0,0)).q:=by
 rw[cY] at h
 cases e:r[k]? with
 |none=>rw[e] at h;cases h
 |some z=>
  rw[e] at h;cases h;exact⟨(aT.1 e).1,by rw[aW,e];rfl⟩
def Z5[h:BN a i](hi:i<=1000000000:=by decide):PF GB prog 290 [dN a] (.v (.bool true)):=
 (L8 (ds:=dg a) (fE _).2.1 (by have:=iE (a:=a) hi;omega)).to (by unfold vB;rw[decide_eq_true (fE a).2.2])
def Q2[hq:BQ q i](hi:i<=1000000:=by decide):PF GB prog 245 [eR q] (.v (.bool true)):=by
 have hd:=q.den_pos;have hdl:0<(dg q.den).length:=iK fun e=>by have:=uc.1 e;omega
 have hml:((dg q.den).map dU).length=(dg q.den).length:=aX ..;have hco:Nat.gcd q.num.natAbs q.den=1:=q.reduced;refine fn func245 J J ntmps245 J J (fun C=>?_);refine cl (fu:=⟨0⟩) J (D1 (m:=q.num) (i:=i) (h:=⟨hq.hn⟩) (by omega)) J<|jp 5 J<|gx J<|cl (fu:=⟨0⟩) J (Z5 (a:=q.den) (i:=i) (h:=⟨hq.hd⟩) (by omega)) J<|jp 10 J<|gx (fu:=⟨6⟩) J<|cF J (by show some (decide _)=some false;rw[decide_eq_false (by omega)]) J<|cl (fu:=⟨0⟩) J (FL (a:=q.num.natAbs) (b:=q.den) (i:=i) (j:=i) (h:=⟨hq.hn⟩) (k:=⟨hq.hd⟩) (by omega) (by omega)) J<|aj 24 (.d (dN 1)) J (by rw[hco])<|gx J<|cl J (ur (a:=1) (i:=1) (h:=⟨by decide⟩)) J<|rz J J
def TX[hp:aI p i](hi:i<=1000000:=by decide):PF GB prog 170 [n7 p] (.v (.bool true)):=by
 refine fn func170 J J ntmps170 J J (fun C=>?_);refine cl (fu:=⟨0⟩) J (Q2 (q:=p.x) (i:=i) (by omega)) J<|jp 5 J<|gx J<|cl J (Q2 (q:=p.y) (i:=i) (by omega)) J<|rz J J
def rC(l:List ah)(p:ah):Int:=match l.findIdx? (fun q=>decide (q.x=p.x/\q.y=p.y)) with
 |some i=>(i:Nat)
 |none=> -1
def DW{q:ah}{k:Nat}(hx:l[k]? =some q)(h:(l.take k).all (fun q=>!decide (q.x=p.x/\q.y=p.y))=true)(hq:q.x=p.x/\q.y=p.y):rC l p=(k:Nat):=by
 have hk:=(aT.1 hx).1;have e:l.findIdx? (fun q=>decide (q.x=p.x/\q.y=p.y))=some k:=by
  rw[List.findIdx?_eq_some_iff_getElem];refine⟨hk,?_,fun j hj=>?_⟩
  .rw[(aT.1 hx).2];exact decide_eq_true hq
  .have:=dJ.1 h l[j] (by rw[List.mem_take_iff_getElem];exact⟨j,by omega,J⟩)
   simp at this⊢;intro a b;rcases this with k|k
   .exact k a
   .exact k b
 unfold rC;rw[e]
def Zg(h:l.all (fun q=>!decide (q.x=p.x/\q.y=p.y))=true):rC l p= -1:=by
 have e:l.findIdx? (fun q=>decide (q.x=p.x/\q.y=p.y))=none:=by
  rw[List.findIdx?_eq_none_iff];intro x hx;have:=dJ.1 h x hx;simp at this⊢;intro a b;rcases this with k|k
  .exact k a
  .exact k b
 unfold rC;rw[e]
def SN{k:Nat}{q:ah}{g:ah->Bool}(hx:l[k]? =some q)(h:(l.take k).all g=true)(hq:g q=true):(l.take (k+1)).all g=true:=by
 rw[eK,hx,List.all_append,h];simp[hq]
def UY[hp:aI p i](hl: ∀q∈l,aI q i)(hn:l.length<=100000)(hi:i<=1000000:=by decide):PF GB prog 172 [.sl (l.map eZ),eZ p] (vI (rC l p)):=by
 have hml:(l.map eZ).length=l.length:=aX ..;refine fn (fu:=⟨11⟩) func172 J J ntmps172 J J (fun C=>?_);refine aj 8 (.d (vI (l.length:Nat))) J (by rw[hml]<;>rfl)<|gx J<|lp (X:=Nat) (fun k=>[(9, .d (vI (k:Nat)))]) (fun k=>[]) (fun k=>k<=l.length/\(l.take k).all (fun q=>!decide (q.x=p.x/\q.y=p.y))=true) (fun k=>l.length-k) 0 J ⟨bJ _,J⟩ (fun _=>J) (fun k hk=>?_);obtain⟨hk,hall⟩:=hk;refine br J J J (fun hc10=>?_) (fun hc10=>?_)
 .
  obtain⟨q,hx⟩: ∃u,l[k]? =some u:=⟨_,aZ (by omega)⟩;haveI:=hl q (aV hx);refine ix _ J (cO hx) J<|cl J (Nt (p:=q) (q:=p) (i:=i) hi) J<|bd J J J (fun hc16=>?_) (fun hc16=>?_)
  .
   exact rz J (by rw[DW hx hall hc16];rfl)
  .
   exact at_ (k+1) ⟨⟨by omega,SN hx hall (by rw[decide_eq_false hc16];rfl)⟩,(by omega)⟩
 .
  obtain rfl:k=l.length:=by omega
  rw[dQ] at hall;exact rz J (by rw[Zg hall];rfl)
def fh(l:List ah):Nat->Nat
 |0=>0
 |k+1=>fh l k+if rC l (l.getD k ⟨0,0⟩)=(k:Nat) then 1 else 0
def kn(l:List ah)(k:Nat):Nat:=if 3<=fh l k then 3 else fh l k
def W5{k:Nat}(h:kn l k<3)(e:fh l (k+1)=fh l k+1):((kn l k:Nat):Int)+1=((kn l (k+1):Nat):Int):=by
 have a:kn l k=if 3<=fh l k then 3 else fh l k:=J
 have b:kn l (k+1)=if 3<=fh l (k+1) then 3 else fh l (k+1):=J
 split at a<;>split at b<;>omega
def MI{k:Nat}(h: ¬kn l k<3\/fh l (k+1)=fh l k)(m:fh l k<=fh l (k+1)):((kn l k:Nat):Int)=((kn l (k+1):Nat):Int):=by
 have a:kn l k=if 3<=fh l k then 3 else fh l k:=J
 have b:kn l (k+1)=if 3<=fh l (k+1) then 3 else fh l (k+1):=J
 split at a<;>split at b<;>omega
def XC(l:List ah)(k:Nat):kn l k<=3:=by unfold kn;split<;>omega
def W4{k:Nat}(h:3<=fh l k):kn l k=3:=by unfold kn;rw[if_pos h]
def Ef{k:Nat}(hx:l[k]? =some p)(h:rC l p=(k:Nat)):fh l (k+1)=fh l k+1:=by
 rw[fh,aW,hx,lJ,if_pos h]
def W7{k:Nat}(hx:l[k]? =some p)(h: ¬rC l p=(k:Nat)):fh l (k+1)=fh l k:=by
 rw[fh,aW,hx,lJ,if_neg h];rfl
def Pf{k:Nat}:fh l k<=fh l (k+1):=by rw[fh];split<;>omega
def VM{k:Nat}(h:v[k]? =some p):((v.take k).map eZ)++[eZ p]=(v.take (k+1)).map eZ:=by
 rw[eK,h,bX];rfl
def aAG(h:eg r){k:Nat}(hk:k<r.length):decide ((r.getD k (0,0)).q.x=(i0 r k).q.x/\(r.getD k (0,0)).q.y=(i0 r k).q.y)=false:=decide_eq_false fun e=>h.ne k hk (ET (by
 obtain⟨e1,e2⟩:=e;generalize (r.getD k (0,0)).q=a at*;generalize (i0 r k).q=b at*
 cases a;cases b
 simp only[ah.mk.injEq];exact⟨e1,e2⟩))
def ayu(h:eg r)(h3:3<=fh (r.map ZP.q) (r.map ZP.q).length):PF GB prog 100 [lw r] (.tp [.sl ((r.map ZP.q).map eZ), .v .nilIface]):=by
 have hn:=h.n6;obtain⟨v,hv⟩: ∃v,v=r.map ZP.q:=⟨_,rfl⟩;have hvl:v.length=r.length:=by rw[hv,aX]
 have hb: ∀p∈v,aI p 22:=fun p hp=>by rw[hv] at hp;obtain⟨z,hz,rfl⟩:=aR.1 hp;exact Hz (h.le z hz)
 unfold lw;rw[<-hv] at h3⊢;have hm1:(v.map n7).length=v.length:=aX ..;have hm2:(v.map eZ).length=v.length:=aX ..;have hrl:(mG v).length=v.length:=by unfold mG;rw[aX,lT]
 refine FK (fu:=⟨11⟩) func100 J J ntmps100 J J (fun C h0=>?_);refine aj 13 (.d (vI (v.length:Nat))) J (by rw[hm1]<;>rfl)<|gx (fu:=⟨0⟩) J<|cF (fu:=⟨15⟩) J (by show some (decide _)=some false;rw[decide_eq_false (by omega)]) J<|aj 20 (.d (vI (v.length:Nat))) J (by rw[hm1]<;>rfl)<|gx J<|nr 4 4 103 6 J J J<|lp (X:=Nat) (fun k=>[(21, .d (vI (k:Nat))),(4, .rw 4)]) (fun k=>[(4,some (.b 103 6 ((v.take k).map eZ) true))]) (fun k=>k<=v.length) (fun k=>v.length-k) 0 J (bJ _) (fun _=>J) (fun k hk=>?_);have hm3:((v.take k).map eZ).length<=k:=by rw[aX,bL];omega
 refine br (fu2:=⟨0⟩) J J J (fun hc22=>?_) (fun hc22=>?_)
 .
  obtain⟨p,hx⟩: ∃u,v[k]? =some u:=⟨_,aZ (by omega)⟩;haveI:=hb p (aV hx);refine ix _ J (cO hx) J<|cl (fu:=⟨0⟩) J (TX (p:=p) (i:=22)) J<|jp 27 J<|gx J<|cl J (aDA (p:=p) (i:=22)) J<|rf J J<|ap ((v.take (k+1)).map eZ) J (VM hx) (aDw [p]) J<|fm 41 4 J<|at_ (k+1) ⟨(by omega),(by omega)⟩
 .
  obtain rfl:k=v.length:=by omega
  rw[dQ];refine pO 4 J<|gx (fu:=⟨15⟩) J<|aj 44 (.d (vI (v.length:Nat))) J (by rw[hm2]<;>rfl)<|gx J<|lp (X:=Nat) (fun k=>[(45, .d (vI (k:Nat))),(7, .d (vI ((kn v k):Nat)))]) (fun k=>[]) (fun k=>k<=v.length) (fun k=>v.length-k) 0 J (bJ _) (fun _=>J) (fun k hk=>?_);have hdm:=XC v k;refine br (fu2:=⟨9⟩) J J J (fun hc46=>?_) (fun hc46=>?_)
  .
   obtain⟨p,hx⟩: ∃u,v[k]? =some u:=⟨_,aZ (by omega)⟩;haveI:=hb p (aV hx);have hcm:=Pf (l:=v) (k:=k);refine ix _ J (cO hx) J<|cs 52 J J J (fun hg52=>?_) (fun hg52=>?_)
   .
    refine cl J (UY (l:=v) (p:=p) (i:=22) hb (by omega)) J<|br J J J (fun hc58=>?_) (fun hc58=>?_)
    .
     have he7:=W5 (by omega) (Ef hx (by omega));refine aj 7 (.d (vI (kn v (k+1):Nat))) J (by rw[he7]<;>rfl)<|at_ (k+1) ⟨(by omega),(by omega)⟩
    .
     have he7:=MI (.inr (W7 hx (by omega))) hcm;refine aj 7 (.d (vI (kn v (k+1):Nat))) J (by rw[he7]<;>rfl)<|at_ (k+1) ⟨(by omega),(by omega)⟩
   .
    have he7:=MI (l:=v) (k:=k) (.inl (by omega)) hcm;refine aj 7 (.d (vI (kn v (k+1):Nat))) J (by rw[he7]<;>rfl)<|at_ (k+1) ⟨(by omega),(by omega)⟩
  .
   obtain rfl:k=v.length:=by omega
   have hd3:=W4 h3;refine cF (fu:=⟨9⟩) J (by show some (decide _)=some false;rw[decide_eq_false (by omega)]) J<|Hb J J J Gj (fun _=>J) (fun GB1 pv hg1 hpv=>?_);refine wg 2 2000002 h0.fx J<|wg 3 2000003 h0.fx J ?_;refine Ii (σ:=Empty) (fun _=>[(2000002,some (.o 106 [.nl] true)),(2000003,some (.o 41 [.d (.v .nilIface)] true))]) (fun _=>True) (fun _=>[]) (fun _=>False) [(2, .ov 2000002 0),(3, .ov 2000003 0),(4, .d (.sl (v.map eZ)))] h0 J (HU) (.cons hpv .nil) ⟨J,J,J,trivial⟩ J ⟨J,J,trivial⟩ trivial IQ J J (fun k e GB' hE hg hp=>?_) (fun D hD hx hp=>?_) (fun D s hD hx hq=>hq.elim)
   .obtain⟨p,q,hpx,hqx,rfl⟩:=I9 hE
    rw[hvl] at hqx;rw[hv] at hpx hqx;obtain⟨hk,rfl⟩:=Me hpx;obtain⟨hk2,rfl⟩:=Me hqx;haveI:=Hz (h.le _ (tN hk));haveI:=Hz (h.le _ (yk hk));have hne:=aAG h hk;refine⟨?_,?_,fun C2=>?_,fun C2=>?_⟩
    rotate_left 2
    .refine gx J<|Gg J J J ⟨J,J,J⟩ J ?_
     exact atR
    .refine gx J<|nB 0 (e:=103) (len:=2) (s:=6) J (by kernel_rfl) (by kernel_rfl) (by decide) J<|nB 1 (e:=103) (len:=2) (s:=6) J (by kernel_rfl) (by kernel_rfl) (by decide) J<|cl J (Nt (p:=(r.getD k (0,0)).q) (q:=(i0 r k).q) (i:=22)) J<|bd J J J (fun hc=>absurd (decide_eq_true hc) (by rw[hne];decide)) (fun hc=>?_)
     exact rq trivial ⟨J,J,trivial⟩
   .refine gx J<|?_
    exact Dx hD hx J J
structure sE (r:List ZP):Prop where
 ok:eg r
 c3:3<=fh (r.map ZP.q) (r.map ZP.q).length




section
variable {α:Type}[Inhabited α]
end

end Go.Sx
end
section
namespace Go.Proofs
open Go.Shelf

end Go.Proofs
end
section
namespace Go.Sx
open Go Go.Proofs Tryz
variable {a p:ah}{t:List ah}{b c R D g x:Rat}{GB:Gh}{n i j k:Nat}





def Y0:rC (a::t) a=((0:Nat):Int):=DW (k:=0) (q:=a) J J ⟨J,J⟩
def S3{b c:ah}(h1:a≠b)(h2:a≠c)(h3:b≠c):3<=fh (a::b::c::t) (a::b::c::t).length:=by
 have ne: ∀{x y:ah},x≠y->(!decide (x.x=y.x/\x.y=y.y))=true:=fun{x y} h=>by
  rw[decide_eq_false (fun k=>h (by cases x;cases y;simp only[ah.mk.injEq] at*;exact k))];rfl
 have e0:=Ef (l:=a::b::c::t) (k:=0) (p:=a) J Y0;have e1:=Ef (l:=a::b::c::t) (k:=1) (p:=b) J (DW (k:=1) (q:=b) J (by simp only[List.take,List.all_cons,List.all_nil,Bool.and_true,ne h1]) ⟨J,J⟩);have e2:=Ef (l:=a::b::c::t) (k:=2) (p:=c) J (DW (k:=2) (q:=c) J (by simp only[List.take,List.all_cons,List.all_nil,Bool.and_true,ne h2,ne h3]) ⟨J,J⟩);have mono: ∀n m,n<=m->fh (a::b::c::t) n<=fh (a::b::c::t) m:=by
  intro n m h
  induction m with
  |zero=>rw[show n=0 by omega];exact bW _
  |succ m ih=>
   by_cases k:n=m+1
   .rw[k];exact bW _
   .exact cS (ih (by omega)) Pf
 have:=mono 3 (a::b::c::t).length (by simp);have z:fh (a::b::c::t) 0=0:=J;rw[eX] at e0;rw[show 1+1=2 from J] at e1;rw[show 2+1=3 from J] at e2;omega
def IR{a b c:ZP}{t:List ZP}(ho:eg (a::b::c::t))(h1:a≠b)(h2:a≠c)(h3:b≠c):sE (a::b::c::t):=
 ⟨ho,S3 (t:=t.map ZP.q) (fun e=>h1 (ET e)) (fun e=>h2 (ET e)) (fun e=>h3 (ET e))⟩
def PK{a b c d:Int}(ho:eg (dO a b c d))(h1:a<c)(h2:b<d):sE (dO a b c d):=
 IR ho (fun e=>by have:=congrArg Prod.fst e;dsimp only at this;omega) (fun e=>by have:=congrArg Prod.fst e;dsimp only at this;omega) (fun e=>by have:=congrArg Prod.snd e;dsimp only at this;omega)
def ZN{p u v:ZP}(ho:eg (ge p u v))(h:jr u v≠0):sE (ge p u v):=by
 have hu: ∀{a b:ZP},(a=(0,0)\/b=(0,0)\/a=b)->jr a b=0:=fun{a b} k=>by
  unfold jr;rcases k with rfl|rfl|rfl
  .simp
  .simp
  .rw[rK];omega
 refine IR ho (fun e=>h (hu (.inl ?_))) (fun e=>h (hu (.inr (.inl ?_)))) (fun e=>h (hu (.inr (.inr ?_))))
 .have e1:=congrArg Prod.fst e
  have e2:=congrArg Prod.snd e;unfold jH at e1 e2;dsimp only at e1 e2;exact Prod.ext (by dsimp only;omega) (by dsimp only;omega)
 .have e1:=congrArg Prod.fst e
  have e2:=congrArg Prod.snd e;unfold jH at e1 e2;dsimp only at e1 e2;exact Prod.ext (by dsimp only;omega) (by dsimp only;omega)
 .have e1:=congrArg Prod.fst e
  have e2:=congrArg Prod.snd e;unfold jH at e1 e2;dsimp only at e1 e2;exact Prod.ext (by omega) (by omega)
def YJ{es:List Int}{a:Nat}(ha:a<=es.length):sE (f8 es a).1:=by
 have hok:=(BO ha).1;unfold f8 at*;dsimp only at*;split
 .rename_i h
  rw[if_pos h] at hok;unfold yw at*;dsimp only at*;exact PK hok (by omega) (by omega)
 .rename_i h
  rw[if_neg h] at hok;dsimp only at*;split
  .rename_i k
   rw[if_pos k] at hok;exact ZN hok (by omega)
  .exact IR OP (by decide) (by decide) (by decide)







section
variable {r:List ZP}{L:List aa}
end





section
variable {C:aE}{Q0:Exit->Act->World->Prop}{fr fr' fr1 fr2:aC}{own own' own1 own2:aG}{cf cf' cf1 cf2:Cf}{vc vc1 vc2:List Prop}
end





def Jh{a:Rat}(hg:g≠0)(hR:R*D=g)(ha:a*D=x):a*R⁻¹=x*g⁻¹:=by
 have h1:g*g⁻¹=1:=Rat.mul_inv_cancel g hg;have hR0:R≠0:=fun e=>hg (by rw[<-hR,e];grind);have h2:R*R⁻¹=1:=Rat.mul_inv_cancel R hR0;generalize R⁻¹=r at*;generalize g⁻¹=s at*;have:r=D*s:=by
  have h3:R*(r-D*s)=0:=by grind
  have:=(fZ.1 h3).resolve_left hR0;grind
 grind
def Vu{a:Rat}(h0: ¬(a=0/\b=0)):a*(rgcd (rgcd a b) c)⁻¹=((dH a b c).a:Rat)/\b*(rgcd (rgcd a b) c)⁻¹=((dH a b c).b:Rat)/\c*(rgcd (rgcd a b) c)⁻¹=((dH a b c).c:Rat):=by
 obtain⟨k1,k2,k3⟩:=Kf a b c;have hn:=GI (c:=c) h0;have hD:=Lb a b c;have hr:=K1 hD (K1 hD k1 k2) k3;unfold dH;generalize a.num*(b.den*c.den:Nat)=x at*;generalize b.num*(a.den*c.den:Nat)=y at*;generalize c.num*(a.den*b.den:Nat)=z at*;rw[fT] at hr;have hgn:Nat.gcd x.natAbs y.natAbs≠0:=fun h=>hn ⟨kW.1 (lM h),kW.1 (lR h)⟩;have hgp:0<Nat.gcd (Nat.gcd x.natAbs y.natAbs) z.natAbs:=mW _ (iK hgn);have hg:(((Nat.gcd (Nat.gcd x.natAbs y.natAbs) z.natAbs:Nat):Int):Rat)≠0:=fun e=>by
  have:((Nat.gcd (Nat.gcd x.natAbs y.natAbs) z.natAbs:Nat):Int)=0:=by exact_mod_cast e
  omega
 refine⟨?_,?_,?_⟩
 .rw[Jh hg hr k1];exact HH hgp (qW (kR _ _) (kR _ _))
 .rw[Jh hg hr k2];exact HH hgp (qW (kR _ _) (lU _ _))
 .rw[Jh hg hr k3];exact HH hgp (lU _ _)
def M8{a:Rat}[ha:BQ a 62][hb:BQ b 62][hc:BQ c 62](h0: ¬(a=0/\b=0)):PF GB prog 217 [eF a,eF b,eF c] (.tp [cB (dH a b c),vB true]):=by
 obtain⟨e1,e2,e3⟩:=Vu (c:=c) h0;haveI:BQ (rgcd a b) 260:=BQ.mono (inferInstance:BQ (rgcd a b) _);haveI:BQ (rgcd (rgcd a b) c) 700:=BQ.mono (inferInstance:BQ (rgcd (rgcd a b) c) _);haveI:BQ (rgcd (rgcd a b) c)⁻¹ 700:=BQ.mono (inferInstance:BQ (rgcd (rgcd a b) c)⁻¹ _);have hl4:([((dH a b c).a:Rat),((dH a b c).b:Rat),((dH a b c).c:Rat)].map eF).length=3:=J;have hl3:[((dH a b c).a:Rat),((dH a b c).b:Rat),((dH a b c).c:Rat)].length=3:=J;refine fn func217 J J ntmps217 J J (fun C=>?_);refine cl J (BH (q:=a)) J<|csd 11 J J J (fun hg11=>?_) (fun hg11=>?_)
 .
  refine cl J (BH (q:=b)) J<|bd J J J (fun hc14=>?_) (fun hc14=>?_)
  .
   exact absurd ⟨hg11,hc14⟩ h0
  .
   refine cl rfl (tM (p:=a) (q:=b) (i:=62) (j:=62)) rfl<|cl rfl (tM (p:=rgcd a b) (q:=c) (i:=260) (j:=62)) rfl<|cl rfl (Hs (q:=rgcd (rgcd a b) c) (i:=700)) rfl<|ro (fu:=⟨0⟩) J J<|cq (hv:=by simp only[ak];exact⟨by kernel_rfl,by omega⟩) ([((dH a b c).a:Rat),((dH a b c).b:Rat),((dH a b c).c:Rat)].map eF) rfl (Lz (L:=[a,b,c]) (k:=(rgcd (rgcd a b) c)⁻¹) (i:=700) (by intro q hq;simp only[aK,dT,or_false] at hq;rcases hq with rfl|rfl|rfl;exact yq ha;exact yq hb;exact yq hc) (by intro q hq;simp only[aK,dT,or_false] at hq;rcases hq with rfl|rfl|rfl;exact ha.mono (by decide);exact hb.mono (by decide);exact hc.mono (by decide)) (nb rfl)) (by simp only[bY,gN,e1,e2,e3]) rfl<|lb _ J J J<|lb _ J J J<|lb _ J J J<|rz J J
 .
  refine cl rfl (tM (p:=a) (q:=b) (i:=62) (j:=62)) rfl<|cl rfl (tM (p:=rgcd a b) (q:=c) (i:=260) (j:=62)) rfl<|cl rfl (Hs (q:=rgcd (rgcd a b) c) (i:=700)) rfl<|ro (fu:=⟨0⟩) J J<|cq (hv:=by simp only[ak];exact⟨by kernel_rfl,by omega⟩) ([((dH a b c).a:Rat),((dH a b c).b:Rat),((dH a b c).c:Rat)].map eF) rfl (Lz (L:=[a,b,c]) (k:=(rgcd (rgcd a b) c)⁻¹) (i:=700) (by intro q hq;simp only[aK,dT,or_false] at hq;rcases hq with rfl|rfl|rfl;exact yq ha;exact yq hb;exact yq hc) (by intro q hq;simp only[aK,dT,or_false] at hq;rcases hq with rfl|rfl|rfl;exact ha.mono (by decide);exact hb.mono (by decide);exact hc.mono (by decide)) (nb rfl)) (by simp only[bY,gN,e1,e2,e3]) rfl<|lb _ J J J<|lb _ J J J<|lb _ J J J<|rz J J
def Xo{b c:ah}[ha:aI a i][hb:aI b j][hc:aI c k](hi:i<=80000:=by decide)(hj:j<=80000:=by decide)(hk:k<=80000:=by decide):PF GB prog 104 [eZ a,eZ b,eZ c] (vI (bF a b c).num.sign):=by
 haveI h1:=Ct b a;haveI h2:=Ct c a;have e:(⟨b.x-a.x,b.y-a.y⟩:ah).cross ⟨c.x-a.x,c.y-a.y⟩=bF a b c:=by unfold ah.cross bF;grind
 refine fn func104 J J ntmps104 J J (fun C=>?_);refine cl J (FM (p:=b) (q:=a) (i:=j) (j:=i) (by omega) (by omega)) J<|cl J (FM (p:=c) (q:=a) (i:=k) (j:=i) (by omega) (by omega)) J<|cl J (CI (p:=⟨b.x-a.x,b.y-a.y⟩) (q:=⟨c.x-a.x,c.y-a.y⟩) (i:=j+i+1) (j:=k+i+1) (hp:=h1) (hq:=h2) (by omega) (by omega)) J<|cl J (ma (q:=(⟨b.x-a.x,b.y-a.y⟩:ah).cross ⟨c.x-a.x,c.y-a.y⟩) (h:= @BQ.cross _ _ _ _ h1 h2) (by omega)) J<|rz J (by rw[e]<;>rfl)
end Go.Sx
end
