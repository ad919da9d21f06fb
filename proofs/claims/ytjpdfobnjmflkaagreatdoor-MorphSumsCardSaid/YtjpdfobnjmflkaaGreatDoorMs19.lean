import Derived.Test.YtjpdfobnjmflkaaGreatDoorMs18
import Derived.RecoverIn
set_option linter.all false
set_option maxHeartbeats 2000000
set_option maxRecDepth 100000
section
namespace Go.Sx
open Go Go.Proofs Tryz
variable {GB G:Gh}{l m m0:aa}{a A B j i:Nat}{b fill op D X Y z:Int}{c:ao}{a' b' c' g d q:Rat}{V v:List ah}{n p q1 q2:ah}{s:bw}{rs:List (List ZP)}{P:aa->Prop}{L K:List aa}{t u:Tr}{r:List ZP}{es:List Int}{C:aE}{Q0:Exit->Act->World->Prop}{fr fr':aD}{own':aI}{cf cf':Cf}{vc:List Prop}{y:Value}{ai al ae:Addr}
def Uu(hl:l.ok)(hm:m.ok){k:Rat}(hk:0<k)(h: ∀p,l.value p=k*m.value p):l=m:=by
 have hz: ∀s,l.value (m.at s)=0:=fun s=>by rw[h,l7 hm.ne];grind
 rcases yo hl hm hz with e|e
 .exact e
 .exfalso
  have hn:=mA hm.ne;have h1:=h (cF (m.at 0) m.nor 1);rw[e,eh,jh,l7 hm.ne] at h1;have:=di hk hn;grind
def IM{a b c:Rat}(h: ¬(a=0/\b=0))(h': ¬(a'=0/\b'=0)){k:Rat}(hk:0<k)(e: ∀p:ah,a*p.x+b*p.y+c=k*(a'*p.x+b'*p.y+c')):dC a b c=dC a' b' c':=by
 obtain⟨g,g0,hg⟩:=wX (c:=c) h;obtain⟨g',g0',hg'⟩:=wX (c:=c') h';refine Uu (BS h) (BS h') (k:=g*k/g') (div_pos (di g0 hk) g0') fun p=>?_;rw[hg,hg',e];have:g*k/g'*g'=g*k:=by grind
 generalize g*k/g'=z at*;grind
def fE(p q:ah):aa:=dC (p.y-q.y) (q.x-p.x) (-((p.y-q.y)*p.x+(q.x-p.x)*p.y))
def lf(n:ah):List ah->ah
 |[]=>⟨0,0⟩
 |p::t=>t.foldl (fun b q=>if n.dot q<n.dot b then q else b) p
def Le(n:ah){l:List ah}(h:l≠[]):n.dot (lf n l)=i5 n l:=by
 cases l with
 |nil=>exact absurd J h
 |cons p t=>
  unfold lf i5;have key: ∀(t:List ah) (b:ah),n.dot (t.foldl (fun b q=>if n.dot q<n.dot b then q else b) b)=t.foldl (fun b q=>if n.dot q<b then n.dot q else b) (n.dot b):=fun t=>by
   induction t with
   |nil=>intro b;rfl
   |cons a t ih=>
    intro b;rw[iK,iK,ih];congr 1;split<;>rfl
  exact key t p
def nP(l:aa)(V:List ah):aa:=fE (l.base.add (lf l.nor V)) ((l.base.add (lf l.nor V)).add l.dir)
def jd(l:aa)(V:List ah):aa:=dC l.a l.b (l.c-i5 l.nor V)
def yk(h:l.ok): ¬((l.a:Rat)=0/\(l.b:Rat)=0):=fun⟨h1,h2⟩=>by
 have:=mA h.ne;unfold aa.nor ah.dot at this;dsimp only at this;rw[h1,h2] at this;grind
def azI(h:l.ok):l.nor.dot l.base= -(l.c:Rat):=by
 have:=Rn h.ne;rw[Bh] at this;grind
def Ye(hl:l.ok)(hV:V≠[]):nP l V=jd l V:=by
 have hz:=yk hl;have hb:=Le l.nor hV;have hbase:=azI hl;unfold nP jd fE;refine IM (k:=1) (fun⟨h1,h2⟩=>hz ⟨?_,?_⟩) hz (by decide) fun p=>?_
 .unfold ah.add aa.dir at h1;dsimp only at h1;grind
 .unfold ah.add aa.dir at h2;dsimp only at h2;grind
 .rw[<-hb]
  generalize lf l.nor V=q at*;unfold ah.add aa.dir aa.nor ah.dot at*;dsimp only at*;grind
def r6(l:aa)(c:List aa):List ah:=(c.flatMap fun s=>[s.dir,bF s.dir])++[⟨l.dir.y, -l.dir.x⟩]
def lw(l:aa)(c:List aa):Bool:=!c.isEmpty&&(r6 l c).all fun v=>!(sD c v&&decide (Int.sign (l.dir.cross v).num<0))
def kE(c:List aa):List ah:=if(gi c).isEmpty then c.map aa.base else gi c
def vR(l:aa)(p:ah)(c:List aa):aa:=fE (p.add (lf l.nor (kE c))) ((p.add (lf l.nor (kE c))).add l.dir)
def kG(c:ao)(f:ah×ah):Option aa:=(f7 c (bj f)).map fun m=>dC (bj f).x (bj f).y (-(m+(bj f).dot f.1))
def sv(c:List aa)(f:ah×ah):Option aa:=if lw (fE f.1 f.2) c then some (vR (fE f.1 f.2) f.1 c) else none
def fD(c:ao)(V:List ah)(E:List (ah×ah)):List aa:=(c.map fun s=>jd s.l V)++E.filterMap (kG c)
def Fh(c:List aa)(V:List ah)(E:List (ah×ah)):List aa:=(c.map fun l=>nP l V)++E.filterMap (sv c)
def Nb{f:ah×ah}(h: ¬((bj f).x=0/\(bj f).y=0)):(fE f.1 f.2).ok/\ ∃g:Rat,0<g/\(fE f.1 f.2).nor=⟨g*(bj f).x,g*(bj f).y⟩:=by
 have h': ¬(f.1.y-f.2.y=0/\f.2.x-f.1.x=0):=fun⟨h1,h2⟩=>h ⟨by unfold bj;dsimp only;grind,by unfold bj;dsimp only;grind⟩;refine⟨BS h',?_⟩;obtain⟨g,g0,hg⟩:=wX (c:= -((f.1.y-f.2.y)*f.1.x+(f.2.x-f.1.x)*f.1.y)) h';refine⟨g,g0,?_⟩;have e0:=hg ⟨0,0⟩;have e1:=hg ⟨1,0⟩;have e2:=hg ⟨0,1⟩;unfold fE;generalize dC (f.1.y-f.2.y) (f.2.x-f.1.x) (-((f.1.y-f.2.y)*f.1.x+(f.2.x-f.1.x)*f.1.y))=L at*;unfold aa.value ah.dot at e0 e1 e2;unfold aa.nor bj at*;dsimp only at*;simp only[ah.mk.injEq];constructor<;>grind
def ay2(hc:bC c){v:ah}(hv: ∀u∈c,0<=u.l.nor.dot v)(hn:n.dot v<0)(M:Rat): ∃q,gI c q/\n.dot q<M:=by
 obtain⟨q,hq⟩:=hc.ne;refine AH (p:=q) (u:=v) (fun t ht s hs=>?_) hn M;rw[jh];have:=hq s hs;have:=cI ht (hv s hs);grind
def Tg(g:Rat)(n v:ah):(⟨g*n.x,g*n.y⟩:ah).dot v=g*n.dot v:=by unfold ah.dot;dsimp only;grind
def Y'(a b:ah):a.dot b=b.dot a:=by unfold ah.dot;grind
def YV(hc:bC c)(ha:fq c)(hn: ¬(n.x=0/\n.y=0))(hg:0<g)(hl:l.nor=⟨g*n.x,g*n.y⟩):lw l (c.map fun s=>s.l)=(f7 c n).isSome:=by
 have hcr: ∀v,Int.sign (l.dir.cross v).num<0↔n.dot v<0:=fun v=>by
  rw[Cv,A3,hl,Tg];constructor
  .intro h
   have:=(x6 hg (b:= -(n.dot v))).1 (by grind);grind
  .intro h
   have:=di hg (show 0< -(n.dot v) by grind);grind
 have hN:=Cw hn
 cases hf:f7 c n with
 |some m=>
  obtain⟨h1,h2⟩:=CU hc ha hn hf;show lw l (c.map fun s=>s.l)=true;unfold lw;rw[bV];refine⟨?_,?_⟩
  .cases c with
   |nil=>unfold f7 at hf;simp at hf
   |cons s t=>rfl
  .rw[dJ]
   intro v _;rw[gN,Bool.and_eq_false_iff];by_cases k:sD (c.map fun s=>s.l) v=true
   .right
    rw[decide_eq_false_iff_not,hcr];intro k2;obtain⟨q,hq,hlt⟩:=ay2 hc (R1.1 k) k2 m;have:=h1 q hq;grind
   .left;exact Bool.eq_false_iff.2 k
 |none=>
  show lw l (c.map fun s=>s.l)=false;unfold f7 at hf;unfold lw;have use: ∀v∈r6 l (c.map fun s=>s.l),(∀u∈c,0<=u.l.nor.dot v)->n.dot v<0->((!(c.map fun s=>s.l).isEmpty&&(r6 l (c.map fun s=>s.l)).all fun v=>!(sD (c.map fun s=>s.l) v&&decide (Int.sign (l.dir.cross v).num<0)))=false):=fun v hv h1 h2=>by
   rw[Bool.and_eq_false_iff];right;rw[sQ];refine⟨v,hv,?_⟩;rw[R1.2 h1,decide_eq_true ((hcr v).2 h2)];decide
  split at hf
  .rename_i k
   rw[gQ] at k
   cases c with
   |nil=>rfl
   |cons s t=>
    rcases k with k|k
    .cases k
    .cases t with
     |cons _ _=>cases k
     |nil=>
      have k:=of_decide_eq_true (show decide (s.l.nor.dot n<0)=true from k);have e:(⟨l.dir.y, -l.dir.x⟩:ah)=⟨-(g*n.x), -(g*n.y)⟩:=by
       unfold aa.dir;have h1:(l.a:Rat)=g*n.x:=congrArg ah.x hl;have h2:(l.b:Rat)=g*n.y:=congrArg ah.y hl;dsimp only;simp only[ah.mk.injEq];constructor<;>grind
      refine use ⟨l.dir.y, -l.dir.x⟩ (bY _ (aU.2 J)) (fun u hu=>?_) ?_
      .rw[aU.1 hu,e]
       have e2:s.l.nor.dot ⟨-(g*n.x), -(g*n.y)⟩=g* -(s.l.nor.dot n):=by unfold ah.dot;dsimp only;grind
       rw[e2];exact cI (dQ hg) (by grind)
      .rw[e]
       have e2:n.dot ⟨-(g*n.x), -(g*n.y)⟩= -(g*(n.x*n.x+n.y*n.y)):=by unfold ah.dot;dsimp only;grind
       rw[e2];have:=di hg hN;grind
  .split at hf
   .rename_i k
    obtain⟨s,hs,k⟩:=iJ.1 k;unfold io at k;rw[gQ,bV,bV,decide_eq_true_eq,decide_eq_true_eq] at k;have mem: ∀v,(v=s.l.dir\/v=bF s.l.dir)->v∈r6 l (c.map fun s=>s.l):=fun v hv=>by
     refine bS _ (iQ.2 ⟨s.l,dK (f:=fun s:bw=>s.l) hs,?_⟩);rcases hv with rfl|rfl<;>simp
    rcases k with⟨k1,k2⟩|⟨k1,k2⟩
    .exact use s.l.dir (mem _ (.inl J)) (H7 hc hs k1) (by rw[Y'];exact k2)
    .refine use (bF s.l.dir) (mem _ (.inr J)) (fun u hu=>?_) ?_
     .have:=P1 hc hs k1 u hu
      have e:u.l.nor.dot (bF s.l.dir)= -(u.l.nor.dot s.l.dir):=by unfold ah.dot bF;dsimp only;grind
      rw[e];grind
     .have e:n.dot (bF s.l.dir)= -(s.l.dir.dot n):=by unfold ah.dot bF;dsimp only;grind
      rw[e];grind
   .cases hf
def ZU(hc:bC c)(hs:s∈c)(nl:s.v.nl=true)(nh:s.v.nh=true): ∀u∈c,u.l.nor.dot s.l.dir=0:=fun u hu=>by
 have h1:=H7 hc hs nh u hu;have h2:=P1 hc hs nl u hu;grind
def ayU(hc:bC c)(hs:s∈c)(nl:s.v.nl=true)(nh:s.v.nh=true):gi (c.map (·.l))=[]:=by
 have hp:=ZU hc hs nl nh;unfold gi;rw[aX,List.flatMap_eq_nil_iff];intro i hi;have hi:=kQ.1 hi;obtain⟨a,ha⟩: ∃s,c[i]? =some s:=⟨_,aZ hi⟩;obtain⟨b,hb⟩: ∃w,c[(i+1)%c.length]? =some w:=⟨_,aZ (dV _ (by omega))⟩;have h1:=hp a (aK ha);have h2:=hp b (aK hb);rw[qF (l:=a.l) (m:=b.l) (by rw[cY,ha];rfl) (by rw[aX,cY,hb];rfl),if_neg];rw[nq];have hz:=mA (hc.ok s hs).ne;have e:(s.l.nor.dot s.l.nor)*a.l.dir.cross b.l.dir=(a.l.nor.dot s.l.dir)*(b.l.nor.dot s.l.nor)-(a.l.nor.dot s.l.nor)*(b.l.nor.dot s.l.dir):=by unfold ah.dot ah.cross aa.dir aa.nor;dsimp only;grind
 rw[h1,h2] at e;intro k;have:=di hz k;grind
def GG(hc:bC c)(ha:fq c)(hn: ¬(n.x=0/\n.y=0)){m:Rat}(hf:f7 c n=some m):i5 n (kE (c.map fun s=>s.l))=m/\kE (c.map fun s=>s.l)≠[]:=by
 obtain⟨f1,f2⟩:=CU hc ha hn hf;have hf':=hf;unfold f7 at hf';split at hf'
 .cases hf'
 rename_i k1;split at hf'
 .cases hf'
 rename_i k2
 cases hf'
 have k1:c.isEmpty=false/\tB n c=false:=by simpa using k1
 have k2: ∀s∈c,io n s=false:=fun s hs=>by
  cases q:io n s with
  |false=>rfl
  |true=>exact absurd (iJ.2 ⟨s,hs,q⟩) k2
 have hne:jj c≠[]:=by
  unfold jj
  cases c with
  |nil=>cases k1.1
  |cons s t=>simp
 obtain⟨l1,q0,hq0,l2⟩:=pf (n:=n) hne;have e1: ∀s:bw,s.l.dir.dot n=n.dot s.l.dir:=fun s=>by unfold ah.dot;grind
 have f: ∀(s:bw) u,n.dot (s.l.at u)=n.dot (s.l.at 0)+u*n.dot s.l.dir:=fun s u=>by rw[N' s.l u,zd]
 unfold kE;by_cases hv:(gi (c.map fun s=>s.l)).isEmpty=true
 .rw[if_pos hv]
  have hv':gi (c.map fun s=>s.l)=[]:=pN.1 hv;have flat: ∀s∈c,n.dot s.l.dir=0/\n.dot s.l.base=n.dot (s.l.at s.v.sample):=fun s hs=>by
   have nl:s.v.nl=true:=by
    cases q:s.v.nl with
    |true=>rfl
    |false=>have:=D4 hc ha hs q;rw[hv'] at this;cases this
   have nh:s.v.nh=true:=by
    cases q:s.v.nh with
    |true=>rfl
    |false=>have:=AJ hc ha hs q;rw[hv'] at this;cases this
   have ho:=k2 s hs;unfold io at ho;rw[nl,nh,lT,sL,sL,decide_eq_false_iff_not,decide_eq_false_iff_not,e1] at ho;have z:n.dot s.l.dir=0:=by rcases jI (n.dot s.l.dir) with k|k|k;exact k;exact absurd k ho.2;exact absurd k ho.1
   refine⟨z,?_⟩;rw[<-xX,zd,z];grind
  have hne2:(c.map fun s=>s.l).map aa.base≠[]:=by
   cases c with
   |nil=>cases k1.1
   |cons s t=>simp
  obtain⟨g1,p1,hp1,g2⟩:=pf (n:=n) hne2;refine⟨?_,hne2⟩;obtain⟨l,hl,rfl⟩:=aT.1 hp1;obtain⟨s,hs,rfl⟩:=aT.1 hl;have a1:=l1 (s.l.at s.v.sample) (bS _ (dK (f:=fun s:bw=>s.l.at s.v.sample) hs));rw[<-(flat s hs).2,<-g2] at a1;have a2:i5 n ((c.map fun s=>s.l).map aa.base)<=i5 n (jj c):=by
   unfold jj at hq0;rw[hv',fR] at hq0;obtain⟨w,hw,rfl⟩:=aT.1 hq0;rw[l2,<-(flat w hw).2];exact g1 _ (dK (dK (f:=fun s:bw=>s.l) hw))
  grind
 .rw[if_neg hv]
  have hne2:gi (c.map fun s=>s.l)≠[]:=fun e=>hv (by rw[e];rfl);obtain⟨g1,p1,hp1,g2⟩:=pf (n:=n) hne2;refine⟨?_,hne2⟩;have a1:=l1 p1 (bY _ hp1);rw[<-g2] at a1
  -- the least value is one of a corner
  have a2: ∃v∈gi (c.map fun s=>s.l),n.dot v=i5 n (jj c):=by
   unfold jj at hq0;rcases bJ.1 hq0 with h|h
   .obtain⟨s,hs,rfl⟩:=aT.1 h
    have hi:=(hc.edge s hs).1;have hsm:=oG hi;have z:n.dot s.l.dir=0:=by
     rcases jI (n.dot s.l.dir) with k|k|k
     .exact k
     .exfalso
      have ho:=k2 s hs;unfold io at ho;rw[lT,e1] at ho;have nl:s.v.nl=false:=by
       cases q:s.v.nl with
       |false=>rfl
       |true=>rw[q,decide_eq_true k] at ho;exact absurd ho.2 (by simp)
      have:=l1 _ (bY _ (D4 hc ha hs nl));have h1:=hsm.1.resolve_left (by rw[nl];simp);rw[l2,f s s.v.sample,f s s.v.lo] at this;have:=di (show 0<s.v.sample-s.v.lo by grind) k;grind
     .exfalso
      have ho:=k2 s hs;unfold io at ho;rw[lT,e1] at ho;have nh:s.v.nh=false:=by
       cases q:s.v.nh with
       |false=>rfl
       |true=>rw[q,decide_eq_true k] at ho;exact absurd ho.1 (by simp)
      have:=l1 _ (bY _ (AJ hc ha hs nh));have h1:=hsm.2.resolve_left (by rw[nh];simp);rw[l2,f s s.v.sample,f s s.v.hi] at this;have:=di (show 0<s.v.hi-s.v.sample by grind) (show 0< -(n.dot s.l.dir) by grind);grind
    cases nl:s.v.nl with
    |false=>exact⟨_,D4 hc ha hs nl,by rw[l2,f s s.v.lo,f s s.v.sample,z];grind⟩
    |true=>
     cases nh:s.v.nh with
     |false=>exact⟨_,AJ hc ha hs nh,by rw[l2,f s s.v.hi,f s s.v.sample,z];grind⟩
     |true=>exact absurd (ayU hc hs nl nh) hne2
   .exact⟨q0,h,l2.symm⟩
  obtain⟨v,hv2,e⟩:=a2;have:=g1 v hv2;grind
def ZY(hc:bC c)(ha:fq c){f:ah×ah}(hn: ¬((bj f).x=0/\(bj f).y=0)):sv (c.map fun s=>s.l) f=kG c f:=by
 obtain⟨hok,g,g0,hg⟩:=Nb hn;unfold sv kG;rw[YV hc ha hn g0 hg]
 cases hf:f7 c (bj f) with
 |none=>rfl
 |some m=>
  obtain⟨h1,h2⟩:=GG hc ha hn hf;show some (vR (fE f.1 f.2) f.1 (c.map fun s=>s.l))=some _;congr 1;have hs: ∀v,(fE f.1 f.2).nor.dot v=g*(bj f).dot v:=fun v=>by rw[hg,Tg]
  have hb:g*(bj f).dot (lf (fE f.1 f.2).nor (kE (c.map fun s=>s.l)))=g*m:=by
   rw[<-hs,Le _ h2];obtain⟨a1,q1,b1,c1⟩:=pf (n:=(fE f.1 f.2).nor) h2;obtain⟨a2,q2,b2,c2⟩:=pf (n:=bj f) h2;have d1:=a1 q2 b2;have d2:=a2 q1 b1;rw[h1] at c2 d2;rw[hs] at c1 d1;rw[<-c2] at d1;have:=cI (dQ g0) (show 0<=(bj f).dot q1-m by grind);grind
  have hz:=yk hok;have e1:((fE f.1 f.2).a:Rat)=g*(bj f).x:=congrArg ah.x hg;have e2:((fE f.1 f.2).b:Rat)=g*(bj f).y:=congrArg ah.y hg;generalize fE f.1 f.2=T at*;unfold vR;generalize lf T.nor (kE (c.map fun s=>s.l))=q at*;generalize hd:T.dir=d at*;have d1:d.x=(T.b:Rat):=by rw[<-hd];rfl
  have d2:d.y= -(T.a:Rat):=by rw[<-hd];rfl
  unfold fE;refine IM (k:=g) (fun⟨k1,k2⟩=>hz ⟨?_,?_⟩) hn g0 fun p=>?_
  .unfold ah.add at k1;dsimp only at k1;grind
  .unfold ah.add at k2;dsimp only at k2;grind
  .unfold ah.add
   unfold ah.dot at*;dsimp only at*;rw[d1,d2,e1,e2];grind
def atl(hc:bC c)(ha:fq c)(hV:V≠[]){E:List (ah×ah)}(hE: ∀f∈E,¬((bj f).x=0/\(bj f).y=0)):Fh (c.map fun s=>s.l) V E=fD c V E:=by
 unfold Fh fD;congr 1
 .rw[qQ]
  refine List.map_congr_left fun s hs=>?_;exact Ye (hc.ok s hs) hV
 .induction E with
  |nil=>rfl
  |cons f E ih=>
   rw[lQ,lQ,ZY hc ha (hE f aQ),ih fun g hg=>hE g (aJ _ hg)]
section
end
def jP:List aa->Tr
 |[]=> .leaf true
 |l::t=> .node l (jP t) (.leaf false)
def L4: ∀{L:List aa},(jP L).lns=L
 |[]=>rfl
 |l::t=>by rw[jP,Tr.lns,L4,Tr.lns,fR]
def Ai(h: ∀l∈L,P l):(jP L).all P:=tr.2 (by rw[L4];exact h)
def Kz: ∀(L:List aa),(jP L).depth=L.length
 |[]=>rfl
 |l::t=>by rw[jP,Tr.depth,Kz t,bZ];show 1+max _ 0=_;omega
def Js: ∀(L:List aa),(jP L).size=L.length
 |[]=>rfl
 |l::t=>by rw[jP,Tr.size,Js t,bZ];show 1+_+0=_;omega
def SI: ∀{ls:List aa} {c e:ao},bC c->fq c->(∀l∈ls,l.ok)->iI ls c=some e->fq e
 |[],c,e,_,ha,_,h=>by
  obtain rfl:c=e:=by simpa[iI] using h
  exact ha
 |l::t,c,e,hc,ha,hl,h=>by
  have hl':=dR.1 hl;rw[iI] at h;split at h
  .rename_i hb
   exact SI (gv hc hl'.1 hb).1 (CS hc hl'.1 ha hb) hl'.2 h
  .exact absurd h (by simp)
def iD.nz{E:List (ah×ah)}(hB:iD V E){f:ah×ah}(hf:f∈E): ¬((bj f).x=0/\(bj f).y=0):=by
 obtain⟨u,hu⟩:=hB.cen;exact QF (hu f hf)
def iD.vne{E:List (ah×ah)}(hB:iD V E):V≠[]:=by
 obtain⟨u,hu⟩:=hB.cen;obtain⟨v,hv,_⟩:=hB.hull ⟨0,0⟩ u fun f hf=>dQ (hu f hf);exact List.ne_nil_of_mem hv
def Bx(hl:l.ok)(V:List ah):(jd l V).ok/\ ∃g:Rat,0<g/\ ∀p,(jd l V).value p=g*(l.value p-i5 l.nor V):=by
 refine⟨BS (yk hl),?_⟩;obtain⟨g,g0,hg⟩:=wX (c:=l.c-i5 l.nor V) (yk hl);refine⟨g,g0,fun p=>?_⟩;unfold jd;rw[hg,Bh];unfold aa.nor ah.dot;dsimp only;grind
def Fz{f:ah×ah}(hn: ¬((bj f).x=0/\(bj f).y=0))(h:kG c f=some l): ∃m,f7 c (bj f)=some m/\l.ok/\ ∃g:Rat,0<g/\ ∀p,l.value p=g*((bj f).dot p-m-(bj f).dot f.1):=by
 unfold kG at h
 cases hf:f7 c (bj f) with
 |none=>rw[hf] at h;cases h
 |some m=>
  rw[hf] at h
  cases h
  refine⟨m,J,BS hn,?_⟩;obtain⟨g,g0,hg⟩:=wX (c:= -(m+(bj f).dot f.1)) hn;refine⟨g,g0,fun p=>?_⟩;rw[hg];unfold ah.dot;grind
def BR{E:List (ah×ah)}(hB:iD V E)(hc:bC c): ∀l∈fD c V E,l.ok:=fun l hl=>by
 rcases bJ.1 hl with hl|hl
 .obtain⟨s,hs,rfl⟩:=aT.1 hl
  exact(Bx (hc.ok s hs) V).1
 .obtain⟨f,hf,e⟩:=jL.1 hl
  obtain⟨_,_,h,_⟩:=Fz (hB.nz hf) e;exact h
def avs{E:List (ah×ah)}(hB:iD V E)(hc:bC c)(ha:fq c)(p:ah):dE (fD c V E) p↔ ∃q,bt c q/\ ∀f∈E,0<bI f.1 f.2 (p.subQ q):=by
 constructor
 .intro h
  refine U2 hB hc (fun s hs=>?_) fun f hf ⟨M,hM⟩=>?_
  .obtain⟨h1,v,hv,h2⟩:=pf (n:=s.l.nor) hB.vne
   refine⟨v,hv,fun w hw=>by rw[<-h2];exact h1 w hw,?_⟩;obtain⟨_,g,g0,hg⟩:=Bx (hc.ok s hs) V;have:=h _ (bS _ (dK (f:=fun s:bw=>jd s.l V) hs));rw[hg] at this;rw[<-h2];exact(x6 g0).1 this
  .cases hfl:f7 c (bj f) with
   |none=>
    obtain⟨q,hq,hlt⟩:=Ux hc (hB.nz hf) hfl M;have:=hM q hq;grind
   |some m=>
    obtain⟨_,q,hq,e⟩:=CU hc ha (hB.nz hf) hfl;refine⟨q,hq,?_⟩;have he:kG c f=some (dC (bj f).x (bj f).y (-(m+(bj f).dot f.1))):=by unfold kG;rw[hfl];rfl
    obtain⟨m',k1,_,g,g0,hg⟩:=Fz (hB.nz hf) he;rw[hfl] at k1;cases k1;have:=h _ (bY _ (jL.2 ⟨f,hf,he⟩));rw[hg] at this;rw[e];exact(x6 g0).1 this
 .rintro ⟨q,hq,hu⟩ l hl
  have hdp: ∀n:ah,n.dot p=n.dot q+n.dot (p.subQ q):=fun n=>by rw[Cl];grind
  rcases bJ.1 hl with hl|hl
  .obtain⟨s,hs,rfl⟩:=aT.1 hl
   obtain⟨_,g,g0,hg⟩:=Bx (hc.ok s hs) V;rw[hg,x6 g0];have h1:=Up hB (c:=c) (q:=q) (u:=p.subQ q) (fun f hf=>dQ (hu f hf)) (pf (n:=s.l.nor) hB.vne).1;have h2:=hq s hs;rw[Bh] at h2⊢;rw[hdp];grind
  .obtain⟨f,hf,e⟩:=jL.1 hl
   obtain⟨m,k1,_,g,g0,hg⟩:=Fz (hB.nz hf) e;rw[hg,x6 g0,hdp];have h1:=hu f hf;rw[H0] at h1;have h2:=(CU hc ha (hB.nz hf) k1).1 q hq.c;grind
def QE{E:List (ah×ah)}(hB:iD V E)(hc:bC c)(ha:fq c): ∃p,dE (fD c V E) p:=by
 obtain⟨q,hq⟩:=hc.ne;obtain⟨u,hu⟩:=hB.cen;refine⟨q.add u,(avs hB hc ha _).2 ⟨q,hq,fun f hf=>?_⟩⟩;have e:(q.add u).subQ q=u:=by unfold ah.subQ ah.add;cases u;simp only[ah.mk.injEq];constructor<;>grind
 rw[e];exact hu f hf
def Ho{E:List (ah×ah)}(hB:iD V E)(hc:bC c)(ha:fq c): ∃d,iI (fD c V E) []=some d/\bC d/\fq d/\(∀p,bt d p↔dE (fD c V E) p)/\ce (fD c V E)=d.map (·.l):=by
 have hok:=BR hB hc;obtain⟨p,hp⟩:=QE hB hc ha;obtain⟨d,hd⟩:=GP bC.nil hok ⟨p,fun s hs=>absurd hs (by simp),hp⟩;obtain⟨g1,g2⟩:=Gs bC.nil hok hd;have g2: ∀p,bt d p↔dE (fD c V E) p:=fun p=>by
  rw[g2];exact⟨fun h=>h.2,fun h=>⟨fun s hs=>absurd hs (by simp),h⟩⟩
 have g3:=SI bC.nil .nil hok hd;exact⟨d,hd,g1,g3,g2,Gw hok g1 g3 g2⟩
def eG(V:List ah)(E:List (ah×ah))(c:ao):Tr:=jP (ce (fD c V E))
def GF{E:List (ah×ah)}(hB:iD V E)(hc:bC c)(ha:fq c):(eG V E c).all aa.ok:=by
 obtain⟨d,_,g1,_,_,e⟩:=Ho hB hc ha;unfold eG;rw[e];exact Ai fun l hl=>by obtain⟨s,hs,rfl⟩:=aT.1 hl;exact g1.ok s hs
def xz(f:ah×ah):ah×ah:=(bF f.1,bF f.2)
def Je(a b p:ah):bI (bF a) (bF b) p=bI a b (bF p):=by unfold bI bF;dsimp only;grind
def Hu(p:ah):bF (bF p)=p:=by unfold bF;cases p;simp only[ah.mk.injEq];constructor<;>grind
def Z5{E:List (ah×ah)}(h:iD V E):iD (V.map bF) (E.map xz) where
 ends:=fun f hf=>by
  obtain⟨g,hg,rfl⟩:=aT.1 hf;exact⟨dK (h.ends g hg).1,dK (h.ends g hg).2⟩
 cvx:=fun f hf v hv=>by
  obtain⟨g,hg,rfl⟩:=aT.1 hf;obtain⟨w,hw,rfl⟩:=aT.1 hv;show 0<=bI (bF g.1) (bF g.2) (bF w);rw[Je,Hu];exact h.cvx g hg w hw
 cen:=by
  obtain⟨u,hu⟩:=h.cen;refine⟨bF u,fun f hf=>?_⟩;obtain⟨g,hg,rfl⟩:=aT.1 hf;show 0<bI (bF g.1) (bF g.2) (bF u);rw[Je,Hu];exact hu g hg
 hull:=fun n u hu=>by
  obtain⟨v,hv,hle⟩:=h.hull (bF n) (bF u) fun f hf=>by
   have:=hu _ (dK (f:=xz) hf);unfold xz at this;rwa [Je] at this
  refine⟨bF v,dK hv,?_⟩;have e: ∀z,(bF n).dot z=n.dot (bF z):=fun z=>by unfold ah.dot bF;dsimp only;grind
  rw[e,e,Hu] at hle;exact hle
def Hp{P:ah×ah->Prop}{f:ah×ah}{x y z:ah×ah}(hf:f∈[x,y,z])(h1:P x)(h2:P y)(h3:P z):P f:=by
 simp only[aW,dT,or_false] at hf;rcases hf with rfl|rfl|rfl<;>assumption
def aEX{a b c:ah}(h:0<bI a b c):iD [a,b,c] [(a,b),(b,c),(c,a)] where
 ends:=fun f hf=>Hp (P:=fun f=>f.1∈[a,b,c]/\f.2∈[a,b,c]) hf (by simp) (by simp) (by simp)
 cvx:=fun f hf v hv=>by
  simp only[aW,dT,or_false] at hv;refine Hp (P:=fun f=>0<=bI f.1 f.2 v) hf ?_ ?_ ?_<;>dsimp only<;>rcases hv with rfl|rfl|rfl<;>unfold bI at* <;>grind
 cen:=⟨⟨(a.x+b.x+c.x)/3,(a.y+b.y+c.y)/3⟩,fun f hf=>by
  refine Hp (P:=fun f=>0<bI f.1 f.2 ⟨(a.x+b.x+c.x)/3,(a.y+b.y+c.y)/3⟩) hf ?_ ?_ ?_<;>dsimp only<;>unfold bI at* <;>grind⟩
 hull:=fun n u hu=>by
  have h1:=hu (a,b) (by simp);have h2:=hu (b,c) (by simp);have h3:=hu (c,a) (by simp);dsimp only at h1 h2 h3;have e:bI a b c*n.dot u=bI b c u*n.dot a+bI c a u*n.dot b+bI a b u*n.dot c:=by unfold bI ah.dot;grind
  have e2:bI a b c=bI b c u+bI c a u+bI a b u:=by unfold bI;grind
  apply Classical.byContradiction;intro k;have ka:n.dot u<n.dot a:=by have: ¬n.dot a<=n.dot u:=fun q=>k ⟨a,by simp,q⟩;grind
  have kb:n.dot u<n.dot b:=by have: ¬n.dot b<=n.dot u:=fun q=>k ⟨b,by simp,q⟩;grind
  have kc:n.dot u<n.dot c:=by have: ¬n.dot c<=n.dot u:=fun q=>k ⟨c,by simp,q⟩;grind
  have:=tG h2 h3 h1 (by grind) (show 0<n.dot a-n.dot u by grind) (show 0<n.dot b-n.dot u by grind) (show 0<n.dot c-n.dot u by grind);rw[e2] at e;clear hu k h e2;generalize bI b c u=x at*;generalize bI c a u=y at*;generalize bI a b u=z at*;generalize n.dot u=m at*;generalize n.dot a=p at*;generalize n.dot b=q at*;generalize n.dot c=r at*;grind
def Io{P:ah×ah->Prop}{f:ah×ah}{x y z w:ah×ah}(hf:f∈[x,y,z,w])(h1:P x)(h2:P y)(h3:P z)(h4:P w):P f:=by
 simp only[aW,dT,or_false] at hf;rcases hf with rfl|rfl|rfl|rfl<;>assumption
def aJt{a b c:Rat}(h1:a<c)(h2:b<d):iD [⟨a,b⟩,⟨c,b⟩,⟨c,d⟩,⟨a,d⟩] [(⟨a,b⟩,⟨c,b⟩),(⟨c,b⟩,⟨c,d⟩),(⟨c,d⟩,⟨a,d⟩),(⟨a,d⟩,⟨a,b⟩)] where
 ends:=fun f hf=>Io (P:=fun f=>f.1∈[(⟨a,b⟩:ah),⟨c,b⟩,⟨c,d⟩,⟨a,d⟩]/\f.2∈[(⟨a,b⟩:ah),⟨c,b⟩,⟨c,d⟩,⟨a,d⟩]) hf (by simp) (by simp) (by simp) (by simp)
 cvx:=fun f hf v hv=>by
  have k:=di (show 0<c-a by grind) (show 0<d-b by grind);simp only[aW,dT,or_false] at hv;refine Io (P:=fun f=>0<=bI f.1 f.2 v) hf ?_ ?_ ?_ ?_<;>dsimp only<;>rcases hv with rfl|rfl|rfl|rfl<;>unfold bI<;>dsimp only<;>grind
 cen:=⟨⟨(a+c)/2,(b+d)/2⟩,fun f hf=>by
  have k:=di (show 0<c-a by grind) (show 0<d-b by grind);refine Io (P:=fun f=>0<bI f.1 f.2 ⟨(a+c)/2,(b+d)/2⟩) hf ?_ ?_ ?_ ?_<;>dsimp only<;>unfold bI<;>dsimp only<;>grind⟩
 hull:=fun n u hu=>by
  have k1:=hu (⟨a,b⟩,⟨c,b⟩) (by simp);have k2:=hu (⟨c,b⟩,⟨c,d⟩) (by simp);have k3:=hu (⟨c,d⟩,⟨a,d⟩) (by simp);have k4:=hu (⟨a,d⟩,⟨a,b⟩) (by simp);unfold bI at k1 k2 k3 k4;dsimp only at k1 k2 k3 k4;have y1:0<=u.y-b:=(ig (k:=c-a) (by grind)).1 (by grind);have y2:0<=d-u.y:=(ig (k:=c-a) (by grind)).1 (by grind);have x1:0<=u.x-a:=(ig (k:=d-b) (by grind)).1 (by grind);have x2:0<=c-u.x:=(ig (k:=d-b) (by grind)).1 (by grind);by_cases hx:0<=n.x<;>by_cases hy:0<=n.y
  .refine⟨⟨a,b⟩,by simp,?_⟩
   have:=cI hx x1;have:=cI hy y1;unfold ah.dot;dsimp only;grind
  .refine⟨⟨a,d⟩,by simp,?_⟩
   have:=cI hx x1;have:=cI (show 0<= -n.y by grind) y2;unfold ah.dot;dsimp only;grind
  .refine⟨⟨c,b⟩,by simp,?_⟩
   have:=cI (show 0<= -n.x by grind) x2;have:=cI hy y1;unfold ah.dot;dsimp only;grind
  .refine⟨⟨c,d⟩,by simp,?_⟩
   have:=cI (show 0<= -n.x by grind) x2;have:=cI (show 0<= -n.y by grind) y2;unfold ah.dot;dsimp only;grind
def qP(V:List ah)(E:List (ah×ah))(cs:List ao)(t:Tr):Tr:=cs.foldl (fun t c=>t.mergeQ 1 (eG V E c) []) t
def pP(V:List ah)(E:List (ah×ah))(t:Tr):Tr:=qP V E (cD (t.restrict [])) (.leaf false)
def zj(ht:t.all aa.ok): ∀c∈cD (t.restrict []),bC c/\fq c:=fun c hc=>⟨aqm (t.restrict_all _ [] ht) c hc,J3 (t.restrict_all _ [] ht) bC.nil (show fq [] from .nil) _ (qp.1 hc)⟩
section
end
section
end
def Tr.Prp:Tr->ao->Prop
 | .leaf _,_=>True
 | .node l x y,c=>co c l=true/\co c l.rev=true/\x.Prp (bD c l)/\y.Prp (bD c l.rev)
def Tr.red_prp: ∀{t:Tr} {c:ao},t.Red c->t.Prp c
 | .leaf _,_,_=>trivial
 | .node _ _ _,_,⟨h1,h2,h3,h4,_⟩=>⟨h1,h2,Tr.red_prp h3,Tr.red_prp h4⟩
def as2(hc:bC c)(hl:l.ok)(hp:bt c p)(h0:l.value p=0):co c l=true/\co c l.rev=true:=by
 have hn:=mA hl.ne;obtain⟨e,he,hm⟩:=hp.open l.nor;obtain⟨f,hf,hk⟩:=hp.open (bF l.nor);have hn2:l.nor.dot (bF l.nor)= -(l.nor.dot l.nor):=by unfold bF ah.dot;dsimp only;grind
 refine⟨(po hc hl).2 ⟨_,hm e (by grind) (by grind),?_⟩,(po hc hl.rev).2 ⟨_,hk f (by grind) (by grind),?_⟩⟩
 .rw[jh,h0];have:=di he hn;grind
 .rw[eh,jh,h0,hn2];have:=di hf hn;grind
def mB(c:ao)(m:aa):Bool:=co c m&&co c m.rev
def n0(hc:bC c)(hm:m.ok):mB c m=true↔Dv m c:=by
 unfold mB;rw[bV];constructor
 .rintro ⟨h1,h2⟩
  obtain⟨p,hp,k1⟩:=(po hc hm).1 h1;obtain⟨q,hq,k2⟩:=(po hc hm.rev).1 h2;rw[eh] at k2;generalize hA:m.value p=A at*;generalize hB:m.value q=B at*;have hAB:0<A-B:=by grind
  have e:A/(A-B)*(A-B)=A:=by grind
  generalize A/(A-B)=r at*;have r0:0<=r:=(ig hAB).1 (by rw[e];exact dQ k1);have r1:r<=1:=by
   have:=(ig (s:=1-r) hAB).1 (by grind);grind
  exact⟨km p q r,hp.seg hq r0 r1,by rw[lg,hA,hB];grind⟩
 .rintro ⟨p,hp,h0⟩
  exact as2 hc hm hp h0
def xB(c:ao)(m n:aa):Bool:=decide (¬m.same n)&&(decide (n.value (w5 m n)=0)&&p8 c (w5 m n))
def qC{n:aa}(hm:m.ok)(hn:n.ok):xB c m n=true↔ ¬m.same n/\ ∃z,bt c z/\m.value z=0/\n.value z=0:=by
 unfold xB;rw[bV,bV,decide_eq_true_eq,decide_eq_true_eq,rO];constructor
 .rintro ⟨h1,h2,h3⟩
  exact⟨h1,_,h3,l7 hm.ne _,h2⟩
 .rintro ⟨h1,z,hz,k1,k2⟩
  rcases E0 hm hn k1 k2 with h|h
  .exact absurd h h1
  .rw[<-h];exact⟨h1,k2,hz⟩
def Hl{n:aa}(hm:m.ok)(hn:n.ok):xB c m n=xB c n m:=by
 rw[qL,qC hm hn,qC hn hm];constructor<;>(rintro ⟨h,z,hz,k1,k2⟩;exact⟨fun e=>h e.symm,z,hz,k2,k1⟩)
def im(f:aa->Nat):List aa->Nat
 |[]=>0
 |m::K=>f m+im f K
def bN(b:Bool):Nat:=if b then 1 else 0
def MJ{f g:aa->Nat}: ∀{K:List aa},(∀m∈K,f m<=g m)->im f K<=im g K
 |[],_=>bK _
 |m::K,h=>by
  have:=MJ (f:=f) (g:=g) (K:=K) fun n hn=>h n (aJ _ hn);have:=h m aQ;show f m+im f K<=g m+im g K;omega
def xk(f g:aa->Nat): ∀K,im (fun m=>f m+g m) K=im f K+im g K
 |[]=>rfl
 |m::K=>by
  have:=xk f g K;show f m+g m+im (fun m=>f m+g m) K=f m+im f K+(g m+im g K);omega
def xe{f g:aa->Nat}{d:Nat}{m0:aa}: ∀{K:List aa},(∀m∈K,f m<=g m)->m0∈K->f m0+d<=g m0->im f K+d<=im g K
 |[],_,h,_=>by cases h
 |m::K,h,hm,hd=>by
  have i1:=MJ (f:=f) (g:=g) (K:=K) fun n hn=>h n (aJ _ hn);have:=h m aQ;show f m+im f K+d<=g m+im g K;rcases aW.1 hm with rfl|hm
  .omega
  .have:=xe (f:=f) (g:=g) (d:=d) (K:=K) (fun n hn=>h n (aJ _ hn)) hm hd
   omega
def w9{f:aa->Nat}{B:Nat}: ∀{K:List aa},(∀m∈K,f m<=B)->im f K<=K.length*B
 |[],_=>aM _
 |m::K,h=>by
  have:=w9 (f:=f) (B:=B) (K:=K) fun n hn=>h n (aJ _ hn);have:=h m aQ;show f m+im f K<=(K.length+1)*B;rw[fN];omega
def qg(K:List aa)(c:ao):Nat:=im (fun m=>bN (mB c m)) K
def jE(K:List aa)(c:ao)(m:aa):Nat:=im (fun n=>bN (xB c m n)) K
def yx(K:List aa)(c:ao):Nat:=im (jE K c) K
def H3(b:Bool):bN b<=1:=by cases b<;>decide
def atA(hK: ∀m∈K,m.ok)(hc:bC c){n:aa}(hn:n.ok)(h0:m0∈K)(hs:m0.same n)(hb:co c n=true)(hb2:co c n.rev=true):
  qg K (bD c n)+qg K (bD c n.rev)+1<=qg K c+jE K c m0/\yx K (bD c n)+yx K (bD c n.rev)+2*jE K c m0<=yx K c:=by
 obtain⟨g1,i1⟩:=gv hc hn hb;obtain⟨g2,i2⟩:=gv hc hn.rev hb2;have i2: ∀p,bt (bD c n.rev) p↔bt c p/\n.value p<0:=fun p=>by rw[i2,eh];constructor<;>(rintro ⟨a,b⟩;exact⟨a,by grind⟩)
 have hm0:=hK m0 h0;have z1: ∀m,m.ok->(mB (bD c n) m=true->mB c m=true)/\(mB (bD c n.rev) m=true->mB c m=true):=fun m hm=>by
  rw[n0 g1 hm,n0 g2 hm,n0 hc hm];exact⟨fun⟨p,hp,k⟩=>⟨p,((i1 p).1 hp).1,k⟩,fun⟨p,hp,k⟩=>⟨p,((i2 p).1 hp).1,k⟩⟩
 have z2: ∀m,m.ok->mB (bD c n) m=true->mB (bD c n.rev) m=true->xB c m0 m=true:=fun m hm h1 h2=>by
  obtain⟨p,hp,k1⟩:=(n0 g1 hm).1 h1;obtain⟨q,hq,k2⟩:=(n0 g2 hm).1 h2;obtain⟨hp,ap⟩:=(i1 p).1 hp;obtain⟨hq,aq⟩:=(i2 q).1 hq;rw[qC hm0 hm];refine⟨fun e=>?_,?_⟩
  .rw[nI hs (nI e.symm k1)] at ap;grind
  generalize hA:n.value p=A at*;generalize hB:n.value q=B at*;have hAB:0<A-B:=by grind
  have e:A/(A-B)*(A-B)=A:=by grind
  generalize A/(A-B)=r at*;have r0:0<=r:=(ig hAB).1 (by rw[e];exact dQ ap);have r1:r<=1:=by
   have:=(ig (s:=1-r) hAB).1 (by grind);grind
  exact⟨km p q r,hp.seg hq r0 r1,nI hs.symm (by rw[lg,hA,hB];grind),by rw[lg,k1,k2];grind⟩
 have w1: ∀m m',m.ok->m'.ok->xB (bD c n) m m'=true->xB c m m'=true/\ ¬xB (bD c n.rev) m m'=true:=fun m m' hm hm' h=>by
  rw[qC hm hm'] at h;obtain⟨e,z,hz,k1,k2⟩:=h;obtain⟨hz,az⟩:=(i1 z).1 hz;refine⟨(qC hm hm').2 ⟨e,z,hz,k1,k2⟩,fun h=>?_⟩;obtain⟨_,y,hy,j1,j2⟩:=(qC hm hm').1 h;obtain⟨hy,ay⟩:=(i2 y).1 hy;rcases E0 hm hm' k1 k2 with h|h
  .exact e h
  .rcases E0 hm hm' j1 j2 with h'|h'
   .exact e h'
   .rw[h'] at ay;rw[h] at az;grind
 have w2: ∀m m',m.ok->m'.ok->xB (bD c n.rev) m m'=true->xB c m m'=true:=fun m m' hm hm' h=>by
  rw[qC hm hm'] at h⊢;obtain⟨e,z,hz,k1,k2⟩:=h;exact⟨e,z,((i2 z).1 hz).1,k1,k2⟩
 have w3: ∀m,m.ok->xB (bD c n) m m0=false/\xB (bD c n.rev) m m0=false:=fun m hm=>by
  constructor
  .rw[<-iL,qC hm hm0]
   rintro ⟨_,z,hz,_,k2⟩;have:=((i1 z).1 hz).2;rw[nI hs k2] at this;grind
  .rw[<-iL,qC hm hm0]
   rintro ⟨_,z,hz,_,k2⟩;have:=((i2 z).1 hz).2;rw[nI hs k2] at this;grind
 have hmm: ∀d,xB d m0 m0=false:=fun d=>by
  rw[<-iL,qC hm0 hm0];rintro ⟨h,_⟩;exact h (.inl rfl)
 have n1: ∀d:ao,bC d->(∀p,bt d p->n.value p≠0)->mB d m0=false:=fun d hd h=>by
  rw[<-iL,n0 hd hm0];rintro ⟨p,hp,k⟩;exact h p hp (nI hs k)
 have n2:mB c m0=true:=by
  rw[n0 hc hm0];obtain⟨p,hp,k⟩:=(n0 hc hn).1 (by unfold mB;rw[hb,hb2];rfl);exact⟨p,hp,nI hs.symm k⟩
 constructor
 .unfold qg jE
  rw[<-xk,<-xk];refine xe (m0:=m0) (d:=1) (fun m hm=>?_) h0 ?_
  .have hmk:=hK m hm
   obtain⟨a1,a2⟩:=z1 m hmk;have a3:=z2 m hmk
   try dsimp only
   cases e1:mB (bD c n) m<;>cases e2:mB (bD c n.rev) m<;>simp only[e1,e2,forall_const,reduceCtorEq,false_implies] at a1 a2 a3<;>simp_all [bN]
  .try dsimp only
   rw[n1 _ g1 (fun p hp=>by have:=((i1 p).1 hp).2;grind),n1 _ g2 (fun p hp=>by have:=((i2 p).1 hp).2;grind),n2,hmm];decide
 .have row: ∀m∈K,jE K (bD c n) m+jE K (bD c n.rev) m+bN (xB c m m0)<=jE K c m:=fun m hm=>by
   have hmk:=hK m hm;unfold jE;rw[<-xk];refine xe (m0:=m0) (d:=bN (xB c m m0)) (fun m' hm'=>?_) h0 ?_
   .have hmk':=hK m' hm'
    have b1:=w1 m m' hmk hmk';have b2:=w2 m m' hmk hmk'
    try dsimp only
    cases e1:xB (bD c n) m m'<;>cases e2:xB (bD c n.rev) m m'<;>simp_all [bN]
   .obtain⟨c1,c2⟩:=w3 m hmk
    try dsimp only
    rw[c1,c2];simp[bN]
  have r0:jE K (bD c n) m0=0/\jE K (bD c n.rev) m0=0:=by
   have z: ∀d,(∀m∈K,xB d m0 m=false)->jE K d m0=0:=fun d h=>by
    have:=w9 (f:=fun m=>bN (xB d m0 m)) (B:=0) (K:=K) fun m hm=>by rw[h m hm];decide
    unfold jE;omega
   exact⟨z _ fun m hm=>by rw[Hl hm0 (hK m hm)];exact(w3 m (hK m hm)).1,z _ fun m hm=>by rw[Hl hm0 (hK m hm)];exact(w3 m (hK m hm)).2⟩
  have cs:im (fun m=>bN (xB c m m0)) K=jE K c m0:=by
   unfold jE;have key: ∀Jv:List aa,(∀m∈Jv,m.ok)->im (fun m=>bN (xB c m m0)) Jv=im (fun m=>bN (xB c m0 m)) Jv:=fun Jv=>by
    induction Jv with
    |nil=>intro _;rfl
    |cons a Jv ih=>
     intro h;show bN (xB c a m0)+_=bN (xB c m0 a)+_;rw[ih fun m hm=>h m (aJ _ hm),Hl (h a aQ) hm0]
   exact key K hK
  have:=xe (f:=fun m=>jE K (bD c n) m+jE K (bD c n.rev) m+bN (xB c m m0)) (g:=jE K c) (d:=jE K c m0) (m0:=m0) row h0 (by rw[r0.1,r0.2,hmm];simp[bN]);rw[xk,xk,cs] at this;unfold yx;omega
def GO{K:List aa}(hK: ∀m∈K,m.ok): ∀{t:Tr} {c:ao},t.Prp c->t.all aa.ok->bC c->fP K t->2*t.size<=2*qg K c+yx K c
 | .leaf _,_,_,_,_,_=>aM _
 | .node n x y,c,⟨h1,h2,h3,h4⟩,⟨hn,hx,hy⟩,hc,⟨⟨m0,hm0,hs⟩,kx,ky⟩=>by
  obtain⟨g1,_⟩:=gv hc hn h1;obtain⟨g2,_⟩:=gv hc hn.rev h2;have a:=GO hK h3 hx g1 kx;have b:=GO hK h4 hy g2 ky;obtain⟨d1,d2⟩:=atA hK hc hn hm0 hs h1 h2;rw[Tr.size];omega
def PW(hK: ∀m∈K,m.ok)(h:t.Prp c)(ht:t.all aa.ok)(hc:bC c)(hA:fP K t):2*t.size<=K.length*(K.length+1):=by
 have h1:=GO hK h ht hc hA;have h2:qg K c<=K.length*1:=w9 fun m _=>H3 _;have h3:yx K c<=K.length*(K.length-1):=w9 fun m hm=>by
  have:=xe (f:=fun n=>bN (xB c m n)) (g:=fun _=>1) (d:=1) (m0:=m) (K:=K) (fun n _=>H3 _) hm (by
   have:xB c m m=false:=by rw[<-iL,qC (hK m hm) (hK m hm)];rintro ⟨h,_⟩;exact h (.inl rfl)
   rw[this];decide)
  have l1:im (fun _=>1) K<=K.length*1:=w9 fun _ _=>bK _;unfold jE;omega
 have:K.length*(K.length+1)=K.length*(K.length-1)+2*K.length:=by
  cases K.length with
  |zero=>rfl
  |succ k=>rw[Nat.succ_sub_one,Nat.mul_succ,Nat.mul_succ,fN];omega
 omega
def Jk{K:List aa}(hK: ∀m∈K,m.ok): ∀{t:Tr} {c:ao},t.Prp c->t.all aa.ok->bC c->fP K t->t.depth<=qg K c
 | .leaf _,_,_,_,_,_=>aM _
 | .node n x y,c,⟨h1,h2,h3,h4⟩,⟨hn,hx,hy⟩,hc,⟨⟨m0,hm0,hs⟩,kx,ky⟩=>by
  obtain⟨g1,i1⟩:=gv hc hn h1;obtain⟨g2,i2⟩:=gv hc hn.rev h2;have a:=Jk hK h3 hx g1 kx;have b:=Jk hK h4 hy g2 ky;have hm0k:=hK m0 hm0;have n2:mB c m0=true:=by
   rw[n0 hc hm0k];obtain⟨p,hp,k⟩:=(n0 hc hn).1 (by unfold mB;rw[h1,h2];rfl);exact⟨p,hp,nI hs.symm k⟩
  have key: ∀d:ao,bC d->(∀p,bt d p->bt c p/\n.value p≠0)->qg K d+1<=qg K c:=fun d hd h=>by
   unfold qg;refine xe (m0:=m0) (d:=1) (fun m hm=>?_) hm0 ?_
   .have hmk:=hK m hm
    cases e1:mB d m with
    |false=>exact aM _
    |true=>
     obtain⟨p,hp,k⟩:=(n0 hd hmk).1 e1;rw[(n0 hc hmk).2 ⟨p,(h p hp).1,k⟩];exact bK _
   .have e1:mB d m0=false:=by
     rw[<-iL,n0 hd hm0k];rintro ⟨p,hp,k⟩;exact(h p hp).2 (nI hs k)
    try dsimp only
    rw[e1,n2];decide
  have d1:=key _ g1 fun p hp=>⟨((i1 p).1 hp).1,by have:=((i1 p).1 hp).2;grind⟩;have d2:=key _ g2 fun p hp=>⟨((i2 p).1 hp).1,by have:=((i2 p).1 hp).2;rw[eh] at this;grind⟩;show 1+max _ _<=_;omega
def WH(hK: ∀m∈K,m.ok)(h:t.Prp c)(ht:t.all aa.ok)(hc:bC c)(hA:fP K t):t.depth<=K.length:=by
 have h1:=Jk hK h ht hc hA;have h2:qg K c<=K.length*1:=w9 fun m _=>H3 _;omega
structure q6 (K:List aa) (t:Tr):Prop where
 ok:t.all aa.ok
 am:fP K t
 rd:t.Red []
def q6.size{K:List aa}(hK: ∀m∈K,m.ok){t:Tr}(h:q6 K t):2*t.size<=K.length*(K.length+1)/\t.depth<=K.length:=
 ⟨PW hK (Tr.red_prp h.rd) h.ok bC.nil h.am,WH hK (Tr.red_prp h.rd) h.ok bC.nil h.am⟩
def q6.merge{K:List aa}{op:Int}{t u:Tr}(h:q6 K t)(hu:u.all aa.ok)(hA:fP K u):q6 K (t.mergeQ op u []):=
 ⟨Tr.mergeQ_all aa.ok op hu t [] h.ok,h.am.merge hA [],Tr.merge_red op u t []⟩
def q6.lim(hK: ∀m∈K,m.ok)(hn:K.length<=361)(h:q6 K t)(hu:u.all aa.ok)(hA:fP K u)(hd:u.depth<=600):ng op t u=some (t.mergeQ op u []):=by
 obtain⟨a1,a2⟩:=h.size hK;obtain⟨b1,_⟩:=(h.merge (op:=op) hu hA).size hK;have:K.length*(K.length+1)<=361*362:=fM hn (by omega);exact awu (op:=op) (a:=t) (b:=u) (by omega) (by omega)
def Jw{K:List aa}(hK: ∀m∈K,m.ok)(hn:K.length<=361){op:Int}: ∀{us:List Tr} {t:Tr},(∀u∈us,u.all aa.ok/\fP K u/\u.depth<=600)->q6 K t->om op t us=some (us.foldl (fun t u=>t.mergeQ op u []) t)/\q6 K (us.foldl (fun t u=>t.mergeQ op u []) t)
 |[],t,_,ht=>⟨J,ht⟩
 |u::us,t,h,ht=>by
  obtain⟨h1,h2,h3⟩:=h u aQ;obtain⟨i1,i2⟩:=Jw hK hn (op:=op) (us:=us) (fun v hv=>h v (aJ _ hv)) (ht.merge (op:=op) h1 h2);refine⟨?_,i2⟩;rw[om,ht.lim hK hn h1 h2 h3];exact i1
def m6(V:List ah)(E:List (ah×ah))(K:List aa)(cs:List ao):List aa:=(K.flatMap fun l=>[jd l V,jd l.rev V])++cs.flatMap fun c=>E.filterMap (kG c)
def JB{α β:Type}{f:α->List β}{n:Nat}: ∀{l:List α},(∀x∈l,(f x).length<=n)->(l.flatMap f).length<=l.length*n
 |[],_=>by simp
 |x::l,h=>by
  have:=JB (f:=f) (n:=n) (l:=l) fun y hy=>h y (aJ _ hy);have:=h x aQ;rw[lX,aY,bZ,fN];omega
def LA{E:List (ah×ah)}{cs:List ao}:(m6 V E K cs).length<=K.length*2+cs.length*E.length:=by
 unfold m6;rw[aY];have h1:=JB (f:=fun l=>[jd l V,jd l.rev V]) (n:=2) (l:=K) fun x _=>bK _;have h2:=JB (f:=fun c=>E.filterMap (kG c)) (n:=E.length) (l:=cs) fun x _=>lK _ _;omega
def y8{E:List (ah×ah)}(hB:iD V E)(hK: ∀l∈K,l.ok){cs:List ao}: ∀l∈m6 V E K cs,l.ok:=fun l hl=>by
 rcases bJ.1 hl with h|h
 .obtain⟨k,hk,h⟩:=iQ.1 h
  simp only[aW,dT,or_false] at h;rcases h with rfl|rfl
  .exact(Bx (hK k hk) V).1
  .exact(Bx (hK k hk).rev V).1
 .obtain⟨c,_,h⟩:=iQ.1 h
  obtain⟨f,hf,h⟩:=jL.1 h;obtain⟨_,_,h1,_⟩:=Fz (hB.nz hf) h;exact h1
def M5{E:List (ah×ah)}{cs:List ao}(hc:c∈cs)(hs: ∀s∈c,∃m∈K,m.same s.l): ∀l∈fD c V E,l∈m6 V E K cs:=fun l hl=>by
 unfold fD at hl;rcases bJ.1 hl with h|h
 .obtain⟨s,hs',rfl⟩:=aT.1 h
  obtain⟨m,hm,k⟩:=hs s hs';refine bS _ (iQ.2 ⟨m,hm,?_⟩);rcases k with k|k<;>rw[k]<;>simp
 .exact bY _ (iQ.2 ⟨c,hc,h⟩)
def Ad: ∀l∈ce L,l∈L:=fun _ h=>(jw.1 h).1
def Bn{E:List (ah×ah)}(h: ∀l∈fD c V E,P l):(eG V E c).all P:=Ai fun l hl=>h l (Ad l hl)
def ava{E:List (ah×ah)}:(fD c V E).length<=c.length+E.length:=by
 unfold fD;rw[aY,aX];have:=lK (kG c) E;omega
def Qi{E:List (ah×ah)}:(eG V E c).depth<=c.length+E.length:=by
 unfold eG;rw[Kz];exact cM (oO _) ava
def OI(hA:fP K t)(hc:c∈cD t): ∀s∈c,∃m∈K,m.same s.l:=
 uR (P:=fun l=> ∃m∈K,m.same l) (fun l ⟨m,hm,h⟩=>⟨m,hm,h.trans (.inr J)⟩) hA (fun s hs=>by cases hs) (qp.1 hc)
def UC{E:List (ah×ah)}(hB:iD V E)(ht:t.all aa.ok)(hK: ∀l∈K,l.ok)(hA:fP K t)(hs: ∀c∈cD (t.restrict []),c.length+E.length<=600)(hn:(m6 V E K (cD (t.restrict []))).length<=361):
  om 1 (Tr.leaf false) ((cD (t.restrict [])).map (eG V E))=some (pP V E t)/\q6 (m6 V E K (cD (t.restrict []))) (pP V E t):=by
 have h:=Jw (K:=m6 V E K (cD (t.restrict []))) (y8 hB hK) hn (op:=1) (us:=(cD (t.restrict [])).map (eG V E)) (t:= .leaf false) (fun u hu=>by
  obtain⟨c,hc,rfl⟩:=aT.1 hu;obtain⟨g1,g2⟩:=zj ht c hc;exact⟨GF hB g1 g2,Bn fun l hl=>⟨l,M5 hc (OI (hA.restrict []) hc) l hl, .inl J⟩,cM Qi (hs c hc)⟩) ⟨trivial,trivial,trivial⟩
 rw[List.foldl_map] at h;exact h
def ZB(p:ah):Prop:= ∃m n:Int,p=iP m n/\m.natAbs<=8/\n.natAbs<=8
def ZB.neg(h:ZB p):ZB (bF p):=by
 obtain⟨m,n,rfl,h1,h2⟩:=h;refine⟨-m, -n,?_,by omega,by omega⟩;unfold bF iP;rw[iN,iN]
def QD(k:Nat)(q:ah):Prop:= ∃(D:Nat) (X Y:Int),0<D/\D<=2^k/\X.natAbs<=2^k/\Y.natAbs<=2^k/\q.x*((D:Int):Rat)=(X:Rat)/\q.y*((D:Int):Rat)=(Y:Rat)
def O6(x y z:Int):dC (x:Rat) (y:Rat) (z:Rat)=m5 x y z:=by
 unfold dC;simp only[mL,mM];simp
def iv{a:Int}(ha:a.natAbs<=A)(hb:b.natAbs<=B):(a*b).natAbs<=A*B:=by
 rw[fV];exact fM ha hb
def Gy{a c d:Int}{k:Nat}(ha:a.natAbs<2^k)(hb:b.natAbs<2^k)(hc:c.natAbs<2^k)(hd:d.natAbs<2^k):(a*b-c*d).natAbs<=2^(2*k+1):=by
 have h1:=iv (gV ha) (gV hb);have h2:=iv (gV hc) (gV hd);have e:2^(2*k+1)=2^k*2^k+2^k*2^k:=by rw[gL,Nat.two_mul,fJ];omega
 generalize a*b=u at*;generalize c*d=v at*;generalize 2^k*2^k=w at*;omega
def R7{k:Nat}{q:ah}(h0:D≠0)(hD:D.natAbs<=2^k)(hX:X.natAbs<=2^k)(hY:Y.natAbs<=2^k)(e1:q.x*(D:Rat)=(X:Rat))(e2:q.y*(D:Rat)=(Y:Rat)):QD k q:=by
 rcases Int.lt_or_lt_of_ne h0 with h|h
 .refine⟨D.natAbs, -X, -Y,by omega,hD,by omega,by omega,?_,?_⟩
  .rw[show((D.natAbs:Int))= -D by omega,iN,iN];grind
  .rw[show((D.natAbs:Int))= -D by omega,iN,iN];grind
 .refine⟨D.natAbs,X,Y,by omega,hD,hX,hY,?_,?_⟩
  .rw[show((D.natAbs:Int))=D by omega];exact e1
  .rw[show((D.natAbs:Int))=D by omega];exact e2
def QG{k:Nat}(hl:BL l k)(hm:BL m k)(h:crossI l m≠0):QD (2*k+1) (c8 l m):=by
 have h':((crossI l m:Int):Rat)≠0:=fun e=>h (cR.1 e);refine R7 (D:=crossI l m) (X:=meetX l m) (Y:=meetY l m) h (Gy hl.a hm.b hm.a hl.b) ?_ ?_ ?_ ?_
 .unfold meetX;exact Gy hl.b hm.c hm.b hl.c
 .unfold meetY;exact Gy hm.a hl.c hl.a hm.c
 .unfold c8;rw[if_neg h];exact rJ h'
 .unfold c8;rw[if_neg h];exact rJ h'
def Lq{k:Nat}(hl:BL l k)(h:l.ok):QD (2*k+1) l.base:=by
 have hn:=mA h.ne;have e:l.nor.dot l.nor=((l.a*l.a+l.b*l.b:Int):Rat):=by
  unfold aa.nor ah.dot;rw[lW,bM,bM]
 have hz:l.nor.dot l.nor≠0:=by grind
 have h0:l.a*l.a+l.b*l.b≠0:=fun k=>hz (by rw[e,k];rfl);have e4:(2:Nat)^(2*k+1)=2^k*2^k+2^k*2^k:=by rw[gL,Nat.two_mul,fJ];omega
 have q1:=iv (gV hl.a) (gV hl.a);have q2:=iv (gV hl.b) (gV hl.b);have q3:=iv (gV hl.a) (gV hl.c);have q4:=iv (gV hl.b) (gV hl.c);refine R7 (D:=l.a*l.a+l.b*l.b) (X:= -(l.a*l.c)) (Y:= -(l.b*l.c)) h0 (by omega) (by omega) (by omega) ?_ ?_
 .rw[<-e]
  show(l.a:Rat)*(-(l.c:Rat)/l.nor.dot l.nor)*l.nor.dot l.nor=_;rw[Rat.mul_assoc,rJ hz,iN,bM];grind
 .rw[<-e]
  show(l.b:Rat)*(-(l.c:Rat)/l.nor.dot l.nor)*l.nor.dot l.nor=_;rw[Rat.mul_assoc,rJ hz,iN,bM];grind
def Ot{q:ah}(h:q∈gi L): ∃l∈L,∃m∈L,crossI l m≠0/\q=c8 l m:=by
 obtain⟨i,hi,h⟩:=iQ.1 h;rw[kQ] at hi;obtain⟨l,hl⟩: ∃l,L[i]? =some l:=⟨_,aZ hi⟩;obtain⟨m,hm⟩: ∃m,L[(i+1)%L.length]? =some m:=⟨_,aZ (dV _ (by omega))⟩;rw[qF hl hm] at h;split at h
 .rename_i hc
  refine⟨l,aK hl,m,aK hm,fun e=>?_,by simpa using h⟩;have h2:l.dir.cross m.dir=0:=by
   have:=uK l m;rw[e] at this;unfold ah.cross aa.dir;dsimp only;have z:((0:Int):Rat)=0:=J;rw[z] at this;grind
  rw[h2] at hc;exact absurd hc (by decide)
 .cases h
def Ww{k:Nat}(hc:bC c)(ha:fq c)(hk: ∀s∈c,BL s.l k){f:ah×ah}(hn: ¬((bj f).x=0/\(bj f).y=0))(h1:ZB f.1)(h2:ZB f.2)(h:kG c f=some l):BL l (2*k+10):=by
 unfold kG at h
 cases hf:f7 c (bj f) with
 |none=>rw[hf] at h;cases h
 |some m=>
  rw[hf] at h
  cases h
  obtain⟨e1,e2⟩:=GG hc ha hn hf;obtain⟨q,hq,e3⟩:=(pf (n:=bj f) e2).2;rw[e1] at e3;have hqd:QD (2*k+1) q:=by
   unfold kE at hq;split at hq
   .obtain⟨l,hl,rfl⟩:=aT.1 hq
    obtain⟨s,hs,rfl⟩:=aT.1 hl;exact Lq (hk s hs) (hc.ok s hs)
   .obtain⟨l,hl,m,hm,hx,rfl⟩:=Ot hq
    obtain⟨s,hs,rfl⟩:=aT.1 hl;obtain⟨u,hu,rfl⟩:=aT.1 hm;exact QG (hk s hs) (hk u hu) hx
  obtain⟨D,X,Y,hD0,hD,hX,hY,x1,y1⟩:=hqd;obtain⟨m1,n1,p1,a1,a2⟩:=h1;obtain⟨m2,n2,p2,a3,a4⟩:=h2;have nx:(bj f).x=((n1-n2:Int):Rat):=by unfold bj;rw[p1,p2];unfold iP;rw[iV];grind
  have ny:(bj f).y=((m2-m1:Int):Rat):=by unfold bj;rw[p1,p2];unfold iP;rw[iV]
  generalize hA:n1-n2=A at nx;generalize hB:m2-m1=B at ny;have hD0':(0:Rat)<((D:Int):Rat):=by exact_mod_cast hD0
  have key:dC (bj f).x (bj f).y (-(m+(bj f).dot f.1))=m5 (A*D) (B*D) (-(A*X+B*Y+(A*m1+B*n1)*D)):=by
   rw[<-O6];refine(IM (fun uv=>?_) hn hD0' fun p=>?_).symm
   .obtain⟨u,v⟩:=uv
    rw[bM,<-nx] at u;rw[bM,<-ny] at v;refine hn ⟨?_,?_⟩
    .rcases fK.1 u with u|u
     .exact u
     .grind
    .rcases fK.1 v with v|v
     .exact v
     .grind
   .rw[e3,p1]
    unfold ah.dot iP;dsimp only;rw[nx,ny];simp only[bM,iN,lW];rw[<-x1,<-y1];grind
  show BL (dC (bj f).x (bj f).y (-(m+(bj f).dot f.1))) _;rw[key];have hA16:A.natAbs<=16:=by omega
  have hB16:B.natAbs<=16:=by omega
  have b0:(D:Int).natAbs<=2^(2*k+1):=hD;have b1:=iv hA16 b0;have b2:=iv hB16 b0;have b3:=iv hA16 hX;have b4:=iv hB16 hY;have b5:(A*m1+B*n1).natAbs<=256:=by
   have:=iv hA16 a1;have:=iv hB16 a2;omega
  have b6:=iv b5 b0;obtain⟨r1,r2,r3⟩:=yz (A*D) (B*D) (-(A*X+B*Y+(A*m1+B*n1)*D));have e9:2^(2*k+10)=2^(2*k+1)*512:=by rw[show 2*k+10=2*k+1+9 by omega,fJ]
  have w0:0<2^(2*k+1):=gX (by decide);generalize 2^(2*k+1)=w at*;exact⟨by omega,by omega,by omega⟩
def TJ{k:Nat}(hl:l.ok)(hk:BL l k)(hV:V≠[])(hz: ∀v∈V,ZB v):BL (jd l V) (2*k+10):=by
 obtain⟨v,hv,e⟩:=(pf (n:=l.nor) hV).2;obtain⟨m,n,rfl,h1,h2⟩:=hz v hv;unfold jd;have e2:(l.c:Rat)-i5 l.nor V=((l.c-(l.a*m+l.b*n):Int):Rat):=by
  rw[e];unfold ah.dot aa.nor iP;rw[iV,lW,bM,bM]
 rw[e2,O6];obtain⟨r1,r2,r3⟩:=yz l.a l.b (l.c-(l.a*m+l.b*n));have b1:=iv (gV hk.a) h1;have b2:=iv (gV hk.b) h2;have ka:=hk.a;have kb:=hk.b;have kc:=hk.c;have e9:2^(2*k+10)=2^k*(2^k*1024):=by rw[show 2*k+10=k+(k+10) by omega,fJ,fJ]
 have w1:1<=2^k:=gX (by decide);have e10:2^k*1024<=2^k*(2^k*1024):=by rw[<-cW];exact bR _ (mU _ w1)
 generalize 2^k*(2^k*1024)=z at*;generalize 2^k=w at*;exact⟨by omega,by omega,by omega⟩
def BL.mono{k:Nat}(h:BL l j)(hk:j<=k):BL l k:=by
 have:=bW (n:=2) (by decide) hk;exact⟨cN h.a this,cN h.b this,cN h.c this⟩
def BL.rev{l:aa}{k:Nat}(h:BL l k):BL l.rev k:=⟨by unfold aa.rev;dsimp only;rw[jT];exact h.a,by unfold aa.rev;dsimp only;rw[jT];exact h.b,by unfold aa.rev;dsimp only;rw[jT];exact h.c⟩
def xZ{k:Nat}{E:List (ah×ah)}(hB:iD V E)(hz: ∀v∈V,ZB v)(hc:bC c)(ha:fq c)(hk: ∀s∈c,BL s.l k): ∀l∈fD c V E,BL l (2*k+10):=fun l hl=>by
 rcases bJ.1 hl with h|h
 .obtain⟨s,hs,rfl⟩:=aT.1 h
  exact TJ (hc.ok s hs) (hk s hs) hB.vne hz
 .obtain⟨f,hf,h⟩:=jL.1 h
  exact Ww hc ha hk (hB.nz hf) (hz _ (hB.ends f hf).1) (hz _ (hB.ends f hf).2) h
def XL{k:Nat}{E:List (ah×ah)}(hB:iD V E)(hz: ∀v∈V,ZB v)(ht:t.all aa.ok)(hk:t.all fun l=>BL l k):(pP V E t).all fun l=>BL l (2*k+10):=by
 unfold pP;have hb: ∀c∈cD (t.restrict []),(eG V E c).all fun l=>BL l (2*k+10):=fun c hc=>by
  obtain⟨g1,g2⟩:=zj ht c hc;exact Bn (xZ hB hz g1 g2 (uR (P:=fun l=>BL l k) (fun l h=>h.rev) (t.restrict_all _ [] hk) (fun s hs=>by cases hs) (qp.1 hc)))
 have key: ∀(cs:List ao) (u:Tr),(∀c∈cs,(eG V E c).all fun l=>BL l (2*k+10))->(u.all fun l=>BL l (2*k+10))->(qP V E cs u).all fun l=>BL l (2*k+10):=fun cs=>by
  induction cs with
  |nil=>intro u _ hu;exact hu
  |cons c cs ih=>
   intro u h hu;exact ih _ (fun d hd=>h d (aJ _ hd)) (Tr.mergeQ_all _ 1 (h c aQ) u [] hu)
 exact key _ _ hb trivial
section
end
def Tt(p u v:ZP):bI p.q (j0 p u).q (j0 p v).q=((jv u v:Int):Rat):=by
 unfold bI j0 jv ZP.q iP;dsimp only;push_cast;grind
def wL(p:Nat->Bool):Nat->Nat->Nat->Nat
 |0,i,_=>i
 |d+1,i,j=>if i<j then(if p ((i+j)/2) then wL p d ((i+j)/2+1) j else wL p d i ((i+j)/2)) else i
def Gp(p:Nat->Bool): ∀(d i j:Nat),j-i<=d->fG p i j=wL p d i j
 |0,i,j,h=>by
  rw[fG,wL,dif_neg (by omega)]
 |d+1,i,j,h=>by
  rw[fG,wL];by_cases k:i<j
  .rw[dif_pos k,if_pos k]
   split
   .exact Gp p d _ _ (by omega)
   .exact Gp p d _ _ (by omega)
  .rw[dif_neg k,if_neg k]
def GY(c:ao)(l:aa)(v:ar):ao:=c.take (wL (ja c l) c.length 0 c.length)++⟨l,v⟩::c.drop (wL (ja c l) c.length 0 c.length)
def zp(c:ao)(l:aa):ao:=match kh c l with
 |some v=>GY (d7 l c) l v
 |none=>c
def ES(c:ao)(l:aa):bD c l=zp c l:=by
 unfold bD zp
 cases h:kh c l with
 |none=>rfl
 |some v=>
  show ld (d7 l c) l v=GY (d7 l c) l v;unfold ld GY;rw[Gp _ (d7 l c).length _ _ (by omega)]
def Tr.restrictF:Tr->ao->Tr
 | .leaf b,_=> .leaf b
 | .node l x y,c=>if !co c l.rev then x.restrictF c else if !co c l then y.restrictF c else joinQ l (x.restrictF (zp c l)) (y.restrictF (zp c l.rev))
def Tr.restrict_F: ∀(t:Tr) (c:ao),t.restrict c=t.restrictF c
 | .leaf _,_=>rfl
 | .node l x y,c=>by
  rw[Tr.restrict,Tr.restrictF,x.restrict_F c,y.restrict_F c,ES,ES,x.restrict_F,y.restrict_F]
def ul:List ZP:=[(0,0),(3,0),(3,1),(1,1),(1,3),(0,3)]
def Uj:(fC [ul] 2).size<=9:=by
 unfold fC;rw[Tr.restrict_F];decide+kernel
def Sz:eD ul:=⟨by decide,by decide,fun p hp=>by
  simp only[ul,aW,dT,or_false] at hp;rcases hp with rfl|rfl|rfl|rfl|rfl|rfl<;>exact⟨by decide,by decide⟩,fun i hi=>by
  have:i=0\/i=1\/i=2\/i=3\/i=4\/i=5:=by simp[ul] at hi;omega
  rcases this with rfl|rfl|rfl|rfl|rfl|rfl<;>decide⟩
def tD(v:List ah)(k i:Nat):Bool:=decide (i=k)||(decide (i=(k+1)%v.length)||decide (0<bI (v.getD k ⟨0,0⟩) (v.getD ((k+1)%v.length) ⟨0,0⟩) (v.getD i ⟨0,0⟩)))
def kI(v:List ah):Bool:=(List.range v.length).all fun k=>(List.range v.length).all fun i=>tD v k i
def QT:kI v=true↔ ∀k<v.length,∀i<v.length,tD v k i=true:=by
 unfold kI;simp only[dJ,kQ]
def aHo{k:Nat}(hk:k<v.length)(hi:i<v.length)(h:tD v k i=false):kI v=false:=by
 rw[<-iL,QT];exact fun f=>by rw[f k hk i hi] at h;cases h
def aIu{k:Nat}{w:ah}(h1:v[k]? =some q1)(h2:v[(k+1)%v.length]? =some q2)(h3:v[i]? =some w):tD v k i=(decide (i=k)||(decide (i=(k+1)%v.length)||decide (0<bI q1 q2 w))):=by
 unfold tD;rw[aV,aV,aV,h1,h2,h3];rfl
structure iu (V:List ah):Prop where
 br:iD V (bG V)
 zb: ∀v∈V,ZB v
 le:V.length<=4
def Tv(V:List ah):bG (V.map bF)=(bG V).map xz:=by
 unfold bG;rw[aX,qQ];refine List.map_congr_left fun i hi=>?_;have key: ∀k,(V.map bF).getD k ⟨0,0⟩=bF (V.getD k ⟨0,0⟩):=fun k=>by
  rw[aV,aV,cY]
  cases V[k]? with
  |some p=>rfl
  |none=>show(⟨0,0⟩:ah)=bF ⟨0,0⟩;unfold bF;simp
 show _=xz _;unfold xz;rw[key,key]
def iu.neg{V:List ah}(h:iu V):iu (V.map bF):=
 ⟨by rw[Tv];exact Z5 h.br,fun v hv=>by
  obtain⟨u,hu,rfl⟩:=aT.1 hv;exact(h.zb u hu).neg,by rw[aX];exact h.le⟩
def WD(a b c:ah):bG [a,b,c]=[(a,b),(b,c),(c,a)]:=by unfold bG;simp[rZ]
def UO(a b c d:ah):bG [a,b,c,d]=[(a,b),(b,c),(c,d),(d,a)]:=by unfold bG;simp[rZ]
def M0(a b c:ah):bI b c a=bI a b c:=by unfold bI;grind
def X4{a b c:ah}(h:0<bI a b c):kI [a,b,c]=true:=by
 have h1:=M0 a b c;have h2:=M0 b c a;simp[kI,tD,rZ,h1,h2,h]
def ZJ{a b c:Rat}(h1:a<c)(h2:b<d):kI [⟨a,b⟩,⟨c,b⟩,⟨c,d⟩,⟨a,d⟩]=true:=by
 have k:=Rat.mul_pos (show(0:Rat)<c-a by grind) (show(0:Rat)<d-b by grind);have o1:0<bI ⟨a,b⟩ ⟨c,b⟩ ⟨c,d⟩:=by unfold bI;dsimp only;grind
 have o2:0<bI ⟨a,b⟩ ⟨c,b⟩ ⟨a,d⟩:=by unfold bI;dsimp only;grind
 have o3:0<bI ⟨c,b⟩ ⟨c,d⟩ ⟨a,b⟩:=by unfold bI;dsimp only;grind
 have o4:0<bI ⟨c,b⟩ ⟨c,d⟩ ⟨a,d⟩:=by unfold bI;dsimp only;grind
 have o5:0<bI ⟨c,d⟩ ⟨a,d⟩ ⟨a,b⟩:=by unfold bI;dsimp only;grind
 have o6:0<bI ⟨c,d⟩ ⟨a,d⟩ ⟨c,b⟩:=by unfold bI;dsimp only;grind
 have o7:0<bI ⟨a,d⟩ ⟨a,b⟩ ⟨c,b⟩:=by unfold bI;dsimp only;grind
 have o8:0<bI ⟨a,d⟩ ⟨a,b⟩ ⟨c,d⟩:=by unfold bI;dsimp only;grind
 simp[kI,tD,rZ,o1,o2,o3,o4,o5,o6,o7,o8]
def GN{p:ZP}(h:p.1.natAbs<=8/\p.2.natAbs<=8):ZB p.q:=⟨p.1,p.2,J,h⟩
def NN{a b c:ZP}(h:0<bI a.q b.q c.q)(ha:a.1.natAbs<=8/\a.2.natAbs<=8)(hb:b.1.natAbs<=8/\b.2.natAbs<=8)(hc:c.1.natAbs<=8/\c.2.natAbs<=8):iu ([a,b,c].map ZP.q)/\kI ([a,b,c].map ZP.q)=true:=by
 refine⟨⟨?_,fun v hv=>?_,by simp⟩,X4 h⟩
 .show iD [a.q,b.q,c.q] (bG [a.q,b.q,c.q])
  rw[WD];exact aEX h
 .simp only[bU,iZ,aW,dT,or_false] at hv
  rcases hv with rfl|rfl|rfl
  .exact GN ha
  .exact GN hb
  .exact GN hc
def SL{a c d:Int}(h1:a<c:=by decide)(h2:b<d:=by decide)(ha:a.natAbs<=8:=by decide)(hb:b.natAbs<=8:=by decide)(hc:c.natAbs<=8:=by decide)(hd:d.natAbs<=8:=by decide):iu ((eg a b c d).map ZP.q)/\kI ((eg a b c d).map ZP.q)=true:=by
 have e:(eg a b c d).map ZP.q=[⟨(a:Rat),(b:Rat)⟩,⟨(c:Rat),(b:Rat)⟩,⟨(c:Rat),(d:Rat)⟩,⟨(a:Rat),(d:Rat)⟩]:=J;have q1:(a:Rat)<(c:Rat):=by exact_mod_cast h1
 have q2:(b:Rat)<(d:Rat):=by exact_mod_cast h2
 rw[e];refine⟨⟨?_,fun v hv=>?_,by simp⟩,ZJ q1 q2⟩
 .rw[UO];exact aJt q1 q2
 .simp only[aW,dT,or_false] at hv
  rcases hv with rfl|rfl|rfl|rfl
  .exact⟨a,b,J,ha,hb⟩
  .exact⟨c,b,J,hc,hb⟩
  .exact⟨c,d,J,hc,hd⟩
  .exact⟨a,d,J,ha,hd⟩
def aDz(ha:a<=es.length):iu ((gn es a).1.map ZP.q)/\kI ((gn es a).1.map ZP.q)=true:=by
 have h0:=hH (n:=2) ha;unfold gn;dsimp only;split
 .unfold zk
  dsimp only;generalize (au es 2 a).2=k at*;have e1:=dO (es:=es) (n:=3) (a:=k);generalize au es 3 k=x at*;have e2:=dO (es:=es) (n:=3) (a:=x.2);generalize au es 3 x.2=y at*;have e3:=dO (es:=es) (n:=2) (a:=y.2);generalize au es 2 y.2=z at*;have e4:=dO (es:=es) (n:=2) (a:=z.2);generalize au es 2 z.2=w at*;exact SL (by omega) (by omega) (by omega) (by omega) (by omega) (by omega)
 .generalize (au es 2 a).2=k at*
  have e1:=dO (es:=es) (n:=3) (a:=k);generalize au es 3 k=x at*;have e2:=dO (es:=es) (n:=3) (a:=x.2);generalize au es 3 x.2=y at*;have e3:=dO (es:=es) (n:=2) (a:=y.2);generalize au es 2 y.2=u1 at*;have e4:=dO (es:=es) (n:=3) (a:=u1.2);generalize au es 3 u1.2=u2 at*;have e5:=dO (es:=es) (n:=3) (a:=u2.2);generalize au es 3 u2.2=v1 at*;have e6:=dO (es:=es) (n:=2) (a:=v1.2);generalize au es 2 v1.2=v2 at*;split
  .rename_i hcr
   have:=Tt ((x.1:Int)-1,(y.1:Int)-1) (1+(u1.1:Int),(u2.1:Int)-1) ((v1.1:Int)-1,1+(v2.1:Int));exact NN (by rw[this];exact_mod_cast hcr) ⟨by dsimp only;omega,by dsimp only;omega⟩ ⟨by unfold j0;dsimp only;omega,by unfold j0;dsimp only;omega⟩ ⟨by unfold j0;dsimp only;omega,by unfold j0;dsimp only;omega⟩
  .exact NN (by decide+kernel) ⟨by decide,by decide⟩ ⟨by decide,by decide⟩ ⟨by decide,by decide⟩
def lj(es:List Int)(a:Nat):Tr×Nat:=
 let k:=au es 4 a
 if(k.1:Int)=0 then(yb (lF es k.2).1,(lF es k.2).2)
 else if(k.1:Int)=1 then(fC [(gn es k.2).1] 2,(gn es k.2).2)
 else if(k.1:Int)=2 then((fC [(gn es k.2).1] 2).compl,(gn es k.2).2)
 else(fC [ul] 2,k.2)
def PA{v w:ZP}(h1:v.1.natAbs<=8)(h2:v.2.natAbs<=8)(h3:(w.1-v.1).natAbs<=8)(h4:(w.2-v.2).natAbs<=7):BL (nA v.1 v.2 w.1 w.2) 8:=by
 obtain⟨r1,r2,r3⟩:=yz (lD v.2 w.2) (lG v.1 w.1) (sI v.1 v.2 w.1 w.2);have b1:(lD v.2 w.2*v.1).natAbs<=7*8:=iv (by unfold lD;omega) h1;have b2:(lG v.1 w.1*v.2).natAbs<=8*8:=iv (by unfold lG;omega) h2;have b3:(lD v.2 w.2).natAbs<=7:=by unfold lD;omega
 have b4:(lG v.1 w.1).natAbs<=8:=by unfold lG;omega
 have b5:(sI v.1 v.2 w.1 w.2).natAbs<=120:=by
  show(-(lD v.2 w.2*v.1+lG v.1 w.1*v.2)).natAbs<=120;omega
 exact⟨eX r1 (by omega),eX r2 (by omega),eX r3 (by omega)⟩
def ayA(hr:eD r)(h: ∀p∈r,p.1.natAbs<=3/\p.2.natAbs<=3)(fill:Int):(fC [r] fill).all fun l=>BL l 8:=by
 unfold fC sC;refine Tr.restrict_all _ _ [] (ye fun f hf=>?_);unfold iB at hf;rw[lX,List.flatMap_nil,fR] at hf;have key: ∀n,n<=r.length-> ∀f∈qa r n,BL f.l 8:=fun n=>by
  induction n with
  |zero=>intro _ f hf;cases hf
  |succ n ih=>
   intro hn f hf;rw[qa] at hf;rcases bJ.1 hf with hf|hf
   .exact ih (by omega) f hf
   .rw[aU.1 hf]
    have a1:=h _ (uI (r:=r) (i:=n));have a2:=h _ (wZ (r:=r) (i:=n));exact PA (by omega) (by omega) (by omega) (by omega)
 exact key _ (bK _) f hf
structure jA (t:Tr):Prop where
 x:gc 18 t
 rd:t.Red []
 bl:t.all fun l=>BL l 8
 dp:t.depth<=6
 k: ∃K:List aa,K.length*2+4*(t.size+1)<=52/\K.length<=6/\(∀l∈K,l.ok)/\fP K t
def jA.compl{t:Tr}(h:jA t):jA t.compl:=by
 obtain⟨K,h1,h2,h3,h4⟩:=h.k;exact⟨h.x.compl,Tr.compl_red h.rd,t.compl_all _ h.bl,by rw[t.compl_depth];exact h.dp,K,by rw[t.compl_size];exact h1,h2,h3,h4.compl⟩
def HG(hr:eD r)(h: ∀p∈r,p.1.natAbs<=3/\p.2.natAbs<=3)(hn:r.length*2+4*((fC [r] 2).size+1)<=52):jA (fC [r] 2):=by
 have ho:=Ia (rs:=[r]) (fill:=2) (fun q hq=>by rw[aU.1 hq];exact hr) (by simp);obtain⟨e1,e2⟩:=Ap hr;have hR:sC [r] 2=jy (mG [r] 2) r.length (jF r) []:=by
  unfold sC iB;rw[lX,List.flatMap_nil,fR,e1]
 have hro:js r.length (fC [r] 2):=by
  unfold fC;rw[hR];exact(CM (acc:=mG [r] 2) e2 e1).restrict []
 have h6:=hr.n6;obtain⟨K,k1,k2,k3⟩:=hro.am;exact⟨ho.x (C0 _ _) (by decide),C0 _ _,ayA hr h 2,cM hro.dp h6,K,by omega,by omega,k2,k3⟩
def Ls(hr:eD r)(hn:r.length<=4):(fC [r] 2).size<=10:=by
 obtain⟨e1,e2⟩:=Ap hr;have hR:sC [r] 2=jy (mG [r] 2) r.length (jF r) []:=by
  unfold sC iB;rw[lX,List.flatMap_nil,fR,e1]
 have hro:js r.length (fC [r] 2):=by
  unfold fC;rw[hR];exact(CM (acc:=mG [r] 2) e2 e1).restrict []
 obtain⟨K,k1,k2,k3⟩:=hro.am;have:=PW k2 (Tr.red_prp (C0 [r] 2)) hro.gd.ok bC.nil k3;have h4:K.length*(K.length+1)<=4*5:=fM (by omega) (by omega);omega
def aDW(ha:a<=es.length):(∀p∈(gn es a).1,p.1.natAbs<=3/\p.2.natAbs<=3)/\(gn es a).1.length<=4:=by
 have h0:=hH (n:=2) ha;unfold gn;dsimp only;split
 .unfold zk
  dsimp only;generalize (au es 2 a).2=k at*;have e1:=dO (es:=es) (n:=3) (a:=k);generalize au es 3 k=x at*;have e2:=dO (es:=es) (n:=3) (a:=x.2);generalize au es 3 x.2=y at*;have e3:=dO (es:=es) (n:=2) (a:=y.2);generalize au es 2 y.2=z at*;have e4:=dO (es:=es) (n:=2) (a:=z.2);generalize au es 2 z.2=w at*;refine⟨fun p hp=>?_,by simp[eg]⟩;simp only[eg,aW,dT,or_false] at hp;rcases hp with rfl|rfl|rfl|rfl<;>exact⟨by dsimp only;omega,by dsimp only;omega⟩
 .generalize (au es 2 a).2=k at*
  have e1:=dO (es:=es) (n:=3) (a:=k);generalize au es 3 k=x at*;have e2:=dO (es:=es) (n:=3) (a:=x.2);generalize au es 3 x.2=y at*;have e3:=dO (es:=es) (n:=2) (a:=y.2);generalize au es 2 y.2=u1 at*;have e4:=dO (es:=es) (n:=3) (a:=u1.2);generalize au es 3 u1.2=u2 at*;have e5:=dO (es:=es) (n:=3) (a:=u2.2);generalize au es 3 u2.2=v1 at*;have e6:=dO (es:=es) (n:=2) (a:=v1.2);generalize au es 2 v1.2=v2 at*;split
  .refine⟨fun p hp=>?_,by simp[gp]⟩
   simp only[gp,j0,aW,dT,or_false] at hp;rcases hp with rfl|rfl|rfl<;>exact⟨by dsimp only;omega,by dsimp only;omega⟩
  .refine⟨fun p hp=>?_,sW J⟩
   simp only[AL,aW,dT,or_false] at hp;rcases hp with rfl|rfl|rfl<;>exact⟨by decide,by decide⟩
def PE(ha:a<=es.length):jA (fC [(gn es a).1] 2):=by
 obtain⟨h1,h2⟩:=aDW ha;have hr:=(A5 ha).1;have:=Ls hr h2;exact HG hr h1 (by omega)
def Wh(ha:a<=es.length):BL (lF es a).1 8:=by
 obtain⟨h1,h2,h3⟩:=Bo ha;obtain⟨k1,k2,_,_⟩:=HT h3;unfold lF;dsimp only;exact PA (v:=(pF es a).1) (w:=((pF es a).1.1+1*(vF es (pF es a).2).1.1,(pF es a).1.2+1*(vF es (pF es a).2).1.2)) (by omega) (by omega) (by dsimp only;omega) (by dsimp only;omega)
def Yt(h:LS l)(hb:BL l 8):jA (yb l):=by
 have ho:=Ve h;have hr:(yb l).Red []:=Tr.restrict_red _ _;have hs:(yb l).size<=1:=Tr.restrict_size (.node l (.leaf true) (.leaf false)) [];have hd:=(yb l).depth_size;refine⟨ho.x hr (by decide),hr,Tr.restrict_all _ _ [] ⟨hb,trivial,trivial⟩,by omega,[l],by rw[fZ];omega,sW J,fun m hm=>by rw[aU.1 hm];exact h.ok,?_⟩;exact fP.restrict (t:= .node l (.leaf true) (.leaf false)) ⟨⟨l,aU.2 J, .inl J⟩,trivial,trivial⟩ []
def aAk(ha:a<=es.length):jA (lj es a).1/\(lj es a).2<=es.length:=by
 have h0:=hH (n:=4) ha;unfold lj;dsimp only;split
 .obtain⟨h1,h2⟩:=L3 h0
  exact⟨Yt h1 (Wh h0),h2⟩
 .split
  .exact⟨PE h0,(A5 h0).2⟩
  .split
   .exact⟨(PE h0).compl,(A5 h0).2⟩
   .refine⟨HG Sz (fun p hp=>?_) (by have:=Uj;simp only[ul,bZ,dS] at*;omega),h0⟩
    simp only[ul,aW,dT,or_false] at hp;rcases hp with rfl|rfl|rfl|rfl|rfl|rfl<;>exact⟨by decide,by decide⟩
def JK(hV:iu V)(h:jA t):om 1 (Tr.leaf false) ((cD (t.restrict [])).map (eG V (bG V)))=some (pP V (bG V) t)/\gc 54 (pP V (bG V) t)/\(pP V (bG V) t).Red []/\(pP V (bG V) t).all (fun l=>BL l 26):=by
 obtain⟨K,h1,h2,h3,h4⟩:=h.k;have hE:(bG V).length<=4:=by unfold bG;rw[aX,kV];exact hV.le
 have ho:=h.x.ok;have hcl:(cD (t.restrict [])).length<=t.size+1:=cM (Ft _) (Nat.succ_le_succ (t.restrict_size []));have hKl:(m6 V (bG V) K (cD (t.restrict []))).length<=52:=by
  have:=LA (V:=V) (E:=bG V) (K:=K) (cs:=cD (t.restrict []));have:(cD (t.restrict [])).length*(bG V).length<=(t.size+1)*4:=fM hcl hE;omega
 have hs: ∀c∈cD (t.restrict []),c.length+(bG V).length<=600:=fun c hc=>by
  have:=A' (t.restrict_all LB [] h.x.lb) (t.restrict_all aa.ok [] ho) c hc;have:=t.restrict_depth [];have:=h.dp;omega
 obtain⟨a1,a2⟩:=UC hV.br ho h3 h4 hs (by omega);have hb:=XL hV.br hV.zb ho h.bl;obtain⟨b1,b2⟩:=a2.size (y8 hV.br h3);have b3:(m6 V (bG V) K (cD (t.restrict []))).length*((m6 V (bG V) K (cD (t.restrict []))).length+1)<=52*53:=fM hKl (by omega);exact⟨a1,⟨⟨⟨Tr.all_imp (fun l h=>⟨h.mono (by decide)⟩) hb,a2.ok⟩,by omega,_,by omega,y8 hV.br h3,a2.am⟩,by omega⟩,a2.rd,hb⟩
section
variable {n:Nat}{own:aI}{lk:LK}{bk:BM}
variable {dst:Option Nat}{t t' ty':TypeId}{pos:String}{af:Array Edge}{gd:Option (Nat×Bool)}{x y:Operand}
end
section
variable {n:Nat}{own:aI}{ops:Array Oper}{r:List Oper}{K:List Kt}
end
section
variable (hE:EG GB ai al ae){k:Nat}{a b:Tr}(ha:gc j a)(hb:gc k b)
include hE ha
include hb
end
section
variable (hE:EG GB ai al ae)
include hE
end

def YK(l:List ah):cO 6 (l.map eZ):=fun d hd=>by
 obtain⟨x,_,rfl⟩:=aT.1 hd;exact⟨J,J⟩
def aGC[h:aC p i](hi:i<=900000000:=by decide):PF GB prog 168 [eZ p] (eZ (bF p)):=by
 refine fn func168 J J ntmps168 J J (fun C=>?_);refine cl J (pC (q:=p.x) (i:=i) hi) J<|cl J (pC (q:=p.y) (i:=i) hi) J<|rz J J
def VM[h:aC p i](hi:i<=900000000:=by decide):PF GB prog 129 [eZ p] (eZ (ie p)):=by
 refine fn func129 J J ntmps129 J J (fun C=>?_);refine cl J (pC (q:=p.y) (i:=i) hi) J<|rz J J
def O3[h:BQ q i](hi:i<=400000000:=by decide):PF GB prog 153 [eR q] (eF q):=by
 haveI:BN q.num.natAbs i:=⟨h.hn⟩;haveI:BN q.den i:=⟨h.hd⟩;refine fn func153 J J ntmps153 J J (fun C=>?_);refine cl (fu:=⟨0⟩) J (u9 (n:=decide (q.num<0)) (a:=q.num.natAbs) (d:=q.den) (i:=i) (j:=i) (by omega) (by omega)) J<|aj 7 (.d (eF q)) J (by rw[lI,rL])<|gx J<|rz J J
def WJ[h:aC p i](hi:i<=400000000:=by decide):PF GB prog 79 [n9 p] (eZ p):=by
 refine fn func79 J J ntmps79 J J (fun C=>?_);refine cl J (O3 (q:=p.x) (i:=i) hi) J<|cl J (O3 (q:=p.y) (i:=i) hi) J<|rz J J
def MY{q:ah}[hp:aC p i][hq:aC q i](hi:i<=1000000:=by decide):PF GB prog 189 [eZ p,eZ q] (vB (decide (p.x=q.x/\p.y=q.y))):=by
 refine fn func189 J J ntmps189 J J (fun C=>?_);refine cl J (EH (p:=p.x) (q:=q.x) (i:=i) (j:=i) (by omega) (by omega)) J<|csd 10 J J J (fun hg10=>?_) (fun hg10=>?_)
 .
  refine cl J (EH (p:=p.y) (q:=q.y) (i:=i) (j:=i) (by omega) (by omega)) J<|rz J (by show DV.v (.bool _)= .v (.bool _);simp_all)
 .
  exact rz J (by show DV.v (.bool _)= .v (.bool _);simp_all)
def IS{q:ah}[hp:aC p i][hq:aC q j](hi:i<=10000000:=by decide)(hj:j<=10000000:=by decide):PF GB prog 128 [eZ p,eZ q] (eZ ⟨p.x-q.x,p.y-q.y⟩):=by
 refine fn func128 J J ntmps128 J J (fun C=>?_);refine cl J (p7 (p:=p.x) (q:=q.x) (i:=i) (j:=j) (by omega) (by omega)) J<|cl J (p7 (p:=p.y) (q:=q.y) (i:=i) (j:=j) (by omega) (by omega)) J<|rz J J
def Zs(h: ¬gu q)(hy:Is G (dl q) y):y= .pointer none:=by
 unfold dl at hy;rw[decide_eq_false h] at hy;rcases tq.1 hy with⟨_,e⟩|⟨e,_⟩
 .exact e
 .cases e
def aJn(h: ¬gu q):Is G (dl q) (.pointer none):=by
 unfold dl;rw[decide_eq_false h];exact tq.2 (.inl ⟨J,J⟩)
def xF(q:Rat):List Value:=[.int .i64 (dm q), .int .i64 (dw q), .pointer none]
def X'{t:List DV}{m:List Value}(h: ¬gu q)(hm:IsLs G (vI (dm q)::vI (dw q)::dl q::t) m): ∃n,m=xF q++n/\IsLs G t n:=by
 obtain⟨y1,m1,rfl,h1,hm1⟩:=bi.1 hm;obtain⟨y2,m2,rfl,h2,hm2⟩:=bi.1 hm1;obtain⟨y3,m3,rfl,h3,hm3⟩:=bi.1 hm2;obtain rfl:=aH.1 h1;obtain rfl:=aH.1 h2;obtain rfl:=Zs h h3;exact⟨m3,J,hm3⟩
def Vd{t:List DV}{n:List Value}(h: ¬gu q)(k:IsLs G t n):IsLs G (vI (dm q)::vI (dw q)::dl q::t) (xF q++n):= .cons (aH.2 J) (.cons (aH.2 J) (.cons (aJn h) k))
def rV(q:Rat):Value:= .agg ⟨xF q⟩
def aKL(h: ¬gu q)(hy:Is G (eF q) y):y=rV q:=by
 obtain⟨m,rfl,hm⟩:=ew.1 hy;obtain⟨n,rfl,hn⟩:=X' h hm;rw[en.1 hn];rfl
def Z9(h: ¬gu q):Is G (eF q) (rV q):=ew.2 ⟨_,J,Vd h (en.2 J)⟩

def mC(v:List ah):List (List DV):=(List.range v.length).map fun i=>[vI (i:Nat),Jd (v.getD i ⟨0,0⟩) (v.getD ((i+1)%v.length) ⟨0,0⟩)]
def Qd{q:ah}(h1:v[i]? =some p)(h2:v[(i+1)%v.length]? =some q):(mC v)[i]? =some [vI (i:Nat),Jd p q]:=by
 have hi:=(aR.1 h1).1;unfold mC;rw[cY,qJ hi,lV,aV,aV,h1,h2];rfl
def JA{e:List DV}(h:(mC v)[i]? =some e): ∃p q,v[i]? =some p/\v[(i+1)%v.length]? =some q/\e=[vI (i:Nat),Jd p q]:=by
 have hi:i<v.length:=by
  have:=(aR.1 h).1;unfold mC at this;simpa using this
 have h1:v[i]? =some v[i]:=aZ hi;have hm:(i+1)%v.length<v.length:=dV _ (by omega);have h2:v[(i+1)%v.length]? =some v[(i+1)%v.length]:=aZ hm;refine⟨_,_,h1,h2,?_⟩;rw[Qd h1 h2] at h;exact(Option.some.inj h).symm
def Ir: ∀e∈mC v,e.length=2:=fun e he=>by
 obtain⟨i,_,rfl⟩:=aT.1 he;rfl
def F8(hn:v.length<=100000:=by omega):It GB prog 202 [.pt [.sl (v.map eZ)]] (mC v):=by
 have hml:(v.map eZ).length=v.length:=aX ..;have hrl:(mC v).length=v.length:=by unfold mC;simp
 refine aKY func202 J J ntmps202 J (fun _=>J) (fun l Jv Jx GB' hg H C hp hJ=>?_);refine YS 1 J<|gx J<|aj 6 (.d (vI (v.length:Nat))) J (by rw[hml]<;>rfl)<|lpC (X:=Nat) (fun k=>[(0, .d (.v (.func (.yield l) #[] #[]))),(1, .ep [.sl (v.map eZ)]),(5, .d (.sl (v.map eZ))),(6, .d (vI (v.length:Nat))),(7, .d (vI (k:Nat)))]) (fun k C=>k<=v.length/\Jv k C.G0 C.w0) (fun k=>v.length-k) 0 hp ⟨aM _,hJ⟩ (fun _=>J) (fun k C1 hp1 hk=>?_);obtain⟨hk1,hJ1⟩:=hk;refine br J J J (fun hc8=>?_) (fun hc8=>?_)
 .obtain⟨p,hpx⟩: ∃u,v[k]? =some u:=⟨_,aZ (by omega)⟩
  obtain⟨q,hqx⟩: ∃u,v[(k+1)%v.length]? =some u:=⟨_,aZ (dV _ (by omega))⟩;refine ix _ J (ck hpx) J<|aj 20 (.d (vI (((k+1)%v.length:Nat):Int))) J (by rw[hml]<;>rfl)<|gx J<|ix _ J (ck hqx) J<|Ul (len:=2) (s:=6) (e:=160) J (by kernel_rfl) (by kernel_rfl) J<|W4 (by kernel_rfl) J ?_;refine cy [(0, .d (.v (.func (.yield l) #[] #[]))),(1, .ep [.sl (v.map eZ)]),(5, .d (.sl (v.map eZ))),(6, .d (vI (v.length:Nat))),(7, .d (vI (k:Nat)))] H hp1 hJ1 J (Qd hpx hqx) J (by repeat (first|exact trivial|refine And.intro J ?_)) J J J (fun C3 hp3 hJ3=>?_) (fun C3 hp3 hJ3=>?_)
  .exact atC (k+1) hp3 ⟨⟨by omega,hJ3⟩,by omega⟩
  .exact KJ H hp3 (.inr hJ3) J
 .obtain rfl:k=v.length:=by omega
  exact KJ H hp1 (.inl (by rw[hrl];exact hJ1)) J
def Hd:HJ GB prog 127 [.sl (v.map eZ)] 202 (.pt [.sl (v.map eZ)]):=by
 refine Un func127 J J ntmps127 J J (fun C=>?_);refine fz 1 J J<|V7 1 J (fun GB' pv hg hp=>?_);refine mkG J J<|YY J J hp
def U8:HZ 158:=fun x w=>by kernel_rfl
def Xv(m:List Value):Cm 158 (.agg ⟨m⟩) "Mul" 215:=fun w=>by kernel_rfl
def ax1(l:List Rat)(k:Nat)(y:Rat):(l.map eF).set k (eF y)=(l.set k y).map eF:=(jS ..).symm
def nD(L:List Rat)(k:Rat)(j:Nat):List Rat:=(L.take j).map (· *k)++L.drop j
def aEG(L:List Rat)(k:Rat)(j:Nat):(nD L k j).length=L.length:=by
 unfold nD;rw[aY,aX,bT,gU];omega
def aDr{L:List Rat}{k a:Rat}(h:L[j]? =some a):(nD L k j)[j]? =some a:=by
 have hj:=(aR.1 h).1;unfold nD;rw[jU (by rw[aX,bT];omega),aX,bT,mK,<-h];congr 1;omega
def XH{L:List Rat}{k a:Rat}(h:L[j]? =some a):(nD L k j).set j (a*k)=nD L k (j+1):=by
 have hj:=(aR.1 h).1;unfold nD;rw[dZ,h,nT _ _ (by rw[aX,bT];omega),aX,bT,show j-min j L.length=0 by omega,bX hj];simp only[kR,aS,bU,iZ,List.set_cons_zero,dW,gW,jM]
def MN{L:List Rat}{k:Rat}[hk:BQ k i](hL: ∀a∈L,¬gu a)(hb: ∀a∈L,BQ a i)(hn:L.length<=1000)(hi:i<=1000000:=by decide):PB GB prog 199 (fA [some (eF k),none]) 3 158 (L.map eF) (fun w=> .v (.slice w.a w.n w.c)) ((L.map (· *k)).map eF):=by
 have hml:(L.map eF).length=L.length:=aX ..;refine Dj (fu:=⟨11⟩) func199 J J ntmps199 J J (fun C=>?_);refine aj 7 (.d (vI (L.length:Nat))) J (by rw[hml]<;>rfl)<|gx J<|lp (X:=Nat) (fun j=>[(8, .d (vI (j:Nat)))]) (fun j=>[(1000000,some (.b 158 3 ((nD L k j).map eF) false))]) (fun j=>j<=L.length) (fun j=>L.length-j) 0 J (aM _) (fun _=>J) (fun j hk=>?_);have hsl:=aEG L k j;have hsm:((nD L k j).map eF).length=(nD L k j).length:=aX ..;refine br J J J (fun hc9=>?_) (fun hc9=>?_)
 .
  obtain⟨a,hx⟩: ∃u,L[j]? =some u:=⟨_,aZ (by omega)⟩;have ham:=aK hx;haveI:=hb a ham;have hga:(nD L k j)[j]? =some a:=aDr hx;refine lb (fu:=⟨0⟩) _ J (ck hga) J<|Zy (fu:=⟨1⟩) (rV a) J U8 (fun G y hy=>aKL (hL a ham) hy) J<|ivk J (Xv _) (PF.arg0 (n8 (p:=a) (q:=k) (i:=i) (j:=i) (by omega) (by omega)) (fun G y h=>by rw[aH.1 h];exact Z9 (hL a ham))) J<|sb (hv:=by simp only[ak];exact⟨by kernel_rfl,by omega⟩) _ ((nD L k (j+1)).map eF) J (ck hga) J (by rw[<-XH hx,<-ax1]<;>rfl) J<|at_ (j+1) ⟨(by omega),(by omega)⟩
 .
  obtain rfl:j=L.length:=by omega
  have hend:nD L k L.length=L.map (· *k):=by unfold nD;rw[cS,fY,fR]
  exact vw J J J (by rw[hend])
def IE{a:Int}{g:Nat}(hg:0<g)(hd:g∣a.natAbs):(a:Rat)*(((g:Nat):Int):Rat)⁻¹=((zv (decide (a<0)) (a.natAbs/g):Int):Rat):=by
 obtain⟨q,hq⟩:=hd;have e:zv (decide (a<0)) (a.natAbs/g)*(g:Int)=a:=by
  rw[hq,rY q hg];unfold zv;have hc:((g*q:Nat):Int)=(g:Int)*(q:Int):=by simp
  have hm:=rR (g:Int) (q:Int);split
  .rename_i h
   have h:=of_decide_eq_true h;rw[Int.neg_mul];omega
  .rename_i h
   have h: ¬a<0:=fun k=>h (decide_eq_true k);omega
 generalize zv (decide (a<0)) (a.natAbs/g)=z at*;have h0:((g:Int):Rat)≠0:=by
  intro k;have:(g:Int)=0:=by exact_mod_cast k
  omega
 rw[<-e,bM];generalize ((g:Int):Rat)=r at*;grind
def yw{k:Nat}(h:BQ q k)(hk:k<=62:=by decide): ¬gu q:=fun b=>b (by
 have hp:2^k<=2^62:=bW (by decide) hk;have e:(2:Nat)^62=4611686018427387904:=by decide
 obtain⟨h1,h2⟩:=h;exact⟨by omega,by omega⟩)
theorem CZ(p q:ah)[aC p i][aC q j]:aC ⟨p.x-q.x,p.y-q.y⟩ (i+j+1):=⟨inferInstanceAs (BQ (p.x-q.x) _),inferInstanceAs (BQ (p.y-q.y) _)⟩
theorem SG(h:z.natAbs<=1000000):BQ (z:Rat) 22:=by
 have e:(2:Nat)^21=2097152:=by decide
 haveI:BI z 21:=⟨by omega⟩;exact(inferInstance:BQ (z:Rat) 22)
theorem F6{z:ZP}(h:ZP.le 100 z):aC z.q 22:=⟨SG (by have:=h.1;omega),SG (by have:=h.2;omega)⟩
def Sk{k:Nat}(h:(r.map ZP.q)[k]? =some p):k<r.length/\p=(r.getD k (0,0)).q:=by
 rw[cY] at h
 cases e:r[k]? with
 |none=>rw[e] at h;cases h
 |some z=>
  rw[e] at h;cases h;exact⟨(aR.1 e).1,by rw[aV,e];rfl⟩
end Go.Sx
end
