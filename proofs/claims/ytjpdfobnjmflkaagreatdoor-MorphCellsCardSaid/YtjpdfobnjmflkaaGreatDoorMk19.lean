import Derived.Test.YtjpdfobnjmflkaaGreatDoorMk18
import Derived.RecoverIn
set_option linter.all false
set_option maxHeartbeats 2000000
set_option maxRecDepth 100000
section
namespace Go.Sx
open Go Go.Proofs Tryz
variable {GB G:Gh}{l m m0:aa}{a a' b' c' g d q:Rat}{b fill op D X Y z:Int}{c:ao}{V v:List ah}{n p q1 q2:ah}{s:bA}{rs:List (List ZP)}{P:aa->Prop}{L K:List aa}{t u:Tr}{A B j i:Nat}{r:List ZP}{C:aF}{Q0:Exit->Act->World->Prop}{fr fr':aC}{own':aI}{cf cf':Cf}{vc:List Prop}{y:Value}{ai al ae:Addr}
def Za(hl:l.ok)(hm:m.ok){k:Rat}(hk:0<k)(h: ∀p,l.value p=k*m.value p):l=m:=by
 have hz: ∀s,l.value (m.at s)=0:=fun s=>by rw[h,lE hm.ne];grind
 rcases w8 hl hm hz with e|e
 .exact e
 .exfalso
  have hn:=mG hm.ne;have h1:=h (cF (m.at 0) m.nor 1);rw[e,fe,jc,lE hm.ne] at h1;have:=dd hk hn;grind
def IS{b c:Rat}(h: ¬(a=0/\b=0))(h': ¬(a'=0/\b'=0)){k:Rat}(hk:0<k)(e: ∀p:ah,a*p.x+b*p.y+c=k*(a'*p.x+b'*p.y+c')):dC a b c=dC a' b' c':=by
 obtain⟨g,g0,hg⟩:=xu (c:=c) h;obtain⟨g',g0',hg'⟩:=xu (c:=c') h';refine Za (Ay h) (Ay h') (k:=g*k/g') (div_pos (dd g0 hk) g0') fun p=>?_;rw[hg,hg',e];have:g*k/g'*g'=g*k:=by grind
 generalize g*k/g'=z at*;grind
def fE(p q:ah):aa:=dC (p.y-q.y) (q.x-p.x) (-((p.y-q.y)*p.x+(q.x-p.x)*p.y))
def ld(n:ah):List ah->ah
 |[]=>⟨0,0⟩
 |p::t=>t.foldl (fun b q=>if n.dot q<n.dot b then q else b) p
def Oc(n:ah){l:List ah}(h:l≠[]):n.dot (ld n l)=i7 n l:=by
 cases l with
 |nil=>exact absurd J h
 |cons p t=>
  unfold ld i7;have key: ∀(t:List ah) (b:ah),n.dot (t.foldl (fun b q=>if n.dot q<n.dot b then q else b) b)=t.foldl (fun b q=>if n.dot q<b then n.dot q else b) (n.dot b):=fun t=>by
   induction t with
   |nil=>intro b;rfl
   |cons a t ih=>
    intro b;rw[iS,iS,ih];congr 1;split<;>rfl
  exact key t p
def om(l:aa)(V:List ah):aa:=fE (l.base.add (ld l.nor V)) ((l.base.add (ld l.nor V)).add l.dir)
def i8(l:aa)(V:List ah):aa:=dC l.a l.b (l.c-i7 l.nor V)
def yl(h:l.ok): ¬((l.a:Rat)=0/\(l.b:Rat)=0):=fun⟨h1,h2⟩=>by
 have:=mG h.ne;unfold aa.nor ah.dot at this;dsimp only at this;rw[h1,h2] at this;grind
def Wu(h:l.ok):l.nor.dot l.base= -(l.c:Rat):=by
 have:=LH h.ne;rw[A5] at this;grind
def W6(hl:l.ok)(hV:V≠[]):om l V=i8 l V:=by
 have hz:=yl hl;have hb:=Oc l.nor hV;have hbase:=Wu hl;unfold om i8 fE;refine IS (k:=1) (fun⟨h1,h2⟩=>hz ⟨?_,?_⟩) hz (by decide) fun p=>?_
 .unfold ah.add aa.dir at h1;dsimp only at h1;grind
 .unfold ah.add aa.dir at h2;dsimp only at h2;grind
 .rw[<-hb]
  generalize ld l.nor V=q at*;unfold ah.add aa.dir aa.nor ah.dot at*;dsimp only at*;grind
def r7(l:aa)(c:List aa):List ah:=(c.flatMap fun s=>[s.dir,dh s.dir])++[⟨l.dir.y, -l.dir.x⟩]
def kA(l:aa)(c:List aa):Bool:=!c.isEmpty&&(r7 l c).all fun v=>!(tr c v&&decide (Int.sign (l.dir.cross v).num<0))
def kv(c:List aa):List ah:=if(gh c).isEmpty then c.map aa.base else gh c
def wq(l:aa)(p:ah)(c:List aa):aa:=fE (p.add (ld l.nor (kv c))) ((p.add (ld l.nor (kv c))).add l.dir)
def ku(c:ao)(f:ah×ah):Option aa:=(fG c (bj f)).map fun m=>dC (bj f).x (bj f).y (-(m+(bj f).dot f.1))
def s5(c:List aa)(f:ah×ah):Option aa:=if kA (fE f.1 f.2) c then some (wq (fE f.1 f.2) f.1 c) else none
def gw(c:ao)(V:List ah)(E:List (ah×ah)):List aa:=(c.map fun s=>i8 s.l V)++E.filterMap (ku c)
def CA(c:List aa)(V:List ah)(E:List (ah×ah)):List aa:=(c.map fun l=>om l V)++E.filterMap (s5 c)
def OW{f:ah×ah}(h: ¬((bj f).x=0/\(bj f).y=0)):(fE f.1 f.2).ok/\ ∃g:Rat,0<g/\(fE f.1 f.2).nor=⟨g*(bj f).x,g*(bj f).y⟩:=by
 have h': ¬(f.1.y-f.2.y=0/\f.2.x-f.1.x=0):=fun⟨h1,h2⟩=>h ⟨by unfold bj;dsimp only;grind,by unfold bj;dsimp only;grind⟩;refine⟨Ay h',?_⟩;obtain⟨g,g0,hg⟩:=xu (c:= -((f.1.y-f.2.y)*f.1.x+(f.2.x-f.1.x)*f.1.y)) h';refine⟨g,g0,?_⟩;have e0:=hg ⟨0,0⟩;have e1:=hg ⟨1,0⟩;have e2:=hg ⟨0,1⟩;unfold fE;generalize dC (f.1.y-f.2.y) (f.2.x-f.1.x) (-((f.1.y-f.2.y)*f.1.x+(f.2.x-f.1.x)*f.1.y))=L at*;unfold aa.value ah.dot at e0 e1 e2;unfold aa.nor bj at*;dsimp only at*;simp only[ah.mk.injEq];constructor<;>grind
def azp(hc:bC c){v:ah}(hv: ∀u∈c,0<=u.l.nor.dot v)(hn:n.dot v<0)(M:Rat): ∃q,gH c q/\n.dot q<M:=by
 obtain⟨q,hq⟩:=hc.ne;refine Ag (p:=q) (u:=v) (fun t ht s hs=>?_) hn M;rw[jc];have:=hq s hs;have:=cG ht (hv s hs);grind
def Q9(g:Rat)(n v:ah):(⟨g*n.x,g*n.y⟩:ah).dot v=g*n.dot v:=by unfold ah.dot;dsimp only;grind
def Vj(a b:ah):a.dot b=b.dot a:=by unfold ah.dot;grind
def W8(hc:bC c)(ha:fD c)(hn: ¬(n.x=0/\n.y=0))(hg:0<g)(hl:l.nor=⟨g*n.x,g*n.y⟩):kA l (c.map fun s=>s.l)=(fG c n).isSome:=by
 have hcr: ∀v,Int.sign (l.dir.cross v).num<0↔n.dot v<0:=fun v=>by
  rw[Du,AZ,hl,Q9];constructor
  .intro h
   have:=(w6 hg (b:= -(n.dot v))).1 (by grind);grind
  .intro h
   have:=dd hg (show 0< -(n.dot v) by grind);grind
 have hN:=Ec hn
 cases hf:fG c n with
 |some m=>
  obtain⟨h1,h2⟩:=Ev hc ha hn hf;show kA l (c.map fun s=>s.l)=true;unfold kA;rw[bK];refine⟨?_,?_⟩
  .cases c with
   |nil=>unfold fG at hf;simp at hf
   |cons s t=>rfl
  .rw[dJ]
   intro v _;rw[gM,Bool.and_eq_false_iff];by_cases k:tr (c.map fun s=>s.l) v=true
   .right
    rw[decide_eq_false_iff_not,hcr];intro k2;obtain⟨q,hq,hlt⟩:=azp hc (Sp.1 k) k2 m;have:=h1 q hq;grind
   .left;exact Bool.eq_false_iff.2 k
 |none=>
  show kA l (c.map fun s=>s.l)=false;unfold fG at hf;unfold kA;have use: ∀v∈r7 l (c.map fun s=>s.l),(∀u∈c,0<=u.l.nor.dot v)->n.dot v<0->((!(c.map fun s=>s.l).isEmpty&&(r7 l (c.map fun s=>s.l)).all fun v=>!(tr (c.map fun s=>s.l) v&&decide (Int.sign (l.dir.cross v).num<0)))=false):=fun v hv h1 h2=>by
   rw[Bool.and_eq_false_iff];right;rw[sZ];refine⟨v,hv,?_⟩;rw[Sp.2 h1,decide_eq_true ((hcr v).2 h2)];decide
  split at hf
  .rename_i k
   rw[fN] at k
   cases c with
   |nil=>rfl
   |cons s t=>
    rcases k with k|k
    .cases k
    .cases t with
     |cons _ _=>cases k
     |nil=>
      have k:=of_decide_eq_true (show decide (s.l.nor.dot n<0)=true from k);have e:(⟨l.dir.y, -l.dir.x⟩:ah)=⟨-(g*n.x), -(g*n.y)⟩:=by
       unfold aa.dir;have h1:(l.a:Rat)=g*n.x:=congrArg ah.x hl;have h2:(l.b:Rat)=g*n.y:=congrArg ah.y hl;dsimp only;simp only[ah.mk.injEq];constructor<;>grind
      refine use ⟨l.dir.y, -l.dir.x⟩ (bV _ (aU.2 J)) (fun u hu=>?_) ?_
      .rw[aU.1 hu,e]
       have e2:s.l.nor.dot ⟨-(g*n.x), -(g*n.y)⟩=g* -(s.l.nor.dot n):=by unfold ah.dot;dsimp only;grind
       rw[e2];exact cG (dQ hg) (by grind)
      .rw[e]
       have e2:n.dot ⟨-(g*n.x), -(g*n.y)⟩= -(g*(n.x*n.x+n.y*n.y)):=by unfold ah.dot;dsimp only;grind
       rw[e2];have:=dd hg hN;grind
  .split at hf
   .rename_i k
    obtain⟨s,hs,k⟩:=iR.1 k;unfold ir at k;rw[fN,bK,bK,decide_eq_true_eq,decide_eq_true_eq] at k;have mem: ∀v,(v=s.l.dir\/v=dh s.l.dir)->v∈r7 l (c.map fun s=>s.l):=fun v hv=>by
     refine bR _ (iQ.2 ⟨s.l,dT (f:=fun s:bA=>s.l) hs,?_⟩);rcases hv with rfl|rfl<;>simp
    rcases k with⟨k1,k2⟩|⟨k1,k2⟩
    .exact use s.l.dir (mem _ (.inl J)) (H2 hc hs k1) (by rw[Vj];exact k2)
    .refine use (dh s.l.dir) (mem _ (.inr J)) (fun u hu=>?_) ?_
     .have:=KJ hc hs k1 u hu
      have e:u.l.nor.dot (dh s.l.dir)= -(u.l.nor.dot s.l.dir):=by unfold ah.dot dh;dsimp only;grind
      rw[e];grind
     .have e:n.dot (dh s.l.dir)= -(s.l.dir.dot n):=by unfold ah.dot dh;dsimp only;grind
      rw[e];grind
   .cases hf
def azL(hc:bC c)(hs:s∈c)(nl:s.v.nl=true)(nh:s.v.nh=true): ∀u∈c,u.l.nor.dot s.l.dir=0:=fun u hu=>by
 have h1:=H2 hc hs nh u hu;have h2:=KJ hc hs nl u hu;grind
def Xn(hc:bC c)(hs:s∈c)(nl:s.v.nl=true)(nh:s.v.nh=true):gh (c.map (·.l))=[]:=by
 have hp:=azL hc hs nl nh;unfold gh;rw[aX,List.flatMap_eq_nil_iff];intro i hi;have hi:=kQ.1 hi;obtain⟨a,ha⟩: ∃s,c[i]? =some s:=⟨_,aZ hi⟩;obtain⟨b,hb⟩: ∃w,c[(i+1)%c.length]? =some w:=⟨_,aZ (dK _ (by omega))⟩;have h1:=hp a (aK ha);have h2:=hp b (aK hb);rw[rC (l:=a.l) (m:=b.l) (by rw[cR,ha];rfl) (by rw[aX,cR,hb];rfl),if_neg];rw[nj];have hz:=mG (hc.ok s hs).ne;have e:(s.l.nor.dot s.l.nor)*a.l.dir.cross b.l.dir=(a.l.nor.dot s.l.dir)*(b.l.nor.dot s.l.nor)-(a.l.nor.dot s.l.nor)*(b.l.nor.dot s.l.dir):=by unfold ah.dot ah.cross aa.dir aa.nor;dsimp only;grind
 rw[h1,h2] at e;intro k;have:=dd hz k;grind
def GI(hc:bC c)(ha:fD c)(hn: ¬(n.x=0/\n.y=0)){m:Rat}(hf:fG c n=some m):i7 n (kv (c.map fun s=>s.l))=m/\kv (c.map fun s=>s.l)≠[]:=by
 obtain⟨f1,f2⟩:=Ev hc ha hn hf;have hf':=hf;unfold fG at hf';split at hf'
 .cases hf'
 rename_i k1;split at hf'
 .cases hf'
 rename_i k2
 cases hf'
 have k1:c.isEmpty=false/\sG n c=false:=by simpa using k1
 have k2: ∀s∈c,ir n s=false:=fun s hs=>by
  cases q:ir n s with
  |false=>rfl
  |true=>exact absurd (iR.2 ⟨s,hs,q⟩) k2
 have hne:jh c≠[]:=by
  unfold jh
  cases c with
  |nil=>cases k1.1
  |cons s t=>simp
 obtain⟨l1,q0,hq0,l2⟩:=oD (n:=n) hne;have e1: ∀s:bA,s.l.dir.dot n=n.dot s.l.dir:=fun s=>by unfold ah.dot;grind
 have f: ∀(s:bA) u,n.dot (s.l.at u)=n.dot (s.l.at 0)+u*n.dot s.l.dir:=fun s u=>by rw[ON s.l u,wL]
 unfold kv;by_cases hv:(gh (c.map fun s=>s.l)).isEmpty=true
 .rw[if_pos hv]
  have hv':gh (c.map fun s=>s.l)=[]:=pM.1 hv;have flat: ∀s∈c,n.dot s.l.dir=0/\n.dot s.l.base=n.dot (s.l.at s.v.sample):=fun s hs=>by
   have nl:s.v.nl=true:=by
    cases q:s.v.nl with
    |true=>rfl
    |false=>have:=DX hc ha hs q;rw[hv'] at this;cases this
   have nh:s.v.nh=true:=by
    cases q:s.v.nh with
    |true=>rfl
    |false=>have:=AW hc ha hs q;rw[hv'] at this;cases this
   have ho:=k2 s hs;unfold ir at ho;rw[nl,nh,lT,sT,sT,decide_eq_false_iff_not,decide_eq_false_iff_not,e1] at ho;have z:n.dot s.l.dir=0:=by rcases j0 (n.dot s.l.dir) with k|k|k;exact k;exact absurd k ho.2;exact absurd k ho.1
   refine⟨z,?_⟩;rw[<-wW,wL,z];grind
  have hne2:(c.map fun s=>s.l).map aa.base≠[]:=by
   cases c with
   |nil=>cases k1.1
   |cons s t=>simp
  obtain⟨g1,p1,hp1,g2⟩:=oD (n:=n) hne2;refine⟨?_,hne2⟩;obtain⟨l,hl,rfl⟩:=aT.1 hp1;obtain⟨s,hs,rfl⟩:=aT.1 hl;have a1:=l1 (s.l.at s.v.sample) (bR _ (dT (f:=fun s:bA=>s.l.at s.v.sample) hs));rw[<-(flat s hs).2,<-g2] at a1;have a2:i7 n ((c.map fun s=>s.l).map aa.base)<=i7 n (jh c):=by
   unfold jh at hq0;rw[hv',fW] at hq0;obtain⟨w,hw,rfl⟩:=aT.1 hq0;rw[l2,<-(flat w hw).2];exact g1 _ (dT (dT (f:=fun s:bA=>s.l) hw))
  grind
 .rw[if_neg hv]
  have hne2:gh (c.map fun s=>s.l)≠[]:=fun e=>hv (by rw[e];rfl);obtain⟨g1,p1,hp1,g2⟩:=oD (n:=n) hne2;refine⟨?_,hne2⟩;have a1:=l1 p1 (bV _ hp1);rw[<-g2] at a1
  -- the least value is one of a corner
  have a2: ∃v∈gh (c.map fun s=>s.l),n.dot v=i7 n (jh c):=by
   unfold jh at hq0;rcases bJ.1 hq0 with h|h
   .obtain⟨s,hs,rfl⟩:=aT.1 h
    have hi:=(hc.edge s hs).1;have hsm:=nD hi;have z:n.dot s.l.dir=0:=by
     rcases j0 (n.dot s.l.dir) with k|k|k
     .exact k
     .exfalso
      have ho:=k2 s hs;unfold ir at ho;rw[lT,e1] at ho;have nl:s.v.nl=false:=by
       cases q:s.v.nl with
       |false=>rfl
       |true=>rw[q,decide_eq_true k] at ho;exact absurd ho.2 (by simp)
      have:=l1 _ (bV _ (DX hc ha hs nl));have h1:=hsm.1.resolve_left (by rw[nl];simp);rw[l2,f s s.v.sample,f s s.v.lo] at this;have:=dd (show 0<s.v.sample-s.v.lo by grind) k;grind
     .exfalso
      have ho:=k2 s hs;unfold ir at ho;rw[lT,e1] at ho;have nh:s.v.nh=false:=by
       cases q:s.v.nh with
       |false=>rfl
       |true=>rw[q,decide_eq_true k] at ho;exact absurd ho.1 (by simp)
      have:=l1 _ (bV _ (AW hc ha hs nh));have h1:=hsm.2.resolve_left (by rw[nh];simp);rw[l2,f s s.v.sample,f s s.v.hi] at this;have:=dd (show 0<s.v.hi-s.v.sample by grind) (show 0< -(n.dot s.l.dir) by grind);grind
    cases nl:s.v.nl with
    |false=>exact⟨_,DX hc ha hs nl,by rw[l2,f s s.v.lo,f s s.v.sample,z];grind⟩
    |true=>
     cases nh:s.v.nh with
     |false=>exact⟨_,AW hc ha hs nh,by rw[l2,f s s.v.hi,f s s.v.sample,z];grind⟩
     |true=>exact absurd (Xn hc hs nl nh) hne2
   .exact⟨q0,h,l2.symm⟩
  obtain⟨v,hv2,e⟩:=a2;have:=g1 v hv2;grind
def Y1(hc:bC c)(ha:fD c){f:ah×ah}(hn: ¬((bj f).x=0/\(bj f).y=0)):s5 (c.map fun s=>s.l) f=ku c f:=by
 obtain⟨hok,g,g0,hg⟩:=OW hn;unfold s5 ku;rw[W8 hc ha hn g0 hg]
 cases hf:fG c (bj f) with
 |none=>rfl
 |some m=>
  obtain⟨h1,h2⟩:=GI hc ha hn hf;show some (wq (fE f.1 f.2) f.1 (c.map fun s=>s.l))=some _;congr 1;have hs: ∀v,(fE f.1 f.2).nor.dot v=g*(bj f).dot v:=fun v=>by rw[hg,Q9]
  have hb:g*(bj f).dot (ld (fE f.1 f.2).nor (kv (c.map fun s=>s.l)))=g*m:=by
   rw[<-hs,Oc _ h2];obtain⟨a1,q1,b1,c1⟩:=oD (n:=(fE f.1 f.2).nor) h2;obtain⟨a2,q2,b2,c2⟩:=oD (n:=bj f) h2;have d1:=a1 q2 b2;have d2:=a2 q1 b1;rw[h1] at c2 d2;rw[hs] at c1 d1;rw[<-c2] at d1;have:=cG (dQ g0) (show 0<=(bj f).dot q1-m by grind);grind
  have hz:=yl hok;have e1:((fE f.1 f.2).a:Rat)=g*(bj f).x:=congrArg ah.x hg;have e2:((fE f.1 f.2).b:Rat)=g*(bj f).y:=congrArg ah.y hg;generalize fE f.1 f.2=T at*;unfold wq;generalize ld T.nor (kv (c.map fun s=>s.l))=q at*;generalize hd:T.dir=d at*;have d1:d.x=(T.b:Rat):=by rw[<-hd];rfl
  have d2:d.y= -(T.a:Rat):=by rw[<-hd];rfl
  unfold fE;refine IS (k:=g) (fun⟨k1,k2⟩=>hz ⟨?_,?_⟩) hn g0 fun p=>?_
  .unfold ah.add at k1;dsimp only at k1;grind
  .unfold ah.add at k2;dsimp only at k2;grind
  .unfold ah.add
   unfold ah.dot at*;dsimp only at*;rw[d1,d2,e1,e2];grind
def XP(hc:bC c)(ha:fD c)(hV:V≠[]){E:List (ah×ah)}(hE: ∀f∈E,¬((bj f).x=0/\(bj f).y=0)):CA (c.map fun s=>s.l) V E=gw c V E:=by
 unfold CA gw;congr 1
 .rw[List.map_map]
  refine List.map_congr_left fun s hs=>?_;exact W6 (hc.ok s hs) hV
 .induction E with
  |nil=>rfl
  |cons f E ih=>
   rw[kN,kN,Y1 hc ha (hE f aQ),ih fun g hg=>hE g (aJ _ hg)]
section
end
def l6:List aa->Tr
 |[]=> .leaf true
 |l::t=> .node l (l6 t) (.leaf false)
def NX: ∀{L:List aa},(l6 L).lns=L
 |[]=>rfl
 |l::t=>by rw[l6,Tr.lns,NX,Tr.lns,fW]
def Ob(h: ∀l∈L,P l):(l6 L).all P:=xt.2 (by rw[NX];exact h)
def Oi: ∀(L:List aa),(l6 L).depth=L.length
 |[]=>rfl
 |l::t=>by rw[l6,Tr.depth,Oi t,bZ];show 1+max _ 0=_;omega
def RI: ∀(L:List aa),(l6 L).size=L.length
 |[]=>rfl
 |l::t=>by rw[l6,Tr.size,RI t,bZ];show 1+_+0=_;omega
def HO: ∀{ls:List aa} {c e:ao},bC c->fD c->(∀l∈ls,l.ok)->fj ls c=some e->fD e
 |[],c,e,_,ha,_,h=>by
  obtain rfl:c=e:=by simpa[fj] using h
  exact ha
 |l::t,c,e,hc,ha,hl,h=>by
  have hl':=dW.1 hl;rw[fj] at h;split at h
  .rename_i hb
   exact HO (gG hc hl'.1 hb).1 (F6 hc hl'.1 ha hb) hl'.2 h
  .exact absurd h (by simp)
def jr.nz{E:List (ah×ah)}(hB:jr V E){f:ah×ah}(hf:f∈E): ¬((bj f).x=0/\(bj f).y=0):=by
 obtain⟨u,hu⟩:=hB.cen;exact Ry (hu f hf)
def jr.vne{E:List (ah×ah)}(hB:jr V E):V≠[]:=by
 obtain⟨u,hu⟩:=hB.cen;obtain⟨v,hv,_⟩:=hB.hull ⟨0,0⟩ u fun f hf=>dQ (hu f hf);exact List.ne_nil_of_mem hv
def Al(hl:l.ok)(V:List ah):(i8 l V).ok/\ ∃g:Rat,0<g/\ ∀p,(i8 l V).value p=g*(l.value p-i7 l.nor V):=by
 refine⟨Ay (yl hl),?_⟩;obtain⟨g,g0,hg⟩:=xu (c:=l.c-i7 l.nor V) (yl hl);refine⟨g,g0,fun p=>?_⟩;unfold i8;rw[hg,A5];unfold aa.nor ah.dot;dsimp only;grind
def EF{f:ah×ah}(hn: ¬((bj f).x=0/\(bj f).y=0))(h:ku c f=some l): ∃m,fG c (bj f)=some m/\l.ok/\ ∃g:Rat,0<g/\ ∀p,l.value p=g*((bj f).dot p-m-(bj f).dot f.1):=by
 unfold ku at h
 cases hf:fG c (bj f) with
 |none=>rw[hf] at h;cases h
 |some m=>
  rw[hf] at h
  cases h
  refine⟨m,J,Ay hn,?_⟩;obtain⟨g,g0,hg⟩:=xu (c:= -(m+(bj f).dot f.1)) hn;refine⟨g,g0,fun p=>?_⟩;rw[hg];unfold ah.dot;grind
def GF{E:List (ah×ah)}(hB:jr V E)(hc:bC c): ∀l∈gw c V E,l.ok:=fun l hl=>by
 rcases bJ.1 hl with hl|hl
 .obtain⟨s,hs,rfl⟩:=aT.1 hl
  exact(Al (hc.ok s hs) V).1
 .obtain⟨f,hf,e⟩:=jL.1 hl
  obtain⟨_,_,h,_⟩:=EF (hB.nz hf) e;exact h
def auP{E:List (ah×ah)}(hB:jr V E)(hc:bC c)(ha:fD c)(p:ah):f9 (gw c V E) p↔ ∃q,bu c q/\ ∀f∈E,0<bG f.1 f.2 (p.subQ q):=by
 constructor
 .intro h
  refine aBJ hB hc (fun s hs=>?_) fun f hf ⟨M,hM⟩=>?_
  .obtain⟨h1,v,hv,h2⟩:=oD (n:=s.l.nor) hB.vne
   refine⟨v,hv,fun w hw=>by rw[<-h2];exact h1 w hw,?_⟩;obtain⟨_,g,g0,hg⟩:=Al (hc.ok s hs) V;have:=h _ (bR _ (dT (f:=fun s:bA=>i8 s.l V) hs));rw[hg] at this;rw[<-h2];exact(w6 g0).1 this
  .cases hfl:fG c (bj f) with
   |none=>
    obtain⟨q,hq,hlt⟩:=Z5 hc (hB.nz hf) hfl M;have:=hM q hq;grind
   |some m=>
    obtain⟨_,q,hq,e⟩:=Ev hc ha (hB.nz hf) hfl;refine⟨q,hq,?_⟩;have he:ku c f=some (dC (bj f).x (bj f).y (-(m+(bj f).dot f.1))):=by unfold ku;rw[hfl];rfl
    obtain⟨m',k1,_,g,g0,hg⟩:=EF (hB.nz hf) he;rw[hfl] at k1;cases k1;have:=h _ (bV _ (jL.2 ⟨f,hf,he⟩));rw[hg] at this;rw[e];exact(w6 g0).1 this
 .rintro ⟨q,hq,hu⟩ l hl
  have hdp: ∀n:ah,n.dot p=n.dot q+n.dot (p.subQ q):=fun n=>by rw[C7];grind
  rcases bJ.1 hl with hl|hl
  .obtain⟨s,hs,rfl⟩:=aT.1 hl
   obtain⟨_,g,g0,hg⟩:=Al (hc.ok s hs) V;rw[hg,w6 g0];have h1:=ayS hB (c:=c) (q:=q) (u:=p.subQ q) (fun f hf=>dQ (hu f hf)) (oD (n:=s.l.nor) hB.vne).1;have h2:=hq s hs;rw[A5] at h2⊢;rw[hdp];grind
  .obtain⟨f,hf,e⟩:=jL.1 hl
   obtain⟨m,k1,_,g,g0,hg⟩:=EF (hB.nz hf) e;rw[hg,w6 g0,hdp];have h1:=hu f hf;rw[I7] at h1;have h2:=(Ev hc ha (hB.nz hf) k1).1 q hq.c;grind
def VN{E:List (ah×ah)}(hB:jr V E)(hc:bC c)(ha:fD c): ∃p,f9 (gw c V E) p:=by
 obtain⟨q,hq⟩:=hc.ne;obtain⟨u,hu⟩:=hB.cen;refine⟨q.add u,(auP hB hc ha _).2 ⟨q,hq,fun f hf=>?_⟩⟩;have e:(q.add u).subQ q=u:=by unfold ah.subQ ah.add;cases u;simp only[ah.mk.injEq];constructor<;>grind
 rw[e];exact hu f hf
def Iq{E:List (ah×ah)}(hB:jr V E)(hc:bC c)(ha:fD c): ∃d,fj (gw c V E) []=some d/\bC d/\fD d/\(∀p,bu d p↔f9 (gw c V E) p)/\fP (gw c V E)=d.map (·.l):=by
 have hok:=GF hB hc;obtain⟨p,hp⟩:=VN hB hc ha;obtain⟨d,hd⟩:=De bC.nil hok ⟨p,fun s hs=>absurd hs (by simp),hp⟩;obtain⟨g1,g2⟩:=Bl bC.nil hok hd;have g2: ∀p,bu d p↔f9 (gw c V E) p:=fun p=>by
  rw[g2];exact⟨fun h=>h.2,fun h=>⟨fun s hs=>absurd hs (by simp),h⟩⟩
 have g3:=HO bC.nil .nil hok hd;exact⟨d,hd,g1,g3,g2,QI hok g1 g3 g2⟩
def gA(V:List ah)(E:List (ah×ah))(c:ao):Tr:=l6 (fP (gw c V E))
def Ru{E:List (ah×ah)}(hB:jr V E)(hc:bC c)(ha:fD c):(gA V E c).all aa.ok:=by
 obtain⟨d,_,g1,_,_,e⟩:=Iq hB hc ha;unfold gA;rw[e];exact Ob fun l hl=>by obtain⟨s,hs,rfl⟩:=aT.1 hl;exact g1.ok s hs
def H9{P:ah×ah->Prop}{f:ah×ah}{x y z:ah×ah}(hf:f∈[x,y,z])(h1:P x)(h2:P y)(h3:P z):P f:=by
 simp only[aW,fK,or_false] at hf;rcases hf with rfl|rfl|rfl<;>assumption
def S9{a b c:ah}(h:0<bG a b c):jr [a,b,c] [(a,b),(b,c),(c,a)] where
 ends:=fun f hf=>H9 (P:=fun f=>f.1∈[a,b,c]/\f.2∈[a,b,c]) hf (by simp) (by simp) (by simp)
 cvx:=fun f hf v hv=>by
  simp only[aW,fK,or_false] at hv;refine H9 (P:=fun f=>0<=bG f.1 f.2 v) hf ?_ ?_ ?_<;>dsimp only<;>rcases hv with rfl|rfl|rfl<;>unfold bG at* <;>grind
 cen:=⟨⟨(a.x+b.x+c.x)/3,(a.y+b.y+c.y)/3⟩,fun f hf=>by
  refine H9 (P:=fun f=>0<bG f.1 f.2 ⟨(a.x+b.x+c.x)/3,(a.y+b.y+c.y)/3⟩) hf ?_ ?_ ?_<;>dsimp only<;>unfold bG at* <;>grind⟩
 hull:=fun n u hu=>by
  have h1:=hu (a,b) (by simp);have h2:=hu (b,c) (by simp);have h3:=hu (c,a) (by simp);dsimp only at h1 h2 h3;have e:bG a b c*n.dot u=bG b c u*n.dot a+bG c a u*n.dot b+bG a b u*n.dot c:=by unfold bG ah.dot;grind
  have e2:bG a b c=bG b c u+bG c a u+bG a b u:=by unfold bG;grind
  apply Classical.byContradiction;intro k;have ka:n.dot u<n.dot a:=by have: ¬n.dot a<=n.dot u:=fun q=>k ⟨a,by simp,q⟩;grind
  have kb:n.dot u<n.dot b:=by have: ¬n.dot b<=n.dot u:=fun q=>k ⟨b,by simp,q⟩;grind
  have kc:n.dot u<n.dot c:=by have: ¬n.dot c<=n.dot u:=fun q=>k ⟨c,by simp,q⟩;grind
  have:=tz h2 h3 h1 (by grind) (show 0<n.dot a-n.dot u by grind) (show 0<n.dot b-n.dot u by grind) (show 0<n.dot c-n.dot u by grind);rw[e2] at e;clear hu k h e2;generalize bG b c u=x at*;generalize bG c a u=y at*;generalize bG a b u=z at*;generalize n.dot u=m at*;generalize n.dot a=p at*;generalize n.dot b=q at*;generalize n.dot c=r at*;grind
def JQ{P:ah×ah->Prop}{f:ah×ah}{x y z w:ah×ah}(hf:f∈[x,y,z,w])(h1:P x)(h2:P y)(h3:P z)(h4:P w):P f:=by
 simp only[aW,fK,or_false] at hf;rcases hf with rfl|rfl|rfl|rfl<;>assumption
def aIA{b c:Rat}(h1:a<c)(h2:b<d):jr [⟨a,b⟩,⟨c,b⟩,⟨c,d⟩,⟨a,d⟩] [(⟨a,b⟩,⟨c,b⟩),(⟨c,b⟩,⟨c,d⟩),(⟨c,d⟩,⟨a,d⟩),(⟨a,d⟩,⟨a,b⟩)] where
 ends:=fun f hf=>JQ (P:=fun f=>f.1∈[(⟨a,b⟩:ah),⟨c,b⟩,⟨c,d⟩,⟨a,d⟩]/\f.2∈[(⟨a,b⟩:ah),⟨c,b⟩,⟨c,d⟩,⟨a,d⟩]) hf (by simp) (by simp) (by simp) (by simp)
 cvx:=fun f hf v hv=>by
  have k:=dd (show 0<c-a by grind) (show 0<d-b by grind);simp only[aW,fK,or_false] at hv;refine JQ (P:=fun f=>0<=bG f.1 f.2 v) hf ?_ ?_ ?_ ?_<;>dsimp only<;>rcases hv with rfl|rfl|rfl|rfl<;>unfold bG<;>dsimp only<;>grind
 cen:=⟨⟨(a+c)/2,(b+d)/2⟩,fun f hf=>by
  have k:=dd (show 0<c-a by grind) (show 0<d-b by grind);refine JQ (P:=fun f=>0<bG f.1 f.2 ⟨(a+c)/2,(b+d)/2⟩) hf ?_ ?_ ?_ ?_<;>dsimp only<;>unfold bG<;>dsimp only<;>grind⟩
 hull:=fun n u hu=>by
  have k1:=hu (⟨a,b⟩,⟨c,b⟩) (by simp);have k2:=hu (⟨c,b⟩,⟨c,d⟩) (by simp);have k3:=hu (⟨c,d⟩,⟨a,d⟩) (by simp);have k4:=hu (⟨a,d⟩,⟨a,b⟩) (by simp);unfold bG at k1 k2 k3 k4;dsimp only at k1 k2 k3 k4;have y1:0<=u.y-b:=(ij (k:=c-a) (by grind)).1 (by grind);have y2:0<=d-u.y:=(ij (k:=c-a) (by grind)).1 (by grind);have x1:0<=u.x-a:=(ij (k:=d-b) (by grind)).1 (by grind);have x2:0<=c-u.x:=(ij (k:=d-b) (by grind)).1 (by grind);by_cases hx:0<=n.x<;>by_cases hy:0<=n.y
  .refine⟨⟨a,b⟩,by simp,?_⟩
   have:=cG hx x1;have:=cG hy y1;unfold ah.dot;dsimp only;grind
  .refine⟨⟨a,d⟩,by simp,?_⟩
   have:=cG hx x1;have:=cG (show 0<= -n.y by grind) y2;unfold ah.dot;dsimp only;grind
  .refine⟨⟨c,b⟩,by simp,?_⟩
   have:=cG (show 0<= -n.x by grind) x2;have:=cG hy y1;unfold ah.dot;dsimp only;grind
  .refine⟨⟨c,d⟩,by simp,?_⟩
   have:=cG (show 0<= -n.x by grind) x2;have:=cG (show 0<= -n.y by grind) y2;unfold ah.dot;dsimp only;grind
def II(V:List ah)(E:List (ah×ah))(cs:List ao)(t:Tr):Tr:=cs.foldl (fun t c=>t.mergeQ 1 (gA V E c) []) t
def p6(V:List ah)(E:List (ah×ah))(t:Tr):Tr:=II V E (fh (t.restrict [])) (.leaf false)
def Eh(ht:t.all aa.ok): ∀c∈fh (t.restrict []),bC c/\fD c:=fun c hc=>⟨apT (t.restrict_all _ [] ht) c hc,J2 (t.restrict_all _ [] ht) bC.nil (show fD [] from .nil) _ (t8.1 hc)⟩
section
end
section
end
def Tr.Prp:Tr->ao->Prop
 | .leaf _,_=>True
 | .node l x y,c=>cp c l=true/\cp c l.rev=true/\x.Prp (bE c l)/\y.Prp (bE c l.rev)
def Tr.red_prp: ∀{t:Tr} {c:ao},t.Red c->t.Prp c
 | .leaf _,_,_=>trivial
 | .node _ _ _,_,⟨h1,h2,h3,h4,_⟩=>⟨h1,h2,Tr.red_prp h3,Tr.red_prp h4⟩
def atc(hc:bC c)(hl:l.ok)(hp:bu c p)(h0:l.value p=0):cp c l=true/\cp c l.rev=true:=by
 have hn:=mG hl.ne;obtain⟨e,he,hm⟩:=hp.open l.nor;obtain⟨f,hf,hk⟩:=hp.open (dh l.nor);have hn2:l.nor.dot (dh l.nor)= -(l.nor.dot l.nor):=by unfold dh ah.dot;dsimp only;grind
 refine⟨(qn hc hl).2 ⟨_,hm e (by grind) (by grind),?_⟩,(qn hc hl.rev).2 ⟨_,hk f (by grind) (by grind),?_⟩⟩
 .rw[jc,h0];have:=dd he hn;grind
 .rw[fe,jc,h0,hn2];have:=dd hf hn;grind
def mB(c:ao)(m:aa):Bool:=cp c m&&cp c m.rev
def nI(hc:bC c)(hm:m.ok):mB c m=true↔E' m c:=by
 unfold mB;rw[bK];constructor
 .rintro ⟨h1,h2⟩
  obtain⟨p,hp,k1⟩:=(qn hc hm).1 h1;obtain⟨q,hq,k2⟩:=(qn hc hm.rev).1 h2;rw[fe] at k2;generalize hA:m.value p=A at*;generalize hB:m.value q=B at*;have hAB:0<A-B:=by grind
  have e:A/(A-B)*(A-B)=A:=by grind
  generalize A/(A-B)=r at*;have r0:0<=r:=(ij hAB).1 (by rw[e];exact dQ k1);have r1:r<=1:=by
   have:=(ij (s:=1-r) hAB).1 (by grind);grind
  exact⟨jv p q r,hp.seg hq r0 r1,by rw[lc,hA,hB];grind⟩
 .rintro ⟨p,hp,h0⟩
  exact atc hc hm hp h0
def xB(c:ao)(m n:aa):Bool:=decide (¬m.same n)&&(decide (n.value (yj m n)=0)&&p7 c (yj m n))
def qh{n:aa}(hm:m.ok)(hn:n.ok):xB c m n=true↔ ¬m.same n/\ ∃z,bu c z/\m.value z=0/\n.value z=0:=by
 unfold xB;rw[bK,bK,decide_eq_true_eq,decide_eq_true_eq,ry];constructor
 .rintro ⟨h1,h2,h3⟩
  exact⟨h1,_,h3,lE hm.ne _,h2⟩
 .rintro ⟨h1,z,hz,k1,k2⟩
  rcases DO hm hn k1 k2 with h|h
  .exact absurd h h1
  .rw[<-h];exact⟨h1,k2,hz⟩
def Hd{n:aa}(hm:m.ok)(hn:n.ok):xB c m n=xB c n m:=by
 rw[qL,qh hm hn,qh hn hm];constructor<;>(rintro ⟨h,z,hz,k1,k2⟩;exact⟨fun e=>h e.symm,z,hz,k2,k1⟩)
def im(f:aa->Nat):List aa->Nat
 |[]=>0
 |m::K=>f m+im f K
def bN(b:Bool):Nat:=if b then 1 else 0
def K6{f g:aa->Nat}: ∀{K:List aa},(∀m∈K,f m<=g m)->im f K<=im g K
 |[],_=>bW _
 |m::K,h=>by
  have:=K6 (f:=f) (g:=g) (K:=K) fun n hn=>h n (aJ _ hn);have:=h m aQ;show f m+im f K<=g m+im g K;omega
def xY(f g:aa->Nat): ∀K,im (fun m=>f m+g m) K=im f K+im g K
 |[]=>rfl
 |m::K=>by
  have:=xY f g K;show f m+g m+im (fun m=>f m+g m) K=f m+im f K+(g m+im g K);omega
def w7{f g:aa->Nat}{d:Nat}{m0:aa}: ∀{K:List aa},(∀m∈K,f m<=g m)->m0∈K->f m0+d<=g m0->im f K+d<=im g K
 |[],_,h,_=>by cases h
 |m::K,h,hm,hd=>by
  have i1:=K6 (f:=f) (g:=g) (K:=K) fun n hn=>h n (aJ _ hn);have:=h m aQ;show f m+im f K+d<=g m+im g K;rcases aW.1 hm with rfl|hm
  .omega
  .have:=w7 (f:=f) (g:=g) (d:=d) (K:=K) (fun n hn=>h n (aJ _ hn)) hm hd
   omega
def zd{f:aa->Nat}{B:Nat}: ∀{K:List aa},(∀m∈K,f m<=B)->im f K<=K.length*B
 |[],_=>aM _
 |m::K,h=>by
  have:=zd (f:=f) (B:=B) (K:=K) fun n hn=>h n (aJ _ hn);have:=h m aQ;show f m+im f K<=(K.length+1)*B;rw[fM];omega
def pB(K:List aa)(c:ao):Nat:=im (fun m=>bN (mB c m)) K
def jG(K:List aa)(c:ao)(m:aa):Nat:=im (fun n=>bN (xB c m n)) K
def y8(K:List aa)(c:ao):Nat:=im (jG K c) K
def Jj(b:Bool):bN b<=1:=by cases b<;>decide
def XS(hK: ∀m∈K,m.ok)(hc:bC c){n:aa}(hn:n.ok)(h0:m0∈K)(hs:m0.same n)(hb:cp c n=true)(hb2:cp c n.rev=true):
  pB K (bE c n)+pB K (bE c n.rev)+1<=pB K c+jG K c m0/\y8 K (bE c n)+y8 K (bE c n.rev)+2*jG K c m0<=y8 K c:=by
 obtain⟨g1,i1⟩:=gG hc hn hb;obtain⟨g2,i2⟩:=gG hc hn.rev hb2;have i2: ∀p,bu (bE c n.rev) p↔bu c p/\n.value p<0:=fun p=>by rw[i2,fe];constructor<;>(rintro ⟨a,b⟩;exact⟨a,by grind⟩)
 have hm0:=hK m0 h0;have z1: ∀m,m.ok->(mB (bE c n) m=true->mB c m=true)/\(mB (bE c n.rev) m=true->mB c m=true):=fun m hm=>by
  rw[nI g1 hm,nI g2 hm,nI hc hm];exact⟨fun⟨p,hp,k⟩=>⟨p,((i1 p).1 hp).1,k⟩,fun⟨p,hp,k⟩=>⟨p,((i2 p).1 hp).1,k⟩⟩
 have z2: ∀m,m.ok->mB (bE c n) m=true->mB (bE c n.rev) m=true->xB c m0 m=true:=fun m hm h1 h2=>by
  obtain⟨p,hp,k1⟩:=(nI g1 hm).1 h1;obtain⟨q,hq,k2⟩:=(nI g2 hm).1 h2;obtain⟨hp,ap⟩:=(i1 p).1 hp;obtain⟨hq,aq⟩:=(i2 q).1 hq;rw[qh hm0 hm];refine⟨fun e=>?_,?_⟩
  .rw[nk hs (nk e.symm k1)] at ap;grind
  generalize hA:n.value p=A at*;generalize hB:n.value q=B at*;have hAB:0<A-B:=by grind
  have e:A/(A-B)*(A-B)=A:=by grind
  generalize A/(A-B)=r at*;have r0:0<=r:=(ij hAB).1 (by rw[e];exact dQ ap);have r1:r<=1:=by
   have:=(ij (s:=1-r) hAB).1 (by grind);grind
  exact⟨jv p q r,hp.seg hq r0 r1,nk hs.symm (by rw[lc,hA,hB];grind),by rw[lc,k1,k2];grind⟩
 have w1: ∀m m',m.ok->m'.ok->xB (bE c n) m m'=true->xB c m m'=true/\ ¬xB (bE c n.rev) m m'=true:=fun m m' hm hm' h=>by
  rw[qh hm hm'] at h;obtain⟨e,z,hz,k1,k2⟩:=h;obtain⟨hz,az⟩:=(i1 z).1 hz;refine⟨(qh hm hm').2 ⟨e,z,hz,k1,k2⟩,fun h=>?_⟩;obtain⟨_,y,hy,j1,j2⟩:=(qh hm hm').1 h;obtain⟨hy,ay⟩:=(i2 y).1 hy;rcases DO hm hm' k1 k2 with h|h
  .exact e h
  .rcases DO hm hm' j1 j2 with h'|h'
   .exact e h'
   .rw[h'] at ay;rw[h] at az;grind
 have w2: ∀m m',m.ok->m'.ok->xB (bE c n.rev) m m'=true->xB c m m'=true:=fun m m' hm hm' h=>by
  rw[qh hm hm'] at h⊢;obtain⟨e,z,hz,k1,k2⟩:=h;exact⟨e,z,((i2 z).1 hz).1,k1,k2⟩
 have w3: ∀m,m.ok->xB (bE c n) m m0=false/\xB (bE c n.rev) m m0=false:=fun m hm=>by
  constructor
  .rw[<-jR,qh hm hm0]
   rintro ⟨_,z,hz,_,k2⟩;have:=((i1 z).1 hz).2;rw[nk hs k2] at this;grind
  .rw[<-jR,qh hm hm0]
   rintro ⟨_,z,hz,_,k2⟩;have:=((i2 z).1 hz).2;rw[nk hs k2] at this;grind
 have hmm: ∀d,xB d m0 m0=false:=fun d=>by
  rw[<-jR,qh hm0 hm0];rintro ⟨h,_⟩;exact h (.inl rfl)
 have n1: ∀d:ao,bC d->(∀p,bu d p->n.value p≠0)->mB d m0=false:=fun d hd h=>by
  rw[<-jR,nI hd hm0];rintro ⟨p,hp,k⟩;exact h p hp (nk hs k)
 have n2:mB c m0=true:=by
  rw[nI hc hm0];obtain⟨p,hp,k⟩:=(nI hc hn).1 (by unfold mB;rw[hb,hb2];rfl);exact⟨p,hp,nk hs.symm k⟩
 constructor
 .unfold pB jG
  rw[<-xY,<-xY];refine w7 (m0:=m0) (d:=1) (fun m hm=>?_) h0 ?_
  .have hmk:=hK m hm
   obtain⟨a1,a2⟩:=z1 m hmk;have a3:=z2 m hmk
   try dsimp only
   cases e1:mB (bE c n) m<;>cases e2:mB (bE c n.rev) m<;>simp only[e1,e2,forall_const,reduceCtorEq,false_implies] at a1 a2 a3<;>simp_all [bN]
  .try dsimp only
   rw[n1 _ g1 (fun p hp=>by have:=((i1 p).1 hp).2;grind),n1 _ g2 (fun p hp=>by have:=((i2 p).1 hp).2;grind),n2,hmm];decide
 .have row: ∀m∈K,jG K (bE c n) m+jG K (bE c n.rev) m+bN (xB c m m0)<=jG K c m:=fun m hm=>by
   have hmk:=hK m hm;unfold jG;rw[<-xY];refine w7 (m0:=m0) (d:=bN (xB c m m0)) (fun m' hm'=>?_) h0 ?_
   .have hmk':=hK m' hm'
    have b1:=w1 m m' hmk hmk';have b2:=w2 m m' hmk hmk'
    try dsimp only
    cases e1:xB (bE c n) m m'<;>cases e2:xB (bE c n.rev) m m'<;>simp_all [bN]
   .obtain⟨c1,c2⟩:=w3 m hmk
    try dsimp only
    rw[c1,c2];simp[bN]
  have r0:jG K (bE c n) m0=0/\jG K (bE c n.rev) m0=0:=by
   have z: ∀d,(∀m∈K,xB d m0 m=false)->jG K d m0=0:=fun d h=>by
    have:=zd (f:=fun m=>bN (xB d m0 m)) (B:=0) (K:=K) fun m hm=>by rw[h m hm];decide
    unfold jG;omega
   exact⟨z _ fun m hm=>by rw[Hd hm0 (hK m hm)];exact(w3 m (hK m hm)).1,z _ fun m hm=>by rw[Hd hm0 (hK m hm)];exact(w3 m (hK m hm)).2⟩
  have cs:im (fun m=>bN (xB c m m0)) K=jG K c m0:=by
   unfold jG;have key: ∀Jv:List aa,(∀m∈Jv,m.ok)->im (fun m=>bN (xB c m m0)) Jv=im (fun m=>bN (xB c m0 m)) Jv:=fun Jv=>by
    induction Jv with
    |nil=>intro _;rfl
    |cons a Jv ih=>
     intro h;show bN (xB c a m0)+_=bN (xB c m0 a)+_;rw[ih fun m hm=>h m (aJ _ hm),Hd (h a aQ) hm0]
   exact key K hK
  have:=w7 (f:=fun m=>jG K (bE c n) m+jG K (bE c n.rev) m+bN (xB c m m0)) (g:=jG K c) (d:=jG K c m0) (m0:=m0) row h0 (by rw[r0.1,r0.2,hmm];simp[bN]);rw[xY,xY,cs] at this;unfold y8;omega
def Gb{K:List aa}(hK: ∀m∈K,m.ok): ∀{t:Tr} {c:ao},t.Prp c->t.all aa.ok->bC c->ig K t->2*t.size<=2*pB K c+y8 K c
 | .leaf _,_,_,_,_,_=>aM _
 | .node n x y,c,⟨h1,h2,h3,h4⟩,⟨hn,hx,hy⟩,hc,⟨⟨m0,hm0,hs⟩,kx,ky⟩=>by
  obtain⟨g1,_⟩:=gG hc hn h1;obtain⟨g2,_⟩:=gG hc hn.rev h2;have a:=Gb hK h3 hx g1 kx;have b:=Gb hK h4 hy g2 ky;obtain⟨d1,d2⟩:=XS hK hc hn hm0 hs h1 h2;rw[Tr.size];omega
def MM(hK: ∀m∈K,m.ok)(h:t.Prp c)(ht:t.all aa.ok)(hc:bC c)(hA:ig K t):2*t.size<=K.length*(K.length+1):=by
 have h1:=Gb hK h ht hc hA;have h2:pB K c<=K.length*1:=zd fun m _=>Jj _;have h3:y8 K c<=K.length*(K.length-1):=zd fun m hm=>by
  have:=w7 (f:=fun n=>bN (xB c m n)) (g:=fun _=>1) (d:=1) (m0:=m) (K:=K) (fun n _=>Jj _) hm (by
   have:xB c m m=false:=by rw[<-jR,qh (hK m hm) (hK m hm)];rintro ⟨h,_⟩;exact h (.inl rfl)
   rw[this];decide)
  have l1:im (fun _=>1) K<=K.length*1:=zd fun _ _=>bW _;unfold jG;omega
 have:K.length*(K.length+1)=K.length*(K.length-1)+2*K.length:=by
  cases K.length with
  |zero=>rfl
  |succ k=>rw[Nat.succ_sub_one,Nat.mul_succ,Nat.mul_succ,fM];omega
 omega
def HT{K:List aa}(hK: ∀m∈K,m.ok): ∀{t:Tr} {c:ao},t.Prp c->t.all aa.ok->bC c->ig K t->t.depth<=pB K c
 | .leaf _,_,_,_,_,_=>aM _
 | .node n x y,c,⟨h1,h2,h3,h4⟩,⟨hn,hx,hy⟩,hc,⟨⟨m0,hm0,hs⟩,kx,ky⟩=>by
  obtain⟨g1,i1⟩:=gG hc hn h1;obtain⟨g2,i2⟩:=gG hc hn.rev h2;have a:=HT hK h3 hx g1 kx;have b:=HT hK h4 hy g2 ky;have hm0k:=hK m0 hm0;have n2:mB c m0=true:=by
   rw[nI hc hm0k];obtain⟨p,hp,k⟩:=(nI hc hn).1 (by unfold mB;rw[h1,h2];rfl);exact⟨p,hp,nk hs.symm k⟩
  have key: ∀d:ao,bC d->(∀p,bu d p->bu c p/\n.value p≠0)->pB K d+1<=pB K c:=fun d hd h=>by
   unfold pB;refine w7 (m0:=m0) (d:=1) (fun m hm=>?_) hm0 ?_
   .have hmk:=hK m hm
    cases e1:mB d m with
    |false=>exact aM _
    |true=>
     obtain⟨p,hp,k⟩:=(nI hd hmk).1 e1;rw[(nI hc hmk).2 ⟨p,(h p hp).1,k⟩];exact bW _
   .have e1:mB d m0=false:=by
     rw[<-jR,nI hd hm0k];rintro ⟨p,hp,k⟩;exact(h p hp).2 (nk hs k)
    try dsimp only
    rw[e1,n2];decide
  have d1:=key _ g1 fun p hp=>⟨((i1 p).1 hp).1,by have:=((i1 p).1 hp).2;grind⟩;have d2:=key _ g2 fun p hp=>⟨((i2 p).1 hp).1,by have:=((i2 p).1 hp).2;rw[fe] at this;grind⟩;show 1+max _ _<=_;omega
def Z8(hK: ∀m∈K,m.ok)(h:t.Prp c)(ht:t.all aa.ok)(hc:bC c)(hA:ig K t):t.depth<=K.length:=by
 have h1:=HT hK h ht hc hA;have h2:pB K c<=K.length*1:=zd fun m _=>Jj _;omega
structure ra (K:List aa) (t:Tr):Prop where
 ok:t.all aa.ok
 am:ig K t
 rd:t.Red []
def ra.size{K:List aa}(hK: ∀m∈K,m.ok){t:Tr}(h:ra K t):2*t.size<=K.length*(K.length+1)/\t.depth<=K.length:=
 ⟨MM hK (Tr.red_prp h.rd) h.ok bC.nil h.am,Z8 hK (Tr.red_prp h.rd) h.ok bC.nil h.am⟩
def ra.merge{K:List aa}{op:Int}{t u:Tr}(h:ra K t)(hu:u.all aa.ok)(hA:ig K u):ra K (t.mergeQ op u []):=
 ⟨Tr.mergeQ_all aa.ok op hu t [] h.ok,h.am.merge hA [],Tr.merge_red op u t []⟩
def ra.lim(hK: ∀m∈K,m.ok)(hn:K.length<=361)(h:ra K t)(hu:u.all aa.ok)(hA:ig K u)(hd:u.depth<=600):mv op t u=some (t.mergeQ op u []):=by
 obtain⟨a1,a2⟩:=h.size hK;obtain⟨b1,_⟩:=(h.merge (op:=op) hu hA).size hK;have:K.length*(K.length+1)<=361*362:=gL hn (by omega);exact Yc (op:=op) (a:=t) (b:=u) (by omega) (by omega)
def OD{K:List aa}(hK: ∀m∈K,m.ok)(hn:K.length<=361){op:Int}: ∀{us:List Tr} {t:Tr},(∀u∈us,u.all aa.ok/\ig K u/\u.depth<=600)->ra K t->pi op t us=some (us.foldl (fun t u=>t.mergeQ op u []) t)/\ra K (us.foldl (fun t u=>t.mergeQ op u []) t)
 |[],t,_,ht=>⟨J,ht⟩
 |u::us,t,h,ht=>by
  obtain⟨h1,h2,h3⟩:=h u aQ;obtain⟨i1,i2⟩:=OD hK hn (op:=op) (us:=us) (fun v hv=>h v (aJ _ hv)) (ht.merge (op:=op) h1 h2);refine⟨?_,i2⟩;rw[pi,ht.lim hK hn h1 h2 h3];exact i1
def qF(V:List ah)(E:List (ah×ah))(K:List aa)(cs:List ao):List aa:=(K.flatMap fun l=>[i8 l V,i8 l.rev V])++cs.flatMap fun c=>E.filterMap (ku c)
def J9{α β:Type}{f:α->List β}{n:Nat}: ∀{l:List α},(∀x∈l,(f x).length<=n)->(l.flatMap f).length<=l.length*n
 |[],_=>by simp
 |x::l,h=>by
  have:=J9 (f:=f) (n:=n) (l:=l) fun y hy=>h y (aJ _ hy);have:=h x aQ;rw[lZ,aY,bZ,fM];omega
def ayU{E:List (ah×ah)}{cs:List ao}:(qF V E K cs).length<=K.length*2+cs.length*E.length:=by
 unfold qF;rw[aY];have h1:=J9 (f:=fun l=>[i8 l V,i8 l.rev V]) (n:=2) (l:=K) fun x _=>bW _;have h2:=J9 (f:=fun c=>E.filterMap (ku c)) (n:=E.length) (l:=cs) fun x _=>lJ _ _;omega
def FH{E:List (ah×ah)}(hB:jr V E)(hK: ∀l∈K,l.ok){cs:List ao}: ∀l∈qF V E K cs,l.ok:=fun l hl=>by
 rcases bJ.1 hl with h|h
 .obtain⟨k,hk,h⟩:=iQ.1 h
  simp only[aW,fK,or_false] at h;rcases h with rfl|rfl
  .exact(Al (hK k hk) V).1
  .exact(Al (hK k hk).rev V).1
 .obtain⟨c,_,h⟩:=iQ.1 h
  obtain⟨f,hf,h⟩:=jL.1 h;obtain⟨_,_,h1,_⟩:=EF (hB.nz hf) h;exact h1
def avE{E:List (ah×ah)}{cs:List ao}(hc:c∈cs)(hs: ∀s∈c,∃m∈K,m.same s.l): ∀l∈gw c V E,l∈qF V E K cs:=fun l hl=>by
 unfold gw at hl;rcases bJ.1 hl with h|h
 .obtain⟨s,hs',rfl⟩:=aT.1 h
  obtain⟨m,hm,k⟩:=hs s hs';refine bR _ (iQ.2 ⟨m,hm,?_⟩);rcases k with k|k<;>rw[k]<;>simp
 .exact bV _ (iQ.2 ⟨c,hc,h⟩)
def Cw: ∀l∈fP L,l∈L:=fun _ h=>(pz.1 h).1
def HK{E:List (ah×ah)}(h: ∀l∈gw c V E,P l):(gA V E c).all P:=Ob fun l hl=>h l (Cw l hl)
def Yt{E:List (ah×ah)}:(gw c V E).length<=c.length+E.length:=by
 unfold gw;rw[aY,aX];have:=lJ (ku c) E;omega
def azl{E:List (ah×ah)}:(gA V E c).depth<=c.length+E.length:=by
 unfold gA;rw[Oi];exact cN (vr _) Yt
def XH(hA:ig K t)(hc:c∈fh t): ∀s∈c,∃m∈K,m.same s.l:=
 wN (P:=fun l=> ∃m∈K,m.same l) (fun l ⟨m,hm,h⟩=>⟨m,hm,h.trans (.inr J)⟩) hA (fun s hs=>by cases hs) (t8.1 hc)
def aCa{E:List (ah×ah)}(hB:jr V E)(ht:t.all aa.ok)(hK: ∀l∈K,l.ok)(hA:ig K t)(hs: ∀c∈fh (t.restrict []),c.length+E.length<=600)(hn:(qF V E K (fh (t.restrict []))).length<=361):
  pi 1 (Tr.leaf false) ((fh (t.restrict [])).map (gA V E))=some (p6 V E t)/\ra (qF V E K (fh (t.restrict []))) (p6 V E t):=by
 have h:=OD (K:=qF V E K (fh (t.restrict []))) (FH hB hK) hn (op:=1) (us:=(fh (t.restrict [])).map (gA V E)) (t:= .leaf false) (fun u hu=>by
  obtain⟨c,hc,rfl⟩:=aT.1 hu;obtain⟨g1,g2⟩:=Eh ht c hc;exact⟨Ru hB g1 g2,HK fun l hl=>⟨l,avE hc (XH (hA.restrict []) hc) l hl, .inl J⟩,cN azl (hs c hc)⟩) ⟨trivial,trivial,trivial⟩
 rw[List.foldl_map] at h;exact h
def ZB(p:ah):Prop:= ∃m n:Int,p=iP m n/\m.natAbs<=8/\n.natAbs<=8
def QD(k:Nat)(q:ah):Prop:= ∃(D:Nat) (X Y:Int),0<D/\D<=2^k/\X.natAbs<=2^k/\Y.natAbs<=2^k/\q.x*((D:Int):Rat)=(X:Rat)/\q.y*((D:Int):Rat)=(Y:Rat)
def MZ(x y z:Int):dC (x:Rat) (y:Rat) (z:Rat)=my x y z:=by
 unfold dC;simp only[mN,nQ];simp
def io{a:Int}(ha:a.natAbs<=A)(hb:b.natAbs<=B):(a*b).natAbs<=A*B:=by
 rw[fV];exact gL ha hb
def Jr{a c d:Int}{k:Nat}(ha:a.natAbs<2^k)(hb:b.natAbs<2^k)(hc:c.natAbs<2^k)(hd:d.natAbs<2^k):(a*b-c*d).natAbs<=2^(2*k+1):=by
 have h1:=io (gK ha) (gK hb);have h2:=io (gK hc) (gK hd);have e:2^(2*k+1)=2^k*2^k+2^k*2^k:=by rw[gT,Nat.two_mul,fZ];omega
 generalize a*b=u at*;generalize c*d=v at*;generalize 2^k*2^k=w at*;omega
def Qg{k:Nat}{q:ah}(h0:D≠0)(hD:D.natAbs<=2^k)(hX:X.natAbs<=2^k)(hY:Y.natAbs<=2^k)(e1:q.x*(D:Rat)=(X:Rat))(e2:q.y*(D:Rat)=(Y:Rat)):QD k q:=by
 rcases Int.lt_or_lt_of_ne h0 with h|h
 .refine⟨D.natAbs, -X, -Y,by omega,hD,by omega,by omega,?_,?_⟩
  .rw[show((D.natAbs:Int))= -D by omega,jY,jY];grind
  .rw[show((D.natAbs:Int))= -D by omega,jY,jY];grind
 .refine⟨D.natAbs,X,Y,by omega,hD,hX,hY,?_,?_⟩
  .rw[show((D.natAbs:Int))=D by omega];exact e1
  .rw[show((D.natAbs:Int))=D by omega];exact e2
def LT{k:Nat}(hl:BL l k)(hm:BL m k)(h:crossI l m≠0):QD (2*k+1) (cP l m):=by
 have h':((crossI l m:Int):Rat)≠0:=fun e=>h (cY.1 e);refine Qg (D:=crossI l m) (X:=meetX l m) (Y:=meetY l m) h (Jr hl.a hm.b hm.a hl.b) ?_ ?_ ?_ ?_
 .unfold meetX;exact Jr hl.b hm.c hm.b hl.c
 .unfold meetY;exact Jr hm.a hl.c hl.a hm.c
 .unfold cP;rw[if_neg h];exact rK h'
 .unfold cP;rw[if_neg h];exact rK h'
def Mi{k:Nat}(hl:BL l k)(h:l.ok):QD (2*k+1) l.base:=by
 have hn:=mG h.ne;have e:l.nor.dot l.nor=((l.a*l.a+l.b*l.b:Int):Rat):=by
  unfold aa.nor ah.dot;rw[lV,cZ,cZ]
 have hz:l.nor.dot l.nor≠0:=by grind
 have h0:l.a*l.a+l.b*l.b≠0:=fun k=>hz (by rw[e,k];rfl);have e4:(2:Nat)^(2*k+1)=2^k*2^k+2^k*2^k:=by rw[gT,Nat.two_mul,fZ];omega
 have q1:=io (gK hl.a) (gK hl.a);have q2:=io (gK hl.b) (gK hl.b);have q3:=io (gK hl.a) (gK hl.c);have q4:=io (gK hl.b) (gK hl.c);refine Qg (D:=l.a*l.a+l.b*l.b) (X:= -(l.a*l.c)) (Y:= -(l.b*l.c)) h0 (by omega) (by omega) (by omega) ?_ ?_
 .rw[<-e]
  show(l.a:Rat)*(-(l.c:Rat)/l.nor.dot l.nor)*l.nor.dot l.nor=_;rw[Rat.mul_assoc,rK hz,jY,cZ];grind
 .rw[<-e]
  show(l.b:Rat)*(-(l.c:Rat)/l.nor.dot l.nor)*l.nor.dot l.nor=_;rw[Rat.mul_assoc,rK hz,jY,cZ];grind
def N8{q:ah}(h:q∈gh L): ∃l∈L,∃m∈L,crossI l m≠0/\q=cP l m:=by
 obtain⟨i,hi,h⟩:=iQ.1 h;rw[kQ] at hi;obtain⟨l,hl⟩: ∃l,L[i]? =some l:=⟨_,aZ hi⟩;obtain⟨m,hm⟩: ∃m,L[(i+1)%L.length]? =some m:=⟨_,aZ (dK _ (by omega))⟩;rw[rC hl hm] at h;split at h
 .rename_i hc
  refine⟨l,aK hl,m,aK hm,fun e=>?_,by simpa using h⟩;have h2:l.dir.cross m.dir=0:=by
   have:=vi l m;rw[e] at this;unfold ah.cross aa.dir;dsimp only;have z:((0:Int):Rat)=0:=J;rw[z] at this;grind
  rw[h2] at hc;exact absurd hc (by decide)
 .cases h
def Zz{k:Nat}(hc:bC c)(ha:fD c)(hk: ∀s∈c,BL s.l k){f:ah×ah}(hn: ¬((bj f).x=0/\(bj f).y=0))(h1:ZB f.1)(h2:ZB f.2)(h:ku c f=some l):BL l (2*k+10):=by
 unfold ku at h
 cases hf:fG c (bj f) with
 |none=>rw[hf] at h;cases h
 |some m=>
  rw[hf] at h
  cases h
  obtain⟨e1,e2⟩:=GI hc ha hn hf;obtain⟨q,hq,e3⟩:=(oD (n:=bj f) e2).2;rw[e1] at e3;have hqd:QD (2*k+1) q:=by
   unfold kv at hq;split at hq
   .obtain⟨l,hl,rfl⟩:=aT.1 hq
    obtain⟨s,hs,rfl⟩:=aT.1 hl;exact Mi (hk s hs) (hc.ok s hs)
   .obtain⟨l,hl,m,hm,hx,rfl⟩:=N8 hq
    obtain⟨s,hs,rfl⟩:=aT.1 hl;obtain⟨u,hu,rfl⟩:=aT.1 hm;exact LT (hk s hs) (hk u hu) hx
  obtain⟨D,X,Y,hD0,hD,hX,hY,x1,y1⟩:=hqd;obtain⟨m1,n1,p1,a1,a2⟩:=h1;obtain⟨m2,n2,p2,a3,a4⟩:=h2;have nx:(bj f).x=((n1-n2:Int):Rat):=by unfold bj;rw[p1,p2];unfold iP;rw[iK];grind
  have ny:(bj f).y=((m2-m1:Int):Rat):=by unfold bj;rw[p1,p2];unfold iP;rw[iK]
  generalize hA:n1-n2=A at nx;generalize hB:m2-m1=B at ny;have hD0':(0:Rat)<((D:Int):Rat):=by exact_mod_cast hD0
  have key:dC (bj f).x (bj f).y (-(m+(bj f).dot f.1))=my (A*D) (B*D) (-(A*X+B*Y+(A*m1+B*n1)*D)):=by
   rw[<-MZ];refine(IS (fun uv=>?_) hn hD0' fun p=>?_).symm
   .obtain⟨u,v⟩:=uv
    rw[cZ,<-nx] at u;rw[cZ,<-ny] at v;refine hn ⟨?_,?_⟩
    .rcases fJ.1 u with u|u
     .exact u
     .grind
    .rcases fJ.1 v with v|v
     .exact v
     .grind
   .rw[e3,p1]
    unfold ah.dot iP;dsimp only;rw[nx,ny];simp only[cZ,jY,lV];rw[<-x1,<-y1];grind
  show BL (dC (bj f).x (bj f).y (-(m+(bj f).dot f.1))) _;rw[key];have hA16:A.natAbs<=16:=by omega
  have hB16:B.natAbs<=16:=by omega
  have b0:(D:Int).natAbs<=2^(2*k+1):=hD;have b1:=io hA16 b0;have b2:=io hB16 b0;have b3:=io hA16 hX;have b4:=io hB16 hY;have b5:(A*m1+B*n1).natAbs<=256:=by
   have:=io hA16 a1;have:=io hB16 a2;omega
  have b6:=io b5 b0;obtain⟨r1,r2,r3⟩:=zc (A*D) (B*D) (-(A*X+B*Y+(A*m1+B*n1)*D));have e9:2^(2*k+10)=2^(2*k+1)*512:=by rw[show 2*k+10=2*k+1+9 by omega,fZ]
  have w0:0<2^(2*k+1):=gQ (by decide);generalize 2^(2*k+1)=w at*;exact⟨by omega,by omega,by omega⟩
def aC6{k:Nat}(hl:l.ok)(hk:BL l k)(hV:V≠[])(hz: ∀v∈V,ZB v):BL (i8 l V) (2*k+10):=by
 obtain⟨v,hv,e⟩:=(oD (n:=l.nor) hV).2;obtain⟨m,n,rfl,h1,h2⟩:=hz v hv;unfold i8;have e2:(l.c:Rat)-i7 l.nor V=((l.c-(l.a*m+l.b*n):Int):Rat):=by
  rw[e];unfold ah.dot aa.nor iP;rw[iK,lV,cZ,cZ]
 rw[e2,MZ];obtain⟨r1,r2,r3⟩:=zc l.a l.b (l.c-(l.a*m+l.b*n));have b1:=io (gK hk.a) h1;have b2:=io (gK hk.b) h2;have ka:=hk.a;have kb:=hk.b;have kc:=hk.c;have e9:2^(2*k+10)=2^k*(2^k*1024):=by rw[show 2*k+10=k+(k+10) by omega,fZ,fZ]
 have w1:1<=2^k:=gQ (by decide);have e10:2^k*1024<=2^k*(2^k*1024):=by rw[<-cW];exact bS _ (mU _ w1)
 generalize 2^k*(2^k*1024)=z at*;generalize 2^k=w at*;exact⟨by omega,by omega,by omega⟩
def BL.mono{k:Nat}(h:BL l j)(hk:j<=k):BL l k:=by
 have:=bY (n:=2) (by decide) hk;exact⟨cM h.a this,cM h.b this,cM h.c this⟩
def BL.rev{l:aa}{k:Nat}(h:BL l k):BL l.rev k:=⟨by unfold aa.rev;dsimp only;rw[jT];exact h.a,by unfold aa.rev;dsimp only;rw[jT];exact h.b,by unfold aa.rev;dsimp only;rw[jT];exact h.c⟩
def BJ{k:Nat}{E:List (ah×ah)}(hB:jr V E)(hz: ∀v∈V,ZB v)(hc:bC c)(ha:fD c)(hk: ∀s∈c,BL s.l k): ∀l∈gw c V E,BL l (2*k+10):=fun l hl=>by
 rcases bJ.1 hl with h|h
 .obtain⟨s,hs,rfl⟩:=aT.1 h
  exact aC6 (hc.ok s hs) (hk s hs) hB.vne hz
 .obtain⟨f,hf,h⟩:=jL.1 h
  exact Zz hc ha hk (hB.nz hf) (hz _ (hB.ends f hf).1) (hz _ (hB.ends f hf).2) h
def Z6{k:Nat}{E:List (ah×ah)}(hB:jr V E)(hz: ∀v∈V,ZB v)(ht:t.all aa.ok)(hk:t.all fun l=>BL l k):(p6 V E t).all fun l=>BL l (2*k+10):=by
 unfold p6;have hb: ∀c∈fh (t.restrict []),(gA V E c).all fun l=>BL l (2*k+10):=fun c hc=>by
  obtain⟨g1,g2⟩:=Eh ht c hc;exact HK (BJ hB hz g1 g2 (wN (P:=fun l=>BL l k) (fun l h=>h.rev) (t.restrict_all _ [] hk) (fun s hs=>by cases hs) (t8.1 hc)))
 have key: ∀(cs:List ao) (u:Tr),(∀c∈cs,(gA V E c).all fun l=>BL l (2*k+10))->(u.all fun l=>BL l (2*k+10))->(II V E cs u).all fun l=>BL l (2*k+10):=fun cs=>by
  induction cs with
  |nil=>intro u _ hu;exact hu
  |cons c cs ih=>
   intro u h hu;exact ih _ (fun d hd=>h d (aJ _ hd)) (Tr.mergeQ_all _ 1 (h c aQ) u [] hu)
 exact key _ _ hb trivial
section
end
def TV(p u v:ZP):bG p.q (kj p u).q (kj p v).q=((ji u v:Int):Rat):=by
 unfold bG kj ji ZP.q iP;dsimp only;push_cast;grind
def vN(p:Nat->Bool):Nat->Nat->Nat->Nat
 |0,i,_=>i
 |d+1,i,j=>if i<j then(if p ((i+j)/2) then vN p d ((i+j)/2+1) j else vN p d i ((i+j)/2)) else i
def J'(p:Nat->Bool): ∀(d i j:Nat),j-i<=d->f7 p i j=vN p d i j
 |0,i,j,h=>by
  rw[f7,vN,dif_neg (by omega)]
 |d+1,i,j,h=>by
  rw[f7,vN];by_cases k:i<j
  .rw[dif_pos k,if_pos k]
   split
   .exact J' p d _ _ (by omega)
   .exact J' p d _ _ (by omega)
  .rw[dif_neg k,if_neg k]
def IM(c:ao)(l:aa)(v:ar):ao:=c.take (vN (i0 c l) c.length 0 c.length)++⟨l,v⟩::c.drop (vN (i0 c l) c.length 0 c.length)
def xy(c:ao)(l:aa):ao:=match jz c l with
 |some v=>IM (d7 l c) l v
 |none=>c
def EN(c:ao)(l:aa):bE c l=xy c l:=by
 unfold bE xy
 cases h:jz c l with
 |none=>rfl
 |some v=>
  show kI (d7 l c) l v=IM (d7 l c) l v;unfold kI IM;rw[J' _ (d7 l c).length _ _ (by omega)]
def Tr.restrictF:Tr->ao->Tr
 | .leaf b,_=> .leaf b
 | .node l x y,c=>if !cp c l.rev then x.restrictF c else if !cp c l then y.restrictF c else joinQ l (x.restrictF (xy c l)) (y.restrictF (xy c l.rev))
def Tr.restrict_F: ∀(t:Tr) (c:ao),t.restrict c=t.restrictF c
 | .leaf _,_=>rfl
 | .node l x y,c=>by
  rw[Tr.restrict,Tr.restrictF,x.restrict_F c,y.restrict_F c,EN,EN,x.restrict_F,y.restrict_F]
def sD(v:List ah)(k i:Nat):Bool:=decide (i=k)||(decide (i=(k+1)%v.length)||decide (0<bG (v.getD k ⟨0,0⟩) (v.getD ((k+1)%v.length) ⟨0,0⟩) (v.getD i ⟨0,0⟩)))
def kw(v:List ah):Bool:=(List.range v.length).all fun k=>(List.range v.length).all fun i=>sD v k i
def K2:kw v=true↔ ∀k<v.length,∀i<v.length,sD v k i=true:=by
 unfold kw;simp only[dJ,kQ]
def Vg{k:Nat}(hk:k<v.length)(hi:i<v.length)(h:sD v k i=false):kw v=false:=by
 rw[<-jR,K2];exact fun f=>by rw[f k hk i hi] at h;cases h
def XZ{k:Nat}{w:ah}(h1:v[k]? =some q1)(h2:v[(k+1)%v.length]? =some q2)(h3:v[i]? =some w):sD v k i=(decide (i=k)||(decide (i=(k+1)%v.length)||decide (0<bG q1 q2 w))):=by
 unfold sD;rw[aV,aV,aV,h1,h2,h3];rfl
structure mc (V:List ah):Prop where
 br:jr V (b8 V)
 zb: ∀v∈V,ZB v
 le:V.length<=4
def aHO(a b c:ah):b8 [a,b,c]=[(a,b),(b,c),(c,a)]:=by unfold b8;simp[rX]
def aJf(a b c d:ah):b8 [a,b,c,d]=[(a,b),(b,c),(c,d),(d,a)]:=by unfold b8;simp[rX]
def Ng(a b c:ah):bG b c a=bG a b c:=by unfold bG;grind
def aKo{a b c:ah}(h:0<bG a b c):kw [a,b,c]=true:=by
 have h1:=Ng a b c;have h2:=Ng b c a;simp[kw,sD,rX,h1,h2,h]
def Yo{b c:Rat}(h1:a<c)(h2:b<d):kw [⟨a,b⟩,⟨c,b⟩,⟨c,d⟩,⟨a,d⟩]=true:=by
 have k:=Rat.mul_pos (show(0:Rat)<c-a by grind) (show(0:Rat)<d-b by grind);have o1:0<bG ⟨a,b⟩ ⟨c,b⟩ ⟨c,d⟩:=by unfold bG;dsimp only;grind
 have o2:0<bG ⟨a,b⟩ ⟨c,b⟩ ⟨a,d⟩:=by unfold bG;dsimp only;grind
 have o3:0<bG ⟨c,b⟩ ⟨c,d⟩ ⟨a,b⟩:=by unfold bG;dsimp only;grind
 have o4:0<bG ⟨c,b⟩ ⟨c,d⟩ ⟨a,d⟩:=by unfold bG;dsimp only;grind
 have o5:0<bG ⟨c,d⟩ ⟨a,d⟩ ⟨a,b⟩:=by unfold bG;dsimp only;grind
 have o6:0<bG ⟨c,d⟩ ⟨a,d⟩ ⟨c,b⟩:=by unfold bG;dsimp only;grind
 have o7:0<bG ⟨a,d⟩ ⟨a,b⟩ ⟨c,b⟩:=by unfold bG;dsimp only;grind
 have o8:0<bG ⟨a,d⟩ ⟨a,b⟩ ⟨c,d⟩:=by unfold bG;dsimp only;grind
 simp[kw,sD,rX,o1,o2,o3,o4,o5,o6,o7,o8]
def Ht{p:ZP}(h:p.1.natAbs<=8/\p.2.natAbs<=8):ZB p.q:=⟨p.1,p.2,J,h⟩
def MR{a b c:ZP}(h:0<bG a.q b.q c.q)(ha:a.1.natAbs<=8/\a.2.natAbs<=8)(hb:b.1.natAbs<=8/\b.2.natAbs<=8)(hc:c.1.natAbs<=8/\c.2.natAbs<=8):mc ([a,b,c].map ZP.q)/\kw ([a,b,c].map ZP.q)=true:=by
 refine⟨⟨?_,fun v hv=>?_,by simp⟩,aKo h⟩
 .show jr [a.q,b.q,c.q] (b8 [a.q,b.q,c.q])
  rw[aHO];exact S9 h
 .simp only[bU,iZ,aW,fK,or_false] at hv
  rcases hv with rfl|rfl|rfl
  .exact Ht ha
  .exact Ht hb
  .exact Ht hc
def Ln{a c d:Int}(h1:a<c:=by decide)(h2:b<d:=by decide)(ha:a.natAbs<=8:=by decide)(hb:b.natAbs<=8:=by decide)(hc:c.natAbs<=8:=by decide)(hd:d.natAbs<=8:=by decide):mc ((eo a b c d).map ZP.q)/\kw ((eo a b c d).map ZP.q)=true:=by
 have e:(eo a b c d).map ZP.q=[⟨(a:Rat),(b:Rat)⟩,⟨(c:Rat),(b:Rat)⟩,⟨(c:Rat),(d:Rat)⟩,⟨(a:Rat),(d:Rat)⟩]:=J;have q1:(a:Rat)<(c:Rat):=by exact_mod_cast h1
 have q2:(b:Rat)<(d:Rat):=by exact_mod_cast h2
 rw[e];refine⟨⟨?_,fun v hv=>?_,by simp⟩,Yo q1 q2⟩
 .rw[aJf];exact aIA q1 q2
 .simp only[aW,fK,or_false] at hv
  rcases hv with rfl|rfl|rfl|rfl
  .exact⟨a,b,J,ha,hb⟩
  .exact⟨c,b,J,hc,hb⟩
  .exact⟨c,d,J,hc,hd⟩
  .exact⟨a,d,J,ha,hd⟩
def V0{es:List Int}{a:Nat}(ha:a<=es.length):mc ((jj es a).1.map ZP.q)/\kw ((jj es a).1.map ZP.q)=true:=by
 have h0:=gD (n:=2) ha;unfold jj;dsimp only;split
 .unfold Ax
  dsimp only;generalize (au es 2 a).2=k at*;have e1:=fp (es:=es) (n:=3) (a:=k);generalize au es 3 k=x at*;have e2:=fp (es:=es) (n:=3) (a:=x.2);generalize au es 3 x.2=y at*;have e3:=fp (es:=es) (n:=2) (a:=y.2);generalize au es 2 y.2=z at*;have e4:=fp (es:=es) (n:=2) (a:=z.2);generalize au es 2 z.2=w at*;exact Ln (by omega) (by omega) (by omega) (by omega) (by omega) (by omega)
 .generalize (au es 2 a).2=k at*
  have e1:=fp (es:=es) (n:=3) (a:=k);generalize au es 3 k=x at*;have e2:=fp (es:=es) (n:=3) (a:=x.2);generalize au es 3 x.2=y at*;have e3:=fp (es:=es) (n:=2) (a:=y.2);generalize au es 2 y.2=u1 at*;have e4:=fp (es:=es) (n:=3) (a:=u1.2);generalize au es 3 u1.2=u2 at*;have e5:=fp (es:=es) (n:=3) (a:=u2.2);generalize au es 3 u2.2=v1 at*;have e6:=fp (es:=es) (n:=2) (a:=v1.2);generalize au es 2 v1.2=v2 at*;split
  .rename_i hcr
   have:=TV ((x.1:Int)-1,(y.1:Int)-1) (1+(u1.1:Int),(u2.1:Int)-1) ((v1.1:Int)-1,1+(v2.1:Int));exact MR (by rw[this];exact_mod_cast hcr) ⟨by dsimp only;omega,by dsimp only;omega⟩ ⟨by unfold kj;dsimp only;omega,by unfold kj;dsimp only;omega⟩ ⟨by unfold kj;dsimp only;omega,by unfold kj;dsimp only;omega⟩
  .exact MR (by decide+kernel) ⟨by decide,by decide⟩ ⟨by decide,by decide⟩ ⟨by decide,by decide⟩
def aCm{v w:ZP}(h1:v.1.natAbs<=8)(h2:v.2.natAbs<=8)(h3:(w.1-v.1).natAbs<=8)(h4:(w.2-v.2).natAbs<=7):BL (mA v.1 v.2 w.1 w.2) 8:=by
 obtain⟨r1,r2,r3⟩:=zc (ln v.2 w.2) (lw v.1 w.1) (sv v.1 v.2 w.1 w.2);have b1:(ln v.2 w.2*v.1).natAbs<=7*8:=io (by unfold ln;omega) h1;have b2:(lw v.1 w.1*v.2).natAbs<=8*8:=io (by unfold lw;omega) h2;have b3:(ln v.2 w.2).natAbs<=7:=by unfold ln;omega
 have b4:(lw v.1 w.1).natAbs<=8:=by unfold lw;omega
 have b5:(sv v.1 v.2 w.1 w.2).natAbs<=120:=by
  show(-(ln v.2 w.2*v.1+lw v.1 w.1*v.2)).natAbs<=120;omega
 exact⟨dR r1 (by omega),dR r2 (by omega),dR r3 (by omega)⟩
def azz(hr:ew r)(h: ∀p∈r,p.1.natAbs<=3/\p.2.natAbs<=3)(fill:Int):(ie [r] fill).all fun l=>BL l 8:=by
 unfold ie tD;refine Tr.restrict_all _ _ [] (y6 fun f hf=>?_);unfold iz at hf;rw[lZ,List.flatMap_nil,fW] at hf;have key: ∀n,n<=r.length-> ∀f∈qi r n,BL f.l 8:=fun n=>by
  induction n with
  |zero=>intro _ f hf;cases hf
  |succ n ih=>
   intro hn f hf;rw[qi] at hf;rcases bJ.1 hf with hf|hf
   .exact ih (by omega) f hf
   .rw[aU.1 hf]
    have a1:=h _ (uO (r:=r) (i:=n));have a2:=h _ (xP (r:=r) (i:=n));exact aCm (by omega) (by omega) (by omega) (by omega)
 exact key _ (bW _) f hf
structure xe (t:Tr):Prop where
 x:kg 18 t
 rd:t.Red []
 bl:t.all fun l=>BL l 8
 dp:t.depth<=6
 k: ∃K:List aa,K.length*2+4*(t.size+1)<=52/\K.length<=6/\(∀l∈K,l.ok)/\ig K t
def X'(hr:ew r)(h: ∀p∈r,p.1.natAbs<=3/\p.2.natAbs<=3)(hn:r.length*2+4*((ie [r] 2).size+1)<=52):xe (ie [r] 2):=by
 have ho:=HE (rs:=[r]) (fill:=2) (fun q hq=>by rw[aU.1 hq];exact hr) (by simp);obtain⟨e1,e2⟩:=Be hr;have hR:tD [r] 2=jo (nf [r] 2) r.length (jH r) []:=by
  unfold tD iz;rw[lZ,List.flatMap_nil,fW,e1]
 have hro:mf r.length (ie [r] 2):=by
  unfold ie;rw[hR];exact(Fl (acc:=nf [r] 2) e2 e1).restrict []
 have h6:=hr.n6;obtain⟨K,k1,k2,k3⟩:=hro.am;exact⟨ho.x (Ck _ _) (by decide),Ck _ _,azz hr h 2,cN hro.dp h6,K,by omega,by omega,k2,k3⟩
def Tb(hr:ew r)(hn:r.length<=4):(ie [r] 2).size<=10:=by
 obtain⟨e1,e2⟩:=Be hr;have hR:tD [r] 2=jo (nf [r] 2) r.length (jH r) []:=by
  unfold tD iz;rw[lZ,List.flatMap_nil,fW,e1]
 have hro:mf r.length (ie [r] 2):=by
  unfold ie;rw[hR];exact(Fl (acc:=nf [r] 2) e2 e1).restrict []
 obtain⟨K,k1,k2,k3⟩:=hro.am;have:=MM k2 (Tr.red_prp (Ck [r] 2)) hro.gd.ok bC.nil k3;have h4:K.length*(K.length+1)<=4*5:=gL (by omega) (by omega);omega
def O9(hV:mc V)(h:xe t):pi 1 (Tr.leaf false) ((fh (t.restrict [])).map (gA V (b8 V)))=some (p6 V (b8 V) t)/\kg 54 (p6 V (b8 V) t)/\(p6 V (b8 V) t).Red []/\(p6 V (b8 V) t).all (fun l=>BL l 26):=by
 obtain⟨K,h1,h2,h3,h4⟩:=h.k;have hE:(b8 V).length<=4:=by unfold b8;rw[aX,kV];exact hV.le
 have ho:=h.x.ok;have hcl:(fh (t.restrict [])).length<=t.size+1:=cN (O2 _) (Nat.succ_le_succ (t.restrict_size []));have hKl:(qF V (b8 V) K (fh (t.restrict []))).length<=52:=by
  have:=ayU (V:=V) (E:=b8 V) (K:=K) (cs:=fh (t.restrict []));have:(fh (t.restrict [])).length*(b8 V).length<=(t.size+1)*4:=gL hcl hE;omega
 have hs: ∀c∈fh (t.restrict []),c.length+(b8 V).length<=600:=fun c hc=>by
  have:=Ig (t.restrict_all LB [] h.x.lb) (t.restrict_all aa.ok [] ho) c hc;have:=t.restrict_depth [];have:=h.dp;omega
 obtain⟨a1,a2⟩:=aCa hV.br ho h3 h4 hs (by omega);have hb:=Z6 hV.br hV.zb ho h.bl;obtain⟨b1,b2⟩:=a2.size (FH hV.br h3);have b3:(qF V (b8 V) K (fh (t.restrict []))).length*((qF V (b8 V) K (fh (t.restrict []))).length+1)<=52*53:=gL hKl (by omega);exact⟨a1,⟨⟨⟨Tr.all_imp (fun l h=>⟨h.mono (by decide)⟩) hb,a2.ok⟩,by omega,_,by omega,FH hV.br h3,a2.am⟩,by omega⟩,a2.rd,hb⟩
section
variable {n:Nat}{own:aI}{lk:LK}{bk:BM}
variable {dst:Option Nat}{t t' ty':TypeId}{pos:String}{af:Array Edge}{gd:Option (Nat×Bool)}{x y:Operand}
end
section
variable {n:Nat}{own:aI}{ops:Array Oper}{r:List Oper}{K:List Kt}
end
section
variable (hE:EG GB ai al ae){k:Nat}{a b:Tr}(ha:kg j a)(hb:kg k b)
include hE ha
include hb
end
section
variable (hE:EG GB ai al ae)
include hE
end

def Ud(l:List ah):cE 6 (l.map eZ):=fun d hd=>by
 obtain⟨x,_,rfl⟩:=aT.1 hd;exact⟨J,J⟩
def WQ[h:aD p i](hi:i<=900000000:=by decide):PF GB prog 129 [eZ p] (eZ (gP p)):=by
 refine fn func129 J J ntmps129 J J (fun C=>?_);refine cl J (qC (q:=p.y) (i:=i) hi) J<|rz J J
def Rr[h:BQ q i](hi:i<=400000000:=by decide):PF GB prog 153 [eR q] (eF q):=by
 haveI:BN q.num.natAbs i:=⟨h.hn⟩;haveI:BN q.den i:=⟨h.hd⟩;refine fn func153 J J ntmps153 J J (fun C=>?_);refine cl (fu:=⟨0⟩) J (uX (n:=decide (q.num<0)) (a:=q.num.natAbs) (d:=q.den) (i:=i) (j:=i) (by omega) (by omega)) J<|aj 7 (.d (eF q)) J (by rw[lC,rM])<|gx J<|rz J J
def aHb[h:aD p i](hi:i<=400000000:=by decide):PF GB prog 79 [nO p] (eZ p):=by
 refine fn func79 J J ntmps79 J J (fun C=>?_);refine cl J (Rr (q:=p.x) (i:=i) hi) J<|cl J (Rr (q:=p.y) (i:=i) hi) J<|rz J J
def Ss{q:ah}[hp:aD p i][hq:aD q i](hi:i<=1000000:=by decide):PF GB prog 189 [eZ p,eZ q] (vB (decide (p.x=q.x/\p.y=q.y))):=by
 refine fn func189 J J ntmps189 J J (fun C=>?_);refine cl J (CS (p:=p.x) (q:=q.x) (i:=i) (j:=i) (by omega) (by omega)) J<|csd 10 J J J (fun hg10=>?_) (fun hg10=>?_)
 .
  refine cl J (CS (p:=p.y) (q:=q.y) (i:=i) (j:=i) (by omega) (by omega)) J<|rz J (by show DV.v (.bool _)= .v (.bool _);simp_all)
 .
  exact rz J (by show DV.v (.bool _)= .v (.bool _);simp_all)
def JR{q:ah}[hp:aD p i][hq:aD q j](hi:i<=10000000:=by decide)(hj:j<=10000000:=by decide):PF GB prog 128 [eZ p,eZ q] (eZ ⟨p.x-q.x,p.y-q.y⟩):=by
 refine fn func128 J J ntmps128 J J (fun C=>?_);refine cl J (py (p:=p.x) (q:=q.x) (i:=i) (j:=j) (by omega) (by omega)) J<|cl J (py (p:=p.y) (q:=q.y) (i:=i) (j:=j) (by omega) (by omega)) J<|rz J J
def aIb(h: ¬gm q)(hy:Is G (di q) y):y= .pointer none:=by
 unfold di at hy;rw[decide_eq_false h] at hy;rcases sE.1 hy with⟨_,e⟩|⟨e,_⟩
 .exact e
 .cases e
def XT(h: ¬gm q):Is G (di q) (.pointer none):=by
 unfold di;rw[decide_eq_false h];exact sE.2 (.inl ⟨J,J⟩)
def xF(q:Rat):List Value:=[.int .i64 (du q), .int .i64 (dt q), .pointer none]
def U8{t:List DV}{m:List Value}(h: ¬gm q)(hm:IsLs G (vI (du q)::vI (dt q)::di q::t) m): ∃n,m=xF q++n/\IsLs G t n:=by
 obtain⟨y1,m1,rfl,h1,hm1⟩:=bi.1 hm;obtain⟨y2,m2,rfl,h2,hm2⟩:=bi.1 hm1;obtain⟨y3,m3,rfl,h3,hm3⟩:=bi.1 hm2;obtain rfl:=aH.1 h1;obtain rfl:=aH.1 h2;obtain rfl:=aIb h h3;exact⟨m3,J,hm3⟩
def aBS{t:List DV}{n:List Value}(h: ¬gm q)(k:IsLs G t n):IsLs G (vI (du q)::vI (dt q)::di q::t) (xF q++n):= .cons (aH.2 J) (.cons (aH.2 J) (.cons (XT h) k))
def rV(q:Rat):Value:= .agg ⟨xF q⟩
def Wo(h: ¬gm q)(hy:Is G (eF q) y):y=rV q:=by
 obtain⟨m,rfl,hm⟩:=en.1 hy;obtain⟨n,rfl,hn⟩:=U8 h hm;rw[ef.1 hn];rfl
def TF(h: ¬gm q):Is G (eF q) (rV q):=en.2 ⟨_,J,aBS h (ef.2 J)⟩

def mp(v:List ah):List (List DV):=(List.range v.length).map fun i=>[vI (i:Nat),JC (v.getD i ⟨0,0⟩) (v.getD ((i+1)%v.length) ⟨0,0⟩)]
def SU{q:ah}(h1:v[i]? =some p)(h2:v[(i+1)%v.length]? =some q):(mp v)[i]? =some [vI (i:Nat),JC p q]:=by
 have hi:=(aR.1 h1).1;unfold mp;rw[cR,qJ hi,lK,aV,aV,h1,h2];rfl
def JF{e:List DV}(h:(mp v)[i]? =some e): ∃p q,v[i]? =some p/\v[(i+1)%v.length]? =some q/\e=[vI (i:Nat),JC p q]:=by
 have hi:i<v.length:=by
  have:=(aR.1 h).1;unfold mp at this;simpa using this
 have h1:v[i]? =some v[i]:=aZ hi;have hm:(i+1)%v.length<v.length:=dK _ (by omega);have h2:v[(i+1)%v.length]? =some v[(i+1)%v.length]:=aZ hm;refine⟨_,_,h1,h2,?_⟩;rw[SU h1 h2] at h;exact(Option.some.inj h).symm
def GJ: ∀e∈mp v,e.length=2:=fun e he=>by
 obtain⟨i,_,rfl⟩:=aT.1 he;rfl
def FN(hn:v.length<=100000:=by omega):It GB prog 202 [.pt [.sl (v.map eZ)]] (mp v):=by
 have hml:(v.map eZ).length=v.length:=aX ..;have hrl:(mp v).length=v.length:=by unfold mp;simp
 refine aKi func202 J J ntmps202 J (fun _=>J) (fun l Jv Jx GB' hg H C hp hJ=>?_);refine Xv 1 J<|gx J<|aj 6 (.d (vI (v.length:Nat))) J (by rw[hml]<;>rfl)<|lpC (X:=Nat) (fun k=>[(0, .d (.v (.func (.yield l) #[] #[]))),(1, .ep [.sl (v.map eZ)]),(5, .d (.sl (v.map eZ))),(6, .d (vI (v.length:Nat))),(7, .d (vI (k:Nat)))]) (fun k C=>k<=v.length/\Jv k C.G0 C.w0) (fun k=>v.length-k) 0 hp ⟨aM _,hJ⟩ (fun _=>J) (fun k C1 hp1 hk=>?_);obtain⟨hk1,hJ1⟩:=hk;refine br J J J (fun hc8=>?_) (fun hc8=>?_)
 .obtain⟨p,hpx⟩: ∃u,v[k]? =some u:=⟨_,aZ (by omega)⟩
  obtain⟨q,hqx⟩: ∃u,v[(k+1)%v.length]? =some u:=⟨_,aZ (dK _ (by omega))⟩;refine ix _ J (cg hpx) J<|aj 20 (.d (vI (((k+1)%v.length:Nat):Int))) J (by rw[hml]<;>rfl)<|gx J<|ix _ J (cg hqx) J<|Vl (len:=2) (s:=6) (e:=160) J (by kernel_rfl) (by kernel_rfl) J<|drT (by kernel_rfl) J ?_;refine cy [(0, .d (.v (.func (.yield l) #[] #[]))),(1, .ep [.sl (v.map eZ)]),(5, .d (.sl (v.map eZ))),(6, .d (vI (v.length:Nat))),(7, .d (vI (k:Nat)))] H hp1 hJ1 J (SU hpx hqx) J (by repeat (first|exact trivial|refine And.intro J ?_)) J J J (fun C3 hp3 hJ3=>?_) (fun C3 hp3 hJ3=>?_)
  .exact atC (k+1) hp3 ⟨⟨by omega,hJ3⟩,by omega⟩
  .exact La H hp3 (.inr hJ3) J
 .obtain rfl:k=v.length:=by omega
  exact La H hp1 (.inl (by rw[hrl];exact hJ1)) J
def ID:FL GB prog 127 [.sl (v.map eZ)] 202 (.pt [.sl (v.map eZ)]):=by
 refine WL func127 J J ntmps127 J J (fun C=>?_);refine fz 1 J J<|aJg 1 J (fun GB' pv hg hp=>?_);refine WP J J<|U0 J J hp
def XM:HU 158:=fun x w=>by kernel_rfl
def aHZ(m:List Value):C5 158 (.agg ⟨m⟩) "Mul" 215:=fun w=>by kernel_rfl
def U5(l:List Rat)(k:Nat)(y:Rat):(l.map eF).set k (eF y)=(l.set k y).map eF:=(jW ..).symm
def mH(L:List Rat)(k:Rat)(j:Nat):List Rat:=(L.take j).map (· *k)++L.drop j
def aDy(L:List Rat)(k:Rat)(j:Nat):(mH L k j).length=L.length:=by
 unfold mH;rw[aY,aX,bT,gV];omega
def Th{L:List Rat}{k:Rat}(h:L[j]? =some a):(mH L k j)[j]? =some a:=by
 have hj:=(aR.1 h).1;unfold mH;rw[jU (by rw[aX,bT];omega),aX,bT,mK,<-h];congr 1;omega
def aBs{L:List Rat}{k:Rat}(h:L[j]? =some a):(mH L k j).set j (a*k)=mH L k (j+1):=by
 have hj:=(aR.1 h).1;unfold mH;rw[dZ,h,nR _ _ (by rw[aX,bT];omega),aX,bT,show j-min j L.length=0 by omega,bX hj];simp only[lY,aL,bU,iZ,List.set_cons_zero,dV,gN,jM]
def Re{L:List Rat}{k:Rat}[hk:BQ k i](hL: ∀a∈L,¬gm a)(hb: ∀a∈L,BQ a i)(hn:L.length<=1000)(hi:i<=1000000:=by decide):PB GB prog 199 (fw [some (eF k),none]) 3 158 (L.map eF) (fun w=> .v (.slice w.a w.n w.c)) ((L.map (· *k)).map eF):=by
 have hml:(L.map eF).length=L.length:=aX ..;refine DL (fu:=⟨11⟩) func199 J J ntmps199 J J (fun C=>?_);refine aj 7 (.d (vI (L.length:Nat))) J (by rw[hml]<;>rfl)<|gx J<|lp (X:=Nat) (fun j=>[(8, .d (vI (j:Nat)))]) (fun j=>[(1000000,some (.b 158 3 ((mH L k j).map eF) false))]) (fun j=>j<=L.length) (fun j=>L.length-j) 0 J (aM _) (fun _=>J) (fun j hk=>?_);have hsl:=aDy L k j;have hsm:((mH L k j).map eF).length=(mH L k j).length:=aX ..;refine br J J J (fun hc9=>?_) (fun hc9=>?_)
 .
  obtain⟨a,hx⟩: ∃u,L[j]? =some u:=⟨_,aZ (by omega)⟩;have ham:=aK hx;haveI:=hb a ham;have hga:(mH L k j)[j]? =some a:=Th hx;refine lb (fu:=⟨0⟩) _ J (cg hga) J<|mki (fu:=⟨1⟩) (rV a) J XM (fun G y hy=>Wo (hL a ham) hy) J<|Z1 J (aHZ _) (PF.arg0 (oc (p:=a) (q:=k) (i:=i) (j:=i) (by omega) (by omega)) (fun G y h=>by rw[aH.1 h];exact TF (hL a ham))) J<|sb (hv:=by simp only[ak];exact⟨by kernel_rfl,by omega⟩) _ ((mH L k (j+1)).map eF) J (cg hga) J (by rw[<-aBs hx,<-U5]<;>rfl) J<|at_ (j+1) ⟨(by omega),(by omega)⟩
 .
  obtain rfl:j=L.length:=by omega
  have hend:mH L k L.length=L.map (· *k):=by unfold mH;rw[cS,fL,fW]
  exact uE J J J (by rw[hend])
def JY{a:Int}{g:Nat}(hg:0<g)(hd:g∣a.natAbs):(a:Rat)*(((g:Nat):Int):Rat)⁻¹=((zv (decide (a<0)) (a.natAbs/g):Int):Rat):=by
 obtain⟨q,hq⟩:=hd;have e:zv (decide (a<0)) (a.natAbs/g)*(g:Int)=a:=by
  rw[hq,rU q hg];unfold zv;have hc:((g*q:Nat):Int)=(g:Int)*(q:Int):=by simp
  have hm:=rS (g:Int) (q:Int);split
  .rename_i h
   have h:=of_decide_eq_true h;rw[Int.neg_mul];omega
  .rename_i h
   have h: ¬a<0:=fun k=>h (decide_eq_true k);omega
 generalize zv (decide (a<0)) (a.natAbs/g)=z at*;have h0:((g:Int):Rat)≠0:=by
  intro k;have:(g:Int)=0:=by exact_mod_cast k
  omega
 rw[<-e,cZ];generalize ((g:Int):Rat)=r at*;grind
def xb{k:Nat}(h:BQ q k)(hk:k<=62:=by decide): ¬gm q:=fun b=>b (by
 have hp:2^k<=2^62:=bY (by decide) hk;have e:(2:Nat)^62=4611686018427387904:=by decide
 obtain⟨h1,h2⟩:=h;exact⟨by omega,by omega⟩)
theorem DH(p q:ah)[aD p i][aD q j]:aD ⟨p.x-q.x,p.y-q.y⟩ (i+j+1):=⟨inferInstanceAs (BQ (p.x-q.x) _),inferInstanceAs (BQ (p.y-q.y) _)⟩
theorem Ny(h:z.natAbs<=1000000):BQ (z:Rat) 22:=by
 have e:(2:Nat)^21=2097152:=by decide
 haveI:BI z 21:=⟨by omega⟩;exact(inferInstance:BQ (z:Rat) 22)
theorem Ij{z:ZP}(h:ZP.le 100 z):aD z.q 22:=⟨Ny (by have:=h.1;omega),Ny (by have:=h.2;omega)⟩
def QE{k:Nat}(h:(r.map ZP.q)[k]? =some p):k<r.length/\p=(r.getD k (0,0)).q:=by
 rw[cR] at h
 cases e:r[k]? with
 |none=>rw[e] at h;cases h
 |some z=>
  rw[e] at h;cases h;exact⟨(aR.1 e).1,by rw[aV,e];rfl⟩
end Go.Sx
end
