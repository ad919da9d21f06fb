import Derived.Test.YthhjilnhmkheeaaGreatDoorMr17
import Derived.RangeFuncSeq
set_option linter.all false
set_option maxRecDepth 100000
section
namespace Go.Sx
open Go Go.Proofs Tryz
def tG{l m:ab}(h:crossI l m≠0){p:aa}(h1:l.value p=0)(h2:m.value p=0):p=c9 l m:=by
 rw[R3 h];have hd:=PO h;rw[iC] at h1 h2;obtain⟨x,y⟩:=p;have e1:x*l.nor.cross m.nor=(l.b:Rat)*(m.c:Rat)-(l.c:Rat)*(m.b:Rat):=by unfold aa.cross ab.nor;grind
 have e2:y*l.nor.cross m.nor=(l.c:Rat)*(m.a:Rat)-(l.a:Rat)*(m.c:Rat):=by unfold aa.cross ab.nor;grind
 generalize l.nor.cross m.nor=d at*;simp only[aa.mk.injEq];constructor<;>grind
def kv{c:au}(hb:dB c=true):c≠[]/\ ∀s∈c,s.v.nl=false/\s.v.nh=false:=by
 unfold dB at hb;rw[bT,cN] at hb;refine⟨fun e=>by rw[e] at hb;simp at hb,fun s hs=>?_⟩;have:=hb.2 s hs;simpa using this
def gA{c:au}(hc:bw c)(ha:dE c)(hb:dB c=true){i:Nat}{s w:aI}(hs:c[i]? =some s)(hw:c[(i+1)%c.length]? =some w):0<s.l.dir.cross w.l.dir/\c9 s.l w.l=s.l.at s.v.hi/\w.l.at w.v.lo=s.l.at s.v.hi:=by
 have he:=(kv hb).2;have ms:=aT hs;have mw:=aT hw;have hn:lA (c.map fun s=>s.l.dir) s.l.dir w.l.dir:=O7 ha (by rw[cV,hs];rfl) (by rw[aK,cV,hw];rfl);obtain⟨h1,h2⟩:=Vy hc ms mw hn (he s ms).2;have h3:=aEF hc ms mw hn h1 (he w mw).1;have hx:crossI s.l w.l≠0:=Hr ((k9 _).2 h1);refine⟨h1,(tG hx (jB (hc.ok s ms).ne _) h2).symm,?_⟩;rw[tG hx h3 (jB (hc.ok w mw).ne _),tG hx (jB (hc.ok s ms).ne _) h2]
def MZ{α β:Type}(f:α->β): ∀l:List α,l.flatMap (fun x=>[f x])=l.map f
 |[]=>rfl
 |a::t=>by rw[kL,MZ f t];rfl
def TL{α β:Type}{f g:α->List β}: ∀{l:List α},(∀x∈l,f x=g x)->l.flatMap f=l.flatMap g
 |[],_=>rfl
 |a::t,h=>by rw[kL,kL,h a aQ,TL fun x hx=>h x (aX _ hx)]
def A9{c:au}(hc:bw c)(ha:dE c)(hb:dB c=true):ge (c.map (·.l))=c.map fun s=>s.l.at s.v.hi:=by
 unfold ge;rw[aK];have h0: ∀i∈List.range c.length,rx (c.map (·.l)) i=[(c.map fun s=>s.l.at s.v.hi).getD i ⟨0,0⟩]:=fun i hi=>by
  have hi':=dS.1 hi;obtain⟨s,hs⟩: ∃s,c[i]? =some s:=⟨_,aZ hi'⟩;obtain⟨w,hw⟩: ∃w,c[(i+1)%c.length]? =some w:=⟨_,aZ (dQ _ we)⟩;obtain⟨h1,h2,h3⟩:=gA hc ha hb hs hw;rw[yF (l:=s.l) (m:=w.l) (by rw[cV,hs];rfl) (by rw[aK,cV,hw];rfl),if_pos ((k9 _).2 h1),h2,aJ,cV,hs];rfl
 rw[TL h0,MZ];refine List.ext_getElem omc fun i h1 h2=>?_;rw[lU,List.getElem_range,aJ,aZ ozq];rfl
def aqp{c:au}(hc:bw c)(ha:dE c)(hb:dB c=true):0<c.length:=by
 have:=(kv hb).1
 cases c with
 |nil=>exact absurd J this
 |cons a t=>simp
def aB{α:Type}(f:α->Rat):List α->Rat
 |[]=>0
 |a::t=>f a+aB f t
def td{α:Type}(f:α->Rat): ∀(l m:List α),aB f (l++m)=aB f l+aB f m
 |[],m=>by rw[lQ,aB];grind
 |a::t,m=>by rw[jW,aB,aB,td f t m];grind
def oq{α:Type}{f g:α->Rat}: ∀{l:List α},(∀x∈l,f x=g x)->aB f l=aB g l
 |[],_=>rfl
 |a::t,h=>by rw[aB,aB,h a aQ,oq fun x hx=>h x (aX _ hx)]
def xS{α β:Type}(f:β->Rat)(g:α->β): ∀l:List α,aB f (l.map g)=aB (fun x=>f (g x)) l
 |[]=>rfl
 |a::t=>by rw[cJ,aB,aB,xS f g t]
def Ky{α β:Type}(f:β->Rat)(g:α->List β): ∀l:List α,aB f (l.flatMap g)=aB (fun x=>aB f (g x)) l
 |[]=>rfl
 |a::t=>by rw[kL,td,aB,Ky f g t]
def xd{α:Type}(f g:α->Rat): ∀l:List α,aB (fun x=>f x+g x) l=aB f l+aB g l
 |[]=>by simp only[aB];grind
 |a::t=>by rw[aB,aB,aB,xd f g t];grind
def xu{α:Type}(k:Rat)(f:α->Rat): ∀l:List α,aB (fun x=>k*f x) l=k*aB f l
 |[]=>by simp only[aB];grind
 |a::t=>by rw[aB,aB,xu k f t];grind
def Ct{α:Type}{f:α->Rat}: ∀{l:List α},(∀x∈l,0<=f x)->0<=aB f l
 |[],_=>dX
 |a::t,h=>by rw[aB];have h1:=h a aQ;have h2:=Ct fun x hx=>h x (aX a hx);grind
def OH{α:Type}{f:α->Rat}{l:List α}(h: ∀x∈l,0<f x)(hn:l≠[]):0<aB f l:=by
 cases l with
 |nil=>exact absurd J hn
 |cons a t=>
  rw[aB];have h1:=h a aQ;have h2:=Ct (f:=f) (l:=t) fun x hx=>aN (h x (aX a hx));grind
def uz(f:aa->aa->Rat)(v:List aa):Rat:=aB (fun i=>f (v.getD i ⟨0,0⟩) (v.getD ((i+1)%v.length) ⟨0,0⟩)) (List.range v.length)
def QZ(n:Nat):List.range (n+1)=0::(List.range n).map (· +1):=by
 rw[List.range_succ_eq_map]
def QD(g:Nat->Rat)(n:Nat):aB (fun i=>g ((i+1)%n)) (List.range n)=aB g (List.range n):=by
 cases n with
 |zero=>rfl
 |succ n=>
  have e1:aB (fun i=>g ((i+1)%(n+1))) (List.range (n+1))=aB (fun i=>g (i+1)) (List.range n)+g 0:=by
   rw[pR,td,oq (g:=fun i=>g (i+1)) fun i hi=>by rw[dZ (by have:=dS.1 hi;omega)]];simp only[aB,lX];grind
  have e2:aB g (List.range (n+1))=g 0+aB (fun i=>g (i+1)) (List.range n):=by rw[QZ,aB,xS]
  rw[e1,e2];grind
def Sl{α:Type}(f:α->Rat)(d:α): ∀l:List α,aB (fun i=>f (l.getD i d)) (List.range l.length)=aB f l
 |[]=>rfl
 |a::t=>by
  rw[bZ,QZ,aB,xS,aB,<-Sl f d t];rfl
def xv{c:au}(hc:bw c)(ha:dE c)(hb:dB c=true)(f:aa->aa->Rat):uz f (ge (c.map (·.l)))=aB (fun s=>f (s.l.at s.v.lo) (s.l.at s.v.hi)) c:=by
 rw[A9 hc ha hb];unfold uz;rw[aK];obtain⟨d,hd⟩: ∃d:aI,d=⟨tz,ai.all⟩:=⟨_,rfl⟩;rw[<-Sl (fun s:aI=>f (s.l.at s.v.lo) (s.l.at s.v.hi)) d c,<-QD (fun i=>f ((c.getD i d).l.at (c.getD i d).v.lo) ((c.getD i d).l.at (c.getD i d).v.hi)) c.length];refine oq fun i hi=>?_;have hi':=dS.1 hi;have hj:=dQ (i+1) (show 0<c.length by omega);obtain⟨s,hs⟩: ∃s,c[i]? =some s:=⟨_,aZ hi'⟩;obtain⟨w,hw⟩: ∃w,c[(i+1)%c.length]? =some w:=⟨_,aZ hj⟩;obtain⟨h1,h2,h3⟩:=gA hc ha hb hs hw;rw[aJ,aJ,aJ,cV,cV,hs,hw];show f (s.l.at s.v.hi) (w.l.at w.v.hi)=f (w.l.at w.v.lo) (w.l.at w.v.hi);rw[h3]
def Ea{l:ab}(h:l.Ne)(a b:Rat):(l.at a).cross (l.at b)=(b-a)*(l.c:Rat):=by
 have h1:=jB h a;have e:l.at b=av (l.at a) l.dir (b-a):=by rw[<-wg];congr 1;grind
 rw[e];rw[iC] at h1;generalize l.at a=p at*;unfold aa.cross av ab.dir;grind
def xj(c:au):Rat:=aB (fun s=>(s.v.hi-s.v.lo)*(s.l.c:Rat)) c
def MJ{c:au}(hc:bw c)(ha:dE c)(hb:dB c=true):uz aa.cross (ge (c.map (·.l)))=xj c:=by
 rw[xv hc ha hb];exact oq fun s hs=>Ea (hc.ok s hs).ne _ _
def Iq{c:au}(hc:bw c)(ha:dE c)(hb:dB c=true)(g:aa->Rat):aB (fun s=>g (s.l.at s.v.hi)-g (s.l.at s.v.lo)) c=0:=by
 have e:=xv hc ha hb fun p q=>g q-g p;rw[<-e];unfold uz;generalize ge (c.map (·.l))=v;have e2:aB (fun i=>g (v.getD ((i+1)%v.length) ⟨0,0⟩)) (List.range v.length)=aB (fun i=>g (v.getD i ⟨0,0⟩)) (List.range v.length):=QD (fun i=>g (v.getD i ⟨0,0⟩)) _;have e3:=xd (fun i=>g (v.getD ((i+1)%v.length) ⟨0,0⟩)-g (v.getD i ⟨0,0⟩)) (fun i=>g (v.getD i ⟨0,0⟩)) (List.range v.length);have e4:aB (fun i=>g (v.getD ((i+1)%v.length) ⟨0,0⟩)-g (v.getD i ⟨0,0⟩)+g (v.getD i ⟨0,0⟩)) (List.range v.length)=aB (fun i=>g (v.getD ((i+1)%v.length) ⟨0,0⟩)) (List.range v.length):=oq fun i _=>by grind
 rw[e4,e2] at e3;grind
def Tu{c:au}(hc:bw c)(ha:dE c)(hb:dB c=true):0<xj c:=by
 obtain⟨p,hp⟩:=hc.ne;have key:aB (fun s=>(s.v.hi-s.v.lo)*s.l.value p) c=xj c:=by
  have e1:=Iq hc ha hb fun q=>q.x*p.y-q.y*p.x;have e2:=xd (fun s:aI=>(s.v.hi-s.v.lo)*(s.l.c:Rat)) (fun s=>((s.l.at s.v.hi).x*p.y-(s.l.at s.v.hi).y*p.x)-((s.l.at s.v.lo).x*p.y-(s.l.at s.v.lo).y*p.x)) c;rw[e1] at e2;unfold xj;have e5:aB (fun s:aI=>(s.v.hi-s.v.lo)*s.l.value p) c=aB (fun s:aI=>(s.v.hi-s.v.lo)*(s.l.c:Rat)+(((s.l.at s.v.hi).x*p.y-(s.l.at s.v.hi).y*p.x)-((s.l.at s.v.lo).x*p.y-(s.l.at s.v.lo).y*p.x))) c:=oq fun s hs=>by
   have e:s.l.at s.v.hi=av (s.l.at s.v.lo) s.l.dir (s.v.hi-s.v.lo):=by rw[<-wg];congr 1;grind
   rw[e,iC];generalize s.l.at s.v.lo=q;unfold av ab.dir;grind
  rw[e5,e2];grind
 rw[<-key];refine OH (fun s hs=>?_) (kv hb).1;have h1:=(kv hb).2 s hs;have h2:=(hc.edge s hs).1;unfold ai.Pos at h2;rw[h1.1,h1.2] at h2;exact bg omb (hp s hs)
def yE(t:Tr):Prop:= ∃(L:List ab) (R:Rat),(∀l∈L,l.ok)/\ ∀p,fy L p->Az R p->t.val p=false
def Yu(fill:Int):p8 fill 0=false:=by
 unfold p8;simp
def SM{rs:List (List ZP)}{fill:Int}(hr: ∀r∈rs,bD r){p:aa}(hp:Az 100 p):iH rs fill p=false:=by
 have key: ∀(rs:List (List ZP)),(∀r∈rs,bD r)->rs.foldl (fun n r=>n+cx r p) (0:Int)=0:=by
  intro rs
  induction rs with
  |nil=>intro _;rfl
  |cons r t ih=>
   intro hr;have e:cx r p=0:=by
    unfold cx;rw[tf];refine I2 (R:=100) (fun v hv=>?_) hp;obtain⟨h1,h2⟩:=(hr r aQ).le v hv;have c: ∀z:Int,z.natAbs<=100-> -(100:Rat)<=(z:Rat)/\(z:Rat)<=100:=fun z hz=>by
     have a:((-100:Int):Rat)<=(z:Rat):=lS.2 we;have b:(z:Rat)<=((100:Int):Rat):=lS.2 we;exact⟨a,b⟩
    exact⟨(c _ h1).1,(c _ h1).2,(c _ h2).1,(c _ h2).2⟩
   rw[jV,e];exact ih fun r h=>hr r (aX _ h)
 unfold iH;rw[key rs hr,Yu]
def qm{rs:List (List ZP)}{fill:Int}(hr: ∀r∈rs,bD r):(lH rs fill).all ab.ok:=w4 fun f hf=>((pi hr).2 f hf).ok
def Ad{rs:List (List ZP)}{fill:Int}(hr: ∀r∈rs,bD r):yE (d7 rs fill):=
 ⟨(lH rs fill).lns,100,jO (qm hr),fun p ho hp=>by rw[B8 hr ho,SM hr hp]⟩
def We{A:Rat}(hA:A≠0)(B:Rat): ∃N:Rat,0<=N/\ ∀n,N<=n->A+n*B≠0:=by
 by_cases hB:B=0
 .exact⟨0,oma,fun n _=>by rw[hB];grind⟩
 .have e:A/B*B=A:=by grind
  generalize A/B=q at*;refine⟨if 0<= -q then-q+1 else 0,by split<;>grind,fun n hn h=>?_⟩;have h2:B*(q+n)=0:=by grind
  rcases bX.1 h2 with k|k
  .exact hB k
  .split at hn<;>grind
def aFR{L:List ab}{p d:aa}(h:fy L p): ∃N:Rat,0<=N/\ ∀n,N<=n->fy L (av p d n):=by
 induction L with
 |nil=>exact⟨0,oma,fun n _ l hl=>by cases hl⟩
 |cons l L ih=>
  obtain⟨N,n0,hN⟩:=ih (h.sub fun m hm=>aX _ hm);obtain⟨M,m0,hM⟩:=We (h l aQ) (l.nor.dot d);refine⟨N+M,omb,fun n hn m hm=>?_⟩;rcases aW.1 hm with rfl|hm
  .rw[iw];exact hM n omb
  .exact hN n omb m hm
def EA{a:Rat}(ha:0<a)(x R:Rat): ∃N:Rat,0<=N/\ ∀n,N<=n->R<x+n*a:=by
 have e:(R-x)/a*a=R-x:=by grind
 generalize (R-x)/a=q at*;refine⟨if 0<=q then q+1 else 0,by split<;>grind,fun n hn=>?_⟩;have h2:=bg (show 0<n-q by split at hn<;>grind) ha;grind
def Xt{p d:aa}(hd:d≠⟨0,0⟩)(R:Rat): ∃N:Rat,0<=N/\ ∀n,N<=n->Az R (av p d n):=by
 obtain⟨x,y⟩:=d;rcases cP x with h|h|h
 .rcases cP y with k|k|k
  .exact absurd (by rw[h,k]) hd
  .obtain⟨N,n0,hN⟩:=EA k p.y R
   exact⟨N,n0,fun n hn=> .inr (.inr (.inr (hN n hn)))⟩
  .obtain⟨N,n0,hN⟩:=EA (a:= -y) omb (-p.y) R
   exact⟨N,n0,fun n hn=> .inr (.inr (.inl (by have:=hN n hn;show p.y+n*y< -R;grind)))⟩
 .obtain⟨N,n0,hN⟩:=EA h p.x R
  exact⟨N,n0,fun n hn=> .inr (.inl (hN n hn))⟩
 .obtain⟨N,n0,hN⟩:=EA (a:= -x) omb (-p.x) R
  exact⟨N,n0,fun n hn=> .inl (by have:=hN n hn;show p.x+n*x< -R;grind)⟩
def N2{c:au}(hc:bw c)(h:dB c=false): ∃d:aa,d≠⟨0,0⟩/\ ∀u∈c,0<=u.l.nor.dot d:=by
 unfold dB at h
 cases c with
 |nil=>exact⟨⟨1,0⟩,omc,fun u hu=>by cases hu⟩
 |cons s0 c0=>
  have h':((s0::c0).all fun s=>!s.v.nl&&!s.v.nh)=false:=by simpa using h
  rw[List.all_eq_false] at h';obtain⟨s,hs,hv⟩:=h';have hne:s.l.dir≠⟨0,0⟩:=fun e=>vm (hc.ok s hs) ozc
  cases nh:s.v.nh with
  |true=>exact⟨s.l.dir,hne,aEY hc hs nh⟩
  |false=>
   have nl:s.v.nl=true:=by simpa[nh] using hv
   refine⟨bP s.l.dir,fun e=>hne ?_,fun u hu=>?_⟩
   .unfold bP at e
    generalize s.l.dir=d at*;obtain⟨x,y⟩:=d;simp only[aa.mk.injEq] at*;constructor<;>grind
   .have:=ZJ hc hs nl u hu
    unfold bP aa.dot at*;grind
def xt{t:Tr}(ht:t.all ab.ok)(hb:yE t):(bF t).all dB=true:=by
 rw[cN];intro c hc;obtain⟨hg,hv⟩:=uC ht bw.nil (n8.1 hc)
 cases hq:dB c with
 |true=>rfl
 |false=>
  exfalso;obtain⟨L,R,h1,h2⟩:=hb;obtain⟨d,d0,hd⟩:=N2 hg hq;obtain⟨p,hp,ho⟩:=AM hg L h1;obtain⟨N,n0,hN⟩:=aFR (d:=d) ho;obtain⟨M,m0,hM⟩:=Xt (p:=p) d0 R;have hin:bm c (av p d (N+M)):=fun s hs=>by
   rw[iw];have a:=hp s hs;have b:=bz (show 0<=N+M by grind) (hd s hs);grind
  have:=(hv _ hin).2;rw[h2 _ (hN _ omb) (hM _ omb)] at this
  cases this
def U6{rs:List (List ZP)}{fill:Int}(h: ∀r∈rs,bD r)(hn:rs.length<=2):oC 12 (d7 rs fill):=by
 obtain⟨h1,h2⟩:=pi h;exact((GT h2 J).restrict []).mono we
def JK{α:Type}{f:α->Rat}: ∀{l:List α},(∀x∈l,0<=f x)->aB f l=0-> ∀x∈l,f x=0
 |[],_,_,x,hx=>by cases hx
 |a::t,h,e,x,hx=>by
  have h1:=h a aQ;have h2:=Ct (f:=f) (l:=t) fun x hx=>h x (aX a hx);have e':f a+aB f t=0:=e;rcases aW.1 hx with rfl|hx
  .grind
  .exact JK (fun x hx=>h x (aX a hx)) omb x hx
def yM{c:au}(hc:bw c)(hb:dB c=true){s:aI}(hs:s∈c):s.v.lo<s.v.hi:=by
 have h:=(hc.edge s hs).1;obtain⟨a,b⟩:=(kv hb).2 s hs;unfold ai.Pos at h;rw[a,b] at h;rcases h with h|h|h
 .cases h
 .cases h
 .exact h
def KR(s:aI):s.l.at s.v.hi=av (s.l.at s.v.lo) s.l.dir (s.v.hi-s.v.lo):=by rw[<-wg];congr 1;grind
def Pm{c:au}(hc:bw c)(ha:dE c)(hb:dB c=true){d:aa}(hd: ∀u∈c,0<=u.l.nor.dot d):d=⟨0,0⟩:=by
 have e:=Iq hc ha hb fun q=>q.x*d.y-q.y*d.x;have e2:aB (fun s:aI=>((s.l.at s.v.hi).x*d.y-(s.l.at s.v.hi).y*d.x)-((s.l.at s.v.lo).x*d.y-(s.l.at s.v.lo).y*d.x)) c=aB (fun s:aI=>(s.v.hi-s.v.lo)*s.l.nor.dot d) c:=oq fun s hs=>by
  rw[KR s];generalize s.l.at s.v.lo=q;unfold av ab.dir ab.nor aa.dot;grind
 rw[e2] at e;have z: ∀s∈c,s.l.nor.dot d=0:=fun s hs=>by
  have h1:=JK (fun s hs=>bz (by have:=yM hc hb hs;grind) (hd s hs)) e s hs;have h2:=yM hc hb hs;rcases bX.1 h1 with k|k
  .grind
  .exact k
 obtain⟨s,hs⟩: ∃s,s∈c:=by
  have hne:=(kv hb).1
  cases c with
  |nil=>exact absurd J hne
  |cons s t=>exact⟨s,aQ⟩
 obtain⟨u,hu,_,h2⟩:=Mi hc hs ((kv hb).2 s hs).2;have z1:=z s hs;have z2:=z u hu;obtain⟨x,y⟩:=d;unfold ab.nor ab.dir aa.dot at*;dsimp only at*;generalize (s.l.a:Rat)=a at*;generalize (s.l.b:Rat)=b at*;generalize (u.l.a:Rat)=a' at*;generalize (u.l.b:Rat)=b' at*;have k1:(a'*b-b'*a)*x=0:=by grind
 have k2:(a'*b-b'*a)*y=0:=by grind
 have k3:a'*b-b'*a≠0:=by grind
 have x0:x=0:=(bX.1 k1).resolve_left k3;have y0:y=0:=(bX.1 k2).resolve_left k3;rw[x0,y0]
def KX{c d:au}(hc:bw c)(ha:dE c)(hb:dB c=true)(hd:bw d)(h: ∀p,bm d p->bm c p):dB d=true:=by
 cases hq:dB d with
 |true=>rfl
 |false=>
  exfalso;obtain⟨u,u0,hu⟩:=N2 hd hq;obtain⟨q,hq⟩:=hd.ne;refine u0 (Pm hc ha hb fun s hs=>?_);by_cases k:0<=s.l.nor.dot u
  .exact k
  .exfalso
   have k':0< -(s.l.nor.dot u):=by grind
   have v0:=h q hq s hs;obtain⟨T,hT⟩: ∃T,T=s.l.value q/ -(s.l.nor.dot u):=⟨_,rfl⟩;have e:T* -(s.l.nor.dot u)=s.l.value q:=by rw[hT];generalize s.l.nor.dot u=z at*;grind
   have T0:0<T:=(gi k').1 (by rw[e];exact v0);have hin:bm d (av q u T):=fun w hw=>by
    rw[iw];have a:=hq w hw;have b:=bz (aN T0) (hu w hw);grind
   have:=h _ hin s hs;rw[iw] at this;grind
def ur(f:aa->aa->Rat):Prop:= ∀(l:ab) (a b c:Rat),l.Ne->f (l.at a) (l.at c)=f (l.at a) (l.at b)+f (l.at b) (l.at c)
def ur.self{f:aa->aa->Rat}(hf:ur f){l:ab}(hl:l.Ne)(a b:Rat):f (l.at a) (l.at b)+f (l.at b) (l.at a)=0:=by
 have h1:=hf l a a a hl;have h2:=hf l a b a hl;grind
def jp(f:aa->aa->Rat)(s:aI):Rat:=f (s.l.at s.v.lo) (s.l.at s.v.hi)
def Ek{l:ab}(hl:l.Ne)(t:Rat):l.rev.at t=l.at (-t):=by
 have hr:l.rev.Ne:=fun h=>hl ⟨by have:=h.1;unfold ab.rev at this;simp only at this;omega,by have:=h.2;unfold ab.rev at this;simp only at this;omega⟩;obtain⟨q,q1,q2⟩:=w7 hl;obtain⟨r,r1,r2⟩:=w7 hr;have hn:=q9 hl;have e:r= -q:=by
  have a:l.nor.dot l.nor*(r+q)=0:=by
   have:l.rev.nor.dot l.rev.nor=l.nor.dot l.nor:=by unfold ab.rev ab.nor aa.dot;simp only[iX];grind
   rw[this] at r1;unfold ab.rev at r1;simp only[iX] at r1;grind
  rcases bX.1 a with k|k
  .grind
  .grind
 unfold ab.at;rw[q2,r2,e];unfold ab.rev ab.dir aa.add aa.scale;simp only[iX,aa.mk.injEq];constructor<;>grind
def Gs(l m:ab):l.cutK m.rev= -l.cutK m/\l.cutC m.rev= -l.cutC m:=by
 unfold ab.cutK ab.cutC;rw[fg];refine⟨?_,J⟩;unfold ab.rev ab.nor aa.dot;simp only[iX];grind
def SQ{f:aa->aa->Rat}(hf:ur f){l m:ab}(hl:l.Ne){v:ai}(hv:v.Pos)(nl:v.nl=false)(nh:v.nh=false)(hk:0<l.cutK m):
  (if l.cutB v m then jp f ⟨l,l.cutV v m⟩ else 0)+(if l.cutB v m.rev then jp f ⟨l,l.cutV v m.rev⟩ else 0)=jp f ⟨l,v⟩:=by
 obtain⟨r1,r2⟩:=Gs l m;obtain⟨u1,u2⟩:=yQ v hk;obtain⟨d1,d2⟩:=yc (l:=l) (m:=m.rev) v (by rw[r1];grind);rw[r1,r2] at d1;have ex: -(-l.cutC m/ -l.cutK m)= -(l.cutC m/l.cutK m):=by generalize l.cutC m=C at*;generalize l.cutK m=K at*;grind
 rw[ex] at d1;generalize-(l.cutC m/l.cutK m)=x at*;have lt:v.lo<v.hi:=by unfold ai.Pos at hv;rw[nl,nh] at hv;simpa using hv
 have m1:l.cutV v m=⟨if v.lo<x then x else v.lo,v.hi,false,false⟩:=by rw[u1];unfold ai.meet;simp[nl,nh]
 have m2:l.cutV v m.rev=⟨v.lo,if x<v.hi then x else v.hi,false,false⟩:=by rw[d1];unfold ai.meet;simp[nl,nh]
 rw[m1] at u2;rw[m2] at d2;have p1:l.cutB v m=true↔(if v.lo<x then x else v.lo)<v.hi:=u2.trans (by unfold ai.Pos;simp);have p2:l.cutB v m.rev=true↔v.lo<(if x<v.hi then x else v.hi):=d2.trans (by unfold ai.Pos;simp);rw[m1,m2];have h1:=hf l v.lo x v.hi hl;unfold jp;dsimp only;by_cases k1:v.lo<x
 .by_cases k2:x<v.hi
  .rw[if_pos k1] at p1
   rw[if_pos k2] at p2;rw[if_pos (p1.2 k2),if_pos (p2.2 k1),if_pos k1,if_pos k2];grind
  .rw[if_pos k1] at p1
   rw[if_neg k2] at p2;rw[if_neg (fun h=>k2 (p1.1 h)),if_pos (p2.2 lt),if_neg k2];grind
 .rw[if_neg k1] at p1
  have k2:x<v.hi:=by grind
  rw[if_pos k2] at p2;rw[if_pos (p1.2 lt),if_neg (fun h=>k1 (p2.1 h)),if_neg k1];grind
def ZL{f:aa->aa->Rat}(hf:ur f){l m:ab}(hl:l.Ne){v:ai}(hv:v.Pos)(nl:v.nl=false)(nh:v.nh=false)(h0: ¬(l.cutK m=0/\l.cutC m=0)):
  (if l.cutB v m then jp f ⟨l,l.cutV v m⟩ else 0)+(if l.cutB v m.rev then jp f ⟨l,l.cutV v m.rev⟩ else 0)=jp f ⟨l,v⟩:=by
 rcases cP (l.cutK m) with k|k|k
 .obtain⟨r1,r2⟩:=Gs l m
  obtain⟨u1,u2⟩:=xb v k;obtain⟨d1,d2⟩:=xb (l:=l) (m:=m.rev) v (by rw[r1,k];rfl);rw[r2] at d2;rw[u1,d1];rcases cP (l.cutC m) with c|c|c
  .exact absurd ⟨k,c⟩ h0
  .rw[if_pos (u2.2 c),if_neg (fun h=>by have:=d2.1 h;grind)];grind
  .rw[if_neg (fun h=>by have:=u2.1 h;grind),if_pos (d2.2 omb)];grind
 .exact SQ hf hl hv nl nh k
 .have:=SQ (m:=m.rev) hf hl hv nl nh (by rw[(Gs l m).1];grind)
  rw[xe] at this;rw[<-this];grind
def LS{f:aa->aa->Rat}(hf:ur f){m:ab}: ∀{c:au},(∀s∈c,s.l.Ne/\s.v.Pos/\s.v.nl=false/\s.v.nh=false/\ ¬(s.l.cutK m=0/\s.l.cutC m=0))->aB (jp f) (eO m c)+aB (jp f) (eO m.rev c)=aB (jp f) c
 |[],_=>by show(0:Rat)+0=0;grind
 |s::t,h=>by
  have ih:=LS hf (m:=m) (c:=t) fun s hs=>h s (aX _ hs);obtain⟨h1,h2,h3,h4,h5⟩:=h s aQ;have hp:=ZL hf h1 h2 h3 h4 h5;have e: ∀n:ab,aB (jp f) (eO n (s::t))=(if s.l.cutB s.v n then jp f ⟨s.l,s.l.cutV s.v n⟩ else 0)+aB (jp f) (eO n t):=fun n=>by
   rw[eO];split
   .rfl
   .grind
  rw[e,e];show _=jp f s+aB (jp f) t;rw[<-ih,show jp f s=jp f ⟨s.l,s.v⟩ from J,<-hp];grind
def QE(F:aI->Rat)(c:au)(l:ab)(v:ai):aB F (k8 c l v)=F ⟨l,v⟩+aB F c:=by
 have e:=td F (c.take (ic (jw c l) 0 c.length)) (c.drop (ic (jw c l) 0 c.length));rw[jZ] at e;unfold k8;rw[td,aB,e];grind
def WK{v w:ai}(hv:v.Pos)(hw:w.Pos)(v1:v.nl=false)(v2:v.nh=false)(w1:w.nl=false)(w2:w.nh=false)(h: ∀t,w.has t↔v.has (-t)):w.lo= -v.hi/\w.hi= -v.lo:=by
 unfold ai.Pos at hv hw;unfold ai.has at h;simp only[v1,v2,w1,w2,fT,false_or] at*;have a:=h w.lo;have b:=h w.hi;have c:=h (-v.lo);have d:=h (-v.hi);grind
def fA(f:aa->aa->Rat)(c:au):Rat:=uz f (ge (c.map (·.l)))
def f8(f:aa->aa->Rat)(t:Tr)(c:au):Rat:=aB (fun x:Bool×au=>if x.1 then fA f x.2 else 0) (t.parts c)
def NP{c d:au}(hc:bw c)(ka:dE c)(hd:bw d)(kd:dE d)(h: ∀p,bm c p↔bm d p):c.map (·.l)=d.map (·.l):=by
 have e: ∀p,bm d p↔du (d.map (·.l)) p:=fun p=>⟨fun h m hm=>by obtain⟨s,hs,rfl⟩:=aS.1 hm;exact h s hs,fun h s hs=>h _ (eX hs)⟩;have ok: ∀l∈d.map (·.l),l.ok:=fun l hl=>by obtain⟨s,hs,rfl⟩:=aS.1 hl;exact hd.ok s hs
 rw[<-KS ok hd kd e,<-KS ok hc ka fun p=>(h p).trans (e p)]
def MR{c:au}{l:ab}(hl:l.ok){q r:aa}(hq:bm c q)(hr:bm c r)(q0:0<l.value q)(r0:l.value r<0): ∃v,kC c l=some v:=by
 cases hp:kC c l with
 |some v=>exact⟨v,J⟩
 |none=>
  exfalso;have e:l.value q/(l.value q-l.value r)*(l.value q-l.value r)=l.value q:=by generalize l.value q=a at*;generalize l.value r=b at*;grind
  obtain⟨T,hT⟩: ∃T,T=l.value q/(l.value q-l.value r):=⟨_,rfl⟩;rw[<-hT] at e;have T0:0<T:=(gi (k:=l.value q-l.value r) omb).1 (by rw[e];exact q0);have T1:0<1-T:=(gi (k:=l.value q-l.value r) omb).1 omb;refine Sh hl.ne hp (hq.seg hr (e:=T) omb omb) ?_;rw[mz];grind
def VA{f:aa->aa->Rat}(hf:ur f){c:au}(hc:bw c)(ha:dE c)(hb:dB c=true){l:ab}(hl:l.ok){v:ai}(hp:kC c l=some v):fA f c=fA f (b9 c l)+fA f (b9 c l.rev):=by
 have hr:=hl.rev;obtain⟨⟨q,hq,q0⟩,r,hr',r0⟩:=Fm hl.ne hp;obtain⟨w,hw⟩:=MR (l:=l.rev) hr hr' hq (by rw[fg];grind) (by rw[fg];grind);have b1:bG c l=true:=(fE hc hl).2 ⟨q,hq,q0⟩;have b2:bG c l.rev=true:=(fE hc hr).2 ⟨r,hr',by rw[fg];grind⟩;obtain⟨g1,i1⟩:=gg hc hl b1;obtain⟨g2,i2⟩:=gg hc hr b2;have n1:=KX hc ha hb g1 fun p h=>((i1 p).1 h).1;have n2:=KX hc ha hb g2 fun p h=>((i2 p).1 h).1;have a1:=lj hc hl ha b1;have a2:=lj hc hr ha b2;unfold fA;rw[xv hc ha hb,xv g1 a1 n1,xv g2 a2 n2];have e1:b9 c l=k8 (eO l c) l v:=by unfold b9;rw[hp]
 have e2:b9 c l.rev=k8 (eO l.rev c) l.rev w:=by unfold b9;rw[hw]
 obtain⟨v1,v2,_⟩:=Au l c _ v uB hp;obtain⟨w1,w2,_⟩:=Au l.rev c _ w uB hw;have x1:=(kv n1).2 ⟨l,v⟩ (by rw[e1];exact pk.2 (.inl J));have x2:=(kv n2).2 ⟨l.rev,w⟩ (by rw[e2];exact pk.2 (.inl J));obtain⟨y1,y2⟩:=WK v1 w1 x1.1 x1.2 x2.1 x2.2 fun t=>by
  rw[v2,w2,Ek hl.ne];exact⟨fun h=>⟨At _,h.2⟩,fun h=>⟨At _,h.2⟩⟩
 have cs:=LS hf (m:=l) (c:=c) fun s hs=>⟨(hc.ok s hs).ne,(hc.edge s hs).1,((kv hb).2 s hs).1,((kv hb).2 s hs).2,fun h0=>by
  have hz: ∀t,l.value (s.l.at t)=0:=fun t=>by rw[jx,h0.1,h0.2];grind
  have p1:=hq s hs;have p2:=hr' s hs;rcases vN hl (hc.ok s hs) hz with k|k
  .rw[k] at r0;grind
  .rw[k,fg] at q0;grind⟩
 show aB (jp f) c=aB (jp f) (b9 c l)+aB (jp f) (b9 c l.rev);rw[e1,e2,QE,QE,<-cs];have e3:jp f ⟨l.rev,w⟩=f (l.at v.hi) (l.at v.lo):=by
  unfold jp;dsimp only;rw[Ek hl.ne,Ek hl.ne,y1,y2];congr 2<;>grind
 have e4:=hf.self hl.ne v.lo v.hi;rw[e3];unfold jp at*;dsimp only at*;grind
def gj(f:aa->aa->Rat)(t:Tr)(c:au)(l:ab):Rat:=if bG c l then f8 f t (b9 c l) else 0
def wv(f:aa->aa->Rat)(b:Bool)(c:au):f8 f (.leaf b) c=if b then fA f c else 0:=by
 show(if b then fA f c else 0)+0=_;grind
def yB(f:aa->aa->Rat)(k:ab)(x y:Tr)(c:au):f8 f (.node k x y) c=gj f x c k+gj f y c k.rev:=by
 unfold f8 gj;rw[Tr.parts,td];congr 1
 .split<;>rfl
 .split<;>rfl
def Nr{a b:Bool}(h:a=true↔b=true):a=b:=by cases a<;>cases b<;>simp_all
def C9(f:aa->aa->Rat): ∀{t:Tr} {c d:au},t.all ab.ok->bw c->dE c->bw d->dE d->(∀p,bm c p↔bm d p)->f8 f t c=f8 f t d
 | .leaf b,c,d,_,hc,ka,hd,kd,h=>by
  rw[wv,wv];unfold fA;rw[NP hc ka hd kd h]
 | .node k x y,c,d,⟨hk,hx,hy⟩,hc,ka,hd,kd,h=>by
  have key: ∀{t:Tr} {l:ab},l.ok->(∀{c d:au},bw c->dE c->bw d->dE d->(∀p,bm c p↔bm d p)->f8 f t c=f8 f t d)->gj f t c l=gj f t d l:=fun{t l} hl ih=>by
   have e:bG c l=bG d l:=Nr (by
    rw[fE hc hl,fE hd hl];constructor
    .rintro ⟨p,h1,h2⟩;exact⟨p,(h p).1 h1,h2⟩
    .rintro ⟨p,h1,h2⟩;exact⟨p,(h p).2 h1,h2⟩)
   unfold gj;rw[e];split
   .rename_i hb
    have hb':=hb;rw[<-e] at hb';obtain⟨g1,i1⟩:=gg hc hl hb';obtain⟨g2,i2⟩:=gg hd hl hb;exact ih g1 (lj hc hl ka hb') g2 (lj hd hl kd hb) fun p=>by rw[i1,i2,h]
   .rfl
  rw[yB,yB,key hk (C9 f hx),key hk.rev (C9 f hy)]
def SK(f:aa->aa->Rat){t:Tr}(ht:t.all ab.ok){c:au}(hc:bw c)(ha:dE c){k l:ab}(hk:k.ok)(hl:l.ok):(if bG c k then gj f t (b9 c k) l else 0)=if bG c l then gj f t (b9 c l) k else 0:=by
 have ex: ∀{k l:ab},k.ok->l.ok->((bG c k=true/\bG (b9 c k) l=true)↔ ∃p,bm c p/\0<k.value p/\0<l.value p):=fun{k l} hk hl=>by
  constructor
  .rintro ⟨h1,h2⟩
   obtain⟨g,i⟩:=gg hc hk h1;obtain⟨p,h3,h4⟩:=(fE g hl).1 h2;exact⟨p,((i p).1 h3).1,((i p).1 h3).2,h4⟩
  .rintro ⟨p,h1,h2,h3⟩
   have hb:=(fE hc hk).2 ⟨p,h1,h2⟩;obtain⟨g,i⟩:=gg hc hk hb;exact⟨hb,(fE g hl).2 ⟨p,(i p).2 ⟨h1,h2⟩,h3⟩⟩
 have e: ∀{k l:ab},(if bG c k then gj f t (b9 c k) l else 0)=if bG c k=true/\bG (b9 c k) l=true then f8 f t (b9 (b9 c k) l) else 0:=fun{k l}=>by
  unfold gj;by_cases h1:bG c k=true
  .by_cases h2:bG (b9 c k) l=true
   .rw[if_pos h1,if_pos h2,if_pos ⟨h1,h2⟩]
   .rw[if_pos h1,if_neg h2,if_neg (fun h=>h2 h.2)]
  .rw[if_neg h1,if_neg (fun h=>h1 h.1)]
 rw[e,e];by_cases hx: ∃p,bm c p/\0<k.value p/\0<l.value p
 .have h1:=(ex hk hl).2 hx
  have h2:=(ex hl hk).2 (by obtain⟨p,a,b,c⟩:=hx;exact⟨p,a,c,b⟩);rw[if_pos h1,if_pos h2];obtain⟨g1,i1⟩:=gg hc hk h1.1;obtain⟨g2,i2⟩:=gg g1 hl h1.2;obtain⟨g3,i3⟩:=gg hc hl h2.1;obtain⟨g4,i4⟩:=gg g3 hk h2.2;refine C9 f ht g2 (lj g1 hl (lj hc hk ha h1.1) h1.2) g4 (lj g3 hk (lj hc hl ha h2.1) h2.2) fun p=>?_;rw[i2,i1,i4,i3,and_assoc,and_assoc,and_comm (a:=0<k.value p)]
 .rw[if_neg (fun h=>hx ((ex hk hl).1 h)),if_neg (fun h=>hx (by obtain⟨p,a,b,c⟩:=(ex hl hk).1 h;exact⟨p,a,c,b⟩))]
def l8(t:Tr)(c:au):Prop:= ∀x∈t.parts c,x.1=true->dB x.2=true
def l8.x{k:ab}{x y:Tr}{c:au}(h:l8 (.node k x y) c)(hb:bG c k=true):l8 x (b9 c k):=fun z hz hi=>h z (by rw[Tr.parts,if_pos hb];exact bK _ hz) hi
def l8.y{k:ab}{x y:Tr}{c:au}(h:l8 (.node k x y) c)(hb:bG c k.rev=true):l8 y (b9 c k.rev):=fun z hz hi=>h z (by rw[Tr.parts,if_pos hb];exact bW _ hz) hi
def H3: ∀{t:Tr} {c d:au},t.all ab.ok->bw c->dE c->bw d->dE d->(∀p,bm d p->bm c p)->l8 t c->l8 t d
 | .leaf b,c,d,_,hc,ka,hd,kd,h,hb=>fun x hx hi=>by
  obtain rfl:=aV.1 hx;exact KX hc ka (hb (b,c) aQ hi) hd h
 | .node k x y,c,d,⟨hk,hx,hy⟩,hc,ka,hd,kd,h,hb=>by
  have key: ∀{t:Tr} {l:ab},l.ok->(bG c l=true->l8 t (b9 c l))->(∀{c d:au},bw c->dE c->bw d->dE d->(∀p,bm d p->bm c p)->l8 t c->l8 t d)->bG d l=true->l8 t (b9 d l):=fun{t l} hl hB ih b=>by
   obtain⟨g1,i1⟩:=gg hd hl b;obtain⟨p,h1,h2⟩:=(fE hd hl).1 b;have b':=(fE hc hl).2 ⟨p,h p h1,h2⟩;obtain⟨g2,i2⟩:=gg hc hl b';exact ih g2 (lj hc hl ka b') g1 (lj hd hl kd b) (fun q hq=>(i2 q).2 ⟨h q ((i1 q).1 hq).1,((i1 q).1 hq).2⟩) (hB b')
  intro z hz hi;rw[Tr.parts] at hz;rcases bJ.1 hz with hz|hz
  .split at hz
   .rename_i b;exact key hk hb.x (H3 hx) b z hz hi
   .cases hz
  .split at hz
   .rename_i b;exact key hk.rev hb.y (H3 hy) b z hz hi
   .cases hz
def Iy{f:aa->aa->Rat}(hf:ur f): ∀{t:Tr} {c:au},t.all ab.ok->bw c->dE c->l8 t c-> ∀{l:ab},l.ok->f8 f t c=gj f t c l+gj f t c l.rev
 | .leaf b,c,ht,hc,ha,hB,l,hl=>by
  have hr:=hl.rev;unfold gj;rw[wv,wv,wv]
  cases b with
  |false=>simp;grind
  |true=>
   have hb:dB c=true:=hB (true,c) aQ J;have one: ∀{m:ab},m.ok->bG c m=true->bG c m.rev=false->fA f c=fA f (b9 c m):=fun{m} hm h1 h2=>by
    obtain⟨g,i⟩:=gg hc hm h1;unfold fA;rw[NP hc ha g (lj hc hm ha h1) fun p=>?_];rw[i];refine⟨fun h=>⟨h,?_⟩,fun h=>h.1⟩;rcases cP (m.value p) with k|k|k
    .obtain⟨_,q,k1,k2⟩:=Bd hm h k
     have:=(fE hc hm.rev).2 ⟨q,k1,by rw[fg];grind⟩;rw[h2] at this;cases this
    .exact k
    .have:=(fE hc hm.rev).2 ⟨p,h,by rw[fg];grind⟩
     rw[h2] at this;cases this
   cases h1:bG c l with
   |true=>cases h2:bG c l.rev with
    |true=>
     obtain⟨q,hq,q0⟩:=(fE hc hl).1 h1;obtain⟨r,hr',r0⟩:=(fE hc hr).1 h2;rw[fg] at r0;obtain⟨v,hp⟩:=MR hl hq hr' q0 omb;simpa using VA hf hc ha hb hl hp
    |false=>have:=one hl h1 h2;simp;grind
   |false=>cases h2:bG c l.rev with
    |true=>have:=one hr h2 (by rw[xe];exact h1);simp;grind
    |false=>
     exfalso;obtain⟨p,hp⟩:=hc.ne;rcases cP (l.value p) with k|k|k
     .obtain⟨⟨q,k1,k2⟩,_⟩:=Bd hl hp k
      have:=(fE hc hl).2 ⟨q,k1,k2⟩;rw[h1] at this;cases this
     .have:=(fE hc hl).2 ⟨p,hp,k⟩
      rw[h1] at this;cases this
     .have:=(fE hc hr).2 ⟨p,hp,by rw[fg];grind⟩
      rw[h2] at this;cases this
 | .node k x y,c,⟨hk,hx,hy⟩,hc,ha,hB,l,hl=>by
  have hr:=hl.rev;have step: ∀{t:Tr} {m:ab},t.all ab.ok->m.ok->(bG c m=true->l8 t (b9 c m))->(∀{c:au},bw c->dE c->l8 t c->f8 f t c=gj f t c l+gj f t c l.rev)->gj f t c m=(if bG c l then gj f t (b9 c l) m else 0)+(if bG c l.rev then gj f t (b9 c l.rev) m else 0):=fun{t m} ht hm hB ih=>by
   rw[<-SK f ht hc ha hm hl,<-SK f ht hc ha hm hr]
   conv=>lhs;unfold gj
   split
   .rename_i b
    exact ih (gg hc hm b).1 (lj hc hm ha b) (hB b)
   .grind
  rw[yB,step hx hk hB.x fun g a b=>Iy hf hx g a b hl,step hy hk.rev hB.y fun g a b=>Iy hf hy g a b hl];have e: ∀n:ab,gj f (.node k x y) c n=(if bG c n then gj f x (b9 c n) k else 0)+(if bG c n then gj f y (b9 c n) k.rev else 0):=fun n=>by
   conv=>lhs;unfold gj
   split
   .exact yB f k x y _
   .grind
  rw[e,e];grind
def KG(f:aa->aa->Rat): ∀{t:Tr} {c:au} {p:aa},t.all ab.ok->bw c->dE c->(∀l∈t.lns,¬(bG c l=true/\bG c l.rev=true))->bm c p->fy t.lns p->f8 f t c=if t.val p then fA f c else 0
 | .leaf b,c,p,_,_,_,_,_,_=>by rw[wv];rfl
 | .node k x y,c,p,⟨hk,hx,hy⟩,hc,ha,hn,hp,ho=>by
  have h0:=hn k aQ;have nx: ∀l∈x.lns,¬(bG c l=true/\bG c l.rev=true):=fun l hl=>hn l (aX _ (bK _ hl));have ny: ∀l∈y.lns,¬(bG c l=true/\bG c l.rev=true):=fun l hl=>hn l (aX _ (bW _ hl));have one: ∀{t:Tr} {m:ab},t.all ab.ok->m.ok->0<m.value p-> ¬bG c m.rev=true->gj f t c m=f8 f t c:=fun{t m} ht hm h1 h2=>by
   have b:=(fE hc hm).2 ⟨p,hp,h1⟩;obtain⟨g,i⟩:=gg hc hm b;unfold gj;rw[if_pos b];refine C9 f ht g (lj hc hm ha b) hc ha fun q=>?_;rw[i];refine⟨fun h=>h.1,fun h=>⟨h,?_⟩⟩;rcases cP (m.value q) with k|k|k
   .obtain⟨_,q,k1,k2⟩:=Bd hm h k
    exact absurd ((fE hc hm.rev).2 ⟨q,k1,by rw[fg];grind⟩) h2
   .exact k
   .exact absurd ((fE hc hm.rev).2 ⟨q,h,by rw[fg];grind⟩) h2
  rw[yB];have hl:=ho.l;by_cases k0:0<k.value p
  .have b:=(fE hc hk).2 ⟨p,hp,k0⟩
   have b': ¬bG c k.rev=true:=fun h=>h0 ⟨b,h⟩;rw[one hx hk k0 b',Tr.val_pos k0,show gj f y c k.rev=0 from by unfold gj;rw[if_neg b'],KG f hx hc ha nx hp ho.x];grind
  .have k1:0<k.rev.value p:=by rw[fg];grind
   have b:=(fE hc hk.rev).2 ⟨p,hp,k1⟩;have b': ¬bG c k=true:=fun h=>h0 ⟨h,b⟩;rw[one hy hk.rev k1 (by rw[xe];exact b'),Tr.val_neg k0,show gj f x c k=0 from by unfold gj;rw[if_neg b'],KG f hy hc ha ny hp ho.y];grind
def Uj{f:aa->aa->Rat}(hf:ur f){ws:List (Rat×Tr)}(ok: ∀w∈ws,w.2.all ab.ok): ∀{L:List ab} {c:au},(∀l∈L,l.ok)->bw c->dE c->(∀w∈ws,l8 w.2 c)->(∀w∈ws,∀l∈w.2.lns,l∈L\/ ¬(bG c l=true/\bG c l.rev=true))->(∀p,bm c p->(∀w∈ws,fy w.2.lns p)->aB (fun w=>w.1*(if w.2.val p then 1 else 0)) ws=0)->aB (fun w=>w.1*f8 f w.2 c) ws=0
 |[],c,_,hc,ha,hB,hn,hv=>by
  have okl: ∀l∈ws.flatMap (fun w=>w.2.lns),l.ok:=fun l hl=>by obtain⟨w,hw,h⟩:=dK.1 hl;exact jO (ok w hw) l h
  obtain⟨p,hp,ho⟩:=AM hc (ws.flatMap fun w=>w.2.lns) okl;have ho': ∀w∈ws,fy w.2.lns p:=fun w hw=>ho.sub fun l hl=>dK.2 ⟨w,hw,hl⟩;have e:aB (fun w:Rat×Tr=>w.1*f8 f w.2 c) ws=aB (fun w=>fA f c*(w.1*(if w.2.val p then 1 else 0))) ws:=oq fun w hw=>by
   rw[KG f (ok w hw) hc ha (fun l hl=>(hn w hw l hl).resolve_left omc) hp (ho' w hw)];split<;>grind
  rw[e,xu,hv p hp ho'];grind
 |l::L,c,hL,hc,ha,hB,hn,hv=>by
  have hl:=hL l aQ;have half: ∀{m:ab},(m=l\/m=l.rev)->m.ok->aB (fun w:Rat×Tr=>w.1*gj f w.2 c m) ws=0:=fun{m} hml hm=>by
   unfold gj;by_cases b:bG c m=true
   .obtain⟨g,i⟩:=gg hc hm b
    simp only[b,if_true];refine Uj hf ok (L:=L) (fun x hx=>hL x (aX _ hx)) g (lj hc hm ha b) (fun w hw=>H3 (ok w hw) hc ha g (lj hc hm ha b) (fun p h=>((i p).1 h).1) (hB w hw)) (fun w hw x hx=>?_) fun p hp=>hv p ((i p).1 hp).1;have xok:=jO (ok w hw) x hx;have no:x=l-> ¬(bG (b9 c m) x=true/\bG (b9 c m) x.rev=true):=fun e h=>by
     obtain⟨p,p1,p2⟩:=(fE g xok).1 h.1;obtain⟨q,q1,q2⟩:=(fE g xok.rev).1 h.2;have p3:=((i p).1 p1).2;have q3:=((i q).1 q1).2;rw[fg] at q2;subst e;rcases hml with e|e
     .rw[e] at q3;grind
     .rw[e,fg] at p3;grind
    rcases hn w hw x hx with h|h
    .rcases aW.1 h with h|h
     .exact .inr (no h)
     .exact .inl h
    .refine .inr fun h'=>h ⟨?_,?_⟩
     .obtain⟨p,p1,p2⟩:=(fE g xok).1 h'.1
      exact(fE hc xok).2 ⟨p,((i p).1 p1).1,p2⟩
     .obtain⟨p,p1,p2⟩:=(fE g xok.rev).1 h'.2
      exact(fE hc xok.rev).2 ⟨p,((i p).1 p1).1,p2⟩
   .have: ∀ws:List (Rat×Tr),aB (fun w:Rat×Tr=>w.1*(if bG c m=true then f8 f w.2 (b9 c m) else 0)) ws=0:=fun ws=>by
     induction ws with
     |nil=>rfl
     |cons w t ih=>rw[aB,ih,if_neg b];grind
    exact this ws
  have e:aB (fun w:Rat×Tr=>w.1*f8 f w.2 c) ws=aB (fun w=>w.1*gj f w.2 c l+w.1*gj f w.2 c l.rev) ws:=oq fun w hw=>by
   rw[Iy hf (ok w hw) hc ha (hB w hw) hl];grind
  rw[e,xd,half (.inl J) hl,half (.inr J) hl.rev];grind
def Y0{t:Tr}:(bF t).all dB=true↔l8 t []:=by
 rw[cN];constructor
 .intro h x hx hi
  obtain⟨b,c⟩:=x;obtain rfl:b=true:=hi;exact h c (n8.2 hx)
 .intro h c hc
  exact h (true,c) (n8.1 hc) J
def KE(f:aa->aa->Rat)(t:Tr):f8 f t []=aB (fA f) (bF t):=by
 unfold f8 bF;generalize t.parts []=l
 induction l with
 |nil=>rfl
 |cons x l ih=>
  obtain⟨b,c⟩:=x;rw[aB,ih]
  cases b with
  |true=>rw[List.filter_cons_of_pos J,cJ,aB,if_pos J]
  |false=>rw[List.filter_cons_of_neg omc];simp;grind
def Za:ur aa.cross:=fun l a b c hl=>by rw[Ea hl,Ea hl,Ea hl];grind
section
variable {F:Fence} {n:Nat} {P:Program} {Q:Exit->Act->World->Prop} {ops:Array Oper} {md:Region.Mode}
def Mm: ∀{k:Nat} {listed:Array Bool} {a:Act} {w:World},wpAnyIn F n P md ops Q k listed a w->wpAnyIn F n P md ops Q (k+1) listed a w
 |0,_,_,_,h=>⟨fun _=>h.2,fun i hi=>by rw[h.1] at hi;cases hi⟩
 |_+1,_,_,_,h=>⟨h.1,fun i hi=>wpOpIn_mono (fun _ _ k=>Mm k) (h.2 i hi)⟩
def Ts{k:Nat}{listed:Array Bool}{a:Act}{w:World}(h:wpAnyIn F n P md ops Q k listed a w): ∀j,wpAnyIn F n P md ops Q (j+k) listed a w
 |0=>by rw[fX];exact h
 |j+1=>by rw[show j+1+k=j+k+1 by omega];exact Mm (Ts h j)
def Bf.lt{l:List Oper}(he:o8 0 l=true){i j:Nat}(h:Bf l i j):j<i:=by
 induction h with
 |b ho hm hb=>have:=tL he _ _ ho _ hm hb;omega
 |s ho hm hb _ ih=>have:=tL he _ _ ho _ hm hb;omega
def Bf.inv{l:List Oper}{i j:Nat}(h:Bf l i j): ∃o e,l[i]? =some o/\e∈o.after/\Region.binds .any e=true/\(e.on=j\/Bf l e.on j):=by
 induction h with
 |b ho hm hb=>exact⟨_,_,ho,hm,hb, .inl J⟩
 |s ho hm hb hh _=>exact⟨_,_,ho,hm,hb, .inr hh⟩
def S9(he:o8 0 ops.toList=true): ∀(r pre:List Oper),ops.toList=pre++r->(∀i,pre.length<=i->i<ops.size-> ∀j,j<i->Bf ops.toList i j)-> ∀(listed:Array Bool) (a:Act) (w:World),(∀j d,listed.getD j d=if j<pre.length then true else if j<ops.size then false else d)->wpListIn F n P ops Q r a w->wpAnyIn F n P .any ops Q r.length listed a w
 |[],pre,hops,_,listed,a,w,hl,h=>by
  refine⟨?_,h⟩;rw[List.eq_nil_iff_forall_not_mem];intro i hi;obtain⟨h1,o,h2,_⟩:=mem_ready.1 hi;have h3:=(fS.1 h2).1;have h4:pre.length=ops.size:=by rw[<-iL,hops];simp
  rw[hl,if_pos we] at h1
  cases h1
 |o::r,pre,hops,hc,listed,a,w,hl,h=>by
  have hsz:ops.size=pre.length+(r.length+1):=by rw[<-iL,hops];simp
  have hp:ops.toList[pre.length]? =some o:=by rw[hops];simp
  have hp':ops[pre.length]? =some o:=by simpa using hp
  have only: ∀i,i∈Region.ready .any ops listed↔i=pre.length:=fun i=>by
   rw[mem_ready];constructor
   .rintro ⟨h1,o',h2,h3⟩
    have h4:=(fS.1 h2).1;rw[hl] at h1;split at h1
    .cases h1
    .rename_i h5
     apply Classical.byContradiction;intro h6;have hb:=hc i we h4 pre.length we;obtain⟨o2,e,ho,hm,hb,hh⟩:=hb.inv;have e':o'=o2:=Option.some.inj (h2.symm.trans okv);subst e';have h7:=h3 _ hm hb;have h9:=tL he _ _ ho _ hm hb;have h8:pre.length<=e.on:=by
      rcases hh with hh|hh
      .omega
      .have:=hh.lt he;omega
     rw[hl,if_neg we,if_pos we] at h7
     cases h7
   .rintro rfl
    refine⟨by rw[hl,if_neg we,if_pos we],o,hp',fun e hm hb=>?_⟩;have:=tL he _ _ hp _ hm hb;rw[hl,if_pos we]
  refine⟨fun hn=>?_,fun i hi=>?_⟩
  .have:=(only pre.length).2 J
   rw[hn] at this;cases this
  .obtain rfl:=(only i).1 hi
   have ih:=S9 he r (pre++[o]) (by rw[hops];simp) (fun i h1 h2=>hc i (by simp at h1;omega) h2) (listed.setIfInBounds pre.length true);have hl': ∀j d,(listed.setIfInBounds pre.length true).getD j d=if j<(pre++[o]).length then true else if j<ops.size then false else d:=fun j d=>by
    have hls:pre.length<listed.size:=by
     apply Classical.byContradiction;intro hq;have h1:=hl pre.length true;rw[if_neg we,if_pos we,cX,mM we] at h1
     cases h1
    have h1:=hl j d;rw[cX] at h1⊢;rw[fQ];by_cases hj:pre.length=j
    .subst hj;rw[if_pos J,if_pos hls,if_pos omc];rfl
    .rw[if_neg hj,h1]
     simp only[aR,bZ,gQ];by_cases h2:j<pre.length
     .rw[if_pos h2,if_pos we]
     .rw[if_neg h2]
      by_cases h3:j<ops.size
      .rw[if_pos h3,if_neg we];
      .rw[if_neg h3,if_neg we]
   unfold wpOpIn;rw[hp'];simp only[wpListIn] at h⊢;split
   .rename_i hw;rw[if_pos hw] at h
    exact Oper.wpIn_mono (fun a w k=>ih a w hl' k) h
   .rename_i hw;rw[if_neg hw] at h
    exact⟨h.1,ih _ _ hl' h.2⟩
def E'(F:Fence)(n:Nat)(P:Program)(ops:Array Oper)(r:List Oper)(Q:Exit->Act->World->Prop):Exit->Act->World->Prop
 | .normal=>wpListIn F n P ops Q r
 |e=>Q e
def WR{o:Oper}{a:Act}{w:World}{r:List Oper}{K:Act->World->Prop}(h:o.wpIn F n P a w K (E' F n P ops r Q)):o.wpIn F n P a w K Q:=by
 refine⟨h.1,?_⟩;have:=h.2
 cases hr:(o.semAt F.round a.eval).run P w with
 |ok x w'=>
  rw[hr] at this
  cases x with
  |enter f args=>exact⟨this.1,CallsIn.mono this.2 fun e w'' he=>by cases e<;>exact he⟩
  |round l f t x y=>exact⟨this.1,RoundIn.mono this.2 fun e w'' he=>by cases e<;>exact he⟩
  |_=>exact this
 |halt x w'=>
  rw[hr] at this
  cases x<;>exact this
def Zi{pre r:List Oper}(hops:ops.toList=pre++r)(hg: ∀o∈pre,o.guard=none)(he:o8 0 ops.toList=true)(hc: ∀i,pre.length<=i->i<ops.size-> ∀j,j<i->Bf ops.toList i j):
  ∀(fuel:Nat) (L listed:Array Bool) (a:Act) (w:World),L.size=pre.length->(∀j d,listed.getD j d=if j<pre.length then L.getD j d else if j<ops.size then false else d)->(∀i o,ops.toList[i]? =some o->listed.getD i false=true-> ∀e∈o.after,Region.binds .any e=true->listed.getD e.on false=true)->
   wpAnyIn F n P .any pre.toArray (E' F n P ops r Q) fuel L a w->wpAnyIn F n P .any ops Q (fuel+r.length) listed a w:=by
 have hsz:ops.size=pre.length+r.length:=by rw[<-iL,hops];simp
 have hget: ∀i,i<pre.length->ops[i]? =pre.toArray[i]? :=fun i hi=>by rw[<-pS,hops,dY hi];simp
 -- all of the first part is done
 have fin: ∀(L listed:Array Bool) (a:Act) (w:World),L.size=pre.length->(∀j d,listed.getD j d=if j<pre.length then L.getD j d else if j<ops.size then false else d)->Region.ready .any pre.toArray L=[]->wpListIn F n P ops Q r a w->wpAnyIn F n P .any ops Q r.length listed a w:=by
  intro L listed a w hL hl hr h;have all: ∀i,i<pre.length->L.getD i true=true:=by
   intro i
   induction i using Nat.strongRecOn with
   |ind i ih=>
    intro hi
    cases hq:L.getD i true with
    |true=>rfl
    |false=>
     have:i∈Region.ready .any pre.toArray L:=mem_ready.2 ⟨hq,pre[i],by simp[hi],fun e hm hb=>by
      have hlt:=tL he i pre[i] (by rw[hops,dY hi];simp[hi]) e hm hb;have:=ih e.on we we;rw[cX,gV we] at this⊢;simpa using this⟩
     rw[hr] at this;cases this
  refine S9 he r pre hops hc listed a w (fun j d=>?_) h;rw[hl];by_cases hj:j<pre.length
  .have:=all j hj
   rw[if_pos hj,if_pos hj];rw[cX,gV we] at this⊢;simpa using this
  .rw[if_neg hj,if_neg hj]
 intro fuel
 induction fuel with
 |zero=>
  intro L listed a w hL hl hcl h;rw[fX];exact fin L listed a w hL hl h.1 h.2
 |succ fuel ih=>
  intro L listed a w hL hl hcl h;by_cases hr:Region.ready .any pre.toArray L=[]
  .exact Ts (fin L listed a w hL hl hr (h.1 hr)) (fuel+1)
  .have sub: ∀i,i∈Region.ready .any pre.toArray L->i∈Region.ready .any ops listed:=fun i hi=>by
    obtain⟨h1,o,h2,h3⟩:=mem_ready.1 hi;have hi':i<pre.length:=by have:=(fS.1 h2).1;simpa using this
    refine mem_ready.2 ⟨by rw[hl,if_pos hi'];exact h1,o,by rw[hget i hi'];exact h2,fun e hm hb=>?_⟩;have hlt:=tL he i o (by rw[hops,dY hi'];simpa using h2) e hm hb;rw[hl,if_pos we];exact h3 e hm hb
   have sup: ∀i,i∈Region.ready .any ops listed->i∈Region.ready .any pre.toArray L:=fun i hi=>by
    obtain⟨h1,o,h2,h3⟩:=mem_ready.1 hi;have h4:=(fS.1 h2).1;by_cases hi':i<pre.length
    .rw[hl,if_pos hi'] at h1
     refine mem_ready.2 ⟨h1,o,by rw[<-hget i hi'];exact h2,fun e hm hb=>?_⟩;have hlt:=tL he i o ozq e hm hb;have:=h3 e hm hb;rw[hl,if_pos we] at this;exact this
    .exfalso
     obtain⟨j,hj⟩:=List.exists_mem_of_ne_nil _ hr;obtain⟨g1,o2,g2,_⟩:=mem_ready.1 hj;have hj':j<pre.length:=by have:=(fS.1 g2).1;simpa using this
     have clo: ∀i j,Bf ops.toList i j->listed.getD i false=true->listed.getD j false=true:=fun i j hb=>by
      induction hb with
      |b ho hm hb=>intro hi;exact hcl _ _ ho hi _ hm hb
      |s ho hm hb _ ih=>intro hi;exact ih (hcl _ _ ho hi _ hm hb)
     have hjf:listed.getD j false=false:=by
      rw[hl,if_pos hj'];rw[cX,gV we] at g1⊢;simpa using g1
     have:listed.getD j false=true:=by
      obtain⟨o2,e,ho,hm,hb,hh⟩:=(hc i we h4 j we).inv;have e':o=o2:=Option.some.inj (h2.symm.trans okv);subst e';rcases hh with hh|hh
      .rw[<-hh];exact h3 _ hm hb
      .exact clo _ _ hh (h3 _ hm hb)
     rw[hjf] at this;cases this
   rw[show fuel+1+r.length=(fuel+r.length)+1 by omega];refine⟨fun hn=>?_,fun i hi=>?_⟩
   .obtain⟨j,hj⟩:=List.exists_mem_of_ne_nil _ hr
    have:=sub j hj;rw[hn] at this;cases this
   .have hi0:=sup i hi
    have hk:=h.2 i hi0;obtain⟨h1,o,h2,h3⟩:=mem_ready.1 hi0;have hi':i<pre.length:=by have:=(fS.1 h2).1;simpa using this
    have hgo:o.guard=none:=hg o (by
     have h2':pre[i]? =some o:=by simpa using h2
     exact aT h2')
    have step: ∀a w,wpAnyIn F n P .any pre.toArray (E' F n P ops r Q) fuel (L.setIfInBounds i true) a w->wpAnyIn F n P .any ops Q (fuel+r.length) (listed.setIfInBounds i true) a w:=by
     intro a w hh;have hls:i<listed.size:=by
      apply Classical.byContradiction;intro hq;have q:=hl i true;have q':=hl i false;rw[if_pos hi'] at q q';rw[cX,mM we] at q q';rw[cX,gV we] at q q';simp only[Option.getD_none,lW] at q q';rw[<-q] at q';cases q'
     have hl': ∀j d,(listed.setIfInBounds i true).getD j d=if j<pre.length then(L.setIfInBounds i true).getD j d else if j<ops.size then false else d:=fun j d=>by
      have q:=hl j d;rw[cX] at q⊢;rw[cX] at q⊢;rw[fQ,fQ];by_cases hj:i=j
      .subst hj;rw[if_pos J,if_pos J,if_pos hls,if_pos hi',if_pos we]
      .rw[if_neg hj,if_neg hj];exact q
     refine ih _ _ a w (by simp[hL]) hl' (fun i2 o2 g1 g2 e hm hb=>?_) hh;have g3:i2=i\/listed.getD i2 false=true:=by
      rw[cX,fQ] at g2;by_cases hj:i=i2
      .exact .inl hj.symm
      .rw[if_neg hj] at g2;rw[cX];exact .inr g2
     have g4:listed.getD e.on false=true:=by
      rcases g3 with rfl|g3
      .have e':o=o2:=Option.some.inj (((hget i2 hi').trans h2).symm.trans (by simpa using g1))
       subst e';have hlt:=tL he i2 o g1 e hm hb;rw[hl,if_pos we];exact h3 e hm hb
      .exact hcl i2 o2 g1 g3 e hm hb
     rw[cX,fQ];by_cases hj:i=e.on
     .rw[if_pos hj];rw[if_pos hls];rfl
     .rw[if_neg hj];rw[cX] at g4;exact g4
    unfold wpOpIn at hk⊢;rw[hget i hi',h2];rw[h2] at hk;have hw: ∀y,Region.wanted o y=true:=fun y=>by unfold Region.wanted;rw[hgo]
    simp only[hw,if_true] at hk⊢;exact WR (Oper.wpIn_mono step hk)
end
section
variable {P:Program} {GB:Gh} {C:aH} {n:Nat} {Q0:Exit->Act->World->Prop} {fr fr0:aD} {own own0:aO} {ops:Array Oper} {us:List Rc} {r:List Oper} {K:List Kt} {id:Nat}
def DS(x:Nat):Nat->Bool
 |0=>true
 |i+1=>x.testBit i&&DS x i
def O2{x:Nat}: ∀{i:Nat},DS x i=true-> ∀j,j<i->x.testBit j=true
 |i+1,h,j,hj=>by
  simp only[DS,bT] at h;by_cases e:j=i
  .subst e;exact h.1
  .exact O2 h.2 j we
def BX:Nat->List Nat->Bool
 |_,[]=>true
 |i,x::t=>DS x i&&BX (i+1) t
def Uh: ∀{l:List Nat} {k:Nat},BX k l=true-> ∀i x,l[i]? =some x-> ∀j,j<k+i->x.testBit j=true
 |y::t,k,h,0,x,hx,j,hj=>by
  simp only[BX,bT] at h
  cases hx
  exact O2 h.1 j we
 |y::t,k,h,i+1,x,hx,j,hj=>by
  simp only[BX,bT] at h;exact Uh h.2 i x (by simpa using hx) j we
def Ov: ∀(r:List Oper) (acc:List Nat),(qj r acc).length=acc.length+r.length
 |[],acc=>by simp[qj]
 |o::r,acc=>by simp only[qj];rw[Ov];simp;omega
def IU(m:Nat)(pre all:List Oper)(us:List Rc)(fr0:aD)(own0:aO):Bool:=
 (pre.all (fun o=>o.guard.isNone)&&vb (qj pre []) [] us)&&((o8 0 all&&BX m ((qj all []).drop m))&&Ev us fr0 own0)
def UW(hm:P.follows .mixedOrders=true)(h:IU us.length (ops.toList.take us.length) ops.toList us fr0 own0=true)(k:ao P GB C n Q0 fr own (.ops ops r K)):ao P GB C n Q0 fr own (.dr id ops fr0 own0 us r K):=by
 intro D;obtain⟨pre,hp,hl⟩:=D.pre;have ht:ops.toList.take us.length=pre:=by rw[hp,<-hl];simp
 rw[ht] at h;simp only[IU,bT] at h;obtain⟨⟨h1,h2⟩,⟨h3,h4⟩,h5⟩:=h;have hg: ∀o∈pre,o.guard=none:=fun o ho=>by simpa using cN.1 h1 o ho
 have hgt: ∀i,i<pre.length->ops[i]? =pre.toArray[i]? :=fun i hi=>by rw[<-pS,hp,dY hi];simp
 have hc: ∀i,pre.length<=i->i<ops.size-> ∀j,j<i->Bf ops.toList i j:=fun i g1 g2 j g3=>by
  refine Jw ops.toList [] [] J J (fun i j h=>by simp at h) i j ?_;have hlen:=Ov ops.toList [];have hi:i<(qj ops.toList []).length:=by rw[hlen];simpa using g2
  rw[aJ,aZ hi];refine Uh h4 (i-us.length) _ ?_ j we;rw[mQ,show us.length+(i-us.length)=i by omega];exact aZ hi
 have he':o8 0 pre=true:=by
  have: ∀(l l':List Oper) (k:Nat),o8 k (l++l')=true->o8 k l=true:=by
   intro l l'
   induction l with
   |nil=>intros;rfl
   |cons o t ih=>intro k h;simp only[jW,o8,bT] at h⊢;exact⟨h.1,ih _ h.2⟩
  exact this pre r 0 (by rw[<-hp];exact h3)
 have D':kt P GB C n pre.toArray us (bh fr0,bj own0):=by
  refine⟨by simpa using hl.symm,fun i u o hu ho=>?_,by simpa using h2,by simpa using he',Lb h5⟩;have hi:i<pre.length:=by have:=(fS.1 ho).1;simpa using this
  obtain⟨d1,d2⟩:=D.snd i u o hu (by rw[hgt i hi];exact ho);refine⟨d1,fun Q tl tb K s1 s2 hf hk=>?_⟩;refine(d2 Q tl tb K s1 s2 hf hk).imp fun a w q=>?_;have hgo:o.guard=none:=hg o (aT okv);have hw: ∀y,Region.wanted o y=true:=fun y=>by unfold Region.wanted;rw[hgo]
  unfold wO at q⊢;simp only[hw,if_true] at q⊢;exact q
 have e:cI (fh (Array.replicate pre.length false)) 0 (bh fr0,bj own0) us=(bh fr0,bj own0):=by
  have: ∀(l:List Rc) (k:Nat) (s:ST),cI (fh (Array.replicate pre.length false)) k s l=s:=fun l=>by
   induction l with
   |nil=>intro k s;rfl
   |cons y l ih=>
    intro k s;simp only[cI];rw[ih];rw[CI];rfl
  exact this us 0 _
 have hw:=D'.walk (Q:=E' (FW C.rd) 0 P ops r (cQ C.rd P Q0 K)) (by rw[D.st];exact k) pre.toArray.size (Array.replicate pre.length false) omc (fun i o _ hi=>by rw[CI] at hi;cases hi) (by unfold un;exact dJ (nU _ _) omc);rw[e] at hw;refine hw.drew.imp fun a w q=>wpIn_region_any hm ?_;have hsz:ops.size=pre.toArray.size+r.length:=by rw[<-iL,hp];simp
 rw[show wpAnyIn (FW C.rd) 0 P .any ops (cQ C.rd P Q0 K) ops.size=wpAnyIn (FW C.rd) 0 P .any ops (cQ C.rd P Q0 K) (pre.toArray.size+r.length) by rw[hsz]];refine Zi hp hg h3 hc _ _ _ _ _ omc (fun j d=>?_) (fun i o _ hi=>?_) q
 .have hs2:ops.size=pre.length+r.length:=by simpa using hsz
  simp only[cX,qS];by_cases g1:j<pre.length
  .rw[if_pos we,if_pos g1,if_pos g1]
  .by_cases g2:j<ops.size
   .rw[if_pos g2,if_neg g1,if_pos g2];rfl
   .rw[if_neg g2,if_neg g1,if_neg g2];rfl
 .simp only[cX,qS] at hi
  split at hi<;>cases hi
end
section
variable {GB:Gh} {C:aH} {n:Nat} {Q0:Exit->Act->World->Prop} {fr fr0 fr':aD} {own own0 own':aO} {cf':Cf} {vc:List Prop} {ops:Array Oper} {us:List Rc} {r:List Oper} {K:List Kt} {id:Nat}
def Y'[fu:Fu](h:IU us.length (ops.toList.take us.length) ops.toList us fr0 own0=true)(hgo:go tt n fu.n [] fr own (.ops ops r K)=⟨vc,fr',own',cf'⟩)(k:ao prog GB C n Q0 fr' own' cf')
  (hv:autoParam (ae vc) cL._auto_1):ao prog GB C n Q0 fr own (.dr id ops fr0 own0 us r K):=
 UW follows h (gD hgo hv k)
end
def GC(o:Obj):Prop:= ∀cs ty z,o≠ .cells cs ty z
section
variable {C C':aH} {own:List az} {G G1:Gh} {w w1:World}
def bC.ctx(h:bC C own G w)(h1:C'.w0=C.w0)(h2:C'.G0=C.G0)(h3:C'.mb=C.mb)(h4: ∀p∈C'.ex,p∈C.ex):bC C' own G w:=by
 obtain⟨a1,a2,a3,a4,a5,a6,a7,a8,a9,a10,a11,a12⟩:=h;exact⟨by rw[h1];exact a1,by rw[h1];exact a2,by rw[h1];exact a3,by rw[h1];exact a4,by rw[h1,h3];exact a5,a6,by rw[h2];exact a7,by rw[h1,h2];exact a8,by rw[h1,h3];exact a9,a10,by rw[h1];exact a11,fun p hp=>a12 p (h4 p hp)⟩
def bC.addx(h:bC C own G w){o:Obj}(ho:GC o)(h1:C'.w0=C.w0)(h2:C'.G0=C.G0)(h3:C'.mb=C.mb)(h4: ∀p∈C'.ex,p=(w.heap.size,o)\/p∈C.ex):bC C' own G (w.alloc o):=by
 have old: ∀b,b<w.heap.size->(w.alloc o).heap[b]? =w.heap[b]? :=fun b hb=>RowKit.Below.heap_alloc _ _ _ hb;obtain⟨a1,a2,a3,a4,a5,a6,a7,a8,a9,a10,a11,a12⟩:=h;refine⟨by rw[h1];exact a1,by rw[h1];exact a2,by rw[h1];exact a3,by rw[h1];simp;omega,?_,?_,by rw[h2];exact a7,by rw[h1,h2];exact a8,?_,a10,by rw[h1];exact a11,?_⟩
 .rw[h1,h3];intro b hb hm;rw[old b we];exact a5 b hb hm
 .intro b cs hb
  obtain⟨ty,fz,hc⟩:=a6 b cs hb;exact⟨ty,fz,by rw[old b (i5 hc)];exact hc⟩
 .rw[h1,h3];intro x hx
  obtain⟨b1,b2⟩:=a9 x hx;exact⟨by rw[old _ (i5 b1)];exact b1,b2⟩
 .intro p hp
  rcases h4 p hp with rfl|hp
  .exact⟨ho,World.alloc_heap_new w o⟩
  .exact⟨(a12 p hp).1,by rw[old _ (i5 (a12 p hp).2)];exact(a12 p hp).2⟩
def bC.putx(h:bC C own G w){l:Nat}{o0 o:Obj}(hl:(l,o0)∈C.ex)(hs:C.w0.heap.size<=l)(ho:GC o)(h1:C'.w0=C.w0)(h2:C'.G0=C.G0)(h3:C'.mb=C.mb)(h4: ∀p∈C'.ex,p=(l,o)\/p∈C.ex/\p.1≠l):bC C' own G (w.putObj l o):=by
 have hne: ∀{b:Nat} {cs:Array Value} {ty:TypeId} {z:Nat×Nat},w.heap[b]? =some (.cells cs ty z)->b≠l:=fun hb e=>h.extNe hl hb e.symm;have hlt:=i5 (h.ext _ hl).2;obtain⟨a1,a2,a3,a4,a5,a6,a7,a8,a9,a10,a11,a12⟩:=h;refine⟨by rw[h1];exact a1,by rw[h1];exact a2,by rw[h1];exact a3,by rw[h1];simpa using a4,?_,?_,by rw[h2];exact a7,by rw[h1,h2];exact a8,?_,a10,by rw[h1];exact a11,?_⟩
 .rw[h1,h3];intro b hb hm;rw[World.putObj_heap_other we];exact a5 b hb hm
 .intro b cs hb
  obtain⟨ty,fz,hc⟩:=a6 b cs hb;exact⟨ty,fz,by rw[World.putObj_heap_other (hne hc)];exact hc⟩
 .rw[h1,h3];intro x hx
  obtain⟨b1,b2⟩:=a9 x hx;exact⟨by rw[World.putObj_heap_other (hne b1)];exact b1,b2⟩
 .intro p hp
  rcases h4 p hp with rfl|⟨hp,hpl⟩
  .exact⟨ho,World.putObj_heap_same hlt⟩
  .exact⟨(a12 p hp).1,by rw[World.putObj_heap_other hpl];exact(a12 p hp).2⟩
end
abbrev o4 (w:World) (G:Gh):aH:=⟨w,G,[],[],[],none,fun _=>none⟩
def K0(G:Gh)(w:World):Prop:= ∀b cs,G b=some cs-> ∃ty fz,w.heap[b]? =some (.cells ⟨cs⟩ ty fz)
structure K5 (Jv:Gh->World->Prop):Prop where
 frz: ∀G w,Jv G w->K0 G w
 on: ∀G w G1 w1,Jv G w->bC (o4 w G) [] G1 w1->Jv G1 w1
def I9{G:Gh}{w:World}(h:K0 G w):bC (o4 w G) [] G w:=
 ⟨J,J,J,bV _,fun _ _ _=>J,h,cc.refl _,fun _ _=>J,fun o ho=>(by cases ho), .nil,bV _,fun p hp=>by cases hp⟩
structure AA (GB:Gh) (P:Program) (l:Nat) (Jv:Nat->Gh->World->Prop) (Jx:Gh->World->Prop) (E:List (List DV)):Prop where
 st: ∀k,K5 (Jv k)
 sx:K5 Jx
 yd: ∀k e G w ys,E[k]? =some e->cc GB G->Jv k G w->IsLs G e ys->YieldAt (FW none) 0 P l ⟨ys⟩ w fun e w'=> ∃G',cc G G'/\(e= .returned (.bool true)/\Jv (k+1) G' w'\/e= .returned (.bool false)/\Jx G' w')
structure It (GB:Gh) (P:Program) (f:FuncId) (ds:List DV) (E:List (List DV)):Prop where
 able:ta P f
 run: ∀(l:Nat) (Jv:Nat->Gh->World->Prop) (Jx:Gh->World->Prop) (GB':Gh),cc GB GB'->AA GB' P l Jv Jx E-> ∀w vs,Jv 0 GB' w->IsLs GB' ds vs->
  CallsIn (FW none) 0 P f ⟨.func (.yield l) #[] #[]::vs⟩ w fun e w'=> ∃G',cc GB' G'/\(∃v,e= .returned v)/\(Jv E.length G' w'\/Jx G' w')
structure Pl (C:aH):Prop where
 mb:C.mb=[]
 mks:C.mks=[]
 rd:C.rd=none
def KL(P:Program)(fb:Func)(GB:Gh)(Jv:Nat->Gh->World->Prop)(Jx:Gh->World->Prop)(N:Nat):Exit->Act->World->Prop:=
 bodyPost P fb fun e w'=> ∃G',cc GB G'/\(∃v,e= .returned v)/\(Jv N G' w'\/Jx G' w')
section
variable {GB:Gh} {C:aH} {n:Nat} {Q0:Exit->Act->World->Prop} {fr fr':aD} {own own':aO} {cf':Cf} {vc:List Prop} {ops:Array Oper} {o:Oper} {r:List Oper} {K:List Kt}
def aMa[fu:Fu]{f:FuncId}{fb:Func}{c:Code}{m:Nat}{ds:List DV}{E:List (List DV)}{cf:Nat->Cf}{fr:Nat->aD}{own:Nat->aO}{vc:Nat->List Prop}(hf:prog.funcs[f]? =some fb)(hb:fb.body=some c)(hn:(fb.name== "runtime.NumGoroutine")=false)(hm:fb.ntmps=m)(hlen:Nat.ble (ds.length+1) m=true)
  (hgo: ∀l,go tt m fu.n [] (th 0 (.v (.func (.yield l) #[] #[])::ds)) [] (.code c [])=⟨vc l,fr l,own l,cf l⟩)
  (k: ∀l Jv Jx GB',cc GB GB'->AA GB' prog l Jv Jx E-> ∀C,Pl C->Jv 0 C.G0 C.w0->ao prog GB' C m (KL prog fb GB' Jv Jx E.length) (fr l) (own l) (cf l))
  (hv: ∀l,ae (vc l):=by intros;first|exact trivial|(simp only[ae];kernel_rfl)|(simp only[ae];omega)):It GB prog f ds E:=by
 refine⟨⟨fb,hf,hn,by simp[hb]⟩,fun l Jv Jx GB' hg H w vs hJ hvs=>?_⟩;have hlen':vs.length+1<=m:=by rw[hvs.len];simpa using hlen
 have h:=gD (GB:=GB') (C:=o4 w GB') (Q0:=KL prog fb GB' Jv Jx E.length) (hgo l) (hv l) (k l Jv Jx GB' hg H (o4 w GB') ⟨J,J,J⟩ hJ);refine callsIn_wide.2 (calls_of_wp hf hb ?_);have hvs':IsLs GB' (.v (.func (.yield l) #[] #[])::ds) (.func (.yield l) #[] #[]::vs):= .cons (bE.2 J) hvs;refine vR J (h.run (fun _=>⟨none,0,0⟩) GB' [] _ w ⟨cc.refl _,I9 ((H.st 0).frz _ _ hJ),by simp;omega,J,fun k f e=>yG hvs' (fun k v hk=>?_) k f e,(fun nm B e=>by cases e),(fun nm nm' B B' e=>by cases e),fun nm p _ _ e=>by cases e⟩);obtain⟨j,rfl,hj⟩:=xp (.func (.yield l) #[] #[]::vs) 0 k v hk;have hj':=(bQ.1 hj).1;rw[kK omJ];simpa using hj
def bC.pl{ov:List az}{G:Gh}{w:World}(h:bC C ov G w)(hp:Pl C):bC (o4 C.w0 C.G0) [] G w:=
 (h.drop (lN _)).ctx J J hp.mb.symm (fun p hp=>by cases hp)
def R9{P:Program}{l:Nat}{Jv:Nat->Gh->World->Prop}{Jx:Gh->World->Prop}{E:List (List DV)}{fb:Func}{e:Exit}(H:AA GB P l Jv Jx E)(hp:Pl C)(hJ:Jv E.length C.G0 C.w0\/Jx C.G0 C.w0)(hr:fb.results.toList=[])(he:CO e=true:=by rfl):
  ao P GB C n (KL P fb GB Jv Jx E.length) fr own (.ex e []):=by
 refine⟨fun ρ G ov a w r=>?_⟩;have hj:Jv E.length G w\/Jx G w:=hJ.imp (fun h=>(H.st _).on _ _ _ _ h (r.h.pl hp)) fun h=>H.sx.on _ _ _ _ h (r.h.pl hp);have hr':lD P (de a) ov fb.results.toList []:=by rw[hr];exact .nil
 cases e with
 |ret=>exact⟨r.df.trans hp.mks,_,wx hr' (dt a) r.h,G,r.gb,⟨_,J⟩,hj⟩
 |normal=>exact⟨r.df.trans hp.mks,_,wx hr' (dt a) r.h,G,r.gb,⟨_,J⟩,hj⟩
 |_=>cases he
def Zm{P:Program}{fo:Operand}{args:Array Operand}{tys:Array TypeId}{vs:List Value}{a:Act}{w:World}{fr:Fr}{l:Nat}{dst:Option Nat}{ty':TypeId}{pos:String}{af:Array Edge}{gd:Option (Nat×Bool)}(hf:ng fr a)(ho:aF fr fo=some (.func (.yield l) ⟨[]⟩ ⟨[]⟩))(hv:gH fr args.toList=some vs):
  (execOp a.eval ⟨dst, .call ⟨.value fo,args,tys⟩,ty',pos,af,gd⟩).run P w=(Instr.yield l ⟨vs⟩).run P w:=by
 have e:args.map a.eval=⟨vs⟩:=by apply Array.ext';simpa using Eu hf hv
 simp only[execOp,resolve,bu hf ho,e,Deferred.ofValue];show(invoke (.fn (.yield l) ⟨[]⟩) (⟨[]⟩++⟨vs⟩)).run P w=_;simp only[invoke];rw[show((⟨[]⟩:Array Value)++⟨vs⟩)=⟨vs⟩ by simp]
def o6:aD->aD
 |[]=>[]
 |(k,f)::t=>match f with
  | .ov .. =>o6 t
  | .rw .. =>o6 t
  | .be .. =>o6 t
  | .rs .. =>o6 t
  | .bx .. =>o6 t
  | .ri .. =>o6 t
  | .no=>o6 t
  |f=>(k,f)::o6 t
def LU(fr:aD)(ops:Array Oper)(o:Oper):Option (Nat×List DV×Nat):=match o with
 |⟨some d, .call ⟨.value fo,args,_⟩,_,_,_,none⟩=>match ba (bh fr) fo,evDs (bh fr) args.toList with
  |some (.d (.v (.func (.yield l) ⟨[]⟩ ⟨[]⟩))),some ds=>some (l,ds,d)
  |_,_=>none
 |_=>none
def cy[fu1:Fu][fu2:Fu]{l d k:Nat}{Jv:Nat->Gh->World->Prop}{Jx:Gh->World->Prop}{E:List (List DV)}{ds:List DV}{fr1 fr2:aD}{own1 own2:aO}{cf1 cf2:Cf}{vc1 vc2:List Prop}(frd:aD)(H:AA GB prog l Jv Jx E)(hp:Pl C)(hJ:Jv k C.G0 C.w0)(ha:LU fr ops o=some (l,ds,d))(hE:E[k]? =some ds)(hd:cA n (some d)=true)
  (hfd:vU frd fr)(hnd:o6 frd=frd)
  (g1:go tt n fu1.n [] ((d, .tt)::frd) [] (.ops ops r K)=⟨vc1,fr1,own1,cf1⟩)(g2:go tt n fu2.n [] ((d, .ff)::frd) [] (.ops ops r K)=⟨vc2,fr2,own2,cf2⟩)
  (k1: ∀C',Pl C'->Jv (k+1) C'.G0 C'.w0->ao prog GB C' n Q0 fr1 own1 cf1)(k2: ∀C',Pl C'->Jx C'.G0 C'.w0->ao prog GB C' n Q0 fr2 own2 cf2)
  (v1:autoParam (ae vc1) cL._auto_1)(v2:autoParam (ae vc2) cL._auto_1):
  ao prog GB C n Q0 fr own (.ops ops (o::r) K):=by
 unfold LU at ha;split at ha<;>try (cases ha;done)
 rename_i d0 fo args tys ty pos af;split at ha<;>cases ha;rename_i h1 h2;have nmd: ∀{f:aD},o6 f=f-> ∀k x,bh f k=some x->x.nm=none:=by
  have len: ∀f:aD,(o6 f).length<=f.length:=fun f=>by
   induction f with
   |nil=>exact bV _
   |cons e t ih=>obtain⟨j,x⟩:=e;cases x<;>simp only[o6,bZ]<;>omega
  intro f
  induction f with
  |nil=>intro _ k x e;cases e
  |cons e t ih=>
   obtain⟨j,y⟩:=e;intro hd k x hx;rw[kH] at hx;have:=len t;split at hx
   .cases hx
    cases y<;>first|rfl|(have:=congrArg List.length hd;simp only[o6,bZ] at this;omega)
   .refine ih ?_ k x hx
    cases y<;>first|exact(List.cons.inj hd).2|(have:=congrArg List.length hd;simp only[o6,bZ] at this;omega)
 refine⟨fun ρ G ov a w rl=>?_⟩;have hJG:Jv k G w:=(H.st k).on _ _ _ _ hJ (rl.h.pl hp);obtain⟨y,hy,hy'⟩:=rl.ev h1;rw[(bE (G:=G)).1 hy'] at hy;obtain⟨vs,h3,h4⟩:=rl.evDs h2;obtain⟨fn,tmps,assign,body,hrun,hround⟩:=H.yd k ds G w vs hE rl.gb hJG h4;rw[hp.rd];simp only[wpListIn];rw[if_pos (by rfl)];refine⟨fun _ _=>trivial,?_⟩;have hs: ∀o:Oper,Oper.semAt (FW none).round a.eval o=execOp a.eval o:=fun _=>J;rw[hs,Zm (dt a) hy h3,hrun];refine⟨fun h=>okS,hround.mono fun e w' he=>?_⟩;obtain⟨G',hg,he⟩:=he;have rel: ∀(b:Bool) (f:FX),(∀ρ,ce ρ G' f (.bool b))->K0 G' w'->bH GB (o4 w' G') n (bh ((d,f)::frd)) (bj []) ρ G' [] (a.put (some d) (.bool b)) w':=fun b f hfb hz=>by
  have pa:=rl.putA (dst:=some d) (.bool b) hd;refine⟨rl.gb.trans hg,I9 hz,pa.sz,by rw[pa.df];exact hp.mks,fun k g e=>?_,(fun nm B e=>by cases e),(fun nm nm' B B' e=>by cases e),fun nm p _ _ e=>by cases e⟩;have e':fB (bh frd) (some d) f k=some g:=by
   rw[kH] at e;simp only[fB];split at e
   .rename_i hk;rw[if_pos hk];exact e
   .rename_i hk;rw[if_neg hk];exact e
  refine pa.fx (fun k g _ e=>?_) (hfb ρ) k g e';obtain⟨u,h5,h6⟩:=rl.fx k g (wP hfd k g e);exact⟨u,h5,h6.up hg⟩
 rcases he with⟨rfl,hj⟩|⟨rfl,hj⟩
 .exact(gD (GB:=GB) (C:=o4 w' G') (Q0:=Q0) g1 v1 (k1 (o4 w' G') ⟨J,J,J⟩ hj)).run ρ G' [] _ w' (rel true .tt (fun _=>J) ((H.st _).frz _ _ hj))
 .exact(gD (GB:=GB) (C:=o4 w' G') (Q0:=Q0) g2 v2 (k2 (o4 w' G') ⟨J,J,J⟩ hj)).run ρ G' [] _ w' (rel false .ff (fun _=>J) (H.sx.frz _ _ hj))
def NN(GB:Gh)(n:Nat){X:Type}(F:X->aD)(I:X->aH->Prop)(a:Act)(w:World):Prop:=
 ∃C x ρ G ov,Pl C/\I x C/\bH GB C n (bh (F x)) (bj []) ρ G ov a w
def PG[fu:Fu]{c:Code}{X:Type}(F:X->aD)(I:X->aH->Prop)(μ:X->Nat)(x0:X){cf':X->Cf}{fr':X->aD}{own':X->aO}{vc:X->List Prop}(hp:Pl C)(hI:I x0 C)
  (hgo: ∀x,go tt n fu.n [] (F x) [] (.code c (.ag (NN GB n F (fun y C=>I y C/\μ y<μ x))::K))=⟨vc x,fr' x,own' x,cf' x⟩)
  (round: ∀x C,Pl C->I x C->ao prog GB C n Q0 (fr' x) (own' x) (cf' x))(hF:vU (F x0) fr:=by repeat (first|exact trivial|refine And.intro J ?_|refine And.intro (ql J okf) ?_|refine And.intro (ql J omc) ?_))
  (hv: ∀x C,I x C->ae (vc x):=by intros;first|exact trivial|(simp only[ae];kernel_rfl)|(simp only[ae];omega)|(simp only[ae,aK,aM,aU];omega)):ao prog GB C n Q0 fr own (.code (.loop c) K):=by
 refine⟨fun ρ G ov a w r=>?_⟩;have r0:=r.mono (bk:=bj []) (wP hF) (fun k x e=>by cases e);rw[hp.rd];intro b k cs hro hb hrm;have key: ∀m a w,(∃C x ρ G ov,Pl C/\I x C/\μ x=m/\bH GB C n (bh (F x)) (bj []) ρ G ov a w)->
   ∃e a' w',cQ none prog Q0 K e a' w'/\ArrivesIn (Machine.fenced prog (FW none)) prog (lone (b.atR a (.code c:: .inLoop c::k)) cs w) b k cs e a' w':=by
  intro m
  induction m using Nat.strongRecOn with
  |_ m ih=>
   intro a w ⟨C,x,ρ,G,ov,hpc,hx,hm,hr⟩;have h1:=gD (GB:=GB) (C:=C) (Q0:=Q0) (hgo x) (hv x C hx) (round x C hpc hx);have h2:=h1.run ρ G ov a w hr;rw[hpc.rd] at h2;obtain⟨e,a₁,w₁,hq,harr⟩:=h2 b (.inLoop c::k) cs hro hb hrm
   cases e with
   |normal=>
    obtain⟨C',x',ρ',G',ov',hpc',⟨hx',hlt⟩,hr'⟩:=hq;obtain⟨e₂,a₂,w₂,hq₂,harr₂⟩:=ih (μ x') (hm▸hlt) a₁ w₁ ⟨C',x',ρ',G',ov',hpc',hx',rfl,hr'⟩;exact⟨e₂,a₂,w₂,hq₂, .of_steps (StepsIn.trans harr (.one (fenced_calm hb hrm J) stepR_inLoop)) harr₂⟩
   |exit id=>exact⟨_,a₁,w₁,hq, .pass (x:= .inLoop c) J (fun _ _=> .inl omc) harr⟩
   |goto l=>exact⟨_,a₁,w₁,hq, .pass (x:= .inLoop c) J (fun _ _=> .inl omc) harr⟩
   |ret=>exact⟨_,a₁,w₁,hq, .pass (x:= .inLoop c) J (fun _ _=> .inl omc) harr⟩
   |panic ch=>exact⟨_,a₁,w₁,hq, .pass (x:= .inLoop c) J (fun _ _=> .inl omc) harr⟩
   |outgrown=>exact⟨_,a₁,w₁,hq, .pass (x:= .inLoop c) J (fun _ _=> .inl omc) harr⟩
 obtain⟨e,a',w',q,rr⟩:=key (μ x0) a w ⟨C,x0,ρ,G,ov,hp,hI,rfl,r0⟩;exact⟨e,a',w',q, .of_steps (.one (fenced_calm hb hrm J) stepR_loop) rr⟩
def RA{P:Program}{X:Type}{F:X->aD}{I:X->aH->Prop}(x:X)(hp:Pl C)(hI:I x C)(hF:vU (F x) fr:=by repeat (first|exact trivial|refine And.intro J ?_|refine And.intro (ql J okf) ?_|refine And.intro (ql J omc) ?_)):ao P GB C n Q0 fr own (.ex .normal (.ag (NN GB n F I)::K)):=
 ⟨fun ρ G ov a w r=>⟨C,x,ρ,G,ov,hp,hI,r.mono (wP hF) (fun k x e=>by cases e)⟩⟩
end
section
variable {GB:Gh} {C:aH} {n:Nat} {Q0:Exit->Act->World->Prop} {fr fr':aD} {own own':aO} {cf cf':Cf} {vc:List Prop} {ops:Array Oper} {r:List Oper} {K:List Kt}
def Wp{x y:Nat}{Φ:Act->World->Prop}{R:A7}(hfx:C.fx=fun _=>none)(h:yN x y fr own=some R)(hk:SX GB C n (bh R.fr) (bj R.own) Φ):SX GB C n (bh fr) (bj own) Φ:=by
 unfold yN at h;rw[cond_eq_ite] at h;split at h<;>try (cases h;done)
 rename_i hb;have hxy:x≠y:=fun e=>hb (by subst e;simp);rw[GP,Hs] at h;cases h;refine⟨fun ρ G ov a w r=>hk.run (fun k=>if k=y then ρ x else ρ k) G ov a w ?_⟩;have inv: ∀m B,bj (own.map fun e=>(bif Nat.beq e.1 y then x else bif Nat.beq e.1 x then y else e.1,bif Nat.beq e.1 y then none else s5 x y e.2)) m=some B-> ∃m0 B0,bj own m0=some B0/\s5 x y (some B0)=some B/\(m=y/\m0=x\/m≠y/\m≠x/\m0=m):=fun m B e=>by
  rw[GX hxy] at e;split at e
  .cases e
  .rename_i hm
   split at e
   .cases hl:bj own x with
    |none=>rw[hl] at e;cases e
    |some B0=>rw[hl] at e;exact⟨x,B0,hl,e, .inl ⟨ome,J⟩⟩
   .cases hl:bj own m with
    |none=>rw[hl] at e;cases e
    |some B0=>rw[hl] at e;exact⟨m,B0,hl,e, .inr ⟨ome,hm,J⟩⟩
 have rho: ∀m m0,(m=y/\m0=x\/m≠y/\m≠x/\m0=m)->(fun k=>if k=y then ρ x else ρ k) m=ρ m0:=fun m m0 h=>by
  rcases h with⟨h1,h2⟩|⟨h1,_,h2⟩
  .subst h1 h2;simp
  .subst h2;exact if_neg h1
 refine⟨r.gb,r.h,r.sz,r.df,fun k f e=>?_,fun m B e=>?_,fun m m' B B' e e' hne=>?_,fun m p _ _ e=>by rw[hfx] at e;cases e⟩
 .rw[Dv] at e
  cases hf:bh fr k with
  |none=>rw[hf] at e;cases e
  |some g=>
   rw[hf] at e;cases e;obtain⟨v,h1,h2⟩:=r.fx k g hf;exact⟨v,h1,Jt hxy h2⟩
 .obtain⟨m0,B0,h1,h2,h3⟩:=inv m B e
  obtain⟨os,h4,h5⟩:=r.bx m0 B0 h1;refine⟨os,?_,h5⟩;have hr:=rho m m0 h3
  cases B0 with
  |b=>cases h2;obtain⟨vs,q1,q2,q3,q4⟩:=h4;exact⟨vs,by rw[hr];exact q1,q2,q3,q4⟩
  |c=>cases h2;obtain⟨vs,q1,q2,q3,q4,q5⟩:=h4;exact⟨vs,by rw[hr];exact q1,q2,q3,q4,by rw[hr];exact q5⟩
  |p=>cases h2;obtain⟨q0,vs,q1,q2,q3,q4⟩:=h4;exact⟨by rw[hr];exact q0,vs,q1,q2,q3,q4⟩
  |o ty cs lo=>cases h2;obtain⟨b,q,q1,q2,q3⟩:=h4;exact⟨b,q,by rw[hr];exact q1,q2,Iw hxy q3⟩
 .obtain⟨m0,B0,h1,_,h3⟩:=inv m B e
  obtain⟨m1,B1,h4,_,h6⟩:=inv m' B' e';have q1:=rho m m0 h3;have q2:=rho m' m1 h6;simp only at q1 q2;rw[q1,q2];refine r.dj m0 m1 B0 B1 h1 h4 fun e=>?_;rcases h3 with⟨h7,h8⟩|⟨h7,h8,h9⟩<;>rcases h6 with⟨g7,g8⟩|⟨g7,g8,g9⟩
  .exact hne (h7.trans g7.symm)
  .exact g8 (by rw[<-g9,<-e,h8])
  .exact h8 (by rw[<-h9,e,g8])
  .exact hne (by rw[<-h9,e,g9])
def wk{P:Program}(x y:Nat){fr1:aD}{own1:aO}{c:Code}(hfx:C.fx=fun _=>none)(h:yN x y fr own=some ⟨fr1,own1⟩)(k:ao P GB C n Q0 fr1 own1 (.code c K)):ao P GB C n Q0 fr own (.code c K):=Wp hfx h k
def Gt(P:Program)(fb:Func)(R:Ending->World->Prop):Exit->Act->World->Prop:=bodyPostM (FW none) 0 P fb R
structure Le (C:aH):Prop where
 mks:C.mks=[]
 rd:C.rd=none
 fx:C.fx=fun _=>none
def IE[fu:Fu]{f:FuncId}{fb:Func}{c:Code}{m:Nat}{ds:List DV}{rv:DV}(hf:prog.funcs[f]? =some fb)(hb:fb.body=some c)(hn:(fb.name== "runtime.NumGoroutine")=false)(hm:fb.ntmps=m)(hlen:Nat.ble ds.length m=true)
  (hgo:go tt m fu.n [] (th 0 ds) [] (.code c [])=⟨vc,fr,own,cf⟩)(k: ∀C:aH,Le C->ao prog GB C m (Gt prog fb (mE C (fun v G'=>Is G' rv v))) fr own cf)
  (hv:autoParam (ae vc) fn._auto_1):PF GB prog f ds rv:=by
 intro G vs hg hvs;refine⟨⟨fb,hf,hn,by simp[hb]⟩,fun w hw=>?_⟩;have hlen':vs.length<=m:=by rw[hvs.len];simpa using hlen
 have h:=gD (GB:=GB) (C:=o4 w G) (Q0:=Gt prog fb (mE (o4 w G) (fun v G'=>Is G' rv v))) hgo hv (k (o4 w G) ⟨J,J,J⟩);refine(callsIn_wide (n:=0)).1 (callsIn_of_wp_marks (F:=FW none) (n:=0) hf hb trivial ?_);refine h.run (fun _=>⟨none,0,0⟩) G [] _ w ⟨hg,I9 hw,by simp;omega,J,fun k f e=>yG hvs (fun k v hk=>?_) k f e,(fun nm B e=>by cases e),(fun nm nm' B B' e=>by cases e),fun nm p _ _ e=>by cases e⟩;obtain⟨j,rfl,hj⟩:=xp vs 0 k v hk;have hj':=(bQ.1 hj).1;rw[kK omJ];simpa using hj
def aH.mk3(C:aH)(D:Nat):aH:={C with ex:=(D, .deferred (some []))::C.ex,mks:=[{target:= .collected D,args:= #[]}]}
def JT{fb:Func}{e:Exit}{ds:List DV}{rv:DV}{D:Nat}(hD:C.w0.heap.size<=D)(hx: ∀p∈C.ex,p.1≠D)(hr:sO tt fr own fb.results.toList=some ds)(hd:jH ds=rv)(he:CO e=true:=by rfl):ao prog GB (C.mk3 D) n (Gt prog fb (mE C (fun v G'=>Is G' rv v))) fr own (.ex e []):=by
 refine⟨fun ρ G ov a w r=>?_⟩;obtain⟨vs,h1,h2⟩:=DT r hr;have hk:Is G rv (qo vs):=hd▸Fq h2;have hex:((D,Obj.deferred (some [])):Nat×Obj)∈(C.mk3 D).ex:=aQ;have h3:bC C ov G (w.putObj D (.deferred none)):=r.h.putx hex hD (fun _ _ _ h=>by cases h) J J J fun p hp=> .inr ⟨aX _ hp,hx p hp⟩;have hres:=wx (C:=C) (G:=G) (own:=ov) (w:=w.putObj D (.deferred none)) h1 (dt a) h3;have key:LeavesInM (FW none) 0 prog fb a.tmps (mE C (fun v G'=>Is G' rv v)) a.defers .returning w:=by
  rw[r.df];exact⟨omc, .inl ⟨D,_,J,run_takeDeferred (r.h.ext _ hex).2,_,hres,_,G,J,h3.drop (lN _),hk⟩⟩
 cases e with
 |ret=>exact key
 |normal=>exact key
 |_=>cases he
end
end Go.Sx
end
