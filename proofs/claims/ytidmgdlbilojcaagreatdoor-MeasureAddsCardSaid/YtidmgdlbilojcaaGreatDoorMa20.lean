import Derived.Test.YtidmgdlbilojcaaGreatDoorMa19
import Derived.RangeFuncSeq
set_option linter.all false
set_option maxRecDepth 100000
section
namespace Go.Sx
open Go Go.Proofs Tryz
def Nr{α:Type}{f:α->Rat}: ∀{l:List α},(∀x∈l,0<=f x)->aB f l=0-> ∀x∈l,f x=0
 |[],_,_,x,hx=>by cases hx
 |a::t,h,e,x,hx=>by
  have h1:=h a aQ;have h2:=P1 (f:=f) (l:=t) fun x hx=>h x (aJ a hx);have e':f a+aB f t=0:=e;rcases aY.1 hx with rfl|hx
  ·grind
  ·exact Nr (fun x hx=>h x (aJ a hx)) (by grind) x hx
def QW{c:ao}(hc:bH c)(hb:et c=true){s:bj}(hs:s∈c):s.v.lo<s.v.hi:=by
 have h:=(hc.edge s hs).1;obtain⟨a,b⟩:=(vi hb).2 s hs;unfold ah.Pos at h;rw[a,b] at h;rcases h with h|h|h
 ·cases h
 ·cases h
 ·exact h
def SH(s:bj):s.l.at s.v.hi=ck (s.l.at s.v.lo) s.l.dir (s.v.hi-s.v.lo):=by rw[<-wG];congr 1;grind
def aBY{c:ao}(hc:bH c)(ha:f9 c)(hb:et c=true){d:ab}(hd: ∀u∈c,0<=u.l.nor.dot d):d=⟨0,0⟩:=by
 have e:=av6 hc ha hb fun q=>q.x*d.y-q.y*d.x;have e2:aB (fun s:bj=>((s.l.at s.v.hi).x*d.y-(s.l.at s.v.hi).y*d.x)-((s.l.at s.v.lo).x*d.y-(s.l.at s.v.lo).y*d.x)) c=aB (fun s:bj=>(s.v.hi-s.v.lo)*s.l.nor.dot d) c:=uB fun s hs=>by
  rw[SH s];generalize s.l.at s.v.lo=q;unfold ck aa.dir aa.nor ab.dot;grind
 rw[e2] at e;have z: ∀s∈c,s.l.nor.dot d=0:=fun s hs=>by
  have h1:=Nr (fun s hs=>di (by have:=QW hc hb hs;grind) (hd s hs)) e s hs;have h2:=QW hc hb hs;rcases gK.1 h1 with k|k
  ·grind
  ·exact k
 obtain⟨s,hs⟩: ∃s,s∈c:=by
  have hne:=(vi hb).1
  cases c with
  |nil=>exact absurd J hne
  |cons s t=>exact⟨s,aQ⟩
 obtain⟨u,hu,_,h2⟩:=Pg hc hs ((vi hb).2 s hs).2;have z1:=z s hs;have z2:=z u hu;obtain⟨x,y⟩:=d;unfold aa.nor aa.dir ab.dot at*;dsimp only at*;generalize (s.l.a:Rat)=a at*;generalize (s.l.b:Rat)=b at*;generalize (u.l.a:Rat)=a' at*;generalize (u.l.b:Rat)=b' at*;have k1:(a'*b-b'*a)*x=0:=by grind
 have k2:(a'*b-b'*a)*y=0:=by grind
 have k3:a'*b-b'*a≠0:=by grind
 have x0:x=0:=(gK.1 k1).resolve_left k3;have y0:y=0:=(gK.1 k2).resolve_left k3;rw[x0,y0]
def HP{c d:ao}(hc:bH c)(ha:f9 c)(hb:et c=true)(hd:bH d)(h: ∀p,bc d p->bc c p):et d=true:=by
 cases hq:et d with
 |true=>rfl
 |false=>
  exfalso;obtain⟨u,u0,hu⟩:=Ky hd hq;obtain⟨q,hq⟩:=hd.ne;refine u0 (aBY hc ha hb fun s hs=>?_);by_cases k:0<=s.l.nor.dot u
  ·exact k
  ·exfalso
   have k':0< -(s.l.nor.dot u):=by grind
   have v0:=h q hq s hs;obtain⟨T,hT⟩: ∃T,T=s.l.value q/ -(s.l.nor.dot u):=⟨_,rfl⟩;have e:T* -(s.l.nor.dot u)=s.l.value q:=by rw[hT];generalize s.l.nor.dot u=z at*;grind
   have T0:0<T:=(jv k').1 (by rw[e];exact v0);have hin:bc d (ck q u T):=fun w hw=>by
    rw[jl];have a:=hq w hw;have b:=di (cM T0) (hu w hw);grind
   have:=h _ hin s hs;rw[jl] at this;grind
def qc(f:ab->ab->Rat):Prop:= ∀(l:aa) (a b c:Rat),l.Ne->f (l.at a) (l.at c)=f (l.at a) (l.at b)+f (l.at b) (l.at c)
def qc.self{f:ab->ab->Rat}(hf:qc f){l:aa}(hl:l.Ne)(a b:Rat):f (l.at a) (l.at b)+f (l.at b) (l.at a)=0:=by
 have h1:=hf l a a a hl;have h2:=hf l a b a hl;grind
def iC(f:ab->ab->Rat)(s:bj):Rat:=f (s.l.at s.v.lo) (s.l.at s.v.hi)
def Ht{l:aa}(hl:l.Ne)(t:Rat):l.rev.at t=l.at (-t):=by
 have hr:l.rev.Ne:=fun h=>hl ⟨by have:=h.1;unfold aa.rev at this;simp only at this;omega,by have:=h.2;unfold aa.rev at this;simp only at this;omega⟩;obtain⟨q,q1,q2⟩:=wX hl;obtain⟨r,r1,r2⟩:=wX hr;have hn:=q7 hl;have e:r= -q:=by
  have a:l.nor.dot l.nor*(r+q)=0:=by
   have:l.rev.nor.dot l.rev.nor=l.nor.dot l.nor:=by unfold aa.rev aa.nor ab.dot;simp only[jR];grind
   rw[this] at r1;unfold aa.rev at r1;simp only[jR] at r1;grind
  rcases gK.1 a with k|k
  ·grind
  ·grind
 unfold aa.at;rw[q2,r2,e];unfold aa.rev aa.dir ab.add ab.scale;simp only[jR,ab.mk.injEq];constructor<;>grind
def HZ(l m:aa):l.cutK m.rev= -l.cutK m/\l.cutC m.rev= -l.cutC m:=by
 unfold aa.cutK aa.cutC;rw[dx];refine⟨?_,J⟩;unfold aa.rev aa.nor ab.dot;simp only[jR];grind
def Q1{f:ab->ab->Rat}(hf:qc f){l m:aa}(hl:l.Ne){v:ah}(hv:v.Pos)(nl:v.nl=false)(nh:v.nh=false)(hk:0<l.cutK m):
  (if l.cutB v m then iC f ⟨l,l.cutV v m⟩ else 0)+(if l.cutB v m.rev then iC f ⟨l,l.cutV v m.rev⟩ else 0)=iC f ⟨l,v⟩:=by
 obtain⟨r1,r2⟩:=HZ l m;obtain⟨u1,u2⟩:=xS v hk;obtain⟨d1,d2⟩:=xm (l:=l) (m:=m.rev) v (by rw[r1];grind);rw[r1,r2] at d1;have ex: -(-l.cutC m/ -l.cutK m)= -(l.cutC m/l.cutK m):=by generalize l.cutC m=C at*;generalize l.cutK m=K at*;grind
 rw[ex] at d1;generalize-(l.cutC m/l.cutK m)=x at*;have lt:v.lo<v.hi:=by unfold ah.Pos at hv;rw[nl,nh] at hv;simpa using hv
 have m1:l.cutV v m=⟨if v.lo<x then x else v.lo,v.hi,false,false⟩:=by rw[u1];unfold ah.meet;simp[nl,nh]
 have m2:l.cutV v m.rev=⟨v.lo,if x<v.hi then x else v.hi,false,false⟩:=by rw[d1];unfold ah.meet;simp[nl,nh]
 rw[m1] at u2;rw[m2] at d2;have p1:l.cutB v m=true↔(if v.lo<x then x else v.lo)<v.hi:=u2.trans (by unfold ah.Pos;simp);have p2:l.cutB v m.rev=true↔v.lo<(if x<v.hi then x else v.hi):=d2.trans (by unfold ah.Pos;simp);rw[m1,m2];have h1:=hf l v.lo x v.hi hl;unfold iC;dsimp only;by_cases k1:v.lo<x
 ·by_cases k2:x<v.hi
  ·rw[if_pos k1] at p1
   rw[if_pos k2] at p2;rw[if_pos (p1.2 k2),if_pos (p2.2 k1),if_pos k1,if_pos k2];grind
  ·rw[if_pos k1] at p1
   rw[if_neg k2] at p2;rw[if_neg (fun h=>k2 (p1.1 h)),if_pos (p2.2 lt),if_neg k2];grind
 ·rw[if_neg k1] at p1
  have k2:x<v.hi:=by grind
  rw[if_pos k2] at p2;rw[if_pos (p1.2 lt),if_neg (fun h=>k1 (p2.1 h)),if_neg k1];grind
def Wk{f:ab->ab->Rat}(hf:qc f){l m:aa}(hl:l.Ne){v:ah}(hv:v.Pos)(nl:v.nl=false)(nh:v.nh=false)(h0: ¬(l.cutK m=0/\l.cutC m=0)):
  (if l.cutB v m then iC f ⟨l,l.cutV v m⟩ else 0)+(if l.cutB v m.rev then iC f ⟨l,l.cutV v m.rev⟩ else 0)=iC f ⟨l,v⟩:=by
 rcases kv (l.cutK m) with k|k|k
 ·obtain⟨r1,r2⟩:=HZ l m
  obtain⟨u1,u2⟩:=vA v k;obtain⟨d1,d2⟩:=vA (l:=l) (m:=m.rev) v (by rw[r1,k];rfl);rw[r2] at d2;rw[u1,d1];rcases kv (l.cutC m) with c|c|c
  ·exact absurd ⟨k,c⟩ h0
  ·rw[if_pos (u2.2 c),if_neg (fun h=>by have:=d2.1 h;grind)];grind
  ·rw[if_neg (fun h=>by have:=u2.1 h;grind),if_pos (d2.2 (by grind))];grind
 ·exact Q1 hf hl hv nl nh k
 ·have:=Q1 (m:=m.rev) hf hl hv nl nh (by rw[(HZ l m).1];grind)
  rw[z7] at this;rw[<-this];grind
def QN{f:ab->ab->Rat}(hf:qc f){m:aa}: ∀{c:ao},(∀s∈c,s.l.Ne/\s.v.Pos/\s.v.nl=false/\s.v.nh=false/\ ¬(s.l.cutK m=0/\s.l.cutC m=0))->aB (iC f) (dq m c)+aB (iC f) (dq m.rev c)=aB (iC f) c
 |[],_=>by show(0:Rat)+0=0;grind
 |s::t,h=>by
  have ih:=QN hf (m:=m) (c:=t) fun s hs=>h s (aJ _ hs);obtain⟨h1,h2,h3,h4,h5⟩:=h s aQ;have hp:=Wk hf h1 h2 h3 h4 h5;have e: ∀n:aa,aB (iC f) (dq n (s::t))=(if s.l.cutB s.v n then iC f ⟨s.l,s.l.cutV s.v n⟩ else 0)+aB (iC f) (dq n t):=fun n=>by
   rw[dq];split
   ·rfl
   ·grind
  rw[e,e];show _=iC f s+aB (iC f) t;rw[<-ih,show iC f s=iC f ⟨s.l,s.v⟩ from J,<-hp];grind
def Pm(F:bj->Rat)(c:ao)(l:aa)(v:ah):aB F (j' c l v)=F ⟨l,v⟩+aB F c:=by
 have e:=vS F (c.take (gg (jb c l) 0 c.length)) (c.drop (gg (jb c l) 0 c.length));rw[jL] at e;unfold j';rw[vS,aB,e];grind
def To{v w:ah}(hv:v.Pos)(hw:w.Pos)(v1:v.nl=false)(v2:v.nh=false)(w1:w.nl=false)(w2:w.nh=false)(h: ∀t,w.has t↔v.has (-t)):w.lo= -v.hi/\w.hi= -v.lo:=by
 unfold ah.Pos at hv hw;unfold ah.has at h;simp only[v1,v2,w1,w2,iL,false_or] at*;have a:=h w.lo;have b:=h w.hi;have c:=h (-v.lo);have d:=h (-v.hi);grind
def eH(f:ab->ab->Rat)(c:ao):Rat:=AZ f (il (c.map (·.l)))
def j0(f:ab->ab->Rat)(t:Tr)(c:ao):Rat:=aB (fun x:Bool×ao=>if x.1 then eH f x.2 else 0) (t.parts c)
def KH{c d:ao}(hc:bH c)(ka:f9 c)(hd:bH d)(kd:f9 d)(h: ∀p,bc c p↔bc d p):c.map (·.l)=d.map (·.l):=by
 have e: ∀p,bc d p↔cF (d.map (·.l)) p:=fun p=>⟨fun h m hm=>by obtain⟨s,hs,rfl⟩:=bV.1 hm;exact h s hs,fun h s hs=>h _ (eX hs)⟩;have ok: ∀l∈d.map (·.l),l.ok:=fun l hl=>by obtain⟨s,hs,rfl⟩:=bV.1 hl;exact hd.ok s hs
 rw[<-Gj ok hd kd e,<-Gj ok hc ka fun p=>(h p).trans (e p)]
def Ng{c:ao}{l:aa}(hl:l.ok){q r:ab}(hq:bc c q)(hr:bc c r)(q0:0<l.value q)(r0:l.value r<0): ∃v,jw c l=some v:=by
 cases hp:jw c l with
 |some v=>exact⟨v,J⟩
 |none=>
  exfalso;have e:l.value q/(l.value q-l.value r)*(l.value q-l.value r)=l.value q:=by generalize l.value q=a at*;generalize l.value r=b at*;grind
  obtain⟨T,hT⟩: ∃T,T=l.value q/(l.value q-l.value r):=⟨_,rfl⟩;rw[<-hT] at e;have T0:0<T:=(jv (k:=l.value q-l.value r) (by grind)).1 (by rw[e];exact q0);have T1:0<1-T:=(jv (k:=l.value q-l.value r) (by grind)).1 (by grind);refine OQ hl.ne hp (hq.seg hr (e:=T) (by grind) (by grind)) ?_;rw[m7];grind
def YN{f:ab->ab->Rat}(hf:qc f){c:ao}(hc:bH c)(ha:f9 c)(hb:et c=true){l:aa}(hl:l.ok){v:ah}(hp:jw c l=some v):eH f c=eH f (bg c l)+eH f (bg c l.rev):=by
 have hr:=hl.rev;obtain⟨⟨q,hq,q0⟩,r,hr',r0⟩:=DW hl.ne hp;obtain⟨w,hw⟩:=Ng (l:=l.rev) hr hr' hq (by rw[dx];grind) (by rw[dx];grind);have b1:bC c l=true:=(eD hc hl).2 ⟨q,hq,q0⟩;have b2:bC c l.rev=true:=(eD hc hr).2 ⟨r,hr',by rw[dx];grind⟩;obtain⟨g1,i1⟩:=fG hc hl b1;obtain⟨g2,i2⟩:=fG hc hr b2;have n1:=HP hc ha hb g1 fun p h=>((i1 p).1 h).1;have n2:=HP hc ha hb g2 fun p h=>((i2 p).1 h).1;have a1:=l6 hc hl ha b1;have a2:=l6 hc hr ha b2;unfold eH;rw[C4 hc ha hb,C4 g1 a1 n1,C4 g2 a2 n2];have e1:bg c l=j' (dq l c) l v:=by unfold bg;rw[hp]
 have e2:bg c l.rev=j' (dq l.rev c) l.rev w:=by unfold bg;rw[hw]
 obtain⟨v1,v2,_⟩:=zt l c _ v tG hp;obtain⟨w1,w2,_⟩:=zt l.rev c _ w tG hw;have x1:=(vi n1).2 ⟨l,v⟩ (by rw[e1];exact oH.2 (.inl J));have x2:=(vi n2).2 ⟨l.rev,w⟩ (by rw[e2];exact oH.2 (.inl J));obtain⟨y1,y2⟩:=To v1 w1 x1.1 x1.2 x2.1 x2.2 fun t=>by
  rw[v2,w2,Ht hl.ne];exact⟨fun h=>⟨A6 _,h.2⟩,fun h=>⟨A6 _,h.2⟩⟩
 have cs:=QN hf (m:=l) (c:=c) fun s hs=>⟨(hc.ok s hs).ne,(hc.edge s hs).1,((vi hb).2 s hs).1,((vi hb).2 s hs).2,fun h0=>by
  have hz: ∀t,l.value (s.l.at t)=0:=fun t=>by rw[j9,h0.1,h0.2];grind
  have p1:=hq s hs;have p2:=hr' s hs;rcases xM hl (hc.ok s hs) hz with k|k
  ·rw[k] at r0;grind
  ·rw[k,dx] at q0;grind⟩
 show aB (iC f) c=aB (iC f) (bg c l)+aB (iC f) (bg c l.rev);rw[e1,e2,Pm,Pm,<-cs];have e3:iC f ⟨l.rev,w⟩=f (l.at v.hi) (l.at v.lo):=by
  unfold iC;dsimp only;rw[Ht hl.ne,Ht hl.ne,y1,y2];congr 2<;>grind
 have e4:=hf.self hl.ne v.lo v.hi;rw[e3];unfold iC at*;dsimp only at*;grind
def fy(f:ab->ab->Rat)(t:Tr)(c:ao)(l:aa):Rat:=if bC c l then j0 f t (bg c l) else 0
def ye(f:ab->ab->Rat)(b:Bool)(c:ao):j0 f (.leaf b) c=if b then eH f c else 0:=by
 show(if b then eH f c else 0)+0=_;grind
def yR(f:ab->ab->Rat)(k:aa)(x y:Tr)(c:ao):j0 f (.node k x y) c=fy f x c k+fy f y c k.rev:=by
 unfold j0 fy;rw[Tr.parts,vS];congr 1
 ·split<;>rfl
 ·split<;>rfl
def azl{a b:Bool}(h:a=true↔b=true):a=b:=by cases a<;>cases b<;>simp_all
def Ec(f:ab->ab->Rat): ∀{t:Tr} {c d:ao},t.all aa.ok->bH c->f9 c->bH d->f9 d->(∀p,bc c p↔bc d p)->j0 f t c=j0 f t d
 | .leaf b,c,d,_,hc,ka,hd,kd,h=>by
  rw[ye,ye];unfold eH;rw[KH hc ka hd kd h]
 | .node k x y,c,d,⟨hk,hx,hy⟩,hc,ka,hd,kd,h=>by
  have key: ∀{t:Tr} {l:aa},l.ok->(∀{c d:ao},bH c->f9 c->bH d->f9 d->(∀p,bc c p↔bc d p)->j0 f t c=j0 f t d)->fy f t c l=fy f t d l:=fun{t l} hl ih=>by
   have e:bC c l=bC d l:=azl (by
    rw[eD hc hl,eD hd hl];constructor
    ·rintro ⟨p,h1,h2⟩;exact⟨p,(h p).1 h1,h2⟩
    ·rintro ⟨p,h1,h2⟩;exact⟨p,(h p).2 h1,h2⟩)
   unfold fy;rw[e];split
   ·rename_i hb
    have hb':=hb;rw[<-e] at hb';obtain⟨g1,i1⟩:=fG hc hl hb';obtain⟨g2,i2⟩:=fG hd hl hb;exact ih g1 (l6 hc hl ka hb') g2 (l6 hd hl kd hb) fun p=>by rw[i1,i2,h]
   ·rfl
  rw[yR,yR,key hk (Ec f hx),key hk.rev (Ec f hy)]
def OY(f:ab->ab->Rat){t:Tr}(ht:t.all aa.ok){c:ao}(hc:bH c)(ha:f9 c){k l:aa}(hk:k.ok)(hl:l.ok):(if bC c k then fy f t (bg c k) l else 0)=if bC c l then fy f t (bg c l) k else 0:=by
 have ex: ∀{k l:aa},k.ok->l.ok->((bC c k=true/\bC (bg c k) l=true)↔ ∃p,bc c p/\0<k.value p/\0<l.value p):=fun{k l} hk hl=>by
  constructor
  ·rintro ⟨h1,h2⟩
   obtain⟨g,i⟩:=fG hc hk h1;obtain⟨p,h3,h4⟩:=(eD g hl).1 h2;exact⟨p,((i p).1 h3).1,((i p).1 h3).2,h4⟩
  ·rintro ⟨p,h1,h2,h3⟩
   have hb:=(eD hc hk).2 ⟨p,h1,h2⟩;obtain⟨g,i⟩:=fG hc hk hb;exact⟨hb,(eD g hl).2 ⟨p,(i p).2 ⟨h1,h2⟩,h3⟩⟩
 have e: ∀{k l:aa},(if bC c k then fy f t (bg c k) l else 0)=if bC c k=true/\bC (bg c k) l=true then j0 f t (bg (bg c k) l) else 0:=fun{k l}=>by
  unfold fy;by_cases h1:bC c k=true
  ·by_cases h2:bC (bg c k) l=true
   ·rw[if_pos h1,if_pos h2,if_pos ⟨h1,h2⟩]
   ·rw[if_pos h1,if_neg h2,if_neg (fun h=>h2 h.2)]
  ·rw[if_neg h1,if_neg (fun h=>h1 h.1)]
 rw[e,e];by_cases hx: ∃p,bc c p/\0<k.value p/\0<l.value p
 ·have h1:=(ex hk hl).2 hx
  have h2:=(ex hl hk).2 (by obtain⟨p,a,b,c⟩:=hx;exact⟨p,a,c,b⟩);rw[if_pos h1,if_pos h2];obtain⟨g1,i1⟩:=fG hc hk h1.1;obtain⟨g2,i2⟩:=fG g1 hl h1.2;obtain⟨g3,i3⟩:=fG hc hl h2.1;obtain⟨g4,i4⟩:=fG g3 hk h2.2;refine Ec f ht g2 (l6 g1 hl (l6 hc hk ha h1.1) h1.2) g4 (l6 g3 hk (l6 hc hl ha h2.1) h2.2) fun p=>?_;rw[i2,i1,i4,i3,and_assoc,and_assoc,and_comm (a:=0<k.value p)]
 ·rw[if_neg (fun h=>hx ((ex hk hl).1 h)),if_neg (fun h=>hx (by obtain⟨p,a,b,c⟩:=(ex hl hk).1 h;exact⟨p,a,c,b⟩))]
def lf(t:Tr)(c:ao):Prop:= ∀x∈t.parts c,x.1=true->et x.2=true
def lf.x{k:aa}{x y:Tr}{c:ao}(h:lf (.node k x y) c)(hb:bC c k=true):lf x (bg c k):=fun z hz hi=>h z (by rw[Tr.parts,if_pos hb];exact bU _ hz) hi
def lf.y{k:aa}{x y:Tr}{c:ao}(h:lf (.node k x y) c)(hb:bC c k.rev=true):lf y (bg c k.rev):=fun z hz hi=>h z (by rw[Tr.parts,if_pos hb];exact bL _ hz) hi
def Et: ∀{t:Tr} {c d:ao},t.all aa.ok->bH c->f9 c->bH d->f9 d->(∀p,bc d p->bc c p)->lf t c->lf t d
 | .leaf b,c,d,_,hc,ka,hd,kd,h,hb=>fun x hx hi=>by
  obtain rfl:=aW.1 hx;exact HP hc ka (hb (b,c) aQ hi) hd h
 | .node k x y,c,d,⟨hk,hx,hy⟩,hc,ka,hd,kd,h,hb=>by
  have key: ∀{t:Tr} {l:aa},l.ok->(bC c l=true->lf t (bg c l))->(∀{c d:ao},bH c->f9 c->bH d->f9 d->(∀p,bc d p->bc c p)->lf t c->lf t d)->bC d l=true->lf t (bg d l):=fun{t l} hl hB ih b=>by
   obtain⟨g1,i1⟩:=fG hd hl b;obtain⟨p,h1,h2⟩:=(eD hd hl).1 b;have b':=(eD hc hl).2 ⟨p,h p h1,h2⟩;obtain⟨g2,i2⟩:=fG hc hl b';exact ih g2 (l6 hc hl ka b') g1 (l6 hd hl kd b) (fun q hq=>(i2 q).2 ⟨h q ((i1 q).1 hq).1,((i1 q).1 hq).2⟩) (hB b')
  intro z hz hi;rw[Tr.parts] at hz;rcases bW.1 hz with hz|hz
  ·split at hz
   ·rename_i b;exact key hk hb.x (Et hx) b z hz hi
   ·cases hz
  ·split at hz
   ·rename_i b;exact key hk.rev hb.y (Et hy) b z hz hi
   ·cases hz
def I3{f:ab->ab->Rat}(hf:qc f): ∀{t:Tr} {c:ao},t.all aa.ok->bH c->f9 c->lf t c-> ∀{l:aa},l.ok->j0 f t c=fy f t c l+fy f t c l.rev
 | .leaf b,c,ht,hc,ha,hB,l,hl=>by
  have hr:=hl.rev;unfold fy;rw[ye,ye,ye]
  cases b with
  |false=>simp;grind
  |true=>
   have hb:et c=true:=hB (true,c) aQ J;have one: ∀{m:aa},m.ok->bC c m=true->bC c m.rev=false->eH f c=eH f (bg c m):=fun{m} hm h1 h2=>by
    obtain⟨g,i⟩:=fG hc hm h1;unfold eH;rw[KH hc ha g (l6 hc hm ha h1) fun p=>?_];rw[i];refine⟨fun h=>⟨h,?_⟩,fun h=>h.1⟩;rcases kv (m.value p) with k|k|k
    ·obtain⟨_,q,k1,k2⟩:=y7 hm h k
     have:=(eD hc hm.rev).2 ⟨q,k1,by rw[dx];grind⟩;rw[h2] at this;cases this
    ·exact k
    ·have:=(eD hc hm.rev).2 ⟨p,h,by rw[dx];grind⟩
     rw[h2] at this;cases this
   cases h1:bC c l with
   |true=>cases h2:bC c l.rev with
    |true=>
     obtain⟨q,hq,q0⟩:=(eD hc hl).1 h1;obtain⟨r,hr',r0⟩:=(eD hc hr).1 h2;rw[dx] at r0;obtain⟨v,hp⟩:=Ng hl hq hr' q0 (by grind);simpa using YN hf hc ha hb hl hp
    |false=>have:=one hl h1 h2;simp;grind
   |false=>cases h2:bC c l.rev with
    |true=>have:=one hr h2 (by rw[z7];exact h1);simp;grind
    |false=>
     exfalso;obtain⟨p,hp⟩:=hc.ne;rcases kv (l.value p) with k|k|k
     ·obtain⟨⟨q,k1,k2⟩,_⟩:=y7 hl hp k
      have:=(eD hc hl).2 ⟨q,k1,k2⟩;rw[h1] at this;cases this
     ·have:=(eD hc hl).2 ⟨p,hp,k⟩
      rw[h1] at this;cases this
     ·have:=(eD hc hr).2 ⟨p,hp,by rw[dx];grind⟩
      rw[h2] at this;cases this
 | .node k x y,c,⟨hk,hx,hy⟩,hc,ha,hB,l,hl=>by
  have hr:=hl.rev;have step: ∀{t:Tr} {m:aa},t.all aa.ok->m.ok->(bC c m=true->lf t (bg c m))->(∀{c:ao},bH c->f9 c->lf t c->j0 f t c=fy f t c l+fy f t c l.rev)->fy f t c m=(if bC c l then fy f t (bg c l) m else 0)+(if bC c l.rev then fy f t (bg c l.rev) m else 0):=fun{t m} ht hm hB ih=>by
   rw[<-OY f ht hc ha hm hl,<-OY f ht hc ha hm hr]
   conv=>lhs;unfold fy
   split
   ·rename_i b
    exact ih (fG hc hm b).1 (l6 hc hm ha b) (hB b)
   ·grind
  rw[yR,step hx hk hB.x fun g a b=>I3 hf hx g a b hl,step hy hk.rev hB.y fun g a b=>I3 hf hy g a b hl];have e: ∀n:aa,fy f (.node k x y) c n=(if bC c n then fy f x (bg c n) k else 0)+(if bC c n then fy f y (bg c n) k.rev else 0):=fun n=>by
   conv=>lhs;unfold fy
   split
   ·exact yR f k x y _
   ·grind
  rw[e,e];grind
def IX(f:ab->ab->Rat): ∀{t:Tr} {c:ao} {p:ab},t.all aa.ok->bH c->f9 c->(∀l∈t.lns,¬(bC c l=true/\bC c l.rev=true))->bc c p->eB t.lns p->j0 f t c=if t.val p then eH f c else 0
 | .leaf b,c,p,_,_,_,_,_,_=>by rw[ye];rfl
 | .node k x y,c,p,⟨hk,hx,hy⟩,hc,ha,hn,hp,ho=>by
  have h0:=hn k aQ;have nx: ∀l∈x.lns,¬(bC c l=true/\bC c l.rev=true):=fun l hl=>hn l (aJ _ (bU _ hl));have ny: ∀l∈y.lns,¬(bC c l=true/\bC c l.rev=true):=fun l hl=>hn l (aJ _ (bL _ hl));have one: ∀{t:Tr} {m:aa},t.all aa.ok->m.ok->0<m.value p-> ¬bC c m.rev=true->fy f t c m=j0 f t c:=fun{t m} ht hm h1 h2=>by
   have b:=(eD hc hm).2 ⟨p,hp,h1⟩;obtain⟨g,i⟩:=fG hc hm b;unfold fy;rw[if_pos b];refine Ec f ht g (l6 hc hm ha b) hc ha fun q=>?_;rw[i];refine⟨fun h=>h.1,fun h=>⟨h,?_⟩⟩;rcases kv (m.value q) with k|k|k
   ·obtain⟨_,q,k1,k2⟩:=y7 hm h k
    exact absurd ((eD hc hm.rev).2 ⟨q,k1,by rw[dx];grind⟩) h2
   ·exact k
   ·exact absurd ((eD hc hm.rev).2 ⟨q,h,by rw[dx];grind⟩) h2
  rw[yR];have hl:=ho.l;by_cases k0:0<k.value p
  ·have b:=(eD hc hk).2 ⟨p,hp,k0⟩
   have b': ¬bC c k.rev=true:=fun h=>h0 ⟨b,h⟩;rw[one hx hk k0 b',Tr.val_pos k0,show fy f y c k.rev=0 from by unfold fy;rw[if_neg b'],IX f hx hc ha nx hp ho.x];grind
  ·have k1:0<k.rev.value p:=by rw[dx];grind
   have b:=(eD hc hk.rev).2 ⟨p,hp,k1⟩;have b': ¬bC c k=true:=fun h=>h0 ⟨h,b⟩;rw[one hy hk.rev k1 (by rw[z7];exact b'),Tr.val_neg k0,show fy f x c k=0 from by unfold fy;rw[if_neg b'],IX f hy hc ha ny hp ho.y];grind
def Mf{f:ab->ab->Rat}(hf:qc f){ws:List (Rat×Tr)}(ok: ∀w∈ws,w.2.all aa.ok): ∀{L:List aa} {c:ao},(∀l∈L,l.ok)->bH c->f9 c->(∀w∈ws,lf w.2 c)->(∀w∈ws,∀l∈w.2.lns,l∈L\/ ¬(bC c l=true/\bC c l.rev=true))->(∀p,bc c p->(∀w∈ws,eB w.2.lns p)->aB (fun w=>w.1*(if w.2.val p then 1 else 0)) ws=0)->aB (fun w=>w.1*j0 f w.2 c) ws=0
 |[],c,_,hc,ha,hB,hn,hv=>by
  have okl: ∀l∈ws.flatMap (fun w=>w.2.lns),l.ok:=fun l hl=>by obtain⟨w,hw,h⟩:=gX.1 hl;exact tB (ok w hw) l h
  obtain⟨p,hp,ho⟩:=Ow hc (ws.flatMap fun w=>w.2.lns) okl;have ho': ∀w∈ws,eB w.2.lns p:=fun w hw=>ho.sub fun l hl=>gX.2 ⟨w,hw,hl⟩;have e:aB (fun w:Rat×Tr=>w.1*j0 f w.2 c) ws=aB (fun w=>eH f c*(w.1*(if w.2.val p then 1 else 0))) ws:=uB fun w hw=>by
   rw[IX f (ok w hw) hc ha (fun l hl=>(hn w hw l hl).resolve_left (by simp)) hp (ho' w hw)];split<;>grind
  rw[e,Nk,hv p hp ho'];grind
 |l::L,c,hL,hc,ha,hB,hn,hv=>by
  have hl:=hL l aQ;have half: ∀{m:aa},(m=l\/m=l.rev)->m.ok->aB (fun w:Rat×Tr=>w.1*fy f w.2 c m) ws=0:=fun{m} hml hm=>by
   unfold fy;by_cases b:bC c m=true
   ·obtain⟨g,i⟩:=fG hc hm b
    simp only[b,if_true];refine Mf hf ok (L:=L) (fun x hx=>hL x (aJ _ hx)) g (l6 hc hm ha b) (fun w hw=>Et (ok w hw) hc ha g (l6 hc hm ha b) (fun p h=>((i p).1 h).1) (hB w hw)) (fun w hw x hx=>?_) fun p hp=>hv p ((i p).1 hp).1;have xok:=tB (ok w hw) x hx;have no:x=l-> ¬(bC (bg c m) x=true/\bC (bg c m) x.rev=true):=fun e h=>by
     obtain⟨p,p1,p2⟩:=(eD g xok).1 h.1;obtain⟨q,q1,q2⟩:=(eD g xok.rev).1 h.2;have p3:=((i p).1 p1).2;have q3:=((i q).1 q1).2;rw[dx] at q2;subst e;rcases hml with e|e
     ·rw[e] at q3;grind
     ·rw[e,dx] at p3;grind
    rcases hn w hw x hx with h|h
    ·rcases aY.1 h with h|h
     ·exact .inr (no h)
     ·exact .inl h
    ·refine .inr fun h'=>h ⟨?_,?_⟩
     ·obtain⟨p,p1,p2⟩:=(eD g xok).1 h'.1
      exact(eD hc xok).2 ⟨p,((i p).1 p1).1,p2⟩
     ·obtain⟨p,p1,p2⟩:=(eD g xok.rev).1 h'.2
      exact(eD hc xok.rev).2 ⟨p,((i p).1 p1).1,p2⟩
   ·have: ∀ws:List (Rat×Tr),aB (fun w:Rat×Tr=>w.1*(if bC c m=true then j0 f w.2 (bg c m) else 0)) ws=0:=fun ws=>by
     induction ws with
     |nil=>rfl
     |cons w t ih=>rw[aB,ih,if_neg b];grind
    exact this ws
  have e:aB (fun w:Rat×Tr=>w.1*j0 f w.2 c) ws=aB (fun w=>w.1*fy f w.2 c l+w.1*fy f w.2 c l.rev) ws:=uB fun w hw=>by
   rw[I3 hf (ok w hw) hc ha (hB w hw) hl];grind
  rw[e,Ge,half (.inl J) hl,half (.inr J) hl.rev];grind
def DE{t:Tr}:(bP t).all et=true↔lf t []:=by
 rw[fQ];constructor
 ·intro h x hx hi
  obtain⟨b,c⟩:=x;obtain rfl:b=true:=hi;exact h c (xJ.2 hx)
 ·intro h c hc
  exact h (true,c) (xJ.1 hc) J
def DF(f:ab->ab->Rat)(t:Tr):j0 f t []=aB (eH f) (bP t):=by
 unfold j0 bP;generalize t.parts []=l
 induction l with
 |nil=>rfl
 |cons x l ih=>
  obtain⟨b,c⟩:=x;rw[aB,ih]
  cases b with
  |true=>rw[List.filter_cons_of_pos J,bT,aB,if_pos J]
  |false=>rw[List.filter_cons_of_neg (by simp)];simp;grind
def Jj{f:ab->ab->Rat}(hf:qc f){A B:Tr}(oa:A.all aa.ok)(ob:B.all aa.ok)(ou:(A.mergeQ 1 B []).all aa.ok)(oi:(A.mergeQ 2 B []).all aa.ok)(ba:oC A)(bb:oC B):aB (eH f) (bP A)+aB (eH f) (bP B)=aB (eH f) (bP (A.mergeQ 1 B []))+aB (eH f) (bP (A.mergeQ 2 B [])):=by
 have bu:=DE.1 (tn ou (ba.merge bb oa ob 1));have bi:=DE.1 (tn oi (ba.merge bb oa ob 2));have ba':=DE.1 (tn oa ba);have bb':=DE.1 (tn ob bb);rw[<-DF,<-DF,<-DF,<-DF];have four: ∀{P:Rat×Tr->Prop},P (1,A)->P (1,B)->P (-1,A.mergeQ 1 B [])->P (-1,A.mergeQ 2 B [])-> ∀w∈[((1:Rat),A),(1,B),(-1,A.mergeQ 1 B []),(-1,A.mergeQ 2 B [])],P w:=fun h1 h2 h3 h4 w hw=>by
  simp only[aY,iT,or_false] at hw;rcases hw with rfl|rfl|rfl|rfl
  ·exact h1
  ·exact h2
  ·exact h3
  ·exact h4
 have h:=Mf hf (ws:=[(1,A),(1,B),(-1,A.mergeQ 1 B []),(-1,A.mergeQ 2 B [])]) (four oa ob ou oi) (L:=(A.lns++B.lns)++((A.mergeQ 1 B []).lns++(A.mergeQ 2 B []).lns)) (c:=[]) (fun l hl=>by
   rcases bW.1 hl with h|h
   ·exact(bW.1 h).elim (tB oa l) (tB ob l)
   ·exact(bW.1 h).elim (tB ou l) (tB oi l)) bH.nil (show f9 [] from .nil) (four ba' bb' bu bi) (four (fun l h=> .inl (bU _ (bU _ h))) (fun l h=> .inl (bU _ (bL _ h))) (fun l h=> .inl (bL _ (bU _ h))) (fun l h=> .inl (bL _ (bL _ h)))) (fun p _ ho=>by
   have o1:=ho (1,A) aQ;have o2:=ho (1,B) (aJ _ aQ);have e1:=Tr.val_merge 1 B ob A [] p oa bH.nil (fun s hs=>by cases hs) o1 o2;have e2:=Tr.val_merge 2 B ob A [] p oa bH.nil (fun s hs=>by cases hs) o1 o2;simp only[aB];rw[e1,e2]
   cases A.val p<;>cases B.val p<;>simp[yi]<;>grind)
 simp only[aB] at h;grind
def Zb:qc ab.cross:=fun l a b c hl=>by rw[s6 hl,s6 hl,s6 hl];grind
def yC(l:aa)(t:Rat):l.at t=ck (l.at 0) l.dir t:=by rw[<-wG];congr 1;grind
def ay9:qc fun p q=>(p.x+q.x)*p.cross q:=fun l a b c hl=>by
 dsimp only;rw[s6 hl,s6 hl,s6 hl,yC l a,yC l b,yC l c];unfold ck;dsimp only;grind
def ayt:qc fun p q=>(p.y+q.y)*p.cross q:=fun l a b c hl=>by
 dsimp only;rw[s6 hl,s6 hl,s6 hl,yC l a,yC l b,yC l c];unfold ck;dsimp only;grind
def PW(GB:Gh)(P:Program)(f:FuncId)(l:List (Option DV))(s:Nat)(ty:TypeId)(dsi:List DV)(rv:DV)(dso:List DV):Prop:=
 ∀G w vs B,bD GB G->dG G ⟨w,s,ty,dsi,false⟩ B->IsLs G (fB l w) vs->gO P f vs B G (fun v own' G'=>Is G' rv v/\dG G' ⟨w,s,ty,dso,false⟩ own')
section
variable {GB:Gh} {C:az} {n:Nat} {Q0:Exit->Act->World->Prop} {fr fr':ay} {own own':aE} {cf cf':Cf} {vc:List Prop} {lk:LK} {bk:BM}
variable {dst:Option Nat} {t t' ty':TypeId} {pos:String} {af:Array Edge} {gd:Option (Nat×Bool)} {x y:Operand}
def aKI(fr:ay)(own:aE)(cf:Cf):Option (FuncId×Nat×List (Option DV)×TypeId×Nat×List DV×Bool):=match cw fr cf with
 |some ⟨_, .call ⟨.value fo,args,_⟩,_,_,_,_⟩=>match yJ (bO fr cf) fo args with
  |some (f,nm,l)=>match ik fr own cf nm with
   |some (.b ty s ds lo)=>some (f,nm,l,ty,s,ds,lo)
   |_=>none
  |none=>none
 |_=>none
def aKH(fr:ay)(own:aE)(cf:Cf):Option (Nat×Nat×List DV×Int):=match cw fr cf with
 |some ⟨_, .slice t x (some y) none none,_,_,_,_⟩=>match c9 tt t with
  |some ⟨.sl _ s' _,_,_,_⟩=>match aG (bO fr cf) x with
   |some (.rw nm)=>match ik fr own cf nm with
    |some (.b _ s ds _)=>match aG (bO fr cf) y with
     |some (.d (.v (.int _ i)))=>bif Nat.beq s s' then some (nm,s,ds,i) else none
     |_=>none
    |_=>none
   |_=>none
  |_=>none
 |_=>none
def aKC(fr:ay)(cf:Cf):Option Nat:=match cw fr cf with
 |some ⟨_, .call ⟨.builtin .len,⟨[x]⟩,⟨[t]⟩⟩,_,_,_,_⟩=>match c9 tt t with
  |some ⟨.sl _ _ _,_,_,_⟩=>match aG (bO fr cf) x with
   |some (.rs _ _ _ m)=>some m
   |_=>none
  |_=>none
 |_=>none
def aKe(fr:ay)(cf:Cf):Option (Nat×Nat×Nat×Nat×Int):=match cw fr cf with
 |some ⟨_, .indexAddr t x y,_,_,_,_⟩=>match c9 tt t with
  |some ⟨.sl _ s' _,_,_,_⟩=>match aG (bO fr cf) x with
   |some (.rs nm s off m)=>match aG (bO fr cf) y with
    |some (.d (.v (.int _ i)))=>bif Nat.beq s s' then some (nm,s,off,m,i) else none
    |_=>none
   |_=>none
  |_=>none
 |_=>none
def aJ6(fr:ay)(own:aE)(cf:Cf):Option (Nat×Nat×TypeId×Nat×List DV×Bool×Int):=match cw fr cf with
 |some ⟨some d, .slice t x none (some y) none,_,_,_,_⟩=>match c9 tt t with
  |some ⟨.sl _ s' _,_,_,_⟩=>match aG (bO fr cf) x with
   |some (.rw nm)=>match ik fr own cf nm with
    |some (.b ty s ds lo)=>match aG (bO fr cf) y with
     |some (.d (.v (.int _ i)))=>bif Nat.beq s s'&&!Nat.beq nm d then some (d,nm,ty,s,ds,lo,i) else none
     |_=>none
    |_=>none
   |_=>none
  |_=>none
 |_=>none
def aKq(fr:ay)(own:aE)(cf:Cf):Option (Nat×TypeId×Nat×List DV×Bool×Nat×Nat×DV):=match cw fr cf with
 |some ⟨_, .call ⟨.builtin .clear,⟨[x]⟩,⟨[t]⟩⟩,_,_,_,_⟩=>match c9 tt t with
  |some ⟨.sl e s' _,_,_,_⟩=>match aG (bO fr cf) x with
   |some (.rs nm s off m)=>match ik fr own cf nm with
    |some (.b ty s2 ds lo)=>match c9 tt e with
     |some i=>match oO i with
      |some z=>bif Nat.beq s s'&&(Nat.beq s s2&&Nat.beq z.cells.length s) then some (nm,ty,s,ds,lo,off,m,z) else none
      |none=>none
     |none=>none
    |_=>none
   |_=>none
  |_=>none
 |_=>none
end
section
variable {F:Fence} {n:Nat} {P:Program} {Q:Exit->Act->World->Prop} {ops:Array Oper} {md:Region.Mode}
def JT: ∀{k:Nat} {listed:Array Bool} {a:Act} {w:World},wpAnyIn F n P md ops Q k listed a w->wpAnyIn F n P md ops Q (k+1) listed a w
 |0,_,_,_,h=>⟨fun _=>h.2,fun i hi=>by rw[h.1] at hi;cases hi⟩
 |_+1,_,_,_,h=>⟨h.1,fun i hi=>wpOpIn_mono (fun _ _ k=>JT k) (h.2 i hi)⟩
def ON{k:Nat}{listed:Array Bool}{a:Act}{w:World}(h:wpAnyIn F n P md ops Q k listed a w): ∀j,wpAnyIn F n P md ops Q (j+k) listed a w
 |0=>by rw[dT];exact h
 |j+1=>by rw[show j+1+k=j+k+1 by omega];exact JT (ON h j)
def Bf.lt{l:List Oper}(he:nk 0 l=true){i j:Nat}(h:Bf l i j):j<i:=by
 induction h with
 |b ho hm hb=>have:=rD he _ _ ho _ hm hb;omega
 |s ho hm hb _ ih=>have:=rD he _ _ ho _ hm hb;omega
def Bf.inv{l:List Oper}{i j:Nat}(h:Bf l i j): ∃o e,l[i]? =some o/\e∈o.after/\Region.binds .any e=true/\(e.on=j\/Bf l e.on j):=by
 induction h with
 |b ho hm hb=>exact⟨_,_,ho,hm,hb, .inl J⟩
 |s ho hm hb hh _=>exact⟨_,_,ho,hm,hb, .inr hh⟩
def PU(he:nk 0 ops.toList=true): ∀(r pre:List Oper),ops.toList=pre++r->(∀i,pre.length<=i->i<ops.size-> ∀j,j<i->Bf ops.toList i j)-> ∀(listed:Array Bool) (a:Act) (w:World),(∀j d,listed.getD j d=if j<pre.length then true else if j<ops.size then false else d)->wpListIn F n P ops Q r a w->wpAnyIn F n P .any ops Q r.length listed a w
 |[],pre,hops,_,listed,a,w,hl,h=>by
  refine⟨?_,h⟩;rw[List.eq_nil_iff_forall_not_mem];intro i hi;obtain⟨h1,o,h2,_⟩:=mem_ready.1 hi;have h3:=(fY.1 h2).1;have h4:pre.length=ops.size:=by rw[<-kX,hops];simp
  rw[hl,if_pos (by omega)] at h1
  cases h1
 |o::r,pre,hops,hc,listed,a,w,hl,h=>by
  have hsz:ops.size=pre.length+(r.length+1):=by rw[<-kX,hops];simp
  have hp:ops.toList[pre.length]? =some o:=by rw[hops];simp
  have hp':ops[pre.length]? =some o:=by simpa using hp
  have only: ∀i,i∈Region.ready .any ops listed↔i=pre.length:=fun i=>by
   rw[mem_ready];constructor
   ·rintro ⟨h1,o',h2,h3⟩
    have h4:=(fY.1 h2).1;rw[hl] at h1;split at h1
    ·cases h1
    ·rename_i h5
     apply Classical.byContradiction;intro h6;have hb:=hc i (by omega) h4 pre.length (by omega);obtain⟨o2,e,ho,hm,hb,hh⟩:=hb.inv;have e':o'=o2:=Option.some.inj (h2.symm.trans (by simpa using ho));subst e';have h7:=h3 _ hm hb;have h9:=rD he _ _ ho _ hm hb;have h8:pre.length<=e.on:=by
      rcases hh with hh|hh
      ·omega
      ·have:=hh.lt he;omega
     rw[hl,if_neg (by omega),if_pos (by omega)] at h7
     cases h7
   ·rintro rfl
    refine⟨by rw[hl,if_neg (by omega),if_pos (by omega)],o,hp',fun e hm hb=>?_⟩;have:=rD he _ _ hp _ hm hb;rw[hl,if_pos (by omega)]
  refine⟨fun hn=>?_,fun i hi=>?_⟩
  ·have:=(only pre.length).2 J
   rw[hn] at this;cases this
  ·obtain rfl:=(only i).1 hi
   have ih:=PU he r (pre++[o]) (by rw[hops];simp) (fun i h1 h2=>hc i (by simp at h1;omega) h2) (listed.setIfInBounds pre.length true);have hl': ∀j d,(listed.setIfInBounds pre.length true).getD j d=if j<(pre++[o]).length then true else if j<ops.size then false else d:=fun j d=>by
    have hls:pre.length<listed.size:=by
     apply Classical.byContradiction;intro hq;have h1:=hl pre.length true;rw[if_neg (by omega),if_pos (by omega),bN,oU (by omega)] at h1
     cases h1
    have h1:=hl j d;rw[bN] at h1⊢;rw[dY];by_cases hj:pre.length=j
    ·subst hj;rw[if_pos J,if_pos hls,if_pos (by simp)];rfl
    ·rw[if_neg hj,h1]
     simp only[aV,bZ,fX];by_cases h2:j<pre.length
     ·rw[if_pos h2,if_pos (by omega)]
     ·rw[if_neg h2]
      by_cases h3:j<ops.size
      ·rw[if_pos h3,if_neg (by omega)];
      ·rw[if_neg h3,if_neg (by omega)]
   unfold wpOpIn;rw[hp'];simp only[wpListIn] at h⊢;split
   ·rename_i hw;rw[if_pos hw] at h
    exact Oper.wpIn_mono (fun a w k=>ih a w hl' k) h
   ·rename_i hw;rw[if_neg hw] at h
    exact⟨h.1,ih _ _ hl' h.2⟩
def Bu(F:Fence)(n:Nat)(P:Program)(ops:Array Oper)(r:List Oper)(Q:Exit->Act->World->Prop):Exit->Act->World->Prop
 | .normal=>wpListIn F n P ops Q r
 |e=>Q e
def Tb{o:Oper}{a:Act}{w:World}{r:List Oper}{K:Act->World->Prop}(h:o.wpIn F n P a w K (Bu F n P ops r Q)):o.wpIn F n P a w K Q:=by
 refine⟨h.1,?_⟩;have:=h.2
 cases hr:(o.semAt F.round a.eval).run P w with
 |ok x w'=>
  rw[hr] at this
  cases x with
  |enter f args=>exact⟨this.1,CallsIn.mono this.2 fun e w'' he=>by cases e<;>exact he⟩
  |round l f t x y=>exact⟨this.1,RoundIn.mono this.2 fun e w'' he=>by cases e<;>exact he⟩
  |_=>exact this
 |halt x w'=>
  rw[hr] at this
  cases x<;>exact this
def aD9{pre r:List Oper}(hops:ops.toList=pre++r)(hg: ∀o∈pre,o.guard=none)(he:nk 0 ops.toList=true)(hc: ∀i,pre.length<=i->i<ops.size-> ∀j,j<i->Bf ops.toList i j):
  ∀(fuel:Nat) (L listed:Array Bool) (a:Act) (w:World),L.size=pre.length->(∀j d,listed.getD j d=if j<pre.length then L.getD j d else if j<ops.size then false else d)->(∀i o,ops.toList[i]? =some o->listed.getD i false=true-> ∀e∈o.after,Region.binds .any e=true->listed.getD e.on false=true)->
   wpAnyIn F n P .any pre.toArray (Bu F n P ops r Q) fuel L a w->wpAnyIn F n P .any ops Q (fuel+r.length) listed a w:=by
 have hsz:ops.size=pre.length+r.length:=by rw[<-kX,hops];simp
 have hget: ∀i,i<pre.length->ops[i]? =pre.toArray[i]? :=fun i hi=>by rw[<-pK,hops,dR hi];simp
 -- all of the first part is done
 have fin: ∀(L listed:Array Bool) (a:Act) (w:World),L.size=pre.length->(∀j d,listed.getD j d=if j<pre.length then L.getD j d else if j<ops.size then false else d)->Region.ready .any pre.toArray L=[]->wpListIn F n P ops Q r a w->wpAnyIn F n P .any ops Q r.length listed a w:=by
  intro L listed a w hL hl hr h;have all: ∀i,i<pre.length->L.getD i true=true:=by
   intro i
   induction i using Nat.strongRecOn with
   |ind i ih=>
    intro hi
    cases hq:L.getD i true with
    |true=>rfl
    |false=>
     have:i∈Region.ready .any pre.toArray L:=mem_ready.2 ⟨hq,pre[i],by simp[hi],fun e hm hb=>by
      have hlt:=rD he i pre[i] (by rw[hops,dR hi];simp[hi]) e hm hb;have:=ih e.on (by omega) (by omega);rw[bN,gV (by omega)] at this⊢;simpa using this⟩
     rw[hr] at this;cases this
  refine PU he r pre hops hc listed a w (fun j d=>?_) h;rw[hl];by_cases hj:j<pre.length
  ·have:=all j hj
   rw[if_pos hj,if_pos hj];rw[bN,gV (by omega)] at this⊢;simpa using this
  ·rw[if_neg hj,if_neg hj]
 intro fuel
 induction fuel with
 |zero=>
  intro L listed a w hL hl hcl h;rw[dT];exact fin L listed a w hL hl h.1 h.2
 |succ fuel ih=>
  intro L listed a w hL hl hcl h;by_cases hr:Region.ready .any pre.toArray L=[]
  ·exact ON (fin L listed a w hL hl hr (h.1 hr)) (fuel+1)
  ·have sub: ∀i,i∈Region.ready .any pre.toArray L->i∈Region.ready .any ops listed:=fun i hi=>by
    obtain⟨h1,o,h2,h3⟩:=mem_ready.1 hi;have hi':i<pre.length:=by have:=(fY.1 h2).1;simpa using this
    refine mem_ready.2 ⟨by rw[hl,if_pos hi'];exact h1,o,by rw[hget i hi'];exact h2,fun e hm hb=>?_⟩;have hlt:=rD he i o (by rw[hops,dR hi'];simpa using h2) e hm hb;rw[hl,if_pos (by omega)];exact h3 e hm hb
   have sup: ∀i,i∈Region.ready .any ops listed->i∈Region.ready .any pre.toArray L:=fun i hi=>by
    obtain⟨h1,o,h2,h3⟩:=mem_ready.1 hi;have h4:=(fY.1 h2).1;by_cases hi':i<pre.length
    ·rw[hl,if_pos hi'] at h1
     refine mem_ready.2 ⟨h1,o,by rw[<-hget i hi'];exact h2,fun e hm hb=>?_⟩;have hlt:=rD he i o (by simpa using h2) e hm hb;have:=h3 e hm hb;rw[hl,if_pos (by omega)] at this;exact this
    ·exfalso
     obtain⟨j,hj⟩:=List.exists_mem_of_ne_nil _ hr;obtain⟨g1,o2,g2,_⟩:=mem_ready.1 hj;have hj':j<pre.length:=by have:=(fY.1 g2).1;simpa using this
     have clo: ∀i j,Bf ops.toList i j->listed.getD i false=true->listed.getD j false=true:=fun i j hb=>by
      induction hb with
      |b ho hm hb=>intro hi;exact hcl _ _ ho hi _ hm hb
      |s ho hm hb _ ih=>intro hi;exact ih (hcl _ _ ho hi _ hm hb)
     have hjf:listed.getD j false=false:=by
      rw[hl,if_pos hj'];rw[bN,gV (by omega)] at g1⊢;simpa using g1
     have:listed.getD j false=true:=by
      obtain⟨o2,e,ho,hm,hb,hh⟩:=(hc i (by omega) h4 j (by omega)).inv;have e':o=o2:=Option.some.inj (h2.symm.trans (by simpa using ho));subst e';rcases hh with hh|hh
      ·rw[<-hh];exact h3 _ hm hb
      ·exact clo _ _ hh (h3 _ hm hb)
     rw[hjf] at this;cases this
   rw[show fuel+1+r.length=(fuel+r.length)+1 by omega];refine⟨fun hn=>?_,fun i hi=>?_⟩
   ·obtain⟨j,hj⟩:=List.exists_mem_of_ne_nil _ hr
    have:=sub j hj;rw[hn] at this;cases this
   ·have hi0:=sup i hi
    have hk:=h.2 i hi0;obtain⟨h1,o,h2,h3⟩:=mem_ready.1 hi0;have hi':i<pre.length:=by have:=(fY.1 h2).1;simpa using this
    have hgo:o.guard=none:=hg o (by
     have h2':pre[i]? =some o:=by simpa using h2
     exact aL h2')
    have step: ∀a w,wpAnyIn F n P .any pre.toArray (Bu F n P ops r Q) fuel (L.setIfInBounds i true) a w->wpAnyIn F n P .any ops Q (fuel+r.length) (listed.setIfInBounds i true) a w:=by
     intro a w hh;have hls:i<listed.size:=by
      apply Classical.byContradiction;intro hq;have q:=hl i true;have q':=hl i false;rw[if_pos hi'] at q q';rw[bN,oU (by omega)] at q q';rw[bN,gV (by omega)] at q q';simp only[Option.getD_none,lU] at q q';rw[<-q] at q';cases q'
     have hl': ∀j d,(listed.setIfInBounds i true).getD j d=if j<pre.length then(L.setIfInBounds i true).getD j d else if j<ops.size then false else d:=fun j d=>by
      have q:=hl j d;rw[bN] at q⊢;rw[bN] at q⊢;rw[dY,dY];by_cases hj:i=j
      ·subst hj;rw[if_pos J,if_pos J,if_pos hls,if_pos hi',if_pos (by omega)]
      ·rw[if_neg hj,if_neg hj];exact q
     refine ih _ _ a w (by simp[hL]) hl' (fun i2 o2 g1 g2 e hm hb=>?_) hh;have g3:i2=i\/listed.getD i2 false=true:=by
      rw[bN,dY] at g2;by_cases hj:i=i2
      ·exact .inl hj.symm
      ·rw[if_neg hj] at g2;rw[bN];exact .inr g2
     have g4:listed.getD e.on false=true:=by
      rcases g3 with rfl|g3
      ·have e':o=o2:=Option.some.inj (((hget i2 hi').trans h2).symm.trans (by simpa using g1))
       subst e';have hlt:=rD he i2 o g1 e hm hb;rw[hl,if_pos (by omega)];exact h3 e hm hb
      ·exact hcl i2 o2 g1 g3 e hm hb
     rw[bN,dY];by_cases hj:i=e.on
     ·rw[if_pos hj];rw[if_pos hls];rfl
     ·rw[if_neg hj];rw[bN] at g4;exact g4
    unfold wpOpIn at hk⊢;rw[hget i hi',h2];rw[h2] at hk;have hw: ∀y,Region.wanted o y=true:=fun y=>by unfold Region.wanted;rw[hgo]
    simp only[hw,if_true] at hk⊢;exact Tb (Oper.wpIn_mono step hk)
end
section
variable {P:Program} {GB:Gh} {C:az} {n:Nat} {Q0:Exit->Act->World->Prop} {fr fr0:ay} {own own0:aE} {ops:Array Oper} {us:List Rc} {r:List Oper} {K:List Kt} {id:Nat}
def Bz(x:Nat):Nat->Bool
 |0=>true
 |i+1=>x.testBit i&&Bz x i
def Qh{x:Nat}: ∀{i:Nat},Bz x i=true-> ∀j,j<i->x.testBit j=true
 |i+1,h,j,hj=>by
  simp only[Bz,bM] at h;by_cases e:j=i
  ·subst e;exact h.1
  ·exact Qh h.2 j (by omega)
def y5:Nat->List Nat->Bool
 |_,[]=>true
 |i,x::t=>Bz x i&&y5 (i+1) t
def Ok: ∀{l:List Nat} {k:Nat},y5 k l=true-> ∀i x,l[i]? =some x-> ∀j,j<k+i->x.testBit j=true
 |y::t,k,h,0,x,hx,j,hj=>by
  simp only[y5,bM] at h
  cases hx
  exact Qh h.1 j (by omega)
 |y::t,k,h,i+1,x,hx,j,hj=>by
  simp only[y5,bM] at h;exact Ok h.2 i x (by simpa using hx) j (by omega)
def MT: ∀(r:List Oper) (acc:List Nat),(pG r acc).length=acc.length+r.length
 |[],acc=>by simp[pG]
 |o::r,acc=>by simp only[pG];rw[MT];simp;omega
def IY(m:Nat)(pre all:List Oper)(us:List Rc)(fr0:ay)(own0:aE):Bool:=
 (pre.all (fun o=>o.guard.isNone)&&uL (pG pre []) [] us)&&((nk 0 all&&y5 m ((pG all []).drop m))&&Cc us fr0 own0)
def Yn(hm:P.follows .mixedOrders=true)(h:IY us.length (ops.toList.take us.length) ops.toList us fr0 own0=true)(k:av P GB C n Q0 fr own (.ops ops r K)):av P GB C n Q0 fr own (.dr id ops fr0 own0 us r K):=by
 intro D;obtain⟨pre,hp,hl⟩:=D.pre;have ht:ops.toList.take us.length=pre:=by rw[hp,<-hl];simp
 rw[ht] at h;simp only[IY,bM] at h;obtain⟨⟨h1,h2⟩,⟨h3,h4⟩,h5⟩:=h;have hg: ∀o∈pre,o.guard=none:=fun o ho=>by simpa using fQ.1 h1 o ho
 have hgt: ∀i,i<pre.length->ops[i]? =pre.toArray[i]? :=fun i hi=>by rw[<-pK,hp,dR hi];simp
 have hc: ∀i,pre.length<=i->i<ops.size-> ∀j,j<i->Bf ops.toList i j:=fun i g1 g2 j g3=>by
  refine FQ ops.toList [] [] J J (fun i j h=>by simp at h) i j ?_;have hlen:=MT ops.toList [];have hi:i<(pG ops.toList []).length:=by rw[hlen];simpa using g2
  rw[aX,aZ hi];refine Ok h4 (i-us.length) _ ?_ j (by omega);rw[mL,show us.length+(i-us.length)=i by omega];exact aZ hi
 have he':nk 0 pre=true:=by
  have: ∀(l l':List Oper) (k:Nat),nk k (l++l')=true->nk k l=true:=by
   intro l l'
   induction l with
   |nil=>intros;rfl
   |cons o t ih=>intro k h;simp only[iV,nk,bM] at h⊢;exact⟨h.1,ih _ h.2⟩
  exact this pre r 0 (by rw[<-hp];exact h3)
 have D':js P GB C n pre.toArray us (aI fr0,aP own0):=by
  refine⟨by simpa using hl.symm,fun i u o hu ho=>?_,by simpa using h2,by simpa using he',NK h5⟩;have hi:i<pre.length:=by have:=(fY.1 ho).1;simpa using this
  obtain⟨d1,d2⟩:=D.snd i u o hu (by rw[hgt i hi];exact ho);refine⟨d1,fun Q tl tb K s1 s2 hf hk=>?_⟩;refine(d2 Q tl tb K s1 s2 hf hk).imp fun a w q=>?_;have hgo:o.guard=none:=hg o (aL (by simpa using ho));have hw: ∀y,Region.wanted o y=true:=fun y=>by unfold Region.wanted;rw[hgo]
  unfold wO at q⊢;simp only[hw,if_true] at q⊢;exact q
 have e:cp (dw (Array.replicate pre.length false)) 0 (aI fr0,aP own0) us=(aI fr0,aP own0):=by
  have: ∀(l:List Rc) (k:Nat) (s:ST),cp (dw (Array.replicate pre.length false)) k s l=s:=fun l=>by
   induction l with
   |nil=>intro k s;rfl
   |cons y l ih=>
    intro k s;simp only[cp];rw[ih];rw[Df];rfl
  exact this us 0 _
 have hw:=D'.walk (Q:=Bu (FW C.rd) 0 P ops r (cQ C.rd P Q0 K)) (by rw[D.st];exact k) pre.toArray.size (Array.replicate pre.length false) (by simp) (fun i o _ hi=>by rw[Df] at hi;cases hi) (by unfold un;exact cY (lY _ _) (by simp));rw[e] at hw;refine hw.drew.imp fun a w q=>wpIn_region_any hm ?_;have hsz:ops.size=pre.toArray.size+r.length:=by rw[<-kX,hp];simp
 rw[show wpAnyIn (FW C.rd) 0 P .any ops (cQ C.rd P Q0 K) ops.size=wpAnyIn (FW C.rd) 0 P .any ops (cQ C.rd P Q0 K) (pre.toArray.size+r.length) by rw[hsz]];refine aD9 hp hg h3 hc _ _ _ _ _ (by simp) (fun j d=>?_) (fun i o _ hi=>?_) q
 ·have hs2:ops.size=pre.length+r.length:=by simpa using hsz
  simp only[bN,qY];by_cases g1:j<pre.length
  ·rw[if_pos (by omega),if_pos g1,if_pos g1]
  ·by_cases g2:j<ops.size
   ·rw[if_pos g2,if_neg g1,if_pos g2];rfl
   ·rw[if_neg g2,if_neg g1,if_neg g2];rfl
 ·simp only[bN,qY] at hi
  split at hi<;>cases hi
end
section
variable {GB:Gh} {C:az} {n:Nat} {Q0:Exit->Act->World->Prop} {fr fr0 fr':ay} {own own0 own':aE} {cf':Cf} {vc:List Prop} {ops:Array Oper} {us:List Rc} {r:List Oper} {K:List Kt} {id:Nat}
def Y0[fu:Fu](h:IY us.length (ops.toList.take us.length) ops.toList us fr0 own0=true)(hgo:go tt n fu.n [] fr own (.ops ops r K)=⟨vc,fr',own',cf'⟩)(k:av prog GB C n Q0 fr' own' cf')
  (hv:ac vc:=by first|exact trivial|(simp only[ac];kernel_rfl)|(simp only[ac];omega)):av prog GB C n Q0 fr own (.dr id ops fr0 own0 us r K):=
 Yn follows h (gj hgo hv k)
end
def FL(o:Obj):Prop:= ∀cs ty z,o≠ .cells cs ty z
section
variable {C C':az} {own:List ak} {G G1:Gh} {w w1:World}
def bz.ctx(h:bz C own G w)(h1:C'.w0=C.w0)(h2:C'.G0=C.G0)(h3:C'.mb=C.mb)(h4: ∀p∈C'.ex,p∈C.ex):bz C' own G w:=by
 obtain⟨a1,a2,a3,a4,a5,a6,a7,a8,a9,a10,a11,a12⟩:=h;exact⟨by rw[h1];exact a1,by rw[h1];exact a2,by rw[h1];exact a3,by rw[h1];exact a4,by rw[h1,h3];exact a5,a6,by rw[h2];exact a7,by rw[h1,h2];exact a8,by rw[h1,h3];exact a9,a10,by rw[h1];exact a11,fun p hp=>a12 p (h4 p hp)⟩
def bz.addx(h:bz C own G w){o:Obj}(ho:FL o)(h1:C'.w0=C.w0)(h2:C'.G0=C.G0)(h3:C'.mb=C.mb)(h4: ∀p∈C'.ex,p=(w.heap.size,o)\/p∈C.ex):bz C' own G (w.alloc o):=by
 have old: ∀b,b<w.heap.size->(w.alloc o).heap[b]? =w.heap[b]? :=fun b hb=>RowKit.Below.heap_alloc _ _ _ hb;obtain⟨a1,a2,a3,a4,a5,a6,a7,a8,a9,a10,a11,a12⟩:=h;refine⟨by rw[h1];exact a1,by rw[h1];exact a2,by rw[h1];exact a3,by rw[h1];simp;omega,?_,?_,by rw[h2];exact a7,by rw[h1,h2];exact a8,?_,a10,by rw[h1];exact a11,?_⟩
 ·rw[h1,h3];intro b hb hm;rw[old b (by omega)];exact a5 b hb hm
 ·intro b cs hb
  obtain⟨ty,fz,hc⟩:=a6 b cs hb;exact⟨ty,fz,by rw[old b (iq hc)];exact hc⟩
 ·rw[h1,h3];intro x hx
  obtain⟨b1,b2⟩:=a9 x hx;exact⟨by rw[old _ (iq b1)];exact b1,b2⟩
 ·intro p hp
  rcases h4 p hp with rfl|hp
  ·exact⟨ho,World.alloc_heap_new w o⟩
  ·exact⟨(a12 p hp).1,by rw[old _ (iq (a12 p hp).2)];exact(a12 p hp).2⟩
def bz.putx(h:bz C own G w){l:Nat}{o0 o:Obj}(hl:(l,o0)∈C.ex)(hs:C.w0.heap.size<=l)(ho:FL o)(h1:C'.w0=C.w0)(h2:C'.G0=C.G0)(h3:C'.mb=C.mb)(h4: ∀p∈C'.ex,p=(l,o)\/p∈C.ex/\p.1≠l):bz C' own G (w.putObj l o):=by
 have hne: ∀{b:Nat} {cs:Array Value} {ty:TypeId} {z:Nat×Nat},w.heap[b]? =some (.cells cs ty z)->b≠l:=fun hb e=>h.extNe hl hb e.symm;have hlt:=iq (h.ext _ hl).2;obtain⟨a1,a2,a3,a4,a5,a6,a7,a8,a9,a10,a11,a12⟩:=h;refine⟨by rw[h1];exact a1,by rw[h1];exact a2,by rw[h1];exact a3,by rw[h1];simpa using a4,?_,?_,by rw[h2];exact a7,by rw[h1,h2];exact a8,?_,a10,by rw[h1];exact a11,?_⟩
 ·rw[h1,h3];intro b hb hm;rw[World.putObj_heap_other (by omega)];exact a5 b hb hm
 ·intro b cs hb
  obtain⟨ty,fz,hc⟩:=a6 b cs hb;exact⟨ty,fz,by rw[World.putObj_heap_other (hne hc)];exact hc⟩
 ·rw[h1,h3];intro x hx
  obtain⟨b1,b2⟩:=a9 x hx;exact⟨by rw[World.putObj_heap_other (hne b1)];exact b1,b2⟩
 ·intro p hp
  rcases h4 p hp with rfl|⟨hp,hpl⟩
  ·exact⟨ho,World.putObj_heap_same hlt⟩
  ·exact⟨(a12 p hp).1,by rw[World.putObj_heap_other hpl];exact(a12 p hp).2⟩
end
abbrev nD (w:World) (G:Gh):az:=⟨w,G,[],[],[],none,fun _=>none⟩
def FM(G:Gh)(w:World):Prop:= ∀b cs,G b=some cs-> ∃ty fz,w.heap[b]? =some (.cells ⟨cs⟩ ty fz)
structure NG (Jv:Gh->World->Prop):Prop where
 frz: ∀G w,Jv G w->FM G w
 on: ∀G w G1 w1,Jv G w->bz (nD w G) [] G1 w1->Jv G1 w1
def Jk{G:Gh}{w:World}(h:FM G w):bz (nD w G) [] G w:=
 ⟨J,J,J,aN _,fun _ _ _=>J,h,bD.refl _,fun _ _=>J,fun o ho=>(by cases ho), .nil,aN _,fun p hp=>by cases hp⟩
structure zp (GB:Gh) (P:Program) (l:Nat) (Jv:Nat->Gh->World->Prop) (Jx:Gh->World->Prop) (E:List (List DV)):Prop where
 st: ∀k,NG (Jv k)
 sx:NG Jx
 yd: ∀k e G w ys,E[k]? =some e->bD GB G->Jv k G w->IsLs G e ys->YieldAt (FW none) 0 P l ⟨ys⟩ w fun e w'=> ∃G',bD G G'/\(e= .returned (.bool true)/\Jv (k+1) G' w'\/e= .returned (.bool false)/\Jx G' w')
structure It (GB:Gh) (P:Program) (f:FuncId) (ds:List DV) (E:List (List DV)):Prop where
 able:ui P f
 run: ∀(l:Nat) (Jv:Nat->Gh->World->Prop) (Jx:Gh->World->Prop) (GB':Gh),bD GB GB'->zp GB' P l Jv Jx E-> ∀w vs,Jv 0 GB' w->IsLs GB' ds vs->
  CallsIn (FW none) 0 P f ⟨.func (.yield l) #[] #[]::vs⟩ w fun e w'=> ∃G',bD GB' G'/\(∃v,e= .returned v)/\(Jv E.length G' w'\/Jx G' w')
structure Pl (C:az):Prop where
 mb:C.mb=[]
 mks:C.mks=[]
 rd:C.rd=none
def HL(P:Program)(fb:Func)(GB:Gh)(Jv:Nat->Gh->World->Prop)(Jx:Gh->World->Prop)(N:Nat):Exit->Act->World->Prop:=
 bodyPost P fb fun e w'=> ∃G',bD GB G'/\(∃v,e= .returned v)/\(Jv N G' w'\/Jx G' w')
section
variable {GB:Gh} {C:az} {n:Nat} {Q0:Exit->Act->World->Prop} {fr fr':ay} {own own':aE} {cf':Cf} {vc:List Prop} {ops:Array Oper} {o:Oper} {r:List Oper} {K:List Kt}
def YI[fu:Fu]{f:FuncId}{fb:Func}{c:Code}{m:Nat}{ds:List DV}{E:List (List DV)}{cf:Nat->Cf}{fr:Nat->ay}{own:Nat->aE}{vc:Nat->List Prop}(hf:prog.funcs[f]? =some fb)(hb:fb.body=some c)(hn:(fb.name== "runtime.NumGoroutine")=false)(hm:fb.ntmps=m)(hlen:Nat.ble (ds.length+1) m=true)
  (hgo: ∀l,go tt m fu.n [] (tf 0 (.v (.func (.yield l) #[] #[])::ds)) [] (.code c [])=⟨vc l,fr l,own l,cf l⟩)
  (k: ∀l Jv Jx GB',bD GB GB'->zp GB' prog l Jv Jx E-> ∀C,Pl C->Jv 0 C.G0 C.w0->av prog GB' C m (HL prog fb GB' Jv Jx E.length) (fr l) (own l) (cf l))
  (hv: ∀l,ac (vc l):=by intros;first|exact trivial|(simp only[ac];kernel_rfl)|(simp only[ac];omega)):It GB prog f ds E:=by
 refine⟨⟨fb,hf,hn,by simp[hb]⟩,fun l Jv Jx GB' hg H w vs hJ hvs=>?_⟩;have hlen':vs.length+1<=m:=by rw[hvs.len];simpa using hlen
 have h:=gj (GB:=GB') (C:=nD w GB') (Q0:=HL prog fb GB' Jv Jx E.length) (hgo l) (hv l) (k l Jv Jx GB' hg H (nD w GB') ⟨J,J,J⟩ hJ);refine callsIn_wide.2 (calls_of_wp hf hb ?_);have hvs':IsLs GB' (.v (.func (.yield l) #[] #[])::ds) (.func (.yield l) #[] #[]::vs):= .cons (aD.2 J) hvs;refine wK J (h.run (fun _=>⟨none,0,0⟩) GB' [] _ w ⟨bD.refl _,Jk ((H.st 0).frz _ _ hJ),by simp;omega,J,fun k f e=>Ak hvs' (fun k v hk=>?_) k f e,(fun nm B e=>by cases e),(fun nm nm' B B' e=>by cases e),fun nm p _ _ e=>by cases e⟩);obtain⟨j,rfl,hj⟩:=wk (.func (.yield l) #[] #[]::vs) 0 k v hk;have hj':=(aS.1 hj).1;rw[lQ (by simpa using hj')];simpa using hj
def bz.pl{ov:List ak}{G:Gh}{w:World}(h:bz C ov G w)(hp:Pl C):bz (nD C.w0 C.G0) [] G w:=
 (h.drop (kM _)).ctx J J hp.mb.symm (fun p hp=>by cases hp)
def Qw{P:Program}{l:Nat}{Jv:Nat->Gh->World->Prop}{Jx:Gh->World->Prop}{E:List (List DV)}{fb:Func}{e:Exit}(H:zp GB P l Jv Jx E)(hp:Pl C)(hJ:Jv E.length C.G0 C.w0\/Jx C.G0 C.w0)(hr:fb.results.toList=[])(he:CT e=true:=by rfl):
  av P GB C n (HL P fb GB Jv Jx E.length) fr own (.ex e []):=by
 refine⟨fun ρ G ov a w r=>?_⟩;have hj:Jv E.length G w\/Jx G w:=hJ.imp (fun h=>(H.st _).on _ _ _ _ h (r.h.pl hp)) fun h=>H.sx.on _ _ _ _ h (r.h.pl hp);have hr':jH P (cB a) ov fb.results.toList []:=by rw[hr];exact .nil
 cases e with
 |ret=>exact⟨r.df.trans hp.mks,_,uc hr' (c7 a) r.h,G,r.gb,⟨_,J⟩,hj⟩
 |normal=>exact⟨r.df.trans hp.mks,_,uc hr' (c7 a) r.h,G,r.gb,⟨_,J⟩,hj⟩
 |_=>cases he
def ZW{P:Program}{fo:Operand}{args:Array Operand}{tys:Array TypeId}{vs:List Value}{a:Act}{w:World}{fr:Fr}{l:Nat}{dst:Option Nat}{ty':TypeId}{pos:String}{af:Array Edge}{gd:Option (Nat×Bool)}(hf:mm fr a)(ho:ax fr fo=some (.func (.yield l) ⟨[]⟩ ⟨[]⟩))(hv:fm fr args.toList=some vs):
  (execOp a.eval ⟨dst, .call ⟨.value fo,args,tys⟩,ty',pos,af,gd⟩).run P w=(Instr.yield l ⟨vs⟩).run P w:=by
 have e:args.map a.eval=⟨vs⟩:=by apply Array.ext';simpa using DA hf hv
 simp only[execOp,resolve,bh hf ho,e,Deferred.ofValue];show(invoke (.fn (.yield l) ⟨[]⟩) (⟨[]⟩++⟨vs⟩)).run P w=_;simp only[invoke];rw[show((⟨[]⟩:Array Value)++⟨vs⟩)=⟨vs⟩ by simp]
def ol:ay->ay
 |[]=>[]
 |(k,f)::t=>match f with
  | .ov .. =>ol t
  | .rw .. =>ol t
  | .be .. =>ol t
  | .rs .. =>ol t
  | .bx .. =>ol t
  | .no=>ol t
  |f=>(k,f)::ol t
def Qa(k:Nat):ay->Bool
 |[]=>false
 |(j,_)::t=>Nat.beq j k||Qa k t
def Zh:ay->Bool
 |[]=>true
 |(k,_)::t=>!Qa k t&&Zh t
def MV(fr:ay)(ops:Array Oper)(o:Oper):Option (Nat×List DV×Nat):=match o with
 |⟨some d, .call ⟨.value fo,args,_⟩,_,_,_,none⟩=>match aG (aI fr) fo,evDs (aI fr) args.toList with
  |some (.d (.v (.func (.yield l) ⟨[]⟩ ⟨[]⟩))),some ds=>some (l,ds,d)
  |_,_=>none
 |_=>none
def cy[fu1:Fu][fu2:Fu]{l d k:Nat}{Jv:Nat->Gh->World->Prop}{Jx:Gh->World->Prop}{E:List (List DV)}{ds:List DV}{fr1 fr2:ay}{own1 own2:aE}{cf1 cf2:Cf}{vc1 vc2:List Prop}(frd:ay)(H:zp GB prog l Jv Jx E)(hp:Pl C)(hJ:Jv k C.G0 C.w0)(ha:MV fr ops o=some (l,ds,d))(hE:E[k]? =some ds)(hd:b9 n (some d)=true)
  (hfd:uh frd fr)(hnd:ol frd=frd)
  (g1:go tt n fu1.n [] ((d, .tt)::frd) [] (.ops ops r K)=⟨vc1,fr1,own1,cf1⟩)(g2:go tt n fu2.n [] ((d, .ff)::frd) [] (.ops ops r K)=⟨vc2,fr2,own2,cf2⟩)
  (k1: ∀C',Pl C'->Jv (k+1) C'.G0 C'.w0->av prog GB C' n Q0 fr1 own1 cf1)(k2: ∀C',Pl C'->Jx C'.G0 C'.w0->av prog GB C' n Q0 fr2 own2 cf2)
  (v1:ac vc1:=by first|exact trivial|(simp only[ac];kernel_rfl)|(simp only[ac];omega))(v2:ac vc2:=by first|exact trivial|(simp only[ac];kernel_rfl)|(simp only[ac];omega)):
  av prog GB C n Q0 fr own (.ops ops (o::r) K):=by
 unfold MV at ha;split at ha<;>try (cases ha;done)
 rename_i d0 fo args tys ty pos af;split at ha<;>cases ha;rename_i h1 h2;have nmd: ∀{f:ay},ol f=f-> ∀k x,aI f k=some x->x.nm=none:=by
  have len: ∀f:ay,(ol f).length<=f.length:=fun f=>by
   induction f with
   |nil=>exact aN _
   |cons e t ih=>obtain⟨j,x⟩:=e;cases x<;>simp only[ol,bZ]<;>omega
  intro f
  induction f with
  |nil=>intro _ k x e;cases e
  |cons e t ih=>
   obtain⟨j,y⟩:=e;intro hd k x hx;rw[ke] at hx;have:=len t;split at hx
   ·cases hx
    cases y<;>first|rfl|(have:=congrArg List.length hd;simp only[ol,bZ] at this;omega)
   ·refine ih ?_ k x hx
    cases y<;>first|exact(List.cons.inj hd).2|(have:=congrArg List.length hd;simp only[ol,bZ] at this;omega)
 refine⟨fun ρ G ov a w rl=>?_⟩;have hJG:Jv k G w:=(H.st k).on _ _ _ _ hJ (rl.h.pl hp);obtain⟨y,hy,hy'⟩:=rl.ev h1;rw[(aD (G:=G)).1 hy'] at hy;obtain⟨vs,h3,h4⟩:=rl.evDs h2;obtain⟨fn,tmps,assign,body,hrun,hround⟩:=H.yd k ds G w vs hE rl.gb hJG h4;rw[hp.rd];simp only[wpListIn];rw[if_pos (by rfl)];refine⟨fun _ _=>trivial,?_⟩;have hs: ∀o:Oper,Oper.semAt (FW none).round a.eval o=execOp a.eval o:=fun _=>J;rw[hs,ZW (c7 a) hy h3,hrun];refine⟨fun h=>(by cases h),hround.mono fun e w' he=>?_⟩;obtain⟨G',hg,he⟩:=he;have rel: ∀(b:Bool) (f:FX),(∀ρ,b7 ρ G' f (.bool b))->FM G' w'->bE GB (nD w' G') n (aI ((d,f)::frd)) (aP []) ρ G' [] (a.put (some d) (.bool b)) w':=fun b f hfb hz=>by
  have pa:=rl.putA (dst:=some d) (.bool b) hd;refine⟨rl.gb.trans hg,Jk hz,pa.sz,by rw[pa.df];exact hp.mks,fun k g e=>?_,(fun nm B e=>by cases e),(fun nm nm' B B' e=>by cases e),fun nm p _ _ e=>by cases e⟩;have e':d5 (aI frd) (some d) f k=some g:=by
   rw[ke] at e;simp only[d5];split at e
   ·rename_i hk;rw[if_pos hk];exact e
   ·rename_i hk;rw[if_neg hk];exact e
  refine pa.fx (fun k g _ e=>?_) (hfb ρ) k g e';obtain⟨u,h5,h6⟩:=rl.fx k g (wR hfd k g e);exact⟨u,h5,h6.up hg⟩
 rcases he with⟨rfl,hj⟩|⟨rfl,hj⟩
 ·exact(gj (GB:=GB) (C:=nD w' G') (Q0:=Q0) g1 v1 (k1 (nD w' G') ⟨J,J,J⟩ hj)).run ρ G' [] _ w' (rel true .tt (fun _=>J) ((H.st _).frz _ _ hj))
 ·exact(gj (GB:=GB) (C:=nD w' G') (Q0:=Q0) g2 v2 (k2 (nD w' G') ⟨J,J,J⟩ hj)).run ρ G' [] _ w' (rel false .ff (fun _=>J) (H.sx.frz _ _ hj))
def OP(GB:Gh)(n:Nat){X:Type}(F:X->ay)(I:X->az->Prop)(a:Act)(w:World):Prop:=
 ∃C x ρ G ov,Pl C/\I x C/\bE GB C n (aI (F x)) (aP []) ρ G ov a w
def Lu[fu:Fu]{c:Code}{X:Type}(F:X->ay)(I:X->az->Prop)(μ:X->Nat)(x0:X){cf':X->Cf}{fr':X->ay}{own':X->aE}{vc:X->List Prop}(hp:Pl C)(hI:I x0 C)
  (hgo: ∀x,go tt n fu.n [] (F x) [] (.code c (.ag (OP GB n F (fun y C=>I y C/\μ y<μ x))::K))=⟨vc x,fr' x,own' x,cf' x⟩)
  (round: ∀x C,Pl C->I x C->av prog GB C n Q0 (fr' x) (own' x) (cf' x))(hF:uh (F x0) fr:=by repeat (first|exact trivial|refine And.intro J ?_|refine And.intro (pE J (by first|omega|(dsimp only;omega))) ?_|refine And.intro (pE J (by simp)) ?_))
  (hv: ∀x C,I x C->ac (vc x):=by intros;first|exact trivial|(simp only[ac];kernel_rfl)|(simp only[ac];omega)|(simp only[ac,aK,bQ,aU];omega)):av prog GB C n Q0 fr own (.code (.loop c) K):=by
 refine⟨fun ρ G ov a w r=>?_⟩;have r0:=r.mono (bk:=aP []) (wR hF) (fun k x e=>by cases e);rw[hp.rd];intro b k cs hro hb hrm;have key: ∀m a w,(∃C x ρ G ov,Pl C/\I x C/\μ x=m/\bE GB C n (aI (F x)) (aP []) ρ G ov a w)->
   ∃e a' w',cQ none prog Q0 K e a' w'/\ArrivesIn (Machine.fenced prog (FW none)) prog (lone (b.atR a (.code c:: .inLoop c::k)) cs w) b k cs e a' w':=by
  intro m
  induction m using Nat.strongRecOn with
  |_ m ih=>
   intro a w ⟨C,x,ρ,G,ov,hpc,hx,hm,hr⟩;have h1:=gj (GB:=GB) (C:=C) (Q0:=Q0) (hgo x) (hv x C hx) (round x C hpc hx);have h2:=h1.run ρ G ov a w hr;rw[hpc.rd] at h2;obtain⟨e,a₁,w₁,hq,harr⟩:=h2 b (.inLoop c::k) cs hro hb hrm
   cases e with
   |normal=>
    obtain⟨C',x',ρ',G',ov',hpc',⟨hx',hlt⟩,hr'⟩:=hq;obtain⟨e₂,a₂,w₂,hq₂,harr₂⟩:=ih (μ x') (hm▸hlt) a₁ w₁ ⟨C',x',ρ',G',ov',hpc',hx',rfl,hr'⟩;exact⟨e₂,a₂,w₂,hq₂, .of_steps (StepsIn.trans harr (.one (fenced_calm hb hrm J) stepR_inLoop)) harr₂⟩
   |exit id=>exact⟨_,a₁,w₁,hq, .pass (x:= .inLoop c) J (fun _ _=> .inl (by simp)) harr⟩
   |goto l=>exact⟨_,a₁,w₁,hq, .pass (x:= .inLoop c) J (fun _ _=> .inl (by simp)) harr⟩
   |ret=>exact⟨_,a₁,w₁,hq, .pass (x:= .inLoop c) J (fun _ _=> .inl (by simp)) harr⟩
   |panic ch=>exact⟨_,a₁,w₁,hq, .pass (x:= .inLoop c) J (fun _ _=> .inl (by simp)) harr⟩
   |outgrown=>exact⟨_,a₁,w₁,hq, .pass (x:= .inLoop c) J (fun _ _=> .inl (by simp)) harr⟩
 obtain⟨e,a',w',q,rr⟩:=key (μ x0) a w ⟨C,x0,ρ,G,ov,hp,hI,rfl,r0⟩;exact⟨e,a',w',q, .of_steps (.one (fenced_calm hb hrm J) stepR_loop) rr⟩
def ME{P:Program}{X:Type}{F:X->ay}{I:X->az->Prop}(x:X)(hp:Pl C)(hI:I x C)(hF:uh (F x) fr:=by repeat (first|exact trivial|refine And.intro J ?_|refine And.intro (pE J (by first|omega|(dsimp only;omega))) ?_|refine And.intro (pE J (by simp)) ?_)):av P GB C n Q0 fr own (.ex .normal (.ag (OP GB n F I)::K)):=
 ⟨fun ρ G ov a w r=>⟨C,x,ρ,G,ov,hp,hI,r.mono (wR hF) (fun k x e=>by cases e)⟩⟩
end
section
variable {GB:Gh} {C:az} {n:Nat} {Q0:Exit->Act->World->Prop} {fr fr':ay} {own own':aE} {cf cf':Cf} {vc:List Prop} {ops:Array Oper} {r:List Oper} {K:List Kt}
def aCI{x y:Nat}{Φ:Act->World->Prop}{R:AI}(hfx:C.fx=fun _=>none)(h:yF x y fr own=some R)(hk:SX GB C n (aI R.fr) (aP R.own) Φ):SX GB C n (aI fr) (aP own) Φ:=by
 unfold yF at h;rw[cond_eq_ite] at h;split at h<;>try (cases h;done)
 rename_i hb;have hxy:x≠y:=fun e=>hb (by subst e;simp);rw[Js,Ga] at h;cases h;refine⟨fun ρ G ov a w r=>hk.run (fun k=>if k=y then ρ x else ρ k) G ov a w ?_⟩;have inv: ∀m B,aP (own.map fun e=>(bif Nat.beq e.1 y then x else bif Nat.beq e.1 x then y else e.1,bif Nat.beq e.1 y then none else sd x y e.2)) m=some B-> ∃m0 B0,aP own m0=some B0/\sd x y (some B0)=some B/\(m=y/\m0=x\/m≠y/\m≠x/\m0=m):=fun m B e=>by
  rw[IP hxy] at e;split at e
  ·cases e
  ·rename_i hm
   split at e
   ·cases hl:aP own x with
    |none=>rw[hl] at e;cases e
    |some B0=>rw[hl] at e;exact⟨x,B0,hl,e, .inl ⟨by assumption,J⟩⟩
   ·cases hl:aP own m with
    |none=>rw[hl] at e;cases e
    |some B0=>rw[hl] at e;exact⟨m,B0,hl,e, .inr ⟨by assumption,hm,J⟩⟩
 have rho: ∀m m0,(m=y/\m0=x\/m≠y/\m≠x/\m0=m)->(fun k=>if k=y then ρ x else ρ k) m=ρ m0:=fun m m0 h=>by
  rcases h with⟨h1,h2⟩|⟨h1,_,h2⟩
  ·subst h1 h2;simp
  ·subst h2;exact if_neg h1
 refine⟨r.gb,r.h,r.sz,r.df,fun k f e=>?_,fun m B e=>?_,fun m m' B B' e e' hne=>?_,fun m p _ _ e=>by rw[hfx] at e;cases e⟩
 ·rw[BE] at e
  cases hf:aI fr k with
  |none=>rw[hf] at e;cases e
  |some g=>
   rw[hf] at e;cases e;obtain⟨v,h1,h2⟩:=r.fx k g hf;exact⟨v,h1,Hi hxy h2⟩
 ·obtain⟨m0,B0,h1,h2,h3⟩:=inv m B e
  obtain⟨os,h4,h5⟩:=r.bx m0 B0 h1;refine⟨os,?_,h5⟩;have hr:=rho m m0 h3
  cases B0 with
  |b=>cases h2;obtain⟨vs,q1,q2,q3,q4⟩:=h4;exact⟨vs,by rw[hr];exact q1,q2,q3,q4⟩
  |c=>cases h2;obtain⟨vs,q1,q2,q3,q4,q5⟩:=h4;exact⟨vs,by rw[hr];exact q1,q2,q3,q4,by rw[hr];exact q5⟩
  |o ty cs lo=>cases h2;obtain⟨b,q,q1,q2,q3⟩:=h4;exact⟨b,q,by rw[hr];exact q1,q2,GP hxy q3⟩
 ·obtain⟨m0,B0,h1,_,h3⟩:=inv m B e
  obtain⟨m1,B1,h4,_,h6⟩:=inv m' B' e';have q1:=rho m m0 h3;have q2:=rho m' m1 h6;simp only at q1 q2;rw[q1,q2];refine r.dj m0 m1 B0 B1 h1 h4 fun e=>?_;rcases h3 with⟨h7,h8⟩|⟨h7,h8,h9⟩<;>rcases h6 with⟨g7,g8⟩|⟨g7,g8,g9⟩
  ·exact hne (h7.trans g7.symm)
  ·exact g8 (by rw[<-g9,<-e,h8])
  ·exact h8 (by rw[<-h9,e,g8])
  ·exact hne (by rw[<-h9,e,g9])
def uE{P:Program}(x y:Nat){fr1:ay}{own1:aE}{c:Code}(hfx:C.fx=fun _=>none)(h:yF x y fr own=some ⟨fr1,own1⟩)(k:av P GB C n Q0 fr1 own1 (.code c K)):av P GB C n Q0 fr own (.code c K):=aCI hfx h k
def HQ(P:Program)(fb:Func)(R:Ending->World->Prop):Exit->Act->World->Prop:=bodyPostM (FW none) 0 P fb R
structure Lg (C:az):Prop where
 mks:C.mks=[]
 rd:C.rd=none
 fx:C.fx=fun _=>none
def H6[fu:Fu]{f:FuncId}{fb:Func}{c:Code}{m:Nat}{ds:List DV}{rv:DV}(hf:prog.funcs[f]? =some fb)(hb:fb.body=some c)(hn:(fb.name== "runtime.NumGoroutine")=false)(hm:fb.ntmps=m)(hlen:Nat.ble ds.length m=true)
  (hgo:go tt m fu.n [] (tf 0 ds) [] (.code c [])=⟨vc,fr,own,cf⟩)(k: ∀C:az,Lg C->av prog GB C m (HQ prog fb (lO C (fun v G'=>Is G' rv v))) fr own cf)
  (hv:ac vc:=by first|exact trivial|(simp only[ac];kernel_rfl)|(simp only[ac];omega)|(simp only[ac,aK,bQ,aU];omega)):PF GB prog f ds rv:=by
 intro G vs hg hvs;refine⟨⟨fb,hf,hn,by simp[hb]⟩,fun w hw=>?_⟩;have hlen':vs.length<=m:=by rw[hvs.len];simpa using hlen
 have h:=gj (GB:=GB) (C:=nD w G) (Q0:=HQ prog fb (lO (nD w G) (fun v G'=>Is G' rv v))) hgo hv (k (nD w G) ⟨J,J,J⟩);refine(callsIn_wide (n:=0)).1 (callsIn_of_wp_marks (F:=FW none) (n:=0) hf hb trivial ?_);refine h.run (fun _=>⟨none,0,0⟩) G [] _ w ⟨hg,Jk hw,by simp;omega,J,fun k f e=>Ak hvs (fun k v hk=>?_) k f e,(fun nm B e=>by cases e),(fun nm nm' B B' e=>by cases e),fun nm p _ _ e=>by cases e⟩;obtain⟨j,rfl,hj⟩:=wk vs 0 k v hk;have hj':=(aS.1 hj).1;rw[lQ (by simpa using hj')];simpa using hj
def az.mk3(C:az)(D:Nat):az:={C with ex:=(D, .deferred (some []))::C.ex,mks:=[{target:= .collected D,args:= #[]}]}
def FR{fb:Func}{e:Exit}{ds:List DV}{rv:DV}{D:Nat}(hD:C.w0.heap.size<=D)(hx: ∀p∈C.ex,p.1≠D)(hr:sk tt fr own fb.results.toList=some ds)(hd:eE ds=rv)(he:CT e=true:=by rfl):av prog GB (C.mk3 D) n (HQ prog fb (lO C (fun v G'=>Is G' rv v))) fr own (.ex e []):=by
 refine⟨fun ρ G ov a w r=>?_⟩;obtain⟨vs,h1,h2⟩:=CM r hr;have hk:Is G rv (gF vs):=hd▸Ca h2;have hex:((D,Obj.deferred (some [])):Nat×Obj)∈(C.mk3 D).ex:=aQ;have h3:bz C ov G (w.putObj D (.deferred none)):=r.h.putx hex hD (fun _ _ _ h=>by cases h) J J J fun p hp=> .inr ⟨aJ _ hp,hx p hp⟩;have hres:=uc (C:=C) (G:=G) (own:=ov) (w:=w.putObj D (.deferred none)) h1 (c7 a) h3;have key:LeavesInM (FW none) 0 prog fb a.tmps (lO C (fun v G'=>Is G' rv v)) a.defers .returning w:=by
  rw[r.df];exact⟨by simp, .inl ⟨D,_,J,run_takeDeferred (r.h.ext _ hex).2,_,hres,_,G,J,h3.drop (kM _),hk⟩⟩
 cases e with
 |ret=>exact key
 |normal=>exact key
 |_=>cases he
end
section
variable {GB:Gh} {C:az} {n:Nat} {Q0:Exit->Act->World->Prop} {fr fr':ay} {own own':aE} {cf cf':Cf} {vc:List Prop} {ops:Array Oper} {r:List Oper} {K:List Kt}
def bE.later{lk:LK}{bk:BM}{ρ:NE}{G G1:Gh}{ov:List ak}{a:Act}{w w1:World}(r:bE GB C n lk bk ρ G ov a w)(h:bz (nD w G) [] G1 w1):bE GB C n lk bk ρ G1 ov a w1:=
 ⟨r.gb.trans h.gle,r.h.called h,r.sz,r.df,fun k f e=>by obtain⟨y,h1,h2⟩:=r.fx k f e;exact⟨y,h1,h2.up h.gle⟩,fun nm B e=>by obtain⟨os,h1,h2⟩:=r.bx nm B e;exact⟨os,h1.up h.gle,h2⟩,r.dj,r.fxd⟩
def zN:List Nat->List DV->ay->ay
 |p::ps,d::ds,fr=>zN ps ds ((p, .d d)::fr)
 |_,_,fr=>fr
def O6{ρ:NE}{G:Gh}: ∀{ps:List Nat} {ds:List DV} {ys tm:List Value} {fr:ay},IsLs G ds ys->(∀p∈ps,p<tm.length)->(∀k f,aI fr k=some f-> ∃y,tm[k]? =some y/\b7 ρ G f y)->
  ((ps.zip ys).foldl (fun t e=>t.set e.1 e.2) tm).length=tm.length/\ ∀k f,aI (zN ps ds fr) k=some f-> ∃y,((ps.zip ys).foldl (fun t e=>t.set e.1 e.2) tm)[k]? =some y/\b7 ρ G f y
 |[],ds,ys,tm,fr,_,_,h=>⟨J,fun k f e=>h k f (by cases ds<;>exact e)⟩
 |p::ps,[],ys,tm,fr,hd,_,h=>by rw[er.1 hd];exact⟨J,fun k f e=>h k f e⟩
 |p::ps,d::ds,ys,tm,fr,hd,hp,h=>by
  obtain⟨y,m,rfl,h1,h2⟩:=aH.1 hd;simp only[List.zip_cons_cons,jU,zN];have:=O6 (ps:=ps) (ds:=ds) (ys:=m) (tm:=tm.set p y) (fr:=(p, .d d)::fr) h2 (fun q hq=>by rw[bQ];exact hp q (aJ _ hq)) fun k f e=>by
   rw[ke] at e;split at e
   ·rename_i hk;subst hk;cases e
    exact⟨y,by rw[mJ];rw[if_pos J,if_pos (hp k aQ)],h1⟩
   ·rename_i hk
    obtain⟨u,h3,h4⟩:=h k f e;exact⟨u,by rw[mJ];rw[if_neg (fun e=>hk e.symm)];exact h3,h4⟩
  rw[bQ] at this;exact this
def Re: ∀(l:List (Nat×Value)) (t:Array Value),(l.foldl (fun t e=>t.setIfInBounds e.1 e.2) t).toList=l.foldl (fun t e=>t.set e.1 e.2) t.toList
 |[],t=>rfl
 |e::l,t=>by simp only[jU];rw[Re l];simp
def Hj:FX->Bool
 | .ov nm _=>Nat.ble 2000000 nm
 | .rw _=>false
 | .be .. =>false
 | .rs .. =>false
 | .bx .. =>false
 |_=>true
def Ci:ay->Bool
 |[]=>true
 |(_,f)::t=>Hj f&&Ci t
def RP: ∀{fr:ay},Ci fr=true-> ∀k f,aI fr k=some f->Hj f=true
 |[],_,k,f,e=>by cases e
 |(j,g)::t,h,k,f,e=>by
  simp only[Ci,bM] at h;rw[ke] at e;split at e
  ·cases e;exact h.1
  ·exact RP h.2 k f e
def Rl(GB:Gh)(C:az)(n:Nat)(fr:ay)(own:aE)(a:Act)(w:World):Prop:= ∃ρ G ov,bE GB C n (aI fr) (aP own) ρ G ov a w
def atR{P:Program}:av P GB C n Q0 fr own (.ex .normal (.ag (Rl GB C n fr own)::K)):=⟨fun ρ G ov a w r=>⟨ρ,G,ov,r⟩⟩
def RQ(GB:Gh)(C:az)(n:Nat)(p:Prop)(O:aE){σ:Type}(S:σ->aE)(q:σ->Prop):Exit->Act->World->Prop
 | .normal,a,w=>p/\ ∃ρ G ov,bE GB C n (fun _=>none) (aP O) ρ G ov a w
 | .ret,a,w=> ∃s,q s/\ ∃ρ G ov,bE GB C n (fun _=>none) (aP (S s)) ρ G ov a w
 |_,_,_=>False
def rq{P:Program}{p:Prop}{O:aE}{σ:Type}{S:σ->aE}{q:σ->Prop}(hp:p)(hO:yD O own:=by repeat (first|exact trivial|refine And.intro J ?_)):av P GB C n (RQ GB C n p O S q) fr own (.ex .normal []):=
 ⟨fun ρ G ov a w r=>⟨hp,ρ,G,ov,r.mono (fun k x e=>by cases e) (wg hO)⟩⟩
def H3{P:Program}{g:Operand}{ps:Array Nat}{assign body:Code}{gf:FuncId}{caps:List Value}{ds:List DV}{E:List (List DV)}{σ:Type}(I:Nat->aE)(p:Nat->Prop)(S:σ->aE)(q:σ->Prop)(fr1:ay)
  (h0:Lg C)(hg:aG (aI fr) g=some (.d (.v (.func (.func gf) ⟨[]⟩ ⟨caps⟩))))(hIt:It GB P gf ds E)(hc:IsLs GB ds caps)
  (hfr:uh fr1 fr)(hfix:Ci fr1=true)(hO:yD (I 0) own)(hp:p 0)(hps: ∀e∈E,e.length=ps.size)(hpn:ps.toList.all (fun k=>Nat.blt k n)=true)(hn2:Nat.ble n 2000000=true)
  (round: ∀k e GB',E[k]? =some e->bD GB GB'->p k-> ∃fr2 own2,(∀C2,av P GB' C2 n (fun _ _ _=>False) (zN ps.toList e fr1) (I k) (.code assign [.ag (Rl GB' C2 n fr2 own2)]))/\ ∀C2,av P GB' C2 n (RQ GB' C2 n (p (k+1)) (I (k+1)) S q) fr2 own2 (.code body []))
  (after: ∀D,C.w0.heap.size<=D->(∀x∈C.ex,x.1≠D)->p E.length->av P GB (C.mk3 D) n Q0 fr1 (I E.length) (.ex .normal K))
  (early: ∀D s,C.w0.heap.size<=D->(∀x∈C.ex,x.1≠D)->q s->av P GB (C.mk3 D) n Q0 fr1 (S s) (.ex .ret K)):
  av P GB C n Q0 fr own (.code (.rangeFunc g ps assign body) K):=by
 refine⟨fun ρ0 G0 ov0 a w r=>?_⟩;rw[h0.rd];refine wpIn_rangeFunc fun fn _=>?_;obtain⟨y,hy,hy'⟩:=r.ev hg;rw[(aD (G:=G0)).1 hy'] at hy;have hev:=bh (c7 a) hy
 let D:=w.heap.size
 let l:=w.heap.size+1
 let rec_:Loop:={state:= .ready,pending:=none,fn,tmps:=a.tmps,params:=ps,assign,body,defers:=D}
 let w2:=(w.alloc (.deferred (some []))).alloc (.loop rec_)
 let mk:Deferred:={target:= .collected D,args:= #[]}
 let fx1:Nat->Option Addr:=fun nm=>(ρ0 nm).a
 let C1:Loop->az:=fun rc=>{C with ex:=(l, .loop rc)::(D, .deferred (some []))::C.ex,mks:=[mk],fx:=fx1}
 let a0:Act:={a with defers:=[mk]++a.defers}
 have hszD:C.w0.heap.size<=D:=r.h.size;have hlt: ∀x∈C.ex,x.1<D:=fun x hx=>iq (r.h.ext x hx).2;have hszl:C.w0.heap.size<=l:=Nat.le_succ_of_le hszD;have hnl: ∀x∈((D,Obj.deferred (some []))::C.ex:List (Nat×Obj)),x.1≠l:=fun x hx=>by
  rcases aY.1 hx with rfl|hx
  ·show D≠D+1;omega
  ·have:=hlt x hx;show x.1≠D+1;omega
 have ncl: ∀rc:Loop,FL (.loop rc):=fun rc _ _ _ h=>by cases h
 -- the slots of the loop, at any time
 have stat: ∀(ρ':NE) (G':Gh),bD G0 G'->(∀nm p,n<=nm->2000000<=nm->fx1 nm=some p->(ρ' nm).a=some p)-> ∀k f,aI fr1 k=some f-> ∃y,a.tmps[k]? =some y/\b7 ρ' G' f y:=by
  intro ρ' G' hg' hf k f e;obtain⟨y,h1,h2⟩:=r.fx k f (wR hfr k f e);refine⟨y,h1,?_⟩;have hx:=RP hfix k f e
  cases f with
  |ov nm off=>
   obtain⟨b,h3,h4⟩:=h2;have h5:2000000<=nm:=by simpa[Hj] using hx
   have h6:n<=2000000:=by simpa using hn2
   exact⟨b,hf nm _ (by omega) h5 h3,h4⟩
  |rw _=>cases hx
  |be _ _ _ _=>cases hx
  |rs _ _ _ _=>cases hx
  |bx _ _ _ _=>cases hx
  |_=>exact(h2.up hg').ren fun _ h=>by cases h
 let Jv:Nat->Gh->World->Prop:=fun k G' w'=>p k/\ ∃ρ ov,bE G0 (C1 rec_) n (aI fr1) (aP (I k)) ρ G' ov a0 w'
 let rcx:Loop:={rec_ with state:= .done,pending:=some .ret}
 let Jx:Gh->World->Prop:=fun G' w'=> ∃s,q s/\ ∃ρ ov,bE G0 (C1 rcx) n (aI fr1) (aP (S s)) ρ G' ov a0 w'
 have hsz0:a0.tmps.size=n:=r.sz;have hdf0:a0.defers=[mk]:=by show [mk]++a.defers=_;rw[r.df,h0.mks];rfl
 have H:zp G0 P l Jv Jx E:=by
  refine⟨fun k=>⟨fun G' w' ⟨_,ρ,ov,h⟩=>h.h.sub,fun G' w' G1 w1 ⟨h1,ρ,ov,h⟩ k=>⟨h1,ρ,ov,h.later k⟩⟩,⟨fun G' w' ⟨_,_,ρ,ov,h⟩=>h.h.sub,fun G' w' G1 w1 ⟨s,h1,ρ,ov,h⟩ k=>⟨s,h1,ρ,ov,h.later k⟩⟩,?_⟩;intro k e G' w' ys hE hgg ⟨hpk,ρ,ov,r1⟩ hys;have hrec:w'.heap[l]? =some (.loop rec_):=(r1.h.ext _ aQ).2;have hel:=hps e (aL hE);obtain⟨fr2,own2,hA,hB⟩:=round k e G' hE (r.gb.trans hgg) hpk;refine⟨_,_,_,_,run_yield hrec (by show ys.length=ps.size;rw[hys.len,hel]),roundIn_of_wpIn trivial ?_⟩
  let C2:az:={C1 rec_ with mks:=[],rd:=some l}
  let tm:Array Value:=(ps.zip (⟨ys⟩:Array Value)).foldl (fun tmps (t,a)=>tmps.setIfInBounds t a) a.tmps
  have htm:tm.toList=(ps.toList.zip ys).foldl (fun t e=>t.set e.1 e.2) a.tmps.toList:=by
   simp only[tm];rw[<-rZ,Array.toList_zip];exact Re _ _
  have hfx0:=r1.fx;obtain⟨q1,q2⟩:=O6 (ρ:=ρ) (ps:=ps.toList) (tm:=a.tmps.toList) (fr:=fr1) hys (fun k hk=>by have:=fQ.1 hpn k hk;rw[kX,r.sz];simpa[mK] using this) fun k f e=>by
   obtain⟨y,h1,h2⟩:=hfx0 k f e;exact⟨y,by simpa using h1,h2⟩
  have hR0:bE G' C2 n (aI (zN ps.toList e fr1)) (aP (I k)) ρ G' ov {tmps:=tm,defers:=[]} w':=by
   refine⟨bD.refl _,r1.h.ctx J J J (fun _ h=>h),?_,J,fun k f e=>?_,r1.bx,r1.dj,r1.fxd⟩
   ·show tm.size=n
    rw[<-kX,htm,q1,kX,r.sz]
   ·obtain⟨y,h1,h2⟩:=q2 k f e
    exact⟨y,by rw[<-htm] at h1;simpa using h1,h2⟩
  refine wpIn_mono ((hA C2).run ρ G' ov _ w' hR0) fun ex a1 w1 hex=>?_
  cases ex with
  |normal=>
   obtain⟨ρ2,G2,ov2,r2⟩:=hex;have hrec1:w1.heap[l]? =some (.loop rec_):=(r2.h.ext _ aQ).2;refine⟨_,run_beginRound hrec1 J,?_⟩
   let busy:Loop:={rec_ with state:= .busy}
   let C3:az:={C1 busy with mks:=[],rd:=some l}
   have h3:bz C3 ov2 G2 (w1.putObj l (.loop busy)):=r2.h.putx aQ hszl (ncl _) J J J fun x hx=>by
    rcases aY.1 hx with rfl|hx
    ·exact .inl J
    ·exact .inr ⟨aJ _ hx,hnl x hx⟩
   refine wpIn_mono ((hB C3).run ρ2 G2 ov2 a1 (w1.putObj l (.loop busy)) ⟨r2.gb,h3,r2.sz,r2.df,r2.fx,r2.bx,r2.dj,r2.fxd⟩) fun ex a2 w3 hex=>?_
   cases ex with
   |normal=>
    obtain⟨hp1,ρ3,G3,ov3,r3⟩:=hex;have hrec3:w3.heap[l]? =some (.loop busy):=(r3.h.ext _ aQ).2;refine⟨_,_,run_endRound none hrec3,G3,r3.gb, .inl ⟨J,hp1,ρ3,ov3,hgg.trans r3.gb,?_,hsz0,hdf0,stat ρ3 G3 (hgg.trans r3.gb) r3.fxd,r3.bx,r3.dj,r3.fxd⟩⟩;exact r3.h.putx aQ hszl (ncl _) J J J fun x hx=>by
     rcases aY.1 hx with rfl|hx
     ·exact .inl J
     ·exact .inr ⟨aJ _ hx,hnl x hx⟩
   |ret=>
    obtain⟨s,hq,ρ3,G3,ov3,r3⟩:=hex;have hrec3:w3.heap[l]? =some (.loop busy):=(r3.h.ext _ aQ).2;refine⟨_,_,run_endRound (some .ret) hrec3,G3,r3.gb, .inr ⟨J,s,hq,ρ3,ov3,hgg.trans r3.gb,?_,hsz0,hdf0,stat ρ3 G3 (hgg.trans r3.gb) r3.fxd,r3.bx,r3.dj,r3.fxd⟩⟩;exact r3.h.putx aQ hszl (ncl _) J J J fun x hx=>by
     rcases aY.1 hx with rfl|hx
     ·exact .inl J
     ·exact .inr ⟨aJ _ hx,hnl x hx⟩
   |exit id=>exact hex.elim
   |goto t=>exact hex.elim
   |panic ch=>exact hex.elim
   |outgrown=>exact hex.elim
  |exit id=>exact hex.elim
  |goto t=>exact hex.elim
  |ret=>exact hex.elim
  |panic ch=>exact hex.elim
  |outgrown=>exact hex.elim
 have hC1:bz (C1 rec_) ov0 G0 w2:=by
  have h1:bz {C with ex:=(D, .deferred (some []))::C.ex} ov0 G0 (w.alloc (.deferred (some []))):=r.h.addx (fun _ _ _ h=>by cases h) J J J fun x hx=>aY.1 hx;refine h1.addx (ncl rec_) J J J fun x hx=>?_;rcases aY.1 hx with rfl|hx
  ·exact .inl (by show((l,Obj.loop rec_):Nat×Obj)=_;rw[show(w.alloc (.deferred (some []))).heap.size=w.heap.size+1 by simp])
  ·exact .inr hx
 have hJ0:Jv 0 G0 w2:=⟨hp,ρ0,ov0,bD.refl _,hC1,hsz0,hdf0,stat ρ0 G0 (bD.refl _) (fun _ _ _ _ h=>h),fun nm B e=>r.bx nm B (wg hO nm B e),fun nm nm' B B' e e'=>r.dj nm nm' B B' (wg hO nm B e) (wg hO nm' B' e'),fun _ _ _ _ h=>h⟩;refine⟨l,[mk],w2,{target:= .fn (.func gf) ⟨caps⟩,args:= #[.func (.yield l) #[] #[]]},w2,gf, #[.func (.yield l) #[] #[]]++⟨caps⟩,w2,run_enterLoop_outer fn a.tmps ps assign body,?_,fun _ _=>trivial,?_,fun h=>(by cases h),?_⟩
 ·have he:(⟨[]⟩:Array Value)++Array.map a.eval #[.const (.func (.yield l) #[] #[])]= #[.func (.yield l) #[] #[]]:=by
   apply Array.ext';rw[Array.toList_append,pS];rfl
  simp only[resolve,hev,Deferred.ofValue];rw[he];rfl
 ·simp only[invoke]
  exact Kb hIt.able _ _
 refine CallsIn.mono (show CallsIn (FW none) 0 P gf _ w2 _ from by
  have:=hIt.run l Jv Jx G0 r.gb H w2 caps hJ0 (hc.up r.gb);rw[show(#[Value.func (.yield l) #[] #[]]++(⟨caps⟩:Array Value))=⟨.func (.yield l) #[] #[]::caps⟩ by simp];exact this) fun e w3 he=>?_
 obtain⟨G',hgg,⟨v,rfl⟩,hj⟩:=he;have fin: ∀(rc:Loop) (O:aE) (ρ:NE) (ov:List ak),bE G0 (C1 rc) n (aI fr1) (aP O) ρ G' ov a0 w3->bE GB (C.mk3 D) n (aI fr1) (aP O) ρ G' ov a0 (w3.putObj l (.loop {rc with state:= .exhausted})):=fun rc O ρ ov r3=>
  ⟨r.gb.trans r3.gb,r3.h.putx aQ hszl (ncl _) J J J fun x hx=> .inr ⟨aJ _ hx,hnl x hx⟩,r3.sz,r3.df,r3.fx,r3.bx,r3.dj,fun nm p _ _ e=>by rw[show(C.mk3 D).fx=fun _=>none from h0.fx] at e;cases e⟩
 have hxD: ∀x∈C.ex,x.1≠D:=fun x hx e=>by have:=hlt x hx;omega
 rcases hj with⟨hpn,ρ,ov,r3⟩|⟨s,hq,ρ,ov,r3⟩
 ·have hrec3:w3.heap[l]? =some (.loop rec_):=(r3.h.ext _ aQ).2
  have:=(after D hszD hxD hpn).run ρ G' ov a0 _ (fin rec_ _ ρ ov r3);rw[show(C.mk3 D).rd=none from h0.rd] at this;exact⟨_,_,run_endLoop hrec3 (by simp[rec_]),this⟩
 ·have hrec3:w3.heap[l]? =some (.loop rcx):=(r3.h.ext _ aQ).2
  have:=(early D s hszD hxD hq).run ρ G' ov a0 _ (fin rcx _ ρ ov r3);rw[show(C.mk3 D).rd=none from h0.rd] at this;exact⟨_,_,run_endLoop hrec3 (by simp[rcx]),wpIn_ret this⟩
end
section
variable {GB:Gh} {C:az} {n:Nat} {Q0:Exit->Act->World->Prop} {fr fr':ay} {own own':aE} {cf cf':Cf} {vc:List Prop} {ops:Array Oper} {o:Oper} {r:List Oper} {K:List Kt}
def Gw(GB:Gh)(P:Program)(f:FuncId)(ds:List DV)(gf:FuncId)(dp:DV):Prop:=
 ∀G vs,bD GB G->IsLs G ds vs->Fn P f vs G fun v G'=> ∃pv,v= .func (.func gf) ⟨[]⟩ ⟨[pv]⟩/\Is G' dp pv
def BT(gf:FuncId)(dp:DV)(v:Value)(G':Gh):Prop:= ∃pv,v= .func (.func gf) ⟨[]⟩ ⟨[pv]⟩/\Is G' dp pv
def Tz[fu:Fu]{f gf:FuncId}{fb:Func}{c:Code}{m:Nat}{ds:List DV}{dp:DV}(hf:prog.funcs[f]? =some fb)(hb:fb.body=some c)(hn:(fb.name== "runtime.NumGoroutine")=false)(hm:fb.ntmps=m)(hlen:Nat.ble ds.length m=true)
  (hgo:go tt m fu.n [] (tf 0 ds) [] (.code c [])=⟨vc,fr,own,cf⟩)(k: ∀C:az,av prog GB C m (fI C prog fb (lO C (BT gf dp))) fr own cf)
  (hv:ac vc:=by first|exact trivial|(simp only[ac];kernel_rfl)|(simp only[ac];omega)):Gw GB prog f ds gf dp:=by
 intro G vs hg hvs;refine Fn.introR hf hb hn hm (by rw[hvs.len];exact hlen) fun C _ _ hrd hfx=>?_;intro a w rl;refine wK hrd ?_;have h:=gj (GB:=GB) (C:=C) (Q0:=fI C prog fb (lO C (BT gf dp))) hgo hv (k C);exact h.run (fun _=>⟨none,0,0⟩) G [] a w ⟨hg,rl.h,rl.sz,rl.df,(fun k f e=>Ak hvs rl.fr k f e),(fun nm B e=>by cases e),(fun nm nm' B B' e=>by cases e),fun nm p _ _ e=>by rw[hfx] at e;cases e⟩
def Xr{P:Program}{fb:Func}{gf:FuncId}{dp:DV}{pv:Value}{t:Nat}(hr:fb.results.toList=[.tmp t])(hl:aI fr t=some (.d (.v (.func (.func gf) ⟨[]⟩ ⟨[pv]⟩))))(hp:Is GB dp pv):av P GB C n (fI C P fb (lO C (BT gf dp))) fr own (.ex .ret []):=by
 refine⟨fun ρ G ov a w r=>?_⟩;obtain⟨y,hy,hy'⟩:=r.ev (x:= .tmp t) hl;rw[(aD (G:=G)).1 hy'] at hy;exact zD (C:=C) (n:=n) (fr:=cB a) (own:=ov) (G:=G) (K:=BT gf dp) (by rw[hr];exact .tmp hy .nil) ⟨pv,J,hp.up r.gb⟩ a w ⟨r.h,r.sz,c7 a,r.df⟩
def OM(fr:ay)(cf:Cf):Option (FuncId×Value):=match cw fr cf with
 |some ⟨_, .makeFunc (.func f) ⟨[]⟩ ⟨[x]⟩,_,_,_,_⟩=>match aG (bO fr cf) x with
  |some (.d (.v pv))=>some (f,pv)
  |_=>none
 |_=>none
def Uf[fu:Fu]{f:FuncId}{pv:Value}(h:OM fr cf=some (f,pv))(hgo:cP tt n fu.n fr own cf (.d (.v (.func (.func f) ⟨[]⟩ ⟨[pv]⟩))) [] []=⟨vc,fr',own',cf'⟩)(k:av prog GB C n Q0 fr' own' cf')
  (hv:ac vc:=by first|exact trivial|(simp only[ac];kernel_rfl)|(simp only[ac];omega)):av prog GB C n Q0 fr own cf:=by
 unfold OM at h;split at h<;>try (cases h;done)
 rename_i hh;split at h<;>cases h;rename_i hx;exact us hh (.x1 hx fun ρ G ov a w y _ r h1 h2=>by
  rw[(aD (G:=G)).1 h2] at h1;exact⟨_,(aD (G:=G)).2 J,Hz (l1:=[]) (l2:=[pv]) J (by simp[h1])⟩) hgo hv k
def Hu[fu:Fu]{f gf:FuncId}{ds:List DV}{dp:DV}{d:Nat}{fr':Value->ay}{own':Value->aE}{cf':Value->Cf}{vc:Value->List Prop}(ha:xV fr (.ops ops (o::r) K)=some (f,ds))(hdst:o.dst=some d)(hd:b9 n (some d)=true)(hF:Gw GB prog f ds gf dp)
  (hgo: ∀pv,go tt n fu.n [] ((d, .d (.v (.func (.func gf) ⟨[]⟩ ⟨[pv]⟩)))::fr) own (.ops ops r K)=⟨vc pv,fr' pv,own' pv,cf' pv⟩)
  (k: ∀GB' pv,bD GB GB'->Is GB' dp pv->av prog GB' C n Q0 (fr' pv) (own' pv) (cf' pv))
  (hv: ∀pv,ac (vc pv):=by intros;first|exact trivial|(simp only[ac];kernel_rfl)|(simp only[ac];omega)):av prog GB C n Q0 fr own (.ops ops (o::r) K):=by
 unfold xV at ha;split at ha<;>try (cases ha;done)
 rename_i fo args tys ty pos af gd hh;obtain⟨ops0,h1,h2⟩:=FZ hh
 cases h1
 cases hdst
 obtain⟨c1,c2⟩:=Cw ha;refine⟨fun ρ G ov a w rl=>?_⟩;obtain⟨y,hy,hy'⟩:=rl.ev c1;rw[(aD (G:=G)).1 hy'] at hy;obtain⟨vs,h3,h4⟩:=rl.evDs c2;simp only[wpListIn];rw[if_pos (BK h2 ρ G ov a w rl)];refine HE (K':=fun a' w'=>a'.defers=C.mks/\wpListIn (FW C.rd) 0 prog ops (cQ C.rd prog Q0 K) r a' w') (fun Q=>?_) (fun a' w' q=>⟨q.1.trans rl.df.symm,q.2⟩);refine zC hy h3 (hF G vs rl.gb h4) hd (fun v G' hG hK a' w' rel=>?_) a w Q ⟨rl.h,rl.sz,c7 a,rl.df⟩;obtain⟨pv,rfl,hpv⟩:=hK;refine⟨rel.df,?_⟩;have:=gj (GB:=G') (C:=C) (Q0:=Q0) (hgo pv) (hv pv) (k G' pv (rl.gb.trans hG.le) hpv);refine this.run ρ G' ov a' w' ⟨bD.refl _,rel.h,rel.sz,rel.df,fun j g e=>?_,fun nm B e=>by obtain⟨os,h5,h6⟩:=rl.bx nm B e;exact⟨os,h5.up hG.le,h6⟩,rl.dj,rl.fxd⟩;have e':d5 (aI fr) (some d) (.d (.v (.func (.func gf) ⟨[]⟩ ⟨[pv]⟩))) j=some g:=by
  rw[ke] at e;simp only[d5];split at e
  ·rename_i hk;rw[if_pos hk];exact e
  ·rename_i hk;rw[if_neg hk];exact e
 exact(kH rel).fx (fun k g _ e=>by obtain⟨u,h5,h6⟩:=rl.fx k g e;exact⟨u,h5,h6.up hG.le⟩) (show b7 ρ G' (.d (.v (.func (.func gf) ⟨[]⟩ ⟨[pv]⟩))) _ from(aD (G:=G')).2 rfl) j g e'
end
end Go.Sx
end
