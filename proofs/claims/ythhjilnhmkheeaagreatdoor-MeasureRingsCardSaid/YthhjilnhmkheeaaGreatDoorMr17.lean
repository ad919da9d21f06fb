import Derived.Test.YthhjilnhmkheeaaGreatDoorMr16
set_option linter.all false
set_option maxHeartbeats 1000000
set_option maxRecDepth 100000
section
namespace Go.Sx
open Go Go.Proofs Tryz
variable {GB:Gh}
structure jq where
 ax:Rat
 ay:Rat
 ac:Rat
def jq.ev(g:jq)(p:aa):Rat:=g.ax*p.x+g.ay*p.y+g.ac
def jq.li(g:jq)(u:aa):Rat:=g.ax*u.x+g.ay*u.y
def jq.mov(g:jq)(p u:aa)(d:Rat):g.ev (av p u d)=g.ev p+d*g.li u:=by
 unfold jq.ev jq.li av;dsimp only;grind
def jq.seg(g:jq)(u w:aa)(s:Rat):g.li (aA u w s)=g.li u+s*(g.li w-g.li u):=by
 unfold jq.li aA;dsimp only;grind
def f9(a b x:aa):Prop:= ∃s:Rat,0<=s/\s<=1/\x=aA a b s
def yr{x y:Rat}(h: ¬(x=0/\y=0)):0<x*x+y*y:=by
 have h1:=tc x;have h2:=tc y;rcases cP (x*x+y*y) with k|k|k
 .exfalso
  refine h ⟨?_,?_⟩
  .have:x*x=0:=by grind
   exact(bX.1 this).elim id id
  .have:y*y=0:=by grind
   exact(bX.1 this).elim id id
 .exact k
 .grind
def uD{a b:aa}(h:a≠b): ¬(b.x-a.x=0/\b.y-a.y=0):=fun k=>h (by
 cases a;cases b
 simp only[aa.mk.injEq] at*;constructor<;>grind)
def aFk{a b p:aa}(hab:a≠b)(h: ¬f9 a b p): ∃g:jq,0<g.ev p/\ ∀x,f9 a b x->g.ev x<=0:=by
 have hN:=yr (uD hab);obtain⟨dx,hdx⟩: ∃dx,dx=b.x-a.x:=⟨_,rfl⟩;obtain⟨dy,hdy⟩: ∃dy,dy=b.y-a.y:=⟨_,rfl⟩;rw[<-hdx,<-hdy] at hN;have on: ∀x,f9 a b x-> ∃s:Rat,0<=s/\s<=1/\x.x=a.x+s*dx/\x.y=a.y+s*dy:=fun x ⟨s,s0,s1,e⟩=>⟨s,s0,s1,by rw[e,hdx];rfl,by rw[e,hdy];rfl⟩;rcases cP (dx*(p.y-a.y)-dy*(p.x-a.x)) with k|k|k
 .-- on the line
  obtain⟨T,hT⟩: ∃T,T=(p.x-a.x)*dx+(p.y-a.y)*dy:=⟨_,rfl⟩;by_cases t0:T<0
  .refine⟨⟨-dx, -dy,a.x*dx+a.y*dy⟩,by unfold jq.ev;dsimp only;grind,fun x hx=>?_⟩
   obtain⟨s,s0,s1,e1,e2⟩:=on x hx;have:=bz s0 (aN hN);unfold jq.ev;dsimp only;rw[e1,e2];grind
  .by_cases t1:dx*dx+dy*dy<T
   .refine⟨⟨dx,dy, -(a.x*dx+a.y*dy)-(dx*dx+dy*dy)⟩,by unfold jq.ev;dsimp only;grind,fun x hx=>?_⟩
    obtain⟨s,s0,s1,e1,e2⟩:=on x hx;have:=bz (show 0<=1-s by grind) (aN hN);unfold jq.ev;dsimp only;rw[e1,e2];grind
   .exfalso
    refine h ⟨T/(dx*dx+dy*dy),?_,?_,?_⟩
    .have e:T/(dx*dx+dy*dy)*(dx*dx+dy*dy)=T:=by generalize dx*dx+dy*dy=N at*;grind
     exact(ja hN).1 (by rw[e];grind)
    .have e:T/(dx*dx+dy*dy)*(dx*dx+dy*dy)=T:=by generalize dx*dx+dy*dy=N at*;grind
     have:=(ja (s:=1-T/(dx*dx+dy*dy)) hN).1 (by
      generalize T/(dx*dx+dy*dy)=q at*;generalize dx*dx+dy*dy=N at*;have:(1-q)*N=N-q*N:=by grind
      rw[this,e];grind)
     grind
    .have e1:(p.x-a.x)*(dx*dx+dy*dy)=T*dx:=by rw[hT];grind
     have e2:(p.y-a.y)*(dx*dx+dy*dy)=T*dy:=by rw[hT];grind
     unfold aA;rw[<-hdx,<-hdy];generalize dx*dx+dy*dy=N at*
     cases p
     simp only[aa.mk.injEq] at*;constructor<;>grind
 .refine⟨⟨-dy,dx,dy*a.x-dx*a.y⟩,by unfold jq.ev;dsimp only;grind,fun x hx=>?_⟩
  obtain⟨s,s0,s1,e1,e2⟩:=on x hx;unfold jq.ev;dsimp only;rw[e1,e2];grind
 .refine⟨⟨dy, -dx, -(dy*a.x-dx*a.y)⟩,by unfold jq.ev;dsimp only;grind,fun x hx=>?_⟩
  obtain⟨s,s0,s1,e1,e2⟩:=on x hx;unfold jq.ev;dsimp only;rw[e1,e2];grind
def XN{g:jq}{p:aa}(v w:aa)(h:0<g.ev p): ∃e:Rat,0<e/\ ∀d s,0<=d->d<=e->0<=s->s<=1->0<g.ev (av p (aA v w s) d):=by
 have hK: ∃K:Rat,0<K/\ -K<=g.li v/\ -K<=g.li w:=by
  generalize g.li v=a;generalize g.li w=b;refine⟨1+(if 0<=a then a else-a)+(if 0<=b then b else-b),?_,?_,?_⟩<;>split<;>split<;>grind
 obtain⟨K,k0,k1,k2⟩:=hK;generalize hz:g.ev p=z at*;have e1:z/(2*K)*(2*K)=z:=by grind
 refine⟨z/(2*K),(gi (k:=2*K) omb).1 (by rw[e1];exact h),fun d s d0 d1 s0 s1=>?_⟩;generalize z/(2*K)=e at*;rw[jq.mov,hz,jq.seg];generalize g.li v=a at*;generalize g.li w=b at*;have h1:=bz (show 0<=1-s by grind) (show 0<=a+K by grind);have h2:=bz s0 (show 0<=b+K by grind);have h3:0<=a+s*(b-a)+K:=by grind
 have h4:=bz d0 h3;have h5:=bz (show 0<=e-d by grind) (aN k0);grind
def wJ: ∀{E:List (aa×aa)},(∀f∈E,f.1≠f.2)-> ∀(p v w:aa),∃e:Rat,0<e/\ ∀f∈E,¬f9 f.1 f.2 p-> ∀d s,0<=d->d<=e->0<=s->s<=1-> ¬f9 f.1 f.2 (av p (aA v w s) d)
 |[],_,p,v,w=>⟨1,oma,fun f hf=>by cases hf⟩
 |f::E,hE,p,v,w=>by
  obtain⟨e1,a1,b1⟩:=wJ (E:=E) (fun f hf=>hE f (aX _ hf)) p v w;by_cases hp:f9 f.1 f.2 p
  .refine⟨e1,a1,fun g hg hn=>?_⟩
   rcases aW.1 hg with rfl|hg
   .exact absurd hp hn
   .exact b1 g hg hn
  .obtain⟨g,g0,g1⟩:=aFk (hE f aQ) hp
   obtain⟨e2,a2,b2⟩:=XN v w g0;obtain⟨e,c1,c2,c3⟩:=min2 a1 a2;refine⟨e,c1,fun h hh hn d s d0 d1 s0 s1=>?_⟩;rcases aW.1 hh with rfl|hh
   .intro ho
    have:=g1 _ ho;have:=b2 d s d0 omb s0 s1;grind
   .exact b1 h hh hn d s d0 omb s0 s1
def Oc(a b p r:aa):Prop:=f9 a b p/\((r=⟨b.x-p.x,b.y-p.y⟩/\b≠p)\/(r=⟨a.x-p.x,a.y-p.y⟩/\a≠p))
def AO(r u:aa):Prop:= ∃k:Rat,0<k/\u=⟨k*r.x,k*r.y⟩
def div_pos{a b:Rat}(ha:0<a)(hb:0<b):0<a/b:=by
 have e:a/b*b=a:=by grind
 exact(gi hb).1 (by rw[e];exact ha)
def aHe{a b p u:aa}{d:Rat}(hab:a≠b)(hd:0<d)(hu:u≠⟨0,0⟩)(h1:f9 a b p)(h2:f9 a b (av p u d)): ∃r,Oc a b p r/\AO r u:=by
 have hN:=uD hab;obtain⟨t,t0,t1,et⟩:=id h1;obtain⟨s,s0,s1,es⟩:=h2;obtain⟨dx,hdx⟩: ∃dx,dx=b.x-a.x:=⟨_,rfl⟩;obtain⟨dy,hdy⟩: ∃dy,dy=b.y-a.y:=⟨_,rfl⟩;rw[<-hdx,<-hdy] at hN;have px:p.x=a.x+t*dx:=by rw[et,hdx];rfl
 have py:p.y=a.y+t*dy:=by rw[et,hdy];rfl
 have ux:d*u.x=(s-t)*dx:=by
  have:=congrArg aa.x es;unfold av aA at this;dsimp only at this;rw[<-hdx] at this;grind
 have uy:d*u.y=(s-t)*dy:=by
  have:=congrArg aa.y es;unfold av aA at this;dsimp only at this;rw[<-hdy] at this;grind
 have bx:b.x-p.x=(1-t)*dx:=by rw[px];grind
 have bY:b.y-p.y=(1-t)*dy:=by rw[py];grind
 have ax:a.x-p.x= -t*dx:=by rw[px];grind
 have aY:a.y-p.y= -t*dy:=by rw[py];grind
 rcases cP (s-t) with k|k|k
 .exfalso
  rw[k] at ux uy;refine hu ?_;have d0:d≠0:=by grind
  have z1:u.x=0:=(bX.1 (show d*u.x=0 by rw[ux];grind)).resolve_left d0;have z2:u.y=0:=(bX.1 (show d*u.y=0 by rw[uy];grind)).resolve_left d0
  cases u
  simp only[aa.mk.injEq] at*;exact⟨z1,z2⟩
 .have q:0<1-t:=by grind
  refine⟨_,⟨h1, .inl ⟨J,fun e=>hN ?_⟩⟩,(s-t)/(d*(1-t)),div_pos k (bg hd q),?_⟩
  .have z1:(1-t)*dx=0:=by rw[<-bx,e];grind
   have z2:(1-t)*dy=0:=by rw[<-bY,e];grind
   exact⟨(bX.1 z1).resolve_left omb,(bX.1 z2).resolve_left omb⟩
  .have hq:=bg hd q
   have e:(s-t)/(d*(1-t))*(d*(1-t))=s-t:=by generalize d*(1-t)=m at*;grind
   rw[bx,bY];generalize (s-t)/(d*(1-t))=m at*;have d0:d≠0:=by grind
   have e1:d*(u.x-m*((1-t)*dx))=0:=by grind
   have e2:d*(u.y-m*((1-t)*dy))=0:=by grind
   have f1:=(bX.1 e1).resolve_left d0;have f2:=(bX.1 e2).resolve_left d0
   cases u
   simp only[aa.mk.injEq] at*;constructor<;>grind
 .have q:0<t:=by grind
  refine⟨_,⟨h1, .inr ⟨J,fun e=>hN ?_⟩⟩,(t-s)/(d*t),div_pos omb (bg hd q),?_⟩
  .have z1:t*dx=0:=by have:=ax;rw[e] at this;grind
   have z2:t*dy=0:=by have:=aY;rw[e] at this;grind
   exact⟨(bX.1 z1).resolve_left omb,(bX.1 z2).resolve_left omb⟩
  .have hq:=bg hd q
   have e:(t-s)/(d*t)*(d*t)=t-s:=by generalize d*t=m at*;grind
   rw[ax,aY];generalize (t-s)/(d*t)=m at*;have d0:d≠0:=by grind
   have e1:d*(u.x-m*(-t*dx))=0:=by grind
   have e2:d*(u.y-m*(-t*dy))=0:=by grind
   have f1:=(bX.1 e1).resolve_left d0;have f2:=(bX.1 e2).resolve_left d0
   cases u
   simp only[aa.mk.injEq] at*;constructor<;>grind
def mF(E:List (aa×aa))(p u:aa):Prop:=u≠⟨0,0⟩/\ ∀f∈E,∀r,Oc f.1 f.2 p r-> ¬AO r u
def aDj(p v w:aa)(d t:Rat):aA (av p v d) (av p w d) t=av p (aA v w t) d:=by
 unfold aA av;simp only[aa.mk.injEq];constructor<;>grind
def XA(p v:aa)(d d' t:Rat):aA (av p v d) (av p v d') t=av p v (d+t*(d'-d)):=by
 unfold aA av;simp only[aa.mk.injEq];constructor<;>grind
def B4(v:aa)(s:Rat):aA v v s=v:=by
 unfold aA;cases v;simp only[aa.mk.injEq];constructor<;>grind
def Gx{E:List (aa×aa)}(hE: ∀f∈E,f.1≠f.2){p v w:aa}{e:Rat}(he: ∀f∈E,¬f9 f.1 f.2 p-> ∀d s,0<=d->d<=e->0<=s->s<=1-> ¬f9 f.1 f.2 (av p (aA v w s) d)){f:aa×aa}(hf:f∈E){d s:Rat}(d0:0<d)(d1:d<=e)(s0:0<=s)(s1:s<=1)(hu:mF E p (aA v w s)): ¬f9 f.1 f.2 (av p (aA v w s) d):=fun ho=>by
 by_cases hp:f9 f.1 f.2 p
 .obtain⟨r,r1,r2⟩:=aHe (hE f hf) d0 hu.1 hp ho
  exact hu.2 f hf r r1 r2
 .exact he f hf hp d s (aN d0) d1 s0 s1 ho
def Nz{E:List (aa×aa)}(hE: ∀f∈E,f.1≠f.2){p v w:aa}(hu: ∀s,0<=s->s<=1->mF E p (aA v w s)): ∃e:Rat,0<e/\ ∀d,0<d->d<=e-> ∀f∈E,pf f.1 f.2 (av p v d) (av p w d):=by
 obtain⟨e,e0,he⟩:=wJ hE p v w;refine⟨e,e0,fun d d0 d1 f hf s t s0 s1 t0 t1 h=>?_⟩;rw[aDj] at h;exact Gx hE he hf d0 d1 t0 t1 (hu t t0 t1) ⟨s,s0,s1,h.symm⟩
def WQ{E:List (aa×aa)}(hE: ∀f∈E,f.1≠f.2){p v:aa}(hu:mF E p v): ∃e:Rat,0<e/\ ∀d d',0<d->d<=e->0<d'->d'<=e-> ∀f∈E,pf f.1 f.2 (av p v d) (av p v d'):=by
 obtain⟨e,e0,he⟩:=wJ hE p v v;refine⟨e,e0,fun d d' d0 d1 e1 e2 f hf s t s0 s1 t0 t1 h=>?_⟩;rw[XA] at h;have h1:=bz (show 0<=1-t by grind) (show 0<=d by grind);have h2:=bz t0 (show 0<=d' by grind);have h3:=bz (show 0<=1-t by grind) (show 0<=e-d by grind);have h4:=bz t0 (show 0<=e-d' by grind);have p0:0<d+t*(d'-d):=by
  rcases cP t with k|k|k
  .rw[k];grind
  .have:=bg k e1;grind
  .grind
 have p1:d+t*(d'-d)<=e:=by grind
 have:=Gx hE he hf (s:=0) p0 p1 oma oma (by rw[B4];exact hu);rw[B4] at this;exact this ⟨s,s0,s1,h.symm⟩
def fq(r:List ZP):List (aa×aa):=(List.range r.length).map fun k=>((r.getD k (0,0)).q,(cj r k).q)
def ER(rs:List (List ZP)):List (aa×aa):=rs.flatMap fq
def Cj{a b:ZP}(h:a.q=b.q):a=b:=by
 have hx:(a.1:Rat)=(b.1:Rat):=congrArg aa.x h;have hy:(a.2:Rat)=(b.2:Rat):=congrArg aa.y h;exact Prod.ext (by exact_mod_cast hx) (by exact_mod_cast hy)
def Ih{rs:List (List ZP)}(hr: ∀r∈rs,bD r): ∀f∈ER rs,f.1≠f.2:=fun f hf=>by
 obtain⟨r,h1,h2⟩:=dK.1 hf;obtain⟨k,hk,rfl⟩:=aS.1 h2;exact fun e=>(hr r h1).ne k (dS.1 hk) (Cj e)
def L0{rs:List (List ZP)}{fill:Int}{q p:aa}(h: ∀f∈ER rs,pf f.1 f.2 q p):iH rs fill p=iH rs fill q:=by
 have key: ∀(rs:List (List ZP)),(∀f∈ER rs,pf f.1 f.2 q p)-> ∀n:Int,rs.foldl (fun n r=>n+cx r p) n=rs.foldl (fun n r=>n+cx r q) n:=by
  intro rs
  induction rs with
  |nil=>intro _ n;rfl
  |cons r t ih=>
   intro h n;have hc:xH r q p:=fun k hk=>h _ (dK.2 ⟨r,aQ,aS.2 ⟨k,dS.2 hk,J⟩⟩);rw[jV,jV,KB hc];exact ih (fun f hf=>h f (by obtain⟨s,s1,s2⟩:=dK.1 hf;exact dK.2 ⟨s,aX _ s1,s2⟩)) _
 unfold iH;rw[key rs h]
def Bn(rs:List (List ZP))(fill:Int)(p v:aa)(b:Bool):Prop:= ∃e:Rat,0<e/\ ∀d,0<d->d<=e->iH rs fill (av p v d)=b
section
variable {rs:List (List ZP)} {fill:Int} {p v w:aa} {b c:Bool}
def ax4(hr: ∀r∈rs,bD r)(hu: ∀s,0<=s->s<=1->mF (ER rs) p (aA v w s))(h:Bn rs fill p v b):Bn rs fill p w b:=by
 obtain⟨e1,a1,b1⟩:=Nz (Ih hr) hu;obtain⟨e2,a2,b2⟩:=h;obtain⟨e,c1,c2,c3⟩:=min2 a1 a2;exact⟨e,c1,fun d d0 d1=>by rw[L0 (fill:=fill) (b1 d d0 omb),b2 d d0 omb]⟩
end
def J1: ∀(c:au) (A B:aI->Rat),(∀u∈c,0<=A u/\(0<=B u\/0<A u))-> ∃e:Rat,0<e/\ ∀u∈c,0<=A u+e*B u
 |[],_,_,_=>⟨1,oma,fun u hu=>by cases hu⟩
 |s::t,A,B,h=>by
  obtain⟨e,e0,he⟩:=J1 t A B fun u hu=>h u (aX _ hu);obtain⟨h1,h2⟩:=h s aQ;have hold: ∀q,0<=q->q<=e-> ∀u∈t,0<=A u+q*B u:=fun q q0 q1 u hu=>IC (h u (aX _ hu)).1 (he u hu) q0 q1;by_cases hb:0<=B s
  .refine⟨e,e0,fun u hu=>?_⟩
   rcases aW.1 hu with rfl|hu
   .have:=bz (aN e0) hb;grind
   .exact he u hu
  .have ha:=h2.resolve_left hb
   have hq:0<A s/ -(B s):=(gi (k:= -(B s)) omb).1 (by rw[show A s/ -(B s)* -(B s)=A s by grind];exact ha);have hm:A s/ -(B s)* -(B s)=A s:=by grind
   generalize A s/ -(B s)=q at*;by_cases k:q<=e
   .refine⟨q,hq,fun u hu=>?_⟩
    rcases aW.1 hu with rfl|hu
    .grind
    .exact hold q (aN hq) k u hu
   .refine⟨e,e0,fun u hu=>?_⟩
    rcases aW.1 hu with rfl|hu
    .have:=bz (show 0<=q-e by grind) (show 0<= -(B u) by grind)
     grind
    .exact he u hu
def EB(l m:ab)(t e:Rat):m.value (l.at (t+e))=m.value (l.at t)+e*m.nor.dot l.dir:=by
 rw[wg,iw]
def BS{s:aI}(h:s.v.Pos)(nh:s.v.nh=false):s.v.has s.v.hi:=by
 unfold ai.Pos at h;refine⟨?_, .inr dX⟩;rcases h with h|h|h
 .exact .inl h
 .rw[nh] at h;cases h
 .exact .inr (aN h)
def BC{s:aI}(h:s.v.Pos)(nl:s.v.nl=false):s.v.has s.v.lo:=by
 unfold ai.Pos at h;refine⟨.inr dX,?_⟩;rcases h with h|h|h
 .rw[nl] at h;cases h
 .exact .inl h
 .exact .inr (aN h)
def Mi{c:au}(hc:bw c){s:aI}(hs:s∈c)(nh:s.v.nh=false): ∃u∈c,u.l.value (s.l.at s.v.hi)=0/\u.l.nor.dot s.l.dir<0:=by
 obtain⟨p1,p2⟩:=hc.edge s hs;have hin:=(p2 _).1 (BS p1 nh);by_cases q: ∃u∈c,u.l.value (s.l.at s.v.hi)=0/\u.l.nor.dot s.l.dir<0
 .exact q
 .exfalso
  obtain⟨e,e0,he⟩:=J1 c (fun u=>u.l.value (s.l.at s.v.hi)) (fun u=>u.l.nor.dot s.l.dir) fun u hu=>by
   have h1:=hin u hu;refine⟨h1,?_⟩;by_cases k:0<=u.l.nor.dot s.l.dir
   .exact .inl k
   .right
    by_cases z:u.l.value (s.l.at s.v.hi)=0
    .exact absurd ⟨u,hu,z,omb⟩ q
    .grind
  have hh:=(p2 (s.v.hi+e)).2 fun u hu=>by rw[EB];exact he u hu
  have:=hh.2;rw[nh] at this;rcases this with z|z
  .cases z
  .grind
def VF{c:au}(hc:bw c){s:aI}(hs:s∈c)(nl:s.v.nl=false): ∃u∈c,u.l.value (s.l.at s.v.lo)=0/\0<u.l.nor.dot s.l.dir:=by
 obtain⟨p1,p2⟩:=hc.edge s hs;have hin:=(p2 _).1 (BC p1 nl);by_cases q: ∃u∈c,u.l.value (s.l.at s.v.lo)=0/\0<u.l.nor.dot s.l.dir
 .exact q
 .exfalso
  obtain⟨e,e0,he⟩:=J1 c (fun u=>u.l.value (s.l.at s.v.lo)) (fun u=> -(u.l.nor.dot s.l.dir)) fun u hu=>by
   have h1:=hin u hu;refine⟨h1,?_⟩;by_cases k:0<= -(u.l.nor.dot s.l.dir)
   .exact .inl k
   .right
    by_cases z:u.l.value (s.l.at s.v.lo)=0
    .exact absurd ⟨u,hu,z,omb⟩ q
    .grind
  have hh:=(p2 (s.v.lo+ -e)).2 fun u hu=>by rw[EB];have:=he u hu;grind
  have:=hh.1;rw[nl] at this;rcases this with z|z
  .cases z
  .grind
def O7{ds:List aa}(h:ds.Pairwise cp){i:Nat}{s w:aa}(hs:ds[i]? =some s)(hw:ds[(i+1)%ds.length]? =some w):lA ds s w:=by
 obtain⟨hi,rfl⟩:=bQ.1 hs;obtain⟨hj,rfl⟩:=bQ.1 hw;have hp:=jS.1 h;by_cases e:i+1<ds.length
 .have em:(i+1)%ds.length=i+1:=dZ e
  left;simp only[em];refine⟨hp i (i+1) hi e we,fun d hd=>?_⟩;obtain⟨j,hj,rfl⟩:=mJ.1 hd;rintro ⟨a,b⟩;rcases pL j i with k|k|k
  .exact zb a (hp j i hj hi k)
  .subst k;exact so _ a
  .by_cases z:j=i+1
   .subst z;exact so _ b
   .exact zb b (hp (i+1) j e hj we)
 .have ei:i+1=ds.length:=by omega
  have em:(i+1)%ds.length=0:=by rw[ei,lX]
  right;simp only[em];refine⟨fun d hd a=>?_,fun d hd b=>?_⟩
  .obtain⟨j,hj,rfl⟩:=mJ.1 hd
   by_cases k:j=i
   .subst k;exact so _ a
   .exact zb a (hp j i hj hi we)
  .obtain⟨j,hj,rfl⟩:=mJ.1 hd
   by_cases k:j=0
   .subst k;exact so _ b
   .exact zb b (hp 0 j we hj we)
def awQ{s u w:aa}(hs:s.half≠0)(hw:w.half≠0)(hu:u.half≠0)(h1:0<s.cross u)(h2:0<u.cross w)(h3:0<s.cross w)(e:s.half=w.half):u.half=s.half:=by
 rcases ig hs with k|k
 .rw[k] at e⊢
  have a:=mr.1 k;have b:=mr.1 e.symm;rw[mr];unfold aa.cross at*
  -- u is between s and w
  have i1:(s.x*w.y-s.y*w.x)*u.y=(u.x*w.y-u.y*w.x)*s.y+(s.x*u.y-s.y*u.x)*w.y:=by grind
  have i2:(s.x*w.y-s.y*w.x)*u.x=(u.x*w.y-u.y*w.x)*s.x+(s.x*u.y-s.y*u.x)*w.x:=by grind
  have y0:0<=s.y:=by grind
  have y1:0<=w.y:=by grind
  have m1:=bz (aN h2) y0;have m2:=bz (aN h1) y1;have uy:0<=u.y:=(ja h3).1 omb;by_cases z:0<u.y
  .exact .inl z
  .right
   have z0:u.y=0:=by grind
   have i3:(u.x*w.y-u.y*w.x)*s.y+(s.x*u.y-s.y*u.x)*w.y=0:=by rw[<-i1,z0];grind
   have A0:(u.x*w.y-u.y*w.x)*s.y=0:=by generalize (u.x*w.y-u.y*w.x)*s.y=A at*;generalize (s.x*u.y-s.y*u.x)*w.y=B at*;grind
   have B0:(s.x*u.y-s.y*u.x)*w.y=0:=by grind
   have n1:s.y=0:=by
    rcases bX.1 A0 with q|q
    .grind
    .exact q
   have n2:w.y=0:=by
    rcases bX.1 B0 with q|q
    .grind
    .exact q
   rw[n1,n2] at h3;grind
 .rw[k] at e⊢
  have a:=qC.1 k;have b:=qC.1 e.symm;rw[qC];unfold aa.cross at*;have i1:(s.x*w.y-s.y*w.x)*u.y=(u.x*w.y-u.y*w.x)*s.y+(s.x*u.y-s.y*u.x)*w.y:=by grind
  have y0:0<= -s.y:=by grind
  have y1:0<= -w.y:=by grind
  have m1:=bz (aN h2) y0;have m2:=bz (aN h1) y1;have uy:0<= -u.y:=(ja h3).1 omb;by_cases z:u.y<0
  .exact .inl z
  .right
   have z0:u.y=0:=by grind
   have i3:(u.x*w.y-u.y*w.x)*s.y+(s.x*u.y-s.y*u.x)*w.y=0:=by rw[<-i1,z0];grind
   have m3:(u.x*w.y-u.y*w.x)* -s.y= -((u.x*w.y-u.y*w.x)*s.y):=by grind
   have m4:(s.x*u.y-s.y*u.x)* -w.y= -((s.x*u.y-s.y*u.x)*w.y):=by grind
   rw[m3] at m1;rw[m4] at m2;have A0:(u.x*w.y-u.y*w.x)*s.y=0:=by generalize (u.x*w.y-u.y*w.x)*s.y=A at*;generalize (s.x*u.y-s.y*u.x)*w.y=B at*;grind
   have B0:(s.x*u.y-s.y*u.x)*w.y=0:=by grind
   have n1:s.y=0:=by
    rcases bX.1 A0 with q|q
    .grind
    .exact q
   have n2:w.y=0:=by
    rcases bX.1 B0 with q|q
    .grind
    .exact q
   rw[n1,n2] at h3;grind
def Ix{ds:List aa}(nz: ∀d∈ds,d.half≠0){s u w:aa}(hs:s∈ds)(hu:u∈ds)(hw:w∈ds)(hn:lA ds s w)(h1:0<s.cross u)(h2:0<u.cross w)(h3:0<s.cross w):False:=by
 have zs:=ig (nz s hs);have zu:=ig (nz u hu);have zw:=ig (nz w hw);rcases hn with⟨b,no⟩|⟨n1,n2⟩
 .by_cases e:s.half=w.half
  .have e2:=awQ (nz s hs) (nz w hw) (nz u hu) h1 h2 h3 e
   exact no u hu ⟨.inr ⟨e2.symm,h1⟩, .inr ⟨we,h2⟩⟩
  .have e1:s.half=1/\w.half=2:=by
    rcases b with b|⟨b,_⟩
    .omega
    .exact absurd b e
   rcases zu with k|k
   .exact no u hu ⟨.inr ⟨we,h1⟩, .inl we⟩
   .exact no u hu ⟨.inl we, .inr ⟨we,h2⟩⟩
 .have a:=n1 u hu
  have b:=n2 u hu;have a1: ¬s.half<u.half:=fun k=>a (.inl k);have a2:s.half≠u.half:=fun k=>a (.inr ⟨k,h1⟩);have b1: ¬u.half<w.half:=fun k=>b (.inl k);have b2:u.half≠w.half:=fun k=>b (.inr ⟨k,h2⟩);omega
def Mf{u w n:aa}(hu:u.half≠0)(hw:w.half≠0)(hn:n.half≠0)(e1:w.half=u.half)(e2:u.half=n.half)(h1:0<u.cross n)(h2: ¬0<u.cross w):0<w.cross n:=by
 by_cases k:0<w.cross u
 .have b1:cp w u:= .inr ⟨e1,k⟩
  have b2:cp u n:= .inr ⟨e2,h1⟩;rcases vY b1 b2 with q|⟨_,q⟩
  .omega
  .exact q
 .have hz:w.cross u=0:=by rw[fH] at k⊢;grind
  by_cases q:0<w.cross n
  .exact q
  .exfalso
   have b2:cp u n:= .inr ⟨e2,h1⟩;by_cases q2:0<n.cross w
   .have b3:cp n w:= .inr ⟨we,q2⟩
    rcases vY b2 b3 with z|⟨_,z⟩
    .omega
    .exact h2 z
   .have hz2:w.cross n=0:=by rw[fH] at q2;grind
    rcases ig hw with hh|hh
    .have a:=mr.1 hh
     have b:=mr.1 (show u.half=1 by omega);have c:=mr.1 (show n.half=1 by omega);unfold aa.cross at*;have j1:w.x*(u.x*n.y-u.y*n.x)=0:=by grind
     have j2:w.y*(u.x*n.y-u.y*n.x)=0:=by grind
     rcases bX.1 j1 with z|z
     .rcases bX.1 j2 with z2|z2<;>grind
     .grind
    .have a:=qC.1 hh
     unfold aa.cross at*;have j1:w.x*(u.x*n.y-u.y*n.x)=0:=by grind
     have j2:w.y*(u.x*n.y-u.y*n.x)=0:=by grind
     rcases bX.1 j1 with z|z
     .rcases bX.1 j2 with z2|z2<;>grind
     .grind
def aFC{ds:List aa}(nz: ∀d∈ds,d.half≠0){s u w:aa}(hs:s∈ds)(hu:u∈ds)(hw:w∈ds)(hn:lA ds s w)(h1:0<s.cross u):0<s.cross w:=by
 have zs:=ig (nz s hs);have zu:=ig (nz u hu);have zw:=ig (nz w hw);have hneg:=uA (nz s hs);have hnz:(bP s).half≠0:=by omega
 have e1:u.cross (bP s)=s.cross u:=by rw[mB,fH s u];grind
 have e2:w.cross (bP s)=s.cross w:=by rw[mB,fH s w];grind
 rcases hn with⟨b,no⟩|⟨n1,n2⟩
 .by_cases e:s.half=w.half
  .rcases b with b|⟨_,b⟩
   .omega
   .exact b
  .have e3:s.half=1/\w.half=2:=by
    rcases b with b|⟨b,_⟩
    .omega
    .exact absurd b e
   have nu:=no u hu;rcases zu with k|k
   .exact absurd ⟨.inr ⟨we,h1⟩, .inl we⟩ nu
   .rw[<-e2]
    exact Mf (nz u hu) (nz w hw) hnz we we (by rw[e1];exact h1) fun q=>nu ⟨.inl we, .inr ⟨we,q⟩⟩
 .have a:=n1 u hu
  have b:=n2 u hu;have a1: ¬s.half<u.half:=fun k=>a (.inl k);have a2:s.half≠u.half:=fun k=>a (.inr ⟨k,h1⟩);have b1: ¬u.half<w.half:=fun k=>b (.inl k);rw[<-e2];exact Mf (nz u hu) (nz w hw) hnz we we (by rw[e1];exact h1) fun q=>b (.inr ⟨we,q⟩)
def L7(s u w:ab)(h p:aa):s.dir.cross u.dir*w.value p=s.dir.cross u.dir*w.value h+w.dir.cross u.dir*(s.value p-s.value h)+s.dir.cross w.dir*(u.value p-u.value h):=by
 rw[iC,iC,iC,iC,iC,iC];unfold aa.cross ab.dir;grind
def Hd{c:au}(hc:bw c): ∀d∈c.map (fun s=>s.l.dir),d.half≠0:=fun d hd=>by
 obtain⟨s,hs,rfl⟩:=aS.1 hd;exact vm (hc.ok s hs)
def Vy{c:au}(hc:bw c){s w:aI}(hs:s∈c)(hw:w∈c)(hn:lA (c.map fun s=>s.l.dir) s.l.dir w.l.dir)(nh:s.v.nh=false):0<s.l.dir.cross w.l.dir/\w.l.value (s.l.at s.v.hi)=0:=by
 obtain⟨u,hu,z1,z2⟩:=Mi hc hs nh;have su:0<s.l.dir.cross u.l.dir:=by rw[fH,rj];grind
 have nz:=Hd hc;have ms:=eX (f:=fun s:aI=>s.l.dir) hs;have mu:=eX (f:=fun s:aI=>s.l.dir) hu;have mw:=eX (f:=fun s:aI=>s.l.dir) hw;have sw:=aFC nz ms mu mw hn su;refine⟨sw,?_⟩;obtain⟨p1,p2⟩:=hc.edge s hs;have hin:=(p2 _).1 (BS p1 nh);have hs0:=jB (hc.ok s hs).ne s.v.hi;have h0:=hin w hw;by_cases q:w.l.value (s.l.at s.v.hi)=0
 .exact q
 .exfalso
  have wu:0<=w.l.dir.cross u.l.dir:=by
   by_cases k:0<u.l.dir.cross w.l.dir
   .exact(Ix nz ms mu mw hn su k sw).elim
   .rw[fH];grind
  obtain⟨t1,t2⟩:=AS hc hw;have e:=L7 s.l u.l w.l (s.l.at s.v.hi) (w.l.at w.v.sample);rw[t2,z1,hs0] at e;have g1:=bg su (show 0<w.l.value (s.l.at s.v.hi) by grind);have g2:=bz wu (t1 s hs);have g3:=bz (aN sw) (t1 u hu);grind
def aEF{c:au}(hc:bw c){s w:aI}(hs:s∈c)(hw:w∈c)(hn:lA (c.map fun s=>s.l.dir) s.l.dir w.l.dir)(sw:0<s.l.dir.cross w.l.dir)(nl:w.v.nl=false):s.l.value (w.l.at w.v.lo)=0:=by
 obtain⟨u,hu,z1,z2⟩:=VF hc hw nl;have uw:0<u.l.dir.cross w.l.dir:=by rw[rj];exact z2
 have nz:=Hd hc;have ms:=eX (f:=fun s:aI=>s.l.dir) hs;have mu:=eX (f:=fun s:aI=>s.l.dir) hu;have mw:=eX (f:=fun s:aI=>s.l.dir) hw;obtain⟨p1,p2⟩:=hc.edge w hw;have hin:=(p2 _).1 (BC p1 nl);have hw0:=jB (hc.ok w hw).ne w.v.lo;have h0:=hin s hs;by_cases q:s.l.value (w.l.at w.v.lo)=0
 .exact q
 .exfalso
  have us:0<=u.l.dir.cross s.l.dir:=by
   by_cases k:0<s.l.dir.cross u.l.dir
   .exact(Ix nz ms mu mw hn k uw sw).elim
   .rw[fH];grind
  obtain⟨t1,t2⟩:=AS hc hs;have e:=L7 u.l w.l s.l (w.l.at w.v.lo) (s.l.at s.v.sample);rw[t2,z1,hw0] at e;have g1:=bg uw (show 0<s.l.value (w.l.at w.v.lo) by grind);have g2:=bz (aN sw) (t1 u hu);have g3:=bz us (t1 w hw);grind
section
variable {ds:List aa}
end
def EW{a:Rat}(b:Rat)(h:0<a): ∃e:Rat,0<e/\ ∀d,0<=d->d<=e->0<a+d*b:=by
 by_cases hb:0<=b
 .exact⟨1,oma,fun d h0 _=>by have:=bz h0 hb;grind⟩
 .have hb':0< -b:=by grind
  have e1:a/(-b)*(-b)=a:=by grind
  obtain⟨q,hq⟩: ∃q,q=a/(-b):=⟨_,rfl⟩;rw[<-hq] at e1;have q0:0<q:=by rw[hq];exact div_pos h hb'
  refine⟨q*(1/2),omb,fun d h0 h1=>?_⟩;have:=bz (show 0<=q*(1/2)-d by grind) (aN hb');have:=bg q0 hb';grind
def aqr{a b c d:aa}(hab:a≠b)(h: ∀x,f9 a b x-> ¬f9 c d x): ∃e:Rat,0<e/\ ∀k t,0<k->k<=e->0<=t->t<=1-> ¬f9 c d (av (aA a b t) (eG ⟨b.x-a.x,b.y-a.y⟩) k):=by
 obtain⟨u,hu⟩: ∃u:aa,u=⟨b.x-a.x,b.y-a.y⟩:=⟨_,rfl⟩;obtain⟨g,hg⟩: ∃g:aa,g=⟨d.x-c.x,d.y-c.y⟩:=⟨_,rfl⟩;have u2:0<u.x*u.x+u.y*u.y:=by rw[hu];exact yr (uD hab)
 rw[<-hu]
 -- what a common point says
 have key: ∀k t,∀x,f9 c d x->x=av (aA a b t) (eG u) k-> ∃s,0<=s/\s<=1/\a.x+t*u.x-k*u.y=c.x+s*g.x/\a.y+t*u.y+k*u.x=c.y+s*g.y:=by
  rintro k t x ⟨s,s0,s1,rfl⟩ e;refine⟨s,s0,s1,?_,?_⟩
  .have:=congrArg aa.x e
   simp only[aA,av,eG] at this;rw[hu,hg];grind
  .have:=congrArg aa.y e
   simp only[aA,av,eG] at this;rw[hu,hg];grind
 obtain⟨D,hD⟩: ∃D,D=u.x*g.y-u.y*g.x:=⟨_,rfl⟩;by_cases h0:D=0
 .obtain⟨E,hE⟩: ∃E,E=u.x*(c.y-a.y)-u.y*(c.x-a.x):=⟨_,rfl⟩
  have hk: ∀k t s,a.x+t*u.x-k*u.y=c.x+s*g.x->a.y+t*u.y+k*u.x=c.y+s*g.y->k*(u.x*u.x+u.y*u.y)=E:=fun k t s e1 e2=>by
   have f1:u.y*(a.x+t*u.x-k*u.y)=u.y*(c.x+s*g.x):=by rw[e1]
   have f2:u.x*(a.y+t*u.y+k*u.x)=u.x*(c.y+s*g.y):=by rw[e2]
   have f3:s*D=0:=by rw[h0];grind
   rw[hD] at f3;rw[hE];grind
  by_cases hE0:0<E
  .obtain⟨e,e0,he⟩:=EW (-(u.x*u.x+u.y*u.y)) hE0
   refine⟨e,e0,fun k t k0 k1 _ _ hx=>?_⟩;obtain⟨s,_,_,e1,e2⟩:=key k t _ hx rfl;have:=hk k t s e1 e2;have:=he k (aN k0) k1;grind
  .refine⟨1,oma,fun k t k0 k1 _ _ hx=>?_⟩
   obtain⟨s,_,_,e1,e2⟩:=key k t _ hx rfl;have h1:=hk k t s e1 e2;have h2:=bg k0 u2;rw[h1] at h2;exact hE0 h2
 .have d2:0<D*D:=by
   rcases cP D with k|k|k
   .exact absurd k h0
   .exact bg k k
   .have:=bg (show 0< -D by grind) (show 0< -D by grind);grind
  obtain⟨A0,hA0⟩: ∃A,A=D*((c.x-a.x)*g.y-(c.y-a.y)*g.x):=⟨_,rfl⟩;obtain⟨A1,hA1⟩: ∃A,A=D*(u.y*g.y+u.x*g.x):=⟨_,rfl⟩;obtain⟨B0,hB0⟩: ∃B,B=D*(u.x*(a.y-c.y)-u.y*(a.x-c.x)):=⟨_,rfl⟩;obtain⟨B1,hB1⟩: ∃B,B=D*(u.x*u.x+u.y*u.y):=⟨_,rfl⟩;have hk: ∀k t s,a.x+t*u.x-k*u.y=c.x+s*g.x->a.y+t*u.y+k*u.x=c.y+s*g.y->t*(D*D)=A0+k*A1/\s*(D*D)=B0+k*B1:=fun k t s e1 e2=>by
   have f1:t*D=((c.x-a.x)*g.y-(c.y-a.y)*g.x)+k*(u.y*g.y+u.x*g.x):=by rw[hD];grind
   have f2:s*D=(u.x*(a.y-c.y)-u.y*(a.x-c.x))+k*(u.x*u.x+u.y*u.y):=by rw[hD];grind
   constructor
   .rw[hA0,hA1,<-Rat.mul_assoc,f1];grind
   .rw[hB0,hB1,<-Rat.mul_assoc,f2];grind
  have hno: ¬(0<=A0/\A0<=D*D/\0<=B0/\B0<=D*D):=by
   rintro ⟨p1,p2,p3,p4⟩;obtain⟨t0,t1,te⟩:=vW p1 p2 d2;obtain⟨s0,s1,se⟩:=vW p3 p4 d2;generalize A0/(D*D)=t at*;generalize B0/(D*D)=s at*;refine h (aA a b t) ⟨t,t0,t1,J⟩ ⟨s,s0,s1,?_⟩;have q1:t*D=(c.x-a.x)*g.y-(c.y-a.y)*g.x:=by
    have:D*(t*D-((c.x-a.x)*g.y-(c.y-a.y)*g.x))=0:=by rw[hA0] at te;grind
    rcases bX.1 this with k|k
    .exact absurd k h0
    .grind
   have q2:s*D=u.x*(a.y-c.y)-u.y*(a.x-c.x):=by
    have:D*(s*D-(u.x*(a.y-c.y)-u.y*(a.x-c.x)))=0:=by rw[hB0] at se;grind
    rcases bX.1 this with k|k
    .exact absurd k h0
    .grind
   have z1:D*(a.x+t*u.x-(c.x+s*g.x))=0:=by
    have:D*(a.x+t*u.x-(c.x+s*g.x))=D*(a.x-c.x)+(t*D)*u.x-(s*D)*g.x:=by grind
    rw[this,q1,q2,hD];grind
   have z2:D*(a.y+t*u.y-(c.y+s*g.y))=0:=by
    have:D*(a.y+t*u.y-(c.y+s*g.y))=D*(a.y-c.y)+(t*D)*u.y-(s*D)*g.y:=by grind
    rw[this,q1,q2,hD];grind
   have w1:=(bX.1 z1).resolve_left h0;have w2:=(bX.1 z2).resolve_left h0;rw[hu,hg] at w1 w2;unfold aA;simp only[aa.mk.injEq];exact⟨omb,omb⟩
  have fin: ∀(X Y:Rat),0<X->(∀k t,0<k-> ∀s,0<=t->t<=1->0<=s->s<=1->t*(D*D)=A0+k*A1->s*(D*D)=B0+k*B1-> ¬0<X+k*Y)-> ∃e:Rat,0<e/\ ∀k t,0<k->k<=e->0<=t->t<=1-> ¬f9 c d (av (aA a b t) (eG u) k):=fun X Y hX hXY=>by
   obtain⟨e,e0,he⟩:=EW Y hX;refine⟨e,e0,fun k t k0 k1 t0 t1 hx=>?_⟩;obtain⟨s,s0,s1,e1,e2⟩:=key k t _ hx rfl;obtain⟨f1,f2⟩:=hk k t s e1 e2;exact hXY k t k0 s t0 t1 s0 s1 f1 f2 (he k (aN k0) k1)
  by_cases c1:0<=A0
  .by_cases c2:A0<=D*D
   .by_cases c3:0<=B0
    .have c4:D*D<B0:=Rat.not_le.1 fun c4=>hno ⟨c1,c2,c3,c4⟩
     refine fin (B0-D*D) B1 omb fun k t k0 s t0 t1 s0 s1 f1 f2=>?_;have:=bz (show 0<=1-s by grind) (aN d2);grind
    .refine fin (-B0) (-B1) omb fun k t k0 s t0 t1 s0 s1 f1 f2=>?_
     have:=bz s0 (aN d2);grind
   .refine fin (A0-D*D) A1 omb fun k t k0 s t0 t1 s0 s1 f1 f2=>?_
    have:=bz (show 0<=1-t by grind) (aN d2);grind
  .refine fin (-A0) (-A1) omb fun k t k0 s t0 t1 s0 s1 f1 f2=>?_
   have:=bz t0 (aN d2);grind
def aC(r:List ZP)(i:Nat):aa:=(r.getD i (0,0)).q
def bi(r:List ZP)(i:Nat):aa:=(cj r i).q
def kA(r:List ZP):Prop:= ∀i k,i<k->k<r.length-> ∀x,f9 (aC r i) (bi r i) x->f9 (aC r k) (bi r k) x->(k=i+1/\x=aC r k)\/(i=0/\k+1=r.length/\x=aC r 0)
def SN{a b:aa}(hab:a≠b): ∀{E:List (aa×aa)},(∀f∈E,∀x,f9 a b x-> ¬f9 f.1 f.2 x)-> ∃e:Rat,0<e/\ ∀f∈E,∀k t,0<k->k<=e->0<=t->t<=1-> ¬f9 f.1 f.2 (av (aA a b t) (eG ⟨b.x-a.x,b.y-a.y⟩) k)
 |[],_=>⟨1,oma,fun f hf=>by cases hf⟩
 |g::E,h=>by
  obtain⟨e,e0,he⟩:=SN hab (E:=E) fun f hf=>h f (aX _ hf);obtain⟨d,d0,hd⟩:=aqr hab (h g aQ);refine⟨if e<=d then e else d,by split<;>assumption,fun f hf k t k0 k1 t0 t1=>?_⟩;rcases aW.1 hf with rfl|hf
  .exact hd k t k0 (by split at k1<;>grind) t0 t1
  .exact he f hf k t k0 (by split at k1<;>grind) t0 t1
def CV{r:List ZP}(hr:bD r)(hs:kA r){i k:Nat}(hi:i<r.length)(hk:k<r.length)(hne:k≠i){s:Rat}(s0:0<s)(s1:s<1): ¬f9 (aC r k) (bi r k) (aA (aC r i) (bi r i) s):=fun ho=>by
 have hon:f9 (aC r i) (bi r i) (aA (aC r i) (bi r i) s):=⟨s,aN s0,aN s1,J⟩;have hab:aC r i≠bi r i:=fun e=>hr.ne i hi (Cj e);have hA:aA (aC r i) (bi r i) s≠aC r i:=fun e=>by
  have h:=uD hab;have e1:=congrArg aa.x e;have e2:=congrArg aa.y e;simp only[aA] at e1 e2;refine h ⟨?_,?_⟩
  .have:s*((bi r i).x-(aC r i).x)=0:=by grind
   rcases bX.1 this with k|k
   .rw[k] at s0;exact absurd s0 oma
   .exact k
  .have:s*((bi r i).y-(aC r i).y)=0:=by grind
   rcases bX.1 this with k|k
   .rw[k] at s0;exact absurd s0 oma
   .exact k
 have hB:aA (aC r i) (bi r i) s≠bi r i:=fun e=>by
  have h:=uD hab;have e1:=congrArg aa.x e;have e2:=congrArg aa.y e;simp only[aA] at e1 e2;refine h ⟨?_,?_⟩
  .have:(1-s)*((bi r i).x-(aC r i).x)=0:=by grind
   rcases bX.1 this with k|k
   .grind
   .exact k
  .have:(1-s)*((bi r i).y-(aC r i).y)=0:=by grind
   rcases bX.1 this with k|k
   .grind
   .exact k
 have nx: ∀j,j+1<r.length->aC r (j+1)=bi r j:=fun j hj=>by unfold aC bi;rw[uh hj]
 have nl: ∀j,j+1=r.length->aC r 0=bi r j:=fun j hj=>by unfold aC bi;rw[uH hj]
 rcases rZ hne with h|h
 .rcases hs k i h hi _ ho hon with⟨e1,e2⟩|⟨e1,e2,e3⟩
  .exact hA e2
  .exact hB (by rw[e3];exact nl i e2)
 .rcases hs i k h hk _ hon ho with⟨e1,e2⟩|⟨e1,e2,e3⟩
  .exact hB (by rw[e2,e1];exact nx i we)
  .subst e1;exact hA e3
def Ci{r:List ZP}{k:Nat}(hk:k<r.length):(aC r k,bi r k)∈fq r:=aS.2 ⟨k,dS.2 hk,J⟩
def si{r:List ZP}{f:aa×aa}(h:f∈fq r): ∃k,k<r.length/\f=(aC r k,bi r k):=by
 obtain⟨k,hk,rfl⟩:=aS.1 h;exact⟨k,dS.1 hk,J⟩
def uQ{r:List ZP}(hr:bD r): ∀f∈fq r,f.1≠f.2:=fun f hf=>by
 obtain⟨k,hk,rfl⟩:=si hf;exact fun e=>hr.ne k hk (Cj e)
def wb{r:List ZP}{q p:aa}(h: ∀f∈fq r,pf f.1 f.2 q p):cx r p=cx r q:=KB fun k hk=>h _ (Ci hk)
def GZ(r:List ZP)(p w:aa)(x:Int):Prop:= ∃e:Rat,0<e/\ ∀d,0<d->d<=e->cx r (av p w d)=x
def mD{a b:Rat}(ha:0<a)(hb:0<b): ∃c:Rat,0<c/\c<=a/\c<=b:=by
 by_cases h:a<=b
 .exact⟨a,ha,dX,h⟩
 .exact⟨b,hb,omb,dX⟩
def CL{r:List ZP}(hr:bD r){p w:aa}(h:mF (fq r) p w): ∃x,GZ r p w x:=by
 obtain⟨e,e0,he⟩:=WQ (uQ hr) h;exact⟨cx r (av p w e),e,e0,fun d d0 d1=>wb (he e d e0 dX d0 d1)⟩
def GZ.uniq{r:List ZP}{p w:aa}{x y:Int}(h:GZ r p w x)(k:GZ r p w y):x=y:=by
 obtain⟨a,a0,ha⟩:=h;obtain⟨b,b0,hb⟩:=k;obtain⟨c,c0,c1,c2⟩:=mD a0 b0;rw[<-ha c c0 c1,<-hb c c0 c2]
def zt{r:List ZP}(hr:bD r){p v w:aa}{x:Int}(hu: ∀s,0<=s->s<=1->mF (fq r) p (aA v w s))(h:GZ r p v x):GZ r p w x:=by
 obtain⟨e,e0,he⟩:=Nz (uQ hr) hu;obtain⟨a,a0,ha⟩:=h;obtain⟨c,c0,c1,c2⟩:=mD e0 a0;refine⟨c,c0,fun d d0 d1=>?_⟩;rw[wb (he d d0 omb)];exact ha d d0 omb
def eD(r:List ZP)(i:Nat):aa:=⟨(bi r i).x-(aC r i).x,(bi r i).y-(aC r i).y⟩
def wW{r:List ZP}(hr:bD r){i:Nat}(hi:i<r.length):0<(eD r i).x*(eD r i).x+(eD r i).y*(eD r i).y:=
 yr (uD fun e=>hr.ne i hi (Cj e))
theorem okY{p:Prop}(h:p:=by rw[e];unfold aa.cross;grind):p:=h
def Im{r:List ZP}(hr:bD r)(hs:kA r){i:Nat}(hi:i<r.length){s:Rat}(s0:0<s)(s1:s<1){w:aa}(hw:(eD r i).cross w≠0):mF (fq r) (aA (aC r i) (bi r i) s) w:=by
 refine⟨fun e=>hw okY,fun f hf ρ hρ hp=>?_⟩;obtain⟨k,hk,rfl⟩:=si hf;by_cases hki:k=i
 .subst hki
  obtain⟨c,c0,rfl⟩:=hp;apply hw;rcases hρ.2 with⟨rfl,_⟩|⟨rfl,_⟩<;>unfold eD aa.cross aA<;>dsimp only<;>grind
 .exact CV hr hs hi hk hki s0 s1 hρ.1
def LG(r:List ZP)(i:Nat)(s:Rat)(x:Int):Prop:=GZ r (aA (aC r i) (bi r i) s) (eG (eD r i)) x
def Ml(u:aa):u.cross (eG u)=u.x*u.x+u.y*u.y:=by unfold aa.cross eG;grind
def I4{r:List ZP}(hr:bD r)(hs:kA r){i:Nat}(hi:i<r.length){s:Rat}(s0:0<s)(s1:s<1): ∃x,LG r i s x:=
 CL hr (Im hr hs hi s0 s1 (by rw[Ml];have:=wW hr hi;grind))
def Qk{r:List ZP}(hr:bD r)(hs:kA r){i:Nat}(hi:i<r.length){s s':Rat}(s0:0<s)(h:s<s')(s1:s'<1){x y:Int}(hx:LG r i s x)(hy:LG r i s' y):x=y:=by
 obtain⟨A,hA⟩: ∃A,A=aC r i:=⟨_,rfl⟩;obtain⟨B,hB⟩: ∃B,B=bi r i:=⟨_,rfl⟩;obtain⟨u,hu⟩: ∃u,u=eD r i:=⟨_,rfl⟩;have hu':u=⟨B.x-A.x,B.y-A.y⟩:=by rw[hu,hA,hB];rfl
 have u2:0<u.x*u.x+u.y*u.y:=by rw[hu];exact wW hr hi
 unfold LG at hx hy;rw[<-hA,<-hB,<-hu] at hx hy;obtain⟨a,ha⟩: ∃a,a=aA A B s:=⟨_,rfl⟩;obtain⟨b,hb⟩: ∃b,b=aA A B s':=⟨_,rfl⟩;have hd:(⟨b.x-a.x,b.y-a.y⟩:aa)=⟨(s'-s)*u.x,(s'-s)*u.y⟩:=by rw[ha,hb,hu'];simp only[aA,aa.mk.injEq];constructor<;>grind
 have hh:0<s'-s:=by grind
 have hab:a≠b:=fun e=>by
  have e1:=congrArg aa.x hd;have e2:=congrArg aa.y hd;dsimp only at e1 e2;rw[e] at e1 e2;have z1:u.x=0:=by
   rcases bX.1 (show(s'-s)*u.x=0 by grind) with k|k
   .grind
   .exact k
  have z2:u.y=0:=by
   rcases bX.1 (show(s'-s)*u.y=0 by grind) with k|k
   .grind
   .exact k
  rw[z1,z2] at u2;grind
 obtain⟨e,e0,he⟩:=SN hab (E:=((List.range r.length).filter fun k=>decide (k≠i)).map fun k=>(aC r k,bi r k)) fun f hf z hz hz2=>by
  obtain⟨k,hk,rfl⟩:=aS.1 hf;obtain⟨hk1,hk2⟩:=iZ.1 hk;obtain⟨t,t0,t1,rfl⟩:=hz;rw[ha,hb,D8,hA,hB] at hz2;have q1:=bz t0 (aN hh);have q2:=bz (show 0<=1-t by grind) (aN hh);exact CV hr hs hi (dS.1 hk1) (of_decide_eq_true hk2) omb omb hz2
 rw[hd] at he;obtain⟨c1,p1,h1⟩:=hx;obtain⟨c2,p2,h2⟩:=hy;obtain⟨c3,p3,h3,h4⟩:=mD p1 p2;obtain⟨k,k0,k1,k2⟩:=mD e0 (div_pos p3 hh);have hk:k*(s'-s)<=c3:=by
  have:c3/(s'-s)*(s'-s)=c3:=by grind
  have q:=bz (show 0<=c3/(s'-s)-k by grind) (aN hh);grind
 have hk0:=bg k0 hh;have em: ∀z:aa,av z (eG ⟨(s'-s)*u.x,(s'-s)*u.y⟩) k=av z (eG u) (k*(s'-s)):=fun z=>by unfold av eG;simp only[aa.mk.injEq];constructor<;>grind
 have hc: ∀f∈fq r,pf f.1 f.2 (av a (eG u) (k*(s'-s))) (av b (eG u) (k*(s'-s))):=fun f hf=>by
  obtain⟨j,hj,rfl⟩:=si hf;intro σ t σ0 σ1 t0 t1 hz;have es:aA (av a (eG u) (k*(s'-s))) (av b (eG u) (k*(s'-s))) t=av (aA a b t) (eG u) (k*(s'-s)):=by unfold av aA;simp only[aa.mk.injEq];constructor<;>grind
  rw[es] at hz;by_cases hji:j=i
  .subst hji
   dsimp only at hz;rw[<-hA,<-hB,ha,hb,D8] at hz;have z1:=congrArg aa.x hz;have z2:=congrArg aa.y hz;simp only[aA,av,eG] at z1 z2;have v1:u.x=B.x-A.x:=by rw[hu']
   have v2:u.y=B.y-A.y:=by rw[hu']
   rw[<-v1] at z1;rw[<-v2] at z2;have:=bg hk0 u2;grind
  .refine he (aC r j,bi r j) (aS.2 ⟨j,iZ.2 ⟨dS.2 hj,decide_eq_true hji⟩,J⟩) k t k0 k1 t0 t1 ⟨σ,σ0,σ1,?_⟩
   rw[em];exact hz.symm
 have:=wb hc;rw[ha,hb] at this;rw[h1 _ hk0 omb,h2 _ hk0 omb] at this;exact this.symm
def Ig{r:List ZP}(hr:bD r)(hs:kA r){i:Nat}(hi:i<r.length){s s':Rat}(s0:0<s)(s1:s<1)(t0:0<s')(t1:s'<1){x y:Int}(hx:LG r i s x)(hy:LG r i s' y):x=y:=by
 rcases cP (s'-s) with h|h|h
 .obtain rfl:s=s':=by grind
  exact GZ.uniq hx hy
 .exact Qk hr hs hi s0 omb t1 hx hy
 .exact(Qk hr hs hi t0 omb s1 hy hx).symm
def QB{r:List ZP}(hr:bD r){v u m:aa}{y:Rat}(hy:0<y)(hf: ∀z,0<z->z<=y->mF (fq r) v (av u m z)){x:Int}(hG:GZ r v (av u m y) x): ∃e:Rat,0<e/\ ∀d,0<d->d<=e->GZ r (av v u d) m x:=by
 obtain⟨e,e0,he⟩:=wJ (uQ hr) v u (av u m y);obtain⟨a,a0,ha⟩:=hG;obtain⟨c,c0,c1,c2⟩:=mD e0 a0;refine⟨c,c0,fun d d0 d1=>⟨d*y,bg d0 hy,fun k k0 k1=>?_⟩⟩;rw[<-ha d d0 omb];refine(wb fun f hf0=>?_).symm;intro σ t σ0 σ1 t0 t1 h;have hdy:=bg d0 hy
 -- the point of the segment, as a direction
 obtain⟨q,hq⟩: ∃q,q=(k+t*(d*y-k))/(d*y):=⟨_,rfl⟩;have n1:=bz t0 (show 0<=d*y-k by grind);have n2:=bz (show 0<=1-t by grind) (show 0<=d*y-k by grind);have hqd:q*(d*y)=k+t*(d*y-k):=by rw[hq];grind
 have q0:0<q:=by rw[hq];exact div_pos omb hdy
 have q1:q<=1:=by
  have:=(vW (show 0<=k+t*(d*y-k) by grind) (show k+t*(d*y-k)<=d*y by grind) hdy).2.1;rw[hq];exact this
 have es:aA u (av u m y) q=av u m (q*y):=by unfold aA av;simp only[aa.mk.injEq];constructor<;>grind
 have ep:aA (av (av v u d) m k) (av v (av u m y) d) t=av v (aA u (av u m y) q) d:=by
  rw[es];have:q*y*d=k+t*(d*y-k):=by grind
  unfold aA av;simp only[aa.mk.injEq];constructor<;>grind
 have q2:=bz (show 0<=1-q by grind) (aN hy);refine Gx (uQ hr) he hf0 d0 omb (aN q0) q1 (by rw[es];exact hf _ (bg q0 hy) omb) ⟨σ,σ0,σ1,?_⟩;rw[<-ep];exact h.symm
def fP(r:List ZP)(i:Nat):Nat:=(i+1)%r.length
def u9{r:List ZP}{i:Nat}(hi:i<r.length):fP r i<r.length:=dQ _ we
def wL{r:List ZP}{i:Nat}:aC r (fP r i)=bi r i:=rfl
def LQ{r:List ZP}(hr:bD r){i:Nat}(hi:i<r.length):fP r i≠i:=by
 have:=hr.n3;unfold fP;by_cases h:i+1<r.length
 .rw[dZ h];omega
 .have e:i+1=r.length:=by omega
  rw[e,lX];omega
def XP{r:List ZP}(hr:bD r)(hs:kA r){i k:Nat}(hi:i<r.length)(hk:k<r.length)(h1:k≠i)(h2:k≠fP r i): ¬f9 (aC r k) (bi r k) (bi r i):=fun ho=>by
 have hab:aC r i≠bi r i:=fun e=>hr.ne i hi (Cj e);have hon:f9 (aC r i) (bi r i) (bi r i):=⟨1,oma,oma,(FO _ _).symm⟩;rcases rZ h1 with h|h
 .rcases hs k i h hi _ ho hon with⟨e1,e2⟩|⟨e1,e2,e3⟩
  .exact hab e2.symm
  .exact h2 (by unfold fP;rw[e2,lX];exact e1)
 .rcases hs i k h hk _ hon ho with⟨e1,e2⟩|⟨e1,e2,e3⟩
  .exact h2 (by unfold fP;rw[dZ we];exact e1)
  .subst e1;exact hab e3.symm
def WG{r:List ZP}(hr:bD r)(hs:kA r){i:Nat}(hi:i<r.length){w:aa}(h0:w≠⟨0,0⟩)(h1: ¬AO (bP (eD r i)) w)(h2: ¬AO (eD r (fP r i)) w):mF (fq r) (bi r i) w:=by
 refine⟨h0,fun f hf ρ hρ hp=>?_⟩;obtain⟨k,hk,rfl⟩:=si hf;by_cases k1:k=i
 .subst k1
  rcases hρ.2 with⟨_,e⟩|⟨rfl,_⟩
  .exact e J
  .refine h1 ?_
   have:(⟨(aC r k).x-(bi r k).x,(aC r k).y-(bi r k).y⟩:aa)=bP (eD r k):=by unfold bP eD;simp only[aa.mk.injEq];constructor<;>grind
   rw[<-this];exact hp
 .by_cases k2:k=fP r i
  .subst k2
   rcases hρ.2 with⟨rfl,_⟩|⟨_,e⟩
   .exact h2 hp
   .exact e wL
  .exact XP hr hs hi hk k1 k2 hρ.1
def oy{a b c:aa}(h:AO a b):(0<c.cross a->0<c.cross b)/\(c.cross a<0->c.cross b<0)/\(c.cross a=0->c.cross b=0)/\(0<a.cross c->0<b.cross c)/\(a.cross c<0->b.cross c<0)/\(a.cross c=0->b.cross c=0):=by
 obtain⟨k,k0,rfl⟩:=h;have e1:c.cross ⟨k*a.x,k*a.y⟩=k*c.cross a:=by unfold aa.cross;grind
 have e2:aa.cross ⟨k*a.x,k*a.y⟩ c=k*a.cross c:=by unfold aa.cross;grind
 rw[e1,e2];refine⟨fun h=>bg k0 h,fun h=>?_,fun h=>by rw[h];grind,fun h=>bg k0 h,fun h=>?_,fun h=>by rw[h];grind⟩
 .have:=bg k0 (show 0< -c.cross a by grind);grind
 .have:=bg k0 (show 0< -a.cross c by grind);grind
def rg(a:aa):a.cross a=0:=by unfold aa.cross;grind
def Dq{a b:aa}(h:a.cross b≠0):b≠⟨0,0⟩:=fun e=>h okY
def M4{a b:aa}(h:a.cross b≠0):a≠⟨0,0⟩:=fun e=>h okY
def OF{r:List ZP}(hr:bD r)(hs:kA r){i:Nat}(hi:i<r.length)(hK:(eD r (fP r i)).cross (bP (eD r i))=0):(eD r (fP r i)).dot (eD r i)>0:=by
 have hj:=u9 hi;have hne:=LQ hr hi;have a1:=wW hr hi;have a2:=wW hr hj;have hv:aC r (fP r i)=bi r i:=wL;have hin:=fun s s0 s1=>CV hr hs hi hj hne (s:=s) s0 s1;obtain⟨d,hd⟩: ∃d,d=eD r i:=⟨_,rfl⟩;obtain⟨u,hu⟩: ∃u,u=eD r (fP r i):=⟨_,rfl⟩;rw[<-hd] at hK a1⊢;rw[<-hu] at hK a2⊢;have k0:u.x*d.y=u.y*d.x:=by unfold aa.cross bP at hK;dsimp only at hK;grind
 obtain⟨q,hq⟩: ∃q,q=u.dot d:=⟨_,rfl⟩;have hq':q=u.x*d.x+u.y*d.y:=by rw[hq];rfl
 rw[<-hq];refine Rat.not_le.1 fun hle=>?_;have f1:q*u.x=d.x*(u.x*u.x+u.y*u.y):=by rw[hq'];grind
 have f2:q*u.y=d.y*(u.x*u.x+u.y*u.y):=by rw[hq'];grind
 rcases cP q with h|h|h
 .rw[h] at f1 f2
  have z1:d.x=0:=by
   rcases bX.1 (show d.x*(u.x*u.x+u.y*u.y)=0 by grind) with k|k
   .exact k
   .grind
  have z2:d.y=0:=by
   rcases bX.1 (show d.y*(u.x*u.x+u.y*u.y)=0 by grind) with k|k
   .exact k
   .grind
  rw[z1,z2] at a1;grind
 .grind
 .obtain⟨c,hc⟩: ∃c,c=u.x*u.x+u.y*u.y:=⟨_,rfl⟩
  rw[<-hc] at f1 f2 a2
  -- d = (q / c) u, q < 0: a point of both
  obtain⟨b,hb⟩: ∃b,b= -q/c:=⟨_,rfl⟩;have b0:0<b:=by rw[hb];exact div_pos omb a2
  have hbc:b*c= -q:=by rw[hb];grind
  have g1:d.x= -(b*u.x):=by
   have:c*(d.x+b*u.x)=0:=by grind
   rcases bX.1 this with k|k
   .grind
   .grind
  have g2:d.y= -(b*u.y):=by
   have:c*(d.y+b*u.y)=0:=by grind
   rcases bX.1 this with k|k
   .grind
   .grind
  obtain⟨t,t0,t1,t2⟩:=mD (show(0:Rat)<1/2 by decide+kernel) (div_pos (show(0:Rat)<1 by decide) (show 0<2*b by grind))
  have h12:(1/2:Rat)<1:=by decide+kernel
  have tb:t<1:=by grind
  have hin2:=hin (1-t) omb omb;have e3:b*t<=1:=by
   have h1:1/(2*b)*(2*b)=1:=by grind
   have h2:=bz (show 0<=1/(2*b)-t by grind) (show 0<=2*b by grind);have h3:=bg b0 t0;grind
  refine hin2 ⟨b*t,aN (bg b0 t0),e3,?_⟩;have v1:u.x=(bi r (fP r i)).x-(bi r i).x:=by rw[hu,<-hv];rfl
  have v2:u.y=(bi r (fP r i)).y-(bi r i).y:=by rw[hu,<-hv];rfl
  have w1:d.x=(bi r i).x-(aC r i).x:=by rw[hd];rfl
  have w2:d.y=(bi r i).y-(aC r i).y:=by rw[hd];rfl
  rw[hv];unfold aA;simp only[aa.mk.injEq];constructor<;>grind
def yS(c v w:aa)(t:Rat):c.cross (aA v w t)=(1-t)*c.cross v+t*c.cross w/\(aA v w t).cross c=(1-t)*v.cross c+t*w.cross c:=by unfold aa.cross aA;dsimp only;constructor<;>grind
def vd{a b t:Rat}(ha:0<a)(hb:0<b)(t0:0<=t)(t1:t<=1):0<(1-t)*a+t*b:=by
 have h2:=bz (show 0<=1-t by grind) (aN ha);rcases cP t with k|k|k
 .rw[k];grind
 .have:=bg k hb;grind
 .grind
theorem ozk{p:Prop}(h:p:=by rw[<-hK];exact k):p:=h
def aF6{r:List ZP}(hr:bD r)(hs:kA r){i:Nat}(hi:i<r.length){s s':Rat}(s0:0<s)(s1:s<1)(t0:0<s')(t1:s'<1){x y:Int}(hx:LG r i s x)(hy:LG r (fP r i) s' y):x=y:=by
 have hj:=u9 hi;have b1:=wW hr hi;have b2:=wW hr hj;have hopp:=OF hr hs hi;have hvf:=fun w=>WG hr hs hi (w:=w);obtain⟨v,hv⟩: ∃v,v=bi r i:=⟨_,rfl⟩;have hvA:aC r (fP r i)=v:=by rw[hv];rfl
 obtain⟨d,hd⟩: ∃d,d=eD r i:=⟨_,rfl⟩;obtain⟨u2,hu2⟩: ∃u,u=eD r (fP r i):=⟨_,rfl⟩;obtain⟨u1,hu1⟩: ∃u,u=bP d:=⟨_,rfl⟩;obtain⟨n1,hn1⟩: ∃n,n=eG d:=⟨_,rfl⟩;obtain⟨n2,hn2⟩: ∃n,n=eG u2:=⟨_,rfl⟩;rw[<-hd,<-hu2] at hvf hopp;rw[<-hd] at b1;rw[<-hu2] at b2;rw[<-hv,<-hu1] at hvf;rw[<-hu1] at hopp;obtain⟨K,hK⟩: ∃K,K=u2.cross u1:=⟨_,rfl⟩;obtain⟨c1,hc1⟩: ∃c,c=n2.cross u1:=⟨_,rfl⟩;obtain⟨c2,hc2⟩: ∃c,c=u2.cross n1:=⟨_,rfl⟩;have p1: ∀z,u2.cross (av u2 n2 z)=z*(u2.x*u2.x+u2.y*u2.y):=fun z=>by rw[hn2];unfold aa.cross av eG;dsimp only;grind
 have p2: ∀z,(av u2 n2 z).cross u1=K+z*c1:=fun z=>by rw[hK,hc1];unfold aa.cross av;dsimp only;grind
 have p3: ∀z,(av u1 n1 z).cross u1=z*(d.x*d.x+d.y*d.y):=fun z=>by rw[hn1,hu1];unfold aa.cross av eG bP;dsimp only;grind
 have p4: ∀z,u2.cross (av u1 n1 z)=K+z*c2:=fun z=>by rw[hK,hc2];unfold aa.cross av;dsimp only;grind
 obtain⟨y0,y00,hy0⟩: ∃y0:Rat,0<y0/\ ∀z,0<z->z<=y0->(0<K->0<K+z*c1/\0<K+z*c2):=by
  by_cases h:0<K
  .obtain⟨e1,h1,k1⟩:=EW c1 h
   obtain⟨e2,h2,k2⟩:=EW c2 h;obtain⟨e,h3,h4,h5⟩:=mD h1 h2;exact⟨e,h3,fun z z0 z1 _=>⟨k1 z (aN z0) omb,k2 z (aN z0) omb⟩⟩
  .exact⟨1,oma,fun z _ _ k=>absurd k h⟩
 have hf2: ∀z,0<z->z<=y0->mF (fq r) v (av u2 n2 z):=fun z z0 z1=>by
  have q1:0<u2.cross (av u2 n2 z):=by rw[p1];exact bg z0 b2
  refine hvf _ (Dq (a:=u2) omb) (fun hp=>?_) (fun hp=>?_)
  .obtain⟨_,h2,h3,_,_,_⟩:=oy (c:=u2) hp
   rw[<-hK] at h2 h3;rcases cP K with k|k|k
   .have:=h3 k;grind
   .have:=(oy (c:=u1) hp).2.2.2.2.2 (rg _)
    rw[p2] at this;have:=(hy0 z z0 z1 k).1;grind
   .have:=h2 k;grind
  .have:=(oy (c:=u2) hp).2.2.1 (rg _);grind
 have hf1: ∀z,0<z->z<=y0->mF (fq r) v (av u1 n1 z):=fun z z0 z1=>by
  have q1:0<(av u1 n1 z).cross u1:=by rw[p3];exact bg z0 b1
  refine hvf _ (M4 (b:=u1) omb) (fun hp=>?_) (fun hp=>?_)
  .have:=(oy (c:=u1) hp).2.2.2.2.2 (rg _);grind
  .obtain⟨_,_,_,_,h2,h3⟩:=oy (c:=u1) hp
   rw[<-hK] at h2 h3;rcases cP K with k|k|k
   .have:=h3 k;grind
   .have:=(oy (c:=u2) hp).2.2.1 (rg _)
    rw[p4] at this;have:=(hy0 z z0 z1 k).2;grind
   .have:=h2 k;grind
 obtain⟨g2,hg2⟩:=CL hr (hf2 y0 y00 dX);obtain⟨g1,hg1⟩:=CL hr (hf1 y0 y00 dX);have half1:(1/2:Rat)<1:=by decide+kernel
 have e2:g2=y:=by
  obtain⟨e,e0,he⟩:=QB hr y00 hf2 hg2;obtain⟨c,c0,c3,c4⟩:=mD e0 (show(0:Rat)<1/2 by decide+kernel);have h:=he c c0 c3;have em:av v u2 c=aA (aC r (fP r i)) (bi r (fP r i)) c:=by rw[hu2,<-hvA];rfl
  rw[em,hn2,hu2] at h;exact Ig hr hs hj c0 omb t0 t1 h hy
 have e1:g1=x:=by
  obtain⟨e,e0,he⟩:=QB hr y00 hf1 hg1;obtain⟨c,c0,c3,c4⟩:=mD e0 (show(0:Rat)<1/2 by decide+kernel);have h:=he c c0 c3;have em:av v u1 c=aA (aC r i) (bi r i) (1-c):=by rw[hu1,hd,hv];unfold av bP eD aA;simp only[aa.mk.injEq];constructor<;>grind
  rw[em,hn1,hd] at h;exact Ig hr hs hi omb omb s0 s1 h hx
 rw[<-e1,<-e2];have q1:0<u2.cross (av u2 n2 y0):=by rw[p1];exact bg y00 b2
 have q3:0<(av u1 n1 y0).cross u1:=by rw[p3];exact bg y00 b1
 rcases cP K with k|k|k
 .-- straight on
  have hdot:=hopp ozk;have q4:0<u2.cross (av u1 n1 y0):=by
   rw[p4,k,hc2];have:u2.cross n1=u2.dot d:=by rw[hn1];unfold aa.cross eG aa.dot;dsimp only;grind
   rw[this];have:=bg y00 hdot;grind
  refine(GZ.uniq (zt hr (fun t t0 t1=>?_) hg2) hg1).symm;have m1:=vd q1 q4 t0 t1;rw[<-(yS u2 _ _ t).1] at m1;refine hvf _ (Dq (a:=u2) omb) (fun hp=>?_) (fun hp=>?_)
  .have:=(oy (c:=u2) hp).2.2.1 ozk;grind
  .have:=(oy (c:=u2) hp).2.2.1 (rg _);grind
 .-- to the left
  obtain⟨r1,r2⟩:=hy0 y0 y00 dX k;rw[<-p2] at r1;rw[<-p4] at r2;refine(GZ.uniq (zt hr (fun t t0 t1=>?_) hg2) hg1).symm;have m1:=vd q1 r2 t0 t1;rw[<-(yS u2 _ _ t).1] at m1;have m2:=vd r1 q3 t0 t1;rw[<-(yS u1 _ _ t).2] at m2;refine hvf _ (Dq (a:=u2) omb) (fun hp=>?_) (fun hp=>?_)
  .have:=(oy (c:=u1) hp).2.2.2.2.2 (rg _);grind
  .have:=(oy (c:=u2) hp).2.2.1 (rg _);grind
 .-- to the right
  obtain⟨z,hz⟩: ∃z:aa,z=⟨-u1.x-u2.x, -u1.y-u2.y⟩:=⟨_,rfl⟩;have z1:u2.cross z= -K:=by rw[hz,hK];unfold aa.cross;dsimp only;grind
  have z2:z.cross u1= -K:=by rw[hz,hK];unfold aa.cross;dsimp only;grind
  have hg3:GZ r v z g2:=zt hr (fun t t0 t1=>by
   have m1:=vd q1 (show 0<u2.cross z by rw[z1];grind) t0 t1;rw[<-(yS u2 _ _ t).1] at m1;refine hvf _ (Dq (a:=u2) omb) (fun hp=>?_) (fun hp=>?_)
   .have:=(oy (c:=u2) hp).2.1 ozk;grind
   .have:=(oy (c:=u2) hp).2.2.1 (rg _);grind) hg2
  refine(GZ.uniq (zt hr (fun t t0 t1=>?_) hg3) hg1).symm;have m1:=vd (show 0<z.cross u1 by rw[z2];grind) q3 t0 t1;rw[<-(yS u1 _ _ t).2] at m1;refine hvf _ (M4 (b:=u1) omb) (fun hp=>?_) (fun hp=>?_)
  .have:=(oy (c:=u1) hp).2.2.2.2.2 (rg _);grind
  .have:=(oy (c:=u1) hp).2.2.2.2.1 ozk;grind
def aHq{r:List ZP}(hr:bD r)(hs:kA r): ∃L:Int,∀i,i<r.length-> ∀s x,0<s->s<1->LG r i s x->x=L:=by
 have h3:=hr.n3;have hh:(0:Rat)<1/2:=by decide+kernel
 have hh1:(1/2:Rat)<1:=by decide+kernel
 obtain⟨L,hL⟩:=I4 hr hs (i:=0) we hh hh1;refine⟨L,fun i=>?_⟩
 induction i with
 |zero=>intro hi s x s0 s1 hx;exact Ig hr hs hi s0 s1 hh hh1 hx hL
 |succ i ih=>
  intro hi s x s0 s1 hx;obtain⟨y,hy⟩:=I4 hr hs (i:=i) we hh hh1;have e:fP r i=i+1:=dZ hi;have:=aF6 hr hs (i:=i) we hh hh1 s0 s1 hy (by rw[e];exact hx);rw[<-this];exact ih we _ _ hh hh1 hy
def gn(p:aa)(d:Rat):aa:=⟨p.x+d,p.y⟩
def Q2(p:aa)(d:Rat):av p ⟨1,0⟩ d=gn p d:=by unfold av gn;simp only[aa.mk.injEq];constructor<;>grind
def Qt(p:aa)(d:Rat):av p ⟨-1,0⟩ d=gn p (-d):=by unfold av gn;simp only[aa.mk.injEq];constructor<;>grind
def T3{r:List ZP}(hr:bD r)(hs:kA r){i:Nat}(hi:i<r.length){s:Rat}(s0:0<s)(s1:s<1)(hy:(eD r i).y≠0): ∃e:Rat,0<e/\ ∀d,0<d->d<=e->cx r (gn (aA (aC r i) (bi r i) s) (-d))-cx r (gn (aA (aC r i) (bi r i) s) d)=if 0<(eD r i).y then 1 else-1:=by
 obtain⟨m,hm⟩: ∃m,m=aA (aC r i) (bi r i) s:=⟨_,rfl⟩;have hin:=fun k hk hki=>CV hr hs hi (k:=k) hk hki s0 s1;rw[<-hm] at hin⊢;obtain⟨e,e0,he⟩:=wJ (uQ hr) m ⟨-1,0⟩ ⟨1,0⟩;refine⟨e,e0,fun d d0 d1=>?_⟩;have key: ∀k,k<=r.length->gp r (gn m (-d)) k-gp r (gn m d) k=if i<k then(if 0<(eD r i).y then 1 else-1) else 0:=by
  intro k
  induction k with
  |zero=>intro _;rfl
  |succ k ih=>
   intro hk;have ih:=ih we;show gp r (gn m (-d)) k+d6 (aC r k) (bi r k) (gn m (-d))-(gp r (gn m d) k+d6 (aC r k) (bi r k) (gn m d))=_;by_cases hki:k=i
   .subst hki
    rw[if_neg we] at ih;rw[if_pos we];have hmy:m.y=(aC r k).y+s*(eD r k).y:=by rw[hm];rfl
    have hot: ∀z,ak (aC r k) (bi r k) (gn m z)= -(z*(eD r k).y):=fun z=>by rw[hm];unfold ak gn aA eD;dsimp only;grind
    have hb:(bi r k).y=(aC r k).y+(eD r k).y:=by unfold eD;dsimp only;grind
    have w1:d6 (aC r k) (bi r k) (gn m (-d))=if 0<(eD r k).y then 1 else-1:=by
     unfold d6;rw[hot];have ey:(gn m (-d)).y=m.y:=J;rw[ey,hmy,hb];rcases cP (eD r k).y with h|h|h
     .exact absurd h hy
     .have a1:=bg s0 h
      have a2:=bg (show 0<1-s by grind) h;have a3:=bg d0 h;rw[if_pos (by refine⟨?_,?_,?_⟩<;>grind),if_neg omb,if_pos h];rfl
     .have h':0< -(eD r k).y:=by grind
      have a1:=bg s0 h';have a2:=bg (show 0<1-s by grind) h';have a3:=bg d0 h';rw[if_neg omb,if_pos (by refine⟨?_,?_,?_⟩<;>grind),if_neg omb];rfl
    have w2:d6 (aC r k) (bi r k) (gn m d)=0:=by
     unfold d6;rw[hot];have ey:(gn m d).y=m.y:=J;rw[ey,hmy,hb];rcases cP (eD r k).y with h|h|h
     .exact absurd h hy
     .have a1:=bg s0 h
      have a3:=bg d0 h;rw[if_neg omb,if_neg omb];rfl
     .have h':0< -(eD r k).y:=by grind
      have a1:=bg s0 h';have a3:=bg d0 h';rw[if_neg omb,if_neg omb];rfl
    rw[w1,w2];omega
   .have hl:d6 (aC r k) (bi r k) (gn m d)=d6 (aC r k) (bi r k) (gn m (-d)):=by
     refine TE (fun σ t σ0 σ1 t0 t1 h=>?_) J;refine he _ (Ci (show k<r.length by omega)) (hin k we hki) d t (aN d0) d1 t0 t1 ⟨σ,σ0,σ1,?_⟩;rw[h];unfold gn av aA;simp only[aa.mk.injEq];constructor<;>grind
    rw[hl];by_cases h:i<k
    .rw[if_pos h] at ih;rw[if_pos we];omega
    .rw[if_neg h] at ih;rw[if_neg we];omega
 have:=key r.length (bV _);rw[if_pos hi] at this;unfold cx;rw[tf,tf];exact this
theorem okb{p:Prop}(h:p:=by unfold aa.cross;dsimp only;grind):p:=h
def Sz{r:List ZP}(hr:bD r)(hs:kA r){L:Int}(hL: ∀i,i<r.length-> ∀s x,0<s->s<1->LG r i s x->x=L){i:Nat}(hi:i<r.length){s:Rat}(s0:0<s)(s1:s<1)(hy:(eD r i).y≠0): ∃e:Rat,0<e/\ ∀d,0<d->d<=e->cx r (gn (aA (aC r i) (bi r i) s) (-d))=(if 0<(eD r i).y then L else L-1)/\cx r (gn (aA (aC r i) (bi r i) s) d)=(if 0<(eD r i).y then L-1 else L):=by
 obtain⟨e1,p1,h1⟩:=T3 hr hs hi s0 s1 hy;obtain⟨x,hx⟩:=I4 hr hs hi s0 s1;obtain rfl:=hL i hi s x s0 s1 hx;have b:=wW hr hi;have free:=fun w hw=>Im hr hs hi s0 s1 (w:=w) hw;have hx':GZ r (aA (aC r i) (bi r i) s) (eG (eD r i)) x:=hx;generalize aA (aC r i) (bi r i) s=m at*;have wedge: ∀w:aa,0<(eD r i).cross w->GZ r m w x:=fun w hw=>zt hr (fun t t0 t1=>free _ (by
  have:=vd (show 0<(eD r i).cross (eG (eD r i)) by rw[Ml];exact b) hw t0 t1;rw[<-(yS (eD r i) _ _ t).1] at this;grind)) hx'
 rcases cP (eD r i).y with h|h|h
 .exact absurd h hy
 .obtain⟨e2,p2,h2⟩:=wedge ⟨-1,0⟩ okb
  obtain⟨e,p3,q1,q2⟩:=mD p1 p2;refine⟨e,p3,fun d d0 d1=>?_⟩;have k1:=h1 d d0 omb;have k2:=h2 d d0 omb;rw[Qt] at k2;rw[if_pos h] at k1⊢;rw[if_pos h];exact⟨k2,we⟩
 .obtain⟨e2,p2,h2⟩:=wedge ⟨1,0⟩ okb
  obtain⟨e,p3,q1,q2⟩:=mD p1 p2;refine⟨e,p3,fun d d0 d1=>?_⟩;have k1:=h1 d d0 omb;have k2:=h2 d d0 omb;rw[Q2] at k2;rw[if_neg omb] at k1⊢;rw[if_neg omb];exact⟨we,k2⟩
def qH(r:List ZP)(p:aa):Prop:= ∀k,k<r.length-> ¬f9 (aC r k) (bi r k) p
def Do(r:List ZP)(y:Rat):Prop:= ∀k,k<r.length->(aC r k).y≠y
def Hp: ∀(l:List Rat) (y:Rat) {e:Rat},0<e-> ∃d,0<d/\d<=e/\ ∀z∈l,z≠y+d
 |[],y,e,h=>⟨e,h,dX,fun z hz=>by cases hz⟩
 |a::l,y,e,h=>by
  by_cases ha:y<a
  .obtain⟨c,c0,c1,c2⟩:=mD h (show 0<(a-y)*(1/2) by grind)
   obtain⟨d,d0,d1,d2⟩:=Hp l y c0;refine⟨d,d0,omb,fun z hz=>?_⟩;rcases aW.1 hz with rfl|hz
   .grind
   .exact d2 z hz
  .obtain⟨d,d0,d1,d2⟩:=Hp l y h
   refine⟨d,d0,d1,fun z hz=>?_⟩;rcases aW.1 hz with rfl|hz
   .grind
   .exact d2 z hz
def Q7{r:List ZP}(hr:bD r){p:aa}(hp:qH r p): ∃q,qH r q/\Do r q.y/\cx r q=cx r p:=by
 obtain⟨e,e0,he⟩:=wJ (uQ hr) p ⟨0,1⟩ ⟨0,1⟩;obtain⟨d,d0,d1,d2⟩:=Hp ((List.range r.length).map fun k=>(aC r k).y) p.y e0;have hoff: ∀k,k<r.length-> ∀z,0<=z->z<=e-> ¬f9 (aC r k) (bi r k) (av p ⟨0,1⟩ z):=fun k hk z z0 z1 h=>by
  have:=he _ (Ci hk) (hp k hk) z 0 z0 z1 oma oma;rw[B4] at this;exact this h
 have hy:(av p ⟨0,1⟩ d).y=p.y+d:=by unfold av;dsimp only;grind
 refine⟨av p ⟨0,1⟩ d,fun k hk=>hoff k hk d (aN d0) d1,fun k hk=>?_,wb fun f hf=>?_⟩
 .rw[hy];exact d2 _ (aS.2 ⟨k,dS.2 hk,J⟩)
 .obtain⟨k,hk,rfl⟩:=si hf
  intro σ t σ0 σ1 t0 t1 h;have n1:=bz t0 (aN d0);have n2:=bz (show 0<=1-t by grind) (aN d0);refine hoff k hk (t*d) n1 omb ⟨σ,σ0,σ1,?_⟩;rw[h];unfold av aA;simp only[aa.mk.injEq];constructor<;>grind
def kl(r:List ZP)(y:Rat)(k:Nat)(s x:Rat):Prop:=k<r.length/\0<s/\s<1/\(eD r k).y≠0/\aA (aC r k) (bi r k) s=⟨x,y⟩
def aKN{r:List ZP}(hr:bD r){y:Rat}(hg:Do r y){k:Nat}(hk:k<r.length){z:aa}(h:f9 (aC r k) (bi r k) z)(hz:z.y=y): ∃s,kl r y k s z.x:=by
 obtain⟨s,s0,s1,rfl⟩:=h;have hA:=hg k hk;have hB:(bi r k).y≠y:=by rw[<-wL];exact hg _ (u9 hk)
 have hz':(aC r k).y+s*(eD r k).y=y:=hz;have hb:(bi r k).y=(aC r k).y+(eD r k).y:=by unfold eD;dsimp only;grind
 have n0:s≠0:=fun e=>hA (by rw[<-hz',e];grind);have n1:s≠1:=fun e=>hB (by rw[<-hz',hb,e];grind);have nd:(eD r k).y≠0:=fun e=>hA (by rw[<-hz',e];grind);refine⟨s,hk,omb,omb,nd,?_⟩;rw[<-hz]
def My{r:List ZP}(hr:bD r){p:aa}(hg:Do r p.y){d:Rat}(h: ∀k s x,kl r p.y k s x-> ¬(p.x<=x/\x<=p.x+d))(hd:0<=d):cx r (gn p d)=cx r p:=wb fun f hf=>by
 obtain⟨k,hk,rfl⟩:=si hf;intro σ t σ0 σ1 t0 t1 e;have ey:(aA p (gn p d) t).y=p.y:=by unfold aA gn;dsimp only;grind
 have ex:(aA p (gn p d) t).x=p.x+t*d:=by unfold aA gn;dsimp only;grind
 obtain⟨s,hs⟩:=aKN hr hg hk ⟨σ,σ0,σ1,e.symm⟩ ey;have n1:=bz t0 hd;have n2:=bz (show 0<=1-t by grind) hd;exact h k s _ hs ⟨by rw[ex];grind,by rw[ex];grind⟩
def Ld{r:List ZP}(hr:bD r){p:aa}(hp:100<p.x):cx r p=0:=by
 unfold cx;rw[tf];refine I2 (R:=100) (fun v hv=>?_) (.inr (.inl hp));obtain⟨h1,h2⟩:=hr.le v hv;have c: ∀z:Int,z.natAbs<=100-> -(100:Rat)<=(z:Rat)/\(z:Rat)<=100:=fun z hz=>by
  have a:((-100:Int):Rat)<=(z:Rat):=lS.2 we;have b:(z:Rat)<=((100:Int):Rat):=lS.2 we;exact⟨a,b⟩
 exact⟨(c _ h1).1,(c _ h1).2,(c _ h2).1,(c _ h2).2⟩
def zo{r:List ZP}{y:Rat}{k:Nat}{s s' x x':Rat}(h:kl r y k s x)(h':kl r y k s' x'):x=x':=by
 obtain⟨_,_,_,hy,e⟩:=h;obtain⟨_,_,_,_,e'⟩:=h';have a1:=congrArg aa.y e;have a2:=congrArg aa.y e';have b1:=congrArg aa.x e;have b2:=congrArg aa.x e';have f: ∀t,(aA (aC r k) (bi r k) t).y=(aC r k).y+t*(eD r k).y:=fun t=>J;rw[f] at a1 a2;dsimp only at a1 a2 b1 b2;have:(s-s')*(eD r k).y=0:=by grind
 rcases bX.1 this with q|q
 .have:s=s':=by grind
  rw[<-b1,<-b2,this]
 .exact absurd q hy
open Classical in
def YT{r:List ZP}{y b:Rat}(h: ∃k s x,kl r y k s x/\b<=x):(∃k s x,kl r y k s x/\b<=x/\ ∀k' s' x',kl r y k' s' x'->b<=x'->x<=x')/\(∃k s x,kl r y k s x/\b<=x/\ ∀k' s' x',kl r y k' s' x'->b<=x'->x'<=x):=by
 have key: ∀n,(∃k s x,k<n/\kl r y k s x/\b<=x)->(∃k s x,k<n/\kl r y k s x/\b<=x/\ ∀k' s' x',k'<n->kl r y k' s' x'->b<=x'->x<=x')/\(∃k s x,k<n/\kl r y k s x/\b<=x/\ ∀k' s' x',k'<n->kl r y k' s' x'->b<=x'->x'<=x):=by
  intro n
  induction n with
  |zero=>rintro ⟨k,_,_,hk,_⟩;exact absurd hk (Nat.not_lt_zero k)
  |succ n ih=>
   intro hex;by_cases hn: ∃s x,kl r y n s x/\b<=x
   .obtain⟨s,x,c1,c2⟩:=hn
    by_cases hm: ∃k s x,k<n/\kl r y k s x/\b<=x
    .obtain⟨⟨k1,s1,x1,l1,d1,e1,f1⟩,⟨k2,s2,x2,l2,d2,e2,f2⟩⟩:=ih hm
     have sp: ∀k',k'<n+1->k'<n\/k'=n:=fun k' h=>by omega
     constructor
     .by_cases hx:x<=x1
      .refine⟨n,s,x,we,c1,c2,fun k' s' x' hk h1 h2=>?_⟩
       rcases sp k' hk with h|rfl
       .have:=f1 k' s' x' h h1 h2;grind
       .rw[zo c1 h1];exact dX
      .refine⟨k1,s1,x1,we,d1,e1,fun k' s' x' hk h1 h2=>?_⟩
       rcases sp k' hk with h|rfl
       .exact f1 k' s' x' h h1 h2
       .rw[<-zo c1 h1];grind
     .by_cases hx:x2<=x
      .refine⟨n,s,x,we,c1,c2,fun k' s' x' hk h1 h2=>?_⟩
       rcases sp k' hk with h|rfl
       .have:=f2 k' s' x' h h1 h2;grind
       .rw[zo c1 h1];exact dX
      .refine⟨k2,s2,x2,we,d2,e2,fun k' s' x' hk h1 h2=>?_⟩
       rcases sp k' hk with h|rfl
       .exact f2 k' s' x' h h1 h2
       .rw[<-zo c1 h1];grind
    .have sp: ∀k' s' x',k'<n+1->kl r y k' s' x'->b<=x'->k'=n:=fun k' s' x' h h1 h2=>by
      rcases Nat.lt_succ_iff_lt_or_eq.1 h with h|h
      .exact absurd ⟨k',s',x',h,h1,h2⟩ hm
      .exact h
     constructor
     .exact⟨n,s,x,we,c1,c2,fun k' s' x' hk h1 h2=>by obtain rfl:=sp k' s' x' hk h1 h2;rw[zo c1 h1];exact dX⟩
     .exact⟨n,s,x,we,c1,c2,fun k' s' x' hk h1 h2=>by obtain rfl:=sp k' s' x' hk h1 h2;rw[zo c1 h1];exact dX⟩
   .have low: ∀k' s' x',k'<n+1->kl r y k' s' x'->b<=x'->k'<n:=fun k' s' x' h h1 h2=>by
     rcases Nat.lt_succ_iff_lt_or_eq.1 h with h|rfl
     .exact h
     .exact absurd ⟨s',x',h1,h2⟩ hn
    obtain⟨k,s,x,hk,h1,h2⟩:=hex;obtain⟨⟨k1,s1,x1,l1,d1,e1,f1⟩,⟨k2,s2,x2,l2,d2,e2,f2⟩⟩:=ih ⟨k,s,x,low k s x hk h1 h2,h1,h2⟩;exact⟨⟨k1,s1,x1,we,d1,e1,fun k' s' x' hk h1 h2=>f1 k' s' x' (low k' s' x' hk h1 h2) h1 h2⟩,⟨k2,s2,x2,we,d2,e2,fun k' s' x' hk h1 h2=>f2 k' s' x' (low k' s' x' hk h1 h2) h1 h2⟩⟩
 obtain⟨k,s,x,h1,h2⟩:=h;obtain⟨⟨k1,s1,x1,_,d1,e1,f1⟩,⟨k2,s2,x2,_,d2,e2,f2⟩⟩:=key r.length ⟨k,s,x,h1.1,h1,h2⟩;exact⟨⟨k1,s1,x1,d1,e1,fun k' s' x' h h'=>f1 k' s' x' h.1 h h'⟩,⟨k2,s2,x2,d2,e2,fun k' s' x' h h'=>f2 k' s' x' h.1 h h'⟩⟩
def QL{r:List ZP}(hr:bD r)(hs:kA r){L:Int}(hL: ∀i,i<r.length-> ∀s x,0<s->s<1->LG r i s x->x=L){p:aa}(hp:qH r p)(hg:Do r p.y)(h0:cx r p≠0):(cx r p=L\/cx r p=L-1)/\(L=0\/L=1):=by
 have far: ∀q:aa,q.y=p.y->(∀k s x,kl r p.y k s x-> ¬q.x<=x)->cx r q=0:=fun q hq h=>by
  by_cases hx:100<q.x
  .exact Ld hr hx
  .rw[<-My hr (p:=q) (by rw[hq];exact hg) (d:=101-q.x) (fun k s x hc hh=>h k s x (by rw[<-hq];exact hc) hh.1) omb]
   exact Ld hr (by unfold gn;dsimp only;grind)
 have hex: ∃k s x,kl r p.y k s x/\p.x<=x:=by
  apply Classical.byContradiction;intro hn;exact h0 (far p J fun k s x hc hh=>hn ⟨k,s,x,hc,hh⟩)
 obtain⟨⟨k1,s1,x1,c1,b1,f1⟩,⟨k2,s2,x2,c2,b2,f2⟩⟩:=YT hex;have hne:p.x≠x1:=fun e=>hp k1 c1.1 ⟨s1,aN c1.2.1,aN c1.2.2.1,by rw[c1.2.2.2.2,<-e]⟩;constructor
 .obtain⟨e,e0,he⟩:=Sz hr hs hL c1.1 c1.2.1 c1.2.2.1 c1.2.2.2.1
  obtain⟨d,d0,d1,d2⟩:=mD e0 (show 0<x1-p.x by grind);have h1:=(he d d0 d1).1;rw[c1.2.2.2.2] at h1;have em:gn ⟨x1,p.y⟩ (-d)=gn p (x1-d-p.x):=by unfold gn;simp only[aa.mk.injEq];constructor<;>grind
  rw[em,My hr hg (fun k s x hc hh=>by have:=f1 k s x hc hh.1;grind) omb] at h1;rw[h1];split
  .exact .inl J
  .exact .inr J
 .obtain⟨e,e0,he⟩:=Sz hr hs hL c2.1 c2.2.1 c2.2.2.1 c2.2.2.2.1
  have h1:=(he e e0 dX).2;rw[c2.2.2.2.2] at h1;rw[far (gn ⟨x2,p.y⟩ e) J (fun k s x hc hh=>by
   have hh':x2+e<=x:=hh;have:=f2 k s x hc omb;grind)] at h1
  split at h1<;>omega
def Js{r:List ZP}(hr:bD r)(hs:kA r):(∀p,qH r p->cx r p=0\/cx r p=1)\/(∀p,qH r p->cx r p=0\/cx r p= -1):=by
 obtain⟨L,hL⟩:=aHq hr hs;by_cases hall: ∀p,qH r p->cx r p=0
 .exact .inl fun p hp=> .inl (hall p hp)
 .obtain⟨p,hp,h0⟩: ∃p,qH r p/\cx r p≠0:=by
   apply Classical.byContradiction;intro hn;refine hall fun p hp=>?_;apply Classical.byContradiction;intro h;exact hn ⟨p,hp,h⟩
  obtain⟨q,q1,q2,q3⟩:=Q7 hr hp;have hL2:=(QL hr hs hL q1 q2 (by rw[q3];exact h0)).2;have all: ∀p,qH r p->cx r p=0\/cx r p=L\/cx r p=L-1:=fun p hp=>by
   obtain⟨q,q1,q2,q3⟩:=Q7 hr hp;by_cases h:cx r q=0
   .exact .inl (by rw[<-q3];exact h)
   .rw[<-q3];exact .inr (QL hr hs hL q1 q2 h).1
  rcases hL2 with rfl|rfl
  .right;intro p hp;rcases all p hp with h|h|h<;>omega
  .left;intro p hp;rcases all p hp with h|h|h<;>omega
def ye(v w p:aa):d6 w v p= -d6 v w p:=by
 have e:ak w v p= -ak v w p:=by unfold ak;grind
 unfold d6;rw[e];by_cases h1:v.y<=p.y<;>by_cases h2:w.y<=p.y<;>by_cases h3:0<ak v w p<;>by_cases h4:ak v w p<0<;>simp[h1,h2,h3,h4]<;>grind
def SH(v p:aa):d6 v v p=0:=by have:=ye v v p;omega
def sF(r:List ZP)(p:aa)(k:Nat):Int:=d6 (aC r 0) (aC r k) p+d6 (aC r k) (bi r k) p+d6 (bi r k) (aC r 0) p
def yy(r:List ZP)(p:aa):Nat->Int
 |0=>0
 |k+1=>yy r p k+sF r p k
def MO{r:List ZP}(p:aa): ∀m,m<r.length->yy r p m=gp r p m+d6 (aC r m) (aC r 0) p
 |0,_=>by
  show(0:Int)=0+_;rw[SH];rfl
 |m+1,h=>by
  have ih:=MO (r:=r) p m we;have hb:bi r m=aC r (m+1):=by unfold aC bi;rw[uh h]
  show yy r p m+sF r p m=gp r p m+d6 (aC r m) (bi r m) p+_;rw[ih];unfold sF;rw[hb,ye (aC r m) (aC r 0)];omega
def aFT{r:List ZP}(hr:bD r)(p:aa):cx r p=yy r p r.length:=by
 have h3:=hr.n3;obtain⟨m,hm⟩: ∃m,r.length=m+1:=⟨r.length-1,we⟩;have ih:=MO (r:=r) p m we;have hb:bi r m=aC r 0:=by unfold aC bi;rw[uH]
 unfold cx;rw[tf,hm];show gp r p m+d6 (aC r m) (bi r m) p=yy r p m+sF r p m;rw[ih];unfold sF;rw[hb,ye (aC r m) (aC r 0),SH];omega
def l9(x:Bool×au):DV:= .ag [.sl (x.2.map gF),eU (.leaf x.1)]
def Xn(l:List (Bool×au)):dH 2 (l.map l9):=fun d hd=>by
 obtain⟨x,_,rfl⟩:=aS.1 hd;exact⟨J,J⟩
def Bt: ∀(t:Tr) (c:au),(t.parts c).length<=t.size+1
 | .leaf _,_=>bV _
 | .node l x y,c=>by
  have h1:=Bt x (b9 c l);have h2:=Bt y (b9 c l.rev);rw[Tr.parts,aR,Tr.size];split<;>split<;>(try simp only[gQ])<;>omega
def z6{q:Rat}{i:Nat}[h:BQ q i](hi:i<=900000000:=by decide):PF GB prog 47 [eF q] (eR q):=by
 refine fn func47 J J ntmps47 J J (fun C=>?_);refine cl J (wU (q:=q) (i:=i) hi) J<|cl J (r6 (q:=q) (i:=i) hi) J<|rz J J
def Yc{p:aa}{i:Nat}[h:aE p i](hi:i<=900000000:=by decide):PF GB prog 55 [eZ p] (o5 p):=by
 refine fn func55 J J ntmps55 J J (fun C=>?_);refine cl J (z6 (q:=p.x) (i:=i) hi) J<|cl J (z6 (q:=p.y) (i:=i) hi) J<|rz J J
def VM{b:Bool}{c:au}{o:List (Bool×au)}(hs:o.length<=1000000):PB GB prog 226 (e8 [some (eU (.leaf b)),some (.sl (c.map gF)),none]) 2 292 (o.map l9) (fun w=> .v (.slice w.a w.n w.c)) ((o++Tr.parts (.leaf b) c).map l9):=by
 refine uF func226 J J ntmps226 J J (fun C=>?_);refine cl (fu:=⟨0⟩) J FE J<|rk 12 J<|gx J<|rf J J<|Iv ((o++[(b,c)]).map l9) J okt (Xn [(b,c)]) J<|?_;exact nB J J J J
theorem oky{p:Prop}(h:p:=by simp[Tr.parts,hc30,hc38]):p:=h
def aoT{l:ab}{x y:Tr}{c:au}{o:List (Bool×au)}(hl:LB l)(hlo:l.ok)(hc:jG c)(hn:c.length+(Tr.node l x y).depth<=100000)(hs:o.length+((Tr.node l x y).size+1)<=1000000)(ihx: ∀{c:au} {o:List (Bool×au)},jG c->c.length+x.depth<=100000->o.length+(x.size+1)<=1000000->PB GB prog 226 (e8 [some (eU x),some (.sl (c.map gF)),none]) 2 292 (o.map l9) (fun w=> .v (.slice w.a w.n w.c)) ((o++Tr.parts x c).map l9))(ihy: ∀{c:au} {o:List (Bool×au)},jG c->c.length+y.depth<=100000->o.length+(y.size+1)<=1000000->PB GB prog 226 (e8 [some (eU y),some (.sl (c.map gF)),none]) 2 292 (o.map l9) (fun w=> .v (.slice w.a w.n w.c)) ((o++Tr.parts y c).map l9)):PB GB prog 226 (e8 [some (eU (.node l x y)),some (.sl (c.map gF)),none]) 2 292 (o.map l9) (fun w=> .v (.slice w.a w.n w.c)) ((o++Tr.parts (.node l x y) c).map l9):=by
 have hk1:=CN c l;have hk2:=CN c l.rev;have hd:(Tr.node l x y).depth=1+max x.depth y.depth:=J;have hz:(Tr.node l x y).size=1+x.size+y.size:=J;have hp:=Bt x (b9 c l);refine uF func226 J J ntmps226 J J (fun C=>?_);refine cl (fu:=⟨0⟩) J zq J<|xM 12 J<|gx J<|cl J (aA4 hlo hc we) J<|bb J J J (fun hc30=>?_) (fun hc30=>?_)
 .
  have hs2:(o++x.parts (b9 c l)).length+(y.size+1)<=1000000:=by rw[aR];omega
  refine cq ((o++x.parts (b9 c l)).map l9) J (ihx (BK hlo hc) we we) J J<|bb J J J (fun hc38=>?_) (fun hc38=>?_)
  .
   refine cq _ J (ihy (BK hlo.rev hc) we (by first|exact hs2|omega)) J J<|?_;exact nB J J J oky
  .
   exact nB J J J oky
 .
  refine bb J J J (fun hc38=>?_) (fun hc38=>?_)
  .
   refine cq _ J (ihy (BK hlo.rev hc) we (by first|exact hs2|omega)) J J<|?_;exact nB J J J oky
  .
   exact nB J J J oky
def Hn: ∀{t:Tr} {c:au} {o:List (Bool×au)},t.all LB->t.all ab.ok->jG c->c.length+t.depth<=100000->o.length+(t.size+1)<=1000000->PB GB prog 226 (e8 [some (eU t),some (.sl (c.map gF)),none]) 2 292 (o.map l9) (fun w=> .v (.slice w.a w.n w.c)) ((o++Tr.parts t c).map l9)
 | .leaf _,_,_,_,_,_,_,hs=>VM (by simp only[Tr.size] at hs;omega)
 | .node _ _ _,_,_,hb,ho,hc,hn,hs=>aoT hb.1 ho.1 hc hn hs (fun k1 k2 k3=>Hn hb.2.1 ho.2.1 k1 k2 k3) (fun k1 k2 k3=>Hn hb.2.2 ho.2.2 k1 k2 k3)
def Zh{t:Tr}(hb:t.all LB)(ho:t.all ab.ok)(hd:t.depth<=100000)(hs:t.size<=900000):PB GB prog 226 (e8 [some (eU t),some (.sl []),none]) 2 292 [] (fun w=> .v (.slice w.a w.n w.c)) ((t.parts []).map l9):=
 Hn (c:=[]) (o:=[]) hb ho jG.nil (by rw[gQ];omega) (by rw[gQ];omega)
def eC(c:au):DV:= .sl (c.map gF)
def aKm(l:List au):dH 1 (l.map eC):=fun d hd=>by
 obtain⟨x,_,rfl⟩:=aS.1 hd;exact⟨J,J⟩
def B7(ps:List (Bool×au)):List au:=(ps.filter (·.1)).map (·.2)
def TJ{ps:List (Bool×au)}{k:Nat}{b:Bool}{e:au}(h:ps[k]? =some (b,e)):B7 (ps.drop k)=(if b then [e] else [])++B7 (ps.drop (k+1)):=by
 obtain⟨h1,h2⟩:=bQ.1 h;rw[bU h1,h2];unfold B7
 cases b<;>simp
def U5{t:Tr}(hb:t.all LB)(ho:t.all ab.ok)(hd:t.depth<=100000)(hs:t.size<=900000):PF GB prog 204 [eU t] (.sl ((t.parts []).map l9)):=by
 refine fn func204 J J ntmps204 J J (fun C=>?_);refine Qu _ J (Zh hb ho hd hs) J J<|jd 4 J<|rz J J
def aDS{t:Tr}(hb:t.all LB)(ho:t.all ab.ok)(hd:t.depth<=100000)(hs:t.size<=900000):PF GB prog 154 [eU t] (.sl ((bF t).map eC)):=by
 obtain⟨ps,hps⟩: ∃ps,ps=t.parts []:=⟨_,rfl⟩;have hpl:=Bt t [];rw[<-hps] at hpl;have hml:(ps.map l9).length=ps.length:=aK ..;refine fn func154 J J ntmps154 J J (fun C=>?_);refine cl (fu:=⟨0⟩) J (U5 hb ho hd hs) J<|ah 7 (.d (.sl (ps.map l9))) J (by rw[hps])<|gx (fu:=⟨1⟩) J<|ah 8 (.d (vI (ps.length:Nat))) J omr<|gx J<|nr 3 3 214 1 J J J<|lp (X:=List au×Nat) (fun⟨acc,k⟩=>[(9, .d (vI (k:Nat))),(3, .rw 3)]) (fun⟨acc,k⟩=>[(3,some (.b 214 1 (acc.map eC) true))]) (fun⟨acc,k⟩=>acc++B7 (ps.drop k)=bF t/\k<=ps.length) (fun⟨acc,k⟩=>ps.length-k) ⟨[],0⟩ J ⟨by rw[hps];rfl,bS _⟩ (fun _=>J) (fun⟨acc,k⟩ hk=>?_)
 try dsimp only at hk⊢
 obtain⟨h1,h2⟩:=hk;have hal:acc.length<=ps.length:=by
  have q1:=congrArg List.length h1;have q2:(bF t).length<=ps.length:=by unfold bF;rw[aK,hps];exact nU ..
  rw[aR] at q1;omega
 have ham:(acc.map eC).length=acc.length:=aK ..;refine br J J J (fun hc10=>?_) (fun hc10=>?_)
 .
  obtain⟨⟨b,e⟩,hx⟩: ∃x,ps[k]? =some x:=⟨_,aZ we⟩;refine ix _ J (dP hx) J<|bb J J J (fun hc17=>?_) (fun hc17=>?_)
  .
   refine rf J J<|ap ((acc++[e]).map eC) J okt (aKm [e]) J<|iE 22 3 J<|at_ ⟨acc++[e],k+1⟩ (by dsimp only;exact⟨⟨by rw[<-h1,TJ hx,if_pos hc17];simp,we⟩,we⟩)
  .
   exact at_ ⟨acc,k+1⟩ (by dsimp only;exact⟨⟨by rw[<-h1,TJ hx,if_neg (by simp at hc17;rw[hc17];decide)];rfl,we⟩,we⟩)
 .
  obtain rfl:k=ps.length:=by omega
  obtain rfl:acc=bF t:=by rw[fR] at h1;simpa[B7] using h1
  refine jd 3 J<|rz J J
def XB(l m:ab):l.dir.cross m.dir=(crossI l m:Rat):=by
 unfold aa.cross ab.dir crossI;rw[kW,cS,cS];grind
def Hr{l m:ab}(h:0<Int.sign (l.dir.cross m.dir).num):crossI l m≠0:=fun e=>by
 rw[k9,XB,e] at h;exact absurd h oma
def PO{l m:ab}(h:crossI l m≠0):l.nor.cross m.nor≠0:=fun e=>by
 have:l.nor.cross m.nor=(crossI l m:Rat):=by
  unfold aa.cross ab.nor crossI;rw[kW,cS,cS];grind
 rw[this] at e;exact h (eM.1 e)
def R3{l m:ab}(h:crossI l m≠0):c9 l m=⟨((l.b:Rat)*(m.c:Rat)-(l.c:Rat)*(m.b:Rat))/l.nor.cross m.nor,((l.c:Rat)*(m.a:Rat)-(l.a:Rat)*(m.c:Rat))/l.nor.cross m.nor⟩:=by
 have e1:(meetX l m:Rat)=(l.b:Rat)*(m.c:Rat)-(l.c:Rat)*(m.b:Rat):=by unfold meetX;rw[kW,cS,cS];grind
 have e2:(meetY l m:Rat)=(l.c:Rat)*(m.a:Rat)-(l.a:Rat)*(m.c:Rat):=by unfold meetY;rw[kW,cS,cS];grind
 have e3:(crossI l m:Rat)=l.nor.cross m.nor:=by unfold aa.cross ab.nor crossI;rw[kW,cS,cS];grind
 unfold c9;rw[if_neg h,e1,e2,e3]
def FF: ∀{t:Tr} {c:au} {x:Bool×au},t.all LB->t.all ab.ok->jG c->x∈t.parts c->jG x.2/\x.2.length<=c.length+t.depth
 | .leaf b,c,x,_,_,hc,h=>by
  rw[Tr.parts,aV] at h;subst h;exact⟨hc,pQ _ _⟩
 | .node l u v,c,x,hb,ho,hc,h=>by
  have hl:=hb.1;have hd:(Tr.node l u v).depth=1+max u.depth v.depth:=J;rw[Tr.parts] at h;rcases bJ.1 h with h|h
  .split at h
   .obtain⟨k1,k2⟩:=FF hb.2.1 ho.2.1 (BK ho.1 hc) h
    have:=CN c l;exact⟨k1,we⟩
   .cases h
  .split at h
   .obtain⟨k1,k2⟩:=FF hb.2.2 ho.2.2 (BK ho.1.rev hc) h
    have:=CN c l.rev;exact⟨k1,we⟩
   .cases h
def Ge(t:Tr):(bF t).length<=t.size+1:=by
 unfold bF;rw[aK];exact dJ (nU ..) (Bt t [])
def If{t:Tr}(hb:t.all LB)(ho:t.all ab.ok): ∀c∈bF t,c.length<=t.depth:=fun c hc=>by
 have:=(FF hb ho jG.nil (n8.1 hc)).2;simpa using this
theorem GJ{t:Tr}(hb:t.all LB)(ho:t.all ab.ok): ∀c∈bF t,∀s∈c,LB s.l:=fun c hc s hs=>((FF hb ho jG.nil (n8.1 hc)).1 s hs).lb
def Uz(l:List aa):dH 6 (l.map eZ):=fun d hd=>by
 obtain⟨x,_,rfl⟩:=aS.1 hd;exact⟨J,J⟩
def An{α:Type}{vs:List α}{f:α->Bool}{k:Nat}{v:α}(h:vs[k]? =some v):(vs.drop k).all f=(f v&&(vs.drop (k+1)).all f):=by
 obtain⟨h1,h2⟩:=bQ.1 h;rw[bU h1,h2,List.all_cons]
def aDv{l m:ab}[hl:LB l][hm:LB m](hz:crossI l m≠0):PF GB prog 189 [iq l,iq m] (.tp [eZ (c9 l m),vB true]):=by
 haveI:=aE.nor l;haveI:=aE.nor m;refine fn func189 J J ntmps189 J J (fun C=>?_);refine cl J (Ac (l:=l)) J<|cl J (Ac (l:=m)) J<|cl J (Cr (p:=l.nor) (q:=m.nor) (i:=97) (j:=97)) J<|cl (fu:=⟨0⟩) J (IQ (q:=l.nor.cross m.nor)) J<|ah 15 (.d (vB false)) J (by rw[decide_eq_false (PO hz)])<|xM 15 J<|gx J<|cl J (iz (p:=(l.b:Rat)) (q:=(m.c:Rat)) (i:=97) (j:=97)) J<|cl J (iz (p:=(l.c:Rat)) (q:=(m.b:Rat)) (i:=97) (j:=97)) J<|cl J (vj (p:=(l.b:Rat)*(m.c:Rat)) (q:=(l.c:Rat)*(m.b:Rat))) J<|cl J (ya (p:=(l.b:Rat)*(m.c:Rat)-(l.c:Rat)*(m.b:Rat)) (q:=l.nor.cross m.nor)) J<|cl J (iz (p:=(l.c:Rat)) (q:=(m.a:Rat)) (i:=97) (j:=97)) J<|cl J (iz (p:=(l.a:Rat)) (q:=(m.c:Rat)) (i:=97) (j:=97)) J<|cl J (vj (p:=(l.c:Rat)*(m.a:Rat)) (q:=(l.a:Rat)*(m.c:Rat))) J<|cl J (ya (p:=(l.c:Rat)*(m.a:Rat)-(l.a:Rat)*(m.c:Rat)) (q:=l.nor.cross m.nor)) J<|rz J (by rw[R3 hz];rfl)
def aDt{c:au}(hb: ∀s∈c,LB s.l)(hn:c.length<=100000):PF GB prog 128 [eC c] (.sl ((ge (c.map (·.l))).map eZ)):=by
 have hml:(c.map gF).length=c.length:=aK ..;obtain⟨L,hL⟩: ∃L,L=c.map (·.l):=⟨_,rfl⟩;have hLl:L.length=c.length:=by rw[hL,aK]
 refine fn (fu:=⟨15⟩) func128 J J ntmps128 J J (fun C=>?_);refine ah 10 (.d (vI (c.length:Nat))) J omr<|gx J<|nr 3 3 119 6 J J J<|lp (X:=List aa×Nat) (fun⟨acc,k⟩=>[(11, .d (vI (k:Nat))),(3, .rw 3)]) (fun⟨acc,k⟩=>[(3,some (.b 119 6 (acc.map eZ) true))]) (fun⟨acc,k⟩=>acc=(List.range k).flatMap (rx L)/\k<=c.length) (fun⟨acc,k⟩=>c.length-k) ⟨[],0⟩ J ⟨J,bS _⟩ (fun _=>J) (fun⟨acc,k⟩ hk=>?_)
 try dsimp only at hk⊢
 obtain⟨h1,h2⟩:=hk;have hal:=EQ L k;rw[<-h1] at hal;have ham:(acc.map eZ).length=acc.length:=aK ..;refine br J J J (fun hc12=>?_) (fun hc12=>?_)
 .
  obtain⟨s,hx⟩: ∃u,c[k]? =some u:=⟨_,aZ we⟩;obtain⟨u,hw⟩: ∃w,c[(k+1)%c.length]? =some w:=⟨_,aZ (dQ _ we)⟩;haveI:=hb s (aT hx);haveI:=hb u (aT hw);have hxl:L[k]? =some s.l:=by rw[hL,cV,hx];rfl
  have hwl:L[(k+1)%L.length]? =some u.l:=by rw[hLl,hL,cV,hw];rfl
  refine ix (fu:=⟨13⟩) _ J (dP hx) J<|ah 20 (.d (vI (c.length:Nat))) J omr<|gx (fu:=⟨1⟩) J<|ah 21 (.d (vI (((k+1)%c.length:Nat):Int))) J J<|gx J<|ix _ J (dP hw) J<|cl J (xY (l:=s.l)) J<|cl J (xY (l:=u.l)) J<|cl J (Cr (p:=s.l.dir) (q:=u.l.dir) (i:=97) (j:=97)) J<|cl J (oP (q:=s.l.dir.cross u.l.dir)) J<|br J J J (fun hc32=>?_) (fun hc32=>?_)
  .
   refine cl J (aDv (l:=s.l) (m:=u.l) (Hr hc32)) J<|rf J J<|ap ((acc++[c9 s.l u.l]).map eZ) J okt (Uz [c9 s.l u.l]) J<|iE 44 3 J<|at_ ⟨acc++[c9 s.l u.l],k+1⟩ (by dsimp only;exact⟨⟨by rw[Ia,yF hxl hwl,if_pos hc32,<-h1],we⟩,we⟩)
  .
   exact at_ ⟨acc,k+1⟩ (by dsimp only;exact⟨⟨by rw[Ia,yF hxl hwl,if_neg hc32,<-h1,lZ],we⟩,we⟩)
 .
  have hS:ge L=acc:=by unfold ge;rw[hLl,h1,show k=c.length by omega]
  refine jd 3 J<|rz J (by rw[<-hL,hS];rfl)
def YX{c:au}(hn:c.length<=100000):PF GB prog 155 [eC c] (vB (dB c)):=by
 have hml:(c.map gF).length=c.length:=aK ..;refine fn (fu:=⟨10⟩) func155 J J ntmps155 J J (fun C=>?_);refine ah 6 (.d (vI (c.length:Nat))) J omr<|gx J<|lp (X:=Nat) (fun k=>[(7, .d (vI (k:Nat)))]) (fun k=>[]) (fun k=>(c.drop k).all (fun s:aI=>!s.v.nl&&!s.v.nh)=c.all (fun s:aI=>!s.v.nl&&!s.v.nh)/\k<=c.length) (fun k=>c.length-k) 0 J ⟨J,bS _⟩ (fun _=>J) (fun k hk=>?_);obtain⟨h1,h2⟩:=hk;refine br (fu2:=⟨9⟩) J J J (fun hc8=>?_) (fun hc8=>?_)
 .
  obtain⟨s,hx⟩: ∃u,c[k]? =some u:=⟨_,aZ we⟩;refine ix _ J (dP hx) J<|j' 14 J J J (fun hg14=>?_) (fun hg14=>?_)
  .
   have hF:dB c=false:=by unfold dB;rw[<-h1,An hx,hg14];simp
   exact rz J (by rw[hF];rfl)
  .
   refine bb J J J (fun hc18=>?_) (fun hc18=>?_)
   .
    have hF:dB c=false:=by unfold dB;rw[<-h1,An hx,hc18];simp
    exact rz J (by rw[hF];rfl)
   .
    exact at_ (k+1) ⟨⟨by rw[<-h1,An hx,hg14,hc18];rfl,we⟩,we⟩
 .
  have hT:dB c=decide ((0:Int)<(c.length:Nat)):=by unfold dB;rw[<-h1,gT we];cases c with|nil=>rfl|cons a b=>simp
  refine ah 21 (.d (vI (c.length:Nat))) J omr<|gx J<|rz J (by rw[hT];rfl)
end Go.Sx
end
