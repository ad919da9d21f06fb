import Derived.Test.YtochlbkonkgedaaGreatDoorQb17
set_option linter.all false
set_option maxHeartbeats 2000000
set_option maxRecDepth 100000
section
namespace Go.Sx
open Go Go.Proofs Tryz
variable {GB:Gh}
structure i9 where
 ax:Rat
 ay:Rat
 ac:Rat
def i9.ev(g:i9)(p:aa):Rat:=g.ax*p.x+g.ay*p.y+g.ac
def i9.li(g:i9)(u:aa):Rat:=g.ax*u.x+g.ay*u.y
def i9.mov(g:i9)(p u:aa)(d:Rat):g.ev (bt p u d)=g.ev p+d*g.li u:=by
 unfold i9.ev i9.li bt;dsimp only;grind
def i9.seg(g:i9)(u w:aa)(s:Rat):g.li (ba u w s)=g.li u+s*(g.li w-g.li u):=by
 unfold i9.li ba;dsimp only;grind
def iH(a b x:aa):Prop:= ∃s:Rat,0<=s/\s<=1/\x=ba a b s
def J7{x y:Rat}(h: ¬(x=0/\y=0)):0<x*x+y*y:=by
 have h1:=rO x;have h2:=rO y;rcases eB (x*x+y*y) with k|k|k
 ·exfalso
  refine h ⟨?_,?_⟩
  ·have:x*x=0:=by grind
   exact(cS.1 this).elim id id
  ·have:y*y=0:=by grind
   exact(cS.1 this).elim id id
 ·exact k
 ·grind
def SG{a b:aa}(h:a≠b): ¬(b.x-a.x=0/\b.y-a.y=0):=fun k=>h (by
 cases a;cases b
 simp only[aa.mk.injEq] at*;constructor<;>grind)
def aBn{a b p:aa}(hab:a≠b)(h: ¬iH a b p): ∃g:i9,0<g.ev p/\ ∀x,iH a b x->g.ev x<=0:=by
 have hN:=J7 (SG hab);obtain⟨dx,hdx⟩: ∃dx,dx=b.x-a.x:=⟨_,rfl⟩;obtain⟨dy,hdy⟩: ∃dy,dy=b.y-a.y:=⟨_,rfl⟩;rw[<-hdx,<-hdy] at hN;have on: ∀x,iH a b x-> ∃s:Rat,0<=s/\s<=1/\x.x=a.x+s*dx/\x.y=a.y+s*dy:=fun x ⟨s,s0,s1,e⟩=>⟨s,s0,s1,by rw[e,hdx];rfl,by rw[e,hdy];rfl⟩;rcases eB (dx*(p.y-a.y)-dy*(p.x-a.x)) with k|k|k
 ·-- on the line
  obtain⟨T,hT⟩: ∃T,T=(p.x-a.x)*dx+(p.y-a.y)*dy:=⟨_,rfl⟩;by_cases t0:T<0
  ·refine⟨⟨-dx, -dy,a.x*dx+a.y*dy⟩,by unfold i9.ev;dsimp only;grind,fun x hx=>?_⟩
   obtain⟨s,s0,s1,e1,e2⟩:=on x hx;have:=cj s0 (cM hN);unfold i9.ev;dsimp only;rw[e1,e2];grind
  ·by_cases t1:dx*dx+dy*dy<T
   ·refine⟨⟨dx,dy, -(a.x*dx+a.y*dy)-(dx*dx+dy*dy)⟩,by unfold i9.ev;dsimp only;grind,fun x hx=>?_⟩
    obtain⟨s,s0,s1,e1,e2⟩:=on x hx;have:=cj (show 0<=1-s by grind) (cM hN);unfold i9.ev;dsimp only;rw[e1,e2];grind
   ·exfalso
    refine h ⟨T/(dx*dx+dy*dy),?_,?_,?_⟩
    ·have e:T/(dx*dx+dy*dy)*(dx*dx+dy*dy)=T:=by generalize dx*dx+dy*dy=N at*;grind
     exact(ig hN).1 (by rw[e];grind)
    ·have e:T/(dx*dx+dy*dy)*(dx*dx+dy*dy)=T:=by generalize dx*dx+dy*dy=N at*;grind
     have:=(ig (s:=1-T/(dx*dx+dy*dy)) hN).1 (by
      generalize T/(dx*dx+dy*dy)=q at*;generalize dx*dx+dy*dy=N at*;have:(1-q)*N=N-q*N:=by grind
      rw[this,e];grind)
     grind
    ·have e1:(p.x-a.x)*(dx*dx+dy*dy)=T*dx:=by rw[hT];grind
     have e2:(p.y-a.y)*(dx*dx+dy*dy)=T*dy:=by rw[hT];grind
     unfold ba;rw[<-hdx,<-hdy];generalize dx*dx+dy*dy=N at*
     cases p
     simp only[aa.mk.injEq] at*;constructor<;>grind
 ·refine⟨⟨-dy,dx,dy*a.x-dx*a.y⟩,by unfold i9.ev;dsimp only;grind,fun x hx=>?_⟩
  obtain⟨s,s0,s1,e1,e2⟩:=on x hx;unfold i9.ev;dsimp only;rw[e1,e2];grind
 ·refine⟨⟨dy, -dx, -(dy*a.x-dx*a.y)⟩,by unfold i9.ev;dsimp only;grind,fun x hx=>?_⟩
  obtain⟨s,s0,s1,e1,e2⟩:=on x hx;unfold i9.ev;dsimp only;rw[e1,e2];grind
def XB{g:i9}{p:aa}(v w:aa)(h:0<g.ev p): ∃e:Rat,0<e/\ ∀d s,0<=d->d<=e->0<=s->s<=1->0<g.ev (bt p (ba v w s) d):=by
 have hK: ∃K:Rat,0<K/\ -K<=g.li v/\ -K<=g.li w:=by
  generalize g.li v=a;generalize g.li w=b;refine⟨1+(if 0<=a then a else-a)+(if 0<=b then b else-b),?_,?_,?_⟩<;>split<;>split<;>grind
 obtain⟨K,k0,k1,k2⟩:=hK;generalize hz:g.ev p=z at*;have e1:z/(2*K)*(2*K)=z:=by grind
 refine⟨z/(2*K),(gp (k:=2*K) (by grind)).1 (by rw[e1];exact h),fun d s d0 d1 s0 s1=>?_⟩;generalize z/(2*K)=e at*;rw[i9.mov,hz,i9.seg];generalize g.li v=a at*;generalize g.li w=b at*;have h1:=cj (show 0<=1-s by grind) (show 0<=a+K by grind);have h2:=cj s0 (show 0<=b+K by grind);have h3:0<=a+s*(b-a)+K:=by grind
 have h4:=cj d0 h3;have h5:=cj (show 0<=e-d by grind) (cM k0);grind
def Gk: ∀{E:List (aa×aa)},(∀f∈E,f.1≠f.2)-> ∀(p v w:aa),∃e:Rat,0<e/\ ∀f∈E,¬iH f.1 f.2 p-> ∀d s,0<=d->d<=e->0<=s->s<=1-> ¬iH f.1 f.2 (bt p (ba v w s) d)
 |[],_,p,v,w=>⟨1,by decide,fun f hf=>by cases hf⟩
 |f::E,hE,p,v,w=>by
  obtain⟨e1,a1,b1⟩:=Gk (E:=E) (fun f hf=>hE f (aZ _ hf)) p v w;by_cases hp:iH f.1 f.2 p
  ·refine⟨e1,a1,fun g hg hn=>?_⟩
   rcases aW.1 hg with rfl|hg
   ·exact absurd hp hn
   ·exact b1 g hg hn
  ·obtain⟨g,g0,g1⟩:=aBn (hE f aQ) hp
   obtain⟨e2,a2,b2⟩:=XB v w g0;obtain⟨e,c1,c2,c3⟩:=min2 a1 a2;refine⟨e,c1,fun h hh hn d s d0 d1 s0 s1=>?_⟩;rcases aW.1 hh with rfl|hh
   ·intro ho
    have:=g1 _ ho;have:=b2 d s d0 (by grind) s0 s1;grind
   ·exact b1 h hh hn d s d0 (by grind) s0 s1
def Fd(a b p r:aa):Prop:=iH a b p/\((r=⟨b.x-p.x,b.y-p.y⟩/\b≠p)\/(r=⟨a.x-p.x,a.y-p.y⟩/\a≠p))
def tn(r u:aa):Prop:= ∃k:Rat,0<k/\u=⟨k*r.x,k*r.y⟩
def div_pos{a b:Rat}(ha:0<a)(hb:0<b):0<a/b:=by
 have e:a/b*b=a:=by grind
 exact(gp hb).1 (by rw[e];exact ha)
def Nl{a b p u:aa}{d:Rat}(hab:a≠b)(hd:0<d)(hu:u≠⟨0,0⟩)(h1:iH a b p)(h2:iH a b (bt p u d)): ∃r,Fd a b p r/\tn r u:=by
 have hN:=SG hab;obtain⟨t,t0,t1,et⟩:=id h1;obtain⟨s,s0,s1,es⟩:=h2;obtain⟨dx,hdx⟩: ∃dx,dx=b.x-a.x:=⟨_,rfl⟩;obtain⟨dy,hdy⟩: ∃dy,dy=b.y-a.y:=⟨_,rfl⟩;rw[<-hdx,<-hdy] at hN;have px:p.x=a.x+t*dx:=by rw[et,hdx];rfl
 have py:p.y=a.y+t*dy:=by rw[et,hdy];rfl
 have ux:d*u.x=(s-t)*dx:=by
  have:=congrArg aa.x es;unfold bt ba at this;dsimp only at this;rw[<-hdx] at this;grind
 have uy:d*u.y=(s-t)*dy:=by
  have:=congrArg aa.y es;unfold bt ba at this;dsimp only at this;rw[<-hdy] at this;grind
 have bx:b.x-p.x=(1-t)*dx:=by rw[px];grind
 have bY:b.y-p.y=(1-t)*dy:=by rw[py];grind
 have ax:a.x-p.x= -t*dx:=by rw[px];grind
 have aY:a.y-p.y= -t*dy:=by rw[py];grind
 rcases eB (s-t) with k|k|k
 ·exfalso
  rw[k] at ux uy;refine hu ?_;have d0:d≠0:=by grind
  have z1:u.x=0:=(cS.1 (show d*u.x=0 by rw[ux];grind)).resolve_left d0;have z2:u.y=0:=(cS.1 (show d*u.y=0 by rw[uy];grind)).resolve_left d0
  cases u
  simp only[aa.mk.injEq] at*;exact⟨z1,z2⟩
 ·have q:0<1-t:=by grind
  refine⟨_,⟨h1, .inl ⟨J,fun e=>hN ?_⟩⟩,(s-t)/(d*(1-t)),div_pos k (bF hd q),?_⟩
  ·have z1:(1-t)*dx=0:=by rw[<-bx,e];grind
   have z2:(1-t)*dy=0:=by rw[<-bY,e];grind
   exact⟨(cS.1 z1).resolve_left (by grind),(cS.1 z2).resolve_left (by grind)⟩
  ·have hq:=bF hd q
   have e:(s-t)/(d*(1-t))*(d*(1-t))=s-t:=by generalize d*(1-t)=m at*;grind
   rw[bx,bY];generalize (s-t)/(d*(1-t))=m at*;have d0:d≠0:=by grind
   have e1:d*(u.x-m*((1-t)*dx))=0:=by grind
   have e2:d*(u.y-m*((1-t)*dy))=0:=by grind
   have f1:=(cS.1 e1).resolve_left d0;have f2:=(cS.1 e2).resolve_left d0
   cases u
   simp only[aa.mk.injEq] at*;constructor<;>grind
 ·have q:0<t:=by grind
  refine⟨_,⟨h1, .inr ⟨J,fun e=>hN ?_⟩⟩,(t-s)/(d*t),div_pos (by grind) (bF hd q),?_⟩
  ·have z1:t*dx=0:=by have:=ax;rw[e] at this;grind
   have z2:t*dy=0:=by have:=aY;rw[e] at this;grind
   exact⟨(cS.1 z1).resolve_left (by grind),(cS.1 z2).resolve_left (by grind)⟩
  ·have hq:=bF hd q
   have e:(t-s)/(d*t)*(d*t)=t-s:=by generalize d*t=m at*;grind
   rw[ax,aY];generalize (t-s)/(d*t)=m at*;have d0:d≠0:=by grind
   have e1:d*(u.x-m*(-t*dx))=0:=by grind
   have e2:d*(u.y-m*(-t*dy))=0:=by grind
   have f1:=(cS.1 e1).resolve_left d0;have f2:=(cS.1 e2).resolve_left d0
   cases u
   simp only[aa.mk.injEq] at*;constructor<;>grind
def lG(E:List (aa×aa))(p u:aa):Prop:=u≠⟨0,0⟩/\ ∀f∈E,∀r,Fd f.1 f.2 p r-> ¬tn r u
def aCF(p v w:aa)(d t:Rat):ba (bt p v d) (bt p w d) t=bt p (ba v w t) d:=by
 unfold ba bt;simp only[aa.mk.injEq];constructor<;>grind
def DY(p v:aa)(d d' t:Rat):ba (bt p v d) (bt p v d') t=bt p v (d+t*(d'-d)):=by
 unfold ba bt;simp only[aa.mk.injEq];constructor<;>grind
def CH(v:aa)(s:Rat):ba v v s=v:=by
 unfold ba;cases v;simp only[aa.mk.injEq];constructor<;>grind
def P5{E:List (aa×aa)}(hE: ∀f∈E,f.1≠f.2){p v w:aa}{e:Rat}(he: ∀f∈E,¬iH f.1 f.2 p-> ∀d s,0<=d->d<=e->0<=s->s<=1-> ¬iH f.1 f.2 (bt p (ba v w s) d)){f:aa×aa}(hf:f∈E){d s:Rat}(d0:0<d)(d1:d<=e)(s0:0<=s)(s1:s<=1)(hu:lG E p (ba v w s)): ¬iH f.1 f.2 (bt p (ba v w s) d):=fun ho=>by
 by_cases hp:iH f.1 f.2 p
 ·obtain⟨r,r1,r2⟩:=Nl (hE f hf) d0 hu.1 hp ho
  exact hu.2 f hf r r1 r2
 ·exact he f hf hp d s (cM d0) d1 s0 s1 ho
def aps{E:List (aa×aa)}(hE: ∀f∈E,f.1≠f.2){p v w:aa}(hu: ∀s,0<=s->s<=1->lG E p (ba v w s)): ∃e:Rat,0<e/\ ∀d,0<d->d<=e-> ∀f∈E,qa f.1 f.2 (bt p v d) (bt p w d):=by
 obtain⟨e,e0,he⟩:=Gk hE p v w;refine⟨e,e0,fun d d0 d1 f hf s t s0 s1 t0 t1 h=>?_⟩;rw[aCF] at h;exact P5 hE he hf d0 d1 t0 t1 (hu t t0 t1) ⟨s,s0,s1,h.symm⟩
def aun{E:List (aa×aa)}(hE: ∀f∈E,f.1≠f.2){p v:aa}(hu:lG E p v): ∃e:Rat,0<e/\ ∀d d',0<d->d<=e->0<d'->d'<=e-> ∀f∈E,qa f.1 f.2 (bt p v d) (bt p v d'):=by
 obtain⟨e,e0,he⟩:=Gk hE p v v;refine⟨e,e0,fun d d' d0 d1 e1 e2 f hf s t s0 s1 t0 t1 h=>?_⟩;rw[DY] at h;have h1:=cj (show 0<=1-t by grind) (show 0<=d by grind);have h2:=cj t0 (show 0<=d' by grind);have h3:=cj (show 0<=1-t by grind) (show 0<=e-d by grind);have h4:=cj t0 (show 0<=e-d' by grind);have p0:0<d+t*(d'-d):=by
  rcases eB t with k|k|k
  ·rw[k];grind
  ·have:=bF k e1;grind
  ·grind
 have p1:d+t*(d'-d)<=e:=by grind
 have:=P5 hE he hf (s:=0) p0 p1 (by decide) (by decide) (by rw[CH];exact hu);rw[CH] at this;exact this ⟨s,s0,s1,h.symm⟩
def vq(r:List ZP):List (aa×aa):=(List.range r.length).map fun k=>((r.getD k (0,0)).q,(dP r k).q)
def ER(rs:List (List ZP)):List (aa×aa):=rs.flatMap vq
def Bc{a b:ZP}(h:a.q=b.q):a=b:=by
 have hx:(a.1:Rat)=(b.1:Rat):=congrArg aa.x h;have hy:(a.2:Rat)=(b.2:Rat):=congrArg aa.y h;exact Prod.ext (by exact_mod_cast hx) (by exact_mod_cast hy)
def DN{rs:List (List ZP)}(hr: ∀r∈rs,cp r): ∀f∈ER rs,f.1≠f.2:=fun f hf=>by
 obtain⟨r,h1,h2⟩:=cN.1 hf;obtain⟨k,hk,rfl⟩:=bJ.1 h2;exact fun e=>(hr r h1).ne k (jY.1 hk) (Bc e)
def EZ{rs:List (List ZP)}{fill:Int}{q p:aa}(h: ∀f∈ER rs,qa f.1 f.2 q p):fe rs fill p=fe rs fill q:=by
 have key: ∀(rs:List (List ZP)),(∀f∈ER rs,qa f.1 f.2 q p)-> ∀n:Int,rs.foldl (fun n r=>n+om r p) n=rs.foldl (fun n r=>n+om r q) n:=by
  intro rs
  induction rs with
  |nil=>intro _ n;rfl
  |cons r t ih=>
   intro h n;have hc:wu r q p:=fun k hk=>h _ (cN.2 ⟨r,aQ,bJ.2 ⟨k,jY.2 hk,J⟩⟩);rw[dT,dT,O6 hc];exact ih (fun f hf=>h f (by obtain⟨s,s1,s2⟩:=cN.1 hf;exact cN.2 ⟨s,aZ _ s1,s2⟩)) _
 unfold fe;rw[key rs h]
def ow(rs:List (List ZP))(fill:Int)(p v:aa)(b:Bool):Prop:= ∃e:Rat,0<e/\ ∀d,0<d->d<=e->fe rs fill (bt p v d)=b
section
variable {rs:List (List ZP)} {fill:Int} {p v w:aa} {b c:Bool}
def LC(hr: ∀r∈rs,cp r)(hv:lG (ER rs) p v): ∃b,ow rs fill p v b:=by
 obtain⟨e,e0,he⟩:=aun (DN hr) hv;exact⟨_,e,e0,fun d d0 d1=>EZ (fill:=fill) (he e d e0 fZ d0 d1)⟩
def ow.uniq(h:ow rs fill p v b)(k:ow rs fill p v c):b=c:=by
 obtain⟨e1,a1,b1⟩:=h;obtain⟨e2,a2,b2⟩:=k;obtain⟨e,c1,c2,c3⟩:=min2 a1 a2;rw[<-b1 e c1 c2,<-b2 e c1 c3]
def H3(hr: ∀r∈rs,cp r)(hu: ∀s,0<=s->s<=1->lG (ER rs) p (ba v w s))(h:ow rs fill p v b):ow rs fill p w b:=by
 obtain⟨e1,a1,b1⟩:=aps (DN hr) hu;obtain⟨e2,a2,b2⟩:=h;obtain⟨e,c1,c2,c3⟩:=min2 a1 a2;exact⟨e,c1,fun d d0 d1=>by rw[EZ (fill:=fill) (b1 d d0 (by grind)),b2 d d0 (by grind)]⟩
end
def Ov{ds:List aa}(h:ds.Pairwise cD){i:Nat}{s w:aa}(hs:ds[i]? =some s)(hw:ds[(i+1)%ds.length]? =some w):oe ds s w:=by
 obtain⟨hi,rfl⟩:=aS.1 hs;obtain⟨hj,rfl⟩:=aS.1 hw;have hp:=nL.1 h;by_cases e:i+1<ds.length
 ·have em:(i+1)%ds.length=i+1:=fU e
  left;simp only[em];refine⟨hp i (i+1) hi e (by omega),fun d hd=>?_⟩;obtain⟨j,hj,rfl⟩:=pM.1 hd;rintro ⟨a,b⟩;rcases pU j i with k|k|k
  ·exact Cg a (hp j i hj hi k)
  ·subst k;exact vf _ a
  ·by_cases z:j=i+1
   ·subst z;exact vf _ b
   ·exact Cg b (hp (i+1) j e hj (by omega))
 ·have ei:i+1=ds.length:=by omega
  have em:(i+1)%ds.length=0:=by rw[ei,Nat.mod_self]
  right;simp only[em];refine⟨fun d hd a=>?_,fun d hd b=>?_⟩
  ·obtain⟨j,hj,rfl⟩:=pM.1 hd
   by_cases k:j=i
   ·subst k;exact vf _ a
   ·exact Cg a (hp j i hj hi (by omega))
  ·obtain⟨j,hj,rfl⟩:=pM.1 hd
   by_cases k:j=0
   ·subst k;exact vf _ b
   ·exact Cg b (hp 0 j (by omega) hj (by omega))
def UP{s u w:aa}(hs:s.half≠0)(hw:w.half≠0)(hu:u.half≠0)(h1:0<s.cross u)(h2:0<u.cross w)(h3:0<s.cross w)(e:s.half=w.half):u.half=s.half:=by
 rcases gr hs with k|k
 ·rw[k] at e⊢
  have a:=ou.1 k;have b:=ou.1 e.symm;rw[ou];unfold aa.cross at*
  -- u is between s and w
  have i1:(s.x*w.y-s.y*w.x)*u.y=(u.x*w.y-u.y*w.x)*s.y+(s.x*u.y-s.y*u.x)*w.y:=by grind
  have i2:(s.x*w.y-s.y*w.x)*u.x=(u.x*w.y-u.y*w.x)*s.x+(s.x*u.y-s.y*u.x)*w.x:=by grind
  have y0:0<=s.y:=by grind
  have y1:0<=w.y:=by grind
  have m1:=cj (cM h2) y0;have m2:=cj (cM h1) y1;have uy:0<=u.y:=(ig h3).1 (by grind);by_cases z:0<u.y
  ·exact .inl z
  ·right
   have z0:u.y=0:=by grind
   have i3:(u.x*w.y-u.y*w.x)*s.y+(s.x*u.y-s.y*u.x)*w.y=0:=by rw[<-i1,z0];grind
   have A0:(u.x*w.y-u.y*w.x)*s.y=0:=by generalize (u.x*w.y-u.y*w.x)*s.y=A at*;generalize (s.x*u.y-s.y*u.x)*w.y=B at*;grind
   have B0:(s.x*u.y-s.y*u.x)*w.y=0:=by grind
   have n1:s.y=0:=by
    rcases cS.1 A0 with q|q
    ·grind
    ·exact q
   have n2:w.y=0:=by
    rcases cS.1 B0 with q|q
    ·grind
    ·exact q
   rw[n1,n2] at h3;grind
 ·rw[k] at e⊢
  have a:=qz.1 k;have b:=qz.1 e.symm;rw[qz];unfold aa.cross at*;have i1:(s.x*w.y-s.y*w.x)*u.y=(u.x*w.y-u.y*w.x)*s.y+(s.x*u.y-s.y*u.x)*w.y:=by grind
  have y0:0<= -s.y:=by grind
  have y1:0<= -w.y:=by grind
  have m1:=cj (cM h2) y0;have m2:=cj (cM h1) y1;have uy:0<= -u.y:=(ig h3).1 (by grind);by_cases z:u.y<0
  ·exact .inl z
  ·right
   have z0:u.y=0:=by grind
   have i3:(u.x*w.y-u.y*w.x)*s.y+(s.x*u.y-s.y*u.x)*w.y=0:=by rw[<-i1,z0];grind
   have m3:(u.x*w.y-u.y*w.x)* -s.y= -((u.x*w.y-u.y*w.x)*s.y):=by grind
   have m4:(s.x*u.y-s.y*u.x)* -w.y= -((s.x*u.y-s.y*u.x)*w.y):=by grind
   rw[m3] at m1;rw[m4] at m2;have A0:(u.x*w.y-u.y*w.x)*s.y=0:=by generalize (u.x*w.y-u.y*w.x)*s.y=A at*;generalize (s.x*u.y-s.y*u.x)*w.y=B at*;grind
   have B0:(s.x*u.y-s.y*u.x)*w.y=0:=by grind
   have n1:s.y=0:=by
    rcases cS.1 A0 with q|q
    ·grind
    ·exact q
   have n2:w.y=0:=by
    rcases cS.1 B0 with q|q
    ·grind
    ·exact q
   rw[n1,n2] at h3;grind
def PS{ds:List aa}(nz: ∀d∈ds,d.half≠0){s u w:aa}(hs:s∈ds)(hu:u∈ds)(hw:w∈ds)(hn:oe ds s w)(h1:0<s.cross u)(h2:0<u.cross w)(h3:0<s.cross w):False:=by
 have zs:=gr (nz s hs);have zu:=gr (nz u hu);have zw:=gr (nz w hw);rcases hn with⟨b,no⟩|⟨n1,n2⟩
 ·by_cases e:s.half=w.half
  ·have e2:=UP (nz s hs) (nz w hw) (nz u hu) h1 h2 h3 e
   exact no u hu ⟨.inr ⟨e2.symm,h1⟩, .inr ⟨by omega,h2⟩⟩
  ·have e1:s.half=1/\w.half=2:=by
    rcases b with b|⟨b,_⟩
    ·omega
    ·exact absurd b e
   rcases zu with k|k
   ·exact no u hu ⟨.inr ⟨by omega,h1⟩, .inl (by omega)⟩
   ·exact no u hu ⟨.inl (by omega), .inr ⟨by omega,h2⟩⟩
 ·have a:=n1 u hu
  have b:=n2 u hu;have a1: ¬s.half<u.half:=fun k=>a (.inl k);have a2:s.half≠u.half:=fun k=>a (.inr ⟨k,h1⟩);have b1: ¬u.half<w.half:=fun k=>b (.inl k);have b2:u.half≠w.half:=fun k=>b (.inr ⟨k,h2⟩);omega
def TG{u w n:aa}(hu:u.half≠0)(hw:w.half≠0)(hn:n.half≠0)(e1:w.half=u.half)(e2:u.half=n.half)(h1:0<u.cross n)(h2: ¬0<u.cross w):0<w.cross n:=by
 by_cases k:0<w.cross u
 ·have b1:cD w u:= .inr ⟨e1,k⟩
  have b2:cD u n:= .inr ⟨e2,h1⟩;rcases Au b1 b2 with q|⟨_,q⟩
  ·omega
  ·exact q
 ·have hz:w.cross u=0:=by rw[fC] at k⊢;grind
  by_cases q:0<w.cross n
  ·exact q
  ·exfalso
   have b2:cD u n:= .inr ⟨e2,h1⟩;by_cases q2:0<n.cross w
   ·have b3:cD n w:= .inr ⟨by omega,q2⟩
    rcases Au b2 b3 with z|⟨_,z⟩
    ·omega
    ·exact h2 z
   ·have hz2:w.cross n=0:=by rw[fC] at q2;grind
    rcases gr hw with hh|hh
    ·have a:=ou.1 hh
     have b:=ou.1 (show u.half=1 by omega);have c:=ou.1 (show n.half=1 by omega);unfold aa.cross at*;have j1:w.x*(u.x*n.y-u.y*n.x)=0:=by grind
     have j2:w.y*(u.x*n.y-u.y*n.x)=0:=by grind
     rcases cS.1 j1 with z|z
     ·rcases cS.1 j2 with z2|z2<;>grind
     ·grind
    ·have a:=qz.1 hh
     unfold aa.cross at*;have j1:w.x*(u.x*n.y-u.y*n.x)=0:=by grind
     have j2:w.y*(u.x*n.y-u.y*n.x)=0:=by grind
     rcases cS.1 j1 with z|z
     ·rcases cS.1 j2 with z2|z2<;>grind
     ·grind
def Ra{ds:List aa}(nz: ∀d∈ds,d.half≠0){s u w:aa}(hs:s∈ds)(hu:u∈ds)(hw:w∈ds)(hn:oe ds s w)(h1:0<s.cross u):0<s.cross w:=by
 have zs:=gr (nz s hs);have zu:=gr (nz u hu);have zw:=gr (nz w hw);have hneg:=sH (nz s hs);have hnz:(bp s).half≠0:=by omega
 have e1:u.cross (bp s)=s.cross u:=by rw[mH,fC s u];grind
 have e2:w.cross (bp s)=s.cross w:=by rw[mH,fC s w];grind
 rcases hn with⟨b,no⟩|⟨n1,n2⟩
 ·by_cases e:s.half=w.half
  ·rcases b with b|⟨_,b⟩
   ·omega
   ·exact b
  ·have e3:s.half=1/\w.half=2:=by
    rcases b with b|⟨b,_⟩
    ·omega
    ·exact absurd b e
   have nu:=no u hu;rcases zu with k|k
   ·exact absurd ⟨.inr ⟨by omega,h1⟩, .inl (by omega)⟩ nu
   ·rw[<-e2]
    exact TG (nz u hu) (nz w hw) hnz (by omega) (by omega) (by rw[e1];exact h1) fun q=>nu ⟨.inl (by omega), .inr ⟨by omega,q⟩⟩
 ·have a:=n1 u hu
  have b:=n2 u hu;have a1: ¬s.half<u.half:=fun k=>a (.inl k);have a2:s.half≠u.half:=fun k=>a (.inr ⟨k,h1⟩);have b1: ¬u.half<w.half:=fun k=>b (.inl k);rw[<-e2];exact TG (nz u hu) (nz w hw) hnz (by omega) (by omega) (by rw[e1];exact h1) fun q=>b (.inr ⟨by omega,q⟩)
def ru(ds:List aa)(u:aa):Prop:=u≠⟨0,0⟩/\ ∀r∈ds,¬tn r u
def Ce(ds:List aa)(v w:aa):Prop:= ∀s,0<=s->s<=1->ru ds (ba v w s)
def Qw{α:Type}{R:α->α->Prop}(irr: ∀a,¬R a a)(tr: ∀a b c,R a b->R b c->R a c): ∀{l:List α},l≠[]-> ∃m∈l,∀y∈l,¬R y m
 |[],h=>absurd J h
 |[a],_=>⟨a,aQ,fun y hy=>by rw[aV.1 hy];exact irr a⟩
 |a::b::t,_=>by
  obtain⟨m,hm,h⟩:=Qw irr tr (l:=b::t) (by simp);by_cases k:R a m
  ·refine⟨a,aQ,fun y hy=>?_⟩
   rcases aW.1 hy with rfl|hy
   ·exact irr _
   ·exact fun q=>h y hy (tr _ _ _ q k)
  ·refine⟨m,aZ _ hm,fun y hy=>?_⟩
   rcases aW.1 hy with rfl|hy
   ·exact k
   ·exact h y hy
def kI(x y:aa):Nat:=if x.cross y<0 then 1 else if 0<x.cross y then 3 else if 0<x.dot y then 0 else 2
def Dz(x y z:aa):Prop:=kI x y<kI x z\/(kI x y=kI x z/\(kI x y=1\/kI x y=3)/\0<z.cross y)
def yl{x y:aa}:kI x y=1↔x.cross y<0:=by
 unfold kI;split
 ·simp_all
 ·split
  ·simp_all
  ·split<;>simp_all
def Ge{x y:aa}:kI x y=3↔0<x.cross y:=by
 unfold kI;split
 ·rename_i h;simp;grind
 ·split
  ·simp_all
  ·split<;>simp_all
def Ty(x z y t:aa):x.cross z*t.cross y=x.cross t*z.cross y+x.cross y*t.cross z:=by unfold aa.cross;grind
def UF(x a:aa): ¬Dz x a a:=by
 rintro (h|⟨_,_,h⟩)
 ·omega
 ·rw[GR] at h;grind
def Yu(x a b c:aa)(h:Dz x a b)(k:Dz x b c):Dz x a c:=by
 rcases h with h|⟨h1,h2,h3⟩
 ·rcases k with k|⟨k1,k2,k3⟩
  ·exact .inl (by omega)
  ·exact .inl (by omega)
 ·rcases k with k|⟨k1,k2,k3⟩
  ·exact .inl (by omega)
  ·refine .inr ⟨by omega,h2,?_⟩
   have e:=Ty x b a c;rcases h2 with q|q
   ·have a1:=yl.1 q
    have b1:=yl.1 (h1▸q);have c1:=yl.1 (k1▸h1▸q);have m1:=bF (show 0< -x.cross c by grind) h3;have m2:=bF (show 0< -x.cross a by grind) k3;exact(gp (k:= -x.cross b) (by grind)).1 (by grind)
   ·have a1:=Ge.1 q
    have b1:=Ge.1 (h1▸q);have c1:=Ge.1 (k1▸h1▸q);have m1:=bF c1 h3;have m2:=bF a1 k3;exact(gp (k:=x.cross b) b1).1 (by grind)
def Zc{s w x:aa}(h1:0<s.cross w)(h2:0<s.cross x)(h3:x.cross w=0):tn w x:=by
 refine⟨s.cross x/s.cross w,div_pos h2 h1,?_⟩;have e:s.cross x/s.cross w*s.cross w=s.cross x:=by generalize s.cross w=m at*;grind
 have e1:x.x*s.cross w=w.x*s.cross x:=by unfold aa.cross at*;grind
 have e2:x.y*s.cross w=w.y*s.cross x:=by unfold aa.cross at*;grind
 generalize s.cross x/s.cross w=k at*;generalize s.cross w=m at*;generalize s.cross x=n at*;have f1:m*(x.x-k*w.x)=0:=by grind
 have f2:m*(x.y-k*w.y)=0:=by grind
 have m0:m≠0:=by grind
 have g1:=(cS.1 f1).resolve_left m0;have g2:=(cS.1 f2).resolve_left m0
 cases x
 simp only[aa.mk.injEq] at*;constructor<;>grind
def Fy(s v w:aa)(t:Rat):s.cross (ba v w t)=s.cross v+t*(s.cross w-s.cross v)/\(ba v w t).cross s=v.cross s+t*(w.cross s-v.cross s):=by
 unfold aa.cross ba;dsimp only;constructor<;>grind
def ve{r u:aa}(h:tn r u)(s:aa):(0<s.cross u->0<s.cross r)/\(0<u.cross s->0<r.cross s)/\(s.cross u<0->s.cross r<0):=by
 obtain⟨k,k0,rfl⟩:=h;have e1:s.cross ⟨k*r.x,k*r.y⟩=s.cross r*k:=by unfold aa.cross;grind
 have e2:aa.cross ⟨k*r.x,k*r.y⟩ s=r.cross s*k:=by unfold aa.cross;grind
 rw[e1,e2];refine⟨(gp k0).1,(gp k0).1,fun h=>?_⟩;have:=(gp (s:= -s.cross r) k0).1 (by grind);grind
def F3{s u:aa}(h:s.cross u≠0):u≠⟨0,0⟩:=fun e=>h (by rw[e];unfold aa.cross;grind)
def L8{z:Rat}(h: -z=0):z=0:=by grind
def JB(s:aa):s.cross (gO s)=s.x*s.x+s.y*s.y:=by unfold aa.cross gO;grind
def NK{s:aa}(h:s.half≠0):0<s.x*s.x+s.y*s.y:=J7 fun k=>by
 rcases kA s with⟨_,q⟩|⟨_,q⟩|⟨q,_⟩
 ·grind
 ·grind
 ·exact h q
section
variable {ds:List aa}
def Cj{x:aa}(hx:ru ds x):Ce ds x x:=fun s _ _=>by rw[CH];exact hx
def HY{s v w:aa}(hn: ∀r∈ds,¬0<s.cross r)(hv:0<s.cross v)(hw:0<=s.cross w)(hf:ru ds w):Ce ds v w:=fun t t0 t1=>by
 by_cases ht:t=1
 ·rw[ht,En];exact hf
 ·have h1:=bF (show 0<1-t by grind) hv
  have h2:=cj t0 hw;have hp:0<s.cross (ba v w t):=by rw[(Fy s v w t).1];grind
  exact⟨F3 (s:=s) (by grind),fun r hr q=>hn r hr ((ve q s).1 hp)⟩
def Z'{i:Nat}(hi:i<ds.length):l5 ds i∈fy ds:=by
 unfold fy;rw[if_neg (by omega)];exact bJ.2 ⟨i,jY.2 hi,J⟩
def N9{i:Nat}{s w:aa}(hs:ds[i]? =some s)(hw:ds[(i+1)%ds.length]? =some w):l5 ds i=if 0<s.cross w then s.add w else gO s:=by
 unfold l5;rw[aK,aK,hs,hw];show(if 0<Int.sign (s.cross w).num then _ else _)=_;simp only[kC];rfl
def T1(s w:aa):s.cross (s.add w)=s.cross w/\(s.add w).cross w=s.cross w:=by unfold aa.cross aa.add;dsimp only;constructor<;>grind
def FZ(ha:ds.Pairwise cD)(nz: ∀d∈ds,d.half≠0){v:aa}(hv:v∈fy ds):ru ds v:=by
 unfold fy at hv;split at hv
 ·rename_i h0
  rw[bU h0,aV.1 hv];exact⟨by simp,fun r hr=>by cases hr⟩
 ·obtain⟨i,hi,rfl⟩:=bJ.1 hv
  have hi':=jY.1 hi;obtain⟨s,hs⟩: ∃s,ds[i]? =some s:=⟨_,aX hi'⟩;obtain⟨w,hw⟩: ∃w,ds[(i+1)%ds.length]? =some w:=⟨_,aX (dW _ (by omega))⟩;have ms:=aM hs;have mw:=aM hw;have hn:=Ov ha hs hw;rw[N9 hs hw];by_cases h:0<s.cross w
  ·rw[if_pos h]
   obtain⟨c1,c2⟩:=T1 s w;exact⟨F3 (s:=s) (by rw[c1];grind),fun r hr q=>PS nz ms hr mw hn ((ve q s).1 (by rw[c1];exact h)) ((ve q w).2.1 (by rw[c2];exact h)) h⟩
  ·rw[if_neg h]
   have hp:0<s.cross (gO s):=by rw[JB];exact NK (nz s ms)
   exact⟨F3 (s:=s) (by grind),fun r hr q=>h (Ra nz ms hr mw hn ((ve q s).1 hp))⟩
def ayI(ha:ds.Pairwise cD)(nz: ∀d∈ds,d.half≠0){x:aa}(hx:ru ds x): ∃v∈fy ds,∃y,Ce ds v y/\Ce ds y x:=by
 by_cases h0:ds=[]
 ·subst h0
  have fr: ∀{u:aa},u≠⟨0,0⟩->ru [] u:=fun h=>⟨h,fun r hr=>by cases hr⟩;refine⟨⟨1,0⟩,aV.2 J,?_⟩;have sx: ∀(a b:aa) (t:Rat),(ba a b t).x=a.x+t*(b.x-a.x)/\(ba a b t).y=a.y+t*(b.y-a.y):=fun _ _ _=>⟨J,J⟩;have go: ∀{a b:aa},(0<a.x/\0<=b.x/\b≠⟨0,0⟩/\(b.x=0->b.y≠0))\/(0<a.y/\0<=b.y/\(b.y=0->b.x≠0))\/(a.y=0/\0<a.x/\b.y≠0)->Ce [] a b:=fun{a b} h t t0 t1=>fr fun e=>by
   obtain⟨e1,e2⟩:=sx a b t;rw[e] at e1 e2;dsimp only at e1 e2;by_cases ht:t=1
   ·subst ht
    grind
   ·rcases h with⟨k1,k2,_,_⟩|⟨k1,k2,_⟩|⟨k1,k2,k3⟩
    ·have:=bF (show 0<1-t by grind) k1
     have:=cj t0 k2;grind
    ·have:=bF (show 0<1-t by grind) k1
     have:=cj t0 k2;grind
    ·rw[k1] at e2
     have z:t*b.y=0:=by grind
     rcases cS.1 z with q|q
     ·rw[q] at e1;grind
     ·exact k3 q
  by_cases hy:x.y=0
  ·by_cases hp:0<x.x
   ·exact⟨⟨1,0⟩,Cj (fr (by simp)),go (.inl ⟨by decide,cM hp,hx.1,fun e=>by grind⟩)⟩
   ·have hne:x.x≠0:=fun e=>hx.1 (by cases x;simp only[aa.mk.injEq] at*;exact⟨e,hy⟩)
    exact⟨⟨0,1⟩,go (.inr (.inr ⟨J,by decide,by decide⟩)),go (.inr (.inl ⟨by decide,by rw[hy];exact fZ,fun _=>hne⟩))⟩
  ·exact⟨⟨1,0⟩,Cj (fr (by simp)),go (.inr (.inr ⟨J,by decide,hy⟩))⟩
 obtain⟨s,ms,hmin⟩:=Qw (UF x) (Yu x) h0;obtain⟨i,hi,hs'⟩:=oY ms;have hs:ds[i]? =some s:=by rw[aX hi,hs']
 obtain⟨w,hw⟩: ∃w,ds[(i+1)%ds.length]? =some w:=⟨_,aX (dW _ (by omega))⟩;have mw:=aM hw;have hn:=Ov ha hs hw;have hsq:=NK (nz s ms);have htp:0<s.cross (gO s):=by rw[JB];exact hsq
 have sw: ∀a b:aa,a.cross b= -b.cross a:=fun a b=>fC b a;refine⟨l5 ds i,Z' hi,?_⟩;rw[N9 hs hw];rcases eB (s.cross x) with hc|hc|hc
 ·-- x opposite to s
  have hdot: ¬0<x.dot s:=fun q=>hx.2 s ms (by
   obtain⟨g,g0,e⟩:=ti (d:=s) (e:=x) (by rw[sw];grind) q;exact⟨g,g0,e⟩)
  have c2:kI x s=2:=by
   have e0:x.cross s=0:=by rw[sw];grind
   unfold kI;rw[e0,if_neg (by grind),if_neg (by grind),if_neg hdot]
  have hno: ∀r∈ds,¬0<s.cross r:=fun r hr q=>hmin r hr (.inl (by
   have hxr:x.cross r<0:=by
    -- x is a negative multiple of s
    have e:=Ty s x r (gO s);have ht:=JB s;have e2:(gO s).cross r*(s.x*s.x+s.y*s.y)=(gO s).cross r*s.cross (gO s):=by rw[ht]
    have e3:x.cross r*(s.x*s.x+s.y*s.y)=x.dot s*s.cross r+s.cross x* -(s.dot r):=by unfold aa.cross aa.dot;grind
    rw[hc] at e3;have hd0:x.dot s≠0:=fun z=>by
     have f1:x.x*(s.x*s.x+s.y*s.y)=0:=by unfold aa.cross aa.dot at*;grind
     have f2:x.y*(s.x*s.x+s.y*s.y)=0:=by unfold aa.cross aa.dot at*;grind
     have n0:s.x*s.x+s.y*s.y≠0:=by grind
     exact hx.1 (by
      have g1:=(cS.1 f1).resolve_right n0;have g2:=(cS.1 f2).resolve_right n0
      cases x;simp only[aa.mk.injEq] at*;exact⟨g1,g2⟩)
    have m:=bF (show 0< -x.dot s by grind) q;have:=(gp (s:= -x.cross r) hsq).1 (by grind);grind
   rw[yl.2 hxr,c2];decide))
  rw[if_neg (hno w mw)];exact⟨x,HY hno htp (by rw[hc];exact fZ) hx,Cj hx⟩
 ·-- x to the left of s
  have f1: ∀r∈ds,¬(0<s.cross r/\0<r.cross x):=fun r hr q=>hmin r hr (.inr (by
   have a1:kI x r=1:=yl.2 (by rw[sw];grind);have a2:kI x s=1:=yl.2 (by rw[sw];grind);exact⟨by rw[a1,a2], .inl a1,q.1⟩))
  by_cases h:0<s.cross w
  ·rw[if_pos h]
   have hxw:0<x.cross w:=by
    rcases eB (x.cross w) with k|k|k
    ·exact absurd (Zc h hc k) (hx.2 w mw)
    ·exact k
    ·exact absurd ⟨h,by rw[sw];grind⟩ (f1 w mw)
   obtain⟨c1,c2⟩:=T1 s w;refine⟨x,fun t t0 t1=>?_,Cj hx⟩;have p1:0<s.cross (ba (s.add w) x t):=by
    rw[(Fy s _ x t).1,c1];have:=cj (show 0<=1-t by grind) (cM h);have:=cj t0 (cM hc);by_cases ht:t=1
    ·rw[ht];grind
    ·have:=bF (show 0<1-t by grind) h
     grind
   have p2:0<(ba (s.add w) x t).cross w:=by
    rw[(Fy w _ x t).2,c2];have:=cj t0 (cM hxw);by_cases ht:t=1
    ·rw[ht];grind
    ·have:=bF (show 0<1-t by grind) h
     grind
   exact⟨F3 (s:=s) (by grind),fun r hr q=>PS nz ms hr mw hn ((ve q s).1 p1) ((ve q w).2.1 p2) h⟩
  ·rw[if_neg h]
   exact⟨x,HY (fun r hr q=>h (Ra nz ms hr mw hn q)) htp (cM hc) hx,Cj hx⟩
 ·-- x to the right of s
  have c3:kI x s=3:=Ge.2 (by rw[sw];grind);have hno: ∀r∈ds,¬0<s.cross r:=fun r hr q=>hmin r hr (by
   by_cases k:kI x r=3
   ·exact .inr ⟨by rw[k,c3], .inr k,q⟩
   ·refine .inl ?_
    have:kI x r<=3:=by unfold kI;split<;>(try split)<;>(try split)<;>omega
    omega)
  have f4: ∀r∈ds,¬0<r.cross x:=fun r hr q=>hmin r hr (.inl (by rw[yl.2 (by rw[sw];grind),c3];decide));have sn:s.cross (bp s)=0:=by unfold aa.cross bp;grind
  have fneg:ru ds (bp s):=⟨fun e=>by
   have e1:=congrArg aa.x e;have e2:=congrArg aa.y e;unfold bp at e1 e2;dsimp only at e1 e2;rw[L8 e1,L8 e2] at hsq;exact absurd hsq (by decide+kernel),fun r hr q=>f4 r hr ((ve q x).2.1 (by
    have:(bp s).cross x= -s.cross x:=by unfold aa.cross bp;grind
    rw[this];grind))⟩
  rw[if_neg (hno w mw)];refine⟨bp s,HY hno htp (by rw[sn];exact fZ) fneg,fun t t0 t1=>?_⟩;by_cases ht:t=1
  ·rw[ht,En];exact hx
  ·have hq:0<(ba (bp s) x t).cross x:=by
    rw[(Fy x _ x t).2,GR];have:(bp s).cross x= -s.cross x:=by unfold aa.cross bp;grind
    rw[this];have:=bF (show 0<1-t by grind) (show 0< -s.cross x by grind);grind
   exact⟨fun e=>by rw[e] at hq;unfold aa.cross at hq;grind,fun r hr q=>f4 r hr ((ve q x).2.1 hq)⟩
end
def aCk{rs:List (List ZP)}{fill:Int}{p:aa}(hr: ∀r∈rs,cp r){ds:List aa}(ha:ds.Pairwise cD)(nz: ∀d∈ds,d.half≠0)(hd: ∀u,lG (ER rs) p u↔ru ds u)(b:Bool):(∃v∈fy ds,ow rs fill p v b)↔ ∃x,lG (ER rs) p x/\ow rs fill p x b:=by
 constructor
 ·rintro ⟨v,h1,h2⟩
  exact⟨v,(hd v).2 (FZ ha nz h1),h2⟩
 ·rintro ⟨x,h1,h2⟩
  obtain⟨v,hv,y,k1,k2⟩:=ayI ha nz ((hd x).1 h1);obtain⟨c,hc⟩:=LC (fill:=fill) hr ((hd v).2 (FZ ha nz hv));have h3:=H3 hr (fun s s0 s1=>(hd _).2 (k2 s s0 s1)) (H3 hr (fun s s0 s1=>(hd _).2 (k1 s s0 s1)) hc);rw[h3.uniq h2] at hc;exact⟨v,hv,hc⟩
def ePa(x:Bool×aG):DV:= .ag [.sl (x.2.map bh),eU (.leaf x.1)]
def eC(c:aG):DV:= .sl (c.map bh)
def aHI(ps:List (Bool×aG)):List aG:=(ps.filter (·.1)).map (·.2)
def WT(G:Gh)(y:Value)(h:Is G (.ag [vI 0,vI 0, .v (.pointer none),vI 0,vI 0, .v (.pointer none)]) y):Is G (eZ (ql [])) y:=by
 obtain⟨m,rfl,g⟩:=c7.1 h;obtain⟨v1,m,rfl,h1,g⟩:=aP.1 g;obtain⟨v2,m,rfl,h2,g⟩:=aP.1 g;obtain⟨v3,m,rfl,h3,g⟩:=aP.1 g;obtain⟨v4,m,rfl,h4,g⟩:=aP.1 g;obtain⟨v5,m,rfl,h5,g⟩:=aP.1 g;obtain⟨v6,m,rfl,h6,g⟩:=aP.1 g
 cases co.1 g
 have e1:=ut G _ (c7.2 ⟨[v1,v2,v3],J, .cons h1 (.cons h2 (.cons h3 .nil))⟩);have e2:=ut G _ (c7.2 ⟨[v4,v5,v6],J, .cons h4 (.cons h5 (.cons h6 .nil))⟩);obtain⟨m1,q1,g1⟩:=c7.1 e1;obtain⟨m2,q2,g2⟩:=c7.1 e2
 cases q1;cases q2
 exact c7.2 ⟨_,J,g1.app g2⟩
theorem BQ.samp(v:av)(i j:Nat)[h1:BQ v.lo i][h2:BQ v.hi j]:BQ v.sample (i+j+1+2):=by
 have b1:BQ (1:Rat) 1:=⟨by decide,by decide⟩;unfold av.sample;split
 ·exact BQ.z1.mono (by omega)
 ·split
  ·exact(inferInstance:BQ (v.hi-1) (j+1+1)).mono (by omega)
  ·split
   ·exact(inferInstance:BQ (v.lo+1) (i+1+1)).mono (by omega)
   ·exact inferInstance
theorem Kb{s:aE}(h:GH s):aB (s.l.at s.v.sample) 3500:=by
 haveI:=h.lb;haveI:=h.v.lo;haveI:=h.v.hi;have h0:BQ s.v.sample _:=BQ.samp s.v 1200 1200;have:= @aB.at s.l s.v.sample _ _ h0;exact⟨this.x.mono (by decide),this.y.mono (by decide)⟩
theorem Ln{s g:aE}(hs:GH s)(hg:GH g):BQ (-(g.l.value (s.l.at s.v.sample)/g.l.nor.dot s.l.nor)) 9000:=by
 haveI:=hs.lb;haveI:=hg.lb;haveI:=Kb hs;exact BQ.mono (inferInstance:BQ (-(g.l.value (s.l.at s.v.sample)/g.l.nor.dot s.l.nor)) _) (by decide)
def awB:PF GB prog 98 [eC []] (eZ (ql [])):=by
 refine fn (fu:=⟨10⟩) func98 J J ntmps98 J J (fun C=>?_);refine gj J (by rfl) J<|?_;exact jf J WT
def aEC(l:List aE):dH 17 (l.map bh):=fun d hd=>by
 obtain⟨x,_,rfl⟩:=bJ.1 hd;exact⟨J,J⟩
def Oz{l:ab}{p:aa}{cs:aG}{k:Nat}{g:aE}{f:Rat}(h:cs[k]? =some g):jk l p (cs.drop k) f=jk l p (cs.drop (k+1)) (if Int.sign (g.l.nor.dot l.nor).num<0 then(if-(g.l.value p/g.l.nor.dot l.nor)<f then-(g.l.value p/g.l.nor.dot l.nor) else f) else f):=by
 obtain⟨h1,h2⟩:=aS.1 h;rw[cX h1,h2,jk]
def NB(s:aE)(cs:aG):ql (s::cs)=(s.l.at s.v.sample).add (s.l.nor.scale (jk s.l (s.l.at s.v.sample) cs 1*mkRat 1 2)):=by
 show bt _ _ _=_;unfold bt aa.add aa.scale;simp only[aa.mk.injEq];constructor<;>grind
def Yg{s:aE}{cs:aG}(hc:jG (s::cs))(hn:cs.length<=100000):PF GB prog 98 [eC (s::cs)] (eZ (ql (s::cs))):=by
 have hs:=hc s aQ;have hsl:=hs.lb;have hv1:=hs.v.lo;have hv2:=hs.v.hi;have hp:=Kb hs;have hml:((s::cs).map bh).length=cs.length+1:=by simp
 have hml2:(cs.map bh).length=cs.length:=aJ ..;refine fn (fu:=⟨10⟩) func98 J J ntmps98 J J (fun C=>?_);refine ek J (by show some (decide _)=some false;rw[decide_eq_false (by simp;omega)]) J<|ix _ J J J<|ix _ J J J<|cl J (Oq (v:=s.v) (i:=1200)) J<|?_;refine cl J (Ey (l:=s.l) (t:=s.v.sample)) J<|ix _ J J J<|cl J (wz (l:=s.l)) J<|cl J (ph (by omega)) J<|sv (fu:=⟨1⟩) 1 (cs.length+1) (cs.map bh) J J (by rw[hml]) (by rw[bX (by rw[hml];exact bQ _)];rfl) (aEC _) (by omega) (by omega) J<|?_;refine ao 31 (.d (vI (cs.length:Nat))) J (by rw[hml2]<;>rfl) ?_;refine gx J<|?_;refine lp (X:=Rat×Nat) (fun⟨f,k⟩=>[(32, .d (vI (k:Nat))),(5, .ov 5 0)]) (fun⟨f,k⟩=>[(5,some (.o 87 [.d (vI (dq f)), .d (vI (dm f)), .d (dh f)] true))]) (fun⟨f,k⟩=>jk s.l (s.l.at s.v.sample) (cs.drop k) f=jk s.l (s.l.at s.v.sample) cs 1/\k<=cs.length/\BQ f 9000) (fun⟨f,k⟩=>cs.length-k) ⟨((1:Int):Rat),0⟩ J ⟨J,bT _,BQ.mono (k:=2) ⟨by decide,by decide⟩ (by decide)⟩ (fun _=>J) (fun⟨f,k⟩ hk=>?_)
 try dsimp only at hk⊢
 obtain⟨h1,h2,h3⟩:=hk;refine br J J J (fun hc33=>?_) (fun hc33=>?_)
 .
  obtain⟨g,hx⟩: ∃g,cs[k]? =some g:=⟨_,aX (by omega)⟩;have hg:=hc g (aZ _ (aM hx));have hgl:=hg.lb;have hfb:=Ln hs hg;refine ix _ J (ee hx) J<|cl J (wz (l:=g.l)) J<|cl J (oA (p:=g.l.nor) (q:=s.l.nor)) J<|cl J (kv (q:=g.l.nor.dot s.l.nor)) J<|?_;refine br J J J (fun hc43=>?_) (fun hc43=>?_)
  .
   refine cl J (DR (l:=g.l) (p:=(s.l.at s.v.sample))) J<|cl J (uD (p:=g.l.value (s.l.at s.v.sample)) (q:=g.l.nor.dot s.l.nor)) J<|?_;refine cl J (n4 (q:=g.l.value (s.l.at s.v.sample)/g.l.nor.dot s.l.nor)) J<|cl (hv:=by simp only[ah];exact⟨by kernel_rfl,by omega⟩) J (Jz (p:=f) (q:= -(g.l.value (s.l.at s.v.sample)/g.l.nor.dot s.l.nor))) J<|?_;exact at_ ⟨if-(g.l.value (s.l.at s.v.sample)/g.l.nor.dot s.l.nor)<f then-(g.l.value (s.l.at s.v.sample)/g.l.nor.dot s.l.nor) else f,k+1⟩ (by dsimp only;exact⟨⟨by rw[<-h1,Oz hx,if_pos hc43],by omega,by split;exact Ln hs hg;exact h3⟩,(by omega)⟩)
  .
   exact at_ ⟨f,k+1⟩ (by dsimp only;exact⟨⟨by rw[<-h1,Oz hx,if_neg hc43],by omega,h3⟩,(by omega)⟩)
 .
  obtain rfl:k=cs.length:=by omega
  obtain rfl:f=jk s.l (s.l.at s.v.sample) cs 1:=by rw[iM] at h1;exact h1
  refine cl J (Ec (q:=jk s.l (s.l.at s.v.sample) cs 1)) J<|cl J (y9 (p:=s.l.nor) (c:=jk s.l (s.l.at s.v.sample) cs 1*mkRat 1 2)) J<|?_;refine cl J (C9 (p:=(s.l.at s.v.sample)) (q:=s.l.nor.scale (jk s.l (s.l.at s.v.sample) cs 1*mkRat 1 2))) J<|?_;exact rz J (by rw[NB];rfl)
def eRz(v:List aa):DV:= .sl (v.map eZ)
def eRa(v:List aa):DV:= .sl (v.map mv)
def pE{α:Type}(f:α->Rat):List α->Rat
 |[]=>0
 |a::t=>f a+pE f t
def Yo(f:aa->aa->Rat)(v:List aa):Rat:=pE (fun i=>f (v.getD i ⟨0,0⟩) (v.getD ((i+1)%v.length) ⟨0,0⟩)) (List.range v.length)
def aIY(c:aG):Rat:=pE (fun s=>(s.v.hi-s.v.lo)*(s.l.c:Rat)) c
def aKp(t:Tr):Prop:= ∃(L:List ab) (R:Rat),(∀l∈L,l.ok)/\ ∀p,iw L p->X3 R p->t.val p=false
def Tz{rs:List (List ZP)}{fill:Int}(hr: ∀r∈rs,cp r):(me rs fill).all ab.ok:=rE fun f hf=>((lj hr).2 f hf).ok
def PU(es:List Int):Nat->Nat->Tr×Nat
 |0,a=>uJ es a
 |d+1,a=>
  let k:=au es 3 a
  if(k.1:Int)=0 then
   let x:=PU es d k.2
   let o:=au es 4 x.2
   let y:=PU es d o.2
   (x.1.mergeQ (1+(o.1:Int)) y.1 [],y.2)
  else uJ es k.2
def aJN(f:aa->aa->Rat):Prop:= ∀(l:ab) (a b c:Rat),l.Ne->f (l.at a) (l.at c)=f (l.at a) (l.at b)+f (l.at b) (l.at c)
def sdF(f:aa->aa->Rat)(s:aE):Rat:=f (s.l.at s.v.lo) (s.l.at s.v.hi)
def Ww(f:aa->aa->Rat)(c:aG):Rat:=Yo f (DJ (c.map (·.l)))
def Vz(f:aa->aa->Rat)(t:Tr)(c:aG):Rat:=pE (fun x:Bool×aG=>if x.1 then Ww f x.2 else 0) (t.parts c)
def muG(f:aa->aa->Rat)(t:Tr)(c:aG)(l:ab):Rat:=if de c l then Vz f t (bP c l) else 0
def aJX(t:Tr)(c:aG):Prop:= ∀x∈t.parts c,x.1=true->Yc x.2=true
def Wx(v:List aa):List (aa×aa):=(List.range v.length).map fun i=>(v.getD i ⟨0,0⟩,v.getD ((i+1)%v.length) ⟨0,0⟩)
def se(cs:List (List ab)):List (aa×aa):=cs.flatMap fun c=>Wx (DJ c)
def rI(cs:List aG):List (List ab):=cs.map fun c=>c.map (·.l)
def edE(x:aa×aa):List DV:=[GJ x.1 x.2,eF (x.1.cross x.2)]

def eCl(x:List ab×Bool):DV:= .ag [.sl (x.1.map eL),vB x.2]
def eSd(c:List ab):DV:= .sl (c.map eL)
def aJ2(ps:List (List ab×Bool)):List (List ab):=(ps.filter (·.2)).map (·.1)
def eRp(v:List aa):DV:= .sl (v.map eP)
def aJU(c:aG):List (List aa):=QO (DJ (c.map (·.l)))


def xw:List ZP:=[(0,0),(1,0),(0,1)]
def Vg:cp xw:=⟨by decide,by decide,fun p hp=>by
 unfold xw at hp;simp only[aW,kV,or_false] at hp;rcases hp with rfl|rfl|rfl<;>exact⟨by decide,by decide⟩,by decide⟩
def RC(r:List aa)(j:Nat):Nat->aa
 |0=>(((r.getD 0 ⟨0,0⟩).add (r.getD 1 ⟨0,0⟩)).add (r.getD 2 ⟨0,0⟩)).scale (((1:Int):Rat)/((3:Int):Rat))
 |k+1=>((RC r j k).add (r.getD j ⟨0,0⟩)).scale (((1:Int):Rat)/((2:Int):Rat))
def smp(ts:List (List aa))(i:Nat):aa:=RC (ts.getD (i%ts.length) []) (i%3) (i/ts.length)
theorem aB.mono{p:aa}{i j:Nat}(h:aB p i)(hj:i<=j):aB p j:=⟨h.x.mono hj,h.y.mono hj⟩
structure XH (cs:List aG) (b:Nat):Prop where
 lb: ∀c∈cs,∀s∈c,LB s.l
 sh: ∀c∈cs,c.length<=100000
 ln:cs.length<=1000000
 pt: ∀x∈se (rI cs),aB x.1 b/\aB x.2 b
def Md(x:aa×aa):aa:=(x.1.add x.2).scale (x.1.cross x.2)
def PH{α:Type}(f:α->aa)(l:List α):aa:=⟨pE (fun x=>(f x).x) l,pE (fun x=>(f x).y) l⟩
def Ox{n:Int}{d:Nat}(hn:n.natAbs<=1000)(hd:0<d)(hd1:d<=1000):PF GB prog 38 [vI n, .v (.int .i64 (d:Nat))] (eQ (mkRat n d)):=by
 haveI:BI n 10:=Cb (by omega);haveI:BN d 10:=⟨by omega⟩;refine fn func38 J J ntmps38 J J (fun C=>?_);refine cl J (P6 (n:=n) (by omega) (by omega)) J<|cl J (tg (u:=d) (by omega)) J<|cl J (yj (x:=n) (d:=d) hd) J<|?_;exact rz J J
def qF(es:List Int)(a:Nat):Rat×Nat:=
 (if((au es 6 (au es 9 a).2).1:Int)=0 then mkRat (2*(((au es 9 a).1:Int)-4)+1) 2 else if((au es 6 (au es 9 a).2).1:Int)=1 then mkRat (3*(((au es 9 a).1:Int)-4)+1) 3 else(((au es 9 a).1:Rat)-4:Rat),(au es 6 (au es 9 a).2).2)
theorem F4{es:List Int}{a:Nat}(ha:a<=es.length):BQ (qF es a).1 12/\(qF es a).2<=es.length:=by
 have h1:=jq (es:=es) (n:=9) (a:=a) (by decide);refine⟨?_,iq (iq ha)⟩;unfold qF;dsimp only;split
 ·exact wq (by decide) (by omega) (by decide)
 ·split
  ·exact wq (by decide) (by omega) (by decide)
  ·haveI:BI (((au es 9 a).1:Int)-4:Int) 11:=Cb (by omega)
   have e:((((au es 9 a).1:Rat)-4):Rat)=((((au es 9 a).1:Int)-4:Int):Rat):=by rw[mS];rfl
   rw[e];exact inferInstance
def qr(es:List Int)(a:Nat):aa×Nat:=(⟨(qF es a).1,(qF es (qF es a).2).1⟩,(qF es (qF es a).2).2)
theorem RW{es:List Int}{a:Nat}(ha:a<=es.length):aB (qr es a).1 1200/\(qr es a).2<=es.length:=by
 obtain⟨h1,h2⟩:=F4 ha;obtain⟨h3,h4⟩:=F4 h2;exact⟨⟨h1.mono (by decide),h3.mono (by decide)⟩,h4⟩
def q9(z:Nat):(z:Rat)-4=(((z:Int)-4:Int):Rat):=by rw[mS];rfl
def Dc:ab:=⟨1,0,0⟩
def aJR(es:List Int)(L:List ab)(a:Nat):aa×Nat:=
 if L.length=0 then qr es a else
 if((au es 3 (au es L.length a).2).1:Int)=0 then
  (if crossI (L.getD (au es L.length a).1 Dc) (L.getD (au es L.length (au es 3 (au es L.length a).2).2).1 Dc)≠0 then(gg (L.getD (au es L.length a).1 Dc) (L.getD (au es L.length (au es 3 (au es L.length a).2).2).1 Dc),(au es L.length (au es 3 (au es L.length a).2).2).2) else qr es (au es L.length (au es 3 (au es L.length a).2).2).2)
 else if((au es 3 (au es L.length a).2).1:Int)=1 then((L.getD (au es L.length a).1 Dc).at (qF es (au es 3 (au es L.length a).2).2).1,(qF es (au es 3 (au es L.length a).2).2).2) else qr es (au es 3 (au es L.length a).2).2
def If{b:Nat}{es:List Int}(hes:es.length<=400){a:Nat}(ha:a<=es.length):PM GB prog 13 (ip [none] b) b 70 [.sl (es.map vI), .v (.int .i64 (a:Nat))] (eQ (qF es a).1) [.sl (es.map vI), .v (.int .i64 ((qF es a).2:Nat))]:=by
 have h1:=jq (es:=es) (n:=9) (a:=a) (by decide);refine ui func13 J J ntmps13 J J (fun C b m lo hmb=>?_);refine cm J (fun b=>(nC (n:=9) hes ha (by decide) (by decide))) J<|cm J (fun b=>(nC (n:=6) hes (iq ha) (by decide) (by decide))) J<|?_;refine br J J J (fun hc9=>?_) (fun hc9=>?_)
 .
  refine cl J (Ox (n:=2*(((au es 9 a).1:Int)-4)+1) (d:=2) (by omega) (by decide) (by decide)) J<|?_;exact kg hmb J J (by unfold qF;dsimp only;rw[if_pos hc9];rfl) J
 .
  refine br J J J (fun hc15=>?_) (fun hc15=>?_)
  .
   refine cl J (Ox (n:=3*(((au es 9 a).1:Int)-4)+1) (d:=3) (by omega) (by decide) (by decide)) J<|?_;exact kg hmb J J (by unfold qF;dsimp only;rw[if_neg hc9,if_pos hc15];rfl) J
  .
   refine cl J (zz (n:=(((au es 9 a).1:Int)-4)) (by omega) (by omega)) J<|?_;exact kg hmb J J (by unfold qF;dsimp only;rw[if_neg hc9,if_neg hc15,q9];rfl) J
def YR{b:Nat}{es:List Int}(hes:es.length<=400){a:Nat}(ha:a<=es.length):PM GB prog 10 (ip [none] b) b 70 [.sl (es.map vI), .v (.int .i64 (a:Nat))] (eP (qr es a).1) [.sl (es.map vI), .v (.int .i64 ((qr es a).2:Nat))]:=by
 refine ui func10 J J ntmps10 J J (fun C b m lo hmb=>?_);refine cm J (fun b=>(If hes ha)) J<|cm J (fun b=>(If hes (F4 ha).2)) J<|?_;exact kg hmb J J J J

def aIE(x:aa×aa):Rat:=(x.1.x*x.1.x+x.2.x*x.2.x+(x.1.add x.2).x*(x.1.add x.2).x)*x.1.cross x.2
def X5(x:aa×aa):Rat:=(x.1.x*x.1.y+x.2.x*x.2.y+(x.1.add x.2).x*(x.1.add x.2).y)*x.1.cross x.2
def WZ(x:aa×aa):Rat:=(x.1.y*x.1.y+x.2.y*x.2.y+(x.1.add x.2).y*(x.1.add x.2).y)*x.1.cross x.2
structure aKr (cs:List aG):Prop where
 ed:XH cs 1200
 cr: ∀x∈se (rI cs),BQ (x.1.cross x.2) 5000
 ar: ∀k,BQ (pE (fun x=>x.1.cross x.2) ((se (rI cs)).take k)) 2000000
 mo: ∀k,aB (PH Md ((se (rI cs)).take k)) 3000000
 sa: ∀k,BQ (pE aIE ((se (rI cs)).take k)) 4000000
 sb: ∀k,BQ (pE X5 ((se (rI cs)).take k)) 4000000
 sc: ∀k,BQ (pE WZ ((se (rI cs)).take k)) 4000000
def aJu(t:Tr):Rat:=pE (fun x=>x.1.cross x.2) (se (rI (HC t)))*mkRat 1 2
def aKd(t:Tr):aa:=(PH Md (se (rI (HC t)))).scale (((1:Int):Rat)/((6:Int):Rat))
def zR0:DV:= .ag [vB false, .sl [], .sl []]
def zP0:DV:= .ag [vB false, .sl [], .sl [],vB false, .sl [], .sl []]
def VA:Rat:=((1:Int):Rat)/((24:Int):Rat)
def aJ4(f:aa×aa->Rat)(t:Tr):Rat:=pE f (se (rI (HC t)))*VA
structure DQ (D B:Nat) (x:Rat):Prop where
 ex: ∃n:Int,x*((D:Nat):Rat)=(n:Rat)/\n.natAbs<=B*D
def crN(l m:ab):Nat:=if crossI l m=0 then 1 else(crossI l m).natAbs
def Xy(K:List ab):List Nat:=K.flatMap fun l=>K.map (crN l)
def aJ3(K:List ab):Nat:=(Xy K).foldr (· * ·) 1
structure DP (D B:Nat) (p:aa):Prop where
 x:DQ D B p.x
 y:DQ D B p.y

def eM(a b c d e f:Rat):DV:= .ag [(.v (.bool (decide ((a).num<0)))),(dN (a).num.natAbs),(dD (a).den),(.v (.bool (decide ((b).num<0)))),(dN (b).num.natAbs),(dD (b).den),(.v (.bool (decide ((c).num<0)))),(dN (c).num.natAbs),(dD (c).den),(.v (.bool (decide ((d).num<0)))),(dN (d).num.natAbs),(dD (d).den),(.v (.bool (decide ((e).num<0)))),(dN (e).num.natAbs),(dD (e).den),(.v (.bool (decide ((f).num<0)))),(dN (f).num.natAbs),(dD (f).den)]
def zq3:List DV:=[.v (.bool (decide ((0:Rat).num<0))),dN (0:Rat).num.natAbs,dD (0:Rat).den]

def sqA:List ZP:=[(0,0),(2,0),(2,2),(0,2)]
def sqT:Tr:=fm [sqA] 2


def W6(n q p:aa)(e:Rat):n.dot (ba q p e)=n.dot q+e*(n.dot p-n.dot q):=by
 unfold aa.dot ba;grind
def th(M:List ab)(E:List (aa×aa)):Prop:= ∀f∈E,∃m∈M,m.value f.1=0/\m.value f.2=0
def Ly(m:ab)(a p:aa):m.nor.dot ⟨a.x-p.x,a.y-p.y⟩=m.value a-m.value p:=by
 rw[n5,n5];unfold ab.nor aa.dot;dsimp only;grind
def WH(n:aa)(k:Rat)(r:aa):n.dot ⟨k*r.x,k*r.y⟩=k*n.dot r:=by unfold aa.dot;dsimp only;grind
def Ac{M:List ab}{E:List (aa×aa)}(hM:th M E){p v:aa}(hv:v≠⟨0,0⟩)(hg:Gn M p v):lG E p v:=⟨hv,fun f hf r ⟨ho,hr⟩ ⟨k,k0,e⟩=>by
 obtain⟨m,hm,h1,h2⟩:=hM f hf;obtain⟨s,s0,s1,es⟩:=ho;have hp:m.value p=0:=by rw[es,kt,h1,h2];grind
 refine hg m hm hp ?_;rw[e,WH];rcases hr with⟨rfl,_⟩|⟨rfl,_⟩
 ·rw[Ly,h2,hp];grind
 ·rw[Ly,h1,hp];grind⟩
def V'{M:List ab}{E:List (aa×aa)}(hM:th M E)(ok: ∀l∈M,l.ok){p x:aa}(hx:lG E p x): ∃w,Gn M p w/\w≠⟨0,0⟩/\ ∀s,0<=s->s<=1->lG E p (ba x w s):=by
 by_cases h0: ∃m∈M,m.value p=0
 ·obtain⟨m0,hm0,z0⟩:=h0
  obtain⟨w,g1,g2⟩:=GV (L:=M.filter fun l=>decide (l.nor.dot x≠0)) (M:=M) (p:=p) (v:=x) ok fun l hl _=>by simpa using (jJ.1 hl).2
  have nz: ∀{u:aa} {n:aa},n.dot u≠0->u≠⟨0,0⟩:=fun h e=>h (by rw[e];unfold aa.dot;grind);refine⟨w,g1,nz (g1 m0 hm0 z0),fun s s0 s1=>?_⟩;by_cases hs:s=0
  ·rw[hs,KG];exact hx
  ·have key: ∀m∈M,m.value p=0->m.nor.dot (ba x w s)≠0:=fun m hm hz=>by
    rw[W6];have hw:=g1 m hm hz;by_cases k:m.nor.dot x=0
    ·rw[k]
     intro e;have e':s*m.nor.dot w=0:=by grind
     exact(cS.1 e').elim hs hw
    ·have hsg:=g2 m (jJ.2 ⟨hm,decide_eq_true k⟩) hz
     generalize m.nor.dot x=a at*;generalize m.nor.dot w=b at*;rcases eB a with q|q|q
     ·exact absurd q k
     ·have hb:0<b:=(jd _).1 (by rw[<-hsg];exact(jd _).2 q)
      have m1:=cj (show 0<=1-s by grind) (cM q);have m2:=bF (show 0<s by grind) hb;grind
     ·have hb:b<0:=(lc _).1 (by rw[<-hsg];exact(lc _).2 q)
      have m1:=cj (show 0<=1-s by grind) (show 0<= -a by grind);have m2:=bF (show 0<s by grind) (show 0< -b by grind);grind
   exact Ac hM (nz (key m0 hm0 z0)) fun m hm hz=>key m hm hz
 ·exact⟨x,fun l hl hz=>absurd ⟨l,hl,hz⟩ h0,hx.1,fun s _ _=>by rw[CH];exact hx⟩
def SB:sD.ok:=by unfold ab.ok sD;decide
section
variable {rs:List (List ZP)} {fill:Int} {p:aa}
def rG(rs:List (List ZP))(fill:Int)(p:aa)(b:Bool):Prop:= ∃x,lG (ER rs) p x/\ow rs fill p x b
def XJ(hr: ∀r∈rs,cp r){M:List ab}(hM:th M (ER rs))(ok: ∀l∈M,l.ok){b:Bool}:rG rs fill p b↔ ∃w,w≠⟨0,0⟩/\Gn M p w/\ow rs fill p w b:=by
 constructor
 ·rintro ⟨x,h1,h2⟩
  obtain⟨w,w1,w2,w3⟩:=V' hM ok h1;exact⟨w,w2,w1,H3 hr w3 h2⟩
 ·rintro ⟨w,w1,w2,w3⟩
  exact⟨w,Ac hM w1 w2,w3⟩
def atH(hr: ∀r∈rs,cp r){M:List ab}(hM:th M (ER rs))(ok: ∀l∈M,l.ok):rG rs fill p true\/rG rs fill p false:=by
 obtain⟨w,hw⟩:=Oe (M:=sD::M) (fun l hl=>by rcases aW.1 hl with rfl|hl;exact SB;exact ok l hl) p;by_cases h0:w=⟨0,0⟩
 ·-- no line of M runs through p
  have hf:lG (ER rs) p ⟨1,0⟩:=Ac hM (by simp) fun l hl hz=>by
   have:=hw l (aZ _ hl) hz;rw[h0] at this;exact absurd (by unfold aa.dot;grind) this
  obtain⟨b,hb⟩:=LC (fill:=fill) hr hf
  cases b with
  |true=>exact .inl ⟨_,hf,hb⟩
  |false=>exact .inr ⟨_,hf,hb⟩
 ·have hf:=Ac hM h0 fun l hl=>hw l (aZ _ hl)
  obtain⟨b,hb⟩:=LC (fill:=fill) hr hf
  cases b with
  |true=>exact .inl ⟨_,hf,hb⟩
  |false=>exact .inr ⟨_,hf,hb⟩
def Z2(hr: ∀r∈rs,cp r){v:aa}{s:Rat}(h0:0<s)(hv:lG (ER rs) p v)(hs: ∀f∈ER rs,¬iH f.1 f.2 p-> ∀t,0<t->t<=s-> ¬iH f.1 f.2 (bt p v t)):ow rs fill p v (fe rs fill (bt p v s)):=by
 refine⟨s,h0,fun d d0 d1=>?_⟩;refine(EZ (q:=bt p v d) (p:=bt p v s) fun f hf a t a0 a1 t0 t1 h=>?_).symm;rw[DY] at h;have q0:0<d+t*(s-d):=by
  have:=cj t0 (show 0<=s-d by grind);grind
 have q1:d+t*(s-d)<=s:=by
  have:=cj (show 0<=1-t by grind) (show 0<=s-d by grind);grind
 have ho:iH f.1 f.2 (bt p v (d+t*(s-d))):=⟨a,a0,a1,h.symm⟩;by_cases hp:iH f.1 f.2 p
 ·obtain⟨r,r1,r2⟩:=Nl (DN hr f hf) q0 hv.1 hp ho
  exact hv.2 f hf r r1 r2
 ·exact hs f hf hp _ q0 q1 ho
def ast(hr: ∀r∈rs,cp r){M:List ab}(hM:th M (ER rs))(ok: ∀l∈M,l.ok)(b:Bool):tI (fm rs fill) p b↔rG rs fill p b:=by
 have hraw:=Tz (fill:=fill) hr;have hb:(fm rs fill).all ab.ok:=Tr.restrict_all ab.ok _ _ hraw
 -- all lines in sight
 have okA: ∀l∈(sD::M)++((me rs fill).lns++(fm rs fill).lns),l.ok:=fun l hl=>by
  rcases bW.1 hl with h|h
  ·rcases aW.1 h with rfl|h
   ·exact SB
   ·exact ok l h
  ·exact(bW.1 h).elim (sP hraw l) (sP hb l)
 have hMA:th ((sD::M)++((me rs fill).lns++(fm rs fill).lns)) (ER rs):=fun f hf=>by
  obtain⟨m,h1,h2⟩:=hM f hf;exact⟨m,bM _ (aZ _ h1),h2⟩
 have same: ∀{w:aa},Gn ((sD::M)++((me rs fill).lns++(fm rs fill).lns)) p w-> ∃e:Rat,0<e/\ ∀d,0<d->d<=e->(fj (fm rs fill) p w).1=fe rs fill (bt p w d):=fun{w} hw=>by
  obtain⟨e1,a1,b1⟩:=EP (t:=me rs fill) fun l hl=>hw l (cJ _ (bM _ hl));obtain⟨e2,a2,b2⟩:=EP (t:=fm rs fill) fun l hl=>hw l (cJ _ (cJ _ hl));obtain⟨e,c1,c2,c3⟩:=min2 a1 a2;refine⟨e,c1,fun d d0 d1=>?_⟩;rw[(b2 d d0 (by grind)).2,Ny hr (b1 d d0 (by grind)).1]
 constructor
 ·intro h
  obtain⟨w,w1,w2⟩:=aAU h okA;obtain⟨e,e0,he⟩:=same w1;have hger:ow rs fill p w b:=⟨e,e0,fun d d0 d1=>by rw[<-he d d0 d1,w2]⟩;by_cases h0:w=⟨0,0⟩
  ·have hf:lG (ER rs) p ⟨1,0⟩:=Ac hM (by simp) fun l hl hz=>by
    have:=w1 l (bM _ (aZ _ hl)) hz;rw[h0] at this;exact absurd (by unfold aa.dot;grind) this
   -- p lies on no line at all
   have hoff: ∀f∈ER rs,¬iH f.1 f.2 p:=fun f hf ⟨s,s0,s1,es⟩=>by
    obtain⟨m,h1,h2,h3⟩:=hM f hf;have hp:m.value p=0:=by rw[es,kt,h2,h3];grind
    have:=w1 m (bM _ (aZ _ h1)) hp;rw[h0] at this;exact this (by unfold aa.dot;grind)
   obtain⟨e3,a3,b3⟩:=Gk (DN hr) p ⟨1,0⟩ ⟨1,0⟩;refine⟨⟨1,0⟩,hf,e3,a3,fun d d0 d1=>?_⟩;have hpb:fe rs fill p=b:=by
    have:=he e e0 fZ;rw[h0,show bt p ⟨0,0⟩ e=p by unfold bt;cases p;simp only[aa.mk.injEq];constructor<;>grind] at this;rw[<-this,<-w2,h0]
   rw[<-hpb];refine EZ (q:=p) (p:=bt p ⟨1,0⟩ d) fun f hf a t a0 a1 t0 t1 h=>?_;have e4:ba p (bt p ⟨1,0⟩ d) t=bt p (ba ⟨1,0⟩ ⟨1,0⟩ 0) (t*d):=by rw[CH];unfold ba bt;simp only[aa.mk.injEq];constructor<;>grind
   rw[e4] at h;have:=cj (show 0<=1-t by grind) (cM d0);exact b3 f hf (hoff f hf) (t*d) 0 (cj t0 (cM d0)) (by grind) (by decide) (by decide) ⟨a,a0,a1,h.symm⟩
  ·exact⟨w,Ac hMA h0 w1,hger⟩
 ·intro h
  obtain⟨w,w1,w2,e,e0,he⟩:=(XJ hr hMA okA).1 h;obtain⟨e2,a2,b2⟩:=same w2;obtain⟨d,c1,c2,c3⟩:=min2 e0 a2;refine⟨w,Pp fun l hl=>w2 l (cJ _ (cJ _ hl)),?_⟩;rw[b2 d c1 c3,he d c1 c2]
end
def auN{rs:List (List ZP)}(hr: ∀r∈rs,cp r){ls:List ab}(hl: ∀f∈bO rs,f.l∈ls):th (lz ls) (ER rs):=fun f hf=>by
 obtain⟨r,h1,h2⟩:=cN.1 hf;obtain⟨k,hk,rfl⟩:=bJ.1 h2;have hk':=jY.1 hk;have he:bj (r.getD k (0,0)) (dP r k)∈bO rs:=cN.2 ⟨r,h1,Br hk'⟩;obtain⟨g,_,z1,z2,_⟩:=HZ ((hr r h1).ne k hk');refine⟨_,awS (hl _ he),?_,?_⟩
 ·rcases Hk (bj (r.getD k (0,0)) (dP r k)).l (r.getD k (0,0)).q with e|e<;>rw[e]
  ·exact z1
  ·rw[show(bj (r.getD k (0,0)) (dP r k)).l.value (r.getD k (0,0)).q=0 from z1];rfl
 ·rcases Hk (bj (r.getD k (0,0)) (dP r k)).l (dP r k).q with e|e<;>rw[e]
  ·exact z2
  ·rw[show(bj (r.getD k (0,0)) (dP r k)).l.value (dP r k).q=0 from z2];rfl
section
variable {rs:List (List ZP)} {fill:Int} {L:List ab} {p:aa}
def Wy(hr: ∀r∈rs,cp r)(h:IP L)(hM:th L (ER rs)){vs:List aa}{q:aa->aa}(hv: ∀b,(∃v∈vs,fe rs fill (q v)=b)↔rG rs fill p b):mE (fm rs fill) p=if(vs.any fun v=>fe rs fill (q v))&&vs.all (fun v=>fe rs fill (q v)) then 2 else if vs.any fun v=>fe rs fill (q v) then 1 else 0:=by
 have hb:(fm rs fill).all ab.ok:=Tr.restrict_all ab.ok _ _ (Tz hr);have hd:=ast (p:=p) (fill:=fill) hr hM h.ok;have a1:(vs.any fun v=>fe rs fill (q v))=true↔rG rs fill p true:=by rw[<-hv,mX]
 have a2:(vs.all fun v=>fe rs fill (q v))=true↔ ¬rG rs fill p false:=by
  rw[<-hv,fW];constructor
  ·rintro k ⟨v,v1,v2⟩;rw[k v v1] at v2;cases v2
  ·intro k v hv'
   cases e:fe rs fill (q v) with
   |true=>rfl
   |false=>exact absurd ⟨v,hv',e⟩ k
 have hs:=atH (p:=p) (fill:=fill) hr hM h.ok
 cases b1:vs.any fun v=>fe rs fill (q v) with
 |false=>
  have n1: ¬rG rs fill p true:=fun k=>by rw[a1.2 k] at b1;cases b1
  simp only[Bool.false_and,dJ,if_false];exact(Su hb).2 fun k=>n1 ((hd true).1 k)
 |true=>
  cases b2:vs.all fun v=>fe rs fill (q v) with
  |true=>
   simp only[Bool.and_self,if_true];exact(LH hb).2 fun k=>a2.1 b2 ((hd false).1 k)
  |false=>
   simp only[Bool.true_and,dJ,if_false,if_true];have n2:rG rs fill p false:=Classical.byContradiction fun k=>by rw[a2.2 k] at b2;cases b2
   have c0:mE (fm rs fill) p≠0:=fun k=>(Su hb).1 k ((hd true).2 (a1.1 b1));have c2:mE (fm rs fill) p≠2:=fun k=>(LH hb).1 k ((hd false).2 n2);rcases ZV (fm rs fill) p with k|k|k
   ·exact absurd k c0
   ·exact k
   ·exact absurd k c2
end
def qD(v:av)(t:Rat):Bool:=(v.nl||decide (cg v.lo t<=0))&&(v.nh||decide (0<=cg v.hi t))
def Qu{v:av}{t:Rat}:qD v t=true↔v.has t:=by
 unfold qD av.has;simp only[aL,iL,decide_eq_true_eq,GU,OD]
def kl(f:aE)(p:aa):Bool:=decide (Int.sign (f.l.value p).num=0)&&qD f.v (cB f.l p)
def FH{f:aE}{p:aa}:kl f p=true↔f.l.value p=0/\f.v.has (cB f.l p):=by
 unfold kl;rw[aL,decide_eq_true_eq,jA,Qu]
def Es{a b:Rat}(h:b≠0):a/b*b=a:=by grind
def FL{v w:ZP}(h:v≠w)(ho:(bj v w).l.ok){x:aa}:kl (bj v w) x=true↔iH v.q w.q x:=by
 obtain⟨e1,e2,e3⟩:=Al h ho;have hv: ∀t,(bj v w).v.has t↔(bj v w).v.lo<=t/\t<=(bj v w).v.hi:=fun t=>by
  unfold av.has bj;simp
 rw[FH,hv];generalize (bj v w).v.lo=lo at*;generalize (bj v w).v.hi=hi at*;generalize (bj v w).l=l at*;constructor
 ·rintro ⟨hz,h1,h2⟩
  have ex:=Fk ho.ne hz;generalize cB l x=t at*;have e:(t-lo)/(hi-lo)*(hi-lo)=t-lo:=Es (by grind);refine⟨(t-lo)/(hi-lo),(ig (k:=hi-lo) (by grind)).1 (by rw[e];grind),?_,?_⟩
  ·have:=(ig (s:=1-(t-lo)/(hi-lo)) (k:=hi-lo) (by grind)).1 (by
    have e4:(1-(t-lo)/(hi-lo))*(hi-lo)=(hi-lo)-(t-lo)/(hi-lo)*(hi-lo):=by generalize (t-lo)/(hi-lo)=q;grind
    rw[e4,e];grind)
   grind
  ·rw[<-e1,<-e2,J3,<-ex]
   congr 1;rw[e];grind
 ·rintro ⟨s,s0,s1,rfl⟩
  rw[<-e1,<-e2,J3];rw[CM ho.ne];have:=cj s0 (show 0<=hi-lo by grind);have:=cj (show 0<=1-s by grind) (show 0<=hi-lo by grind);exact⟨pn ho.ne _,by grind,by grind⟩
def sA(f:aE)(p:aa):Int:=
 if Int.sign f.l.dir.y.num=0\/Int.sign (f.l.value p).num≠Int.sign f.l.dir.y.num then 0
 else if(if Int.sign f.l.dir.y.num<0 then f.v.nh=false/\0<cg (f.l.at f.v.hi).y p.y else f.v.nl=false/\0<cg (f.l.at f.v.lo).y p.y) then 0
 else if(if Int.sign f.l.dir.y.num<0 then f.v.nl=false/\cg (f.l.at f.v.lo).y p.y<=0 else f.v.nh=false/\cg (f.l.at f.v.hi).y p.y<=0) then 0
 else Int.sign f.l.dir.y.num
def gn(E:List aE)(p:aa):Int:=E.foldl (fun n f=>n+sA f p) 0
def aAv{v w:ZP}(h:v≠w)(p:aa): ∃g:Rat,0<g/\dE v.q w.q p=g*(bj v w).l.value p/\w.q.y-v.q.y=g*(bj v w).l.dir.y:=by
 obtain⟨g,g0,h1,h2,h3⟩:=HZ h;refine⟨g,g0,?_,by rw[h3];unfold bt;show _=g*(i5 v.1 v.2 w.1 w.2).dir.y;dsimp only;grind⟩;show _=g*(i5 v.1 v.2 w.1 w.2).value p;rw[h3];generalize i5 v.1 v.2 w.1 w.2=l at*;rw[n5] at*;unfold dE bt ab.dir;dsimp only;grind
def VP{v w:ZP}(h:v≠w)(ho:(bj v w).l.ok)(p:aa):sA (bj v w) p=pw v.q w.q p:=by
 obtain⟨e1,e2,e3⟩:=Al h ho;obtain⟨g,g0,o1,o2⟩:=aAv h p;have b1:(bj v w).v.nl=false:=J;have b2:(bj v w).v.nh=false:=J;have so:(0<dE v.q w.q p↔0<(bj v w).l.value p)/\(dE v.q w.q p<0↔(bj v w).l.value p<0):=by
  rw[o1];constructor
  ·rw[Rat.mul_comm];exact gp g0
  ·have:=gp (s:= -(bj v w).l.value p) g0
   grind
 have sy:(v.q.y<w.q.y↔0<(bj v w).l.dir.y)/\(w.q.y<v.q.y↔(bj v w).l.dir.y<0):=by
  have t1:=gp (s:=(bj v w).l.dir.y) g0;have t2:=gp (s:= -(bj v w).l.dir.y) g0;constructor<;>grind
 unfold sA;rw[b1,b2,e1,e2];simp only[true_and,GU,Dp];generalize (bj v w).l.value p=z at*;generalize (bj v w).l.dir.y=u at*;unfold pw;rcases eB u with k|k|k
 ·rw[if_pos (.inl ((jA _).2 k))]
  have: ¬(v.q.y<=p.y/\ ¬w.q.y<=p.y/\0<dE v.q w.q p):=fun q=>by grind
  have: ¬(¬v.q.y<=p.y/\w.q.y<=p.y/\dE v.q w.q p<0):=fun q=>by grind
  rw[if_neg ‹_›,if_neg ‹_›];rfl
 ·have su:Int.sign u.num=1:=(jd _).2 k
  rw[su];have n2: ¬(¬v.q.y<=p.y/\w.q.y<=p.y/\dE v.q w.q p<0):=fun q=>by grind
  rw[if_neg n2];simp only[show¬((1:Int)<0) by decide,if_false,show¬((1:Int)=0) by decide,false_or];by_cases hz:0<z
  ·rw[if_neg (by rw[(jd _).2 hz];simp)]
   by_cases a1:v.q.y<=p.y
   ·rw[if_neg (by grind)]
    by_cases a2:w.q.y<=p.y
    ·rw[if_pos a2,if_neg (by grind)];rfl
    ·rw[if_neg a2,if_pos ⟨a1,a2,so.1.2 hz⟩];rfl
   ·rw[if_pos (by grind),if_neg (by grind)];rfl
  ·rw[if_pos (fun q=>hz ((jd _).1 q)),if_neg (by grind)];rfl
 ·have su:Int.sign u.num= -1:=uY k
  rw[su];have n2: ¬(v.q.y<=p.y/\ ¬w.q.y<=p.y/\0<dE v.q w.q p):=fun q=>by grind
  rw[if_neg n2];simp only[show(-1:Int)<0 by decide,if_true,show¬((-1:Int)=0) by decide,false_or];by_cases hz:z<0
  ·rw[if_neg (by rw[uY hz];simp)]
   by_cases a1:w.q.y<=p.y
   ·rw[if_neg (by grind)]
    by_cases a2:v.q.y<=p.y
    ·rw[if_pos a2,if_neg (by grind)];rfl
    ·rw[if_neg a2,if_pos ⟨a2,a1,so.2.2 hz⟩];rfl
   ·rw[if_pos (by grind),if_neg (by grind)];rfl
  ·rw[if_pos (fun q=>hz (by
    have h4:Int.sign z.num<0:=by rw[q];decide
    exact(lc _).1 h4)),if_neg (by grind)];rfl
def GF{α:Type}(f:α->Int): ∀(l:List α) (n:Int),l.foldl (fun n x=>n+f x) n=n+l.foldl (fun n x=>n+f x) 0
 |[],n=>by simp
 |a::t,n=>by
  rw[dT,dT,GF f t (n+f a),GF f t (0+f a)];omega
def Ij(E F:List aE)(p:aa):gn (E++F) p=gn E p+gn F p:=by
 unfold gn;rw[List.foldl_append,GF]
def asM{r:List ZP}(hr:cp r)(p:aa):gn (eO r) p=om r p:=by
 have key: ∀k,k<=r.length->gn (jr r k) p=CA r p k:=by
  intro k
  induction k with
  |zero=>intro _;rfl
  |succ k ih=>
   intro hk;have hm:=Br (r:=r) (k:=k) (n:=r.length) (by omega);have ho:=((rA hr).2 _ hm).ok;rw[jr,Ij,ih (by omega),Cs,Cs,ki];have e:gn [bj (r.getD k (0,0)) (dP r k)] p=sA (bj (r.getD k (0,0)) (dP r k)) p:=by unfold gn;simp
   rw[e,VP (hr.ne k (by omega)) ho]
 exact key r.length (bQ _)
def KK: ∀{rs:List (List ZP)},(∀r∈rs,cp r)-> ∀p,gn (bO rs) p=rs.foldl (fun n r=>n+om r p) 0
 |[],_,p=>rfl
 |r::rs,h,p=>by
  have e:bO (r::rs)=eO r++bO rs:=J;rw[e,Ij,asM (h r aQ),KK fun q hq=>h q (aZ _ hq),dT,GF _ rs (0+om r p)];omega
end Go.Sx
end
