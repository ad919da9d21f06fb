import Derived.Test.YthhjilnhmkheeaaGreatDoorMr19
set_option linter.all false
set_option maxHeartbeats 2000000
set_option maxRecDepth 100000
section
namespace Go.Sx
open Go Go.Proofs Tryz
variable {GB:Gh}
def Zj{c:au}{s:aI}(hs:s∈c): ∃i w,c[i]? =some w/\c[(i+1)%c.length]? =some s:=by
 obtain⟨j,hj,e⟩:=oL hs
 cases j with
 |zero=>
  refine⟨c.length-1,c[c.length-1],aZ we,?_⟩;rw[show c.length-1+1=c.length by omega,lX,aZ hj,e]
 |succ j=>
  refine⟨j,c[j],aZ we,?_⟩;rw[dZ hj,aZ hj,e]
def AK{c:au}(hc:bw c)(ha:dE c)(hb:dB c=true){s:aI}(hs:s∈c):s.l.at s.v.lo∈ge (c.map (·.l))/\s.l.at s.v.hi∈ge (c.map (·.l)):=by
 rw[A9 hc ha hb];refine⟨?_,eX hs⟩;obtain⟨i,w,h1,h2⟩:=Zj hs;rw[(gA hc ha hb h1 h2).2.2];exact eX (aT h1)
def aEq(n q p:aa)(e:Rat):n.dot (aA q p e)=n.dot q+e*(n.dot p-n.dot q):=by
 unfold aa.dot aA;grind
def UI(n q u:aa)(e:Rat):n.dot (av q u e)=n.dot q+e*n.dot u:=by
 unfold aa.dot av;grind
def MS{c:au}(hc:bw c)(ha:dE c)(hb:dB c=true)(n:aa)(m:Rat)(o:aa):aB (fun s:aI=>(n.dot (s.l.at s.v.lo)+n.dot (s.l.at s.v.hi)+n.dot o-3*m)*((s.v.hi-s.v.lo)*s.l.value o)) c=fA (fun p q=>n.dot (p.add q)*p.cross q) c-3*m*fA aa.cross c:=by
 have hsh:=Iq hc ha hb fun q=>(n.dot (o.add q)-3*m)*o.cross q;unfold fA;rw[xv hc ha hb,xv hc ha hb];have e:aB (fun s:aI=>(n.dot (s.l.at s.v.lo)+n.dot (s.l.at s.v.hi)+n.dot o-3*m)*((s.v.hi-s.v.lo)*s.l.value o)) c=aB (fun s:aI=>((n.dot ((s.l.at s.v.lo).add (s.l.at s.v.hi))*(s.l.at s.v.lo).cross (s.l.at s.v.hi))+(-(3*m))*(s.l.at s.v.lo).cross (s.l.at s.v.hi))+(-1)*((n.dot (o.add (s.l.at s.v.hi))-3*m)*o.cross (s.l.at s.v.hi)-(n.dot (o.add (s.l.at s.v.lo))-3*m)*o.cross (s.l.at s.v.lo))) c:=oq fun s hs=>by
  have h1:=jB (hc.ok s hs).ne s.v.lo;rw[KR s];have e2:(s.v.hi-s.v.lo)*s.l.value o=(av (s.l.at s.v.lo) s.l.dir (s.v.hi-s.v.lo)).cross o+o.cross (s.l.at s.v.lo)+(s.l.at s.v.lo).cross (av (s.l.at s.v.lo) s.l.dir (s.v.hi-s.v.lo)):=by
   rw[iC] at*;generalize s.l.at s.v.lo=q at*;generalize s.v.hi-s.v.lo=T at*;unfold av ab.dir aa.cross;grind
  rw[e2];generalize av (s.l.at s.v.lo) s.l.dir (s.v.hi-s.v.lo)=r;generalize s.l.at s.v.lo=q;unfold aa.cross aa.dot aa.add;grind
 rw[e,xd,xd,xu,xu,hsh];grind
def ZO{c:au}(hc:bw c)(ha:dE c)(hb:dB c=true){n:aa}{m:Rat}(hm: ∀v∈ge (c.map (·.l)),m<=n.dot v):3*m*fA aa.cross c<=fA (fun p q=>n.dot (p.add q)*p.cross q) c:=by
 obtain⟨s0,hs0⟩: ∃s,s∈c:=by
  have hne:=(kv hb).1
  cases c with
  |nil=>exact absurd J hne
  |cons s t=>exact⟨s,aQ⟩
 obtain⟨o,ho⟩: ∃o,o=s0.l.at s0.v.lo:=⟨_,rfl⟩;have ov:m<=n.dot o:=by rw[ho];exact hm _ (AK hc ha hb hs0).1
 have oc:m6 c o:=by rw[ho];exact((hc.edge s0 hs0).2 _).1 (BC (hc.edge s0 hs0).1 ((kv hb).2 s0 hs0).1)
 have hp:0<=aB (fun s:aI=>(n.dot (s.l.at s.v.lo)+n.dot (s.l.at s.v.hi)+n.dot o-3*m)*((s.v.hi-s.v.lo)*s.l.value o)) c:=Ct fun s hs=>by
  obtain⟨e1,e2⟩:=AK hc ha hb hs;have a1:=hm _ e1;have a2:=hm _ e2;have a3:=yM hc hb hs;have a4:=oc s hs;exact bz omb (bz omb a4)
 rw[MS hc ha hb] at hp;grind
def vh(M:List ab)(E:List (aa×aa)):Prop:= ∀f∈E,∃m∈M,m.value f.1=0/\m.value f.2=0
def zg(m:ab)(a p:aa):m.nor.dot ⟨a.x-p.x,a.y-p.y⟩=m.value a-m.value p:=by
 rw[iC,iC];unfold ab.nor aa.dot;dsimp only;grind
def UR(n:aa)(k:Rat)(r:aa):n.dot ⟨k*r.x,k*r.y⟩=k*n.dot r:=by unfold aa.dot;dsimp only;grind
def ED{M:List ab}{E:List (aa×aa)}(hM:vh M E){p v:aa}(hv:v≠⟨0,0⟩)(hg:Gn M p v):mF E p v:=⟨hv,fun f hf r ⟨ho,hr⟩ ⟨k,k0,e⟩=>by
 obtain⟨m,hm,h1,h2⟩:=hM f hf;obtain⟨s,s0,s1,es⟩:=ho;have hp:m.value p=0:=by rw[es,mz,h1,h2];grind
 refine hg m hm hp ?_;rw[e,UR];rcases hr with⟨rfl,_⟩|⟨rfl,_⟩
 .rw[zg,h2,hp];grind
 .rw[zg,h1,hp];grind⟩
def L6{M:List ab}{E:List (aa×aa)}(hM:vh M E)(ok: ∀l∈M,l.ok){p x:aa}(hx:mF E p x): ∃w,Gn M p w/\w≠⟨0,0⟩/\ ∀s,0<=s->s<=1->mF E p (aA x w s):=by
 by_cases h0: ∃m∈M,m.value p=0
 .obtain⟨m0,hm0,z0⟩:=h0
  obtain⟨w,g1,g2⟩:=Kz (L:=M.filter fun l=>decide (l.nor.dot x≠0)) (M:=M) (p:=p) (v:=x) ok fun l hl _=>by simpa using (iZ.1 hl).2
  have nz: ∀{u:aa} {n:aa},n.dot u≠0->u≠⟨0,0⟩:=fun h e=>h (by rw[e];unfold aa.dot;grind);refine⟨w,g1,nz (g1 m0 hm0 z0),fun s s0 s1=>?_⟩;by_cases hs:s=0
  .rw[hs,Gw];exact hx
  .have key: ∀m∈M,m.value p=0->m.nor.dot (aA x w s)≠0:=fun m hm hz=>by
    rw[aEq];have hw:=g1 m hm hz;by_cases k:m.nor.dot x=0
    .rw[k]
     intro e;have e':s*m.nor.dot w=0:=by grind
     exact(bX.1 e').elim hs hw
    .have hsg:=g2 m (iZ.2 ⟨hm,decide_eq_true k⟩) hz
     generalize m.nor.dot x=a at*;generalize m.nor.dot w=b at*;rcases cP a with q|q|q
     .exact absurd q k
     .have hb:0<b:=(m8 _).1 (by rw[<-hsg];exact(m8 _).2 q)
      have m1:=bz (show 0<=1-s by grind) (aN q);have m2:=bg (show 0<s by grind) hb;grind
     .have hb:b<0:=(oB _).1 (by rw[<-hsg];exact(oB _).2 q)
      have m1:=bz (show 0<=1-s by grind) (show 0<= -a by grind);have m2:=bg (show 0<s by grind) (show 0< -b by grind);grind
   exact ED hM (nz (key m0 hm0 z0)) fun m hm hz=>key m hm hz
 .exact⟨x,fun l hl hz=>absurd ⟨l,hl,hz⟩ h0,hx.1,fun s _ _=>by rw[B4];exact hx⟩
def Zn:tz.ok:=by unfold ab.ok tz;decide
section
variable {rs:List (List ZP)} {fill:Int} {p:aa}
def Ds(rs:List (List ZP))(fill:Int)(p:aa)(b:Bool):Prop:= ∃x,mF (ER rs) p x/\Bn rs fill p x b
def aAF(hr: ∀r∈rs,bD r){M:List ab}(hM:vh M (ER rs))(ok: ∀l∈M,l.ok){b:Bool}:Ds rs fill p b↔ ∃w,w≠⟨0,0⟩/\Gn M p w/\Bn rs fill p w b:=by
 constructor
 .rintro ⟨x,h1,h2⟩
  obtain⟨w,w1,w2,w3⟩:=L6 hM ok h1;exact⟨w,w2,w1,ax4 hr w3 h2⟩
 .rintro ⟨w,w1,w2,w3⟩
  exact⟨w,ED hM w1 w2,w3⟩
def ZS(hr: ∀r∈rs,bD r){M:List ab}(hM:vh M (ER rs))(ok: ∀l∈M,l.ok)(b:Bool):uW (d7 rs fill) p b↔Ds rs fill p b:=by
 have hraw:=qm (fill:=fill) hr;have hb:(d7 rs fill).all ab.ok:=Tr.restrict_all ab.ok _ _ hraw
 -- all lines in sight
 have okA: ∀l∈(tz::M)++((lH rs fill).lns++(d7 rs fill).lns),l.ok:=fun l hl=>by
  rcases bJ.1 hl with h|h
  .rcases aW.1 h with rfl|h
   .exact Zn
   .exact ok l h
  .exact(bJ.1 h).elim (jO hraw l) (jO hb l)
 have hMA:vh ((tz::M)++((lH rs fill).lns++(d7 rs fill).lns)) (ER rs):=fun f hf=>by
  obtain⟨m,h1,h2⟩:=hM f hf;exact⟨m,bK _ (aX _ h1),h2⟩
 have same: ∀{w:aa},Gn ((tz::M)++((lH rs fill).lns++(d7 rs fill).lns)) p w-> ∃e:Rat,0<e/\ ∀d,0<d->d<=e->(gI (d7 rs fill) p w).1=iH rs fill (av p w d):=fun{w} hw=>by
  obtain⟨e1,a1,b1⟩:=x9 (t:=lH rs fill) fun l hl=>hw l (bW _ (bK _ hl));obtain⟨e2,a2,b2⟩:=x9 (t:=d7 rs fill) fun l hl=>hw l (bW _ (bW _ hl));obtain⟨e,c1,c2,c3⟩:=min2 a1 a2;refine⟨e,c1,fun d d0 d1=>?_⟩;rw[(b2 d d0 omb).2,B8 hr (b1 d d0 omb).1]
 constructor
 .intro h
  obtain⟨w,w1,w2⟩:=aD5 h okA;obtain⟨e,e0,he⟩:=same w1;have hger:Bn rs fill p w b:=⟨e,e0,fun d d0 d1=>by rw[<-he d d0 d1,w2]⟩;by_cases h0:w=⟨0,0⟩
  .have hf:mF (ER rs) p ⟨1,0⟩:=ED hM omc fun l hl hz=>by
    have:=w1 l (bK _ (aX _ hl)) hz;rw[h0] at this;exact absurd (by unfold aa.dot;grind) this
   -- p uJ on no line at all
   have hoff: ∀f∈ER rs,¬f9 f.1 f.2 p:=fun f hf ⟨s,s0,s1,es⟩=>by
    obtain⟨m,h1,h2,h3⟩:=hM f hf;have hp:m.value p=0:=by rw[es,mz,h2,h3];grind
    have:=w1 m (bK _ (aX _ h1)) hp;rw[h0] at this;exact this (by unfold aa.dot;grind)
   obtain⟨e3,a3,b3⟩:=wJ (Ih hr) p ⟨1,0⟩ ⟨1,0⟩;refine⟨⟨1,0⟩,hf,e3,a3,fun d d0 d1=>?_⟩;have hpb:iH rs fill p=b:=by
    have:=he e e0 dX;rw[h0,show av p ⟨0,0⟩ e=p by unfold av;cases p;simp only[aa.mk.injEq];constructor<;>grind] at this;rw[<-this,<-w2,h0]
   rw[<-hpb];refine L0 (q:=p) (p:=av p ⟨1,0⟩ d) fun f hf a t a0 a1 t0 t1 h=>?_;have e4:aA p (av p ⟨1,0⟩ d) t=av p (aA ⟨1,0⟩ ⟨1,0⟩ 0) (t*d):=by rw[B4];unfold aA av;simp only[aa.mk.injEq];constructor<;>grind
   rw[e4] at h;have:=bz (show 0<=1-t by grind) (aN d0);exact b3 f hf (hoff f hf) (t*d) 0 (bz t0 (aN d0)) omb oma oma ⟨a,a0,a1,h.symm⟩
  .exact⟨w,ED hMA h0 w1,hger⟩
 .intro h
  obtain⟨w,w1,w2,e,e0,he⟩:=(aAF hr hMA okA).1 h;obtain⟨e2,a2,b2⟩:=same w2;obtain⟨d,c1,c2,c3⟩:=min2 e0 a2;refine⟨w,Pe fun l hl=>w2 l (bW _ (bW _ hl)),?_⟩;rw[b2 d c1 c3,he d c1 c2]
end
def XE{rs:List (List ZP)}(hr: ∀r∈rs,bD r){ls:List ab}(hl: ∀f∈gm rs,f.l∈ls):vh (vr ls) (ER rs):=fun f hf=>by
 obtain⟨r,h1,h2⟩:=dK.1 hf;obtain⟨k,hk,rfl⟩:=aS.1 h2;have hk':=dS.1 hk;have he:cH (r.getD k (0,0)) (cj r k)∈gm rs:=dK.2 ⟨r,h1,y8 hk'⟩;obtain⟨g,_,z1,z2,_⟩:=Gb ((hr r h1).ne k hk');refine⟨_,aBx (hl _ he),?_,?_⟩
 .rcases J2 (cH (r.getD k (0,0)) (cj r k)).l (r.getD k (0,0)).q with e|e<;>rw[e]
  .exact z1
  .rw[show(cH (r.getD k (0,0)) (cj r k)).l.value (r.getD k (0,0)).q=0 from z1];rfl
 .rcases J2 (cH (r.getD k (0,0)) (cj r k)).l (cj r k).q with e|e<;>rw[e]
  .exact z2
  .rw[show(cH (r.getD k (0,0)) (cj r k)).l.value (cj r k).q=0 from z2];rfl
section
variable {rs:List (List ZP)} {fill:Int} {L:List ab} {p:aa}
end
def Eo(v:ai)(t:Rat):Bool:=(v.nl||decide (bt v.lo t<=0))&&(v.nh||decide (0<=bt v.hi t))
def Ob{v:ai}{t:Rat}:Eo v t=true↔v.has t:=by
 unfold Eo ai.has;simp only[bT,fU,decide_eq_true_eq,Hw,Gf]
def gr(f:aI)(p:aa):Bool:=decide (Int.sign (f.l.value p).num=0)&&Eo f.v (fI f.l p)
def Fv{f:aI}{p:aa}:gr f p=true↔f.l.value p=0/\f.v.has (fI f.l p):=by
 unfold gr;rw[bT,decide_eq_true_eq,l5,Ob]
def CF{a b:Rat}(h:b≠0):a/b*b=a:=by grind
def TX{v w:ZP}(h:v≠w)(ho:(cH v w).l.ok){x:aa}:gr (cH v w) x=true↔f9 v.q w.q x:=by
 obtain⟨e1,e2,e3⟩:=Cx h ho;have hv: ∀t,(cH v w).v.has t↔(cH v w).v.lo<=t/\t<=(cH v w).v.hi:=fun t=>by
  unfold ai.has cH;simp
 rw[Fv,hv];generalize (cH v w).v.lo=lo at*;generalize (cH v w).v.hi=hi at*;generalize (cH v w).l=l at*;constructor
 .rintro ⟨hz,h1,h2⟩
  have ex:=Cc ho.ne hz;generalize fI l x=t at*;have e:(t-lo)/(hi-lo)*(hi-lo)=t-lo:=CF omb;refine⟨(t-lo)/(hi-lo),(ja (k:=hi-lo) omb).1 (by rw[e];grind),?_,?_⟩
  .have:=(ja (s:=1-(t-lo)/(hi-lo)) (k:=hi-lo) omb).1 (by
    have e4:(1-(t-lo)/(hi-lo))*(hi-lo)=(hi-lo)-(t-lo)/(hi-lo)*(hi-lo):=by generalize (t-lo)/(hi-lo)=q;grind
    rw[e4,e];grind)
   grind
  .rw[<-e1,<-e2,IR,<-ex]
   congr 1;rw[e];grind
 .rintro ⟨s,s0,s1,rfl⟩
  rw[<-e1,<-e2,IR];rw[B6 ho.ne];have:=bz s0 (show 0<=hi-lo by grind);have:=bz (show 0<=1-s by grind) (show 0<=hi-lo by grind);exact⟨jB ho.ne _,omb,omb⟩
def aEK{v w:ZP}(h:v≠w)(p:aa): ∃g:Rat,0<g/\ak v.q w.q p=g*(cH v w).l.value p/\w.q.y-v.q.y=g*(cH v w).l.dir.y:=by
 obtain⟨g,g0,h1,h2,h3⟩:=Gb h;refine⟨g,g0,?_,by rw[h3];unfold av;show _=g*(lC v.1 v.2 w.1 w.2).dir.y;dsimp only;grind⟩;show _=g*(lC v.1 v.2 w.1 w.2).value p;rw[h3];generalize lC v.1 v.2 w.1 w.2=l at*;rw[iC] at*;unfold ak av ab.dir;dsimp only;grind
section
variable {rs:List (List ZP)} {fill:Int} {p:aa}
end
def wT(a b p v:aa)(d:Rat):ak a b (av p v d)=ak a b p+d*((b.x-a.x)*v.y-(b.y-a.y)*v.x):=by
 unfold ak av;dsimp only;grind
structure H5 (r:List ZP):Prop where
 ok:bD r
 cen: ∃c:aa,∀f∈fq r,0<ak f.1 f.2 c
 one: ∀p,(∀f∈fq r,0<ak f.1 f.2 p)->cx r p=1
 zer: ∀p,(∃f∈fq r,ak f.1 f.2 p<0)->cx r p=0
 cvx: ∀f∈fq r,∀g∈fq r,0<=ak f.1 f.2 g.1/\0<=ak f.1 f.2 g.2
 onE: ∀p,(∀f∈fq r,0<=ak f.1 f.2 p)-> ∀f∈fq r,ak f.1 f.2 p=0->f9 f.1 f.2 p
def Gv(r:List ZP):ER [r]=fq r:=by unfold ER;simp
def x6(r:List ZP)(fill:Int)(p:aa):iH [r] fill p=p8 fill (cx r p):=by
 unfold iH;simp
def Rw{E:List (aa×aa)}{p:aa}(h: ∀f∈E,0<ak f.1 f.2 p)(v:aa): ∃e:Rat,0<e/\ ∀d,0<d->d<=e-> ∀f∈E,0<ak f.1 f.2 (av p v d):=by
 induction E with
 |nil=>exact⟨1,oma,fun d _ _ f hf=>by cases hf⟩
 |cons f E ih=>
  obtain⟨e1,a1,b1⟩:=ih fun g hg=>h g (aX _ hg);obtain⟨e2,a2,b2⟩: ∃e:Rat,0<e/\ ∀d,0<d->d<=e->0<ak f.1 f.2 (av p v d):=by
   have h0:=h f aQ;simp only[wT];generalize ak f.1 f.2 p=z at*;generalize (f.2.x-f.1.x)*v.y-(f.2.y-f.1.y)*v.x=s;by_cases hs:0<=s
   .exact⟨1,oma,fun d d0 d1=>by have:=bz (aN d0) hs;grind⟩
   .have hq:=div_pos h0 (show 0< -s+1 by grind)
    have e:z/(-s+1)*(-s+1)=z:=CF omb;refine⟨z/(-s+1),hq,fun d d0 d1=>?_⟩;generalize z/(-s+1)=q at*;have:=bz (show 0<=q-d by grind) (show 0<= -s by grind);grind
  obtain⟨e,c1,c2,c3⟩:=min2 a1 a2;refine⟨e,c1,fun d d0 d1 g hg=>?_⟩;rcases aW.1 hg with rfl|hg
  .exact b2 d d0 omb
  .exact b1 d d0 omb g hg
def aAN{a b p:aa}(h:ak a b p<0)(v:aa): ∃e:Rat,0<e/\ ∀d,0<d->d<=e->ak a b (av p v d)<0:=by
 obtain⟨e,e0,he⟩:=Rw (E:=[(b,a)]) (p:=p) (fun f hf=>by
  rw[aV.1 hf];show 0<ak b a p;unfold ak at*;grind) v
 refine⟨e,e0,fun d d0 d1=>?_⟩;have:=he d d0 d1 _ aQ;generalize av p v d=q at*;dsimp only at this;unfold ak at*;grind
section
variable {r:List ZP} {p:aa}
def Bi{a b x:aa}(h:f9 a b x):ak a b x=0:=by
 obtain⟨s,_,_,rfl⟩:=h;unfold ak aA;dsimp only;grind
theorem okB{p:Prop}(h:p:=by decide+kernel):p:=h
def Yw(h:H5 r){L:List ab}(hc:NT L)(hM:vh L (ER [r])):pe (d7 [r] 1) p=if∀f∈fq r,0<=ak f.1 f.2 p then(if∃f∈fq r,ak f.1 f.2 p=0 then 1 else 2) else 0:=by
 have hr: ∀x∈[r],bD x:=fun x hx=>by rw[aV.1 hx];exact h.ok
 have hb:(d7 [r] 1).all ab.ok:=Tr.restrict_all ab.ok _ _ (qm hr);have hd:=ZS (p:=p) (fill:=1) hr hM hc.ok;have one: ∀{q:aa},(∀f∈fq r,0<ak f.1 f.2 q)->iH [r] 1 q=true:=fun hq=>by rw[x6,h.one _ hq];decide
 have zer: ∀{q:aa},(∃f∈fq r,ak f.1 f.2 q<0)->iH [r] 1 q=false:=fun hq=>by rw[x6,h.zer _ hq];decide
 by_cases ha: ∀f∈fq r,0<=ak f.1 f.2 p
 .rw[if_pos ha]
  by_cases hz: ∃f∈fq r,ak f.1 f.2 p=0
  .rw[if_pos hz]
   obtain⟨f,hf,hz⟩:=hz
   -- towards the middle
   have t1:Ds [r] 1 p true:=by
    obtain⟨c,hc⟩:=h.cen;have mv: ∀(a b:aa) (d:Rat),ak a b (av p ⟨c.x-p.x,c.y-p.y⟩ d)=(1-d)*ak a b p+d*ak a b c:=fun a b d=>by unfold ak av;dsimp only;grind
    refine⟨⟨c.x-p.x,c.y-p.y⟩,⟨fun e=>?_,fun g hg q ⟨ho,hq⟩ ⟨k,k0,ek⟩=>?_⟩,(1:Rat)/2,by decide+kernel,fun d d0 d1=>one fun g hg=>?_⟩
    .have e2:=mv f.1 f.2 1
     rw[e] at e2;have:=hc f hf;have e3:av p ⟨0,0⟩ 1=p:=by unfold av;cases p;simp only[aa.mk.injEq];constructor<;>grind
     rw[e3] at e2;grind
    .rw[Gv] at hg
     have z:=Bi ho;have z2:ak g.1 g.2 (av p q 1)=0:=by
      rcases hq with⟨rfl,_⟩|⟨rfl,_⟩<;>(unfold ak av;dsimp only;grind)
     have z3:ak g.1 g.2 (av p ⟨c.x-p.x,c.y-p.y⟩ 1)=0:=by
      rw[ek,wT];rw[wT] at z2;dsimp only;have:(g.2.x-g.1.x)*q.y-(g.2.y-g.1.y)*q.x=0:=by grind
      have e:(g.2.x-g.1.x)*(k*q.y)-(g.2.y-g.1.y)*(k*q.x)=k*((g.2.x-g.1.x)*q.y-(g.2.y-g.1.y)*q.x):=by grind
      rw[e,this,z];grind
     rw[mv] at z3;have:=hc g hg;grind
    .rw[mv]
     have:=bg d0 (hc g hg);have:=bz (show 0<=1-d by grind) (ha g hg);grind
   -- away from the edge
   have t2:Ds [r] 1 p false:=by
    have hne:=Ih hr f (by rw[Gv];exact hf);have hsq:=yr (uD hne);have mv: ∀d,ak f.1 f.2 (av p ⟨f.2.y-f.1.y, -(f.2.x-f.1.x)⟩ d)= -d*((f.2.x-f.1.x)*(f.2.x-f.1.x)+(f.2.y-f.1.y)*(f.2.y-f.1.y)):=fun d=>by rw[wT,hz];dsimp only;grind
    refine⟨⟨f.2.y-f.1.y, -(f.2.x-f.1.x)⟩,⟨fun e=>?_,fun g hg q ⟨ho,hq⟩ ⟨k,k0,ek⟩=>?_⟩,1,oma,fun d d0 d1=>zer ⟨f,hf,?_⟩⟩
    .have e1:=congrArg aa.x e
     have e2:=congrArg aa.y e;dsimp only at e1 e2;rw[e1,show f.2.x-f.1.x=0 by grind] at hsq;exact absurd hsq okB
    .rw[Gv] at hg
     obtain⟨c1,c2⟩:=h.cvx f hf g hg;have z2:0<=ak f.1 f.2 (av p q 1):=by
      rcases hq with⟨rfl,_⟩|⟨rfl,_⟩
      .have:av p ⟨g.2.x-p.x,g.2.y-p.y⟩ 1=g.2:=by unfold av;dsimp only;generalize g.2=u;cases u;simp only[aa.mk.injEq];constructor<;>grind
       rw[this];exact c2
      .have:av p ⟨g.1.x-p.x,g.1.y-p.y⟩ 1=g.1:=by unfold av;dsimp only;generalize g.1=u;cases u;simp only[aa.mk.injEq];constructor<;>grind
       rw[this];exact c1
     have z3:=mv 1;rw[ek,wT,hz] at z3;rw[wT,hz] at z2;dsimp only at z3;have e:(f.2.x-f.1.x)*(k*q.y)-(f.2.y-f.1.y)*(k*q.x)=k*((f.2.x-f.1.x)*q.y-(f.2.y-f.1.y)*q.x):=by grind
     rw[e] at z3;have:=bz (aN k0) (show 0<=(f.2.x-f.1.x)*q.y-(f.2.y-f.1.y)*q.x by grind);grind
    .rw[mv]
     have:=bg d0 hsq;grind
   rcases aqN (d7 [r] 1) p with k|k|k
   .exact absurd ((hd true).2 t1) ((F5 hb).1 k)
   .exact k
   .exact absurd ((hd false).2 t2) ((RE hb).1 k)
  .rw[if_neg hz]
   have hp: ∀f∈fq r,0<ak f.1 f.2 p:=fun f hf=>by
    have:=ha f hf;have:ak f.1 f.2 p≠0:=fun e=>hz ⟨f,hf,e⟩;grind
   refine(RE hb).2 fun k=>?_;obtain⟨x,x1,e,e0,he⟩:=(hd false).1 k;obtain⟨e2,a2,b2⟩:=Rw hp x;obtain⟨d,c1,c2,c3⟩:=min2 e0 a2;have:=he d c1 c2;rw[one (b2 d c1 c3)] at this
   cases this
 .rw[if_neg ha]
  obtain⟨f,hf,hn⟩: ∃f∈fq r,ak f.1 f.2 p<0:=Classical.byContradiction fun k=>ha fun f hf=>by
   have: ¬ak f.1 f.2 p<0:=fun q=>k ⟨f,hf,q⟩;grind
  refine(F5 hb).2 fun k=>?_;obtain⟨x,x1,e,e0,he⟩:=(hd true).1 k;obtain⟨e2,a2,b2⟩:=aAN hn x;obtain⟨d,c1,c2,c3⟩:=min2 e0 a2;have:=he d c1 c2;rw[zer ⟨f,hf,b2 d c1 c3⟩] at this
  cases this
end
def n5(x y:Rat):(0<=x->0<=y->0<=x*y)/\(0<=x->y<=0->x*y<=0)/\(x<=0->0<=y->x*y<=0)/\(x<=0->y<=0->0<=x*y)/\(0<x->0<y->0<x*y)/\(0<x->y<0->x*y<0)/\(x<0->0<y->x*y<0)/\(x<0->y<0->0<x*y):=by
 refine⟨bz,fun h k=>?_,fun h k=>?_,fun h k=>?_,bg,fun h k=>?_,fun h k=>?_,fun h k=>?_⟩
 .have:=bz h (show 0<= -y by grind);grind
 .have:=bz (show 0<= -x by grind) k;grind
 .have:=bz (show 0<= -x by grind) (show 0<= -y by grind);grind
 .have:=bg h (show 0< -y by grind);grind
 .have:=bg (show 0< -x by grind) k;grind
 .have:=bg (show 0< -x by grind) (show 0< -y by grind);grind
def wS(x y O:Rat):Int:=(if x<=0/\ ¬y<=0/\0<O then 1 else 0)-(if¬x<=0/\y<=0/\O<0 then 1 else 0)
def zi(v w p:aa):d6 v w p=wS (v.y-p.y) (w.y-p.y) (ak v w p):=by
 unfold d6 wS;have e1:v.y<=p.y↔v.y-p.y<=0:=by grind
 have e2:w.y<=p.y↔w.y-p.y<=0:=by grind
 simp only[e1,e2]
def Dx{x y O:Rat}(hx:x<=0)(hy:y<=0):wS x y O=0:=by unfold wS;rw[if_neg (fun q=>q.2.1 hy),if_neg (fun q=>q.1 hx)];rfl
def Dt{x y O:Rat}(hx:0<x)(hy:0<y):wS x y O=0:=by unfold wS;rw[if_neg (fun q=>by grind),if_neg (fun q=>by grind)];rfl
def Lr{x y O:Rat}(hx:x<=0)(hy:0<y):wS x y O=if 0<O then 1 else 0:=by
 unfold wS;rw[if_neg (c:= ¬x<=0/\_) (fun q=>q.1 hx)];by_cases h:0<O
 .rw[if_pos ⟨hx,omb,h⟩,if_pos h];rfl
 .rw[if_neg (fun q=>h q.2.2),if_neg h];rfl
def Ns{x y O:Rat}(hx:0<x)(hy:y<=0):wS x y O=if O<0 then-1 else 0:=by
 unfold wS;rw[if_neg (c:=x<=0/\_) (fun q=>by grind)];by_cases h:O<0
 .rw[if_pos ⟨omb,hy,h⟩,if_pos h];rfl
 .rw[if_neg (fun q=>h q.2.2),if_neg h];rfl
def GG{A B C α β γ:Rat}(h:A*α+B*β+C*γ=0)(hs:0<A+B+C)(ha:α<=0)(hb:0<β)(hc:γ<=0):(0<A->0<B->0<C->wS α β C+wS β γ A+wS γ α B=1)/\(A<0\/B<0\/C<0->wS α β C+wS β γ A+wS γ α B=0):=by
 rw[Lr ha hb,Ns hb hc,Dx hc ha];obtain⟨a1,a2,a3,a4,a5,a6,a7,a8⟩:=n5 A α;obtain⟨b1,b2,b3,b4,b5,b6,b7,b8⟩:=n5 B β;obtain⟨c1,c2,c3,c4,c5,c6,c7,c8⟩:=n5 C γ;generalize A*α=x at*;generalize B*β=y at*;generalize C*γ=z at*;constructor
 .intro h1 h2 h3
  rw[if_pos h3,if_neg omb];rfl
 .intro hn
  by_cases h3:0<C
  .by_cases h1:A<0
   .rw[if_pos h3,if_pos h1];rfl
   .exfalso
    have hB:B<0:=by grind
    have:=a2 omb ha;have:=c2 omb hc;have:=b7 hB hb;grind
  .by_cases h1:A<0
   .exfalso
    have:=a4 omb ha;have:=c4 omb hc;have hB:0<B:=by grind
    have:=b5 hB hb;grind
   .rw[if_neg h3,if_neg h1];rfl
def FJ{A B C α β γ:Rat}(h:A*α+B*β+C*γ=0)(hs:0<A+B+C)(ha:α<=0)(hb:0<β)(hc:0<γ):(0<A->0<B->0<C->wS α β C+wS β γ A+wS γ α B=1)/\(A<0\/B<0\/C<0->wS α β C+wS β γ A+wS γ α B=0):=by
 rw[Lr ha hb,Dt hb hc,Ns hc ha];obtain⟨a1,a2,a3,a4,a5,a6,a7,a8⟩:=n5 A α;obtain⟨b1,b2,b3,b4,b5,b6,b7,b8⟩:=n5 B β;obtain⟨c1,c2,c3,c4,c5,c6,c7,c8⟩:=n5 C γ;generalize A*α=x at*;generalize B*β=y at*;generalize C*γ=z at*;constructor
 .intro h1 h2 h3
  rw[if_pos h3,if_neg omb];rfl
 .intro hn
  by_cases h3:0<C
  .by_cases h1:B<0
   .rw[if_pos h3,if_pos h1];rfl
   .exfalso
    have hA:A<0:=by grind
    have:=a4 omb ha;have:=c5 h3 hc;have:=b1 omb (aN hb);grind
  .by_cases h1:B<0
   .exfalso
    have hA:0<A:=by grind
    have:=a2 omb ha;have:=c3 omb (aN hc);have:=b7 h1 hb;grind
   .rw[if_neg h3,if_neg h1];rfl
def L4{A B C α β γ:Rat}(h:A*α+B*β+C*γ=0)(hs:0<A+B+C)(hz: ¬(α=0/\β=0/\γ=0)):(0<A->0<B->0<C->wS α β C+wS β γ A+wS γ α B=1)/\(A<0\/B<0\/C<0->wS α β C+wS β γ A+wS γ α B=0):=by
 have r1:B*β+C*γ+A*α=0:=by grind
 have r2:C*γ+A*α+B*β=0:=by grind
 by_cases ha:α<=0
 .by_cases hb:β<=0
  .by_cases hc:γ<=0
   .rw[Dx ha hb,Dx hb hc,Dx hc ha]
    refine⟨fun h1 h2 h3=>?_,fun _=>J⟩;exfalso;have:=(n5 A α).2.2.2.2.2.1 h1;have:=(n5 B β).2.2.2.2.2.1 h2;have:=(n5 C γ).2.2.2.2.2.1 h3;have:=(n5 A α).2.1 (aN h1) ha;have:=(n5 B β).2.1 (aN h2) hb;have:=(n5 C γ).2.1 (aN h3) hc;grind
   .obtain⟨q1,q2⟩:=GG r1 omb hb omb ha
    exact⟨fun h1 h2 h3=>by have:=q1 h2 h3 h1;omega,fun k=>by have:=q2 omb;omega⟩
  .by_cases hc:γ<=0
   .exact GG h hs ha omb hc
   .exact FJ h hs ha omb omb
 .by_cases hb:β<=0
  .by_cases hc:γ<=0
   .obtain⟨q1,q2⟩:=GG r2 omb hc omb hb
    exact⟨fun h1 h2 h3=>by have:=q1 h3 h1 h2;omega,fun k=>by have:=q2 omb;omega⟩
   .obtain⟨q1,q2⟩:=FJ r1 omb hb omb omb
    exact⟨fun h1 h2 h3=>by have:=q1 h2 h3 h1;omega,fun k=>by have:=q2 omb;omega⟩
  .by_cases hc:γ<=0
   .obtain⟨q1,q2⟩:=FJ r2 omb hc omb omb
    exact⟨fun h1 h2 h3=>by have:=q1 h3 h1 h2;omega,fun k=>by have:=q2 omb;omega⟩
   .rw[Dt omb omb,Dt omb omb,Dt omb omb]
    refine⟨fun h1 h2 h3=>?_,fun _=>J⟩;exfalso;have:=(n5 A α).2.2.2.2.1 h1 omb;have:=(n5 B β).2.2.2.2.1 h2 omb;have:=(n5 C γ).2.2.2.2.1 h3 omb;grind
def J'(a b c p:aa):ak b c p+ak c a p+ak a b p=ak a b c/\ak b c p*(a.y-p.y)+ak c a p*(b.y-p.y)+ak a b p*(c.y-p.y)=0/\ak b c p*(a.x-p.x)+ak c a p*(b.x-p.x)+ak a b p*(c.x-p.x)=0:=by
 unfold ak;refine⟨?_,?_,?_⟩<;>grind
def IN{a b c p:aa}(hD:0<ak a b c)(hA:0<=ak b c p)(hB:0<=ak c a p)(hC:ak a b p=0):f9 a b p:=by
 obtain⟨e1,e2,e3⟩:=J' a b c p;rw[hC] at e1 e2 e3;generalize ak b c p=A at*;generalize ak c a p=B at*;generalize ak a b c=D at*;have eq:B/D*D=B:=CF omb;refine⟨B/D,(ja hD).1 (by rw[eq];exact hB),?_,?_⟩
 .have:=(ja (s:=1-B/D) hD).1 (by
   have:(1-B/D)*D=D-B/D*D:=by generalize B/D=q;grind
   rw[this,eq];grind)
  grind
 .generalize B/D=s at*
  have D0:D≠0:=by grind
  have f1:D*(p.x-(a.x+s*(b.x-a.x)))=0:=by grind
  have f2:D*(p.y-(a.y+s*(b.y-a.y)))=0:=by grind
  have g1:=(bX.1 f1).resolve_left D0;have g2:=(bX.1 f2).resolve_left D0;unfold aA
  cases p
  simp only[aa.mk.injEq] at*;constructor<;>grind
def zh{α:Type}{P:α->Prop}{x y z:α}:(∀f∈[x,y,z],P f)↔P x/\P y/\P z:=by simp
def QC{α:Type}{P:α->Prop}{x y z:α}:(∃f∈[x,y,z],P f)↔P x\/P y\/P z:=by simp
def xk(a b c:ZP):fq [a,b,c]=[(a.q,b.q),(b.q,c.q),(c.q,a.q)]:=by simp[fq,cj,List.range,List.range.loop]
def EG(a b c:ZP)(p:aa):cx [a,b,c] p=d6 a.q b.q p+d6 b.q c.q p+d6 c.q a.q p:=by
 unfold cx;rw[tf];simp[gp,cj]
def aHj{a b c:ZP}(ho:bD [a,b,c])(hD:0<ak a.q b.q c.q):H5 [a,b,c]:=by
 have hz: ∀p:aa,¬(a.q.y-p.y=0/\b.q.y-p.y=0/\c.q.y-p.y=0):=fun p q=>by
  unfold ak at hD;have h1:b.q.y-a.q.y=0:=by grind
  have h2:c.q.y-a.q.y=0:=by grind
  rw[h1,h2] at hD;grind
 have e2:ak b.q c.q a.q=ak a.q b.q c.q:=by unfold ak;grind
 have e3:ak c.q a.q b.q=ak a.q b.q c.q:=by unfold ak;grind
 have z: ∀u v:aa,ak u v u=0/\ak u v v=0:=fun u v=>by unfold ak;constructor<;>grind
 refine⟨ho,⟨⟨(a.q.x+b.q.x+c.q.x)/3,(a.q.y+b.q.y+c.q.y)/3⟩,?_⟩,fun p h=>?_,fun p h=>?_,?_,fun p h=>?_⟩
 .rw[xk,zh]
  unfold ak at*;dsimp only at*;refine⟨?_,?_,?_⟩<;>grind
 .rw[xk,zh] at h
  obtain⟨b1,b2,_⟩:=J' a.q b.q c.q p;rw[EG,zi,zi,zi];exact(L4 b2 (by rw[b1];exact hD) (hz p)).1 h.2.1 h.2.2 h.1
 .rw[xk,QC] at h
  obtain⟨b1,b2,_⟩:=J' a.q b.q c.q p;rw[EG,zi,zi,zi];exact(L4 b2 (by rw[b1];exact hD) (hz p)).2 omb
 .rw[xk,zh]
  simp only[zh,(z _ _).1,(z _ _).2,e2,e3];have:=aN hD;have z0:(0:Rat)<=0:=dX;simp only[this,z0,and_self]
 .rw[xk,zh] at*
  obtain⟨h1,h2,h3⟩:=h;refine⟨fun k=>IN hD h2 h3 k,fun k=>IN (c:=a.q) (by rw[e2];exact hD) h3 h1 k,fun k=>IN (c:=b.q) (by rw[e3];exact hD) h1 h2 k⟩
def pD(a b c p:aa):Prop:=0<ak a b p/\0<ak b c p/\0<ak c a p
instance (a b c p:aa):Decidable (pD a b c p):=inferInstanceAs (Decidable (_/\_/\_))
def FT{r:List ZP}(hr:bD r){a b c:ZP}(ha:a∈r)(hb:b∈r)(hc:c∈r)(hD:ak a.q b.q c.q≠0):bD [a,b,c]:=by
 have n1:a≠b:=fun e=>hD (by rw[e];unfold ak;grind);have n2:b≠c:=fun e=>hD (by rw[e];unfold ak;grind);have n3:c≠a:=fun e=>hD (by rw[e];unfold ak;grind);refine⟨omc,omc,fun p hp=>?_,fun i hi=>?_⟩
 .simp only[aW,jU,or_false] at hp
  rcases hp with rfl|rfl|rfl
  .exact hr.le _ ha
  .exact hr.le _ hb
  .exact hr.le _ hc
 .match i,hi with
  |0,_=>exact n1
  |1,_=>exact n2
  |2,_=>simpa[cj] using n3
  |i+3,hi=>exact absurd hi omc
def FI{r:List ZP}(hr:bD r){a b c:ZP}(ha:a∈r)(hb:b∈r)(hc:c∈r)(hD:0<ak a.q b.q c.q){p:aa}(h1:ak a.q b.q p≠0)(h2:ak b.q c.q p≠0)(h3:ak c.q a.q p≠0):d6 a.q b.q p+d6 b.q c.q p+d6 c.q a.q p=if pD a.q b.q c.q p then 1 else 0:=by
 have cv:=aHj (FT hr ha hb hc omb) hD;rw[<-EG];by_cases h:pD a.q b.q c.q p
 .rw[if_pos h]
  exact cv.one p (by rw[xk,zh];exact h)
 .rw[if_neg h]
  refine cv.zer p (by
   rw[xk,QC];unfold pD at h;rcases cP (ak a.q b.q p) with k|k|k
   .exact absurd k h1
   .rcases cP (ak b.q c.q p) with l|l|l
    .exact absurd l h2
    .rcases cP (ak c.q a.q p) with m|m|m
     .exact absurd m h3
     .exact absurd ⟨k,l,m⟩ h
     .exact .inr (.inr m)
    .exact .inr (.inl l)
   .exact .inl k)
def aAe{a b c p:aa}(hD:ak a b c=0)(hp:ak b c p≠0):d6 a b p+d6 b c p+d6 c a p=0:=by
 have on: ∀v w:aa,ak b c v=0->ak b c w=0-> ∀s,0<=s->s<=1->(aA v w s).y=p.y->(p.x<(aA v w s).x↔0<ak b c p*(c.y-b.y)):=fun v w hv hw s _ _ hy=>by
  have h0:ak b c (aA v w s)=0:=by rw[Np,hv,hw];grind
  generalize aA v w s=x at*;have e:(c.y-b.y)*(x.x-p.x)=ak b c p:=by unfold ak at*;grind
  have hne:c.y-b.y≠0:=fun k=>hp (by rw[<-e,k];grind);have sq:0<(c.y-b.y)*(c.y-b.y):=by
   rcases cP (c.y-b.y) with k|k|k
   .exact absurd k hne
   .exact bg k k
   .have:=bg (show 0< -(c.y-b.y) by grind) (show 0< -(c.y-b.y) by grind);grind
  have e2:ak b c p*(c.y-b.y)=((c.y-b.y)*(c.y-b.y))*(x.x-p.x):=by rw[<-e];grind
  rw[e2,tF sq];constructor<;>intro h<;>grind
 have ha:ak b c a=0:=by rw[<-hD];unfold ak;grind
 have hb:ak b c b=0:=by unfold ak;grind
 have hc:ak b c c=0:=by unfold ak;grind
 rw[wB (on a b ha hb),wB (on b c hb hc),wB (on c a hc ha)];split<;>omega
def YO(l:ab)(a b:Rat)(p:aa):ak (l.at a) (l.at b) p=(b-a)*(l.value p-l.value (l.at a)):=by
 have e:l.at b=av (l.at a) l.dir (b-a):=by rw[<-wg];congr 1;grind
 rw[e];unfold ak av ab.value ab.nor ab.dir aa.dot;dsimp only;grind
def WL(a b p:aa):ak a b p=ak b p a:=by unfold ak;grind
def nD(c:au)(i:Nat):aa:=(ge (c.map (·.l))).getD i ⟨0,0⟩
section
variable {c:au} (hc:bw c) (ha:dE c) (hb:dB c=true)
include hc ha hb
def I6{i:Nat}{s:aI}(h:c[i]? =some s):nD c i=s.l.at s.v.hi:=by
 unfold nD;rw[A9 hc ha hb,aJ,cV,h];rfl
def Vx{i:Nat}{w:aI}(hw:c[(i+1)%c.length]? =some w)(hi:i<c.length)(p:aa):ak (nD c i) (nD c ((i+1)%c.length)) p=(w.v.hi-w.v.lo)*w.l.value p:=by
 obtain⟨s,hs⟩: ∃s,c[i]? =some s:=⟨_,aZ hi⟩;obtain⟨_,_,h3⟩:=gA hc ha hb hs hw;rw[I6 hc ha hb hs,I6 hc ha hb hw,<-h3,YO,jB (hc.ok w (aT hw)).ne];grind
def Yn:3<=c.length:=by
 have h0:=aqp hc ha hb;obtain⟨s,hs⟩: ∃s,c[0]? =some s:=⟨_,aZ h0⟩;obtain⟨w,hw⟩: ∃w,c[(0+1)%c.length]? =some w:=⟨_,aZ (dQ _ h0)⟩;have k1:=(gA hc ha hb hs hw).1;by_cases e1:c.length=1
 .rw[show(0+1)%c.length=0 by rw[e1]] at hw
  rw[hs] at hw;cases hw;unfold aa.cross at k1;grind
 .by_cases e2:c.length=2
  .obtain⟨u,hu⟩: ∃u,c[(1+1)%c.length]? =some u:=⟨_,aZ (dQ _ h0)⟩
   rw[show(0+1)%c.length=1 by rw[e2]] at hw;have k2:=(gA hc ha hb hw hu).1;rw[show(1+1)%c.length=0 by rw[e2]] at hu;rw[hs] at hu;cases hu;unfold aa.cross at k1 k2;grind
  .omega
def Un{k:Nat}(hk:k+2<c.length):0<ak (nD c 0) (nD c (k+1)) (nD c (k+2)):=by
 obtain⟨w,hw⟩: ∃w,c[(k+1+1)%c.length]? =some w:=⟨_,aZ (dQ _ we)⟩;have e:=Vx hc ha hb hw we (nD c 0);rw[show(k+1+1)%c.length=k+2 from dZ hk] at e hw;obtain⟨s,hs⟩: ∃s,c[0]? =some s:=⟨_,aZ we⟩;obtain⟨s',hs'⟩: ∃s,c[(0+1)%c.length]? =some s:=⟨_,aZ (dQ _ we)⟩;have hlt:=yM hc hb (aT hw);have hv:0<w.l.value (nD c 0):=by
  rw[I6 hc ha hb hs];have h1:0<=w.l.value (s.l.at s.v.hi):=((hc.edge s (aT hs)).2 _).1 (BS (hc.edge s (aT hs)).1 ((kv hb).2 s (aT hs)).2) w (aT hw);by_cases h0:w.l.value (s.l.at s.v.hi)=0
  .have:=Xs hc ha hb hs hs' hw h0
   rw[dZ (show 0+1<c.length by omega)] at this;omega
  .grind
 rw[WL,e];exact bg omb hv
end
def aAQ{t:Tr}(ht:t.all ab.ok){c:au}(hc:c∈bF t){p:aa}(hp:m6 c p):pe t p≠0:=fun k=>by
 obtain⟨hg,hv⟩:=uC ht bw.nil (n8.1 hc);obtain⟨q,hq,ho⟩:=AM hg t.lns (jO ht);refine(F5 ht).1 k ?_;have hgn:Gn t.lns p ⟨q.x-p.x,q.y-p.y⟩:=fun m hm hz=>by rw[zg,hz];have:=ho m hm;grind
 have hd:=K6 hgn;obtain⟨e,he,hs⟩:=x9 hgn;obtain⟨d,hd0,d1,d2⟩:=min2 he (show(0:Rat)<1 by decide);rw[(hs d hd0 d1).2] at hd;have hin:bm c (av p ⟨q.x-p.x,q.y-p.y⟩ d):=fun s hs=>by
  rw[iw,show d*s.l.nor.dot ⟨q.x-p.x,q.y-p.y⟩=d*(s.l.value q-s.l.value p) by rw[zg]];have a:=hp s hs;have b:=bg hd0 (hq s hs);have c:=bz (show 0<=1-d by grind) a;grind
 rw[(hv _ hin).2] at hd;exact hd
def wQ(a b d:aa):Rat:=a.cross b+b.cross d+d.cross a
def Xk(a b d:aa):wQ a b d=ak a b d:=by unfold wQ ak aa.cross;grind
def Ha(f:Nat->Rat)(n:Nat):aB f (List.range (n+1))=aB f (List.range n)+f n:=by
 rw[pR,td];show _+(f n+0)=_;grind
def Ps(g:Nat->aa): ∀n,aB (fun k=>wQ (g 0) (g (k+1)) (g (k+2))) (List.range n)=aB (fun k=>(g k).cross (g (k+1))) (List.range (n+1))+(g (n+1)).cross (g 0)
 |0=>by show(0:Rat)=(g 0).cross (g 1)+0+(g 1).cross (g 0);unfold aa.cross;grind
 |n+1=>by
  rw[Ha,Ps g n,Ha _ (n+1)];unfold wQ aa.cross;grind
def aBy{v:List aa}(h:3<=v.length):aB (fun k=>wQ (v.getD 0 ⟨0,0⟩) (v.getD (k+1) ⟨0,0⟩) (v.getD (k+2) ⟨0,0⟩)) (List.range (v.length-2))=uz aa.cross v:=by
 rw[Ps fun i=>v.getD i ⟨0,0⟩];unfold uz;obtain⟨n,hn⟩: ∃n,v.length=n+2:=⟨v.length-2,we⟩;rw[hn,show n+2-2=n by omega,Ha _ (n+1)];rw[show(n+1+1)%(n+2)=0 from lX _];congr 1;refine oq fun k hk=>?_;have:=dS.1 hk;rw[dZ (show k+1<n+2 by omega)]
def qc(v:List aa):Rat:=aB (fun x=>x.1.cross x.2) (iu v)
def NH{t:Tr}(ht:t.all ab.ok){c:au}(hc:c∈bF t):bw c/\dE c:=
 ⟨(uC ht bw.nil (n8.1 hc)).1,DG ht bw.nil .nil _ (n8.1 hc)⟩
def aF9{c:au}(hc:bw c)(ha:dE c)(hb:dB c=true):(ge (c.map (·.l))).length=c.length:=by
 rw[A9 hc ha hb,aK]
def VB{a b c x y z:aa}(hx:x=a\/x=b\/x=c)(hy:y=a\/y=b\/y=c)(hz:z=a\/z=b\/z=c)(h0:0<ak a b c)(h:0<ak x y z):ak x y z=ak a b c:=by
 rcases hx with rfl|rfl|rfl<;>rcases hy with rfl|rfl|rfl<;>rcases hz with rfl|rfl|rfl<;>unfold ak at* <;>grind
def aFr{a b c:aa}{d:au}(hd:bw d)(ha:dE d)(hb:dB d=true)(hv: ∀q∈ge (d.map (·.l)),q=a\/q=b\/q=c)(h0:0<ak a b c)(h3:d.length=3):fA aa.cross d=ak a b c:=by
 have hl:=aF9 hd ha hb;rw[h3] at hl;have hf:=aBy (v:=ge (d.map (·.l))) we;rw[hl] at hf;have hp:=Un hd ha hb (k:=0) we;have mem: ∀k,k<3->nD d k∈ge (d.map (·.l)):=fun k hk=>by
  unfold nD;rw[aJ,aZ we,lW];exact bN _
 have e:=VB (hv _ (mem 0 oma)) (hv _ (mem (0+1) oma)) (hv _ (mem (0+2) oma)) h0 hp;unfold fA;rw[<-hf,<-e];have e2:aB (fun k=>wQ ((ge (d.map (·.l))).getD 0 ⟨0,0⟩) ((ge (d.map (·.l))).getD (k+1) ⟨0,0⟩) ((ge (d.map (·.l))).getD (k+2) ⟨0,0⟩)) [0]=wQ (nD d 0) (nD d (0+1)) (nD d (0+2))+0:=by simp only[aB,nD]
 rw[show List.range (3-2)=[0] from J,e2,Xk];grind
def p7:List ab->Tr
 |[]=> .leaf true
 |l::t=> .node l (p7 t) (.leaf false)
def BP: ∀{L:List ab},(p7 L).lns=L
 |[]=>rfl
 |l::t=>by rw[p7,Tr.lns,BP,Tr.lns,lZ]
def Mw: ∀{L:List ab} {p:aa},(p7 L).val p=true↔du L p
 |[],p=>⟨fun _ l hl=>(by cases hl),fun _=>J⟩
 |l::t,p=>by
  rw[p7];by_cases h:0<l.value p
  .rw[Tr.val_pos h,Mw (L:=t)]
   constructor
   .intro k m hm
    rcases aW.1 hm with rfl|hm
    .exact h
    .exact k m hm
   .exact fun k m hm=>k m (aX _ hm)
  .rw[Tr.val_neg h]
   constructor
   .intro k;cases k
   .intro k;exact absurd (k l aQ) h
def Vn{P:ab->Prop}{L:List ab}(h: ∀l∈L,P l):(p7 L).all P:=sB.2 (by rw[BP];exact h)
def aAK{L:List ab}{q:aa}(h:q∈ge L): ∃l∈L,∃m∈L,crossI l m≠0/\q=c9 l m:=by
 obtain⟨i,hi,h⟩:=dK.1 h;rw[dS] at hi;obtain⟨l,hl⟩: ∃l,L[i]? =some l:=⟨_,aZ hi⟩;obtain⟨m,hm⟩: ∃m,L[(i+1)%L.length]? =some m:=⟨_,aZ (dQ _ we)⟩;rw[yF hl hm] at h;split at h
 .rename_i hc
  refine⟨l,aT hl,m,aT hm,fun e=>?_,by simpa using h⟩;have h2:l.dir.cross m.dir=0:=by
   have:=yb l m;rw[e] at this;unfold aa.cross ab.dir;dsimp only;have z:((0:Int):Rat)=0:=J;rw[z] at this;grind
  rw[h2] at hc;exact absurd hc oma
 .cases h
def Rz{α:Type}[DecidableEq α]: ∀{l m:List α},l.Nodup->(∀x∈l,x∈m)->l.length<=m.length
 |[],_,_,_=>bS _
 |a::t,m,h,hs=>by
  obtain⟨h1,h2⟩:=List.nodup_cons.1 h;have ha:=hs a aQ;have ih:=Rz (m:=m.erase a) h2 fun x hx=>(List.mem_erase_of_ne (fun e=>h1 (by rw[<-e];exact hx))).2 (hs x (aX _ hx));rw[List.length_erase_of_mem ha] at ih;have:=rT ha;rw[bZ];omega
def O5(f:aa->aa->Rat): ∀{L:List ab} {c:au},(∀l∈L,l.ok)->bw c->dE c->(∃p,bm c p/\du L p)-> ∃d,bw d/\dE d/\(∀p,bm d p↔bm c p/\du L p)/\f8 f (p7 L) c=fA f d/\(true,d)∈(p7 L).parts c
 |[],c,_,hc,ha,_=>⟨c,hc,ha,fun p=>⟨fun h=>⟨h,fun m hm=>(by cases hm)⟩,fun h=>h.1⟩,by rw[p7,wv,if_pos J],aQ⟩
 |l::t,c,hL,hc,ha,⟨p,hp,hq⟩=>by
  have hl:=hL l aQ;have hb:bG c l=true:=(fE hc hl).2 ⟨p,hp,hq l aQ⟩;obtain⟨g,i⟩:=gg hc hl hb;have ga:=lj hc hl ha hb;obtain⟨d,d1,d2,d3,d4,d5⟩:=O5 f (L:=t) (c:=b9 c l) (fun x hx=>hL x (aX _ hx)) g ga ⟨p,(i p).2 ⟨hp,hq l aQ⟩,fun x hx=>hq x (aX _ hx)⟩;refine⟨d,d1,d2,fun q=>?_,?_,?_⟩
  .rw[d3,i]
   constructor
   .rintro ⟨⟨a,b⟩,e⟩
    exact⟨a,fun m hm=>by
     rcases aW.1 hm with rfl|hm
     .exact b
     .exact e m hm⟩
   .rintro ⟨a,e⟩
    exact⟨⟨a,e l aQ⟩,fun m hm=>e m (aX _ hm)⟩
  .rw[p7,yB]
   unfold gj;rw[if_pos hb,d4,wv];simp only[fT,if_false];split<;>grind
  .rw[p7,Tr.parts,if_pos hb]
   exact bK _ d5
def lP(a b c:ZP):List ab:=[(cH a b).l,(cH b c).l,(cH c a).l]
def oz(a b c:ZP):Tr:=p7 (lP a b c)
def pC{v w:ZP}(h:v≠w)(p:aa):(0<(cH v w).l.value p↔0<ak v.q w.q p)/\((cH v w).l.value p=0↔ak v.q w.q p=0):=by
 obtain⟨g,g0,e,_⟩:=aEK h p;rw[e];refine⟨(tF g0).symm,?_⟩;constructor
 .intro k;rw[k];grind
 .intro k;exact(bX.1 k).resolve_left omb
section
variable {r:List ZP} (hr:bD r) {a b c:ZP} (ha:a∈r) (hb:b∈r) (hc:c∈r) (hD:0<ak a.q b.q c.q)
include hr ha hb hc hD
theorem Ed:a≠b/\b≠c/\c≠a:=
 ⟨fun e=>by rw[e] at hD;unfold ak at hD;grind,fun e=>by rw[e] at hD;unfold ak at hD;grind,fun e=>by rw[e] at hD;unfold ak at hD;grind⟩
theorem IW: ∀l∈lP a b c,l.ok:=fun l hl=>by
 obtain⟨n1,n2,n3⟩:=Ed hr ha hb hc hD;unfold lP at hl;simp only[aW,jU,or_false] at hl;rcases hl with rfl|rfl|rfl
 .exact(uL (hr.le _ ha) (hr.le _ hb) n1).ok
 .exact(uL (hr.le _ hb) (hr.le _ hc) n2).ok
 .exact(uL (hr.le _ hc) (hr.le _ ha) n3).ok
theorem Om(p:aa):du (lP a b c) p↔pD a.q b.q c.q p:=by
 obtain⟨n1,n2,n3⟩:=Ed hr ha hb hc hD;unfold du pD lP;simp only[aW,jU,or_false,forall_eq_or_imp,forall_eq];rw[(pC n1 p).1,(pC n2 p).1,(pC n3 p).1]
theorem HN{p:aa}(h:fy (lP a b c) p):ak a.q b.q p≠0/\ak b.q c.q p≠0/\ak c.q a.q p≠0:=by
 obtain⟨n1,n2,n3⟩:=Ed hr ha hb hc hD;unfold fy lP at h;simp only[aW,jU,or_false,forall_eq_or_imp,forall_eq] at h;exact⟨fun k=>h.1 ((pC n1 p).2.2 k),fun k=>h.2.1 ((pC n2 p).2.2 k),fun k=>h.2.2 ((pC n3 p).2.2 k)⟩
theorem JJ(p:aa):(oz a b c).val p=true↔pD a.q b.q c.q p:=by unfold oz;rw[Mw,Om hr ha hb hc hD]
theorem HO:(oz a b c).all ab.ok:=Vn (IW hr ha hb hc hD)
theorem Kb:yE (oz a b c):=⟨(lH [[a,b,c]] 1).lns++lP a b c,100,fun l hl=>by
 have ho:=FT hr ha hb hc omb;rcases bJ.1 hl with h|h
 .exact jO (qm (fun x hx=>by rw[aV.1 hx];exact ho)) l h
 .exact IW hr ha hb hc hD l h,fun p ho hf=>by
 have ok:=FT hr ha hb hc omb;obtain⟨o1,o2,o3⟩:=HN hr ha hb hc hD (ho.sub fun l hl=>bW _ hl);have h:=SM (rs:=[[a,b,c]]) (fill:=1) (fun x hx=>by rw[aV.1 hx];exact ok) hf;rw[x6,EG,FI hr ha hb hc hD o1 o2 o3] at h;rw[<-nX,JJ hr ha hb hc hD];intro k;rw[if_pos k] at h;exact absurd h oma⟩
theorem Ln:f8 aa.cross (oz a b c) []=ak a.q b.q c.q:=by
 obtain⟨n1,n2,n3⟩:=Ed hr ha hb hc hD;have cen: ∃p:aa,pD a.q b.q c.q p:=⟨⟨(a.q.x+b.q.x+c.q.x)*(1/3),(a.q.y+b.q.y+c.q.y)*(1/3)⟩,by
  unfold pD;generalize a.q=A at*;generalize b.q=B at*;generalize c.q=C at*;unfold ak at*;dsimp only;refine⟨?_,?_,?_⟩<;>grind⟩
 obtain⟨p,hp⟩:=cen;obtain⟨d,d1,d2,d3,d4,d5⟩:=O5 aa.cross (L:=lP a b c) (c:=[]) (IW hr ha hb hc hD) bw.nil (show dE [] from .nil) ⟨p,(fun s hs=>by cases hs),(Om hr ha hb hc hD p).2 hp⟩;have hbd:dB d=true:=cN.1 (xt (HO hr ha hb hc hD) (Kb hr ha hb hc hD)) d (n8.2 d5)
 -- the sides' lines
 have sd: ∀s∈d,s.l∈lP a b c:=fun s hs=>by
  have h:=DO (P:=fun l=>l∈lP a b c\/l.rev∈lP a b c) (fun l h=>h.elim (fun h=> .inr (by rw[xe];exact h)) .inl) (t:=p7 (lP a b c)) (sB.2 fun l hl=> .inl (by rw[BP] at hl;exact hl)) (fun s hs=>by cases hs) d5 s hs;refine h.resolve_right fun k=>?_;obtain⟨q,hq⟩:=d1.ne;have h1:=hq s hs;have h2:=((d3 q).1 hq).2 _ k;rw[fg] at h2;grind
 have on: ∀{v w:ZP},v≠w->(cH v w).l.value v.q=0/\(cH v w).l.value w.q=0:=fun{v w} h=>⟨(pC h v.q).2.2 (by unfold ak;grind),(pC h w.q).2.2 (by unfold ak;grind)⟩;obtain⟨a1,b1⟩:=on n1;obtain⟨b2,c2⟩:=on n2;obtain⟨c3,a3⟩:=on n3;have cs: ∀l:ab,crossI l l=0:=fun l=>by unfold crossI;omega
 unfold oz;rw[d4];refine aFr d1 d2 hbd (fun q hq=>?_) hD ?_
 .obtain⟨l,hl,m,hm,h0,rfl⟩:=aAK hq
  obtain⟨s,hs,rfl⟩:=aS.1 hl;obtain⟨u,hu,rfl⟩:=aS.1 hm;have k1:=sd s hs;have k2:=sd u hu;generalize s.l=l at*;generalize u.l=m at*;unfold lP at k1 k2;simp only[aW,jU,or_false] at k1 k2;rcases k1 with rfl|rfl|rfl<;>rcases k2 with rfl|rfl|rfl
  .exact absurd (cs _) h0
  .exact .inr (.inl (tG h0 b1 b2).symm)
  .exact .inl (tG h0 a1 a3).symm
  .exact .inr (.inl (tG h0 b2 b1).symm)
  .exact absurd (cs _) h0
  .exact .inr (.inr (tG h0 c2 c3).symm)
  .exact .inl (tG h0 a3 a1).symm
  .exact .inr (.inr (tG h0 c3 c2).symm)
  .exact absurd (cs _) h0
 .have h3:3<=d.length:=Yn d1 d2 hbd
  have hn:(d.map (·.l)).Nodup:=by
   have:=d2;unfold dE at this;rw[nR] at this;rw[List.Nodup,nR];refine this.imp fun h e=>?_;rw[e] at h;unfold cp aa.cross at h;rcases h with h|h
   .omega
   .grind
  have hl:=Rz (l:=d.map (·.l)) (m:=lP a b c) hn fun l hl=>by
   obtain⟨s,hs,rfl⟩:=aS.1 hl;exact sd s hs
  rw[aK] at hl;have:(lP a b c).length=3:=J;omega
end


def Sk{α:Type}{f g:α->Rat}: ∀{l:List α},(∀x∈l,f x<=g x)->aB f l<=aB g l
 |[],_=>dX
 |a::t,h=>by
  have h1:=h a aQ;have h2:=Sk (l:=t) fun x hx=>h x (aX a hx);show f a+aB f t<=g a+aB g t;grind
def ze(f:aa->aa->Rat)(cs:List au):aB (fun x=>f x.1 x.2) (di (cG cs))=aB (fA f) cs:=by
 unfold di cG;rw[Ky,xS];refine oq fun c _=>?_;unfold fA iu uz;rw[xS]
def Pz(t:Tr):iD t=aB (fA aa.cross) (bF t)*(1/2):=by
 unfold iD;rw[ze aa.cross,show mkRat 1 2=(1:Rat)/2 from KZ]
def YR(t:Tr):(oF t).x=aB (fA fun p q=>(p.x+q.x)*p.cross q) (bF t)*(1/6)/\(oF t).y=aB (fA fun p q=>(p.y+q.y)*p.cross q) (bF t)*(1/6):=by
 have h6:(((1:Int):Rat)/((6:Int):Rat))=1/6:=by decide+kernel
 unfold oF od aa.scale;dsimp only;rw[h6,<-ze,<-ze];exact⟨J,J⟩
def pG:List ab->Tr
 |[]=> .leaf false
 |l::t=> .node l (pG t) (.leaf false)
def AU: ∀{L:List ab},(pG L).lns=L
 |[]=>rfl
 |l::t=>by rw[pG,Tr.lns,AU,Tr.lns,lZ]
def Ru: ∀{L:List ab} {p:aa},(pG L).val p=false
 |[],p=>rfl
 |l::t,p=>by
  rw[pG];by_cases h:0<l.value p
  .rw[Tr.val_pos h,Ru (L:=t)]
  .rw[Tr.val_neg h];rfl
def Ub{L:List ab}:yE (pG L):=⟨[],0,fun l hl=>(by cases hl),fun p _ _=>Ru⟩
def zA(r:List ZP)(k:Nat):ZP:=r.getD k (0,0)
def n7(r:List ZP)(k:Nat):Rat×Tr:=
 if 0<ak (aC r 0) (aC r k) (bi r k) then(-1,oz (zA r 0) (zA r k) (cj r k))
 else if ak (aC r 0) (aC r k) (bi r k)<0 then(1,oz (zA r 0) (cj r k) (zA r k)) else(0,pG [])
def ID{r:List ZP}{k:Nat}(hk:k<r.length):zA r k∈r/\cj r k∈r:=⟨qv hk,qv (u9 hk)⟩
def Dz{r:List ZP}(hr:bD r){k:Nat}(hk:k<r.length):(n7 r k).2.all ab.ok/\yE (n7 r k).2/\(n7 r k).1*f8 aa.cross (n7 r k).2 []= -ak (aC r 0) (aC r k) (bi r k)/\
  ∀p,fy (n7 r k).2.lns p->ak (aC r k) (bi r k) p≠0->(n7 r k).1*(if(n7 r k).2.val p then 1 else 0)= -((sF r p k:Int):Rat):=by
 obtain⟨mk,mn⟩:=ID hk;have m0:=(ID (r:=r) (k:=0) (by have:=hr.n3;omega)).1;unfold n7;split
 .rename_i h
  refine⟨HO hr m0 mk mn h,Kb hr m0 mk mn h,?_,fun p hp _=>?_⟩
  .show(-1)*f8 aa.cross (oz (zA r 0) (zA r k) (cj r k)) []=_
   rw[Ln hr m0 mk mn h];show-1*ak (aC r 0) (aC r k) (bi r k)=_;grind
  .have hp:fy (lP (zA r 0) (zA r k) (cj r k)) p:=by
    have:fy (oz (zA r 0) (zA r k) (cj r k)).lns p:=hp;unfold oz at this;rwa [BP] at this
   obtain⟨o1,o2,o3⟩:=HN hr m0 mk mn h hp;have e:=FI hr m0 mk mn h o1 o2 o3;have e2:sF r p k=if pD (zA r 0).q (zA r k).q (cj r k).q p then 1 else 0:=e
   have ev:=JJ hr m0 mk mn h p;rw[e2];dsimp only;by_cases hi:pD (zA r 0).q (zA r k).q (cj r k).q p
   .rw[if_pos hi,if_pos (ev.2 hi)];grind
   .rw[if_neg hi,if_neg (fun q=>hi (ev.1 q))];grind
 .split
  .rename_i h1 h
   have h:0<ak (zA r 0).q (cj r k).q (zA r k).q:=by
    have:ak (zA r 0).q (cj r k).q (zA r k).q= -ak (aC r 0) (aC r k) (bi r k):=by unfold aC bi zA ak;grind
    rw[this];grind
   refine⟨HO hr m0 mn mk h,Kb hr m0 mn mk h,?_,fun p hp _=>?_⟩
   .show 1*f8 aa.cross (oz (zA r 0) (cj r k) (zA r k)) []=_
    rw[Ln hr m0 mn mk h];unfold aC bi zA ak;grind
   .have hp:fy (lP (zA r 0) (cj r k) (zA r k)) p:=by
     have:fy (oz (zA r 0) (cj r k) (zA r k)).lns p:=hp;unfold oz at this;rwa [BP] at this
    obtain⟨o1,o2,o3⟩:=HN hr m0 mn mk h hp;have e:=FI hr m0 mn mk h o1 o2 o3;have e2:sF r p k= -(if pD (zA r 0).q (cj r k).q (zA r k).q p then 1 else 0):=by
     rw[<-e];show d6 (zA r 0).q (zA r k).q p+d6 (zA r k).q (cj r k).q p+d6 (cj r k).q (zA r 0).q p=_;rw[ye (zA r 0).q (cj r k).q,ye (cj r k).q (zA r k).q,ye (zA r k).q (zA r 0).q];omega
    have ev:=JJ hr m0 mn mk h p;rw[e2];dsimp only;by_cases hi:pD (zA r 0).q (cj r k).q (zA r k).q p
    .rw[if_pos hi,if_pos (ev.2 hi)];grind
    .rw[if_neg hi,if_neg (fun q=>hi (ev.1 q))];grind
  .rename_i h1 h2
   have h0:ak (aC r 0) (aC r k) (bi r k)=0:=by grind
   refine⟨trivial,Ub,?_,fun p _ hp=>?_⟩
   .rw[h0];dsimp only;grind
   .have e:sF r p k=0:=aAe h0 hp
    rw[e];dsimp only;grind
def pP(r:List ZP):Nat->Rat
 |0=>0
 |k+1=>pP r k+(aC r k).cross (bi r k)
def sk(r:List ZP):Nat->Rat
 |0=>0
 |k+1=>sk r k+ak (aC r 0) (aC r k) (bi r k)
def SB(a b c:aa):ak a b c=a.cross b+b.cross c+c.cross a:=by unfold ak aa.cross;grind
def S8(a b:aa):a.cross b= -b.cross a:=by unfold aa.cross;grind
def S5{r:List ZP}: ∀m,m<r.length->sk r m=pP r m+(aC r m).cross (aC r 0)
 |0,_=>by show(0:Rat)=0+_;rw[rg];grind
 |m+1,h=>by
  have ih:=S5 (r:=r) m we;have hb:bi r m=aC r (m+1):=by unfold aC bi;rw[uh h]
  show sk r m+ak (aC r 0) (aC r m) (bi r m)=pP r m+(aC r m).cross (bi r m)+_;rw[ih,hb,SB,S8 (aC r m) (aC r 0)];grind
def N1{r:List ZP}(hr:bD r):sk r r.length=pP r r.length:=by
 have h3:=hr.n3;obtain⟨m,hm⟩: ∃m,r.length=m+1:=⟨r.length-1,we⟩;have ih:=S5 (r:=r) m we;have hb:bi r m=aC r 0:=by unfold aC bi;rw[uH]
 rw[hm];show sk r m+ak (aC r 0) (aC r m) (bi r m)=pP r m+(aC r m).cross (bi r m);rw[ih,hb,SB,rg,S8 (aC r 0) (aC r m)];grind
def Zf(r:List ZP):qc (r.map ZP.q)=pP r r.length:=by
 have key: ∀m,m<=r.length->aB (fun x:aa×aa=>x.1.cross x.2) ((List.range m).map fun i=>((r.map ZP.q).getD i ⟨0,0⟩,(r.map ZP.q).getD ((i+1)%(r.map ZP.q).length) ⟨0,0⟩))=pP r m:=fun m=>by
  induction m with
  |zero=>intro _;rfl
  |succ m ih=>
   intro h;have g: ∀i,i<r.length->(r.map ZP.q).getD i ⟨0,0⟩=(r.getD i (0,0)).q:=fun i hi=>by
    rw[aJ,cV,aZ hi,aJ,aZ hi];rfl
   rw[pR,bL,td,ih we];show _+(((r.map ZP.q).getD m ⟨0,0⟩).cross ((r.map ZP.q).getD ((m+1)%(r.map ZP.q).length) ⟨0,0⟩)+0)=pP r m+(aC r m).cross (bi r m);rw[aK,g m we,g _ (dQ _ we)];show _+((aC r m).cross (bi r m)+0)=_;grind
 unfold qc iu;rw[key _ (by rw[aK];exact bV _),aK]
def KU{r:List ZP}(g:Rat×Tr->Rat)(h:Nat->Rat): ∀m,(∀k,k<m->g (n7 r k)= -(h k))-> ∀H:Nat->Rat,H 0=0->(∀k,H (k+1)=H k+h k)->aB g ((List.range m).map (n7 r))= -(H m)
 |0,_,H,h0,_=>by rw[h0];show(0:Rat)= -0;grind
 |m+1,hg,H,h0,hs=>by
  rw[pR,bL,td,KU g h m (fun k hk=>hg k we) H h0 hs,hs];show _+(g (n7 r m)+0)=_;rw[hg m we];grind
def CP{r:List ZP}(hr:bD r){e:Int}(he: ∀p,qH r p->cx r p=0\/cx r p=e)(h1:e=1\/e= -1):(e:Rat)*f8 aa.cross (d7 [r] 1) []=pP r r.length:=by
 have hr1: ∀x∈[r],bD x:=fun x hx=>by rw[aV.1 hx];exact hr
 obtain⟨M,hM⟩: ∃M,M=(lH [r] 1).lns++(gm [r]).map (·.l):=⟨_,rfl⟩;have okM: ∀l∈M,l.ok:=fun l hl=>by
  rw[hM] at hl;rcases bJ.1 hl with h|h
  .exact jO (qm hr1) l h
  .obtain⟨f,hf,rfl⟩:=aS.1 h
   exact((pi hr1).2 f hf).ok
 have hb:(d7 [r] 1).all ab.ok:=Tr.restrict_all ab.ok _ _ (qm hr1);obtain⟨ws,hws⟩: ∃ws:List (Rat×Tr),ws=((e:Rat),d7 [r] 1)::(0,pG M)::(List.range r.length).map (n7 r):=⟨_,rfl⟩;have cases3: ∀{P:Rat×Tr->Prop},P ((e:Rat),d7 [r] 1)->P (0,pG M)->(∀k,k<r.length->P (n7 r k))-> ∀w∈ws,P w:=fun a b c w hw=>by
  rw[hws] at hw;rcases aW.1 hw with rfl|hw
  .exact a
  rcases aW.1 hw with rfl|hw
  .exact b
  obtain⟨k,hk,rfl⟩:=aS.1 hw;exact c k (dS.1 hk)
 have okw: ∀w∈ws,w.2.all ab.ok:=cases3 hb (sB.2 fun l hl=>okM l (by rw[AU] at hl;exact hl)) fun k hk=>(Dz hr hk).1;have z:=Uj Za (ws:=ws) okw (L:=ws.flatMap fun w=>w.2.lns) (c:=[]) (fun l hl=>by
   obtain⟨w,hw,h⟩:=dK.1 hl;exact jO (okw w hw) l h) bw.nil (show dE [] from .nil)
  (fun w hw=>Y0.1 (xt (okw w hw) ((cases3 (P:=fun w=>yE w.2) (Ad hr1) Ub fun k hk=>(Dz hr hk).2.1) w hw)))
  (fun w hw l hl=> .inl (dK.2 ⟨w,hw,hl⟩)) (fun p _ ho=>by
   have oM:fy M p:=by
    have:=ho (0,pG M) (by rw[hws];exact aX _ aQ);rwa [AU] at this
   have oR:fy (lH [r] 1).lns p:=oM.sub fun l hl=>by rw[hM];exact bK _ hl
   have oE: ∀k,k<r.length->ak (aC r k) (bi r k) p≠0:=fun k hk h0=>by
    have hne:r.getD k (0,0)≠cj r k:=hr.ne k hk;have hm:(cH (r.getD k (0,0)) (cj r k)).l∈M:=by
     rw[hM];refine bW _ (aS.2 ⟨_,?_,J⟩);unfold gm;exact dK.2 ⟨r,aV.2 J,y8 hk⟩
    exact oM _ hm ((pC hne p).2.2 h0)
   have off:qH r p:=fun k hk h=>oE k hk (Bi h);have hv:=B8 (fill:=1) hr1 oR;rw[x6] at hv;have hN:=aFT hr p;rw[hws];show(e:Rat)*(if(d7 [r] 1).val p then 1 else 0)+(0*(if(pG M).val p then 1 else 0)+aB (fun w:Rat×Tr=>w.1*(if w.2.val p then 1 else 0)) ((List.range r.length).map (n7 r)))=0;rw[KU (fun w:Rat×Tr=>w.1*(if w.2.val p then 1 else 0)) (fun k=>((sF r p k:Int):Rat)) r.length (fun k hk=>(Dz hr hk).2.2.2 p (ho _ (by
    rw[hws];exact aX _ (aX _ (aS.2 ⟨k,dS.2 hk,J⟩)))) (oE k hk)) (fun k=>((yy r p k:Int):Rat)) J (fun k=>mY ..),<-hN,hv]
   rcases he p off with h|h
   .rw[h];simp[p8];grind
   .rw[h]
    rcases h1 with rfl|rfl
    .simp[p8];grind
    .simp[p8];grind)
 rw[hws] at z;have z:(e:Rat)*f8 aa.cross (d7 [r] 1) []+(0*f8 aa.cross (pG M) []+aB (fun w:Rat×Tr=>w.1*f8 aa.cross w.2 []) ((List.range r.length).map (n7 r)))=0:=z;rw[KU (fun w:Rat×Tr=>w.1*f8 aa.cross w.2 []) (fun k=>ak (aC r 0) (aC r k) (bi r k)) r.length (fun k hk=>(Dz hr hk).2.2.1) (sk r) J (fun k=>J),N1 hr] at z;grind
def OR{t:Tr}(ho:t.all ab.ok)(hbd:(bF t).all dB=true):0<=f8 aa.cross t []:=by
 rw[KE];refine Ct fun c hc=>?_;have g:=NH ho hc;have hb:=cN.1 hbd c hc;unfold fA;rw[MJ g.1 g.2 hb];exact aN (Tu g.1 g.2 hb)
def Wc{r:List ZP}(hr:bD r)(hs:kA r):iD (d7 [r] 1)=if qc (r.map ZP.q)*mkRat 1 2<0 then-(qc (r.map ZP.q)*mkRat 1 2) else qc (r.map ZP.q)*mkRat 1 2:=by
 have hr1: ∀x∈[r],bD x:=fun x hx=>by rw[aV.1 hx];exact hr
 have hb:(d7 [r] 1).all ab.ok:=Tr.restrict_all ab.ok _ _ (qm hr1);have h0:=OR hb (xt hb (Ad hr1));rw[Pz,<-KE,Zf,show mkRat 1 2=(1:Rat)/2 from KZ];rcases Js hr hs with h|h
 .have e:=CP hr h (.inl J)
  have e:(1:Rat)*f8 aa.cross (d7 [r] 1) []=pP r r.length:=e;rw[<-e];rw[if_neg omb];grind
 .have e:=CP hr h (.inr J)
  have e:((-1:Int):Rat)*f8 aa.cross (d7 [r] 1) []=pP r r.length:=e;rw[<-e,show(((-1:Int)):Rat)= -1 from J];generalize f8 aa.cross (d7 [r] 1) []=S at*;split<;>grind
structure xA (f:aI):Prop where
 ok:f.l.ok
 nl:f.v.nl=false
 nh:f.v.nh=false
 lt:f.v.lo<f.v.hi
def Q3{v w:ZP}(h:v≠w)(ho:(cH v w).l.ok):xA (cH v w):=⟨ho,J,J,(Cx h ho).2.2⟩
def kg(l m:ab):Bool:=decide (gq l m=0)||decide (gq l m.rev=0)
def i9(l:ab)(f:aI):ai:=if gq l f.l=0 then f.v else⟨-f.v.hi, -f.v.lo,false,false⟩
def ts(f g:aI):List ai:=if kg f.l g.l then ke 2 [f.v] [i9 f.l g] else []
def BR:aI:=⟨⟨0,0,0⟩,⟨0,0,false,false⟩⟩
def xP(f g:aI):aI:=match ts f g with
 |[]=>BR
 |v::_=>⟨f.l,v⟩
def jv(f g:aI):Bool:=decide (ts f g≠[])
def yZ(f g:aI):aa:=if gr g (f.l.at f.v.lo) then f.l.at f.v.lo else if gr g (f.l.at f.v.hi) then f.l.at f.v.hi else⟨0,0⟩
def gE(f g:aI):aa:=if kg f.l g.l then(if jv f g then⟨0,0⟩ else yZ f g) else c9 f.l g.l
def jm(f g:aI):Bool:=if kg f.l g.l then !jv f g&&(gr g (f.l.at f.v.lo)||gr g (f.l.at f.v.hi)) else decide (crossI f.l g.l≠0)&&(gr f (c9 f.l g.l)&&gr g (c9 f.l g.l))
def N7{l m:ab}:kg l m=true↔l=m\/l=m.rev:=by
 unfold kg;simp only[fU,decide_eq_true_eq,vD]
def V8{l:ab}(h:l.ok):l≠l.rev:=fun e=>h.ne ⟨by have:=congrArg ab.a e;unfold ab.rev at this;dsimp only at this;omega,by have:=congrArg ab.b e;unfold ab.rev at this;dsimp only at this;omega⟩
def J9{l:ab}{g:aI}(hl:l.ok)(hg:xA g)(h:l=g.l\/l=g.l.rev)(t:Rat):((i9 l g).has t↔gr g (l.at t)=true)/\(i9 l g).nl=false/\(i9 l g).nh=false/\(i9 l g).lo<(i9 l g).hi:=by
 have hv:=hg.lt;rw[Fv];rcases h with rfl|e
 .have e1:i9 g.l g=g.v:=by unfold i9;rw[if_pos ((vD _ _).2 J)]
  rw[e1,B6 hl.ne,jB hl.ne];exact⟨⟨fun k=>⟨J,k⟩,fun k=>k.2⟩,hg.nl,hg.nh,hv⟩
 .have e1:i9 l g=⟨-g.v.hi, -g.v.lo,false,false⟩:=by
   unfold i9;rw[if_neg fun k=>V8 hg.ok (((vD _ _).1 k).symm.trans e)]
  rw[e1,e,Ek hg.ok.ne,B6 hg.ok.ne,jB hg.ok.ne];refine⟨?_,J,J,by dsimp only;grind⟩;unfold ai.has;dsimp only;rw[hg.nl,hg.nh];simp only[fT,false_or,true_and];constructor<;>intro k<;>constructor<;>grind
def awL{f g:aI}(hf:xA f)(hg:xA g){x:aa}(h1:gr f x=true)(h2:gr g x=true)(ho:jv f g=false):jm f g=true/\gE f g=x:=by
 obtain⟨z1,t1⟩:=Fv.1 h1;obtain⟨z2,t2⟩:=Fv.1 h2;by_cases hc:kg f.l g.l=true
 .have hl:=N7.1 hc
  unfold jm gE;rw[if_pos hc,if_pos hc,ho];simp only[fT,if_false,Bool.not_false,qT];obtain⟨T,hT⟩: ∃T,T=fI f.l x:=⟨_,rfl⟩;have ex:f.l.at T=x:=by rw[hT];exact Cc hf.ok.ne z1
  rw[<-hT] at t1;obtain⟨a1,n1,n2,n3⟩:=J9 hf.ok hg hl T;have w:=a1.2 (by rw[ex];exact h2);have e0:ke 2 [f.v] [i9 f.l g]=[]:=by
   have: ¬(ts f g≠[]):=of_decide_eq_false ho;have:=Classical.not_not.1 this;unfold ts at this;rwa [if_pos hc] at this
  have no: ∀t,f.v.ins t-> ¬(i9 f.l g).ins t:=fun t k1 k2=>by
   obtain⟨z,hz,_⟩:=Od k1 k2;rw[e0] at hz;cases hz
  have k1:=(J9 hf.ok hg hl f.v.lo).1;have k2:=(J9 hf.ok hg hl f.v.hi).1;have hv:=hf.lt;have m1:=hf.nl;have m2:=hf.nh;unfold yZ;rw[<-ex];generalize i9 f.l g=u at*;unfold ai.has at*;unfold ai.ins at no;rw[m1,m2] at t1;simp only[m1,m2,n1,n2,fT,false_or] at*
  -- the common part is the one point T
  have key: ∀s,f.v.lo<=s->s<=f.v.hi->u.lo<=s->s<=u.hi->s=T:=fun s s1 s2 s3 s4=>by
   by_cases hs:s=T
   .exact hs
   exfalso;have q:=no ((s+T)*(1/2));grind
  by_cases q1:gr g (f.l.at f.v.lo)=true
  .rw[if_pos q1,q1]
   obtain⟨b1,b2⟩:=k1.2 q1;rw[key _ dX omb b1 b2];exact⟨J,J⟩
  .rw[if_neg q1]
   have q2:f.v.hi=T:=by
    have n:=no;by_cases e:f.v.hi=T
    .exact e
    exfalso;have c1: ¬(u.lo<=f.v.lo/\f.v.lo<=u.hi):=fun h=>q1 (k1.1 h);have q3:=no ((T+(if f.v.hi<u.hi then f.v.hi else u.hi))*(1/2));have q4:=no ((T+(if f.v.lo<u.lo then u.lo else f.v.lo))*(1/2));have q5:=no (((if f.v.lo<u.lo then u.lo else f.v.lo)+(if f.v.hi<u.hi then f.v.hi else u.hi))*(1/2));split at q3<;>split at q4<;>grind
   have q3:gr g (f.l.at f.v.hi)=true:=k2.1 (by rw[q2];exact w);rw[if_pos q3,q3,q2];exact⟨omc,J⟩
 .have hx:crossI f.l g.l≠0:=fun h0=>hc (by
   have ck:=Kd h0;have hz: ∀t,g.l.value (f.l.at t)=0:=fun t=>by
    have e1:=jx f.l g.l t;have e2:=jx f.l g.l (fI f.l x);rw[Cc hf.ok.ne z1,z2] at e2;rw[e1,ck];rw[ck] at e2;grind
   rw[N7];rcases vN hg.ok hf.ok hz with k|k
   .exact .inl k.symm
   .exact .inr (by rw[k,xe]))
  have em:=tG hx z1 z2;unfold jm gE;rw[if_neg hc,if_neg hc,<-em,h1,h2];exact⟨by simp[hx],J⟩
def cB(r:List ZP)(i:Nat):aI:=cH (r.getD i (0,0)) (cj r i)
def qt(p q:aa):Bool:=decide (p.x=q.x/\p.y=q.y)
def Xc{p q:aa}:qt p q=true↔p=q:=by
 unfold qt;rw[decide_eq_true_eq]
 cases p;cases q
 simp
def tO(r:List ZP)(i k:Nat):Bool:=(decide (k=i+1)&&qt (gE (cB r i) (cB r k)) (aC r k))||(decide (i=0)&&decide (k+1=r.length)&&qt (gE (cB r i) (cB r k)) (aC r 0))
def jh(r:List ZP)(i k:Nat):Bool:=!jv (cB r i) (cB r k)&&(!jm (cB r i) (cB r k)||tO r i k)
def MW{r:List ZP}(hr:bD r){i:Nat}(hi:i<r.length):xA (cB r i)/\mP (cB r i):=by
 obtain⟨m1,m2⟩:=ID hi;have hne:r.getD i (0,0)≠cj r i:=hr.ne i hi;have ok:=uL (hr.le _ m1) (hr.le _ m2) hne;exact⟨Q3 hne ok.ok,ok⟩
def aEI{r:List ZP}(hr:bD r)(h: ∀i k,i<k->k<r.length->jh r i k=true):kA r:=fun i k hik hk x hx hy=>by
 obtain⟨s1,o1⟩:=MW hr (show i<r.length by omega);obtain⟨s2,o2⟩:=MW hr hk;have a1:gr (cB r i) x=true:=(TX (hr.ne i we) o1.ok).2 hx;have a2:gr (cB r k) x=true:=(TX (hr.ne k hk) o2.ok).2 hy;have hok:=h i k hik hk;unfold jh at hok;rw[bT,fM] at hok;obtain⟨b1,b2⟩:=awL s1 s2 a1 a2 hok.1;have h2:=hok.2;rw[b1] at h2;unfold tO at h2;rw[b2] at h2;simp only[Bool.not_true,sW,fU,bT,decide_eq_true_eq,Xc] at h2;rcases h2 with h2|h2
 .exact .inl h2
 .exact .inr ⟨h2.1.1,h2.1.2,h2.2⟩
def Ty:d8 BR= .ag [.v (.bool false), .sl [], .v (.bool false), .sl [], .v (.bool false), .sl [], .v (.bool false), .sl [], .sl [], .v (.bool false), .sl [], .sl [], .v (.bool false), .v (.bool false)]:=by
 unfold d8 BR dD;simp only[show(0:Rat).num=0 from J,show(0:Rat).den=1 from J,kY,me];rfl
structure t8 (f:aI):Prop where
 ok:mP f
 sg:xA f
def S1(f:aI):aI:=⟨f.l.rev,⟨-f.v.hi, -f.v.lo,false,false⟩⟩
def QP{f:aI}(h:t8 f): ∀v∈[f.v],nn v:=fun v hv=>by rw[aV] at hv;subst hv;exact⟨h.ok.lo,h.ok.hi⟩
def ZN{l:ab}{f:aI}(h:t8 f): ∀v∈[i9 l f],nn v:=fun v hv=>by
 rw[aV] at hv;subst hv;haveI:=h.ok.lo;haveI:=h.ok.hi;unfold i9;split
 .exact⟨h.ok.lo,h.ok.hi⟩
 .exact⟨(inferInstance:BQ (-f.v.hi) 1200),(inferInstance:BQ (-f.v.lo) 1200)⟩
def Lm{f g:aI}(h:kg f.l g.l=false):xP f g=BR/\jv f g=false:=by
 have e:ts f g=[]:=by unfold ts;rw[if_neg (by rw[h];decide)]
 unfold xP jv;rw[e];exact⟨J,J⟩
def M5{f g:aI}(h:kg f.l g.l=true)(k:ke 2 [f.v] [i9 f.l g]=[]):xP f g=BR/\jv f g=false:=by
 have e:ts f g=[]:=by unfold ts;rw[if_pos h,k]
 unfold xP jv;rw[e];exact⟨J,J⟩
def UH{f g:aI}(h:kg f.l g.l=true){v:ai}(k:(ke 2 [f.v] [i9 f.l g])[0]? =some v):xP f g=⟨f.l,v⟩/\jv f g=true:=by
 obtain⟨t,e⟩: ∃t,ke 2 [f.v] [i9 f.l g]=v::t:=by
  cases e:ke 2 [f.v] [i9 f.l g] with
  |nil=>rw[e] at k;cases k
  |cons a t=>rw[e] at k;exact⟨t,by cases k;rfl⟩
 have e:ts f g=v::t:=by unfold ts;rw[if_pos h,e]
 unfold xP jv;rw[e];exact⟨J,J⟩
def aEv{v:ai}{t:Rat}(h1:v.nl=false)(h2:v.nh=false)(h3:v.lo<v.hi):decide (0<p9 [v] t)=Eo v t:=by
 have a:=Ob (v:=v) (t:=t);unfold ai.has at a;rw[h1,h2] at a;simp only[fT,false_or] at a;refine Nr ?_;rw[decide_eq_true_eq,a];unfold p9 p9;rw[h1,h2];simp only[fT,if_false];have b1:=Fp t v.lo;have b2:=zy t v.hi;have c1:bt t v.lo=0↔t=v.lo:=by rw[ou]
 have c2:bt t v.hi=0↔t=v.hi:=by rw[ou]
 have d1:=Hw t v.hi;have d2:=Gf t v.lo;by_cases k1:0<bt t v.lo/\bt t v.hi<0
 .rw[if_pos k1]
  have q1:=b1.1 k1.1;have q2:=b2.1 k1.2;constructor<;>intro _
  .constructor<;>grind
  .decide
 .rw[if_neg k1]
  have k1: ¬(v.lo<t/\t<v.hi):=fun h=>k1 ⟨b1.2 h.1,b2.2 h.2⟩;by_cases k2:(bt t v.lo=0/\bt t v.hi<=0)\/(bt t v.hi=0/\0<=bt t v.lo)
  .rw[if_pos k2]
   have k3:(t=v.lo/\t<=v.hi)\/(t=v.hi/\v.lo<=t):=k2.elim (fun h=> .inl ⟨c1.1 h.1,d1.1 h.2⟩) fun h=> .inr ⟨c2.1 h.1,d2.1 h.2⟩;constructor<;>intro _
   .constructor<;>grind
   .decide
  .rw[if_neg k2]
   have k3: ¬((t=v.lo/\t<=v.hi)\/(t=v.hi/\v.lo<=t)):=fun h=>k2 (h.elim (fun h=> .inl ⟨c1.2 h.1,d1.2 h.2⟩) fun h=> .inr ⟨c2.2 h.1,d2.2 h.2⟩);constructor
   .intro h;exact absurd h oma
   .intro h;exfalso;grind
def Vh{f g:aI}(h:kg f.l g.l=false):gE f g=c9 f.l g.l/\jm f g=(decide (crossI f.l g.l≠0)&&(gr f (c9 f.l g.l)&&gr g (c9 f.l g.l))):=by
 unfold gE jm;rw[if_neg (by rw[h];decide),if_neg (by rw[h];decide)];exact⟨J,J⟩
def MF{f g:aI}(h:kg f.l g.l=true)(k:jv f g=true):gE f g=⟨0,0⟩/\jm f g=false:=by
 unfold gE jm;rw[if_pos h,if_pos h,if_pos k,k];exact⟨J,J⟩
def aK8{f g:aI}(h:kg f.l g.l=true)(k:jv f g=false)(e:gr g (f.l.at f.v.lo)=true):gE f g=f.l.at f.v.lo/\jm f g=true:=by
 unfold gE jm yZ;rw[if_pos h,if_pos h,if_neg (by rw[k];decide),if_pos e,k,e];exact⟨J,J⟩
def WN{f g:aI}(h:kg f.l g.l=true)(k:jv f g=false)(e:gr g (f.l.at f.v.lo)=false)(e2:gr g (f.l.at f.v.hi)=true):gE f g=f.l.at f.v.hi/\jm f g=true:=by
 unfold gE jm yZ;rw[if_pos h,if_pos h,if_neg (by rw[k];decide),if_neg ozc,if_pos e2,k,e,e2];exact⟨J,J⟩
def aFQ{f g:aI}(h:kg f.l g.l=true)(k:jv f g=false)(e:gr g (f.l.at f.v.lo)=false)(e2:gr g (f.l.at f.v.hi)=false):gE f g=⟨0,0⟩/\jm f g=false:=by
 unfold gE jm yZ;rw[if_pos h,if_pos h,if_neg (by rw[k];decide),if_neg ozc,if_neg (by rw[e2];decide),k,e,e2];exact⟨J,J⟩
def Ma{l m:ab}[hl:LB l][hm:LB m]:PF GB prog 66 [eL l,eL m] (vB (kg l m)):=by
 refine fn func66 J J ntmps66 J J (fun C=>?_);refine cl (fu:=⟨1⟩) J (w5 (l:=l) (m:=m)) J<|ji (v1:=fun hg9=>by simp only[ae];kernel_rfl) J J J J (fun hg9=>?_) (fun hg9=>?_)
 .
  exact rz J (by unfold kg;rw[decide_eq_true hg9];rfl)
 .
  refine cl J (wX (l:=m)) J<|cl J (w5 (l:=l) (m:=m.rev)) J<|rz J (by unfold kg;rw[decide_eq_false hg9];rfl)
def aHG{f:aI}(h:xA f):PF GB prog 122 [d8 f] (d8 (S1 f)):=by
 have hnl:=h.nl;have hnh:=h.nh;refine fn (fu:=⟨25⟩) func122 J J ntmps122 J J (fun C=>?_);refine d9 J (by show some (!f.v.nh)=some true;rw[hnh];rfl) J<|cl (fu:=⟨10⟩) J (sA (q:=f.v.hi)) J<|d9 J (by show some (!f.v.nl)=some true;rw[hnl];rfl) J<|cl J (sA (q:=f.v.lo)) J<|cl J (wX (l:=f.l)) J<|rz J (by rw[hnl,hnh]<;>rfl)
def aIZ{l:ab}{f:aI}[hl:LB l](h:t8 f):PF GB prog 68 [eL l,d8 f] (eV (i9 l f)):=by
 haveI:=h.ok.lb;refine fn func68 J J ntmps68 J J (fun C=>?_);refine cl J (w5 (l:=l) (m:=f.l)) J<|br J J J (fun hc9=>?_) (fun hc9=>?_)
 .
  exact rz J (by unfold i9;rw[if_pos hc9];rfl)
 .
  refine cl (fu:=⟨0⟩) J (aHG h.sg) J<|ah 13 (.d (d8 (S1 f))) J J<|gx J<|rz J (by unfold i9;rw[if_neg hc9];rfl)
def TA{f g:aI}(hf:t8 f)(hg:t8 g):PF GB prog 31 [d8 f,d8 g] (.tp [d8 (xP f g),vB (jv f g)]):=by
 haveI:=hf.ok.lb;haveI:=hg.ok.lb;refine fn func31 J J ntmps31 J J (fun C=>?_);refine cl J (Ma (l:=f.l) (m:=g.l)) J<|bb J J J (fun hc12=>?_) (fun hc12=>?_)
 .
  have hcl:kg f.l g.l=false:=by simpa using hc12
  exact rz J (by rw[(Lm hcl).1,(Lm hcl).2,Ty]<;>rfl)
 .
  have hcl:kg f.l g.l=true:=by simpa using hc12
  refine rf J J<|cl J (aIZ (l:=f.l) (f:=g) hg) J<|rf J J<|cl (fu:=⟨0⟩) J (GN (a:=[f.v]) (b:=[i9 f.l g]) (QP hf) (ZN hg) okU okU) J<|?_;obtain⟨cs,hcs⟩: ∃c,c=ke 2 [f.v] [i9 f.l g]:=⟨_,rfl⟩;have hml:(cs.map eV).length=cs.length:=aK ..;refine ah 22 (.d (.sl (cs.map eV))) J (by rw[hcs])<|gx (fu:=⟨8⟩) J<|ah 24 (.d (vI (cs.length:Nat))) J omr<|gx J<|br J J J (fun hc25=>?_) (fun hc25=>?_)
  .
   have hcn:ke 2 [f.v] [i9 f.l g]=[]:=by rw[<-hcs];exact cW we
   exact rz J (by rw[(M5 hcl hcn).1,(M5 hcl hcn).2,Ty]<;>rfl)
  .
   obtain⟨v,hz⟩: ∃s,cs[0]? =some s:=⟨_,aZ we⟩;obtain⟨o1,o2⟩:=UH hcl (by rw[<-hcs];exact hz);refine ix _ J (dP hz) J<|rz J (by rw[o1,o2]<;>rfl)
def Ba{f:aI}{p:aa}{i:Nat}[hp:aE p i](hf:t8 f)(hq:BQ (fI f.l p) 1200)(hi:i<=200000:=by decide):PF GB prog 70 [d8 f,eP p] (vB (gr f p)):=by
 haveI:=hf.ok.lb;haveI:=hq;refine fn func70 J J ntmps70 J J (fun C=>?_);refine cl (fu:=⟨1⟩) J (AE (l:=f.l) (p:=p) (i:=i) we) J<|ji (v2:=fun hg10=>by simp only[ae];kernel_rfl) J J J J (fun hg10=>?_) (fun hg10=>?_)
 .
  refine rf J J<|cl J (AB (l:=f.l) (p:=p) (k:=i) hf.sg.ok.ne we) J<|cl J (NX (l:=[f.v]) (t:=fI f.l p) (i:=1200) (QP hf) (by show 1<=100000;decide)) J<|rz J (by unfold gr;rw[decide_eq_true hg10,<-aEv hf.sg.nl hf.sg.nh hf.sg.lt]<;>rfl)
 .
  exact rz J (by unfold gr;rw[decide_eq_false hg10]<;>rfl)
def aEL{f:aI}(hf:t8 f):PF GB prog 71 [d8 f] (.sl ([f.l.at f.v.lo,f.l.at f.v.hi].map eP)):=by
 haveI:=hf.ok.lb;haveI:=hf.ok.lo;haveI:=hf.ok.hi;have hnl:=hf.sg.nl;have hnh:=hf.sg.nh;refine fn (fu:=⟨17⟩) func71 J J ntmps71 J J (fun C=>?_);refine d9 J (by show some (!f.v.nl)=some true;rw[hnl];rfl) J<|cl J (Ep (l:=f.l) (t:=f.v.lo) (k:=1200) hf.sg.ok.ne) J<|rf J J<|ap (fu:=⟨9⟩) (hbd:=omc) _ J J (yo J) J<|d9 J (by show some (!f.v.nh)=some true;rw[hnh];rfl) J<|cl J (Ep (l:=f.l) (t:=f.v.hi) (k:=1200) hf.sg.ok.ne) J<|rf J J<|ap (hbd:=omc) _ J J (yo J) J<|jd 29 J<|rz J J
def PA{l m:ab}(h:crossI l m≠0):crossI m l≠0/\c9 l m=c9 m l:=by
 have e:crossI m l= -crossI l m:=by unfold crossI;omega
 have h2:crossI m l≠0:=by omega
 refine⟨h2,?_⟩;unfold c9;rw[if_neg h,if_neg h2];have ex:meetX m l= -meetX l m:=by unfold meetX;omega
 have ey:meetY m l= -meetY l m:=by unfold meetY;omega
 rw[e,ex,ey,iX,iX,iX];have h3:((crossI l m:Int):Rat)≠0:=by exact_mod_cast h
 generalize ((crossI l m:Int):Rat)=a at*;generalize ((meetX l m:Int):Rat)=b at*;generalize ((meetY l m:Int):Rat)=c at*;rw[aa.mk.injEq];constructor<;>grind
def yA{v w:ZP}(hv:ZP.le 100 v)(hw:ZP.le 100 w)(h:v≠w):t8 (cH v w):=⟨uL hv hw h,Q3 h (uL hv hw h).ok⟩
theorem QO{v w z:ZP}(hv:ZP.le 100 v)(hw:ZP.le 100 w)(h:v≠w)(hz:ZP.le 100 z):BQ (fI (cH v w).l z.q) 1200:=
 Ho (uL hv hw h).lb (uL hv hw h).ok (by have:=hz.1;omega) (by have:=hz.2;omega)
def XY{v w v' w':ZP}(hv:ZP.le 100 v)(hw:ZP.le 100 w)(h:v≠w)(hv':ZP.le 100 v')(hw':ZP.le 100 w')(h':v'≠w'):PF GB prog 32 [d8 (cH v w),d8 (cH v' w')] (.tp [eP (gE (cH v w) (cH v' w')),vB (jm (cH v w) (cH v' w'))]):=by
 have hf:=yA hv hw h;have hg:=yA hv' hw' h';obtain⟨e1,e2,_⟩:=Cx h hf.sg.ok;have pv:=QO hv' hw' h' hv;have pw:=QO hv' hw' h' hw;haveI:=nE hv;haveI:=nE hw;generalize cH v w=f at*;generalize cH v' w'=g at*;haveI:=hf.ok.lb;haveI:=hg.ok.lb;refine fn func32 J J ntmps32 J J (fun C=>?_);refine cl J (Ma (l:=f.l) (m:=g.l)) J<|bb J J J (fun hc17=>?_) (fun hc17=>?_)
 .
  have hcl:kg f.l g.l=false:=by simpa using hc17
  obtain⟨m1,m2⟩:=Vh hcl;by_cases hx:crossI f.l g.l=0
  .
   have m3:jm f g=false:=by rw[m2,decide_eq_false (p:=crossI f.l g.l≠0) (fun k=>k hx),rL]
   refine cl (fu:=⟨0⟩) J (Eg (l:=f.l) (m:=g.l)) J<|ah 23 (.d (.tp [eP (c9 f.l g.l), .v (.bool false)])) J (by rw[decide_eq_false (p:=crossI f.l g.l≠0) (fun k=>k hx)]<;>rfl)<|gx (fu:=⟨12⟩) J<|ew J J J<|rz J (by rw[m1,m3]<;>rfl)
  .
   haveI hpb:=zW (l:=f.l) (m:=g.l) hf.sg.ok.ne hx;have hpb2:BQ (fI g.l (c9 f.l g.l)) 1200:=by rw[(PA hx).2];exact zW hg.sg.ok.ne (PA hx).1
   refine cl (fu:=⟨0⟩) J (Eg (l:=f.l) (m:=g.l)) J<|ah 23 (.d (.tp [eP (c9 f.l g.l), .v (.bool true)])) J (by rw[decide_eq_true (p:=crossI f.l g.l≠0) hx]<;>rfl)<|gx (fu:=⟨12⟩) J<|d9 J J J<|?_
   cases hH:gr f (c9 f.l g.l)
   .
    have m3:jm f g=false:=by rw[m2,hH,rL,rM]
    refine cl (fu:=⟨1⟩) J (Ba (p:=c9 f.l g.l) hf hpb) J<|ew J (by rw[hH]<;>rfl) J<|rz J (by rw[m1,m3]<;>rfl)
   .
    have m3:jm f g=gr g (c9 f.l g.l):=by rw[m2,decide_eq_true (p:=crossI f.l g.l≠0) hx,hH,qT,qT]
    refine cl (fu:=⟨1⟩) J (Ba (p:=c9 f.l g.l) hf hpb) J<|d9 J (by rw[hH]<;>rfl) J<|cl J (Ba (p:=c9 f.l g.l) hg hpb2) J<|rz J (by rw[m1,m3]<;>rfl)
 .
  have hcl:kg f.l g.l=true:=by simpa using hc17
  refine cl J (TA hf hg) J<|bb J J J (fun hc44=>?_) (fun hc44=>?_)
  .
   have hov:jv f g=true:=hc44;exact rz J (by rw[(MF hcl hov).1,(MF hcl hov).2,Es]<;>rfl)
  .
   have hov:jv f g=false:=by simpa using hc44
   refine cl (fu:=⟨0⟩) J (aEL hf) J<|ah 47 (.d (.sl ([v.q,w.q].map eP))) J (by rw[e1,e2])<|gx (fu:=⟨1⟩) J<|ah 48 (.d (vI (2:Nat))) J J<|gx J<|lp (X:=Nat) (fun k=>[(49, .d (vI (k:Nat)))]) (fun k=>[]) (fun k=>k<=2/\(0<k->gr g v.q=false)/\(1<k->gr g w.q=false)) (fun k=>2-k) 0 J ⟨oma,fun h=>absurd h oma,fun h=>absurd h oma⟩ (fun _=>J) (fun k hk=>?_);obtain⟨k0,k1,k2⟩:=hk;refine br (fu1:=⟨6⟩) J J J (fun hc50=>?_) (fun hc50=>?_)
   .
    rcases(show k=0\/k=1 by omega) with rfl|rfl
    .
     refine gx J<|ix _ J (show([v.q,w.q].map eP)[0]? =some (eP v.q) from J) J<|cl J (Ba (p:=v.q) (i:=12) hg pv) J<|bb J J J (fun hc55=>?_) (fun hc55=>?_)
     .
      have hm:=aK8 hcl hov (by rw[e1];exact hc55);rw[e1] at hm;exact rz J (by rw[hm.1,hm.2]<;>rfl)
     .
      have hnv:gr g v.q=false:=by simpa using hc55
      exact at_ (0+1) ⟨⟨oma,fun _=>hnv,fun h=>absurd h oma⟩,we⟩
    .
     refine gx J<|ix _ J (show([v.q,w.q].map eP)[1]? =some (eP w.q) from J) J<|cl J (Ba (p:=w.q) (i:=12) hg pw) J<|bb J J J (fun hc55=>?_) (fun hc55=>?_)
     .
      have hm:=WN hcl hov (by rw[e1];exact k1 oma) (by rw[e2];exact hc55);rw[e2] at hm;exact rz J (by rw[hm.1,hm.2]<;>rfl)
     .
      have hnw:gr g w.q=false:=by simpa using hc55
      exact at_ (1+1) ⟨⟨oma,fun _=>k1 oma,fun _=>hnw⟩,we⟩
   .
    obtain rfl:k=2:=by omega
    have hm:=aFQ hcl hov (by rw[e1];exact k1 oma) (by rw[e2];exact k2 oma);exact rz J (by rw[hm.1,hm.2,Es]<;>rfl)
end Go.Sx
end
