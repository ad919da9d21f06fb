import Derived.Test.YtbllnkhngjedjaaGreatDoorPt19
set_option linter.all false
set_option maxHeartbeats 2000000
set_option maxRecDepth 100000
section
namespace Go.Sx
open Go Go.Proofs Tryz
variable {GB:Gh}
def Ix: ∀(c:az) (A B:aP->Rat),(∀u∈c,0<=A u/\(0<=B u\/0<A u))-> ∃e:Rat,0<e/\ ∀u∈c,0<=A u+e*B u
 |[],_,_,_=>⟨1,by decide,fun u hu=>by cases hu⟩
 |s::t,A,B,h=>by
  obtain⟨e,e0,he⟩:=Ix t A B fun u hu=>h u (aK _ hu);obtain⟨h1,h2⟩:=h s aZ;have hold: ∀q,0<=q->q<=e-> ∀u∈t,0<=A u+q*B u:=fun q q0 q1 u hu=>IM (h u (aK _ hu)).1 (he u hu) q0 q1;by_cases hb:0<=B s
  .refine⟨e,e0,fun u hu=>?_⟩
   rcases aT.1 hu with rfl|hu
   .have:=cO (dQ e0) hb;grind
   .exact he u hu
  .have ha:=h2.resolve_left hb
   have hq:0<A s/ -(B s):=(gv (k:= -(B s)) (by grind)).1 (by rw[show A s/ -(B s)* -(B s)=A s by grind];exact ha);have hm:A s/ -(B s)* -(B s)=A s:=by grind
   generalize A s/ -(B s)=q at*;by_cases k:q<=e
   .refine⟨q,hq,fun u hu=>?_⟩
    rcases aT.1 hu with rfl|hu
    .grind
    .exact hold q (dQ hq) k u hu
   .refine⟨e,e0,fun u hu=>?_⟩
    rcases aT.1 hu with rfl|hu
    .have:=cO (show 0<=q-e by grind) (show 0<= -(B u) by grind)
     grind
    .exact he u hu
def DU(l m:ab)(t e:Rat):m.value (l.at (t+e))=m.value (l.at t)+e*m.nor.dot l.dir:=by
 rw[Ay,gH]
def AO{s:aP}(h:s.v.Pos)(nh:s.v.nh=false):s.v.has s.v.hi:=by
 unfold aj.Pos at h;refine⟨?_, .inr fN⟩;rcases h with h|h|h
 .exact .inl h
 .rw[nh] at h;cases h
 .exact .inr (dQ h)
def Hi{s:aP}(h:s.v.Pos)(nl:s.v.nl=false):s.v.has s.v.lo:=by
 unfold aj.Pos at h;refine⟨.inr fN,?_⟩;rcases h with h|h|h
 .rw[nl] at h;cases h
 .exact .inl h
 .exact .inr (dQ h)
def aCH{c:az}(hc:bO c){s:aP}(hs:s∈c)(nh:s.v.nh=false): ∃u∈c,u.l.value (s.l.at s.v.hi)=0/\u.l.nor.dot s.l.dir<0:=by
 obtain⟨p1,p2⟩:=hc.edge s hs;have hin:=(p2 _).1 (AO p1 nh);by_cases q: ∃u∈c,u.l.value (s.l.at s.v.hi)=0/\u.l.nor.dot s.l.dir<0
 .exact q
 .exfalso
  obtain⟨e,e0,he⟩:=Ix c (fun u=>u.l.value (s.l.at s.v.hi)) (fun u=>u.l.nor.dot s.l.dir) fun u hu=>by
   have h1:=hin u hu;refine⟨h1,?_⟩;by_cases k:0<=u.l.nor.dot s.l.dir
   .exact .inl k
   .right
    by_cases z:u.l.value (s.l.at s.v.hi)=0
    .exact absurd ⟨u,hu,z,by grind⟩ q
    .grind
  have hh:=(p2 (s.v.hi+e)).2 fun u hu=>by rw[DU];exact he u hu
  have:=hh.2;rw[nh] at this;rcases this with z|z
  .cases z
  .grind
def aCs{c:az}(hc:bO c){s:aP}(hs:s∈c)(nl:s.v.nl=false): ∃u∈c,u.l.value (s.l.at s.v.lo)=0/\0<u.l.nor.dot s.l.dir:=by
 obtain⟨p1,p2⟩:=hc.edge s hs;have hin:=(p2 _).1 (Hi p1 nl);by_cases q: ∃u∈c,u.l.value (s.l.at s.v.lo)=0/\0<u.l.nor.dot s.l.dir
 .exact q
 .exfalso
  obtain⟨e,e0,he⟩:=Ix c (fun u=>u.l.value (s.l.at s.v.lo)) (fun u=> -(u.l.nor.dot s.l.dir)) fun u hu=>by
   have h1:=hin u hu;refine⟨h1,?_⟩;by_cases k:0<= -(u.l.nor.dot s.l.dir)
   .exact .inl k
   .right
    by_cases z:u.l.value (s.l.at s.v.lo)=0
    .exact absurd ⟨u,hu,z,by grind⟩ q
    .grind
  have hh:=(p2 (s.v.lo+ -e)).2 fun u hu=>by rw[DU];have:=he u hu;grind
  have:=hh.1;rw[nl] at this;rcases this with z|z
  .cases z
  .grind
def MC{ds:List aa}(h:ds.Pairwise cd){i:Nat}{s w:aa}(hs:ds[i]? =some s)(hw:ds[(i+1)%ds.length]? =some w):ku ds s w:=by
 obtain⟨hi,rfl⟩:=aY.1 hs;obtain⟨hj,rfl⟩:=aY.1 hw;have hp:=jU.1 h;by_cases e:i+1<ds.length
 .have em:(i+1)%ds.length=i+1:=dV e
  left;simp only[em];refine⟨hp i (i+1) hi e (by omega),fun d hd=>?_⟩;obtain⟨j,hj,rfl⟩:=mT.1 hd;rintro ⟨a,b⟩;rcases pR j i with k|k|k
  .exact x6 a (hp j i hj hi k)
  .subst k;exact sO _ a
  .by_cases z:j=i+1
   .subst z;exact sO _ b
   .exact x6 b (hp (i+1) j e hj (by omega))
 .have ei:i+1=ds.length:=by omega
  have em:(i+1)%ds.length=0:=by rw[ei,tV]
  right;simp only[em];refine⟨fun d hd a=>?_,fun d hd b=>?_⟩
  .obtain⟨j,hj,rfl⟩:=mT.1 hd
   by_cases k:j=i
   .subst k;exact sO _ a
   .exact x6 a (hp j i hj hi (by omega))
  .obtain⟨j,hj,rfl⟩:=mT.1 hd
   by_cases k:j=0
   .subst k;exact sO _ b
   .exact x6 b (hp 0 j (by omega) hj (by omega))
def awm{s u w:aa}(hs:s.half≠0)(hw:w.half≠0)(hu:u.half≠0)(h1:0<s.cross u)(h2:0<u.cross w)(h3:0<s.cross w)(e:s.half=w.half):u.half=s.half:=by
 rcases gq hs with k|k
 .rw[k] at e⊢
  have a:=lB.1 k;have b:=lB.1 e.symm;rw[lB];unfold aa.cross at*
  -- u is between s and w
  have i1:(s.x*w.y-s.y*w.x)*u.y=(u.x*w.y-u.y*w.x)*s.y+(s.x*u.y-s.y*u.x)*w.y:=by grind
  have i2:(s.x*w.y-s.y*w.x)*u.x=(u.x*w.y-u.y*w.x)*s.x+(s.x*u.y-s.y*u.x)*w.x:=by grind
  have y0:0<=s.y:=by grind
  have y1:0<=w.y:=by grind
  have m1:=cO (dQ h2) y0;have m2:=cO (dQ h1) y1;have uy:0<=u.y:=(kg h3).1 (by grind);by_cases z:0<u.y
  .exact .inl z
  .right
   have z0:u.y=0:=by grind
   have i3:(u.x*w.y-u.y*w.x)*s.y+(s.x*u.y-s.y*u.x)*w.y=0:=by rw[<-i1,z0];grind
   have A0:(u.x*w.y-u.y*w.x)*s.y=0:=by generalize (u.x*w.y-u.y*w.x)*s.y=A at*;generalize (s.x*u.y-s.y*u.x)*w.y=B at*;grind
   have B0:(s.x*u.y-s.y*u.x)*w.y=0:=by grind
   have n1:s.y=0:=by
    rcases gV.1 A0 with q|q
    .grind
    .exact q
   have n2:w.y=0:=by
    rcases gV.1 B0 with q|q
    .grind
    .exact q
   rw[n1,n2] at h3;grind
 .rw[k] at e⊢
  have a:=pq.1 k;have b:=pq.1 e.symm;rw[pq];unfold aa.cross at*;have i1:(s.x*w.y-s.y*w.x)*u.y=(u.x*w.y-u.y*w.x)*s.y+(s.x*u.y-s.y*u.x)*w.y:=by grind
  have y0:0<= -s.y:=by grind
  have y1:0<= -w.y:=by grind
  have m1:=cO (dQ h2) y0;have m2:=cO (dQ h1) y1;have uy:0<= -u.y:=(kg h3).1 (by grind);by_cases z:u.y<0
  .exact .inl z
  .right
   have z0:u.y=0:=by grind
   have i3:(u.x*w.y-u.y*w.x)*s.y+(s.x*u.y-s.y*u.x)*w.y=0:=by rw[<-i1,z0];grind
   have m3:(u.x*w.y-u.y*w.x)* -s.y= -((u.x*w.y-u.y*w.x)*s.y):=by grind
   have m4:(s.x*u.y-s.y*u.x)* -w.y= -((s.x*u.y-s.y*u.x)*w.y):=by grind
   rw[m3] at m1;rw[m4] at m2;have A0:(u.x*w.y-u.y*w.x)*s.y=0:=by generalize (u.x*w.y-u.y*w.x)*s.y=A at*;generalize (s.x*u.y-s.y*u.x)*w.y=B at*;grind
   have B0:(s.x*u.y-s.y*u.x)*w.y=0:=by grind
   have n1:s.y=0:=by
    rcases gV.1 A0 with q|q
    .grind
    .exact q
   have n2:w.y=0:=by
    rcases gV.1 B0 with q|q
    .grind
    .exact q
   rw[n1,n2] at h3;grind
def E7{ds:List aa}(nz: ∀d∈ds,d.half≠0){s u w:aa}(hs:s∈ds)(hu:u∈ds)(hw:w∈ds)(hn:ku ds s w)(h1:0<s.cross u)(h2:0<u.cross w)(h3:0<s.cross w):False:=by
 have zs:=gq (nz s hs);have zu:=gq (nz u hu);have zw:=gq (nz w hw);rcases hn with⟨b,no⟩|⟨n1,n2⟩
 .by_cases e:s.half=w.half
  .have e2:=awm (nz s hs) (nz w hw) (nz u hu) h1 h2 h3 e
   exact no u hu ⟨.inr ⟨e2.symm,h1⟩, .inr ⟨by omega,h2⟩⟩
  .have e1:s.half=1/\w.half=2:=by
    rcases b with b|⟨b,_⟩
    .omega
    .exact absurd b e
   rcases zu with k|k
   .exact no u hu ⟨.inr ⟨by omega,h1⟩, .inl (by omega)⟩
   .exact no u hu ⟨.inl (by omega), .inr ⟨by omega,h2⟩⟩
 .have a:=n1 u hu
  have b:=n2 u hu;have a1: ¬s.half<u.half:=fun k=>a (.inl k);have a2:s.half≠u.half:=fun k=>a (.inr ⟨k,h1⟩);have b1: ¬u.half<w.half:=fun k=>b (.inl k);have b2:u.half≠w.half:=fun k=>b (.inr ⟨k,h2⟩);omega
def Pj{u w n:aa}(hu:u.half≠0)(hw:w.half≠0)(hn:n.half≠0)(e1:w.half=u.half)(e2:u.half=n.half)(h1:0<u.cross n)(h2: ¬0<u.cross w):0<w.cross n:=by
 by_cases k:0<w.cross u
 .have b1:cd w u:= .inr ⟨e1,k⟩
  have b2:cd u n:= .inr ⟨e2,h1⟩;rcases uV b1 b2 with q|⟨_,q⟩
  .omega
  .exact q
 .have hz:w.cross u=0:=by rw[eB] at k⊢;grind
  by_cases q:0<w.cross n
  .exact q
  .exfalso
   have b2:cd u n:= .inr ⟨e2,h1⟩;by_cases q2:0<n.cross w
   .have b3:cd n w:= .inr ⟨by omega,q2⟩
    rcases uV b2 b3 with z|⟨_,z⟩
    .omega
    .exact h2 z
   .have hz2:w.cross n=0:=by rw[eB] at q2;grind
    rcases gq hw with hh|hh
    .have a:=lB.1 hh
     have b:=lB.1 (show u.half=1 by omega);have c:=lB.1 (show n.half=1 by omega);unfold aa.cross at*;have j1:w.x*(u.x*n.y-u.y*n.x)=0:=by grind
     have j2:w.y*(u.x*n.y-u.y*n.x)=0:=by grind
     rcases gV.1 j1 with z|z
     .rcases gV.1 j2 with z2|z2<;>grind
     .grind
    .have a:=pq.1 hh
     unfold aa.cross at*;have j1:w.x*(u.x*n.y-u.y*n.x)=0:=by grind
     have j2:w.y*(u.x*n.y-u.y*n.x)=0:=by grind
     rcases gV.1 j1 with z|z
     .rcases gV.1 j2 with z2|z2<;>grind
     .grind
def aDI{ds:List aa}(nz: ∀d∈ds,d.half≠0){s u w:aa}(hs:s∈ds)(hu:u∈ds)(hw:w∈ds)(hn:ku ds s w)(h1:0<s.cross u):0<s.cross w:=by
 have zs:=gq (nz s hs);have zu:=gq (nz u hu);have zw:=gq (nz w hw);have hneg:=s9 (nz s hs);have hnz:(bE s).half≠0:=by omega
 have e1:u.cross (bE s)=s.cross u:=by rw[lv,eB s u];grind
 have e2:w.cross (bE s)=s.cross w:=by rw[lv,eB s w];grind
 rcases hn with⟨b,no⟩|⟨n1,n2⟩
 .by_cases e:s.half=w.half
  .rcases b with b|⟨_,b⟩
   .omega
   .exact b
  .have e3:s.half=1/\w.half=2:=by
    rcases b with b|⟨b,_⟩
    .omega
    .exact absurd b e
   have nu:=no u hu;rcases zu with k|k
   .exact absurd ⟨.inr ⟨by omega,h1⟩, .inl (by omega)⟩ nu
   .rw[<-e2]
    exact Pj (nz u hu) (nz w hw) hnz (by omega) (by omega) (by rw[e1];exact h1) fun q=>nu ⟨.inl (by omega), .inr ⟨by omega,q⟩⟩
 .have a:=n1 u hu
  have b:=n2 u hu;have a1: ¬s.half<u.half:=fun k=>a (.inl k);have a2:s.half≠u.half:=fun k=>a (.inr ⟨k,h1⟩);have b1: ¬u.half<w.half:=fun k=>b (.inl k);rw[<-e2];exact Pj (nz u hu) (nz w hw) hnz (by omega) (by omega) (by rw[e1];exact h1) fun q=>b (.inr ⟨by omega,q⟩)
def Ot(s u w:ab)(h p:aa):s.dir.cross u.dir*w.value p=s.dir.cross u.dir*w.value h+w.dir.cross u.dir*(s.value p-s.value h)+s.dir.cross w.dir*(u.value p-u.value h):=by
 rw[jf,jf,jf,jf,jf,jf];unfold aa.cross ab.dir;grind
def Hv{c:az}(hc:bO c): ∀d∈c.map (fun s=>s.l.dir),d.half≠0:=fun d hd=>by
 obtain⟨s,hs,rfl⟩:=bQ.1 hd;exact vK (hc.ok s hs)
def TN{c:az}(hc:bO c){s w:aP}(hs:s∈c)(hw:w∈c)(hn:ku (c.map fun s=>s.l.dir) s.l.dir w.l.dir)(nh:s.v.nh=false):0<s.l.dir.cross w.l.dir/\w.l.value (s.l.at s.v.hi)=0:=by
 obtain⟨u,hu,z1,z2⟩:=aCH hc hs nh;have su:0<s.l.dir.cross u.l.dir:=by rw[eB,qn];grind
 have nz:=Hv hc;have ms:=fS (f:=fun s:aP=>s.l.dir) hs;have mu:=fS (f:=fun s:aP=>s.l.dir) hu;have mw:=fS (f:=fun s:aP=>s.l.dir) hw;have sw:=aDI nz ms mu mw hn su;refine⟨sw,?_⟩;obtain⟨p1,p2⟩:=hc.edge s hs;have hin:=(p2 _).1 (AO p1 nh);have hs0:=mz (hc.ok s hs).ne s.v.hi;have h0:=hin w hw;by_cases q:w.l.value (s.l.at s.v.hi)=0
 .exact q
 .exfalso
  have wu:0<=w.l.dir.cross u.l.dir:=by
   by_cases k:0<u.l.dir.cross w.l.dir
   .exact(E7 nz ms mu mw hn su k sw).elim
   .rw[eB];grind
  obtain⟨t1,t2⟩:=Bu hc hw;have e:=Ot s.l u.l w.l (s.l.at s.v.hi) (w.l.at w.v.sample);rw[t2,z1,hs0] at e;have g1:=bH su (show 0<w.l.value (s.l.at s.v.hi) by grind);have g2:=cO wu (t1 s hs);have g3:=cO (dQ sw) (t1 u hu);grind
def Yg{c:az}(hc:bO c){s w:aP}(hs:s∈c)(hw:w∈c)(hn:ku (c.map fun s=>s.l.dir) s.l.dir w.l.dir)(sw:0<s.l.dir.cross w.l.dir)(nl:w.v.nl=false):s.l.value (w.l.at w.v.lo)=0:=by
 obtain⟨u,hu,z1,z2⟩:=aCs hc hw nl;have uw:0<u.l.dir.cross w.l.dir:=by rw[qn];exact z2
 have nz:=Hv hc;have ms:=fS (f:=fun s:aP=>s.l.dir) hs;have mu:=fS (f:=fun s:aP=>s.l.dir) hu;have mw:=fS (f:=fun s:aP=>s.l.dir) hw;obtain⟨p1,p2⟩:=hc.edge w hw;have hin:=(p2 _).1 (Hi p1 nl);have hw0:=mz (hc.ok w hw).ne w.v.lo;have h0:=hin s hs;by_cases q:s.l.value (w.l.at w.v.lo)=0
 .exact q
 .exfalso
  have us:0<=u.l.dir.cross s.l.dir:=by
   by_cases k:0<s.l.dir.cross u.l.dir
   .exact(E7 nz ms mu mw hn k uw sw).elim
   .rw[eB];grind
  obtain⟨t1,t2⟩:=Bu hc hs;have e:=Ot u.l w.l s.l (w.l.at w.v.lo) (s.l.at s.v.sample);rw[t2,z1,hw0] at e;have g1:=bH uw (show 0<s.l.value (w.l.at w.v.lo) by grind);have g2:=cO (dQ sw) (t1 u hu);have g3:=cO us (t1 w hw);grind
def W5(ds:List aa)(u:aa):Prop:=u≠⟨0,0⟩/\ ∀r∈ds,¬MT r u
def WdD(ds:List aa)(v w:aa):Prop:= ∀s,0<=s->s<=1->W5 ds (bj v w s)
def yN(x y:aa):Nat:=if x.cross y<0 then 1 else if 0<x.cross y then 3 else if 0<x.dot y then 0 else 2
def aKg(x y z:aa):Prop:=yN x y<yN x z\/(yN x y=yN x z/\(yN x y=1\/yN x y=3)/\0<z.cross y)
section
variable {ds:List aa}
end
def asz(l m:ab):l.dir.cross m.dir=(crossI l m:Rat):=by
 unfold aa.cross ab.dir crossI;rw[jM,cR,cR];grind
def GQ{l m:ab}(h:0<Int.sign (l.dir.cross m.dir).num):crossI l m≠0:=fun e=>by
 rw[lf,asz,e] at h;exact absurd h (by decide)
def PG{l m:ab}(h:crossI l m≠0):l.nor.cross m.nor≠0:=fun e=>by
 have:l.nor.cross m.nor=(crossI l m:Rat):=by
  unfold aa.cross ab.nor crossI;rw[jM,cR,cR];grind
 rw[this] at e;exact h (dZ.1 e)
def NC{l m:ab}(h:crossI l m≠0):d8 l m=⟨((l.b:Rat)*(m.c:Rat)-(l.c:Rat)*(m.b:Rat))/l.nor.cross m.nor,((l.c:Rat)*(m.a:Rat)-(l.a:Rat)*(m.c:Rat))/l.nor.cross m.nor⟩:=by
 have e1:(meetX l m:Rat)=(l.b:Rat)*(m.c:Rat)-(l.c:Rat)*(m.b:Rat):=by unfold meetX;rw[jM,cR,cR];grind
 have e2:(meetY l m:Rat)=(l.c:Rat)*(m.a:Rat)-(l.a:Rat)*(m.c:Rat):=by unfold meetY;rw[jM,cR,cR];grind
 have e3:(crossI l m:Rat)=l.nor.cross m.nor:=by unfold aa.cross ab.nor crossI;rw[jM,cR,cR];grind
 unfold d8;rw[if_neg h,e1,e2,e3]
def Dr: ∀{t:Tr} {c:az} {x:Bool×az},t.all LB->t.all ab.ok->iq c->x∈t.parts c->iq x.2/\x.2.length<=c.length+t.depth
 | .leaf b,c,x,_,_,hc,h=>by
  rw[Tr.parts,aU] at h;subst h;exact⟨hc,nY _ _⟩
 | .node l u v,c,x,hb,ho,hc,h=>by
  have hl:=hb.1;have hd:(Tr.node l u v).depth=1+max u.depth v.depth:=J;rw[Tr.parts] at h;rcases bK.1 h with h|h
  .split at h
   .obtain⟨k1,k2⟩:=Dr hb.2.1 ho.2.1 (vX ho.1 hc) h
    have:=yt c l;exact⟨k1,by omega⟩
   .cases h
  .split at h
   .obtain⟨k1,k2⟩:=Dr hb.2.2 ho.2.2 (vX ho.1.rev hc) h
    have:=yt c l.rev;exact⟨k1,by omega⟩
   .cases h
def wA(t:Tr):(ce t).length<=t.size+1:=by
 unfold ce;rw[aJ];exact cY (mZ ..) (Az t [])
def vY{t:Tr}(hb:t.all LB)(ho:t.all ab.ok): ∀c∈ce t,c.length<=t.depth:=fun c hc=>by
 have:=(Dr hb ho iq.nil (vr.1 hc)).2;simpa using this
theorem Ax{t:Tr}(hb:t.all LB)(ho:t.all ab.ok): ∀c∈ce t,∀s∈c,LB s.l:=fun c hc s hs=>((Dr hb ho iq.nil (vr.1 hc)).1 s hs).lb
def aGg(l:List aa):cF 6 (l.map eZ):=fun d hd=>by
 obtain⟨x,_,rfl⟩:=bQ.1 hd;exact⟨J,J⟩
def l9(v:List aa):DV:= .sl (v.map eZ)
def pz(v:List aa):DV:= .sl (v.map jr)
def Sf(l:List (List aa)):cF 1 (l.map l9):=fun d hd=>by
 obtain⟨x,_,rfl⟩:=bQ.1 hd;exact⟨J,J⟩
def YX(l:List (List aa)):cF 1 (l.map pz):=fun d hd=>by
 obtain⟨x,_,rfl⟩:=bQ.1 hd;exact⟨J,J⟩
def wV{α:Type}{vs:List α}{f:α->Bool}{k:Nat}{v:α}(h:vs[k]? =some v):(vs.drop k).all f=(f v&&(vs.drop (k+1)).all f):=by
 obtain⟨h1,h2⟩:=aY.1 h;rw[bX h1,h2,List.all_cons]
def T8{l m:ab}[hl:LB l][hm:LB m](hz:crossI l m≠0):PF GB prog 111 [fA l,fA m] (.tp [eZ (d8 l m),vB true]):=by
 haveI:=aC.nor l;haveI:=aC.nor m;refine fn func111 J J ntmps111 J J (fun C=>?_);refine cl J (yy (l:=l)) J<|cl J (yy (l:=m)) J<|cl J (wR (p:=l.nor) (q:=m.nor) (i:=97) (j:=97)) J<|cl (fu:=⟨0⟩) J (xk (q:=l.nor.cross m.nor)) J<|?_;refine ak 15 (.d (vB false)) J (by rw[decide_eq_false (PG hz)]) ?_;refine vf 15 J ?_;refine gx J<|cl J (ph (p:=(l.b:Rat)) (q:=(m.c:Rat)) (i:=97) (j:=97)) J<|cl J (ph (p:=(l.c:Rat)) (q:=(m.b:Rat)) (i:=97) (j:=97)) J<|?_;refine cl J (q8 (p:=(l.b:Rat)*(m.c:Rat)) (q:=(l.c:Rat)*(m.b:Rat))) J<|cl J (AS (p:=(l.b:Rat)*(m.c:Rat)-(l.c:Rat)*(m.b:Rat)) (q:=l.nor.cross m.nor)) J<|?_;refine cl J (ph (p:=(l.c:Rat)) (q:=(m.a:Rat)) (i:=97) (j:=97)) J<|cl J (ph (p:=(l.a:Rat)) (q:=(m.c:Rat)) (i:=97) (j:=97)) J<|?_;refine cl J (q8 (p:=(l.c:Rat)*(m.a:Rat)) (q:=(l.a:Rat)*(m.c:Rat))) J<|cl J (AS (p:=(l.c:Rat)*(m.a:Rat)-(l.a:Rat)*(m.c:Rat)) (q:=l.nor.cross m.nor)) J<|?_;exact rz J (by rw[NC hz];rfl)
def Lj{c:az}(hb: ∀s∈c,LB s.l)(hn:c.length<=100000):PF GB prog 59 [eC c] (.sl ((gh (c.map (·.l))).map eZ)):=by
 have hml:(c.map eG).length=c.length:=aJ ..;obtain⟨L,hL⟩: ∃L,L=c.map (·.l):=⟨_,rfl⟩;have hLl:L.length=c.length:=by rw[hL,aJ]
 refine fn (fu:=⟨15⟩) func59 J J ntmps59 J J (fun C=>?_);refine ak 10 (.d (vI (c.length:Nat))) J (by rw[hml]<;>rfl) ?_;refine gx J<|?_;refine nr 3 3 92 6 J J J ?_;refine lp (X:=List aa×Nat) (fun⟨acc,k⟩=>[(11, .d (vI (k:Nat))),(3, .rw 3)]) (fun⟨acc,k⟩=>[(3,some (.b 92 6 (acc.map eZ) true))]) (fun⟨acc,k⟩=>acc=(List.range k).flatMap (ql L)/\k<=c.length) (fun⟨acc,k⟩=>c.length-k) ⟨[],0⟩ J ⟨J,aN _⟩ (fun _=>J) (fun⟨acc,k⟩ hk=>?_)
 try dsimp only at hk⊢
 obtain⟨h1,h2⟩:=hk;have hal:=CW L k;rw[<-h1] at hal;have ham:(acc.map eZ).length=acc.length:=aJ ..;refine br J J J (fun hc12=>?_) (fun hc12=>?_)
 .
  obtain⟨s,hx⟩: ∃u,c[k]? =some u:=⟨_,aQ (by omega)⟩;obtain⟨u,hw⟩: ∃w,c[(k+1)%c.length]? =some w:=⟨_,aQ (cS _ (by omega))⟩;haveI:=hb s (aV hx);haveI:=hb u (aV hw);have hxl:L[k]? =some s.l:=by rw[hL,cK,hx];rfl
  have hwl:L[(k+1)%L.length]? =some u.l:=by rw[hLl,hL,cK,hw];rfl
  refine ix (fu:=⟨13⟩) _ J (cA hx) J<|?_;refine ak 20 (.d (vI (c.length:Nat))) J (by rw[hml]<;>rfl) ?_;refine gx (fu:=⟨1⟩) J<|?_;refine ak 21 (.d (vI (((k+1)%c.length:Nat):Int))) J J ?_;refine gx J<|ix _ J (cA hw) J<|cl J (wW (l:=s.l)) J<|cl J (wW (l:=u.l)) J<|cl J (wR (p:=s.l.dir) (q:=u.l.dir) (i:=97) (j:=97)) J<|?_;refine cl J (nB (q:=s.l.dir.cross u.l.dir)) J<|?_;refine br J J J (fun hc32=>?_) (fun hc32=>?_)
  .
   refine cl J (T8 (l:=s.l) (m:=u.l) (GQ hc32)) J<|rf J J<|ap ((acc++[d8 s.l u.l]).map eZ) J (by rw[bY]<;>rfl) (aGg [d8 s.l u.l]) J<|?_;refine fE 44 3 J ?_;exact at_ ⟨acc++[d8 s.l u.l],k+1⟩ (by dsimp only;exact⟨⟨by rw[GK,AR hxl hwl,if_pos hc32,<-h1],by omega⟩,(by omega)⟩)
  .
   exact at_ ⟨acc,k+1⟩ (by dsimp only;exact⟨⟨by rw[GK,AR hxl hwl,if_neg hc32,<-h1,mM],by omega⟩,(by omega)⟩)
 .
  have hS:gh L=acc:=by unfold gh;rw[hLl,h1,show k=c.length by omega]
  refine gI 3 J ?_;exact rz J (by rw[<-hL,hS];rfl)
def RG{c:az}(hn:c.length<=100000):PF GB prog 107 [eC c] (vB (dE c)):=by
 have hml:(c.map eG).length=c.length:=aJ ..;refine fn (fu:=⟨10⟩) func107 J J ntmps107 J J (fun C=>?_);refine ak 6 (.d (vI (c.length:Nat))) J (by rw[hml]<;>rfl) ?_;refine gx J<|?_;refine lp (X:=Nat) (fun k=>[(7, .d (vI (k:Nat)))]) (fun k=>[]) (fun k=>(c.drop k).all (fun s:aP=>!s.v.nl&&!s.v.nh)=c.all (fun s:aP=>!s.v.nl&&!s.v.nh)/\k<=c.length) (fun k=>c.length-k) 0 J ⟨J,aN _⟩ (fun _=>J) (fun k hk=>?_);obtain⟨h1,h2⟩:=hk;refine br (fu2:=⟨9⟩) J J J (fun hc8=>?_) (fun hc8=>?_)
 .
  obtain⟨s,hx⟩: ∃u,c[k]? =some u:=⟨_,aQ (by omega)⟩;refine ix _ J (cA hx) J<|?_;refine ji 14 J J J (fun hg14=>?_) (fun hg14=>?_)
  .
   have hF:dE c=false:=by unfold dE;rw[<-h1,wV hx,hg14];simp
   exact rz J (by rw[hF];rfl)
  .
   refine bb J J J (fun hc18=>?_) (fun hc18=>?_)
   .
    have hF:dE c=false:=by unfold dE;rw[<-h1,wV hx,hc18];simp
    exact rz J (by rw[hF];rfl)
   .
    exact at_ (k+1) ⟨⟨by rw[<-h1,wV hx,hg14,hc18];rfl,by omega⟩,(by omega)⟩
 .
  have hT:dE c=decide ((0:Int)<(c.length:Nat)):=by unfold dE;rw[<-h1,fW (by omega)];cases c with|nil=>rfl|cons a b=>simp
  refine ak 21 (.d (vI (c.length:Nat))) J (by rw[hml]<;>rfl) ?_;refine gx J<|?_;exact rz J (by rw[hT];rfl)
def aGw{t:Tr}{cs:List az}(hc:cs=ce t)(hb:t.all LB)(ho:t.all ab.ok)(hd:t.depth<=1000)(hs:t.size<=900000):PF GB prog 57 [eU t] (vB (cs.all dE)):=by
 have hml:(cs.map eC).length=cs.length:=aJ ..;have hcl:=wA t;rw[<-hc] at hcl;have hcn:=vY hb ho;rw[<-hc] at hcn;refine fn func57 J J ntmps57 J J (fun C=>?_);refine cl (fu:=⟨0⟩) J (HO hb ho (by omega) hs) J<|?_;refine ak 6 (.d (.sl (cs.map eC))) J (by rw[hc]) ?_;refine gx (fu:=⟨1⟩) J<|?_;refine ak 7 (.d (vI (cs.length:Nat))) J (by rw[hml]<;>rfl) ?_;refine gx J<|?_;refine lp (X:=Nat) (fun k=>[(8, .d (vI (k:Nat)))]) (fun k=>[]) (fun k=>(cs.drop k).all dE=cs.all dE/\k<=cs.length) (fun k=>cs.length-k) 0 J ⟨J,aN _⟩ (fun _=>J) (fun k hk=>?_);obtain⟨h1,h2⟩:=hk;refine br J J J (fun hc9=>?_) (fun hc9=>?_)
 .
  obtain⟨c,hx⟩: ∃u,cs[k]? =some u:=⟨_,aQ (by omega)⟩;refine ix _ J (cA hx) J<|cl J (RG (c:=c) (by have:=hcn c (aV hx);omega)) J<|?_;refine bb J J J (fun hc14=>?_) (fun hc14=>?_)
  .
   have hF:cs.all dE=false:=by rw[<-h1,wV hx,show dE c=false by simpa using hc14];rfl
   exact rz J (by rw[hF];rfl)
  .
   exact at_ (k+1) ⟨⟨by rw[<-h1,wV hx,show dE c=true by simpa using hc14];rfl,by omega⟩,(by omega)⟩
 .
  have hT:cs.all dE=true:=by rw[<-h1,fW (by omega)];rfl
  exact rz J (by rw[hT];rfl)
def Gi{l m:ab}(h:crossI l m≠0){p:aa}(h1:l.value p=0)(h2:m.value p=0):p=d8 l m:=by
 rw[NC h];have hd:=PG h;rw[jf] at h1 h2;obtain⟨x,y⟩:=p;have e1:x*l.nor.cross m.nor=(l.b:Rat)*(m.c:Rat)-(l.c:Rat)*(m.b:Rat):=by unfold aa.cross ab.nor;grind
 have e2:y*l.nor.cross m.nor=(l.c:Rat)*(m.a:Rat)-(l.a:Rat)*(m.c:Rat):=by unfold aa.cross ab.nor;grind
 generalize l.nor.cross m.nor=d at*;simp only[aa.mk.injEq];constructor<;>grind
def u7{c:az}(hb:dE c=true):c≠[]/\ ∀s∈c,s.v.nl=false/\s.v.nh=false:=by
 unfold dE at hb;rw[bT,dK] at hb;refine⟨fun e=>by rw[e] at hb;simp at hb,fun s hs=>?_⟩;have:=hb.2 s hs;simpa using this
def Bv{c:az}(hc:bO c)(ha:lj c)(hb:dE c=true){i:Nat}{s w:aP}(hs:c[i]? =some s)(hw:c[(i+1)%c.length]? =some w):0<s.l.dir.cross w.l.dir/\d8 s.l w.l=s.l.at s.v.hi/\w.l.at w.v.lo=s.l.at s.v.hi:=by
 have he:=(u7 hb).2;have ms:=aV hs;have mw:=aV hw;have hn:ku (c.map fun s=>s.l.dir) s.l.dir w.l.dir:=MC ha (by rw[cK,hs];rfl) (by rw[aJ,cK,hw];rfl);obtain⟨h1,h2⟩:=TN hc ms mw hn (he s ms).2;have h3:=Yg hc ms mw hn h1 (he w mw).1;have hx:crossI s.l w.l≠0:=GQ ((lf _).2 h1);refine⟨h1,(Gi hx (mz (hc.ok s ms).ne _) h2).symm,?_⟩;rw[Gi hx h3 (mz (hc.ok w mw).ne _),Gi hx (mz (hc.ok s ms).ne _) h2]
def O1{α β:Type}(f:α->β): ∀l:List α,l.flatMap (fun x=>[f x])=l.map f
 |[]=>rfl
 |a::t=>by rw[kR,O1 f t];rfl
def Mj{α β:Type}{f g:α->List β}: ∀{l:List α},(∀x∈l,f x=g x)->l.flatMap f=l.flatMap g
 |[],_=>rfl
 |a::t,h=>by rw[kR,kR,h a aZ,Mj fun x hx=>h x (aK _ hx)]
def QI{c:az}(hc:bO c)(ha:lj c)(hb:dE c=true):gh (c.map (·.l))=c.map fun s=>s.l.at s.v.hi:=by
 unfold gh;rw[aJ];have h0: ∀i∈List.range c.length,ql (c.map (·.l)) i=[(c.map fun s=>s.l.at s.v.hi).getD i ⟨0,0⟩]:=fun i hi=>by
  have hi':=jS.1 hi;obtain⟨s,hs⟩: ∃s,c[i]? =some s:=⟨_,aQ hi'⟩;obtain⟨w,hw⟩: ∃w,c[(i+1)%c.length]? =some w:=⟨_,aQ (cS _ (by omega))⟩;obtain⟨h1,h2,h3⟩:=Bv hc ha hb hs hw;rw[AR (l:=s.l) (m:=w.l) (by rw[cK,hs];rfl) (by rw[aJ,cK,hw];rfl),if_pos ((lf _).2 h1),h2,aX,cK,hs];rfl
 rw[Mj h0,O1];refine List.ext_getElem (by simp) fun i h1 h2=>?_;rw[lK,List.getElem_range,aX,aQ (by simpa using h2)];rfl
def Tv{c:az}(hc:bO c)(ha:lj c)(hb:dE c=true):0<c.length:=by
 have:=(u7 hb).1
 cases c with
 |nil=>exact absurd J this
 |cons a t=>simp
def b7{α:Type}(f:α->Rat):List α->Rat
 |[]=>0
 |a::t=>f a+b7 f t
def Dn{α:Type}(f:α->Rat): ∀(l m:List α),b7 f (l++m)=b7 f l+b7 f m
 |[],m=>by rw[kL,b7];grind
 |a::t,m=>by rw[jK,b7,b7,Dn f t m];grind
def yo{α:Type}{f g:α->Rat}: ∀{l:List α},(∀x∈l,f x=g x)->b7 f l=b7 g l
 |[],_=>rfl
 |a::t,h=>by rw[b7,b7,h a aZ,yo fun x hx=>h x (aK _ hx)]
def D7{α β:Type}(f:β->Rat)(g:α->β): ∀l:List α,b7 f (l.map g)=b7 (fun x=>f (g x)) l
 |[]=>rfl
 |a::t=>by rw[cV,b7,b7,D7 f g t]
def H0{α β:Type}(f:β->Rat)(g:α->List β): ∀l:List α,b7 f (l.flatMap g)=b7 (fun x=>b7 f (g x)) l
 |[]=>rfl
 |a::t=>by rw[kR,Dn,b7,H0 f g t]
def B7{α:Type}(k:Rat)(f:α->Rat): ∀l:List α,b7 (fun x=>k*f x) l=k*b7 f l
 |[]=>by simp only[b7];grind
 |a::t=>by rw[b7,b7,B7 k f t];grind
def Ab(f:aa->aa->Rat)(v:List aa):Rat:=b7 (fun i=>f (v.getD i ⟨0,0⟩) (v.getD ((i+1)%v.length) ⟨0,0⟩)) (List.range v.length)
def aKM(c:az):Rat:=b7 (fun s=>(s.v.hi-s.v.lo)*(s.l.c:Rat)) c
def vi(t:Tr):Prop:= ∃(L:List ab) (R:Rat),(∀l∈L,l.ok)/\ ∀p,fk L p->vC R p->t.val p=false
def vC.mono{R S:Rat}{p:aa}(h:vC S p)(hr:R<=S):vC R p:=by
 unfold vC at*;rcases h with h|h|h|h
 .left;grind
 .right;left;grind
 .right;right;left;grind
 .right;right;right;grind
def axm(fill:Int):ur fill 0=false:=by
 unfold ur;simp
def aCF{rs:List (List ZP)}{fill:Int}(hr: ∀r∈rs,d7 r){p:aa}(hp:vC 100 p):l6 rs fill p=false:=by
 have key: ∀(rs:List (List ZP)),(∀r∈rs,d7 r)->rs.foldl (fun n r=>n+ly r p) (0:Int)=0:=by
  intro rs
  induction rs with
  |nil=>intro _;rfl
  |cons r t ih=>
   intro hr;have e:ly r p=0:=by
    unfold ly;rw[D1];refine Uq (R:=100) (fun v hv=>?_) hp;obtain⟨h1,h2⟩:=(hr r aZ).le v hv;have c: ∀z:Int,z.natAbs<=100-> -(100:Rat)<=(z:Rat)/\(z:Rat)<=100:=fun z hz=>by
     have a:((-100:Int):Rat)<=(z:Rat):=Rat.intCast_le_intCast.2 (by omega);have b:(z:Rat)<=((100:Int):Rat):=Rat.intCast_le_intCast.2 (by omega);exact⟨a,b⟩
    exact⟨(c _ h1).1,(c _ h1).2,(c _ h2).1,(c _ h2).2⟩
   rw[kV,e];exact ih fun r h=>hr r (aK _ h)
 unfold l6;rw[key rs hr,axm]
def Yr{rs:List (List ZP)}{fill:Int}(hr: ∀r∈rs,d7 r):(wD rs fill).all ab.ok:=wn fun f hf=>((tO hr).2 f hf).ok
def Jm{rs:List (List ZP)}{fill:Int}(hr: ∀r∈rs,d7 r):vi (l7 rs fill):=
 ⟨(wD rs fill).lns,100,pg (Yr hr),fun p ho hp=>by rw[at0 hr ho,aCF hr hp]⟩
def Wi(op:Int):Aj op false false=false:=by
 unfold Aj;split
 .rfl
 .split
  .rfl
  .split<;>rfl
def vi.merge{a b:Tr}(ha:vi a)(hb:vi b)(oa:a.all ab.ok)(ob:b.all ab.ok)(op:Int):vi (a.mergeQ op b []):=by
 obtain⟨L,R,h1,h2⟩:=ha;obtain⟨M,S,k1,k2⟩:=hb;refine⟨(L++M)++(a.lns++b.lns),if R<=S then S else R,fun l hl=>?_,fun p ho hp=>?_⟩
 .rcases bK.1 hl with h|h
  .exact(bK.1 h).elim (h1 l) (k1 l)
  .exact(bK.1 h).elim (pg oa l) (pg ob l)
 .obtain⟨o1,o2⟩:=fk.app.1 ho
  obtain⟨oL,oM⟩:=fk.app.1 o1;obtain⟨oA,oB⟩:=fk.app.1 o2;rw[Tr.val_merge op b ob a [] p oa bO.nil (fun s hs=>by cases hs) oA oB,h2 p oL (hp.mono (by split<;>grind)),k2 p oM (hp.mono (by split<;>grind)),Wi]
def aD7{A:Rat}(hA:A≠0)(B:Rat): ∃N:Rat,0<=N/\ ∀n,N<=n->A+n*B≠0:=by
 by_cases hB:B=0
 .exact⟨0,by decide,fun n _=>by rw[hB];grind⟩
 .have e:A/B*B=A:=by grind
  generalize A/B=q at*;refine⟨if 0<= -q then-q+1 else 0,by split<;>grind,fun n hn h=>?_⟩;have h2:B*(q+n)=0:=by grind
  rcases gV.1 h2 with k|k
  .exact hB k
  .split at hn<;>grind
def aDJ{L:List ab}{p d:aa}(h:fk L p): ∃N:Rat,0<=N/\ ∀n,N<=n->fk L (bP p d n):=by
 induction L with
 |nil=>exact⟨0,by decide,fun n _ l hl=>by cases hl⟩
 |cons l L ih=>
  obtain⟨N,n0,hN⟩:=ih (h.sub fun m hm=>aK _ hm);obtain⟨M,m0,hM⟩:=aD7 (h l aZ) (l.nor.dot d);refine⟨N+M,by grind,fun n hn m hm=>?_⟩;rcases aT.1 hm with rfl|hm
  .rw[gH];exact hM n (by grind)
  .exact hN n (by grind) m hm
def DI{a:Rat}(ha:0<a)(x R:Rat): ∃N:Rat,0<=N/\ ∀n,N<=n->R<x+n*a:=by
 have e:(R-x)/a*a=R-x:=by grind
 generalize (R-x)/a=q at*;refine⟨if 0<=q then q+1 else 0,by split<;>grind,fun n hn=>?_⟩;have h2:=bH (show 0<n-q by split at hn<;>grind) ha;grind
def W1{p d:aa}(hd:d≠⟨0,0⟩)(R:Rat): ∃N:Rat,0<=N/\ ∀n,N<=n->vC R (bP p d n):=by
 obtain⟨x,y⟩:=d;rcases ge x with h|h|h
 .rcases ge y with k|k|k
  .exact absurd (by rw[h,k]) hd
  .obtain⟨N,n0,hN⟩:=DI k p.y R
   exact⟨N,n0,fun n hn=> .inr (.inr (.inr (hN n hn)))⟩
  .obtain⟨N,n0,hN⟩:=DI (a:= -y) (by grind) (-p.y) R
   exact⟨N,n0,fun n hn=> .inr (.inr (.inl (by have:=hN n hn;show p.y+n*y< -R;grind)))⟩
 .obtain⟨N,n0,hN⟩:=DI h p.x R
  exact⟨N,n0,fun n hn=> .inr (.inl (hN n hn))⟩
 .obtain⟨N,n0,hN⟩:=DI (a:= -x) (by grind) (-p.x) R
  exact⟨N,n0,fun n hn=> .inl (by have:=hN n hn;show p.x+n*x< -R;grind)⟩
def azo{c:az}(hc:bO c)(h:dE c=false): ∃d:aa,d≠⟨0,0⟩/\ ∀u∈c,0<=u.l.nor.dot d:=by
 unfold dE at h
 cases c with
 |nil=>exact⟨⟨1,0⟩,by simp,fun u hu=>by cases hu⟩
 |cons s0 c0=>
  have h':((s0::c0).all fun s=>!s.v.nl&&!s.v.nh)=false:=by simpa using h
  rw[List.all_eq_false] at h';obtain⟨s,hs,hv⟩:=h';have hne:s.l.dir≠⟨0,0⟩:=fun e=>vK (hc.ok s hs) (by rw[e];decide)
  cases nh:s.v.nh with
  |true=>exact⟨s.l.dir,hne,Wb hc hs nh⟩
  |false=>
   have nl:s.v.nl=true:=by simpa[nh] using hv
   refine⟨bE s.l.dir,fun e=>hne ?_,fun u hu=>?_⟩
   .unfold bE at e
    generalize s.l.dir=d at*;obtain⟨x,y⟩:=d;simp only[aa.mk.injEq] at*;constructor<;>grind
   .have:=V3 hc hs nl u hu
    unfold bE aa.dot at*;grind
def PU{t:Tr}(ht:t.all ab.ok)(hb:vi t):(ce t).all dE=true:=by
 rw[dK];intro c hc;obtain⟨hg,hv⟩:=yL ht bO.nil (vr.1 hc)
 cases hq:dE c with
 |true=>rfl
 |false=>
  exfalso;obtain⟨L,R,h1,h2⟩:=hb;obtain⟨d,d0,hd⟩:=azo hg hq;obtain⟨p,hp,ho⟩:=Ql hg L h1;obtain⟨N,n0,hN⟩:=aDJ (d:=d) ho;obtain⟨M,m0,hM⟩:=W1 (p:=p) d0 R;have hin:bm c (bP p d (N+M)):=fun s hs=>by
   rw[gH];have a:=hp s hs;have b:=cO (show 0<=N+M by grind) (hd s hs);grind
  have:=(hv _ hin).2;rw[h2 _ (hN _ (by grind)) (hM _ (by grind))] at this
  cases this
def DX{rs:List (List ZP)}{fill:Int}(h: ∀r∈rs,d7 r)(hn:rs.length<=2:=by decide):jj 12 (l7 rs fill):=by
 obtain⟨h1,h2⟩:=tO h;exact((Gm h2 J).restrict []).mono (by omega)
def Es{es:List Int}{a:Nat}(ha:a<=es.length):jj 12 (j0 es a).1/\vi (j0 es a).1:=by
 obtain⟨r1,r2⟩:=yi ha;have h3:=gG (n:=3) r2;unfold j0;dsimp only;split
 .obtain⟨s1,s2⟩:=yi h3
  have hr: ∀r∈[(fI es a).1,(fI es (av es 3 (fI es a).2).2).1],d7 r:=fun r hr=>by simp only[aT,kQ,or_false] at hr;rcases hr with rfl|rfl;exact r1;exact s1
  exact⟨DX hr (by simp),Jm hr⟩
 .have hr: ∀r∈[(fI es a).1],d7 r:=fun r hr=>by simp only[aT,kQ,or_false] at hr;subst hr;exact r1
  exact⟨DX hr (by simp),Jm hr⟩
def eD(es:List Int):Nat->Nat->Tr×Nat
 |0,a=>j0 es a
 |d+1,a=>
  let k:=av es 3 a
  if(k.1:Int)=0 then
   let x:=eD es d k.2
   let o:=av es 4 x.2
   let y:=eD es d o.2
   (x.1.mergeQ (1+(o.1:Int)) y.1 [],y.2)
  else j0 es k.2
def zq{es:List Int}: ∀{d a:Nat},a<=es.length->jj (12*2^d) (eD es d a).1/\vi (eD es d a).1/\(eD es d a).1.Red []/\(eD es d a).2<=es.length
 |0,a,ha=>⟨(Es ha).1,(Es ha).2,Qr es a,(Pd ha).2⟩
 |d+1,a,ha=>by
  have h0:=gG (n:=3) ha;rw[eD]
  try dsimp only
  split
  .obtain⟨x1,x2,x3,x4⟩:=zq (d:=d) h0
   have h1:=gG (n:=4) x4;obtain⟨y1,y2,y3,y4⟩:=zq (d:=d) h1;refine⟨?_,x2.merge y2 x1.gd.ok y1.gd.ok _,Tr.merge_red _ _ _ _,y4⟩;have:=x1.merge (op:=1+((av es 4 (eD es d (av es 3 a).2).2).1:Int)) y1;exact this.mono (by rw[fL];omega)
  .refine⟨(Es h0).1.mono ?_,(Es h0).2,Qr _ _,(Pd h0).2⟩
   have:1<=2^(d+1):=Nat.one_le_two_pow;omega
def aFd{es:List Int}{d a:Nat}(ha:a<=es.length)(hd:d<=2):ie 48 (eD es d a).1/\(ce (eD es d a).1).all dE=true/\(eD es d a).2<=es.length/\(eD es d a).1.restrict []=(eD es d a).1:=by
 obtain⟨h1,h2,h3,h4⟩:=zq (d:=d) ha;have h5:2^d<=2^2:=bU (by decide) hd;have hx:ie 48 (eD es d a).1:=(h1.mono (by omega)).x h3 (by decide);exact⟨hx,PU hx.ok h2,h4,Tr.red_restrict h3⟩
def Ny{c:az}(hc:bO c)(hb:dE c=true){s:aP}(hs:s∈c):s.v.lo<s.v.hi:=by
 have h:=(hc.edge s hs).1;obtain⟨a,b⟩:=(u7 hb).2 s hs;unfold aj.Pos at h;rw[a,b] at h;rcases h with h|h|h
 .cases h
 .cases h
 .exact h
def aLx(f:aa->aa->Rat):Prop:= ∀(l:ab) (a b c:Rat),l.Ne->f (l.at a) (l.at c)=f (l.at a) (l.at b)+f (l.at b) (l.at c)
def sdF(f:aa->aa->Rat)(s:aP):Rat:=f (s.l.at s.v.lo) (s.l.at s.v.hi)
def muC(f:aa->aa->Rat)(c:az):Rat:=Ab f (gh (c.map (·.l)))
def muT(f:aa->aa->Rat)(t:Tr)(c:az):Rat:=b7 (fun x:Bool×az=>if x.1 then muC f x.2 else 0) (t.parts c)
def muG(f:aa->aa->Rat)(t:Tr)(c:az)(l:ab):Rat:=if di c l then muT f t (b8 c l) else 0
def aL5(t:Tr)(c:az):Prop:= ∀x∈t.parts c,x.1=true->dE x.2=true
def jc(v:List aa):List (aa×aa):=(List.range v.length).map fun i=>(v.getD i ⟨0,0⟩,v.getD ((i+1)%v.length) ⟨0,0⟩)
def gr(cs:List (List ab)):List (aa×aa):=cs.flatMap fun c=>jc (gh c)
def fi(cs:List az):List (List ab):=cs.map fun c=>c.map (·.l)
def BE(x:aa×aa):List DV:=[CZ x.1 x.2,eF (x.1.cross x.2)]
def O0{α β:Type}(f:α->List β): ∀{l:List α} {k:Nat} {x:α} {i:Nat} {y:β},l[k]? =some x->(f x)[i]? =some y->(l.flatMap f)[((l.take k).flatMap f).length+i]? =some y
 |z::t,0,x,i,y,h,e=>by
  cases h
  simp only[rR,List.flatMap_nil,fV,eK,kR];rw[cN (aY.1 e).1];exact e
 |z::t,k+1,x,i,y,h,e=>by
  simp only[mN,kR,aW];rw[gQ (by omega)];rw[show(f z).length+((t.take k).flatMap f).length+i-(f z).length=((t.take k).flatMap f).length+i by omega];exact O0 f (by simpa using h) e
def VV{α β:Type}(f:α->List β){l:List α}{k:Nat}{x:α}(h:l[k]? =some x):((l.take (k+1)).flatMap f).length=((l.take k).flatMap f).length+(f x).length:=by
 have:l.take (k+1)=l.take k++[x]:=by rw[eY,h];rfl
 rw[this,lL,aW];simp
def OH(v:List aa){i:Nat}{p q:aa}(h1:v[i]? =some p)(h2:v[(i+1)%v.length]? =some q):(jc v)[i]? =some (p,q):=by
 have hi:=(aY.1 h1).1;unfold jc;rw[cK,oS hi,jX,aX,aX,h1,h2];rfl
def Fd(v:List aa):(jc v).length=v.length:=by unfold jc;simp
def W6{cs:List az}{b:Nat}(hb: ∀c∈cs,∀s∈c,LB s.l)(hn: ∀c∈cs,c.length<=100000)(hl:cs.length<=1000000)(hpt: ∀x∈gr (fi cs),aC x.1 b/\aC x.2 b)(hb4:b<=40000000):It GB prog 135 [.pt [.sl (cs.map eC)]] ((gr (fi cs)).map BE):=by
 have hml:(cs.map eC).length=cs.length:=aJ ..;refine Pf func135 J J ntmps135 J (fun _=>J) (fun l Jv Jx GB' hg H C hp hJ=>?_);obtain⟨n0,hn0⟩: ∃n0:Nat->Nat,n0=fun k=>(((fi cs).take k).flatMap fun c=>jc (gh c)).length:=⟨_,rfl⟩;refine SI 1 J<|gx J<|?_;refine ak 10 (.d (vI (cs.length:Nat))) J (by rw[hml]<;>rfl) ?_;refine JH (X:=Nat) (fun k=>[(0, .d (.v (.func (.yield l) #[] #[]))),(9, .d (.sl (cs.map eC))),(10, .d (vI (cs.length:Nat))),(11, .d (vI (k:Nat)))]) (fun k C=>k<=cs.length/\Jv (n0 k) C.G0 C.w0) (fun k=>cs.length-k) 0 hp ⟨aN _,by rw[hn0];exact hJ⟩ (fun _=>J) (fun k C1 hp1 hk=>?_);obtain⟨hk1,hJ1⟩:=hk;refine br J J J (fun hc12=>?_) (fun hc12=>?_)
 .obtain⟨c,hx⟩: ∃u,cs[k]? =some u:=⟨_,aQ (by omega)⟩
  have hcm:=aV hx;have hxl:(fi cs)[k]? =some (c.map (·.l)):=by unfold fi;rw[cK,hx];rfl
  refine ix _ J (cA hx) J<|cl J (Lj (c:=c) (hb c hcm) (hn c hcm)) J<|?_;obtain⟨V,hV⟩: ∃V,V=gh (c.map (·.l)):=⟨_,rfl⟩;rw[<-hV];have hVl:(V.map eZ).length=V.length:=aJ ..;have hVs:V.length<=100000:=by
   have:=CW (c.map (·.l)) (c.map (·.l)).length;have h2:V.length<=(c.map (·.l)).length:=by rw[hV];exact this
   rw[aJ] at h2;exact cY h2 (hn c hcm)
  refine ak 18 (.d (vI (V.length:Nat))) J (by rw[hVl]<;>rfl) ?_;refine JH (X:=Nat) (fun i=>[(0, .d (.v (.func (.yield l) #[] #[]))),(9, .d (.sl (cs.map eC))),(10, .d (vI (cs.length:Nat))),(11, .d (vI (k:Nat))),(5, .d (.sl (V.map eZ))),(17, .d (.sl (V.map eZ))),(18, .d (vI (V.length:Nat))),(19, .d (vI (i:Nat)))]) (fun i C=>i<=V.length/\Jv (n0 k+i) C.G0 C.w0) (fun i=>V.length-i) 0 hp1 ⟨aN _,hJ1⟩ (fun _=>J) (fun i C2 hp2 hi=>?_);obtain⟨hi1,hJ2⟩:=hi;refine br J J J (fun hc20=>?_) (fun hc20=>?_)
  .obtain⟨p,hpx⟩: ∃u,V[i]? =some u:=⟨_,aQ (by omega)⟩
   obtain⟨q,hqx⟩: ∃u,V[(i+1)%V.length]? =some u:=⟨_,aQ (cS _ (by omega))⟩;have hpair:(gr (fi cs))[n0 k+i]? =some (p,q):=by
    rw[hn0];exact O0 (fun c=>jc (gh c)) hxl (by rw[<-hV];exact OH V hpx hqx)
   have hpq:=hpt _ (aV hpair);haveI:=hpq.1;haveI:=hpq.2;refine ix _ J (cA hpx) J<|?_;refine ak 29 (.d (vI (((i+1)%V.length:Nat):Int))) J (by rw[hVl]<;>rfl) ?_;refine gx J<|ix _ J (cA hqx) J<|QD (len:=2) (s:=6) (e:=92) J (by kernel_rfl) (by kernel_rfl) J<|cl J (wR (p:=p) (q:=q) (i:=b) (j:=b) hb4 hb4) J<|?_;refine Ly (by kernel_rfl) J ?_;refine cy [(0, .d (.v (.func (.yield l) #[] #[]))),(9, .d (.sl (cs.map eC))),(10, .d (vI (cs.length:Nat))),(11, .d (vI (k:Nat))),(5, .d (.sl (V.map eZ))),(17, .d (.sl (V.map eZ))),(18, .d (vI (V.length:Nat))),(19, .d (vI (i:Nat)))] H hp2 hJ2 J (by rw[cK,hpair];rfl) J (by repeat (first|exact trivial|refine And.intro J ?_)) J J J (fun C3 hp3 hJ3=>?_) (fun C3 hp3 hJ3=>?_)
   .exact H5 (i+1) hp3 ⟨⟨by omega,hJ3⟩,by omega⟩
   .exact Dj H hp3 (.inr hJ3) J
  .have hi2:i=V.length:=by omega
   refine H5 (k+1) hp2 ⟨⟨by omega,?_⟩,by omega⟩;have e:n0 (k+1)=n0 k+i:=by
    rw[hn0];show _=_+i;rw[hi2];have:=VV (fun c=>jc (gh c)) hxl;rw[<-hV,Fd] at this;exact this
   rw[e];exact hJ2
 .refine Dj H hp1 (.inl ?_) J
  rw[aJ];have e:n0 k=(gr (fi cs)).length:=by
   rw[hn0];show((List.take k (fi cs)).flatMap _).length=_;rw[aS (by unfold fi;rw[aJ];omega)];rfl
  rw[<-e];exact hJ1
def aDr{cs:List az}:CV GB prog 76 [.sl (cs.map eC)] 135 (.pt [.sl (cs.map eC)]):=by
 refine NB func76 J J ntmps76 J J (fun C=>?_);refine fz 1 J J ?_;refine Mi 1 J (fun GB' pv hg hp=>?_);refine Ky J J ?_;exact RD J J hp

def eCl(x:List ab×Bool):DV:= .ag [.sl (x.1.map eL),vB x.2]
def eSd(c:List ab):DV:= .sl (c.map eL)
def ET(ps:List (List ab×Bool)):List (List ab):=(ps.filter (·.2)).map (·.1)
def eRp(v:List aa):DV:= .sl (v.map eP)
structure yz (GB:Gh) (ai al ae au:Addr):Prop extends EG GB ai al ae where
 ErrUnbounded:GB 2=some [.iface 378 (.pointer (some au))]
def SG{α:Type}{f:α->DV}{l:List α}{s:α}(h:l[0]? =some s):(l.map f)[(0:Int).toNat]? =some (f s):=by simp[h]
def gl(c:az):List (List aa):=rA (gh (c.map (·.l)))
def Fq(c:List ab):(gh c).length<=c.length:=CW c _
def P7{v:List aa}{i:Nat}{a b d:aa}(h0:v[0]? =some a)(h1:v[i+1]? =some b)(h2:v[i+2]? =some d):pC v i=[a,b,d]:=by
 unfold pC;rw[aX,aX,aX,h0,h1,h2];rfl
theorem HV{c:List ab}(hb: ∀l∈c,LB l): ∀p∈gh c,aC p 1200:=fun p hp=>by
 obtain⟨l,hl,m,hm,rfl⟩:=ZD hp;have:= @aC.imeet l m (hb l hl) (hb m hm);exact⟨this.x.mono (by decide),this.y.mono (by decide)⟩
def QS{v r:List aa}(h:r∈rA v): ∀p∈r,p∈v:=fun p hp=>by
 obtain⟨i,hi,rfl⟩:=bQ.1 h;have hi':=jS.1 hi;have e:pC v i=_:=P7 (aQ (show 0<v.length by omega)) (aQ (show i+1<v.length by omega)) (aQ (show i+2<v.length by omega));rw[e] at hp;simp only[aT,kQ,or_false] at hp;rcases hp with rfl|rfl|rfl<;>exact bL _
def aFI{ai al ae au:Addr}(hE:yz GB ai al ae au){k0:Nat}{t:Tr}(h:ie k0 t)(hk0:k0<=900)(hr:t.restrict []=t)(hbd:(ce t).all dE=true):PF GB prog 22 [eA t] (.tp [.sl (((ce t).flatMap gl).map l9), .v .nilIface]):=by
 have hts:=h.s;have htd:=h.dp;obtain⟨cs,hcs⟩: ∃cs,cs=ce t:=⟨_,rfl⟩;have hcl:=wA t;have hcn:=vY h.lb h.ok;have hlb:=Ax h.lb h.ok;rw[<-hcs] at hcl hcn hlb hbd;have hml:(cs.map eC).length=cs.length:=aJ ..;refine fn func22 J J ntmps22 J J (fun C=>?_);refine cl (fu:=⟨12⟩) J (Hm h) J<|?_;refine lG 17 J ?_;refine gx J<|cl (fu:=⟨0⟩) J (C0 (t:=t) (by omega)) J<|ck J (by show some (decide _)=some false;rw[decide_eq_false (by omega)]) J<|cl (fu:=⟨0⟩) J (ayD (t:=t) h.lb h.ok (by omega)) J<|?_;refine ak 26 (.d (eU t)) J (by rw[hr]) ?_;refine gx J<|cl (fu:=⟨0⟩) J (aGw (t:=t) hcs h.lb h.ok (by omega) (by omega)) J<|ck J (by show some _=some false;rw[hbd];rfl) J<|cl (fu:=⟨0⟩) J (HO h.lb h.ok) J<|?_;refine ak 32 (.d (.sl (cs.map eC))) J (by rw[hcs]) ?_;refine gx (fu:=⟨1⟩) J<|?_;refine ak 33 (.d (vI (cs.length:Nat))) J (by rw[hml]<;>rfl) ?_;refine gx J<|?_;refine nr 6 6 76 1 J J J ?_;refine lp (X:=List (List aa)×Nat) (fun⟨acc,k⟩=>[(34, .d (vI (k:Nat))),(6, .rw 6)]) (fun⟨acc,k⟩=>[(6,some (.b 76 1 (acc.map l9) true))]) (fun⟨acc,k⟩=>acc=(cs.take k).flatMap gl/\k<=cs.length/\acc.length<=1000*k) (fun⟨acc,k⟩=>cs.length-k) ⟨[],0⟩ J ⟨J,aN _,aN _⟩ (fun _=>J) (fun⟨acc,k⟩ hk=>?_)
 try dsimp only at hk⊢
 obtain⟨h1,h2,h3⟩:=hk;refine br J J J (fun hc35=>?_) (fun hc35=>?_)
 .
  obtain⟨c,hx⟩: ∃u,cs[k]? =some u:=⟨_,aQ (by omega)⟩;have hcm:=aV hx;have hcn1:=hcn c hcm;obtain⟨v,hv⟩: ∃v,v=gh (c.map (·.l)):=⟨_,rfl⟩;have hvl:=Fq (c.map (·.l));rw[<-hv,aJ] at hvl;have hvm:(v.map eZ).length=v.length:=aJ ..;refine ix _ J (cA hx) J<|cl (fu:=⟨0⟩) J (Lj (c:=c) (hlb c hcm) (by omega)) J<|?_;refine ak 39 (.d (.sl (v.map eZ))) J (by rw[hv]) ?_;refine gx (fu:=⟨7⟩) J<|?_;refine ak 41 (.d (vI (v.length:Nat))) J (by rw[hvm]<;>rfl) ?_;refine gx J<|?_;refine lp (X:=List (List aa)×Nat) (fun⟨acc2,i⟩=>[(43, .d (vI (i:Nat))),(6, .rw 6)]) (fun⟨acc2,i⟩=>[(6,some (.b 76 1 (acc2.map l9) true))]) (fun⟨acc2,i⟩=>acc2=acc++(List.range i).map (pC v)/\i<=v.length-2/\acc2.length<=1000*k+i) (fun⟨acc2,i⟩=>v.length-i) ⟨acc,0⟩ J ⟨by simp,aN _,h3⟩ (fun _=>J) (fun⟨acc2,i⟩ hk=>?_)
  try dsimp only at hk⊢
  obtain⟨g1,g2,g3⟩:=hk;have ham:(acc2.map l9).length=acc2.length:=aJ ..;refine br J J J (fun hc44=>?_) (fun hc44=>?_)
  .
   obtain⟨p0,h0⟩: ∃u,v[0]? =some u:=⟨_,aQ (by omega)⟩;obtain⟨p1,e1⟩: ∃u,v[i+1]? =some u:=⟨_,aQ (by omega)⟩;obtain⟨p2,e2⟩: ∃u,v[i+2]? =some u:=⟨_,aQ (by omega)⟩;refine ix (fu:=⟨4⟩) _ J (SG h0) J<|?_;refine ak 52 (.d (vI ((i+1:Nat):Int))) J J ?_;refine gx J<|ix (fu:=⟨4⟩) _ J (cA e1) J<|?_;refine ak 57 (.d (vI ((i+2:Nat):Int))) J J ?_;refine gx J<|ix _ J (cA e2) J<|rf J J<|rf J J<|ap (hv:=by simp only[ah];exact⟨by kernel_rfl,by omega⟩) ((acc2++[[p0,p1,p2]]).map l9) J (by rw[bY]<;>rfl) (Sf [[p0,p1,p2]]) J<|?_;refine fE 62 6 J ?_;exact at_ ⟨acc2++[[p0,p1,p2]],i+1⟩ (by dsimp only;exact⟨⟨by rw[YR,<-gX,<-g1,P7 h0 e1 e2],by omega,by rw[aW,gU];omega⟩,(by omega)⟩)
  .
   have hA:acc2=acc++rA v:=by rw[g1];unfold rA;rw[show i=v.length-2 by omega]
   exact at_ ⟨acc2,k+1⟩ (by dsimp only;exact⟨⟨by rw[hA,eY,hx,lL,<-h1];simp[gl,<-hv],by omega,by omega⟩,(by omega)⟩)
 .
  have hS:(ce t).flatMap gl=acc:=by rw[h1,aS (by omega),hcs]
  refine gI 6 J ?_;exact rz J (by rw[hS];rfl)
def WS{v:List aa}(hb: ∀p∈v,aC p 1200)(hn:v.length<=1000000):PF GB prog 23 [l9 v] (pz v):=by
 have hml:(v.map eZ).length=v.length:=aJ ..;refine fn (fu:=⟨15⟩) func23 J J ntmps23 J J (fun C=>?_);refine ak 7 (.d (vI (v.length:Nat))) J (by rw[hml]<;>rfl) ?_;refine gx J<|?_;refine nr 3 3 38 6 J J J ?_;refine lp (X:=Nat) (fun k=>[(8, .d (vI (k:Nat))),(3, .rw 3)]) (fun k=>[(3,some (.b 38 6 ((v.take k).map jr) true))]) (fun k=>k<=v.length) (fun k=>v.length-k) 0 J (aN _) (fun _=>J) (fun k hk=>?_);have ham:((v.take k).map jr).length=k:=by rw[aJ,cJ];omega
 refine br J J J (fun hc9=>?_) (fun hc9=>?_)
 .
  obtain⟨p,hx⟩: ∃u,v[k]? =some u:=⟨_,aQ (by omega)⟩;haveI:=hb p (aV hx);refine ix _ J (cA hx) J<|cl J (aDZ (p:=p) (i:=1200)) J<|rf J J<|ap ((v.take (k+1)).map jr) J (by rw[eY,hx,bY]<;>rfl) (SS [p]) J<|?_;refine fE 16 3 J ?_;exact at_ (k+1) ⟨(by omega),(by omega)⟩
 .
  have hS:v.take k=v:=aS (by omega);refine gI 3 J ?_;exact rz J (by rw[hS];rfl)
def SW{ai al ae au:Addr}(hE:yz GB ai al ae au){k0:Nat}{t:Tr}(h:ie k0 t)(hk0:k0<=900)(hr:t.restrict []=t)(hbd:(ce t).all dE=true){ts:List (List aa)}(hts:ts=(ce t).flatMap gl)(hb: ∀r∈ts,(∀p∈r,aC p 1200)/\r.length<=1000)(hn:ts.length<=100000000):PF GB prog 9 [eA t] (.tp [.sl (ts.map pz), .v .nilIface]):=by
 have hml:(ts.map l9).length=ts.length:=aJ ..;refine fn func9 J J ntmps9 J J (fun C=>?_);refine cl (fu:=⟨0⟩) J (aFI hE h hk0 hr hbd) J<|?_;refine ak 11 (.d (.tp [.sl (ts.map l9), .v .nilIface])) J (by rw[hts]) ?_;refine gx (fu:=⟨27⟩) J<|?_;refine ak 18 (.d (vI (ts.length:Nat))) J (by rw[hml]<;>rfl) ?_;refine gx J<|?_;refine nr 6 6 78 1 J J J ?_;refine lp (X:=Nat) (fun k=>[(19, .d (vI (k:Nat))),(6, .rw 6)]) (fun k=>[(6,some (.b 78 1 ((ts.take k).map pz) true))]) (fun k=>k<=ts.length) (fun k=>ts.length-k) 0 J (aN _) (fun _=>J) (fun k hk=>?_);have ham:((ts.take k).map pz).length=k:=by rw[aJ,cJ];omega
 refine br J J J (fun hc20=>?_) (fun hc20=>?_)
 .
  obtain⟨r,hx⟩: ∃u,ts[k]? =some u:=⟨_,aQ (by omega)⟩;have hrb:=hb r (aV hx);refine ix _ J (cA hx) J<|cl J (WS (v:=r) hrb.1 (by omega)) J<|rf J J<|ap ((ts.take (k+1)).map pz) J (by rw[eY,hx,bY]<;>rfl) (YX [r]) J<|?_;refine fE 27 6 J ?_;exact at_ (k+1) ⟨(by omega),(by omega)⟩
 .
  have hS:ts.take k=ts:=aS (by omega);refine gI 6 J ?_;exact rz J (by rw[hS];rfl)
def Uz{p q:Rat}{i j:Nat}[hp:BQ p i][hq:BQ q j](hi:i<=100000000:=by decide):PF GB prog 15 [eR p,eR q] (vB (decide (p=q))):=by
 refine fn func15 J J ntmps15 J J (fun C=>?_);refine cl J (aD1 (a:=p.num) (b:=q.num) (i:=i) (j:=j) (by omega)) J<|?_;refine csd 10 J J J (fun hg10=>?_) (fun hg10=>?_)
 .
  refine cl J (P0 (a:=p.den) (b:=q.den) (i:=i) (j:=j) (by omega)) J<|?_;exact rz J (by rw[show decide (p=q)=decide (p.den=q.den) from decide_eq_decide.2 ⟨fun e=>by rw[e],fun e=>Rat.ext hg10 e⟩]<;>rfl)
 .
  exact rz J (by rw[decide_eq_false (fun e:p=q=>hg10 (by rw[e]))]<;>rfl)
def aur{t:Tr}(h:t.all ab.ok):ET (om t [])=(ce t).map fun c=>c.map (·.l):=aGk h
def XF{t:Tr}(h:t.all ab.ok):Db (ET (om t []))=(ce t).flatMap gl:=by
 rw[aur h];unfold Db;rw[List.flatMap_map];rfl
def Na(c:az):(gl c).length<=c.length:=by
 unfold gl rA;rw[aJ,lR];have:=Fq (c.map (·.l));rw[aJ] at this;omega
def Cb{α β:Type}{f:α->List β}{k:Nat}: ∀{l:List α},(∀x∈l,(f x).length<=k)->(l.flatMap f).length<=l.length*k
 |[],_=>by simp
 |a::t,h=>by
  have h1:=h a aZ;have h2:=Cb (f:=f) fun x hx=>h x (aK a hx);rw[kR,aW,bJ,iM];omega
def LA{k0:Nat}{t:Tr}(h:ie k0 t)(hk0:k0<=900:=by decide):((ce t).flatMap gl).length<=2700900/\ ∀r∈(ce t).flatMap gl,(∀p∈r,aC p 1200)/\r.length=3:=by
 refine⟨?_,fun r hr=>?_⟩
 .have h1:=Cb (f:=gl) (k:=900) (l:=ce t) fun c hc=>cY (Na c) (cY (vY h.lb h.ok c hc) (cY h.dp hk0))
  have h2:=wA t;have h3:=h.s;have h4:(ce t).length*900<=3001*900:=bW 900 (by omega);omega
 .obtain⟨c,hc,hr⟩:=fZ.1 hr
  unfold gl at hr;have hlb: ∀l∈c.map (·.l),LB l:=fun l hl=>by
   obtain⟨s,hs,rfl⟩:=bQ.1 hl;exact Ax h.lb h.ok c hc s hs
  have hv:=HV hlb;generalize gh (c.map (·.l))=v at*;refine⟨fun p hp=>hv p (QS hr p hp),?_⟩;unfold rA at hr;obtain⟨i,_,rfl⟩:=bQ.1 hr;rfl
def sv:List ZP:=[(0,0),(1,0),(0,1)]
def X7:d7 sv:=⟨by decide,by decide,fun p hp=>by
 unfold sv at hp;simp only[aT,kQ,or_false] at hp;rcases hp with rfl|rfl|rfl<;>exact⟨by decide,by decide⟩,by decide⟩
def Bd: ∀r∈[sv],d7 r:=fun r hr=>by rw[aU] at hr;subst hr;exact X7
def ZV:(Db (ET (om (l7 [sv] 2) []))).map List.length=[3]:=by decide+kernel
def azK: ∃a b c:aa,[[a,b,c]]=(ce (l7 [sv] 2)).flatMap gl:=by
 have h:=DX (fill:=2) Bd;rw[<-XF h.gd.ok];have e:=ZV;generalize Db (ET (om (l7 [sv] 2) []))=l at*
 match l,e with
 |[[a,b,c]],_=>exact⟨a,b,c,J⟩
def Dl:ie 12 (l7 [sv] 2):=(DX Bd).x (JB _ _) (by decide)
def aDp:(ce (l7 [sv] 2)).all dE=true:=PU Dl.ok (Jm Bd)
def awi{ai al ae au:Addr}(hE:yz GB ai al ae au):PF GB prog 14 [] (.v (.bool true)):=by
 obtain⟨a,b,c,hts⟩:=azK;have htb:=LA Dl;rw[<-hts] at htb;refine fn func14 J J ntmps14 J J (fun C=>?_);refine cl J (m9) J<|cl J (m9) J<|cl J (m9) J<|rf J J<|?_;refine cl J (KG (ps:=[iP 0 0,iP 1 0,iP 0 1]) (fun p hp=>by
  simp only[aT,kQ,or_false] at hp;rcases hp with rfl|rfl|rfl<;>exact⟨BQ.int1200,BQ.int1200⟩) (by decide)) rfl<|?_
 refine rf J J<|cl J (Ou (rs:=[sv]) (fill:=2) Bd (by decide)) J<|cl J (RO (rs:=[sv]) (fill:=2) Bd (by decide)) J<|?_;refine cl J (SU Dl) J<|cl (fu:=⟨14⟩) J (SW hE Dl (by decide) (Tr.red_restrict (JB _ _)) aDp (ts:=[[a,b,c]]) hts (fun r hr=>⟨(htb.2 r hr).1,by rw[(htb.2 r hr).2];decide⟩) (by simp)) J<|?_;refine ak 22 (.d (vI 1)) J J ?_;refine gx (fu:=⟨0⟩) J<|cB J J J<|ix (fu:=⟨2⟩) _ J (SG (show [[a,b,c]][0]? =some [a,b,c] from J)) J<|?_;refine ak 29 (.d (vI 3)) J J ?_;refine gx (fu:=⟨0⟩) J<|cB J J J<|?_;exact rz J J
def K1(r:List aa)(j:Nat):Nat->aa
 |0=>(((r.getD 0 ⟨0,0⟩).add (r.getD 1 ⟨0,0⟩)).add (r.getD 2 ⟨0,0⟩)).scale (((1:Int):Rat)/((3:Int):Rat))
 |k+1=>((K1 r j k).add (r.getD j ⟨0,0⟩)).scale (((1:Int):Rat)/((2:Int):Rat))
def smp(ts:List (List aa))(i:Nat):aa:=K1 (ts.getD (i%ts.length) []) (i%3) (i/ts.length)
def F2{α:Type}(f:α->Rat){l:List α}{k:Nat}{x:α}(h:l[k]? =some x):b7 f (l.take (k+1))=b7 f (l.take k)+f x:=by
 have:l.take (k+1)=l.take k++[x]:=by rw[eY,h];rfl
 rw[this,Dn];show _+(f x+0)=_;grind
structure Ha (cs:List az) (b:Nat):Prop where
 lb: ∀c∈cs,∀s∈c,LB s.l
 sh: ∀c∈cs,c.length<=100000
 ln:cs.length<=1000000
 pt: ∀x∈gr (fi cs),aC x.1 b/\aC x.2 b
def aEr{L:List (aa×aa)}: ∀e∈L.map BE,e.length=2:=fun e he=>by
 obtain⟨x,_,rfl⟩:=bQ.1 he;rfl
def XU{L:List (aa×aa)}{k:Nat}{e:List DV}(h:(L.map BE)[k]? =some e): ∃x,L[k]? =some x/\e=BE x:=by
 rw[cK] at h
 cases hl:L[k]? with
 |none=>rw[hl] at h;cases h
 |some x=>rw[hl] at h;cases h;exact⟨x,J,J⟩
def YZ{cs:List az}{b m:Nat}(ho:Ha cs b)(hb:b<=40000000)(hs: ∀k,BQ (b7 (fun x=>x.1.cross x.2) ((gr (fi cs)).take k)) m)(hm:m<=100000000)(hc: ∀x∈gr (fi cs),BQ (x.1.cross x.2) m):
  PF GB prog 29 [.sl (cs.map eC)] (eF (b7 (fun x=>x.1.cross x.2) (gr (fi cs))*mkRat 1 2)):=by
 obtain⟨L,hL⟩: ∃L,L=gr (fi cs):=⟨_,rfl⟩;obtain⟨Sm,hSm⟩: ∃Sm:Nat->Rat,Sm=fun k=>b7 (fun x=>x.1.cross x.2) (L.take k):=⟨_,rfl⟩;have h00:Sm 0=0:=by rw[hSm];rfl
 have hSk: ∀k,BQ (Sm k) m:=by rw[hSm,hL];exact hs
 refine Eh func29 J J ntmps29 J J (fun C h0=>?_);refine DC J J J aDr (fun _=>J) (fun GB1 pv hg1 hpv=>?_);refine IQ 3 [vI (cH 0),vI (cG 0),cP 0] rfl (fun G m=>zF) J ?_;refine vA 2 2000002 h0.fx J<|vA 3 2000003 h0.fx J ?_;refine DM (σ:=Empty) (fun k=>[(2000002,some (.o 83 [.d (vI 0), .d (vI 0), .d (.v (.pointer none))] true)),(2000003,some (.o 83 [.d (vI (cH (Sm k))), .d (vI (cG (Sm k))), .d (cP (Sm k))] true))]) (fun _=>True) (fun _=>[]) (fun _=>False) [(2, .ov 2000002 0),(3, .ov 2000003 0)]
  h0 J (W6 ho.lb ho.sh ho.ln ho.pt hb) (.cons hpv .nil) ⟨J,J,trivial⟩ J (by rw[h00];exact⟨J,J,trivial⟩) trivial aEr J J (fun k e GB' hE hg hp=>?_) (fun D hD hx hp=>?_) (fun D s hD hx hq=>hq.elim)
 .obtain⟨x,hx,rfl⟩:=XU hE
  refine⟨?_,?_,fun C2=>?_,fun C2=>?_⟩
  rotate_left 2
  .refine gx J ?_
   exact atR
  .haveI:=hs k
   haveI:=hc x (aV hx);rw[<-hL] at hx;refine gx J<|cl J (pj (p:=Sm k) (q:=x.1.cross x.2) (i:=m) (j:=m) hm hm) J ?_;have e1:Sm (k+1)=Sm k+x.1.cross x.2:=by rw[hSm];exact F2 _ hx
   exact rq trivial (by rw[e1];exact⟨J,J,trivial⟩)
 .have eN:Sm (((gr (fi cs)).map BE).length)=b7 (fun x=>x.1.cross x.2) (gr (fi cs)):=by
   rw[hSm,hL,aJ];show b7 _ (List.take _ _)=_;rw[dW]
  haveI:BQ (b7 (fun x=>x.1.cross x.2) (gr (fi cs))) m:=by rw[<-eN];exact hSk _
  rw[eN];refine gx J<|cl J (Dy (q:=b7 (fun x=>x.1.cross x.2) (gr (fi cs))) hm) J ?_;exact AQ hD hx J J
def Mx(x:aa×aa):aa:=(x.1.add x.2).scale (x.1.cross x.2)
def Nh{α:Type}(f:α->aa)(l:List α):aa:=⟨b7 (fun x=>(f x).x) l,b7 (fun x=>(f x).y) l⟩
def RX{n:Int}{d:Nat}(hn:n.natAbs<=1000)(hd:0<d:=by decide)(hd1:d<=1000:=by decide):PF GB prog 53 [vI n, .v (.int .i64 (d:Nat))] (eQ (mkRat n d)):=by
 haveI:BI n 10:=AV;haveI:BN d 10:=⟨by omega⟩;refine fn func53 J J ntmps53 J J (fun C=>?_);refine cl J (Ry (n:=n)) J<|cl J (ut (u:=d)) J<|cl J (xp (x:=n) (d:=d) hd) J<|?_;exact rz J J
def qF(es:List Int)(a:Nat):Rat×Nat:=
 (if((av es 6 (av es 9 a).2).1:Int)=0 then mkRat (2*(((av es 9 a).1:Int)-4)+1) 2 else if((av es 6 (av es 9 a).2).1:Int)=1 then mkRat (3*(((av es 9 a).1:Int)-4)+1) 3 else(((av es 9 a).1:Rat)-4:Rat),(av es 6 (av es 9 a).2).2)
theorem IR{es:List Int}{a:Nat}(ha:a<=es.length):BQ (qF es a).1 12/\(qF es a).2<=es.length:=by
 have h1:=kG (es:=es) (n:=9) (a:=a);refine⟨?_,gG (gG ha)⟩;unfold qF;dsimp only;split
 .exact wG (by decide) (by omega)
 .split
  .exact wG (by decide) (by omega)
  .haveI:BI (((av es 9 a).1:Int)-4:Int) 11:=AV
   have e:((((av es 9 a).1:Rat)-4):Rat)=((((av es 9 a).1:Int)-4:Int):Rat):=by rw[jM];rfl
   rw[e];exact inferInstance
def si(es:List Int)(a:Nat):aa×Nat:=(⟨(qF es a).1,(qF es (qF es a).2).1⟩,(qF es (qF es a).2).2)
theorem Yl{es:List Int}{a:Nat}(ha:a<=es.length):aC (si es a).1 1200/\(si es a).2<=es.length:=by
 obtain⟨h1,h2⟩:=IR ha;obtain⟨h3,h4⟩:=IR h2;exact⟨⟨h1.mono (by decide),h3.mono (by decide)⟩,h4⟩
def q9(z:Nat):(z:Rat)-4=(((z:Int)-4:Int):Rat):=by rw[jM];rfl
def Aa:ab:=⟨1,0,0⟩
def aMf(es:List Int)(L:List ab)(a:Nat):aa×Nat:=
 if L.length=0 then si es a else
 if((av es 3 (av es L.length a).2).1:Int)=0 then
  (if crossI (L.getD (av es L.length a).1 Aa) (L.getD (av es L.length (av es 3 (av es L.length a).2).2).1 Aa)≠0 then(d8 (L.getD (av es L.length a).1 Aa) (L.getD (av es L.length (av es 3 (av es L.length a).2).2).1 Aa),(av es L.length (av es 3 (av es L.length a).2).2).2) else si es (av es L.length (av es 3 (av es L.length a).2).2).2)
 else if((av es 3 (av es L.length a).2).1:Int)=1 then((L.getD (av es L.length a).1 Aa).at (qF es (av es 3 (av es L.length a).2).2).1,(qF es (av es 3 (av es L.length a).2).2).2) else si es (av es 3 (av es L.length a).2).2
def Oe{b:Nat}{es:List Int}(hes:es.length<=400){a:Nat}(ha:a<=es.length):PM GB prog 21 (iH [none] b) b 64 [.sl (es.map vI), .v (.int .i64 (a:Nat))] (eQ (qF es a).1) [.sl (es.map vI), .v (.int .i64 ((qF es a).2:Nat))]:=by
 have h1:=kG (es:=es) (n:=9) (a:=a);refine tC func21 J J ntmps21 J J (fun C b m lo hmb=>?_);refine cm J (fun b=>(oq (n:=9) hes ha)) J<|cm J (fun b=>(oq (n:=6) hes (gG ha))) J<|?_;refine br J J J (fun hc9=>?_) (fun hc9=>?_)
 .
  refine cl J (RX (n:=2*(((av es 9 a).1:Int)-4)+1) (d:=2) (by omega)) J<|?_;exact jE hmb J J (by unfold qF;dsimp only;rw[if_pos hc9];rfl) J
 .
  refine br J J J (fun hc15=>?_) (fun hc15=>?_)
  .
   refine cl J (RX (n:=3*(((av es 9 a).1:Int)-4)+1) (d:=3) (by omega)) J<|?_;exact jE hmb J J (by unfold qF;dsimp only;rw[if_neg hc9,if_pos hc15];rfl) J
  .
   refine cl J (lu (n:=(((av es 9 a).1:Int)-4)) (by omega) (by omega)) J<|?_;exact jE hmb J J (by unfold qF;dsimp only;rw[if_neg hc9,if_neg hc15,q9];rfl) J
def Un{b:Nat}{es:List Int}(hes:es.length<=400){a:Nat}(ha:a<=es.length):PM GB prog 8 (iH [none] b) b 64 [.sl (es.map vI), .v (.int .i64 (a:Nat))] (eP (si es a).1) [.sl (es.map vI), .v (.int .i64 ((si es a).2:Nat))]:=by
 refine tC func8 J J ntmps8 J J (fun C b m lo hmb=>?_);refine cm J (fun b=>(Oe hes ha)) J<|cm J (fun b=>(Oe hes (IR ha).2)) J<|?_;exact jE hmb J J J J

structure EGV (GB:Gh) (ai al ae au:Addr):Prop extends yz GB ai al ae au where
 dum:True
def TQ(x:aa×aa):Rat:=(x.1.x*x.1.x+x.2.x*x.2.x+(x.1.add x.2).x*(x.1.add x.2).x)*x.1.cross x.2
def aK8(x:aa×aa):Rat:=(x.1.x*x.1.y+x.2.x*x.2.y+(x.1.add x.2).x*(x.1.add x.2).y)*x.1.cross x.2
def aLe(x:aa×aa):Rat:=(x.1.y*x.1.y+x.2.y*x.2.y+(x.1.add x.2).y*(x.1.add x.2).y)*x.1.cross x.2
structure aLu (cs:List az):Prop where
 ed:Ha cs 1200
 cr: ∀x∈gr (fi cs),BQ (x.1.cross x.2) 5000
 ar: ∀k,BQ (b7 (fun x=>x.1.cross x.2) ((gr (fi cs)).take k)) 2000000
 mo: ∀k,aC (Nh Mx ((gr (fi cs)).take k)) 3000000
 sa: ∀k,BQ (b7 TQ ((gr (fi cs)).take k)) 4000000
 sb: ∀k,BQ (b7 aK8 ((gr (fi cs)).take k)) 4000000
 sc: ∀k,BQ (b7 aLe ((gr (fi cs)).take k)) 4000000
def vy(t:Tr):Rat:=b7 (fun x=>x.1.cross x.2) (gr (fi (ce t)))*mkRat 1 2
def aLk(t:Tr):aa:=(Nh Mx (gr (fi (ce t)))).scale (((1:Int):Rat)/((6:Int):Rat))
def zR0:DV:= .ag [vB false, .sl [], .sl []]
def zP0:DV:= .ag [vB false, .sl [], .sl [],vB false, .sl [], .sl []]
def W9{k0:Nat}{t:Tr}(h:ie k0 t)(hk0:k0<=900):PF GB prog 74 [eA t] (.tp [.sl ((ce t).map eC), .v .nilIface]):=by
 have hts:=h.s;have htd:=h.dp;refine fn func74 J J ntmps74 J J (fun C=>?_);refine cl (fu:=⟨12⟩) J (Hm h) J<|?_;refine lG 12 J ?_;refine gx J<|cl (fu:=⟨0⟩) J (C0 (t:=t) (by omega)) J<|ck J (by show some (decide _)=some false;rw[decide_eq_false (by omega)]) J<|cl J (HO h.lb h.ok) J<|?_;exact rz J J
def asK{cs:List az}(hn: ∀c∈cs,c.length<=100000)(hl:cs.length<=1000000):PF GB prog 75 [.sl (cs.map eC)] (vB (cs.all dE)):=by
 have hml:(cs.map eC).length=cs.length:=aJ ..;refine fn (fu:=⟨10⟩) func75 J J ntmps75 J J (fun C=>?_);refine ak 6 (.d (vI (cs.length:Nat))) J (by rw[hml]<;>rfl) ?_;refine gx J<|?_;refine lp (X:=Nat) (fun k=>[(7, .d (vI (k:Nat)))]) (fun k=>[]) (fun k=>k<=cs.length/\cs.all dE=(cs.drop k).all dE) (fun k=>cs.length-k) 0 J ⟨aN _,by rw[iZ]⟩ (fun _=>J) (fun k hk=>?_);refine br J J J (fun hc8=>?_) (fun hc8=>?_)
 .
  obtain⟨c,hx⟩: ∃u,cs[k]? =some u:=⟨_,aQ (by omega)⟩;refine ix _ J (cA hx) J<|cl J (RG (c:=c) (hn c (aV hx))) J<|?_;refine bb J J J (fun hc13=>?_) (fun hc13=>?_)
  .
   have hS:cs.all dE=false:=by rw[hk.2,wV hx];rw[gT] at hc13;rw[hc13];rfl
   exact rz J (by rw[hS];rfl)
  .
   rw[Bool.not_eq_false'] at hc13;exact at_ (k+1) ⟨⟨by omega,by rw[hk.2,wV hx,hc13,Bool.true_and]⟩,(by omega)⟩
 .
  have hS:cs.all dE=true:=by rw[hk.2,fW (by omega)];rfl
  exact rz J (by rw[hS];rfl)
def Zx{k0:Nat}{t:Tr}(h:ie k0 t)(hk0:k0<=900)(hbd:(ce t).all dE=true):PF GB prog 28 [eA t] (.tp [.sl ((ce t).map eC), .v .nilIface]):=by
 obtain⟨cs,hcs⟩: ∃cs,cs=ce t:=⟨_,rfl⟩;have hts:=h.s;have htd:=h.dp;have hcl:=wA t;have hcn:=vY h.lb h.ok;rw[<-hcs] at hcl hcn;rw[<-hcs] at hbd;refine fn func28 J J ntmps28 J J (fun C=>?_);refine cl (fu:=⟨0⟩) J (W9 h hk0) J<|?_;refine ak 8 (.d (.tp [.sl (cs.map eC), .v .nilIface])) J (by rw[hcs]) ?_;refine gx J<|cl (fu:=⟨0⟩) J (asK (cs:=cs) (fun c hc=>by have:=hcn c hc;omega) (by omega)) J<|?_;refine ak 15 (.d (vB true)) J (by rw[hbd]) ?_;refine lG 15 J ?_;refine gx J<|?_;exact rz J (by rw[<-hcs];rfl)
def Zc:Rat:=((1:Int):Rat)/((24:Int):Rat)
def aMd(f:aa×aa->Rat)(t:Tr):Rat:=b7 f (gr (fi (ce t)))*Zc
structure DQ (D B:Nat) (x:Rat):Prop where
 ex: ∃n:Int,x*((D:Nat):Rat)=(n:Rat)/\n.natAbs<=B*D
theorem DQ.bq{D B k:Nat}{x:Rat}(h:DQ D B x)(h0:0<D)(h1:D<2^k)(h2:B*D<2^k):BQ x k:=by
 obtain⟨n,e,hn⟩:=h.ex;exact BQ.of_frac h0 e (by omega) h1
def DQ.mono{D B C:Nat}{x:Rat}(h:DQ D B x)(hc:B<=C):DQ D C x:=by
 obtain⟨n,e,hn⟩:=h.ex;exact⟨n,e,cY hn (bW D hc)⟩
def DQ.add{D B C:Nat}{x y:Rat}(h:DQ D B x)(k:DQ D C y):DQ D (B+C) (x+y):=by
 obtain⟨n,e,hn⟩:=h.ex;obtain⟨m,f,hm⟩:=k.ex;refine⟨n+m,by rw[pY,<-e,<-f];grind,?_⟩;have:=Int.natAbs_add_le n m;rw[cM];omega
def DQ.neg{D B:Nat}{x:Rat}(h:DQ D B x):DQ D B (-x):=by
 obtain⟨n,e,hn⟩:=h.ex;exact⟨-n,by rw[lN,<-e];grind,by rw[iX];exact hn⟩
def DQ.sub{D B C:Nat}{x y:Rat}(h:DQ D B x)(k:DQ D C y):DQ D (B+C) (x-y):=by
 have:=h.add k.neg;rw[show x-y=x+ -y by grind];exact this
def DQ.mul{D E B C:Nat}{x y:Rat}(h:DQ D B x)(k:DQ E C y):DQ (D*E) (B*C) (x*y):=by
 obtain⟨n,e,hn⟩:=h.ex;obtain⟨m,f,hm⟩:=k.ex;refine⟨n*m,?_,?_⟩
 .rw[cR,<-e,<-f,Rat.natCast_mul];grind
 .rw[jV]
  refine cY (iW hn hm) (Nat.le_of_eq ?_);rw[Nat.mul_mul_mul_comm]
def DQ.zero(D B:Nat):DQ D B 0:=⟨0,by grind,by simp⟩
def nD(l m:ab):Nat:=if crossI l m=0 then 1 else(crossI l m).natAbs
def Xl(l m:ab):0<nD l m:=by unfold nD;split<;>omega
def aso(l m:ab):crossI l.rev m= -crossI l m:=by
 unfold crossI ab.rev;show-l.a*m.b-m.a* -l.b=_;rw[Int.neg_mul,sM];omega
def Vv(l m:ab):crossI l m.rev= -crossI l m:=by
 unfold crossI ab.rev;show l.a* -m.b- -m.a*l.b=_;rw[Int.neg_mul,sM];omega
def UW{l m l' m':ab}(h:l.same l')(k:m.same m'):nD l' m'=nD l m:=by
 have e1:nD l' m'=nD l m':=by
  rcases h with rfl|rfl
  .rfl
  .unfold nD;rw[aso];simp only[Int.neg_eq_zero,iX]
 rw[e1];rcases k with rfl|rfl
 .rfl
 .unfold nD;rw[Vv];simp only[Int.neg_eq_zero,iX]
def EZ(K:List ab):List Nat:=K.flatMap fun l=>K.map (nD l)
def D8(K:List ab):Nat:=(EZ K).foldr (· * ·) 1
def Nr{n:Nat}: ∀{l:List Nat},n∈l->n∣l.foldr (· * ·) 1
 |a::t,h=>by
  rw[List.foldr_cons];rcases aT.1 h with rfl|h
  .exact Nat.dvd_mul_right _ _
  .exact sU (Nr h) (Nat.dvd_mul_left _ _)
def Rg: ∀{l:List Nat},(∀n∈l,0<n)->0<l.foldr (· * ·) 1
 |[],_=>by decide
 |a::t,h=>by rw[List.foldr_cons];exact iT (h a aZ) (Rg fun n hn=>h n (aK _ hn))
def Nc{b:Nat}: ∀{l:List Nat},(∀n∈l,n<=2^b)->l.foldr (· * ·) 1<=2^(b*l.length)
 |[],_=>by simp
 |a::t,h=>by
  rw[List.foldr_cons,bJ,Nat.mul_succ,kJ,fK];exact iW (h a aZ) (Nc fun n hn=>h n (aK _ hn))
def ZX(K:List ab):(EZ K).length=K.length*K.length:=by
 unfold EZ;rw[List.length_flatMap];have: ∀Jv:List ab,(Jv.map fun l=>(K.map (nD l)).length).sum=Jv.length*K.length:=by
  intro Jv
  induction Jv with
  |nil=>simp
  |cons a t ih=>rw[cV,List.sum_cons,ih,aJ,bJ,iM];omega
 exact this K
def Ye(K:List ab):0<D8 K:=Rg fun n hn=>by
 obtain⟨l,_,h⟩:=fZ.1 hn;obtain⟨m,_,rfl⟩:=bQ.1 h;exact Xl l m
def ax9{K:List ab}{l m:ab}(hl:l∈K)(hm:m∈K):nD l m∣D8 K:=Nr (fZ.2 ⟨l,hl,fS hm⟩)
def XV{l m:ab}(hl:LB l)(hm:LB m):nD l m<=2^385:=by
 have h1:=(inferInstance:BI (crossI l m) 385).h;generalize 385=kk at h1⊢;unfold nD;split
 .exact Nat.one_le_two_pow
 .exact mW h1
def aCt{K:List ab}(h: ∀l∈K,LB l):D8 K<=2^(385*(K.length*K.length)):=by
 have:=Nc (b:=385) (l:=EZ K) fun n hn=>by
  obtain⟨l,hl,h2⟩:=fZ.1 hn;obtain⟨m,hm,rfl⟩:=bQ.1 h2;exact XV (h l hl) (h m hm)
 rw[ZX] at this;exact this
def Ll{x:Rat}{n c:Int}{D kk:Nat}(hc:c≠0)(hx:x=(n:Rat)/(c:Rat))(hn:n.natAbs<=2^kk)(hd:c.natAbs∣D):DQ D (2^kk) x:=by
 obtain⟨e,he⟩:=hd;have hc':(c:Rat)≠0:=fun h=>hc (dZ.1 h);have hD:((D:Nat):Rat)=((c.natAbs:Int):Rat)*((e:Int):Rat):=by rw[<-cR,<-Rat.intCast_natCast,he];rfl
 have bd:(n*(e:Int)).natAbs<=2^kk*D:=by
  rw[jV,jR];refine iW hn ?_;rw[he];exact Nat.le_mul_of_pos_left e (by omega)
 rcases Int.natAbs_eq c with h|h
 .refine⟨n*(e:Int),?_,bd⟩
  rw[hD,<-h,hx,cR];grind
 .refine⟨-(n*(e:Int)),?_,by rw[iX];exact bd⟩
  have h2:(c.natAbs:Int)= -c:=by omega
  rw[hD,h2,hx,lN,lN,cR];grind
structure DP (D B:Nat) (p:aa):Prop where
 x:DQ D B p.x
 y:DQ D B p.y
def aCB{l m:ab}(hl:LB l)(hm:LB m)(h:crossI l m≠0){D:Nat}(hd:nD l m∣D):DP D (2^385) (d8 l m):=by
 have h1:=(inferInstance:BI (meetX l m) 385).h;have h2:=(inferInstance:BI (meetY l m) 385).h;generalize 385=kk at h1 h2⊢;unfold nD at hd;rw[if_neg h] at hd;have e:d8 l m=⟨(meetX l m:Rat)/(crossI l m:Rat),(meetY l m:Rat)/(crossI l m:Rat)⟩:=by unfold d8;rw[if_neg h]
 rw[e];exact⟨Ll h J (mW h1) hd,Ll h J (mW h2) hd⟩
def DP.cross{D B C:Nat}{p q:aa}(h:DP D B p)(k:DP D C q):DQ (D*D) (2*(B*C)) (p.cross q):=by
 have:=(h.x.mul k.y).sub (h.y.mul k.x);refine DQ.mono this (by omega)
def aDK{k:Nat}{t:Tr}(h:ie k t): ∃K:List ab,K.length<=k/\(∀l∈K,LB l)/\t.all fun l=> ∃m∈K,m.same l:=by
 obtain⟨K,h1,h2,h3⟩:=h.o.am;refine⟨K.filter fun m=>t.lns.any fun l=>decide (m.same l),cY (mZ ..) h1,fun m hm=>?_,?_⟩
 .obtain⟨hm1,hm2⟩:=jL.1 hm
  obtain⟨l,hl,e⟩:=iS.1 hm2;have hb:=r6.1 h.lb l hl;have e':m.same l:=by simpa using e
  rcases e' with rfl|rfl
  .exact hb
  .haveI:=hb
   have:LB m.rev.rev:=inferInstance;rwa [show m.rev.rev=m from by unfold ab.rev;cases m;simp] at this
 .have h3:=r6.1 h3
  refine r6.2 fun l hl=>?_;obtain⟨m,hm,e⟩:=h3 l hl;exact⟨m,jL.2 ⟨hm,iS.2 ⟨l,hl,decide_eq_true e⟩⟩,e⟩
def EK{P:ab->Prop}(hr: ∀l,P l->P l.rev): ∀{t:Tr} {c:az} {x:Bool×az},t.all P->(∀s∈c,P s.l)->x∈t.parts c-> ∀s∈x.2,P s.l
 | .leaf b,c,x,_,hc,h=>by
  rw[Tr.parts,aU] at h;subst h;exact hc
 | .node l u v,c,x,ht,hc,h=>by
  have cl: ∀k,P k-> ∀s∈b8 c k,P s.l:=fun k hk s hs=>by
   unfold b8 at hs;split at hs
   .rcases qr.1 hs with rfl|hs
    .exact hk
    .obtain⟨s0,g,_,rfl⟩:=rC.1 hs
     exact hc s0 g
   .exact hc s hs
  rw[Tr.parts] at h;rcases bK.1 h with h|h
  .split at h
   .exact EK hr ht.2.1 (cl l ht.1) h
   .cases h
  .split at h
   .exact EK hr ht.2.2 (cl l.rev (hr l ht.1)) h
   .cases h
def WR{k:Nat}{t:Tr}(h:ie k t): ∃D:Nat,0<D/\D<=2^(385*(k*k))/\ ∀c∈ce t,∀p∈gh (c.map (·.l)),DP D (2^385) p:=by
 obtain⟨K,h1,h2,h3⟩:=aDK h;refine⟨D8 K,Ye K,cY (aCt h2) (bU (by decide) (fJ 385 (iW h1 h1))),fun c hc p hp=>?_⟩;have hs:=EK (P:=fun l=> ∃m∈K,m.same l) (fun l ⟨m,hm,e⟩=>⟨m,hm,by
  rcases e with rfl|rfl
  .exact .inr J
  .exact .inl (by unfold ab.rev;cases m;simp)⟩) h3 (fun s hs=>by cases hs) (vr.1 hc)
 have hb:=Ax h.lb h.ok c hc;obtain⟨i,hi,hp⟩:=fZ.1 hp;have hi':=jS.1 hi;have e1:=aQ hi';have e2:=aQ (l:=c.map (·.l)) (cS (i+1) (show 0<(c.map (·.l)).length by omega));rw[AR e1 e2] at hp;split at hp
 .rename_i hx
  rw[aU.1 hp];obtain⟨s,s1,s2⟩:=bQ.1 (bL hi');obtain⟨u,u1,u2⟩:=bQ.1 (bL (cS (i+1) (show 0<(c.map (·.l)).length by omega)));rw[<-s2,<-u2] at hx⊢;obtain⟨m,hm,em⟩:=hs s s1;obtain⟨n,hn,en⟩:=hs u u1;exact aCB (hb s s1) (hb u u1) (GQ hx) (by rw[UW em en];exact ax9 hm hn)
 .cases hp
theorem Nm{D B a b k:Nat}{x:Rat}(h:DQ D B x)(h0:0<D)(hD:D<=2^a)(hB:B<=2^b)(hk:a+b<k:=by decide):BQ x k:=by
 refine h.bq h0 (fR hD (sL (by decide) (by omega))) ?_;refine fR (iW hB hD) ?_;rw[<-fK];exact sL (by decide) (by omega)
def Ma{x y a b:Nat}(hx:x<=2^a)(hy:y<=2^b):x*y<=2^(a+b):=by
 rw[fK];exact iW hx hy
def S7{α:Type}{D B:Nat}{f:α->Rat}: ∀{l:List α},(∀x∈l,DQ D B (f x))->DQ D (l.length*B) (b7 f l)
 |[],_=>by show DQ D _ 0;exact DQ.zero D _
 |x::t,h=>by
  have:=(h x aZ).add (S7 fun y hy=>h y (aK _ hy));refine DQ.mono this (Nat.le_of_eq ?_);rw[bJ,cM,oJ,kJ]
def Pz{α:Type}{D B N:Nat}{f:α->Rat}{l:List α}(h: ∀x∈l,DQ D B (f x))(hl:l.length<=N)(k:Nat):DQ D (N*B) (b7 f (l.take k)):=by
 have:=S7 (l:=l.take k) fun x hx=>h x (dJ hx);exact this.mono (bW B (cY (by rw[cJ];omega) hl))
def azx{v:List aa}{x:aa×aa}(h:x∈jc v):x.1∈v/\x.2∈v:=by
 obtain⟨i,hi,rfl⟩:=bQ.1 h;have hi':=jS.1 hi;have hj:(i+1)%v.length<v.length:=cS _ (by omega);dsimp only;rw[aX,aX,aQ hi',aQ hj];exact⟨bL _,bL _⟩
def aC9{cs:List az}{x:aa×aa}(h:x∈gr (fi cs)): ∃c∈cs,x.1∈gh (c.map (·.l))/\x.2∈gh (c.map (·.l)):=by
 obtain⟨L,hL,hx⟩:=fZ.1 h;obtain⟨c,hc,rfl⟩:=bQ.1 hL;exact⟨c,hc,azx hx⟩
def Vf{k0:Nat}{t:Tr}(h:ie k0 t)(hk:k0<=48):(gr (fi (ce t))).length<=2^18:=by
 have h1: ∀L∈fi (ce t),(jc (gh L)).length<=48:=fun L hL=>by
  obtain⟨c,hc,rfl⟩:=bQ.1 hL;have h2:=vY h.lb h.ok c hc;have h3:=Fq (c.map (·.l));have h4:=h.dp;rw[aJ] at h3;rw[Fd];omega
 have h2:=Cb h1;have h3:=wA t;have h4:=h.s;have h5:(fi (ce t)).length=(ce t).length:=aJ ..;unfold gr;rw[h5] at h2;have:(ce t).length*48<=3001*48:=bW 48 (by omega);omega
def eM(a b c d e f:Rat):DV:= .ag [(.v (.bool (decide ((a).num<0)))),(dN (a).num.natAbs),(dD (a).den),(.v (.bool (decide ((b).num<0)))),(dN (b).num.natAbs),(dD (b).den),(.v (.bool (decide ((c).num<0)))),(dN (c).num.natAbs),(dD (c).den),(.v (.bool (decide ((d).num<0)))),(dN (d).num.natAbs),(dD (d).den),(.v (.bool (decide ((e).num<0)))),(dN (e).num.natAbs),(dD (e).den),(.v (.bool (decide ((f).num<0)))),(dN (f).num.natAbs),(dD (f).den)]
def zq3:List DV:=[.v (.bool (decide ((0:Rat).num<0))),dN (0:Rat).num.natAbs,dD (0:Rat).den]
def Yi{j:Nat}(h:j<4):([vI 1,vI 2,vI 3,vI 4]:List DV)[((j:Nat):Int).toNat]? =some (vI (1+(j:Int))):=by
 have:j=0\/j=1\/j=2\/j=3:=by omega
 rcases this with rfl|rfl|rfl|rfl<;>rfl
def ap6{b:Nat}{es:List Int}(hes:es.length<=400){a:Nat}(ha:a<=es.length){n:Int}(hn:n=0):PM GB prog 6 (iH [none,some (.v (.int .i64 n))] b) b 64 [.sl (es.map vI), .v (.int .i64 (a:Nat))] (eT (eD es 0 a).1) [.sl (es.map vI), .v (.int .i64 ((eD es 0 a).2:Nat))]:=by
 refine tC (fu:=⟨9⟩) func6 J J ntmps6 J J (fun C b m lo hmb=>?_);refine ck J (by show some (decide _)=some false;rw[decide_eq_false (by omega)]) J<|cm J (fun b=>(Nv hes ha)) J<|?_;exact jE hmb J J J J
def Vq{b:Nat}{es:List Int}(hes:es.length<=400){a:Nat}(ha:a<=es.length){d:Nat}{n:Int}(hn:n=((d+1:Nat):Int))(hd:d<=1)(ih: ∀{GB:Gh} {b a:Nat} {n:Int},a<=es.length->n=(d:Int)->PM GB prog 6 (iH [none,some (.v (.int .i64 n))] b) b 64 [.sl (es.map vI), .v (.int .i64 (a:Nat))] (eT (eD es d a).1) [.sl (es.map vI), .v (.int .i64 ((eD es d a).2:Nat))]):PM GB prog 6 (iH [none,some (.v (.int .i64 n))] b) b 64 [.sl (es.map vI), .v (.int .i64 (a:Nat))] (eT (eD es (d+1) a).1) [.sl (es.map vI), .v (.int .i64 ((eD es (d+1) a).2:Nat))]:=by
 have hk0:=gG (n:=3) ha;obtain⟨g1,_,_,g2⟩:=zq (d:=d) hk0;have hj:=gG (n:=4) g2;have hjl:=kG (es:=es) (n:=4) (a:=(eD es d (av es 3 a).2).2);obtain⟨g3,_,_,g4⟩:=zq (d:=d) hj;have hpw:12*2^d<=12*2^1:=fJ _ (bU (by decide) hd);refine tC (fu:=⟨9⟩) func6 J J ntmps6 J J (fun C b m lo hmb=>?_);refine cB J (by show some (decide _)=some true;rw[decide_eq_true (by omega)]) J<|cm J (fun b=>(oq (n:=3) hes ha)) J<|?_;refine br J J J (fun hc12=>?_) (fun hc12=>?_)
 .
  refine cm J (fun b=>(ih hk0 (by omega))) J<|rf J J<|cm J (fun b=>(oq (n:=4) hes g2)) J<|ix (vI (1+((av es 4 (eD es d (av es 3 a).2).2).1:Int))) J (Yi (by omega)) J<|?_;refine cm J (fun b=>(ih hj (by omega))) J<|cl J (Jh (op:=1+((av es 4 (eD es d (av es 3 a).2).2).1:Int)) (t:=(eD es d (av es 3 a).2).1) (u:=(eD es d (av es 4 (eD es d (av es 3 a).2).2).2).1) (c:=[]) g3.gd.lb g3.gd.ok g1.gd.lb g1.gd.ok (fun m h=>by cases h) (fun m h=>by cases h) (by have:=g1.dp;have:=g3.dp;rw[fV];omega)) J<|?_;exact jE hmb J J (by rw[show eD es (d+1) a=_ from if_pos hc12];show eT (Tr.mergeL _ _ _ _)=eT (Tr.mergeQ _ _ _ _);rw[Tr.mergeL_nil (by omega) g1.gd.ok g3.gd.ok]) (by rw[show eD es (d+1) a=_ from if_pos hc12])
 .
  refine cm J (fun b=>(Nv hes hk0)) J<|?_;exact jE hmb J J (by rw[show eD es (d+1) a=_ from if_neg hc12];rfl) (by rw[show eD es (d+1) a=_ from if_neg hc12])
def OG{es:List Int}(hes:es.length<=400): ∀{d:Nat} {GB:Gh} {b a:Nat} {n:Int},d<=2->a<=es.length->n=(d:Int)->PM GB prog 6 (iH [none,some (.v (.int .i64 n))] b) b 64 [.sl (es.map vI), .v (.int .i64 (a:Nat))] (eT (eD es d a).1) [.sl (es.map vI), .v (.int .i64 ((eD es d a).2:Nat))]
 |0,_,_,_,_,_,ha,hn=>ap6 hes ha hn
 |d+1,_,_,_,_,hd,ha,hn=>Vq hes ha hn (by omega) (fun h1 h2=>OG hes (by omega) h1 h2)
def aCO{es:List Int}(hes:es.length<=400){a d b:Nat}(ha:a<=es.length)(hd:d<=2):PM GB prog 6 (iH [none,some (.v (.int .i64 (d:Nat)))] b) b 64 [.sl (es.map vI), .v (.int .i64 (a:Nat))] (eT (eD es d a).1) [.sl (es.map vI), .v (.int .i64 ((eD es d a).2:Nat))]:=OG (GB:=GB) hes hd ha J
def Zg:List ZP:=[(0,0),(2,0),(2,2),(0,2)]
def sqT:Tr:=l7 [Zg] 2

end Go.Sx
end
