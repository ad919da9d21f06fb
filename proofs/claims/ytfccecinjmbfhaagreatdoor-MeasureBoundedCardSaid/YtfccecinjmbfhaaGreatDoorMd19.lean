import Derived.Test.YtfccecinjmbfhaaGreatDoorMd18
set_option linter.unusedSimpArgs false
set_option maxHeartbeats 8000000
set_option maxRecDepth 100000
set_option linter.unusedVariables false
section
namespace Go.Sx
open Go Go.Proofs Tryz
variable {GB:Gh}
theorem aps: ∀(c:aag) (A B:FrQ→Rat),(∀u∈c,0≤A u∧(0≤B u∨0<A u))→ ∃e:Rat,0<e∧ ∀u∈c,0≤A u+e*B u
 |[],_,_,_=>⟨1,by decide,fun u hu=>by cases hu⟩
 |s::t,A,B,h=>by
  obtain⟨e,e0,he⟩:=aps t A B fun u hu=>h u (aK _ hu)
  obtain⟨h1,h2⟩:=h s aZ
  have hold: ∀q,0≤q→q≤e→ ∀u∈t,0≤A u+q*B u:=fun q q0 q1 u hu=>agi (h u (aK _ hu)).1 (he u hu) q0 q1
  by_cases hb:0≤B s
  ·refine⟨e,e0,fun u hu=>?_⟩
   rcases aR.1 hu with rfl|hu
   ·have:=aab (dQ e0) hb;grind
   ·exact he u hu
  ·have ha:=h2.resolve_left hb
   have hq:0<A s/ -(B s):=(aat (k:= -(B s)) (by grind)).1 (by rw[show A s/ -(B s)* -(B s)=A s by grind];exact ha)
   have hm:A s/ -(B s)* -(B s)=A s:=by grind
   generalize A s/ -(B s)=q at*
   by_cases k:q≤e
   ·refine⟨q,hq,fun u hu=>?_⟩
    rcases aR.1 hu with rfl|hu
    ·grind
    ·exact hold q (dQ hq) k u hu
   ·refine⟨e,e0,fun u hu=>?_⟩
    rcases aR.1 hu with rfl|hu
    ·have:=aab (show 0≤q-e by grind) (show 0≤ -(B u) by grind)
     grind
    ·exact he u hu
theorem aqC(l m:LnQ)(t e:Rat):m.value (l.at (t+e))=m.value (l.at t)+e*m.nor.dot l.dir:=by
 rw[amc,abL]
theorem azh{s:FrQ}(h:s.v.Pos)(nh:s.v.nh=false):s.v.has s.v.hi:=by
 unfold IvQ.Pos at h
 refine⟨?_, .inr gQ⟩
 rcases h with h|h|h
 ·exact .inl h
 ·rw[nh] at h;cases h
 ·exact .inr (dQ h)
theorem ayG{s:FrQ}(h:s.v.Pos)(nl:s.v.nl=false):s.v.has s.v.lo:=by
 unfold IvQ.Pos at h
 refine⟨.inr gQ,?_⟩
 rcases h with h|h|h
 ·rw[nl] at h;cases h
 ·exact .inl h
 ·exact .inr (dQ h)
theorem aAl{c:aag}(hc:aaV c){s:FrQ}(hs:s∈c)(nh:s.v.nh=false): ∃u∈c,u.l.value (s.l.at s.v.hi)=0∧u.l.nor.dot s.l.dir<0:=by
 obtain⟨p1,p2⟩:=hc.edge s hs
 have hin:=(p2 _).1 (azh p1 nh)
 by_cases q: ∃u∈c,u.l.value (s.l.at s.v.hi)=0∧u.l.nor.dot s.l.dir<0
 ·exact q
 ·exfalso
  obtain⟨e,e0,he⟩:=aps c (fun u=>u.l.value (s.l.at s.v.hi)) (fun u=>u.l.nor.dot s.l.dir) fun u hu=>by
   have h1:=hin u hu
   refine⟨h1,?_⟩
   by_cases k:0≤u.l.nor.dot s.l.dir
   ·exact .inl k
   ·right
    by_cases z:u.l.value (s.l.at s.v.hi)=0
    ·exact absurd ⟨u,hu,z,by grind⟩ q
    ·grind
  have hh:=(p2 (s.v.hi+e)).2 fun u hu=>by rw[aqC];exact he u hu
  have:=hh.2
  rw[nh] at this
  rcases this with z|z
  ·cases z
  ·grind
theorem aB7{c:aag}(hc:aaV c){s:FrQ}(hs:s∈c)(nl:s.v.nl=false): ∃u∈c,u.l.value (s.l.at s.v.lo)=0∧0<u.l.nor.dot s.l.dir:=by
 obtain⟨p1,p2⟩:=hc.edge s hs
 have hin:=(p2 _).1 (ayG p1 nl)
 by_cases q: ∃u∈c,u.l.value (s.l.at s.v.lo)=0∧0<u.l.nor.dot s.l.dir
 ·exact q
 ·exfalso
  obtain⟨e,e0,he⟩:=aps c (fun u=>u.l.value (s.l.at s.v.lo)) (fun u=> -(u.l.nor.dot s.l.dir)) fun u hu=>by
   have h1:=hin u hu
   refine⟨h1,?_⟩
   by_cases k:0≤ -(u.l.nor.dot s.l.dir)
   ·exact .inl k
   ·right
    by_cases z:u.l.value (s.l.at s.v.lo)=0
    ·exact absurd ⟨u,hu,z,by grind⟩ q
    ·grind
  have hh:=(p2 (s.v.lo+ -e)).2 fun u hu=>by rw[aqC];have:=he u hu;grind
  have:=hh.1
  rw[nl] at this
  rcases this with z|z
  ·cases z
  ·grind
theorem aAf{ds:List PtQ}(h:ds.Pairwise Bef){i:Nat}{s w:PtQ}(hs:ds[i]? =some s)(hw:ds[(i+1)%ds.length]? =some w):Nxt ds s w:=by
 obtain⟨hi,rfl⟩:=aL.1 hs
 obtain⟨hj,rfl⟩:=aL.1 hw
 have hp:=mN.1 h
 by_cases e:i+1<ds.length
 ·have em:(i+1)%ds.length=i+1:=fU e
  left
  simp only[em]
  refine⟨hp i (i+1) hi e (by omega),fun d hd=>?_⟩
  obtain⟨j,hj,rfl⟩:=lS.1 hd
  rintro ⟨a,b⟩
  rcases qN j i with k|k|k
  ·exact agt a (hp j i hj hi k)
  ·subst k;exact agc _ a
  ·by_cases z:j=i+1
   ·subst z;exact agc _ b
   ·exact agt b (hp (i+1) j e hj (by omega))
 ·have ei:i+1=ds.length:=by omega
  have em:(i+1)%ds.length=0:=by rw[ei,Nat.mod_self]
  right
  simp only[em]
  refine⟨fun d hd a=>?_,fun d hd b=>?_⟩
  ·obtain⟨j,hj,rfl⟩:=lS.1 hd
   by_cases k:j=i
   ·subst k;exact agc _ a
   ·exact agt a (hp j i hj hi (by omega))
  ·obtain⟨j,hj,rfl⟩:=lS.1 hd
   by_cases k:j=0
   ·subst k;exact agc _ b
   ·exact agt b (hp 0 j (by omega) hj (by omega))
theorem atS{s u w:PtQ}(hs:s.half≠0)(hw:w.half≠0)(hu:u.half≠0)(h1:0<s.cross u)(h2:0<u.cross w)(h3:0<s.cross w)(e:s.half=w.half):u.half=s.half:=by
 rcases adR hs with k|k
 ·rw[k] at e⊢
  have a:=ade.1 k
  have b:=ade.1 e.symm
  rw[ade]
  unfold PtQ.cross at*
  -- u is between s and w
  have i1:(s.x*w.y-s.y*w.x)*u.y=(u.x*w.y-u.y*w.x)*s.y+(s.x*u.y-s.y*u.x)*w.y:=by grind
  have i2:(s.x*w.y-s.y*w.x)*u.x=(u.x*w.y-u.y*w.x)*s.x+(s.x*u.y-s.y*u.x)*w.x:=by grind
  have y0:0≤s.y:=by grind
  have y1:0≤w.y:=by grind
  have m1:=aab (dQ h2) y0
  have m2:=aab (dQ h1) y1
  have uy:0≤u.y:=(aaj h3).1 (by grind)
  by_cases z:0<u.y
  ·exact .inl z
  ·right
   have z0:u.y=0:=by grind
   have i3:(u.x*w.y-u.y*w.x)*s.y+(s.x*u.y-s.y*u.x)*w.y=0:=by rw[←i1,z0];grind
   have A0:(u.x*w.y-u.y*w.x)*s.y=0:=by generalize (u.x*w.y-u.y*w.x)*s.y=A at*;generalize (s.x*u.y-s.y*u.x)*w.y=B at*;grind
   have B0:(s.x*u.y-s.y*u.x)*w.y=0:=by grind
   have n1:s.y=0:=by
    rcases iV.1 A0 with q|q
    ·grind
    ·exact q
   have n2:w.y=0:=by
    rcases iV.1 B0 with q|q
    ·grind
    ·exact q
   rw[n1,n2] at h3
   grind
 ·rw[k] at e⊢
  have a:=aeh.1 k
  have b:=aeh.1 e.symm
  rw[aeh]
  unfold PtQ.cross at*
  have i1:(s.x*w.y-s.y*w.x)*u.y=(u.x*w.y-u.y*w.x)*s.y+(s.x*u.y-s.y*u.x)*w.y:=by grind
  have y0:0≤ -s.y:=by grind
  have y1:0≤ -w.y:=by grind
  have m1:=aab (dQ h2) y0
  have m2:=aab (dQ h1) y1
  have uy:0≤ -u.y:=(aaj h3).1 (by grind)
  by_cases z:u.y<0
  ·exact .inl z
  ·right
   have z0:u.y=0:=by grind
   have i3:(u.x*w.y-u.y*w.x)*s.y+(s.x*u.y-s.y*u.x)*w.y=0:=by rw[←i1,z0];grind
   have m3:(u.x*w.y-u.y*w.x)* -s.y= -((u.x*w.y-u.y*w.x)*s.y):=by grind
   have m4:(s.x*u.y-s.y*u.x)* -w.y= -((s.x*u.y-s.y*u.x)*w.y):=by grind
   rw[m3] at m1
   rw[m4] at m2
   have A0:(u.x*w.y-u.y*w.x)*s.y=0:=by generalize (u.x*w.y-u.y*w.x)*s.y=A at*;generalize (s.x*u.y-s.y*u.x)*w.y=B at*;grind
   have B0:(s.x*u.y-s.y*u.x)*w.y=0:=by grind
   have n1:s.y=0:=by
    rcases iV.1 A0 with q|q
    ·grind
    ·exact q
   have n2:w.y=0:=by
    rcases iV.1 B0 with q|q
    ·grind
    ·exact q
   rw[n1,n2] at h3
   grind
theorem akT{ds:List PtQ}(nz: ∀d∈ds,d.half≠0){s u w:PtQ}(hs:s∈ds)(hu:u∈ds)(hw:w∈ds)(hn:Nxt ds s w)(h1:0<s.cross u)(h2:0<u.cross w)(h3:0<s.cross w):False:=by
 have zs:=adR (nz s hs)
 have zu:=adR (nz u hu)
 have zw:=adR (nz w hw)
 rcases hn with⟨b,no⟩|⟨n1,n2⟩
 ·by_cases e:s.half=w.half
  ·have e2:=atS (nz s hs) (nz w hw) (nz u hu) h1 h2 h3 e
   exact no u hu ⟨.inr ⟨e2.symm,h1⟩, .inr ⟨by omega,h2⟩⟩
  ·have e1:s.half=1∧w.half=2:=by
    rcases b with b|⟨b,_⟩
    ·omega
    ·exact absurd b e
   rcases zu with k|k
   ·exact no u hu ⟨.inr ⟨by omega,h1⟩, .inl (by omega)⟩
   ·exact no u hu ⟨.inl (by omega), .inr ⟨by omega,h2⟩⟩
 ·have a:=n1 u hu
  have b:=n2 u hu
  have a1: ¬s.half<u.half:=fun k=>a (.inl k)
  have a2:s.half≠u.half:=fun k=>a (.inr ⟨k,h1⟩)
  have b1: ¬u.half<w.half:=fun k=>b (.inl k)
  have b2:u.half≠w.half:=fun k=>b (.inr ⟨k,h2⟩)
  omega
theorem ajR{u w n:PtQ}(hu:u.half≠0)(hw:w.half≠0)(hn:n.half≠0)(e1:w.half=u.half)(e2:u.half=n.half)(h1:0<u.cross n)(h2: ¬0<u.cross w):0<w.cross n:=by
 by_cases k:0<w.cross u
 ·have b1:Bef w u:= .inr ⟨e1,k⟩
  have b2:Bef u n:= .inr ⟨e2,h1⟩
  rcases afn b1 b2 with q|⟨_,q⟩
  ·omega
  ·exact q
 ·have hz:w.cross u=0:=by rw[acV] at k⊢;grind
  by_cases q:0<w.cross n
  ·exact q
  ·exfalso
   have b2:Bef u n:= .inr ⟨e2,h1⟩
   by_cases q2:0<n.cross w
   ·have b3:Bef n w:= .inr ⟨by omega,q2⟩
    rcases afn b2 b3 with z|⟨_,z⟩
    ·omega
    ·exact h2 z
   ·have hz2:w.cross n=0:=by rw[acV] at q2;grind
    rcases adR hw with hh|hh
    ·have a:=ade.1 hh
     have b:=ade.1 (show u.half=1 by omega)
     have c:=ade.1 (show n.half=1 by omega)
     unfold PtQ.cross at*
     have j1:w.x*(u.x*n.y-u.y*n.x)=0:=by grind
     have j2:w.y*(u.x*n.y-u.y*n.x)=0:=by grind
     rcases iV.1 j1 with z|z
     ·rcases iV.1 j2 with z2|z2<;>grind
     ·grind
    ·have a:=aeh.1 hh
     unfold PtQ.cross at*
     have j1:w.x*(u.x*n.y-u.y*n.x)=0:=by grind
     have j2:w.y*(u.x*n.y-u.y*n.x)=0:=by grind
     rcases iV.1 j1 with z|z
     ·rcases iV.1 j2 with z2|z2<;>grind
     ·grind
theorem aAz{ds:List PtQ}(nz: ∀d∈ds,d.half≠0){s u w:PtQ}(hs:s∈ds)(hu:u∈ds)(hw:w∈ds)(hn:Nxt ds s w)(h1:0<s.cross u):0<s.cross w:=by
 have zs:=adR (nz s hs)
 have zu:=adR (nz u hu)
 have zw:=adR (nz w hw)
 have hneg:=awH (nz s hs)
 have hnz:(ag4 s).half≠0:=by omega
 have e1:u.cross (ag4 s)=s.cross u:=by rw[ans,acV s u];grind
 have e2:w.cross (ag4 s)=s.cross w:=by rw[ans,acV s w];grind
 rcases hn with⟨b,no⟩|⟨n1,n2⟩
 ·by_cases e:s.half=w.half
  ·rcases b with b|⟨_,b⟩
   ·omega
   ·exact b
  ·have e3:s.half=1∧w.half=2:=by
    rcases b with b|⟨b,_⟩
    ·omega
    ·exact absurd b e
   have nu:=no u hu
   rcases zu with k|k
   ·exact absurd ⟨.inr ⟨by omega,h1⟩, .inl (by omega)⟩ nu
   ·rw[←e2]
    exact ajR (nz u hu) (nz w hw) hnz (by omega) (by omega) (by rw[e1];exact h1) fun q=>nu ⟨.inl (by omega), .inr ⟨by omega,q⟩⟩
 ·have a:=n1 u hu
  have b:=n2 u hu
  have a1: ¬s.half<u.half:=fun k=>a (.inl k)
  have a2:s.half≠u.half:=fun k=>a (.inr ⟨k,h1⟩)
  have b1: ¬u.half<w.half:=fun k=>b (.inl k)
  rw[←e2]
  exact ajR (nz u hu) (nz w hw) hnz (by omega) (by omega) (by rw[e1];exact h1) fun q=>b (.inr ⟨by omega,q⟩)
theorem ap9(s u w:LnQ)(h p:PtQ):s.dir.cross u.dir*w.value p=s.dir.cross u.dir*w.value h+w.dir.cross u.dir*(s.value p-s.value h)+s.dir.cross w.dir*(u.value p-u.value h):=by
 rw[abD,abD,abD,abD,abD,abD]
 unfold PtQ.cross LnQ.dir
 grind
theorem atZ{c:aag}(hc:aaV c): ∀d∈c.map (fun s=>s.l.dir),d.half≠0:=fun d hd=>by
 obtain⟨s,hs,rfl⟩:=bK.1 hd
 exact avC (hc.ok s hs)
theorem aAG{c:aag}(hc:aaV c){s w:FrQ}(hs:s∈c)(hw:w∈c)(hn:Nxt (c.map fun s=>s.l.dir) s.l.dir w.l.dir)(nh:s.v.nh=false):0<s.l.dir.cross w.l.dir∧w.l.value (s.l.at s.v.hi)=0:=by
 obtain⟨u,hu,z1,z2⟩:=aAl hc hs nh
 have su:0<s.l.dir.cross u.l.dir:=by rw[acV,aj2];grind
 have nz:=atZ hc
 have ms:=dS (f:=fun s:FrQ=>s.l.dir) hs
 have mu:=dS (f:=fun s:FrQ=>s.l.dir) hu
 have mw:=dS (f:=fun s:FrQ=>s.l.dir) hw
 have sw:=aAz nz ms mu mw hn su
 refine⟨sw,?_⟩
 obtain⟨p1,p2⟩:=hc.edge s hs
 have hin:=(p2 _).1 (azh p1 nh)
 have hs0:=acw (hc.ok s hs).ne s.v.hi
 have h0:=hin w hw
 by_cases q:w.l.value (s.l.at s.v.hi)=0
 ·exact q
 ·exfalso
  have wu:0≤w.l.dir.cross u.l.dir:=by
   by_cases k:0<u.l.dir.cross w.l.dir
   ·exact(akT nz ms mu mw hn su k sw).elim
   ·rw[acV];grind
  obtain⟨t1,t2⟩:=ahg hc hw
  have e:=ap9 s.l u.l w.l (s.l.at s.v.hi) (w.l.at w.v.sample)
  rw[t2,z1,hs0] at e
  have g1:=aap su (show 0<w.l.value (s.l.at s.v.hi) by grind)
  have g2:=aab wu (t1 s hs)
  have g3:=aab (dQ sw) (t1 u hu)
  grind
theorem aAu{c:aag}(hc:aaV c){s w:FrQ}(hs:s∈c)(hw:w∈c)(hn:Nxt (c.map fun s=>s.l.dir) s.l.dir w.l.dir)(sw:0<s.l.dir.cross w.l.dir)(nl:w.v.nl=false):s.l.value (w.l.at w.v.lo)=0:=by
 obtain⟨u,hu,z1,z2⟩:=aB7 hc hw nl
 have uw:0<u.l.dir.cross w.l.dir:=by rw[aj2];exact z2
 have nz:=atZ hc
 have ms:=dS (f:=fun s:FrQ=>s.l.dir) hs
 have mu:=dS (f:=fun s:FrQ=>s.l.dir) hu
 have mw:=dS (f:=fun s:FrQ=>s.l.dir) hw
 obtain⟨p1,p2⟩:=hc.edge w hw
 have hin:=(p2 _).1 (ayG p1 nl)
 have hw0:=acw (hc.ok w hw).ne w.v.lo
 have h0:=hin s hs
 by_cases q:s.l.value (w.l.at w.v.lo)=0
 ·exact q
 ·exfalso
  have us:0≤u.l.dir.cross s.l.dir:=by
   by_cases k:0<s.l.dir.cross u.l.dir
   ·exact(akT nz ms mu mw hn k uw sw).elim
   ·rw[acV];grind
  obtain⟨t1,t2⟩:=ahg hc hs
  have e:=ap9 u.l w.l s.l (w.l.at w.v.lo) (s.l.at s.v.sample)
  rw[t2,z1,hw0] at e
  have g1:=aap uw (show 0<s.l.value (w.l.at w.v.lo) by grind)
  have g2:=aab (dQ sw) (t1 u hu)
  have g3:=aab us (t1 w hw)
  grind
theorem aj9{l m:LnQ}(h:crossI l m≠0){p:PtQ}(h1:l.value p=0)(h2:m.value p=0):p=abq l m:=by
 rw[azr h]
 have hd:=ano h
 rw[abD] at h1 h2
 obtain⟨x,y⟩:=p
 have e1:x*l.nor.cross m.nor=(l.b:Rat)*(m.c:Rat)-(l.c:Rat)*(m.b:Rat):=by unfold PtQ.cross LnQ.nor;grind
 have e2:y*l.nor.cross m.nor=(l.c:Rat)*(m.a:Rat)-(l.a:Rat)*(m.c:Rat):=by unfold PtQ.cross LnQ.nor;grind
 generalize l.nor.cross m.nor=d at*
 simp only[PtQ.mk.injEq]
 constructor<;>grind
theorem aq5{c:aag}(hb:ad1 c=true):c≠[]∧ ∀s∈c,s.v.nl=false∧s.v.nh=false:=by
 unfold ad1 at hb
 rw[bT,dZ] at hb
 refine⟨fun e=>by rw[e] at hb;simp at hb,fun s hs=>?_⟩
 have:=hb.2 s hs
 simpa using this
theorem aCG{c:aag}(hc:aaV c)(ha:apC c)(hb:ad1 c=true){i:Nat}{s w:FrQ}(hs:c[i]? =some s)(hw:c[(i+1)%c.length]? =some w):0<s.l.dir.cross w.l.dir∧abq s.l w.l=s.l.at s.v.hi∧w.l.at w.v.lo=s.l.at s.v.hi:=by
 have he:=(aq5 hb).2
 have ms:=aY hs
 have mw:=aY hw
 have hn:Nxt (c.map fun s=>s.l.dir) s.l.dir w.l.dir:=aAf ha (by rw[cW,hs];rfl) (by rw[aJ,cW,hw];rfl)
 obtain⟨h1,h2⟩:=aAG hc ms mw hn (he s ms).2
 have h3:=aAu hc ms mw hn h1 (he w mw).1
 have hx:crossI s.l w.l≠0:=aBu ((acH _).2 h1)
 refine⟨h1,(aj9 hx (acw (hc.ok s ms).ne _) h2).symm,?_⟩
 rw[aj9 hx h3 (acw (hc.ok w mw).ne _),aj9 hx (acw (hc.ok s ms).ne _) h2]
theorem aqv{α β:Type}(f:α→β): ∀l:List α,l.flatMap (fun x=>[f x])=l.map f
 |[]=>rfl
 |a::t=>by rw[kZ,aqv f t];rfl
theorem ah2{α β:Type}{f g:α→List β}: ∀{l:List α},(∀x∈l,f x=g x)→l.flatMap f=l.flatMap g
 |[],_=>rfl
 |a::t,h=>by rw[kZ,kZ,h a aZ,ah2 fun x hx=>h x (aK _ hx)]
theorem akX{c:aag}(hc:aaV c)(ha:apC c)(hb:ad1 c=true):ach (c.map (·.l))=c.map fun s=>s.l.at s.v.hi:=by
 unfold ach
 rw[aJ]
 have h0: ∀i∈List.range c.length,asf (c.map (·.l)) i=[(c.map fun s=>s.l.at s.v.hi).getD i ⟨0,0⟩]:=fun i hi=>by
  have hi':=nM.1 hi
  obtain⟨s,hs⟩: ∃s,c[i]? =some s:=⟨_,aQ hi'⟩
  obtain⟨w,hw⟩: ∃w,c[(i+1)%c.length]? =some w:=⟨_,aQ (dJ _ (by omega))⟩
  obtain⟨h1,h2,h3⟩:=aCG hc ha hb hs hw
  rw[aga (l:=s.l) (m:=w.l) (by rw[cW,hs];rfl) (by rw[aJ,cW,hw];rfl),if_pos ((acH _).2 h1),h2,aX,cW,hs];rfl
 rw[ah2 h0,aqv]
 refine List.ext_getElem (by simp) fun i h1 h2=>?_
 rw[pW,List.getElem_range,aX,aQ (by simpa using h2)];rfl
theorem ajt{c:aag}(hc:aaV c)(ha:apC c)(hb:ad1 c=true):0<c.length:=by
 have:=(aq5 hb).1
 cases c with
 |nil=>exact absurd rfl this
 |cons a t=>simp
def adm{α:Type}(f:α→Rat):List α→Rat
 |[]=>0
 |a::t=>f a+adm f t
theorem apR{α:Type}(f:α→Rat): ∀(l m:List α),adm f (l++m)=adm f l+adm f m
 |[],m=>by rw[lZ,adm];grind
 |a::t,m=>by rw[jZ,adm,adm,apR f t m];grind
def aI3(f:PtQ→PtQ→Rat)(v:List PtQ):Rat:=adm (fun i=>f (v.getD i ⟨0,0⟩) (v.getD ((i+1)%v.length) ⟨0,0⟩)) (List.range v.length)
def aIu(c:aag):Rat:=adm (fun s=>(s.v.hi-s.v.lo)*(s.l.c:Rat)) c

def eCl(x:List LnQ×Bool):DV:= .ag [.sl (x.1.map eL),vB x.2]
theorem aC1(l:List (List LnQ×Bool)):adl 2 (l.map eCl):=fun d hd=>by
 obtain⟨x,_,rfl⟩:=bK.1 hd
 exact⟨rfl,rfl⟩
def eSd(c:List LnQ):DV:= .sl (c.map eL)
theorem aCJ(l:List (List LnQ)):adl 1 (l.map eSd):=fun d hd=>by
 obtain⟨x,_,rfl⟩:=bK.1 hd
 exact⟨rfl,rfl⟩
theorem aod{b:Bool}{c:List LnQ}(hc: ∀m∈c,LB m)(hok: ∀m∈c,m.ok)(hn:c.length≤1000):PR GB prog 130 [eT (.leaf b), .sl (c.map eL)] 2 225 ((aa0 (.leaf b) c).map eCl):=by
 refine fnR func130 J J ntmps130 J J (fun C hmb=>?_)
 refine cl rfl (aoI hc hok (by omega)) rfl<|?_
 refine bb (fu2:=⟨8⟩) J J J (fun hc13=>?_) (fun hc13=>?_)
 ·
  exact aGX J J (by rw[aa0,if_neg (by simpa using hc13)];rfl)
 ·
  refine knT J J J<|ro J J<|?_
  exact rzR J J J (by rw[aa0,if_pos (by simpa using hc13)]<;>rfl)
theorem anE{l:LnQ}{x y:Tr}{c:List LnQ}(hc: ∀m∈c,LB m)(hok: ∀m∈c,m.ok)(hl:LB l)(hlo:l.ok)(hn:c.length+(Tr.node l x y).depth≤1000)(hs:(Tr.node l x y).size≤100000)(ihx: ∀{c:List LnQ},(∀m∈c,LB m)→(∀m∈c,m.ok)→c.length+x.depth≤1000→PR GB prog 130 [eT x, .sl (c.map eL)] 2 225 ((aa0 x c).map eCl))(ihy: ∀{c:List LnQ},(∀m∈c,LB m)→(∀m∈c,m.ok)→c.length+y.depth≤1000→PR GB prog 130 [eT y, .sl (c.map eL)] 2 225 ((aa0 y c).map eCl)):PR GB prog 130 [eT (.node l x y), .sl (c.map eL)] 2 225 ((aa0 (.node l x y) c).map eCl):=by
 haveI:=hl
 have hd:(Tr.node l x y).depth=1+max x.depth y.depth:=rfl
 have hz:(Tr.node l x y).size=1+x.size+y.size:=rfl
 have hcl:=aet c
 have go: ∀{P:LnQ→Prop} {k:LnQ},(∀m∈c,P m)→P k→ ∀m∈aaJ c++[k],P m:=fun{P k} h1 h2 m hm=>by
  rcases bR.1 hm with h|h
  ·exact h1 m (aa4.1 h).1
  ·rw[aV.1 h];exact h2
 have h1:=aeB x (aaJ c++[l])
 have h2:=aeB y (aaJ c++[l.rev])
 refine fnR func130 J J ntmps130 J J (fun C hmb=>?_)
 refine cl rfl (aoI hc hok (by omega)) rfl<|?_
 refine bb (fu2:=⟨8⟩) J J J (fun hc13=>?_) (fun hc13=>?_)
 ·
  exact aGX J J (by rw[aa0,if_neg (by simpa using hc13)];rfl)
 ·
  refine knF J J J<|ro0 J J<|ap ((aaJ c).map eL) J J (acs _) rfl<|rf J J<|apf ((aaJ c++[l]).map eL) rfl (by rw[bY]<;>rfl) (acs [l]) rfl<|?_
  refine cr rfl (ihx (c:=aaJ c++[l]) (go hc hl) (go hok hlo) (by rw[aW,fT];omega)) rfl<|ro0 J J<|ap ((aaJ c).map eL) J J (acs _) rfl<|?_
  refine cl rfl (ajO (l:=l)) rfl<|rf J J<|apf ((aaJ c++[l.rev]).map eL) rfl (by rw[bY]<;>rfl) (acs [l.rev]) rfl<|cr rfl (ihy (c:=aaJ c++[l.rev]) (go hc inferInstance) (go hok hlo.rev) (by rw[aW,fT];omega)) rfl<|?_
  refine ap ((aa0 x (aaJ c++[l])++aa0 y (aaJ c++[l.rev])).map eCl) rfl (by rw[bY]) (aC1 _) rfl<|?_
  exact rzR J J J (by rw[aa0,if_pos (by simpa using hc13)]<;>rfl)
theorem aoC: ∀{t:Tr} {c:List LnQ},t.all LB→t.all LnQ.ok→t.size≤100000→(∀m∈c,LB m)→(∀m∈c,m.ok)→c.length+t.depth≤1000→PR GB prog 130 [eT t, .sl (c.map eL)] 2 225 ((aa0 t c).map eCl)
 | .leaf _,_,_,_,_,hc,hk,hn=>aod hc hk (by omega)
 | .node l x y,c,hb,ho,hs,hc,hk,hn=>anE hc hk hb.1 ho.1 hn hs (fun a b d=>aoC hb.2.1 ho.2.1 (by have:(Tr.node l x y).size=1+x.size+y.size:=rfl;omega) a b d) (fun a b d=>aoC hb.2.2 ho.2.2 (by have:(Tr.node l x y).size=1+x.size+y.size:=rfl;omega) a b d)
def alY(ps:List (List LnQ×Bool)):List (List LnQ):=(ps.filter (·.2)).map (·.1)
theorem aqM{ps:List (List LnQ×Bool)}{k:Nat}{b:Bool}{e:List LnQ}(h:ps[k]? =some (e,b)):alY (ps.drop k)=(if b then [e] else [])++alY (ps.drop (k+1)):=by
 obtain⟨h1,h2⟩:=aL.1 h
 rw[bJ h1,h2]
 unfold alY
 cases b<;>simp
theorem ayb{t:Tr}{ps:List (List LnQ×Bool)}(h:ps=aa0 t [])(hb:t.all LB)(ho:t.all LnQ.ok)(hd:t.depth≤1000)(hs:t.size≤100000):PR GB prog 130 [eT t, .sl []] 2 225 (ps.map eCl):=h▸aoC (c:=[]) hb ho hs (fun m h=>by cases h) (fun m h=>by cases h) (by rw[fY];omega)
theorem aEr{t:Tr}(hb:t.all LB)(ho:t.all LnQ.ok)(hd:t.depth≤1000)(hs:t.size≤100000):PF GB prog 61 [eT t] (.sl ((alY (aa0 t [])).map eSd)):=by
 obtain⟨ps,hps⟩: ∃ps,ps=aa0 t []:=⟨_,rfl⟩
 have hpl:=aeB t []
 rw[←hps] at hpl
 have hml:(ps.map eCl).length=ps.length:=aJ ..
 refine fn func61 J J ntmps61 J J (fun C=>?_)
 refine cr (fu:=⟨1⟩) rfl (ayb hps hb ho hd hs) rfl<|?_
 refine eqF 8 (.d (vI (ps.length:Nat))) rfl (by rw[hml]<;>rfl) ?_
 refine gx rfl<|?_
 refine nr 3 3 126 1 J J J ?_
 refine lp (X:=List (List LnQ)×Nat) (fun⟨acc,k⟩=>[(9, .d (vI (k:Nat))),(3, .rw 3)]) (fun⟨acc,k⟩=>[(3,some (.b 126 1 (acc.map eSd) true))]) (fun⟨acc,k⟩=>acc++alY (ps.drop k)=alY ps∧k≤ps.length) (fun⟨acc,k⟩=>ps.length-k) ⟨[],0⟩ rfl ⟨rfl,bQ _⟩ (fun _=>rfl) (fun⟨acc,k⟩ hk=>?_)
 try dsimp only at hk⊢
 obtain⟨h1,h2⟩:=hk
 have hal:acc.length≤ps.length:=by
  have q1:=congrArg List.length h1
  have q2:(alY ps).length≤ps.length:=by unfold alY;rw[aJ];exact kJ ..
  rw[aW] at q1;omega
 have ham:(acc.map eSd).length=acc.length:=aJ ..
 refine br J J J (fun hc10=>?_) (fun hc10=>?_)
 ·
  obtain⟨⟨e,b⟩,hx⟩: ∃x,ps[k]? =some x:=⟨_,aQ (by omega)⟩
  refine lb _ rfl (aas hx) rfl<|?_
  refine bb J J J (fun hc14=>?_) (fun hc14=>?_)
  ·
   refine rf J J<|ap ((acc++[e]).map eSd) rfl (by rw[bY]<;>rfl) (aCJ [e]) rfl<|?_
   refine rnE 19 3 rfl ?_
   exact at_ ⟨acc++[e],k+1⟩ (by dsimp only;exact⟨⟨by rw[←h1,aqM hx,if_pos hc14];simp,by omega⟩,(by omega)⟩)
  ·
   exact at_ ⟨acc,k+1⟩ (by dsimp only;exact⟨⟨by rw[←h1,aqM hx,if_neg (by simp at hc14;rw[hc14];decide)];rfl,by omega⟩,(by omega)⟩)
 ·
  obtain rfl:k=ps.length:=by omega
  obtain rfl:acc=alY ps:=by rw[fV] at h1;simpa[alY] using h1
  subst hps
  refine fzE 3 rfl ?_
  exact rz J J
theorem azy(l:List PtQ):adl 6 (l.map eP):=fun d hd=>by
 obtain⟨x,_,rfl⟩:=bK.1 hd
 exact⟨rfl,rfl⟩
def eRp(v:List PtQ):DV:= .sl (v.map eP)
theorem al6: ∀L:List LnQ,(L.flatMap fun l=>[l.dir,ag4 l.dir]).length=2*L.length
 |[]=>rfl
 |l::L=>by
  have:=al6 L
  rw[kZ,aW,this]
  simp only[bW,fY];omega
theorem aBW{L:List LnQ}(hb: ∀l∈L,LB l): ∀d∈L.flatMap (fun l=>[l.dir,ag4 l.dir]),BPt d 97:=fun d hd=>by
 obtain⟨l,h1,h2⟩:=fX.1 hd
 haveI:=hb l h1
 simp only[aR,jL,or_false] at h2
 rcases h2 with rfl|rfl
 ·infer_instance
 ·have:BPt l.dir 97:=inferInstance
  exact⟨inferInstanceAs (BQ (-l.dir.x) 97),inferInstanceAs (BQ (-l.dir.y) 97)⟩
theorem azH{L:List LnQ}(hb: ∀l∈L,LB l)(hn:L.length≤100000):PF GB prog 70 [.sl (L.map eL)] (.sl ((ach L).map eP)):=by
 have hml:(L.map eL).length=L.length:=aJ ..
 refine fn (fu:=⟨15⟩) func70 J J ntmps70 J J (fun C=>?_)
 refine eqF 10 (.d (vI (L.length:Nat))) rfl (by rw[hml]<;>rfl) ?_
 refine gx rfl<|?_
 refine nr 3 3 54 6 J J J ?_
 refine lp (X:=List PtQ×Nat) (fun⟨acc,k⟩=>[(11, .d (vI (k:Nat))),(3, .rw 3)]) (fun⟨acc,k⟩=>[(3,some (.b 54 6 (acc.map eP) true))]) (fun⟨acc,k⟩=>acc=(List.range k).flatMap (asf L)∧k≤L.length) (fun⟨acc,k⟩=>L.length-k) ⟨[],0⟩ rfl ⟨rfl,bQ _⟩ (fun _=>rfl) (fun⟨acc,k⟩ hk=>?_)
 try dsimp only at hk⊢
 obtain⟨h1,h2⟩:=hk
 have hal:=agl L k
 rw[←h1] at hal
 have ham:(acc.map eP).length=acc.length:=aJ ..
 refine br J J J (fun hc12=>?_) (fun hc12=>?_)
 ·
  obtain⟨l,hx⟩: ∃u,L[k]? =some u:=⟨_,aQ (by omega)⟩
  obtain⟨m,hw⟩: ∃w,L[(k+1)%L.length]? =some w:=⟨_,aQ (dJ _ (by omega))⟩
  haveI:=hb l (aY hx)
  haveI:=hb m (aY hw)
  refine ix (fu:=⟨13⟩) _ rfl (aas hx) rfl<|?_
  refine eqF 20 (.d (vI (L.length:Nat))) rfl (by rw[hml]<;>rfl) ?_
  refine gx (fu:=⟨1⟩) rfl<|?_
  refine eqF 21 (.d (vI (((k+1)%L.length:Nat):Int))) J J ?_
  refine gx rfl<|ix _ rfl (aas hw) rfl<|cl rfl (ahn (l:=l)) rfl<|cl rfl (ahn (l:=m)) rfl<|cl rfl (ahG (p:=l.dir) (q:=m.dir) (i:=97) (j:=97)) rfl<|?_
  refine cl rfl (q_S (q:=l.dir.cross m.dir)) rfl<|?_
  refine br J J J (fun hc30=>?_) (fun hc30=>?_)
  ·
   refine cl rfl (avu (l:=l) (m:=m)) rfl<|rf J J<|ap ((acc++[abq l m]).map eP) rfl (by rw[bY]<;>rfl) (azy [abq l m]) rfl<|?_
   refine rnE 40 3 rfl ?_
   exact at_ ⟨acc++[abq l m],k+1⟩ (by dsimp only;exact⟨⟨by rw[aft,aga hx hw,if_pos hc30,←h1],by omega⟩,(by omega)⟩)
  ·
   exact at_ ⟨acc,k+1⟩ (by dsimp only;exact⟨⟨by rw[aft,aga hx hw,if_neg hc30,←h1,oR],by omega⟩,(by omega)⟩)
 ·
  have hS:ach L=acc:=by unfold ach;rw[h1,show k=L.length by omega]
  refine fzE 3 rfl ?_
  exact rz rfl (by rw[hS];rfl)
theorem aCT{p:PtQ}:PF GB prog 132 [eP p] (eP (ag4 p)):=by
 refine fn func132 J J ntmps132 J J (fun C=>?_)
 refine cl rfl al9 rfl<|cl rfl al9 rfl<|?_
 exact rz J J
theorem aDE{L:List LnQ}(hb: ∀l∈L,LB l)(hn:L.length≤100000):PF GB prog 62 [.sl (L.map eL)] (vB (aos L)):=by
 have hml:(L.map eL).length=L.length:=aJ ..
 obtain⟨ds,hds⟩: ∃ds,ds=L.flatMap fun l=>[l.dir,ag4 l.dir]:=⟨_,rfl⟩
 have hdl:ds.length=2*L.length:=by rw[hds];exact al6 L
 have hdb: ∀d∈ds,BPt d 97:=fun d hd=>by rw[hds] at hd;exact aBW hb d hd
 have hbl:aos L=(!L.isEmpty&&ds.all fun v=>!ajL L v):=by unfold aos;rw[←hds]
 have hdm:(ds.map eP).length=ds.length:=aJ ..
 refine fn (fu:=⟨15⟩) func62 J J ntmps62 J J (fun C=>?_)
 refine eqF 12 (.d (vI (L.length:Nat))) rfl (by rw[hml]<;>rfl) ?_
 refine gx rfl<|?_
 refine nr 3 3 54 6 J J J ?_
 refine lp (X:=List PtQ×Nat) (fun⟨acc,k⟩=>[(13, .d (vI (k:Nat))),(3, .rw 3)]) (fun⟨acc,k⟩=>[(3,some (.b 54 6 (acc.map eP) true))]) (fun⟨acc,k⟩=>acc=(L.take k).flatMap (fun l=>[l.dir,ag4 l.dir])∧k≤L.length) (fun⟨acc,k⟩=>L.length-k) ⟨[],0⟩ rfl ⟨rfl,bQ _⟩ (fun _=>rfl) (fun⟨acc,k⟩ hk=>?_)
 try dsimp only at hk⊢
 obtain⟨h1,h2⟩:=hk
 have hal:acc.length=2*k:=by rw[h1,al6,cR];omega
 have ham:(acc.map eP).length=acc.length:=aJ ..
 refine br (fu2:=⟨10⟩) J J J (fun hc14=>?_) (fun hc14=>?_)
 ·
  obtain⟨l,hx⟩: ∃u,L[k]? =some u:=⟨_,aQ (by omega)⟩
  haveI:=hb l (aY hx)
  refine ix _ rfl (aas hx) rfl<|cl rfl (ahn (l:=l)) rfl<|cl rfl (ahn (l:=l)) rfl<|cl rfl (aCT (p:=l.dir)) rfl<|rf J J<|?_
  refine ap (hv:=by simp only[aah];exact⟨by kernel_rfl,by omega⟩) ((acc++[l.dir,ag4 l.dir]).map eP) rfl (by rw[bY]<;>rfl) (azy [l.dir,ag4 l.dir]) rfl<|?_
  refine rnE 24 3 rfl ?_
  exact at_ ⟨acc++[l.dir,ag4 l.dir],k+1⟩ (by dsimp only;exact⟨⟨by rw[iX,hx,nS,←h1];rfl,by omega⟩,(by omega)⟩)
 ·
  obtain rfl:ds=acc:=by rw[h1,hds,aT (by omega)]
  refine eqF 27 (.d (vI (ds.length:Nat))) rfl (by rw[hdm]<;>rfl) ?_
  refine gx rfl<|?_
  refine br (fu2:=⟨7⟩) J J J (fun hc28=>?_) (fun hc28=>?_)
  ·
   have hF:aos L=false:=by rw[hbl];cases L with|nil=>rfl|cons a b=>exfalso;rw[bW] at hdl;omega
   exact rz rfl (by rw[hF];rfl)
  ·
   have hT:aos L=ds.all fun v=>!ajL L v:=by rw[hbl];cases L with|nil=>exfalso;rw[fY] at hdl;omega|cons a b=>rfl
   refine eqF 30 (.d (vI (ds.length:Nat))) rfl (by rw[hdm]<;>rfl) ?_
   refine gx rfl<|?_
   refine lp (X:=Nat) (fun k=>[(31, .d (vI (k:Nat)))]) (fun k=>[]) (fun k=>(ds.drop k).all (fun v=>!ajL L v)=ds.all (fun v=>!ajL L v)∧k≤ds.length) (fun k=>ds.length-k) 0 rfl ⟨rfl,bQ _⟩ (fun _=>rfl) (fun k hk=>?_)
   obtain⟨h3,h4⟩:=hk
   refine br J J J (fun hc32=>?_) (fun hc32=>?_)
   ·
    obtain⟨v,hv⟩: ∃u,ds[k]? =some u:=⟨_,aQ (by omega)⟩
    haveI:=hdb v (aY hv)
    refine lb (fu:=⟨14⟩) _ rfl (aas hv) rfl<|?_
    refine eqF 36 (.d (vI (L.length:Nat))) rfl (by rw[hml]<;>rfl) ?_
    refine gx rfl<|?_
    refine dvC 8 _ J J ?_
    refine lp (X:=Bool×Nat) (fun⟨b,j⟩=>[(37, .d (vI (j:Nat))),(8, .d (vB b))]) (fun⟨b,j⟩=>[]) (fun⟨b,j⟩=>(b&&(L.drop j).all fun l=>decide (0≤Int.sign (l.dir.cross v).num))=ajL L v∧j≤L.length) (fun⟨b,j⟩=>L.length-j) ⟨true,0⟩ rfl ⟨by simp[ajL],bQ _⟩ (fun _=>rfl) (fun⟨b,j⟩ hk=>?_)
    try dsimp only at hk⊢
    obtain⟨g1,g2⟩:=hk
    refine br (fu1:=⟨6⟩) J J J (fun hc38=>?_) (fun hc38=>?_)
    ·
     obtain⟨l,hy⟩: ∃u,L[j]? =some u:=⟨_,aQ (by omega)⟩
     haveI:=hb l (aY hy)
     cases b
     ·
      refine gx rfl<|ix (fu:=⟨7⟩) _ rfl (aas hy) rfl<|knF (hv:=by simp only[aah];exact⟨by kernel_rfl,by omega⟩) J J J<|?_
      refine dvE 8 _ J J ?_
      exact at_ ⟨false,j+1⟩ (by dsimp only;exact⟨⟨by rw[←g1];simp,by omega⟩,(by omega)⟩)
     ·
      refine gx rfl<|ix (fu:=⟨7⟩) _ rfl (aas hy) rfl<|knT J J J<|cl rfl (ahn (l:=l)) rfl<|cl rfl (ahG (p:=l.dir) (q:=v) (i:=97) (j:=97)) rfl<|?_
      refine cl (hv:=by simp only[aah];exact⟨by kernel_rfl,by omega⟩) rfl (q_S (q:=l.dir.cross v)) rfl<|?_
      refine dvE 8 _ J J ?_
      exact at_ ⟨decide (0≤Int.sign (l.dir.cross v).num),j+1⟩ (by dsimp only;exact⟨⟨by rw[←g1,acj hy];simp,by omega⟩,(by omega)⟩)
    ·
     obtain rfl:j=L.length:=by omega
     rw[fV] at g1
     have hst:ajL L v=b:=by rw[←g1];simp
     refine bb J J J (fun hc51=>?_) (fun hc51=>?_)
     ·
      have hF:aos L=false:=by rw[hT,←h3,acj hv,hst,hc51];rfl
      exact rz rfl (by rw[hF];rfl)
     ·
      exact at_ (k+1) ⟨⟨by rw[←h3,acj hv,hst,hc51];rfl,by omega⟩,(by omega)⟩
   ·
    have hT2:aos L=true:=by rw[hT,←h3,fZ (by omega)];rfl
    exact rz rfl (by rw[hT2];rfl)
structure EGU (GB:Gh) (ai al ae au:Addr):Prop extends EG GB ai al ae where
 ErrUnbounded:GB 0=some [.iface 427 (.pointer (some au))]
theorem aHb{α:Type}{f:α→DV}{l:List α}{s:α}(h:l[0]? =some s):(l.map f)[(0:Int).toNat]? =some (f s):=by simp[h]
def aID(c:aag):List (List PtQ):=aDn (ach (c.map (·.l)))
theorem anx(c:List LnQ):(ach c).length≤c.length:=agl c _
theorem aiC{c:List LnQ}(hb: ∀l∈c,LB l): ∀p∈ach c,BPt p 1200:=fun p hp=>by
 obtain⟨l,hl,m,hm,rfl⟩:=axZ hp
 have:= @BPt.imeet l m (hb l hl) (hb m hm)
 exact⟨this.x.mono (by decide),this.y.mono (by decide)⟩
theorem apl{p q:Rat}{i j:Nat}[hp:BQ p i][hq:BQ q j](hi:i≤100000000:=by decide):PF GB prog 78 [eR p,eR q] (vB (decide (p=q))):=by
 refine fn func78 J J ntmps78 J J (fun C=>?_)
 refine cl rfl (aBn (a:=p.num) (b:=q.num) (i:=i) (j:=j) (by omega)) rfl<|?_
 refine csd 10 J J J (fun hg10=>?_) (fun hg10=>?_)
 ·
  refine cl rfl (auJ (a:=p.den) (b:=q.den) (i:=i) (j:=j) (by omega)) rfl<|?_
  exact rz rfl (by rw[show decide (p=q)=decide (p.den=q.den) from decide_eq_decide.2 ⟨fun e=>by rw[e],fun e=>Rat.ext hg10 e⟩]<;>rfl)
 ·
  exact rz rfl (by rw[decide_eq_false (fun e:p=q=>hg10 (by rw[e]))]<;>rfl)
theorem aqJ{p q:PtQ}{i j:Nat}[hp:BPt p i][hq:BPt q j](hi:i≤100000000:=by decide)(he:p=q):PF GB prog 24 [ePt p,ePt q] (.v (.bool true)):=by
 refine fn func24 J J ntmps24 J J (fun C=>?_)
 refine cl (fu:=⟨0⟩) rfl (apl (p:=p.x) (q:=q.x) (i:=i) (j:=j) hi) rfl<|?_
 refine eqF 9 (.d (vB true)) rfl (by rw[he];simp) ?_
 refine kbT 9 rfl ?_
 refine gx rfl<|cl (fu:=⟨0⟩) rfl (apl (p:=p.y) (q:=q.y) (i:=i) (j:=j) hi) rfl<|?_
 refine eqF 15 (.d (vB true)) rfl (by rw[he];simp) ?_
 refine gx rfl<|?_
 exact rz J J
theorem ags{t:Tr}(h:t.all LnQ.ok):alY (aa0 t [])=(aai t).map fun c=>c.map (·.l):=aDW h
theorem au3{t:Tr}(h:t.all LnQ.ok):(alY (aa0 t [])).all aos=(aai t).all ad1:=by
 rw[ags h,List.all_map]
 have hg:=adM h
 generalize aai t=cs at*
 induction cs with
 |nil=>rfl
 |cons c cs ih=>rw[rS,rS,ih fun d hd=>hg d (aK _ hd)];simp only[Function.comp];rw[aE1 (hg c aZ)]
theorem azz{t:Tr}(hb:t.all LB)(ho:t.all LnQ.ok): ∀L∈alY (aa0 t []),(∀l∈L,LB l)∧L.length≤t.depth:=fun L hL=>by
 rw[ags ho] at hL
 obtain⟨c,hc,rfl⟩:=bK.1 hL
 exact⟨fun l hl=>by obtain⟨s,hs,rfl⟩:=bK.1 hl;exact aiL hb ho c hc s hs,by rw[aJ];exact acY hb ho c hc⟩
theorem atF{t:Tr}(ho:t.all LnQ.ok):(alY (aa0 t [])).length≤t.size+1:=by
 rw[ags ho,aJ];exact aes t
theorem apK{α β:Type}{f:α→List β}{k:Nat}: ∀{l:List α},(∀x∈l,(f x).length≤k)→(l.flatMap f).length≤l.length*k
 |[],_=>by simp
 |a::t,h=>by
  have h1:=h a aZ
  have h2:=apK (f:=f) fun x hx=>h x (aK a hx)
  rw[kZ,aW,bW,iU];omega
theorem at8{k0:Nat}{t:Tr}(h:TrX k0 t)(hk0:k0≤900):PF GB prog 15 [eT t] (vB ((aai t).all ad1)):=by
 rw[←au3 h.ok]
 obtain⟨cs,hcs⟩: ∃cs,cs=alY (aa0 t []):=⟨_,rfl⟩
 have hcl:=atF h.ok
 have hlb:=azz h.lb h.ok
 rw[←hcs] at hcl hlb⊢
 have hts:=h.s
 have htd:=h.dp
 have hml:(cs.map eSd).length=cs.length:=aJ ..
 refine fn func15 J J ntmps15 J J (fun C=>?_)
 refine cl (fu:=⟨0⟩) rfl (aEr (t:=t) h.lb h.ok (by omega) (by omega)) rfl<|?_
 refine eqF 6 (.d (.sl (cs.map eSd))) rfl (by rw[hcs]) ?_
 refine gx (fu:=⟨1⟩) rfl<|?_
 refine eqF 7 (.d (vI (cs.length:Nat))) rfl (by rw[hml]<;>rfl) ?_
 refine gx rfl<|?_
 refine lp (X:=Nat) (fun k=>[(8, .d (vI (k:Nat)))]) (fun k=>[]) (fun k=>(cs.drop k).all aos=cs.all aos∧k≤cs.length) (fun k=>cs.length-k) 0 rfl ⟨rfl,bQ _⟩ (fun _=>rfl) (fun k hk=>?_)
 obtain⟨h1,h2⟩:=hk
 refine br J J J (fun hc9=>?_) (fun hc9=>?_)
 ·
  obtain⟨c,hx⟩: ∃u,cs[k]? =some u:=⟨_,aQ (by omega)⟩
  have hcb:=hlb c (aY hx)
  refine ix _ rfl (aas hx) rfl<|cl rfl (aDE (L:=c) hcb.1 (by omega)) rfl<|?_
  refine bb J J J (fun hc14=>?_) (fun hc14=>?_)
  ·
   have hF:cs.all aos=false:=by rw[←h1,acj hx,show aos c=false by simpa using hc14];rfl
   exact rz rfl (by rw[hF];rfl)
  ·
   exact at_ (k+1) ⟨⟨by rw[←h1,acj hx,show aos c=true by simpa using hc14];rfl,by omega⟩,(by omega)⟩
 ·
  have hT:cs.all aos=true:=by rw[←h1,fZ (by omega)];rfl
  exact rz rfl (by rw[hT];rfl)
def aG0(t:Tr):Prop:= ∃(L:List LnQ) (R:Rat),(∀l∈L,l.ok)∧ ∀p,Off L p→aFf R p→t.val p=false
theorem aw8(fill:Int):avZ fill 0=false:=by
 unfold avZ
 simp
theorem aBU{rs:List (List ZP)}{fill:Int}(hr: ∀r∈rs,aaU r){p:PtQ}(hp:aFf 100 p):inR rs fill p=false:=by
 have key: ∀(rs:List (List ZP)),(∀r∈rs,aaU r)→rs.foldl (fun n r=>n+anA r p) (0:Int)=0:=by
  intro rs
  induction rs with
  |nil=>intro _;rfl
  |cons r t ih=>
   intro hr
   have e:anA r p=0:=by
    unfold anA
    rw[alN]
    refine az8 (R:=100) (fun v hv=>?_) hp
    obtain⟨h1,h2⟩:=(hr r aZ).le v hv
    have c: ∀z:Int,z.natAbs≤100→ -(100:Rat)≤(z:Rat)∧(z:Rat)≤100:=fun z hz=>by
     have a:((-100:Int):Rat)≤(z:Rat):=Rat.intCast_le_intCast.2 (by omega)
     have b:(z:Rat)≤((100:Int):Rat):=Rat.intCast_le_intCast.2 (by omega)
     exact⟨a,b⟩
    exact⟨(c _ h1).1,(c _ h1).2,(c _ h2).1,(c _ h2).2⟩
   rw[jW,e]
   exact ih fun r h=>hr r (aK _ h)
 unfold inR
 rw[key rs hr,aw8]
theorem aA4{rs:List (List ZP)}{fill:Int}(hr: ∀r∈rs,aaU r):(aAP rs fill).all LnQ.ok:=aeP fun f hf=>((acI hr).2 f hf).ok
theorem asH{rs:List (List ZP)}{fill:Int}(hr: ∀r∈rs,aaU r):aG0 (ae4 rs fill):=
 ⟨(aAP rs fill).lns,100,ayt (aA4 hr),fun p ho hp=>by rw[avg hr ho,aBU hr hp]⟩
theorem aA7{A:Rat}(hA:A≠0)(B:Rat): ∃N:Rat,0≤N∧ ∀n,N≤n→A+n*B≠0:=by
 by_cases hB:B=0
 ·exact⟨0,by decide,fun n _=>by rw[hB];grind⟩
 ·have e:A/B*B=A:=by grind
  generalize A/B=q at*
  refine⟨if 0≤ -q then-q+1 else 0,by split<;>grind,fun n hn h=>?_⟩
  have h2:B*(q+n)=0:=by grind
  rcases iV.1 h2 with k|k
  ·exact hB k
  ·split at hn<;>grind
theorem aAp{L:List LnQ}{p d:PtQ}(h:Off L p): ∃N:Rat,0≤N∧ ∀n,N≤n→Off L (adv p d n):=by
 induction L with
 |nil=>exact⟨0,by decide,fun n _ l hl=>by cases hl⟩
 |cons l L ih=>
  obtain⟨N,n0,hN⟩:=ih (h.sub fun m hm=>aK _ hm)
  obtain⟨M,m0,hM⟩:=aA7 (h l aZ) (l.nor.dot d)
  refine⟨N+M,by grind,fun n hn m hm=>?_⟩
  rcases aR.1 hm with rfl|hm
  ·rw[abL];exact hM n (by grind)
  ·exact hN n (by grind) m hm
theorem amt{a:Rat}(ha:0<a)(x R:Rat): ∃N:Rat,0≤N∧ ∀n,N≤n→R<x+n*a:=by
 have e:(R-x)/a*a=R-x:=by grind
 generalize (R-x)/a=q at*
 refine⟨if 0≤q then q+1 else 0,by split<;>grind,fun n hn=>?_⟩
 have h2:=aap (show 0<n-q by split at hn<;>grind) ha
 grind
theorem aBL{p d:PtQ}(hd:d≠⟨0,0⟩)(R:Rat): ∃N:Rat,0≤N∧ ∀n,N≤n→aFf R (adv p d n):=by
 obtain⟨x,y⟩:=d
 rcases acX x with h|h|h
 ·rcases acX y with k|k|k
  ·exact absurd (by rw[h,k]) hd
  ·obtain⟨N,n0,hN⟩:=amt k p.y R
   exact⟨N,n0,fun n hn=> .inr (.inr (.inr (hN n hn)))⟩
  ·obtain⟨N,n0,hN⟩:=amt (a:= -y) (by grind) (-p.y) R
   exact⟨N,n0,fun n hn=> .inr (.inr (.inl (by have:=hN n hn;show p.y+n*y< -R;grind)))⟩
 ·obtain⟨N,n0,hN⟩:=amt h p.x R
  exact⟨N,n0,fun n hn=> .inr (.inl (hN n hn))⟩
 ·obtain⟨N,n0,hN⟩:=amt (a:= -x) (by grind) (-p.x) R
  exact⟨N,n0,fun n hn=> .inl (by have:=hN n hn;show p.x+n*x< -R;grind)⟩
theorem awS{c:aag}(hc:aaV c)(h:ad1 c=false): ∃d:PtQ,d≠⟨0,0⟩∧ ∀u∈c,0≤u.l.nor.dot d:=by
 unfold ad1 at h
 cases c with
 |nil=>exact⟨⟨1,0⟩,by simp,fun u hu=>by cases hu⟩
 |cons s0 c0=>
  have h':((s0::c0).all fun s=>!s.v.nl&&!s.v.nh)=false:=by simpa using h
  rw[List.all_eq_false] at h'
  obtain⟨s,hs,hv⟩:=h'
  have hne:s.l.dir≠⟨0,0⟩:=fun e=>avC (hc.ok s hs) (by rw[e];decide)
  cases nh:s.v.nh with
  |true=>exact⟨s.l.dir,hne,auZ hc hs nh⟩
  |false=>
   have nl:s.v.nl=true:=by simpa[nh] using hv
   refine⟨ag4 s.l.dir,fun e=>hne ?_,fun u hu=>?_⟩
   ·unfold ag4 at e
    generalize s.l.dir=d at*
    obtain⟨x,y⟩:=d
    simp only[PtQ.mk.injEq] at*
    constructor<;>grind
   ·have:=avH hc hs nl u hu
    unfold ag4 PtQ.dot at*
    grind
theorem aun{t:Tr}(ht:t.all LnQ.ok)(hb:aG0 t):(aai t).all ad1=true:=by
 rw[dZ]
 intro c hc
 obtain⟨hg,hv⟩:=afJ ht aaV.nil (adB.1 hc)
 cases hq:ad1 c with
 |true=>rfl
 |false=>
  exfalso
  obtain⟨L,R,h1,h2⟩:=hb
  obtain⟨d,d0,hd⟩:=awS hg hq
  obtain⟨p,hp,ho⟩:=aCI hg L h1
  obtain⟨N,n0,hN⟩:=aAp (d:=d) ho
  obtain⟨M,m0,hM⟩:=aBL (p:=p) d0 R
  have hin:InD c (adv p d (N+M)):=fun s hs=>by
   rw[abL]
   have a:=hp s hs
   have b:=aab (show 0≤N+M by grind) (hd s hs)
   grind
  have:=(hv _ hin).2
  rw[h2 _ (hN _ (by grind)) (hM _ (by grind))] at this
  cases this
theorem at7{rs:List (List ZP)}{fill:Int}(h: ∀r∈rs,aaU r)(hn:rs.length≤2):ahY 12 (ae4 rs fill):=by
 obtain⟨h1,h2⟩:=acI h
 exact((avn h2 rfl).restrict []).mono (by omega)
def aHM(es:List Int):Nat→Nat→Tr×Nat
 |0,a=>ads es a
 |d+1,a=>
  let k:=aae es 3 a
  if(k.1:Int)=0 then
   let x:=aHM es d k.2
   let o:=aae es 4 x.2
   let y:=aHM es d o.2
   (x.1.mergeQ (1+(o.1:Int)) y.1 [],y.2)
  else ads es k.2
def aJn:List ZP:=[(0,0),(1,0),(0,1)]
theorem avz{b:Nat}{es:List Int}(hes:es.length≤400){A:Tr}(hA:A=(aar es 1 0).1):PM GB prog 12 (mkP [none,some (vI 1)] b) b 104 [.sl (es.map vI), .v (.int .i64 (0:Nat))] (eT A) [.sl (es.map vI), .v (.int .i64 ((aar es 1 0).2:Nat))]:=by
 subst hA;exact atK hes (bQ _) (d:=1) (by decide)
structure EGS (GB:Gh) (ai al ae au ar:Addr):Prop extends EGU GB ai al ae au where
 ErrEmpty:GB 2=some [.iface 427 (.pointer (some ae))]
 ErrRange:GB 1=some [.iface 427 (.pointer (some ar))]
def aHB(r:List PtQ)(j:Nat):Nat→PtQ
 |0=>(((r.getD 0 ⟨0,0⟩).add (r.getD 1 ⟨0,0⟩)).add (r.getD 2 ⟨0,0⟩)).scale (((1:Int):Rat)/((3:Int):Rat))
 |k+1=>((aHB r j k).add (r.getD j ⟨0,0⟩)).scale (((1:Int):Rat)/((2:Int):Rat))
def smp(ts:List (List PtQ))(i:Nat):PtQ:=aHB (ts.getD (i%ts.length) []) (i%3) (i/ts.length)
theorem ay3{p:PtQ}{i:Nat}[h:BPt p i](hi:i≤400000000:=by decide):PF GB prog 25 [eP p] (ePt p):=by
 refine fn func25 J J ntmps25 J J (fun C=>?_)
 refine cl rfl (amy (q:=p.x) (i:=i) (by omega)) rfl<|cl rfl (amy (q:=p.y) (i:=i) (by omega)) rfl<|?_
 exact rz J J
theorem aBk{m n:Int}(hm:m.natAbs≤1000)(hn:n.natAbs≤1000):PF GB prog 71 [vI m,vI n] (eF ((m:Rat)/(n:Rat))):=by
 haveI:=biC (k:=11) hm (by decide)
 haveI:=biC (k:=11) hn (by decide)
 refine fn func71 J J ntmps71 J J (fun C=>?_)
 refine cl rfl (ajG (m:=m) (by omega)) rfl<|cl rfl (ajG (m:=n) (by omega)) rfl<|cl rfl (akD (p:=(m:Rat)) (q:=(n:Rat)) (i:=12) (j:=12)) rfl<|?_
 exact rz J J
theorem agI{α:Type}(f:α→Rat){l:List α}{k:Nat}{x:α}(h:l[k]? =some x):adm f (l.take (k+1))=adm f (l.take k)+f x:=by
 have:l.take (k+1)=l.take k++[x]:=by rw[iX,h];rfl
 rw[this,apR]
 show _+(f x+0)=_
 grind
structure aEe (cs:List aag) (b:Nat):Prop where
 lb: ∀c∈cs,∀s∈c,LB s.l
 sh: ∀c∈cs,c.length≤100000
 ln:cs.length≤1000000
 pt: ∀x∈adY (ab8 cs),BPt x.1 b∧BPt x.2 b
theorem apr{L:List (PtQ×PtQ)}: ∀e∈L.map edE,e.length=2:=fun e he=>by
 obtain⟨x,_,rfl⟩:=bK.1 he
 rfl
theorem aoy{L:List (PtQ×PtQ)}{k:Nat}{e:List DV}(h:(L.map edE)[k]? =some e): ∃x,L[k]? =some x∧e=edE x:=by
 rw[cW] at h
 cases hl:L[k]? with
 |none=>rw[hl] at h;cases h
 |some x=>rw[hl] at h;cases h;exact⟨x,rfl,rfl⟩
theorem aAR{cs:List aag}{b m:Nat}(ho:aEe cs b)(hb:b≤40000000)(hs: ∀k,BQ (adm (fun x=>x.1.cross x.2) ((adY (ab8 cs)).take k)) m)(hm:m≤100000000)(hc: ∀x∈adY (ab8 cs),BQ (x.1.cross x.2) m):
  PF GB prog 82 [.sl (cs.map eC)] (eF (adm (fun x=>x.1.cross x.2) (adY (ab8 cs))*mkRat 1 2)):=by
 obtain⟨L,hL⟩: ∃L,L=adY (ab8 cs):=⟨_,rfl⟩
 obtain⟨Sm,hSm⟩: ∃Sm:Nat→Rat,Sm=fun k=>adm (fun x=>x.1.cross x.2) (L.take k):=⟨_,rfl⟩
 have h00:Sm 0=0:=by rw[hSm];rfl
 have hSk: ∀k,BQ (Sm k) m:=by rw[hSm,hL];exact hs
 refine fnI func82 J J ntmps82 J J (fun C h0=>?_)
 refine cmk J J J apz (fun _=>rfl) (fun GB1 pv hg1 hpv=>?_)
 refine imB 3 [vI (fn_ 0),vI (fd_ 0),fp_ 0] rfl (fun G m=>zF) rfl ?_
 refine rnF 2 2000002 h0.fx rfl<|rnF 3 2000003 h0.fx rfl ?_
 refine aGM (σ:=Empty) (fun k=>[(2000002,some (.o 142 [.d (vI 0), .d (vI 0), .d (.v (.pointer none))] true)),(2000003,some (.o 142 [.d (vI (fn_ (Sm k))), .d (vI (fd_ (Sm k))), .d (fp_ (Sm k))] true))]) (fun _=>True) (fun _=>[]) (fun _=>False) [(2, .ov 2000002 0),(3, .ov 2000003 0)]
  h0 rfl (amk ho.lb ho.sh ho.ln ho.pt hb) (.cons hpv .nil) ⟨rfl,rfl,trivial⟩ rfl (by rw[h00];exact⟨rfl,rfl,trivial⟩) trivial apr J J (fun k e GB' hE hg hp=>?_) (fun D hD hx hp=>?_) (fun D s hD hx hq=>hq.elim)
 ·obtain⟨x,hx,rfl⟩:=aoy hE
  refine⟨?_,?_,fun C2=>?_,fun C2=>?_⟩
  rotate_left 2
  ·refine gx rfl ?_
   exact atR
  ·haveI:=hs k
   haveI:=hc x (aY hx)
   rw[←hL] at hx
   refine gx rfl<|cl rfl (acL (p:=Sm k) (q:=x.1.cross x.2) (i:=m) (j:=m) hm hm) rfl ?_
   have e1:Sm (k+1)=Sm k+x.1.cross x.2:=by rw[hSm];exact agI _ hx
   exact rq trivial (by rw[e1];exact⟨rfl,rfl,trivial⟩)
 ·have eN:Sm (((adY (ab8 cs)).map edE).length)=adm (fun x=>x.1.cross x.2) (adY (ab8 cs)):=by
   rw[hSm,hL,aJ]
   show adm _ (List.take _ _)=_
   rw[dX]
  haveI:BQ (adm (fun x=>x.1.cross x.2) (adY (ab8 cs))) m:=by rw[←eN];exact hSk _
  rw[eN]
  refine gx rfl<|cl rfl (aoK (q:=adm (fun x=>x.1.cross x.2) (adY (ab8 cs))) hm) rfl ?_
  exact rzD hD hx J J
def aFF(x:PtQ×PtQ):PtQ:=(x.1.add x.2).scale (x.1.cross x.2)
def aHi{α:Type}(f:α→PtQ)(l:List α):PtQ:=⟨adm (fun x=>(f x).x) l,adm (fun x=>(f x).y) l⟩
theorem zZ{G:Gh}{m:List Value}(h:IsLs G [vI 0,vI 0, .v (.pointer none),vI 0,vI 0, .v (.pointer none)] m):IsLs G [vI (fn_ 0),vI (fd_ 0),fp_ 0,vI (fn_ 0),vI (fd_ 0),fp_ 0] m:=by
 obtain⟨y1,m1,rfl,h1,h⟩:=aad.1 h
 obtain⟨y2,m2,rfl,h2,h⟩:=aad.1 h
 obtain⟨y3,m3,rfl,h3,h⟩:=aad.1 h
 have a:=zF (m:=[y1,y2,y3]) (.cons h1 (.cons h2 (.cons h3 .nil)))
 exact a.app (zF h)
def qF(es:List Int)(a:Nat):Rat×Nat:=
 (if((aae es 6 (aae es 9 a).2).1:Int)=0 then mkRat (2*(((aae es 9 a).1:Int)-4)+1) 2 else if((aae es 6 (aae es 9 a).2).1:Int)=1 then mkRat (3*(((aae es 9 a).1:Int)-4)+1) 3 else(((aae es 9 a).1:Rat)-4:Rat),(aae es 6 (aae es 9 a).2).2)
def aFA(es:List Int)(a:Nat):PtQ×Nat:=(⟨(qF es a).1,(qF es (qF es a).2).1⟩,(qF es (qF es a).2).2)
def lnO:LnQ:=⟨1,0,0⟩
def aJp(es:List Int)(L:List LnQ)(a:Nat):PtQ×Nat:=
 if L.length=0 then aFA es a else
 if((aae es 3 (aae es L.length a).2).1:Int)=0 then
  (if crossI (L.getD (aae es L.length a).1 lnO) (L.getD (aae es L.length (aae es 3 (aae es L.length a).2).2).1 lnO)≠0 then(abq (L.getD (aae es L.length a).1 lnO) (L.getD (aae es L.length (aae es 3 (aae es L.length a).2).2).1 lnO),(aae es L.length (aae es 3 (aae es L.length a).2).2).2) else aFA es (aae es L.length (aae es 3 (aae es L.length a).2).2).2)
 else if((aae es 3 (aae es L.length a).2).1:Int)=1 then((L.getD (aae es L.length a).1 lnO).at (qF es (aae es 3 (aae es L.length a).2).2).1,(qF es (aae es 3 (aae es L.length a).2).2).2) else aFA es (aae es 3 (aae es L.length a).2).2
theorem at4:BPt ⟨0,0⟩ 1200:=⟨BQ.zero1200,BQ.zero1200⟩
structure EGV (GB:Gh) (ai al ae au:Addr):Prop extends EGU GB ai al ae au where
 ErrEmpty:GB 2=some [.iface 427 (.pointer (some ae))]
def asb(x:PtQ×PtQ):Rat:=(x.1.x*x.1.x+x.2.x*x.2.x+(x.1.add x.2).x*(x.1.add x.2).x)*x.1.cross x.2
def ash(x:PtQ×PtQ):Rat:=(x.1.x*x.1.y+x.2.x*x.2.y+(x.1.add x.2).x*(x.1.add x.2).y)*x.1.cross x.2
def ar8(x:PtQ×PtQ):Rat:=(x.1.y*x.1.y+x.2.y*x.2.y+(x.1.add x.2).y*(x.1.add x.2).y)*x.1.cross x.2
structure asj (cs:List aag):Prop where
 ed:aEe cs 1200
 cr: ∀x∈adY (ab8 cs),BQ (x.1.cross x.2) 5000
 ar: ∀k,BQ (adm (fun x=>x.1.cross x.2) ((adY (ab8 cs)).take k)) 2000000
 mo: ∀k,BPt (aHi aFF ((adY (ab8 cs)).take k)) 3000000
 sa: ∀k,BQ (adm asb ((adY (ab8 cs)).take k)) 4000000
 sb: ∀k,BQ (adm ash ((adY (ab8 cs)).take k)) 4000000
 sc: ∀k,BQ (adm ar8 ((adY (ab8 cs)).take k)) 4000000
def ar2(t:Tr):Rat:=adm (fun x=>x.1.cross x.2) (adY (ab8 (aai t)))*mkRat 1 2
def aIE(t:Tr):PtQ:=(aHi aFF (adY (ab8 (aai t)))).scale (((1:Int):Rat)/((6:Int):Rat))
theorem asj.cr2{cs:List aag}(h:asj cs): ∀x∈adY (ab8 cs),BQ (x.1.cross x.2) 2000000:=fun x hx=>(h.cr x hx).mono (by decide)
theorem asj.ar1{cs:List aag}(h:asj cs):BQ (adm (fun x=>x.1.cross x.2) (adY (ab8 cs))) 2000000:=by
 have:=h.ar (adY (ab8 cs)).length
 rwa [dX] at this
theorem asj.area{t:Tr}(h:asj (aai t)):BQ (ar2 t) 2000003:=by
 haveI:=h.ar1
 exact BQ.mono (inferInstance:BQ (adm (fun x=>x.1.cross x.2) (adY (ab8 (aai t)))*mkRat 1 2) _) (by decide)
def zR0:DV:= .ag [vB false, .sl [], .sl []]
def zP0:DV:= .ag [vB false, .sl [], .sl [],vB false, .sl [], .sl []]
theorem al4{k0:Nat}{t:Tr}(h:TrX k0 t)(hk0:k0≤900):PF GB prog 95 [eA t] (.tp [.sl ((aai t).map eC), .v .nilIface]):=by
 have hts:=h.s
 have htd:=h.dp
 refine fn func95 J J ntmps95 J J (fun C=>?_)
 refine cl (fu:=⟨12⟩) rfl (aGu h) rfl<|?_
 refine kbT 12 rfl ?_
 refine gx rfl<|cl (fu:=⟨0⟩) rfl (aoR (t:=t) (by omega)) rfl<|knF rfl (by show some (decide _)=some false;rw[decide_eq_false (by omega)]) rfl<|cl rfl (aBv h.lb h.ok (by omega) (by omega)) rfl<|?_
 exact rz J J
theorem ahz{cs:List aag}(hn: ∀c∈cs,c.length≤100000)(hl:cs.length≤1000000):PF GB prog 96 [.sl (cs.map eC)] (vB (cs.all ad1)):=by
 have hml:(cs.map eC).length=cs.length:=aJ ..
 refine fn (fu:=⟨10⟩) func96 J J ntmps96 J J (fun C=>?_)
 refine eqF 6 (.d (vI (cs.length:Nat))) rfl (by rw[hml]<;>rfl) ?_
 refine gx rfl<|?_
 refine lp (X:=Nat) (fun k=>[(7, .d (vI (k:Nat)))]) (fun k=>[]) (fun k=>k≤cs.length∧cs.all ad1=(cs.drop k).all ad1) (fun k=>cs.length-k) 0 rfl ⟨bQ _,by rw[gR]⟩ (fun _=>rfl) (fun k hk=>?_)
 refine br J J J (fun hc8=>?_) (fun hc8=>?_)
 ·
  obtain⟨c,hx⟩: ∃u,cs[k]? =some u:=⟨_,aQ (by omega)⟩
  refine ix _ rfl (aas hx) rfl<|cl rfl (aER (c:=c) (hn c (aY hx))) rfl<|?_
  refine bb J J J (fun hc13=>?_) (fun hc13=>?_)
  ·
   have hS:cs.all ad1=false:=by rw[hk.2,acj hx];rw[gJ] at hc13;rw[hc13];rfl
   exact rz rfl (by rw[hS];rfl)
  ·
   rw[Bool.not_eq_false'] at hc13
   exact at_ (k+1) ⟨⟨by omega,by rw[hk.2,acj hx,hc13,Bool.true_and]⟩,(by omega)⟩
 ·
  have hS:cs.all ad1=true:=by rw[hk.2,fZ (by omega)];rfl
  exact rz rfl (by rw[hS];rfl)
theorem agV{ai al ae au:Addr}(hE:EGV GB ai al ae au){k0:Nat}{t:Tr}(h:TrX k0 t)(hk0:k0≤900)(hbd:(aai t).all ad1=false):PF GB prog 81 [eA t] (.tp [.sl [],aql au]):=by
 obtain⟨cs,hcs⟩: ∃cs,cs=aai t:=⟨_,rfl⟩
 have hts:=h.s
 have htd:=h.dp
 have hcl:=aes t
 have hcn:=acY h.lb h.ok
 rw[←hcs] at hcl hcn
 rw[←hcs] at hbd
 refine fn func81 J J ntmps81 J J (fun C=>?_)
 refine cl (fu:=⟨0⟩) rfl (al4 h hk0) rfl<|?_
 refine eqF 8 (.d (.tp [.sl (cs.map eC), .v .nilIface])) rfl (by rw[hcs]) ?_
 refine gx rfl<|cl (fu:=⟨0⟩) rfl (ahz (cs:=cs) (fun c hc=>by have:=hcn c hc;omega) (by omega)) rfl<|?_
 refine eqF 15 (.d (vB false)) rfl (by rw[hbd]) ?_
 refine kbF 15 rfl ?_
 refine gx rfl<|gl rfl hE.ErrUnbounded rfl<|?_
 exact rz J J
theorem aiF{k0:Nat}{t:Tr}(h:TrX k0 t)(hk0:k0≤900)(hbd:(aai t).all ad1=true):PF GB prog 81 [eA t] (.tp [.sl ((aai t).map eC), .v .nilIface]):=by
 obtain⟨cs,hcs⟩: ∃cs,cs=aai t:=⟨_,rfl⟩
 have hts:=h.s
 have htd:=h.dp
 have hcl:=aes t
 have hcn:=acY h.lb h.ok
 rw[←hcs] at hcl hcn
 rw[←hcs] at hbd
 refine fn func81 J J ntmps81 J J (fun C=>?_)
 refine cl (fu:=⟨0⟩) rfl (al4 h hk0) rfl<|?_
 refine eqF 8 (.d (.tp [.sl (cs.map eC), .v .nilIface])) rfl (by rw[hcs]) ?_
 refine gx rfl<|cl (fu:=⟨0⟩) rfl (ahz (cs:=cs) (fun c hc=>by have:=hcn c hc;omega) (by omega)) rfl<|?_
 refine eqF 15 (.d (vB true)) rfl (by rw[hbd]) ?_
 refine kbT 15 rfl ?_
 refine gx rfl<|?_
 exact rz rfl (by rw[←hcs];rfl)
theorem aho{k0:Nat}{t:Tr}(h:TrX k0 t)(hk0:k0≤900):PF GB prog 36 [eA t] (.tp [vB ((aai t).all ad1), .v .nilIface]):=by
 obtain⟨cs,hcs⟩: ∃cs,cs=aai t:=⟨_,rfl⟩
 have hts:=h.s
 have htd:=h.dp
 have hcl:=aes t
 have hcn:=acY h.lb h.ok
 rw[←hcs] at hcl hcn
 refine fn func36 J J ntmps36 J J (fun C=>?_)
 refine cl (fu:=⟨0⟩) rfl (al4 h hk0) rfl<|?_
 refine eqF 8 (.d (.tp [.sl (cs.map eC), .v .nilIface])) rfl (by rw[hcs]) ?_
 refine gx rfl<|cl rfl (ahz (cs:=cs) (fun c hc=>by have:=hcn c hc;omega) (by omega)) rfl<|?_
 exact rz rfl (by rw[←hcs];rfl)
theorem aBR{ai al ae au:Addr}(hE:EGV GB ai al ae au){k0:Nat}{t:Tr}(h:TrX k0 t)(hk0:k0≤900)(hbd:(aai t).all ad1=false):PF GB prog 28 [eA t] (.tp [zR0,aql au]):=by
 refine fn func28 J J ntmps28 J J (fun C=>?_)
 refine cl rfl (agV hE h hk0 hbd) rfl<|?_
 exact rz J J
theorem aBT{k0:Nat}{t:Tr}(h:TrX k0 t)(hk0:k0≤900)(hbd:(aai t).all ad1=true)(hm:asj (aai t)):PF GB prog 28 [eA t] (.tp [eR (ar2 t), .v .nilIface]):=by
 haveI:=hm.area
 refine fn func28 J J ntmps28 J J (fun C=>?_)
 refine cl rfl (aiF h hk0 hbd) rfl<|cl rfl (aAR hm.ed (by decide) hm.ar (by decide) hm.cr2) rfl<|cl rfl (akH (q:=ar2 t) (i:=2000003)) rfl<|?_
 exact rz J J
theorem aEZ{ai al ae au:Addr}(hE:EGV GB ai al ae au){k0:Nat}{t:Tr}(h:TrX k0 t)(hk0:k0≤900)(hbd:(aai t).all ad1=false):PF GB prog 29 [eA t] (.tp [zP0,aql au]):=by
 refine fn func29 J J ntmps29 J J (fun C=>?_)
 refine cl rfl (agV hE h hk0 hbd) rfl<|?_
 exact rz J J
theorem aDy{ai al ae au:Addr}(hE:EGV GB ai al ae au){k0:Nat}{t:Tr}(h:TrX k0 t)(hk0:k0≤900)(hbd:(aai t).all ad1=false):PF GB prog 30 [eA t] (.tp [zP0,aql au]):=by
 refine fn func30 J J ntmps30 J J (fun C=>?_)
 refine cl rfl (agV hE h hk0 hbd) rfl<|?_
 exact rz J J
def tw4:Rat:=((1:Int):Rat)/((24:Int):Rat)
def awY(f:PtQ×PtQ→Rat)(t:Tr):Rat:=adm f (adY (ab8 (aai t)))*tw4
theorem zF3{G:Gh}{m:List Value}(h:IsLs G [vI 0,vI 0, .v (.pointer none),vI 0,vI 0, .v (.pointer none),vI 0,vI 0, .v (.pointer none)] m):IsLs G [vI (fn_ 0),vI (fd_ 0),fp_ 0,vI (fn_ 0),vI (fd_ 0),fp_ 0,vI (fn_ 0),vI (fd_ 0),fp_ 0] m:=by
 obtain⟨y1,m1,rfl,h1,h⟩:=aad.1 h
 obtain⟨y2,m2,rfl,h2,h⟩:=aad.1 h
 obtain⟨y3,m3,rfl,h3,h⟩:=aad.1 h
 have a:=zF (m:=[y1,y2,y3]) (.cons h1 (.cons h2 (.cons h3 .nil)))
 exact a.app (zZ h)
theorem aCO:BQ tw4 6:=⟨by decide+kernel,by decide+kernel⟩
theorem aCF{k0:Nat}{t:Tr}(h:TrX k0 t)(hk0:k0≤900)(hbd:(aai t).all ad1=true)(hm:asj (aai t)):PF GB prog 31 [eA t] (.tp [eR (awY asb t),eR (awY ash t),eR (awY ar8 t), .v .nilIface]):=by
 obtain⟨cs,hcs⟩: ∃cs,cs=aai t:=⟨_,rfl⟩
 obtain⟨L,hL⟩: ∃L,L=adY (ab8 cs):=⟨_,rfl⟩
 rw[←hcs] at hm
 obtain⟨Sa,hSa⟩: ∃S:Nat→Rat,S=fun k=>adm asb (L.take k):=⟨_,rfl⟩
 obtain⟨Sb,hSb⟩: ∃S:Nat→Rat,S=fun k=>adm ash (L.take k):=⟨_,rfl⟩
 obtain⟨Sc,hSc⟩: ∃S:Nat→Rat,S=fun k=>adm ar8 (L.take k):=⟨_,rfl⟩
 have ha0:Sa 0=0:=by rw[hSa];rfl
 have hb0:Sb 0=0:=by rw[hSb];rfl
 have hc0:Sc 0=0:=by rw[hSc];rfl
 have hSak: ∀k,BQ (Sa k) 4000000:=by rw[hSa,hL];exact hm.sa
 have hSbk: ∀k,BQ (Sb k) 4000000:=by rw[hSb,hL];exact hm.sb
 have hSck: ∀k,BQ (Sc k) 4000000:=by rw[hSc,hL];exact hm.sc
 refine fnI func31 J J ntmps31 J J (fun C h0=>?_)
 refine cl rfl (aiF h hk0 hbd) rfl ?_
 refine cmk J J J apz (fun _=>rfl) (fun GB1 pv hg1 hpv=>?_)
 refine imB 8 [vI (fn_ 0),vI (fd_ 0),fp_ 0,vI (fn_ 0),vI (fd_ 0),fp_ 0,vI (fn_ 0),vI (fd_ 0),fp_ 0] rfl (fun G m=>zF3) rfl ?_
 refine rnF 2 2000002 h0.fx rfl<|rnF 3 2000003 h0.fx rfl<|rnF 4 2000004 h0.fx rfl<|rnF 8 2000008 h0.fx rfl ?_
 refine aGM (σ:=Empty) (fun k=>[(2000002,some (.o 63 [.ff, .nl, .nl] true)),(2000003,some (.o 63 [.ff, .nl, .nl] true)),(2000004,some (.o 63 [.ff, .nl, .nl] true)),(2000008,some (.o 164 [.d (vI (fn_ (Sa k))), .d (vI (fd_ (Sa k))), .d (fp_ (Sa k)), .d (vI (fn_ (Sb k))), .d (vI (fd_ (Sb k))), .d (fp_ (Sb k)), .d (vI (fn_ (Sc k))), .d (vI (fd_ (Sc k))), .d (fp_ (Sc k))] true))]) (fun _=>True) (fun _=>[]) (fun _=>False) [(2, .ov 2000002 0),(3, .ov 2000003 0),(4, .ov 2000004 0),(8, .ov 2000008 0)]
  h0 rfl (amk (cs:=aai t) (by rw[←hcs];exact hm.ed.lb) (by rw[←hcs];exact hm.ed.sh) (by rw[←hcs];exact hm.ed.ln) (by rw[←hcs];exact hm.ed.pt) (by decide)) (.cons hpv .nil) ⟨rfl,rfl,rfl,rfl,trivial⟩ rfl (by rw[ha0,hb0,hc0];exact⟨rfl,rfl,rfl,rfl,trivial⟩) trivial apr J J (fun k e GB' hE hg hp=>?_) (fun D hD hx hp=>?_) (fun D s hD hx hq=>hq.elim)
 ·obtain⟨x,hx,rfl⟩:=aoy hE
  rw[←hcs] at hx
  refine⟨?_,?_,fun C2=>?_,fun C2=>?_⟩
  rotate_left 2
  ·refine gx rfl<|sta J J J ⟨rfl,rfl,rfl⟩ rfl ?_
   exact atR
  ·haveI:=hSak k
   haveI:=hSbk k
   haveI:=hSck k
   haveI:=hm.cr x (aY hx)
   haveI hp1:=(hm.ed.pt x (aY hx)).1
   haveI hp2:=(hm.ed.pt x (aY hx)).2
   haveI:=hp1.x
   haveI:=hp1.y
   haveI:=hp2.x
   haveI:=hp2.y
   haveI hp3:BPt (x.1.add x.2) 2401:=inferInstance
   haveI:=hp3.x
   haveI:=hp3.y
   rw[←hL] at hx
   refine gx rfl<|ixa 0 (e:=145) (len:=2) (s:=6) rfl (by kernel_rfl) (by kernel_rfl) (by decide) rfl<|ixa 1 (e:=145) (len:=2) (s:=6) rfl (by kernel_rfl) (by kernel_rfl) (by decide) rfl<|?_
   refine cl rfl (ayq (p:=x.1) (q:=x.2) (i:=1200) (j:=1200)) rfl<|?_
   refine cl rfl (abG (p:=x.1.x) (q:=x.1.x) (i:=1200) (j:=1200)) rfl<|cl rfl (abG (p:=x.2.x) (q:=x.2.x) (i:=1200) (j:=1200)) rfl<|cl rfl (acL (p:=x.1.x*x.1.x) (q:=x.2.x*x.2.x)) rfl<|?_
   refine cl rfl (abG (p:=(x.1.add x.2).x) (q:=(x.1.add x.2).x) (i:=2401) (j:=2401)) rfl<|cl rfl (acL (p:=x.1.x*x.1.x+x.2.x*x.2.x) (q:=(x.1.add x.2).x*(x.1.add x.2).x)) rfl<|?_
   refine cl rfl (abG (p:=x.1.x) (q:=x.1.y) (i:=1200) (j:=1200)) rfl<|cl rfl (abG (p:=x.2.x) (q:=x.2.y) (i:=1200) (j:=1200)) rfl<|cl rfl (acL (p:=x.1.x*x.1.y) (q:=x.2.x*x.2.y)) rfl<|?_
   refine cl rfl (abG (p:=(x.1.add x.2).x) (q:=(x.1.add x.2).y) (i:=2401) (j:=2401)) rfl<|cl rfl (acL (p:=x.1.x*x.1.y+x.2.x*x.2.y) (q:=(x.1.add x.2).x*(x.1.add x.2).y)) rfl<|?_
   refine cl rfl (abG (p:=x.1.y) (q:=x.1.y) (i:=1200) (j:=1200)) rfl<|cl rfl (abG (p:=x.2.y) (q:=x.2.y) (i:=1200) (j:=1200)) rfl<|cl rfl (acL (p:=x.1.y*x.1.y) (q:=x.2.y*x.2.y)) rfl<|?_
   refine cl rfl (abG (p:=(x.1.add x.2).y) (q:=(x.1.add x.2).y) (i:=2401) (j:=2401)) rfl<|cl rfl (acL (p:=x.1.y*x.1.y+x.2.y*x.2.y) (q:=(x.1.add x.2).y*(x.1.add x.2).y)) rfl<|?_
   refine bar (len:=3) (s:=3) (e:=142) rfl (by kernel_rfl) (by kernel_rfl) rfl<|sta J J J ⟨rfl,rfl,rfl⟩ rfl<|ldA 9 (len:=3) (e:=142) rfl (by kernel_rfl) (by kernel_rfl) rfl<|?_
   refine lp (X:=Nat) (fun i=>[(93, .d (vI (i:Nat)))]) (fun i=>[(2000008,some (.o 164 [.d (vI (fn_ (if 0<i then Sa k+asb x else Sa k))), .d (vI (fd_ (if 0<i then Sa k+asb x else Sa k))), .d (fp_ (if 0<i then Sa k+asb x else Sa k)), .d (vI (fn_ (if 1<i then Sb k+ash x else Sb k))), .d (vI (fd_ (if 1<i then Sb k+ash x else Sb k))), .d (fp_ (if 1<i then Sb k+ash x else Sb k)), .d (vI (fn_ (if 2<i then Sc k+ar8 x else Sc k))), .d (vI (fd_ (if 2<i then Sc k+ar8 x else Sc k))), .d (fp_ (if 2<i then Sc k+ar8 x else Sc k))] true))]) (fun i=>i≤3) (fun i=>3-i) 0 rfl (by omega) (fun _=>rfl) (fun i hi=>?_)
   refine br J J J (fun hc94=>?_) (fun hc94=>?_)
   ·obtain rfl|rfl|rfl:i=0∨i=1∨i=2:=by omega
    ·refine idA 0 (len:=3) (s:=3) (e:=142) rfl (by kernel_rfl) J J (by decide) rfl<|ixa 0 (e:=142) (len:=3) (s:=3) rfl (by kernel_rfl) (by kernel_rfl) (by decide) rfl<|?_
     refine cl rfl (abG (p:=(x.1.x*x.1.x+x.2.x*x.2.x+(x.1.add x.2).x*(x.1.add x.2).x)) (q:=x.1.cross x.2) (j:=5000)) rfl<|cl rfl (acL (p:=Sa k) (q:=(x.1.x*x.1.x+x.2.x*x.2.x+(x.1.add x.2).x*(x.1.add x.2).x)*x.1.cross x.2) (i:=4000000)) rfl<|ixa (hv:=by simp only[aah];exact⟨by kernel_rfl,by omega⟩) 0 (e:=142) (len:=3) (s:=3) rfl (by kernel_rfl) (by kernel_rfl) (by decide) rfl<|?_
     exact at_ 1 ⟨by omega,by omega⟩
    ·refine idA 1 (len:=3) (s:=3) (e:=142) rfl (by kernel_rfl) J J (by decide) rfl<|ixa 1 (e:=142) (len:=3) (s:=3) rfl (by kernel_rfl) (by kernel_rfl) (by decide) rfl<|?_
     refine cl rfl (abG (p:=(x.1.x*x.1.y+x.2.x*x.2.y+(x.1.add x.2).x*(x.1.add x.2).y)) (q:=x.1.cross x.2) (j:=5000)) rfl<|cl rfl (acL (p:=Sb k) (q:=(x.1.x*x.1.y+x.2.x*x.2.y+(x.1.add x.2).x*(x.1.add x.2).y)*x.1.cross x.2) (i:=4000000)) rfl<|ixa (hv:=by simp only[aah];exact⟨by kernel_rfl,by omega⟩) 1 (e:=142) (len:=3) (s:=3) rfl (by kernel_rfl) (by kernel_rfl) (by decide) rfl<|?_
     exact at_ 2 ⟨by omega,by omega⟩
    ·refine idA 2 (len:=3) (s:=3) (e:=142) rfl (by kernel_rfl) J J (by decide) rfl<|ixa 2 (e:=142) (len:=3) (s:=3) rfl (by kernel_rfl) (by kernel_rfl) (by decide) rfl<|?_
     refine cl rfl (abG (p:=(x.1.y*x.1.y+x.2.y*x.2.y+(x.1.add x.2).y*(x.1.add x.2).y)) (q:=x.1.cross x.2) (j:=5000)) rfl<|cl rfl (acL (p:=Sc k) (q:=(x.1.y*x.1.y+x.2.y*x.2.y+(x.1.add x.2).y*(x.1.add x.2).y)*x.1.cross x.2) (i:=4000000)) rfl<|ixa (hv:=by simp only[aah];exact⟨by kernel_rfl,by omega⟩) 2 (e:=142) (len:=3) (s:=3) rfl (by kernel_rfl) (by kernel_rfl) (by decide) rfl<|?_
     exact at_ 3 ⟨by omega,by omega⟩
   ·obtain rfl:i=3:=by omega
    have e1:Sa (k+1)=Sa k+asb x:=by rw[hSa];exact agI _ hx
    have e2:Sb (k+1)=Sb k+ash x:=by rw[hSb];exact agI _ hx
    have e3:Sc (k+1)=Sc k+ar8 x:=by rw[hSc];exact agI _ hx
    exact rq trivial (by rw[e1,e2,e3];exact⟨rfl,rfl,rfl,rfl,trivial⟩)
 ·have eN:((adY (ab8 (aai t))).map edE).length=L.length:=by rw[aJ,←hcs,←hL]
  rw[eN]
  have ea:Sa L.length=adm asb L:=by rw[hSa];show adm _ (List.take _ _)=_;rw[dX]
  have eb:Sb L.length=adm ash L:=by rw[hSb];show adm _ (List.take _ _)=_;rw[dX]
  have ec:Sc L.length=adm ar8 L:=by rw[hSc];show adm _ (List.take _ _)=_;rw[dX]
  haveI:BQ (adm asb L) 4000000:=by rw[←ea];exact hSak _
  haveI:BQ (adm ash L) 4000000:=by rw[←eb];exact hSbk _
  haveI:BQ (adm ar8 L) 4000000:=by rw[←ec];exact hSck _
  haveI:=aCO
  rw[ea,eb,ec]
  refine gx rfl<|cl rfl (aBk (m:=1) (n:=24) (by decide) (by decide)) rfl<|?_
  refine ixa 0 (e:=142) (len:=3) (s:=3) rfl (by kernel_rfl) (by kernel_rfl) (by decide) rfl<|cl rfl (abG (p:=adm asb L) (q:=tw4) (i:=4000000) (j:=6)) rfl<|cl rfl (akH (q:=adm asb L*tw4) (i:=4000006)) rfl<|?_
  refine ixa 1 (e:=142) (len:=3) (s:=3) rfl (by kernel_rfl) (by kernel_rfl) (by decide) rfl<|cl rfl (abG (p:=adm ash L) (q:=tw4) (i:=4000000) (j:=6)) rfl<|cl rfl (akH (q:=adm ash L*tw4) (i:=4000006)) rfl<|?_
  refine ixa 2 (e:=142) (len:=3) (s:=3) rfl (by kernel_rfl) (by kernel_rfl) (by decide) rfl<|cl rfl (abG (p:=adm ar8 L) (q:=tw4) (i:=4000000) (j:=6)) rfl<|cl rfl (akH (q:=adm ar8 L*tw4) (i:=4000006)) rfl<|?_
  exact rzD hD hx rfl (by unfold awY;rw[←hcs,←hL];rfl)
structure DQ (D B:Nat) (x:Rat):Prop where
 ex: ∃n:Int,x*((D:Nat):Rat)=(n:Rat)∧n.natAbs≤B*D
theorem DQ.bq{D B k:Nat}{x:Rat}(h:DQ D B x)(h0:0<D)(h1:D<2^k)(h2:B*D<2^k):BQ x k:=by
 obtain⟨n,e,hn⟩:=h.ex
 exact BQ.of_frac h0 e (by omega) h1
theorem DQ.mono{D B C:Nat}{x:Rat}(h:DQ D B x)(hc:B≤C):DQ D C x:=by
 obtain⟨n,e,hn⟩:=h.ex
 exact⟨n,e,cJ hn (bV D hc)⟩
theorem DQ.add{D B C:Nat}{x y:Rat}(h:DQ D B x)(k:DQ D C y):DQ D (B+C) (x+y):=by
 obtain⟨n,e,hn⟩:=h.ex
 obtain⟨m,f,hm⟩:=k.ex
 refine⟨n+m,by rw[oL,←e,←f];grind,?_⟩
 have:=Int.natAbs_add_le n m
 rw[cS];omega
theorem DQ.neg{D B:Nat}{x:Rat}(h:DQ D B x):DQ D B (-x):=by
 obtain⟨n,e,hn⟩:=h.ex
 exact⟨-n,by rw[lN,←e];grind,by rw[iT];exact hn⟩
theorem DQ.sub{D B C:Nat}{x y:Rat}(h:DQ D B x)(k:DQ D C y):DQ D (B+C) (x-y):=by
 have:=h.add k.neg
 rw[show x-y=x+ -y by grind];exact this
theorem DQ.mul{D E B C:Nat}{x y:Rat}(h:DQ D B x)(k:DQ E C y):DQ (D*E) (B*C) (x*y):=by
 obtain⟨n,e,hn⟩:=h.ex
 obtain⟨m,f,hm⟩:=k.ex
 refine⟨n*m,?_,?_⟩
 ·rw[cV,←e,←f,Rat.natCast_mul];grind
 ·rw[iJ]
  refine cJ (gW hn hm) (Nat.le_of_eq ?_)
  rw[Nat.mul_mul_mul_comm]
theorem DQ.zero(D B:Nat):DQ D B 0:=⟨0,by grind,by simp⟩
def crN(l m:LnQ):Nat:=if crossI l m=0 then 1 else(crossI l m).natAbs
theorem aBJ(l m:LnQ):0<crN l m:=by unfold crN;split<;>omega
theorem arI(l m:LnQ):crossI l.rev m= -crossI l m:=by
 unfold crossI LnQ.rev
 show-l.a*m.b-m.a* -l.b=_
 rw[Int.neg_mul,sZ];omega
theorem apy(l m:LnQ):crossI l m.rev= -crossI l m:=by
 unfold crossI LnQ.rev
 show l.a* -m.b- -m.a*l.b=_
 rw[Int.neg_mul,sZ];omega
theorem axU{l m l' m':LnQ}(h:l.same l')(k:m.same m'):crN l' m'=crN l m:=by
 have e1:crN l' m'=crN l m':=by
  rcases h with rfl|rfl
  ·rfl
  ·unfold crN;rw[arI];simp only[Int.neg_eq_zero,iT]
 rw[e1]
 rcases k with rfl|rfl
 ·rfl
 ·unfold crN;rw[apy];simp only[Int.neg_eq_zero,iT]
def aFw(K:List LnQ):List Nat:=K.flatMap fun l=>K.map (crN l)
def aFp(K:List LnQ):Nat:=(aFw K).foldr (· * ·) 1
theorem ap3{n:Nat}: ∀{l:List Nat},n∈l→n∣l.foldr (· * ·) 1
 |a::t,h=>by
  rw[List.foldr_cons]
  rcases aR.1 h with rfl|h
  ·exact Nat.dvd_mul_right _ _
  ·exact rM (ap3 h) (Nat.dvd_mul_left _ _)
theorem aqj: ∀{l:List Nat},(∀n∈l,0<n)→0<l.foldr (· * ·) 1
 |[],_=>by decide
 |a::t,h=>by rw[List.foldr_cons];exact gL (h a aZ) (aqj fun n hn=>h n (aK _ hn))
theorem avG{b:Nat}: ∀{l:List Nat},(∀n∈l,n≤2^b)→l.foldr (· * ·) 1≤2^(b*l.length)
 |[],_=>by simp
 |a::t,h=>by
  rw[List.foldr_cons,bW,Nat.mul_succ,jK,eK]
  exact gW (h a aZ) (avG fun n hn=>h n (aK _ hn))
theorem awu(K:List LnQ):(aFw K).length=K.length*K.length:=by
 unfold aFw
 rw[List.length_flatMap]
 have: ∀Jv:List LnQ,(Jv.map fun l=>(K.map (crN l)).length).sum=Jv.length*K.length:=by
  intro Jv
  induction Jv with
  |nil=>simp
  |cons a t ih=>rw[cX,List.sum_cons,ih,aJ,bW,iU];omega
 exact this K
theorem aws(K:List LnQ):0<aFp K:=aqj fun n hn=>by
 obtain⟨l,_,h⟩:=fX.1 hn
 obtain⟨m,_,rfl⟩:=bK.1 h
 exact aBJ l m
theorem ayg{K:List LnQ}{l m:LnQ}(hl:l∈K)(hm:m∈K):crN l m∣aFp K:=ap3 (fX.2 ⟨l,hl,dS hm⟩)
theorem aEG{l m:LnQ}(hl:LB l)(hm:LB m):crN l m≤2^385:=by
 have h1:=(inferInstance:BI (crossI l m) 385).h
 generalize 385=kk at h1⊢
 unfold crN
 split
 ·exact Nat.one_le_two_pow
 ·exact lU h1
theorem aAV{K:List LnQ}(h: ∀l∈K,LB l):aFp K≤2^(385*(K.length*K.length)):=by
 have:=avG (b:=385) (l:=aFw K) fun n hn=>by
  obtain⟨l,hl,h2⟩:=fX.1 hn
  obtain⟨m,hm,rfl⟩:=bK.1 h2
  exact aEG (h l hl) (h m hm)
 rw[awu] at this
 exact this
theorem avd{x:Rat}{n c:Int}{D kk:Nat}(hc:c≠0)(hx:x=(n:Rat)/(c:Rat))(hn:n.natAbs≤2^kk)(hd:c.natAbs∣D):DQ D (2^kk) x:=by
 obtain⟨e,he⟩:=hd
 have hc':(c:Rat)≠0:=fun h=>hc (cN.1 h)
 have hD:((D:Nat):Rat)=((c.natAbs:Int):Rat)*((e:Int):Rat):=by rw[←cV,←Rat.intCast_natCast,he];rfl
 have bd:(n*(e:Int)).natAbs≤2^kk*D:=by
  rw[iJ,iS]
  refine gW hn ?_
  rw[he]
  exact Nat.le_mul_of_pos_left e (by omega)
 rcases Int.natAbs_eq c with h|h
 ·refine⟨n*(e:Int),?_,bd⟩
  rw[hD,←h,hx,cV];grind
 ·refine⟨-(n*(e:Int)),?_,by rw[iT];exact bd⟩
  have h2:(c.natAbs:Int)= -c:=by omega
  rw[hD,h2,hx,lN,lN,cV];grind
structure DP (D B:Nat) (p:PtQ):Prop where
 x:DQ D B p.x
 y:DQ D B p.y
theorem aB2{l m:LnQ}(hl:LB l)(hm:LB m)(h:crossI l m≠0){D:Nat}(hd:crN l m∣D):DP D (2^385) (abq l m):=by
 have h1:=(inferInstance:BI (meetX l m) 385).h
 have h2:=(inferInstance:BI (meetY l m) 385).h
 generalize 385=kk at h1 h2⊢
 unfold crN at hd
 rw[if_neg h] at hd
 have e:abq l m=⟨(meetX l m:Rat)/(crossI l m:Rat),(meetY l m:Rat)/(crossI l m:Rat)⟩:=by unfold abq;rw[if_neg h]
 rw[e]
 exact⟨avd h rfl (lU h1) hd,avd h rfl (lU h2) hd⟩
theorem DP.cross{D B C:Nat}{p q:PtQ}(h:DP D B p)(k:DP D C q):DQ (D*D) (2*(B*C)) (p.cross q):=by
 have:=(h.x.mul k.y).sub (h.y.mul k.x)
 refine DQ.mono this (by omega)
theorem DP.add{D B C:Nat}{p q:PtQ}(h:DP D B p)(k:DP D C q):DP D (B+C) (p.add q):=⟨h.x.add k.x,h.y.add k.y⟩
theorem DP.scale{D E B C:Nat}{p:PtQ}{c:Rat}(h:DP D B p)(k:DQ E C c):DP (D*E) (B*C) (p.scale c):=⟨h.x.mul k,h.y.mul k⟩
theorem aBm{k:Nat}{t:Tr}(h:TrX k t): ∃K:List LnQ,K.length≤k∧(∀l∈K,LB l)∧t.all fun l=> ∃m∈K,m.same l:=by
 obtain⟨K,h1,h2,h3⟩:=h.o.am
 refine⟨K.filter fun m=>t.lns.any fun l=>decide (m.same l),cJ (kJ ..) h1,fun m hm=>?_,?_⟩
 ·obtain⟨hm1,hm2⟩:=qT.1 hm
  obtain⟨l,hl,e⟩:=jV.1 hm2
  have hb:=adN.1 h.lb l hl
  have e':m.same l:=by simpa using e
  rcases e' with rfl|rfl
  ·exact hb
  ·haveI:=hb
   have:LB m.rev.rev:=inferInstance
   rwa [show m.rev.rev=m from by unfold LnQ.rev;cases m;simp] at this
 ·have h3:=adN.1 h3
  refine adN.2 fun l hl=>?_
  obtain⟨m,hm,e⟩:=h3 l hl
  exact⟨m,qT.2 ⟨hm,jV.2 ⟨l,hl,decide_eq_true e⟩⟩,e⟩
theorem ahO{P:LnQ→Prop}(hr: ∀l,P l→P l.rev): ∀{t:Tr} {c:aag} {x:Bool×aag},t.all P→(∀s∈c,P s.l)→x∈t.parts c→ ∀s∈x.2,P s.l
 | .leaf b,c,x,_,hc,h=>by
  rw[Tr.parts,aV] at h
  subst h;exact hc
 | .node l u v,c,x,ht,hc,h=>by
  have cl: ∀k,P k→ ∀s∈aaP c k,P s.l:=fun k hk s hs=>by
   unfold aaP at hs
   split at hs
   ·rcases acK.1 hs with rfl|hs
    ·exact hk
    ·obtain⟨s0,g,_,rfl⟩:=acn.1 hs
     exact hc s0 g
   ·exact hc s hs
  rw[Tr.parts] at h
  rcases bR.1 h with h|h
  ·split at h
   ·exact ahO hr ht.2.1 (cl l ht.1) h
   ·cases h
  ·split at h
   ·exact ahO hr ht.2.2 (cl l.rev (hr l ht.1)) h
   ·cases h
theorem axE{k:Nat}{t:Tr}(h:TrX k t): ∃D:Nat,0<D∧D≤2^(385*(k*k))∧ ∀c∈aai t,∀p∈ach (c.map (·.l)),DP D (2^385) p:=by
 obtain⟨K,h1,h2,h3⟩:=aBm h
 refine⟨aFp K,aws K,cJ (aAV h2) (bX (by decide) (eX 385 (gW h1 h1))),fun c hc p hp=>?_⟩
 have hs:=ahO (P:=fun l=> ∃m∈K,m.same l) (fun l ⟨m,hm,e⟩=>⟨m,hm,by
  rcases e with rfl|rfl
  ·exact .inr rfl
  ·exact .inl (by unfold LnQ.rev;cases m;simp)⟩) h3 (fun s hs=>by cases hs) (adB.1 hc)
 have hb:=aiL h.lb h.ok c hc
 obtain⟨i,hi,hp⟩:=fX.1 hp
 have hi':=nM.1 hi
 have e1:=aQ hi'
 have e2:=aQ (l:=c.map (·.l)) (dJ (i+1) (show 0<(c.map (·.l)).length by omega))
 rw[aga e1 e2] at hp
 split at hp
 ·rename_i hx
  rw[aV.1 hp]
  obtain⟨s,s1,s2⟩:=bK.1 (bN hi')
  obtain⟨u,u1,u2⟩:=bK.1 (bN (dJ (i+1) (show 0<(c.map (·.l)).length by omega)))
  rw[←s2,←u2] at hx⊢
  obtain⟨m,hm,em⟩:=hs s s1
  obtain⟨n,hn,en⟩:=hs u u1
  exact aB2 (hb s s1) (hb u u1) (aBu hx) (by rw[axU em en];exact ayg hm hn)
 ·cases hp
theorem aqk{D B a b k:Nat}{x:Rat}(h:DQ D B x)(h0:0<D)(hD:D≤2^a)(hB:B≤2^b)(hk:a+b<k):BQ x k:=by
 refine h.bq h0 (fJ hD (sQ (by decide) (by omega))) ?_
 refine fJ (gW hB hD) ?_
 rw[←eK]
 exact sQ (by decide) (by omega)
theorem pw2{x y a b:Nat}(hx:x≤2^a)(hy:y≤2^b):x*y≤2^(a+b):=by
 rw[eK];exact gW hx hy
theorem azi{α:Type}{D B:Nat}{f:α→Rat}: ∀{l:List α},(∀x∈l,DQ D B (f x))→DQ D (l.length*B) (adm f l)
 |[],_=>by show DQ D _ 0;exact DQ.zero D _
 |x::t,h=>by
  have:=(h x aZ).add (azi fun y hy=>h y (aK _ hy))
  refine DQ.mono this (Nat.le_of_eq ?_)
  rw[bW,cS,nZ,jK]
theorem alo{α:Type}{D B N:Nat}{f:α→Rat}{l:List α}(h: ∀x∈l,DQ D B (f x))(hl:l.length≤N)(k:Nat):DQ D (N*B) (adm f (l.take k)):=by
 have:=azi (l:=l.take k) fun x hx=>h x (dK hx)
 exact this.mono (bV B (cJ (by rw[cR];omega) hl))
theorem av4{v:List PtQ}{x:PtQ×PtQ}(h:x∈aip v):x.1∈v∧x.2∈v:=by
 obtain⟨i,hi,rfl⟩:=bK.1 h
 have hi':=nM.1 hi
 have hj:(i+1)%v.length<v.length:=dJ _ (by omega)
 dsimp only
 rw[aX,aX,aQ hi',aQ hj]
 exact⟨bN _,bN _⟩
theorem auR{cs:List aag}{x:PtQ×PtQ}(h:x∈adY (ab8 cs)): ∃c∈cs,x.1∈ach (c.map (·.l))∧x.2∈ach (c.map (·.l)):=by
 obtain⟨L,hL,hx⟩:=fX.1 h
 obtain⟨c,hc,rfl⟩:=bK.1 hL
 exact⟨c,hc,av4 hx⟩
theorem azS{k0:Nat}{t:Tr}(h:TrX k0 t)(hk:k0≤48):(adY (ab8 (aai t))).length≤2^18:=by
 have h1: ∀L∈ab8 (aai t),(aip (ach L)).length≤48:=fun L hL=>by
  obtain⟨c,hc,rfl⟩:=bK.1 hL
  have h2:=acY h.lb h.ok c hc
  have h3:=anx (c.map (·.l))
  have h4:=h.dp
  rw[aJ] at h3
  rw[aqn];omega
 have h2:=apK h1
 have h3:=aes t
 have h4:=h.s
 have h5:(ab8 (aai t)).length=(aai t).length:=aJ ..
 unfold adY
 rw[h5] at h2
 have:(aai t).length*48≤3001*48:=bV 48 (by omega)
 omega
theorem aEV{k0:Nat}{t:Tr}(h:TrX k0 t)(hk:k0≤48):asj (aai t):=by
 obtain⟨D,hD0,hD1,hv⟩:=axE h
 have hDa:D≤2^887040:=by
  generalize hE:887040=kE
  exact cJ hD1 (bX (by decide) (by
   have:k0*k0≤48*48:=gW hk hk
   omega))
 obtain⟨B,hB⟩: ∃B,B=2^385:=⟨_,rfl⟩
 rw[←hB] at hv
 have sqp: ∀X a b:Nat,X=2^a→a+a=b→X*X=2^b:=fun X a b h k=>by rw[h,←k,eK]
 have hBB:B*B=2^770:=sqp B 385 770 hB rfl
 have hp: ∀x∈adY (ab8 (aai t)),DP D B x.1∧DP D B x.2:=fun x hx=>by
  obtain⟨c,hc,h1,h2⟩:=auR hx
  exact⟨hv c hc _ h1,hv c hc _ h2⟩
 have hpt: ∀x∈adY (ab8 (aai t)),BPt x.1 1200∧BPt x.2 1200:=fun x hx=>by
  obtain⟨c,hc,h1,h2⟩:=auR hx
  have hb: ∀l∈c.map (·.l),LB l:=fun l hl=>by
   obtain⟨s,hs,rfl⟩:=bK.1 hl
   exact aiL h.lb h.ok c hc s hs
  exact⟨aiC hb _ h1,aiC hb _ h2⟩
 have hlen:=azS h hk
 have hDD:=pw2 hDa hDa
 have hc: ∀x∈adY (ab8 (aai t)),DQ (D*D) (2*(B*B)) (x.1.cross x.2):=fun x hx=>(hp x hx).1.cross (hp x hx).2
 have hn:2^18*(2*(B*B))≤2^789:=by rw[hBB];decide+kernel
 have hs: ∀{u v u' v':Rat},DQ D B u→DQ D B v→DQ D B u'→DQ D B v'→ ∀{c:Rat},DQ (D*D) (2*(B*B)) c→DQ (D*D*(D*D)) (2^1544) ((u*v+u'*v'+(u+u')*(v+v'))*c):=fun hu hv hu' hv' c hc=>by
  refine DQ.mono ((((hu.mul hv).add (hu'.mul hv')).add ((hu.add hu').mul (hv.add hv'))).mul hc) ?_
  rw[show(B+B)*(B+B)=4*(B*B) by rw[cS,dW];omega,hBB]
  decide+kernel
 have hfin:2^18*2^1544≤2^1562:=by decide+kernel
 have fin: ∀f:PtQ×PtQ→Rat,(∀x∈adY (ab8 (aai t)),DQ (D*D*(D*D)) (2^1544) (f x))→ ∀k,BQ (adm f ((adY (ab8 (aai t))).take k)) 4000000:=fun f hf k=>
  aqk (alo hf hlen k) (gL (gL hD0 hD0) (gL hD0 hD0)) (pw2 hDD hDD) hfin (by decide)
 refine⟨⟨aiL h.lb h.ok,fun c hc=>?_,?_,hpt⟩,fun x hx=>?_,fun k=>?_,fun k=>?_,fin _ fun x hx=>?_,fin _ fun x hx=>?_,fin _ fun x hx=>?_⟩
 ·have:=acY h.lb h.ok c hc;have:=h.dp;omega
 ·have:=aes t;have:=h.s;omega
 ·haveI:=(hpt x hx).1
  haveI:=(hpt x hx).2
  exact BQ.mono (inferInstance:BQ (x.1.cross x.2) _) (by decide)
 ·exact aqk (alo hc hlen k) (gL hD0 hD0) hDD hn (by decide)
 ·have hm: ∀x∈adY (ab8 (aai t)),DP (D*(D*D)) ((B+B)*(2*(B*B))) (aFF x):=fun x hx=>((hp x hx).1.add (hp x hx).2).scale (hc x hx)
  have hb:2^18*((B+B)*(2*(B*B)))≤2^1175:=by
   rw[hBB,hB];decide+kernel
  have h3:=pw2 hDa hDD
  have h0:=gL hD0 (gL hD0 hD0)
  exact⟨aqk (alo (fun x hx=>(hm x hx).x) hlen k) h0 h3 hb (by decide),aqk (alo (fun x hx=>(hm x hx).y) hlen k) h0 h3 hb (by decide)⟩
 ·exact hs (hp x hx).1.x (hp x hx).1.x (hp x hx).2.x (hp x hx).2.x (hc x hx)
 ·exact hs (hp x hx).1.x (hp x hx).1.y (hp x hx).2.x (hp x hx).2.y (hc x hx)
 ·exact hs (hp x hx).1.y (hp x hx).1.y (hp x hx).2.y (hp x hx).2.y (hc x hx)
theorem imD{C:Ctx}{n:Nat}{Q0:Exit→Act→World→Prop}{fr:FrX}{own:OwX}{K:List Kt}{P:Program}(nm:Nat){ty:TypeId}{cs:List FX}{ds:List DV}{lo:Bool}{own1:OwX}{c:Code}(ds':List DV)(hl:aaq own nm=some (.o ty cs lo))(hc:ad4 cs=some ds)(hi: ∀G m,IsLs G ds m→IsLs G ds' m)(ho:axX own nm (some (.o ty (ds'.map .d) lo)) id=own1)(h:CfS P GB C n Q0 fr own1 (.code c K)):CfS P GB C n Q0 fr own (.code c K):=by
 rw[afu] at ho
 subst ho
 refine⟨fun ρ G ov a w r=>?_⟩
 have old: ∀m B,aaq (alJ own nm (some (.o ty (ds'.map .d) lo))) m=some B→ ∃B0,aaq own m=some B0:=fun m B e=>by
  rw[acN] at e
  split at e
  ·rename_i hm;subst hm;exact⟨_,hl⟩
  ·exact⟨_,e⟩
 refine SX.run h ρ G ov a w ⟨r.gb,r.h,r.sz,r.df,r.fx,fun m B e=>?_,fun m m' B B' e e'=>?_,r.fxd⟩
 ·rw[show id (alJ own nm (some (.o ty (ds'.map .d) lo)))=alJ own nm (some (.o ty (ds'.map .d) lo)) from rfl,acN] at e
  split at e
  ·rename_i hm;subst hm;cases e
   obtain⟨os,⟨b,q,h1,rfl,h2⟩,h3⟩:=r.bx _ _ hl
   exact⟨_,⟨b,q,h1,rfl,afW (hi G q (acJ h2 hc))⟩,h3⟩
  ·exact r.bx _ _ e
 ·obtain⟨B0,h0⟩:=old _ _ e
  obtain⟨B1,h1⟩:=old _ _ e'
  exact r.dj m m' B0 B1 h0 h1
theorem aiZ{t:Tr}(h:t.all LnQ.ok):alY (aa0 t [])=ab8 (aai t):=ags h
def eM(a b c d e f:Rat):DV:= .ag [.v (.bool (decide (a.num<0))),dN a.num.natAbs,dD a.den,.v (.bool (decide (b.num<0))),dN b.num.natAbs,dD b.den,.v (.bool (decide (c.num<0))),dN c.num.natAbs,dD c.den,.v (.bool (decide (d.num<0))),dN d.num.natAbs,dD d.den,.v (.bool (decide (e.num<0))),dN e.num.natAbs,dD e.den,.v (.bool (decide (f.num<0))),dN f.num.natAbs,dD f.den]
def zq3:List DV:=[.v (.bool (decide ((0:Rat).num<0))),dN (0:Rat).num.natAbs,dD (0:Rat).den]
theorem ayU:zq3=[vB false, .sl [], .sl []]:=by unfold zq3;rw[show dN (0:Rat).num.natAbs= .sl [] from ac5];rfl

theorem clT{C:Ctx}{n:Nat}{Q0:Exit→Act→World→Prop}{fr fr':FrX}{own own':OwX}{cf cf':Cf}{vc:List Prop}[fu:Fu]{f:FuncId}{ds:List DV}(ha:aCs fr cf=some (f,ds))(hF:PF GB prog f ds (.v (.bool true)))(hgo:goA tt n fu.n fr own cf .tt [] []=⟨vc,fr',own',cf'⟩)(k:CfS prog GB C n Q0 fr' own' cf')
  (hv:aah vc:=by first|exact trivial|(simp only[aah];kernel_rfl)|(simp only[aah];omega)):CfS prog GB C n Q0 fr own cf:=by
 unfold aCs at ha
 split at ha<;>try (cases ha;done)
 rename_i hh
 exact us hh (OpR.to (g:= .tt) (apo ha hF) fun ρ G y hy=>(aaX (G:=G)).1 hy) hgo hv k
theorem aqL{p:Rat}{i:Nat}[hp:BQ p i](hi:i≤100000000:=by decide):PF GB prog 78 [eR p,eR p] (.v (.bool true)):=by
 have:=apl (GB:=GB) (p:=p) (q:=p) (i:=i) (j:=i) hi
 rwa [decide_eq_true rfl] at this
def sqA:List ZP:=[(0,0),(2,0),(2,2),(0,2)]
theorem aC6:aaU sqA:=⟨by decide,by decide,fun p hp=>by
 unfold sqA at hp
 simp only[aR,jL,or_false] at hp
 rcases hp with rfl|rfl|rfl|rfl<;>exact⟨by decide,by decide⟩,by decide⟩
theorem al0: ∀r∈[sqA],aaU r:=fun r hr=>by rw[aV] at hr;subst hr;exact aC6
def sqT:Tr:=ae4 [sqA] 2
theorem ayR:TrX 12 sqT:=(at7 al0 (by decide)).x (anH _ _) (by decide)
theorem ayx:(aai sqT).all ad1=true:=aun ayR.ok (asH al0)
theorem avb:adm (fun x=>x.1.cross x.2) (adY (alY (aa0 sqT [])))=8∧adm asb (adY (alY (aa0 sqT [])))=128∧adm ar8 (adY (alY (aa0 sqT [])))=128:=by decide+kernel
theorem azR:ar2 sqT=((4:Int):Rat):=by
 unfold ar2
 rw[←aiZ ayR.ok,avb.1];decide+kernel
theorem aCa:awY asb sqT=mkRat (16:Nat) 3:=by
 unfold awY
 rw[←aiZ ayR.ok,avb.2.1];decide+kernel
theorem azW:awY ar8 sqT=mkRat (16:Nat) 3:=by
 unfold awY
 rw[←aiZ ayR.ok,avb.2.2];decide+kernel
theorem aiV:PF GB prog 34 [] (.v (.bool true)):=by
 have hm:=aEV ayR (by decide)
 haveI bA:BQ (ar2 sqT) 2000003:=hm.area
 haveI b4:BQ ((4:Int):Rat) 4:=⟨by decide,by decide⟩
 haveI b16:BQ (mkRat (16:Nat) 3) 6:=⟨by decide+kernel,by decide+kernel⟩
 refine fn func34 J J ntmps34 J J (fun C=>?_)
 refine cl rfl (aot (by omega) (by omega)) rfl<|cl rfl (aot (by omega) (by omega)) rfl<|cl rfl (aot (by omega) (by omega)) rfl<|cl rfl (aot (by omega) (by omega)) rfl<|?_
 refine rf J J<|cl rfl (ay2 (ps:=[iP 0 0,iP 2 0,iP 2 2,iP 0 2]) (fun p hp=>by
  simp only[aR,jL,or_false] at hp
  rcases hp with rfl|rfl|rfl|rfl<;>exact⟨BQ.int1200 (by decide),BQ.int1200 (by decide)⟩) (by decide)) rfl<|?_
 refine rf J J<|cl rfl (auh (rs:=[sqA]) (fill:=2) al0 (by decide)) rfl<|cl rfl (atk (rs:=[sqA]) (fill:=2) al0 (by decide)) rfl<|?_
 refine cl rfl (apO (t:=sqT) ayR) rfl<|cl (fu:=⟨0⟩) rfl (aBT ayR (by decide) ayx hm) rfl<|?_
 refine eqF 20 (.d (.tp [eR ((4:Int):Rat), .v .nilIface])) rfl (by rw[azR]) ?_
 refine gx rfl<|cl (fu:=⟨0⟩) rfl (aCF ayR (by decide) ayx hm) rfl<|?_
 refine eqF 25 (.d (.tp [eR (mkRat (16:Nat) 3),eR (awY ash sqT),eR (mkRat (16:Nat) 3), .v .nilIface])) rfl (by rw[aCa,azW]) ?_
 refine gx rfl<|cl rfl (aFH (q:=((4:Int):Rat)) (i:=4)) rfl<|cl rfl (amw (n:=4) (by decide) (by decide)) rfl<|cl (fu:=⟨0⟩) rfl (q_C (a:=((4:Int):Rat)) (b:=((4:Int):Rat)) (i:=4) (j:=4)) rfl<|?_
 refine knT rfl (by show some (decide _)=some true;rw[decide_eq_true];decide+kernel) rfl<|cl rfl (aAd (n:=16) (d:=3) (by decide) (by decide) (by decide)) rfl<|?_
 refine cl rfl (amy (q:=mkRat (16:Nat) 3) (i:=6)) rfl<|clT rfl (aqL (p:=mkRat (16:Nat) 3) (i:=6)) rfl<|clT rfl (aqL (p:=mkRat (16:Nat) 3) (i:=6)) rfl<|?_
 exact rz J J
theorem agT{t:Tr}(ht:t.all LnQ.ok): ∀c∈aai t,apC c:=fun c hc=>ajg ht aaV.nil (show apC [] from .nil) _ (adB.1 hc)
end Go.Sx
end
