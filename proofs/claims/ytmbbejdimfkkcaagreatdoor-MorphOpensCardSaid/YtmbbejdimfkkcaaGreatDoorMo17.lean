import Derived.Test.YtmbbejdimfkkcaaGreatDoorMo16
import Derived.RangeFuncSeq
set_option linter.all false
set_option maxHeartbeats 1000000
set_option maxRecDepth 100000
section
namespace Go.Sx
open Go Go.Proofs Tryz
variable {GB:Gh}
def L9: ∀(c:ao) (A B:bD->Rat),(∀u∈c,0<=A u/\(0<=B u\/0<A u))-> ∃e:Rat,0<e/\ ∀u∈c,0<=A u+e*B u
 |[],_,_,_=>⟨1,oma,fun u hu=>by cases hu⟩
 |s::t,A,B,h=>by
  obtain⟨e,e0,he⟩:=L9 t A B fun u hu=>h u (aJ _ hu);obtain⟨h1,h2⟩:=h s aQ;have hold: ∀q,0<=q->q<=e-> ∀u∈t,0<=A u+q*B u:=fun q q0 q1 u hu=>Lm (h u (aJ _ hu)).1 (he u hu) q0 q1;by_cases hb:0<=B s
  .refine⟨e,e0,fun u hu=>?_⟩
   rcases aW.1 hu with rfl|hu
   .have:=cI (dZ e0) hb;grind
   .exact he u hu
  .have ha:=h2.resolve_left hb
   have hq:0<A s/ -(B s):=(gk (k:= -(B s)) omb).1 (by rw[show A s/ -(B s)* -(B s)=A s by grind];exact ha);have hm:A s/ -(B s)* -(B s)=A s:=by grind
   generalize A s/ -(B s)=q at*;by_cases k:q<=e
   .refine⟨q,hq,fun u hu=>?_⟩
    rcases aW.1 hu with rfl|hu
    .grind
    .exact hold q (dZ hq) k u hu
   .refine⟨e,e0,fun u hu=>?_⟩
    rcases aW.1 hu with rfl|hu
    .have:=cI (show 0<=q-e by grind) (show 0<= -(B u) by grind)
     grind
    .exact he u hu
def Jn(l m:aa)(t e:Rat):m.value (l.at (t+e))=m.value (l.at t)+e*m.nor.dot l.dir:=by
 rw[Hq,jF]
def Jk{s:bD}(h:s.v.Pos)(nh:s.v.nh=false):s.v.has s.v.hi:=by
 unfold ar.Pos at h;refine⟨?_, .inr iR⟩;rcases h with h|h|h
 .exact .inl h
 .rw[nh] at h;cases h
 .exact .inr (dZ h)
def S8{s:bD}(h:s.v.Pos)(nl:s.v.nl=false):s.v.has s.v.lo:=by
 unfold ar.Pos at h;refine⟨.inr iR,?_⟩;rcases h with h|h|h
 .rw[nl] at h;cases h
 .exact .inl h
 .exact .inr (dZ h)
def Wp{c:ao}(hc:bw c){s:bD}(hs:s∈c)(nh:s.v.nh=false): ∃u∈c,u.l.value (s.l.at s.v.hi)=0/\u.l.nor.dot s.l.dir<0:=by
 obtain⟨p1,p2⟩:=hc.edge s hs;have hin:=(p2 _).1 (Jk p1 nh);by_cases q: ∃u∈c,u.l.value (s.l.at s.v.hi)=0/\u.l.nor.dot s.l.dir<0
 .exact q
 .exfalso
  obtain⟨e,e0,he⟩:=L9 c (fun u=>u.l.value (s.l.at s.v.hi)) (fun u=>u.l.nor.dot s.l.dir) fun u hu=>by
   have h1:=hin u hu;refine⟨h1,?_⟩;by_cases k:0<=u.l.nor.dot s.l.dir
   .exact .inl k
   .right
    by_cases z:u.l.value (s.l.at s.v.hi)=0
    .exact absurd ⟨u,hu,z,omb⟩ q
    .grind
  have hh:=(p2 (s.v.hi+e)).2 fun u hu=>by rw[Jn];exact he u hu
  have:=hh.2;rw[nh] at this;rcases this with z|z
  .cases z
  .grind
def aDJ{c:ao}(hc:bw c){s:bD}(hs:s∈c)(nl:s.v.nl=false): ∃u∈c,u.l.value (s.l.at s.v.lo)=0/\0<u.l.nor.dot s.l.dir:=by
 obtain⟨p1,p2⟩:=hc.edge s hs;have hin:=(p2 _).1 (S8 p1 nl);by_cases q: ∃u∈c,u.l.value (s.l.at s.v.lo)=0/\0<u.l.nor.dot s.l.dir
 .exact q
 .exfalso
  obtain⟨e,e0,he⟩:=L9 c (fun u=>u.l.value (s.l.at s.v.lo)) (fun u=> -(u.l.nor.dot s.l.dir)) fun u hu=>by
   have h1:=hin u hu;refine⟨h1,?_⟩;by_cases k:0<= -(u.l.nor.dot s.l.dir)
   .exact .inl k
   .right
    by_cases z:u.l.value (s.l.at s.v.lo)=0
    .exact absurd ⟨u,hu,z,omb⟩ q
    .grind
  have hh:=(p2 (s.v.lo+ -e)).2 fun u hu=>by rw[Jn];have:=he u hu;grind
  have:=hh.1;rw[nl] at this;rcases this with z|z
  .cases z
  .grind
def SE{ds:List ah}(h:ds.Pairwise eG){i:Nat}{s w:ah}(hs:ds[i]? =some s)(hw:ds[(i+1)%ds.length]? =some w):BG ds s w:=by
 obtain⟨hi,rfl⟩:=aR.1 hs;obtain⟨hj,rfl⟩:=aR.1 hw;have hp:=qT.1 h;by_cases e:i+1<ds.length
 .have em:(i+1)%ds.length=i+1:=kY e
  left;simp only[em];refine⟨hp i (i+1) hi e we,fun d hd=>?_⟩;obtain⟨j,hj,rfl⟩:=oT.1 hd;rintro ⟨a,b⟩;rcases sV j i with k|k|k
  .exact Cn a (hp j i hj hi k)
  .subst k;exact zk _ a
  .by_cases z:j=i+1
   .subst z;exact zk _ b
   .exact Cn b (hp (i+1) j e hj we)
 .have ei:i+1=ds.length:=by omega
  have em:(i+1)%ds.length=0:=by rw[ei,Nat.mod_self]
  right;simp only[em];refine⟨fun d hd a=>?_,fun d hd b=>?_⟩
  .obtain⟨j,hj,rfl⟩:=oT.1 hd
   by_cases k:j=i
   .subst k;exact zk _ a
   .exact Cn a (hp j i hj hi we)
  .obtain⟨j,hj,rfl⟩:=oT.1 hd
   by_cases k:j=0
   .subst k;exact zk _ b
   .exact Cn b (hp 0 j we hj we)
def aza{s u w:ah}(hs:s.half≠0)(hw:w.half≠0)(hu:u.half≠0)(h1:0<s.cross u)(h2:0<u.cross w)(h3:0<s.cross w)(e:s.half=w.half):u.half=s.half:=by
 rcases oE hs with k|k
 .rw[k] at e⊢
  have a:=qf.1 k;have b:=qf.1 e.symm;rw[qf];unfold ah.cross at*
  -- u is Hw s and w
  have i1:(s.x*w.y-s.y*w.x)*u.y=(u.x*w.y-u.y*w.x)*s.y+(s.x*u.y-s.y*u.x)*w.y:=by grind
  have i2:(s.x*w.y-s.y*w.x)*u.x=(u.x*w.y-u.y*w.x)*s.x+(s.x*u.y-s.y*u.x)*w.x:=by grind
  have y0:0<=s.y:=by grind
  have y1:0<=w.y:=by grind
  have m1:=cI (dZ h2) y0;have m2:=cI (dZ h1) y1;have uy:0<=u.y:=(iH h3).1 omb;by_cases z:0<u.y
  .exact .inl z
  .right
   have z0:u.y=0:=by grind
   have i3:(u.x*w.y-u.y*w.x)*s.y+(s.x*u.y-s.y*u.x)*w.y=0:=by rw[<-i1,z0];grind
   have A0:(u.x*w.y-u.y*w.x)*s.y=0:=by generalize (u.x*w.y-u.y*w.x)*s.y=A at*;generalize (s.x*u.y-s.y*u.x)*w.y=B at*;grind
   have B0:(s.x*u.y-s.y*u.x)*w.y=0:=by grind
   have n1:s.y=0:=by
    rcases dY.1 A0 with q|q
    .grind
    .exact q
   have n2:w.y=0:=by
    rcases dY.1 B0 with q|q
    .grind
    .exact q
   rw[n1,n2] at h3;grind
 .rw[k] at e⊢
  have a:=vE.1 k;have b:=vE.1 e.symm;rw[vE];unfold ah.cross at*;have i1:(s.x*w.y-s.y*w.x)*u.y=(u.x*w.y-u.y*w.x)*s.y+(s.x*u.y-s.y*u.x)*w.y:=by grind
  have y0:0<= -s.y:=by grind
  have y1:0<= -w.y:=by grind
  have m1:=cI (dZ h2) y0;have m2:=cI (dZ h1) y1;have uy:0<= -u.y:=(iH h3).1 omb;by_cases z:u.y<0
  .exact .inl z
  .right
   have z0:u.y=0:=by grind
   have i3:(u.x*w.y-u.y*w.x)*s.y+(s.x*u.y-s.y*u.x)*w.y=0:=by rw[<-i1,z0];grind
   have m3:(u.x*w.y-u.y*w.x)* -s.y= -((u.x*w.y-u.y*w.x)*s.y):=by grind
   have m4:(s.x*u.y-s.y*u.x)* -w.y= -((s.x*u.y-s.y*u.x)*w.y):=by grind
   rw[m3] at m1;rw[m4] at m2;have A0:(u.x*w.y-u.y*w.x)*s.y=0:=by generalize (u.x*w.y-u.y*w.x)*s.y=A at*;generalize (s.x*u.y-s.y*u.x)*w.y=B at*;grind
   have B0:(s.x*u.y-s.y*u.x)*w.y=0:=by grind
   have n1:s.y=0:=by
    rcases dY.1 A0 with q|q
    .grind
    .exact q
   have n2:w.y=0:=by
    rcases dY.1 B0 with q|q
    .grind
    .exact q
   rw[n1,n2] at h3;grind
def auT{ds:List ah}(nz: ∀d∈ds,d.half≠0){s u w:ah}(hs:s∈ds)(hu:u∈ds)(hw:w∈ds)(hn:BG ds s w)(h1:0<s.cross u)(h2:0<u.cross w)(h3:0<s.cross w):False:=by
 have zs:=oE (nz s hs);have zu:=oE (nz u hu);have zw:=oE (nz w hw);rcases hn with⟨b,no⟩|⟨n1,n2⟩
 .by_cases e:s.half=w.half
  .have e2:=aza (nz s hs) (nz w hw) (nz u hu) h1 h2 h3 e
   exact no u hu ⟨.inr ⟨e2.symm,h1⟩, .inr ⟨we,h2⟩⟩
  .have e1:s.half=1/\w.half=2:=by
    rcases b with b|⟨b,_⟩
    .omega
    .exact absurd b e
   rcases zu with k|k
   .exact no u hu ⟨.inr ⟨we,h1⟩, .inl we⟩
   .exact no u hu ⟨.inl we, .inr ⟨we,h2⟩⟩
 .have a:=n1 u hu
  have b:=n2 u hu;have a1: ¬s.half<u.half:=fun k=>a (.inl k);have a2:s.half≠u.half:=fun k=>a (.inr ⟨k,h1⟩);have b1: ¬u.half<w.half:=fun k=>b (.inl k);have b2:u.half≠w.half:=fun k=>b (.inr ⟨k,h2⟩);omega
def O4{u w n:ah}(hu:u.half≠0)(hw:w.half≠0)(hn:n.half≠0)(e1:w.half=u.half)(e2:u.half=n.half)(h1:0<u.cross n)(h2: ¬0<u.cross w):0<w.cross n:=by
 by_cases k:0<w.cross u
 .have b1:eG w u:= .inr ⟨e1,k⟩
  have b2:eG u n:= .inr ⟨e2,h1⟩;rcases DH b1 b2 with q|⟨_,q⟩
  .omega
  .exact q
 .have hz:w.cross u=0:=by rw[x9] at k⊢;grind
  by_cases q:0<w.cross n
  .exact q
  .exfalso
   have b2:eG u n:= .inr ⟨e2,h1⟩;by_cases q2:0<n.cross w
   .have b3:eG n w:= .inr ⟨we,q2⟩
    rcases DH b2 b3 with z|⟨_,z⟩
    .omega
    .exact h2 z
   .have hz2:w.cross n=0:=by rw[x9] at q2;grind
    rcases oE hw with hh|hh
    .have a:=qf.1 hh
     have b:=qf.1 (show u.half=1 by omega);have c:=qf.1 (show n.half=1 by omega);unfold ah.cross at*;have j1:w.x*(u.x*n.y-u.y*n.x)=0:=by grind
     have j2:w.y*(u.x*n.y-u.y*n.x)=0:=by grind
     rcases dY.1 j1 with z|z
     .rcases dY.1 j2 with z2|z2<;>grind
     .grind
    .have a:=vE.1 hh
     unfold ah.cross at*;have j1:w.x*(u.x*n.y-u.y*n.x)=0:=by grind
     have j2:w.y*(u.x*n.y-u.y*n.x)=0:=by grind
     rcases dY.1 j1 with z|z
     .rcases dY.1 j2 with z2|z2<;>grind
     .grind
def ZZ{ds:List ah}(nz: ∀d∈ds,d.half≠0){s u w:ah}(hs:s∈ds)(hu:u∈ds)(hw:w∈ds)(hn:BG ds s w)(h1:0<s.cross u):0<s.cross w:=by
 have zs:=oE (nz s hs);have zu:=oE (nz u hu);have zw:=oE (nz w hw);have hneg:=aBn (nz s hs);have hnz:(aG s).half≠0:=by omega
 have e1:u.cross (aG s)=s.cross u:=by rw[RR,x9 s u];grind
 have e2:w.cross (aG s)=s.cross w:=by rw[RR,x9 s w];grind
 rcases hn with⟨b,no⟩|⟨n1,n2⟩
 .by_cases e:s.half=w.half
  .rcases b with b|⟨_,b⟩
   .omega
   .exact b
  .have e3:s.half=1/\w.half=2:=by
    rcases b with b|⟨b,_⟩
    .omega
    .exact absurd b e
   have nu:=no u hu;rcases zu with k|k
   .exact absurd ⟨.inr ⟨we,h1⟩, .inl we⟩ nu
   .rw[<-e2]
    exact O4 (nz u hu) (nz w hw) hnz we we (by rw[e1];exact h1) fun q=>nu ⟨.inl we, .inr ⟨we,q⟩⟩
 .have a:=n1 u hu
  have b:=n2 u hu;have a1: ¬s.half<u.half:=fun k=>a (.inl k);have a2:s.half≠u.half:=fun k=>a (.inr ⟨k,h1⟩);have b1: ¬u.half<w.half:=fun k=>b (.inl k);rw[<-e2];exact O4 (nz u hu) (nz w hw) hnz we we (by rw[e1];exact h1) fun q=>b (.inr ⟨we,q⟩)
def aBO(s u w:aa)(h p:ah):s.dir.cross u.dir*w.value p=s.dir.cross u.dir*w.value h+w.dir.cross u.dir*(s.value p-s.value h)+s.dir.cross w.dir*(u.value p-u.value h):=by
 rw[iG,iG,iG,iG,iG,iG];unfold ah.cross aa.dir;grind
def aFi{c:ao}(hc:bw c): ∀d∈c.map (fun s=>s.l.dir),d.half≠0:=fun d hd=>by
 obtain⟨s,hs,rfl⟩:=aU.1 hd;exact FS (hc.ok s hs)
def UU{c:ao}(hc:bw c){s w:bD}(hs:s∈c)(hw:w∈c)(hn:BG (c.map fun s=>s.l.dir) s.l.dir w.l.dir)(nh:s.v.nh=false):0<s.l.dir.cross w.l.dir/\w.l.value (s.l.at s.v.hi)=0:=by
 obtain⟨u,hu,z1,z2⟩:=Wp hc hs nh;have su:0<s.l.dir.cross u.l.dir:=by rw[x9,CQ];grind
 have nz:=aFi hc;have ms:=dX (f:=fun s:bD=>s.l.dir) hs;have mu:=dX (f:=fun s:bD=>s.l.dir) hu;have mw:=dX (f:=fun s:bD=>s.l.dir) hw;have sw:=ZZ nz ms mu mw hn su;refine⟨sw,?_⟩;obtain⟨p1,p2⟩:=hc.edge s hs;have hin:=(p2 _).1 (Jk p1 nh);have hs0:=ly (hc.ok s hs).ne s.v.hi;have h0:=hin w hw;by_cases q:w.l.value (s.l.at s.v.hi)=0
 .exact q
 .exfalso
  have wu:0<=w.l.dir.cross u.l.dir:=by
   by_cases k:0<u.l.dir.cross w.l.dir
   .exact(auT nz ms mu mw hn su k sw).elim
   .rw[x9];grind
  obtain⟨t1,t2⟩:=zo hc hw;have e:=aBO s.l u.l w.l (s.l.at s.v.hi) (w.l.at w.v.sample);rw[t2,z1,hs0] at e;have g1:=c9 su (show 0<w.l.value (s.l.at s.v.hi) by grind);have g2:=cI wu (t1 s hs);have g3:=cI (dZ sw) (t1 u hu);grind
def l6(x:Bool×ao):DV:= .ag [.sl (x.2.map dq),eU (.leaf x.1)]
def aHy(l:List (Bool×ao)):cO 2 (l.map l6):=fun d hd=>by
 obtain⟨x,_,rfl⟩:=aU.1 hd;exact⟨J,J⟩
def DM: ∀(t:Tr) (c:ao),(t.parts c).length<=t.size+1
 | .leaf _,_=>bV _
 | .node l x y,c=>by
  have h1:=DM x (bG c l);have h2:=DM y (bG c l.rev);rw[Tr.parts,aY,Tr.size];split<;>split<;>(try simp only[eX])<;>omega
def Xr{b:Bool}{c:ao}{o:List (Bool×ao)}(hs:o.length<=1000000):PB GB prog 167 (f7 [some (eU (.leaf b)),some (.sl (c.map dq)),none]) 2 204 (o.map l6) (fun w=> .v (.slice w.a w.n w.c)) ((o++Tr.parts (.leaf b) c).map l6):=by
 refine ED func167 J J ntmps167 J J (fun C=>?_);refine cl (fu:=⟨0⟩) J p6 J<|ld 12 J<|gx J<|rf J J<|T2 ((o++[(b,c)]).map l6) J okb (aHy [(b,c)]) J<|?_;exact vm J J J J
theorem okB{p:Prop}(h:p:=by simp[Tr.parts,hc30,hc38]):p:=h
def ap5{l:aa}{x y:Tr}{c:ao}{o:List (Bool×ao)}(hl:LB l)(hlo:l.ok)(hc:eE c)(hn:c.length+(Tr.node l x y).depth<=100000)(hs:o.length+((Tr.node l x y).size+1)<=1000000)(ihx: ∀{c:ao} {o:List (Bool×ao)},eE c->c.length+x.depth<=100000->o.length+(x.size+1)<=1000000->PB GB prog 167 (f7 [some (eU x),some (.sl (c.map dq)),none]) 2 204 (o.map l6) (fun w=> .v (.slice w.a w.n w.c)) ((o++Tr.parts x c).map l6))(ihy: ∀{c:ao} {o:List (Bool×ao)},eE c->c.length+y.depth<=100000->o.length+(y.size+1)<=1000000->PB GB prog 167 (f7 [some (eU y),some (.sl (c.map dq)),none]) 2 204 (o.map l6) (fun w=> .v (.slice w.a w.n w.c)) ((o++Tr.parts y c).map l6)):PB GB prog 167 (f7 [some (eU (.node l x y)),some (.sl (c.map dq)),none]) 2 204 (o.map l6) (fun w=> .v (.slice w.a w.n w.c)) ((o++Tr.parts (.node l x y) c).map l6):=by
 have hk1:=vf c l;have hk2:=vf c l.rev;have hd:(Tr.node l x y).depth=1+max x.depth y.depth:=J;have hz:(Tr.node l x y).size=1+x.size+y.size:=J;have hp:=DM x (bG c l);refine ED func167 J J ntmps167 J J (fun C=>?_);refine cl (fu:=⟨0⟩) J s8 J<|th 12 J<|gx J<|cl J (J4 hlo hc) J<|bb J J J (fun hc30=>?_) (fun hc30=>?_)
 .
  have hs2:(o++x.parts (bG c l)).length+(y.size+1)<=1000000:=by rw[aY];omega
  refine cq ((o++x.parts (bG c l)).map l6) J (ihx (sG hlo hc) we we) J J<|bb J J J (fun hc38=>?_) (fun hc38=>?_)
  .
   refine cq _ J (ihy (sG hlo.rev hc) we (by first|exact hs2|omega)) J J<|?_;exact vm J J J okB
  .
   exact vm J J J okB
 .
  refine bb J J J (fun hc38=>?_) (fun hc38=>?_)
  .
   refine cq _ J (ihy (sG hlo.rev hc) we (by first|exact hs2|omega)) J J<|?_;exact vm J J J okB
  .
   exact vm J J J okB
def IE: ∀{t:Tr} {c:ao} {o:List (Bool×ao)},t.all LB->t.all aa.ok->eE c->c.length+t.depth<=100000->o.length+(t.size+1)<=1000000->PB GB prog 167 (f7 [some (eU t),some (.sl (c.map dq)),none]) 2 204 (o.map l6) (fun w=> .v (.slice w.a w.n w.c)) ((o++Tr.parts t c).map l6)
 | .leaf _,_,_,_,_,_,_,hs=>Xr (by simp only[Tr.size] at hs;omega)
 | .node _ _ _,_,_,hb,ho,hc,hn,hs=>ap5 hb.1 ho.1 hc hn hs (fun k1 k2 k3=>IE hb.2.1 ho.2.1 k1 k2 k3) (fun k1 k2 k3=>IE hb.2.2 ho.2.2 k1 k2 k3)
def az1{t:Tr}(hb:t.all LB)(ho:t.all aa.ok)(hd:t.depth<=100000)(hs:t.size<=900000):PB GB prog 167 (f7 [some (eU t),some (.sl []),none]) 2 204 [] (fun w=> .v (.slice w.a w.n w.c)) ((t.parts []).map l6):=
 IE (c:=[]) (o:=[]) hb ho eE.nil (by rw[eX];omega) (by rw[eX];omega)
def eC(c:ao):DV:= .sl (c.map dq)
def aKY(l:List ao):cO 1 (l.map eC):=fun d hd=>by
 obtain⟨x,_,rfl⟩:=aU.1 hd;exact⟨J,J⟩
def CK(ps:List (Bool×ao)):List ao:=(ps.filter (·.1)).map (·.2)
def VH{ps:List (Bool×ao)}{k:Nat}{b:Bool}{e:ao}(h:ps[k]? =some (b,e)):CK (ps.drop k)=(if b then [e] else [])++CK (ps.drop (k+1)):=by
 obtain⟨h1,h2⟩:=aR.1 h;rw[bK h1,h2];unfold CK
 cases b<;>simp
def aFN{t:Tr}(hb:t.all LB)(ho:t.all aa.ok)(hd:t.depth<=100000)(hs:t.size<=900000):PF GB prog 111 [eU t] (.sl ((t.parts []).map l6)):=by
 refine fn func111 J J ntmps111 J J (fun C=>?_);refine cqn _ J (az1 hb ho hd hs) J J<|gw 4 J<|rz J J
def aGn{t:Tr}(hb:t.all LB)(ho:t.all aa.ok)(hd:t.depth<=100000)(hs:t.size<=900000):PF GB prog 62 [eU t] (.sl ((bO t).map eC)):=by
 obtain⟨ps,hps⟩: ∃ps,ps=t.parts []:=⟨_,rfl⟩;have hpl:=DM t [];rw[<-hps] at hpl;have hml:(ps.map l6).length=ps.length:=aX ..;refine fn func62 J J ntmps62 J J (fun C=>?_);refine cl (fu:=⟨0⟩) J (aFN hb ho hd hs) J<|aj 7 (.d (.sl (ps.map l6))) J (by rw[hps])<|gx (fu:=⟨1⟩) J<|aj 8 (.d (vI (ps.length:Nat))) J omo<|gx J<|nr 3 3 134 1 J J J<|lp (X:=List ao×Nat) (fun⟨acc,k⟩=>[(9, .d (vI (k:Nat))),(3, .rw 3)]) (fun⟨acc,k⟩=>[(3,some (.b 134 1 (acc.map eC) true))]) (fun⟨acc,k⟩=>acc++CK (ps.drop k)=bO t/\k<=ps.length) (fun⟨acc,k⟩=>ps.length-k) ⟨[],0⟩ J ⟨by rw[hps];rfl,aN _⟩ (fun _=>J) (fun⟨acc,k⟩ hk=>?_)
 try dsimp only at hk⊢
 obtain⟨h1,h2⟩:=hk;have hal:acc.length<=ps.length:=by
  have q1:=congrArg List.length h1;have q2:(bO t).length<=ps.length:=by unfold bO;rw[aX,hps];exact jV ..
  rw[aY] at q1;omega
 have ham:(acc.map eC).length=acc.length:=aX ..;refine br J J J (fun hc10=>?_) (fun hc10=>?_)
 .
  obtain⟨⟨b,e⟩,hx⟩: ∃x,ps[k]? =some x:=⟨_,aZ we⟩;refine ix _ J (cp hx) J<|bb J J J (fun hc17=>?_) (fun hc17=>?_)
  .
   refine rf J J<|ap ((acc++[e]).map eC) J okb (aKY [e]) J<|ek 22 3 J<|at_ ⟨acc++[e],k+1⟩ (by dsimp only;exact⟨⟨by rw[<-h1,VH hx,if_pos hc17];simp,we⟩,we⟩)
  .
   exact at_ ⟨acc,k+1⟩ (by dsimp only;exact⟨⟨by rw[<-h1,VH hx,if_neg (by simp at hc17;rw[hc17];decide)];rfl,we⟩,we⟩)
 .
  obtain rfl:k=ps.length:=by omega
  obtain rfl:acc=bO t:=by rw[fL] at h1;simpa[CK] using h1
  refine gw 3 J<|rz J J
theorem BQ.samp(v:ar)(i j:Nat)[h1:BQ v.lo i][h2:BQ v.hi j]:BQ v.sample (i+j+1+2):=by
 have b1:BQ (1:Rat) 1:=⟨oma,oma⟩;unfold ar.sample;split
 .exact BQ.z1.mono we
 .split
  .exact(inferInstance:BQ (v.hi-1) (j+1+1)).mono we
  .split
   .exact(inferInstance:BQ (v.lo+1) (i+1+1)).mono we
   .exact inferInstance
theorem azW{s:bD}(h:R3 s):aD (s.l.at s.v.sample) 3500:=by
 haveI:=h.lb;haveI:=h.v.lo;haveI:=h.v.hi;have h0:BQ s.v.sample _:=BQ.samp s.v 1200 1200;have:= @aD.at s.l s.v.sample _ _ h0;exact⟨this.x.mono oma,this.y.mono oma⟩
def auL(l m:aa):l.dir.cross m.dir=(crossI l m:Rat):=by
 unfold ah.cross aa.dir crossI;rw[iX,bS,bS];grind
def K7{l m:aa}(h:0<Int.sign (l.dir.cross m.dir).num):crossI l m≠0:=fun e=>by
 rw[nG,auL,e] at h;exact absurd h oma
def Ss{l m:aa}(h:crossI l m≠0):l.nor.cross m.nor≠0:=fun e=>by
 have:l.nor.cross m.nor=(crossI l m:Rat):=by
  unfold ah.cross aa.nor crossI;rw[iX,bS,bS];grind
 rw[this] at e;exact h (cM.1 e)
def Qw{l m:aa}(h:crossI l m≠0):cx l m=⟨((l.b:Rat)*(m.c:Rat)-(l.c:Rat)*(m.b:Rat))/l.nor.cross m.nor,((l.c:Rat)*(m.a:Rat)-(l.a:Rat)*(m.c:Rat))/l.nor.cross m.nor⟩:=by
 have e1:(meetX l m:Rat)=(l.b:Rat)*(m.c:Rat)-(l.c:Rat)*(m.b:Rat):=by unfold meetX;rw[iX,bS,bS];grind
 have e2:(meetY l m:Rat)=(l.c:Rat)*(m.a:Rat)-(l.a:Rat)*(m.c:Rat):=by unfold meetY;rw[iX,bS,bS];grind
 have e3:(crossI l m:Rat)=l.nor.cross m.nor:=by unfold ah.cross aa.nor crossI;rw[iX,bS,bS];grind
 unfold cx;rw[if_neg h,e1,e2,e3]
def DA: ∀{t:Tr} {c:ao} {x:Bool×ao},t.all LB->t.all aa.ok->eE c->x∈t.parts c->eE x.2/\x.2.length<=c.length+t.depth
 | .leaf b,c,x,_,_,hc,h=>by
  rw[Tr.parts,aT] at h;subst h;exact⟨hc,nT _ _⟩
 | .node l u v,c,x,hb,ho,hc,h=>by
  have hl:=hb.1;have hd:(Tr.node l u v).depth=1+max u.depth v.depth:=J;rw[Tr.parts] at h;rcases bZ.1 h with h|h
  .split at h
   .obtain⟨k1,k2⟩:=DA hb.2.1 ho.2.1 (sG ho.1 hc) h
    have:=vf c l;exact⟨k1,we⟩
   .cases h
  .split at h
   .obtain⟨k1,k2⟩:=DA hb.2.2 ho.2.2 (sG ho.1.rev hc) h
    have:=vf c l.rev;exact⟨k1,we⟩
   .cases h
def Dy(t:Tr):(bO t).length<=t.size+1:=by
 unfold bO;rw[aX];exact cX (jV ..) (DM t [])
def Ac{t:Tr}(hb:t.all LB)(ho:t.all aa.ok): ∀c∈bO t,c.length<=t.depth:=fun c hc=>by
 have:=(DA hb ho eE.nil (nC.1 hc)).2;simpa using this
theorem aBY{t:Tr}(hb:t.all LB)(ho:t.all aa.ok): ∀c∈bO t,∀s∈c,LB s.l:=fun c hc s hs=>((DA hb ho eE.nil (nC.1 hc)).1 s hs).lb
def aHT(l:List ah):cO 6 (l.map eZ):=fun d hd=>by
 obtain⟨x,_,rfl⟩:=aU.1 hd;exact⟨J,J⟩
def F5{α:Type}{vs:List α}{f:α->Bool}{k:Nat}{v:α}(h:vs[k]? =some v):(vs.drop k).all f=(f v&&(vs.drop (k+1)).all f):=by
 obtain⟨h1,h2⟩:=aR.1 h;rw[bK h1,h2,tW]
def aEw{l m:aa}[hl:LB l][hm:LB m](hz:crossI l m≠0):PF GB prog 234 [de l,de m] (.tp [eZ (cx l m),vB true]):=by
 haveI:=aD.nor l;haveI:=aD.nor m;refine fn func234 J J ntmps234 J J (fun C=>?_);refine cl J (zt (l:=l)) J<|cl J (zt (l:=m)) J<|cl J (FA (p:=l.nor) (q:=m.nor) (i:=97) (j:=97)) J<|cl (fu:=⟨0⟩) J (Dj (q:=l.nor.cross m.nor)) J<|aj 15 (.d (vB false)) J (by rw[decide_eq_false (Ss hz)])<|th 15 J<|gx J<|cl J (pu (p:=(l.b:Rat)) (q:=(m.c:Rat)) (i:=97) (j:=97)) J<|cl J (pu (p:=(l.c:Rat)) (q:=(m.b:Rat)) (i:=97) (j:=97)) J<|cl J (q7 (p:=(l.b:Rat)*(m.c:Rat)) (q:=(l.c:Rat)*(m.b:Rat))) J<|cl J (CO (p:=(l.b:Rat)*(m.c:Rat)-(l.c:Rat)*(m.b:Rat)) (q:=l.nor.cross m.nor)) J<|cl J (pu (p:=(l.c:Rat)) (q:=(m.a:Rat)) (i:=97) (j:=97)) J<|cl J (pu (p:=(l.a:Rat)) (q:=(m.c:Rat)) (i:=97) (j:=97)) J<|cl J (q7 (p:=(l.c:Rat)*(m.a:Rat)) (q:=(l.a:Rat)*(m.c:Rat))) J<|cl J (CO (p:=(l.c:Rat)*(m.a:Rat)-(l.a:Rat)*(m.c:Rat)) (q:=l.nor.cross m.nor)) J<|rz J (by rw[Qw hz];rfl)
def aEY{c:ao}(hb: ∀s∈c,LB s.l)(hn:c.length<=100000):PF GB prog 178 [eC c] (.sl ((gj (c.map (·.l))).map eZ)):=by
 have hml:(c.map dq).length=c.length:=aX ..;obtain⟨L,hL⟩: ∃L,L=c.map (·.l):=⟨_,rfl⟩;have hLl:L.length=c.length:=by rw[hL,aX]
 refine fn (fu:=⟨15⟩) func178 J J ntmps178 J J (fun C=>?_);refine aj 10 (.d (vI (c.length:Nat))) J omo<|gx J<|nr 3 3 199 6 J J J<|lp (X:=List ah×Nat) (fun⟨acc,k⟩=>[(11, .d (vI (k:Nat))),(3, .rw 3)]) (fun⟨acc,k⟩=>[(3,some (.b 199 6 (acc.map eZ) true))]) (fun⟨acc,k⟩=>acc=(List.range k).flatMap (rk L)/\k<=c.length) (fun⟨acc,k⟩=>c.length-k) ⟨[],0⟩ J ⟨J,aN _⟩ (fun _=>J) (fun⟨acc,k⟩ hk=>?_)
 try dsimp only at hk⊢
 obtain⟨h1,h2⟩:=hk;have hal:=Gz L k;rw[<-h1] at hal;have ham:(acc.map eZ).length=acc.length:=aX ..;refine br J J J (fun hc12=>?_) (fun hc12=>?_)
 .
  obtain⟨s,hx⟩: ∃u,c[k]? =some u:=⟨_,aZ we⟩;obtain⟨u,hw⟩: ∃w,c[(k+1)%c.length]? =some w:=⟨_,aZ (dW _ we)⟩;haveI:=hb s (aK hx);haveI:=hb u (aK hw);have hxl:L[k]? =some s.l:=by rw[hL,cJ,hx];rfl
  have hwl:L[(k+1)%L.length]? =some u.l:=by rw[hLl,hL,cJ,hw];rfl
  refine ix (fu:=⟨13⟩) _ J (cp hx) J<|aj 20 (.d (vI (c.length:Nat))) J omo<|gx (fu:=⟨1⟩) J<|aj 21 (.d (vI (((k+1)%c.length:Nat):Int))) J J<|gx J<|ix _ J (cp hw) J<|cl J (z7 (l:=s.l)) J<|cl J (z7 (l:=u.l)) J<|cl J (FA (p:=s.l.dir) (q:=u.l.dir) (i:=97) (j:=97)) J<|cl J (nv (q:=s.l.dir.cross u.l.dir)) J<|br J J J (fun hc32=>?_) (fun hc32=>?_)
  .
   refine cl J (aEw (l:=s.l) (m:=u.l) (K7 hc32)) J<|rf J J<|ap ((acc++[cx s.l u.l]).map eZ) J okb (aHT [cx s.l u.l]) J<|ek 44 3 J<|at_ ⟨acc++[cx s.l u.l],k+1⟩ (by dsimp only;exact⟨⟨by rw[DZ,tz hxl hwl,if_pos hc32,<-h1],we⟩,we⟩)
  .
   exact at_ ⟨acc,k+1⟩ (by dsimp only;exact⟨⟨by rw[DZ,tz hxl hwl,if_neg hc32,<-h1,fR],we⟩,we⟩)
 .
  have hS:gj L=acc:=by unfold gj;rw[hLl,h1,show k=c.length by omega]
  refine gw 3 J<|rz J (by rw[<-hL,hS];rfl)
def IZ{l m:aa}(h:crossI l m≠0){p:ah}(h1:l.value p=0)(h2:m.value p=0):p=cx l m:=by
 rw[Qw h];have hd:=Ss h;rw[iG] at h1 h2;obtain⟨x,y⟩:=p;have e1:x*l.nor.cross m.nor=(l.b:Rat)*(m.c:Rat)-(l.c:Rat)*(m.b:Rat):=by unfold ah.cross aa.nor;grind
 have e2:y*l.nor.cross m.nor=(l.c:Rat)*(m.a:Rat)-(l.a:Rat)*(m.c:Rat):=by unfold ah.cross aa.nor;grind
 generalize l.nor.cross m.nor=d at*;simp only[ah.mk.injEq];constructor<;>grind
def Lh{a b:Bool}(h:a=true↔b=true):a=b:=by cases a<;>cases b<;>simp_all
def JP(l:aa)(t:Rat):l.at t=cD (l.at 0) l.dir t:=by rw[<-Hq];congr 1;grind
section
variable {F:Fence} {n:Nat} {P:Program} {Q:Exit->Act->World->Prop} {ops:Array Oper} {md:Region.Mode}
def V0: ∀{k:Nat} {listed:Array Bool} {a:Act} {w:World},wpAnyIn F n P md ops Q k listed a w->wpAnyIn F n P md ops Q (k+1) listed a w
 |0,_,_,_,h=>⟨fun _=>h.2,fun i hi=>by rw[h.1] at hi;cases hi⟩
 |_+1,_,_,_,h=>⟨h.1,fun i hi=>wpOpIn_mono (fun _ _ k=>V0 k) (h.2 i hi)⟩
def Qo{k:Nat}{listed:Array Bool}{a:Act}{w:World}(h:wpAnyIn F n P md ops Q k listed a w): ∀j,wpAnyIn F n P md ops Q (j+k) listed a w
 |0=>by rw[fX];exact h
 |j+1=>by rw[show j+1+k=j+k+1 by omega];exact V0 (Qo h j)
def Bf.lt{l:List Oper}(he:nF 0 l=true){i j:Nat}(h:Bf l i j):j<i:=by
 induction h with
 |b ho hm hb=>have:=r6 he _ _ ho _ hm hb;omega
 |s ho hm hb _ ih=>have:=r6 he _ _ ho _ hm hb;omega
def Bf.inv{l:List Oper}{i j:Nat}(h:Bf l i j): ∃o e,l[i]? =some o/\e∈o.after/\Region.binds .any e=true/\(e.on=j\/Bf l e.on j):=by
 induction h with
 |b ho hm hb=>exact⟨_,_,ho,hm,hb, .inl J⟩
 |s ho hm hb hh _=>exact⟨_,_,ho,hm,hb, .inr hh⟩
def S5(he:nF 0 ops.toList=true): ∀(r pre:List Oper),ops.toList=pre++r->(∀i,pre.length<=i->i<ops.size-> ∀j,j<i->Bf ops.toList i j)-> ∀(listed:Array Bool) (a:Act) (w:World),(∀j d,listed.getD j d=if j<pre.length then true else if j<ops.size then false else d)->wpListIn F n P ops Q r a w->wpAnyIn F n P .any ops Q r.length listed a w
 |[],pre,hops,_,listed,a,w,hl,h=>by
  refine⟨?_,h⟩;rw[List.eq_nil_iff_forall_not_mem];intro i hi;obtain⟨h1,o,h2,_⟩:=mem_ready.1 hi;have h3:=(fM.1 h2).1;have h4:pre.length=ops.size:=by rw[<-lW,hops];simp
  rw[hl,if_pos we] at h1
  cases h1
 |o::r,pre,hops,hc,listed,a,w,hl,h=>by
  have hsz:ops.size=pre.length+(r.length+1):=by rw[<-lW,hops];simp
  have hp:ops.toList[pre.length]? =some o:=by rw[hops];simp
  have hp':ops[pre.length]? =some o:=by simpa using hp
  have only: ∀i,i∈Region.ready .any ops listed↔i=pre.length:=fun i=>by
   rw[mem_ready];constructor
   .rintro ⟨h1,o',h2,h3⟩
    have h4:=(fM.1 h2).1;rw[hl] at h1;split at h1
    .cases h1
    .rename_i h5
     apply Classical.byContradiction;intro h6;have hb:=hc i we h4 pre.length we;obtain⟨o2,e,ho,hm,hb,hh⟩:=hb.inv;have e':o'=o2:=Option.some.inj (h2.symm.trans okz);subst e';have h7:=h3 _ hm hb;have h9:=r6 he _ _ ho _ hm hb;have h8:pre.length<=e.on:=by
      rcases hh with hh|hh
      .omega
      .have:=hh.lt he;omega
     rw[hl,if_neg we,if_pos we] at h7
     cases h7
   .rintro rfl
    refine⟨by rw[hl,if_neg we,if_pos we],o,hp',fun e hm hb=>?_⟩;have:=r6 he _ _ hp _ hm hb;rw[hl,if_pos we]
  refine⟨fun hn=>?_,fun i hi=>?_⟩
  .have:=(only pre.length).2 J
   rw[hn] at this;cases this
  .obtain rfl:=(only i).1 hi
   have ih:=S5 he r (pre++[o]) (by rw[hops];simp) (fun i h1 h2=>hc i (by simp at h1;omega) h2) (listed.setIfInBounds pre.length true);have hl': ∀j d,(listed.setIfInBounds pre.length true).getD j d=if j<(pre++[o]).length then true else if j<ops.size then false else d:=fun j d=>by
    have hls:pre.length<listed.size:=by
     apply Classical.byContradiction;intro hq;have h1:=hl pre.length true;rw[if_neg we,if_pos we,cV,pK we] at h1
     cases h1
    have h1:=hl j d;rw[cV] at h1⊢;rw[eM];by_cases hj:pre.length=j
    .subst hj;rw[if_pos J,if_pos hls,if_pos omc];rfl
    .rw[if_neg hj,h1]
     simp only[aY,aS,eX];by_cases h2:j<pre.length
     .rw[if_pos h2,if_pos we]
     .rw[if_neg h2]
      by_cases h3:j<ops.size
      .rw[if_pos h3,if_neg we];
      .rw[if_neg h3,if_neg we]
   unfold wpOpIn;rw[hp'];simp only[wpListIn] at h⊢;split
   .rename_i hw;rw[if_pos hw] at h
    exact Oper.wpIn_mono (fun a w k=>ih a w hl' k) h
   .rename_i hw;rw[if_neg hw] at h
    exact⟨h.1,ih _ _ hl' h.2⟩
def ET(F:Fence)(n:Nat)(P:Program)(ops:Array Oper)(r:List Oper)(Q:Exit->Act->World->Prop):Exit->Act->World->Prop
 | .normal=>wpListIn F n P ops Q r
 |e=>Q e
def aHw{o:Oper}{a:Act}{w:World}{r:List Oper}{K:Act->World->Prop}(h:o.wpIn F n P a w K (ET F n P ops r Q)):o.wpIn F n P a w K Q:=by
 refine⟨h.1,?_⟩;have:=h.2
 cases hr:(o.semAt F.round a.eval).run P w with
 |ok x w'=>
  rw[hr] at this
  cases x with
  |enter f args=>exact⟨this.1,CallsIn.mono this.2 fun e w'' he=>by cases e<;>exact he⟩
  |round l f t x y=>exact⟨this.1,RoundIn.mono this.2 fun e w'' he=>by cases e<;>exact he⟩
  |_=>exact this
 |halt x w'=>
  rw[hr] at this
  cases x<;>exact this
def aIj{pre r:List Oper}(hops:ops.toList=pre++r)(hg: ∀o∈pre,o.guard=none)(he:nF 0 ops.toList=true)(hc: ∀i,pre.length<=i->i<ops.size-> ∀j,j<i->Bf ops.toList i j):
  ∀(fuel:Nat) (L listed:Array Bool) (a:Act) (w:World),L.size=pre.length->(∀j d,listed.getD j d=if j<pre.length then L.getD j d else if j<ops.size then false else d)->(∀i o,ops.toList[i]? =some o->listed.getD i false=true-> ∀e∈o.after,Region.binds .any e=true->listed.getD e.on false=true)->
   wpAnyIn F n P .any pre.toArray (ET F n P ops r Q) fuel L a w->wpAnyIn F n P .any ops Q (fuel+r.length) listed a w:=by
 have hsz:ops.size=pre.length+r.length:=by rw[<-lW,hops];simp
 have hget: ∀i,i<pre.length->ops[i]? =pre.toArray[i]? :=fun i hi=>by rw[<-pL,hops,kJ hi];simp
 -- all of the first part is done
 have fin: ∀(L listed:Array Bool) (a:Act) (w:World),L.size=pre.length->(∀j d,listed.getD j d=if j<pre.length then L.getD j d else if j<ops.size then false else d)->Region.ready .any pre.toArray L=[]->wpListIn F n P ops Q r a w->wpAnyIn F n P .any ops Q r.length listed a w:=by
  intro L listed a w hL hl hr h;have all: ∀i,i<pre.length->L.getD i true=true:=by
   intro i
   induction i using Nat.strongRecOn with
   |ind i ih=>
    intro hi
    cases hq:L.getD i true with
    |true=>rfl
    |false=>
     have:i∈Region.ready .any pre.toArray L:=mem_ready.2 ⟨hq,pre[i],by simp[hi],fun e hm hb=>by
      have hlt:=r6 he i pre[i] (by rw[hops,kJ hi];simp[hi]) e hm hb;have:=ih e.on we we;rw[cV,iJ we] at this⊢;simpa using this⟩
     rw[hr] at this;cases this
  refine S5 he r pre hops hc listed a w (fun j d=>?_) h;rw[hl];by_cases hj:j<pre.length
  .have:=all j hj
   rw[if_pos hj,if_pos hj];rw[cV,iJ we] at this⊢;simpa using this
  .rw[if_neg hj,if_neg hj]
 intro fuel
 induction fuel with
 |zero=>
  intro L listed a w hL hl hcl h;rw[fX];exact fin L listed a w hL hl h.1 h.2
 |succ fuel ih=>
  intro L listed a w hL hl hcl h;by_cases hr:Region.ready .any pre.toArray L=[]
  .exact Qo (fin L listed a w hL hl hr (h.1 hr)) (fuel+1)
  .have sub: ∀i,i∈Region.ready .any pre.toArray L->i∈Region.ready .any ops listed:=fun i hi=>by
    obtain⟨h1,o,h2,h3⟩:=mem_ready.1 hi;have hi':i<pre.length:=by have:=(fM.1 h2).1;simpa using this
    refine mem_ready.2 ⟨by rw[hl,if_pos hi'];exact h1,o,by rw[hget i hi'];exact h2,fun e hm hb=>?_⟩;have hlt:=r6 he i o (by rw[hops,kJ hi'];simpa using h2) e hm hb;rw[hl,if_pos we];exact h3 e hm hb
   have sup: ∀i,i∈Region.ready .any ops listed->i∈Region.ready .any pre.toArray L:=fun i hi=>by
    obtain⟨h1,o,h2,h3⟩:=mem_ready.1 hi;have h4:=(fM.1 h2).1;by_cases hi':i<pre.length
    .rw[hl,if_pos hi'] at h1
     refine mem_ready.2 ⟨h1,o,by rw[<-hget i hi'];exact h2,fun e hm hb=>?_⟩;have hlt:=r6 he i o (by simpa using h2) e hm hb;have:=h3 e hm hb;rw[hl,if_pos we] at this;exact this
    .exfalso
     obtain⟨j,hj⟩:=List.exists_mem_of_ne_nil _ hr;obtain⟨g1,o2,g2,_⟩:=mem_ready.1 hj;have hj':j<pre.length:=by have:=(fM.1 g2).1;simpa using this
     have clo: ∀i j,Bf ops.toList i j->listed.getD i false=true->listed.getD j false=true:=fun i j hb=>by
      induction hb with
      |b ho hm hb=>intro hi;exact hcl _ _ ho hi _ hm hb
      |s ho hm hb _ ih=>intro hi;exact ih (hcl _ _ ho hi _ hm hb)
     have hjf:listed.getD j false=false:=by
      rw[hl,if_pos hj'];rw[cV,iJ we] at g1⊢;simpa using g1
     have:listed.getD j false=true:=by
      obtain⟨o2,e,ho,hm,hb,hh⟩:=(hc i we h4 j we).inv;have e':o=o2:=Option.some.inj (h2.symm.trans okz);subst e';rcases hh with hh|hh
      .rw[<-hh];exact h3 _ hm hb
      .exact clo _ _ hh (h3 _ hm hb)
     rw[hjf] at this;cases this
   rw[show fuel+1+r.length=(fuel+r.length)+1 by omega];refine⟨fun hn=>?_,fun i hi=>?_⟩
   .obtain⟨j,hj⟩:=List.exists_mem_of_ne_nil _ hr
    have:=sub j hj;rw[hn] at this;cases this
   .have hi0:=sup i hi
    have hk:=h.2 i hi0;obtain⟨h1,o,h2,h3⟩:=mem_ready.1 hi0;have hi':i<pre.length:=by have:=(fM.1 h2).1;simpa using this
    have hgo:o.guard=none:=hg o (by
     have h2':pre[i]? =some o:=by simpa using h2
     exact aK h2')
    have step: ∀a w,wpAnyIn F n P .any pre.toArray (ET F n P ops r Q) fuel (L.setIfInBounds i true) a w->wpAnyIn F n P .any ops Q (fuel+r.length) (listed.setIfInBounds i true) a w:=by
     intro a w hh;have hls:i<listed.size:=by
      apply Classical.byContradiction;intro hq;have q:=hl i true;have q':=hl i false;rw[if_pos hi'] at q q';rw[cV,pK we] at q q';rw[cV,iJ we] at q q';simp only[Option.getD_none,mQ] at q q';rw[<-q] at q';cases q'
     have hl': ∀j d,(listed.setIfInBounds i true).getD j d=if j<pre.length then(L.setIfInBounds i true).getD j d else if j<ops.size then false else d:=fun j d=>by
      have q:=hl j d;rw[cV] at q⊢;rw[cV] at q⊢;rw[eM,eM];by_cases hj:i=j
      .subst hj;rw[if_pos J,if_pos J,if_pos hls,if_pos hi',if_pos we]
      .rw[if_neg hj,if_neg hj];exact q
     refine ih _ _ a w (by simp[hL]) hl' (fun i2 o2 g1 g2 e hm hb=>?_) hh;have g3:i2=i\/listed.getD i2 false=true:=by
      rw[cV,eM] at g2;by_cases hj:i=i2
      .exact .inl hj.symm
      .rw[if_neg hj] at g2;rw[cV];exact .inr g2
     have g4:listed.getD e.on false=true:=by
      rcases g3 with rfl|g3
      .have e':o=o2:=Option.some.inj (((hget i2 hi').trans h2).symm.trans (by simpa using g1))
       subst e';have hlt:=r6 he i2 o g1 e hm hb;rw[hl,if_pos we];exact h3 e hm hb
      .exact hcl i2 o2 g1 g3 e hm hb
     rw[cV,eM];by_cases hj:i=e.on
     .rw[if_pos hj];rw[if_pos hls];rfl
     .rw[if_neg hj];rw[cV] at g4;exact g4
    unfold wpOpIn at hk⊢;rw[hget i hi',h2];rw[h2] at hk;have hw: ∀y,Region.wanted o y=true:=fun y=>by unfold Region.wanted;rw[hgo]
    simp only[hw,if_true] at hk⊢;exact aHw (Oper.wpIn_mono step hk)
end
section
variable {P:Program} {GB:Gh} {C:aH} {n:Nat} {Q0:Exit->Act->World->Prop} {fr fr0:aF} {own own0:bh} {ops:Array Oper} {us:List Rc} {r:List Oper} {K:List Kt} {id:Nat}
def Hs(x:Nat):Nat->Bool
 |0=>true
 |i+1=>x.testBit i&&Hs x i
def OJ{x:Nat}: ∀{i:Nat},Hs x i=true-> ∀j,j<i->x.testBit j=true
 |i+1,h,j,hj=>by
  simp only[Hs,bT] at h;by_cases e:j=i
  .subst e;exact h.1
  .exact OJ h.2 j we
def Ds:Nat->List Nat->Bool
 |_,[]=>true
 |i,x::t=>Hs x i&&Ds (i+1) t
def TA: ∀{l:List Nat} {k:Nat},Ds k l=true-> ∀i x,l[i]? =some x-> ∀j,j<k+i->x.testBit j=true
 |y::t,k,h,0,x,hx,j,hj=>by
  simp only[Ds,bT] at h
  cases hx
  exact OJ h.1 j we
 |y::t,k,h,i+1,x,hx,j,hj=>by
  simp only[Ds,bT] at h;exact TA h.2 i x (by simpa using hx) j we
def VU: ∀(r:List Oper) (acc:List Nat),(qb r acc).length=acc.length+r.length
 |[],acc=>by simp[qb]
 |o::r,acc=>by simp only[qb];rw[VU];simp;omega
def JO(m:Nat)(pre all:List Oper)(us:List Rc)(fr0:aF)(own0:bh):Bool:=
 (pre.all (fun o=>o.guard.isNone)&&wn (qb pre []) [] us)&&((nF 0 all&&Ds m ((qb all []).drop m))&&Et us fr0 own0)
def aNb(hm:P.follows .mixedOrders=true)(h:JO us.length (ops.toList.take us.length) ops.toList us fr0 own0=true)(k:av P GB C n Q0 fr own (.ops ops r K)):av P GB C n Q0 fr own (.dr id ops fr0 own0 us r K):=by
 intro D;obtain⟨pre,hp,hl⟩:=D.pre;have ht:ops.toList.take us.length=pre:=by rw[hp,<-hl];simp
 rw[ht] at h;simp only[JO,bT] at h;obtain⟨⟨h1,h2⟩,⟨h3,h4⟩,h5⟩:=h;have hg: ∀o∈pre,o.guard=none:=fun o ho=>by simpa using dV.1 h1 o ho
 have hgt: ∀i,i<pre.length->ops[i]? =pre.toArray[i]? :=fun i hi=>by rw[<-pL,hp,kJ hi];simp
 have hc: ∀i,pre.length<=i->i<ops.size-> ∀j,j<i->Bf ops.toList i j:=fun i g1 g2 j g3=>by
  refine J7 ops.toList [] [] J J (fun i j h=>by simp at h) i j ?_;have hlen:=VU ops.toList [];have hi:i<(qb ops.toList []).length:=by rw[hlen];simpa using g2
  rw[aV,aZ hi];refine TA h4 (i-us.length) _ ?_ j we;rw[mS,show us.length+(i-us.length)=i by omega];exact aZ hi
 have he':nF 0 pre=true:=by
  have: ∀(l l':List Oper) (k:Nat),nF k (l++l')=true->nF k l=true:=by
   intro l l'
   induction l with
   |nil=>intros;rfl
   |cons o t ih=>intro k h;simp only[gL,nF,bT] at h⊢;exact⟨h.1,ih _ h.2⟩
  exact this pre r 0 (by rw[<-hp];exact h3)
 have D':jH P GB C n pre.toArray us (bi fr0,bC own0):=by
  refine⟨by simpa using hl.symm,fun i u o hu ho=>?_,by simpa using h2,by simpa using he',Uo h5⟩;have hi:i<pre.length:=by have:=(fM.1 ho).1;simpa using this
  obtain⟨d1,d2⟩:=D.snd i u o hu (by rw[hgt i hi];exact ho);refine⟨d1,fun Q tl tb K s1 s2 hf hk=>?_⟩;refine(d2 Q tl tb K s1 s2 hf hk).imp fun a w q=>?_;have hgo:o.guard=none:=hg o (aK okz);have hw: ∀y,Region.wanted o y=true:=fun y=>by unfold Region.wanted;rw[hgo]
  unfold wO at q⊢;simp only[hw,if_true] at q⊢;exact q
 have e:cC (d9 (Array.replicate pre.length false)) 0 (bi fr0,bC own0) us=(bi fr0,bC own0):=by
  have: ∀(l:List Rc) (k:Nat) (s:ST),cC (d9 (Array.replicate pre.length false)) k s l=s:=fun l=>by
   induction l with
   |nil=>intro k s;rfl
   |cons y l ih=>
    intro k s;simp only[cC];rw[ih];rw[FL];rfl
  exact this us 0 _
 have hw:=D'.walk (Q:=ET (FW C.rd) 0 P ops r (cQ C.rd P Q0 K)) (by rw[D.st];exact k) pre.toArray.size (Array.replicate pre.length false) omc (fun i o _ hi=>by rw[FL] at hi;cases hi) (by unfold un;exact cX (jV _ _) omc);rw[e] at hw;refine hw.drew.imp fun a w q=>wpIn_region_any hm ?_;have hsz:ops.size=pre.toArray.size+r.length:=by rw[<-lW,hp];simp
 rw[show wpAnyIn (FW C.rd) 0 P .any ops (cQ C.rd P Q0 K) ops.size=wpAnyIn (FW C.rd) 0 P .any ops (cQ C.rd P Q0 K) (pre.toArray.size+r.length) by rw[hsz]];refine aIj hp hg h3 hc _ _ _ _ _ omc (fun j d=>?_) (fun i o _ hi=>?_) q
 .have hs2:ops.size=pre.length+r.length:=by simpa using hsz
  simp only[cV,rX];by_cases g1:j<pre.length
  .rw[if_pos we,if_pos g1,if_pos g1]
  .by_cases g2:j<ops.size
   .rw[if_pos g2,if_neg g1,if_pos g2];rfl
   .rw[if_neg g2,if_neg g1,if_neg g2];rfl
 .simp only[cV,rX] at hi
  split at hi<;>cases hi
end
section
variable {GB:Gh} {C:aH} {n:Nat} {Q0:Exit->Act->World->Prop} {fr fr0 fr':aF} {own own0 own':bh} {cf':Cf} {vc:List Prop} {ops:Array Oper} {us:List Rc} {r:List Oper} {K:List Kt} {id:Nat}
def YU[fu:Fu](h:JO us.length (ops.toList.take us.length) ops.toList us fr0 own0=true)(hgo:go tt n fu.n [] fr own (.ops ops r K)=⟨vc,fr',own',cf'⟩)(k:av prog GB C n Q0 fr' own' cf')
  (hv:autoParam (ak vc) cL._auto_1):av prog GB C n Q0 fr own (.dr id ops fr0 own0 us r K):=
 aNb follows h (gn hgo hv k)
end
def Kn(o:Obj):Prop:= ∀cs ty z,o≠ .cells cs ty z
section
variable {C C':aH} {own:List aA} {G G1:Gh} {w w1:World}
def bI.ctx(h:bI C own G w)(h1:C'.w0=C.w0)(h2:C'.G0=C.G0)(h3:C'.mb=C.mb)(h4: ∀p∈C'.ex,p∈C.ex):bI C' own G w:=by
 obtain⟨a1,a2,a3,a4,a5,a6,a7,a8,a9,a10,a11,a12⟩:=h;exact⟨by rw[h1];exact a1,by rw[h1];exact a2,by rw[h1];exact a3,by rw[h1];exact a4,by rw[h1,h3];exact a5,a6,by rw[h2];exact a7,by rw[h1,h2];exact a8,by rw[h1,h3];exact a9,a10,by rw[h1];exact a11,fun p hp=>a12 p (h4 p hp)⟩
def bI.addx(h:bI C own G w){o:Obj}(ho:Kn o)(h1:C'.w0=C.w0)(h2:C'.G0=C.G0)(h3:C'.mb=C.mb)(h4: ∀p∈C'.ex,p=(w.heap.size,o)\/p∈C.ex):bI C' own G (w.alloc o):=by
 have old: ∀b,b<w.heap.size->(w.alloc o).heap[b]? =w.heap[b]? :=fun b hb=>RowKit.Below.heap_alloc _ _ _ hb;obtain⟨a1,a2,a3,a4,a5,a6,a7,a8,a9,a10,a11,a12⟩:=h;refine⟨by rw[h1];exact a1,by rw[h1];exact a2,by rw[h1];exact a3,by rw[h1];simp;omega,?_,?_,by rw[h2];exact a7,by rw[h1,h2];exact a8,?_,a10,by rw[h1];exact a11,?_⟩
 .rw[h1,h3];intro b hb hm;rw[old b we];exact a5 b hb hm
 .intro b cs hb
  obtain⟨ty,fz,hc⟩:=a6 b cs hb;exact⟨ty,fz,by rw[old b (i6 hc)];exact hc⟩
 .rw[h1,h3];intro x hx
  obtain⟨b1,b2⟩:=a9 x hx;exact⟨by rw[old _ (i6 b1)];exact b1,b2⟩
 .intro p hp
  rcases h4 p hp with rfl|hp
  .exact⟨ho,World.alloc_heap_new w o⟩
  .exact⟨(a12 p hp).1,by rw[old _ (i6 (a12 p hp).2)];exact(a12 p hp).2⟩
def bI.putx(h:bI C own G w){l:Nat}{o0 o:Obj}(hl:(l,o0)∈C.ex)(hs:C.w0.heap.size<=l)(ho:Kn o)(h1:C'.w0=C.w0)(h2:C'.G0=C.G0)(h3:C'.mb=C.mb)(h4: ∀p∈C'.ex,p=(l,o)\/p∈C.ex/\p.1≠l):bI C' own G (w.putObj l o):=by
 have hne: ∀{b:Nat} {cs:Array Value} {ty:TypeId} {z:Nat×Nat},w.heap[b]? =some (.cells cs ty z)->b≠l:=fun hb e=>h.extNe hl hb e.symm;have hlt:=i6 (h.ext _ hl).2;obtain⟨a1,a2,a3,a4,a5,a6,a7,a8,a9,a10,a11,a12⟩:=h;refine⟨by rw[h1];exact a1,by rw[h1];exact a2,by rw[h1];exact a3,by rw[h1];simpa using a4,?_,?_,by rw[h2];exact a7,by rw[h1,h2];exact a8,?_,a10,by rw[h1];exact a11,?_⟩
 .rw[h1,h3];intro b hb hm;rw[World.putObj_heap_other we];exact a5 b hb hm
 .intro b cs hb
  obtain⟨ty,fz,hc⟩:=a6 b cs hb;exact⟨ty,fz,by rw[World.putObj_heap_other (hne hc)];exact hc⟩
 .rw[h1,h3];intro x hx
  obtain⟨b1,b2⟩:=a9 x hx;exact⟨by rw[World.putObj_heap_other (hne b1)];exact b1,b2⟩
 .intro p hp
  rcases h4 p hp with rfl|⟨hp,hpl⟩
  .exact⟨ho,World.putObj_heap_same hlt⟩
  .exact⟨(a12 p hp).1,by rw[World.putObj_heap_other hpl];exact(a12 p hp).2⟩
end
abbrev oA (w:World) (G:Gh):aH:=⟨w,G,[],[],[],none,fun _=>none⟩
def KT(G:Gh)(w:World):Prop:= ∀b cs,G b=some cs-> ∃ty fz,w.heap[b]? =some (.cells ⟨cs⟩ ty fz)
structure T1 (Jv:Gh->World->Prop):Prop where
 frz: ∀G w,Jv G w->KT G w
 on: ∀G w G1 w1,Jv G w->bI (oA w G) [] G1 w1->Jv G1 w1
def JW{G:Gh}{w:World}(h:KT G w):bI (oA w G) [] G w:=
 ⟨J,J,J,bV _,fun _ _ _=>J,h,b7.refl _,fun _ _=>J,fun o ho=>(by cases ho), .nil,bV _,fun p hp=>by cases hp⟩
structure Cy (GB:Gh) (P:Program) (l:Nat) (Jv:Nat->Gh->World->Prop) (Jx:Gh->World->Prop) (E:List (List DV)):Prop where
 st: ∀k,T1 (Jv k)
 sx:T1 Jx
 yd: ∀k e G w ys,E[k]? =some e->b7 GB G->Jv k G w->IsLs G e ys->YieldAt (FW none) 0 P l ⟨ys⟩ w fun e w'=> ∃G',b7 G G'/\(e= .returned (.bool true)/\Jv (k+1) G' w'\/e= .returned (.bool false)/\Jx G' w')
structure It (GB:Gh) (P:Program) (f:FuncId) (ds:List DV) (E:List (List DV)):Prop where
 able:ua P f
 run: ∀(l:Nat) (Jv:Nat->Gh->World->Prop) (Jx:Gh->World->Prop) (GB':Gh),b7 GB GB'->Cy GB' P l Jv Jx E-> ∀w vs,Jv 0 GB' w->IsLs GB' ds vs->
  CallsIn (FW none) 0 P f ⟨.func (.yield l) #[] #[]::vs⟩ w fun e w'=> ∃G',b7 GB' G'/\(∃v,e= .returned v)/\(Jv E.length G' w'\/Jx G' w')
structure Pl (C:aH):Prop where
 mb:C.mb=[]
 mks:C.mks=[]
 rd:C.rd=none
def LA(P:Program)(fb:Func)(GB:Gh)(Jv:Nat->Gh->World->Prop)(Jx:Gh->World->Prop)(N:Nat):Exit->Act->World->Prop:=
 bodyPost P fb fun e w'=> ∃G',b7 GB G'/\(∃v,e= .returned v)/\(Jv N G' w'\/Jx G' w')
section
variable {GB:Gh} {C:aH} {n:Nat} {Q0:Exit->Act->World->Prop} {fr fr':aF} {own own':bh} {cf':Cf} {vc:List Prop} {ops:Array Oper} {o:Oper} {r:List Oper} {K:List Kt}
def aMU[fu:Fu]{f:FuncId}{fb:Func}{c:Code}{m:Nat}{ds:List DV}{E:List (List DV)}{cf:Nat->Cf}{fr:Nat->aF}{own:Nat->bh}{vc:Nat->List Prop}(hf:prog.funcs[f]? =some fb)(hb:fb.body=some c)(hn:(fb.name== "runtime.NumGoroutine")=false)(hm:fb.ntmps=m)(hlen:Nat.ble (ds.length+1) m=true)
  (hgo: ∀l,go tt m fu.n [] (sD 0 (.v (.func (.yield l) #[] #[])::ds)) [] (.code c [])=⟨vc l,fr l,own l,cf l⟩)
  (k: ∀l Jv Jx GB',b7 GB GB'->Cy GB' prog l Jv Jx E-> ∀C,Pl C->Jv 0 C.G0 C.w0->av prog GB' C m (LA prog fb GB' Jv Jx E.length) (fr l) (own l) (cf l))
  (hv: ∀l,ak (vc l):=by intros;first|exact trivial|(simp only[ak];kernel_rfl)|(simp only[ak];omega)):It GB prog f ds E:=by
 refine⟨⟨fb,hf,hn,by simp[hb]⟩,fun l Jv Jx GB' hg H w vs hJ hvs=>?_⟩;have hlen':vs.length+1<=m:=by rw[hvs.len];simpa using hlen
 have h:=gn (GB:=GB') (C:=oA w GB') (Q0:=LA prog fb GB' Jv Jx E.length) (hgo l) (hv l) (k l Jv Jx GB' hg H (oA w GB') ⟨J,J,J⟩ hJ);refine callsIn_wide.2 (calls_of_wp hf hb ?_);have hvs':IsLs GB' (.v (.func (.yield l) #[] #[])::ds) (.func (.yield l) #[] #[]::vs):= .cons (aP.2 J) hvs;refine wh J (h.run (fun _=>⟨none,0,0⟩) GB' [] _ w ⟨b7.refl _,JW ((H.st 0).frz _ _ hJ),by simp;omega,J,fun k f e=>A7 hvs' (fun k v hk=>?_) k f e,(fun nm B e=>by cases e),(fun nm nm' B B' e=>by cases e),fun nm p _ _ e=>by cases e⟩);obtain⟨j,rfl,hj⟩:=zl (.func (.yield l) #[] #[]::vs) 0 k v hk;have hj':=(aR.1 hj).1;rw[mZ omP];simpa using hj
def bI.pl{ov:List aA}{G:Gh}{w:World}(h:bI C ov G w)(hp:Pl C):bI (oA C.w0 C.G0) [] G w:=
 (h.drop (jM _)).ctx J J hp.mb.symm (fun p hp=>by cases hp)
def Rt{P:Program}{l:Nat}{Jv:Nat->Gh->World->Prop}{Jx:Gh->World->Prop}{E:List (List DV)}{fb:Func}{e:Exit}(H:Cy GB P l Jv Jx E)(hp:Pl C)(hJ:Jv E.length C.G0 C.w0\/Jx C.G0 C.w0)(hr:fb.results.toList=[])(he:Ev e=true:=by rfl):
  av P GB C n (LA P fb GB Jv Jx E.length) fr own (.ex e []):=by
 refine⟨fun ρ G ov a w r=>?_⟩;have hj:Jv E.length G w\/Jx G w:=hJ.imp (fun h=>(H.st _).on _ _ _ _ h (r.h.pl hp)) fun h=>H.sx.on _ _ _ _ h (r.h.pl hp);have hr':ku P (cG a) ov fb.results.toList []:=by rw[hr];exact .nil
 cases e with
 |ret=>exact⟨r.df.trans hp.mks,_,uA hr' (c7 a) r.h,G,r.gb,⟨_,J⟩,hj⟩
 |normal=>exact⟨r.df.trans hp.mks,_,uA hr' (c7 a) r.h,G,r.gb,⟨_,J⟩,hj⟩
 |_=>cases he
def Yg{P:Program}{fo:Operand}{args:Array Operand}{tys:Array TypeId}{vs:List Value}{a:Act}{w:World}{fr:Fr}{l:Nat}{dst:Option Nat}{ty':TypeId}{pos:String}{af:Array Edge}{gd:Option (Nat×Bool)}(hf:ma fr a)(ho:aE fr fo=some (.func (.yield l) ⟨[]⟩ ⟨[]⟩))(hv:fI fr args.toList=some vs):
  (execOp a.eval ⟨dst, .call ⟨.value fo,args,tys⟩,ty',pos,af,gd⟩).run P w=(Instr.yield l ⟨vs⟩).run P w:=by
 have e:args.map a.eval=⟨vs⟩:=by apply Array.ext';simpa using Dp hf hv
 simp only[execOp,resolve,bF hf ho,e,Deferred.ofValue];show(invoke (.fn (.yield l) ⟨[]⟩) (⟨[]⟩++⟨vs⟩)).run P w=_;simp only[invoke];rw[show((⟨[]⟩:Array Value)++⟨vs⟩)=⟨vs⟩ by simp]
def oe:aF->aF
 |[]=>[]
 |(k,f)::t=>match f with
  | .ov .. =>oe t
  | .rw .. =>oe t
  | .be .. =>oe t
  | .rs .. =>oe t
  | .bx .. =>oe t
  | .ri .. =>oe t
  | .no=>oe t
  |f=>(k,f)::oe t
def P7(fr:aF)(ops:Array Oper)(o:Oper):Option (Nat×List DV×Nat):=match o with
 |⟨some d, .call ⟨.value fo,args,_⟩,_,_,_,none⟩=>match bt (bi fr) fo,evDs (bi fr) args.toList with
  |some (.d (.v (.func (.yield l) ⟨[]⟩ ⟨[]⟩))),some ds=>some (l,ds,d)
  |_,_=>none
 |_=>none
def cy[fu1:Fu][fu2:Fu]{l d k:Nat}{Jv:Nat->Gh->World->Prop}{Jx:Gh->World->Prop}{E:List (List DV)}{ds:List DV}{fr1 fr2:aF}{own1 own2:bh}{cf1 cf2:Cf}{vc1 vc2:List Prop}(frd:aF)(H:Cy GB prog l Jv Jx E)(hp:Pl C)(hJ:Jv k C.G0 C.w0)(ha:P7 fr ops o=some (l,ds,d))(hE:E[k]? =some ds)(hd:co n (some d)=true)
  (hfd:xe frd fr)(hnd:oe frd=frd)
  (g1:go tt n fu1.n [] ((d, .tt)::frd) [] (.ops ops r K)=⟨vc1,fr1,own1,cf1⟩)(g2:go tt n fu2.n [] ((d, .ff)::frd) [] (.ops ops r K)=⟨vc2,fr2,own2,cf2⟩)
  (k1: ∀C',Pl C'->Jv (k+1) C'.G0 C'.w0->av prog GB C' n Q0 fr1 own1 cf1)(k2: ∀C',Pl C'->Jx C'.G0 C'.w0->av prog GB C' n Q0 fr2 own2 cf2)
  (v1:autoParam (ak vc1) cL._auto_1)(v2:autoParam (ak vc2) cL._auto_1):
  av prog GB C n Q0 fr own (.ops ops (o::r) K):=by
 unfold P7 at ha;split at ha<;>try (cases ha;done)
 rename_i d0 fo args tys ty pos af;split at ha<;>cases ha;rename_i h1 h2;have nmd: ∀{f:aF},oe f=f-> ∀k x,bi f k=some x->x.nm=none:=by
  have len: ∀f:aF,(oe f).length<=f.length:=fun f=>by
   induction f with
   |nil=>exact bV _
   |cons e t ih=>obtain⟨j,x⟩:=e;cases x<;>simp only[oe,aS]<;>omega
  intro f
  induction f with
  |nil=>intro _ k x e;cases e
  |cons e t ih=>
   obtain⟨j,y⟩:=e;intro hd k x hx;rw[kH] at hx;have:=len t;split at hx
   .cases hx
    cases y<;>first|rfl|(have:=congrArg List.length hd;simp only[oe,aS] at this;omega)
   .refine ih ?_ k x hx
    cases y<;>first|exact(List.cons.inj hd).2|(have:=congrArg List.length hd;simp only[oe,aS] at this;omega)
 refine⟨fun ρ G ov a w rl=>?_⟩;have hJG:Jv k G w:=(H.st k).on _ _ _ _ hJ (rl.h.pl hp);obtain⟨y,hy,hy'⟩:=rl.ev h1;rw[(aP (G:=G)).1 hy'] at hy;obtain⟨vs,h3,h4⟩:=rl.evDs h2;obtain⟨fn,tmps,assign,body,hrun,hround⟩:=H.yd k ds G w vs hE rl.gb hJG h4;rw[hp.rd];simp only[wpListIn];rw[if_pos okS];refine⟨fun _ _=>trivial,?_⟩;have hs: ∀o:Oper,Oper.semAt (FW none).round a.eval o=execOp a.eval o:=fun _=>J;rw[hs,Yg (c7 a) hy h3,hrun];refine⟨fun h=>okA,hround.mono fun e w' he=>?_⟩;obtain⟨G',hg,he⟩:=he;have rel: ∀(b:Bool) (f:FX),(∀ρ,ce ρ G' f (.bool b))->KT G' w'->bP GB (oA w' G') n (bi ((d,f)::frd)) (bC []) ρ G' [] (a.put (some d) (.bool b)) w':=fun b f hfb hz=>by
  have pa:=rl.putA (dst:=some d) (.bool b) hd;refine⟨rl.gb.trans hg,JW hz,pa.sz,by rw[pa.df];exact hp.mks,fun k g e=>?_,(fun nm B e=>by cases e),(fun nm nm' B B' e=>by cases e),fun nm p _ _ e=>by cases e⟩;have e':eD (bi frd) (some d) f k=some g:=by
   rw[kH] at e;simp only[eD];split at e
   .rename_i hk;rw[if_pos hk];exact e
   .rename_i hk;rw[if_neg hk];exact e
  refine pa.fx (fun k g _ e=>?_) (hfb ρ) k g e';obtain⟨u,h5,h6⟩:=rl.fx k g (zi hfd k g e);exact⟨u,h5,h6.up hg⟩
 rcases he with⟨rfl,hj⟩|⟨rfl,hj⟩
 .exact(gn (GB:=GB) (C:=oA w' G') (Q0:=Q0) g1 v1 (k1 (oA w' G') ⟨J,J,J⟩ hj)).run ρ G' [] _ w' (rel true .tt (fun _=>J) ((H.st _).frz _ _ hj))
 .exact(gn (GB:=GB) (C:=oA w' G') (Q0:=Q0) g2 v2 (k2 (oA w' G') ⟨J,J,J⟩ hj)).run ρ G' [] _ w' (rel false .ff (fun _=>J) (H.sx.frz _ _ hj))
def NR(GB:Gh)(n:Nat){X:Type}(F:X->aF)(I:X->aH->Prop)(a:Act)(w:World):Prop:=
 ∃C x ρ G ov,Pl C/\I x C/\bP GB C n (bi (F x)) (bC []) ρ G ov a w
def YS[fu:Fu]{c:Code}{X:Type}(F:X->aF)(I:X->aH->Prop)(μ:X->Nat)(x0:X){cf':X->Cf}{fr':X->aF}{own':X->bh}{vc:X->List Prop}(hp:Pl C)(hI:I x0 C)
  (hgo: ∀x,go tt n fu.n [] (F x) [] (.code c (.ag (NR GB n F (fun y C=>I y C/\μ y<μ x))::K))=⟨vc x,fr' x,own' x,cf' x⟩)
  (round: ∀x C,Pl C->I x C->av prog GB C n Q0 (fr' x) (own' x) (cf' x))(hF:xe (F x0) fr:=by repeat (first|exact trivial|refine And.intro J ?_|refine And.intro (qq J okk) ?_|refine And.intro (qq J omc) ?_))
  (hv: ∀x C,I x C->ak (vc x):=by intros;first|exact trivial|(simp only[ak];kernel_rfl)|(simp only[ak];omega)|(simp only[ak,aX,bJ,aM];omega)):av prog GB C n Q0 fr own (.code (.loop c) K):=by
 refine⟨fun ρ G ov a w r=>?_⟩;have r0:=r.mono (bk:=bC []) (zi hF) (fun k x e=>by cases e);rw[hp.rd];intro b k cs hro hb hrm;have key: ∀m a w,(∃C x ρ G ov,Pl C/\I x C/\μ x=m/\bP GB C n (bi (F x)) (bC []) ρ G ov a w)->
   ∃e a' w',cQ none prog Q0 K e a' w'/\ArrivesIn (Machine.fenced prog (FW none)) prog (lone (b.atR a (.code c:: .inLoop c::k)) cs w) b k cs e a' w':=by
  intro m
  induction m using Nat.strongRecOn with
  |_ m ih=>
   intro a w ⟨C,x,ρ,G,ov,hpc,hx,hm,hr⟩;have h1:=gn (GB:=GB) (C:=C) (Q0:=Q0) (hgo x) (hv x C hx) (round x C hpc hx);have h2:=h1.run ρ G ov a w hr;rw[hpc.rd] at h2;obtain⟨e,a₁,w₁,hq,harr⟩:=h2 b (.inLoop c::k) cs hro hb hrm
   cases e with
   |normal=>
    obtain⟨C',x',ρ',G',ov',hpc',⟨hx',hlt⟩,hr'⟩:=hq;obtain⟨e₂,a₂,w₂,hq₂,harr₂⟩:=ih (μ x') (hm▸hlt) a₁ w₁ ⟨C',x',ρ',G',ov',hpc',hx',rfl,hr'⟩;exact⟨e₂,a₂,w₂,hq₂, .of_steps (StepsIn.trans harr (.one (fenced_calm hb hrm J) stepR_inLoop)) harr₂⟩
   |exit id=>exact⟨_,a₁,w₁,hq, .pass (x:= .inLoop c) J (fun _ _=> .inl omc) harr⟩
   |goto l=>exact⟨_,a₁,w₁,hq, .pass (x:= .inLoop c) J (fun _ _=> .inl omc) harr⟩
   |ret=>exact⟨_,a₁,w₁,hq, .pass (x:= .inLoop c) J (fun _ _=> .inl omc) harr⟩
   |panic ch=>exact⟨_,a₁,w₁,hq, .pass (x:= .inLoop c) J (fun _ _=> .inl omc) harr⟩
   |outgrown=>exact⟨_,a₁,w₁,hq, .pass (x:= .inLoop c) J (fun _ _=> .inl omc) harr⟩
 obtain⟨e,a',w',q,rr⟩:=key (μ x0) a w ⟨C,x0,ρ,G,ov,hp,hI,rfl,r0⟩;exact⟨e,a',w',q, .of_steps (.one (fenced_calm hb hrm J) stepR_loop) rr⟩
def atC{P:Program}{X:Type}{F:X->aF}{I:X->aH->Prop}(x:X)(hp:Pl C)(hI:I x C)(hF:xe (F x) fr:=by repeat (first|exact trivial|refine And.intro J ?_|refine And.intro (qq J okk) ?_|refine And.intro (qq J omc) ?_)):av P GB C n Q0 fr own (.ex .normal (.ag (NR GB n F I)::K)):=
 ⟨fun ρ G ov a w r=>⟨C,x,ρ,G,ov,hp,hI,r.mono (zi hF) (fun k x e=>by cases e)⟩⟩
end
section
variable {GB:Gh} {C:aH} {n:Nat} {Q0:Exit->Act->World->Prop} {fr fr':aF} {own own':bh} {cf cf':Cf} {vc:List Prop} {ops:Array Oper} {r:List Oper} {K:List Kt}
def aFI{x y:Nat}{Φ:Act->World->Prop}{R:C9}(hfx:C.fx=fun _=>none)(h:AY x y fr own=some R)(hk:SX GB C n (bi R.fr) (bC R.own) Φ):SX GB C n (bi fr) (bC own) Φ:=by
 unfold AY at h;rw[cond_eq_ite] at h;split at h<;>try (cases h;done)
 rename_i hb;have hxy:x≠y:=fun e=>hb (by subst e;simp);rw[IX,I4] at h;cases h;refine⟨fun ρ G ov a w r=>hk.run (fun k=>if k=y then ρ x else ρ k) G ov a w ?_⟩;have inv: ∀m B,bC (own.map fun e=>(bif Nat.beq e.1 y then x else bif Nat.beq e.1 x then y else e.1,bif Nat.beq e.1 y then none else tf x y e.2)) m=some B-> ∃m0 B0,bC own m0=some B0/\tf x y (some B0)=some B/\(m=y/\m0=x\/m≠y/\m≠x/\m0=m):=fun m B e=>by
  rw[L' hxy] at e;split at e
  .cases e
  .rename_i hm
   split at e
   .cases hl:bC own x with
    |none=>rw[hl] at e;cases e
    |some B0=>rw[hl] at e;exact⟨x,B0,hl,e, .inl ⟨ome,J⟩⟩
   .cases hl:bC own m with
    |none=>rw[hl] at e;cases e
    |some B0=>rw[hl] at e;exact⟨m,B0,hl,e, .inr ⟨ome,hm,J⟩⟩
 have rho: ∀m m0,(m=y/\m0=x\/m≠y/\m≠x/\m0=m)->(fun k=>if k=y then ρ x else ρ k) m=ρ m0:=fun m m0 h=>by
  rcases h with⟨h1,h2⟩|⟨h1,_,h2⟩
  .subst h1 h2;simp
  .subst h2;exact if_neg h1
 refine⟨r.gb,r.h,r.sz,r.df,fun k f e=>?_,fun m B e=>?_,fun m m' B B' e e' hne=>?_,fun m p _ _ e=>by rw[hfx] at e;cases e⟩
 .rw[En] at e
  cases hf:bi fr k with
  |none=>rw[hf] at e;cases e
  |some g=>
   rw[hf] at e;cases e;obtain⟨v,h1,h2⟩:=r.fx k g hf;exact⟨v,h1,H0 hxy h2⟩
 .obtain⟨m0,B0,h1,h2,h3⟩:=inv m B e
  obtain⟨os,h4,h5⟩:=r.bx m0 B0 h1;refine⟨os,?_,h5⟩;have hr:=rho m m0 h3
  cases B0 with
  |b=>cases h2;obtain⟨vs,q1,q2,q3,q4⟩:=h4;exact⟨vs,by rw[hr];exact q1,q2,q3,q4⟩
  |c=>cases h2;obtain⟨vs,q1,q2,q3,q4,q5⟩:=h4;exact⟨vs,by rw[hr];exact q1,q2,q3,q4,by rw[hr];exact q5⟩
  |p=>cases h2;obtain⟨q0,vs,q1,q2,q3,q4⟩:=h4;exact⟨by rw[hr];exact q0,vs,q1,q2,q3,q4⟩
  |o ty cs lo=>cases h2;obtain⟨b,q,q1,q2,q3⟩:=h4;exact⟨b,q,by rw[hr];exact q1,q2,LD hxy q3⟩
 .obtain⟨m0,B0,h1,_,h3⟩:=inv m B e
  obtain⟨m1,B1,h4,_,h6⟩:=inv m' B' e';have q1:=rho m m0 h3;have q2:=rho m' m1 h6;simp only at q1 q2;rw[q1,q2];refine r.dj m0 m1 B0 B1 h1 h4 fun e=>?_;rcases h3 with⟨h7,h8⟩|⟨h7,h8,h9⟩<;>rcases h6 with⟨g7,g8⟩|⟨g7,g8,g9⟩
  .exact hne (h7.trans g7.symm)
  .exact g8 (by rw[<-g9,<-e,h8])
  .exact h8 (by rw[<-h9,e,g8])
  .exact hne (by rw[<-h9,e,g9])
def AO{P:Program}(x y:Nat){fr1:aF}{own1:bh}{c:Code}(hfx:C.fx=fun _=>none)(h:AY x y fr own=some ⟨fr1,own1⟩)(k:av P GB C n Q0 fr1 own1 (.code c K)):av P GB C n Q0 fr own (.code c K):=aFI hfx h k
def Ky(P:Program)(fb:Func)(R:Ending->World->Prop):Exit->Act->World->Prop:=bodyPostM (FW none) 0 P fb R
structure Sf (C:aH):Prop where
 mks:C.mks=[]
 rd:C.rd=none
 fx:C.fx=fun _=>none
def Ii[fu:Fu]{f:FuncId}{fb:Func}{c:Code}{m:Nat}{ds:List DV}{rv:DV}(hf:prog.funcs[f]? =some fb)(hb:fb.body=some c)(hn:(fb.name== "runtime.NumGoroutine")=false)(hm:fb.ntmps=m)(hlen:Nat.ble ds.length m=true)
  (hgo:go tt m fu.n [] (sD 0 ds) [] (.code c [])=⟨vc,fr,own,cf⟩)(k: ∀C:aH,Sf C->av prog GB C m (Ky prog fb (mD C (fun v G'=>Is G' rv v))) fr own cf)
  (hv:autoParam (ak vc) fn._auto_1):PF GB prog f ds rv:=by
 intro G vs hg hvs;refine⟨⟨fb,hf,hn,by simp[hb]⟩,fun w hw=>?_⟩;have hlen':vs.length<=m:=by rw[hvs.len];simpa using hlen
 have h:=gn (GB:=GB) (C:=oA w G) (Q0:=Ky prog fb (mD (oA w G) (fun v G'=>Is G' rv v))) hgo hv (k (oA w G) ⟨J,J,J⟩);refine(callsIn_wide (n:=0)).1 (callsIn_of_wp_marks (F:=FW none) (n:=0) hf hb trivial ?_);refine h.run (fun _=>⟨none,0,0⟩) G [] _ w ⟨hg,JW hw,by simp;omega,J,fun k f e=>A7 hvs (fun k v hk=>?_) k f e,(fun nm B e=>by cases e),(fun nm nm' B B' e=>by cases e),fun nm p _ _ e=>by cases e⟩;obtain⟨j,rfl,hj⟩:=zl vs 0 k v hk;have hj':=(aR.1 hj).1;rw[mZ omP];simpa using hj
def aH.mk3(C:aH)(D:Nat):aH:={C with ex:=(D, .deferred (some []))::C.ex,mks:=[{target:= .collected D,args:= #[]}]}
def Ff{fb:Func}{e:Exit}{ds:List DV}{rv:DV}{D:Nat}(hD:C.w0.heap.size<=D)(hx: ∀p∈C.ex,p.1≠D)(hr:sh tt fr own fb.results.toList=some ds)(hd:fy ds=rv)(he:Ev e=true:=by rfl):av prog GB (C.mk3 D) n (Ky prog fb (mD C (fun v G'=>Is G' rv v))) fr own (.ex e []):=by
 refine⟨fun ρ G ov a w r=>?_⟩;obtain⟨vs,h1,h2⟩:=EL r hr;have hk:Is G rv (pf vs):=hd▸Ea h2;have hex:((D,Obj.deferred (some [])):Nat×Obj)∈(C.mk3 D).ex:=aQ;have h3:bI C ov G (w.putObj D (.deferred none)):=r.h.putx hex hD (fun _ _ _ h=>by cases h) J J J fun p hp=> .inr ⟨aJ _ hp,hx p hp⟩;have hres:=uA (C:=C) (G:=G) (own:=ov) (w:=w.putObj D (.deferred none)) h1 (c7 a) h3;have key:LeavesInM (FW none) 0 prog fb a.tmps (mD C (fun v G'=>Is G' rv v)) a.defers .returning w:=by
  rw[r.df];exact⟨omc, .inl ⟨D,_,J,run_takeDeferred (r.h.ext _ hex).2,_,hres,_,G,J,h3.drop (jM _),hk⟩⟩
 cases e with
 |ret=>exact key
 |normal=>exact key
 |_=>cases he
end
section
variable {GB:Gh} {C:aH} {n:Nat} {Q0:Exit->Act->World->Prop} {fr fr':aF} {own own':bh} {cf cf':Cf} {vc:List Prop} {ops:Array Oper} {r:List Oper} {K:List Kt}
def bP.later{lk:LK}{bk:BM}{ρ:NE}{G G1:Gh}{ov:List aA}{a:Act}{w w1:World}(r:bP GB C n lk bk ρ G ov a w)(h:bI (oA w G) [] G1 w1):bP GB C n lk bk ρ G1 ov a w1:=
 ⟨r.gb.trans h.gle,r.h.called h,r.sz,r.df,fun k f e=>by obtain⟨y,h1,h2⟩:=r.fx k f e;exact⟨y,h1,h2.up h.gle⟩,fun nm B e=>by obtain⟨os,h1,h2⟩:=r.bx nm B e;exact⟨os,h1.up h.gle,h2⟩,r.dj,r.fxd⟩
def Cl:List Nat->List DV->aF->aF
 |p::ps,d::ds,fr=>Cl ps ds ((p, .d d)::fr)
 |_,_,fr=>fr
def N1{ρ:NE}{G:Gh}: ∀{ps:List Nat} {ds:List DV} {ys tm:List Value} {fr:aF},IsLs G ds ys->(∀p∈ps,p<tm.length)->(∀k f,bi fr k=some f-> ∃y,tm[k]? =some y/\ce ρ G f y)->
  ((ps.zip ys).foldl (fun t e=>t.set e.1 e.2) tm).length=tm.length/\ ∀k f,bi (Cl ps ds fr) k=some f-> ∃y,((ps.zip ys).foldl (fun t e=>t.set e.1 e.2) tm)[k]? =some y/\ce ρ G f y
 |[],ds,ys,tm,fr,_,_,h=>⟨J,fun k f e=>h k f (by cases ds<;>exact e)⟩
 |p::ps,[],ys,tm,fr,hd,_,h=>by rw[fh.1 hd];exact⟨J,fun k f e=>h k f e⟩
 |p::ps,d::ds,ys,tm,fr,hd,hp,h=>by
  obtain⟨y,m,rfl,h1,h2⟩:=bA.1 hd;simp only[List.zip_cons_cons,iQ,Cl];have:=N1 (ps:=ps) (ds:=ds) (ys:=m) (tm:=tm.set p y) (fr:=(p, .d d)::fr) h2 (fun q hq=>by rw[bJ];exact hp q (aJ _ hq)) fun k f e=>by
   rw[kH] at e;split at e
   .rename_i hk;subst hk;cases e
    exact⟨y,by rw[qZ];rw[if_pos J,if_pos (hp k aQ)],h1⟩
   .rename_i hk
    obtain⟨u,h3,h4⟩:=h k f e;exact⟨u,by rw[qZ];rw[if_neg (fun e=>hk e.symm)];exact h3,h4⟩
  rw[bJ] at this;exact this
def Sh: ∀(l:List (Nat×Value)) (t:Array Value),(l.foldl (fun t e=>t.setIfInBounds e.1 e.2) t).toList=l.foldl (fun t e=>t.set e.1 e.2) t.toList
 |[],t=>rfl
 |e::l,t=>by simp only[iQ];rw[Sh l];simp
def IY:FX->Bool
 | .ov nm _=>Nat.ble 2000000 nm
 | .rw _=>false
 | .be .. =>false
 | .rs .. =>false
 | .bx .. =>false
 |_=>true
def HO:aF->Bool
 |[]=>true
 |(_,f)::t=>IY f&&HO t
def Tw: ∀{fr:aF},HO fr=true-> ∀k f,bi fr k=some f->IY f=true
 |[],_,k,f,e=>by cases e
 |(j,g)::t,h,k,f,e=>by
  simp only[HO,bT] at h;rw[kH] at e;split at e
  .cases e;exact h.1
  .exact Tw h.2 k f e
def TE(GB:Gh)(C:aH)(n:Nat)(fr:aF)(own:bh)(a:Act)(w:World):Prop:= ∃ρ G ov,bP GB C n (bi fr) (bC own) ρ G ov a w
def atR{P:Program}:av P GB C n Q0 fr own (.ex .normal (.ag (TE GB C n fr own)::K)):=⟨fun ρ G ov a w r=>⟨ρ,G,ov,r⟩⟩
def RQ(GB:Gh)(C:aH)(n:Nat)(p:Prop)(O:bh){σ:Type}(S:σ->bh)(q:σ->Prop):Exit->Act->World->Prop
 | .normal,a,w=>p/\ ∃ρ G ov,bP GB C n (fun _=>none) (bC O) ρ G ov a w
 | .ret,a,w=> ∃s,q s/\ ∃ρ G ov,bP GB C n (fun _=>none) (bC (S s)) ρ G ov a w
 |_,_,_=>False
def rq{P:Program}{p:Prop}{O:bh}{σ:Type}{S:σ->bh}{q:σ->Prop}(hp:p)(hO:yz O own:=by repeat (first|exact trivial|refine And.intro J ?_)):av P GB C n (RQ GB C n p O S q) fr own (.ex .normal []):=
 ⟨fun ρ G ov a w r=>⟨hp,ρ,G,ov,r.mono (fun k x e=>by cases e) (vq hO)⟩⟩
def rqX{P:Program}{p:Prop}{O:bh}{σ:Type}{S:σ->bh}{q:σ->Prop}(s:σ)(hq:q s)(hO:yz (S s) own:=by repeat (first|exact trivial|refine And.intro J ?_)):av P GB C n (RQ GB C n p O S q) fr own (.ex .ret []):=
 ⟨fun ρ G ov a w r=>⟨s,hq,ρ,G,ov,r.mono (fun k x e=>by cases e) (vq hO)⟩⟩
def If{P:Program}{g:Operand}{ps:Array Nat}{assign body:Code}{gf:FuncId}{caps:List Value}{ds:List DV}{E:List (List DV)}{σ:Type}(I:Nat->bh)(p:Nat->Prop)(S:σ->bh)(q:σ->Prop)(fr1:aF)
  (h0:Sf C)(hg:bt (bi fr) g=some (.d (.v (.func (.func gf) ⟨[]⟩ ⟨caps⟩))))(hIt:It GB P gf ds E)(hc:IsLs GB ds caps)
  (hfr:xe fr1 fr)(hfix:HO fr1=true)(hO:yz (I 0) own)(hp:p 0)(hps: ∀e∈E,e.length=ps.size)(hpn:ps.toList.all (fun k=>Nat.blt k n)=true)(hn2:Nat.ble n 2000000=true)
  (round: ∀k e GB',E[k]? =some e->b7 GB GB'->p k-> ∃fr2 own2,(∀C2,av P GB' C2 n (fun _ _ _=>False) (Cl ps.toList e fr1) (I k) (.code assign [.ag (TE GB' C2 n fr2 own2)]))/\ ∀C2,av P GB' C2 n (RQ GB' C2 n (p (k+1)) (I (k+1)) S q) fr2 own2 (.code body []))
  (after: ∀D,C.w0.heap.size<=D->(∀x∈C.ex,x.1≠D)->p E.length->av P GB (C.mk3 D) n Q0 fr1 (I E.length) (.ex .normal K))
  (early: ∀D s,C.w0.heap.size<=D->(∀x∈C.ex,x.1≠D)->q s->av P GB (C.mk3 D) n Q0 fr1 (S s) (.ex .ret K)):
  av P GB C n Q0 fr own (.code (.rangeFunc g ps assign body) K):=by
 refine⟨fun ρ0 G0 ov0 a w r=>?_⟩;rw[h0.rd];refine wpIn_rangeFunc fun fn _=>?_;obtain⟨y,hy,hy'⟩:=r.ev hg;rw[(aP (G:=G0)).1 hy'] at hy;have hev:=bF (c7 a) hy
 let D:=w.heap.size
 let l:=w.heap.size+1
 let rec_:Loop:={state:= .ready,pending:=none,fn,tmps:=a.tmps,params:=ps,assign,body,defers:=D}
 let w2:=(w.alloc (.deferred (some []))).alloc (.loop rec_)
 let mk:Deferred:={target:= .collected D,args:= #[]}
 let fx1:Nat->Option Addr:=fun nm=>(ρ0 nm).a
 let C1:Loop->aH:=fun rc=>{C with ex:=(l, .loop rc)::(D, .deferred (some []))::C.ex,mks:=[mk],fx:=fx1}
 let a0:Act:={a with defers:=[mk]++a.defers}
 have hszD:C.w0.heap.size<=D:=r.h.size;have hlt: ∀x∈C.ex,x.1<D:=fun x hx=>i6 (r.h.ext x hx).2;have hszl:C.w0.heap.size<=l:=Nat.le_succ_of_le hszD;have hnl: ∀x∈((D,Obj.deferred (some []))::C.ex:List (Nat×Obj)),x.1≠l:=fun x hx=>by
  rcases aW.1 hx with rfl|hx
  .show D≠D+1;omega
  .have:=hlt x hx;show x.1≠D+1;omega
 have ncl: ∀rc:Loop,Kn (.loop rc):=fun rc _ _ _ h=>by cases h
 -- the slots of the loop, at any time
 have stat: ∀(ρ':NE) (G':Gh),b7 G0 G'->(∀nm p,n<=nm->2000000<=nm->fx1 nm=some p->(ρ' nm).a=some p)-> ∀k f,bi fr1 k=some f-> ∃y,a.tmps[k]? =some y/\ce ρ' G' f y:=by
  intro ρ' G' hg' hf k f e;obtain⟨y,h1,h2⟩:=r.fx k f (zi hfr k f e);refine⟨y,h1,?_⟩;have hx:=Tw hfix k f e
  cases f with
  |ov nm off=>
   obtain⟨b,h3,h4⟩:=h2;have h5:2000000<=nm:=by simpa[IY] using hx
   have h6:n<=2000000:=by simpa using hn2
   exact⟨b,hf nm _ we h5 h3,h4⟩
  |rw _=>cases hx
  |be _ _ _ _=>cases hx
  |rs _ _ _ _=>cases hx
  |bx _ _ _ _=>cases hx
  |ri _ _=>exact h2
  |_=>exact(h2.up hg').ren fun _ h=>by cases h
 let Jv:Nat->Gh->World->Prop:=fun k G' w'=>p k/\ ∃ρ ov,bP G0 (C1 rec_) n (bi fr1) (bC (I k)) ρ G' ov a0 w'
 let rcx:Loop:={rec_ with state:= .done,pending:=some .ret}
 let Jx:Gh->World->Prop:=fun G' w'=> ∃s,q s/\ ∃ρ ov,bP G0 (C1 rcx) n (bi fr1) (bC (S s)) ρ G' ov a0 w'
 have hsz0:a0.tmps.size=n:=r.sz;have hdf0:a0.defers=[mk]:=by show [mk]++a.defers=_;rw[r.df,h0.mks];rfl
 have H:Cy G0 P l Jv Jx E:=by
  refine⟨fun k=>⟨fun G' w' ⟨_,ρ,ov,h⟩=>h.h.sub,fun G' w' G1 w1 ⟨h1,ρ,ov,h⟩ k=>⟨h1,ρ,ov,h.later k⟩⟩,⟨fun G' w' ⟨_,_,ρ,ov,h⟩=>h.h.sub,fun G' w' G1 w1 ⟨s,h1,ρ,ov,h⟩ k=>⟨s,h1,ρ,ov,h.later k⟩⟩,?_⟩;intro k e G' w' ys hE hgg ⟨hpk,ρ,ov,r1⟩ hys;have hrec:w'.heap[l]? =some (.loop rec_):=(r1.h.ext _ aQ).2;have hel:=hps e (aK hE);obtain⟨fr2,own2,hA,hB⟩:=round k e G' hE (r.gb.trans hgg) hpk;refine⟨_,_,_,_,run_yield hrec (by show ys.length=ps.size;rw[hys.len,hel]),roundIn_of_wpIn trivial ?_⟩
  let C2:aH:={C1 rec_ with mks:=[],rd:=some l}
  let tm:Array Value:=(ps.zip (⟨ys⟩:Array Value)).foldl (fun tmps (t,a)=>tmps.setIfInBounds t a) a.tmps
  have htm:tm.toList=(ps.toList.zip ys).foldl (fun t e=>t.set e.1 e.2) a.tmps.toList:=by
   simp only[tm];rw[<-rR,Array.toList_zip];exact Sh _ _
  have hfx0:=r1.fx;obtain⟨q1,q2⟩:=N1 (ρ:=ρ) (ps:=ps.toList) (tm:=a.tmps.toList) (fr:=fr1) hys (fun k hk=>by have:=dV.1 hpn k hk;rw[lW,r.sz];simpa[lV] using this) fun k f e=>by
   obtain⟨y,h1,h2⟩:=hfx0 k f e;exact⟨y,by simpa using h1,h2⟩
  have hR0:bP G' C2 n (bi (Cl ps.toList e fr1)) (bC (I k)) ρ G' ov {tmps:=tm,defers:=[]} w':=by
   refine⟨b7.refl _,r1.h.ctx J J J (fun _ h=>h),?_,J,fun k f e=>?_,r1.bx,r1.dj,r1.fxd⟩
   .show tm.size=n
    rw[<-lW,htm,q1,lW,r.sz]
   .obtain⟨y,h1,h2⟩:=q2 k f e
    exact⟨y,by rw[<-htm] at h1;simpa using h1,h2⟩
  refine wpIn_mono ((hA C2).run ρ G' ov _ w' hR0) fun ex a1 w1 hex=>?_
  cases ex with
  |normal=>
   obtain⟨ρ2,G2,ov2,r2⟩:=hex;have hrec1:w1.heap[l]? =some (.loop rec_):=(r2.h.ext _ aQ).2;refine⟨_,run_beginRound hrec1 J,?_⟩
   let busy:Loop:={rec_ with state:= .busy}
   let C3:aH:={C1 busy with mks:=[],rd:=some l}
   have h3:bI C3 ov2 G2 (w1.putObj l (.loop busy)):=r2.h.putx aQ hszl (ncl _) J J J fun x hx=>by
    rcases aW.1 hx with rfl|hx
    .exact .inl J
    .exact .inr ⟨aJ _ hx,hnl x hx⟩
   refine wpIn_mono ((hB C3).run ρ2 G2 ov2 a1 (w1.putObj l (.loop busy)) ⟨r2.gb,h3,r2.sz,r2.df,r2.fx,r2.bx,r2.dj,r2.fxd⟩) fun ex a2 w3 hex=>?_
   cases ex with
   |normal=>
    obtain⟨hp1,ρ3,G3,ov3,r3⟩:=hex;have hrec3:w3.heap[l]? =some (.loop busy):=(r3.h.ext _ aQ).2;refine⟨_,_,run_endRound none hrec3,G3,r3.gb, .inl ⟨J,hp1,ρ3,ov3,hgg.trans r3.gb,?_,hsz0,hdf0,stat ρ3 G3 (hgg.trans r3.gb) r3.fxd,r3.bx,r3.dj,r3.fxd⟩⟩;exact r3.h.putx aQ hszl (ncl _) J J J fun x hx=>by
     rcases aW.1 hx with rfl|hx
     .exact .inl J
     .exact .inr ⟨aJ _ hx,hnl x hx⟩
   |ret=>
    obtain⟨s,hq,ρ3,G3,ov3,r3⟩:=hex;have hrec3:w3.heap[l]? =some (.loop busy):=(r3.h.ext _ aQ).2;refine⟨_,_,run_endRound (some .ret) hrec3,G3,r3.gb, .inr ⟨J,s,hq,ρ3,ov3,hgg.trans r3.gb,?_,hsz0,hdf0,stat ρ3 G3 (hgg.trans r3.gb) r3.fxd,r3.bx,r3.dj,r3.fxd⟩⟩;exact r3.h.putx aQ hszl (ncl _) J J J fun x hx=>by
     rcases aW.1 hx with rfl|hx
     .exact .inl J
     .exact .inr ⟨aJ _ hx,hnl x hx⟩
   |exit id=>exact hex.elim
   |goto t=>exact hex.elim
   |panic ch=>exact hex.elim
   |outgrown=>exact hex.elim
  |exit id=>exact hex.elim
  |goto t=>exact hex.elim
  |ret=>exact hex.elim
  |panic ch=>exact hex.elim
  |outgrown=>exact hex.elim
 have hC1:bI (C1 rec_) ov0 G0 w2:=by
  have h1:bI {C with ex:=(D, .deferred (some []))::C.ex} ov0 G0 (w.alloc (.deferred (some []))):=r.h.addx (fun _ _ _ h=>by cases h) J J J fun x hx=>aW.1 hx;refine h1.addx (ncl rec_) J J J fun x hx=>?_;rcases aW.1 hx with rfl|hx
  .exact .inl (by show((l,Obj.loop rec_):Nat×Obj)=_;rw[show(w.alloc (.deferred (some []))).heap.size=w.heap.size+1 by simp])
  .exact .inr hx
 have hJ0:Jv 0 G0 w2:=⟨hp,ρ0,ov0,b7.refl _,hC1,hsz0,hdf0,stat ρ0 G0 (b7.refl _) (fun _ _ _ _ h=>h),fun nm B e=>r.bx nm B (vq hO nm B e),fun nm nm' B B' e e'=>r.dj nm nm' B B' (vq hO nm B e) (vq hO nm' B' e'),fun _ _ _ _ h=>h⟩;refine⟨l,[mk],w2,{target:= .fn (.func gf) ⟨caps⟩,args:= #[.func (.yield l) #[] #[]]},w2,gf, #[.func (.yield l) #[] #[]]++⟨caps⟩,w2,run_enterLoop_outer fn a.tmps ps assign body,?_,fun _ _=>trivial,?_,fun h=>okA,?_⟩
 .have he:(⟨[]⟩:Array Value)++Array.map a.eval #[.const (.func (.yield l) #[] #[])]= #[.func (.yield l) #[] #[]]:=by
   apply Array.ext';rw[Array.toList_append,qJ];rfl
  simp only[resolve,hev,Deferred.ofValue];rw[he];rfl
 .simp only[invoke]
  exact Ku hIt.able _ _
 refine CallsIn.mono (show CallsIn (FW none) 0 P gf _ w2 _ from by
  have:=hIt.run l Jv Jx G0 r.gb H w2 caps hJ0 (hc.up r.gb);rw[show(#[Value.func (.yield l) #[] #[]]++(⟨caps⟩:Array Value))=⟨.func (.yield l) #[] #[]::caps⟩ by simp];exact this) fun e w3 he=>?_
 obtain⟨G',hgg,⟨v,rfl⟩,hj⟩:=he;have fin: ∀(rc:Loop) (O:bh) (ρ:NE) (ov:List aA),bP G0 (C1 rc) n (bi fr1) (bC O) ρ G' ov a0 w3->bP GB (C.mk3 D) n (bi fr1) (bC O) ρ G' ov a0 (w3.putObj l (.loop {rc with state:= .exhausted})):=fun rc O ρ ov r3=>
  ⟨r.gb.trans r3.gb,r3.h.putx aQ hszl (ncl _) J J J fun x hx=> .inr ⟨aJ _ hx,hnl x hx⟩,r3.sz,r3.df,r3.fx,r3.bx,r3.dj,fun nm p _ _ e=>by rw[show(C.mk3 D).fx=fun _=>none from h0.fx] at e;cases e⟩
 have hxD: ∀x∈C.ex,x.1≠D:=fun x hx e=>by have:=hlt x hx;omega
 rcases hj with⟨hpn,ρ,ov,r3⟩|⟨s,hq,ρ,ov,r3⟩
 .have hrec3:w3.heap[l]? =some (.loop rec_):=(r3.h.ext _ aQ).2
  have:=(after D hszD hxD hpn).run ρ G' ov a0 _ (fin rec_ _ ρ ov r3);rw[show(C.mk3 D).rd=none from h0.rd] at this;exact⟨_,_,run_endLoop hrec3 (by simp[rec_]),this⟩
 .have hrec3:w3.heap[l]? =some (.loop rcx):=(r3.h.ext _ aQ).2
  have:=(early D s hszD hxD hq).run ρ G' ov a0 _ (fin rcx _ ρ ov r3);rw[show(C.mk3 D).rd=none from h0.rd] at this;exact⟨_,_,run_endLoop hrec3 (by simp[rcx]),wpIn_ret this⟩
end
section
variable {GB:Gh} {C:aH} {n:Nat} {Q0:Exit->Act->World->Prop} {fr fr':aF} {own own':bh} {cf cf':Cf} {vc:List Prop} {ops:Array Oper} {o:Oper} {r:List Oper} {K:List Kt}
def M9(GB:Gh)(P:Program)(f:FuncId)(ds:List DV)(gf:FuncId)(dp:DV):Prop:=
 ∀G vs,b7 GB G->IsLs G ds vs->Fn P f vs G fun v G'=> ∃pv,v= .func (.func gf) ⟨[]⟩ ⟨[pv]⟩/\Is G' dp pv
def FQ(gf:FuncId)(dp:DV)(v:Value)(G':Gh):Prop:= ∃pv,v= .func (.func gf) ⟨[]⟩ ⟨[pv]⟩/\Is G' dp pv
def aMX[fu:Fu]{f gf:FuncId}{fb:Func}{c:Code}{m:Nat}{ds:List DV}{dp:DV}(hf:prog.funcs[f]? =some fb)(hb:fb.body=some c)(hn:(fb.name== "runtime.NumGoroutine")=false)(hm:fb.ntmps=m)(hlen:Nat.ble ds.length m=true)
  (hgo:go tt m fu.n [] (sD 0 ds) [] (.code c [])=⟨vc,fr,own,cf⟩)(k: ∀C:aH,av prog GB C m (fC C prog fb (mD C (FQ gf dp))) fr own cf)
  (hv:autoParam (ak vc) cL._auto_1):M9 GB prog f ds gf dp:=by
 intro G vs hg hvs;refine Fn.introR hf hb hn hm okE fun C _ _ hrd hfx=>?_;intro a w rl;refine wh hrd ?_;have h:=gn (GB:=GB) (C:=C) (Q0:=fC C prog fb (mD C (FQ gf dp))) hgo hv (k C);exact h.run (fun _=>⟨none,0,0⟩) G [] a w ⟨hg,rl.h,rl.sz,rl.df,(fun k f e=>A7 hvs rl.fr k f e),(fun nm B e=>by cases e),(fun nm nm' B B' e=>by cases e),fun nm p _ _ e=>by rw[hfx] at e;cases e⟩
def Wy{P:Program}{fb:Func}{gf:FuncId}{dp:DV}{pv:Value}{t:Nat}(hr:fb.results.toList=[.tmp t])(hl:bi fr t=some (.d (.v (.func (.func gf) ⟨[]⟩ ⟨[pv]⟩))))(hp:Is GB dp pv):av P GB C n (fC C P fb (mD C (FQ gf dp))) fr own (.ex .ret []):=by
 refine⟨fun ρ G ov a w r=>?_⟩;obtain⟨y,hy,hy'⟩:=r.ev (x:= .tmp t) hl;rw[(aP (G:=G)).1 hy'] at hy;exact zD (C:=C) (n:=n) (fr:=cG a) (own:=ov) (G:=G) (K:=FQ gf dp) oke ⟨pv,J,hp.up r.gb⟩ a w ⟨r.h,r.sz,c7 a,r.df⟩
def Qi(fr:aF)(cf:Cf):Option (FuncId×Value):=match di fr cf with
 |some ⟨_, .makeFunc (.func f) ⟨[]⟩ ⟨[x]⟩,_,_,_,_⟩=>match bt (ck fr cf) x with
  |some (.d (.v pv))=>some (f,pv)
  |_=>none
 |_=>none
def mkG[fu:Fu]{f:FuncId}{pv:Value}(h:Qi fr cf=some (f,pv))(hgo:c6 tt n fu.n fr own cf (.d (.v (.func (.func f) ⟨[]⟩ ⟨[pv]⟩))) [] []=⟨vc,fr',own',cf'⟩)(k:av prog GB C n Q0 fr' own' cf')
  (hv:autoParam (ak vc) cL._auto_1):av prog GB C n Q0 fr own cf:=by
 unfold Qi at h;split at h<;>try (cases h;done)
 rename_i hh;split at h<;>cases h;rename_i hx;exact us hh (.x1 hx fun ρ G ov a w y _ r h1 h2=>by
  rw[(aP (G:=G)).1 h2] at h1;exact⟨_,(aP (G:=G)).2 J,L1 (l1:=[]) (l2:=[pv]) J (by simp[h1])⟩) hgo hv k
def Lq[fu:Fu]{f gf:FuncId}{ds:List DV}{dp:DV}{d:Nat}{fr':Value->aF}{own':Value->bh}{cf':Value->Cf}{vc:Value->List Prop}(ha:Bz fr (.ops ops (o::r) K)=some (f,ds))(hdst:o.dst=some d)(hd:co n (some d)=true)(hF:M9 GB prog f ds gf dp)
  (hgo: ∀pv,go tt n fu.n [] ((d, .d (.v (.func (.func gf) ⟨[]⟩ ⟨[pv]⟩)))::fr) own (.ops ops r K)=⟨vc pv,fr' pv,own' pv,cf' pv⟩)
  (k: ∀GB' pv,b7 GB GB'->Is GB' dp pv->av prog GB' C n Q0 (fr' pv) (own' pv) (cf' pv))
  (hv: ∀pv,ak (vc pv):=by intros;first|exact trivial|(simp only[ak];kernel_rfl)|(simp only[ak];omega)):av prog GB C n Q0 fr own (.ops ops (o::r) K):=by
 unfold Bz at ha;split at ha<;>try (cases ha;done)
 rename_i fo args tys ty pos af gd hh;obtain⟨ops0,h1,h2⟩:=K5 hh
 cases h1
 cases hdst
 obtain⟨c1,c2⟩:=Ge ha;refine⟨fun ρ G ov a w rl=>?_⟩;obtain⟨y,hy,hy'⟩:=rl.ev c1;rw[(aP (G:=G)).1 hy'] at hy;obtain⟨vs,h3,h4⟩:=rl.evDs c2;simp only[wpListIn];rw[if_pos (Hy h2 ρ G ov a w rl)];refine My (K':=fun a' w'=>a'.defers=C.mks/\wpListIn (FW C.rd) 0 prog ops (cQ C.rd prog Q0 K) r a' w') (fun Q=>?_) (fun a' w' q=>⟨q.1.trans rl.df.symm,q.2⟩);refine zC hy h3 (hF G vs rl.gb h4) hd (fun v G' hG hK a' w' rel=>?_) a w Q ⟨rl.h,rl.sz,c7 a,rl.df⟩;obtain⟨pv,rfl,hpv⟩:=hK;refine⟨rel.df,?_⟩;have:=gn (GB:=G') (C:=C) (Q0:=Q0) (hgo pv) (hv pv) (k G' pv (rl.gb.trans hG.le) hpv);refine this.run ρ G' ov a' w' ⟨b7.refl _,rel.h,rel.sz,rel.df,fun j g e=>?_,fun nm B e=>by obtain⟨os,h5,h6⟩:=rl.bx nm B e;exact⟨os,h5.up hG.le,h6⟩,rl.dj,rl.fxd⟩;have e':eD (bi fr) (some d) (.d (.v (.func (.func gf) ⟨[]⟩ ⟨[pv]⟩))) j=some g:=by
  rw[kH] at e;simp only[eD];split at e
  .rename_i hk;rw[if_pos hk];exact e
  .rename_i hk;rw[if_neg hk];exact e
 exact(kj rel).fx (fun k g _ e=>by obtain⟨u,h5,h6⟩:=rl.fx k g e;exact⟨u,h5,h6.up hG.le⟩) (show ce ρ G' (.d (.v (.func (.func gf) ⟨[]⟩ ⟨[pv]⟩))) _ from(aP (G:=G')).2 rfl) j g e'
end
section
variable {GB:Gh} {C:aH} {n:Nat} {Q0:Exit->Act->World->Prop} {fr fr':aF} {own own':bh} {cf cf':Cf} {vc:List Prop} {ops:Array Oper} {o:Oper} {r:List Oper} {K:List Kt}
def Qt{p q:Nat->Option (Nat×Nat)}(h: ∀i x,p i=some x->q i=some x): ∀(ps:List (Nat×Value)) (cs out:Array Value),Instr.fill p cs ps=some out->Instr.fill q cs ps=some out
 |[],cs,out,e=>e
 |(i,v)::ps,cs,out,e=>by
  simp only[Instr.fill] at e⊢;split at e
  .cases e
  .rename_i off size hp
   rw[h i _ hp];dsimp only;split at e
   .cases e
   .rename_i hc
    rw[if_neg hc];exact Qt h ps _ _ e
def avc{P:Program}{fr:Fr}{own:List aA}{G:Gh}{t e s len:Nat}{j:TypeInfo}{parts:Array (Nat×Operand)}{z:Value}{out:List Value}{dst:Option Nat}{ty':TypeId}{pos:String}{af:Array Edge}{gd:Option (Nat×Bool)}[hz:gA P t z](hu:P.underlying t=some (.array len e))(hj:P.info? e=some j)(hs:j.size=s)
  (hb:xh fr ((List.range len).map fun i=>(i*s,s)) (aO z) parts.toList=some out):Yd P C fr own G ⟨dst, .build t parts,ty',pos,af,gd⟩ (.agg ⟨out⟩):=by
 intro a w hf hh;simp only[execOp];have:(Instr.build t (parts.map fun(i,x)=>(i,a.eval x))).run P w= .ok (.agg ⟨out⟩) w:=by
  unfold Instr.build;rw[bj (hz.zero w),pP];rw[bj (rC hu w)];simp only[];rw[bj (w8 hj w),hs];have:=Qt (q:=fun i=>some (i*s,s)) (fun i x hx=>by
   have hx':((List.range len).map fun i=>(i*s,s))[i]? =some x:=by simpa using hx
   rw[cJ] at hx'
   cases hr:(List.range len)[i]? with
   |none=>rw[hr] at hx';cases hx'
   |some y=>
    rw[hr] at hx';cases hx';obtain⟨h1,h2⟩:=aR.1 hr;rw[List.getElem_range] at h2;rw[h2]) _ _ _ (J' hf ((List.range len).map fun i=>(i*s,s)) parts.toList _ _ hb)
  simp only[qJ,this];rfl
 exact dh this
def Fx:Nat->Nat->Nat->List (Nat×Nat×Nat)
 |_,0,_=>[]
 |i,k+1,s=>(i*s,0,s)::Fx (i+1) k s
def Pd: ∀(i k s:Nat),(Fx i k s).map (fun x=>(x.1,x.2.2))=(List.range' i k).map fun j=>(j*s,s)
 |_,0,_=>rfl
 |i,k+1,s=>by simp only[Fx,bY,List.range',Pd (i+1) k s]
def Nc(fr:aF)(cf:Cf)(len s:Nat):Option (TypeId×FX):=match di fr cf with
 |some ⟨_, .build t parts,_,_,_,_⟩=>match eo tt t with
  |some ⟨.o,_,some zx,_⟩=>match ur (ck fr cf) (Fx 0 len s) zx parts.toList with
   |some cs=>match Bg cs with
    |some f=>some (t,f)
    |none=>none
   |none=>none
  |_=>none
 |_=>none
def bar[fu:Fu]{t e len s:Nat}{f:FX}(h:Nc fr cf len s=some (t,f))(hu:prog.underlying t=some (.array len e))(hs:(prog.info? e).map (·.size)=some s)
  (hgo:c6 tt n fu.n fr own cf f [] []=⟨vc,fr',own',cf'⟩)(k:av prog GB C n Q0 fr' own' cf')
  (hv:autoParam (ak vc) cL._auto_1):av prog GB C n Q0 fr own cf:=by
 unfold Nc at h;split at h<;>try (cases h;done)
 rename_i hh;split at h<;>try (cases h;done)
 rename_i hT;split at h<;>try (cases h;done)
 rename_i hb;split at h<;>cases h;rename_i hf;refine us hh (.yd fun ρ G ov a w r=>?_) hgo hv k
 cases hj:prog.info? e with
 |none=>rw[hj] at hs;cases hs
 |some j=>
 rw[hj] at hs;obtain⟨v,hv,hv'⟩:=Di (fi _ _ hT) rfl;obtain⟨l,h1,h2⟩:=HB r _ _ _ _ hb (hv' ρ G);rw[Pd,<-List.range_eq_range'] at h1;exact⟨.agg ⟨l⟩,Kz h2 hf,avc hu hj (Option.some.inj hs) h1⟩
end
end Go.Sx
end
