import Derived.Test.YtmdgdhokaffbkaaGreatDoorMu16
import Derived.RangeFuncSeq
set_option linter.all false
set_option maxHeartbeats 1000000
set_option maxRecDepth 100000
section
namespace Go.Sx
open Go Go.Proofs Tryz
variable {GB G G1:Gh}{s:bt}{c:ar}{ds:List DV}{i n x y k m d D len:Nat}{w w1:World}{u:ah}{b:Bool}{l r pre:List Oper}{t:Tr}{e:Exit}{p:Prop}{P:Program}{Q Q0:Exit->Act->World->Prop}{ops:Array Oper}{o:Oper}{a:Act}{K:List Kt}{C C':aE}{fr fr0 fr' fr1 fr2:aC}{own0 own' own1 own2 O:aG}{cf' cf cf1 cf2:Cf}{vc vc1 vc2:List Prop}{f gf:FuncId}{fb:Func}{E:List (List DV)}{ov:List av}{Jv:Nat->Gh->World->Prop}{Jx:Gh->World->Prop}{fo g:Operand}{vs caps out:List Value}{dst:Option Nat}{ty':TypeId}{pos:String}{af:Array Edge}{X σ:Type}{rv dp:DV}{pv z:Value}
def Fc: ∀(c:ar) (A B:bt->Rat),(∀u∈c,0<=A u/\(0<=B u\/0<A u))-> ∃e:Rat,0<e/\ ∀u∈c,0<=A u+e*B u
 |[],_,_,_=>⟨1,by decide,fun u hu=>by cases hu⟩
 |s::t,A,B,h=>by
  obtain⟨e,e0,he⟩:=Fc t A B fun u hu=>h u (aJ _ hu);obtain⟨h1,h2⟩:=h s aQ;have hold: ∀q,0<=q->q<=e-> ∀u∈t,0<=A u+q*B u:=fun q q0 q1 u hu=>FF (h u (aJ _ hu)).1 (he u hu) q0 q1;by_cases hb:0<=B s
  .refine⟨e,e0,fun u hu=>?_⟩
   rcases aK.1 hu with rfl|hu
   .have:=cC (cM e0) hb;grind
   .exact he u hu
  .have ha:=h2.resolve_left hb
   have hq:0<A s/ -(B s):=(fC (k:= -(B s)) (by grind)).1 (by rw[show A s/ -(B s)* -(B s)=A s by grind];exact ha);have hm:A s/ -(B s)* -(B s)=A s:=by grind
   generalize A s/ -(B s)=q at*;by_cases k:q<=e
   .refine⟨q,hq,fun u hu=>?_⟩
    rcases aK.1 hu with rfl|hu
    .grind
    .exact hold q (cM hq) k u hu
   .refine⟨e,e0,fun u hu=>?_⟩
    rcases aK.1 hu with rfl|hu
    .have:=cC (show 0<=q-e by grind) (show 0<= -(B u) by grind)
     grind
    .exact he u hu
def Ft(l m:aa)(t e:Rat):m.value (l.at (t+e))=m.value (l.at t)+e*m.nor.dot l.dir:=by
 rw[Cu,jf]
def FI(h:s.v.Pos)(nh:s.v.nh=false):s.v.has s.v.hi:=by
 unfold ao.Pos at h;refine⟨?_, .inr iV⟩;rcases h with h|h|h
 .exact .inl h
 .rw[nh] at h;cases h
 .exact .inr (cM h)
def QL(h:s.v.Pos)(nl:s.v.nl=false):s.v.has s.v.lo:=by
 unfold ao.Pos at h;refine⟨.inr iV,?_⟩;rcases h with h|h|h
 .rw[nl] at h;cases h
 .exact .inl h
 .exact .inr (cM h)
def aBE(hc:bu c)(hs:s∈c)(nh:s.v.nh=false): ∃u∈c,u.l.value (s.l.at s.v.hi)=0/\u.l.nor.dot s.l.dir<0:=by
 obtain⟨p1,p2⟩:=hc.edge s hs;have hin:=(p2 _).1 (FI p1 nh);by_cases q: ∃u∈c,u.l.value (s.l.at s.v.hi)=0/\u.l.nor.dot s.l.dir<0
 .exact q
 .exfalso
  obtain⟨e,e0,he⟩:=Fc c (fun u=>u.l.value (s.l.at s.v.hi)) (fun u=>u.l.nor.dot s.l.dir) fun u hu=>by
   have h1:=hin u hu;refine⟨h1,?_⟩;by_cases k:0<=u.l.nor.dot s.l.dir
   .exact .inl k
   .right
    by_cases z:u.l.value (s.l.at s.v.hi)=0
    .exact absurd ⟨u,hu,z,by grind⟩ q
    .grind
  have hh:=(p2 (s.v.hi+e)).2 fun u hu=>by rw[Ft];exact he u hu
  have:=hh.2;rw[nh] at this;rcases this with z|z
  .cases z
  .grind
def TE(hc:bu c)(hs:s∈c)(nl:s.v.nl=false): ∃u∈c,u.l.value (s.l.at s.v.lo)=0/\0<u.l.nor.dot s.l.dir:=by
 obtain⟨p1,p2⟩:=hc.edge s hs;have hin:=(p2 _).1 (QL p1 nl);by_cases q: ∃u∈c,u.l.value (s.l.at s.v.lo)=0/\0<u.l.nor.dot s.l.dir
 .exact q
 .exfalso
  obtain⟨e,e0,he⟩:=Fc c (fun u=>u.l.value (s.l.at s.v.lo)) (fun u=> -(u.l.nor.dot s.l.dir)) fun u hu=>by
   have h1:=hin u hu;refine⟨h1,?_⟩;by_cases k:0<= -(u.l.nor.dot s.l.dir)
   .exact .inl k
   .right
    by_cases z:u.l.value (s.l.at s.v.lo)=0
    .exact absurd ⟨u,hu,z,by grind⟩ q
    .grind
  have hh:=(p2 (s.v.lo+ -e)).2 fun u hu=>by rw[Ft];have:=he u hu;grind
  have:=hh.1;rw[nl] at this;rcases this with z|z
  .cases z
  .grind
def P4{ds:List ah}(h:ds.Pairwise d6){s w:ah}(hs:ds[i]? =some s)(hw:ds[(i+1)%ds.length]? =some w):ww ds s w:=by
 obtain⟨hi,rfl⟩:=aT.1 hs;obtain⟨hj,rfl⟩:=aT.1 hw;have hp:=pL.1 h;by_cases e:i+1<ds.length
 .have em:(i+1)%ds.length=i+1:=jN e
  left;simp only[em];refine⟨hp i (i+1) hi e (by omega),fun d hd=>?_⟩;obtain⟨j,hj,rfl⟩:=nM.1 hd;rintro ⟨a,b⟩;rcases rW j i with k|k|k
  .exact BA a (hp j i hj hi k)
  .subst k;exact vN _ a
  .by_cases z:j=i+1
   .subst z;exact vN _ b
   .exact BA b (hp (i+1) j e hj (by omega))
 .have ei:i+1=ds.length:=by omega
  have em:(i+1)%ds.length=0:=by rw[ei,Nat.mod_self]
  right;simp only[em];refine⟨fun d hd a=>?_,fun d hd b=>?_⟩
  .obtain⟨j,hj,rfl⟩:=nM.1 hd
   by_cases k:j=i
   .subst k;exact vN _ a
   .exact BA a (hp j i hj hi (by omega))
  .obtain⟨j,hj,rfl⟩:=nM.1 hd
   by_cases k:j=0
   .subst k;exact vN _ b
   .exact BA b (hp 0 j (by omega) hj (by omega))
def SW{s w:ah}(hs:s.half≠0)(hw:w.half≠0)(hu:u.half≠0)(h1:0<s.cross u)(h2:0<u.cross w)(h3:0<s.cross w)(e:s.half=w.half):u.half=s.half:=by
 rcases od hs with k|k
 .rw[k] at e⊢
  have a:=ow.1 k;have b:=ow.1 e.symm;rw[ow];unfold ah.cross at*
  -- u is BZ s and w
  have i1:(s.x*w.y-s.y*w.x)*u.y=(u.x*w.y-u.y*w.x)*s.y+(s.x*u.y-s.y*u.x)*w.y:=by grind
  have i2:(s.x*w.y-s.y*w.x)*u.x=(u.x*w.y-u.y*w.x)*s.x+(s.x*u.y-s.y*u.x)*w.x:=by grind
  have y0:0<=s.y:=by grind
  have y1:0<=w.y:=by grind
  have m1:=cC (cM h2) y0;have m2:=cC (cM h1) y1;have uy:0<=u.y:=(gE h3).1 (by grind);by_cases z:0<u.y
  .exact .inl z
  .right
   have z0:u.y=0:=by grind
   have i3:(u.x*w.y-u.y*w.x)*s.y+(s.x*u.y-s.y*u.x)*w.y=0:=by rw[<-i1,z0];grind
   have A0:(u.x*w.y-u.y*w.x)*s.y=0:=by generalize (u.x*w.y-u.y*w.x)*s.y=A at*;generalize (s.x*u.y-s.y*u.x)*w.y=B at*;grind
   have B0:(s.x*u.y-s.y*u.x)*w.y=0:=by grind
   have n1:s.y=0:=by
    rcases fZ.1 A0 with q|q
    .grind
    .exact q
   have n2:w.y=0:=by
    rcases fZ.1 B0 with q|q
    .grind
    .exact q
   rw[n1,n2] at h3;grind
 .rw[k] at e⊢
  have a:=ti.1 k;have b:=ti.1 e.symm;rw[ti];unfold ah.cross at*;have i1:(s.x*w.y-s.y*w.x)*u.y=(u.x*w.y-u.y*w.x)*s.y+(s.x*u.y-s.y*u.x)*w.y:=by grind
  have y0:0<= -s.y:=by grind
  have y1:0<= -w.y:=by grind
  have m1:=cC (cM h2) y0;have m2:=cC (cM h1) y1;have uy:0<= -u.y:=(gE h3).1 (by grind);by_cases z:u.y<0
  .exact .inl z
  .right
   have z0:u.y=0:=by grind
   have i3:(u.x*w.y-u.y*w.x)*s.y+(s.x*u.y-s.y*u.x)*w.y=0:=by rw[<-i1,z0];grind
   have m3:(u.x*w.y-u.y*w.x)* -s.y= -((u.x*w.y-u.y*w.x)*s.y):=by grind
   have m4:(s.x*u.y-s.y*u.x)* -w.y= -((s.x*u.y-s.y*u.x)*w.y):=by grind
   rw[m3] at m1;rw[m4] at m2;have A0:(u.x*w.y-u.y*w.x)*s.y=0:=by generalize (u.x*w.y-u.y*w.x)*s.y=A at*;generalize (s.x*u.y-s.y*u.x)*w.y=B at*;grind
   have B0:(s.x*u.y-s.y*u.x)*w.y=0:=by grind
   have n1:s.y=0:=by
    rcases fZ.1 A0 with q|q
    .grind
    .exact q
   have n2:w.y=0:=by
    rcases fZ.1 B0 with q|q
    .grind
    .exact q
   rw[n1,n2] at h3;grind
def VU{ds:List ah}(nz: ∀d∈ds,d.half≠0){s w:ah}(hs:s∈ds)(hu:u∈ds)(hw:w∈ds)(hn:ww ds s w)(h1:0<s.cross u)(h2:0<u.cross w)(h3:0<s.cross w):False:=by
 have zs:=od (nz s hs);have zu:=od (nz u hu);have zw:=od (nz w hw);rcases hn with⟨b,no⟩|⟨n1,n2⟩
 .by_cases e:s.half=w.half
  .have e2:=SW (nz s hs) (nz w hw) (nz u hu) h1 h2 h3 e
   exact no u hu ⟨.inr ⟨e2.symm,h1⟩, .inr ⟨by omega,h2⟩⟩
  .have e1:s.half=1/\w.half=2:=by
    rcases b with b|⟨b,_⟩
    .omega
    .exact absurd b e
   rcases zu with k|k
   .exact no u hu ⟨.inr ⟨by omega,h1⟩, .inl (by omega)⟩
   .exact no u hu ⟨.inl (by omega), .inr ⟨by omega,h2⟩⟩
 .have a:=n1 u hu
  have b:=n2 u hu;have a1: ¬s.half<u.half:=fun k=>a (.inl k);have a2:s.half≠u.half:=fun k=>a (.inr ⟨k,h1⟩);have b1: ¬u.half<w.half:=fun k=>b (.inl k);have b2:u.half≠w.half:=fun k=>b (.inr ⟨k,h2⟩);omega
def QQ{w n:ah}(hu:u.half≠0)(hw:w.half≠0)(hn:n.half≠0)(e1:w.half=u.half)(e2:u.half=n.half)(h1:0<u.cross n)(h2: ¬0<u.cross w):0<w.cross n:=by
 by_cases k:0<w.cross u
 .have b1:d6 w u:= .inr ⟨e1,k⟩
  have b2:d6 u n:= .inr ⟨e2,h1⟩;rcases Bu b1 b2 with q|⟨_,q⟩
  .omega
  .exact q
 .have hz:w.cross u=0:=by rw[vQ] at k⊢;grind
  by_cases q:0<w.cross n
  .exact q
  .exfalso
   have b2:d6 u n:= .inr ⟨e2,h1⟩;by_cases q2:0<n.cross w
   .have b3:d6 n w:= .inr ⟨by omega,q2⟩
    rcases Bu b2 b3 with z|⟨_,z⟩
    .omega
    .exact h2 z
   .have hz2:w.cross n=0:=by rw[vQ] at q2;grind
    rcases od hw with hh|hh
    .have a:=ow.1 hh
     have b:=ow.1 (show u.half=1 by omega);have c:=ow.1 (show n.half=1 by omega);unfold ah.cross at*;have j1:w.x*(u.x*n.y-u.y*n.x)=0:=by grind
     have j2:w.y*(u.x*n.y-u.y*n.x)=0:=by grind
     rcases fZ.1 j1 with z|z
     .rcases fZ.1 j2 with z2|z2<;>grind
     .grind
    .have a:=ti.1 hh
     unfold ah.cross at*;have j1:w.x*(u.x*n.y-u.y*n.x)=0:=by grind
     have j2:w.y*(u.x*n.y-u.y*n.x)=0:=by grind
     rcases fZ.1 j1 with z|z
     .rcases fZ.1 j2 with z2|z2<;>grind
     .grind
def Uk{ds:List ah}(nz: ∀d∈ds,d.half≠0){s w:ah}(hs:s∈ds)(hu:u∈ds)(hw:w∈ds)(hn:ww ds s w)(h1:0<s.cross u):0<s.cross w:=by
 have zs:=od (nz s hs);have zu:=od (nz u hu);have zw:=od (nz w hw);have hneg:=Vi (nz s hs);have hnz:(fj s).half≠0:=by omega
 have e1:u.cross (fj s)=s.cross u:=by rw[N8,vQ s u];grind
 have e2:w.cross (fj s)=s.cross w:=by rw[N8,vQ s w];grind
 rcases hn with⟨b,no⟩|⟨n1,n2⟩
 .by_cases e:s.half=w.half
  .rcases b with b|⟨_,b⟩
   .omega
   .exact b
  .have e3:s.half=1/\w.half=2:=by
    rcases b with b|⟨b,_⟩
    .omega
    .exact absurd b e
   have nu:=no u hu;rcases zu with k|k
   .exact absurd ⟨.inr ⟨by omega,h1⟩, .inl (by omega)⟩ nu
   .rw[<-e2]
    exact QQ (nz u hu) (nz w hw) hnz (by omega) (by omega) (by rw[e1];exact h1) fun q=>nu ⟨.inl (by omega), .inr ⟨by omega,q⟩⟩
 .have a:=n1 u hu
  have b:=n2 u hu;have a1: ¬s.half<u.half:=fun k=>a (.inl k);have a2:s.half≠u.half:=fun k=>a (.inr ⟨k,h1⟩);have b1: ¬u.half<w.half:=fun k=>b (.inl k);rw[<-e2];exact QQ (nz u hu) (nz w hw) hnz (by omega) (by omega) (by rw[e1];exact h1) fun q=>b (.inr ⟨by omega,q⟩)
def Sf(s u w:aa)(h p:ah):s.dir.cross u.dir*w.value p=s.dir.cross u.dir*w.value h+w.dir.cross u.dir*(s.value p-s.value h)+s.dir.cross w.dir*(u.value p-u.value h):=by
 rw[i6,i6,i6,i6,i6,i6];unfold ah.cross aa.dir;grind
def Zn(hc:bu c): ∀d∈c.map (fun s=>s.l.dir),d.half≠0:=fun d hd=>by
 obtain⟨s,hs,rfl⟩:=aR.1 hd;exact Du (hc.ok s hs)
def RP(hc:bu c){w:bt}(hs:s∈c)(hw:w∈c)(hn:ww (c.map fun s=>s.l.dir) s.l.dir w.l.dir)(nh:s.v.nh=false):0<s.l.dir.cross w.l.dir/\w.l.value (s.l.at s.v.hi)=0:=by
 obtain⟨u,hu,z1,z2⟩:=aBE hc hs nh;have su:0<s.l.dir.cross u.l.dir:=by rw[vQ,Ga];grind
 have nz:=Zn hc;have ms:=dY (f:=fun s:bt=>s.l.dir) hs;have mu:=dY (f:=fun s:bt=>s.l.dir) hu;have mw:=dY (f:=fun s:bt=>s.l.dir) hw;have sw:=Uk nz ms mu mw hn su;refine⟨sw,?_⟩;obtain⟨p1,p2⟩:=hc.edge s hs;have hin:=(p2 _).1 (FI p1 nh);have hs0:=lg (hc.ok s hs).ne s.v.hi;have h0:=hin w hw;by_cases q:w.l.value (s.l.at s.v.hi)=0
 .exact q
 .exfalso
  have wu:0<=w.l.dir.cross u.l.dir:=by
   by_cases k:0<u.l.dir.cross w.l.dir
   .exact(VU nz ms mu mw hn su k sw).elim
   .rw[vQ];grind
  obtain⟨t1,t2⟩:=xo hc hw;have e:=Sf s.l u.l w.l (s.l.at s.v.hi) (w.l.at w.v.sample);rw[t2,z1,hs0] at e;have g1:=dd su (show 0<w.l.value (s.l.at s.v.hi) by grind);have g2:=cC wu (t1 s hs);have g3:=cC (cM sw) (t1 u hu);grind
def kB(x:Bool×ar):DV:= .ag [.sl (x.2.map cI),eU (.leaf x.1)]
def XT(l:List (Bool×ar)):cA 2 (l.map kB):=fun d hd=>by
 obtain⟨x,_,rfl⟩:=aR.1 hd;exact⟨J,J⟩
def A8: ∀(t:Tr) (c:ar),(t.parts c).length<=t.size+1
 | .leaf _,_=>bW _
 | .node l x y,c=>by
  have h1:=A8 x (bz c l);have h2:=A8 y (bz c l.rev);rw[Tr.parts,aY,Tr.size];split<;>split<;>(try simp only[eY])<;>omega
def UL{o:List (Bool×ar)}(hs:o.length<=1000000):PB GB prog 273 (fi [some (eU (.leaf b)),some (.sl (c.map cI)),none]) 2 325 (o.map kB) (fun w=> .v (.slice w.a w.n w.c)) ((o++Tr.parts (.leaf b) c).map kB):=by
 refine Co func273 J J ntmps273 J J (fun C=>?_);refine cl (fu:=⟨0⟩) J oq J<|jp 12 J<|gx J<|rf J J<|Rv ((o++[(b,c)]).map kB) J (by rw[bX]<;>rfl) (XT [(b,c)]) J<|?_;exact uk J J J J
def Ya{l:aa}{x y:Tr}{o:List (Bool×ar)}(hl:LB l)(hlo:l.ok)(hc:dP c)(hn:c.length+(Tr.node l x y).depth<=100000)(hs:o.length+((Tr.node l x y).size+1)<=1000000)(ihx: ∀{c:ar} {o:List (Bool×ar)},dP c->c.length+x.depth<=100000->o.length+(x.size+1)<=1000000->PB GB prog 273 (fi [some (eU x),some (.sl (c.map cI)),none]) 2 325 (o.map kB) (fun w=> .v (.slice w.a w.n w.c)) ((o++Tr.parts x c).map kB))(ihy: ∀{c:ar} {o:List (Bool×ar)},dP c->c.length+y.depth<=100000->o.length+(y.size+1)<=1000000->PB GB prog 273 (fi [some (eU y),some (.sl (c.map cI)),none]) 2 325 (o.map kB) (fun w=> .v (.slice w.a w.n w.c)) ((o++Tr.parts y c).map kB)):PB GB prog 273 (fi [some (eU (.node l x y)),some (.sl (c.map cI)),none]) 2 325 (o.map kB) (fun w=> .v (.slice w.a w.n w.c)) ((o++Tr.parts (.node l x y) c).map kB):=by
 have hk1:=rG c l;have hk2:=rG c l.rev;have hd:(Tr.node l x y).depth=1+max x.depth y.depth:=J;have hz:(Tr.node l x y).size=1+x.size+y.size:=J;have hp:=A8 x (bz c l);refine Co func273 J J ntmps273 J J (fun C=>?_);refine cl (fu:=⟨0⟩) J qm J<|rA 12 J<|gx J<|cl J (FQ hlo hc) J<|bb J J J (fun hc30=>?_) (fun hc30=>?_)
 .
  have hs2:(o++x.parts (bz c l)).length+(y.size+1)<=1000000:=by rw[aY];omega
  refine cq ((o++x.parts (bz c l)).map kB) J (ihx (qH hlo hc) (by omega) (by omega)) J J<|bb J J J (fun hc38=>?_) (fun hc38=>?_)
  .
   refine cq _ J (ihy (qH hlo.rev hc) (by omega) (by first|exact hs2|omega)) J J<|?_;exact uk J J J (by simp[Tr.parts,hc30,hc38])
  .
   exact uk J J J (by simp[Tr.parts,hc30,hc38])
 .
  refine bb J J J (fun hc38=>?_) (fun hc38=>?_)
  .
   refine cq _ J (ihy (qH hlo.rev hc) (by omega) (by first|exact hs2|omega)) J J<|?_;exact uk J J J (by simp[Tr.parts,hc30,hc38])
  .
   exact uk J J J (by simp[Tr.parts,hc30,hc38])
def F8: ∀{t:Tr} {c:ar} {o:List (Bool×ar)},t.all LB->t.all aa.ok->dP c->c.length+t.depth<=100000->o.length+(t.size+1)<=1000000->PB GB prog 273 (fi [some (eU t),some (.sl (c.map cI)),none]) 2 325 (o.map kB) (fun w=> .v (.slice w.a w.n w.c)) ((o++Tr.parts t c).map kB)
 | .leaf _,_,_,_,_,_,_,hs=>UL (by simp only[Tr.size] at hs;omega)
 | .node _ _ _,_,_,hb,ho,hc,hn,hs=>Ya hb.1 ho.1 hc hn hs (fun k1 k2 k3=>F8 hb.2.1 ho.2.1 k1 k2 k3) (fun k1 k2 k3=>F8 hb.2.2 ho.2.2 k1 k2 k3)
def ax2(hb:t.all LB)(ho:t.all aa.ok)(hd:t.depth<=100000)(hs:t.size<=900000):PB GB prog 273 (fi [some (eU t),some (.sl []),none]) 2 325 [] (fun w=> .v (.slice w.a w.n w.c)) ((t.parts []).map kB):=
 F8 (c:=[]) (o:=[]) hb ho dP.nil (by rw[eY];omega) (by rw[eY];omega)
def eC(c:ar):DV:= .sl (c.map cI)
def XP(l:List ar):cA 1 (l.map eC):=fun d hd=>by
 obtain⟨x,_,rfl⟩:=aR.1 hd;exact⟨J,J⟩
def Az(ps:List (Bool×ar)):List ar:=(ps.filter (·.1)).map (·.2)
def LE{ps:List (Bool×ar)}{e:ar}(h:ps[k]? =some (b,e)):Az (ps.drop k)=(if b then [e] else [])++Az (ps.drop (k+1)):=by
 obtain⟨h1,h2⟩:=aT.1 h;rw[bK h1,h2];unfold Az
 cases b<;>simp
def aCE(hb:t.all LB)(ho:t.all aa.ok)(hd:t.depth<=100000)(hs:t.size<=900000):PF GB prog 215 [eU t] (.sl ((t.parts []).map kB)):=by
 refine fn func215 J J ntmps215 J J (fun C=>?_);refine Wh _ J (ax2 hb ho hd hs) J J<|ik 4 J<|rz J J
def Xt(hb:t.all LB)(ho:t.all aa.ok)(hd:t.depth<=100000)(hs:t.size<=900000):PF GB prog 145 [eU t] (.sl ((de t).map eC)):=by
 obtain⟨ps,hps⟩: ∃ps,ps=t.parts []:=⟨_,rfl⟩;have hpl:=A8 t [];rw[<-hps] at hpl;have hml:(ps.map kB).length=ps.length:=aX ..;refine fn func145 J J ntmps145 J J (fun C=>?_);refine cl (fu:=⟨0⟩) J (aCE hb ho hd hs) J<|aj 7 (.d (.sl (ps.map kB))) J (by rw[hps])<|gx (fu:=⟨1⟩) J<|aj 8 (.d (vI (ps.length:Nat))) J (by rw[hml]<;>rfl)<|gx J<|nr 3 3 254 1 J J J<|lp (X:=List ar×Nat) (fun⟨acc,k⟩=>[(9, .d (vI (k:Nat))),(3, .rw 3)]) (fun⟨acc,k⟩=>[(3,some (.b 254 1 (acc.map eC) true))]) (fun⟨acc,k⟩=>acc++Az (ps.drop k)=de t/\k<=ps.length) (fun⟨acc,k⟩=>ps.length-k) ⟨[],0⟩ J ⟨by rw[hps];rfl,bJ _⟩ (fun _=>J) (fun⟨acc,k⟩ hk=>?_)
 try dsimp only at hk⊢
 obtain⟨h1,h2⟩:=hk;have hal:acc.length<=ps.length:=by
  have q1:=congrArg List.length h1;have q2:(de t).length<=ps.length:=by unfold de;rw[aX,hps];exact pZ ..
  rw[aY] at q1;omega
 have ham:(acc.map eC).length=acc.length:=aX ..;refine br J J J (fun hc10=>?_) (fun hc10=>?_)
 .
  obtain⟨⟨b,e⟩,hx⟩: ∃x,ps[k]? =some x:=⟨_,aZ (by omega)⟩;refine ix _ J (cO hx) J<|bb J J J (fun hc17=>?_) (fun hc17=>?_)
  .
   refine rf J J<|ap ((acc++[e]).map eC) J (by rw[bX]<;>rfl) (XP [e]) J<|fm 22 3 J<|at_ ⟨acc++[e],k+1⟩ (by dsimp only;exact⟨⟨by rw[<-h1,LE hx,if_pos hc17];simp,by omega⟩,(by omega)⟩)
  .
   exact at_ ⟨acc,k+1⟩ (by dsimp only;exact⟨⟨by rw[<-h1,LE hx,if_neg (by simp at hc17;rw[hc17];decide)];rfl,by omega⟩,(by omega)⟩)
 .
  obtain rfl:k=ps.length:=by omega
  obtain rfl:acc=de t:=by rw[gV] at h1;simpa[Az] using h1
  refine ik 3 J<|rz J J
theorem BQ.samp(v:ao)(i j:Nat)[h1:BQ v.lo i][h2:BQ v.hi j]:BQ v.sample (i+j+1+2):=by
 have b1:BQ (1:Rat) 1:=⟨by decide,by decide⟩;unfold ao.sample;split
 .exact BQ.z1.mono (by omega)
 .split
  .exact(inferInstance:BQ (v.hi-1) (j+1+1)).mono (by omega)
  .split
   .exact(inferInstance:BQ (v.lo+1) (i+1+1)).mono (by omega)
   .exact inferInstance
theorem Xn(h:Qs s):aI (s.l.at s.v.sample) 3500:=by
 haveI:=h.lb;haveI:=h.v.lo;haveI:=h.v.hi;have h0:BQ s.v.sample _:=BQ.samp s.v 1200 1200;have:= @aI.at s.l s.v.sample _ _ h0;exact⟨this.x.mono (by decide),this.y.mono (by decide)⟩
def TJ(l m:aa):l.dir.cross m.dir=(crossI l m:Rat):=by
 unfold ah.cross aa.dir crossI;rw[iJ,bM,bM];grind
def Hk{l m:aa}(h:0<Int.sign (l.dir.cross m.dir).num):crossI l m≠0:=fun e=>by
 rw[mn,TJ,e] at h;exact absurd h (by decide)
def OI{l m:aa}(h:crossI l m≠0):l.nor.cross m.nor≠0:=fun e=>by
 have:l.nor.cross m.nor=(crossI l m:Rat):=by
  unfold ah.cross aa.nor crossI;rw[iJ,bM,bM];grind
 rw[this] at e;exact h (cW.1 e)
def R8{l m:aa}(h:crossI l m≠0):c7 l m=⟨((l.b:Rat)*(m.c:Rat)-(l.c:Rat)*(m.b:Rat))/l.nor.cross m.nor,((l.c:Rat)*(m.a:Rat)-(l.a:Rat)*(m.c:Rat))/l.nor.cross m.nor⟩:=by
 have e1:(meetX l m:Rat)=(l.b:Rat)*(m.c:Rat)-(l.c:Rat)*(m.b:Rat):=by unfold meetX;rw[iJ,bM,bM];grind
 have e2:(meetY l m:Rat)=(l.c:Rat)*(m.a:Rat)-(l.a:Rat)*(m.c:Rat):=by unfold meetY;rw[iJ,bM,bM];grind
 have e3:(crossI l m:Rat)=l.nor.cross m.nor:=by unfold ah.cross aa.nor crossI;rw[iJ,bM,bM];grind
 unfold c7;rw[if_neg h,e1,e2,e3]
def BW: ∀{t:Tr} {c:ar} {x:Bool×ar},t.all LB->t.all aa.ok->dP c->x∈t.parts c->dP x.2/\x.2.length<=c.length+t.depth
 | .leaf b,c,x,_,_,hc,h=>by
  rw[Tr.parts,aU] at h;subst h;exact⟨hc,oV _ _⟩
 | .node l u v,c,x,hb,ho,hc,h=>by
  have hl:=hb.1;have hd:(Tr.node l u v).depth=1+max u.depth v.depth:=J;rw[Tr.parts] at h;rcases aM.1 h with h|h
  .split at h
   .obtain⟨k1,k2⟩:=BW hb.2.1 ho.2.1 (qH ho.1 hc) h
    have:=rG c l;exact⟨k1,by omega⟩
   .cases h
  .split at h
   .obtain⟨k1,k2⟩:=BW hb.2.2 ho.2.2 (qH ho.1.rev hc) h
    have:=rG c l.rev;exact⟨k1,by omega⟩
   .cases h
def HV(t:Tr):(de t).length<=t.size+1:=by
 unfold de;rw[aX];exact cS (pZ ..) (A8 t [])
def EO(hb:t.all LB)(ho:t.all aa.ok): ∀c∈de t,c.length<=t.depth:=fun c hc=>by
 have:=(BW hb ho dP.nil (q9.1 hc)).2;simpa using this
def Tv(l:List ah):cA 6 (l.map eZ):=fun d hd=>by
 obtain⟨x,_,rfl⟩:=aR.1 hd;exact⟨J,J⟩
def UQ{l m:aa}[hl:LB l][hm:LB m](hz:crossI l m≠0):PF GB prog 255 [cB l,cB m] (.tp [eZ (c7 l m),vB true]):=by
 haveI:=aI.nor l;haveI:=aI.nor m;refine fn func255 J J ntmps255 J J (fun C=>?_);refine cl J (uY (l:=l)) J<|cl J (uY (l:=m)) J<|cl J (CI (p:=l.nor) (q:=m.nor) (i:=97) (j:=97)) J<|cl (fu:=⟨0⟩) J (BH (q:=l.nor.cross m.nor)) J<|aj 15 (.d (vB false)) J (by rw[decide_eq_false (OI hz)])<|rA 15 J<|gx J<|cl J (n8 (p:=(l.b:Rat)) (q:=(m.c:Rat)) (i:=97) (j:=97)) J<|cl J (n8 (p:=(l.c:Rat)) (q:=(m.b:Rat)) (i:=97) (j:=97)) J<|cl J (pu (p:=(l.b:Rat)*(m.c:Rat)) (q:=(l.c:Rat)*(m.b:Rat))) J<|cl J (Ar (p:=(l.b:Rat)*(m.c:Rat)-(l.c:Rat)*(m.b:Rat)) (q:=l.nor.cross m.nor)) J<|cl J (n8 (p:=(l.c:Rat)) (q:=(m.a:Rat)) (i:=97) (j:=97)) J<|cl J (n8 (p:=(l.a:Rat)) (q:=(m.c:Rat)) (i:=97) (j:=97)) J<|cl J (pu (p:=(l.c:Rat)*(m.a:Rat)) (q:=(l.a:Rat)*(m.c:Rat))) J<|cl J (Ar (p:=(l.c:Rat)*(m.a:Rat)-(l.a:Rat)*(m.c:Rat)) (q:=l.nor.cross m.nor)) J<|rz J (by rw[R8 hz];rfl)
def aBV(hb: ∀s∈c,LB s.l)(hn:c.length<=100000):PF GB prog 197 [eC c] (.sl ((jj (c.map (·.l))).map eZ)):=by
 have hml:(c.map cI).length=c.length:=aX ..;obtain⟨L,hL⟩: ∃L,L=c.map (·.l):=⟨_,rfl⟩;have hLl:L.length=c.length:=by rw[hL,aX]
 refine fn (fu:=⟨15⟩) func197 J J ntmps197 J J (fun C=>?_);refine aj 10 (.d (vI (c.length:Nat))) J (by rw[hml]<;>rfl)<|gx J<|nr 3 3 103 6 J J J<|lp (X:=List ah×Nat) (fun⟨acc,k⟩=>[(11, .d (vI (k:Nat))),(3, .rw 3)]) (fun⟨acc,k⟩=>[(3,some (.b 103 6 (acc.map eZ) true))]) (fun⟨acc,k⟩=>acc=(List.range k).flatMap (qk L)/\k<=c.length) (fun⟨acc,k⟩=>c.length-k) ⟨[],0⟩ J ⟨J,bJ _⟩ (fun _=>J) (fun⟨acc,k⟩ hk=>?_)
 try dsimp only at hk⊢
 obtain⟨h1,h2⟩:=hk;have hal:=IY L k;rw[<-h1] at hal;have ham:(acc.map eZ).length=acc.length:=aX ..;refine br J J J (fun hc12=>?_) (fun hc12=>?_)
 .
  obtain⟨s,hx⟩: ∃u,c[k]? =some u:=⟨_,aZ (by omega)⟩;obtain⟨u,hw⟩: ∃w,c[(k+1)%c.length]? =some w:=⟨_,aZ (dK _ (by omega))⟩;haveI:=hb s (aV hx);haveI:=hb u (aV hw);have hxl:L[k]? =some s.l:=by rw[hL,cY,hx];rfl
  have hwl:L[(k+1)%L.length]? =some u.l:=by rw[hLl,hL,cY,hw];rfl
  refine ix (fu:=⟨13⟩) _ J (cO hx) J<|aj 20 (.d (vI (c.length:Nat))) J (by rw[hml]<;>rfl)<|gx (fu:=⟨1⟩) J<|aj 21 (.d (vI (((k+1)%c.length:Nat):Int))) J J<|gx J<|ix _ J (cO hw) J<|cl J (vV (l:=s.l)) J<|cl J (vV (l:=u.l)) J<|cl J (CI (p:=s.l.dir) (q:=u.l.dir) (i:=97) (j:=97)) J<|cl J (ma (q:=s.l.dir.cross u.l.dir)) J<|br J J J (fun hc32=>?_) (fun hc32=>?_)
  .
   refine cl J (UQ (l:=s.l) (m:=u.l) (Hk hc32)) J<|rf J J<|ap ((acc++[c7 s.l u.l]).map eZ) J (by rw[bX]<;>rfl) (Tv [c7 s.l u.l]) J<|fm 44 3 J<|at_ ⟨acc++[c7 s.l u.l],k+1⟩ (by dsimp only;exact⟨⟨by rw[JC,vx hxl hwl,if_pos hc32,<-h1],by omega⟩,(by omega)⟩)
  .
   exact at_ ⟨acc,k+1⟩ (by dsimp only;exact⟨⟨by rw[JC,vx hxl hwl,if_neg hc32,<-h1,fL],by omega⟩,(by omega)⟩)
 .
  have hS:jj L=acc:=by unfold jj;rw[hLl,h1,show k=c.length by omega]
  refine ik 3 J<|rz J (by rw[<-hL,hS];rfl)
def L4{l m:aa}(h:crossI l m≠0){p:ah}(h1:l.value p=0)(h2:m.value p=0):p=c7 l m:=by
 rw[R8 h];have hd:=OI h;rw[i6] at h1 h2;obtain⟨x,y⟩:=p;have e1:x*l.nor.cross m.nor=(l.b:Rat)*(m.c:Rat)-(l.c:Rat)*(m.b:Rat):=by unfold ah.cross aa.nor;grind
 have e2:y*l.nor.cross m.nor=(l.c:Rat)*(m.a:Rat)-(l.a:Rat)*(m.c:Rat):=by unfold ah.cross aa.nor;grind
 generalize l.nor.cross m.nor=d at*;simp only[ah.mk.injEq];constructor<;>grind
def Kr(l:aa)(t:Rat):l.at t=cG (l.at 0) l.dir t:=by rw[<-Cu];congr 1;grind
section
variable {F:Fence}{md:Region.Mode}
def J5: ∀{k:Nat} {listed:Array Bool} {a:Act} {w:World},wpAnyIn F n P md ops Q k listed a w->wpAnyIn F n P md ops Q (k+1) listed a w
 |0,_,_,_,h=>⟨fun _=>h.2,fun i hi=>by rw[h.1] at hi;cases hi⟩
 |_+1,_,_,_,h=>⟨h.1,fun i hi=>wpOpIn_mono (fun _ _ k=>J5 k) (h.2 i hi)⟩
def Rq{k:Nat}{listed:Array Bool}{a:Act}{w:World}(h:wpAnyIn F n P md ops Q k listed a w): ∀j,wpAnyIn F n P md ops Q (j+k) listed a w
 |0=>by rw[eX];exact h
 |j+1=>by rw[show j+1+k=j+k+1 by omega];exact J5 (Rq h j)
def Bf.lt(he:mi 0 l=true){j:Nat}(h:Bf l i j):j<i:=by
 induction h with
 |b ho hm hb=>have:=qB he _ _ ho _ hm hb;omega
 |s ho hm hb _ ih=>have:=qB he _ _ ho _ hm hb;omega
def Bf.inv{j:Nat}(h:Bf l i j): ∃o e,l[i]? =some o/\e∈o.after/\Region.binds .any e=true/\(e.on=j\/Bf l e.on j):=by
 induction h with
 |b ho hm hb=>exact⟨_,_,ho,hm,hb, .inl J⟩
 |s ho hm hb hh _=>exact⟨_,_,ho,hm,hb, .inr hh⟩
def RB(he:mi 0 ops.toList=true): ∀(r pre:List Oper),ops.toList=pre++r->(∀i,pre.length<=i->i<ops.size-> ∀j,j<i->Bf ops.toList i j)-> ∀(listed:Array Bool) (a:Act) (w:World),(∀j d,listed.getD j d=if j<pre.length then true else if j<ops.size then false else d)->wpListIn F n P ops Q r a w->wpAnyIn F n P .any ops Q r.length listed a w
 |[],pre,hops,_,listed,a,w,hl,h=>by
  refine⟨?_,h⟩;rw[List.eq_nil_iff_forall_not_mem];intro i hi;obtain⟨h1,o,h2,_⟩:=mem_ready.1 hi;have h3:=(fV.1 h2).1;have h4:pre.length=ops.size:=by rw[<-kL,hops];simp
  rw[hl,if_pos (by omega)] at h1
  cases h1
 |o::r,pre,hops,hc,listed,a,w,hl,h=>by
  have hsz:ops.size=pre.length+(r.length+1):=by rw[<-kL,hops];simp
  have hp:ops.toList[pre.length]? =some o:=by rw[hops];simp
  have hp':ops[pre.length]? =some o:=by simpa using hp
  have only: ∀i,i∈Region.ready .any ops listed↔i=pre.length:=fun i=>by
   rw[mem_ready];constructor
   .rintro ⟨h1,o',h2,h3⟩
    have h4:=(fV.1 h2).1;rw[hl] at h1;split at h1
    .cases h1
    .rename_i h5
     apply Classical.byContradiction;intro h6;have hb:=hc i (by omega) h4 pre.length (by omega);obtain⟨o2,e,ho,hm,hb,hh⟩:=hb.inv;have e':o'=o2:=Option.some.inj (h2.symm.trans (by simpa using ho));subst e';have h7:=h3 _ hm hb;have h9:=qB he _ _ ho _ hm hb;have h8:pre.length<=e.on:=by
      rcases hh with hh|hh
      .omega
      .have:=hh.lt he;omega
     rw[hl,if_neg (by omega),if_pos (by omega)] at h7
     cases h7
   .rintro rfl
    refine⟨by rw[hl,if_neg (by omega),if_pos (by omega)],o,hp',fun e hm hb=>?_⟩;have:=qB he _ _ hp _ hm hb;rw[hl,if_pos (by omega)]
  refine⟨fun hn=>?_,fun i hi=>?_⟩
  .have:=(only pre.length).2 J
   rw[hn] at this;cases this
  .obtain rfl:=(only i).1 hi
   have ih:=RB he r (pre++[o]) (by rw[hops];simp) (fun i h1 h2=>hc i (by simp at h1;omega) h2) (listed.setIfInBounds pre.length true);have hl': ∀j d,(listed.setIfInBounds pre.length true).getD j d=if j<(pre++[o]).length then true else if j<ops.size then false else d:=fun j d=>by
    have hls:pre.length<listed.size:=by
     apply Classical.byContradiction;intro hq;have h1:=hl pre.length true;rw[if_neg (by omega),if_pos (by omega),cX,oT (by omega)] at h1
     cases h1
    have h1:=hl j d;rw[cX] at h1⊢;rw[dR];by_cases hj:pre.length=j
    .subst hj;rw[if_pos J,if_pos hls,if_pos (by simp)];rfl
    .rw[if_neg hj,h1]
     simp only[aY,bQ,eY];by_cases h2:j<pre.length
     .rw[if_pos h2,if_pos (by omega)]
     .rw[if_neg h2]
      by_cases h3:j<ops.size
      .rw[if_pos h3,if_neg (by omega)];
      .rw[if_neg h3,if_neg (by omega)]
   unfold wpOpIn;rw[hp'];simp only[wpListIn] at h⊢;split
   .rename_i hw;rw[if_pos hw] at h
    exact Oper.wpIn_mono (fun a w k=>ih a w hl' k) h
   .rename_i hw;rw[if_neg hw] at h
    exact⟨h.1,ih _ _ hl' h.2⟩
def Er(F:Fence)(n:Nat)(P:Program)(ops:Array Oper)(r:List Oper)(Q:Exit->Act->World->Prop):Exit->Act->World->Prop
 | .normal=>wpListIn F n P ops Q r
 |e=>Q e
def T8{K:Act->World->Prop}(h:o.wpIn F n P a w K (Er F n P ops r Q)):o.wpIn F n P a w K Q:=by
 refine⟨h.1,?_⟩;have:=h.2
 cases hr:(o.semAt F.round a.eval).run P w with
 |ok x w'=>
  rw[hr] at this
  cases x with
  |enter f args=>exact⟨this.1,CallsIn.mono this.2 fun e w'' he=>by cases e<;>exact he⟩
  |round l f t x y=>exact⟨this.1,RoundIn.mono this.2 fun e w'' he=>by cases e<;>exact he⟩
  |_=>exact this
 |halt x w'=>
  rw[hr] at this
  cases x<;>exact this
def X2(hops:ops.toList=pre++r)(hg: ∀o∈pre,o.guard=none)(he:mi 0 ops.toList=true)(hc: ∀i,pre.length<=i->i<ops.size-> ∀j,j<i->Bf ops.toList i j):
  ∀(fuel:Nat) (L listed:Array Bool) (a:Act) (w:World),L.size=pre.length->(∀j d,listed.getD j d=if j<pre.length then L.getD j d else if j<ops.size then false else d)->(∀i o,ops.toList[i]? =some o->listed.getD i false=true-> ∀e∈o.after,Region.binds .any e=true->listed.getD e.on false=true)->
   wpAnyIn F n P .any pre.toArray (Er F n P ops r Q) fuel L a w->wpAnyIn F n P .any ops Q (fuel+r.length) listed a w:=by
 have hsz:ops.size=pre.length+r.length:=by rw[<-kL,hops];simp
 have hget: ∀i,i<pre.length->ops[i]? =pre.toArray[i]? :=fun i hi=>by rw[<-pQ,hops,jT hi];simp
 -- all of the first part is done
 have fin: ∀(L listed:Array Bool) (a:Act) (w:World),L.size=pre.length->(∀j d,listed.getD j d=if j<pre.length then L.getD j d else if j<ops.size then false else d)->Region.ready .any pre.toArray L=[]->wpListIn F n P ops Q r a w->wpAnyIn F n P .any ops Q r.length listed a w:=by
  intro L listed a w hL hl hr h;have all: ∀i,i<pre.length->L.getD i true=true:=by
   intro i
   induction i using Nat.strongRecOn with
   |ind i ih=>
    intro hi
    cases hq:L.getD i true with
    |true=>rfl
    |false=>
     have:i∈Region.ready .any pre.toArray L:=mem_ready.2 ⟨hq,pre[i],by simp[hi],fun e hm hb=>by
      have hlt:=qB he i pre[i] (by rw[hops,jT hi];simp[hi]) e hm hb;have:=ih e.on (by omega) (by omega);rw[cX,gT (by omega)] at this⊢;simpa using this⟩
     rw[hr] at this;cases this
  refine RB he r pre hops hc listed a w (fun j d=>?_) h;rw[hl];by_cases hj:j<pre.length
  .have:=all j hj
   rw[if_pos hj,if_pos hj];rw[cX,gT (by omega)] at this⊢;simpa using this
  .rw[if_neg hj,if_neg hj]
 intro fuel
 induction fuel with
 |zero=>
  intro L listed a w hL hl hcl h;rw[eX];exact fin L listed a w hL hl h.1 h.2
 |succ fuel ih=>
  intro L listed a w hL hl hcl h;by_cases hr:Region.ready .any pre.toArray L=[]
  .exact Rq (fin L listed a w hL hl hr (h.1 hr)) (fuel+1)
  .have sub: ∀i,i∈Region.ready .any pre.toArray L->i∈Region.ready .any ops listed:=fun i hi=>by
    obtain⟨h1,o,h2,h3⟩:=mem_ready.1 hi;have hi':i<pre.length:=by have:=(fV.1 h2).1;simpa using this
    refine mem_ready.2 ⟨by rw[hl,if_pos hi'];exact h1,o,by rw[hget i hi'];exact h2,fun e hm hb=>?_⟩;have hlt:=qB he i o (by rw[hops,jT hi'];simpa using h2) e hm hb;rw[hl,if_pos (by omega)];exact h3 e hm hb
   have sup: ∀i,i∈Region.ready .any ops listed->i∈Region.ready .any pre.toArray L:=fun i hi=>by
    obtain⟨h1,o,h2,h3⟩:=mem_ready.1 hi;have h4:=(fV.1 h2).1;by_cases hi':i<pre.length
    .rw[hl,if_pos hi'] at h1
     refine mem_ready.2 ⟨h1,o,by rw[<-hget i hi'];exact h2,fun e hm hb=>?_⟩;have hlt:=qB he i o (by simpa using h2) e hm hb;have:=h3 e hm hb;rw[hl,if_pos (by omega)] at this;exact this
    .exfalso
     obtain⟨j,hj⟩:=List.exists_mem_of_ne_nil _ hr;obtain⟨g1,o2,g2,_⟩:=mem_ready.1 hj;have hj':j<pre.length:=by have:=(fV.1 g2).1;simpa using this
     have clo: ∀i j,Bf ops.toList i j->listed.getD i false=true->listed.getD j false=true:=fun i j hb=>by
      induction hb with
      |b ho hm hb=>intro hi;exact hcl _ _ ho hi _ hm hb
      |s ho hm hb _ ih=>intro hi;exact ih (hcl _ _ ho hi _ hm hb)
     have hjf:listed.getD j false=false:=by
      rw[hl,if_pos hj'];rw[cX,gT (by omega)] at g1⊢;simpa using g1
     have:listed.getD j false=true:=by
      obtain⟨o2,e,ho,hm,hb,hh⟩:=(hc i (by omega) h4 j (by omega)).inv;have e':o=o2:=Option.some.inj (h2.symm.trans (by simpa using ho));subst e';rcases hh with hh|hh
      .rw[<-hh];exact h3 _ hm hb
      .exact clo _ _ hh (h3 _ hm hb)
     rw[hjf] at this;cases this
   rw[show fuel+1+r.length=(fuel+r.length)+1 by omega];refine⟨fun hn=>?_,fun i hi=>?_⟩
   .obtain⟨j,hj⟩:=List.exists_mem_of_ne_nil _ hr
    have:=sub j hj;rw[hn] at this;cases this
   .have hi0:=sup i hi
    have hk:=h.2 i hi0;obtain⟨h1,o,h2,h3⟩:=mem_ready.1 hi0;have hi':i<pre.length:=by have:=(fV.1 h2).1;simpa using this
    have hgo:o.guard=none:=hg o (by
     have h2':pre[i]? =some o:=by simpa using h2
     exact aV h2')
    have step: ∀a w,wpAnyIn F n P .any pre.toArray (Er F n P ops r Q) fuel (L.setIfInBounds i true) a w->wpAnyIn F n P .any ops Q (fuel+r.length) (listed.setIfInBounds i true) a w:=by
     intro a w hh;have hls:i<listed.size:=by
      apply Classical.byContradiction;intro hq;have q:=hl i true;have q':=hl i false;rw[if_pos hi'] at q q';rw[cX,oT (by omega)] at q q';rw[cX,gT (by omega)] at q q';simp only[Option.getD_none,lJ] at q q';rw[<-q] at q';cases q'
     have hl': ∀j d,(listed.setIfInBounds i true).getD j d=if j<pre.length then(L.setIfInBounds i true).getD j d else if j<ops.size then false else d:=fun j d=>by
      have q:=hl j d;rw[cX] at q⊢;rw[cX] at q⊢;rw[dR,dR];by_cases hj:i=j
      .subst hj;rw[if_pos J,if_pos J,if_pos hls,if_pos hi',if_pos (by omega)]
      .rw[if_neg hj,if_neg hj];exact q
     refine ih _ _ a w (by simp[hL]) hl' (fun i2 o2 g1 g2 e hm hb=>?_) hh;have g3:i2=i\/listed.getD i2 false=true:=by
      rw[cX,dR] at g2;by_cases hj:i=i2
      .exact .inl hj.symm
      .rw[if_neg hj] at g2;rw[cX];exact .inr g2
     have g4:listed.getD e.on false=true:=by
      rcases g3 with rfl|g3
      .have e':o=o2:=Option.some.inj (((hget i2 hi').trans h2).symm.trans (by simpa using g1))
       subst e';have hlt:=qB he i2 o g1 e hm hb;rw[hl,if_pos (by omega)];exact h3 e hm hb
      .exact hcl i2 o2 g1 g3 e hm hb
     rw[cX,dR];by_cases hj:i=e.on
     .rw[if_pos hj];rw[if_pos hls];rfl
     .rw[if_neg hj];rw[cX] at g4;exact g4
    unfold wpOpIn at hk⊢;rw[hget i hi',h2];rw[h2] at hk;have hw: ∀y,Region.wanted o y=true:=fun y=>by unfold Region.wanted;rw[hgo]
    simp only[hw,if_true] at hk⊢;exact T8 (Oper.wpIn_mono step hk)
end
section
variable {own:aG}{us:List Rc}{id:Nat}
def CN(x:Nat):Nat->Bool
 |0=>true
 |i+1=>x.testBit i&&CN x i
def K2{x:Nat}: ∀{i:Nat},CN x i=true-> ∀j,j<i->x.testBit j=true
 |i+1,h,j,hj=>by
  simp only[CN,bU] at h;by_cases e:j=i
  .subst e;exact h.1
  .exact K2 h.2 j (by omega)
def z7:Nat->List Nat->Bool
 |_,[]=>true
 |i,x::t=>CN x i&&z7 (i+1) t
def N6: ∀{l:List Nat} {k:Nat},z7 k l=true-> ∀i x,l[i]? =some x-> ∀j,j<k+i->x.testBit j=true
 |y::t,k,h,0,x,hx,j,hj=>by
  simp only[z7,bU] at h
  cases hx
  exact K2 h.1 j (by omega)
 |y::t,k,h,i+1,x,hx,j,hj=>by
  simp only[z7,bU] at h;exact N6 h.2 i x (by simpa using hx) j (by omega)
def Kj: ∀(r:List Oper) (acc:List Nat),(ol r acc).length=acc.length+r.length
 |[],acc=>by simp[ol]
 |o::r,acc=>by simp only[ol];rw[Kj];simp;omega
def HJ(m:Nat)(pre all:List Oper)(us:List Rc)(fr0:aC)(own0:aG):Bool:=
 (pre.all (fun o=>o.guard.isNone)&&tD (ol pre []) [] us)&&((mi 0 all&&z7 m ((ol all []).drop m))&&DS us fr0 own0)
def aIo(hm:P.follows .mixedOrders=true)(h:HJ us.length (ops.toList.take us.length) ops.toList us fr0 own0=true)(k:aA P GB C n Q0 fr own (.ops ops r K)):aA P GB C n Q0 fr own (.dr id ops fr0 own0 us r K):=by
 intro D;obtain⟨pre,hp,hl⟩:=D.pre;have ht:ops.toList.take us.length=pre:=by rw[hp,<-hl];simp
 rw[ht] at h;simp only[HJ,bU] at h;obtain⟨⟨h1,h2⟩,⟨h3,h4⟩,h5⟩:=h;have hg: ∀o∈pre,o.guard=none:=fun o ho=>by simpa using dJ.1 h1 o ho
 have hgt: ∀i,i<pre.length->ops[i]? =pre.toArray[i]? :=fun i hi=>by rw[<-pQ,hp,jT hi];simp
 have hc: ∀i,pre.length<=i->i<ops.size-> ∀j,j<i->Bf ops.toList i j:=fun i g1 g2 j g3=>by
  refine F4 ops.toList [] [] J J (fun i j h=>by simp at h) i j ?_;have hlen:=Kj ops.toList [];have hi:i<(ol ops.toList []).length:=by rw[hlen];simpa using g2
  rw[aW,aZ hi];refine N6 h4 (i-us.length) _ ?_ j (by omega);rw[lN,show us.length+(i-us.length)=i by omega];exact aZ hi
 have he':mi 0 pre=true:=by
  have: ∀(l l':List Oper) (k:Nat),mi k (l++l')=true->mi k l=true:=by
   intro l l'
   induction l with
   |nil=>intros;rfl
   |cons o t ih=>intro k h;simp only[gL,mi,bU] at h⊢;exact⟨h.1,ih _ h.2⟩
  exact this pre r 0 (by rw[<-hp];exact h3)
 have D':jn P GB C n pre.toArray us (aP fr0,bj own0):=by
  refine⟨by simpa using hl.symm,fun i u o hu ho=>?_,by simpa using h2,by simpa using he',LM h5⟩;have hi:i<pre.length:=by have:=(fV.1 ho).1;simpa using this
  obtain⟨d1,d2⟩:=D.snd i u o hu (by rw[hgt i hi];exact ho);refine⟨d1,fun Q tl tb K s1 s2 hf hk=>?_⟩;refine(d2 Q tl tb K s1 s2 hf hk).imp fun a w q=>?_;have hgo:o.guard=none:=hg o (aV (by simpa using ho));have hw: ∀y,Region.wanted o y=true:=fun y=>by unfold Region.wanted;rw[hgo]
  unfold wO at q⊢;simp only[hw,if_true] at q⊢;exact q
 have e:ce (dq (Array.replicate pre.length false)) 0 (aP fr0,bj own0) us=(aP fr0,bj own0):=by
  have: ∀(l:List Rc) (k:Nat) (s:ST),ce (dq (Array.replicate pre.length false)) k s l=s:=fun l=>by
   induction l with
   |nil=>intro k s;rfl
   |cons y l ih=>
    intro k s;simp only[ce];rw[ih];rw[Dm];rfl
  exact this us 0 _
 have hw:=D'.walk (Q:=Er (FW C.rd) 0 P ops r (cQ C.rd P Q0 K)) (by rw[D.st];exact k) pre.toArray.size (Array.replicate pre.length false) (by simp) (fun i o _ hi=>by rw[Dm] at hi;cases hi) (by unfold un;exact cS (pZ _ _) (by simp));rw[e] at hw;refine hw.drew.imp fun a w q=>wpIn_region_any hm ?_;have hsz:ops.size=pre.toArray.size+r.length:=by rw[<-kL,hp];simp
 rw[show wpAnyIn (FW C.rd) 0 P .any ops (cQ C.rd P Q0 K) ops.size=wpAnyIn (FW C.rd) 0 P .any ops (cQ C.rd P Q0 K) (pre.toArray.size+r.length) by rw[hsz]];refine X2 hp hg h3 hc _ _ _ _ _ (by simp) (fun j d=>?_) (fun i o _ hi=>?_) q
 .have hs2:ops.size=pre.length+r.length:=by simpa using hsz
  simp only[cX,qK];by_cases g1:j<pre.length
  .rw[if_pos (by omega),if_pos g1,if_pos g1]
  .by_cases g2:j<ops.size
   .rw[if_pos g2,if_neg g1,if_pos g2];rfl
   .rw[if_neg g2,if_neg g1,if_neg g2];rfl
 .simp only[cX,qK] at hi
  split at hi<;>cases hi
end
section
variable {own:aG}{us:List Rc}{id:Nat}
def drT[fu:Fu](h:HJ us.length (ops.toList.take us.length) ops.toList us fr0 own0=true)(hgo:go tt n fu.n [] fr own (.ops ops r K)=⟨vc,fr',own',cf'⟩)(k:aA prog GB C n Q0 fr' own' cf')
  (hv:autoParam (ak vc) cL._auto_1):aA prog GB C n Q0 fr own (.dr id ops fr0 own0 us r K):=
 aIo follows h (fB hgo hv k)
end
def Jf(o:Obj):Prop:= ∀cs ty z,o≠ .cells cs ty z
section
variable {own:List av}
def bE.ctx(h:bE C own G w)(h1:C'.w0=C.w0)(h2:C'.G0=C.G0)(h3:C'.mb=C.mb)(h4: ∀p∈C'.ex,p∈C.ex):bE C' own G w:=by
 obtain⟨a1,a2,a3,a4,a5,a6,a7,a8,a9,a10,a11,a12⟩:=h;exact⟨by rw[h1];exact a1,by rw[h1];exact a2,by rw[h1];exact a3,by rw[h1];exact a4,by rw[h1,h3];exact a5,a6,by rw[h2];exact a7,by rw[h1,h2];exact a8,by rw[h1,h3];exact a9,a10,by rw[h1];exact a11,fun p hp=>a12 p (h4 p hp)⟩
def bE.addx(h:bE C own G w){o:Obj}(ho:Jf o)(h1:C'.w0=C.w0)(h2:C'.G0=C.G0)(h3:C'.mb=C.mb)(h4: ∀p∈C'.ex,p=(w.heap.size,o)\/p∈C.ex):bE C' own G (w.alloc o):=by
 have old: ∀b,b<w.heap.size->(w.alloc o).heap[b]? =w.heap[b]? :=fun b hb=>RowKit.Below.heap_alloc _ _ _ hb;obtain⟨a1,a2,a3,a4,a5,a6,a7,a8,a9,a10,a11,a12⟩:=h;refine⟨by rw[h1];exact a1,by rw[h1];exact a2,by rw[h1];exact a3,by rw[h1];simp;omega,?_,?_,by rw[h2];exact a7,by rw[h1,h2];exact a8,?_,a10,by rw[h1];exact a11,?_⟩
 .rw[h1,h3];intro b hb hm;rw[old b (by omega)];exact a5 b hb hm
 .intro b cs hb
  obtain⟨ty,fz,hc⟩:=a6 b cs hb;exact⟨ty,fz,by rw[old b (il hc)];exact hc⟩
 .rw[h1,h3];intro x hx
  obtain⟨b1,b2⟩:=a9 x hx;exact⟨by rw[old _ (il b1)];exact b1,b2⟩
 .intro p hp
  rcases h4 p hp with rfl|hp
  .exact⟨ho,World.alloc_heap_new w o⟩
  .exact⟨(a12 p hp).1,by rw[old _ (il (a12 p hp).2)];exact(a12 p hp).2⟩
def bE.putx(h:bE C own G w){l:Nat}{o0 o:Obj}(hl:(l,o0)∈C.ex)(hs:C.w0.heap.size<=l)(ho:Jf o)(h1:C'.w0=C.w0)(h2:C'.G0=C.G0)(h3:C'.mb=C.mb)(h4: ∀p∈C'.ex,p=(l,o)\/p∈C.ex/\p.1≠l):bE C' own G (w.putObj l o):=by
 have hne: ∀{b:Nat} {cs:Array Value} {ty:TypeId} {z:Nat×Nat},w.heap[b]? =some (.cells cs ty z)->b≠l:=fun hb e=>h.extNe hl hb e.symm;have hlt:=il (h.ext _ hl).2;obtain⟨a1,a2,a3,a4,a5,a6,a7,a8,a9,a10,a11,a12⟩:=h;refine⟨by rw[h1];exact a1,by rw[h1];exact a2,by rw[h1];exact a3,by rw[h1];simpa using a4,?_,?_,by rw[h2];exact a7,by rw[h1,h2];exact a8,?_,a10,by rw[h1];exact a11,?_⟩
 .rw[h1,h3];intro b hb hm;rw[World.putObj_heap_other (by omega)];exact a5 b hb hm
 .intro b cs hb
  obtain⟨ty,fz,hc⟩:=a6 b cs hb;exact⟨ty,fz,by rw[World.putObj_heap_other (hne hc)];exact hc⟩
 .rw[h1,h3];intro x hx
  obtain⟨b1,b2⟩:=a9 x hx;exact⟨by rw[World.putObj_heap_other (hne b1)];exact b1,b2⟩
 .intro p hp
  rcases h4 p hp with rfl|⟨hp,hpl⟩
  .exact⟨ho,World.putObj_heap_same hlt⟩
  .exact⟨(a12 p hp).1,by rw[World.putObj_heap_other hpl];exact(a12 p hp).2⟩
end
abbrev mp (w:World) (G:Gh):aE:=⟨w,G,[],[],[],none,fun _=>none⟩
def JI(G:Gh)(w:World):Prop:= ∀b cs,G b=some cs-> ∃ty fz,w.heap[b]? =some (.cells ⟨cs⟩ ty fz)
structure Rh (Jv:Gh->World->Prop):Prop where
 frz: ∀G w,Jv G w->JI G w
 on: ∀G w G1 w1,Jv G w->bE (mp w G) [] G1 w1->Jv G1 w1
def Hc(h:JI G w):bE (mp w G) [] G w:=
 ⟨J,J,J,bW _,fun _ _ _=>J,h,bH.refl _,fun _ _=>J,fun o ho=>(by cases ho), .nil,bW _,fun p hp=>by cases hp⟩
structure An (GB:Gh) (P:Program) (l:Nat) (Jv:Nat->Gh->World->Prop) (Jx:Gh->World->Prop) (E:List (List DV)):Prop where
 st: ∀k,Rh (Jv k)
 sx:Rh Jx
 yd: ∀k e G w ys,E[k]? =some e->bH GB G->Jv k G w->IsLs G e ys->YieldAt (FW none) 0 P l ⟨ys⟩ w fun e w'=> ∃G',bH G G'/\(e= .returned (.bool true)/\Jv (k+1) G' w'\/e= .returned (.bool false)/\Jx G' w')
structure It (GB:Gh) (P:Program) (f:FuncId) (ds:List DV) (E:List (List DV)):Prop where
 able:rE P f
 run: ∀(l:Nat) (Jv:Nat->Gh->World->Prop) (Jx:Gh->World->Prop) (GB':Gh),bH GB GB'->An GB' P l Jv Jx E-> ∀w vs,Jv 0 GB' w->IsLs GB' ds vs->
  CallsIn (FW none) 0 P f ⟨.func (.yield l) #[] #[]::vs⟩ w fun e w'=> ∃G',bH GB' G'/\(∃v,e= .returned v)/\(Jv E.length G' w'\/Jx G' w')
structure Pl (C:aE):Prop where
 mb:C.mb=[]
 mks:C.mks=[]
 rd:C.rd=none
def Hf(P:Program)(fb:Func)(GB:Gh)(Jv:Nat->Gh->World->Prop)(Jx:Gh->World->Prop)(N:Nat):Exit->Act->World->Prop:=
 bodyPost P fb fun e w'=> ∃G',bH GB G'/\(∃v,e= .returned v)/\(Jv N G' w'\/Jx G' w')
section
variable {own:aG}
def aIi[fu:Fu]{c:Code}{cf:Nat->Cf}{fr:Nat->aC}{own:Nat->aG}{vc:Nat->List Prop}(hf:prog.funcs[f]? =some fb)(hb:fb.body=some c)(hn:(fb.name== "runtime.NumGoroutine")=false)(hm:fb.ntmps=m)(hlen:Nat.ble (ds.length+1) m=true)
  (hgo: ∀l,go tt m fu.n [] (qb 0 (.v (.func (.yield l) #[] #[])::ds)) [] (.code c [])=⟨vc l,fr l,own l,cf l⟩)
  (k: ∀l Jv Jx GB',bH GB GB'->An GB' prog l Jv Jx E-> ∀C,Pl C->Jv 0 C.G0 C.w0->aA prog GB' C m (Hf prog fb GB' Jv Jx E.length) (fr l) (own l) (cf l))
  (hv: ∀l,ak (vc l):=by intros;first|exact trivial|(simp only[ak];kernel_rfl)|(simp only[ak];omega)):It GB prog f ds E:=by
 refine⟨⟨fb,hf,hn,by simp[hb]⟩,fun l Jv Jx GB' hg H w vs hJ hvs=>?_⟩;have hlen':vs.length+1<=m:=by rw[hvs.len];simpa using hlen
 have h:=fB (GB:=GB') (C:=mp w GB') (Q0:=Hf prog fb GB' Jv Jx E.length) (hgo l) (hv l) (k l Jv Jx GB' hg H (mp w GB') ⟨J,J,J⟩ hJ);refine callsIn_wide.2 (calls_of_wp hf hb ?_);have hvs':IsLs GB' (.v (.func (.yield l) #[] #[])::ds) (.func (.yield l) #[] #[]::vs):= .cons (aH.2 J) hvs;refine uN J (h.run (fun _=>⟨none,0,0⟩) GB' [] _ w ⟨bH.refl _,Hc ((H.st 0).frz _ _ hJ),by simp;omega,J,fun k f e=>xb hvs' (fun k v hk=>?_) k f e,(fun nm B e=>by cases e),(fun nm nm' B B' e=>by cases e),fun nm p _ _ e=>by cases e⟩);obtain⟨j,rfl,hj⟩:=ve (.func (.yield l) #[] #[]::vs) 0 k v hk;have hj':=(aT.1 hj).1;rw[lV (by simpa using hj')];simpa using hj
def bE.pl(h:bE C ov G w)(hp:Pl C):bE (mp C.w0 C.G0) [] G w:=
 (h.drop (jK _)).ctx J J hp.mb.symm (fun p hp=>by cases hp)
def LN{l:Nat}(H:An GB P l Jv Jx E)(hp:Pl C)(hJ:Jv E.length C.G0 C.w0\/Jx C.G0 C.w0)(hr:fb.results.toList=[])(he:Cn e=true:=by rfl):
  aA P GB C n (Hf P fb GB Jv Jx E.length) fr own (.ex e []):=by
 refine⟨fun ρ G ov a w r=>?_⟩;have hj:Jv E.length G w\/Jx G w:=hJ.imp (fun h=>(H.st _).on _ _ _ _ h (r.h.pl hp)) fun h=>H.sx.on _ _ _ _ h (r.h.pl hp);have hr':j0 P (ck a) ov fb.results.toList []:=by rw[hr];exact .nil
 cases e with
 |ret=>exact⟨r.df.trans hp.mks,_,sv hr' (cw a) r.h,G,r.gb,⟨_,J⟩,hj⟩
 |normal=>exact⟨r.df.trans hp.mks,_,sv hr' (cw a) r.h,G,r.gb,⟨_,J⟩,hj⟩
 |_=>cases he
def aEN{args:Array Operand}{tys:Array TypeId}{fr:Fr}{l:Nat}{gd:Option (Nat×Bool)}(hf:kG fr a)(ho:aB fr fo=some (.func (.yield l) ⟨[]⟩ ⟨[]⟩))(hv:fg fr args.toList=some vs):
  (execOp a.eval ⟨dst, .call ⟨.value fo,args,tys⟩,ty',pos,af,gd⟩).run P w=(Instr.yield l ⟨vs⟩).run P w:=by
 have e:args.map a.eval=⟨vs⟩:=by apply Array.ext';simpa using Be hf hv
 simp only[execOp,resolve,bw hf ho,e,Deferred.ofValue];show(invoke (.fn (.yield l) ⟨[]⟩) (⟨[]⟩++⟨vs⟩)).run P w=_;simp only[invoke];rw[show((⟨[]⟩:Array Value)++⟨vs⟩)=⟨vs⟩ by simp]
def n4:aC->aC
 |[]=>[]
 |(k,f)::t=>match f with
  | .ov .. =>n4 t
  | .rw .. =>n4 t
  | .be .. =>n4 t
  | .rs .. =>n4 t
  | .bx .. =>n4 t
  | .no=>n4 t
  |f=>(k,f)::n4 t
def LR(fr:aC)(ops:Array Oper)(o:Oper):Option (Nat×List DV×Nat):=match o with
 |⟨some d, .call ⟨.value fo,args,_⟩,_,_,_,none⟩=>match bh (aP fr) fo,evDs (aP fr) args.toList with
  |some (.d (.v (.func (.yield l) ⟨[]⟩ ⟨[]⟩))),some ds=>some (l,ds,d)
  |_,_=>none
 |_=>none
def cy[fu1:Fu][fu2:Fu]{l:Nat}(frd:aC)(H:An GB prog l Jv Jx E)(hp:Pl C)(hJ:Jv k C.G0 C.w0)(ha:LR fr ops o=some (l,ds,d))(hE:E[k]? =some ds)(hd:b8 n (some d)=true)
  (hfd:ub frd fr)(hnd:n4 frd=frd)
  (g1:go tt n fu1.n [] ((d, .tt)::frd) [] (.ops ops r K)=⟨vc1,fr1,own1,cf1⟩)(g2:go tt n fu2.n [] ((d, .ff)::frd) [] (.ops ops r K)=⟨vc2,fr2,own2,cf2⟩)
  (k1: ∀C',Pl C'->Jv (k+1) C'.G0 C'.w0->aA prog GB C' n Q0 fr1 own1 cf1)(k2: ∀C',Pl C'->Jx C'.G0 C'.w0->aA prog GB C' n Q0 fr2 own2 cf2)
  (v1:autoParam (ak vc1) cL._auto_1)(v2:autoParam (ak vc2) cL._auto_1):
  aA prog GB C n Q0 fr own (.ops ops (o::r) K):=by
 unfold LR at ha;split at ha<;>try (cases ha;done)
 rename_i d0 fo args tys ty pos af;split at ha<;>cases ha;rename_i h1 h2;have nmd: ∀{f:aC},n4 f=f-> ∀k x,aP f k=some x->x.nm=none:=by
  have len: ∀f:aC,(n4 f).length<=f.length:=fun f=>by
   induction f with
   |nil=>exact bW _
   |cons e t ih=>obtain⟨j,x⟩:=e;cases x<;>simp only[n4,bQ]<;>omega
  intro f
  induction f with
  |nil=>intro _ k x e;cases e
  |cons e t ih=>
   obtain⟨j,y⟩:=e;intro hd k x hx;rw[jP] at hx;have:=len t;split at hx
   .cases hx
    cases y<;>first|rfl|(have:=congrArg List.length hd;simp only[n4,bQ] at this;omega)
   .refine ih ?_ k x hx
    cases y<;>first|exact(List.cons.inj hd).2|(have:=congrArg List.length hd;simp only[n4,bQ] at this;omega)
 refine⟨fun ρ G ov a w rl=>?_⟩;have hJG:Jv k G w:=(H.st k).on _ _ _ _ hJ (rl.h.pl hp);obtain⟨y,hy,hy'⟩:=rl.ev h1;rw[(aH (G:=G)).1 hy'] at hy;obtain⟨vs,h3,h4⟩:=rl.evDs h2;obtain⟨fn,tmps,assign,body,hrun,hround⟩:=H.yd k ds G w vs hE rl.gb hJG h4;rw[hp.rd];simp only[wpListIn];rw[if_pos (by rfl)];refine⟨fun _ _=>trivial,?_⟩;have hs: ∀o:Oper,Oper.semAt (FW none).round a.eval o=execOp a.eval o:=fun _=>J;rw[hs,aEN (cw a) hy h3,hrun];refine⟨fun h=>(by cases h),hround.mono fun e w' he=>?_⟩;obtain⟨G',hg,he⟩:=he;have rel: ∀(b:Bool) (f:FX),(∀ρ,bO ρ G' f (.bool b))->JI G' w'->bG GB (mp w' G') n (aP ((d,f)::frd)) (bj []) ρ G' [] (a.put (some d) (.bool b)) w':=fun b f hfb hz=>by
  have pa:=rl.putA (dst:=some d) (.bool b) hd;refine⟨rl.gb.trans hg,Hc hz,pa.sz,by rw[pa.df];exact hp.mks,fun k g e=>?_,(fun nm B e=>by cases e),(fun nm nm' B B' e=>by cases e),fun nm p _ _ e=>by cases e⟩;have e':dG (aP frd) (some d) f k=some g:=by
   rw[jP] at e;simp only[dG];split at e
   .rename_i hk;rw[if_pos hk];exact e
   .rename_i hk;rw[if_neg hk];exact e
  refine pa.fx (fun k g _ e=>?_) (hfb ρ) k g e';obtain⟨u,h5,h6⟩:=rl.fx k g (vt hfd k g e);exact⟨u,h5,h6.up hg⟩
 rcases he with⟨rfl,hj⟩|⟨rfl,hj⟩
 .exact(fB (GB:=GB) (C:=mp w' G') (Q0:=Q0) g1 v1 (k1 (mp w' G') ⟨J,J,J⟩ hj)).run ρ G' [] _ w' (rel true .tt (fun _=>J) ((H.st _).frz _ _ hj))
 .exact(fB (GB:=GB) (C:=mp w' G') (Q0:=Q0) g2 v2 (k2 (mp w' G') ⟨J,J,J⟩ hj)).run ρ G' [] _ w' (rel false .ff (fun _=>J) (H.sx.frz _ _ hj))
def Mc(GB:Gh)(n:Nat)(F:X->aC)(I:X->aE->Prop)(a:Act)(w:World):Prop:=
 ∃C x ρ G ov,Pl C/\I x C/\bG GB C n (aP (F x)) (bj []) ρ G ov a w
def VK[fu:Fu]{c:Code}(F:X->aC)(I:X->aE->Prop)(μ:X->Nat)(x0:X){cf':X->Cf}{fr':X->aC}{own':X->aG}{vc:X->List Prop}(hp:Pl C)(hI:I x0 C)
  (hgo: ∀x,go tt n fu.n [] (F x) [] (.code c (.ag (Mc GB n F (fun y C=>I y C/\μ y<μ x))::K))=⟨vc x,fr' x,own' x,cf' x⟩)
  (round: ∀x C,Pl C->I x C->aA prog GB C n Q0 (fr' x) (own' x) (cf' x))(hF:ub (F x0) fr:=by repeat (first|exact trivial|refine And.intro J ?_|refine And.intro (om J (by first|omega|(dsimp only;omega))) ?_|refine And.intro (om J (by simp)) ?_))
  (hv: ∀x C,I x C->ak (vc x):=by intros;first|exact trivial|(simp only[ak];kernel_rfl)|(simp only[ak];omega)|(simp only[ak,aX,aN,aS];omega)):aA prog GB C n Q0 fr own (.code (.loop c) K):=by
 refine⟨fun ρ G ov a w r=>?_⟩;have r0:=r.mono (bk:=bj []) (vt hF) (fun k x e=>by cases e);rw[hp.rd];intro b k cs hro hb hrm;have key: ∀m a w,(∃C x ρ G ov,Pl C/\I x C/\μ x=m/\bG GB C n (aP (F x)) (bj []) ρ G ov a w)->
   ∃e a' w',cQ none prog Q0 K e a' w'/\ArrivesIn (Machine.fenced prog (FW none)) prog (lone (b.atR a (.code c:: .inLoop c::k)) cs w) b k cs e a' w':=by
  intro m
  induction m using Nat.strongRecOn with
  |_ m ih=>
   intro a w ⟨C,x,ρ,G,ov,hpc,hx,hm,hr⟩;have h1:=fB (GB:=GB) (C:=C) (Q0:=Q0) (hgo x) (hv x C hx) (round x C hpc hx);have h2:=h1.run ρ G ov a w hr;rw[hpc.rd] at h2;obtain⟨e,a₁,w₁,hq,harr⟩:=h2 b (.inLoop c::k) cs hro hb hrm
   cases e with
   |normal=>
    obtain⟨C',x',ρ',G',ov',hpc',⟨hx',hlt⟩,hr'⟩:=hq;obtain⟨e₂,a₂,w₂,hq₂,harr₂⟩:=ih (μ x') (hm▸hlt) a₁ w₁ ⟨C',x',ρ',G',ov',hpc',hx',rfl,hr'⟩;exact⟨e₂,a₂,w₂,hq₂, .of_steps (StepsIn.trans harr (.one (fenced_calm hb hrm J) stepR_inLoop)) harr₂⟩
   |exit id=>exact⟨_,a₁,w₁,hq, .pass (x:= .inLoop c) J (fun _ _=> .inl (by simp)) harr⟩
   |goto l=>exact⟨_,a₁,w₁,hq, .pass (x:= .inLoop c) J (fun _ _=> .inl (by simp)) harr⟩
   |ret=>exact⟨_,a₁,w₁,hq, .pass (x:= .inLoop c) J (fun _ _=> .inl (by simp)) harr⟩
   |panic ch=>exact⟨_,a₁,w₁,hq, .pass (x:= .inLoop c) J (fun _ _=> .inl (by simp)) harr⟩
   |outgrown=>exact⟨_,a₁,w₁,hq, .pass (x:= .inLoop c) J (fun _ _=> .inl (by simp)) harr⟩
 obtain⟨e,a',w',q,rr⟩:=key (μ x0) a w ⟨C,x0,ρ,G,ov,hp,hI,rfl,r0⟩;exact⟨e,a',w',q, .of_steps (.one (fenced_calm hb hrm J) stepR_loop) rr⟩
def U3{F:X->aC}{I:X->aE->Prop}(x:X)(hp:Pl C)(hI:I x C)(hF:ub (F x) fr:=by repeat (first|exact trivial|refine And.intro J ?_|refine And.intro (om J (by first|omega|(dsimp only;omega))) ?_|refine And.intro (om J (by simp)) ?_)):aA P GB C n Q0 fr own (.ex .normal (.ag (Mc GB n F I)::K)):=
 ⟨fun ρ G ov a w r=>⟨C,x,ρ,G,ov,hp,hI,r.mono (vt hF) (fun k x e=>by cases e)⟩⟩
end
section
variable {own:aG}
def Yc{Φ:Act->World->Prop}{R:AH}(hfx:C.fx=fun _=>none)(h:xq x y fr own=some R)(hk:SX GB C n (aP R.fr) (bj R.own) Φ):SX GB C n (aP fr) (bj own) Φ:=by
 unfold xq at h;rw[cond_eq_ite] at h;split at h<;>try (cases h;done)
 rename_i hb;have hxy:x≠y:=fun e=>hb (by subst e;simp);rw[Im,HE] at h;cases h;refine⟨fun ρ G ov a w r=>hk.run (fun k=>if k=y then ρ x else ρ k) G ov a w ?_⟩;have inv: ∀m B,bj (own.map fun e=>(bif Nat.beq e.1 y then x else bif Nat.beq e.1 x then y else e.1,bif Nat.beq e.1 y then none else qO x y e.2)) m=some B-> ∃m0 B0,bj own m0=some B0/\qO x y (some B0)=some B/\(m=y/\m0=x\/m≠y/\m≠x/\m0=m):=fun m B e=>by
  rw[JZ hxy] at e;split at e
  .cases e
  .rename_i hm
   split at e
   .cases hl:bj own x with
    |none=>rw[hl] at e;cases e
    |some B0=>rw[hl] at e;exact⟨x,B0,hl,e, .inl ⟨by assumption,J⟩⟩
   .cases hl:bj own m with
    |none=>rw[hl] at e;cases e
    |some B0=>rw[hl] at e;exact⟨m,B0,hl,e, .inr ⟨by assumption,hm,J⟩⟩
 have rho: ∀m m0,(m=y/\m0=x\/m≠y/\m≠x/\m0=m)->(fun k=>if k=y then ρ x else ρ k) m=ρ m0:=fun m m0 h=>by
  rcases h with⟨h1,h2⟩|⟨h1,_,h2⟩
  .subst h1 h2;simp
  .subst h2;exact if_neg h1
 refine⟨r.gb,r.h,r.sz,r.df,fun k f e=>?_,fun m B e=>?_,fun m m' B B' e e' hne=>?_,fun m p _ _ e=>by rw[hfx] at e;cases e⟩
 .rw[DP] at e
  cases hf:aP fr k with
  |none=>rw[hf] at e;cases e
  |some g=>
   rw[hf] at e;cases e;obtain⟨v,h1,h2⟩:=r.fx k g hf;exact⟨v,h1,JJ hxy h2⟩
 .obtain⟨m0,B0,h1,h2,h3⟩:=inv m B e
  obtain⟨os,h4,h5⟩:=r.bx m0 B0 h1;refine⟨os,?_,h5⟩;have hr:=rho m m0 h3
  cases B0 with
  |b=>cases h2;obtain⟨vs,q1,q2,q3,q4⟩:=h4;exact⟨vs,by rw[hr];exact q1,q2,q3,q4⟩
  |c=>cases h2;obtain⟨vs,q1,q2,q3,q4,q5⟩:=h4;exact⟨vs,by rw[hr];exact q1,q2,q3,q4,by rw[hr];exact q5⟩
  |o ty cs lo=>cases h2;obtain⟨b,q,q1,q2,q3⟩:=h4;exact⟨b,q,by rw[hr];exact q1,q2,GX hxy q3⟩
 .obtain⟨m0,B0,h1,_,h3⟩:=inv m B e
  obtain⟨m1,B1,h4,_,h6⟩:=inv m' B' e';have q1:=rho m m0 h3;have q2:=rho m' m1 h6;simp only at q1 q2;rw[q1,q2];refine r.dj m0 m1 B0 B1 h1 h4 fun e=>?_;rcases h3 with⟨h7,h8⟩|⟨h7,h8,h9⟩<;>rcases h6 with⟨g7,g8⟩|⟨g7,g8,g9⟩
  .exact hne (h7.trans g7.symm)
  .exact g8 (by rw[<-g9,<-e,h8])
  .exact h8 (by rw[<-h9,e,g8])
  .exact hne (by rw[<-h9,e,g9])
def wg(x y:Nat){c:Code}(hfx:C.fx=fun _=>none)(h:xq x y fr own=some ⟨fr1,own1⟩)(k:aA P GB C n Q0 fr1 own1 (.code c K)):aA P GB C n Q0 fr own (.code c K):=Yc hfx h k
def Iu(P:Program)(fb:Func)(R:Ending->World->Prop):Exit->Act->World->Prop:=bodyPostM (FW none) 0 P fb R
structure QP (C:aE):Prop where
 mks:C.mks=[]
 rd:C.rd=none
 fx:C.fx=fun _=>none
def FK[fu:Fu]{c:Code}(hf:prog.funcs[f]? =some fb)(hb:fb.body=some c)(hn:(fb.name== "runtime.NumGoroutine")=false)(hm:fb.ntmps=m)(hlen:Nat.ble ds.length m=true)
  (hgo:go tt m fu.n [] (qb 0 ds) [] (.code c [])=⟨vc,fr,own,cf⟩)(k: ∀C:aE,QP C->aA prog GB C m (Iu prog fb (li C (fun v G'=>Is G' rv v))) fr own cf)
  (hv:autoParam (ak vc) fn._auto_1):PF GB prog f ds rv:=by
 intro G vs hg hvs;refine⟨⟨fb,hf,hn,by simp[hb]⟩,fun w hw=>?_⟩;have hlen':vs.length<=m:=by rw[hvs.len];simpa using hlen
 have h:=fB (GB:=GB) (C:=mp w G) (Q0:=Iu prog fb (li (mp w G) (fun v G'=>Is G' rv v))) hgo hv (k (mp w G) ⟨J,J,J⟩);refine(callsIn_wide (n:=0)).1 (callsIn_of_wp_marks (F:=FW none) (n:=0) hf hb trivial ?_);refine h.run (fun _=>⟨none,0,0⟩) G [] _ w ⟨hg,Hc hw,by simp;omega,J,fun k f e=>xb hvs (fun k v hk=>?_) k f e,(fun nm B e=>by cases e),(fun nm nm' B B' e=>by cases e),fun nm p _ _ e=>by cases e⟩;obtain⟨j,rfl,hj⟩:=ve vs 0 k v hk;have hj':=(aT.1 hj).1;rw[lV (by simpa using hj')];simpa using hj
def aE.mk3(C:aE)(D:Nat):aE:={C with ex:=(D, .deferred (some []))::C.ex,mks:=[{target:= .collected D,args:= #[]}]}
def Dx(hD:C.w0.heap.size<=D)(hx: ∀p∈C.ex,p.1≠D)(hr:rj tt fr own fb.results.toList=some ds)(hd:eO ds=rv)(he:Cn e=true:=by rfl):aA prog GB (C.mk3 D) n (Iu prog fb (li C (fun v G'=>Is G' rv v))) fr own (.ex e []):=by
 refine⟨fun ρ G ov a w r=>?_⟩;obtain⟨vs,h1,h2⟩:=Dd r hr;have hk:Is G rv (nv vs):=hd▸Cz h2;have hex:((D,Obj.deferred (some [])):Nat×Obj)∈(C.mk3 D).ex:=aQ;have h3:bE C ov G (w.putObj D (.deferred none)):=r.h.putx hex hD (fun _ _ _ h=>by cases h) J J J fun p hp=> .inr ⟨aJ _ hp,hx p hp⟩;have hres:=sv (C:=C) (G:=G) (own:=ov) (w:=w.putObj D (.deferred none)) h1 (cw a) h3;have key:LeavesInM (FW none) 0 prog fb a.tmps (li C (fun v G'=>Is G' rv v)) a.defers .returning w:=by
  rw[r.df];exact⟨by simp, .inl ⟨D,_,J,run_takeDeferred (r.h.ext _ hex).2,_,hres,_,G,J,h3.drop (jK _),hk⟩⟩
 cases e with
 |ret=>exact key
 |normal=>exact key
 |_=>cases he
end
section
variable {own:aG}
def bG.later{lk:LK}{bk:BM}{ρ:NE}(r:bG GB C n lk bk ρ G ov a w)(h:bE (mp w G) [] G1 w1):bG GB C n lk bk ρ G1 ov a w1:=
 ⟨r.gb.trans h.gle,r.h.called h,r.sz,r.df,fun k f e=>by obtain⟨y,h1,h2⟩:=r.fx k f e;exact⟨y,h1,h2.up h.gle⟩,fun nm B e=>by obtain⟨os,h1,h2⟩:=r.bx nm B e;exact⟨os,h1.up h.gle,h2⟩,r.dj,r.fxd⟩
def Al:List Nat->List DV->aC->aC
 |p::ps,d::ds,fr=>Al ps ds ((p, .d d)::fr)
 |_,_,fr=>fr
def M9{ρ:NE}{G:Gh}: ∀{ps:List Nat} {ds:List DV} {ys tm:List Value} {fr:aC},IsLs G ds ys->(∀p∈ps,p<tm.length)->(∀k f,aP fr k=some f-> ∃y,tm[k]? =some y/\bO ρ G f y)->
  ((ps.zip ys).foldl (fun t e=>t.set e.1 e.2) tm).length=tm.length/\ ∀k f,aP (Al ps ds fr) k=some f-> ∃y,((ps.zip ys).foldl (fun t e=>t.set e.1 e.2) tm)[k]? =some y/\bO ρ G f y
 |[],ds,ys,tm,fr,_,_,h=>⟨J,fun k f e=>h k f (by cases ds<;>exact e)⟩
 |p::ps,[],ys,tm,fr,hd,_,h=>by rw[d8.1 hd];exact⟨J,fun k f e=>h k f e⟩
 |p::ps,d::ds,ys,tm,fr,hd,hp,h=>by
  obtain⟨y,m,rfl,h1,h2⟩:=bi.1 hd;simp only[List.zip_cons_cons,kY,Al];have:=M9 (ps:=ps) (ds:=ds) (ys:=m) (tm:=tm.set p y) (fr:=(p, .d d)::fr) h2 (fun q hq=>by rw[aN];exact hp q (aJ _ hq)) fun k f e=>by
   rw[jP] at e;split at e
   .rename_i hk;subst hk;cases e
    exact⟨y,by rw[pK];rw[if_pos J,if_pos (hp k aQ)],h1⟩
   .rename_i hk
    obtain⟨u,h3,h4⟩:=h k f e;exact⟨u,by rw[pK];rw[if_neg (fun e=>hk e.symm)];exact h3,h4⟩
  rw[aN] at this;exact this
def RR: ∀(l:List (Nat×Value)) (t:Array Value),(l.foldl (fun t e=>t.setIfInBounds e.1 e.2) t).toList=l.foldl (fun t e=>t.set e.1 e.2) t.toList
 |[],t=>rfl
 |e::l,t=>by simp only[kY];rw[RR l];simp
def Ie:FX->Bool
 | .ov nm _=>Nat.ble 2000000 nm
 | .rw _=>false
 | .be .. =>false
 | .rs .. =>false
 | .bx .. =>false
 |_=>true
def CX:aC->Bool
 |[]=>true
 |(_,f)::t=>Ie f&&CX t
def Km: ∀{fr:aC},CX fr=true-> ∀k f,aP fr k=some f->Ie f=true
 |[],_,k,f,e=>by cases e
 |(j,g)::t,h,k,f,e=>by
  simp only[CX,bU] at h;rw[jP] at e;split at e
  .cases e;exact h.1
  .exact Km h.2 k f e
def R1(GB:Gh)(C:aE)(n:Nat)(fr:aC)(own:aG)(a:Act)(w:World):Prop:= ∃ρ G ov,bG GB C n (aP fr) (bj own) ρ G ov a w
def atR:aA P GB C n Q0 fr own (.ex .normal (.ag (R1 GB C n fr own)::K)):=⟨fun ρ G ov a w r=>⟨ρ,G,ov,r⟩⟩
def RQ(GB:Gh)(C:aE)(n:Nat)(p:Prop)(O:aG)(S:σ->aG)(q:σ->Prop):Exit->Act->World->Prop
 | .normal,a,w=>p/\ ∃ρ G ov,bG GB C n (fun _=>none) (bj O) ρ G ov a w
 | .ret,a,w=> ∃s,q s/\ ∃ρ G ov,bG GB C n (fun _=>none) (bj (S s)) ρ G ov a w
 |_,_,_=>False
def rq{S:σ->aG}{q:σ->Prop}(hp:p)(hO:vm O own:=by repeat (first|exact trivial|refine And.intro J ?_)):aA P GB C n (RQ GB C n p O S q) fr own (.ex .normal []):=
 ⟨fun ρ G ov a w r=>⟨hp,ρ,G,ov,r.mono (fun k x e=>by cases e) (um hO)⟩⟩
def Wd{S:σ->aG}{q:σ->Prop}(s:σ)(hq:q s)(hO:vm (S s) own:=by repeat (first|exact trivial|refine And.intro J ?_)):aA P GB C n (RQ GB C n p O S q) fr own (.ex .ret []):=
 ⟨fun ρ G ov a w r=>⟨s,hq,ρ,G,ov,r.mono (fun k x e=>by cases e) (um hO)⟩⟩
def Ii{ps:Array Nat}{assign body:Code}(I:Nat->aG)(p:Nat->Prop)(S:σ->aG)(q:σ->Prop)(fr1:aC)
  (h0:QP C)(hg:bh (aP fr) g=some (.d (.v (.func (.func gf) ⟨[]⟩ ⟨caps⟩))))(hIt:It GB P gf ds E)(hc:IsLs GB ds caps)
  (hfr:ub fr1 fr)(hfix:CX fr1=true)(hO:vm (I 0) own)(hp:p 0)(hps: ∀e∈E,e.length=ps.size)(hpn:ps.toList.all (fun k=>Nat.blt k n)=true)(hn2:Nat.ble n 2000000=true)
  (round: ∀k e GB',E[k]? =some e->bH GB GB'->p k-> ∃fr2 own2,(∀C2,aA P GB' C2 n (fun _ _ _=>False) (Al ps.toList e fr1) (I k) (.code assign [.ag (R1 GB' C2 n fr2 own2)]))/\ ∀C2,aA P GB' C2 n (RQ GB' C2 n (p (k+1)) (I (k+1)) S q) fr2 own2 (.code body []))
  (after: ∀D,C.w0.heap.size<=D->(∀x∈C.ex,x.1≠D)->p E.length->aA P GB (C.mk3 D) n Q0 fr1 (I E.length) (.ex .normal K))
  (early: ∀D s,C.w0.heap.size<=D->(∀x∈C.ex,x.1≠D)->q s->aA P GB (C.mk3 D) n Q0 fr1 (S s) (.ex .ret K)):
  aA P GB C n Q0 fr own (.code (.rangeFunc g ps assign body) K):=by
 refine⟨fun ρ0 G0 ov0 a w r=>?_⟩;rw[h0.rd];refine wpIn_rangeFunc fun fn _=>?_;obtain⟨y,hy,hy'⟩:=r.ev hg;rw[(aH (G:=G0)).1 hy'] at hy;have hev:=bw (cw a) hy
 let D:=w.heap.size
 let l:=w.heap.size+1
 let rec_:Loop:={state:= .ready,pending:=none,fn,tmps:=a.tmps,params:=ps,assign,body,defers:=D}
 let w2:=(w.alloc (.deferred (some []))).alloc (.loop rec_)
 let mk:Deferred:={target:= .collected D,args:= #[]}
 let fx1:Nat->Option Addr:=fun nm=>(ρ0 nm).a
 let C1:Loop->aE:=fun rc=>{C with ex:=(l, .loop rc)::(D, .deferred (some []))::C.ex,mks:=[mk],fx:=fx1}
 let a0:Act:={a with defers:=[mk]++a.defers}
 have hszD:C.w0.heap.size<=D:=r.h.size;have hlt: ∀x∈C.ex,x.1<D:=fun x hx=>il (r.h.ext x hx).2;have hszl:C.w0.heap.size<=l:=Nat.le_succ_of_le hszD;have hnl: ∀x∈((D,Obj.deferred (some []))::C.ex:List (Nat×Obj)),x.1≠l:=fun x hx=>by
  rcases aK.1 hx with rfl|hx
  .show D≠D+1;omega
  .have:=hlt x hx;show x.1≠D+1;omega
 have ncl: ∀rc:Loop,Jf (.loop rc):=fun rc _ _ _ h=>by cases h
 -- the slots of the loop, at any time
 have stat: ∀(ρ':NE) (G':Gh),bH G0 G'->(∀nm p,n<=nm->2000000<=nm->fx1 nm=some p->(ρ' nm).a=some p)-> ∀k f,aP fr1 k=some f-> ∃y,a.tmps[k]? =some y/\bO ρ' G' f y:=by
  intro ρ' G' hg' hf k f e;obtain⟨y,h1,h2⟩:=r.fx k f (vt hfr k f e);refine⟨y,h1,?_⟩;have hx:=Km hfix k f e
  cases f with
  |ov nm off=>
   obtain⟨b,h3,h4⟩:=h2;have h5:2000000<=nm:=by simpa[Ie] using hx
   have h6:n<=2000000:=by simpa using hn2
   exact⟨b,hf nm _ (by omega) h5 h3,h4⟩
  |rw _=>cases hx
  |be _ _ _ _=>cases hx
  |rs _ _ _ _=>cases hx
  |bx _ _ _ _=>cases hx
  |_=>exact(h2.up hg').ren fun _ h=>by cases h
 let Jv:Nat->Gh->World->Prop:=fun k G' w'=>p k/\ ∃ρ ov,bG G0 (C1 rec_) n (aP fr1) (bj (I k)) ρ G' ov a0 w'
 let rcx:Loop:={rec_ with state:= .done,pending:=some .ret}
 let Jx:Gh->World->Prop:=fun G' w'=> ∃s,q s/\ ∃ρ ov,bG G0 (C1 rcx) n (aP fr1) (bj (S s)) ρ G' ov a0 w'
 have hsz0:a0.tmps.size=n:=r.sz;have hdf0:a0.defers=[mk]:=by show [mk]++a.defers=_;rw[r.df,h0.mks];rfl
 have H:An G0 P l Jv Jx E:=by
  refine⟨fun k=>⟨fun G' w' ⟨_,ρ,ov,h⟩=>h.h.sub,fun G' w' G1 w1 ⟨h1,ρ,ov,h⟩ k=>⟨h1,ρ,ov,h.later k⟩⟩,⟨fun G' w' ⟨_,_,ρ,ov,h⟩=>h.h.sub,fun G' w' G1 w1 ⟨s,h1,ρ,ov,h⟩ k=>⟨s,h1,ρ,ov,h.later k⟩⟩,?_⟩;intro k e G' w' ys hE hgg ⟨hpk,ρ,ov,r1⟩ hys;have hrec:w'.heap[l]? =some (.loop rec_):=(r1.h.ext _ aQ).2;have hel:=hps e (aV hE);obtain⟨fr2,own2,hA,hB⟩:=round k e G' hE (r.gb.trans hgg) hpk;refine⟨_,_,_,_,run_yield hrec (by show ys.length=ps.size;rw[hys.len,hel]),roundIn_of_wpIn trivial ?_⟩
  let C2:aE:={C1 rec_ with mks:=[],rd:=some l}
  let tm:Array Value:=(ps.zip (⟨ys⟩:Array Value)).foldl (fun tmps (t,a)=>tmps.setIfInBounds t a) a.tmps
  have htm:tm.toList=(ps.toList.zip ys).foldl (fun t e=>t.set e.1 e.2) a.tmps.toList:=by
   simp only[tm];rw[<-qM,Array.toList_zip];exact RR _ _
  have hfx0:=r1.fx;obtain⟨q1,q2⟩:=M9 (ρ:=ρ) (ps:=ps.toList) (tm:=a.tmps.toList) (fr:=fr1) hys (fun k hk=>by have:=dJ.1 hpn k hk;rw[kL,r.sz];simpa[kS] using this) fun k f e=>by
   obtain⟨y,h1,h2⟩:=hfx0 k f e;exact⟨y,by simpa using h1,h2⟩
  have hR0:bG G' C2 n (aP (Al ps.toList e fr1)) (bj (I k)) ρ G' ov {tmps:=tm,defers:=[]} w':=by
   refine⟨bH.refl _,r1.h.ctx J J J (fun _ h=>h),?_,J,fun k f e=>?_,r1.bx,r1.dj,r1.fxd⟩
   .show tm.size=n
    rw[<-kL,htm,q1,kL,r.sz]
   .obtain⟨y,h1,h2⟩:=q2 k f e
    exact⟨y,by rw[<-htm] at h1;simpa using h1,h2⟩
  refine wpIn_mono ((hA C2).run ρ G' ov _ w' hR0) fun ex a1 w1 hex=>?_
  cases ex with
  |normal=>
   obtain⟨ρ2,G2,ov2,r2⟩:=hex;have hrec1:w1.heap[l]? =some (.loop rec_):=(r2.h.ext _ aQ).2;refine⟨_,run_beginRound hrec1 J,?_⟩
   let busy:Loop:={rec_ with state:= .busy}
   let C3:aE:={C1 busy with mks:=[],rd:=some l}
   have h3:bE C3 ov2 G2 (w1.putObj l (.loop busy)):=r2.h.putx aQ hszl (ncl _) J J J fun x hx=>by
    rcases aK.1 hx with rfl|hx
    .exact .inl J
    .exact .inr ⟨aJ _ hx,hnl x hx⟩
   refine wpIn_mono ((hB C3).run ρ2 G2 ov2 a1 (w1.putObj l (.loop busy)) ⟨r2.gb,h3,r2.sz,r2.df,r2.fx,r2.bx,r2.dj,r2.fxd⟩) fun ex a2 w3 hex=>?_
   cases ex with
   |normal=>
    obtain⟨hp1,ρ3,G3,ov3,r3⟩:=hex;have hrec3:w3.heap[l]? =some (.loop busy):=(r3.h.ext _ aQ).2;refine⟨_,_,run_endRound none hrec3,G3,r3.gb, .inl ⟨J,hp1,ρ3,ov3,hgg.trans r3.gb,?_,hsz0,hdf0,stat ρ3 G3 (hgg.trans r3.gb) r3.fxd,r3.bx,r3.dj,r3.fxd⟩⟩;exact r3.h.putx aQ hszl (ncl _) J J J fun x hx=>by
     rcases aK.1 hx with rfl|hx
     .exact .inl J
     .exact .inr ⟨aJ _ hx,hnl x hx⟩
   |ret=>
    obtain⟨s,hq,ρ3,G3,ov3,r3⟩:=hex;have hrec3:w3.heap[l]? =some (.loop busy):=(r3.h.ext _ aQ).2;refine⟨_,_,run_endRound (some .ret) hrec3,G3,r3.gb, .inr ⟨J,s,hq,ρ3,ov3,hgg.trans r3.gb,?_,hsz0,hdf0,stat ρ3 G3 (hgg.trans r3.gb) r3.fxd,r3.bx,r3.dj,r3.fxd⟩⟩;exact r3.h.putx aQ hszl (ncl _) J J J fun x hx=>by
     rcases aK.1 hx with rfl|hx
     .exact .inl J
     .exact .inr ⟨aJ _ hx,hnl x hx⟩
   |exit id=>exact hex.elim
   |goto t=>exact hex.elim
   |panic ch=>exact hex.elim
   |outgrown=>exact hex.elim
  |exit id=>exact hex.elim
  |goto t=>exact hex.elim
  |ret=>exact hex.elim
  |panic ch=>exact hex.elim
  |outgrown=>exact hex.elim
 have hC1:bE (C1 rec_) ov0 G0 w2:=by
  have h1:bE {C with ex:=(D, .deferred (some []))::C.ex} ov0 G0 (w.alloc (.deferred (some []))):=r.h.addx (fun _ _ _ h=>by cases h) J J J fun x hx=>aK.1 hx;refine h1.addx (ncl rec_) J J J fun x hx=>?_;rcases aK.1 hx with rfl|hx
  .exact .inl (by show((l,Obj.loop rec_):Nat×Obj)=_;rw[show(w.alloc (.deferred (some []))).heap.size=w.heap.size+1 by simp])
  .exact .inr hx
 have hJ0:Jv 0 G0 w2:=⟨hp,ρ0,ov0,bH.refl _,hC1,hsz0,hdf0,stat ρ0 G0 (bH.refl _) (fun _ _ _ _ h=>h),fun nm B e=>r.bx nm B (um hO nm B e),fun nm nm' B B' e e'=>r.dj nm nm' B B' (um hO nm B e) (um hO nm' B' e'),fun _ _ _ _ h=>h⟩;refine⟨l,[mk],w2,{target:= .fn (.func gf) ⟨caps⟩,args:= #[.func (.yield l) #[] #[]]},w2,gf, #[.func (.yield l) #[] #[]]++⟨caps⟩,w2,run_enterLoop_outer fn a.tmps ps assign body,?_,fun _ _=>trivial,?_,fun h=>(by cases h),?_⟩
 .have he:(⟨[]⟩:Array Value)++Array.map a.eval #[.const (.func (.yield l) #[] #[])]= #[.func (.yield l) #[] #[]]:=by
   apply Array.ext';rw[Array.toList_append,pW];rfl
  simp only[resolve,hev,Deferred.ofValue];rw[he];rfl
 .simp only[invoke]
  exact FJ hIt.able _ _
 refine CallsIn.mono (show CallsIn (FW none) 0 P gf _ w2 _ from by
  have:=hIt.run l Jv Jx G0 r.gb H w2 caps hJ0 (hc.up r.gb);rw[show(#[Value.func (.yield l) #[] #[]]++(⟨caps⟩:Array Value))=⟨.func (.yield l) #[] #[]::caps⟩ by simp];exact this) fun e w3 he=>?_
 obtain⟨G',hgg,⟨v,rfl⟩,hj⟩:=he;have fin: ∀(rc:Loop) (O:aG) (ρ:NE) (ov:List av),bG G0 (C1 rc) n (aP fr1) (bj O) ρ G' ov a0 w3->bG GB (C.mk3 D) n (aP fr1) (bj O) ρ G' ov a0 (w3.putObj l (.loop {rc with state:= .exhausted})):=fun rc O ρ ov r3=>
  ⟨r.gb.trans r3.gb,r3.h.putx aQ hszl (ncl _) J J J fun x hx=> .inr ⟨aJ _ hx,hnl x hx⟩,r3.sz,r3.df,r3.fx,r3.bx,r3.dj,fun nm p _ _ e=>by rw[show(C.mk3 D).fx=fun _=>none from h0.fx] at e;cases e⟩
 have hxD: ∀x∈C.ex,x.1≠D:=fun x hx e=>by have:=hlt x hx;omega
 rcases hj with⟨hpn,ρ,ov,r3⟩|⟨s,hq,ρ,ov,r3⟩
 .have hrec3:w3.heap[l]? =some (.loop rec_):=(r3.h.ext _ aQ).2
  have:=(after D hszD hxD hpn).run ρ G' ov a0 _ (fin rec_ _ ρ ov r3);rw[show(C.mk3 D).rd=none from h0.rd] at this;exact⟨_,_,run_endLoop hrec3 (by simp[rec_]),this⟩
 .have hrec3:w3.heap[l]? =some (.loop rcx):=(r3.h.ext _ aQ).2
  have:=(early D s hszD hxD hq).run ρ G' ov a0 _ (fin rcx _ ρ ov r3);rw[show(C.mk3 D).rd=none from h0.rd] at this;exact⟨_,_,run_endLoop hrec3 (by simp[rcx]),wpIn_ret this⟩
end
section
variable {own:aG}
def FP(GB:Gh)(P:Program)(f:FuncId)(ds:List DV)(gf:FuncId)(dp:DV):Prop:=
 ∀G vs,bH GB G->IsLs G ds vs->Fn P f vs G fun v G'=> ∃pv,v= .func (.func gf) ⟨[]⟩ ⟨[pv]⟩/\Is G' dp pv
def Dc(gf:FuncId)(dp:DV)(v:Value)(G':Gh):Prop:= ∃pv,v= .func (.func gf) ⟨[]⟩ ⟨[pv]⟩/\Is G' dp pv
def UK[fu:Fu]{c:Code}(hf:prog.funcs[f]? =some fb)(hb:fb.body=some c)(hn:(fb.name== "runtime.NumGoroutine")=false)(hm:fb.ntmps=m)(hlen:Nat.ble ds.length m=true)
  (hgo:go tt m fu.n [] (qb 0 ds) [] (.code c [])=⟨vc,fr,own,cf⟩)(k: ∀C:aE,aA prog GB C m (eH C prog fb (li C (Dc gf dp))) fr own cf)
  (hv:autoParam (ak vc) cL._auto_1):FP GB prog f ds gf dp:=by
 intro G vs hg hvs;refine Fn.introR hf hb hn hm (by rw[hvs.len];exact hlen) fun C _ _ hrd hfx=>?_;intro a w rl;refine uN hrd ?_;have h:=fB (GB:=GB) (C:=C) (Q0:=eH C prog fb (li C (Dc gf dp))) hgo hv (k C);exact h.run (fun _=>⟨none,0,0⟩) G [] a w ⟨hg,rl.h,rl.sz,rl.df,(fun k f e=>xb hvs rl.fr k f e),(fun nm B e=>by cases e),(fun nm nm' B B' e=>by cases e),fun nm p _ _ e=>by rw[hfx] at e;cases e⟩
def UW{t:Nat}(hr:fb.results.toList=[.tmp t])(hl:aP fr t=some (.d (.v (.func (.func gf) ⟨[]⟩ ⟨[pv]⟩))))(hp:Is GB dp pv):aA P GB C n (eH C P fb (li C (Dc gf dp))) fr own (.ex .ret []):=by
 refine⟨fun ρ G ov a w r=>?_⟩;obtain⟨y,hy,hy'⟩:=r.ev (x:= .tmp t) hl;rw[(aH (G:=G)).1 hy'] at hy;exact zD (C:=C) (n:=n) (fr:=ck a) (own:=ov) (G:=G) (K:=Dc gf dp) (by rw[hr];exact .tmp hy .nil) ⟨pv,J,hp.up r.gb⟩ a w ⟨r.h,r.sz,cw a,r.df⟩
def KM(fr:aC)(cf:Cf):Option (FuncId×Value):=match cE fr cf with
 |some ⟨_, .makeFunc (.func f) ⟨[]⟩ ⟨[x]⟩,_,_,_,_⟩=>match bh (b7 fr cf) x with
  |some (.d (.v pv))=>some (f,pv)
  |_=>none
 |_=>none
def Ve[fu:Fu](h:KM fr cf=some (f,pv))(hgo:cx tt n fu.n fr own cf (.d (.v (.func (.func f) ⟨[]⟩ ⟨[pv]⟩))) [] []=⟨vc,fr',own',cf'⟩)(k:aA prog GB C n Q0 fr' own' cf')
  (hv:autoParam (ak vc) cL._auto_1):aA prog GB C n Q0 fr own cf:=by
 unfold KM at h;split at h<;>try (cases h;done)
 rename_i hh;split at h<;>cases h;rename_i hx;exact us hh (.x1 hx fun ρ G ov a w y _ r h1 h2=>by
  rw[(aH (G:=G)).1 h2] at h1;exact⟨_,(aH (G:=G)).2 J,F' (l1:=[]) (l2:=[pv]) J (by simp[h1])⟩) hgo hv k
def Hb[fu:Fu]{fr':Value->aC}{own':Value->aG}{cf':Value->Cf}{vc:Value->List Prop}(ha:w7 fr (.ops ops (o::r) K)=some (f,ds))(hdst:o.dst=some d)(hd:b8 n (some d)=true)(hF:FP GB prog f ds gf dp)
  (hgo: ∀pv,go tt n fu.n [] ((d, .d (.v (.func (.func gf) ⟨[]⟩ ⟨[pv]⟩)))::fr) own (.ops ops r K)=⟨vc pv,fr' pv,own' pv,cf' pv⟩)
  (k: ∀GB' pv,bH GB GB'->Is GB' dp pv->aA prog GB' C n Q0 (fr' pv) (own' pv) (cf' pv))
  (hv: ∀pv,ak (vc pv):=by intros;first|exact trivial|(simp only[ak];kernel_rfl)|(simp only[ak];omega)):aA prog GB C n Q0 fr own (.ops ops (o::r) K):=by
 unfold w7 at ha;split at ha<;>try (cases ha;done)
 rename_i fo args tys ty pos af gd hh;obtain⟨ops0,h1,h2⟩:=Gb hh
 cases h1
 cases hdst
 obtain⟨c1,c2⟩:=Dv ha;refine⟨fun ρ G ov a w rl=>?_⟩;obtain⟨y,hy,hy'⟩:=rl.ev c1;rw[(aH (G:=G)).1 hy'] at hy;obtain⟨vs,h3,h4⟩:=rl.evDs c2;simp only[wpListIn];rw[if_pos (EV h2 ρ G ov a w rl)];refine HX (K':=fun a' w'=>a'.defers=C.mks/\wpListIn (FW C.rd) 0 prog ops (cQ C.rd prog Q0 K) r a' w') (fun Q=>?_) (fun a' w' q=>⟨q.1.trans rl.df.symm,q.2⟩);refine zC hy h3 (hF G vs rl.gb h4) hd (fun v G' hG hK a' w' rel=>?_) a w Q ⟨rl.h,rl.sz,cw a,rl.df⟩;obtain⟨pv,rfl,hpv⟩:=hK;refine⟨rel.df,?_⟩;have:=fB (GB:=G') (C:=C) (Q0:=Q0) (hgo pv) (hv pv) (k G' pv (rl.gb.trans hG.le) hpv);refine this.run ρ G' ov a' w' ⟨bH.refl _,rel.h,rel.sz,rel.df,fun j g e=>?_,fun nm B e=>by obtain⟨os,h5,h6⟩:=rl.bx nm B e;exact⟨os,h5.up hG.le,h6⟩,rl.dj,rl.fxd⟩;have e':dG (aP fr) (some d) (.d (.v (.func (.func gf) ⟨[]⟩ ⟨[pv]⟩))) j=some g:=by
  rw[jP] at e;simp only[dG];split at e
  .rename_i hk;rw[if_pos hk];exact e
  .rename_i hk;rw[if_neg hk];exact e
 exact(jk rel).fx (fun k g _ e=>by obtain⟨u,h5,h6⟩:=rl.fx k g e;exact⟨u,h5,h6.up hG.le⟩) (show bO ρ G' (.d (.v (.func (.func gf) ⟨[]⟩ ⟨[pv]⟩))) _ from(aH (G:=G')).2 rfl) j g e'
end
section
variable {own:aG}
def Nd{p q:Nat->Option (Nat×Nat)}(h: ∀i x,p i=some x->q i=some x): ∀(ps:List (Nat×Value)) (cs out:Array Value),Instr.fill p cs ps=some out->Instr.fill q cs ps=some out
 |[],cs,out,e=>e
 |(i,v)::ps,cs,out,e=>by
  simp only[Instr.fill] at e⊢;split at e
  .cases e
  .rename_i off size hp
   rw[h i _ hp];dsimp only;split at e
   .cases e
   .rename_i hc
    rw[if_neg hc];exact Nd h ps _ _ e
def Vv{fr:Fr}{own:List av}{t e s:Nat}{j:TypeInfo}{parts:Array (Nat×Operand)}{gd:Option (Nat×Bool)}[hz:gc P t z](hu:P.underlying t=some (.array len e))(hj:P.info? e=some j)(hs:j.size=s)
  (hb:tz fr ((List.range len).map fun i=>(i*s,s)) (aF z) parts.toList=some out):Yd P C fr own G ⟨dst, .build t parts,ty',pos,af,gd⟩ (.agg ⟨out⟩):=by
 intro a w hf hh;simp only[execOp];have:(Instr.build t (parts.map fun(i,x)=>(i,a.eval x))).run P w= .ok (.agg ⟨out⟩) w:=by
  unfold Instr.build;rw[aO (hz.zero w),oD];rw[aO (pj hu w)];simp only[];rw[aO (ul hj w),hs];have:=Nd (q:=fun i=>some (i*s,s)) (fun i x hx=>by
   have hx':((List.range len).map fun i=>(i*s,s))[i]? =some x:=by simpa using hx
   rw[cY] at hx'
   cases hr:(List.range len)[i]? with
   |none=>rw[hr] at hx';cases hx'
   |some y=>
    rw[hr] at hx';cases hx';obtain⟨h1,h2⟩:=aT.1 hr;rw[List.getElem_range] at h2;rw[h2]) _ _ _ (FY hf ((List.range len).map fun i=>(i*s,s)) parts.toList _ _ hb)
  simp only[pW,this];rfl
 exact cD this
def D3:Nat->Nat->Nat->List (Nat×Nat×Nat)
 |_,0,_=>[]
 |i,k+1,s=>(i*s,0,s)::D3 (i+1) k s
def P6: ∀(i k s:Nat),(D3 i k s).map (fun x=>(x.1,x.2.2))=(List.range' i k).map fun j=>(j*s,s)
 |_,0,_=>rfl
 |i,k+1,s=>by simp only[D3,bY,List.range',P6 (i+1) k s]
def On(fr:aC)(cf:Cf)(len s:Nat):Option (TypeId×FX):=match cE fr cf with
 |some ⟨_, .build t parts,_,_,_,_⟩=>match dE tt t with
  |some ⟨.o,_,some zx,_⟩=>match so (b7 fr cf) (D3 0 len s) zx parts.toList with
   |some cs=>match wh cs with
    |some f=>some (t,f)
    |none=>none
   |none=>none
  |_=>none
 |_=>none
def Y3[fu:Fu]{t e s:Nat}{f:FX}(h:On fr cf len s=some (t,f))(hu:prog.underlying t=some (.array len e))(hs:(prog.info? e).map (·.size)=some s)
  (hgo:cx tt n fu.n fr own cf f [] []=⟨vc,fr',own',cf'⟩)(k:aA prog GB C n Q0 fr' own' cf')
  (hv:autoParam (ak vc) cL._auto_1):aA prog GB C n Q0 fr own cf:=by
 unfold On at h;split at h<;>try (cases h;done)
 rename_i hh;split at h<;>try (cases h;done)
 rename_i hT;split at h<;>try (cases h;done)
 rename_i hb;split at h<;>cases h;rename_i hf;refine us hh (.yd fun ρ G ov a w r=>?_) hgo hv k
 cases hj:prog.info? e with
 |none=>rw[hj] at hs;cases hs
 |some j=>
 rw[hj] at hs;obtain⟨v,hv,hv'⟩:=AI (eh _ _ hT) rfl;obtain⟨l,h1,h2⟩:=EY r _ _ _ _ hb (hv' ρ G);rw[P6,<-List.range_eq_range'] at h1;exact⟨.agg ⟨l⟩,GP h2 hf,Vv hu hj (Option.some.inj hs) h1⟩
end
end Go.Sx
end
