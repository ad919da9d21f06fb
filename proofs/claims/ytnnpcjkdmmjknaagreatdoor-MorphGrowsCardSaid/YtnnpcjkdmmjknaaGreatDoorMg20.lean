import Derived.Test.YtnnpcjkdmmjknaaGreatDoorMg19
set_option linter.all false
set_option maxRecDepth 100000
section
namespace Go.Sx
open Go Go.Proofs
variable {a b m low a' b' c' d:Rat}{x y fill op X Y:Int}{D k A B j:Nat}{c:ar}{V:List ah}{n u p q:ah}{l m0:aa}{s:bz}{rs:List (List ZP)}{P:aa->Prop}{L K:List aa}{t:Tr}
def NS(a:Rat):a*(a.den:Rat)=(a.num:Rat):=by
 have h:(a.num:Rat)/((a.den:Nat):Rat)=a:=by rw[<-nK];exact sV a
 have h0:((a.den:Nat):Rat)≠0:=by
  intro k;have:a.den=0:=by exact_mod_cast k
  exact a.den_nz this
 generalize (a.num:Rat)=n at*;generalize ((a.den:Nat):Rat)=d at*;rw[<-h];grind
def Ga(hD:0<D)(h:a*((D:Int):Rat)=(x:Rat)):a.num*(D:Int)=x*(a.den:Int):=by
 have e:((a.den:Int):Rat)*a=(a.num:Rat):=by
  have:=NS a;rw[Rat.mul_comm];exact this
 have k:(a.num:Rat)*((D:Int):Rat)=(x:Rat)*((a.den:Int):Rat):=by rw[<-e,<-h];grind
 exact_mod_cast k
def My(hD:0<D)(ha:a*((D:Int):Rat)=(x:Rat))(hb:b*((D:Int):Rat)=(y:Rat)):rgcd a b*((D:Int):Rat)=(((Nat.gcd x.natAbs y.natAbs:Nat):Int):Rat):=by
 have h1:=Ga hD ha;have h2:=Ga hD hb;have n1:a.num.natAbs*D=x.natAbs*a.den:=by
  have:=congrArg Int.natAbs h1;rwa [fR,fR,fU,fU] at this
 have n2:b.num.natAbs*D=y.natAbs*b.den:=by
  have:=congrArg Int.natAbs h2;rwa [fR,fR,fU,fU] at this
 have hg:Nat.gcd (a.num.natAbs*b.den) (b.num.natAbs*a.den)*D=Nat.gcd x.natAbs y.natAbs*(a.den*b.den):=by
  rw[<-Nat.gcd_mul_right,<-Nat.gcd_mul_right];congr 1
  .rw[nV,n1,cJ]
  .rw[nV,n2,cJ,cK b.den a.den]
 unfold rgcd;generalize Nat.gcd (a.num.natAbs*b.den) (b.num.natAbs*a.den)=G at*;generalize Nat.gcd x.natAbs y.natAbs=g at*;have hpos:0<a.den*b.den:=jW a.den_pos b.den_pos;have hq:((G:Int):Rat)*((D:Int):Rat)=((g:Int):Rat)*(((a.den*b.den:Nat):Int):Rat):=by exact_mod_cast hg
 generalize a.den*b.den=E at*;have h0:((E:Int):Rat)≠0:=fun k=>by
  have:(E:Int)=0:=by exact_mod_cast k
  omega
 have hm:mkRat ((G:Nat):Int) E*((E:Int):Rat)=((G:Int):Rat):=by
  have hz:((E:Nat):Rat)≠0:=h0;show mkRat ((G:Nat):Int) E*((E:Nat):Rat)=_;rw[nK];generalize ((E:Nat):Rat)=z at*;generalize ((G:Int):Rat)=y at*;grind
 generalize mkRat ((G:Nat):Int) E=r at*;rw[<-hm] at hq;generalize ((E:Int):Rat)=e at*;generalize ((D:Int):Rat)=d at*;have:e*(r*d-((g:Int):Rat))=0:=by grind
 have:=(fW.1 this).resolve_left h0;grind
def nn(a b c:Rat):Nat:=a.den*(b.den*c.den)
def d7(a b c:Rat):aa:=py (a.num*(b.den*c.den:Nat)) (b.num*(a.den*c.den:Nat)) (c.num*(a.den*b.den:Nat))
def So(a b c:Rat):0<nn a b c:=jW a.den_pos (jW b.den_pos c.den_pos)
def Jd(a:Rat)(k:Nat):a*(((a.den*k:Nat):Int):Rat)=((a.num*(k:Nat):Int):Rat):=by
 have e:=NS a;have:(((a.den*k:Nat):Int):Rat)=(a.den:Rat)*((k:Int):Rat):=by push_cast;rfl
 rw[this,cW,<-Rat.mul_assoc,e]
def Qt(a b c:Rat):a*((nn a b c:Int):Rat)=((a.num*(b.den*c.den:Nat):Int):Rat)/\b*((nn a b c:Int):Rat)=((b.num*(a.den*c.den:Nat):Int):Rat)/\c*((nn a b c:Int):Rat)=((c.num*(a.den*b.den:Nat):Int):Rat):=by
 refine⟨Jd a _,?_,?_⟩
 .rw[show nn a b c=b.den*(a.den*c.den) by unfold nn;rw[kM]];exact Jd b _
 .rw[show nn a b c=c.den*(a.den*b.den) by unfold nn;rw[<-cJ,cK]];exact Jd c _
def JI{c:Rat}(h: ¬(a=0/\b=0)): ¬(a.num*(b.den*c.den:Nat)=0/\b.num*(a.den*c.den:Nat)=0):=fun⟨h1,h2⟩=>by
 refine h ⟨?_,?_⟩
 .rcases pR.1 h1 with k|k
  .exact mQ.1 k
  .have:=jW b.den_pos c.den_pos;omega
 .rcases pR.1 h2 with k|k
  .exact mQ.1 k
  .have:=jW a.den_pos c.den_pos;omega
def AF{c:Rat}(h: ¬(a=0/\b=0)): ∃g:Rat,0<g/\(∀p:ah,(d7 a b c).value p=g*(a*p.x+b*p.y+c)):=by
 obtain⟨g,g0,e1,e2,e3⟩:=YZ (c:=c.num*(a.den*b.den:Nat)) (JI (c:=c) h);obtain⟨k1,k2,k3⟩:=Qt a b c;have hD:(0:Rat)<((nn a b c:Int):Rat):=by
  have:=So a b c;exact_mod_cast (show(0:Int)<(nn a b c:Int) by omega)
 have hg:(0:Rat)<(g:Rat):=by exact_mod_cast g0
 have f1:(g:Rat)*((d7 a b c).a:Rat)=a*((nn a b c:Int):Rat):=by rw[k1,<-e1];unfold d7;push_cast;rfl
 have f2:(g:Rat)*((d7 a b c).b:Rat)=b*((nn a b c:Int):Rat):=by rw[k2,<-e2];unfold d7;push_cast;rfl
 have f3:(g:Rat)*((d7 a b c).c:Rat)=c*((nn a b c:Int):Rat):=by rw[k3,<-e3];unfold d7;push_cast;rfl
 refine⟨((nn a b c:Int):Rat)/(g:Rat),div_pos hD hg,fun p=>?_⟩;unfold aa.value aa.nor ah.dot;dsimp only;generalize ((d7 a b c).a:Rat)=A at*;generalize ((d7 a b c).b:Rat)=B at*;generalize ((d7 a b c).c:Rat)=C at*;generalize ((nn a b c:Int):Rat)=D at*;generalize (g:Rat)=g at*;have hq:D/g*g=D:=by grind
 generalize D/g=q at*;subst hq;have:g*(A*p.x+B*p.y+C-q*(a*p.x+b*p.y+c))=0:=by grind
 have:=(fW.1 this).resolve_left (by grind);grind
def Ef{c:Rat}(h: ¬(a=0/\b=0)):(d7 a b c).ok:=I2 (JI h)
def ah.subQ(p q:ah):ah:=⟨p.x-q.x,p.y-q.y⟩
def bE(f:ah×ah):ah:=⟨-(f.2.y-f.1.y),f.2.x-f.1.x⟩
def Kx(f:ah×ah)(u:ah):bu f.1 f.2 u=(bE f).dot u-(bE f).dot f.1:=by unfold bu bE ah.dot;dsimp only;grind
structure gO (V:List ah) (E:List (ah×ah)):Prop where
 ends: ∀f∈E,f.1∈V/\f.2∈V
 cvx: ∀f∈E,∀v∈V,0<=bu f.1 f.2 v
 cen: ∃u,∀f∈E,0<bu f.1 f.2 u
 hull: ∀n u:ah,(∀f∈E,0<=bu f.1 f.2 u)-> ∃v∈V,n.dot v<=n.dot u
def Fl(n p q:ah):n.dot (p.subQ q)=n.dot p-n.dot q:=by unfold ah.dot ah.subQ;dsimp only;grind
def DH(l:aa)(p:ah):l.value p=l.nor.dot p+l.c:=rfl
def az7{E:List (ah×ah)}(hB:gO V E)(h: ∀u,(∀f∈E,0<bu f.1 f.2 u)->m<=n.dot u): ∀v∈V,m<=n.dot v:=fun v hv=>by
 obtain⟨u,hu⟩:=hB.cen;apply Classical.byContradiction;intro k
 -- a point near to v
 have hk:n.dot v<m:=by grind
 have h0:=h u hu;have key: ∀t:Rat,0<t->t<=1->m<=n.dot v+t*(n.dot u-n.dot v):=fun t t0 t1=>by
  rw[<-Gw];refine h _ fun f hf=>?_;rw[aFC];have a:=hB.cvx f hf v hv;have b:=dh t0 (hu f hf);have c:=cG (show 0<=1-t by grind) a;grind
 generalize n.dot v=a at*;generalize n.dot u=b at*;have hd:0<b-a:=by grind
 have e:(m-a)/(2*(b-a))*(2*(b-a))=m-a:=by grind
 have q:=key ((m-a)/(2*(b-a))) (div_pos (by grind) (by grind)) ?_
 .generalize (m-a)/(2*(b-a))=t at*
  grind
 .generalize (m-a)/(2*(b-a))=t at*
  apply Classical.byContradiction;intro q;have:=dh (show 0<t-1 by grind) (show 0<2*(b-a) by grind);grind
def Um(hc:bD c)(h: ∀q,bt c q->m<=n.dot q): ∀q,iA c q->m<=n.dot q:=fun v hv=>by
 obtain⟨u,hu⟩:=hc.ne;apply Classical.byContradiction;intro k;have hk:n.dot v<m:=by grind
 have h0:=h u hu;have key: ∀t:Rat,0<t->t<=1->m<=n.dot v+t*(n.dot u-n.dot v):=fun t t0 t1=>by
  rw[<-Gw];refine h _ fun s hs=>?_;rw[l9];have a:=hv s hs;have b:=dh t0 (hu s hs);have c:=cG (show 0<=1-t by grind) a;grind
 generalize n.dot v=a at*;generalize n.dot u=b at*;have hd:0<b-a:=by grind
 have e:(m-a)/(2*(b-a))*(2*(b-a))=m-a:=by grind
 have q:=key ((m-a)/(2*(b-a))) (div_pos (by grind) (by grind)) ?_
 .generalize (m-a)/(2*(b-a))=t at*
  grind
 .generalize (m-a)/(2*(b-a))=t at*
  apply Classical.byContradiction;intro q;have:=dh (show 0<t-1 by grind) (show 0<2*(b-a) by grind);grind
def wQ(f:ah×ah)(p:ah):aa:=d7 (-(bE f).x) (-(bE f).y) ((bE f).dot p-(bE f).dot f.1)
def Oj{f:ah×ah}(h:0<bu f.1 f.2 u): ¬((bE f).x=0/\(bE f).y=0):=fun⟨h1,h2⟩=>by
 have e:bu f.1 f.2 u=(bE f).y*(u.y-f.1.y)+(bE f).x*(u.x-f.1.x):=by unfold bu bE;dsimp only;grind
 rw[e,h1,h2] at h;grind
def Fa{f:ah×ah}(h:0<bu f.1 f.2 u)(p q:ah):0<(wQ f p).value q↔0<bu f.1 f.2 (p.subQ q):=by
 have hz:=Oj h;obtain⟨g,g0,hg⟩:=AF (a:= -(bE f).x) (b:= -(bE f).y) (c:=(bE f).dot p-(bE f).dot f.1) (fun⟨h1,h2⟩=>hz ⟨by grind,by grind⟩);unfold wQ;rw[hg,Ce g0,Kx,Fl];have e: -(bE f).x*q.x+ -(bE f).y*q.y+((bE f).dot p-(bE f).dot f.1)=(bE f).dot p-(bE f).dot q-(bE f).dot f.1:=by unfold ah.dot;grind
 rw[e]
def TA{E:List (ah×ah)}(hB:gO V E)(hc:bD c)(h1: ∀s∈c,∃v∈V,(∀w∈V,s.l.nor.dot v<=s.l.nor.dot w)/\0<s.l.value p-s.l.nor.dot v)
  (h2: ∀f∈E,(∃M,∀q,iA c q->M<=(bE f).dot q)-> ∃q,iA c q/\0<(bE f).dot p-(bE f).dot q-(bE f).dot f.1): ∃q,bt c q/\ ∀f∈E,0<bu f.1 f.2 (p.subQ q):=by
 obtain⟨u0,hu0⟩:=hB.cen;obtain⟨q0,hq0⟩:=hc.ne;obtain⟨q,hq⟩:=Mo _ ((c.map fun s=>s.l)++E.map fun f=>wQ f p) rfl (by
  have cc: ∀l∈c.map (fun s:bz=>s.l),0<l.value q0:=fun l hl=>by obtain⟨s,hs,rfl⟩:=aT.1 hl;exact hq0 s hs
  have ee: ∀l∈E.map (fun f=>wQ f p),0<l.value (p.subQ u0):=fun l hl=>by
   obtain⟨f,hf,rfl⟩:=aT.1 hl;rw[Fa (hu0 f hf),show p.subQ (p.subQ u0)=u0 by unfold ah.subQ;cases u0;simp only[ah.mk.injEq];constructor<;>grind];exact hu0 f hf
  -- one edge: some point of the cell is on its left
  have one: ∀l∈E.map (fun f=>wQ f p),∃q,bt c q/\0<l.value q:=fun l hl=>by
   obtain⟨f,hf,rfl⟩:=aT.1 hl;apply Classical.byContradiction;intro k;have k2: ∀q,bt c q->(bE f).dot p-(bE f).dot f.1<=(bE f).dot q:=fun q hq=>by
    have: ¬0<(wQ f p).value q:=fun h=>k ⟨q,hq,h⟩;rw[Fa (hu0 f hf),Kx,Fl] at this;grind
   have k3:=Um hc k2;obtain⟨q,hq,hv⟩:=h2 f hf ⟨_,k3⟩;have:=k3 q hq;grind
  -- one side: some point of the moved polygon is on its left
  have two: ∀l∈c.map (fun s:bz=>s.l),∃u,(∀f∈E,0<bu f.1 f.2 u)/\0<l.value (p.subQ u):=fun l hl=>by
   obtain⟨s,hs,rfl⟩:=aT.1 hl;apply Classical.byContradiction;intro k;have k2: ∀u,(∀f∈E,0<bu f.1 f.2 u)->s.l.value p<=s.l.nor.dot u:=fun u hu=>by
    have: ¬0<s.l.value (p.subQ u):=fun h=>k ⟨u,hu,h⟩;rw[DH,Fl] at this;rw[DH];grind
   have k3:=az7 hB k2;obtain⟨v,hv,_,hp⟩:=h1 s hs;have:=k3 v hv;grind
  have emov: ∀l∈E.map (fun f=>wQ f p),∀u,(∀f∈E,0<bu f.1 f.2 u)->0<l.value (p.subQ u):=fun l hl u hu=>by
   obtain⟨f,hf,rfl⟩:=aT.1 hl;rw[Fa (hu0 f hf),show p.subQ (p.subQ u)=u by unfold ah.subQ;cases u;simp only[ah.mk.injEq];constructor<;>grind];exact hu f hf
  have cin: ∀l∈c.map (fun s:bz=>s.l),∀q,bt c q->0<l.value q:=fun l hl q hq=>by obtain⟨s,hs,rfl⟩:=aT.1 hl;exact hq s hs
  intro a ha b hb d hd;rcases bW.1 ha with ha|ha<;>rcases bW.1 hb with hb|hb<;>rcases bW.1 hd with hd|hd
  .exact⟨q0,cc a ha,cc b hb,cc d hd⟩
  .obtain⟨q,h,k⟩:=one d hd;exact⟨q,cin a ha q h,cin b hb q h,k⟩
  .obtain⟨q,h,k⟩:=one b hb;exact⟨q,cin a ha q h,k,cin d hd q h⟩
  .obtain⟨u,h,k⟩:=two a ha;exact⟨_,k,emov b hb u h,emov d hd u h⟩
  .obtain⟨q,h,k⟩:=one a ha;exact⟨q,k,cin b hb q h,cin d hd q h⟩
  .obtain⟨u,h,k⟩:=two b hb;exact⟨_,emov a ha u h,k,emov d hd u h⟩
  .obtain⟨u,h,k⟩:=two d hd;exact⟨_,emov a ha u h,emov b hb u h,k⟩
  .exact⟨_,ee a ha,ee b hb,ee d hd⟩)
 refine⟨q,fun s hs=>hq s.l (bU _ (dX hs)),fun f hf=>?_⟩;exact(Fa (hu0 f hf) p q).1 (hq _ (bK _ (dX hf)))
def ayg{E:List (ah×ah)}(hB:gO V E){c:ar}{q:ah}(hu: ∀f∈E,0<=bu f.1 f.2 u)(hl: ∀v∈V,low<=n.dot v):low<=n.dot u:=by
 obtain⟨v,hv,h⟩:=hB.hull n u hu;have:=hl v hv;grind
def kg(n:ah):List ah->Rat
 |[]=>0
 |p::t=>t.foldl (fun b q=>if n.dot q<b then n.dot q else b) (n.dot p)
def S'{n:ah}: ∀(t:List ah) (b:Rat),(t.foldl (fun b q=>if n.dot q<b then n.dot q else b) b<=b/\ ∀q∈t,t.foldl (fun b q=>if n.dot q<b then n.dot q else b) b<=n.dot q)/\(t.foldl (fun b q=>if n.dot q<b then n.dot q else b) b=b\/ ∃q∈t,t.foldl (fun b q=>if n.dot q<b then n.dot q else b) b=n.dot q)
 |[],b=>⟨⟨iS,fun q hq=>by cases hq⟩, .inl J⟩
 |p::t,b=>by
  obtain⟨⟨h1,h2⟩,h3⟩:=S' t (if n.dot p<b then n.dot p else b);rw[kK];generalize t.foldl (fun b q=>if n.dot q<b then n.dot q else b) (if n.dot p<b then n.dot p else b)=z at*;refine⟨⟨by split at h1<;>grind,fun q hq=>?_⟩,?_⟩
  .rcases aW.1 hq with rfl|hq
   .split at h1<;>grind
   .exact h2 q hq
  .rcases h3 with h3|⟨q,hq,h3⟩
   .split at h3
    .exact .inr ⟨p,aQ,h3⟩
    .exact .inl h3
   .exact .inr ⟨q,aJ _ hq,h3⟩
def sh{l:List ah}(h:l≠[]):(∀q∈l,kg n l<=n.dot q)/\ ∃q∈l,kg n l=n.dot q:=by
 cases l with
 |nil=>exact absurd J h
 |cons p t=>
  obtain⟨⟨h1,h2⟩,h3⟩:=S' (n:=n) t (n.dot p);refine⟨fun q hq=>?_,?_⟩
  .rcases aW.1 hq with rfl|hq
   .exact h1
   .exact h2 q hq
  .rcases h3 with h3|⟨q,hq,h3⟩
   .exact⟨p,aQ,h3⟩
   .exact⟨q,aJ _ hq,h3⟩
def je(n:ah)(s:bz):Bool:=(s.v.nh&&decide (s.l.dir.dot n<0))||(s.v.nl&&decide (0<s.l.dir.dot n))
def tN(n:ah):ar->Bool
 |[s]=>decide (s.l.nor.dot n<0)
 |_=>false
def jx(c:ar):List ah:=(c.map fun s=>s.l.at s.v.sample)++jC (c.map (·.l))
def hH(c:ar)(n:ah):Option Rat:=if c.isEmpty||tN n c then none else if c.any (je n) then none else some (kg n (jx c))
def Bp(hc:bD c)(ha:gz c)(hs:s∈c)(nh:s.v.nh=false):s.l.at s.v.hi∈jC (c.map (·.l)):=by
 obtain⟨i,hi,ei⟩:=List.getElem_of_mem hs;have h1:c[i]? =some s:=by rw[aZ hi,ei]
 obtain⟨w,hw⟩: ∃w,c[(i+1)%c.length]? =some w:=⟨_,aZ (dV _ (by omega))⟩;have mw:=aV hw;have hn:x6 (c.map fun s=>s.l.dir) s.l.dir w.l.dir:=M3 ha (by rw[bS,h1];rfl) (by rw[aX,bS,hw];rfl);obtain⟨k1,k2⟩:=LG hc hs mw hn nh;have hx:crossI s.l w.l≠0:=ID ((n7 _).2 k1);unfold jC;rw[iU,aX];refine⟨i,kQ.2 hi,?_⟩;rw[wi (l:=s.l) (m:=w.l) (by rw[bS,h1];rfl) (by rw[aX,bS,hw];rfl),if_pos ((n7 _).2 k1),aS];exact L5 hx (mj (hc.ok s hs).ne _) k2
def WL(s u:aa):s.nor.dot u.dir= -(u.nor.dot s.dir):=by unfold aa.nor aa.dir ah.dot;dsimp only;grind
def Es(hc:bD c)(ha:gz c)(hs:s∈c)(nl:s.v.nl=false):s.l.at s.v.lo∈jC (c.map (·.l)):=by
 obtain⟨u,hu,z1,z2⟩:=UG hc hs nl;have hin:=((hc.edge s hs).2 _).1 (O9 (hc.edge s hs).1 nl);obtain⟨t,ht⟩:=Bu (hc.ok u hu).ne z1;rw[ht] at hin;have hh:=((hc.edge u hu).2 t).2 hin;have no: ∀e:Rat,0<e-> ¬u.v.has (t+e):=fun e he k=>by
  have k:=((hc.edge u hu).2 _).1 k s hs;rw[Hr,<-ht,mj (hc.ok s hs).ne,WL] at k;have:=dh he z2;grind
 have nh:u.v.nh=false:=by
  cases q:u.v.nh with
  |false=>rfl
  |true=>exact absurd ⟨hh.1.elim .inl fun k=> .inr (by grind), .inl q⟩ (no 1 (by decide))
 have e:t=u.v.hi:=by
  have h2:=hh.2.resolve_left (by rw[nh];simp);apply Classical.byContradiction;intro k;refine no (u.v.hi-t) (by grind) ⟨hh.1.elim .inl fun k=> .inr (by grind), .inr (by grind)⟩
 rw[ht,e];exact Bp hc ha hu nh
def Z9(hc:bD c)(ha:gz c): ∀q∈jx c,iA c q:=fun q hq=>by
 unfold jx at hq;rcases bW.1 hq with hq|hq
 .obtain⟨s,hs,rfl⟩:=aT.1 hq
  exact(Au hc hs).1
 .unfold jC at hq
  rw[iU,aX] at hq;obtain⟨i,hi,hq⟩:=hq;have hi:=kQ.1 hi;obtain⟨s,hs⟩: ∃s,c[i]? =some s:=⟨_,aZ hi⟩;obtain⟨w,hw⟩: ∃w,c[(i+1)%c.length]? =some w:=⟨_,aZ (dV _ (by omega))⟩;have ms:=aV hs;have mw:=aV hw;rw[wi (l:=s.l) (m:=w.l) (by rw[bS,hs];rfl) (by rw[aX,bS,hw];rfl)] at hq;split at hq
  .rename_i k
   have k1:=(n7 _).1 k;rw[aS] at hq;subst hq;have hn:x6 (c.map fun s=>s.l.dir) s.l.dir w.l.dir:=M3 ha (by rw[bS,hs];rfl) (by rw[aX,bS,hw];rfl)
   -- the side ends, as the next one stops it
   have nh:s.v.nh=false:=by
    cases q:s.v.nh with
    |false=>rfl
    |true=>
     have:=Rd hc ms q w mw;rw[<-Hx,xb] at this;grind
   obtain⟨_,k2⟩:=LG hc ms mw hn nh;have hx:crossI s.l w.l≠0:=ID k;rw[<-L5 hx (mj (hc.ok s ms).ne _) k2];exact((hc.edge s ms).2 _).1 (IW (hc.edge s ms).1 nh)
  .cases hq
def Eo(h: ∀t:Rat,0<=t->iA c (cD p u t))(hn:n.dot u<0)(M:Rat): ∃q,iA c q/\n.dot q<M:=by
 by_cases k:n.dot p<M
 .refine⟨_,h 0 iS,?_⟩
  rw[zh];grind
 .have e:(n.dot p-M)/ -(n.dot u)* -(n.dot u)=n.dot p-M:=by grind
  have e0:0<=(n.dot p-M)/ -(n.dot u):=(iv (s:=(n.dot p-M)/ -(n.dot u)) (k:= -(n.dot u)) (by grind)).1 (by rw[e];grind);refine⟨_,h ((n.dot p-M)/ -(n.dot u)+1) (by grind),?_⟩;rw[zh];generalize (n.dot p-M)/ -(n.dot u)=t at*;grind
def UI(hc:bD c)(hn: ¬(n.x=0/\n.y=0))(h:hH c n=none)(M:Rat): ∃q,iA c q/\n.dot q<M:=by
 have hN:=I1 hn;have hneg:n.dot (bG n)<0:=by unfold ah.dot bG;dsimp only;grind
 unfold hH at h;split at h
 .rename_i k
  rw[iT] at k
  cases c with
  |nil=>exact Eo (p:=⟨0,0⟩) (u:=bG n) (fun t _ s hs=>by cases hs) hneg M
  |cons s t=>
   rcases k with k|k
   .cases k
   .cases t with
    |cons _ _=>cases k
    |nil=>
     have k:=of_decide_eq_true (show decide (s.l.nor.dot n<0)=true from k);obtain⟨q,hq⟩:=hc.ne;refine Eo (p:=q) (u:=bG n) (fun t ht w hw=>?_) hneg M;have e:=aS.1 hw;subst e;rw[jF];have a:=hq w hw;have e2:w.l.nor.dot (bG n)= -(w.l.nor.dot n):=by unfold ah.dot bG;dsimp only;grind
     have b:=cG ht (show 0<=w.l.nor.dot (bG n) by rw[e2];grind);grind
 .split at h
  .rename_i k
   obtain⟨s,hs,k⟩:=jS.1 k;unfold je at k;rw[iT,cZ,cZ,decide_eq_true_eq,decide_eq_true_eq] at k;have hh:=((hc.edge s hs).2 _).2 (Au hc hs).1;have e1:n.dot s.l.dir=s.l.dir.dot n:=by unfold ah.dot;grind
   have e2:n.dot (bG s.l.dir)= -(s.l.dir.dot n):=by unfold ah.dot bG;dsimp only;grind
   rcases k with⟨k1,k2⟩|⟨k1,k2⟩
   .refine Eo (p:=s.l.at s.v.sample) (u:=s.l.dir) (fun t ht=>?_) (by rw[e1];exact k2) M
    rw[<-Dc];exact((hc.edge s hs).2 _).1 ⟨hh.1.elim .inl fun k=> .inr (by grind), .inl k1⟩
   .refine Eo (p:=s.l.at s.v.sample) (u:=bG s.l.dir) (fun t ht=>?_) (by rw[e2];grind) M
    have e3:cD (s.l.at s.v.sample) (bG s.l.dir) t=s.l.at (s.v.sample+ -t):=by rw[Dc];unfold cD bG;simp only[ah.mk.injEq];constructor<;>grind
    rw[e3];exact((hc.edge s hs).2 _).1 ⟨.inl k1,hh.2.elim .inl fun k=> .inr (by grind)⟩
  .cases h
def KB(hc:bD c)(ha:gz c)(hn: ¬(n.x=0/\n.y=0))(h:hH c n=some m):(∀q,iA c q->m<=n.dot q)/\ ∃q,iA c q/\n.dot q=m:=by
 have hN:=I1 hn;unfold hH at h;split at h
 .cases h
 rename_i k1;split at h
 .cases h
 rename_i k2
 cases h
 have k1:c.isEmpty=false/\tN n c=false:=by simpa using k1
 have k2: ∀s∈c,je n s=false:=fun s hs=>by
  cases q:je n s with
  |false=>rfl
  |true=>exact absurd (jS.2 ⟨s,hs,q⟩) k2
 have hne:jx c≠[]:=by
  unfold jx
  cases c with
  |nil=>cases k1.1
  |cons s t=>simp
 obtain⟨l1,q0,hq0,l2⟩:=sh (n:=n) hne;refine⟨?_,q0,Z9 hc ha q0 hq0,l2.symm⟩;have side: ∀s∈c,∀q,s.l.value q=0->iA c q->kg n (jx c)<=n.dot q:=fun s hs q hz hq=>by
  obtain⟨t,rfl⟩:=Bu (hc.ok s hs).ne hz;have hh:=((hc.edge s hs).2 t).2 hq;have ho:=k2 s hs;unfold je at ho;have e1:s.l.dir.dot n=n.dot s.l.dir:=by unfold ah.dot;grind
  rw[lY,e1] at ho;have f: ∀u,n.dot (s.l.at u)=n.dot (s.l.at 0)+u*n.dot s.l.dir:=fun u=>by rw[Mn s.l u,zh]
  rcases kE (n.dot s.l.dir) with k|k|k
  .have:=l1 (s.l.at s.v.sample) (bU _ (dX (f:=fun s:bz=>s.l.at s.v.sample) hs))
   rw[f,k] at this⊢;grind
  .have nl:s.v.nl=false:=by
    cases q:s.v.nl with
    |false=>rfl
    |true=>rw[q,decide_eq_true k] at ho;exact absurd ho.2 (by simp)
   have:=l1 _ (bK _ (Es hc ha hs nl));have h1:=hh.1.resolve_left (by rw[nl];simp);have h2:=cG (show 0<=t-s.v.lo by grind) (cM k);rw[f] at this⊢;grind
  .have nh:s.v.nh=false:=by
    cases q:s.v.nh with
    |false=>rfl
    |true=>rw[q,decide_eq_true k] at ho;exact absurd ho.1 (by simp)
   have:=l1 _ (bK _ (Bp hc ha hs nh));have h1:=hh.2.resolve_left (by rw[nh];simp);have h2:=cG (show 0<=s.v.hi-t by grind) (show 0<= -n.dot s.l.dir by grind);rw[f] at this⊢;grind
 -- a point that moves until a side stops it
 have go: ∀p,iA c p-> ∀d:ah,n.dot d<=0->(∃u∈c,u.l.nor.dot d<0)->kg n (jx c)<=n.dot p:=fun p hp d hd0 hex=>by
  by_cases hd:bt c p
  .obtain⟨u,hu,hk⟩:=hex
   have v0:=hd u hu;obtain⟨T,hT⟩: ∃T,T=u.l.value p/ -(u.l.nor.dot d):=⟨_,rfl⟩;have e:T* -(u.l.nor.dot d)=u.l.value p:=by rw[hT];generalize u.l.nor.dot d=z at*;grind
   have T0:0<T:=(f9 (k:= -(u.l.nor.dot d)) (by grind)).1 (by rw[e];exact v0);obtain⟨r,r0,r1,⟨s,ms,_,zs⟩,hC⟩:=IJ (p:=cD p d T) hd ⟨u,hu,by rw[jF];grind⟩;have:=side s ms _ zs hC;rw[Gw,zh] at this;have:=cG r0 (cG (cM T0) (show 0<= -(n.dot d) by grind));grind
  .have: ∃s∈c,¬0<s.l.value p:=by
    apply Classical.byContradiction;intro k;exact hd fun s hs=>Classical.byContradiction fun k2=>k ⟨s,hs,k2⟩
   obtain⟨s,hs,k⟩:=this;have:=hp s hs;exact side s hs p (by grind) hp
 intro p hp;by_cases q1: ∃u∈c,u.l.nor.dot (iz n)≠0
 .obtain⟨u,hu,k⟩:=q1
  have z:n.dot (iz n)=0:=by unfold ah.dot iz;grind
  rcases kE (u.l.nor.dot (iz n)) with k|h|h
  .contradiction
  .refine go p hp (bG (iz n)) ?_ ⟨u,hu,?_⟩
   .unfold ah.dot iz bG;dsimp only;grind
   .have:u.l.nor.dot (bG (iz n))= -(u.l.nor.dot (iz n)):=by unfold ah.dot bG;dsimp only;grind
    rw[this];grind
  .exact go p hp (iz n) (by rw[z];exact iS) ⟨u,hu,h⟩
 .have q1: ∀u∈c,u.l.nor.dot (iz n)=0:=fun u hu=>Classical.byContradiction fun k=>q1 ⟨u,hu,k⟩
  by_cases q2: ∃u∈c,0<u.l.nor.dot n
  .obtain⟨u,hu,k⟩:=q2
   have e: ∀z:ah,z.dot (bG n)= -(z.dot n):=fun z=>by unfold ah.dot bG;dsimp only;grind
   refine go p hp (bG n) ?_ ⟨u,hu,by rw[e];grind⟩;rw[e];unfold ah.dot;grind
  .exfalso
   have q3: ∀u∈c,u.l.nor.dot n<0:=fun u hu=>by
    have h1:=q1 u hu;have h2: ¬0<u.l.nor.dot n:=fun k=>q2 ⟨u,hu,k⟩;have h3:=oq (hc.ok u hu).ne;by_cases h4:u.l.nor.dot n=0
    .exfalso
     have e:(n.x*n.x+n.y*n.y)*(u.l.nor.dot u.l.nor)=(u.l.nor.dot n)*(u.l.nor.dot n)+(u.l.nor.dot (iz n))*(u.l.nor.dot (iz n)):=by unfold ah.dot iz;dsimp only;grind
     rw[h1,h4] at e;have:=dh hN h3;grind
    .grind
   cases c with
   |nil=>cases k1.1
   |cons s t=>
    cases t with
    |nil=>
     have:=k1.2;unfold tN at this;have:=of_decide_eq_false this;exact this (q3 s aQ)
    |cons w t=>
     have hB:en s.l.dir w.l.dir:=by
      unfold gz at ha;rw[bT,bT] at ha;exact(cV.1 ha).1 _ aQ
     have a1:=q3 s aQ;have a2:=q3 w (aJ _ aQ);have b1:=q1 s aQ;have b2:=q1 w (aJ _ aQ);have hz:s.l.dir.cross w.l.dir=0:=by
      have e:(n.x*n.x+n.y*n.y)*s.l.dir.cross w.l.dir=(s.l.nor.dot n)*(w.l.nor.dot (iz n))-(s.l.nor.dot (iz n))*(w.l.nor.dot n):=by unfold ah.dot iz ah.cross aa.dir aa.nor;dsimp only;grind
      rw[b1,b2] at e;have:(n.x*n.x+n.y*n.y)*s.l.dir.cross w.l.dir=0:=by grind
      exact(fW.1 this).resolve_left (by grind)
     have e: ∀l:aa,l.dir.cross (bG n)= -(l.nor.dot n):=fun l=>by rw[Hx];unfold ah.dot bG;dsimp only;grind
     have hh:=Ug (Fk (hc.ok s aQ)) (Fk (hc.ok w (aJ _ aQ))) hz (z:=bG n) (by rw[e];grind) (by rw[e];grind);rcases hB with k|⟨_,k⟩
     .omega
     .rw[hz] at k;exact absurd k (by decide)
def ayD{m:aa}(hl:l.ok)(hm:m.ok){k:Rat}(hk:0<k)(h: ∀p,l.value p=k*m.value p):l=m:=by
 have hz: ∀s,l.value (m.at s)=0:=fun s=>by rw[h,mj hm.ne];grind
 rcases zq hl hm hz with e|e
 .exact e
 .exfalso
  have hn:=oq hm.ne;have h1:=h (cD (m.at 0) m.nor 1);rw[e,eD,jF,mj hm.ne] at h1;have:=dh hk hn;grind
def YT{c:Rat}(h: ¬(a=0/\b=0))(h': ¬(a'=0/\b'=0)){k:Rat}(hk:0<k)(e: ∀p:ah,a*p.x+b*p.y+c=k*(a'*p.x+b'*p.y+c')):d7 a b c=d7 a' b' c':=by
 obtain⟨g,g0,hg⟩:=AF (c:=c) h;obtain⟨g',g0',hg'⟩:=AF (c:=c') h';refine ayD (Ef h) (Ef h') (k:=g*k/g') (div_pos (dh g0 hk) g0') fun p=>?_;rw[hg,hg',e];have:g*k/g'*g'=g*k:=by grind
 generalize g*k/g'=z at*;grind
def kr(l:aa)(V:List ah):aa:=d7 l.a l.b (l.c-kg l.nor V)
def Ji(h:l.ok): ¬((l.a:Rat)=0/\(l.b:Rat)=0):=fun⟨h1,h2⟩=>by
 have:=oq h.ne;unfold aa.nor ah.dot at this;dsimp only at this;rw[h1,h2] at this;grind
def Ak(c:List aa):List ah:=if(jC c).isEmpty then c.map aa.base else jC c
def mp(c:ar)(f:ah×ah):Option aa:=(hH c (bE f)).map fun m=>d7 (bE f).x (bE f).y (-(m+(bE f).dot f.1))
def jB(c:ar)(V:List ah)(E:List (ah×ah)):List aa:=(c.map fun s=>kr s.l V)++E.filterMap (mp c)
def ZZ(hc:bD c)(hs:s∈c)(nl:s.v.nl=true)(nh:s.v.nh=true): ∀u∈c,u.l.nor.dot s.l.dir=0:=fun u hu=>by
 have h1:=Rd hc hs nh u hu;have h2:=X5 hc hs nl u hu;grind
def axS(hc:bD c)(hs:s∈c)(nl:s.v.nl=true)(nh:s.v.nh=true):jC (c.map (·.l))=[]:=by
 have hp:=ZZ hc hs nl nh;unfold jC;rw[aX,List.flatMap_eq_nil_iff];intro i hi;have hi:=kQ.1 hi;obtain⟨a,ha⟩: ∃s,c[i]? =some s:=⟨_,aZ hi⟩;obtain⟨b,hb⟩: ∃w,c[(i+1)%c.length]? =some w:=⟨_,aZ (dV _ (by omega))⟩;have h1:=hp a (aV ha);have h2:=hp b (aV hb);rw[wi (l:=a.l) (m:=b.l) (by rw[bS,ha];rfl) (by rw[aX,bS,hb];rfl),if_neg];rw[n7];have hz:=oq (hc.ok s hs).ne;have e:(s.l.nor.dot s.l.nor)*a.l.dir.cross b.l.dir=(a.l.nor.dot s.l.dir)*(b.l.nor.dot s.l.nor)-(a.l.nor.dot s.l.nor)*(b.l.nor.dot s.l.dir):=by unfold ah.dot ah.cross aa.dir aa.nor;dsimp only;grind
 rw[h1,h2] at e;intro k;have:=dh hz k;grind
def Na(hc:bD c)(ha:gz c)(hn: ¬(n.x=0/\n.y=0))(hf:hH c n=some m):kg n (Ak (c.map fun s=>s.l))=m/\Ak (c.map fun s=>s.l)≠[]:=by
 obtain⟨f1,f2⟩:=KB hc ha hn hf;have hf':=hf;unfold hH at hf';split at hf'
 .cases hf'
 rename_i k1;split at hf'
 .cases hf'
 rename_i k2
 cases hf'
 have k1:c.isEmpty=false/\tN n c=false:=by simpa using k1
 have k2: ∀s∈c,je n s=false:=fun s hs=>by
  cases q:je n s with
  |false=>rfl
  |true=>exact absurd (jS.2 ⟨s,hs,q⟩) k2
 have hne:jx c≠[]:=by
  unfold jx
  cases c with
  |nil=>cases k1.1
  |cons s t=>simp
 obtain⟨l1,q0,hq0,l2⟩:=sh (n:=n) hne;have e1: ∀s:bz,s.l.dir.dot n=n.dot s.l.dir:=fun s=>by unfold ah.dot;grind
 have f: ∀(s:bz) u,n.dot (s.l.at u)=n.dot (s.l.at 0)+u*n.dot s.l.dir:=fun s u=>by rw[Mn s.l u,zh]
 unfold Ak;by_cases hv:(jC (c.map fun s=>s.l)).isEmpty=true
 .rw[if_pos hv]
  have hv':jC (c.map fun s=>s.l)=[]:=List.isEmpty_iff.1 hv;have flat: ∀s∈c,n.dot s.l.dir=0/\n.dot s.l.base=n.dot (s.l.at s.v.sample):=fun s hs=>by
   have nl:s.v.nl=true:=by
    cases q:s.v.nl with
    |true=>rfl
    |false=>have:=Es hc ha hs q;rw[hv'] at this;cases this
   have nh:s.v.nh=true:=by
    cases q:s.v.nh with
    |true=>rfl
    |false=>have:=Bp hc ha hs q;rw[hv'] at this;cases this
   have ho:=k2 s hs;unfold je at ho;rw[nl,nh,lY,pN,pN,decide_eq_false_iff_not,decide_eq_false_iff_not,e1] at ho;have z:n.dot s.l.dir=0:=by rcases kE (n.dot s.l.dir) with k|k|k;exact k;exact absurd k ho.2;exact absurd k ho.1
   refine⟨z,?_⟩;rw[<-yl,zh,z];grind
  have hne2:(c.map fun s=>s.l).map aa.base≠[]:=by
   cases c with
   |nil=>cases k1.1
   |cons s t=>simp
  obtain⟨g1,p1,hp1,g2⟩:=sh (n:=n) hne2;refine⟨?_,hne2⟩;obtain⟨l,hl,rfl⟩:=aT.1 hp1;obtain⟨s,hs,rfl⟩:=aT.1 hl;have a1:=l1 (s.l.at s.v.sample) (bU _ (dX (f:=fun s:bz=>s.l.at s.v.sample) hs));rw[<-(flat s hs).2,<-g2] at a1;have a2:kg n ((c.map fun s=>s.l).map aa.base)<=kg n (jx c):=by
   unfold jx at hq0;rw[hv',gK] at hq0;obtain⟨w,hw,rfl⟩:=aT.1 hq0;rw[l2,<-(flat w hw).2];exact g1 _ (dX (dX (f:=fun s:bz=>s.l) hw))
  grind
 .rw[if_neg hv]
  have hne2:jC (c.map fun s=>s.l)≠[]:=fun e=>hv (by rw[e];rfl);obtain⟨g1,p1,hp1,g2⟩:=sh (n:=n) hne2;refine⟨?_,hne2⟩;have a1:=l1 p1 (bK _ hp1);rw[<-g2] at a1
  -- the least value is one of a corner
  have a2: ∃v∈jC (c.map fun s=>s.l),n.dot v=kg n (jx c):=by
   unfold jx at hq0;rcases bW.1 hq0 with h|h
   .obtain⟨s,hs,rfl⟩:=aT.1 h
    have hi:=(hc.edge s hs).1;have hsm:=pd hi;have z:n.dot s.l.dir=0:=by
     rcases kE (n.dot s.l.dir) with k|k|k
     .exact k
     .exfalso
      have ho:=k2 s hs;unfold je at ho;rw[lY,e1] at ho;have nl:s.v.nl=false:=by
       cases q:s.v.nl with
       |false=>rfl
       |true=>rw[q,decide_eq_true k] at ho;exact absurd ho.2 (by simp)
      have:=l1 _ (bK _ (Es hc ha hs nl));have h1:=hsm.1.resolve_left (by rw[nl];simp);rw[l2,f s s.v.sample,f s s.v.lo] at this;have:=dh (show 0<s.v.sample-s.v.lo by grind) k;grind
     .exfalso
      have ho:=k2 s hs;unfold je at ho;rw[lY,e1] at ho;have nh:s.v.nh=false:=by
       cases q:s.v.nh with
       |false=>rfl
       |true=>rw[q,decide_eq_true k] at ho;exact absurd ho.1 (by simp)
      have:=l1 _ (bK _ (Bp hc ha hs nh));have h1:=hsm.2.resolve_left (by rw[nh];simp);rw[l2,f s s.v.sample,f s s.v.hi] at this;have:=dh (show 0<s.v.hi-s.v.sample by grind) (show 0< -(n.dot s.l.dir) by grind);grind
    cases nl:s.v.nl with
    |false=>exact⟨_,Es hc ha hs nl,by rw[l2,f s s.v.lo,f s s.v.sample,z];grind⟩
    |true=>
     cases nh:s.v.nh with
     |false=>exact⟨_,Bp hc ha hs nh,by rw[l2,f s s.v.hi,f s s.v.sample,z];grind⟩
     |true=>exact absurd (axS hc hs nl nh) hne2
   .exact⟨q0,h,l2.symm⟩
  obtain⟨v,hv2,e⟩:=a2;have:=g1 v hv2;grind
section
end
def lO:List aa->Tr
 |[]=> .leaf true
 |l::t=> .node l (lO t) (.leaf false)
def Mh: ∀{L:List aa},(lO L).lns=L
 |[]=>rfl
 |l::t=>by rw[lO,Tr.lns,Mh,Tr.lns,gK]
def RW: ∀{L:List aa} {p:ah},(lO L).val p=true↔gh L p
 |[],p=>⟨fun _ l hl=>(by cases hl),fun _=>J⟩
 |l::t,p=>by
  rw[lO];by_cases h:0<l.value p
  .rw[Tr.val_pos h,RW (L:=t)]
   constructor
   .intro k m hm
    rcases aW.1 hm with rfl|hm
    .exact h
    .exact k m hm
   .exact fun k m hm=>k m (aJ _ hm)
  .rw[Tr.val_neg h]
   constructor
   .intro k;cases k
   .intro k;exact absurd (k l aQ) h
def Nz(h: ∀l∈L,P l):(lO L).all P:=lg.2 (by rw[Mh];exact h)
def PS: ∀(L:List aa),(lO L).depth=L.length
 |[]=>rfl
 |l::t=>by rw[lO,Tr.depth,PS t,bJ];show 1+max _ 0=_;omega
def RP: ∀(L:List aa),(lO L).size=L.length
 |[]=>rfl
 |l::t=>by rw[lO,Tr.size,RP t,bJ];show 1+_+0=_;omega
def Mp: ∀{ls:List aa} {c e:ar},bD c->gz c->(∀l∈ls,l.ok)->jf ls c=some e->gz e
 |[],c,e,_,ha,_,h=>by
  obtain rfl:c=e:=by simpa[jf] using h
  exact ha
 |l::t,c,e,hc,ha,hl,h=>by
  have hl':=dT.1 hl;rw[jf] at h;split at h
  .rename_i hb
   exact Mp (gt hc hl'.1 hb).1 (Ge hc hl'.1 ha hb) hl'.2 h
  .exact absurd h (by simp)
def gO.nz{E:List (ah×ah)}(hB:gO V E){f:ah×ah}(hf:f∈E): ¬((bE f).x=0/\(bE f).y=0):=by
 obtain⟨u,hu⟩:=hB.cen;exact Oj (hu f hf)
def gO.vne{E:List (ah×ah)}(hB:gO V E):V≠[]:=by
 obtain⟨u,hu⟩:=hB.cen;obtain⟨v,hv,_⟩:=hB.hull ⟨0,0⟩ u fun f hf=>cM (hu f hf);exact List.ne_nil_of_mem hv
def BW(hl:l.ok)(V:List ah):(kr l V).ok/\ ∃g:Rat,0<g/\ ∀p,(kr l V).value p=g*(l.value p-kg l.nor V):=by
 refine⟨Ef (Ji hl),?_⟩;obtain⟨g,g0,hg⟩:=AF (c:=l.c-kg l.nor V) (Ji hl);refine⟨g,g0,fun p=>?_⟩;unfold kr;rw[hg,DH];unfold aa.nor ah.dot;dsimp only;grind
def DA{f:ah×ah}(hn: ¬((bE f).x=0/\(bE f).y=0))(h:mp c f=some l): ∃m,hH c (bE f)=some m/\l.ok/\ ∃g:Rat,0<g/\ ∀p,l.value p=g*((bE f).dot p-m-(bE f).dot f.1):=by
 unfold mp at h
 cases hf:hH c (bE f) with
 |none=>rw[hf] at h;cases h
 |some m=>
  rw[hf] at h
  cases h
  refine⟨m,J,Ef hn,?_⟩;obtain⟨g,g0,hg⟩:=AF (c:= -(m+(bE f).dot f.1)) hn;refine⟨g,g0,fun p=>?_⟩;rw[hg];unfold ah.dot;grind
def LE{E:List (ah×ah)}(hB:gO V E)(hc:bD c): ∀l∈jB c V E,l.ok:=fun l hl=>by
 rcases bW.1 hl with hl|hl
 .obtain⟨s,hs,rfl⟩:=aT.1 hl
  exact(BW (hc.ok s hs) V).1
 .obtain⟨f,hf,e⟩:=jM.1 hl
  obtain⟨_,_,h,_⟩:=DA (hB.nz hf) e;exact h
def MA{E:List (ah×ah)}(hB:gO V E)(hc:bD c)(ha:gz c)(p:ah):gh (jB c V E) p↔ ∃q,bt c q/\ ∀f∈E,0<bu f.1 f.2 (p.subQ q):=by
 constructor
 .intro h
  refine TA hB hc (fun s hs=>?_) fun f hf ⟨M,hM⟩=>?_
  .obtain⟨h1,v,hv,h2⟩:=sh (n:=s.l.nor) hB.vne
   refine⟨v,hv,fun w hw=>by rw[<-h2];exact h1 w hw,?_⟩;obtain⟨_,g,g0,hg⟩:=BW (hc.ok s hs) V;have:=h _ (bU _ (dX (f:=fun s:bz=>kr s.l V) hs));rw[hg] at this;rw[<-h2];exact(Ce g0).1 this
  .cases hfl:hH c (bE f) with
   |none=>
    obtain⟨q,hq,hlt⟩:=UI hc (hB.nz hf) hfl M;have:=hM q hq;grind
   |some m=>
    obtain⟨_,q,hq,e⟩:=KB hc ha (hB.nz hf) hfl;refine⟨q,hq,?_⟩;have he:mp c f=some (d7 (bE f).x (bE f).y (-(m+(bE f).dot f.1))):=by unfold mp;rw[hfl];rfl
    obtain⟨m',k1,_,g,g0,hg⟩:=DA (hB.nz hf) he;rw[hfl] at k1;cases k1;have:=h _ (bK _ (jM.2 ⟨f,hf,he⟩));rw[hg] at this;rw[e];exact(Ce g0).1 this
 .rintro ⟨q,hq,hu⟩ l hl
  have hdp: ∀n:ah,n.dot p=n.dot q+n.dot (p.subQ q):=fun n=>by rw[Fl];grind
  rcases bW.1 hl with hl|hl
  .obtain⟨s,hs,rfl⟩:=aT.1 hl
   obtain⟨_,g,g0,hg⟩:=BW (hc.ok s hs) V;rw[hg,Ce g0];have h1:=ayg hB (c:=c) (q:=q) (u:=p.subQ q) (fun f hf=>cM (hu f hf)) (sh (n:=s.l.nor) hB.vne).1;have h2:=hq s hs;rw[DH] at h2⊢;rw[hdp];grind
  .obtain⟨f,hf,e⟩:=jM.1 hl
   obtain⟨m,k1,_,g,g0,hg⟩:=DA (hB.nz hf) e;rw[hg,Ce g0,hdp];have h1:=hu f hf;rw[Kx] at h1;have h2:=(KB hc ha (hB.nz hf) k1).1 q hq.c;grind
def aze{E:List (ah×ah)}(hB:gO V E)(hc:bD c)(ha:gz c): ∃p,gh (jB c V E) p:=by
 obtain⟨q,hq⟩:=hc.ne;obtain⟨u,hu⟩:=hB.cen;refine⟨q.add u,(MA hB hc ha _).2 ⟨q,hq,fun f hf=>?_⟩⟩;have e:(q.add u).subQ q=u:=by unfold ah.subQ ah.add;cases u;simp only[ah.mk.injEq];constructor<;>grind
 rw[e];exact hu f hf
def HE{E:List (ah×ah)}(hB:gO V E)(hc:bD c)(ha:gz c): ∃d,jf (jB c V E) []=some d/\bD d/\gz d/\(∀p,bt d p↔gh (jB c V E) p)/\iO (jB c V E)=d.map (·.l):=by
 have hok:=LE hB hc;obtain⟨p,hp⟩:=aze hB hc ha;obtain⟨d,hd⟩:=IE bD.nil hok ⟨p,fun s hs=>absurd hs (by simp),hp⟩;obtain⟨g1,g2⟩:=Jr bD.nil hok hd;have g2: ∀p,bt d p↔gh (jB c V E) p:=fun p=>by
  rw[g2];exact⟨fun h=>h.2,fun h=>⟨fun s hs=>absurd hs (by simp),h⟩⟩
 have g3:=Mp bD.nil .nil hok hd;exact⟨d,hd,g1,g3,g2,VG hok g1 g3 g2⟩
def fj(V:List ah)(E:List (ah×ah))(c:ar):Tr:=lO (iO (jB c V E))
def CV{E:List (ah×ah)}(hB:gO V E)(hc:bD c)(ha:gz c):(fj V E c).all aa.ok:=by
 obtain⟨d,_,g1,_,_,e⟩:=HE hB hc ha;unfold fj;rw[e];exact Nz fun l hl=>by obtain⟨s,hs,rfl⟩:=aT.1 hl;exact g1.ok s hs
def Zr{E:List (ah×ah)}(hB:gO V E)(hc:bD c)(ha:gz c)(p:ah):(fj V E c).val p=true↔ ∃q,bt c q/\ ∀f∈E,0<bu f.1 f.2 (p.subQ q):=by
 obtain⟨d,_,g1,_,g2,e⟩:=HE hB hc ha;unfold fj;rw[e,RW,<-MA hB hc ha,<-g2];unfold gh bt;constructor
 .intro h s hs;exact h s.l (dX (f:=fun s:bz=>s.l) hs)
 .intro h l hl;obtain⟨s,hs,rfl⟩:=aT.1 hl;exact h s hs
def t7(f:ah×ah):ah×ah:=(bG f.1,bG f.2)
def HW(a b p:ah):bu (bG a) (bG b) p=bu a b (bG p):=by unfold bu bG;dsimp only;grind
def Kf(p:ah):bG (bG p)=p:=by unfold bG;cases p;simp only[ah.mk.injEq];constructor<;>grind
def UB{E:List (ah×ah)}(h:gO V E):gO (V.map bG) (E.map t7) where
 ends:=fun f hf=>by
  obtain⟨g,hg,rfl⟩:=aT.1 hf;exact⟨dX (h.ends g hg).1,dX (h.ends g hg).2⟩
 cvx:=fun f hf v hv=>by
  obtain⟨g,hg,rfl⟩:=aT.1 hf;obtain⟨w,hw,rfl⟩:=aT.1 hv;show 0<=bu (bG g.1) (bG g.2) (bG w);rw[HW,Kf];exact h.cvx g hg w hw
 cen:=by
  obtain⟨u,hu⟩:=h.cen;refine⟨bG u,fun f hf=>?_⟩;obtain⟨g,hg,rfl⟩:=aT.1 hf;show 0<bu (bG g.1) (bG g.2) (bG u);rw[HW,Kf];exact hu g hg
 hull:=fun n u hu=>by
  obtain⟨v,hv,hle⟩:=h.hull (bG n) (bG u) fun f hf=>by
   have:=hu _ (dX (f:=t7) hf);unfold t7 at this;rwa [HW] at this
  refine⟨bG v,dX hv,?_⟩;have e: ∀z,(bG n).dot z=n.dot (bG z):=fun z=>by unfold ah.dot bG;dsimp only;grind
  rw[e,e,Kf] at hle;exact hle
def Hz{P:ah×ah->Prop}{f:ah×ah}{x y z:ah×ah}(hf:f∈[x,y,z])(h1:P x)(h2:P y)(h3:P z):P f:=by
 simp only[aW,dR,or_false] at hf;rcases hf with rfl|rfl|rfl<;>assumption
def aG9{a b c:ah}(h:0<bu a b c):gO [a,b,c] [(a,b),(b,c),(c,a)] where
 ends:=fun f hf=>Hz (P:=fun f=>f.1∈[a,b,c]/\f.2∈[a,b,c]) hf (by simp) (by simp) (by simp)
 cvx:=fun f hf v hv=>by
  simp only[aW,dR,or_false] at hv;refine Hz (P:=fun f=>0<=bu f.1 f.2 v) hf ?_ ?_ ?_<;>dsimp only<;>rcases hv with rfl|rfl|rfl<;>unfold bu at* <;>grind
 cen:=⟨⟨(a.x+b.x+c.x)/3,(a.y+b.y+c.y)/3⟩,fun f hf=>by
  refine Hz (P:=fun f=>0<bu f.1 f.2 ⟨(a.x+b.x+c.x)/3,(a.y+b.y+c.y)/3⟩) hf ?_ ?_ ?_<;>dsimp only<;>unfold bu at* <;>grind⟩
 hull:=fun n u hu=>by
  have h1:=hu (a,b) (by simp);have h2:=hu (b,c) (by simp);have h3:=hu (c,a) (by simp);dsimp only at h1 h2 h3;have e:bu a b c*n.dot u=bu b c u*n.dot a+bu c a u*n.dot b+bu a b u*n.dot c:=by unfold bu ah.dot;grind
  have e2:bu a b c=bu b c u+bu c a u+bu a b u:=by unfold bu;grind
  apply Classical.byContradiction;intro k;have ka:n.dot u<n.dot a:=by have: ¬n.dot a<=n.dot u:=fun q=>k ⟨a,by simp,q⟩;grind
  have kb:n.dot u<n.dot b:=by have: ¬n.dot b<=n.dot u:=fun q=>k ⟨b,by simp,q⟩;grind
  have kc:n.dot u<n.dot c:=by have: ¬n.dot c<=n.dot u:=fun q=>k ⟨c,by simp,q⟩;grind
  have:=uz h2 h3 h1 (by grind) (show 0<n.dot a-n.dot u by grind) (show 0<n.dot b-n.dot u by grind) (show 0<n.dot c-n.dot u by grind);rw[e2] at e;clear hu k h e2;generalize bu b c u=x at*;generalize bu c a u=y at*;generalize bu a b u=z at*;generalize n.dot u=m at*;generalize n.dot a=p at*;generalize n.dot b=q at*;generalize n.dot c=r at*;grind
def HG{P:ah×ah->Prop}{f:ah×ah}{x y z w:ah×ah}(hf:f∈[x,y,z,w])(h1:P x)(h2:P y)(h3:P z)(h4:P w):P f:=by
 simp only[aW,dR,or_false] at hf;rcases hf with rfl|rfl|rfl|rfl<;>assumption
def Ya{c:Rat}(h1:a<c)(h2:b<d):gO [⟨a,b⟩,⟨c,b⟩,⟨c,d⟩,⟨a,d⟩] [(⟨a,b⟩,⟨c,b⟩),(⟨c,b⟩,⟨c,d⟩),(⟨c,d⟩,⟨a,d⟩),(⟨a,d⟩,⟨a,b⟩)] where
 ends:=fun f hf=>HG (P:=fun f=>f.1∈[(⟨a,b⟩:ah),⟨c,b⟩,⟨c,d⟩,⟨a,d⟩]/\f.2∈[(⟨a,b⟩:ah),⟨c,b⟩,⟨c,d⟩,⟨a,d⟩]) hf (by simp) (by simp) (by simp) (by simp)
 cvx:=fun f hf v hv=>by
  have k:=dh (show 0<c-a by grind) (show 0<d-b by grind);simp only[aW,dR,or_false] at hv;refine HG (P:=fun f=>0<=bu f.1 f.2 v) hf ?_ ?_ ?_ ?_<;>dsimp only<;>rcases hv with rfl|rfl|rfl|rfl<;>unfold bu<;>dsimp only<;>grind
 cen:=⟨⟨(a+c)/2,(b+d)/2⟩,fun f hf=>by
  have k:=dh (show 0<c-a by grind) (show 0<d-b by grind);refine HG (P:=fun f=>0<bu f.1 f.2 ⟨(a+c)/2,(b+d)/2⟩) hf ?_ ?_ ?_ ?_<;>dsimp only<;>unfold bu<;>dsimp only<;>grind⟩
 hull:=fun n u hu=>by
  have k1:=hu (⟨a,b⟩,⟨c,b⟩) (by simp);have k2:=hu (⟨c,b⟩,⟨c,d⟩) (by simp);have k3:=hu (⟨c,d⟩,⟨a,d⟩) (by simp);have k4:=hu (⟨a,d⟩,⟨a,b⟩) (by simp);unfold bu at k1 k2 k3 k4;dsimp only at k1 k2 k3 k4;have y1:0<=u.y-b:=(iv (k:=c-a) (by grind)).1 (by grind);have y2:0<=d-u.y:=(iv (k:=c-a) (by grind)).1 (by grind);have x1:0<=u.x-a:=(iv (k:=d-b) (by grind)).1 (by grind);have x2:0<=c-u.x:=(iv (k:=d-b) (by grind)).1 (by grind);by_cases hx:0<=n.x<;>by_cases hy:0<=n.y
  .refine⟨⟨a,b⟩,by simp,?_⟩
   have:=cG hx x1;have:=cG hy y1;unfold ah.dot;dsimp only;grind
  .refine⟨⟨a,d⟩,by simp,?_⟩
   have:=cG hx x1;have:=cG (show 0<= -n.y by grind) y2;unfold ah.dot;dsimp only;grind
  .refine⟨⟨c,b⟩,by simp,?_⟩
   have:=cG (show 0<= -n.x by grind) x2;have:=cG hy y1;unfold ah.dot;dsimp only;grind
  .refine⟨⟨c,d⟩,by simp,?_⟩
   have:=cG (show 0<= -n.x by grind) x2;have:=cG (show 0<= -n.y by grind) y2;unfold ah.dot;dsimp only;grind
def vT(V:List ah)(E:List (ah×ah))(cs:List ar)(t:Tr):Tr:=cs.foldl (fun t c=>t.mergeQ 1 (fj V E c) []) t
def m6(V:List ah)(E:List (ah×ah))(t:Tr):Tr:=vT V E (eu (t.restrict [])) (.leaf false)
def Lx{V:List ah}{E:List (ah×ah)}(hB:gO V E){M:List aa}: ∀{cs:List ar} {t:Tr},(∀c∈cs,bD c/\gz c)->t.all aa.ok->(∀l∈t.lns,l∈M)->(∀c∈cs,∀l∈(fj V E c).lns,l∈M)->(vT V E cs t).all aa.ok/\(∀l∈(vT V E cs t).lns,l∈M)/\ ∀p,cF M p->((vT V E cs t).val p=true↔t.val p=true\/ ∃c∈cs,(fj V E c).val p=true)
 |[],t,_,ht,hl,_=>⟨ht,hl,fun p _=>⟨.inl,fun h=>h.elim id fun⟨c,hc,_⟩=>by cases hc⟩⟩
 |c::cs,t,hcs,ht,hl,hM=>by
  obtain⟨g,a⟩:=hcs c aQ;have hok:=CV hB g a;have h1:=Tr.mergeQ_all aa.ok 1 hok t [] ht;have h2:=Tr.mergeQ_all (fun l=>l∈M) 1 (lg.2 (hM c aQ)) t [] (lg.2 hl);obtain⟨i1,i2,i3⟩:=Lx hB (cs:=cs) (t:=t.mergeQ 1 (fj V E c) []) (fun d hd=>hcs d (aJ _ hd)) h1 (lg.1 h2) (fun d hd=>hM d (aJ _ hd));refine⟨i1,i2,fun p hp=>?_⟩;show(vT V E cs (t.mergeQ 1 (fj V E c) [])).val p=true↔_;rw[i3 p hp,Tr.val_merge 1 _ hok t [] p ht bD.nil (fun s hs=>by cases hs) (hp.sub hl) (hp.sub (hM c aQ))];have e: ∀x y:Bool,pP 1 x y=true↔x=true\/y=true:=fun x y=>by cases x<;>cases y<;>decide
  rw[e];constructor
  .rintro ((h|h)|⟨d,hd,h⟩)
   .exact .inl h
   .exact .inr ⟨c,aQ,h⟩
   .exact .inr ⟨d,aJ _ hd,h⟩
  .rintro (h|⟨d,hd,h⟩)
   .exact .inl (.inl h)
   .rcases aW.1 hd with rfl|hd
    .exact .inl (.inr h)
    .exact .inr ⟨d,hd,h⟩
def wS(ht:t.all aa.ok): ∀c∈eu (t.restrict []),bD c/\gz c:=fun c hc=>⟨Vc (t.restrict_all _ [] ht) c hc,Je (t.restrict_all _ [] ht) bD.nil (show gz [] from .nil) _ (uG.1 hc)⟩
def wv(V:List ah)(E:List (ah×ah))(t:Tr):List aa:=(eu (t.restrict [])).flatMap fun c=>(fj V E c).lns
def Qp{E:List (ah×ah)}(hB:gO V E)(ht:t.all aa.ok):(m6 V E t).all aa.ok/\(∀l∈(m6 V E t).lns,l∈wv V E t)/\ ∀p,cF (wv V E t) p->((m6 V E t).val p=true↔ ∃c∈eu (t.restrict []),(fj V E c).val p=true):=by
 obtain⟨h1,h2,h3⟩:=Lx hB (M:=wv V E t) (t:= .leaf false) (wS ht) trivial (fun l hl=>by cases hl) fun c hc l hl=>iU.2 ⟨c,hc,hl⟩;refine⟨h1,h2,fun p hp=>?_⟩;show(vT V E _ _).val p=true↔_;rw[h3 p hp];exact⟨fun h=>h.elim (fun h=>by cases h) id, .inr⟩
def azC{E:List (ah×ah)}(hB:gO V E)(ht:t.all aa.ok)(h0: ∀f∈E,0<=bu f.1 f.2 ⟨0,0⟩)(ho:cF t.lns p)(hs:cF (wv V E t) p)(hv:t.val p=true):(m6 V E t).val p=true:=by
 have htr:=t.restrict_all aa.ok [] ht;have o1r:cF (t.restrict []).lns p:=fun l hl=>ho l (lg.1 (t.restrict_all (fun l=>l∈t.lns) [] (lg.2 fun l hl=>hl)) l hl);obtain⟨b,c,he,hq⟩:=IB htr bD.nil (fun s hs=>absurd hs (by simp)) o1r;have hb:=((CD htr bD.nil he).2 p hq).2;rw[Tr.val_restrict t [] p ht bD.nil (fun s hs=>absurd hs (by simp)) ho,hv] at hb;subst hb;have hc:=uG.2 he;obtain⟨g,a⟩:=wS ht c hc;rw[(Qp hB ht).2.2 p hs];refine⟨c,hc,(Zr hB g a p).2 ?_⟩;obtain⟨u,hu⟩:=hB.cen;obtain⟨e,e0,hm⟩:=hq.open (bG u);obtain⟨d,d0,d1,d2⟩:=min2 e0 (show(0:Rat)<1 by decide);refine⟨_,hm d (cM d0) d1,fun f hf=>?_⟩;have e1:bu f.1 f.2 (p.subQ (cD p (bG u) d))=(1-d)*bu f.1 f.2 ⟨0,0⟩+d*bu f.1 f.2 u:=by unfold bu ah.subQ cD bG;dsimp only;grind
 rw[e1];have:=cG (show 0<=1-d by grind) (h0 f hf);have:=dh d0 (hu f hf);grind
section
end
section
end
def Tr.Prp:Tr->ar->Prop
 | .leaf _,_=>True
 | .node l x y,c=>co c l=true/\co c l.rev=true/\x.Prp (bC c l)/\y.Prp (bC c l.rev)
def Tr.red_prp: ∀{t:Tr} {c:ar},t.Red c->t.Prp c
 | .leaf _,_,_=>trivial
 | .node _ _ _,_,⟨h1,h2,h3,h4,_⟩=>⟨h1,h2,Tr.red_prp h3,Tr.red_prp h4⟩
def atr(hc:bD c)(hl:l.ok)(hp:bt c p)(h0:l.value p=0):co c l=true/\co c l.rev=true:=by
 have hn:=oq hl.ne;obtain⟨e,he,hm⟩:=hp.open l.nor;obtain⟨f,hf,hk⟩:=hp.open (bG l.nor);have hn2:l.nor.dot (bG l.nor)= -(l.nor.dot l.nor):=by unfold bG ah.dot;dsimp only;grind
 refine⟨(oH hc hl).2 ⟨_,hm e (by grind) (by grind),?_⟩,(oH hc hl.rev).2 ⟨_,hk f (by grind) (by grind),?_⟩⟩
 .rw[jF,h0];have:=dh he hn;grind
 .rw[eD,jF,h0,hn2];have:=dh hf hn;grind
def mB(c:ar)(m:aa):Bool:=co c m&&co c m.rev
def po(hc:bD c){m:aa}(hm:m.ok):mB c m=true↔DL m c:=by
 unfold mB;rw[cZ];constructor
 .rintro ⟨h1,h2⟩
  obtain⟨p,hp,k1⟩:=(oH hc hm).1 h1;obtain⟨q,hq,k2⟩:=(oH hc hm.rev).1 h2;rw[eD] at k2;generalize hA:m.value p=A at*;generalize hB:m.value q=B at*;have hAB:0<A-B:=by grind
  have e:A/(A-B)*(A-B)=A:=by grind
  generalize A/(A-B)=r at*;have r0:0<=r:=(iv hAB).1 (by rw[e];exact cM k1);have r1:r<=1:=by
   have:=(iv (s:=1-r) hAB).1 (by grind);grind
  exact⟨kB p q r,hp.seg hq r0 r1,by rw[l9,hA,hB];grind⟩
 .rintro ⟨p,hp,h0⟩
  exact atr hc hm hp h0
def xB(c:ar)(m n:aa):Bool:=decide (¬m.same n)&&(decide (n.value (zf m n)=0)&&rx c (zf m n))
def ri{m n:aa}(hm:m.ok)(hn:n.ok):xB c m n=true↔ ¬m.same n/\ ∃z,bt c z/\m.value z=0/\n.value z=0:=by
 unfold xB;rw[cZ,cZ,decide_eq_true_eq,decide_eq_true_eq,sF];constructor
 .rintro ⟨h1,h2,h3⟩
  exact⟨h1,_,h3,mj hm.ne _,h2⟩
 .rintro ⟨h1,z,hz,k1,k2⟩
  rcases CM hm hn k1 k2 with h|h
  .exact absurd h h1
  .rw[<-h];exact⟨h1,k2,hz⟩
def FO{m n:aa}(hm:m.ok)(hn:n.ok):xB c m n=xB c n m:=by
 rw[rY,ri hm hn,ri hn hm];constructor<;>(rintro ⟨h,z,hz,k1,k2⟩;exact⟨fun e=>h e.symm,z,hz,k2,k1⟩)
def iI(f:aa->Nat):List aa->Nat
 |[]=>0
 |m::K=>f m+iI f K
def bN(b:Bool):Nat:=if b then 1 else 0
def RA{f g:aa->Nat}: ∀{K:List aa},(∀m∈K,f m<=g m)->iI f K<=iI g K
 |[],_=>bX _
 |m::K,h=>by
  have:=RA (f:=f) (g:=g) (K:=K) fun n hn=>h n (aJ _ hn);have:=h m aQ;show f m+iI f K<=g m+iI g K;omega
def Ab(f g:aa->Nat): ∀K,iI (fun m=>f m+g m) K=iI f K+iI g K
 |[]=>rfl
 |m::K=>by
  have:=Ab f g K;show f m+g m+iI (fun m=>f m+g m) K=f m+iI f K+(g m+iI g K);omega
def zp{f g:aa->Nat}{d:Nat}{m0:aa}: ∀{K:List aa},(∀m∈K,f m<=g m)->m0∈K->f m0+d<=g m0->iI f K+d<=iI g K
 |[],_,h,_=>by cases h
 |m::K,h,hm,hd=>by
  have i1:=RA (f:=f) (g:=g) (K:=K) fun n hn=>h n (aJ _ hn);have:=h m aQ;show f m+iI f K+d<=g m+iI g K;rcases aW.1 hm with rfl|hm
  .omega
  .have:=zp (f:=f) (g:=g) (d:=d) (K:=K) (fun n hn=>h n (aJ _ hn)) hm hd
   omega
def zc{f:aa->Nat}{B:Nat}: ∀{K:List aa},(∀m∈K,f m<=B)->iI f K<=K.length*B
 |[],_=>bZ _
 |m::K,h=>by
  have:=zc (f:=f) (B:=B) (K:=K) fun n hn=>h n (aJ _ hn);have:=h m aQ;show f m+iI f K<=(K.length+1)*B;rw[gJ];omega
def rA(K:List aa)(c:ar):Nat:=iI (fun m=>bN (mB c m)) K
def kj(K:List aa)(c:ar)(m:aa):Nat:=iI (fun n=>bN (xB c m n)) K
def zr(K:List aa)(c:ar):Nat:=iI (kj K c) K
def JA(b:Bool):bN b<=1:=by cases b<;>decide
def asW(hK: ∀m∈K,m.ok)(hc:bD c){n:aa}(hn:n.ok)(h0:m0∈K)(hs:m0.same n)(hb:co c n=true)(hb2:co c n.rev=true):
  rA K (bC c n)+rA K (bC c n.rev)+1<=rA K c+kj K c m0/\zr K (bC c n)+zr K (bC c n.rev)+2*kj K c m0<=zr K c:=by
 obtain⟨g1,i1⟩:=gt hc hn hb;obtain⟨g2,i2⟩:=gt hc hn.rev hb2;have i2: ∀p,bt (bC c n.rev) p↔bt c p/\n.value p<0:=fun p=>by rw[i2,eD];constructor<;>(rintro ⟨a,b⟩;exact⟨a,by grind⟩)
 have hm0:=hK m0 h0;have z1: ∀m,m.ok->(mB (bC c n) m=true->mB c m=true)/\(mB (bC c n.rev) m=true->mB c m=true):=fun m hm=>by
  rw[po g1 hm,po g2 hm,po hc hm];exact⟨fun⟨p,hp,k⟩=>⟨p,((i1 p).1 hp).1,k⟩,fun⟨p,hp,k⟩=>⟨p,((i2 p).1 hp).1,k⟩⟩
 have z2: ∀m,m.ok->mB (bC c n) m=true->mB (bC c n.rev) m=true->xB c m0 m=true:=fun m hm h1 h2=>by
  obtain⟨p,hp,k1⟩:=(po g1 hm).1 h1;obtain⟨q,hq,k2⟩:=(po g2 hm).1 h2;obtain⟨hp,ap⟩:=(i1 p).1 hp;obtain⟨hq,aq⟩:=(i2 q).1 hq;rw[ri hm0 hm];refine⟨fun e=>?_,?_⟩
  .rw[oO hs (oO e.symm k1)] at ap;grind
  generalize hA:n.value p=A at*;generalize hB:n.value q=B at*;have hAB:0<A-B:=by grind
  have e:A/(A-B)*(A-B)=A:=by grind
  generalize A/(A-B)=r at*;have r0:0<=r:=(iv hAB).1 (by rw[e];exact cM ap);have r1:r<=1:=by
   have:=(iv (s:=1-r) hAB).1 (by grind);grind
  exact⟨kB p q r,hp.seg hq r0 r1,oO hs.symm (by rw[l9,hA,hB];grind),by rw[l9,k1,k2];grind⟩
 have w1: ∀m m',m.ok->m'.ok->xB (bC c n) m m'=true->xB c m m'=true/\ ¬xB (bC c n.rev) m m'=true:=fun m m' hm hm' h=>by
  rw[ri hm hm'] at h;obtain⟨e,z,hz,k1,k2⟩:=h;obtain⟨hz,az⟩:=(i1 z).1 hz;refine⟨(ri hm hm').2 ⟨e,z,hz,k1,k2⟩,fun h=>?_⟩;obtain⟨_,y,hy,j1,j2⟩:=(ri hm hm').1 h;obtain⟨hy,ay⟩:=(i2 y).1 hy;rcases CM hm hm' k1 k2 with h|h
  .exact e h
  .rcases CM hm hm' j1 j2 with h'|h'
   .exact e h'
   .rw[h'] at ay;rw[h] at az;grind
 have w2: ∀m m',m.ok->m'.ok->xB (bC c n.rev) m m'=true->xB c m m'=true:=fun m m' hm hm' h=>by
  rw[ri hm hm'] at h⊢;obtain⟨e,z,hz,k1,k2⟩:=h;exact⟨e,z,((i2 z).1 hz).1,k1,k2⟩
 have w3: ∀m,m.ok->xB (bC c n) m m0=false/\xB (bC c n.rev) m m0=false:=fun m hm=>by
  constructor
  .rw[<-jL,ri hm hm0]
   rintro ⟨_,z,hz,_,k2⟩;have:=((i1 z).1 hz).2;rw[oO hs k2] at this;grind
  .rw[<-jL,ri hm hm0]
   rintro ⟨_,z,hz,_,k2⟩;have:=((i2 z).1 hz).2;rw[oO hs k2] at this;grind
 have hmm: ∀d,xB d m0 m0=false:=fun d=>by
  rw[<-jL,ri hm0 hm0];rintro ⟨h,_⟩;exact h (.inl rfl)
 have n1: ∀d:ar,bD d->(∀p,bt d p->n.value p≠0)->mB d m0=false:=fun d hd h=>by
  rw[<-jL,po hd hm0];rintro ⟨p,hp,k⟩;exact h p hp (oO hs k)
 have n2:mB c m0=true:=by
  rw[po hc hm0];obtain⟨p,hp,k⟩:=(po hc hn).1 (by unfold mB;rw[hb,hb2];rfl);exact⟨p,hp,oO hs.symm k⟩
 constructor
 .unfold rA kj
  rw[<-Ab,<-Ab];refine zp (m0:=m0) (d:=1) (fun m hm=>?_) h0 ?_
  .have hmk:=hK m hm
   obtain⟨a1,a2⟩:=z1 m hmk;have a3:=z2 m hmk
   try dsimp only
   cases e1:mB (bC c n) m<;>cases e2:mB (bC c n.rev) m<;>simp only[e1,e2,forall_const,reduceCtorEq,false_implies] at a1 a2 a3<;>simp_all [bN]
  .try dsimp only
   rw[n1 _ g1 (fun p hp=>by have:=((i1 p).1 hp).2;grind),n1 _ g2 (fun p hp=>by have:=((i2 p).1 hp).2;grind),n2,hmm];decide
 .have row: ∀m∈K,kj K (bC c n) m+kj K (bC c n.rev) m+bN (xB c m m0)<=kj K c m:=fun m hm=>by
   have hmk:=hK m hm;unfold kj;rw[<-Ab];refine zp (m0:=m0) (d:=bN (xB c m m0)) (fun m' hm'=>?_) h0 ?_
   .have hmk':=hK m' hm'
    have b1:=w1 m m' hmk hmk';have b2:=w2 m m' hmk hmk'
    try dsimp only
    cases e1:xB (bC c n) m m'<;>cases e2:xB (bC c n.rev) m m'<;>simp_all [bN]
   .obtain⟨c1,c2⟩:=w3 m hmk
    try dsimp only
    rw[c1,c2];simp[bN]
  have r0:kj K (bC c n) m0=0/\kj K (bC c n.rev) m0=0:=by
   have z: ∀d,(∀m∈K,xB d m0 m=false)->kj K d m0=0:=fun d h=>by
    have:=zc (f:=fun m=>bN (xB d m0 m)) (B:=0) (K:=K) fun m hm=>by rw[h m hm];decide
    unfold kj;omega
   exact⟨z _ fun m hm=>by rw[FO hm0 (hK m hm)];exact(w3 m (hK m hm)).1,z _ fun m hm=>by rw[FO hm0 (hK m hm)];exact(w3 m (hK m hm)).2⟩
  have cs:iI (fun m=>bN (xB c m m0)) K=kj K c m0:=by
   unfold kj;have key: ∀Jv:List aa,(∀m∈Jv,m.ok)->iI (fun m=>bN (xB c m m0)) Jv=iI (fun m=>bN (xB c m0 m)) Jv:=fun Jv=>by
    induction Jv with
    |nil=>intro _;rfl
    |cons a Jv ih=>
     intro h;show bN (xB c a m0)+_=bN (xB c m0 a)+_;rw[ih fun m hm=>h m (aJ _ hm),FO (h a aQ) hm0]
   exact key K hK
  have:=zp (f:=fun m=>kj K (bC c n) m+kj K (bC c n.rev) m+bN (xB c m m0)) (g:=kj K c) (d:=kj K c m0) (m0:=m0) row h0 (by rw[r0.1,r0.2,hmm];simp[bN]);rw[Ab,Ab,cs] at this;unfold zr;omega
def Iv{K:List aa}(hK: ∀m∈K,m.ok): ∀{t:Tr} {c:ar},t.Prp c->t.all aa.ok->bD c->fi K t->2*t.size<=2*rA K c+zr K c
 | .leaf _,_,_,_,_,_=>bZ _
 | .node n x y,c,⟨h1,h2,h3,h4⟩,⟨hn,hx,hy⟩,hc,⟨⟨m0,hm0,hs⟩,kx,ky⟩=>by
  obtain⟨g1,_⟩:=gt hc hn h1;obtain⟨g2,_⟩:=gt hc hn.rev h2;have a:=Iv hK h3 hx g1 kx;have b:=Iv hK h4 hy g2 ky;obtain⟨d1,d2⟩:=asW hK hc hn hm0 hs h1 h2;rw[Tr.size];omega
def QL(hK: ∀m∈K,m.ok)(h:t.Prp c)(ht:t.all aa.ok)(hc:bD c)(hA:fi K t):2*t.size<=K.length*(K.length+1):=by
 have h1:=Iv hK h ht hc hA;have h2:rA K c<=K.length*1:=zc fun m _=>JA _;have h3:zr K c<=K.length*(K.length-1):=zc fun m hm=>by
  have:=zp (f:=fun n=>bN (xB c m n)) (g:=fun _=>1) (d:=1) (m0:=m) (K:=K) (fun n _=>JA _) hm (by
   have:xB c m m=false:=by rw[<-jL,ri (hK m hm) (hK m hm)];rintro ⟨h,_⟩;exact h (.inl rfl)
   rw[this];decide)
  have l1:iI (fun _=>1) K<=K.length*1:=zc fun _ _=>bX _;unfold kj;omega
 have:K.length*(K.length+1)=K.length*(K.length-1)+2*K.length:=by
  cases K.length with
  |zero=>rfl
  |succ k=>rw[Nat.succ_sub_one,Nat.mul_succ,Nat.mul_succ,gJ];omega
 omega
def HT{K:List aa}(hK: ∀m∈K,m.ok): ∀{t:Tr} {c:ar},t.Prp c->t.all aa.ok->bD c->fi K t->t.depth<=rA K c
 | .leaf _,_,_,_,_,_=>bZ _
 | .node n x y,c,⟨h1,h2,h3,h4⟩,⟨hn,hx,hy⟩,hc,⟨⟨m0,hm0,hs⟩,kx,ky⟩=>by
  obtain⟨g1,i1⟩:=gt hc hn h1;obtain⟨g2,i2⟩:=gt hc hn.rev h2;have a:=HT hK h3 hx g1 kx;have b:=HT hK h4 hy g2 ky;have hm0k:=hK m0 hm0;have n2:mB c m0=true:=by
   rw[po hc hm0k];obtain⟨p,hp,k⟩:=(po hc hn).1 (by unfold mB;rw[h1,h2];rfl);exact⟨p,hp,oO hs.symm k⟩
  have key: ∀d:ar,bD d->(∀p,bt d p->bt c p/\n.value p≠0)->rA K d+1<=rA K c:=fun d hd h=>by
   unfold rA;refine zp (m0:=m0) (d:=1) (fun m hm=>?_) hm0 ?_
   .have hmk:=hK m hm
    cases e1:mB d m with
    |false=>exact bZ _
    |true=>
     obtain⟨p,hp,k⟩:=(po hd hmk).1 e1;rw[(po hc hmk).2 ⟨p,(h p hp).1,k⟩];exact bX _
   .have e1:mB d m0=false:=by
     rw[<-jL,po hd hm0k];rintro ⟨p,hp,k⟩;exact(h p hp).2 (oO hs k)
    try dsimp only
    rw[e1,n2];decide
  have d1:=key _ g1 fun p hp=>⟨((i1 p).1 hp).1,by have:=((i1 p).1 hp).2;grind⟩;have d2:=key _ g2 fun p hp=>⟨((i2 p).1 hp).1,by have:=((i2 p).1 hp).2;rw[eD] at this;grind⟩;show 1+max _ _<=_;omega
def auv(hK: ∀m∈K,m.ok)(h:t.Prp c)(ht:t.all aa.ok)(hc:bD c)(hA:fi K t):t.depth<=K.length:=by
 have h1:=HT hK h ht hc hA;have h2:rA K c<=K.length*1:=zc fun m _=>JA _;omega
structure sg (K:List aa) (t:Tr):Prop where
 ok:t.all aa.ok
 am:fi K t
 rd:t.Red []
def sg.size{K:List aa}(hK: ∀m∈K,m.ok){t:Tr}(h:sg K t):2*t.size<=K.length*(K.length+1)/\t.depth<=K.length:=
 ⟨QL hK (Tr.red_prp h.rd) h.ok bD.nil h.am,auv hK (Tr.red_prp h.rd) h.ok bD.nil h.am⟩
def sg.merge{K:List aa}{op:Int}{t u:Tr}(h:sg K t)(hu:u.all aa.ok)(hA:fi K u):sg K (t.mergeQ op u []):=
 ⟨Tr.mergeQ_all aa.ok op hu t [] h.ok,h.am.merge hA [],Tr.merge_red op u t []⟩
def sg.lim(hK: ∀m∈K,m.ok)(hn:K.length<=361){u:Tr}(h:sg K t)(hu:u.all aa.ok)(hA:fi K u)(hd:u.depth<=600):lG op t u=some (t.mergeQ op u []):=by
 obtain⟨a1,a2⟩:=h.size hK;obtain⟨b1,_⟩:=(h.merge (op:=op) hu hA).size hK;have:K.length*(K.length+1)<=361*362:=gX hn (by omega);exact RG (op:=op) (a:=t) (b:=u) (by omega) (by omega)
def Qy{K:List aa}(hK: ∀m∈K,m.ok)(hn:K.length<=361){op:Int}: ∀{us:List Tr} {t:Tr},(∀u∈us,u.all aa.ok/\fi K u/\u.depth<=600)->sg K t->oG op t us=some (us.foldl (fun t u=>t.mergeQ op u []) t)/\sg K (us.foldl (fun t u=>t.mergeQ op u []) t)
 |[],t,_,ht=>⟨J,ht⟩
 |u::us,t,h,ht=>by
  obtain⟨h1,h2,h3⟩:=h u aQ;obtain⟨i1,i2⟩:=Qy hK hn (op:=op) (us:=us) (fun v hv=>h v (aJ _ hv)) (ht.merge (op:=op) h1 h2);refine⟨?_,i2⟩;rw[oG,ht.lim hK hn h1 h2 h3];exact i1
def s7(V:List ah)(E:List (ah×ah))(K:List aa)(cs:List ar):List aa:=(K.flatMap fun l=>[kr l V,kr l.rev V])++cs.flatMap fun c=>E.filterMap (mp c)
def IY{α β:Type}{f:α->List β}{n:Nat}: ∀{l:List α},(∀x∈l,(f x).length<=n)->(l.flatMap f).length<=l.length*n
 |[],_=>by simp
 |x::l,h=>by
  have:=IY (f:=f) (n:=n) (l:=l) fun y hy=>h y (aJ _ hy);have:=h x aQ;rw[lN,aU,bJ,gJ];omega
def azI{E:List (ah×ah)}{cs:List ar}:(s7 V E K cs).length<=K.length*2+cs.length*E.length:=by
 unfold s7;rw[aU];have h1:=IY (f:=fun l=>[kr l V,kr l.rev V]) (n:=2) (l:=K) fun x _=>bX _;have h2:=IY (f:=fun c=>E.filterMap (mp c)) (n:=E.length) (l:=cs) fun x _=>mV _ _;omega
def Jg{E:List (ah×ah)}(hB:gO V E)(hK: ∀l∈K,l.ok){cs:List ar}: ∀l∈s7 V E K cs,l.ok:=fun l hl=>by
 rcases bW.1 hl with h|h
 .obtain⟨k,hk,h⟩:=iU.1 h
  simp only[aW,dR,or_false] at h;rcases h with rfl|rfl
  .exact(BW (hK k hk) V).1
  .exact(BW (hK k hk).rev V).1
 .obtain⟨c,_,h⟩:=iU.1 h
  obtain⟨f,hf,h⟩:=jM.1 h;obtain⟨_,_,h1,_⟩:=DA (hB.nz hf) h;exact h1
def XA{E:List (ah×ah)}{cs:List ar}(hc:c∈cs)(hs: ∀s∈c,∃m∈K,m.same s.l): ∀l∈jB c V E,l∈s7 V E K cs:=fun l hl=>by
 unfold jB at hl;rcases bW.1 hl with h|h
 .obtain⟨s,hs',rfl⟩:=aT.1 h
  obtain⟨m,hm,k⟩:=hs s hs';refine bU _ (iU.2 ⟨m,hm,?_⟩);rcases k with k|k<;>rw[k]<;>simp
 .exact bK _ (iU.2 ⟨c,hc,h⟩)
def VJ: ∀l∈iO L,l∈L:=fun _ h=>(uH.1 h).1
def Ii{E:List (ah×ah)}(h: ∀l∈jB c V E,P l):(fj V E c).all P:=Nz fun l hl=>h l (VJ l hl)
def XT{E:List (ah×ah)}:(jB c V E).length<=c.length+E.length:=by
 unfold jB;rw[aU,aX];have:=mV (mp c) E;omega
def Vf{E:List (ah×ah)}:(fj V E c).depth<=c.length+E.length:=by
 unfold fj;rw[PS];exact cS (BU _) XT
def asX(hA:fi K t)(hc:c∈eu t): ∀s∈c,∃m∈K,m.same s.l:=
 yk (P:=fun l=> ∃m∈K,m.same l) (fun l ⟨m,hm,h⟩=>⟨m,hm,h.trans (.inr J)⟩) hA (fun s hs=>by cases hs) (uG.1 hc)
def YC{E:List (ah×ah)}(hB:gO V E)(ht:t.all aa.ok)(hK: ∀l∈K,l.ok)(hA:fi K t)(hs: ∀c∈eu (t.restrict []),c.length+E.length<=600)(hn:(s7 V E K (eu (t.restrict []))).length<=361):
  oG 1 (Tr.leaf false) ((eu (t.restrict [])).map (fj V E))=some (m6 V E t)/\sg (s7 V E K (eu (t.restrict []))) (m6 V E t):=by
 have h:=Qy (K:=s7 V E K (eu (t.restrict []))) (Jg hB hK) hn (op:=1) (us:=(eu (t.restrict [])).map (fj V E)) (t:= .leaf false) (fun u hu=>by
  obtain⟨c,hc,rfl⟩:=aT.1 hu;obtain⟨g1,g2⟩:=wS ht c hc;exact⟨CV hB g1 g2,Ii fun l hl=>⟨l,XA hc (asX (hA.restrict []) hc) l hl, .inl J⟩,cS Vf (hs c hc)⟩) ⟨trivial,trivial,trivial⟩
 rw[List.foldl_map] at h;exact h
def ZB(p:ah):Prop:= ∃m n:Int,p=iP m n/\m.natAbs<=8/\n.natAbs<=8
def ZB.neg(h:ZB p):ZB (bG p):=by
 obtain⟨m,n,rfl,h1,h2⟩:=h;refine⟨-m, -n,?_,by omega,by omega⟩;unfold bG iP;rw[jQ,jQ]
def QD(k:Nat)(q:ah):Prop:= ∃(D:Nat) (X Y:Int),0<D/\D<=2^k/\X.natAbs<=2^k/\Y.natAbs<=2^k/\q.x*((D:Int):Rat)=(X:Rat)/\q.y*((D:Int):Rat)=(Y:Rat)
def LF(x y z:Int):d7 (x:Rat) (y:Rat) (z:Rat)=py x y z:=by
 unfold d7;simp only[oZ,oX];simp
def i5{a b:Int}(ha:a.natAbs<=A)(hb:b.natAbs<=B):(a*b).natAbs<=A*B:=by
 rw[fR];exact gX ha hb
def Gn{a b c d:Int}(ha:a.natAbs<2^k)(hb:b.natAbs<2^k)(hc:c.natAbs<2^k)(hd:d.natAbs<2^k):(a*b-c*d).natAbs<=2^(2*k+1):=by
 have h1:=i5 (gR ha) (gR hb);have h2:=i5 (gR hc) (gR hd);have e:2^(2*k+1)=2^k*2^k+2^k*2^k:=by rw[fY,Nat.two_mul,eY];omega
 generalize a*b=u at*;generalize c*d=v at*;generalize 2^k*2^k=w at*;omega
def Qo{D:Int}(h0:D≠0)(hD:D.natAbs<=2^k)(hX:X.natAbs<=2^k)(hY:Y.natAbs<=2^k)(e1:q.x*(D:Rat)=(X:Rat))(e2:q.y*(D:Rat)=(Y:Rat)):QD k q:=by
 rcases Int.lt_or_lt_of_ne h0 with h|h
 .refine⟨D.natAbs, -X, -Y,by omega,hD,by omega,by omega,?_,?_⟩
  .rw[show((D.natAbs:Int))= -D by omega,jQ,jQ];grind
  .rw[show((D.natAbs:Int))= -D by omega,jQ,jQ];grind
 .refine⟨D.natAbs,X,Y,by omega,hD,hX,hY,?_,?_⟩
  .rw[show((D.natAbs:Int))=D by omega];exact e1
  .rw[show((D.natAbs:Int))=D by omega];exact e2
def R1{m:aa}(hl:BL l k)(hm:BL m k)(h:crossI l m≠0):QD (2*k+1) (di l m):=by
 have h':((crossI l m:Int):Rat)≠0:=fun e=>h (cX.1 e);refine Qo (D:=crossI l m) (X:=meetX l m) (Y:=meetY l m) h (Gn hl.a hm.b hm.a hl.b) ?_ ?_ ?_ ?_
 .unfold meetX;exact Gn hl.b hm.c hm.b hl.c
 .unfold meetY;exact Gn hm.a hl.c hl.a hm.c
 .unfold di;rw[if_neg h];exact rL h'
 .unfold di;rw[if_neg h];exact rL h'
def Q8(hl:BL l k)(h:l.ok):QD (2*k+1) l.base:=by
 have hn:=oq h.ne;have e:l.nor.dot l.nor=((l.a*l.a+l.b*l.b:Int):Rat):=by
  unfold aa.nor ah.dot;rw[lV,cW,cW]
 have hz:l.nor.dot l.nor≠0:=by grind
 have h0:l.a*l.a+l.b*l.b≠0:=fun k=>hz (by rw[e,k];rfl);have e4:(2:Nat)^(2*k+1)=2^k*2^k+2^k*2^k:=by rw[fY,Nat.two_mul,eY];omega
 have q1:=i5 (gR hl.a) (gR hl.a);have q2:=i5 (gR hl.b) (gR hl.b);have q3:=i5 (gR hl.a) (gR hl.c);have q4:=i5 (gR hl.b) (gR hl.c);refine Qo (D:=l.a*l.a+l.b*l.b) (X:= -(l.a*l.c)) (Y:= -(l.b*l.c)) h0 (by omega) (by omega) (by omega) ?_ ?_
 .rw[<-e]
  show(l.a:Rat)*(-(l.c:Rat)/l.nor.dot l.nor)*l.nor.dot l.nor=_;rw[Rat.mul_assoc,rL hz,jQ,cW];grind
 .rw[<-e]
  show(l.b:Rat)*(-(l.c:Rat)/l.nor.dot l.nor)*l.nor.dot l.nor=_;rw[Rat.mul_assoc,rL hz,jQ,cW];grind
def MV(h:q∈jC L): ∃l∈L,∃m∈L,crossI l m≠0/\q=di l m:=by
 obtain⟨i,hi,h⟩:=iU.1 h;rw[kQ] at hi;obtain⟨l,hl⟩: ∃l,L[i]? =some l:=⟨_,aZ hi⟩;obtain⟨m,hm⟩: ∃m,L[(i+1)%L.length]? =some m:=⟨_,aZ (dV _ (by omega))⟩;rw[wi hl hm] at h;split at h
 .rename_i hc
  refine⟨l,aV hl,m,aV hm,fun e=>?_,by simpa using h⟩;have h2:l.dir.cross m.dir=0:=by
   have:=u' l m;rw[e] at this;unfold ah.cross aa.dir;dsimp only;have z:((0:Int):Rat)=0:=J;rw[z] at this;grind
  rw[h2] at hc;exact absurd hc (by decide)
 .cases h
def TN(hc:bD c)(ha:gz c)(hk: ∀s∈c,BL s.l k){f:ah×ah}(hn: ¬((bE f).x=0/\(bE f).y=0))(h1:ZB f.1)(h2:ZB f.2)(h:mp c f=some l):BL l (2*k+10):=by
 unfold mp at h
 cases hf:hH c (bE f) with
 |none=>rw[hf] at h;cases h
 |some m=>
  rw[hf] at h
  cases h
  obtain⟨e1,e2⟩:=Na hc ha hn hf;obtain⟨q,hq,e3⟩:=(sh (n:=bE f) e2).2;rw[e1] at e3;have hqd:QD (2*k+1) q:=by
   unfold Ak at hq;split at hq
   .obtain⟨l,hl,rfl⟩:=aT.1 hq
    obtain⟨s,hs,rfl⟩:=aT.1 hl;exact Q8 (hk s hs) (hc.ok s hs)
   .obtain⟨l,hl,m,hm,hx,rfl⟩:=MV hq
    obtain⟨s,hs,rfl⟩:=aT.1 hl;obtain⟨u,hu,rfl⟩:=aT.1 hm;exact R1 (hk s hs) (hk u hu) hx
  obtain⟨D,X,Y,hD0,hD,hX,hY,x1,y1⟩:=hqd;obtain⟨m1,n1,p1,a1,a2⟩:=h1;obtain⟨m2,n2,p2,a3,a4⟩:=h2;have nx:(bE f).x=((n1-n2:Int):Rat):=by unfold bE;rw[p1,p2];unfold iP;rw[iR];grind
  have ny:(bE f).y=((m2-m1:Int):Rat):=by unfold bE;rw[p1,p2];unfold iP;rw[iR]
  generalize hA:n1-n2=A at nx;generalize hB:m2-m1=B at ny;have hD0':(0:Rat)<((D:Int):Rat):=by exact_mod_cast hD0
  have key:d7 (bE f).x (bE f).y (-(m+(bE f).dot f.1))=py (A*D) (B*D) (-(A*X+B*Y+(A*m1+B*n1)*D)):=by
   rw[<-LF];refine(YT (fun uv=>?_) hn hD0' fun p=>?_).symm
   .obtain⟨u,v⟩:=uv
    rw[cW,<-nx] at u;rw[cW,<-ny] at v;refine hn ⟨?_,?_⟩
    .rcases fW.1 u with u|u
     .exact u
     .grind
    .rcases fW.1 v with v|v
     .exact v
     .grind
   .rw[e3,p1]
    unfold ah.dot iP;dsimp only;rw[nx,ny];simp only[cW,jQ,lV];rw[<-x1,<-y1];grind
  show BL (d7 (bE f).x (bE f).y (-(m+(bE f).dot f.1))) _;rw[key];have hA16:A.natAbs<=16:=by omega
  have hB16:B.natAbs<=16:=by omega
  have b0:(D:Int).natAbs<=2^(2*k+1):=hD;have b1:=i5 hA16 b0;have b2:=i5 hB16 b0;have b3:=i5 hA16 hX;have b4:=i5 hB16 hY;have b5:(A*m1+B*n1).natAbs<=256:=by
   have:=i5 hA16 a1;have:=i5 hB16 a2;omega
  have b6:=i5 b5 b0;obtain⟨r1,r2,r3⟩:=AP (A*D) (B*D) (-(A*X+B*Y+(A*m1+B*n1)*D));have e9:2^(2*k+10)=2^(2*k+1)*512:=by rw[show 2*k+10=2*k+1+9 by omega,eY]
  have w0:0<2^(2*k+1):=fX (by decide);generalize 2^(2*k+1)=w at*;exact⟨by omega,by omega,by omega⟩
def YJ(hl:l.ok)(hk:BL l k)(hV:V≠[])(hz: ∀v∈V,ZB v):BL (kr l V) (2*k+10):=by
 obtain⟨v,hv,e⟩:=(sh (n:=l.nor) hV).2;obtain⟨m,n,rfl,h1,h2⟩:=hz v hv;unfold kr;have e2:(l.c:Rat)-kg l.nor V=((l.c-(l.a*m+l.b*n):Int):Rat):=by
  rw[e];unfold ah.dot aa.nor iP;rw[iR,lV,cW,cW]
 rw[e2,LF];obtain⟨r1,r2,r3⟩:=AP l.a l.b (l.c-(l.a*m+l.b*n));have b1:=i5 (gR hk.a) h1;have b2:=i5 (gR hk.b) h2;have ka:=hk.a;have kb:=hk.b;have kc:=hk.c;have e9:2^(2*k+10)=2^k*(2^k*1024):=by rw[show 2*k+10=k+(k+10) by omega,eY,eY]
 have w1:1<=2^k:=fX (by decide);have e10:2^k*1024<=2^k*(2^k*1024):=by rw[<-cJ];exact bL _ (mR _ w1)
 generalize 2^k*(2^k*1024)=z at*;generalize 2^k=w at*;exact⟨by omega,by omega,by omega⟩
def BL.mono(h:BL l j)(hk:j<=k):BL l k:=by
 have:=bR (n:=2) (by decide) hk;exact⟨dZ h.a this,dZ h.b this,dZ h.c this⟩
def BL.rev{l:aa}{k:Nat}(h:BL l k):BL l.rev k:=⟨by unfold aa.rev;dsimp only;rw[jR];exact h.a,by unfold aa.rev;dsimp only;rw[jR];exact h.b,by unfold aa.rev;dsimp only;rw[jR];exact h.c⟩
def KP{E:List (ah×ah)}(hB:gO V E)(hz: ∀v∈V,ZB v)(hc:bD c)(ha:gz c)(hk: ∀s∈c,BL s.l k): ∀l∈jB c V E,BL l (2*k+10):=fun l hl=>by
 rcases bW.1 hl with h|h
 .obtain⟨s,hs,rfl⟩:=aT.1 h
  exact YJ (hc.ok s hs) (hk s hs) hB.vne hz
 .obtain⟨f,hf,h⟩:=jM.1 h
  exact TN hc ha hk (hB.nz hf) (hz _ (hB.ends f hf).1) (hz _ (hB.ends f hf).2) h
def Xe{E:List (ah×ah)}(hB:gO V E)(hz: ∀v∈V,ZB v)(ht:t.all aa.ok)(hk:t.all fun l=>BL l k):(m6 V E t).all fun l=>BL l (2*k+10):=by
 unfold m6;have hb: ∀c∈eu (t.restrict []),(fj V E c).all fun l=>BL l (2*k+10):=fun c hc=>by
  obtain⟨g1,g2⟩:=wS ht c hc;exact Ii (KP hB hz g1 g2 (yk (P:=fun l=>BL l k) (fun l h=>h.rev) (t.restrict_all _ [] hk) (fun s hs=>by cases hs) (uG.1 hc)))
 have key: ∀(cs:List ar) (u:Tr),(∀c∈cs,(fj V E c).all fun l=>BL l (2*k+10))->(u.all fun l=>BL l (2*k+10))->(vT V E cs u).all fun l=>BL l (2*k+10):=fun cs=>by
  induction cs with
  |nil=>intro u _ hu;exact hu
  |cons c cs ih=>
   intro u h hu;exact ih _ (fun d hd=>h d (aJ _ hd)) (Tr.mergeQ_all _ 1 (h c aQ) u [] hu)
 exact key _ _ hb trivial
section
variable {r:List ZP}
end
def TZ(p u v:ZP):bu p.q (kC p u).q (kC p v).q=((kd u v:Int):Rat):=by
 unfold bu kC kd ZP.q iP;dsimp only;push_cast;grind
end Go.Sx
end
