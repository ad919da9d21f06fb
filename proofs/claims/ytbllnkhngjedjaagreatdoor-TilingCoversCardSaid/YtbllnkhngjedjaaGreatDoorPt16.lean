import Derived.Test.YtbllnkhngjedjaaGreatDoorPt15
set_option linter.all false
set_option maxHeartbeats 4000000
set_option maxRecDepth 100000
section
namespace Go.Sx
open Go Go.Proofs Tryz
variable {GB:Gh}
def vO(p q:ZP):Int:=if p.1<q.1 then-1 else if q.1<p.1 then 1 else if p.2<q.2 then-1 else if q.2<p.2 then 1 else 0
def ta(x:ZP):List ZP->List ZP
 |[]=>[x]
 |u::t=>if vO u x<0 then u::ta x t else if vO u x=0 then u::t else x::u::t
def uN(l:List ZP):List ZP:=l.foldl (fun out x=>ta x out) []
def Mw{x:ZP}: ∀{l:List ZP},(ta x l).length<=l.length+1
 |[]=>aM _
 |u::t=>by
  rw[ta];have:=Mw (x:=x) (l:=t);split
  .simp;omega
  .split<;>simp
def Yf(l:List ZP):(uN l).length<=l.length:=by
 have key: ∀(l o:List ZP),(l.foldl (fun out x=>ta x out) o).length<=l.length+o.length:=by
  intro l
  induction l with
  |nil=>intro o;simp
  |cons x t ih=>intro o;have:=ih (ta x o);have:=Mw (x:=x) (l:=o);simp only[kV,bJ];omega
 have:=key l [];simpa[uN] using this
def wx(a b c d:Int):List ZP:=[(a,b),(c,b),(c,d),(a,d)]
def AU{r:List ZP}{i:Nat}(h:i+1<r.length:=by omega):gu r i=r.getD (i+1) (0,0):=by unfold gu;rw[dV h]
def zo{r:List ZP}{i:Nat}(h:i+1=r.length:=by omega):gu r i=r.getD 0 (0,0):=by unfold gu;rw[h,tV]
def aut{a b c d:Int}(h1:a.natAbs<=50)(h2:b.natAbs<=50)(h3:c.natAbs<=50)(h4:d.natAbs<=50)(h5:a<c)(h6:b<d):d7 (wx a b c d):=by
 refine⟨by simp[wx],by simp[wx],fun p hp=>?_,fun i hi=>?_⟩
 .simp only[wx,aT,kQ,or_false] at hp
  rcases hp with rfl|rfl|rfl|rfl<;>exact⟨by dsimp only;omega,by dsimp only;omega⟩
 .have:i=0\/i=1\/i=2\/i=3:=by simp[wx] at hi;omega
  rcases this with rfl|rfl|rfl|rfl<;>simp[wx,gu]<;>omega
def uu(p u v:ZP):List ZP:=[p,D4 p u,D4 p v]
def UC{p u v:ZP}(h1:ZP.le 40 p)(h2:ZP.le 40 u)(h3:ZP.le 40 v)(h:wh u v≠0):d7 (uu p u v):=by
 obtain⟨p1,p2⟩:=p;obtain⟨u1,u2⟩:=u;obtain⟨v1,v2⟩:=v;unfold ZP.le at h1 h2 h3;dsimp only at h1 h2 h3;unfold wh at h;dsimp only at h;refine⟨by simp[uu],by simp[uu],fun p hp=>?_,fun i hi=>?_⟩
 .simp only[uu,D4,aT,kQ,or_false] at hp
  rcases hp with rfl|rfl|rfl<;>exact⟨by dsimp only;omega,by dsimp only;omega⟩
 .have:i=0\/i=1\/i=2:=by simp[uu] at hi;omega
  have hu: ¬(u1=0/\u2=0):=fun e=>h (by rw[e.1,e.2];simp);have hv: ¬(v1=0/\v2=0):=fun e=>h (by rw[e.1,e.2];simp);have huv: ¬(u1=v1/\u2=v2):=fun e=>h (by rw[e.1,e.2,Int.mul_comm];omega);rcases this with rfl|rfl|rfl<;>simp[uu,D4,gu]<;>omega
def ol(es:List Int):Nat->Nat->List ZP->List ZP×Nat
 |0,a,out=>(out,a)
 |n+1,a,out=>ol es n (pF es a).2 (if out.getLast? =some (pF es a).1 then out else out++[(pF es a).1])
structure l5 (r:List ZP):Prop where
 ne: ∀i,i+1<r.length->r.getD i (0,0)≠r.getD (i+1) (0,0)
 le: ∀p∈r,ZP.le 100 p
def l5.snoc{r:List ZP}{p:ZP}(h:l5 r)(hp:ZP.le 100 p)(hl:r.getLast? ≠some p):l5 (r++[p]):=by
 refine⟨fun i hi=>?_,fun q hq=>?_⟩
 .rw[aW,gU] at hi
  rw[aX,aX];by_cases h1:i+1<r.length
  .rw[cN (by omega),cN h1]
   have:=h.ne i h1;rwa [aX,aX] at this
  .have e:i+1=r.length:=by omega
   rw[cN (by omega),e,gQ (aM _),Nat.sub_self];rw[mQ,<-e,lZ] at hl;rw[aQ (by omega)] at hl⊢;intro c;exact hl (by simpa using c)
 .rcases bK.1 hq with hq|hq
  .exact h.le q hq
  .rw[aU] at hq;subst hq;exact hp
def Iq{es:List Int}: ∀{n a:Nat} {out:List ZP},a<=es.length->l5 out->l5 (ol es n a out).1/\(ol es n a out).1.length<=out.length+n/\(ol es n a out).2<=es.length
 |0,a,out,ha,h=>⟨h,aM _,ha⟩
 |n+1,a,out,ha,h=>by
  obtain⟨h1,h2,h3⟩:=xO ha;rw[ol];by_cases hl:out.getLast? =some (pF es a).1
  .rw[if_pos hl]
   obtain⟨k1,k2,k3⟩:=Iq (n:=n) h3 h;exact⟨k1,by omega,k3⟩
  .rw[if_neg hl]
   obtain⟨k1,k2,k3⟩:=Iq (n:=n) h3 (h.snoc (p:=(pF es a).1) ⟨by omega,by omega⟩ hl);rw[aW,gU] at k2;exact⟨k1,by omega,k3⟩
def ld:Nat->List ZP->List ZP
 |0,l=>l
 |n+1,l=>if 1<l.length/\l.getD 0 (0,0)=l.getD (l.length-1) (0,0) then ld n l.dropLast else l
def l5.drop{r:List ZP}(h:l5 r):l5 r.dropLast:=by
 refine⟨fun i hi=>?_,fun p hp=>h.le p ((sK _).subset hp)⟩;rw[iJ] at hi;have:=h.ne i (by omega);rw[aX,aX] at this⊢;rw[rM,rM,if_pos (by omega),if_pos (by omega)];exact this
def My: ∀{n:Nat} {l:List ZP},l5 l->l.length<=n+1->l5 (ld n l)/\(ld n l).length<=l.length/\(1<(ld n l).length->(ld n l).getD 0 (0,0)≠(ld n l).getD ((ld n l).length-1) (0,0))
 |0,l,h,hn=>⟨h,aM _,fun k=>absurd k (by unfold ld;omega)⟩
 |n+1,l,h,hn=>by
  rw[ld];split
  .obtain⟨h1,h2,h3⟩:=My (n:=n) h.drop (by rw[iJ];omega)
   rw[iJ] at h2;exact⟨h1,by omega,h3⟩
  .rename_i hc
   exact⟨h,aM _,fun k e=>hc ⟨k,e⟩⟩
def X3{r:List ZP}(h:l5 r)(h6:r.length<=6)(hc:1<r.length->r.getD 0 (0,0)≠r.getD (r.length-1) (0,0))(h3:3<=(uN r).length):d7 r:=by
 have:=Yf r;refine⟨by omega,h6,h.le,fun i hi=>?_⟩;by_cases h1:i+1<r.length
 .rw[AU h1];exact h.ne i h1
 .have e:i+1=r.length:=by omega
  rw[zo e];have:=hc (by omega);rw[show i=r.length-1 by omega];exact fun k=>this k.symm
def yQ:List ZP:=[(0,0),(2,0),(0,2)]
def V2:d7 yQ:=⟨by decide,by decide,fun p hp=>by
  simp only[yQ,aT,kQ,or_false] at hp;rcases hp with rfl|rfl|rfl<;>exact⟨by decide,by decide⟩,fun i hi=>by
  have:i=0\/i=1\/i=2:=by simp[yQ] at hi;omega
  rcases this with rfl|rfl|rfl<;>decide⟩
def sB(es:List Int)(a:Nat):List ZP×Nat:=
 ((if(uN (ld 6 (ol es (3+(av es 4 a).1) (av es 4 a).2 []).1)).length<3 then yQ else ld 6 (ol es (3+(av es 4 a).1) (av es 4 a).2 []).1),(ol es (3+(av es 4 a).1) (av es 4 a).2 []).2)
def l5.nil:l5 []:=⟨fun i hi=>by simp at hi,fun p hp=>by cases hp⟩
def LD{es:List Int}{a:Nat}(ha:a<=es.length):d7 (sB es a).1/\(sB es a).2<=es.length:=by
 have h1:=kG (es:=es) (n:=4) (a:=a);obtain⟨k1,k2,k3⟩:=Iq (n:=3+(av es 4 a).1) (gG (n:=4) ha) l5.nil;obtain⟨t1,t2,t3⟩:=My (n:=6) k1 (by simp at k2;omega);refine⟨?_,k3⟩;unfold sB;dsimp only;split
 .exact V2
 .exact X3 t1 (by simp at k2;omega) t3 (by omega)
def Ed(es:List Int)(n m k:Int)(a:Nat):List ZP×Nat:=
 let x:=av es n a
 let y:=av es n x.2
 let z:=av es m y.2
 let w:=av es m z.2
 (wx ((x.1:Int)-k) ((y.1:Int)-k) ((x.1:Int)-k+1+z.1) ((y.1:Int)-k+1+w.1),w.2)
def WE{es:List Int}{n m k:Int}{a:Nat}(ha:a<=es.length)(hn:1<=n:=by decide)(hn2:n<=10:=by decide)(hm:1<=m:=by decide)(hm2:m<=10:=by decide)(hk:0<=k:=by decide)(hk2:k<=10:=by decide):d7 (Ed es n m k a).1/\(Ed es n m k a).2<=es.length:=by
 have h1:=kG (es:=es) (a:=a) hn;have h2:=kG (es:=es) (a:=(av es n a).2) hn;have h3:=kG (es:=es) (a:=(av es n (av es n a).2).2) hm;have h4:=kG (es:=es) (a:=(av es m (av es n (av es n a).2).2).2) hm;exact⟨aut (by omega) (by omega) (by omega) (by omega) (by omega) (by omega),gG (gG (gG (gG ha)))⟩
def fI(es:List Int)(a:Nat):List ZP×Nat:=
 let k:=av es 4 a
 if(k.1:Int)=0 then Ed es 5 4 4 k.2
 else if(k.1:Int)=1 then
  let p:=pF es k.2
  let u:=vF es p.2
  let v:=vF es u.2
  if wh u.1 v.1≠0 then(uu p.1 u.1 v.1,v.2) else sB es v.2
 else sB es k.2
def yi{es:List Int}{a:Nat}(ha:a<=es.length):d7 (fI es a).1/\(fI es a).2<=es.length:=by
 have h0:=gG (n:=4) ha;unfold fI;dsimp only;split
 .exact WE h0
 .split
  .obtain⟨p1,p2,p3⟩:=xO h0
   obtain⟨u1,u2,u3,u4⟩:=Ee p3;obtain⟨v1,v2,v3,v4⟩:=Ee u4;split
   .rename_i hc
    exact⟨UC ⟨by omega,by omega⟩ ⟨by omega,by omega⟩ ⟨by omega,by omega⟩ hc,v4⟩
   .exact LD v4
  .exact LD h0
def Yu:List ZP:=[(0,0),(1,0),(0,1)]
def R1(es:List Int)(a:Nat):List ZP×Nat:=
 let k:=av es 2 a
 if(k.1:Int)=0 then Ed es 3 2 1 k.2
 else
  let x:=av es 3 k.2
  let y:=av es 3 x.2
  let u1:=av es 2 y.2
  let u2:=av es 3 u1.2
  let v1:=av es 3 u2.2
  let v2:=av es 2 v1.2
  (if 0<wh (1+(u1.1:Int),(u2.1:Int)-1) ((v1.1:Int)-1,1+(v2.1:Int)) then uu ((x.1:Int)-1,(y.1:Int)-1) (1+(u1.1:Int),(u2.1:Int)-1) ((v1.1:Int)-1,1+(v2.1:Int)) else Yu,v2.2)
def j0(es:List Int)(a:Nat):Tr×Nat:=
 let r:=fI es a
 let k:=av es 3 r.2
 if(k.1:Int)=0 then
  let s:=fI es k.2
  let f:=av es 2 s.2
  (l7 [r.1,s.1] (1+(f.1:Int)),f.2)
 else
  let f:=av es 2 k.2
  (l7 [r.1] (1+(f.1:Int)),f.2)
def Pd{es:List Int}{a:Nat}(ha:a<=es.length):jj 18 (j0 es a).1/\(j0 es a).2<=es.length:=by
 obtain⟨r1,r2⟩:=yi ha;have h3:=gG (n:=3) r2;unfold j0;dsimp only;split
 .obtain⟨s1,s2⟩:=yi h3
  exact⟨Mq (fun r hr=>by simp only[aT,kQ,or_false] at hr;rcases hr with rfl|rfl;exact r1;exact s1) (by simp),gG s2⟩
 .exact⟨Mq (fun r hr=>by simp only[aT,kQ,or_false] at hr;subst hr;exact r1) (by simp),gG h3⟩
def I2(l:ab):Tr:=(Tr.node l (.leaf true) (.leaf false)).restrict []
def td(es:List Int):Nat->Nat->Tr×Nat
 |0,a=>
  let k:=av es 6 a
  if(k.1:Int)=1 then(I2 (lF es k.2).1,(lF es k.2).2)
  else if(k.1:Int)=2 then((nf es 3 k.2).1.restrict [],(nf es 3 k.2).2)
  else if(k.1:Int)=3 then((j0 es k.2).1.compl,(j0 es k.2).2)
  else j0 es k.2
 |d+1,a=>
  let k:=av es 6 a
  if(k.1:Int)=0 then
   let x:=td es d k.2
   let o:=av es 4 x.2
   let y:=td es d o.2
   (x.1.mergeQ (1+(o.1:Int)) y.1 [],y.2)
  else if(k.1:Int)=1 then(I2 (lF es k.2).1,(lF es k.2).2)
  else if(k.1:Int)=2 then((nf es 3 k.2).1.restrict [],(nf es 3 k.2).2)
  else if(k.1:Int)=3 then((j0 es k.2).1.compl,(j0 es k.2).2)
  else j0 es k.2
def aLB(es:List Int)(a:Nat):Tr×Nat:=
 let k:=av es 4 a
 if(k.1:Int)=0 then(I2 (lF es k.2).1,(lF es k.2).2)
 else if(k.1:Int)=1 then((nf es 2 k.2).1.restrict [],(nf es 2 k.2).2)
 else(l7 [(R1 es k.2).1] 2,(R1 es k.2).2)
def HR(op:Int)(a b:Tr):Bool:=decide ((a.mergeQ op b []).isLeaf=true/\(a.mergeQ op b []).code=false)
def aHK(a b:Tr):Int:=if HR 4 a b then 0 else if HR 3 a b then-1 else if HR 3 b a then 1 else 2
def uG:Tr->aa->Bool
 | .leaf b,_=>b
 | .node l x y,p=>if(l.value p).num.sign=1 then uG x p else if(l.value p).num.sign= -1 then uG y p else false
def yL: ∀{t:Tr} {c:az} {b:Bool} {e:az},t.all ab.ok->bO c->(b,e)∈t.parts c->bO e/\ ∀p,bm e p->bm c p/\t.val p=b
 | .leaf v,c,b,e,_,hc,h=>by
  rw[Tr.parts,aU] at h
  cases h
  exact⟨hc,fun p hp=>⟨hp,J⟩⟩
 | .node l x y,c,b,e,⟨hl,hx,hy⟩,hc,h=>by
  rw[Tr.parts] at h;rcases bK.1 h with h|h
  .split at h
   .rename_i hb
    obtain⟨k1,k2⟩:=jA hc hl hb;obtain⟨m1,m2⟩:=yL hx k1 h;refine⟨m1,fun p hp=>?_⟩;obtain⟨n1,n2⟩:=m2 p hp;obtain⟨o1,o2⟩:=(k2 p).1 n1;exact⟨o1,by rw[Tr.val_pos o2,n2]⟩
   .cases h
  .split at h
   .rename_i hb
    obtain⟨k1,k2⟩:=jA hc hl.rev hb;obtain⟨m1,m2⟩:=yL hy k1 h;refine⟨m1,fun p hp=>?_⟩;obtain⟨n1,n2⟩:=m2 p hp;obtain⟨o1,o2⟩:=(k2 p).1 n1;rw[fq] at o2;exact⟨o1,by rw[Tr.val_neg (by grind),n2]⟩
   .cases h
def Hn: ∀{t:Tr} {c:az} {p:aa},t.all ab.ok->bO c->bm c p->fk t.lns p-> ∃b e,(b,e)∈t.parts c/\bm e p
 | .leaf v,c,p,_,_,hp,_=>⟨v,c,aU.2 J,hp⟩
 | .node l x y,c,p,⟨hl,hx,hy⟩,hc,hp,ho=>by
  have h0:=ho.l;rw[Tr.parts];by_cases h:0<l.value p
  .have hb:=(sF hc hl).2 ⟨p,hp,h⟩
   obtain⟨k1,k2⟩:=jA hc hl hb;obtain⟨b,e,m1,m2⟩:=Hn hx k1 ((k2 p).2 ⟨hp,h⟩) ho.x;exact⟨b,e,bM _ (by rw[if_pos hb];exact m1),m2⟩
  .have h':0<l.rev.value p:=by rw[fq];grind
   have hb:=(sF hc hl.rev).2 ⟨p,hp,h'⟩;obtain⟨k1,k2⟩:=jA hc hl.rev hb;obtain⟨b,e,m1,m2⟩:=Hn hy k1 ((k2 p).2 ⟨hp,h'⟩) ho.y;exact⟨b,e,cW _ (by rw[if_pos hb];exact m1),m2⟩
def ce(t:Tr):List az:=((t.parts []).filter (·.1)).map (·.2)
def vr{t:Tr}{e:az}:e∈ce t↔(true,e)∈t.parts []:=by
 unfold ce;simp
def Pr(l:ab)(p:aa):az->Rat->Rat
 |[],f=>f
 |s::c,f=>Pr l p c (if Int.sign (s.l.nor.dot l.nor).num<0 then(if-(s.l.value p/s.l.nor.dot l.nor)<f then-(s.l.value p/s.l.nor.dot l.nor) else f) else f)
def aKj:az->aa
 |[]=>⟨0,0⟩
 |s::c=>bP (s.l.at s.v.sample) s.l.nor (Pr s.l (s.l.at s.v.sample) c 1*mkRat 1 2)
def Qf{v k:Rat}(hk:k<0)(hv:0<v):0< -(v/k):=by
 have e: -(v/k)* -k=v:=by grind
 exact(gv (k:= -k) (by grind)).1 (by rw[e];exact hv)
def gk:Tr->aa->aa->Bool×Bool
 | .leaf b,_,_=>(b,true)
 | .node l x y,p,v=>match (if(l.value p).num.sign=0 then(l.dir.cross v).num.sign else(l.value p).num.sign) with
  |1=>gk x p v
  | -1=>gk y p v
  |_=>(false,false)
def qn(l:ab)(v:aa):l.dir.cross v=l.nor.dot v:=by
 unfold ab.dir ab.nor aa.cross aa.dot;grind
def Gn(L:List ab)(p v:aa):Prop:= ∀l∈L,l.value p=0->l.nor.dot v≠0
def aFN{l:ab}{p v:aa}(h:l.value p=0->l.nor.dot v≠0): ∃e:Rat,0<e/\ ∀d,0<d->d<=e->(0<l.value (bP p v d)↔0<l.value p\/(l.value p=0/\0<l.nor.dot v))/\(l.value (bP p v d)<0↔l.value p<0\/(l.value p=0/\l.nor.dot v<0)):=by
 generalize hk:l.nor.dot v=k at*;by_cases h0:l.value p=0
 .have hk0:=h h0
  refine⟨1,by decide,fun d h1 _=>?_⟩;rw[gH,hk,h0];rcases ge k with e|e|e
  .exact absurd e hk0
  .have:=bH h1 e;grind
  .have:=bH (a:=d) (b:= -k) h1 (by grind);grind
 .have key: ∀w:Rat,0<w-> ∃e:Rat,0<e/\ ∀d,0<d->d<=e-> ∀j:Rat,(j=k\/j= -k)->0<w+d*j:=fun w hw=>by
   have hA: ∃A:Rat,0<A/\k<=A/\ -k<=A:=by
    rcases ge k with e|e|e
    .exact⟨1,by decide,by grind,by grind⟩
    .exact⟨k,e,by grind,by grind⟩
    .exact⟨-k,by grind,by grind,by grind⟩
   obtain⟨A,a1,a2,a3⟩:=hA;refine⟨w/(2*A),?_,fun d d1 d2 j hj=>?_⟩
   .have e1:w/(2*A)*(2*A)=w:=by grind
    exact(gv (k:=2*A) (by grind)).1 (by rw[e1];exact hw)
   .have e1:w/(2*A)*(2*A)=w:=by grind
    generalize w/(2*A)=f at*;have h1:=cO (a:=f-d) (b:=A) (by grind) (by grind);have h2:=cO (a:=d) (b:=A+j) (by grind) (by rcases hj with rfl|rfl<;>grind);grind
  rcases ge (l.value p) with e|e|e
  .exact absurd e h0
  .obtain⟨f,f1,f2⟩:=key _ e
   refine⟨f,f1,fun d d1 d2=>?_⟩;have:=f2 d d1 d2 k (.inl J);rw[gH,hk];grind
  .obtain⟨f,f1,f2⟩:=key (-l.value p) (by grind)
   refine⟨f,f1,fun d d1 d2=>?_⟩;have:=f2 d d1 d2 (-k) (.inr J);rw[gH,hk];grind
def Dc: ∀{t:Tr} {p v:aa},Gn t.lns p v-> ∃e:Rat,0<e/\ ∀d,0<d->d<=e->fk t.lns (bP p v d)/\gk t p v=(t.val (bP p v d),true)
 | .leaf b,p,v,_=>⟨1,by decide,fun d _ _=>⟨fun l hl=>(by cases hl),J⟩⟩
 | .node l x y,p,v,h=>by
  obtain⟨e1,a1,b1⟩:=aFN (h l aZ);obtain⟨e2,a2,b2⟩:=Dc (t:=x) (p:=p) (v:=v) (fun m hm=>h m (aK _ (bM _ hm)));obtain⟨e3,a3,b3⟩:=Dc (t:=y) (p:=p) (v:=v) (fun m hm=>h m (aK _ (cW _ hm)));have hgn:=h l aZ;have hm: ∃e:Rat,0<e/\e<=e1/\e<=e2/\e<=e3:=by
   by_cases h1:e1<=e2
   .by_cases h2:e1<=e3
    .exact⟨e1,a1,by grind,h1,h2⟩
    .exact⟨e3,a3,by grind,by grind,by grind⟩
   .by_cases h2:e2<=e3
    .exact⟨e2,a2,by grind,by grind,h2⟩
    .exact⟨e3,a3,by grind,by grind,by grind⟩
  obtain⟨e,h0,h1,h2,h3⟩:=hm;refine⟨e,h0,fun d d1 d2=>?_⟩;obtain⟨c1,c2⟩:=b1 d d1 (by grind);obtain⟨o2,w2⟩:=b2 d d1 (by grind);obtain⟨o3,w3⟩:=b3 d d1 (by grind);have hs:(if(l.value p).num.sign=0 then(l.dir.cross v).num.sign else(l.value p).num.sign)=if 0<l.value (bP p v d) then 1 else-1:=by
   rw[qn];by_cases hz:l.value p=0
   .rw[if_pos ((lz _).2 hz)]
    split
    .rename_i hp
     exact(n4 _).2 (by rcases c1.1 hp with k|k;exact absurd k (by grind);exact k.2)
    .rename_i hp
     have:l.nor.dot v<0:=by have:=hgn hz;have: ¬0<l.nor.dot v:=fun e=>hp (c1.2 (.inr ⟨hz,e⟩));grind
     exact Int.sign_eq_neg_one_iff_neg.2 (by have:=(sI _).2 this;rcases lT (l.nor.dot v).num 0 with q|q|q;exact q;rw[q] at this;simp at this;rw[dS q] at this;simp at this)
   .rw[if_neg (fun e=>hz ((lz _).1 e))]
    split
    .rename_i hp
     exact(n4 _).2 (by rcases c1.1 hp with k|k;exact k;exact absurd k.1 hz)
    .rename_i hp
     have:l.value p<0:=by have: ¬0<l.value p:=fun e=>hp (c1.2 (.inl e));grind
     exact Int.sign_eq_neg_one_iff_neg.2 (by have:=(sI _).2 this;rcases lT (l.value p).num 0 with q|q|q;exact q;rw[q] at this;simp at this;rw[dS q] at this;simp at this)
  have hz:l.value (bP p v d)≠0:=fun e=>by
   rcases ge (l.value p) with q|q|q
   .rcases ge (l.nor.dot v) with r|r|r
    .exact hgn q r
    .have:=c1.2 (.inr ⟨q,r⟩);grind
    .have:=c2.2 (.inr ⟨q,r⟩);grind
   .have:=c1.2 (.inl q);grind
   .have:=c2.2 (.inl q);grind
  refine⟨fun m hm=>?_,?_⟩
  .rcases aT.1 hm with rfl|hm
   .exact hz
   .exact(bK.1 hm).elim (o2 m) (o3 m)
  .rw[gk,hs]
   by_cases hp:0<l.value (bP p v d)
   .rw[if_pos hp,Tr.val_pos hp];exact w2
   .rw[if_neg hp,Tr.val_neg hp];exact w3
def lw(x:Bool×az):DV:= .ag [.sl (x.2.map eG),eU (.leaf x.1)]
def XQ(l:List (Bool×az)):cF 2 (l.map lw):=fun d hd=>by
 obtain⟨x,_,rfl⟩:=bQ.1 hd;exact⟨J,J⟩
def Az: ∀(t:Tr) (c:az),(t.parts c).length<=t.size+1
 | .leaf _,_=>aM _
 | .node l x y,c=>by
  have h1:=Az x (b8 c l);have h2:=Az y (b8 c l.rev);rw[Tr.parts,aW,Tr.size];split<;>split<;>(try simp only[fV])<;>omega
def CS{q:Rat}{i:Nat}[h:BQ q i](hi:i<=900000000:=by decide):PF GB prog 27 [eF q] (eR q):=by
 refine fn func27 J J ntmps27 J J (fun C=>?_);refine cl J (wN (q:=q) (i:=i) hi) J<|cl J (qy (q:=q) (i:=i) hi) J<|?_;exact rz J J
def aDZ{p:aa}{i:Nat}[h:aC p i](hi:i<=900000000:=by decide):PF GB prog 60 [eZ p] (jr p):=by
 refine fn func60 J J ntmps60 J J (fun C=>?_);refine cl J (CS (q:=p.x) (i:=i) hi) J<|cl J (CS (q:=p.y) (i:=i) hi) J<|?_;exact rz J J
def Wn{b:Bool}{c:az}{o:List (Bool×az)}(hs:o.length<=1000000):PB GB prog 178 (dP [some (eU (.leaf b)),some (.sl (c.map eG)),none]) 2 206 (o.map lw) (fun w=> .v (.slice w.a w.n w.c)) ((o++Tr.parts (.leaf b) c).map lw):=by
 refine vp func178 J J ntmps178 J J (fun C=>?_);refine cl (fu:=⟨0⟩) J vg J<|?_;refine lG 12 J ?_;refine gx J<|rf J J<|Hl ((o++[(b,c)]).map lw) J (by rw[bY]<;>rfl) (XQ [(b,c)]) J<|?_;exact oz J J J J
def ana{l:ab}{x y:Tr}{c:az}{o:List (Bool×az)}(hl:LB l)(hlo:l.ok)(hc:iq c)(hn:c.length+(Tr.node l x y).depth<=100000)(hs:o.length+((Tr.node l x y).size+1)<=1000000)(ihx: ∀{c:az} {o:List (Bool×az)},iq c->c.length+x.depth<=100000->o.length+(x.size+1)<=1000000->PB GB prog 178 (dP [some (eU x),some (.sl (c.map eG)),none]) 2 206 (o.map lw) (fun w=> .v (.slice w.a w.n w.c)) ((o++Tr.parts x c).map lw))(ihy: ∀{c:az} {o:List (Bool×az)},iq c->c.length+y.depth<=100000->o.length+(y.size+1)<=1000000->PB GB prog 178 (dP [some (eU y),some (.sl (c.map eG)),none]) 2 206 (o.map lw) (fun w=> .v (.slice w.a w.n w.c)) ((o++Tr.parts y c).map lw)):PB GB prog 178 (dP [some (eU (.node l x y)),some (.sl (c.map eG)),none]) 2 206 (o.map lw) (fun w=> .v (.slice w.a w.n w.c)) ((o++Tr.parts (.node l x y) c).map lw):=by
 have hk1:=yt c l;have hk2:=yt c l.rev;have hd:(Tr.node l x y).depth=1+max x.depth y.depth:=J;have hz:(Tr.node l x y).size=1+x.size+y.size:=J;have hp:=Az x (b8 c l);refine vp func178 J J ntmps178 J J (fun C=>?_);refine cl (fu:=⟨0⟩) J ui J<|?_;refine vf 12 J ?_;refine gx J<|cl J (Pm hlo hc) J<|?_;refine bb J J J (fun hc30=>?_) (fun hc30=>?_)
 .
  have hs2:(o++x.parts (b8 c l)).length+(y.size+1)<=1000000:=by rw[aW];omega
  refine cq ((o++x.parts (b8 c l)).map lw) J (ihx (vX hlo hc) (by omega) (by omega)) J J<|?_;refine bb J J J (fun hc38=>?_) (fun hc38=>?_)
  .
   refine cq _ J (ihy (vX hlo.rev hc) (by omega) (by first|exact hs2|omega)) J J<|?_;exact oz J J J (by simp[Tr.parts,hc30,hc38])
  .
   exact oz J J J (by simp[Tr.parts,hc30,hc38])
 .
  refine bb J J J (fun hc38=>?_) (fun hc38=>?_)
  .
   refine cq _ J (ihy (vX hlo.rev hc) (by omega) (by first|exact hs2|omega)) J J<|?_;exact oz J J J (by simp[Tr.parts,hc30,hc38])
  .
   exact oz J J J (by simp[Tr.parts,hc30,hc38])
def Fp: ∀{t:Tr} {c:az} {o:List (Bool×az)},t.all LB->t.all ab.ok->iq c->c.length+t.depth<=100000->o.length+(t.size+1)<=1000000->PB GB prog 178 (dP [some (eU t),some (.sl (c.map eG)),none]) 2 206 (o.map lw) (fun w=> .v (.slice w.a w.n w.c)) ((o++Tr.parts t c).map lw)
 | .leaf _,_,_,_,_,_,_,hs=>Wn (by simp only[Tr.size] at hs;omega)
 | .node _ _ _,_,_,hb,ho,hc,hn,hs=>ana hb.1 ho.1 hc hn hs (fun k1 k2 k3=>Fp hb.2.1 ho.2.1 k1 k2 k3) (fun k1 k2 k3=>Fp hb.2.2 ho.2.2 k1 k2 k3)
def axi{t:Tr}(hb:t.all LB)(ho:t.all ab.ok)(hd:t.depth<=100000)(hs:t.size<=900000):PB GB prog 178 (dP [some (eU t),some (.sl []),none]) 2 206 [] (fun w=> .v (.slice w.a w.n w.c)) ((t.parts []).map lw):=
 Fp (c:=[]) (o:=[]) hb ho iq.nil (by rw[fV];omega) (by rw[fV];omega)
def eC(c:az):DV:= .sl (c.map eG)
def aJp(l:List az):cF 1 (l.map eC):=fun d hd=>by
 obtain⟨x,_,rfl⟩:=bQ.1 hd;exact⟨J,J⟩
def A9(ps:List (Bool×az)):List az:=(ps.filter (·.1)).map (·.2)
def RU{ps:List (Bool×az)}{k:Nat}{b:Bool}{e:az}(h:ps[k]? =some (b,e)):A9 (ps.drop k)=(if b then [e] else [])++A9 (ps.drop (k+1)):=by
 obtain⟨h1,h2⟩:=aY.1 h;rw[bX h1,h2];unfold A9
 cases b<;>simp
def aCk{t:Tr}(hb:t.all LB)(ho:t.all ab.ok)(hd:t.depth<=100000)(hs:t.size<=900000):PF GB prog 108 [eU t] (.sl ((t.parts []).map lw)):=by
 refine fn func108 J J ntmps108 J J (fun C=>?_);refine Kx _ J (axi hb ho hd hs) J J<|?_;refine gI 4 J ?_;exact rz J J
def HO{t:Tr}(hb:t.all LB)(ho:t.all ab.ok)(hd:t.depth<=100000:=by omega)(hs:t.size<=900000:=by omega):PF GB prog 58 [eU t] (.sl ((ce t).map eC)):=by
 obtain⟨ps,hps⟩: ∃ps,ps=t.parts []:=⟨_,rfl⟩;have hpl:=Az t [];rw[<-hps] at hpl;have hml:(ps.map lw).length=ps.length:=aJ ..;refine fn func58 J J ntmps58 J J (fun C=>?_);refine cl (fu:=⟨0⟩) J (aCk hb ho hd hs) J<|?_;refine ak 7 (.d (.sl (ps.map lw))) J (by rw[hps]) ?_;refine gx (fu:=⟨1⟩) J<|?_;refine ak 8 (.d (vI (ps.length:Nat))) J (by rw[hml]<;>rfl) ?_;refine gx J<|?_;refine nr 3 3 137 1 J J J ?_;refine lp (X:=List az×Nat) (fun⟨acc,k⟩=>[(9, .d (vI (k:Nat))),(3, .rw 3)]) (fun⟨acc,k⟩=>[(3,some (.b 137 1 (acc.map eC) true))]) (fun⟨acc,k⟩=>acc++A9 (ps.drop k)=ce t/\k<=ps.length) (fun⟨acc,k⟩=>ps.length-k) ⟨[],0⟩ J ⟨by rw[hps];rfl,aN _⟩ (fun _=>J) (fun⟨acc,k⟩ hk=>?_)
 try dsimp only at hk⊢
 obtain⟨h1,h2⟩:=hk;have hal:acc.length<=ps.length:=by
  have q1:=congrArg List.length h1;have q2:(ce t).length<=ps.length:=by unfold ce;rw[aJ,hps];exact mZ ..
  rw[aW] at q1;omega
 have ham:(acc.map eC).length=acc.length:=aJ ..;refine br J J J (fun hc10=>?_) (fun hc10=>?_)
 .
  obtain⟨⟨b,e⟩,hx⟩: ∃x,ps[k]? =some x:=⟨_,aQ (by omega)⟩;refine ix _ J (cA hx) J<|?_;refine bb J J J (fun hc17=>?_) (fun hc17=>?_)
  .
   refine rf J J<|ap ((acc++[e]).map eC) J (by rw[bY]<;>rfl) (aJp [e]) J<|?_;refine fE 22 3 J ?_;exact at_ ⟨acc++[e],k+1⟩ (by dsimp only;exact⟨⟨by rw[<-h1,RU hx,if_pos hc17];simp,by omega⟩,(by omega)⟩)
  .
   exact at_ ⟨acc,k+1⟩ (by dsimp only;exact⟨⟨by rw[<-h1,RU hx,if_neg (by simp at hc17;rw[hc17];decide)];rfl,by omega⟩,(by omega)⟩)
 .
  obtain rfl:k=ps.length:=by omega
  obtain rfl:acc=ce t:=by rw[fY] at h1;simpa[A9] using h1
  refine gI 3 J ?_;exact rz J J
def kD(p:aa):(p.half=1/\(0<p.y\/(p.y=0/\0<p.x)))\/(p.half=2/\(p.y<0\/(p.y=0/\p.x<0)))\/(p.half=0/\p.y=0/\p.x=0):=by
 unfold aa.half;simp only[lf,sI,lz];split
 .rename_i h;exact .inl ⟨rfl,h⟩
 .rename_i h
  split
  .rename_i h2
   exact .inr (.inl ⟨J,by grind⟩)
  .rename_i h2
   exact .inr (.inr ⟨J,by grind,by grind⟩)
def lB{p:aa}:p.half=1↔(0<p.y\/(p.y=0/\0<p.x)):=by
 rcases kD p with⟨h,k⟩|⟨h,k⟩|⟨h,k⟩<;>rw[h]<;>grind
def pq{p:aa}:p.half=2↔(p.y<0\/(p.y=0/\p.x<0)):=by
 rcases kD p with⟨h,k⟩|⟨h,k⟩|⟨h,k⟩<;>rw[h]<;>grind
def cd(u v:aa):Prop:=u.half<v.half\/(u.half=v.half/\0<u.cross v)
def m6{u v:aa}:co u v<0↔cd u v:=by
 unfold co cd;split
 .rename_i h;exact⟨fun _=> .inl h,fun _=>by decide⟩
 .rename_i h
  split
  .rename_i h2;exact⟨fun e=>absurd e (by decide),fun e=>by omega⟩
  .rename_i h2
   have e:u.half=v.half:=by omega
   rw[<-lf];constructor
   .intro k;exact .inr ⟨e,by omega⟩
   .rintro (k|⟨_,k⟩)
    .omega
    .omega
def bE(d:aa):aa:=⟨-d.x, -d.y⟩
def s9{d:aa}(h:d.half≠0):(bE d).half=3-d.half:=by
 rcases kD d with⟨e,k⟩|⟨e,k⟩|⟨e,k⟩
 .rw[e];exact pq.2 (by unfold bE;grind)
 .rw[e];exact lB.2 (by unfold bE;grind)
 .exact absurd e h
def gq{d:aa}(h:d.half≠0):d.half=1\/d.half=2:=by
 rcases kD d with⟨e,_⟩|⟨e,_⟩|⟨e,_⟩
 .exact .inl e
 .exact .inr e
 .exact absurd e h
def ku(ds:List aa)(u w:aa):Prop:=(cd u w/\ ∀d∈ds,¬(cd u d/\cd d w))\/((∀d∈ds,¬cd u d)/\ ∀d∈ds,¬cd d w)
structure uK (ds:List aa):Prop where
 nz: ∀d∈ds,d.half≠0
 neg: ∀d∈ds,bE d∈ds
def PP(u:aa):u.cross u=0:=by unfold aa.cross;grind
def eB(u v:aa):v.cross u= -u.cross v:=by unfold aa.cross;grind
def lv(u v:aa):u.cross (bE v)= -u.cross v:=by unfold aa.cross bE;grind
def ku.spec{ds:List aa}{u w:aa}(h:uK ds)(hu:u∈ds)(hw:w∈ds)(hn:ku ds u w):
  (u.half=w.half/\0<u.cross w/\ ∀d∈ds,¬(cd u d/\cd d w))\/(u.half≠w.half/\(∀d∈ds,d.half=u.half->0<=d.cross u)/\ ∀d∈ds,d.half=w.half->0<=w.cross d):=by
 have zu:=gq (h.nz u hu);have zw:=gq (h.nz w hw);rcases hn with⟨h1,h2⟩|⟨h1,h2⟩
 .rcases h1 with k|⟨k,k2⟩
  .refine .inr ⟨by omega,fun d hd e=>?_,fun d hd e=>?_⟩
   .have:=h2 d hd
    rw[eB];by_cases hc:0<u.cross d
    .exact absurd ⟨.inr ⟨e.symm,hc⟩, .inl (by omega)⟩ this
    .grind
   .have:=h2 d hd
    by_cases hc:0<d.cross w
    .exact absurd ⟨.inl (by omega), .inr ⟨e,hc⟩⟩ this
    .rw[eB] at hc;grind
  .exact .inl ⟨k,k2,h2⟩
 .have nu:=s9 (h.nz u hu)
  have a1:=h1 _ (h.neg u hu);have a2:=h2 _ (h.neg u hu);unfold cd at a1 a2;rw[nu] at a1 a2;refine .inr ⟨fun e=>?_,fun d hd e=>?_,fun d hd e=>?_⟩
  .rcases zu with z|z
   .exact a1 (.inl (by omega))
   .exact a2 (.inl (by omega))
  .have:=h1 d hd
   rw[eB];by_cases hc:0<u.cross d
   .exact absurd (.inr ⟨e.symm,hc⟩) this
   .grind
  .have:=h2 d hd
   by_cases hc:0<d.cross w
   .exact absurd (.inr ⟨e,hc⟩) this
   .rw[eB] at hc;grind
def ku.pos{ds:List aa}{u w:aa}(h:uK ds)(hu:u∈ds)(hw:w∈ds)(hn:ku ds u w):0<=u.cross w:=by
 rcases hn.spec h hu hw with⟨_,h2,_⟩|⟨h1,h2,h3⟩
 .grind
 .have:=h3 _ (h.neg u hu) (by rw[s9 (h.nz u hu)];have:=gq (h.nz u hu);have:=gq (h.nz w hw);omega)
  rw[lv] at this;rw[eB];exact this
def gE(a b:Rat)(u w:aa):aa:=⟨a*u.x+b*w.x,a*u.y+b*w.y⟩
def Lh{a b:Rat}{u w:aa}:u.cross (gE a b u w)=b*u.cross w/\(gE a b u w).cross w=a*u.cross w:=by
 unfold aa.cross gE;constructor<;>grind
def FG{a b:Rat}{u w:aa}(ha:0<a)(hb:0<b)(h:u.half=w.half)(hz:u.half≠0):(gE a b u w).half=u.half:=by
 rcases kD u with⟨e,k⟩|⟨e,k⟩|⟨e,k⟩
 .rw[e] at h⊢
  have k2:=lB.1 h.symm;refine lB.2 ?_;unfold gE;simp only;have p1: ∀z:Rat,0<z->0<a*z:=fun z hz=>bH ha hz;have p2: ∀z:Rat,0<z->0<b*z:=fun z hz=>bH hb hz;rcases k with k|⟨k,k'⟩<;>rcases k2 with l|⟨l,l'⟩
  .have:=p1 _ k;have:=p2 _ l;grind
  .have:=p1 _ k;rw[l];grind
  .have:=p2 _ l;rw[k];grind
  .have:=p1 _ k';have:=p2 _ l';rw[k,l];grind
 .rw[e] at h⊢
  have k2:=pq.1 h.symm;refine pq.2 ?_;unfold gE;simp only;have p1: ∀z:Rat,z<0->a*z<0:=fun z hz=>by have:=bH (a:=a) (b:= -z) ha (by grind);grind
  have p2: ∀z:Rat,z<0->b*z<0:=fun z hz=>by have:=bH (a:=b) (b:= -z) hb (by grind);grind
  rcases k with k|⟨k,k'⟩<;>rcases k2 with l|⟨l,l'⟩
  .have:=p1 _ k;have:=p2 _ l;grind
  .have:=p1 _ k;rw[l];grind
  .have:=p2 _ l;rw[k];grind
  .have:=p1 _ k';have:=p2 _ l';rw[k,l];grind
 .exact absurd e hz
def ku.none{ds:List aa}{u w:aa}(h:uK ds)(hu:u∈ds)(hw:w∈ds)(hn:ku ds u w)(hc:u.cross w≠0){a b:Rat}(ha:0<a)(hb:0<b):gE a b u w∉ds:=fun hd=>by
 have hp:=hn.pos h hu hw;have hp:0<u.cross w:=by grind
 obtain⟨c1,c2⟩:=Lh (a:=a) (b:=b) (u:=u) (w:=w);have d1:0<u.cross (gE a b u w):=by rw[c1];exact bH hb hp
 have d2:0<(gE a b u w).cross w:=by rw[c2];exact bH ha hp
 have zu:=gq (h.nz u hu);have zw:=gq (h.nz w hw);have zd:=gq (h.nz _ hd);rcases hn.spec h hu hw with⟨h1,_,h3⟩|⟨h1,h2,h3⟩
 .have e:=FG ha hb h1 (h.nz u hu)
  exact h3 _ hd ⟨.inr ⟨e.symm,d1⟩, .inr ⟨e.trans h1,d2⟩⟩
 .rcases(show(gE a b u w).half=u.half\/(gE a b u w).half=w.half by omega) with e|e
  .have:=h2 _ hd e
   rw[eB] at this;grind
  .have:=h3 _ hd e
   rw[eB] at this;grind
def uL{d e:aa}(h:e.cross d=0)(hp:0<e.dot d): ∃g:Rat,0<g/\e=⟨g*d.x,g*d.y⟩:=by
 have hd:0<d.dot d:=by
  unfold aa.dot at*;have h1:=uB d.x;have h2:=uB d.y;rcases ge d.x with k|k|k
  .rcases ge d.y with l|l|l
   .rw[k,l] at hp;grind
   .have:=bH l l;grind
   .have:=bH (a:= -d.y) (b:= -d.y) (by grind) (by grind);grind
  .have:=bH k k;grind
  .have:=bH (a:= -d.x) (b:= -d.x) (by grind) (by grind);grind
 have key:e.x*d.dot d=e.dot d*d.x/\e.y*d.dot d=e.dot d*d.y:=by
  unfold aa.dot aa.cross at*;constructor<;>grind
 have hg:e.dot d/d.dot d*d.dot d=e.dot d:=by grind
 refine⟨e.dot d/d.dot d,(gv hd).1 (by rw[hg];exact hp),?_⟩;generalize e.dot d/d.dot d=g at*;have x1:e.x=g*d.x:=by
  have:(e.x-g*d.x)*d.dot d=0:=by rw[<-hg] at key;grind
  have hz:d.dot d≠0:=by grind
  grind
 have x2:e.y=g*d.y:=by
  have:(e.y-g*d.y)*d.dot d=0:=by rw[<-hg] at key;grind
  have hz:d.dot d≠0:=by grind
  grind
 rw[<-x1,<-x2]
def DT{e u:aa}(he:e.half≠0)(hu:u.half≠0)(hp:e.cross u=0):e.dot u≠0:=fun hz=>by
 have e1:e.x*(u.x*u.x+u.y*u.y)=0:=by unfold aa.dot aa.cross at*;grind
 have e2:e.y*(u.x*u.x+u.y*u.y)=0:=by unfold aa.dot aa.cross at*;grind
 have hu2:u.x*u.x+u.y*u.y≠0:=fun q=>by
  have h1:=uB u.x;have h2:=uB u.y;have x0:u.x=0:=by
   have:u.x*u.x=0:=by grind
   grind
  have y0:u.y=0:=by
   have:u.y*u.y=0:=by grind
   grind
  rcases kD u with⟨_,q⟩|⟨_,q⟩|⟨q,_⟩
  .grind
  .grind
  .exact hu q
 have x0:e.x=0:=by grind
 have y0:e.y=0:=by grind
 rcases kD e with⟨_,q⟩|⟨_,q⟩|⟨q,_⟩
 .grind
 .grind
 .exact he q
def ku.gen{ds:List aa}{u w:aa}(h:uK ds)(hu:u∈ds)(hw:w∈ds)(hn:ku ds u w)(hc:u.cross w≠0){a b:Rat}(ha:0<a)(hb:0<b): ∀d∈ds,d.cross (gE a b u w)≠0:=fun d hd hz=>by
 have hp:=hn.pos h hu hw;have hp:0<u.cross w:=by grind
 obtain⟨c1,c2⟩:=Lh (a:=a) (b:=b) (u:=u) (w:=w);have d1:0<u.cross (gE a b u w):=by rw[c1];exact bH hb hp
 -- of d and its opposite, one points the same way
 have key: ∀e∈ds,e.cross (gE a b u w)=0->0<e.dot (gE a b u w)->False:=fun e he h1 h2=>by
  obtain⟨g,g1,g2⟩:=uL h1 h2;refine hn.none h hu hw hc (a:=g*a) (b:=g*b) (bH g1 ha) (bH g1 hb) ?_;have:gE (g*a) (g*b) u w=e:=by rw[g2];unfold gE;simp only[aa.mk.injEq];constructor<;>grind
  rw[this];exact he
 rcases ge (d.dot (gE a b u w)) with k|k|k
 .-- both 0: then d is 0, or the other is
  have hnz:=h.nz d hd;generalize gE a b u w=v at*;have e1:d.x*(v.x*v.x+v.y*v.y)=0:=by unfold aa.dot aa.cross at*;grind
  have e2:d.y*(v.x*v.x+v.y*v.y)=0:=by unfold aa.dot aa.cross at*;grind
  have hv:v.x*v.x+v.y*v.y≠0:=fun e=>by
   have h1:=uB v.x;have h2:=uB v.y;have x0:v.x=0:=by have:v.x*v.x=0:=(by grind);grind
   have y0:v.y=0:=by have:v.y*v.y=0:=(by grind);grind
   unfold aa.cross at d1;rw[x0,y0] at d1;grind
  have x0:d.x=0:=by grind
  have y0:d.y=0:=by grind
  rcases kD d with⟨_,q⟩|⟨_,q⟩|⟨q,_⟩
  .grind
  .grind
  .exact hnz q
 .exact key d hd hz k
 .refine key _ (h.neg d hd) ?_ ?_
  .unfold aa.cross bE at*;grind
  .unfold aa.dot bE at*;grind
def QH(d u:aa):d.cross (jk u)=d.dot u:=by unfold aa.cross jk aa.dot;grind
def ku.turn{ds:List aa}{u w:aa}(h:uK ds)(hu:u∈ds)(hw:w∈ds)(hn:ku ds u w)(hc:u.cross w=0): ∀d∈ds,d.cross (jk u)≠0:=fun d hd=>by
 have zu:=gq (h.nz u hu);have zw:=gq (h.nz w hw);rw[QH];rcases hn.spec h hu hw with⟨_,h2,_⟩|⟨h1,h2,h3⟩
 .rw[hc] at h2;exact absurd h2 (by decide)
 have par: ∀e∈ds,e.half=u.half->e.cross u=0:=fun e he k=>by
  have a1:=h2 e he k;have a2:=h3 _ (h.neg e he) (by rw[s9 (h.nz e he)];omega);rw[lv] at a2
  -- w = -g u
  have hwu:w.cross u=0:=by rw[eB,hc];rfl
  have huw:w.dot u<0:=by
   rcases ge (w.dot u) with k0|k0|k0
   .exact absurd k0 (DT (h.nz w hw) (h.nz u hu) hwu)
   .obtain⟨g,g1,g2⟩:=uL hwu k0
    exfalso;apply h1;rcases kD u with⟨x,q⟩|⟨x,q⟩|⟨x,q⟩
    .rw[x]
     refine(lB.2 ?_).symm;rw[g2];simp only;rcases q with q|⟨q,q'⟩
     .exact .inl (bH g1 q)
     .exact .inr ⟨by rw[q];grind,bH g1 q'⟩
    .rw[x]
     refine(pq.2 ?_).symm;rw[g2];simp only;rcases q with q|⟨q,q'⟩
     .have:=bH (a:=g) (b:= -u.y) g1 (by grind);exact .inl (by grind)
     .have:=bH (a:=g) (b:= -u.x) g1 (by grind);exact .inr ⟨by rw[q];grind,by grind⟩
    .exact absurd x (h.nz u hu)
   .exact k0
  obtain⟨g,g1,g2⟩:=uL (d:=u) (e:=bE w) (by unfold aa.cross bE at*;grind) (by unfold aa.dot bE at*;grind);have a3:0<= -(g*e.cross u):=by
   have e1:w=⟨-(g*u.x), -(g*u.y)⟩:=by
    have:=congrArg bE g2;unfold bE at this
    cases w
    simp only[Rat.neg_neg] at this;exact this
   rw[e1] at a2;unfold aa.cross at*;grind
  by_cases hz:0<e.cross u
  .have:=bH g1 hz;grind
  .grind
 have nzd: ∀e∈ds,e.half=u.half->e.dot u≠0:=fun e he k=>DT (h.nz e he) (h.nz u hu) (par e he k);by_cases k:d.half=u.half
 .exact nzd d hd k
 .have:=nzd _ (h.neg d hd) (by rw[s9 (h.nz d hd)];have:=gq (h.nz d hd);omega)
  unfold aa.dot bE at*;grind
end Go.Sx
end
section
namespace Go.Sx
open Go
inductive OT where
 |z (π:List (Nat×Bool))
 |q (i:Nat) (t:OT)
 |a (i:Nat) (t:OT)
 |c (i:Nat) (t r:OT)
def OT.sz:OT->Nat
 | .z _=>0
 | .q _ t=>t.sz+1
 | .a _ t=>t.sz+1
 | .c _ t r=>t.sz+r.sz+1
def OT.d:OT->Nat
 | .z π=>π.length
 | .q _ t=>t.d+1
 | .a _ t=>t.d+1
 | .c _ t r=>Nat.max (t.d+1) r.d
section
variable {P:Program} {ops:Array Oper} {Q:Exit->Act->World->Prop} {S:World->Prop} {π₂:List (Nat×Bool)}
def wB(P:Program)(ops:Array Oper)(Q:Exit->Act->World->Prop)(K:(World->Prop)->Act->World->Prop):List Nat->OT->(World->Prop)->Act->World->Prop
 |ks, .z π,S,a,w=>yI P ops Q K ks π S a w
 |ks, .q i t,S,a,w=> ∃o v,ops[i]? =some o/\S w/\YieldsIf P ops S o v a/\wB P ops Q K ks t S (a.put o.dst v) w
 |ks, .a i t,S,a,w=>wpOp P ops Q i (wk S (wB P ops Q K ks t)) a w/\
   ∀j,(h:j∈ks)->wpOp P ops Q j (wk S (wB P ops Q K (bB ks j) (.a i t))) a w
 |ks, .c i t r,S,a,w=>wpOp P ops Q i (wk S (wB P ops Q K ks t)) a w/\wB P ops Q K ks r S a w/\
   ∀j,(h:j∈ks)->wpOp P ops Q j (wk S (wB P ops Q K (bB ks j) (.c i t r))) a w
termination_by ks t=>ks.length+t.sz
decreasing_by
 all_goals (first|(have:=Hy h;simp only[OT.sz] at*;omega)|(simp only[OT.sz];omega))
def te(ops:Array Oper)(fin:Nat->Bool)(π₂:List (Nat×Bool)):Nat->Bool->List Nat->OT->Array Bool->List Nat->Bool
 |0,_,_,_,_,_=>false
 |n+1,false,ks, .z π,l,_=>Bw ops fin π₂ n ks π l
 |_+1,true,_, .z _,_,_=>false
 |n+1,false,ks, .q i t,l,_=>yF ops fin l i&&te ops fin π₂ n false ks t (l.setIfInBounds i true) []
 |_+1,true,_, .q _ _,_,_=>false
 |n+1,true,ks, .a i t,l,rs=>rs.all (fun j=>Nat.beq j i)&&te ops fin π₂ n false ks t (l.setIfInBounds i true) []
 |n+1,false,ks, .a i t,l,_=>!(Region.ready .any ops l).isEmpty&&(Region.ready .any ops l).all (fun j=>Nat.beq j i||ks.contains j)&&te ops fin π₂ n false ks t (l.setIfInBounds i true) []&&ks.all fun j=>te ops fin π₂ n false (bB ks j) (.a i t) (l.setIfInBounds j true) []
 |n+1,true,ks, .c i t r,l,rs=>te ops fin π₂ n false ks t (l.setIfInBounds i true) []&&te ops fin π₂ n true ks r l (bB rs i)
 |n+1,false,ks, .c i t r,l,_=>!(Region.ready .any ops l).isEmpty&&te ops fin π₂ n false ks t (l.setIfInBounds i true) []&&te ops fin π₂ n true ks r l (bB ((Region.ready .any ops l).filter fun j=>!ks.contains j) i)&&ks.all fun j=>te ops fin π₂ n false (bB ks j) (.c i t r) (l.setIfInBounds j true) []
end
section
variable {P:Program} {GB:Gh} {C:aD} {n:Nat} {fr fr':ek} {own own' own0 own1 own1':List c9} {bs bs0 bs1 bs1':List d4} {ops:Array Oper} {Q:Exit->Act->World->Prop} {fd:List FD} {π₂:List (Nat×Bool)} {t r:OT}
abbrev dnK (P:Program) (ops:Array Oper) (Q:Exit->Act->World->Prop) (K:(World->Prop)->Act->World->Prop) (t:OT):List Nat->(World->Prop)->Act->World->Prop:=fun ks S=>wB P ops (f5 Q) K ks t S
end
end Go.Sx
end
section
namespace Go.Sx
open Go Go.Proofs Tryz
variable {GB:Gh}
theorem tD{c:List ab}{l:ab}(hc: ∀m∈c,LB m)(hl:LB l): ∀m∈c++[l],LB m:=by
 rw[rL];exact⟨hc,by simpa using hl⟩
theorem LB.rev{l:ab}(h:LB l):LB l.rev:=⟨⟨by rw[show l.rev.a= -l.a from J,iX];exact h.bl.a,by rw[show l.rev.b= -l.b from J,iX];exact h.bl.b,by rw[show l.rev.c= -l.c from J,iX];exact h.bl.c⟩⟩
def MQ{c:List ab}{l:ab}(hc: ∀m∈c,LB m)(hok: ∀m∈c,m.ok)(hn:c.length<=900)(hl:LB l)(hlo:l.ok):PF GB prog 44 [.sl (c.map eL),eL l] (vI (og c l)):=by
 have hcl:=wM c;refine fn func44 J J ntmps44 J J (fun C=>?_);refine r7 J J<|ap (c.map eL) J J (gA _) J<|rf J J<|mD ((c++[l]).map eL) J (by rw[bY];rfl) (gA [l]) J<|?_;refine cl J (I9 (c:=c++[l]) (tD hc hl) (iO hok hlo) (by simp;omega)) J<|r7 J J<|ap (c.map eL) J J (gA _) J<|cl J (xY (l:=l)) J<|?_;refine rf J J<|mD ((c++[l.rev]).map eL) J (by rw[bY];rfl) (gA [l.rev]) J<|cl J (I9 (c:=c++[l.rev]) (tD hc hl.rev) (iO hok hlo.rev) (by simp;omega)) J<|?_;refine ji 31 J J J (fun hg31=>?_) (fun hg31=>?_)
 .
  refine bb J J J (fun hc33=>?_) (fun hc33=>?_)
  .
   exact rz J (by show vI 0=vI _;congr 1;unfold og;simp_all)
  .
   refine bb J J J (fun hc34=>?_) (fun hc34=>?_)
   .
    exact rz J (by show vI 1=vI _;congr 1;unfold og;simp_all)
   .
    exact rz J (by simp[hg31] at hc34)
 .
  refine bb J J J (fun hc34=>?_) (fun hc34=>?_)
  .
   exact rz J (by simp[hg31] at hc34)
  .
   exact rz J (by show vI (-1)=vI _;congr 1;unfold og;simp_all)
def JF{α:Type}{p:α->Bool}: ∀{xs:List α} {n:Nat},n<=xs.length->(∀j (h:j<xs.length),j<n->p xs[j]=true)->(∀h:n<xs.length,p xs[n]=false)->(xs.takeWhile p).length=n
 |[],n,h,_,_=>by simp at h;subst h;rfl
 |x::xs,0,_,_,h3=>by
  have:=h3 (by simp);simp only[pW] at this;simp[oN,this]
 |x::xs,n+1,h1,h2,h3=>by
  have hx:=h2 0 (by simp) (by omega);simp only[pW] at hx;rw[oN,if_pos hx,bJ];rw[JF (n:=n) (by simpa using h1) (fun j h hj=>by have:=h2 (j+1) (by simpa using h) (by omega);simpa using this) (fun h=>by have:=h3 (by simpa using h);simpa using this)]
def LE{xs:List ab}{l:ab}{n:Nat}(h1:n<=xs.length)(h2: ∀j (h:j<xs.length),j<n->co xs[j].dir l.dir<0)(h3: ∀h:n<xs.length,¬co xs[n].dir l.dir<0):n8 xs l=n:=
 JF h1 (fun j h hj=>decide_eq_true (h2 j h hj)) (fun h=>decide_eq_false (h3 h))
def YV{xs:List ab}{l:ab}{n:Nat}(hn:n8 xs l=n)(h:n<xs.length)(e:xs[n]=l):pP xs l=xs:=by
 unfold pP;rw[hn,if_pos (by rw[aQ h,e])]
def QB{xs:List ab}{l:ab}{n:Nat}(hn:n8 xs l=n)(h: ∀h:n<xs.length,xs[n]≠l):pP xs l=xs.take n++l::xs.drop n:=by
 unfold pP;rw[hn,if_neg];intro e;obtain⟨h1,h2⟩:=aY.1 e;exact h h1 h2
def Pq(xs:List ab)(n:Nat):cF 6 ((xs.map eL).take n):=fun d hd=>gA xs d (dJ hd)
def Gj(xs:List ab)(n m:Nat):cF 6 (((xs.map eL).take n).drop m):=fun d hd=>gA xs d (dJ (gL hd))
def Qs(xs:List ab)(n m:Nat)(l:ab):cF 6 ([eL l]++((xs.map eL).take n).drop m):=fun d hd=>by
 rcases bK.1 hd with h|h
 .exact gA [l] d h
 .exact Gj xs n m d h
structure mc (c:List ab) (k:Nat) (xs:List ab):Prop where
 le:k<=c.length
 f:nF c (c.drop k) xs=fj c
 m: ∀m∈xs,m∈c
 n:xs.length<=k
def mc.skip{c xs:List ab}{k:Nat}(h:mc c k xs)(hk:k<c.length)(e:(fm c[k] c aj.all).isSome=false):mc c (k+1) xs:=by
 have:=h.f;rw[bX hk,nF,e] at this;exact⟨hk,this,h.m,by have:=h.n;omega⟩
def mc.ins{c xs ys:List ab}{k:Nat}(h:mc c k xs)(hk:k<c.length)(e:(fm c[k] c aj.all).isSome=true)(hy:pP xs c[k]=ys)(hl:ys.length<=xs.length+1):mc c (k+1) ys:=by
 have:=h.f;rw[bX hk,nF,e,if_pos J,hy] at this;refine⟨hk,this,fun m hm=>?_,by have:=h.n;omega⟩;rw[<-hy] at hm;rcases Gf.1 hm with rfl|hm
 .exact bL hk
 .exact h.m m hm
def mc.done{c xs:List ab}{k:Nat}(h:mc c k xs)(hk:k=c.length):fj c=xs:=by
 have:=h.f;rw[hk,fY,nF] at this;exact this.symm
def r5(c:List ab):Bool:=if(((c.map eL).length:Nat):Int)=0 then true else decide ((0:Int)<((((fj c).map eL).length:Nat):Int))
def mc.nil(c:List ab):mc c 0 []:=⟨aN _,J,fun m hm=>absurd hm (by simp),aM _⟩
def Yy{c:List ab}(hc: ∀m∈c,LB m)(hok: ∀m∈c,m.ok)(hn:c.length<=1000):PF GB prog 92 [.sl (c.map eL)] (.tp [.sl ((fj c).map eL),vB (r5 c)]):=by
 have hcl:=wM c;refine fn (fu:=⟨16⟩) func92 J J ntmps92 J J (fun C=>?_);refine ak 11 (.d (vI (c.length:Nat))) J (by rw[hcl];rfl) ?_;refine gx J<|?_;refine CN 4 J ?_;refine lp (X:=List ab×Nat) (fun⟨xs,k⟩=>[(12, .d (vI (k:Nat))),(11, .d (vI (c.length:Nat))),(10, .d (.sl (c.map eL))),(0, .d (.sl (c.map eL))),(4, .d (.sl (xs.map eL)))]) (fun⟨xs,k⟩=>[]) (fun⟨xs,k⟩=>mc c k xs) (fun⟨xs,k⟩=>c.length-k) ⟨[],0⟩ J (mc.nil c) (fun _=>J) (fun⟨xs,k⟩ hk=>?_)
 try dsimp only at hk⊢
 have hS:=hk;refine br J J J (fun hc13=>?_) (fun hc13=>?_)
 .
  have hk:k<c.length:=by omega
  obtain⟨m,hm⟩: ∃m,m=c[k]:=⟨_,rfl⟩;haveI hmb:LB m:=hm▸hc _ (bL hk);have hmo:m.ok:=hm▸hok _ (bL hk);have hxl:=wM xs;have hxn:=hS.n;refine ix (fu:=⟨1⟩) _ J (wI hk) J<|?_;refine ak 16 (.d (eL m)) J (by rw[hm];rfl) ?_;refine gx J<|cl J (O3 hc hok hn hk) J<|?_;refine bb (fu2:=⟨8⟩) J J J (fun hc24=>?_) (fun hc24=>?_)
  .
   have hinv:mc c (k+1) xs:=hS.skip hk (by rw[<-wL];simpa using hc24);exact at_ ⟨xs,k+1⟩ (by dsimp only;exact⟨hinv,(by omega)⟩)
  .
   have hyes:(fm c[k] c aj.all).isSome=true:=by rw[<-wL];simpa using hc24
   refine mg (fu:=⟨6⟩) (X:=Unit) (fun _=>[(12, .d (vI (k:Nat))),(11, .d (vI (c.length:Nat))),(10, .d (.sl (c.map eL))),(0, .d (.sl (c.map eL))),(4, .d (.sl (xs.map eL))),(6, .ov 6 0),(9, .d (vI (n8 xs m:Nat)))]) (fun _=>[(6,some (.o 111 [.d ((.v (.bool (decide (m.a<0))))), .d (dN m.a.natAbs), .d ((.v (.bool (decide (m.b<0))))), .d (dN m.b.natAbs), .d ((.v (.bool (decide (m.c<0))))), .d (dN m.c.natAbs)] true))]) (fun _=>True) [12,11,10,0,4,6,9] [6] rfl ?_ (fun _=>J) (fun _ _=>?_)
   .
    refine gx J<|?_;refine lp (fu:=⟨6⟩) (X:=Nat) (fun n=>[(12, .d (vI (k:Nat))),(11, .d (vI (c.length:Nat))),(10, .d (.sl (c.map eL))),(0, .d (.sl (c.map eL))),(4, .d (.sl (xs.map eL))),(6, .ov 6 0),(9, .d (vI (n:Nat)))]) (fun n=>[(6,some (.o 111 [.d ((.v (.bool (decide (m.a<0))))), .d (dN m.a.natAbs), .d ((.v (.bool (decide (m.b<0))))), .d (dN m.b.natAbs), .d ((.v (.bool (decide (m.c<0))))), .d (dN m.c.natAbs)] true))]) (fun n=>n<=xs.length/\ ∀j (h:j<xs.length),j<n->co xs[j].dir m.dir<0) (fun n=>xs.length-n) 0 J ⟨aN _,fun j _ hj=>absurd hj (by omega)⟩ (fun _=>J) (fun n hk=>?_);obtain⟨n1,n2⟩:=hk;refine mr J J J J (fun hg28=>?_) (fun hg28=>?_)
    .
     refine ix _ J (wI) J<|?_;haveI:LB (xs[n]'(by omega)):=hc _ (hS.m _ (bL _));refine cl J (vG (l:=xs[n]'(by omega))) J<|cl J (vG (l:=m)) J<|cl J (Wd (u:=(xs[n]'(by omega)).dir) (v:=m.dir)) J<|?_;refine br J J J (fun hc39=>?_) (fun hc39=>?_)
     .
      exact at_ (n+1) ⟨⟨by omega,fun j h hj=>by by_cases q:j=n;(subst q;exact hc39);exact n2 j h (by omega)⟩,(by omega)⟩
     .
      have hidx:n8 xs m=n:=LE n1 n2 (fun h=>hc39);exact at_ () trivial
    .
     have hidx:n8 xs m=n:=LE n1 n2 (fun h=>absurd h (by omega));exact at_ () trivial
   .
    obtain⟨n,hnx⟩: ∃n,n8 xs m=n:=⟨_,rfl⟩;rw[hnx];have hnl:n<=xs.length:=by rw[<-hnx];unfold n8;exact(List.takeWhile_sublist _).length_le
    have hcb: ∀m∈xs,LB m:=fun m hm=>hc m (hS.m m hm);refine mr J J J J (fun hg45=>?_) (fun hg45=>?_)
    .
     refine ix _ J (wI) J<|cl J (BU (l:=xs[n]'(by omega)) (m:=m) (hl:=hcb _ (bL (by omega)))) J<|?_;refine br J J J (fun hc54=>?_) (fun hc54=>?_)
     .
      have hn46:n<xs.length:=by omega
      have hinv:mc c (k+1) xs:=hS.ins hk hyes (by rw[<-hm];exact YV hnx hn46 ((DO _ m).1 hc54)) (by omega);exact at_ ⟨xs,k+1⟩ (by dsimp only;exact⟨hinv,(by omega)⟩)
     .
      have hnew: ∀h:n<xs.length,xs[n]≠m:=fun h e=>hc54 ((DO _ m).2 e);obtain⟨ys,hys⟩: ∃ys,ys=xs.take n++m::xs.drop n:=⟨_,rfl⟩;have hinv:mc c (k+1) ys:=hS.ins hk hyes (by rw[<-hm,QB hnx hnew,hys]) (by rw[hys];simp;omega);refine s3 n _ J J J J (gA _) (by rw[hxl];exact hnl) J<|ro J J<|ni n xs.length _ J J (by rw[hxl]) J (gA _) hnl (by omega) J<|?_;refine ap _ J J (Gj _ _ _) J<|mD (hv:=by simp only[ah];exact⟨by kernel_rfl,by omega⟩) (ho:=fun _=>⟨Pq _ _,by simp⟩) (ys.map eL) J (by rw[hys,bY,cV,gR,iN,aS (l:=xs.map eL) (i:=xs.length) (by simp)];rfl) (Qs _ _ _ _) J<|?_;exact at_ ⟨ys,k+1⟩ (by dsimp only;exact⟨hinv,(by omega)⟩)
    .
     have hnew: ∀h:n<xs.length,xs[n]≠m:=fun h=>absurd h (by omega);obtain⟨ys,hys⟩: ∃ys,ys=xs.take n++m::xs.drop n:=⟨_,rfl⟩;have hinv:mc c (k+1) ys:=hS.ins hk hyes (by rw[<-hm,QB hnx hnew,hys]) (by rw[hys];simp;omega);refine s3 n _ J J J J (gA _) (by rw[hxl];exact hnl) J<|ro J J<|ni n xs.length _ J J (by rw[hxl]) J (gA _) hnl (by omega) J<|?_;refine ap _ J J (Gj _ _ _) J<|mD (hv:=by simp only[ah];exact⟨by kernel_rfl,by omega⟩) (ho:=fun _=>⟨Pq _ _,by simp⟩) (ys.map eL) J (by rw[hys,bY,cV,gR,iN,aS (l:=xs.map eL) (i:=xs.length) (by simp)];rfl) (Qs _ _ _ _) J<|?_;exact at_ ⟨ys,k+1⟩ (by dsimp only;exact⟨hinv,(by omega)⟩)
 .
  have hfin:fj c=xs:=hS.done (by have:=hS.le;omega);refine cs 71 J J J (fun hg71=>?_) (fun hg71=>?_)
  .
   exact rz J (by rw[r5,if_pos hg71,hfin];rfl)
  .
   exact rz J (by rw[r5,if_neg hg71,hfin];rfl)
section
variable {α:Type} (c:α->α->Int)
def dC(x:α):List α->List α
 |[]=>[x]
 |u::t=>if c u x<0 then u::dC x t else if c u x=0 then u::t else x::u::t
def jP(x:α)(xs:List α):Nat:=(xs.takeWhile fun u=>decide (c u x<0)).length
def Dg(x:α)(xs:List α):jP c x xs<=xs.length:=(List.takeWhile_sublist _).length_le
def vE{x:α}{xs:List α}{n:Nat}(h1:n<=xs.length)(h2: ∀j (h:j<xs.length),j<n->c xs[j] x<0)(h3: ∀h:n<xs.length,¬c xs[n] x<0):jP c x xs=n:=
 JF h1 (fun j h hj=>decide_eq_true (h2 j h hj)) (fun h=>decide_eq_false (h3 h))
def A'{x:α}: ∀{xs:List α} {n:Nat},jP c x xs=n->(h:n<xs.length)->c xs[n] x=0->dC c x xs=xs
 |[],n,_,h,_=>by simp at h
 |u::t,n,hn,h,e=>by
  rw[dC];unfold jP at hn;rw[oN] at hn;by_cases hu:c u x<0
  .rw[if_pos hu]
   rw[if_pos (by simpa using hu)] at hn;obtain⟨k,rfl⟩: ∃k,n=k+1:=⟨n-1,by simp at hn;omega⟩;rw[A' (xs:=t) (n:=k) (by unfold jP;simpa using hn) (by simpa using h) (by simpa using e)]
  .rw[if_neg (by simpa using hu)] at hn
   simp at hn;subst hn;rw[if_neg hu,if_pos (by simpa using e)]
def tA{x:α}: ∀{xs:List α} {n:Nat},jP c x xs=n->(∀h:n<xs.length,c xs[n] x≠0)->dC c x xs=xs.take n++x::xs.drop n
 |[],n,hn,_=>by simp[jP] at hn;subst hn;rfl
 |u::t,n,hn,e=>by
  rw[dC];unfold jP at hn;rw[oN] at hn;by_cases hu:c u x<0
  .rw[if_pos hu]
   rw[if_pos (by simpa using hu)] at hn;obtain⟨k,rfl⟩: ∃k,n=k+1:=⟨n-1,by simp at hn;omega⟩;rw[tA (xs:=t) (n:=k) (by unfold jP;simpa using hn) (fun h=>by have:=e (by simpa using h);simpa using this)];simp
  .rw[if_neg (by simpa using hu)] at hn
   simp at hn;subst hn;have:=e (by simp);rw[if_neg hu,if_neg (by simpa using this)];rfl
def Cr(x:α): ∀(xs:List α),(dC c x xs).length<=xs.length+1
 |[]=>aM _
 |u::t=>by
  have:=Cr x t;rw[dC];split
  .simp;omega
  .split<;>simp
def FI{x y:α}: ∀{xs:List α},y∈dC c x xs->y=x\/y∈xs
 |[],h=>by rw[dC,aU] at h;exact .inl h
 |u::t,h=>by
  rw[dC] at h;split at h
  .rcases aT.1 h with rfl|h
   .exact .inr aZ
   .rcases FI h with h|h
    .exact .inl h
    .exact .inr (aK _ h)
  .split at h
   .exact .inr h
   .rcases aT.1 h with rfl|h
    .exact .inl J
    .exact .inr h
def ue(l:List α):List α:=l.foldl (fun out x=>dC c x out) []
def Mt: ∀(l o:List α),(l.foldl (fun out x=>dC c x out) o).length<=l.length+o.length
 |[],o=>by simp
 |x::t,o=>by
  have:=Mt t (dC c x o);have:=Cr c x o;simp only[kV,bJ];omega
def EW{y:α}: ∀{l o:List α},y∈l.foldl (fun out x=>dC c x out) o->y∈l\/y∈o
 |[],o,h=> .inr h
 |x::t,o,h=>by
  rcases EW (l:=t) h with h|h
  .exact .inl (aK _ h)
  .rcases FI c h with rfl|h
   .exact .inl aZ
   .exact .inr h
end
def z7{x:Rat}: ∀{l:List Rat},m7 x l=dC bg x l
 |[]=>rfl
 |u::t=>by
  have e1:bg u x<0↔u<x:=AP u x;have e2:bg u x=0↔u=x:=tc u x;rw[m7,dC,z7 (l:=t)];by_cases h:u<x
  .rw[if_pos h,if_pos (e1.2 h)]
  .rw[if_neg h,if_neg (fun e=>h (e1.1 e))]
   by_cases h2:u=x
   .rw[if_pos h2,if_pos (e2.2 h2)]
   .rw[if_neg h2,if_neg (fun e=>h2 (e2.1 e))]
def ve{α β:Type}{f:α->β}{l:List α}{k:Nat}{x:α}(h:l[k]? =some x):(l.take k).map f++[f x]=(l.take (k+1)).map f:=by
 rw[eY,h,bY];rfl
def aJg{n i:Nat}[h:BN n i](hi:i<=20000000:=by decide):PF GB prog 251 [dN n] (dN n):=by
 have hl:=lm h.h;have:=QQ (GB:=GB) (ds:=dg n) (lc n) (by omega);rw[cj,<-Gl] at this;exact this
def ayE(z:Int):o6 (decide (z<0)) (dg z.natAbs)=z:=by
 unfold o6;rw[cj];split<;>(rename_i h;simp at h;omega)
def aIB{z:Int}{i:Nat}[h:BI z i](hi:i<=20000000:=by decide):PF GB prog 252 [eI z] (eI z):=by
 have hl:=lm h.h;have:=ZQ (GB:=GB) (neg:=decide (z<0)) (ds:=dg z.natAbs) (lc _) (by omega);rw[ayE,<-Gl] at this;exact this
def aIo{n:Nat}(h:0<n): ¬((((dg n).map dU).length:Nat):Int)=0:=by
 rw[aJ];have:=vJ (n:=n);omega
instance BQ.m1':BQ (((-1:Int):Int):Rat) 2:=⟨by decide,by decide⟩
instance BQ.m1:BQ (-1:Rat) 2:=⟨by decide,by decide⟩
def RE{q:Rat}{i:Nat}[h:BQ q i](hi:i<=20000000:=by decide):PF GB prog 206 [eR q] (eQ q):=by
 have hd:=q.den_pos;refine fn func206 J J ntmps206 J J (fun C=>?_);refine cl (fu:=⟨8⟩) J (aJg (n:=q.den) hi) J<|ck J (by show some (decide _)=some false;rw[decide_eq_false (aIo hd)]) J<|cl J (aIB (z:=q.num) hi) J<|?_;refine cl J (xp (x:=q.num) (d:=q.den) hd (by omega) (by omega)) J<|?_;exact rz J (by rw[tY];rfl)
def Kk{q:Rat}{i:Nat}[h:BQ q i](hi:i<=400000000:=by decide):PF GB prog 20 [eQ q] (eR q):=by
 refine fn func20 J J ntmps20 J J (fun C=>?_);refine cl J (DD (z:=q.num) hi) J<|cl J (kw (q:=q)) J<|cl J (Td (a:=q.den) hi) J<|?_;exact rz J J
def TB{p:aa}{i:Nat}[h:aC p i](hi:i<=20000000:=by decide):PF GB prog 155 [jr p] (eP p):=by
 refine fn func155 J J ntmps155 J J (fun C=>?_);refine cl J (RE (q:=p.x) hi) J<|cl J (RE (q:=p.y) hi) J<|?_;exact rz J J
def LL{p:aa}{i:Nat}[h:aC p i](hi:i<=20000:=by decide):PF GB prog 7 [eP p] (jr p):=by
 refine fn func7 J J ntmps7 J J (fun C=>?_);refine cl J (Kk (q:=p.x) (i:=i) (by omega)) J<|cl J (Kk (q:=p.y) (i:=i) (by omega)) J<|?_;exact rz J J
def gy{α:Type}(f:α->DV)(l:List α):(l.map f).length=l.length:=aJ ..
def qB(ps:List aa):cF 6 (ps.map eP):=fun d hd=>by
 obtain⟨u,_,rfl⟩:=bQ.1 hd;exact⟨rfl,rfl⟩
def SS(ps:List aa):cF 6 (ps.map jr):=fun d hd=>by
 obtain⟨u,_,rfl⟩:=bQ.1 hd;exact⟨rfl,rfl⟩
def Wa{ps:List aa}(hb: ∀p∈ps,aC p 1200)(hn:ps.length<=1000000):PF GB prog 89 [.sl (ps.map jr)] (.sl (ps.map eP)):=by
 have hm:=gy jr ps;refine fn (fu:=⟨15⟩) func89 J J ntmps89 J J (fun C=>?_);refine ak 7 (.d (vI (ps.length:Nat))) J (by rw[hm]<;>rfl) ?_;refine gx J<|?_;refine nr 3 3 46 6 J J J ?_;refine lp (X:=Nat) (fun k=>[(8, .d (vI (k:Nat))),(3, .rw 3)]) (fun k=>[(3,some (.b 46 6 ((ps.take k).map eP) true))]) (fun k=>k<=ps.length) (fun k=>ps.length-k) 0 J (aN _) (fun _=>J) (fun k hk=>?_);have hml:=gy eP (ps.take k);rw[cJ] at hml;refine br J J J (fun hc9=>?_) (fun hc9=>?_)
 .
  obtain⟨z,hz⟩: ∃s,ps[k]? =some s:=⟨_,aQ (by omega)⟩;have hzm:=aV hz;refine ix _ J (cA hz) J<|cl J (TB (p:=z) (h:=hb z hzm)) J<|rf J J<|ap ((ps.take (k+1)).map eP) J (ve hz) (qB [z]) J<|?_;refine fE 16 3 J ?_;exact at_ (k+1) ⟨(by omega),(by omega)⟩
 .
  obtain rfl:k=ps.length:=by omega
  refine gI 3 J ?_;exact rz J (by rw[dW];rfl)
def KG{ps:List aa}(hb: ∀p∈ps,aC p 1200)(hn:ps.length<=1000000):PF GB prog 34 [.sl (ps.map eP)] (.sl (ps.map jr)):=by
 have hm:=gy eP ps;refine fn (fu:=⟨15⟩) func34 J J ntmps34 J J (fun C=>?_);refine ak 7 (.d (vI (ps.length:Nat))) J (by rw[hm]<;>rfl) ?_;refine gx J<|?_;refine nr 3 3 38 6 J J J ?_;refine lp (X:=Nat) (fun k=>[(8, .d (vI (k:Nat))),(3, .rw 3)]) (fun k=>[(3,some (.b 38 6 ((ps.take k).map jr) true))]) (fun k=>k<=ps.length) (fun k=>ps.length-k) 0 J (aN _) (fun _=>J) (fun k hk=>?_);have hml:=gy jr (ps.take k);rw[cJ] at hml;refine br J J J (fun hc9=>?_) (fun hc9=>?_)
 .
  obtain⟨z,hz⟩: ∃s,ps[k]? =some s:=⟨_,aQ (by omega)⟩;have hzm:=aV hz;refine ix _ J (cA hz) J<|cl J (LL (p:=z) (h:=hb z hzm)) J<|rf J J<|ap ((ps.take (k+1)).map jr) J (ve hz) (SS [z]) J<|?_;refine fE 16 3 J ?_;exact at_ (k+1) ⟨(by omega),(by omega)⟩
 .
  obtain rfl:k=ps.length:=by omega
  refine gI 3 J ?_;exact rz J (by rw[dW];rfl)
def Ni{p q:aa}{i j:Nat}[hp:aC p i][hq:aC q j](hi:i<=100000:=by decide)(hj:j<=100000:=by decide):PF GB prog 243 [eP p,eP q] (eP (bP p q (-1))):=by
 refine fn func243 J J ntmps243 J J (fun C=>?_);refine cl J (lu (n:= -1)) J<|cl J (A5 (p:=p) (q:=q) (c:=((-1:Int):Rat)) (i:=i) (j:=j) (k:=2) (by omega) (by omega)) J<|?_;exact rz J (by rw[show((-1:Int):Rat)= -1 from J];rfl)
def Sz{a b c:aa}{i j k:Nat}[ha:aC a i][hb:aC b j][hc:aC c k](hi:i<=80000:=by decide)(hj:j<=80000:=by decide)(hk:k<=80000:=by decide):PF GB prog 246 [eP a,eP b,eP c] (vI (yP a b c)):=by
 refine fn func246 J J ntmps246 J J (fun C=>?_);refine cl J (Ni (p:=b) (q:=a) (i:=j) (j:=i) (by omega) (by omega)) J<|cl J (Ni (p:=c) (q:=a) (i:=k) (j:=i) (by omega) (by omega)) J<|?_;refine cl J (D3 (p:=bP b a (-1)) (q:=bP c a (-1)) (by omega) (by omega)) J<|cl J (qm (q:=(bP b a (-1)).cross (bP c a (-1)))) J<|?_;exact rz J J
def gt(p q:aa):Int:=if bg p.x q.x≠0 then bg p.x q.x else bg p.y q.y
def OU{p q:aa}{i j:Nat}[hp:aC p i][hq:aC q j](hi:i<=100000:=by decide)(hj:j<=100000:=by decide):PF GB prog 171 [eP p,eP q] (vI (gt p q)):=by
 refine fn func171 J J ntmps171 J J (fun C=>?_);refine cl J (mF (a:=p.x) (b:=q.x) (by omega) (by omega)) J<|?_;refine br J J J (fun hc12=>?_) (fun hc12=>?_)
 .
  exact rz J (by unfold gt;rw[if_pos hc12];rfl)
 .
  refine cl J (mF (a:=p.y) (b:=q.y) (by omega) (by omega)) J<|?_;exact rz J (by unfold gt;rw[if_neg hc12];rfl)
def qd(l:ab):Bool:=decide (l.a<0\/(l.a=0/\l.b<0))
def ab.canon(l:ab):ab:=if qd l then l.rev else l
def Aq(a:Int):a.sign<0↔a<0:=by
 rcases lT a 0 with h|h|h
 .rw[eJ h];omega
 .subst h;simp
 .rw[dS h];omega
def N6(a:Int):a.sign=0↔a=0:=jY
def LU{l:ab}(h:l.a<0\/(l.a=0/\l.b<0)):DV.tp [eL l.canon,vB (qd l)]= .tp [eL l.rev,vB true]:=by
 unfold ab.canon qd;rw[decide_eq_true h];rfl
def Q9{l:ab}(h: ¬(l.a<0\/(l.a=0/\l.b<0))):DV.tp [eL l.canon,vB (qd l)]= .tp [eL l,vB false]:=by
 unfold ab.canon qd;rw[decide_eq_false h];rfl
def WI{l:ab}[hl:LB l]:PF GB prog 156 [eL l] (.tp [eL l.canon,vB (qd l)]):=by
 refine fn func156 J J ntmps156 J J (fun C=>?_);refine cl J (Ep (z:=l.a)) J<|?_;refine cs 10 J J J (fun hg10=>?_) (fun hg10=>?_)
 .
  refine cl J (xY (l:=l)) J<|?_;exact rz J (by rw[LU (.inl ((Aq _).1 hg10))];rfl)
 .
  refine cs 13 J J J (fun hg13=>?_) (fun hg13=>?_)
  .
   refine cl J (Ep (z:=l.b)) J<|?_;refine br J J J (fun hc19=>?_) (fun hc19=>?_)
   .
    refine cl J (xY (l:=l)) J<|?_;exact rz J (by rw[LU (.inr ⟨(N6 _).1 hg13,(Aq _).1 hc19⟩)];rfl)
   .
    exact rz J (by rw[Q9 (fun e=>e.elim (fun e=>hg10 ((Aq _).2 e)) (fun e=>hc19 ((Aq _).2 e.2)))];rfl)
  .
   exact rz J (by rw[Q9 (fun e=>e.elim (fun e=>hg10 ((Aq _).2 e)) (fun e=>hg13 ((N6 _).2 e.1)))];rfl)
instance LB.canon (l:ab) [h:LB l]:LB l.canon:=by unfold ab.canon;split;exact LB.rev h;exact h
def sC{α β:Type}(c:β->β->Int)(g:α->β)(l:List α)(k:Nat):List β:=ue c ((l.take k).map g)
section
variable {α β:Type} {c:β->β->Int} {g:α->β} {l:List α} {k:Nat}
def xG{x:α}(h:l[k]? =some x):sC c g l (k+1)=dC c (g x) (sC c g l k):=by
 unfold sC ue;rw[eY,h,Option.toList_some,bY,rN];rfl
def Q6(h:k=l.length:=by omega):sC c g l k=ue c (l.map g):=by unfold sC;rw[h,dW]
def Ob:(sC c g l k).length<=k:=by
 have:=Mt c ((l.take k).map g) [];have h2:((l.take k).map g).length<=k:=by rw[aJ,cJ];omega
 rw[fV] at this;unfold sC ue;omega
def MR{y:β}(h:y∈sC c g l k): ∃x∈l,y=g x:=by
 rcases EW c h with h|h
 .obtain⟨x,hx,rfl⟩:=bQ.1 h
  exact⟨x,dJ hx,J⟩
 .cases h
end
def vd{α:Type}{f:α->DV}{s:Nat}(ok: ∀l:List α,cF s (l.map f))(xs:List α)(n:Nat):cF s ((xs.map f).take n):=fun d hd=>ok xs d (dJ hd)
def uc{α:Type}{f:α->DV}{s:Nat}(ok: ∀l:List α,cF s (l.map f))(xs:List α)(n m:Nat):cF s (((xs.map f).take n).drop m):=fun d hd=>ok xs d (dJ (gL hd))
def uH{α:Type}{f:α->DV}{s:Nat}(ok: ∀l:List α,cF s (l.map f))(xs:List α)(n m:Nat)(x:α):cF s ([f x]++((xs.map f).take n).drop m):=fun d hd=>by
 rcases bK.1 hd with h|h
 .exact ok [x] d h
 .exact uc ok xs n m d h
def r8{α:Type}{f:α->DV}{l:List α}{i:Nat}(h:i<l.length:=by omega):(l.map f)[(i:Int).toNat]? =some (f l[i]):=by
 rw[bV,cK,aQ h];rfl
def TG{ps:List aa}(hb: ∀p∈ps,aC p 1200)(hn:ps.length<=100000):PF GB prog 100 [.sl (ps.map eP)] (.sl ((ue gt ps).map eP)):=by
 have hm':=gy eP ps;refine fn (fu:=⟨15⟩) func100 J J ntmps100 J J (fun C=>?_);refine ak 8 (.d (vI (ps.length:Nat))) J (by rw[hm'];rfl) ?_;refine gx J<|?_;refine CN 3 J ?_;refine lp (X:=List aa×Nat) (fun⟨xs,k⟩=>[(9, .d (vI (k:Nat))),(8, .d (vI (ps.length:Nat))),(7, .d (.sl (ps.map eP))),(0, .d (.sl (ps.map eP))),(3, .d (.sl (xs.map eP)))]) (fun⟨xs,k⟩=>[]) (fun⟨xs,k⟩=>xs=sC gt id ps k/\k<=ps.length) (fun⟨xs,k⟩=>ps.length-k) ⟨[],0⟩ J ⟨J,aN _⟩ (fun _=>J) (fun⟨xs,k⟩ hk=>?_)
 try dsimp only at hk⊢
 obtain⟨hS,hkl⟩:=hk;refine br J J J (fun hc10=>?_) (fun hc10=>?_)
 .
  have hk:k<ps.length:=by omega
  obtain⟨m,hm⟩: ∃m,m=ps[k]:=⟨_,rfl⟩;have hz:ps[k]? =some m:=by rw[hm];exact aQ hk
  haveI hmb:aC m 1200:=hm▸hb _ (bL hk);have hxl:=gy eP xs;have hxn:xs.length<=k:=by rw[hS];exact Ob
  have hxb: ∀q∈xs,aC q 1200:=fun q hq=>by rw[hS] at hq;obtain⟨z,hz,he⟩:=MR hq;rw[he];exact hb z hz
  refine ix (fu:=⟨1⟩) _ J (r8 hk) J<|?_;refine ak 12 (.d (eP m)) J (by rw[hm];rfl) ?_;refine gx (fu:=⟨10⟩) J<|?_;refine mg (fu:=⟨5⟩) (X:=Unit) (fun _=>[(9, .d (vI (k:Nat))),(8, .d (vI (ps.length:Nat))),(7, .d (.sl (ps.map eP))),(0, .d (.sl (ps.map eP))),(3, .d (.sl (xs.map eP))),(5, .ov 5 0),(6, .d (vI (jP gt m xs:Nat)))]) (fun _=>[(5,some (.o 46 [.d ((.v (.bool (decide (m.x.num<0))))), .d (dN m.x.num.natAbs), .d (dD m.x.den), .d ((.v (.bool (decide (m.y.num<0))))), .d (dN m.y.num.natAbs), .d (dD m.y.den)] true))]) (fun _=>True) [9,8,7,0,3,5,6] [5] rfl ?_ (fun _=>J) (fun _ _=>?_)
  .
   refine gx J<|?_;refine lp (fu:=⟨6⟩) (X:=Nat) (fun n=>[(9, .d (vI (k:Nat))),(8, .d (vI (ps.length:Nat))),(7, .d (.sl (ps.map eP))),(0, .d (.sl (ps.map eP))),(3, .d (.sl (xs.map eP))),(5, .ov 5 0),(6, .d (vI (n:Nat)))]) (fun n=>[(5,some (.o 46 [.d ((.v (.bool (decide (m.x.num<0))))), .d (dN m.x.num.natAbs), .d (dD m.x.den), .d ((.v (.bool (decide (m.y.num<0))))), .d (dN m.y.num.natAbs), .d (dD m.y.den)] true))]) (fun n=>n<=xs.length/\ ∀j (h:j<xs.length),j<n->gt xs[j] m<0) (fun n=>xs.length-n) 0 J ⟨aN _,fun j _ hj=>absurd hj (by omega)⟩ (fun _=>J) (fun n hk=>?_);obtain⟨n1,n2⟩:=hk;refine mr (v2:=fun hg16=>by simp only[ah];kernel_rfl) J J J J (fun hg16=>?_) (fun hg16=>?_)
   .
    refine ix _ J (r8) J<|cl J (OU (p:=xs[n]'(by omega)) (q:=m) (hp:=hxb _ (bL (by omega))) (hq:=hmb)) J<|?_;refine br J J J (fun hc25=>?_) (fun hc25=>?_)
    .
     exact at_ (n+1) ⟨⟨by omega,fun j h hj=>by by_cases q:j=n;(subst q;exact hc25);exact n2 j h (by omega)⟩,(by omega)⟩
    .
     have hidx:jP gt m xs=n:=vE gt n1 n2 (fun h=>hc25);exact at_ () trivial
   .
    have hidx:jP gt m xs=n:=vE gt n1 n2 (fun h=>absurd h (by omega));exact at_ () trivial
  .
   obtain⟨n,hnx⟩: ∃n,jP gt m xs=n:=⟨_,rfl⟩;rw[hnx];have hnl:n<=xs.length:=by rw[<-hnx];exact Dg _ _ _
   refine mr (v1:=fun hg31=>by simp only[ah];kernel_rfl) J J J J (fun hg31=>?_) (fun hg31=>?_)
   .
    have hnew: ∀h:n<xs.length,gt xs[n] m≠0:=fun h=>absurd h (by omega);obtain⟨ys,hys⟩: ∃ys,ys=xs.take n++m::xs.drop n:=⟨_,rfl⟩;have hin:dC gt m xs=ys:=by rw[hys];exact tA gt hnx hnew
    have hyl:ys.length<=xs.length+1:=by rw[hys];simp;omega
    refine s3 n _ J J J J (qB _) (by rw[hxl];exact hnl) J<|ro J J<|ni n xs.length _ J J (by rw[hxl]) J (qB _) hnl (by omega) J<|?_;refine ap _ J J (uc qB _ _ _) J<|mD (hv:=by simp only[ah];exact⟨by kernel_rfl,by omega⟩) (ho:=fun _=>⟨vd qB _ _,by simp⟩) (ys.map eP) J (by rw[hys,bY,cV,gR,iN,aS (l:=xs.map eP) (i:=xs.length) (by simp)];rfl) (uH qB _ _ _ _) J<|?_;exact at_ ⟨ys,k+1⟩ (by dsimp only;exact⟨⟨by rw[xG hz,<-hS];exact hin.symm,by omega⟩,(by omega)⟩)
   .
    refine ix _ J (r8) J<|cl J (OU (p:=xs[n]'(by omega)) (q:=m) (hp:=hxb _ (bL (by omega))) (hq:=hmb)) J<|?_;refine br J J J (fun hc40=>?_) (fun hc40=>?_)
    .
     have hnew: ∀h:n<xs.length,gt xs[n] m≠0:=fun h=>hc40;obtain⟨ys,hys⟩: ∃ys,ys=xs.take n++m::xs.drop n:=⟨_,rfl⟩;have hin:dC gt m xs=ys:=by rw[hys];exact tA gt hnx hnew
     have hyl:ys.length<=xs.length+1:=by rw[hys];simp;omega
     refine s3 n _ J J J J (qB _) (by rw[hxl];exact hnl) J<|ro J J<|ni n xs.length _ J J (by rw[hxl]) J (qB _) hnl (by omega) J<|?_;refine ap _ J J (uc qB _ _ _) J<|mD (hv:=by simp only[ah];exact⟨by kernel_rfl,by omega⟩) (ho:=fun _=>⟨vd qB _ _,by simp⟩) (ys.map eP) J (by rw[hys,bY,cV,gR,iN,aS (l:=xs.map eP) (i:=xs.length) (by simp)];rfl) (uH qB _ _ _ _) J<|?_;exact at_ ⟨ys,k+1⟩ (by dsimp only;exact⟨⟨by rw[xG hz,<-hS];exact hin.symm,by omega⟩,(by omega)⟩)
    .
     have hin:dC gt m xs=xs:=A' gt hnx (by omega) (Decidable.not_not.1 hc40);exact at_ ⟨xs,k+1⟩ (by dsimp only;exact⟨⟨by rw[xG hz,<-hS];exact hin.symm,by omega⟩,(by omega)⟩)
 .
  have hfin:ue gt ps=xs:=by rw[hS,Q6,List.map_id]
  exact rz J (by rw[hfin];rfl)
def xd(ls:List ab):List ab:=ue i4 (ls.map ab.canon)
def VB{ls:List ab}(hb: ∀p∈ls,LB p)(hn:ls.length<=100000):PF GB prog 90 [.sl (ls.map eL)] (.sl ((xd ls).map eL)):=by
 have hm':=gy eL ls;refine fn (fu:=⟨15⟩) func90 J J ntmps90 J J (fun C=>?_);refine ak 8 (.d (vI (ls.length:Nat))) J (by rw[hm'];rfl) ?_;refine gx J<|?_;refine CN 3 J ?_;refine lp (X:=List ab×Nat) (fun⟨xs,k⟩=>[(9, .d (vI (k:Nat))),(8, .d (vI (ls.length:Nat))),(7, .d (.sl (ls.map eL))),(0, .d (.sl (ls.map eL))),(3, .d (.sl (xs.map eL)))]) (fun⟨xs,k⟩=>[]) (fun⟨xs,k⟩=>xs=sC i4 ab.canon ls k/\k<=ls.length) (fun⟨xs,k⟩=>ls.length-k) ⟨[],0⟩ J ⟨J,aN _⟩ (fun _=>J) (fun⟨xs,k⟩ hk=>?_)
 try dsimp only at hk⊢
 obtain⟨hS,hkl⟩:=hk;refine br J J J (fun hc10=>?_) (fun hc10=>?_)
 .
  have hk:k<ls.length:=by omega
  obtain⟨z,hm⟩: ∃m,m=ls[k]:=⟨_,rfl⟩;have hz:ls[k]? =some z:=by rw[hm];exact aQ hk
  haveI hzb:LB z:=hm▸hb _ (bL hk);obtain⟨m,hmc⟩: ∃m,m=z.canon:=⟨_,rfl⟩;haveI hmb:LB m:=by rw[hmc];infer_instance
  have hxl:=gy eL xs;have hxn:xs.length<=k:=by rw[hS];exact Ob
  have hxb: ∀q∈xs,LB q:=fun q hq=>by rw[hS] at hq;obtain⟨z,hz,rfl⟩:=MR hq;haveI:=hb z hz;infer_instance
  refine ix (fu:=⟨1⟩) _ J (r8 hk) J<|?_;refine ak 12 (.d (eL z)) J (by rw[hm];rfl) ?_;refine gx J<|cl (fu:=⟨2⟩) J (WI (l:=z)) J<|?_;refine ak 16 (.d (eL m)) J (by rw[hmc]) ?_;refine gx (fu:=⟨10⟩) J<|?_;refine mg (fu:=⟨5⟩) (X:=Unit) (fun _=>[(9, .d (vI (k:Nat))),(8, .d (vI (ls.length:Nat))),(7, .d (.sl (ls.map eL))),(0, .d (.sl (ls.map eL))),(3, .d (.sl (xs.map eL))),(5, .ov 5 0),(6, .d (vI (jP i4 m xs:Nat)))]) (fun _=>[(5,some (.o 111 [.d ((.v (.bool (decide (m.a<0))))), .d (dN m.a.natAbs), .d ((.v (.bool (decide (m.b<0))))), .d (dN m.b.natAbs), .d ((.v (.bool (decide (m.c<0))))), .d (dN m.c.natAbs)] true))]) (fun _=>True) [9,8,7,0,3,5,6] [5] rfl ?_ (fun _=>J) (fun _ _=>?_)
  .
   refine gx J<|?_;refine lp (fu:=⟨6⟩) (X:=Nat) (fun n=>[(9, .d (vI (k:Nat))),(8, .d (vI (ls.length:Nat))),(7, .d (.sl (ls.map eL))),(0, .d (.sl (ls.map eL))),(3, .d (.sl (xs.map eL))),(5, .ov 5 0),(6, .d (vI (n:Nat)))]) (fun n=>[(5,some (.o 111 [.d ((.v (.bool (decide (m.a<0))))), .d (dN m.a.natAbs), .d ((.v (.bool (decide (m.b<0))))), .d (dN m.b.natAbs), .d ((.v (.bool (decide (m.c<0))))), .d (dN m.c.natAbs)] true))]) (fun n=>n<=xs.length/\ ∀j (h:j<xs.length),j<n->i4 xs[j] m<0) (fun n=>xs.length-n) 0 J ⟨aN _,fun j _ hj=>absurd hj (by omega)⟩ (fun _=>J) (fun n hk=>?_);obtain⟨n1,n2⟩:=hk;refine mr (v2:=fun hg21=>by simp only[ah];kernel_rfl) J J J J (fun hg21=>?_) (fun hg21=>?_)
   .
    refine ix _ J (r8) J<|cl J (BU (l:=xs[n]'(by omega)) (m:=m) (hl:=hxb _ (bL (by omega))) (hm:=hmb)) J<|?_;refine br J J J (fun hc30=>?_) (fun hc30=>?_)
    .
     exact at_ (n+1) ⟨⟨by omega,fun j h hj=>by by_cases q:j=n;(subst q;exact hc30);exact n2 j h (by omega)⟩,(by omega)⟩
    .
     have hidx:jP i4 m xs=n:=vE i4 n1 n2 (fun h=>hc30);exact at_ () trivial
   .
    have hidx:jP i4 m xs=n:=vE i4 n1 n2 (fun h=>absurd h (by omega));exact at_ () trivial
  .
   obtain⟨n,hnx⟩: ∃n,jP i4 m xs=n:=⟨_,rfl⟩;rw[hnx];have hnl:n<=xs.length:=by rw[<-hnx];exact Dg _ _ _
   refine mr (v1:=fun hg36=>by simp only[ah];kernel_rfl) J J J J (fun hg36=>?_) (fun hg36=>?_)
   .
    have hnew: ∀h:n<xs.length,i4 xs[n] m≠0:=fun h=>absurd h (by omega);obtain⟨ys,hys⟩: ∃ys,ys=xs.take n++m::xs.drop n:=⟨_,rfl⟩;have hin:dC i4 m xs=ys:=by rw[hys];exact tA i4 hnx hnew
    have hyl:ys.length<=xs.length+1:=by rw[hys];simp;omega
    refine s3 n _ J J J J (gA _) (by rw[hxl];exact hnl) J<|ro J J<|ni n xs.length _ J J (by rw[hxl]) J (gA _) hnl (by omega) J<|?_;refine ap _ J J (uc gA _ _ _) J<|mD (hv:=by simp only[ah];exact⟨by kernel_rfl,by omega⟩) (ho:=fun _=>⟨vd gA _ _,by simp⟩) (ys.map eL) J (by rw[hys,bY,cV,gR,iN,aS (l:=xs.map eL) (i:=xs.length) (by simp)];rfl) (uH gA _ _ _ _) J<|?_;exact at_ ⟨ys,k+1⟩ (by dsimp only;exact⟨⟨by rw[xG hz,<-hS,<-hmc];exact hin.symm,by omega⟩,(by omega)⟩)
   .
    refine ix _ J (r8) J<|cl J (BU (l:=xs[n]'(by omega)) (m:=m) (hl:=hxb _ (bL (by omega))) (hm:=hmb)) J<|?_;refine br J J J (fun hc45=>?_) (fun hc45=>?_)
    .
     have hnew: ∀h:n<xs.length,i4 xs[n] m≠0:=fun h=>hc45;obtain⟨ys,hys⟩: ∃ys,ys=xs.take n++m::xs.drop n:=⟨_,rfl⟩;have hin:dC i4 m xs=ys:=by rw[hys];exact tA i4 hnx hnew
     have hyl:ys.length<=xs.length+1:=by rw[hys];simp;omega
     refine s3 n _ J J J J (gA _) (by rw[hxl];exact hnl) J<|ro J J<|ni n xs.length _ J J (by rw[hxl]) J (gA _) hnl (by omega) J<|?_;refine ap _ J J (uc gA _ _ _) J<|mD (hv:=by simp only[ah];exact⟨by kernel_rfl,by omega⟩) (ho:=fun _=>⟨vd gA _ _,by simp⟩) (ys.map eL) J (by rw[hys,bY,cV,gR,iN,aS (l:=xs.map eL) (i:=xs.length) (by simp)];rfl) (uH gA _ _ _ _) J<|?_;exact at_ ⟨ys,k+1⟩ (by dsimp only;exact⟨⟨by rw[xG hz,<-hS,<-hmc];exact hin.symm,by omega⟩,(by omega)⟩)
    .
     have hin:dC i4 m xs=xs:=A' i4 hnx (by omega) (Decidable.not_not.1 hc45);exact at_ ⟨xs,k+1⟩ (by dsimp only;exact⟨⟨by rw[xG hz,<-hS,<-hmc];exact hin.symm,by omega⟩,(by omega)⟩)
 .
  have hfin:xd ls=xs:=by rw[hS,Q6];rfl
  exact rz J (by rw[hfin];rfl)
def To(l:ab)(p:aa):l.canon.value p=l.value p\/l.canon.value p= -l.value p:=by
 unfold ab.canon;split
 .exact .inr (fq l p)
 .exact .inl J
def Fb(a b:Tr):List aa:=Tk (xd (a.lns++b.lns))
def eqR(a b:Tr):Bool:=(Fb a b).all fun p=>uG a p==uG b p
def aLp(f:Bool->Bool->Bool)(a b:Tr):Bool:=(Fb a b).any fun p=>f (uG a p) (uG b p)
def aKx(v:Bool)(t:Tr):Bool:=decide ((t.restrict []).isLeaf=true/\(t.restrict []).code=v)
def Nb{α:Type}{c:α->α->Int}(hT: ∀u v w,c u v<0->c v w<0->c u w<0)(hA: ∀u v,¬c u v<0->c u v≠0->c v u<0){x:α}: ∀{xs:List α},xs.Pairwise (fun a b=>c a b<0)->(dC c x xs).Pairwise (fun a b=>c a b<0)
 |[],_=>by rw[dC];exact List.pairwise_singleton _ _
 |u::t,h=>by
  obtain⟨h1,h2⟩:=bR.1 h;rw[dC];split
  .rename_i hu
   refine bR.2 ⟨fun y hy=>?_,Nb hT hA h2⟩;rcases FI c hy with rfl|hy
   .exact hu
   .exact h1 y hy
  .rename_i hu
   split
   .exact h
   .rename_i hz
    have hx:=hA u x hu hz;refine bR.2 ⟨fun y hy=>?_,h⟩;rcases aT.1 hy with rfl|hy
    .exact hx
    .exact hT _ _ _ hx (h1 y hy)
def Sq{α:Type}{c:α->α->Int}(hT: ∀u v w,c u v<0->c v w<0->c u w<0)(hA: ∀u v,¬c u v<0->c u v≠0->c v u<0): ∀{l o:List α},o.Pairwise (fun a b=>c a b<0)->(l.foldl (fun out x=>dC c x out) o).Pairwise (fun a b=>c a b<0)
 |[],o,h=>h
 |x::l,o,h=>Sq (l:=l) (o:=dC c x o) hT hA (Nb hT hA h)
def Zm(L:List ab)(p:aa):List aa:=L.flatMap fun l=>if Int.sign (l.value p).num=0 then [l.dir,bE l.dir] else []
def Xf{u v:aa}:0<co u v↔cd v u:=by
 unfold co cd;split
 .rename_i h;exact⟨fun e=>absurd e (by decide),fun e=>by omega⟩
 .rename_i h
  split
  .rename_i h2;exact⟨fun _=> .inl h2,fun _=>by decide⟩
  .rename_i h2
   have e:v.half=u.half:=by omega
   rw[eB u v];constructor
   .intro k
    have:Int.sign (u.cross v).num<0:=by omega
    rw[sI] at this;exact .inr ⟨e,by grind⟩
   .rintro (k|⟨_,k⟩)
    .omega
    .have:Int.sign (u.cross v).num<0:=(sI _).2 (by grind)
     omega
def cd.trans{u v w:aa}(hu:u.half≠0)(hv:v.half≠0)(hw:w.half≠0)(h:cd u v)(k:cd v w):cd u w:=by
 rcases h with h|⟨h,h'⟩<;>rcases k with k|⟨k,k'⟩
 .exact .inl (by omega)
 .exact .inl (by omega)
 .exact .inl (by omega)
 .refine .inr ⟨h.trans k,?_⟩
  have id1:u.cross w*v.y=u.cross v*w.y+v.cross w*u.y:=by unfold aa.cross;grind
  rcases kD v with⟨x,q⟩|⟨x,q⟩|⟨x,q⟩
  .rw[x] at h k
   have qu:=lB.1 h;have qw:=lB.1 k.symm;rcases q with q|⟨q,q'⟩
   .rw[<-gv q,id1]
    have wy:0<=w.y:=by grind
    have uy:0<=u.y:=by grind
    have a1:=cO (dQ h') wy;rcases qu with qu|⟨qu,qu'⟩
    .have:=bH k' qu;grind
    .rcases qw with qw|⟨qw,qw'⟩
     .have:=bH h' qw;rw[qu];grind
     .exfalso
      have hx:v.cross w= -(w.x*v.y):=by unfold aa.cross;rw[qw];grind
      have:=bH qw' q;grind
   .exfalso
    have hx:u.cross v= -(v.x*u.y):=by unfold aa.cross;rw[q];grind
    have:=cO (a:=v.x) (b:=u.y) (dQ q') (by grind);grind
  .rw[x] at h k
   have qu:=pq.1 h;have qw:=pq.1 k.symm;rcases q with q|⟨q,q'⟩
   .have e1:u.cross w* -v.y=u.cross v* -w.y+v.cross w* -u.y:=by grind
    rw[<-gv (k:= -v.y) (by grind),e1];have a1:=cO (a:=u.cross v) (b:= -w.y) (dQ h') (by grind);rcases qu with qu|⟨qu,qu'⟩
    .have:=bH (a:=v.cross w) (b:= -u.y) k' (by grind);grind
    .rcases qw with qw|⟨qw,qw'⟩
     .have:=bH (a:=u.cross v) (b:= -w.y) h' (by grind);rw[qu];grind
     .exfalso
      have hx:v.cross w= -(-w.x* -v.y):=by unfold aa.cross;rw[qw];grind
      have:=bH (a:= -w.x) (b:= -v.y) (by grind) (by grind);grind
   .exfalso
    have hx:u.cross v= -(-v.x* -u.y):=by unfold aa.cross;rw[q];grind
    have:=cO (a:= -v.x) (b:= -u.y) (by grind) (by grind);grind
  .exact absurd x hv
def Kb(S:List aa)(x:aa):Nat->Nat
 |0=>0
 |k+1=>if 0<co (S.getD k ⟨0,0⟩) x then Kb S x k else k+1
def X5(S:List aa)(x:aa):List aa:=S.take (Kb S x S.length)++x::S.drop (Kb S x S.length)
def VA(ds:List aa):List aa:=ds.foldl X5 []
structure aLl (L:List ab):Prop where
 ok: ∀l∈L,l.ok
 cn: ∀l∈L,qd l=false
 nd:L.Pairwise (fun a b=>a≠b)
def Qb{l:ab}(h:l.ok):qd l.canon=false:=by
 have hn:=h.ne;unfold ab.Ne at hn;unfold ab.canon;split
 .rename_i k
  unfold qd at*;rw[decide_eq_true_eq] at k;rw[decide_eq_false_iff_not];show¬(-l.a<0\/(-l.a=0/\ -l.b<0));omega
 .rename_i k;simpa using k
def vK{l:ab}(h:l.ok):l.dir.half≠0:=fun e=>by
 have hn:=h.ne;unfold ab.Ne at hn;rcases kD l.dir with⟨k,_⟩|⟨k,_⟩|⟨_,k1,k2⟩
 .rw[k] at e;cases e
 .rw[k] at e;cases e
 .unfold ab.dir at k1 k2
  simp only at k1 k2;apply hn;refine⟨?_,dZ.1 k2⟩;have:(l.a:Rat)=0:=by grind
  exact dZ.1 this
def Xt{d:aa}(h:d.half≠0):(bE d).half≠0:=by rw[s9 h];have:=gq h;omega
def As(d:aa):bE (bE d)=d:=by unfold bE;cases d;simp
def T0{l m:ab}(hl:l.ok)(hm:m.ok)(cl:qd l=false)(cm:qd m=false){p:aa}(h1:l.value p=0)(h2:m.value p=0)(hc:l.dir.cross m.dir=0):l=m:=by
 have key: ∀t,l.value (m.at t)=0:=fun t=>by
  obtain⟨s,rfl⟩:=Bc hm.ne h2;rw[ke] at h1⊢;have hk:m.cutK l=0:=by
   unfold ab.cutK;rw[<-qn];exact hc
  rw[hk] at h1⊢;grind
 rcases yg hl hm key with e|e
 .exact e
 .exfalso
  have hn:=hm.ne;unfold ab.Ne at hn;rw[e] at cl;unfold qd at cl cm;rw[decide_eq_false_iff_not] at cl cm;have cl: ¬(-m.a<0\/(-m.a=0/\ -m.b<0)):=cl;omega
def RJ{ds:List aa}(h:ds.Pairwise cd)(hd:uK ds){i:Nat}(hi:i<ds.length)(hj:(i+1)%ds.length<ds.length):ku ds ds[i] ds[(i+1)%ds.length]:=by
 have hp:=jU.1 h;have irr: ∀{u v:aa},cd u v-> ¬cd v u:=fun{u v} a b=>by
  unfold cd at a b;rw[eB u v] at b;rcases a with a|⟨a,a'⟩<;>rcases b with b|⟨b,b'⟩
  .omega
  .omega
  .omega
  .grind
 have ord: ∀{j k:Nat} (a:j<ds.length) (b:k<ds.length),cd ds[j] ds[k]->j<k:=fun{j k} a b q=>by
  rcases pR j k with e|e|e
  .exact e
  .subst e;exact absurd q (irr q)
  .exact absurd (hp k j b a e) (irr q)
 by_cases hl:i+1<ds.length
 .have e:(i+1)%ds.length=i+1:=dV hl
  simp only[e];refine .inl ⟨hp i (i+1) hi hl (by omega),fun d hd' ⟨q1,q2⟩=>?_⟩;obtain⟨j,hj',rfl⟩:=qT hd';have:=ord hi hj' q1;have:=ord hj' hl q2;omega
 .have e:(i+1)%ds.length=0:=by rw[show i+1=ds.length by omega];exact tV _
  simp only[e];refine .inr ⟨fun d hd' q=>?_,fun d hd' q=>?_⟩
  .obtain⟨j,hj',rfl⟩:=qT hd'
   have:=ord hi hj' q;omega
  .obtain⟨j,hj',rfl⟩:=qT hd'
   have:=ord hj' (by omega) q;omega
def Sn(v:aa):Nat:=Nat.gcd (v.x.num.natAbs*v.y.den) (v.y.num.natAbs*v.x.den)
def NX(n:Int)(d g:Nat):Int:=if n<0 then-((n.natAbs*d/g:Nat):Int) else((n.natAbs*d/g:Nat):Int)
def SZ(v:aa):aa:=if v.half=0 then⟨0,0⟩ else⟨(NX v.x.num v.y.den (Sn v):Int),(NX v.y.num v.x.den (Sn v):Int)⟩
def WM(ds:List aa)(i:Nat):List aa:=
 if co (ds.getD i ⟨0,0⟩) (ds.getD ((i+1)%ds.length) ⟨0,0⟩)=0/\2<ds.length then []
 else if Int.sign ((ds.getD i ⟨0,0⟩).cross (ds.getD ((i+1)%ds.length) ⟨0,0⟩)).num=0 then [jk (ds.getD i ⟨0,0⟩)]
 else [bP (SZ (ds.getD i ⟨0,0⟩)) (SZ (ds.getD ((i+1)%ds.length) ⟨0,0⟩)) 1]
def T2(ds:List aa):List aa:=if ds.length=0 then [⟨1,0⟩] else(List.range ds.length).flatMap (WM ds)
def SO(L:List ab)(p:aa):List aa:=T2 (VA (Zm L p))
def Ez{ds:List aa}{i:Nat}(h:i<ds.length):ds.getD i ⟨0,0⟩=ds[i]:=by
 rw[aX,aQ h,iK]
def aLJ(t:Tr)(p:aa):Bool:=(SO (xd t.lns) p).any fun v=>(gk t p v).1
def aLz(t:Tr)(p:aa):Bool:=(SO (xd t.lns) p).all fun v=>(gk t p v).1
end Go.Sx
end
