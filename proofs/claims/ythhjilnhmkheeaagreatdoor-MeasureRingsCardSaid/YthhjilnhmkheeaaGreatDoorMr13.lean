import Derived.Test.YthhjilnhmkheeaaGreatDoorMr12
set_option linter.all false
set_option maxHeartbeats 4000000
set_option maxRecDepth 100000
section
namespace Go.Sx
open Go Go.Proofs
abbrev ZP:=Int×Int
def ZP.q(p:ZP):aa:=iP p.1 p.2
def ZP.le(k:Nat)(p:ZP):Prop:=p.1.natAbs<=k/\p.2.natAbs<=k
def vk(p q:ZP):ZP:=(p.1+1*q.1,p.2+1*q.2)
def lf(u v:ZP):Int:=u.1*v.2-u.2*v.1
theorem NV{m n p q:Int}(hm:m.natAbs<=1000)(hn:n.natAbs<=1000)(hp:p.natAbs<=1000)(hq:q.natAbs<=1000)(h: ¬(p=m/\q=n)):LB (lC m n p q)/\(lC m n p q).ok:=by
 have e1:(qr n q).natAbs<=2000:=by unfold qr;omega
 have e2:(q7 m p).natAbs<=2000:=by unfold q7;omega
 have e3:=Em e1 hm;have e4:=Em e2 hn;have e5:(w9 m n p q).natAbs<=4000000:=by unfold w9;omega
 unfold lC;obtain⟨k1,k2,k3⟩:=aIo (qr n q) (q7 m p) (w9 m n p q);have hb:(2:Nat)^96=79228162514264337593543950336:=by decide
 refine⟨⟨⟨?_,?_,?_⟩⟩,WY ?_⟩
 .rw[hb];omega
 .rw[hb];omega
 .rw[hb];omega
 .unfold qr q7;omega
def cH(v w:ZP):aI:=⟨lC v.1 v.2 w.1 w.2,⟨fI (lC v.1 v.2 w.1 w.2) v.q,fI (lC v.1 v.2 w.1 w.2) w.q,false,false⟩⟩
def cj(r:List ZP)(i:Nat):ZP:=r.getD ((i+1)%r.length) (0,0)
def oa(r:List ZP):Nat->List aI
 |0=>[]
 |k+1=>oa r k++[cH (r.getD k (0,0)) (cj r k)]
def kh(r:List ZP):List aI:=oa r r.length
structure bD (r:List ZP):Prop where
 n3:3<=r.length
 n6:r.length<=6
 le: ∀p∈r,ZP.le 100 p
 ne: ∀i<r.length,r.getD i (0,0)≠cj r i
def qv{r:List ZP}{i:Nat}(h:i<r.length:=by omega):r.getD i (0,0)∈r:=by
 rw[aJ,aZ h];exact bN h
def xz{r:List ZP}{i:Nat}(h:i<r.length):cj r i∈r:=qv (dQ _ we)
theorem BQ.int1200{m:Int}(h:m.natAbs<=1000:=by decide):BQ (m:Rat) 1200:=by
 haveI:BI m 11:=jz h;exact BQ.mono (inferInstance:BQ (m:Rat) 12)
theorem Ho{l:ab}(hl:LB l)(ho:l.ok){m n:Int}(hm:m.natAbs<=1000)(hn:n.natAbs<=1000):BQ (fI l (iP m n)) 1200:=by
 haveI:=jz (k:=11) hm;haveI:=jz (k:=11) hn;have hd:=Ay ho.ne;have hA:BI (l.a*l.a+l.b*l.b) _:=inferInstance;have hB:BI (m*l.b-n*l.a) _:=inferInstance;have hA':=Dk (j:=1200) hA;have hB':=Dk (j:=1200) hB;have e1:l.dir.dot l.dir=((l.a*l.a+l.b*l.b:Int):Rat):=by
  rw[mY,cS,cS];simp only[ab.dir,aa.dot];grind
 have e2:(iP m n).dot l.dir=((m*l.b-n*l.a:Int):Rat):=by
  rw[kW,cS,cS];simp only[ab.dir,aa.dot,iP];grind
 have hd':((0:Int):Rat)<((l.a*l.a+l.b*l.b:Int):Rat):=by rw[<-e1];exact hd
 unfold fI;rw[e2,e1];clear hA hB e1 e2;generalize l.a*l.a+l.b*l.b=D at*;generalize m*l.b-n*l.a=M at*;have hD:0<D:=Rat.intCast_lt_intCast.1 hd';refine BQ.of_fracI (n:=M) (D:=D) we ?_ hB' hA';have h0:(D:Rat)≠0:=fun e=>by rw[e] at hd';exact absurd hd' oma
 have:((D.natAbs:Nat):Rat)=(D:Rat):=by
  have h1:((D.natAbs:Nat):Int)=D:=by omega
  rw[<-h1];rfl
 rw[this];grind
theorem ozg{p:Prop}(h:p:=by have:=hv.1;omega):p:=h
theorem ozh{p:Prop}(h:p:=by have:=hv.2;omega):p:=h
theorem ozi{p:Prop}(h:p:=by have:=hw.1;omega):p:=h
theorem ozj{p:Prop}(h:p:=by have:=hw.2;omega):p:=h
def uL{v w:ZP}(hv:ZP.le 100 v)(hw:ZP.le 100 w)(h:v≠w):mP (cH v w):=by
 obtain⟨h1,h2⟩:=NV (m:=v.1) (n:=v.2) (p:=w.1) (q:=w.2) ozg ozh ozi ozj (fun e=>h (Prod.ext e.1.symm e.2.symm));exact⟨h1,h2,⟨fun e=>(by cases e),fun e=>(by cases e)⟩,Ho h1 h2 ozg ozh,Ho h1 h2 ozi ozj⟩
def Je{r:List ZP}(h:bD r): ∀{k:Nat},k<=r.length->(oa r k).length=k/\ ∀f∈oa r k,mP f
 |0,_=>⟨J,fun f hf=>by cases hf⟩
 |k+1,hk=>by
  obtain⟨h1,h2⟩:=Je h (k:=k) we;rw[oa];refine⟨by simp[h1],fun f hf=>?_⟩;rcases bJ.1 hf with hf|hf
  .exact h2 f hf
  .rw[aV] at hf;subst hf
   exact uL (h.le _ (qv)) (h.le _ (xz we)) (h.ne k we)
def Dl{r:List ZP}(h:bD r):(kh r).length=r.length/\ ∀f∈kh r,mP f:=Je h (bV _)
def gm(rs:List (List ZP)):List aI:=rs.flatMap kh
def pi: ∀{rs:List (List ZP)},(∀r∈rs,bD r)->(gm rs).length<=6*rs.length/\ ∀f∈gm rs,mP f
 |[],_=>⟨bV _,fun f hf=>by cases hf⟩
 |r::rs,h=>by
  obtain⟨h1,h2⟩:=pi (rs:=rs) fun q hq=>h q (aX _ hq);obtain⟨k1,k2⟩:=Dl (h r aQ);have:=(h r aQ).n6;unfold gm at*;rw[kL];refine⟨by rw[aR,k1,bZ];omega,fun f hf=>?_⟩;rcases bJ.1 hf with hf|hf
  .exact k2 f hf
  .exact h2 f hf
def tr(a b c:aa):Int:=(aa.cross (av b a (-1)) (av c a (-1))).num.sign
def rG(v w p:aa):Int:=
 (if bt v.y p.y<=0/\ ¬bt w.y p.y<=0/\0<tr v w p then 1 else 0)-(if¬bt v.y p.y<=0/\bt w.y p.y<=0/\tr v w p<0 then 1 else 0)
def pA(r:List ZP)(p:aa):Nat->Int
 |0=>0
 |k+1=>pA r p k+rG (r.getD k (0,0)).q (cj r k).q p
def cx(r:List ZP)(p:aa):Int:=pA r p r.length
def p8(fill n:Int):Bool:=(decide (fill=1)&&decide (n.tmod 2≠0))||(decide (fill=2)&&decide (n≠0))
def iH(rs:List (List ZP))(fill:Int)(p:aa):Bool:=p8 fill (rs.foldl (fun n r=>n+cx r p) 0)
def lH(rs:List (List ZP))(fill:Int):Tr:=jA (iH rs fill) (gm rs).length (gm rs) []
def d7(rs:List (List ZP))(fill:Int):Tr:=(lH rs fill).restrict []
structure oC (k:Nat) (t:Tr):Prop where
 gd:t.gd
 dp:t.depth<=k
 am: ∃K:List ab,K.length<=k/\(∀l∈K,l.ok)/\sD K t
def GT{acc:aa->Bool}{n:Nat}{l:List aI}(h: ∀f∈l,mP f)(hn:l.length=n):oC n (jA acc n l []):=
 ⟨⟨w4 fun f hf=>(h f hf).lb,w4 fun f hf=>(h f hf).ok⟩,JY,l.map (·.l),by rw[aK,hn];exact bV _,fun m hm=>by
  obtain⟨f,hf,rfl⟩:=aS.1 hm;exact(h f hf).ok,w4 fun f hf=>⟨f.l,eX hf, .inl rfl⟩⟩
def oC.restrict{k:Nat}{t:Tr}(h:oC k t)(c:au):oC k (t.restrict c):=by
 obtain⟨K,h1,h2,h3⟩:=h.am;exact⟨YZ h.gd c,dJ (t.restrict_depth c) h.dp,K,h1,h2,h3.restrict c⟩
def oC.mono{j k:Nat}{t:Tr}(h:oC j t)(hk:j<=k):oC k t:=by
 obtain⟨K,h1,h2,h3⟩:=h.am;exact⟨h.gd,dJ h.dp hk,K,we,h2,h3⟩
def aAm{rs:List (List ZP)}{fill:Int}(h: ∀r∈rs,bD r)(hn:rs.length<=3):oC 18 (d7 rs fill):=by
 obtain⟨h1,h2⟩:=pi h;exact((GT (acc:=iH rs fill) h2 J).restrict []).mono we
def xI(p q:ZP):Int:=if p.1<q.1 then-1 else if q.1<p.1 then 1 else if p.2<q.2 then-1 else if q.2<p.2 then 1 else 0
def uE(x:ZP):List ZP->List ZP
 |[]=>[x]
 |u::t=>if xI u x<0 then u::uE x t else if xI u x=0 then u::t else x::u::t
def wm(l:List ZP):List ZP:=l.foldl (fun out x=>uE x out) []
def Mk{x:ZP}: ∀{l:List ZP},(uE x l).length<=l.length+1
 |[]=>bV _
 |u::t=>by
  rw[uE];have:=Mk (x:=x) (l:=t);split
  .simp;omega
  .split<;>simp
def awD(l:List ZP):(wm l).length<=l.length:=by
 have key: ∀(l o:List ZP),(l.foldl (fun out x=>uE x out) o).length<=l.length+o.length:=by
  intro l
  induction l with
  |nil=>intro o;simp
  |cons x t ih=>intro o;have:=ih (uE x o);have:=Mk (x:=x) (l:=o);simp only[jV,bZ];omega
 have:=key l [];simpa[wm] using this
def xJ(a b c d:Int):List ZP:=[(a,b),(c,b),(c,d),(a,d)]
def uh{r:List ZP}{i:Nat}(h:i+1<r.length:=by omega):cj r i=r.getD (i+1) (0,0):=by unfold cj;rw[dZ h]
def uH{r:List ZP}{i:Nat}(h:i+1=r.length:=by omega):cj r i=r.getD 0 (0,0):=by unfold cj;rw[h,lX]
def W4{a b c d:Int}(h1:a.natAbs<=50)(h2:b.natAbs<=50)(h3:c.natAbs<=50)(h4:d.natAbs<=50)(h5:a<c)(h6:b<d):bD (xJ a b c d):=by
 refine⟨by simp[xJ],by simp[xJ],fun p hp=>?_,fun i hi=>?_⟩
 .simp only[xJ,aW,jU,or_false] at hp
  rcases hp with rfl|rfl|rfl|rfl<;>exact⟨by dsimp only;omega,by dsimp only;omega⟩
 .have:i=0\/i=1\/i=2\/i=3:=by simp[xJ] at hi;omega
  rcases this with rfl|rfl|rfl|rfl<;>simp[xJ,cj]<;>omega
def jc(p u v:ZP):List ZP:=[p,vk p u,vk p v]
def Rg{p u v:ZP}(h1:ZP.le 40 p)(h2:ZP.le 40 u)(h3:ZP.le 40 v)(h:lf u v≠0):bD (jc p u v):=by
 obtain⟨p1,p2⟩:=p;obtain⟨u1,u2⟩:=u;obtain⟨v1,v2⟩:=v;unfold ZP.le at h1 h2 h3;dsimp only at h1 h2 h3;unfold lf at h;dsimp only at h;refine⟨by simp[jc],by simp[jc],fun p hp=>?_,fun i hi=>?_⟩
 .simp only[jc,vk,aW,jU,or_false] at hp
  rcases hp with rfl|rfl|rfl<;>exact⟨by dsimp only;omega,by dsimp only;omega⟩
 .have:i=0\/i=1\/i=2:=by simp[jc] at hi;omega
  have hu: ¬(u1=0/\u2=0):=fun e=>h (by rw[e.1,e.2];simp);have hv: ¬(v1=0/\v2=0):=fun e=>h (by rw[e.1,e.2];simp);have huv: ¬(u1=v1/\u2=v2):=fun e=>h (by rw[e.1,e.2,Int.mul_comm];omega);rcases this with rfl|rfl|rfl<;>simp[jc,vk,cj]<;>omega
def oo(es:List Int):Nat->Nat->List ZP->List ZP×Nat
 |0,a,out=>(out,a)
 |n+1,a,out=>oo es n (pF es a).2 (if out.getLast? =some (pF es a).1 then out else out++[(pF es a).1])
structure mf (r:List ZP):Prop where
 ne: ∀i,i+1<r.length->r.getD i (0,0)≠r.getD (i+1) (0,0)
 le: ∀p∈r,ZP.le 100 p
def mf.snoc{r:List ZP}{p:ZP}(h:mf r)(hp:ZP.le 100 p)(hl:r.getLast? ≠some p):mf (r++[p]):=by
 refine⟨fun i hi=>?_,fun q hq=>?_⟩
 .rw[aR,iS] at hi
  rw[aJ,aJ];by_cases h1:i+1<r.length
  .rw[dY we,dY h1]
   have:=h.ne i h1;rwa [aJ,aJ] at this
  .have e:i+1=r.length:=by omega
   rw[dY we,e,fL (bV _),tJ];rw[lM,<-e,lK] at hl;rw[aZ we] at hl⊢;intro c;exact hl (by simpa using c)
 .rcases bJ.1 hq with hq|hq
  .exact h.le q hq
  .rw[aV] at hq;subst hq;exact hp
def H7{es:List Int}: ∀{n a:Nat} {out:List ZP},a<=es.length->mf out->mf (oo es n a out).1/\(oo es n a out).1.length<=out.length+n/\(oo es n a out).2<=es.length
 |0,a,out,ha,h=>⟨h,bV _,ha⟩
 |n+1,a,out,ha,h=>by
  obtain⟨h1,h2,h3⟩:=zk ha;rw[oo];by_cases hl:out.getLast? =some (pF es a).1
  .rw[if_pos hl]
   obtain⟨k1,k2,k3⟩:=H7 (n:=n) h3 h;exact⟨k1,we,k3⟩
  .rw[if_neg hl]
   obtain⟨k1,k2,k3⟩:=H7 (n:=n) h3 (h.snoc (p:=(pF es a).1) ⟨we,we⟩ hl);rw[aR,iS] at k2;exact⟨k1,we,k3⟩
def lB:Nat->List ZP->List ZP
 |0,l=>l
 |n+1,l=>if 1<l.length/\l.getD 0 (0,0)=l.getD (l.length-1) (0,0) then lB n l.dropLast else l
def mf.drop{r:List ZP}(h:mf r):mf r.dropLast:=by
 refine⟨fun i hi=>?_,fun p hp=>h.le p ((sX _).subset hp)⟩;rw[iV] at hi;have:=h.ne i we;rw[aJ,aJ] at this⊢;rw[rR,rR,if_pos we,if_pos we];exact this
def TP: ∀{n:Nat} {l:List ZP},mf l->l.length<=n+1->mf (lB n l)/\(lB n l).length<=l.length/\(1<(lB n l).length->(lB n l).getD 0 (0,0)≠(lB n l).getD ((lB n l).length-1) (0,0))
 |0,l,h,hn=>⟨h,bV _,fun k=>absurd k (by unfold lB;omega)⟩
 |n+1,l,h,hn=>by
  rw[lB];split
  .obtain⟨h1,h2,h3⟩:=TP (n:=n) h.drop (by rw[iV];omega)
   rw[iV] at h2;exact⟨h1,we,h3⟩
  .rename_i hc
   exact⟨h,bV _,fun k e=>hc ⟨k,e⟩⟩
def ZK{r:List ZP}(h:mf r)(h6:r.length<=6)(hc:1<r.length->r.getD 0 (0,0)≠r.getD (r.length-1) (0,0))(h3:3<=(wm r).length):bD r:=by
 have:=awD r;refine⟨we,h6,h.le,fun i hi=>?_⟩;by_cases h1:i+1<r.length
 .rw[uh h1];exact h.ne i h1
 .have e:i+1=r.length:=by omega
  rw[uH e];have:=hc we;rw[show i=r.length-1 by omega];exact fun k=>this k.symm
def yT:List ZP:=[(0,0),(2,0),(0,2)]
def aFM:bD yT:=⟨oma,oma,fun p hp=>by
  simp only[yT,aW,jU,or_false] at hp;rcases hp with rfl|rfl|rfl<;>exact⟨oma,oma⟩,fun i hi=>by
  have:i=0\/i=1\/i=2:=by simp[yT] at hi;omega
  rcases this with rfl|rfl|rfl<;>decide⟩
def tC(es:List Int)(a:Nat):List ZP×Nat:=
 ((if(wm (lB 6 (oo es (3+(aj es 4 a).1) (aj es 4 a).2 []).1)).length<3 then yT else lB 6 (oo es (3+(aj es 4 a).1) (aj es 4 a).2 []).1),(oo es (3+(aj es 4 a).1) (aj es 4 a).2 []).2)
def mf.nil:mf []:=⟨fun i hi=>by simp at hi,fun p hp=>by cases hp⟩
def Qi{es:List Int}{a:Nat}(ha:a<=es.length):bD (tC es a).1/\(tC es a).2<=es.length:=by
 have h1:=il (es:=es) (n:=4) (a:=a);obtain⟨k1,k2,k3⟩:=H7 (n:=3+(aj es 4 a).1) (gO (n:=4) ha) mf.nil;obtain⟨t1,t2,t3⟩:=TP (n:=6) k1 (by simp at k2;omega);refine⟨?_,k3⟩;unfold tC;dsimp only;split
 .exact aFM
 .exact ZK t1 (by simp at k2;omega) t3 we
def DY(es:List Int)(n m k:Int)(a:Nat):List ZP×Nat:=
 let x:=aj es n a
 let y:=aj es n x.2
 let z:=aj es m y.2
 let w:=aj es m z.2
 (xJ ((x.1:Int)-k) ((y.1:Int)-k) ((x.1:Int)-k+1+z.1) ((y.1:Int)-k+1+w.1),w.2)
def Qy{es:List Int}{n m k:Int}{a:Nat}(ha:a<=es.length)(hn:1<=n:=by decide)(hn2:n<=10:=by decide)(hm:1<=m:=by decide)(hm2:m<=10:=by decide)(hk:0<=k:=by decide)(hk2:k<=10:=by decide):bD (DY es n m k a).1/\(DY es n m k a).2<=es.length:=by
 have h1:=il (es:=es) (a:=a) hn;have h2:=il (es:=es) (a:=(aj es n a).2) hn;have h3:=il (es:=es) (a:=(aj es n (aj es n a).2).2) hm;have h4:=il (es:=es) (a:=(aj es m (aj es n (aj es n a).2).2).2) hm;exact⟨W4 we we we we we we,gO (gO (gO (gO ha)))⟩
def lO(es:List Int)(a:Nat):List ZP×Nat:=
 let k:=aj es 4 a
 if(k.1:Int)=0 then DY es 5 4 4 k.2
 else if(k.1:Int)=1 then
  let p:=pF es k.2
  let u:=vF es p.2
  let v:=vF es u.2
  if lf u.1 v.1≠0 then(jc p.1 u.1 v.1,v.2) else tC es v.2
 else tC es k.2
def Up{es:List Int}{a:Nat}(ha:a<=es.length):bD (lO es a).1/\(lO es a).2<=es.length:=by
 have h0:=gO (n:=4) ha;unfold lO;dsimp only;split
 .exact Qy h0
 .split
  .obtain⟨p1,p2,p3⟩:=zk h0
   obtain⟨u1,u2,u3,u4⟩:=DW p3;obtain⟨v1,v2,v3,v4⟩:=DW u4;split
   .rename_i hc
    exact⟨Rg ⟨we,we⟩ ⟨we,we⟩ ⟨we,we⟩ hc,v4⟩
   .exact Qi v4
  .exact Qi h0
def CQ:List ZP:=[(0,0),(1,0),(0,1)]
def XK:bD CQ:=⟨oma,oma,fun p hp=>by
  simp only[CQ,aW,jU,or_false] at hp;rcases hp with rfl|rfl|rfl<;>exact⟨oma,oma⟩,fun i hi=>by
  have:i=0\/i=1\/i=2:=by simp[CQ] at hi;omega
  rcases this with rfl|rfl|rfl<;>decide⟩
def qb(es:List Int)(a:Nat):List ZP×Nat:=
 let k:=aj es 2 a
 if(k.1:Int)=0 then DY es 3 2 1 k.2
 else
  let x:=aj es 3 k.2
  let y:=aj es 3 x.2
  let u1:=aj es 2 y.2
  let u2:=aj es 3 u1.2
  let v1:=aj es 3 u2.2
  let v2:=aj es 2 v1.2
  (if 0<lf (1+(u1.1:Int),(u2.1:Int)-1) ((v1.1:Int)-1,1+(v2.1:Int)) then jc ((x.1:Int)-1,(y.1:Int)-1) (1+(u1.1:Int),(u2.1:Int)-1) ((v1.1:Int)-1,1+(v2.1:Int)) else CQ,v2.2)
def Z0{es:List Int}{a:Nat}(ha:a<=es.length):bD (qb es a).1/\(qb es a).2<=es.length:=by
 have h0:=gO (n:=2) ha;unfold qb;dsimp only;split
 .exact Qy h0
 .generalize hk:(aj es 2 a).2=k at*
  have e1:=il (es:=es) (n:=3) (a:=k);have f1:=gO (n:=3) h0;generalize hx:aj es 3 k=x at*;have e2:=il (es:=es) (n:=3) (a:=x.2);have f2:=gO (n:=3) f1;generalize hy:aj es 3 x.2=y at*;have e3:=il (es:=es) (n:=2) (a:=y.2);have f3:=gO (n:=2) f2;generalize hu:aj es 2 y.2=u1 at*;have e4:=il (es:=es) (n:=3) (a:=u1.2);have f4:=gO (n:=3) f3;generalize hu2:aj es 3 u1.2=u2 at*;have e5:=il (es:=es) (n:=3) (a:=u2.2);have f5:=gO (n:=3) f4;generalize hv:aj es 3 u2.2=v1 at*;have e6:=il (es:=es) (n:=2) (a:=v1.2);have f6:=gO (n:=2) f5;generalize hv2:aj es 2 v1.2=v2 at*;refine⟨?_,f6⟩;split
  .rename_i hc
   exact Rg ⟨by dsimp only;omega,by dsimp only;omega⟩ ⟨by dsimp only;omega,by dsimp only;omega⟩ ⟨by dsimp only;omega,by dsimp only;omega⟩ we
  .exact XK
end Go.Sx
end
section
namespace Go.Sx
open Go
inductive OT where
 |z (π:List (Nat×Bool))
 |q (i:Nat) (t:OT)
 |a (i:Nat) (t:OT)
 |c (i:Nat) (t r:OT)
def OT.sz:OT->Nat
 | .z _=>0
 | .q _ t=>t.sz+1
 | .a _ t=>t.sz+1
 | .c _ t r=>t.sz+r.sz+1
def OT.d:OT->Nat
 | .z π=>π.length
 | .q _ t=>t.d+1
 | .a _ t=>t.d+1
 | .c _ t r=>Nat.max (t.d+1) r.d
section
variable {P:Program} {ops:Array Oper} {Q:Exit->Act->World->Prop} {S:World->Prop} {π₂:List (Nat×Bool)}
end
section
variable {P:Program} {GB:Gh} {C:aH} {n:Nat} {fr fr':nI} {own own' own0 own1 own1':List lz} {bs bs0 bs1 bs1':List jF} {ops:Array Oper} {Q:Exit->Act->World->Prop} {fd:List FD} {π₂:List (Nat×Bool)} {t r:OT}
end
end Go.Sx
end
section
namespace Go.Sx
open Go Go.Proofs Tryz
variable {GB:Gh}
theorem xD{c:List ab}{l:ab}(hc: ∀m∈c,LB m)(hl:LB l): ∀m∈c++[l],LB m:=by
 rw[rY];exact⟨hc,by simpa using hl⟩
theorem LB.rev{l:ab}(h:LB l):LB l.rev:=⟨⟨by rw[show l.rev.a= -l.a from J,iJ];exact h.bl.a,by rw[show l.rev.b= -l.b from J,iJ];exact h.bl.b,by rw[show l.rev.c= -l.c from J,iJ];exact h.bl.c⟩⟩
def UQ{c:List ab}{l:ab}(hc: ∀m∈c,LB m)(hok: ∀m∈c,m.ok)(hn:c.length<=900)(hl:LB l)(hlo:l.ok):PF GB prog 142 [.sl (c.map eL),eL l] (vI (ui c l)):=by
 have hcl:=wY c;refine fn func142 J J ntmps142 J J (fun C=>?_);refine tg J J<|ap (c.map eL) J J (ir _) J<|rf J J<|mH ((c++[l]).map eL) J omO (ir [l]) J<|cl J (IJ (c:=c++[l]) (xD hc hl) (mI hok hlo) omo) J<|tg J J<|ap (c.map eL) J J (ir _) J<|cl J (wX (l:=l)) J<|rf J J<|mH ((c++[l.rev]).map eL) J omO (ir [l.rev]) J<|cl J (IJ (c:=c++[l.rev]) (xD hc hl.rev) (mI hok hlo.rev) omo) J<|j' 31 J J J (fun hg31=>?_) (fun hg31=>?_)
 .
  refine bb J J J (fun hc33=>?_) (fun hc33=>?_)
  .
   exact rz J (by show vI 0=vI _;congr 1;unfold ui;simp_all)
  .
   refine bb J J J (fun hc34=>?_) (fun hc34=>?_)
   .
    exact rz J (by show vI 1=vI _;congr 1;unfold ui;simp_all)
   .
    exact rz J (by simp[hg31] at hc34)
 .
  refine bb J J J (fun hc34=>?_) (fun hc34=>?_)
  .
   exact rz J (by simp[hg31] at hc34)
  .
   exact rz J (by show vI (-1)=vI _;congr 1;unfold ui;simp_all)
def Gp{α:Type}{p:α->Bool}: ∀{xs:List α} {n:Nat},n<=xs.length->(∀j (h:j<xs.length),j<n->p xs[j]=true)->(∀h:n<xs.length,p xs[n]=false)->(xs.takeWhile p).length=n
 |[],n,h,_,_=>by simp at h;subst h;rfl
 |x::xs,0,_,_,h3=>by
  have:=h3 omc;simp only[pW] at this;simp[oS,this]
 |x::xs,n+1,h1,h2,h3=>by
  have hx:=h2 0 omc we;simp only[pW] at hx;rw[oS,if_pos hx,bZ];rw[Gp (n:=n) (by simpa using h1) (fun j h hj=>by have:=h2 (j+1) omy we;simpa using this) (fun h=>by have:=h3 omy;simpa using this)]
def L'{xs:List ab}{l:ab}{n:Nat}(h1:n<=xs.length)(h2: ∀j (h:j<xs.length),j<n->cF xs[j].dir l.dir<0)(h3: ∀h:n<xs.length,¬cF xs[n].dir l.dir<0):pc xs l=n:=
 Gp h1 (fun j h hj=>decide_eq_true (h2 j h hj)) (fun h=>decide_eq_false (h3 h))
def Wm{xs:List ab}{l:ab}{n:Nat}(hn:pc xs l=n)(h:n<xs.length)(e:xs[n]=l):qB xs l=xs:=by
 unfold qB;rw[hn,if_pos (by rw[aZ h,e])]
def Rf{xs:List ab}{l:ab}{n:Nat}(hn:pc xs l=n)(h: ∀h:n<xs.length,xs[n]≠l):qB xs l=xs.take n++l::xs.drop n:=by
 unfold qB;rw[hn,if_neg];intro e;obtain⟨h1,h2⟩:=bQ.1 e;exact h h1 h2
def Qz(xs:List ab)(n:Nat):dH 6 ((xs.map eL).take n):=fun d hd=>ir xs d (dT hd)
def K1(xs:List ab)(n m:Nat):dH 6 (((xs.map eL).take n).drop m):=fun d hd=>ir xs d (dT (gS hd))
def Sg(xs:List ab)(n m:Nat)(l:ab):dH 6 ([eL l]++((xs.map eL).take n).drop m):=fun d hd=>by
 rcases bJ.1 hd with h|h
 .exact ir [l] d h
 .exact K1 xs n m d h
structure ni (c:List ab) (k:Nat) (xs:List ab):Prop where
 le:k<=c.length
 f:pg c (c.drop k) xs=im c
 m: ∀m∈xs,m∈c
 n:xs.length<=k
def ni.skip{c xs:List ab}{k:Nat}(h:ni c k xs)(hk:k<c.length)(e:(gk c[k] c ai.all).isSome=false):ni c (k+1) xs:=by
 have:=h.f;rw[bU hk,pg,e] at this;exact⟨hk,this,h.m,by have:=h.n;omega⟩
def ni.ins{c xs ys:List ab}{k:Nat}(h:ni c k xs)(hk:k<c.length)(e:(gk c[k] c ai.all).isSome=true)(hy:qB xs c[k]=ys)(hl:ys.length<=xs.length+1):ni c (k+1) ys:=by
 have:=h.f;rw[bU hk,pg,e,if_pos J,hy] at this;refine⟨hk,this,fun m hm=>?_,by have:=h.n;omega⟩;rw[<-hy] at hm;rcases Hl.1 hm with rfl|hm
 .exact bN hk
 .exact h.m m hm
def ni.done{c xs:List ab}{k:Nat}(h:ni c k xs)(hk:k=c.length):im c=xs:=by
 have:=h.f;rw[hk,fR,pg] at this;exact this.symm
def sC(c:List ab):Bool:=if(((c.map eL).length:Nat):Int)=0 then true else decide ((0:Int)<((((im c).map eL).length:Nat):Int))
def ni.nil(c:List ab):ni c 0 []:=⟨bS _,J,fun m hm=>absurd hm omc,bV _⟩
theorem omB{p:Prop}(h:p:=by rw[hys,bL,cJ,gR,jQ,cZ (l:=xs.map eL) (i:=xs.length) omc];rfl):p:=h
theorem omH{p:Prop}(h:p:=by rw[hxl];exact hnl):p:=h
theorem okx{p:Prop}(h:p:=by rw[hxl]):p:=h
def V'{c:List ab}(hc: ∀m∈c,LB m)(hok: ∀m∈c,m.ok)(hn:c.length<=1000):PF GB prog 202 [.sl (c.map eL)] (.tp [.sl ((im c).map eL),vB (sC c)]):=by
 have hcl:=wY c;refine fn (fu:=⟨16⟩) func202 J J ntmps202 J J (fun C=>?_);refine ah 11 (.d (vI (c.length:Nat))) J (by rw[hcl];rfl)<|gx J<|CZ 4 J<|lp (X:=List ab×Nat) (fun⟨xs,k⟩=>[(12, .d (vI (k:Nat))),(11, .d (vI (c.length:Nat))),(10, .d (.sl (c.map eL))),(0, .d (.sl (c.map eL))),(4, .d (.sl (xs.map eL)))]) (fun⟨xs,k⟩=>[]) (fun⟨xs,k⟩=>ni c k xs) (fun⟨xs,k⟩=>c.length-k) ⟨[],0⟩ J (ni.nil c) (fun _=>J) (fun⟨xs,k⟩ hk=>?_)
 try dsimp only at hk⊢
 have hS:=hk;refine br J J J (fun hc13=>?_) (fun hc13=>?_)
 .
  have hk:k<c.length:=by omega
  obtain⟨m,hm⟩: ∃m,m=c[k]:=⟨_,rfl⟩;haveI hmb:LB m:=hm▸hc _ (bN hk);have hmo:m.ok:=hm▸hok _ (bN hk);have hxl:=wY xs;have hxn:=hS.n;refine ix (fu:=⟨1⟩) _ J (xO hk) J<|ah 16 (.d (eL m)) J okX<|gx J<|cl J (No hc hok hn hk) J<|bb (fu2:=⟨8⟩) J J J (fun hc24=>?_) (fun hc24=>?_)
  .
   have hinv:ni c (k+1) xs:=hS.skip hk (by rw[<-xR];simpa using hc24);exact at_ ⟨xs,k+1⟩ omw
  .
   have hyes:(gk c[k] c ai.all).isSome=true:=by rw[<-xR];simpa using hc24
   refine mg (fu:=⟨6⟩) (X:=Unit) (fun _=>[(12, .d (vI (k:Nat))),(11, .d (vI (c.length:Nat))),(10, .d (.sl (c.map eL))),(0, .d (.sl (c.map eL))),(4, .d (.sl (xs.map eL))),(6, .ov 6 0),(9, .d (vI (pc xs m:Nat)))]) (fun _=>[(6,some (.o 83 [.d ((.v (.bool (decide (m.a<0))))), .d (dN m.a.natAbs), .d ((.v (.bool (decide (m.b<0))))), .d (dN m.b.natAbs), .d ((.v (.bool (decide (m.c<0))))), .d (dN m.c.natAbs)] true))]) (fun _=>True) [12,11,10,0,4,6,9] [6] rfl ?_ (fun _=>J) (fun _ _=>?_)
   .
    refine gx J<|lp (fu:=⟨6⟩) (X:=Nat) (fun n=>[(12, .d (vI (k:Nat))),(11, .d (vI (c.length:Nat))),(10, .d (.sl (c.map eL))),(0, .d (.sl (c.map eL))),(4, .d (.sl (xs.map eL))),(6, .ov 6 0),(9, .d (vI (n:Nat)))]) (fun n=>[(6,some (.o 83 [.d ((.v (.bool (decide (m.a<0))))), .d (dN m.a.natAbs), .d ((.v (.bool (decide (m.b<0))))), .d (dN m.b.natAbs), .d ((.v (.bool (decide (m.c<0))))), .d (dN m.c.natAbs)] true))]) (fun n=>n<=xs.length/\ ∀j (h:j<xs.length),j<n->cF xs[j].dir m.dir<0) (fun n=>xs.length-n) 0 J ⟨bS _,fun j _ hj=>absurd hj we⟩ (fun _=>J) (fun n hk=>?_);obtain⟨n1,n2⟩:=hk;refine ji J J J J (fun hg28=>?_) (fun hg28=>?_)
    .
     refine ix _ J (xO) J<|?_;haveI:LB (xs[n]' we):=hc _ (hS.m _ (bN _));refine cl J (vQ (l:=xs[n]' we)) J<|cl J (vQ (l:=m)) J<|cl J (aDo (u:=(xs[n]' we).dir) (v:=m.dir)) J<|br J J J (fun hc39=>?_) (fun hc39=>?_)
     .
      exact at_ (n+1) ⟨⟨we,fun j h hj=>by by_cases q:j=n;(subst q;exact hc39);exact n2 j h we⟩,we⟩
     .
      have hidx:pc xs m=n:=L' n1 n2 (fun h=>hc39);exact at_ () trivial
    .
     have hidx:pc xs m=n:=L' n1 n2 (fun h=>absurd h we);exact at_ () trivial
   .
    obtain⟨n,hnx⟩: ∃n,pc xs m=n:=⟨_,rfl⟩;rw[hnx];have hnl:n<=xs.length:=by rw[<-hnx];unfold pc;exact(List.takeWhile_sublist _).length_le
    have hcb: ∀m∈xs,LB m:=fun m hm=>hc m (hS.m m hm);refine ji J J J J (fun hg45=>?_) (fun hg45=>?_)
    .
     refine ix _ J (xO) J<|cl J (w5 (l:=xs[n]' we) (m:=m) (hl:=hcb _ (bN we))) J<|br J J J (fun hc54=>?_) (fun hc54=>?_)
     .
      have hn46:n<xs.length:=by omega
      have hinv:ni c (k+1) xs:=hS.ins hk hyes (by rw[<-hm];exact Wm hnx hn46 ((vD _ m).1 hc54)) we;exact at_ ⟨xs,k+1⟩ omw
     .
      have hnew: ∀h:n<xs.length,xs[n]≠m:=fun h e=>hc54 ((vD _ m).2 e);obtain⟨ys,hys⟩: ∃ys,ys=xs.take n++m::xs.drop n:=⟨_,rfl⟩;have hinv:ni c (k+1) ys:=hS.ins hk hyes (by rw[<-hm,Rf hnx hnew,hys]) (by rw[hys];simp;omega);refine s3 n _ J J J J (ir _) omH J<|ro J J<|mc n xs.length _ J J okx J (ir _) hnl we J<|ap _ J J (K1 _ _ _) J<|mH (hv:=by simp only[ae];exact⟨omd,we⟩) (ho:=fun _=>⟨Qz _ _,omc⟩) (ys.map eL) J omB (Sg _ _ _ _) J<|at_ ⟨ys,k+1⟩ omw
    .
     have hnew: ∀h:n<xs.length,xs[n]≠m:=fun h=>absurd h we;obtain⟨ys,hys⟩: ∃ys,ys=xs.take n++m::xs.drop n:=⟨_,rfl⟩;have hinv:ni c (k+1) ys:=hS.ins hk hyes (by rw[<-hm,Rf hnx hnew,hys]) (by rw[hys];simp;omega);refine s3 n _ J J J J (ir _) omH J<|ro J J<|mc n xs.length _ J J okx J (ir _) hnl we J<|ap _ J J (K1 _ _ _) J<|mH (hv:=by simp only[ae];exact⟨omd,we⟩) (ho:=fun _=>⟨Qz _ _,omc⟩) (ys.map eL) J omB (Sg _ _ _ _) J<|at_ ⟨ys,k+1⟩ omw
 .
  have hfin:im c=xs:=hS.done (by have:=hS.le;omega);refine cs 71 J J J (fun hg71=>?_) (fun hg71=>?_)
  .
   exact rz J (by rw[sC,if_pos hg71,hfin];rfl)
  .
   exact rz J (by rw[sC,if_neg hg71,hfin];rfl)
section
variable {α:Type} (c:α->α->Int)
def dO(x:α):List α->List α
 |[]=>[x]
 |u::t=>if c u x<0 then u::dO x t else if c u x=0 then u::t else x::u::t
def kD(x:α)(xs:List α):Nat:=(xs.takeWhile fun u=>decide (c u x<0)).length
def CA(x:α)(xs:List α):kD c x xs<=xs.length:=(List.takeWhile_sublist _).length_le
def vw{x:α}{xs:List α}{n:Nat}(h1:n<=xs.length)(h2: ∀j (h:j<xs.length),j<n->c xs[j] x<0)(h3: ∀h:n<xs.length,¬c xs[n] x<0):kD c x xs=n:=
 Gp h1 (fun j h hj=>decide_eq_true (h2 j h hj)) (fun h=>decide_eq_false (h3 h))
theorem ozr{p:Prop}(h:p:=by simpa using hu):p:=h
def A4{x:α}: ∀{xs:List α} {n:Nat},kD c x xs=n->(h:n<xs.length)->c xs[n] x=0->dO c x xs=xs
 |[],n,_,h,_=>by simp at h
 |u::t,n,hn,h,e=>by
  rw[dO];unfold kD at hn;rw[oS] at hn;by_cases hu:c u x<0
  .rw[if_pos hu]
   rw[if_pos ozr] at hn;obtain⟨k,rfl⟩: ∃k,n=k+1:=⟨n-1,by simp at hn;omega⟩;rw[A4 (xs:=t) (n:=k) (by unfold kD;simpa using hn) omy (by simpa using e)]
  .rw[if_neg ozr] at hn
   simp at hn;subst hn;rw[if_neg hu,if_pos (by simpa using e)]
def uP{x:α}: ∀{xs:List α} {n:Nat},kD c x xs=n->(∀h:n<xs.length,c xs[n] x≠0)->dO c x xs=xs.take n++x::xs.drop n
 |[],n,hn,_=>by simp[kD] at hn;subst hn;rfl
 |u::t,n,hn,e=>by
  rw[dO];unfold kD at hn;rw[oS] at hn;by_cases hu:c u x<0
  .rw[if_pos hu]
   rw[if_pos ozr] at hn;obtain⟨k,rfl⟩: ∃k,n=k+1:=⟨n-1,by simp at hn;omega⟩;rw[uP (xs:=t) (n:=k) (by unfold kD;simpa using hn) (fun h=>by have:=e omy;simpa using this)];simp
  .rw[if_neg ozr] at hn
   simp at hn;subst hn;have:=e omc;rw[if_neg hu,if_neg (by simpa using this)];rfl
def EZ(x:α): ∀(xs:List α),(dO c x xs).length<=xs.length+1
 |[]=>bV _
 |u::t=>by
  have:=EZ x t;rw[dO];split
  .simp;omega
  .split<;>simp
def HR{x y:α}: ∀{xs:List α},y∈dO c x xs->y=x\/y∈xs
 |[],h=>by rw[dO,aV] at h;exact .inl h
 |u::t,h=>by
  rw[dO] at h;split at h
  .rcases aW.1 h with rfl|h
   .exact .inr aQ
   .rcases HR h with h|h
    .exact .inl h
    .exact .inr (aX _ h)
  .split at h
   .exact .inr h
   .rcases aW.1 h with rfl|h
    .exact .inl J
    .exact .inr h
def ul(l:List α):List α:=l.foldl (fun out x=>dO c x out) []
def Qr: ∀(l o:List α),(l.foldl (fun out x=>dO c x out) o).length<=l.length+o.length
 |[],o=>by simp
 |x::t,o=>by
  have:=Qr t (dO c x o);have:=EZ c x o;simp only[jV,bZ];omega
def BU{y:α}: ∀{l o:List α},y∈l.foldl (fun out x=>dO c x out) o->y∈l\/y∈o
 |[],o,h=> .inr h
 |x::t,o,h=>by
  rcases BU (l:=t) h with h|h
  .exact .inl (aX _ h)
  .rcases HR c h with rfl|h
   .exact .inl aQ
   .exact .inr h
end
def Av{x:Rat}: ∀{l:List Rat},oI x l=dO bt x l
 |[]=>rfl
 |u::t=>by
  have e1:bt u x<0↔u<x:=zy u x;have e2:bt u x=0↔u=x:=ou u x;rw[oI,dO,Av (l:=t)];by_cases h:u<x
  .rw[if_pos h,if_pos (e1.2 h)]
  .rw[if_neg h,if_neg (fun e=>h (e1.1 e))]
   by_cases h2:u=x
   .rw[if_pos h2,if_pos (e2.2 h2)]
   .rw[if_neg h2,if_neg (fun e=>h2 (e2.1 e))]
def vv{α β:Type}{f:α->β}{l:List α}{k:Nat}{x:α}(h:l[k]? =some x):(l.take k).map f++[f x]=(l.take (k+1)).map f:=by
 rw[iT,h,bL];rfl
def Pi{a i:Nat}[ha:BN a i](hi:i<=400000000:=by decide):PF GB prog 84 [dN a] (dN a):=by
 have hl:=cd (dg a);have hb:=n9 ha.h;refine fn func84 J J ntmps84 J J (fun C=>?_);refine tg J J<|ap ((dg a).map dU) J J (sr _) J<|jd 5 J<|rz J J
def DK{z:Int}{i:Nat}[hz:BI z i](hi:i<=400000000:=by decide):PF GB prog 83 [eI z] (eI z):=by
 refine fn func83 J J ntmps83 J J (fun C=>?_);refine cl J (Pi (a:=z.natAbs) (i:=i) (ha:=⟨hz.h⟩) hi) J<|rz J J
def aKe{l:ab}(hl:BL l 96):PF GB prog 87 [eL l] (eL l):=by
 haveI h1:BI l.a 96:=⟨hl.a⟩;haveI h2:BI l.b 96:=⟨hl.b⟩;haveI h3:BI l.c 96:=⟨hl.c⟩;refine fn func87 J J ntmps87 J J (fun C=>?_);refine cl J (DK (z:=l.a)) J<|cl J (DK (z:=l.b)) J<|cl J (DK (z:=l.c)) J<|rz J J
def Lf{ds:List Nat}(hd:bB ds)(hn:ds.length<=1000000):PF GB prog 78 [fm ds] (dN (dv ds)):=by
 have hm:=cd ds;refine fn func78 J J ntmps78 J J (fun C=>?_);refine tg J J<|ap (ds.map dU) J J (sr _) J<|fz 5 J J<|cl J (tq (ds:=ds)) J<|rz J (by unfold dN;rw[Eq hd];rfl)
def V7{neg:Bool}{ds:List Nat}(hd:bB ds)(hn:ds.length<=1000000):PF GB prog 80 [.ag [.v (.bool neg),fm ds]] (eI (yz neg ds)):=by
 refine fn func80 J J ntmps80 J J (fun C=>?_);refine cl J (Lf hd hn) J<|cl J lw J<|rz J J
def UM{n i:Nat}[h:BN n i](hi:i<=20000000:=by decide):PF GB prog 78 [dN n] (dN n):=by
 have hl:=n9 h.h;have:=Lf (GB:=GB) (ds:=dg n) (ij n) we;rw[dG,<-LO] at this;exact this
def aA0(z:Int):yz (decide (z<0)) (dg z.natAbs)=z:=by
 unfold yz;rw[dG];split<;>(rename_i h;simp at h;omega)
def VE{z:Int}{i:Nat}[h:BI z i](hi:i<=20000000:=by decide):PF GB prog 80 [eI z] (eI z):=by
 have hl:=n9 h.h;have:=V7 (GB:=GB) (neg:=decide (z<0)) (ds:=dg z.natAbs) (ij _) we;rw[aA0,<-LO] at this;exact this
def VT{n:Nat}(h:0<n): ¬((((dg n).map dU).length:Nat):Int)=0:=by
 rw[aK];have:=wR (n:=n);omega
instance BQ.m1':BQ (((-1:Int):Int):Rat) 2:=⟨oma,oma⟩
instance BQ.m1:BQ (-1:Rat) 2:=⟨oma,oma⟩
def JO{q:Rat}{i:Nat}[h:BQ q i](hi:i<=20000000:=by decide):PF GB prog 36 [eR q] (eQ q):=by
 have hd:=q.den_pos;refine fn func36 J J ntmps36 J J (fun C=>?_);refine cl (fu:=⟨8⟩) J (UM (n:=q.den) hi) J<|ew J (omh (VT hd)) J<|cl J (VE (z:=q.num) hi) J<|cl J (xT (x:=q.num) (d:=q.den) hd we we) J<|rz J (by rw[tV];rfl)
def CB{q:Rat}{i:Nat}[h:BQ q i](hi:i<=400000000:=by decide):PF GB prog 38 [eQ q] (eR q):=by
 refine fn func38 J J ntmps38 J J (fun C=>?_);refine cl J (DK (z:=q.num) hi) J<|cl J (lu (q:=q)) J<|cl J (Pi (a:=q.den) hi) J<|rz J J
def Z5{p:aa}{i:Nat}[h:aE p i](hi:i<=20000000:=by decide):PF GB prog 94 [o5 p] (eP p):=by
 refine fn func94 J J ntmps94 J J (fun C=>?_);refine cl J (JO (q:=p.x) hi) J<|cl J (JO (q:=p.y) hi) J<|rz J J
def aLi{p:aa}{i:Nat}[h:aE p i](hi:i<=20000:=by decide):PF GB prog 72 [eP p] (o5 p):=by
 refine fn func72 J J ntmps72 J J (fun C=>?_);refine cl J (CB (q:=p.x) (i:=i) we) J<|cl J (CB (q:=p.y) (i:=i) we) J<|rz J J
def ik{α:Type}(f:α->DV)(l:List α):(l.map f).length=l.length:=aK ..
def r9(ps:List aa):dH 6 (ps.map eP):=fun d hd=>by
 obtain⟨u,_,rfl⟩:=aS.1 hd;exact⟨rfl,rfl⟩
def aI4(ps:List aa):dH 6 (ps.map o5):=fun d hd=>by
 obtain⟨u,_,rfl⟩:=aS.1 hd;exact⟨rfl,rfl⟩
def aKA{ps:List aa}(hb: ∀p∈ps,aE p 1200)(hn:ps.length<=1000000):PF GB prog 43 [.sl (ps.map o5)] (.sl (ps.map eP)):=by
 have hm:=ik o5 ps;refine fn (fu:=⟨15⟩) func43 J J ntmps43 J J (fun C=>?_);refine ah 7 (.d (vI (ps.length:Nat))) J omu<|gx J<|nr 3 3 72 6 J J J<|lp (X:=Nat) (fun k=>[(8, .d (vI (k:Nat))),(3, .rw 3)]) (fun k=>[(3,some (.b 72 6 ((ps.take k).map eP) true))]) (fun k=>k<=ps.length) (fun k=>ps.length-k) 0 J (bS _) (fun _=>J) (fun k hk=>?_);have hml:=ik eP (ps.take k);rw[cR] at hml;refine br J J J (fun hc9=>?_) (fun hc9=>?_)
 .
  obtain⟨z,hz⟩: ∃s,ps[k]? =some s:=⟨_,aZ we⟩;have hzm:=aT hz;refine ix _ J (dP hz) J<|cl J (Z5 (p:=z) (h:=hb z hzm)) J<|rf J J<|ap ((ps.take (k+1)).map eP) J (vv hz) (r9 [z]) J<|iE 16 3 J<|at_ (k+1) ⟨we,we⟩
 .
  obtain rfl:k=ps.length:=by omega
  refine jd 3 J<|rz J (by rw[dV];rfl)
def Sv{ps:List aa}(hb: ∀p∈ps,aE p 1200)(hn:ps.length<=1000000):PF GB prog 33 [.sl (ps.map eP)] (.sl (ps.map o5)):=by
 have hm:=ik eP ps;refine fn (fu:=⟨15⟩) func33 J J ntmps33 J J (fun C=>?_);refine ah 7 (.d (vI (ps.length:Nat))) J omu<|gx J<|nr 3 3 63 6 J J J<|lp (X:=Nat) (fun k=>[(8, .d (vI (k:Nat))),(3, .rw 3)]) (fun k=>[(3,some (.b 63 6 ((ps.take k).map o5) true))]) (fun k=>k<=ps.length) (fun k=>ps.length-k) 0 J (bS _) (fun _=>J) (fun k hk=>?_);have hml:=ik o5 (ps.take k);rw[cR] at hml;refine br J J J (fun hc9=>?_) (fun hc9=>?_)
 .
  obtain⟨z,hz⟩: ∃s,ps[k]? =some s:=⟨_,aZ we⟩;have hzm:=aT hz;refine ix _ J (dP hz) J<|cl J (aLi (p:=z) (h:=hb z hzm)) J<|rf J J<|ap ((ps.take (k+1)).map o5) J (vv hz) (aI4 [z]) J<|iE 16 3 J<|at_ (k+1) ⟨we,we⟩
 .
  obtain rfl:k=ps.length:=by omega
  refine jd 3 J<|rz J (by rw[dV];rfl)
def Tj{p q:aa}{i j:Nat}[hp:aE p i][hq:aE q j](hi:i<=100000:=by decide)(hj:j<=100000:=by decide):PF GB prog 112 [eP p,eP q] (eP (av p q (-1))):=by
 refine fn func112 J J ntmps112 J J (fun C=>?_);refine cl J (lh (n:= -1)) J<|cl J (Cu (p:=p) (q:=q) (c:=((-1:Int):Rat)) (i:=i) (j:=j) (k:=2) we we) J<|rz J (by rw[show((-1:Int):Rat)= -1 from J];rfl)
def IH{a b c:aa}{i j k:Nat}[ha:aE a i][hb:aE b j][hc:aE c k](hi:i<=80000:=by decide)(hj:j<=80000:=by decide)(hk:k<=80000:=by decide):PF GB prog 59 [eP a,eP b,eP c] (vI (tr a b c)):=by
 refine fn func59 J J ntmps59 J J (fun C=>?_);refine cl J (Tj (p:=b) (q:=a) (i:=j) (j:=i) we we) J<|cl J (Tj (p:=c) (q:=a) (i:=k) (j:=i) we we) J<|cl J (Ak (p:=av b a (-1)) (q:=av c a (-1)) we we) J<|cl J (qA (q:=(av b a (-1)).cross (av c a (-1)))) J<|rz J J
def ii(p q:aa):Int:=if bt p.x q.x≠0 then bt p.x q.x else bt p.y q.y
def Nk{p q:aa}{i j:Nat}[hp:aE p i][hq:aE q j](hi:i<=100000:=by decide)(hj:j<=100000:=by decide):PF GB prog 64 [eP p,eP q] (vI (ii p q)):=by
 refine fn func64 J J ntmps64 J J (fun C=>?_);refine cl J (lg (a:=p.x) (b:=q.x) we we) J<|br J J J (fun hc12=>?_) (fun hc12=>?_)
 .
  exact rz J (by unfold ii;rw[if_pos hc12];rfl)
 .
  refine cl J (lg (a:=p.y) (b:=q.y) we we) J<|rz J (by unfold ii;rw[if_neg hc12];rfl)
def re(l:ab):Bool:=decide (l.a<0\/(l.a=0/\l.b<0))
def ab.canon(l:ab):ab:=if re l then l.rev else l
def vg(a:Int):a.sign<0↔a<0:=by
 rcases kS a 0 with h|h|h
 .rw[fZ h];omega
 .subst h;simp
 .rw[fJ h];omega
def pp(a:Int):a.sign=0↔a=0:=jR
def TH{l:ab}(h:l.a<0\/(l.a=0/\l.b<0)):DV.tp [eL l.canon,vB (re l)]= .tp [eL l.rev,vB true]:=by
 unfold ab.canon re;rw[decide_eq_true h];rfl
def SW{l:ab}(h: ¬(l.a<0\/(l.a=0/\l.b<0))):DV.tp [eL l.canon,vB (re l)]= .tp [eL l,vB false]:=by
 unfold ab.canon re;rw[decide_eq_false h];rfl
def ay4{l:ab}[hl:LB l]:PF GB prog 95 [eL l] (.tp [eL l.canon,vB (re l)]):=by
 refine fn func95 J J ntmps95 J J (fun C=>?_);refine cl J (CJ (z:=l.a)) J<|cs 10 J J J (fun hg10=>?_) (fun hg10=>?_)
 .
  refine cl J (wX (l:=l)) J<|rz J (by rw[TH (.inl ((vg _).1 hg10))];rfl)
 .
  refine cs 13 J J J (fun hg13=>?_) (fun hg13=>?_)
  .
   refine cl J (CJ (z:=l.b)) J<|br J J J (fun hc19=>?_) (fun hc19=>?_)
   .
    refine cl J (wX (l:=l)) J<|rz J (by rw[TH (.inr ⟨(pp _).1 hg13,(vg _).1 hc19⟩)];rfl)
   .
    exact rz J (by rw[SW (fun e=>e.elim (fun e=>hg10 ((vg _).2 e)) (fun e=>hc19 ((vg _).2 e.2)))];rfl)
  .
   exact rz J (by rw[SW (fun e=>e.elim (fun e=>hg10 ((vg _).2 e)) (fun e=>hg13 ((pp _).2 e.1)))];rfl)
instance LB.canon (l:ab) [h:LB l]:LB l.canon:=by unfold ab.canon;split;exact LB.rev h;exact h
def aAE{l:ab}(h:l.ok):l.canon.ok:=by unfold ab.canon;split;exact h.rev;exact h
def sv{α β:Type}(c:β->β->Int)(g:α->β)(l:List α)(k:Nat):List β:=ul c ((l.take k).map g)
section
variable {α β:Type} {c:β->β->Int} {g:α->β} {l:List α} {k:Nat}
def yp{x:α}(h:l[k]? =some x):sv c g l (k+1)=dO c (g x) (sv c g l k):=by
 unfold sv ul;rw[iT,h,Option.toList_some,bL,rS];rfl
def PY(h:k=l.length:=by omega):sv c g l k=ul c (l.map g):=by unfold sv;rw[h,dV]
def Tp:(sv c g l k).length<=k:=by
 have:=Qr c ((l.take k).map g) [];have h2:((l.take k).map g).length<=k:=by rw[aK,cR];omega
 rw[gQ] at this;unfold sv ul;omega
def LD{y:β}(h:y∈sv c g l k): ∃x∈l,y=g x:=by
 rcases BU c h with h|h
 .obtain⟨x,hx,rfl⟩:=aS.1 h
  exact⟨x,dT hx,J⟩
 .cases h
end
def vf{α:Type}{f:α->DV}{s:Nat}(ok: ∀l:List α,dH s (l.map f))(xs:List α)(n:Nat):dH s ((xs.map f).take n):=fun d hd=>ok xs d (dT hd)
def ua{α:Type}{f:α->DV}{s:Nat}(ok: ∀l:List α,dH s (l.map f))(xs:List α)(n m:Nat):dH s (((xs.map f).take n).drop m):=fun d hd=>ok xs d (dT (gS hd))
def vM{α:Type}{f:α->DV}{s:Nat}(ok: ∀l:List α,dH s (l.map f))(xs:List α)(n m:Nat)(x:α):dH s ([f x]++((xs.map f).take n).drop m):=fun d hd=>by
 rcases bJ.1 hd with h|h
 .exact ok [x] d h
 .exact ua ok xs n m d h
def tN{α:Type}{f:α->DV}{l:List α}{i:Nat}(h:i<l.length:=by omega):(l.map f)[(i:Int).toNat]? =some (f l[i]):=by
 rw[dR,cV,aZ h];rfl
theorem omS{p:Prop}(h:p:=by dsimp only;exact⟨⟨by rw[yp hz,<-hS];exact hin.symm,we⟩,we⟩):p:=h
theorem omV{p:Prop}(h:p:=by rw[hfin];rfl):p:=h
theorem okQ{p:Prop}(h:p:=by rw[hys,bL,cJ,gR,jQ,cZ (l:=xs.map eP) (i:=xs.length) omc];rfl):p:=h
def Xz{ps:List aa}(hb: ∀p∈ps,aE p 1200)(hn:ps.length<=100000):PF GB prog 29 [.sl (ps.map eP)] (.sl ((ul ii ps).map eP)):=by
 have hm':=ik eP ps;refine fn (fu:=⟨15⟩) func29 J J ntmps29 J J (fun C=>?_);refine ah 8 (.d (vI (ps.length:Nat))) J (by rw[hm'];rfl)<|gx J<|CZ 3 J<|lp (X:=List aa×Nat) (fun⟨xs,k⟩=>[(9, .d (vI (k:Nat))),(8, .d (vI (ps.length:Nat))),(7, .d (.sl (ps.map eP))),(0, .d (.sl (ps.map eP))),(3, .d (.sl (xs.map eP)))]) (fun⟨xs,k⟩=>[]) (fun⟨xs,k⟩=>xs=sv ii id ps k/\k<=ps.length) (fun⟨xs,k⟩=>ps.length-k) ⟨[],0⟩ J ⟨J,bS _⟩ (fun _=>J) (fun⟨xs,k⟩ hk=>?_)
 try dsimp only at hk⊢
 obtain⟨hS,hkl⟩:=hk;refine br J J J (fun hc10=>?_) (fun hc10=>?_)
 .
  have hk:k<ps.length:=by omega
  obtain⟨m,hm⟩: ∃m,m=ps[k]:=⟨_,rfl⟩;have hz:ps[k]? =some m:=by rw[hm];exact aZ hk
  haveI hmb:aE m 1200:=hm▸hb _ (bN hk);have hxl:=ik eP xs;have hxn:xs.length<=k:=by rw[hS];exact Tp
  have hxb: ∀q∈xs,aE q 1200:=fun q hq=>by rw[hS] at hq;obtain⟨z,hz,he⟩:=LD hq;rw[he];exact hb z hz
  refine ix (fu:=⟨1⟩) _ J (tN hk) J<|ah 12 (.d (eP m)) J okX<|gx (fu:=⟨10⟩) J<|mg (fu:=⟨5⟩) (X:=Unit) (fun _=>[(9, .d (vI (k:Nat))),(8, .d (vI (ps.length:Nat))),(7, .d (.sl (ps.map eP))),(0, .d (.sl (ps.map eP))),(3, .d (.sl (xs.map eP))),(5, .ov 5 0),(6, .d (vI (kD ii m xs:Nat)))]) (fun _=>[(5,some (.o 72 [.d ((.v (.bool (decide (m.x.num<0))))), .d (dN m.x.num.natAbs), .d (dD m.x.den), .d ((.v (.bool (decide (m.y.num<0))))), .d (dN m.y.num.natAbs), .d (dD m.y.den)] true))]) (fun _=>True) [9,8,7,0,3,5,6] [5] rfl ?_ (fun _=>J) (fun _ _=>?_)
  .
   refine gx J<|lp (fu:=⟨6⟩) (X:=Nat) (fun n=>[(9, .d (vI (k:Nat))),(8, .d (vI (ps.length:Nat))),(7, .d (.sl (ps.map eP))),(0, .d (.sl (ps.map eP))),(3, .d (.sl (xs.map eP))),(5, .ov 5 0),(6, .d (vI (n:Nat)))]) (fun n=>[(5,some (.o 72 [.d ((.v (.bool (decide (m.x.num<0))))), .d (dN m.x.num.natAbs), .d (dD m.x.den), .d ((.v (.bool (decide (m.y.num<0))))), .d (dN m.y.num.natAbs), .d (dD m.y.den)] true))]) (fun n=>n<=xs.length/\ ∀j (h:j<xs.length),j<n->ii xs[j] m<0) (fun n=>xs.length-n) 0 J ⟨bS _,fun j _ hj=>absurd hj we⟩ (fun _=>J) (fun n hk=>?_);obtain⟨n1,n2⟩:=hk;refine ji (v2:=fun hg16=>by simp only[ae];kernel_rfl) J J J J (fun hg16=>?_) (fun hg16=>?_)
   .
    refine ix _ J (tN) J<|cl J (Nk (p:=xs[n]' we) (q:=m) (hp:=hxb _ (bN we)) (hq:=hmb)) J<|br J J J (fun hc25=>?_) (fun hc25=>?_)
    .
     exact at_ (n+1) ⟨⟨we,fun j h hj=>by by_cases q:j=n;(subst q;exact hc25);exact n2 j h we⟩,we⟩
    .
     have hidx:kD ii m xs=n:=vw ii n1 n2 (fun h=>hc25);exact at_ () trivial
   .
    have hidx:kD ii m xs=n:=vw ii n1 n2 (fun h=>absurd h we);exact at_ () trivial
  .
   obtain⟨n,hnx⟩: ∃n,kD ii m xs=n:=⟨_,rfl⟩;rw[hnx];have hnl:n<=xs.length:=by rw[<-hnx];exact CA _ _ _
   refine ji (v1:=fun hg31=>by simp only[ae];kernel_rfl) J J J J (fun hg31=>?_) (fun hg31=>?_)
   .
    have hnew: ∀h:n<xs.length,ii xs[n] m≠0:=fun h=>absurd h we;obtain⟨ys,hys⟩: ∃ys,ys=xs.take n++m::xs.drop n:=⟨_,rfl⟩;have hin:dO ii m xs=ys:=by rw[hys];exact uP ii hnx hnew
    have hyl:ys.length<=xs.length+1:=by rw[hys];simp;omega
    refine s3 n _ J J J J (r9 _) omH J<|ro J J<|mc n xs.length _ J J okx J (r9 _) hnl we J<|ap _ J J (ua r9 _ _ _) J<|mH (hv:=by simp only[ae];exact⟨omd,we⟩) (ho:=fun _=>⟨vf r9 _ _,omc⟩) (ys.map eP) J okQ (vM r9 _ _ _ _) J<|at_ ⟨ys,k+1⟩ omS
   .
    refine ix _ J (tN) J<|cl J (Nk (p:=xs[n]' we) (q:=m) (hp:=hxb _ (bN we)) (hq:=hmb)) J<|br J J J (fun hc40=>?_) (fun hc40=>?_)
    .
     have hnew: ∀h:n<xs.length,ii xs[n] m≠0:=fun h=>hc40;obtain⟨ys,hys⟩: ∃ys,ys=xs.take n++m::xs.drop n:=⟨_,rfl⟩;have hin:dO ii m xs=ys:=by rw[hys];exact uP ii hnx hnew
     have hyl:ys.length<=xs.length+1:=by rw[hys];simp;omega
     refine s3 n _ J J J J (r9 _) omH J<|ro J J<|mc n xs.length _ J J okx J (r9 _) hnl we J<|ap _ J J (ua r9 _ _ _) J<|mH (hv:=by simp only[ae];exact⟨omd,we⟩) (ho:=fun _=>⟨vf r9 _ _,omc⟩) (ys.map eP) J okQ (vM r9 _ _ _ _) J<|at_ ⟨ys,k+1⟩ omS
    .
     have hin:dO ii m xs=xs:=A4 ii hnx we (Decidable.not_not.1 hc40);exact at_ ⟨xs,k+1⟩ omS
 .
  have hfin:ul ii ps=xs:=by rw[hS,PY,List.map_id]
  exact rz J omV
def vr(ls:List ab):List ab:=ul gq (ls.map ab.canon)
def M'{ls:List ab}{y:ab}(h:y∈vr ls): ∃x∈ls,y=x.canon:=by
 rcases BU gq h with h|h
 .obtain⟨x,hx,rfl⟩:=aS.1 h;exact⟨x,hx,rfl⟩
 .cases h
theorem omN{p:Prop}(h:p:=by dsimp only;exact⟨⟨by rw[yp hz,<-hS,<-hmc];exact hin.symm,we⟩,we⟩):p:=h
def atX{ls:List ab}(hb: ∀p∈ls,LB p)(hn:ls.length<=100000):PF GB prog 44 [.sl (ls.map eL)] (.sl ((vr ls).map eL)):=by
 have hm':=ik eL ls;refine fn (fu:=⟨15⟩) func44 J J ntmps44 J J (fun C=>?_);refine ah 8 (.d (vI (ls.length:Nat))) J (by rw[hm'];rfl)<|gx J<|CZ 3 J<|lp (X:=List ab×Nat) (fun⟨xs,k⟩=>[(9, .d (vI (k:Nat))),(8, .d (vI (ls.length:Nat))),(7, .d (.sl (ls.map eL))),(0, .d (.sl (ls.map eL))),(3, .d (.sl (xs.map eL)))]) (fun⟨xs,k⟩=>[]) (fun⟨xs,k⟩=>xs=sv gq ab.canon ls k/\k<=ls.length) (fun⟨xs,k⟩=>ls.length-k) ⟨[],0⟩ J ⟨J,bS _⟩ (fun _=>J) (fun⟨xs,k⟩ hk=>?_)
 try dsimp only at hk⊢
 obtain⟨hS,hkl⟩:=hk;refine br J J J (fun hc10=>?_) (fun hc10=>?_)
 .
  have hk:k<ls.length:=by omega
  obtain⟨z,hm⟩: ∃m,m=ls[k]:=⟨_,rfl⟩;have hz:ls[k]? =some z:=by rw[hm];exact aZ hk
  haveI hzb:LB z:=hm▸hb _ (bN hk);obtain⟨m,hmc⟩: ∃m,m=z.canon:=⟨_,rfl⟩;haveI hmb:LB m:=by rw[hmc];infer_instance
  have hxl:=ik eL xs;have hxn:xs.length<=k:=by rw[hS];exact Tp
  have hxb: ∀q∈xs,LB q:=fun q hq=>by rw[hS] at hq;obtain⟨z,hz,rfl⟩:=LD hq;haveI:=hb z hz;infer_instance
  refine ix (fu:=⟨1⟩) _ J (tN hk) J<|ah 12 (.d (eL z)) J okX<|gx J<|cl (fu:=⟨2⟩) J (ay4 (l:=z)) J<|ah 16 (.d (eL m)) J (by rw[hmc])<|gx (fu:=⟨10⟩) J<|mg (fu:=⟨5⟩) (X:=Unit) (fun _=>[(9, .d (vI (k:Nat))),(8, .d (vI (ls.length:Nat))),(7, .d (.sl (ls.map eL))),(0, .d (.sl (ls.map eL))),(3, .d (.sl (xs.map eL))),(5, .ov 5 0),(6, .d (vI (kD gq m xs:Nat)))]) (fun _=>[(5,some (.o 83 [.d ((.v (.bool (decide (m.a<0))))), .d (dN m.a.natAbs), .d ((.v (.bool (decide (m.b<0))))), .d (dN m.b.natAbs), .d ((.v (.bool (decide (m.c<0))))), .d (dN m.c.natAbs)] true))]) (fun _=>True) [9,8,7,0,3,5,6] [5] rfl ?_ (fun _=>J) (fun _ _=>?_)
  .
   refine gx J<|lp (fu:=⟨6⟩) (X:=Nat) (fun n=>[(9, .d (vI (k:Nat))),(8, .d (vI (ls.length:Nat))),(7, .d (.sl (ls.map eL))),(0, .d (.sl (ls.map eL))),(3, .d (.sl (xs.map eL))),(5, .ov 5 0),(6, .d (vI (n:Nat)))]) (fun n=>[(5,some (.o 83 [.d ((.v (.bool (decide (m.a<0))))), .d (dN m.a.natAbs), .d ((.v (.bool (decide (m.b<0))))), .d (dN m.b.natAbs), .d ((.v (.bool (decide (m.c<0))))), .d (dN m.c.natAbs)] true))]) (fun n=>n<=xs.length/\ ∀j (h:j<xs.length),j<n->gq xs[j] m<0) (fun n=>xs.length-n) 0 J ⟨bS _,fun j _ hj=>absurd hj we⟩ (fun _=>J) (fun n hk=>?_);obtain⟨n1,n2⟩:=hk;refine ji (v2:=fun hg21=>by simp only[ae];kernel_rfl) J J J J (fun hg21=>?_) (fun hg21=>?_)
   .
    refine ix _ J (tN) J<|cl J (w5 (l:=xs[n]' we) (m:=m) (hl:=hxb _ (bN we)) (hm:=hmb)) J<|br J J J (fun hc30=>?_) (fun hc30=>?_)
    .
     exact at_ (n+1) ⟨⟨we,fun j h hj=>by by_cases q:j=n;(subst q;exact hc30);exact n2 j h we⟩,we⟩
    .
     have hidx:kD gq m xs=n:=vw gq n1 n2 (fun h=>hc30);exact at_ () trivial
   .
    have hidx:kD gq m xs=n:=vw gq n1 n2 (fun h=>absurd h we);exact at_ () trivial
  .
   obtain⟨n,hnx⟩: ∃n,kD gq m xs=n:=⟨_,rfl⟩;rw[hnx];have hnl:n<=xs.length:=by rw[<-hnx];exact CA _ _ _
   refine ji (v1:=fun hg36=>by simp only[ae];kernel_rfl) J J J J (fun hg36=>?_) (fun hg36=>?_)
   .
    have hnew: ∀h:n<xs.length,gq xs[n] m≠0:=fun h=>absurd h we;obtain⟨ys,hys⟩: ∃ys,ys=xs.take n++m::xs.drop n:=⟨_,rfl⟩;have hin:dO gq m xs=ys:=by rw[hys];exact uP gq hnx hnew
    have hyl:ys.length<=xs.length+1:=by rw[hys];simp;omega
    refine s3 n _ J J J J (ir _) omH J<|ro J J<|mc n xs.length _ J J okx J (ir _) hnl we J<|ap _ J J (ua ir _ _ _) J<|mH (hv:=by simp only[ae];exact⟨omd,we⟩) (ho:=fun _=>⟨vf ir _ _,omc⟩) (ys.map eL) J omB (vM ir _ _ _ _) J<|at_ ⟨ys,k+1⟩ omN
   .
    refine ix _ J (tN) J<|cl J (w5 (l:=xs[n]' we) (m:=m) (hl:=hxb _ (bN we)) (hm:=hmb)) J<|br J J J (fun hc45=>?_) (fun hc45=>?_)
    .
     have hnew: ∀h:n<xs.length,gq xs[n] m≠0:=fun h=>hc45;obtain⟨ys,hys⟩: ∃ys,ys=xs.take n++m::xs.drop n:=⟨_,rfl⟩;have hin:dO gq m xs=ys:=by rw[hys];exact uP gq hnx hnew
     have hyl:ys.length<=xs.length+1:=by rw[hys];simp;omega
     refine s3 n _ J J J J (ir _) omH J<|ro J J<|mc n xs.length _ J J okx J (ir _) hnl we J<|ap _ J J (ua ir _ _ _) J<|mH (hv:=by simp only[ae];exact⟨omd,we⟩) (ho:=fun _=>⟨vf ir _ _,omc⟩) (ys.map eL) J omB (vM ir _ _ _ _) J<|at_ ⟨ys,k+1⟩ omN
    .
     have hin:dO gq m xs=xs:=A4 gq hnx we (Decidable.not_not.1 hc45);exact at_ ⟨xs,k+1⟩ omN
 .
  have hfin:vr ls=xs:=by rw[hS,PY];rfl
  exact rz J omV
def ym(vs:List ai):dH 8 (vs.map eV):=fun d hd=>by
 obtain⟨u,_,rfl⟩:=aS.1 hd;exact⟨rfl,rfl⟩
def jt(qs:List Rat):dH 3 (qs.map eQ):=fun d hd=>by
 obtain⟨u,_,rfl⟩:=aS.1 hd;exact⟨rfl,rfl⟩
def RW(bs:List Bool):dH 1 (bs.map vB):=fun d hd=>by
 obtain⟨u,_,rfl⟩:=aS.1 hd;exact⟨rfl,rfl⟩
def X6{l:List ai}{k:Nat}{v:ai}{t:Rat}{a b:Int}(h:l[k]? =some v)(ha:a=if v.nl then 1 else bt t v.lo)(hb:b=if v.nh then-1 else bt t v.hi):
  p9 (l.drop k) t=if 0<a/\b<0 then 2 else if(a=0/\b<=0)\/(b=0/\0<=a) then 1 else p9 (l.drop (k+1)) t:=by
 obtain⟨hk,rfl⟩:=bQ.1 h;rw[bU hk,p9,ha,hb]
structure nn (v:ai):Prop where
 lo:BQ v.lo 1200
 hi:BQ v.hi 1200
theorem oml{p:Prop}(h:p:=by first|(rw[<-h2,fR];rfl)|(rw[<-h2,hst,if_pos we];rfl)|(rw[<-h2,hst,if_neg we,if_pos we];rfl)):p:=h
def NX{l:List ai}{t:Rat}{i:Nat}[ht:BQ t i](hb: ∀v∈l,nn v)(hn:l.length<=100000)(hi:i<=20000:=by decide):PF GB prog 125 [.sl (l.map eV),eQ t] (vI (p9 l t)):=by
 have hm:=ik eV l;refine fn (fu:=⟨11⟩) func125 J J ntmps125 J J (fun C=>?_);refine ah 10 (.d (vI (l.length:Nat))) J omu<|gx J<|lp (X:=Nat) (fun k=>[(11, .d (vI (k:Nat)))]) (fun k=>[]) (fun k=>k<=l.length/\p9 (l.drop k) t=p9 l t) (fun k=>l.length-k) 0 J ⟨bS _,J⟩ (fun _=>J) (fun k hk=>?_);obtain⟨h1,h2⟩:=hk;refine br J J J (fun hc12=>?_) (fun hc12=>?_)
 .
  obtain⟨v,hz⟩: ∃s,l[k]? =some s:=⟨_,aZ we⟩;have hv:=hb v (aT hz);haveI:=hv.lo;haveI:=hv.hi;refine ix (fu:=⟨12⟩) _ J (dP hz) J<|mg (fu:=⟨1⟩) (X:=Int) (fun a=>[(7, .d (vI a))]) (fun a=>[]) (fun a=>a=if v.nl then 1 else bt t v.lo) [7] [] rfl ?_ (fun _=>J) (fun a ha=>?_)
  .
   refine gx J<|bb J J J (fun hc17=>?_) (fun hc17=>?_)
   .
    refine cl J (lg (a:=t) (b:=v.lo) (i:=i) we) J<|at_ (bt t v.lo) (by rw[if_neg (by simpa using hc17)])
   .
    exact at_ 1 (by rw[if_pos (by simpa using hc17)])
  .
   refine mg (X:=Int) (fun b=>[(8, .d (vI b))]) (fun b=>[]) (fun b=>b=if v.nh then-1 else bt t v.hi) [8] [] rfl ?_ (fun _=>J) (fun b hb'=>?_)
   .
    refine gx J<|bb J J J (fun hc24=>?_) (fun hc24=>?_)
    .
     refine cl J (lg (a:=t) (b:=v.hi) (i:=i) we) J<|at_ (bt t v.hi) (by rw[if_neg (by simpa using hc24)])
    .
     exact at_ (-1) (by rw[if_pos (by simpa using hc24)])
   .
    have hst:=X6 hz ha hb';refine cs 31 J J J (fun hg31=>?_) (fun hg31=>?_)
    .
     refine br J J J (fun hc34=>?_) (fun hc34=>?_)
     .
      exact rz J oml
     .
      refine cs 37 J J J (fun hg37=>?_) (fun hg37=>?_)
      .
       refine cs 41 J J J (fun hg41=>?_) (fun hg41=>?_)
       .
        exact rz J oml
       .
        refine cs 44 J J J (fun hg44=>?_) (fun hg44=>?_)
        .
         refine br J J J (fun hc48=>?_) (fun hc48=>?_)
         .
          exact rz J oml
         .
          exact at_ (k+1) ⟨⟨we,by rw[<-h2,hst,if_neg we,if_neg we]⟩,we⟩
        .
         exact at_ (k+1) ⟨⟨we,by rw[<-h2,hst,if_neg we,if_neg we]⟩,we⟩
      .
       refine cs 44 J J J (fun hg44=>?_) (fun hg44=>?_)
       .
        refine br J J J (fun hc48=>?_) (fun hc48=>?_)
        .
         exact rz J oml
        .
         exact at_ (k+1) ⟨⟨we,by rw[<-h2,hst,if_neg we,if_neg we]⟩,we⟩
       .
        exact at_ (k+1) ⟨⟨we,by rw[<-h2,hst,if_neg we,if_neg we]⟩,we⟩
    .
     refine cs 37 J J J (fun hg37=>?_) (fun hg37=>?_)
     .
      refine cs 41 J J J (fun hg41=>?_) (fun hg41=>?_)
      .
       exact rz J oml
      .
       refine cs 44 J J J (fun hg44=>?_) (fun hg44=>?_)
       .
        refine br J J J (fun hc48=>?_) (fun hc48=>?_)
        .
         exact rz J oml
        .
         exact at_ (k+1) ⟨⟨we,by rw[<-h2,hst,if_neg we,if_neg we]⟩,we⟩
       .
        exact at_ (k+1) ⟨⟨we,by rw[<-h2,hst,if_neg we,if_neg we]⟩,we⟩
     .
      refine cs 44 J J J (fun hg44=>?_) (fun hg44=>?_)
      .
       refine br J J J (fun hc48=>?_) (fun hc48=>?_)
       .
        exact rz J oml
       .
        exact at_ (k+1) ⟨⟨we,by rw[<-h2,hst,if_neg we,if_neg we]⟩,we⟩
      .
       exact at_ (k+1) ⟨⟨we,by rw[<-h2,hst,if_neg we,if_neg we]⟩,we⟩
 .
  obtain rfl:k=l.length:=by omega
  exact rz J oml
def OJ{l:List ai}{t:Rat}{i:Nat}[ht:BQ t i](hb: ∀v∈l,nn v)(hn:l.length<=100000)(hi:i<=20000:=by decide):PF GB prog 120 [.sl (l.map eV),eQ t] (vB (gy l t)):=by
 refine fn func120 J J ntmps120 J J (fun C=>?_);refine cl J (NX (l:=l) (t:=t) hb hn hi) J<|rz J J
def M9: ∀{l:List Rat} {i:Nat} {a b:Rat},l[i]? =some a->l[i+1]? =some b->jn (l.take (i+2))=jn (l.take (i+1))++[(a+b)/2]
 |[],i,a,b,h,_=>by simp at h
 |[_],i,a,b,h,k=>by simp at k
 |c::d::t,0,a,b,h,k=>by
  simp at h k;subst h;subst k;simp[jn]
 |c::d::t,i+1,a,b,h,k=>by
  have:=M9 (l:=d::t) (i:=i) omy (by simpa using k);rw[show(c::d::t).take (i+1+2)=c::d::t.take (i+1) by simp,show(c::d::t).take (i+1+1)=c::d::t.take i by simp,jn,jn,jW];congr 1
def K3: ∀l:List Rat,(jn l).length<=l.length
 |[]=>bV _
 |[_]=>bS _
 |a::b::t=>by rw[jn,bZ,bZ];exact Nat.succ_le_succ (K3 (b::t))
def XM{a:Rat}{t:List Rat}{z:Rat}(h:(a::t)[t.length]? =some z):gt (a::t)=(a-1)::(jn (a::t)++[z+1]):=by
 rw[gt];have:(a::t).getLast omc=z:=by
  rw[List.getLast_eq_getElem];have:=bQ.1 h;obtain⟨h1,h2⟩:=this;rw[<-h2];congr 1
 rw[this]
def aAJ{cuts:List Rat}(hb: ∀q∈cuts,BQ q 1200)(hn:cuts.length<=100000):PF GB prog 119 [.sl (cuts.map eQ)] (.sl ((gt cuts).map eQ)):=by
 have hm:=ik eQ cuts;refine fn (fu:=⟨10⟩) func119 J J ntmps119 J J (fun C=>?_);refine ah 6 (.d (vI (cuts.length:Nat))) J omu<|gx J<|br J J J (fun hc7=>?_) (fun hc7=>?_)
 .
  obtain rfl:cuts=[]:=cW we;refine rf J J<|rz J (by rw[gt];show DV.sl [_]=DV.sl [_];rw[LW])
 .
  obtain⟨a,ct,rfl⟩: ∃a t,cuts=a::t:=by cases cuts with|nil=>exact absurd rfl hc7|cons a t=>exact⟨a,t,rfl⟩
  haveI hab:=hb a aQ;have hcl:ct.length+1<=100000:=hn;refine ix _ J J J<|cl J (lh (n:=1)) J<|cl (fu:=⟨0⟩) J (ut (a:=a) (b:=((1:Int):Rat))) J<|ah 14 (.d (eQ (a-1))) J J<|gx J<|ro J J<|lp (fu:=⟨6⟩) (X:=Nat) (fun i=>[(4, .d (vI ((i+1:Nat):Int))),(3, .rw 15)]) (fun i=>[(15,some (.b 57 3 (((a-1)::jn ((a::ct).take (i+1))).map eQ) true))]) (fun i=>i<=ct.length) (fun i=>ct.length-i) 0 J (bS _) (fun _=>J) (fun i hk=>?_);have hm2:=ik eQ (a::ct);have hml:=K3 (a::ct.take i);rw[bZ,cR] at hml;have hml2:=K3 (a::ct);rw[bZ] at hml2;refine ah 18 (.d (vI ((ct.length+1:Nat):Int))) J (by rw[hm2]<;>rfl)<|gx J<|br (fu2:=⟨11⟩) J J J (fun hc19=>?_) (fun hc19=>?_)
  .
   obtain⟨u,hu⟩: ∃s,(a::ct)[i]? =some s:=⟨_,aZ omo⟩;obtain⟨w,hw⟩: ∃s,(a::ct)[i+1]? =some s:=⟨_,aZ omo⟩;haveI:=hb u (aT hu);haveI:=hb w (aT hw);refine ix _ J (by rw[show((((i+1:Nat):Int))-1).toNat=i by omega,cV,hu];rfl) J<|ix _ J (by rw[dR,cV,hw];rfl) J<|?_;refine cl J (GS (a:=u) (b:=w)) J<|rf J J<|ap (hv:=by simp only[ae];exact⟨omd,we⟩) (((a-1)::jn ((a::ct).take (i+1+1))).map eQ) J (by rw[M9 hu hw,<-jW,bL];rfl) (jt [(u+w)/2]) J<|iE 34 15 J<|at_ (i+1) ⟨we,we⟩
  .
   obtain rfl:i=ct.length:=by omega
   obtain⟨z,hz⟩: ∃s,(a::ct)[ct.length]? =some s:=⟨_,aZ omc⟩;haveI:=hb z (aT hz);rw[show(a::ct).take (ct.length+1)=a::ct from dV (l:=a::ct)];refine ah 38 (.d (vI ((ct.length+1:Nat):Int))) J (by rw[hm2]<;>rfl)<|gx J<|ix _ J (by rw[show((((ct.length+1:Nat):Int))-1).toNat=ct.length by omega,cV,hz];rfl) J<|cl J (lh (n:=1)) J<|?_;refine cl J (qf (a:=z) (b:=((1:Int):Rat))) J<|rf J J<|ap ((gt (a::ct)).map eQ) J (by rw[XM hz,<-jW,bL];rfl) (jt [z+1]) J<|jd 45 J<|rz J J
def Nm(o:List Rat)(s:ai):(ml o s).length<=o.length+2:=by
 unfold ml;have h:=fun(x:Rat) (l:List Rat)=>Av (x:=x) (l:=l)▸EZ bt x l;have h1:=h s.lo o;have h2:=h s.hi o;have h3:=h s.hi (oI s.lo o);split<;>split<;>omega
def rm(l:List ai)(k:Nat):List Rat:=iI (l.take k)
def Tg{l:List ai}{k:Nat}{v:ai}(h:l[k]? =some v):rm l (k+1)=ml (rm l k) v:=by
 unfold rm iI;rw[iT,h,rS];rfl
def Dc(l:List ai): ∀k,(rm l k).length<=2*k
 |0=>bV _
 |k+1=>by
  cases h:l[k]? with
  |none=>
   have:=Dc l k;unfold rm at*;rw[iT,h];simp;omega
  |some v=>rw[Tg h];have:=Dc l k;have:=Nm (rm l k) v;omega
theorem NC{l:List ai}(hb: ∀v∈l,nn v){k:Nat}: ∀y∈rm l k,BQ y 1200:=fun y hy=>by
 obtain⟨s,hs,h⟩:=(Jr _).2 y hy;have:=hb s (dT hs);rcases h with⟨_,rfl⟩|⟨_,rfl⟩
 .exact this.lo
 .exact this.hi
def s9(o:List Rat)(v:ai)(j:Nat):List Rat:=if j=0 then o else if j=1 then(if v.nl then o else oI v.lo o) else ml o v
def Al(v:ai)(j:Nat):Rat:=if j=0 then v.lo else v.hi
def rp(v:ai)(j:Nat):Bool:=if j=0 then v.nl else v.nh
def vz{o:List Rat}{v:ai}{j:Nat}(hj:j<2:=by decide):s9 o v (j+1)=if rp v j then s9 o v j else dO bt (Al v j) (s9 o v j):=by
 have:j=0\/j=1:=by omega
 rcases this with rfl|rfl
 .simp[s9,rp,Al,Av]
 .simp[s9,rp,Al,ml,Av]
def Xy{o:List Rat}{v:ai}{j:Nat}(hj:j<=2):(s9 o v j).length<=o.length+2:=by
 unfold s9;have:=Nm o v;have h:=Av (x:=v.lo) (l:=o)▸EZ bt v.lo o;split
 .omega
 .split
  .split<;>omega
  .exact this
theorem aD4{o:List Rat}(ho: ∀q∈o,BQ q 1200){v:ai}(hv:nn v){j:Nat}(hj:j<=2): ∀q∈s9 o v j,BQ q 1200:=fun q hq=>by
 unfold s9 ml at hq;have lo:=hv.lo;have hi:=hv.hi;split at hq
 .exact ho q hq
 .split at hq
  .split at hq
   .exact ho q hq
   .rcases rP.1 hq with rfl|hq
    .exact lo
    .exact ho q hq
  .split at hq
   .split at hq
    .exact ho q hq
    .rcases rP.1 hq with rfl|hq
     .exact lo
     .exact ho q hq
   .rcases rP.1 hq with rfl|hq
    .exact hi
    .split at hq
     .exact ho q hq
     .rcases rP.1 hq with rfl|hq
      .exact lo
      .exact ho q hq
theorem omC{p:Prop}(h:p:=by rw[hys,bL,cJ,gR,jQ,cZ (l:=xs.map eQ) (i:=xs.length) omc];rfl):p:=h
theorem omF{p:Prop}(h:p:=by dsimp only;exact⟨⟨by rw[vz,if_neg (by simpa[rp] using hg32),<-g1,<-hm2,hin],we⟩,we⟩):p:=h
theorem omG{p:Prop}(h:p:=by dsimp only;exact⟨⟨by rw[vz,if_neg (by simpa[rp] using hc39),<-g1,<-hm2,hin],we⟩,we⟩):p:=h
def Vv{l:List ai}(hb: ∀v∈l,nn v)(hn:l.length<=10000):PF GB prog 118 [.sl (l.map eV)] (.sl ((iI l).map eQ)):=by
 have hm:=ik eV l;refine fn (fu:=⟨15⟩) func118 J J ntmps118 J J (fun C=>?_);refine ah 10 (.d (vI (l.length:Nat))) J omu<|gx J<|CZ 3 J<|lp (X:=List Rat×Nat) (fun⟨o,k⟩=>[(11, .d (vI (k:Nat))),(3, .d (.sl (o.map eQ)))]) (fun⟨o,k⟩=>[]) (fun⟨o,k⟩=>o=rm l k/\k<=l.length) (fun⟨o,k⟩=>l.length-k) ([],0) J ⟨J,bS _⟩ (fun _=>J) (fun⟨o,k⟩ hk=>?_);dsimp only at hk⊢;obtain⟨h1,h2⟩:=hk;refine br J J J (fun hc12=>?_) (fun hc12=>?_)
 .
  obtain⟨v,hz⟩: ∃s,l[k]? =some s:=⟨_,aZ we⟩;have hv:=hb v (aT hz);haveI:=hv.lo;haveI:=hv.hi;have hob:=NC hb (k:=k);have hol:=Dc l k;rw[<-h1] at hob hol;refine ix _ J (dP hz) J<|rf J J<|lp (X:=List Rat×Nat) (fun⟨xs,j⟩=>[(21, .d (vI (j:Nat))),(3, .d (.sl (xs.map eQ)))]) (fun⟨xs,j⟩=>[]) (fun⟨xs,j⟩=>xs=s9 o v j/\j<=2) (fun⟨xs,j⟩=>2-j) (o,0) J ⟨J,we⟩ (fun _=>J) (fun⟨xs,j⟩ hk=>?_);dsimp only at hk⊢;obtain⟨g1,g2⟩:=hk;refine br J J J (fun hc22=>?_) (fun hc22=>?_)
  .
   have hj2:j<2:=by have:=hc22;simp only[bZ,gQ] at this;omega
   obtain⟨m,hm2⟩: ∃m,m=Al v j:=⟨_,rfl⟩;haveI hmb:BQ m 1200:=by rw[hm2];unfold Al;split;exact hv.lo;exact hv.hi
   have hxl:=ik eQ xs;have hxn:xs.length<=2*k+2:=by rw[g1];have:=Xy (o:=o) (v:=v) (j:=j) g2;omega
   have hxb: ∀q∈xs,BQ q 1200:=by rw[g1];exact aD4 hob hv g2
   refine ix (fu:=⟨10⟩) _ rfl (by rw[dR];exact(show([v.lo,v.hi].map eQ)[j]? =some (eQ m) by rw[hm2];have:j=0\/j=1:=we;rcases this with rfl|rfl<;>rfl)) rfl<|?_;rcases(show j=0\/j=1 by omega) with rfl|rfl
   .
    refine d9 J J J<|j' (fu2:=⟨1⟩) 32 J J J (fun hg32=>?_) (fun hg32=>?_)
    .
     exact at_ (xs,0+1) (by dsimp only;exact⟨⟨by rw[vz,if_pos (by simpa[rp] using hg32),<-g1],we⟩,we⟩)
    .
     refine ew (fu:=⟨16⟩) J J J<|mg (fu:=⟨5⟩) (X:=Nat) (fun n=>[(8, .d (vI (n:Nat)))]) (fun n=>[]) (fun n=>kD bt m xs=n) [8] [] rfl ?_ (fun _=>J) (fun n hnx=>?_)
     .
      refine gx J<|lp (fu:=⟨6⟩) (X:=Nat) (fun n=>[(8, .d (vI (n:Nat)))]) (fun n=>[]) (fun n=>n<=xs.length/\ ∀j (h:j<xs.length),j<n->bt xs[j] m<0) (fun n=>xs.length-n) 0 J ⟨bS _,fun j _ hj=>absurd hj we⟩ (fun _=>J) (fun n hk=>?_);obtain⟨n1,n2⟩:=hk;refine ji (v2:=fun hg43=>by simp only[ae];kernel_rfl) J J J J (fun hg43=>?_) (fun hg43=>?_)
      .
       refine ix _ J (tN) J<|cl J (lg (a:=xs[n]' we) (b:=m) (ha:=hxb _ (bN we)) (hb:=hmb)) J<|br J J J (fun hc52=>?_) (fun hc52=>?_)
       .
        exact at_ (n+1) ⟨⟨we,fun j h hj=>by by_cases q:j=n;(subst q;exact hc52);exact n2 j h we⟩,we⟩
       .
        exact at_ n (vw bt n1 n2 (fun h=>hc52))
      .
       exact at_ n (vw bt n1 n2 (fun h=>absurd h we))
     .
      have hnl:n<=xs.length:=by rw[<-hnx];exact CA _ _ _
      refine ji (v1:=fun hg58=>by simp only[ae];kernel_rfl) J J J J (fun hg58=>?_) (fun hg58=>?_)
      .
       have hnew: ∀h:n<xs.length,bt xs[n] m≠0:=fun h=>absurd h we;obtain⟨ys,hys⟩: ∃ys,ys=xs.take n++m::xs.drop n:=⟨_,rfl⟩;have hin:dO bt m xs=ys:=by rw[hys];exact uP bt hnx hnew
       have hyl:ys.length<=xs.length+1:=by rw[hys];simp;omega
       refine s3 n _ J J J J (jt _) omH J<|ro J J<|mc n xs.length _ J J okx J (jt _) hnl we J<|ap _ J J (ua jt _ _ _) J<|mH (hv:=by simp only[ae];exact⟨omd,we⟩) (ho:=fun _=>⟨vf jt _ _,omc⟩) (ys.map eQ) J omC (vM jt _ _ _ _) J<|at_ (ys,0+1) omF
      .
       refine ix _ J (tN) J<|cl J (lg (a:=xs[n]' we) (b:=m) (ha:=hxb _ (bN we)) (hb:=hmb)) J<|br (fu2:=⟨7⟩) J J J (fun hc67=>?_) (fun hc67=>?_)
       .
        have hnew: ∀h:n<xs.length,bt xs[n] m≠0:=fun h=>hc67;obtain⟨ys,hys⟩: ∃ys,ys=xs.take n++m::xs.drop n:=⟨_,rfl⟩;have hin:dO bt m xs=ys:=by rw[hys];exact uP bt hnx hnew
        have hyl:ys.length<=xs.length+1:=by rw[hys];simp;omega
        refine s3 n _ J J J J (jt _) omH J<|ro J J<|mc n xs.length _ J J okx J (jt _) hnl we J<|ap _ J J (ua jt _ _ _) J<|mH (hv:=by simp only[ae];exact⟨omd,we⟩) (ho:=fun _=>⟨vf jt _ _,omc⟩) (ys.map eQ) J omC (vM jt _ _ _ _) J<|at_ (ys,0+1) omF
       .
        have hin:dO bt m xs=xs:=A4 bt hnx we (Decidable.not_not.1 hc67);exact at_ (xs,0+1) omF
   .
    refine ew (fu:=⟨6⟩) J J J<|d9 J J J<|bb (fu2:=⟨8⟩) J J J (fun hc39=>?_) (fun hc39=>?_)
    .
     exact at_ (xs,1+1) (by dsimp only;exact⟨⟨by rw[vz,if_pos (by simpa[rp] using hc39),<-g1],we⟩,we⟩)
    .
     refine mg (fu:=⟨5⟩) (X:=Nat) (fun n=>[(8, .d (vI (n:Nat)))]) (fun n=>[]) (fun n=>kD bt m xs=n) [8] [] rfl ?_ (fun _=>J) (fun n hnx=>?_)
     .
      refine gx J<|lp (fu:=⟨6⟩) (X:=Nat) (fun n=>[(8, .d (vI (n:Nat)))]) (fun n=>[]) (fun n=>n<=xs.length/\ ∀j (h:j<xs.length),j<n->bt xs[j] m<0) (fun n=>xs.length-n) 0 J ⟨bS _,fun j _ hj=>absurd hj we⟩ (fun _=>J) (fun n hk=>?_);obtain⟨n1,n2⟩:=hk;refine ji (v2:=fun hg43=>by simp only[ae];kernel_rfl) J J J J (fun hg43=>?_) (fun hg43=>?_)
      .
       refine ix _ J (tN) J<|cl J (lg (a:=xs[n]' we) (b:=m) (ha:=hxb _ (bN we)) (hb:=hmb)) J<|br J J J (fun hc52=>?_) (fun hc52=>?_)
       .
        exact at_ (n+1) ⟨⟨we,fun j h hj=>by by_cases q:j=n;(subst q;exact hc52);exact n2 j h we⟩,we⟩
       .
        exact at_ n (vw bt n1 n2 (fun h=>hc52))
      .
       exact at_ n (vw bt n1 n2 (fun h=>absurd h we))
     .
      have hnl:n<=xs.length:=by rw[<-hnx];exact CA _ _ _
      refine ji (v1:=fun hg58=>by simp only[ae];kernel_rfl) J J J J (fun hg58=>?_) (fun hg58=>?_)
      .
       have hnew: ∀h:n<xs.length,bt xs[n] m≠0:=fun h=>absurd h we;obtain⟨ys,hys⟩: ∃ys,ys=xs.take n++m::xs.drop n:=⟨_,rfl⟩;have hin:dO bt m xs=ys:=by rw[hys];exact uP bt hnx hnew
       have hyl:ys.length<=xs.length+1:=by rw[hys];simp;omega
       refine s3 n _ J J J J (jt _) omH J<|ro J J<|mc n xs.length _ J J okx J (jt _) hnl we J<|ap _ J J (ua jt _ _ _) J<|mH (hv:=by simp only[ae];exact⟨omd,we⟩) (ho:=fun _=>⟨vf jt _ _,omc⟩) (ys.map eQ) J omC (vM jt _ _ _ _) J<|at_ (ys,1+1) omG
      .
       refine ix _ J (tN) J<|cl J (lg (a:=xs[n]' we) (b:=m) (ha:=hxb _ (bN we)) (hb:=hmb)) J<|br J J J (fun hc67=>?_) (fun hc67=>?_)
       .
        have hnew: ∀h:n<xs.length,bt xs[n] m≠0:=fun h=>hc67;obtain⟨ys,hys⟩: ∃ys,ys=xs.take n++m::xs.drop n:=⟨_,rfl⟩;have hin:dO bt m xs=ys:=by rw[hys];exact uP bt hnx hnew
        have hyl:ys.length<=xs.length+1:=by rw[hys];simp;omega
        refine s3 n _ J J J J (jt _) omH J<|ro J J<|mc n xs.length _ J J okx J (jt _) hnl we J<|ap _ J J (ua jt _ _ _) J<|mH (hv:=by simp only[ae];exact⟨omd,we⟩) (ho:=fun _=>⟨vf jt _ _,omc⟩) (ys.map eQ) J omC (vM jt _ _ _ _) J<|at_ (ys,1+1) omG
       .
        have hin:dO bt m xs=xs:=A4 bt hnx we (Decidable.not_not.1 hc67);exact at_ (xs,1+1) omG
  .
   have hj2: ¬j<2:=by have:=hc22;simp only[bZ,gQ] at this;omega
   exact at_ (xs,k+1) (by dsimp only;exact⟨⟨by rw[Tg hz,<-h1,g1,show j=2 by omega];rfl,we⟩,we⟩)
 .
  have hfin:iI l=o:=by rw[h1,show k=l.length by omega];unfold rm;rw[dV]
  exact rz J omV
def azu(t:Rat):eV ⟨t,0,false,true⟩= .ag [.v (.bool (decide (t.num<0))),dN t.num.natAbs,dD t.den, .v (.bool false), .sl [], .sl [], .v (.bool false), .v (.bool true)]:=by
 unfold eV dD;simp only[show(0:Rat).num=0 from J,show(0:Rat).den=1 from J,kY,me];rfl
def Vl(t:Rat):eV ⟨0,t,true,false⟩= .ag [.v (.bool false), .sl [], .sl [], .v (.bool (decide (t.num<0))),dN t.num.natAbs,dD t.den, .v (.bool true), .v (.bool false)]:=by
 unfold eV dD;simp only[show(0:Rat).num=0 from J,show(0:Rat).den=1 from J,kY,me];rfl
def Cs(l m:ab)(side:Int):DV:= .tp [.sl ((jk l m side).map eV),vB (l7 l m)]
def N'{l m:ab}(h:crossI l m≠0):l7 l m=false:=by unfold l7;rw[decide_eq_false];exact fun e=>h e.1
def Nh{l m:ab}(h:crossI l m=0):l7 l m=decide ((m.value l.base).num.sign=0):=by unfold l7;simp[h]
def T5{l m:ab}{side:Int}[hl:LB l][hm:LB m](hlo:l.ok)(hmo:m.ok)(hs:side=1\/side= -1):PF GB prog 151 [eL l,eL m,vI side] (Cs l m side):=by
 refine fn func151 J J ntmps151 J J (fun C=>?_);refine cl J (Eg (l:=l) (m:=m)) J<|bb J J J (fun hc19=>?_) (fun hc19=>?_)
 .
  have hc:crossI l m=0:=by simpa using hc19
  refine cl J (KK hlo.ne) J<|cl J (AE (l:=m) (p:=l.base)) J<|br J J J (fun hc26=>?_) (fun hc26=>?_)
  .
   refine cl J M3 J<|rf J J<|rz J (by unfold Cs jk;rw[if_pos hc,if_pos hc26,Nh hc];rfl)
  .
   exact rz J (by unfold Cs jk;rw[if_pos hc,if_neg hc26,Nh hc];rfl)
 .
  have hc:crossI l m≠0:=by simpa using hc19
  haveI hpb:=zW (l:=l) (m:=m) hlo.ne hc;obtain⟨t,ht⟩: ∃t,t=fI l (c9 l m):=⟨_,rfl⟩;refine cl (fu:=⟨0⟩) J (AB (l:=l) (p:=c9 l m) hlo.ne) J<|ah 35 (.d (eQ t)) J (by rw[ht]) ?_;rw[<-ht] at hpb;refine gx J<|cl J (lh (n:=1)) J<|cl J (qf (a:=t) (b:=((1:Int):Rat))) J<|cl J (Ep (l:=l) (t:=t+((1:Int):Rat)) hlo.ne) J<|cl J (AE (l:=m) (p:=l.at (t+((1:Int):Rat)))) J<|br J J J (fun hc44=>?_) (fun hc44=>?_)
  .
   refine rf J J<|rz J (by unfold Cs jk;rw[if_neg hc,<-ht,if_pos (show(m.value (l.at (t+1))).num.sign=side from hc44),N' hc,cJ,azu];rfl)
  .
   refine rf J J<|rz J (by unfold Cs jk;rw[if_neg hc,<-ht,if_neg (show¬(m.value (l.at (t+1))).num.sign=side from hc44),N' hc,cJ,Vl];rfl)
def d8(f:aI):DV:= .ag [.v (.bool (decide (f.l.a<0))),dN f.l.a.natAbs, .v (.bool (decide (f.l.b<0))),dN f.l.b.natAbs, .v (.bool (decide (f.l.c<0))),dN f.l.c.natAbs, .v (.bool (decide (f.v.lo.num<0))),dN f.v.lo.num.natAbs,dD f.v.lo.den, .v (.bool (decide (f.v.hi.num<0))),dN f.v.hi.num.natAbs,dD f.v.hi.den, .v (.bool f.v.nl), .v (.bool f.v.nh)]
def yW(fs:List aI):dH 14 (fs.map d8):=fun d hd=>by
 obtain⟨u,_,rfl⟩:=aS.1 hd;exact⟨rfl,rfl⟩
theorem nE{p:ZP}(h:ZP.le 100 p):aE p.q 12:=by
 haveI:BI p.1 11:=jz (by have:=h.1;omega);haveI:BI p.2 11:=jz (by have:=h.2;omega);exact(inferInstance:aE (iP p.1 p.2) 12)
def Xd{v w:ZP}(hv:ZP.le 100 v)(hw:ZP.le 100 w)(h:v≠w):PF GB prog 65 [eP v.q,eP w.q] (.tp [d8 (cH v w),vB true]):=by
 have hne: ¬(w.1=v.1/\w.2=v.2):=fun e=>h (Prod.ext e.1.symm e.2.symm);obtain⟨hlb,hlo⟩:=NV (m:=v.1) (n:=v.2) (p:=w.1) (q:=w.2) ozg ozh ozi ozj hne;haveI:=hlb;haveI:=nE hv;haveI:=nE hw;refine fn func65 J J ntmps65 J J (fun C=>?_);refine cl (fu:=⟨3⟩) J (Zt (m:=v.1) (n:=v.2) (m':=w.1) (n':=w.2) ozg ozh ozi ozj (fun e=>hne ⟨e.1.symm,e.2.symm⟩)) J<|rk 13 J<|gx J<|cl J (AB (l:=lC v.1 v.2 w.1 w.2) (p:=v.q) hlo.ne) J<|cl J (AB (l:=lC v.1 v.2 w.1 w.2) (p:=w.q) hlo.ne) J<|rz J J
end Go.Sx
end
