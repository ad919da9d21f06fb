import Derived.Test.YtmdgdhokaffbkaaGreatDoorMz13
set_option linter.all false
set_option maxHeartbeats 4000000
set_option maxRecDepth 100000
section
namespace Go.Sx
open Go Go.Proofs
variable {m n fill c op:Int}{p v w d x e u:aa}{i j k:Nat}{l:ah}{t:Tr}{a b lo hi y s:Rat}{es:List Int}{ds:List aa}
abbrev ZP:=Int×Int
variable {r:List ZP}
def ZP.q(p:ZP):aa:=iP p.1 p.2
def ZP.le(k:Nat)(p:ZP):Prop:=p.1.natAbs<=k/\p.2.natAbs<=k
def kP(p q:ZP):ZP:=(p.1+1*q.1,p.2+1*q.2)
def kv(u v:ZP):Int:=u.1*v.2-u.2*v.1
theorem YY{p q:Int}(hm:m.natAbs<=1000)(hn:n.natAbs<=1000)(hp:p.natAbs<=1000)(hq:q.natAbs<=1000)(h: ¬(p=m/\q=n)):LB (uu m n p q)/\(uu m n p q).ok:=by
 have e1:(pC n q).natAbs<=2000:=by unfold pC;omega
 have e2:(qe m p).natAbs<=2000:=by unfold qe;omega
 have e3:=SP e1 hm;have e4:=SP e2 hn;have e5:(xq m n p q).natAbs<=4000000:=by unfold xq;omega
 unfold uu;obtain⟨k1,k2,k3⟩:=BW (pC n q) (qe m p) (xq m n p q);have hb:(2:Nat)^96=79228162514264337593543950336:=by decide
 refine⟨⟨⟨?_,?_,?_⟩⟩,Qi ?_⟩
 .rw[hb];omega
 .rw[hb];omega
 .rw[hb];omega
 .unfold pC qe;omega
def Dr(v w:ZP):bt:=⟨uu v.1 v.2 w.1 w.2,⟨gy (uu v.1 v.2 w.1 w.2) v.q,gy (uu v.1 v.2 w.1 w.2) w.q,false,false⟩⟩
def ks(r:List ZP)(i:Nat):ZP:=r.getD ((i+1)%r.length) (0,0)
def vk(r:List ZP):Nat->List bt
 |0=>[]
 |k+1=>vk r k++[Dr (r.getD k (0,0)) (ks r k)]
def Ag(r:List ZP):List bt:=vk r r.length
structure iG (r:List ZP):Prop where
 n3:3<=r.length
 n6:r.length<=6
 le: ∀p∈r,ZP.le 100 p
 ne: ∀i<r.length,r.getD i (0,0)≠ks r i
def zN(h:i<r.length:=by omega):r.getD i (0,0)∈r:=by
 rw[aK,aZ h];exact cK h
def Fi(h:i<r.length:=by omega):ks r i∈r:=zN (dJ _ m5)
theorem Mu(hl:LB l)(ho:l.ok)(hm:m.natAbs<=1000)(hn:n.natAbs<=1000):BQ (gy l (iP m n)) 1200:=by
 haveI:=vo (k:=11) hm;haveI:=vo (k:=11) hn;have hd:=Ba ho.ne;have hA:BI (l.a*l.a+l.b*l.b) _:=inferInstance;have hB:BI (m*l.b-n*l.a) _:=inferInstance;have hA':=DM (j:=1200) hA;have hB':=DM (j:=1200) hB;have e1:l.dir.dot l.dir=((l.a*l.a+l.b*l.b:Int):Rat):=by
  rw[lS,cV,cV];simp only[ah.dir,aa.dot];grind
 have e2:(iP m n).dot l.dir=((m*l.b-n*l.a:Int):Rat):=by
  rw[gV,cV,cV];simp only[ah.dir,aa.dot,iP];grind
 have hd':((0:Int):Rat)<((l.a*l.a+l.b*l.b:Int):Rat):=by rw[<-e1];exact hd
 unfold gy;rw[e2,e1];clear hA hB e1 e2;generalize l.a*l.a+l.b*l.b=D at*;generalize m*l.b-n*l.a=M at*;have hD:0<D:=Rat.intCast_lt_intCast.1 hd';refine BQ.of_fracI (n:=M) (D:=D) m5 ?_ hB' hA';have h0:(D:Rat)≠0:=fun e=>by rw[e] at hd';exact absurd hd' pb
 have:((D.natAbs:Nat):Rat)=(D:Rat):=by
  have h1:((D.natAbs:Nat):Int)=D:=by omega
  rw[<-h1];rfl
 rw[this];grind
def aGZ{v w:ZP}(hv:ZP.le 100 v)(hw:ZP.le 100 w)(h:v≠w):lu (Dr v w):=by
 obtain⟨h1,h2⟩:=YY (m:=v.1) (n:=v.2) (p:=w.1) (q:=w.2) (by have:=hv.1;omega) (by have:=hv.2;omega) (by have:=hw.1;omega) (by have:=hw.2;omega) (fun e=>h (Prod.ext e.1.symm e.2.symm));exact⟨h1,h2,⟨fun e=>(by cases e),fun e=>(by cases e)⟩,Mu h1 h2 (by have:=hv.1;omega) (by have:=hv.2;omega),Mu h1 h2 (by have:=hw.1;omega) (by have:=hw.2;omega)⟩
def Ul{r:List ZP}(h:iG r): ∀{k:Nat},k<=r.length->(vk r k).length=k/\ ∀f∈vk r k,lu f
 |0,_=>⟨J,fun f hf=>by cases hf⟩
 |k+1,hk=>by
  obtain⟨h1,h2⟩:=Ul h (k:=k) m5;rw[vk];refine⟨by simp[h1],fun f hf=>?_⟩;rcases aL.1 hf with hf|hf
  .exact h2 f hf
  .rw[aY] at hf;subst hf
   exact aGZ (h.le _ (zN)) (h.le _ (Fi)) (h.ne k m5)
def JI(h:iG r):(Ag r).length=r.length/\ ∀f∈Ag r,lu f:=Ul h (bW _)
def uh(rs:List (List ZP)):List bt:=rs.flatMap Ag
def M2: ∀{rs:List (List ZP)},(∀r∈rs,iG r)->(uh rs).length<=6*rs.length/\ ∀f∈uh rs,lu f
 |[],_=>⟨bW _,fun f hf=>by cases hf⟩
 |r::rs,h=>by
  obtain⟨h1,h2⟩:=M2 (rs:=rs) fun q hq=>h q (aJ _ hq);obtain⟨k1,k2⟩:=JI (h r aQ);have:=(h r aQ).n6;unfold uh at*;rw[kK];refine⟨by rw[aU,k1,aN];omega,fun f hf=>?_⟩;rcases aL.1 hf with hf|hf
  .exact k2 f hf
  .exact h2 f hf
def s7(a b c:aa):Int:=(aa.cross (cd b a (-1)) (cd c a (-1))).num.sign
def qq(v w p:aa):Int:=
 (if bB v.y p.y<=0/\ ¬bB w.y p.y<=0/\0<s7 v w p then 1 else 0)-(if¬bB v.y p.y<=0/\bB w.y p.y<=0/\s7 v w p<0 then 1 else 0)
def Ez(r:List ZP)(p:aa):Nat->Int
 |0=>0
 |k+1=>Ez r p k+qq (r.getD k (0,0)).q (ks r k).q p
def Tv(r:List ZP)(p:aa):Int:=Ez r p r.length
def ue(fill n:Int):Bool:=(decide (fill=1)&&decide (n.tmod 2≠0))||(decide (fill=2)&&decide (n≠0))
def vT(rs:List (List ZP))(fill:Int)(p:aa):Bool:=ue fill (rs.foldl (fun n r=>n+Tv r p) 0)
def vw(rs:List (List ZP))(fill:Int):Tr:=jg (vT rs fill) (uh rs).length (uh rs) []
def iA(rs:List (List ZP))(fill:Int):Tr:=(vw rs fill).restrict []
structure m7 (k:Nat) (t:Tr):Prop where
 gd:t.gd
 dp:t.depth<=k
 am: ∃K:List ah,K.length<=k/\(∀l∈K,l.ok)/\jj K t
def AC{acc:aa->Bool}{n:Nat}{l:List bt}(h: ∀f∈l,lu f)(hn:l.length=n):m7 n (jg acc n l []):=
 ⟨⟨wP fun f hf=>(h f hf).lb,wP fun f hf=>(h f hf).ok⟩,HA,l.map (·.l),by rw[aX,hn];exact bW _,fun m hm=>by
  obtain⟨f,hf,rfl⟩:=aT.1 hm;exact(h f hf).ok,wP fun f hf=>⟨f.l,dQ hf, .inl rfl⟩⟩
def m7.restrict{k:Nat}{t:Tr}(h:m7 k t)(c:ar):m7 k (t.restrict c):=by
 obtain⟨K,h1,h2,h3⟩:=h.am;exact⟨QF h.gd c,dZ (t.restrict_depth c) h.dp,K,h1,h2,h3.restrict c⟩
def m7.mono(h:m7 j t)(hk:j<=k):m7 k t:=by
 obtain⟨K,h1,h2,h3⟩:=h.am;exact⟨h.gd,dZ h.dp hk,K,m5,h2,h3⟩
def JV{rs:List (List ZP)}(h: ∀r∈rs,iG r)(hn:rs.length<=3):m7 18 (iA rs fill):=by
 obtain⟨h1,h2⟩:=M2 h;exact((AC (acc:=vT rs fill) h2 J).restrict []).mono m5
def fD(a b c d:Int):List ZP:=[(a,b),(c,b),(c,d),(a,d)]
def I3{a b d:Int}(h1:a.natAbs<=50:=by decide)(h2:b.natAbs<=50:=by decide)(h3:c.natAbs<=50:=by decide)(h4:d.natAbs<=50:=by decide)(h5:a<c:=by decide)(h6:b<d:=by decide):iG (fD a b c d):=by
 refine⟨by simp[fD],by simp[fD],fun p hp=>?_,fun i hi=>?_⟩
 .simp only[fD,aV,fJ,or_false] at hp
  rcases hp with rfl|rfl|rfl|rfl<;>exact⟨by dsimp only;omega,by dsimp only;omega⟩
 .have:i=0\/i=1\/i=2\/i=3:=by simp[fD] at hi;omega
  rcases this with rfl|rfl|rfl|rfl<;>simp[fD,ks]<;>omega
def im(p u v:ZP):List ZP:=[p,kP p u,kP p v]
def aIU{p u v:ZP}(h1:ZP.le 40 p)(h2:ZP.le 40 u)(h3:ZP.le 40 v)(h:kv u v≠0):iG (im p u v):=by
 obtain⟨p1,p2⟩:=p;obtain⟨u1,u2⟩:=u;obtain⟨v1,v2⟩:=v;unfold ZP.le at h1 h2 h3;dsimp only at h1 h2 h3;unfold kv at h;dsimp only at h;refine⟨by simp[im],by simp[im],fun p hp=>?_,fun i hi=>?_⟩
 .simp only[im,kP,aV,fJ,or_false] at hp
  rcases hp with rfl|rfl|rfl<;>exact⟨by dsimp only;omega,by dsimp only;omega⟩
 .have:i=0\/i=1\/i=2:=by simp[im] at hi;omega
  have hu: ¬(u1=0/\u2=0):=fun e=>h (by rw[e.1,e.2];simp);have hv: ¬(v1=0/\v2=0):=fun e=>h (by rw[e.1,e.2];simp);have huv: ¬(u1=v1/\u2=v2):=fun e=>h (by rw[e.1,e.2,sW];omega);rcases this with rfl|rfl|rfl<;>simp[im,kP,ks]<;>omega
def xz(es:List Int)(n m k:Int)(a:Nat):List ZP×Nat:=
 let x:=au es n a
 let y:=au es n x.2
 let z:=au es m y.2
 let w:=au es m z.2
 (fD ((x.1:Int)-k) ((y.1:Int)-k) ((x.1:Int)-k+1+z.1) ((y.1:Int)-k+1+w.1),w.2)
def YK{k:Int}{a:Nat}(ha:a<=es.length)(hn:1<=n:=by decide)(hn2:n<=10:=by decide)(hm:1<=m:=by decide)(hm2:m<=10:=by decide)(hk:0<=k:=by decide)(hk2:k<=10:=by decide):iG (xz es n m k a).1/\(xz es n m k a).2<=es.length:=by
 have h1:=fp (es:=es) (a:=a) hn;have h2:=fp (es:=es) (a:=(au es n a).2) hn;have h3:=fp (es:=es) (a:=(au es n (au es n a).2).2) hm;have h4:=fp (es:=es) (a:=(au es m (au es n (au es n a).2).2).2) hm;exact⟨I3 m5 m5 m5 m5 m5 m5,jf (jf (jf (jf ha)))⟩
def Ax:List ZP:=[(0,0),(1,0),(0,1)]
def Sk:iG Ax:=⟨pb,pb,fun p hp=>by
  simp only[Ax,aV,fJ,or_false] at hp;rcases hp with rfl|rfl|rfl<;>exact⟨pb,pb⟩,fun i hi=>by
  have:i=0\/i=1\/i=2:=by simp[Ax] at hi;omega
  rcases this with rfl|rfl|rfl<;>decide⟩
def dE(es:List Int)(a:Nat):List ZP×Nat:=
 let k:=au es 2 a
 if(k.1:Int)=0 then xz es 3 2 1 k.2
 else
  let x:=au es 3 k.2
  let y:=au es 3 x.2
  let u1:=au es 2 y.2
  let u2:=au es 3 u1.2
  let v1:=au es 3 u2.2
  let v2:=au es 2 v1.2
  (if 0<kv (1+(u1.1:Int),(u2.1:Int)-1) ((v1.1:Int)-1,1+(v2.1:Int)) then im ((x.1:Int)-1,(y.1:Int)-1) (1+(u1.1:Int),(u2.1:Int)-1) ((v1.1:Int)-1,1+(v2.1:Int)) else Ax,v2.2)
def zo{a:Nat}(ha:a<=es.length):iG (dE es a).1/\(dE es a).2<=es.length:=by
 have h0:=jf (n:=2) ha;unfold dE;dsimp only;split
 .exact YK h0
 .generalize hk:(au es 2 a).2=k at*
  have e1:=fp (es:=es) (n:=3) (a:=k);have f1:=jf (n:=3) h0;generalize hx:au es 3 k=x at*;have e2:=fp (es:=es) (n:=3) (a:=x.2);have f2:=jf (n:=3) f1;generalize hy:au es 3 x.2=y at*;have e3:=fp (es:=es) (n:=2) (a:=y.2);have f3:=jf (n:=2) f2;generalize hu:au es 2 y.2=u1 at*;have e4:=fp (es:=es) (n:=3) (a:=u1.2);have f4:=jf (n:=3) f3;generalize hu2:au es 3 u1.2=u2 at*;have e5:=fp (es:=es) (n:=3) (a:=u2.2);have f5:=jf (n:=3) f4;generalize hv:au es 3 u2.2=v1 at*;have e6:=fp (es:=es) (n:=2) (a:=v1.2);have f6:=jf (n:=2) f5;generalize hv2:au es 2 v1.2=v2 at*;refine⟨?_,f6⟩;split
  .rename_i hc
   exact aIU ⟨by dsimp only;omega,by dsimp only;omega⟩ ⟨by dsimp only;omega,by dsimp only;omega⟩ ⟨by dsimp only;omega,by dsimp only;omega⟩ m5
  .exact Sk
def s9: ∀t:Tr,t.lns.length=t.size
 | .leaf _=>rfl
 | .node l x y=>by rw[Tr.lns,aN,aU,s9 x,s9 y,Tr.size];omega
def aB(a b p:aa):Rat:=(b.x-a.x)*(p.y-a.y)-(b.y-a.y)*(p.x-a.x)
def ld(v w p:aa):Int:=(if v.y<=p.y/\ ¬w.y<=p.y/\0<aB v w p then 1 else 0)-(if¬v.y<=p.y/\w.y<=p.y/\aB v w p<0 then 1 else 0)
def w7(v w q p:aa):Prop:= ∀s t:Rat,0<=s->s<=1->0<=t->t<=1->bO v w s≠bO q p t
def Be(h0:0<=a)(h1:a<=b)(hb:0<b):0<=a/b/\a/b<=1/\a/b*b=a:=by
 have e:a/b*b=a:=by grind
 generalize a/b=q at*;refine⟨?_,?_,e⟩
 .exact(iB hb).1 (by rw[e];exact h0)
 .have:=(iB (s:=1-q) hb).1 va
  grind
def aHM{q:aa}(hy:q.y<p.y)(h:aB q p x=0)(h1:q.y<=x.y)(h2:x.y<=p.y): ∃t,0<=t/\t<=1/\x=bO q p t:=by
 obtain⟨a1,a2,a3⟩:=Be (a:=x.y-q.y) (b:=p.y-q.y) va va va;refine⟨_,a1,a2,?_⟩;generalize (x.y-q.y)/(p.y-q.y)=t at*;obtain⟨X,Y⟩:=x;unfold aB at h;unfold bO;simp only at*;have e:X=q.x+t*(p.x-q.x):=by
  have h3:(p.y-q.y)*(X-q.x)=(p.y-q.y)*(t*(p.x-q.x)):=by grind
  have h4:p.y-q.y≠0:=by grind
  have:=fX.1 (show(p.y-q.y)*(X-q.x-t*(p.x-q.x))=0 by grind);rcases this with h5|h5
  .exact absurd h5 h4
  .grind
 rw[e];congr 1;grind
def Rw(q p v w:aa)(e:Rat):aB q p (bO v w e)=aB q p v+e*(aB q p w-aB q p v):=by
 unfold aB bO;grind
def R8(v w:aa)(a b e:Rat):bO (bO v w a) (bO v w b) e=bO v w (a+e*(b-a)):=by
 unfold bO;simp only[aa.mk.injEq];constructor<;>grind
def Dq(v w:aa)(e:Rat):(bO v w e).y=v.y+e*(w.y-v.y):=rfl
def Jh{e:Rat}(h0:0<=e)(h1:e<=1)(ha:lo<=a)(hb:lo<=b)(ha2:a<=hi)(hb2:b<=hi):lo<=a+e*(b-a)/\a+e*(b-a)<=hi:=by
 have k1:=cC h0 (show 0<=b-lo by grind);have k2:=cC (show 0<=1-e by grind) (show 0<=a-lo by grind);have k3:=cC h0 (show 0<=hi-b by grind);have k4:=cC (show 0<=1-e by grind) (show 0<=hi-a by grind);constructor<;>grind
def Y9{q:aa}(hn:w7 v w q p)(hy:q.y<p.y)(a0:0<=a)(a1:a<=1)(b0:0<=b)(b1:b<=1)(ha:q.y<=(bO v w a).y/\(bO v w a).y<=p.y)(hb:q.y<=(bO v w b).y/\(bO v w b).y<=p.y)(h:aB q p (bO v w a)<0):aB q p (bO v w b)<0:=by
 by_cases k:aB q p (bO v w b)<0
 .exact k
 .exfalso
  obtain⟨e0,e1,e2⟩:=Be (a:= -(aB q p (bO v w a))) (b:=aB q p (bO v w b)-aB q p (bO v w a)) va va va;generalize-(aB q p (bO v w a))/(aB q p (bO v w b)-aB q p (bO v w a))=e at*;have hz:aB q p (bO v w (a+e*(b-a)))=0:=by rw[<-R8,Rw];grind
  have hh:=Jh e0 e1 ha.1 hb.1 ha.2 hb.2;rw[<-Dq,R8] at hh;obtain⟨t,t0,t1,ht⟩:=aHM hy hz hh.1 hh.2;have h01:=Jh e0 e1 a0 b0 a1 b1;exact hn _ t h01.1 h01.2 t0 t1 ht
def aGQ{q:aa}(hn:w7 v w q p)(hy:q.y<p.y): ∃r:Bool,∀s,0<=s->s<=1->q.y<=(bO v w s).y->(bO v w s).y<=p.y->(aB q p (bO v w s)<0↔r=true):=by
 by_cases h: ∃s,0<=s/\s<=1/\(q.y<=(bO v w s).y/\(bO v w s).y<=p.y)/\aB q p (bO v w s)<0
 .obtain⟨s,s0,s1,s2,s3⟩:=h
  exact⟨true,fun t t0 t1 h1 h2=>⟨fun _=>J,fun _=>Y9 hn hy s0 s1 t0 t1 s2 ⟨h1,h2⟩ s3⟩⟩
 .exact⟨false,fun t t0 t1 h1 h2=>⟨fun k=>absurd ⟨t,t0,t1,⟨h1,h2⟩,k⟩ h,fun k=>by cases k⟩⟩
def Of(v w:aa):bO v w 0=v:=by unfold bO;cases v;simp only[aa.mk.injEq];constructor<;>grind
def Tj(v w:aa):bO v w 1=w:=by unfold bO;cases w;simp only[aa.mk.injEq];constructor<;>grind
def Ln(h:(v.y<=y/\ ¬w.y<=y)\/(¬v.y<=y/\w.y<=y)): ∃s,0<=s/\s<=1/\(bO v w s).y=y:=by
 rcases h with⟨h1,h2⟩|⟨h1,h2⟩
 .obtain⟨a1,a2,a3⟩:=Be (a:=y-v.y) (b:=w.y-v.y) va va va
  refine⟨_,a1,a2,?_⟩;rw[Dq];grind
 .obtain⟨a1,a2,a3⟩:=Be (a:=v.y-y) (b:=v.y-w.y) va va va
  refine⟨_,a1,a2,?_⟩;rw[Dq];grind
def M8(h:(bO v w s).y=p.y):aB v w p=(w.y-v.y)*((bO v w s).x-p.x):=by
 unfold aB;unfold bO at*;simp only at*;rw[<-h];grind
def ot(ha:0<a):0<a*b↔0<b:=by rw[Rat.mul_comm];exact fB ha
def HR(ha:a<0):a*b<0↔0<b:=by
 have:=ot (a:= -a) (b:=b) va;constructor
 .intro h;exact this.1 va
 .intro h;have:=this.2 h;grind
def bI(b:Prop)[Decidable b]:Int:=if b then 1 else 0
def EE{r:Prop}[Decidable r](h: ∀s,0<=s->s<=1->(bO v w s).y=p.y->(p.x<(bO v w s).x↔r)):ld v w p=if r then bI (v.y<=p.y)-bI (w.y<=p.y) else 0:=by
 unfold ld bI;by_cases h1:v.y<=p.y<;>by_cases h2:w.y<=p.y
 .simp[h1,h2]
 .obtain⟨s,s0,s1,s2⟩:=Ln (.inl ⟨h1,h2⟩)
  have e:=M8 s2;have k:=h s s0 s1 s2;have m:=ot (a:=w.y-v.y) (b:=(bO v w s).x-p.x) va;rw[<-e] at m;have m2:0<aB v w p↔r:=by rw[m,<-k];grind
  simp only[h1,h2,m2];by_cases q:r<;>simp[q]
 .obtain⟨s,s0,s1,s2⟩:=Ln (.inr ⟨h1,h2⟩)
  have e:=M8 s2;have k:=h s s0 s1 s2;have m:=HR (a:=w.y-v.y) (b:=(bO v w s).x-p.x) va;rw[<-e] at m;have m2:aB v w p<0↔r:=by rw[m,<-k];grind
  simp only[h1,h2,m2];by_cases q:r<;>simp[q]
 .simp[h1,h2]
def wJ(q p u:aa):Int:=if q.y<u.y/\u.y<=p.y/\aB q p u<0 then 1 else 0
def Q7{q:aa}(hn:w7 v w q p)(hy:q.y<p.y):ld v w p-ld v w q=wJ q p v-wJ q p w:=by
 obtain⟨r,hr⟩:=aGQ hn hy;have ep:=EE (v:=v) (w:=w) (p:=p) (r:=r=true) fun s s0 s1 s2=>by
  rw[<-hr s s0 s1 va va];have m:=ot (a:=p.y-q.y) (b:=(bO v w s).x-p.x) va;have:aB q p (bO v w s)= -((p.y-q.y)*((bO v w s).x-p.x)):=by unfold aB;rw[s2];grind
  rw[this];generalize (p.y-q.y)*((bO v w s).x-p.x)=z at*;constructor
  .intro k;have:=m.2 va;grind
  .intro k;have:=m.1 va;grind
 have eq:=EE (v:=v) (w:=w) (p:=q) (r:=r=true) fun s s0 s1 s2=>by
  rw[<-hr s s0 s1 va va];have m:=ot (a:=p.y-q.y) (b:=(bO v w s).x-q.x) va;have:aB q p (bO v w s)= -((p.y-q.y)*((bO v w s).x-q.x)):=by unfold aB;rw[s2];grind
  rw[this];generalize (p.y-q.y)*((bO v w s).x-q.x)=z at*;constructor
  .intro k;have:=m.2 va;grind
  .intro k;have:=m.1 va;grind
 have fv:wJ q p v=if r=true then bI (v.y<=p.y)-bI (v.y<=q.y) else 0:=by
  have h:=hr 0 pb pb;rw[Of] at h;unfold wJ bI;by_cases h1:v.y<=p.y<;>by_cases h2:v.y<=q.y
  .have: ¬q.y<v.y:=by grind
   simp[h1,h2,this]
  .have h3:q.y<v.y:=by grind
   have:=h va h1;simp only[h1,h2,h3,this];by_cases q:r=true<;>simp[q]
  .exfalso;grind
  .simp[h1,h2]
 have fw:wJ q p w=if r=true then bI (w.y<=p.y)-bI (w.y<=q.y) else 0:=by
  have h:=hr 1 pb pb;rw[Tj] at h;unfold wJ bI;by_cases h1:w.y<=p.y<;>by_cases h2:w.y<=q.y
  .have: ¬q.y<w.y:=by grind
   simp[h1,h2,this]
  .have h3:q.y<w.y:=by grind
   have:=h va h1;simp only[h1,h2,h3,this];by_cases q:r=true<;>simp[q]
  .exfalso;grind
  .simp[h1,h2]
 rw[ep,eq,fv,fw];by_cases q:r=true
 .simp only[if_pos q];omega
 .simp only[if_neg q]
def auU{q:aa}(hn:w7 v w q p)(hy:q.y=p.y):ld v w p=ld v w q:=by
 have key: ∀s,0<=s->s<=1->(bO v w s).y=p.y->(p.x<(bO v w s).x↔q.x<(bO v w s).x):=fun s s0 s1 s2=>by
  have no: ∀a b:Rat,a<=(bO v w s).x->(bO v w s).x<b->((a=q.x/\b=p.x)\/(a=p.x/\b=q.x))->False:=fun a b h1 h2 h3=>by
   obtain⟨a1,a2,a3⟩:=Be (a:=(bO v w s).x-a) (b:=b-a) va va va;generalize ((bO v w s).x-a)/(b-a)=t at*;rcases h3 with⟨e1,e2⟩|⟨e1,e2⟩
   .refine hn s t s0 s1 a1 a2 ?_
    generalize hx:bO v w s=x at*;obtain⟨X,Y⟩:=x;unfold bO;simp only[aa.mk.injEq] at*;subst e1 e2;constructor<;>grind
   .refine hn s (1-t) s0 s1 va va ?_
    generalize hx:bO v w s=x at*;obtain⟨X,Y⟩:=x;unfold bO;simp only[aa.mk.injEq] at*;subst e1 e2;constructor<;>grind
  constructor
  .intro h
   by_cases k:q.x<(bO v w s).x
   .exact k
   .by_cases k2:(bO v w s).x=q.x
    .exfalso
     refine hn s 0 s0 s1 pb pb ?_;rw[Of];generalize bO v w s=x at*;obtain⟨X,Y⟩:=x;obtain⟨A,B⟩:=q;simp only[aa.mk.injEq] at*;exact⟨k2,va⟩
    .exact(no p.x q.x va va (.inr ⟨J,J⟩)).elim
  .intro h
   by_cases k:p.x<(bO v w s).x
   .exact k
   .by_cases k2:(bO v w s).x=p.x
    .exfalso
     refine hn s 1 s0 s1 pb pb ?_;rw[Tj];generalize bO v w s=x at*;obtain⟨X,Y⟩:=x;obtain⟨A,B⟩:=p;simp only[aa.mk.injEq] at*;exact⟨k2,s2⟩
    .exact(no q.x p.x va va (.inl ⟨J,J⟩)).elim
 by_cases hc:(v.y<=p.y/\ ¬w.y<=p.y)\/(¬v.y<=p.y/\w.y<=p.y)
 .obtain⟨s,s0,s1,s2⟩:=Ln hc
  have uq: ∀t,(bO v w t).y=p.y->t=s:=fun t ht=>by
   rw[Dq] at ht s2;have h4:w.y-v.y≠0:=by grind
   have:=fX.1 (show(w.y-v.y)*(t-s)=0 by grind);rcases this with h5|h5
   .exact absurd h5 h4
   .grind
  rw[EE (p:=p) (r:=p.x<(bO v w s).x) fun t _ _ ht=>by rw[uq t ht],EE (p:=q) (r:=p.x<(bO v w s).x) fun t _ _ ht=>by rw[uq t (by rw[ht,hy])];exact(key s s0 s1 s2).symm,hy]
 .unfold ld
  rw[hy];by_cases h1:v.y<=p.y<;>by_cases h2:w.y<=p.y<;>simp[h1,h2] at hc⊢
def Xs(q p:aa)(t:Rat):bO p q t=bO q p (1-t):=by unfold bO;simp only[aa.mk.injEq];constructor<;>grind
def w7.symm{q:aa}(h:w7 v w q p):w7 v w p q:=fun s t s0 s1 t0 t1 e=>h s (1-t) s0 s1 va va (by rw[e,Xs])
def awX(a b c:aa):s7 a b c=(aB a b c).num.sign:=by
 unfold s7 aB aa.cross cd;congr 2;grind
def aGq(a b:Rat):bB a b<=0↔a<=b:=by
 have:=IL a b;constructor
 .intro h
  by_cases q:b<a
  .have:=this.2 q;omega
  .grind
 .intro h
  by_cases q:0<bB a b
  .have:=this.1 q;grind
  .omega
def wg(v w p:aa):qq v w p=ld v w p:=by
 unfold qq ld;simp only[awX,kg,rm,aGq]
def y8(op:Int)(a b:Tr):Bool:=decide ((a.mergeQ op b []).isLeaf=true/\(a.mergeQ op b []).code=false)
def VW{a b:Tr}:y8 op a b=true↔a.mergeQ op b []= .leaf false:=by
 unfold y8;rw[decide_eq_true_iff]
 cases a.mergeQ op b [] with
 |leaf v=>simp[Tr.isLeaf,Tr.code]
 |node l x y=>simp[Tr.isLeaf]
def t7.none{L:List ah}{a b:Tr}(h:t7 L a b):y8 op a b=true↔ ∀p,cB L p->tc op (a.val p) (b.val p)=false:=by rw[VW,h.leaf]
def iE:Tr->aa->Bool
 | .leaf b,_=>b
 | .node l x y,p=>if(l.value p).num.sign=1 then iE x p else if(l.value p).num.sign= -1 then iE y p else false
def zy: ∀{t:Tr} {p:aa},cB t.lns p->iE t p=t.val p
 | .leaf b,p,_=>rfl
 | .node l x y,p,h=>by
  rw[iE,Tr.val];have h0:=h.l;by_cases h1:0<l.value p
  .rw[if_pos ((nC _).2 h1),if_pos h1,zy h.x]
  .have h2:l.value p<0:=by grind
   have h3:=(rm _).2 h2;have h4:(l.value p).num.sign= -1:=by
    rcases rK (l.value p).num with e|e|e<;>omega
   rw[if_neg m5,if_pos h4,if_neg h1,zy h.y]
def AF{L:List ah}{p q:aa}(h: ∀l∈L,0<l.value q↔0<l.value p): ∀{t:Tr},(∀l∈t.lns,l∈L)->t.val q=t.val p
 | .leaf _,_=>rfl
 | .node l x y,hl=>by
  have hx:=AF h (t:=x) fun m hm=>hl m (aJ _ (bJ _ hm));have hy:=AF h (t:=y) fun m hm=>hl m (aJ _ (aM _ hm));rw[Tr.val,Tr.val,hx,hy];by_cases h1:0<l.value q
  .rw[if_pos h1,if_pos ((h l (hl l aQ)).1 h1)]
  .rw[if_neg h1,if_neg (fun e=>h1 ((h l (hl l aQ)).2 e))]
def As: ∀{t:Tr} {c:ar} {b:Bool} {e:ar},t.all ah.ok->bG c->(b,e)∈t.parts c->bG e/\ ∀p,bw e p->bw c p/\t.val p=b
 | .leaf v,c,b,e,_,hc,h=>by
  rw[Tr.parts,aY] at h
  cases h
  exact⟨hc,fun p hp=>⟨hp,J⟩⟩
 | .node l x y,c,b,e,⟨hl,hx,hy⟩,hc,h=>by
  rw[Tr.parts] at h;rcases aL.1 h with h|h
  .split at h
   .rename_i hb
    obtain⟨k1,k2⟩:=ir hc hl hb;obtain⟨m1,m2⟩:=As hx k1 h;refine⟨m1,fun p hp=>?_⟩;obtain⟨n1,n2⟩:=m2 p hp;obtain⟨o1,o2⟩:=(k2 p).1 n1;exact⟨o1,by rw[Tr.val_pos o2,n2]⟩
   .cases h
  .split at h
   .rename_i hb
    obtain⟨k1,k2⟩:=ir hc hl.rev hb;obtain⟨m1,m2⟩:=As hy k1 h;refine⟨m1,fun p hp=>?_⟩;obtain⟨n1,n2⟩:=m2 p hp;obtain⟨o1,o2⟩:=(k2 p).1 n1;rw[fh] at o2;exact⟨o1,by rw[Tr.val_neg va,n2]⟩
   .cases h
def Ht: ∀{t:Tr} {c:ar} {p:aa},t.all ah.ok->bG c->bw c p->cB t.lns p-> ∃b e,(b,e)∈t.parts c/\bw e p
 | .leaf v,c,p,_,_,hp,_=>⟨v,c,aY.2 J,hp⟩
 | .node l x y,c,p,⟨hl,hx,hy⟩,hc,hp,ho=>by
  have h0:=ho.l;rw[Tr.parts];by_cases h:0<l.value p
  .have hb:=(pO hc hl).2 ⟨p,hp,h⟩
   obtain⟨k1,k2⟩:=ir hc hl hb;obtain⟨b,e,m1,m2⟩:=Ht hx k1 ((k2 p).2 ⟨hp,h⟩) ho.x;exact⟨b,e,bJ _ (by rw[if_pos hb];exact m1),m2⟩
  .have h':0<l.rev.value p:=by rw[fh];grind
   have hb:=(pO hc hl.rev).2 ⟨p,hp,h'⟩;obtain⟨k1,k2⟩:=ir hc hl.rev hb;obtain⟨b,e,m1,m2⟩:=Ht hy k1 ((k2 p).2 ⟨hp,h'⟩) ho.y;exact⟨b,e,aM _ (by rw[if_pos hb];exact m1),m2⟩
def f7(t:Tr):List ar:=((t.parts []).filter (·.1)).map (·.2)
def tF{e:ar}:e∈f7 t↔(true,e)∈t.parts []:=by
 unfold f7;simp
def Uf{v k:Rat}(hk:k<0)(hv:0<v):0< -(v/k):=by
 have e: -(v/k)* -k=v:=by grind
 exact(fB (k:= -k) va).1 (by rw[e];exact hv)
def gO:Tr->aa->aa->Bool×Bool
 | .leaf b,_,_=>(b,true)
 | .node l x y,p,v=>match (if(l.value p).num.sign=0 then(l.dir.cross v).num.sign else(l.value p).num.sign) with
  |1=>gO x p v
  | -1=>gO y p v
  |_=>(false,false)
def tv(l:ah)(v:aa):l.dir.cross v=l.nor.dot v:=by
 unfold ah.dir ah.nor aa.cross aa.dot;grind
def Gn(L:List ah)(p v:aa):Prop:= ∀l∈L,l.value p=0->l.nor.dot v≠0
def aJh(h:l.value p=0->l.nor.dot v≠0): ∃e:Rat,0<e/\ ∀d,0<d->d<=e->(0<l.value (cd p v d)↔0<l.value p\/(l.value p=0/\0<l.nor.dot v))/\(l.value (cd p v d)<0↔l.value p<0\/(l.value p=0/\l.nor.dot v<0)):=by
 generalize hk:l.nor.dot v=k at*;by_cases h0:l.value p=0
 .have hk0:=h h0
  refine⟨1,pb,fun d h1 _=>?_⟩;rw[iC,hk,h0];rcases fG k with e|e|e
  .exact absurd e hk0
  .have:=bE h1 e;grind
  .have:=bE (a:=d) (b:= -k) h1 va;grind
 .have key: ∀w:Rat,0<w-> ∃e:Rat,0<e/\ ∀d,0<d->d<=e-> ∀j:Rat,(j=k\/j= -k)->0<w+d*j:=fun w hw=>by
   have hA: ∃A:Rat,0<A/\k<=A/\ -k<=A:=by
    rcases fG k with e|e|e
    .exact⟨1,pb,va,va⟩
    .exact⟨k,e,va,va⟩
    .exact⟨-k,va,va,va⟩
   obtain⟨A,a1,a2,a3⟩:=hA;refine⟨w/(2*A),?_,fun d d1 d2 j hj=>?_⟩
   .have e1:w/(2*A)*(2*A)=w:=by grind
    exact(fB (k:=2*A) va).1 (by rw[e1];exact hw)
   .have e1:w/(2*A)*(2*A)=w:=by grind
    generalize w/(2*A)=f at*;have h1:=cC (a:=f-d) (b:=A) va va;have h2:=cC (a:=d) (b:=A+j) va (by rcases hj with rfl|rfl<;>grind);grind
  rcases fG (l.value p) with e|e|e
  .exact absurd e h0
  .obtain⟨f,f1,f2⟩:=key _ e
   refine⟨f,f1,fun d d1 d2=>?_⟩;have:=f2 d d1 d2 k (.inl J);rw[iC,hk];grind
  .obtain⟨f,f1,f2⟩:=key (-l.value p) va
   refine⟨f,f1,fun d d1 d2=>?_⟩;have:=f2 d d1 d2 (-k) (.inr J);rw[iC,hk];grind
def BX: ∀{t:Tr} {p v:aa},Gn t.lns p v-> ∃e:Rat,0<e/\ ∀d,0<d->d<=e->cB t.lns (cd p v d)/\gO t p v=(t.val (cd p v d),true)
 | .leaf b,p,v,_=>⟨1,pb,fun d _ _=>⟨fun l hl=>(by cases hl),J⟩⟩
 | .node l x y,p,v,h=>by
  obtain⟨e1,a1,b1⟩:=aJh (h l aQ);obtain⟨e2,a2,b2⟩:=BX (t:=x) (p:=p) (v:=v) (fun m hm=>h m (aJ _ (bJ _ hm)));obtain⟨e3,a3,b3⟩:=BX (t:=y) (p:=p) (v:=v) (fun m hm=>h m (aJ _ (aM _ hm)));have hgn:=h l aQ;have hm: ∃e:Rat,0<e/\e<=e1/\e<=e2/\e<=e3:=by
   by_cases h1:e1<=e2
   .by_cases h2:e1<=e3
    .exact⟨e1,a1,va,h1,h2⟩
    .exact⟨e3,a3,va,va,va⟩
   .by_cases h2:e2<=e3
    .exact⟨e2,a2,va,va,h2⟩
    .exact⟨e3,a3,va,va,va⟩
  obtain⟨e,h0,h1,h2,h3⟩:=hm;refine⟨e,h0,fun d d1 d2=>?_⟩;obtain⟨c1,c2⟩:=b1 d d1 va;obtain⟨o2,w2⟩:=b2 d d1 va;obtain⟨o3,w3⟩:=b3 d d1 va;have hs:(if(l.value p).num.sign=0 then(l.dir.cross v).num.sign else(l.value p).num.sign)=if 0<l.value (cd p v d) then 1 else-1:=by
   rw[tv];by_cases hz:l.value p=0
   .rw[if_pos ((mm _).2 hz)]
    split
    .rename_i hp
     exact(nC _).2 (by rcases c1.1 hp with k|k;exact absurd k va;exact k.2)
    .rename_i hp
     have:l.nor.dot v<0:=by have:=hgn hz;have: ¬0<l.nor.dot v:=fun e=>hp (c1.2 (.inr ⟨hz,e⟩));grind
     exact Int.sign_eq_neg_one_iff_neg.2 (by have:=(rm _).2 this;rcases lU (l.nor.dot v).num 0 with q|q|q;exact q;rw[q] at this;simp at this;rw[eJ q] at this;simp at this)
   .rw[if_neg (fun e=>hz ((mm _).1 e))]
    split
    .rename_i hp
     exact(nC _).2 (by rcases c1.1 hp with k|k;exact k;exact absurd k.1 hz)
    .rename_i hp
     have:l.value p<0:=by have: ¬0<l.value p:=fun e=>hp (c1.2 (.inl e));grind
     exact Int.sign_eq_neg_one_iff_neg.2 (by have:=(rm _).2 this;rcases lU (l.value p).num 0 with q|q|q;exact q;rw[q] at this;simp at this;rw[eJ q] at this;simp at this)
  have hz:l.value (cd p v d)≠0:=fun e=>by
   rcases fG (l.value p) with q|q|q
   .rcases fG (l.nor.dot v) with r|r|r
    .exact hgn q r
    .have:=c1.2 (.inr ⟨q,r⟩);grind
    .have:=c2.2 (.inr ⟨q,r⟩);grind
   .have:=c1.2 (.inl q);grind
   .have:=c2.2 (.inl q);grind
  refine⟨fun m hm=>?_,?_⟩
  .rcases aV.1 hm with rfl|hm
   .exact hz
   .exact(aL.1 hm).elim (o2 m) (o3 m)
  .rw[gO,hs]
   by_cases hp:0<l.value (cd p v d)
   .rw[if_pos hp,Tr.val_pos hp];exact w2
   .rw[if_neg hp,Tr.val_neg hp];exact w3
def lO(p:aa):(p.half=1/\(0<p.y\/(p.y=0/\0<p.x)))\/(p.half=2/\(p.y<0\/(p.y=0/\p.x<0)))\/(p.half=0/\p.y=0/\p.x=0):=by
 unfold aa.half;simp only[kg,rm,mm];split
 .rename_i h;exact .inl ⟨rfl,h⟩
 .rename_i h
  split
  .rename_i h2
   exact .inr (.inl ⟨J,va⟩)
  .rename_i h2
   exact .inr (.inr ⟨J,va,va⟩)
def m8:p.half=1↔(0<p.y\/(p.y=0/\0<p.x)):=by
 rcases lO p with⟨h,k⟩|⟨h,k⟩|⟨h,k⟩<;>rw[h]<;>grind
def qg:p.half=2↔(p.y<0\/(p.y=0/\p.x<0)):=by
 rcases lO p with⟨h,k⟩|⟨h,k⟩|⟨h,k⟩<;>rw[h]<;>grind
def cA(u v:aa):Prop:=u.half<v.half\/(u.half=v.half/\0<u.cross v)
def nH:cE u v<0↔cA u v:=by
 unfold cE cA;split
 .rename_i h;exact⟨fun _=> .inl h,fun _=>by decide⟩
 .rename_i h
  split
  .rename_i h2;exact⟨fun e=>absurd e pb,fun e=>by omega⟩
  .rename_i h2
   have e:u.half=v.half:=by omega
   rw[<-kg];constructor
   .intro k;exact .inr ⟨e,m5⟩
   .rintro (k|⟨_,k⟩)
    .omega
    .omega
def bD(d:aa):aa:=⟨-d.x, -d.y⟩
def u7(h:d.half≠0):(bD d).half=3-d.half:=by
 rcases lO d with⟨e,k⟩|⟨e,k⟩|⟨e,k⟩
 .rw[e];exact qg.2 (by unfold bD;grind)
 .rw[e];exact m8.2 (by unfold bD;grind)
 .exact absurd e h
def iu(h:d.half≠0):d.half=1\/d.half=2:=by
 rcases lO d with⟨e,_⟩|⟨e,_⟩|⟨e,_⟩
 .exact .inl e
 .exact .inr e
 .exact absurd e h
def mc(ds:List aa)(u w:aa):Prop:=(cA u w/\ ∀d∈ds,¬(cA u d/\cA d w))\/((∀d∈ds,¬cA u d)/\ ∀d∈ds,¬cA d w)
structure wG (ds:List aa):Prop where
 nz: ∀d∈ds,d.half≠0
 neg: ∀d∈ds,bD d∈ds
def Mp(u:aa):u.cross u=0:=by unfold aa.cross;grind
def gv(u v:aa):v.cross u= -u.cross v:=by unfold aa.cross;grind
def nD(u v:aa):u.cross (bD v)= -u.cross v:=by unfold aa.cross bD;grind
def mc.spec(h:wG ds)(hu:u∈ds)(hw:w∈ds)(hn:mc ds u w):
  (u.half=w.half/\0<u.cross w/\ ∀d∈ds,¬(cA u d/\cA d w))\/(u.half≠w.half/\(∀d∈ds,d.half=u.half->0<=d.cross u)/\ ∀d∈ds,d.half=w.half->0<=w.cross d):=by
 have zu:=iu (h.nz u hu);have zw:=iu (h.nz w hw);rcases hn with⟨h1,h2⟩|⟨h1,h2⟩
 .rcases h1 with k|⟨k,k2⟩
  .refine .inr ⟨m5,fun d hd e=>?_,fun d hd e=>?_⟩
   .have:=h2 d hd
    rw[gv];by_cases hc:0<u.cross d
    .exact absurd ⟨.inr ⟨e.symm,hc⟩, .inl m5⟩ this
    .grind
   .have:=h2 d hd
    by_cases hc:0<d.cross w
    .exact absurd ⟨.inl m5, .inr ⟨e,hc⟩⟩ this
    .rw[gv] at hc;grind
  .exact .inl ⟨k,k2,h2⟩
 .have nu:=u7 (h.nz u hu)
  have a1:=h1 _ (h.neg u hu);have a2:=h2 _ (h.neg u hu);unfold cA at a1 a2;rw[nu] at a1 a2;refine .inr ⟨fun e=>?_,fun d hd e=>?_,fun d hd e=>?_⟩
  .rcases zu with z|z
   .exact a1 (.inl m5)
   .exact a2 (.inl m5)
  .have:=h1 d hd
   rw[gv];by_cases hc:0<u.cross d
   .exact absurd (.inr ⟨e.symm,hc⟩) this
   .grind
  .have:=h2 d hd
   by_cases hc:0<d.cross w
   .exact absurd (.inr ⟨e,hc⟩) this
   .rw[gv] at hc;grind
def mc.pos(h:wG ds)(hu:u∈ds)(hw:w∈ds)(hn:mc ds u w):0<=u.cross w:=by
 rcases hn.spec h hu hw with⟨_,h2,_⟩|⟨h1,h2,h3⟩
 .grind
 .have:=h3 _ (h.neg u hu) (by rw[u7 (h.nz u hu)];have:=iu (h.nz u hu);have:=iu (h.nz w hw);omega)
  rw[nD] at this;rw[gv];exact this
def iD(a b:Rat)(u w:aa):aa:=⟨a*u.x+b*w.x,a*u.y+b*w.y⟩
def Me:u.cross (iD a b u w)=b*u.cross w/\(iD a b u w).cross w=a*u.cross w:=by
 unfold aa.cross iD;constructor<;>grind
def Le(ha:0<a)(hb:0<b)(h:u.half=w.half)(hz:u.half≠0):(iD a b u w).half=u.half:=by
 rcases lO u with⟨e,k⟩|⟨e,k⟩|⟨e,k⟩
 .rw[e] at h⊢
  have k2:=m8.1 h.symm;refine m8.2 ?_;unfold iD;simp only;have p1: ∀z:Rat,0<z->0<a*z:=fun z hz=>bE ha hz;have p2: ∀z:Rat,0<z->0<b*z:=fun z hz=>bE hb hz;rcases k with k|⟨k,k'⟩<;>rcases k2 with l|⟨l,l'⟩
  .have:=p1 _ k;have:=p2 _ l;grind
  .have:=p1 _ k;rw[l];grind
  .have:=p2 _ l;rw[k];grind
  .have:=p1 _ k';have:=p2 _ l';rw[k,l];grind
 .rw[e] at h⊢
  have k2:=qg.1 h.symm;refine qg.2 ?_;unfold iD;simp only;have p1: ∀z:Rat,z<0->a*z<0:=fun z hz=>by have:=bE (a:=a) (b:= -z) ha va;grind
  have p2: ∀z:Rat,z<0->b*z<0:=fun z hz=>by have:=bE (a:=b) (b:= -z) hb va;grind
  rcases k with k|⟨k,k'⟩<;>rcases k2 with l|⟨l,l'⟩
  .have:=p1 _ k;have:=p2 _ l;grind
  .have:=p1 _ k;rw[l];grind
  .have:=p2 _ l;rw[k];grind
  .have:=p1 _ k';have:=p2 _ l';rw[k,l];grind
 .exact absurd e hz
def mc.none(h:wG ds)(hu:u∈ds)(hw:w∈ds)(hn:mc ds u w)(hc:u.cross w≠0)(ha:0<a)(hb:0<b):iD a b u w∉ds:=fun hd=>by
 have hp:=hn.pos h hu hw;have hp:0<u.cross w:=by grind
 obtain⟨c1,c2⟩:=Me (a:=a) (b:=b) (u:=u) (w:=w);have d1:0<u.cross (iD a b u w):=by rw[c1];exact bE hb hp
 have d2:0<(iD a b u w).cross w:=by rw[c2];exact bE ha hp
 have zu:=iu (h.nz u hu);have zw:=iu (h.nz w hw);have zd:=iu (h.nz _ hd);rcases hn.spec h hu hw with⟨h1,_,h3⟩|⟨h1,h2,h3⟩
 .have e:=Le ha hb h1 (h.nz u hu)
  exact h3 _ hd ⟨.inr ⟨e.symm,d1⟩, .inr ⟨e.trans h1,d2⟩⟩
 .rcases(show(iD a b u w).half=u.half\/(iD a b u w).half=w.half by omega) with e|e
  .have:=h2 _ hd e
   rw[gv] at this;grind
  .have:=h3 _ hd e
   rw[gv] at this;grind
def wW(h:e.cross d=0)(hp:0<e.dot d): ∃g:Rat,0<g/\e=⟨g*d.x,g*d.y⟩:=by
 have hd:0<d.dot d:=by
  unfold aa.dot at*;have h1:=ug d.x;have h2:=ug d.y;rcases fG d.x with k|k|k
  .rcases fG d.y with l|l|l
   .rw[k,l] at hp;grind
   .have:=bE l l;grind
   .have:=bE (a:= -d.y) (b:= -d.y) va va;grind
  .have:=bE k k;grind
  .have:=bE (a:= -d.x) (b:= -d.x) va va;grind
 have key:e.x*d.dot d=e.dot d*d.x/\e.y*d.dot d=e.dot d*d.y:=by
  unfold aa.dot aa.cross at*;constructor<;>grind
 have hg:e.dot d/d.dot d*d.dot d=e.dot d:=by grind
 refine⟨e.dot d/d.dot d,(fB hd).1 (by rw[hg];exact hp),?_⟩;generalize e.dot d/d.dot d=g at*;have x1:e.x=g*d.x:=by
  have:(e.x-g*d.x)*d.dot d=0:=by rw[<-hg] at key;grind
  have hz:d.dot d≠0:=by grind
  grind
 have x2:e.y=g*d.y:=by
  have:(e.y-g*d.y)*d.dot d=0:=by rw[<-hg] at key;grind
  have hz:d.dot d≠0:=by grind
  grind
 rw[<-x1,<-x2]
def Ep(he:e.half≠0)(hu:u.half≠0)(hp:e.cross u=0):e.dot u≠0:=fun hz=>by
 have e1:e.x*(u.x*u.x+u.y*u.y)=0:=by unfold aa.dot aa.cross at*;grind
 have e2:e.y*(u.x*u.x+u.y*u.y)=0:=by unfold aa.dot aa.cross at*;grind
 have hu2:u.x*u.x+u.y*u.y≠0:=fun q=>by
  have h1:=ug u.x;have h2:=ug u.y;have x0:u.x=0:=by
   have:u.x*u.x=0:=by grind
   grind
  have y0:u.y=0:=by
   have:u.y*u.y=0:=by grind
   grind
  rcases lO u with⟨_,q⟩|⟨_,q⟩|⟨q,_⟩
  .grind
  .grind
  .exact hu q
 have x0:e.x=0:=by grind
 have y0:e.y=0:=by grind
 rcases lO e with⟨_,q⟩|⟨_,q⟩|⟨q,_⟩
 .grind
 .grind
 .exact he q
def mc.gen(h:wG ds)(hu:u∈ds)(hw:w∈ds)(hn:mc ds u w)(hc:u.cross w≠0)(ha:0<a)(hb:0<b): ∀d∈ds,d.cross (iD a b u w)≠0:=fun d hd hz=>by
 have hp:=hn.pos h hu hw;have hp:0<u.cross w:=by grind
 obtain⟨c1,c2⟩:=Me (a:=a) (b:=b) (u:=u) (w:=w);have d1:0<u.cross (iD a b u w):=by rw[c1];exact bE hb hp
 -- of d and its opposite, one points the same way
 have key: ∀e∈ds,e.cross (iD a b u w)=0->0<e.dot (iD a b u w)->False:=fun e he h1 h2=>by
  obtain⟨g,g1,g2⟩:=wW h1 h2;refine hn.none h hu hw hc (a:=g*a) (b:=g*b) (bE g1 ha) (bE g1 hb) ?_;have:iD (g*a) (g*b) u w=e:=by rw[g2];unfold iD;simp only[aa.mk.injEq];constructor<;>grind
  rw[this];exact he
 rcases fG (d.dot (iD a b u w)) with k|k|k
 .-- both 0: then d is 0, or the other is
  have hnz:=h.nz d hd;generalize iD a b u w=v at*;have e1:d.x*(v.x*v.x+v.y*v.y)=0:=by unfold aa.dot aa.cross at*;grind
  have e2:d.y*(v.x*v.x+v.y*v.y)=0:=by unfold aa.dot aa.cross at*;grind
  have hv:v.x*v.x+v.y*v.y≠0:=fun e=>by
   have h1:=ug v.x;have h2:=ug v.y;have x0:v.x=0:=by have:v.x*v.x=0:=va;grind
   have y0:v.y=0:=by have:v.y*v.y=0:=va;grind
   unfold aa.cross at d1;rw[x0,y0] at d1;grind
  have x0:d.x=0:=by grind
  have y0:d.y=0:=by grind
  rcases lO d with⟨_,q⟩|⟨_,q⟩|⟨q,_⟩
  .grind
  .grind
  .exact hnz q
 .exact key d hd hz k
 .refine key _ (h.neg d hd) ?_ ?_
  .unfold aa.cross bD at*;grind
  .unfold aa.dot bD at*;grind
def QL(d u:aa):d.cross (f9 u)=d.dot u:=by unfold aa.cross f9 aa.dot;grind
def mc.turn(h:wG ds)(hu:u∈ds)(hw:w∈ds)(hn:mc ds u w)(hc:u.cross w=0): ∀d∈ds,d.cross (f9 u)≠0:=fun d hd=>by
 have zu:=iu (h.nz u hu);have zw:=iu (h.nz w hw);rw[QL];rcases hn.spec h hu hw with⟨_,h2,_⟩|⟨h1,h2,h3⟩
 .rw[hc] at h2;exact absurd h2 pb
 have par: ∀e∈ds,e.half=u.half->e.cross u=0:=fun e he k=>by
  have a1:=h2 e he k;have a2:=h3 _ (h.neg e he) (by rw[u7 (h.nz e he)];omega);rw[nD] at a2
  -- w = -g u
  have hwu:w.cross u=0:=by rw[gv,hc];rfl
  have huw:w.dot u<0:=by
   rcases fG (w.dot u) with k0|k0|k0
   .exact absurd k0 (Ep (h.nz w hw) (h.nz u hu) hwu)
   .obtain⟨g,g1,g2⟩:=wW hwu k0
    exfalso;apply h1;rcases lO u with⟨x,q⟩|⟨x,q⟩|⟨x,q⟩
    .rw[x]
     refine(m8.2 ?_).symm;rw[g2];simp only;rcases q with q|⟨q,q'⟩
     .exact .inl (bE g1 q)
     .exact .inr ⟨by rw[q];grind,bE g1 q'⟩
    .rw[x]
     refine(qg.2 ?_).symm;rw[g2];simp only;rcases q with q|⟨q,q'⟩
     .have:=bE (a:=g) (b:= -u.y) g1 va;exact .inl va
     .have:=bE (a:=g) (b:= -u.x) g1 va;exact .inr ⟨by rw[q];grind,va⟩
    .exact absurd x (h.nz u hu)
   .exact k0
  obtain⟨g,g1,g2⟩:=wW (d:=u) (e:=bD w) (by unfold aa.cross bD at*;grind) (by unfold aa.dot bD at*;grind);have a3:0<= -(g*e.cross u):=by
   have e1:w=⟨-(g*u.x), -(g*u.y)⟩:=by
    have:=congrArg bD g2;unfold bD at this
    cases w
    simp only[Rat.neg_neg] at this;exact this
   rw[e1] at a2;unfold aa.cross at*;grind
  by_cases hz:0<e.cross u
  .have:=bE g1 hz;grind
  .grind
 have nzd: ∀e∈ds,e.half=u.half->e.dot u≠0:=fun e he k=>Ep (h.nz e he) (h.nz u hu) (par e he k);by_cases k:d.half=u.half
 .exact nzd d hd k
 .have:=nzd _ (h.neg d hd) (by rw[u7 (h.nz d hd)];have:=iu (h.nz d hd);omega)
  unfold aa.dot bD at*;grind
end Go.Sx
end
section
namespace Go.Sx
open Go
variable {P:Program}{ops:Array Oper}{Q:Exit->Act->World->Prop}
inductive OT where
 |z (π:List (Nat×Bool))
 |q (i:Nat) (t:OT)
 |a (i:Nat) (t:OT)
 |c (i:Nat) (t r:OT)
def OT.sz:OT->Nat
 | .z _=>0
 | .q _ t=>t.sz+1
 | .a _ t=>t.sz+1
 | .c _ t r=>t.sz+r.sz+1
def OT.d:OT->Nat
 | .z π=>π.length
 | .q _ t=>t.d+1
 | .a _ t=>t.d+1
 | .c _ t r=>Nat.max (t.d+1) r.d
section
variable {S:World->Prop}{π₂:List (Nat×Bool)}
end
section
variable {GB:Gh}{C:aG}{n:Nat}{fr fr':n5}{own own' own0 own1 own1':List lz}{bs bs0 bs1 bs1':List ke}{fd:List FD}{π₂:List (Nat×Bool)}{t r:OT}
end
end Go.Sx
end
section
namespace Go.Sx
open Go Go.Proofs Tryz
variable {c xs ys ls L:List ah}{l:ah}{k i d j s:Nat}{α β:Type}{a b:Tr}{z:Int}{ds:List Nat}{neg:Bool}{q:Rat}{p:aa}{ps:List aa}
variable {GB:Gh}
theorem yi(hc: ∀m∈c,LB m)(hl:LB l): ∀m∈c++[l],LB m:=by
 rw[sU];exact⟨hc,by simpa using hl⟩
theorem LB.rev{l:ah}(h:LB l):LB l.rev:=⟨⟨by rw[show l.rev.a= -l.a from J,jX];exact h.bl.a,by rw[show l.rev.b= -l.b from J,jX];exact h.bl.b,by rw[show l.rev.c= -l.c from J,jX];exact h.bl.c⟩⟩
def aE0(hc: ∀m∈c,LB m)(hok: ∀m∈c,m.ok)(hn:c.length<=900)(hl:LB l)(hlo:l.ok):PF GB prog 93 [.sl (c.map eL),eL l] (vI (vf c l)):=by
 have hcl:=xR c;refine fn func93 J J ntmps93 J J (fun C=>?_);refine sB J J<|ap (c.map eL) J J (eE _) J<|rf J J<|mz ((c++[l]).map eL) J omD (eE [l]) J<|cl J (Jn (c:=c++[l]) (yi hc hl) (n8 hok hlo) omg) J<|sB J J<|ap (c.map eL) J J (eE _) J<|cl J (BV (l:=l)) J<|rf J J<|mz ((c++[l.rev]).map eL) J omD (eE [l.rev]) J<|cl J (Jn (c:=c++[l.rev]) (yi hc hl.rev) (n8 hok hlo.rev) omg) J<|je 31 J J J (fun hg31=>?_) (fun hg31=>?_)
 .
  refine bb J J J (fun hc33=>?_) (fun hc33=>?_)
  .
   exact rz J (by show vI 0=vI _;congr 1;unfold vf;simp_all)
  .
   refine bb J J J (fun hc34=>?_) (fun hc34=>?_)
   .
    exact rz J (by show vI 1=vI _;congr 1;unfold vf;simp_all)
   .
    exact rz J (by simp[hg31] at hc34)
 .
  refine bb J J J (fun hc34=>?_) (fun hc34=>?_)
  .
   exact rz J (by simp[hg31] at hc34)
  .
   exact rz J (by show vI (-1)=vI _;congr 1;unfold vf;simp_all)
def GD{α:Type}{p:α->Bool}: ∀{xs:List α} {n:Nat},n<=xs.length->(∀j (h:j<xs.length),j<n->p xs[j]=true)->(∀h:n<xs.length,p xs[n]=false)->(xs.takeWhile p).length=n
 |[],n,h,_,_=>by simp at h;subst h;rfl
 |x::xs,0,_,_,h3=>by
  have:=h3 vb;simp only[pL] at this;simp[pK,this]
 |x::xs,n+1,h1,h2,h3=>by
  have hx:=h2 0 vb m5;simp only[pL] at hx;rw[pK,if_pos hx,aN];rw[GD (n:=n) (by simpa using h1) (fun j h hj=>by have:=h2 (j+1) omv m5;simpa using this) (fun h=>by have:=h3 omv;simpa using this)]
def SE{n:Nat}(h1:n<=xs.length)(h2: ∀j (h:j<xs.length),j<n->cE xs[j].dir l.dir<0)(h3: ∀h:n<xs.length,¬cE xs[n].dir l.dir<0):oI xs l=n:=
 GD h1 (fun j h hj=>decide_eq_true (h2 j h hj)) (fun h=>decide_eq_false (h3 h))
def YP{n:Nat}(hn:oI xs l=n)(h:n<xs.length)(e:xs[n]=l):ql xs l=xs:=by
 unfold ql;rw[hn,if_pos (by rw[aZ h,e])]
def Ow{n:Nat}(hn:oI xs l=n)(h: ∀h:n<xs.length,xs[n]≠l):ql xs l=xs.take n++l::xs.drop n:=by
 unfold ql;rw[hn,if_neg];intro e;obtain⟨h1,h2⟩:=aS.1 e;exact h h1 h2
def M4(xs:List ah)(n:Nat):dm 6 ((xs.map eL).take n):=fun d hd=>eE xs d (dS hd)
def K2(xs:List ah)(n m:Nat):dm 6 (((xs.map eL).take n).drop m):=fun d hd=>eE xs d (dS (gL hd))
def Qr(xs:List ah)(n m:Nat)(l:ah):dm 6 ([eL l]++((xs.map eL).take n).drop m):=fun d hd=>by
 rcases aL.1 hd with h|h
 .exact eE [l] d h
 .exact K2 xs n m d h
structure mI (c:List ah) (k:Nat) (xs:List ah):Prop where
 le:k<=c.length
 f:ow c (c.drop k) xs=jl c
 m: ∀m∈xs,m∈c
 n:xs.length<=k
def mI.skip(h:mI c k xs)(hk:k<c.length)(e:(gp c[k] c ao.all).isSome=false):mI c (k+1) xs:=by
 have:=h.f;rw[bV hk,ow,e] at this;exact⟨hk,this,h.m,by have:=h.n;omega⟩
def mI.ins(h:mI c k xs)(hk:k<c.length)(e:(gp c[k] c ao.all).isSome=true)(hy:ql xs c[k]=ys)(hl:ys.length<=xs.length+1):mI c (k+1) ys:=by
 have:=h.f;rw[bV hk,ow,e,if_pos J,hy] at this;refine⟨hk,this,fun m hm=>?_,by have:=h.n;omega⟩;rw[<-hy] at hm;rcases Kh.1 hm with rfl|hm
 .exact cK hk
 .exact h.m m hm
def mI.done(h:mI c k xs)(hk:k=c.length):jl c=xs:=by
 have:=h.f;rw[hk,fR,ow] at this;exact this.symm
def Jm(c:List ah):Bool:=if(((c.map eL).length:Nat):Int)=0 then true else decide ((0:Int)<((((jl c).map eL).length:Nat):Int))
def mI.nil(c:List ah):mI c 0 []:=⟨bK _,J,fun m hm=>absurd hm vb,bW _⟩
theorem omp{p:Prop}(h:p:=by rw[hys,bX,bY,gM,iT,bM (l:=xs.map eL) (i:=xs.length) vb];rfl):p:=h
theorem omu{p:Prop}(h:p:=by rw[hxl];exact hnl):p:=h
theorem omZ{p:Prop}(h:p:=by rw[hxl]):p:=h
def aHu(hc: ∀m∈c,LB m)(hok: ∀m∈c,m.ok)(hn:c.length<=1000):PF GB prog 165 [.sl (c.map eL)] (.tp [.sl ((jl c).map eL),vB (Jm c)]):=by
 have hcl:=xR c;refine fn (fu:=⟨16⟩) func165 J J ntmps165 J J (fun C=>?_);refine aj 11 (.d (vI (c.length:Nat))) J (by rw[hcl];rfl)<|gx J<|Bj 4 J<|lp (X:=List ah×Nat) (fun⟨xs,k⟩=>[(12, .d (vI (k:Nat))),(11, .d (vI (c.length:Nat))),(10, .d (.sl (c.map eL))),(0, .d (.sl (c.map eL))),(4, .d (.sl (xs.map eL)))]) (fun⟨xs,k⟩=>[]) (fun⟨xs,k⟩=>mI c k xs) (fun⟨xs,k⟩=>c.length-k) ⟨[],0⟩ J (mI.nil c) (fun _=>J) (fun⟨xs,k⟩ hk=>?_)
 try dsimp only at hk⊢
 have hS:=hk;refine br J J J (fun hc13=>?_) (fun hc13=>?_)
 .
  have hk:k<c.length:=by omega
  obtain⟨m,hm⟩: ∃m,m=c[k]:=⟨_,rfl⟩;haveI hmb:LB m:=hm▸hc _ (cK hk);have hmo:m.ok:=hm▸hok _ (cK hk);have hxl:=xR xs;have hxn:=hS.n;refine ix (fu:=⟨1⟩) _ J (xh hk) J<|aj 16 (.d (eL m)) J okN<|gx J<|cl J (T8 hc hok hn hk) J<|bb (fu2:=⟨8⟩) J J J (fun hc24=>?_) (fun hc24=>?_)
  .
   have hinv:mI c (k+1) xs:=hS.skip hk (by rw[<-xQ];simpa using hc24);exact at_ ⟨xs,k+1⟩ oms
  .
   have hyes:(gp c[k] c ao.all).isSome=true:=by rw[<-xQ];simpa using hc24
   refine mg (fu:=⟨6⟩) (X:=Unit) (fun _=>[(12, .d (vI (k:Nat))),(11, .d (vI (c.length:Nat))),(10, .d (.sl (c.map eL))),(0, .d (.sl (c.map eL))),(4, .d (.sl (xs.map eL))),(6, .ov 6 0),(9, .d (vI (oI xs m:Nat)))]) (fun _=>[(6,some (.o 136 [.d ((.v (.bool (decide (m.a<0))))), .d (dN m.a.natAbs), .d ((.v (.bool (decide (m.b<0))))), .d (dN m.b.natAbs), .d ((.v (.bool (decide (m.c<0))))), .d (dN m.c.natAbs)] true))]) (fun _=>True) [12,11,10,0,4,6,9] [6] rfl ?_ (fun _=>J) (fun _ _=>?_)
   .
    refine gx J<|lp (fu:=⟨6⟩) (X:=Nat) (fun n=>[(12, .d (vI (k:Nat))),(11, .d (vI (c.length:Nat))),(10, .d (.sl (c.map eL))),(0, .d (.sl (c.map eL))),(4, .d (.sl (xs.map eL))),(6, .ov 6 0),(9, .d (vI (n:Nat)))]) (fun n=>[(6,some (.o 136 [.d ((.v (.bool (decide (m.a<0))))), .d (dN m.a.natAbs), .d ((.v (.bool (decide (m.b<0))))), .d (dN m.b.natAbs), .d ((.v (.bool (decide (m.c<0))))), .d (dN m.c.natAbs)] true))]) (fun n=>n<=xs.length/\ ∀j (h:j<xs.length),j<n->cE xs[j].dir m.dir<0) (fun n=>xs.length-n) 0 J ⟨bK _,fun j _ hj=>absurd hj m5⟩ (fun _=>J) (fun n hk=>?_);obtain⟨n1,n2⟩:=hk;refine kC J J J J (fun hg28=>?_) (fun hg28=>?_)
    .
     refine ix _ J (xh) J<|?_;haveI:LB (xs[n]' m5):=hc _ (hS.m _ (cK _));refine cl J (vX (l:=xs[n]' m5)) J<|cl J (vX (l:=m)) J<|cl J (aFa (u:=(xs[n]' m5).dir) (v:=m.dir)) J<|br J J J (fun hc39=>?_) (fun hc39=>?_)
     .
      exact at_ (n+1) ⟨⟨m5,fun j h hj=>by by_cases q:j=n;(subst q;exact hc39);exact n2 j h m5⟩,m5⟩
     .
      have hidx:oI xs m=n:=SE n1 n2 (fun h=>hc39);exact at_ () trivial
    .
     have hidx:oI xs m=n:=SE n1 n2 (fun h=>absurd h m5);exact at_ () trivial
   .
    obtain⟨n,hnx⟩: ∃n,oI xs m=n:=⟨_,rfl⟩;rw[hnx];have hnl:n<=xs.length:=by rw[<-hnx];unfold oI;exact(List.takeWhile_sublist _).length_le
    have hcb: ∀m∈xs,LB m:=fun m hm=>hc m (hS.m m hm);refine kC J J J J (fun hg45=>?_) (fun hg45=>?_)
    .
     refine ix _ J (xh) J<|cl J (x9 (l:=xs[n]' m5) (m:=m) (hl:=hcb _ (cK m5))) J<|br J J J (fun hc54=>?_) (fun hc54=>?_)
     .
      have hn46:n<xs.length:=by omega
      have hinv:mI c (k+1) xs:=hS.ins hk hyes (by rw[<-hm];exact YP hnx hn46 ((AO _ m).1 hc54)) m5;exact at_ ⟨xs,k+1⟩ oms
     .
      have hnew: ∀h:n<xs.length,xs[n]≠m:=fun h e=>hc54 ((AO _ m).2 e);obtain⟨ys,hys⟩: ∃ys,ys=xs.take n++m::xs.drop n:=⟨_,rfl⟩;have hinv:mI c (k+1) ys:=hS.ins hk hyes (by rw[<-hm,Ow hnx hnew,hys]) (by rw[hys];simp;omega);refine s3 n _ J J J J (eE _) omu J<|ro J J<|kt n xs.length _ J J omZ J (eE _) hnl m5 J<|ap _ J J (K2 _ _ _) J<|mz (hv:=by simp only[ak];exact⟨v6,m5⟩) (ho:=fun _=>⟨M4 _ _,vb⟩) (ys.map eL) J omp (Qr _ _ _ _) J<|at_ ⟨ys,k+1⟩ oms
    .
     have hnew: ∀h:n<xs.length,xs[n]≠m:=fun h=>absurd h m5;obtain⟨ys,hys⟩: ∃ys,ys=xs.take n++m::xs.drop n:=⟨_,rfl⟩;have hinv:mI c (k+1) ys:=hS.ins hk hyes (by rw[<-hm,Ow hnx hnew,hys]) (by rw[hys];simp;omega);refine s3 n _ J J J J (eE _) omu J<|ro J J<|kt n xs.length _ J J omZ J (eE _) hnl m5 J<|ap _ J J (K2 _ _ _) J<|mz (hv:=by simp only[ak];exact⟨v6,m5⟩) (ho:=fun _=>⟨M4 _ _,vb⟩) (ys.map eL) J omp (Qr _ _ _ _) J<|at_ ⟨ys,k+1⟩ oms
 .
  have hfin:jl c=xs:=hS.done (by have:=hS.le;omega);refine cs 71 J J J (fun hg71=>?_) (fun hg71=>?_)
  .
   exact rz J (by rw[Jm,if_pos hg71,hfin];rfl)
  .
   exact rz J (by rw[Jm,if_neg hg71,hfin];rfl)
section
variable (c:α->α->Int)
def dw(x:α):List α->List α
 |[]=>[x]
 |u::t=>if c u x<0 then u::dw x t else if c u x=0 then u::t else x::u::t
def mf(x:α)(xs:List α):Nat:=(xs.takeWhile fun u=>decide (c u x<0)).length
def BP(x:α)(xs:List α):mf c x xs<=xs.length:=(List.takeWhile_sublist _).length_le
def th{x:α}{xs:List α}{n:Nat}(h1:n<=xs.length)(h2: ∀j (h:j<xs.length),j<n->c xs[j] x<0)(h3: ∀h:n<xs.length,¬c xs[n] x<0):mf c x xs=n:=
 GD h1 (fun j h hj=>decide_eq_true (h2 j h hj)) (fun h=>decide_eq_false (h3 h))
theorem ozj{p:Prop}(h:p:=by simpa using hu):p:=h
def z7{x:α}: ∀{xs:List α} {n:Nat},mf c x xs=n->(h:n<xs.length)->c xs[n] x=0->dw c x xs=xs
 |[],n,_,h,_=>by simp at h
 |u::t,n,hn,h,e=>by
  rw[dw];unfold mf at hn;rw[pK] at hn;by_cases hu:c u x<0
  .rw[if_pos hu]
   rw[if_pos ozj] at hn;obtain⟨k,rfl⟩: ∃k,n=k+1:=⟨n-1,by simp at hn;omega⟩;rw[z7 (xs:=t) (n:=k) (by unfold mf;simpa using hn) omv (by simpa using e)]
  .rw[if_neg ozj] at hn
   simp at hn;subst hn;rw[if_neg hu,if_pos (by simpa using e)]
def rO{x:α}: ∀{xs:List α} {n:Nat},mf c x xs=n->(∀h:n<xs.length,c xs[n] x≠0)->dw c x xs=xs.take n++x::xs.drop n
 |[],n,hn,_=>by simp[mf] at hn;subst hn;rfl
 |u::t,n,hn,e=>by
  rw[dw];unfold mf at hn;rw[pK] at hn;by_cases hu:c u x<0
  .rw[if_pos hu]
   rw[if_pos ozj] at hn;obtain⟨k,rfl⟩: ∃k,n=k+1:=⟨n-1,by simp at hn;omega⟩;rw[rO (xs:=t) (n:=k) (by unfold mf;simpa using hn) (fun h=>by have:=e omv;simpa using this)];simp
  .rw[if_neg ozj] at hn
   simp at hn;subst hn;have:=e vb;rw[if_neg hu,if_neg (by simpa using this)];rfl
def Eq(x:α): ∀(xs:List α),(dw c x xs).length<=xs.length+1
 |[]=>bW _
 |u::t=>by
  have:=Eq x t;rw[dw];split
  .simp;omega
  .split<;>simp
def II{x y:α}: ∀{xs:List α},y∈dw c x xs->y=x\/y∈xs
 |[],h=>by rw[dw,aY] at h;exact .inl h
 |u::t,h=>by
  rw[dw] at h;split at h
  .rcases aV.1 h with rfl|h
   .exact .inr aQ
   .rcases II h with h|h
    .exact .inl h
    .exact .inr (aJ _ h)
  .split at h
   .exact .inr h
   .rcases aV.1 h with rfl|h
    .exact .inl J
    .exact .inr h
def s6(l:List α):List α:=l.foldl (fun out x=>dw c x out) []
def FR: ∀(l o:List α),(l.foldl (fun out x=>dw c x out) o).length<=l.length+o.length
 |[],o=>by simp
 |x::t,o=>by
  have:=FR t (dw c x o);have:=Eq c x o;simp only[jN,aN];omega
def Cs{y:α}: ∀{l o:List α},y∈l.foldl (fun out x=>dw c x out) o->y∈l\/y∈o
 |[],o,h=> .inr h
 |x::t,o,h=>by
  rcases Cs (l:=t) h with h|h
  .exact .inl (aJ _ h)
  .rcases II c h with rfl|h
   .exact .inl aQ
   .exact .inr h
end
def yZ{x:Rat}: ∀{l:List Rat},lP x l=dw bB x l
 |[]=>rfl
 |u::t=>by
  have e1:bB u x<0↔u<x:=DL u x;have e2:bB u x=0↔u=x:=Ce u x;rw[lP,dw,yZ (l:=t)];by_cases h:u<x
  .rw[if_pos h,if_pos (e1.2 h)]
  .rw[if_neg h,if_neg (fun e=>h (e1.1 e))]
   by_cases h2:u=x
   .rw[if_pos h2,if_pos (e2.2 h2)]
   .rw[if_neg h2,if_neg (fun e=>h2 (e2.1 e))]
def wc{f:α->β}{l:List α}{x:α}(h:l[k]? =some x):(l.take k).map f++[f x]=(l.take (k+1)).map f:=by
 rw[dT,h,bX];rfl
def RS{a:Nat}[ha:BN a i](hi:i<=400000000:=by decide):PF GB prog 66 [dN a] (dN a):=by
 have hl:=ck (dg a);have hb:=lx ha.h;refine fn func66 J J ntmps66 J J (fun C=>?_);refine sB J J<|ap ((dg a).map dU) J J (sO _) J<|iH 5 J<|rz J J
def DP[hz:BI z i](hi:i<=400000000:=by decide):PF GB prog 65 [eI z] (eI z):=by
 refine fn func65 J J ntmps65 J J (fun C=>?_);refine cl J (RS (a:=z.natAbs) (i:=i) (ha:=⟨hz.h⟩) hi) J<|rz J J
def aLW(hl:BL l 96):PF GB prog 133 [eL l] (eL l):=by
 haveI h1:BI l.a 96:=⟨hl.a⟩;haveI h2:BI l.b 96:=⟨hl.b⟩;haveI h3:BI l.c 96:=⟨hl.c⟩;refine fn func133 J J ntmps133 J J (fun C=>?_);refine cl J (DP (z:=l.a)) J<|cl J (DP (z:=l.b)) J<|cl J (DP (z:=l.c)) J<|rz J J
def aBm(h:ds[ds.length-1]? =some d):gi ds↔ ¬((d:Int)=0):=by
 unfold gi;rw[oY,h];simp
def SA(hn:ds.length<=1000000):PF GB prog 311 [et ds] (vB (decide (gi ds))):=by
 have hm:=ck ds;refine fn (fu:=⟨9⟩) func311 J J ntmps311 J J (fun C=>?_);refine aj 4 (.d (vI (ds.length:Nat))) J oml<|gx (fu:=⟨0⟩) J<|kC (fu2:=⟨4⟩) J J J J (fun hg5=>?_) (fun hg5=>?_)
 .
  exact rz rfl (by obtain rfl:ds=[]:=cJ m5;show DV.v (.bool _)= .v (.bool _);congr 2<;>exact(decide_eq_true (by intro h;cases h)).symm)
 .
  obtain⟨d,hd⟩: ∃d,ds[ds.length-1]? =some d:=⟨_,aZ m5⟩;refine aj 9 (.d (vI (ds.length:Nat))) J oml<|gx J<|ix _ J (by rw[show(((ds.length:Nat):Int)-1).toNat=ds.length-1 by omega,cZ,hd];rfl) J<|?_;exact rz J (by show DV.v (.bool _)= .v (.bool _);congr 2;exact decide_eq_decide.2 (aBm hd).symm)
theorem omM{p:Prop}(h:p:=by show DV.v (.bool _)= .v (.bool _);congr 2;unfold uS;simp_all):p:=h
def Js(hn:ds.length<=1000000):PF GB prog 281 [.ag [.v (.bool neg),et ds]] (vB (decide (uS neg ds))):=by
 have hm:=ck ds;refine fn func281 J J ntmps281 J J (fun C=>?_);by_cases hN:gi ds
 .
  refine cl (fu:=⟨0⟩) J (SA hn) J<|aj 5 (.d (vB true)) J (by rw[decide_eq_true hN])<|mo 5 J<|gx J<|je (fu2:=⟨3⟩) 10 J J J (fun hg10=>?_) (fun hg10=>?_)
  .
   exact rz J omM
  .
   refine aj 13 (.d (vI (ds.length:Nat))) J oml<|gx J<|rz J omM
 .
  refine cl (fu:=⟨0⟩) J (SA hn) J<|aj 5 (.d (vB false)) J (by rw[decide_eq_false hN])<|p6 5 J<|gx J<|rz J omM
def To(hd:bF ds)(hn:ds.length<=1000000):PF GB prog 301 [et ds] (dN (dv ds)):=by
 have hm:=ck ds;refine fn func301 J J ntmps301 J J (fun C=>?_);refine sB J J<|ap (ds.map dU) J J (sO _) J<|fz 5 J J<|cl J (ub (ds:=ds)) J<|rz J (by unfold dN;rw[CE hd];rfl)
def DW(hd:bF ds)(hn:ds.length<=1000000):PF GB prog 282 [.ag [.v (.bool neg),et ds]] (eI (sh neg ds)):=by
 refine fn func282 J J ntmps282 J J (fun C=>?_);refine cl J (To hd hn) J<|cl J lI J<|rz J J
def Fb(r:RL):DV:= .tp [if r.nm then eL r.l else .ag [.v (.bool false), .sl [], .v (.bool false), .sl [], .v (.bool false), .sl []],vB (decide (r.nm/\r.l.ok))]
def aJP{a b:Nat}(h:jy a b=0):a=b:=by
 unfold jy at h;split at h
 .cases h
 .split at h
  .assumption
  .cases h
def Kn:l.ok↔0<Nat.gcd l.a.natAbs l.b.natAbs/\Nat.gcd (Nat.gcd l.a.natAbs l.b.natAbs) l.c.natAbs=1:=by
 unfold ah.ok;refine and_congr ?_ Iff.rfl;rw[Nat.pos_iff_ne_zero,ne_eq,Nat.gcd_eq_zero_iff];simp only[lZ]
def aIh{r:RL}(s:r.sm)(h:r.nm):PF GB prog 224 [r.d] (Fb r):=by
 haveI:=RL.lb s;haveI ba:BN r.l.a.natAbs 96:=⟨(LB.a r.l).h⟩;haveI bb':BN r.l.b.natAbs 96:=⟨(LB.b r.l).h⟩;haveI bc:BN r.l.c.natAbs 96:=⟨(LB.c r.l).h⟩;obtain⟨g,hg⟩: ∃g,g=Nat.gcd r.l.a.natAbs r.l.b.natAbs:=⟨_,rfl⟩;haveI bg:BN g 96:=hg▸⟨Kb ba.h bb'.h⟩;have bgc:=Kb bg.h bc.h;have hgl:=lx bg.h;refine fn func224 J J ntmps224 J J (fun C=>?_);refine cl (fu:=⟨0⟩) J (Js (neg:=r.na) (ds:=r.da) (by have:=s.a.2;omega)) J<|c9 J (by show some (!decide _)=some false;rw[decide_eq_true h.1];rfl) J<|cl (fu:=⟨0⟩) J (Js (neg:=r.nb) (ds:=r.db) (by have:=s.b.2;omega)) J<|c9 J (by show some (!decide _)=some false;rw[decide_eq_true h.2.1];rfl) J<|cl (fu:=⟨0⟩) J (Js (neg:=r.nc) (ds:=r.dc) (by have:=s.c.2;omega)) J<|c9 J (by show some (!decide _)=some false;rw[decide_eq_true h.2.2];rfl) J<|cl J (DW (neg:=r.na) (ds:=r.da) s.a.1 (by have:=s.a.2;omega)) J<|cl J (DW (neg:=r.nb) (ds:=r.db) s.b.1 (by have:=s.b.2;omega)) J<|cl J (DW (neg:=r.nc) (ds:=r.dc) s.c.1 (by have:=s.c.2;omega)) J<|cl (fu:=⟨0⟩) J (AI (a:=r.l.a.natAbs) (b:=r.l.b.natAbs)) J<|aj 39 (.d (dN g)) J (by rw[hg])<|gx (fu:=⟨8⟩) J<|aj 42 (.d (vI ((dg g).length:Nat))) J (by rw[ck]<;>rfl)<|gx (fu:=⟨0⟩) J<|kC (v2:=fun hg43=>by simp only[ak];kernel_rfl) J J J J (fun hg43=>?_) (fun hg43=>?_)
 .
  refine cl J (AI (a:=g) (b:=r.l.c.natAbs)) J<|cl J Dk J<|cl J (yD (a:=Nat.gcd g r.l.c.natAbs) (b:=1) (by have:=lx bgc;omega) (by have:=lx (show 1<2^32 by decide);omega)) J<|rz J (by unfold Fb;rw[if_pos h,show decide (r.nm/\r.l.ok)=decide (jy (Nat.gcd g r.l.c.natAbs) 1=0) from decide_eq_decide.2 ⟨fun e=>HQ (by rw[hg];exact(Kn.1 e.2).2),fun e=>⟨h,Kn.2 ⟨by rw[<-hg];exact w9.1 m5,by rw[<-hg];exact aJP e⟩⟩⟩];rfl)
 .
  exact rz J (by unfold Fb;rw[if_pos h,show decide (r.nm/\r.l.ok)=false from decide_eq_false fun e=>by(have h1:=(Kn.1 e.2).1;rw[<-hg] at h1;have:=w9.2 h1;omega)];rfl)
def V9{n:Nat}[h:BN n i](hi:i<=20000000:=by decide):PF GB prog 301 [dN n] (dN n):=by
 have hl:=lx h.h;have:=To (GB:=GB) (ds:=dg n) (ik n) m5;rw[dG,<-Lk] at this;exact this
def ZH(z:Int):sh (decide (z<0)) (dg z.natAbs)=z:=by
 unfold sh;rw[dG];split<;>(rename_i h;simp at h;omega)
def aMW[h:BI z i](hi:i<=20000000:=by decide):PF GB prog 282 [eI z] (eI z):=by
 have hl:=lx h.h;have:=DW (GB:=GB) (neg:=decide (z<0)) (ds:=dg z.natAbs) (ik _) m5;rw[ZH,<-Lk] at this;exact this
def aMI{n:Nat}(h:0<n): ¬((((dg n).map dU).length:Nat):Int)=0:=by
 rw[aX];have:=wh (n:=n);omega
instance BQ.m1':BQ (((-1:Int):Int):Rat) 2:=⟨pb,pb⟩
instance BQ.m1:BQ (-1:Rat) 2:=⟨pb,pb⟩
def Qb[h:BQ q i](hi:i<=20000000:=by decide):PF GB prog 261 [eR q] (eQ q):=by
 have hd:=q.den_pos;refine fn func261 J J ntmps261 J J (fun C=>?_);refine cl (fu:=⟨8⟩) J (V9 (n:=q.den) hi) J<|c9 J (oma (aMI hd)) J<|cl J (aMW (z:=q.num) hi) J<|cl J (xO (x:=q.num) (d:=q.den) hd m5 m5) J<|rz J (by rw[qY];rfl)
def Ud[h:BQ q i](hi:i<=400000000:=by decide):PF GB prog 22 [eQ q] (eR q):=by
 refine fn func22 J J ntmps22 J J (fun C=>?_);refine cl J (DP (z:=q.num) hi) J<|cl J (lA (q:=q)) J<|cl J (RS (a:=q.den) hi) J<|rz J J
def Xu[h:aC p i](hi:i<=20000000:=by decide):PF GB prog 202 [oc p] (eP p):=by
 refine fn func202 J J ntmps202 J J (fun C=>?_);refine cl J (Qb (q:=p.x) hi) J<|cl J (Qb (q:=p.y) hi) J<|rz J J
def TR[h:aC p i](hi:i<=20000:=by decide):PF GB prog 12 [eP p] (oc p):=by
 refine fn func12 J J ntmps12 J J (fun C=>?_);refine cl J (Ud (q:=p.x) (i:=i) m5) J<|cl J (Ud (q:=p.y) (i:=i) m5) J<|rz J J
def fy(f:α->DV)(l:List α):(l.map f).length=l.length:=aX ..
def Sm(ps:List aa):dm 6 (ps.map eP):=fun d hd=>by
 obtain⟨u,_,rfl⟩:=aT.1 hd;exact⟨rfl,rfl⟩
def Xi(ps:List aa):dm 6 (ps.map oc):=fun d hd=>by
 obtain⟨u,_,rfl⟩:=aT.1 hd;exact⟨rfl,rfl⟩
def aLO(hb: ∀p∈ps,aC p 1200)(hn:ps.length<=1000000):PF GB prog 120 [.sl (ps.map oc)] (.sl (ps.map eP)):=by
 have hm:=fy oc ps;refine fn (fu:=⟨15⟩) func120 J J ntmps120 J J (fun C=>?_);refine aj 7 (.d (vI (ps.length:Nat))) J oml<|gx J<|nr 3 3 36 6 J J J<|lp (X:=Nat) (fun k=>[(8, .d (vI (k:Nat))),(3, .rw 3)]) (fun k=>[(3,some (.b 36 6 ((ps.take k).map eP) true))]) (fun k=>k<=ps.length) (fun k=>ps.length-k) 0 J (bK _) (fun _=>J) (fun k hk=>?_);have hml:=fy eP (ps.take k);rw[bL] at hml;refine br J J J (fun hc9=>?_) (fun hc9=>?_)
 .
  obtain⟨z,hz⟩: ∃s,ps[k]? =some s:=⟨_,aZ m5⟩;have hzm:=aW hz;refine ix _ J (cO hz) J<|cl J (Xu (p:=z) (h:=hb z hzm)) J<|rf J J<|ap ((ps.take (k+1)).map eP) J (wc hz) (Sm [z]) J<|fI 16 3 J<|at_ (k+1) ⟨m5,m5⟩
 .
  obtain rfl:k=ps.length:=by omega
  refine iH 3 J<|rz J (by rw[dX];rfl)
def Qe(hb: ∀p∈ps,aC p 1200)(hn:ps.length<=1000000):PF GB prog 11 [.sl (ps.map eP)] (.sl (ps.map oc)):=by
 have hm:=fy eP ps;refine fn (fu:=⟨15⟩) func11 J J ntmps11 J J (fun C=>?_);refine aj 7 (.d (vI (ps.length:Nat))) J oml<|gx J<|nr 3 3 52 6 J J J<|lp (X:=Nat) (fun k=>[(8, .d (vI (k:Nat))),(3, .rw 3)]) (fun k=>[(3,some (.b 52 6 ((ps.take k).map oc) true))]) (fun k=>k<=ps.length) (fun k=>ps.length-k) 0 J (bK _) (fun _=>J) (fun k hk=>?_);have hml:=fy oc (ps.take k);rw[bL] at hml;refine br J J J (fun hc9=>?_) (fun hc9=>?_)
 .
  obtain⟨z,hz⟩: ∃s,ps[k]? =some s:=⟨_,aZ m5⟩;have hzm:=aW hz;refine ix _ J (cO hz) J<|cl J (TR (p:=z) (h:=hb z hzm)) J<|rf J J<|ap ((ps.take (k+1)).map oc) J (wc hz) (Xi [z]) J<|fI 16 3 J<|at_ (k+1) ⟨m5,m5⟩
 .
  obtain rfl:k=ps.length:=by omega
  refine iH 3 J<|rz J (by rw[dX];rfl)
def EO{q:aa}[hp:aC p i][hq:aC q j](hi:i<=100000:=by decide)(hj:j<=100000:=by decide):PF GB prog 32 [eP p,eP q] (eP (cd p q (-1))):=by
 refine fn func32 J J ntmps32 J J (fun C=>?_);refine cl J (lB (n:= -1)) J<|cl J (AA (p:=p) (q:=q) (c:=((-1:Int):Rat)) (i:=i) (j:=j) (k:=2) m5 m5) J<|rz J (by rw[show((-1:Int):Rat)= -1 from J];rfl)
def IS{a b c:aa}[ha:aC a i][hb:aC b j][hc:aC c k](hi:i<=80000:=by decide)(hj:j<=80000:=by decide)(hk:k<=80000:=by decide):PF GB prog 20 [eP a,eP b,eP c] (vI (s7 a b c)):=by
 refine fn func20 J J ntmps20 J J (fun C=>?_);refine cl J (EO (p:=b) (q:=a) (i:=j) (j:=i) m5 m5) J<|cl J (EO (p:=c) (q:=a) (i:=k) (j:=i) m5 m5) J<|cl J (JU (p:=cd b a (-1)) (q:=cd c a (-1)) m5 m5) J<|cl J (t6 (q:=(cd b a (-1)).cross (cd c a (-1)))) J<|rz J J
def rh(l:ah):Bool:=decide (l.a<0\/(l.a=0/\l.b<0))
def ah.canon(l:ah):ah:=if rh l then l.rev else l
def Bi(a:Int):a.sign<0↔a<0:=by
 rcases lU a 0 with h|h|h
 .rw[dY h];omega
 .subst h;simp
 .rw[eJ h];omega
def Oq(a:Int):a.sign=0↔a=0:=iX
def Nn(h:l.a<0\/(l.a=0/\l.b<0)):DV.tp [eL l.canon,vB (rh l)]= .tp [eL l.rev,vB true]:=by
 unfold ah.canon rh;rw[decide_eq_true h];rfl
def RM(h: ¬(l.a<0\/(l.a=0/\l.b<0))):DV.tp [eL l.canon,vB (rh l)]= .tp [eL l,vB false]:=by
 unfold ah.canon rh;rw[decide_eq_false h];rfl
def RT[hl:LB l]:PF GB prog 162 [eL l] (.tp [eL l.canon,vB (rh l)]):=by
 refine fn func162 J J ntmps162 J J (fun C=>?_);refine cl J (zZ (z:=l.a)) J<|cs 10 J J J (fun hg10=>?_) (fun hg10=>?_)
 .
  refine cl J (BV (l:=l)) J<|rz J (by rw[Nn (.inl ((Bi _).1 hg10))];rfl)
 .
  refine cs 13 J J J (fun hg13=>?_) (fun hg13=>?_)
  .
   refine cl J (zZ (z:=l.b)) J<|br J J J (fun hc19=>?_) (fun hc19=>?_)
   .
    refine cl J (BV (l:=l)) J<|rz J (by rw[Nn (.inr ⟨(Oq _).1 hg13,(Bi _).1 hc19⟩)];rfl)
   .
    exact rz J (by rw[RM (fun e=>e.elim (fun e=>hg10 ((Bi _).2 e)) (fun e=>hc19 ((Bi _).2 e.2)))];rfl)
  .
   exact rz J (by rw[RM (fun e=>e.elim (fun e=>hg10 ((Bi _).2 e)) (fun e=>hg13 ((Oq _).2 e.1)))];rfl)
instance LB.canon (l:ah) [h:LB l]:LB l.canon:=by unfold ah.canon;split;exact LB.rev h;exact h
def Mr(h:l.ok):l.canon.ok:=by unfold ah.canon;split;exact h.rev;exact h
def rG(c:β->β->Int)(g:α->β)(l:List α)(k:Nat):List β:=s6 c ((l.take k).map g)
section
variable {c:β->β->Int}{g:α->β}{l:List α}
def u9{x:α}(h:l[k]? =some x):rG c g l (k+1)=dw c (g x) (rG c g l k):=by
 unfold rG s6;rw[dT,h,pN,bX,oM];rfl
def Kr(h:k=l.length:=by omega):rG c g l k=s6 c (l.map g):=by unfold rG;rw[h,dX]
def Hb:(rG c g l k).length<=k:=by
 have:=FR c ((l.take k).map g) [];have h2:((l.take k).map g).length<=k:=by rw[aX,bL];omega
 rw[eK] at this;unfold rG s6;omega
def HX{y:β}(h:y∈rG c g l k): ∃x∈l,y=g x:=by
 rcases Cs c h with h|h
 .obtain⟨x,hx,rfl⟩:=aT.1 h
  exact⟨x,dS hx,J⟩
 .cases h
end
def ur{f:α->DV}(ok: ∀l:List α,dm s (l.map f))(xs:List α)(n:Nat):dm s ((xs.map f).take n):=fun d hd=>ok xs d (dS hd)
def rI{f:α->DV}(ok: ∀l:List α,dm s (l.map f))(xs:List α)(n m:Nat):dm s (((xs.map f).take n).drop m):=fun d hd=>ok xs d (dS (gL hd))
def sP{f:α->DV}(ok: ∀l:List α,dm s (l.map f))(xs:List α)(n m:Nat)(x:α):dm s ([f x]++((xs.map f).take n).drop m):=fun d hd=>by
 rcases aL.1 hd with h|h
 .exact ok [x] d h
 .exact rI ok xs n m d h
def p8{f:α->DV}{l:List α}(h:i<l.length:=by omega):(l.map f)[(i:Int).toNat]? =some (f l[i]):=by
 rw[cX,cZ,aZ h];rfl
def mr(ls:List ah):List ah:=s6 fm (ls.map ah.canon)
def FJ{y:ah}(h:y∈mr ls): ∃x∈ls,y=x.canon:=by
 rcases Cs fm h with h|h
 .obtain⟨x,hx,rfl⟩:=aT.1 h;exact⟨x,hx,rfl⟩
 .cases h
theorem omo{p:Prop}(h:p:=by dsimp only;exact⟨⟨by rw[u9 hz,<-hS,<-hmc];exact hin.symm,m5⟩,m5⟩):p:=h
theorem okU{p:Prop}(h:p:=by rw[hfin];rfl):p:=h
def auP(hb: ∀p∈ls,LB p)(hn:ls.length<=100000):PF GB prog 86 [.sl (ls.map eL)] (.sl ((mr ls).map eL)):=by
 have hm':=fy eL ls;refine fn (fu:=⟨15⟩) func86 J J ntmps86 J J (fun C=>?_);refine aj 8 (.d (vI (ls.length:Nat))) J (by rw[hm'];rfl)<|gx J<|Bj 3 J<|lp (X:=List ah×Nat) (fun⟨xs,k⟩=>[(9, .d (vI (k:Nat))),(8, .d (vI (ls.length:Nat))),(7, .d (.sl (ls.map eL))),(0, .d (.sl (ls.map eL))),(3, .d (.sl (xs.map eL)))]) (fun⟨xs,k⟩=>[]) (fun⟨xs,k⟩=>xs=rG fm ah.canon ls k/\k<=ls.length) (fun⟨xs,k⟩=>ls.length-k) ⟨[],0⟩ J ⟨J,bK _⟩ (fun _=>J) (fun⟨xs,k⟩ hk=>?_)
 try dsimp only at hk⊢
 obtain⟨hS,hkl⟩:=hk;refine br J J J (fun hc10=>?_) (fun hc10=>?_)
 .
  have hk:k<ls.length:=by omega
  obtain⟨z,hm⟩: ∃m,m=ls[k]:=⟨_,rfl⟩;have hz:ls[k]? =some z:=by rw[hm];exact aZ hk
  haveI hzb:LB z:=hm▸hb _ (cK hk);obtain⟨m,hmc⟩: ∃m,m=z.canon:=⟨_,rfl⟩;haveI hmb:LB m:=by rw[hmc];infer_instance
  have hxl:=fy eL xs;have hxn:xs.length<=k:=by rw[hS];exact Hb
  have hxb: ∀q∈xs,LB q:=fun q hq=>by rw[hS] at hq;obtain⟨z,hz,rfl⟩:=HX hq;haveI:=hb z hz;infer_instance
  refine ix (fu:=⟨1⟩) _ J (p8 hk) J<|aj 12 (.d (eL z)) J okN<|gx J<|cl (fu:=⟨2⟩) J (RT (l:=z)) J<|aj 16 (.d (eL m)) J (by rw[hmc])<|gx (fu:=⟨10⟩) J<|mg (fu:=⟨5⟩) (X:=Unit) (fun _=>[(9, .d (vI (k:Nat))),(8, .d (vI (ls.length:Nat))),(7, .d (.sl (ls.map eL))),(0, .d (.sl (ls.map eL))),(3, .d (.sl (xs.map eL))),(5, .ov 5 0),(6, .d (vI (mf fm m xs:Nat)))]) (fun _=>[(5,some (.o 136 [.d ((.v (.bool (decide (m.a<0))))), .d (dN m.a.natAbs), .d ((.v (.bool (decide (m.b<0))))), .d (dN m.b.natAbs), .d ((.v (.bool (decide (m.c<0))))), .d (dN m.c.natAbs)] true))]) (fun _=>True) [9,8,7,0,3,5,6] [5] rfl ?_ (fun _=>J) (fun _ _=>?_)
  .
   refine gx J<|lp (fu:=⟨6⟩) (X:=Nat) (fun n=>[(9, .d (vI (k:Nat))),(8, .d (vI (ls.length:Nat))),(7, .d (.sl (ls.map eL))),(0, .d (.sl (ls.map eL))),(3, .d (.sl (xs.map eL))),(5, .ov 5 0),(6, .d (vI (n:Nat)))]) (fun n=>[(5,some (.o 136 [.d ((.v (.bool (decide (m.a<0))))), .d (dN m.a.natAbs), .d ((.v (.bool (decide (m.b<0))))), .d (dN m.b.natAbs), .d ((.v (.bool (decide (m.c<0))))), .d (dN m.c.natAbs)] true))]) (fun n=>n<=xs.length/\ ∀j (h:j<xs.length),j<n->fm xs[j] m<0) (fun n=>xs.length-n) 0 J ⟨bK _,fun j _ hj=>absurd hj m5⟩ (fun _=>J) (fun n hk=>?_);obtain⟨n1,n2⟩:=hk;refine kC (v2:=fun hg21=>by simp only[ak];kernel_rfl) J J J J (fun hg21=>?_) (fun hg21=>?_)
   .
    refine ix _ J (p8) J<|cl J (x9 (l:=xs[n]' m5) (m:=m) (hl:=hxb _ (cK m5)) (hm:=hmb)) J<|br J J J (fun hc30=>?_) (fun hc30=>?_)
    .
     exact at_ (n+1) ⟨⟨m5,fun j h hj=>by by_cases q:j=n;(subst q;exact hc30);exact n2 j h m5⟩,m5⟩
    .
     have hidx:mf fm m xs=n:=th fm n1 n2 (fun h=>hc30);exact at_ () trivial
   .
    have hidx:mf fm m xs=n:=th fm n1 n2 (fun h=>absurd h m5);exact at_ () trivial
  .
   obtain⟨n,hnx⟩: ∃n,mf fm m xs=n:=⟨_,rfl⟩;rw[hnx];have hnl:n<=xs.length:=by rw[<-hnx];exact BP _ _ _
   refine kC (v1:=fun hg36=>by simp only[ak];kernel_rfl) J J J J (fun hg36=>?_) (fun hg36=>?_)
   .
    have hnew: ∀h:n<xs.length,fm xs[n] m≠0:=fun h=>absurd h m5;obtain⟨ys,hys⟩: ∃ys,ys=xs.take n++m::xs.drop n:=⟨_,rfl⟩;have hin:dw fm m xs=ys:=by rw[hys];exact rO fm hnx hnew
    have hyl:ys.length<=xs.length+1:=by rw[hys];simp;omega
    refine s3 n _ J J J J (eE _) omu J<|ro J J<|kt n xs.length _ J J omZ J (eE _) hnl m5 J<|ap _ J J (rI eE _ _ _) J<|mz (hv:=by simp only[ak];exact⟨v6,m5⟩) (ho:=fun _=>⟨ur eE _ _,vb⟩) (ys.map eL) J omp (sP eE _ _ _ _) J<|at_ ⟨ys,k+1⟩ omo
   .
    refine ix _ J (p8) J<|cl J (x9 (l:=xs[n]' m5) (m:=m) (hl:=hxb _ (cK m5)) (hm:=hmb)) J<|br J J J (fun hc45=>?_) (fun hc45=>?_)
    .
     have hnew: ∀h:n<xs.length,fm xs[n] m≠0:=fun h=>hc45;obtain⟨ys,hys⟩: ∃ys,ys=xs.take n++m::xs.drop n:=⟨_,rfl⟩;have hin:dw fm m xs=ys:=by rw[hys];exact rO fm hnx hnew
     have hyl:ys.length<=xs.length+1:=by rw[hys];simp;omega
     refine s3 n _ J J J J (eE _) omu J<|ro J J<|kt n xs.length _ J J omZ J (eE _) hnl m5 J<|ap _ J J (rI eE _ _ _) J<|mz (hv:=by simp only[ak];exact⟨v6,m5⟩) (ho:=fun _=>⟨ur eE _ _,vb⟩) (ys.map eL) J omp (sP eE _ _ _ _) J<|at_ ⟨ys,k+1⟩ omo
    .
     have hin:dw fm m xs=xs:=z7 fm hnx m5 (Decidable.not_not.1 hc45);exact at_ ⟨xs,k+1⟩ omo
 .
  have hfin:mr ls=xs:=by rw[hS,Kr];rfl
  exact rz J okU
def Db{α:Type}{c:α->α->Int}(hc: ∀u x,c u x=0->u=x){x y:α}: ∀{xs:List α},y=x\/y∈xs->y∈dw c x xs
 |[],h=>by
  rcases h with rfl|h
  .rw[dw];exact aY.2 J
  .cases h
 |u::t,h=>by
  rw[dw];split
  .rcases h with rfl|h
   .exact aJ _ (Db hc (.inl J))
   .rcases aV.1 h with rfl|h
    .exact aQ
    .exact aJ _ (Db hc (.inr h))
  .split
   .rename_i h0
    rcases h with rfl|h
    .rw[<-hc _ _ h0];exact aQ
    .exact h
   .rcases h with rfl|h
    .exact aQ
    .exact aJ _ h
def Mc{α:Type}{c:α->α->Int}(hc: ∀u x,c u x=0->u=x){y:α}: ∀{l o:List α},y∈l\/y∈o->y∈l.foldl (fun out x=>dw c x out) o
 |[],o,h=>h.elim (fun h=>by cases h) id
 |x::t,o,h=>by
  refine Mc hc (l:=t) ?_;rcases h with h|h
  .rcases aV.1 h with rfl|h
   .exact .inr (Db hc (.inl J))
   .exact .inl h
  .exact .inr (Db hc (.inr h))
def Vl{x:ah}(h:x∈ls):x.canon∈mr ls:=
 Mc (fun u x e=>(AO u x).1 e) (.inl (dQ h))
def J4(l:ah)(p:aa):l.canon.value p=l.value p\/l.canon.value p= -l.value p:=by
 unfold ah.canon;split
 .exact .inr (fh l p)
 .exact .inl J
def KD:cB (mr ls) p↔cB ls p:=by
 constructor
 .intro h l hl e
  have:=h _ (Vl hl);rcases J4 l p with k|k<;>rw[k,e] at this<;>exact this vb
 .intro h l hl e
  obtain⟨x,hx,rfl⟩:=FJ hl;have:=h x hx;rcases J4 x p with k|k<;>rw[k] at e
  .exact this e
  .exact this va
def avr{q:aa}(hp:cB ls p)(hq:cB ls q)(h: ∀l∈mr ls,0<l.value p↔0<l.value q): ∀l∈ls,0<l.value q↔0<l.value p:=fun l hl=>by
 have h1:=h _ (Vl hl);have h2:=hp l hl;have h3:=hq l hl;unfold ah.canon at h1;split at h1
 .rw[fh,fh] at h1
  constructor
  .intro k
   rcases fG (l.value p) with e|e|e
   .exact absurd e h2
   .exact e
   .have:=h1.1 va;grind
  .intro k
   rcases fG (l.value q) with e|e|e
   .exact absurd e h3
   .exact e
   .have:=h1.2 va;grind
 .exact h1.symm
def jr(a b:Tr):List aa:=qP (mr (a.lns++b.lns))
def OU(ha:a.all ah.ok)(hb:b.all ah.ok){R:Bool->Bool->Prop}:(∀p∈jr a b,R (iE a p) (iE b p))↔ ∀p,cB (a.lns++b.lns) p->R (a.val p) (b.val p):=by
 have hok: ∀l∈a.lns++b.lns,l.ok:=fun l hl=>(aL.1 hl).elim (jB ha l) (jB hb l);have hne: ∀l∈mr (a.lns++b.lns),l.Ne:=fun l hl=>by
  obtain⟨x,hx,rfl⟩:=FJ hl;exact(Mr (hok x hx)).ne
 constructor
 .intro h p hp
  obtain⟨q,hq,hs⟩:=Wz hne (KD.2 hp);have ho:=KD.1 (Td hne hq);have hsd:=avr hp ho hs;have k:=h q hq;rw[zy (cB.app.1 ho).1,zy (cB.app.1 ho).2,AF (t:=a) hsd (fun l hl=>bJ _ hl),AF (t:=b) hsd (fun l hl=>aM _ hl)] at k;exact k
 .intro h p hp
  have ho:=KD.1 (Td hne hp);rw[zy (cB.app.1 ho).1,zy (cB.app.1 ho).2];exact h p ho
def ve(a b:Tr):Bool:=(jr a b).all fun p=>iE a p==iE b p
def aBY(ha:a.all ah.ok)(hb:b.all ah.ok):ve a b=y8 4 a b:=by
 rw[oT,(t7.mk0 ha hb).none,ve,dW,OU ha hb (R:=fun x y=>(x==y)=true)];unfold tc;simp
def tw(f:Bool->Bool->Bool)(a b:Tr):Bool:=(jr a b).any fun p=>f (iE a p) (iE b p)
def aAV{f:Bool->Bool->Bool}(ha:a.all ah.ok)(hb:b.all ah.ok):tw f a b=false↔ ∀p,cB (a.lns++b.lns) p->f (a.val p) (b.val p)=false:=by
 rw[<-OU ha hb (R:=fun x y=>f x y=false),tw,qV];simp
def Zt(ha:a.all ah.ok)(hb:b.all ah.ok):(!tw (fun x y=>x&&y) a b)=y8 2 a b:=by
 rw[oT,(t7.mk0 ha hb).none,iK,aAV ha hb];unfold tc;simp
def aHQ(ha:a.all ah.ok)(hb:b.all ah.ok)(hL: ∀l∈L,l.ok)(hLa: ∀l∈a.lns,l∈L)(hLb: ∀l∈b.lns,l∈L)(h: ∀p,cB L p->a.val p=b.val p):ve a b=true:=by
 rw[aBY ha hb,(t7.mk ha hb hL hLa hLb).none];intro p hp;rw[h p hp];unfold tc;simp
end Go.Sx
end
