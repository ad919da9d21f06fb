import Derived.Test.YtmhfhhiaecjhiaaGreatDoorWr11
set_option linter.all false
set_option maxHeartbeats 4000000
set_option maxRecDepth 100000
section
namespace Go.Sx
open Go Go.Proofs Tryz
variable {GB:Gh}
def Tx{es:List Int}{a:Nat}(h:a<es.length):(es.map vI)[(a:Int).toNat]? =some (vI es[a]):=by simp[h]
def QO:eP (iP 0 0)= .ag [.v (.bool false), .sl [], .sl [], .v (.bool false), .sl [], .sl []]:=by
 unfold eP iP;simp[qz,dD]
def au(es:List Int)(n:Int)(a:Nat):Nat×Nat:=
 if h:a<es.length then((if Int.tmod es[a] n<0 then Int.tmod es[a] n+n else Int.tmod es[a] n).toNat,a+1) else(0,a)
def gi{es:List Int}{n:Int}{a:Nat}(hn:1<=n:=by decide):((au es n a).1:Int)<n:=by
 unfold au;split
 .rename_i h
  have q2:=oT es[a] (show 0<n by omega);dsimp only;split<;>omega
 .exact hn
def fi{es:List Int}{n:Int}{a:Nat}(ha:a<=es.length):(au es n a).2<=es.length:=by
 unfold au;split
 .assumption
 .exact ha
def pF(es:List Int)(a:Nat):(Int×Int)×Nat:=((((au es 9 a).1:Int)-4,((au es 9 (au es 9 a).2).1:Int)-4),(au es 9 (au es 9 a).2).2)
def qe{es:List Int}{a:Nat}(ha:a<=es.length):(pF es a).1.1.natAbs<=4/\(pF es a).1.2.natAbs<=4/\(pF es a).2<=es.length:=by
 have h1:=gi (es:=es) (n:=9) (a:=a);have h2:=gi (es:=es) (n:=9) (a:=(au es 9 a).2);have h3:=fi (n:=9) (fi (es:=es) (n:=9) ha);unfold pF;exact⟨by dsimp only;omega,by dsimp only;omega,h3⟩
def vF(es:List Int)(a:Nat):(Int×Int)×Nat:=if(pF es a).1.1=0/\(pF es a).1.2=0 then((1,0),(pF es a).2) else pF es a
def sM{es:List Int}{a:Nat}(ha:a<=es.length):(vF es a).1.1.natAbs<=4/\(vF es a).1.2.natAbs<=4/\ ¬((vF es a).1.1=0/\(vF es a).1.2=0)/\(vF es a).2<=es.length:=by
 obtain⟨h1,h2,h3⟩:=qe ha;unfold vF;split
 .exact⟨show(1:Int).natAbs<=4 by decide,show(0:Int).natAbs<=4 by decide,show¬((1:Int)=0/\(0:Int)=0) by decide,h3⟩
 .rename_i h;exact⟨h1,h2,h,h3⟩
def lF(es:List Int)(a:Nat):ab×Nat:=(lv (pF es a).1.1 (pF es a).1.2 ((pF es a).1.1+1*(vF es (pF es a).2).1.1) ((pF es a).1.2+1*(vF es (pF es a).2).1.2),(vF es (pF es a).2).2)
def iB(es:List Int):Nat->Nat->Tr×Nat
 |0,a=>(.leaf (decide (((au es 2 a).1:Int)=1)),(au es 2 a).2)
 |d+1,a=>if((au es 4 a).1:Int)=0 then(.leaf (decide (((au es 2 (au es 4 a).2).1:Int)=1)),(au es 2 (au es 4 a).2).2) else
  (.node (lF es (au es 4 a).2).1 (iB es d (lF es (au es 4 a).2).2).1 (iB es d (iB es d (lF es (au es 4 a).2).2).2).1,(iB es d (iB es d (lF es (au es 4 a).2).2).2).2)
def lB{b:Nat}{es:List Int}(hes:es.length<=400){a:Nat}(ha:a<=es.length){n:Int}(hn:1<=n:=by decide)(hn2:n<=1000:=by decide):PM GB prog 27 (fE [none,some (.v (.int .i64 n))] b) b 85 [.sl (es.map vI), .v (.int .i64 (a:Nat))] (.v (.int .i64 ((au es n a).1:Nat))) [.sl (es.map vI), .v (.int .i64 ((au es n a).2:Nat))]:=by
 have hel:(es.map vI).length=es.length:=by simp
 refine qv func27 J J ntmps27 J J (fun C b m lo hmb=>?_);refine br J J J (fun hc15=>?_) (fun hc15=>?_)
 .
  have hf:au es n a=(0,a):=by unfold au;rw[dif_neg (by omega)]
  exact gz hmb J J (by rw[hf]<;>rfl) (by rw[hf]<;>rfl)
 .
  have hal:a<es.length:=by omega
  obtain⟨e,he⟩: ∃e,e=es[a]:=⟨_,rfl⟩;have q2:=oT e (show 0<n by omega);have q3: -n<Int.tmod e n:=by have:=Int.lt_tmod_of_pos e (show 0<n by omega);omega
  refine ix (fu:=⟨1⟩) _ J (Tx hal) J<|ah 25 (.d (vI e)) J (by rw[he]<;>rfl)<|gx (hv:=by simp only[aj];exact⟨⟨by omega,by kernel_rfl⟩,by omega⟩) J<|br J J J (fun hc36=>?_) (fun hc36=>?_)
  .
   have hf:au es n a=((Int.tmod e n+n).toNat,a+1):=by unfold au;rw[dif_pos hal,<-he,if_pos hc36]
   exact gz hmb J J (by rw[hf];show DV.v (.int .i64 _)=DV.v (.int .i64 _);rw[qT (by omega)]) (by rw[hf]<;>rfl)
  .
   have hf:au es n a=((Int.tmod e n).toNat,a+1):=by unfold au;rw[dif_pos hal,<-he,if_neg hc36]
   exact gz hmb J J (by rw[hf];show DV.v (.int .i64 _)=DV.v (.int .i64 _);rw[qT (by omega)]) (by rw[hf]<;>rfl)
def AV{b:Nat}{es:List Int}(hes:es.length<=400){a:Nat}(ha:a<=es.length):PM GB prog 62 (fE [none] b) b 85 [.sl (es.map vI), .v (.int .i64 (a:Nat))] (eP (iP (pF es a).1.1 (pF es a).1.2)) [.sl (es.map vI), .v (.int .i64 ((pF es a).2:Nat))]:=by
 have h1:=gi (es:=es) (n:=9) (a:=a);have h2:=gi (es:=es) (n:=9) (a:=(au es 9 a).2);refine qv func62 J J ntmps62 J J (fun C b m lo hmb=>?_);refine cm J (fun b=>(lB (n:=9) hes ha)) J<|cm J (fun b=>(lB (n:=9) hes (fi ha))) J<|cl J (iv (m:=((au es 9 a).1:Int)-4) (n:=((au es 9 (au es 9 a).2).1:Int)-4) (by omega) (by omega)) J<|?_;exact gz hmb J J J J
def IG{b:Nat}{es:List Int}(hes:es.length<=400){a:Nat}(ha:a<=es.length):PM GB prog 63 (fE [none] b) b 85 [.sl (es.map vI), .v (.int .i64 (a:Nat))] (eP (iP (vF es a).1.1 (vF es a).1.2)) [.sl (es.map vI), .v (.int .i64 ((vF es a).2:Nat))]:=by
 obtain⟨hm,hn,ha1⟩:=qe ha;refine qv func63 J J ntmps63 J J (fun C b m lo hmb=>?_);refine cm (fu:=⟨9⟩) J (fun b=>(AV hes ha)) J<|ah 7 (.d (eP (iP 0 0))) J (by rw[QO]<;>rfl)<|gx J<|cl J (BJ (m:=(pF es a).1.1) (n:=(pF es a).1.2) (m':=0) (n':=0) (by omega) (by omega) (by decide) (by decide)) J<|bd J J J (fun hc8=>?_) (fun hc8=>?_)
 .
  have hf:vF es a=((1,0),(pF es a).2):=by unfold vF;rw[if_pos hc8]
  refine cl J (iv (m:=1) (n:=0)) J<|?_;exact gz hmb J J (by rw[hf]<;>rfl) (by rw[hf])
 .
  have hf:vF es a=pF es a:=by unfold vF;rw[if_neg hc8]
  exact gz hmb J J (by rw[hf]<;>rfl) (by rw[hf])
abbrev ZP:=Int×Int
def ZP.q(p:ZP):aa:=iP p.1 p.2
def ZP.le(k:Nat)(p:ZP):Prop:=p.1.natAbs<=k/\p.2.natAbs<=k
def rB(p q:ZP):ZP:=(p.1+1*q.1,p.2+1*q.2)
def ni(u v:ZP):Int:=u.1*v.2-u.2*v.1
theorem L'{m n p q:Int}(hm:m.natAbs<=1000)(hn:n.natAbs<=1000)(hp:p.natAbs<=1000)(hq:q.natAbs<=1000)(h: ¬(p=m/\q=n)):LB (lv m n p q)/\(lv m n p q).ok:=by
 have e1:(j0 n q).natAbs<=2000:=by unfold j0;omega
 have e2:(jD m p).natAbs<=2000:=by unfold jD;omega
 have e3:=Hy e1 hm;have e4:=Hy e2 hn;have e5:(pz m n p q).natAbs<=4000000:=by unfold pz;omega
 unfold lv;obtain⟨k1,k2,k3⟩:=Hr (j0 n q) (jD m p) (pz m n p q);have hb: ∀{a:Nat},a<=4000000->a<2^576:=fun h=>FL (m:=30) (k:=576) (show _<2^30 by omega) (by decide);refine⟨⟨⟨hb (by omega),hb (by omega),hb (by omega)⟩⟩,Gi ?_⟩
 .unfold j0 jD;omega
def lw(v w:ZP):aE:=⟨lv v.1 v.2 w.1 w.2,⟨du (lv v.1 v.2 w.1 w.2) v.q,du (lv v.1 v.2 w.1 w.2) w.q,false,false⟩⟩
def d5(r:List ZP)(i:Nat):ZP:=r.getD ((i+1)%r.length) (0,0)
def kj(r:List ZP):Nat->List aE
 |0=>[]
 |k+1=>kj r k++[lw (r.getD k (0,0)) (d5 r k)]
def iO(r:List ZP):List aE:=kj r r.length
structure en (r:List ZP):Prop where
 n3:3<=r.length
 n6:r.length<=6
 le: ∀p∈r,ZP.le 100 p
 ne: ∀i<r.length,r.getD i (0,0)≠d5 r i
def uZ{r:List ZP}{i:Nat}(h:i<r.length):r.getD i (0,0)∈r:=by
 rw[aJ,aQ h];exact iL h
def yr{r:List ZP}{i:Nat}(h:i<r.length):d5 r i∈r:=uZ (cJ _ (by omega))
theorem BQ.int1200{m:Int}(h:m.natAbs<=1000:=by decide):BQ (m:Rat) 1200:=by
 haveI:BI m 11:=gm h;exact BQ.mono (inferInstance:BQ (m:Rat) 12)
theorem JN{l:ab}(hl:LB l)(ho:l.ok){m n:Int}(hm:m.natAbs<=1000)(hn:n.natAbs<=1000):BQ (du l (iP m n)) 1200:=by
 haveI:=gm (k:=11) hm;haveI:=gm (k:=11) hn;have hd:=Fp ho.ne;have hA:BI (l.a*l.a+l.b*l.b) _:=inferInstance;have hB:BI (m*l.b-n*l.a) _:=inferInstance;have hA':=H2 (j:=1200) hA;have hB':=H2 (j:=1200) hB;have e1:l.dir.dot l.dir=((l.a*l.a+l.b*l.b:Int):Rat):=by
  rw[qV,dT,dT];simp only[ab.dir,aa.dot];grind
 have e2:(iP m n).dot l.dir=((m*l.b-n*l.a:Int):Rat):=by
  rw[qY,dT,dT];simp only[ab.dir,aa.dot,iP];grind
 have hd':((0:Int):Rat)<((l.a*l.a+l.b*l.b:Int):Rat):=by rw[<-e1];exact hd
 unfold du;rw[e2,e1];clear hA hB e1 e2;generalize l.a*l.a+l.b*l.b=D at*;generalize m*l.b-n*l.a=M at*;have hD:0<D:=kU.1 hd';refine BQ.of_fracI (n:=M) (D:=D) (by omega) ?_ hB' hA';have h0:(D:Rat)≠0:=fun e=>by rw[e] at hd';exact absurd hd' (by decide)
 have:((D.natAbs:Nat):Rat)=(D:Rat):=by
  have h1:((D.natAbs:Nat):Int)=D:=by omega
  rw[<-h1];rfl
 rw[this];grind
def EN{v w:ZP}(hv:ZP.le 100 v)(hw:ZP.le 100 w)(h:v≠w):jI (lw v w):=by
 obtain⟨h1,h2⟩:=L' (m:=v.1) (n:=v.2) (p:=w.1) (q:=w.2) (by have:=hv.1;omega) (by have:=hv.2;omega) (by have:=hw.1;omega) (by have:=hw.2;omega) (fun e=>h (Prod.ext e.1.symm e.2.symm));exact⟨h1,h2,⟨fun e=>(by cases e),fun e=>(by cases e)⟩,JN h1 h2 (by have:=hv.1;omega) (by have:=hv.2;omega),JN h1 h2 (by have:=hw.1;omega) (by have:=hw.2;omega)⟩
def Lp{r:List ZP}(h:en r): ∀{k:Nat},k<=r.length->(kj r k).length=k/\ ∀f∈kj r k,jI f
 |0,_=>⟨J,fun f hf=>by cases hf⟩
 |k+1,hk=>by
  obtain⟨h1,h2⟩:=Lp h (k:=k) (by omega);rw[kj];refine⟨by simp[h1],fun f hf=>?_⟩;rcases cM.1 hf with hf|hf
  .exact h2 f hf
  .rw[aL] at hf;subst hf
   exact EN (h.le _ (uZ (by omega))) (h.le _ (yr (by omega))) (h.ne k (by omega))
def A4{r:List ZP}(h:en r):(iO r).length=r.length/\ ∀f∈iO r,jI f:=Lp h (aM _)
def dB(rs:List (List ZP)):List aE:=rs.flatMap iO
def B5: ∀{rs:List (List ZP)},(∀r∈rs,en r)->(dB rs).length<=6*rs.length/\ ∀f∈dB rs,jI f
 |[],_=>⟨aM _,fun f hf=>by cases hf⟩
 |r::rs,h=>by
  obtain⟨h1,h2⟩:=B5 (rs:=rs) fun q hq=>h q (aK _ hq);obtain⟨k1,k2⟩:=A4 (h r aX);have:=(h r aX).n6;unfold dB at*;rw[pJ];refine⟨by rw[aN,k1,bR];omega,fun f hf=>?_⟩;rcases cM.1 hf with hf|hf
  .exact k2 f hf
  .exact h2 f hf
def sG(a b c:aa):Int:=(aa.cross (eh b a (-1)) (eh c a (-1))).num.sign
def HR(v w p:aa):Int:=
 (if bG v.y p.y<=0/\ ¬bG w.y p.y<=0/\0<sG v w p then 1 else 0)-(if¬bG v.y p.y<=0/\bG w.y p.y<=0/\sG v w p<0 then 1 else 0)
def Ld(r:List ZP)(p:aa):Nat->Int
 |0=>0
 |k+1=>Ld r p k+HR (r.getD k (0,0)).q (d5 r k).q p
def xk(r:List ZP)(p:aa):Int:=Ld r p r.length
def lm(fill n:Int):Bool:=(decide (fill=1)&&decide (n.tmod 2≠0))||(decide (fill=2)&&decide (n≠0))
def ub(rs:List (List ZP))(fill:Int)(p:aa):Bool:=lm fill (rs.foldl (fun n r=>n+xk r p) 0)
def Jk(rs:List (List ZP))(fill:Int):Tr:=yJ (ub rs fill) (dB rs).length (dB rs) []
def rN(rs:List (List ZP))(fill:Int):Tr:=(Jk rs fill).restrict []
structure SG (k:Nat) (t:Tr):Prop where
 gd:t.gd
 dp:t.depth<=k
 am: ∃K:List ab,K.length<=k/\(∀l∈K,l.ok)/\CT K t
def gD(p q:ZP):Int:=if p.1<q.1 then-1 else if q.1<p.1 then 1 else if p.2<q.2 then-1 else if q.2<p.2 then 1 else 0
def fP(x:ZP):List ZP->List ZP
 |[]=>[x]
 |u::t=>if gD u x<0 then u::fP x t else if gD u x=0 then u::t else x::u::t
def kl(l:List ZP):List ZP:=l.foldl (fun out x=>fP x out) []
def ED{x:ZP}: ∀{l:List ZP},(fP x l).length<=l.length+1
 |[]=>aM _
 |u::t=>by
  rw[fP];have:=ED (x:=x) (l:=t);split
  .simp;omega
  .split<;>simp
def Rl(l:List ZP):(kl l).length<=l.length:=by
 have key: ∀(l o:List ZP),(l.foldl (fun out x=>fP x out) o).length<=l.length+o.length:=by
  intro l
  induction l with
  |nil=>intro o;simp
  |cons x t ih=>intro o;have:=ih (fP x o);have:=ED (x:=x) (l:=o);simp only[gM,bR];omega
 have:=key l [];simpa[kl] using this
def kC(a b c d:Int):List ZP:=[(a,b),(c,b),(c,d),(a,d)]
def Td{r:List ZP}{i:Nat}(h:i+1<r.length):d5 r i=r.getD (i+1) (0,0):=by unfold d5;rw[gQ h]
def SS{r:List ZP}{i:Nat}(h:i+1=r.length):d5 r i=r.getD 0 (0,0):=by unfold d5;rw[h,Nat.mod_self]
def I4{a b c d:Int}(h1:a.natAbs<=50:=by decide)(h2:b.natAbs<=50:=by decide)(h3:c.natAbs<=50:=by decide)(h4:d.natAbs<=50:=by decide)(h5:a<c:=by decide)(h6:b<d:=by decide):en (kC a b c d):=by
 refine⟨by simp[kC],by simp[kC],fun p hp=>?_,fun i hi=>?_⟩
 .simp only[kC,aR,jU,or_false] at hp
  rcases hp with rfl|rfl|rfl|rfl<;>exact⟨by dsimp only;omega,by dsimp only;omega⟩
 .have:i=0\/i=1\/i=2\/i=3:=by simp[kC] at hi;omega
  rcases this with rfl|rfl|rfl|rfl<;>simp[kC,d5]<;>omega
def mc(p u v:ZP):List ZP:=[p,rB p u,rB p v]
def Q1{p u v:ZP}(h1:ZP.le 40 p)(h2:ZP.le 40 u)(h3:ZP.le 40 v)(h:ni u v≠0):en (mc p u v):=by
 obtain⟨p1,p2⟩:=p;obtain⟨u1,u2⟩:=u;obtain⟨v1,v2⟩:=v;unfold ZP.le at h1 h2 h3;dsimp only at h1 h2 h3;unfold ni at h;dsimp only at h;refine⟨by simp[mc],by simp[mc],fun p hp=>?_,fun i hi=>?_⟩
 .simp only[mc,rB,aR,jU,or_false] at hp
  rcases hp with rfl|rfl|rfl<;>exact⟨by dsimp only;omega,by dsimp only;omega⟩
 .have:i=0\/i=1\/i=2:=by simp[mc] at hi;omega
  have hu: ¬(u1=0/\u2=0):=fun e=>h (by rw[e.1,e.2];simp);have hv: ¬(v1=0/\v2=0):=fun e=>h (by rw[e.1,e.2];simp);have huv: ¬(u1=v1/\u2=v2):=fun e=>h (by rw[e.1,e.2,rQ];omega);rcases this with rfl|rfl|rfl<;>simp[mc,rB,d5]<;>omega
def je(es:List Int):Nat->Nat->List ZP->List ZP×Nat
 |0,a,out=>(out,a)
 |n+1,a,out=>je es n (pF es a).2 (if out.getLast? =some (pF es a).1 then out else out++[(pF es a).1])
structure gn (r:List ZP):Prop where
 ne: ∀i,i+1<r.length->r.getD i (0,0)≠r.getD (i+1) (0,0)
 le: ∀p∈r,ZP.le 100 p
def gn.snoc{r:List ZP}{p:ZP}(h:gn r)(hp:ZP.le 100 p)(hl:r.getLast? ≠some p):gn (r++[p]):=by
 refine⟨fun i hi=>?_,fun q hq=>?_⟩
 .rw[aN,pY] at hi
  rw[aJ,aJ];by_cases h1:i+1<r.length
  .rw[cZ (by omega),cZ h1]
   have:=h.ne i h1;rwa [aJ,aJ] at this
  .have e:i+1=r.length:=by omega
   rw[cZ (by omega),e,dS (aM _),rZ];rw[lK,<-e,iY] at hl;rw[aQ (by omega)] at hl⊢;intro c;exact hl (by simpa using c)
 .rcases cM.1 hq with hq|hq
  .exact h.le q hq
  .rw[aL] at hq;subst hq;exact hp
def BH{es:List Int}: ∀{n a:Nat} {out:List ZP},a<=es.length->gn out->gn (je es n a out).1/\(je es n a out).1.length<=out.length+n/\(je es n a out).2<=es.length
 |0,a,out,ha,h=>⟨h,aM _,ha⟩
 |n+1,a,out,ha,h=>by
  obtain⟨h1,h2,h3⟩:=qe ha;rw[je];by_cases hl:out.getLast? =some (pF es a).1
  .rw[if_pos hl]
   obtain⟨k1,k2,k3⟩:=BH (n:=n) h3 h;exact⟨k1,by omega,k3⟩
  .rw[if_neg hl]
   obtain⟨k1,k2,k3⟩:=BH (n:=n) h3 (h.snoc (p:=(pF es a).1) ⟨by omega,by omega⟩ hl);rw[aN,pY] at k2;exact⟨k1,by omega,k3⟩
def gk:Nat->List ZP->List ZP
 |0,l=>l
 |n+1,l=>if 1<l.length/\l.getD 0 (0,0)=l.getD (l.length-1) (0,0) then gk n l.dropLast else l
def gn.drop{r:List ZP}(h:gn r):gn r.dropLast:=by
 refine⟨fun i hi=>?_,fun p hp=>h.le p ((List.dropLast_sublist _).subset hp)⟩;rw[lR] at hi;have:=h.ne i (by omega);rw[aJ,aJ] at this⊢;rw[List.getElem?_dropLast,List.getElem?_dropLast,if_pos (by omega),if_pos (by omega)];exact this
def Fx: ∀{n:Nat} {l:List ZP},gn l->l.length<=n+1->gn (gk n l)/\(gk n l).length<=l.length/\(1<(gk n l).length->(gk n l).getD 0 (0,0)≠(gk n l).getD ((gk n l).length-1) (0,0))
 |0,l,h,hn=>⟨h,aM _,fun k=>absurd k (by unfold gk;omega)⟩
 |n+1,l,h,hn=>by
  rw[gk];split
  .obtain⟨h1,h2,h3⟩:=Fx (n:=n) h.drop (by rw[lR];omega)
   rw[lR] at h2;exact⟨h1,by omega,h3⟩
  .rename_i hc
   exact⟨h,aM _,fun k e=>hc ⟨k,e⟩⟩
def Pv{r:List ZP}(h:gn r)(h6:r.length<=6)(hc:1<r.length->r.getD 0 (0,0)≠r.getD (r.length-1) (0,0))(h3:3<=(kl r).length):en r:=by
 have:=Rl r;refine⟨by omega,h6,h.le,fun i hi=>?_⟩;by_cases h1:i+1<r.length
 .rw[Td h1];exact h.ne i h1
 .have e:i+1=r.length:=by omega
  rw[SS e];have:=hc (by omega);rw[show i=r.length-1 by omega];exact fun k=>this k.symm
def td:List ZP:=[(0,0),(2,0),(0,2)]
def KH:en td:=⟨by decide,by decide,fun p hp=>by
  simp only[td,aR,jU,or_false] at hp;rcases hp with rfl|rfl|rfl<;>exact⟨by decide,by decide⟩,fun i hi=>by
  have:i=0\/i=1\/i=2:=by simp[td] at hi;omega
  rcases this with rfl|rfl|rfl<;>decide⟩
def kv(es:List Int)(a:Nat):List ZP×Nat:=
 ((if(kl (gk 6 (je es (3+(au es 4 a).1) (au es 4 a).2 []).1)).length<3 then td else gk 6 (je es (3+(au es 4 a).1) (au es 4 a).2 []).1),(je es (3+(au es 4 a).1) (au es 4 a).2 []).2)
def gn.nil:gn []:=⟨fun i hi=>by simp at hi,fun p hp=>by cases hp⟩
def Ao{es:List Int}{a:Nat}(ha:a<=es.length):en (kv es a).1/\(kv es a).2<=es.length:=by
 have h1:=gi (es:=es) (n:=4) (a:=a);obtain⟨k1,k2,k3⟩:=BH (n:=3+(au es 4 a).1) (fi (n:=4) ha) gn.nil;obtain⟨t1,t2,t3⟩:=Fx (n:=6) k1 (by simp at k2;omega);refine⟨?_,k3⟩;unfold kv;dsimp only;split
 .exact KH
 .exact Pv t1 (by simp at k2;omega) t3 (by omega)
def tH(es:List Int)(n m k:Int)(a:Nat):List ZP×Nat:=
 let x:=au es n a
 let y:=au es n x.2
 let z:=au es m y.2
 let w:=au es m z.2
 (kC ((x.1:Int)-k) ((y.1:Int)-k) ((x.1:Int)-k+1+z.1) ((y.1:Int)-k+1+w.1),w.2)
def MC{es:List Int}{n m k:Int}{a:Nat}(ha:a<=es.length)(hn:1<=n:=by decide)(hn2:n<=10:=by decide)(hm:1<=m:=by decide)(hm2:m<=10:=by decide)(hk:0<=k:=by decide)(hk2:k<=10:=by decide):en (tH es n m k a).1/\(tH es n m k a).2<=es.length:=by
 have h1:=gi (es:=es) (a:=a) hn;have h2:=gi (es:=es) (a:=(au es n a).2) hn;have h3:=gi (es:=es) (a:=(au es n (au es n a).2).2) hm;have h4:=gi (es:=es) (a:=(au es m (au es n (au es n a).2).2).2) hm;exact⟨I4 (by omega) (by omega) (by omega) (by omega) (by omega) (by omega),fi (fi (fi (fi ha)))⟩
def et(es:List Int)(a:Nat):List ZP×Nat:=
 let k:=au es 4 a
 if(k.1:Int)=0 then tH es 5 4 4 k.2
 else if(k.1:Int)=1 then
  let p:=pF es k.2
  let u:=vF es p.2
  let v:=vF es u.2
  if ni u.1 v.1≠0 then(mc p.1 u.1 v.1,v.2) else kv es v.2
 else kv es k.2
def Ah{es:List Int}{a:Nat}(ha:a<=es.length):en (et es a).1/\(et es a).2<=es.length:=by
 have h0:=fi (n:=4) ha;unfold et;dsimp only;split
 .exact MC h0
 .split
  .obtain⟨p1,p2,p3⟩:=qe h0
   obtain⟨u1,u2,u3,u4⟩:=sM p3;obtain⟨v1,v2,v3,v4⟩:=sM u4;split
   .rename_i hc
    exact⟨Q1 ⟨by omega,by omega⟩ ⟨by omega,by omega⟩ ⟨by omega,by omega⟩ hc,v4⟩
   .exact Ao v4
  .exact Ao h0
def TW:List ZP:=[(0,0),(1,0),(0,1)]
def sO(es:List Int)(a:Nat):List ZP×Nat:=
 let k:=au es 2 a
 if(k.1:Int)=0 then tH es 3 2 1 k.2
 else
  let x:=au es 3 k.2
  let y:=au es 3 x.2
  let u1:=au es 2 y.2
  let u2:=au es 3 u1.2
  let v1:=au es 3 u2.2
  let v2:=au es 2 v1.2
  (if 0<ni (1+(u1.1:Int),(u2.1:Int)-1) ((v1.1:Int)-1,1+(v2.1:Int)) then mc ((x.1:Int)-1,(y.1:Int)-1) (1+(u1.1:Int),(u2.1:Int)-1) ((v1.1:Int)-1,1+(v2.1:Int)) else TW,v2.2)
def pf(es:List Int)(a:Nat):Tr×Nat:=
 let r:=et es a
 let k:=au es 3 r.2
 if(k.1:Int)=0 then
  let s:=et es k.2
  let f:=au es 2 s.2
  (rN [r.1,s.1] (1+(f.1:Int)),f.2)
 else
  let f:=au es 2 k.2
  (rN [r.1] (1+(f.1:Int)),f.2)
def xf(l:ab):Tr:=(Tr.node l (.leaf true) (.leaf false)).restrict []
def od(es:List Int):Nat->Nat->Tr×Nat
 |0,a=>
  let k:=au es 6 a
  if(k.1:Int)=1 then(xf (lF es k.2).1,(lF es k.2).2)
  else if(k.1:Int)=2 then((iB es 3 k.2).1.restrict [],(iB es 3 k.2).2)
  else if(k.1:Int)=3 then((pf es k.2).1.compl,(pf es k.2).2)
  else pf es k.2
 |d+1,a=>
  let k:=au es 6 a
  if(k.1:Int)=0 then
   let x:=od es d k.2
   let o:=au es 4 x.2
   let y:=od es d o.2
   (x.1.mergeQ (1+(o.1:Int)) y.1 [],y.2)
  else if(k.1:Int)=1 then(xf (lF es k.2).1,(lF es k.2).2)
  else if(k.1:Int)=2 then((iB es 3 k.2).1.restrict [],(iB es 3 k.2).2)
  else if(k.1:Int)=3 then((pf es k.2).1.compl,(pf es k.2).2)
  else pf es k.2
def XW(es:List Int)(a:Nat):Tr×Nat:=
 let k:=au es 4 a
 if(k.1:Int)=0 then(xf (lF es k.2).1,(lF es k.2).2)
 else if(k.1:Int)=1 then((iB es 2 k.2).1.restrict [],(iB es 2 k.2).2)
 else(rN [(sO es k.2).1] 2,(sO es k.2).2)
def Br(op:Int)(a b:Tr):Bool:=decide ((a.mergeQ op b []).isLeaf=true/\(a.mergeQ op b []).code=false)
def aAy(a b:Tr):Int:=if Br 4 a b then 0 else if Br 3 a b then-1 else if Br 3 b a then 1 else 2
def o7:Tr->aa->Bool
 | .leaf b,_=>b
 | .node l x y,p=>if(l.value p).num.sign=1 then o7 x p else if(l.value p).num.sign= -1 then o7 y p else false
def r4(t:Tr):List bD:=((t.parts []).filter (·.1)).map (·.2)
def Im(l:ab)(p:aa):bD->Rat->Rat
 |[],f=>f
 |s::c,f=>Im l p c (if Int.sign (s.l.nor.dot l.nor).num<0 then(if-(s.l.value p/s.l.nor.dot l.nor)<f then-(s.l.value p/s.l.nor.dot l.nor) else f) else f)
def Na:bD->aa
 |[]=>⟨0,0⟩
 |s::c=>eh (s.l.at s.v.sample) s.l.nor (Im s.l (s.l.at s.v.sample) c 1*mkRat 1 2)
def ny:Tr->aa->aa->Bool×Bool
 | .leaf b,_,_=>(b,true)
 | .node l x y,p,v=>match (if(l.value p).num.sign=0 then(l.dir.cross v).num.sign else(l.value p).num.sign) with
  |1=>ny x p v
  | -1=>ny y p v
  |_=>(false,false)
def Up(l:ab)(v:aa):l.dir.cross v=l.nor.dot v:=by
 unfold ab.dir ab.nor aa.cross aa.dot;grind
def Gn(L:List ab)(p v:aa):Prop:= ∀l∈L,l.value p=0->l.nor.dot v≠0
def ePa(x:Bool×bD):DV:= .ag [.sl (x.2.map bF),eU (.leaf x.1)]
def EZ{q:Rat}{i:Nat}[h:BQ q i](hi:i<=900000000:=by decide):PF GB prog 151 [eF q] (eR q):=by
 refine fn func151 J J ntmps151 J J (fun C=>?_);refine cl J (ng (q:=q) (i:=i) hi) J<|cl J (lq (q:=q) (i:=i) hi) J<|rz J J
def UW{p:aa}{i:Nat}[h:aq p i](hi:i<=900000000:=by decide):PF GB prog 90 [eZ p] (dy p):=by
 refine fn func90 J J ntmps90 J J (fun C=>?_);refine cl J (EZ (q:=p.x) (i:=i) hi) J<|cl J (EZ (q:=p.y) (i:=i) hi) J<|rz J J
def eC(c:bD):DV:= .sl (c.map bF)
def X2(ps:List (Bool×bD)):List bD:=(ps.filter (·.1)).map (·.2)
def kz(p:aa):(p.half=1/\(0<p.y\/(p.y=0/\0<p.x)))\/(p.half=2/\(p.y<0\/(p.y=0/\p.x<0)))\/(p.half=0/\p.y=0/\p.x=0):=by
 unfold aa.half;simp only[Ak,zp,uu];split
 .rename_i h;exact .inl ⟨rfl,h⟩
 .rename_i h
  split
  .rename_i h2
   exact .inr (.inl ⟨J,by grind⟩)
  .rename_i h2
   exact .inr (.inr ⟨J,by grind,by grind⟩)
def uA{p:aa}:p.half=1↔(0<p.y\/(p.y=0/\0<p.x)):=by
 rcases kz p with⟨h,k⟩|⟨h,k⟩|⟨h,k⟩<;>rw[h]<;>grind
def uV{p:aa}:p.half=2↔(p.y<0\/(p.y=0/\p.x<0)):=by
 rcases kz p with⟨h,k⟩|⟨h,k⟩|⟨h,k⟩<;>rw[h]<;>grind
def dh(u v:aa):Prop:=u.half<v.half\/(u.half=v.half/\0<u.cross v)
def l9{u v:aa}:ck u v<0↔dh u v:=by
 unfold ck dh;split
 .rename_i h;exact⟨fun _=> .inl h,fun _=>by decide⟩
 .rename_i h
  split
  .rename_i h2;exact⟨fun e=>absurd e (by decide),fun e=>by omega⟩
  .rename_i h2
   have e:u.half=v.half:=by omega
   rw[<-Ak];constructor
   .intro k;exact .inr ⟨e,by omega⟩
   .rintro (k|⟨_,k⟩)
    .omega
    .omega
def dn(d:aa):aa:=⟨-d.x, -d.y⟩
def OL{d:aa}(h:d.half≠0):(dn d).half=3-d.half:=by
 rcases kz d with⟨e,k⟩|⟨e,k⟩|⟨e,k⟩
 .rw[e];exact uV.2 (by unfold dn;grind)
 .rw[e];exact uA.2 (by unfold dn;grind)
 .exact absurd e h
def yM{d:aa}(h:d.half≠0):d.half=1\/d.half=2:=by
 rcases kz d with⟨e,_⟩|⟨e,_⟩|⟨e,_⟩
 .exact .inl e
 .exact .inr e
 .exact absurd e h
def Y4(ds:List aa)(u w:aa):Prop:=(dh u w/\ ∀d∈ds,¬(dh u d/\dh d w))\/((∀d∈ds,¬dh u d)/\ ∀d∈ds,¬dh d w)
structure Zn (ds:List aa):Prop where
 nz: ∀d∈ds,d.half≠0
 neg: ∀d∈ds,dn d∈ds
def nq(u v:aa):v.cross u= -u.cross v:=by unfold aa.cross;grind
def pj(u v:aa):u.cross (dn v)= -u.cross v:=by unfold aa.cross dn;grind
def uE(a b:Rat)(u w:aa):aa:=⟨a*u.x+b*w.x,a*u.y+b*w.y⟩
def Kv{a b:Rat}{u w:aa}(ha:0<a)(hb:0<b)(h:u.half=w.half)(hz:u.half≠0):(uE a b u w).half=u.half:=by
 rcases kz u with⟨e,k⟩|⟨e,k⟩|⟨e,k⟩
 .rw[e] at h⊢
  have k2:=uA.1 h.symm;refine uA.2 ?_;unfold uE;simp only;have p1: ∀z:Rat,0<z->0<a*z:=fun z hz=>fw ha hz;have p2: ∀z:Rat,0<z->0<b*z:=fun z hz=>fw hb hz;rcases k with k|⟨k,k'⟩<;>rcases k2 with l|⟨l,l'⟩
  .have:=p1 _ k;have:=p2 _ l;grind
  .have:=p1 _ k;rw[l];grind
  .have:=p2 _ l;rw[k];grind
  .have:=p1 _ k';have:=p2 _ l';rw[k,l];grind
 .rw[e] at h⊢
  have k2:=uV.1 h.symm;refine uV.2 ?_;unfold uE;simp only;have p1: ∀z:Rat,z<0->a*z<0:=fun z hz=>by have:=fw (a:=a) (b:= -z) ha (by grind);grind
  have p2: ∀z:Rat,z<0->b*z<0:=fun z hz=>by have:=fw (a:=b) (b:= -z) hb (by grind);grind
  rcases k with k|⟨k,k'⟩<;>rcases k2 with l|⟨l,l'⟩
  .have:=p1 _ k;have:=p2 _ l;grind
  .have:=p1 _ k;rw[l];grind
  .have:=p2 _ l;rw[k];grind
  .have:=p1 _ k';have:=p2 _ l';rw[k,l];grind
 .exact absurd e hz
end Go.Sx
end
section
namespace Go.Sx
open Go
inductive OT where
 |z (π:List (Nat×Bool))
 |q (i:Nat) (t:OT)
 |a (i:Nat) (t:OT)
 |c (i:Nat) (t r:OT)
def OT.sz:OT->Nat
 | .z _=>0
 | .q _ t=>t.sz+1
 | .a _ t=>t.sz+1
 | .c _ t r=>t.sz+r.sz+1
def OT.d:OT->Nat
 | .z π=>π.length
 | .q _ t=>t.d+1
 | .a _ t=>t.d+1
 | .c _ t r=>Nat.max (t.d+1) r.d
section
variable {P:Program} {ops:Array Oper} {Q:Exit->Act->World->Prop} {S:World->Prop} {π₂:List (Nat×Bool)}
def qn(P:Program)(ops:Array Oper)(Q:Exit->Act->World->Prop)(K:(World->Prop)->Act->World->Prop):List Nat->OT->(World->Prop)->Act->World->Prop
 |ks, .z π,S,a,w=>s7 P ops Q K ks π S a w
 |ks, .q i t,S,a,w=> ∃o v,ops[i]? =some o/\S w/\YieldsIf P ops S o v a/\qn P ops Q K ks t S (a.put o.dst v) w
 |ks, .a i t,S,a,w=>wpOp P ops Q i (qC S (qn P ops Q K ks t)) a w/\
   ∀j,(h:j∈ks)->wpOp P ops Q j (qC S (qn P ops Q K (bt ks j) (.a i t))) a w
 |ks, .c i t r,S,a,w=>wpOp P ops Q i (qC S (qn P ops Q K ks t)) a w/\qn P ops Q K ks r S a w/\
   ∀j,(h:j∈ks)->wpOp P ops Q j (qC S (qn P ops Q K (bt ks j) (.c i t r))) a w
termination_by ks t=>ks.length+t.sz
decreasing_by
 all_goals (first|(have:=CO h;simp only[OT.sz] at*;omega)|(simp only[OT.sz];omega))
def nP(ops:Array Oper)(fin:Nat->Bool)(π₂:List (Nat×Bool)):Nat->Bool->List Nat->OT->Array Bool->List Nat->Bool
 |0,_,_,_,_,_=>false
 |n+1,false,ks, .z π,l,_=>u6 ops fin π₂ n ks π l
 |_+1,true,_, .z _,_,_=>false
 |n+1,false,ks, .q i t,l,_=>sE ops fin l i&&nP ops fin π₂ n false ks t (l.setIfInBounds i true) []
 |_+1,true,_, .q _ _,_,_=>false
 |n+1,true,ks, .a i t,l,rs=>rs.all (fun j=>Nat.beq j i)&&nP ops fin π₂ n false ks t (l.setIfInBounds i true) []
 |n+1,false,ks, .a i t,l,_=>!(Region.ready .any ops l).isEmpty&&(Region.ready .any ops l).all (fun j=>Nat.beq j i||ks.contains j)&&nP ops fin π₂ n false ks t (l.setIfInBounds i true) []&&ks.all fun j=>nP ops fin π₂ n false (bt ks j) (.a i t) (l.setIfInBounds j true) []
 |n+1,true,ks, .c i t r,l,rs=>nP ops fin π₂ n false ks t (l.setIfInBounds i true) []&&nP ops fin π₂ n true ks r l (bt rs i)
 |n+1,false,ks, .c i t r,l,_=>!(Region.ready .any ops l).isEmpty&&nP ops fin π₂ n false ks t (l.setIfInBounds i true) []&&nP ops fin π₂ n true ks r l (bt ((Region.ready .any ops l).filter fun j=>!ks.contains j) i)&&ks.all fun j=>nP ops fin π₂ n false (bt ks j) (.c i t r) (l.setIfInBounds j true) []
end
section
variable {P:Program} {GB:Gh} {C:az} {n:Nat} {fr fr':di} {own own' own0 own1 own1':List cj} {bs bs0 bs1 bs1':List cI} {ops:Array Oper} {Q:Exit->Act->World->Prop} {fd:List FD} {π₂:List (Nat×Bool)} {t r:OT}
abbrev ZQ (P:Program) (ops:Array Oper) (Q:Exit->Act->World->Prop) (K:(World->Prop)->Act->World->Prop) (t:OT):List Nat->(World->Prop)->Act->World->Prop:=fun ks S=>qn P ops (mv Q) K ks t S
end
end Go.Sx
end
section
namespace Go.Sx
open Go Go.Proofs Tryz
variable {GB:Gh}
theorem LB.rev{l:ab}(h:LB l):LB l.rev:=⟨⟨by rw[show l.rev.a= -l.a from J,gV];exact h.bl.a,by rw[show l.rev.b= -l.b from J,gV];exact h.bl.b,by rw[show l.rev.c= -l.c from J,gV];exact h.bl.c⟩⟩
def In{α:Type}{p:α->Bool}: ∀{xs:List α} {n:Nat},n<=xs.length->(∀j (h:j<xs.length),j<n->p xs[j]=true)->(∀h:n<xs.length,p xs[n]=false)->(xs.takeWhile p).length=n
 |[],n,h,_,_=>by simp at h;subst h;rfl
 |x::xs,0,_,_,h3=>by
  have:=h3 (by simp);simp only[mY] at this;simp[oQ,this]
 |x::xs,n+1,h1,h2,h3=>by
  have hx:=h2 0 (by simp) (by omega);simp only[mY] at hx;rw[oQ,if_pos hx,bR];rw[In (n:=n) (by simpa using h1) (fun j h hj=>by have:=h2 (j+1) (by simpa using h) (by omega);simpa using this) (fun h=>by have:=h3 (by simpa using h);simpa using this)]
structure Cst (c:List ab) (k:Nat) (xs:List ab):Prop where
 le:k<=c.length
 f:zP c (c.drop k) xs=mF c
 m: ∀m∈xs,m∈c
 n:xs.length<=k
def EY(c:List ab):Bool:=if(((c.map eL).length:Nat):Int)=0 then true else decide ((0:Int)<((((mF c).map eL).length:Nat):Int))
section
variable {α:Type} (c:α->α->Int)
def de(x:α):List α->List α
 |[]=>[x]
 |u::t=>if c u x<0 then u::de x t else if c u x=0 then u::t else x::u::t
def jH(x:α)(xs:List α):Nat:=(xs.takeWhile fun u=>decide (c u x<0)).length
def VI(x:α)(xs:List α):jH c x xs<=xs.length:=(List.takeWhile_sublist _).length_le
def GO{x:α}{xs:List α}{n:Nat}(h1:n<=xs.length)(h2: ∀j (h:j<xs.length),j<n->c xs[j] x<0)(h3: ∀h:n<xs.length,¬c xs[n] x<0):jH c x xs=n:=
 In h1 (fun j h hj=>decide_eq_true (h2 j h hj)) (fun h=>decide_eq_false (h3 h))
def IH{x:α}: ∀{xs:List α} {n:Nat},jH c x xs=n->(h:n<xs.length)->c xs[n] x=0->de c x xs=xs
 |[],n,_,h,_=>by simp at h
 |u::t,n,hn,h,e=>by
  rw[de];unfold jH at hn;rw[oQ] at hn;by_cases hu:c u x<0
  .rw[if_pos hu]
   rw[if_pos (by simpa using hu)] at hn;obtain⟨k,rfl⟩: ∃k,n=k+1:=⟨n-1,by simp at hn;omega⟩;rw[IH (xs:=t) (n:=k) (by unfold jH;simpa using hn) (by simpa using h) (by simpa using e)]
  .rw[if_neg (by simpa using hu)] at hn
   simp at hn;subst hn;rw[if_neg hu,if_pos (by simpa using e)]
def CA{x:α}: ∀{xs:List α} {n:Nat},jH c x xs=n->(∀h:n<xs.length,c xs[n] x≠0)->de c x xs=xs.take n++x::xs.drop n
 |[],n,hn,_=>by simp[jH] at hn;subst hn;rfl
 |u::t,n,hn,e=>by
  rw[de];unfold jH at hn;rw[oQ] at hn;by_cases hu:c u x<0
  .rw[if_pos hu]
   rw[if_pos (by simpa using hu)] at hn;obtain⟨k,rfl⟩: ∃k,n=k+1:=⟨n-1,by simp at hn;omega⟩;rw[CA (xs:=t) (n:=k) (by unfold jH;simpa using hn) (fun h=>by have:=e (by simpa using h);simpa using this)];simp
  .rw[if_neg (by simpa using hu)] at hn
   simp at hn;subst hn;have:=e (by simp);rw[if_neg hu,if_neg (by simpa using this)];rfl
def Jr(x:α): ∀(xs:List α),(de c x xs).length<=xs.length+1
 |[]=>aM _
 |u::t=>by
  have:=Jr x t;rw[de];split
  .simp;omega
  .split<;>simp
def Aq{x y:α}: ∀{xs:List α},y∈de c x xs->y=x\/y∈xs
 |[],h=>by rw[de,aL] at h;exact .inl h
 |u::t,h=>by
  rw[de] at h;split at h
  .rcases aR.1 h with rfl|h
   .exact .inr aX
   .rcases Aq h with h|h
    .exact .inl h
    .exact .inr (aK _ h)
  .split at h
   .exact .inr h
   .rcases aR.1 h with rfl|h
    .exact .inl J
    .exact .inr h
def dP(l:List α):List α:=l.foldl (fun out x=>de c x out) []
def Cp: ∀(l o:List α),(l.foldl (fun out x=>de c x out) o).length<=l.length+o.length
 |[],o=>by simp
 |x::t,o=>by
  have:=Cp t (de c x o);have:=Jr c x o;simp only[gM,bR];omega
def tf{y:α}: ∀{l o:List α},y∈l.foldl (fun out x=>de c x out) o->y∈l\/y∈o
 |[],o,h=> .inr h
 |x::t,o,h=>by
  rcases tf (l:=t) h with h|h
  .exact .inl (aK _ h)
  .rcases Aq c h with rfl|h
   .exact .inl aX
   .exact .inr h
end
def zL{α β:Type}{f:α->β}{l:List α}{k:Nat}{x:α}(h:l[k]? =some x):(l.take k).map f++[f x]=(l.take (k+1)).map f:=by
 rw[cX,h,cK];rfl
def TV{n i:Nat}[h:BN n i](hi:i<=20000000:=by decide):PF GB prog 144 [dN n] (dN n):=by
 have hl:=gP h.h;have:=yW (GB:=GB) (ds:=dg n) (dH n) (by omega);rw[cd,<-DB] at this;exact this
def No(z:Int):lO (decide (z<0)) (dg z.natAbs)=z:=by
 unfold lO;rw[cd];split<;>(rename_i h;simp at h;omega)
def NR{z:Int}{i:Nat}[h:BI z i](hi:i<=20000000:=by decide):PF GB prog 85 [eI z] (eI z):=by
 have hl:=gP h.h;have:=F6 (GB:=GB) (neg:=decide (z<0)) (ds:=dg z.natAbs) (dH _) (by omega);rw[No,<-DB] at this;exact this
def Ei{n:Nat}(h:0<n): ¬((((dg n).map dU).length:Nat):Int)=0:=by
 rw[aZ];have:=lf (n:=n);omega
instance BQ.m1':BQ (((-1:Int):Int):Rat) 2:=⟨by decide,by decide⟩
instance BQ.m1:BQ (-1:Rat) 2:=⟨by decide,by decide⟩
def Fv{q:Rat}{i:Nat}[h:BQ q i](hi:i<=20000000:=by decide):PF GB prog 129 [eR q] (eQ q):=by
 have hd:=q.den_pos;refine fn func129 J J ntmps129 J J (fun C=>?_);refine cl (fu:=⟨8⟩) J (TV (n:=q.den) hi) J<|dq J (by show some (decide _)=some false;rw[decide_eq_false (Ei hd)]) J<|cl J (NR (z:=q.num) hi) J<|cl J (rO (x:=q.num) (d:=q.den) hd (by omega) (by omega)) J<|rz J (by rw[nK];rfl)
def xh{q:Rat}{i:Nat}[h:BQ q i](hi:i<=400000000:=by decide):PF GB prog 51 [eQ q] (eR q):=by
 refine fn func51 J J ntmps51 J J (fun C=>?_);refine cl J (P1 (z:=q.num) hi) J<|cl J (jw (q:=q)) J<|cl J (Ee (a:=q.den) hi) J<|rz J J
def QH{p:aa}{i:Nat}[h:aq p i](hi:i<=20000000:=by decide):PF GB prog 77 [dy p] (eP p):=by
 refine fn func77 J J ntmps77 J J (fun C=>?_);refine cl J (Fv (q:=p.x) hi) J<|cl J (Fv (q:=p.y) hi) J<|rz J J
def tM{p:aa}{i:Nat}[h:aq p i](hi:i<=20000:=by decide):PF GB prog 19 [eP p] (dy p):=by
 refine fn func19 J J ntmps19 J J (fun C=>?_);refine cl J (xh (q:=p.x) (i:=i) (by omega)) J<|cl J (xh (q:=p.y) (i:=i) (by omega)) J<|rz J J
def qr{α:Type}(f:α->DV)(l:List α):(l.map f).length=l.length:=aZ ..
def kO(ps:List aa):dl 6 (ps.map eP):=fun d hd=>by
 obtain⟨u,_,rfl⟩:=bV.1 hd;exact⟨rfl,rfl⟩
def Vs(ps:List aa):dl 6 (ps.map dy):=fun d hd=>by
 obtain⟨u,_,rfl⟩:=bV.1 hd;exact⟨rfl,rfl⟩
def Nd{ps:List aa}(hb: ∀p∈ps,aq p 1200)(hn:ps.length<=1000000):PF GB prog 37 [.sl (ps.map dy)] (.sl (ps.map eP)):=by
 have hm:=qr dy ps;refine fn (fu:=⟨15⟩) func37 J J ntmps37 J J (fun C=>?_);refine ah 7 (.d (vI (ps.length:Nat))) J (by rw[hm]<;>rfl)<|gx J<|nr 3 3 70 6 J J J<|lp (X:=Nat) (fun k=>[(8, .d (vI (k:Nat))),(3, .rw 3)]) (fun k=>[(3,some (.b 70 6 ((ps.take k).map eP) true))]) (fun k=>k<=ps.length) (fun k=>ps.length-k) 0 J (bJ _) (fun _=>J) (fun k hk=>?_);have hml:=qr eP (ps.take k);rw[aS] at hml;refine br J J J (fun hc9=>?_) (fun hc9=>?_)
 .
  obtain⟨z,hz⟩: ∃s,ps[k]? =some s:=⟨_,aQ (by omega)⟩;have hzm:=aW hz;refine ix _ J (b8 hz) J<|cl J (QH (p:=z) (h:=hb z hzm)) J<|rf J J<|ap ((ps.take (k+1)).map eP) J (zL hz) (kO [z]) J<|d4 16 3 J<|at_ (k+1) ⟨(by omega),(by omega)⟩
 .
  obtain rfl:k=ps.length:=by omega
  refine gO 3 J<|rz J (by rw[bT];rfl)
def Dv{ps:List aa}(hb: ∀p∈ps,aq p 1200)(hn:ps.length<=1000000):PF GB prog 25 [.sl (ps.map eP)] (.sl (ps.map dy)):=by
 have hm:=qr eP ps;refine fn (fu:=⟨15⟩) func25 J J ntmps25 J J (fun C=>?_);refine ah 7 (.d (vI (ps.length:Nat))) J (by rw[hm]<;>rfl)<|gx J<|nr 3 3 62 6 J J J<|lp (X:=Nat) (fun k=>[(8, .d (vI (k:Nat))),(3, .rw 3)]) (fun k=>[(3,some (.b 62 6 ((ps.take k).map dy) true))]) (fun k=>k<=ps.length) (fun k=>ps.length-k) 0 J (bJ _) (fun _=>J) (fun k hk=>?_);have hml:=qr dy (ps.take k);rw[aS] at hml;refine br J J J (fun hc9=>?_) (fun hc9=>?_)
 .
  obtain⟨z,hz⟩: ∃s,ps[k]? =some s:=⟨_,aQ (by omega)⟩;have hzm:=aW hz;refine ix _ J (b8 hz) J<|cl J (tM (p:=z) (h:=hb z hzm)) J<|rf J J<|ap ((ps.take (k+1)).map dy) J (zL hz) (Vs [z]) J<|d4 16 3 J<|at_ (k+1) ⟨(by omega),(by omega)⟩
 .
  obtain rfl:k=ps.length:=by omega
  refine gO 3 J<|rz J (by rw[bT];rfl)
def cb(p q:aa):Int:=if bG p.x q.x≠0 then bG p.x q.x else bG p.y q.y
def KV{p q:aa}{i j:Nat}[hp:aq p i][hq:aq q j](hi:i<=100000:=by decide)(hj:j<=100000:=by decide):PF GB prog 78 [eP p,eP q] (vI (cb p q)):=by
 refine fn func78 J J ntmps78 J J (fun C=>?_);refine cl J (so (a:=p.x) (b:=q.x) (by omega) (by omega)) J<|br J J J (fun hc12=>?_) (fun hc12=>?_)
 .
  exact rz J (by unfold cb;rw[if_pos hc12];rfl)
 .
  refine cl J (so (a:=p.y) (b:=q.y) (by omega) (by omega)) J<|rz J (by unfold cb;rw[if_neg hc12];rfl)
def mP(l:ab):Bool:=decide (l.a<0\/(l.a=0/\l.b<0))
def ab.canon(l:ab):ab:=if mP l then l.rev else l
def uc(a:Int):a.sign<0↔a<0:=by
 rcases nQ a 0 with h|h|h
 .rw[dK h];omega
 .subst h;simp
 .rw[eY h];omega
def kG(a:Int):a.sign=0↔a=0:=gX
instance LB.canon (l:ab) [h:LB l]:LB l.canon:=by unfold ab.canon;split;exact LB.rev h;exact h
def nE{α β:Type}(c:β->β->Int)(g:α->β)(l:List α)(k:Nat):List β:=dP c ((l.take k).map g)
section
variable {α β:Type} {c:β->β->Int} {g:α->β} {l:List α} {k:Nat}
def BR{x:α}(h:l[k]? =some x):nE c g l (k+1)=de c (g x) (nE c g l k):=by
 unfold nE dP;rw[cX,h,Option.toList_some,cK,List.foldl_append];rfl
def PC(h:k=l.length):nE c g l k=dP c (l.map g):=by unfold nE;rw[h,bT]
def MX:(nE c g l k).length<=k:=by
 have:=Cp c ((l.take k).map g) [];have h2:((l.take k).map g).length<=k:=by rw[aZ,aS];omega
 rw[kJ] at this;unfold nE dP;omega
def QY{y:β}(h:y∈nE c g l k): ∃x∈l,y=g x:=by
 rcases tf c h with h|h
 .obtain⟨x,hx,rfl⟩:=bV.1 h
  exact⟨x,dX hx,J⟩
 .cases h
end
def HI{α:Type}{f:α->DV}{s:Nat}(ok: ∀l:List α,dl s (l.map f))(xs:List α)(n:Nat):dl s ((xs.map f).take n):=fun d hd=>ok xs d (dX hd)
def Dg{α:Type}{f:α->DV}{s:Nat}(ok: ∀l:List α,dl s (l.map f))(xs:List α)(n m:Nat):dl s (((xs.map f).take n).drop m):=fun d hd=>ok xs d (dX (pN hd))
def Ev{α:Type}{f:α->DV}{s:Nat}(ok: ∀l:List α,dl s (l.map f))(xs:List α)(n m:Nat)(x:α):dl s ([f x]++((xs.map f).take n).drop m):=fun d hd=>by
 rcases cM.1 hd with h|h
 .exact ok [x] d h
 .exact Dg ok xs n m d h
def zd{α:Type}{f:α->DV}{l:List α}{i:Nat}(h:i<l.length:=by omega):(l.map f)[(i:Int).toNat]? =some (f l[i]):=by
 rw[fU,fK,aQ h];rfl
def yy{ps:List aa}(hb: ∀p∈ps,aq p 1200)(hn:ps.length<=100000:=by omega):PF GB prog 38 [.sl (ps.map eP)] (.sl ((dP cb ps).map eP)):=by
 have hm':=qr eP ps;refine fn (fu:=⟨15⟩) func38 J J ntmps38 J J (fun C=>?_);refine ah 8 (.d (vI (ps.length:Nat))) J (by rw[hm'];rfl)<|gx J<|MA 3 J<|lp (X:=List aa×Nat) (fun⟨xs,k⟩=>[(9, .d (vI (k:Nat))),(8, .d (vI (ps.length:Nat))),(7, .d (.sl (ps.map eP))),(0, .d (.sl (ps.map eP))),(3, .d (.sl (xs.map eP)))]) (fun⟨xs,k⟩=>[]) (fun⟨xs,k⟩=>xs=nE cb id ps k/\k<=ps.length) (fun⟨xs,k⟩=>ps.length-k) ⟨[],0⟩ J ⟨J,bJ _⟩ (fun _=>J) (fun⟨xs,k⟩ hk=>?_)
 try dsimp only at hk⊢
 obtain⟨hS,hkl⟩:=hk;refine br J J J (fun hc10=>?_) (fun hc10=>?_)
 .
  have hk:k<ps.length:=by omega
  obtain⟨m,hm⟩: ∃m,m=ps[k]:=⟨_,rfl⟩;have hz:ps[k]? =some m:=by rw[hm];exact aQ hk
  haveI hmb:aq m 1200:=hm▸hb _ (iL hk);have hxl:=qr eP xs;have hxn:xs.length<=k:=by rw[hS];exact MX
  have hxb: ∀q∈xs,aq q 1200:=fun q hq=>by rw[hS] at hq;obtain⟨z,hz,he⟩:=QY hq;rw[he];exact hb z hz
  refine ix (fu:=⟨1⟩) _ J (zd hk) J<|ah 12 (.d (eP m)) J (by rw[hm];rfl)<|gx (fu:=⟨10⟩) J<|mg (fu:=⟨5⟩) (X:=Unit) (fun _=>[(9, .d (vI (k:Nat))),(8, .d (vI (ps.length:Nat))),(7, .d (.sl (ps.map eP))),(0, .d (.sl (ps.map eP))),(3, .d (.sl (xs.map eP))),(5, .ov 5 0),(6, .d (vI (jH cb m xs:Nat)))]) (fun _=>[(5,some (.o 70 [.d ((.v (.bool (decide (m.x.num<0))))), .d (dN m.x.num.natAbs), .d (dD m.x.den), .d ((.v (.bool (decide (m.y.num<0))))), .d (dN m.y.num.natAbs), .d (dD m.y.den)] true))]) (fun _=>True) [9,8,7,0,3,5,6] [5] rfl ?_ (fun _=>J) (fun _ _=>?_)
  .
   refine gx J<|lp (fu:=⟨6⟩) (X:=Nat) (fun n=>[(9, .d (vI (k:Nat))),(8, .d (vI (ps.length:Nat))),(7, .d (.sl (ps.map eP))),(0, .d (.sl (ps.map eP))),(3, .d (.sl (xs.map eP))),(5, .ov 5 0),(6, .d (vI (n:Nat)))]) (fun n=>[(5,some (.o 70 [.d ((.v (.bool (decide (m.x.num<0))))), .d (dN m.x.num.natAbs), .d (dD m.x.den), .d ((.v (.bool (decide (m.y.num<0))))), .d (dN m.y.num.natAbs), .d (dD m.y.den)] true))]) (fun n=>n<=xs.length/\ ∀j (h:j<xs.length),j<n->cb xs[j] m<0) (fun n=>xs.length-n) 0 J ⟨bJ _,fun j _ hj=>absurd hj (by omega)⟩ (fun _=>J) (fun n hk=>?_);obtain⟨n1,n2⟩:=hk;refine tq (v2:=fun hg16=>by simp only[aj];kernel_rfl) J J J J (fun hg16=>?_) (fun hg16=>?_)
   .
    refine ix _ J (zd) J<|cl J (KV (p:=xs[n]'(by omega)) (q:=m) (hp:=hxb _ (iL (by omega))) (hq:=hmb)) J<|br J J J (fun hc25=>?_) (fun hc25=>?_)
    .
     exact at_ (n+1) ⟨⟨by omega,fun j h hj=>by by_cases q:j=n;(subst q;exact hc25);exact n2 j h (by omega)⟩,(by omega)⟩
    .
     have hidx:jH cb m xs=n:=GO cb n1 n2 (fun h=>hc25);exact at_ () trivial
   .
    have hidx:jH cb m xs=n:=GO cb n1 n2 (fun h=>absurd h (by omega));exact at_ () trivial
  .
   obtain⟨n,hnx⟩: ∃n,jH cb m xs=n:=⟨_,rfl⟩;rw[hnx];have hnl:n<=xs.length:=by rw[<-hnx];exact VI _ _ _
   refine tq (v1:=fun hg31=>by simp only[aj];kernel_rfl) J J J J (fun hg31=>?_) (fun hg31=>?_)
   .
    have hnew: ∀h:n<xs.length,cb xs[n] m≠0:=fun h=>absurd h (by omega);obtain⟨ys,hys⟩: ∃ys,ys=xs.take n++m::xs.drop n:=⟨_,rfl⟩;have hin:de cb m xs=ys:=by rw[hys];exact CA cb hnx hnew
    have hyl:ys.length<=xs.length+1:=by rw[hys];simp;omega
    refine s3 n _ J J J J (kO _) (by rw[hxl];exact hnl) J<|ro J J<|jx n xs.length _ J J (by rw[hxl]) J (kO _) hnl (by omega) J<|ap _ J J (Dg kO _ _ _) J<|Gl (hv:=by simp only[aj];exact⟨by kernel_rfl,by omega⟩) (ho:=fun _=>⟨HI kO _ _,by simp⟩) (ys.map eP) J (by rw[hys,cK,bL,jL,pM,cW (l:=xs.map eP) (i:=xs.length) (by simp)];rfl) (Ev kO _ _ _ _) J<|at_ ⟨ys,k+1⟩ (by dsimp only;exact⟨⟨by rw[BR hz,<-hS];exact hin.symm,by omega⟩,(by omega)⟩)
   .
    refine ix _ J (zd) J<|cl J (KV (p:=xs[n]'(by omega)) (q:=m) (hp:=hxb _ (iL (by omega))) (hq:=hmb)) J<|br J J J (fun hc40=>?_) (fun hc40=>?_)
    .
     have hnew: ∀h:n<xs.length,cb xs[n] m≠0:=fun h=>hc40;obtain⟨ys,hys⟩: ∃ys,ys=xs.take n++m::xs.drop n:=⟨_,rfl⟩;have hin:de cb m xs=ys:=by rw[hys];exact CA cb hnx hnew
     have hyl:ys.length<=xs.length+1:=by rw[hys];simp;omega
     refine s3 n _ J J J J (kO _) (by rw[hxl];exact hnl) J<|ro J J<|jx n xs.length _ J J (by rw[hxl]) J (kO _) hnl (by omega) J<|ap _ J J (Dg kO _ _ _) J<|Gl (hv:=by simp only[aj];exact⟨by kernel_rfl,by omega⟩) (ho:=fun _=>⟨HI kO _ _,by simp⟩) (ys.map eP) J (by rw[hys,cK,bL,jL,pM,cW (l:=xs.map eP) (i:=xs.length) (by simp)];rfl) (Ev kO _ _ _ _) J<|at_ ⟨ys,k+1⟩ (by dsimp only;exact⟨⟨by rw[BR hz,<-hS];exact hin.symm,by omega⟩,(by omega)⟩)
    .
     have hin:de cb m xs=xs:=IH cb hnx (by omega) (Decidable.not_not.1 hc40);exact at_ ⟨xs,k+1⟩ (by dsimp only;exact⟨⟨by rw[BR hz,<-hS];exact hin.symm,by omega⟩,(by omega)⟩)
 .
  have hfin:dP cb ps=xs:=by rw[hS,PC (by omega),List.map_id]
  exact rz J (by rw[hfin];rfl)
def lH(ls:List ab):List ab:=dP cF (ls.map ab.canon)
def LD{ls:List ab}{y:ab}(h:y∈lH ls): ∃x∈ls,y=x.canon:=by
 rcases tf cF h with h|h
 .obtain⟨x,hx,rfl⟩:=bV.1 h;exact⟨x,hx,rfl⟩
 .cases h
def wY{α:Type}{c:α->α->Int}(hc: ∀u x,c u x=0->u=x){x y:α}: ∀{xs:List α},y=x\/y∈xs->y∈de c x xs
 |[],h=>by
  rcases h with rfl|h
  .rw[de];exact aL.2 J
  .cases h
 |u::t,h=>by
  rw[de];split
  .rcases h with rfl|h
   .exact aK _ (wY hc (.inl J))
   .rcases aR.1 h with rfl|h
    .exact aX
    .exact aK _ (wY hc (.inr h))
  .split
   .rename_i h0
    rcases h with rfl|h
    .rw[<-hc _ _ h0];exact aX
    .exact h
   .rcases h with rfl|h
    .exact aX
    .exact aK _ h
def Ft{α:Type}{c:α->α->Int}(hc: ∀u x,c u x=0->u=x){y:α}: ∀{l o:List α},y∈l\/y∈o->y∈l.foldl (fun out x=>de c x out) o
 |[],o,h=>h.elim (fun h=>by cases h) id
 |x::t,o,h=>by
  refine Ft hc (l:=t) ?_;rcases h with h|h
  .rcases aR.1 h with rfl|h
   .exact .inr (wY hc (.inl J))
   .exact .inl h
  .exact .inr (wY hc (.inr h))
def PD{ls:List ab}{x:ab}(h:x∈ls):x.canon∈lH ls:=
 Ft (fun u x e=>(Ce u x).1 e) (.inl (mQ h))
def Oc(l:ab)(p:aa):l.canon.value p=l.value p\/l.canon.value p= -l.value p:=by
 unfold ab.canon;split
 .exact .inr (T9 l p)
 .exact .inl J
def zc(a b:Tr):List aa:=K8 (lH (a.lns++b.lns))
def ZE(a b:Tr):Bool:=(zc a b).all fun p=>o7 a p==o7 b p
def aGg(f:Bool->Bool->Bool)(a b:Tr):Bool:=(zc a b).any fun p=>f (o7 a p) (o7 b p)
def YU(v:Bool)(t:Tr):Bool:=decide ((t.restrict []).isLeaf=true/\(t.restrict []).code=v)
def D8{α:Type}{c:α->α->Int}(hT: ∀u v w,c u v<0->c v w<0->c u w<0)(hA: ∀u v,¬c u v<0->c u v≠0->c v u<0){x:α}: ∀{xs:List α},xs.Pairwise (fun a b=>c a b<0)->(de c x xs).Pairwise (fun a b=>c a b<0)
 |[],_=>by rw[de];exact List.pairwise_singleton _ _
 |u::t,h=>by
  obtain⟨h1,h2⟩:=bZ.1 h;rw[de];split
  .rename_i hu
   refine bZ.2 ⟨fun y hy=>?_,D8 hT hA h2⟩;rcases Aq c hy with rfl|hy
   .exact hu
   .exact h1 y hy
  .rename_i hu
   split
   .exact h
   .rename_i hz
    have hx:=hA u x hu hz;refine bZ.2 ⟨fun y hy=>?_,h⟩;rcases aR.1 hy with rfl|hy
    .exact hx
    .exact hT _ _ _ hx (h1 y hy)
def yU{α:Type}{c:α->α->Int}(hT: ∀u v w,c u v<0->c v w<0->c u w<0)(hA: ∀u v,¬c u v<0->c u v≠0->c v u<0): ∀{l o:List α},o.Pairwise (fun a b=>c a b<0)->(l.foldl (fun out x=>de c x out) o).Pairwise (fun a b=>c a b<0)
 |[],o,h=>h
 |x::l,o,h=>yU (l:=l) (o:=de c x o) hT hA (D8 hT hA h)
def n7(l m:ab):cF l m<0↔l.a<m.a\/(l.a=m.a/\(l.b<m.b\/(l.b=m.b/\l.c<m.c))):=by
 unfold cF;split
 .rename_i h;rw[uc];rw[ne_eq,kG] at h;omega
 .rename_i h;rw[ne_eq,Decidable.not_not,kG] at h
  split
  .rename_i k;rw[uc];rw[ne_eq,kG] at k;omega
  .rename_i k;rw[ne_eq,Decidable.not_not,kG] at k;rw[uc];omega
def zX(l m:ab):cF l m=0↔l.a=m.a/\l.b=m.b/\l.c=m.c:=by
 unfold cF;split
 .rename_i h;rw[kG];rw[ne_eq,kG] at h;omega
 .rename_i h;rw[ne_eq,Decidable.not_not,kG] at h
  split
  .rename_i k;rw[kG];rw[ne_eq,kG] at k;omega
  .rename_i k;rw[ne_eq,Decidable.not_not,kG] at k;rw[kG];omega
def NV(ls:List ab):(lH ls).Pairwise (fun a b=>cF a b<0):=
 yU (fun u v w h k=>by rw[n7] at*;omega) (fun u v h k=>by rw[n7] at*;rw[ne_eq,zX] at k;omega) List.Pairwise.nil
def Xq(L:List ab)(p:aa):List aa:=L.flatMap fun l=>if Int.sign (l.value p).num=0 then [l.dir,dn l.dir] else []
def Sg{u v:aa}:0<ck u v↔dh v u:=by
 unfold ck dh;split
 .rename_i h;exact⟨fun e=>absurd e (by decide),fun e=>by omega⟩
 .rename_i h
  split
  .rename_i h2;exact⟨fun _=> .inl h2,fun _=>by decide⟩
  .rename_i h2
   have e:v.half=u.half:=by omega
   rw[nq u v];constructor
   .intro k
    have:Int.sign (u.cross v).num<0:=by omega
    rw[zp] at this;exact .inr ⟨e,by grind⟩
   .rintro (k|⟨_,k⟩)
    .omega
    .have:Int.sign (u.cross v).num<0:=(zp _).2 (by grind)
     omega
def dh.trans{u v w:aa}(hu:u.half≠0)(hv:v.half≠0)(hw:w.half≠0)(h:dh u v)(k:dh v w):dh u w:=by
 rcases h with h|⟨h,h'⟩<;>rcases k with k|⟨k,k'⟩
 .exact .inl (by omega)
 .exact .inl (by omega)
 .exact .inl (by omega)
 .refine .inr ⟨h.trans k,?_⟩
  have id1:u.cross w*v.y=u.cross v*w.y+v.cross w*u.y:=by unfold aa.cross;grind
  rcases kz v with⟨x,q⟩|⟨x,q⟩|⟨x,q⟩
  .rw[x] at h k
   have qu:=uA.1 h;have qw:=uA.1 k.symm;rcases q with q|⟨q,q'⟩
   .rw[<-wX q,id1]
    have wy:0<=w.y:=by grind
    have uy:0<=u.y:=by grind
    have a1:=ql (Rat.le_of_lt h') wy;rcases qu with qu|⟨qu,qu'⟩
    .have:=fw k' qu;grind
    .rcases qw with qw|⟨qw,qw'⟩
     .have:=fw h' qw;rw[qu];grind
     .exfalso
      have hx:v.cross w= -(w.x*v.y):=by unfold aa.cross;rw[qw];grind
      have:=fw qw' q;grind
   .exfalso
    have hx:u.cross v= -(v.x*u.y):=by unfold aa.cross;rw[q];grind
    have:=ql (a:=v.x) (b:=u.y) (Rat.le_of_lt q') (by grind);grind
  .rw[x] at h k
   have qu:=uV.1 h;have qw:=uV.1 k.symm;rcases q with q|⟨q,q'⟩
   .have e1:u.cross w* -v.y=u.cross v* -w.y+v.cross w* -u.y:=by grind
    rw[<-wX (k:= -v.y) (by grind),e1];have a1:=ql (a:=u.cross v) (b:= -w.y) (Rat.le_of_lt h') (by grind);rcases qu with qu|⟨qu,qu'⟩
    .have:=fw (a:=v.cross w) (b:= -u.y) k' (by grind);grind
    .rcases qw with qw|⟨qw,qw'⟩
     .have:=fw (a:=u.cross v) (b:= -w.y) h' (by grind);rw[qu];grind
     .exfalso
      have hx:v.cross w= -(-w.x* -v.y):=by unfold aa.cross;rw[qw];grind
      have:=fw (a:= -w.x) (b:= -v.y) (by grind) (by grind);grind
   .exfalso
    have hx:u.cross v= -(-v.x* -u.y):=by unfold aa.cross;rw[q];grind
    have:=ql (a:= -v.x) (b:= -u.y) (by grind) (by grind);grind
  .exact absurd x hv
def Da(S:List aa)(x:aa):Nat->Nat
 |0=>0
 |k+1=>if 0<ck (S.getD k ⟨0,0⟩) x then Da S x k else k+1
def Uv(S:List aa)(x:aa):List aa:=S.take (Da S x S.length)++x::S.drop (Da S x S.length)
def Vx(ds:List aa):List aa:=ds.foldl Uv []
structure Zp (L:List ab):Prop where
 ok: ∀l∈L,l.ok
 cn: ∀l∈L,mP l=false
 nd:L.Pairwise (fun a b=>a≠b)
def J8{l:ab}(h:l.ok):mP l.canon=false:=by
 have hn:=h.ne;unfold ab.Ne at hn;unfold ab.canon;split
 .rename_i k
  unfold mP at*;rw[decide_eq_true_eq] at k;rw[decide_eq_false_iff_not];show¬(-l.a<0\/(-l.a=0/\ -l.b<0));omega
 .rename_i k;simpa using k
def Kb{l:ab}(h:l.ok):l.dir.half≠0:=fun e=>by
 have hn:=h.ne;unfold ab.Ne at hn;rcases kz l.dir with⟨k,_⟩|⟨k,_⟩|⟨_,k1,k2⟩
 .rw[k] at e;cases e
 .rw[k] at e;cases e
 .unfold ab.dir at k1 k2
  simp only at k1 k2;apply hn;refine⟨?_,mJ.1 k2⟩;have:(l.a:Rat)=0:=by grind
  exact mJ.1 this
def xq(d:aa):dn (dn d)=d:=by unfold dn;cases d;simp
def Xb{l m:ab}(hl:l.ok)(hm:m.ok)(cl:mP l=false)(cm:mP m=false){p:aa}(h1:l.value p=0)(h2:m.value p=0)(hc:l.dir.cross m.dir=0):l=m:=by
 have key: ∀t,l.value (m.at t)=0:=fun t=>by
  obtain⟨s,rfl⟩:=Nf hm.ne h2;rw[F4] at h1⊢;have hk:m.cutK l=0:=by
   unfold ab.cutK;rw[<-Up];exact hc
  rw[hk] at h1⊢;grind
 rcases Rv hl hm key with e|e
 .exact e
 .exfalso
  have hn:=hm.ne;unfold ab.Ne at hn;rw[e] at cl;unfold mP at cl cm;rw[decide_eq_false_iff_not] at cl cm;have cl: ¬(-m.a<0\/(-m.a=0/\ -m.b<0)):=cl;omega
def Ie(v:aa):Nat:=Nat.gcd (v.x.num.natAbs*v.y.den) (v.y.num.natAbs*v.x.den)
def Hg(n:Int)(d g:Nat):Int:=if n<0 then-((n.natAbs*d/g:Nat):Int) else((n.natAbs*d/g:Nat):Int)
def Hu(v:aa):aa:=if v.half=0 then⟨0,0⟩ else⟨(Hg v.x.num v.y.den (Ie v):Int),(Hg v.y.num v.x.den (Ie v):Int)⟩
def US(ds:List aa)(i:Nat):List aa:=
 if ck (ds.getD i ⟨0,0⟩) (ds.getD ((i+1)%ds.length) ⟨0,0⟩)=0/\2<ds.length then []
 else if Int.sign ((ds.getD i ⟨0,0⟩).cross (ds.getD ((i+1)%ds.length) ⟨0,0⟩)).num=0 then [jF (ds.getD i ⟨0,0⟩)]
 else [eh (Hu (ds.getD i ⟨0,0⟩)) (Hu (ds.getD ((i+1)%ds.length) ⟨0,0⟩)) 1]
def Nh(ds:List aa):List aa:=if ds.length=0 then [⟨1,0⟩] else(List.range ds.length).flatMap (US ds)
def KG(L:List ab)(p:aa):List aa:=Nh (Vx (Xq L p))
def RY(t:Tr)(p:aa):Bool:=(KG (lH t.lns) p).any fun v=>(ny t p v).1
def VL(t:Tr)(p:aa):Bool:=(KG (lH t.lns) p).all fun v=>(ny t p v).1
def wJ:Tr->aa->List ab
 | .leaf _,_=>[]
 | .node l x y,p=>(if Int.sign (l.value p).num=0 then [l] else [])++((if 0<=Int.sign (l.value p).num then wJ x p else [])++(if Int.sign (l.value p).num<=0 then wJ y p else []))
def XU(t:Tr)(p:aa)(b:Bool):Prop:= ∃v,Gn (wJ t p) p v/\(ny t p v).1=b
def pB(ds:List aa)(i:Nat):aa:=
 if 0<Int.sign ((ds.getD i ⟨0,0⟩).cross (ds.getD ((i+1)%ds.length) ⟨0,0⟩)).num then(ds.getD i ⟨0,0⟩).add (ds.getD ((i+1)%ds.length) ⟨0,0⟩) else jF (ds.getD i ⟨0,0⟩)
def fG(ds:List aa):List aa:=if ds.length=0 then [⟨1,0⟩] else(List.range ds.length).map (pB ds)
def cv(v:aa):aa:=v.scale (rgcd v.x v.y)⁻¹
def FJ(t:Tr)(p:aa):List aa:=(wJ t p).flatMap fun l=>[cv l.dir,dn (cv l.dir)]
def lE(ds:List aa):List aa:=dP ck ds
def UL{x y:Rat}(h:x≠0\/y≠0):0<rgcd x y:=by
 unfold rgcd;have hd:0<x.den*y.den:=fX x.den_pos y.den_pos;have hg:0<Nat.gcd (x.num.natAbs*y.den) (y.num.natAbs*x.den):=by
  rcases h with h|h
  .exact iN _ (fX (Int.natAbs_pos.2 fun e=>h (iW.1 e)) y.den_pos)
  .exact jM _ (fX (Int.natAbs_pos.2 fun e=>h (iW.1 e)) x.den_pos)
 generalize Nat.gcd (x.num.natAbs*y.den) (y.num.natAbs*x.den)=g at*;generalize x.den*y.den=d at*;rw[<-zq];have h1:mkRat (g:Int) d=(g:Rat)/(d:Rat):=by rw[kM];rfl
 rw[zq,h1];have hg':(0:Rat)<(g:Rat):=by exact_mod_cast hg
 have hd':(0:Rat)<(d:Rat):=by exact_mod_cast hd
 have e:(g:Rat)/(d:Rat)*(d:Rat)=(g:Rat):=by grind
 exact(wX (k:=(d:Rat)) hd').1 (by rw[e];exact hg')
def QT{v:aa}(h:v.half≠0):v.x≠0\/v.y≠0:=by
 rcases kz v with⟨_,k⟩|⟨_,k⟩|⟨k,_⟩
 .rcases k with k|⟨_,k⟩
  .exact .inr (by grind)
  .exact .inl (by grind)
 .rcases k with k|⟨_,k⟩
  .exact .inr (by grind)
  .exact .inl (by grind)
 .exact absurd k h
def De{v:aa}(h:v.half≠0): ∃a:Rat,0<a/\cv v=⟨a*v.x,a*v.y⟩:=by
 have hg:=UL (QT h);refine⟨(rgcd v.x v.y)⁻¹,?_,?_⟩
 .generalize rgcd v.x v.y=g at*
  have e:g⁻¹*g=1:=by grind
  exact(wX (k:=g) hg).1 (by rw[e];decide)
 .unfold cv aa.scale
  simp only[aa.mk.injEq];constructor<;>grind
def Wu(v:aa):cv (dn v)=dn (cv v):=by
 have e:rgcd (-v.x) (-v.y)=rgcd v.x v.y:=by
  unfold rgcd;rw[kS,kS,nV,nV,gV,gV]
 unfold cv aa.scale dn;simp only[aa.mk.injEq,e];constructor<;>grind
def Lj{v:aa}(h:v.half≠0):(cv v).half=v.half:=by
 obtain⟨a,a1,e⟩:=De h;have:=Kv (a:=a) (b:=a) (u:=v) (w:=v) a1 a1 J h;rw[<-this];have h2:cv v=uE (a*(1/2)) (a*(1/2)) v v:=by rw[e];unfold uE;simp only[aa.mk.injEq];constructor<;>grind
 have h3:=Kv (a:=a*(1/2)) (b:=a*(1/2)) (u:=v) (w:=v) (fw a1 (by grind)) (fw a1 (by grind)) J h;rw[h2,h3,this]
def MR{u v:aa}:ck u v=0↔u.half=v.half/\u.cross v=0:=by
 unfold ck;split
 .constructor
  .intro h;exact absurd h (by decide)
  .intro h;omega
 .split
  .constructor
   .intro h;exact absurd h (by decide)
   .intro h;omega
  .constructor
   .intro h
    exact⟨by omega,(uu _).1 (by omega)⟩
   .intro h
    rw[(uu _).2 h.2];rfl
def yq{u v w:aa}(h:dh u v)(k:dh v w):dh u w:=by
 by_cases hu:u.half=0
 .by_cases hw:w.half=0
  .have z: ∀x y:aa,x.half=0->x.cross y=0:=fun x y hx=>by
    rcases kz x with⟨e,_⟩|⟨e,_⟩|⟨_,e1,e2⟩
    .rw[hx] at e;exact absurd e (by decide)
    .rw[hx] at e;exact absurd e (by decide)
    .unfold aa.cross;rw[e1,e2];grind
   rcases h with h|⟨h,h'⟩
   .rcases k with k|⟨k,k'⟩
    .omega
    .have hv:v.half≠0:=by omega
     omega
   .rw[z u v hu] at h';exact absurd h' (by decide)
  .refine .inl ?_
   have h1:=yM hw;omega
 .have hv:v.half≠0:=by
   intro e;rcases h with h|⟨h,_⟩
   .have:=yM hu;omega
   .omega
  have hw:w.half≠0:=by
   intro e;rcases k with k|⟨k,_⟩
   .have:=yM hv;omega
   .omega
  exact dh.trans hu hv hw h k
section
variable {α:Type} (c:α->α->Int)
def FB{x y:α}: ∀{xs:List α},y∈xs->y∈de c x xs
 |[],h=>by cases h
 |u::t,h=>by
  rw[de];split
  .rcases aR.1 h with rfl|h
   .exact aX
   .exact aK _ (FB h)
  .split
   .exact h
   .exact aK _ h
def Dr{x:α}: ∀{xs:List α},∃e∈de c x xs,e=x\/c e x=0
 |[]=>⟨x,aX, .inl J⟩
 |u::t=>by
  rw[de];split
  .obtain⟨e,h1,h2⟩:=Dr (x:=x) (xs:=t)
   exact⟨e,aK _ h1,h2⟩
  .split
   .exact⟨u,aX, .inr (by assumption)⟩
   .exact⟨x,aX, .inl J⟩
def D5{y:α}: ∀{l o:List α},y∈o->y∈l.foldl (fun out x=>de c x out) o
 |[],o,h=>h
 |x::t,o,h=>D5 (l:=t) (FB c h)
def Df{d:α}: ∀{l o:List α},d∈l-> ∃e∈l.foldl (fun out x=>de c x out) o,e=d\/c e d=0
 |[],o,h=>by cases h
 |x::t,o,h=>by
  rcases aR.1 h with rfl|h
  .obtain⟨e,h1,h2⟩:=Dr c (x:=d) (xs:=o)
   exact⟨e,D5 c (l:=t) h1,h2⟩
  .exact Df (l:=t) h
end
def Wz(ds:List aa):(lE ds).Pairwise dh:=by
 have:=yU (c:=ck) (fun u v w h k=>l9.2 (yq (l9.1 h) (l9.1 k))) (fun u v h k=>l9.2 (Sg.1 (by omega))) (l:=ds) (o:=[]) List.Pairwise.nil;exact this.imp fun h=>l9.1 h
def WN{l m:ab}(hl:l.ok)(hm:m.ok){p:aa}(h1:l.value p=0)(h2:m.value p=0){d e:aa}(hd:d=cv l.dir\/d=dn (cv l.dir))(he:e=cv m.dir\/e=dn (cv m.dir))(h:ck d e=0):d=e:=by
 obtain⟨hh,hc⟩:=MR.1 h;have zl:=Kb hl;have zm:=Kb hm;have zpl:(cv l.dir).half≠0:=by rw[Lj zl];exact zl
 have zpm:(cv m.dir).half≠0:=by rw[Lj zm];exact zm
 have cr:l.dir.cross m.dir=0:=by
  obtain⟨a,a1,e1⟩:=De zl;obtain⟨b,b1,e2⟩:=De zm;have c0:(cv l.dir).cross (cv m.dir)=0:=by
   rcases hd with rfl|rfl<;>rcases he with rfl|rfl
   .exact hc
   .rw[pj] at hc;grind
   .rw[nq,pj] at hc;rw[nq];grind
   .rw[pj,nq,pj] at hc;rw[nq];grind
  have e3:(cv l.dir).cross (cv m.dir)=(a*b)*l.dir.cross m.dir:=by rw[e1,e2];unfold aa.cross;grind
  have hab:=fw a1 b1;rw[e3] at c0;clear e1 e2 e3;generalize a*b=k at*;generalize l.dir.cross m.dir=z at*;rcases Wo z with q|q|q
  .exact q
  .have:=fw hab q;grind
  .have:=fw (a:=k) (b:= -z) hab (by grind);grind
 have dirR: ∀k:ab,k.rev.dir=dn k.dir:=fun k=>by
  unfold ab.dir ab.rev dn;simp only[aa.mk.injEq,qW]
  try constructor<;>grind
 have cdir: ∀k:ab,k.canon.dir=k.dir\/k.canon.dir=dn k.dir:=fun k=>by
  unfold ab.canon;split
  .exact .inr (dirR k)
  .exact .inl J
 have cval: ∀k:ab,k.value p=0->k.canon.value p=0:=fun k hk=>by rcases Oc k p with e|e<;>rw[e,hk]<;>rfl
 have okc: ∀k:ab,k.ok->k.canon.ok:=fun k hk=>by unfold ab.canon;split;exact hk.rev;exact hk
 have ec:l.canon=m.canon:=Xb (okc l hl) (okc m hm) (J8 hl) (J8 hm) (cval l h1) (cval m h2) (by
  rcases cdir l with e1|e1<;>rcases cdir m with e2|e2<;>rw[e1,e2]
  .exact cr
  .rw[pj,cr];rfl
  .rw[nq,pj,nq,cr];rfl
  .rw[pj,nq,pj,nq,cr];rfl)
 have hdir:l.dir=m.dir\/l.dir=dn m.dir:=by
  have e1:=cdir l;have e2:=cdir m;rw[ec] at e1;rcases e1 with e1|e1<;>rcases e2 with e2|e2
  .exact .inl (e1.symm.trans e2)
  .exact .inr (e1.symm.trans e2)
  .right;rw[<-e2,e1,xq]
  .left;rw[<-xq l.dir,<-e1,e2,xq]
 have hP:cv l.dir=cv m.dir\/cv l.dir=dn (cv m.dir):=by
  rcases hdir with e|e
  .exact .inl (by rw[e])
  .exact .inr (by rw[e,Wu])
 have hn:=OL zpm;have h3:=yM zpm;have key:d=cv m.dir\/d=dn (cv m.dir):=by
  rcases hd with rfl|rfl<;>rcases hP with e|e
  .exact .inl e
  .exact .inr e
  .exact .inr (by rw[e])
  .exact .inl (by rw[e,xq])
 rcases key with rfl|rfl<;>rcases he with rfl|rfl
 .rfl
 .exfalso;omega
 .exfalso;omega
 .rfl
def Eu(t:Tr)(p:aa):Bool:=(fG (lE (FJ t p))).any fun v=>(ny t p v).1
def UM(t:Tr)(p:aa):Bool:=(fG (lE (FJ t p))).all fun v=>(ny t p v).1
def aDX(t:Tr)(p:aa):Int:=if Eu t p&&UM t p then 2 else if Eu t p then 1 else 0
def wz(u:aa): ¬dh u u:=by
 rintro (h|⟨_,h⟩)
 .omega
 .have:u.cross u=0:=by unfold aa.cross;grind
  rw[this] at h;exact absurd h (by decide)
def Pg{u v:aa}(h:dh u v)(k:dh v u):False:=wz u (yq h k)
def Dt{x y:aa}(h: ¬dh x y)(k: ¬dh y x):ck x y=0:=by
 rw[<-l9] at h k;unfold ck at*;split at h<;>try omega
 split at h<;>try omega
 split at k<;>try omega
 rw[show y.cross x= -(x.cross y) by unfold aa.cross;grind,kS,Int.sign_neg] at k;omega
def lj(l:List aa):dl 6 (l.map eZ):=fun d hd=>by
 obtain⟨x,_,rfl⟩:=bV.1 hd;exact⟨J,J⟩
instance aq.negp (p:aa) (i:Nat) [h:aq p i]:aq (dn p) i:=⟨inferInstanceAs (BQ (-p.x) i),inferInstanceAs (BQ (-p.y) i)⟩
instance aq.prip (l:ab) [LB l]:aq (cv l.dir) 500:=by
 have h:=(inferInstance:aq (l.dir.scale (rgcd l.dir.x l.dir.y)⁻¹) _);exact⟨h.x.mono (by decide),h.y.mono (by decide)⟩
def J6{p:aa}{i:Nat}[h:aq p i](hi:i<=900000000:=by decide):PF GB prog 224 [eZ p] (eZ (dn p)):=by
 refine fn func224 J J ntmps224 J J (fun C=>?_);refine cl J (kA (q:=p.x) (i:=i) hi) J<|cl J (kA (q:=p.y) (i:=i) hi) J<|rz J J
def Di{p:aa}{i:Nat}[h:aq p i](hi:i<=900000000:=by decide):PF GB prog 183 [eZ p] (eZ (jF p)):=by
 refine fn func183 J J ntmps183 J J (fun C=>?_);refine cl J (kA (q:=p.y) (i:=i) hi) J<|rz J J
def Qn{p:aa}{i:Nat}[h:aq p i](hi:i<=1000000:=by decide):PF GB prog 223 [eZ p] (eZ (cv p)):=by
 refine fn func223 J J ntmps223 J J (fun C=>?_);refine cl J (nj (p:=p.x) (q:=p.y) (i:=i) (j:=i) (by omega) (by omega)) J<|cl J (r6 (q:=rgcd p.x p.y) (i:=i+i+(i+i)) (by omega)) J<|cl J (ug (p:=p) (c:=(rgcd p.x p.y)⁻¹) (i:=i) (j:=i+i+(i+i)) (by omega) (by omega)) J<|rz J J
def Do{q:Rat}{i:Nat}[h:BQ q i](hi:i<=400000000:=by decide):PF GB prog 94 [eR q] (eF q):=by
 haveI:BN q.num.natAbs i:=⟨h.hn⟩;haveI:BN q.den i:=⟨h.hd⟩;refine fn func94 J J ntmps94 J J (fun C=>?_);refine cl (fu:=⟨0⟩) J (qE (n:=decide (q.num<0)) (a:=q.num.natAbs) (d:=q.den) (i:=i) (j:=i) (by omega) (by omega)) J<|ah 7 (.d (eF q)) J (by rw[im,nK])<|gx J<|rz J J
def nG{p:aa}{i:Nat}[h:aq p i](hi:i<=400000000:=by decide):PF GB prog 50 [dy p] (eZ p):=by
 refine fn func50 J J ntmps50 J J (fun C=>?_);refine cl J (Do (q:=p.x) (i:=i) hi) J<|cl J (Do (q:=p.y) (i:=i) hi) J<|rz J J
def MY(G:Gh)(y:Value)(h:Is G (.sl [.ag [vI (bO 1),vI (bH 1),cO 1,vI 0,vI 0, .v (.pointer none)]]) y):Is G (.sl ((fG []).map eZ)) y:=by
 obtain⟨s,x,es,rfl,h1,h2⟩:=fe.1 h;obtain⟨v,m,rfl,k,h3⟩:=bi.1 h2
 cases b4.1 h3
 refine fe.2 ⟨s,x,_,J,h1, .cons ?_ .nil⟩;obtain⟨m4,rfl,g4⟩:=dt.1 k;obtain⟨v1,m1,rfl,k1,g1⟩:=bi.1 g4;obtain⟨v2,m2,rfl,k2,g2⟩:=bi.1 g1;obtain⟨v3,m3,rfl,k3,g3⟩:=bi.1 g2;obtain⟨m5,q5,g5⟩:=dt.1 (sH _ _ (dt.2 ⟨m3,rfl,g3⟩))
 cases q5
 exact dt.2 ⟨_,J, .cons k1 (.cons k2 (.cons k3 g5))⟩
def I9{ds:List aa}{k:Nat}{u w:aa}(h1:ds[k]? =some u)(h2:ds[(k+1)%ds.length]? =some w):pB ds k=if 0<Int.sign (u.cross w).num then u.add w else jF u:=by
 unfold pB;rw[aJ,aJ,h1,h2];rfl
def Kn(ds:List aa)(k:Nat):(List.range (k+1)).map (pB ds)=(List.range k).map (pB ds)++[pB ds k]:=by rw[List.range_succ,cK];rfl
def Wq:PF GB prog 169 [.sl []] (.sl ((fG []).map eZ)):=by
 refine fn (fu:=⟨10⟩) func169 J J ntmps169 J J (fun C=>?_);refine ic J (by rfl) J<|cl J (vx) J<|rf J J<|gh J MY
def MU{ds:List aa}{i:Nat}(h0:0<ds.length)(hb: ∀d∈ds,aq d i)(hn:ds.length<=10000000)(hi:i<=1000000:=by decide):PF GB prog 169 [.sl (ds.map eZ)] (.sl ((fG ds).map eZ)):=by
 have hml:(ds.map eZ).length=ds.length:=aZ ..;refine fn (fu:=⟨10⟩) func169 J J ntmps169 J J (fun C=>?_);refine ah 8 (.d (vI (ds.length:Nat))) J (by rw[hml]<;>rfl)<|gx (fu:=⟨0⟩) J<|dq (fu:=⟨15⟩) J (by show some (decide _)=some false;rw[decide_eq_false (by omega)]) J<|ah 14 (.d (vI (ds.length:Nat))) J (by rw[hml]<;>rfl)<|gx J<|nr 3 3 102 6 J J J<|lp (X:=List aa×Nat) (fun⟨acc,k⟩=>[(15, .d (vI (k:Nat))),(3, .rw 3)]) (fun⟨acc,k⟩=>[(3,some (.b 102 6 (acc.map eZ) true))]) (fun⟨acc,k⟩=>acc=(List.range k).map (pB ds)/\k<=ds.length) (fun⟨acc,k⟩=>ds.length-k) ⟨[],0⟩ J ⟨J,bJ _⟩ (fun _=>J) (fun⟨acc,k⟩ hk=>?_)
 try dsimp only at hk⊢
 obtain⟨h1,h2⟩:=hk;have hal:acc.length=k:=by rw[h1,aZ,kX]
 have ham:(acc.map eZ).length=acc.length:=aZ ..;refine br J J J (fun hc16=>?_) (fun hc16=>?_)
 .
  obtain⟨u,hx⟩: ∃u,ds[k]? =some u:=⟨_,aQ (by omega)⟩;obtain⟨w,hw⟩: ∃w,ds[(k+1)%ds.length]? =some w:=⟨_,aQ (cJ _ (by omega))⟩;haveI:=hb u (aW hx);haveI:=hb w (aW hw);refine ix (fu:=⟨13⟩) _ J (b8 hx) J<|ah 24 (.d (vI (ds.length:Nat))) J (by rw[hml]<;>rfl)<|gx (fu:=⟨1⟩) J<|ah 25 (.d (vI (((k+1)%ds.length:Nat):Int))) J J<|gx J<|ix _ J (b8 hw) J<|cl J (GJ (p:=u) (q:=w) (by omega) (by omega)) J<|cl J (ij (q:=u.cross w) (by omega)) J<|br J J J (fun hc32=>?_) (fun hc32=>?_)
  .
   refine cl J (wv (p:=u) (q:=w) (by omega) (by omega)) J<|rf J J<|ap ((acc++[u.add w]).map eZ) J (by rw[cK]<;>rfl) (lj [u.add w]) J<|d4 38 3 J<|at_ ⟨acc++[u.add w],k+1⟩ (by dsimp only;exact⟨⟨by rw[Kn,I9 hx hw,if_pos hc32,<-h1],by omega⟩,(by omega)⟩)
  .
   refine cl J (Di (p:=u) (by omega)) J<|rf J J<|ap ((acc++[jF u]).map eZ) J (by rw[cK]<;>rfl) (lj [jF u]) J<|d4 43 3 J<|at_ ⟨acc++[jF u],k+1⟩ (by dsimp only;exact⟨⟨by rw[Kn,I9 hx hw,if_neg hc32,<-h1],by omega⟩,(by omega)⟩)
 .
  obtain rfl:k=ds.length:=by omega
  have hS:fG ds=acc:=by unfold fG;rw[if_neg (by omega),h1]
  refine gO 3 J<|rz J (by rw[hS];rfl)
def NU{ds:List aa}{i:Nat}(hb: ∀d∈ds,aq d i)(hn:ds.length<=10000000)(hi:i<=1000000:=by decide):PF GB prog 169 [.sl (ds.map eZ)] (.sl ((fG ds).map eZ)):=by
 cases ds with
 |nil=>exact Wq
 |cons d ds=>exact MU (i:=i) (Nat.zero_lt_succ _) hb hn hi
def jp(a b p:aa):Rat:=(b.x-a.x)*(p.y-a.y)-(b.y-a.y)*(p.x-a.x)
def OP(v w p:aa):Int:=(if v.y<=p.y/\ ¬w.y<=p.y/\0<jp v w p then 1 else 0)-(if¬v.y<=p.y/\w.y<=p.y/\jp v w p<0 then 1 else 0)
def Jj(v w q p:aa):Prop:= ∀s t:Rat,0<=s->s<=1->0<=t->t<=1->yH v w s≠yH q p t
def bI(b:Prop)[Decidable b]:Int:=if b then 1 else 0
def aFU(q p u:aa):Int:=if q.y<u.y/\u.y<=p.y/\jp q p u<0 then 1 else 0
def PJ(r:List ZP)(p:aa):Nat->Int
 |0=>0
 |k+1=>PJ r p k+OP (r.getD k (0,0)).q (d5 r k).q p
def XG(r:List ZP)(q p:aa):Prop:= ∀k,k<r.length->Jj (r.getD k (0,0)).q (d5 r k).q q p
def Ou(a b:Rat):bG a b<=0↔a<=b:=by
 have:=T0 a b;constructor
 .intro h
  by_cases q:b<a
  .have:=this.2 q;omega
  .grind
 .intro h
  by_cases q:0<bG a b
  .have:=this.1 q;grind
  .omega
def QW(R:Rat)(p:aa):Prop:=p.x< -R\/R<p.x\/p.y< -R\/R<p.y
structure IvB (v:bm):Prop where
 lo:BQ v.lo 1200
 hi:BQ v.hi 1200
def ZS(l:List bm)(k:Nat):List Rat:=Ad (l.take k)
def Zk(o:List Rat)(v:bm)(j:Nat):List Rat:=if j=0 then o else if j=1 then(if v.nl then o else sn v.lo o) else GH o v
def X9(v:bm)(j:Nat):Rat:=if j=0 then v.lo else v.hi
def Z8(v:bm)(j:Nat):Bool:=if j=0 then v.nl else v.nh
def YI(l m:ab)(side:Int):DV:= .tp [.sl ((DF l m side).map eV),vB (Eg l m)]
def Z7(f:aE):DV:= .ag [.v (.bool (decide (f.l.a<0))),dN f.l.a.natAbs, .v (.bool (decide (f.l.b<0))),dN f.l.b.natAbs, .v (.bool (decide (f.l.c<0))),dN f.l.c.natAbs, .v (.bool (decide (f.v.lo.num<0))),dN f.v.lo.num.natAbs,dD f.v.lo.den, .v (.bool (decide (f.v.hi.num<0))),dN f.v.hi.num.natAbs,dD f.v.hi.den, .v (.bool f.v.nl), .v (.bool f.v.nh)]
theorem QE{p:ZP}(h:ZP.le 100 p):aq p.q 12:=by
 haveI:BI p.1 11:=gm (by have:=h.1;omega);haveI:BI p.2 11:=gm (by have:=h.2;omega);exact(inferInstance:aq (iP p.1 p.2) 12)
def aFg(v w:bm):bm:=⟨v.lo,w.hi,v.nl,v.nh⟩

section
variable {GB:Gh} {C:az} {n:Nat} {Q0:Exit->Act->World->Prop} {fr fr':ao} {own own':aA} {cf cf':Cf} {vc:List Prop}
def Mf{lk:LK}{bk:BM}{dst:Option Nat}{t ty':TypeId}{pos:String}{af:Array Edge}{gd:Option (Nat×Bool)}{x y:Operand}{e len s nm off:Nat}{k:IntKind}{i:Nat}(hu:prog.underlying t=some (.array len e))(hs:(prog.info? e).map (·.size)=some s)
  (e1:aB lk x=some (.ov nm off))(e2:aB lk y=some (.d (.v (.int k (i:Nat)))))(hi:i<len):bw prog GB C n lk bk ⟨dst, .indexAddr t x y,ty',pos,af,gd⟩ (.ov nm (off+i*s)) [] []:= .yd fun ρ G ov a w r=>by
 obtain⟨p,h1,h2⟩:=r.ev e1;obtain⟨q,h3,h4⟩:=r.ev e2;rw[ce] at h4;subst h4;obtain⟨b,hb,rfl⟩:=h2;refine⟨_,⟨b,hb,J⟩,?_⟩;obtain⟨j,hj,hjs⟩: ∃j,prog.info? e=some j/\j.size=s:=by
  cases h:prog.info? e with
  |none=>rw[h] at hs;cases hs
  |some j=>rw[h] at hs;exact⟨j,J,by simpa using hs⟩
 intro a' w' hf hh;simp only[execOp,bh hf h1,bh hf h3];have:(Instr.indexAt t (.pointer (some ⟨b,off,none⟩)) (.int k (i:Nat))).run prog w'= .ok (.pointer (some ⟨b,off+i*s,none⟩)) w':=by
  unfold Instr.indexAt;show(underlying t>>=_).run prog w'=_;rw[aG (kP hu w')];show(underlying t>>=_).run prog w'=_;rw[aG (kP hu w')];have h0:0<=((i:Nat):Int):=Int.natCast_nonneg i;have h1:((i:Nat):Int)<((len:Nat):Int):=by omega
  simp only[h0,h1,and_self,if_true];show(sizeOf e>>=_).run prog w'=_;rw[aG (oG hj w'),oE,hjs,fU];rfl
 exact cp this
def H7(fr:ao)(cf:Cf):Option (TypeId×Nat×Nat×Int):=match bE fr cf with
 |some ⟨_, .indexAddr t x y,_,_,_,_⟩=>match aB (aP fr cf) x with
  |some (.ov nm off)=>match aB (aP fr cf) y with
   |some (.d (.v (.int _ i)))=>some (t,nm,off,i)
   |_=>none
  |_=>none
 |_=>none
def l7[fu:Fu](i:Nat){t nm off e len s:Nat}(h:H7 fr cf=some (t,nm,off,((i:Nat):Int)))(hu:prog.underlying t=some (.array len e))(hs:(prog.info? e).map (·.size)=some s)(hi:i<len)
  (hgo:bP tt n fu.n fr own cf (.ov nm (off+i*s)) [] []=⟨vc,fr',own',cf'⟩)(k:ak prog GB C n Q0 fr' own' cf')
  (hv:autoParam (aj vc) Tb._auto_1):ak prog GB C n Q0 fr own cf:=by
 unfold H7 at h;split at h<;>try (cases h;done)
 rename_i hh;split at h<;>try (cases h;done)
 rename_i hx;split at h<;>cases h;rename_i hy;exact us hh (Mf hu hs hx hy hi) hgo hv k
def YS(fr:ao)(cf:Cf):Option (Nat×List FX):=match bE fr cf with
 |some ⟨some d, .build t ⟨ps⟩,_,_,_,_⟩=>match co tt t with
  |some ⟨.st fo,_,some zx,_⟩=>match pA (aP fr cf) fo zx ps with
   |some l=>some (d,l)
   |none=>none
  |_=>none
 |_=>none
end
def Zu(f:aE)(m:ab)(k:Nat):List aE:=if k=0 then [] else yv f m 1
def YE(f:aE)(m:ab)(k:Nat):List aE:=if k<=1 then [] else yv f m (-1)
def gq(p:ZP):DV:=eP p.q
def ku(r:List ZP):DV:= .sl (r.map gq)
def Cy(l:List ZP):dl 6 (l.map gq):=fun d hd=>by
 obtain⟨u,_,rfl⟩:=bV.1 hd;exact⟨rfl,rfl⟩
def Nl(l:List (List ZP)):dl 1 (l.map ku):=fun d hd=>by
 obtain⟨u,_,rfl⟩:=bV.1 hd;exact⟨rfl,rfl⟩
def TB(rs:List (List ZP)):List ab:=(dB rs).map aE.l
def XF(rs:List (List ZP))(fill:Int):DV:= .ag [.sl (rs.map ku), .v (.int .i64 fill), .sl ((lH (TB rs)).map eL)]
def iu(r:List ZP):DV:= .sl ((r.map ZP.q).map dy)
def VW(l:List (List ZP)):dl 1 (l.map iu):=fun d hd=>by
 obtain⟨u,_,rfl⟩:=bV.1 hd;exact⟨rfl,rfl⟩
theorem KQ{r:List ZP}(h: ∀p∈r,ZP.le 100 p): ∀p∈r.map ZP.q,aq p 1200:=fun p hp=>by
 obtain⟨z,hz,rfl⟩:=bV.1 hp;have:=QE (h z hz);exact⟨BQ.mono this.x,BQ.mono this.y⟩
def N7(r:List ZP):DV.sl ((r.map ZP.q).map eP)=ku r:=by unfold ku;rw[mT];rfl
def Rn{rs:List (List ZP)}{k:Nat}{r:List ZP}(h:rs[k]? =some r):dB (rs.take (k+1))=dB (rs.take k)++iO r:=by
 unfold dB;rw[cX,h,List.flatMap_append];simp
def IJ{rs:List (List ZP)}(h: ∀r∈rs,en r)(k:Nat):(dB (rs.take k)).length<=6*k:=by
 have:=(B5 (rs:=rs.take k) (fun r hr=>h r (dX hr))).1;have h2:(rs.take k).length<=k:=by rw[aS];omega
 omega
def IT{rs:List (List ZP)}(h: ∀r∈rs,en r)(hn:rs.length<=100:=by omega):PF GB prog 8 [.sl (rs.map ku)] (.sl (rs.map iu)):=by
 have hm:=qr ku rs;refine fn (fu:=⟨15⟩) func8 J J ntmps8 J J (fun C=>?_);refine ah 7 (.d (vI (rs.length:Nat))) J (by rw[hm]<;>rfl)<|gx J<|nr 3 3 24 1 J J J<|lp (X:=Nat) (fun k=>[(8, .d (vI (k:Nat))),(3, .rw 3)]) (fun k=>[(3,some (.b 24 1 ((rs.take k).map iu) true))]) (fun k=>k<=rs.length) (fun k=>rs.length-k) 0 J (bJ _) (fun _=>J) (fun k hk=>?_);have hml:((rs.take k).map iu).length<=k:=by rw[aZ,aS];omega
 refine br J J J (fun hc9=>?_) (fun hc9=>?_)
 .
  obtain⟨r,hz⟩: ∃s,rs[k]? =some s:=⟨_,aQ (by omega)⟩;have hr:=h r (aW hz);refine ix (fu:=⟨1⟩) _ J (b8 hz) J<|ah 11 (.d (.sl ((r.map ZP.q).map eP))) J (by rw[N7])<|gx J<|cl J (Dv (ps:=r.map ZP.q) (KQ hr.le) (by rw[aZ];have:=hr.n6;omega)) J<|rf J J<|ap ((rs.take (k+1)).map iu) J (zL hz) (VW [r]) J<|d4 16 3 J<|at_ (k+1) ⟨(by omega),(by omega)⟩
 .
  obtain rfl:k=rs.length:=by omega
  refine gO 3 J<|rz J (by rw[bT];rfl)

def p7:aa:=⟨mkRat 1 7,mkRat 1 5⟩
structure LP (l:ab):Prop where
 s:LS l
 p:0<l.value p7
def AJ(es:List Int):Nat->Nat->List ab×Nat
 |0,a=>([],a)
 |i+1,a=>((lF es a).1::(AJ es i (lF es a).2).1,(AJ es i (lF es a).2).2)
def HZ(es:List Int)(most a:Nat):List ab×Nat:=AJ es (au es ((most:Int)+1) a).1 (au es ((most:Int)+1) a).2
def Fj(l:ab):ab:=if(l.value p7).num.sign<0 then l.rev else l
def aEK(xs:List ab)(i:Nat):List ab:=(xs.take i).map Fj++xs.drop i
def ZH(es:List Int)(a:Nat):List ab×Nat:=((HZ es 3 a).1.map Fj,(HZ es 3 a).2)

def L3(ds:List Int):dl 1 (ds.map vI):=fun d hd=>by
 obtain⟨n,_,rfl⟩:=bV.1 hd;exact⟨rfl,rfl⟩
def N4(es:List Int):(es.map vI).take (min es.length 400)=(es.take 400).map vI:=by
 rw[jL];rcases Nat.le_total es.length 400 with h|h
 .rw[fM h,cW (by simp),cW (by simpa using h)]
 .rw[Nat.min_eq_right h]
def SQ{es:List Int}(hb:es.length<=1125899906842624):PN GB prog 9 [.sl (es.map vI)] 85 Unit (fun _=>[.sl ((es.take 400).map vI), .v (.int .i64 (0:Nat))]):=by
 have hel:(es.map vI).length=es.length:=by simp
 refine UO func9 J J ntmps9 J J (fun C hmb=>?_);refine jx 0 (min es.length 400) ((es.take 400).map vI) J J (by rw[hel];show(if _ then _ else _:Int)=_;split<;>omega) (N4 es) (L3 _) (by omega) (by omega) J<|?_;exact P6 () J J J J J


end Go.Sx
end
