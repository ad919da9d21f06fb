import Derived.Test.YtjpdfobnjmflkaaGreatDoorMp13
set_option linter.all false
set_option maxHeartbeats 4000000
set_option maxRecDepth 100000
section
namespace Go.Sx
open Go Go.Proofs Tryz
variable {es:List Int}{a b i j k:Nat}{m n fill c op:Int}{p v w d e u:aa}{l:ah}{t:Tr}{ds:List aa}
variable {GB:Gh}
def XL(h:a<es.length):(es.map vI)[(a:Int).toNat]? =some (vI es[a]):=by simp[h]
def az3:eP (iP 0 0)= .ag [.v (.bool false), .sl [], .sl [], .v (.bool false), .sl [], .sl []]:=by
 unfold eP iP;simp[nk,dD]
def ZE{p q:Int}(hm:m.natAbs<=4)(hn:n.natAbs<=4)(hp:p.natAbs<=4)(hq:q.natAbs<=4)(h: ¬(p=0/\q=0)):LS (nv m n (m+1*p) (n+1*q)):=by
 have e1:l9 n (n+1*q)= -q:=by unfold l9;omega
 have e2:l8 m (m+1*p)=p:=by unfold l8;omega
 have e3:((-q)*m).natAbs<=4*4:=by rw[fR];exact iW (by omega) hm
 have e4:(p*n).natAbs<=4*4:=by rw[fR];exact iW hp hn
 have e5:t6 m n (m+1*p) (n+1*q)= -((-q)*m+p*n):=by unfold t6;rw[e1,e2]
 unfold nv;obtain⟨k1,k2,k3⟩:=Ce (l9 n (n+1*q)) (l8 m (m+1*p)) (t6 m n (m+1*p) (n+1*q));exact⟨Jl (by rw[e1,e2];omega),cS k1 (by rw[e1];omega),cS k2 (by rw[e2];omega),cS k3 (by rw[e5];omega)⟩
def au(es:List Int)(n:Int)(a:Nat):Nat×Nat:=
 if h:a<es.length then((if Int.tmod es[a] n<0 then Int.tmod es[a] n+n else Int.tmod es[a] n).toNat,a+1) else(0,a)
def dH(hn:1<=n:=by decide):((au es n a).1:Int)<n:=by
 unfold au;split
 .rename_i h
  have q2:=Int.tmod_lt_of_pos es[a] (show 0<n by omega);dsimp only;split<;>omega
 .exact hn
def gD(ha:a<=es.length):(au es n a).2<=es.length:=by
 unfold au;split
 .assumption
 .exact ha
def pF(es:List Int)(a:Nat):(Int×Int)×Nat:=((((au es 9 a).1:Int)-4,((au es 9 (au es 9 a).2).1:Int)-4),(au es 9 (au es 9 a).2).2)
def BT(ha:a<=es.length):(pF es a).1.1.natAbs<=4/\(pF es a).1.2.natAbs<=4/\(pF es a).2<=es.length:=by
 have h1:=dH (es:=es) (n:=9) (a:=a);have h2:=dH (es:=es) (n:=9) (a:=(au es 9 a).2);have h3:=gD (n:=9) (gD (es:=es) (n:=9) ha);unfold pF;exact⟨by dsimp only;omega,by dsimp only;omega,h3⟩
def vF(es:List Int)(a:Nat):(Int×Int)×Nat:=if(pF es a).1.1=0/\(pF es a).1.2=0 then((1,0),(pF es a).2) else pF es a
def IE(ha:a<=es.length):(vF es a).1.1.natAbs<=4/\(vF es a).1.2.natAbs<=4/\ ¬((vF es a).1.1=0/\(vF es a).1.2=0)/\(vF es a).2<=es.length:=by
 obtain⟨h1,h2,h3⟩:=BT ha;unfold vF;split
 .exact⟨show(1:Int).natAbs<=4 by decide,show(0:Int).natAbs<=4 by decide,show¬((1:Int)=0/\(0:Int)=0) by decide,h3⟩
 .rename_i h;exact⟨h1,h2,h,h3⟩
def lF(es:List Int)(a:Nat):ah×Nat:=(nv (pF es a).1.1 (pF es a).1.2 ((pF es a).1.1+1*(vF es (pF es a).2).1.1) ((pF es a).1.2+1*(vF es (pF es a).2).1.2),(vF es (pF es a).2).2)
def Od(ha:a<=es.length):LS (lF es a).1/\(lF es a).2<=es.length:=by
 obtain⟨h1,h2,h3⟩:=BT ha;obtain⟨k1,k2,k3,k4⟩:=IE h3;exact⟨ZE h1 h2 k1 k2 k3,k4⟩
def mz(hes:es.length<=400)(ha:a<=es.length)(hn:1<=n:=by decide)(hn2:n<=1000:=by decide):PM GB prog 20 (jv [none,some (.v (.int .i64 n))] b) b 84 [.sl (es.map vI), .v (.int .i64 (a:Nat))] (.v (.int .i64 ((au es n a).1:Nat))) [.sl (es.map vI), .v (.int .i64 ((au es n a).2:Nat))]:=by
 have hel:(es.map vI).length=es.length:=by simp
 refine vu func20 J J ntmps20 J J (fun C b m lo hmb=>?_);refine br J J J (fun hc15=>?_) (fun hc15=>?_)
 .
  have hf:au es n a=(0,a):=by unfold au;rw[dif_neg (by omega)]
  exact kH hmb J J (by rw[hf]<;>rfl) (by rw[hf]<;>rfl)
 .
  have hal:a<es.length:=by omega
  obtain⟨e,he⟩: ∃e,e=es[a]:=⟨_,rfl⟩;have q2:=Int.tmod_lt_of_pos e (show 0<n by omega);have q3: -n<Int.tmod e n:=by have:=Int.lt_tmod_of_pos e (show 0<n by omega);omega
  refine ix (fu:=⟨1⟩) _ J (XL hal) J<|aj 25 (.d (vI e)) J (by rw[he]<;>rfl)<|gx (hv:=by simp only[ak];exact⟨⟨by omega,by kernel_rfl⟩,by omega⟩) J<|br J J J (fun hc36=>?_) (fun hc36=>?_)
  .
   have hf:au es n a=((Int.tmod e n+n).toNat,a+1):=by unfold au;rw[dif_pos hal,<-he,if_pos hc36]
   exact kH hmb J J (by rw[hf];show DV.v (.int .i64 _)=DV.v (.int .i64 _);rw[qS (by omega)]) (by rw[hf]<;>rfl)
  .
   have hf:au es n a=((Int.tmod e n).toNat,a+1):=by unfold au;rw[dif_pos hal,<-he,if_neg hc36]
   exact kH hmb J J (by rw[hf];show DV.v (.int .i64 _)=DV.v (.int .i64 _);rw[qS (by omega)]) (by rw[hf]<;>rfl)
def Tt(hes:es.length<=400)(ha:a<=es.length):PM GB prog 84 (jv [none] b) b 84 [.sl (es.map vI), .v (.int .i64 (a:Nat))] (eP (iP (pF es a).1.1 (pF es a).1.2)) [.sl (es.map vI), .v (.int .i64 ((pF es a).2:Nat))]:=by
 have h1:=dH (es:=es) (n:=9) (a:=a);have h2:=dH (es:=es) (n:=9) (a:=(au es 9 a).2);refine vu func84 J J ntmps84 J J (fun C b m lo hmb=>?_);refine cm J (fun b=>(mz (n:=9) hes ha)) J<|cm J (fun b=>(mz (n:=9) hes (gD ha))) J<|cl J (ji (m:=((au es 9 a).1:Int)-4) (n:=((au es 9 (au es 9 a).2).1:Int)-4)) J<|?_;exact kH hmb J J J J
def Vj(hes:es.length<=400)(ha:a<=es.length):PM GB prog 85 (jv [none] b) b 84 [.sl (es.map vI), .v (.int .i64 (a:Nat))] (eP (iP (vF es a).1.1 (vF es a).1.2)) [.sl (es.map vI), .v (.int .i64 ((vF es a).2:Nat))]:=by
 obtain⟨hm,hn,ha1⟩:=BT ha;refine vu func85 J J ntmps85 J J (fun C b m lo hmb=>?_);refine cm (fu:=⟨9⟩) J (fun b=>(Tt hes ha)) J<|aj 7 (.d (eP (iP 0 0))) J (by rw[az3]<;>rfl)<|gx J<|cl J (XB (m:=(pF es a).1.1) (n:=(pF es a).1.2) (m':=0) (n':=0) (by omega) (by omega) (by decide) (by decide)) J<|bd J J J (fun hc8=>?_) (fun hc8=>?_)
 .
  have hf:vF es a=((1,0),(pF es a).2):=by unfold vF;rw[if_pos hc8]
  refine cl J (ji (m:=1) (n:=0) (by decide) (by decide)) J<|?_;exact kH hmb J J (by rw[hf]<;>rfl) (by rw[hf])
 .
  have hf:vF es a=pF es a:=by unfold vF;rw[if_neg hc8]
  exact kH hmb J J (by rw[hf]<;>rfl) (by rw[hf])
def Wl(hes:es.length<=400)(ha:a<=es.length):PM GB prog 34 (jv [none] b) b 84 [.sl (es.map vI), .v (.int .i64 (a:Nat))] (eL (lF es a).1) [.sl (es.map vI), .v (.int .i64 ((lF es a).2:Nat))]:=by
 obtain⟨hm,hn,ha1⟩:=BT ha;obtain⟨hp,hq,hz,ha2⟩:=IE ha1;refine vu func34 J J ntmps34 J J (fun C b m lo hmb=>?_);refine cm J (fun b=>(Tt hes ha)) J<|cl J (jl (n:=1)) J<|cm J (fun b=>(Vj hes ha1)) J<|cl J (Ft (m:=(pF es a).1.1) (n:=(pF es a).1.2) (m':=(vF es (pF es a).2).1.1) (n':=(vF es (pF es a).2).1.2) (k:=1) (by omega) (by omega) (by omega) (by omega)) J<|cl J (LR (m:=(pF es a).1.1) (n:=(pF es a).1.2) (m':=(pF es a).1.1+1*(vF es (pF es a).2).1.1) (n':=(pF es a).1.2+1*(vF es (pF es a).2).1.2) (by omega) (by omega) (by omega) (by omega) (by omega)) J<|?_;exact kH hmb J J J J
def Fe{p:Bool}:PF GB prog 35 [.v (.bool p)] (eT (.leaf p)):=by
 refine fn func35 J J ntmps35 J J (fun C=>?_);refine iu 5 J<|rz J J
abbrev ZP:=Int×Int
variable {r:List ZP}
def ZP.q(p:ZP):aa:=iP p.1 p.2
def ZP.le(k:Nat)(p:ZP):Prop:=p.1.natAbs<=k/\p.2.natAbs<=k
def j0(p q:ZP):ZP:=(p.1+1*q.1,p.2+1*q.2)
def jE(u v:ZP):Int:=u.1*v.2-u.2*v.1
theorem TB{p q:Int}(hm:m.natAbs<=1000)(hn:n.natAbs<=1000)(hp:p.natAbs<=1000)(hq:q.natAbs<=1000)(h: ¬(p=m/\q=n)):LB (nv m n p q)/\(nv m n p q).ok:=by
 have e1:(l9 n q).natAbs<=2000:=by unfold l9;omega
 have e2:(l8 m p).natAbs<=2000:=by unfold l8;omega
 have e3:=EN e1 hm;have e4:=EN e2 hn;have e5:(t6 m n p q).natAbs<=4000000:=by unfold t6;omega
 unfold nv;obtain⟨k1,k2,k3⟩:=Ce (l9 n q) (l8 m p) (t6 m n p q);have hb:(2:Nat)^96=79228162514264337593543950336:=by decide
 refine⟨⟨⟨?_,?_,?_⟩⟩,Jl ?_⟩
 .rw[hb];omega
 .rw[hb];omega
 .rw[hb];omega
 .unfold l9 l8;omega
def FB(v w:ZP):bu:=⟨nv v.1 v.2 w.1 w.2,⟨ju (nv v.1 v.2 w.1 w.2) v.q,ju (nv v.1 v.2 w.1 w.2) w.q,false,false⟩⟩
def je(r:List ZP)(i:Nat):ZP:=r.getD ((i+1)%r.length) (0,0)
def qj(r:List ZP):Nat->List bu
 |0=>[]
 |k+1=>qj r k++[FB (r.getD k (0,0)) (je r k)]
def kt(r:List ZP):List bu:=qj r r.length
structure fe (r:List ZP):Prop where
 n3:3<=r.length
 n6:r.length<=6
 le: ∀p∈r,ZP.le 100 p
 ne: ∀i<r.length,r.getD i (0,0)≠je r i
def vk(h:i<r.length:=by omega):r.getD i (0,0)∈r:=by
 rw[aW,aZ h];exact cN h
def yx(h:i<r.length:=by omega):je r i∈r:=vk (dK _ (by omega))
theorem R5(hl:LB l)(ho:l.ok)(hm:m.natAbs<=1000)(hn:n.natAbs<=1000):BQ (ju l (iP m n)) 1200:=by
 haveI:=m9 (k:=11) hm;haveI:=m9 (k:=11) hn;have hd:=CJ ho.ne;have hA:BI (l.a*l.a+l.b*l.b) _:=inferInstance;have hB:BI (m*l.b-n*l.a) _:=inferInstance;have hA':=Du (j:=1200) hA;have hB':=Du (j:=1200) hB;have e1:l.dir.dot l.dir=((l.a*l.a+l.b*l.b:Int):Rat):=by
  rw[lU,cX,cX];simp only[ah.dir,aa.dot];grind
 have e2:(iP m n).dot l.dir=((m*l.b-n*l.a:Int):Rat):=by
  rw[gL,cX,cX];simp only[ah.dir,aa.dot,iP];grind
 have hd':((0:Int):Rat)<((l.a*l.a+l.b*l.b:Int):Rat):=by rw[<-e1];exact hd
 unfold ju;rw[e2,e1];clear hA hB e1 e2;generalize l.a*l.a+l.b*l.b=D at*;generalize m*l.b-n*l.a=M at*;have hD:0<D:=Rat.intCast_lt_intCast.1 hd';refine BQ.of_fracI (n:=M) (D:=D) (by omega) ?_ hB' hA';have h0:(D:Rat)≠0:=fun e=>by rw[e] at hd';exact absurd hd' (by decide)
 have:((D.natAbs:Nat):Rat)=(D:Rat):=by
  have h1:((D.natAbs:Nat):Int)=D:=by omega
  rw[<-h1];rfl
 rw[this];grind
def aDP{v w:ZP}(hv:ZP.le 100 v)(hw:ZP.le 100 w)(h:v≠w):p8 (FB v w):=by
 obtain⟨h1,h2⟩:=TB (m:=v.1) (n:=v.2) (p:=w.1) (q:=w.2) (by have:=hv.1;omega) (by have:=hv.2;omega) (by have:=hw.1;omega) (by have:=hw.2;omega) (fun e=>h (Prod.ext e.1.symm e.2.symm));exact⟨h1,h2,⟨fun e=>(by cases e),fun e=>(by cases e)⟩,R5 h1 h2 (by have:=hv.1;omega) (by have:=hv.2;omega),R5 h1 h2 (by have:=hw.1;omega) (by have:=hw.2;omega)⟩
def K2{r:List ZP}(h:fe r): ∀{k:Nat},k<=r.length->(qj r k).length=k/\ ∀f∈qj r k,p8 f
 |0,_=>⟨J,fun f hf=>by cases hf⟩
 |k+1,hk=>by
  obtain⟨h1,h2⟩:=K2 h (k:=k) (by omega);rw[qj];refine⟨by simp[h1],fun f hf=>?_⟩;rcases aL.1 hf with hf|hf
  .exact h2 f hf
  .rw[aT] at hf;subst hf
   exact aDP (h.le _ (vk)) (h.le _ (yx)) (h.ne k (by omega))
def Cz(h:fe r):(kt r).length=r.length/\ ∀f∈kt r,p8 f:=K2 h (bW _)
def i8(rs:List (List ZP)):List bu:=rs.flatMap kt
def Ae: ∀{rs:List (List ZP)},(∀r∈rs,fe r)->(i8 rs).length<=6*rs.length/\ ∀f∈i8 rs,p8 f
 |[],_=>⟨bW _,fun f hf=>by cases hf⟩
 |r::rs,h=>by
  obtain⟨h1,h2⟩:=Ae (rs:=rs) fun q hq=>h q (aJ _ hq);obtain⟨k1,k2⟩:=Cz (h r aQ);have:=(h r aQ).n6;unfold i8 at*;rw[mJ];refine⟨by rw[aY,k1,aN];omega,fun f hf=>?_⟩;rcases aL.1 hf with hf|hf
  .exact k2 f hf
  .exact h2 f hf
def uK(a b c:aa):Int:=(aa.cross (b8 b a (-1)) (b8 c a (-1))).num.sign
def ud(v w p:aa):Int:=
 (if bz v.y p.y<=0/\ ¬bz w.y p.y<=0/\0<uK v w p then 1 else 0)-(if¬bz v.y p.y<=0/\bz w.y p.y<=0/\uK v w p<0 then 1 else 0)
def qB(r:List ZP)(p:aa):Nat->Int
 |0=>0
 |k+1=>qB r p k+ud (r.getD k (0,0)).q (je r k).q p
def uA(r:List ZP)(p:aa):Int:=qB r p r.length
def wQ(fill n:Int):Bool:=(decide (fill=1)&&decide (n.tmod 2≠0))||(decide (fill=2)&&decide (n≠0))
def od(rs:List (List ZP))(fill:Int)(p:aa):Bool:=wQ fill (rs.foldl (fun n r=>n+uA r p) 0)
def t7(rs:List (List ZP))(fill:Int):Tr:=jC (od rs fill) (i8 rs).length (i8 rs) []
def f7(rs:List (List ZP))(fill:Int):Tr:=(t7 rs fill).restrict []
structure jI (k:Nat) (t:Tr):Prop where
 gd:t.gd
 dp:t.depth<=k
 am: ∃K:List ah,K.length<=k/\(∀l∈K,l.ok)/\gn K t
def FP{acc:aa->Bool}{n:Nat}{l:List bu}(h: ∀f∈l,p8 f)(hn:l.length=n):jI n (jC acc n l []):=
 ⟨⟨z7 fun f hf=>(h f hf).lb,z7 fun f hf=>(h f hf).ok⟩,Jy,l.map (·.l),by rw[aX,hn];exact bW _,fun m hm=>by
  obtain⟨f,hf,rfl⟩:=aU.1 hm;exact(h f hf).ok,z7 fun f hf=>⟨f.l,dZ hf, .inl rfl⟩⟩
def jI.restrict{k:Nat}{t:Tr}(h:jI k t)(c:ar):jI k (t.restrict c):=by
 obtain⟨K,h1,h2,h3⟩:=h.am;exact⟨Qd h.gd c,cS (t.restrict_depth c) h.dp,K,h1,h2,h3.restrict c⟩
def jI.compl{k:Nat}{t:Tr}(h:jI k t):jI k t.compl:=by
 obtain⟨K,h1,h2,h3⟩:=h.am;exact⟨aAP h.gd,by rw[t.compl_depth];exact h.dp,K,h1,h2,h3.compl⟩
def jI.mono(h:jI j t)(hk:j<=k):jI k t:=by
 obtain⟨K,h1,h2,h3⟩:=h.am;exact⟨h.gd,cS h.dp hk,K,by omega,h2,h3⟩
def Ha{rs:List (List ZP)}(h: ∀r∈rs,fe r)(hn:rs.length<=3):jI 18 (f7 rs fill):=by
 obtain⟨h1,h2⟩:=Ae h;exact((FP (acc:=od rs fill) h2 J).restrict []).mono (by omega)
def eG(a b c d:Int):List ZP:=[(a,b),(c,b),(c,d),(a,d)]
def JN{a b d:Int}(h1:a.natAbs<=50:=by decide)(h2:b.natAbs<=50:=by decide)(h3:c.natAbs<=50:=by decide)(h4:d.natAbs<=50:=by decide)(h5:a<c:=by decide)(h6:b<d:=by decide):fe (eG a b c d):=by
 refine⟨by simp[eG],by simp[eG],fun p hp=>?_,fun i hi=>?_⟩
 .simp only[eG,aK,eY,or_false] at hp
  rcases hp with rfl|rfl|rfl|rfl<;>exact⟨by dsimp only;omega,by dsimp only;omega⟩
 .have:i=0\/i=1\/i=2\/i=3:=by simp[eG] at hi;omega
  rcases this with rfl|rfl|rfl|rfl<;>simp[eG,je]<;>omega
def gA(p u v:ZP):List ZP:=[p,j0 p u,j0 p v]
def WK{p u v:ZP}(h1:ZP.le 40 p)(h2:ZP.le 40 u)(h3:ZP.le 40 v)(h:jE u v≠0):fe (gA p u v):=by
 obtain⟨p1,p2⟩:=p;obtain⟨u1,u2⟩:=u;obtain⟨v1,v2⟩:=v;unfold ZP.le at h1 h2 h3;dsimp only at h1 h2 h3;unfold jE at h;dsimp only at h;refine⟨by simp[gA],by simp[gA],fun p hp=>?_,fun i hi=>?_⟩
 .simp only[gA,j0,aK,eY,or_false] at hp
  rcases hp with rfl|rfl|rfl<;>exact⟨by dsimp only;omega,by dsimp only;omega⟩
 .have:i=0\/i=1\/i=2:=by simp[gA] at hi;omega
  have hu: ¬(u1=0/\u2=0):=fun e=>h (by rw[e.1,e.2];simp);have hv: ¬(v1=0/\v2=0):=fun e=>h (by rw[e.1,e.2];simp);have huv: ¬(u1=v1/\u2=v2):=fun e=>h (by rw[e.1,e.2,sQ];omega);rcases this with rfl|rfl|rfl<;>simp[gA,j0,je]<;>omega
def yv(es:List Int)(n m k:Int)(a:Nat):List ZP×Nat:=
 let x:=au es n a
 let y:=au es n x.2
 let z:=au es m y.2
 let w:=au es m z.2
 (eG ((x.1:Int)-k) ((y.1:Int)-k) ((x.1:Int)-k+1+z.1) ((y.1:Int)-k+1+w.1),w.2)
def Yr{k:Int}(ha:a<=es.length)(hn:1<=n:=by decide)(hn2:n<=10:=by decide)(hm:1<=m:=by decide)(hm2:m<=10:=by decide)(hk:0<=k:=by decide)(hk2:k<=10:=by decide):fe (yv es n m k a).1/\(yv es n m k a).2<=es.length:=by
 have h1:=dH (es:=es) (a:=a) hn;have h2:=dH (es:=es) (a:=(au es n a).2) hn;have h3:=dH (es:=es) (a:=(au es n (au es n a).2).2) hm;have h4:=dH (es:=es) (a:=(au es m (au es n (au es n a).2).2).2) hm;exact⟨JN (by omega) (by omega) (by omega) (by omega) (by omega) (by omega),gD (gD (gD (gD ha)))⟩
def BH:List ZP:=[(0,0),(1,0),(0,1)]
def P9:fe BH:=⟨by decide,by decide,fun p hp=>by
  simp only[BH,aK,eY,or_false] at hp;rcases hp with rfl|rfl|rfl<;>exact⟨by decide,by decide⟩,fun i hi=>by
  have:i=0\/i=1\/i=2:=by simp[BH] at hi;omega
  rcases this with rfl|rfl|rfl<;>decide⟩
def gr(es:List Int)(a:Nat):List ZP×Nat:=
 let k:=au es 2 a
 if(k.1:Int)=0 then yv es 3 2 1 k.2
 else
  let x:=au es 3 k.2
  let y:=au es 3 x.2
  let u1:=au es 2 y.2
  let u2:=au es 3 u1.2
  let v1:=au es 3 u2.2
  let v2:=au es 2 v1.2
  (if 0<jE (1+(u1.1:Int),(u2.1:Int)-1) ((v1.1:Int)-1,1+(v2.1:Int)) then gA ((x.1:Int)-1,(y.1:Int)-1) (1+(u1.1:Int),(u2.1:Int)-1) ((v1.1:Int)-1,1+(v2.1:Int)) else BH,v2.2)
def Al(ha:a<=es.length):fe (gr es a).1/\(gr es a).2<=es.length:=by
 have h0:=gD (n:=2) ha;unfold gr;dsimp only;split
 .exact Yr h0
 .generalize hk:(au es 2 a).2=k at*
  have e1:=dH (es:=es) (n:=3) (a:=k);have f1:=gD (n:=3) h0;generalize hx:au es 3 k=x at*;have e2:=dH (es:=es) (n:=3) (a:=x.2);have f2:=gD (n:=3) f1;generalize hy:au es 3 x.2=y at*;have e3:=dH (es:=es) (n:=2) (a:=y.2);have f3:=gD (n:=2) f2;generalize hu:au es 2 y.2=u1 at*;have e4:=dH (es:=es) (n:=3) (a:=u1.2);have f4:=gD (n:=3) f3;generalize hu2:au es 3 u1.2=u2 at*;have e5:=dH (es:=es) (n:=3) (a:=u2.2);have f5:=gD (n:=3) f4;generalize hv:au es 3 u2.2=v1 at*;have e6:=dH (es:=es) (n:=2) (a:=v1.2);have f6:=gD (n:=2) f5;generalize hv2:au es 2 v1.2=v2 at*;refine⟨?_,f6⟩;split
  .rename_i hc
   exact WK ⟨by dsimp only;omega,by dsimp only;omega⟩ ⟨by dsimp only;omega,by dsimp only;omega⟩ ⟨by dsimp only;omega,by dsimp only;omega⟩ (by omega)
  .exact P9
def Ad(l:ah):Tr:=(Tr.node l (.leaf true) (.leaf false)).restrict []
def th: ∀t:Tr,t.lns.length=t.size
 | .leaf _=>rfl
 | .node l x y=>by rw[Tr.lns,aN,aY,th x,th y,Tr.size];omega
def aFa(hb:t.all (fun l=>BL l 96))(ho:t.all ah.ok)(hs:t.size<=k):jI k t:=
 ⟨⟨nf.2 fun l hl=>⟨nf.1 hb l hl⟩,ho⟩,cS t.depth_size hs,t.lns,by rw[th];exact hs,gF ho,ZD fun l hl=>hl⟩
def aDT(h:LS l):jI 18 (Ad l):=
 (aFa (k:=18) (t:= .node l (.leaf true) (.leaf false)) ⟨h.bl,trivial,trivial⟩ ⟨h.ok,trivial,trivial⟩ (by simp[Tr.size])).restrict []
def bG(a b p:aa):Rat:=(b.x-a.x)*(p.y-a.y)-(b.y-a.y)*(p.x-a.x)
def aHT(q p v w:aa)(e:Rat):bG q p (kg v w e)=bG q p v+e*(bG q p w-bG q p v):=by
 unfold bG kg;grind
def wv{a b:Rat}(ha:0<a):0<a*b↔0<b:=by rw[Rat.mul_comm];exact eD ha
def ER(op:Int)(a b:Tr):Bool:=decide ((a.mergeQ op b []).isLeaf=true/\(a.mergeQ op b []).code=false)
def at4{a b:Tr}:ER op a b=true↔a.mergeQ op b []= .leaf false:=by
 unfold ER;rw[decide_eq_true_iff]
 cases a.mergeQ op b [] with
 |leaf v=>simp[Tr.isLeaf,Tr.code]
 |node l x y=>simp[Tr.isLeaf]
def uJ.none{L:List ah}{a b:Tr}(h:uJ L a b):ER op a b=true↔ ∀p,cj L p->tj op (a.val p) (b.val p)=false:=by rw[at4,h.leaf]
def ks:Tr->aa->Bool
 | .leaf b,_=>b
 | .node l x y,p=>if(l.value p).num.sign=1 then ks x p else if(l.value p).num.sign= -1 then ks y p else false
def ym: ∀{t:Tr} {p:aa},cj t.lns p->ks t p=t.val p
 | .leaf b,p,_=>rfl
 | .node l x y,p,h=>by
  rw[ks,Tr.val];have h0:=h.l;by_cases h1:0<l.value p
  .rw[if_pos ((pi _).2 h1),if_pos h1,ym h.x]
  .have h2:l.value p<0:=by grind
   have h3:=(u' _).2 h2;have h4:(l.value p).num.sign= -1:=by
    rcases Int.sign_trichotomy (l.value p).num with e|e|e<;>omega
   rw[if_neg (by omega),if_pos h4,if_neg h1,ym h.y]
def Cg{L:List ah}{p q:aa}(h: ∀l∈L,0<l.value q↔0<l.value p): ∀{t:Tr},(∀l∈t.lns,l∈L)->t.val q=t.val p
 | .leaf _,_=>rfl
 | .node l x y,hl=>by
  have hx:=Cg h (t:=x) fun m hm=>hl m (aJ _ (bK _ hm));have hy:=Cg h (t:=y) fun m hm=>hl m (aJ _ (bQ _ hm));rw[Tr.val,Tr.val,hx,hy];by_cases h1:0<l.value q
  .rw[if_pos h1,if_pos ((h l (hl l aQ)).1 h1)]
  .rw[if_neg h1,if_neg (fun e=>h1 ((h l (hl l aQ)).2 e))]
def Fd: ∀{t:Tr} {c:ar} {b:Bool} {e:ar},t.all ah.ok->bC c->(b,e)∈t.parts c->bC e/\ ∀p,bm e p->bm c p/\t.val p=b
 | .leaf v,c,b,e,_,hc,h=>by
  rw[Tr.parts,aT] at h
  cases h
  exact⟨hc,fun p hp=>⟨hp,J⟩⟩
 | .node l x y,c,b,e,⟨hl,hx,hy⟩,hc,h=>by
  rw[Tr.parts] at h;rcases aL.1 h with h|h
  .split at h
   .rename_i hb
    obtain⟨k1,k2⟩:=gH hc hl hb;obtain⟨m1,m2⟩:=Fd hx k1 h;refine⟨m1,fun p hp=>?_⟩;obtain⟨n1,n2⟩:=m2 p hp;obtain⟨o1,o2⟩:=(k2 p).1 n1;exact⟨o1,by rw[Tr.val_pos o2,n2]⟩
   .cases h
  .split at h
   .rename_i hb
    obtain⟨k1,k2⟩:=gH hc hl.rev hb;obtain⟨m1,m2⟩:=Fd hy k1 h;refine⟨m1,fun p hp=>?_⟩;obtain⟨n1,n2⟩:=m2 p hp;obtain⟨o1,o2⟩:=(k2 p).1 n1;rw[dE] at o2;exact⟨o1,by rw[Tr.val_neg (by grind),n2]⟩
   .cases h
def GO: ∀{t:Tr} {c:ar} {p:aa},t.all ah.ok->bC c->bm c p->cj t.lns p-> ∃b e,(b,e)∈t.parts c/\bm e p
 | .leaf v,c,p,_,_,hp,_=>⟨v,c,aT.2 J,hp⟩
 | .node l x y,c,p,⟨hl,hx,hy⟩,hc,hp,ho=>by
  have h0:=ho.l;rw[Tr.parts];by_cases h:0<l.value p
  .have hb:=(pe hc hl).2 ⟨p,hp,h⟩
   obtain⟨k1,k2⟩:=gH hc hl hb;obtain⟨b,e,m1,m2⟩:=GO hx k1 ((k2 p).2 ⟨hp,h⟩) ho.x;exact⟨b,e,bK _ (by rw[if_pos hb];exact m1),m2⟩
  .have h':0<l.rev.value p:=by rw[dE];grind
   have hb:=(pe hc hl.rev).2 ⟨p,hp,h'⟩;obtain⟨k1,k2⟩:=gH hc hl.rev hb;obtain⟨b,e,m1,m2⟩:=GO hy k1 ((k2 p).2 ⟨hp,h'⟩) ho.y;exact⟨b,e,bQ _ (by rw[if_pos hb];exact m1),m2⟩
def eH(t:Tr):List ar:=((t.parts []).filter (·.1)).map (·.2)
def tc{e:ar}:e∈eH t↔(true,e)∈t.parts []:=by
 unfold eH;simp
def gg:Tr->aa->aa->Bool×Bool
 | .leaf b,_,_=>(b,true)
 | .node l x y,p,v=>match (if(l.value p).num.sign=0 then(l.dir.cross v).num.sign else(l.value p).num.sign) with
  |1=>gg x p v
  | -1=>gg y p v
  |_=>(false,false)
def ru(l:ah)(v:aa):l.dir.cross v=l.nor.dot v:=by
 unfold ah.dir ah.nor aa.cross aa.dot;grind
def Gn(L:List ah)(p v:aa):Prop:= ∀l∈L,l.value p=0->l.nor.dot v≠0
def ZN(h:l.value p=0->l.nor.dot v≠0): ∃e:Rat,0<e/\ ∀d,0<d->d<=e->(0<l.value (b8 p v d)↔0<l.value p\/(l.value p=0/\0<l.nor.dot v))/\(l.value (b8 p v d)<0↔l.value p<0\/(l.value p=0/\l.nor.dot v<0)):=by
 generalize hk:l.nor.dot v=k at*;by_cases h0:l.value p=0
 .have hk0:=h h0
  refine⟨1,by decide,fun d h1 _=>?_⟩;rw[gi,hk,h0];rcases fg k with e|e|e
  .exact absurd e hk0
  .have:=bD h1 e;grind
  .have:=bD (a:=d) (b:= -k) h1 (by grind);grind
 .have key: ∀w:Rat,0<w-> ∃e:Rat,0<e/\ ∀d,0<d->d<=e-> ∀j:Rat,(j=k\/j= -k)->0<w+d*j:=fun w hw=>by
   have hA: ∃A:Rat,0<A/\k<=A/\ -k<=A:=by
    rcases fg k with e|e|e
    .exact⟨1,by decide,by grind,by grind⟩
    .exact⟨k,e,by grind,by grind⟩
    .exact⟨-k,by grind,by grind,by grind⟩
   obtain⟨A,a1,a2,a3⟩:=hA;refine⟨w/(2*A),?_,fun d d1 d2 j hj=>?_⟩
   .have e1:w/(2*A)*(2*A)=w:=by grind
    exact(eD (k:=2*A) (by grind)).1 (by rw[e1];exact hw)
   .have e1:w/(2*A)*(2*A)=w:=by grind
    generalize w/(2*A)=f at*;have h1:=cA (a:=f-d) (b:=A) (by grind) (by grind);have h2:=cA (a:=d) (b:=A+j) (by grind) (by rcases hj with rfl|rfl<;>grind);grind
  rcases fg (l.value p) with e|e|e
  .exact absurd e h0
  .obtain⟨f,f1,f2⟩:=key _ e
   refine⟨f,f1,fun d d1 d2=>?_⟩;have:=f2 d d1 d2 k (.inl J);rw[gi,hk];grind
  .obtain⟨f,f1,f2⟩:=key (-l.value p) (by grind)
   refine⟨f,f1,fun d d1 d2=>?_⟩;have:=f2 d d1 d2 (-k) (.inr J);rw[gi,hk];grind
def mP: ∀{t:Tr} {p v:aa},Gn t.lns p v-> ∃e:Rat,0<e/\ ∀d,0<d->d<=e->cj t.lns (b8 p v d)/\gg t p v=(t.val (b8 p v d),true)
 | .leaf b,p,v,_=>⟨1,by decide,fun d _ _=>⟨fun l hl=>(by cases hl),J⟩⟩
 | .node l x y,p,v,h=>by
  obtain⟨e1,a1,b1⟩:=ZN (h l aQ);obtain⟨e2,a2,b2⟩:=mP (t:=x) (p:=p) (v:=v) (fun m hm=>h m (aJ _ (bK _ hm)));obtain⟨e3,a3,b3⟩:=mP (t:=y) (p:=p) (v:=v) (fun m hm=>h m (aJ _ (bQ _ hm)));have hgn:=h l aQ;have hm: ∃e:Rat,0<e/\e<=e1/\e<=e2/\e<=e3:=by
   by_cases h1:e1<=e2
   .by_cases h2:e1<=e3
    .exact⟨e1,a1,by grind,h1,h2⟩
    .exact⟨e3,a3,by grind,by grind,by grind⟩
   .by_cases h2:e2<=e3
    .exact⟨e2,a2,by grind,by grind,h2⟩
    .exact⟨e3,a3,by grind,by grind,by grind⟩
  obtain⟨e,h0,h1,h2,h3⟩:=hm;refine⟨e,h0,fun d d1 d2=>?_⟩;obtain⟨c1,c2⟩:=b1 d d1 (by grind);obtain⟨o2,w2⟩:=b2 d d1 (by grind);obtain⟨o3,w3⟩:=b3 d d1 (by grind);have hs:(if(l.value p).num.sign=0 then(l.dir.cross v).num.sign else(l.value p).num.sign)=if 0<l.value (b8 p v d) then 1 else-1:=by
   rw[ru];by_cases hz:l.value p=0
   .rw[if_pos ((me _).2 hz)]
    split
    .rename_i hp
     exact(pi _).2 (by rcases c1.1 hp with k|k;exact absurd k (by grind);exact k.2)
    .rename_i hp
     have:l.nor.dot v<0:=by have:=hgn hz;have: ¬0<l.nor.dot v:=fun e=>hp (c1.2 (.inr ⟨hz,e⟩));grind
     exact Int.sign_eq_neg_one_iff_neg.2 (by have:=(u' _).2 this;rcases lV (l.nor.dot v).num 0 with q|q|q;exact q;rw[q] at this;simp at this;rw[eK q] at this;simp at this)
   .rw[if_neg (fun e=>hz ((me _).1 e))]
    split
    .rename_i hp
     exact(pi _).2 (by rcases c1.1 hp with k|k;exact k;exact absurd k.1 hz)
    .rename_i hp
     have:l.value p<0:=by have: ¬0<l.value p:=fun e=>hp (c1.2 (.inl e));grind
     exact Int.sign_eq_neg_one_iff_neg.2 (by have:=(u' _).2 this;rcases lV (l.value p).num 0 with q|q|q;exact q;rw[q] at this;simp at this;rw[eK q] at this;simp at this)
  have hz:l.value (b8 p v d)≠0:=fun e=>by
   rcases fg (l.value p) with q|q|q
   .rcases fg (l.nor.dot v) with r|r|r
    .exact hgn q r
    .have:=c1.2 (.inr ⟨q,r⟩);grind
    .have:=c2.2 (.inr ⟨q,r⟩);grind
   .have:=c1.2 (.inl q);grind
   .have:=c2.2 (.inl q);grind
  refine⟨fun m hm=>?_,?_⟩
  .rcases aK.1 hm with rfl|hm
   .exact hz
   .exact(aL.1 hm).elim (o2 m) (o3 m)
  .rw[gg,hs]
   by_cases hp:0<l.value (b8 p v d)
   .rw[if_pos hp,Tr.val_pos hp];exact w2
   .rw[if_neg hp,Tr.val_neg hp];exact w3
def ld(p:aa):(p.half=1/\(0<p.y\/(p.y=0/\0<p.x)))\/(p.half=2/\(p.y<0\/(p.y=0/\p.x<0)))\/(p.half=0/\p.y=0/\p.x=0):=by
 unfold aa.half;simp only[kC,u',me];split
 .rename_i h;exact .inl ⟨rfl,h⟩
 .rename_i h
  split
  .rename_i h2
   exact .inr (.inl ⟨J,by grind⟩)
  .rename_i h2
   exact .inr (.inr ⟨J,by grind,by grind⟩)
def mj:p.half=1↔(0<p.y\/(p.y=0/\0<p.x)):=by
 rcases ld p with⟨h,k⟩|⟨h,k⟩|⟨h,k⟩<;>rw[h]<;>grind
def p7:p.half=2↔(p.y<0\/(p.y=0/\p.x<0)):=by
 rcases ld p with⟨h,k⟩|⟨h,k⟩|⟨h,k⟩<;>rw[h]<;>grind
def ce(u v:aa):Prop:=u.half<v.half\/(u.half=v.half/\0<u.cross v)
def mE:co u v<0↔ce u v:=by
 unfold co ce;split
 .rename_i h;exact⟨fun _=> .inl h,fun _=>by decide⟩
 .rename_i h
  split
  .rename_i h2;exact⟨fun e=>absurd e (by decide),fun e=>by omega⟩
  .rename_i h2
   have e:u.half=v.half:=by omega
   rw[<-kC];constructor
   .intro k;exact .inr ⟨e,by omega⟩
   .rintro (k|⟨_,k⟩)
    .omega
    .omega
def aO(d:aa):aa:=⟨-d.x, -d.y⟩
def tF(h:d.half≠0):(aO d).half=3-d.half:=by
 rcases ld d with⟨e,k⟩|⟨e,k⟩|⟨e,k⟩
 .rw[e];exact p7.2 (by unfold aO;grind)
 .rw[e];exact mj.2 (by unfold aO;grind)
 .exact absurd e h
def gE(h:d.half≠0):d.half=1\/d.half=2:=by
 rcases ld d with⟨e,_⟩|⟨e,_⟩|⟨e,_⟩
 .exact .inl e
 .exact .inr e
 .exact absurd e h
def lj(ds:List aa)(u w:aa):Prop:=(ce u w/\ ∀d∈ds,¬(ce u d/\ce d w))\/((∀d∈ds,¬ce u d)/\ ∀d∈ds,¬ce d w)
structure vR (ds:List aa):Prop where
 nz: ∀d∈ds,d.half≠0
 neg: ∀d∈ds,aO d∈ds
def Rq(u:aa):u.cross u=0:=by unfold aa.cross;grind
def fE(u v:aa):v.cross u= -u.cross v:=by unfold aa.cross;grind
def ng(u v:aa):u.cross (aO v)= -u.cross v:=by unfold aa.cross aO;grind
def lj.spec(h:vR ds)(hu:u∈ds)(hw:w∈ds)(hn:lj ds u w):
  (u.half=w.half/\0<u.cross w/\ ∀d∈ds,¬(ce u d/\ce d w))\/(u.half≠w.half/\(∀d∈ds,d.half=u.half->0<=d.cross u)/\ ∀d∈ds,d.half=w.half->0<=w.cross d):=by
 have zu:=gE (h.nz u hu);have zw:=gE (h.nz w hw);rcases hn with⟨h1,h2⟩|⟨h1,h2⟩
 .rcases h1 with k|⟨k,k2⟩
  .refine .inr ⟨by omega,fun d hd e=>?_,fun d hd e=>?_⟩
   .have:=h2 d hd
    rw[fE];by_cases hc:0<u.cross d
    .exact absurd ⟨.inr ⟨e.symm,hc⟩, .inl (by omega)⟩ this
    .grind
   .have:=h2 d hd
    by_cases hc:0<d.cross w
    .exact absurd ⟨.inl (by omega), .inr ⟨e,hc⟩⟩ this
    .rw[fE] at hc;grind
  .exact .inl ⟨k,k2,h2⟩
 .have nu:=tF (h.nz u hu)
  have a1:=h1 _ (h.neg u hu);have a2:=h2 _ (h.neg u hu);unfold ce at a1 a2;rw[nu] at a1 a2;refine .inr ⟨fun e=>?_,fun d hd e=>?_,fun d hd e=>?_⟩
  .rcases zu with z|z
   .exact a1 (.inl (by omega))
   .exact a2 (.inl (by omega))
  .have:=h1 d hd
   rw[fE];by_cases hc:0<u.cross d
   .exact absurd (.inr ⟨e.symm,hc⟩) this
   .grind
  .have:=h2 d hd
   by_cases hc:0<d.cross w
   .exact absurd (.inr ⟨e,hc⟩) this
   .rw[fE] at hc;grind
def lj.pos(h:vR ds)(hu:u∈ds)(hw:w∈ds)(hn:lj ds u w):0<=u.cross w:=by
 rcases hn.spec h hu hw with⟨_,h2,_⟩|⟨h1,h2,h3⟩
 .grind
 .have:=h3 _ (h.neg u hu) (by rw[tF (h.nz u hu)];have:=gE (h.nz u hu);have:=gE (h.nz w hw);omega)
  rw[ng] at this;rw[fE];exact this
def ie(a b:Rat)(u w:aa):aa:=⟨a*u.x+b*w.x,a*u.y+b*w.y⟩
def MZ{a b:Rat}:u.cross (ie a b u w)=b*u.cross w/\(ie a b u w).cross w=a*u.cross w:=by
 unfold aa.cross ie;constructor<;>grind
def Hq{a b:Rat}(ha:0<a)(hb:0<b)(h:u.half=w.half)(hz:u.half≠0):(ie a b u w).half=u.half:=by
 rcases ld u with⟨e,k⟩|⟨e,k⟩|⟨e,k⟩
 .rw[e] at h⊢
  have k2:=mj.1 h.symm;refine mj.2 ?_;unfold ie;simp only;have p1: ∀z:Rat,0<z->0<a*z:=fun z hz=>bD ha hz;have p2: ∀z:Rat,0<z->0<b*z:=fun z hz=>bD hb hz;rcases k with k|⟨k,k'⟩<;>rcases k2 with l|⟨l,l'⟩
  .have:=p1 _ k;have:=p2 _ l;grind
  .have:=p1 _ k;rw[l];grind
  .have:=p2 _ l;rw[k];grind
  .have:=p1 _ k';have:=p2 _ l';rw[k,l];grind
 .rw[e] at h⊢
  have k2:=p7.1 h.symm;refine p7.2 ?_;unfold ie;simp only;have p1: ∀z:Rat,z<0->a*z<0:=fun z hz=>by have:=bD (a:=a) (b:= -z) ha (by grind);grind
  have p2: ∀z:Rat,z<0->b*z<0:=fun z hz=>by have:=bD (a:=b) (b:= -z) hb (by grind);grind
  rcases k with k|⟨k,k'⟩<;>rcases k2 with l|⟨l,l'⟩
  .have:=p1 _ k;have:=p2 _ l;grind
  .have:=p1 _ k;rw[l];grind
  .have:=p2 _ l;rw[k];grind
  .have:=p1 _ k';have:=p2 _ l';rw[k,l];grind
 .exact absurd e hz
def lj.none(h:vR ds)(hu:u∈ds)(hw:w∈ds)(hn:lj ds u w)(hc:u.cross w≠0){a b:Rat}(ha:0<a)(hb:0<b):ie a b u w∉ds:=fun hd=>by
 have hp:=hn.pos h hu hw;have hp:0<u.cross w:=by grind
 obtain⟨c1,c2⟩:=MZ (a:=a) (b:=b) (u:=u) (w:=w);have d1:0<u.cross (ie a b u w):=by rw[c1];exact bD hb hp
 have d2:0<(ie a b u w).cross w:=by rw[c2];exact bD ha hp
 have zu:=gE (h.nz u hu);have zw:=gE (h.nz w hw);have zd:=gE (h.nz _ hd);rcases hn.spec h hu hw with⟨h1,_,h3⟩|⟨h1,h2,h3⟩
 .have e:=Hq ha hb h1 (h.nz u hu)
  exact h3 _ hd ⟨.inr ⟨e.symm,d1⟩, .inr ⟨e.trans h1,d2⟩⟩
 .rcases(show(ie a b u w).half=u.half\/(ie a b u w).half=w.half by omega) with e|e
  .have:=h2 _ hd e
   rw[fE] at this;grind
  .have:=h3 _ hd e
   rw[fE] at this;grind
def uX(h:e.cross d=0)(hp:0<e.dot d): ∃g:Rat,0<g/\e=⟨g*d.x,g*d.y⟩:=by
 have hd:0<d.dot d:=by
  unfold aa.dot at*;have h1:=si d.x;have h2:=si d.y;rcases fg d.x with k|k|k
  .rcases fg d.y with l|l|l
   .rw[k,l] at hp;grind
   .have:=bD l l;grind
   .have:=bD (a:= -d.y) (b:= -d.y) (by grind) (by grind);grind
  .have:=bD k k;grind
  .have:=bD (a:= -d.x) (b:= -d.x) (by grind) (by grind);grind
 have key:e.x*d.dot d=e.dot d*d.x/\e.y*d.dot d=e.dot d*d.y:=by
  unfold aa.dot aa.cross at*;constructor<;>grind
 have hg:e.dot d/d.dot d*d.dot d=e.dot d:=by grind
 refine⟨e.dot d/d.dot d,(eD hd).1 (by rw[hg];exact hp),?_⟩;generalize e.dot d/d.dot d=g at*;have x1:e.x=g*d.x:=by
  have:(e.x-g*d.x)*d.dot d=0:=by rw[<-hg] at key;grind
  have hz:d.dot d≠0:=by grind
  grind
 have x2:e.y=g*d.y:=by
  have:(e.y-g*d.y)*d.dot d=0:=by rw[<-hg] at key;grind
  have hz:d.dot d≠0:=by grind
  grind
 rw[<-x1,<-x2]
def Dx(he:e.half≠0)(hu:u.half≠0)(hp:e.cross u=0):e.dot u≠0:=fun hz=>by
 have e1:e.x*(u.x*u.x+u.y*u.y)=0:=by unfold aa.dot aa.cross at*;grind
 have e2:e.y*(u.x*u.x+u.y*u.y)=0:=by unfold aa.dot aa.cross at*;grind
 have hu2:u.x*u.x+u.y*u.y≠0:=fun q=>by
  have h1:=si u.x;have h2:=si u.y;have x0:u.x=0:=by
   have:u.x*u.x=0:=by grind
   grind
  have y0:u.y=0:=by
   have:u.y*u.y=0:=by grind
   grind
  rcases ld u with⟨_,q⟩|⟨_,q⟩|⟨q,_⟩
  .grind
  .grind
  .exact hu q
 have x0:e.x=0:=by grind
 have y0:e.y=0:=by grind
 rcases ld e with⟨_,q⟩|⟨_,q⟩|⟨q,_⟩
 .grind
 .grind
 .exact he q
def lj.gen(h:vR ds)(hu:u∈ds)(hw:w∈ds)(hn:lj ds u w)(hc:u.cross w≠0){a b:Rat}(ha:0<a)(hb:0<b): ∀d∈ds,d.cross (ie a b u w)≠0:=fun d hd hz=>by
 have hp:=hn.pos h hu hw;have hp:0<u.cross w:=by grind
 obtain⟨c1,c2⟩:=MZ (a:=a) (b:=b) (u:=u) (w:=w);have d1:0<u.cross (ie a b u w):=by rw[c1];exact bD hb hp
 -- of d and its opposite, one points the same way
 have key: ∀e∈ds,e.cross (ie a b u w)=0->0<e.dot (ie a b u w)->False:=fun e he h1 h2=>by
  obtain⟨g,g1,g2⟩:=uX h1 h2;refine hn.none h hu hw hc (a:=g*a) (b:=g*b) (bD g1 ha) (bD g1 hb) ?_;have:ie (g*a) (g*b) u w=e:=by rw[g2];unfold ie;simp only[aa.mk.injEq];constructor<;>grind
  rw[this];exact he
 rcases fg (d.dot (ie a b u w)) with k|k|k
 .-- both 0: then d is 0, or the other is
  have hnz:=h.nz d hd;generalize ie a b u w=v at*;have e1:d.x*(v.x*v.x+v.y*v.y)=0:=by unfold aa.dot aa.cross at*;grind
  have e2:d.y*(v.x*v.x+v.y*v.y)=0:=by unfold aa.dot aa.cross at*;grind
  have hv:v.x*v.x+v.y*v.y≠0:=fun e=>by
   have h1:=si v.x;have h2:=si v.y;have x0:v.x=0:=by have:v.x*v.x=0:=(by grind);grind
   have y0:v.y=0:=by have:v.y*v.y=0:=(by grind);grind
   unfold aa.cross at d1;rw[x0,y0] at d1;grind
  have x0:d.x=0:=by grind
  have y0:d.y=0:=by grind
  rcases ld d with⟨_,q⟩|⟨_,q⟩|⟨q,_⟩
  .grind
  .grind
  .exact hnz q
 .exact key d hd hz k
 .refine key _ (h.neg d hd) ?_ ?_
  .unfold aa.cross aO at*;grind
  .unfold aa.dot aO at*;grind
def MR(d u:aa):d.cross (fG u)=d.dot u:=by unfold aa.cross fG aa.dot;grind
def lj.turn(h:vR ds)(hu:u∈ds)(hw:w∈ds)(hn:lj ds u w)(hc:u.cross w=0): ∀d∈ds,d.cross (fG u)≠0:=fun d hd=>by
 have zu:=gE (h.nz u hu);have zw:=gE (h.nz w hw);rw[MR];rcases hn.spec h hu hw with⟨_,h2,_⟩|⟨h1,h2,h3⟩
 .rw[hc] at h2;exact absurd h2 (by decide)
 have par: ∀e∈ds,e.half=u.half->e.cross u=0:=fun e he k=>by
  have a1:=h2 e he k;have a2:=h3 _ (h.neg e he) (by rw[tF (h.nz e he)];omega);rw[ng] at a2
  -- w = -g u
  have hwu:w.cross u=0:=by rw[fE,hc];rfl
  have huw:w.dot u<0:=by
   rcases fg (w.dot u) with k0|k0|k0
   .exact absurd k0 (Dx (h.nz w hw) (h.nz u hu) hwu)
   .obtain⟨g,g1,g2⟩:=uX hwu k0
    exfalso;apply h1;rcases ld u with⟨x,q⟩|⟨x,q⟩|⟨x,q⟩
    .rw[x]
     refine(mj.2 ?_).symm;rw[g2];simp only;rcases q with q|⟨q,q'⟩
     .exact .inl (bD g1 q)
     .exact .inr ⟨by rw[q];grind,bD g1 q'⟩
    .rw[x]
     refine(p7.2 ?_).symm;rw[g2];simp only;rcases q with q|⟨q,q'⟩
     .have:=bD (a:=g) (b:= -u.y) g1 (by grind);exact .inl (by grind)
     .have:=bD (a:=g) (b:= -u.x) g1 (by grind);exact .inr ⟨by rw[q];grind,by grind⟩
    .exact absurd x (h.nz u hu)
   .exact k0
  obtain⟨g,g1,g2⟩:=uX (d:=u) (e:=aO w) (by unfold aa.cross aO at*;grind) (by unfold aa.dot aO at*;grind);have a3:0<= -(g*e.cross u):=by
   have e1:w=⟨-(g*u.x), -(g*u.y)⟩:=by
    have:=congrArg aO g2;unfold aO at this
    cases w
    simp only[Rat.neg_neg] at this;exact this
   rw[e1] at a2;unfold aa.cross at*;grind
  by_cases hz:0<e.cross u
  .have:=bD g1 hz;grind
  .grind
 have nzd: ∀e∈ds,e.half=u.half->e.dot u≠0:=fun e he k=>Dx (h.nz e he) (h.nz u hu) (par e he k);by_cases k:d.half=u.half
 .exact nzd d hd k
 .have:=nzd _ (h.neg d hd) (by rw[tF (h.nz d hd)];have:=gE (h.nz d hd);omega)
  unfold aa.dot aO at*;grind
end Go.Sx
end
section
namespace Go.Sx
open Go
variable {P:Program}{ops:Array Oper}{Q:Exit->Act->World->Prop}
inductive OT where
 |z (π:List (Nat×Bool))
 |q (i:Nat) (t:OT)
 |a (i:Nat) (t:OT)
 |c (i:Nat) (t r:OT)
def OT.sz:OT->Nat
 | .z _=>0
 | .q _ t=>t.sz+1
 | .a _ t=>t.sz+1
 | .c _ t r=>t.sz+r.sz+1
def OT.d:OT->Nat
 | .z π=>π.length
 | .q _ t=>t.d+1
 | .a _ t=>t.d+1
 | .c _ t r=>Nat.max (t.d+1) r.d
section
variable {S:World->Prop}{π₂:List (Nat×Bool)}
end
section
variable {GB:Gh}{C:aG}{n:Nat}{fr fr':nj}{own own' own0 own1 own1':List kP}{bs bs0 bs1 bs1':List jo}{fd:List FD}{π₂:List (Nat×Bool)}{t r:OT}
end
end Go.Sx
end
section
namespace Go.Sx
open Go Go.Proofs Tryz
variable {c xs ys ls L:List ah}{l:ah}{k i d j s:Nat}{α β:Type}{a b:Tr}{z:Int}{ds:List Nat}{neg:Bool}{q:Rat}{p u v:aa}{ps:List aa}
variable {GB:Gh}
theorem xw(hc: ∀m∈c,LB m)(hl:LB l): ∀m∈c++[l],LB m:=by
 rw[sJ];exact⟨hc,by simpa using hl⟩
theorem LB.rev{l:ah}(h:LB l):LB l.rev:=⟨⟨by rw[show l.rev.a= -l.a from J,jX];exact h.bl.a,by rw[show l.rev.b= -l.b from J,jX];exact h.bl.b,by rw[show l.rev.c= -l.c from J,jX];exact h.bl.c⟩⟩
def aFj(hc: ∀m∈c,LB m)(hok: ∀m∈c,m.ok)(hn:c.length<=900)(hl:LB l)(hlo:l.ok):PF GB prog 107 [.sl (c.map eL),eL l] (vI (ue c l)):=by
 have hcl:=ww c;refine fn func107 J J ntmps107 J J (fun C=>?_);refine sA J J<|ap (c.map eL) J J (fP _) J<|rf J J<|lP ((c++[l]).map eL) J (by rw[bX];rfl) (fP [l]) J<|cl J (KJ (c:=c++[l]) (xw hc hl) (oO hok hlo) (by simp;omega)) J<|sA J J<|ap (c.map eL) J J (fP _) J<|cl J (B9 (l:=l)) J<|rf J J<|lP ((c++[l.rev]).map eL) J (by rw[bX];rfl) (fP [l.rev]) J<|cl J (KJ (c:=c++[l.rev]) (xw hc hl.rev) (oO hok hlo.rev) (by simp;omega)) J<|iC 31 J J J (fun hg31=>?_) (fun hg31=>?_)
 .
  refine bb J J J (fun hc33=>?_) (fun hc33=>?_)
  .
   exact rz J (by show vI 0=vI _;congr 1;unfold ue;simp_all)
  .
   refine bb J J J (fun hc34=>?_) (fun hc34=>?_)
   .
    exact rz J (by show vI 1=vI _;congr 1;unfold ue;simp_all)
   .
    exact rz J (by simp[hg31] at hc34)
 .
  refine bb J J J (fun hc34=>?_) (fun hc34=>?_)
  .
   exact rz J (by simp[hg31] at hc34)
  .
   exact rz J (by show vI (-1)=vI _;congr 1;unfold ue;simp_all)
def IG{α:Type}{p:α->Bool}: ∀{xs:List α} {n:Nat},n<=xs.length->(∀j (h:j<xs.length),j<n->p xs[j]=true)->(∀h:n<xs.length,p xs[n]=false)->(xs.takeWhile p).length=n
 |[],n,h,_,_=>by simp at h;subst h;rfl
 |x::xs,0,_,_,h3=>by
  have:=h3 (by simp);simp only[pR] at this;simp[pX,this]
 |x::xs,n+1,h1,h2,h3=>by
  have hx:=h2 0 (by simp) (by omega);simp only[pR] at hx;rw[pX,if_pos hx,aN];rw[IG (n:=n) (by simpa using h1) (fun j h hj=>by have:=h2 (j+1) (by simpa using h) (by omega);simpa using this) (fun h=>by have:=h3 (by simpa using h);simpa using this)]
def Qa{n:Nat}(h1:n<=xs.length)(h2: ∀j (h:j<xs.length),j<n->co xs[j].dir l.dir<0)(h3: ∀h:n<xs.length,¬co xs[n].dir l.dir<0):n7 xs l=n:=
 IG h1 (fun j h hj=>decide_eq_true (h2 j h hj)) (fun h=>decide_eq_false (h3 h))
def Vh{n:Nat}(hn:n7 xs l=n)(h:n<xs.length)(e:xs[n]=l):pO xs l=xs:=by
 unfold pO;rw[hn,if_pos (by rw[aZ h,e])]
def ON{n:Nat}(hn:n7 xs l=n)(h: ∀h:n<xs.length,xs[n]≠l):pO xs l=xs.take n++l::xs.drop n:=by
 unfold pO;rw[hn,if_neg];intro e;obtain⟨h1,h2⟩:=aS.1 e;exact h h1 h2
def Mp(xs:List ah)(n:Nat):c9 6 ((xs.map eL).take n):=fun d hd=>fP xs d (eX hd)
def Jm(xs:List ah)(n m:Nat):c9 6 (((xs.map eL).take n).drop m):=fun d hd=>fP xs d (eX (gR hd))
def MK(xs:List ah)(n m:Nat)(l:ah):c9 6 ([eL l]++((xs.map eL).take n).drop m):=fun d hd=>by
 rcases aL.1 hd with h|h
 .exact fP [l] d h
 .exact Jm xs n m d h
structure my (c:List ah) (k:Nat) (xs:List ah):Prop where
 le:k<=c.length
 f:nO c (c.drop k) xs=iH c
 m: ∀m∈xs,m∈c
 n:xs.length<=k
def my.skip(h:my c k xs)(hk:k<c.length)(e:(ge c[k] c ao.all).isSome=false):my c (k+1) xs:=by
 have:=h.f;rw[bJ hk,nO,e] at this;exact⟨hk,this,h.m,by have:=h.n;omega⟩
def my.ins(h:my c k xs)(hk:k<c.length)(e:(ge c[k] c ao.all).isSome=true)(hy:pO xs c[k]=ys)(hl:ys.length<=xs.length+1):my c (k+1) ys:=by
 have:=h.f;rw[bJ hk,nO,e,if_pos J,hy] at this;refine⟨hk,this,fun m hm=>?_,by have:=h.n;omega⟩;rw[<-hy] at hm;rcases GX.1 hm with rfl|hm
 .exact cN hk
 .exact h.m m hm
def my.done(h:my c k xs)(hk:k=c.length):iH c=xs:=by
 have:=h.f;rw[hk,fW,nO] at this;exact this.symm
def Gb(c:List ah):Bool:=if(((c.map eL).length:Nat):Int)=0 then true else decide ((0:Int)<((((iH c).map eL).length:Nat):Int))
def my.nil(c:List ah):my c 0 []:=⟨bV _,J,fun m hm=>absurd hm (by simp),bW _⟩
def VS(hc: ∀m∈c,LB m)(hok: ∀m∈c,m.ok)(hn:c.length<=1000):PF GB prog 24 [.sl (c.map eL)] (.tp [.sl ((iH c).map eL),vB (Gb c)]):=by
 have hcl:=ww c;refine fn (fu:=⟨16⟩) func24 J J ntmps24 J J (fun C=>?_);refine aj 11 (.d (vI (c.length:Nat))) J (by rw[hcl];rfl)<|gx J<|CC 4 J<|lp (X:=List ah×Nat) (fun⟨xs,k⟩=>[(12, .d (vI (k:Nat))),(11, .d (vI (c.length:Nat))),(10, .d (.sl (c.map eL))),(0, .d (.sl (c.map eL))),(4, .d (.sl (xs.map eL)))]) (fun⟨xs,k⟩=>[]) (fun⟨xs,k⟩=>my c k xs) (fun⟨xs,k⟩=>c.length-k) ⟨[],0⟩ J (my.nil c) (fun _=>J) (fun⟨xs,k⟩ hk=>?_)
 try dsimp only at hk⊢
 have hS:=hk;refine br J J J (fun hc13=>?_) (fun hc13=>?_)
 .
  have hk:k<c.length:=by omega
  obtain⟨m,hm⟩: ∃m,m=c[k]:=⟨_,rfl⟩;haveI hmb:LB m:=hm▸hc _ (cN hk);have hmo:m.ok:=hm▸hok _ (cN hk);have hxl:=ww xs;have hxn:=hS.n;refine ix (fu:=⟨1⟩) _ J (xb hk) J<|aj 16 (.d (eL m)) J (by rw[hm];rfl)<|gx J<|cl J (MU hc hok hn hk) J<|bb (fu2:=⟨8⟩) J J J (fun hc24=>?_) (fun hc24=>?_)
  .
   have hinv:my c (k+1) xs:=hS.skip hk (by rw[<-yj];simpa using hc24);exact at_ ⟨xs,k+1⟩ (by dsimp only;exact⟨hinv,(by omega)⟩)
  .
   have hyes:(ge c[k] c ao.all).isSome=true:=by rw[<-yj];simpa using hc24
   refine mg (fu:=⟨6⟩) (X:=Unit) (fun _=>[(12, .d (vI (k:Nat))),(11, .d (vI (c.length:Nat))),(10, .d (.sl (c.map eL))),(0, .d (.sl (c.map eL))),(4, .d (.sl (xs.map eL))),(6, .ov 6 0),(9, .d (vI (n7 xs m:Nat)))]) (fun _=>[(6,some (.o 55 [.d ((.v (.bool (decide (m.a<0))))), .d (dN m.a.natAbs), .d ((.v (.bool (decide (m.b<0))))), .d (dN m.b.natAbs), .d ((.v (.bool (decide (m.c<0))))), .d (dN m.c.natAbs)] true))]) (fun _=>True) [12,11,10,0,4,6,9] [6] rfl ?_ (fun _=>J) (fun _ _=>?_)
   .
    refine gx J<|lp (fu:=⟨6⟩) (X:=Nat) (fun n=>[(12, .d (vI (k:Nat))),(11, .d (vI (c.length:Nat))),(10, .d (.sl (c.map eL))),(0, .d (.sl (c.map eL))),(4, .d (.sl (xs.map eL))),(6, .ov 6 0),(9, .d (vI (n:Nat)))]) (fun n=>[(6,some (.o 55 [.d ((.v (.bool (decide (m.a<0))))), .d (dN m.a.natAbs), .d ((.v (.bool (decide (m.b<0))))), .d (dN m.b.natAbs), .d ((.v (.bool (decide (m.c<0))))), .d (dN m.c.natAbs)] true))]) (fun n=>n<=xs.length/\ ∀j (h:j<xs.length),j<n->co xs[j].dir m.dir<0) (fun n=>xs.length-n) 0 J ⟨bV _,fun j _ hj=>absurd hj (by omega)⟩ (fun _=>J) (fun n hk=>?_);obtain⟨n1,n2⟩:=hk;refine kj J J J J (fun hg28=>?_) (fun hg28=>?_)
    .
     refine ix _ J (xb) J<|?_;haveI:LB (xs[n]'(by omega)):=hc _ (hS.m _ (cN _));refine cl J (vv (l:=xs[n]'(by omega))) J<|cl J (vv (l:=m)) J<|cl J (Xo (u:=(xs[n]'(by omega)).dir) (v:=m.dir)) J<|br J J J (fun hc39=>?_) (fun hc39=>?_)
     .
      exact at_ (n+1) ⟨⟨by omega,fun j h hj=>by by_cases q:j=n;(subst q;exact hc39);exact n2 j h (by omega)⟩,(by omega)⟩
     .
      have hidx:n7 xs m=n:=Qa n1 n2 (fun h=>hc39);exact at_ () trivial
    .
     have hidx:n7 xs m=n:=Qa n1 n2 (fun h=>absurd h (by omega));exact at_ () trivial
   .
    obtain⟨n,hnx⟩: ∃n,n7 xs m=n:=⟨_,rfl⟩;rw[hnx];have hnl:n<=xs.length:=by rw[<-hnx];unfold n7;exact(List.takeWhile_sublist _).length_le
    have hcb: ∀m∈xs,LB m:=fun m hm=>hc m (hS.m m hm);refine kj J J J J (fun hg45=>?_) (fun hg45=>?_)
    .
     refine ix _ J (xb) J<|cl J (DY (l:=xs[n]'(by omega)) (m:=m) (hl:=hcb _ (cN (by omega)))) J<|br J J J (fun hc54=>?_) (fun hc54=>?_)
     .
      have hn46:n<xs.length:=by omega
      have hinv:my c (k+1) xs:=hS.ins hk hyes (by rw[<-hm];exact Vh hnx hn46 ((AG _ m).1 hc54)) (by omega);exact at_ ⟨xs,k+1⟩ (by dsimp only;exact⟨hinv,(by omega)⟩)
     .
      have hnew: ∀h:n<xs.length,xs[n]≠m:=fun h e=>hc54 ((AG _ m).2 e);obtain⟨ys,hys⟩: ∃ys,ys=xs.take n++m::xs.drop n:=⟨_,rfl⟩;have hinv:my c (k+1) ys:=hS.ins hk hyes (by rw[<-hm,ON hnx hnew,hys]) (by rw[hys];simp;omega);refine s3 n _ J J J J (fP _) (by rw[hxl];exact hnl) J<|ro J J<|kI n xs.length _ J J (by rw[hxl]) J (fP _) hnl (by omega) J<|ap _ J J (Jm _ _ _) J<|lP (hv:=by simp only[ak];exact⟨by kernel_rfl,by omega⟩) (ho:=fun _=>⟨Mp _ _,by simp⟩) (ys.map eL) J (by rw[hys,bX,bU,iT,jV,bM (l:=xs.map eL) (i:=xs.length) (by simp)];rfl) (MK _ _ _ _) J<|at_ ⟨ys,k+1⟩ (by dsimp only;exact⟨hinv,(by omega)⟩)
    .
     have hnew: ∀h:n<xs.length,xs[n]≠m:=fun h=>absurd h (by omega);obtain⟨ys,hys⟩: ∃ys,ys=xs.take n++m::xs.drop n:=⟨_,rfl⟩;have hinv:my c (k+1) ys:=hS.ins hk hyes (by rw[<-hm,ON hnx hnew,hys]) (by rw[hys];simp;omega);refine s3 n _ J J J J (fP _) (by rw[hxl];exact hnl) J<|ro J J<|kI n xs.length _ J J (by rw[hxl]) J (fP _) hnl (by omega) J<|ap _ J J (Jm _ _ _) J<|lP (hv:=by simp only[ak];exact⟨by kernel_rfl,by omega⟩) (ho:=fun _=>⟨Mp _ _,by simp⟩) (ys.map eL) J (by rw[hys,bX,bU,iT,jV,bM (l:=xs.map eL) (i:=xs.length) (by simp)];rfl) (MK _ _ _ _) J<|at_ ⟨ys,k+1⟩ (by dsimp only;exact⟨hinv,(by omega)⟩)
 .
  have hfin:iH c=xs:=hS.done (by have:=hS.le;omega);refine cs 71 J J J (fun hg71=>?_) (fun hg71=>?_)
  .
   exact rz J (by rw[Gb,if_pos hg71,hfin];rfl)
  .
   exact rz J (by rw[Gb,if_neg hg71,hfin];rfl)
section
variable (c:α->α->Int)
def dw(x:α):List α->List α
 |[]=>[x]
 |u::t=>if c u x<0 then u::dw x t else if c u x=0 then u::t else x::u::t
def mn(x:α)(xs:List α):Nat:=(xs.takeWhile fun u=>decide (c u x<0)).length
def Ep(x:α)(xs:List α):mn c x xs<=xs.length:=(List.takeWhile_sublist _).length_le
def vG{x:α}{xs:List α}{n:Nat}(h1:n<=xs.length)(h2: ∀j (h:j<xs.length),j<n->c xs[j] x<0)(h3: ∀h:n<xs.length,¬c xs[n] x<0):mn c x xs=n:=
 IG h1 (fun j h hj=>decide_eq_true (h2 j h hj)) (fun h=>decide_eq_false (h3 h))
def Bw{x:α}: ∀{xs:List α} {n:Nat},mn c x xs=n->(h:n<xs.length)->c xs[n] x=0->dw c x xs=xs
 |[],n,_,h,_=>by simp at h
 |u::t,n,hn,h,e=>by
  rw[dw];unfold mn at hn;rw[pX] at hn;by_cases hu:c u x<0
  .rw[if_pos hu]
   rw[if_pos (by simpa using hu)] at hn;obtain⟨k,rfl⟩: ∃k,n=k+1:=⟨n-1,by simp at hn;omega⟩;rw[Bw (xs:=t) (n:=k) (by unfold mn;simpa using hn) (by simpa using h) (by simpa using e)]
  .rw[if_neg (by simpa using hu)] at hn
   simp at hn;subst hn;rw[if_neg hu,if_pos (by simpa using e)]
def tq{x:α}: ∀{xs:List α} {n:Nat},mn c x xs=n->(∀h:n<xs.length,c xs[n] x≠0)->dw c x xs=xs.take n++x::xs.drop n
 |[],n,hn,_=>by simp[mn] at hn;subst hn;rfl
 |u::t,n,hn,e=>by
  rw[dw];unfold mn at hn;rw[pX] at hn;by_cases hu:c u x<0
  .rw[if_pos hu]
   rw[if_pos (by simpa using hu)] at hn;obtain⟨k,rfl⟩: ∃k,n=k+1:=⟨n-1,by simp at hn;omega⟩;rw[tq (xs:=t) (n:=k) (by unfold mn;simpa using hn) (fun h=>by have:=e (by simpa using h);simpa using this)];simp
  .rw[if_neg (by simpa using hu)] at hn
   simp at hn;subst hn;have:=e (by simp);rw[if_neg hu,if_neg (by simpa using this)];rfl
def D6(x:α): ∀(xs:List α),(dw c x xs).length<=xs.length+1
 |[]=>bW _
 |u::t=>by
  have:=D6 x t;rw[dw];split
  .simp;omega
  .split<;>simp
def La{x y:α}: ∀{xs:List α},y∈dw c x xs->y=x\/y∈xs
 |[],h=>by rw[dw,aT] at h;exact .inl h
 |u::t,h=>by
  rw[dw] at h;split at h
  .rcases aK.1 h with rfl|h
   .exact .inr aQ
   .rcases La h with h|h
    .exact .inl h
    .exact .inr (aJ _ h)
  .split at h
   .exact .inr h
   .rcases aK.1 h with rfl|h
    .exact .inl J
    .exact .inr h
def rF(l:List α):List α:=l.foldl (fun out x=>dw c x out) []
def Dh: ∀(l o:List α),(l.foldl (fun out x=>dw c x out) o).length<=l.length+o.length
 |[],o=>by simp
 |x::t,o=>by
  have:=Dh t (dw c x o);have:=D6 c x o;simp only[kN,aN];omega
def Bb{y:α}: ∀{l o:List α},y∈l.foldl (fun out x=>dw c x out) o->y∈l\/y∈o
 |[],o,h=> .inr h
 |x::t,o,h=>by
  rcases Bb (l:=t) h with h|h
  .exact .inl (aJ _ h)
  .rcases La c h with rfl|h
   .exact .inl aQ
   .exact .inr h
end
def Ac{x:Rat}: ∀{l:List Rat},kE x l=dw bz x l
 |[]=>rfl
 |u::t=>by
  have e1:bz u x<0↔u<x:=Qe u x;have e2:bz u x=0↔u=x:=vJ u x;rw[kE,dw,Ac (l:=t)];by_cases h:u<x
  .rw[if_pos h,if_pos (e1.2 h)]
  .rw[if_neg h,if_neg (fun e=>h (e1.1 e))]
   by_cases h2:u=x
   .rw[if_pos h2,if_pos (e2.2 h2)]
   .rw[if_neg h2,if_neg (fun e=>h2 (e2.1 e))]
def uZ{f:α->β}{l:List α}{x:α}(h:l[k]? =some x):(l.take k).map f++[f x]=(l.take (k+1)).map f:=by
 rw[dR,h,bX];rfl
def QG{a:Nat}[ha:BN a i](hi:i<=400000000:=by decide):PF GB prog 155 [dN a] (dN a):=by
 have hl:=bP (dg a);have hb:=k9 ha.h;refine fn func155 J J ntmps155 J J (fun C=>?_);refine sA J J<|ap ((dg a).map dU) J J (r5 _) J<|iu 5 J<|rz J J
def FJ[hz:BI z i](hi:i<=400000000:=by decide):PF GB prog 154 [eI z] (eI z):=by
 refine fn func154 J J ntmps154 J J (fun C=>?_);refine cl J (QG (a:=z.natAbs) (i:=i) (ha:=⟨hz.h⟩) hi) J<|rz J J
def aJq(hl:BL l 96):PF GB prog 97 [eL l] (eL l):=by
 haveI h1:BI l.a 96:=⟨hl.a⟩;haveI h2:BI l.b 96:=⟨hl.b⟩;haveI h3:BI l.c 96:=⟨hl.c⟩;refine fn func97 J J ntmps97 J J (fun C=>?_);refine cl J (FJ (z:=l.a)) J<|cl J (FJ (z:=l.b)) J<|cl J (FJ (z:=l.c)) J<|rz J J
def aAX(h:ds[ds.length-1]? =some d):fj ds↔ ¬((d:Int)=0):=by
 unfold fj;rw[oZ,h];simp
def PE(hn:ds.length<=1000000):PF GB prog 292 [dG ds] (vB (decide (fj ds))):=by
 have hm:=bP ds;refine fn (fu:=⟨9⟩) func292 J J ntmps292 J J (fun C=>?_);refine aj 4 (.d (vI (ds.length:Nat))) J (by rw[hm]<;>rfl)<|gx (fu:=⟨0⟩) J<|kj (fu2:=⟨4⟩) J J J J (fun hg5=>?_) (fun hg5=>?_)
 .
  exact rz rfl (by obtain rfl:ds=[]:=cW (by omega);show DV.v (.bool _)= .v (.bool _);congr 2<;>exact(decide_eq_true (by intro h;cases h)).symm)
 .
  obtain⟨d,hd⟩: ∃d,ds[ds.length-1]? =some d:=⟨_,aZ (by omega)⟩;refine aj 9 (.d (vI (ds.length:Nat))) J (by rw[hm]<;>rfl)<|gx J<|ix _ J (by rw[show(((ds.length:Nat):Int)-1).toNat=ds.length-1 by omega,cV,hd];rfl) J<|?_;exact rz J (by show DV.v (.bool _)= .v (.bool _);congr 2;exact decide_eq_decide.2 (aAX hd).symm)
def KP(hn:ds.length<=1000000):PF GB prog 237 [.ag [.v (.bool neg),dG ds]] (vB (decide (s9 neg ds))):=by
 have hm:=bP ds;refine fn func237 J J ntmps237 J J (fun C=>?_);by_cases hN:fj ds
 .
  refine cl (fu:=⟨0⟩) J (PE hn) J<|aj 5 (.d (vB true)) J (by rw[decide_eq_true hN])<|ll 5 J<|gx J<|iC (fu2:=⟨3⟩) 10 J J J (fun hg10=>?_) (fun hg10=>?_)
  .
   exact rz J (by show DV.v (.bool _)= .v (.bool _);congr 2;unfold s9;simp_all)
  .
   refine aj 13 (.d (vI (ds.length:Nat))) J (by rw[hm]<;>rfl)<|gx J<|rz J (by show DV.v (.bool _)= .v (.bool _);congr 2;unfold s9;simp_all)
 .
  refine cl (fu:=⟨0⟩) J (PE hn) J<|aj 5 (.d (vB false)) J (by rw[decide_eq_false hN])<|pg 5 J<|gx J<|rz J (by show DV.v (.bool _)= .v (.bool _);congr 2;unfold s9;simp_all)
def Pv(hd:bA ds)(hn:ds.length<=1000000):PF GB prog 293 [dG ds] (dN (dv ds)):=by
 have hm:=bP ds;refine fn func293 J J ntmps293 J J (fun C=>?_);refine sA J J<|ap (ds.map dU) J J (r5 _) J<|fz 5 J J<|cl J (r7 (ds:=ds)) J<|rz J (by unfold dN;rw[ED hd];rfl)
def DD(hd:bA ds)(hn:ds.length<=1000000):PF GB prog 238 [.ag [.v (.bool neg),dG ds]] (eI (qI neg ds)):=by
 refine fn func238 J J ntmps238 J J (fun C=>?_);refine cl J (Pv hd hn) J<|cl J kB J<|rz J J
def DW(r:RL):DV:= .tp [if r.nm then eL r.l else .ag [.v (.bool false), .sl [], .v (.bool false), .sl [], .v (.bool false), .sl []],vB (decide (r.nm/\r.l.ok))]
def aIh{a b:Nat}(h:i5 a b=0):a=b:=by
 unfold i5 at h;split at h
 .cases h
 .split at h
  .assumption
  .cases h
def HA:l.ok↔0<Nat.gcd l.a.natAbs l.b.natAbs/\Nat.gcd (Nat.gcd l.a.natAbs l.b.natAbs) l.c.natAbs=1:=by
 unfold ah.ok;refine and_congr ?_ Iff.rfl;rw[Nat.pos_iff_ne_zero,ne_eq,Nat.gcd_eq_zero_iff];simp only[kM]
def WF{r:RL}(s:r.sm)(h:r.nm):PF GB prog 169 [r.d] (DW r):=by
 haveI:=RL.lb s;haveI ba:BN r.l.a.natAbs 96:=⟨(LB.a r.l).h⟩;haveI bb':BN r.l.b.natAbs 96:=⟨(LB.b r.l).h⟩;haveI bc:BN r.l.c.natAbs 96:=⟨(LB.c r.l).h⟩;obtain⟨g,hg⟩: ∃g,g=Nat.gcd r.l.a.natAbs r.l.b.natAbs:=⟨_,rfl⟩;haveI bg:BN g 96:=hg▸⟨HE ba.h bb'.h⟩;have bgc:=HE bg.h bc.h;have hgl:=k9 bg.h;refine fn func169 J J ntmps169 J J (fun C=>?_);refine cl (fu:=⟨0⟩) J (KP (neg:=r.na) (ds:=r.da) (by have:=s.a.2;omega)) J<|cg J (by show some (!decide _)=some false;rw[decide_eq_true h.1];rfl) J<|cl (fu:=⟨0⟩) J (KP (neg:=r.nb) (ds:=r.db) (by have:=s.b.2;omega)) J<|cg J (by show some (!decide _)=some false;rw[decide_eq_true h.2.1];rfl) J<|cl (fu:=⟨0⟩) J (KP (neg:=r.nc) (ds:=r.dc) (by have:=s.c.2;omega)) J<|cg J (by show some (!decide _)=some false;rw[decide_eq_true h.2.2];rfl) J<|cl J (DD (neg:=r.na) (ds:=r.da) s.a.1 (by have:=s.a.2;omega)) J<|cl J (DD (neg:=r.nb) (ds:=r.db) s.b.1 (by have:=s.b.2;omega)) J<|cl J (DD (neg:=r.nc) (ds:=r.dc) s.c.1 (by have:=s.c.2;omega)) J<|cl (fu:=⟨0⟩) J (AZ (a:=r.l.a.natAbs) (b:=r.l.b.natAbs)) J<|aj 39 (.d (dN g)) J (by rw[hg])<|gx (fu:=⟨8⟩) J<|aj 42 (.d (vI ((dg g).length:Nat))) J (by rw[bP]<;>rfl)<|gx (fu:=⟨0⟩) J<|kj (v2:=fun hg43=>by simp only[ak];kernel_rfl) J J J J (fun hg43=>?_) (fun hg43=>?_)
 .
  refine cl J (AZ (a:=g) (b:=r.l.c.natAbs)) J<|cl J F2 J<|cl J (Aw (a:=Nat.gcd g r.l.c.natAbs) (b:=1) (by have:=k9 bgc;omega) (by have:=k9 (show 1<2^32 by decide);omega)) J<|rz J (by unfold DW;rw[if_pos h,show decide (r.nm/\r.l.ok)=decide (i5 (Nat.gcd g r.l.c.natAbs) 1=0) from decide_eq_decide.2 ⟨fun e=>Ib (by rw[hg];exact(HA.1 e.2).2),fun e=>⟨h,HA.2 ⟨by rw[<-hg];exact wc.1 (by omega),by rw[<-hg];exact aIh e⟩⟩⟩];rfl)
 .
  exact rz J (by unfold DW;rw[if_pos h,show decide (r.nm/\r.l.ok)=false from decide_eq_false fun e=>by(have h1:=(HA.1 e.2).1;rw[<-hg] at h1;have:=wc.2 h1;omega)];rfl)
def aKd{n:Nat}[h:BN n i](hi:i<=20000000:=by decide):PF GB prog 293 [dN n] (dN n):=by
 have hl:=k9 h.h;have:=Pv (GB:=GB) (ds:=dg n) (gy n) (by omega);rw[dl,<-Hy] at this;exact this
def ayv(z:Int):qI (decide (z<0)) (dg z.natAbs)=z:=by
 unfold qI;rw[dl];split<;>(rename_i h;simp at h;omega)
def U4[h:BI z i](hi:i<=20000000:=by decide):PF GB prog 238 [eI z] (eI z):=by
 have hl:=k9 h.h;have:=DD (GB:=GB) (neg:=decide (z<0)) (ds:=dg z.natAbs) (gy _) (by omega);rw[ayv,<-Hy] at this;exact this
def aKo{n:Nat}(h:0<n): ¬((((dg n).map dU).length:Nat):Int)=0:=by
 rw[aX];have:=vQ (n:=n);omega
instance BQ.m1':BQ (((-1:Int):Int):Rat) 2:=⟨by decide,by decide⟩
instance BQ.m1:BQ (-1:Rat) 2:=⟨by decide,by decide⟩
def Q3[h:BQ q i](hi:i<=20000000:=by decide):PF GB prog 287 [eR q] (eQ q):=by
 have hd:=q.den_pos;refine fn func287 J J ntmps287 J J (fun C=>?_);refine cl (fu:=⟨8⟩) J (aKd (n:=q.den) hi) J<|cg J (by show some (decide _)=some false;rw[decide_eq_false (aKo hd)]) J<|cl J (U4 (z:=q.num) hi) J<|cl J (wM (x:=q.num) (d:=q.den) hd (by omega) (by omega)) J<|rz J (by rw[sZ];rfl)
def Mt[h:BQ q i](hi:i<=400000000:=by decide):PF GB prog 80 [eQ q] (eR q):=by
 refine fn func80 J J ntmps80 J J (fun C=>?_);refine cl J (FJ (z:=q.num) hi) J<|cl J (lg (q:=q)) J<|cl J (QG (a:=q.den) hi) J<|rz J J
def aLP[h:aE p i](hi:i<=20000000:=by decide):PF GB prog 231 [nI p] (eP p):=by
 refine fn func231 J J ntmps231 J J (fun C=>?_);refine cl J (Q3 (q:=p.x) hi) J<|cl J (Q3 (q:=p.y) hi) J<|rz J J
def Cp[h:aE p i](hi:i<=20000:=by decide):PF GB prog 30 [eP p] (nI p):=by
 refine fn func30 J J ntmps30 J J (fun C=>?_);refine cl J (Mt (q:=p.x) (i:=i) (by omega)) J<|cl J (Mt (q:=p.y) (i:=i) (by omega)) J<|rz J J
def eO(f:α->DV)(l:List α):(l.map f).length=l.length:=aX ..
def Nz(ps:List aa):c9 6 (ps.map eP):=fun d hd=>by
 obtain⟨u,_,rfl⟩:=aU.1 hd;exact⟨rfl,rfl⟩
def aGJ(ps:List aa):c9 6 (ps.map nI):=fun d hd=>by
 obtain⟨u,_,rfl⟩:=aU.1 hd;exact⟨rfl,rfl⟩
def aJO(hb: ∀p∈ps,aE p 1200)(hn:ps.length<=1000000):PF GB prog 161 [.sl (ps.map nI)] (.sl (ps.map eP)):=by
 have hm:=eO nI ps;refine fn (fu:=⟨15⟩) func161 J J ntmps161 J J (fun C=>?_);refine aj 7 (.d (vI (ps.length:Nat))) J (by rw[hm]<;>rfl)<|gx J<|nr 3 3 53 6 J J J<|lp (X:=Nat) (fun k=>[(8, .d (vI (k:Nat))),(3, .rw 3)]) (fun k=>[(3,some (.b 53 6 ((ps.take k).map eP) true))]) (fun k=>k<=ps.length) (fun k=>ps.length-k) 0 J (bV _) (fun _=>J) (fun k hk=>?_);have hml:=eO eP (ps.take k);rw[bR] at hml;refine br J J J (fun hc9=>?_) (fun hc9=>?_)
 .
  obtain⟨z,hz⟩: ∃s,ps[k]? =some s:=⟨_,aZ (by omega)⟩;have hzm:=aV hz;refine ix _ J (cD hz) J<|cl J (aLP (p:=z) (h:=hb z hzm)) J<|rf J J<|ap ((ps.take (k+1)).map eP) J (uZ hz) (Nz [z]) J<|fw 16 3 J<|at_ (k+1) ⟨(by omega),(by omega)⟩
 .
  obtain rfl:k=ps.length:=by omega
  refine iu 3 J<|rz J (by rw[dQ];rfl)
def LC(hb: ∀p∈ps,aE p 1200)(hn:ps.length<=1000000):PF GB prog 11 [.sl (ps.map eP)] (.sl (ps.map nI)):=by
 have hm:=eO eP ps;refine fn (fu:=⟨15⟩) func11 J J ntmps11 J J (fun C=>?_);refine aj 7 (.d (vI (ps.length:Nat))) J (by rw[hm]<;>rfl)<|gx J<|nr 3 3 79 6 J J J<|lp (X:=Nat) (fun k=>[(8, .d (vI (k:Nat))),(3, .rw 3)]) (fun k=>[(3,some (.b 79 6 ((ps.take k).map nI) true))]) (fun k=>k<=ps.length) (fun k=>ps.length-k) 0 J (bV _) (fun _=>J) (fun k hk=>?_);have hml:=eO nI (ps.take k);rw[bR] at hml;refine br J J J (fun hc9=>?_) (fun hc9=>?_)
 .
  obtain⟨z,hz⟩: ∃s,ps[k]? =some s:=⟨_,aZ (by omega)⟩;have hzm:=aV hz;refine ix _ J (cD hz) J<|cl J (Cp (p:=z) (h:=hb z hzm)) J<|rf J J<|ap ((ps.take (k+1)).map nI) J (uZ hz) (aGJ [z]) J<|fw 16 3 J<|at_ (k+1) ⟨(by omega),(by omega)⟩
 .
  obtain rfl:k=ps.length:=by omega
  refine iu 3 J<|rz J (by rw[dQ];rfl)
def Sv{q:aa}[hp:aE p i][hq:aE q j](hi:i<=100000:=by decide)(hj:j<=100000:=by decide):PF GB prog 143 [eP p,eP q] (eP (b8 p q (-1))):=by
 refine fn func143 J J ntmps143 J J (fun C=>?_);refine cl J (jl (n:= -1)) J<|cl J (wU (p:=p) (q:=q) (c:=((-1:Int):Rat)) (i:=i) (j:=j) (k:=2) (by omega) (by omega)) J<|rz J (by rw[show((-1:Int):Rat)= -1 from J];rfl)
def Il{a b c:aa}[ha:aE a i][hb:aE b j][hc:aE c k](hi:i<=80000:=by decide)(hj:j<=80000:=by decide)(hk:k<=80000:=by decide):PF GB prog 89 [eP a,eP b,eP c] (vI (uK a b c)):=by
 refine fn func89 J J ntmps89 J J (fun C=>?_);refine cl J (Sv (p:=b) (q:=a) (i:=j) (j:=i) (by omega) (by omega)) J<|cl J (Sv (p:=c) (q:=a) (i:=k) (j:=i) (by omega) (by omega)) J<|cl J (GI (p:=b8 b a (-1)) (q:=b8 c a (-1)) (by omega) (by omega)) J<|cl J (sB (q:=(b8 b a (-1)).cross (b8 c a (-1)))) J<|rz J J
def qg(l:ah):Bool:=decide (l.a<0\/(l.a=0/\l.b<0))
def ah.canon(l:ah):ah:=if qg l then l.rev else l
def Ct(a:Int):a.sign<0↔a<0:=by
 rcases lV a 0 with h|h|h
 .rw[dY h];omega
 .subst h;simp
 .rw[eK h];omega
def Q5(a:Int):a.sign=0↔a=0:=iZ
def OJ(h:l.a<0\/(l.a=0/\l.b<0)):DV.tp [eL l.canon,vB (qg l)]= .tp [eL l.rev,vB true]:=by
 unfold ah.canon qg;rw[decide_eq_true h];rfl
def RR(h: ¬(l.a<0\/(l.a=0/\l.b<0))):DV.tp [eL l.canon,vB (qg l)]= .tp [eL l,vB false]:=by
 unfold ah.canon qg;rw[decide_eq_false h];rfl
def ayT[hl:LB l]:PF GB prog 173 [eL l] (.tp [eL l.canon,vB (qg l)]):=by
 refine fn func173 J J ntmps173 J J (fun C=>?_);refine cl J (zh (z:=l.a)) J<|cs 10 J J J (fun hg10=>?_) (fun hg10=>?_)
 .
  refine cl J (B9 (l:=l)) J<|rz J (by rw[OJ (.inl ((Ct _).1 hg10))];rfl)
 .
  refine cs 13 J J J (fun hg13=>?_) (fun hg13=>?_)
  .
   refine cl J (zh (z:=l.b)) J<|br J J J (fun hc19=>?_) (fun hc19=>?_)
   .
    refine cl J (B9 (l:=l)) J<|rz J (by rw[OJ (.inr ⟨(Q5 _).1 hg13,(Ct _).1 hc19⟩)];rfl)
   .
    exact rz J (by rw[RR (fun e=>e.elim (fun e=>hg10 ((Ct _).2 e)) (fun e=>hc19 ((Ct _).2 e.2)))];rfl)
  .
   exact rz J (by rw[RR (fun e=>e.elim (fun e=>hg10 ((Ct _).2 e)) (fun e=>hg13 ((Q5 _).2 e.1)))];rfl)
instance LB.canon (l:ah) [h:LB l]:LB l.canon:=by unfold ah.canon;split;exact LB.rev h;exact h
def Ma(h:l.ok):l.canon.ok:=by unfold ah.canon;split;exact h.rev;exact h
def rp(c:β->β->Int)(g:α->β)(l:List α)(k:Nat):List β:=rF c ((l.take k).map g)
section
variable {c:β->β->Int}{g:α->β}{l:List α}
def Am{x:α}(h:l[k]? =some x):rp c g l (k+1)=dw c (g x) (rp c g l k):=by
 unfold rp rF;rw[dR,h,pL,bX,oT];rfl
def Ty(h:k=l.length:=by omega):rp c g l k=rF c (l.map g):=by unfold rp;rw[h,dQ]
def Ld:(rp c g l k).length<=k:=by
 have:=Dh c ((l.take k).map g) [];have h2:((l.take k).map g).length<=k:=by rw[aX,bR];omega
 rw[dT] at this;unfold rp rF;omega
def QF{y:β}(h:y∈rp c g l k): ∃x∈l,y=g x:=by
 rcases Bb c h with h|h
 .obtain⟨x,hx,rfl⟩:=aU.1 h
  exact⟨x,eX hx,J⟩
 .cases h
end
def uE{f:α->DV}(ok: ∀l:List α,c9 s (l.map f))(xs:List α)(n:Nat):c9 s ((xs.map f).take n):=fun d hd=>ok xs d (eX hd)
def tI{f:α->DV}(ok: ∀l:List α,c9 s (l.map f))(xs:List α)(n m:Nat):c9 s (((xs.map f).take n).drop m):=fun d hd=>ok xs d (eX (gR hd))
def vK{f:α->DV}(ok: ∀l:List α,c9 s (l.map f))(xs:List α)(n m:Nat)(x:α):c9 s ([f x]++((xs.map f).take n).drop m):=fun d hd=>by
 rcases aL.1 hd with h|h
 .exact ok [x] d h
 .exact tI ok xs n m d h
def uu{f:α->DV}{l:List α}(h:i<l.length:=by omega):(l.map f)[(i:Int).toNat]? =some (f l[i]):=by
 rw[cZ,cV,aZ h];rfl
def n9(ls:List ah):List ah:=rF iz (ls.map ah.canon)
def CX{y:ah}(h:y∈n9 ls): ∃x∈ls,y=x.canon:=by
 rcases Bb iz h with h|h
 .obtain⟨x,hx,rfl⟩:=aU.1 h;exact⟨x,hx,rfl⟩
 .cases h
def Oi(hb: ∀p∈ls,LB p)(hn:ls.length<=100000):PF GB prog 102 [.sl (ls.map eL)] (.sl ((n9 ls).map eL)):=by
 have hm':=eO eL ls;refine fn (fu:=⟨15⟩) func102 J J ntmps102 J J (fun C=>?_);refine aj 8 (.d (vI (ls.length:Nat))) J (by rw[hm'];rfl)<|gx J<|CC 3 J<|lp (X:=List ah×Nat) (fun⟨xs,k⟩=>[(9, .d (vI (k:Nat))),(8, .d (vI (ls.length:Nat))),(7, .d (.sl (ls.map eL))),(0, .d (.sl (ls.map eL))),(3, .d (.sl (xs.map eL)))]) (fun⟨xs,k⟩=>[]) (fun⟨xs,k⟩=>xs=rp iz ah.canon ls k/\k<=ls.length) (fun⟨xs,k⟩=>ls.length-k) ⟨[],0⟩ J ⟨J,bV _⟩ (fun _=>J) (fun⟨xs,k⟩ hk=>?_)
 try dsimp only at hk⊢
 obtain⟨hS,hkl⟩:=hk;refine br J J J (fun hc10=>?_) (fun hc10=>?_)
 .
  have hk:k<ls.length:=by omega
  obtain⟨z,hm⟩: ∃m,m=ls[k]:=⟨_,rfl⟩;have hz:ls[k]? =some z:=by rw[hm];exact aZ hk
  haveI hzb:LB z:=hm▸hb _ (cN hk);obtain⟨m,hmc⟩: ∃m,m=z.canon:=⟨_,rfl⟩;haveI hmb:LB m:=by rw[hmc];infer_instance
  have hxl:=eO eL xs;have hxn:xs.length<=k:=by rw[hS];exact Ld
  have hxb: ∀q∈xs,LB q:=fun q hq=>by rw[hS] at hq;obtain⟨z,hz,rfl⟩:=QF hq;haveI:=hb z hz;infer_instance
  refine ix (fu:=⟨1⟩) _ J (uu hk) J<|aj 12 (.d (eL z)) J (by rw[hm];rfl)<|gx J<|cl (fu:=⟨2⟩) J (ayT (l:=z)) J<|aj 16 (.d (eL m)) J (by rw[hmc])<|gx (fu:=⟨10⟩) J<|mg (fu:=⟨5⟩) (X:=Unit) (fun _=>[(9, .d (vI (k:Nat))),(8, .d (vI (ls.length:Nat))),(7, .d (.sl (ls.map eL))),(0, .d (.sl (ls.map eL))),(3, .d (.sl (xs.map eL))),(5, .ov 5 0),(6, .d (vI (mn iz m xs:Nat)))]) (fun _=>[(5,some (.o 55 [.d ((.v (.bool (decide (m.a<0))))), .d (dN m.a.natAbs), .d ((.v (.bool (decide (m.b<0))))), .d (dN m.b.natAbs), .d ((.v (.bool (decide (m.c<0))))), .d (dN m.c.natAbs)] true))]) (fun _=>True) [9,8,7,0,3,5,6] [5] rfl ?_ (fun _=>J) (fun _ _=>?_)
  .
   refine gx J<|lp (fu:=⟨6⟩) (X:=Nat) (fun n=>[(9, .d (vI (k:Nat))),(8, .d (vI (ls.length:Nat))),(7, .d (.sl (ls.map eL))),(0, .d (.sl (ls.map eL))),(3, .d (.sl (xs.map eL))),(5, .ov 5 0),(6, .d (vI (n:Nat)))]) (fun n=>[(5,some (.o 55 [.d ((.v (.bool (decide (m.a<0))))), .d (dN m.a.natAbs), .d ((.v (.bool (decide (m.b<0))))), .d (dN m.b.natAbs), .d ((.v (.bool (decide (m.c<0))))), .d (dN m.c.natAbs)] true))]) (fun n=>n<=xs.length/\ ∀j (h:j<xs.length),j<n->iz xs[j] m<0) (fun n=>xs.length-n) 0 J ⟨bV _,fun j _ hj=>absurd hj (by omega)⟩ (fun _=>J) (fun n hk=>?_);obtain⟨n1,n2⟩:=hk;refine kj (v2:=fun hg21=>by simp only[ak];kernel_rfl) J J J J (fun hg21=>?_) (fun hg21=>?_)
   .
    refine ix _ J (uu) J<|cl J (DY (l:=xs[n]'(by omega)) (m:=m) (hl:=hxb _ (cN (by omega))) (hm:=hmb)) J<|br J J J (fun hc30=>?_) (fun hc30=>?_)
    .
     exact at_ (n+1) ⟨⟨by omega,fun j h hj=>by by_cases q:j=n;(subst q;exact hc30);exact n2 j h (by omega)⟩,(by omega)⟩
    .
     have hidx:mn iz m xs=n:=vG iz n1 n2 (fun h=>hc30);exact at_ () trivial
   .
    have hidx:mn iz m xs=n:=vG iz n1 n2 (fun h=>absurd h (by omega));exact at_ () trivial
  .
   obtain⟨n,hnx⟩: ∃n,mn iz m xs=n:=⟨_,rfl⟩;rw[hnx];have hnl:n<=xs.length:=by rw[<-hnx];exact Ep _ _ _
   refine kj (v1:=fun hg36=>by simp only[ak];kernel_rfl) J J J J (fun hg36=>?_) (fun hg36=>?_)
   .
    have hnew: ∀h:n<xs.length,iz xs[n] m≠0:=fun h=>absurd h (by omega);obtain⟨ys,hys⟩: ∃ys,ys=xs.take n++m::xs.drop n:=⟨_,rfl⟩;have hin:dw iz m xs=ys:=by rw[hys];exact tq iz hnx hnew
    have hyl:ys.length<=xs.length+1:=by rw[hys];simp;omega
    refine s3 n _ J J J J (fP _) (by rw[hxl];exact hnl) J<|ro J J<|kI n xs.length _ J J (by rw[hxl]) J (fP _) hnl (by omega) J<|ap _ J J (tI fP _ _ _) J<|lP (hv:=by simp only[ak];exact⟨by kernel_rfl,by omega⟩) (ho:=fun _=>⟨uE fP _ _,by simp⟩) (ys.map eL) J (by rw[hys,bX,bU,iT,jV,bM (l:=xs.map eL) (i:=xs.length) (by simp)];rfl) (vK fP _ _ _ _) J<|at_ ⟨ys,k+1⟩ (by dsimp only;exact⟨⟨by rw[Am hz,<-hS,<-hmc];exact hin.symm,by omega⟩,(by omega)⟩)
   .
    refine ix _ J (uu) J<|cl J (DY (l:=xs[n]'(by omega)) (m:=m) (hl:=hxb _ (cN (by omega))) (hm:=hmb)) J<|br J J J (fun hc45=>?_) (fun hc45=>?_)
    .
     have hnew: ∀h:n<xs.length,iz xs[n] m≠0:=fun h=>hc45;obtain⟨ys,hys⟩: ∃ys,ys=xs.take n++m::xs.drop n:=⟨_,rfl⟩;have hin:dw iz m xs=ys:=by rw[hys];exact tq iz hnx hnew
     have hyl:ys.length<=xs.length+1:=by rw[hys];simp;omega
     refine s3 n _ J J J J (fP _) (by rw[hxl];exact hnl) J<|ro J J<|kI n xs.length _ J J (by rw[hxl]) J (fP _) hnl (by omega) J<|ap _ J J (tI fP _ _ _) J<|lP (hv:=by simp only[ak];exact⟨by kernel_rfl,by omega⟩) (ho:=fun _=>⟨uE fP _ _,by simp⟩) (ys.map eL) J (by rw[hys,bX,bU,iT,jV,bM (l:=xs.map eL) (i:=xs.length) (by simp)];rfl) (vK fP _ _ _ _) J<|at_ ⟨ys,k+1⟩ (by dsimp only;exact⟨⟨by rw[Am hz,<-hS,<-hmc];exact hin.symm,by omega⟩,(by omega)⟩)
    .
     have hin:dw iz m xs=xs:=Bw iz hnx (by omega) (Decidable.not_not.1 hc45);exact at_ ⟨xs,k+1⟩ (by dsimp only;exact⟨⟨by rw[Am hz,<-hS,<-hmc];exact hin.symm,by omega⟩,(by omega)⟩)
 .
  have hfin:n9 ls=xs:=by rw[hS,Ty];rfl
  exact rz J (by rw[hfin];rfl)
def Dt{α:Type}{c:α->α->Int}(hc: ∀u x,c u x=0->u=x){x y:α}: ∀{xs:List α},y=x\/y∈xs->y∈dw c x xs
 |[],h=>by
  rcases h with rfl|h
  .rw[dw];exact aT.2 J
  .cases h
 |u::t,h=>by
  rw[dw];split
  .rcases h with rfl|h
   .exact aJ _ (Dt hc (.inl J))
   .rcases aK.1 h with rfl|h
    .exact aQ
    .exact aJ _ (Dt hc (.inr h))
  .split
   .rename_i h0
    rcases h with rfl|h
    .rw[<-hc _ _ h0];exact aQ
    .exact h
   .rcases h with rfl|h
    .exact aQ
    .exact aJ _ h
def PO{α:Type}{c:α->α->Int}(hc: ∀u x,c u x=0->u=x){y:α}: ∀{l o:List α},y∈l\/y∈o->y∈l.foldl (fun out x=>dw c x out) o
 |[],o,h=>h.elim (fun h=>by cases h) id
 |x::t,o,h=>by
  refine PO hc (l:=t) ?_;rcases h with h|h
  .rcases aK.1 h with rfl|h
   .exact .inr (Dt hc (.inl J))
   .exact .inl h
  .exact .inr (Dt hc (.inr h))
def L2{x:ah}(h:x∈ls):x.canon∈n9 ls:=
 PO (fun u x e=>(AG u x).1 e) (.inl (dZ h))
def Kj(l:ah)(p:aa):l.canon.value p=l.value p\/l.canon.value p= -l.value p:=by
 unfold ah.canon;split
 .exact .inr (dE l p)
 .exact .inl J
def GZ:cj (n9 ls) p↔cj ls p:=by
 constructor
 .intro h l hl e
  have:=h _ (L2 hl);rcases Kj l p with k|k<;>rw[k,e] at this<;>exact this (by simp)
 .intro h l hl e
  obtain⟨x,hx,rfl⟩:=CX hl;have:=h x hx;rcases Kj x p with k|k<;>rw[k] at e
  .exact this e
  .exact this (by grind)
def Y3{q:aa}(hp:cj ls p)(hq:cj ls q)(h: ∀l∈n9 ls,0<l.value p↔0<l.value q): ∀l∈ls,0<l.value q↔0<l.value p:=fun l hl=>by
 have h1:=h _ (L2 hl);have h2:=hp l hl;have h3:=hq l hl;unfold ah.canon at h1;split at h1
 .rw[dE,dE] at h1
  constructor
  .intro k
   rcases fg (l.value p) with e|e|e
   .exact absurd e h2
   .exact e
   .have:=h1.1 (by grind);grind
  .intro k
   rcases fg (l.value q) with e|e|e
   .exact absurd e h3
   .exact e
   .have:=h1.2 (by grind);grind
 .exact h1.symm
def oB(a b:Tr):List aa:=pI (n9 (a.lns++b.lns))
def aDL(ha:a.all ah.ok)(hb:b.all ah.ok){R:Bool->Bool->Prop}:(∀p∈oB a b,R (ks a p) (ks b p))↔ ∀p,cj (a.lns++b.lns) p->R (a.val p) (b.val p):=by
 have hok: ∀l∈a.lns++b.lns,l.ok:=fun l hl=>(aL.1 hl).elim (gF ha l) (gF hb l);have hne: ∀l∈n9 (a.lns++b.lns),l.Ne:=fun l hl=>by
  obtain⟨x,hx,rfl⟩:=CX hl;exact(Ma (hok x hx)).ne
 constructor
 .intro h p hp
  obtain⟨q,hq,hs⟩:=VG hne (GZ.2 hp);have ho:=GZ.1 (T' hne hq);have hsd:=Y3 hp ho hs;have k:=h q hq;rw[ym (cj.app.1 ho).1,ym (cj.app.1 ho).2,Cg (t:=a) hsd (fun l hl=>bK _ hl),Cg (t:=b) hsd (fun l hl=>bQ _ hl)] at k;exact k
 .intro h p hp
  have ho:=GZ.1 (T' hne hp);rw[ym (cj.app.1 ho).1,ym (cj.app.1 ho).2];exact h p ho
def tP(a b:Tr):Bool:=(oB a b).all fun p=>ks a p==ks b p
def aAw(ha:a.all ah.ok)(hb:b.all ah.ok):tP a b=ER 4 a b:=by
 rw[oJ,(uJ.mk0 ha hb).none,tP,dW,aDL ha hb (R:=fun x y=>(x==y)=true)];unfold tj;simp
def aIl(ha:a.all ah.ok)(hb:b.all ah.ok)(hL: ∀l∈L,l.ok)(hLa: ∀l∈a.lns,l∈L)(hLb: ∀l∈b.lns,l∈L)(h: ∀p,cj L p->a.val p=b.val p):tP a b=true:=by
 rw[aAw ha hb,(uJ.mk ha hb hL hLa hLb).none];intro p hp;rw[h p hp];unfold tj;simp
def T8{α:Type}{c:α->α->Int}(hT: ∀u v w,c u v<0->c v w<0->c u w<0)(hA: ∀u v,¬c u v<0->c u v≠0->c v u<0){x:α}: ∀{xs:List α},xs.Pairwise (fun a b=>c a b<0)->(dw c x xs).Pairwise (fun a b=>c a b<0)
 |[],_=>by rw[dw];exact List.pairwise_singleton _ _
 |u::t,h=>by
  obtain⟨h1,h2⟩:=bY.1 h;rw[dw];split
  .rename_i hu
   refine bY.2 ⟨fun y hy=>?_,T8 hT hA h2⟩;rcases La c hy with rfl|hy
   .exact hu
   .exact h1 y hy
  .rename_i hu
   split
   .exact h
   .rename_i hz
    have hx:=hA u x hu hz;refine bY.2 ⟨fun y hy=>?_,h⟩;rcases aK.1 hy with rfl|hy
    .exact hx
    .exact hT _ _ _ hx (h1 y hy)
def M1{α:Type}{c:α->α->Int}(hT: ∀u v w,c u v<0->c v w<0->c u w<0)(hA: ∀u v,¬c u v<0->c u v≠0->c v u<0): ∀{l o:List α},o.Pairwise (fun a b=>c a b<0)->(l.foldl (fun out x=>dw c x out) o).Pairwise (fun a b=>c a b<0)
 |[],o,h=>h
 |x::l,o,h=>M1 (l:=l) (o:=dw c x o) hT hA (T8 hT hA h)
def aDu:0<co u v↔ce v u:=by
 unfold co ce;split
 .rename_i h;exact⟨fun e=>absurd e (by decide),fun e=>by omega⟩
 .rename_i h
  split
  .rename_i h2;exact⟨fun _=> .inl h2,fun _=>by decide⟩
  .rename_i h2
   have e:v.half=u.half:=by omega
   rw[fE u v];constructor
   .intro k
    have:Int.sign (u.cross v).num<0:=by omega
    rw[u'] at this;exact .inr ⟨e,by grind⟩
   .rintro (k|⟨_,k⟩)
    .omega
    .have:Int.sign (u.cross v).num<0:=(u' _).2 (by grind)
     omega
def ce.trans{u v w:aa}(hu:u.half≠0)(hv:v.half≠0)(hw:w.half≠0)(h:ce u v)(k:ce v w):ce u w:=by
 rcases h with h|⟨h,h'⟩<;>rcases k with k|⟨k,k'⟩
 .exact .inl (by omega)
 .exact .inl (by omega)
 .exact .inl (by omega)
 .refine .inr ⟨h.trans k,?_⟩
  have id1:u.cross w*v.y=u.cross v*w.y+v.cross w*u.y:=by unfold aa.cross;grind
  rcases ld v with⟨x,q⟩|⟨x,q⟩|⟨x,q⟩
  .rw[x] at h k
   have qu:=mj.1 h;have qw:=mj.1 k.symm;rcases q with q|⟨q,q'⟩
   .rw[<-eD q,id1]
    have wy:0<=w.y:=by grind
    have uy:0<=u.y:=by grind
    have a1:=cA (cM h') wy;rcases qu with qu|⟨qu,qu'⟩
    .have:=bD k' qu;grind
    .rcases qw with qw|⟨qw,qw'⟩
     .have:=bD h' qw;rw[qu];grind
     .exfalso
      have hx:v.cross w= -(w.x*v.y):=by unfold aa.cross;rw[qw];grind
      have:=bD qw' q;grind
   .exfalso
    have hx:u.cross v= -(v.x*u.y):=by unfold aa.cross;rw[q];grind
    have:=cA (a:=v.x) (b:=u.y) (cM q') (by grind);grind
  .rw[x] at h k
   have qu:=p7.1 h;have qw:=p7.1 k.symm;rcases q with q|⟨q,q'⟩
   .have e1:u.cross w* -v.y=u.cross v* -w.y+v.cross w* -u.y:=by grind
    rw[<-eD (k:= -v.y) (by grind),e1];have a1:=cA (a:=u.cross v) (b:= -w.y) (cM h') (by grind);rcases qu with qu|⟨qu,qu'⟩
    .have:=bD (a:=v.cross w) (b:= -u.y) k' (by grind);grind
    .rcases qw with qw|⟨qw,qw'⟩
     .have:=bD (a:=u.cross v) (b:= -w.y) h' (by grind);rw[qu];grind
     .exfalso
      have hx:v.cross w= -(-w.x* -v.y):=by unfold aa.cross;rw[qw];grind
      have:=bD (a:= -w.x) (b:= -v.y) (by grind) (by grind);grind
   .exfalso
    have hx:u.cross v= -(-v.x* -u.y):=by unfold aa.cross;rw[q];grind
    have:=cA (a:= -v.x) (b:= -u.y) (by grind) (by grind);grind
  .exact absurd x hv
def Nd(h:l.ok):qg l.canon=false:=by
 have hn:=h.ne;unfold ah.Ne at hn;unfold ah.canon;split
 .rename_i k
  unfold qg at*;rw[decide_eq_true_eq] at k;rw[decide_eq_false_iff_not];show¬(-l.a<0\/(-l.a=0/\ -l.b<0));omega
 .rename_i k;simpa using k
def tA(h:l.ok):l.dir.half≠0:=fun e=>by
 have hn:=h.ne;unfold ah.Ne at hn;rcases ld l.dir with⟨k,_⟩|⟨k,_⟩|⟨_,k1,k2⟩
 .rw[k] at e;cases e
 .rw[k] at e;cases e
 .unfold ah.dir at k1 k2
  simp only at k1 k2;apply hn;refine⟨?_,cR.1 k2⟩;have:(l.a:Rat)=0:=by grind
  exact cR.1 this
def WB{d:aa}(h:d.half≠0):(aO d).half≠0:=by rw[tF h];have:=gE h;omega
def B4(d:aa):aO (aO d)=d:=by unfold aO;cases d;simp
def aFG{m:ah}(hl:l.ok)(hm:m.ok)(cl:qg l=false)(cm:qg m=false)(h1:l.value p=0)(h2:m.value p=0)(hc:l.dir.cross m.dir=0):l=m:=by
 have key: ∀t,l.value (m.at t)=0:=fun t=>by
  obtain⟨s,rfl⟩:=Au hm.ne h2;rw[ly] at h1⊢;have hk:m.cutK l=0:=by
   unfold ah.cutK;rw[<-ru];exact hc
  rw[hk] at h1⊢;grind
 rcases w5 hl hm key with e|e
 .exact e
 .exfalso
  have hn:=hm.ne;unfold ah.Ne at hn;rw[e] at cl;unfold qg at cl cm;rw[decide_eq_false_iff_not] at cl cm;have cl: ¬(-m.a<0\/(-m.a=0/\ -m.b<0)):=cl;omega
def Q2{ds:List aa}(h:ds.Pairwise ce)(hd:vR ds)(hi:i<ds.length)(hj:(i+1)%ds.length<ds.length):lj ds ds[i] ds[(i+1)%ds.length]:=by
 have hp:=mW.1 h;have irr: ∀{u v:aa},ce u v-> ¬ce v u:=fun{u v} a b=>by
  unfold ce at a b;rw[fE u v] at b;rcases a with a|⟨a,a'⟩<;>rcases b with b|⟨b,b'⟩
  .omega
  .omega
  .omega
  .grind
 have ord: ∀{j k:Nat} (a:j<ds.length) (b:k<ds.length),ce ds[j] ds[k]->j<k:=fun{j k} a b q=>by
  rcases qX j k with e|e|e
  .exact e
  .subst e;exact absurd q (irr q)
  .exact absurd (hp k j b a e) (irr q)
 by_cases hl:i+1<ds.length
 .have e:(i+1)%ds.length=i+1:=jW hl
  simp only[e];refine .inl ⟨hp i (i+1) hi hl (by omega),fun d hd' ⟨q1,q2⟩=>?_⟩;obtain⟨j,hj',rfl⟩:=nJ hd';have:=ord hi hj' q1;have:=ord hj' hl q2;omega
 .have e:(i+1)%ds.length=0:=by rw[show i+1=ds.length by omega];exact Nat.mod_self _
  simp only[e];refine .inr ⟨fun d hd' q=>?_,fun d hd' q=>?_⟩
  .obtain⟨j,hj',rfl⟩:=nJ hd'
   have:=ord hi hj' q;omega
  .obtain⟨j,hj',rfl⟩:=nJ hd'
   have:=ord hj' (by omega) q;omega
def D2{ds:List aa}(h:i<ds.length):ds.getD i ⟨0,0⟩=ds[i]:=by
 rw[aW,aZ h,lZ]
end Go.Sx
end
