/- Part 14 of a proof. -/
import Derived.Test.YtopfgminkdfpkaaGreatDoorMk13
set_option linter.unusedSimpArgs false
set_option maxRecDepth 100000
set_option linter.unusedVariables false
section
namespace Go.Sx
open Go Go.Proofs Tryz
variable {GB:Gh}
theorem amw{es:List Int}{a:Nat}(h:a<es.length):(es.map vI)[(a:Int).toNat]? =some (vI es[a]):=by simp[h]
theorem aso:eP (iP 0 0)= .ag [.v (.bool false), .sl [], .sl [], .v (.bool false), .sl [], .sl []]:=by
 unfold eP iP
 simp[air,dD]
theorem axh{m n p q:Int}(hm:m.natAbs≤4)(hn:n.natAbs≤4)(hp:p.natAbs≤4)(hq:q.natAbs≤4)(h: ¬(p=0∧q=0)):LS (aqT m n (m+1*p) (n+1*q)):=by
 have e1:awa n (n+1*q)= -q:=by unfold awa;omega
 have e2:av3 m (m+1*p)=p:=by unfold av3;omega
 have e3:((-q)*m).natAbs≤4*4:=by rw[gU];exact kU (by omega) hm
 have e4:(p*n).natAbs≤4*4:=by rw[gU];exact kU hp hn
 have e5:ayC m n (m+1*p) (n+1*q)= -((-q)*m+p*n):=by unfold ayC;rw[e1,e2]
 unfold aqT
 obtain⟨k1,k2,k3⟩:=ax5 (awa n (n+1*q)) (av3 m (m+1*p)) (ayC m n (m+1*p) (n+1*q))
 exact⟨awO (by rw[e1,e2];omega),dK k1 (by rw[e1];omega),dK k2 (by rw[e2];omega),dK k3 (by rw[e5];omega)⟩
def aak(es:List Int)(n:Int)(a:Nat):Nat×Nat:=
 if h:a<es.length then((if Int.tmod es[a] n<0 then Int.tmod es[a] n+n else Int.tmod es[a] n).toNat,a+1) else(0,a)
theorem acE{es:List Int}{n:Int}{a:Nat}(hn:1≤n):((aak es n a).1:Int)<n:=by
 unfold aak
 split
 ·rename_i h
  have q2:=Int.tmod_lt_of_pos es[a] (show 0<n by omega)
  dsimp only
  split<;>omega
 ·exact hn
theorem abq{es:List Int}{n:Int}{a:Nat}(ha:a≤es.length):(aak es n a).2≤es.length:=by
 unfold aak
 split
 ·assumption
 ·exact ha
def pF(es:List Int)(a:Nat):(Int×Int)×Nat:=((((aak es 9 a).1:Int)-4,((aak es 9 (aak es 9 a).2).1:Int)-4),(aak es 9 (aak es 9 a).2).2)
theorem ar4{es:List Int}{a:Nat}(ha:a≤es.length):(pF es a).1.1.natAbs≤4∧(pF es a).1.2.natAbs≤4∧(pF es a).2≤es.length:=by
 have h1:=acE (es:=es) (n:=9) (a:=a) (by decide)
 have h2:=acE (es:=es) (n:=9) (a:=(aak es 9 a).2) (by decide)
 have h3:=abq (n:=9) (abq (es:=es) (n:=9) ha)
 unfold pF
 exact⟨by dsimp only;omega,by dsimp only;omega,h3⟩
def vF(es:List Int)(a:Nat):(Int×Int)×Nat:=if(pF es a).1.1=0∧(pF es a).1.2=0 then((1,0),(pF es a).2) else pF es a
theorem ayl{es:List Int}{a:Nat}(ha:a≤es.length):(vF es a).1.1.natAbs≤4∧(vF es a).1.2.natAbs≤4∧ ¬((vF es a).1.1=0∧(vF es a).1.2=0)∧(vF es a).2≤es.length:=by
 obtain⟨h1,h2,h3⟩:=ar4 ha
 unfold vF
 split
 ·exact⟨show(1:Int).natAbs≤4 by decide,show(0:Int).natAbs≤4 by decide,show¬((1:Int)=0∧(0:Int)=0) by decide,h3⟩
 ·rename_i h;exact⟨h1,h2,h,h3⟩
def lF(es:List Int)(a:Nat):LnQ×Nat:=(aqT (pF es a).1.1 (pF es a).1.2 ((pF es a).1.1+1*(vF es (pF es a).2).1.1) ((pF es a).1.2+1*(vF es (pF es a).2).1.2),(vF es (pF es a).2).2)
theorem awT{es:List Int}{a:Nat}(ha:a≤es.length):LS (lF es a).1∧(lF es a).2≤es.length:=by
 obtain⟨h1,h2,h3⟩:=ar4 ha
 obtain⟨k1,k2,k3,k4⟩:=ayl h3
 exact⟨axh h1 h2 k1 k2 k3,k4⟩
def abd(es:List Int):Nat→Nat→Tr×Nat
 |0,a=>(.leaf (decide (((aak es 2 a).1:Int)=1)),(aak es 2 a).2)
 |d+1,a=>if((aak es 4 a).1:Int)=0 then(.leaf (decide (((aak es 2 (aak es 4 a).2).1:Int)=1)),(aak es 2 (aak es 4 a).2).2) else
  (.node (lF es (aak es 4 a).2).1 (abd es d (lF es (aak es 4 a).2).2).1 (abd es d (abd es d (lF es (aak es 4 a).2).2).2).1,(abd es d (abd es d (lF es (aak es 4 a).2).2).2).2)
theorem ae5{es:List Int}: ∀{d a:Nat},a≤es.length→(abd es d a).1.depth≤d∧(abd es d a).1.all LnQ.ok∧(abd es d a).1.all (fun l=>BL l 96)∧(abd es d a).2≤es.length
 |0,a,ha=>⟨cX _,trivial,trivial,abq ha⟩
 |d+1,a,ha=>by
  have h4:=abq (n:=4) ha
  unfold abd
  split
  ·exact⟨cX _,trivial,trivial,abq h4⟩
  ·obtain⟨hl,h5⟩:=awT h4
   obtain⟨d1,o1,b1,h6⟩:=ae5 (d:=d) h5
   obtain⟨d2,o2,b2,h7⟩:=ae5 (d:=d) h6
   exact⟨by show 1+max _ _≤_;omega,⟨hl.ok,o1,o2⟩,⟨hl.bl,b1,b2⟩,h7⟩
theorem aeK{b:Nat}{es:List Int}(hes:es.length≤400){a:Nat}(ha:a≤es.length){n:Int}(hn:1≤n)(hn2:n≤1000):PM GB prog 42 (mkP [none,some (.v (.int .i64 n))] b) b 94 [.sl (es.map vI), .v (.int .i64 (a:Nat))] (.v (.int .i64 ((aak es n a).1:Nat))) [.sl (es.map vI), .v (.int .i64 ((aak es n a).2:Nat))]:=by
 have hel:(es.map vI).length=es.length:=by simp
 refine fnM func42 J J ntmps42 J J (fun C b m lo hmb=>?_)
 refine br J J J (fun hc15=>?_) (fun hc15=>?_)
 ·
  have hf:aak es n a=(0,a):=by unfold aak;rw[dif_neg (by omega)]
  exact rzM hmb J J (by rw[hf]<;>rfl) (by rw[hf]<;>rfl)
 ·
  have hal:a<es.length:=by omega
  obtain⟨e,he⟩: ∃e,e=es[a]:=⟨_,rfl⟩
  have q2:=Int.tmod_lt_of_pos e (show 0<n by omega)
  have q3: -n<Int.tmod e n:=by have:=Int.lt_tmod_of_pos e (show 0<n by omega);omega
  refine ix (fu:=⟨1⟩) _ rfl (amw hal) rfl<|?_
  refine eqF 25 (.d (vI e)) rfl (by rw[he]<;>rfl) ?_
  refine gx (hv:=by simp only[aag];exact⟨⟨by omega,by kernel_rfl⟩,by omega⟩) rfl<|?_
  refine br J J J (fun hc36=>?_) (fun hc36=>?_)
  ·
   have hf:aak es n a=((Int.tmod e n+n).toNat,a+1):=by unfold aak;rw[dif_pos hal,←he,if_pos hc36]
   exact rzM hmb J J (by rw[hf];show DV.v (.int .i64 _)=DV.v (.int .i64 _);rw[kZ (by omega)]) (by rw[hf]<;>rfl)
  ·
   have hf:aak es n a=((Int.tmod e n).toNat,a+1):=by unfold aak;rw[dif_pos hal,←he,if_neg hc36]
   exact rzM hmb J J (by rw[hf];show DV.v (.int .i64 _)=DV.v (.int .i64 _);rw[kZ (by omega)]) (by rw[hf]<;>rfl)
theorem aA3{b:Nat}{es:List Int}(hes:es.length≤400){a:Nat}(ha:a≤es.length):PM GB prog 99 (mkP [none] b) b 94 [.sl (es.map vI), .v (.int .i64 (a:Nat))] (eP (iP (pF es a).1.1 (pF es a).1.2)) [.sl (es.map vI), .v (.int .i64 ((pF es a).2:Nat))]:=by
 have h1:=acE (es:=es) (n:=9) (a:=a) (by decide)
 have h2:=acE (es:=es) (n:=9) (a:=(aak es 9 a).2) (by decide)
 refine fnM func99 J J ntmps99 J J (fun C b m lo hmb=>?_)
 refine cm rfl (fun b=>(aeK (n:=9) hes ha (by decide) (by decide))) rfl<|cm rfl (fun b=>(aeK (n:=9) hes (abq ha) (by decide) (by decide))) rfl<|?_
 refine cl rfl (ayM (m:=((aak es 9 a).1:Int)-4) (n:=((aak es 9 (aak es 9 a).2).1:Int)-4) (by omega) (by omega)) rfl<|?_
 exact rzM hmb J J J J
theorem aBr{b:Nat}{es:List Int}(hes:es.length≤400){a:Nat}(ha:a≤es.length):PM GB prog 102 (mkP [none] b) b 94 [.sl (es.map vI), .v (.int .i64 (a:Nat))] (eP (iP (vF es a).1.1 (vF es a).1.2)) [.sl (es.map vI), .v (.int .i64 ((vF es a).2:Nat))]:=by
 obtain⟨hm,hn,ha1⟩:=ar4 ha
 refine fnM func102 J J ntmps102 J J (fun C b m lo hmb=>?_)
 refine cm (fu:=⟨9⟩) rfl (fun b=>(aA3 hes ha)) rfl<|?_
 refine eqF 7 (.d (eP (iP 0 0))) rfl (by rw[aso]<;>rfl) ?_
 refine gx rfl<|cl rfl (arq (m:=(pF es a).1.1) (n:=(pF es a).1.2) (m':=0) (n':=0) (by omega) (by omega) (by decide) (by decide)) rfl<|?_
 refine bd J J J (fun hc8=>?_) (fun hc8=>?_)
 ·
  have hf:vF es a=((1,0),(pF es a).2):=by unfold vF;rw[if_pos hc8]
  refine cl rfl (ayM (m:=1) (n:=0) (by decide) (by decide)) rfl<|?_
  exact rzM hmb J J (by rw[hf]<;>rfl) (by rw[hf])
 ·
  have hf:vF es a=pF es a:=by unfold vF;rw[if_neg hc8]
  exact rzM hmb J J (by rw[hf]<;>rfl) (by rw[hf])
theorem aBk{b:Nat}{es:List Int}(hes:es.length≤400){a:Nat}(ha:a≤es.length):PM GB prog 43 (mkP [none] b) b 94 [.sl (es.map vI), .v (.int .i64 (a:Nat))] (eL (lF es a).1) [.sl (es.map vI), .v (.int .i64 ((lF es a).2:Nat))]:=by
 obtain⟨hm,hn,ha1⟩:=ar4 ha
 obtain⟨hp,hq,hz,ha2⟩:=ayl ha1
 refine fnM func43 J J ntmps43 J J (fun C b m lo hmb=>?_)
 refine cm rfl (fun b=>(aA3 hes ha)) rfl<|cl rfl (axV (n:=1) (by decide) (by decide)) rfl<|cm rfl (fun b=>(aBr hes ha1)) rfl<|cl rfl (asL (m:=(pF es a).1.1) (n:=(pF es a).1.2) (m':=(vF es (pF es a).2).1.1) (n':=(vF es (pF es a).2).1.2) (k:=1) (by omega) (by omega) (by omega) (by omega) (by decide)) rfl<|?_
 refine cl rfl (ajP (m:=(pF es a).1.1) (n:=(pF es a).1.2) (m':=(pF es a).1.1+1*(vF es (pF es a).2).1.1) (n':=(pF es a).1.2+1*(vF es (pF es a).2).1.2) (by omega) (by omega) (by omega) (by omega) (by omega)) rfl<|?_
 exact rzM hmb J J J J
theorem aio{p:Bool}:PF GB prog 14 [.v (.bool p)] (eT (.leaf p)):=by
 refine fn func14 J J ntmps14 J J (fun C=>?_)
 refine fzE 5 rfl ?_
 exact rz J J
theorem ajs{b:Nat}{es:List Int}(hes:es.length≤400){a:Nat}(ha:a≤es.length){n:Int}(hn:n=0):PM GB prog 21 (mkP [none,some (.v (.int .i64 n))] b) b 94 [.sl (es.map vI), .v (.int .i64 (a:Nat))] (eT (abd es 0 a).1) [.sl (es.map vI), .v (.int .i64 ((abd es 0 a).2:Nat))]:=by
 refine fnM (fu:=⟨10⟩) func21 J J ntmps21 J J (fun C b m lo hmb=>?_)
 refine kT 8 rfl (by omega) ?_
 refine gx rfl<|cm rfl (fun b=>(aeK (n:=2) hes ha (by decide) (by decide))) rfl<|cl rfl (aio (p:=decide (((aak es 2 a).1:Int)=1))) rfl<|?_
 exact rzM hmb J J J J
theorem ajk{b:Nat}{es:List Int}(hes:es.length≤400){a:Nat}(ha:a≤es.length){d:Nat}{n:Int}(hn:n=((d+1:Nat):Int))(hd:d≤100)(ih: ∀{GB:Gh} {b a:Nat} {n:Int},a≤es.length→n=(d:Int)→PM GB prog 21 (mkP [none,some (.v (.int .i64 n))] b) b 94 [.sl (es.map vI), .v (.int .i64 (a:Nat))] (eT (abd es d a).1) [.sl (es.map vI), .v (.int .i64 ((abd es d a).2:Nat))]):PM GB prog 21 (mkP [none,some (.v (.int .i64 n))] b) b 94 [.sl (es.map vI), .v (.int .i64 (a:Nat))] (eT (abd es (d+1) a).1) [.sl (es.map vI), .v (.int .i64 ((abd es (d+1) a).2:Nat))]:=by
 have h4:=abq (n:=4) ha
 obtain⟨hl,h5⟩:=awT h4
 have h6:=(ae5 (d:=d) h5).2.2.2
 refine fnM (fu:=⟨10⟩) func21 J J ntmps21 J J (fun C b m lo hmb=>?_)
 refine kF 8 rfl (by omega) ?_
 refine gx rfl<|cm rfl (fun b=>(aeK (n:=4) hes ha (by decide) (by decide))) rfl<|?_
 refine br J J J (fun hc13=>?_) (fun hc13=>?_)
 ·
  have hf:abd es (d+1) a=_:=if_pos hc13
  refine cm rfl (fun b=>(aeK (n:=2) hes h4 (by decide) (by decide))) rfl<|cl rfl (aio (p:=decide (((aak es 2 (aak es 4 a).2).1:Int)=1))) rfl<|?_
  exact rzM hmb J J (by rw[hf]<;>rfl) (by rw[hf])
 ·
  have hf:abd es (d+1) a=_:=if_neg hc13
  refine cm rfl (fun b=>(aBk hes h4)) rfl<|cm rfl (fun b=>(ih h5 (by omega))) rfl<|cm rfl (fun b=>(ih h6 (by omega))) rfl<|?_
  refine fzE 31 rfl ?_
  exact rzM hmb J J (by rw[hf]<;>rfl) (by rw[hf])
theorem an2{es:List Int}(hes:es.length≤400): ∀{d:Nat} {GB:Gh} {b a:Nat} {n:Int},d≤100→a≤es.length→n=(d:Int)→PM GB prog 21 (mkP [none,some (.v (.int .i64 n))] b) b 94 [.sl (es.map vI), .v (.int .i64 (a:Nat))] (eT (abd es d a).1) [.sl (es.map vI), .v (.int .i64 ((abd es d a).2:Nat))]
 |0,_,_,_,_,_,ha,hn=>ajs hes ha hn
 |d+1,_,_,_,_,hd,ha,hn=>ajk hes ha hn (by omega) (fun h1 h2=>an2 hes (by omega) h1 h2)
theorem at6{es:List Int}(hes:es.length≤400){a d b:Nat}(ha:a≤es.length)(hd:d≤100):PM GB prog 21 (mkP [none,some (.v (.int .i64 (d:Nat)))] b) b 94 [.sl (es.map vI), .v (.int .i64 (a:Nat))] (eT (abd es d a).1) [.sl (es.map vI), .v (.int .i64 ((abd es d a).2:Nat))]:=an2 (GB:=GB) hes hd ha rfl
abbrev ZP:=Int×Int
def ZP.q(p:ZP):PtQ:=iP p.1 p.2
def ZP.le(k:Nat)(p:ZP):Prop:=p.1.natAbs≤k∧p.2.natAbs≤k
def aAz(p q:ZP):ZP:=(p.1+1*q.1,p.2+1*q.2)
def atm(u v:ZP):Int:=u.1*v.2-u.2*v.1
def azU(v w:ZP):FrQ:=⟨aqT v.1 v.2 w.1 w.2,⟨acC (aqT v.1 v.2 w.1 w.2) v.q,acC (aqT v.1 v.2 w.1 w.2) w.q,false,false⟩⟩
def asw(r:List ZP)(i:Nat):ZP:=r.getD ((i+1)%r.length) (0,0)
def asY(r:List ZP):Nat→List FrQ
 |0=>[]
 |k+1=>asY r k++[azU (r.getD k (0,0)) (asw r k)]
def awG(r:List ZP):List FrQ:=asY r r.length
structure aAf (r:List ZP):Prop where
 n3:3≤r.length
 n6:r.length≤6
 le: ∀p∈r,ZP.le 100 p
 ne: ∀i<r.length,r.getD i (0,0)≠asw r i
def aqd(rs:List (List ZP)):List FrQ:=rs.flatMap awG
def akF(a b c:PtQ):Int:=(PtQ.cross (aeS b a (-1)) (aeS c a (-1))).num.sign
def aBh(v w p:PtQ):Int:=
 (if adE v.y p.y≤0∧ ¬adE w.y p.y≤0∧0<akF v w p then 1 else 0)-(if¬adE v.y p.y≤0∧adE w.y p.y≤0∧akF v w p<0 then 1 else 0)
def aAd(r:List ZP)(p:PtQ):Nat→Int
 |0=>0
 |k+1=>aAd r p k+aBh (r.getD k (0,0)).q (asw r k).q p
def aBS(r:List ZP)(p:PtQ):Int:=aAd r p r.length
def aBj(fill n:Int):Bool:=(decide (fill=1)&&decide (n.tmod 2≠0))||(decide (fill=2)&&decide (n≠0))
def inR(rs:List (List ZP))(fill:Int)(p:PtQ):Bool:=aBj fill (rs.foldl (fun n r=>n+aBS r p) 0)
def aBK(rs:List (List ZP))(fill:Int):Tr:=azX (inR rs fill) (aqd rs).length (aqd rs) []
def anT(rs:List (List ZP))(fill:Int):Tr:=(aBK rs fill).restrict []
structure awd (k:Nat) (t:Tr):Prop where
 gd:t.gd
 dp:t.depth≤k
 am: ∃K:List LnQ,K.length≤k∧(∀l∈K,l.ok)∧aqp K t
theorem awd.restrict{k:Nat}{t:Tr}(h:awd k t)(c:aat):awd k (t.restrict c):=by
 obtain⟨K,h1,h2,h3⟩:=h.am
 exact⟨ag3 h.gd c,dK (t.restrict_depth c) h.dp,K,h1,h2,h3.restrict c⟩
def aAy(p q:ZP):Int:=if p.1<q.1 then-1 else if q.1<p.1 then 1 else if p.2<q.2 then-1 else if q.2<p.2 then 1 else 0
def aAT(x:ZP):List ZP→List ZP
 |[]=>[x]
 |u::t=>if aAy u x<0 then u::aAT x t else if aAy u x=0 then u::t else x::u::t
def az4(l:List ZP):List ZP:=l.foldl (fun out x=>aAT x out) []
def avJ(a b c d:Int):List ZP:=[(a,b),(c,b),(c,d),(a,d)]
def aAw(p u v:ZP):List ZP:=[p,aAz p u,aAz p v]
def ayO(es:List Int):Nat→Nat→List ZP→List ZP×Nat
 |0,a,out=>(out,a)
 |n+1,a,out=>ayO es n (pF es a).2 (if out.getLast? =some (pF es a).1 then out else out++[(pF es a).1])
structure Adj (r:List ZP):Prop where
 ne: ∀i,i+1<r.length→r.getD i (0,0)≠r.getD (i+1) (0,0)
 le: ∀p∈r,ZP.le 100 p
def at9:Nat→List ZP→List ZP
 |0,l=>l
 |n+1,l=>if 1<l.length∧l.getD 0 (0,0)=l.getD (l.length-1) (0,0) then at9 n l.dropLast else l
def aBf:List ZP:=[(0,0),(2,0),(0,2)]
def aAG(es:List Int)(a:Nat):List ZP×Nat:=
 ((if(az4 (at9 6 (ayO es (3+(aak es 4 a).1) (aak es 4 a).2 []).1)).length<3 then aBf else at9 6 (ayO es (3+(aak es 4 a).1) (aak es 4 a).2 []).1),(ayO es (3+(aak es 4 a).1) (aak es 4 a).2 []).2)
def sqF(es:List Int)(n m k:Int)(a:Nat):List ZP×Nat:=
 let x:=aak es n a
 let y:=aak es n x.2
 let z:=aak es m y.2
 let w:=aak es m z.2
 (avJ ((x.1:Int)-k) ((y.1:Int)-k) ((x.1:Int)-k+1+z.1) ((y.1:Int)-k+1+w.1),w.2)
def axp(es:List Int)(a:Nat):List ZP×Nat:=
 let k:=aak es 4 a
 if(k.1:Int)=0 then sqF es 5 4 4 k.2
 else if(k.1:Int)=1 then
  let p:=pF es k.2
  let u:=vF es p.2
  let v:=vF es u.2
  if atm u.1 v.1≠0 then(aAw p.1 u.1 v.1,v.2) else aAG es v.2
 else aAG es k.2
def aBC:List ZP:=[(0,0),(1,0),(0,1)]
def anI(es:List Int)(a:Nat):List ZP×Nat:=
 let k:=aak es 2 a
 if(k.1:Int)=0 then sqF es 3 2 1 k.2
 else
  let x:=aak es 3 k.2
  let y:=aak es 3 x.2
  let u1:=aak es 2 y.2
  let u2:=aak es 3 u1.2
  let v1:=aak es 3 u2.2
  let v2:=aak es 2 v1.2
  (if 0<atm (1+(u1.1:Int),(u2.1:Int)-1) ((v1.1:Int)-1,1+(v2.1:Int)) then aAw ((x.1:Int)-1,(y.1:Int)-1) (1+(u1.1:Int),(u2.1:Int)-1) ((v1.1:Int)-1,1+(v2.1:Int)) else aBC,v2.2)
def aia(es:List Int)(a:Nat):Tr×Nat:=
 let r:=axp es a
 let k:=aak es 3 r.2
 if(k.1:Int)=0 then
  let s:=axp es k.2
  let f:=aak es 2 s.2
  (anT [r.1,s.1] (1+(f.1:Int)),f.2)
 else
  let f:=aak es 2 k.2
  (anT [r.1] (1+(f.1:Int)),f.2)
def atV(l:LnQ):Tr:=(Tr.node l (.leaf true) (.leaf false)).restrict []
theorem aeL: ∀t:Tr,t.lns.length=t.size
 | .leaf _=>rfl
 | .node l x y=>by rw[Tr.lns,bY,aU,aeL x,aeL y,Tr.size];omega
theorem av2{t:Tr}{k:Nat}(hb:t.all (fun l=>BL l 96))(ho:t.all LnQ.ok)(hs:t.size≤k):awd k t:=
 ⟨⟨adg.2 fun l hl=>⟨adg.1 hb l hl⟩,ho⟩,dK t.depth_size hs,t.lns,by rw[aeL];exact hs,adV ho,asD fun l hl=>hl⟩
theorem av1{es:List Int}{d a:Nat}(ha:a≤es.length)(hd:d≤4):awd 18 (abd es d a).1∧(abd es d a).2≤es.length:=by
 obtain⟨h1,h2,h3,h4⟩:=ae5 (d:=d) ha
 have h5:=Tr.size_lt (abd es d a).1
 have h6:(2:Nat)^(abd es d a).1.depth≤2^4:=aL (by decide) (by omega)
 exact⟨av2 h3 h2 (by omega),h4⟩
def adS(es:List Int):Nat→Nat→Tr×Nat
 |0,a=>
  let k:=aak es 6 a
  if(k.1:Int)=1 then(atV (lF es k.2).1,(lF es k.2).2)
  else if(k.1:Int)=2 then((abd es 3 k.2).1.restrict [],(abd es 3 k.2).2)
  else if(k.1:Int)=3 then((aia es k.2).1.compl,(aia es k.2).2)
  else aia es k.2
 |d+1,a=>
  let k:=aak es 6 a
  if(k.1:Int)=0 then
   let x:=adS es d k.2
   let o:=aak es 4 x.2
   let y:=adS es d o.2
   (x.1.mergeQ (1+(o.1:Int)) y.1 [],y.2)
  else if(k.1:Int)=1 then(atV (lF es k.2).1,(lF es k.2).2)
  else if(k.1:Int)=2 then((abd es 3 k.2).1.restrict [],(abd es 3 k.2).2)
  else if(k.1:Int)=3 then((aia es k.2).1.compl,(aia es k.2).2)
  else aia es k.2
def aCA(es:List Int)(a:Nat):Tr×Nat:=
 let k:=aak es 4 a
 if(k.1:Int)=0 then(atV (lF es k.2).1,(lF es k.2).2)
 else if(k.1:Int)=1 then((abd es 2 k.2).1.restrict [],(abd es 2 k.2).2)
 else(anT [(anI es k.2).1] 2,(anI es k.2).2)
end Go.Sx
end
section
namespace Go.Sx
open Go
inductive OT where
 |z (π:List (Nat×Bool))
 |q (i:Nat) (t:OT)
 |a (i:Nat) (t:OT)
 |c (i:Nat) (t r:OT)
def OT.sz:OT→Nat
 | .z _=>0
 | .q _ t=>t.sz+1
 | .a _ t=>t.sz+1
 | .c _ t r=>t.sz+r.sz+1
def OT.d:OT→Nat
 | .z π=>π.length
 | .q _ t=>t.d+1
 | .a _ t=>t.d+1
 | .c _ t r=>Nat.max (t.d+1) r.d
section
variable {P:Program} {ops:Array Oper} {Q:Exit→Act→World→Prop} {S:World→Prop} {π₂:List (Nat×Bool)}
def dwN(P:Program)(ops:Array Oper)(Q:Exit→Act→World→Prop)(K:(World→Prop)→Act→World→Prop):List Nat→OT→(World→Prop)→Act→World→Prop
 |ks, .z π,S,a,w=>dwT P ops Q K ks π S a w
 |ks, .q i t,S,a,w=> ∃o v,ops[i]? =some o∧S w∧YieldsIf P ops S o v a∧dwN P ops Q K ks t S (a.put o.dst v) w
 |ks, .a i t,S,a,w=>wpOp P ops Q i (grS S (dwN P ops Q K ks t)) a w∧
   ∀j,(h:j∈ks)→wpOp P ops Q j (grS S (dwN P ops Q K (without ks j) (.a i t))) a w
 |ks, .c i t r,S,a,w=>wpOp P ops Q i (grS S (dwN P ops Q K ks t)) a w∧dwN P ops Q K ks r S a w∧
   ∀j,(h:j∈ks)→wpOp P ops Q j (grS S (dwN P ops Q K (without ks j) (.c i t r))) a w
termination_by ks t=>ks.length+t.sz
decreasing_by
 all_goals (first|(have:=afT h;simp only[OT.sz] at*;omega)|(simp only[OT.sz];omega))
def acG(ops:Array Oper)(fin:Nat→Bool)(π₂:List (Nat×Bool)):Nat→Bool→List Nat→OT→Array Bool→List Nat→Bool
 |0,_,_,_,_,_=>false
 |n+1,false,ks, .z π,l,_=>afa ops fin π₂ n ks π l
 |_+1,true,_, .z _,_,_=>false
 |n+1,false,ks, .q i t,l,_=>ahQ ops fin l i&&acG ops fin π₂ n false ks t (l.setIfInBounds i true) []
 |_+1,true,_, .q _ _,_,_=>false
 |n+1,true,ks, .a i t,l,rs=>rs.all (fun j=>Nat.beq j i)&&acG ops fin π₂ n false ks t (l.setIfInBounds i true) []
 |n+1,false,ks, .a i t,l,_=>!(Region.ready .any ops l).isEmpty&&(Region.ready .any ops l).all (fun j=>Nat.beq j i||ks.contains j)&&acG ops fin π₂ n false ks t (l.setIfInBounds i true) []&&ks.all fun j=>acG ops fin π₂ n false (without ks j) (.a i t) (l.setIfInBounds j true) []
 |n+1,true,ks, .c i t r,l,rs=>acG ops fin π₂ n false ks t (l.setIfInBounds i true) []&&acG ops fin π₂ n true ks r l (without rs i)
 |n+1,false,ks, .c i t r,l,_=>!(Region.ready .any ops l).isEmpty&&acG ops fin π₂ n false ks t (l.setIfInBounds i true) []&&acG ops fin π₂ n true ks r l (without ((Region.ready .any ops l).filter fun j=>!ks.contains j) i)&&ks.all fun j=>acG ops fin π₂ n false (without ks j) (.c i t r) (l.setIfInBounds j true) []
end
section
variable {P:Program} {GB:Gh} {C:Ctx} {n:Nat} {fr fr':FrF} {own own' own0 own1 own1':List acI} {bs bs0 bs1 bs1':List adj} {ops:Array Oper} {Q:Exit→Act→World→Prop} {fd:List FD} {π₂:List (Nat×Bool)} {t r:OT}
abbrev dnK (P:Program) (ops:Array Oper) (Q:Exit→Act→World→Prop) (K:(World→Prop)→Act→World→Prop) (t:OT):List Nat→(World→Prop)→Act→World→Prop:=fun ks S=>dwN P ops (ab4 Q) K ks t S
end
end Go.Sx
end
section
namespace Go.Sx
open Go Go.Proofs Tryz
variable {GB:Gh}
theorem LB.rev{l:LnQ}(h:LB l):LB l.rev:=⟨⟨by rw[show l.rev.a= -l.a from rfl,hJ];exact h.bl.a,by rw[show l.rev.b= -l.b from rfl,hJ];exact h.bl.b,by rw[show l.rev.c= -l.c from rfl,hJ];exact h.bl.c⟩⟩
theorem afi{α:Type}{p:α→Bool}: ∀{xs:List α} {n:Nat},n≤xs.length→(∀j (h:j<xs.length),j<n→p xs[j]=true)→(∀h:n<xs.length,p xs[n]=false)→(xs.takeWhile p).length=n
 |[],n,h,_,_=>by simp at h;subst h;rfl
 |x::xs,0,_,_,h3=>by
  have:=h3 (by simp)
  simp only[mJ] at this
  simp[nL,this]
 |x::xs,n+1,h1,h2,h3=>by
  have hx:=h2 0 (by simp) (by omega)
  simp only[mJ] at hx
  rw[nL,if_pos hx,bY]
  rw[afi (n:=n) (by simpa using h1) (fun j h hj=>by have:=h2 (j+1) (by simpa using h) (by omega);simpa using this) (fun h=>by have:=h3 (by simpa using h);simpa using this)]
structure Cst (c:List LnQ) (k:Nat) (xs:List LnQ):Prop where
 le:k≤c.length
 f:apb c (c.drop k) xs=ahS c
 m: ∀m∈xs,m∈c
 n:xs.length≤k
def aAA(c:List LnQ):Bool:=if(((c.map eL).length:Nat):Int)=0 then true else decide ((0:Int)<((((ahS c).map eL).length:Nat):Int))
section
variable {α:Type} (c:α→α→Int)
def afy(x:α):List α→List α
 |[]=>[x]
 |u::t=>if c u x<0 then u::afy x t else if c u x=0 then u::t else x::u::t
def aqu(x:α)(xs:List α):Nat:=(xs.takeWhile fun u=>decide (c u x<0)).length
theorem avK(x:α)(xs:List α):aqu c x xs≤xs.length:=(List.takeWhile_sublist _).length_le
theorem apH{x:α}{xs:List α}{n:Nat}(h1:n≤xs.length)(h2: ∀j (h:j<xs.length),j<n→c xs[j] x<0)(h3: ∀h:n<xs.length,¬c xs[n] x<0):aqu c x xs=n:=
 afi h1 (fun j h hj=>decide_eq_true (h2 j h hj)) (fun h=>decide_eq_false (h3 h))
theorem amt{x:α}: ∀{xs:List α} {n:Nat},aqu c x xs=n→(h:n<xs.length)→c xs[n] x=0→afy c x xs=xs
 |[],n,_,h,_=>by simp at h
 |u::t,n,hn,h,e=>by
  rw[afy]
  unfold aqu at hn
  rw[nL] at hn
  by_cases hu:c u x<0
  ·rw[if_pos hu]
   rw[if_pos (by simpa using hu)] at hn
   obtain⟨k,rfl⟩: ∃k,n=k+1:=⟨n-1,by simp at hn;omega⟩
   rw[amt (xs:=t) (n:=k) (by unfold aqu;simpa using hn) (by simpa using h) (by simpa using e)]
  ·rw[if_neg (by simpa using hu)] at hn
   simp at hn;subst hn
   rw[if_neg hu,if_pos (by simpa using e)]
theorem aiM{x:α}: ∀{xs:List α} {n:Nat},aqu c x xs=n→(∀h:n<xs.length,c xs[n] x≠0)→afy c x xs=xs.take n++x::xs.drop n
 |[],n,hn,_=>by simp[aqu] at hn;subst hn;rfl
 |u::t,n,hn,e=>by
  rw[afy]
  unfold aqu at hn
  rw[nL] at hn
  by_cases hu:c u x<0
  ·rw[if_pos hu]
   rw[if_pos (by simpa using hu)] at hn
   obtain⟨k,rfl⟩: ∃k,n=k+1:=⟨n-1,by simp at hn;omega⟩
   rw[aiM (xs:=t) (n:=k) (by unfold aqu;simpa using hn) (fun h=>by have:=e (by simpa using h);simpa using this)]
   simp
  ·rw[if_neg (by simpa using hu)] at hn
   simp at hn;subst hn
   have:=e (by simp)
   rw[if_neg hu,if_neg (by simpa using this)];rfl
theorem alZ(x:α): ∀(xs:List α),(afy c x xs).length≤xs.length+1
 |[]=>bQ _
 |u::t=>by
  have:=alZ x t
  rw[afy]
  split
  ·simp;omega
  ·split<;>simp
theorem aiA{x y:α}: ∀{xs:List α},y∈afy c x xs→y=x∨y∈xs
 |[],h=>by rw[afy,aN] at h;exact .inl h
 |u::t,h=>by
  rw[afy] at h
  split at h
  ·rcases aS.1 h with rfl|h
   ·exact .inr aQ
   ·rcases aiA h with h|h
    ·exact .inl h
    ·exact .inr (aZ _ h)
  ·split at h
   ·exact .inr h
   ·rcases aS.1 h with rfl|h
    ·exact .inl rfl
    ·exact .inr h
def akL(l:List α):List α:=l.foldl (fun out x=>afy c x out) []
theorem ahn: ∀(l o:List α),(l.foldl (fun out x=>afy c x out) o).length≤l.length+o.length
 |[],o=>by simp
 |x::t,o=>by
  have:=ahn t (afy c x o)
  have:=alZ c x o
  simp only[List.foldl_cons,bY];omega
theorem ad4{y:α}: ∀{l o:List α},y∈l.foldl (fun out x=>afy c x out) o→y∈l∨y∈o
 |[],o,h=> .inr h
 |x::t,o,h=>by
  rcases ad4 (l:=t) h with h|h
  ·exact .inl (aZ _ h)
  ·rcases aiA c h with rfl|h
   ·exact .inl aQ
   ·exact .inr h
end
theorem axx{a i:Nat}[ha:BN a i](hi:i≤400000000:=by decide):PF GB prog 144 [dN a] (dN a):=by
 have hl:=aax (dg a)
 have hb:=aa3 ha.h
 refine fn func144 J J ntmps144 J J (fun C=>?_)
 refine ro0 J J<|ap ((dg a).map dU) J J (ak6 _) rfl<|?_
 refine fzE 5 rfl ?_
 exact rz J J
theorem arK{z:Int}{i:Nat}[hz:BI z i](hi:i≤400000000:=by decide):PF GB prog 143 [eI z] (eI z):=by
 refine fn func143 J J ntmps143 J J (fun C=>?_)
 refine cl rfl (axx (a:=z.natAbs) (i:=i) (ha:=⟨hz.h⟩) hi) rfl<|?_
 exact rz J J
theorem az5{l:LnQ}(hl:BL l 96):PF GB prog 124 [eL l] (eL l):=by
 haveI h1:BI l.a 96:=⟨hl.a⟩
 haveI h2:BI l.b 96:=⟨hl.b⟩
 haveI h3:BI l.c 96:=⟨hl.c⟩
 refine fn func124 J J ntmps124 J J (fun C=>?_)
 refine cl rfl (arK (z:=l.a)) rfl<|cl rfl (arK (z:=l.b)) rfl<|cl rfl (arK (z:=l.c)) rfl<|?_
 exact rz J J
def rlD(r:RL):DV:= .tp [if r.nm then eL r.l else .ag [.v (.bool false), .sl [], .v (.bool false), .sl [], .v (.bool false), .sl []],vB (decide (r.nm∧r.l.ok))]
def smB(n:Int)(ls:List (List Nat)):Bool:=ls.all fun d=>decide ((d.length:Int)≤n)
def RL.smB(n:Int)(r:RL):Bool:=Sx.smB n [r.da,r.db,r.dc]
def rlB(n:Int)(ls:List RL):Bool:=ls.all fun r=>r.smB n
instance BQ.m1':BQ (((-1:Int):Int):Rat) 2:=⟨by decide,by decide⟩
instance BQ.m1:BQ (-1:Rat) 2:=⟨by decide,by decide⟩
theorem atA{q:Rat}{i:Nat}[h:BQ q i](hi:i≤400000000:=by decide):PF GB prog 69 [eQ q] (eR q):=by
 refine fn func69 J J ntmps69 J J (fun C=>?_)
 refine cl rfl (arK (z:=q.num) hi) rfl<|cl rfl (adZ (q:=q)) rfl<|cl rfl (axx (a:=q.den) hi) rfl<|?_
 exact rz J J
theorem azR{p:PtQ}{i:Nat}[h:BPt p i](hi:i≤20000:=by decide):PF GB prog 25 [eP p] (ePt p):=by
 refine fn func25 J J ntmps25 J J (fun C=>?_)
 refine cl rfl (atA (q:=p.x) (i:=i) (by omega)) rfl<|cl rfl (atA (q:=p.y) (i:=i) (by omega)) rfl<|?_
 exact rz J J
theorem amh{α:Type}(f:α→DV)(l:List α):(l.map f).length=l.length:=aX ..
def aB1(p q:PtQ):Int:=if adE p.x q.x≠0 then adE p.x q.x else adE p.y q.y
def anp(l:LnQ):Bool:=decide (l.a<0∨(l.a=0∧l.b<0))
def LnQ.canon(l:LnQ):LnQ:=if anp l then l.rev else l
theorem aeU(a:Int):a.sign<0↔a<0:=by
 rcases jN a 0 with h|h|h
 ·rw[dJ h];omega
 ·subst h;simp
 ·rw[dV h];omega
theorem aj0(a:Int):a.sign=0↔a=0:=nU
theorem atz{l:LnQ}(h:l.a<0∨(l.a=0∧l.b<0)):DV.tp [eL l.canon,vB (anp l)]= .tp [eL l.rev,vB true]:=by
 unfold LnQ.canon anp;rw[decide_eq_true h];rfl
theorem ap5{l:LnQ}(h: ¬(l.a<0∨(l.a=0∧l.b<0))):DV.tp [eL l.canon,vB (anp l)]= .tp [eL l,vB false]:=by
 unfold LnQ.canon anp;rw[decide_eq_false h];rfl
theorem aq7{l:LnQ}[hl:LB l]:PF GB prog 89 [eL l] (.tp [eL l.canon,vB (anp l)]):=by
 refine fn func89 J J ntmps89 J J (fun C=>?_)
 refine cl rfl (alO (z:=l.a)) rfl<|?_
 refine cs 10 J J J (fun hg10=>?_) (fun hg10=>?_)
 ·
  refine cl rfl (atg (l:=l)) rfl<|?_
  exact rz rfl (by rw[atz (.inl ((aeU _).1 hg10))];rfl)
 ·
  refine cs 13 J J J (fun hg13=>?_) (fun hg13=>?_)
  ·
   refine cl rfl (alO (z:=l.b)) rfl<|?_
   refine br J J J (fun hc19=>?_) (fun hc19=>?_)
   ·
    refine cl rfl (atg (l:=l)) rfl<|?_
    exact rz rfl (by rw[atz (.inr ⟨(aj0 _).1 hg13,(aeU _).1 hc19⟩)];rfl)
   ·
    exact rz rfl (by rw[ap5 (fun e=>e.elim (fun e=>hg10 ((aeU _).2 e)) (fun e=>hc19 ((aeU _).2 e.2)))];rfl)
  ·
   exact rz rfl (by rw[ap5 (fun e=>e.elim (fun e=>hg10 ((aeU _).2 e)) (fun e=>hg13 ((aj0 _).2 e.1)))];rfl)
instance LB.canon (l:LnQ) [h:LB l]:LB l.canon:=by unfold LnQ.canon;split;exact LB.rev h;exact h
theorem asj{l:LnQ}(h:l.ok):l.canon.ok:=by unfold LnQ.canon;split;exact h.rev;exact h
def aim{α β:Type}(c:β→β→Int)(g:α→β)(l:List α)(k:Nat):List β:=akL c ((l.take k).map g)
section
variable {α β:Type} {c:β→β→Int} {g:α→β} {l:List α} {k:Nat}
theorem afD{x:α}(h:l[k]? =some x):aim c g l (k+1)=afy c (g x) (aim c g l k):=by
 unfold aim akL
 rw[List.take_add_one,h,Option.toList_some,gJ,List.foldl_append];rfl
theorem apJ(h:k=l.length):aim c g l k=akL c (l.map g):=by unfold aim;rw[h,nY]
theorem apn:(aim c g l k).length≤k:=by
 have:=ahn c ((l.take k).map g) []
 have h2:((l.take k).map g).length≤k:=by rw[aX,cW];omega
 rw[eY] at this
 unfold aim akL
 omega
theorem ap9{y:β}(h:y∈aim c g l k): ∃x∈l,y=g x:=by
 rcases ad4 c h with h|h
 ·obtain⟨x,hx,rfl⟩:=bM.1 h
  exact⟨x,dT hx,rfl⟩
 ·cases h
end
theorem slT{α:Type}{f:α→DV}{s:Nat}(ok: ∀l:List α,aef s (l.map f))(xs:List α)(n:Nat):aef s ((xs.map f).take n):=fun d hd=>ok xs d (dT hd)
theorem slD{α:Type}{f:α→DV}{s:Nat}(ok: ∀l:List α,aef s (l.map f))(xs:List α)(n m:Nat):aef s (((xs.map f).take n).drop m):=fun d hd=>ok xs d (dT (gT hd))
theorem slI{α:Type}{f:α→DV}{s:Nat}(ok: ∀l:List α,aef s (l.map f))(xs:List α)(n m:Nat)(x:α):aef s ([f x]++((xs.map f).take n).drop m):=fun d hd=>by
 rcases bS.1 hd with h|h
 ·exact ok [x] d h
 ·exact slD ok xs n m d h
theorem agk{α:Type}{f:α→DV}{l:List α}{i:Nat}(h:i<l.length):(l.map f)[(i:Int).toNat]? =some (f l[i]):=by
 rw[aT,fR,aJ h];rfl
def aeJ(ls:List LnQ):List LnQ:=akL agz (ls.map LnQ.canon)
theorem ajQ{ls:List LnQ}{y:LnQ}(h:y∈aeJ ls): ∃x∈ls,y=x.canon:=by
 rcases ad4 agz h with h|h
 ·obtain⟨x,hx,rfl⟩:=bM.1 h;exact⟨x,hx,rfl⟩
 ·cases h
structure IvB (v:IvQ):Prop where
 lo:BQ v.lo 1200
 hi:BQ v.hi 1200
def aBH(l:List IvQ)(k:Nat):List Rat:=avt (l.take k)
def aCk(o:List Rat)(v:IvQ)(j:Nat):List Rat:=if j=0 then o else if j=1 then(if v.nl then o else awb v.lo o) else aAv o v
def aCf(v:IvQ)(j:Nat):Rat:=if j=0 then v.lo else v.hi
def aCb(v:IvQ)(j:Nat):Bool:=if j=0 then v.nl else v.nh
def aBO(l m:LnQ)(side:Int):DV:= .tp [.sl ((awi l m side).map eV),vB (onB l m)]
def eFF(f:FrQ):DV:= .ag [.v (.bool (decide (f.l.a<0))),dN f.l.a.natAbs, .v (.bool (decide (f.l.b<0))),dN f.l.b.natAbs, .v (.bool (decide (f.l.c<0))),dN f.l.c.natAbs, .v (.bool (decide (f.v.lo.num<0))),dN f.v.lo.num.natAbs,dD f.v.lo.den, .v (.bool (decide (f.v.hi.num<0))),dN f.v.hi.num.natAbs,dD f.v.hi.den, .v (.bool f.v.nl), .v (.bool f.v.nh)]
def aBP(v w:IvQ):IvQ:=⟨v.lo,w.hi,v.nl,v.nh⟩

def avx(op:Int)(a b:Tr):Bool:=decide ((a.mergeQ op b []).isLeaf=true∧(a.mergeQ op b []).code=false)
def ayD(a b:Tr):Int:=if avx 4 a b then 0 else if avx 3 a b then-1 else if avx 3 b a then 1 else 2
def atQ:Tr→PtQ→Bool
 | .leaf b,_=>b
 | .node l x y,p=>if(l.value p).num.sign=1 then atQ x p else if(l.value p).num.sign= -1 then atQ y p else false
theorem apN(l:LnQ)(p:PtQ):l.canon.value p=l.value p∨l.canon.value p= -l.value p:=by
 unfold LnQ.canon
 split
 ·exact .inr (ad7 l p)
 ·exact .inl rfl
def fcs(a b:Tr):List PtQ:=awg (aeJ (a.lns++b.lns))
def eqR(a b:Tr):Bool:=(fcs a b).all fun p=>atQ a p==atQ b p
def aCy(f:Bool→Bool→Bool)(a b:Tr):Bool:=(fcs a b).any fun p=>f (atQ a p) (atQ b p)
def aBb(v:Bool)(t:Tr):Bool:=decide ((t.restrict []).isLeaf=true∧(t.restrict []).code=v)
def mtQ(a:LnQ)(t:List LnQ):List Rat:=t.filterMap fun b=>if crossI a b=0 then none else some (acF a b).x
def aCu(l:List LnQ)(x:Rat):List PtQ:=(arS (avV (ysQ l x))).map fun y=>⟨x,y⟩
section
variable {GB:Gh} {C:Ctx} {n:Nat} {Q0:Exit→Act→World→Prop} {fr fr':FrX} {own own':OwX} {cf cf':Cf} {vc:List Prop}
def PR(GB:Gh)(P:Program)(f:FuncId)(ds:List DV)(s:Nat)(ty:TypeId)(rows:List DV):Prop:=
 ∀G vs,GLe GB G→IsLs G ds vs→FnO P f vs [] G (fun v own' G'=> ∃w:SV,v= .slice w.a w.n w.c∧aaX G' ⟨w,s,ty,rows,true⟩ own')
theorem ap7: ∀(l:List Own),(∀o∈l,o.lo=true)→l.map (relo (flM []))=l
 |[],_=>rfl
 |a::t,h=>by
  have h1:=h a aQ
  rw[bL,ap7 t fun o ho=>h o (aZ _ ho)]
  congr 1
  cases a
  simp[relo,flM] at*
  exact h1
theorem aq3{lk:LK}{bk:BM}{fo:Operand}{args:Array Operand}{tys:Array TypeId}{f:FuncId}{d s:Nat}{ds rows:List DV}{ty ty2:TypeId}{pos:String}{af:Array Edge}{gd:Option (Nat×Bool)}
  (ha:aiH lk fo args=some (f,ds))(hF:PR GB prog f ds s ty2 rows):OpR prog GB C n lk bk ⟨some d, .call ⟨.value fo,args,tys⟩,ty,pos,af,gd⟩ (.rw d) [(d,some (.b ty2 s rows true))] [d]:=by
 intro hd tl tb K' s1 s2 hf hk
 refine⟨fun ρ G ov a w r Q=>?_⟩
 have r1:=r.mono s1 s2
 obtain⟨h1,h2⟩:=aiq ha
 obtain⟨y,hy,hy'⟩:=r1.ev h1
 rw[(aaM (G:=G)).1 hy'] at hy
 obtain⟨vs,h3,h4⟩:=r1.evDs h2
 refine ac3 (M:=[]) (rest:=ov) hy h3 (List.Perm.refl _) (hF G vs r.gb h4) hd (fun v own1 G' hG hK a' w' rl=>?_) a w Q ⟨r.h,r.sz,aaK a,r.df⟩
 obtain⟨z,rfl,vs',k1,k2,k3,k4⟩:=hK
 rw[ap7 _ (k4 rfl)] at rl
 have rl':Rel C n (Sx.put (frA a) (some d) (.slice z.a z.n z.c)) (own1++ov) G' a' w':=rl
 have hdis:=(fV.1 rl'.h.nd).2.2
 have r3:=r.new' (x:=z) (B':= .b ty2 s rows true) (os:=own1) (ov':=own1++ov) (f:= .rw d) (y:= .slice z.a z.n z.c) hf hG.le rl'.h ⟨vs',by simpa using k1,k2,k3,k4⟩ (fun o ho=>bW _ ho)
  (fun q B0 hq e o ho hbq=>⟨bR _ ho,fun hc=>by
   have hx: ∃o1∈own1,o1.b=o.b:=by
    rcases k1 with⟨_,h,_⟩|⟨b0,rest0,lo0,h,hB,_⟩
    ·rw[show z=_ from h] at hc;cases hc
    ·rw[show z=_ from h] at hc;cases hc;exact⟨⟨_,aaf vs'++rest0,_,lo0⟩,by rw[hB];exact aQ,rfl⟩
   obtain⟨o1,ho1,he1⟩:=hx
   exact hdis o1 ho1 o ho he1⟩) (by simp[IsX]) (aa8 rl')
 exact hk.run _ G' _ a' w' r3
def aAQ(fr:FrX)(cf:Cf):Option (FuncId×List DV×Nat):=match opC fr cf with
 |some ⟨some d, .call ⟨.value fo,args,_⟩,_,_,_,_⟩=>match aiH (lkC fr cf) fo args with
  |some (f,ds)=>some (f,ds,d)
  |none=>none
 |_=>none
theorem cr[fu:Fu]{f:FuncId}{d s:Nat}{ds rows:List DV}{ty:TypeId}(ha:aAQ fr cf=some (f,ds,d))(hF:PR GB prog f ds s ty rows)
  (hgo:goA tt n fu.n fr own cf (.rw d) [(d,some (.b ty s rows true))] [d]=⟨vc,fr',own',cf'⟩)(k:CfS prog GB C n Q0 fr' own' cf')
  (hv:aag vc:=by first|exact trivial|(simp only[aag];kernel_rfl)|(simp only[aag];omega)|(simp only[aag,aX,aY,aV];omega)):CfS prog GB C n Q0 fr own cf:=by
 unfold aAQ at ha
 split at ha<;>try (cases ha;done)
 rename_i hh
 split at ha<;>cases ha
 rename_i h1
 exact us hh (aq3 h1 hF) hgo hv k
def alN(C:Ctx)(s:Nat)(ty:TypeId)(rows:List DV):Ending→World→Prop:=afw C (fun v own' G'=> ∃w:SV,v= .slice w.a w.n w.c∧aaX G' ⟨w,s,ty,rows,true⟩ own')
theorem fnR[fu:Fu]{f:FuncId}{fb:Func}{c:Code}{m s:Nat}{ds rows:List DV}{ty:TypeId}(hf:prog.funcs[f]? =some fb)(hb:fb.body=some c)(hn:(fb.name== "runtime.NumGoroutine")=false)(hm:fb.ntmps=m)(hlen:Nat.ble ds.length m=true)
  (hgo:go tt m fu.n [] (ahm 0 ds) [] (.code c [])=⟨vc,fr,own,cf⟩)(k: ∀C:Ctx,C.mb=[]→CfS prog GB C m (bodyPost prog fb (alN C s ty rows)) fr own cf)
  (hv:aag vc:=by first|exact trivial|(simp only[aag];kernel_rfl)|(simp only[aag];omega)|(simp only[aag,aX,aY,aV];omega)):PR GB prog f ds s ty rows:=by
 intro G vs hg hvs
 refine FnO.intro hf hb hn hm (by rw[hvs.len];exact hlen) fun C _ hmb=>?_
 intro a w rl
 have h:=gx' (GB:=GB) (C:=C) (Q0:=bodyPost prog fb (alN C s ty rows)) hgo hv (k C (by simpa using hmb))
 exact h.run (fun _=>⟨none,0,0⟩) G [] a w ⟨hg,rl.h,rl.sz,rl.df,(fun k f e=>ak9 hvs rl.fr k f e),(fun nm B e=>by cases e),(fun nm nm' B B' e=>by cases e)⟩
theorem rzR{fb:Func}{t d s:Nat}{ty:TypeId}{rows rws:List DV}(hr:fb.results.toList=[.tmp t])(hl:aau fr t=some (.rw d))(hw:aaA own d=some (.b ty s rws true))(er:rws=rows):
  CfS prog GB C n (bodyPost prog fb (alN C s ty rows)) fr own (.ex .ret []):=by
 subst er
 refine⟨fun ρ G ov a w r=>?_⟩
 obtain⟨B,g1,g2⟩:=r.bx _ _ hw
 have hB:aaX G ⟨ρ d,s,ty,rws,true⟩ B:=g1
 obtain⟨rest,hp⟩:=ai2 hB g2
 obtain⟨y,hy,hy'⟩:=r.ev (x:= .tmp t) (f:= .rw d) hl
 cases (show y=_ from hy')
 exact adL (C:=C) (n:=n) (fr:=frA a) (own:=ov) (G:=G) (vs:=[.slice (ρ d).a (ρ d).n (ρ d).c]) (by rw[hr];exact .tmp hy .nil) (B++rest) B hp (lV _ _) ⟨ρ d,rfl,hB⟩ a w ⟨r.h,r.sz,aaK a,r.df⟩
theorem aBG{fb:Func}{t s:Nat}{ty:TypeId}{rows:List DV}(hr:fb.results.toList=[.tmp t])(hl:aau fr t=some .nl)(er:rows=[]):
  CfS prog GB C n (bodyPost prog fb (alN C s ty rows)) fr own (.ex .ret []):=by
 subst er
 refine⟨fun ρ G ov a w r=>?_⟩
 obtain⟨y,hy,hy'⟩:=r.ev (x:= .tmp t) (f:= .nl) hl
 cases (show y=_ from hy')
 exact adL (C:=C) (n:=n) (fr:=frA a) (own:=ov) (G:=G) (vs:=[.slice none 0 0]) (by rw[hr];exact .tmp hy .nil) ([]++ov) [] (List.Perm.refl _) (jY _) ⟨⟨none,0,0⟩,rfl,[], .inl ⟨rfl,rfl,rfl⟩,aaz.2 rfl,fun v h=>(by cases h),fun _ o h=>(by cases h)⟩ a w ⟨r.h,r.sz,aaK a,r.df⟩
end
theorem aju{b:Bool}:PR GB prog 53 [eT (Tr.leaf b)] 6 88 ((Tr.leaf b).lns.map eL):=by
 refine fnR (fu:=⟨11⟩) func53 J J ntmps53 J J (fun C hmb=>?_)
 refine knT J J J<|?_
 exact aBG J J J
theorem ajJ{l:LnQ}{x y:Tr}(hs:(Tr.node l x y).size≤100000)(ihx:PR GB prog 53 [eT x] 6 88 (x.lns.map eL))(ihy:PR GB prog 53 [eT y] 6 88 (y.lns.map eL)):PR GB prog 53 [eT (Tr.node l x y)] 6 88 ((Tr.node l x y).lns.map eL):=by
 have hsx:=aeL x
 have hsy:=aeL y
 have hsz:(Tr.node l x y).size=1+x.size+y.size:=rfl
 refine fnR (fu:=⟨11⟩) func53 J J ntmps53 J J (fun C hmb=>?_)
 refine knF J J J<|ro J J<|cr rfl ihx rfl<|ap (hbd:=by simp only[aX,bY,eY];omega) ((l::x.lns).map eL) rfl (by rw[bL];rfl) (agf _) rfl<|?_
 refine cr rfl ihy rfl<|ap (hbd:=by simp only[aX,bY,eY];omega) ((l::(x.lns++y.lns)).map eL) rfl (by rw[bL,bL,gJ];rfl) (agf _) rfl<|?_
 exact rzR J J J J
theorem akX: ∀{t:Tr},t.size≤100000→PR GB prog 53 [eT t] 6 88 (t.lns.map eL)
 | .leaf _,_=>aju
 | .node l x y,h=>ajJ h (akX (by have:(Tr.node l x y).size=1+x.size+y.size:=rfl;omega)) (akX (by have:(Tr.node l x y).size=1+x.size+y.size:=rfl;omega))
def atO:Tr→PtQ→Bool
 | .leaf _,_=>true
 | .node l x y,p=>if(l.value p).num.sign=1 then atO x p else if(l.value p).num.sign= -1 then atO y p else false
theorem apP(ls:List LnQ):(aeJ ls).length≤ls.length:=by
 have:=ahn agz (ls.map LnQ.canon) []
 unfold aeJ akL
 rw[aX,eY] at this
 omega
theorem aoX{ls:List LnQ}(h: ∀l∈ls,LB l): ∀l∈aeJ ls,LB l:=fun l hl=>by
 obtain⟨x,hx,rfl⟩:=ajQ hl
 haveI:=h x hx
 infer_instance
theorem avQ{ls:List LnQ}(h: ∀l∈ls,l.ok): ∀l∈aeJ ls,l.Ne:=fun l hl=>by
 obtain⟨x,hx,rfl⟩:=ajQ hl
 exact(asj (h x hx)).ne
structure Two (a b:Tr):Prop where
 ga:a.gd
 gb:b.gd
 sa:a.size≤3000
 sb:b.size≤3000
def f1R(x y:Bool):Bool:=x&&!y
def f2R(x y:Bool):Bool:=y&&!x
def f3R(x y:Bool):Bool:=x&&y
def f4R(x y:Bool):Bool:=!x&&!y
def anK(f:Bool→Bool→Bool)(a b:Tr)(k:Nat):Bool:=((fcs a b).take k).any fun p=>f (atQ a p) (atQ b p)
def aAR(t:Tr):List aat:=((t.parts []).filter (·.1)).map (·.2)
def aAn(l:LnQ)(p:PtQ):aat→Rat→Rat
 |[],f=>f
 |s::c,f=>aAn l p c (if Int.sign (s.l.nor.dot l.nor).num<0 then(if-(s.l.value p/s.l.nor.dot l.nor)<f then-(s.l.value p/s.l.nor.dot l.nor) else f) else f)
def aAY:aat→PtQ
 |[]=>⟨0,0⟩
 |s::c=>aeS (s.l.at s.v.sample) s.l.nor (aAn s.l (s.l.at s.v.sample) c 1*mkRat 1 2)
def aeQ:Tr→PtQ→PtQ→Bool×Bool
 | .leaf b,_,_=>(b,true)
 | .node l x y,p,v=>match (if(l.value p).num.sign=0 then(l.dir.cross v).num.sign else(l.value p).num.sign) with
  |1=>aeQ x p v
  | -1=>aeQ y p v
  |_=>(false,false)
theorem acN(l:LnQ)(v:PtQ):l.dir.cross v=l.nor.dot v:=by
 unfold LnQ.dir LnQ.nor PtQ.cross PtQ.dot
 grind
def Gn(L:List LnQ)(p v:PtQ):Prop:= ∀l∈L,l.value p=0→l.nor.dot v≠0
theorem awo{l:LnQ}{p v:PtQ}(h:l.value p=0→l.nor.dot v≠0): ∃e:Rat,0<e∧ ∀d,0<d→d≤e→(0<l.value (aeS p v d)↔0<l.value p∨(l.value p=0∧0<l.nor.dot v))∧(l.value (aeS p v d)<0↔l.value p<0∨(l.value p=0∧l.nor.dot v<0)):=by
 generalize hk:l.nor.dot v=k at*
 by_cases h0:l.value p=0
 ·have hk0:=h h0
  refine⟨1,by decide,fun d h1 _=>?_⟩
  rw[ab2,hk,h0]
  rcases aaU k with e|e|e
  ·exact absurd e hk0
  ·have:=aae h1 e;grind
  ·have:=aae (a:=d) (b:= -k) h1 (by grind);grind
 ·have key: ∀w:Rat,0<w→ ∃e:Rat,0<e∧ ∀d,0<d→d≤e→ ∀j:Rat,(j=k∨j= -k)→0<w+d*j:=fun w hw=>by
   have hA: ∃A:Rat,0<A∧k≤A∧ -k≤A:=by
    rcases aaU k with e|e|e
    ·exact⟨1,by decide,by grind,by grind⟩
    ·exact⟨k,e,by grind,by grind⟩
    ·exact⟨-k,by grind,by grind,by grind⟩
   obtain⟨A,a1,a2,a3⟩:=hA
   refine⟨w/(2*A),?_,fun d d1 d2 j hj=>?_⟩
   ·have e1:w/(2*A)*(2*A)=w:=by grind
    exact(aaw (k:=2*A) (by grind)).1 (by rw[e1];exact hw)
   ·have e1:w/(2*A)*(2*A)=w:=by grind
    generalize w/(2*A)=f at*
    have h1:=aai (a:=f-d) (b:=A) (by grind) (by grind)
    have h2:=aai (a:=d) (b:=A+j) (by grind) (by rcases hj with rfl|rfl<;>grind)
    grind
  rcases aaU (l.value p) with e|e|e
  ·exact absurd e h0
  ·obtain⟨f,f1,f2⟩:=key _ e
   refine⟨f,f1,fun d d1 d2=>?_⟩
   have:=f2 d d1 d2 k (.inl rfl)
   rw[ab2,hk]
   grind
  ·obtain⟨f,f1,f2⟩:=key (-l.value p) (by grind)
   refine⟨f,f1,fun d d1 d2=>?_⟩
   have:=f2 d d1 d2 (-k) (.inr rfl)
   rw[ab2,hk]
   grind
theorem aeZ: ∀{t:Tr} {p v:PtQ},Gn t.lns p v→ ∃e:Rat,0<e∧ ∀d,0<d→d≤e→Off t.lns (aeS p v d)∧aeQ t p v=(t.val (aeS p v d),true)
 | .leaf b,p,v,_=>⟨1,by decide,fun d _ _=>⟨fun l hl=>(by cases hl),rfl⟩⟩
 | .node l x y,p,v,h=>by
  obtain⟨e1,a1,b1⟩:=awo (h l aQ)
  obtain⟨e2,a2,b2⟩:=aeZ (t:=x) (p:=p) (v:=v) (fun m hm=>h m (aZ _ (bW _ hm)))
  obtain⟨e3,a3,b3⟩:=aeZ (t:=y) (p:=p) (v:=v) (fun m hm=>h m (aZ _ (bR _ hm)))
  have hgn:=h l aQ
  have hm: ∃e:Rat,0<e∧e≤e1∧e≤e2∧e≤e3:=by
   by_cases h1:e1≤e2
   ·by_cases h2:e1≤e3
    ·exact⟨e1,a1,by grind,h1,h2⟩
    ·exact⟨e3,a3,by grind,by grind,by grind⟩
   ·by_cases h2:e2≤e3
    ·exact⟨e2,a2,by grind,by grind,h2⟩
    ·exact⟨e3,a3,by grind,by grind,by grind⟩
  obtain⟨e,h0,h1,h2,h3⟩:=hm
  refine⟨e,h0,fun d d1 d2=>?_⟩
  obtain⟨c1,c2⟩:=b1 d d1 (by grind)
  obtain⟨o2,w2⟩:=b2 d d1 (by grind)
  obtain⟨o3,w3⟩:=b3 d d1 (by grind)
  have hs:(if(l.value p).num.sign=0 then(l.dir.cross v).num.sign else(l.value p).num.sign)=if 0<l.value (aeS p v d) then 1 else-1:=by
   rw[acN]
   by_cases hz:l.value p=0
   ·rw[if_pos ((abO _).2 hz)]
    split
    ·rename_i hp
     exact(acK _).2 (by rcases c1.1 hp with k|k;exact absurd k (by grind);exact k.2)
    ·rename_i hp
     have:l.nor.dot v<0:=by have:=hgn hz;have: ¬0<l.nor.dot v:=fun e=>hp (c1.2 (.inr ⟨hz,e⟩));grind
     exact Int.sign_eq_neg_one_iff_neg.2 (by have:=(afN _).2 this;rcases jN (l.nor.dot v).num 0 with q|q|q;exact q;rw[q] at this;simp at this;rw[dV q] at this;simp at this)
   ·rw[if_neg (fun e=>hz ((abO _).1 e))]
    split
    ·rename_i hp
     exact(acK _).2 (by rcases c1.1 hp with k|k;exact k;exact absurd k.1 hz)
    ·rename_i hp
     have:l.value p<0:=by have: ¬0<l.value p:=fun e=>hp (c1.2 (.inl e));grind
     exact Int.sign_eq_neg_one_iff_neg.2 (by have:=(afN _).2 this;rcases jN (l.value p).num 0 with q|q|q;exact q;rw[q] at this;simp at this;rw[dV q] at this;simp at this)
  have hz:l.value (aeS p v d)≠0:=fun e=>by
   rcases aaU (l.value p) with q|q|q
   ·rcases aaU (l.nor.dot v) with r|r|r
    ·exact hgn q r
    ·have:=c1.2 (.inr ⟨q,r⟩);grind
    ·have:=c2.2 (.inr ⟨q,r⟩);grind
   ·have:=c1.2 (.inl q);grind
   ·have:=c2.2 (.inl q);grind
  refine⟨fun m hm=>?_,?_⟩
  ·rcases aS.1 hm with rfl|hm
   ·exact hz
   ·exact(bS.1 hm).elim (o2 m) (o3 m)
  ·rw[aeQ,hs]
   by_cases hp:0<l.value (aeS p v d)
   ·rw[if_pos hp,Tr.val_pos hp];exact w2
   ·rw[if_neg hp,Tr.val_neg hp];exact w3
theorem aaP(p:PtQ):(p.half=1∧(0<p.y∨(p.y=0∧0<p.x)))∨(p.half=2∧(p.y<0∨(p.y=0∧p.x<0)))∨(p.half=0∧p.y=0∧p.x=0):=by
 unfold PtQ.half
 simp only[acy,afN,abO]
 split
 ·rename_i h;exact .inl ⟨rfl,h⟩
 ·rename_i h
  split
  ·rename_i h2
   exact .inr (.inl ⟨rfl,by grind⟩)
  ·rename_i h2
   exact .inr (.inr ⟨rfl,by grind,by grind⟩)
theorem adT{p:PtQ}:p.half=1↔(0<p.y∨(p.y=0∧0<p.x)):=by
 rcases aaP p with⟨h,k⟩|⟨h,k⟩|⟨h,k⟩<;>rw[h]<;>grind
theorem adO{p:PtQ}:p.half=2↔(p.y<0∨(p.y=0∧p.x<0)):=by
 rcases aaP p with⟨h,k⟩|⟨h,k⟩|⟨h,k⟩<;>rw[h]<;>grind
def Bef(u v:PtQ):Prop:=u.half<v.half∨(u.half=v.half∧0<u.cross v)
theorem adf{u v:PtQ}:aaG u v<0↔Bef u v:=by
 unfold aaG Bef
 split
 ·rename_i h;exact⟨fun _=> .inl h,fun _=>by decide⟩
 ·rename_i h
  split
  ·rename_i h2;exact⟨fun e=>absurd e (by decide),fun e=>by omega⟩
  ·rename_i h2
   have e:u.half=v.half:=by omega
   rw[←acy]
   constructor
   ·intro k;exact .inr ⟨e,by omega⟩
   ·rintro (k|⟨_,k⟩)
    ·omega
    ·omega
def abT(d:PtQ):PtQ:=⟨-d.x, -d.y⟩
theorem ac4{d:PtQ}(h:d.half≠0):(abT d).half=3-d.half:=by
 rcases aaP d with⟨e,k⟩|⟨e,k⟩|⟨e,k⟩
 ·rw[e];exact adO.2 (by unfold abT;grind)
 ·rw[e];exact adT.2 (by unfold abT;grind)
 ·exact absurd e h
theorem abA{d:PtQ}(h:d.half≠0):d.half=1∨d.half=2:=by
 rcases aaP d with⟨e,_⟩|⟨e,_⟩|⟨e,_⟩
 ·exact .inl e
 ·exact .inr e
 ·exact absurd e h
def Nxt(ds:List PtQ)(u w:PtQ):Prop:=(Bef u w∧ ∀d∈ds,¬(Bef u d∧Bef d w))∨((∀d∈ds,¬Bef u d)∧ ∀d∈ds,¬Bef d w)
structure asF (ds:List PtQ):Prop where
 nz: ∀d∈ds,d.half≠0
 neg: ∀d∈ds,abT d∈ds
theorem ah0(u:PtQ):u.cross u=0:=by unfold PtQ.cross;grind
theorem aav(u v:PtQ):v.cross u= -u.cross v:=by unfold PtQ.cross;grind
theorem abm(u v:PtQ):u.cross (abT v)= -u.cross v:=by unfold PtQ.cross abT;grind
theorem Nxt.spec{ds:List PtQ}{u w:PtQ}(h:asF ds)(hu:u∈ds)(hw:w∈ds)(hn:Nxt ds u w):
  (u.half=w.half∧0<u.cross w∧ ∀d∈ds,¬(Bef u d∧Bef d w))∨(u.half≠w.half∧(∀d∈ds,d.half=u.half→0≤d.cross u)∧ ∀d∈ds,d.half=w.half→0≤w.cross d):=by
 have zu:=abA (h.nz u hu)
 have zw:=abA (h.nz w hw)
 rcases hn with⟨h1,h2⟩|⟨h1,h2⟩
 ·rcases h1 with k|⟨k,k2⟩
  ·refine .inr ⟨by omega,fun d hd e=>?_,fun d hd e=>?_⟩
   ·have:=h2 d hd
    rw[aav]
    by_cases hc:0<u.cross d
    ·exact absurd ⟨.inr ⟨e.symm,hc⟩, .inl (by omega)⟩ this
    ·grind
   ·have:=h2 d hd
    by_cases hc:0<d.cross w
    ·exact absurd ⟨.inl (by omega), .inr ⟨e,hc⟩⟩ this
    ·rw[aav] at hc;grind
  ·exact .inl ⟨k,k2,h2⟩
 ·have nu:=ac4 (h.nz u hu)
  have a1:=h1 _ (h.neg u hu)
  have a2:=h2 _ (h.neg u hu)
  unfold Bef at a1 a2
  rw[nu] at a1 a2
  refine .inr ⟨fun e=>?_,fun d hd e=>?_,fun d hd e=>?_⟩
  ·rcases zu with z|z
   ·exact a1 (.inl (by omega))
   ·exact a2 (.inl (by omega))
  ·have:=h1 d hd
   rw[aav]
   by_cases hc:0<u.cross d
   ·exact absurd (.inr ⟨e.symm,hc⟩) this
   ·grind
  ·have:=h2 d hd
   by_cases hc:0<d.cross w
   ·exact absurd (.inr ⟨e,hc⟩) this
   ·rw[aav] at hc;grind
theorem Nxt.pos{ds:List PtQ}{u w:PtQ}(h:asF ds)(hu:u∈ds)(hw:w∈ds)(hn:Nxt ds u w):0≤u.cross w:=by
 rcases hn.spec h hu hw with⟨_,h2,_⟩|⟨h1,h2,h3⟩
 ·grind
 ·have:=h3 _ (h.neg u hu) (by rw[ac4 (h.nz u hu)];have:=abA (h.nz u hu);have:=abA (h.nz w hw);omega)
  rw[abm] at this
  rw[aav];exact this
def btw(a b:Rat)(u w:PtQ):PtQ:=⟨a*u.x+b*w.x,a*u.y+b*w.y⟩
theorem ajD{a b:Rat}{u w:PtQ}:u.cross (btw a b u w)=b*u.cross w∧(btw a b u w).cross w=a*u.cross w:=by
 unfold PtQ.cross btw
 constructor<;>grind
theorem aiJ{a b:Rat}{u w:PtQ}(ha:0<a)(hb:0<b)(h:u.half=w.half)(hz:u.half≠0):(btw a b u w).half=u.half:=by
 rcases aaP u with⟨e,k⟩|⟨e,k⟩|⟨e,k⟩
 ·rw[e] at h⊢
  have k2:=adT.1 h.symm
  refine adT.2 ?_
  unfold btw
  simp only
  have p1: ∀z:Rat,0<z→0<a*z:=fun z hz=>aae ha hz
  have p2: ∀z:Rat,0<z→0<b*z:=fun z hz=>aae hb hz
  rcases k with k|⟨k,k'⟩<;>rcases k2 with l|⟨l,l'⟩
  ·have:=p1 _ k;have:=p2 _ l;grind
  ·have:=p1 _ k;rw[l];grind
  ·have:=p2 _ l;rw[k];grind
  ·have:=p1 _ k';have:=p2 _ l';rw[k,l];grind
 ·rw[e] at h⊢
  have k2:=adO.1 h.symm
  refine adO.2 ?_
  unfold btw
  simp only
  have p1: ∀z:Rat,z<0→a*z<0:=fun z hz=>by have:=aae (a:=a) (b:= -z) ha (by grind);grind
  have p2: ∀z:Rat,z<0→b*z<0:=fun z hz=>by have:=aae (a:=b) (b:= -z) hb (by grind);grind
  rcases k with k|⟨k,k'⟩<;>rcases k2 with l|⟨l,l'⟩
  ·have:=p1 _ k;have:=p2 _ l;grind
  ·have:=p1 _ k;rw[l];grind
  ·have:=p2 _ l;rw[k];grind
  ·have:=p1 _ k';have:=p2 _ l';rw[k,l];grind
 ·exact absurd e hz
theorem Nxt.none{ds:List PtQ}{u w:PtQ}(h:asF ds)(hu:u∈ds)(hw:w∈ds)(hn:Nxt ds u w)(hc:u.cross w≠0){a b:Rat}(ha:0<a)(hb:0<b):btw a b u w∉ds:=fun hd=>by
 have hp:=hn.pos h hu hw
 have hp:0<u.cross w:=by grind
 obtain⟨c1,c2⟩:=ajD (a:=a) (b:=b) (u:=u) (w:=w)
 have d1:0<u.cross (btw a b u w):=by rw[c1];exact aae hb hp
 have d2:0<(btw a b u w).cross w:=by rw[c2];exact aae ha hp
 have zu:=abA (h.nz u hu)
 have zw:=abA (h.nz w hw)
 have zd:=abA (h.nz _ hd)
 rcases hn.spec h hu hw with⟨h1,_,h3⟩|⟨h1,h2,h3⟩
 ·have e:=aiJ ha hb h1 (h.nz u hu)
  exact h3 _ hd ⟨.inr ⟨e.symm,d1⟩, .inr ⟨e.trans h1,d2⟩⟩
 ·rcases(show(btw a b u w).half=u.half∨(btw a b u w).half=w.half by omega) with e|e
  ·have:=h2 _ hd e
   rw[aav] at this;grind
  ·have:=h3 _ hd e
   rw[aav] at this;grind
theorem af0{d e:PtQ}(h:e.cross d=0)(hp:0<e.dot d): ∃g:Rat,0<g∧e=⟨g*d.x,g*d.y⟩:=by
 have hd:0<d.dot d:=by
  unfold PtQ.dot at*
  have h1:=abb d.x
  have h2:=abb d.y
  rcases aaU d.x with k|k|k
  ·rcases aaU d.y with l|l|l
   ·rw[k,l] at hp;grind
   ·have:=aae l l;grind
   ·have:=aae (a:= -d.y) (b:= -d.y) (by grind) (by grind);grind
  ·have:=aae k k;grind
  ·have:=aae (a:= -d.x) (b:= -d.x) (by grind) (by grind);grind
 have key:e.x*d.dot d=e.dot d*d.x∧e.y*d.dot d=e.dot d*d.y:=by
  unfold PtQ.dot PtQ.cross at*
  constructor<;>grind
 have hg:e.dot d/d.dot d*d.dot d=e.dot d:=by grind
 refine⟨e.dot d/d.dot d,(aaw hd).1 (by rw[hg];exact hp),?_⟩
 generalize e.dot d/d.dot d=g at*
 have x1:e.x=g*d.x:=by
  have:(e.x-g*d.x)*d.dot d=0:=by rw[←hg] at key;grind
  have hz:d.dot d≠0:=by grind
  grind
 have x2:e.y=g*d.y:=by
  have:(e.y-g*d.y)*d.dot d=0:=by rw[←hg] at key;grind
  have hz:d.dot d≠0:=by grind
  grind
 rw[←x1,←x2]
theorem amx{e u:PtQ}(he:e.half≠0)(hu:u.half≠0)(hp:e.cross u=0):e.dot u≠0:=fun hz=>by
 have e1:e.x*(u.x*u.x+u.y*u.y)=0:=by unfold PtQ.dot PtQ.cross at*;grind
 have e2:e.y*(u.x*u.x+u.y*u.y)=0:=by unfold PtQ.dot PtQ.cross at*;grind
 have hu2:u.x*u.x+u.y*u.y≠0:=fun q=>by
  have h1:=abb u.x
  have h2:=abb u.y
  have x0:u.x=0:=by
   have:u.x*u.x=0:=by grind
   grind
  have y0:u.y=0:=by
   have:u.y*u.y=0:=by grind
   grind
  rcases aaP u with⟨_,q⟩|⟨_,q⟩|⟨q,_⟩
  ·grind
  ·grind
  ·exact hu q
 have x0:e.x=0:=by grind
 have y0:e.y=0:=by grind
 rcases aaP e with⟨_,q⟩|⟨_,q⟩|⟨q,_⟩
 ·grind
 ·grind
 ·exact he q
theorem Nxt.gen{ds:List PtQ}{u w:PtQ}(h:asF ds)(hu:u∈ds)(hw:w∈ds)(hn:Nxt ds u w)(hc:u.cross w≠0){a b:Rat}(ha:0<a)(hb:0<b): ∀d∈ds,d.cross (btw a b u w)≠0:=fun d hd hz=>by
 have hp:=hn.pos h hu hw
 have hp:0<u.cross w:=by grind
 obtain⟨c1,c2⟩:=ajD (a:=a) (b:=b) (u:=u) (w:=w)
 have d1:0<u.cross (btw a b u w):=by rw[c1];exact aae hb hp
 -- of d and its opposite, one points the same way
 have key: ∀e∈ds,e.cross (btw a b u w)=0→0<e.dot (btw a b u w)→False:=fun e he h1 h2=>by
  obtain⟨g,g1,g2⟩:=af0 h1 h2
  refine hn.none h hu hw hc (a:=g*a) (b:=g*b) (aae g1 ha) (aae g1 hb) ?_
  have:btw (g*a) (g*b) u w=e:=by rw[g2];unfold btw;simp only[PtQ.mk.injEq];constructor<;>grind
  rw[this];exact he
 rcases aaU (d.dot (btw a b u w)) with k|k|k
 ·-- both 0: then d is 0, or the other is
  have hnz:=h.nz d hd
  generalize btw a b u w=v at*
  have e1:d.x*(v.x*v.x+v.y*v.y)=0:=by unfold PtQ.dot PtQ.cross at*;grind
  have e2:d.y*(v.x*v.x+v.y*v.y)=0:=by unfold PtQ.dot PtQ.cross at*;grind
  have hv:v.x*v.x+v.y*v.y≠0:=fun e=>by
   have h1:=abb v.x
   have h2:=abb v.y
   have x0:v.x=0:=by have:v.x*v.x=0:=(by grind);grind
   have y0:v.y=0:=by have:v.y*v.y=0:=(by grind);grind
   unfold PtQ.cross at d1
   rw[x0,y0] at d1;grind
  have x0:d.x=0:=by grind
  have y0:d.y=0:=by grind
  rcases aaP d with⟨_,q⟩|⟨_,q⟩|⟨q,_⟩
  ·grind
  ·grind
  ·exact hnz q
 ·exact key d hd hz k
 ·refine key _ (h.neg d hd) ?_ ?_
  ·unfold PtQ.cross abT at*;grind
  ·unfold PtQ.dot abT at*;grind
theorem aig(d u:PtQ):d.cross (agc u)=d.dot u:=by unfold PtQ.cross agc PtQ.dot;grind
theorem Nxt.turn{ds:List PtQ}{u w:PtQ}(h:asF ds)(hu:u∈ds)(hw:w∈ds)(hn:Nxt ds u w)(hc:u.cross w=0): ∀d∈ds,d.cross (agc u)≠0:=fun d hd=>by
 have zu:=abA (h.nz u hu)
 have zw:=abA (h.nz w hw)
 rw[aig]
 rcases hn.spec h hu hw with⟨_,h2,_⟩|⟨h1,h2,h3⟩
 ·rw[hc] at h2;exact absurd h2 (by decide)
 have par: ∀e∈ds,e.half=u.half→e.cross u=0:=fun e he k=>by
  have a1:=h2 e he k
  have a2:=h3 _ (h.neg e he) (by rw[ac4 (h.nz e he)];omega)
  rw[abm] at a2
  -- w = -g u
  have hwu:w.cross u=0:=by rw[aav,hc];rfl
  have huw:w.dot u<0:=by
   rcases aaU (w.dot u) with k0|k0|k0
   ·exact absurd k0 (amx (h.nz w hw) (h.nz u hu) hwu)
   ·obtain⟨g,g1,g2⟩:=af0 hwu k0
    exfalso
    apply h1
    rcases aaP u with⟨x,q⟩|⟨x,q⟩|⟨x,q⟩
    ·rw[x]
     refine(adT.2 ?_).symm
     rw[g2]
     simp only
     rcases q with q|⟨q,q'⟩
     ·exact .inl (aae g1 q)
     ·exact .inr ⟨by rw[q];grind,aae g1 q'⟩
    ·rw[x]
     refine(adO.2 ?_).symm
     rw[g2]
     simp only
     rcases q with q|⟨q,q'⟩
     ·have:=aae (a:=g) (b:= -u.y) g1 (by grind);exact .inl (by grind)
     ·have:=aae (a:=g) (b:= -u.x) g1 (by grind);exact .inr ⟨by rw[q];grind,by grind⟩
    ·exact absurd x (h.nz u hu)
   ·exact k0
  obtain⟨g,g1,g2⟩:=af0 (d:=u) (e:=abT w) (by unfold PtQ.cross abT at*;grind) (by unfold PtQ.dot abT at*;grind)
  have a3:0≤ -(g*e.cross u):=by
   have e1:w=⟨-(g*u.x), -(g*u.y)⟩:=by
    have:=congrArg abT g2
    unfold abT at this
    cases w
    simp only[Rat.neg_neg] at this
    exact this
   rw[e1] at a2
   unfold PtQ.cross at*
   grind
  by_cases hz:0<e.cross u
  ·have:=aae g1 hz;grind
  ·grind
 have nzd: ∀e∈ds,e.half=u.half→e.dot u≠0:=fun e he k=>amx (h.nz e he) (h.nz u hu) (par e he k)
 by_cases k:d.half=u.half
 ·exact nzd d hd k
 ·have:=nzd _ (h.neg d hd) (by rw[ac4 (h.nz d hd)];have:=abA (h.nz d hd);omega)
  unfold PtQ.dot abT at*
  grind
/-! ### lists in order -/
theorem amp{α:Type}{c:α→α→Int}(hT: ∀u v w,c u v<0→c v w<0→c u w<0)(hA: ∀u v,¬c u v<0→c u v≠0→c v u<0){x:α}: ∀{xs:List α},xs.Pairwise (fun a b=>c a b<0)→(afy c x xs).Pairwise (fun a b=>c a b<0)
 |[],_=>by rw[afy];exact List.pairwise_singleton _ _
 |u::t,h=>by
  obtain⟨h1,h2⟩:=bU.1 h
  rw[afy]
  split
  ·rename_i hu
   refine bU.2 ⟨fun y hy=>?_,amp hT hA h2⟩
   rcases aiA c hy with rfl|hy
   ·exact hu
   ·exact h1 y hy
  ·rename_i hu
   split
   ·exact h
   ·rename_i hz
    have hx:=hA u x hu hz
    refine bU.2 ⟨fun y hy=>?_,h⟩
    rcases aS.1 hy with rfl|hy
    ·exact hx
    ·exact hT _ _ _ hx (h1 y hy)
theorem akr{α:Type}{c:α→α→Int}(hT: ∀u v w,c u v<0→c v w<0→c u w<0)(hA: ∀u v,¬c u v<0→c u v≠0→c v u<0): ∀{l o:List α},o.Pairwise (fun a b=>c a b<0)→(l.foldl (fun out x=>afy c x out) o).Pairwise (fun a b=>c a b<0)
 |[],o,h=>h
 |x::l,o,h=>akr (l:=l) (o:=afy c x o) hT hA (amp hT hA h)
/-! ### directions -/
def azx(L:List LnQ)(p:PtQ):List PtQ:=L.flatMap fun l=>if Int.sign (l.value p).num=0 then [l.dir,abT l.dir] else []
theorem avj{u v:PtQ}:0<aaG u v↔Bef v u:=by
 unfold aaG Bef
 split
 ·rename_i h;exact⟨fun e=>absurd e (by decide),fun e=>by omega⟩
 ·rename_i h
  split
  ·rename_i h2;exact⟨fun _=> .inl h2,fun _=>by decide⟩
  ·rename_i h2
   have e:v.half=u.half:=by omega
   rw[aav u v]
   constructor
   ·intro k
    have:Int.sign (u.cross v).num<0:=by omega
    rw[afN] at this
    exact .inr ⟨e,by grind⟩
   ·rintro (k|⟨_,k⟩)
    ·omega
    ·have:Int.sign (u.cross v).num<0:=(afN _).2 (by grind)
     omega
theorem Bef.trans{u v w:PtQ}(hu:u.half≠0)(hv:v.half≠0)(hw:w.half≠0)(h:Bef u v)(k:Bef v w):Bef u w:=by
 rcases h with h|⟨h,h'⟩<;>rcases k with k|⟨k,k'⟩
 ·exact .inl (by omega)
 ·exact .inl (by omega)
 ·exact .inl (by omega)
 ·refine .inr ⟨h.trans k,?_⟩
  have id1:u.cross w*v.y=u.cross v*w.y+v.cross w*u.y:=by unfold PtQ.cross;grind
  rcases aaP v with⟨x,q⟩|⟨x,q⟩|⟨x,q⟩
  ·rw[x] at h k
   have qu:=adT.1 h
   have qw:=adT.1 k.symm
   rcases q with q|⟨q,q'⟩
   ·rw[←aaw q,id1]
    have wy:0≤w.y:=by grind
    have uy:0≤u.y:=by grind
    have a1:=aai (iM h') wy
    rcases qu with qu|⟨qu,qu'⟩
    ·have:=aae k' qu;grind
    ·rcases qw with qw|⟨qw,qw'⟩
     ·have:=aae h' qw;rw[qu];grind
     ·exfalso
      have hx:v.cross w= -(w.x*v.y):=by unfold PtQ.cross;rw[qw];grind
      have:=aae qw' q
      grind
   ·exfalso
    have hx:u.cross v= -(v.x*u.y):=by unfold PtQ.cross;rw[q];grind
    have:=aai (a:=v.x) (b:=u.y) (iM q') (by grind)
    grind
  ·rw[x] at h k
   have qu:=adO.1 h
   have qw:=adO.1 k.symm
   rcases q with q|⟨q,q'⟩
   ·have e1:u.cross w* -v.y=u.cross v* -w.y+v.cross w* -u.y:=by grind
    rw[←aaw (k:= -v.y) (by grind),e1]
    have a1:=aai (a:=u.cross v) (b:= -w.y) (iM h') (by grind)
    rcases qu with qu|⟨qu,qu'⟩
    ·have:=aae (a:=v.cross w) (b:= -u.y) k' (by grind);grind
    ·rcases qw with qw|⟨qw,qw'⟩
     ·have:=aae (a:=u.cross v) (b:= -w.y) h' (by grind);rw[qu];grind
     ·exfalso
      have hx:v.cross w= -(-w.x* -v.y):=by unfold PtQ.cross;rw[qw];grind
      have:=aae (a:= -w.x) (b:= -v.y) (by grind) (by grind)
      grind
   ·exfalso
    have hx:u.cross v= -(-v.x* -u.y):=by unfold PtQ.cross;rw[q];grind
    have:=aai (a:= -v.x) (b:= -u.y) (by grind) (by grind)
    grind
  ·exact absurd x hv
def aAc(S:List PtQ)(x:PtQ):Nat→Nat
 |0=>0
 |k+1=>if 0<aaG (S.getD k ⟨0,0⟩) x then aAc S x k else k+1
def aBB(S:List PtQ)(x:PtQ):List PtQ:=S.take (aAc S x S.length)++x::S.drop (aAc S x S.length)
def azG(ds:List PtQ):List PtQ:=ds.foldl aBB []
structure aBY (L:List LnQ):Prop where
 ok: ∀l∈L,l.ok
 cn: ∀l∈L,anp l=false
 nd:L.Pairwise (fun a b=>a≠b)
theorem ajC{l:LnQ}(h:l.ok):anp l.canon=false:=by
 have hn:=h.ne
 unfold LnQ.Ne at hn
 unfold LnQ.canon
 split
 ·rename_i k
  unfold anp at*
  rw[decide_eq_true_eq] at k
  rw[decide_eq_false_iff_not]
  show¬(-l.a<0∨(-l.a=0∧ -l.b<0))
  omega
 ·rename_i k;simpa using k
theorem akc{l:LnQ}(h:l.ok):l.dir.half≠0:=fun e=>by
 have hn:=h.ne
 unfold LnQ.Ne at hn
 rcases aaP l.dir with⟨k,_⟩|⟨k,_⟩|⟨_,k1,k2⟩
 ·rw[k] at e;cases e
 ·rw[k] at e;cases e
 ·unfold LnQ.dir at k1 k2
  simp only at k1 k2
  apply hn
  refine⟨?_,cR.1 k2⟩
  have:(l.a:Rat)=0:=by grind
  exact cR.1 this
theorem aus{d:PtQ}(h:d.half≠0):(abT d).half≠0:=by rw[ac4 h];have:=abA h;omega
theorem aeb(d:PtQ):abT (abT d)=d:=by unfold abT;cases d;simp
theorem avq{l m:LnQ}(hl:l.ok)(hm:m.ok)(cl:anp l=false)(cm:anp m=false){p:PtQ}(h1:l.value p=0)(h2:m.value p=0)(hc:l.dir.cross m.dir=0):l=m:=by
 have key: ∀t,l.value (m.at t)=0:=fun t=>by
  obtain⟨s,rfl⟩:=aua hm.ne h2
  rw[agR] at h1⊢
  have hk:m.cutK l=0:=by
   unfold LnQ.cutK
   rw[←acN];exact hc
  rw[hk] at h1⊢
  grind
 rcases aj9 hl hm key with e|e
 ·exact e
 ·exfalso
  have hn:=hm.ne
  unfold LnQ.Ne at hn
  rw[e] at cl
  unfold anp at cl cm
  rw[decide_eq_false_iff_not] at cl cm
  have cl: ¬(-m.a<0∨(-m.a=0∧ -m.b<0)):=cl
  omega
theorem asQ{ds:List PtQ}(h:ds.Pairwise Bef)(hd:asF ds){i:Nat}(hi:i<ds.length)(hj:(i+1)%ds.length<ds.length):Nxt ds ds[i] ds[(i+1)%ds.length]:=by
 have hp:=List.pairwise_iff_getElem.1 h
 have irr: ∀{u v:PtQ},Bef u v→ ¬Bef v u:=fun{u v} a b=>by
  unfold Bef at a b
  rw[aav u v] at b
  rcases a with a|⟨a,a'⟩<;>rcases b with b|⟨b,b'⟩
  ·omega
  ·omega
  ·omega
  ·grind
 have ord: ∀{j k:Nat} (a:j<ds.length) (b:k<ds.length),Bef ds[j] ds[k]→j<k:=fun{j k} a b q=>by
  rcases oR j k with e|e|e
  ·exact e
  ·subst e;exact absurd q (irr q)
  ·exact absurd (hp k j b a e) (irr q)
 by_cases hl:i+1<ds.length
 ·have e:(i+1)%ds.length=i+1:=dY hl
  simp only[e]
  refine .inl ⟨hp i (i+1) hi hl (by omega),fun d hd' ⟨q1,q2⟩=>?_⟩
  obtain⟨j,hj',rfl⟩:=nM hd'
  have:=ord hi hj' q1
  have:=ord hj' hl q2
  omega
 ·have e:(i+1)%ds.length=0:=by rw[show i+1=ds.length by omega];exact Nat.mod_self _
  simp only[e]
  refine .inr ⟨fun d hd' q=>?_,fun d hd' q=>?_⟩
  ·obtain⟨j,hj',rfl⟩:=nM hd'
   have:=ord hi hj' q
   omega
  ·obtain⟨j,hj',rfl⟩:=nM hd'
   have:=ord hj' (by omega) q
   omega
def awJ(v:PtQ):Nat:=Nat.gcd (v.x.num.natAbs*v.y.den) (v.y.num.natAbs*v.x.den)
def ayx(n:Int)(d g:Nat):Int:=if n<0 then-((n.natAbs*d/g:Nat):Int) else((n.natAbs*d/g:Nat):Int)
def axH(v:PtQ):PtQ:=if v.half=0 then⟨0,0⟩ else⟨(ayx v.x.num v.y.den (awJ v):Int),(ayx v.y.num v.x.den (awJ v):Int)⟩
def aBM(ds:List PtQ)(i:Nat):List PtQ:=
 if aaG (ds.getD i ⟨0,0⟩) (ds.getD ((i+1)%ds.length) ⟨0,0⟩)=0∧2<ds.length then []
 else if Int.sign ((ds.getD i ⟨0,0⟩).cross (ds.getD ((i+1)%ds.length) ⟨0,0⟩)).num=0 then [agc (ds.getD i ⟨0,0⟩)]
 else [aeS (axH (ds.getD i ⟨0,0⟩)) (axH (ds.getD ((i+1)%ds.length) ⟨0,0⟩)) 1]
def azK(ds:List PtQ):List PtQ:=if ds.length=0 then [⟨1,0⟩] else(List.range ds.length).flatMap (aBM ds)
def aw4(L:List LnQ)(p:PtQ):List PtQ:=azK (azG (azx L p))
theorem aiG{ds:List PtQ}{i:Nat}(h:i<ds.length):ds.getD i ⟨0,0⟩=ds[i]:=by
 rw[aK,aJ h,jW]
def aCm(t:Tr)(p:PtQ):Bool:=(aw4 (aeJ t.lns) p).any fun v=>(aeQ t p v).1
def aCn(t:Tr)(p:PtQ):Bool:=(aw4 (aeJ t.lns) p).all fun v=>(aeQ t p v).1
/-! ### witnesses -/
theorem ahZ{z:Rat}(h:z<0):Int.sign z.num= -1:=by
 have:=(afN _).2 h
 rcases jN z.num 0 with q|q|q
 ·exact dJ q
 ·rw[q] at this;simp at this
 ·rw[dV q] at this;simp at this
def ajW:Tr→PtQ→List LnQ
 | .leaf _,_=>[]
 | .node l x y,p=>(if Int.sign (l.value p).num=0 then [l] else [])++((if 0≤Int.sign (l.value p).num then ajW x p else [])++(if Int.sign (l.value p).num≤0 then ajW y p else []))
theorem abM: ∀{t:Tr} {p:PtQ} {l:LnQ},l∈ajW t p→l∈t.lns∧l.value p=0
 | .leaf _,p,l,h=>by cases h
 | .node m x y,p,l,h=>by
  rw[ajW,bS,bS] at h
  rcases h with h|h|h
  ·split at h
   ·rw[aN] at h;subst h
    rename_i k;exact⟨aQ,(abO _).1 k⟩
   ·cases h
  ·split at h
   ·have:=abM h;exact⟨aZ _ (bW _ this.1),this.2⟩
   ·cases h
  ·split at h
   ·have:=abM h;exact⟨aZ _ (bR _ this.1),this.2⟩
   ·cases h
theorem axB{t:Tr}{p v:PtQ}(h:Gn t.lns p v):Gn (ajW t p) p v:=fun l hl hz=>h l (abM hl).1 hz
theorem afj: ∀{t:Tr} {p v w:PtQ},(∀l∈ajW t p,Int.sign (l.nor.dot v).num=Int.sign (l.nor.dot w).num)→aeQ t p v=aeQ t p w
 | .leaf _,_,_,_,_=>rfl
 | .node l x y,p,v,w,h=>by
  have hx:0≤Int.sign (l.value p).num→aeQ x p v=aeQ x p w:=fun k=>afj fun m hm=>h m (by rw[ajW,bS,bS,if_pos k];exact .inr (.inl hm))
  have hy:Int.sign (l.value p).num≤0→aeQ y p v=aeQ y p w:=fun k=>afj fun m hm=>h m (by rw[ajW,bS,bS,if_pos k];exact .inr (.inr hm))
  rw[aeQ,aeQ,acN,acN]
  by_cases k:Int.sign (l.value p).num=0
  ·rw[if_pos k,if_pos k,←h l (by rw[ajW,if_pos k];exact aQ),hx (by omega),hy (by omega)]
  ·rw[if_neg k,if_neg k]
   generalize Int.sign (l.value p).num=s at*
   split
   ·exact hx (by decide)
   ·exact hy (by decide)
   ·rfl
theorem ary{L M:List LnQ}{p v:PtQ}(hM: ∀l∈M,l.ok)(hL:Gn L p v): ∃w,Gn M p w∧ ∀l∈L,l.value p=0→Int.sign (l.nor.dot v).num=Int.sign (l.nor.dot w).num:=by
 have e2: ∀l:LnQ,l.value p=0→l.value (aeS p v 1)=l.nor.dot v:=fun l hz=>by rw[ab2,hz];grind
 have hp':InD ((L.filter fun l=>decide (l.value p=0)).map fun l=>(⟨if 0<l.value (aeS p v 1) then l else l.rev,IvQ.all⟩:FrQ)) (aeS p v 1):=fun s hs=>by
  obtain⟨l,hl,rfl⟩:=bM.1 hs
  obtain⟨h1,h2⟩:=lZ.1 hl
  have h3:=of_decide_eq_true h2
  have h0:l.value (aeS p v 1)≠0:=by rw[e2 l h3];exact hL l h1 h3
  simp only
  split
  ·assumption
  ·rw[ad7];grind
 obtain⟨q,q1,q2⟩:=amk hp' M hM
 have e: ∀l:LnQ,l.value p=0→l.value q=l.nor.dot ⟨q.x-p.x,q.y-p.y⟩:=fun l hz=>by
  have h1:=ab2 l p ⟨q.x-p.x,q.y-p.y⟩ 1
  rw[hz] at h1
  have h2:aeS p ⟨q.x-p.x,q.y-p.y⟩ 1=q:=by
   unfold aeS
   cases q
   simp only[PtQ.mk.injEq]
   constructor<;>grind
  rw[h2] at h1
  rw[h1];grind
 refine⟨⟨q.x-p.x,q.y-p.y⟩,fun m hm hz=>?_,fun l hl hz=>?_⟩
 ·rw[←e m hz];exact q2 m hm
 ·have h1:=q1 _ (bM.2 ⟨l,lZ.2 ⟨hl,decide_eq_true hz⟩,rfl⟩)
  simp only at h1
  rw[e2 l hz] at h1
  rw[←e l hz]
  have h0:=hL l hl hz
  split at h1
  ·rename_i k
   rw[(acK _).2 k,(acK _).2 h1]
  ·rename_i k
   rw[ad7] at h1
   rw[ahZ (by grind),ahZ (by grind)]
def aqE(t:Tr)(p:PtQ)(b:Bool):Prop:= ∃v,Gn (ajW t p) p v∧(aeQ t p v).1=b
theorem atb{t:Tr}{p w:PtQ}(h:Gn t.lns p w):aqE t p (aeQ t p w).1:=⟨w,axB h,rfl⟩
theorem au7{t:Tr}{p:PtQ}{b:Bool}(h:aqE t p b){M:List LnQ}(hM: ∀l∈M,l.ok): ∃w,Gn M p w∧(aeQ t p w).1=b:=by
 obtain⟨v,h1,h2⟩:=h
 obtain⟨w,k1,k2⟩:=ary hM h1
 exact⟨w,k1,by rw[←h2,afj fun l hl=>k2 l hl (abM hl).2]⟩
theorem min2{a b:Rat}(ha:0<a)(hb:0<b): ∃d:Rat,0<d∧d≤a∧d≤b:=by
 by_cases k:a≤b
 ·exact⟨a,ha,by grind,k⟩
 ·exact⟨b,hb,by grind,by grind⟩
theorem atu{m a b:Tr}{f:Bool→Bool→Bool}(hm:m.all LnQ.ok)(ha:a.all LnQ.ok)(hb:b.all LnQ.ok)(hf: ∀q,Off m.lns q→Off a.lns q→Off b.lns q→m.val q=f (a.val q) (b.val q)){p:PtQ}{c:Bool}(h:aqE m p c): ∃x y,aqE a p x∧aqE b p y∧f x y=c:=by
 obtain⟨w,k1,k2⟩:=au7 h (M:=m.lns++(a.lns++b.lns)) fun l hl=>(bS.1 hl).elim (adV hm l) fun hl=>(bS.1 hl).elim (adV ha l) (adV hb l)
 have gm:Gn m.lns p w:=fun l hl=>k1 l (bW _ hl)
 have ga:Gn a.lns p w:=fun l hl=>k1 l (bR _ (bW _ hl))
 have gb:Gn b.lns p w:=fun l hl=>k1 l (bR _ (bR _ hl))
 obtain⟨e1,a1,b1⟩:=aeZ gm
 obtain⟨e2,a2,b2⟩:=aeZ ga
 obtain⟨e3,a3,b3⟩:=aeZ gb
 obtain⟨d1,c1,c2,c3⟩:=min2 a1 a2
 obtain⟨d,c4,c5,c6⟩:=min2 c1 a3
 obtain⟨o1,v1⟩:=b1 d c4 (by grind)
 obtain⟨o2,v2⟩:=b2 d c4 (by grind)
 obtain⟨o3,v3⟩:=b3 d c4 (by grind)
 refine⟨_,_,atb ga,atb gb,?_⟩
 rw[v2,v3,←hf _ o1 o2 o3,←k2,v1]
/-! ### sectors -/
def amU(ds:List PtQ)(i:Nat):PtQ:=
 if 0<Int.sign ((ds.getD i ⟨0,0⟩).cross (ds.getD ((i+1)%ds.length) ⟨0,0⟩)).num then(ds.getD i ⟨0,0⟩).add (ds.getD ((i+1)%ds.length) ⟨0,0⟩) else agc (ds.getD i ⟨0,0⟩)
def adY(ds:List PtQ):List PtQ:=if ds.length=0 then [⟨1,0⟩] else(List.range ds.length).map (amU ds)
theorem apg(u w:PtQ):u.add w=btw 1 1 u w:=by
 unfold PtQ.add btw
 simp only[PtQ.mk.injEq]
 constructor<;>grind
theorem al9{x:PtQ}: ∀{S:List PtQ},S≠[]→(∀d∈S,0<d.cross x)→ ∃u∈S,∀d∈S,0≤d.cross u
 |[],h,_=>absurd rfl h
 |[d],_,_=>⟨d,aQ,fun e he=>by rw[aN] at he;subst he;rw[ah0];exact lM⟩
 |d0::d1::S,_,h=>by
  obtain⟨u,h1,h2⟩:=al9 (S:=d1::S) (by simp) fun d hd=>h d (aZ _ hd)
  by_cases k:0≤d0.cross u
  ·exact⟨u,aZ _ h1,fun d hd=>(aS.1 hd).elim (fun e=>e▸k) (h2 d)⟩
  ·refine⟨d0,aQ,fun d hd=>(aS.1 hd).elim (fun e=>by rw[e,ah0];exact lM) fun hd=>?_⟩
   have p0:=h d0 aQ
   have pu:=h u (aZ _ h1)
   have pd:=h d (aZ _ hd)
   have k1:=h2 d hd
   have k2:0<u.cross d0:=by rw[aav] at k;grind
   have e:d.cross d0*u.cross x=u.cross d0*d.cross x+d.cross u*d0.cross x:=by unfold PtQ.cross;grind
   have n1:=aae k2 pd
   have n2:=aai k1 (iM p0)
   generalize d.cross d0=A at*
   generalize u.cross x=B at*
   by_cases hA:0≤A
   ·exact hA
   ·have:=aae (a:= -A) (b:=B) (by grind) pu
    grind
theorem aqS{ds:List PtQ}(h:ds.Pairwise Bef)(hd:asF ds)(hn:ds≠[]){x:PtQ}(hx: ∀d∈ds,d.cross x≠0): ∃i,i<ds.length∧ ∀d∈ds,Int.sign (d.cross x).num=Int.sign (d.cross (amU ds i)).num:=by
 have hne:(ds.filter fun d=>decide (0<d.cross x))≠[]:=by
  obtain⟨d,r,rfl⟩:=List.exists_cons_of_ne_nil hn
  intro e
  have h1: ¬0<d.cross x:=fun k=>by
   have:d∈(d::r).filter fun d=>decide (0<d.cross x):=lZ.2 ⟨aQ,decide_eq_true k⟩
   rw[e] at this;cases this
  have h2:=hx d aQ
  have h3:0<(abT d).cross x:=by rw[aav,abm,←aav];grind
  have:abT d∈(d::r).filter fun d=>decide (0<d.cross x):=lZ.2 ⟨hd.neg d aQ,decide_eq_true h3⟩
  rw[e] at this;cases this
 obtain⟨u,hu,hl⟩:=al9 hne fun d hd=>of_decide_eq_true (lZ.1 hd).2
 obtain⟨hu1,hu2⟩:=lZ.1 hu
 have hux:=of_decide_eq_true hu2
 obtain⟨i,hi,rfl⟩:=nM hu1
 have hj:(i+1)%ds.length<ds.length:=cS _ (by omega)
 have hnx:=asQ h hd hi hj
 have mw:=fM hj
 refine⟨i,hi,?_⟩
 have key: ∀d∈ds,0<d.cross x→0<d.cross (amU ds i):=fun d hdm hdx=>by
  have hdu:0≤d.cross ds[i]:=hl d (lZ.2 ⟨hdm,decide_eq_true hdx⟩)
  unfold amU
  rw[aiG hi,aiG hj]
  generalize ds[(i+1)%ds.length]=w at*
  generalize ds[i]=u at*
  have hp:=hnx.pos hd hu1 mw
  have zd:=hd.nz d hdm
  have zu:=hd.nz u hu1
  split
  ·rename_i k
   have hc:=(acy _).1 k
   rw[apg]
   have hg:=hnx.gen hd hu1 mw (by grind) (a:=1) (b:=1) (by decide) (by decide) d hdm
   have e:d.cross (btw 1 1 u w)=d.cross u+d.cross w:=by unfold PtQ.cross btw;grind
   rw[e] at hg⊢
   by_cases hw:0≤d.cross w
   ·grind
   ·exfalso
    -- -d lies between u and w
    rcases aaU (d.cross u) with q|q|q
    ·-- d runs along u
     have hdd:0<d.dot u:=by
      rcases aaU (d.dot u) with r|r|r
      ·exact absurd r (amx zd zu q)
      ·exact r
      ·exfalso
       have q':(abT d).cross u=0:=by unfold PtQ.cross abT at*;grind
       have r':0<(abT d).dot u:=by unfold PtQ.dot abT at*;grind
       obtain⟨g,g1,g2⟩:=af0 q' r'
       have:d.cross x= -(g*u.cross x):=by
        have h1:(abT d).x=g*u.x:=by rw[g2]
        have h2:(abT d).y=g*u.y:=by rw[g2]
        unfold abT at h1 h2
        simp only at h1 h2
        unfold PtQ.cross;grind
       have:=aae g1 hux
       grind
     obtain⟨g,g1,g2⟩:=af0 q hdd
     have:d.cross w=g*u.cross w:=by rw[g2];unfold PtQ.cross;grind
     have:=aae g1 hc
     grind
    ·have hb:abT d=btw (-(d.cross w)/u.cross w) (d.cross u/u.cross w) u w:=by
      have hz:u.cross w≠0:=by grind
      have e1: -(d.cross w)/u.cross w*u.cross w= -(d.cross w):=by grind
      have e2:d.cross u/u.cross w*u.cross w=d.cross u:=by grind
      unfold abT btw
      generalize-(d.cross w)/u.cross w=a at*
      generalize d.cross u/u.cross w=b at*
      simp only[PtQ.mk.injEq]
      have f1:(a*u.x+b*w.x+d.x)*u.cross w=0:=by
       have:(a*u.x+b*w.x+d.x)*u.cross w=a*u.cross w*u.x+b*u.cross w*w.x+d.x*u.cross w:=by grind
       rw[this,e1,e2];unfold PtQ.cross;grind
      have f2:(a*u.y+b*w.y+d.y)*u.cross w=0:=by
       have:(a*u.y+b*w.y+d.y)*u.cross w=a*u.cross w*u.y+b*u.cross w*w.y+d.y*u.cross w:=by grind
       rw[this,e1,e2];unfold PtQ.cross;grind
      constructor<;>grind
     refine hnx.none hd hu1 mw (by grind) (a:= -(d.cross w)/u.cross w) (b:=d.cross u/u.cross w) ?_ ?_ (by rw[←hb];exact hd.neg d hdm)
     ·refine(aaw (k:=u.cross w) hc).1 ?_
      have e1: -(d.cross w)/u.cross w*u.cross w= -(d.cross w):=by grind
      rw[e1];grind
     ·refine(aaw (k:=u.cross w) hc).1 ?_
      have e1:d.cross u/u.cross w*u.cross w=d.cross u:=by grind
      rw[e1];exact q
    ·grind
  ·rename_i k
   have hc:u.cross w=0:=by have: ¬0<u.cross w:=fun e=>k ((acy _).2 e);grind
   have hg:=hnx.turn hd hu1 mw hc d hdm
   rw[aig] at hg⊢
   rcases aaU (d.dot u) with r|r|r
   ·exact absurd r hg
   ·exact r
   ·exfalso
    -- all directions run along u
    have hdc:d.cross u=0:=by
     rcases hnx.spec hd hu1 mw with⟨_,h2,_⟩|⟨h1,h2,h3⟩
     ·rw[hc] at h2;exact absurd h2 (by decide)
     ·have zw:=abA (hd.nz w mw)
      have zu':=abA zu
      have zd':=abA zd
      have hwu: ∃g:Rat,0<g∧w=⟨g*(abT u).x,g*(abT u).y⟩:=by
       refine af0 (d:=abT u) (e:=w) (by rw[abm,aav,hc];grind) ?_
       rcases aaU (w.dot u) with s|s|s
       ·exact absurd s (amx (hd.nz w mw) zu (by rw[aav,hc];rfl))
       ·exfalso
        obtain⟨g,g1,g2⟩:=af0 (d:=u) (e:=w) (by rw[aav,hc];rfl) s
        apply h1
        rw[g2]
        rcases aaP u with⟨x0,s0⟩|⟨x0,s0⟩|⟨x0,s0⟩
        ·rw[x0]
         refine(adT.2 ?_).symm
         rcases s0 with s0|⟨s0,s1⟩
         ·exact .inl (aae g1 s0)
         ·exact .inr ⟨by show g*u.y=0;rw[s0];grind,aae g1 s1⟩
        ·rw[x0]
         refine(adO.2 ?_).symm
         rcases s0 with s0|⟨s0,s1⟩
         ·exact .inl (by show g*u.y<0;have:=aae (a:=g) (b:= -u.y) g1 (by grind);grind)
         ·exact .inr ⟨by show g*u.y=0;rw[s0];grind,by show g*u.x<0;have:=aae (a:=g) (b:= -u.x) g1 (by grind);grind⟩
        ·exact absurd x0 zu
       ·unfold PtQ.dot abT at*;grind
      obtain⟨g,g1,g2⟩:=hwu
      have cw: ∀e:PtQ,w.cross e=g* -(u.cross e):=fun e=>by rw[g2];unfold PtQ.cross abT;grind
      by_cases hh:d.half=u.half
      ·have a1:=h2 d hdm hh
       have a2:=h3 _ (hd.neg d hdm) (by rw[ac4 zd];omega)
       rw[cw,abm,aav d u] at a2
       rcases aaU (d.cross u) with s|s|s
       ·exact s
       ·have:=aae g1 s;grind
       ·grind
      ·have a1:=h2 _ (hd.neg d hdm) (by rw[ac4 zd];omega)
       have a2:=h3 d hdm (by omega)
       rw[cw,aav d u] at a2
       have e3:(abT d).cross u= -(d.cross u):=by unfold PtQ.cross abT;grind
       rw[e3] at a1
       rcases aaU (d.cross u) with s|s|s
       ·exact s
       ·grind
       ·have:=aae (a:=g) (b:= -(d.cross u)) g1 (by grind);grind
    have q':(abT d).cross u=0:=by unfold PtQ.cross abT at*;grind
    have r':0<(abT d).dot u:=by unfold PtQ.dot abT at*;grind
    obtain⟨g,g1,g2⟩:=af0 q' r'
    have:d.cross x= -(g*u.cross x):=by
     have h1:(abT d).x=g*u.x:=by rw[g2]
     have h2:(abT d).y=g*u.y:=by rw[g2]
     unfold abT at h1 h2
     simp only at h1 h2
     unfold PtQ.cross;grind
    have:=aae g1 hux
    grind
 intro d hdm
 rcases aaU (d.cross x) with k|k|k
 ·exact absurd k (hx d hdm)
 ·rw[(acK _).2 k,(acK _).2 (key d hdm k)]
 ·have en: ∀y:PtQ,(abT d).cross y= -(d.cross y):=fun y=>by unfold PtQ.cross abT;grind
  have:=key _ (hd.neg d hdm) (by rw[en];grind)
  rw[en] at this
  rw[ahZ k,ahZ (by grind)]
end Go.Sx
end
