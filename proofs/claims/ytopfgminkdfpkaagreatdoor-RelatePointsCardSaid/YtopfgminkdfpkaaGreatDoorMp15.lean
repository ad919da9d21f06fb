/- Part 15 of a proof. -/
import Derived.Test.YtopfgminkdfpkaaGreatDoorMp14
set_option linter.unusedSimpArgs false
set_option maxHeartbeats 4000000
set_option maxRecDepth 100000
set_option linter.unusedVariables false
section
namespace Go.Sx
open Go Go.Proofs Tryz
variable {GB:Gh}
theorem awS{es:List Int}{a:Nat}(h:a<es.length):(es.map vI)[(a:Int).toNat]? =some (vI es[a]):=by simp[h]
theorem awZ:eP (iP 0 0)= .ag [.v (.bool false), .sl [], .sl [], .v (.bool false), .sl [], .sl []]:=by
 unfold eP iP
 simp[adq,dD]
theorem aB2{m n p q:Int}(hm:m.natAbs≤4)(hn:n.natAbs≤4)(hp:p.natAbs≤4)(hq:q.natAbs≤4)(h: ¬(p=0∧q=0)):LS (arr m n (m+1*p) (n+1*q)):=by
 have e1:au2 n (n+1*q)= -q:=by unfold au2;omega
 have e2:au3 m (m+1*p)=p:=by unfold au3;omega
 have e3:((-q)*m).natAbs≤4*4:=by rw[iY];exact gS (by omega) hm
 have e4:(p*n).natAbs≤4*4:=by rw[iY];exact gS hp hn
 have e5:az4 m n (m+1*p) (n+1*q)= -((-q)*m+p*n):=by unfold az4;rw[e1,e2]
 unfold arr
 obtain⟨k1,k2,k3⟩:=ayw (au2 n (n+1*q)) (au3 m (m+1*p)) (az4 m n (m+1*p) (n+1*q))
 exact⟨axs (by rw[e1,e2];omega),cW k1 (by rw[e1];omega),cW k2 (by rw[e2];omega),cW k3 (by rw[e5];omega)⟩
def aaf(es:List Int)(n:Int)(a:Nat):Nat×Nat:=
 if h:a<es.length then((if Int.tmod es[a] n<0 then Int.tmod es[a] n+n else Int.tmod es[a] n).toNat,a+1) else(0,a)
theorem abE{es:List Int}{n:Int}{a:Nat}(hn:1≤n):((aaf es n a).1:Int)<n:=by
 unfold aaf
 split
 ·rename_i h
  have q2:=Int.tmod_lt_of_pos es[a] (show 0<n by omega)
  dsimp only
  split<;>omega
 ·exact hn
theorem aaG{es:List Int}{n:Int}{a:Nat}(ha:a≤es.length):(aaf es n a).2≤es.length:=by
 unfold aaf
 split
 ·assumption
 ·exact ha
def pF(es:List Int)(a:Nat):(Int×Int)×Nat:=((((aaf es 9 a).1:Int)-4,((aaf es 9 (aaf es 9 a).2).1:Int)-4),(aaf es 9 (aaf es 9 a).2).2)
theorem amw{es:List Int}{a:Nat}(ha:a≤es.length):(pF es a).1.1.natAbs≤4∧(pF es a).1.2.natAbs≤4∧(pF es a).2≤es.length:=by
 have h1:=abE (es:=es) (n:=9) (a:=a) (by decide)
 have h2:=abE (es:=es) (n:=9) (a:=(aaf es 9 a).2) (by decide)
 have h3:=aaG (n:=9) (aaG (es:=es) (n:=9) ha)
 unfold pF
 exact⟨by dsimp only;omega,by dsimp only;omega,h3⟩
def vF(es:List Int)(a:Nat):(Int×Int)×Nat:=if(pF es a).1.1=0∧(pF es a).1.2=0 then((1,0),(pF es a).2) else pF es a
theorem arm{es:List Int}{a:Nat}(ha:a≤es.length):(vF es a).1.1.natAbs≤4∧(vF es a).1.2.natAbs≤4∧ ¬((vF es a).1.1=0∧(vF es a).1.2=0)∧(vF es a).2≤es.length:=by
 obtain⟨h1,h2,h3⟩:=amw ha
 unfold vF
 split
 ·exact⟨show(1:Int).natAbs≤4 by decide,show(0:Int).natAbs≤4 by decide,show¬((1:Int)=0∧(0:Int)=0) by decide,h3⟩
 ·rename_i h;exact⟨h1,h2,h,h3⟩
def lF(es:List Int)(a:Nat):LnQ×Nat:=(arr (pF es a).1.1 (pF es a).1.2 ((pF es a).1.1+1*(vF es (pF es a).2).1.1) ((pF es a).1.2+1*(vF es (pF es a).2).1.2),(vF es (pF es a).2).2)
theorem aoS{es:List Int}{a:Nat}(ha:a≤es.length):LS (lF es a).1∧(lF es a).2≤es.length:=by
 obtain⟨h1,h2,h3⟩:=amw ha
 obtain⟨k1,k2,k3,k4⟩:=arm h3
 exact⟨aB2 h1 h2 k1 k2 k3,k4⟩
def abB(es:List Int):Nat→Nat→Tr×Nat
 |0,a=>(.leaf (decide (((aaf es 2 a).1:Int)=1)),(aaf es 2 a).2)
 |d+1,a=>if((aaf es 4 a).1:Int)=0 then(.leaf (decide (((aaf es 2 (aaf es 4 a).2).1:Int)=1)),(aaf es 2 (aaf es 4 a).2).2) else
  (.node (lF es (aaf es 4 a).2).1 (abB es d (lF es (aaf es 4 a).2).2).1 (abB es d (abB es d (lF es (aaf es 4 a).2).2).2).1,(abB es d (abB es d (lF es (aaf es 4 a).2).2).2).2)
theorem agN{es:List Int}: ∀{d a:Nat},a≤es.length→(abB es d a).1.depth≤d∧(abB es d a).1.all LnQ.ok∧(abB es d a).1.all (fun l=>BL l 96)∧(abB es d a).2≤es.length
 |0,a,ha=>⟨bZ _,trivial,trivial,aaG ha⟩
 |d+1,a,ha=>by
  have h4:=aaG (n:=4) ha
  unfold abB
  split
  ·exact⟨bZ _,trivial,trivial,aaG h4⟩
  ·obtain⟨hl,h5⟩:=aoS h4
   obtain⟨d1,o1,b1,h6⟩:=agN (d:=d) h5
   obtain⟨d2,o2,b2,h7⟩:=agN (d:=d) h6
   exact⟨by show 1+max _ _≤_;omega,⟨hl.ok,o1,o2⟩,⟨hl.bl,b1,b2⟩,h7⟩
theorem ab5{b:Nat}{es:List Int}(hes:es.length≤400){a:Nat}(ha:a≤es.length){n:Int}(hn:1≤n)(hn2:n≤1000):PM GB prog 42 (mkP [none,some (.v (.int .i64 n))] b) b 94 [.sl (es.map vI), .v (.int .i64 (a:Nat))] (.v (.int .i64 ((aaf es n a).1:Nat))) [.sl (es.map vI), .v (.int .i64 ((aaf es n a).2:Nat))]:=by
 have hel:(es.map vI).length=es.length:=by simp
 refine fnM func42 J J ntmps42 J J (fun C b m lo hmb=>?_)
 refine br J J J (fun hc15=>?_) (fun hc15=>?_)
 ·
  have hf:aaf es n a=(0,a):=by unfold aaf;rw[dif_neg (by omega)]
  exact rzM hmb J J (by rw[hf]<;>rfl) (by rw[hf]<;>rfl)
 ·
  have hal:a<es.length:=by omega
  obtain⟨e,he⟩: ∃e,e=es[a]:=⟨_,rfl⟩
  have q2:=Int.tmod_lt_of_pos e (show 0<n by omega)
  have q3: -n<Int.tmod e n:=by have:=Int.lt_tmod_of_pos e (show 0<n by omega);omega
  refine ix (fu:=⟨1⟩) _ rfl (awS hal) rfl<|?_
  refine eqF 25 (.d (vI e)) rfl (by rw[he]<;>rfl) ?_
  refine gx (hv:=by simp only[aag];exact⟨⟨by omega,by kernel_rfl⟩,by omega⟩) rfl<|?_
  refine br J J J (fun hc36=>?_) (fun hc36=>?_)
  ·
   have hf:aaf es n a=((Int.tmod e n+n).toNat,a+1):=by unfold aaf;rw[dif_pos hal,←he,if_pos hc36]
   exact rzM hmb J J (by rw[hf];show DV.v (.int .i64 _)=DV.v (.int .i64 _);rw[pZ (by omega)]) (by rw[hf]<;>rfl)
  ·
   have hf:aaf es n a=((Int.tmod e n).toNat,a+1):=by unfold aaf;rw[dif_pos hal,←he,if_neg hc36]
   exact rzM hmb J J (by rw[hf];show DV.v (.int .i64 _)=DV.v (.int .i64 _);rw[pZ (by omega)]) (by rw[hf]<;>rfl)
theorem aDw{b:Nat}{es:List Int}(hes:es.length≤400){a:Nat}(ha:a≤es.length):PM GB prog 99 (mkP [none] b) b 94 [.sl (es.map vI), .v (.int .i64 (a:Nat))] (eP (iP (pF es a).1.1 (pF es a).1.2)) [.sl (es.map vI), .v (.int .i64 ((pF es a).2:Nat))]:=by
 have h1:=abE (es:=es) (n:=9) (a:=a) (by decide)
 have h2:=abE (es:=es) (n:=9) (a:=(aaf es 9 a).2) (by decide)
 refine fnM func99 J J ntmps99 J J (fun C b m lo hmb=>?_)
 refine cm rfl (fun b=>(ab5 (n:=9) hes ha (by decide) (by decide))) rfl<|cm rfl (fun b=>(ab5 (n:=9) hes (aaG ha) (by decide) (by decide))) rfl<|?_
 refine cl rfl (arx (m:=((aaf es 9 a).1:Int)-4) (n:=((aaf es 9 (aaf es 9 a).2).1:Int)-4) (by omega) (by omega)) rfl<|?_
 exact rzM hmb J J J J
theorem aEI{b:Nat}{es:List Int}(hes:es.length≤400){a:Nat}(ha:a≤es.length):PM GB prog 102 (mkP [none] b) b 94 [.sl (es.map vI), .v (.int .i64 (a:Nat))] (eP (iP (vF es a).1.1 (vF es a).1.2)) [.sl (es.map vI), .v (.int .i64 ((vF es a).2:Nat))]:=by
 obtain⟨hm,hn,ha1⟩:=amw ha
 refine fnM func102 J J ntmps102 J J (fun C b m lo hmb=>?_)
 refine cm (fu:=⟨9⟩) rfl (fun b=>(aDw hes ha)) rfl<|?_
 refine eqF 7 (.d (eP (iP 0 0))) rfl (by rw[awZ]<;>rfl) ?_
 refine gx rfl<|cl rfl (ak6 (m:=(pF es a).1.1) (n:=(pF es a).1.2) (m':=0) (n':=0) (by omega) (by omega) (by decide) (by decide)) rfl<|?_
 refine bd J J J (fun hc8=>?_) (fun hc8=>?_)
 ·
  have hf:vF es a=((1,0),(pF es a).2):=by unfold vF;rw[if_pos hc8]
  refine cl rfl (arx (m:=1) (n:=0) (by decide) (by decide)) rfl<|?_
  exact rzM hmb J J (by rw[hf]<;>rfl) (by rw[hf])
 ·
  have hf:vF es a=pF es a:=by unfold vF;rw[if_neg hc8]
  exact rzM hmb J J (by rw[hf]<;>rfl) (by rw[hf])
theorem aDv{b:Nat}{es:List Int}(hes:es.length≤400){a:Nat}(ha:a≤es.length):PM GB prog 43 (mkP [none] b) b 94 [.sl (es.map vI), .v (.int .i64 (a:Nat))] (eL (lF es a).1) [.sl (es.map vI), .v (.int .i64 ((lF es a).2:Nat))]:=by
 obtain⟨hm,hn,ha1⟩:=amw ha
 obtain⟨hp,hq,hz,ha2⟩:=arm ha1
 refine fnM func43 J J ntmps43 J J (fun C b m lo hmb=>?_)
 refine cm rfl (fun b=>(aDw hes ha)) rfl<|cl rfl (alz (n:=1) (by decide) (by decide)) rfl<|cm rfl (fun b=>(aEI hes ha1)) rfl<|cl rfl (apO (m:=(pF es a).1.1) (n:=(pF es a).1.2) (m':=(vF es (pF es a).2).1.1) (n':=(vF es (pF es a).2).1.2) (k:=1) (by omega) (by omega) (by omega) (by omega) (by decide)) rfl<|?_
 refine cl rfl (amj (m:=(pF es a).1.1) (n:=(pF es a).1.2) (m':=(pF es a).1.1+1*(vF es (pF es a).2).1.1) (n':=(pF es a).1.2+1*(vF es (pF es a).2).1.2) (by omega) (by omega) (by omega) (by omega) (by omega)) rfl<|?_
 exact rzM hmb J J J J
theorem ac4{p:Bool}:PF GB prog 14 [.v (.bool p)] (eT (.leaf p)):=by
 refine fn func14 J J ntmps14 J J (fun C=>?_)
 refine fzE 5 rfl ?_
 exact rz J J
theorem amV{b:Nat}{es:List Int}(hes:es.length≤400){a:Nat}(ha:a≤es.length){n:Int}(hn:n=0):PM GB prog 21 (mkP [none,some (.v (.int .i64 n))] b) b 94 [.sl (es.map vI), .v (.int .i64 (a:Nat))] (eT (abB es 0 a).1) [.sl (es.map vI), .v (.int .i64 ((abB es 0 a).2:Nat))]:=by
 refine fnM (fu:=⟨10⟩) func21 J J ntmps21 J J (fun C b m lo hmb=>?_)
 refine kT 8 rfl (by omega) ?_
 refine gx rfl<|cm rfl (fun b=>(ab5 (n:=2) hes ha (by decide) (by decide))) rfl<|cl rfl (ac4 (p:=decide (((aaf es 2 a).1:Int)=1))) rfl<|?_
 exact rzM hmb J J J J
theorem amo{b:Nat}{es:List Int}(hes:es.length≤400){a:Nat}(ha:a≤es.length){d:Nat}{n:Int}(hn:n=((d+1:Nat):Int))(hd:d≤100)(ih: ∀{GB:Gh} {b a:Nat} {n:Int},a≤es.length→n=(d:Int)→PM GB prog 21 (mkP [none,some (.v (.int .i64 n))] b) b 94 [.sl (es.map vI), .v (.int .i64 (a:Nat))] (eT (abB es d a).1) [.sl (es.map vI), .v (.int .i64 ((abB es d a).2:Nat))]):PM GB prog 21 (mkP [none,some (.v (.int .i64 n))] b) b 94 [.sl (es.map vI), .v (.int .i64 (a:Nat))] (eT (abB es (d+1) a).1) [.sl (es.map vI), .v (.int .i64 ((abB es (d+1) a).2:Nat))]:=by
 have h4:=aaG (n:=4) ha
 obtain⟨hl,h5⟩:=aoS h4
 have h6:=(agN (d:=d) h5).2.2.2
 refine fnM (fu:=⟨10⟩) func21 J J ntmps21 J J (fun C b m lo hmb=>?_)
 refine kF 8 rfl (by omega) ?_
 refine gx rfl<|cm rfl (fun b=>(ab5 (n:=4) hes ha (by decide) (by decide))) rfl<|?_
 refine br J J J (fun hc13=>?_) (fun hc13=>?_)
 ·
  have hf:abB es (d+1) a=_:=if_pos hc13
  refine cm rfl (fun b=>(ab5 (n:=2) hes h4 (by decide) (by decide))) rfl<|cl rfl (ac4 (p:=decide (((aaf es 2 (aaf es 4 a).2).1:Int)=1))) rfl<|?_
  exact rzM hmb J J (by rw[hf]<;>rfl) (by rw[hf])
 ·
  have hf:abB es (d+1) a=_:=if_neg hc13
  refine cm rfl (fun b=>(aDv hes h4)) rfl<|cm rfl (fun b=>(ih h5 (by omega))) rfl<|cm rfl (fun b=>(ih h6 (by omega))) rfl<|?_
  refine fzE 31 rfl ?_
  exact rzM hmb J J (by rw[hf]<;>rfl) (by rw[hf])
theorem auR{es:List Int}(hes:es.length≤400): ∀{d:Nat} {GB:Gh} {b a:Nat} {n:Int},d≤100→a≤es.length→n=(d:Int)→PM GB prog 21 (mkP [none,some (.v (.int .i64 n))] b) b 94 [.sl (es.map vI), .v (.int .i64 (a:Nat))] (eT (abB es d a).1) [.sl (es.map vI), .v (.int .i64 ((abB es d a).2:Nat))]
 |0,_,_,_,_,_,ha,hn=>amV hes ha hn
 |d+1,_,_,_,_,hd,ha,hn=>amo hes ha hn (by omega) (fun h1 h2=>auR hes (by omega) h1 h2)
theorem aoW{es:List Int}(hes:es.length≤400){a d b:Nat}(ha:a≤es.length)(hd:d≤100):PM GB prog 21 (mkP [none,some (.v (.int .i64 (d:Nat)))] b) b 94 [.sl (es.map vI), .v (.int .i64 (a:Nat))] (eT (abB es d a).1) [.sl (es.map vI), .v (.int .i64 ((abB es d a).2:Nat))]:=auR (GB:=GB) hes hd ha rfl
abbrev ZP:=Int×Int
def ZP.q(p:ZP):PtQ:=iP p.1 p.2
def ZP.le(k:Nat)(p:ZP):Prop:=p.1.natAbs≤k∧p.2.natAbs≤k
def aDM(p q:ZP):ZP:=(p.1+1*q.1,p.2+1*q.2)
def ajL(u v:ZP):Int:=u.1*v.2-u.2*v.1
theorem ayA{m n p q:Int}(hm:m.natAbs≤1000)(hn:n.natAbs≤1000)(hp:p.natAbs≤1000)(hq:q.natAbs≤1000)(h: ¬(p=m∧q=n)):LB (arr m n p q)∧(arr m n p q).ok:=by
 have e1:(au2 n q).natAbs≤2000:=by unfold au2;omega
 have e2:(au3 m p).natAbs≤2000:=by unfold au3;omega
 have e3:=afG e1 hm
 have e4:=afG e2 hn
 have e5:(az4 m n p q).natAbs≤4000000:=by unfold az4;omega
 unfold arr
 obtain⟨k1,k2,k3⟩:=ayw (au2 n q) (au3 m p) (az4 m n p q)
 have hb:(2:Nat)^96=79228162514264337593543950336:=by decide
 refine⟨⟨⟨?_,?_,?_⟩⟩,axs ?_⟩
 ·rw[hb];omega
 ·rw[hb];omega
 ·rw[hb];omega
 ·unfold au2 au3;omega
def avb(v w:ZP):FrQ:=⟨arr v.1 v.2 w.1 w.2,⟨acr (arr v.1 v.2 w.1 w.2) v.q,acr (arr v.1 v.2 w.1 w.2) w.q,false,false⟩⟩
def afZ(r:List ZP)(i:Nat):ZP:=r.getD ((i+1)%r.length) (0,0)
def agL(r:List ZP):Nat→List FrQ
 |0=>[]
 |k+1=>agL r k++[avb (r.getD k (0,0)) (afZ r k)]
def adc(r:List ZP):List FrQ:=agL r r.length
structure aby (r:List ZP):Prop where
 n3:3≤r.length
 n6:r.length≤6
 le: ∀p∈r,ZP.le 100 p
 ne: ∀i<r.length,r.getD i (0,0)≠afZ r i
theorem ain{r:List ZP}{i:Nat}(h:i<r.length):r.getD i (0,0)∈r:=by
 rw[aK,aZ h];exact cK h
theorem ajb{r:List ZP}{i:Nat}(h:i<r.length):afZ r i∈r:=ain (dZ _ (by omega))
theorem ann{l:LnQ}(hl:LB l)(ho:l.ok){m n:Int}(hm:m.natAbs≤1000)(hn:n.natAbs≤1000):BQ (acr l (iP m n)) 1200:=by
 haveI:=biC (k:=11) hm (by decide)
 haveI:=biC (k:=11) hn (by decide)
 have hd:=anE ho.ne
 have hA:BI (l.a*l.a+l.b*l.b) _:=inferInstance
 have hB:BI (m*l.b-n*l.a) _:=inferInstance
 have hA':=apM (j:=1200) hA (by decide)
 have hB':=apM (j:=1200) hB (by decide)
 have e1:l.dir.dot l.dir=((l.a*l.a+l.b*l.b:Int):Rat):=by
  rw[pS,eK,eK]
  simp only[LnQ.dir,PtQ.dot];grind
 have e2:(iP m n).dot l.dir=((m*l.b-n*l.a:Int):Rat):=by
  rw[pR,eK,eK]
  simp only[LnQ.dir,PtQ.dot,iP];grind
 have hd':((0:Int):Rat)<((l.a*l.a+l.b*l.b:Int):Rat):=by rw[←e1];exact hd
 unfold acr
 rw[e2,e1]
 clear hA hB e1 e2
 generalize l.a*l.a+l.b*l.b=D at*
 generalize m*l.b-n*l.a=M at*
 have hD:0<D:=Rat.intCast_lt_intCast.1 hd'
 refine BQ.of_fracI (n:=M) (D:=D) (by omega) ?_ hB' hA'
 have h0:(D:Rat)≠0:=fun e=>by rw[e] at hd';exact absurd hd' (by decide)
 have:((D.natAbs:Nat):Rat)=(D:Rat):=by
  have h1:((D.natAbs:Nat):Int)=D:=by omega
  rw[←h1];rfl
 rw[this]
 grind
theorem ay0{v w:ZP}(hv:ZP.le 100 v)(hw:ZP.le 100 w)(h:v≠w):FOk (avb v w):=by
 obtain⟨h1,h2⟩:=ayA (m:=v.1) (n:=v.2) (p:=w.1) (q:=w.2) (by have:=hv.1;omega) (by have:=hv.2;omega) (by have:=hw.1;omega) (by have:=hw.2;omega) (fun e=>h (Prod.ext e.1.symm e.2.symm))
 exact⟨h1,h2,⟨fun e=>(by cases e),fun e=>(by cases e)⟩,ann h1 h2 (by have:=hv.1;omega) (by have:=hv.2;omega),ann h1 h2 (by have:=hw.1;omega) (by have:=hw.2;omega)⟩
theorem ajM{r:List ZP}(h:aby r): ∀{k:Nat},k≤r.length→(agL r k).length=k∧ ∀f∈agL r k,FOk f
 |0,_=>⟨rfl,fun f hf=>by cases hf⟩
 |k+1,hk=>by
  obtain⟨h1,h2⟩:=ajM h (k:=k) (by omega)
  rw[agL]
  refine⟨by simp[h1],fun f hf=>?_⟩
  rcases bK.1 hf with hf|hf
  ·exact h2 f hf
  ·rw[aU] at hf;subst hf
   exact ay0 (h.le _ (ain (by omega))) (h.le _ (ajb (by omega))) (h.ne k (by omega))
theorem alY{r:List ZP}(h:aby r):(adc r).length=r.length∧ ∀f∈adc r,FOk f:=ajM h (bQ _)
def acG(rs:List (List ZP)):List FrQ:=rs.flatMap adc
theorem aeB: ∀{rs:List (List ZP)},(∀r∈rs,aby r)→(acG rs).length≤6*rs.length∧ ∀f∈acG rs,FOk f
 |[],_=>⟨bQ _,fun f hf=>by cases hf⟩
 |r::rs,h=>by
  obtain⟨h1,h2⟩:=aeB (rs:=rs) fun q hq=>h q (aX _ hq)
  obtain⟨k1,k2⟩:=alY (h r aQ)
  have:=(h r aQ).n6
  unfold acG at*
  rw[qS]
  refine⟨by rw[aV,k1,bV];omega,fun f hf=>?_⟩
  rcases bK.1 hf with hf|hf
  ·exact k2 f hf
  ·exact h2 f hf
def alM(a b c:PtQ):Int:=(PtQ.cross (adB b a (-1)) (adB c a (-1))).num.sign
def axe(v w p:PtQ):Int:=
 (if aa2 v.y p.y≤0∧ ¬aa2 w.y p.y≤0∧0<alM v w p then 1 else 0)-(if¬aa2 v.y p.y≤0∧aa2 w.y p.y≤0∧alM v w p<0 then 1 else 0)
def asO(r:List ZP)(p:PtQ):Nat→Int
 |0=>0
 |k+1=>asO r p k+axe (r.getD k (0,0)).q (afZ r k).q p
def avf(r:List ZP)(p:PtQ):Int:=asO r p r.length
def aAf(fill n:Int):Bool:=(decide (fill=1)&&decide (n.tmod 2≠0))||(decide (fill=2)&&decide (n≠0))
def inR(rs:List (List ZP))(fill:Int)(p:PtQ):Bool:=aAf fill (rs.foldl (fun n r=>n+avf r p) 0)
def aFn(rs:List (List ZP))(fill:Int):Tr:=al8 (inR rs fill) (acG rs).length (acG rs) []
def aiX(rs:List (List ZP))(fill:Int):Tr:=(aFn rs fill).restrict []
structure afW (k:Nat) (t:Tr):Prop where
 gd:t.gd
 dp:t.depth≤k
 am: ∃K:List LnQ,K.length≤k∧(∀l∈K,l.ok)∧adw K t
theorem ax0{acc:PtQ→Bool}{n:Nat}{l:List FrQ}(h: ∀f∈l,FOk f)(hn:l.length=n):afW n (al8 acc n l []):=
 ⟨⟨agp fun f hf=>(h f hf).lb,agp fun f hf=>(h f hf).ok⟩,ahx,l.map (·.l),by rw[aJ,hn];exact bQ _,fun m hm=>by
  obtain⟨f,hf,rfl⟩:=bU.1 hm;exact(h f hf).ok,agp fun f hf=>⟨f.l,pK hf, .inl rfl⟩⟩
theorem afW.restrict{k:Nat}{t:Tr}(h:afW k t)(c:aan):afW k (t.restrict c):=by
 obtain⟨K,h1,h2,h3⟩:=h.am
 exact⟨aop h.gd c,cW (t.restrict_depth c) h.dp,K,h1,h2,h3.restrict c⟩
theorem afW.compl{k:Nat}{t:Tr}(h:afW k t):afW k t.compl:=by
 obtain⟨K,h1,h2,h3⟩:=h.am
 exact⟨avJ h.gd,by rw[t.compl_depth];exact h.dp,K,h1,h2,h3.compl⟩
theorem afW.mono{j k:Nat}{t:Tr}(h:afW j t)(hk:j≤k):afW k t:=by
 obtain⟨K,h1,h2,h3⟩:=h.am
 exact⟨h.gd,cW h.dp hk,K,by omega,h2,h3⟩
theorem afW.merge{j k:Nat}{op:Int}{t u:Tr}(h:afW j t)(hu:afW k u):afW (j+k) (t.mergeQ op u []):=by
 obtain⟨K,h1,h2,h3⟩:=h.am
 obtain⟨M,k1,k2,k3⟩:=hu.am
 refine⟨⟨Tr.mergeQ_all LB op hu.gd.lb t [] h.gd.lb,Tr.mergeQ_all LnQ.ok op hu.gd.ok t [] h.gd.ok⟩,cW (Tr.mergeQ_depth op u t []) (by have:=h.dp;have:=hu.dp;omega),K++M,by rw[aV];omega,fun l hl=>(bK.1 hl).elim (h2 l) (k2 l),?_⟩
 exact(h3.mono fun l hl=>⟨l,bL _ hl, .inl rfl⟩).merge (k3.mono fun l hl=>⟨l,bY _ hl, .inl rfl⟩) []
theorem afW.merge_size{j k:Nat}{op:Int}{t u:Tr}(h:afW j t)(hu:afW k u):(t.mergeQ op u []).size≤(j+k)*(1+(j+k)):=by
 obtain⟨K,h1,h2,h3⟩:=h.am
 obtain⟨M,k1,k2,k3⟩:=hu.am
 have hle:(K++M).length≤j+k:=by rw[aV];omega
 refine cW (Tr.merge_size (K:=K++M) (op:=op) (fun l hl=>(bK.1 hl).elim (h2 l) (k2 l)) h.gd.ok hu.gd.ok (h3.mono fun l hl=>⟨l,bL _ hl, .inl rfl⟩) (k3.mono fun l hl=>⟨l,bY _ hl, .inl rfl⟩)) ?_
 exact gS hle (by omega)
theorem afW.lim{j k:Nat}{op:Int}{t u:Tr}(h:afW j t)(hu:afW k u)(hk:j+k≤200):art op t u=some (t.mergeQ op u []):=
 auB (by have:=h.dp;have:=hu.dp;omega) (cW (h.merge_size hu) (cW (gS hk (show 1+(j+k)≤201 by omega)) (by decide)))
theorem apE{rs:List (List ZP)}{fill:Int}(h: ∀r∈rs,aby r)(hn:rs.length≤3):afW 18 (aiX rs fill):=by
 obtain⟨h1,h2⟩:=aeB h
 exact((ax0 (acc:=inR rs fill) h2 rfl).restrict []).mono (by omega)
def az7(p q:ZP):Int:=if p.1<q.1 then-1 else if q.1<p.1 then 1 else if p.2<q.2 then-1 else if q.2<p.2 then 1 else 0
def awu(x:ZP):List ZP→List ZP
 |[]=>[x]
 |u::t=>if az7 u x<0 then u::awu x t else if az7 u x=0 then u::t else x::u::t
def ams(l:List ZP):List ZP:=l.foldl (fun out x=>awu x out) []
theorem apj{x:ZP}: ∀{l:List ZP},(awu x l).length≤l.length+1
 |[]=>bQ _
 |u::t=>by
  rw[awu]
  have:=apj (x:=x) (l:=t)
  split
  ·simp;omega
  ·split<;>simp
theorem aur(l:List ZP):(ams l).length≤l.length:=by
 have key: ∀(l o:List ZP),(l.foldl (fun out x=>awu x out) o).length≤l.length+o.length:=by
  intro l
  induction l with
  |nil=>intro o;simp
  |cons x t ih=>intro o;have:=ih (awu x o);have:=apj (x:=x) (l:=o);simp only[jR,bV];omega
 have:=key l []
 simpa[ams] using this
def agf(a b c d:Int):List ZP:=[(a,b),(c,b),(c,d),(a,d)]
theorem axn{r:List ZP}{i:Nat}(h:i+1<r.length):afZ r i=r.getD (i+1) (0,0):=by unfold afZ;rw[fZ h]
theorem aro{r:List ZP}{i:Nat}(h:i+1=r.length):afZ r i=r.getD 0 (0,0):=by unfold afZ;rw[h,Nat.mod_self]
theorem arM{a b c d:Int}(h1:a.natAbs≤50)(h2:b.natAbs≤50)(h3:c.natAbs≤50)(h4:d.natAbs≤50)(h5:a<c)(h6:b<d):aby (agf a b c d):=by
 refine⟨by simp[agf],by simp[agf],fun p hp=>?_,fun i hi=>?_⟩
 ·simp only[agf,aW,nT,or_false] at hp
  rcases hp with rfl|rfl|rfl|rfl<;>exact⟨by dsimp only;omega,by dsimp only;omega⟩
 ·have:i=0∨i=1∨i=2∨i=3:=by simp[agf] at hi;omega
  rcases this with rfl|rfl|rfl|rfl<;>simp[agf,afZ]<;>omega
def axt(p u v:ZP):List ZP:=[p,aDM p u,aDM p v]
theorem aBa{p u v:ZP}(h1:ZP.le 40 p)(h2:ZP.le 40 u)(h3:ZP.le 40 v)(h:ajL u v≠0):aby (axt p u v):=by
 obtain⟨p1,p2⟩:=p
 obtain⟨u1,u2⟩:=u
 obtain⟨v1,v2⟩:=v
 unfold ZP.le at h1 h2 h3
 dsimp only at h1 h2 h3
 unfold ajL at h
 dsimp only at h
 refine⟨by simp[axt],by simp[axt],fun p hp=>?_,fun i hi=>?_⟩
 ·simp only[axt,aDM,aW,nT,or_false] at hp
  rcases hp with rfl|rfl|rfl<;>exact⟨by dsimp only;omega,by dsimp only;omega⟩
 ·have:i=0∨i=1∨i=2:=by simp[axt] at hi;omega
  have hu: ¬(u1=0∧u2=0):=fun e=>h (by rw[e.1,e.2];simp)
  have hv: ¬(v1=0∧v2=0):=fun e=>h (by rw[e.1,e.2];simp)
  have huv: ¬(u1=v1∧u2=v2):=fun e=>h (by rw[e.1,e.2,Int.mul_comm];omega)
  rcases this with rfl|rfl|rfl<;>simp[axt,aDM,afZ]<;>omega
def apa(es:List Int):Nat→Nat→List ZP→List ZP×Nat
 |0,a,out=>(out,a)
 |n+1,a,out=>apa es n (pF es a).2 (if out.getLast? =some (pF es a).1 then out else out++[(pF es a).1])
structure Adj (r:List ZP):Prop where
 ne: ∀i,i+1<r.length→r.getD i (0,0)≠r.getD (i+1) (0,0)
 le: ∀p∈r,ZP.le 100 p
theorem Adj.snoc{r:List ZP}{p:ZP}(h:Adj r)(hp:ZP.le 100 p)(hl:r.getLast? ≠some p):Adj (r++[p]):=by
 refine⟨fun i hi=>?_,fun q hq=>?_⟩
 ·rw[aV,dK] at hi
  rw[aK,aK]
  by_cases h1:i+1<r.length
  ·rw[fJ (by omega),fJ h1]
   have:=h.ne i h1
   rwa [aK,aK] at this
  ·have e:i+1=r.length:=by omega
   rw[fJ (by omega),e,fM (bQ _),rN]
   rw[kR,←e,kQ] at hl
   rw[aZ (by omega)] at hl⊢
   intro c
   exact hl (by simpa using c)
 ·rcases bK.1 hq with hq|hq
  ·exact h.le q hq
  ·rw[aU] at hq;subst hq;exact hp
theorem aov{es:List Int}: ∀{n a:Nat} {out:List ZP},a≤es.length→Adj out→Adj (apa es n a out).1∧(apa es n a out).1.length≤out.length+n∧(apa es n a out).2≤es.length
 |0,a,out,ha,h=>⟨h,bQ _,ha⟩
 |n+1,a,out,ha,h=>by
  obtain⟨h1,h2,h3⟩:=amw ha
  rw[apa]
  by_cases hl:out.getLast? =some (pF es a).1
  ·rw[if_pos hl]
   obtain⟨k1,k2,k3⟩:=aov (n:=n) h3 h
   exact⟨k1,by omega,k3⟩
  ·rw[if_neg hl]
   obtain⟨k1,k2,k3⟩:=aov (n:=n) h3 (h.snoc (p:=(pF es a).1) ⟨by omega,by omega⟩ hl)
   rw[aV,dK] at k2
   exact⟨k1,by omega,k3⟩
def afb:Nat→List ZP→List ZP
 |0,l=>l
 |n+1,l=>if 1<l.length∧l.getD 0 (0,0)=l.getD (l.length-1) (0,0) then afb n l.dropLast else l
theorem Adj.drop{r:List ZP}(h:Adj r):Adj r.dropLast:=by
 refine⟨fun i hi=>?_,fun p hp=>h.le p ((List.dropLast_sublist _).subset hp)⟩
 rw[gR] at hi
 have:=h.ne i (by omega)
 rw[aK,aK] at this⊢
 rw[qL,qL,if_pos (by omega),if_pos (by omega)]
 exact this
theorem aqD: ∀{n:Nat} {l:List ZP},Adj l→l.length≤n+1→Adj (afb n l)∧(afb n l).length≤l.length∧(1<(afb n l).length→(afb n l).getD 0 (0,0)≠(afb n l).getD ((afb n l).length-1) (0,0))
 |0,l,h,hn=>⟨h,bQ _,fun k=>absurd k (by unfold afb;omega)⟩
 |n+1,l,h,hn=>by
  rw[afb]
  split
  ·obtain⟨h1,h2,h3⟩:=aqD (n:=n) h.drop (by rw[gR];omega)
   rw[gR] at h2
   exact⟨h1,by omega,h3⟩
  ·rename_i hc
   exact⟨h,bQ _,fun k e=>hc ⟨k,e⟩⟩
theorem aAm{r:List ZP}(h:Adj r)(h6:r.length≤6)(hc:1<r.length→r.getD 0 (0,0)≠r.getD (r.length-1) (0,0))(h3:3≤(ams r).length):aby r:=by
 have:=aur r
 refine⟨by omega,h6,h.le,fun i hi=>?_⟩
 by_cases h1:i+1<r.length
 ·rw[axn h1];exact h.ne i h1
 ·have e:i+1=r.length:=by omega
  rw[aro e]
  have:=hc (by omega)
  rw[show i=r.length-1 by omega]
  exact fun k=>this k.symm
def aAW:List ZP:=[(0,0),(2,0),(0,2)]
theorem ayT:aby aAW:=⟨by decide,by decide,fun p hp=>by
  simp only[aAW,aW,nT,or_false] at hp
  rcases hp with rfl|rfl|rfl<;>exact⟨by decide,by decide⟩,fun i hi=>by
  have:i=0∨i=1∨i=2:=by simp[aAW] at hi;omega
  rcases this with rfl|rfl|rfl<;>decide⟩
def au4(es:List Int)(a:Nat):List ZP×Nat:=
 ((if(ams (afb 6 (apa es (3+(aaf es 4 a).1) (aaf es 4 a).2 []).1)).length<3 then aAW else afb 6 (apa es (3+(aaf es 4 a).1) (aaf es 4 a).2 []).1),(apa es (3+(aaf es 4 a).1) (aaf es 4 a).2 []).2)
theorem Adj.nil:Adj []:=⟨fun i hi=>by simp at hi,fun p hp=>by cases hp⟩
theorem arF{es:List Int}{a:Nat}(ha:a≤es.length):aby (au4 es a).1∧(au4 es a).2≤es.length:=by
 have h1:=abE (es:=es) (n:=4) (a:=a) (by decide)
 obtain⟨k1,k2,k3⟩:=aov (n:=3+(aaf es 4 a).1) (aaG (n:=4) ha) Adj.nil
 obtain⟨t1,t2,t3⟩:=aqD (n:=6) k1 (by simp at k2;omega)
 refine⟨?_,k3⟩
 unfold au4
 dsimp only
 split
 ·exact ayT
 ·exact aAm t1 (by simp at k2;omega) t3 (by omega)
def sqF(es:List Int)(n m k:Int)(a:Nat):List ZP×Nat:=
 let x:=aaf es n a
 let y:=aaf es n x.2
 let z:=aaf es m y.2
 let w:=aaf es m z.2
 (agf ((x.1:Int)-k) ((y.1:Int)-k) ((x.1:Int)-k+1+z.1) ((y.1:Int)-k+1+w.1),w.2)
theorem aDh{es:List Int}{n m k:Int}{a:Nat}(ha:a≤es.length)(hn:1≤n)(hn2:n≤10)(hm:1≤m)(hm2:m≤10)(hk:0≤k)(hk2:k≤10):aby (sqF es n m k a).1∧(sqF es n m k a).2≤es.length:=by
 have h1:=abE (es:=es) (a:=a) hn
 have h2:=abE (es:=es) (a:=(aaf es n a).2) hn
 have h3:=abE (es:=es) (a:=(aaf es n (aaf es n a).2).2) hm
 have h4:=abE (es:=es) (a:=(aaf es m (aaf es n (aaf es n a).2).2).2) hm
 exact⟨arM (by omega) (by omega) (by omega) (by omega) (by omega) (by omega),aaG (aaG (aaG (aaG ha)))⟩
def acR(es:List Int)(a:Nat):List ZP×Nat:=
 let k:=aaf es 4 a
 if(k.1:Int)=0 then sqF es 5 4 4 k.2
 else if(k.1:Int)=1 then
  let p:=pF es k.2
  let u:=vF es p.2
  let v:=vF es u.2
  if ajL u.1 v.1≠0 then(axt p.1 u.1 v.1,v.2) else au4 es v.2
 else au4 es k.2
theorem aiy{es:List Int}{a:Nat}(ha:a≤es.length):aby (acR es a).1∧(acR es a).2≤es.length:=by
 have h0:=aaG (n:=4) ha
 unfold acR
 dsimp only
 split
 ·exact aDh h0 (by decide) (by decide) (by decide) (by decide) (by decide) (by decide)
 ·split
  ·obtain⟨p1,p2,p3⟩:=amw h0
   obtain⟨u1,u2,u3,u4⟩:=arm p3
   obtain⟨v1,v2,v3,v4⟩:=arm u4
   split
   ·rename_i hc
    exact⟨aBa ⟨by omega,by omega⟩ ⟨by omega,by omega⟩ ⟨by omega,by omega⟩ hc,v4⟩
   ·exact arF v4
  ·exact arF h0
def aGb:List ZP:=[(0,0),(1,0),(0,1)]
def asy(es:List Int)(a:Nat):List ZP×Nat:=
 let k:=aaf es 2 a
 if(k.1:Int)=0 then sqF es 3 2 1 k.2
 else
  let x:=aaf es 3 k.2
  let y:=aaf es 3 x.2
  let u1:=aaf es 2 y.2
  let u2:=aaf es 3 u1.2
  let v1:=aaf es 3 u2.2
  let v2:=aaf es 2 v1.2
  (if 0<ajL (1+(u1.1:Int),(u2.1:Int)-1) ((v1.1:Int)-1,1+(v2.1:Int)) then axt ((x.1:Int)-1,(y.1:Int)-1) (1+(u1.1:Int),(u2.1:Int)-1) ((v1.1:Int)-1,1+(v2.1:Int)) else aGb,v2.2)
def ad4(es:List Int)(a:Nat):Tr×Nat:=
 let r:=acR es a
 let k:=aaf es 3 r.2
 if(k.1:Int)=0 then
  let s:=acR es k.2
  let f:=aaf es 2 s.2
  (aiX [r.1,s.1] (1+(f.1:Int)),f.2)
 else
  let f:=aaf es 2 k.2
  (aiX [r.1] (1+(f.1:Int)),f.2)
theorem aew{es:List Int}{a:Nat}(ha:a≤es.length):afW 18 (ad4 es a).1∧(ad4 es a).2≤es.length:=by
 obtain⟨r1,r2⟩:=aiy ha
 have h3:=aaG (n:=3) r2
 unfold ad4
 dsimp only
 split
 ·obtain⟨s1,s2⟩:=aiy h3
  exact⟨apE (fun r hr=>by simp only[aW,nT,or_false] at hr;rcases hr with rfl|rfl;exact r1;exact s1) (by simp),aaG s2⟩
 ·exact⟨apE (fun r hr=>by simp only[aW,nT,or_false] at hr;subst hr;exact r1) (by simp),aaG h3⟩
def awG(l:LnQ):Tr:=(Tr.node l (.leaf true) (.leaf false)).restrict []
theorem aoA: ∀t:Tr,t.lns.length=t.size
 | .leaf _=>rfl
 | .node l x y=>by rw[Tr.lns,bV,aV,aoA x,aoA y,Tr.size];omega
theorem aun{t:Tr}{k:Nat}(hb:t.all (fun l=>BL l 96))(ho:t.all LnQ.ok)(hs:t.size≤k):afW k t:=
 ⟨⟨aeI.2 fun l hl=>⟨aeI.1 hb l hl⟩,ho⟩,cW t.depth_size hs,t.lns,by rw[aoA];exact hs,ae7 ho,avQ fun l hl=>hl⟩
theorem aoa{es:List Int}{d a:Nat}(ha:a≤es.length)(hd:d≤4):afW 18 (abB es d a).1∧(abB es d a).2≤es.length:=by
 obtain⟨h1,h2,h3,h4⟩:=agN (d:=d) ha
 have h5:=Tr.size_lt (abB es d a).1
 have h6:(2:Nat)^(abB es d a).1.depth≤2^4:=bW (by decide) (by omega)
 exact⟨aun h3 h2 (by omega),h4⟩
theorem atB{l:LnQ}(h:LS l):afW 18 (awG l):=
 (aun (k:=18) (t:= .node l (.leaf true) (.leaf false)) ⟨h.bl,trivial,trivial⟩ ⟨h.ok,trivial,trivial⟩ (by simp[Tr.size])).restrict []
def aaw(es:List Int):Nat→Nat→Tr×Nat
 |0,a=>
  let k:=aaf es 6 a
  if(k.1:Int)=1 then(awG (lF es k.2).1,(lF es k.2).2)
  else if(k.1:Int)=2 then((abB es 3 k.2).1.restrict [],(abB es 3 k.2).2)
  else if(k.1:Int)=3 then((ad4 es k.2).1.compl,(ad4 es k.2).2)
  else ad4 es k.2
 |d+1,a=>
  let k:=aaf es 6 a
  if(k.1:Int)=0 then
   let x:=aaw es d k.2
   let o:=aaf es 4 x.2
   let y:=aaw es d o.2
   (x.1.mergeQ (1+(o.1:Int)) y.1 [],y.2)
  else if(k.1:Int)=1 then(awG (lF es k.2).1,(lF es k.2).2)
  else if(k.1:Int)=2 then((abB es 3 k.2).1.restrict [],(abB es 3 k.2).2)
  else if(k.1:Int)=3 then((ad4 es k.2).1.compl,(ad4 es k.2).2)
  else ad4 es k.2
theorem adC{es:List Int}: ∀{d a:Nat},a≤es.length→afW (18*2^d) (aaw es d a).1∧(aaw es d a).2≤es.length
 |0,a,ha=>by
  have h0:=aaG (n:=6) ha
  rw[aaw]
  try dsimp only
  split
  ·obtain⟨h1,h2⟩:=aoS h0;exact⟨atB h1,h2⟩
  ·split
   ·obtain⟨h1,h2⟩:=aoa (d:=3) h0 (by decide);exact⟨h1.restrict [],h2⟩
   ·split
    ·obtain⟨h1,h2⟩:=aew h0;exact⟨h1.compl,h2⟩
    ·exact aew h0
 |d+1,a,ha=>by
  have h0:=aaG (n:=6) ha
  have hp:18≤18*2^(d+1):=nZ _ (dR (by decide))
  rw[aaw]
  try dsimp only
  split
  ·obtain⟨h1,h2⟩:=adC (d:=d) h0
   obtain⟨h3,h4⟩:=adC (d:=d) (aaG (n:=4) h2)
   exact⟨(h1.merge h3).mono (by rw[eX];omega),h4⟩
  ·split
   ·obtain⟨h1,h2⟩:=aoS h0;exact⟨(atB h1).mono hp,h2⟩
   ·split
    ·obtain⟨h1,h2⟩:=aoa (d:=3) h0 (by decide);exact⟨(h1.restrict []).mono hp,h2⟩
    ·split
     ·obtain⟨h1,h2⟩:=aew h0;exact⟨h1.compl.mono hp,h2⟩
     ·obtain⟨h1,h2⟩:=aew h0;exact⟨h1.mono hp,h2⟩
def aGK(es:List Int)(a:Nat):Tr×Nat:=
 let k:=aaf es 4 a
 if(k.1:Int)=0 then(awG (lF es k.2).1,(lF es k.2).2)
 else if(k.1:Int)=1 then((abB es 2 k.2).1.restrict [],(abB es 2 k.2).2)
 else(aiX [(asy es k.2).1] 2,(asy es k.2).2)
def adn(op:Int)(a b:Tr):Bool:=decide ((a.mergeQ op b []).isLeaf=true∧(a.mergeQ op b []).code=false)
def aDL(a b:Tr):Int:=if adn 4 a b then 0 else if adn 3 a b then-1 else if adn 3 b a then 1 else 2
def atQ:Tr→PtQ→Bool
 | .leaf b,_=>b
 | .node l x y,p=>if(l.value p).num.sign=1 then atQ x p else if(l.value p).num.sign= -1 then atQ y p else false
def aFx(t:Tr):List aan:=((t.parts []).filter (·.1)).map (·.2)
def aFA(l:LnQ)(p:PtQ):aan→Rat→Rat
 |[],f=>f
 |s::c,f=>aFA l p c (if Int.sign (s.l.nor.dot l.nor).num<0 then(if-(s.l.value p/s.l.nor.dot l.nor)<f then-(s.l.value p/s.l.nor.dot l.nor) else f) else f)
def aFc:aan→PtQ
 |[]=>⟨0,0⟩
 |s::c=>adB (s.l.at s.v.sample) s.l.nor (aFA s.l (s.l.at s.v.sample) c 1*mkRat 1 2)
def ae8:Tr→PtQ→PtQ→Bool×Bool
 | .leaf b,_,_=>(b,true)
 | .node l x y,p,v=>match (if(l.value p).num.sign=0 then(l.dir.cross v).num.sign else(l.value p).num.sign) with
  |1=>ae8 x p v
  | -1=>ae8 y p v
  |_=>(false,false)
theorem adJ(l:LnQ)(v:PtQ):l.dir.cross v=l.nor.dot v:=by
 unfold LnQ.dir LnQ.nor PtQ.cross PtQ.dot
 grind
def Gn(L:List LnQ)(p v:PtQ):Prop:= ∀l∈L,l.value p=0→l.nor.dot v≠0
theorem aBp{l:LnQ}{p v:PtQ}(h:l.value p=0→l.nor.dot v≠0): ∃e:Rat,0<e∧ ∀d,0<d→d≤e→(0<l.value (adB p v d)↔0<l.value p∨(l.value p=0∧0<l.nor.dot v))∧(l.value (adB p v d)<0↔l.value p<0∨(l.value p=0∧l.nor.dot v<0)):=by
 generalize hk:l.nor.dot v=k at*
 by_cases h0:l.value p=0
 ·have hk0:=h h0
  refine⟨1,by decide,fun d h1 _=>?_⟩
  rw[abP,hk,h0]
  rcases aaW k with e|e|e
  ·exact absurd e hk0
  ·have:=aab h1 e;grind
  ·have:=aab (a:=d) (b:= -k) h1 (by grind);grind
 ·have key: ∀w:Rat,0<w→ ∃e:Rat,0<e∧ ∀d,0<d→d≤e→ ∀j:Rat,(j=k∨j= -k)→0<w+d*j:=fun w hw=>by
   have hA: ∃A:Rat,0<A∧k≤A∧ -k≤A:=by
    rcases aaW k with e|e|e
    ·exact⟨1,by decide,by grind,by grind⟩
    ·exact⟨k,e,by grind,by grind⟩
    ·exact⟨-k,by grind,by grind,by grind⟩
   obtain⟨A,a1,a2,a3⟩:=hA
   refine⟨w/(2*A),?_,fun d d1 d2 j hj=>?_⟩
   ·have e1:w/(2*A)*(2*A)=w:=by grind
    exact(aaj (k:=2*A) (by grind)).1 (by rw[e1];exact hw)
   ·have e1:w/(2*A)*(2*A)=w:=by grind
    generalize w/(2*A)=f at*
    have h1:=aai (a:=f-d) (b:=A) (by grind) (by grind)
    have h2:=aai (a:=d) (b:=A+j) (by grind) (by rcases hj with rfl|rfl<;>grind)
    grind
  rcases aaW (l.value p) with e|e|e
  ·exact absurd e h0
  ·obtain⟨f,f1,f2⟩:=key _ e
   refine⟨f,f1,fun d d1 d2=>?_⟩
   have:=f2 d d1 d2 k (.inl rfl)
   rw[abP,hk]
   grind
  ·obtain⟨f,f1,f2⟩:=key (-l.value p) (by grind)
   refine⟨f,f1,fun d d1 d2=>?_⟩
   have:=f2 d d1 d2 (-k) (.inr rfl)
   rw[abP,hk]
   grind
theorem agK: ∀{t:Tr} {p v:PtQ},Gn t.lns p v→ ∃e:Rat,0<e∧ ∀d,0<d→d≤e→Off t.lns (adB p v d)∧ae8 t p v=(t.val (adB p v d),true)
 | .leaf b,p,v,_=>⟨1,by decide,fun d _ _=>⟨fun l hl=>(by cases hl),rfl⟩⟩
 | .node l x y,p,v,h=>by
  obtain⟨e1,a1,b1⟩:=aBp (h l aQ)
  obtain⟨e2,a2,b2⟩:=agK (t:=x) (p:=p) (v:=v) (fun m hm=>h m (aX _ (bL _ hm)))
  obtain⟨e3,a3,b3⟩:=agK (t:=y) (p:=p) (v:=v) (fun m hm=>h m (aX _ (bY _ hm)))
  have hgn:=h l aQ
  have hm: ∃e:Rat,0<e∧e≤e1∧e≤e2∧e≤e3:=by
   by_cases h1:e1≤e2
   ·by_cases h2:e1≤e3
    ·exact⟨e1,a1,by grind,h1,h2⟩
    ·exact⟨e3,a3,by grind,by grind,by grind⟩
   ·by_cases h2:e2≤e3
    ·exact⟨e2,a2,by grind,by grind,h2⟩
    ·exact⟨e3,a3,by grind,by grind,by grind⟩
  obtain⟨e,h0,h1,h2,h3⟩:=hm
  refine⟨e,h0,fun d d1 d2=>?_⟩
  obtain⟨c1,c2⟩:=b1 d d1 (by grind)
  obtain⟨o2,w2⟩:=b2 d d1 (by grind)
  obtain⟨o3,w3⟩:=b3 d d1 (by grind)
  have hs:(if(l.value p).num.sign=0 then(l.dir.cross v).num.sign else(l.value p).num.sign)=if 0<l.value (adB p v d) then 1 else-1:=by
   rw[adJ]
   by_cases hz:l.value p=0
   ·rw[if_pos ((abN _).2 hz)]
    split
    ·rename_i hp
     exact(adr _).2 (by rcases c1.1 hp with k|k;exact absurd k (by grind);exact k.2)
    ·rename_i hp
     have:l.nor.dot v<0:=by have:=hgn hz;have: ¬0<l.nor.dot v:=fun e=>hp (c1.2 (.inr ⟨hz,e⟩));grind
     exact Int.sign_eq_neg_one_iff_neg.2 (by have:=(ahw _).2 this;rcases kU (l.nor.dot v).num 0 with q|q|q;exact q;rw[q] at this;simp at this;rw[eJ q] at this;simp at this)
   ·rw[if_neg (fun e=>hz ((abN _).1 e))]
    split
    ·rename_i hp
     exact(adr _).2 (by rcases c1.1 hp with k|k;exact k;exact absurd k.1 hz)
    ·rename_i hp
     have:l.value p<0:=by have: ¬0<l.value p:=fun e=>hp (c1.2 (.inl e));grind
     exact Int.sign_eq_neg_one_iff_neg.2 (by have:=(ahw _).2 this;rcases kU (l.value p).num 0 with q|q|q;exact q;rw[q] at this;simp at this;rw[eJ q] at this;simp at this)
  have hz:l.value (adB p v d)≠0:=fun e=>by
   rcases aaW (l.value p) with q|q|q
   ·rcases aaW (l.nor.dot v) with r|r|r
    ·exact hgn q r
    ·have:=c1.2 (.inr ⟨q,r⟩);grind
    ·have:=c2.2 (.inr ⟨q,r⟩);grind
   ·have:=c1.2 (.inl q);grind
   ·have:=c2.2 (.inl q);grind
  refine⟨fun m hm=>?_,?_⟩
  ·rcases aW.1 hm with rfl|hm
   ·exact hz
   ·exact(bK.1 hm).elim (o2 m) (o3 m)
  ·rw[ae8,hs]
   by_cases hp:0<l.value (adB p v d)
   ·rw[if_pos hp,Tr.val_pos hp];exact w2
   ·rw[if_neg hp,Tr.val_neg hp];exact w3
theorem aaU(p:PtQ):(p.half=1∧(0<p.y∨(p.y=0∧0<p.x)))∨(p.half=2∧(p.y<0∨(p.y=0∧p.x<0)))∨(p.half=0∧p.y=0∧p.x=0):=by
 unfold PtQ.half
 simp only[acC,ahw,abN]
 split
 ·rename_i h;exact .inl ⟨rfl,h⟩
 ·rename_i h
  split
  ·rename_i h2
   exact .inr (.inl ⟨rfl,by grind⟩)
  ·rename_i h2
   exact .inr (.inr ⟨rfl,by grind,by grind⟩)
theorem aeT{p:PtQ}:p.half=1↔(0<p.y∨(p.y=0∧0<p.x)):=by
 rcases aaU p with⟨h,k⟩|⟨h,k⟩|⟨h,k⟩<;>rw[h]<;>grind
theorem aeR{p:PtQ}:p.half=2↔(p.y<0∨(p.y=0∧p.x<0)):=by
 rcases aaU p with⟨h,k⟩|⟨h,k⟩|⟨h,k⟩<;>rw[h]<;>grind
def Bef(u v:PtQ):Prop:=u.half<v.half∨(u.half=v.half∧0<u.cross v)
theorem aei{u v:PtQ}:aaD u v<0↔Bef u v:=by
 unfold aaD Bef
 split
 ·rename_i h;exact⟨fun _=> .inl h,fun _=>by decide⟩
 ·rename_i h
  split
  ·rename_i h2;exact⟨fun e=>absurd e (by decide),fun e=>by omega⟩
  ·rename_i h2
   have e:u.half=v.half:=by omega
   rw[←acC]
   constructor
   ·intro k;exact .inr ⟨e,by omega⟩
   ·rintro (k|⟨_,k⟩)
    ·omega
    ·omega
def ack(d:PtQ):PtQ:=⟨-d.x, -d.y⟩
theorem ad8{d:PtQ}(h:d.half≠0):(ack d).half=3-d.half:=by
 rcases aaU d with⟨e,k⟩|⟨e,k⟩|⟨e,k⟩
 ·rw[e];exact aeR.2 (by unfold ack;grind)
 ·rw[e];exact aeT.2 (by unfold ack;grind)
 ·exact absurd e h
theorem abZ{d:PtQ}(h:d.half≠0):d.half=1∨d.half=2:=by
 rcases aaU d with⟨e,_⟩|⟨e,_⟩|⟨e,_⟩
 ·exact .inl e
 ·exact .inr e
 ·exact absurd e h
def Nxt(ds:List PtQ)(u w:PtQ):Prop:=(Bef u w∧ ∀d∈ds,¬(Bef u d∧Bef d w))∨((∀d∈ds,¬Bef u d)∧ ∀d∈ds,¬Bef d w)
structure axG (ds:List PtQ):Prop where
 nz: ∀d∈ds,d.half≠0
 neg: ∀d∈ds,ack d∈ds
theorem akU(u:PtQ):u.cross u=0:=by unfold PtQ.cross;grind
theorem aaA(u v:PtQ):v.cross u= -u.cross v:=by unfold PtQ.cross;grind
theorem abI(u v:PtQ):u.cross (ack v)= -u.cross v:=by unfold PtQ.cross ack;grind
theorem Nxt.spec{ds:List PtQ}{u w:PtQ}(h:axG ds)(hu:u∈ds)(hw:w∈ds)(hn:Nxt ds u w):
  (u.half=w.half∧0<u.cross w∧ ∀d∈ds,¬(Bef u d∧Bef d w))∨(u.half≠w.half∧(∀d∈ds,d.half=u.half→0≤d.cross u)∧ ∀d∈ds,d.half=w.half→0≤w.cross d):=by
 have zu:=abZ (h.nz u hu)
 have zw:=abZ (h.nz w hw)
 rcases hn with⟨h1,h2⟩|⟨h1,h2⟩
 ·rcases h1 with k|⟨k,k2⟩
  ·refine .inr ⟨by omega,fun d hd e=>?_,fun d hd e=>?_⟩
   ·have:=h2 d hd
    rw[aaA]
    by_cases hc:0<u.cross d
    ·exact absurd ⟨.inr ⟨e.symm,hc⟩, .inl (by omega)⟩ this
    ·grind
   ·have:=h2 d hd
    by_cases hc:0<d.cross w
    ·exact absurd ⟨.inl (by omega), .inr ⟨e,hc⟩⟩ this
    ·rw[aaA] at hc;grind
  ·exact .inl ⟨k,k2,h2⟩
 ·have nu:=ad8 (h.nz u hu)
  have a1:=h1 _ (h.neg u hu)
  have a2:=h2 _ (h.neg u hu)
  unfold Bef at a1 a2
  rw[nu] at a1 a2
  refine .inr ⟨fun e=>?_,fun d hd e=>?_,fun d hd e=>?_⟩
  ·rcases zu with z|z
   ·exact a1 (.inl (by omega))
   ·exact a2 (.inl (by omega))
  ·have:=h1 d hd
   rw[aaA]
   by_cases hc:0<u.cross d
   ·exact absurd (.inr ⟨e.symm,hc⟩) this
   ·grind
  ·have:=h2 d hd
   by_cases hc:0<d.cross w
   ·exact absurd (.inr ⟨e,hc⟩) this
   ·rw[aaA] at hc;grind
theorem Nxt.pos{ds:List PtQ}{u w:PtQ}(h:axG ds)(hu:u∈ds)(hw:w∈ds)(hn:Nxt ds u w):0≤u.cross w:=by
 rcases hn.spec h hu hw with⟨_,h2,_⟩|⟨h1,h2,h3⟩
 ·grind
 ·have:=h3 _ (h.neg u hu) (by rw[ad8 (h.nz u hu)];have:=abZ (h.nz u hu);have:=abZ (h.nz w hw);omega)
  rw[abI] at this
  rw[aaA];exact this
def btw(a b:Rat)(u w:PtQ):PtQ:=⟨a*u.x+b*w.x,a*u.y+b*w.y⟩
theorem amf{a b:Rat}{u w:PtQ}:u.cross (btw a b u w)=b*u.cross w∧(btw a b u w).cross w=a*u.cross w:=by
 unfold PtQ.cross btw
 constructor<;>grind
theorem alL{a b:Rat}{u w:PtQ}(ha:0<a)(hb:0<b)(h:u.half=w.half)(hz:u.half≠0):(btw a b u w).half=u.half:=by
 rcases aaU u with⟨e,k⟩|⟨e,k⟩|⟨e,k⟩
 ·rw[e] at h⊢
  have k2:=aeT.1 h.symm
  refine aeT.2 ?_
  unfold btw
  simp only
  have p1: ∀z:Rat,0<z→0<a*z:=fun z hz=>aab ha hz
  have p2: ∀z:Rat,0<z→0<b*z:=fun z hz=>aab hb hz
  rcases k with k|⟨k,k'⟩<;>rcases k2 with l|⟨l,l'⟩
  ·have:=p1 _ k;have:=p2 _ l;grind
  ·have:=p1 _ k;rw[l];grind
  ·have:=p2 _ l;rw[k];grind
  ·have:=p1 _ k';have:=p2 _ l';rw[k,l];grind
 ·rw[e] at h⊢
  have k2:=aeR.1 h.symm
  refine aeR.2 ?_
  unfold btw
  simp only
  have p1: ∀z:Rat,z<0→a*z<0:=fun z hz=>by have:=aab (a:=a) (b:= -z) ha (by grind);grind
  have p2: ∀z:Rat,z<0→b*z<0:=fun z hz=>by have:=aab (a:=b) (b:= -z) hb (by grind);grind
  rcases k with k|⟨k,k'⟩<;>rcases k2 with l|⟨l,l'⟩
  ·have:=p1 _ k;have:=p2 _ l;grind
  ·have:=p1 _ k;rw[l];grind
  ·have:=p2 _ l;rw[k];grind
  ·have:=p1 _ k';have:=p2 _ l';rw[k,l];grind
 ·exact absurd e hz
theorem Nxt.none{ds:List PtQ}{u w:PtQ}(h:axG ds)(hu:u∈ds)(hw:w∈ds)(hn:Nxt ds u w)(hc:u.cross w≠0){a b:Rat}(ha:0<a)(hb:0<b):btw a b u w∉ds:=fun hd=>by
 have hp:=hn.pos h hu hw
 have hp:0<u.cross w:=by grind
 obtain⟨c1,c2⟩:=amf (a:=a) (b:=b) (u:=u) (w:=w)
 have d1:0<u.cross (btw a b u w):=by rw[c1];exact aab hb hp
 have d2:0<(btw a b u w).cross w:=by rw[c2];exact aab ha hp
 have zu:=abZ (h.nz u hu)
 have zw:=abZ (h.nz w hw)
 have zd:=abZ (h.nz _ hd)
 rcases hn.spec h hu hw with⟨h1,_,h3⟩|⟨h1,h2,h3⟩
 ·have e:=alL ha hb h1 (h.nz u hu)
  exact h3 _ hd ⟨.inr ⟨e.symm,d1⟩, .inr ⟨e.trans h1,d2⟩⟩
 ·rcases(show(btw a b u w).half=u.half∨(btw a b u w).half=w.half by omega) with e|e
  ·have:=h2 _ hd e
   rw[aaA] at this;grind
  ·have:=h3 _ hd e
   rw[aaA] at this;grind
theorem ah3{d e:PtQ}(h:e.cross d=0)(hp:0<e.dot d): ∃g:Rat,0<g∧e=⟨g*d.x,g*d.y⟩:=by
 have hd:0<d.dot d:=by
  unfold PtQ.dot at*
  have h1:=abt d.x
  have h2:=abt d.y
  rcases aaW d.x with k|k|k
  ·rcases aaW d.y with l|l|l
   ·rw[k,l] at hp;grind
   ·have:=aab l l;grind
   ·have:=aab (a:= -d.y) (b:= -d.y) (by grind) (by grind);grind
  ·have:=aab k k;grind
  ·have:=aab (a:= -d.x) (b:= -d.x) (by grind) (by grind);grind
 have key:e.x*d.dot d=e.dot d*d.x∧e.y*d.dot d=e.dot d*d.y:=by
  unfold PtQ.dot PtQ.cross at*
  constructor<;>grind
 have hg:e.dot d/d.dot d*d.dot d=e.dot d:=by grind
 refine⟨e.dot d/d.dot d,(aaj hd).1 (by rw[hg];exact hp),?_⟩
 generalize e.dot d/d.dot d=g at*
 have x1:e.x=g*d.x:=by
  have:(e.x-g*d.x)*d.dot d=0:=by rw[←hg] at key;grind
  have hz:d.dot d≠0:=by grind
  grind
 have x2:e.y=g*d.y:=by
  have:(e.y-g*d.y)*d.dot d=0:=by rw[←hg] at key;grind
  have hz:d.dot d≠0:=by grind
  grind
 rw[←x1,←x2]
theorem ap8{e u:PtQ}(he:e.half≠0)(hu:u.half≠0)(hp:e.cross u=0):e.dot u≠0:=fun hz=>by
 have e1:e.x*(u.x*u.x+u.y*u.y)=0:=by unfold PtQ.dot PtQ.cross at*;grind
 have e2:e.y*(u.x*u.x+u.y*u.y)=0:=by unfold PtQ.dot PtQ.cross at*;grind
 have hu2:u.x*u.x+u.y*u.y≠0:=fun q=>by
  have h1:=abt u.x
  have h2:=abt u.y
  have x0:u.x=0:=by
   have:u.x*u.x=0:=by grind
   grind
  have y0:u.y=0:=by
   have:u.y*u.y=0:=by grind
   grind
  rcases aaU u with⟨_,q⟩|⟨_,q⟩|⟨q,_⟩
  ·grind
  ·grind
  ·exact hu q
 have x0:e.x=0:=by grind
 have y0:e.y=0:=by grind
 rcases aaU e with⟨_,q⟩|⟨_,q⟩|⟨q,_⟩
 ·grind
 ·grind
 ·exact he q
theorem Nxt.gen{ds:List PtQ}{u w:PtQ}(h:axG ds)(hu:u∈ds)(hw:w∈ds)(hn:Nxt ds u w)(hc:u.cross w≠0){a b:Rat}(ha:0<a)(hb:0<b): ∀d∈ds,d.cross (btw a b u w)≠0:=fun d hd hz=>by
 have hp:=hn.pos h hu hw
 have hp:0<u.cross w:=by grind
 obtain⟨c1,c2⟩:=amf (a:=a) (b:=b) (u:=u) (w:=w)
 have d1:0<u.cross (btw a b u w):=by rw[c1];exact aab hb hp
 -- of d and its opposite, one points the same way
 have key: ∀e∈ds,e.cross (btw a b u w)=0→0<e.dot (btw a b u w)→False:=fun e he h1 h2=>by
  obtain⟨g,g1,g2⟩:=ah3 h1 h2
  refine hn.none h hu hw hc (a:=g*a) (b:=g*b) (aab g1 ha) (aab g1 hb) ?_
  have:btw (g*a) (g*b) u w=e:=by rw[g2];unfold btw;simp only[PtQ.mk.injEq];constructor<;>grind
  rw[this];exact he
 rcases aaW (d.dot (btw a b u w)) with k|k|k
 ·-- both 0: then d is 0, or the other is
  have hnz:=h.nz d hd
  generalize btw a b u w=v at*
  have e1:d.x*(v.x*v.x+v.y*v.y)=0:=by unfold PtQ.dot PtQ.cross at*;grind
  have e2:d.y*(v.x*v.x+v.y*v.y)=0:=by unfold PtQ.dot PtQ.cross at*;grind
  have hv:v.x*v.x+v.y*v.y≠0:=fun e=>by
   have h1:=abt v.x
   have h2:=abt v.y
   have x0:v.x=0:=by have:v.x*v.x=0:=(by grind);grind
   have y0:v.y=0:=by have:v.y*v.y=0:=(by grind);grind
   unfold PtQ.cross at d1
   rw[x0,y0] at d1;grind
  have x0:d.x=0:=by grind
  have y0:d.y=0:=by grind
  rcases aaU d with⟨_,q⟩|⟨_,q⟩|⟨q,_⟩
  ·grind
  ·grind
  ·exact hnz q
 ·exact key d hd hz k
 ·refine key _ (h.neg d hd) ?_ ?_
  ·unfold PtQ.cross ack at*;grind
  ·unfold PtQ.dot ack at*;grind
theorem akV(d u:PtQ):d.cross (afe u)=d.dot u:=by unfold PtQ.cross afe PtQ.dot;grind
theorem Nxt.turn{ds:List PtQ}{u w:PtQ}(h:axG ds)(hu:u∈ds)(hw:w∈ds)(hn:Nxt ds u w)(hc:u.cross w=0): ∀d∈ds,d.cross (afe u)≠0:=fun d hd=>by
 have zu:=abZ (h.nz u hu)
 have zw:=abZ (h.nz w hw)
 rw[akV]
 rcases hn.spec h hu hw with⟨_,h2,_⟩|⟨h1,h2,h3⟩
 ·rw[hc] at h2;exact absurd h2 (by decide)
 have par: ∀e∈ds,e.half=u.half→e.cross u=0:=fun e he k=>by
  have a1:=h2 e he k
  have a2:=h3 _ (h.neg e he) (by rw[ad8 (h.nz e he)];omega)
  rw[abI] at a2
  -- w = -g u
  have hwu:w.cross u=0:=by rw[aaA,hc];rfl
  have huw:w.dot u<0:=by
   rcases aaW (w.dot u) with k0|k0|k0
   ·exact absurd k0 (ap8 (h.nz w hw) (h.nz u hu) hwu)
   ·obtain⟨g,g1,g2⟩:=ah3 hwu k0
    exfalso
    apply h1
    rcases aaU u with⟨x,q⟩|⟨x,q⟩|⟨x,q⟩
    ·rw[x]
     refine(aeT.2 ?_).symm
     rw[g2]
     simp only
     rcases q with q|⟨q,q'⟩
     ·exact .inl (aab g1 q)
     ·exact .inr ⟨by rw[q];grind,aab g1 q'⟩
    ·rw[x]
     refine(aeR.2 ?_).symm
     rw[g2]
     simp only
     rcases q with q|⟨q,q'⟩
     ·have:=aab (a:=g) (b:= -u.y) g1 (by grind);exact .inl (by grind)
     ·have:=aab (a:=g) (b:= -u.x) g1 (by grind);exact .inr ⟨by rw[q];grind,by grind⟩
    ·exact absurd x (h.nz u hu)
   ·exact k0
  obtain⟨g,g1,g2⟩:=ah3 (d:=u) (e:=ack w) (by unfold PtQ.cross ack at*;grind) (by unfold PtQ.dot ack at*;grind)
  have a3:0≤ -(g*e.cross u):=by
   have e1:w=⟨-(g*u.x), -(g*u.y)⟩:=by
    have:=congrArg ack g2
    unfold ack at this
    cases w
    simp only[Rat.neg_neg] at this
    exact this
   rw[e1] at a2
   unfold PtQ.cross at*
   grind
  by_cases hz:0<e.cross u
  ·have:=aab g1 hz;grind
  ·grind
 have nzd: ∀e∈ds,e.half=u.half→e.dot u≠0:=fun e he k=>ap8 (h.nz e he) (h.nz u hu) (par e he k)
 by_cases k:d.half=u.half
 ·exact nzd d hd k
 ·have:=nzd _ (h.neg d hd) (by rw[ad8 (h.nz d hd)];have:=abZ (h.nz d hd);omega)
  unfold PtQ.dot ack at*
  grind
end Go.Sx
end
section
namespace Go.Sx
open Go
inductive OT where
 |z (π:List (Nat×Bool))
 |q (i:Nat) (t:OT)
 |a (i:Nat) (t:OT)
 |c (i:Nat) (t r:OT)
def OT.sz:OT→Nat
 | .z _=>0
 | .q _ t=>t.sz+1
 | .a _ t=>t.sz+1
 | .c _ t r=>t.sz+r.sz+1
def OT.d:OT→Nat
 | .z π=>π.length
 | .q _ t=>t.d+1
 | .a _ t=>t.d+1
 | .c _ t r=>Nat.max (t.d+1) r.d
section
variable {P:Program} {ops:Array Oper} {Q:Exit→Act→World→Prop} {S:World→Prop} {π₂:List (Nat×Bool)}
def dwN(P:Program)(ops:Array Oper)(Q:Exit→Act→World→Prop)(K:(World→Prop)→Act→World→Prop):List Nat→OT→(World→Prop)→Act→World→Prop
 |ks, .z π,S,a,w=>dwT P ops Q K ks π S a w
 |ks, .q i t,S,a,w=> ∃o v,ops[i]? =some o∧S w∧YieldsIf P ops S o v a∧dwN P ops Q K ks t S (a.put o.dst v) w
 |ks, .a i t,S,a,w=>wpOp P ops Q i (grS S (dwN P ops Q K ks t)) a w∧
   ∀j,(h:j∈ks)→wpOp P ops Q j (grS S (dwN P ops Q K (without ks j) (.a i t))) a w
 |ks, .c i t r,S,a,w=>wpOp P ops Q i (grS S (dwN P ops Q K ks t)) a w∧dwN P ops Q K ks r S a w∧
   ∀j,(h:j∈ks)→wpOp P ops Q j (grS S (dwN P ops Q K (without ks j) (.c i t r))) a w
termination_by ks t=>ks.length+t.sz
decreasing_by
 all_goals (first|(have:=ahq h;simp only[OT.sz] at*;omega)|(simp only[OT.sz];omega))
def adv(ops:Array Oper)(fin:Nat→Bool)(π₂:List (Nat×Bool)):Nat→Bool→List Nat→OT→Array Bool→List Nat→Bool
 |0,_,_,_,_,_=>false
 |n+1,false,ks, .z π,l,_=>ag8 ops fin π₂ n ks π l
 |_+1,true,_, .z _,_,_=>false
 |n+1,false,ks, .q i t,l,_=>akx ops fin l i&&adv ops fin π₂ n false ks t (l.setIfInBounds i true) []
 |_+1,true,_, .q _ _,_,_=>false
 |n+1,true,ks, .a i t,l,rs=>rs.all (fun j=>Nat.beq j i)&&adv ops fin π₂ n false ks t (l.setIfInBounds i true) []
 |n+1,false,ks, .a i t,l,_=>!(Region.ready .any ops l).isEmpty&&(Region.ready .any ops l).all (fun j=>Nat.beq j i||ks.contains j)&&adv ops fin π₂ n false ks t (l.setIfInBounds i true) []&&ks.all fun j=>adv ops fin π₂ n false (without ks j) (.a i t) (l.setIfInBounds j true) []
 |n+1,true,ks, .c i t r,l,rs=>adv ops fin π₂ n false ks t (l.setIfInBounds i true) []&&adv ops fin π₂ n true ks r l (without rs i)
 |n+1,false,ks, .c i t r,l,_=>!(Region.ready .any ops l).isEmpty&&adv ops fin π₂ n false ks t (l.setIfInBounds i true) []&&adv ops fin π₂ n true ks r l (without ((Region.ready .any ops l).filter fun j=>!ks.contains j) i)&&ks.all fun j=>adv ops fin π₂ n false (without ks j) (.c i t r) (l.setIfInBounds j true) []
end
section
variable {P:Program} {GB:Gh} {C:Ctx} {n:Nat} {fr fr':FrF} {own own' own0 own1 own1':List adz} {bs bs0 bs1 bs1':List aek} {ops:Array Oper} {Q:Exit→Act→World→Prop} {fd:List FD} {π₂:List (Nat×Bool)} {t r:OT}
abbrev dnK (P:Program) (ops:Array Oper) (Q:Exit→Act→World→Prop) (K:(World→Prop)→Act→World→Prop) (t:OT):List Nat→(World→Prop)→Act→World→Prop:=fun ks S=>dwN P ops (acy Q) K ks t S
end
end Go.Sx
end
section
namespace Go.Sx
open Go Go.Proofs Tryz
variable {GB:Gh}
theorem agG{c:List LnQ}{l:LnQ}(hc: ∀m∈c,LB m)(hl:LB l): ∀m∈c++[l],LB m:=by
 rw[qU]
 exact⟨hc,by simpa using hl⟩
theorem LB.rev{l:LnQ}(h:LB l):LB l.rev:=⟨⟨by rw[show l.rev.a= -l.a from rfl,iL];exact h.bl.a,by rw[show l.rev.b= -l.b from rfl,iL];exact h.bl.b,by rw[show l.rev.c= -l.c from rfl,iL];exact h.bl.c⟩⟩
theorem asn{c:List LnQ}{l:LnQ}(hc: ∀m∈c,LB m)(hok: ∀m∈c,m.ok)(hn:c.length≤900)(hl:LB l)(hlo:l.ok):PF GB prog 104 [.sl (c.map eL),eL l] (vI (ad7 c l)):=by
 have hcl:=aeO c
 refine fn func104 J J ntmps104 J J (fun C=>?_)
 refine ro0 J J<|ap (c.map eL) J J (abw _) rfl<|rf J J<|apf ((c++[l]).map eL) rfl (by rw[bJ];rfl) (abw [l]) rfl<|?_
 refine cl rfl (aoj (c:=c++[l]) (agG hc hl) (acm hok hlo) (by simp;omega)) rfl<|ro0 J J<|ap (c.map eL) J J (abw _) rfl<|cl rfl (aiE (l:=l)) rfl<|?_
 refine rf J J<|apf ((c++[l.rev]).map eL) rfl (by rw[bJ];rfl) (abw [l.rev]) rfl<|cl rfl (aoj (c:=c++[l.rev]) (agG hc hl.rev) (acm hok hlo.rev) (by simp;omega)) rfl<|?_
 refine csb 31 J J J (fun hg31=>?_) (fun hg31=>?_)
 ·
  refine bb J J J (fun hc33=>?_) (fun hc33=>?_)
  ·
   exact rz rfl (by show vI 0=vI _;congr 1;unfold ad7;simp_all)
  ·
   refine bb J J J (fun hc34=>?_) (fun hc34=>?_)
   ·
    exact rz rfl (by show vI 1=vI _;congr 1;unfold ad7;simp_all)
   ·
    exact rz rfl (by simp[hg31] at hc34)
 ·
  refine bb J J J (fun hc34=>?_) (fun hc34=>?_)
  ·
   exact rz rfl (by simp[hg31] at hc34)
  ·
   exact rz rfl (by show vI (-1)=vI _;congr 1;unfold ad7;simp_all)
theorem aeN{α:Type}{p:α→Bool}: ∀{xs:List α} {n:Nat},n≤xs.length→(∀j (h:j<xs.length),j<n→p xs[j]=true)→(∀h:n<xs.length,p xs[n]=false)→(xs.takeWhile p).length=n
 |[],n,h,_,_=>by simp at h;subst h;rfl
 |x::xs,0,_,_,h3=>by
  have:=h3 (by simp)
  simp only[nM] at this
  simp[pV,this]
 |x::xs,n+1,h1,h2,h3=>by
  have hx:=h2 0 (by simp) (by omega)
  simp only[nM] at hx
  rw[pV,if_pos hx,bV]
  rw[aeN (n:=n) (by simpa using h1) (fun j h hj=>by have:=h2 (j+1) (by simpa using h) (by omega);simpa using this) (fun h=>by have:=h3 (by simpa using h);simpa using this)]
theorem anL{xs:List LnQ}{l:LnQ}{n:Nat}(h1:n≤xs.length)(h2: ∀j (h:j<xs.length),j<n→aaD xs[j].dir l.dir<0)(h3: ∀h:n<xs.length,¬aaD xs[n].dir l.dir<0):ae5 xs l=n:=
 aeN h1 (fun j h hj=>decide_eq_true (h2 j h hj)) (fun h=>decide_eq_false (h3 h))
theorem ano{xs:List LnQ}{l:LnQ}{n:Nat}(hn:ae5 xs l=n)(h:n<xs.length)(e:xs[n]=l):ac8 xs l=xs:=by
 unfold ac8;rw[hn,if_pos (by rw[aZ h,e])]
theorem ahS{xs:List LnQ}{l:LnQ}{n:Nat}(hn:ae5 xs l=n)(h: ∀h:n<xs.length,xs[n]≠l):ac8 xs l=xs.take n++l::xs.drop n:=by
 unfold ac8
 rw[hn,if_neg]
 intro e
 obtain⟨h1,h2⟩:=aL.1 e
 exact h h1 h2
theorem ayb(xs:List LnQ)(n:Nat):ads 6 ((xs.map eL).take n):=fun d hd=>abw xs d (cS hd)
theorem ass(xs:List LnQ)(n m:Nat):ads 6 (((xs.map eL).take n).drop m):=fun d hd=>abw xs d (cS (fN hd))
theorem axK(xs:List LnQ)(n m:Nat)(l:LnQ):ads 6 ([eL l]++((xs.map eL).take n).drop m):=fun d hd=>by
 rcases bK.1 hd with h|h
 ·exact abw [l] d h
 ·exact ass xs n m d h
structure Cst (c:List LnQ) (k:Nat) (xs:List LnQ):Prop where
 le:k≤c.length
 f:ae6 c (c.drop k) xs=aaR c
 m: ∀m∈xs,m∈c
 n:xs.length≤k
theorem Cst.skip{c xs:List LnQ}{k:Nat}(h:Cst c k xs)(hk:k<c.length)(e:(adb c[k] c IvQ.all).isSome=false):Cst c (k+1) xs:=by
 have:=h.f
 rw[aS hk,ae6,e] at this
 exact⟨hk,this,h.m,by have:=h.n;omega⟩
theorem Cst.ins{c xs ys:List LnQ}{k:Nat}(h:Cst c k xs)(hk:k<c.length)(e:(adb c[k] c IvQ.all).isSome=true)(hy:ac8 xs c[k]=ys)(hl:ys.length≤xs.length+1):Cst c (k+1) ys:=by
 have:=h.f
 rw[aS hk,ae6,e,if_pos rfl,hy] at this
 refine⟨hk,this,fun m hm=>?_,by have:=h.n;omega⟩
 rw[←hy] at hm
 rcases ah0.1 hm with rfl|hm
 ·exact cK hk
 ·exact h.m m hm
theorem Cst.done{c xs:List LnQ}{k:Nat}(h:Cst c k xs)(hk:k=c.length):aaR c=xs:=by
 have:=h.f
 rw[hk,dJ,ae6] at this
 exact this.symm
def ajJ(c:List LnQ):Bool:=if(((c.map eL).length:Nat):Int)=0 then true else decide ((0:Int)<((((aaR c).map eL).length:Nat):Int))
theorem Cst.nil(c:List LnQ):Cst c 0 []:=⟨bZ _,rfl,fun m hm=>absurd hm (by simp),bQ _⟩
theorem aoU{c:List LnQ}(hc: ∀m∈c,LB m)(hok: ∀m∈c,m.ok)(hn:c.length≤1000):PF GB prog 169 [.sl (c.map eL)] (.tp [.sl ((aaR c).map eL),vB (ajJ c)]):=by
 have hcl:=aeO c
 refine fn (fu:=⟨16⟩) func169 J J ntmps169 J J (fun C=>?_)
 refine eqF 11 (.d (vI (c.length:Nat))) rfl (by rw[hcl];rfl) ?_
 refine gx rfl<|?_
 refine nlC 4 rfl ?_
 refine lp (X:=List LnQ×Nat) (fun⟨xs,k⟩=>[(12, .d (vI (k:Nat))),(11, .d (vI (c.length:Nat))),(10, .d (.sl (c.map eL))),(0, .d (.sl (c.map eL))),(4, .d (.sl (xs.map eL)))]) (fun⟨xs,k⟩=>[]) (fun⟨xs,k⟩=>Cst c k xs) (fun⟨xs,k⟩=>c.length-k) ⟨[],0⟩ rfl (Cst.nil c) (fun _=>rfl) (fun⟨xs,k⟩ hk=>?_)
 try dsimp only at hk⊢
 have hS:=hk
 refine br J J J (fun hc13=>?_) (fun hc13=>?_)
 ·
  have hk:k<c.length:=by omega
  obtain⟨m,hm⟩: ∃m,m=c[k]:=⟨_,rfl⟩
  haveI hmb:LB m:=hm▸hc _ (cK hk)
  have hmo:m.ok:=hm▸hok _ (cK hk)
  have hxl:=aeO xs
  have hxn:=hS.n
  refine ix (fu:=⟨1⟩) _ rfl (ae4 hk) rfl<|?_
  refine eqF 16 (.d (eL m)) rfl (by rw[hm];rfl) ?_
  refine gx rfl<|cl rfl (ays hc hok hn hk) rfl<|?_
  refine bb (fu2:=⟨8⟩) J J J (fun hc24=>?_) (fun hc24=>?_)
  ·
   have hinv:Cst c (k+1) xs:=hS.skip hk (by rw[←aex];simpa using hc24)
   exact at_ ⟨xs,k+1⟩ (by dsimp only;exact⟨hinv,(by omega)⟩)
  ·
   have hyes:(adb c[k] c IvQ.all).isSome=true:=by rw[←aex];simpa using hc24
   refine mg (fu:=⟨6⟩) (X:=Unit) (fun _=>[(12, .d (vI (k:Nat))),(11, .d (vI (c.length:Nat))),(10, .d (.sl (c.map eL))),(0, .d (.sl (c.map eL))),(4, .d (.sl (xs.map eL))),(6, .ov 6 0),(9, .d (vI (ae5 xs m:Nat)))]) (fun _=>[(6,some (.o 88 [.d ((.v (.bool (decide (m.a<0))))), .d (dN m.a.natAbs), .d ((.v (.bool (decide (m.b<0))))), .d (dN m.b.natAbs), .d ((.v (.bool (decide (m.c<0))))), .d (dN m.c.natAbs)] true))]) (fun _=>True) [12,11,10,0,4,6,9] [6] rfl ?_ (fun _=>rfl) (fun _ _=>?_)
   ·
    refine gx rfl<|?_
    refine lp (fu:=⟨6⟩) (X:=Nat) (fun n=>[(12, .d (vI (k:Nat))),(11, .d (vI (c.length:Nat))),(10, .d (.sl (c.map eL))),(0, .d (.sl (c.map eL))),(4, .d (.sl (xs.map eL))),(6, .ov 6 0),(9, .d (vI (n:Nat)))]) (fun n=>[(6,some (.o 88 [.d ((.v (.bool (decide (m.a<0))))), .d (dN m.a.natAbs), .d ((.v (.bool (decide (m.b<0))))), .d (dN m.b.natAbs), .d ((.v (.bool (decide (m.c<0))))), .d (dN m.c.natAbs)] true))]) (fun n=>n≤xs.length∧ ∀j (h:j<xs.length),j<n→aaD xs[j].dir m.dir<0) (fun n=>xs.length-n) 0 rfl ⟨bZ _,fun j _ hj=>absurd hj (by omega)⟩ (fun _=>rfl) (fun n hk=>?_)
    obtain⟨n1,n2⟩:=hk
    refine csS J J J J (fun hg28=>?_) (fun hg28=>?_)
    ·
     refine ix _ rfl (ae4 (by omega)) rfl<|?_
     haveI:LB (xs[n]'(by omega)):=hc _ (hS.m _ (cK _))
     refine cl rfl (amc (l:=xs[n]'(by omega))) rfl<|cl rfl (amc (l:=m)) rfl<|cl rfl (aAy (u:=(xs[n]'(by omega)).dir) (v:=m.dir)) rfl<|?_
     refine br J J J (fun hc39=>?_) (fun hc39=>?_)
     ·
      exact at_ (n+1) ⟨⟨by omega,fun j h hj=>by by_cases q:j=n;(subst q;exact hc39);exact n2 j h (by omega)⟩,(by omega)⟩
     ·
      have hidx:ae5 xs m=n:=anL n1 n2 (fun h=>hc39)
      exact at_ () trivial
    ·
     have hidx:ae5 xs m=n:=anL n1 n2 (fun h=>absurd h (by omega))
     exact at_ () trivial
   ·
    obtain⟨n,hnx⟩: ∃n,ae5 xs m=n:=⟨_,rfl⟩
    rw[hnx]
    have hnl:n≤xs.length:=by rw[←hnx];unfold ae5;exact(List.takeWhile_sublist _).length_le
    have hcb: ∀m∈xs,LB m:=fun m hm=>hc m (hS.m m hm)
    refine csS J J J J (fun hg45=>?_) (fun hg45=>?_)
    ·
     refine ix _ rfl (ae4 (by omega)) rfl<|cl rfl (aiS (l:=xs[n]'(by omega)) (m:=m) (hl:=hcb _ (cK (by omega)))) rfl<|?_
     refine br J J J (fun hc54=>?_) (fun hc54=>?_)
     ·
      have hn46:n<xs.length:=by omega
      have hinv:Cst c (k+1) xs:=hS.ins hk hyes (by rw[←hm];exact ano hnx hn46 ((afk _ m).1 hc54)) (by omega)
      exact at_ ⟨xs,k+1⟩ (by dsimp only;exact⟨hinv,(by omega)⟩)
     ·
      have hnew: ∀h:n<xs.length,xs[n]≠m:=fun h e=>hc54 ((afk _ m).2 e)
      obtain⟨ys,hys⟩: ∃ys,ys=xs.take n++m::xs.drop n:=⟨_,rfl⟩
      have hinv:Cst c (k+1) ys:=hS.ins hk hyes (by rw[←hm,ahS hnx hnew,hys]) (by rw[hys];simp;omega)
      refine s3 n _ J J J J (abw _) (by rw[hxl];exact hnl) rfl<|ro J J<|sc' n xs.length _ J J (by rw[hxl]) rfl (abw _) hnl (by omega) rfl<|?_
      refine ap _ J J (ass _ _ _) rfl<|apf (hv:=by simp only[aag];exact⟨by kernel_rfl,by omega⟩) (ho:=fun _=>⟨ayb _ _,by simp⟩) (ys.map eL) rfl (by rw[hys,bJ,bM,fS,gL,aT (l:=xs.map eL) (i:=xs.length) (by simp)];rfl) (axK _ _ _ _) rfl<|?_
      exact at_ ⟨ys,k+1⟩ (by dsimp only;exact⟨hinv,(by omega)⟩)
    ·
     have hnew: ∀h:n<xs.length,xs[n]≠m:=fun h=>absurd h (by omega)
     obtain⟨ys,hys⟩: ∃ys,ys=xs.take n++m::xs.drop n:=⟨_,rfl⟩
     have hinv:Cst c (k+1) ys:=hS.ins hk hyes (by rw[←hm,ahS hnx hnew,hys]) (by rw[hys];simp;omega)
     refine s3 n _ J J J J (abw _) (by rw[hxl];exact hnl) rfl<|ro J J<|sc' n xs.length _ J J (by rw[hxl]) rfl (abw _) hnl (by omega) rfl<|?_
     refine ap _ J J (ass _ _ _) rfl<|apf (hv:=by simp only[aag];exact⟨by kernel_rfl,by omega⟩) (ho:=fun _=>⟨ayb _ _,by simp⟩) (ys.map eL) rfl (by rw[hys,bJ,bM,fS,gL,aT (l:=xs.map eL) (i:=xs.length) (by simp)];rfl) (axK _ _ _ _) rfl<|?_
     exact at_ ⟨ys,k+1⟩ (by dsimp only;exact⟨hinv,(by omega)⟩)
 ·
  have hfin:aaR c=xs:=hS.done (by have:=hS.le;omega)
  refine cs 71 J J J (fun hg71=>?_) (fun hg71=>?_)
  ·
   exact rz rfl (by rw[ajJ,if_pos hg71,hfin];rfl)
  ·
   exact rz rfl (by rw[ajJ,if_neg hg71,hfin];rfl)
section
variable {α:Type} (c:α→α→Int)
def acV(x:α):List α→List α
 |[]=>[x]
 |u::t=>if c u x<0 then u::acV x t else if c u x=0 then u::t else x::u::t
def aj4(x:α)(xs:List α):Nat:=(xs.takeWhile fun u=>decide (c u x<0)).length
theorem ahL(x:α)(xs:List α):aj4 c x xs≤xs.length:=(List.takeWhile_sublist _).length_le
theorem adm{x:α}{xs:List α}{n:Nat}(h1:n≤xs.length)(h2: ∀j (h:j<xs.length),j<n→c xs[j] x<0)(h3: ∀h:n<xs.length,¬c xs[n] x<0):aj4 c x xs=n:=
 aeN h1 (fun j h hj=>decide_eq_true (h2 j h hj)) (fun h=>decide_eq_false (h3 h))
theorem aeU{x:α}: ∀{xs:List α} {n:Nat},aj4 c x xs=n→(h:n<xs.length)→c xs[n] x=0→acV c x xs=xs
 |[],n,_,h,_=>by simp at h
 |u::t,n,hn,h,e=>by
  rw[acV]
  unfold aj4 at hn
  rw[pV] at hn
  by_cases hu:c u x<0
  ·rw[if_pos hu]
   rw[if_pos (by simpa using hu)] at hn
   obtain⟨k,rfl⟩: ∃k,n=k+1:=⟨n-1,by simp at hn;omega⟩
   rw[aeU (xs:=t) (n:=k) (by unfold aj4;simpa using hn) (by simpa using h) (by simpa using e)]
  ·rw[if_neg (by simpa using hu)] at hn
   simp at hn;subst hn
   rw[if_neg hu,if_pos (by simpa using e)]
theorem acf{x:α}: ∀{xs:List α} {n:Nat},aj4 c x xs=n→(∀h:n<xs.length,c xs[n] x≠0)→acV c x xs=xs.take n++x::xs.drop n
 |[],n,hn,_=>by simp[aj4] at hn;subst hn;rfl
 |u::t,n,hn,e=>by
  rw[acV]
  unfold aj4 at hn
  rw[pV] at hn
  by_cases hu:c u x<0
  ·rw[if_pos hu]
   rw[if_pos (by simpa using hu)] at hn
   obtain⟨k,rfl⟩: ∃k,n=k+1:=⟨n-1,by simp at hn;omega⟩
   rw[acf (xs:=t) (n:=k) (by unfold aj4;simpa using hn) (fun h=>by have:=e (by simpa using h);simpa using this)]
   simp
  ·rw[if_neg (by simpa using hu)] at hn
   simp at hn;subst hn
   have:=e (by simp)
   rw[if_neg hu,if_neg (by simpa using this)];rfl
theorem ait(x:α): ∀(xs:List α),(acV c x xs).length≤xs.length+1
 |[]=>bQ _
 |u::t=>by
  have:=ait x t
  rw[acV]
  split
  ·simp;omega
  ·split<;>simp
theorem alv{x y:α}: ∀{xs:List α},y∈acV c x xs→y=x∨y∈xs
 |[],h=>by rw[acV,aU] at h;exact .inl h
 |u::t,h=>by
  rw[acV] at h
  split at h
  ·rcases aW.1 h with rfl|h
   ·exact .inr aQ
   ·rcases alv h with h|h
    ·exact .inl h
    ·exact .inr (aX _ h)
  ·split at h
   ·exact .inr h
   ·rcases aW.1 h with rfl|h
    ·exact .inl rfl
    ·exact .inr h
def ahn(l:List α):List α:=l.foldl (fun out x=>acV c x out) []
theorem ag6: ∀(l o:List α),(l.foldl (fun out x=>acV c x out) o).length≤l.length+o.length
 |[],o=>by simp
 |x::t,o=>by
  have:=ag6 t (acV c x o)
  have:=ait c x o
  simp only[jR,bV];omega
theorem afy{y:α}: ∀{l o:List α},y∈l.foldl (fun out x=>acV c x out) o→y∈l∨y∈o
 |[],o,h=> .inr h
 |x::t,o,h=>by
  rcases afy (l:=t) h with h|h
  ·exact .inl (aX _ h)
  ·rcases alv c h with rfl|h
   ·exact .inl aQ
   ·exact .inr h
end
theorem akz{x:Rat}: ∀{l:List Rat},ama x l=acV aa2 x l
 |[]=>rfl
 |u::t=>by
  have e1:aa2 u x<0↔u<x:=ajW u x
  have e2:aa2 u x=0↔u=x:=aeE u x
  rw[ama,acV,akz (l:=t)]
  by_cases h:u<x
  ·rw[if_pos h,if_pos (e1.2 h)]
  ·rw[if_neg h,if_neg (fun e=>h (e1.1 e))]
   by_cases h2:u=x
   ·rw[if_pos h2,if_pos (e2.2 h2)]
   ·rw[if_neg h2,if_neg (fun e=>h2 (e2.1 e))]
theorem abu{α β:Type}{f:α→β}{l:List α}{k:Nat}{x:α}(h:l[k]? =some x):(l.take k).map f++[f x]=(l.take (k+1)).map f:=by
 rw[iU,h,bJ];rfl
theorem aAZ{a i:Nat}[ha:BN a i](hi:i≤400000000:=by decide):PF GB prog 144 [dN a] (dN a):=by
 have hl:=aaE (dg a)
 have hb:=aa8 ha.h
 refine fn func144 J J ntmps144 J J (fun C=>?_)
 refine ro0 J J<|ap ((dg a).map dU) J J (anv _) rfl<|?_
 refine fzE 5 rfl ?_
 exact rz J J
theorem avZ{z:Int}{i:Nat}[hz:BI z i](hi:i≤400000000:=by decide):PF GB prog 143 [eI z] (eI z):=by
 refine fn func143 J J ntmps143 J J (fun C=>?_)
 refine cl rfl (aAZ (a:=z.natAbs) (i:=i) (ha:=⟨hz.h⟩) hi) rfl<|?_
 exact rz J J
theorem aEN{l:LnQ}(hl:BL l 96):PF GB prog 124 [eL l] (eL l):=by
 haveI h1:BI l.a 96:=⟨hl.a⟩
 haveI h2:BI l.b 96:=⟨hl.b⟩
 haveI h3:BI l.c 96:=⟨hl.c⟩
 refine fn func124 J J ntmps124 J J (fun C=>?_)
 refine cl rfl (avZ (z:=l.a)) rfl<|cl rfl (avZ (z:=l.b)) rfl<|cl rfl (avZ (z:=l.c)) rfl<|?_
 exact rz J J
theorem aFK{ds:List Nat}(hd:DOk ds)(hn:ds.length≤1000000):PF GB prog 134 [dLi ds] (dN (dv ds)):=by
 have hm:=aaE ds
 refine fn func134 J J ntmps134 J J (fun C=>?_)
 refine ro0 J J<|ap (ds.map dU) J J (anv _) rfl<|fz 5 J J<|cl rfl (af3 (ds:=ds) (by omega)) rfl<|?_
 exact rz rfl (by unfold dN;rw[ado hd];rfl)
theorem aF1{neg:Bool}{ds:List Nat}(hd:DOk ds)(hn:ds.length≤1000000):PF GB prog 136 [.ag [.v (.bool neg),dLi ds]] (eI (ahI neg ds)):=by
 refine fn func136 J J ntmps136 J J (fun C=>?_)
 refine cl rfl (aFK hd hn) rfl<|cl rfl acT rfl<|?_
 exact rz J J
def rlD(r:RL):DV:= .tp [if r.nm then eL r.l else .ag [.v (.bool false), .sl [], .v (.bool false), .sl [], .v (.bool false), .sl []],vB (decide (r.nm∧r.l.ok))]
def smB(n:Int)(ls:List (List Nat)):Bool:=ls.all fun d=>decide ((d.length:Int)≤n)
def RL.smB(n:Int)(r:RL):Bool:=Sx.smB n [r.da,r.db,r.dc]
def rlB(n:Int)(ls:List RL):Bool:=ls.all fun r=>r.smB n
theorem aD8{n i:Nat}[h:BN n i](hi:i≤20000:=by decide):PF GB prog 134 [dN n] (dN n):=by
 have hl:=aa8 h.h
 have:=aFK (GB:=GB) (ds:=dg n) (afc n) (by omega)
 rw[aaX,←ay6] at this;exact this
theorem avh(z:Int):ahI (decide (z<0)) (dg z.natAbs)=z:=by
 unfold ahI
 rw[aaX]
 split<;>(rename_i h;simp at h;omega)
theorem aEW{z:Int}{i:Nat}[h:BI z i](hi:i≤20000:=by decide):PF GB prog 136 [eI z] (eI z):=by
 have hl:=aa8 h.h
 have:=aF1 (GB:=GB) (neg:=decide (z<0)) (ds:=dg z.natAbs) (afc _) (by omega)
 rw[avh,←ay6] at this;exact this
theorem aD0{n:Nat}(h:0<n): ¬((((dg n).map dU).length:Nat):Int)=0:=by
 rw[aJ]
 have:=acB (n:=n)
 omega
instance BQ.m1':BQ (((-1:Int):Int):Rat) 2:=⟨by decide,by decide⟩
instance BQ.m1:BQ (-1:Rat) 2:=⟨by decide,by decide⟩
theorem aFg{q:Rat}{i:Nat}[h:BQ q i](hi:i≤20000:=by decide):PF GB prog 60 [eR q] (eQ q):=by
 have hd:=q.den_pos
 refine fn func60 J J ntmps60 J J (fun C=>?_)
 refine cl (fu:=⟨8⟩) rfl (aD8 (n:=q.den) hi) rfl<|knF rfl (by show some (decide _)=some false;rw[decide_eq_false (aD0 hd)]) rfl<|cl rfl (aEW (z:=q.num) hi) rfl<|?_
 refine cl rfl (akQ (x:=q.num) (d:=q.den) hd (by omega) (by omega)) rfl<|?_
 exact rz rfl (by rw[sZ];rfl)
theorem axz{q:Rat}{i:Nat}[h:BQ q i](hi:i≤400000000:=by decide):PF GB prog 69 [eQ q] (eR q):=by
 refine fn func69 J J ntmps69 J J (fun C=>?_)
 refine cl rfl (avZ (z:=q.num) hi) rfl<|cl rfl (afa (q:=q)) rfl<|cl rfl (aAZ (a:=q.den) hi) rfl<|?_
 exact rz J J
theorem aGr{p:PtQ}{i:Nat}[h:BPt p i](hi:i≤20000:=by decide):PF GB prog 19 [ePt p] (eP p):=by
 refine fn func19 J J ntmps19 J J (fun C=>?_)
 refine cl rfl (aFg (q:=p.x) hi) rfl<|cl rfl (aFg (q:=p.y) hi) rfl<|?_
 exact rz J J
theorem aBW{p:PtQ}{i:Nat}[h:BPt p i](hi:i≤20000:=by decide):PF GB prog 25 [eP p] (ePt p):=by
 refine fn func25 J J ntmps25 J J (fun C=>?_)
 refine cl rfl (axz (q:=p.x) (i:=i) (by omega)) rfl<|cl rfl (axz (q:=p.y) (i:=i) (by omega)) rfl<|?_
 exact rz J J
theorem aav{α:Type}(f:α→DV)(l:List α):(l.map f).length=l.length:=aJ ..
theorem ah5(ps:List PtQ):ads 6 (ps.map eP):=fun d hd=>by
 obtain⟨u,_,rfl⟩:=bU.1 hd;exact⟨rfl,rfl⟩
theorem aA7(ps:List PtQ):ads 6 (ps.map ePt):=fun d hd=>by
 obtain⟨u,_,rfl⟩:=bU.1 hd;exact⟨rfl,rfl⟩
theorem aD4{ps:List PtQ}(hb: ∀p∈ps,BPt p 1200)(hn:ps.length≤1000000):PF GB prog 222 [.sl (ps.map ePt)] (.sl (ps.map eP)):=by
 have hm:=aav ePt ps
 refine fn (fu:=⟨15⟩) func222 J J ntmps222 J J (fun C=>?_)
 refine eqF 7 (.d (vI (ps.length:Nat))) rfl (by rw[hm]<;>rfl) ?_
 refine gx rfl<|?_
 refine nr 3 3 58 6 J J J ?_
 refine lp (X:=Nat) (fun k=>[(8, .d (vI (k:Nat))),(3, .rw 3)]) (fun k=>[(3,some (.b 58 6 ((ps.take k).map eP) true))]) (fun k=>k≤ps.length) (fun k=>ps.length-k) 0 rfl (bZ _) (fun _=>rfl) (fun k hk=>?_)
 have hml:=aav eP (ps.take k)
 rw[cV] at hml
 refine br J J J (fun hc9=>?_) (fun hc9=>?_)
 ·
  obtain⟨z,hz⟩: ∃s,ps[k]? =some s:=⟨_,aZ (by omega)⟩
  have hzm:=aM hz
  refine ix _ rfl (aas hz) rfl<|cl rfl (aGr (p:=z) (h:=hb z hzm)) rfl<|rf J J<|ap ((ps.take (k+1)).map eP) rfl (abu hz) (ah5 [z]) rfl<|?_
  refine rnE 16 3 rfl ?_
  exact at_ (k+1) ⟨(by omega),(by omega)⟩
 ·
  obtain rfl:k=ps.length:=by omega
  refine fzE 3 rfl ?_
  exact rz rfl (by rw[fX];rfl)
theorem aCC{ps:List PtQ}(hb: ∀p∈ps,BPt p 1200)(hn:ps.length≤1000000):PF GB prog 223 [.sl (ps.map eP)] (.sl (ps.map ePt)):=by
 have hm:=aav eP ps
 refine fn (fu:=⟨15⟩) func223 J J ntmps223 J J (fun C=>?_)
 refine eqF 7 (.d (vI (ps.length:Nat))) rfl (by rw[hm]<;>rfl) ?_
 refine gx rfl<|?_
 refine nr 3 3 35 6 J J J ?_
 refine lp (X:=Nat) (fun k=>[(8, .d (vI (k:Nat))),(3, .rw 3)]) (fun k=>[(3,some (.b 35 6 ((ps.take k).map ePt) true))]) (fun k=>k≤ps.length) (fun k=>ps.length-k) 0 rfl (bZ _) (fun _=>rfl) (fun k hk=>?_)
 have hml:=aav ePt (ps.take k)
 rw[cV] at hml
 refine br J J J (fun hc9=>?_) (fun hc9=>?_)
 ·
  obtain⟨z,hz⟩: ∃s,ps[k]? =some s:=⟨_,aZ (by omega)⟩
  have hzm:=aM hz
  refine ix _ rfl (aas hz) rfl<|cl rfl (aBW (p:=z) (h:=hb z hzm)) rfl<|rf J J<|ap ((ps.take (k+1)).map ePt) rfl (abu hz) (aA7 [z]) rfl<|?_
  refine rnE 16 3 rfl ?_
  exact at_ (k+1) ⟨(by omega),(by omega)⟩
 ·
  obtain rfl:k=ps.length:=by omega
  refine fzE 3 rfl ?_
  exact rz rfl (by rw[fX];rfl)
theorem ayf{p q:PtQ}{i j:Nat}[hp:BPt p i][hq:BPt q j](hi:i≤100000:=by decide)(hj:j≤100000:=by decide):PF GB prog 155 [eP p,eP q] (eP (adB p q (-1))):=by
 refine fn func155 J J ntmps155 J J (fun C=>?_)
 refine cl rfl (alz (n:= -1) (by decide) (by decide)) rfl<|cl rfl (amx (p:=p) (q:=q) (c:=((-1:Int):Rat)) (i:=i) (j:=j) (k:=2) (by omega) (by omega)) rfl<|?_
 exact rz rfl (by rw[show((-1:Int):Rat)= -1 from rfl];rfl)
theorem aqr{a b c:PtQ}{i j k:Nat}[ha:BPt a i][hb:BPt b j][hc:BPt c k](hi:i≤80000:=by decide)(hj:j≤80000:=by decide)(hk:k≤80000:=by decide):PF GB prog 312 [eP a,eP b,eP c] (vI (alM a b c)):=by
 refine fn func312 J J ntmps312 J J (fun C=>?_)
 refine cl rfl (ayf (p:=b) (q:=a) (i:=j) (j:=i) (by omega) (by omega)) rfl<|cl rfl (ayf (p:=c) (q:=a) (i:=k) (j:=i) (by omega) (by omega)) rfl<|?_
 refine cl rfl (ak5 (p:=adB b a (-1)) (q:=adB c a (-1)) (by omega) (by omega)) rfl<|cl rfl (q_S (q:=(adB b a (-1)).cross (adB c a (-1)))) rfl<|?_
 exact rz J J
def agI(p q:PtQ):Int:=if aa2 p.x q.x≠0 then aa2 p.x q.x else aa2 p.y q.y
theorem akT{p q:PtQ}{i j:Nat}[hp:BPt p i][hq:BPt q j](hi:i≤100000:=by decide)(hj:j≤100000:=by decide):PF GB prog 261 [eP p,eP q] (vI (agI p q)):=by
 refine fn func261 J J ntmps261 J J (fun C=>?_)
 refine cl rfl (q_C (a:=p.x) (b:=q.x) (by omega) (by omega)) rfl<|?_
 refine br J J J (fun hc12=>?_) (fun hc12=>?_)
 ·
  exact rz rfl (by unfold agI;rw[if_pos hc12];rfl)
 ·
  refine cl rfl (q_C (a:=p.y) (b:=q.y) (by omega) (by omega)) rfl<|?_
  exact rz rfl (by unfold agI;rw[if_neg hc12];rfl)
def ars(l:LnQ):Bool:=decide (l.a<0∨(l.a=0∧l.b<0))
def LnQ.canon(l:LnQ):LnQ:=if ars l then l.rev else l
theorem ag0(a:Int):a.sign<0↔a<0:=by
 rcases kU a 0 with h|h|h
 ·rw[dS h];omega
 ·subst h;simp
 ·rw[eJ h];omega
theorem am8(a:Int):a.sign=0↔a=0:=fK
theorem ax7{l:LnQ}(h:l.a<0∨(l.a=0∧l.b<0)):DV.tp [eL l.canon,vB (ars l)]= .tp [eL l.rev,vB true]:=by
 unfold LnQ.canon ars;rw[decide_eq_true h];rfl
theorem as3{l:LnQ}(h: ¬(l.a<0∨(l.a=0∧l.b<0))):DV.tp [eL l.canon,vB (ars l)]= .tp [eL l,vB false]:=by
 unfold LnQ.canon ars;rw[decide_eq_false h];rfl
theorem apu{l:LnQ}[hl:LB l]:PF GB prog 89 [eL l] (.tp [eL l.canon,vB (ars l)]):=by
 refine fn func89 J J ntmps89 J J (fun C=>?_)
 refine cl rfl (akE (z:=l.a)) rfl<|?_
 refine cs 10 J J J (fun hg10=>?_) (fun hg10=>?_)
 ·
  refine cl rfl (aiE (l:=l)) rfl<|?_
  exact rz rfl (by rw[ax7 (.inl ((ag0 _).1 hg10))];rfl)
 ·
  refine cs 13 J J J (fun hg13=>?_) (fun hg13=>?_)
  ·
   refine cl rfl (akE (z:=l.b)) rfl<|?_
   refine br J J J (fun hc19=>?_) (fun hc19=>?_)
   ·
    refine cl rfl (aiE (l:=l)) rfl<|?_
    exact rz rfl (by rw[ax7 (.inr ⟨(am8 _).1 hg13,(ag0 _).1 hc19⟩)];rfl)
   ·
    exact rz rfl (by rw[as3 (fun e=>e.elim (fun e=>hg10 ((ag0 _).2 e)) (fun e=>hc19 ((ag0 _).2 e.2)))];rfl)
  ·
   exact rz rfl (by rw[as3 (fun e=>e.elim (fun e=>hg10 ((ag0 _).2 e)) (fun e=>hg13 ((am8 _).2 e.1)))];rfl)
instance LB.canon (l:LnQ) [h:LB l]:LB l.canon:=by unfold LnQ.canon;split;exact LB.rev h;exact h
theorem awe{l:LnQ}(h:l.ok):l.canon.ok:=by unfold LnQ.canon;split;exact h.rev;exact h
end Go.Sx
end
