import Derived.Test.YthhjilnhmkheeaaGreatDoorMr21
import Derived.Test.YthhjilnhmkheeaaGreatDoorCards
import Derived.Test.YthhjilnhmkheeaaGreatDoorTie
import Derived.WalkKit
import Derived.ProofKit
import Derived.OpenShut
import Derived.Deep.DeepHandedRow
import Derived.Deep.DeepWitnessRowRef
import Derived.LaidMore
import Derived.Lib.LaidTab
import Derived.SizedLaws
import Derived.Stop.LaidErr
import Derived.MakeChecks
set_option linter.all false
set_option maxHeartbeats 4000000
set_option maxRecDepth 100000
section
namespace Go.Sx
open Go Go.Proofs Tryz
variable {GB:Gh}
def zO{ds:List aa}{i:Nat}(hb: ∀d∈ds,aE d i)(hi:i<=10000000)(hn:ds.length<=10000000)(ht:xf ds):PW GB prog 171 [none,some (.v (.func (.func 172) #[] #[]))] 6 119 (ds.map eZ) (.tp []) ((qE cF ds).map eZ):=
 ZW (GB:=GB) Tryz.sortPt ⟨_,func171,J,J⟩ isAgg119 sizeOf119 eZ (fun d=>aE d i) (fun x=>⟨_,J,J,J⟩) cF S4 ⟨_,func172,J,J⟩ (fun x y hx hy=>JS (i:=i) (j:=i) hi hi) hb we
  (fun x hx y hy h k=>ht x hx y hy (EK (by rw[<-nC];exact h) (by rw[<-nC];exact k)))
def zU{ds:List aa}{i:Nat}(hb: ∀d∈ds,aE d i)(hi:i<=10000000)(hn:ds.length<=10000000)(ht:xf ds):PB GB prog 107 (e8 [none]) 6 119 (ds.map eZ) (fun w=> .v (.slice w.a w.n w.c)) ((jb ds).map eZ):=by
 have hsm: ∀d∈qE cF ds,aE d i:=fun d hd=>hb d ((zz cF ds).mem_iff.1 hd);have hsl:(qE cF ds).length=ds.length:=(zz cF ds).length_eq;refine uF func107 J J ntmps107 J J (fun C=>?_);refine cw _ J (zO hb hi hn ht) J J<|cq ((jb ds).map eZ) J (ayj (i0:=i) hsm we hi) (by rw[Me ht]) J<|?_;exact nB J J J J
theorem zQ{t:Tr}(hb:t.all LB)(p:aa): ∀d∈fi t p,aE d 500:=fun d hd=>by
 obtain⟨l,h1,h2⟩:=q6.1 hd;haveI:=sB.1 hb l (pq h1).1;rcases h2 with rfl|rfl<;>infer_instance
theorem zS{ds:List aa}{i:Nat}(h: ∀d∈ds,aE d i)(h2:2<=i): ∀v∈lE ds,aE v (i+i+1):=fun v hv=>by
 have up: ∀{q:aa},aE q i->aE q (i+i+1):=fun hq=>⟨hq.x.mono we,hq.y.mono we⟩;unfold lE at hv;split at hv
 .rw[aV] at hv
  subst hv;exact⟨BQ.mono (k:=2) ⟨oma,oma⟩ we,BQ.mono (k:=2) ⟨oma,oma⟩ we⟩
 .obtain⟨k,hk,rfl⟩:=aS.1 hv
  have hk':=dS.1 hk;have g: ∀{j:Nat},j<ds.length->aE (ds.getD j ⟨0,0⟩) i:=fun{j} hj=>by
   rw[aJ,aZ hj];exact h _ (bN hj)
  haveI:=g hk';haveI:=g (dQ (k+1) (show 0<ds.length by omega));unfold pO;split
  .exact inferInstance
  .exact up inferInstance
def zP(ds:List aa):(lE ds).length<=ds.length+1:=by
 unfold lE;split
 .simp
 .rw[aK,pN];omega
def zG{vs:List aa}{f:aa->Bool}{k:Nat}{v:aa}(h:vs[k]? =some v):(vs.drop k).any f=(f v||(vs.drop (k+1)).any f):=by
 obtain⟨h1,h2⟩:=bQ.1 h;rw[bU h1,h2,List.any_cons]
def zH{vs:List aa}{f:aa->Bool}{k:Nat}{v:aa}(h:vs[k]? =some v):(vs.drop k).all f=(f v&&(vs.drop (k+1)).all f):=by
 obtain⟨h1,h2⟩:=bQ.1 h;rw[bU h1,h2,List.all_cons]
def zL{b c:Bool}:PF GB prog 110 [vB b,vB c] (vI (if b&&c then 2 else if b then 1 else 0)):=by
 refine fn func110 J J ntmps110 J J (fun C=>?_);refine j' 7 J J J (fun hg7=>?_) (fun hg7=>?_)
 .refine bb J J J (fun hc5=>?_) (fun hc5=>?_)
  .exact rz J (by subst hg7 hc5;rfl)
  .refine bb J J J (fun hc10=>?_) (fun hc10=>?_)
   .exact rz J (by subst hg7 hc5;rfl)
   .subst hg7;cases hc10
 .refine bb J J J (fun hc10=>?_) (fun hc10=>?_)
  .subst hg7;cases hc10
  .exact rz J (by subst hg7;rfl)
theorem okr{p:Prop}(h:p:=by dsimp only;exact⟨⟨by rw[<-h1,zG hx,hc28];simp,by rw[<-h2,zH hx,hc28];simp,we⟩,we⟩):p:=h
def zN{t:Tr}{p:aa}{i:Nat}[hp:aE p i](hb:t.all LB)(ho:t.all ab.ok)(hs:t.size<=400000)(hi:i<=10000000:=by decide):PF GB prog 57 [eU t,eZ p] (vI (pe t p)):=by
 have hrl:=Fo t p;have hrb:=zQ hb p;have hrt:=VH ho p;have hdb: ∀d∈jb (fi t p),aE d 500:=fun d hd=>hrb d ((Q9 hrt d).1 hd);have hdl:(jb (fi t p)).length<=(fi t p).length:=by rw[<-Me hrt];exact dJ (Wj _) (Nat.le_of_eq (zz cF _).length_eq)
 have hsb:=zS hdb oma;obtain⟨vs,hvs⟩: ∃vs,vs=lE (jb (fi t p)):=⟨_,rfl⟩;have hvl:vs.length<=(jb (fi t p)).length+1:=by rw[hvs];exact zP _
 rw[<-hvs] at hsb;have hml:(vs.map eZ).length=vs.length:=aK ..;refine fn func57 J J ntmps57 J J (fun C=>?_);refine Qu ((fi t p).map eZ) J (AX (p:=p) (o:=[]) hi hb (by rw[gQ];omega)) J J<|cq ((jb (fi t p)).map eZ) J (zU hrb oma we hrt) J J<|fz 14 J J<|cl (fu:=⟨0⟩) J (axt (ds:=jb (fi t p)) (i:=500) hdb we) J<|ah 15 (.d (.sl (vs.map eZ))) J (by rw[hvs])<|gx (fu:=⟨1⟩) J<|ah 16 (.d (vI (vs.length:Nat))) J omr<|gx J<|Sj 5 _ J J<|Sj 6 _ J J<|lp (X:=Bool×Bool×Nat) (fun⟨a,c,k⟩=>[(17, .d (vI (k:Nat))),(5, .d (vB a)),(6, .d (vB c))]) (fun⟨a,c,k⟩=>[]) (fun⟨a,c,k⟩=>(a||(vs.drop k).any (fun v=>(gI t p v).1))=uj t p/\(c&&(vs.drop k).all (fun v=>(gI t p v).1))=zr t p/\k<=vs.length) (fun⟨a,c,k⟩=>vs.length-k) ⟨false,true,0⟩ J ⟨by rw[hvs];simp[uj],by rw[hvs];simp[zr],bS _⟩ (fun _=>J) (fun⟨a,c,k⟩ hk=>?_)
 try dsimp only at hk⊢
 obtain⟨h1,h2,h3⟩:=hk;refine br J J J (fun hc18=>?_) (fun hc18=>?_)
 .
  obtain⟨v,hx⟩: ∃v,vs[k]? =some v:=⟨_,aZ we⟩;haveI:=hsb v (aT hx);refine ix _ J (dP hx) J<|cl J (UU (t:=t) (p:=p) (v:=v) (i:=i) (j:=500+500+1) hb hi oma) J<|bb J J J (fun hc28=>?_) (fun hc28=>?_)
  .
   refine RC 5 _ J J<|at_ ⟨true,c,k+1⟩ okr
  .
   refine RC 6 _ J J<|at_ ⟨a,false,k+1⟩ okr
 .
  obtain rfl:k=vs.length:=by omega
  rw[fR] at h1 h2;have e1:a=uj t p:=by simpa using h1
  have e2:c=zr t p:=by simpa using h2
  refine cl J (zL (b:=a) (c:=c)) J<|rz J (by rw[e1,e2];rfl)
def zT{k i:Nat}{t:Tr}{p:aa}[hp:aE p i](h:ju k t)(hi:i<=10000000:=by decide):PF GB prog 20 [eA t,o5 p] (.tp [vI (pe t p), .v .nilIface]):=by
 have hts:=h.s;refine fn func20 J J ntmps20 J J (fun C=>?_);refine cl (fu:=⟨11⟩) J (Li h) J<|rk 13 J<|gx J<|cl J (Z1 (p:=p) (i:=i) we) J<|cl J (zN (t:=t) (p:=p) (i:=i) h.lb h.ok we hi) J<|rz J J
def zV(r:List ZP):(r.map ZP.q).map eP=r.map gP:=by rw[qK];rfl
def zM{p q:ZP}(hp:ZP.le 100 p)(hq:ZP.le 100 q): ∃z:Int,p.q.cross q.q=(z:Rat)/\z.natAbs<=20000:=by
 refine⟨p.1*q.2-p.2*q.1,?_,?_⟩
 .unfold aa.cross ZP.q iP
  dsimp only;rw[kW,cS,cS]
 .have a:(p.1*q.2).natAbs<=100*100:=by rw[iR];exact iK hp.1 hq.2
  have b:(p.2*q.1).natAbs<=100*100:=by rw[iR];exact iK hp.2 hq.1
  omega
def zI: ∀{l:List (aa×aa)},(∀x∈l,∃z:Int,x.1.cross x.2=(z:Rat)/\z.natAbs<=20000)-> ∃z:Int,aB (fun x:aa×aa=>x.1.cross x.2) l=(z:Rat)/\z.natAbs<=20000*l.length
 |[],_=>⟨0,J,oma⟩
 |x::t,h=>by
  obtain⟨z,h1,h2⟩:=h x aQ;obtain⟨w,k1,k2⟩:=zI (l:=t) fun y hy=>h y (aX _ hy);refine⟨z+w,?_,?_⟩
  .show x.1.cross x.2+aB _ t=_
   rw[h1,k1,mY]
  .rw[bZ];omega
theorem zJ{r:List ZP}(hr:bD r)(k:Nat):BQ (aB (fun x:aa×aa=>x.1.cross x.2) ((iu (r.map ZP.q)).take k)) 30:=by
 have h6:=hr.n6;have h3:=hr.n3;have mem: ∀i,i<r.length-> ∃p∈r,(r.map ZP.q).getD i ⟨0,0⟩=p.q:=fun i hi=>by
  refine⟨r[i],bN hi,?_⟩;rw[aJ,cV,aZ hi];rfl
 obtain⟨z,h1,h2⟩:=zI (l:=(iu (r.map ZP.q)).take k) fun x hx=>by
  obtain⟨i,hi,rfl⟩:=aS.1 (dT hx);have hi:=dS.1 hi;rw[aK] at hi;obtain⟨p,hp,e1⟩:=mem i hi;obtain⟨q,hq,e2⟩:=mem ((i+1)%r.length) (dQ _ we);dsimp only;rw[aK,e1,e2];exact zM (hr.le _ hp) (hr.le _ hq)
 have hl:((iu (r.map ZP.q)).take k).length<=6:=by
  rw[cR];unfold iu;rw[aK,pN,aK];omega
 have hz:z.natAbs<2^29:=by
  have:20000*((iu (r.map ZP.q)).take k).length<=20000*6:=fV _ hl;omega
 rw[h1];haveI:BI z 29:=BV hz;exact(inferInstance:BQ (z:Rat) (29+1))
def zR{b:Nat}{es:List Int}(hes:es.length<=400){r:List ZP}{a':Nat}(hr:r=(lO es 0).1)(ha:a'=(lO es 0).2):PM GB prog 5 (mO [none] b) b 70 [.sl (es.map vI), .v (.int .i64 (0:Nat))] (mC r) [.sl (es.map vI), .v (.int .i64 (a':Nat))]:=by
 subst hr ha;exact aEm hes (bS _)
def zB{es0:List Int}(hb:es0.length<=1125899906842624):PF GB prog 3 [.sl (es0.map vI)] (.v (.bool true)):=by
 obtain⟨es,hee⟩: ∃es,es=es0.take 400:=⟨_,rfl⟩;have hes:es.length<=400:=by rw[hee];simp;omega
 obtain⟨r0,hre⟩: ∃r,r=(lO es 0).1:=⟨_,rfl⟩;obtain⟨a1,ha1⟩: ∃a,a=(lO es 0).2:=⟨_,rfl⟩;obtain⟨hr0,hal⟩:bD r0/\a1<=es.length:=by rw[hre,ha1];exact Up (bS _)
 have hal2:=gO (n:=2) hal;refine fn func3 J J ntmps3 J J (fun C=>?_);refine cn J ((Xx hb hee)) (fun _=>J) (fun _=>?_);refine cm (fu:=⟨4⟩) J (fun b=>(zR hes hre ha1)) J<|mg (X:=List ZP×Nat) (fun⟨r,b⟩=>[(4, .d (mC r))]) (fun⟨r,b⟩=>[(14,some (.o 70 [.d (.sl (es.map vI)), .d (.v (.int .i64 (b:Nat)))] true))]) (fun⟨r,b⟩=>bD r) [4] [14] rfl ?_ (fun _=>J) (fun⟨r,b⟩ hr=>?_)
 .
  refine gx J<|cm J (fun b=>(kw (n:=2) hes hal)) J<|br J J J (fun hc19=>?_) (fun hc19=>?_)
  .
   refine cm J (fun b=>(Yy hes hal2)) J<|at_ ⟨(qb es (aj es 2 a1).2).1,(qb es (aj es 2 a1).2).2⟩ (Z0 hal2).1
  .
   exact at_ ⟨r0,(aj es 2 a1).2⟩ hr0
 .
  try dsimp only at hr⊢
  have h3:=hr.n3;have h6:=hr.n6;refine cl J (X2 (r:=r) hr) J<|bb J J J (fun hc24=>?_) (fun hc24=>?_)
  .
   refine cl (fu:=⟨0⟩) J Sd J<|rk 25 J<|gx J<|rz J J
  .
   have hsb:Cv r=true:=by simpa using hc24
   have hsz:=aEI hr (s7.1 hsb);have hr1: ∀x∈[r],bD x:=fun x hx=>by rw[aV.1 hx];exact hr
   have hne:=Vs hr hsz;have har:=Wc hr hsz;have hcen:=fun h=>Y4 hr h hsz;have hA:=(aAm (fill:=1) hr1 (nb J)).x (Sw _ _) oma;have hbd:=xt hA.ok (Ad (fill:=1) hr1);obtain⟨A,hAe⟩: ∃A,A=d7 [r] 1:=⟨_,rfl⟩;rw[<-hAe] at hA hbd hne har hcen;have hm:=SO hA;have h0:(bF A).length≠0:=fun e=>hne (cW e);haveI:=hm.mom;haveI:=hm.area;obtain⟨W,hW⟩: ∃W,W=qc (r.map ZP.q)*mkRat 1 2:=⟨_,rfl⟩;rw[<-hW] at har;refine rf J J<|cl rfl (aJX (rs:=[r]) hr1 (nb rfl)) rfl<|cl rfl (PL (rs:=[r]) (fill:=1) hr1 (nb rfl)) rfl<|cl (fu:=⟨0⟩) rfl (Qx (rs:=[r]) (fill:=1) hr1 (nb rfl)) rfl<|ah 30 (.d (eT A)) rfl (by rw[hAe])<|gx rfl<|cl rfl (NL hA) rfl<|cl (fu:=⟨11⟩) rfl (Ng hA oma hbd hm) rfl<|ah 37 (.d (.sl ((r.map ZP.q).map eP))) rfl (by rw[zV]<;>rfl)<|gx rfl<|cl (fu:=⟨0⟩) rfl (aF2 (v:=r.map ZP.q) (i:=12) (m:=30) (fun p hp=>by obtain⟨z,hz,rfl⟩:=aS.1 hp;exact nE (hr.le _ hz)) oma (by rw[aK];omega) (zJ hr) oma) rfl<|ah 38 (.d (eQ W)) rfl (by rw[hW])<|gx (fu:=⟨5⟩) rfl<|mg (fu:=⟨4⟩) (X:=Rat) (fun u=>[(8, .ov 8 0)]) (fun u=>[(8,some (.o 57 [.d (.v (.bool (decide ((u).num<0)))), .d (dN (u).num.natAbs), .d (dD (u).den)] true))]) (fun u=>u=iD A) [8] [8] rfl ?_ (fun _=>rfl) (fun u hu=>?_)
   .
    refine gx J<|cl J qA J<|br J J J (fun hc41=>?_) (fun hc41=>?_)
    .
     refine cl J (sA (q:=W)) J<|at_ (-W) (by rw[har,if_pos ((oB _).1 hc41)])
    .
     exact at_ W (by rw[har,if_neg (fun k=>hc41 ((oB _).2 k))])
   .
    try dsimp only at hu⊢
    subst hu;refine ew J J J<|cl (fu:=⟨0⟩) J (U2 (q:=iD A) (i:=2000003)) J<|rk 49 J<|gx J<|cl J (XI hA oma hbd hm h0) J<|cl J (zT (p:=((oF A).scale (iD A)⁻¹)) (i:=3000005+2000003) hA) J<|cl (fu:=⟨0⟩) J Sd J<|rk 63 J<|gx (fu:=⟨2⟩) J<|d9 (fu:=⟨3⟩) J J J<|d9 J J J<|?_
    cases hcz:vt r
    .
     refine cl (fu:=⟨1⟩) J (HB (r:=r) hr.le h6) J<|d9 J (by show some (!vt r)=some true;rw[hcz];rfl) J<|rz J J
    .
     have hcl:=hcen hcz;refine cl (fu:=⟨1⟩) J (HB (r:=r) hr.le h6) J<|ew (fu:=⟨1⟩) J (by show some (!vt r)=some false;rw[hcz];rfl) J<|d9 J (by show some (decide (pe A ((oF A).scale (iD A)⁻¹)=2))=some true;rw[decide_eq_true hcl]) J<|rz J J
end Go.Sx
end
section
namespace Go.Sx
open Go Go.Proofs Go.ChangeShapes Go.WideShapes Go.ChangeAt Go.RowKit
def GW(w:World):Gh:=fun b=>match w.heap[b]? with|some (.cells cs _ _)=>some cs.toList|_=>none
def GW.sub{w:World}{b:Nat}{cs:List Value}(h:GW w b=some cs): ∃ty fz,w.heap[b]? =some (.cells ⟨cs⟩ ty fz):=by
 unfold GW at h;split at h
 .rename_i c t f e
  cases h
  exact⟨t,f,by rw[e]⟩
 .cases h
def GW.of_cell{w:World}{b off:Nat}{v:Value}(h:w.cell? ⟨b,off,none⟩=some v): ∃cs,GW w b=some cs/\cs[off]? =some v:=by
 unfold World.cell? at h;unfold GW;split at h
 .rename_i c t f e
  simp only at e;refine⟨c.toList,by rw[e],?_⟩;simpa using h
 all_goals first|(rename_i e;cases h)|cases h
def bC.below{w w':World}{G G':Gh}{own:List az}(h:bC ⟨w,G,[],[],[],none,fun _=>none⟩ own G' w'):Below w.heap.size w w':=
 ⟨h.os,h.tape,h.output,h.size,fun k hk=>h.keep k hk omc⟩
def isLs_vI{G:Gh}: ∀es:List Int,IsLs G (es.map vI) (es.map fun n=>Value.int .i64 n)
 |[]=> .nil
 |n::t=> .cons (bE.2 J) (isLs_vI t)
def open_vI{base:Nat}{H:Type}{enc:TypeId×Value->H}{P:Program}{w:World}{t e:TypeId}{v:Value}{d:DataW H}{ps:List MemPlace}(ht:P.underlying t=some (.slice e))(he:P.underlying e=some (.int .i64))(hc:P.cellsOf e=1)
  (hv:Value.okWide P w .any base t v)(h:DataW.Trod enc P w 0 (fun _=>true) true t v d ps):
  ∃es:List Int,Is (GW w) (.sl (es.map vI)) v/\(d= .nil/\es=[]\/ ∃sp,d= .slice (lits .i64 es) sp)/\(∀n∈es,(Lit.int .i64 n).wf=true):=by
 obtain⟨a0,len,cap,rfl⟩:=okWide_slice ht hv;obtain⟨fuel,hf⟩:=h;rcases open_ints ht he hc hf with⟨hcs,hx⟩|⟨a,len',cap',zs,hcs,_,hl,hm,hz,hx,hcell,hwz⟩
 .simp[Value.cells] at hcs
  obtain⟨rfl,rfl,rfl⟩:=hcs;simp only[Prod.mk.injEq] at hx;exact⟨[],je.2 ⟨0,⟨none,0,0⟩,[],J,jl.nil _ 0, .nil⟩, .inl ⟨hx.1,J⟩,omc⟩
 .simp[Value.cells] at hcs
  obtain⟨rfl,rfl,rfl⟩:=hcs;simp only[Prod.mk.injEq] at hx;simp only[if_true] at hz;refine⟨zs.take len,je.2 ⟨1,⟨some a,len,cap⟩,(zs.take len).map fun n=>Value.int .i64 n,J,⟨by simp;omega,hl,?_⟩,isLs_vI _⟩, .inr ⟨_,hx.1⟩,fun n hn=>hwz n (dT hn)⟩;by_cases h0:len=0
  .exact .inl (by simp[h0])
  .right
   obtain⟨b,off,spot⟩:=a;have hspot:spot=none:=by simpa[Addr.add] using World.cell?_spot (hcell 0 we)
   subst hspot;have c0: ∀i,i<zs.length->w.cell? ⟨b,off+i,none⟩=some (.int .i64 (zs.getD i 0)):=fun i hi=>by
    have:=hcell i hi;rwa [Go.WideShapes.add_plain] at this
   obtain⟨cs,hcs,_⟩:=GW.of_cell (by have h9:=c0 0 we;rw[gW] at h9;exact h9);refine⟨b,off,cs,J,hcs,fun i hi=>?_⟩;simp only[aK,cR] at hi;obtain⟨cs',hcs',hi'⟩:=GW.of_cell (c0 i we);rw[hcs] at hcs'
   cases hcs'
   rw[lY,axc.2 hi'];simp[aP,List.getD,aZ (show i<zs.length by omega)]
inductive CSh where
 |b
 |i (k:IntKind)
 |sl (ag:Bool) (l:List CSh)
mutual
def Fit:CSh->DV->Prop
 | .b,d=> ∃b,d= .v (.bool b)
 | .i k,d=> ∃n,d= .v (.int k n)/\(Lit.int k n).wf=true
 | .sl ag l,d=> ∃m:List DV,d= .sl m/\m.length<=maxLen/\ ∀x∈m,∃ys,FitL l ys/\((ag=true/\x= .ag ys)\/(ag=false/\ys=[x]))
def FitL:List CSh->List DV->Prop
 |[],ds=>ds=[]
 |s::l,ds=> ∃d t,ds=d::t/\Fit s d/\FitL l t
end
section
variable {H:Type} {enc:TypeId×Value->H} {P:Program} {w:World}
end
end Go.Sx
end
section
namespace Go.Proofs.YthhjilnhmkheeaaGreatDoor
open Go.ChangeShapes Go.WideShapes Go.ChangeAt Go.RowKit Go.Sx
theorem js1:mapsRowed Tryz.pinned.checked.prog=true:=by kernel_rfl
theorem js2:Tryz.pinned.checked.prog.stopsHeard=true:=by kernel_rfl
theorem js3:Tryz.pinned.checked.prog.mayEnter=true:=by kernel_rfl
theorem js4:laidOutB Tryz.prog=true:=by kernel_rfl
end Go.Proofs.YthhjilnhmkheeaaGreatDoor
end
section
namespace Go.Proofs.YthhjilnhmkheeaaGreatDoor.measureRings
open Go.ChangeShapes Go.WideShapes Go.ChangeAt Go.RowKit Go.Sx
theorem own:ownKnob Tryz.prog.godebug=none:=by kernel_rfl
theorem laidOut:laidOutB Tryz.prog=true:=js4
theorem cellsI:Tryz.prog.cellsOf 3=1:=by kernel_rfl
theorem bytesI:Tryz.prog.bytesOf 3=8:=by kernel_rfl
theorem door_met(os:Os)(args:Array Value):laidMetH Tryz.prog Rows.measureRingsRow.laid ((World.doorLaid Tryz.prog 85 os).forCall (fun _ _=>0) ⟨#[],args,[]⟩).memory:=
 laidMetH_of_parts3 (fuel:=8) (laidMet_of_run' 8 omd omd) omd omd
theorem contract(H:Type)(enc:TypeId×Value->H)(W:World)(base:Nat)(args:Array Value)(ds gs:List (DataW H))(before:List MemPlace)
  (hval: ∀(j:Nat) t v,Tryz.f3.params[j]? =some t->args[j]? =some v->Value.okWide Tryz.prog W .any base t v)
  (hW:DataW.Whole enc Tryz.prog Tryz.f3.params.toList Rows.measureRingsSpec.vars false W args.toList ds gs before)
  (hz:(DataW.weightsEach Tryz.prog (Tryz.f3.params.toList++(OpenSpec.ofChange Rows.measureRingsSpec).bare.plain.varTypes Tryz.prog) (ds++gs)).all (· <=reachBytes)=true)(hlaid:laidMetH Tryz.prog Rows.measureRingsRow.laid W):
  Calls Tryz.prog 3 args W fun e W'=> ∃v,e= .returned v/\Rows.measureRingsSpec.post enc Tryz.prog Tryz.f3 false true false false W args v W':=by
 have hW':=hW;obtain⟨p,q,hA0,hV,rfl,_,_⟩:=hW;have hA:DataW.TrodAll enc Tryz.prog W 0 (fun _=>true) true Tryz.f3.params.toList args.toList ds p:=hA0;rw[Tryz.params3] at hA hval hz;obtain⟨v0,d0,hargs,rfl,h0⟩:=trodAll_one hA;obtain rfl:args= #[v0]:=by cases args;simp_all
 obtain⟨rfl,rfl⟩:=trodVars_none hV;clear hA0;simp only[List.append_nil] at hW';have hlt: ∀x∈p,x.block<W.heap.size:=fun x hx=>by simpa using hW'.lt x hx
 obtain⟨es,hI,hd,_⟩:=open_vI Tryz.underlying22 Tryz.underlying3 cellsI (hval 0 22 v0 rfl rfl) h0;have hb:es.length<=1125899906842624:=by
  rcases hd with⟨rfl,rfl⟩|⟨sp,rfl⟩
  .exact Nat.zero_le _
  .have:=sized_slice hz (j:=0) (t:=22) (e:=3) J J Tryz.underlying22
   rw[bytesI] at this;have hr:=reachBytes_lt;have hl:(lits (H:=H) .i64 es).length=es.length:=by simp[lits]
   rw[hl] at this;omega
 have hf:=(zB (es0:=es) hb) (GW W) [v0] (cc.refl _) (.cons hI .nil);refine(hf.run W (fun b cs hg=>GW.sub hg)).mono fun e W' ⟨v,G',he,hr,hv⟩=>?_;rw[bE] at hv;subst hv;subst he;have hn:=hr.below;have t2:=trodAll_mk1 (Below.trod laidOut omd (of_decide_eq_true omd) h0 hn hlt);exact⟨_,J,⟨_,_,_,[],_,[],hW',trodAll_mk1 (shut_bool Tryz.underlying4 _),t2,J,hn.frame _,fun h=>by cases h⟩⟩
theorem reads(os:Os){H:Type}(enc:TypeId×Value->H): ∃places,DataW.whole enc Tryz.prog ((World.doorLaid Tryz.prog 85 os).forCall (fun _ _=>0) ⟨#[], #[.slice none 0 0],[]⟩).memory Tryz.f3.params.toList Rows.measureRingsSpec.vars false #[Value.slice none 0 0].toList 8=some ([.nil],[],places):=
 ⟨[],omd⟩
theorem lifted(os:Os)(started:os.Started)(H:Type)(enc:TypeId×Value->H)(F:Stop.Interp):
  ReturnsInHanded {} Tryz.checked os 3 .any ((OpenSpec.ofChange Rows.measureRingsSpec).preRow enc Tryz.prog Tryz.f3 Rows.measureRingsRow.domain false Rows.measureRingsRow.laid) (((OpenSpec.ofChange Rows.measureRingsSpec).at F).post enc Tryz.prog Tryz.f3 false true false false):=by
 obtain⟨places,hx⟩:=reads os enc;refine returnsInHanded_of_row (C:=Tryz.checked) (s:=OpenSpec.ofChange Rows.measureRingsSpec) own started omd Tryz.func3
  (witness_row_atRef (enc:=enc) (C:=Tryz.checked) false (World.doorLaid Tryz.prog 85 os) #[.slice none 0 0] rfl omd omd omd
   (OpenSpec.preRow_of_cond 8 hx omd (fun k hk=>by cases hk) omd (door_met os _))) ?_
 intro W base args ds gs before hval hW _ _ hz hlaid _ _;exact contract H enc W base args ds gs before hval hW hz hlaid
theorem j1:(Rows.measureRingsRow.inPlace==Tryz.pinned.checked.prog.inPlace 3)=true:=by kernel_rfl
theorem j2:(Rows.measureRingsRow.unfollowed==Tryz.pinned.checked.prog.unfollowed 3)=true:=by kernel_rfl
theorem j3:(Rows.measureRingsRow.recurses==Tryz.pinned.checked.prog.recurses 3)=true:=by kernel_rfl
theorem j4:(Rows.measureRingsRow.named==Tryz.pinned.checked.prog.varsNamed 3)=true:=by kernel_rfl
theorem j5:laidOutB Tryz.pinned.checked.prog=true:=laidOut
theorem j6:mapsRowed Tryz.pinned.checked.prog=true:=js1
theorem j7:Tryz.pinned.checked.prog.mainIs=some (Rows.measureRingsCard.stood.harness.1,Rows.measureRingsCard.stood.harness.2.toList):=by kernel_rfl
theorem j8:false=Rows.measureRingsRow.goesBy Tryz.pinned.checked.prog:=by kernel_rfl
theorem j9:(Rows.measureRingsRow.plainKeys==Tryz.pinned.checked.prog.plainKeys)=true:=by kernel_rfl
theorem j10:(Rows.measureRingsRow.lifted==Tryz.pinned.checked.prog.liftsFinal)=true:=by kernel_rfl
theorem j11:(Tryz.pinned.checked.prog.make==some Rows.measureRingsRow.make)=true:=by kernel_rfl
theorem closed:joinedFacts Tryz.pinned.checked.prog 3 Tryz.f3 (OpenSpec.ofChange Rows.measureRingsSpec).bare Rows.measureRingsRow=true:=by
 unfold joinedFacts;rw[j1,j2,j3,j4,j5,j6,j9,j10,j11,js2,js3]
 kernel_rfl
theorem said:Rows.MeasureRingsSaid:=
 OpenClaim.holds_of_cond 3 Tryz.f3 J J J J J J J ⟨J,J,J,J,J⟩ J J J J J omd Tryz.func3 closed
  (of_decide_eq_true omd) (by unfold Func.isWrapper;first|(rw[if_pos okB];kernel_rfl)|(rw[if_neg okB];exact⟨J,J⟩))
  (fun os started H enc _ F=>by rw[OpenClaim.pre_eq_preRow];exact lifted os started H enc F)
theorem plain(f:FuncId)(fn:Func)(hf:Tryz.pinned.checked.prog.funcNamed "bspregion/bspregionlaw21.MeasureRings" =some f)(hfn:Tryz.pinned.checked.prog.funcs[f]? =some fn):
  false=Tryz.pinned.checked.prog.looks []/\ ∀(j:Nat) t,fn.params[j]? =some t->Tryz.pinned.checked.prog.wantsStandIn t=false:=by
 obtain rfl:f=3:=Option.some.inj ((show Tryz.prog.funcNamed "bspregion/bspregionlaw21.MeasureRings" =some 3 by kernel_rfl).symm.trans hf) |>.symm;obtain rfl:fn=Tryz.f3:=(Option.some.inj (Tryz.func3.symm.trans hfn)).symm;refine⟨omd,fun j t ht=>?_⟩;rw[Tryz.params3] at ht;have hm:=Array.mem_of_getElem? ht;simp only[List.mem_toArray,List.mem_cons,List.not_mem_nil,or_false] at hm;subst hm;exact(show Tryz.prog.wantsStandIn 22=false by kernel_rfl)
theorem card:Rows.MeasureRingsCardSaid:=
 Claim7.holds_tied_plain_at .later [] _ _ _ _ said (fun _ h=>by cases h) omd (fun _ h=>by cases h) measureRings_row_tie J ⟨J,J⟩ j7 J plain j8
#print axioms card
end Go.Proofs.YthhjilnhmkheeaaGreatDoor.measureRings
end
