import Derived.Test.YtefoocgiaegobaaGreatDoorPe18
import Derived.Shelf.SlSortCmp.NoneTotal
import Derived.Test.YtefoocgiaegobaaGreatDoorProg
import Derived.Shelf.SlicesQ.Reverse
import Derived.Shelf.SlLaysE0
import Derived.Test.YtefoocgiaegobaaGreatDoorCards
import Derived.Test.YtefoocgiaegobaaGreatDoorTie
import Derived.WalkKit
import Derived.ProofKit
import Derived.OpenShut
import Derived.Deep.DeepHandedRow
import Derived.Deep.DeepWitnessRowRef
import Derived.LaidMore
import Derived.Lib.LaidTab
import Derived.SizedLaws
import Derived.Stop.LaidErr
import Derived.MakeChecks
set_option linter.all false
set_option maxHeartbeats 2000000
set_option maxRecDepth 100000
section
namespace Go.Sx
open Go Go.Proofs
def yV{v:Value}(h:Go.Sx.flat v=true):v.oneCell'=true:=by cases v<;>first|rfl|cases h
def zM{α:Type}{k:Nat}: ∀(l:List (List α)) (t:Nat),(∀x∈l,x.length=k)->t<l.length*k->l.flatten[t]? =(l[t/k]?).bind (·[t%k]?)
 |[],t,_,h=>by simp at h
 |x::l,t,h,ht=>by
  have hx:=h x aQ;have hk:0<k:=by
   rcases fY k with e|e
   ·subst e;simp at ht
   ·exact e
  rw[kU];by_cases q:t<k
  ·rw[cS (by omega),jU q,fR q];rfl
  ·rw[fV (by omega),hx,zM l (t-k) (fun y hy=>h y (aZ _ hy)) (by rw[bT,cY] at ht;omega)]
   have e1:t/k=(t-k)/k+1:=by rw[Nat.div_eq_sub_div hk (by omega)]
   have e2:t%k=(t-k)%k:=by rw[Nat.mod_eq_sub_mod (by omega)]
   rw[e1,e2];rfl
section
variable {α:Type} [Inhabited α]
def xM(enc:α->List Value)(k:Nat)(hk: ∀x,(enc x).length=k)(d:Array α):(Go.Sort.flatK enc k d).toList=(d.toList.map enc).flatten:=by
 apply kY;intro t;have hlen:(d.toList.map enc).flatten.length=d.size*k:=by
  have: ∀l:List α,(l.map enc).flatten.length=l.length*k:=fun l=>by
   induction l with
   |nil=>simp
   |cons x l ih=>rw[bW,kU,aR,ih,hk,bT,cY];omega
  simpa using this d.toList
 by_cases ht:t<d.size*k
 ·have hk0:0<k:=by
   rcases fY k with e|e
   ·subst e;simp at ht
   ·exact e
  have hi:t/k<d.size:=rM (by rwa [bR]);rw[zM (k:=k) _ _ (fun x hx=>by obtain⟨y,_,rfl⟩:=bJ.1 hx;exact hk y) (by simpa using ht)];simp only[Go.Sort.flatK,nS,Array.toList_range,fU];rw[pU ht];have hj:t%k<(enc d[t/k]).length:=by rw[hk];exact dT _ hk0
  simp only[jJ];rw[getElem!_pos d (t/k) hi,getElem!_pos (enc d[t/k]) (t%k) hj];simp[hi,hj]
 ·rw[dJ (by simp[Go.Sort.flatK];omega),dJ (by rw[hlen];omega)]
def yK(enc:α->List Value)(k:Nat)(w:World)(b m:Nat)(dk:Array α)(os:Array Obj){q:Nat}(hq:q<w.heap.size):
  (sortWorldK enc k w b 0 m dk os).heap[q]? =if q=b then(w.heap[q]?).map (Go.Sort.onCells (Go.Sort.putCells id 0 (Go.Sort.flatK enc k dk))) else w.heap[q]? :=by
 show((w.heap.modify b _)++os)[q]? =_;rw[iL (by simpa using hq),Array.getElem?_modify];by_cases e:b=q
 ·subst e;simp
 ·simp[e,Ne.symm e]
def yR{F:Array Value}{xs rest:List Value}(h:xs.length=F.size):Go.Sort.putCells id 0 F ⟨xs++rest⟩=⟨F.toList++rest⟩:=by
 apply Array.ext';apply kY;intro k;simp only[Go.Sort.putCells,Array.toList_mapIdx,List.getElem?_mapIdx];by_cases hk:k<F.size
 ·rw[cS (by omega),cS (by simpa using hk),aX (by omega)]
  simp[hk]
 ·rw[fV (by omega),fV (by simp;omega),h]
  simp only[iV]
  cases rest[k-F.size]? with
  |none=>rfl
  |some v=>simp[hk]
end
def zG{A:Type}(cf:A->A->Int)(ds:List A):List A:=ds.mergeSort fun x y=>!decide (cf y x<0)
def zB{A:Type}(cf:A->A->Int)(ds:List A):(zG cf ds).Perm ds:=List.mergeSort_perm ..
def zV{A:Type}{cf:A->A->Int}(hO:Go.Sort.SWO (Go.Proofs.ltOf cf))(ds:List A):(zG cf ds).Pairwise fun x y=> ¬cf y x<0:=by
 have:=List.pairwise_mergeSort (le:=fun x y=>!decide (cf y x<0)) (fun a b c h1 h2=>by
  have h1':Go.Proofs.ltOf cf b a=false:=by simpa[Go.Proofs.ltOf] using h1
  have h2':Go.Proofs.ltOf cf c b=false:=by simpa[Go.Proofs.ltOf] using h2
  have:=hO.ntrans c b a h2' h1';simpa[Go.Proofs.ltOf] using this) (fun a b=>by
  cases h1:Go.Proofs.ltOf cf b a with
  |false=>have: ¬cf b a<0:=(by simpa[Go.Proofs.ltOf] using h1);simp;omega
  |true=>
   cases h2:Go.Proofs.ltOf cf a b with
   |false=>have: ¬cf a b<0:=(by simpa[Go.Proofs.ltOf] using h2);simp;omega
   |true=>have:=hO.trans _ _ _ h1 h2;rw[hO.irrefl] at this;cases this) ds
 exact this.imp fun h=>by simpa using h
def xX{P:Program}{ρ:Go.Shelf.Ren}{GB:Gh}(L:SlLaysF0.n6 P ρ)(ha:nO P (ρ.f 6)){s:Nat}(hAg: ∀w,(isAgg (ρ.t 24)).run P w= .ok true w)(hZs: ∀w,(sizeOf (ρ.t 24)).run P w= .ok s w)
  {A:Type}(e:A->DV)(V:A->Prop)(hA: ∀x,∃l,e x= .ag l/\(DV.ag l).okc=true/\l.length=s)(cf:A->A->Int)(hO:Go.Sort.SWO (Go.Proofs.ltOf cf)){g:FuncId}(hg:nO P g)
  (hc: ∀x y,V x->V y->PF GB P g [e x,e y] (.v (.int .i64 (cf x y)))){ty:TypeId}{ds:List A}(hV: ∀x∈ds,V x)(hn:ds.length<4611686018427387904)(hu: ∀x∈ds,∀y∈ds,¬cf x y<0-> ¬cf y x<0->x=y):
  PW GB P (ρ.f 6) [none,some (.v (.func (.func g) #[] #[]))] s ty (ds.map e) (.tp []) ((zG cf ds).map e):=by
 intro G z vs B hgb hB hvs;refine⟨ha,fun w hw=>?_⟩;obtain⟨v1,m1,rfl,q1,hvs⟩:=ba.1 hvs;obtain⟨v2,m2,rfl,q2,hvs⟩:=ba.1 hvs
 cases cA.1 hvs
 rw[aG] at q1 q2;subst q1 q2;obtain⟨es,k1,k2,k3,_⟩:=hB;simp only at k1 k2 k3;have hlen:es.length=ds.length:=by rw[k2.len,aJ]
 by_cases h0:ds=[]
 ·subst h0
  have hes:es=[]:=bU (by simpa using hlen);have hz:z.n=0:=by rw[k1.len,hes];rfl
  rw[hz];refine(AnyF.slices_SortFunc_none L z.a z.c _ w).mono fun r w' ⟨h1,h2⟩=>?_;subst h2;exact⟨_,asB B,G,h1,hw,iD.2 ⟨[],J, .nil⟩,es,k1.asB,by subst hes;show IsLs G ((zG cf []).map e) [];unfold zG;rw[List.mergeSort_nil];exact .nil,k3,fun h=>by cases h⟩
 ·have hpos:0<es.length:=by rw[hlen];exact sV.2 h0
  rcases k1 with⟨e1,_,_⟩|⟨b,rest,lo,e1,e2,e3,e4,e5⟩
  ·rw[e1] at hpos;simp at hpos
  subst e2
  -- elements with their cells
  have lift: ∀{ds:List A} {es:List Value},IsLs G (ds.map e) es->(∀x∈ds,V x)-> ∃qs:List {q:A×List Value//V q.1/\Is G (e q.1) (.agg ⟨q.2⟩)},qs.map (·.1.1)=ds/\qs.map (fun q=>Value.agg ⟨q.1.2⟩)=es:=by
   intro ds
   induction ds with
   |nil=>intro es h _;cases cA.1 h;exact⟨[],rfl,rfl⟩
   |cons x ds ih=>
    intro es h hV;obtain⟨y,n,rfl,g1,g2⟩:=ba.1 h;obtain⟨qs,g3,g4⟩:=ih g2 fun x hx=>hV x (aZ _ hx);obtain⟨l,hl,_⟩:=hA x;have g1':=g1;rw[hl] at g1';obtain⟨m,rfl,_⟩:=c6.1 g1';exact⟨⟨(x,m),hV x aQ,g1⟩::qs,by simp[g3],by simp[g4]⟩
  obtain⟨qs,hq1,hq2⟩:=lift k2 hV;have:Inhabited {q:A×List Value//V q.1/\Is G (e q.1) (.agg ⟨q.2⟩)}:=⟨qs.head (fun e=>by rw[e] at hq1;exact h0 hq1.symm)⟩
  let enc:{q:A×List Value//V q.1/\Is G (e q.1) (.agg ⟨q.2⟩)}->List Value:=fun q=>q.1.2
  have henc: ∀q,(enc q).length=s/\ ∀v∈enc q,Go.Sx.flat v=true:=fun q=>by
   obtain⟨l,hl,h1,h2⟩:=hA q.1.1;have h3:=q.2.2;rw[hl] at h3;obtain⟨m,hm,h4⟩:=c6.1 h3
   cases hm
   exact⟨by show q.1.2.length=s;rw[h4.len,h2],fun v hv=>h4.flat h1 v hv⟩
  have hk: ∀q,(enc q).length=s:=fun q=>(henc q).1;have hqs:qs.toArray.size=es.length:=by rw[mN,<-hq2,aJ]
  have hfl: ∀d:Array {q:A×List Value//V q.1/\Is G (e q.1) (.agg ⟨q.2⟩)},(Go.Sort.flatK enc s d).toList=aC (d.toList.map fun q=>Value.agg ⟨q.1.2⟩):=fun d=>by
   rw[xM enc s hk];unfold aC;rw[List.map_map];rfl
  have hfe:(Go.Sort.flatK enc s qs.toArray).toList=aC es:=by rw[hfl,<-hq2]
  have hown:=hw.hown ⟨b,aC es++rest,ty,false⟩ aQ;obtain⟨hb,hGb,_,_⟩:=hown;simp only at hb hGb;have hblt:=f8 hb;have hH:Go.Sort.HoldsK enc s w b 0 qs.toArray:=by
   intro j hj;refine⟨?_,by simp[World.frozen?,hb]⟩;rw[An hb,dK];have hj':j<(aC es).length:=by rw[<-hfe];simpa using hj
   rw[cS hj',<-hfe];show _=some ((Go.Sort.flatK enc s qs.toArray)[j]!);rw[getElem!_pos _ j hj];simp
  have hsz: ∀dk:Array {q:A×List Value//V q.1/\Is G (e q.1) (.agg ⟨q.2⟩)},dk.size=qs.toArray.size->(aC es).length=(Go.Sort.flatK enc s dk).size:=fun dk hd=>by rw[<-hfe];simp[hd]
  have hblk: ∀(m:Nat) (os:Array Obj) (dk:Array _),dk.size=qs.toArray.size->(sortWorldK enc s w b 0 m dk os).heap[b]? =some (.cells ⟨(Go.Sort.flatK enc s dk).toList++rest⟩ ty (0,0)):=fun m os dk hd=>by
   rw[yK enc s w b m dk os hblt,if_pos J,hb];show some (Obj.cells (Go.Sort.putCells id 0 (Go.Sort.flatK enc s dk) ⟨aC es++rest⟩) ty (0,0))=_;rw[yR (hsz dk hd)]
  have hoth: ∀(m:Nat) (os:Array Obj) (dk:Array _) (q:Nat),q<w.heap.size->q≠b->(sortWorldK enc s w b 0 m dk os).heap[q]? =w.heap[q]? :=fun m os dk q hq hne=>by rw[yK enc s w b m dk os hq,if_neg hne]
  have hsub: ∀(m:Nat) (os:Array Obj) (dk:Array _) (c:Nat) (cs:List Value),G c=some cs-> ∃ty fz,(sortWorldK enc s w b 0 m dk os).heap[c]? =some (.cells ⟨cs⟩ ty fz):=fun m os dk c cs hcs=>by
   obtain⟨ty',fz,h⟩:=hw.sub c cs hcs;exact⟨ty',fz,by rw[hoth m os dk c (f8 h) (fun e=>by subst e;rw[hGb] at hcs;cases hcs)];exact h⟩
  have hsize: ∀(m:Nat) (os:Array Obj) (dk:Array _),w.heap.size<=(sortWorldK enc s w b 0 m dk os).heap.size:=fun m os dk=>by
   show _<=((w.heap.modify b _)++os).size;simp
  have hcmp:Go.Proofs.CmpLays P g #[] enc s (fun q r=>cf q.1.1 r.1.1) b 0 qs.toArray.size w:=by
   intro m os dk _ x y;have hF:=hc x.1.1 y.1.1 x.2.1 y.2.1 G [.agg ⟨x.1.2⟩, .agg ⟨y.1.2⟩] hgb (.cons x.2.2 (.cons y.2.2 .nil));refine(hF.run _ (hsub m os dk)).mono fun r W ⟨v,G',h1,h2,h3⟩=>?_;rw[aG] at h3;subst h3;refine⟨h1,W.drawn-(sortWorldK enc s w b 0 m dk os).drawn,W.heap.extract (sortWorldK enc s w b 0 m dk os).heap.size W.heap.size,?_⟩;have hdr:=h2.dr;have hos:=h2.os;have htp:=h2.tape;have hou:=h2.output;have hkp:=h2.keep;have hss:=h2.size;simp only at hdr hos htp hou hkp hss;generalize sortWorldK enc s w b 0 m dk os=W0 at*
   cases W with
   |mk heap tape drawn os' output=>
    simp only at*;unfold Go.Sort.grow World.drewN;simp only[World.mk.injEq];refine⟨?_,htp,by omega,hos,hou⟩;apply Array.ext_getElem?;intro k;rw[Array.getElem?_append];split
    ·rename_i hk';exact hkp k hk' (by simp)
    ·rename_i hk'
     rw[Array.getElem?_extract];split
     ·congr 1;omega
     ·rw[lR (by omega)]
  have hO':Go.Sort.SWO (Go.Proofs.ltOf fun(q r:{q:A×List Value//V q.1/\Is G (e q.1) (.agg ⟨q.2⟩)})=>cf q.1.1 r.1.1):=⟨fun x=>hO.irrefl x.1.1,fun x y z=>hO.trans x.1.1 y.1.1 z.1.1,fun x y z=>hO.ntrans x.1.1 y.1.1 z.1.1⟩;have hrun:=AnyQ.slices_SortFunc L s hAg hZs enc hk (fun q v hv=>yV ((henc q).2 v hv)) (fun q r=>cf q.1.1 r.1.1) hO' g #[] b 0 z.c qs.toArray w (fun args w=>zj hg args w) hcmp hH hblt (by rw[hqs,hlen];exact hn);have ez:z=⟨some ⟨b,0,none⟩,qs.toArray.size,z.c⟩:=by rw[hqs];exact e1
  have ea:(⟨[Value.slice z.a z.n z.c, .func (.func g) #[] #[]]⟩:Array Value)= #[.slice (some ⟨b,0,none⟩) qs.toArray.size z.c, .func (.func g) #[] #[]]:=by rw[ez]
  rw[ea];refine hrun.mono fun r w' ⟨h1,d',n,os,hp,hs,h2⟩=>?_;subst h2;have hdz:d'.size=qs.toArray.size:=hp.1;have hperm:d'.toList.Perm qs:=by
   have:=hp.2.2;have e1:d'.toList.take qs.length=d'.toList:=bQ (by rw[iV,hdz];simp);simpa[e1] using this
  have hasc:d'.toList.Pairwise fun x y=> ¬cf y.1.1 x.1.1<0:=by
   rw[List.pairwise_iff_getElem];intro i j hi hj hij;have:=hs i j (bL _) hij (by rw[<-hdz];simpa using hj);rw[getElem!_pos d' j (by simpa using hj),getElem!_pos d' i (by simpa using hi)] at this;simpa[Go.Proofs.ltOf] using this
  have hds:d'.toList.map (·.1.1)=zG cf ds:=by
   refine List.Perm.eq_of_pairwise (le:=fun x y=> ¬cf y x<0) (fun x y hx hy k1 k2=>?_) ?_ (zV hO ds) ?_
   ·have m1:x∈ds:=by
     obtain⟨q,hq,rfl⟩:=bJ.1 hx;rw[<-hq1];exact bJ.2 ⟨q,hperm.mem_iff.1 hq,J⟩
    exact hu x m1 y ((zB cf ds).mem_iff.1 hy) k2 k1
   ·rw[qS];exact hasc
   ·refine(hperm.map _).trans ?_
    rw[hq1];exact(zB cf ds).symm
  have hlen':(d'.toList.map fun q=>Value.agg ⟨q.1.2⟩).length=es.length:=by rw[aJ,iV,hdz,hqs]
  have hIs: ∀l:List {q:A×List Value//V q.1/\Is G (e q.1) (.agg ⟨q.2⟩)},IsLs G ((l.map (·.1.1)).map e) (l.map fun q=>Value.agg ⟨q.1.2⟩):=fun l=>by
   induction l with
   |nil=>exact .nil
   |cons q l ih=>exact .cons q.2.2 ih
  have hcell: ∀v∈d'.toList.map (fun q=>Value.agg ⟨q.1.2⟩),(aE v).length=s:=fun v hv=>by
   obtain⟨q,_,rfl⟩:=bJ.1 hv;exact hk q
  refine⟨_,[⟨b,aC (d'.toList.map fun q=>Value.agg ⟨q.1.2⟩)++rest,ty,false⟩],G,h1,?_,iD.2 ⟨[],J, .nil⟩,d'.toList.map (fun q=>Value.agg ⟨q.1.2⟩), .inr ⟨b,rest,false,by rw[hlen'];exact e1,J,d8 _ hcell,?_,by rw[hlen'];exact e5⟩,by rw[<-hds];exact hIs _,hcell,fun h=>by cases h⟩
  ·refine⟨J,J,J,hsize n os d',fun q hq hqm=>hoth n os d' q hq fun e=>hqm (by rw[e];exact aQ),hsub n os d',bz.refl _,fun _ _=>J,fun o ho=>?_,List.pairwise_singleton _ _,?_,fun p hp=>(by cases hp)⟩
   ·rw[aU.1 ho]
    exact⟨by rw[<-hfl];exact hblk n os d' hdz,hGb,(fun h=>by cases h),fun _=>aQ⟩
   ·show w.drawn<=w.drawn+n
    omega
  ·rw[<-e4,d8 _ hcell,e3,hlen']
def wF(l:List ab):Prop:= ∀x∈l,∀y∈l,kG x y=0->x=y
end Go.Sx
end
section
namespace Go.Proofs
open Go.Shelf
def Tryz.sortPt_ren:Go.Shelf.Ren:=⟨fun|6=>316|15=>231|14=>370|28=>332|29=>333|20=>391|21=>392|22=>393|23=>394|24=>395|25=>396|26=>397|27=>398|46=>405|47=>372|48=>373|49=>406|50=>407|57=>410|n=>n,fun|22=>131|24=>141|25=>393|3=>3|39=>355|0=>0|53=>366|55=>251|4=>4|46=>429|45=>428|50=>391|5=>5|9=>9|66=>467|70=>471|76=>486|77=>487|n=>n,fun|n=>n⟩
end Go.Proofs
end
section
namespace Go.Sx
open Go Go.Proofs Tryz


def wN(x:Rat×Bool)(s:Rat):Rat×Bool:=if 0<Int.sign s.num/\(x.2=false\/b9 s x.1<0) then(s,true) else x

def wH:List ZP:=pA 0 0 2 2
structure CvR (r:List ZP):Prop where
 ok:dC r
 cen: ∃c:ab,∀f∈rE r,0<c7 f.1 f.2 c
 one: ∀p,(∀f∈rE r,0<c7 f.1 f.2 p)->mO r p=1
 zer: ∀p,(∃f∈rE r,c7 f.1 f.2 p<0)->mO r p=0
 cvx: ∀f∈rE r,∀g∈rE r,0<=c7 f.1 f.2 g.1/\0<=c7 f.1 f.2 g.2
 onE: ∀p,(∀f∈rE r,0<=c7 f.1 f.2 p)-> ∀f∈rE r,c7 f.1 f.2 p=0->IG f.1 f.2 p
section
variable {r:List ZP} {p:ab}
end
def wS(x y O:Rat):Int:=(if x<=0/\ ¬y<=0/\0<O then 1 else 0)-(if¬x<=0/\y<=0/\O<0 then 1 else 0)
def wM(r:List ZP)(p:ab):Nat->Bool
 |0=>true
 |k+1=>wM r p k&&decide (0<=rA (r.getD k (0,0)).q (ek r k).q p)
def wI(r:List ZP)(p:ab):Nat->Bool
 |0=>false
 |k+1=>wI r p k||decide (rA (r.getD k (0,0)).q (ek r k).q p=0)
def xZ{a:ab}{t:List ab}:lh (a::t) a=((0:Nat):Int):=AS (k:=0) (q:=a) J J ⟨J,J⟩
def yY{a b c:ab}{t:List ab}(h1:a≠b)(h2:a≠c)(h3:b≠c):3<=d9 (a::b::c::t) (a::b::c::t).length:=by
 have ne: ∀{x y:ab},x≠y->(!decide (x.x=y.x/\x.y=y.y))=true:=fun{x y} h=>by
  rw[decide_eq_false (fun k=>h (by cases x;cases y;simp only[ab.mk.injEq] at*;exact k))];rfl
 have e0:=C7 (l:=a::b::c::t) (k:=0) (p:=a) J xZ;have e1:=C7 (l:=a::b::c::t) (k:=1) (p:=b) J (AS (k:=1) (q:=b) J (by simp only[List.take,List.all_cons,List.all_nil,Bool.and_true,ne h1]) ⟨J,J⟩);have e2:=C7 (l:=a::b::c::t) (k:=2) (p:=c) J (AS (k:=2) (q:=c) J (by simp only[List.take,List.all_cons,List.all_nil,Bool.and_true,ne h2,ne h3]) ⟨J,J⟩);have mono: ∀n m,n<=m->d9 (a::b::c::t) n<=d9 (a::b::c::t) m:=by
  intro n m h
  induction m with
  |zero=>rw[show n=0 by omega];exact aL _
  |succ m ih=>
   by_cases k:n=m+1
   ·rw[k];exact aL _
   ·exact dW (ih (by omega)) Nd
 have:=mono 3 (a::b::c::t).length (by simp);have z:d9 (a::b::c::t) 0=0:=J;rw[dK] at e0;rw[show 1+1=2 from J] at e1;rw[show 2+1=3 from J] at e2;omega
def zP{a b c:ZP}{t:List ZP}(ho:dC (a::b::c::t))(h1:a≠b)(h2:a≠c)(h3:b≠c):j0 (a::b::c::t):=
 ⟨ho,yY (t:=t.map ZP.q) (fun e=>h1 (zw e)) (fun e=>h2 (zw e)) (fun e=>h3 (zw e))⟩
def xY{a b c d:Int}(ho:dC (pA a b c d))(h1:a<c)(h2:b<d):j0 (pA a b c d):=
 zP ho (fun e=>by have:=congrArg Prod.fst e;dsimp only at this;omega) (fun e=>by have:=congrArg Prod.fst e;dsimp only at this;omega) (fun e=>by have:=congrArg Prod.snd e;dsimp only at this;omega)
def xV{p u v:ZP}(ho:dC (pm p u v))(h:p9 u v≠0):j0 (pm p u v):=by
 have hu: ∀{a b:ZP},(a=(0,0)\/b=(0,0)\/a=b)->p9 a b=0:=fun{a b} k=>by
  unfold p9;rcases k with rfl|rfl|rfl
  ·simp
  ·simp
  ·rw[sY];omega
 refine zP ho (fun e=>h (hu (.inl ?_))) (fun e=>h (hu (.inr (.inl ?_)))) (fun e=>h (hu (.inr (.inr ?_))))
 ·have e1:=congrArg Prod.fst e
  have e2:=congrArg Prod.snd e;unfold tT at e1 e2;dsimp only at e1 e2;exact Prod.ext (by dsimp only;omega) (by dsimp only;omega)
 ·have e1:=congrArg Prod.fst e
  have e2:=congrArg Prod.snd e;unfold tT at e1 e2;dsimp only at e1 e2;exact Prod.ext (by dsimp only;omega) (by dsimp only;omega)
 ·have e1:=congrArg Prod.fst e
  have e2:=congrArg Prod.snd e;unfold tT at e1 e2;dsimp only at e1 e2;exact Prod.ext (by omega) (by omega)
def wC(n:Int)(d:Nat):Int:=n*zv false d
def xS(n:Int)(d:Nat):(wC n d).natAbs=n.natAbs*d:=by unfold wC;rw[iN,ot]
instance BN.prx (n:Int) (d i j:Nat) [h:BI n i] [k:BN d j]:BN (wC n d).natAbs (i+j):=⟨by rw[xS,fW];exact mZ h.h k.h⟩
def wK(S:List ab)(x:ab)(R:List ab)(k:Nat):List ab:=S.take k++x::(S.drop k++R)
def wJ(S:List ab)(x:ab)(R:List ab)(m:Nat):List ab:=S.take m++x::x::(S.drop (m+1)++R)
def wD(t:Tr)(p:ab):Int:=if Zf t p then 2 else if UE t p then 1 else 0
def wR(t:Tr)(p:ab)(V:List ab)(k:Nat):Bool:=(V.take k).any fun v=>(qB t p v).1
def wU(t:Tr)(p:ab)(V:List ab)(k:Nat):Bool:=(V.take k).all fun v=>(qB t p v).1
def zU{l:List ab}{x:ab}(h:x∈l): ∃i:Nat,i<l.length/\lh l x=(i:Int)/\l.getD i ⟨0,0⟩=x:=by
 cases e:l.findIdx? (fun q=>decide (q.x=x.x/\q.y=x.y)) with
 |none=>
  rw[List.findIdx?_eq_none_iff] at e;have:=e x h;simp at this
 |some i=>
  have e0:=e;rw[List.findIdx?_eq_some_iff_getElem] at e;obtain⟨h1,h2,_⟩:=e;refine⟨i,h1,by unfold lh;rw[e0],?_⟩;have h3:=of_decide_eq_true h2;rw[aK,aX h1,jV];generalize l[i]=q at*
  cases q;cases x
  simp only[ab.mk.injEq] at*;exact h3
def zS(l:List ab): ∀n,d9 l n=((List.range n).filter fun k=>decide (lh l (l.getD k ⟨0,0⟩)=((k:Nat):Int))).length
 |0=>rfl
 |n+1=>by
  rw[d9,List.range_succ,List.filter_append,aR,zS l n];congr 1;by_cases h:lh l (l.getD n ⟨0,0⟩)=((n:Nat):Int)
  ·rw[if_pos h];simp only[mQ,decide_eq_true h,if_true];rfl
  ·rw[if_neg h];simp only[mQ,decide_eq_false h];rfl
def yT{F:List Nat}{i j k:Nat}(hi:i∈F)(hj:j∈F)(hk:k∈F)(h1:i≠j)(h2:i≠k)(h3:j≠k):3<=F.length:=by
 match F with
 |[]=>cases hi
 |[a]=>simp at hi hj;omega
 |[a,b]=>simp at hi hj hk;omega
 |a::b::c::t=>simp
def xN{l:List ab}{a b c:ab}(ha:a∈l)(hb:b∈l)(hc:c∈l)(h1:a≠b)(h2:a≠c)(h3:b≠c):3<=d9 l l.length:=by
 obtain⟨i,i1,i2,i3⟩:=zU ha;obtain⟨j,j1,j2,j3⟩:=zU hb;obtain⟨k,k1,k2,k3⟩:=zU hc;rw[zS];have mk: ∀{x:ab} {m:Nat},m<l.length->lh l x=(m:Int)->l.getD m ⟨0,0⟩=x->m∈(List.range l.length).filter fun k=>decide (lh l (l.getD k ⟨0,0⟩)=((k:Nat):Int)):=fun{x m} q1 q2 q3=>sX.2 ⟨qN.2 q1,decide_eq_true (by rw[q3];exact q2)⟩;exact yT (mk i1 i2 i3) (mk j1 j2 j3) (mk k1 k2 k3) (fun e=>h1 (by rw[<-i3,<-j3,e])) (fun e=>h2 (by rw[<-i3,<-k3,e])) (fun e=>h3 (by rw[<-j3,<-k3,e]))
def cmpZ_lt{p q:ZP}:jH p q<0↔p.1<q.1\/(p.1=q.1/\p.2<q.2):=by
 unfold jH
 repeat' split
 all_goals (constructor<;>intro h<;>omega)
def yZ{p q:ZP}:jH p q=0↔p.1=q.1/\p.2=q.2:=by
 unfold jH
 repeat' split
 all_goals (constructor<;>intro h<;>omega)
def zR{x y:ZP}: ∀{l:List ZP},y∈jp x l->y=x\/y∈l
 |[],h=>by simp[jp] at h;exact .inl h
 |u::t,h=>by
  rw[jp] at h;split at h
  ·rcases aW.1 h with rfl|h
   ·exact .inr aQ
   ·exact(zR h).imp id fun k=>aZ _ k
  ·split at h
   ·exact .inr h
   ·rcases aW.1 h with rfl|h
    ·exact .inl J
    ·exact .inr h
def zY{x:ZP}: ∀{l:List ZP},l.Pairwise (fun a b=>jH a b<0)->(jp x l).Pairwise (fun a b=>jH a b<0)
 |[],_=>by simp[jp]
 |u::t,h=>by
  obtain⟨h1,h2⟩:=bX.1 h;rw[jp];split
  ·rename_i hu
   refine bX.2 ⟨fun y hy=>?_,zY h2⟩;rcases zR hy with rfl|hy
   ·exact hu
   ·exact h1 y hy
  ·split
   ·exact h
   ·rename_i k1 k2
    rw[cmpZ_lt] at k1;rw[yZ] at k2;refine bX.2 ⟨fun y hy=>?_,h⟩;rw[cmpZ_lt];rcases aW.1 hy with rfl|hy
    ·omega
    ·have:=cmpZ_lt.1 (h1 y hy);omega
def yO(l:List ZP):(mH l).Pairwise (fun a b=>jH a b<0)/\ ∀y∈mH l,y∈l:=by
 have key: ∀(l o:List ZP),o.Pairwise (fun a b=>jH a b<0)->(l.foldl (fun out x=>jp x out) o).Pairwise (fun a b=>jH a b<0)/\ ∀y∈l.foldl (fun out x=>jp x out) o,y∈l\/y∈o:=by
  intro l
  induction l with
  |nil=>intro o ho;exact⟨ho,fun y hy=> .inr hy⟩
  |cons x t ih=>
   intro o ho;obtain⟨i1,i2⟩:=ih (jp x o) (zY ho);refine⟨i1,fun y hy=>?_⟩;rcases i2 y hy with h|h
   ·exact .inl (aZ _ h)
   ·rcases zR h with rfl|h
    ·exact .inl aQ
    ·exact .inr h
 obtain⟨k1,k2⟩:=key l [] .nil;exact⟨k1,fun y hy=>(k2 y hy).resolve_right (by simp)⟩
def xQ{r:List ZP}(ho:dC r)(h:3<=(mH r).length):j0 r:=by
 refine⟨ho,?_⟩;obtain⟨k1,k2⟩:=yO r
 match hs:mH r with
 |[]=>rw[hs] at h;simp at h
 |[a]=>rw[hs] at h;simp at h
 |[a,b]=>rw[hs] at h;simp at h
 |a::b::c::t=>
  rw[hs] at k1 k2;obtain⟨p1,p2⟩:=bX.1 k1;obtain⟨p3,_⟩:=bX.1 p2;have ne: ∀{x y:ZP},jH x y<0->x.q≠y.q:=fun{x y} q e=>by
   have:=zw e;subst this;have:=cmpZ_lt.1 q;omega
  exact xN (fM (k2 a (by simp))) (fM (k2 b (by simp))) (fM (k2 c (by simp))) (ne (p1 b (by simp))) (ne (p1 c (by simp))) (ne (p3 c (by simp)))
def xA{es:List Int}{a:Nat}(ha:a<=es.length):j0 (nD es a).1:=by
 have hok:=(DF ha).1;unfold nD at*;dsimp only at*;split
 ·exact zP Kd (by decide) (by decide) (by decide)
 ·rename_i h
  rw[if_neg h] at hok;exact xQ hok (by omega)
def xR{es:List Int}{a:Nat}(ha:a<=es.length):j0 (gr es a).1:=by
 have hok:=(Hl ha).1;have h0:=i8 (n:=4) ha;unfold gr at*;dsimp only at*;split
 ·rename_i h
  rw[if_pos h] at hok;unfold Ax at*;dsimp only at*;exact xY hok (by omega) (by omega)
 ·rename_i h
  rw[if_neg h] at hok;split
  ·rename_i k
   rw[if_pos k] at hok;obtain⟨p1,p2,p3⟩:=tI h0;obtain⟨u1,u2,u3,u4⟩:=vN p3;obtain⟨v1,v2,v3,v4⟩:=vN u4;split
   ·rename_i hc
    rw[if_pos hc] at hok;exact xV hok hc
   ·exact xA v4
  ·exact xA h0
structure EGW (GB:Gh) (ar:Addr):Prop where
 ErrRange:GB 2=some [.iface 499 (.pointer (some ar))]
def zJ(es:List Int):Nat->Nat->List (List ZP)->List (List ZP)×Nat
 |0,a,out=>(out,a)
 |n+1,a,out=>zJ es n (gr es a).2 (out++[(gr es a).1])
def zA(es:List Int)(m a:Nat):List (List ZP)×Nat:=zJ es (aA es (m+1) a).1 (aA es (m+1) a).2 []
def zW{es:List Int}: ∀{n a:Nat} {out:List (List ZP)},a<=es.length->(∀r∈out,j0 r)->(∀r∈(zJ es n a out).1,j0 r)/\(zJ es n a out).1.length=out.length+n/\(zJ es n a out).2<=es.length
 |0,a,out,ha,h=>⟨h,J,ha⟩
 |n+1,a,out,ha,h=>by
  have h1:=(Hl ha).2;obtain⟨i1,i2,i3⟩:=zW (n:=n) (out:=out++[(gr es a).1]) h1 fun r hr=>by
   rcases cX.1 hr with hr|hr
   ·exact h r hr
   ·rw[aU.1 hr];exact xR ha
  exact⟨i1,by rw[zJ,i2,aR];simp;omega,i3⟩
def yP{es:List Int}{m a:Nat}(ha:a<=es.length):(∀r∈(zA es m a).1,j0 r)/\(zA es m a).1.length<=m/\(zA es m a).2<=es.length:=by
 have h1:=j' (es:=es) (n:=m+1) (a:=a) (by omega);obtain⟨i1,i2,i3⟩:=zW (es:=es) (n:=(aA es (m+1) a).1) (out:=[]) (i8 (n:=m+1) ha) (fun r hr=>by cases hr);exact⟨i1,by unfold zA;rw[i2];simp;omega,i3⟩
def xC{GB:Gh}{b:Nat}{es:List Int}(hes:es.length<=400){a:Nat}(ha:a<=es.length){md:Nat}(hmd:md<=100):PM GB prog 17 (ir [none,some (.v (.int .i64 (md:Nat)))] b) b 126 [.sl (es.map vI), .v (.int .i64 (a:Nat))] (.sl ((zA es md a).1.map oe)) [.sl (es.map vI), .v (.int .i64 ((zA es md a).2:Nat))]:=by
 have hj1:=j' (es:=es) (n:=md+1) (a:=a) (by omega);have hj2:=i8 (n:=md+1) ha;refine tF func17 J J ntmps17 J J (fun C b m lo hmb=>?_);refine cm J (fun b=>(pD (n:=(md:Int)+1) hes ha (by omega) (by omega))) J<|?_;refine nr 5 5 62 1 J J J ?_;refine lp (X:=List (List ZP)×Nat×Nat) (fun⟨rs,i,b⟩=>[(6, .d (vI (i:Nat))),(5, .rw 5)]) (fun⟨rs,i,b⟩=>[(1000000,some (.o 126 [.d (.sl (es.map vI)), .d (.v (.int .i64 (b:Nat)))] false)),(5,some (.b 62 1 (rs.map oe) true))]) (fun⟨rs,i,b⟩=>zJ es i b rs=zA es md a/\b<=es.length/\rs.length+i<=100) (fun⟨rs,i,b⟩=>i) ⟨[],(aA es (md+1) a).1,(aA es (md+1) a).2⟩ J ⟨J,hj2,by simp;omega⟩ (fun _=>J) (fun⟨rs,i,b⟩ hk=>?_)
 try dsimp only at hk⊢
 obtain⟨h1,h2,h3⟩:=hk;have hrl:(rs.map oe).length=rs.length:=by simp
 refine br (fu2:=⟨0⟩) J J J (fun hc12=>?_) (fun hc12=>?_)
 .
  obtain⟨j,rfl⟩: ∃j,i=j+1:=⟨i-1,by omega⟩;have hq:=(Hl h2).2;refine cm J (fun b=>(Sh hes h2)) J<|rf J J<|ap ((rs++[(gr es b).1]).map oe) J (by rw[fQ];rfl) (Vy [_]) J<|?_;refine kr 19 5 J ?_;exact at_ ⟨rs++[(gr es b).1],j,(gr es b).2⟩ (by dsimp only;exact⟨⟨by rw[<-h1,zJ],hq,by simp;omega⟩,(by omega)⟩)
 .
  obtain rfl:i=0:=by omega
  have hfin:zA es md a=(rs,b):=by rw[<-h1,zJ]
  refine uS 5 J ?_;refine gx J<|?_;exact lj hmb J J (by rw[hfin];rfl) (by rw[hfin])
def wE(a b p:ab):Bool:=decide (rA a b p=0)&&decide ((ab.dot (dG a p (-1)) (dG b p (-1))).num.sign<=0)
def wQ(r:List ZP)(p:ab):Bool:=(List.range r.length).any fun k=>wE (r.getD k (0,0)).q (ek r k).q p

def wL(r:List ZP):List ZP:=r.take 1++(r.drop 1).reverse
section
variable {r:List ZP} {p:ab} {L:List aa}
end
end Go.Sx
end
section
namespace Go.Proofs
open Go.Shelf
def Tryz.RevPt_ren:Go.Shelf.Ren:=⟨fun|35=>104|n=>n,fun|22=>132|23=>141|3=>3|4=>4|0=>0|n=>n,fun|n=>n⟩
end Go.Proofs
end
section
namespace Go.Sx
open Go Go.Proofs

def xK:Go.Sort.SWO (Go.Proofs.ltOf c9):=by
 have e: ∀x y,Go.Proofs.ltOf c9 x y=true↔c9 x y<0:=fun x y=>by simp[Go.Proofs.ltOf]
 have e2: ∀x y,Go.Proofs.ltOf c9 x y=false↔ ¬c9 x y<0:=fun x y=>by rw[<-e];simp
 refine⟨fun x=>(e2 x x).2 ?_,fun x y z h k=>(e x z).2 ?_,fun x y z h k=>(e2 x z).2 ?_⟩
 ·rw[qH];omega
 ·have h:=(e x y).1 h
  have k:=(e y z).1 k;rw[qH] at*;omega
 ·have h:=(e2 x y).1 h
  have k:=(e2 y z).1 k;rw[qH] at*;omega
def zF(x:aa):List aa->List aa
 |[]=>[]
 |y::l=>if y=x then zF y l else y::zF y l
def zH:List aa->List aa
 |[]=>[]
 |x::l=>x::zF x l
def yL: ∀{l m:List aa},l.Pairwise (fun a b=>c9 a b<0)->m.Pairwise (fun a b=>c9 a b<0)->(∀x,x∈l↔x∈m)->l=m
 |[],[],_,_,_=>rfl
 |[],b::m,_,_,h=>absurd ((h b).2 aQ) (by simp)
 |a::l,[],_,_,h=>absurd ((h a).1 aQ) (by simp)
 |a::l,b::m,h1,h2,h=>by
  have ay: ∀{u v:aa},c9 u v<0->c9 v u<0->False:=fun h k=>by rw[qH] at*;omega
  obtain⟨p1,p2⟩:=bX.1 h1;obtain⟨q1,q2⟩:=bX.1 h2;have e:a=b:=by
   rcases aW.1 ((h a).1 aQ) with e|e
   ·exact e
   ·rcases aW.1 ((h b).2 aQ) with f|f
    ·exact f.symm
    ·exact(ay (q1 a e) (p1 b f)).elim
  subst e;congr 1;refine yL p2 q2 fun x=>⟨fun hx=>?_,fun hx=>?_⟩
  ·rcases aW.1 ((h x).1 (aZ _ hx)) with e|e
   ·subst e;exact(ay (p1 _ hx) (p1 _ hx)).elim
   ·exact e
  ·rcases aW.1 ((h x).2 (aZ _ hx)) with e|e
   ·subst e;exact(ay (q1 _ hx) (q1 _ hx)).elim
   ·exact e
def xW{x z:aa}(h: ¬c9 z x<0)(k:z≠x):c9 x z<0:=by
 have k: ¬c9 z x=0:=fun e=>k ((DN z x).1 e);rw[Ej] at k;rw[qH] at*;omega
def yM: ∀{l:List aa} {x:aa},(x::l).Pairwise (fun a b=> ¬c9 b a<0)->(zF x l).Pairwise (fun a b=>c9 a b<0)/\(∀y∈zF x l,c9 x y<0)/\ ∀y,y∈x::zF x l↔y∈x::l
 |[],_,_=>⟨.nil,(fun y hy=>by cases hy),fun _=>Iff.rfl⟩
 |z::l,x,h=>by
  obtain⟨p1,p2⟩:=bX.1 h;obtain⟨i1,i2,i3⟩:=yM p2;rw[zF];by_cases e:z=x
  ·rw[if_pos e]
   subst e;exact⟨i1,i2,fun y=>by rw[i3];simp⟩
  ·rw[if_neg e]
   have hb:c9 x z<0:=xW (p1 z aQ) e;refine⟨bX.2 ⟨i2,i1⟩,fun y hy=>?_,fun y=>?_⟩
   ·rcases aW.1 hy with rfl|hy
    ·exact hb
    ·have:=i2 y hy
     rw[qH] at*;omega
   ·rw[aW,i3,aW (b:=x) (l:=z::l)]
def yC: ∀(l:List aa) (x:aa),(zF x l).length<=l.length
 |[],_=>aL _
 |y::l,x=>by
  have:=yC l y;rw[zF];split<;>simp only[bT]<;>omega
def yX(l:List aa):(zH l).length<=l.length:=by
 cases l with
 |nil=>exact aL _
 |cons x l=>have:=yC l x;simp only[zH,bT];omega
def yW(ls:List aa):zH (zG c9 (ls.map aa.canon))=jg ls:=by
 have hm: ∀y,y∈zG c9 (ls.map aa.canon)↔y∈ls.map aa.canon:=fun y=>(zB c9 _).mem_iff;have h1:=zV xK (ls.map aa.canon);have hc:(zH (zG c9 (ls.map aa.canon))).Pairwise (fun a b=>c9 a b<0)/\ ∀y,y∈zH (zG c9 (ls.map aa.canon))↔y∈zG c9 (ls.map aa.canon):=by
  generalize zG c9 (ls.map aa.canon)=l at*
  cases l with
  |nil=>exact⟨.nil,fun _=>Iff.rfl⟩
  |cons x l=>
   obtain⟨i1,i2,i3⟩:=yM h1;exact⟨bX.2 ⟨i2,i1⟩,i3⟩
 refine yL hc.1 (Y2 ls) fun x=>?_;rw[hc.2,hm];constructor
 ·intro h
  obtain⟨l,hl,rfl⟩:=bJ.1 h;exact Pm hl
 ·intro h
  obtain⟨l,hl,rfl⟩:=Fi h;exact fM hl
def zN{l:List aa}{k:Nat}{x y:aa}(h:l[k]? =some y):zF x (l.drop k)=if y=x then zF y (l.drop (k+1)) else y::zF y (l.drop (k+1)):=by
 obtain⟨h1,h2⟩:=aS.1 h;rw[cJ h1,h2,zF]
def yB{l:List aa}(h:l.length<2):zH l=l:=by
 cases l with
 |nil=>rfl
 |cons x l=>cases l with
  |nil=>rfl
  |cons y l=>simp at h;omega
def xU{l:List aa}{x:aa}(h:l[0]? =some x):zH l=l.take 1++zF x (l.drop 1):=by
 cases l with
 |nil=>cases h
 |cons y l=>cases h;rfl
end Go.Sx
end
section
namespace Go.Proofs
open Go.Shelf
def Tryz.SortLn_ren:Go.Shelf.Ren:=⟨fun|6=>133|15=>231|14=>230|28=>332|29=>333|20=>324|21=>325|22=>326|23=>327|24=>328|25=>329|26=>330|27=>331|46=>371|47=>372|48=>373|49=>374|50=>375|57=>399|n=>n,fun|22=>171|24=>218|25=>226|3=>3|39=>355|0=>0|53=>366|55=>251|4=>4|46=>429|45=>428|50=>391|5=>5|9=>9|66=>467|70=>471|76=>486|77=>487|n=>n,fun|n=>n⟩
def Tryz.SortLn:Go.Proofs.SlLaysF0.n6 Tryz.prog Tryz.SortLn_ren:={
 mixed:=by kernel_rfl
 f6:=⟨Tryz.f133.name,by decide,Tryz.func133.trans (congrArg some (by kernel_rfl))⟩
 f14:=⟨Tryz.f230.name,by decide,Tryz.func230.trans (congrArg some (by kernel_rfl))⟩
 f15:=Tryz.func231.trans (congrArg some (by kernel_rfl))
 f20:=⟨Tryz.f324.name,by decide,Tryz.func324.trans (congrArg some (by kernel_rfl))⟩
 f21:=⟨Tryz.f325.name,by decide,Tryz.func325.trans (congrArg some (by kernel_rfl))⟩
 f22:=⟨Tryz.f326.name,by decide,Tryz.func326.trans (congrArg some (by kernel_rfl))⟩
 f23:=⟨Tryz.f327.name,by decide,Tryz.func327.trans (congrArg some (by kernel_rfl))⟩
 f24:=⟨Tryz.f328.name,by decide,Tryz.func328.trans (congrArg some (by kernel_rfl))⟩
 f25:=⟨Tryz.f329.name,by decide,Tryz.func329.trans (congrArg some (by kernel_rfl))⟩
 f26:=⟨Tryz.f330.name,by decide,Tryz.func330.trans (congrArg some (by kernel_rfl))⟩
 f27:=⟨Tryz.f331.name,by decide,Tryz.func331.trans (congrArg some (by kernel_rfl))⟩
 f28:=Tryz.func332.trans (congrArg some (by kernel_rfl))
 f29:=Tryz.func333.trans (congrArg some (by kernel_rfl))
 f46:=⟨Tryz.f371.name,by decide,Tryz.func371.trans (congrArg some (by kernel_rfl))⟩
 f47:=Tryz.func372.trans (congrArg some (by kernel_rfl))
 f48:=Tryz.func373.trans (congrArg some (by kernel_rfl))
 f49:=⟨Tryz.f374.name,by decide,Tryz.func374.trans (congrArg some (by kernel_rfl))⟩
 f50:=⟨Tryz.f375.name,by decide,Tryz.func375.trans (congrArg some (by kernel_rfl))⟩
 f57:=⟨Tryz.f399.name,by decide,Tryz.func399.trans (congrArg some (by kernel_rfl))⟩
 t0:=Tryz.underlying0
 a0:=Tryz.isAgg0
 z0:=Tryz.sizeOf0
 v0:=Tryz.zeroValue0
 t3:=Tryz.underlying3
 a3:=Tryz.isAgg3
 z3:=Tryz.sizeOf3
 v3:=Tryz.zeroValue3
 t4:=Tryz.underlying4
 a4:=Tryz.isAgg4
 z4:=Tryz.sizeOf4
 v4:=Tryz.zeroValue4
 t5:=Tryz.underlying5
 a5:=Tryz.isAgg5
 z5:=Tryz.sizeOf5
 v5:=Tryz.zeroValue5
 t9:=Tryz.underlying9
 a9:=Tryz.isAgg9
 z9:=Tryz.sizeOf9
 v9:=Tryz.zeroValue9
 t22:=Tryz.underlying171
 a22:=Tryz.isAgg171
 z22:=Tryz.sizeOf171
 v22:=Tryz.zeroValue171
 t25:=Tryz.underlying226
 a25:=Tryz.isAgg226
 z25:=Tryz.sizeOf226
 v25:=Tryz.zeroValue226
 t39:=Tryz.underlying355
 a39:=Tryz.isAgg355
 z39:=Tryz.sizeOf355
 v39:=Tryz.zeroValue355
 t45:=Tryz.underlying428
 a45:=Tryz.isAgg428
 z45:=Tryz.sizeOf428
 v45:=Tryz.zeroValue428
 t46:=Tryz.underlying429
 a46:=Tryz.isAgg429
 z46:=Tryz.sizeOf429
 v46:=Tryz.zeroValue429
 t50:=Tryz.underlying391
 a50:=Tryz.isAgg391
 z50:=Tryz.sizeOf391
 v50:=Tryz.zeroValue391
 t53:=Tryz.underlying366
 a53:=Tryz.isAgg366
 z53:=Tryz.sizeOf366
 v53:=Tryz.zeroValue366
 t55:=Tryz.underlying251
 a55:=Tryz.isAgg251
 z55:=Tryz.sizeOf251
 v55:=Tryz.zeroValue251
 t66:=Tryz.underlying467
 a66:=Tryz.isAgg467
 z66:=Tryz.sizeOf467
 v66:=Tryz.zeroValue467
 t70:=Tryz.underlying471
 a70:=Tryz.isAgg471
 z70:=Tryz.sizeOf471
 v70:=Tryz.zeroValue471
 t76:=Tryz.underlying486
 a76:=Tryz.isAgg486
 z76:=Tryz.sizeOf486
 v76:=Tryz.zeroValue486
 t77:=Tryz.underlying487
 a77:=Tryz.isAgg487
 z77:=Tryz.sizeOf487
 v77:=Tryz.zeroValue487}
end Go.Proofs
end
section
namespace Go.Sx
open Go Go.Proofs Tryz
variable {GB:Gh}
def xH{l:aa}[hl:LB l]:PF GB prog 132 [cb l] (.tp [cb l.canon,vB (xz l)]):=by
 have e:iv [Int.sign (l.a:Rat).num,Int.sign (l.b:Rat).num]<0↔(l.a<0\/(l.a=0/\l.b<0)):=by show iv [Int.sign l.a,Int.sign l.b]<0↔_;have h1:=yy l.a;have h2:=yy l.b;have h3:=nk l.a;unfold iv iv iv;split<;>omega
 refine fn func132 J J ntmps132 J J (fun C=>?_);refine cl J (lv (q:=(l.a:Rat))) J<|cl J (lv (q:=(l.b:Rat))) J<|rf J J<|cl J (Pa (es:=[Int.sign (l.a:Rat).num,Int.sign (l.b:Rat).num]) (nb J)) J<|?_;refine br J J J (fun hc14=>?_) (fun hc14=>?_)
 .
  refine cl J (Bs (l:=l)) J<|?_;exact rz J (by have h:=e.1 hc14;show DV.tp _=DV.tp _;unfold aa.canon xz;simp only[h,decide_true,if_true];rfl)
 .
  exact rz J (by have h:=mt e.2 hc14;show DV.tp _=DV.tp _;unfold aa.canon xz;simp only[h,decide_false,cM,if_false];rfl)
def zQ(a b:Int):b9 (a:Rat) (b:Rat)=(a-b).sign:=by
 unfold b9;have e1:((a:Rat)<(b:Rat))↔a<b:=lL;have e2:((b:Rat)<(a:Rat))↔b<a:=lL;rcases nX a b with h|h|h
 ·rw[if_pos (e1.2 h),eY (by omega)]
 ·subst h;rw[if_neg (fun h=>by have:=e1.1 h;omega),if_neg (fun h=>by have:=e1.1 h;omega),Int.sub_self];rfl
 ·rw[if_neg (fun h=>by have:=e1.1 h;omega),if_pos (e2.2 h),fL (by omega)]
def xJ(l m:aa):Al l m=c9 l m:=by
 unfold Al c9 iv iv iv iv;rw[zQ,zQ,zQ]
 repeat' split
 all_goals omega
def xT{l m:aa}(hl:LB l)(hm:LB m):PF GB prog 134 [cb l,cb m] (.v (.int .i64 (c9 l m))):=by
 haveI:=hl;haveI:=hm;have:=M0 (GB:=GB) (l:=l) (m:=m);rwa [xJ] at this
def xG{ds:List aa}(hb: ∀d∈ds,LB d)(hn:ds.length<=10000000):PW GB prog 133 [none,some (.v (.func (.func 134) #[] #[]))] 9 218 (ds.map cb) (.tp []) ((zG c9 ds).map cb):=
 xX (GB:=GB) Tryz.SortLn ⟨_,func133,J,J⟩ isAgg218 sizeOf218 cb (fun d=>LB d) (fun x=>⟨_,J,J,J⟩) c9 xK ⟨_,func134,J,J⟩ (fun x y hx hy=>xT hx hy) hb (by omega)
  (fun x hx y hy h k=>by
   have:c9 x y=0:=by rw[Ej];rw[qH] at h k;omega
   exact(DN x y).1 this)
def yF{l:List aa}{k:Nat}{y:aa}(h:l[k]? =some y):l.take (k+1)=l.take k++[y]:=by
 rw[gK,h];rfl
def xI(l:List aa)(k:Nat)(y:aa):(l.map cb).set k (cb y)=(l.set k y).map cb:=(pX ..).symm
def zZ{r l:List aa}{a b:Nat}(h:a<=b)(e:r.drop a=l.drop a):r[b]? =l[b]? :=by
 have:=congrArg (·[b-a]?) e;simpa[lJ,show a+(b-a)=b by omega] using this
def yH{r l:List aa}{a b:Nat}(h:a<=b)(e:r.drop a=l.drop a):r.drop b=l.drop b:=by
 have:=congrArg (List.drop (b-a)) e;simpa[sU,show a+(b-a)=b by omega] using this
def zO{r:List aa}{i:Nat}{u:aa}(h:i<r.length):(r.set i u).take (i+1)=r.take i++[u]:=by
 rw[gK,rQ h,List.take_set_of_le (aL _)];rfl
def yS{r:List aa}{i:Nat}(h:i<r.length):(r.map cb)[(i:Int).toNat]? =some (cb r[i]):=by simp[h]
def yG{l:List aa}(hb: ∀d∈l,LB d)(hn:l.length<=10000000):PB GB prog 135 (mA [none,some (.v (.func (.func 136) #[] #[]))]) 9 218 (l.map cb) (fun w=> .v (.slice w.a w.n w.c)) ((zH l).map cb):=by
 have hml:(l.map cb).length=l.length:=aJ ..;refine Kl (fu:=⟨10⟩) func135 J J ntmps135 J J (fun C=>?_);refine aB 9 (.d (vI (l.length:Nat))) J (by rw[hml]<;>rfl) ?_;refine gx J<|?_;refine br J J J (fun hc10=>?_) (fun hc10=>?_)
 .
  exact AK J J J (by rw[yB (by omega)])
 .
  obtain⟨x0,hx0⟩: ∃x,l[0]? =some x:=⟨_,aX (by omega)⟩;refine lp (fu:=⟨6⟩) (X:=Nat×aa) (fun⟨k,x⟩=>[(5, .d (vI (k:Nat)))]) (fun⟨k,x⟩=>[]) (fun⟨k,x⟩=>1<=k/\k<=l.length/\l[k-1]? =some x/\zH l=l.take k++zF x (l.drop k)) (fun⟨k,x⟩=>l.length-k) ⟨1,x0⟩ J ⟨aL _,by omega,hx0,by rw[xU hx0]⟩ (fun _=>J) (fun⟨k,x⟩ hk=>?_)
  try dsimp only at hk⊢
  obtain⟨h1,h2,h3,h4⟩:=hk;refine aB 14 (.d (vI (l.length:Nat))) J (by rw[hml]<;>rfl) ?_;refine gx J<|?_;refine br J J J (fun hc15=>?_) (fun hc15=>?_)
  .
   obtain⟨y,hy⟩: ∃y,l[k]? =some y:=⟨_,aX (by omega)⟩;haveI:=hb y (bZ hy);haveI:=hb x (bZ h3);refine lb (fu:=⟨3⟩) _ J (eH hy) J<|?_;refine aB 25 (.d (vI ((k-1:Nat):Int))) J (by rw[Int.ofNat_sub h1]<;>rfl) ?_;refine gx J<|lb (fu:=⟨0⟩) _ J (eH h3) J<|cl J (Cx (l:=y) (m:=x)) J<|?_;refine bd (fu1:=⟨4⟩) J J J (fun hc28=>?_) (fun hc28=>?_)
   .
    have hc28':=hc28;refine Ig k (l.length-k) J J (by omega) (by omega) J<|?_;refine lp (fu:=⟨5⟩) (X:=Nat×Nat×aa×List aa) (fun⟨i,m,z,r⟩=>[(5, .d (vI (i:Nat))),(7, .d (vI (m:Nat)))]) (fun⟨i,m,z,r⟩=>[(1000000,some (.b 218 9 (r.map cb) false))]) (fun⟨i,m,z,r⟩=>1<=m/\k+m<=l.length/\i+1<=k+m/\r.length=l.length/\r.drop (k+m-1)=l.drop (k+m-1)/\l[k+m-1]? =some z/\zH l=r.take i++zF z (l.drop (k+m))) (fun⟨i,m,z,r⟩=>l.length-m) ⟨k,1,y,l⟩ J ⟨aL _,by omega,by omega,J,J,by rw[lK];exact hy,by rw[h4,zN hy,if_pos hc28']⟩ (fun _=>J) (fun⟨i,m,z,r⟩ hk=>?_)
    try dsimp only at hk⊢
    obtain⟨g1,g2,g3,g4,g5,g6,g7⟩:=hk;have hrl:(r.map cb).length=r.length:=aJ ..;refine U4 J J<|?_;refine br (fu1:=⟨9⟩) (fu2:=⟨9⟩) J J J (fun hc35=>?_) (fun hc35=>?_)
    .
     obtain⟨u,hu⟩: ∃u,l[k+m]? =some u:=⟨_,aX (by omega)⟩;haveI:=hb u (bZ hu);haveI:=hb z (bZ g6);have g8:r[k+m]? =some u:=by rw[<-hu];exact zZ (by omega) g5
     have g10:r[k+m-1]? =some z:=by rw[<-g6];exact zZ (aL _) g5
     have g9:r.drop (k+m)=l.drop (k+m):=yH (by omega) g5;refine DD (k+m) J (by omega) (by omega) (by omega) J<|lb (fu:=⟨3⟩) _ J (eH g8) J<|DD (k+m-1) J (by omega) (by omega) (by omega) J<|?_;refine lb (fu:=⟨0⟩) _ J (eH g10) J<|cl J (Cx (l:=u) (m:=z)) J<|?_;refine bb (fu1:=⟨6⟩) J J J (fun hc49=>?_) (fun hc49=>?_)
     .
      have hc49': ¬u=z:=by simpa using hc49
      refine DD (k+m) J (by omega) (by omega) (by omega) J<|lb _ J (eH g8) J<|sb _ ((r.set i u).map cb) J (yS (by omega)) J (by rw[<-xI]<;>rfl) J<|?_;exact at_ ⟨i+1,m+1,u,r.set i u⟩ (by dsimp only;exact⟨⟨by omega,by omega,by omega,by rw[aT];exact g4,by rw[show k+(m+1)-1=k+m by omega,pR (by omega)];exact g9,by rw[show k+(m+1)-1=k+m by omega];exact hu,by rw[g7,zN hu,if_neg hc49',zO (by omega),dQ];rfl⟩,(by omega)⟩)
     .
      have hc49':u=z:=by simpa using hc49
      exact at_ ⟨i,m+1,u,r⟩ (by dsimp only;exact⟨⟨by omega,by omega,by omega,g4,by rw[show k+(m+1)-1=k+m by omega];exact g9,by rw[show k+(m+1)-1=k+m by omega];exact hu,by rw[g7,zN hu,if_pos hc49'];rfl⟩,(by omega)⟩)
    .
     obtain hm:k+m=l.length:=by omega
     refine Ig i (l.length-i) J J (by omega) (by omega) J<|R1 (fu:=⟨6⟩) _ J (by rw[hrl];omega) (by omega) J J<|T4 ((r.take i).map cb) i J J (by rw[aR,bM,aV,hrl];omega) (by rw[eX (by rw[bM,hrl];omega),List.take_take,Nat.min_self,nY]) J<|?_;exact AK J J J (by rw[g7,hm,jY,zF,iS])
   .
    have hc28':=hc28;exact at_ ⟨k+1,y⟩ (by dsimp only;exact⟨⟨by omega,by omega,hy,by rw[h4,zN hy,if_neg hc28',yF hy,dQ];rfl⟩,(by omega)⟩)
  .
   exact AK J J J (by rw[h4,show k=l.length by omega,jY,zF,iS,dY])
def zI(E:List aO):List aa:=E.map (·.l)
def yI{E:List aO}{k:Nat}{f:aO}(h:E[k]? =some f):((zI (E.take (k+1))).map aa.canon)=(zI (E.take k)).map aa.canon++[f.l.canon]:=by
 unfold zI;rw[gK,h,fQ,fQ];rfl
theorem yE{l:aa}(h:LB l):LB l.canon:=by unfold aa.canon;split;exact h.rev;exact h
theorem zL{E:List aO}(h: ∀f∈E,LB f.l)(k:Nat): ∀l∈(zI (E.take k)).map aa.canon,LB l:=fun l hl=>by
 obtain⟨m,hm,rfl⟩:=bJ.1 hl;obtain⟨f,hf,rfl⟩:=bJ.1 hm;exact yE (h f (eK hf))
def yN{ls:List aa}{k:Nat}{l:aa}(h:ls[k]? =some l):(ls.take k).map eL++[eL l]=(ls.take (k+1)).map eL:=by rw[gK,h,fQ];rfl
def xE{rs:List (List ZP)}(h: ∀r∈rs,j0 r)(hn:rs.length<=200):PF GB prog 52 [.sl (rs.map lw)] (.tp [.sl ((jg (ol rs)).map eL), .v .nilIface]):=by
 have hel:=ME h hn;obtain⟨E,hE⟩: ∃E,E=co rs:=⟨_,rfl⟩;have hlb: ∀f∈E,LB f.l:=fun f hf=>by rw[hE] at hf;exact((n9 fun r hr=>(h r hr).ok).2 f hf).lb
 have hEl:E.length<=1200:=by rw[hE];exact hel
 have hml:(E.map bi).length=E.length:=aJ ..;obtain⟨ls,hls⟩: ∃ls,ls=zH (zG c9 ((zI E).map aa.canon)):=⟨_,rfl⟩;have hsl:(zG c9 ((zI E).map aa.canon)).length=E.length:=by rw[(zB c9 _).length_eq];simp[zI]
 have hll:ls.length<=E.length:=by rw[hls,<-hsl];exact yX _
 have hls2:ls=jg (ol rs):=by rw[hls,yW,hE];rfl
 have hsb: ∀l∈zG c9 ((zI E).map aa.canon),LB l:=fun l hl=>zL hlb E.length l (by rw[dY];exact(zB c9 _).mem_iff.1 hl);have hlsb: ∀l∈ls,LB l:=fun l hl=>by rw[hls2] at hl;obtain⟨m,hm,rfl⟩:=Fi hl;obtain⟨f,hf,rfl⟩:=bJ.1 hm;exact yE (hlb f (by rw[hE];exact hf))
 have hmL:(ls.map cb).length=ls.length:=aJ ..;refine fn func52 J J ntmps52 J J (fun C=>?_);refine cl (fu:=⟨0⟩) J (ZY h hn) J<|?_;refine aB 16 (.d (.tp [.sl (E.map bi), .v .nilIface])) J (by rw[hE]) ?_;refine gx (fu:=⟨27⟩) J<|?_;refine aB 23 (.d (vI (E.length:Nat))) J (by rw[hml]<;>rfl) ?_;refine gx J<|?_;refine nr 6 6 218 9 J J J ?_;refine lp (X:=Nat) (fun k=>[(24, .d (vI (k:Nat))),(6, .rw 6)]) (fun k=>[(6,some (.b 218 9 (((zI (E.take k)).map aa.canon).map cb) true))]) (fun k=>k<=E.length) (fun k=>E.length-k) 0 J (bL _) (fun _=>J) (fun k hk=>?_);have hm3:(zI (E.take k)).length<=k:=by unfold zI;rw[aJ,bM];omega
 refine br J J J (fun hc25=>?_) (fun hc25=>?_)
 .
  obtain⟨f,hx⟩: ∃u,E[k]? =some u:=⟨_,aX (by omega)⟩;haveI:=hlb f (bZ hx);refine ix _ J (eH hx) J<|cl J (xH (l:=f.l)) J<|rf J J<|ap (((zI (E.take (k+1))).map aa.canon).map cb) J (by rw[yI hx,fQ]<;>rfl) (YH [f.l.canon]) J<|?_;refine kr 37 6 J ?_;exact at_ (k+1) ⟨(by omega),(by omega)⟩
 .
  obtain rfl:k=E.length:=by omega
  rw[dY];refine cw _ J (xG (ds:=(zI E).map aa.canon) (fun l hl=>zL hlb E.length l (by rw[dY];exact hl)) (by simp[zI];omega)) J J<|?_;refine cq (fu:=⟨1⟩) (ls.map cb) J (yG (l:=zG c9 ((zI E).map aa.canon)) hsb (by omega)) (by rw[hls]) J<|?_;refine aB 43 (.d (vI (ls.length:Nat))) J (by rw[hmL]<;>rfl) ?_;refine gx J<|?_;refine nr 11 11 147 6 J J J ?_;refine lp (X:=Nat) (fun k=>[(44, .d (vI (k:Nat))),(11, .rw 11)]) (fun k=>[(11,some (.b 147 6 ((ls.take k).map eL) true))]) (fun k=>k<=ls.length) (fun k=>ls.length-k) 0 J (bL _) (fun _=>J) (fun k hk=>?_);refine br J J J (fun hc45=>?_) (fun hc45=>?_)
  .
   obtain⟨l,hx⟩: ∃u,ls[k]? =some u:=⟨_,aX (by omega)⟩;haveI:=hlsb l (bZ hx);refine lb _ J (eH hx) J<|cl J (IW (l:=l)) J<|rf J J<|ap ((ls.take (k+1)).map eL) J (by rw[yN hx]<;>rfl) (YO [l]) J<|?_;refine kr 52 11 J ?_;exact at_ (k+1) ⟨(by omega),(by omega)⟩
  .
   obtain rfl:k=ls.length:=by omega
   rw[dY];refine nv 11 J ?_;exact rz J (by rw[hls2]<;>rfl)
def wT(rs:List (List ZP))(fill:Int)(L:List aa)(p:ab)(vs:List ab):Bool:=vs.any fun v=>jw rs fill (yg L p v)
def wV(rs:List (List ZP))(fill:Int)(L:List aa)(p:ab)(vs:List ab):Bool:=vs.all fun v=>jw rs fill (yg L p v)
section
variable {GB:Gh} {C:aD} {n:Nat} {Q0:Exit->Act->World->Prop} {fr fr' fr1 fr2:aw} {own own' own1 own2:aH} {cf cf' cf1 cf2:Cf} {vc vc1 vc2:List Prop}
def wP(fr:aw)(cf:Cf):Option Int:=match b8 fr cf with
 |some ⟨_, .binOp .and _ x (.const (.int .i64 1)) _,_,_,_,_⟩=>match aI (bw fr cf) x with
  |some (.d (.v (.int .i64 p)))=>some p
  |_=>none
 |_=>none
end
structure EGX (GB:Gh) (ai:Addr):Prop where
 ErrInvalid:GB 0=some [.iface 499 (.pointer (some ai))]
def xD{b:Nat}{es:List Int}(hes:es.length<=400){rs:List (List ZP)}{a':Nat}(hr:rs=(zA es 3 0).1)(ha:a'=(zA es 3 0).2):PM GB prog 17 (ir [none,some (vI 3)] b) b 126 [.sl (es.map vI), .v (.int .i64 (0:Nat))] (.sl (rs.map oe)) [.sl (es.map vI), .v (.int .i64 (a':Nat))]:=by
 subst hr ha;exact xC hes (bL _) (md:=3) (by decide)
def wG(rs:List (List ZP))(p:ab):Int:=rs.foldl (fun n r=>n+mO r p) 0

def wB:ie [] 1= .leaf false:=by kernel_rfl
def wA:(ie [uE] 2).size=3:=by kernel_rfl
def xO: ∀r∈[uE],j0 r:=fun r hr=>by
 rw[aU.1 hr];exact⟨Wv,by decide+kernel⟩
theorem xP: ∀p∈[iP 0 0,iP 1 0,iP 0 1],bg p 1200:=fun p hp=>by
 simp only[aW,jM,or_false] at hp;rcases hp with rfl|rfl|rfl<;>exact⟨BQ.int1200 (by decide),BQ.int1200 (by decide)⟩
def zX{rs:List (List ZP)}(h: ∀r∈rs,j0 r)(hn:rs.length<=3){fill:Int}(hfill:fill=1\/fill=2){t:Tr}(ht:ie rs fill=t):PF GB prog 19 [.sl (rs.map lw),vI fill] (.tp [eA t, .v .nilIface]):=by
 subst ht;exact IN h hn hfill
def yQ:PF GB prog 20 [] (.v (.bool true)):=by
 obtain⟨u,hu⟩: ∃u,ie [uE] 2=u:=⟨_,rfl⟩;have hus:u.size=3:=by rw[<-hu];exact wA
 have hwl:((u.wr 0).map eN).length=3:=by rw[aJ,Tr.wr_len,hus]
 refine fn func20 J J ntmps20 J J (fun C=>?_);refine cl J (zX (rs:=[]) (by simp) (by decide) (fill:=1) (.inl J) wB) J<|cl J (kH (m:=0) (n:=0) (by decide) (by decide)) J<|?_;refine cl J (kH (m:=1) (n:=0) (by decide) (by decide)) J<|cl J (kH (m:=0) (n:=1) (by decide) (by decide)) J<|rf (fu:=⟨0⟩) J J<|?_;refine aB 13 (.d (.sl ([iP 0 0,iP 1 0,iP 0 1].map eP))) J J ?_;refine gx J<|cl J (Lf (ps:=[iP 0 0,iP 1 0,iP 0 1]) xP (by decide)) J<|rf (fu:=⟨0⟩) J J<|?_;refine aB 15 (.d (.sl ([uE].map lw))) J J ?_;refine gx J<|cl (fu:=⟨11⟩) J (zX (rs:=[uE]) xO (by decide) (fill:=2) (.inr J) hu) J<|gu (fu:=⟨2⟩) J J J<|gu (fu:=⟨4⟩) J J J<|gu (fu:=⟨5⟩) J J J<|?_;refine aB 33 (.d (vI 3)) J (by rw[hwl]<;>rfl) ?_;refine gx (fu:=⟨0⟩) J<|gu J J J<|?_;exact rz J J
def yD(l:aa):l.canon.same l:=by
 unfold aa.canon;split
 ·exact .inr (Gs l).symm
 ·exact .inl J
def yJ{rs:List (List ZP)}{fill:Int}(h: ∀r∈rs,dC r)(hn:rs.length<=3):2*(ie rs fill).size<=(jg (ol rs)).length*((jg (ol rs)).length+1):=by
 have hx:=(HD (fill:=fill) h hn).x (Ak _ _) (by decide);have hA:lf (jg (ol rs)) (ie rs fill):=lf.restrict (pp fun f hf=>⟨f.l.canon,Pm (fM hf),yD f.l⟩) [];exact Pi (fun m hm=>by
  obtain⟨x,hx,rfl⟩:=Fi hm;obtain⟨f,hf,rfl⟩:=bJ.1 hx;exact Zz ((n9 h).2 f hf).ok) (Tr.red_prp (Ak rs fill)) hx.ok dw.nil hA
def xL{n k:Nat}(h:2*n<=k*(k+1)):(n:Int)<=(((k:Int)*((k:Int)+1))).tdiv 2:=by
 have e:((k:Int)*((k:Int)+1))=((k*(k+1):Nat):Int):=by push_cast;rfl
 rw[e,oM (by omega)];omega
def yU{k:Nat}(h:k*(k+1)<=1200*1201):IntKind.i64.wrap (((k:Int)*((k:Int)+1)).tdiv 2)=((k:Int)*((k:Int)+1)).tdiv 2:=by
 have e:((k:Int)*((k:Int)+1))=((k*(k+1):Nat):Int):=by push_cast;rfl
 rw[Ki];rw[e,oM (by omega)];omega
def zT{ai al ae:Addr}(hE:EG GB ai al ae){es0:List Int}(hb:es0.length<=1125899906842624):PF GB prog 10 [.sl (es0.map vI)] (.v (.bool true)):=by
 obtain⟨es,hee⟩: ∃es,es=es0.take 400:=⟨_,rfl⟩;have hes:es.length<=400:=by rw[hee];simp;omega
 obtain⟨rs,hre⟩: ∃rs,rs=(zA es 3 0).1:=⟨_,rfl⟩;obtain⟨a1,ha1⟩: ∃a,a=(zA es 3 0).2:=⟨_,rfl⟩;obtain⟨hrg,hrn,hal⟩:(∀r∈rs,j0 r)/\rs.length<=3/\a1<=es.length:=by rw[hre,ha1];exact yP (bL _)
 have hr1: ∀r∈rs,dC r:=fun r hr=>(hrg r hr).ok;obtain⟨fl,hfe⟩: ∃fl:Int,fl=1+((aA es 2 a1).1:Nat):=⟨_,rfl⟩;have hnl:=j' (es:=es) (n:=2) (a:=a1) (by decide);have hfl:fl=1\/fl=2:=by omega
 obtain⟨b2,hb2e⟩: ∃b,b=(aA es 2 a1).2:=⟨_,rfl⟩;have hb2:b2<=es.length:=by rw[hb2e];exact i8 hal
 have hx:=(HD (fill:=fl) hr1 hrn).x (Ak _ _) (by decide);have hbh:=yJ (fill:=fl) hr1 hrn;obtain⟨k,hk⟩: ∃k,k=(jg (ol rs)).length:=⟨_,rfl⟩;rw[<-hk] at hbh;have hke:k<=1200:=by rw[hk];have h1:=XH (ol rs);have h2:=ME hrg (by omega);unfold ol at h1;rw[aJ] at h1;unfold ol;omega
 have hkk:k*(k+1)<=1200*1201:=kQ hke (by omega);have hml:((jg (ol rs)).map eL).length=k:=by rw[aJ,hk]
 have hwl:(((ie rs fl).wr 0).map eN).length=(ie rs fl).size:=by rw[aJ,Tr.wr_len]
 have hq:=xL hbh;have hkz:((k:Int)*((k:Int)+1))=((k*(k+1):Nat):Int):=by push_cast;rfl
 refine fn func10 J J ntmps10 J J (fun C=>?_);refine cn J ((YT hb hee)) (fun _=>J) (fun _=>?_);refine cm J (fun b=>(xD hes hre ha1)) J<|cl J (ZB (rs:=rs) hr1 (by omega)) J<|cm (fu:=⟨1⟩) J (fun b=>(pD (n:=2) hes hal (by decide) (by decide))) J<|?_;refine aB 21 (.d (vI fl)) J (by rw[hfe]<;>rfl) ?_;refine gx J<|cl J (IN (rs:=rs) hrg hrn (fill:=fl) hfl) J<|cl (fu:=⟨0⟩) J (Qp hE hx.gd (by have:=hx.s;omega) (by have:=hx.dp;omega) (Tr.red_restrict (Ak rs fl))) J<|?_;refine aB 27 (.d (.tp [.v (.bool true), .v .nilIface])) J J ?_;refine gx (fu:=⟨2⟩) J<|?_;refine kd 28 J ?_;refine gx J<|cl (fu:=⟨11⟩) J (xE (rs:=rs) hrg (by omega)) J<|?_;refine aB 36 (.d (vI (k:Nat))) J (by rw[hml]<;>rfl) ?_;refine gx J<|cl (fu:=⟨0⟩) J yQ J<|?_;refine kd 37 J ?_;refine gx (fu:=⟨2⟩) J<|gu (fu:=⟨3⟩) J J J<|gu (fu:=⟨3⟩) J J J<|gu (fu:=⟨8⟩) J J J<|?_;refine aB 56 (.d (vI ((ie rs fl).size:Nat))) J (by rw[hwl]<;>rfl) ?_;refine gx (fu:=⟨5⟩) J<|gu J (by show some (decide _)=some true;rw[yU hkk,decide_eq_true hq]) J<|?_;exact rz J J
end Go.Sx
end
section
namespace Go.Sx
open Go Go.Proofs Go.ChangeShapes Go.WideShapes Go.ChangeAt Go.RowKit
def GW(w:World):Gh:=fun b=>match w.heap[b]? with|some (.cells cs _ _)=>some cs.toList|_=>none
def GW.sub{w:World}{b:Nat}{cs:List Value}(h:GW w b=some cs): ∃ty fz,w.heap[b]? =some (.cells ⟨cs⟩ ty fz):=by
 unfold GW at h;split at h
 ·rename_i c t f e
  cases h
  exact⟨t,f,by rw[e]⟩
 ·cases h
def GW.of_cell{w:World}{b off:Nat}{v:Value}(h:w.cell? ⟨b,off,none⟩=some v): ∃cs,GW w b=some cs/\cs[off]? =some v:=by
 unfold World.cell? at h;unfold GW;split at h
 ·rename_i c t f e
  simp only at e;refine⟨c.toList,by rw[e],?_⟩;simpa using h
 all_goals first|(rename_i e;cases h)|cases h
def bm.below{w w':World}{G G':Gh}{own:List aj}(h:bm ⟨w,G,[],[],[],none,fun _=>none⟩ own G' w'):Below w.heap.size w w':=
 ⟨h.os,h.tape,h.output,h.size,fun k hk=>h.keep k hk (by simp)⟩
def isLs_vI{G:Gh}: ∀es:List Int,IsLs G (es.map vI) (es.map fun n=>Value.int .i64 n)
 |[]=> .nil
 |n::t=> .cons (aG.2 J) (isLs_vI t)
def open_vI{base:Nat}{H:Type}{enc:TypeId×Value->H}{P:Program}{w:World}{t e:TypeId}{v:Value}{d:DataW H}{ps:List MemPlace}(ht:P.underlying t=some (.slice e))(he:P.underlying e=some (.int .i64))(hc:P.cellsOf e=1)
  (hv:Value.okWide P w .any base t v)(h:DataW.Trod enc P w 0 (fun _=>true) true t v d ps):
  ∃es:List Int,Is (GW w) (.sl (es.map vI)) v/\(d= .nil/\es=[]\/ ∃sp,d= .slice (lits .i64 es) sp)/\(∀n∈es,(Lit.int .i64 n).wf=true):=by
 obtain⟨a0,len,cap,rfl⟩:=okWide_slice ht hv;obtain⟨fuel,hf⟩:=h;rcases open_ints ht he hc hf with⟨hcs,hx⟩|⟨a,len',cap',zs,hcs,_,hl,hm,hz,hx,hcell,hwz⟩
 ·simp[Value.cells] at hcs
  obtain⟨rfl,rfl,rfl⟩:=hcs;simp only[Prod.mk.injEq] at hx;exact⟨[],gz.2 ⟨0,⟨none,0,0⟩,[],J,d5.nil _ 0, .nil⟩, .inl ⟨hx.1,J⟩,by simp⟩
 ·simp[Value.cells] at hcs
  obtain⟨rfl,rfl,rfl⟩:=hcs;simp only[Prod.mk.injEq] at hx;simp only[if_true] at hz;refine⟨zs.take len,gz.2 ⟨1,⟨some a,len,cap⟩,(zs.take len).map fun n=>Value.int .i64 n,J,⟨by simp;omega,hl,?_⟩,isLs_vI _⟩, .inr ⟨_,hx.1⟩,fun n hn=>hwz n (eK hn)⟩;by_cases h0:len=0
  ·exact .inl (by simp[h0])
  ·right
   obtain⟨b,off,spot⟩:=a;have hspot:spot=none:=by simpa[Addr.add] using World.cell?_spot (hcell 0 (by omega))
   subst hspot;have c0: ∀i,i<zs.length->w.cell? ⟨b,off+i,none⟩=some (.int .i64 (zs.getD i 0)):=fun i hi=>by
    have:=hcell i hi;rwa [Go.WideShapes.add_plain] at this
   obtain⟨cs,hcs,_⟩:=GW.of_cell (by have h9:=c0 0 (by omega);rw[eJ] at h9;exact h9);refine⟨b,off,cs,J,hcs,fun i hi=>?_⟩;simp only[aJ,bM] at hi;obtain⟨cs',hcs',hi'⟩:=GW.of_cell (c0 i (by omega));rw[hcs] at hcs'
   cases hcs'
   rw[iK,WJ.2 hi'];simp[aE,List.getD,aX (show i<zs.length by omega)]
inductive CSh where
 |b
 |i (k:IntKind)
 |sl (ag:Bool) (l:List CSh)
mutual
def Fit:CSh->DV->Prop
 | .b,d=> ∃b,d= .v (.bool b)
 | .i k,d=> ∃n,d= .v (.int k n)/\(Lit.int k n).wf=true
 | .sl ag l,d=> ∃m:List DV,d= .sl m/\m.length<=maxLen/\ ∀x∈m,∃ys,FitL l ys/\((ag=true/\x= .ag ys)\/(ag=false/\ys=[x]))
def FitL:List CSh->List DV->Prop
 |[],ds=>ds=[]
 |s::l,ds=> ∃d t,ds=d::t/\Fit s d/\FitL l t
end
def flatF(r:TypeId->Option (Bool×List CSh))(P:Program):List Field->Nat->Option (List CSh)
 |[],_=>some []
 |f::fs,o=>match r f.type with
  |some (_,l)=>if f.offset=o/\P.cellsOf f.type=l.length then(flatF r P fs (o+l.length)).map (l++ ·) else none
  |none=>none
def flatT(P:Program):Nat->TypeId->Option (Bool×List CSh)
 |0,_=>none
 |n+1,t=>match P.underlying t with
  |some .bool=>some (false,[.b])
  |some (.int k)=>some (false,[.i k])
  |some (.slice e)=>match flatT P n e with
   |some (a,l)=>if P.cellsOf e=l.length/\0<l.length then some (false,[.sl a l]) else none
   |none=>none
  |some (.struct fs)=>match flatF (flatT P n) P fs.toList 0 with
   |some l=>if P.cellsOf t=l.length then some (true,l) else none
   |none=>none
  |_=>none
section
variable {H:Type} {enc:TypeId×Value->H} {P:Program} {w:World}
end
def shI:List CSh:=[.b, .sl false [.i .u32]]
def shL:List CSh:=shI++(shI++shI)
def es_star: "*" ++ "errors.errorString" = "*errors.errorString" :=by decide
def es_row(u:TypeId)(h:Tryz.prog.typeName? 3 u=some "*errors.errorString"):u=499:=
 typeName_ptr_named (nm:= "errors.errorString") (by rw[es_star];kernel_rfl) (by kernel_rfl) (by decide) u (by rw[es_star];exact h)
def sent_of{W:World}{n:String}{g:Nat}{text:List UInt8}{r:List (String×DataW Unit)}(h:laidMet Tryz.prog ((n, .iface "*errors.errorString" (.ptr (.agg [.lit (.string text)])))::r) W)(hg:Tryz.prog.globalNamed n=some g)(ht:(Tryz.prog.globals[g]?).map (·.type)=some 34):
  ∃a,GW W g=some [.iface 499 (.pointer (some a))]:=by
 obtain⟨a,s,hv,_⟩:=laid_sentinel h hg ht Tryz.underlying34 es_row Tryz.underlying499 Tryz.underlying524 rfl rfl Tryz.underlying9 (by kernel_rfl) (by kernel_rfl);refine⟨a,?_⟩;unfold World.var? at hv;rw[hg,Option.bind_some] at hv;unfold GW;split at hv
 ·rename_i c t f e
  rw[e];cases hv;rfl
 ·cases hv
def laid_plain{W:World}{l:List (String×DataW Unit)}(h:laidMetH Tryz.prog l W)(hp:(l.all fun x=>x.2.handleName?.isNone)=true):laidMet Tryz.prog l W:=by rwa [Go.MakeChecks.laidMetH_plain _ _ _ hp] at h
end Go.Sx
end
section
namespace Go.Proofs.YtefoocgiaegobaaGreatDoor
open Go.ChangeShapes Go.WideShapes Go.ChangeAt Go.RowKit Go.Sx
theorem js1:mapsRowed Tryz.pinned.checked.prog=true:=by kernel_rfl
theorem js2:Tryz.pinned.checked.prog.stopsHeard=true:=by kernel_rfl
theorem js3:Tryz.pinned.checked.prog.mayEnter=true:=by kernel_rfl
theorem js4:laidOutB Tryz.prog=true:=by kernel_rfl
end Go.Proofs.YtefoocgiaegobaaGreatDoor
end
section
namespace Go.Proofs.YtefoocgiaegobaaGreatDoor.buildBounds
open Go.ChangeShapes Go.WideShapes Go.ChangeAt Go.RowKit Go.Sx
theorem own:ownKnob Tryz.prog.godebug=none:=by kernel_rfl
theorem laidOut:laidOutB Tryz.prog=true:=js4
theorem cellsI:Tryz.prog.cellsOf 3=1:=by kernel_rfl
theorem bytesI:Tryz.prog.bytesOf 3=8:=by kernel_rfl
theorem door_met(os:Os)(args:Array Value):laidMetH Tryz.prog Rows.buildBoundsRow.laid ((World.doorLaid Tryz.prog 138 os).forCall (fun _ _=>0) ⟨#[],args,[]⟩).memory:=
 laidMetH_of_parts3 (fuel:=8) (laidMet_of_run' 8 (by kernel_rfl) (by kernel_rfl)) (by kernel_rfl) (by kernel_rfl)
theorem eg_of{W:World}(h:laidMetH Tryz.prog Rows.buildBoundsRow.laid W): ∃ai al ae,EG (GW W) ai al ae:=by
 have h1:=laid_plain h J;obtain⟨ai,hi⟩:=sent_of (g:=0) h1.tail.tail.tail (by kernel_rfl) (by kernel_rfl);obtain⟨al,hl⟩:=sent_of (g:=1) h1.tail.tail.tail.tail.tail (by kernel_rfl) (by kernel_rfl);exact⟨ai,al,al,hi,hl⟩
theorem contract(H:Type)(enc:TypeId×Value->H)(W:World)(base:Nat)(args:Array Value)(ds gs:List (DataW H))(before:List MemPlace)
  (hval: ∀(j:Nat) t v,Tryz.f10.params[j]? =some t->args[j]? =some v->Value.okWide Tryz.prog W .any base t v)
  (hW:DataW.Whole enc Tryz.prog Tryz.f10.params.toList Rows.buildBoundsSpec.vars false W args.toList ds gs before)
  (hz:(DataW.weightsEach Tryz.prog (Tryz.f10.params.toList++(OpenSpec.ofChange Rows.buildBoundsSpec).bare.plain.varTypes Tryz.prog) (ds++gs)).all (· <=reachBytes)=true)(hlaid:laidMetH Tryz.prog Rows.buildBoundsRow.laid W):
  Calls Tryz.prog 10 args W fun e W'=> ∃v,e= .returned v/\Rows.buildBoundsSpec.post enc Tryz.prog Tryz.f10 false true false false W args v W':=by
 have hW':=hW;obtain⟨p,q,hA0,hV,rfl,_,_⟩:=hW;have hA:DataW.TrodAll enc Tryz.prog W 0 (fun _=>true) true Tryz.f10.params.toList args.toList ds p:=hA0;rw[Tryz.params10] at hA hval hz;obtain⟨v0,d0,hargs,rfl,h0⟩:=trodAll_one hA;obtain rfl:args= #[v0]:=by cases args;simp_all
 obtain⟨rfl,rfl⟩:=trodVars_none hV;clear hA0;simp only[List.append_nil] at hW';have hlt: ∀x∈p,x.block<W.heap.size:=fun x hx=>by simpa using hW'.lt x hx
 obtain⟨es,hI,hd,_⟩:=open_vI Tryz.underlying22 Tryz.underlying3 cellsI (hval 0 22 v0 rfl rfl) h0;have hb:es.length<=1125899906842624:=by
  rcases hd with⟨rfl,rfl⟩|⟨sp,rfl⟩
  ·exact Nat.zero_le _
  ·have:=sized_slice hz (j:=0) (t:=22) (e:=3) J J Tryz.underlying22
   rw[bytesI] at this;have hr:=reachBytes_lt;have hl:(lits (H:=H) .i64 es).length=es.length:=by simp[lits]
   rw[hl] at this;omega
 obtain⟨ai,al,ae,hE⟩:=eg_of hlaid;have hf:=(zT hE (es0:=es) hb) (GW W) [v0] (bz.refl _) (.cons hI .nil);refine(hf.run W (fun b cs hg=>GW.sub hg)).mono fun e W' ⟨v,G',he,hr,hv⟩=>?_;rw[aG] at hv;subst hv;subst he;have hn:=hr.below;have t2:=trodAll_mk1 (Below.trod laidOut (by kernel_rfl) (of_decide_eq_true (by kernel_rfl)) h0 hn hlt);exact⟨_,J,⟨_,_,_,[],_,[],hW',trodAll_mk1 (shut_bool Tryz.underlying4 _),t2,J,hn.frame _,fun h=>by cases h⟩⟩
theorem reads(os:Os){H:Type}(enc:TypeId×Value->H): ∃places,DataW.whole enc Tryz.prog ((World.doorLaid Tryz.prog 138 os).forCall (fun _ _=>0) ⟨#[], #[.slice none 0 0],[]⟩).memory Tryz.f10.params.toList Rows.buildBoundsSpec.vars false #[Value.slice none 0 0].toList 8=some ([.nil],[],places):=
 ⟨[],by kernel_rfl⟩
theorem lifted(os:Os)(started:os.Started)(H:Type)(enc:TypeId×Value->H)(F:Stop.Interp):
  ReturnsInHanded {} Tryz.checked os 10 .any ((OpenSpec.ofChange Rows.buildBoundsSpec).preRow enc Tryz.prog Tryz.f10 Rows.buildBoundsRow.domain false Rows.buildBoundsRow.laid) (((OpenSpec.ofChange Rows.buildBoundsSpec).at F).post enc Tryz.prog Tryz.f10 false true false false):=by
 obtain⟨places,hx⟩:=reads os enc;refine returnsInHanded_of_row (C:=Tryz.checked) (s:=OpenSpec.ofChange Rows.buildBoundsSpec) own started (by kernel_rfl) Tryz.func10
  (witness_row_atRef (enc:=enc) (C:=Tryz.checked) false (World.doorLaid Tryz.prog 138 os) #[.slice none 0 0] rfl (by kernel_rfl) (by kernel_rfl) (by kernel_rfl)
   (OpenSpec.preRow_of_cond 8 hx (by kernel_rfl) (fun k hk=>by cases hk) (by kernel_rfl) (door_met os _))) ?_
 intro W base args ds gs before hval hW _ _ hz hlaid _ _;exact contract H enc W base args ds gs before hval hW hz hlaid
theorem j1:(Rows.buildBoundsRow.inPlace==Tryz.pinned.checked.prog.inPlace 10)=true:=by kernel_rfl
theorem j2:(Rows.buildBoundsRow.unfollowed==Tryz.pinned.checked.prog.unfollowed 10)=true:=by kernel_rfl
theorem j3:(Rows.buildBoundsRow.recurses==Tryz.pinned.checked.prog.recurses 10)=true:=by kernel_rfl
theorem j4:(Rows.buildBoundsRow.named==Tryz.pinned.checked.prog.varsNamed 10)=true:=by kernel_rfl
theorem j5:laidOutB Tryz.pinned.checked.prog=true:=laidOut
theorem j6:mapsRowed Tryz.pinned.checked.prog=true:=js1
theorem j7:Tryz.pinned.checked.prog.mainIs=some (Rows.buildBoundsCard.stood.harness.1,Rows.buildBoundsCard.stood.harness.2.toList):=by kernel_rfl
theorem j8:false=Rows.buildBoundsRow.goesBy Tryz.pinned.checked.prog:=by kernel_rfl
theorem j9:(Rows.buildBoundsRow.plainKeys==Tryz.pinned.checked.prog.plainKeys)=true:=by kernel_rfl
theorem j10:(Rows.buildBoundsRow.lifted==Tryz.pinned.checked.prog.liftsFinal)=true:=by kernel_rfl
theorem j11:(Tryz.pinned.checked.prog.make==some Rows.buildBoundsRow.make)=true:=by kernel_rfl
theorem closed:joinedFacts Tryz.pinned.checked.prog 10 Tryz.f10 (OpenSpec.ofChange Rows.buildBoundsSpec).bare Rows.buildBoundsRow=true:=by
 unfold joinedFacts;rw[j1,j2,j3,j4,j5,j6,j9,j10,j11,js2,js3]
 kernel_rfl
theorem said:Rows.BuildBoundsSaid:=
 OpenClaim.holds_of_cond 10 Tryz.f10 J J J J J J J ⟨J,J,J,J,J⟩ J J J J J (by kernel_rfl) Tryz.func10 closed
  (of_decide_eq_true (by kernel_rfl)) (by unfold Func.isWrapper;first|(rw[if_pos (by decide+kernel)];kernel_rfl)|(rw[if_neg (by decide+kernel)];exact⟨J,J⟩))
  (fun os started H enc _ F=>by rw[OpenClaim.pre_eq_preRow];exact lifted os started H enc F)
theorem plain(f:FuncId)(fn:Func)(hf:Tryz.pinned.checked.prog.funcNamed "bspregion/bspregionlaw18.BuildBounds" =some f)(hfn:Tryz.pinned.checked.prog.funcs[f]? =some fn):
  true=Tryz.pinned.checked.prog.looks []/\ ∀(j:Nat) t,fn.params[j]? =some t->Tryz.pinned.checked.prog.wantsStandIn t=false:=by
 obtain rfl:f=10:=Option.some.inj ((show Tryz.prog.funcNamed "bspregion/bspregionlaw18.BuildBounds" =some 10 by kernel_rfl).symm.trans hf) |>.symm;obtain rfl:fn=Tryz.f10:=(Option.some.inj (Tryz.func10.symm.trans hfn)).symm;refine⟨by kernel_rfl,fun j t ht=>?_⟩;rw[Tryz.params10] at ht;have hm:=Array.mem_of_getElem? ht;simp only[List.mem_toArray,List.mem_cons,List.not_mem_nil,or_false] at hm;subst hm;exact(show Tryz.prog.wantsStandIn 22=false by kernel_rfl)
theorem card:Rows.BuildBoundsCardSaid:=
 Claim7.holds_tied_plain_at .later [] _ _ _ _ said (fun _ h=>by cases h) (by kernel_rfl) (fun _ h=>by cases h) buildBounds_row_tie J ⟨J,J⟩ j7 J plain j8
#print axioms card
end Go.Proofs.YtefoocgiaegobaaGreatDoor.buildBounds
end
