import Derived.Test.YtidmgdlbilojcaaGreatDoorTi19
import Derived.Shelf.SlSortCmp.NoneTotal
import Derived.Test.YtidmgdlbilojcaaGreatDoorProg
import Derived.Test.YtidmgdlbilojcaaGreatDoorCards
import Derived.Test.YtidmgdlbilojcaaGreatDoorTie
import Derived.WalkKit
import Derived.ProofKit
import Derived.OpenShut
import Derived.Deep.DeepHandedRow
import Derived.Deep.DeepWitnessRowRef
import Derived.LaidMore
import Derived.Lib.LaidTab
import Derived.SizedLaws
import Derived.Stop.LaidErr
import Derived.MakeChecks
set_option linter.unusedSimpArgs false
set_option maxHeartbeats 4000000
set_option maxRecDepth 100000
set_option linter.unusedVariables false
section
namespace Go.Sx
open Go Go.Proofs
theorem zU{v:Value}(h:Go.Sx.flat v=true):v.oneCell'=true:=by cases v<;>first|rfl|cases h
theorem zB{α:Type}{k:Nat}: ∀(l:List (List α)) (t:Nat),(∀x∈l,x.length=k)→t<l.length*k→l.flatten[t]? =(l[t/k]?).bind (·[t%k]?)
 |[],t,_,h=>by simp at h
 |x::l,t,h,ht=>by
  have hx:=h x aZ
  have hk:0<k:=by
   rcases eK k with e|e
   ·subst e;simp at ht
   ·exact e
  rw[kS]
  by_cases q:t<k
  ·rw[eJ (by omega),jJ q,dV q];rfl
  ·rw[gJ (by omega),hx,zB l (t-k) (fun y hy=>h y (aJ _ hy)) (by rw[bY,cS] at ht;omega)]
   have e1:t/k=(t-k)/k+1:=by rw[Nat.div_eq_sub_div hk (by omega)]
   have e2:t%k=(t-k)%k:=by rw[Nat.mod_eq_sub_mod (by omega)]
   rw[e1,e2];rfl
section
variable {α:Type} [Inhabited α]
theorem zZ(enc:α→List Value)(k:Nat)(hk: ∀x,(enc x).length=k)(d:Array α):(Go.Sort.flatK enc k d).toList=(d.toList.map enc).flatten:=by
 apply jM
 intro t
 have hlen:(d.toList.map enc).flatten.length=d.size*k:=by
  have: ∀l:List α,(l.map enc).flatten.length=l.length*k:=fun l=>by
   induction l with
   |nil=>simp
   |cons x l ih=>rw[cK,kS,aV,ih,hk,bY,cS];omega
  simpa using this d.toList
 by_cases ht:t<d.size*k
 ·have hk0:0<k:=by
   rcases eK k with e|e
   ·subst e;simp at ht
   ·exact e
  have hi:t/k<d.size:=sZ (by rwa [bL])
  rw[zB (k:=k) _ _ (fun x hx=>by obtain⟨y,_,rfl⟩:=bJ.1 hx;exact hk y) (by simpa using ht)]
  simp only[Go.Sort.flatK,rL,Array.toList_range,cV]
  rw[pN ht]
  have hj:t%k<(enc d[t/k]).length:=by rw[hk];exact cY _ hk0
  simp only[jY]
  rw[getElem!_pos d (t/k) hi,getElem!_pos (enc d[t/k]) (t%k) hj]
  simp[hi,hj]
 ·rw[cN (by simp[Go.Sort.flatK];omega),cN (by rw[hlen];omega)]
theorem zQ(enc:α→List Value)(k:Nat)(w:World)(b m:Nat)(dk:Array α)(os:Array Obj){q:Nat}(hq:q<w.heap.size):
  (sortWorldK enc k w b 0 m dk os).heap[q]? =if q=b then(w.heap[q]?).map (Go.Sort.onCells (Go.Sort.putCells id 0 (Go.Sort.flatK enc k dk))) else w.heap[q]? :=by
 show((w.heap.modify b _)++os)[q]? =_
 rw[mM (by simpa using hq),Array.getElem?_modify]
 by_cases e:b=q
 ·subst e;simp
 ·simp[e,Ne.symm e]
theorem zS{F:Array Value}{xs rest:List Value}(h:xs.length=F.size):Go.Sort.putCells id 0 F ⟨xs++rest⟩=⟨F.toList++rest⟩:=by
 apply Array.ext'
 apply jM
 intro k
 simp only[Go.Sort.putCells,Array.toList_mapIdx,List.getElem?_mapIdx]
 by_cases hk:k<F.size
 ·rw[eJ (by omega),eJ (by simpa using hk),aQ (by omega)]
  simp[hk]
 ·rw[gJ (by omega),gJ (by simp;omega),h]
  simp only[qX]
  cases rest[k-F.size]? with
  |none=>rfl
  |some v=>simp[hk]
end
def zF{A:Type}(cf:A→A→Int)(ds:List A):List A:=ds.mergeSort fun x y=>!decide (cf y x<0)
theorem zA{A:Type}(cf:A→A→Int)(ds:List A):(zF cf ds).Perm ds:=List.mergeSort_perm ..
theorem zI{A:Type}{cf:A→A→Int}(hO:Go.Sort.SWO (Go.Proofs.ltOf cf))(ds:List A):(zF cf ds).Pairwise fun x y=> ¬cf y x<0:=by
 have:=List.pairwise_mergeSort (le:=fun x y=>!decide (cf y x<0)) (fun a b c h1 h2=>by
  have h1':Go.Proofs.ltOf cf b a=false:=by simpa[Go.Proofs.ltOf] using h1
  have h2':Go.Proofs.ltOf cf c b=false:=by simpa[Go.Proofs.ltOf] using h2
  have:=hO.ntrans c b a h2' h1'
  simpa[Go.Proofs.ltOf] using this) (fun a b=>by
  cases h1:Go.Proofs.ltOf cf b a with
  |false=>have: ¬cf b a<0:=(by simpa[Go.Proofs.ltOf] using h1);simp;omega
  |true=>
   cases h2:Go.Proofs.ltOf cf a b with
   |false=>have: ¬cf a b<0:=(by simpa[Go.Proofs.ltOf] using h2);simp;omega
   |true=>have:=hO.trans _ _ _ h1 h2;rw[hO.irrefl] at this;cases this) ds
 exact this.imp fun h=>by simpa using h
theorem yL{P:Program}{ρ:Go.Shelf.Ren}{GB:Gh}(L:SlLaysF0.n6 P ρ)(ha:acP P (ρ.f 6)){s:Nat}(hAg: ∀w,(isAgg (ρ.t 24)).run P w= .ok true w)(hZs: ∀w,(sizeOf (ρ.t 24)).run P w= .ok s w)
  {A:Type}(e:A→DV)(V:A→Prop)(hA: ∀x,∃l,e x= .ag l∧(DV.ag l).okc=true∧l.length=s)(cf:A→A→Int)(hO:Go.Sort.SWO (Go.Proofs.ltOf cf)){g:FuncId}(hg:acP P g)
  (hc: ∀x y,V x→V y→PF GB P g [e x,e y] (.v (.int .i64 (cf x y)))){ty:TypeId}{ds:List A}(hV: ∀x∈ds,V x)(hn:ds.length<4611686018427387904)(hu: ∀x∈ds,∀y∈ds,¬cf x y<0→ ¬cf y x<0→x=y):
  PW GB P (ρ.f 6) [none,some (.v (.func (.func g) #[] #[]))] s ty (ds.map e) (.tp []) ((zF cf ds).map e):=by
 intro G z vs B hgb hB hvs
 refine⟨ha,fun w hw=>?_⟩
 obtain⟨v1,m1,rfl,q1,hvs⟩:=aae.1 hvs
 obtain⟨v2,m2,rfl,q2,hvs⟩:=aae.1 hvs
 cases aaJ.1 hvs
 rw[aa4] at q1 q2
 subst q1 q2
 obtain⟨es,k1,k2,k3,_⟩:=hB
 simp only at k1 k2 k3
 have hlen:es.length=ds.length:=by rw[k2.len,aK]
 by_cases h0:ds=[]
 ·subst h0
  have hes:es=[]:=bS (by simpa using hlen)
  have hz:z.n=0:=by rw[k1.len,hes];rfl
  rw[hz]
  refine(AnyF.slices_SortFunc_none L z.a z.c _ w).mono fun r w' ⟨h1,h2⟩=>?_
  subst h2
  exact⟨_,asB B,G,h1,hw,adS.2 ⟨[],rfl, .nil⟩,es,k1.asB,by subst hes;show IsLs G ((zF cf []).map e) [];unfold zF;rw[List.mergeSort_nil];exact .nil,k3,fun h=>by cases h⟩
 ·have hpos:0<es.length:=by rw[hlen];exact mQ.2 h0
  rcases k1 with⟨e1,_,_⟩|⟨b,rest,lo,e1,e2,e3,e4,e5⟩
  ·rw[e1] at hpos;simp at hpos
  subst e2
  -- elements with their cells
  have lift: ∀{ds:List A} {es:List Value},IsLs G (ds.map e) es→(∀x∈ds,V x)→ ∃qs:List {q:A×List Value//V q.1∧Is G (e q.1) (.agg ⟨q.2⟩)},qs.map (·.1.1)=ds∧qs.map (fun q=>Value.agg ⟨q.1.2⟩)=es:=by
   intro ds
   induction ds with
   |nil=>intro es h _;cases aaJ.1 h;exact⟨[],rfl,rfl⟩
   |cons x ds ih=>
    intro es h hV
    obtain⟨y,n,rfl,g1,g2⟩:=aae.1 h
    obtain⟨qs,g3,g4⟩:=ih g2 fun x hx=>hV x (aJ _ hx)
    obtain⟨l,hl,_⟩:=hA x
    have g1':=g1
    rw[hl] at g1'
    obtain⟨m,rfl,_⟩:=abX.1 g1'
    exact⟨⟨(x,m),hV x aZ,g1⟩::qs,by simp[g3],by simp[g4]⟩
  obtain⟨qs,hq1,hq2⟩:=lift k2 hV
  have:Inhabited {q:A×List Value//V q.1∧Is G (e q.1) (.agg ⟨q.2⟩)}:=⟨qs.head (fun e=>by rw[e] at hq1;exact h0 hq1.symm)⟩
  let enc:{q:A×List Value//V q.1∧Is G (e q.1) (.agg ⟨q.2⟩)}→List Value:=fun q=>q.1.2
  have henc: ∀q,(enc q).length=s∧ ∀v∈enc q,Go.Sx.flat v=true:=fun q=>by
   obtain⟨l,hl,h1,h2⟩:=hA q.1.1
   have h3:=q.2.2
   rw[hl] at h3
   obtain⟨m,hm,h4⟩:=abX.1 h3
   cases hm
   exact⟨by show q.1.2.length=s;rw[h4.len,h2],fun v hv=>h4.flat h1 v hv⟩
  have hk: ∀q,(enc q).length=s:=fun q=>(henc q).1
  have hqs:qs.toArray.size=es.length:=by rw[nW,←hq2,aK]
  have hfl: ∀d:Array {q:A×List Value//V q.1∧Is G (e q.1) (.agg ⟨q.2⟩)},(Go.Sort.flatK enc s d).toList=aak (d.toList.map fun q=>Value.agg ⟨q.1.2⟩):=fun d=>by
   rw[zZ enc s hk]
   unfold aak
   rw[pM];rfl
  have hfe:(Go.Sort.flatK enc s qs.toArray).toList=aak es:=by rw[hfl,←hq2]
  have hown:=hw.hown ⟨b,aak es++rest,ty,false⟩ aZ
  obtain⟨hb,hGb,_,_⟩:=hown
  simp only at hb hGb
  have hblt:=aco hb
  have hH:Go.Sort.HoldsK enc s w b 0 qs.toArray:=by
   intro j hj
   refine⟨?_,by simp[World.frozen?,hb]⟩
   rw[acT hb,fQ]
   have hj':j<(aak es).length:=by rw[←hfe];simpa using hj
   rw[eJ hj',←hfe]
   show _=some ((Go.Sort.flatK enc s qs.toArray)[j]!)
   rw[getElem!_pos _ j hj]
   simp
  have hsz: ∀dk:Array {q:A×List Value//V q.1∧Is G (e q.1) (.agg ⟨q.2⟩)},dk.size=qs.toArray.size→(aak es).length=(Go.Sort.flatK enc s dk).size:=fun dk hd=>by rw[←hfe];simp[hd]
  have hblk: ∀(m:Nat) (os:Array Obj) (dk:Array _),dk.size=qs.toArray.size→(sortWorldK enc s w b 0 m dk os).heap[b]? =some (.cells ⟨(Go.Sort.flatK enc s dk).toList++rest⟩ ty (0,0)):=fun m os dk hd=>by
   rw[zQ enc s w b m dk os hblt,if_pos rfl,hb]
   show some (Obj.cells (Go.Sort.putCells id 0 (Go.Sort.flatK enc s dk) ⟨aak es++rest⟩) ty (0,0))=_
   rw[zS (hsz dk hd)]
  have hoth: ∀(m:Nat) (os:Array Obj) (dk:Array _) (q:Nat),q<w.heap.size→q≠b→(sortWorldK enc s w b 0 m dk os).heap[q]? =w.heap[q]? :=fun m os dk q hq hne=>by rw[zQ enc s w b m dk os hq,if_neg hne]
  have hsub: ∀(m:Nat) (os:Array Obj) (dk:Array _) (c:Nat) (cs:List Value),G c=some cs→ ∃ty fz,(sortWorldK enc s w b 0 m dk os).heap[c]? =some (.cells ⟨cs⟩ ty fz):=fun m os dk c cs hcs=>by
   obtain⟨ty',fz,h⟩:=hw.sub c cs hcs
   exact⟨ty',fz,by rw[hoth m os dk c (aco h) (fun e=>by subst e;rw[hGb] at hcs;cases hcs)];exact h⟩
  have hsize: ∀(m:Nat) (os:Array Obj) (dk:Array _),w.heap.size≤(sortWorldK enc s w b 0 m dk os).heap.size:=fun m os dk=>by
   show _≤((w.heap.modify b _)++os).size
   simp
  have hcmp:Go.Proofs.CmpLays P g #[] enc s (fun q r=>cf q.1.1 r.1.1) b 0 qs.toArray.size w:=by
   intro m os dk _ x y
   have hF:=hc x.1.1 y.1.1 x.2.1 y.2.1 G [.agg ⟨x.1.2⟩, .agg ⟨y.1.2⟩] hgb (.cons x.2.2 (.cons y.2.2 .nil))
   refine(hF.run _ (hsub m os dk)).mono fun r W ⟨v,G',h1,h2,h3⟩=>?_
   rw[aa4] at h3
   subst h3
   refine⟨h1,W.drawn-(sortWorldK enc s w b 0 m dk os).drawn,W.heap.extract (sortWorldK enc s w b 0 m dk os).heap.size W.heap.size,?_⟩
   have hdr:=h2.dr
   have hos:=h2.os
   have htp:=h2.tape
   have hou:=h2.output
   have hkp:=h2.keep
   have hss:=h2.size
   simp only at hdr hos htp hou hkp hss
   generalize sortWorldK enc s w b 0 m dk os=W0 at*
   cases W with
   |mk heap tape drawn os' output=>
    simp only at*
    unfold Go.Sort.grow World.drewN
    simp only[World.mk.injEq]
    refine⟨?_,htp,by omega,hos,hou⟩
    apply Array.ext_getElem?
    intro k
    rw[Array.getElem?_append]
    split
    ·rename_i hk';exact hkp k hk' (by simp)
    ·rename_i hk'
     rw[Array.getElem?_extract]
     split
     ·congr 1;omega
     ·rw[rZ (by omega)]
  have hO':Go.Sort.SWO (Go.Proofs.ltOf fun(q r:{q:A×List Value//V q.1∧Is G (e q.1) (.agg ⟨q.2⟩)})=>cf q.1.1 r.1.1):=⟨fun x=>hO.irrefl x.1.1,fun x y z=>hO.trans x.1.1 y.1.1 z.1.1,fun x y z=>hO.ntrans x.1.1 y.1.1 z.1.1⟩
  have hrun:=AnyQ.slices_SortFunc L s hAg hZs enc hk (fun q v hv=>zU ((henc q).2 v hv)) (fun q r=>cf q.1.1 r.1.1) hO' g #[] b 0 z.c qs.toArray w (fun args w=>ahX hg args w) hcmp hH hblt (by rw[hqs,hlen];exact hn)
  have ez:z=⟨some ⟨b,0,none⟩,qs.toArray.size,z.c⟩:=by rw[hqs];exact e1
  have ea:(⟨[Value.slice z.a z.n z.c, .func (.func g) #[] #[]]⟩:Array Value)= #[.slice (some ⟨b,0,none⟩) qs.toArray.size z.c, .func (.func g) #[] #[]]:=by rw[ez]
  rw[ea]
  refine hrun.mono fun r w' ⟨h1,d',n,os,hp,hs,h2⟩=>?_
  subst h2
  have hdz:d'.size=qs.toArray.size:=hp.1
  have hperm:d'.toList.Perm qs:=by
   have:=hp.2.2
   have e1:d'.toList.take qs.length=d'.toList:=aR (by rw[qX,hdz];simp)
   simpa[e1] using this
  have hasc:d'.toList.Pairwise fun x y=> ¬cf y.1.1 x.1.1<0:=by
   rw[iN]
   intro i j hi hj hij
   have:=hs i j (bX _) hij (by rw[←hdz];simpa using hj)
   rw[getElem!_pos d' j (by simpa using hj),getElem!_pos d' i (by simpa using hi)] at this
   simpa[Go.Proofs.ltOf] using this
  have hds:d'.toList.map (·.1.1)=zF cf ds:=by
   refine List.Perm.eq_of_pairwise (le:=fun x y=> ¬cf y x<0) (fun x y hx hy k1 k2=>?_) ?_ (zI hO ds) ?_
   ·have m1:x∈ds:=by
     obtain⟨q,hq,rfl⟩:=bJ.1 hx
     rw[←hq1];exact bJ.2 ⟨q,hperm.mem_iff.1 hq,rfl⟩
    exact hu x m1 y ((zA cf ds).mem_iff.1 hy) k2 k1
   ·rw[rX];exact hasc
   ·refine(hperm.map _).trans ?_
    rw[hq1];exact(zA cf ds).symm
  have hlen':(d'.toList.map fun q=>Value.agg ⟨q.1.2⟩).length=es.length:=by rw[aK,qX,hdz,hqs]
  have hIs: ∀l:List {q:A×List Value//V q.1∧Is G (e q.1) (.agg ⟨q.2⟩)},IsLs G ((l.map (·.1.1)).map e) (l.map fun q=>Value.agg ⟨q.1.2⟩):=fun l=>by
   induction l with
   |nil=>exact .nil
   |cons q l ih=>exact .cons q.2.2 ih
  have hcell: ∀v∈d'.toList.map (fun q=>Value.agg ⟨q.1.2⟩),(aag v).length=s:=fun v hv=>by
   obtain⟨q,_,rfl⟩:=bJ.1 hv
   exact hk q
  refine⟨_,[⟨b,aak (d'.toList.map fun q=>Value.agg ⟨q.1.2⟩)++rest,ty,false⟩],G,h1,?_,adS.2 ⟨[],rfl, .nil⟩,d'.toList.map (fun q=>Value.agg ⟨q.1.2⟩), .inr ⟨b,rest,false,by rw[hlen'];exact e1,rfl,aar _ hcell,?_,by rw[hlen'];exact e5⟩,by rw[←hds];exact hIs _,hcell,fun h=>by cases h⟩
  ·refine⟨rfl,rfl,rfl,hsize n os d',fun q hq hqm=>hoth n os d' q hq fun e=>hqm (by rw[e];exact aZ),hsub n os d',GLe.refl _,fun _ _=>rfl,fun o ho=>?_,List.pairwise_singleton _ _,?_,fun p hp=>(by cases hp)⟩
   ·rw[aY.1 ho]
    exact⟨by rw[←hfl];exact hblk n os d' hdz,hGb,(fun h=>by cases h),fun _=>aZ⟩
   ·show w.drawn≤w.drawn+n
    omega
  ·rw[←e4,aar _ hcell,e3,hlen']
theorem yK{a b c:PtQ}(h:Bef c a):Bef c b∨Bef b a:=by
 by_cases h1:c.half<b.half
 ·exact .inl (.inl h1)
 ·by_cases h2:b.half<a.half
  ·exact .inr (.inl h2)
  ·rcases h with h|⟨h,k⟩
   ·omega
   ·have e1:c.half=b.half:=by omega
    have e2:b.half=a.half:=by omega
    by_cases q1:0<c.cross b
    ·exact .inl (.inr ⟨e1,q1⟩)
    ·by_cases q2:0<b.cross a
     ·exact .inr (.inr ⟨e2,q2⟩)
     ·exfalso
      have i1:b.y*c.cross a=a.y*c.cross b+c.y*b.cross a:=by unfold PtQ.cross;grind
      have i2:b.x*c.cross a=a.x*c.cross b+c.x*b.cross a:=by unfold PtQ.cross;grind
      have q1':c.cross b≤0:=by grind
      have q2':b.cross a≤0:=by grind
      rcases aaM b with⟨eb,kb⟩|⟨eb,kb⟩|⟨eb,kb⟩<;>rcases aaM a with⟨ea,ka⟩|⟨ea,ka⟩|⟨ea,ka⟩<;>rcases aaM c with⟨ec,kc⟩|⟨ec,kc⟩|⟨ec,kc⟩<;>first|omega|skip
      ·have ha:0≤a.y:=by grind
       have hc:0≤c.y:=by grind
       rcases kb with kb|⟨kb,kb'⟩
       ·have g1:=oV ha (show 0≤ -c.cross b by grind)
        have g2:=oV hc (show 0≤ -b.cross a by grind)
        have g3:=aab kb k
        grind
       ·have hx:b.cross a=b.x*a.y:=by unfold PtQ.cross;rw[kb];grind
        have ha0:a.y=0:=by
         rcases ka with ka|ka
         ·have:=aab kb' ka;grind
         ·exact ka.1
        have hax:0<a.x:=by grind
        have hy:c.cross a= -(c.y*a.x):=by unfold PtQ.cross;rw[ha0];grind
        have:=oV hc (show 0≤a.x by grind)
        grind
      ·have ha:0≤ -a.y:=by grind
       have hc:0≤ -c.y:=by grind
       rcases kb with kb|⟨kb,kb'⟩
       ·have g1:=oV ha (show 0≤ -c.cross b by grind)
        have g2:=oV hc (show 0≤ -b.cross a by grind)
        have g3:=aab (show 0< -b.y by grind) k
        grind
       ·have hx:b.cross a=b.x*a.y:=by unfold PtQ.cross;rw[kb];grind
        have ha0:a.y=0:=by
         rcases ka with ka|ka
         ·have:=aab (show 0< -b.x by grind) (show 0< -a.y by grind);grind
         ·exact ka.1
        have hax:0< -a.x:=by grind
        have hy:c.cross a= -(c.y*a.x):=by unfold PtQ.cross;rw[ha0];grind
        have:=oV hc (show 0≤ -a.x by grind)
        grind
      ·have hy:c.cross a=0:=by unfold PtQ.cross;rw[ka.1,ka.2];grind
       rw[hy] at k;exact absurd k (by decide)
theorem zR:Go.Sort.SWO (Go.Proofs.ltOf aay):=by
 have e: ∀x y,Go.Proofs.ltOf aay x y=true↔Bef x y:=fun x y=>by rw[←acB];simp[Go.Proofs.ltOf]
 have e2: ∀x y,Go.Proofs.ltOf aay x y=false↔ ¬Bef x y:=fun x y=>by rw[←e];simp
 refine⟨fun x=>(e2 x x).2 (aef x),fun x y z h k=>(e x z).2 (adq ((e x y).1 h) ((e y z).1 k)),fun x y z h k=>(e2 x z).2 fun q=>?_⟩
 rcases yK (b:=y) q with q|q
 ·exact(e2 x y).1 h q
 ·exact(e2 y z).1 k q
theorem yC: ∀{l m:List PtQ},l.Pairwise Bef→m.Pairwise Bef→(∀x,x∈l↔x∈m)→l=m
 |[],[],_,_,_=>rfl
 |[],b::m,_,_,h=>absurd ((h b).2 aZ) (by simp)
 |a::l,[],_,_,h=>absurd ((h a).1 aZ) (by simp)
 |a::l,b::m,h1,h2,h=>by
  obtain⟨p1,p2⟩:=bR.1 h1
  obtain⟨q1,q2⟩:=bR.1 h2
  have e:a=b:=by
   rcases aU.1 ((h a).1 aZ) with e|e
   ·exact e
   ·rcases aU.1 ((h b).2 aZ) with f|f
    ·exact f.symm
    ·exact(afD (q1 a e) (p1 b f)).elim
  subst e
  congr 1
  refine yC p2 q2 fun x=>⟨fun hx=>?_,fun hx=>?_⟩
  ·rcases aU.1 ((h x).1 (aJ _ hx)) with e|e
   ·subst e;exact(aef _ (p1 _ hx)).elim
   ·exact e
  ·rcases aU.1 ((h x).2 (aJ _ hx)) with e|e
   ·subst e;exact(aef _ (q1 _ hx)).elim
   ·exact e
def zH(l:List PtQ):Prop:= ∀x∈l,∀y∈l,aay x y=0→x=y
theorem yB: ∀{l:List PtQ} {x:PtQ},(x::l).Pairwise (fun a b=> ¬Bef b a)→zH (x::l)→(amu x l).Pairwise Bef∧(∀y∈amu x l,Bef x y)∧ ∀y,y∈x::amu x l↔y∈x::l
 |[],_,_,_=>⟨.nil,(fun y hy=>by cases hy),fun _=>Iff.rfl⟩
 |z::l,x,h,ht=>by
  obtain⟨p1,p2⟩:=bR.1 h
  obtain⟨i1,i2,i3⟩:=yB p2 fun a ha b hb=>ht a (aJ _ ha) b (aJ _ hb)
  rw[amu]
  by_cases e:aay z x=0
  ·rw[if_pos e]
   obtain rfl:=ht z (by simp) x (by simp) e
   exact⟨i1,i2,fun y=>by rw[i3];simp⟩
  ·rw[if_neg e]
   have hb:Bef x z:=by
    by_cases q:Bef x z
    ·exact q
    ·exact absurd (alK (p1 z aZ) q) e
   refine⟨bR.2 ⟨i2,i1⟩,fun y hy=>?_,fun y=>?_⟩
   ·rcases aU.1 hy with rfl|hy
    ·exact hb
    ·exact adq hb (i2 y hy)
   ·rw[aU,i3,aU (b:=x) (l:=z::l)]
theorem zM: ∀(l:List PtQ) (x:PtQ),(amu x l).length≤l.length
 |[],_=>aM _
 |y::l,x=>by
  have:=zM l y
  rw[amu]
  split<;>simp only[bY]<;>omega
theorem zV(l:List PtQ):(aj7 l).length≤l.length:=by
 cases l with
 |nil=>exact aM _
 |cons x l=>have:=zM l x;simp only[aj7,bY];omega
theorem yG{l:List PtQ}(h:l.Pairwise fun a b=> ¬Bef b a)(ht:zH l):(aj7 l).Pairwise Bef∧ ∀y,y∈aj7 l↔y∈l:=by
 cases l with
 |nil=>exact⟨.nil,fun _=>Iff.rfl⟩
 |cons x l=>
  obtain⟨i1,i2,i3⟩:=yB h ht
  exact⟨bR.2 ⟨i2,i1⟩,i3⟩
theorem zJ{l:List PtQ}(ht:zH l)(y:PtQ):y∈aij l↔y∈l:=by
 have h2: ∀y,y∈aij l→y∈l:=fun y hy=>by
  rcases agV aay hy with h|h
  ·exact h
  ·cases h
 refine⟨h2 y,fun hy=>?_⟩
 obtain⟨e,e1,e2⟩:=ale aay (o:=[]) hy
 rcases e2 with rfl|e2
 ·exact e1
 ·rw[←ht e (h2 e e1) y hy e2];exact e1
theorem zL{l:List PtQ}(ht:zH l):aj7 (zF aay l)=aij l:=by
 have hm: ∀y,y∈zF aay l↔y∈l:=fun y=>(zA aay l).mem_iff
 have h1:(zF aay l).Pairwise fun a b=> ¬Bef b a:=(zI zR l).imp fun h=>by rw[←acB];exact h
 obtain⟨k1,k2⟩:=yG h1 fun a ha b hb=>ht a ((hm a).1 ha) b ((hm b).1 hb)
 exact yC k1 (aq8 l) fun x=>by rw[k2,hm,zJ ht]
theorem zW{t:Tr}(ht:t.all LnQ.ok)(p:PtQ):zH (aby t p):=fun x hx y hy h=>by
 obtain⟨l,k1,k2⟩:=abT.1 hx
 obtain⟨m,k3,k4⟩:=abT.1 hy
 obtain⟨a1,a2⟩:=ack k1
 obtain⟨b1,b2⟩:=ack k3
 exact azu (aeE ht _ a1) (aeE ht _ b1) a2 b2 k2 k4 h
end Go.Sx
end
section
namespace Go.Proofs
open Go.Shelf
def Tryz.sortPt_ren:Go.Shelf.Ren:=⟨fun|6=>187|15=>246|14=>245|28=>274|29=>292|20=>284|21=>285|22=>286|23=>287|24=>288|25=>289|26=>290|27=>291|46=>299|47=>300|48=>301|49=>302|50=>303|57=>306|n=>n,fun|22=>154|24=>146|25=>305|3=>3|39=>216|0=>0|53=>215|55=>214|4=>4|46=>386|45=>385|50=>337|5=>5|9=>9|66=>394|70=>398|76=>402|77=>403|n=>n,fun|n=>n⟩
theorem Tryz.sortPt:Go.Proofs.SlLaysF0.n6 Tryz.prog Tryz.sortPt_ren:={
 mixed:=by kernel_rfl
 f6:=⟨Tryz.f187.name,by decide,Tryz.func187.trans (congrArg some (by kernel_rfl))⟩
 f14:=⟨Tryz.f245.name,by decide,Tryz.func245.trans (congrArg some (by kernel_rfl))⟩
 f15:=Tryz.func246.trans (congrArg some (by kernel_rfl))
 f20:=⟨Tryz.f284.name,by decide,Tryz.func284.trans (congrArg some (by kernel_rfl))⟩
 f21:=⟨Tryz.f285.name,by decide,Tryz.func285.trans (congrArg some (by kernel_rfl))⟩
 f22:=⟨Tryz.f286.name,by decide,Tryz.func286.trans (congrArg some (by kernel_rfl))⟩
 f23:=⟨Tryz.f287.name,by decide,Tryz.func287.trans (congrArg some (by kernel_rfl))⟩
 f24:=⟨Tryz.f288.name,by decide,Tryz.func288.trans (congrArg some (by kernel_rfl))⟩
 f25:=⟨Tryz.f289.name,by decide,Tryz.func289.trans (congrArg some (by kernel_rfl))⟩
 f26:=⟨Tryz.f290.name,by decide,Tryz.func290.trans (congrArg some (by kernel_rfl))⟩
 f27:=⟨Tryz.f291.name,by decide,Tryz.func291.trans (congrArg some (by kernel_rfl))⟩
 f28:=Tryz.func274.trans (congrArg some (by kernel_rfl))
 f29:=Tryz.func292.trans (congrArg some (by kernel_rfl))
 f46:=⟨Tryz.f299.name,by decide,Tryz.func299.trans (congrArg some (by kernel_rfl))⟩
 f47:=Tryz.func300.trans (congrArg some (by kernel_rfl))
 f48:=Tryz.func301.trans (congrArg some (by kernel_rfl))
 f49:=⟨Tryz.f302.name,by decide,Tryz.func302.trans (congrArg some (by kernel_rfl))⟩
 f50:=⟨Tryz.f303.name,by decide,Tryz.func303.trans (congrArg some (by kernel_rfl))⟩
 f57:=⟨Tryz.f306.name,by decide,Tryz.func306.trans (congrArg some (by kernel_rfl))⟩
 t0:=Tryz.underlying0
 a0:=Tryz.isAgg0
 z0:=Tryz.sizeOf0
 v0:=Tryz.zeroValue0
 t3:=Tryz.underlying3
 a3:=Tryz.isAgg3
 z3:=Tryz.sizeOf3
 v3:=Tryz.zeroValue3
 t4:=Tryz.underlying4
 a4:=Tryz.isAgg4
 z4:=Tryz.sizeOf4
 v4:=Tryz.zeroValue4
 t5:=Tryz.underlying5
 a5:=Tryz.isAgg5
 z5:=Tryz.sizeOf5
 v5:=Tryz.zeroValue5
 t9:=Tryz.underlying9
 a9:=Tryz.isAgg9
 z9:=Tryz.sizeOf9
 v9:=Tryz.zeroValue9
 t22:=Tryz.underlying154
 a22:=Tryz.isAgg154
 z22:=Tryz.sizeOf154
 v22:=Tryz.zeroValue154
 t25:=Tryz.underlying305
 a25:=Tryz.isAgg305
 z25:=Tryz.sizeOf305
 v25:=Tryz.zeroValue305
 t39:=Tryz.underlying216
 a39:=Tryz.isAgg216
 z39:=Tryz.sizeOf216
 v39:=Tryz.zeroValue216
 t45:=Tryz.underlying385
 a45:=Tryz.isAgg385
 z45:=Tryz.sizeOf385
 v45:=Tryz.zeroValue385
 t46:=Tryz.underlying386
 a46:=Tryz.isAgg386
 z46:=Tryz.sizeOf386
 v46:=Tryz.zeroValue386
 t50:=Tryz.underlying337
 a50:=Tryz.isAgg337
 z50:=Tryz.sizeOf337
 v50:=Tryz.zeroValue337
 t53:=Tryz.underlying215
 a53:=Tryz.isAgg215
 z53:=Tryz.sizeOf215
 v53:=Tryz.zeroValue215
 t55:=Tryz.underlying214
 a55:=Tryz.isAgg214
 z55:=Tryz.sizeOf214
 v55:=Tryz.zeroValue214
 t66:=Tryz.underlying394
 a66:=Tryz.isAgg394
 z66:=Tryz.sizeOf394
 v66:=Tryz.zeroValue394
 t70:=Tryz.underlying398
 a70:=Tryz.isAgg398
 z70:=Tryz.sizeOf398
 v70:=Tryz.zeroValue398
 t76:=Tryz.underlying402
 a76:=Tryz.isAgg402
 z76:=Tryz.sizeOf402
 v76:=Tryz.zeroValue402
 t77:=Tryz.underlying403
 a77:=Tryz.isAgg403
 z77:=Tryz.sizeOf403
 v77:=Tryz.zeroValue403}
end Go.Proofs
end
section
namespace Go.Sx
open Go Go.Proofs Tryz
variable {GB:Gh}
theorem zY{ds:List PtQ}{i:Nat}(hb: ∀d∈ds,BPt d i)(hi:i≤10000000)(hn:ds.length≤10000000)(ht:zH ds):PW GB prog 187 [none,some (.v (.func (.func 188) #[] #[]))] 6 146 (ds.map eZ) (.tp []) ((zF aay ds).map eZ):=
 yL (GB:=GB) Tryz.sortPt ⟨_,func187,rfl,rfl⟩ isAgg146 sizeOf146 eZ (fun d=>BPt d i) (fun x=>⟨_,rfl,rfl,rfl⟩) aay zR ⟨_,func188,rfl,rfl⟩ (fun x y hx hy=>aoz (i:=i) (j:=i) hi hi) hb (by omega)
  (fun x hx y hy h k=>ht x hx y hy (alK (by rw[←acB];exact h) (by rw[←acB];exact k)))
theorem yJ{ds:List PtQ}{i:Nat}(hb: ∀d∈ds,BPt d i)(hi:i≤10000000)(hn:ds.length≤10000000)(ht:zH ds):PB GB prog 138 (mkB [none]) 6 146 (ds.map eZ) (fun w=> .v (.slice w.a w.n w.c)) ((aij ds).map eZ):=by
 have hsm: ∀d∈zF aay ds,BPt d i:=fun d hd=>hb d ((zA aay ds).mem_iff.1 hd)
 have hsl:(zF aay ds).length=ds.length:=(zA aay ds).length_eq
 refine fnQ func138 J J ntmps138 J J (fun C=>?_)
 refine cw _ rfl (zY hb hi hn ht) J J<|cq ((aij ds).map eZ) rfl (auS (i0:=i) hsm (by omega) hi) (by rw[zL ht]) rfl<|?_
 exact rzQ J J J J
theorem yE{t:Tr}(hb:t.all LB)(p:PtQ): ∀d∈aby t p,BPt d 500:=fun d hd=>by
 obtain⟨l,h1,h2⟩:=abT.1 hd
 haveI:=ahL.1 hb l (ack h1).1
 rcases h2 with rfl|rfl<;>infer_instance
theorem yH{ds:List PtQ}{i:Nat}(h: ∀d∈ds,BPt d i)(h2:2≤i): ∀v∈afa ds,BPt v (i+i+1):=fun v hv=>by
 have up: ∀{q:PtQ},BPt q i→BPt q (i+i+1):=fun hq=>⟨hq.x.mono (by omega),hq.y.mono (by omega)⟩
 unfold afa at hv
 split at hv
 ·rw[aY] at hv
  subst hv
  exact⟨BQ.mono (k:=2) ⟨by decide,by decide⟩ (by omega),BQ.mono (k:=2) ⟨by decide,by decide⟩ (by omega)⟩
 ·obtain⟨k,hk,rfl⟩:=bJ.1 hv
  have hk':=kL.1 hk
  have g: ∀{j:Nat},j<ds.length→BPt (ds.getD j ⟨0,0⟩) i:=fun{j} hj=>by
   rw[aX,aQ hj];exact h _ (cZ hj)
  haveI:=g hk'
  haveI:=g (cY (k+1) (show 0<ds.length by omega))
  unfold ars
  split
  ·exact inferInstance
  ·exact up inferInstance
theorem yD(ds:List PtQ):(afa ds).length≤ds.length+1:=by
 unfold afa
 split
 ·simp
 ·rw[aK,pJ];omega
theorem zN{vs:List PtQ}{f:PtQ→Bool}{k:Nat}{v:PtQ}(h:vs[k]? =some v):(vs.drop k).any f=(f v||(vs.drop (k+1)).any f):=by
 obtain⟨h1,h2⟩:=aL.1 h
 rw[bQ h1,h2,List.any_cons]
theorem zO{vs:List PtQ}{f:PtQ→Bool}{k:Nat}{v:PtQ}(h:vs[k]? =some v):(vs.drop k).all f=(f v&&(vs.drop (k+1)).all f):=by
 obtain⟨h1,h2⟩:=aL.1 h
 rw[bQ h1,h2,List.all_cons]
theorem zT{b c:Bool}:PF GB prog 141 [vB b,vB c] (vI (if b&&c then 2 else if b then 1 else 0)):=by
 refine fn func141 J J ntmps141 J J (fun C=>?_)
 refine csb 7 J J J (fun hg7=>?_) (fun hg7=>?_)
 ·refine bb J J J (fun hc5=>?_) (fun hc5=>?_)
  ·exact rz rfl (by subst hg7 hc5;rfl)
  ·refine bb J J J (fun hc10=>?_) (fun hc10=>?_)
   ·exact rz rfl (by subst hg7 hc5;rfl)
   ·subst hg7;cases hc10
 ·refine bb J J J (fun hc10=>?_) (fun hc10=>?_)
  ·subst hg7;cases hc10
  ·exact rz rfl (by subst hg7;rfl)
theorem zX{t:Tr}{p:PtQ}{i:Nat}[hp:BPt p i](hb:t.all LB)(ho:t.all LnQ.ok)(hs:t.size≤400000)(hi:i≤10000000:=by decide):PF GB prog 78 [eU t,eZ p] (vI (akH t p)):=by
 have hrl:=ag4 t p
 have hrb:=yE hb p
 have hrt:=zW ho p
 have hdb: ∀d∈aij (aby t p),BPt d 500:=fun d hd=>hrb d ((zJ hrt d).1 hd)
 have hdl:(aij (aby t p)).length≤(aby t p).length:=by rw[←zL hrt];exact cR (zV _) (Nat.le_of_eq (zA aay _).length_eq)
 have hsb:=yH hdb (by decide)
 obtain⟨vs,hvs⟩: ∃vs,vs=afa (aij (aby t p)):=⟨_,rfl⟩
 have hvl:vs.length≤(aij (aby t p)).length+1:=by rw[hvs];exact yD _
 rw[←hvs] at hsb
 have hml:(vs.map eZ).length=vs.length:=aK ..
 refine fn func78 J J ntmps78 J J (fun C=>?_)
 refine cqn ((aby t p).map eZ) rfl (ant (p:=p) (o:=[]) hi hb (by rw[fU];omega)) J J<|cq ((aij (aby t p)).map eZ) rfl (yJ hrb (by decide) (by omega) hrt) J J<|?_
 refine fz 14 J J<|cl (fu:=⟨0⟩) rfl (auR (ds:=aij (aby t p)) (i:=500) hdb (by omega)) rfl<|?_
 refine eqF 15 (.d (.sl (vs.map eZ))) rfl (by rw[hvs]) ?_
 refine gx (fu:=⟨1⟩) rfl<|?_
 refine eqF 16 (.d (vI (vs.length:Nat))) rfl (by rw[hml]<;>rfl) ?_
 refine gx rfl<|?_
 refine dvC 5 _ J J ?_
 refine dvC 6 _ J J ?_
 refine lp (X:=Bool×Bool×Nat) (fun⟨a,c,k⟩=>[(17, .d (vI (k:Nat))),(5, .d (vB a)),(6, .d (vB c))]) (fun⟨a,c,k⟩=>[]) (fun⟨a,c,k⟩=>(a||(vs.drop k).any (fun v=>(af9 t p v).1))=inP t p∧(c&&(vs.drop k).all (fun v=>(af9 t p v).1))=alP t p∧k≤vs.length) (fun⟨a,c,k⟩=>vs.length-k) ⟨false,true,0⟩ rfl ⟨by rw[hvs];simp[inP],by rw[hvs];simp[alP],bX _⟩ (fun _=>rfl) (fun⟨a,c,k⟩ hk=>?_)
 try dsimp only at hk⊢
 obtain⟨h1,h2,h3⟩:=hk
 refine br J J J (fun hc18=>?_) (fun hc18=>?_)
 ·
  obtain⟨v,hx⟩: ∃v,vs[k]? =some v:=⟨_,aQ (by omega)⟩
  haveI:=hsb v (aS hx)
  refine ix _ rfl (aaq hx) rfl<|cl rfl (att (t:=t) (p:=p) (v:=v) (i:=i) (j:=500+500+1) hb hi (by decide)) rfl<|?_
  refine bb J J J (fun hc28=>?_) (fun hc28=>?_)
  ·
   refine dvE 5 _ J J ?_
   exact at_ ⟨true,c,k+1⟩ (by dsimp only;exact⟨⟨by rw[←h1,zN hx,hc28];simp,by rw[←h2,zO hx,hc28];simp,by omega⟩,(by omega)⟩)
  ·
   refine dvE 6 _ J J ?_
   exact at_ ⟨a,false,k+1⟩ (by dsimp only;exact⟨⟨by rw[←h1,zN hx,hc28];simp,by rw[←h2,zO hx,hc28];simp,by omega⟩,(by omega)⟩)
 ·
  obtain rfl:k=vs.length:=by omega
  rw[dR] at h1 h2
  have e1:a=inP t p:=by simpa using h1
  have e2:c=alP t p:=by simpa using h2
  refine cl rfl (zT (b:=a) (c:=c)) rfl<|?_
  exact rz rfl (by rw[e1,e2];rfl)
theorem yI{k i:Nat}{t:Tr}{p:PtQ}[hp:BPt p i](h:TrX k t)(hi:i≤10000000:=by decide):PF GB prog 28 [eA t,ePt p] (.tp [vI (akH t p), .v .nilIface]):=by
 have hts:=h.s
 refine fn func28 J J ntmps28 J J (fun C=>?_)
 refine cl (fu:=⟨11⟩) rfl (aC2 h) rfl<|?_
 refine kbT 13 rfl ?_
 refine gx rfl<|cl rfl (aCN (p:=p) (i:=i) (by omega)) rfl<|cl rfl (zX (t:=t) (p:=p) (i:=i) h.lb h.ok (by omega) hi) rfl<|?_
 exact rz J J
theorem zP(n:Int): -20<n.tmod 20∧n.tmod 20<20:=by
 have h:=Int.natAbs_tmod n 20
 have h2:n.natAbs%(20:Int).natAbs<20:=cY _ (by decide)
 omega
theorem yM(n:Int): ∃N:Nat,(n.tmod 20+20).tmod 20=(N:Int)∧N<20:=by
 have:=zP n
 refine⟨((n.tmod 20+20)%20).toNat,?_,by omega⟩
 rw[Int.tmod_eq_emod_of_nonneg (by omega)];omega
theorem yF{b:Nat}{es:List Int}(hes:es.length≤400){A:Tr}(hA:A=(afe es 1 0).1):PM GB prog 9 (mkP [none,some (vI 1)] b) b 87 [.sl (es.map vI), .v (.int .i64 (0:Nat))] (eT A) [.sl (es.map vI), .v (.int .i64 ((afe es 1 0).2:Nat))]:=by
 subst hA;exact aAX hes (bX _) (d:=1) (by decide)
theorem zG{ai al ae au ar:Addr}(hE:EGS GB ai al ae au ar){es0:List Int}(hb:es0.length≤1125899906842624){n:Int}(hn: -9223372036854775808≤n∧n<9223372036854775808):PF GB prog 5 [.sl (es0.map vI),vI n] (.v (.bool true)):=by
 obtain⟨es,hee⟩: ∃es,es=es0.take 400:=⟨_,rfl⟩
 have hes:es.length≤400:=by rw[hee];simp;omega
 obtain⟨A,hAe⟩: ∃A,A=(afe es 1 0).1:=⟨_,rfl⟩
 obtain⟨hA,hbd,_,hr⟩:=aFb (es:=es) (a:=0) (d:=1) (bX _) (by decide)
 rw[←hAe] at hA hbd hr
 obtain⟨ts,hts⟩: ∃ts,ts=(aaL A).flatMap alf:=⟨_,rfl⟩
 have htb:=avn hA (by decide)
 rw[←hts] at htb
 obtain⟨N,hN,hN20⟩:=yM n
 have ht20:=zP n
 have hsl:(((List.range N).map (smp ts)).map ePt).length=N:=by simp
 refine fn func5 J J ntmps5 J J (fun C=>?_)
 refine cn rfl ((aEZ hb hee)) (fun _=>rfl) (fun _=>?_)
 refine cm rfl (fun b=>(yF hes hAe)) rfl<|cl (fu:=⟨11⟩) rfl (apZ hA) rfl<|?_
 refine eqF 21 (.d (vI (N:Nat))) rfl (by rw[hN]<;>rfl) ?_
 refine gx rfl<|?_
 rcases(show N=0∨(0<N∧ts.length=0)∨(0<N∧0<ts.length) by omega) with hN0|⟨h1,h0⟩|⟨h1,h0⟩
 ·
  subst hN0
  refine cl (fu:=⟨26⟩) rfl (aEL hE hA (by decide) hr hbd hts) rfl<|?_
  refine eqF 38 (.d (vI 0)) rfl (by rw[hN];rfl) ?_
  refine gx (fu:=⟨0⟩) rfl<|knF J J J<|?_
  refine lp (X:=Nat) (fun k=>[(42, .d (vI 0))]) (fun k=>[]) (fun k=>True) (fun k=>k) 0 rfl trivial (fun _=>rfl) (fun k hk=>?_)
  refine br J J J (fun hc43=>?_) (fun hc43=>?_)
  ·
   exact absurd hc43 (by decide)
  ·
   refine cl rfl (ajC hE.toEGU) rfl<|?_
   exact rz J J
 ·
  refine cl rfl (aDg hE hA (by decide) hr hbd hts (n:=(N:Nat)) ⟨by omega,by omega⟩ h0) rfl<|cl (fu:=⟨0⟩) rfl (ajC hE.toEGU) rfl<|?_
  refine kbT 27 rfl ?_
  refine gx rfl<|gl rfl hE.ErrEmpty rfl<|cl (fu:=⟨0⟩) rfl aGP rfl<|?_
  refine kbT 31 rfl ?_
  refine gx rfl<|?_
  exact rz J J
 ·
  refine cl (fu:=⟨22⟩) rfl (aEW hE hA (by decide) hr hbd hts htb.2 (by omega) (N:=N) ⟨by omega,by omega⟩ h0) rfl<|?_
  refine eqF 34 (.d (vI (N:Nat))) rfl (by rw[hsl]<;>rfl) ?_
  refine gx (fu:=⟨4⟩) rfl<|?_
  refine eqF 38 (.d (vI (N:Nat))) rfl (by rw[hN]<;>rfl) ?_
  refine gx (fu:=⟨0⟩) rfl<|knF (fu:=⟨10⟩) rfl (by show some (decide _)=some false;rw[decide_eq_false (by omega)]) rfl<|?_
  refine eqF 41 (.d (vI (N:Nat))) rfl (by rw[hsl]<;>rfl) ?_
  refine gx rfl<|?_
  refine lp (X:=Nat) (fun k=>[(42, .d (vI (k:Nat)))]) (fun k=>[]) (fun k=>k≤N) (fun k=>N-k) 0 rfl (bX _) (fun _=>rfl) (fun k hk=>?_)
  refine br J J J (fun hc43=>?_) (fun hc43=>?_)
  ·
   have hkN:k<N:=by omega
   have hki:=cY k h0
   obtain⟨a,b,c,hx,ha,hb',hc⟩:=aqJ htb.2 hki
   have hdk:k/ts.length≤k:=iT _ _
   haveI:BPt (smp ts k) 90000:=by rw[auh hx];exact ay5 ha hb' hc (k%3) (by omega)
   refine ix _ rfl (aaq (asj (smp ts) hkN)) rfl<|cl (fu:=⟨0⟩) rfl (yI (p:=smp ts k) (i:=90000) hA) rfl<|?_
   refine eqF 49 (.d (.tp [vI 2, .v .nilIface])) rfl (by rw[arE hA.ok hbd hts h0 k]) ?_
   refine gx (fu:=⟨13⟩) rfl<|knF J J J<|?_
   exact at_ (k+1) ⟨(by omega),(by omega)⟩
  ·
   refine cl rfl (ajC hE.toEGU) rfl<|?_
   exact rz J J
end Go.Sx
end
section
namespace Go.Sx
open Go Go.Proofs Go.ChangeShapes Go.WideShapes Go.ChangeAt Go.RowKit
def GW(w:World):Gh:=fun b=>match w.heap[b]? with|some (.cells cs _ _)=>some cs.toList|_=>none
theorem GW.sub{w:World}{b:Nat}{cs:List Value}(h:GW w b=some cs): ∃ty fz,w.heap[b]? =some (.cells ⟨cs⟩ ty fz):=by
 unfold GW at h
 split at h
 ·rename_i c t f e
  cases h
  exact⟨t,f,by rw[e]⟩
 ·cases h
theorem GW.of_cell{w:World}{b off:Nat}{v:Value}(h:w.cell? ⟨b,off,none⟩=some v): ∃cs,GW w b=some cs∧cs[off]? =some v:=by
 unfold World.cell? at h
 unfold GW
 split at h
 ·rename_i c t f e
  simp only at e
  refine⟨c.toList,by rw[e],?_⟩
  simpa using h
 all_goals first|(rename_i e;cases h)|cases h
theorem ab5.below{w w':World}{G G':Gh}{own:List Own}(h:ab5 ⟨w,G,[],[],[],none,fun _=>none⟩ own G' w'):Below w.heap.size w w':=
 ⟨h.os,h.tape,h.output,h.size,fun k hk=>h.keep k hk (by simp)⟩
theorem isLs_vI{G:Gh}: ∀es:List Int,IsLs G (es.map vI) (es.map fun n=>Value.int .i64 n)
 |[]=> .nil
 |n::t=> .cons (aa4.2 rfl) (isLs_vI t)
theorem open_vI{base:Nat}{H:Type}{enc:TypeId×Value→H}{P:Program}{w:World}{t e:TypeId}{v:Value}{d:DataW H}{ps:List MemPlace}(ht:P.underlying t=some (.slice e))(he:P.underlying e=some (.int .i64))(hc:P.cellsOf e=1)
  (hv:Value.okWide P w .any base t v)(h:DataW.Trod enc P w 0 (fun _=>true) true t v d ps):
  ∃es:List Int,Is (GW w) (.sl (es.map vI)) v∧(d= .nil∧es=[]∨ ∃sp,d= .slice (lits .i64 es) sp)∧(∀n∈es,(Lit.int .i64 n).wf=true):=by
 obtain⟨a0,len,cap,rfl⟩:=okWide_slice ht hv
 obtain⟨fuel,hf⟩:=h
 rcases open_ints ht he hc hf with⟨hcs,hx⟩|⟨a,len',cap',zs,hcs,_,hl,hm,hz,hx,hcell,hwz⟩
 ·simp[Value.cells] at hcs
  obtain⟨rfl,rfl,rfl⟩:=hcs
  simp only[Prod.mk.injEq] at hx
  exact⟨[],adx.2 ⟨0,⟨none,0,0⟩,[],rfl,afs.nil _ 0, .nil⟩, .inl ⟨hx.1,rfl⟩,by simp⟩
 ·simp[Value.cells] at hcs
  obtain⟨rfl,rfl,rfl⟩:=hcs
  simp only[Prod.mk.injEq] at hx
  simp only[if_true] at hz
  refine⟨zs.take len,adx.2 ⟨1,⟨some a,len,cap⟩,(zs.take len).map fun n=>Value.int .i64 n,rfl,⟨by simp;omega,hl,?_⟩,isLs_vI _⟩, .inr ⟨_,hx.1⟩,fun n hn=>hwz n (dZ hn)⟩
  by_cases h0:len=0
  ·exact .inl (by simp[h0])
  ·right
   obtain⟨b,off,spot⟩:=a
   have hspot:spot=none:=by simpa[Addr.add] using World.cell?_spot (hcell 0 (by omega))
   subst hspot
   have c0: ∀i,i<zs.length→w.cell? ⟨b,off+i,none⟩=some (.int .i64 (zs.getD i 0)):=fun i hi=>by
    have:=hcell i hi
    rwa [Go.WideShapes.add_plain] at this
   obtain⟨cs,hcs,_⟩:=GW.of_cell (by have h9:=c0 0 (by omega);rw[dY] at h9;exact h9)
   refine⟨b,off,cs,rfl,hcs,fun i hi=>?_⟩
   simp only[aK,cJ] at hi
   obtain⟨cs',hcs',hi'⟩:=GW.of_cell (c0 i (by omega))
   rw[hcs] at hcs'
   cases hcs'
   rw[gN,avH.2 hi']
   simp[aag,List.getD,aQ (show i<zs.length by omega)]
inductive CSh where
 |b
 |i (k:IntKind)
 |sl (ag:Bool) (l:List CSh)
mutual
def Fit:CSh→DV→Prop
 | .b,d=> ∃b,d= .v (.bool b)
 | .i k,d=> ∃n,d= .v (.int k n)∧(Lit.int k n).wf=true
 | .sl ag l,d=> ∃m:List DV,d= .sl m∧m.length≤maxLen∧ ∀x∈m,∃ys,FitL l ys∧((ag=true∧x= .ag ys)∨(ag=false∧ys=[x]))
def FitL:List CSh→List DV→Prop
 |[],ds=>ds=[]
 |s::l,ds=> ∃d t,ds=d::t∧Fit s d∧FitL l t
end
def flatF(r:TypeId→Option (Bool×List CSh))(P:Program):List Field→Nat→Option (List CSh)
 |[],_=>some []
 |f::fs,o=>match r f.type with
  |some (_,l)=>if f.offset=o∧P.cellsOf f.type=l.length then(flatF r P fs (o+l.length)).map (l++ ·) else none
  |none=>none
def flatT(P:Program):Nat→TypeId→Option (Bool×List CSh)
 |0,_=>none
 |n+1,t=>match P.underlying t with
  |some .bool=>some (false,[.b])
  |some (.int k)=>some (false,[.i k])
  |some (.slice e)=>match flatT P n e with
   |some (a,l)=>if P.cellsOf e=l.length∧0<l.length then some (false,[.sl a l]) else none
   |none=>none
  |some (.struct fs)=>match flatF (flatT P n) P fs.toList 0 with
   |some l=>if P.cellsOf t=l.length then some (true,l) else none
   |none=>none
  |_=>none
section
variable {H:Type} {enc:TypeId×Value→H} {P:Program} {w:World}
end
def shI:List CSh:=[.b, .sl false [.i .u32]]
def shL:List CSh:=shI++(shI++shI)
theorem es_star: "*" ++ "errors.errorString" = "*errors.errorString" :=by decide
theorem es_row(u:TypeId)(h:Tryz.prog.typeName? 3 u=some "*errors.errorString"):u=405:=
 typeName_ptr_named (nm:= "errors.errorString") (by rw[es_star];kernel_rfl) (by kernel_rfl) (by decide) u (by rw[es_star];exact h)
theorem sent_of{W:World}{n:String}{g:Nat}{text:List UInt8}{r:List (String×DataW Unit)}(h:laidMet Tryz.prog ((n, .iface "*errors.errorString" (.ptr (.agg [.lit (.string text)])))::r) W)(hg:Tryz.prog.globalNamed n=some g)(ht:(Tryz.prog.globals[g]?).map (·.type)=some 38):
  ∃a,GW W g=some [.iface 405 (.pointer (some a))]:=by
 obtain⟨a,s,hv,_⟩:=laid_sentinel h hg ht Tryz.underlying38 es_row Tryz.underlying405 Tryz.underlying430 rfl rfl Tryz.underlying9 (by kernel_rfl) (by kernel_rfl)
 refine⟨a,?_⟩
 unfold World.var? at hv
 rw[hg,Option.bind_some] at hv
 unfold GW
 split at hv
 ·rename_i c t f e
  rw[e];cases hv;rfl
 ·cases hv
theorem laid_plain{W:World}{l:List (String×DataW Unit)}(h:laidMetH Tryz.prog l W)(hp:(l.all fun x=>x.2.handleName?.isNone)=true):laidMet Tryz.prog l W:=by rwa [Go.MakeChecks.laidMetH_plain _ _ _ hp] at h
end Go.Sx
end
section
namespace Go.Proofs.YtidmgdlbilojcaaGreatDoor.tilingInside
open Go.ChangeShapes Go.WideShapes Go.ChangeAt Go.RowKit Go.Sx
theorem own:ownKnob Tryz.prog.godebug=none:=by kernel_rfl
theorem laidOut:laidOutB Tryz.prog=true:=by kernel_rfl
theorem cellsI:Tryz.prog.cellsOf 3=1:=by kernel_rfl
theorem bytesI:Tryz.prog.bytesOf 3=8:=by kernel_rfl
theorem door_met(os:Os)(args:Array Value):laidMetH Tryz.prog Rows.tilingInsideRow.laid ((World.doorLaid Tryz.prog 104 os).forCall (fun _ _=>0) ⟨#[],args,[]⟩).memory:=
 laidMetH_of_parts3 (fuel:=8) (laidMet_of_run' 8 (by kernel_rfl) (by kernel_rfl)) (by kernel_rfl) (by kernel_rfl)
theorem wf_i64{n:Int}(h:(Lit.int .i64 n).wf=true): -9223372036854775808≤n∧n<9223372036854775808:=by
 simp only[Lit.wf,Bool.and_eq_true,decide_eq_true_eq] at h
 have e1:IntKind.i64.min= -9223372036854775808:=rfl
 have e2:IntKind.i64.max=9223372036854775807:=rfl
 omega
theorem eg_of{W:World}(h:laidMetH Tryz.prog Rows.tilingInsideRow.laid W): ∃ai al ae au ar,EGS (GW W) ai al ae au ar:=by
 have h1:=laid_plain h rfl
 obtain⟨ai,hi⟩:=sent_of (g:=2) h1 (by kernel_rfl) (by kernel_rfl)
 obtain⟨au,hu⟩:=sent_of (g:=1) h1.tail (by kernel_rfl) (by kernel_rfl)
 obtain⟨ae,he⟩:=sent_of (g:=0) h1.tail.tail (by kernel_rfl) (by kernel_rfl)
 obtain⟨al,hl⟩:=sent_of (g:=4) h1.tail.tail.tail (by kernel_rfl) (by kernel_rfl)
 obtain⟨ar,hr⟩:=sent_of (g:=3) h1.tail.tail.tail.tail (by kernel_rfl) (by kernel_rfl)
 exact⟨ai,al,ae,au,ar,⟨⟨hi,hl⟩,hu⟩,he,hr⟩
theorem contract(H:Type)(enc:TypeId×Value→H)(W:World)(base:Nat)(args:Array Value)(ds gs:List (DataW H))(before:List MemPlace)
  (hval: ∀(j:Nat) t v,Tryz.f5.params[j]? =some t→args[j]? =some v→Value.okWide Tryz.prog W .any base t v)
  (hW:DataW.Whole enc Tryz.prog Tryz.f5.params.toList Rows.tilingInsideSpec.vars false W args.toList ds gs before)
  (hz:(DataW.weightsEach Tryz.prog (Tryz.f5.params.toList++(OpenSpec.ofChange Rows.tilingInsideSpec).bare.plain.varTypes Tryz.prog) (ds++gs)).all (· ≤reachBytes)=true)(hlaid:laidMetH Tryz.prog Rows.tilingInsideRow.laid W):
  Calls Tryz.prog 5 args W fun e W'=> ∃v,e= .returned v∧Rows.tilingInsideSpec.post enc Tryz.prog Tryz.f5 false true false false W args v W':=by
 have hW':=hW
 obtain⟨p,q,hA0,hV,rfl,_,_⟩:=hW
 have hA:DataW.TrodAll enc Tryz.prog W 0 (fun _=>true) true Tryz.f5.params.toList args.toList ds p:=hA0
 rw[Tryz.params5] at hA hval hz
 obtain⟨v0,v1,d0,d1,p0,p1,hargs,rfl,rfl,h0,h1⟩:=trodAll_two hA
 subst hargs
 obtain⟨rfl,rfl⟩:=trodVars_none hV
 obtain⟨n1,rfl,rfl,rfl,w1⟩:=open_int Tryz.underlying3 (hval 1 3 v1 rfl rfl) h1
 clear hA0
 simp only[List.append_nil] at hW'
 have hlt: ∀x∈p0,x.block<W.heap.size:=fun x hx=>by simpa using hW'.lt x hx
 obtain⟨es,hI,hd,_⟩:=open_vI Tryz.underlying22 Tryz.underlying3 cellsI (hval 0 22 v0 rfl rfl) h0
 have hb:es.length≤1125899906842624:=by
  rcases hd with⟨rfl,rfl⟩|⟨sp,rfl⟩
  ·exact Nat.zero_le _
  ·have:=sized_slice hz (j:=0) (t:=22) (e:=3) J J Tryz.underlying22
   rw[bytesI] at this
   have hr:=reachBytes_lt
   have hl:(lits (H:=H) .i64 es).length=es.length:=by simp[lits]
   rw[hl] at this
   omega
 obtain⟨ai,al,ae,au,ar,hE⟩:=eg_of hlaid
 have hf:=(zG hE (es0:=es) (n:=n1) hb (wf_i64 w1)) (GW W) [v0, .int .i64 n1] (GLe.refl _) (.cons hI (.cons (aa4.2 rfl) .nil))
 refine(hf.run W (fun b cs hg=>GW.sub hg)).mono fun e W' ⟨v,G',he,hr,hv⟩=>?_
 rw[aa4] at hv
 subst hv
 subst he
 have hn:=hr.below
 have t2:=trodAll_mk2 (Below.trod laidOut (by kernel_rfl) (of_decide_eq_true (by kernel_rfl)) h0 hn hlt) (shut_int Tryz.underlying3 w1)
 simp only[List.append_nil] at t2
 exact⟨_,rfl,⟨_,_,_,[],_,[],hW',trodAll_mk1 (shut_bool Tryz.underlying4 _),t2,rfl,hn.frame _,fun h=>by cases h⟩⟩
theorem reads(os:Os){H:Type}(enc:TypeId×Value→H): ∃places,DataW.whole enc Tryz.prog ((World.doorLaid Tryz.prog 104 os).forCall (fun _ _=>0) ⟨#[], #[.slice none 0 0, .int .i64 0],[]⟩).memory Tryz.f5.params.toList Rows.tilingInsideSpec.vars false #[Value.slice none 0 0, .int .i64 0].toList 8=some ([.nil, .lit (.int .i64 0)],[],places):=
 ⟨[],by kernel_rfl⟩
theorem lifted(os:Os)(started:os.Started)(H:Type)(enc:TypeId×Value→H)(F:Stop.Interp):
  ReturnsInHanded {} Tryz.checked os 5 .any ((OpenSpec.ofChange Rows.tilingInsideSpec).preRow enc Tryz.prog Tryz.f5 Rows.tilingInsideRow.domain false Rows.tilingInsideRow.laid) (((OpenSpec.ofChange Rows.tilingInsideSpec).at F).post enc Tryz.prog Tryz.f5 false true false false):=by
 obtain⟨places,hx⟩:=reads os enc
 refine returnsInHanded_of_row (C:=Tryz.checked) (s:=OpenSpec.ofChange Rows.tilingInsideSpec) own started (by kernel_rfl) Tryz.func5
  (witness_row_atRef (enc:=enc) (C:=Tryz.checked) false (World.doorLaid Tryz.prog 104 os) #[.slice none 0 0, .int .i64 0] rfl (by kernel_rfl) (by kernel_rfl) (by kernel_rfl)
   (OpenSpec.preRow_of_cond 8 hx (by kernel_rfl) (fun k hk=>by cases hk) (by kernel_rfl) (door_met os _))) ?_
 intro W base args ds gs before hval hW _ _ hz hlaid _ _
 exact contract H enc W base args ds gs before hval hW hz hlaid
theorem j1:(Rows.tilingInsideRow.inPlace==Tryz.pinned.checked.prog.inPlace 5)=true:=by kernel_rfl
theorem j2:(Rows.tilingInsideRow.unfollowed==Tryz.pinned.checked.prog.unfollowed 5)=true:=by kernel_rfl
theorem j3:(Rows.tilingInsideRow.recurses==Tryz.pinned.checked.prog.recurses 5)=true:=by kernel_rfl
theorem j4:(Rows.tilingInsideRow.named==Tryz.pinned.checked.prog.varsNamed 5)=true:=by kernel_rfl
theorem j5:laidOutB Tryz.pinned.checked.prog=true:=laidOut
theorem j6:mapsRowed Tryz.pinned.checked.prog=true:=by kernel_rfl
theorem j7:Tryz.pinned.checked.prog.mainIs=some (Rows.tilingInsideCard.stood.harness.1,Rows.tilingInsideCard.stood.harness.2.toList):=by kernel_rfl
theorem j8:false=Rows.tilingInsideRow.goesBy Tryz.pinned.checked.prog:=by kernel_rfl
theorem closed:joinedFacts Tryz.pinned.checked.prog 5 Tryz.f5 (OpenSpec.ofChange Rows.tilingInsideSpec).bare Rows.tilingInsideRow=true:=by
 unfold joinedFacts
 rw[j1,j2,j3,j4,j5,j6]
 kernel_rfl
theorem said:Rows.TilingInsideSaid:=
 OpenClaim.holds_of_cond 5 Tryz.f5 J J J J J J J ⟨rfl,rfl,rfl,rfl,rfl⟩ J J J J J (by kernel_rfl) Tryz.func5 closed
  (of_decide_eq_true (by kernel_rfl)) (by unfold Func.isWrapper;first|(rw[if_pos (by decide+kernel)];kernel_rfl)|(rw[if_neg (by decide+kernel)];exact⟨rfl,rfl⟩))
  (fun os started H enc _ F=>by rw[OpenClaim.pre_eq_preRow];exact lifted os started H enc F)
theorem plain(f:FuncId)(fn:Func)(hf:Tryz.pinned.checked.prog.funcNamed "bspregion/bspregionlaw30.TilingInside" =some f)(hfn:Tryz.pinned.checked.prog.funcs[f]? =some fn):
  true=Tryz.pinned.checked.prog.looks []∧ ∀(j:Nat) t,fn.params[j]? =some t→Tryz.pinned.checked.prog.wantsStandIn t=false:=by
 obtain rfl:f=5:=Option.some.inj ((show Tryz.prog.funcNamed "bspregion/bspregionlaw30.TilingInside" =some 5 by kernel_rfl).symm.trans hf) |>.symm
 obtain rfl:fn=Tryz.f5:=(Option.some.inj (Tryz.func5.symm.trans hfn)).symm
 refine⟨by kernel_rfl,fun j t ht=>?_⟩
 rw[Tryz.params5] at ht
 have hm:=Array.mem_of_getElem? ht
 simp only[List.mem_toArray,List.mem_cons,List.not_mem_nil,or_false] at hm
 rcases hm with rfl|rfl
 ·exact(show Tryz.prog.wantsStandIn 22=false by kernel_rfl)
 ·exact(show Tryz.prog.wantsStandIn 3=false by kernel_rfl)
theorem card:Rows.TilingInsideCardSaid:=
 Claim7.holds_tied_plain_at .later [] _ _ _ _ said (fun _ h=>by cases h) (by kernel_rfl) (fun _ h=>by cases h) tilingInside_row_tie rfl ⟨rfl,rfl⟩ j7 rfl plain j8
#print axioms card
end Go.Proofs.YtidmgdlbilojcaaGreatDoor.tilingInside
end
