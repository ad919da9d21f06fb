/- Part 20 of a proof. -/
import Derived.Test.YtopfgminkdfpkaaGreatDoorMp19
import Derived.Shelf.SlSortCmp.NoneTotal
import Derived.Test.YtopfgminkdfpkaaGreatDoorProg
import Derived.Test.YtopfgminkdfpkaaGreatDoorCards
import Derived.Test.YtopfgminkdfpkaaGreatDoorTie
import Derived.WalkKit
import Derived.ProofKit
import Derived.OpenShut
import Derived.Deep.DeepHandedRow
import Derived.Deep.DeepWitnessRowRef
import Derived.LaidMore
import Derived.Lib.LaidTab
import Derived.SizedLaws
import Derived.Stop.LaidErr
import Derived.MakeChecks
set_option linter.unusedSimpArgs false
set_option maxHeartbeats 4000000
set_option maxRecDepth 100000
set_option linter.unusedVariables false
section
namespace Go.Sx
open Go Go.Proofs
theorem flat_one{v:Value}(h:Go.Sx.flat v=true):v.oneCell'=true:=by cases v<;>first|rfl|cases h
theorem flatten_get{α:Type}{k:Nat}: ∀(l:List (List α)) (t:Nat),(∀x∈l,x.length=k)→t<l.length*k→l.flatten[t]? =(l[t/k]?).bind (·[t%k]?)
 |[],t,_,h=>by simp at h
 |x::l,t,h,ht=>by
  have hx:=h x aQ
  have hk:0<k:=by
   rcases eY k with e|e
   ·subst e;simp at ht
   ·exact e
  rw[kK]
  by_cases q:t<k
  ·rw[fJ (by omega),iM q,fZ q];rfl
  ·rw[fM (by omega),hx,flatten_get l (t-k) (fun y hy=>h y (aX _ hy)) (by rw[bV,cY] at ht;omega)]
   have e1:t/k=(t-k)/k+1:=by rw[Nat.div_eq_sub_div hk (by omega)]
   have e2:t%k=(t-k)%k:=by rw[Nat.mod_eq_sub_mod (by omega)]
   rw[e1,e2];rfl
section
variable {α:Type} [Inhabited α]
theorem flatK_eq(enc:α→List Value)(k:Nat)(hk: ∀x,(enc x).length=k)(d:Array α):(Go.Sort.flatK enc k d).toList=(d.toList.map enc).flatten:=by
 apply jY
 intro t
 have hlen:(d.toList.map enc).flatten.length=d.size*k:=by
  have: ∀l:List α,(l.map enc).flatten.length=l.length*k:=fun l=>by
   induction l with
   |nil=>simp
   |cons x l ih=>rw[bM,kK,aV,ih,hk,bV,cY];omega
  simpa using this d.toList
 by_cases ht:t<d.size*k
 ·have hk0:0<k:=by
   rcases eY k with e|e
   ·subst e;simp at ht
   ·exact e
  have hi:t/k<d.size:=rV (by rwa [bN])
  rw[flatten_get (k:=k) _ _ (fun x hx=>by obtain⟨y,_,rfl⟩:=bU.1 hx;exact hk y) (by simpa using ht)]
  simp only[Go.Sort.flatK,rQ,Array.toList_range,dQ]
  rw[rL ht]
  have hj:t%k<(enc d[t/k]).length:=by rw[hk];exact dZ _ hk0
  simp only[jX]
  rw[getElem!_pos d (t/k) hi,getElem!_pos (enc d[t/k]) (t%k) hj]
  simp[hi,hj]
 ·rw[cR (by simp[Go.Sort.flatK];omega),cR (by rw[hlen];omega)]
theorem sw_heap(enc:α→List Value)(k:Nat)(w:World)(b m:Nat)(dk:Array α)(os:Array Obj){q:Nat}(hq:q<w.heap.size):
  (sortWorldK enc k w b 0 m dk os).heap[q]? =if q=b then(w.heap[q]?).map (Go.Sort.onCells (Go.Sort.putCells id 0 (Go.Sort.flatK enc k dk))) else w.heap[q]? :=by
 show((w.heap.modify b _)++os)[q]? =_
 rw[lM (by simpa using hq),Array.getElem?_modify]
 by_cases e:b=q
 ·subst e;simp
 ·simp[e,Ne.symm e]
theorem put_cells{F:Array Value}{xs rest:List Value}(h:xs.length=F.size):Go.Sort.putCells id 0 F ⟨xs++rest⟩=⟨F.toList++rest⟩:=by
 apply Array.ext'
 apply jY
 intro k
 simp only[Go.Sort.putCells,Array.toList_mapIdx,List.getElem?_mapIdx]
 by_cases hk:k<F.size
 ·rw[fJ (by omega),fJ (by simpa using hk),aZ (by omega)]
  simp[hk]
 ·rw[fM (by omega),fM (by simp;omega),h]
  simp only[pJ]
  cases rest[k-F.size]? with
  |none=>rfl
  |some v=>simp[hk]
end
def srtL{A:Type}(cf:A→A→Int)(ds:List A):List A:=ds.mergeSort fun x y=>!decide (cf y x<0)
theorem srtL_perm{A:Type}(cf:A→A→Int)(ds:List A):(srtL cf ds).Perm ds:=List.mergeSort_perm ..
theorem srtL_asc{A:Type}{cf:A→A→Int}(hO:Go.Sort.SWO (Go.Proofs.ltOf cf))(ds:List A):(srtL cf ds).Pairwise fun x y=> ¬cf y x<0:=by
 have:=List.pairwise_mergeSort (le:=fun x y=>!decide (cf y x<0)) (fun a b c h1 h2=>by
  have h1':Go.Proofs.ltOf cf b a=false:=by simpa[Go.Proofs.ltOf] using h1
  have h2':Go.Proofs.ltOf cf c b=false:=by simpa[Go.Proofs.ltOf] using h2
  have:=hO.ntrans c b a h2' h1'
  simpa[Go.Proofs.ltOf] using this) (fun a b=>by
  cases h1:Go.Proofs.ltOf cf b a with
  |false=>have: ¬cf b a<0:=(by simpa[Go.Proofs.ltOf] using h1);simp;omega
  |true=>
   cases h2:Go.Proofs.ltOf cf a b with
   |false=>have: ¬cf a b<0:=(by simpa[Go.Proofs.ltOf] using h2);simp;omega
   |true=>have:=hO.trans _ _ _ h1 h2;rw[hO.irrefl] at this;cases this) ds
 exact this.imp fun h=>by simpa using h
theorem srt_W{P:Program}{ρ:Go.Shelf.Ren}{GB:Gh}(L:SlLaysF0.n6 P ρ)(ha:adA P (ρ.f 6)){s:Nat}(hAg: ∀w,(isAgg (ρ.t 24)).run P w= .ok true w)(hZs: ∀w,(sizeOf (ρ.t 24)).run P w= .ok s w)
  {A:Type}(e:A→DV)(V:A→Prop)(hA: ∀x,∃l,e x= .ag l∧(DV.ag l).okc=true∧l.length=s)(cf:A→A→Int)(hO:Go.Sort.SWO (Go.Proofs.ltOf cf)){g:FuncId}(hg:adA P g)
  (hc: ∀x y,V x→V y→PF GB P g [e x,e y] (.v (.int .i64 (cf x y)))){ty:TypeId}{ds:List A}(hV: ∀x∈ds,V x)(hn:ds.length<4611686018427387904)(hu: ∀x∈ds,∀y∈ds,¬cf x y<0→ ¬cf y x<0→x=y):
  PW GB P (ρ.f 6) [none,some (.v (.func (.func g) #[] #[]))] s ty (ds.map e) (.tp []) ((srtL cf ds).map e):=by
 intro G z vs B hgb hB hvs
 refine⟨ha,fun w hw=>?_⟩
 obtain⟨v1,m1,rfl,q1,hvs⟩:=aac.1 hvs
 obtain⟨v2,m2,rfl,q2,hvs⟩:=aac.1 hvs
 cases aaJ.1 hvs
 rw[aaZ] at q1 q2
 subst q1 q2
 obtain⟨es,k1,k2,k3,_⟩:=hB
 simp only at k1 k2 k3
 have hlen:es.length=ds.length:=by rw[k2.len,aJ]
 by_cases h0:ds=[]
 ·subst h0
  have hes:es=[]:=bS (by simpa using hlen)
  have hz:z.n=0:=by rw[k1.len,hes];rfl
  rw[hz]
  refine(AnyF.slices_SortFunc_none L z.a z.c _ w).mono fun r w' ⟨h1,h2⟩=>?_
  subst h2
  exact⟨_,asB B,G,h1,hw,adM.2 ⟨[],rfl, .nil⟩,es,k1.asB,by subst hes;show IsLs G ((srtL cf []).map e) [];unfold srtL;rw[List.mergeSort_nil];exact .nil,k3,fun h=>by cases h⟩
 ·have hpos:0<es.length:=by rw[hlen];exact lK.2 h0
  rcases k1 with⟨e1,_,_⟩|⟨b,rest,lo,e1,e2,e3,e4,e5⟩
  ·rw[e1] at hpos;simp at hpos
  subst e2
  -- elements with their cells
  have lift: ∀{ds:List A} {es:List Value},IsLs G (ds.map e) es→(∀x∈ds,V x)→ ∃qs:List {q:A×List Value//V q.1∧Is G (e q.1) (.agg ⟨q.2⟩)},qs.map (·.1.1)=ds∧qs.map (fun q=>Value.agg ⟨q.1.2⟩)=es:=by
   intro ds
   induction ds with
   |nil=>intro es h _;cases aaJ.1 h;exact⟨[],rfl,rfl⟩
   |cons x ds ih=>
    intro es h hV
    obtain⟨y,n,rfl,g1,g2⟩:=aac.1 h
    obtain⟨qs,g3,g4⟩:=ih g2 fun x hx=>hV x (aX _ hx)
    obtain⟨l,hl,_⟩:=hA x
    have g1':=g1
    rw[hl] at g1'
    obtain⟨m,rfl,_⟩:=abU.1 g1'
    exact⟨⟨(x,m),hV x aQ,g1⟩::qs,by simp[g3],by simp[g4]⟩
  obtain⟨qs,hq1,hq2⟩:=lift k2 hV
  have:Inhabited {q:A×List Value//V q.1∧Is G (e q.1) (.agg ⟨q.2⟩)}:=⟨qs.head (fun e=>by rw[e] at hq1;exact h0 hq1.symm)⟩
  let enc:{q:A×List Value//V q.1∧Is G (e q.1) (.agg ⟨q.2⟩)}→List Value:=fun q=>q.1.2
  have henc: ∀q,(enc q).length=s∧ ∀v∈enc q,Go.Sx.flat v=true:=fun q=>by
   obtain⟨l,hl,h1,h2⟩:=hA q.1.1
   have h3:=q.2.2
   rw[hl] at h3
   obtain⟨m,hm,h4⟩:=abU.1 h3
   cases hm
   exact⟨by show q.1.2.length=s;rw[h4.len,h2],fun v hv=>h4.flat h1 v hv⟩
  have hk: ∀q,(enc q).length=s:=fun q=>(henc q).1
  have hqs:qs.toArray.size=es.length:=by rw[mY,←hq2,aJ]
  have hfl: ∀d:Array {q:A×List Value//V q.1∧Is G (e q.1) (.agg ⟨q.2⟩)},(Go.Sort.flatK enc s d).toList=aah (d.toList.map fun q=>Value.agg ⟨q.1.2⟩):=fun d=>by
   rw[flatK_eq enc s hk]
   unfold aah
   rw[List.map_map];rfl
  have hfe:(Go.Sort.flatK enc s qs.toArray).toList=aah es:=by rw[hfl,←hq2]
  have hown:=hw.hown ⟨b,aah es++rest,ty,false⟩ aQ
  obtain⟨hb,hGb,_,_⟩:=hown
  simp only at hb hGb
  have hblt:=acU hb
  have hH:Go.Sort.HoldsK enc s w b 0 qs.toArray:=by
   intro j hj
   refine⟨?_,by simp[World.frozen?,hb]⟩
   rw[acO hb,dT]
   have hj':j<(aah es).length:=by rw[←hfe];simpa using hj
   rw[fJ hj',←hfe]
   show _=some ((Go.Sort.flatK enc s qs.toArray)[j]!)
   rw[getElem!_pos _ j hj]
   simp
  have hsz: ∀dk:Array {q:A×List Value//V q.1∧Is G (e q.1) (.agg ⟨q.2⟩)},dk.size=qs.toArray.size→(aah es).length=(Go.Sort.flatK enc s dk).size:=fun dk hd=>by rw[←hfe];simp[hd]
  have hblk: ∀(m:Nat) (os:Array Obj) (dk:Array _),dk.size=qs.toArray.size→(sortWorldK enc s w b 0 m dk os).heap[b]? =some (.cells ⟨(Go.Sort.flatK enc s dk).toList++rest⟩ ty (0,0)):=fun m os dk hd=>by
   rw[sw_heap enc s w b m dk os hblt,if_pos rfl,hb]
   show some (Obj.cells (Go.Sort.putCells id 0 (Go.Sort.flatK enc s dk) ⟨aah es++rest⟩) ty (0,0))=_
   rw[put_cells (hsz dk hd)]
  have hoth: ∀(m:Nat) (os:Array Obj) (dk:Array _) (q:Nat),q<w.heap.size→q≠b→(sortWorldK enc s w b 0 m dk os).heap[q]? =w.heap[q]? :=fun m os dk q hq hne=>by rw[sw_heap enc s w b m dk os hq,if_neg hne]
  have hsub: ∀(m:Nat) (os:Array Obj) (dk:Array _) (c:Nat) (cs:List Value),G c=some cs→ ∃ty fz,(sortWorldK enc s w b 0 m dk os).heap[c]? =some (.cells ⟨cs⟩ ty fz):=fun m os dk c cs hcs=>by
   obtain⟨ty',fz,h⟩:=hw.sub c cs hcs
   exact⟨ty',fz,by rw[hoth m os dk c (acU h) (fun e=>by subst e;rw[hGb] at hcs;cases hcs)];exact h⟩
  have hsize: ∀(m:Nat) (os:Array Obj) (dk:Array _),w.heap.size≤(sortWorldK enc s w b 0 m dk os).heap.size:=fun m os dk=>by
   show _≤((w.heap.modify b _)++os).size
   simp
  have hcmp:Go.Proofs.CmpLays P g #[] enc s (fun q r=>cf q.1.1 r.1.1) b 0 qs.toArray.size w:=by
   intro m os dk _ x y
   have hF:=hc x.1.1 y.1.1 x.2.1 y.2.1 G [.agg ⟨x.1.2⟩, .agg ⟨y.1.2⟩] hgb (.cons x.2.2 (.cons y.2.2 .nil))
   refine(hF.run _ (hsub m os dk)).mono fun r W ⟨v,G',h1,h2,h3⟩=>?_
   rw[aaZ] at h3
   subst h3
   refine⟨h1,W.drawn-(sortWorldK enc s w b 0 m dk os).drawn,W.heap.extract (sortWorldK enc s w b 0 m dk os).heap.size W.heap.size,?_⟩
   have hdr:=h2.dr
   have hos:=h2.os
   have htp:=h2.tape
   have hou:=h2.output
   have hkp:=h2.keep
   have hss:=h2.size
   simp only at hdr hos htp hou hkp hss
   generalize sortWorldK enc s w b 0 m dk os=W0 at*
   cases W with
   |mk heap tape drawn os' output=>
    simp only at*
    unfold Go.Sort.grow World.drewN
    simp only[World.mk.injEq]
    refine⟨?_,htp,by omega,hos,hou⟩
    apply Array.ext_getElem?
    intro k
    rw[Array.getElem?_append]
    split
    ·rename_i hk';exact hkp k hk' (by simp)
    ·rename_i hk'
     rw[Array.getElem?_extract]
     split
     ·congr 1;omega
     ·rw[qK (by omega)]
  have hO':Go.Sort.SWO (Go.Proofs.ltOf fun(q r:{q:A×List Value//V q.1∧Is G (e q.1) (.agg ⟨q.2⟩)})=>cf q.1.1 r.1.1):=⟨fun x=>hO.irrefl x.1.1,fun x y z=>hO.trans x.1.1 y.1.1 z.1.1,fun x y z=>hO.ntrans x.1.1 y.1.1 z.1.1⟩
  have hrun:=AnyQ.slices_SortFunc L s hAg hZs enc hk (fun q v hv=>flat_one ((henc q).2 v hv)) (fun q r=>cf q.1.1 r.1.1) hO' g #[] b 0 z.c qs.toArray w (fun args w=>ah2 hg args w) hcmp hH hblt (by rw[hqs,hlen];exact hn)
  have ez:z=⟨some ⟨b,0,none⟩,qs.toArray.size,z.c⟩:=by rw[hqs];exact e1
  have ea:(⟨[Value.slice z.a z.n z.c, .func (.func g) #[] #[]]⟩:Array Value)= #[.slice (some ⟨b,0,none⟩) qs.toArray.size z.c, .func (.func g) #[] #[]]:=by rw[ez]
  rw[ea]
  refine hrun.mono fun r w' ⟨h1,d',n,os,hp,hs,h2⟩=>?_
  subst h2
  have hdz:d'.size=qs.toArray.size:=hp.1
  have hperm:d'.toList.Perm qs:=by
   have:=hp.2.2
   have e1:d'.toList.take qs.length=d'.toList:=aT (by rw[pJ,hdz];simp)
   simpa[e1] using this
  have hasc:d'.toList.Pairwise fun x y=> ¬cf y.1.1 x.1.1<0:=by
   rw[List.pairwise_iff_getElem]
   intro i j hi hj hij
   have:=hs i j (bZ _) hij (by rw[←hdz];simpa using hj)
   rw[getElem!_pos d' j (by simpa using hj),getElem!_pos d' i (by simpa using hi)] at this
   simpa[Go.Proofs.ltOf] using this
  have hds:d'.toList.map (·.1.1)=srtL cf ds:=by
   refine List.Perm.eq_of_pairwise (le:=fun x y=> ¬cf y x<0) (fun x y hx hy k1 k2=>?_) ?_ (srtL_asc hO ds) ?_
   ·have m1:x∈ds:=by
     obtain⟨q,hq,rfl⟩:=bU.1 hx
     rw[←hq1];exact bU.2 ⟨q,hperm.mem_iff.1 hq,rfl⟩
    exact hu x m1 y ((srtL_perm cf ds).mem_iff.1 hy) k2 k1
   ·rw[qV];exact hasc
   ·refine(hperm.map _).trans ?_
    rw[hq1];exact(srtL_perm cf ds).symm
  have hlen':(d'.toList.map fun q=>Value.agg ⟨q.1.2⟩).length=es.length:=by rw[aJ,pJ,hdz,hqs]
  have hIs: ∀l:List {q:A×List Value//V q.1∧Is G (e q.1) (.agg ⟨q.2⟩)},IsLs G ((l.map (·.1.1)).map e) (l.map fun q=>Value.agg ⟨q.1.2⟩):=fun l=>by
   induction l with
   |nil=>exact .nil
   |cons q l ih=>exact .cons q.2.2 ih
  have hcell: ∀v∈d'.toList.map (fun q=>Value.agg ⟨q.1.2⟩),(aae v).length=s:=fun v hv=>by
   obtain⟨q,_,rfl⟩:=bU.1 hv
   exact hk q
  refine⟨_,[⟨b,aah (d'.toList.map fun q=>Value.agg ⟨q.1.2⟩)++rest,ty,false⟩],G,h1,?_,adM.2 ⟨[],rfl, .nil⟩,d'.toList.map (fun q=>Value.agg ⟨q.1.2⟩), .inr ⟨b,rest,false,by rw[hlen'];exact e1,rfl,aap _ hcell,?_,by rw[hlen'];exact e5⟩,by rw[←hds];exact hIs _,hcell,fun h=>by cases h⟩
  ·refine⟨rfl,rfl,rfl,hsize n os d',fun q hq hqm=>hoth n os d' q hq fun e=>hqm (by rw[e];exact aQ),hsub n os d',GLe.refl _,fun _ _=>rfl,fun o ho=>?_,List.pairwise_singleton _ _,?_⟩
   ·rw[aU.1 ho]
    exact⟨by rw[←hfl];exact hblk n os d' hdz,hGb,(fun h=>by cases h),fun _=>aQ⟩
   ·show w.drawn≤w.drawn+n
    omega
  ·rw[←e4,aap _ hcell,e3,hlen']
theorem bef_irr(u:PtQ): ¬Bef u u:=by
 rintro (h|⟨_,h⟩)
 ·omega
 ·have:u.cross u=0:=by unfold PtQ.cross;grind
  rw[this] at h;exact absurd h (by decide)
theorem bef_asym{u v:PtQ}(h:Bef u v)(k:Bef v u):False:=bef_irr u (agO h k)
theorem bef_wk{a b c:PtQ}(h:Bef c a):Bef c b∨Bef b a:=by
 by_cases h1:c.half<b.half
 ·exact .inl (.inl h1)
 ·by_cases h2:b.half<a.half
  ·exact .inr (.inl h2)
  ·rcases h with h|⟨h,k⟩
   ·omega
   ·have e1:c.half=b.half:=by omega
    have e2:b.half=a.half:=by omega
    by_cases q1:0<c.cross b
    ·exact .inl (.inr ⟨e1,q1⟩)
    ·by_cases q2:0<b.cross a
     ·exact .inr (.inr ⟨e2,q2⟩)
     ·exfalso
      have i1:b.y*c.cross a=a.y*c.cross b+c.y*b.cross a:=by unfold PtQ.cross;grind
      have i2:b.x*c.cross a=a.x*c.cross b+c.x*b.cross a:=by unfold PtQ.cross;grind
      have q1':c.cross b≤0:=by grind
      have q2':b.cross a≤0:=by grind
      rcases aaU b with⟨eb,kb⟩|⟨eb,kb⟩|⟨eb,kb⟩<;>rcases aaU a with⟨ea,ka⟩|⟨ea,ka⟩|⟨ea,ka⟩<;>rcases aaU c with⟨ec,kc⟩|⟨ec,kc⟩|⟨ec,kc⟩<;>first|omega|skip
      ·have ha:0≤a.y:=by grind
       have hc:0≤c.y:=by grind
       rcases kb with kb|⟨kb,kb'⟩
       ·have g1:=nK ha (show 0≤ -c.cross b by grind)
        have g2:=nK hc (show 0≤ -b.cross a by grind)
        have g3:=aab kb k
        grind
       ·have hx:b.cross a=b.x*a.y:=by unfold PtQ.cross;rw[kb];grind
        have ha0:a.y=0:=by
         rcases ka with ka|ka
         ·have:=aab kb' ka;grind
         ·exact ka.1
        have hax:0<a.x:=by grind
        have hy:c.cross a= -(c.y*a.x):=by unfold PtQ.cross;rw[ha0];grind
        have:=nK hc (show 0≤a.x by grind)
        grind
      ·have ha:0≤ -a.y:=by grind
       have hc:0≤ -c.y:=by grind
       rcases kb with kb|⟨kb,kb'⟩
       ·have g1:=nK ha (show 0≤ -c.cross b by grind)
        have g2:=nK hc (show 0≤ -b.cross a by grind)
        have g3:=aab (show 0< -b.y by grind) k
        grind
       ·have hx:b.cross a=b.x*a.y:=by unfold PtQ.cross;rw[kb];grind
        have ha0:a.y=0:=by
         rcases ka with ka|ka
         ·have:=aab (show 0< -b.x by grind) (show 0< -a.y by grind);grind
         ·exact ka.1
        have hax:0< -a.x:=by grind
        have hy:c.cross a= -(c.y*a.x):=by unfold PtQ.cross;rw[ha0];grind
        have:=nK hc (show 0≤ -a.x by grind)
        grind
      ·have hy:c.cross a=0:=by unfold PtQ.cross;rw[ka.1,ka.2];grind
       rw[hy] at k;exact absurd k (by decide)
theorem ang_swo:Go.Sort.SWO (Go.Proofs.ltOf aaD):=by
 have e: ∀x y,Go.Proofs.ltOf aaD x y=true↔Bef x y:=fun x y=>by rw[←aei];simp[Go.Proofs.ltOf]
 have e2: ∀x y,Go.Proofs.ltOf aaD x y=false↔ ¬Bef x y:=fun x y=>by rw[←e];simp
 refine⟨fun x=>(e2 x x).2 (bef_irr x),fun x y z h k=>(e x z).2 (agO ((e x y).1 h) ((e y z).1 k)),fun x y z h k=>(e2 x z).2 fun q=>?_⟩
 rcases bef_wk (b:=y) q with q|q
 ·exact(e2 x y).1 h q
 ·exact(e2 y z).1 k q
theorem asc_eq: ∀{l m:List PtQ},l.Pairwise Bef→m.Pairwise Bef→(∀x,x∈l↔x∈m)→l=m
 |[],[],_,_,_=>rfl
 |[],b::m,_,_,h=>absurd ((h b).2 aQ) (by simp)
 |a::l,[],_,_,h=>absurd ((h a).1 aQ) (by simp)
 |a::l,b::m,h1,h2,h=>by
  obtain⟨p1,p2⟩:=bR.1 h1
  obtain⟨q1,q2⟩:=bR.1 h2
  have e:a=b:=by
   rcases aW.1 ((h a).1 aQ) with e|e
   ·exact e
   ·rcases aW.1 ((h b).2 aQ) with f|f
    ·exact f.symm
    ·exact(bef_asym (q1 a e) (p1 b f)).elim
  subst e
  congr 1
  refine asc_eq p2 q2 fun x=>⟨fun hx=>?_,fun hx=>?_⟩
  ·rcases aW.1 ((h x).1 (aX _ hx)) with e|e
   ·subst e;exact(bef_irr _ (p1 _ hx)).elim
   ·exact e
  ·rcases aW.1 ((h x).2 (aX _ hx)) with e|e
   ·subst e;exact(bef_irr _ (q1 _ hx)).elim
   ·exact e
def TieEq(l:List PtQ):Prop:= ∀x∈l,∀y∈l,aaD x y=0→x=y
theorem ang_tie{x y:PtQ}(h: ¬Bef x y)(k: ¬Bef y x):aaD x y=0:=by
 rw[←aei] at h k
 unfold aaD at*
 split at h<;>try omega
 split at h<;>try omega
 split at k<;>try omega
 rw[show y.cross x= -(x.cross y) by unfold PtQ.cross;grind,lY,Int.sign_neg] at k
 omega
theorem cmp_ok: ∀{l:List PtQ} {x:PtQ},(x::l).Pairwise (fun a b=> ¬Bef b a)→TieEq (x::l)→(al9 x l).Pairwise Bef∧(∀y∈al9 x l,Bef x y)∧ ∀y,y∈x::al9 x l↔y∈x::l
 |[],_,_,_=>⟨.nil,(fun y hy=>by cases hy),fun _=>Iff.rfl⟩
 |z::l,x,h,ht=>by
  obtain⟨p1,p2⟩:=bR.1 h
  obtain⟨i1,i2,i3⟩:=cmp_ok p2 fun a ha b hb=>ht a (aX _ ha) b (aX _ hb)
  rw[al9]
  by_cases e:aaD z x=0
  ·rw[if_pos e]
   obtain rfl:=ht z (by simp) x (by simp) e
   exact⟨i1,i2,fun y=>by rw[i3];simp⟩
  ·rw[if_neg e]
   have hb:Bef x z:=by
    by_cases q:Bef x z
    ·exact q
    ·exact absurd (ang_tie (p1 z aQ) q) e
   refine⟨bR.2 ⟨i2,i1⟩,fun y hy=>?_,fun y=>?_⟩
   ·rcases aW.1 hy with rfl|hy
    ·exact hb
    ·exact agO hb (i2 y hy)
   ·rw[aW,i3,aW (b:=x) (l:=z::l)]
theorem cmpL_len: ∀(l:List PtQ) (x:PtQ),(al9 x l).length≤l.length
 |[],_=>bQ _
 |y::l,x=>by
  have:=cmpL_len l y
  rw[al9]
  split<;>simp only[bV]<;>omega
theorem compL_len(l:List PtQ):(aj9 l).length≤l.length:=by
 cases l with
 |nil=>exact bQ _
 |cons x l=>have:=cmpL_len l x;simp only[aj9,bV];omega
theorem comp_ok{l:List PtQ}(h:l.Pairwise fun a b=> ¬Bef b a)(ht:TieEq l):(aj9 l).Pairwise Bef∧ ∀y,y∈aj9 l↔y∈l:=by
 cases l with
 |nil=>exact⟨.nil,fun _=>Iff.rfl⟩
 |cons x l=>
  obtain⟨i1,i2,i3⟩:=cmp_ok h ht
  exact⟨bR.2 ⟨i2,i1⟩,i3⟩
theorem dirU_mem{l:List PtQ}(ht:TieEq l)(y:PtQ):y∈aia l↔y∈l:=by
 have h2: ∀y,y∈aia l→y∈l:=fun y hy=>by
  rcases afy aaD hy with h|h
  ·exact h
  ·cases h
 refine⟨h2 y,fun hy=>?_⟩
 obtain⟨e,e1,e2⟩:=alK aaD (o:=[]) hy
 rcases e2 with rfl|e2
 ·exact e1
 ·rw[←ht e (h2 e e1) y hy e2];exact e1
theorem comp_srt{l:List PtQ}(ht:TieEq l):aj9 (srtL aaD l)=aia l:=by
 have hm: ∀y,y∈srtL aaD l↔y∈l:=fun y=>(srtL_perm aaD l).mem_iff
 have h1:(srtL aaD l).Pairwise fun a b=> ¬Bef b a:=(srtL_asc ang_swo l).imp fun h=>by rw[←aei];exact h
 obtain⟨k1,k2⟩:=comp_ok h1 fun a ha b hb=>ht a ((hm a).1 ha) b ((hm b).1 hb)
 exact asc_eq k1 (apQ l) fun x=>by rw[k2,hm,dirU_mem ht]
theorem rays_tie{t:Tr}(ht:t.all LnQ.ok)(p:PtQ):TieEq (abv t p):=fun x hx y hy h=>by
 obtain⟨l,k1,k2⟩:=abQ.1 hx
 obtain⟨m,k3,k4⟩:=abQ.1 hy
 obtain⟨a1,a2⟩:=acb k1
 obtain⟨b1,b2⟩:=acb k3
 exact axY (ae7 ht _ a1) (ae7 ht _ b1) a2 b2 k2 k4 h
end Go.Sx
end
section
namespace Go.Proofs
open Go.Shelf
def Tryz.sortPt_ren:Go.Shelf.Ren:=⟨fun|6=>208|15=>255|14=>254|28=>294|29=>295|20=>286|21=>287|22=>288|23=>289|24=>290|25=>291|26=>292|27=>293|46=>307|47=>308|48=>309|49=>310|50=>311|57=>320|n=>n,fun|22=>230|24=>104|25=>287|3=>3|39=>290|0=>0|53=>262|55=>282|4=>4|46=>366|45=>365|50=>359|5=>5|9=>9|66=>384|70=>388|76=>394|77=>395|n=>n,fun|n=>n⟩
theorem Tryz.sortPt:Go.Proofs.SlLaysF0.n6 Tryz.prog Tryz.sortPt_ren:={
 mixed:=by kernel_rfl
 f6:=⟨Tryz.f208.name,by decide,Tryz.func208.trans (congrArg some (by kernel_rfl))⟩
 f14:=⟨Tryz.f254.name,by decide,Tryz.func254.trans (congrArg some (by kernel_rfl))⟩
 f15:=Tryz.func255.trans (congrArg some (by kernel_rfl))
 f20:=⟨Tryz.f286.name,by decide,Tryz.func286.trans (congrArg some (by kernel_rfl))⟩
 f21:=⟨Tryz.f287.name,by decide,Tryz.func287.trans (congrArg some (by kernel_rfl))⟩
 f22:=⟨Tryz.f288.name,by decide,Tryz.func288.trans (congrArg some (by kernel_rfl))⟩
 f23:=⟨Tryz.f289.name,by decide,Tryz.func289.trans (congrArg some (by kernel_rfl))⟩
 f24:=⟨Tryz.f290.name,by decide,Tryz.func290.trans (congrArg some (by kernel_rfl))⟩
 f25:=⟨Tryz.f291.name,by decide,Tryz.func291.trans (congrArg some (by kernel_rfl))⟩
 f26:=⟨Tryz.f292.name,by decide,Tryz.func292.trans (congrArg some (by kernel_rfl))⟩
 f27:=⟨Tryz.f293.name,by decide,Tryz.func293.trans (congrArg some (by kernel_rfl))⟩
 f28:=Tryz.func294.trans (congrArg some (by kernel_rfl))
 f29:=Tryz.func295.trans (congrArg some (by kernel_rfl))
 f46:=⟨Tryz.f307.name,by decide,Tryz.func307.trans (congrArg some (by kernel_rfl))⟩
 f47:=Tryz.func308.trans (congrArg some (by kernel_rfl))
 f48:=Tryz.func309.trans (congrArg some (by kernel_rfl))
 f49:=⟨Tryz.f310.name,by decide,Tryz.func310.trans (congrArg some (by kernel_rfl))⟩
 f50:=⟨Tryz.f311.name,by decide,Tryz.func311.trans (congrArg some (by kernel_rfl))⟩
 f57:=⟨Tryz.f320.name,by decide,Tryz.func320.trans (congrArg some (by kernel_rfl))⟩
 t0:=Tryz.underlying0
 a0:=Tryz.isAgg0
 z0:=Tryz.sizeOf0
 v0:=Tryz.zeroValue0
 t3:=Tryz.underlying3
 a3:=Tryz.isAgg3
 z3:=Tryz.sizeOf3
 v3:=Tryz.zeroValue3
 t4:=Tryz.underlying4
 a4:=Tryz.isAgg4
 z4:=Tryz.sizeOf4
 v4:=Tryz.zeroValue4
 t5:=Tryz.underlying5
 a5:=Tryz.isAgg5
 z5:=Tryz.sizeOf5
 v5:=Tryz.zeroValue5
 t9:=Tryz.underlying9
 a9:=Tryz.isAgg9
 z9:=Tryz.sizeOf9
 v9:=Tryz.zeroValue9
 t22:=Tryz.underlying230
 a22:=Tryz.isAgg230
 z22:=Tryz.sizeOf230
 v22:=Tryz.zeroValue230
 t25:=Tryz.underlying287
 a25:=Tryz.isAgg287
 z25:=Tryz.sizeOf287
 v25:=Tryz.zeroValue287
 t39:=Tryz.underlying290
 a39:=Tryz.isAgg290
 z39:=Tryz.sizeOf290
 v39:=Tryz.zeroValue290
 t45:=Tryz.underlying365
 a45:=Tryz.isAgg365
 z45:=Tryz.sizeOf365
 v45:=Tryz.zeroValue365
 t46:=Tryz.underlying366
 a46:=Tryz.isAgg366
 z46:=Tryz.sizeOf366
 v46:=Tryz.zeroValue366
 t50:=Tryz.underlying359
 a50:=Tryz.isAgg359
 z50:=Tryz.sizeOf359
 v50:=Tryz.zeroValue359
 t53:=Tryz.underlying262
 a53:=Tryz.isAgg262
 z53:=Tryz.sizeOf262
 v53:=Tryz.zeroValue262
 t55:=Tryz.underlying282
 a55:=Tryz.isAgg282
 z55:=Tryz.sizeOf282
 v55:=Tryz.zeroValue282
 t66:=Tryz.underlying384
 a66:=Tryz.isAgg384
 z66:=Tryz.sizeOf384
 v66:=Tryz.zeroValue384
 t70:=Tryz.underlying388
 a70:=Tryz.isAgg388
 z70:=Tryz.sizeOf388
 v70:=Tryz.zeroValue388
 t76:=Tryz.underlying394
 a76:=Tryz.isAgg394
 z76:=Tryz.sizeOf394
 v76:=Tryz.zeroValue394
 t77:=Tryz.underlying395
 a77:=Tryz.isAgg395
 z77:=Tryz.sizeOf395
 v77:=Tryz.zeroValue395}
end Go.Proofs
end
section
namespace Go.Sx
open Go Go.Proofs Tryz
variable {GB:Gh}
theorem p_SortPt{ds:List PtQ}{i:Nat}(hb: ∀d∈ds,BPt d i)(hi:i≤10000000)(hn:ds.length≤10000000)(ht:TieEq ds):PW GB prog 208 [none,some (.v (.func (.func 209) #[] #[]))] 6 104 (ds.map eZ) (.tp []) ((srtL aaD ds).map eZ):=
 srt_W (GB:=GB) Tryz.sortPt ⟨_,func208,rfl,rfl⟩ isAgg104 sizeOf104 eZ (fun d=>BPt d i) (fun x=>⟨_,rfl,rfl,rfl⟩) aaD ang_swo ⟨_,func209,rfl,rfl⟩ (fun x y hx hy=>aoc (i:=i) (j:=i) hi hi) hb (by omega)
  (fun x hx y hy h k=>ht x hx y hy (ang_tie (by rw[←aei];exact h) (by rw[←aei];exact k)))
theorem p_Dirs{ds:List PtQ}{i:Nat}(hb: ∀d∈ds,BPt d i)(hi:i≤10000000)(hn:ds.length≤10000000)(ht:TieEq ds):PB GB prog 150 (mkB [none]) 6 104 (ds.map eZ) (fun w=> .v (.slice w.a w.n w.c)) ((aia ds).map eZ):=by
 have hsm: ∀d∈srtL aaD ds,BPt d i:=fun d hd=>hb d ((srtL_perm aaD ds).mem_iff.1 hd)
 have hsl:(srtL aaD ds).length=ds.length:=(srtL_perm aaD ds).length_eq
 refine fnQ func150 J J ntmps150 J J (fun C=>?_)
 refine cw _ rfl (p_SortPt hb hi hn ht) J J<|cq ((aia ds).map eZ) rfl (arN (i0:=i) hsm (by omega) hi) (by rw[comp_srt ht]) rfl<|?_
 exact rzQ J J J J
theorem rays_bd{t:Tr}(hb:t.all LB)(p:PtQ): ∀d∈abv t p,BPt d 500:=fun d hd=>by
 obtain⟨l,h1,h2⟩:=abQ.1 hd
 haveI:=aeI.1 hb l (acb h1).1
 rcases h2 with rfl|rfl<;>infer_instance
theorem sct_bd{ds:List PtQ}{i:Nat}(h: ∀d∈ds,BPt d i)(h2:2≤i): ∀v∈afd ds,BPt v (i+i+1):=fun v hv=>by
 have up: ∀{q:PtQ},BPt q i→BPt q (i+i+1):=fun hq=>⟨hq.x.mono (by omega),hq.y.mono (by omega)⟩
 unfold afd at hv
 split at hv
 ·rw[aU] at hv
  subst hv
  exact⟨BQ.mono (k:=2) ⟨by decide,by decide⟩ (by omega),BQ.mono (k:=2) ⟨by decide,by decide⟩ (by omega)⟩
 ·obtain⟨k,hk,rfl⟩:=bU.1 hv
  have hk':=oT.1 hk
  have g: ∀{j:Nat},j<ds.length→BPt (ds.getD j ⟨0,0⟩) i:=fun{j} hj=>by
   rw[aK,aZ hj];exact h _ (cK hj)
  haveI:=g hk'
  haveI:=g (dZ (k+1) (show 0<ds.length by omega))
  unfold aqG
  split
  ·exact inferInstance
  ·exact up inferInstance
theorem sct_len(ds:List PtQ):(afd ds).length≤ds.length+1:=by
 unfold afd
 split
 ·simp
 ·rw[aJ,qR];omega
theorem any_step{vs:List PtQ}{f:PtQ→Bool}{k:Nat}{v:PtQ}(h:vs[k]? =some v):(vs.drop k).any f=(f v||(vs.drop (k+1)).any f):=by
 obtain⟨h1,h2⟩:=aL.1 h
 rw[aS h1,h2,List.any_cons]
theorem all_step{vs:List PtQ}{f:PtQ→Bool}{k:Nat}{v:PtQ}(h:vs[k]? =some v):(vs.drop k).all f=(f v&&(vs.drop (k+1)).all f):=by
 obtain⟨h1,h2⟩:=aL.1 h
 rw[aS h1,h2,List.all_cons]
theorem p_Classes{b c:Bool}:PF GB prog 153 [vB b,vB c] (vI (if b&&c then 2 else if b then 1 else 0)):=by
 refine fn func153 J J ntmps153 J J (fun C=>?_)
 refine csb 7 J J J (fun hg7=>?_) (fun hg7=>?_)
 ·refine bb J J J (fun hc5=>?_) (fun hc5=>?_)
  ·exact rz rfl (by subst hg7 hc5;rfl)
  ·refine bb J J J (fun hc10=>?_) (fun hc10=>?_)
   ·exact rz rfl (by subst hg7 hc5;rfl)
   ·subst hg7;cases hc10
 ·refine bb J J J (fun hc10=>?_) (fun hc10=>?_)
  ·subst hg7;cases hc10
  ·exact rz rfl (by subst hg7;rfl)
theorem p_TClass{t:Tr}{p:PtQ}{i:Nat}[hp:BPt p i](hb:t.all LB)(ho:t.all LnQ.ok)(hs:t.size≤400000)(hi:i≤10000000:=by decide):PF GB prog 75 [eU t,eZ p] (vI (af1 t p)):=by
 have hrl:=ahf t p
 have hrb:=rays_bd hb p
 have hrt:=rays_tie ho p
 have hdb: ∀d∈aia (abv t p),BPt d 500:=fun d hd=>hrb d ((dirU_mem hrt d).1 hd)
 have hdl:(aia (abv t p)).length≤(abv t p).length:=by rw[←comp_srt hrt];exact cW (compL_len _) (Nat.le_of_eq (srtL_perm aaD _).length_eq)
 have hsb:=sct_bd hdb (by decide)
 obtain⟨vs,hvs⟩: ∃vs,vs=afd (aia (abv t p)):=⟨_,rfl⟩
 have hvl:vs.length≤(aia (abv t p)).length+1:=by rw[hvs];exact sct_len _
 rw[←hvs] at hsb
 have hml:(vs.map eZ).length=vs.length:=aJ ..
 refine fn func75 J J ntmps75 J J (fun C=>?_)
 refine cqn ((abv t p).map eZ) rfl (amr (p:=p) (o:=[]) hi hb (by rw[dV];omega)) J J<|cq ((aia (abv t p)).map eZ) rfl (p_Dirs hrb (by decide) (by omega) hrt) J J<|?_
 refine fz 14 J J<|cl (fu:=⟨0⟩) rfl (atu (ds:=aia (abv t p)) (i:=500) hdb (by omega)) rfl<|?_
 refine eqF 15 (.d (.sl (vs.map eZ))) rfl (by rw[hvs]) ?_
 refine gx (fu:=⟨1⟩) rfl<|?_
 refine eqF 16 (.d (vI (vs.length:Nat))) rfl (by rw[hml]<;>rfl) ?_
 refine gx rfl<|?_
 refine dvC 5 _ J J ?_
 refine dvC 6 _ J J ?_
 refine lp (X:=Bool×Bool×Nat) (fun⟨a,c,k⟩=>[(17, .d (vI (k:Nat))),(5, .d (vB a)),(6, .d (vB c))]) (fun⟨a,c,k⟩=>[]) (fun⟨a,c,k⟩=>(a||(vs.drop k).any (fun v=>(ae8 t p v).1))=inP t p∧(c&&(vs.drop k).all (fun v=>(ae8 t p v).1))=alP t p∧k≤vs.length) (fun⟨a,c,k⟩=>vs.length-k) ⟨false,true,0⟩ rfl ⟨by rw[hvs];simp[inP],by rw[hvs];simp[alP],bZ _⟩ (fun _=>rfl) (fun⟨a,c,k⟩ hk=>?_)
 try dsimp only at hk⊢
 obtain⟨h1,h2,h3⟩:=hk
 refine br J J J (fun hc18=>?_) (fun hc18=>?_)
 ·
  obtain⟨v,hx⟩: ∃v,vs[k]? =some v:=⟨_,aZ (by omega)⟩
  haveI:=hsb v (aM hx)
  refine ix _ rfl (aas hx) rfl<|cl rfl (auS (t:=t) (p:=p) (v:=v) (i:=i) (j:=500+500+1) hb hi (by decide)) rfl<|?_
  refine bb J J J (fun hc28=>?_) (fun hc28=>?_)
  ·
   refine dvE 5 _ J J ?_
   exact at_ ⟨true,c,k+1⟩ (by dsimp only;exact⟨⟨by rw[←h1,any_step hx,hc28];simp,by rw[←h2,all_step hx,hc28];simp,by omega⟩,(by omega)⟩)
  ·
   refine dvE 6 _ J J ?_
   exact at_ ⟨a,false,k+1⟩ (by dsimp only;exact⟨⟨by rw[←h1,any_step hx,hc28];simp,by rw[←h2,all_step hx,hc28];simp,by omega⟩,(by omega)⟩)
 ·
  obtain rfl:k=vs.length:=by omega
  rw[dJ] at h1 h2
  have e1:a=inP t p:=by simpa using h1
  have e2:c=alP t p:=by simpa using h2
  refine cl rfl (p_Classes (b:=a) (c:=c)) rfl<|?_
  exact rz rfl (by rw[e1,e2];rfl)
theorem p_LocS{k i:Nat}{t:Tr}{p:PtQ}[hp:BPt p i](h:TrX k t)(hi:i≤10000000:=by decide):PF GB prog 27 [eA t,ePt p] (.tp [vI (af1 t p), .v .nilIface]):=by
 have hts:=h.s
 refine fn func27 J J ntmps27 J J (fun C=>?_)
 refine cl (fu:=⟨11⟩) rfl (avn h) rfl<|?_
 refine kbT 13 rfl ?_
 refine gx rfl<|cl rfl (aBH (p:=p) (i:=i) (by omega)) rfl<|cl rfl (p_TClass (t:=t) (p:=p) (i:=i) h.lb h.ok (by omega) hi) rfl<|?_
 exact rz J J
section
variable {GB:Gh} {ai al ae:Addr} (hE:EG GB ai al ae) {j k:Nat} {a b:Tr} (ha:TrX j a) (hb:TrX k b)
include hE ha
theorem p_REmptyV{v:Bool}(h:amv false a=v)(hk:j≤1000:=by decide):PF GB prog 61 [eA a] (.tp [vB v, .v .nilIface]):=h▸avt hE ha hk
theorem p_RWholeV{v:Bool}(h:amv true a=v)(hk:j≤1000:=by decide):PF GB prog 62 [eA a] (.tp [vB v, .v .nilIface]):=h▸avR hE ha hk
include hb
theorem p_REqV{v:Bool}(h:adn 4 a b=v)(hk:j+k≤200:=by decide):PF GB prog 63 [eA a,eA b] (.tp [vB v, .v .nilIface]):=h▸aDZ hE ha hb hk
theorem p_RSubV{v:Bool}(h:adn 3 a b=v)(hk:j+k≤200:=by decide):PF GB prog 37 [eA a,eA b] (.tp [vB v, .v .nilIface]):=h▸aA3 hE ha hb hk
theorem p_RDisV{v:Bool}(h:adn 2 a b=v)(hk:j+k≤200:=by decide):PF GB prog 38 [eA a,eA b] (.tp [vB v, .v .nilIface]):=h▸aA6 hE ha hb hk
end
theorem leaf_x(v:Bool):TrX 0 (.leaf v):=⟨⟨⟨trivial,trivial⟩,bQ 0,[],bQ 0,(fun _ h=>nomatch h),trivial⟩,bZ _⟩
section
variable {GB:Gh} {ai al ae:Addr} (hE:EG GB ai al ae)
include hE
theorem k20_e:PF GB prog 61 [.ag [vI (-1), .sl []]] (.tp [vB true, .v .nilIface]):=p_REmptyV hE (leaf_x false) (by decide)
theorem k20_w:PF GB prog 62 [.ag [vI (-2), .sl []]] (.tp [vB true, .v .nilIface]):=p_RWholeV hE (leaf_x true) (by decide)
theorem k20_q:PF GB prog 63 [.ag [vI (-2), .sl []], .ag [vI (-1), .sl []]] (.tp [vB false, .v .nilIface]):=p_REqV hE (leaf_x true) (leaf_x false) (by decide)
end
theorem q_pairN{b:Nat}{es:List Int}(hes:es.length≤400){A B:Tr}(hA:A=(adZ es 0).1.1)(hB:B=(adZ es 0).1.2):PM GB prog 8 (mkP [none] b) b 94 [.sl (es.map vI), .v (.int .i64 (0:Nat))] (.tp [eT A,eT B]) [.sl (es.map vI), .v (.int .i64 ((adZ es 0).2:Nat))]:=by
 subst hA hB;exact aDk hes (bZ _)
theorem q_known20{ai al ae:Addr}(hE:EG GB ai al ae):PF GB prog 20 [] (.v (.bool true)):=by
 refine fn func20 J J ntmps20 J J (fun C=>?_)
 refine cl (fu:=⟨4⟩) rfl (k20_e hE) rfl<|?_
 refine kbT 1 rfl ?_
 refine gx rfl<|cl (fu:=⟨4⟩) rfl (k20_w hE) rfl<|?_
 refine kbT 3 rfl ?_
 refine gx rfl<|cl (fu:=⟨4⟩) rfl (k20_q hE) rfl<|?_
 refine kbF 5 rfl ?_
 refine gx rfl<|?_
 exact rz J J
def eCl(x:List LnQ×Bool):DV:= .ag [.sl (x.1.map eL),vB x.2]
theorem slOkCl(l:List (List LnQ×Bool)):ads 2 (l.map eCl):=fun d hd=>by
 obtain⟨x,_,rfl⟩:=bU.1 hd
 exact⟨rfl,rfl⟩
def eSd(c:List LnQ):DV:= .sl (c.map eL)
theorem slOkSd(l:List (List LnQ)):ads 1 (l.map eSd):=fun d hd=>by
 obtain⟨x,_,rfl⟩:=bU.1 hd
 exact⟨rfl,rfl⟩
theorem q_Cells_leaf{b:Bool}{c:List LnQ}(hc: ∀m∈c,LB m)(hok: ∀m∈c,m.ok)(hn:c.length≤1000):PR GB prog 95 [eT (.leaf b), .sl (c.map eL)] 2 165 ((abz (.leaf b) c).map eCl):=by
 refine fnR func95 J J ntmps95 J J (fun C hmb=>?_)
 refine cl rfl (aoU hc hok (by omega)) rfl<|?_
 refine bb (fu2:=⟨8⟩) J J J (fun hc13=>?_) (fun hc13=>?_)
 ·
  exact aFI J J (by rw[abz,if_neg (by simpa using hc13)];rfl)
 ·
  refine knT J J J<|ro J J<|?_
  exact rzR J J J (by rw[abz,if_pos (by simpa using hc13)]<;>rfl)
theorem q_Cells_node{l:LnQ}{x y:Tr}{c:List LnQ}(hc: ∀m∈c,LB m)(hok: ∀m∈c,m.ok)(hl:LB l)(hlo:l.ok)(hn:c.length+(Tr.node l x y).depth≤1000)(hs:(Tr.node l x y).size≤100000)(ihx: ∀{c:List LnQ},(∀m∈c,LB m)→(∀m∈c,m.ok)→c.length+x.depth≤1000→PR GB prog 95 [eT x, .sl (c.map eL)] 2 165 ((abz x c).map eCl))(ihy: ∀{c:List LnQ},(∀m∈c,LB m)→(∀m∈c,m.ok)→c.length+y.depth≤1000→PR GB prog 95 [eT y, .sl (c.map eL)] 2 165 ((abz y c).map eCl)):PR GB prog 95 [eT (.node l x y), .sl (c.map eL)] 2 165 ((abz (.node l x y) c).map eCl):=by
 haveI:=hl
 have hd:(Tr.node l x y).depth=1+max x.depth y.depth:=rfl
 have hz:(Tr.node l x y).size=1+x.size+y.size:=rfl
 have hcl:=acW c
 have go: ∀{P:LnQ→Prop} {k:LnQ},(∀m∈c,P m)→P k→ ∀m∈aaR c++[k],P m:=fun{P k} h1 h2 m hm=>by
  rcases bK.1 hm with h|h
  ·exact h1 m (aa5.1 h).1
  ·rw[aU.1 h];exact h2
 have h1:=adF x (aaR c++[l])
 have h2:=adF y (aaR c++[l.rev])
 refine fnR func95 J J ntmps95 J J (fun C hmb=>?_)
 refine cl rfl (aoU hc hok (by omega)) rfl<|?_
 refine bb (fu2:=⟨8⟩) J J J (fun hc13=>?_) (fun hc13=>?_)
 ·
  exact aFI J J (by rw[abz,if_neg (by simpa using hc13)];rfl)
 ·
  refine knF J J J<|ro0 J J<|ap ((aaR c).map eL) J J (abw _) rfl<|rf J J<|apf ((aaR c++[l]).map eL) rfl (by rw[bJ]<;>rfl) (abw [l]) rfl<|?_
  refine cr rfl (ihx (c:=aaR c++[l]) (go hc hl) (go hok hlo) (by rw[aV,dK];omega)) rfl<|ro0 J J<|ap ((aaR c).map eL) J J (abw _) rfl<|?_
  refine cl rfl (aiE (l:=l)) rfl<|rf J J<|apf ((aaR c++[l.rev]).map eL) rfl (by rw[bJ]<;>rfl) (abw [l.rev]) rfl<|cr rfl (ihy (c:=aaR c++[l.rev]) (go hc inferInstance) (go hok hlo.rev) (by rw[aV,dK];omega)) rfl<|?_
  refine ap ((abz x (aaR c++[l])++abz y (aaR c++[l.rev])).map eCl) rfl (by rw[bJ]) (slOkCl _) rfl<|?_
  exact rzR J J J (by rw[abz,if_pos (by simpa using hc13)]<;>rfl)
theorem q_Cells: ∀{t:Tr} {c:List LnQ},t.all LB→t.all LnQ.ok→t.size≤100000→(∀m∈c,LB m)→(∀m∈c,m.ok)→c.length+t.depth≤1000→PR GB prog 95 [eT t, .sl (c.map eL)] 2 165 ((abz t c).map eCl)
 | .leaf _,_,_,_,_,hc,hk,hn=>q_Cells_leaf hc hk (by omega)
 | .node l x y,c,hb,ho,hs,hc,hk,hn=>q_Cells_node hc hk hb.1 ho.1 hn hs (fun a b d=>q_Cells hb.2.1 ho.2.1 (by have:(Tr.node l x y).size=1+x.size+y.size:=rfl;omega) a b d) (fun a b d=>q_Cells hb.2.2 ho.2.2 (by have:(Tr.node l x y).size=1+x.size+y.size:=rfl;omega) a b d)
def inP'(ps:List (List LnQ×Bool)):List (List LnQ):=(ps.filter (·.2)).map (·.1)
theorem inP_step{ps:List (List LnQ×Bool)}{k:Nat}{b:Bool}{e:List LnQ}(h:ps[k]? =some (e,b)):inP' (ps.drop k)=(if b then [e] else [])++inP' (ps.drop (k+1)):=by
 obtain⟨h1,h2⟩:=aL.1 h
 rw[aS h1,h2]
 unfold inP'
 cases b<;>simp
theorem find_step{ps:List PtQ}{f:PtQ→Bool}{k:Nat}{q:PtQ}(h:ps[k]? =some q):(ps.drop k).find? f=if f q then some q else(ps.drop (k+1)).find? f:=by
 obtain⟨h1,h2⟩:=aL.1 h
 rw[aS h1,h2,List.find?_cons]
 cases f q<;>rfl
theorem allL_step{vs:List LnQ}{f:LnQ→Bool}{k:Nat}{v:LnQ}(h:vs[k]? =some v):(vs.drop k).all f=(f v&&(vs.drop (k+1)).all f):=by
 obtain⟨h1,h2⟩:=aL.1 h
 rw[aS h1,h2,List.all_cons]
theorem q_CellsN{t:Tr}{ps:List (List LnQ×Bool)}(h:ps=abz t [])(hb:t.all LB)(ho:t.all LnQ.ok)(hd:t.depth≤1000)(hs:t.size≤100000):PR GB prog 95 [eT t, .sl []] 2 165 (ps.map eCl):=h▸q_Cells (c:=[]) hb ho hs (fun m h=>by cases h) (fun m h=>by cases h) (by rw[dV];omega)
theorem q_CIn{t:Tr}(hb:t.all LB)(ho:t.all LnQ.ok)(hd:t.depth≤1000)(hs:t.size≤100000):PF GB prog 39 [eT t] (.sl ((inP' (abz t [])).map eSd)):=by
 obtain⟨ps,hps⟩: ∃ps,ps=abz t []:=⟨_,rfl⟩
 have hpl:=adF t []
 rw[←hps] at hpl
 have hml:(ps.map eCl).length=ps.length:=aJ ..
 refine fn func39 J J ntmps39 J J (fun C=>?_)
 refine cr (fu:=⟨1⟩) rfl (q_CellsN hps hb ho hd hs) rfl<|?_
 refine eqF 8 (.d (vI (ps.length:Nat))) rfl (by rw[hml]<;>rfl) ?_
 refine gx rfl<|?_
 refine nr 3 3 75 1 J J J ?_
 refine lp (X:=List (List LnQ)×Nat) (fun⟨acc,k⟩=>[(9, .d (vI (k:Nat))),(3, .rw 3)]) (fun⟨acc,k⟩=>[(3,some (.b 75 1 (acc.map eSd) true))]) (fun⟨acc,k⟩=>acc++inP' (ps.drop k)=inP' ps∧k≤ps.length) (fun⟨acc,k⟩=>ps.length-k) ⟨[],0⟩ rfl ⟨rfl,bZ _⟩ (fun _=>rfl) (fun⟨acc,k⟩ hk=>?_)
 try dsimp only at hk⊢
 obtain⟨h1,h2⟩:=hk
 have hal:acc.length≤ps.length:=by
  have q1:=congrArg List.length h1
  have q2:(inP' ps).length≤ps.length:=by unfold inP';rw[aJ];exact oZ ..
  rw[aV] at q1;omega
 have ham:(acc.map eSd).length=acc.length:=aJ ..
 refine br J J J (fun hc10=>?_) (fun hc10=>?_)
 ·
  obtain⟨⟨e,b⟩,hx⟩: ∃x,ps[k]? =some x:=⟨_,aZ (by omega)⟩
  refine lb _ rfl (aas hx) rfl<|?_
  refine bb J J J (fun hc14=>?_) (fun hc14=>?_)
  ·
   refine rf J J<|ap ((acc++[e]).map eSd) rfl (by rw[bJ]<;>rfl) (slOkSd [e]) rfl<|?_
   refine rnE 19 3 rfl ?_
   exact at_ ⟨acc++[e],k+1⟩ (by dsimp only;exact⟨⟨by rw[←h1,inP_step hx,if_pos hc14];simp,by omega⟩,(by omega)⟩)
  ·
   exact at_ ⟨acc,k+1⟩ (by dsimp only;exact⟨⟨by rw[←h1,inP_step hx,if_neg (by simp at hc14;rw[hc14];decide)];rfl,by omega⟩,(by omega)⟩)
 ·
  obtain rfl:k=ps.length:=by omega
  obtain rfl:acc=inP' ps:=by rw[dJ] at h1;simpa[inP'] using h1
  subst hps
  refine fzE 3 rfl ?_
  exact rz J J
theorem q_Inn{c:List LnQ}{p:PtQ}(hc: ∀m∈c,LB m)(hok: ∀m∈c,m.ok)(hn:c.length≤1000)(hp:aBP c=some p):PF GB prog 40 [.sl (c.map eL)] (eP p):=by
 have hcl:(c.map eL).length=c.length:=aJ ..
 have hdl:=arP c
 have hfl:=amL (l:=aem c) (by omega)
 have hfb:=aql (aoE hc)
 obtain⟨ps,hps⟩: ∃ps,ps=adQ (aem c):=⟨_,rfl⟩
 unfold aBP at hp
 rw[←hps] at hfl hfb hp
 have hml:(ps.map eP).length=ps.length:=aJ ..
 refine fn func40 J J ntmps40 J J (fun C=>?_)
 refine cr rfl (an4 (ls:=c) hc (by omega)) rfl<|fz 9 J J<|cl (fu:=⟨0⟩) rfl (azN (l:=aem c) (aoE hc) (aon hok) (by omega)) rfl<|?_
 refine eqF 10 (.d (.sl (ps.map eP))) rfl (by rw[hps]) ?_
 refine gx (fu:=⟨1⟩) rfl<|?_
 refine eqF 11 (.d (vI (ps.length:Nat))) rfl (by rw[hml]<;>rfl) ?_
 refine gx rfl<|?_
 refine lp (X:=Nat) (fun k=>[(12, .d (vI (k:Nat)))]) (fun k=>[]) (fun k=>(ps.drop k).find? (ayv c)=some p∧k≤ps.length) (fun k=>ps.length-k) 0 rfl ⟨hp,bZ _⟩ (fun _=>rfl) (fun k hk=>?_)
 obtain⟨h1,h2⟩:=hk
 refine br J J J (fun hc13=>?_) (fun hc13=>?_)
 ·
  obtain⟨q,hx⟩: ∃q,ps[k]? =some q:=⟨_,aZ (by omega)⟩
  haveI:=hfb q (aM hx)
  refine ix (fu:=⟨15⟩) _ rfl (aas hx) rfl<|?_
  refine eqF 17 (.d (vI (c.length:Nat))) rfl (by rw[hcl]<;>rfl) ?_
  refine gx rfl<|?_
  refine dvC 5 _ J J ?_
  refine lp (X:=Bool×Nat) (fun⟨b,j⟩=>[(18, .d (vI (j:Nat))),(5, .d (vB b))]) (fun⟨b,j⟩=>[]) (fun⟨b,j⟩=>(b&&(c.drop j).all fun l=>decide (0<Int.sign (l.value q).num))=ayv c q∧j≤c.length) (fun⟨b,j⟩=>c.length-j) ⟨true,0⟩ rfl ⟨by simp[ayv],bZ _⟩ (fun _=>rfl) (fun⟨b,j⟩ hk=>?_)
  try dsimp only at hk⊢
  obtain⟨g1,g2⟩:=hk
  refine br J J J (fun hc19=>?_) (fun hc19=>?_)
  ·
   obtain⟨l,hy⟩: ∃l,c[j]? =some l:=⟨_,aZ (by omega)⟩
   haveI:=hc l (aM hy)
   refine ix _ rfl (aas hy) rfl<|?_
   refine csb 23 J J J (fun hg23=>?_) (fun hg23=>?_)
   ·
    refine cl rfl (am2 (l:=l) (p:=q) (i:=4900)) rfl<|?_
    refine dvE 5 _ J J ?_
    exact at_ ⟨decide (0<Int.sign (l.value q).num),j+1⟩ (by dsimp only;exact⟨⟨by rw[←g1,allL_step hy,hg23];simp,by omega⟩,(by omega)⟩)
   ·
    refine dvE 5 _ J J ?_
    exact at_ ⟨false,j+1⟩ (by dsimp only;exact⟨⟨by rw[←g1,hg23];simp,by omega⟩,(by omega)⟩)
  ·
   obtain rfl:j=c.length:=by omega
   rw[dJ] at g1
   have hbq:ayv c q=b:=by rw[←g1];simp
   refine bb J J J (fun hc30=>?_) (fun hc30=>?_)
   ·
    have hq:q=p:=by rw[find_step hx,if_pos (by rw[hbq,hc30])] at h1;exact Option.some.inj h1
    exact rz rfl (by rw[hq];rfl)
   ·
    exact at_ (k+1) ⟨⟨by rw[←h1,find_step hx,if_neg (by rw[hbq,hc30];decide)],by omega⟩,(by omega)⟩
 ·
  exact absurd h1 (by rw[show k=ps.length by omega,dJ];simp)
theorem inC_ok{A B:Tr}{j k:Nat}(hA:TrX j A)(hB:TrX k B)(hj:j≤100): ∀c∈inP' (abz A []),(∀m∈c,LB m)∧(∀m∈c,m.ok)∧c.length≤1000∧ ∃p,aBP c=some p∧BPt p 4900∧(adn 3 A B=true→af1 B p≠0)∧(adn 2 A B=true→af1 B p≠2):=fun c hc=>by
 unfold inP' at hc
 obtain⟨d,hd,rfl⟩:=bU.1 hc
 obtain⟨hd1,hd2⟩:=iQ.1 hd
 obtain⟨l1,l2⟩:=ags (P:=LB) (fun l h=>by haveI:=h;infer_instance) (c:=[]) hA.lb (fun m h=>by cases h) d hd1
 obtain⟨o1,_⟩:=ags (P:=LnQ.ok) (fun l h=>h.rev) (c:=[]) hA.ok (fun m h=>by cases h) d hd1
 obtain⟨q1,q2⟩:=ajP (c:=[]) hA.ok (fun m h=>by cases h) d hd1
 obtain⟨p,p1,p2,p3⟩:=avM o1 q1
 have hall: ∀v,(ae8 A p v).1=true:=fun v=>by rw[(q2 p p3).2 v,hd2]
 exact⟨l1,o1,by have:=hA.dp;rw[dV] at l2;omega,p,p1,aql (aoE l1) p p2,fun h=>aAj hA.ok hB.ok h hall,fun h=>az0 hA.ok hB.ok h hall⟩
theorem q_RelatePoints{ai al ae:Addr}(hE:EG GB ai al ae){es0:List Int}(hb:es0.length≤1125899906842624):PF GB prog 7 [.sl (es0.map vI)] (.v (.bool true)):=by
 obtain⟨es,hee⟩: ∃es,es=es0.take 400:=⟨_,rfl⟩
 have hes:es.length≤400:=by rw[hee];simp;omega
 obtain⟨hA,hB,hab⟩:=ave (es:=es) (bZ es.length)
 obtain⟨A,hAe⟩: ∃A,A=(adZ es 0).1.1:=⟨_,rfl⟩
 obtain⟨B,hBe⟩: ∃B,B=(adZ es 0).1.2:=⟨_,rfl⟩
 rw[←hAe] at hA
 rw[←hBe] at hB
 have hin:=inC_ok hA hB (by decide)
 have hAs:=hA.s
 have hAd:=hA.dp
 obtain⟨cs,hcs⟩: ∃cs,cs=inP' (abz A []):=⟨_,rfl⟩
 rw[←hcs] at hin
 have hml:(cs.map eSd).length=cs.length:=aJ ..
 have hcsl:cs.length≤100000:=by
  have q1:=adF A []
  have q2:cs.length≤(abz A []).length:=by rw[hcs];unfold inP';rw[aJ];exact oZ ..
  omega
 obtain⟨s,hs⟩: ∃s,adn 3 A B=s:=⟨_,rfl⟩
 obtain⟨d,hd⟩: ∃d,adn 2 A B=d:=⟨_,rfl⟩
 rw[hs,hd] at hin
 refine fn func7 J J ntmps7 J J (fun C=>?_)
 refine cn rfl ((aCo hb hee)) (fun _=>rfl) (fun _=>?_)
 refine cm rfl (fun b=>(q_pairN hes hAe hBe)) rfl<|cl rfl (apD hA) rfl<|cl rfl (apD hB) rfl<|cl rfl (p_RSubV hE hA hB hs) rfl<|cl rfl (p_RDisV hE hA hB hd) rfl<|?_
 refine cl (fu:=⟨0⟩) rfl (q_CIn (t:=A) hA.lb hA.ok (by omega) (by omega)) rfl<|?_
 refine eqF 45 (.d (.sl (cs.map eSd))) rfl (by rw[hcs]) ?_
 refine gx (fu:=⟨1⟩) rfl<|?_
 refine eqF 46 (.d (vI (cs.length:Nat))) rfl (by rw[hml]<;>rfl) ?_
 refine gx rfl<|?_
 refine lp (X:=Nat) (fun k=>[(47, .d (vI (k:Nat)))]) (fun k=>[]) (fun k=>k≤cs.length) (fun k=>cs.length-k) 0 rfl (bZ _) (fun _=>rfl) (fun k hk=>?_)
 refine br J J J (fun hc48=>?_) (fun hc48=>?_)
 ·
  obtain⟨c,hx⟩: ∃c,cs[k]? =some c:=⟨_,aZ (by omega)⟩
  obtain⟨c1,c2,c3,p,p1,p2,p3,p4⟩:=hin c (aM hx)
  haveI:=p2
  refine ix _ rfl (aas hx) rfl<|cl rfl (q_Inn (c:=c) c1 c2 c3 p1) rfl<|cl rfl (aBW (p:=p) (i:=4900)) rfl<|cl rfl (p_LocS (t:=B) (p:=p) (i:=4900) hB) rfl<|?_
  refine csb (fu1:=⟨1⟩) 64 J J J (fun hg64=>?_) (fun hg64=>?_)
  ·
   refine knF rfl (by show some (decide _)=some false;rw[decide_eq_false (p3 hg64)]) rfl<|?_
   refine csb (fu1:=⟨1⟩) 71 J J J (fun hg71=>?_) (fun hg71=>?_)
   ·
    refine knF rfl (by show some (decide _)=some false;rw[decide_eq_false (p4 hg71)]) rfl<|?_
    exact at_ (k+1) ⟨(by omega),(by omega)⟩
   ·
    exact at_ (k+1) ⟨(by omega),(by omega)⟩
  ·
   refine csb (fu1:=⟨1⟩) 71 J J J (fun hg71=>?_) (fun hg71=>?_)
   ·
    refine knF rfl (by show some (decide _)=some false;rw[decide_eq_false (p4 hg71)]) rfl<|?_
    exact at_ (k+1) ⟨(by omega),(by omega)⟩
   ·
    exact at_ (k+1) ⟨(by omega),(by omega)⟩
 ·
  refine cl rfl (q_known20 hE) rfl<|?_
  exact rz J J
end Go.Sx
end
section
namespace Go.Sx
open Go Go.Proofs Go.ChangeShapes Go.WideShapes Go.ChangeAt Go.RowKit
def GW(w:World):Gh:=fun b=>match w.heap[b]? with|some (.cells cs _ _)=>some cs.toList|_=>none
theorem GW.sub{w:World}{b:Nat}{cs:List Value}(h:GW w b=some cs): ∃ty fz,w.heap[b]? =some (.cells ⟨cs⟩ ty fz):=by
 unfold GW at h
 split at h
 ·rename_i c t f e
  cases h
  exact⟨t,f,by rw[e]⟩
 ·cases h
theorem GW.of_cell{w:World}{b off:Nat}{v:Value}(h:w.cell? ⟨b,off,none⟩=some v): ∃cs,GW w b=some cs∧cs[off]? =some v:=by
 unfold World.cell? at h
 unfold GW
 split at h
 ·rename_i c t f e
  simp only at e
  refine⟨c.toList,by rw[e],?_⟩
  simpa using h
 all_goals first|(rename_i e;cases h)|cases h
theorem ace.below{w w':World}{G G':Gh}{own:List Own}(h:ace ⟨w,G,[]⟩ own G' w'):Below w.heap.size w w':=
 ⟨h.os,h.tape,h.output,h.size,fun k hk=>h.keep k hk (by simp)⟩
theorem isLs_vI{G:Gh}: ∀es:List Int,IsLs G (es.map vI) (es.map fun n=>Value.int .i64 n)
 |[]=> .nil
 |n::t=> .cons (aaZ.2 rfl) (isLs_vI t)
theorem open_vI{base:Nat}{H:Type}{enc:TypeId×Value→H}{P:Program}{w:World}{t e:TypeId}{v:Value}{d:DataW H}{ps:List MemPlace}(ht:P.underlying t=some (.slice e))(he:P.underlying e=some (.int .i64))(hc:P.cellsOf e=1)
  (hv:Value.okWide P w .any base t v)(h:DataW.Trod enc P w 0 (fun _=>true) true t v d ps):
  ∃es:List Int,Is (GW w) (.sl (es.map vI)) v∧(d= .nil∧es=[]∨ ∃sp,d= .slice (lits .i64 es) sp)∧(∀n∈es,(Lit.int .i64 n).wf=true):=by
 obtain⟨a0,len,cap,rfl⟩:=okWide_slice ht hv
 obtain⟨fuel,hf⟩:=h
 rcases open_ints ht he hc hf with⟨hcs,hx⟩|⟨a,len',cap',zs,hcs,_,hl,hm,hz,hx,hcell,hwz⟩
 ·simp[Value.cells] at hcs
  obtain⟨rfl,rfl,rfl⟩:=hcs
  simp only[Prod.mk.injEq] at hx
  exact⟨[],adu.2 ⟨0,⟨none,0,0⟩,[],rfl,afw.nil _ 0, .nil⟩, .inl ⟨hx.1,rfl⟩,by simp⟩
 ·simp[Value.cells] at hcs
  obtain⟨rfl,rfl,rfl⟩:=hcs
  simp only[Prod.mk.injEq] at hx
  simp only[if_true] at hz
  refine⟨zs.take len,adu.2 ⟨1,⟨some a,len,cap⟩,(zs.take len).map fun n=>Value.int .i64 n,rfl,⟨by simp;omega,hl,?_⟩,isLs_vI _⟩, .inr ⟨_,hx.1⟩,fun n hn=>hwz n (cS hn)⟩
  by_cases h0:len=0
  ·exact .inl (by simp[h0])
  ·right
   obtain⟨b,off,spot⟩:=a
   have hspot:spot=none:=by simpa[Addr.add] using World.cell?_spot (hcell 0 (by omega))
   subst hspot
   have c0: ∀i,i<zs.length→w.cell? ⟨b,off+i,none⟩=some (.int .i64 (zs.getD i 0)):=fun i hi=>by
    have:=hcell i hi
    rwa [Go.WideShapes.add_plain] at this
   obtain⟨cs,hcs,_⟩:=GW.of_cell (by have h9:=c0 0 (by omega);rw[Nat.add_zero] at h9;exact h9)
   refine⟨b,off,cs,rfl,hcs,fun i hi=>?_⟩
   simp only[aJ,cV] at hi
   obtain⟨cs',hcs',hi'⟩:=GW.of_cell (c0 i (by omega))
   rw[hcs] at hcs'
   cases hcs'
   rw[gT,asK.2 hi']
   simp[aae,List.getD,aZ (show i<zs.length by omega)]
inductive CSh where
 |b
 |i (k:IntKind)
 |sl (ag:Bool) (l:List CSh)
mutual
def Fit:CSh→DV→Prop
 | .b,d=> ∃b,d= .v (.bool b)
 | .i k,d=> ∃n,d= .v (.int k n)∧(Lit.int k n).wf=true
 | .sl ag l,d=> ∃m:List DV,d= .sl m∧m.length≤maxLen∧ ∀x∈m,∃ys,FitL l ys∧((ag=true∧x= .ag ys)∨(ag=false∧ys=[x]))
def FitL:List CSh→List DV→Prop
 |[],ds=>ds=[]
 |s::l,ds=> ∃d t,ds=d::t∧Fit s d∧FitL l t
end
def flatF(r:TypeId→Option (Bool×List CSh))(P:Program):List Field→Nat→Option (List CSh)
 |[],_=>some []
 |f::fs,o=>match r f.type with
  |some (_,l)=>if f.offset=o∧P.cellsOf f.type=l.length then(flatF r P fs (o+l.length)).map (l++ ·) else none
  |none=>none
def flatT(P:Program):Nat→TypeId→Option (Bool×List CSh)
 |0,_=>none
 |n+1,t=>match P.underlying t with
  |some .bool=>some (false,[.b])
  |some (.int k)=>some (false,[.i k])
  |some (.slice e)=>match flatT P n e with
   |some (a,l)=>if P.cellsOf e=l.length∧0<l.length then some (false,[.sl a l]) else none
   |none=>none
  |some (.struct fs)=>match flatF (flatT P n) P fs.toList 0 with
   |some l=>if P.cellsOf t=l.length then some (true,l) else none
   |none=>none
  |_=>none
section
variable {H:Type} {enc:TypeId×Value→H} {P:Program} {w:World}
end
def shI:List CSh:=[.b, .sl false [.i .u32]]
def shL:List CSh:=shI++(shI++shI)
theorem es_star: "*" ++ "errors.errorString" = "*errors.errorString" :=by decide
theorem es_row(u:TypeId)(h:Tryz.prog.typeName? 3 u=some "*errors.errorString"):u=399:=
 typeName_ptr_named (nm:= "errors.errorString") (by rw[es_star];kernel_rfl) (by kernel_rfl) (by decide) u (by rw[es_star];exact h)
theorem sent_of{W:World}{n:String}{g:Nat}{text:List UInt8}{r:List (String×DataW Unit)}(h:laidMet Tryz.prog ((n, .iface "*errors.errorString" (.ptr (.agg [.lit (.string text)])))::r) W)(hg:Tryz.prog.globalNamed n=some g)(ht:(Tryz.prog.globals[g]?).map (·.type)=some 37):
  ∃a,GW W g=some [.iface 399 (.pointer (some a))]:=by
 obtain⟨a,s,hv,_⟩:=laid_sentinel h hg ht Tryz.underlying37 es_row Tryz.underlying399 Tryz.underlying424 rfl rfl Tryz.underlying9 (by kernel_rfl) (by kernel_rfl)
 refine⟨a,?_⟩
 unfold World.var? at hv
 rw[hg,Option.bind_some] at hv
 unfold GW
 split at hv
 ·rename_i c t f e
  rw[e];cases hv;rfl
 ·cases hv
theorem laid_plain{W:World}{l:List (String×DataW Unit)}(h:laidMetH Tryz.prog l W)(hp:(l.all fun x=>x.2.handleName?.isNone)=true):laidMet Tryz.prog l W:=by rwa [Go.MakeChecks.laidMetH_plain _ _ _ hp] at h
end Go.Sx
end
section
namespace Go.Proofs.YtopfgminkdfpkaaGreatDoor.relatePoints
open Go.ChangeShapes Go.WideShapes Go.ChangeAt Go.RowKit Go.Sx
theorem own:ownKnob Tryz.prog.godebug=none:=by kernel_rfl
theorem laidOut:laidOutB Tryz.prog=true:=by kernel_rfl
theorem cellsI:Tryz.prog.cellsOf 3=1:=by kernel_rfl
theorem bytesI:Tryz.prog.bytesOf 3=8:=by kernel_rfl
theorem door_met(os:Os)(args:Array Value):laidMetH Tryz.prog Rows.relatePointsRow.laid ((World.doorLaid Tryz.prog 66 os).forCall (fun _ _=>0) ⟨#[],args,[]⟩).memory:=
 laidMetH_of_parts3 (fuel:=8) (laidMet_of_run' 8 (by kernel_rfl) (by kernel_rfl)) (by kernel_rfl) (by kernel_rfl)
theorem eg_of{W:World}(h:laidMetH Tryz.prog Rows.relatePointsRow.laid W): ∃ai al ae,EG (GW W) ai al ae:=by
 have h1:=laid_plain h rfl
 obtain⟨ai,hi⟩:=sent_of (g:=1) h1 (by kernel_rfl) (by kernel_rfl)
 obtain⟨al,hl⟩:=sent_of (g:=2) h1.tail (by kernel_rfl) (by kernel_rfl)
 exact⟨ai,al,al,hi,hl⟩
theorem contract(H:Type)(enc:TypeId×Value→H)(W:World)(base:Nat)(args:Array Value)(ds gs:List (DataW H))(before:List MemPlace)
  (hval: ∀(j:Nat) t v,Tryz.f7.params[j]? =some t→args[j]? =some v→Value.okWide Tryz.prog W .any base t v)
  (hW:DataW.Whole enc Tryz.prog Tryz.f7.params.toList Rows.relatePointsSpec.vars false W args.toList ds gs before)
  (hz:(DataW.weightsEach Tryz.prog (Tryz.f7.params.toList++(OpenSpec.ofChange Rows.relatePointsSpec).bare.plain.varTypes Tryz.prog) (ds++gs)).all (· ≤reachBytes)=true)(hlaid:laidMetH Tryz.prog Rows.relatePointsRow.laid W):
  Calls Tryz.prog 7 args W fun e W'=> ∃v,e= .returned v∧Rows.relatePointsSpec.post enc Tryz.prog Tryz.f7 false true false false W args v W':=by
 have hW':=hW
 obtain⟨p,q,hA0,hV,rfl,_,_⟩:=hW
 have hA:DataW.TrodAll enc Tryz.prog W 0 (fun _=>true) true Tryz.f7.params.toList args.toList ds p:=hA0
 rw[Tryz.params7] at hA hval hz
 obtain⟨v0,d0,hargs,rfl,h0⟩:=trodAll_one hA
 obtain rfl:args= #[v0]:=by cases args;simp_all
 obtain⟨rfl,rfl⟩:=trodVars_none hV
 clear hA0
 simp only[List.append_nil] at hW'
 have hlt: ∀x∈p,x.block<W.heap.size:=fun x hx=>by simpa using hW'.lt x hx
 obtain⟨es,hI,hd,_⟩:=open_vI Tryz.underlying22 Tryz.underlying3 cellsI (hval 0 22 v0 rfl rfl) h0
 have hb:es.length≤1125899906842624:=by
  rcases hd with⟨rfl,rfl⟩|⟨sp,rfl⟩
  ·exact Nat.zero_le _
  ·have:=sized_slice hz (j:=0) (t:=22) (e:=3) J J Tryz.underlying22
   rw[bytesI] at this
   have hr:=reachBytes_lt
   have hl:(lits (H:=H) .i64 es).length=es.length:=by simp[lits]
   rw[hl] at this
   omega
 obtain⟨ai,al,ae,hE⟩:=eg_of hlaid
 have hf:=(q_RelatePoints hE (es0:=es) hb) (GW W) [v0] (GLe.refl _) (.cons hI .nil)
 refine(hf.run W (fun b cs hg=>GW.sub hg)).mono fun e W' ⟨v,G',he,hr,hv⟩=>?_
 rw[aaZ] at hv
 subst hv
 subst he
 have hn:=hr.below
 have t2:=trodAll_mk1 (Below.trod laidOut (by kernel_rfl) (of_decide_eq_true (by kernel_rfl)) h0 hn hlt)
 exact⟨_,rfl,⟨_,_,_,[],_,[],hW',trodAll_mk1 (shut_bool Tryz.underlying4 _),t2,rfl,hn.frame _,fun h=>by cases h⟩⟩
theorem reads(os:Os){H:Type}(enc:TypeId×Value→H): ∃places,DataW.whole enc Tryz.prog ((World.doorLaid Tryz.prog 66 os).forCall (fun _ _=>0) ⟨#[], #[.slice none 0 0],[]⟩).memory Tryz.f7.params.toList Rows.relatePointsSpec.vars false #[Value.slice none 0 0].toList 8=some ([.nil],[],places):=
 ⟨[],by kernel_rfl⟩
theorem lifted(os:Os)(started:os.Started)(H:Type)(enc:TypeId×Value→H)(F:Stop.Interp):
  ReturnsInHanded {} Tryz.checked os 7 .any ((OpenSpec.ofChange Rows.relatePointsSpec).preRow enc Tryz.prog Tryz.f7 Rows.relatePointsRow.domain false Rows.relatePointsRow.laid) (((OpenSpec.ofChange Rows.relatePointsSpec).at F).post enc Tryz.prog Tryz.f7 false true false false):=by
 obtain⟨places,hx⟩:=reads os enc
 refine returnsInHanded_of_row (C:=Tryz.checked) (s:=OpenSpec.ofChange Rows.relatePointsSpec) own started (by kernel_rfl) Tryz.func7
  (witness_row_atRef (enc:=enc) (C:=Tryz.checked) false (World.doorLaid Tryz.prog 66 os) #[.slice none 0 0] rfl (by kernel_rfl) (by kernel_rfl) (by kernel_rfl)
   (OpenSpec.preRow_of_cond 8 hx (by kernel_rfl) (fun k hk=>by cases hk) (by kernel_rfl) (door_met os _))) ?_
 intro W base args ds gs before hval hW _ _ hz hlaid _ _
 exact contract H enc W base args ds gs before hval hW hz hlaid
theorem j1:(Rows.relatePointsRow.inPlace==Tryz.pinned.checked.prog.inPlace 7)=true:=by kernel_rfl
theorem j2:(Rows.relatePointsRow.unfollowed==Tryz.pinned.checked.prog.unfollowed 7)=true:=by kernel_rfl
theorem j3:(Rows.relatePointsRow.recurses==Tryz.pinned.checked.prog.recurses 7)=true:=by kernel_rfl
theorem j4:(Rows.relatePointsRow.named==Tryz.pinned.checked.prog.varsNamed 7)=true:=by kernel_rfl
theorem j5:laidOutB Tryz.pinned.checked.prog=true:=laidOut
theorem j6:mapsRowed Tryz.pinned.checked.prog=true:=by kernel_rfl
theorem j7:Tryz.pinned.checked.prog.mainIs=some (Rows.relatePointsCard.stood.harness.1,Rows.relatePointsCard.stood.harness.2.toList):=by kernel_rfl
theorem j8:false=Rows.relatePointsRow.goesBy Tryz.pinned.checked.prog:=by kernel_rfl
theorem closed:joinedFacts Tryz.pinned.checked.prog 7 Tryz.f7 (OpenSpec.ofChange Rows.relatePointsSpec).bare Rows.relatePointsRow=true:=by
 unfold joinedFacts
 rw[j1,j2,j3,j4,j5,j6]
 kernel_rfl
theorem said:Rows.RelatePointsSaid:=
 OpenClaim.holds_of_cond 7 Tryz.f7 J J J J J J J ⟨rfl,rfl,rfl,rfl,rfl⟩ J J J J J (by kernel_rfl) Tryz.func7 closed
  (of_decide_eq_true (by kernel_rfl)) (by unfold Func.isWrapper;first|(rw[if_pos (by decide+kernel)];kernel_rfl)|(rw[if_neg (by decide+kernel)];exact⟨rfl,rfl⟩))
  (fun os started H enc _ F=>by rw[OpenClaim.pre_eq_preRow];exact lifted os started H enc F)
theorem plain(f:FuncId)(fn:Func)(hf:Tryz.pinned.checked.prog.funcNamed "bspregion/bspregionlaw20.RelatePoints" =some f)(hfn:Tryz.pinned.checked.prog.funcs[f]? =some fn):
  true=Tryz.pinned.checked.prog.looks []∧ ∀(j:Nat) t,fn.params[j]? =some t→Tryz.pinned.checked.prog.wantsStandIn t=false:=by
 obtain rfl:f=7:=Option.some.inj ((show Tryz.prog.funcNamed "bspregion/bspregionlaw20.RelatePoints" =some 7 by kernel_rfl).symm.trans hf) |>.symm
 obtain rfl:fn=Tryz.f7:=(Option.some.inj (Tryz.func7.symm.trans hfn)).symm
 refine⟨by kernel_rfl,fun j t ht=>?_⟩
 rw[Tryz.params7] at ht
 have hm:=Array.mem_of_getElem? ht
 simp only[List.mem_toArray,List.mem_cons,List.not_mem_nil,or_false] at hm
 subst hm
 exact(show Tryz.prog.wantsStandIn 22=false by kernel_rfl)
theorem card:Rows.RelatePointsCardSaid:=
 Claim7.holds_tied_plain_at .later [] _ _ _ _ said (fun _ h=>by cases h) (by kernel_rfl) (fun _ h=>by cases h) relatePoints_row_tie rfl ⟨rfl,rfl⟩ j7 rfl plain j8
#print axioms card
end Go.Proofs.YtopfgminkdfpkaaGreatDoor.relatePoints
end
