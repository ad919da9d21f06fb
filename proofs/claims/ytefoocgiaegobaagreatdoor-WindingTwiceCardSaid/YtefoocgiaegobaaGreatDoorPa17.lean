import Derived.Test.YtefoocgiaegobaaGreatDoorPa16
import Derived.Shelf.SlSortCmp.NoneTotal
import Derived.Test.YtefoocgiaegobaaGreatDoorProg
import Derived.Shelf.SlicesQ.Reverse
set_option linter.all false
set_option maxHeartbeats 2000000
set_option maxRecDepth 100000
section
namespace Go.Sx
open Go Go.Proofs
def Lz{v:Value}(h:Go.Sx.flat v=true):v.oneCell'=true:=by cases v<;>first|rfl|cases h
def H8{α:Type}{k:Nat}: ∀(l:List (List α)) (t:Nat),(∀x∈l,x.length=k)->t<l.length*k->l.flatten[t]? =(l[t/k]?).bind (·[t%k]?)
 |[],t,_,h=>by simp at h
 |x::l,t,h,ht=>by
  have hx:=h x aQ;have hk:0<k:=by
   rcases fZ k with e|e
   ·subst e;simp at ht
   ·exact e
  rw[kX];by_cases q:t<k
  ·rw[cJ (by omega),iY q,dY q];rfl
  ·rw[cM (by omega),hx,H8 l (t-k) (fun y hy=>h y (aJ _ hy)) (by rw[cX,dQ] at ht;omega)]
   have e1:t/k=(t-k)/k+1:=by rw[Nat.div_eq_sub_div hk (by omega)]
   have e2:t%k=(t-k)%k:=by rw[Nat.mod_eq_sub_mod (by omega)]
   rw[e1,e2];rfl
section
variable {α:Type} [Inhabited α]
def NA(enc:α->List Value)(k:Nat)(hk: ∀x,(enc x).length=k)(d:Array α):(Go.Sort.flatK enc k d).toList=(d.toList.map enc).flatten:=by
 apply lX;intro t;have hlen:(d.toList.map enc).flatten.length=d.size*k:=by
  have: ∀l:List α,(l.map enc).flatten.length=l.length*k:=fun l=>by
   induction l with
   |nil=>simp
   |cons x l ih=>rw[cL,kX,aM,ih,hk,cX,dQ];omega
  simpa using this d.toList
 by_cases ht:t<d.size*k
 ·have hk0:0<k:=by
   rcases fZ k with e|e
   ·subst e;simp at ht
   ·exact e
  have hi:t/k<d.size:=rQ (by rwa [bS]);rw[H8 (k:=k) _ _ (fun x hx=>by obtain⟨y,_,rfl⟩:=bX.1 hx;exact hk y) (by simpa using ht)];simp only[Go.Sort.flatK,nZ,Array.toList_range,gX];rw[rJ ht];have hj:t%k<(enc d[t/k]).length:=by rw[hk];exact cN _ hk0
  simp only[iN];rw[getElem!_pos d (t/k) hi,getElem!_pos (enc d[t/k]) (t%k) hj];simp[hi,hj]
 ·rw[fK (by simp[Go.Sort.flatK];omega),fK (by rw[hlen];omega)]
def IM(enc:α->List Value)(k:Nat)(w:World)(b m:Nat)(dk:Array α)(os:Array Obj){q:Nat}(hq:q<w.heap.size):
  (sortWorldK enc k w b 0 m dk os).heap[q]? =if q=b then(w.heap[q]?).map (Go.Sort.onCells (Go.Sort.putCells id 0 (Go.Sort.flatK enc k dk))) else w.heap[q]? :=by
 show((w.heap.modify b _)++os)[q]? =_;rw[iM (by simpa using hq),qV];by_cases e:b=q
 ·subst e;simp
 ·simp[e,Ne.symm e]
def SC{F:Array Value}{xs rest:List Value}(h:xs.length=F.size):Go.Sort.putCells id 0 F ⟨xs++rest⟩=⟨F.toList++rest⟩:=by
 apply Array.ext';apply lX;intro k;simp only[Go.Sort.putCells,Array.toList_mapIdx,List.getElem?_mapIdx];by_cases hk:k<F.size
 ·rw[cJ (by omega),cJ (by simpa using hk),aZ (by omega)]
  simp[hk]
 ·rw[cM (by omega),cM (by simp;omega),h]
  simp only[fW]
  cases rest[k-F.size]? with
  |none=>rfl
  |some v=>simp[hk]
end
def mz{A:Type}(cf:A->A->Int)(ds:List A):List A:=ds.mergeSort fun x y=>!decide (cf y x<0)
def xn{A:Type}(cf:A->A->Int)(ds:List A):(mz cf ds).Perm ds:=List.mergeSort_perm ..
def KT{A:Type}{cf:A->A->Int}(hO:Go.Sort.SWO (Go.Proofs.ltOf cf))(ds:List A):(mz cf ds).Pairwise fun x y=> ¬cf y x<0:=by
 have:=List.pairwise_mergeSort (le:=fun x y=>!decide (cf y x<0)) (fun a b c h1 h2=>by
  have h1':Go.Proofs.ltOf cf b a=false:=by simpa[Go.Proofs.ltOf] using h1
  have h2':Go.Proofs.ltOf cf c b=false:=by simpa[Go.Proofs.ltOf] using h2
  have:=hO.ntrans c b a h2' h1';simpa[Go.Proofs.ltOf] using this) (fun a b=>by
  cases h1:Go.Proofs.ltOf cf b a with
  |false=>have: ¬cf b a<0:=(by simpa[Go.Proofs.ltOf] using h1);simp;omega
  |true=>
   cases h2:Go.Proofs.ltOf cf a b with
   |false=>have: ¬cf a b<0:=(by simpa[Go.Proofs.ltOf] using h2);simp;omega
   |true=>have:=hO.trans _ _ _ h1 h2;rw[hO.irrefl] at this;cases this) ds
 exact this.imp fun h=>by simpa using h
def UD{P:Program}{ρ:Go.Shelf.Ren}{GB:Gh}(L:SlLaysF0.n6 P ρ)(ha:mf P (ρ.f 6)){s:Nat}(hAg: ∀w,(isAgg (ρ.t 24)).run P w= .ok true w)(hZs: ∀w,(sizeOf (ρ.t 24)).run P w= .ok s w)
  {A:Type}(e:A->DV)(V:A->Prop)(hA: ∀x,∃l,e x= .ag l/\(DV.ag l).okc=true/\l.length=s)(cf:A->A->Int)(hO:Go.Sort.SWO (Go.Proofs.ltOf cf)){g:FuncId}(hg:mf P g)
  (hc: ∀x y,V x->V y->PF GB P g [e x,e y] (.v (.int .i64 (cf x y)))){ty:TypeId}{ds:List A}(hV: ∀x∈ds,V x)(hn:ds.length<4611686018427387904)(hu: ∀x∈ds,∀y∈ds,¬cf x y<0-> ¬cf y x<0->x=y):
  PW GB P (ρ.f 6) [none,some (.v (.func (.func g) #[] #[]))] s ty (ds.map e) (.tp []) ((mz cf ds).map e):=by
 intro G z vs B hgb hB hvs;refine⟨ha,fun w hw=>?_⟩;obtain⟨v1,m1,rfl,q1,hvs⟩:=cb.1 hvs;obtain⟨v2,m2,rfl,q2,hvs⟩:=cb.1 hvs
 cases cG.1 hvs
 rw[bt] at q1 q2;subst q1 q2;obtain⟨es,k1,k2,k3,_⟩:=hB;simp only at k1 k2 k3;have hlen:es.length=ds.length:=by rw[k2.len,aK]
 by_cases h0:ds=[]
 ·subst h0
  have hes:es=[]:=bR (by simpa using hlen);have hz:z.n=0:=by rw[k1.len,hes];rfl
  rw[hz];refine(AnyF.slices_SortFunc_none L z.a z.c _ w).mono fun r w' ⟨h1,h2⟩=>?_;subst h2;exact⟨_,asB B,G,h1,hw,mD.2 ⟨[],J, .nil⟩,es,k1.asB,by subst hes;show IsLs G ((mz cf []).map e) [];unfold mz;rw[List.mergeSort_nil];exact .nil,k3,fun h=>by cases h⟩
 ·have hpos:0<es.length:=by rw[hlen];exact rY.2 h0
  rcases k1 with⟨e1,_,_⟩|⟨b,rest,lo,e1,e2,e3,e4,e5⟩
  ·rw[e1] at hpos;simp at hpos
  subst e2
  -- elements with their cells
  have lift: ∀{ds:List A} {es:List Value},IsLs G (ds.map e) es->(∀x∈ds,V x)-> ∃qs:List {q:A×List Value//V q.1/\Is G (e q.1) (.agg ⟨q.2⟩)},qs.map (·.1.1)=ds/\qs.map (fun q=>Value.agg ⟨q.1.2⟩)=es:=by
   intro ds
   induction ds with
   |nil=>intro es h _;cases cG.1 h;exact⟨[],rfl,rfl⟩
   |cons x ds ih=>
    intro es h hV;obtain⟨y,n,rfl,g1,g2⟩:=cb.1 h;obtain⟨qs,g3,g4⟩:=ih g2 fun x hx=>hV x (aJ _ hx);obtain⟨l,hl,_⟩:=hA x;have g1':=g1;rw[hl] at g1';obtain⟨m,rfl,_⟩:=ew.1 g1';exact⟨⟨(x,m),hV x aQ,g1⟩::qs,by simp[g3],by simp[g4]⟩
  obtain⟨qs,hq1,hq2⟩:=lift k2 hV;have:Inhabited {q:A×List Value//V q.1/\Is G (e q.1) (.agg ⟨q.2⟩)}:=⟨qs.head (fun e=>by rw[e] at hq1;exact h0 hq1.symm)⟩
  let enc:{q:A×List Value//V q.1/\Is G (e q.1) (.agg ⟨q.2⟩)}->List Value:=fun q=>q.1.2
  have henc: ∀q,(enc q).length=s/\ ∀v∈enc q,Go.Sx.flat v=true:=fun q=>by
   obtain⟨l,hl,h1,h2⟩:=hA q.1.1;have h3:=q.2.2;rw[hl] at h3;obtain⟨m,hm,h4⟩:=ew.1 h3
   cases hm
   exact⟨by show q.1.2.length=s;rw[h4.len,h2],fun v hv=>h4.flat h1 v hv⟩
  have hk: ∀q,(enc q).length=s:=fun q=>(henc q).1;have hqs:qs.toArray.size=es.length:=by rw[lZ,<-hq2,aK]
  have hfl: ∀d:Array {q:A×List Value//V q.1/\Is G (e q.1) (.agg ⟨q.2⟩)},(Go.Sort.flatK enc s d).toList=aH (d.toList.map fun q=>Value.agg ⟨q.1.2⟩):=fun d=>by
   rw[NA enc s hk];unfold aH;rw[List.map_map];rfl
  have hfe:(Go.Sort.flatK enc s qs.toArray).toList=aH es:=by rw[hfl,<-hq2]
  have hown:=hw.hown ⟨b,aH es++rest,ty,false⟩ aQ;obtain⟨hb,hGb,_,_⟩:=hown;simp only at hb hGb;have hblt:=fI hb;have hH:Go.Sort.HoldsK enc s w b 0 qs.toArray:=by
   intro j hj;refine⟨?_,by simp[World.frozen?,hb]⟩;rw[vl hb,eY];have hj':j<(aH es).length:=by rw[<-hfe];simpa using hj
   rw[cJ hj',<-hfe];show _=some ((Go.Sort.flatK enc s qs.toArray)[j]!);rw[getElem!_pos _ j hj];simp
  have hsz: ∀dk:Array {q:A×List Value//V q.1/\Is G (e q.1) (.agg ⟨q.2⟩)},dk.size=qs.toArray.size->(aH es).length=(Go.Sort.flatK enc s dk).size:=fun dk hd=>by rw[<-hfe];simp[hd]
  have hblk: ∀(m:Nat) (os:Array Obj) (dk:Array _),dk.size=qs.toArray.size->(sortWorldK enc s w b 0 m dk os).heap[b]? =some (.cells ⟨(Go.Sort.flatK enc s dk).toList++rest⟩ ty (0,0)):=fun m os dk hd=>by
   rw[IM enc s w b m dk os hblt,if_pos J,hb];show some (Obj.cells (Go.Sort.putCells id 0 (Go.Sort.flatK enc s dk) ⟨aH es++rest⟩) ty (0,0))=_;rw[SC (hsz dk hd)]
  have hoth: ∀(m:Nat) (os:Array Obj) (dk:Array _) (q:Nat),q<w.heap.size->q≠b->(sortWorldK enc s w b 0 m dk os).heap[q]? =w.heap[q]? :=fun m os dk q hq hne=>by rw[IM enc s w b m dk os hq,if_neg hne]
  have hsub: ∀(m:Nat) (os:Array Obj) (dk:Array _) (c:Nat) (cs:List Value),G c=some cs-> ∃ty fz,(sortWorldK enc s w b 0 m dk os).heap[c]? =some (.cells ⟨cs⟩ ty fz):=fun m os dk c cs hcs=>by
   obtain⟨ty',fz,h⟩:=hw.sub c cs hcs;exact⟨ty',fz,by rw[hoth m os dk c (fI h) (fun e=>by subst e;rw[hGb] at hcs;cases hcs)];exact h⟩
  have hsize: ∀(m:Nat) (os:Array Obj) (dk:Array _),w.heap.size<=(sortWorldK enc s w b 0 m dk os).heap.size:=fun m os dk=>by
   show _<=((w.heap.modify b _)++os).size;simp
  have hcmp:Go.Proofs.CmpLays P g #[] enc s (fun q r=>cf q.1.1 r.1.1) b 0 qs.toArray.size w:=by
   intro m os dk _ x y;have hF:=hc x.1.1 y.1.1 x.2.1 y.2.1 G [.agg ⟨x.1.2⟩, .agg ⟨y.1.2⟩] hgb (.cons x.2.2 (.cons y.2.2 .nil));refine(hF.run _ (hsub m os dk)).mono fun r W ⟨v,G',h1,h2,h3⟩=>?_;rw[bt] at h3;subst h3;refine⟨h1,W.drawn-(sortWorldK enc s w b 0 m dk os).drawn,W.heap.extract (sortWorldK enc s w b 0 m dk os).heap.size W.heap.size,?_⟩;have hdr:=h2.dr;have hos:=h2.os;have htp:=h2.tape;have hou:=h2.output;have hkp:=h2.keep;have hss:=h2.size;simp only at hdr hos htp hou hkp hss;generalize sortWorldK enc s w b 0 m dk os=W0 at*
   cases W with
   |mk heap tape drawn os' output=>
    simp only at*;unfold Go.Sort.grow World.drewN;simp only[World.mk.injEq];refine⟨?_,htp,by omega,hos,hou⟩;apply Array.ext_getElem?;intro k;rw[Array.getElem?_append];split
    ·rename_i hk';exact hkp k hk' (by simp)
    ·rename_i hk'
     rw[Array.getElem?_extract];split
     ·congr 1;omega
     ·rw[lY (by omega)]
  have hO':Go.Sort.SWO (Go.Proofs.ltOf fun(q r:{q:A×List Value//V q.1/\Is G (e q.1) (.agg ⟨q.2⟩)})=>cf q.1.1 r.1.1):=⟨fun x=>hO.irrefl x.1.1,fun x y z=>hO.trans x.1.1 y.1.1 z.1.1,fun x y z=>hO.ntrans x.1.1 y.1.1 z.1.1⟩;have hrun:=AnyQ.slices_SortFunc L s hAg hZs enc hk (fun q v hv=>Lz ((henc q).2 v hv)) (fun q r=>cf q.1.1 r.1.1) hO' g #[] b 0 z.c qs.toArray w (fun args w=>Af hg args w) hcmp hH hblt (by rw[hqs,hlen];exact hn);have ez:z=⟨some ⟨b,0,none⟩,qs.toArray.size,z.c⟩:=by rw[hqs];exact e1
  have ea:(⟨[Value.slice z.a z.n z.c, .func (.func g) #[] #[]]⟩:Array Value)= #[.slice (some ⟨b,0,none⟩) qs.toArray.size z.c, .func (.func g) #[] #[]]:=by rw[ez]
  rw[ea];refine hrun.mono fun r w' ⟨h1,d',n,os,hp,hs,h2⟩=>?_;subst h2;have hdz:d'.size=qs.toArray.size:=hp.1;have hperm:d'.toList.Perm qs:=by
   have:=hp.2.2;have e1:d'.toList.take qs.length=d'.toList:=aS (by rw[fW,hdz];simp);simpa[e1] using this
  have hasc:d'.toList.Pairwise fun x y=> ¬cf y.1.1 x.1.1<0:=by
   rw[mK];intro i j hi hj hij;have:=hs i j (cV _) hij (by rw[<-hdz];simpa using hj);rw[getElem!_pos d' j (by simpa using hj),getElem!_pos d' i (by simpa using hi)] at this;simpa[Go.Proofs.ltOf] using this
  have hds:d'.toList.map (·.1.1)=mz cf ds:=by
   refine List.Perm.eq_of_pairwise (le:=fun x y=> ¬cf y x<0) (fun x y hx hy k1 k2=>?_) ?_ (KT hO ds) ?_
   ·have m1:x∈ds:=by
     obtain⟨q,hq,rfl⟩:=bX.1 hx;rw[<-hq1];exact bX.2 ⟨q,hperm.mem_iff.1 hq,J⟩
    exact hu x m1 y ((xn cf ds).mem_iff.1 hy) k2 k1
   ·rw[pN];exact hasc
   ·refine(hperm.map _).trans ?_
    rw[hq1];exact(xn cf ds).symm
  have hlen':(d'.toList.map fun q=>Value.agg ⟨q.1.2⟩).length=es.length:=by rw[aK,fW,hdz,hqs]
  have hIs: ∀l:List {q:A×List Value//V q.1/\Is G (e q.1) (.agg ⟨q.2⟩)},IsLs G ((l.map (·.1.1)).map e) (l.map fun q=>Value.agg ⟨q.1.2⟩):=fun l=>by
   induction l with
   |nil=>exact .nil
   |cons q l ih=>exact .cons q.2.2 ih
  have hcell: ∀v∈d'.toList.map (fun q=>Value.agg ⟨q.1.2⟩),(aI v).length=s:=fun v hv=>by
   obtain⟨q,_,rfl⟩:=bX.1 hv;exact hk q
  refine⟨_,[⟨b,aH (d'.toList.map fun q=>Value.agg ⟨q.1.2⟩)++rest,ty,false⟩],G,h1,?_,mD.2 ⟨[],J, .nil⟩,d'.toList.map (fun q=>Value.agg ⟨q.1.2⟩), .inr ⟨b,rest,false,by rw[hlen'];exact e1,J,gp _ hcell,?_,by rw[hlen'];exact e5⟩,by rw[<-hds];exact hIs _,hcell,fun h=>by cases h⟩
  ·refine⟨J,J,J,hsize n os d',fun q hq hqm=>hoth n os d' q hq fun e=>hqm (by rw[e];exact aQ),hsub n os d',bm.refl _,fun _ _=>J,fun o ho=>?_,pL _ _,?_,fun p hp=>(by cases hp)⟩
   ·rw[aW.1 ho]
    exact⟨by rw[<-hfl];exact hblk n os d' hdz,hGb,(fun h=>by cases h),fun _=>aQ⟩
   ·show w.drawn<=w.drawn+n
    omega
  ·rw[<-e4,gp _ hcell,e3,hlen']
def O2{a b c:aa}(h:b8 c a):b8 c b\/b8 b a:=by
 by_cases h1:c.half<b.half
 ·exact .inl (.inl h1)
 ·by_cases h2:b.half<a.half
  ·exact .inr (.inl h2)
  ·rcases h with h|⟨h,k⟩
   ·omega
   ·have e1:c.half=b.half:=by omega
    have e2:b.half=a.half:=by omega
    by_cases q1:0<c.cross b
    ·exact .inl (.inr ⟨e1,q1⟩)
    ·by_cases q2:0<b.cross a
     ·exact .inr (.inr ⟨e2,q2⟩)
     ·exfalso
      have i1:b.y*c.cross a=a.y*c.cross b+c.y*b.cross a:=by unfold aa.cross;grind
      have i2:b.x*c.cross a=a.x*c.cross b+c.x*b.cross a:=by unfold aa.cross;grind
      have q1':c.cross b<=0:=by grind
      have q2':b.cross a<=0:=by grind
      rcases ja b with⟨eb,kb⟩|⟨eb,kb⟩|⟨eb,kb⟩<;>rcases ja a with⟨ea,ka⟩|⟨ea,ka⟩|⟨ea,ka⟩<;>rcases ja c with⟨ec,kc⟩|⟨ec,kc⟩|⟨ec,kc⟩<;>first|omega|skip
      ·have ha:0<=a.y:=by grind
       have hc:0<=c.y:=by grind
       rcases kb with kb|⟨kb,kb'⟩
       ·have g1:=nK ha (show 0<= -c.cross b by grind)
        have g2:=nK hc (show 0<= -b.cross a by grind);have g3:=bv kb k;grind
       ·have hx:b.cross a=b.x*a.y:=by unfold aa.cross;rw[kb];grind
        have ha0:a.y=0:=by
         rcases ka with ka|ka
         ·have:=bv kb' ka;grind
         ·exact ka.1
        have hax:0<a.x:=by grind
        have hy:c.cross a= -(c.y*a.x):=by unfold aa.cross;rw[ha0];grind
        have:=nK hc (show 0<=a.x by grind);grind
      ·have ha:0<= -a.y:=by grind
       have hc:0<= -c.y:=by grind
       rcases kb with kb|⟨kb,kb'⟩
       ·have g1:=nK ha (show 0<= -c.cross b by grind)
        have g2:=nK hc (show 0<= -b.cross a by grind);have g3:=bv (show 0< -b.y by grind) k;grind
       ·have hx:b.cross a=b.x*a.y:=by unfold aa.cross;rw[kb];grind
        have ha0:a.y=0:=by
         rcases ka with ka|ka
         ·have:=bv (show 0< -b.x by grind) (show 0< -a.y by grind);grind
         ·exact ka.1
        have hax:0< -a.x:=by grind
        have hy:c.cross a= -(c.y*a.x):=by unfold aa.cross;rw[ha0];grind
        have:=nK hc (show 0<= -a.x by grind);grind
      ·have hy:c.cross a=0:=by unfold aa.cross;rw[ka.1,ka.2];grind
       rw[hy] at k;exact absurd k (by decide)
def Lm:Go.Sort.SWO (Go.Proofs.ltOf cA):=by
 have e: ∀x y,Go.Proofs.ltOf cA x y=true↔b8 x y:=fun x y=>by rw[<-ph];simp[Go.Proofs.ltOf]
 have e2: ∀x y,Go.Proofs.ltOf cA x y=false↔ ¬b8 x y:=fun x y=>by rw[<-e];simp
 refine⟨fun x=>(e2 x x).2 (rH x),fun x y z h k=>(e x z).2 (um ((e x y).1 h) ((e y z).1 k)),fun x y z h k=>(e2 x z).2 fun q=>?_⟩;rcases O2 (b:=y) q with q|q
 ·exact(e2 x y).1 h q
 ·exact(e2 y z).1 k q
def Gu: ∀{l m:List aa},l.Pairwise b8->m.Pairwise b8->(∀x,x∈l↔x∈m)->l=m
 |[],[],_,_,_=>rfl
 |[],b::m,_,_,h=>absurd ((h b).2 aQ) (by simp)
 |a::l,[],_,_,h=>absurd ((h a).1 aQ) (by simp)
 |a::l,b::m,h1,h2,h=>by
  obtain⟨p1,p2⟩:=bW.1 h1;obtain⟨q1,q2⟩:=bW.1 h2;have e:a=b:=by
   rcases aU.1 ((h a).1 aQ) with e|e
   ·exact e
   ·rcases aU.1 ((h b).2 aQ) with f|f
    ·exact f.symm
    ·exact(wm (q1 a e) (p1 b f)).elim
  subst e;congr 1;refine Gu p2 q2 fun x=>⟨fun hx=>?_,fun hx=>?_⟩
  ·rcases aU.1 ((h x).1 (aJ _ hx)) with e|e
   ·subst e;exact(rH _ (p1 _ hx)).elim
   ·exact e
  ·rcases aU.1 ((h x).2 (aJ _ hx)) with e|e
   ·subst e;exact(rH _ (q1 _ hx)).elim
   ·exact e
def vd(l:List aa):Prop:= ∀x∈l,∀y∈l,cA x y=0->x=y
def Hw: ∀{l:List aa} {x:aa},(x::l).Pairwise (fun a b=> ¬b8 b a)->vd (x::l)->(jG x l).Pairwise b8/\(∀y∈jG x l,b8 x y)/\ ∀y,y∈x::jG x l↔y∈x::l
 |[],_,_,_=>⟨.nil,(fun y hy=>by cases hy),fun _=>Iff.rfl⟩
 |z::l,x,h,ht=>by
  obtain⟨p1,p2⟩:=bW.1 h;obtain⟨i1,i2,i3⟩:=Hw p2 fun a ha b hb=>ht a (aJ _ ha) b (aJ _ hb);rw[jG];by_cases e:cA z x=0
  ·rw[if_pos e]
   obtain rfl:=ht z (by simp) x (by simp) e;exact⟨i1,i2,fun y=>by rw[i3];simp⟩
  ·rw[if_neg e]
   have hb:b8 x z:=by
    by_cases q:b8 x z
    ·exact q
    ·exact absurd (Mv (p1 z aQ) q) e
   refine⟨bW.2 ⟨i2,i1⟩,fun y hy=>?_,fun y=>?_⟩
   ·rcases aU.1 hy with rfl|hy
    ·exact hb
    ·exact um hb (i2 y hy)
   ·rw[aU,i3,aU (b:=x) (l:=z::l)]
def Pf{l:List aa}(h:l.Pairwise fun a b=> ¬b8 b a)(ht:vd l):(rh l).Pairwise b8/\ ∀y,y∈rh l↔y∈l:=by
 cases l with
 |nil=>exact⟨.nil,fun _=>Iff.rfl⟩
 |cons x l=>
  obtain⟨i1,i2,i3⟩:=Hw h ht;exact⟨bW.2 ⟨i2,i1⟩,i3⟩
def OY{l:List aa}(ht:vd l)(y:aa):y∈gv l↔y∈l:=by
 have h2: ∀y,y∈gv l->y∈l:=fun y hy=>by
  rcases uQ cA hy with h|h
  ·exact h
  ·cases h
 refine⟨h2 y,fun hy=>?_⟩;obtain⟨e,e1,e2⟩:=Am cA (o:=[]) hy;rcases e2 with rfl|e2
 ·exact e1
 ·rw[<-ht e (h2 e e1) y hy e2];exact e1
def P1{l:List aa}(ht:vd l):rh (mz cA l)=gv l:=by
 have hm: ∀y,y∈mz cA l↔y∈l:=fun y=>(xn cA l).mem_iff;have h1:(mz cA l).Pairwise fun a b=> ¬b8 b a:=(KT Lm l).imp fun h=>by rw[<-ph];exact h
 obtain⟨k1,k2⟩:=Pf h1 fun a ha b hb=>ht a ((hm a).1 ha) b ((hm b).1 hb);exact Gu k1 (vY l) fun x=>by rw[k2,hm,OY ht]
end Go.Sx
end
section
namespace Go.Proofs
open Go.Shelf
def Tryz.sortPt_ren:Go.Shelf.Ren:=⟨fun|6=>316|15=>231|14=>370|28=>332|29=>333|20=>391|21=>392|22=>393|23=>394|24=>395|25=>396|26=>397|27=>398|46=>405|47=>372|48=>373|49=>406|50=>407|57=>410|n=>n,fun|22=>131|24=>141|25=>393|3=>3|39=>355|0=>0|53=>366|55=>251|4=>4|46=>429|45=>428|50=>391|5=>5|9=>9|66=>467|70=>471|76=>486|77=>487|n=>n,fun|n=>n⟩
def Tryz.sortPt:Go.Proofs.SlLaysF0.n6 Tryz.prog Tryz.sortPt_ren:={
 mixed:=by kernel_rfl
 f6:=⟨Tryz.f316.name,by decide,Tryz.func316.trans (congrArg some (by kernel_rfl))⟩
 f14:=⟨Tryz.f370.name,by decide,Tryz.func370.trans (congrArg some (by kernel_rfl))⟩
 f15:=Tryz.func231.trans (congrArg some (by kernel_rfl))
 f20:=⟨Tryz.f391.name,by decide,Tryz.func391.trans (congrArg some (by kernel_rfl))⟩
 f21:=⟨Tryz.f392.name,by decide,Tryz.func392.trans (congrArg some (by kernel_rfl))⟩
 f22:=⟨Tryz.f393.name,by decide,Tryz.func393.trans (congrArg some (by kernel_rfl))⟩
 f23:=⟨Tryz.f394.name,by decide,Tryz.func394.trans (congrArg some (by kernel_rfl))⟩
 f24:=⟨Tryz.f395.name,by decide,Tryz.func395.trans (congrArg some (by kernel_rfl))⟩
 f25:=⟨Tryz.f396.name,by decide,Tryz.func396.trans (congrArg some (by kernel_rfl))⟩
 f26:=⟨Tryz.f397.name,by decide,Tryz.func397.trans (congrArg some (by kernel_rfl))⟩
 f27:=⟨Tryz.f398.name,by decide,Tryz.func398.trans (congrArg some (by kernel_rfl))⟩
 f28:=Tryz.func332.trans (congrArg some (by kernel_rfl))
 f29:=Tryz.func333.trans (congrArg some (by kernel_rfl))
 f46:=⟨Tryz.f405.name,by decide,Tryz.func405.trans (congrArg some (by kernel_rfl))⟩
 f47:=Tryz.func372.trans (congrArg some (by kernel_rfl))
 f48:=Tryz.func373.trans (congrArg some (by kernel_rfl))
 f49:=⟨Tryz.f406.name,by decide,Tryz.func406.trans (congrArg some (by kernel_rfl))⟩
 f50:=⟨Tryz.f407.name,by decide,Tryz.func407.trans (congrArg some (by kernel_rfl))⟩
 f57:=⟨Tryz.f410.name,by decide,Tryz.func410.trans (congrArg some (by kernel_rfl))⟩
 t0:=Tryz.underlying0
 a0:=Tryz.isAgg0
 z0:=Tryz.sizeOf0
 v0:=Tryz.zeroValue0
 t3:=Tryz.underlying3
 a3:=Tryz.isAgg3
 z3:=Tryz.sizeOf3
 v3:=Tryz.zeroValue3
 t4:=Tryz.underlying4
 a4:=Tryz.isAgg4
 z4:=Tryz.sizeOf4
 v4:=Tryz.zeroValue4
 t5:=Tryz.underlying5
 a5:=Tryz.isAgg5
 z5:=Tryz.sizeOf5
 v5:=Tryz.zeroValue5
 t9:=Tryz.underlying9
 a9:=Tryz.isAgg9
 z9:=Tryz.sizeOf9
 v9:=Tryz.zeroValue9
 t22:=Tryz.underlying131
 a22:=Tryz.isAgg131
 z22:=Tryz.sizeOf131
 v22:=Tryz.zeroValue131
 t25:=Tryz.underlying393
 a25:=Tryz.isAgg393
 z25:=Tryz.sizeOf393
 v25:=Tryz.zeroValue393
 t39:=Tryz.underlying355
 a39:=Tryz.isAgg355
 z39:=Tryz.sizeOf355
 v39:=Tryz.zeroValue355
 t45:=Tryz.underlying428
 a45:=Tryz.isAgg428
 z45:=Tryz.sizeOf428
 v45:=Tryz.zeroValue428
 t46:=Tryz.underlying429
 a46:=Tryz.isAgg429
 z46:=Tryz.sizeOf429
 v46:=Tryz.zeroValue429
 t50:=Tryz.underlying391
 a50:=Tryz.isAgg391
 z50:=Tryz.sizeOf391
 v50:=Tryz.zeroValue391
 t53:=Tryz.underlying366
 a53:=Tryz.isAgg366
 z53:=Tryz.sizeOf366
 v53:=Tryz.zeroValue366
 t55:=Tryz.underlying251
 a55:=Tryz.isAgg251
 z55:=Tryz.sizeOf251
 v55:=Tryz.zeroValue251
 t66:=Tryz.underlying467
 a66:=Tryz.isAgg467
 z66:=Tryz.sizeOf467
 v66:=Tryz.zeroValue467
 t70:=Tryz.underlying471
 a70:=Tryz.isAgg471
 z70:=Tryz.sizeOf471
 v70:=Tryz.zeroValue471
 t76:=Tryz.underlying486
 a76:=Tryz.isAgg486
 z76:=Tryz.sizeOf486
 v76:=Tryz.zeroValue486
 t77:=Tryz.underlying487
 a77:=Tryz.isAgg487
 z77:=Tryz.sizeOf487
 v77:=Tryz.zeroValue487}
end Go.Proofs
end
section
namespace Go.Sx
open Go Go.Proofs Tryz
variable {GB:Gh}
def Uj{ds:List aa}{i:Nat}(hb: ∀d∈ds,az d i)(hi:i<=10000000)(hn:ds.length<=10000000)(ht:vd ds):PW GB prog 316 [none,some (.v (.func (.func 279) #[] #[]))] 6 141 (ds.map eZ) (.tp []) ((mz cA ds).map eZ):=
 UD (GB:=GB) Tryz.sortPt ⟨_,func316,J,J⟩ isAgg141 sizeOf141 eZ (fun d=>az d i) (fun x=>⟨_,J,J,J⟩) cA Lm ⟨_,func279,J,J⟩ (fun x y hx hy=>Jh (i:=i) (j:=i) hi hi) hb (by omega)
  (fun x hx y hy h k=>ht x hx y hy (Mv (by rw[<-ph];exact h) (by rw[<-ph];exact k)))
def OW{ds:List aa}{i:Nat}(hb: ∀d∈ds,az d i)(hi:i<=10000000)(hn:ds.length<=10000000)(ht:vd ds):PB GB prog 221 (lj [none]) 6 141 (ds.map eZ) (fun w=> .v (.slice w.a w.n w.c)) ((gv ds).map eZ):=by
 have hsm: ∀d∈mz cA ds,az d i:=fun d hd=>hb d ((xn cA ds).mem_iff.1 hd);have hsl:(mz cA ds).length=ds.length:=(xn cA ds).length_eq;refine FT func221 J J ntmps221 J J (fun C=>?_);refine cw _ J (Uj hb hi hn ht) J J<|cq ((gv ds).map eZ) J (Qg (i0:=i) hsm (by omega) hi) (by rw[P1 ht]) J<|?_;exact vM J J J J
theorem LU{ds:List aa}{i:Nat}(h: ∀d∈ds,az d i)(h2:2<=i): ∀v∈eG ds,az v (i+i+1):=fun v hv=>by
 have up: ∀{q:aa},az q i->az q (i+i+1):=fun hq=>⟨hq.x.mono (by omega),hq.y.mono (by omega)⟩;unfold eG at hv;split at hv
 ·rw[aW] at hv
  subst hv;exact⟨BQ.mono (k:=2) ⟨by decide,by decide⟩ (by omega),BQ.mono (k:=2) ⟨by decide,by decide⟩ (by omega)⟩
 ·obtain⟨k,hk,rfl⟩:=bX.1 hv
  have hk':=iK.1 hk;have g: ∀{j:Nat},j<ds.length->az (ds.getD j ⟨0,0⟩) i:=fun{j} hj=>by
   rw[aX,aZ hj];exact h _ (fR hj)
  haveI:=g hk';haveI:=g (cN (k+1) (show 0<ds.length by omega));unfold jo;split
  ·exact inferInstance
  ·exact up inferInstance
def My(ds:List aa):(eG ds).length<=ds.length+1:=by
 unfold eG;split
 ·simp
 ·rw[aK,qK];omega
def TG{b c:Bool}:PF GB prog 197 [vB b,vB c] (vI (if b&&c then 2 else if b then 1 else 0)):=by
 refine fn func197 J J ntmps197 J J (fun C=>?_);refine l7 7 J J J (fun hg7=>?_) (fun hg7=>?_)
 ·refine bb J J J (fun hc5=>?_) (fun hc5=>?_)
  ·exact rz J (by subst hg7 hc5;rfl)
  ·refine bb J J J (fun hc10=>?_) (fun hc10=>?_)
   ·exact rz J (by subst hg7 hc5;rfl)
   ·subst hg7;cases hc10
 ·refine bb J J J (fun hc10=>?_) (fun hc10=>?_)
  ·subst hg7;cases hc10
  ·exact rz J (by subst hg7;rfl)
def W9{C:aA}{n:Nat}{Q0:Exit->Act->World->Prop}{fr:ao}{own:aC}{ops:Array Oper}{r:List Oper}{K:List Kt}(k:Nat)(hl:aE fr k=some (.d (.ag [vI 0,vI 0, .v (.pointer none)])))(h:aj prog GB C n Q0 ((k, .d (eF 0))::fr) own (.ops ops r K)):aj prog GB C n Q0 fr own (.ops ops r K):=
 lP (g:= .d (eF 0)) hl (fun _ G y hy=>vy G y hy) h
theorem Nc{p:aa}{f:aP}(hf:FE f): ∀d∈gh p f,az d 500:=fun d hd=>by
 haveI:=hf.fo.lb;rcases(zz hd).2 with rfl|rfl
 ·exact inferInstance
 ·exact inferInstance
def xg{E:List aP}{p:aa}{k:Nat}{f:aP}(h:E[k]? =some f):(E.drop k).flatMap (gh p)=gh p f++(E.drop (k+1)).flatMap (gh p):=by
 obtain⟨hk,e⟩:=aN.1 h;rw[cW hk,e,List.flatMap_cons]
def VK(p:aa)(f:aP):(gh p f).length<=2:=by
 unfold gh
 repeat' split
 all_goals simp
def B5(p:aa): ∀E:List aP,(E.flatMap (gh p)).length<=2*E.length
 |[]=>aL _
 |f::E=>by
  have:=B5 p E;have:=VK p f;rw[List.flatMap_cons,aM,cX];omega
def Oy{p:aa}{f:aP}(h:gz f p=false):gh p f=[]:=by unfold gh;rw[h];rfl
def y8{p:aa}{f:aP}(hf:FE f)(h:gz f p=true):gh p f=(if bO (ck f.l p) f.v.hi<0 then [ci f.l.dir] else [])++(if 0<bO (ck f.l p) f.v.lo then [bg (ci f.l.dir)] else []):=by
 unfold gh Cp EU;rw[if_pos h,hf.nl,hf.nh];simp only[Bool.false_or,decide_eq_true_eq]
def Wc{E:List aP}(hE: ∀f∈E,FE f)(hn:E.length<=100000){p:aa}{i:Nat}[hp:az p i](hi:i<=100000:=by decide):PF GB prog 286 [.sl (E.map cp),eZ p] (.sl ((iG E p).map eZ)):=by
 have hml:(E.map cp).length=E.length:=aK ..;have hrl:=B5 p E;refine fn (fu:=⟨16⟩) func286 J J ntmps286 J J (fun C=>?_);refine ak 11 (.d (vI (E.length:Nat))) J (by rw[hml]<;>rfl) ?_;refine gx J<|?_;refine nr 5 5 141 6 J J J ?_;refine lp (X:=List aa×Nat) (fun⟨acc,k⟩=>[(12, .d (vI (k:Nat))),(5, .rw 5)]) (fun⟨acc,k⟩=>[(5,some (.b 141 6 (acc.map eZ) true))]) (fun⟨acc,k⟩=>acc++(E.drop k).flatMap (gh p)=E.flatMap (gh p)/\k<=E.length) (fun⟨acc,k⟩=>E.length-k) ⟨[],0⟩ J ⟨by simp,cV _⟩ (fun _=>J) (fun⟨acc,k⟩ hk=>?_)
 try dsimp only at hk⊢
 obtain⟨h1,h2⟩:=hk;have hal:acc.length<=2*E.length:=by
  have q1:=congrArg List.length h1;rw[aM] at q1;omega
 have ham:(acc.map eZ).length=acc.length:=aK ..;refine br J J J (fun hc13=>?_) (fun hc13=>?_)
 .
  obtain⟨f,hx⟩: ∃u,E[k]? =some u:=⟨_,aZ (by omega)⟩;have hf:=hE f (bQ hx);haveI:=hf.fo.lb;haveI:=hf.fo.lo;haveI:=hf.fo.hi;haveI:=xW (p:=p) (i:=i) hf.fo.lb;refine ix _ J (fj hx) J<|cl J (EJ hf (p:=p) (i:=i) hi) J<|?_;refine bb J J J (fun hc19=>?_) (fun hc19=>?_)
  .
   exact at_ ⟨acc,k+1⟩ (by dsimp only;exact⟨⟨by rw[<-h1,xg hx,Oy (by simpa using hc19)];simp,by omega⟩,(by omega)⟩)
  .
   have hha:gz f p=true:=by simpa using hc19
   refine cl J (w5 (l:=f.l) (p:=p) (i:=i) (by omega)) J<|cl J (A6 (l:=f.l)) J<|cl (fu:=⟨12⟩) J (WT (p:=f.l.dir) (i:=97)) J<|?_;refine ak 30 (.d (vB false)) J (by rw[hf.nh]<;>rfl) ?_;refine t8 30 J ?_;refine gx (fu:=⟨0⟩) J<|?_;rcases Classical.em (bO (ck f.l p) f.v.hi<0) with hA|hA
   .
    refine gx J<|cl (fu:=⟨0⟩) J (kh (p:=ck f.l p) (q:=f.v.hi) (i:=2*i+600) (j:=1200) (by omega) (by decide)) J<|mp J (by show some (decide _)=some true;rw[decide_eq_true (by omega)]) J<|?_;refine rf J J<|ap (fu:=⟨8⟩) ((acc++[ci f.l.dir]).map eZ) J (by rw[dZ]<;>rfl) (rF [ci f.l.dir]) J<|?_;refine ak 45 (.d (vB false)) J (by rw[hf.nl]<;>rfl) ?_;refine t8 45 J ?_;refine gx J<|cl J (kh (p:=ck f.l p) (q:=f.v.lo) (i:=2*i+600) (j:=1200) (by omega) (by decide)) J<|?_;refine br J J J (fun hc53=>?_) (fun hc53=>?_)
    .
     refine cl J (IQ (p:=ci f.l.dir) (i:=500)) J<|rf J J<|ap ((acc++[ci f.l.dir]++[bg (ci f.l.dir)]).map eZ) J (by simp only[dZ,fL,jR,kY]<;>rfl) (rF [bg (ci f.l.dir)]) J<|?_;refine ly 58 5 J ?_;exact at_ ⟨acc++[ci f.l.dir]++[bg (ci f.l.dir)],k+1⟩ (by dsimp only;exact⟨⟨by rw[<-h1,xg hx,y8 hf hha,if_pos hA,if_pos (by omega)];simp,by omega⟩,(by omega)⟩)
    .
     refine ly 42 5 J ?_;exact at_ ⟨acc++[ci f.l.dir],k+1⟩ (by dsimp only;exact⟨⟨by rw[<-h1,xg hx,y8 hf hha,if_pos hA,if_neg (by omega)];simp,by omega⟩,(by omega)⟩)
   .
    refine gx J<|cl (fu:=⟨0⟩) J (kh (p:=ck f.l p) (q:=f.v.hi) (i:=2*i+600) (j:=1200) (by omega) (by decide)) J<|oq (fu:=⟨11⟩) J (by show some (decide _)=some false;rw[decide_eq_false (by omega)]) J<|?_;refine ak 45 (.d (vB false)) J (by rw[hf.nl]<;>rfl) ?_;refine t8 45 J ?_;refine gx J<|cl J (kh (p:=ck f.l p) (q:=f.v.lo) (i:=2*i+600) (j:=1200) (by omega) (by decide)) J<|?_;refine br J J J (fun hc53=>?_) (fun hc53=>?_)
    .
     refine cl J (IQ (p:=ci f.l.dir) (i:=500)) J<|rf J J<|ap ((acc++[bg (ci f.l.dir)]).map eZ) J (by simp only[dZ,fL,jR,kY]<;>rfl) (rF [bg (ci f.l.dir)]) J<|?_;refine ly 58 5 J ?_;exact at_ ⟨acc++[bg (ci f.l.dir)],k+1⟩ (by dsimp only;exact⟨⟨by rw[<-h1,xg hx,y8 hf hha,if_neg hA,if_pos (by omega)];simp,by omega⟩,(by omega)⟩)
    .
     exact at_ ⟨acc,k+1⟩ (by dsimp only;exact⟨⟨by rw[<-h1,xg hx,y8 hf hha,if_neg hA,if_neg (by omega)];simp,by omega⟩,(by omega)⟩)
 .
  obtain rfl:k=E.length:=by omega
  have hacc:acc=E.flatMap (gh p):=by rw[jM] at h1;simpa using h1
  refine cq ((iG E p).map eZ) rfl (OW (ds:=acc) (i:=500) (fun d hd=>by rw[hacc] at hd;obtain⟨f,h3,h4⟩:=cS.1 hd;exact Nc (hE f h3) d h4) (by decide) (by omega) (by rw[hacc];exact xv (fun f hf=>(hE f hf).fo.ok) p)) (by rw[hacc]<;>rfl) rfl<|?_;refine n5 61 J ?_;exact rz J J
def yi(p d:aa)(s:Rat):p.add (d.scale s)=bc p d s:=by
 unfold aa.add aa.scale bc;simp only[aa.mk.injEq];constructor<;>grind
def ri(x:Rat×Bool)(s:Rat):Rat×Bool:=if 0<Int.sign s.num/\(x.2=false\/bO s x.1<0) then(s,true) else x
def z6(a b:Rat):ri (ri (0,false) a) b=n7 a b:=by
 unfold ri n7;by_cases ha:0<Int.sign a.num
 ·simp only[ha,true_and,not_true_eq_false,false_or]
  simp
 ·simp only[ha,false_and,if_false,not_false_eq_true,true_or,and_true]
def Bh{b s:Rat}{x:Bool}(h:0<Int.sign s.num)(k:x=false\/bO s b<0):ri (b,x) s=(s,true):=by unfold ri;rw[if_pos ⟨h,k⟩]
def An{b s:Rat}{x:Bool}(h: ¬0<Int.sign s.num\/(x=true/\ ¬bO s b<0)):ri (b,x) s=(b,x):=by
 unfold ri;rw[if_neg];rintro ⟨h1,h2⟩;rcases h with h|⟨h,k⟩
 ·exact h h1
 ·rcases h2 with e|e
  ·rw[h] at e;cases e
  ·exact k e
theorem Ey{m:Nat}(hm:1<=m):BQ (0:Rat) m:=BQ.mono (k:=1) ⟨by decide,by decide⟩ hm
theorem D7{p q:aa}{i j:Nat}(hp:az p i)[az q j]:BQ (p.dot q) (i+j+(i+j)+1):=by
 haveI:=hp;exact inferInstance
theorem Ap{p d q:aa}{i j m:Nat}[az p i][az d j][az q 3000](hm:2*i+6*j+6100<=m):BQ (mO p d q) m:=by
 haveI:=D7 (q:=d) (uV q p (i:=3000) (j:=i));have h:BQ ((⟨q.x-p.x,q.y-p.y⟩:aa).dot d/d.dot d) _:=inferInstance;exact BQ.mono (show BQ (mO p d q) _ from h) (by omega)
def GA{f:aP}{p d:aa}(h:f.l.nor.dot d≠0):fh f p d=(-(f.l.value p/f.l.nor.dot d),decide (0<Int.sign (-(f.l.value p/f.l.nor.dot d)).num)&&oh f.v (ck f.l (bc p d (-(f.l.value p/f.l.nor.dot d))))):=by unfold fh;rw[if_neg h]
def Rd{f:aP}{p d:aa}(h:f.l.nor.dot d=0)(k:f.l.value p=0):fh f p d=n7 (mO p d (f.l.at f.v.lo)) (mO p d (f.l.at f.v.hi)):=by unfold fh;rw[if_pos h,if_pos k]
def Ot{f:aP}{p d:aa}(h:f.l.nor.dot d=0)(k:f.l.value p≠0):fh f p d=(0,false):=by unfold fh;rw[if_pos h,if_neg k]
def QX{f:aP}(hf:FE f){p d:aa}{i j:Nat}[hp:az p i][hd:az d j](hi:i<=30000:=by decide)(hj:j<=10000:=by decide):PF GB prog 287 [cp f,eZ p,eZ d] (.tp [eF (fh f p d).1,vB (fh f p d).2]):=by
 haveI:=hf.fo.lb;haveI:=hf.fo.lo;haveI:=hf.fo.hi;obtain⟨k0,hk0⟩: ∃k0,k0=f.l.nor.dot d:=⟨_,rfl⟩;obtain⟨c0,hc0⟩: ∃c0,c0=f.l.value p:=⟨_,rfl⟩;haveI:BQ k0 (2*j+600):=by rw[hk0];exact BQ.mono (inferInstance:BQ (f.l.nor.dot d) _) (by omega)
 haveI:BQ c0 (2*i+900):=by rw[hc0];exact BQ.mono (inferInstance:BQ (f.l.value p) _) (by omega)
 obtain⟨s,hs⟩: ∃s,s= -(c0/k0):=⟨_,rfl⟩;haveI:BQ (c0/k0) (2*i+2*j+1500):=BQ.mono (inferInstance:BQ (c0/k0) _) (by omega);haveI:BQ s (2*i+2*j+1500):=by rw[hs];exact inferInstance
 haveI:az (bc p d s) (3*i+3*j+1600):=by rw[<-yi];exact az.mono (inferInstance:az (p.add (d.scale s)) _) (by omega)
 obtain⟨qz,hslo⟩: ∃s,s=mO p d (f.l.at f.v.lo):=⟨_,rfl⟩;obtain⟨shi,hshi⟩: ∃s,s=mO p d (f.l.at f.v.hi):=⟨_,rfl⟩;haveI:az (f.l.at f.v.hi) 3000:=u' hf.fo.lb hf.fo.hi;haveI:az (f.l.at f.v.lo) 3000:=u' hf.fo.lb hf.fo.lo;haveI:BQ qz (2*i+6*j+9000):=by rw[hslo];exact Ap (by omega)
 haveI:BQ shi (2*i+6*j+9000):=by rw[hshi];exact Ap (by omega)
 haveI:BQ f.v.lo (6*i+6*j+4000):=hf.fo.lo.mono (by omega);haveI:BQ f.v.hi (6*i+6*j+4000):=hf.fo.hi.mono (by omega);haveI:BQ (ck f.l (bc p d s)) (6*i+6*j+4000):=(xW (p:=bc p d s) (i:=3*i+3*j+1600) hf.fo.lb).mono (by omega);refine fn func287 J J ntmps287 J J (fun C=>?_);refine cl J (Ck (l:=f.l)) J<|cl (fu:=⟨0⟩) J (pB (p:=f.l.nor) (q:=d) (i:=97) (j:=j) (by decide) (by omega)) J<|?_;refine ak 22 (.d (eF k0)) J (by rw[hk0]) ?_;refine gx J<|cl (fu:=⟨0⟩) J (LG (l:=f.l) (p:=p) (i:=i) (by omega)) J<|?_;refine ak 26 (.d (eF c0)) J (by rw[hc0]) ?_;refine gx J<|cl J (A' (q:=k0)) J<|?_;refine bb J J J (fun hc29=>?_) (fun hc29=>?_)
 .
  have hkn:f.l.nor.dot d≠0:=by rw[<-hk0];simpa using hc29
  refine cl J (wN (p:=c0) (q:=k0) (i:=2*i+900) (j:=2*j+600) (by omega) (by omega)) J<|cl (fu:=⟨0⟩) J (sk (q:=c0/k0) (i:=2*i+2*j+1500) (by omega)) J<|?_;refine ak 33 (.d (eF s)) J (by rw[hs]) ?_;refine gx J<|cl (fu:=⟨0⟩) J (lm (q:=s) (i:=2*i+2*j+1500) (by omega)) J<|?_;refine uH (v2:=fun hg37=>by simp only[ah];kernel_rfl) J J J J (fun hg37=>?_) (fun hg37=>?_)
  .
   refine cl J (wc (p:=d) (c:=s) (i:=j) (j:=2*i+2*j+1500) (by omega) (by omega)) J<|cl (fu:=⟨0⟩) J (zb (p:=p) (q:=d.scale s) (i:=i) (j:=j+(2*i+2*j+1500)) (by omega) (by omega)) J<|?_;refine ak 47 (.d (eZ (bc p d s))) J (by rw[yi]) ?_;refine gx J<|cl J (w5 (l:=f.l) (p:=bc p d s) (i:=3*i+3*j+1600) (by omega)) J<|cl J (GO (v:=f.v) (t:=ck f.l (bc p d s)) (i:=6*i+6*j+4000) (by omega)) J<|?_;exact rz J (by rw[GA hkn,<-hk0,<-hc0,<-hs];show DV.tp [_, .v (.bool _)]= .tp [_, .v (.bool _)];simp only[hg37,decide_true,Bool.true_and];rfl)
  .
   exact rz J (by rw[GA hkn,<-hk0,<-hc0,<-hs];show DV.tp [_, .v (.bool _)]= .tp [_, .v (.bool _)];simp only[hg37,decide_false,Bool.false_and];rfl)
 .
  have hkz:f.l.nor.dot d=0:=by rw[<-hk0];simpa using hc29
  refine cl J (A' (q:=c0)) J<|?_;refine bb (fu1:=⟨3⟩) (fu2:=⟨16⟩) J J J (fun hc53=>?_) (fun hc53=>?_)
  .
   have hcn:f.l.value p≠0:=by rw[<-hc0];simpa using hc53
   refine W9 54 J ?_;refine gx J<|?_;exact rz J (by rw[Ot hkz hcn];rfl)
  .
   have hcz:f.l.value p=0:=by rw[<-hc0];simpa using hc53
   refine uY (fu:=⟨1⟩) (rp f) J (fun G y hy=>ui hf.sm hy) J<|uY (fu:=⟨0⟩) (rp f) J (fun G y hy=>ui hf.sm hy) J<|Wo (fu:=⟨1⟩) (i:=⟨.o,1,some [.d (.v .nilFunc)],false⟩) (z:= .v .nilFunc) J (by kernel_rfl) J J J<|?_;refine ak 60 (.d (vI 2)) J J ?_;refine gx J<|?_;refine Db 12 _ J J ?_;refine Wa 11 [vI (dt 0),vI (dz 0),di 0] rfl (fun G m=>zF) J ?_;refine lp (X:=Nat×Rat×Bool) (fun⟨t,bst,fnd⟩=>[(61, .d (vI (t:Nat))),(12, .d (vB fnd)),(11, .ov 11 0)]) (fun⟨t,bst,fnd⟩=>[(11,some (.o 139 [.d (vI (dt bst)), .d (vI (dz bst)), .d (di bst)] true))]) (fun⟨t,bst,fnd⟩=>t<=2/\BQ bst (2*i+6*j+9000)/\(t=0->(bst,fnd)=(0,false))/\(t=1->(bst,fnd)=ri (0,false) qz)/\(t=2->(bst,fnd)=n7 qz shi)) (fun⟨t,bst,fnd⟩=>2-t) ⟨0,0,false⟩ J ⟨by omega,Ey (by omega),fun _=>J,fun e=>by omega,fun e=>by omega⟩ (fun _=>J) (fun⟨t,bst,fnd⟩ hk=>?_)
   try dsimp only at hk⊢
   obtain⟨hk2,hbb,q0,q1,q2⟩:=hk;haveI:=hbb;refine br (fu1:=⟨6⟩) J J J (fun hc62=>?_) (fun hc62=>?_)
   .
    rcases(show t=0\/t=1 by omega) with rfl|rfl
    .
     refine gx J<|ix (fu:=⟨0⟩) _ J J J<|J2 (fu:=⟨6⟩) J J J J J J<|qC (ds1:=[cp f]) (ds2:=[]) J (.cons (uL hf.sm) (cG.2 J)) (cG.2 J) (Dk hf) J<|?_;refine cl J (BH (p:=f.l.at f.v.lo) (q:=p) (i:=3000) (j:=i) (by decide) (by omega)) J<|cl J (pB (p:=⟨(f.l.at f.v.lo).x-p.x,(f.l.at f.v.lo).y-p.y⟩) (q:=d) (i:=3000+i+1) (j:=j) (hp:=uV _ _) (by omega) (by omega)) J<|?_;refine cl J (pB (p:=d) (q:=d) (i:=j) (j:=j) (by omega) (by omega)) J<|cl (fu:=⟨0⟩) J (wN (p:=(⟨(f.l.at f.v.lo).x-p.x,(f.l.at f.v.lo).y-p.y⟩:aa).dot d) (q:=d.dot d) (i:=3000+i+1+j+(3000+i+1+j)+1) (j:=j+j+(j+j)+1) (h:=D7 (uV _ _)) (by omega) (by omega)) J<|?_;refine ak 78 (.d (eF qz)) J (by rw[hslo];rfl) ?_;refine gx (fu:=⟨8⟩) J<|?_;refine oc 80 J ?_;refine gx J<|cl J (lm (q:=qz) (i:=(2*i+6*j+9000)) (by omega)) J<|?_;refine cs 85 J J J (fun hg85=>?_) (fun hg85=>?_)
     .
      refine l7 88 J J J (fun hg88=>?_) (fun hg88=>?_)
      .
       refine vz 12 _ J J ?_;exact at_ ⟨0+1,qz,true⟩ (by dsimp only;exact⟨⟨by omega,by first|exact inferInstance|assumption,fun e=>by omega,fun _=>by rw[<-q0 J];exact(Bh hg85 (.inl (by simpa using hg88))).symm,fun e=>by omega⟩,(by omega)⟩)
      .
       refine cl J (kh (p:=qz) (q:=bst) (i:=(2*i+6*j+9000)) (j:=(2*i+6*j+9000)) (by omega) (by omega)) J<|?_;refine br J J J (fun hc94=>?_) (fun hc94=>?_)
       .
        refine vz 12 _ J J ?_;exact at_ ⟨0+1,qz,true⟩ (by dsimp only;exact⟨⟨by omega,by first|exact inferInstance|assumption,fun e=>by omega,fun _=>by rw[<-q0 J];exact(Bh hg85 (.inr hc94)).symm,fun e=>by omega⟩,(by omega)⟩)
       .
        exact at_ ⟨0+1,bst,fnd⟩ (by dsimp only;exact⟨⟨by omega,by first|exact inferInstance|assumption,fun e=>by omega,fun _=>by rw[<-q0 J];exact(An (.inr ⟨by simpa using hg88,hc94⟩)).symm,fun e=>by omega⟩,(by omega)⟩)
     .
      exact at_ ⟨0+1,bst,fnd⟩ (by dsimp only;exact⟨⟨by omega,by first|exact inferInstance|assumption,fun e=>by omega,fun _=>by rw[<-q0 J];exact(An (.inl hg85)).symm,fun e=>by omega⟩,(by omega)⟩)
    .
     refine gx J<|ix (fu:=⟨0⟩) _ J J J<|J2 (fu:=⟨6⟩) J J J J J J<|qC (ds1:=[cp f]) (ds2:=[]) J (.cons (uL hf.sm) (cG.2 J)) (cG.2 J) (B8 hf) J<|?_;refine cl J (BH (p:=f.l.at f.v.hi) (q:=p) (i:=3000) (j:=i) (by decide) (by omega)) J<|cl J (pB (p:=⟨(f.l.at f.v.hi).x-p.x,(f.l.at f.v.hi).y-p.y⟩) (q:=d) (i:=3000+i+1) (j:=j) (hp:=uV _ _) (by omega) (by omega)) J<|?_;refine cl J (pB (p:=d) (q:=d) (i:=j) (j:=j) (by omega) (by omega)) J<|cl (fu:=⟨0⟩) J (wN (p:=(⟨(f.l.at f.v.hi).x-p.x,(f.l.at f.v.hi).y-p.y⟩:aa).dot d) (q:=d.dot d) (i:=3000+i+1+j+(3000+i+1+j)+1) (j:=j+j+(j+j)+1) (h:=D7 (uV _ _)) (by omega) (by omega)) J<|?_;refine ak 78 (.d (eF shi)) J (by rw[hshi];rfl) ?_;refine gx (fu:=⟨8⟩) J<|?_;refine oc 80 J ?_;refine gx J<|cl J (lm (q:=shi) (i:=(2*i+6*j+9000)) (by omega)) J<|?_;refine cs 85 J J J (fun hg85=>?_) (fun hg85=>?_)
     .
      refine l7 88 J J J (fun hg88=>?_) (fun hg88=>?_)
      .
       refine vz 12 _ J J ?_;exact at_ ⟨1+1,shi,true⟩ (by dsimp only;exact⟨⟨by omega,by first|exact inferInstance|assumption,fun e=>by omega,fun e=>by omega,fun _=>by rw[<-z6,<-q1 J];exact(Bh hg85 (.inl (by simpa using hg88))).symm⟩,(by omega)⟩)
      .
       refine cl J (kh (p:=shi) (q:=bst) (i:=(2*i+6*j+9000)) (j:=(2*i+6*j+9000)) (by omega) (by omega)) J<|?_;refine br J J J (fun hc94=>?_) (fun hc94=>?_)
       .
        refine vz 12 _ J J ?_;exact at_ ⟨1+1,shi,true⟩ (by dsimp only;exact⟨⟨by omega,by first|exact inferInstance|assumption,fun e=>by omega,fun e=>by omega,fun _=>by rw[<-z6,<-q1 J];exact(Bh hg85 (.inr hc94)).symm⟩,(by omega)⟩)
       .
        exact at_ ⟨1+1,bst,fnd⟩ (by dsimp only;exact⟨⟨by omega,by first|exact inferInstance|assumption,fun e=>by omega,fun e=>by omega,fun _=>by rw[<-z6,<-q1 J];exact(An (.inr ⟨by simpa using hg88,hc94⟩)).symm⟩,(by omega)⟩)
     .
      exact at_ ⟨1+1,bst,fnd⟩ (by dsimp only;exact⟨⟨by omega,by first|exact inferInstance|assumption,fun e=>by omega,fun e=>by omega,fun _=>by rw[<-z6,<-q1 J];exact(An (.inl hg85)).symm⟩,(by omega)⟩)
   .
    obtain rfl:t=2:=by omega
    exact rz J (by rw[Rd hkz hcz,<-hslo,<-hshi,<-q2 J];rfl)
theorem Fd{E:List aP}(hE: ∀f∈E,FE f)(p:aa): ∀d∈iG E p,az d 500:=fun d hd=>by
 obtain⟨f,h3,h4⟩:=cS.1 ((zk (xv (fun f hf=>(hE f hf).fo.ok) p) d).1 hd);exact Nc (hE f h3) d h4
def Hi(E:List aP)(p:aa):(iG E p).length<=2*E.length:=by
 have h1:=B5 p E;have h2:=E8 cA (E.flatMap (gh p)) [];show((E.flatMap (gh p)).foldl (fun out x=>dF cA x out) []).length<=_;simp only[jW] at h2;omega
theorem Hu{f:aP}(hf:FE f){p d:aa}{i j:Nat}[hp:az p i][hd:az d j]:BQ (fh f p d).1 (2*i+6*j+9000):=by
 haveI:=hf.fo.lb;haveI:az (f.l.at f.v.hi) 3000:=u' hf.fo.lb hf.fo.hi;haveI:az (f.l.at f.v.lo) 3000:=u' hf.fo.lb hf.fo.lo;unfold fh;split
 ·split
  ·unfold n7
   split
   ·exact Ap (by omega)
   ·split
    ·exact Ap (by omega)
    ·exact Ey (by omega)
  ·exact Ey (by omega)
 ·exact BQ.mono (inferInstance:BQ (-(f.l.value p/f.l.nor.dot d)) _) (by omega)
theorem Hj{f:aP}(hf:FE f){p d:aa}{i j:Nat}[hp:az p i][hd:az d j]{s:Rat}(hs:BQ s (2*i+6*j+9000)):BQ (gD p d s f) (2*i+6*j+9000):=by
 unfold gD;split
 ·exact hs
 ·split
  ·split
   ·exact Hu hf
   ·exact hs
  ·exact hs
def EF{E:List aP}{p d:aa}{k:Nat}{f:aP}(h:E[k]? =some f)(s:Rat):(E.take (k+1)).foldl (gD p d) s=gD p d ((E.take k).foldl (gD p d) s) f:=by
 rw[dL,h,List.foldl_append];rfl
def RW{L:List aa}{g:aa->aa}{k:Nat}{l:aa}(h:L[k]? =some l):(((L.take k).map g).map eZ)++[eZ (g l)]=((L.take (k+1)).map g).map eZ:=by
 rw[dL,h];simp
theorem L3{m:Nat}(hm:3<=m):BQ (1:Rat) m:=BQ.mono (k:=3) ⟨by decide,by decide⟩ hm
theorem VL{E:List aP}(hE: ∀f∈E,FE f){p d:aa}{i j:Nat}[hp:az p i][hd:az d j]:az (kt E p d) (3*i+7*j+9010):=by
 have key: ∀(E:List aP),(∀f∈E,FE f)-> ∀s,BQ s (2*i+6*j+9000)->BQ (E.foldl (gD p d) s) (2*i+6*j+9000):=by
  intro E
  induction E with
  |nil=>intro _ s h;exact h
  |cons f E ih=>intro hE s h;exact ih (fun g hg=>hE g (aJ _ hg)) _ (Hj (hE f aQ) h)
 haveI:=key E hE 1 (L3 (by omega));unfold kt;rw[<-yi];exact az.mono (inferInstance:az (p.add (d.scale (E.foldl (gD p d) 1*mkRat 1 2))) _) (by omega)
def Sl{E:List aP}(hE: ∀f∈E,FE f)(hn:E.length<=100000){p:aa}{i:Nat}[hp:az p i](hi:i<=20000:=by decide):PF GB prog 196 [.sl (E.map cp),eZ p] (.sl (((eG (iG E p)).map (kt E p)).map eZ)):=by
 have hml:(E.map cp).length=E.length:=aK ..;have hrl:=Hi E p;obtain⟨W,hW⟩: ∃W,W=eG (iG E p):=⟨_,rfl⟩;have hWl:W.length<=(iG E p).length+1:=by rw[hW];exact My _
 have hWb: ∀d∈W,az d 1001:=fun d hd=>by rw[hW] at hd;exact LU (Fd hE p) (by decide) d hd
 have hwm:(W.map eZ).length=W.length:=aK ..;rw[<-hW];refine fn func196 J J ntmps196 J J (fun C=>?_);refine cl J (Wc hE hn (p:=p) (i:=i) (by omega)) J<|cl (fu:=⟨0⟩) J (Qf (ds:=iG E p) (i:=500) (Fd hE p) (by omega)) J<|?_;refine ak 16 (.d (.sl (W.map eZ))) J (by rw[hW]) ?_;refine gx (fu:=⟨1⟩) J<|?_;refine ak 17 (.d (vI (W.length:Nat))) J (by rw[hwm]<;>rfl) ?_;refine gx J<|?_;refine nr 5 5 141 6 J J J ?_;refine lp (X:=Nat) (fun k=>[(18, .d (vI (k:Nat))),(5, .rw 5)]) (fun k=>[(5,some (.b 141 6 (((W.take k).map (kt E p)).map eZ) true))]) (fun k=>k<=W.length) (fun k=>W.length-k) 0 J (cV _) (fun _=>J) (fun k hk=>?_);have hm3:(((W.take k).map (kt E p)).map eZ).length<=k:=by rw[aK,aK,cZ];omega
 refine br J J J (fun hc19=>?_) (fun hc19=>?_)
 .
  obtain⟨d,hx⟩: ∃u,W[k]? =some u:=⟨_,aZ (by omega)⟩;haveI:=hWb d (bQ hx);have hko:=hk;refine ix _ J (fj hx) J<|cl (fu:=⟨0⟩) J (xe (m:=1) (by decide)) J<|?_;refine ak 22 (.d (eF 1)) J J ?_;refine gx (fu:=⟨9⟩) J<|?_;refine ak 24 (.d (vI (E.length:Nat))) J (by rw[hml]<;>rfl) ?_;refine gx J<|?_;refine lp (X:=Nat×Rat) (fun⟨t,s⟩=>[(25, .d (vI (t:Nat))),(8, .ov 8 0)]) (fun⟨t,s⟩=>[(8,some (.o 139 [.d (vI (dt s)), .d (vI (dz s)), .d (di s)] true))]) (fun⟨t,s⟩=>t<=E.length/\s=(E.take t).foldl (gD p d) 1/\BQ s (2*i+6*1001+9000)) (fun⟨t,s⟩=>E.length-t) ⟨0,1⟩ J ⟨cV _,J,L3 (by omega)⟩ (fun _=>J) (fun⟨t,s⟩ hk=>?_)
  try dsimp only at hk⊢
  obtain⟨g1,g2,g3⟩:=hk;haveI:=g3;refine br J J J (fun hc26=>?_) (fun hc26=>?_)
  .
   obtain⟨f,hx2⟩: ∃u,E[t]? =some u:=⟨_,aZ (by omega)⟩;have hf:=hE f (bQ hx2);haveI:=Hu hf (p:=p) (d:=d) (i:=i) (j:=1001);refine ix _ J (fj hx2) J<|cl J (EJ hf (p:=p) (i:=i) (by omega)) J<|?_;refine bb J J J (fun hc31=>?_) (fun hc31=>?_)
   .
    exact at_ ⟨t+1,s⟩ (by dsimp only;exact⟨⟨by omega,by rw[EF hx2,<-g2];unfold gD;rw[if_pos hc31],g3⟩,(by omega)⟩)
   .
    refine cl J (QX hf (p:=p) (d:=d) (i:=i) (j:=1001) (by omega) (by decide)) J<|?_;refine bb J J J (fun hc39=>?_) (fun hc39=>?_)
    .
     refine cl J (VS (p:=s) (q:=(fh f p d).1) (i:=(2*i+6*1001+9000)) (j:=(2*i+6*1001+9000)) (by omega) (by omega)) J<|?_;exact at_ ⟨t+1,if(fh f p d).1<s then(fh f p d).1 else s⟩ (by dsimp only;exact⟨⟨by omega,by rw[EF hx2,<-g2];unfold gD;simp[show gz f p=false by simpa using hc31,hc39],by have h9:=Hj hf (p:=p) (d:=d) (i:=i) (j:=1001) g3;unfold gD at h9;simpa[show gz f p=false by simpa using hc31,hc39] using h9⟩,(by omega)⟩)
    .
     exact at_ ⟨t+1,s⟩ (by dsimp only;exact⟨⟨by omega,by rw[EF hx2,<-g2];unfold gD;simp[show(fh f p d).2=false by simpa using hc39],g3⟩,(by omega)⟩)
  .
   obtain rfl:t=E.length:=by omega
   rw[fY] at g2;refine cl J (S0 (q:=s) (i:=(2*i+6*1001+9000)) (by omega)) J<|cl J (wc (p:=d) (c:=s*mkRat 1 2) (i:=1001) (j:=(2*i+6*1001+9000)+2) (by decide) (by omega)) J<|?_;refine cl (fu:=⟨0⟩) J (zb (p:=p) (q:=d.scale (s*mkRat 1 2)) (i:=i) (j:=1001+((2*i+6*1001+9000)+2)) (by omega) (by omega)) J<|?_;refine ak 50 (.d (eZ (kt E p d))) J (by rw[yi,g2];rfl) ?_;refine gx J<|rf J J<|ap (hv:=by simp only[ah];exact⟨by kernel_rfl,by omega⟩) (((W.take (k+1)).map (kt E p)).map eZ) J (RW hx) (rF [kt E p d]) J<|?_;refine ly 52 5 J ?_;exact at_ (k+1) ⟨(by omega),(by omega)⟩
 .
  obtain rfl:k=W.length:=by omega
  rw[fY];refine n5 5 J ?_;exact rz J J
def Nv{W:List aa}{g:aa->Bool}{k:Nat}{d:aa}(h:W[k]? =some d):(W.take (k+1)).any g=((W.take k).any g||g d):=by
 rw[dL,h,List.any_append];simp
def N'{W:List aa}{g:aa->Bool}{k:Nat}{d:aa}(h:W[k]? =some d):(W.take (k+1)).all g=((W.take k).all g&&g d):=by
 rw[dL,h,List.all_append];simp
def Hd{E:List aP}(hE: ∀f∈E,FE f)(hn:E.length<=100000){p:aa}{i:Nat}[hp:az p i](hi:i<=20000){f:FuncId}{c2:List Value}{ds2:List DV}(hc:IsLs GB ds2 c2){acc:aa->Bool}(hF: ∀q,az q 80000->PF GB prog f (eZ q::ds2) (vB (acc q))):PF GB prog 109 [.sl (E.map cp),eZ p, .v (.func (.func f) ⟨[]⟩ ⟨c2⟩)] (vI (pw E p acc)):=by
 obtain⟨W,hW⟩: ∃W,W=(eG (iG E p)).map (kt E p):=⟨_,rfl⟩;have hwm:(W.map eZ).length=W.length:=aK ..;have hrl:=Hi E p;have hsl:=My (iG E p);have hWl:W.length=(eG (iG E p)).length:=by rw[hW,aK]
 have hWb: ∀q∈W,az q 80000:=fun q hq=>by
  rw[hW] at hq;obtain⟨d,hd,rfl⟩:=bX.1 hq;haveI:=LU (Fd hE p) (by decide) d hd;exact(VL hE (p:=p) (d:=d) (i:=i) (j:=1001)).mono (by omega)
 have hcl:pw E p acc=if(W.any acc&&W.all acc) then 2 else if W.any acc then 1 else 0:=by
  unfold pw;rw[hW,List.any_map,List.all_map];rfl
 refine fn func109 J J ntmps109 J J (fun C=>?_);refine cl (fu:=⟨0⟩) J (Sl hE hn (p:=p) (i:=i) hi) J<|?_;refine ak 13 (.d (.sl (W.map eZ))) J (by rw[hW]) ?_;refine gx (fu:=⟨1⟩) J<|?_;refine ak 14 (.d (vI (W.length:Nat))) J (by rw[hwm]<;>rfl) ?_;refine gx J<|?_;refine Db 7 _ J J ?_;refine Db 8 _ J J ?_;refine lp (X:=Nat) (fun k=>[(15, .d (vI (k:Nat))),(7, .d (vB ((W.take k).any acc))),(8, .d (vB ((W.take k).all acc)))]) (fun k=>[]) (fun k=>k<=W.length) (fun k=>W.length-k) 0 J (cV _) (fun _=>J) (fun k hk=>?_);refine br J J J (fun hc16=>?_) (fun hc16=>?_)
 .
  obtain⟨q,hx⟩: ∃u,W[k]? =some u:=⟨_,aZ (by omega)⟩;haveI:=hWb q (bQ hx);refine ix (fu:=⟨9⟩) _ J (fj hx) J<|qC (ds1:=[]) (ds2:=ds2) J (cG.2 J) hc (hF q (hWb q (bQ hx))) J<|?_;refine bb J J J (fun hc21=>?_) (fun hc21=>?_)
  .
   refine vz 7 _ J J ?_;refine ak 7 (.d (vB ((W.take (k+1)).any acc))) J (by rw[Nv hx,hc21,Bool.or_true]<;>rfl) ?_;refine ak 8 (.d (vB ((W.take (k+1)).all acc))) J (by rw[N' hx,hc21,Bool.and_true]<;>rfl) ?_;exact at_ (k+1) ⟨(by omega),(by omega)⟩
  .
   refine vz 8 _ J J ?_;refine ak 7 (.d (vB ((W.take (k+1)).any acc))) J (by rw[Nv hx,hc21,Bool.or_false]<;>rfl) ?_;refine ak 8 (.d (vB ((W.take (k+1)).all acc))) J (by rw[N' hx,hc21,Bool.and_false]<;>rfl) ?_;exact at_ (k+1) ⟨(by omega),(by omega)⟩
 .
  obtain rfl:k=W.length:=by omega
  rw[fY];refine cl J (TG (b:=W.any acc) (c:=W.all acc)) J<|?_;exact rz J (by rw[hcl];rfl)
def K8{C:aA}{n:Nat}{Q0:Exit->Act->World->Prop}{fr:ao}{own:aC}{ops:Array Oper}{r:List Oper}{K:List Kt}(k:Nat){d:DV}{pv:Value}(hl:aE fr k=some (.d (.v pv)))(hp:Is GB d pv)(h:aj prog GB C n Q0 ((k, .d d)::fr) own (.ops ops r K)):aj prog GB C n Q0 fr own (.ops ops r K):=by
 refine⟨fun ρ G ov a w r0=>?_⟩;obtain⟨y,hy,hy'⟩:=r0.fx k _ hl;obtain rfl:=(bt (G:=G)).1 hy';refine h.run ρ G ov a w ⟨r0.gb,r0.h,r0.sz,r0.df,fun j f e=>?_,r0.bx,r0.dj,r0.fxd⟩;rw[gI] at e;split at e
 ·rename_i hj
  cases e;subst hj
  exact⟨y,hy,hp.up r0.gb⟩
 ·exact r0.fx j f e
def Gq{E:List aP}(hE: ∀f∈E,FE f)(hn:E.length<=100000){fill:Int}{q:aa}{i:Nat}[hq:az q i](hi:i<=80000):PF GB prog 108 [eZ q, .pt [vI fill], .pt [.sl (E.map cp)]] (vB (gH fill (eB E q))):=by
 refine fn (fu:=⟨3⟩) func108 J J ntmps108 J J (fun C=>?_);refine uP 1 J<|uP 2 J<|gx J<|cl J (MR hE (by omega) (p:=q) (i:=i) (by omega)) J<|cl J (Ux (fill:=fill) (n:=eB E q)) J<|?_;exact rz J J
def vi{rs:List (List ZP)}(h: ∀r∈rs,f7 r)(hn:rs.length<=200){fill:Int}(hfill:fill=1\/fill=2){p:aa}{i:Nat}[hp:az p i](hi:i<=20000):PF GB prog 37 [.sl (rs.map jj),vI fill,je p] (.tp [vI (pw (bH rs) p fun q=>gH fill (eB (bH rs) q)), .v .nilIface]):=by
 have hel:=IT h hn;have hfe:=Nn fun r hr=>(h r hr).ok;refine fn func37 J J ntmps37 J J (fun C=>?_);refine cl (fu:=⟨13⟩) J (LA h hn) J<|oq J J J<|?_;refine cs (fu2:=⟨12⟩) 23 J J J (fun hg23=>?_) (fun hg23=>?_)
 .
  refine br (fu2:=⟨5⟩) J J J (fun hc20=>?_) (fun hc20=>?_)
  .
   exact absurd hfill (by omega)
  .
   refine fz 4 J J<|fz 8 J J ?_;refine ul 4 J (fun GB1 pv1 hg1 hp1=>?_);refine ul 8 J (fun GB2 pv2 hg2 hp2=>?_);refine HJ (fu:=⟨0⟩) J J ?_;refine K8 8 J hp2<|uP 8 J<|gx J ?_;refine cl J (x5 (p:=p) (i:=i) (by omega)) J ?_;refine cl J (Hd hfe (by omega) (p:=p) (i:=i) (by omega) (f:=108) (c2:=[pv1,pv2]) (ds2:=[.pt [vI fill], .pt [.sl ((bH rs).map cp)]]) (.cons (hp1.up hg2) (.cons hp2 (cG.2 J))) (acc:=fun q=>gH fill (eB (bH rs) q)) (fun q hq=>Gq hfe (by omega) (by decide))) J ?_;exact rz J J
 .
  refine fz 4 J J<|fz 8 J J ?_;refine ul 4 J (fun GB1 pv1 hg1 hp1=>?_);refine ul 8 J (fun GB2 pv2 hg2 hp2=>?_);refine HJ (fu:=⟨0⟩) J J ?_;refine K8 8 J hp2<|uP 8 J<|gx J ?_;refine cl J (x5 (p:=p) (i:=i) (by omega)) J ?_;refine cl J (Hd hfe (by omega) (p:=p) (i:=i) (by omega) (f:=108) (c2:=[pv1,pv2]) (ds2:=[.pt [vI fill], .pt [.sl ((bH rs).map cp)]]) (.cons (hp1.up hg2) (.cons hp2 (cG.2 J))) (acc:=fun q=>gH fill (eB (bH rs) q)) (fun q hq=>Gq hfe (by omega) (by decide))) J ?_;exact rz J J
def rO:List ZP:=pq 0 0 2 2
def GU: ∀r∈[rO],f7 r:=fun r hr=>by
 rw[aW.1 hr];exact⟨Hn (by decide) (by decide) (by decide) (by decide) (by decide) (by decide),by decide+kernel⟩
def X':IC [rO] (iP 1 1)=false:=by decide+kernel
def O0:eB (bH [rO]) (iP 1 1)=1:=by decide+kernel
def XI:pw (bH [rO]) (iP 1 0) (fun q=>gH 2 (eB (bH [rO]) q))=1:=by decide+kernel
theorem TZ: ∀p∈[iP 0 0,iP 2 0,iP 2 2,iP 0 2],az p 1200:=fun p hp=>by
 simp only[aU,jN,or_false] at hp;rcases hp with rfl|rfl|rfl|rfl<;>exact⟨BQ.int1200 (by decide),BQ.int1200 (by decide)⟩
def So:PF GB prog 38 [] (.v (.bool true)):=by
 haveI:az (iP 1 1) 22:=⟨gw (by decide),gw (by decide)⟩;haveI:az (iP 1 0) 22:=⟨gw (by decide),gw (by decide)⟩;refine fn func38 J J ntmps38 J J (fun C=>?_);refine cl J (kd (m:=0) (n:=0) (by decide) (by decide)) J<|cl J (kd (m:=2) (n:=0) (by decide) (by decide)) J<|cl J (kd (m:=2) (n:=2) (by decide) (by decide)) J<|?_;refine cl J (kd (m:=0) (n:=2) (by decide) (by decide)) J<|rf (fu:=⟨0⟩) J J<|?_;refine ak 10 (.d (.sl ([iP 0 0,iP 2 0,iP 2 2,iP 0 2].map eP))) J J ?_;refine gx J<|cl J (LW (ps:=[iP 0 0,iP 2 0,iP 2 2,iP 0 2]) TZ (by decide)) J<|rf (fu:=⟨0⟩) J J<|?_;refine ak 12 (.d (.sl ([rO].map jj))) J J ?_;refine gx J<|cl J (HF (m:=1) (n:=1) (by decide) (by decide)) J<|cl (fu:=⟨0⟩) J (WK (rs:=[rO]) GU (by decide) (p:=iP 1 1) (i:=22) X' (by decide)) J<|?_;refine ak 16 (.d (.tp [vI 1, .v .nilIface])) J (by rw[O0]) ?_;refine gx J<|cl J (HF (m:=1) (n:=0) (by decide) (by decide)) J<|cl (fu:=⟨0⟩) J (vi (rs:=[rO]) GU (by decide) (fill:=2) (.inr J) (p:=iP 1 0) (i:=22) (by decide)) J<|?_;refine ak 22 (.d (.tp [vI 1, .v .nilIface])) J (by rw[XI]) ?_;refine gx (fu:=⟨10⟩) J<|mp (fu:=⟨2⟩) J J J<|mp (fu:=⟨3⟩) J J J<|mp (fu:=⟨3⟩) J J J<|mp J J J<|?_;exact rz J J
structure ZU (r:List ZP):Prop where
 ok:b9 r
 cen: ∃c:aa,∀f∈r7 r,0<cj f.1 f.2 c
 one: ∀p,(∀f∈r7 r,0<cj f.1 f.2 p)->e8 r p=1
 zer: ∀p,(∃f∈r7 r,cj f.1 f.2 p<0)->e8 r p=0
 cvx: ∀f∈r7 r,∀g∈r7 r,0<=cj f.1 f.2 g.1/\0<=cj f.1 f.2 g.2
 onE: ∀p,(∀f∈r7 r,0<=cj f.1 f.2 p)-> ∀f∈r7 r,cj f.1 f.2 p=0->gl f.1 f.2 p
def OZ(r:List ZP)(fill:Int)(p:aa):dE [r] fill p=gH fill (e8 r p):=by
 unfold dE;simp
section
variable {r:List ZP} {p:aa}
end
def wS(x y O:Rat):Int:=(if x<=0/\ ¬y<=0/\0<O then 1 else 0)-(if¬x<=0/\y<=0/\O<0 then 1 else 0)
def Rr(r:List ZP)(p:aa):Nat->Bool
 |0=>true
 |k+1=>Rr r p k&&decide (0<=ru (r.getD k (0,0)).q (de r k).q p)
def WR(r:List ZP)(p:aa):Nat->Bool
 |0=>false
 |k+1=>WR r p k||decide (ru (r.getD k (0,0)).q (de r k).q p=0)
def Qa{rs:List (List ZP)}(hr: ∀r∈rs,b9 r)(fill:Int):(fun q=>gH fill (eB (bH rs) q))=dE rs fill:=by
 funext q;rw[Kf hr];rfl
def FC{rs:List (List ZP)}(hr: ∀r∈rs,b9 r)(fill:Int)(p:aa):(pw (bH rs) p fun q=>gH fill (eB (bH rs) q))=gy (d4 rs fill) p:=by
 rw[Qa hr];exact XG hr (I8 (ls:=xi rs) fun l hl=>by
  obtain⟨f,hf,rfl⟩:=bX.1 hl;exact((qr hr).2 f hf).ok) (N0 hr fun f hf=>iT hf)
def VX{a:aa}{t:List aa}:jx (a::t) a=((0:Nat):Int):=Bg (k:=0) (q:=a) J J ⟨J,J⟩
def WZ{a b c:aa}{t:List aa}(h1:a≠b)(h2:a≠c)(h3:b≠c):3<=c9 (a::b::c::t) (a::b::c::t).length:=by
 have ne: ∀{x y:aa},x≠y->(!decide (x.x=y.x/\x.y=y.y))=true:=fun{x y} h=>by
  rw[decide_eq_false (fun k=>h (by cases x;cases y;simp only[aa.mk.injEq] at*;exact k))];rfl
 have e0:=Br (l:=a::b::c::t) (k:=0) (p:=a) J VX;have e1:=Br (l:=a::b::c::t) (k:=1) (p:=b) J (Bg (k:=1) (q:=b) J (by simp only[List.take,List.all_cons,List.all_nil,Bool.and_true,ne h1]) ⟨J,J⟩);have e2:=Br (l:=a::b::c::t) (k:=2) (p:=c) J (Bg (k:=2) (q:=c) J (by simp only[List.take,List.all_cons,List.all_nil,Bool.and_true,ne h2,ne h3]) ⟨J,J⟩);have mono: ∀n m,n<=m->c9 (a::b::c::t) n<=c9 (a::b::c::t) m:=by
  intro n m h
  induction m with
  |zero=>rw[show n=0 by omega];exact aL _
  |succ m ih=>
   by_cases k:n=m+1
   ·rw[k];exact aL _
   ·exact fS (ih (by omega)) NH
 have:=mono 3 (a::b::c::t).length (by simp);have z:c9 (a::b::c::t) 0=0:=J;rw[eY] at e0;rw[show 1+1=2 from J] at e1;rw[show 2+1=3 from J] at e2;omega
def Ds{a b c:ZP}{t:List ZP}(ho:b9 (a::b::c::t))(h1:a≠b)(h2:a≠c)(h3:b≠c):f7 (a::b::c::t):=
 ⟨ho,WZ (t:=t.map ZP.q) (fun e=>h1 (vK e)) (fun e=>h2 (vK e)) (fun e=>h3 (vK e))⟩
def OK{a b c d:Int}(ho:b9 (pq a b c d))(h1:a<c)(h2:b<d):f7 (pq a b c d):=
 Ds ho (fun e=>by have:=congrArg Prod.fst e;dsimp only at this;omega) (fun e=>by have:=congrArg Prod.fst e;dsimp only at this;omega) (fun e=>by have:=congrArg Prod.snd e;dsimp only at this;omega)
def RX{p u v:ZP}(ho:b9 (o9 p u v))(h:pc u v≠0):f7 (o9 p u v):=by
 have hu: ∀{a b:ZP},(a=(0,0)\/b=(0,0)\/a=b)->pc a b=0:=fun{a b} k=>by
  unfold pc;rcases k with rfl|rfl|rfl
  ·simp
  ·simp
  ·rw[Int.mul_comm];omega
 refine Ds ho (fun e=>h (hu (.inl ?_))) (fun e=>h (hu (.inr (.inl ?_)))) (fun e=>h (hu (.inr (.inr ?_))))
 ·have e1:=congrArg Prod.fst e
  have e2:=congrArg Prod.snd e;unfold tV at e1 e2;dsimp only at e1 e2;exact Prod.ext (by dsimp only;omega) (by dsimp only;omega)
 ·have e1:=congrArg Prod.fst e
  have e2:=congrArg Prod.snd e;unfold tV at e1 e2;dsimp only at e1 e2;exact Prod.ext (by dsimp only;omega) (by dsimp only;omega)
 ·have e1:=congrArg Prod.fst e
  have e2:=congrArg Prod.snd e;unfold tV at e1 e2;dsimp only at e1 e2;exact Prod.ext (by omega) (by omega)
def Fa(n:Int)(d:Nat):Int:=n*zv false d
def TX(n:Int)(d:Nat):(Fa n d).natAbs=n.natAbs*d:=by unfold Fa;rw[gN,nA]
instance BN.prx (n:Int) (d i j:Nat) [h:BI n i] [k:BN d j]:BN (Fa n d).natAbs (i+j):=⟨by rw[TX,eK];exact lL h.h k.h⟩
def ZZ(S:List aa)(x:aa)(R:List aa)(k:Nat):List aa:=S.take k++x::(S.drop k++R)
def Y1(S:List aa)(x:aa)(R:List aa)(m:Nat):List aa:=S.take m++x::x::(S.drop (m+1)++R)
def YV(t:Tr)(p:aa):Int:=if Sg t p then 2 else if Sq t p then 1 else 0
def anV(t:Tr)(p:aa)(V:List aa)(k:Nat):Bool:=(V.take k).any fun v=>(fC t p v).1
def Zk(t:Tr)(p:aa)(V:List aa)(k:Nat):Bool:=(V.take k).all fun v=>(fC t p v).1
def D1{l:List aa}{x:aa}(h:x∈l): ∃i:Nat,i<l.length/\jx l x=(i:Int)/\l.getD i ⟨0,0⟩=x:=by
 cases e:l.findIdx? (fun q=>decide (q.x=x.x/\q.y=x.y)) with
 |none=>
  rw[List.findIdx?_eq_none_iff] at e;have:=e x h;simp at this
 |some i=>
  have e0:=e;rw[List.findIdx?_eq_some_iff_getElem] at e;obtain⟨h1,h2,_⟩:=e;refine⟨i,h1,by unfold jx;rw[e0],?_⟩;have h3:=of_decide_eq_true h2;rw[aX,aZ h1,gM];generalize l[i]=q at*
  cases q;cases x
  simp only[aa.mk.injEq] at*;exact h3
def HQ(l:List aa): ∀n,c9 l n=((List.range n).filter fun k=>decide (jx l (l.getD k ⟨0,0⟩)=((k:Nat):Int))).length
 |0=>rfl
 |n+1=>by
  rw[c9,List.range_succ,List.filter_append,aM,HQ l n];congr 1;by_cases h:jx l (l.getD n ⟨0,0⟩)=((n:Nat):Int)
  ·rw[if_pos h];simp only[oV,decide_eq_true h,if_true];rfl
  ·rw[if_neg h];simp only[oV,decide_eq_false h];rfl
def Su{F:List Nat}{i j k:Nat}(hi:i∈F)(hj:j∈F)(hk:k∈F)(h1:i≠j)(h2:i≠k)(h3:j≠k):3<=F.length:=by
 match F with
 |[]=>cases hi
 |[a]=>simp at hi hj;omega
 |[a,b]=>simp at hi hj hk;omega
 |a::b::c::t=>simp
def J0{l:List aa}{a b c:aa}(ha:a∈l)(hb:b∈l)(hc:c∈l)(h1:a≠b)(h2:a≠c)(h3:b≠c):3<=c9 l l.length:=by
 obtain⟨i,i1,i2,i3⟩:=D1 ha;obtain⟨j,j1,j2,j3⟩:=D1 hb;obtain⟨k,k1,k2,k3⟩:=D1 hc;rw[HQ];have mk: ∀{x:aa} {m:Nat},m<l.length->jx l x=(m:Int)->l.getD m ⟨0,0⟩=x->m∈(List.range l.length).filter fun k=>decide (jx l (l.getD k ⟨0,0⟩)=((k:Nat):Int)):=fun{x m} q1 q2 q3=>gL.2 ⟨iK.2 q1,decide_eq_true (by rw[q3];exact q2)⟩;exact Su (mk i1 i2 i3) (mk j1 j2 j3) (mk k1 k2 k3) (fun e=>h1 (by rw[<-i3,<-j3,e])) (fun e=>h2 (by rw[<-i3,<-k3,e])) (fun e=>h3 (by rw[<-j3,<-k3,e]))
def AY{p q:ZP}:jn p q<0↔p.1<q.1\/(p.1=q.1/\p.2<q.2):=by
 unfold jn
 repeat' split
 all_goals (constructor<;>intro h<;>omega)
def RH{p q:ZP}:jn p q=0↔p.1=q.1/\p.2=q.2:=by
 unfold jn
 repeat' split
 all_goals (constructor<;>intro h<;>omega)
def D9{x y:ZP}: ∀{l:List ZP},y∈i6 x l->y=x\/y∈l
 |[],h=>by simp[i6] at h;exact .inl h
 |u::t,h=>by
  rw[i6] at h;split at h
  ·rcases aU.1 h with rfl|h
   ·exact .inr aQ
   ·exact(D9 h).imp id fun k=>aJ _ k
  ·split at h
   ·exact .inr h
   ·rcases aU.1 h with rfl|h
    ·exact .inl J
    ·exact .inr h
def H9{x:ZP}: ∀{l:List ZP},l.Pairwise (fun a b=>jn a b<0)->(i6 x l).Pairwise (fun a b=>jn a b<0)
 |[],_=>by simp[i6]
 |u::t,h=>by
  obtain⟨h1,h2⟩:=bW.1 h;rw[i6];split
  ·rename_i hu
   refine bW.2 ⟨fun y hy=>?_,H9 h2⟩;rcases D9 hy with rfl|hy
   ·exact hu
   ·exact h1 y hy
  ·split
   ·exact h
   ·rename_i k1 k2
    rw[AY] at k1;rw[RH] at k2;refine bW.2 ⟨fun y hy=>?_,h⟩;rw[AY];rcases aU.1 hy with rfl|hy
    ·omega
    ·have:=AY.1 (h1 y hy);omega
def VM(l:List ZP):(mr l).Pairwise (fun a b=>jn a b<0)/\ ∀y∈mr l,y∈l:=by
 have key: ∀(l o:List ZP),o.Pairwise (fun a b=>jn a b<0)->(l.foldl (fun out x=>i6 x out) o).Pairwise (fun a b=>jn a b<0)/\ ∀y∈l.foldl (fun out x=>i6 x out) o,y∈l\/y∈o:=by
  intro l
  induction l with
  |nil=>intro o ho;exact⟨ho,fun y hy=> .inr hy⟩
  |cons x t ih=>
   intro o ho;obtain⟨i1,i2⟩:=ih (i6 x o) (H9 ho);refine⟨i1,fun y hy=>?_⟩;rcases i2 y hy with h|h
   ·exact .inl (aJ _ h)
   ·rcases D9 h with rfl|h
    ·exact .inl aQ
    ·exact .inr h
 obtain⟨k1,k2⟩:=key l [] .nil;exact⟨k1,fun y hy=>(k2 y hy).resolve_right (by simp)⟩
def Yj{r:List ZP}(ho:b9 r)(h:3<=(mr r).length):f7 r:=by
 refine⟨ho,?_⟩;obtain⟨k1,k2⟩:=VM r
 match hs:mr r with
 |[]=>rw[hs] at h;simp at h
 |[a]=>rw[hs] at h;simp at h
 |[a,b]=>rw[hs] at h;simp at h
 |a::b::c::t=>
  rw[hs] at k1 k2;obtain⟨p1,p2⟩:=bW.1 k1;obtain⟨p3,_⟩:=bW.1 p2;have ne: ∀{x y:ZP},jn x y<0->x.q≠y.q:=fun{x y} q e=>by
   have:=vK e;subst this;have:=AY.1 q;omega
  exact J0 (iT (k2 a (by simp))) (iT (k2 b (by simp))) (iT (k2 c (by simp))) (ne (p1 b (by simp))) (ne (p1 c (by simp))) (ne (p3 c (by simp)))
def NT{es:List Int}{a:Nat}(ha:a<=es.length):f7 (mm es a).1:=by
 have hok:=(EN ha).1;unfold mm at*;dsimp only at*;split
 ·exact Ds Ht (by decide) (by decide) (by decide)
 ·rename_i h
  rw[if_neg h] at hok;exact Yj hok (by omega)
def SS{es:List Int}{a:Nat}(ha:a<=es.length):f7 (fB es a).1:=by
 have hok:=(JF ha).1;have h0:=il (n:=4) ha;unfold fB at*;dsimp only at*;split
 ·rename_i h
  rw[if_pos h] at hok;unfold vS at*;dsimp only at*;exact OK hok (by omega) (by omega)
 ·rename_i h
  rw[if_neg h] at hok;split
  ·rename_i k
   rw[if_pos k] at hok;obtain⟨p1,p2,p3⟩:=tk h0;obtain⟨u1,u2,u3,u4⟩:=uc p3;obtain⟨v1,v2,v3,v4⟩:=uc u4;split
   ·rename_i hc
    rw[if_pos hc] at hok;exact RX hok hc
   ·exact NT v4
  ·exact NT h0
structure EGW (GB:Gh) (ar:Addr):Prop where
 ErrRange:GB 2=some [.iface 499 (.pointer (some ar))]
def Uc{b:Nat}{es:List Int}(hes:es.length<=400){a:Nat}(ha:a<=es.length){p:aa}(hp:p=(ot es a).1):PM GB prog 36 (i8 [none] b) b 126 [.sl (es.map vI), .v (.int .i64 (a:Nat))] (eP p) [.sl (es.map vI), .v (.int .i64 ((ot es a).2:Nat))]:=by
 subst hp;exact Tn hes ha
def Nm(es:List Int):Nat->Nat->List (List ZP)->List (List ZP)×Nat
 |0,a,out=>(out,a)
 |n+1,a,out=>Nm es n (fB es a).2 (out++[(fB es a).1])
def Zf(es:List Int)(m a:Nat):List (List ZP)×Nat:=Nm es (aq es (m+1) a).1 (aq es (m+1) a).2 []
def WC(a b p:aa):Bool:=decide (ru a b p=0)&&decide ((aa.dot (bc a p (-1)) (bc b p (-1))).num.sign<=0)
def onZ(r:List ZP)(p:aa):Bool:=(List.range r.length).any fun k=>WC (r.getD k (0,0)).q (de r k).q p
section
variable {GB:Gh} {C:aA} {n:Nat} {Q0:Exit->Act->World->Prop} {fr fr':ao} {own own':aC} {cf cf':Cf} {vc:List Prop} {lk:LK} {bk:BM}
variable {dst:Option Nat} {t t' ty':TypeId} {pos:String} {af:Array Edge} {gd:Option (Nat×Bool)} {x y:Operand}
def JB(fr:ao)(cf:Cf):Option (List DV):=match bF fr cf with
 |some ⟨_, .binOp .eql t x (.const (.slice none _ _)) _,_,_,_,_⟩=>match cD tt t with
  |some ⟨.sl _ _ _,_,_,_⟩=>match aD (bh fr cf) x with
   |some (.d (.sl l))=>some l
   |_=>none
  |_=>none
 |_=>none
def SA[fu:Fu]{l:List DV}(h:JB fr cf=some l)(hl:l≠[])(hgo:cg tt n fu.n fr own cf .ff [] []=⟨vc,fr',own',cf'⟩)(k:aj prog GB C n Q0 fr' own' cf')
  (hv:ah vc:=by first|exact trivial|(simp only[ah];kernel_rfl)|(simp only[ah];omega)|(simp only[ah,aK,aT,aV];omega)):aj prog GB C n Q0 fr own cf:=by
 unfold JB at h;split at h<;>try (cases h;done)
 rename_i hh;split at h<;>try (cases h;done)
 rename_i hT;split at h<;>cases h;rename_i hx;have hTy:=iO (d6 _ _ hT) J;exact us hh (.x1 hx fun ρ G ov a w y _ r h1 h2=>by
  obtain⟨s,z,es,rfl,h3,h4⟩:=iu.1 (show Is G (.sl l) y from h2);have hne:z.a.isNone=false:=by
   rcases h3.mem with k|⟨b,off,cs,k,_⟩
   ·have hlen:=h4.len
    rw[k] at hlen;exact absurd (bR hlen.symm) hl
   ·rw[k];rfl
  refine⟨.bool false,J,?_⟩;rw[<-hne];exact Fi h1 J) hgo hv k
def Ai(GB:Gh)(P:Program)(f:FuncId)(s off m:Nat)(ty:TypeId)(dsi dso:List DV):Prop:=
 ∀G w b c B,bm GB G->cP G ⟨w,s,ty,dsi,false⟩ B->w.a=some ⟨b,0,none⟩->m<=c->kl P f [.slice (some ⟨b,off*s,none⟩) m c] B G (fun v own' G'=>Is G' (.tp []) v/\cP G' ⟨w,s,ty,dso,false⟩ own')
def Xk{fo:Operand}{tys:Array TypeId}{f:FuncId}{nm off m:Nat}{s:Nat}{ty0:TypeId}{dsi dso:List DV}{lo:Bool}
  (ho:aD lk fo=some (.d (.v (.func (.func f) ⟨[]⟩ ⟨[]⟩))))(hx:aD lk x=some (.rs nm s off m))(hb:bk nm=some (.b ty0 s dsi lo))(hF:Ai GB prog f s off m ty0 dsi dso):bD prog GB C n lk bk ⟨dst, .call ⟨.value fo,⟨[x]⟩,tys⟩,ty',pos,af,gd⟩ (.d (.tp [])) [(nm,some (.b ty0 s dso lo))] []:=by
 intro hd tl tb K' s1 s2 hf hk;refine⟨fun ρ G ov a w r Q=>?_⟩;have r1:=r.mono s1 s2;obtain⟨y,hy,hy'⟩:=r1.ev ho;rw[(bt (G:=G)).1 hy'] at hy;obtain⟨u,hu,b,c,hw,rfl,hc⟩:=r1.ev hx;obtain⟨B,g1,g2⟩:=r1.bx _ _ hb;have hB:cP G ⟨ρ nm,s,ty0,dsi,lo⟩ B:=g1;obtain⟨rest,h5,h6⟩:=MO hB g2;refine wi (M:=B) (rest:=rest) (vs:=[.slice (some ⟨b,off*s,none⟩) m c]) hy (by simp only[gt,hu]) h5 (hF G (ρ nm) b c B r.gb hB.weak hw hc) hd (fun v own1 G' hG hK a' w' rl=>?_) a w Q ⟨r.h,r.sz,cF a,r.df⟩;obtain⟨hr,vs',k1,k2,k3,k4⟩:=hK;have k1':=k1.relo (jd B);have e2:lo=true-> ∀o∈own1.map (relo (jd B)),o.lo=true:=fun hl o ho=>by
  obtain⟨o',_,rfl⟩:=bX.1 ho;obtain⟨_,_,_,_,hlo⟩:=hB;exact E9 _ (hlo hl)
 generalize own1.map (relo (jd B))=B' at rl e2 k1';have r2:=r.upB (G':=G') (ov':=B'++rest) (w':=w') (B':= .b ty0 s dso lo) (os:=B') hG.le rl.h ⟨vs',by simpa using k1',k2,k3,e2⟩ (fun o ho=>bU _ ho)
  (fun o ho hne=>bN _ (h6 o ho fun o' ho' he=>hne (by rw[g1.blk ho',he]))) ⟨_,s2 _ _ hb⟩
 exact hk.run _ G' _ a' w' (r2.put hr (ky rl))
structure CV where
 f:FuncId
 nm:Nat
 s:Nat
 off:Nat
 m:Nat
 ty:TypeId
 ds:List DV
 lo:Bool
def Ip(fr:ao)(own:aC)(cf:Cf):Option CV:=match bF fr cf with
 |some ⟨_, .call ⟨.value fo,⟨[x]⟩,_⟩,_,_,_,_⟩=>match aD (bh fr cf) fo with
  |some (.d (.v (.func (.func f) ⟨[]⟩ ⟨[]⟩)))=>match aD (bh fr cf) x with
   |some (.rs nm s off m)=>match fE fr own cf nm with
    |some (.b ty s' ds lo)=>bif Nat.beq s s' then some ⟨f,nm,s,off,m,ty,ds,lo⟩ else none
    |_=>none
   |_=>none
  |_=>none
 |_=>none
def cv[fu:Fu]{f:FuncId}{nm s off m:Nat}{ty:TypeId}{dsi dso:List DV}{lo:Bool}(dso':List DV)(ha:Ip fr own cf=some ⟨f,nm,s,off,m,ty,dsi,lo⟩)(hF:Ai GB prog f s off m ty dsi dso)(he:dso=dso')
  (hgo:cg tt n fu.n fr own cf (.d (.tp [])) [(nm,some (.b ty s dso' lo))] []=⟨vc,fr',own',cf'⟩)(k:aj prog GB C n Q0 fr' own' cf')
  (hv:ah vc:=by first|exact trivial|(simp only[ah];kernel_rfl)|(simp only[ah];omega)|(simp only[ah,aK,aT,aV];omega)):aj prog GB C n Q0 fr own cf:=by
 subst he;unfold Ip at ha;split at ha<;>try (cases ha;done)
 rename_i hh;split at ha<;>try (cases ha;done)
 rename_i h0;split at ha<;>try (cases ha;done)
 rename_i h1;split at ha<;>try (cases ha;done)
 rename_i h2;rw[cond_eq_ite] at ha;split at ha<;>cases ha;rename_i h3
 cases aR h3
 exact us hh (Xk h0 h1 h2 hF) hgo hv k
end
def Gm{α:Type}[Inhabited α](enc:α->List Value)(k:Nat)(w:World)(b off m:Nat)(dk:Array α){q:Nat}:
  (Go.Sort.putRowK enc k (Go.Sort.ahead w m) b off dk).heap[q]? =if q=b then(w.heap[q]?).map (Go.Sort.onCells (Go.Sort.putCells id off (Go.Sort.flatK enc k dk))) else w.heap[q]? :=by
 show((w.heap.modify b _))[q]? =_;rw[qV];by_cases e:b=q
 ·subst e;simp
 ·simp[e,Ne.symm e]
def Xw{F:Array Value}{pre xs rest:List Value}(h:xs.length=F.size):Go.Sort.putCells id pre.length F ⟨pre++(xs++rest)⟩=⟨pre++(F.toList++rest)⟩:=by
 apply Array.ext';apply lX;intro k;simp only[Go.Sort.putCells,Array.toList_mapIdx,List.getElem?_mapIdx];by_cases h0:k<pre.length
 ·rw[cJ h0,cJ h0,aZ h0]
  simp[show¬pre.length<=k by omega]
 ·have h0':pre.length<=k:=by omega
  have l1:(pre++(xs++rest))[k]? =(xs++rest)[k-pre.length]? :=cM h0';have l2:(pre++(F.toList++rest))[k]? =(F.toList++rest)[k-pre.length]? :=cM h0';rw[l1,l2];by_cases hk:k-pre.length<F.size
  ·have l3:(xs++rest)[k-pre.length]? =xs[k-pre.length]? :=cJ (by omega)
   have l4:(F.toList++rest)[k-pre.length]? =F.toList[k-pre.length]? :=cJ (by rw[fW];exact hk);have l5:xs[k-pre.length]? =some (xs[k-pre.length]'(by omega)):=aZ (by omega);rw[l3,l4,l5];simp[hk,h0',show k<pre.length+F.size by omega]
  ·have l3:(xs++rest)[k-pre.length]? =rest[k-pre.length-xs.length]? :=cM (by omega)
   have l4:(F.toList++rest)[k-pre.length]? =rest[k-pre.length-F.toList.length]? :=cM (by rw[fW];omega);rw[l3,l4,h,fW]
   cases rest[k-pre.length-F.size]? with
   |none=>rfl
   |some v=>simp[show¬k<pre.length+F.size by omega]
def RI{P:Program}{ρ:Go.Shelf.Ren}{GB:Gh}(L:SlLaysE0.n35 P ρ)(ha:mf P (ρ.f 35)){s:Nat}(hAg: ∀w,(isAgg (ρ.t 23)).run P w= .ok true w)(hZs: ∀w,(sizeOf (ρ.t 23)).run P w= .ok s w)
  {A:Type}(e:A->DV)(hA: ∀x,∃l,e x= .ag l/\(DV.ag l).okc=true/\l.length=s){ty:TypeId}{pre ds:List A}(hn:ds.length<4611686018427387904)(h0:ds≠[]):
  Ai GB P (ρ.f 35) s pre.length ds.length ty ((pre++ds).map e) ((pre++ds.reverse).map e):=by
 intro G z b0 c0 B hgb hB hzb hc0;refine⟨ha,fun w hw=>?_⟩;obtain⟨es,k1,k2,k3,_⟩:=hB;simp only at k1 k2 k3;have hlen:es.length=(pre++ds).length:=by rw[k2.len,aK]
 rcases k1 with⟨e1,_,_⟩|⟨b,rest,lo,e1,e2,e3,e4,e5⟩
 ·rw[e1,aM] at hlen
  exact absurd (bR (by have:(0:Nat)=_:=hlen;omega)) h0
 have hbb:b0=b:=by rw[e1] at hzb;cases hzb;rfl
 subst hbb;subst e2
 -- elements with their cells
 have lift: ∀{ds:List A} {es:List Value},IsLs G (ds.map e) es-> ∃qs:List {q:A×List Value//Is G (e q.1) (.agg ⟨q.2⟩)},qs.map (·.1.1)=ds/\qs.map (fun q=>Value.agg ⟨q.1.2⟩)=es:=by
  intro ds
  induction ds with
  |nil=>intro es h;cases cG.1 h;exact⟨[],rfl,rfl⟩
  |cons x ds ih=>
   intro es h;obtain⟨y,n,rfl,g1,g2⟩:=cb.1 h;obtain⟨qs,g3,g4⟩:=ih g2;obtain⟨l,hl,_⟩:=hA x;have g1':=g1;rw[hl] at g1';obtain⟨m,rfl,_⟩:=ew.1 g1';exact⟨⟨(x,m),g1⟩::qs,by simp[g3],by simp[g4]⟩
 obtain⟨qa,hqa1,hqa2⟩:=lift k2;obtain⟨qp,qs,rfl,hp1,hq1⟩: ∃qp qs,qa=qp++qs/\qp.map (·.1.1)=pre/\qs.map (·.1.1)=ds:=by
  refine⟨qa.take pre.length,qa.drop pre.length,(iR ..).symm,?_,?_⟩
  ·rw[lR,hqa1,List.take_left'];rfl
  ·rw[qM,hqa1,List.drop_left'];rfl
 rw[dZ] at hqa2;have:Inhabited {q:A×List Value//Is G (e q.1) (.agg ⟨q.2⟩)}:=⟨qs.head (fun e=>by rw[e] at hq1;exact h0 hq1.symm)⟩
 let enc:{q:A×List Value//Is G (e q.1) (.agg ⟨q.2⟩)}->List Value:=fun q=>q.1.2
 have henc: ∀q,(enc q).length=s/\ ∀v∈enc q,Go.Sx.flat v=true:=fun q=>by
  obtain⟨l,hl,h1,h2⟩:=hA q.1.1;have h3:=q.2;rw[hl] at h3;obtain⟨m,hm,h4⟩:=ew.1 h3
  cases hm
  exact⟨by show q.1.2.length=s;rw[h4.len,h2],fun v hv=>h4.flat h1 v hv⟩
 have hk: ∀q,(enc q).length=s:=fun q=>(henc q).1;have hqs:qs.toArray.size=ds.length:=by rw[lZ,<-hq1,aK]
 have hfl: ∀d:Array {q:A×List Value//Is G (e q.1) (.agg ⟨q.2⟩)},(Go.Sort.flatK enc s d).toList=aH (d.toList.map fun q=>Value.agg ⟨q.1.2⟩):=fun d=>by
  rw[NA enc s hk];unfold aH;rw[List.map_map];rfl
 obtain⟨vp,hvp⟩: ∃vp,vp=qp.map (fun q=>Value.agg ⟨q.1.2⟩):=⟨_,rfl⟩;obtain⟨vq,hvq⟩: ∃vq,vq=qs.map (fun q=>Value.agg ⟨q.1.2⟩):=⟨_,rfl⟩;rw[<-hvp,<-hvq] at hqa2;subst hqa2;have hfe:(Go.Sort.flatK enc s qs.toArray).toList=aH vq:=by rw[hfl,hvq]
 have hpl:(aH vp).length=pre.length*s:=by
  rw[gp vp fun v hv=>k3 v (bU _ hv),hvp,aK,<-hp1,aK]
 rw[o4] at hw e4⊢;rw[fL] at hw⊢;have hown:=hw.hown ⟨b0,aH vp++(aH vq++rest),ty,false⟩ (by simp[asB]);obtain⟨hb,hGb,_,_⟩:=hown;simp only at hb hGb;have hblt:=fI hb;have hH:Go.Sort.HoldsK enc s w b0 (pre.length*s) qs.toArray:=by
  intro j hj;refine⟨?_,by simp[World.frozen?,hb]⟩;have hj':j<(aH vq).length:=by rw[<-hfe];simpa using hj
  rw[vl hb,cM (by omega),hpl,Nat.add_sub_cancel_left,cJ hj',<-hfe];show _=some ((Go.Sort.flatK enc s qs.toArray)[j]!);rw[getElem!_pos _ j hj];simp
 have hrun:=AnyQ.slices_Reverse L s hAg hZs enc hk (fun q v hv=>Lz ((henc q).2 v hv)) b0 (pre.length*s) c0 qs.toArray w hH (by rw[hqs];omega);rw[show(⟨[Value.slice (some ⟨b0,pre.length*s,none⟩) ds.length c0]⟩:Array Value)= #[.slice (some ⟨b0,pre.length*s,none⟩) qs.toArray.size c0] by rw[hqs]];refine hrun.mono fun r w' ⟨h1,n,h2⟩=>?_;subst h2;have hd':(qs.toArray.reverse).toList=qs.reverse:=by simp
 have hvr:aH (qs.reverse.map fun q=>Value.agg ⟨q.1.2⟩)=(Go.Sort.flatK enc s qs.toArray.reverse).toList:=by rw[hfl,hd']
 have hsz:(aH vq).length=(Go.Sort.flatK enc s qs.toArray.reverse).size:=by rw[<-hfe];simp
 have hblk:(Go.Sort.putRowK enc s (Go.Sort.ahead w n) b0 (pre.length*s) qs.toArray.reverse).heap[b0]? =some (.cells ⟨aH vp++((Go.Sort.flatK enc s qs.toArray.reverse).toList++rest)⟩ ty (0,0)):=by
  rw[Gm,if_pos J,hb];show some (Obj.cells (Go.Sort.putCells id (pre.length*s) _ ⟨aH vp++(aH vq++rest)⟩) ty (0,0))=_;rw[<-hpl,Xw hsz]
 have hoth: ∀q:Nat,q≠b0->(Go.Sort.putRowK enc s (Go.Sort.ahead w n) b0 (pre.length*s) qs.toArray.reverse).heap[q]? =w.heap[q]? :=fun q hne=>by rw[Gm,if_neg hne]
 have hIs: ∀l:List {q:A×List Value//Is G (e q.1) (.agg ⟨q.2⟩)},IsLs G ((l.map (·.1.1)).map e) (l.map fun q=>Value.agg ⟨q.1.2⟩):=fun l=>by
  induction l with
  |nil=>exact .nil
  |cons q l ih=>exact .cons q.2 ih
 have hcell: ∀(l:List {q:A×List Value//Is G (e q.1) (.agg ⟨q.2⟩)}),∀v∈l.map (fun q=>Value.agg ⟨q.1.2⟩),(aI v).length=s:=fun l v hv=>by
  obtain⟨q,_,rfl⟩:=bX.1 hv;exact hk q
 have hlen':(vp++qs.reverse.map fun q=>Value.agg ⟨q.1.2⟩).length=(vp++vq).length:=by rw[aM,aM,hvq,aK,aK,rR]
 have hfl2:aH (vp++qs.reverse.map fun q=>Value.agg ⟨q.1.2⟩)=aH vp++(Go.Sort.flatK enc s qs.toArray.reverse).toList:=by rw[o4,hvr]
 refine⟨_,[⟨b0,aH (vp++qs.reverse.map fun q=>Value.agg ⟨q.1.2⟩)++rest,ty,false⟩],G,h1,?_,mD.2 ⟨[],J, .nil⟩,vp++qs.reverse.map (fun q=>Value.agg ⟨q.1.2⟩), .inr ⟨b0,rest,false,by rw[hlen'];exact e1,J,gp _ ?_,?_,by rw[hlen'];exact e5⟩,?_,?_,fun h=>by cases h⟩
 ·refine⟨J,J,J,?_,fun q hq hqm=>hoth q fun e=>hqm (by rw[e];exact aQ),fun c cs hcs=>?_,bm.refl _,fun _ _=>J,fun o ho=>?_,pL _ _,?_,fun p hp=>(by cases hp)⟩
  ·show w.heap.size<=(w.heap.modify b0 _).size
   simp
  ·obtain⟨ty',fz,h⟩:=hw.sub c cs hcs
   exact⟨ty',fz,by rw[hoth c (fun e=>by subst e;rw[hGb] at hcs;cases hcs)];exact h⟩
  ·rw[aW.1 ho]
   exact⟨by show _=some (Obj.cells ⟨aH _++rest⟩ ty (0,0));rw[hfl2,fL];exact hblk,hGb,(fun h=>by cases h),fun _=>aQ⟩
  ·show w.drawn<=w.drawn+n
   omega
 ·intro v hv
  rcases bV.1 hv with hv|hv
  ·rw[hvp] at hv;exact hcell qp v hv
  ·exact hcell _ v hv
 ·have hsz2:(aH vq).length=(Go.Sort.flatK enc s qs.toArray.reverse).toList.length:=by rw[hsz];rfl
  rw[hfl2,aM,<-hsz2];rw[aM] at e4;exact e4
 ·have:=(hIs (qp++qs.reverse))
  rw[dZ,hp1,List.map_reverse,hq1,dZ,dZ,<-hvp] at this;show IsLs G ((pre++ds.reverse).map e) _;rw[dZ];exact this
 ·intro v hv
  rcases bV.1 hv with hv|hv
  ·rw[hvp] at hv;exact hcell qp v hv
  ·exact hcell _ v hv
end Go.Sx
end
