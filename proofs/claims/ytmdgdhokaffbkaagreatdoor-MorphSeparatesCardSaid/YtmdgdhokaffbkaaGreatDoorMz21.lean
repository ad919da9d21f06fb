import Derived.Test.YtmdgdhokaffbkaaGreatDoorMz20
import Derived.Shelf.SlSortCmp.NoneTotal
import Derived.Test.YtmdgdhokaffbkaaGreatDoorProg
import Derived.Shelf.SlicesQ.Reverse
set_option linter.all false
set_option maxHeartbeats 2000000
set_option maxRecDepth 100000
section
namespace Go.Sx
open Go Go.Proofs
variable {α A:Type}{q s:Nat}{l:List aa}
def Xq{v:Value}(h:Go.Sx.flat v=true):v.oneCell'=true:=by cases v<;>first|rfl|cases h
def TA{α:Type}{k:Nat}: ∀(l:List (List α)) (t:Nat),(∀x∈l,x.length=k)->t<l.length*k->l.flatten[t]? =(l[t/k]?).bind (·[t%k]?)
 |[],t,_,h=>by simp at h
 |x::l,t,h,ht=>by
  have hx:=h x aQ;have hk:0<k:=by
   rcases fW k with e|e
   .subst e;simp at ht
   .exact e
  rw[nJ];by_cases q:t<k
  .rw[fS m5,mK q,iN q];rfl
  .rw[fN m5,hx,TA l (t-k) (fun y hy=>h y (aJ _ hy)) (by rw[aN,dV] at ht;omega)]
   have e1:t/k=(t-k)/k+1:=by rw[Nat.div_eq_sub_div hk m5]
   have e2:t%k=(t-k)%k:=by rw[Nat.mod_eq_sub_mod m5]
   rw[e1,e2];rfl
section
variable [Inhabited α]
def az6(enc:α->List Value)(k:Nat)(hk: ∀x,(enc x).length=k)(d:Array α):(Go.Sort.flatK enc k d).toList=(d.toList.map enc).flatten:=by
 apply kL;intro t;have hlen:(d.toList.map enc).flatten.length=d.size*k:=by
  have: ∀l:List α,(l.map enc).flatten.length=l.length*k:=fun l=>by
   induction l with
   |nil=>simp
   |cons x l ih=>rw[bY,nJ,aU,ih,hk,aN,dV];omega
  simpa using this d.toList
 by_cases ht:t<d.size*k
 .have hk0:0<k:=by
   rcases fW k with e|e
   .subst e;simp at ht
   .exact e
  have hi:t/k<d.size:=Nat.div_lt_of_lt_mul (by rwa [cW]);rw[TA (k:=k) _ _ (fun x hx=>by obtain⟨y,_,rfl⟩:=aT.1 hx;exact hk y) (by simpa using ht)];simp only[Go.Sort.flatK,pW,Array.toList_range,cZ];rw[pJ ht];have hj:t%k<(enc d[t/k]).length:=by rw[hk];exact dJ _ hk0
  simp only[kU];rw[getElem!_pos d (t/k) hi,getElem!_pos (enc d[t/k]) (t%k) hj];simp[hi,hj]
 .rw[dR (by simp[Go.Sort.flatK];omega),dR (by rw[hlen];omega)]
def T7(enc:α->List Value)(k:Nat)(w:World)(b m:Nat)(dk:Array α)(os:Array Obj)(hq:q<w.heap.size):
  (sortWorldK enc k w b 0 m dk os).heap[q]? =if q=b then(w.heap[q]?).map (Go.Sort.onCells (Go.Sort.putCells id 0 (Go.Sort.flatK enc k dk))) else w.heap[q]? :=by
 show((w.heap.modify b _)++os)[q]? =_;rw[kN (by simpa using hq),Array.getElem?_modify];by_cases e:b=q
 .subst e;simp
 .simp[e,Ne.symm e]
def WQ{F:Array Value}{xs rest:List Value}(h:xs.length=F.size):Go.Sort.putCells id 0 F ⟨xs++rest⟩=⟨F.toList++rest⟩:=by
 apply Array.ext';apply kL;intro k;simp only[Go.Sort.putCells,Array.toList_mapIdx,List.getElem?_mapIdx];by_cases hk:k<F.size
 .rw[fS m5,fS okE,aZ m5]
  simp[hk]
 .rw[fN m5,fN omg,h]
  simp only[jK]
  cases rest[k-F.size]? with
  |none=>rfl
  |some v=>simp[hk]
end
def qm(cf:A->A->Int)(ds:List A):List A:=ds.mergeSort fun x y=>!decide (cf y x<0)
def yV(cf:A->A->Int)(ds:List A):(qm cf ds).Perm ds:=List.mergeSort_perm ..
def M0{cf:A->A->Int}(hO:Go.Sort.SWO (Go.Proofs.ltOf cf))(ds:List A):(qm cf ds).Pairwise fun x y=> ¬cf y x<0:=by
 have:=List.pairwise_mergeSort (le:=fun x y=>!decide (cf y x<0)) (fun a b c h1 h2=>by
  have h1':Go.Proofs.ltOf cf b a=false:=by simpa[Go.Proofs.ltOf] using h1
  have h2':Go.Proofs.ltOf cf c b=false:=by simpa[Go.Proofs.ltOf] using h2
  have:=hO.ntrans c b a h2' h1';simpa[Go.Proofs.ltOf] using this) (fun a b=>by
  cases h1:Go.Proofs.ltOf cf b a with
  |false=>have: ¬cf b a<0:=(by simpa[Go.Proofs.ltOf] using h1);simp;omega
  |true=>
   cases h2:Go.Proofs.ltOf cf a b with
   |false=>have: ¬cf a b<0:=(by simpa[Go.Proofs.ltOf] using h2);simp;omega
   |true=>have:=hO.trans _ _ _ h1 h2;rw[hO.irrefl] at this;cases this) ds
 exact this.imp fun h=>by simpa using h
def aMH{P:Program}{ρ:Go.Shelf.Ren}{GB:Gh}(L:SlLaysF0.n6 P ρ)(ha:rC P (ρ.f 6))(hAg: ∀w,(isAgg (ρ.t 24)).run P w= .ok true w)(hZs: ∀w,(sizeOf (ρ.t 24)).run P w= .ok s w)
  (e:A->DV)(V:A->Prop)(hA: ∀x,∃l,e x= .ag l/\(DV.ag l).okc=true/\l.length=s)(cf:A->A->Int)(hO:Go.Sort.SWO (Go.Proofs.ltOf cf)){g:FuncId}(hg:rC P g)
  (hc: ∀x y,V x->V y->PF GB P g [e x,e y] (.v (.int .i64 (cf x y)))){ty:TypeId}{ds:List A}(hV: ∀x∈ds,V x)(hn:ds.length<4611686018427387904)(hu: ∀x∈ds,∀y∈ds,¬cf x y<0-> ¬cf y x<0->x=y):
  PW GB P (ρ.f 6) [none,some (.v (.func (.func g) #[] #[]))] s ty (ds.map e) (.tp []) ((qm cf ds).map e):=by
 intro G z vs B hgb hB hvs;refine⟨ha,fun w hw=>?_⟩;obtain⟨v1,m1,rfl,q1,hvs⟩:=bj.1 hvs;obtain⟨v2,m2,rfl,q2,hvs⟩:=bj.1 hvs
 cases fj.1 hvs
 rw[aO] at q1 q2;subst q1 q2;obtain⟨es,k1,k2,k3,_⟩:=hB;simp only at k1 k2 k3;have hlen:es.length=ds.length:=by rw[k2.len,aX]
 by_cases h0:ds=[]
 .subst h0
  have hes:es=[]:=cJ (by simpa using hlen);have hz:z.n=0:=by rw[k1.len,hes];rfl
  rw[hz];refine(AnyF.slices_SortFunc_none L z.a z.c _ w).mono fun r w' ⟨h1,h2⟩=>?_;subst h2;exact⟨_,asB B,G,h1,hw,lh.2 ⟨[],J, .nil⟩,es,k1.asB,by subst hes;show IsLs G ((qm cf []).map e) [];unfold qm;rw[List.mergeSort_nil];exact .nil,k3,fun h=>by cases h⟩
 .have hpos:0<es.length:=by rw[hlen];exact nU.2 h0
  rcases k1 with⟨e1,_,_⟩|⟨b,rest,lo,e1,e2,e3,e4,e5⟩
  .rw[e1] at hpos;simp at hpos
  subst e2
  -- elements with their cells
  have lift: ∀{ds:List A} {es:List Value},IsLs G (ds.map e) es->(∀x∈ds,V x)-> ∃qs:List {q:A×List Value//V q.1/\Is G (e q.1) (.agg ⟨q.2⟩)},qs.map (·.1.1)=ds/\qs.map (fun q=>Value.agg ⟨q.1.2⟩)=es:=by
   intro ds
   induction ds with
   |nil=>intro es h _;cases fj.1 h;exact⟨[],rfl,rfl⟩
   |cons x ds ih=>
    intro es h hV;obtain⟨y,n,rfl,g1,g2⟩:=bj.1 h;obtain⟨qs,g3,g4⟩:=ih g2 fun x hx=>hV x (aJ _ hx);obtain⟨l,hl,_⟩:=hA x;have g1':=g1;rw[hl] at g1';obtain⟨m,rfl,_⟩:=eD.1 g1';exact⟨⟨(x,m),hV x aQ,g1⟩::qs,by simp[g3],by simp[g4]⟩
  obtain⟨qs,hq1,hq2⟩:=lift k2 hV;have:Inhabited {q:A×List Value//V q.1/\Is G (e q.1) (.agg ⟨q.2⟩)}:=⟨qs.head (fun e=>by rw[e] at hq1;exact h0 hq1.symm)⟩
  let enc:{q:A×List Value//V q.1/\Is G (e q.1) (.agg ⟨q.2⟩)}->List Value:=fun q=>q.1.2
  have henc: ∀q,(enc q).length=s/\ ∀v∈enc q,Go.Sx.flat v=true:=fun q=>by
   obtain⟨l,hl,h1,h2⟩:=hA q.1.1;have h3:=q.2.2;rw[hl] at h3;obtain⟨m,hm,h4⟩:=eD.1 h3
   cases hm
   exact⟨by show q.1.2.length=s;rw[h4.len,h2],fun v hv=>h4.flat h1 v hv⟩
  have hk: ∀q,(enc q).length=s:=fun q=>(henc q).1;have hqs:qs.toArray.size=es.length:=by rw[oR,<-hq2,aX]
  have hfl: ∀d:Array {q:A×List Value//V q.1/\Is G (e q.1) (.agg ⟨q.2⟩)},(Go.Sort.flatK enc s d).toList=aF (d.toList.map fun q=>Value.agg ⟨q.1.2⟩):=fun d=>by
   rw[az6 enc s hk];unfold aF;rw[sL];rfl
  have hfe:(Go.Sort.flatK enc s qs.toArray).toList=aF es:=by rw[hfl,<-hq2]
  have hown:=hw.hown ⟨b,aF es++rest,ty,false⟩ aQ;obtain⟨hb,hGb,_,_⟩:=hown;simp only at hb hGb;have hblt:=i6 hb;have hH:Go.Sort.HoldsK enc s w b 0 qs.toArray:=by
   intro j hj;refine⟨?_,by simp[World.frozen?,hb]⟩;rw[Bw hb,eM];have hj':j<(aF es).length:=by rw[<-hfe];simpa using hj
   rw[fS hj',<-hfe];show _=some ((Go.Sort.flatK enc s qs.toArray)[j]!);rw[getElem!_pos _ j hj];simp
  have hsz: ∀dk:Array {q:A×List Value//V q.1/\Is G (e q.1) (.agg ⟨q.2⟩)},dk.size=qs.toArray.size->(aF es).length=(Go.Sort.flatK enc s dk).size:=fun dk hd=>by rw[<-hfe];simp[hd]
  have hblk: ∀(m:Nat) (os:Array Obj) (dk:Array _),dk.size=qs.toArray.size->(sortWorldK enc s w b 0 m dk os).heap[b]? =some (.cells ⟨(Go.Sort.flatK enc s dk).toList++rest⟩ ty (0,0)):=fun m os dk hd=>by
   rw[T7 enc s w b m dk os hblt,if_pos J,hb];show some (Obj.cells (Go.Sort.putCells id 0 (Go.Sort.flatK enc s dk) ⟨aF es++rest⟩) ty (0,0))=_;rw[WQ (hsz dk hd)]
  have hoth: ∀(m:Nat) (os:Array Obj) (dk:Array _) (q:Nat),q<w.heap.size->q≠b->(sortWorldK enc s w b 0 m dk os).heap[q]? =w.heap[q]? :=fun m os dk q hq hne=>by rw[T7 enc s w b m dk os hq,if_neg hne]
  have hsub: ∀(m:Nat) (os:Array Obj) (dk:Array _) (c:Nat) (cs:List Value),G c=some cs-> ∃ty fz,(sortWorldK enc s w b 0 m dk os).heap[c]? =some (.cells ⟨cs⟩ ty fz):=fun m os dk c cs hcs=>by
   obtain⟨ty',fz,h⟩:=hw.sub c cs hcs;exact⟨ty',fz,by rw[hoth m os dk c (i6 h) (fun e=>by subst e;rw[hGb] at hcs;cases hcs)];exact h⟩
  have hsize: ∀(m:Nat) (os:Array Obj) (dk:Array _),w.heap.size<=(sortWorldK enc s w b 0 m dk os).heap.size:=fun m os dk=>by
   show _<=((w.heap.modify b _)++os).size;simp
  have hcmp:Go.Proofs.CmpLays P g #[] enc s (fun q r=>cf q.1.1 r.1.1) b 0 qs.toArray.size w:=by
   intro m os dk _ x y;have hF:=hc x.1.1 y.1.1 x.2.1 y.2.1 G [.agg ⟨x.1.2⟩, .agg ⟨y.1.2⟩] hgb (.cons x.2.2 (.cons y.2.2 .nil));refine(hF.run _ (hsub m os dk)).mono fun r W ⟨v,G',h1,h2,h3⟩=>?_;rw[aO] at h3;subst h3;refine⟨h1,W.drawn-(sortWorldK enc s w b 0 m dk os).drawn,W.heap.extract (sortWorldK enc s w b 0 m dk os).heap.size W.heap.size,?_⟩;have hdr:=h2.dr;have hos:=h2.os;have htp:=h2.tape;have hou:=h2.output;have hkp:=h2.keep;have hss:=h2.size;simp only at hdr hos htp hou hkp hss;generalize sortWorldK enc s w b 0 m dk os=W0 at*
   cases W with
   |mk heap tape drawn os' output=>
    simp only at*;unfold Go.Sort.grow World.drewN;simp only[World.mk.injEq];refine⟨?_,htp,m5,hos,hou⟩;apply Array.ext_getElem?;intro k;rw[Array.getElem?_append];split
    .rename_i hk';exact hkp k hk' vb
    .rename_i hk'
     rw[Array.getElem?_extract];split
     .congr 1;omega
     .rw[nR m5]
  have hO':Go.Sort.SWO (Go.Proofs.ltOf fun(q r:{q:A×List Value//V q.1/\Is G (e q.1) (.agg ⟨q.2⟩)})=>cf q.1.1 r.1.1):=⟨fun x=>hO.irrefl x.1.1,fun x y z=>hO.trans x.1.1 y.1.1 z.1.1,fun x y z=>hO.ntrans x.1.1 y.1.1 z.1.1⟩;have hrun:=AnyQ.slices_SortFunc L s hAg hZs enc hk (fun q v hv=>Xq ((henc q).2 v hv)) (fun q r=>cf q.1.1 r.1.1) hO' g #[] b 0 z.c qs.toArray w (fun args w=>Dp hg args w) hcmp hH hblt (by rw[hqs,hlen];exact hn);have ez:z=⟨some ⟨b,0,none⟩,qs.toArray.size,z.c⟩:=by rw[hqs];exact e1
  have ea:(⟨[Value.slice z.a z.n z.c, .func (.func g) #[] #[]]⟩:Array Value)= #[.slice (some ⟨b,0,none⟩) qs.toArray.size z.c, .func (.func g) #[] #[]]:=by rw[ez]
  rw[ea];refine hrun.mono fun r w' ⟨h1,d',n,os,hp,hs,h2⟩=>?_;subst h2;have hdz:d'.size=qs.toArray.size:=hp.1;have hperm:d'.toList.Perm qs:=by
   have:=hp.2.2;have e1:d'.toList.take qs.length=d'.toList:=bM (by rw[jK,hdz];simp);simpa[e1] using this
  have hasc:d'.toList.Pairwise fun x y=> ¬cf y.1.1 x.1.1<0:=by
   rw[lW];intro i j hi hj hij;have:=hs i j (bK _) hij (by rw[<-hdz];simpa using hj);rw[getElem!_pos d' j omK,getElem!_pos d' i omI] at this;simpa[Go.Proofs.ltOf] using this
  have hds:d'.toList.map (·.1.1)=qm cf ds:=by
   refine List.Perm.eq_of_pairwise (le:=fun x y=> ¬cf y x<0) (fun x y hx hy k1 k2=>?_) ?_ (M0 hO ds) ?_
   .have m1:x∈ds:=by
     obtain⟨q,hq,rfl⟩:=aT.1 hx;rw[<-hq1];exact aT.2 ⟨q,hperm.mem_iff.1 hq,J⟩
    exact hu x m1 y ((yV cf ds).mem_iff.1 hy) k2 k1
   .rw[sV];exact hasc
   .refine(hperm.map _).trans ?_
    rw[hq1];exact(yV cf ds).symm
  have hlen':(d'.toList.map fun q=>Value.agg ⟨q.1.2⟩).length=es.length:=by rw[aX,jK,hdz,hqs]
  have hIs: ∀l:List {q:A×List Value//V q.1/\Is G (e q.1) (.agg ⟨q.2⟩)},IsLs G ((l.map (·.1.1)).map e) (l.map fun q=>Value.agg ⟨q.1.2⟩):=fun l=>by
   induction l with
   |nil=>exact .nil
   |cons q l ih=>exact .cons q.2.2 ih
  have hcell: ∀v∈d'.toList.map (fun q=>Value.agg ⟨q.1.2⟩),(aH v).length=s:=fun v hv=>by
   obtain⟨q,_,rfl⟩:=aT.1 hv;exact hk q
  refine⟨_,[⟨b,aF (d'.toList.map fun q=>Value.agg ⟨q.1.2⟩)++rest,ty,false⟩],G,h1,?_,lh.2 ⟨[],J, .nil⟩,d'.toList.map (fun q=>Value.agg ⟨q.1.2⟩), .inr ⟨b,rest,false,by rw[hlen'];exact e1,J,fC _ hcell,?_,by rw[hlen'];exact e5⟩,by rw[<-hds];exact hIs _,hcell,fun h=>by cases h⟩
  .refine⟨J,J,J,hsize n os d',fun q hq hqm=>hoth n os d' q hq fun e=>hqm (by rw[e];exact aQ),hsub n os d',b9.refl _,fun _ _=>J,fun o ho=>?_,List.pairwise_singleton _ _,?_,fun p hp=>(by cases hp)⟩
   .rw[aY.1 ho]
    exact⟨by rw[<-hfl];exact hblk n os d' hdz,hGb,(fun h=>by cases h),fun _=>aQ⟩
   .show w.drawn<=w.drawn+n
    omega
  .rw[<-e4,fC _ hcell,e3,hlen']
def aKg{a b c:aa}(h:cA c a):cA c b\/cA b a:=by
 by_cases h1:c.half<b.half
 .exact .inl (.inl h1)
 .by_cases h2:b.half<a.half
  .exact .inr (.inl h2)
  .rcases h with h|⟨h,k⟩
   .omega
   .have e1:c.half=b.half:=by omega
    have e2:b.half=a.half:=by omega
    by_cases q1:0<c.cross b
    .exact .inl (.inr ⟨e1,q1⟩)
    .by_cases q2:0<b.cross a
     .exact .inr (.inr ⟨e2,q2⟩)
     .exfalso
      have i1:b.y*c.cross a=a.y*c.cross b+c.y*b.cross a:=by unfold aa.cross;grind
      have i2:b.x*c.cross a=a.x*c.cross b+c.x*b.cross a:=by unfold aa.cross;grind
      have q1':c.cross b<=0:=by grind
      have q2':b.cross a<=0:=by grind
      rcases lO b with⟨eb,kb⟩|⟨eb,kb⟩|⟨eb,kb⟩<;>rcases lO a with⟨ea,ka⟩|⟨ea,ka⟩|⟨ea,ka⟩<;>rcases lO c with⟨ec,kc⟩|⟨ec,kc⟩|⟨ec,kc⟩<;>first|omega|skip
      .have ha:0<=a.y:=by grind
       have hc:0<=c.y:=by grind
       rcases kb with kb|⟨kb,kb'⟩
       .have g1:=pU ha (show 0<= -c.cross b by grind)
        have g2:=pU hc (show 0<= -b.cross a by grind);have g3:=bE kb k;grind
       .have hx:b.cross a=b.x*a.y:=by unfold aa.cross;rw[kb];grind
        have ha0:a.y=0:=by
         rcases ka with ka|ka
         .have:=bE kb' ka;grind
         .exact ka.1
        have hax:0<a.x:=by grind
        have hy:c.cross a= -(c.y*a.x):=by unfold aa.cross;rw[ha0];grind
        have:=pU hc (show 0<=a.x by grind);grind
      .have ha:0<= -a.y:=by grind
       have hc:0<= -c.y:=by grind
       rcases kb with kb|⟨kb,kb'⟩
       .have g1:=pU ha (show 0<= -c.cross b by grind)
        have g2:=pU hc (show 0<= -b.cross a by grind);have g3:=bE (show 0< -b.y by grind) k;grind
       .have hx:b.cross a=b.x*a.y:=by unfold aa.cross;rw[kb];grind
        have ha0:a.y=0:=by
         rcases ka with ka|ka
         .have:=bE (show 0< -b.x by grind) (show 0< -a.y by grind);grind
         .exact ka.1
        have hax:0< -a.x:=by grind
        have hy:c.cross a= -(c.y*a.x):=by unfold aa.cross;rw[ha0];grind
        have:=pU hc (show 0<= -a.x by grind);grind
      .have hy:c.cross a=0:=by unfold aa.cross;rw[ka.1,ka.2];grind
       rw[hy] at k;exact absurd k pb
def NK:Go.Sort.SWO (Go.Proofs.ltOf cE):=by
 have e: ∀x y,Go.Proofs.ltOf cE x y=true↔cA x y:=fun x y=>by rw[<-nH];simp[Go.Proofs.ltOf]
 have e2: ∀x y,Go.Proofs.ltOf cE x y=false↔ ¬cA x y:=fun x y=>by rw[<-e];simp
 refine⟨fun x=>(e2 x x).2 (sH x),fun x y z h k=>(e x z).2 (wE ((e x y).1 h) ((e y z).1 k)),fun x y z h k=>(e2 x z).2 fun q=>?_⟩;rcases aKg (b:=y) q with q|q
 .exact(e2 x y).1 h q
 .exact(e2 y z).1 k q
def Ro: ∀{l m:List aa},l.Pairwise cA->m.Pairwise cA->(∀x,x∈l↔x∈m)->l=m
 |[],[],_,_,_=>rfl
 |[],b::m,_,_,h=>absurd ((h b).2 aQ) vb
 |a::l,[],_,_,h=>absurd ((h a).1 aQ) vb
 |a::l,b::m,h1,h2,h=>by
  obtain⟨p1,p2⟩:=bU.1 h1;obtain⟨q1,q2⟩:=bU.1 h2;have e:a=b:=by
   rcases aV.1 ((h a).1 aQ) with e|e
   .exact e
   .rcases aV.1 ((h b).2 aQ) with f|f
    .exact f.symm
    .exact(yB (q1 a e) (p1 b f)).elim
  subst e;congr 1;refine Ro p2 q2 fun x=>⟨fun hx=>?_,fun hx=>?_⟩
  .rcases aV.1 ((h x).1 (aJ _ hx)) with e|e
   .subst e;exact(sH _ (p1 _ hx)).elim
   .exact e
  .rcases aV.1 ((h x).2 (aJ _ hx)) with e|e
   .subst e;exact(sH _ (q1 _ hx)).elim
   .exact e
def xP(l:List aa):Prop:= ∀x∈l,∀y∈l,cE x y=0->x=y
def UO: ∀{l:List aa} {x:aa},(x::l).Pairwise (fun a b=> ¬cA b a)->xP (x::l)->(lH x l).Pairwise cA/\(∀y∈lH x l,cA x y)/\ ∀y,y∈x::lH x l↔y∈x::l
 |[],_,_,_=>⟨.nil,(fun y hy=>by cases hy),fun _=>Iff.rfl⟩
 |z::l,x,h,ht=>by
  obtain⟨p1,p2⟩:=bU.1 h;obtain⟨i1,i2,i3⟩:=UO p2 fun a ha b hb=>ht a (aJ _ ha) b (aJ _ hb);rw[lH];by_cases e:cE z x=0
  .rw[if_pos e]
   obtain rfl:=ht z vb x vb e;exact⟨i1,i2,fun y=>by rw[i3];simp⟩
  .rw[if_neg e]
   have hb:cA x z:=by
    by_cases q:cA x z
    .exact q
    .exact absurd (ED (p1 z aQ) q) e
   refine⟨bU.2 ⟨i2,i1⟩,fun y hy=>?_,fun y=>?_⟩
   .rcases aV.1 hy with rfl|hy
    .exact hb
    .exact wE hb (i2 y hy)
   .rw[aV,i3,aV (b:=x) (l:=z::l)]
def Od: ∀(l:List aa) (x:aa),(lH x l).length<=l.length
 |[],_=>bW _
 |y::l,x=>by
  have:=Od l y;rw[lH];split<;>simp only[aN]<;>omega
def axO(l:List aa):(sF l).length<=l.length:=by
 cases l with
 |nil=>exact bW _
 |cons x l=>have:=Od l x;simp only[sF,aN];omega
def XN(h:l.Pairwise fun a b=> ¬cA b a)(ht:xP l):(sF l).Pairwise cA/\ ∀y,y∈sF l↔y∈l:=by
 cases l with
 |nil=>exact⟨.nil,fun _=>Iff.rfl⟩
 |cons x l=>
  obtain⟨i1,i2,i3⟩:=UO h ht;exact⟨bU.2 ⟨i2,i1⟩,i3⟩
def LZ(ht:xP l)(y:aa):y∈ji l↔y∈l:=by
 have h2: ∀y,y∈ji l->y∈l:=fun y hy=>by
  rcases Cs cE hy with h|h
  .exact h
  .cases h
 refine⟨h2 y,fun hy=>?_⟩;obtain⟨e,e1,e2⟩:=HT cE (o:=[]) hy;rcases e2 with rfl|e2
 .exact e1
 .rw[<-ht e (h2 e e1) y hy e2];exact e1
def Ns(ht:xP l):sF (qm cE l)=ji l:=by
 have hm: ∀y,y∈qm cE l↔y∈l:=fun y=>(yV cE l).mem_iff;have h1:(qm cE l).Pairwise fun a b=> ¬cA b a:=(M0 NK l).imp fun h=>by rw[<-nH];exact h
 obtain⟨k1,k2⟩:=XN h1 fun a ha b hb=>ht a ((hm a).1 ha) b ((hm b).1 hb);exact Ro k1 (Ls l) fun x=>by rw[k2,hm,LZ ht]
def aBe{t:Tr}(ht:t.all ah.ok)(p:aa):xP (eG t p):=fun x hx y hy h=>by
 obtain⟨l,k1,k2⟩:=qE.1 hx;obtain⟨m,k3,k4⟩:=qE.1 hy;obtain⟨a1,a2⟩:=pB k1;obtain⟨b1,b2⟩:=pB k3;exact Mh (jB ht _ a1) (jB ht _ b1) a2 b2 k2 k4 h
end Go.Sx
end
section
namespace Go.Proofs
open Go.Shelf
def Tryz.sortPt_ren:Go.Shelf.Ren:=⟨fun|6=>226|15=>284|14=>283|28=>293|29=>320|20=>312|21=>313|22=>314|23=>315|24=>316|25=>317|26=>318|27=>319|46=>331|47=>332|48=>333|49=>334|50=>335|57=>344|n=>n,fun|22=>105|24=>103|25=>340|3=>3|39=>226|0=>0|53=>225|55=>224|4=>4|46=>408|45=>407|50=>402|5=>5|9=>9|66=>425|70=>429|76=>434|77=>435|n=>n,fun|n=>n⟩
def Tryz.sortPt:Go.Proofs.SlLaysF0.n6 Tryz.prog Tryz.sortPt_ren:={
 mixed:=by kernel_rfl
 f6:=⟨Tryz.f226.name,by decide,Tryz.func226.trans (congrArg some (by kernel_rfl))⟩
 f14:=⟨Tryz.f283.name,by decide,Tryz.func283.trans (congrArg some (by kernel_rfl))⟩
 f15:=Tryz.func284.trans (congrArg some (by kernel_rfl))
 f20:=⟨Tryz.f312.name,by decide,Tryz.func312.trans (congrArg some (by kernel_rfl))⟩
 f21:=⟨Tryz.f313.name,by decide,Tryz.func313.trans (congrArg some (by kernel_rfl))⟩
 f22:=⟨Tryz.f314.name,by decide,Tryz.func314.trans (congrArg some (by kernel_rfl))⟩
 f23:=⟨Tryz.f315.name,by decide,Tryz.func315.trans (congrArg some (by kernel_rfl))⟩
 f24:=⟨Tryz.f316.name,by decide,Tryz.func316.trans (congrArg some (by kernel_rfl))⟩
 f25:=⟨Tryz.f317.name,by decide,Tryz.func317.trans (congrArg some (by kernel_rfl))⟩
 f26:=⟨Tryz.f318.name,by decide,Tryz.func318.trans (congrArg some (by kernel_rfl))⟩
 f27:=⟨Tryz.f319.name,by decide,Tryz.func319.trans (congrArg some (by kernel_rfl))⟩
 f28:=Tryz.func293.trans (congrArg some (by kernel_rfl))
 f29:=Tryz.func320.trans (congrArg some (by kernel_rfl))
 f46:=⟨Tryz.f331.name,by decide,Tryz.func331.trans (congrArg some (by kernel_rfl))⟩
 f47:=Tryz.func332.trans (congrArg some (by kernel_rfl))
 f48:=Tryz.func333.trans (congrArg some (by kernel_rfl))
 f49:=⟨Tryz.f334.name,by decide,Tryz.func334.trans (congrArg some (by kernel_rfl))⟩
 f50:=⟨Tryz.f335.name,by decide,Tryz.func335.trans (congrArg some (by kernel_rfl))⟩
 f57:=⟨Tryz.f344.name,by decide,Tryz.func344.trans (congrArg some (by kernel_rfl))⟩
 t0:=Tryz.underlying0
 a0:=Tryz.isAgg0
 z0:=Tryz.sizeOf0
 v0:=Tryz.zeroValue0
 t3:=Tryz.underlying3
 a3:=Tryz.isAgg3
 z3:=Tryz.sizeOf3
 v3:=Tryz.zeroValue3
 t4:=Tryz.underlying4
 a4:=Tryz.isAgg4
 z4:=Tryz.sizeOf4
 v4:=Tryz.zeroValue4
 t5:=Tryz.underlying5
 a5:=Tryz.isAgg5
 z5:=Tryz.sizeOf5
 v5:=Tryz.zeroValue5
 t9:=Tryz.underlying9
 a9:=Tryz.isAgg9
 z9:=Tryz.sizeOf9
 v9:=Tryz.zeroValue9
 t22:=Tryz.underlying105
 a22:=Tryz.isAgg105
 z22:=Tryz.sizeOf105
 v22:=Tryz.zeroValue105
 t25:=Tryz.underlying340
 a25:=Tryz.isAgg340
 z25:=Tryz.sizeOf340
 v25:=Tryz.zeroValue340
 t39:=Tryz.underlying226
 a39:=Tryz.isAgg226
 z39:=Tryz.sizeOf226
 v39:=Tryz.zeroValue226
 t45:=Tryz.underlying407
 a45:=Tryz.isAgg407
 z45:=Tryz.sizeOf407
 v45:=Tryz.zeroValue407
 t46:=Tryz.underlying408
 a46:=Tryz.isAgg408
 z46:=Tryz.sizeOf408
 v46:=Tryz.zeroValue408
 t50:=Tryz.underlying402
 a50:=Tryz.isAgg402
 z50:=Tryz.sizeOf402
 v50:=Tryz.zeroValue402
 t53:=Tryz.underlying225
 a53:=Tryz.isAgg225
 z53:=Tryz.sizeOf225
 v53:=Tryz.zeroValue225
 t55:=Tryz.underlying224
 a55:=Tryz.isAgg224
 z55:=Tryz.sizeOf224
 v55:=Tryz.zeroValue224
 t66:=Tryz.underlying425
 a66:=Tryz.isAgg425
 z66:=Tryz.sizeOf425
 v66:=Tryz.zeroValue425
 t70:=Tryz.underlying429
 a70:=Tryz.isAgg429
 z70:=Tryz.sizeOf429
 v70:=Tryz.zeroValue429
 t76:=Tryz.underlying434
 a76:=Tryz.isAgg434
 z76:=Tryz.sizeOf434
 v76:=Tryz.zeroValue434
 t77:=Tryz.underlying435
 a77:=Tryz.isAgg435
 z77:=Tryz.sizeOf435
 v77:=Tryz.zeroValue435}
end Go.Proofs
end
section
namespace Go.Sx
open Go Go.Proofs Tryz
variable {GB:Gh}{ds vs l V:List aa}{i k D j kb:Nat}{t u:Tr}{f:aa->Bool}{v p n q:aa}{es:List Int}{r:List ZP}{L:List ah}{R g x m:Rat}{s:bt}{ai al ae:Addr}{z:Int}
def aB8(hb: ∀d∈ds,aC d i)(hi:i<=10000000)(hn:ds.length<=10000000)(ht:xP ds):PW GB prog 226 [none,some (.v (.func (.func 227) #[] #[]))] 6 103 (ds.map eZ) (.tp []) ((qm cE ds).map eZ):=
 aMH (GB:=GB) Tryz.sortPt ⟨_,func226,J,J⟩ isAgg103 sizeOf103 eZ (fun d=>aC d i) (fun x=>⟨_,J,J,J⟩) cE NK ⟨_,func227,J,J⟩ (fun x y hx hy=>Id (i:=i) (j:=i) hi hi) hb m5
  (fun x hx y hy h k=>ht x hx y hy (ED (by rw[<-nH];exact h) (by rw[<-nH];exact k)))
def Yp(hb: ∀d∈ds,aC d i)(hi:i<=10000000)(hn:ds.length<=10000000)(ht:xP ds):PB GB prog 153 (eh [none]) 6 103 (ds.map eZ) (fun w=> .v (.slice w.a w.n w.c)) ((ji ds).map eZ):=by
 have hsm: ∀d∈qm cE ds,aC d i:=fun d hd=>hb d ((yV cE ds).mem_iff.1 hd);have hsl:(qm cE ds).length=ds.length:=(yV cE ds).length_eq;refine tj func153 J J ntmps153 J J (fun C=>?_);refine cw _ J (aB8 hb hi hn ht) J J<|cq ((ji ds).map eZ) J (axi (i0:=i) hsm m5 hi) (by rw[Ns ht]) J<|?_;exact m6 J J J J
theorem Ya(hb:t.all LB)(p:aa): ∀d∈eG t p,aC d 500:=fun d hd=>by
 obtain⟨l,h1,h2⟩:=qE.1 hd;haveI:=mH.1 hb l (pB h1).1;rcases h2 with rfl|rfl<;>infer_instance
theorem aIO(h: ∀d∈ds,aC d i)(h2:2<=i): ∀v∈lG ds,aC v (i+i+1):=fun v hv=>by
 have up: ∀{q:aa},aC q i->aC q (i+i+1):=fun hq=>⟨hq.x.mono m5,hq.y.mono m5⟩;unfold lG at hv;split at hv
 .rw[aY] at hv
  subst hv;exact⟨BQ.mono (k:=2) ⟨pb,pb⟩ m5,BQ.mono (k:=2) ⟨pb,pb⟩ m5⟩
 .obtain⟨k,hk,rfl⟩:=aT.1 hv
  have hk':=jU.1 hk;have g: ∀{j:Nat},j<ds.length->aC (ds.getD j ⟨0,0⟩) i:=fun{j} hj=>by
   rw[aK,aZ hj];exact h _ (cK hj)
  haveI:=g hk';haveI:=g (dJ (k+1) (show 0<ds.length by omega));unfold pf;split
  .exact inferInstance
  .exact up inferInstance
def aFm(ds:List aa):(lG ds).length<=ds.length+1:=by
 unfold lG;split
 .simp
 .rw[aX,lT];omega
def Tt(h:vs[k]? =some v):(vs.drop k).any f=(f v||(vs.drop (k+1)).any f):=by
 obtain⟨h1,h2⟩:=aS.1 h;rw[bV h1,h2,List.any_cons]
def P2(h:vs[k]? =some v):(vs.drop k).all f=(f v&&(vs.drop (k+1)).all f):=by
 obtain⟨h1,h2⟩:=aS.1 h;rw[bV h1,h2,tK]
def axm{b c:Bool}:PF GB prog 156 [vB b,vB c] (vI (if b&&c then 2 else if b then 1 else 0)):=by
 refine fn func156 J J ntmps156 J J (fun C=>?_);refine je 7 J J J (fun hg7=>?_) (fun hg7=>?_)
 .refine bb J J J (fun hc5=>?_) (fun hc5=>?_)
  .exact rz J (by subst hg7 hc5;rfl)
  .refine bb J J J (fun hc10=>?_) (fun hc10=>?_)
   .exact rz J (by subst hg7 hc5;rfl)
   .subst hg7;cases hc10
 .refine bb J J J (fun hc10=>?_) (fun hc10=>?_)
  .subst hg7;cases hc10
  .exact rz J (by subst hg7;rfl)
theorem okk{p:Prop}(h:p:=by dsimp only;exact⟨⟨by rw[<-h1,Tt hx,hc28];simp,by rw[<-h2,P2 hx,hc28];simp,m5⟩,m5⟩):p:=h
def aCx[hp:aC p i](hb:t.all LB)(ho:t.all ah.ok)(hs:t.size<=400000)(hi:i<=10000000:=by decide):PF GB prog 84 [eU t,eZ p] (vI (rk t p)):=by
 have hrl:=EU t p;have hrb:=Ya hb p;have hrt:=aBe ho p;have hdb: ∀d∈ji (eG t p),aC d 500:=fun d hd=>hrb d ((LZ hrt d).1 hd);have hdl:(ji (eG t p)).length<=(eG t p).length:=by rw[<-Ns hrt];exact dZ (axO _) (Nat.le_of_eq (yV cE _).length_eq)
 have hsb:=aIO hdb pb;obtain⟨vs,hvs⟩: ∃vs,vs=lG (ji (eG t p)):=⟨_,rfl⟩;have hvl:vs.length<=(ji (eG t p)).length+1:=by rw[hvs];exact aFm _
 rw[<-hvs] at hsb;have hml:(vs.map eZ).length=vs.length:=aX ..;refine fn func84 J J ntmps84 J J (fun C=>?_);refine Tg ((eG t p).map eZ) J (BT (p:=p) (o:=[]) hi hb (by rw[eK];omega)) J J<|cq ((ji (eG t p)).map eZ) J (Yp hrb pb m5 hrt) J J<|fz 14 J J<|cl (fu:=⟨0⟩) J (YL (ds:=ji (eG t p)) (i:=500) hdb m5) J<|aj 15 (.d (.sl (vs.map eZ))) J (by rw[hvs])<|gx (fu:=⟨1⟩) J<|aj 16 (.d (vI (vs.length:Nat))) J omh<|gx J<|Kw 5 _ J J<|Kw 6 _ J J<|lp (X:=Bool×Bool×Nat) (fun⟨a,c,k⟩=>[(17, .d (vI (k:Nat))),(5, .d (vB a)),(6, .d (vB c))]) (fun⟨a,c,k⟩=>[]) (fun⟨a,c,k⟩=>(a||(vs.drop k).any (fun v=>(gO t p v).1))=vz t p/\(c&&(vs.drop k).all (fun v=>(gO t p v).1))=zq t p/\k<=vs.length) (fun⟨a,c,k⟩=>vs.length-k) ⟨false,true,0⟩ J ⟨by rw[hvs];simp[vz],by rw[hvs];simp[zq],bK _⟩ (fun _=>J) (fun⟨a,c,k⟩ hk=>?_)
 try dsimp only at hk⊢
 obtain⟨h1,h2,h3⟩:=hk;refine br J J J (fun hc18=>?_) (fun hc18=>?_)
 .
  obtain⟨v,hx⟩: ∃v,vs[k]? =some v:=⟨_,aZ m5⟩;haveI:=hsb v (aW hx);refine ix _ J (cO hx) J<|cl J (azf (t:=t) (p:=p) (v:=v) (i:=i) (j:=500+500+1) hb hi pb) J<|bb J J J (fun hc28=>?_) (fun hc28=>?_)
  .
   refine SG 5 _ J J<|at_ ⟨true,c,k+1⟩ okk
  .
   refine SG 6 _ J J<|at_ ⟨a,false,k+1⟩ okk
 .
  obtain rfl:k=vs.length:=by omega
  rw[fR] at h1 h2;have e1:a=vz t p:=by simpa using h1
  have e2:c=zq t p:=by simpa using h2
  refine cl J (axm (b:=a) (c:=c)) J<|rz J (by rw[e1,e2];rfl)
def X5[hp:aC p i](h:kw k t)(hi:i<=10000000:=by decide):PF GB prog 31 [eA t,oc p] (.tp [vI (rk t p), .v .nilIface]):=by
 have hts:=h.s;refine fn func31 J J ntmps31 J J (fun C=>?_);refine cl (fu:=⟨11⟩) J (O1 h) J<|mo 13 J<|gx J<|cl J (Sz (p:=p) (i:=i) m5) J<|cl J (aCx (t:=t) (p:=p) (i:=i) h.lb h.ok m5 hi) J<|rz J J




def aLV{a:aa}{t:List aa}:vC (a::t) a=((0:Nat):Int):=Dx (k:=0) (q:=a) J J ⟨J,J⟩
def avo{a b c:aa}{t:List aa}(h1:a≠b)(h2:a≠c)(h3:b≠c):3<=gu (a::b::c::t) (a::b::c::t).length:=by
 have ne: ∀{x y:aa},x≠y->(!decide (x.x=y.x/\x.y=y.y))=true:=fun{x y} h=>by
  rw[decide_eq_false (fun k=>h (by cases x;cases y;simp only[aa.mk.injEq] at*;exact k))];rfl
 have e0:=Ey (l:=a::b::c::t) (k:=0) (p:=a) J aLV;have e1:=Ey (l:=a::b::c::t) (k:=1) (p:=b) J (Dx (k:=1) (q:=b) J (by simp only[List.take,tK,List.all_nil,Bool.and_true,ne h1]) ⟨J,J⟩);have e2:=Ey (l:=a::b::c::t) (k:=2) (p:=c) J (Dx (k:=2) (q:=c) J (by simp only[List.take,tK,List.all_nil,Bool.and_true,ne h2,ne h3]) ⟨J,J⟩);have mono: ∀n m,n<=m->gu (a::b::c::t) n<=gu (a::b::c::t) m:=by
  intro n m h
  induction m with
  |zero=>rw[show n=0 by omega];exact bW _
  |succ m ih=>
   by_cases k:n=m+1
   .rw[k];exact bW _
   .exact dZ (ih m5) TE
 have:=mono 3 (a::b::c::t).length vb;have z:gu (a::b::c::t) 0=0:=J;rw[eM] at e0;rw[show 1+1=2 from J] at e1;rw[show 2+1=3 from J] at e2;omega
def J'{a b c:ZP}{t:List ZP}(ho:iG (a::b::c::t))(h1:a≠b)(h2:a≠c)(h3:b≠c):wV (a::b::c::t):=
 ⟨ho,avo (t:=t.map ZP.q) (fun e=>h1 (Dm e)) (fun e=>h2 (Dm e)) (fun e=>h3 (Dm e))⟩
def Lr{a b c d:Int}(ho:iG (fD a b c d))(h1:a<c)(h2:b<d):wV (fD a b c d):=
 J' ho (fun e=>by have:=congrArg Prod.fst e;dsimp only at this;omega) (fun e=>by have:=congrArg Prod.fst e;dsimp only at this;omega) (fun e=>by have:=congrArg Prod.snd e;dsimp only at this;omega)
theorem oza{p:Prop}(h:p:=by dsimp only;omega):p:=h
def Yr{p u v:ZP}(ho:iG (im p u v))(h:kv u v≠0):wV (im p u v):=by
 have hu: ∀{a b:ZP},(a=(0,0)\/b=(0,0)\/a=b)->kv a b=0:=fun{a b} k=>by
  unfold kv;rcases k with rfl|rfl|rfl
  .simp
  .simp
  .rw[sW];omega
 refine J' ho (fun e=>h (hu (.inl ?_))) (fun e=>h (hu (.inr (.inl ?_)))) (fun e=>h (hu (.inr (.inr ?_))))
 .have e1:=congrArg Prod.fst e
  have e2:=congrArg Prod.snd e;unfold kP at e1 e2;dsimp only at e1 e2;exact Prod.ext oza oza
 .have e1:=congrArg Prod.fst e
  have e2:=congrArg Prod.snd e;unfold kP at e1 e2;dsimp only at e1 e2;exact Prod.ext oza oza
 .have e1:=congrArg Prod.fst e
  have e2:=congrArg Prod.snd e;unfold kP at e1 e2;dsimp only at e1 e2;exact Prod.ext m5 m5
def aEk{a:Nat}(ha:a<=es.length):wV (dE es a).1:=by
 have hok:=(zo ha).1;unfold dE at*;dsimp only at*;split
 .rename_i h
  rw[if_pos h] at hok;unfold xz at*;dsimp only at*;exact Lr hok m5 m5
 .rename_i h
  rw[if_neg h] at hok;dsimp only at*;split
  .rename_i k
   rw[if_pos k] at hok;exact Yr hok m5
  .exact J' Sk pb pb pb







section
end





section
variable {C:aG}{n:Nat}{Q0:Exit->Act->World->Prop}{fr fr' fr1 fr2:aD}{own own' own1 own2:aI}{cf cf' cf1 cf2:Cf}{vc vc1 vc2:List Prop}
end





def Ll{a D:Rat}(hg:g≠0)(hR:R*D=g)(ha:a*D=x):a*R⁻¹=x*g⁻¹:=by
 have h1:g*g⁻¹=1:=rN g hg;have hR0:R≠0:=fun e=>hg (by rw[<-hR,e];grind);have h2:R*R⁻¹=1:=rN R hR0;generalize R⁻¹=r at*;generalize g⁻¹=s at*;have:r=D*s:=by
  have h3:R*(r-D*s)=0:=by grind
  have:=(fX.1 h3).resolve_left hR0;grind
 grind
def aKE{a b c:Rat}(h0: ¬(a=0/\b=0)):a*(rgcd (rgcd a b) c)⁻¹=((ew a b c).a:Rat)/\b*(rgcd (rgcd a b) c)⁻¹=((ew a b c).b:Rat)/\c*(rgcd (rgcd a b) c)⁻¹=((ew a b c).c:Rat):=by
 obtain⟨k1,k2,k3⟩:=In a b c;have hn:=C5 (c:=c) h0;have hD:=O2 a b c;have hr:=Pn hD (Pn hD k1 k2) k3;unfold ew;generalize a.num*(b.den*c.den:Nat)=x at*;generalize b.num*(a.den*c.den:Nat)=y at*;generalize c.num*(a.den*b.den:Nat)=z at*;rw[fK] at hr;have hgn:Nat.gcd x.natAbs y.natAbs≠0:=fun h=>hn ⟨lZ.1 (mS h),lZ.1 (mU h)⟩;have hgp:0<Nat.gcd (Nat.gcd x.natAbs y.natAbs) z.natAbs:=mV _ (iR hgn);have hg:(((Nat.gcd (Nat.gcd x.natAbs y.natAbs) z.natAbs:Nat):Int):Rat)≠0:=fun e=>by
  have:((Nat.gcd (Nat.gcd x.natAbs y.natAbs) z.natAbs:Nat):Int)=0:=by exact_mod_cast e
  omega
 refine⟨?_,?_,?_⟩
 .rw[Ll hg hr k1];exact Hl hgp (rT (lV _ _) (lV _ _))
 .rw[Ll hg hr k2];exact Hl hgp (rT (lV _ _) (mY _ _))
 .rw[Ll hg hr k3];exact Hl hgp (mY _ _)
theorem omN{p:Prop}(h:p:=by intro q hq;simp only[aV,fJ,or_false] at hq;rcases hq with rfl|rfl|rfl;exact ha.mono pb;exact hb.mono pb;exact hc.mono pb):p:=h
theorem omR{p:Prop}(h:p:=by intro q hq;simp only[aV,fJ,or_false] at hq;rcases hq with rfl|rfl|rfl;exact yQ ha;exact yQ hb;exact yQ hc):p:=h
def Rk{a b c:Rat}[ha:BQ a 62][hb:BQ b 62][hc:BQ c 62](h0: ¬(a=0/\b=0)):PF GB prog 217 [eF a,eF b,eF c] (.tp [dt (ew a b c),vB true]):=by
 obtain⟨e1,e2,e3⟩:=aKE (c:=c) h0;haveI:BQ (rgcd a b) 260:=BQ.mono (inferInstance:BQ (rgcd a b) _);haveI:BQ (rgcd (rgcd a b) c) 700:=BQ.mono (inferInstance:BQ (rgcd (rgcd a b) c) _);haveI:BQ (rgcd (rgcd a b) c)⁻¹ 700:=BQ.mono (inferInstance:BQ (rgcd (rgcd a b) c)⁻¹ _);have hl4:([((ew a b c).a:Rat),((ew a b c).b:Rat),((ew a b c).c:Rat)].map eF).length=3:=J;have hl3:[((ew a b c).a:Rat),((ew a b c).b:Rat),((ew a b c).c:Rat)].length=3:=J;refine fn func217 J J ntmps217 J J (fun C=>?_);refine cl J (A6 (q:=a)) J<|csd 11 J J J (fun hg11=>?_) (fun hg11=>?_)
 .
  refine cl J (A6 (q:=b)) J<|bd J J J (fun hc14=>?_) (fun hc14=>?_)
  .
   exact absurd ⟨hg11,hc14⟩ h0
  .
   refine cl rfl (vr (p:=a) (q:=b) (i:=62) (j:=62)) rfl<|cl rfl (vr (p:=rgcd a b) (q:=c) (i:=260) (j:=62)) rfl<|cl rfl (EW (q:=rgcd (rgcd a b) c) (i:=700)) rfl<|ro (fu:=⟨0⟩) J J<|cq (hv:=by simp only[ak];exact⟨v6,m5⟩) ([((ew a b c).a:Rat),((ew a b c).b:Rat),((ew a b c).c:Rat)].map eF) rfl (LL (L:=[a,b,c]) (k:=(rgcd (rgcd a b) c)⁻¹) (i:=700) omR omN (nb rfl)) (by simp only[bY,iQ,e1,e2,e3]) rfl<|lb _ J J J<|lb _ J J J<|lb _ J J J<|rz J J
 .
  refine cl rfl (vr (p:=a) (q:=b) (i:=62) (j:=62)) rfl<|cl rfl (vr (p:=rgcd a b) (q:=c) (i:=260) (j:=62)) rfl<|cl rfl (EW (q:=rgcd (rgcd a b) c) (i:=700)) rfl<|ro (fu:=⟨0⟩) J J<|cq (hv:=by simp only[ak];exact⟨v6,m5⟩) ([((ew a b c).a:Rat),((ew a b c).b:Rat),((ew a b c).c:Rat)].map eF) rfl (LL (L:=[a,b,c]) (k:=(rgcd (rgcd a b) c)⁻¹) (i:=700) omR omN (nb rfl)) (by simp only[bY,iQ,e1,e2,e3]) rfl<|lb _ J J J<|lb _ J J J<|lb _ J J J<|rz J J
def HV{a b c:Rat}(ha:BQ a i)(hb:BQ b j)(hc:BQ c k):(a.num*(b.den*c.den:Nat)).natAbs<2^(i+(j+k)):=by
 rw[fL,fK];exact mv ha.hn (mv hb.hd hc.hd)
theorem Ui{a:Nat}(ha:a<=es.length):BQ (qF es a).1 5/\(qF es a).2<=es.length:=by
 have h1:=fp (es:=es) (n:=9) (a:=a);refine⟨?_,jf (jf ha)⟩;unfold qF;dsimp only;split
 .exact uT pb m5
 .split
  .exact uT pb m5
  .haveI:BI (((au es 9 a).1:Int)-4:Int) 4:=K0
   have e:((((au es 9 a).1:Rat)-4):Rat)=((((au es 9 a).1:Int)-4:Int):Rat):=by rw[gV];rfl
   rw[e];exact inferInstance
theorem VG{a:Nat}(ha:a<=es.length):aC (vd es a).1 5/\(vd es a).2<=es.length:=by
 obtain⟨h1,h2⟩:=Ui ha;obtain⟨h3,h4⟩:=Ui h2;exact⟨⟨h1,h3⟩,h4⟩
def aBt{a b c:aa}[ha:aC a i][hb:aC b j][hc:aC c k](hi:i<=80000:=by decide)(hj:j<=80000:=by decide)(hk:k<=80000:=by decide):PF GB prog 104 [eZ a,eZ b,eZ c] (vI (aB a b c).num.sign):=by
 haveI h1:=EM b a;haveI h2:=EM c a;have e:(⟨b.x-a.x,b.y-a.y⟩:aa).cross ⟨c.x-a.x,c.y-a.y⟩=aB a b c:=by unfold aa.cross aB;grind
 refine fn func104 J J ntmps104 J J (fun C=>?_);refine cl J (Ha (p:=b) (q:=a) (i:=j) (j:=i) m5 m5) J<|cl J (Ha (p:=c) (q:=a) (i:=k) (j:=i) m5 m5) J<|cl J (A8 (p:=⟨b.x-a.x,b.y-a.y⟩) (q:=⟨c.x-a.x,c.y-a.y⟩) (i:=j+i+1) (j:=k+i+1) (hp:=h1) (hq:=h2) m5 m5) J<|cl J (l6 (q:=(⟨b.x-a.x,b.y-a.y⟩:aa).cross ⟨c.x-a.x,c.y-a.y⟩) (h:= @BQ.cross _ _ _ _ h1 h2) m5) J<|rz J (by rw[e]<;>rfl)
def q6(n p:aa)(t:List aa)(k:Nat):Rat:=(t.take k).foldl (fun b q=>if n.dot q<b then n.dot q else b) (n.dot p)
def LE{t:List aa}(h:t[k]? =some q):q6 n p t (k+1)=if n.dot q<q6 n p t k then n.dot q else q6 n p t k:=by
 unfold q6;rw[dT,h];simp only[pN,oM,jN,List.foldl_nil]
theorem DG{n p:aa}{t:List aa}{i j:Nat}[hn:aC n i](hb: ∀q∈p::t,aC q j): ∀k,BQ (q6 n p t k) (i+j+(i+j)+1)
 |0=>by
  haveI:=hb p aQ;exact(inferInstance:BQ (n.dot p) _)
 |k+1=>by
  cases h:t[k]? with
  |none=>
   have e:q6 n p t (k+1)=q6 n p t k:=by
    unfold q6;rw[dT,h];simp
   rw[e];exact DG hb k
  |some q=>
   rw[LE h];haveI:=hb q (aJ _ (aW h));split
   .exact(inferInstance:BQ (n.dot q) _)
   .exact DG hb k
theorem O6[aC n i](hb: ∀q∈l,aC q j)(hne:l≠[]):BQ (ku n l) (i+j+(i+j)+1):=by
 cases l with
 |nil=>exact absurd J hne
 |cons p t=>
  have:=DG (n:=n) (i:=i) hb t.length;unfold q6 at this;rwa [dX] at this
def Lq(l:List aa):dm 6 (l.map eZ):=fun d hd=>by
 obtain⟨x,_,rfl⟩:=aT.1 hd;exact⟨J,J⟩
def UP[hn:aC n i](hb: ∀q∈l,aC q j)(hne:l≠[])(hi:i<=20000)(hj:j<=20000)(hk:l.length<=100000):PF GB prog 218 [eZ n, .sl (l.map eZ)] (eF (ku n l)):=by
 obtain⟨p,t,rfl⟩: ∃p t,l=p::t:=by cases l with|nil=>exact absurd rfl hne|cons p t=>exact⟨p,t,rfl⟩
 have hml:((p::t).map eZ).length=t.length+1:=by simp
 have hml2:(t.map eZ).length=t.length:=aX ..;rw[aN] at hk;have hp:=hb p aQ;obtain⟨S,hS⟩: ∃S,S=q6 n p t:=⟨_,rfl⟩;have hSb: ∀k,BQ (S k) (i+j+(i+j)+1):=by rw[hS];exact DG hb
 have hS0:n.dot p=S 0:=by rw[hS];rfl
 refine fn func218 J J ntmps218 J J (fun C=>?_);refine ix _ J J J<|cl (fu:=⟨0⟩) J (uN (p:=n) (q:=p) (i:=i) (j:=j) m5 m5) J<|aj 12 (.d (eF (S 0))) J (by rw[hS0])<|gx J<|kt (fu:=⟨1⟩) 1 (t.length+1) (t.map eZ) J J (by rw[hml]) (by rw[bM (by rw[hml];exact bW _)];rfl) (Lq _) m5 m5 J<|aj 15 (.d (vI (t.length:Nat))) J (by rw[hml2]<;>rfl)<|gx J<|lp (X:=Nat) (fun k=>[(16, .d (vI (k:Nat))),(5, .ov 5 0)]) (fun k=>[(5,some (.o 101 [.d (vI (ek (S k))), .d (vI (eo (S k))), .d (dH (S k))] true))]) (fun k=>k<=t.length) (fun k=>t.length-k) 0 J (bK _) (fun _=>J) (fun k hk=>?_);haveI:=hSb k;refine br J J J (fun hc17=>?_) (fun hc17=>?_)
 .
  obtain⟨q,hx⟩: ∃u,t[k]? =some u:=⟨_,aZ m5⟩;haveI:=hb q (aJ _ (aW hx));have eS:S (k+1)=if n.dot q<S k then n.dot q else S k:=by rw[hS];exact LE hx
  refine ix _ J (cO hx) J<|cl J (uN (p:=n) (q:=q) (i:=i) (j:=j) m5 m5) J<|cl (fu:=⟨0⟩) J (QJ (p:=S k) (q:=n.dot q) (i:=i+j+(i+j)+1) (j:=i+j+(i+j)+1) m5 m5) J<|aj 24 (.d (eF (S (k+1)))) J (by rw[eS])<|gx (hv:=by simp only[ak];exact⟨v6,m5⟩) J<|at_ (k+1) ⟨m5,m5⟩
 .
  obtain rfl:k=t.length:=by omega
  exact rz J (by rw[hS];unfold q6;rw[dX]<;>rfl)
def aOf:Option Rat->DV
 |some m=> .tp [eF m,vB true]
 |none=> .tp [.ag [vI 0,vI 0, .v (.pointer none)],vB false]
theorem QW{c:ar}(hc:fE c): ∀q∈j0 c,aC q 3500:=fun q hq=>by
 rcases aL.1 hq with h|h
 .obtain⟨s,hs,rfl⟩:=aT.1 h
  exact aA4 (hc s hs)
 .have hlb: ∀l∈c.map (fun s=>s.l),LB l:=fun l hl=>by
   obtain⟨s,hs,rfl⟩:=aT.1 hl;exact(hc s hs).lb
  exact aC.mono (aA7 hlb q h)
def Tk{c:ar}(h:c=[]\/vv n c=true):iI c n=none:=by
 unfold iI;rw[if_pos];rcases h with h|h
 .rw[h];rfl
 .rw[h,sS]
def KP{c:ar}(hs:s∈c)(h:jt n s=true):iI c n=none:=by
 unfold iI;split
 .rfl
 .rw[if_pos (iU.2 ⟨s,hs,h⟩)]
def aEU{c:ar}(h0:c≠[])(h1:vv n c=false)(h: ∀s∈c,jt n s=false):iI c n=some (ku n (j0 c)):=by
 unfold iI;have e:c.isEmpty=false:=by cases c with|nil=>exact absurd J h0|cons s t=>rfl
 rw[e,h1,if_neg pb,if_neg (fun k=>by obtain⟨s,hs,k⟩:=iU.1 k;rw[h s hs] at k;cases k)]
def tG(c:ar):List aa:=c.map fun s=>s.l.at s.v.sample
def aAw{c:ar}(h:c[k]? =some s):((tG (c.take k)).map eZ)++[eZ (s.l.at s.v.sample)]=(tG (c.take (k+1))).map eZ:=by
 unfold tG;rw[dT,h,bX,bX];rfl
def aBR{c:ar}(h:c.length≠1):vv n c=false:=by
 match c,h with
 |[],_=>rfl
 |[s],h=>exact absurd J h
 |_::_::_,_=>rfl
def DY:x.num.sign<0↔x<0:=by
 rw[<-Rat.not_le,<-sY];constructor
 .intro h k
  rcases(show x.num=0\/0<x.num by omega) with e|e
  .rw[e] at h;exact absurd h pb
  .rw[eJ e] at h;omega
 .intro h
  rw[dY m5];decide
def aJW:0<x.num↔0<x:=by
 constructor
 .intro h
  refine Rat.not_le.1 fun k=>?_;have h2:=sY.2 (show 0<= -x by grind);rw[nQ] at h2;omega
 .intro h
  have h1:=sY.2 (cR h);have h2:x.num≠0:=fun e=>by rw[lX.1 e] at h;exact absurd h pb
  omega
def FK:0<x.num.sign↔0<x:=by
 rw[<-aJW];constructor
 .intro h
  refine Decidable.not_not.1 fun k=>?_;rcases(show x.num=0\/x.num<0 by omega) with e|e
  .rw[e] at h;exact absurd h pb
  .rw[dY e] at h;exact absurd h pb
 .intro h
  rw[eJ h];decide
def XA(h:s.v.nh=true)(k:(s.l.dir.dot n).num.sign<0):jt n s=true:=by
 unfold jt;rw[h,decide_eq_true (DY.1 k)];rfl
def Uo(h:s.v.nl=true)(k:0<(s.l.dir.dot n).num.sign):jt n s=true:=by
 unfold jt;rw[h,decide_eq_true (FK.1 k),tX,sS]
def CG(h1:s.v.nh=false\/ ¬(s.l.dir.dot n).num.sign<0)(h2:s.v.nl=false\/ ¬0<(s.l.dir.dot n).num.sign):jt n s=false:=by
 unfold jt;have e1:(s.v.nh&&decide (s.l.dir.dot n<0))=false:=by
  rcases h1 with h|h
  .rw[h];rfl
  .rw[decide_eq_false fun k=>h (DY.2 k),Bool.and_false]
 have e2:(s.v.nl&&decide (0<s.l.dir.dot n))=false:=by
  rcases h2 with h|h
  .rw[h];rfl
  .rw[decide_eq_false fun k=>h (FK.2 k),Bool.and_false]
 rw[e1,e2];rfl
def aHy{c:ar}(h:c[k]? =some s)(hk: ∀s∈c.take k,jt n s=false)(hs:jt n s=false): ∀s∈c.take (k+1),jt n s=false:=fun u hu=>by
 rw[dT,h] at hu;rcases aL.1 hu with hu|hu
 .exact hk u hu
 .rw[show u=s by simpa using hu];exact hs
def Ql{c:ar}(h:c≠[]):j0 c≠[]:=fun e=>h (by
 have:=(List.append_eq_nil_iff.1 e).1;exact List.map_eq_nil_iff.1 this)
def Yc(c:ar)(h:c.length<=20000):(j0 c).length<=100000:=by
 unfold j0;have:=QO (c.map (·.l));rw[aU,aX];rw[aX] at this;omega
def PC{c:ar}[hn:aC n j](hc:fE c)(hj:j<=10000)(hk:c.length<=20000):PF GB prog 220 [eC c,eZ n] (aOf (iI c n)):=by
 have hml:(c.map dx).length=c.length:=aX ..;have hback: ∀s,c[0]? =some s->c.length=1->vv n c=decide (s.l.nor.dot n<0):=fun s h1 h2=>by match c,h1,h2 with|[u],h1,_=>cases h1;rfl
 refine fn (fu:=⟨8⟩) func220 J J ntmps220 J J (fun C=>?_);refine mg (X:=Unit) (fun _=>[]) (fun _=>[]) (fun _=>c≠[]/\vv n c=false) [] [] rfl ?_ (fun _=>J) (fun _ hm=>?_)
 .
  refine gx (fu:=⟨4⟩) J<|aj 11 (.d (vI (c.length:Nat))) J omh<|gx (fu:=⟨0⟩) J<|kC (v1:=fun hg12=>by simp only[ak];kernel_rfl) (fu2:=⟨3⟩) J J J J (fun hg12=>?_) (fun hg12=>?_)
  .
   exact rz J (by rw[Tk (.inl (cJ m5))]<;>rfl)
  .
   have hc0:c≠[]:=fun e=>hg12 (by rw[e];rfl);refine aj 15 (.d (vI (c.length:Nat))) J omh<|gx (fu:=⟨0⟩) J<|kC (v2:=fun hg16=>by simp only[ak];kernel_rfl) J J J J (fun hg16=>?_) (fun hg16=>?_)
   .
    obtain⟨s,hx⟩: ∃s,c[0]? =some s:=⟨_,aZ m5⟩;have hbe:=hback s hx m5;haveI:=(hc s (aW hx)).lb;haveI:=(hc s (aW hx)).v.lo;haveI:=(hc s (aW hx)).v.hi;refine ix _ J (aNP hx) J<|cl J (vJ (l:=s.l)) J<|cl J (uN (p:=s.l.nor) (q:=n) (i:=97) (j:=j) pb m5) J<|cl J (l6 (q:=s.l.nor.dot n) m5) J<|br J J J (fun hc28=>?_) (fun hc28=>?_)
    .
     exact rz J (by rw[Tk (.inr (by rw[hbe];exact decide_eq_true (DY.1 hc28)))]<;>rfl)
    .
     exact at_ () ⟨hc0,by rw[hbe];exact decide_eq_false fun k=>hc28 (DY.2 k)⟩
   .
    exact at_ () ⟨hc0,aBR m5⟩
 .
  obtain⟨hne,hbk⟩:=hm;refine nr 6 6 103 6 J J J<|lp (X:=Nat) (fun k=>[(32, .d (vI (k:Nat))),(6, .rw 6)]) (fun k=>[(6,some (.b 103 6 ((tG (c.take k)).map eZ) true))]) (fun k=>k<=c.length/\ ∀s∈c.take k,jt n s=false) (fun k=>c.length-k) 0 J ⟨bK _,fun s hs=>by simp at hs⟩ (fun _=>J) (fun k hk=>?_);obtain⟨hk1,hk2⟩:=hk;have hm4:(tG (c.take k)).length<=k:=by unfold tG;rw[aX,bL];omega
  have hm3:((tG (c.take k)).map eZ).length<=k:=by rw[aX];exact hm4
  refine br J J J (fun hc33=>?_) (fun hc33=>?_)
  .
   obtain⟨s,hx⟩: ∃u,c[k]? =some u:=⟨_,aZ m5⟩;haveI:=(hc s (aW hx)).lb;haveI:=(hc s (aW hx)).v.lo;haveI:=(hc s (aW hx)).v.hi;refine ix _ J (cO hx) J<|cl J (wC (l:=s.l)) J<|cl J (uN (p:=s.l.dir) (q:=n) (i:=97) (j:=j) pb m5) J<|cl (fu:=⟨4⟩) J (l6 (q:=s.l.dir.dot n) m5) J<|mg (X:=Unit) (fun _=>[]) (fun _=>[]) (fun _=>jt n s=false) [] [] rfl ?_ (fun _=>J) (fun _ hop=>?_)
   .
    refine gx J<|je 45 J J J (fun hg45=>?_) (fun hg45=>?_)
    .
     refine cs 49 J J J (fun hg49=>?_) (fun hg49=>?_)
     .
      exact rz J (by rw[KP (aW hx) (XA hg45 hg49)]<;>rfl)
     .
      refine je 53 J J J (fun hg53=>?_) (fun hg53=>?_)
      .
       refine br J J J (fun hc57=>?_) (fun hc57=>?_)
       .
        exact rz J (by rw[KP (aW hx) (Uo hg53 hc57)]<;>rfl)
       .
        exact at_ () (CG (.inr hg49) (.inr hc57))
      .
       exact at_ () (CG (.inr hg49) (.inl hg53))
    .
     refine je 53 J J J (fun hg53=>?_) (fun hg53=>?_)
     .
      refine br J J J (fun hc57=>?_) (fun hc57=>?_)
      .
       exact rz J (by rw[KP (aW hx) (Uo hg53 hc57)]<;>rfl)
      .
       exact at_ () (CG (.inl hg45) (.inr hc57))
     .
      exact at_ () (CG (.inl hg45) (.inl hg53))
   .
    refine cl J (RZ (v:=s.v) (i:=1200)) J<|cl J (Rl (l:=s.l) (t:=s.v.sample)) J<|rf J J<|ap (hv:=by simp only[ak];exact⟨v6,m5⟩) ((tG (c.take (k+1))).map eZ) J (aAw hx) (Lq [_]) J<|fI 67 6 J<|at_ (k+1) ⟨⟨m5,aHy hx hk2 hop⟩,m5⟩
  .
   obtain rfl:k=c.length:=by omega
   rw[dX] at hk2⊢;have hm5:(tG c).length=c.length:=aX ..;have hm6:=QO (c.map (·.l));rw[aX] at hm6;refine cl J (ZR (c:=c) (fun s hs=>(hc s hs).lb) m5) J<|mz ((j0 c).map eZ) J (by unfold j0 tG;rw[bX]<;>rfl) (Lq _) J<|cl J (UP (n:=n) (l:=j0 c) (i:=j) (j:=3500) (QW hc) (Ql hne) m5 pb (Yc c m5)) J<|rz J (by rw[aEU hne hbk hk2]<;>rfl)
def V1{c:ar}[hn:aC n j](hc:fE c)(hj:j<=10000)(hk:c.length<=20000)(h:iI c n=some m):PF GB prog 220 [eC c,eZ n] (.tp [eF m, .v (.bool true)]):=by
 have:=PC (GB:=GB) (n:=n) hc hj hk;rw[h] at this;exact this
def aIL{c:ar}[hn:aC n j](hc:fE c)(hj:j<=10000)(hk:c.length<=20000)(h:iI c n=none):PF GB prog 220 [eC c,eZ n] (.tp [.ag [vI 0,vI 0, .v (.pointer none)], .v (.bool false)]):=by
 have:=PC (GB:=GB) (n:=n) hc hj hk;rw[h] at this;exact this
def CY{P:Nat->Prop}(h: ∀i<k,P i)(hk:P k): ∀i<k+1,P i:=fun i hi=>by
 rcases Nat.lt_succ_iff_lt_or_eq.1 hi with h1|h1
 .exact h i h1
 .rw[h1];exact hk
def Zs{v:List aa}(hb: ∀u∈v,aC u i)(hi:i<=80000)(hn:v.length<=100000):PF GB prog 101 [.sl (v.map eZ)] (vB (mP v)):=by
 have hrl:(oz v).length=v.length:=by unfold oz;rw[aX,lT]
 have hml:(v.map eZ).length=v.length:=aX ..;refine Ji func101 J J ntmps101 J J (fun C h0=>?_);refine HO J J J J3 (fun _=>J) (fun GB1 pv hg1 hpv=>?_);refine yX 1 2000001 h0.fx J<|yX 2 2000002 h0.fx J ?_;refine GJ (σ:=Unit) (fun _=>[(2000001,some (.o 106 [.d (.sl (v.map eZ))] true)),(2000002,some (.o 4 [.ff] true))]) (fun k=> ∀k'<k,∀i<v.length,uM v k' i=true) (fun _=>[(2000001,some (.o 106 [.d (.sl (v.map eZ))] true)),(2000002,some (.o 4 [.ff] true))]) (fun _=>mP v=false) [(1, .ov 2000001 0),(2, .ov 2000002 0)] h0 J (Hv) (.cons hpv .nil) ⟨J,J,trivial⟩ J ⟨J,J,trivial⟩ (fun k hk=>absurd hk (tW k)) ID J J (fun k e GB' hE hg hp=>?_) (fun D hD hx hp=>?_) (fun D s hD hx hq=>?_)
 .obtain⟨q1,q2,hpx,hqx,rfl⟩:=JT hE
  haveI:=hb q1 (aW hpx);haveI:=hb q2 (aW hqx);have hkn:=(aS.1 hpx).1;refine⟨?_,?_,fun C2=>?_,fun C2=>?_⟩
  rotate_left 2
  .refine gx J<|Gz J J J ⟨J,J,J⟩ J ?_
   exact atR
  .skip
   refine gx (fu:=⟨5⟩) J<|aj 12 (.d (vI (v.length:Nat))) J omh<|gx J<|lp (X:=Nat) (fun j=>[(13, .d (vI (j:Nat)))]) (fun j=>[]) (fun j=>j<=v.length/\ ∀i<j,uM v k i=true) (fun j=>v.length-j) 0 J ⟨bK _,fun i hi=>absurd hi (tW i)⟩ (fun _=>J) (fun j hk=>?_);obtain⟨hk1,hk2⟩:=hk;refine br J J J (fun hc14=>?_) (fun hc14=>?_)
   .
    obtain⟨w,hx⟩: ∃u,v[j]? =some u:=⟨_,aZ m5⟩;haveI:=hb w (aW hx);have hcv:=aMR hpx hqx hx;refine ix _ J (cO hx) J<|cs (fu1:=⟨5⟩) 21 J J J (fun hg21=>?_) (fun hg21=>?_)
    .
     refine aj 26 (.d (vI (v.length:Nat))) J omh<|gx (fu:=⟨1⟩) J<|aj 27 (.d (vI (((k+1)%v.length:Nat):Int))) J J<|gx J<|cs 30 J J J (fun hg30=>?_) (fun hg30=>?_)
     .
      refine pD 0 (e:=103) (len:=2) (s:=6) J v6 v6 pb J<|pD 1 (e:=103) (len:=2) (s:=6) J v6 v6 pb J<|cl J (aBt (a:=q1) (b:=q2) (c:=w) (i:=i) (j:=i) (k:=i) m5 m5 m5) J<|br J J J (fun hc38=>?_) (fun hc38=>?_)
      .
       exact rqX () (YV hkn (aS.1 hx).1 (by rw[hcv,decide_eq_false m5,decide_eq_false m5,decide_eq_false (fun q=>by have:=FK.2 q;omega)]<;>rfl))
      .
       exact at_ (j+1) ⟨⟨m5,CY hk2 (by rw[hcv,decide_eq_true (FK.1 m5),sS,sS])⟩,m5⟩
     .
      exact at_ (j+1) ⟨⟨m5,CY hk2 (by rw[hcv,decide_eq_true (show j=(k+1)%v.length by omega),Bool.true_or,sS])⟩,m5⟩
    .
     exact at_ (j+1) ⟨⟨m5,CY hk2 (by rw[hcv,decide_eq_true (show j=k by omega),Bool.true_or])⟩,m5⟩
   .
    obtain rfl:j=v.length:=by omega
    exact rq (CY hp hk2) ⟨J,J,trivial⟩
 .refine gx J<|?_
  rw[hrl] at hp;exact Fm hD hx J (by rw[TS.2 hp]<;>rfl)
 .refine gx J<|?_
  exact Fm hD hx J (by rw[hq]<;>rfl)
section
variable (hE:EG GB ai al ae)
include hE
section
variable (h:t.gd)(hs:t.size<=65536)(hd:t.depth<=1000)
include h hs hd
end
end
structure RL.wd (r:RL):Prop where
 a:bF r.da
 b:bF r.db
 c:bF r.dc

def Xx{l:ah}(h:L[j]? =some l):lC (L.drop j)= .node l (lC (L.drop (j+1))) (.leaf false):=by
 obtain⟨h1,h2⟩:=aS.1 h;rw[bV h1,h2];rfl
def Wo{c:ar}(h:c[j]? =some s):(c.map (·.l))[j]? =some s.l:=by rw[cZ,h];rfl
def VH{c:ar}(hn:c.length<=100000):PF GB prog 147 [.sl (c.map dx)] (eU (lC (c.map (·.l)))):=by
 have hml:(c.map dx).length=c.length:=aX ..;refine fn func147 J J ntmps147 J J (fun C=>?_);refine cl (fu:=⟨8⟩) J (uc (b:=true)) J<|aj 7 (.d (vI (c.length:Nat))) J omh<|gx J<|aj 3 (.d (eU (lC ((c.map (·.l)).drop c.length)))) J (by rw[jW vb]<;>rfl)<|lp (X:=Nat) (fun k=>[(4, .d (vI ((k:Int)-1))),(3, .d (eU (lC ((c.map (·.l)).drop k))))]) (fun k=>[]) (fun k=>k<=c.length) (fun k=>k) c.length J (bW _) (fun _=>J) (fun k hk=>?_);refine br (fu1:=⟨7⟩) J J J (fun hc10=>?_) (fun hc10=>?_)
 .
  obtain⟨j,rfl⟩: ∃j,k=j+1:=⟨k-1,m5⟩;obtain⟨s,hx⟩: ∃u,c[j]? =some u:=⟨_,aZ m5⟩;refine aj 14 (.d (vI (j:Nat))) J omF<|gx J<|ix _ J (cO hx) J<|cl J (uc (b:=false)) J<|cl (hv:=by simp only[ak];exact⟨v6,m5⟩) J (Af (l:=s.l)) J<|aj 4 (.d (vI ((j:Int)-1))) J omF<|aj 3 (.d (eU (lC ((c.map (·.l)).drop j)))) J (by rw[Xx (Wo hx)]<;>rfl)<|at_ j ⟨m5,m5⟩
 .
  obtain rfl:k=0:=by omega
  exact rz J J
def aIK(p q:aa):cd q p (-1)=⟨q.x-p.x,q.y-p.y⟩:=by
 unfold cd;simp only[aa.mk.injEq];constructor<;>grind
def aHS(z:Int):eQ ((z:Int):Rat)= .ag [.v (.bool (decide (z<0))),dN z.natAbs,dD 1]:=by
 unfold eQ;rw[lL,lM]
def Gt{a:Rat}{m:Nat}(h:a*((m:Int):Rat)=(z:Rat)):eQ (a*((m:Int):Rat))=eQ (z:Rat):=by rw[h]
def aJA[hp:aC p i][hq:aC q i](hi:i<=20000)(h: ¬(p.x=q.x/\p.y=q.y)):PF GB prog 135 [eP p,eP q] (.tp [eL (mn p q), .v (.bool true)]):=by
 obtain⟨a,ha⟩: ∃a,a=p.y-q.y:=⟨_,rfl⟩;obtain⟨b,hb⟩: ∃b,b=q.x-p.x:=⟨_,rfl⟩;obtain⟨c,hc⟩: ∃c,c= -(a*p.x+b*p.y):=⟨_,rfl⟩;haveI b1:BQ a (2*i+1):=by rw[ha];exact BQ.mono (inferInstance:BQ (p.y-q.y) _) m5
 haveI b2:BQ b (2*i+1):=by rw[hb];exact BQ.mono (inferInstance:BQ (q.x-p.x) _) m5
 haveI b3:BQ c (8*i+9):=by rw[hc];exact BQ.mono (inferInstance:BQ (-(a*p.x+b*p.y)) _) m5
 have hne: ¬(a=0/\b=0):=fun⟨u,v⟩=>h ⟨by rw[hb] at v;grind,by rw[ha] at u;grind⟩;obtain⟨o1,o2,o3⟩:=In a b c;obtain⟨m,hm⟩: ∃m,m=mA a b c:=⟨_,rfl⟩;rw[<-hm] at o1 o2 o3;have hm2:a.den*b.den*c.den=m:=by rw[hm,mA,cM]
 obtain⟨x,hx⟩: ∃x,x=a.num*(b.den*c.den:Nat):=⟨_,rfl⟩;obtain⟨y,hy⟩: ∃y,y=b.num*(a.den*c.den:Nat):=⟨_,rfl⟩;obtain⟨z,hz⟩: ∃z,z=c.num*(a.den*b.den:Nat):=⟨_,rfl⟩;rw[<-hx] at o1;rw[<-hy] at o2;rw[<-hz] at o3;have hthr:mn p q=pk x y z:=by rw[hx,hy,hz,hc,ha,hb];rfl
 have hok: ¬(x=0/\y=0):=by rw[hx,hy];exact C5 hne
 haveI bm:BI (m:Int) (16*i+40):=⟨by rw[hm];exact cN (mv b1.hd (mv b2.hd b3.hd)) (bT pb m5)⟩;haveI bx:BI x (16*i+40):=⟨by rw[hx];exact cN (HV b1 b2 b3) (bT pb m5)⟩;haveI by_:BI y (16*i+40):=⟨by rw[hy];exact cN (HV b2 b1 b3) (bT pb m5)⟩;haveI bz:BI z (16*i+40):=⟨by rw[hz];exact cN (HV b3 b1 b2) (bT pb m5)⟩;haveI n1:BN a.den (2*i+1):=⟨b1.hd⟩;haveI n2:BN b.den (2*i+1):=⟨b2.hd⟩;haveI n3:BN c.den (8*i+9):=⟨b3.hd⟩;refine fn func135 J J ntmps135 J J (fun C=>?_);refine cl J (PF.eq (EO (p:=q) (q:=p) (i:=i) (j:=i) m5 m5) (show _=eP ⟨q.x-p.x,q.y-p.y⟩ by rw[aIK])) J<|cl (fu:=⟨2⟩) J (PF.eq (vQ (q:=q.y-p.y)) (show eQ (-(q.y-p.y))=eQ a by rw[ha];congr 1;grind)) J<|aj 19 (.d (eQ b)) J (by rw[hb]<;>rfl)<|gx J<|cl J (jA (a:=a) (b:=p.x) (i:=2*i+1) (j:=i) m5 m5) J<|cl J (jA (a:=b) (b:=p.y) (i:=2*i+1) (j:=i) m5 m5) J<|cl J (oe (a:=a*p.x) (b:=b*p.y) (i:=2*i+1+i) (j:=2*i+1+i) m5 m5) J<|cl J (PF.eq (vQ (q:=a*p.x+b*p.y)) (show _=eQ c by rw[hc])) J<|cl J (lA (q:=a)) J<|cl J (lA (q:=b)) J<|cl J (sA (a:=a.den) (b:=b.den) (ia:=2*i+1) (ib:=2*i+1) m5 m5) J<|cl J (lA (q:=c)) J<|cl J (PF.eq (sA (a:=a.den*b.den) (b:=c.den) (ia:=2*i+1+(2*i+1)) (ib:=8*i+9) m5 m5) (show _=dN m by rw[hm2])) J<|cl (fu:=⟨1⟩) J (lI (neg:=false) (m:=m)) J<|aj 40 (.d (eQ ((m:Int):Rat))) J (by rw[aHS];simp[zv,eI];rfl)<|gx J<|cl J (PF.eq (jA (a:=a) (b:=((m:Int):Rat)) (i:=2*i+1) (j:=16*i+41) m5 m5) (Gt o1)) J<|cl J (PF.eq (jA (a:=b) (b:=((m:Int):Rat)) (i:=2*i+1) (j:=16*i+41) m5 m5) (Gt o2)) J<|cl J (PF.eq (jA (a:=c) (b:=((m:Int):Rat)) (i:=8*i+9) (j:=16*i+41) m5 m5) (Gt o3)) J<|cl J (ZW (a:=x) (b:=y) (c:=z) (i:=16*i+40) bx by_ bz m5 hok) J<|rz J (by rw[hthr];rfl)
theorem u6{m:Int}(h:m.natAbs<2^k)(hk:0<k:=by decide):BQ (m:Rat) k:=⟨by rw[lL];exact h,by rw[lM];exact cN (show 1<2^1 by decide) (bT pb hk)⟩
theorem aMy(h: ∀v∈V,ZB v): ∀v∈V,aC v 4:=fun v hv=>by
 obtain⟨m,n,rfl,h1,h2⟩:=h v hv;exact⟨u6 m5,u6 m5⟩
theorem WD{l:ah}(hk:BL l k)(h62:k+5<=62)(hV:V≠[])(hz: ∀v∈V,ZB v):BQ (l.a:Rat) 62/\BQ (l.b:Rat) 62/\BQ ((l.c:Rat)-ku l.nor V) 62:=by
 obtain⟨v,hv,e⟩:=(tC (n:=l.nor) hV).2;obtain⟨m,n,rfl,h1,h2⟩:=hz v hv;have e2:(l.c:Rat)-ku l.nor V=((l.c-(l.a*m+l.b*n):Int):Rat):=by
  rw[e];unfold aa.dot ah.nor iP;rw[gV,lS,cV,cV]
 have b1:=jn (gU hk.a) h1;have b2:=jn (gU hk.b) h2;have ka:=hk.a;have kb:=hk.b;have kc:=hk.c;have hp:2^k*32<=2^62:=by
  rw[show 2^k*32=2^(k+5) by rw[fU]];exact bT pb h62
 rw[e2];generalize 2^k=w at*;refine⟨u6 m5,u6 m5,u6 m5⟩
def aGY{c:ar}(hc:bG c)(hk: ∀s∈c,BL s.l k)(hq:q∈zH (c.map fun s=>s.l)):QD (2*k+1) q:=by
 unfold zH at hq;split at hq
 .obtain⟨l,hl,rfl⟩:=aT.1 hq
  obtain⟨s,hs,rfl⟩:=aT.1 hl;exact QG (hk s hs) (hc.ok s hs)
 .obtain⟨l,hl,m,hm,hx,rfl⟩:=Um hq
  obtain⟨s,hs,rfl⟩:=aT.1 hl;obtain⟨u,hu,rfl⟩:=aT.1 hm;exact MP (hk s hs) (hk u hu) hx
theorem aJB{a:Rat}(hD:0<D)(h:a*((D:Int):Rat)=(z:Rat))(h1:z.natAbs<2^k)(h2:D<2^k):BQ a k:=by
 have e:=IM hD h;have d1:a.den∣D:=by
  have e2:a.num.natAbs*D=z.natAbs*a.den:=by
   have:=congrArg Int.natAbs e;rwa [fL,fL,fK,fK] at this
  exact a.reduced.symm.dvd_of_dvd_mul_left ⟨z.natAbs,by rw[e2,cW]⟩
 obtain⟨m,hm⟩:=d1;have hden:=Nat.le_of_dvd hD ⟨m,hm⟩;have hm0:0<m:=iR fun k=>by rw[k] at hm;omega
 have e2:a.num*(m:Int)=z:=by
  rw[hm] at e;have hdn:(a.den:Int)≠0:=by have:=a.den_pos;omega
  refine Int.eq_of_mul_eq_mul_right hdn ?_;rw[<-e];push_cast;rw[Int.mul_assoc,sW (m:Int)]
 refine⟨fQ ?_ h1,fQ hden h2⟩;rw[<-e2,fL,fK];exact nK _ hm0
theorem aIa{c:ar}(hc:bG c)(ha:iq c)(hk: ∀s∈c,BL s.l k)(h62:2*k+10<=62){f:aa×aa}(hn: ¬((bu f).x=0/\(bu f).y=0))(h1:ZB f.1)(h2:ZB f.2)(hf:iI c (bu f)=some m):BQ (bu f).x 62/\BQ (bu f).y 62/\BQ (-(m+(bu f).dot f.1)) 62:=by
 obtain⟨e1,e2⟩:=Pw hc ha hn hf;obtain⟨q,hq,e3⟩:=(tC (n:=bu f) e2).2;rw[e1] at e3;obtain⟨D,X,Y,hD0,hD,hX,hY,x1,y1⟩:=aGY hc hk hq;obtain⟨m1,n1,p1,a1,a2⟩:=h1;obtain⟨m2,n2,p2,a3,a4⟩:=h2;have nx:(bu f).x=((n1-n2:Int):Rat):=by unfold bu;rw[p1,p2];unfold iP;rw[gV];grind
 have ny:(bu f).y=((m2-m1:Int):Rat):=by unfold bu;rw[p1,p2];unfold iP;rw[gV]
 generalize hA:n1-n2=A at nx;generalize hB:m2-m1=B at ny;have key: -(m+(bu f).dot f.1)*((D:Int):Rat)=((-(A*X+B*Y+(A*m1+B*n1)*D):Int):Rat):=by
  rw[e3,p1];unfold aa.dot iP;dsimp only;rw[nx,ny];simp only[cV,jV,lS];rw[<-x1,<-y1];grind
 have hA16:A.natAbs<=16:=by omega
 have hB16:B.natAbs<=16:=by omega
 have b0:(D:Int).natAbs<=2^(2*k+1):=hD;have b3:=jn hA16 hX;have b4:=jn hB16 hY;have b5:(A*m1+B*n1).natAbs<=256:=by
  have:=jn hA16 a1;have:=jn hB16 a2;omega
 have b6:=jn b5 b0;have e8:2^(2*k+10)=2^(2*k+1)*512:=by rw[show 2*k+10=2*k+1+9 by omega,fU]
 have e9:2^(2*k+1)*512<=2^62:=by
  rw[<-e8];exact bT pb h62
 have w0:0<2^(2*k+1):=gW pb;rw[nx,ny];refine⟨u6 m5,u6 m5,aJB hD0 key ?_ ?_⟩
 .generalize 2^(2*k+1)=w at*;omega
 .generalize 2^(2*k+1)=w at*;omega
theorem Jo(h:iG r): ∀u∈r.map ZP.q,aC u 8:=fun u hu=>by
 obtain⟨p,hp,rfl⟩:=aT.1 hu;obtain⟨h1,h2⟩:=h.le p hp;exact⟨u6 m5,u6 m5⟩
def aFS(h:wV r)(hc:mP (r.map ZP.q)=true):PF GB prog 142 [yr r] (.tp [.sl ((r.map ZP.q).map eZ), .v .nilIface]):=by
 have hn:=h.ok.n6;have hl:(r.map ZP.q).length=r.length:=aX ..;refine fn func142 J J ntmps142 J J (fun C=>?_);refine cl (fu:=⟨12⟩) J (aAK h.ok h.c3) J<|c9 J J J<|cl (fu:=⟨0⟩) J (Zs (v:=r.map ZP.q) (i:=8) (Jo h.ok) pb m5) J<|aj 17 (.d (.v (.bool true))) J (by rw[hc]<;>rfl)<|mo 17 J<|gx J<|rz J J
def nG(c:ar)(V:List aa)(k:Nat):List ah:=(c.map fun s=>k8 s.l V)++((co V).take k).filterMap (ni c)
def aHm(c:ar)(V:List aa):nG c V 0=c.map fun s=>k8 s.l V:=by unfold nG;simp
def Fd(c:ar)(V:List aa):nG c V (co V).length=kB c V (co V):=by unfold nG kB;rw[dX]
def D3(c:ar)(V:List aa)(k:Nat):(nG c V k).length<=c.length+V.length:=by
 unfold nG;rw[aU,aX];have h1:=mN (ni c) ((co V).take k);have h2:((co V).take k).length<=V.length:=by rw[bL];unfold co;rw[aX,lT];omega
 omega
def Y7{c:ar}{f:aa×aa}(h:(co V)[k]? =some f)(hf:iI c (bu f)=some m):(nG c V k).map dt++[dt (ew (bu f).x (bu f).y (-(m+(bu f).dot f.1)))]=(nG c V (k+1)).map dt:=by
 unfold nG;rw[dT,h];simp only[pN,List.filterMap_append,rW,List.filterMap_nil];rw[show ni c f=some (ew (bu f).x (bu f).y (-(m+(bu f).dot f.1))) by unfold ni;rw[hf];rfl];simp
def auL{c:ar}{f:aa×aa}(h:(co V)[k]? =some f)(hf:iI c (bu f)=none):nG c V k=nG c V (k+1):=by
 unfold nG;rw[dT,h];simp only[pN,List.filterMap_append,rW,List.filterMap_nil];rw[show ni c f=none by unfold ni;rw[hf];rfl];simp
def av9{c:ar}(h:c[k]? =some s):((c.take k).map fun s=>k8 s.l V).map dt++[dt (k8 s.l V)]=((c.take (k+1)).map fun s=>k8 s.l V).map dt:=by
 rw[dT,h,bX,bX];rfl
def OR(l:List ah):dm 9 (l.map dt):=fun d hd=>by
 obtain⟨x,_,rfl⟩:=aT.1 hd;exact⟨J,J⟩
def WY(h1:V[k]? =some p)(h2:V[(k+1)%V.length]? =some q):(co V)[k]? =some (p,q):=by
 have hk:=(aS.1 h1).1;unfold co;rw[cZ,pJ hk];show some (V.getD k ⟨0,0⟩,V.getD ((k+1)%V.length) ⟨0,0⟩)=_;rw[aK,aK,h1,h2];rfl
theorem aIi{c:ar}(hc:fE c)[hn:aC n 9](h:iI c n=some m):BQ m 7019:=by
 unfold iI at h;split at h
 .cases h
 .rename_i h0
  split at h
  .cases h
  .cases h
   have hne:c≠[]:=fun e=>h0 (by rw[e];rfl);exact O6 (n:=n) (i:=9) (QW hc) (Ql hne)
theorem aNS[hp:aC p 4][hq:aC q 4]:aC (bu (p,q)) 9:=by
 have h:=EM q p (i:=4) (j:=4);exact⟨inferInstanceAs (BQ (-(q.y-p.y)) 9),inferInstanceAs (BQ (q.x-p.x) 9)⟩
def Ys{c d:ar}(hV:si V)(hc:fE c)(hg:bG c)(ha:iq c)(hk: ∀s∈c,BL s.l kb)(h62:2*kb+10<=62)(hn:c.length<=900)(hd:jE (kB c V (co V)) []=some d):PF GB prog 146 [eC c, .sl (V.map eZ)] (eC d):=by
 have hVb:=aMy hV.zb;have hV4:=hV.le;have hml:(c.map dx).length=c.length:=aX ..;have hpl:(co V).length=V.length:=by unfold co;rw[aX,lT]
 have hrl:(oz V).length=(co V).length:=by unfold oz;rw[aX,lT,hpl]
 refine Ji func146 J J ntmps146 J J (fun C h0=>?_);refine HF 5 0 50 243 9 J J J J J<|lp (X:=Nat) (fun k=>[(22, .d (vI (k:Nat))),(5, .ov 5 0)]) (fun k=>[(5,some (.o 326 [.rw 50] true)),(50,some (.b 243 9 (((c.take k).map fun s=>k8 s.l V).map dt) true))]) (fun k=>k<=c.length) (fun k=>c.length-k) 0 J (bK _) (fun _=>J) (fun k hkc=>?_);have hm3:(((c.take k).map fun s=>k8 s.l V).map dt).length<=k:=by rw[aX,aX,bL];omega
 refine br J J J (fun hc23=>?_) (fun hc23=>?_)
 .obtain⟨s,hx⟩: ∃u,c[k]? =some u:=⟨_,aZ m5⟩
  have hsm:=aW hx;haveI:=(hc s hsm).lb;obtain⟨q1,q2,q3⟩:=WD (hk s hsm) m5 hV.br.vne hV.zb;haveI hl0:=O6 (n:=s.l.nor) (i:=97) hVb hV.br.vne;have hne:=JJ (hg.ok s hsm);refine ix _ J (cO hx) J<|cl J (vJ (l:=s.l)) J<|cl J (UP (n:=s.l.nor) (l:=V) (i:=97) (j:=4) hVb hV.br.vne pb pb m5) J<|cl J (rF (p:=(s.l.c:Rat)) (q:=ku s.l.nor V) (i:=97) (j:=97+4+(97+4)+1)) J<|cl J (Rk (a:=(s.l.a:Rat)) (b:=(s.l.b:Rat)) (c:=(s.l.c:Rat)-ku s.l.nor V) hne) J<|rf J J<|ap (((c.take (k+1)).map fun s=>k8 s.l V).map dt) J (av9 hx) (OR [_]) J<|fI 47 50 J<|at_ (k+1) ⟨m5,m5⟩
 .obtain rfl:k=c.length:=by omega
  rw[dX,<-aHm c V];refine HO J J J J3 (fun _=>J) (fun GB1 pv hg1 hpv=>?_);refine yX 2 2000002 h0.fx J<|yX 5 2000005 h0.fx J ?_;refine GJ (σ:=Empty) (fun k=>[(2000002,some (.o 254 [.d (eC c)] true)),(2000005,some (.o 326 [.rw 50] true)),(50,some (.b 243 9 ((nG c V k).map dt) true))]) (fun _=>True) (fun _=>[]) (fun _=>False) [(2, .ov 2000002 0),(5, .ov 2000005 0)]
   h0 J (Hv) (.cons hpv .nil) ⟨J,J,trivial⟩ J ⟨J,J,J,trivial⟩ trivial ID J J (fun k e GB' hE hg2 hp=>?_) (fun D hD hx hp=>?_) (fun D s hD hx hq=>hq.elim)
  .obtain⟨q1,q2,hpx,hqx,rfl⟩:=JT hE
   haveI:=hVb q1 (aW hpx);haveI:=hVb q2 (aW hqx);have z1:=hV.zb q1 (aW hpx);have z2:=hV.zb q2 (aW hqx);have hpr:=WY hpx hqx;have hnz:=hV.br.nz (aW hpr);haveI hn9:aC (bu (q1,q2)) 9:=aNS;refine⟨?_,?_,fun C2=>?_,fun C2=>?_⟩
   rotate_left 2
   .refine gx J<|Gz J J J ⟨J,J,J⟩ J ?_
    exact atR
   .skip
    refine gx J<|pD 1 (e:=103) (len:=2) (s:=6) J v6 v6 pb J<|pD 0 (e:=103) (len:=2) (s:=6) J v6 v6 pb J<|cl J (Ha (p:=q2) (q:=q1) (i:=4) (j:=4)) J<|cl (fu:=⟨0⟩) J (Qg (p:=⟨q2.x-q1.x,q2.y-q1.y⟩) (i:=9) (h:=EM q2 q1)) J<|aj 58 (.d (eZ (bu (q1,q2)))) J J<|gx J<|?_;rcases hf:iI c (bu (q1,q2)) with _|m
    .
     rw[auL hpr hf];refine cl (fu:=⟨3⟩) J (aIL (c:=c) (n:=bu (q1,q2)) (j:=9) hc pb m5 hf) J<|p6 64 J<|gx J<|?_;exact rq trivial ⟨J,J,J,trivial⟩
    .
     obtain⟨u1,u2,u3⟩:=aIa hg ha hk h62 hnz z1 z2 hf;haveI:BQ m 7019:=aIi hc hf;have hm4:=D3 c V k;have hm5:((nG c V k).map dt).length<=c.length+V.length:=by rw[aX];exact hm4
     refine cl (fu:=⟨3⟩) J (V1 (c:=c) (n:=bu (q1,q2)) (j:=9) hc pb m5 hf) J<|mo 64 J<|gx J<|pD 0 (e:=103) (len:=2) (s:=6) J v6 v6 pb J<|cl J (uN (p:=bu (q1,q2)) (q:=q1) (i:=9) (j:=4)) J<|cl J (sE (p:=m) (q:=(bu (q1,q2)).dot q1) (i:=7019) (j:=27)) J<|cl J (qi (q:=m+(bu (q1,q2)).dot q1) (i:=7047)) J<|cl J (Rk (a:=(bu (q1,q2)).x) (b:=(bu (q1,q2)).y) (c:= -(m+(bu (q1,q2)).dot q1)) hnz) J<|rf J J<|ap ((nG c V (k+1)).map dt) J (Y7 hpr hf) (OR [_]) J<|fI 84 50 J ?_;exact rq trivial ⟨J,J,J,trivial⟩
  .rw[hrl,Fd]
   refine gx J<|fz 50 J J<|cl J (Xj (ls:=kB c V (co V)) (fun l hl=>⟨(HH hV.br hV.zb hg ha hk l hl).mono m5⟩) (Uh hV.br hg) (by have:=D3 c V (co V).length;rw[Fd] at this;omega) hd) J<|?_;exact Fm hD hx J J
def aF9(hV:si V)(ho:t.all ah.ok)(hrk:(t.restrict []).all fun l=>BL l kb)(hrb:(t.restrict []).all LB)(h62:2*kb+10<=62)(hd:t.depth<=800)(hu:u∈(f7 (t.restrict [])).map (gj V (co V))):u.gd/\u.size<=65536:=by
 obtain⟨c,hc,rfl⟩:=aT.1 hu;obtain⟨g1,g2⟩:=vY ho c hc;have hbk:=yw (P:=fun l=>BL l kb) (fun l h=>h.rev) hrk (fun s hs=>by cases hs) (tF.1 hc);have h1:=HH hV.br hV.zb g1 g2 hbk;refine⟨⟨IZ fun l hl=>⟨(h1 l hl).mono m5⟩,CW hV.br g1 g2⟩,?_⟩;unfold gj;rw[Ue];have h2:=Am (kB c V (co V));have h3:=D3 c V (co V).length;rw[Fd] at h3;have h4:=IQ hrb (t.restrict_all ah.ok [] ho) c hc;have:=t.restrict_depth [];have:=hV.le;omega
def aAu{cs:List ar}{c:ar}(h:cs[k]? =some c):((cs.take k).map (gj V (co V))).map eU++[eU (gj V (co V) c)]=((cs.take (k+1)).map (gj V (co V))).map eU:=by
 rw[dT,h,bX,bX];rfl
def aMD(hE:EG GB ai al ae)(hV:si V)(hb:t.all LB)(ho:t.all ah.ok)(hk:t.all fun l=>BL l kb)(h62:2*kb+10<=62)(hd:t.depth<=800)(hs:t.size<=60000)(hq:qA 1 (Tr.leaf false) ((f7 (t.restrict [])).map (gj V (co V)))=some u):PF GB prog 78 [eU t, .sl (V.map eZ)] (.tp [eU u, .v .nilIface]):=by
 obtain⟨cs,hcs⟩: ∃cs,cs=f7 (t.restrict []):=⟨_,rfl⟩;rw[<-hcs] at hq;have hrs:=t.restrict_size [];have hrd:=t.restrict_depth [];have hrb:=t.restrict_all LB [] hb;have hro:=t.restrict_all ah.ok [] ho;have hrk:=t.restrict_all _ [] hk;have hcl:cs.length<=60001:=by rw[hcs];exact dZ (Rv _) m5
 have hml:(cs.map eC).length=cs.length:=aX ..;refine fn func78 J J ntmps78 J J (fun C=>?_);refine cl (fu:=⟨0⟩) J (z6 (t:=t) m5) J<|c9 J (oma m5) J<|cl J (Ug (t:=t) hb ho) J<|cl (fu:=⟨0⟩) J (aGr (t:=t.restrict []) hrb hro m5 m5) J<|aj 16 (.d (.sl (cs.map eC))) J (by rw[hcs])<|gx (fu:=⟨1⟩) J<|aj 17 (.d (vI (cs.length:Nat))) J omh<|gx J<|nr 6 6 143 1 J J J<|lp (X:=Nat) (fun k=>[(18, .d (vI (k:Nat))),(6, .rw 6)]) (fun k=>[(6,some (.b 143 1 (((cs.take k).map (gj V (co V))).map eU) true))]) (fun k=>k<=cs.length) (fun k=>cs.length-k) 0 J (bK _) (fun _=>J) (fun k hk=>?_);have hm3:(((cs.take k).map (gj V (co V))).map eU).length<=k:=by rw[aX,aX,bL];omega
 refine br (fu2:=⟨0⟩) J J J (fun hc19=>?_) (fun hc19=>?_)
 .
  obtain⟨c,hx⟩: ∃u,cs[k]? =some u:=⟨_,aZ m5⟩;have hcm:c∈f7 (t.restrict []):=by rw[<-hcs];exact aW hx
  obtain⟨g1,g2⟩:=vY ho c hcm;have hck:=(D2 hrb hro fE.nil (tF.1 hcm)).1;have hbk:=yw (P:=fun l=>BL l kb) (fun l h=>h.rev) hrk (fun s hs=>by cases hs) (tF.1 hcm);have hsh:=IQ hrb hro c hcm;obtain⟨d,d1,d2,d3,d4,d5⟩:=Ia hV.br g1 g2;have hdl:d.length<=c.length+4:=by have h1:=Am (kB c V (co V));have h2:=D3 c V (co V).length;rw[Fd] at h2;rw[d5,aX] at h1;have:=hV.le;omega
  have hml2:(d.map dx).length=d.length:=aX ..;refine ix _ J (cO hx) J<|cl (fu:=⟨8⟩) J (Ys (c:=c) (d:=d) (V:=V) (kb:=kb) hV hck g1 g2 hbk h62 m5 d1) J<|aj 26 (.d (vI (d.length:Nat))) J (by rw[hml2]<;>rfl)<|gx (fu:=⟨0⟩) J<|c9 J (oma m5) J<|cl (fu:=⟨0⟩) J (VH (c:=d) m5) J<|aj 31 (.d (eU (gj V (co V) c))) J (by unfold gj;rw[d5])<|gx J<|rf J J<|ap (((cs.take (k+1)).map (gj V (co V))).map eU) J (aAu hx) (aJl [_]) J<|fI 33 6 J<|at_ (k+1) ⟨m5,m5⟩
 .
  obtain rfl:k=cs.length:=by omega
  rw[dX];refine oA 6 J<|gx J<|cl J (uc (b:=false)) J<|cl J (aE9 hE (op:=1) (a:= .leaf false) (us:=cs.map (gj V (co V))) ⟨trivial,trivial⟩ pb (fun u hu=>aF9 hV ho hrk hrb h62 hd (hcs▸hu)) okT (by rw[if_neg pb];exact hq)) J<|rz J J
end Go.Sx
end
