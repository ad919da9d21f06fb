import Derived.Test.YtpiknjeceobbfaaGreatDoorMw12
import Derived.Shelf.SlSortCmp.NoneTotal
import Derived.Test.YtpiknjeceobbfaaGreatDoorProg
import Derived.Test.YtpiknjeceobbfaaGreatDoorCards
import Derived.Test.YtpiknjeceobbfaaGreatDoorTie
import Derived.WalkKit
import Derived.ProofKit
import Derived.OpenShut
import Derived.Deep.DeepHandedRow
import Derived.Deep.DeepWitnessRowRef
import Derived.LaidMore
import Derived.Lib.LaidTab
import Derived.SizedLaws
import Derived.Stop.LaidErr
import Derived.MakeChecks
set_option linter.all false
set_option maxHeartbeats 2000000
set_option maxRecDepth 100000
section
namespace Go.Sx
open Go Go.Proofs Tryz
def yN{GB:Gh}{u v:aa}{i j:Nat}[hp:av u i][hq:av v j](hi:i<=10000000:=by decide)(hj:j<=10000000:=by decide):PF GB prog 233 [eZ u,eZ v] (vB (decide (bP u v=0))):=by
 refine fn func233 J J ntmps233 J J (fun C=>?_);refine cl J (Dt (u:=u) (v:=v) hi hj) J<|?_;exact rz J J
def zG(x:aa):List aa->List aa
 |[]=>[]
 |y::l=>if bP y x=0 then zG y l else y::zG y l
def zM:List aa->List aa
 |[]=>[]
 |x::l=>x::zG x l
def zS{l:List aa}{k:Nat}{x y:aa}(h:l[k]? =some y):zG x (l.drop k)=if bP y x=0 then zG y (l.drop (k+1)) else y::zG y (l.drop (k+1)):=by
 obtain⟨h1,h2⟩:=aS.1 h;rw[bL h1,h2,zG]
def yS{l:List aa}{k:Nat}{y:aa}(h:l[k]? =some y):l.take (k+1)=l.take k++[y]:=by
 rw[cR,h];rfl
def vZ:DV:= .ag [vI 0,vI 0, .v (.pointer none),vI 0,vI 0, .v (.pointer none)]
def xG(l:List aa)(k:Nat)(y:aa):(l.map eZ).set k (eZ y)=(l.set k y).map eZ:=(List.map_set ..).symm
def yG{l:List aa}(h:l.length<2):zM l=l:=by
 cases l with
 |nil=>rfl
 |cons x l=>cases l with
  |nil=>rfl
  |cons y l=>simp at h;omega
def xT{l:List aa}{x:aa}(h:l[0]? =some x):zM l=l.take 1++zG x (l.drop 1):=by
 cases l with
 |nil=>cases h
 |cons y l=>cases h;rfl
def yQ{r l:List aa}{a b:Nat}(h:a<=b)(e:r.drop a=l.drop a):r[b]? =l[b]? :=by
 have:=congrArg (·[b-a]?) e;simpa[jN,show a+(b-a)=b by omega] using this
def yZ{r l:List aa}{a b:Nat}(h:a<=b)(e:r.drop a=l.drop a):r.drop b=l.drop b:=by
 have:=congrArg (List.drop (b-a)) e;simpa[List.drop_drop,show a+(b-a)=b by omega] using this
def zV{r:List aa}{i:Nat}{u:aa}(h:i<r.length):(r.set i u).take (i+1)=r.take i++[u]:=by
 rw[cR,List.getElem?_set_self h,List.take_set_of_le (bZ _)];rfl
def yX{r:List aa}{i:Nat}(h:i<r.length):(r.map eZ)[(i:Int).toNat]? =some (eZ r[i]):=by simp[h]
def yV{GB:Gh}{l:List aa}{i0:Nat}(hb: ∀d∈l,av d i0)(hn:l.length<=10000000)(hi:i0<=10000000):PB GB prog 232 (iq [none,some (.v (.func (.func 233) #[] #[]))]) 6 103 (l.map eZ) (fun w=> .v (.slice w.a w.n w.c)) ((zM l).map eZ):=by
 have hml:(l.map eZ).length=l.length:=aZ ..;refine tc (fu:=⟨10⟩) func232 J J ntmps232 J J (fun C=>?_);refine aF 9 (.d (vI (l.length:Nat))) J (by rw[hml]<;>rfl) ?_;refine gx J<|?_;refine br J J J (fun hc10=>?_) (fun hc10=>?_)
 .
  exact pM J J J (by rw[yG (by omega)])
 .
  obtain⟨x0,hx0⟩: ∃x,l[0]? =some x:=⟨_,aX (by omega)⟩;refine lp (fu:=⟨6⟩) (X:=Nat×aa) (fun⟨k,x⟩=>[(5, .d (vI (k:Nat)))]) (fun⟨k,x⟩=>[]) (fun⟨k,x⟩=>1<=k/\k<=l.length/\l[k-1]? =some x/\zM l=l.take k++zG x (l.drop k)) (fun⟨k,x⟩=>l.length-k) ⟨1,x0⟩ J ⟨bZ _,by omega,hx0,by rw[xT hx0]⟩ (fun _=>J) (fun⟨k,x⟩ hk=>?_)
  try dsimp only at hk⊢
  obtain⟨h1,h2,h3,h4⟩:=hk;refine aF 14 (.d (vI (l.length:Nat))) J (by rw[hml]<;>rfl) ?_;refine gx J<|?_;refine br J J J (fun hc15=>?_) (fun hc15=>?_)
  .
   obtain⟨y,hy⟩: ∃y,l[k]? =some y:=⟨_,aX (by omega)⟩;haveI:=hb y (aN hy);haveI:=hb x (aN h3);refine lb (fu:=⟨3⟩) _ J (d7 hy) J<|?_;refine aF 25 (.d (vI ((k-1:Nat):Int))) J (by rw[Int.ofNat_sub h1]<;>rfl) ?_;refine gx J<|lb (fu:=⟨0⟩) _ J (d7 h3) J<|cl J (yN (u:=y) (v:=x) hi hi) J<|?_;refine bd (fu1:=⟨4⟩) J J J (fun hc28=>?_) (fun hc28=>?_)
   .
    have hc28':=hc28;refine CQ k (l.length-k) J J (by omega) (by omega) J<|?_;refine lp (fu:=⟨5⟩) (X:=Nat×Nat×aa×List aa) (fun⟨i,m,z,r⟩=>[(5, .d (vI (i:Nat))),(7, .d (vI (m:Nat)))]) (fun⟨i,m,z,r⟩=>[(1000000,some (.b 103 6 (r.map eZ) false))]) (fun⟨i,m,z,r⟩=>1<=m/\k+m<=l.length/\i+1<=k+m/\r.length=l.length/\r.drop (k+m-1)=l.drop (k+m-1)/\l[k+m-1]? =some z/\zM l=r.take i++zG z (l.drop (k+m))) (fun⟨i,m,z,r⟩=>l.length-m) ⟨k,1,y,l⟩ J ⟨bZ _,by omega,by omega,J,J,by rw[iL];exact hy,by rw[h4,zS hy,if_pos hc28']⟩ (fun _=>J) (fun⟨i,m,z,r⟩ hk=>?_)
    try dsimp only at hk⊢
    obtain⟨g1,g2,g3,g4,g5,g6,g7⟩:=hk;have hrl:(r.map eZ).length=r.length:=aZ ..;refine Md J J<|?_;refine br (fu1:=⟨9⟩) (fu2:=⟨9⟩) J J J (fun hc35=>?_) (fun hc35=>?_)
    .
     obtain⟨u,hu⟩: ∃u,l[k+m]? =some u:=⟨_,aX (by omega)⟩;haveI:=hb u (aN hu);haveI:=hb z (aN g6);have g8:r[k+m]? =some u:=by rw[<-hu];exact yQ (by omega) g5
     have g10:r[k+m-1]? =some z:=by rw[<-g6];exact yQ (bZ _) g5
     have g9:r.drop (k+m)=l.drop (k+m):=yZ (by omega) g5;refine tP (k+m) J (by omega) (by omega) (by omega) J<|lb (fu:=⟨3⟩) _ J (d7 g8) J<|tP (k+m-1) J (by omega) (by omega) (by omega) J<|?_;refine lb (fu:=⟨0⟩) _ J (d7 g10) J<|cl J (yN (u:=u) (v:=z) hi hi) J<|?_;refine bb (fu1:=⟨6⟩) J J J (fun hc49=>?_) (fun hc49=>?_)
     .
      have hc49': ¬bP u z=0:=by simpa using hc49
      refine tP (k+m) J (by omega) (by omega) (by omega) J<|lb _ J (d7 g8) J<|sb _ ((r.set i u).map eZ) J (yX (by omega)) J (by rw[<-xG]<;>rfl) J<|?_;exact at_ ⟨i+1,m+1,u,r.set i u⟩ (by dsimp only;exact⟨⟨by omega,by omega,by omega,by rw[aY];exact g4,by rw[show k+(m+1)-1=k+m by omega,nQ (by omega)];exact g9,by rw[show k+(m+1)-1=k+m by omega];exact hu,by rw[g7,zS hu,if_neg hc49',zV (by omega),dL];rfl⟩,(by omega)⟩)
     .
      have hc49':bP u z=0:=by simpa using hc49
      exact at_ ⟨i,m+1,u,r⟩ (by dsimp only;exact⟨⟨by omega,by omega,by omega,g4,by rw[show k+(m+1)-1=k+m by omega];exact g9,by rw[show k+(m+1)-1=k+m by omega];exact hu,by rw[g7,zS hu,if_pos hc49'];rfl⟩,(by omega)⟩)
    .
     obtain hm:k+m=l.length:=by omega
     refine CQ i (l.length-i) J J (by omega) (by omega) J<|Ll (fu:=⟨6⟩) _ J (by rw[hrl];omega) (by omega) J J<|Jm ((r.take i).map eZ) i J J (by rw[bX,bR,aJ,hrl];omega) (by rw[dW (by rw[bR,hrl];omega),List.take_take,Nat.min_self,List.map_take]) J<|?_;exact pM J J J (by rw[g7,hm,iR,zG,lR])
   .
    have hc28':=hc28;exact at_ ⟨k+1,y⟩ (by dsimp only;exact⟨⟨by omega,by omega,hy,by rw[h4,zS hy,if_neg hc28',yS hy,dL];rfl⟩,(by omega)⟩)
  .
   exact pM J J J (by rw[h4,show k=l.length by omega,iR,zG,lR,dX])
def yY{v:Value}(h:Go.Sx.flat v=true):v.oneCell'=true:=by cases v<;>first|rfl|cases h
def zL{α:Type}{k:Nat}: ∀(l:List (List α)) (t:Nat),(∀x∈l,x.length=k)->t<l.length*k->l.flatten[t]? =(l[t/k]?).bind (·[t%k]?)
 |[],t,_,h=>by simp at h
 |x::l,t,h,ht=>by
  have hx:=h x aQ;have hk:0<k:=by
   rcases dJ k with e|e
   ·subst e;simp at ht
   ·exact e
  rw[gR];by_cases q:t<k
  ·rw[cV (by omega),lZ q,eY q];rfl
  ·rw[fQ (by omega),hx,zL l (t-k) (fun y hy=>h y (aK _ hy)) (by rw[bT,cJ] at ht;omega)]
   have e1:t/k=(t-k)/k+1:=by rw[Nat.div_eq_sub_div hk (by omega)]
   have e2:t%k=(t-k)%k:=by rw[Nat.mod_eq_sub_mod (by omega)]
   rw[e1,e2];rfl
section
variable {α:Type} [Inhabited α]
def xI(enc:α->List Value)(k:Nat)(hk: ∀x,(enc x).length=k)(d:Array α):(Go.Sort.flatK enc k d).toList=(d.toList.map enc).flatten:=by
 apply jZ;intro t;have hlen:(d.toList.map enc).flatten.length=d.size*k:=by
  have: ∀l:List α,(l.map enc).flatten.length=l.length*k:=fun l=>by
   induction l with
   |nil=>simp
   |cons x l ih=>rw[bN,gR,bX,ih,hk,bT,cJ];omega
  simpa using this d.toList
 by_cases ht:t<d.size*k
 ·have hk0:0<k:=by
   rcases dJ k with e|e
   ·subst e;simp at ht
   ·exact e
  have hi:t/k<d.size:=mR (by rwa [bY]);rw[zL (k:=k) _ _ (fun x hx=>by obtain⟨y,_,rfl⟩:=cX.1 hx;exact hk y) (by simpa using ht)];simp only[Go.Sort.flatK,jY,Array.toList_range,fZ];rw[mN ht];have hj:t%k<(enc d[t/k]).length:=by rw[hk];exact cM _ hk0
  simp only[fL];rw[getElem!_pos d (t/k) hi,getElem!_pos (enc d[t/k]) (t%k) hj];simp[hi,hj]
 ·rw[cL (by simp[Go.Sort.flatK];omega),cL (by rw[hlen];omega)]
def yJ(enc:α->List Value)(k:Nat)(w:World)(b m:Nat)(dk:Array α)(os:Array Obj){q:Nat}(hq:q<w.heap.size):
  (sortWorldK enc k w b 0 m dk os).heap[q]? =if q=b then(w.heap[q]?).map (Go.Sort.onCells (Go.Sort.putCells id 0 (Go.Sort.flatK enc k dk))) else w.heap[q]? :=by
 show((w.heap.modify b _)++os)[q]? =_;rw[gT (by simpa using hq),Array.getElem?_modify];by_cases e:b=q
 ·subst e;simp
 ·simp[e,Ne.symm e]
def yU{F:Array Value}{xs rest:List Value}(h:xs.length=F.size):Go.Sort.putCells id 0 F ⟨xs++rest⟩=⟨F.toList++rest⟩:=by
 apply Array.ext';apply jZ;intro k;simp only[Go.Sort.putCells,Array.toList_mapIdx,List.getElem?_mapIdx];by_cases hk:k<F.size
 ·rw[cV (by omega),cV (by simpa using hk),aX (by omega)]
  simp[hk]
 ·rw[fQ (by omega),fQ (by simp;omega),h]
  simp only[dY]
  cases rest[k-F.size]? with
  |none=>rfl
  |some v=>simp[hk]
end
def zN{A:Type}(cf:A->A->Int)(ds:List A):List A:=ds.mergeSort fun x y=>!decide (cf y x<0)
def zA{A:Type}(cf:A->A->Int)(ds:List A):(zN cf ds).Perm ds:=List.mergeSort_perm ..
def yC{A:Type}{cf:A->A->Int}(hO:Go.Sort.SWO (Go.Proofs.ltOf cf))(ds:List A):(zN cf ds).Pairwise fun x y=> ¬cf y x<0:=by
 have:=List.pairwise_mergeSort (le:=fun x y=>!decide (cf y x<0)) (fun a b c h1 h2=>by
  have h1':Go.Proofs.ltOf cf b a=false:=by simpa[Go.Proofs.ltOf] using h1
  have h2':Go.Proofs.ltOf cf c b=false:=by simpa[Go.Proofs.ltOf] using h2
  have:=hO.ntrans c b a h2' h1';simpa[Go.Proofs.ltOf] using this) (fun a b=>by
  cases h1:Go.Proofs.ltOf cf b a with
  |false=>have: ¬cf b a<0:=(by simpa[Go.Proofs.ltOf] using h1);simp;omega
  |true=>
   cases h2:Go.Proofs.ltOf cf a b with
   |false=>have: ¬cf a b<0:=(by simpa[Go.Proofs.ltOf] using h2);simp;omega
   |true=>have:=hO.trans _ _ _ h1 h2;rw[hO.irrefl] at this;cases this) ds
 exact this.imp fun h=>by simpa using h
def wG{P:Program}{ρ:Go.Shelf.Ren}{GB:Gh}(L:SlLaysF0.n6 P ρ)(ha:jp P (ρ.f 6)){s:Nat}(hAg: ∀w,(isAgg (ρ.t 24)).run P w= .ok true w)(hZs: ∀w,(sizeOf (ρ.t 24)).run P w= .ok s w)
  {A:Type}(e:A->DV)(V:A->Prop)(hA: ∀x,∃l,e x= .ag l/\(DV.ag l).okc=true/\l.length=s)(cf:A->A->Int)(hO:Go.Sort.SWO (Go.Proofs.ltOf cf)){g:FuncId}(hg:jp P g)
  (hc: ∀x y,V x->V y->PF GB P g [e x,e y] (.v (.int .i64 (cf x y)))){ty:TypeId}{ds:List A}(hV: ∀x∈ds,V x)(hn:ds.length<4611686018427387904)(hu: ∀x∈ds,∀y∈ds,¬cf x y<0-> ¬cf y x<0->x=y):
  PW GB P (ρ.f 6) [none,some (.v (.func (.func g) #[] #[]))] s ty (ds.map e) (.tp []) ((zN cf ds).map e):=by
 intro G z vs B hgb hB hvs;refine⟨ha,fun w hw=>?_⟩;obtain⟨v1,m1,rfl,q1,hvs⟩:=bz.1 hvs;obtain⟨v2,m2,rfl,q2,hvs⟩:=bz.1 hvs
 cases b9.1 hvs
 rw[bh] at q1 q2;subst q1 q2;obtain⟨es,k1,k2,k3,_⟩:=hB;simp only at k1 k2 k3;have hlen:es.length=ds.length:=by rw[k2.len,aZ]
 by_cases h0:ds=[]
 ·subst h0
  have hes:es=[]:=bK (by simpa using hlen);have hz:z.n=0:=by rw[k1.len,hes];rfl
  rw[hz];refine(AnyF.slices_SortFunc_none L z.a z.c _ w).mono fun r w' ⟨h1,h2⟩=>?_;subst h2;exact⟨_,asB B,G,h1,hw,jA.2 ⟨[],J, .nil⟩,es,k1.asB,by subst hes;show IsLs G ((zN cf []).map e) [];unfold zN;rw[List.mergeSort_nil];exact .nil,k3,fun h=>by cases h⟩
 ·have hpos:0<es.length:=by rw[hlen];exact nZ.2 h0
  rcases k1 with⟨e1,_,_⟩|⟨b,rest,lo,e1,e2,e3,e4,e5⟩
  ·rw[e1] at hpos;simp at hpos
  subst e2
  -- elements with their cells
  have lift: ∀{ds:List A} {es:List Value},IsLs G (ds.map e) es->(∀x∈ds,V x)-> ∃qs:List {q:A×List Value//V q.1/\Is G (e q.1) (.agg ⟨q.2⟩)},qs.map (·.1.1)=ds/\qs.map (fun q=>Value.agg ⟨q.1.2⟩)=es:=by
   intro ds
   induction ds with
   |nil=>intro es h _;cases b9.1 h;exact⟨[],rfl,rfl⟩
   |cons x ds ih=>
    intro es h hV;obtain⟨y,n,rfl,g1,g2⟩:=bz.1 h;obtain⟨qs,g3,g4⟩:=ih g2 fun x hx=>hV x (aK _ hx);obtain⟨l,hl,_⟩:=hA x;have g1':=g1;rw[hl] at g1';obtain⟨m,rfl,_⟩:=du.1 g1';exact⟨⟨(x,m),hV x aQ,g1⟩::qs,by simp[g3],by simp[g4]⟩
  obtain⟨qs,hq1,hq2⟩:=lift k2 hV;have:Inhabited {q:A×List Value//V q.1/\Is G (e q.1) (.agg ⟨q.2⟩)}:=⟨qs.head (fun e=>by rw[e] at hq1;exact h0 hq1.symm)⟩
  let enc:{q:A×List Value//V q.1/\Is G (e q.1) (.agg ⟨q.2⟩)}->List Value:=fun q=>q.1.2
  have henc: ∀q,(enc q).length=s/\ ∀v∈enc q,Go.Sx.flat v=true:=fun q=>by
   obtain⟨l,hl,h1,h2⟩:=hA q.1.1;have h3:=q.2.2;rw[hl] at h3;obtain⟨m,hm,h4⟩:=du.1 h3
   cases hm
   exact⟨by show q.1.2.length=s;rw[h4.len,h2],fun v hv=>h4.flat h1 v hv⟩
  have hk: ∀q,(enc q).length=s:=fun q=>(henc q).1;have hqs:qs.toArray.size=es.length:=by rw[jQ,<-hq2,aZ]
  have hfl: ∀d:Array {q:A×List Value//V q.1/\Is G (e q.1) (.agg ⟨q.2⟩)},(Go.Sort.flatK enc s d).toList=aE (d.toList.map fun q=>Value.agg ⟨q.1.2⟩):=fun d=>by
   rw[xI enc s hk];unfold aE;rw[List.map_map];rfl
  have hfe:(Go.Sort.flatK enc s qs.toArray).toList=aE es:=by rw[hfl,<-hq2]
  have hown:=hw.hown ⟨b,aE es++rest,ty,false⟩ aQ;obtain⟨hb,hGb,_,_⟩:=hown;simp only at hb hGb;have hblt:=eo hb;have hH:Go.Sort.HoldsK enc s w b 0 qs.toArray:=by
   intro j hj;refine⟨?_,by simp[World.frozen?,hb]⟩;rw[pK hb,cY];have hj':j<(aE es).length:=by rw[<-hfe];simpa using hj
   rw[cV hj',<-hfe];show _=some ((Go.Sort.flatK enc s qs.toArray)[j]!);rw[getElem!_pos _ j hj];simp
  have hsz: ∀dk:Array {q:A×List Value//V q.1/\Is G (e q.1) (.agg ⟨q.2⟩)},dk.size=qs.toArray.size->(aE es).length=(Go.Sort.flatK enc s dk).size:=fun dk hd=>by rw[<-hfe];simp[hd]
  have hblk: ∀(m:Nat) (os:Array Obj) (dk:Array _),dk.size=qs.toArray.size->(sortWorldK enc s w b 0 m dk os).heap[b]? =some (.cells ⟨(Go.Sort.flatK enc s dk).toList++rest⟩ ty (0,0)):=fun m os dk hd=>by
   rw[yJ enc s w b m dk os hblt,if_pos J,hb];show some (Obj.cells (Go.Sort.putCells id 0 (Go.Sort.flatK enc s dk) ⟨aE es++rest⟩) ty (0,0))=_;rw[yU (hsz dk hd)]
  have hoth: ∀(m:Nat) (os:Array Obj) (dk:Array _) (q:Nat),q<w.heap.size->q≠b->(sortWorldK enc s w b 0 m dk os).heap[q]? =w.heap[q]? :=fun m os dk q hq hne=>by rw[yJ enc s w b m dk os hq,if_neg hne]
  have hsub: ∀(m:Nat) (os:Array Obj) (dk:Array _) (c:Nat) (cs:List Value),G c=some cs-> ∃ty fz,(sortWorldK enc s w b 0 m dk os).heap[c]? =some (.cells ⟨cs⟩ ty fz):=fun m os dk c cs hcs=>by
   obtain⟨ty',fz,h⟩:=hw.sub c cs hcs;exact⟨ty',fz,by rw[hoth m os dk c (eo h) (fun e=>by subst e;rw[hGb] at hcs;cases hcs)];exact h⟩
  have hsize: ∀(m:Nat) (os:Array Obj) (dk:Array _),w.heap.size<=(sortWorldK enc s w b 0 m dk os).heap.size:=fun m os dk=>by
   show _<=((w.heap.modify b _)++os).size;simp
  have hcmp:Go.Proofs.CmpLays P g #[] enc s (fun q r=>cf q.1.1 r.1.1) b 0 qs.toArray.size w:=by
   intro m os dk _ x y;have hF:=hc x.1.1 y.1.1 x.2.1 y.2.1 G [.agg ⟨x.1.2⟩, .agg ⟨y.1.2⟩] hgb (.cons x.2.2 (.cons y.2.2 .nil));refine(hF.run _ (hsub m os dk)).mono fun r W ⟨v,G',h1,h2,h3⟩=>?_;rw[bh] at h3;subst h3;refine⟨h1,W.drawn-(sortWorldK enc s w b 0 m dk os).drawn,W.heap.extract (sortWorldK enc s w b 0 m dk os).heap.size W.heap.size,?_⟩;have hdr:=h2.dr;have hos:=h2.os;have htp:=h2.tape;have hou:=h2.output;have hkp:=h2.keep;have hss:=h2.size;simp only at hdr hos htp hou hkp hss;generalize sortWorldK enc s w b 0 m dk os=W0 at*
   cases W with
   |mk heap tape drawn os' output=>
    simp only at*;unfold Go.Sort.grow World.drewN;simp only[World.mk.injEq];refine⟨?_,htp,by omega,hos,hou⟩;apply Array.ext_getElem?;intro k;rw[Array.getElem?_append];split
    ·rename_i hk';exact hkp k hk' (by simp)
    ·rename_i hk'
     rw[Array.getElem?_extract];split
     ·congr 1;omega
     ·rw[iU (by omega)]
  have hO':Go.Sort.SWO (Go.Proofs.ltOf fun(q r:{q:A×List Value//V q.1/\Is G (e q.1) (.agg ⟨q.2⟩)})=>cf q.1.1 r.1.1):=⟨fun x=>hO.irrefl x.1.1,fun x y z=>hO.trans x.1.1 y.1.1 z.1.1,fun x y z=>hO.ntrans x.1.1 y.1.1 z.1.1⟩;have hrun:=AnyQ.slices_SortFunc L s hAg hZs enc hk (fun q v hv=>yY ((henc q).2 v hv)) (fun q r=>cf q.1.1 r.1.1) hO' g #[] b 0 z.c qs.toArray w (fun args w=>s5 hg args w) hcmp hH hblt (by rw[hqs,hlen];exact hn);have ez:z=⟨some ⟨b,0,none⟩,qs.toArray.size,z.c⟩:=by rw[hqs];exact e1
  have ea:(⟨[Value.slice z.a z.n z.c, .func (.func g) #[] #[]]⟩:Array Value)= #[.slice (some ⟨b,0,none⟩) qs.toArray.size z.c, .func (.func g) #[] #[]]:=by rw[ez]
  rw[ea];refine hrun.mono fun r w' ⟨h1,d',n,os,hp,hs,h2⟩=>?_;subst h2;have hdz:d'.size=qs.toArray.size:=hp.1;have hperm:d'.toList.Perm qs:=by
   have:=hp.2.2;have e1:d'.toList.take qs.length=d'.toList:=aT (by rw[dY,hdz];simp);simpa[e1] using this
  have hasc:d'.toList.Pairwise fun x y=> ¬cf y.1.1 x.1.1<0:=by
   rw[List.pairwise_iff_getElem];intro i j hi hj hij;have:=hs i j (bS _) hij (by rw[<-hdz];simpa using hj);rw[getElem!_pos d' j (by simpa using hj),getElem!_pos d' i (by simpa using hi)] at this;simpa[Go.Proofs.ltOf] using this
  have hds:d'.toList.map (·.1.1)=zN cf ds:=by
   refine List.Perm.eq_of_pairwise (le:=fun x y=> ¬cf y x<0) (fun x y hx hy k1 k2=>?_) ?_ (yC hO ds) ?_
   ·have m1:x∈ds:=by
     obtain⟨q,hq,rfl⟩:=cX.1 hx;rw[<-hq1];exact cX.2 ⟨q,hperm.mem_iff.1 hq,J⟩
    exact hu x m1 y ((zA cf ds).mem_iff.1 hy) k2 k1
   ·rw[mZ];exact hasc
   ·refine(hperm.map _).trans ?_
    rw[hq1];exact(zA cf ds).symm
  have hlen':(d'.toList.map fun q=>Value.agg ⟨q.1.2⟩).length=es.length:=by rw[aZ,dY,hdz,hqs]
  have hIs: ∀l:List {q:A×List Value//V q.1/\Is G (e q.1) (.agg ⟨q.2⟩)},IsLs G ((l.map (·.1.1)).map e) (l.map fun q=>Value.agg ⟨q.1.2⟩):=fun l=>by
   induction l with
   |nil=>exact .nil
   |cons q l ih=>exact .cons q.2.2 ih
  have hcell: ∀v∈d'.toList.map (fun q=>Value.agg ⟨q.1.2⟩),(aC v).length=s:=fun v hv=>by
   obtain⟨q,_,rfl⟩:=cX.1 hv;exact hk q
  refine⟨_,[⟨b,aE (d'.toList.map fun q=>Value.agg ⟨q.1.2⟩)++rest,ty,false⟩],G,h1,?_,jA.2 ⟨[],J, .nil⟩,d'.toList.map (fun q=>Value.agg ⟨q.1.2⟩), .inr ⟨b,rest,false,by rw[hlen'];exact e1,J,eu _ hcell,?_,by rw[hlen'];exact e5⟩,by rw[<-hds];exact hIs _,hcell,fun h=>by cases h⟩
  ·refine⟨J,J,J,hsize n os d',fun q hq hqm=>hoth n os d' q hq fun e=>hqm (by rw[e];exact aQ),hsub n os d',aO.refl _,fun _ _=>J,fun o ho=>?_,List.pairwise_singleton _ _,?_,fun p hp=>(by cases hp)⟩
   ·rw[aL.1 ho]
    exact⟨by rw[<-hfl];exact hblk n os d' hdz,hGb,(fun h=>by cases h),fun _=>aQ⟩
   ·show w.drawn<=w.drawn+n
    omega
  ·rw[<-e4,eu _ hcell,e3,hlen']
def wE{a b c:aa}(h:cF c a):cF c b\/cF b a:=by
 by_cases h1:c.half<b.half
 ·exact .inl (.inl h1)
 ·by_cases h2:b.half<a.half
  ·exact .inr (.inl h2)
  ·rcases h with h|⟨h,k⟩
   ·omega
   ·have e1:c.half=b.half:=by omega
    have e2:b.half=a.half:=by omega
    by_cases q1:0<c.cross b
    ·exact .inl (.inr ⟨e1,q1⟩)
    ·by_cases q2:0<b.cross a
     ·exact .inr (.inr ⟨e2,q2⟩)
     ·exfalso
      have i1:b.y*c.cross a=a.y*c.cross b+c.y*b.cross a:=by unfold aa.cross;grind
      have i2:b.x*c.cross a=a.x*c.cross b+c.x*b.cross a:=by unfold aa.cross;grind
      have q1':c.cross b<=0:=by grind
      have q2':b.cross a<=0:=by grind
      rcases i9 b with⟨eb,kb⟩|⟨eb,kb⟩|⟨eb,kb⟩<;>rcases i9 a with⟨ea,ka⟩|⟨ea,ka⟩|⟨ea,ka⟩<;>rcases i9 c with⟨ec,kc⟩|⟨ec,kc⟩|⟨ec,kc⟩<;>first|omega|skip
      ·have ha:0<=a.y:=by grind
       have hc:0<=c.y:=by grind
       rcases kb with kb|⟨kb,kb'⟩
       ·have g1:=jT ha (show 0<= -c.cross b by grind)
        have g2:=jT hc (show 0<= -b.cross a by grind);have g3:=eE kb k;grind
       ·have hx:b.cross a=b.x*a.y:=by unfold aa.cross;rw[kb];grind
        have ha0:a.y=0:=by
         rcases ka with ka|ka
         ·have:=eE kb' ka;grind
         ·exact ka.1
        have hax:0<a.x:=by grind
        have hy:c.cross a= -(c.y*a.x):=by unfold aa.cross;rw[ha0];grind
        have:=jT hc (show 0<=a.x by grind);grind
      ·have ha:0<= -a.y:=by grind
       have hc:0<= -c.y:=by grind
       rcases kb with kb|⟨kb,kb'⟩
       ·have g1:=jT ha (show 0<= -c.cross b by grind)
        have g2:=jT hc (show 0<= -b.cross a by grind);have g3:=eE (show 0< -b.y by grind) k;grind
       ·have hx:b.cross a=b.x*a.y:=by unfold aa.cross;rw[kb];grind
        have ha0:a.y=0:=by
         rcases ka with ka|ka
         ·have:=eE (show 0< -b.x by grind) (show 0< -a.y by grind);grind
         ·exact ka.1
        have hax:0< -a.x:=by grind
        have hy:c.cross a= -(c.y*a.x):=by unfold aa.cross;rw[ha0];grind
        have:=jT hc (show 0<= -a.x by grind);grind
      ·have hy:c.cross a=0:=by unfold aa.cross;rw[ka.1,ka.2];grind
       rw[hy] at k;exact absurd k (by decide)
def yR:Go.Sort.SWO (Go.Proofs.ltOf bP):=by
 have e: ∀x y,Go.Proofs.ltOf bP x y=true↔cF x y:=fun x y=>by rw[<-kt];simp[Go.Proofs.ltOf]
 have e2: ∀x y,Go.Proofs.ltOf bP x y=false↔ ¬cF x y:=fun x y=>by rw[<-e];simp
 refine⟨fun x=>(e2 x x).2 (sr x),fun x y z h k=>(e x z).2 (r6 ((e x y).1 h) ((e y z).1 k)),fun x y z h k=>(e2 x z).2 fun q=>?_⟩;rcases wE (b:=y) q with q|q
 ·exact(e2 x y).1 h q
 ·exact(e2 y z).1 k q
def xM: ∀{l m:List aa},l.Pairwise cF->m.Pairwise cF->(∀x,x∈l↔x∈m)->l=m
 |[],[],_,_,_=>rfl
 |[],b::m,_,_,h=>absurd ((h b).2 aQ) (by simp)
 |a::l,[],_,_,h=>absurd ((h a).1 aQ) (by simp)
 |a::l,b::m,h1,h2,h=>by
  obtain⟨p1,p2⟩:=bU.1 h1;obtain⟨q1,q2⟩:=bU.1 h2;have e:a=b:=by
   rcases bQ.1 ((h a).1 aQ) with e|e
   ·exact e
   ·rcases bQ.1 ((h b).2 aQ) with f|f
    ·exact f.symm
    ·exact(EV (q1 a e) (p1 b f)).elim
  subst e;congr 1;refine xM p2 q2 fun x=>⟨fun hx=>?_,fun hx=>?_⟩
  ·rcases bQ.1 ((h x).1 (aK _ hx)) with e|e
   ·subst e;exact(sr _ (p1 _ hx)).elim
   ·exact e
  ·rcases bQ.1 ((h x).2 (aK _ hx)) with e|e
   ·subst e;exact(sr _ (q1 _ hx)).elim
   ·exact e
def zX(l:List aa):Prop:= ∀x∈l,∀y∈l,bP x y=0->x=y
def xL: ∀{l:List aa} {x:aa},(x::l).Pairwise (fun a b=> ¬cF b a)->zX (x::l)->(zG x l).Pairwise cF/\(∀y∈zG x l,cF x y)/\ ∀y,y∈x::zG x l↔y∈x::l
 |[],_,_,_=>⟨.nil,(fun y hy=>by cases hy),fun _=>Iff.rfl⟩
 |z::l,x,h,ht=>by
  obtain⟨p1,p2⟩:=bU.1 h;obtain⟨i1,i2,i3⟩:=xL p2 fun a ha b hb=>ht a (aK _ ha) b (aK _ hb);rw[zG];by_cases e:bP z x=0
  ·rw[if_pos e]
   obtain rfl:=ht z (by simp) x (by simp) e;exact⟨i1,i2,fun y=>by rw[i3];simp⟩
  ·rw[if_neg e]
   have hb:cF x z:=by
    by_cases q:cF x z
    ·exact q
    ·exact absurd (yv (p1 z aQ) q) e
   refine⟨bU.2 ⟨i2,i1⟩,fun y hy=>?_,fun y=>?_⟩
   ·rcases bQ.1 hy with rfl|hy
    ·exact hb
    ·exact r6 hb (i2 y hy)
   ·rw[bQ,i3,bQ (b:=x) (l:=z::l)]
def xS{l:List aa}(h:l.Pairwise fun a b=> ¬cF b a)(ht:zX l):(zM l).Pairwise cF/\ ∀y,y∈zM l↔y∈l:=by
 cases l with
 |nil=>exact⟨.nil,fun _=>Iff.rfl⟩
 |cons x l=>
  obtain⟨i1,i2,i3⟩:=xL h ht;exact⟨bU.2 ⟨i2,i1⟩,i3⟩
def xJ{l:List aa}(ht:zX l)(y:aa):y∈jo l↔y∈l:=by
 have h2: ∀y,y∈jo l->y∈l:=fun y hy=>by
  rcases ve bP hy with h|h
  ·exact h
  ·cases h
 refine⟨h2 y,fun hy=>?_⟩;obtain⟨e,e1,e2⟩:=wv bP (o:=[]) hy;rcases e2 with rfl|e2
 ·exact e1
 ·rw[<-ht e (h2 e e1) y hy e2];exact e1
def xK{l:List aa}(ht:zX l):zM (zN bP l)=jo l:=by
 have hm: ∀y,y∈zN bP l↔y∈l:=fun y=>(zA bP l).mem_iff;have h1:(zN bP l).Pairwise fun a b=> ¬cF b a:=(yC yR l).imp fun h=>by rw[<-kt];exact h
 obtain⟨k1,k2⟩:=xS h1 fun a ha b hb=>ht a ((hm a).1 ha) b ((hm b).1 hb);exact xM k1 (IS l) fun x=>by rw[k2,hm,xJ ht]
end Go.Sx
end
section
namespace Go.Proofs
open Go.Shelf
def Tryz.sortPt_ren:Go.Shelf.Ren:=⟨fun|6=>230|15=>115|14=>248|28=>166|29=>167|20=>258|21=>259|22=>260|23=>261|24=>262|25=>263|26=>264|27=>265|46=>271|47=>209|48=>210|49=>272|50=>273|57=>276|n=>n,fun|22=>163|24=>103|25=>298|3=>3|39=>199|0=>0|53=>206|55=>159|4=>4|46=>250|45=>249|50=>254|5=>5|9=>9|66=>283|70=>287|76=>304|77=>305|n=>n,fun|n=>n⟩
def Tryz.sortPt:Go.Proofs.SlLaysF0.n6 Tryz.prog Tryz.sortPt_ren:={
 mixed:=by kernel_rfl
 f6:=⟨Tryz.f230.name,by decide,Tryz.func230.trans (congrArg some (by kernel_rfl))⟩
 f14:=⟨Tryz.f248.name,by decide,Tryz.func248.trans (congrArg some (by kernel_rfl))⟩
 f15:=Tryz.func115.trans (congrArg some (by kernel_rfl))
 f20:=⟨Tryz.f258.name,by decide,Tryz.func258.trans (congrArg some (by kernel_rfl))⟩
 f21:=⟨Tryz.f259.name,by decide,Tryz.func259.trans (congrArg some (by kernel_rfl))⟩
 f22:=⟨Tryz.f260.name,by decide,Tryz.func260.trans (congrArg some (by kernel_rfl))⟩
 f23:=⟨Tryz.f261.name,by decide,Tryz.func261.trans (congrArg some (by kernel_rfl))⟩
 f24:=⟨Tryz.f262.name,by decide,Tryz.func262.trans (congrArg some (by kernel_rfl))⟩
 f25:=⟨Tryz.f263.name,by decide,Tryz.func263.trans (congrArg some (by kernel_rfl))⟩
 f26:=⟨Tryz.f264.name,by decide,Tryz.func264.trans (congrArg some (by kernel_rfl))⟩
 f27:=⟨Tryz.f265.name,by decide,Tryz.func265.trans (congrArg some (by kernel_rfl))⟩
 f28:=Tryz.func166.trans (congrArg some (by kernel_rfl))
 f29:=Tryz.func167.trans (congrArg some (by kernel_rfl))
 f46:=⟨Tryz.f271.name,by decide,Tryz.func271.trans (congrArg some (by kernel_rfl))⟩
 f47:=Tryz.func209.trans (congrArg some (by kernel_rfl))
 f48:=Tryz.func210.trans (congrArg some (by kernel_rfl))
 f49:=⟨Tryz.f272.name,by decide,Tryz.func272.trans (congrArg some (by kernel_rfl))⟩
 f50:=⟨Tryz.f273.name,by decide,Tryz.func273.trans (congrArg some (by kernel_rfl))⟩
 f57:=⟨Tryz.f276.name,by decide,Tryz.func276.trans (congrArg some (by kernel_rfl))⟩
 t0:=Tryz.underlying0
 a0:=Tryz.isAgg0
 z0:=Tryz.sizeOf0
 v0:=Tryz.zeroValue0
 t3:=Tryz.underlying3
 a3:=Tryz.isAgg3
 z3:=Tryz.sizeOf3
 v3:=Tryz.zeroValue3
 t4:=Tryz.underlying4
 a4:=Tryz.isAgg4
 z4:=Tryz.sizeOf4
 v4:=Tryz.zeroValue4
 t5:=Tryz.underlying5
 a5:=Tryz.isAgg5
 z5:=Tryz.sizeOf5
 v5:=Tryz.zeroValue5
 t9:=Tryz.underlying9
 a9:=Tryz.isAgg9
 z9:=Tryz.sizeOf9
 v9:=Tryz.zeroValue9
 t22:=Tryz.underlying163
 a22:=Tryz.isAgg163
 z22:=Tryz.sizeOf163
 v22:=Tryz.zeroValue163
 t25:=Tryz.underlying298
 a25:=Tryz.isAgg298
 z25:=Tryz.sizeOf298
 v25:=Tryz.zeroValue298
 t39:=Tryz.underlying199
 a39:=Tryz.isAgg199
 z39:=Tryz.sizeOf199
 v39:=Tryz.zeroValue199
 t45:=Tryz.underlying249
 a45:=Tryz.isAgg249
 z45:=Tryz.sizeOf249
 v45:=Tryz.zeroValue249
 t46:=Tryz.underlying250
 a46:=Tryz.isAgg250
 z46:=Tryz.sizeOf250
 v46:=Tryz.zeroValue250
 t50:=Tryz.underlying254
 a50:=Tryz.isAgg254
 z50:=Tryz.sizeOf254
 v50:=Tryz.zeroValue254
 t53:=Tryz.underlying206
 a53:=Tryz.isAgg206
 z53:=Tryz.sizeOf206
 v53:=Tryz.zeroValue206
 t55:=Tryz.underlying159
 a55:=Tryz.isAgg159
 z55:=Tryz.sizeOf159
 v55:=Tryz.zeroValue159
 t66:=Tryz.underlying283
 a66:=Tryz.isAgg283
 z66:=Tryz.sizeOf283
 v66:=Tryz.zeroValue283
 t70:=Tryz.underlying287
 a70:=Tryz.isAgg287
 z70:=Tryz.sizeOf287
 v70:=Tryz.zeroValue287
 t76:=Tryz.underlying304
 a76:=Tryz.isAgg304
 z76:=Tryz.sizeOf304
 v76:=Tryz.zeroValue304
 t77:=Tryz.underlying305
 a77:=Tryz.isAgg305
 z77:=Tryz.sizeOf305
 v77:=Tryz.zeroValue305}
end Go.Proofs
end
section
namespace Go.Sx
open Go Go.Proofs Tryz
variable {GB:Gh}
def xD{ds:List aa}{i:Nat}(hb: ∀d∈ds,av d i)(hi:i<=10000000)(hn:ds.length<=10000000)(ht:zX ds):PW GB prog 230 [none,some (.v (.func (.func 231) #[] #[]))] 6 103 (ds.map eZ) (.tp []) ((zN bP ds).map eZ):=
 wG (GB:=GB) Tryz.sortPt ⟨_,func230,J,J⟩ isAgg103 sizeOf103 eZ (fun d=>av d i) (fun x=>⟨_,J,J,J⟩) bP yR ⟨_,func231,J,J⟩ (fun x y hx hy=>Dt (i:=i) (j:=i) hi hi) hb (by omega)
  (fun x hx y hy h k=>ht x hx y hy (yv (by rw[<-kt];exact h) (by rw[<-kt];exact k)))
def wB{ds:List aa}{i:Nat}(hb: ∀d∈ds,av d i)(hi:i<=10000000)(hn:ds.length<=10000000)(ht:zX ds):PB GB prog 197 (iq [none]) 6 103 (ds.map eZ) (fun w=> .v (.slice w.a w.n w.c)) ((jo ds).map eZ):=by
 have hsm: ∀d∈zN bP ds,av d i:=fun d hd=>hb d ((zA bP ds).mem_iff.1 hd);have hsl:(zN bP ds).length=ds.length:=(zA bP ds).length_eq;refine tc func197 J J ntmps197 J J (fun C=>?_);refine cw _ J (xD hb hi hn ht) J J<|cq ((jo ds).map eZ) J (yV (i0:=i) hsm (by omega) hi) (by rw[xK ht]) J<|?_;exact pM J J J J
theorem xA{ds:List aa}{i:Nat}(h: ∀d∈ds,av d i)(h2:2<=i): ∀v∈fj ds,av v (i+i+1):=fun v hv=>by
 have up: ∀{q:aa},av q i->av q (i+i+1):=fun hq=>⟨hq.x.mono (by omega),hq.y.mono (by omega)⟩;unfold fj at hv;split at hv
 ·rw[aL] at hv
  subst hv;exact⟨BQ.mono (k:=2) ⟨by decide,by decide⟩ (by omega),BQ.mono (k:=2) ⟨by decide,by decide⟩ (by omega)⟩
 ·obtain⟨k,hk,rfl⟩:=cX.1 hv
  have hk':=List.mem_range.1 hk;have g: ∀{j:Nat},j<ds.length->av (ds.getD j ⟨0,0⟩) i:=fun{j} hj=>by
   rw[aV,aX hj];exact h _ (mY hj)
  haveI:=g hk';haveI:=g (cM (k+1) (show 0<ds.length by omega));unfold lm;split
  ·exact inferInstance
  ·exact up inferInstance
def yL(ds:List aa):(fj ds).length<=ds.length+1:=by
 unfold fj;split
 ·simp
 ·rw[aZ,mK];omega
def yW{b c:Bool}:PF GB prog 91 [vB b,vB c] (vI (if b&&c then 2 else if b then 1 else 0)):=by
 refine fn func91 J J ntmps91 J J (fun C=>?_);refine gu 7 J J J (fun hg7=>?_) (fun hg7=>?_)
 ·refine bb J J J (fun hc5=>?_) (fun hc5=>?_)
  ·exact rz J (by subst hg7 hc5;rfl)
  ·refine bb J J J (fun hc10=>?_) (fun hc10=>?_)
   ·exact rz J (by subst hg7 hc5;rfl)
   ·subst hg7;cases hc10
 ·refine bb J J J (fun hc10=>?_) (fun hc10=>?_)
  ·subst hg7;cases hc10
  ·exact rz J (by subst hg7;rfl)
def wJ{C:au}{n:Nat}{Q0:Exit->Act->World->Prop}{fr:ak}{own:aw}{ops:Array Oper}{r:List Oper}{K:List Kt}(k:Nat)(hl:aA fr k=some (.d (.ag [vI 0,vI 0, .v (.pointer none)])))(h:aj prog GB C n Q0 ((k, .d (eF 0))::fr) own (.ops ops r K)):aj prog GB C n Q0 fr own (.ops ops r K):=
 ld (g:= .d (eF 0)) hl (fun _ G y hy=>oL G y hy) h
theorem yM{p:aa}{f:aI}(hf:FE f): ∀d∈ew p f,av d 500:=fun d hd=>by
 haveI:=hf.fo.lb;rcases(wZ hd).2 with rfl|rfl
 ·exact inferInstance
 ·exact inferInstance
def zB{E:List aI}{p:aa}{k:Nat}{f:aI}(h:E[k]? =some f):(E.drop k).flatMap (ew p)=ew p f++(E.drop (k+1)).flatMap (ew p):=by
 obtain⟨hk,e⟩:=aS.1 h;rw[bL hk,e,List.flatMap_cons]
def xB(p:aa)(f:aI):(ew p f).length<=2:=by
 unfold ew
 repeat' split
 all_goals simp
def zT(p:aa): ∀E:List aI,(E.flatMap (ew p)).length<=2*E.length
 |[]=>bZ _
 |f::E=>by
  have:=zT p E;have:=xB p f;rw[List.flatMap_cons,bX,bT];omega
def xX{p:aa}{f:aI}(h:gi f p=false):ew p f=[]:=by unfold ew;rw[h];rfl
def zZ{p:aa}{f:aI}(hf:FE f)(h:gi f p=true):ew p f=(if bw (dq f.l p) f.v.hi<0 then [b8 f.l.dir] else [])++(if 0<bw (dq f.l p) f.v.lo then [c8 (b8 f.l.dir)] else []):=by
 unfold ew El zy;rw[if_pos h,hf.nl,hf.nh];simp only[Bool.false_or,decide_eq_true_eq]
def xZ{E:List aI}(hE: ∀f∈E,FE f)(hn:E.length<=100000){p:aa}{i:Nat}[hp:av p i](hi:i<=100000:=by decide):PF GB prog 143 [.sl (E.map bG),eZ p] (.sl ((il E p).map eZ)):=by
 have hml:(E.map bG).length=E.length:=aZ ..;have hrl:=zT p E;refine fn (fu:=⟨16⟩) func143 J J ntmps143 J J (fun C=>?_);refine aF 11 (.d (vI (E.length:Nat))) J (by rw[hml]<;>rfl) ?_;refine gx J<|?_;refine nr 5 5 103 6 J J J ?_;refine lp (X:=List aa×Nat) (fun⟨acc,k⟩=>[(12, .d (vI (k:Nat))),(5, .rw 5)]) (fun⟨acc,k⟩=>[(5,some (.b 103 6 (acc.map eZ) true))]) (fun⟨acc,k⟩=>acc++(E.drop k).flatMap (ew p)=E.flatMap (ew p)/\k<=E.length) (fun⟨acc,k⟩=>E.length-k) ⟨[],0⟩ J ⟨by simp,bS _⟩ (fun _=>J) (fun⟨acc,k⟩ hk=>?_)
 try dsimp only at hk⊢
 obtain⟨h1,h2⟩:=hk;have hal:acc.length<=2*E.length:=by
  have q1:=congrArg List.length h1;rw[bX] at q1;omega
 have ham:(acc.map eZ).length=acc.length:=aZ ..;refine br J J J (fun hc13=>?_) (fun hc13=>?_)
 .
  obtain⟨f,hx⟩: ∃u,E[k]? =some u:=⟨_,aX (by omega)⟩;have hf:=hE f (aN hx);haveI:=hf.fo.lb;haveI:=hf.fo.lo;haveI:=hf.fo.hi;haveI:=rO (p:=p) (i:=i) hf.fo.lb;refine ix _ J (d7 hx) J<|cl J (wW hf (p:=p) (i:=i) hi) J<|?_;refine bb J J J (fun hc19=>?_) (fun hc19=>?_)
  .
   exact at_ ⟨acc,k+1⟩ (by dsimp only;exact⟨⟨by rw[<-h1,zB hx,xX (by simpa using hc19)];simp,by omega⟩,(by omega)⟩)
  .
   have hha:gi f p=true:=by simpa using hc19
   refine cl J (qx (l:=f.l) (p:=p) (i:=i) (by omega)) J<|cl J (sH (l:=f.l)) J<|cl (fu:=⟨12⟩) J (LL (p:=f.l.dir) (i:=97)) J<|?_;refine aF 30 (.d (vB false)) J (by rw[hf.nh]<;>rfl) ?_;refine oN 30 J ?_;refine gx (fu:=⟨0⟩) J<|?_;rcases Classical.em (bw (dq f.l p) f.v.hi<0) with hA|hA
   .
    refine gx J<|cl (fu:=⟨0⟩) J (gp (p:=dq f.l p) (q:=f.v.hi) (i:=2*i+600) (j:=1200) (by omega) (by decide)) J<|lr J (by show some (decide _)=some true;rw[decide_eq_true (by omega)]) J<|?_;refine rf J J<|ap (fu:=⟨8⟩) ((acc++[b8 f.l.dir]).map eZ) J (by rw[fY]<;>rfl) (mP [b8 f.l.dir]) J<|?_;refine aF 45 (.d (vB false)) J (by rw[hf.nl]<;>rfl) ?_;refine oN 45 J ?_;refine gx J<|cl J (gp (p:=dq f.l p) (q:=f.v.lo) (i:=2*i+600) (j:=1200) (by omega) (by decide)) J<|?_;refine br J J J (fun hc53=>?_) (fun hc53=>?_)
    .
     refine cl J (B5 (p:=b8 f.l.dir) (i:=500)) J<|rf J J<|ap ((acc++[b8 f.l.dir]++[c8 (b8 f.l.dir)]).map eZ) J (by simp only[fY,dL,gW,gN]<;>rfl) (mP [c8 (b8 f.l.dir)]) J<|?_;refine jq 58 5 J ?_;exact at_ ⟨acc++[b8 f.l.dir]++[c8 (b8 f.l.dir)],k+1⟩ (by dsimp only;exact⟨⟨by rw[<-h1,zB hx,zZ hf hha,if_pos hA,if_pos (by omega)];simp,by omega⟩,(by omega)⟩)
    .
     refine jq 42 5 J ?_;exact at_ ⟨acc++[b8 f.l.dir],k+1⟩ (by dsimp only;exact⟨⟨by rw[<-h1,zB hx,zZ hf hha,if_pos hA,if_neg (by omega)];simp,by omega⟩,(by omega)⟩)
   .
    refine gx J<|cl (fu:=⟨0⟩) J (gp (p:=dq f.l p) (q:=f.v.hi) (i:=2*i+600) (j:=1200) (by omega) (by decide)) J<|jm (fu:=⟨11⟩) J (by show some (decide _)=some false;rw[decide_eq_false (by omega)]) J<|?_;refine aF 45 (.d (vB false)) J (by rw[hf.nl]<;>rfl) ?_;refine oN 45 J ?_;refine gx J<|cl J (gp (p:=dq f.l p) (q:=f.v.lo) (i:=2*i+600) (j:=1200) (by omega) (by decide)) J<|?_;refine br J J J (fun hc53=>?_) (fun hc53=>?_)
    .
     refine cl J (B5 (p:=b8 f.l.dir) (i:=500)) J<|rf J J<|ap ((acc++[c8 (b8 f.l.dir)]).map eZ) J (by simp only[fY,dL,gW,gN]<;>rfl) (mP [c8 (b8 f.l.dir)]) J<|?_;refine jq 58 5 J ?_;exact at_ ⟨acc++[c8 (b8 f.l.dir)],k+1⟩ (by dsimp only;exact⟨⟨by rw[<-h1,zB hx,zZ hf hha,if_neg hA,if_pos (by omega)];simp,by omega⟩,(by omega)⟩)
    .
     exact at_ ⟨acc,k+1⟩ (by dsimp only;exact⟨⟨by rw[<-h1,zB hx,zZ hf hha,if_neg hA,if_neg (by omega)];simp,by omega⟩,(by omega)⟩)
 .
  obtain rfl:k=E.length:=by omega
  have hacc:acc=E.flatMap (ew p):=by rw[iR] at h1;simpa using h1
  refine cq ((il E p).map eZ) rfl (wB (ds:=acc) (i:=500) (fun d hd=>by rw[hacc] at hd;obtain⟨f,h3,h4⟩:=lV.1 hd;exact yM (hE f h3) d h4) (by decide) (by omega) (by rw[hacc];exact Aw (fun f hf=>(hE f hf).fo.ok) p)) (by rw[hacc]<;>rfl) rfl<|?_;refine me 61 J ?_;exact rz J J
def zO(p d:aa)(s:Rat):p.add (d.scale s)=ee p d s:=by
 unfold aa.add aa.scale ee;simp only[aa.mk.injEq];constructor<;>grind
def yF(x:Rat×Bool)(s:Rat):Rat×Bool:=if 0<Int.sign s.num/\(x.2=false\/bw s x.1<0) then(s,true) else x
def zP(a b:Rat):yF (yF (0,false) a) b=oI a b:=by
 unfold yF oI;by_cases ha:0<Int.sign a.num
 ·simp only[ha,true_and,not_true_eq_false,false_or]
  simp
 ·simp only[ha,false_and,if_false,not_false_eq_true,true_or,and_true]
def zH{b s:Rat}{x:Bool}(h:0<Int.sign s.num)(k:x=false\/bw s b<0):yF (b,x) s=(s,true):=by unfold yF;rw[if_pos ⟨h,k⟩]
def zR{b s:Rat}{x:Bool}(h: ¬0<Int.sign s.num\/(x=true/\ ¬bw s b<0)):yF (b,x) s=(b,x):=by
 unfold yF;rw[if_neg];rintro ⟨h1,h2⟩;rcases h with h|⟨h,k⟩
 ·exact h h1
 ·rcases h2 with e|e
  ·rw[h] at e;cases e
  ·exact k e
theorem zY{m:Nat}(hm:1<=m):BQ (0:Rat) m:=BQ.mono (k:=1) ⟨by decide,by decide⟩ hm
theorem wF{p q:aa}{i j:Nat}(hp:av p i)[av q j]:BQ (p.dot q) (i+j+(i+j)+1):=by
 haveI:=hp;exact inferInstance
theorem zQ{p d q:aa}{i j m:Nat}[av p i][av d j][av q 3000](hm:2*i+6*j+6100<=m):BQ (lG p d q) m:=by
 haveI:=wF (q:=d) (nY q p (i:=3000) (j:=i));have h:BQ ((⟨q.x-p.x,q.y-p.y⟩:aa).dot d/d.dot d) _:=inferInstance;exact BQ.mono (show BQ (lG p d q) _ from h) (by omega)
def yP{f:aI}{p d:aa}(h:f.l.nor.dot d≠0):f4 f p d=(-(f.l.value p/f.l.nor.dot d),decide (0<Int.sign (-(f.l.value p/f.l.nor.dot d)).num)&&jE f.v (dq f.l (ee p d (-(f.l.value p/f.l.nor.dot d))))):=by unfold f4;rw[if_neg h]
def wC{f:aI}{p d:aa}(h:f.l.nor.dot d=0)(k:f.l.value p=0):f4 f p d=oI (lG p d (f.l.at f.v.lo)) (lG p d (f.l.at f.v.hi)):=by unfold f4;rw[if_pos h,if_pos k]
def wD{f:aI}{p d:aa}(h:f.l.nor.dot d=0)(k:f.l.value p≠0):f4 f p d=(0,false):=by unfold f4;rw[if_pos h,if_neg k]
def wH{f:aI}(hf:FE f){p d:aa}{i j:Nat}[hp:av p i][hd:av d j](hi:i<=30000:=by decide)(hj:j<=10000:=by decide):PF GB prog 144 [bG f,eZ p,eZ d] (.tp [eF (f4 f p d).1,vB (f4 f p d).2]):=by
 haveI:=hf.fo.lb;haveI:=hf.fo.lo;haveI:=hf.fo.hi;obtain⟨k0,hk0⟩: ∃k0,k0=f.l.nor.dot d:=⟨_,rfl⟩;obtain⟨c0,hc0⟩: ∃c0,c0=f.l.value p:=⟨_,rfl⟩;haveI:BQ k0 (2*j+600):=by rw[hk0];exact BQ.mono (inferInstance:BQ (f.l.nor.dot d) _) (by omega)
 haveI:BQ c0 (2*i+900):=by rw[hc0];exact BQ.mono (inferInstance:BQ (f.l.value p) _) (by omega)
 obtain⟨s,hs⟩: ∃s,s= -(c0/k0):=⟨_,rfl⟩;haveI:BQ (c0/k0) (2*i+2*j+1500):=BQ.mono (inferInstance:BQ (c0/k0) _) (by omega);haveI:BQ s (2*i+2*j+1500):=by rw[hs];exact inferInstance
 haveI:av (ee p d s) (3*i+3*j+1600):=by rw[<-zO];exact av.mono (inferInstance:av (p.add (d.scale s)) _) (by omega)
 obtain⟨kC,hslo⟩: ∃s,s=lG p d (f.l.at f.v.lo):=⟨_,rfl⟩;obtain⟨shi,hshi⟩: ∃s,s=lG p d (f.l.at f.v.hi):=⟨_,rfl⟩;haveI:av (f.l.at f.v.hi) 3000:=oV hf.fo.lb hf.fo.hi;haveI:av (f.l.at f.v.lo) 3000:=oV hf.fo.lb hf.fo.lo;haveI:BQ kC (2*i+6*j+9000):=by rw[hslo];exact zQ (by omega)
 haveI:BQ shi (2*i+6*j+9000):=by rw[hshi];exact zQ (by omega)
 haveI:BQ f.v.lo (6*i+6*j+4000):=hf.fo.lo.mono (by omega);haveI:BQ f.v.hi (6*i+6*j+4000):=hf.fo.hi.mono (by omega);haveI:BQ (dq f.l (ee p d s)) (6*i+6*j+4000):=(rO (p:=ee p d s) (i:=3*i+3*j+1600) hf.fo.lb).mono (by omega);refine fn func144 J J ntmps144 J J (fun C=>?_);refine cl J (w8 (l:=f.l)) J<|cl (fu:=⟨0⟩) J (kr (p:=f.l.nor) (q:=d) (i:=97) (j:=j) (by decide) (by omega)) J<|?_;refine aF 22 (.d (eF k0)) J (by rw[hk0]) ?_;refine gx J<|cl (fu:=⟨0⟩) J (yq (l:=f.l) (p:=p) (i:=i) (by omega)) J<|?_;refine aF 26 (.d (eF c0)) J (by rw[hc0]) ?_;refine gx J<|cl J (q7 (q:=k0)) J<|?_;refine bb J J J (fun hc29=>?_) (fun hc29=>?_)
 .
  have hkn:f.l.nor.dot d≠0:=by rw[<-hk0];simpa using hc29
  refine cl J (pg (p:=c0) (q:=k0) (i:=2*i+900) (j:=2*j+600) (by omega) (by omega)) J<|cl (fu:=⟨0⟩) J (ml (q:=c0/k0) (i:=2*i+2*j+1500) (by omega)) J<|?_;refine aF 33 (.d (eF s)) J (by rw[hs]) ?_;refine gx J<|cl (fu:=⟨0⟩) J (ik (q:=s) (i:=2*i+2*j+1500) (by omega)) J<|?_;refine CB (v2:=fun hg37=>by simp only[ah];kernel_rfl) J J J J (fun hg37=>?_) (fun hg37=>?_)
  .
   refine cl J (qf (p:=d) (c:=s) (i:=j) (j:=2*i+2*j+1500) (by omega) (by omega)) J<|cl (fu:=⟨0⟩) J (sJ (p:=p) (q:=d.scale s) (i:=i) (j:=j+(2*i+2*j+1500)) (by omega) (by omega)) J<|?_;refine aF 47 (.d (eZ (ee p d s))) J (by rw[zO]) ?_;refine gx J<|cl J (qx (l:=f.l) (p:=ee p d s) (i:=3*i+3*j+1600) (by omega)) J<|cl J (Cc (v:=f.v) (t:=dq f.l (ee p d s)) (i:=6*i+6*j+4000) (by omega)) J<|?_;exact rz J (by rw[yP hkn,<-hk0,<-hc0,<-hs];show DV.tp [_, .v (.bool _)]= .tp [_, .v (.bool _)];simp only[hg37,decide_true,Bool.true_and];rfl)
  .
   exact rz J (by rw[yP hkn,<-hk0,<-hc0,<-hs];show DV.tp [_, .v (.bool _)]= .tp [_, .v (.bool _)];simp only[hg37,decide_false,Bool.false_and];rfl)
 .
  have hkz:f.l.nor.dot d=0:=by rw[<-hk0];simpa using hc29
  refine cl J (q7 (q:=c0)) J<|?_;refine bb (fu1:=⟨3⟩) (fu2:=⟨16⟩) J J J (fun hc53=>?_) (fun hc53=>?_)
  .
   have hcn:f.l.value p≠0:=by rw[<-hc0];simpa using hc53
   refine wJ 54 J ?_;refine gx J<|?_;exact rz J (by rw[wD hkz hcn];rfl)
  .
   have hcz:f.l.value p=0:=by rw[<-hc0];simpa using hc53
   refine oJ (fu:=⟨1⟩) (l5 f) J (fun G y hy=>nX hf.sm hy) J<|oJ (fu:=⟨0⟩) (l5 f) J (fun G y hy=>nX hf.sm hy) J<|Mv (fu:=⟨1⟩) (i:=⟨.o,1,some [.d (.v .nilFunc)],false⟩) (z:= .v .nilFunc) J (by kernel_rfl) J J J<|?_;refine aF 60 (.d (vI 2)) J J ?_;refine gx J<|?_;refine u4 12 _ J J ?_;refine GN 11 [vI (cD 0),vI (cE 0),cB 0] rfl (fun G m=>zF) J ?_;refine lp (X:=Nat×Rat×Bool) (fun⟨t,bst,fnd⟩=>[(61, .d (vI (t:Nat))),(12, .d (vB fnd)),(11, .ov 11 0)]) (fun⟨t,bst,fnd⟩=>[(11,some (.o 101 [.d (vI (cD bst)), .d (vI (cE bst)), .d (cB bst)] true))]) (fun⟨t,bst,fnd⟩=>t<=2/\BQ bst (2*i+6*j+9000)/\(t=0->(bst,fnd)=(0,false))/\(t=1->(bst,fnd)=yF (0,false) kC)/\(t=2->(bst,fnd)=oI kC shi)) (fun⟨t,bst,fnd⟩=>2-t) ⟨0,0,false⟩ J ⟨by omega,zY (by omega),fun _=>J,fun e=>by omega,fun e=>by omega⟩ (fun _=>J) (fun⟨t,bst,fnd⟩ hk=>?_)
   try dsimp only at hk⊢
   obtain⟨hk2,hbb,q0,q1,q2⟩:=hk;haveI:=hbb;refine br (fu1:=⟨6⟩) J J J (fun hc62=>?_) (fun hc62=>?_)
   .
    rcases(show t=0\/t=1 by omega) with rfl|rfl
    .
     refine gx J<|ix (fu:=⟨0⟩) _ J J J<|Ds (fu:=⟨6⟩) J J J J J J<|mw (ds1:=[bG f]) (ds2:=[]) J (.cons (o8 hf.sm) (b9.2 J)) (b9.2 J) (tA hf) J<|?_;refine cl J (tR (p:=f.l.at f.v.lo) (q:=p) (i:=3000) (j:=i) (by decide) (by omega)) J<|cl J (kr (p:=⟨(f.l.at f.v.lo).x-p.x,(f.l.at f.v.lo).y-p.y⟩) (q:=d) (i:=3000+i+1) (j:=j) (hp:=nY _ _) (by omega) (by omega)) J<|?_;refine cl J (kr (p:=d) (q:=d) (i:=j) (j:=j) (by omega) (by omega)) J<|cl (fu:=⟨0⟩) J (pg (p:=(⟨(f.l.at f.v.lo).x-p.x,(f.l.at f.v.lo).y-p.y⟩:aa).dot d) (q:=d.dot d) (i:=3000+i+1+j+(3000+i+1+j)+1) (j:=j+j+(j+j)+1) (h:=wF (nY _ _)) (by omega) (by omega)) J<|?_;refine aF 78 (.d (eF kC)) J (by rw[hslo];rfl) ?_;refine gx (fu:=⟨8⟩) J<|?_;refine i6 80 J ?_;refine gx J<|cl J (ik (q:=kC) (i:=(2*i+6*j+9000)) (by omega)) J<|?_;refine cs 85 J J J (fun hg85=>?_) (fun hg85=>?_)
     .
      refine gu 88 J J J (fun hg88=>?_) (fun hg88=>?_)
      .
       refine oB 12 _ J J ?_;exact at_ ⟨0+1,kC,true⟩ (by dsimp only;exact⟨⟨by omega,by first|exact inferInstance|assumption,fun e=>by omega,fun _=>by rw[<-q0 J];exact(zH hg85 (.inl (by simpa using hg88))).symm,fun e=>by omega⟩,(by omega)⟩)
      .
       refine cl J (gp (p:=kC) (q:=bst) (i:=(2*i+6*j+9000)) (j:=(2*i+6*j+9000)) (by omega) (by omega)) J<|?_;refine br J J J (fun hc94=>?_) (fun hc94=>?_)
       .
        refine oB 12 _ J J ?_;exact at_ ⟨0+1,kC,true⟩ (by dsimp only;exact⟨⟨by omega,by first|exact inferInstance|assumption,fun e=>by omega,fun _=>by rw[<-q0 J];exact(zH hg85 (.inr hc94)).symm,fun e=>by omega⟩,(by omega)⟩)
       .
        exact at_ ⟨0+1,bst,fnd⟩ (by dsimp only;exact⟨⟨by omega,by first|exact inferInstance|assumption,fun e=>by omega,fun _=>by rw[<-q0 J];exact(zR (.inr ⟨by simpa using hg88,hc94⟩)).symm,fun e=>by omega⟩,(by omega)⟩)
     .
      exact at_ ⟨0+1,bst,fnd⟩ (by dsimp only;exact⟨⟨by omega,by first|exact inferInstance|assumption,fun e=>by omega,fun _=>by rw[<-q0 J];exact(zR (.inl hg85)).symm,fun e=>by omega⟩,(by omega)⟩)
    .
     refine gx J<|ix (fu:=⟨0⟩) _ J J J<|Ds (fu:=⟨6⟩) J J J J J J<|mw (ds1:=[bG f]) (ds2:=[]) J (.cons (o8 hf.sm) (b9.2 J)) (b9.2 J) (tK hf) J<|?_;refine cl J (tR (p:=f.l.at f.v.hi) (q:=p) (i:=3000) (j:=i) (by decide) (by omega)) J<|cl J (kr (p:=⟨(f.l.at f.v.hi).x-p.x,(f.l.at f.v.hi).y-p.y⟩) (q:=d) (i:=3000+i+1) (j:=j) (hp:=nY _ _) (by omega) (by omega)) J<|?_;refine cl J (kr (p:=d) (q:=d) (i:=j) (j:=j) (by omega) (by omega)) J<|cl (fu:=⟨0⟩) J (pg (p:=(⟨(f.l.at f.v.hi).x-p.x,(f.l.at f.v.hi).y-p.y⟩:aa).dot d) (q:=d.dot d) (i:=3000+i+1+j+(3000+i+1+j)+1) (j:=j+j+(j+j)+1) (h:=wF (nY _ _)) (by omega) (by omega)) J<|?_;refine aF 78 (.d (eF shi)) J (by rw[hshi];rfl) ?_;refine gx (fu:=⟨8⟩) J<|?_;refine i6 80 J ?_;refine gx J<|cl J (ik (q:=shi) (i:=(2*i+6*j+9000)) (by omega)) J<|?_;refine cs 85 J J J (fun hg85=>?_) (fun hg85=>?_)
     .
      refine gu 88 J J J (fun hg88=>?_) (fun hg88=>?_)
      .
       refine oB 12 _ J J ?_;exact at_ ⟨1+1,shi,true⟩ (by dsimp only;exact⟨⟨by omega,by first|exact inferInstance|assumption,fun e=>by omega,fun e=>by omega,fun _=>by rw[<-zP,<-q1 J];exact(zH hg85 (.inl (by simpa using hg88))).symm⟩,(by omega)⟩)
      .
       refine cl J (gp (p:=shi) (q:=bst) (i:=(2*i+6*j+9000)) (j:=(2*i+6*j+9000)) (by omega) (by omega)) J<|?_;refine br J J J (fun hc94=>?_) (fun hc94=>?_)
       .
        refine oB 12 _ J J ?_;exact at_ ⟨1+1,shi,true⟩ (by dsimp only;exact⟨⟨by omega,by first|exact inferInstance|assumption,fun e=>by omega,fun e=>by omega,fun _=>by rw[<-zP,<-q1 J];exact(zH hg85 (.inr hc94)).symm⟩,(by omega)⟩)
       .
        exact at_ ⟨1+1,bst,fnd⟩ (by dsimp only;exact⟨⟨by omega,by first|exact inferInstance|assumption,fun e=>by omega,fun e=>by omega,fun _=>by rw[<-zP,<-q1 J];exact(zR (.inr ⟨by simpa using hg88,hc94⟩)).symm⟩,(by omega)⟩)
     .
      exact at_ ⟨1+1,bst,fnd⟩ (by dsimp only;exact⟨⟨by omega,by first|exact inferInstance|assumption,fun e=>by omega,fun e=>by omega,fun _=>by rw[<-zP,<-q1 J];exact(zR (.inl hg85)).symm⟩,(by omega)⟩)
   .
    obtain rfl:t=2:=by omega
    exact rz J (by rw[wC hkz hcz,<-hslo,<-hshi,<-q2 J];rfl)
theorem zU{E:List aI}(hE: ∀f∈E,FE f)(p:aa): ∀d∈il E p,av d 500:=fun d hd=>by
 obtain⟨f,h3,h4⟩:=lV.1 ((La (Aw (fun f hf=>(hE f hf).fo.ok) p) d).1 hd);exact yM (hE f h3) d h4
def zW(E:List aI)(p:aa):(il E p).length<=2*E.length:=by
 have h1:=zT p E;have h2:=zb bP (E.flatMap (ew p)) [];show((E.flatMap (ew p)).foldl (fun out x=>ek bP x out) []).length<=_;simp only[gM] at h2;omega
theorem xH{f:aI}(hf:FE f){p d:aa}{i j:Nat}[hp:av p i][hd:av d j]:BQ (f4 f p d).1 (2*i+6*j+9000):=by
 haveI:=hf.fo.lb;haveI:av (f.l.at f.v.hi) 3000:=oV hf.fo.lb hf.fo.hi;haveI:av (f.l.at f.v.lo) 3000:=oV hf.fo.lb hf.fo.lo;unfold f4;split
 ·split
  ·unfold oI
   split
   ·exact zQ (by omega)
   ·split
    ·exact zQ (by omega)
    ·exact zY (by omega)
  ·exact zY (by omega)
 ·exact BQ.mono (inferInstance:BQ (-(f.l.value p/f.l.nor.dot d)) _) (by omega)
theorem yO{f:aI}(hf:FE f){p d:aa}{i j:Nat}[hp:av p i][hd:av d j]{s:Rat}(hs:BQ s (2*i+6*j+9000)):BQ (iu p d s f) (2*i+6*j+9000):=by
 unfold iu;split
 ·exact hs
 ·split
  ·split
   ·exact xH hf
   ·exact hs
  ·exact hs
def zJ{E:List aI}{p d:aa}{k:Nat}{f:aI}(h:E[k]? =some f)(s:Rat):(E.take (k+1)).foldl (iu p d) s=iu p d ((E.take k).foldl (iu p d) s) f:=by
 rw[cR,h,List.foldl_append];rfl
def yB{L:List aa}{g:aa->aa}{k:Nat}{l:aa}(h:L[k]? =some l):(((L.take k).map g).map eZ)++[eZ (g l)]=((L.take (k+1)).map g).map eZ:=by
 rw[cR,h];simp
theorem xE{m:Nat}(hm:3<=m):BQ (1:Rat) m:=BQ.mono (k:=3) ⟨by decide,by decide⟩ hm
theorem xR{E:List aI}(hE: ∀f∈E,FE f){p d:aa}{i j:Nat}[hp:av p i][hd:av d j]:av (jh E p d) (3*i+7*j+9010):=by
 have key: ∀(E:List aI),(∀f∈E,FE f)-> ∀s,BQ s (2*i+6*j+9000)->BQ (E.foldl (iu p d) s) (2*i+6*j+9000):=by
  intro E
  induction E with
  |nil=>intro _ s h;exact h
  |cons f E ih=>intro hE s h;exact ih (fun g hg=>hE g (aK _ hg)) _ (yO (hE f aQ) h)
 haveI:=key E hE 1 (xE (by omega));unfold jh;rw[<-zO];exact av.mono (inferInstance:av (p.add (d.scale (E.foldl (iu p d) 1*mkRat 1 2))) _) (by omega)
def wA{E:List aI}(hE: ∀f∈E,FE f)(hn:E.length<=100000){p:aa}{i:Nat}[hp:av p i](hi:i<=20000:=by decide):PF GB prog 90 [.sl (E.map bG),eZ p] (.sl (((fj (il E p)).map (jh E p)).map eZ)):=by
 have hml:(E.map bG).length=E.length:=aZ ..;have hrl:=zW E p;obtain⟨W,hW⟩: ∃W,W=fj (il E p):=⟨_,rfl⟩;have hWl:W.length<=(il E p).length+1:=by rw[hW];exact yL _
 have hWb: ∀d∈W,av d 1001:=fun d hd=>by rw[hW] at hd;exact xA (zU hE p) (by decide) d hd
 have hwm:(W.map eZ).length=W.length:=aZ ..;rw[<-hW];refine fn func90 J J ntmps90 J J (fun C=>?_);refine cl J (xZ hE hn (p:=p) (i:=i) (by omega)) J<|cl (fu:=⟨0⟩) J (E6 (ds:=il E p) (i:=500) (zU hE p) (by omega)) J<|?_;refine aF 16 (.d (.sl (W.map eZ))) J (by rw[hW]) ?_;refine gx (fu:=⟨1⟩) J<|?_;refine aF 17 (.d (vI (W.length:Nat))) J (by rw[hwm]<;>rfl) ?_;refine gx J<|?_;refine nr 5 5 103 6 J J J ?_;refine lp (X:=Nat) (fun k=>[(18, .d (vI (k:Nat))),(5, .rw 5)]) (fun k=>[(5,some (.b 103 6 (((W.take k).map (jh E p)).map eZ) true))]) (fun k=>k<=W.length) (fun k=>W.length-k) 0 J (bS _) (fun _=>J) (fun k hk=>?_);have hm3:(((W.take k).map (jh E p)).map eZ).length<=k:=by rw[aZ,aZ,bR];omega
 refine br J J J (fun hc19=>?_) (fun hc19=>?_)
 .
  obtain⟨d,hx⟩: ∃u,W[k]? =some u:=⟨_,aX (by omega)⟩;haveI:=hWb d (aN hx);have hko:=hk;refine ix _ J (d7 hx) J<|cl (fu:=⟨0⟩) J (qy (m:=1) (by decide)) J<|?_;refine aF 22 (.d (eF 1)) J J ?_;refine gx (fu:=⟨9⟩) J<|?_;refine aF 24 (.d (vI (E.length:Nat))) J (by rw[hml]<;>rfl) ?_;refine gx J<|?_;refine lp (X:=Nat×Rat) (fun⟨t,s⟩=>[(25, .d (vI (t:Nat))),(8, .ov 8 0)]) (fun⟨t,s⟩=>[(8,some (.o 101 [.d (vI (cD s)), .d (vI (cE s)), .d (cB s)] true))]) (fun⟨t,s⟩=>t<=E.length/\s=(E.take t).foldl (iu p d) 1/\BQ s (2*i+6*1001+9000)) (fun⟨t,s⟩=>E.length-t) ⟨0,1⟩ J ⟨bS _,J,xE (by omega)⟩ (fun _=>J) (fun⟨t,s⟩ hk=>?_)
  try dsimp only at hk⊢
  obtain⟨g1,g2,g3⟩:=hk;haveI:=g3;refine br J J J (fun hc26=>?_) (fun hc26=>?_)
  .
   obtain⟨f,hx2⟩: ∃u,E[t]? =some u:=⟨_,aX (by omega)⟩;have hf:=hE f (aN hx2);haveI:=xH hf (p:=p) (d:=d) (i:=i) (j:=1001);refine ix _ J (d7 hx2) J<|cl J (wW hf (p:=p) (i:=i) (by omega)) J<|?_;refine bb J J J (fun hc31=>?_) (fun hc31=>?_)
   .
    exact at_ ⟨t+1,s⟩ (by dsimp only;exact⟨⟨by omega,by rw[zJ hx2,<-g2];unfold iu;rw[if_pos hc31],g3⟩,(by omega)⟩)
   .
    refine cl J (wH hf (p:=p) (d:=d) (i:=i) (j:=1001) (by omega) (by decide)) J<|?_;refine bb J J J (fun hc39=>?_) (fun hc39=>?_)
    .
     refine cl J (E4 (p:=s) (q:=(f4 f p d).1) (i:=(2*i+6*1001+9000)) (j:=(2*i+6*1001+9000)) (by omega) (by omega)) J<|?_;exact at_ ⟨t+1,if(f4 f p d).1<s then(f4 f p d).1 else s⟩ (by dsimp only;exact⟨⟨by omega,by rw[zJ hx2,<-g2];unfold iu;simp[show gi f p=false by simpa using hc31,hc39],by have h9:=yO hf (p:=p) (d:=d) (i:=i) (j:=1001) g3;unfold iu at h9;simpa[show gi f p=false by simpa using hc31,hc39] using h9⟩,(by omega)⟩)
    .
     exact at_ ⟨t+1,s⟩ (by dsimp only;exact⟨⟨by omega,by rw[zJ hx2,<-g2];unfold iu;simp[show(f4 f p d).2=false by simpa using hc39],g3⟩,(by omega)⟩)
  .
   obtain rfl:t=E.length:=by omega
   rw[dX] at g2;refine cl J (FZ (q:=s) (i:=(2*i+6*1001+9000)) (by omega)) J<|cl J (qf (p:=d) (c:=s*mkRat 1 2) (i:=1001) (j:=(2*i+6*1001+9000)+2) (by decide) (by omega)) J<|?_;refine cl (fu:=⟨0⟩) J (sJ (p:=p) (q:=d.scale (s*mkRat 1 2)) (i:=i) (j:=1001+((2*i+6*1001+9000)+2)) (by omega) (by omega)) J<|?_;refine aF 50 (.d (eZ (jh E p d))) J (by rw[zO,g2];rfl) ?_;refine gx J<|rf J J<|ap (hv:=by simp only[ah];exact⟨by kernel_rfl,by omega⟩) (((W.take (k+1)).map (jh E p)).map eZ) J (yB hx) (mP [jh E p d]) J<|?_;refine jq 52 5 J ?_;exact at_ (k+1) ⟨(by omega),(by omega)⟩
 .
  obtain rfl:k=W.length:=by omega
  rw[dX];refine me 5 J ?_;exact rz J J
def yH{W:List aa}{g:aa->Bool}{k:Nat}{d:aa}(h:W[k]? =some d):(W.take (k+1)).any g=((W.take k).any g||g d):=by
 rw[cR,h,List.any_append];simp
def yI{W:List aa}{g:aa->Bool}{k:Nat}{d:aa}(h:W[k]? =some d):(W.take (k+1)).all g=((W.take k).all g&&g d):=by
 rw[cR,h,List.all_append];simp
def yE{E:List aI}(hE: ∀f∈E,FE f)(hn:E.length<=100000){p:aa}{i:Nat}[hp:av p i](hi:i<=20000){f:FuncId}{c2:List Value}{ds2:List DV}(hc:IsLs GB ds2 c2){acc:aa->Bool}(hF: ∀q,av q 80000->PF GB prog f (eZ q::ds2) (vB (acc q))):PF GB prog 45 [.sl (E.map bG),eZ p, .v (.func (.func f) ⟨[]⟩ ⟨c2⟩)] (vI (qj E p acc)):=by
 obtain⟨W,hW⟩: ∃W,W=(fj (il E p)).map (jh E p):=⟨_,rfl⟩;have hwm:(W.map eZ).length=W.length:=aZ ..;have hrl:=zW E p;have hsl:=yL (il E p);have hWl:W.length=(fj (il E p)).length:=by rw[hW,aZ]
 have hWb: ∀q∈W,av q 80000:=fun q hq=>by
  rw[hW] at hq;obtain⟨d,hd,rfl⟩:=cX.1 hq;haveI:=xA (zU hE p) (by decide) d hd;exact(xR hE (p:=p) (d:=d) (i:=i) (j:=1001)).mono (by omega)
 have hcl:qj E p acc=if(W.any acc&&W.all acc) then 2 else if W.any acc then 1 else 0:=by
  unfold qj;rw[hW,List.any_map,List.all_map];rfl
 refine fn func45 J J ntmps45 J J (fun C=>?_);refine cl (fu:=⟨0⟩) J (wA hE hn (p:=p) (i:=i) hi) J<|?_;refine aF 13 (.d (.sl (W.map eZ))) J (by rw[hW]) ?_;refine gx (fu:=⟨1⟩) J<|?_;refine aF 14 (.d (vI (W.length:Nat))) J (by rw[hwm]<;>rfl) ?_;refine gx J<|?_;refine u4 7 _ J J ?_;refine u4 8 _ J J ?_;refine lp (X:=Nat) (fun k=>[(15, .d (vI (k:Nat))),(7, .d (vB ((W.take k).any acc))),(8, .d (vB ((W.take k).all acc)))]) (fun k=>[]) (fun k=>k<=W.length) (fun k=>W.length-k) 0 J (bS _) (fun _=>J) (fun k hk=>?_);refine br J J J (fun hc16=>?_) (fun hc16=>?_)
 .
  obtain⟨q,hx⟩: ∃u,W[k]? =some u:=⟨_,aX (by omega)⟩;haveI:=hWb q (aN hx);refine ix (fu:=⟨9⟩) _ J (d7 hx) J<|mw (ds1:=[]) (ds2:=ds2) J (b9.2 J) hc (hF q (hWb q (aN hx))) J<|?_;refine bb J J J (fun hc21=>?_) (fun hc21=>?_)
  .
   refine oB 7 _ J J ?_;refine aF 7 (.d (vB ((W.take (k+1)).any acc))) J (by rw[yH hx,hc21,Bool.or_true]<;>rfl) ?_;refine aF 8 (.d (vB ((W.take (k+1)).all acc))) J (by rw[yI hx,hc21,Bool.and_true]<;>rfl) ?_;exact at_ (k+1) ⟨(by omega),(by omega)⟩
  .
   refine oB 8 _ J J ?_;refine aF 7 (.d (vB ((W.take (k+1)).any acc))) J (by rw[yH hx,hc21,Bool.or_false]<;>rfl) ?_;refine aF 8 (.d (vB ((W.take (k+1)).all acc))) J (by rw[yI hx,hc21,Bool.and_false]<;>rfl) ?_;exact at_ (k+1) ⟨(by omega),(by omega)⟩
 .
  obtain rfl:k=W.length:=by omega
  rw[dX];refine cl J (yW (b:=W.any acc) (c:=W.all acc)) J<|?_;exact rz J (by rw[hcl];rfl)
def wI{C:au}{n:Nat}{Q0:Exit->Act->World->Prop}{fr:ak}{own:aw}{ops:Array Oper}{r:List Oper}{K:List Kt}(k:Nat){d:DV}{pv:Value}(hl:aA fr k=some (.d (.v pv)))(hp:Is GB d pv)(h:aj prog GB C n Q0 ((k, .d d)::fr) own (.ops ops r K)):aj prog GB C n Q0 fr own (.ops ops r K):=by
 refine⟨fun ρ G ov a w r0=>?_⟩;obtain⟨y,hy,hy'⟩:=r0.fx k _ hl;obtain rfl:=(bh (G:=G)).1 hy';refine h.run ρ G ov a w ⟨r0.gb,r0.h,r0.sz,r0.df,fun j f e=>?_,r0.bx,r0.dj,r0.fxd⟩;rw[fw] at e;split at e
 ·rename_i hj
  cases e;subst hj
  exact⟨y,hy,hp.up r0.gb⟩
 ·exact r0.fx j f e
def xW{E:List aI}(hE: ∀f∈E,FE f)(hn:E.length<=100000){fill:Int}{q:aa}{i:Nat}[hq:av q i](hi:i<=80000):PF GB prog 43 [eZ q, .pt [vI fill], .pt [.sl (E.map bG)]] (vB (eO fill (ey E q))):=by
 refine fn (fu:=⟨3⟩) func43 J J ntmps43 J J (fun C=>?_);refine oQ 1 J<|oQ 2 J<|gx J<|cl J (Cz hE (by omega) (p:=q) (i:=i) (by omega)) J<|cl J (sf (fill:=fill) (n:=ey E q)) J<|?_;exact rz J J
def xC{rs:List (List ZP)}(h: ∀r∈rs,oT r)(hn:rs.length<=200){fill:Int}(hfill:fill=1\/fill=2){p:aa}{i:Nat}[hp:av p i](hi:i<=20000):PF GB prog 17 [.sl (rs.map lH),vI fill,gn p] (.tp [vI (qj (dl rs) p fun q=>eO fill (ey (dl rs) q)), .v .nilIface]):=by
 have hel:=En h hn;have hfe:=DJ fun r hr=>(h r hr).ok;refine fn func17 J J ntmps17 J J (fun C=>?_);refine cl (fu:=⟨13⟩) J (DU h hn) J<|jm J J J<|?_;refine cs (fu2:=⟨12⟩) 23 J J J (fun hg23=>?_) (fun hg23=>?_)
 .
  refine br (fu2:=⟨5⟩) J J J (fun hc20=>?_) (fun hc20=>?_)
  .
   exact absurd hfill (by omega)
  .
   refine fz 4 J J<|fz 8 J J ?_;refine nT 4 J (fun GB1 pv1 hg1 hp1=>?_);refine nT 8 J (fun GB2 pv2 hg2 hp2=>?_);refine Ek (fu:=⟨0⟩) J J ?_;refine wI 8 J hp2<|oQ 8 J<|gx J ?_;refine cl J (sM (p:=p) (i:=i) (by omega)) J ?_;refine cl J (yE hfe (by omega) (p:=p) (i:=i) (by omega) (f:=43) (c2:=[pv1,pv2]) (ds2:=[.pt [vI fill], .pt [.sl ((dl rs).map bG)]]) (.cons (hp1.up hg2) (.cons hp2 (b9.2 J))) (acc:=fun q=>eO fill (ey (dl rs) q)) (fun q hq=>xW hfe (by omega) (by decide))) J ?_;exact rz J J
 .
  refine fz 4 J J<|fz 8 J J ?_;refine nT 4 J (fun GB1 pv1 hg1 hp1=>?_);refine nT 8 J (fun GB2 pv2 hg2 hp2=>?_);refine Ek (fu:=⟨0⟩) J J ?_;refine wI 8 J hp2<|oQ 8 J<|gx J ?_;refine cl J (sM (p:=p) (i:=i) (by omega)) J ?_;refine cl J (yE hfe (by omega) (p:=p) (i:=i) (by omega) (f:=43) (c2:=[pv1,pv2]) (ds2:=[.pt [vI fill], .pt [.sl ((dl rs).map bG)]]) (.cons (hp1.up hg2) (.cons hp2 (b9.2 J))) (acc:=fun q=>eO fill (ey (dl rs) q)) (fun q hq=>xW hfe (by omega) (by decide))) J ?_;exact rz J J
def yD:List ZP:=mz 0 0 2 2
def yK: ∀r∈[yD],oT r:=fun r hr=>by
 rw[aL.1 hr];exact⟨Kw (by decide) (by decide) (by decide) (by decide) (by decide) (by decide),by decide+kernel⟩
def xO:A6 [yD] (iP 1 1)=false:=by decide+kernel
def xN:ey (dl [yD]) (iP 1 1)=1:=by decide+kernel
def xP:qj (dl [yD]) (iP 1 0) (fun q=>eO 2 (ey (dl [yD]) q))=1:=by decide+kernel
theorem xQ: ∀p∈[iP 0 0,iP 2 0,iP 2 2,iP 0 2],av p 1200:=fun p hp=>by
 simp only[bQ,jS,or_false] at hp;rcases hp with rfl|rfl|rfl|rfl<;>exact⟨BQ.int1200 (by decide),BQ.int1200 (by decide)⟩
def yT:PF GB prog 7 [] (.v (.bool true)):=by
 haveI:av (iP 1 1) 22:=⟨d9 (by decide),d9 (by decide)⟩;haveI:av (iP 1 0) 22:=⟨d9 (by decide),d9 (by decide)⟩;refine fn func7 J J ntmps7 J J (fun C=>?_);refine cl J (se (m:=0) (n:=0) (by decide) (by decide)) J<|cl J (se (m:=2) (n:=0) (by decide) (by decide)) J<|cl J (se (m:=2) (n:=2) (by decide) (by decide)) J<|?_;refine cl J (se (m:=0) (n:=2) (by decide) (by decide)) J<|rf (fu:=⟨0⟩) J J<|?_;refine aF 10 (.d (.sl ([iP 0 0,iP 2 0,iP 2 2,iP 0 2].map eP))) J J ?_;refine gx J<|cl J (Fo (ps:=[iP 0 0,iP 2 0,iP 2 2,iP 0 2]) xQ (by decide)) J<|rf (fu:=⟨0⟩) J J<|?_;refine aF 12 (.d (.sl ([yD].map lH))) J J ?_;refine gx J<|cl J (yt (m:=1) (n:=1) (by decide) (by decide)) J<|cl (fu:=⟨0⟩) J (H7 (rs:=[yD]) yK (by decide) (p:=iP 1 1) (i:=22) xO (by decide)) J<|?_;refine aF 16 (.d (.tp [vI 1, .v .nilIface])) J (by rw[xN]) ?_;refine gx J<|cl J (yt (m:=1) (n:=0) (by decide) (by decide)) J<|cl (fu:=⟨0⟩) J (xC (rs:=[yD]) yK (by decide) (fill:=2) (.inr J) (p:=iP 1 0) (i:=22) (by decide)) J<|?_;refine aF 22 (.d (.tp [vI 1, .v .nilIface])) J (by rw[xP]) ?_;refine gx (fu:=⟨10⟩) J<|lr (fu:=⟨2⟩) J J J<|lr (fu:=⟨3⟩) J J J<|lr (fu:=⟨3⟩) J J J<|lr J J J<|?_;exact rz J J
def xY{fill n:Int}:PF GB prog 9 [vI fill,vI n] (vB (eO fill n)):=by
 refine fn func9 J J ntmps9 J J (fun C=>?_);refine cs 7 J J J (fun hg7=>?_) (fun hg7=>?_)
 .
  refine cs 12 J J J (fun hg12=>?_) (fun hg12=>?_)
  .
   exact rz J (by show vB _=vB _;unfold eO;congr 1;simp_all)
  .
   refine cs 15 J J J (fun hg15=>?_) (fun hg15=>?_)
   .
    exact rz J (by show vB _=vB _;unfold eO;congr 1;simp_all)
   .
    exact rz J (by show vB _=vB _;unfold eO;congr 1;simp_all)
 .
  refine cs 15 J J J (fun hg15=>?_) (fun hg15=>?_)
  .
   exact rz J (by show vB _=vB _;unfold eO;congr 1;simp_all)
  .
   exact rz J (by show vB _=vB _;unfold eO;congr 1;simp_all)
def xV(n:Int):eO 1 n=decide (n.tmod 2≠0):=by unfold eO;simp
def xU(n:Int):eO 2 n=decide (n≠0):=by unfold eO;simp
def zI{fill n:Int}:PF GB prog 3 [vI fill,vI n] (.v (.bool true)):=by
 refine fn func3 J J ntmps3 J J (fun C=>?_);refine cl (fu:=⟨0⟩) J yT J<|?_;refine i6 5 J ?_;refine gx J<|cl J (sf (fill:=fill) (n:=n)) J<|cl J (xY (fill:=fill) (n:=n)) J<|?_;refine gu 15 J J J (fun hg15=>?_) (fun hg15=>?_)
 .
  refine cl (fu:=⟨0⟩) J (sf (fill:=1) (n:=n)) J<|?_;refine aF 17 (.d (vB (decide (n.tmod 2≠0)))) J (by rw[xV]) ?_;refine gx J<|?_;refine gu 23 J J J (fun hg23=>?_) (fun hg23=>?_)
  .
   refine cl (fu:=⟨0⟩) J (sf (fill:=2) (n:=n)) J<|?_;refine aF 25 (.d (vB (decide (n≠0)))) J (by rw[xU]) ?_;refine gx J<|?_;exact rz J (by show DV.v (.bool (_==_))= .v (.bool true);rw[beq_self_eq_true])
  .
   exact rz J (absurd hg23 (by simp))
 .
  exact rz J (absurd hg15 (by simp))
end Go.Sx
end
section
namespace Go.Sx
open Go Go.Proofs Go.ChangeShapes Go.WideShapes Go.ChangeAt Go.RowKit
def GW(w:World):Gh:=fun b=>match w.heap[b]? with|some (.cells cs _ _)=>some cs.toList|_=>none
def GW.sub{w:World}{b:Nat}{cs:List Value}(h:GW w b=some cs): ∃ty fz,w.heap[b]? =some (.cells ⟨cs⟩ ty fz):=by
 unfold GW at h;split at h
 ·rename_i c t f e
  cases h
  exact⟨t,f,by rw[e]⟩
 ·cases h
def bc.below{w w':World}{G G':Gh}{own:List ao}(h:bc ⟨w,G,[],[],[],none,fun _=>none⟩ own G' w'):Below w.heap.size w w':=
 ⟨h.os,h.tape,h.output,h.size,fun k hk=>h.keep k hk (by simp)⟩
inductive CSh where
 |b
 |i (k:IntKind)
 |sl (ag:Bool) (l:List CSh)
mutual
def Fit:CSh->DV->Prop
 | .b,d=> ∃b,d= .v (.bool b)
 | .i k,d=> ∃n,d= .v (.int k n)/\(Lit.int k n).wf=true
 | .sl ag l,d=> ∃m:List DV,d= .sl m/\m.length<=maxLen/\ ∀x∈m,∃ys,FitL l ys/\((ag=true/\x= .ag ys)\/(ag=false/\ys=[x]))
def FitL:List CSh->List DV->Prop
 |[],ds=>ds=[]
 |s::l,ds=> ∃d t,ds=d::t/\Fit s d/\FitL l t
end
def flatF(r:TypeId->Option (Bool×List CSh))(P:Program):List Field->Nat->Option (List CSh)
 |[],_=>some []
 |f::fs,o=>match r f.type with
  |some (_,l)=>if f.offset=o/\P.cellsOf f.type=l.length then(flatF r P fs (o+l.length)).map (l++ ·) else none
  |none=>none
def flatT(P:Program):Nat->TypeId->Option (Bool×List CSh)
 |0,_=>none
 |n+1,t=>match P.underlying t with
  |some .bool=>some (false,[.b])
  |some (.int k)=>some (false,[.i k])
  |some (.slice e)=>match flatT P n e with
   |some (a,l)=>if P.cellsOf e=l.length/\0<l.length then some (false,[.sl a l]) else none
   |none=>none
  |some (.struct fs)=>match flatF (flatT P n) P fs.toList 0 with
   |some l=>if P.cellsOf t=l.length then some (true,l) else none
   |none=>none
  |_=>none
section
variable {H:Type} {enc:TypeId×Value->H} {P:Program} {w:World}
end
def shI:List CSh:=[.b, .sl false [.i .u32]]
def shL:List CSh:=shI++(shI++shI)
end Go.Sx
end
section
namespace Go.Proofs.YtpiknjeceobbfaaGreatDoor.windingAccepts
open Go.ChangeShapes Go.WideShapes Go.ChangeAt Go.RowKit Go.Sx
theorem own:ownKnob Tryz.prog.godebug=none:=by kernel_rfl
theorem laidOut:laidOutB Tryz.prog=true:=by kernel_rfl
theorem door_met(os:Os)(args:Array Value):laidMetH Tryz.prog Rows.windingAcceptsRow.laid ((World.doorLaid Tryz.prog 100 os).forCall (fun _ _=>0) ⟨#[],args,[]⟩).memory:=
 laidMetH_of_parts3 (fuel:=8) (laidMet_of_run' 8 (by kernel_rfl) (by kernel_rfl)) (by kernel_rfl) (by kernel_rfl)
theorem wf_i64{n:Int}(h:(Lit.int .i64 n).wf=true): -9223372036854775808<=n/\n<9223372036854775808:=by
 simp only[Lit.wf,Bool.and_eq_true,decide_eq_true_eq] at h;have e1:IntKind.i64.min= -9223372036854775808:=J;have e2:IntKind.i64.max=9223372036854775807:=J;omega
theorem contract(H:Type)(enc:TypeId×Value->H)(W:World)(base:Nat)(args:Array Value)(ds gs:List (DataW H))(before:List MemPlace)
  (hval: ∀(j:Nat) t v,Tryz.f3.params[j]? =some t->args[j]? =some v->Value.okWide Tryz.prog W .any base t v)
  (hW:DataW.Whole enc Tryz.prog Tryz.f3.params.toList Rows.windingAcceptsSpec.vars false W args.toList ds gs before)
  (hz:(DataW.weightsEach Tryz.prog (Tryz.f3.params.toList++(OpenSpec.ofChange Rows.windingAcceptsSpec).bare.plain.varTypes Tryz.prog) (ds++gs)).all (· <=reachBytes)=true)(hlaid:laidMetH Tryz.prog Rows.windingAcceptsRow.laid W):
  Calls Tryz.prog 3 args W fun e W'=> ∃v,e= .returned v/\Rows.windingAcceptsSpec.post enc Tryz.prog Tryz.f3 false true false false W args v W':=by
 have hW':=hW;obtain⟨p,q,hA0,hV,rfl,_,_⟩:=hW;have hA:DataW.TrodAll enc Tryz.prog W 0 (fun _=>true) true Tryz.f3.params.toList args.toList ds p:=hA0;rw[Tryz.params3] at hA hval hz;obtain⟨v0,v1,d0,d1,p0,p1,hargs,rfl,rfl,h0,h1⟩:=trodAll_two hA;subst hargs;obtain⟨rfl,rfl⟩:=trodVars_none hV;obtain⟨n0,rfl,rfl,rfl,w0⟩:=open_int Tryz.underlying3 (hval 0 3 v0 rfl rfl) h0;obtain⟨n1,rfl,rfl,rfl,w1⟩:=open_int Tryz.underlying3 (hval 1 3 v1 rfl rfl) h1;clear hA0;simp only[List.append_nil] at hW';have hf:=(zI (fill:=n0) (n:=n1)) (GW W) [.int .i64 n0, .int .i64 n1] (aO.refl _) ((.cons (bh.2 J) (.cons (bh.2 J) .nil)));refine(hf.run W (fun b cs hg=>GW.sub hg)).mono fun e W' ⟨v,G',he,hr,hv⟩=>?_;rw[bh] at hv;subst hv;subst he;have hn:=hr.below;exact⟨_,J,⟨_,_,_,[],_,[],hW',trodAll_mk1 (shut_bool Tryz.underlying4 _),trodAll_mk2 (shut_int Tryz.underlying3 w0) (shut_int Tryz.underlying3 w1),J,hn.frame _,fun h=>by cases h⟩⟩
theorem reads(os:Os){H:Type}(enc:TypeId×Value->H): ∃places,DataW.whole enc Tryz.prog ((World.doorLaid Tryz.prog 100 os).forCall (fun _ _=>0) ⟨#[], #[.int .i64 0, .int .i64 0],[]⟩).memory Tryz.f3.params.toList Rows.windingAcceptsSpec.vars false #[Value.int .i64 0, .int .i64 0].toList 8=some ([.lit (.int .i64 0), .lit (.int .i64 0)],[],places):=
 ⟨[],by kernel_rfl⟩
theorem lifted(os:Os)(started:os.Started)(H:Type)(enc:TypeId×Value->H)(F:Stop.Interp):
  ReturnsInHanded {} Tryz.checked os 3 .any ((OpenSpec.ofChange Rows.windingAcceptsSpec).preRow enc Tryz.prog Tryz.f3 Rows.windingAcceptsRow.domain false Rows.windingAcceptsRow.laid) (((OpenSpec.ofChange Rows.windingAcceptsSpec).at F).post enc Tryz.prog Tryz.f3 false true false false):=by
 obtain⟨places,hx⟩:=reads os enc;refine returnsInHanded_of_row (C:=Tryz.checked) (s:=OpenSpec.ofChange Rows.windingAcceptsSpec) own started (by kernel_rfl) Tryz.func3
  (witness_row_atRef (enc:=enc) (C:=Tryz.checked) false (World.doorLaid Tryz.prog 100 os) #[.int .i64 0, .int .i64 0] rfl (by kernel_rfl) (by kernel_rfl) (by kernel_rfl)
   (OpenSpec.preRow_of_cond 8 hx (by kernel_rfl) (fun k hk=>by cases hk) (by kernel_rfl) (door_met os _))) ?_
 intro W base args ds gs before hval hW _ _ hz hlaid _ _;exact contract H enc W base args ds gs before hval hW hz hlaid
theorem j1:(Rows.windingAcceptsRow.inPlace==Tryz.pinned.checked.prog.inPlace 3)=true:=by kernel_rfl
theorem j2:(Rows.windingAcceptsRow.unfollowed==Tryz.pinned.checked.prog.unfollowed 3)=true:=by kernel_rfl
theorem j3:(Rows.windingAcceptsRow.recurses==Tryz.pinned.checked.prog.recurses 3)=true:=by kernel_rfl
theorem j4:(Rows.windingAcceptsRow.named==Tryz.pinned.checked.prog.varsNamed 3)=true:=by kernel_rfl
theorem j5:laidOutB Tryz.pinned.checked.prog=true:=laidOut
theorem j6:mapsRowed Tryz.pinned.checked.prog=true:=by kernel_rfl
theorem j7:Tryz.pinned.checked.prog.mainIs=some (Rows.windingAcceptsCard.stood.harness.1,Rows.windingAcceptsCard.stood.harness.2.toList):=by kernel_rfl
theorem j8:false=Rows.windingAcceptsRow.goesBy Tryz.pinned.checked.prog:=by kernel_rfl
theorem closed:joinedFacts Tryz.pinned.checked.prog 3 Tryz.f3 (OpenSpec.ofChange Rows.windingAcceptsSpec).bare Rows.windingAcceptsRow=true:=by
 unfold joinedFacts;rw[j1,j2,j3,j4,j5,j6]
 kernel_rfl
theorem said:Rows.WindingAcceptsSaid:=
 OpenClaim.holds_of_cond 3 Tryz.f3 J J J J J J J ⟨J,J,J,J,J⟩ J J J J J (by kernel_rfl) Tryz.func3 closed
  (of_decide_eq_true (by kernel_rfl)) (by unfold Func.isWrapper;first|(rw[if_pos (by decide+kernel)];kernel_rfl)|(rw[if_neg (by decide+kernel)];exact⟨J,J⟩))
  (fun os started H enc _ F=>by rw[OpenClaim.pre_eq_preRow];exact lifted os started H enc F)
theorem plain(f:FuncId)(fn:Func)(hf:Tryz.pinned.checked.prog.funcNamed "bspregion/bspregionlaw10.WindingAccepts" =some f)(hfn:Tryz.pinned.checked.prog.funcs[f]? =some fn):
  true=Tryz.pinned.checked.prog.looks []/\ ∀(j:Nat) t,fn.params[j]? =some t->Tryz.pinned.checked.prog.wantsStandIn t=false:=by
 obtain rfl:f=3:=Option.some.inj ((show Tryz.prog.funcNamed "bspregion/bspregionlaw10.WindingAccepts" =some 3 by kernel_rfl).symm.trans hf) |>.symm;obtain rfl:fn=Tryz.f3:=(Option.some.inj (Tryz.func3.symm.trans hfn)).symm;refine⟨by kernel_rfl,fun j t ht=>?_⟩;rw[Tryz.params3] at ht;have hm:=Array.mem_of_getElem? ht;simp only[List.mem_toArray,List.mem_cons,List.not_mem_nil,or_false] at hm;rcases hm with rfl|rfl
 ·exact(show Tryz.prog.wantsStandIn 3=false by kernel_rfl)
 ·exact(show Tryz.prog.wantsStandIn 3=false by kernel_rfl)
theorem card:Rows.WindingAcceptsCardSaid:=
 Claim7.holds_tied_plain_at .later [] _ _ _ _ said (fun _ h=>by cases h) (by kernel_rfl) (fun _ h=>by cases h) windingAccepts_row_tie J ⟨J,J⟩ j7 J plain j8
#print axioms card
end Go.Proofs.YtpiknjeceobbfaaGreatDoor.windingAccepts
end
