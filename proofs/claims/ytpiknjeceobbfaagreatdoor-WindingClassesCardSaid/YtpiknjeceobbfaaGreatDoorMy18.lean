import Derived.Test.YtpiknjeceobbfaaGreatDoorMy17
import Derived.Shelf.SlSortCmp.NoneTotal
import Derived.Test.YtpiknjeceobbfaaGreatDoorProg
set_option linter.all false
set_option maxHeartbeats 2000000
set_option maxRecDepth 100000
section
namespace Go.Sx
open Go Go.Proofs Tryz
def P3{GB:Gh}{u v:aa}{i j:Nat}[hp:aq u i][hq:aq v j](hi:i<=10000000:=by decide)(hj:j<=10000000:=by decide):PF GB prog 233 [eZ u,eZ v] (vB (decide (ce u v=0))):=by
 refine fn func233 J J ntmps233 J J (fun C=>?_);refine cl J (Kr (u:=u) (v:=v) hi hj) J<|?_;exact rz J J
def kv(x:aa):List aa->List aa
 |[]=>[]
 |y::l=>if ce y x=0 then kv y l else y::kv y l
def tf:List aa->List aa
 |[]=>[]
 |x::l=>x::kv x l
def Dj{l:List aa}{k:Nat}{x y:aa}(h:l[k]? =some y):kv x (l.drop k)=if ce y x=0 then kv y (l.drop (k+1)) else y::kv y (l.drop (k+1)):=by
 obtain⟨h1,h2⟩:=aM.1 h;rw[bL h1,h2,kv]
def Q7{l:List aa}{k:Nat}{y:aa}(h:l[k]? =some y):l.take (k+1)=l.take k++[y]:=by
 rw[dW,h];rfl
def vZ:DV:= .ag [vI 0,vI 0, .v (.pointer none),vI 0,vI 0, .v (.pointer none)]
def Wf(l:List aa)(k:Nat)(y:aa):(l.map eZ).set k (eZ y)=(l.set k y).map eZ:=(qT ..).symm
def Tm{l:List aa}(h:l.length<2):tf l=l:=by
 cases l with
 |nil=>rfl
 |cons x l=>cases l with
  |nil=>rfl
  |cons y l=>simp at h;omega
def Xo{l:List aa}{x:aa}(h:l[0]? =some x):tf l=l.take 1++kv x (l.drop 1):=by
 cases l with
 |nil=>cases h
 |cons y l=>cases h;rfl
def P9{r l:List aa}{a b:Nat}(h:a<=b)(e:r.drop a=l.drop a):r[b]? =l[b]? :=by
 have:=congrArg (·[b-a]?) e;simpa[kN,show a+(b-a)=b by omega] using this
def Uo{r l:List aa}{a b:Nat}(h:a<=b)(e:r.drop a=l.drop a):r.drop b=l.drop b:=by
 have:=congrArg (List.drop (b-a)) e;simpa[sY,show a+(b-a)=b by omega] using this
def WT{r:List aa}{i:Nat}{u:aa}(h:i<r.length):(r.set i u).take (i+1)=r.take i++[u]:=by
 rw[dW,qR h,List.take_set_of_le (aN _)];rfl
def UM{r:List aa}{i:Nat}(h:i<r.length):(r.map eZ)[(i:Int).toNat]? =some (eZ r[i]):=by simp[h]
def SA{GB:Gh}{l:List aa}{i0:Nat}(hb: ∀d∈l,aq d i0)(hn:l.length<=10000000)(hi:i0<=10000000):PB GB prog 232 (kI [none,some (.v (.func (.func 233) #[] #[]))]) 6 103 (l.map eZ) (fun w=> .v (.slice w.a w.n w.c)) ((tf l).map eZ):=by
 have hml:(l.map eZ).length=l.length:=aK ..;refine F9 (fu:=⟨10⟩) func232 J J ntmps232 J J (fun C=>?_);refine aj 9 (.d (vI (l.length:Nat))) J (by rw[hml]<;>rfl) ?_;refine gx J<|?_;refine br J J J (fun hc10=>?_) (fun hc10=>?_)
 .
  exact xm J J J (by rw[Tm (by omega)])
 .
  obtain⟨x0,hx0⟩: ∃x,l[0]? =some x:=⟨_,aZ (by omega)⟩;refine lp (fu:=⟨6⟩) (X:=Nat×aa) (fun⟨k,x⟩=>[(5, .d (vI (k:Nat)))]) (fun⟨k,x⟩=>[]) (fun⟨k,x⟩=>1<=k/\k<=l.length/\l[k-1]? =some x/\tf l=l.take k++kv x (l.drop k)) (fun⟨k,x⟩=>l.length-k) ⟨1,x0⟩ J ⟨aN _,by omega,hx0,by rw[Xo hx0]⟩ (fun _=>J) (fun⟨k,x⟩ hk=>?_)
  try dsimp only at hk⊢
  obtain⟨h1,h2,h3,h4⟩:=hk;refine aj 14 (.d (vI (l.length:Nat))) J (by rw[hml]<;>rfl) ?_;refine gx J<|?_;refine br J J J (fun hc15=>?_) (fun hc15=>?_)
  .
   obtain⟨y,hy⟩: ∃y,l[k]? =some y:=⟨_,aZ (by omega)⟩;haveI:=hb y (aS hy);haveI:=hb x (aS h3);refine lb (fu:=⟨3⟩) _ J (ee hy) J<|?_;refine aj 25 (.d (vI ((k-1:Nat):Int))) J (by rw[Int.ofNat_sub h1]<;>rfl) ?_;refine gx J<|lb (fu:=⟨0⟩) _ J (ee h3) J<|cl J (P3 (u:=y) (v:=x) hi hi) J<|?_;refine bd (fu1:=⟨4⟩) J J J (fun hc28=>?_) (fun hc28=>?_)
   .
    have hc28':=hc28;refine Po k (l.length-k) J J (by omega) (by omega) J<|?_;refine lp (fu:=⟨5⟩) (X:=Nat×Nat×aa×List aa) (fun⟨i,m,z,r⟩=>[(5, .d (vI (i:Nat))),(7, .d (vI (m:Nat)))]) (fun⟨i,m,z,r⟩=>[(1000000,some (.b 103 6 (r.map eZ) false))]) (fun⟨i,m,z,r⟩=>1<=m/\k+m<=l.length/\i+1<=k+m/\r.length=l.length/\r.drop (k+m-1)=l.drop (k+m-1)/\l[k+m-1]? =some z/\tf l=r.take i++kv z (l.drop (k+m))) (fun⟨i,m,z,r⟩=>l.length-m) ⟨k,1,y,l⟩ J ⟨aN _,by omega,by omega,J,J,by rw[lQ];exact hy,by rw[h4,Dj hy,if_pos hc28']⟩ (fun _=>J) (fun⟨i,m,z,r⟩ hk=>?_)
    try dsimp only at hk⊢
    obtain⟨g1,g2,g3,g4,g5,g6,g7⟩:=hk;have hrl:(r.map eZ).length=r.length:=aK ..;refine So J J<|?_;refine br (fu1:=⟨9⟩) (fu2:=⟨9⟩) J J J (fun hc35=>?_) (fun hc35=>?_)
    .
     obtain⟨u,hu⟩: ∃u,l[k+m]? =some u:=⟨_,aZ (by omega)⟩;haveI:=hb u (aS hu);haveI:=hb z (aS g6);have g8:r[k+m]? =some u:=by rw[<-hu];exact P9 (by omega) g5
     have g10:r[k+m-1]? =some z:=by rw[<-g6];exact P9 (aN _) g5
     have g9:r.drop (k+m)=l.drop (k+m):=Uo (by omega) g5;refine Gg (k+m) J (by omega) (by omega) (by omega) J<|lb (fu:=⟨3⟩) _ J (ee g8) J<|Gg (k+m-1) J (by omega) (by omega) (by omega) J<|?_;refine lb (fu:=⟨0⟩) _ J (ee g10) J<|cl J (P3 (u:=u) (v:=z) hi hi) J<|?_;refine bb (fu1:=⟨6⟩) J J J (fun hc49=>?_) (fun hc49=>?_)
     .
      have hc49': ¬ce u z=0:=by simpa using hc49
      refine Gg (k+m) J (by omega) (by omega) (by omega) J<|lb _ J (ee g8) J<|sb _ ((r.set i u).map eZ) J (UM (by omega)) J (by rw[<-Wf]<;>rfl) J<|?_;exact at_ ⟨i+1,m+1,u,r.set i u⟩ (by dsimp only;exact⟨⟨by omega,by omega,by omega,by rw[aT];exact g4,by rw[show k+(m+1)-1=k+m by omega,pW (by omega)];exact g9,by rw[show k+(m+1)-1=k+m by omega];exact hu,by rw[g7,Dj hu,if_neg hc49',WT (by omega),gW];rfl⟩,(by omega)⟩)
     .
      have hc49':ce u z=0:=by simpa using hc49
      exact at_ ⟨i,m+1,u,r⟩ (by dsimp only;exact⟨⟨by omega,by omega,by omega,g4,by rw[show k+(m+1)-1=k+m by omega];exact g9,by rw[show k+(m+1)-1=k+m by omega];exact hu,by rw[g7,Dj hu,if_pos hc49'];rfl⟩,(by omega)⟩)
    .
     obtain hm:k+m=l.length:=by omega
     refine Po i (l.length-i) J J (by omega) (by omega) J<|WZ (fu:=⟨6⟩) _ J (by rw[hrl];omega) (by omega) J J<|Xi ((r.take i).map eZ) i J J (by rw[bQ,cJ,aW,hrl];omega) (by rw[gR (by rw[cJ,hrl];omega),List.take_take,Nat.min_self,lN]) J<|?_;exact xm J J J (by rw[g7,hm,iL,kv,mU])
   .
    have hc28':=hc28;exact at_ ⟨k+1,y⟩ (by dsimp only;exact⟨⟨by omega,by omega,hy,by rw[h4,Dj hy,if_neg hc28',Q7 hy,gW];rfl⟩,(by omega)⟩)
  .
   exact xm J J J (by rw[h4,show k=l.length by omega,iL,kv,mU,dX])
def WO{v:Value}(h:Go.Sx.flat v=true):v.oneCell'=true:=by cases v<;>first|rfl|cases h
def Nu{α:Type}{k:Nat}: ∀(l:List (List α)) (t:Nat),(∀x∈l,x.length=k)->t<l.length*k->l.flatten[t]? =(l[t/k]?).bind (·[t%k]?)
 |[],t,_,h=>by simp at h
 |x::l,t,h,ht=>by
  have hx:=h x aQ;have hk:0<k:=by
   rcases dS k with e|e
   ·subst e;simp at ht
   ·exact e
  rw[kW];by_cases q:t<k
  ·rw[dQ (by omega),iM q,dT q];rfl
  ·rw[fM (by omega),hx,Nu l (t-k) (fun y hy=>h y (aJ _ hy)) (by rw[bU,dZ] at ht;omega)]
   have e1:t/k=(t-k)/k+1:=by rw[Nat.div_eq_sub_div hk (by omega)]
   have e2:t%k=(t-k)%k:=by rw[Nat.mod_eq_sub_mod (by omega)]
   rw[e1,e2];rfl
section
variable {α:Type} [Inhabited α]
def Wi(enc:α->List Value)(k:Nat)(hk: ∀x,(enc x).length=k)(d:Array α):(Go.Sort.flatK enc k d).toList=(d.toList.map enc).flatten:=by
 apply mS;intro t;have hlen:(d.toList.map enc).flatten.length=d.size*k:=by
  have: ∀l:List α,(l.map enc).flatten.length=l.length*k:=fun l=>by
   induction l with
   |nil=>simp
   |cons x l ih=>rw[cM,kW,bQ,ih,hk,bU,dZ];omega
  simpa using this d.toList
 by_cases ht:t<d.size*k
 ·have hk0:0<k:=by
   rcases dS k with e|e
   ·subst e;simp at ht
   ·exact e
  have hi:t/k<d.size:=rU (by rwa [bM]);rw[Nu (k:=k) _ _ (fun x hx=>by obtain⟨y,_,rfl⟩:=bZ.1 hx;exact hk y) (by simpa using ht)];simp only[Go.Sort.flatK,nY,Array.toList_range,fS];rw[rM ht];have hj:t%k<(enc d[t/k]).length:=by rw[hk];exact cL _ hk0
  simp only[jW];rw[getElem!_pos d (t/k) hi,getElem!_pos (enc d[t/k]) (t%k) hj];simp[hi,hj]
 ·rw[fW (by simp[Go.Sort.flatK];omega),fW (by rw[hlen];omega)]
def Od(enc:α->List Value)(k:Nat)(w:World)(b m:Nat)(dk:Array α)(os:Array Obj){q:Nat}(hq:q<w.heap.size):
  (sortWorldK enc k w b 0 m dk os).heap[q]? =if q=b then(w.heap[q]?).map (Go.Sort.onCells (Go.Sort.putCells id 0 (Go.Sort.flatK enc k dk))) else w.heap[q]? :=by
 show((w.heap.modify b _)++os)[q]? =_;rw[jV (by simpa using hq),Array.getElem?_modify];by_cases e:b=q
 ·subst e;simp
 ·simp[e,Ne.symm e]
def Xd{F:Array Value}{xs rest:List Value}(h:xs.length=F.size):Go.Sort.putCells id 0 F ⟨xs++rest⟩=⟨F.toList++rest⟩:=by
 apply Array.ext';apply mS;intro k;simp only[Go.Sort.putCells,Array.toList_mapIdx,List.getElem?_mapIdx];by_cases hk:k<F.size
 ·rw[dQ (by omega),dQ (by simpa using hk),aZ (by omega)]
  simp[hk]
 ·rw[fM (by omega),fM (by simp;omega),h]
  simp only[gS]
  cases rest[k-F.size]? with
  |none=>rfl
  |some v=>simp[hk]
end
def oo{A:Type}(cf:A->A->Int)(ds:List A):List A:=ds.mergeSort fun x y=>!decide (cf y x<0)
def x8{A:Type}(cf:A->A->Int)(ds:List A):(oo cf ds).Perm ds:=List.mergeSort_perm ..
def Pg{A:Type}{cf:A->A->Int}(hO:Go.Sort.SWO (Go.Proofs.ltOf cf))(ds:List A):(oo cf ds).Pairwise fun x y=> ¬cf y x<0:=by
 have:=List.pairwise_mergeSort (le:=fun x y=>!decide (cf y x<0)) (fun a b c h1 h2=>by
  have h1':Go.Proofs.ltOf cf b a=false:=by simpa[Go.Proofs.ltOf] using h1
  have h2':Go.Proofs.ltOf cf c b=false:=by simpa[Go.Proofs.ltOf] using h2
  have:=hO.ntrans c b a h2' h1';simpa[Go.Proofs.ltOf] using this) (fun a b=>by
  cases h1:Go.Proofs.ltOf cf b a with
  |false=>have: ¬cf b a<0:=(by simpa[Go.Proofs.ltOf] using h1);simp;omega
  |true=>
   cases h2:Go.Proofs.ltOf cf a b with
   |false=>have: ¬cf a b<0:=(by simpa[Go.Proofs.ltOf] using h2);simp;omega
   |true=>have:=hO.trans _ _ _ h1 h2;rw[hO.irrefl] at this;cases this) ds
 exact this.imp fun h=>by simpa using h
def Yq{P:Program}{ρ:Go.Shelf.Ren}{GB:Gh}(L:SlLaysF0.n6 P ρ)(ha:nB P (ρ.f 6)){s:Nat}(hAg: ∀w,(isAgg (ρ.t 24)).run P w= .ok true w)(hZs: ∀w,(sizeOf (ρ.t 24)).run P w= .ok s w)
  {A:Type}(e:A->DV)(V:A->Prop)(hA: ∀x,∃l,e x= .ag l/\(DV.ag l).okc=true/\l.length=s)(cf:A->A->Int)(hO:Go.Sort.SWO (Go.Proofs.ltOf cf)){g:FuncId}(hg:nB P g)
  (hc: ∀x y,V x->V y->PF GB P g [e x,e y] (.v (.int .i64 (cf x y)))){ty:TypeId}{ds:List A}(hV: ∀x∈ds,V x)(hn:ds.length<4611686018427387904)(hu: ∀x∈ds,∀y∈ds,¬cf x y<0-> ¬cf y x<0->x=y):
  PW GB P (ρ.f 6) [none,some (.v (.func (.func g) #[] #[]))] s ty (ds.map e) (.tp []) ((oo cf ds).map e):=by
 intro G z vs B hgb hB hvs;refine⟨ha,fun w hw=>?_⟩;obtain⟨v1,m1,rfl,q1,hvs⟩:=b7.1 hvs;obtain⟨v2,m2,rfl,q2,hvs⟩:=b7.1 hvs
 cases cH.1 hvs
 rw[bi] at q1 q2;subst q1 q2;obtain⟨es,k1,k2,k3,_⟩:=hB;simp only at k1 k2 k3;have hlen:es.length=ds.length:=by rw[k2.len,aK]
 by_cases h0:ds=[]
 ·subst h0
  have hes:es=[]:=cV (by simpa using hlen);have hz:z.n=0:=by rw[k1.len,hes];rfl
  rw[hz];refine(AnyF.slices_SortFunc_none L z.a z.c _ w).mono fun r w' ⟨h1,h2⟩=>?_;subst h2;exact⟨_,asB B,G,h1,hw,nP.2 ⟨[],J, .nil⟩,es,k1.asB,by subst hes;show IsLs G ((oo cf []).map e) [];unfold oo;rw[List.mergeSort_nil];exact .nil,k3,fun h=>by cases h⟩
 ·have hpos:0<es.length:=by rw[hlen];exact sZ.2 h0
  rcases k1 with⟨e1,_,_⟩|⟨b,rest,lo,e1,e2,e3,e4,e5⟩
  ·rw[e1] at hpos;simp at hpos
  subst e2
  -- elements with their cells
  have lift: ∀{ds:List A} {es:List Value},IsLs G (ds.map e) es->(∀x∈ds,V x)-> ∃qs:List {q:A×List Value//V q.1/\Is G (e q.1) (.agg ⟨q.2⟩)},qs.map (·.1.1)=ds/\qs.map (fun q=>Value.agg ⟨q.1.2⟩)=es:=by
   intro ds
   induction ds with
   |nil=>intro es h _;cases cH.1 h;exact⟨[],rfl,rfl⟩
   |cons x ds ih=>
    intro es h hV;obtain⟨y,n,rfl,g1,g2⟩:=b7.1 h;obtain⟨qs,g3,g4⟩:=ih g2 fun x hx=>hV x (aJ _ hx);obtain⟨l,hl,_⟩:=hA x;have g1':=g1;rw[hl] at g1';obtain⟨m,rfl,_⟩:=fe.1 g1';exact⟨⟨(x,m),hV x aQ,g1⟩::qs,by simp[g3],by simp[g4]⟩
  obtain⟨qs,hq1,hq2⟩:=lift k2 hV;have:Inhabited {q:A×List Value//V q.1/\Is G (e q.1) (.agg ⟨q.2⟩)}:=⟨qs.head (fun e=>by rw[e] at hq1;exact h0 hq1.symm)⟩
  let enc:{q:A×List Value//V q.1/\Is G (e q.1) (.agg ⟨q.2⟩)}->List Value:=fun q=>q.1.2
  have henc: ∀q,(enc q).length=s/\ ∀v∈enc q,Go.Sx.flat v=true:=fun q=>by
   obtain⟨l,hl,h1,h2⟩:=hA q.1.1;have h3:=q.2.2;rw[hl] at h3;obtain⟨m,hm,h4⟩:=fe.1 h3
   cases hm
   exact⟨by show q.1.2.length=s;rw[h4.len,h2],fun v hv=>h4.flat h1 v hv⟩
  have hk: ∀q,(enc q).length=s:=fun q=>(henc q).1;have hqs:qs.toArray.size=es.length:=by rw[mT,<-hq2,aK]
  have hfl: ∀d:Array {q:A×List Value//V q.1/\Is G (e q.1) (.agg ⟨q.2⟩)},(Go.Sort.flatK enc s d).toList=bc (d.toList.map fun q=>Value.agg ⟨q.1.2⟩):=fun d=>by
   rw[Wi enc s hk];unfold bc;rw[List.map_map];rfl
  have hfe:(Go.Sort.flatK enc s qs.toArray).toList=bc es:=by rw[hfl,<-hq2]
  have hown:=hw.hown ⟨b,bc es++rest,ty,false⟩ aQ;obtain⟨hb,hGb,_,_⟩:=hown;simp only at hb hGb;have hblt:=ge hb;have hH:Go.Sort.HoldsK enc s w b 0 qs.toArray:=by
   intro j hj;refine⟨?_,by simp[World.frozen?,hb]⟩;rw[yq hb,eJ];have hj':j<(bc es).length:=by rw[<-hfe];simpa using hj
   rw[dQ hj',<-hfe];show _=some ((Go.Sort.flatK enc s qs.toArray)[j]!);rw[getElem!_pos _ j hj];simp
  have hsz: ∀dk:Array {q:A×List Value//V q.1/\Is G (e q.1) (.agg ⟨q.2⟩)},dk.size=qs.toArray.size->(bc es).length=(Go.Sort.flatK enc s dk).size:=fun dk hd=>by rw[<-hfe];simp[hd]
  have hblk: ∀(m:Nat) (os:Array Obj) (dk:Array _),dk.size=qs.toArray.size->(sortWorldK enc s w b 0 m dk os).heap[b]? =some (.cells ⟨(Go.Sort.flatK enc s dk).toList++rest⟩ ty (0,0)):=fun m os dk hd=>by
   rw[Od enc s w b m dk os hblt,if_pos J,hb];show some (Obj.cells (Go.Sort.putCells id 0 (Go.Sort.flatK enc s dk) ⟨bc es++rest⟩) ty (0,0))=_;rw[Xd (hsz dk hd)]
  have hoth: ∀(m:Nat) (os:Array Obj) (dk:Array _) (q:Nat),q<w.heap.size->q≠b->(sortWorldK enc s w b 0 m dk os).heap[q]? =w.heap[q]? :=fun m os dk q hq hne=>by rw[Od enc s w b m dk os hq,if_neg hne]
  have hsub: ∀(m:Nat) (os:Array Obj) (dk:Array _) (c:Nat) (cs:List Value),G c=some cs-> ∃ty fz,(sortWorldK enc s w b 0 m dk os).heap[c]? =some (.cells ⟨cs⟩ ty fz):=fun m os dk c cs hcs=>by
   obtain⟨ty',fz,h⟩:=hw.sub c cs hcs;exact⟨ty',fz,by rw[hoth m os dk c (ge h) (fun e=>by subst e;rw[hGb] at hcs;cases hcs)];exact h⟩
  have hsize: ∀(m:Nat) (os:Array Obj) (dk:Array _),w.heap.size<=(sortWorldK enc s w b 0 m dk os).heap.size:=fun m os dk=>by
   show _<=((w.heap.modify b _)++os).size;simp
  have hcmp:Go.Proofs.CmpLays P g #[] enc s (fun q r=>cf q.1.1 r.1.1) b 0 qs.toArray.size w:=by
   intro m os dk _ x y;have hF:=hc x.1.1 y.1.1 x.2.1 y.2.1 G [.agg ⟨x.1.2⟩, .agg ⟨y.1.2⟩] hgb (.cons x.2.2 (.cons y.2.2 .nil));refine(hF.run _ (hsub m os dk)).mono fun r W ⟨v,G',h1,h2,h3⟩=>?_;rw[bi] at h3;subst h3;refine⟨h1,W.drawn-(sortWorldK enc s w b 0 m dk os).drawn,W.heap.extract (sortWorldK enc s w b 0 m dk os).heap.size W.heap.size,?_⟩;have hdr:=h2.dr;have hos:=h2.os;have htp:=h2.tape;have hou:=h2.output;have hkp:=h2.keep;have hss:=h2.size;simp only at hdr hos htp hou hkp hss;generalize sortWorldK enc s w b 0 m dk os=W0 at*
   cases W with
   |mk heap tape drawn os' output=>
    simp only at*;unfold Go.Sort.grow World.drewN;simp only[World.mk.injEq];refine⟨?_,htp,by omega,hos,hou⟩;apply Array.ext_getElem?;intro k;rw[Array.getElem?_append];split
    ·rename_i hk';exact hkp k hk' (by simp)
    ·rename_i hk'
     rw[Array.getElem?_extract];split
     ·congr 1;omega
     ·rw[lS (by omega)]
  have hO':Go.Sort.SWO (Go.Proofs.ltOf fun(q r:{q:A×List Value//V q.1/\Is G (e q.1) (.agg ⟨q.2⟩)})=>cf q.1.1 r.1.1):=⟨fun x=>hO.irrefl x.1.1,fun x y z=>hO.trans x.1.1 y.1.1 z.1.1,fun x y z=>hO.ntrans x.1.1 y.1.1 z.1.1⟩;have hrun:=AnyQ.slices_SortFunc L s hAg hZs enc hk (fun q v hv=>WO ((henc q).2 v hv)) (fun q r=>cf q.1.1 r.1.1) hO' g #[] b 0 z.c qs.toArray w (fun args w=>A1 hg args w) hcmp hH hblt (by rw[hqs,hlen];exact hn);have ez:z=⟨some ⟨b,0,none⟩,qs.toArray.size,z.c⟩:=by rw[hqs];exact e1
  have ea:(⟨[Value.slice z.a z.n z.c, .func (.func g) #[] #[]]⟩:Array Value)= #[.slice (some ⟨b,0,none⟩) qs.toArray.size z.c, .func (.func g) #[] #[]]:=by rw[ez]
  rw[ea];refine hrun.mono fun r w' ⟨h1,d',n,os,hp,hs,h2⟩=>?_;subst h2;have hdz:d'.size=qs.toArray.size:=hp.1;have hperm:d'.toList.Perm qs:=by
   have:=hp.2.2;have e1:d'.toList.take qs.length=d'.toList:=aL (by rw[gS,hdz];simp);simpa[e1] using this
  have hasc:d'.toList.Pairwise fun x y=> ¬cf y.1.1 x.1.1<0:=by
   rw[iU];intro i j hi hj hij;have:=hs i j (bN _) hij (by rw[<-hdz];simpa using hj);rw[getElem!_pos d' j (by simpa using hj),getElem!_pos d' i (by simpa using hi)] at this;simpa[Go.Proofs.ltOf] using this
  have hds:d'.toList.map (·.1.1)=oo cf ds:=by
   refine List.Perm.eq_of_pairwise (le:=fun x y=> ¬cf y x<0) (fun x y hx hy k1 k2=>?_) ?_ (Pg hO ds) ?_
   ·have m1:x∈ds:=by
     obtain⟨q,hq,rfl⟩:=bZ.1 hx;rw[<-hq1];exact bZ.2 ⟨q,hperm.mem_iff.1 hq,J⟩
    exact hu x m1 y ((x8 cf ds).mem_iff.1 hy) k2 k1
   ·rw[qU];exact hasc
   ·refine(hperm.map _).trans ?_
    rw[hq1];exact(x8 cf ds).symm
  have hlen':(d'.toList.map fun q=>Value.agg ⟨q.1.2⟩).length=es.length:=by rw[aK,gS,hdz,hqs]
  have hIs: ∀l:List {q:A×List Value//V q.1/\Is G (e q.1) (.agg ⟨q.2⟩)},IsLs G ((l.map (·.1.1)).map e) (l.map fun q=>Value.agg ⟨q.1.2⟩):=fun l=>by
   induction l with
   |nil=>exact .nil
   |cons q l ih=>exact .cons q.2.2 ih
  have hcell: ∀v∈d'.toList.map (fun q=>Value.agg ⟨q.1.2⟩),(aI v).length=s:=fun v hv=>by
   obtain⟨q,_,rfl⟩:=bZ.1 hv;exact hk q
  refine⟨_,[⟨b,bc (d'.toList.map fun q=>Value.agg ⟨q.1.2⟩)++rest,ty,false⟩],G,h1,?_,nP.2 ⟨[],J, .nil⟩,d'.toList.map (fun q=>Value.agg ⟨q.1.2⟩), .inr ⟨b,rest,false,by rw[hlen'];exact e1,J,ik _ hcell,?_,by rw[hlen'];exact e5⟩,by rw[<-hds];exact hIs _,hcell,fun h=>by cases h⟩
  ·refine⟨J,J,J,hsize n os d',fun q hq hqm=>hoth n os d' q hq fun e=>hqm (by rw[e];exact aQ),hsub n os d',bp.refl _,fun _ _=>J,fun o ho=>?_,qY _ _,?_,fun p hp=>(by cases hp)⟩
   ·rw[aV.1 ho]
    exact⟨by rw[<-hfl];exact hblk n os d' hdz,hGb,(fun h=>by cases h),fun _=>aQ⟩
   ·show w.drawn<=w.drawn+n
    omega
  ·rw[<-e4,ik _ hcell,e3,hlen']
def QL{a b c:aa}(h:bv c a):bv c b\/bv b a:=by
 by_cases h1:c.half<b.half
 ·exact .inl (.inl h1)
 ·by_cases h2:b.half<a.half
  ·exact .inr (.inl h2)
  ·rcases h with h|⟨h,k⟩
   ·omega
   ·have e1:c.half=b.half:=by omega
    have e2:b.half=a.half:=by omega
    by_cases q1:0<c.cross b
    ·exact .inl (.inr ⟨e1,q1⟩)
    ·by_cases q2:0<b.cross a
     ·exact .inr (.inr ⟨e2,q2⟩)
     ·exfalso
      have i1:b.y*c.cross a=a.y*c.cross b+c.y*b.cross a:=by unfold aa.cross;grind
      have i2:b.x*c.cross a=a.x*c.cross b+c.x*b.cross a:=by unfold aa.cross;grind
      have q1':c.cross b<=0:=by grind
      have q2':b.cross a<=0:=by grind
      rcases iE b with⟨eb,kb⟩|⟨eb,kb⟩|⟨eb,kb⟩<;>rcases iE a with⟨ea,ka⟩|⟨ea,ka⟩|⟨ea,ka⟩<;>rcases iE c with⟨ec,kc⟩|⟨ec,kc⟩|⟨ec,kc⟩<;>first|omega|skip
      ·have ha:0<=a.y:=by grind
       have hc:0<=c.y:=by grind
       rcases kb with kb|⟨kb,kb'⟩
       ·have g1:=nS ha (show 0<= -c.cross b by grind)
        have g2:=nS hc (show 0<= -b.cross a by grind);have g3:=bt kb k;grind
       ·have hx:b.cross a=b.x*a.y:=by unfold aa.cross;rw[kb];grind
        have ha0:a.y=0:=by
         rcases ka with ka|ka
         ·have:=bt kb' ka;grind
         ·exact ka.1
        have hax:0<a.x:=by grind
        have hy:c.cross a= -(c.y*a.x):=by unfold aa.cross;rw[ha0];grind
        have:=nS hc (show 0<=a.x by grind);grind
      ·have ha:0<= -a.y:=by grind
       have hc:0<= -c.y:=by grind
       rcases kb with kb|⟨kb,kb'⟩
       ·have g1:=nS ha (show 0<= -c.cross b by grind)
        have g2:=nS hc (show 0<= -b.cross a by grind);have g3:=bt (show 0< -b.y by grind) k;grind
       ·have hx:b.cross a=b.x*a.y:=by unfold aa.cross;rw[kb];grind
        have ha0:a.y=0:=by
         rcases ka with ka|ka
         ·have:=bt (show 0< -b.x by grind) (show 0< -a.y by grind);grind
         ·exact ka.1
        have hax:0< -a.x:=by grind
        have hy:c.cross a= -(c.y*a.x):=by unfold aa.cross;rw[ha0];grind
        have:=nS hc (show 0<= -a.x by grind);grind
      ·have hy:c.cross a=0:=by unfold aa.cross;rw[ka.1,ka.2];grind
       rw[hy] at k;exact absurd k (by decide)
def JX:Go.Sort.SWO (Go.Proofs.ltOf ce):=by
 have e: ∀x y,Go.Proofs.ltOf ce x y=true↔bv x y:=fun x y=>by rw[<-n8];simp[Go.Proofs.ltOf]
 have e2: ∀x y,Go.Proofs.ltOf ce x y=false↔ ¬bv x y:=fun x y=>by rw[<-e];simp
 refine⟨fun x=>(e2 x x).2 (tF x),fun x y z h k=>(e x z).2 (wE ((e x y).1 h) ((e y z).1 k)),fun x y z h k=>(e2 x z).2 fun q=>?_⟩;rcases QL (b:=y) q with q|q
 ·exact(e2 x y).1 h q
 ·exact(e2 y z).1 k q
def I2: ∀{l m:List aa},l.Pairwise bv->m.Pairwise bv->(∀x,x∈l↔x∈m)->l=m
 |[],[],_,_,_=>rfl
 |[],b::m,_,_,h=>absurd ((h b).2 aQ) (by simp)
 |a::l,[],_,_,h=>absurd ((h a).1 aQ) (by simp)
 |a::l,b::m,h1,h2,h=>by
  obtain⟨p1,p2⟩:=bX.1 h1;obtain⟨q1,q2⟩:=bX.1 h2;have e:a=b:=by
   rcases aU.1 ((h a).1 aQ) with e|e
   ·exact e
   ·rcases aU.1 ((h b).2 aQ) with f|f
    ·exact f.symm
    ·exact(x4 (q1 a e) (p1 b f)).elim
  subst e;congr 1;refine I2 p2 q2 fun x=>⟨fun hx=>?_,fun hx=>?_⟩
  ·rcases aU.1 ((h x).1 (aJ _ hx)) with e|e
   ·subst e;exact(tF _ (p1 _ hx)).elim
   ·exact e
  ·rcases aU.1 ((h x).2 (aJ _ hx)) with e|e
   ·subst e;exact(tF _ (q1 _ hx)).elim
   ·exact e
def wI(l:List aa):Prop:= ∀x∈l,∀y∈l,ce x y=0->x=y
def Kx: ∀{l:List aa} {x:aa},(x::l).Pairwise (fun a b=> ¬bv b a)->wI (x::l)->(kv x l).Pairwise bv/\(∀y∈kv x l,bv x y)/\ ∀y,y∈x::kv x l↔y∈x::l
 |[],_,_,_=>⟨.nil,(fun y hy=>by cases hy),fun _=>Iff.rfl⟩
 |z::l,x,h,ht=>by
  obtain⟨p1,p2⟩:=bX.1 h;obtain⟨i1,i2,i3⟩:=Kx p2 fun a ha b hb=>ht a (aJ _ ha) b (aJ _ hb);rw[kv];by_cases e:ce z x=0
  ·rw[if_pos e]
   obtain rfl:=ht z (by simp) x (by simp) e;exact⟨i1,i2,fun y=>by rw[i3];simp⟩
  ·rw[if_neg e]
   have hb:bv x z:=by
    by_cases q:bv x z
    ·exact q
    ·exact absurd (N6 (p1 z aQ) q) e
   refine⟨bX.2 ⟨i2,i1⟩,fun y hy=>?_,fun y=>?_⟩
   ·rcases aU.1 hy with rfl|hy
    ·exact hb
    ·exact wE hb (i2 y hy)
   ·rw[aU,i3,aU (b:=x) (l:=z::l)]
def Yw{l:List aa}(h:l.Pairwise fun a b=> ¬bv b a)(ht:wI l):(tf l).Pairwise bv/\ ∀y,y∈tf l↔y∈l:=by
 cases l with
 |nil=>exact⟨.nil,fun _=>Iff.rfl⟩
 |cons x l=>
  obtain⟨i1,i2,i3⟩:=Kx h ht;exact⟨bX.2 ⟨i2,i1⟩,i3⟩
def U9{l:List aa}(ht:wI l)(y:aa):y∈ic l↔y∈l:=by
 have h2: ∀y,y∈ic l->y∈l:=fun y hy=>by
  rcases vz ce hy with h|h
  ·exact h
  ·cases h
 refine⟨h2 y,fun hy=>?_⟩;obtain⟨e,e1,e2⟩:=BY ce (o:=[]) hy;rcases e2 with rfl|e2
 ·exact e1
 ·rw[<-ht e (h2 e e1) y hy e2];exact e1
def YO{l:List aa}(ht:wI l):tf (oo ce l)=ic l:=by
 have hm: ∀y,y∈oo ce l↔y∈l:=fun y=>(x8 ce l).mem_iff;have h1:(oo ce l).Pairwise fun a b=> ¬bv b a:=(Pg JX l).imp fun h=>by rw[<-n8];exact h
 obtain⟨k1,k2⟩:=Yw h1 fun a ha b hb=>ht a ((hm a).1 ha) b ((hm b).1 hb);exact I2 k1 (x6 l) fun x=>by rw[k2,hm,U9 ht]
end Go.Sx
end
section
namespace Go.Proofs
open Go.Shelf
def Tryz.sortPt_ren:Go.Shelf.Ren:=⟨fun|6=>230|15=>115|14=>248|28=>166|29=>167|20=>258|21=>259|22=>260|23=>261|24=>262|25=>263|26=>264|27=>265|46=>271|47=>209|48=>210|49=>272|50=>273|57=>276|n=>n,fun|22=>163|24=>103|25=>298|3=>3|39=>199|0=>0|53=>206|55=>159|4=>4|46=>250|45=>249|50=>254|5=>5|9=>9|66=>283|70=>287|76=>304|77=>305|n=>n,fun|n=>n⟩
def Tryz.sortPt:Go.Proofs.SlLaysF0.n6 Tryz.prog Tryz.sortPt_ren:={
 mixed:=by kernel_rfl
 f6:=⟨Tryz.f230.name,by decide,Tryz.func230.trans (congrArg some (by kernel_rfl))⟩
 f14:=⟨Tryz.f248.name,by decide,Tryz.func248.trans (congrArg some (by kernel_rfl))⟩
 f15:=Tryz.func115.trans (congrArg some (by kernel_rfl))
 f20:=⟨Tryz.f258.name,by decide,Tryz.func258.trans (congrArg some (by kernel_rfl))⟩
 f21:=⟨Tryz.f259.name,by decide,Tryz.func259.trans (congrArg some (by kernel_rfl))⟩
 f22:=⟨Tryz.f260.name,by decide,Tryz.func260.trans (congrArg some (by kernel_rfl))⟩
 f23:=⟨Tryz.f261.name,by decide,Tryz.func261.trans (congrArg some (by kernel_rfl))⟩
 f24:=⟨Tryz.f262.name,by decide,Tryz.func262.trans (congrArg some (by kernel_rfl))⟩
 f25:=⟨Tryz.f263.name,by decide,Tryz.func263.trans (congrArg some (by kernel_rfl))⟩
 f26:=⟨Tryz.f264.name,by decide,Tryz.func264.trans (congrArg some (by kernel_rfl))⟩
 f27:=⟨Tryz.f265.name,by decide,Tryz.func265.trans (congrArg some (by kernel_rfl))⟩
 f28:=Tryz.func166.trans (congrArg some (by kernel_rfl))
 f29:=Tryz.func167.trans (congrArg some (by kernel_rfl))
 f46:=⟨Tryz.f271.name,by decide,Tryz.func271.trans (congrArg some (by kernel_rfl))⟩
 f47:=Tryz.func209.trans (congrArg some (by kernel_rfl))
 f48:=Tryz.func210.trans (congrArg some (by kernel_rfl))
 f49:=⟨Tryz.f272.name,by decide,Tryz.func272.trans (congrArg some (by kernel_rfl))⟩
 f50:=⟨Tryz.f273.name,by decide,Tryz.func273.trans (congrArg some (by kernel_rfl))⟩
 f57:=⟨Tryz.f276.name,by decide,Tryz.func276.trans (congrArg some (by kernel_rfl))⟩
 t0:=Tryz.underlying0
 a0:=Tryz.isAgg0
 z0:=Tryz.sizeOf0
 v0:=Tryz.zeroValue0
 t3:=Tryz.underlying3
 a3:=Tryz.isAgg3
 z3:=Tryz.sizeOf3
 v3:=Tryz.zeroValue3
 t4:=Tryz.underlying4
 a4:=Tryz.isAgg4
 z4:=Tryz.sizeOf4
 v4:=Tryz.zeroValue4
 t5:=Tryz.underlying5
 a5:=Tryz.isAgg5
 z5:=Tryz.sizeOf5
 v5:=Tryz.zeroValue5
 t9:=Tryz.underlying9
 a9:=Tryz.isAgg9
 z9:=Tryz.sizeOf9
 v9:=Tryz.zeroValue9
 t22:=Tryz.underlying163
 a22:=Tryz.isAgg163
 z22:=Tryz.sizeOf163
 v22:=Tryz.zeroValue163
 t25:=Tryz.underlying298
 a25:=Tryz.isAgg298
 z25:=Tryz.sizeOf298
 v25:=Tryz.zeroValue298
 t39:=Tryz.underlying199
 a39:=Tryz.isAgg199
 z39:=Tryz.sizeOf199
 v39:=Tryz.zeroValue199
 t45:=Tryz.underlying249
 a45:=Tryz.isAgg249
 z45:=Tryz.sizeOf249
 v45:=Tryz.zeroValue249
 t46:=Tryz.underlying250
 a46:=Tryz.isAgg250
 z46:=Tryz.sizeOf250
 v46:=Tryz.zeroValue250
 t50:=Tryz.underlying254
 a50:=Tryz.isAgg254
 z50:=Tryz.sizeOf254
 v50:=Tryz.zeroValue254
 t53:=Tryz.underlying206
 a53:=Tryz.isAgg206
 z53:=Tryz.sizeOf206
 v53:=Tryz.zeroValue206
 t55:=Tryz.underlying159
 a55:=Tryz.isAgg159
 z55:=Tryz.sizeOf159
 v55:=Tryz.zeroValue159
 t66:=Tryz.underlying283
 a66:=Tryz.isAgg283
 z66:=Tryz.sizeOf283
 v66:=Tryz.zeroValue283
 t70:=Tryz.underlying287
 a70:=Tryz.isAgg287
 z70:=Tryz.sizeOf287
 v70:=Tryz.zeroValue287
 t76:=Tryz.underlying304
 a76:=Tryz.isAgg304
 z76:=Tryz.sizeOf304
 v76:=Tryz.zeroValue304
 t77:=Tryz.underlying305
 a77:=Tryz.isAgg305
 z77:=Tryz.sizeOf305
 v77:=Tryz.zeroValue305}
end Go.Proofs
end
section
namespace Go.Sx
open Go Go.Proofs Tryz
variable {GB:Gh}
def UJ{ds:List aa}{i:Nat}(hb: ∀d∈ds,aq d i)(hi:i<=10000000)(hn:ds.length<=10000000)(ht:wI ds):PW GB prog 230 [none,some (.v (.func (.func 231) #[] #[]))] 6 103 (ds.map eZ) (.tp []) ((oo ce ds).map eZ):=
 Yq (GB:=GB) Tryz.sortPt ⟨_,func230,J,J⟩ isAgg103 sizeOf103 eZ (fun d=>aq d i) (fun x=>⟨_,J,J,J⟩) ce JX ⟨_,func231,J,J⟩ (fun x y hx hy=>Kr (i:=i) (j:=i) hi hi) hb (by omega)
  (fun x hx y hy h k=>ht x hx y hy (N6 (by rw[<-n8];exact h) (by rw[<-n8];exact k)))
def Ru{ds:List aa}{i:Nat}(hb: ∀d∈ds,aq d i)(hi:i<=10000000)(hn:ds.length<=10000000)(ht:wI ds):PB GB prog 197 (kI [none]) 6 103 (ds.map eZ) (fun w=> .v (.slice w.a w.n w.c)) ((ic ds).map eZ):=by
 have hsm: ∀d∈oo ce ds,aq d i:=fun d hd=>hb d ((x8 ce ds).mem_iff.1 hd);have hsl:(oo ce ds).length=ds.length:=(x8 ce ds).length_eq;refine F9 func197 J J ntmps197 J J (fun C=>?_);refine cw _ J (UJ hb hi hn ht) J J<|cq ((ic ds).map eZ) J (SA (i0:=i) hsm (by omega) hi) (by rw[YO ht]) J<|?_;exact xm J J J J
theorem Ip{ds:List aa}{i:Nat}(h: ∀d∈ds,aq d i)(h2:2<=i): ∀v∈eO ds,aq v (i+i+1):=fun v hv=>by
 have up: ∀{q:aa},aq q i->aq q (i+i+1):=fun hq=>⟨hq.x.mono (by omega),hq.y.mono (by omega)⟩;unfold eO at hv;split at hv
 ·rw[aV] at hv
  subst hv;exact⟨BQ.mono (k:=2) ⟨by decide,by decide⟩ (by omega),BQ.mono (k:=2) ⟨by decide,by decide⟩ (by omega)⟩
 ·obtain⟨k,hk,rfl⟩:=bZ.1 hv
  have hk':=fN.1 hk;have g: ∀{j:Nat},j<ds.length->aq (ds.getD j ⟨0,0⟩) i:=fun{j} hj=>by
   rw[aX,aZ hj];exact h _ (cK hj)
  haveI:=g hk';haveI:=g (cL (k+1) (show 0<ds.length by omega));unfold gy;split
  ·exact inferInstance
  ·exact up inferInstance
def Jg(ds:List aa):(eO ds).length<=ds.length+1:=by
 unfold eO;split
 ·simp
 ·rw[aK,lT];omega
def Yb{b c:Bool}:PF GB prog 91 [vB b,vB c] (vI (if b&&c then 2 else if b then 1 else 0)):=by
 refine fn func91 J J ntmps91 J J (fun C=>?_);refine kA 7 J J J (fun hg7=>?_) (fun hg7=>?_)
 ·refine bb J J J (fun hc5=>?_) (fun hc5=>?_)
  ·exact rz J (by subst hg7 hc5;rfl)
  ·refine bb J J J (fun hc10=>?_) (fun hc10=>?_)
   ·exact rz J (by subst hg7 hc5;rfl)
   ·subst hg7;cases hc10
 ·refine bb J J J (fun hc10=>?_) (fun hc10=>?_)
  ·subst hg7;cases hc10
  ·exact rz J (by subst hg7;rfl)
def Rm{C:az}{n:Nat}{Q0:Exit->Act->World->Prop}{fr:au}{own:aB}{ops:Array Oper}{r:List Oper}{K:List Kt}(k:Nat)(hl:aF fr k=some (.d (.ag [vI 0,vI 0, .v (.pointer none)])))(h:ak prog GB C n Q0 ((k, .d (eF 0))::fr) own (.ops ops r K)):ak prog GB C n Q0 fr own (.ops ops r K):=
 nf (g:= .d (eF 0)) hl (fun _ G y hy=>v7 G y hy) h
theorem Mp{p:aa}{f:aH}(hf:FE f): ∀d∈gp p f,aq d 500:=fun d hd=>by
 haveI:=hf.fo.lb;rcases(CN hd).2 with rfl|rfl
 ·exact inferInstance
 ·exact inferInstance
def wR{E:List aH}{p:aa}{k:Nat}{f:aH}(h:E[k]? =some f):(E.drop k).flatMap (gp p)=gp p f++(E.drop (k+1)).flatMap (gp p):=by
 obtain⟨hk,e⟩:=aM.1 h;rw[bL hk,e,mN]
def T'(p:aa)(f:aH):(gp p f).length<=2:=by
 unfold gp
 repeat' split
 all_goals simp
def GD(p:aa): ∀E:List aH,(E.flatMap (gp p)).length<=2*E.length
 |[]=>aN _
 |f::E=>by
  have:=GD p E;have:=T' p f;rw[mN,bQ,bU];omega
def Sf{p:aa}{f:aH}(h:gI f p=false):gp p f=[]:=by unfold gp;rw[h];rfl
def Ce{p:aa}{f:aH}(hf:FE f)(h:gI f p=true):gp p f=(if bE (ci f.l p) f.v.hi<0 then [cj f.l.dir] else [])++(if 0<bE (ci f.l p) f.v.lo then [ba (cj f.l.dir)] else []):=by
 unfold gp Dx HC;rw[if_pos h,hf.nl,hf.nh];simp only[pT,decide_eq_true_eq]
def RG{E:List aH}(hE: ∀f∈E,FE f)(hn:E.length<=100000){p:aa}{i:Nat}[hp:aq p i](hi:i<=100000:=by decide):PF GB prog 143 [.sl (E.map cp),eZ p] (.sl ((ju E p).map eZ)):=by
 have hml:(E.map cp).length=E.length:=aK ..;have hrl:=GD p E;refine fn (fu:=⟨16⟩) func143 J J ntmps143 J J (fun C=>?_);refine aj 11 (.d (vI (E.length:Nat))) J (by rw[hml]<;>rfl) ?_;refine gx J<|?_;refine nr 5 5 103 6 J J J ?_;refine lp (X:=List aa×Nat) (fun⟨acc,k⟩=>[(12, .d (vI (k:Nat))),(5, .rw 5)]) (fun⟨acc,k⟩=>[(5,some (.b 103 6 (acc.map eZ) true))]) (fun⟨acc,k⟩=>acc++(E.drop k).flatMap (gp p)=E.flatMap (gp p)/\k<=E.length) (fun⟨acc,k⟩=>E.length-k) ⟨[],0⟩ J ⟨by simp,bN _⟩ (fun _=>J) (fun⟨acc,k⟩ hk=>?_)
 try dsimp only at hk⊢
 obtain⟨h1,h2⟩:=hk;have hal:acc.length<=2*E.length:=by
  have q1:=congrArg List.length h1;rw[bQ] at q1;omega
 have ham:(acc.map eZ).length=acc.length:=aK ..;refine br J J J (fun hc13=>?_) (fun hc13=>?_)
 .
  obtain⟨f,hx⟩: ∃u,E[k]? =some u:=⟨_,aZ (by omega)⟩;have hf:=hE f (aS hx);haveI:=hf.fo.lb;haveI:=hf.fo.lo;haveI:=hf.fo.hi;haveI:=CL (p:=p) (i:=i) hf.fo.lb;refine ix _ J (ee hx) J<|cl J (E8 hf (p:=p) (i:=i) hi) J<|?_;refine bb J J J (fun hc19=>?_) (fun hc19=>?_)
  .
   exact at_ ⟨acc,k+1⟩ (by dsimp only;exact⟨⟨by rw[<-h1,wR hx,Sf (by simpa using hc19)];simp,by omega⟩,(by omega)⟩)
  .
   have hha:gI f p=true:=by simpa using hc19
   refine cl J (xp (l:=f.l) (p:=p) (i:=i) (by omega)) J<|cl J (AS (l:=f.l)) J<|cl (fu:=⟨12⟩) J (WF (p:=f.l.dir) (i:=97)) J<|?_;refine aj 30 (.d (vB false)) J (by rw[hf.nh]<;>rfl) ?_;refine ui 30 J ?_;refine gx (fu:=⟨0⟩) J<|?_;rcases Classical.em (bE (ci f.l p) f.v.hi<0) with hA|hA
   .
    refine gx J<|cl (fu:=⟨0⟩) J (lv (p:=ci f.l p) (q:=f.v.hi) (i:=2*i+600) (j:=1200) (by omega) (by decide)) J<|gH J (by show some (decide _)=some true;rw[decide_eq_true (by omega)]) J<|?_;refine rf J J<|ap (fu:=⟨8⟩) ((acc++[cj f.l.dir]).map eZ) J (by rw[cN]<;>rfl) (uU [cj f.l.dir]) J<|?_;refine aj 45 (.d (vB false)) J (by rw[hf.nl]<;>rfl) ?_;refine ui 45 J ?_;refine gx J<|cl J (lv (p:=ci f.l p) (q:=f.v.lo) (i:=2*i+600) (j:=1200) (by omega) (by decide)) J<|?_;refine br J J J (fun hc53=>?_) (fun hc53=>?_)
    .
     refine cl J (Kg (p:=cj f.l.dir) (i:=500)) J<|rf J J<|ap ((acc++[cj f.l.dir]++[ba (cj f.l.dir)]).map eZ) J (by simp only[cN,gW,kQ,kL]<;>rfl) (uU [ba (cj f.l.dir)]) J<|?_;refine gr 58 5 J ?_;exact at_ ⟨acc++[cj f.l.dir]++[ba (cj f.l.dir)],k+1⟩ (by dsimp only;exact⟨⟨by rw[<-h1,wR hx,Ce hf hha,if_pos hA,if_pos (by omega)];simp,by omega⟩,(by omega)⟩)
    .
     refine gr 42 5 J ?_;exact at_ ⟨acc++[cj f.l.dir],k+1⟩ (by dsimp only;exact⟨⟨by rw[<-h1,wR hx,Ce hf hha,if_pos hA,if_neg (by omega)];simp,by omega⟩,(by omega)⟩)
   .
    refine gx J<|cl (fu:=⟨0⟩) J (lv (p:=ci f.l p) (q:=f.v.hi) (i:=2*i+600) (j:=1200) (by omega) (by decide)) J<|gw (fu:=⟨11⟩) J (by show some (decide _)=some false;rw[decide_eq_false (by omega)]) J<|?_;refine aj 45 (.d (vB false)) J (by rw[hf.nl]<;>rfl) ?_;refine ui 45 J ?_;refine gx J<|cl J (lv (p:=ci f.l p) (q:=f.v.lo) (i:=2*i+600) (j:=1200) (by omega) (by decide)) J<|?_;refine br J J J (fun hc53=>?_) (fun hc53=>?_)
    .
     refine cl J (Kg (p:=cj f.l.dir) (i:=500)) J<|rf J J<|ap ((acc++[ba (cj f.l.dir)]).map eZ) J (by simp only[cN,gW,kQ,kL]<;>rfl) (uU [ba (cj f.l.dir)]) J<|?_;refine gr 58 5 J ?_;exact at_ ⟨acc++[ba (cj f.l.dir)],k+1⟩ (by dsimp only;exact⟨⟨by rw[<-h1,wR hx,Ce hf hha,if_neg hA,if_pos (by omega)];simp,by omega⟩,(by omega)⟩)
    .
     exact at_ ⟨acc,k+1⟩ (by dsimp only;exact⟨⟨by rw[<-h1,wR hx,Ce hf hha,if_neg hA,if_neg (by omega)];simp,by omega⟩,(by omega)⟩)
 .
  obtain rfl:k=E.length:=by omega
  have hacc:acc=E.flatMap (gp p):=by rw[iL] at h1;simpa using h1
  refine cq ((ju E p).map eZ) rfl (Ru (ds:=acc) (i:=500) (fun d hd=>by rw[hacc] at hd;obtain⟨f,h3,h4⟩:=cY.1 hd;exact Mp (hE f h3) d h4) (by decide) (by omega) (by rw[hacc];exact Ai (fun f hf=>(hE f hf).fo.ok) p)) (by rw[hacc]<;>rfl) rfl<|?_;refine mf 61 J ?_;exact rz J J
def A3(p d:aa)(s:Rat):p.add (d.scale s)=aD p d s:=by
 unfold aa.add aa.scale aD;simp only[aa.mk.injEq];constructor<;>grind
def s9(x:Rat×Bool)(s:Rat):Rat×Bool:=if 0<Int.sign s.num/\(x.2=false\/bE s x.1<0) then(s,true) else x
def Au(a b:Rat):s9 (s9 (0,false) a) b=oG a b:=by
 unfold s9 oG;by_cases ha:0<Int.sign a.num
 ·simp only[ha,true_and,not_true_eq_false,false_or]
  simp
 ·simp only[ha,false_and,if_false,not_false_eq_true,true_or,and_true]
def CH{b s:Rat}{x:Bool}(h:0<Int.sign s.num)(k:x=false\/bE s b<0):s9 (b,x) s=(s,true):=by unfold s9;rw[if_pos ⟨h,k⟩]
def Be{b s:Rat}{x:Bool}(h: ¬0<Int.sign s.num\/(x=true/\ ¬bE s b<0)):s9 (b,x) s=(b,x):=by
 unfold s9;rw[if_neg];rintro ⟨h1,h2⟩;rcases h with h|⟨h,k⟩
 ·exact h h1
 ·rcases h2 with e|e
  ·rw[h] at e;cases e
  ·exact k e
theorem FQ{m:Nat}(hm:1<=m):BQ (0:Rat) m:=BQ.mono (k:=1) ⟨by decide,by decide⟩ hm
theorem E'{p q:aa}{i j:Nat}(hp:aq p i)[aq q j]:BQ (p.dot q) (i+j+(i+j)+1):=by
 haveI:=hp;exact inferInstance
theorem BB{p d q:aa}{i j m:Nat}[aq p i][aq d j][aq q 3000](hm:2*i+6*j+6100<=m):BQ (ol p d q) m:=by
 haveI:=E' (q:=d) (wm q p (i:=3000) (j:=i));have h:BQ ((⟨q.x-p.x,q.y-p.y⟩:aa).dot d/d.dot d) _:=inferInstance;exact BQ.mono (show BQ (ol p d q) _ from h) (by omega)
def Ic{f:aH}{p d:aa}(h:f.l.nor.dot d≠0):fp f p d=(-(f.l.value p/f.l.nor.dot d),decide (0<Int.sign (-(f.l.value p/f.l.nor.dot d)).num)&&o7 f.v (ci f.l (aD p d (-(f.l.value p/f.l.nor.dot d))))):=by unfold fp;rw[if_neg h]
def TQ{f:aH}{p d:aa}(h:f.l.nor.dot d=0)(k:f.l.value p=0):fp f p d=oG (ol p d (f.l.at f.v.lo)) (ol p d (f.l.at f.v.hi)):=by unfold fp;rw[if_pos h,if_pos k]
def ZU{f:aH}{p d:aa}(h:f.l.nor.dot d=0)(k:f.l.value p≠0):fp f p d=(0,false):=by unfold fp;rw[if_pos h,if_neg k]
def XV{f:aH}(hf:FE f){p d:aa}{i j:Nat}[hp:aq p i][hd:aq d j](hi:i<=30000:=by decide)(hj:j<=10000:=by decide):PF GB prog 144 [cp f,eZ p,eZ d] (.tp [eF (fp f p d).1,vB (fp f p d).2]):=by
 haveI:=hf.fo.lb;haveI:=hf.fo.lo;haveI:=hf.fo.hi;obtain⟨k0,hk0⟩: ∃k0,k0=f.l.nor.dot d:=⟨_,rfl⟩;obtain⟨c0,hc0⟩: ∃c0,c0=f.l.value p:=⟨_,rfl⟩;haveI:BQ k0 (2*j+600):=by rw[hk0];exact BQ.mono (inferInstance:BQ (f.l.nor.dot d) _) (by omega)
 haveI:BQ c0 (2*i+900):=by rw[hc0];exact BQ.mono (inferInstance:BQ (f.l.value p) _) (by omega)
 obtain⟨s,hs⟩: ∃s,s= -(c0/k0):=⟨_,rfl⟩;haveI:BQ (c0/k0) (2*i+2*j+1500):=BQ.mono (inferInstance:BQ (c0/k0) _) (by omega);haveI:BQ s (2*i+2*j+1500):=by rw[hs];exact inferInstance
 haveI:aq (aD p d s) (3*i+3*j+1600):=by rw[<-A3];exact aq.mono (inferInstance:aq (p.add (d.scale s)) _) (by omega)
 obtain⟨qx,hslo⟩: ∃s,s=ol p d (f.l.at f.v.lo):=⟨_,rfl⟩;obtain⟨shi,hshi⟩: ∃s,s=ol p d (f.l.at f.v.hi):=⟨_,rfl⟩;haveI:aq (f.l.at f.v.hi) 3000:=vJ hf.fo.lb hf.fo.hi;haveI:aq (f.l.at f.v.lo) 3000:=vJ hf.fo.lb hf.fo.lo;haveI:BQ qx (2*i+6*j+9000):=by rw[hslo];exact BB (by omega)
 haveI:BQ shi (2*i+6*j+9000):=by rw[hshi];exact BB (by omega)
 haveI:BQ f.v.lo (6*i+6*j+4000):=hf.fo.lo.mono (by omega);haveI:BQ f.v.hi (6*i+6*j+4000):=hf.fo.hi.mono (by omega);haveI:BQ (ci f.l (aD p d s)) (6*i+6*j+4000):=(CL (p:=aD p d s) (i:=3*i+3*j+1600) hf.fo.lb).mono (by omega);refine fn func144 J J ntmps144 J J (fun C=>?_);refine cl J (Es (l:=f.l)) J<|cl (fu:=⟨0⟩) J (qn (p:=f.l.nor) (q:=d) (i:=97) (j:=j) (by decide) (by omega)) J<|?_;refine aj 22 (.d (eF k0)) J (by rw[hk0]) ?_;refine gx J<|cl (fu:=⟨0⟩) J (NH (l:=f.l) (p:=p) (i:=i) (by omega)) J<|?_;refine aj 26 (.d (eF c0)) J (by rw[hc0]) ?_;refine gx J<|cl J (Ar (q:=k0)) J<|?_;refine bb J J J (fun hc29=>?_) (fun hc29=>?_)
 .
  have hkn:f.l.nor.dot d≠0:=by rw[<-hk0];simpa using hc29
  refine cl J (xq (p:=c0) (q:=k0) (i:=2*i+900) (j:=2*j+600) (by omega) (by omega)) J<|cl (fu:=⟨0⟩) J (td (q:=c0/k0) (i:=2*i+2*j+1500) (by omega)) J<|?_;refine aj 33 (.d (eF s)) J (by rw[hs]) ?_;refine gx J<|cl (fu:=⟨0⟩) J (l8 (q:=s) (i:=2*i+2*j+1500) (by omega)) J<|?_;refine pB (v2:=fun hg37=>by simp only[ah];kernel_rfl) J J J J (fun hg37=>?_) (fun hg37=>?_)
  .
   refine cl J (Aa (p:=d) (c:=s) (i:=j) (j:=2*i+2*j+1500) (by omega) (by omega)) J<|cl (fu:=⟨0⟩) J (B8 (p:=p) (q:=d.scale s) (i:=i) (j:=j+(2*i+2*j+1500)) (by omega) (by omega)) J<|?_;refine aj 47 (.d (eZ (aD p d s))) J (by rw[A3]) ?_;refine gx J<|cl J (xp (l:=f.l) (p:=aD p d s) (i:=3*i+3*j+1600) (by omega)) J<|cl J (MK (v:=f.v) (t:=ci f.l (aD p d s)) (i:=6*i+6*j+4000) (by omega)) J<|?_;exact rz J (by rw[Ic hkn,<-hk0,<-hc0,<-hs];show DV.tp [_, .v (.bool _)]= .tp [_, .v (.bool _)];simp only[hg37,decide_true,pS];rfl)
  .
   exact rz J (by rw[Ic hkn,<-hk0,<-hc0,<-hs];show DV.tp [_, .v (.bool _)]= .tp [_, .v (.bool _)];simp only[hg37,decide_false,sU];rfl)
 .
  have hkz:f.l.nor.dot d=0:=by rw[<-hk0];simpa using hc29
  refine cl J (Ar (q:=c0)) J<|?_;refine bb (fu1:=⟨3⟩) (fu2:=⟨16⟩) J J J (fun hc53=>?_) (fun hc53=>?_)
  .
   have hcn:f.l.value p≠0:=by rw[<-hc0];simpa using hc53
   refine Rm 54 J ?_;refine gx J<|?_;exact rz J (by rw[ZU hkz hcn];rfl)
  .
   have hcz:f.l.value p=0:=by rw[<-hc0];simpa using hc53
   refine wz (fu:=⟨1⟩) (tB f) J (fun G y hy=>wD hf.sm hy) J<|wz (fu:=⟨0⟩) (tB f) J (fun G y hy=>wD hf.sm hy) J<|VT (fu:=⟨1⟩) (i:=⟨.o,1,some [.d (.v .nilFunc)],false⟩) (z:= .v .nilFunc) J (by kernel_rfl) J J J<|?_;refine aj 60 (.d (vI 2)) J J ?_;refine gx J<|?_;refine wX 12 _ J J ?_;refine Zn 11 [vI (dz 0),vI (dq 0),dl 0] rfl (fun G m=>zF) J ?_;refine lp (X:=Nat×Rat×Bool) (fun⟨t,bst,fnd⟩=>[(61, .d (vI (t:Nat))),(12, .d (vB fnd)),(11, .ov 11 0)]) (fun⟨t,bst,fnd⟩=>[(11,some (.o 101 [.d (vI (dz bst)), .d (vI (dq bst)), .d (dl bst)] true))]) (fun⟨t,bst,fnd⟩=>t<=2/\BQ bst (2*i+6*j+9000)/\(t=0->(bst,fnd)=(0,false))/\(t=1->(bst,fnd)=s9 (0,false) qx)/\(t=2->(bst,fnd)=oG qx shi)) (fun⟨t,bst,fnd⟩=>2-t) ⟨0,0,false⟩ J ⟨by omega,FQ (by omega),fun _=>J,fun e=>by omega,fun e=>by omega⟩ (fun _=>J) (fun⟨t,bst,fnd⟩ hk=>?_)
   try dsimp only at hk⊢
   obtain⟨hk2,hbb,q0,q1,q2⟩:=hk;haveI:=hbb;refine br (fu1:=⟨6⟩) J J J (fun hc62=>?_) (fun hc62=>?_)
   .
    rcases(show t=0\/t=1 by omega) with rfl|rfl
    .
     refine gx J<|ix (fu:=⟨0⟩) _ J J J<|PG (fu:=⟨6⟩) J J J J J J<|tC (ds1:=[cp f]) (ds2:=[]) J (.cons (wo hf.sm) (cH.2 J)) (cH.2 J) (Ew hf) J<|?_;refine cl J (DS (p:=f.l.at f.v.lo) (q:=p) (i:=3000) (j:=i) (by decide) (by omega)) J<|cl J (qn (p:=⟨(f.l.at f.v.lo).x-p.x,(f.l.at f.v.lo).y-p.y⟩) (q:=d) (i:=3000+i+1) (j:=j) (hp:=wm _ _) (by omega) (by omega)) J<|?_;refine cl J (qn (p:=d) (q:=d) (i:=j) (j:=j) (by omega) (by omega)) J<|cl (fu:=⟨0⟩) J (xq (p:=(⟨(f.l.at f.v.lo).x-p.x,(f.l.at f.v.lo).y-p.y⟩:aa).dot d) (q:=d.dot d) (i:=3000+i+1+j+(3000+i+1+j)+1) (j:=j+j+(j+j)+1) (h:=E' (wm _ _)) (by omega) (by omega)) J<|?_;refine aj 78 (.d (eF qx)) J (by rw[hslo];rfl) ?_;refine gx (fu:=⟨8⟩) J<|?_;refine mt 80 J ?_;refine gx J<|cl J (l8 (q:=qx) (i:=(2*i+6*j+9000)) (by omega)) J<|?_;refine cs 85 J J J (fun hg85=>?_) (fun hg85=>?_)
     .
      refine kA 88 J J J (fun hg88=>?_) (fun hg88=>?_)
      .
       refine mm 12 _ J J ?_;exact at_ ⟨0+1,qx,true⟩ (by dsimp only;exact⟨⟨by omega,by first|exact inferInstance|assumption,fun e=>by omega,fun _=>by rw[<-q0 J];exact(CH hg85 (.inl (by simpa using hg88))).symm,fun e=>by omega⟩,(by omega)⟩)
      .
       refine cl J (lv (p:=qx) (q:=bst) (i:=(2*i+6*j+9000)) (j:=(2*i+6*j+9000)) (by omega) (by omega)) J<|?_;refine br J J J (fun hc94=>?_) (fun hc94=>?_)
       .
        refine mm 12 _ J J ?_;exact at_ ⟨0+1,qx,true⟩ (by dsimp only;exact⟨⟨by omega,by first|exact inferInstance|assumption,fun e=>by omega,fun _=>by rw[<-q0 J];exact(CH hg85 (.inr hc94)).symm,fun e=>by omega⟩,(by omega)⟩)
       .
        exact at_ ⟨0+1,bst,fnd⟩ (by dsimp only;exact⟨⟨by omega,by first|exact inferInstance|assumption,fun e=>by omega,fun _=>by rw[<-q0 J];exact(Be (.inr ⟨by simpa using hg88,hc94⟩)).symm,fun e=>by omega⟩,(by omega)⟩)
     .
      exact at_ ⟨0+1,bst,fnd⟩ (by dsimp only;exact⟨⟨by omega,by first|exact inferInstance|assumption,fun e=>by omega,fun _=>by rw[<-q0 J];exact(Be (.inl hg85)).symm,fun e=>by omega⟩,(by omega)⟩)
    .
     refine gx J<|ix (fu:=⟨0⟩) _ J J J<|PG (fu:=⟨6⟩) J J J J J J<|tC (ds1:=[cp f]) (ds2:=[]) J (.cons (wo hf.sm) (cH.2 J)) (cH.2 J) (D5 hf) J<|?_;refine cl J (DS (p:=f.l.at f.v.hi) (q:=p) (i:=3000) (j:=i) (by decide) (by omega)) J<|cl J (qn (p:=⟨(f.l.at f.v.hi).x-p.x,(f.l.at f.v.hi).y-p.y⟩) (q:=d) (i:=3000+i+1) (j:=j) (hp:=wm _ _) (by omega) (by omega)) J<|?_;refine cl J (qn (p:=d) (q:=d) (i:=j) (j:=j) (by omega) (by omega)) J<|cl (fu:=⟨0⟩) J (xq (p:=(⟨(f.l.at f.v.hi).x-p.x,(f.l.at f.v.hi).y-p.y⟩:aa).dot d) (q:=d.dot d) (i:=3000+i+1+j+(3000+i+1+j)+1) (j:=j+j+(j+j)+1) (h:=E' (wm _ _)) (by omega) (by omega)) J<|?_;refine aj 78 (.d (eF shi)) J (by rw[hshi];rfl) ?_;refine gx (fu:=⟨8⟩) J<|?_;refine mt 80 J ?_;refine gx J<|cl J (l8 (q:=shi) (i:=(2*i+6*j+9000)) (by omega)) J<|?_;refine cs 85 J J J (fun hg85=>?_) (fun hg85=>?_)
     .
      refine kA 88 J J J (fun hg88=>?_) (fun hg88=>?_)
      .
       refine mm 12 _ J J ?_;exact at_ ⟨1+1,shi,true⟩ (by dsimp only;exact⟨⟨by omega,by first|exact inferInstance|assumption,fun e=>by omega,fun e=>by omega,fun _=>by rw[<-Au,<-q1 J];exact(CH hg85 (.inl (by simpa using hg88))).symm⟩,(by omega)⟩)
      .
       refine cl J (lv (p:=shi) (q:=bst) (i:=(2*i+6*j+9000)) (j:=(2*i+6*j+9000)) (by omega) (by omega)) J<|?_;refine br J J J (fun hc94=>?_) (fun hc94=>?_)
       .
        refine mm 12 _ J J ?_;exact at_ ⟨1+1,shi,true⟩ (by dsimp only;exact⟨⟨by omega,by first|exact inferInstance|assumption,fun e=>by omega,fun e=>by omega,fun _=>by rw[<-Au,<-q1 J];exact(CH hg85 (.inr hc94)).symm⟩,(by omega)⟩)
       .
        exact at_ ⟨1+1,bst,fnd⟩ (by dsimp only;exact⟨⟨by omega,by first|exact inferInstance|assumption,fun e=>by omega,fun e=>by omega,fun _=>by rw[<-Au,<-q1 J];exact(Be (.inr ⟨by simpa using hg88,hc94⟩)).symm⟩,(by omega)⟩)
     .
      exact at_ ⟨1+1,bst,fnd⟩ (by dsimp only;exact⟨⟨by omega,by first|exact inferInstance|assumption,fun e=>by omega,fun e=>by omega,fun _=>by rw[<-Au,<-q1 J];exact(Be (.inl hg85)).symm⟩,(by omega)⟩)
   .
    obtain rfl:t=2:=by omega
    exact rz J (by rw[TQ hkz hcz,<-hslo,<-hshi,<-q2 J];rfl)
theorem Fv{E:List aH}(hE: ∀f∈E,FE f)(p:aa): ∀d∈ju E p,aq d 500:=fun d hd=>by
 obtain⟨f,h3,h4⟩:=cY.1 ((C6 (Ai (fun f hf=>(hE f hf).fo.ok) p) d).1 hd);exact Mp (hE f h3) d h4
def N'(E:List aH)(p:aa):(ju E p).length<=2*E.length:=by
 have h1:=GD p E;have h2:=CS ce (E.flatMap (gp p)) [];show((E.flatMap (gp p)).foldl (fun out x=>du ce x out) []).length<=_;simp only[gV] at h2;omega
theorem Nr{f:aH}(hf:FE f){p d:aa}{i j:Nat}[hp:aq p i][hd:aq d j]:BQ (fp f p d).1 (2*i+6*j+9000):=by
 haveI:=hf.fo.lb;haveI:aq (f.l.at f.v.hi) 3000:=vJ hf.fo.lb hf.fo.hi;haveI:aq (f.l.at f.v.lo) 3000:=vJ hf.fo.lb hf.fo.lo;unfold fp;split
 ·split
  ·unfold oG
   split
   ·exact BB (by omega)
   ·split
    ·exact BB (by omega)
    ·exact FQ (by omega)
  ·exact FQ (by omega)
 ·exact BQ.mono (inferInstance:BQ (-(f.l.value p/f.l.nor.dot d)) _) (by omega)
theorem Ns{f:aH}(hf:FE f){p d:aa}{i j:Nat}[hp:aq p i][hd:aq d j]{s:Rat}(hs:BQ s (2*i+6*j+9000)):BQ (iq p d s f) (2*i+6*j+9000):=by
 unfold iq;split
 ·exact hs
 ·split
  ·split
   ·exact Nr hf
   ·exact hs
  ·exact hs
def GG{E:List aH}{p d:aa}{k:Nat}{f:aH}(h:E[k]? =some f)(s:Rat):(E.take (k+1)).foldl (iq p d) s=iq p d ((E.take k).foldl (iq p d) s) f:=by
 rw[dW,h,nZ];rfl
def Q2{L:List aa}{g:aa->aa}{k:Nat}{l:aa}(h:L[k]? =some l):(((L.take k).map g).map eZ)++[eZ (g l)]=((L.take (k+1)).map g).map eZ:=by
 rw[dW,h];simp
theorem K9{m:Nat}(hm:3<=m):BQ (1:Rat) m:=BQ.mono (k:=3) ⟨by decide,by decide⟩ hm
theorem Tp{E:List aH}(hE: ∀f∈E,FE f){p d:aa}{i j:Nat}[hp:aq p i][hd:aq d j]:aq (lm E p d) (3*i+7*j+9010):=by
 have key: ∀(E:List aH),(∀f∈E,FE f)-> ∀s,BQ s (2*i+6*j+9000)->BQ (E.foldl (iq p d) s) (2*i+6*j+9000):=by
  intro E
  induction E with
  |nil=>intro _ s h;exact h
  |cons f E ih=>intro hE s h;exact ih (fun g hg=>hE g (aJ _ hg)) _ (Ns (hE f aQ) h)
 haveI:=key E hE 1 (K9 (by omega));unfold lm;rw[<-A3];exact aq.mono (inferInstance:aq (p.add (d.scale (E.foldl (iq p d) 1*mkRat 1 2))) _) (by omega)
def YX{E:List aH}(hE: ∀f∈E,FE f)(hn:E.length<=100000){p:aa}{i:Nat}[hp:aq p i](hi:i<=20000:=by decide):PF GB prog 90 [.sl (E.map cp),eZ p] (.sl (((eO (ju E p)).map (lm E p)).map eZ)):=by
 have hml:(E.map cp).length=E.length:=aK ..;have hrl:=N' E p;obtain⟨W,hW⟩: ∃W,W=eO (ju E p):=⟨_,rfl⟩;have hWl:W.length<=(ju E p).length+1:=by rw[hW];exact Jg _
 have hWb: ∀d∈W,aq d 1001:=fun d hd=>by rw[hW] at hd;exact Ip (Fv hE p) (by decide) d hd
 have hwm:(W.map eZ).length=W.length:=aK ..;rw[<-hW];refine fn func90 J J ntmps90 J J (fun C=>?_);refine cl J (RG hE hn (p:=p) (i:=i) (by omega)) J<|cl (fu:=⟨0⟩) J (Tn (ds:=ju E p) (i:=500) (Fv hE p) (by omega)) J<|?_;refine aj 16 (.d (.sl (W.map eZ))) J (by rw[hW]) ?_;refine gx (fu:=⟨1⟩) J<|?_;refine aj 17 (.d (vI (W.length:Nat))) J (by rw[hwm]<;>rfl) ?_;refine gx J<|?_;refine nr 5 5 103 6 J J J ?_;refine lp (X:=Nat) (fun k=>[(18, .d (vI (k:Nat))),(5, .rw 5)]) (fun k=>[(5,some (.b 103 6 (((W.take k).map (lm E p)).map eZ) true))]) (fun k=>k<=W.length) (fun k=>W.length-k) 0 J (bN _) (fun _=>J) (fun k hk=>?_);have hm3:(((W.take k).map (lm E p)).map eZ).length<=k:=by rw[aK,aK,cJ];omega
 refine br J J J (fun hc19=>?_) (fun hc19=>?_)
 .
  obtain⟨d,hx⟩: ∃u,W[k]? =some u:=⟨_,aZ (by omega)⟩;haveI:=hWb d (aS hx);have hko:=hk;refine ix _ J (ee hx) J<|cl (fu:=⟨0⟩) J (yo (m:=1) (by decide)) J<|?_;refine aj 22 (.d (eF 1)) J J ?_;refine gx (fu:=⟨9⟩) J<|?_;refine aj 24 (.d (vI (E.length:Nat))) J (by rw[hml]<;>rfl) ?_;refine gx J<|?_;refine lp (X:=Nat×Rat) (fun⟨t,s⟩=>[(25, .d (vI (t:Nat))),(8, .ov 8 0)]) (fun⟨t,s⟩=>[(8,some (.o 101 [.d (vI (dz s)), .d (vI (dq s)), .d (dl s)] true))]) (fun⟨t,s⟩=>t<=E.length/\s=(E.take t).foldl (iq p d) 1/\BQ s (2*i+6*1001+9000)) (fun⟨t,s⟩=>E.length-t) ⟨0,1⟩ J ⟨bN _,J,K9 (by omega)⟩ (fun _=>J) (fun⟨t,s⟩ hk=>?_)
  try dsimp only at hk⊢
  obtain⟨g1,g2,g3⟩:=hk;haveI:=g3;refine br J J J (fun hc26=>?_) (fun hc26=>?_)
  .
   obtain⟨f,hx2⟩: ∃u,E[t]? =some u:=⟨_,aZ (by omega)⟩;have hf:=hE f (aS hx2);haveI:=Nr hf (p:=p) (d:=d) (i:=i) (j:=1001);refine ix _ J (ee hx2) J<|cl J (E8 hf (p:=p) (i:=i) (by omega)) J<|?_;refine bb J J J (fun hc31=>?_) (fun hc31=>?_)
   .
    exact at_ ⟨t+1,s⟩ (by dsimp only;exact⟨⟨by omega,by rw[GG hx2,<-g2];unfold iq;rw[if_pos hc31],g3⟩,(by omega)⟩)
   .
    refine cl J (XV hf (p:=p) (d:=d) (i:=i) (j:=1001) (by omega) (by decide)) J<|?_;refine bb J J J (fun hc39=>?_) (fun hc39=>?_)
    .
     refine cl J (Xy (p:=s) (q:=(fp f p d).1) (i:=(2*i+6*1001+9000)) (j:=(2*i+6*1001+9000)) (by omega) (by omega)) J<|?_;exact at_ ⟨t+1,if(fp f p d).1<s then(fp f p d).1 else s⟩ (by dsimp only;exact⟨⟨by omega,by rw[GG hx2,<-g2];unfold iq;simp[show gI f p=false by simpa using hc31,hc39],by have h9:=Ns hf (p:=p) (d:=d) (i:=i) (j:=1001) g3;unfold iq at h9;simpa[show gI f p=false by simpa using hc31,hc39] using h9⟩,(by omega)⟩)
    .
     exact at_ ⟨t+1,s⟩ (by dsimp only;exact⟨⟨by omega,by rw[GG hx2,<-g2];unfold iq;simp[show(fp f p d).2=false by simpa using hc39],g3⟩,(by omega)⟩)
  .
   obtain rfl:t=E.length:=by omega
   rw[dX] at g2;refine cl J (X4 (q:=s) (i:=(2*i+6*1001+9000)) (by omega)) J<|cl J (Aa (p:=d) (c:=s*mkRat 1 2) (i:=1001) (j:=(2*i+6*1001+9000)+2) (by decide) (by omega)) J<|?_;refine cl (fu:=⟨0⟩) J (B8 (p:=p) (q:=d.scale (s*mkRat 1 2)) (i:=i) (j:=1001+((2*i+6*1001+9000)+2)) (by omega) (by omega)) J<|?_;refine aj 50 (.d (eZ (lm E p d))) J (by rw[A3,g2];rfl) ?_;refine gx J<|rf J J<|ap (hv:=by simp only[ah];exact⟨by kernel_rfl,by omega⟩) (((W.take (k+1)).map (lm E p)).map eZ) J (Q2 hx) (uU [lm E p d]) J<|?_;refine gr 52 5 J ?_;exact at_ (k+1) ⟨(by omega),(by omega)⟩
 .
  obtain rfl:k=W.length:=by omega
  rw[dX];refine mf 5 J ?_;exact rz J J
def wG{W:List aa}{g:aa->Bool}{k:Nat}{d:aa}(h:W[k]? =some d):(W.take (k+1)).any g=((W.take k).any g||g d):=by
 rw[dW,h,List.any_append];simp
def vO{W:List aa}{g:aa->Bool}{k:Nat}{d:aa}(h:W[k]? =some d):(W.take (k+1)).all g=((W.take k).all g&&g d):=by
 rw[dW,h,List.all_append];simp
def P8{E:List aH}(hE: ∀f∈E,FE f)(hn:E.length<=100000){p:aa}{i:Nat}[hp:aq p i](hi:i<=20000){f:FuncId}{c2:List Value}{ds2:List DV}(hc:IsLs GB ds2 c2){acc:aa->Bool}(hF: ∀q,aq q 80000->PF GB prog f (eZ q::ds2) (vB (acc q))):PF GB prog 45 [.sl (E.map cp),eZ p, .v (.func (.func f) ⟨[]⟩ ⟨c2⟩)] (vI (uG E p acc)):=by
 obtain⟨W,hW⟩: ∃W,W=(eO (ju E p)).map (lm E p):=⟨_,rfl⟩;have hwm:(W.map eZ).length=W.length:=aK ..;have hrl:=N' E p;have hsl:=Jg (ju E p);have hWl:W.length=(eO (ju E p)).length:=by rw[hW,aK]
 have hWb: ∀q∈W,aq q 80000:=fun q hq=>by
  rw[hW] at hq;obtain⟨d,hd,rfl⟩:=bZ.1 hq;haveI:=Ip (Fv hE p) (by decide) d hd;exact(Tp hE (p:=p) (d:=d) (i:=i) (j:=1001)).mono (by omega)
 have hcl:uG E p acc=if(W.any acc&&W.all acc) then 2 else if W.any acc then 1 else 0:=by
  unfold uG;rw[hW,List.any_map,List.all_map];rfl
 refine fn func45 J J ntmps45 J J (fun C=>?_);refine cl (fu:=⟨0⟩) J (YX hE hn (p:=p) (i:=i) hi) J<|?_;refine aj 13 (.d (.sl (W.map eZ))) J (by rw[hW]) ?_;refine gx (fu:=⟨1⟩) J<|?_;refine aj 14 (.d (vI (W.length:Nat))) J (by rw[hwm]<;>rfl) ?_;refine gx J<|?_;refine wX 7 _ J J ?_;refine wX 8 _ J J ?_;refine lp (X:=Nat) (fun k=>[(15, .d (vI (k:Nat))),(7, .d (vB ((W.take k).any acc))),(8, .d (vB ((W.take k).all acc)))]) (fun k=>[]) (fun k=>k<=W.length) (fun k=>W.length-k) 0 J (bN _) (fun _=>J) (fun k hk=>?_);refine br J J J (fun hc16=>?_) (fun hc16=>?_)
 .
  obtain⟨q,hx⟩: ∃u,W[k]? =some u:=⟨_,aZ (by omega)⟩;haveI:=hWb q (aS hx);refine ix (fu:=⟨9⟩) _ J (ee hx) J<|tC (ds1:=[]) (ds2:=ds2) J (cH.2 J) hc (hF q (hWb q (aS hx))) J<|?_;refine bb J J J (fun hc21=>?_) (fun hc21=>?_)
  .
   refine mm 7 _ J J ?_;refine aj 7 (.d (vB ((W.take (k+1)).any acc))) J (by rw[wG hx,hc21,Bool.or_true]<;>rfl) ?_;refine aj 8 (.d (vB ((W.take (k+1)).all acc))) J (by rw[vO hx,hc21,Bool.and_true]<;>rfl) ?_;exact at_ (k+1) ⟨(by omega),(by omega)⟩
  .
   refine mm 8 _ J J ?_;refine aj 7 (.d (vB ((W.take (k+1)).any acc))) J (by rw[wG hx,hc21,Bool.or_false]<;>rfl) ?_;refine aj 8 (.d (vB ((W.take (k+1)).all acc))) J (by rw[vO hx,hc21,Bool.and_false]<;>rfl) ?_;exact at_ (k+1) ⟨(by omega),(by omega)⟩
 .
  obtain rfl:k=W.length:=by omega
  rw[dX];refine cl J (Yb (b:=W.any acc) (c:=W.all acc)) J<|?_;exact rz J (by rw[hcl];rfl)
def L'{C:az}{n:Nat}{Q0:Exit->Act->World->Prop}{fr:au}{own:aB}{ops:Array Oper}{r:List Oper}{K:List Kt}(k:Nat){d:DV}{pv:Value}(hl:aF fr k=some (.d (.v pv)))(hp:Is GB d pv)(h:ak prog GB C n Q0 ((k, .d d)::fr) own (.ops ops r K)):ak prog GB C n Q0 fr own (.ops ops r K):=by
 refine⟨fun ρ G ov a w r0=>?_⟩;obtain⟨y,hy,hy'⟩:=r0.fx k _ hl;obtain rfl:=(bi (G:=G)).1 hy';refine h.run ρ G ov a w ⟨r0.gb,r0.h,r0.sz,r0.df,fun j f e=>?_,r0.bx,r0.dj,r0.fxd⟩;rw[iD] at e;split at e
 ·rename_i hj
  cases e;subst hj
  exact⟨y,hy,hp.up r0.gb⟩
 ·exact r0.fx j f e
def OZ{E:List aH}(hE: ∀f∈E,FE f)(hn:E.length<=100000){fill:Int}{q:aa}{i:Nat}[hq:aq q i](hi:i<=80000):PF GB prog 43 [eZ q, .pt [vI fill], .pt [.sl (E.map cp)]] (vB (jr fill (fy E q))):=by
 refine fn (fu:=⟨3⟩) func43 J J ntmps43 J J (fun C=>?_);refine vU 1 J<|vU 2 J<|gx J<|cl J (NO hE (by omega) (p:=q) (i:=i) (by omega)) J<|cl J (Wt (fill:=fill) (n:=fy E q)) J<|?_;exact rz J J
def Gj{rs:List (List ZP)}(h: ∀r∈rs,jl r)(hn:rs.length<=200){fill:Int}(hfill:fill=1\/fill=2){p:aa}{i:Nat}[hp:aq p i](hi:i<=20000):PF GB prog 17 [.sl (rs.map ky),vI fill,i9 p] (.tp [vI (uG (bO rs) p fun q=>jr fill (fy (bO rs) q)), .v .nilIface]):=by
 have hel:=FU h hn;have hfe:=O0 fun r hr=>(h r hr).ok;refine fn func17 J J ntmps17 J J (fun C=>?_);refine cl (fu:=⟨13⟩) J (Eh h hn) J<|gw J J J<|?_;refine cs (fu2:=⟨12⟩) 23 J J J (fun hg23=>?_) (fun hg23=>?_)
 .
  refine br (fu2:=⟨5⟩) J J J (fun hc20=>?_) (fun hc20=>?_)
  .
   exact absurd hfill (by omega)
  .
   refine fz 4 J J<|fz 8 J J ?_;refine ww 4 J (fun GB1 pv1 hg1 hp1=>?_);refine ww 8 J (fun GB2 pv2 hg2 hp2=>?_);refine Pd (fu:=⟨0⟩) J J ?_;refine L' 8 J hp2<|vU 8 J<|gx J ?_;refine cl J (Cy (p:=p) (i:=i) (by omega)) J ?_;refine cl J (P8 hfe (by omega) (p:=p) (i:=i) (by omega) (f:=43) (c2:=[pv1,pv2]) (ds2:=[.pt [vI fill], .pt [.sl ((bO rs).map cp)]]) (.cons (hp1.up hg2) (.cons hp2 (cH.2 J))) (acc:=fun q=>jr fill (fy (bO rs) q)) (fun q hq=>OZ hfe (by omega) (by decide))) J ?_;exact rz J J
 .
  refine fz 4 J J<|fz 8 J J ?_;refine ww 4 J (fun GB1 pv1 hg1 hp1=>?_);refine ww 8 J (fun GB2 pv2 hg2 hp2=>?_);refine Pd (fu:=⟨0⟩) J J ?_;refine L' 8 J hp2<|vU 8 J<|gx J ?_;refine cl J (Cy (p:=p) (i:=i) (by omega)) J ?_;refine cl J (P8 hfe (by omega) (p:=p) (i:=i) (by omega) (f:=43) (c2:=[pv1,pv2]) (ds2:=[.pt [vI fill], .pt [.sl ((bO rs).map cp)]]) (.cons (hp1.up hg2) (.cons hp2 (cH.2 J))) (acc:=fun q=>jr fill (fy (bO rs) q)) (fun q hq=>OZ hfe (by omega) (by decide))) J ?_;exact rz J J
def sD:List ZP:=qe 0 0 2 2
def Jy: ∀r∈[sD],jl r:=fun r hr=>by
 rw[aV.1 hr];exact⟨KH (by decide) (by decide) (by decide) (by decide) (by decide) (by decide),by decide+kernel⟩
def Si:H4 [sD] (iP 1 1)=false:=by decide+kernel
def S2:fy (bO [sD]) (iP 1 1)=1:=by decide+kernel
def R6:uG (bO [sD]) (iP 1 0) (fun q=>jr 2 (fy (bO [sD]) q))=1:=by decide+kernel
theorem TW: ∀p∈[iP 0 0,iP 2 0,iP 2 2,iP 0 2],aq p 1200:=fun p hp=>by
 simp only[aU,lJ,or_false] at hp;rcases hp with rfl|rfl|rfl|rfl<;>exact⟨BQ.int1200 (by decide),BQ.int1200 (by decide)⟩
def D0:PF GB prog 7 [] (.v (.bool true)):=by
 haveI:aq (iP 1 1) 22:=⟨ie (by decide),ie (by decide)⟩;haveI:aq (iP 1 0) 22:=⟨ie (by decide),ie (by decide)⟩;refine fn func7 J J ntmps7 J J (fun C=>?_);refine cl J (kg (m:=0) (n:=0) (by decide) (by decide)) J<|cl J (kg (m:=2) (n:=0) (by decide) (by decide)) J<|cl J (kg (m:=2) (n:=2) (by decide) (by decide)) J<|?_;refine cl J (kg (m:=0) (n:=2) (by decide) (by decide)) J<|rf (fu:=⟨0⟩) J J<|?_;refine aj 10 (.d (.sl ([iP 0 0,iP 2 0,iP 2 2,iP 0 2].map eP))) J J ?_;refine gx J<|cl J (NF (ps:=[iP 0 0,iP 2 0,iP 2 2,iP 0 2]) TW (by decide)) J<|rf (fu:=⟨0⟩) J J<|?_;refine aj 12 (.d (.sl ([sD].map ky))) J J ?_;refine gx J<|cl J (Oe (m:=1) (n:=1) (by decide) (by decide)) J<|cl (fu:=⟨0⟩) J (Xu (rs:=[sD]) Jy (by decide) (p:=iP 1 1) (i:=22) Si (by decide)) J<|?_;refine aj 16 (.d (.tp [vI 1, .v .nilIface])) J (by rw[S2]) ?_;refine gx J<|cl J (Oe (m:=1) (n:=0) (by decide) (by decide)) J<|cl (fu:=⟨0⟩) J (Gj (rs:=[sD]) Jy (by decide) (fill:=2) (.inr J) (p:=iP 1 0) (i:=22) (by decide)) J<|?_;refine aj 22 (.d (.tp [vI 1, .v .nilIface])) J (by rw[R6]) ?_;refine gx (fu:=⟨10⟩) J<|gH (fu:=⟨2⟩) J J J<|gH (fu:=⟨3⟩) J J J<|gH (fu:=⟨3⟩) J J J<|gH J J J<|?_;exact rz J J
structure CvR (r:List ZP):Prop where
 ok:b9 r
 cen: ∃c:aa,∀f∈sf r,0<cE f.1 f.2 c
 one: ∀p,(∀f∈sf r,0<cE f.1 f.2 p)->il r p=1
 zer: ∀p,(∃f∈sf r,cE f.1 f.2 p<0)->il r p=0
 cvx: ∀f∈sf r,∀g∈sf r,0<=cE f.1 f.2 g.1/\0<=cE f.1 f.2 g.2
 onE: ∀p,(∀f∈sf r,0<=cE f.1 f.2 p)-> ∀f∈sf r,cE f.1 f.2 p=0->gz f.1 f.2 p
section
variable {r:List ZP} {p:aa}
end
def wS(x y O:Rat):Int:=(if x<=0/\ ¬y<=0/\0<O then 1 else 0)-(if¬x<=0/\y<=0/\O<0 then 1 else 0)
def RX(r:List ZP)(p:aa):Nat->Bool
 |0=>true
 |k+1=>RX r p k&&decide (0<=tK (r.getD k (0,0)).q (c6 r k).q p)
def SJ(r:List ZP)(p:aa):Nat->Bool
 |0=>false
 |k+1=>SJ r p k||decide (tK (r.getD k (0,0)).q (c6 r k).q p=0)
def UA{rs:List (List ZP)}(hr: ∀r∈rs,b9 r)(fill:Int):(fun q=>jr fill (fy (bO rs) q))=dP rs fill:=by
 funext q;rw[Ph hr];rfl
def Px{rs:List (List ZP)}(hr: ∀r∈rs,b9 r)(fill:Int)(p:aa):(uG (bO rs) p fun q=>jr fill (fy (bO rs) q))=jn (gg rs fill) p:=by
 rw[UA hr];exact Rr hr (NY (ls:=qC rs) fun l hl=>by
  obtain⟨f,hf,rfl⟩:=bZ.1 hl;exact((mF hr).2 f hf).ok) (IM hr fun f hf=>jQ hf)
def aDn{a:aa}{t:List aa}:lB (a::t) a=((0:Nat):Int):=Bd (k:=0) (q:=a) J J ⟨J,J⟩
def aso{a b c:aa}{t:List aa}(h1:a≠b)(h2:a≠c)(h3:b≠c):3<=d7 (a::b::c::t) (a::b::c::t).length:=by
 have ne: ∀{x y:aa},x≠y->(!decide (x.x=y.x/\x.y=y.y))=true:=fun{x y} h=>by
  rw[decide_eq_false (fun k=>h (by cases x;cases y;simp only[aa.mk.injEq] at*;exact k))];rfl
 have e0:=B6 (l:=a::b::c::t) (k:=0) (p:=a) J aDn;have e1:=B6 (l:=a::b::c::t) (k:=1) (p:=b) J (Bd (k:=1) (q:=b) J (by simp only[List.take,List.all_cons,List.all_nil,Bool.and_true,ne h1]) ⟨J,J⟩);have e2:=B6 (l:=a::b::c::t) (k:=2) (p:=c) J (Bd (k:=2) (q:=c) J (by simp only[List.take,List.all_cons,List.all_nil,Bool.and_true,ne h2,ne h3]) ⟨J,J⟩);have mono: ∀n m,n<=m->d7 (a::b::c::t) n<=d7 (a::b::c::t) m:=by
  intro n m h
  induction m with
  |zero=>rw[show n=0 by omega];exact aN _
  |succ m ih=>
   by_cases k:n=m+1
   ·rw[k];exact aN _
   ·exact fU (ih (by omega)) Ka
 have:=mono 3 (a::b::c::t).length (by simp);have z:d7 (a::b::c::t) 0=0:=J;rw[eJ] at e0;rw[show 1+1=2 from J] at e1;rw[show 2+1=3 from J] at e2;omega
def FI{a b c:ZP}{t:List ZP}(ho:b9 (a::b::c::t))(h1:a≠b)(h2:a≠c)(h3:b≠c):jl (a::b::c::t):=
 ⟨ho,aso (t:=t.map ZP.q) (fun e=>h1 (wH e)) (fun e=>h2 (wH e)) (fun e=>h3 (wH e))⟩
def Zp{a b c d:Int}(ho:b9 (qe a b c d))(h1:a<c)(h2:b<d):jl (qe a b c d):=
 FI ho (fun e=>by have:=congrArg Prod.fst e;dsimp only at this;omega) (fun e=>by have:=congrArg Prod.fst e;dsimp only at this;omega) (fun e=>by have:=congrArg Prod.snd e;dsimp only at this;omega)
def Q6{p u v:ZP}(ho:b9 (pG p u v))(h:po u v≠0):jl (pG p u v):=by
 have hu: ∀{a b:ZP},(a=(0,0)\/b=(0,0)\/a=b)->po a b=0:=fun{a b} k=>by
  unfold po;rcases k with rfl|rfl|rfl
  ·simp
  ·simp
  ·rw[Int.mul_comm];omega
 refine FI ho (fun e=>h (hu (.inl ?_))) (fun e=>h (hu (.inr (.inl ?_)))) (fun e=>h (hu (.inr (.inr ?_))))
 ·have e1:=congrArg Prod.fst e
  have e2:=congrArg Prod.snd e;unfold uJ at e1 e2;dsimp only at e1 e2;exact Prod.ext (by dsimp only;omega) (by dsimp only;omega)
 ·have e1:=congrArg Prod.fst e
  have e2:=congrArg Prod.snd e;unfold uJ at e1 e2;dsimp only at e1 e2;exact Prod.ext (by dsimp only;omega) (by dsimp only;omega)
 ·have e1:=congrArg Prod.fst e
  have e2:=congrArg Prod.snd e;unfold uJ at e1 e2;dsimp only at e1 e2;exact Prod.ext (by omega) (by omega)
def YH(m n:Int):eP ⟨(m:Rat),(n:Rat)⟩= .ag [.v (.bool (decide (m<0))),dN m.natAbs, .sl [], .v (.bool (decide (n<0))),dN n.natAbs, .sl []]:=by
 unfold eP dD;simp only[oX,oJ,if_true]
 try rfl
def fH(n:Int)(d:Nat):Int:=n*zv false d
def Cb(n:Int)(d:Nat):(fH n d).natAbs=n.natAbs*d:=by unfold fH;rw[iK,my]
def KP{n:Int}{d:Nat}(hd:0<d):fH n d<0↔n<0:=by
 have e:zv false d=(d:Int):=J;unfold fH;rw[e];constructor
 ·intro h
  by_cases k:n<0
  ·exact k
  ·have:=Int.mul_nonneg (a:=n) (b:=(d:Int)) (by omega) (by omega);omega
 ·intro h
  exact Int.mul_neg_of_neg_of_pos h (by omega)
def NR{n:Int}{d g:Nat}(hd:0<d):od n d g=zv (decide (fH n d<0)) ((fH n d).natAbs/g):=by
 unfold od zv;rw[Cb];by_cases h:n<0
 ·rw[if_pos h,if_pos (decide_eq_true ((KP hd).2 h))]
 ·rw[if_neg h,if_neg (by rw[decide_eq_true_eq];exact fun e=>h ((KP hd).1 e))]
def LG{v:aa}(h:v.half≠0):er v=⟨((zv (decide (fH v.x.num v.y.den<0)) ((fH v.x.num v.y.den).natAbs/e6 v):Int):Rat),((zv (decide (fH v.y.num v.x.den<0)) ((fH v.y.num v.x.den).natAbs/e6 v):Int):Rat)⟩:=by
 unfold er;rw[if_neg h,NR v.y.den_pos,NR v.x.den_pos]
def Tb{v:aa}(h:v.half≠0):0<e6 v:=by
 unfold e6;refine fL fun e=>?_;rw[sJ] at e;obtain⟨e1,e2⟩:=e;have hx:=v.x.den_pos;have hy:=v.y.den_pos;have x0:v.x.num=0:=by rcases rL.1 e1 with q|q;omega;omega
 have y0:v.y.num=0:=by rcases rL.1 e2 with q|q;omega;omega
 rw[jM] at x0 y0;rcases iE v with⟨_,q⟩|⟨_,q⟩|⟨q,_⟩
 ·rw[x0,y0] at q;grind
 ·rw[x0,y0] at q;grind
 ·exact h q
def Nq(v:aa):Nat.gcd (fH v.x.num v.y.den).natAbs (fH v.y.num v.x.den).natAbs=e6 v:=by rw[Cb,Cb];rfl
instance BN.prx (n:Int) (d i j:Nat) [h:BI n i] [k:BN d j]:BN (fH n d).natAbs (i+j):=⟨by rw[Cb,fJ];exact mZ h.h k.h⟩
theorem ZC{v:aa}{i:Nat}[hv:aq v i]:BN (e6 v) (i+i):=⟨by
 have hX:=(BN.prx v.x.num v.y.den i i).h;have hY:=(BN.prx v.y.num v.x.den i i).h;rw[<-Nq];rcases dS (fH v.x.num v.y.den).natAbs with h|h
 ·rw[h,Nat.gcd_zero_left];exact hY
 ·exact dL (rR _ h) hX⟩
def A9{v:aa}{i:Nat}[hv:aq v i](hz:v.half≠0)(hi:i<=100000:=by decide):PF GB prog 102 [eP v] (eP (er v)):=by
 have hgp:=Tb hz;haveI hgb:=ZC (v:=v) (i:=i);refine fn func102 J J ntmps102 J J (fun C=>?_);refine cl (fu:=⟨0⟩) J HW J<|gw J (by show some (decide _)=some false;rw[decide_eq_false hz]) J<|cl J iC J<|cl J (gP (neg:=false) (m:=v.y.den)) J<|?_;refine cl J (qi (a:=v.x.num) (b:=zv false v.y.den) (i:=i) (j:=i) (by omega) (by omega)) J<|cl J iC J<|cl J (gP (neg:=false) (m:=v.x.den)) J<|?_;refine cl J (qi (a:=v.y.num) (b:=zv false v.x.den) (i:=i) (j:=i) (by omega) (by omega)) J<|cl (fu:=⟨0⟩) J (C9 (a:=(fH v.x.num v.y.den).natAbs) (b:=(fH v.y.num v.x.den).natAbs) (ia:=i+i) (ib:=i+i) (by omega) (by omega)) J<|?_;refine aj 34 (.d (dN (e6 v))) J (by rw[Nq]) ?_;refine gx J<|cl J (r8 (a:=(fH v.x.num v.y.den).natAbs) (b:=e6 v) (ia:=i+i) (ib:=i+i) hgp (by omega) (by omega)) J<|cl J (r8 (a:=(fH v.y.num v.x.den).natAbs) (b:=e6 v) (ia:=i+i) (ib:=i+i) hgp (by omega) (by omega)) J<|?_;refine cl J (gP (neg:=decide ((fH v.x.num v.y.den)<0)) (m:=(fH v.x.num v.y.den).natAbs/e6 v)) J<|cl J (gP (neg:=decide ((fH v.y.num v.x.den)<0)) (m:=(fH v.y.num v.x.den).natAbs/e6 v)) J<|?_;exact rz J (by rw[LG hz,YH];rfl)
end Go.Sx
end
