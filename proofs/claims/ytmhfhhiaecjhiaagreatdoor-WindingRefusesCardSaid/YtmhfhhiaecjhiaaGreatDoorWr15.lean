import Derived.Test.YtmhfhhiaecjhiaaGreatDoorWr14
import Derived.Shelf.SlSortCmp.NoneTotal
import Derived.Test.YtmhfhhiaecjhiaaGreatDoorProg
import Derived.Shelf.SlicesQ.Reverse
set_option linter.all false
set_option maxHeartbeats 2000000
set_option maxRecDepth 100000
section
namespace Go.Sx
open Go Go.Proofs Tryz
def FM{GB:Gh}{u v:aa}{i j:Nat}[hp:aq u i][hq:aq v j](hi:i<=10000000:=by decide)(hj:j<=10000000:=by decide):PF GB prog 251 [eZ u,eZ v] (vB (decide (ck u v=0))):=by
 refine fn func251 J J ntmps251 J J (fun C=>?_);refine cl J (Le (u:=u) (v:=v) hi hj) J<|rz J J
def iA(x:aa):List aa->List aa
 |[]=>[]
 |y::l=>if ck y x=0 then iA y l else y::iA y l
def pg:List aa->List aa
 |[]=>[]
 |x::l=>x::iA x l
def vU{l:List aa}{k:Nat}{x y:aa}(h:l[k]? =some y):iA x (l.drop k)=if ck y x=0 then iA y (l.drop (k+1)) else y::iA y (l.drop (k+1)):=by
 obtain⟨h1,h2⟩:=aT.1 h;rw[bM h1,h2,iA]
def Ux{l:List aa}{k:Nat}{y:aa}(h:l[k]? =some y):l.take (k+1)=l.take k++[y]:=by
 rw[cX,h];rfl
def vZ:DV:= .ag [vI 0,vI 0, .v (.pointer none),vI 0,vI 0, .v (.pointer none)]
def Ov(l:List aa)(k:Nat)(y:aa):(l.map eZ).set k (eZ y)=(l.set k y).map eZ:=(lT ..).symm
def Ty{l:List aa}(h:l.length<2):pg l=l:=by
 cases l with
 |nil=>rfl
 |cons x l=>cases l with
  |nil=>rfl
  |cons y l=>simp at h;omega
def TH{l:List aa}{x:aa}(h:l[0]? =some x):pg l=l.take 1++iA x (l.drop 1):=by
 cases l with
 |nil=>cases h
 |cons y l=>cases h;rfl
def GA{r l:List aa}{a b:Nat}(h:a<=b)(e:r.drop a=l.drop a):r[b]? =l[b]? :=by
 have:=congrArg (·[b-a]?) e;simpa[gS,show a+(b-a)=b by omega] using this
def Xy{r l:List aa}{a b:Nat}(h:a<=b)(e:r.drop a=l.drop a):r.drop b=l.drop b:=by
 have:=congrArg (List.drop (b-a)) e;simpa[nJ,show a+(b-a)=b by omega] using this
def P0{r:List aa}{i:Nat}{u:aa}(h:i<r.length):(r.set i u).take (i+1)=r.take i++[u]:=by
 rw[cX,pZ h,qR (aM _)];rfl
def UD{r:List aa}{i:Nat}(h:i<r.length):(r.map eZ)[(i:Int).toNat]? =some (eZ r[i]):=by simp[h]
def WT{GB:Gh}{l:List aa}{i0:Nat}(hb: ∀d∈l,aq d i0)(hn:l.length<=10000000)(hi:i0<=10000000):PB GB prog 250 (gH [none,some (.v (.func (.func 251) #[] #[]))]) 6 102 (l.map eZ) (fun w=> .v (.slice w.a w.n w.c)) ((pg l).map eZ):=by
 have hml:(l.map eZ).length=l.length:=aZ ..;refine uv (fu:=⟨10⟩) func250 J J ntmps250 J J (fun C=>?_);refine ah 9 (.d (vI (l.length:Nat))) J (by rw[hml]<;>rfl)<|gx J<|br J J J (fun hc10=>?_) (fun hc10=>?_)
 .
  exact nf J J J (by rw[Ty (by omega)])
 .
  obtain⟨x0,hx0⟩: ∃x,l[0]? =some x:=⟨_,aQ (by omega)⟩;refine lp (fu:=⟨6⟩) (X:=Nat×aa) (fun⟨k,x⟩=>[(5, .d (vI (k:Nat)))]) (fun⟨k,x⟩=>[]) (fun⟨k,x⟩=>1<=k/\k<=l.length/\l[k-1]? =some x/\pg l=l.take k++iA x (l.drop k)) (fun⟨k,x⟩=>l.length-k) ⟨1,x0⟩ J ⟨aM _,by omega,hx0,by rw[TH hx0]⟩ (fun _=>J) (fun⟨k,x⟩ hk=>?_)
  try dsimp only at hk⊢
  obtain⟨h1,h2,h3,h4⟩:=hk;refine ah 14 (.d (vI (l.length:Nat))) J (by rw[hml]<;>rfl)<|gx J<|br J J J (fun hc15=>?_) (fun hc15=>?_)
  .
   obtain⟨y,hy⟩: ∃y,l[k]? =some y:=⟨_,aQ (by omega)⟩;haveI:=hb y (aW hy);haveI:=hb x (aW h3);refine lb (fu:=⟨3⟩) _ J (b8 hy) J<|ah 25 (.d (vI ((k-1:Nat):Int))) J (by rw[Int.ofNat_sub h1]<;>rfl)<|gx J<|lb (fu:=⟨0⟩) _ J (b8 h3) J<|cl J (FM (u:=y) (v:=x) hi hi) J<|bd (fu1:=⟨4⟩) J J J (fun hc28=>?_) (fun hc28=>?_)
   .
    have hc28':=hc28;refine wE k (l.length-k) J J (by omega) (by omega) J<|lp (fu:=⟨5⟩) (X:=Nat×Nat×aa×List aa) (fun⟨i,m,z,r⟩=>[(5, .d (vI (i:Nat))),(7, .d (vI (m:Nat)))]) (fun⟨i,m,z,r⟩=>[(1000000,some (.b 102 6 (r.map eZ) false))]) (fun⟨i,m,z,r⟩=>1<=m/\k+m<=l.length/\i+1<=k+m/\r.length=l.length/\r.drop (k+m-1)=l.drop (k+m-1)/\l[k+m-1]? =some z/\pg l=r.take i++iA z (l.drop (k+m))) (fun⟨i,m,z,r⟩=>l.length-m) ⟨k,1,y,l⟩ J ⟨aM _,by omega,by omega,J,J,by rw[iY];exact hy,by rw[h4,vU hy,if_pos hc28']⟩ (fun _=>J) (fun⟨i,m,z,r⟩ hk=>?_)
    try dsimp only at hk⊢
    obtain⟨g1,g2,g3,g4,g5,g6,g7⟩:=hk;have hrl:(r.map eZ).length=r.length:=aZ ..;refine G8 J J<|br (fu1:=⟨9⟩) (fu2:=⟨9⟩) J J J (fun hc35=>?_) (fun hc35=>?_)
    .
     obtain⟨u,hu⟩: ∃u,l[k+m]? =some u:=⟨_,aQ (by omega)⟩;haveI:=hb u (aW hu);haveI:=hb z (aW g6);have g8:r[k+m]? =some u:=by rw[<-hu];exact GA (by omega) g5
     have g10:r[k+m-1]? =some z:=by rw[<-g6];exact GA (aM _) g5
     have g9:r.drop (k+m)=l.drop (k+m):=Xy (by omega) g5;refine sJ (k+m) J (by omega) (by omega) (by omega) J<|lb (fu:=⟨3⟩) _ J (b8 g8) J<|sJ (k+m-1) J (by omega) (by omega) (by omega) J<|lb (fu:=⟨0⟩) _ J (b8 g10) J<|cl J (FM (u:=u) (v:=z) hi hi) J<|bb (fu1:=⟨6⟩) J J J (fun hc49=>?_) (fun hc49=>?_)
     .
      have hc49': ¬ck u z=0:=by simpa using hc49
      refine sJ (k+m) J (by omega) (by omega) (by omega) J<|lb _ J (b8 g8) J<|sb _ ((r.set i u).map eZ) J (UD (by omega)) J (by rw[<-Ov]<;>rfl) J<|at_ ⟨i+1,m+1,u,r.set i u⟩ (by dsimp only;exact⟨⟨by omega,by omega,by omega,by rw[aY];exact g4,by rw[show k+(m+1)-1=k+m by omega,lN (by omega)];exact g9,by rw[show k+(m+1)-1=k+m by omega];exact hu,by rw[g7,vU hu,if_neg hc49',P0 (by omega),dL];rfl⟩,(by omega)⟩)
     .
      have hc49':ck u z=0:=by simpa using hc49
      exact at_ ⟨i,m+1,u,r⟩ (by dsimp only;exact⟨⟨by omega,by omega,by omega,g4,by rw[show k+(m+1)-1=k+m by omega];exact g9,by rw[show k+(m+1)-1=k+m by omega];exact hu,by rw[g7,vU hu,if_pos hc49'];rfl⟩,(by omega)⟩)
    .
     obtain hm:k+m=l.length:=by omega
     refine wE i (l.length-i) J J (by omega) (by omega) J<|HB (fu:=⟨6⟩) _ J (by rw[hrl];omega) (by omega) J J<|yX ((r.take i).map eZ) i J J (by rw[aN,aS,aV,hrl];omega) (by rw[fQ (by rw[aS,hrl];omega),List.take_take,Nat.min_self,jL]) J<|?_;exact nf J J J (by rw[g7,hm,iX,iA,lW])
   .
    have hc28':=hc28;exact at_ ⟨k+1,y⟩ (by dsimp only;exact⟨⟨by omega,by omega,hy,by rw[h4,vU hy,if_neg hc28',Ux hy,dL];rfl⟩,(by omega)⟩)
  .
   exact nf J J J (by rw[h4,show k=l.length by omega,iX,iA,lW,bT])
def Tv{v:Value}(h:Go.Sx.flat v=true):v.oneCell'=true:=by cases v<;>first|rfl|cases h
def Ik{α:Type}{k:Nat}: ∀(l:List (List α)) (t:Nat),(∀x∈l,x.length=k)->t<l.length*k->l.flatten[t]? =(l[t/k]?).bind (·[t%k]?)
 |[],t,_,h=>by simp at h
 |x::l,t,h,ht=>by
  have hx:=h x aX;have hk:0<k:=by
   rcases cN k with e|e
   .subst e;simp at ht
   .exact e
  rw[kQ];by_cases q:t<k
  .rw[cZ (by omega),iM q,gQ q];rfl
  .rw[dS (by omega),hx,Ik l (t-k) (fun y hy=>h y (aK _ hy)) (by rw[bR,cS] at ht;omega)]
   have e1:t/k=(t-k)/k+1:=by rw[Nat.div_eq_sub_div hk (by omega)]
   have e2:t%k=(t-k)%k:=by rw[Nat.mod_eq_sub_mod (by omega)]
   rw[e1,e2];rfl
section
variable {α:Type} [Inhabited α]
def Qh(enc:α->List Value)(k:Nat)(hk: ∀x,(enc x).length=k)(d:Array α):(Go.Sort.flatK enc k d).toList=(d.toList.map enc).flatten:=by
 apply jN;intro t;have hlen:(d.toList.map enc).flatten.length=d.size*k:=by
  have: ∀l:List α,(l.map enc).flatten.length=l.length*k:=fun l=>by
   induction l with
   |nil=>simp
   |cons x l ih=>rw[bL,kQ,aN,ih,hk,bR,cS];omega
  simpa using this d.toList
 by_cases ht:t<d.size*k
 .have hk0:0<k:=by
   rcases cN k with e|e
   .subst e;simp at ht
   .exact e
  have hi:t/k<d.size:=Nat.div_lt_of_lt_mul (by rwa [bW]);rw[Ik (k:=k) _ _ (fun x hx=>by obtain⟨y,_,rfl⟩:=bV.1 hx;exact hk y) (by simpa using ht)];simp only[Go.Sort.flatK,mZ,Array.toList_range,fK];rw[qU ht];have hj:t%k<(enc d[t/k]).length:=by rw[hk];exact cJ _ hk0
  simp only[gL];rw[getElem!_pos d (t/k) hi,getElem!_pos (enc d[t/k]) (t%k) hj];simp[hi,hj]
 .rw[dY (by simp[Go.Sort.flatK];omega),dY (by rw[hlen];omega)]
def Iu(enc:α->List Value)(k:Nat)(w:World)(b m:Nat)(dk:Array α)(os:Array Obj){q:Nat}(hq:q<w.heap.size):
  (sortWorldK enc k w b 0 m dk os).heap[q]? =if q=b then(w.heap[q]?).map (Go.Sort.onCells (Go.Sort.putCells id 0 (Go.Sort.flatK enc k dk))) else w.heap[q]? :=by
 show((w.heap.modify b _)++os)[q]? =_;rw[fN (by simpa using hq),Array.getElem?_modify];by_cases e:b=q
 .subst e;simp
 .simp[e,Ne.symm e]
def Tn{F:Array Value}{xs rest:List Value}(h:xs.length=F.size):Go.Sort.putCells id 0 F ⟨xs++rest⟩=⟨F.toList++rest⟩:=by
 apply Array.ext';apply jN;intro k;simp only[Go.Sort.putCells,Array.toList_mapIdx,List.getElem?_mapIdx];by_cases hk:k<F.size
 .rw[cZ (by omega),cZ (by simpa using hk),aQ (by omega)]
  simp[hk]
 .rw[dS (by omega),dS (by simp;omega),h]
  simp only[fT]
  cases rest[k-F.size]? with
  |none=>rfl
  |some v=>simp[hk]
end
def ey{A:Type}(cf:A->A->Int)(ds:List A):List A:=ds.mergeSort fun x y=>!decide (cf y x<0)
def pk{A:Type}(cf:A->A->Int)(ds:List A):(ey cf ds).Perm ds:=List.mergeSort_perm ..
def BO{A:Type}{cf:A->A->Int}(hO:Go.Sort.SWO (Go.Proofs.ltOf cf))(ds:List A):(ey cf ds).Pairwise fun x y=> ¬cf y x<0:=by
 have:=List.pairwise_mergeSort (le:=fun x y=>!decide (cf y x<0)) (fun a b c h1 h2=>by
  have h1':Go.Proofs.ltOf cf b a=false:=by simpa[Go.Proofs.ltOf] using h1
  have h2':Go.Proofs.ltOf cf c b=false:=by simpa[Go.Proofs.ltOf] using h2
  have:=hO.ntrans c b a h2' h1';simpa[Go.Proofs.ltOf] using this) (fun a b=>by
  cases h1:Go.Proofs.ltOf cf b a with
  |false=>have: ¬cf b a<0:=(by simpa[Go.Proofs.ltOf] using h1);simp;omega
  |true=>
   cases h2:Go.Proofs.ltOf cf a b with
   |false=>have: ¬cf a b<0:=(by simpa[Go.Proofs.ltOf] using h2);simp;omega
   |true=>have:=hO.trans _ _ _ h1 h2;rw[hO.irrefl] at this;cases this) ds
 exact this.imp fun h=>by simpa using h
def H8{P:Program}{ρ:Go.Shelf.Ren}{GB:Gh}(L:SlLaysF0.n6 P ρ)(ha:kt P (ρ.f 6)){s:Nat}(hAg: ∀w,(isAgg (ρ.t 24)).run P w= .ok true w)(hZs: ∀w,(sizeOf (ρ.t 24)).run P w= .ok s w)
  {A:Type}(e:A->DV)(V:A->Prop)(hA: ∀x,∃l,e x= .ag l/\(DV.ag l).okc=true/\l.length=s)(cf:A->A->Int)(hO:Go.Sort.SWO (Go.Proofs.ltOf cf)){g:FuncId}(hg:kt P g)
  (hc: ∀x y,V x->V y->PF GB P g [e x,e y] (.v (.int .i64 (cf x y)))){ty:TypeId}{ds:List A}(hV: ∀x∈ds,V x)(hn:ds.length<4611686018427387904)(hu: ∀x∈ds,∀y∈ds,¬cf x y<0-> ¬cf y x<0->x=y):
  PW GB P (ρ.f 6) [none,some (.v (.func (.func g) #[] #[]))] s ty (ds.map e) (.tp []) ((ey cf ds).map e):=by
 intro G z vs B hgb hB hvs;refine⟨ha,fun w hw=>?_⟩;obtain⟨v1,m1,rfl,q1,hvs⟩:=bi.1 hvs;obtain⟨v2,m2,rfl,q2,hvs⟩:=bi.1 hvs
 cases b4.1 hvs
 rw[aH] at q1 q2;subst q1 q2;obtain⟨es,k1,k2,k3,_⟩:=hB;simp only at k1 k2 k3;have hlen:es.length=ds.length:=by rw[k2.len,aZ]
 by_cases h0:ds=[]
 .subst h0
  have hes:es=[]:=cV (by simpa using hlen);have hz:z.n=0:=by rw[k1.len,hes];rfl
  rw[hz];refine(AnyF.slices_SortFunc_none L z.a z.c _ w).mono fun r w' ⟨h1,h2⟩=>?_;subst h2;exact⟨_,asB B,G,h1,hw,ph.2 ⟨[],J, .nil⟩,es,k1.asB,by subst hes;show IsLs G ((ey cf []).map e) [];unfold ey;rw[List.mergeSort_nil];exact .nil,k3,fun h=>by cases h⟩
 .have hpos:0<es.length:=by rw[hlen];exact qL.2 h0
  rcases k1 with⟨e1,_,_⟩|⟨b,rest,lo,e1,e2,e3,e4,e5⟩
  .rw[e1] at hpos;simp at hpos
  subst e2
  -- elements with their cells
  have lift: ∀{ds:List A} {es:List Value},IsLs G (ds.map e) es->(∀x∈ds,V x)-> ∃qs:List {q:A×List Value//V q.1/\Is G (e q.1) (.agg ⟨q.2⟩)},qs.map (·.1.1)=ds/\qs.map (fun q=>Value.agg ⟨q.1.2⟩)=es:=by
   intro ds
   induction ds with
   |nil=>intro es h _;cases b4.1 h;exact⟨[],rfl,rfl⟩
   |cons x ds ih=>
    intro es h hV;obtain⟨y,n,rfl,g1,g2⟩:=bi.1 h;obtain⟨qs,g3,g4⟩:=ih g2 fun x hx=>hV x (aK _ hx);obtain⟨l,hl,_⟩:=hA x;have g1':=g1;rw[hl] at g1';obtain⟨m,rfl,_⟩:=dt.1 g1';exact⟨⟨(x,m),hV x aX,g1⟩::qs,by simp[g3],by simp[g4]⟩
  obtain⟨qs,hq1,hq2⟩:=lift k2 hV;have:Inhabited {q:A×List Value//V q.1/\Is G (e q.1) (.agg ⟨q.2⟩)}:=⟨qs.head (fun e=>by rw[e] at hq1;exact h0 hq1.symm)⟩
  let enc:{q:A×List Value//V q.1/\Is G (e q.1) (.agg ⟨q.2⟩)}->List Value:=fun q=>q.1.2
  have henc: ∀q,(enc q).length=s/\ ∀v∈enc q,Go.Sx.flat v=true:=fun q=>by
   obtain⟨l,hl,h1,h2⟩:=hA q.1.1;have h3:=q.2.2;rw[hl] at h3;obtain⟨m,hm,h4⟩:=dt.1 h3
   cases hm
   exact⟨by show q.1.2.length=s;rw[h4.len,h2],fun v hv=>h4.flat h1 v hv⟩
  have hk: ∀q,(enc q).length=s:=fun q=>(henc q).1;have hqs:qs.toArray.size=es.length:=by rw[lY,<-hq2,aZ]
  have hfl: ∀d:Array {q:A×List Value//V q.1/\Is G (e q.1) (.agg ⟨q.2⟩)},(Go.Sort.flatK enc s d).toList=bc (d.toList.map fun q=>Value.agg ⟨q.1.2⟩):=fun d=>by
   rw[Qh enc s hk];unfold bc;rw[mT];rfl
  have hfe:(Go.Sort.flatK enc s qs.toArray).toList=bc es:=by rw[hfl,<-hq2]
  have hown:=hw.hown ⟨b,bc es++rest,ty,false⟩ aX;obtain⟨hb,hGb,_,_⟩:=hown;simp only at hb hGb;have hblt:=ef hb;have hH:Go.Sort.HoldsK enc s w b 0 qs.toArray:=by
   intro j hj;refine⟨?_,by simp[World.frozen?,hb]⟩;rw[uw hb,dW];have hj':j<(bc es).length:=by rw[<-hfe];simpa using hj
   rw[cZ hj',<-hfe];show _=some ((Go.Sort.flatK enc s qs.toArray)[j]!);rw[getElem!_pos _ j hj];simp
  have hsz: ∀dk:Array {q:A×List Value//V q.1/\Is G (e q.1) (.agg ⟨q.2⟩)},dk.size=qs.toArray.size->(bc es).length=(Go.Sort.flatK enc s dk).size:=fun dk hd=>by rw[<-hfe];simp[hd]
  have hblk: ∀(m:Nat) (os:Array Obj) (dk:Array _),dk.size=qs.toArray.size->(sortWorldK enc s w b 0 m dk os).heap[b]? =some (.cells ⟨(Go.Sort.flatK enc s dk).toList++rest⟩ ty (0,0)):=fun m os dk hd=>by
   rw[Iu enc s w b m dk os hblt,if_pos J,hb];show some (Obj.cells (Go.Sort.putCells id 0 (Go.Sort.flatK enc s dk) ⟨bc es++rest⟩) ty (0,0))=_;rw[Tn (hsz dk hd)]
  have hoth: ∀(m:Nat) (os:Array Obj) (dk:Array _) (q:Nat),q<w.heap.size->q≠b->(sortWorldK enc s w b 0 m dk os).heap[q]? =w.heap[q]? :=fun m os dk q hq hne=>by rw[Iu enc s w b m dk os hq,if_neg hne]
  have hsub: ∀(m:Nat) (os:Array Obj) (dk:Array _) (c:Nat) (cs:List Value),G c=some cs-> ∃ty fz,(sortWorldK enc s w b 0 m dk os).heap[c]? =some (.cells ⟨cs⟩ ty fz):=fun m os dk c cs hcs=>by
   obtain⟨ty',fz,h⟩:=hw.sub c cs hcs;exact⟨ty',fz,by rw[hoth m os dk c (ef h) (fun e=>by subst e;rw[hGb] at hcs;cases hcs)];exact h⟩
  have hsize: ∀(m:Nat) (os:Array Obj) (dk:Array _),w.heap.size<=(sortWorldK enc s w b 0 m dk os).heap.size:=fun m os dk=>by
   show _<=((w.heap.modify b _)++os).size;simp
  have hcmp:Go.Proofs.CmpLays P g #[] enc s (fun q r=>cf q.1.1 r.1.1) b 0 qs.toArray.size w:=by
   intro m os dk _ x y;have hF:=hc x.1.1 y.1.1 x.2.1 y.2.1 G [.agg ⟨x.1.2⟩, .agg ⟨y.1.2⟩] hgb (.cons x.2.2 (.cons y.2.2 .nil));refine(hF.run _ (hsub m os dk)).mono fun r W ⟨v,G',h1,h2,h3⟩=>?_;rw[aH] at h3;subst h3;refine⟨h1,W.drawn-(sortWorldK enc s w b 0 m dk os).drawn,W.heap.extract (sortWorldK enc s w b 0 m dk os).heap.size W.heap.size,?_⟩;have hdr:=h2.dr;have hos:=h2.os;have htp:=h2.tape;have hou:=h2.output;have hkp:=h2.keep;have hss:=h2.size;simp only at hdr hos htp hou hkp hss;generalize sortWorldK enc s w b 0 m dk os=W0 at*
   cases W with
   |mk heap tape drawn os' output=>
    simp only at*;unfold Go.Sort.grow World.drewN;simp only[World.mk.injEq];refine⟨?_,htp,by omega,hos,hou⟩;apply Array.ext_getElem?;intro k;rw[Array.getElem?_append];split
    .rename_i hk';exact hkp k hk' (by simp)
    .rename_i hk'
     rw[Array.getElem?_extract];split
     .congr 1;omega
     .rw[kV (by omega)]
  have hO':Go.Sort.SWO (Go.Proofs.ltOf fun(q r:{q:A×List Value//V q.1/\Is G (e q.1) (.agg ⟨q.2⟩)})=>cf q.1.1 r.1.1):=⟨fun x=>hO.irrefl x.1.1,fun x y z=>hO.trans x.1.1 y.1.1 z.1.1,fun x y z=>hO.ntrans x.1.1 y.1.1 z.1.1⟩;have hrun:=AnyQ.slices_SortFunc L s hAg hZs enc hk (fun q v hv=>Tv ((henc q).2 v hv)) (fun q r=>cf q.1.1 r.1.1) hO' g #[] b 0 z.c qs.toArray w (fun args w=>wA hg args w) hcmp hH hblt (by rw[hqs,hlen];exact hn);have ez:z=⟨some ⟨b,0,none⟩,qs.toArray.size,z.c⟩:=by rw[hqs];exact e1
  have ea:(⟨[Value.slice z.a z.n z.c, .func (.func g) #[] #[]]⟩:Array Value)= #[.slice (some ⟨b,0,none⟩) qs.toArray.size z.c, .func (.func g) #[] #[]]:=by rw[ez]
  rw[ea];refine hrun.mono fun r w' ⟨h1,d',n,os,hp,hs,h2⟩=>?_;subst h2;have hdz:d'.size=qs.toArray.size:=hp.1;have hperm:d'.toList.Perm qs:=by
   have:=hp.2.2;have e1:d'.toList.take qs.length=d'.toList:=cW (by rw[fT,hdz];simp);simpa[e1] using this
  have hasc:d'.toList.Pairwise fun x y=> ¬cf y.1.1 x.1.1<0:=by
   rw[List.pairwise_iff_getElem];intro i j hi hj hij;have:=hs i j (bJ _) hij (by rw[<-hdz];simpa using hj);rw[getElem!_pos d' j (by simpa using hj),getElem!_pos d' i (by simpa using hi)] at this;simpa[Go.Proofs.ltOf] using this
  have hds:d'.toList.map (·.1.1)=ey cf ds:=by
   refine List.Perm.eq_of_pairwise (le:=fun x y=> ¬cf y x<0) (fun x y hx hy k1 k2=>?_) ?_ (BO hO ds) ?_
   .have m1:x∈ds:=by
     obtain⟨q,hq,rfl⟩:=bV.1 hx;rw[<-hq1];exact bV.2 ⟨q,hperm.mem_iff.1 hq,J⟩
    exact hu x m1 y ((pk cf ds).mem_iff.1 hy) k2 k1
   .rw[oN];exact hasc
   .refine(hperm.map _).trans ?_
    rw[hq1];exact(pk cf ds).symm
  have hlen':(d'.toList.map fun q=>Value.agg ⟨q.1.2⟩).length=es.length:=by rw[aZ,fT,hdz,hqs]
  have hIs: ∀l:List {q:A×List Value//V q.1/\Is G (e q.1) (.agg ⟨q.2⟩)},IsLs G ((l.map (·.1.1)).map e) (l.map fun q=>Value.agg ⟨q.1.2⟩):=fun l=>by
   induction l with
   |nil=>exact .nil
   |cons q l ih=>exact .cons q.2.2 ih
  have hcell: ∀v∈d'.toList.map (fun q=>Value.agg ⟨q.1.2⟩),(aF v).length=s:=fun v hv=>by
   obtain⟨q,_,rfl⟩:=bV.1 hv;exact hk q
  refine⟨_,[⟨b,bc (d'.toList.map fun q=>Value.agg ⟨q.1.2⟩)++rest,ty,false⟩],G,h1,?_,ph.2 ⟨[],J, .nil⟩,d'.toList.map (fun q=>Value.agg ⟨q.1.2⟩), .inr ⟨b,rest,false,by rw[hlen'];exact e1,J,fj _ hcell,?_,by rw[hlen'];exact e5⟩,by rw[<-hds];exact hIs _,hcell,fun h=>by cases h⟩
  .refine⟨J,J,J,hsize n os d',fun q hq hqm=>hoth n os d' q hq fun e=>hqm (by rw[e];exact aX),hsub n os d',ba.refl _,fun _ _=>J,fun o ho=>?_,List.pairwise_singleton _ _,?_,fun p hp=>(by cases hp)⟩
   .rw[aL.1 ho]
    exact⟨by rw[<-hfl];exact hblk n os d' hdz,hGb,(fun h=>by cases h),fun _=>aX⟩
   .show w.drawn<=w.drawn+n
    omega
  .rw[<-e4,fj _ hcell,e3,hlen']
def MV{a b c:aa}(h:dh c a):dh c b\/dh b a:=by
 by_cases h1:c.half<b.half
 .exact .inl (.inl h1)
 .by_cases h2:b.half<a.half
  .exact .inr (.inl h2)
  .rcases h with h|⟨h,k⟩
   .omega
   .have e1:c.half=b.half:=by omega
    have e2:b.half=a.half:=by omega
    by_cases q1:0<c.cross b
    .exact .inl (.inr ⟨e1,q1⟩)
    .by_cases q2:0<b.cross a
     .exact .inr (.inr ⟨e2,q2⟩)
     .exfalso
      have i1:b.y*c.cross a=a.y*c.cross b+c.y*b.cross a:=by unfold aa.cross;grind
      have i2:b.x*c.cross a=a.x*c.cross b+c.x*b.cross a:=by unfold aa.cross;grind
      have q1':c.cross b<=0:=by grind
      have q2':b.cross a<=0:=by grind
      rcases kz b with⟨eb,kb⟩|⟨eb,kb⟩|⟨eb,kb⟩<;>rcases kz a with⟨ea,ka⟩|⟨ea,ka⟩|⟨ea,ka⟩<;>rcases kz c with⟨ec,kc⟩|⟨ec,kc⟩|⟨ec,kc⟩<;>first|omega|skip
      .have ha:0<=a.y:=by grind
       have hc:0<=c.y:=by grind
       rcases kb with kb|⟨kb,kb'⟩
       .have g1:=mX ha (show 0<= -c.cross b by grind)
        have g2:=mX hc (show 0<= -b.cross a by grind);have g3:=fw kb k;grind
       .have hx:b.cross a=b.x*a.y:=by unfold aa.cross;rw[kb];grind
        have ha0:a.y=0:=by
         rcases ka with ka|ka
         .have:=fw kb' ka;grind
         .exact ka.1
        have hax:0<a.x:=by grind
        have hy:c.cross a= -(c.y*a.x):=by unfold aa.cross;rw[ha0];grind
        have:=mX hc (show 0<=a.x by grind);grind
      .have ha:0<= -a.y:=by grind
       have hc:0<= -c.y:=by grind
       rcases kb with kb|⟨kb,kb'⟩
       .have g1:=mX ha (show 0<= -c.cross b by grind)
        have g2:=mX hc (show 0<= -b.cross a by grind);have g3:=fw (show 0< -b.y by grind) k;grind
       .have hx:b.cross a=b.x*a.y:=by unfold aa.cross;rw[kb];grind
        have ha0:a.y=0:=by
         rcases ka with ka|ka
         .have:=fw (show 0< -b.x by grind) (show 0< -a.y by grind);grind
         .exact ka.1
        have hax:0< -a.x:=by grind
        have hy:c.cross a= -(c.y*a.x):=by unfold aa.cross;rw[ha0];grind
        have:=mX hc (show 0<= -a.x by grind);grind
      .have hy:c.cross a=0:=by unfold aa.cross;rw[ka.1,ka.2];grind
       rw[hy] at k;exact absurd k (by decide)
def JH:Go.Sort.SWO (Go.Proofs.ltOf ck):=by
 have e: ∀x y,Go.Proofs.ltOf ck x y=true↔dh x y:=fun x y=>by rw[<-l9];simp[Go.Proofs.ltOf]
 have e2: ∀x y,Go.Proofs.ltOf ck x y=false↔ ¬dh x y:=fun x y=>by rw[<-e];simp
 refine⟨fun x=>(e2 x x).2 (wz x),fun x y z h k=>(e x z).2 (yq ((e x y).1 h) ((e y z).1 k)),fun x y z h k=>(e2 x z).2 fun q=>?_⟩;rcases MV (b:=y) q with q|q
 .exact(e2 x y).1 h q
 .exact(e2 y z).1 k q
def Fd: ∀{l m:List aa},l.Pairwise dh->m.Pairwise dh->(∀x,x∈l↔x∈m)->l=m
 |[],[],_,_,_=>rfl
 |[],b::m,_,_,h=>absurd ((h b).2 aX) (by simp)
 |a::l,[],_,_,h=>absurd ((h a).1 aX) (by simp)
 |a::l,b::m,h1,h2,h=>by
  obtain⟨p1,p2⟩:=bZ.1 h1;obtain⟨q1,q2⟩:=bZ.1 h2;have e:a=b:=by
   rcases aR.1 ((h a).1 aX) with e|e
   .exact e
   .rcases aR.1 ((h b).2 aX) with f|f
    .exact f.symm
    .exact(Pg (q1 a e) (p1 b f)).elim
  subst e;congr 1;refine Fd p2 q2 fun x=>⟨fun hx=>?_,fun hx=>?_⟩
  .rcases aR.1 ((h x).1 (aK _ hx)) with e|e
   .subst e;exact(wz _ (p1 _ hx)).elim
   .exact e
  .rcases aR.1 ((h x).2 (aK _ hx)) with e|e
   .subst e;exact(wz _ (q1 _ hx)).elim
   .exact e
def sI(l:List aa):Prop:= ∀x∈l,∀y∈l,ck x y=0->x=y
def FA: ∀{l:List aa} {x:aa},(x::l).Pairwise (fun a b=> ¬dh b a)->sI (x::l)->(iA x l).Pairwise dh/\(∀y∈iA x l,dh x y)/\ ∀y,y∈x::iA x l↔y∈x::l
 |[],_,_,_=>⟨.nil,(fun y hy=>by cases hy),fun _=>Iff.rfl⟩
 |z::l,x,h,ht=>by
  obtain⟨p1,p2⟩:=bZ.1 h;obtain⟨i1,i2,i3⟩:=FA p2 fun a ha b hb=>ht a (aK _ ha) b (aK _ hb);rw[iA];by_cases e:ck z x=0
  .rw[if_pos e]
   obtain rfl:=ht z (by simp) x (by simp) e;exact⟨i1,i2,fun y=>by rw[i3];simp⟩
  .rw[if_neg e]
   have hb:dh x z:=by
    by_cases q:dh x z
    .exact q
    .exact absurd (Dt (p1 z aX) q) e
   refine⟨bZ.2 ⟨i2,i1⟩,fun y hy=>?_,fun y=>?_⟩
   .rcases aR.1 hy with rfl|hy
    .exact hb
    .exact yq hb (i2 y hy)
   .rw[aR,i3,aR (b:=x) (l:=z::l)]
def Sc{l:List aa}(h:l.Pairwise fun a b=> ¬dh b a)(ht:sI l):(pg l).Pairwise dh/\ ∀y,y∈pg l↔y∈l:=by
 cases l with
 |nil=>exact⟨.nil,fun _=>Iff.rfl⟩
 |cons x l=>
  obtain⟨i1,i2,i3⟩:=FA h ht;exact⟨bZ.2 ⟨i2,i1⟩,i3⟩
def TS{l:List aa}(ht:sI l)(y:aa):y∈lE l↔y∈l:=by
 have h2: ∀y,y∈lE l->y∈l:=fun y hy=>by
  rcases tf ck hy with h|h
  .exact h
  .cases h
 refine⟨h2 y,fun hy=>?_⟩;obtain⟨e,e1,e2⟩:=Df ck (o:=[]) hy;rcases e2 with rfl|e2
 .exact e1
 .rw[<-ht e (h2 e e1) y hy e2];exact e1
def S6{l:List aa}(ht:sI l):pg (ey ck l)=lE l:=by
 have hm: ∀y,y∈ey ck l↔y∈l:=fun y=>(pk ck l).mem_iff;have h1:(ey ck l).Pairwise fun a b=> ¬dh b a:=(BO JH l).imp fun h=>by rw[<-l9];exact h
 obtain⟨k1,k2⟩:=Sc h1 fun a ha b hb=>ht a ((hm a).1 ha) b ((hm b).1 hb);exact Fd k1 (Wz l) fun x=>by rw[k2,hm,TS ht]
end Go.Sx
end
section
namespace Go.Proofs
open Go.Shelf
def Tryz.sortPt_ren:Go.Shelf.Ren:=⟨fun|6=>249|15=>103|14=>265|28=>165|29=>166|20=>271|21=>272|22=>273|23=>274|24=>275|25=>276|26=>277|27=>278|46=>281|47=>218|48=>219|49=>282|50=>283|57=>284|n=>n,fun|22=>92|24=>102|25=>249|3=>3|39=>219|0=>0|53=>261|55=>255|4=>4|46=>273|45=>272|50=>247|5=>5|9=>9|66=>311|70=>315|76=>328|77=>329|n=>n,fun|n=>n⟩
def Tryz.sortPt:Go.Proofs.SlLaysF0.n6 Tryz.prog Tryz.sortPt_ren:={
 mixed:=by kernel_rfl
 f6:=⟨Tryz.f249.name,by decide,Tryz.func249.trans (congrArg some (by kernel_rfl))⟩
 f14:=⟨Tryz.f265.name,by decide,Tryz.func265.trans (congrArg some (by kernel_rfl))⟩
 f15:=Tryz.func103.trans (congrArg some (by kernel_rfl))
 f20:=⟨Tryz.f271.name,by decide,Tryz.func271.trans (congrArg some (by kernel_rfl))⟩
 f21:=⟨Tryz.f272.name,by decide,Tryz.func272.trans (congrArg some (by kernel_rfl))⟩
 f22:=⟨Tryz.f273.name,by decide,Tryz.func273.trans (congrArg some (by kernel_rfl))⟩
 f23:=⟨Tryz.f274.name,by decide,Tryz.func274.trans (congrArg some (by kernel_rfl))⟩
 f24:=⟨Tryz.f275.name,by decide,Tryz.func275.trans (congrArg some (by kernel_rfl))⟩
 f25:=⟨Tryz.f276.name,by decide,Tryz.func276.trans (congrArg some (by kernel_rfl))⟩
 f26:=⟨Tryz.f277.name,by decide,Tryz.func277.trans (congrArg some (by kernel_rfl))⟩
 f27:=⟨Tryz.f278.name,by decide,Tryz.func278.trans (congrArg some (by kernel_rfl))⟩
 f28:=Tryz.func165.trans (congrArg some (by kernel_rfl))
 f29:=Tryz.func166.trans (congrArg some (by kernel_rfl))
 f46:=⟨Tryz.f281.name,by decide,Tryz.func281.trans (congrArg some (by kernel_rfl))⟩
 f47:=Tryz.func218.trans (congrArg some (by kernel_rfl))
 f48:=Tryz.func219.trans (congrArg some (by kernel_rfl))
 f49:=⟨Tryz.f282.name,by decide,Tryz.func282.trans (congrArg some (by kernel_rfl))⟩
 f50:=⟨Tryz.f283.name,by decide,Tryz.func283.trans (congrArg some (by kernel_rfl))⟩
 f57:=⟨Tryz.f284.name,by decide,Tryz.func284.trans (congrArg some (by kernel_rfl))⟩
 t0:=Tryz.underlying0
 a0:=Tryz.isAgg0
 z0:=Tryz.sizeOf0
 v0:=Tryz.zeroValue0
 t3:=Tryz.underlying3
 a3:=Tryz.isAgg3
 z3:=Tryz.sizeOf3
 v3:=Tryz.zeroValue3
 t4:=Tryz.underlying4
 a4:=Tryz.isAgg4
 z4:=Tryz.sizeOf4
 v4:=Tryz.zeroValue4
 t5:=Tryz.underlying5
 a5:=Tryz.isAgg5
 z5:=Tryz.sizeOf5
 v5:=Tryz.zeroValue5
 t9:=Tryz.underlying9
 a9:=Tryz.isAgg9
 z9:=Tryz.sizeOf9
 v9:=Tryz.zeroValue9
 t22:=Tryz.underlying92
 a22:=Tryz.isAgg92
 z22:=Tryz.sizeOf92
 v22:=Tryz.zeroValue92
 t25:=Tryz.underlying249
 a25:=Tryz.isAgg249
 z25:=Tryz.sizeOf249
 v25:=Tryz.zeroValue249
 t39:=Tryz.underlying219
 a39:=Tryz.isAgg219
 z39:=Tryz.sizeOf219
 v39:=Tryz.zeroValue219
 t45:=Tryz.underlying272
 a45:=Tryz.isAgg272
 z45:=Tryz.sizeOf272
 v45:=Tryz.zeroValue272
 t46:=Tryz.underlying273
 a46:=Tryz.isAgg273
 z46:=Tryz.sizeOf273
 v46:=Tryz.zeroValue273
 t50:=Tryz.underlying247
 a50:=Tryz.isAgg247
 z50:=Tryz.sizeOf247
 v50:=Tryz.zeroValue247
 t53:=Tryz.underlying261
 a53:=Tryz.isAgg261
 z53:=Tryz.sizeOf261
 v53:=Tryz.zeroValue261
 t55:=Tryz.underlying255
 a55:=Tryz.isAgg255
 z55:=Tryz.sizeOf255
 v55:=Tryz.zeroValue255
 t66:=Tryz.underlying311
 a66:=Tryz.isAgg311
 z66:=Tryz.sizeOf311
 v66:=Tryz.zeroValue311
 t70:=Tryz.underlying315
 a70:=Tryz.isAgg315
 z70:=Tryz.sizeOf315
 v70:=Tryz.zeroValue315
 t76:=Tryz.underlying328
 a76:=Tryz.isAgg328
 z76:=Tryz.sizeOf328
 v76:=Tryz.zeroValue328
 t77:=Tryz.underlying329
 a77:=Tryz.isAgg329
 z77:=Tryz.sizeOf329
 v77:=Tryz.zeroValue329}
end Go.Proofs
end
section
namespace Go.Sx
open Go Go.Proofs Tryz
variable {GB:Gh}
def VY{ds:List aa}{i:Nat}(hb: ∀d∈ds,aq d i)(hi:i<=10000000)(hn:ds.length<=10000000)(ht:sI ds):PW GB prog 249 [none,some (.v (.func (.func 140) #[] #[]))] 6 102 (ds.map eZ) (.tp []) ((ey ck ds).map eZ):=
 H8 (GB:=GB) Tryz.sortPt ⟨_,func249,J,J⟩ isAgg102 sizeOf102 eZ (fun d=>aq d i) (fun x=>⟨_,J,J,J⟩) ck JH ⟨_,func140,J,J⟩ (fun x y hx hy=>Le (i:=i) (j:=i) hi hi) hb (by omega)
  (fun x hx y hy h k=>ht x hx y hy (Dt (by rw[<-l9];exact h) (by rw[<-l9];exact k)))
def Vd{ds:List aa}{i:Nat}(hb: ∀d∈ds,aq d i)(hi:i<=10000000)(hn:ds.length<=10000000)(ht:sI ds):PB GB prog 225 (gH [none]) 6 102 (ds.map eZ) (fun w=> .v (.slice w.a w.n w.c)) ((lE ds).map eZ):=by
 have hsm: ∀d∈ey ck ds,aq d i:=fun d hd=>hb d ((pk ck ds).mem_iff.1 hd);have hsl:(ey ck ds).length=ds.length:=(pk ck ds).length_eq;refine uv func225 J J ntmps225 J J (fun C=>?_);refine cw _ J (VY hb hi hn ht) J J<|cq ((lE ds).map eZ) J (WT (i0:=i) hsm (by omega) hi) (by rw[S6 ht]) J<|?_;exact nf J J J J
theorem Ia{ds:List aa}{i:Nat}(h: ∀d∈ds,aq d i)(h2:2<=i): ∀v∈fG ds,aq v (i+i+1):=fun v hv=>by
 have up: ∀{q:aa},aq q i->aq q (i+i+1):=fun hq=>⟨hq.x.mono (by omega),hq.y.mono (by omega)⟩;unfold fG at hv;split at hv
 .rw[aL] at hv
  subst hv;exact⟨BQ.mono (k:=2) ⟨by decide,by decide⟩ (by omega),BQ.mono (k:=2) ⟨by decide,by decide⟩ (by omega)⟩
 .obtain⟨k,hk,rfl⟩:=bV.1 hv
  have hk':=pQ.1 hk;have g: ∀{j:Nat},j<ds.length->aq (ds.getD j ⟨0,0⟩) i:=fun{j} hj=>by
   rw[aJ,aQ hj];exact h _ (iL hj)
  haveI:=g hk';haveI:=g (cJ (k+1) (show 0<ds.length by omega));unfold pB;split
  .exact inferInstance
  .exact up inferInstance
def IC(ds:List aa):(fG ds).length<=ds.length+1:=by
 unfold fG;split
 .simp
 .rw[aZ,kX];omega
def Ox{b c:Bool}:PF GB prog 107 [vB b,vB c] (vI (if b&&c then 2 else if b then 1 else 0)):=by
 refine fn func107 J J ntmps107 J J (fun C=>?_);refine jz 7 J J J (fun hg7=>?_) (fun hg7=>?_)
 .refine bb J J J (fun hc5=>?_) (fun hc5=>?_)
  .exact rz J (by subst hg7 hc5;rfl)
  .refine bb J J J (fun hc10=>?_) (fun hc10=>?_)
   .exact rz J (by subst hg7 hc5;rfl)
   .subst hg7;cases hc10
 .refine bb J J J (fun hc10=>?_) (fun hc10=>?_)
  .subst hg7;cases hc10
  .exact rz J (by subst hg7;rfl)
def OY{C:az}{n:Nat}{Q0:Exit->Act->World->Prop}{fr:ao}{own:aA}{ops:Array Oper}{r:List Oper}{K:List Kt}(k:Nat)(hl:aD fr k=some (.d (.ag [vI 0,vI 0, .v (.pointer none)])))(h:ak prog GB C n Q0 ((k, .d (eF 0))::fr) own (.ops ops r K)):ak prog GB C n Q0 fr own (.ops ops r K):=
 jt (g:= .d (eF 0)) hl (fun _ G y hy=>sH G y hy) h
theorem JQ{p:aa}{f:aE}(hf:FE f): ∀d∈fk p f,aq d 500:=fun d hd=>by
 haveI:=hf.fo.lb;rcases(Bm hd).2 with rfl|rfl
 .exact inferInstance
 .exact inferInstance
def uU{E:List aE}{p:aa}{k:Nat}{f:aE}(h:E[k]? =some f):(E.drop k).flatMap (fk p)=fk p f++(E.drop (k+1)).flatMap (fk p):=by
 obtain⟨hk,e⟩:=aT.1 h;rw[bM hk,e,pJ]
def Vw(p:aa)(f:aE):(fk p f).length<=2:=by
 unfold fk
 repeat' split
 all_goals simp
def C4(p:aa): ∀E:List aE,(E.flatMap (fk p)).length<=2*E.length
 |[]=>aM _
 |f::E=>by
  have:=C4 p E;have:=Vw p f;rw[pJ,aN,bR];omega
def Ry{p:aa}{f:aE}(h:fC f p=false):fk p f=[]:=by unfold fk;rw[h];rfl
def xS{p:aa}{f:aE}(hf:FE f)(h:fC f p=true):fk p f=(if bG (du f.l p) f.v.hi<0 then [cv f.l.dir] else [])++(if 0<bG (du f.l p) f.v.lo then [dn (cv f.l.dir)] else []):=by
 unfold fk Ex KA;rw[if_pos h,hf.nl,hf.nh];simp only[Bool.false_or,decide_eq_true_eq]
def QQ{E:List aE}(hE: ∀f∈E,FE f)(hn:E.length<=100000){p:aa}{i:Nat}[hp:aq p i](hi:i<=100000:=by decide):PF GB prog 170 [.sl (E.map bF),eZ p] (.sl ((jg E p).map eZ)):=by
 have hml:(E.map bF).length=E.length:=aZ ..;have hrl:=C4 p E;refine fn (fu:=⟨16⟩) func170 J J ntmps170 J J (fun C=>?_);refine ah 11 (.d (vI (E.length:Nat))) J (by rw[hml]<;>rfl)<|gx J<|nr 5 5 102 6 J J J<|lp (X:=List aa×Nat) (fun⟨acc,k⟩=>[(12, .d (vI (k:Nat))),(5, .rw 5)]) (fun⟨acc,k⟩=>[(5,some (.b 102 6 (acc.map eZ) true))]) (fun⟨acc,k⟩=>acc++(E.drop k).flatMap (fk p)=E.flatMap (fk p)/\k<=E.length) (fun⟨acc,k⟩=>E.length-k) ⟨[],0⟩ J ⟨by simp,bJ _⟩ (fun _=>J) (fun⟨acc,k⟩ hk=>?_)
 try dsimp only at hk⊢
 obtain⟨h1,h2⟩:=hk;have hal:acc.length<=2*E.length:=by
  have q1:=congrArg List.length h1;rw[aN] at q1;omega
 have ham:(acc.map eZ).length=acc.length:=aZ ..;refine br J J J (fun hc13=>?_) (fun hc13=>?_)
 .
  obtain⟨f,hx⟩: ∃u,E[k]? =some u:=⟨_,aQ (by omega)⟩;have hf:=hE f (aW hx);haveI:=hf.fo.lb;haveI:=hf.fo.lo;haveI:=hf.fo.hi;haveI:=xn (p:=p) (i:=i) hf.fo.lb;refine ix _ J (b8 hx) J<|cl J (HW hf (p:=p) (i:=i) hi) J<|bb J J J (fun hc19=>?_) (fun hc19=>?_)
  .
   exact at_ ⟨acc,k+1⟩ (by dsimp only;exact⟨⟨by rw[<-h1,uU hx,Ry (by simpa using hc19)];simp,by omega⟩,(by omega)⟩)
  .
   have hha:fC f p=true:=by simpa using hc19
   refine cl J (qI (l:=f.l) (p:=p) (i:=i) (by omega)) J<|cl J (ya (l:=f.l)) J<|cl (fu:=⟨12⟩) J (Qn (p:=f.l.dir) (i:=97)) J<|ah 30 (.d (vB false)) J (by rw[hf.nh]<;>rfl)<|oF 30 J<|gx (fu:=⟨0⟩) J<|?_;rcases Classical.em (bG (du f.l p) f.v.hi<0) with hA|hA
   .
    refine gx J<|cl (fu:=⟨0⟩) J (f7 (p:=du f.l p) (q:=f.v.hi) (i:=2*i+600) (j:=1200) (by omega) (by decide)) J<|ic J (by show some (decide _)=some true;rw[decide_eq_true (by omega)]) J<|rf J J<|ap (fu:=⟨8⟩) ((acc++[cv f.l.dir]).map eZ) J (by rw[cK]<;>rfl) (lj [cv f.l.dir]) J<|ah 45 (.d (vB false)) J (by rw[hf.nl]<;>rfl)<|oF 45 J<|gx J<|cl J (f7 (p:=du f.l p) (q:=f.v.lo) (i:=2*i+600) (j:=1200) (by omega) (by decide)) J<|br J J J (fun hc53=>?_) (fun hc53=>?_)
    .
     refine cl J (J6 (p:=cv f.l.dir) (i:=500)) J<|rf J J<|ap ((acc++[cv f.l.dir]++[dn (cv f.l.dir)]).map eZ) J (by simp only[cK,dL,iS,jV]<;>rfl) (lj [dn (cv f.l.dir)]) J<|d4 58 5 J<|at_ ⟨acc++[cv f.l.dir]++[dn (cv f.l.dir)],k+1⟩ (by dsimp only;exact⟨⟨by rw[<-h1,uU hx,xS hf hha,if_pos hA,if_pos (by omega)];simp,by omega⟩,(by omega)⟩)
    .
     refine d4 42 5 J<|at_ ⟨acc++[cv f.l.dir],k+1⟩ (by dsimp only;exact⟨⟨by rw[<-h1,uU hx,xS hf hha,if_pos hA,if_neg (by omega)];simp,by omega⟩,(by omega)⟩)
   .
    refine gx J<|cl (fu:=⟨0⟩) J (f7 (p:=du f.l p) (q:=f.v.hi) (i:=2*i+600) (j:=1200) (by omega) (by decide)) J<|dq (fu:=⟨11⟩) J (by show some (decide _)=some false;rw[decide_eq_false (by omega)]) J<|ah 45 (.d (vB false)) J (by rw[hf.nl]<;>rfl)<|oF 45 J<|gx J<|cl J (f7 (p:=du f.l p) (q:=f.v.lo) (i:=2*i+600) (j:=1200) (by omega) (by decide)) J<|br J J J (fun hc53=>?_) (fun hc53=>?_)
    .
     refine cl J (J6 (p:=cv f.l.dir) (i:=500)) J<|rf J J<|ap ((acc++[dn (cv f.l.dir)]).map eZ) J (by simp only[cK,dL,iS,jV]<;>rfl) (lj [dn (cv f.l.dir)]) J<|d4 58 5 J<|at_ ⟨acc++[dn (cv f.l.dir)],k+1⟩ (by dsimp only;exact⟨⟨by rw[<-h1,uU hx,xS hf hha,if_neg hA,if_pos (by omega)];simp,by omega⟩,(by omega)⟩)
    .
     exact at_ ⟨acc,k+1⟩ (by dsimp only;exact⟨⟨by rw[<-h1,uU hx,xS hf hha,if_neg hA,if_neg (by omega)];simp,by omega⟩,(by omega)⟩)
 .
  obtain rfl:k=E.length:=by omega
  have hacc:acc=E.flatMap (fk p):=by rw[iX] at h1;simpa using h1
  refine cq ((jg E p).map eZ) rfl (Vd (ds:=acc) (i:=500) (fun d hd=>by rw[hacc] at hd;obtain⟨f,h3,h4⟩:=mK.1 hd;exact JQ (hE f h3) d h4) (by decide) (by omega) (by rw[hacc];exact Ic (fun f hf=>(hE f hf).fo.ok) p)) (by rw[hacc]<;>rfl) rfl<|gO 61 rfl<|rz J J
def xH(p d:aa)(s:Rat):p.add (d.scale s)=eh p d s:=by
 unfold aa.add aa.scale eh;simp only[aa.mk.injEq];constructor<;>grind
def o4(x:Rat×Bool)(s:Rat):Rat×Bool:=if 0<Int.sign s.num/\(x.2=false\/bG s x.1<0) then(s,true) else x
def wZ(a b:Rat):o4 (o4 (0,false) a) b=si a b:=by
 unfold o4 si;by_cases ha:0<Int.sign a.num
 .simp only[ha,true_and,not_true_eq_false,false_or]
  simp
 .simp only[ha,false_and,if_false,not_false_eq_true,true_or,and_true]
def yD{b s:Rat}{x:Bool}(h:0<Int.sign s.num)(k:x=false\/bG s b<0):o4 (b,x) s=(s,true):=by unfold o4;rw[if_pos ⟨h,k⟩]
def xd{b s:Rat}{x:Bool}(h: ¬0<Int.sign s.num\/(x=true/\ ¬bG s b<0)):o4 (b,x) s=(b,x):=by
 unfold o4;rw[if_neg];rintro ⟨h1,h2⟩;rcases h with h|⟨h,k⟩
 .exact h h1
 .rcases h2 with e|e
  .rw[h] at e;cases e
  .exact k e
theorem zy{m:Nat}(hm:1<=m:=by omega):BQ (0:Rat) m:=BQ.mono (k:=1) ⟨by decide,by decide⟩ hm
theorem AY{p q:aa}{i j:Nat}(hp:aq p i)[aq q j]:BQ (p.dot q) (i+j+(i+j)+1):=by
 haveI:=hp;exact inferInstance
theorem yG{p d q:aa}{i j m:Nat}[aq p i][aq d j][aq q 3000](hm:2*i+6*j+6100<=m:=by omega):BQ (o3 p d q) m:=by
 haveI:=AY (q:=d) (qA q p (i:=3000) (j:=i));have h:BQ ((⟨q.x-p.x,q.y-p.y⟩:aa).dot d/d.dot d) _:=inferInstance;exact BQ.mono (show BQ (o3 p d q) _ from h) (by omega)
def KN{f:aE}{p d:aa}(h:f.l.nor.dot d≠0):gu f p d=(-(f.l.value p/f.l.nor.dot d),decide (0<Int.sign (-(f.l.value p/f.l.nor.dot d)).num)&&lc f.v (du f.l (eh p d (-(f.l.value p/f.l.nor.dot d))))):=by unfold gu;rw[if_neg h]
def NI{f:aE}{p d:aa}(h:f.l.nor.dot d=0)(k:f.l.value p=0):gu f p d=si (o3 p d (f.l.at f.v.lo)) (o3 p d (f.l.at f.v.hi)):=by unfold gu;rw[if_pos h,if_pos k]
def Ni{f:aE}{p d:aa}(h:f.l.nor.dot d=0)(k:f.l.value p≠0):gu f p d=(0,false):=by unfold gu;rw[if_pos h,if_neg k]
def MH{f:aE}(hf:FE f){p d:aa}{i j:Nat}[hp:aq p i][hd:aq d j](hi:i<=30000:=by decide)(hj:j<=10000:=by decide):PF GB prog 171 [bF f,eZ p,eZ d] (.tp [eF (gu f p d).1,vB (gu f p d).2]):=by
 haveI:=hf.fo.lb;haveI:=hf.fo.lo;haveI:=hf.fo.hi;obtain⟨k0,hk0⟩: ∃k0,k0=f.l.nor.dot d:=⟨_,rfl⟩;obtain⟨c0,hc0⟩: ∃c0,c0=f.l.value p:=⟨_,rfl⟩;haveI:BQ k0 (2*j+600):=by rw[hk0];exact BQ.mono (inferInstance:BQ (f.l.nor.dot d) _) (by omega)
 haveI:BQ c0 (2*i+900):=by rw[hc0];exact BQ.mono (inferInstance:BQ (f.l.value p) _) (by omega)
 obtain⟨s,hs⟩: ∃s,s= -(c0/k0):=⟨_,rfl⟩;haveI:BQ (c0/k0) (2*i+2*j+1500):=BQ.mono (inferInstance:BQ (c0/k0) _) (by omega);haveI:BQ s (2*i+2*j+1500):=by rw[hs];exact inferInstance
 haveI:aq (eh p d s) (3*i+3*j+1600):=by rw[<-xH];exact aq.mono (inferInstance:aq (p.add (d.scale s)) _)
 obtain⟨oc,hslo⟩: ∃s,s=o3 p d (f.l.at f.v.lo):=⟨_,rfl⟩;obtain⟨shi,hshi⟩: ∃s,s=o3 p d (f.l.at f.v.hi):=⟨_,rfl⟩;haveI:aq (f.l.at f.v.hi) 3000:=se hf.fo.lb hf.fo.hi;haveI:aq (f.l.at f.v.lo) 3000:=se hf.fo.lb hf.fo.lo;haveI:BQ oc (2*i+6*j+9000):=by rw[hslo];exact yG
 haveI:BQ shi (2*i+6*j+9000):=by rw[hshi];exact yG
 haveI:BQ f.v.lo (6*i+6*j+4000):=hf.fo.lo.mono (by omega);haveI:BQ f.v.hi (6*i+6*j+4000):=hf.fo.hi.mono (by omega);haveI:BQ (du f.l (eh p d s)) (6*i+6*j+4000):=(xn (p:=eh p d s) (i:=3*i+3*j+1600) hf.fo.lb).mono (by omega);refine fn func171 J J ntmps171 J J (fun C=>?_);refine cl J (C5 (l:=f.l)) J<|cl (fu:=⟨0⟩) J (ld (p:=f.l.nor) (q:=d) (i:=97) (j:=j) (by decide) (by omega)) J<|ah 22 (.d (eF k0)) J (by rw[hk0])<|gx J<|cl (fu:=⟨0⟩) J (D2 (l:=f.l) (p:=p) (i:=i) (by omega)) J<|ah 26 (.d (eF c0)) J (by rw[hc0])<|gx J<|cl J (sr (q:=k0)) J<|bb J J J (fun hc29=>?_) (fun hc29=>?_)
 .
  have hkn:f.l.nor.dot d≠0:=by rw[<-hk0];simpa using hc29
  refine cl J (uX (p:=c0) (q:=k0) (i:=2*i+900) (j:=2*j+600) (by omega) (by omega)) J<|cl (fu:=⟨0⟩) J (kA (q:=c0/k0) (i:=2*i+2*j+1500) (by omega)) J<|ah 33 (.d (eF s)) J (by rw[hs])<|gx J<|cl (fu:=⟨0⟩) J (ij (q:=s) (i:=2*i+2*j+1500) (by omega)) J<|tq (v2:=fun hg37=>by simp only[aj];kernel_rfl) J J J J (fun hg37=>?_) (fun hg37=>?_)
  .
   refine cl J (ug (p:=d) (c:=s) (i:=j) (j:=2*i+2*j+1500) (by omega) (by omega)) J<|cl (fu:=⟨0⟩) J (wv (p:=p) (q:=d.scale s) (i:=i) (j:=j+(2*i+2*j+1500)) (by omega) (by omega)) J<|ah 47 (.d (eZ (eh p d s))) J (by rw[xH])<|gx J<|cl J (qI (l:=f.l) (p:=eh p d s) (i:=3*i+3*j+1600) (by omega)) J<|cl J (Km (v:=f.v) (t:=du f.l (eh p d s)) (i:=6*i+6*j+4000) (by omega)) J<|rz J (by rw[KN hkn,<-hk0,<-hc0,<-hs];show DV.tp [_, .v (.bool _)]= .tp [_, .v (.bool _)];simp only[hg37,decide_true,Bool.true_and];rfl)
  .
   exact rz J (by rw[KN hkn,<-hk0,<-hc0,<-hs];show DV.tp [_, .v (.bool _)]= .tp [_, .v (.bool _)];simp only[hg37,decide_false,Bool.false_and];rfl)
 .
  have hkz:f.l.nor.dot d=0:=by rw[<-hk0];simpa using hc29
  refine cl J (sr (q:=c0)) J<|bb (fu1:=⟨3⟩) (fu2:=⟨16⟩) J J J (fun hc53=>?_) (fun hc53=>?_)
  .
   have hcn:f.l.value p≠0:=by rw[<-hc0];simpa using hc53
   refine OY 54 J<|gx J<|rz J (by rw[Ni hkz hcn];rfl)
  .
   have hcz:f.l.value p=0:=by rw[<-hc0];simpa using hc53
   refine tj (fu:=⟨1⟩) (yt f) J (fun G y hy=>GD hf.sm hy) J<|tj (fu:=⟨0⟩) (yt f) J (fun G y hy=>GD hf.sm hy) J<|MF (fu:=⟨1⟩) (i:=⟨.o,1,some [.d (.v .nilFunc)],false⟩) (z:= .v .nilFunc) J (by kernel_rfl) J J J<|ah 60 (.d (vI 2)) J J<|gx J<|BC 12 _ J J<|OU 11 [vI (bO 0),vI (bH 0),cO 0] rfl (fun G m=>zF) J<|lp (X:=Nat×Rat×Bool) (fun⟨t,bst,fnd⟩=>[(61, .d (vI (t:Nat))),(12, .d (vB fnd)),(11, .ov 11 0)]) (fun⟨t,bst,fnd⟩=>[(11,some (.o 100 [.d (vI (bO bst)), .d (vI (bH bst)), .d (cO bst)] true))]) (fun⟨t,bst,fnd⟩=>t<=2/\BQ bst (2*i+6*j+9000)/\(t=0->(bst,fnd)=(0,false))/\(t=1->(bst,fnd)=o4 (0,false) oc)/\(t=2->(bst,fnd)=si oc shi)) (fun⟨t,bst,fnd⟩=>2-t) ⟨0,0,false⟩ J ⟨by omega,zy,fun _=>J,fun e=>by omega,fun e=>by omega⟩ (fun _=>J) (fun⟨t,bst,fnd⟩ hk=>?_)
   try dsimp only at hk⊢
   obtain⟨hk2,hbb,q0,q1,q2⟩:=hk;haveI:=hbb;refine br (fu1:=⟨6⟩) J J J (fun hc62=>?_) (fun hc62=>?_)
   .
    rcases(show t=0\/t=1 by omega) with rfl|rfl
    .
     refine gx J<|ix (fu:=⟨0⟩) _ J J J<|JK (fu:=⟨6⟩) J J J J J J<|pp (ds1:=[bF f]) (ds2:=[]) J (.cons (DZ hf.sm) (b4.2 J)) (b4.2 J) (RH hf) J<|cl J (xG (p:=f.l.at f.v.lo) (q:=p) (i:=3000) (j:=i) (by decide) (by omega)) J<|cl J (ld (p:=⟨(f.l.at f.v.lo).x-p.x,(f.l.at f.v.lo).y-p.y⟩) (q:=d) (i:=3000+i+1) (j:=j) (hp:=qA _ _) (by omega) (by omega)) J<|cl J (ld (p:=d) (q:=d) (i:=j) (j:=j) (by omega) (by omega)) J<|cl (fu:=⟨0⟩) J (uX (p:=(⟨(f.l.at f.v.lo).x-p.x,(f.l.at f.v.lo).y-p.y⟩:aa).dot d) (q:=d.dot d) (i:=3000+i+1+j+(3000+i+1+j)+1) (j:=j+j+(j+j)+1) (h:=AY (qA _ _)) (by omega) (by omega)) J<|ah 78 (.d (eF oc)) J (by rw[hslo];rfl)<|gx (fu:=⟨8⟩) J<|fy 80 J<|gx J<|cl J (ij (q:=oc) (i:=(2*i+6*j+9000)) (by omega)) J<|cs 85 J J J (fun hg85=>?_) (fun hg85=>?_)
     .
      refine jz 88 J J J (fun hg88=>?_) (fun hg88=>?_)
      .
       refine sF 12 _ J J<|at_ ⟨0+1,oc,true⟩ (by dsimp only;exact⟨⟨by omega,by first|exact inferInstance|assumption,fun e=>by omega,fun _=>by rw[<-q0 J];exact(yD hg85 (.inl (by simpa using hg88))).symm,fun e=>by omega⟩,(by omega)⟩)
      .
       refine cl J (f7 (p:=oc) (q:=bst) (i:=(2*i+6*j+9000)) (j:=(2*i+6*j+9000)) (by omega) (by omega)) J<|br J J J (fun hc94=>?_) (fun hc94=>?_)
       .
        refine sF 12 _ J J<|at_ ⟨0+1,oc,true⟩ (by dsimp only;exact⟨⟨by omega,by first|exact inferInstance|assumption,fun e=>by omega,fun _=>by rw[<-q0 J];exact(yD hg85 (.inr hc94)).symm,fun e=>by omega⟩,(by omega)⟩)
       .
        exact at_ ⟨0+1,bst,fnd⟩ (by dsimp only;exact⟨⟨by omega,by first|exact inferInstance|assumption,fun e=>by omega,fun _=>by rw[<-q0 J];exact(xd (.inr ⟨by simpa using hg88,hc94⟩)).symm,fun e=>by omega⟩,(by omega)⟩)
     .
      exact at_ ⟨0+1,bst,fnd⟩ (by dsimp only;exact⟨⟨by omega,by first|exact inferInstance|assumption,fun e=>by omega,fun _=>by rw[<-q0 J];exact(xd (.inl hg85)).symm,fun e=>by omega⟩,(by omega)⟩)
    .
     refine gx J<|ix (fu:=⟨0⟩) _ J J J<|JK (fu:=⟨6⟩) J J J J J J<|pp (ds1:=[bF f]) (ds2:=[]) J (.cons (DZ hf.sm) (b4.2 J)) (b4.2 J) (U5 hf) J<|cl J (xG (p:=f.l.at f.v.hi) (q:=p) (i:=3000) (j:=i) (by decide) (by omega)) J<|cl J (ld (p:=⟨(f.l.at f.v.hi).x-p.x,(f.l.at f.v.hi).y-p.y⟩) (q:=d) (i:=3000+i+1) (j:=j) (hp:=qA _ _) (by omega) (by omega)) J<|cl J (ld (p:=d) (q:=d) (i:=j) (j:=j) (by omega) (by omega)) J<|cl (fu:=⟨0⟩) J (uX (p:=(⟨(f.l.at f.v.hi).x-p.x,(f.l.at f.v.hi).y-p.y⟩:aa).dot d) (q:=d.dot d) (i:=3000+i+1+j+(3000+i+1+j)+1) (j:=j+j+(j+j)+1) (h:=AY (qA _ _)) (by omega) (by omega)) J<|ah 78 (.d (eF shi)) J (by rw[hshi];rfl)<|gx (fu:=⟨8⟩) J<|fy 80 J<|gx J<|cl J (ij (q:=shi) (i:=(2*i+6*j+9000)) (by omega)) J<|cs 85 J J J (fun hg85=>?_) (fun hg85=>?_)
     .
      refine jz 88 J J J (fun hg88=>?_) (fun hg88=>?_)
      .
       refine sF 12 _ J J<|at_ ⟨1+1,shi,true⟩ (by dsimp only;exact⟨⟨by omega,by first|exact inferInstance|assumption,fun e=>by omega,fun e=>by omega,fun _=>by rw[<-wZ,<-q1 J];exact(yD hg85 (.inl (by simpa using hg88))).symm⟩,(by omega)⟩)
      .
       refine cl J (f7 (p:=shi) (q:=bst) (i:=(2*i+6*j+9000)) (j:=(2*i+6*j+9000)) (by omega) (by omega)) J<|br J J J (fun hc94=>?_) (fun hc94=>?_)
       .
        refine sF 12 _ J J<|at_ ⟨1+1,shi,true⟩ (by dsimp only;exact⟨⟨by omega,by first|exact inferInstance|assumption,fun e=>by omega,fun e=>by omega,fun _=>by rw[<-wZ,<-q1 J];exact(yD hg85 (.inr hc94)).symm⟩,(by omega)⟩)
       .
        exact at_ ⟨1+1,bst,fnd⟩ (by dsimp only;exact⟨⟨by omega,by first|exact inferInstance|assumption,fun e=>by omega,fun e=>by omega,fun _=>by rw[<-wZ,<-q1 J];exact(xd (.inr ⟨by simpa using hg88,hc94⟩)).symm⟩,(by omega)⟩)
     .
      exact at_ ⟨1+1,bst,fnd⟩ (by dsimp only;exact⟨⟨by omega,by first|exact inferInstance|assumption,fun e=>by omega,fun e=>by omega,fun _=>by rw[<-wZ,<-q1 J];exact(xd (.inl hg85)).symm⟩,(by omega)⟩)
   .
    obtain rfl:t=2:=by omega
    exact rz J (by rw[NI hkz hcz,<-hslo,<-hshi,<-q2 J];rfl)
theorem CG{E:List aE}(hE: ∀f∈E,FE f)(p:aa): ∀d∈jg E p,aq d 500:=fun d hd=>by
 obtain⟨f,h3,h4⟩:=mK.1 ((TY (Ic (fun f hf=>(hE f hf).fo.ok) p) d).1 hd);exact JQ (hE f h3) d h4
def I8(E:List aE)(p:aa):(jg E p).length<=2*E.length:=by
 have h1:=C4 p E;have h2:=Cp ck (E.flatMap (fk p)) [];show((E.flatMap (fk p)).foldl (fun out x=>de ck x out) []).length<=_;simp only[kJ] at h2;omega
theorem GC{f:aE}(hf:FE f){p d:aa}{i j:Nat}[hp:aq p i][hd:aq d j]:BQ (gu f p d).1 (2*i+6*j+9000):=by
 haveI:=hf.fo.lb;haveI:aq (f.l.at f.v.hi) 3000:=se hf.fo.lb hf.fo.hi;haveI:aq (f.l.at f.v.lo) 3000:=se hf.fo.lb hf.fo.lo;unfold gu;split
 .split
  .unfold si
   split
   .exact yG
   .split
    .exact yG
    .exact zy
  .exact zy
 .exact BQ.mono (inferInstance:BQ (-(f.l.value p/f.l.nor.dot d)) _) (by omega)
theorem Fw{f:aE}(hf:FE f){p d:aa}{i j:Nat}[hp:aq p i][hd:aq d j]{s:Rat}(hs:BQ s (2*i+6*j+9000)):BQ (jO p d s f) (2*i+6*j+9000):=by
 unfold jO;split
 .exact hs
 .split
  .split
   .exact GC hf
   .exact hs
  .exact hs
def zZ{E:List aE}{p d:aa}{k:Nat}{f:aE}(h:E[k]? =some f)(s:Rat):(E.take (k+1)).foldl (jO p d) s=jO p d ((E.take k).foldl (jO p d) s) f:=by
 rw[cX,h,List.foldl_append];rfl
def QU{L:List aa}{g:aa->aa}{k:Nat}{l:aa}(h:L[k]? =some l):(((L.take k).map g).map eZ)++[eZ (g l)]=((L.take (k+1)).map g).map eZ:=by
 rw[cX,h];simp
theorem DW{m:Nat}(hm:3<=m:=by omega):BQ (1:Rat) m:=BQ.mono (k:=3) ⟨by decide,by decide⟩ hm
theorem Vb{E:List aE}(hE: ∀f∈E,FE f){p d:aa}{i j:Nat}[hp:aq p i][hd:aq d j]:aq (kw E p d) (3*i+7*j+9010):=by
 have key: ∀(E:List aE),(∀f∈E,FE f)-> ∀s,BQ s (2*i+6*j+9000)->BQ (E.foldl (jO p d) s) (2*i+6*j+9000):=by
  intro E
  induction E with
  |nil=>intro _ s h;exact h
  |cons f E ih=>intro hE s h;exact ih (fun g hg=>hE g (aK _ hg)) _ (Fw (hE f aX) h)
 haveI:=key E hE 1 (DW);unfold kw;rw[<-xH];exact aq.mono (inferInstance:aq (p.add (d.scale (E.foldl (jO p d) 1*mkRat 1 2))) _)
def Rz{E:List aE}(hE: ∀f∈E,FE f)(hn:E.length<=100000){p:aa}{i:Nat}[hp:aq p i](hi:i<=20000:=by decide):PF GB prog 106 [.sl (E.map bF),eZ p] (.sl (((fG (jg E p)).map (kw E p)).map eZ)):=by
 have hml:(E.map bF).length=E.length:=aZ ..;have hrl:=I8 E p;obtain⟨W,hW⟩: ∃W,W=fG (jg E p):=⟨_,rfl⟩;have hWl:W.length<=(jg E p).length+1:=by rw[hW];exact IC _
 have hWb: ∀d∈W,aq d 1001:=fun d hd=>by rw[hW] at hd;exact Ia (CG hE p) (by decide) d hd
 have hwm:(W.map eZ).length=W.length:=aZ ..;rw[<-hW];refine fn func106 J J ntmps106 J J (fun C=>?_);refine cl J (QQ hE hn (p:=p) (i:=i) (by omega)) J<|cl (fu:=⟨0⟩) J (NU (ds:=jg E p) (i:=500) (CG hE p) (by omega)) J<|ah 16 (.d (.sl (W.map eZ))) J (by rw[hW])<|gx (fu:=⟨1⟩) J<|ah 17 (.d (vI (W.length:Nat))) J (by rw[hwm]<;>rfl)<|gx J<|nr 5 5 102 6 J J J<|lp (X:=Nat) (fun k=>[(18, .d (vI (k:Nat))),(5, .rw 5)]) (fun k=>[(5,some (.b 102 6 (((W.take k).map (kw E p)).map eZ) true))]) (fun k=>k<=W.length) (fun k=>W.length-k) 0 J (bJ _) (fun _=>J) (fun k hk=>?_);have hm3:(((W.take k).map (kw E p)).map eZ).length<=k:=by rw[aZ,aZ,aS];omega
 refine br J J J (fun hc19=>?_) (fun hc19=>?_)
 .
  obtain⟨d,hx⟩: ∃u,W[k]? =some u:=⟨_,aQ (by omega)⟩;haveI:=hWb d (aW hx);have hko:=hk;refine ix _ J (b8 hx) J<|cl (fu:=⟨0⟩) J (vx (m:=1) (by decide)) J<|ah 22 (.d (eF 1)) J J<|gx (fu:=⟨9⟩) J<|ah 24 (.d (vI (E.length:Nat))) J (by rw[hml]<;>rfl)<|gx J<|lp (X:=Nat×Rat) (fun⟨t,s⟩=>[(25, .d (vI (t:Nat))),(8, .ov 8 0)]) (fun⟨t,s⟩=>[(8,some (.o 100 [.d (vI (bO s)), .d (vI (bH s)), .d (cO s)] true))]) (fun⟨t,s⟩=>t<=E.length/\s=(E.take t).foldl (jO p d) 1/\BQ s (2*i+6*1001+9000)) (fun⟨t,s⟩=>E.length-t) ⟨0,1⟩ J ⟨bJ _,J,DW⟩ (fun _=>J) (fun⟨t,s⟩ hk=>?_)
  try dsimp only at hk⊢
  obtain⟨g1,g2,g3⟩:=hk;haveI:=g3;refine br J J J (fun hc26=>?_) (fun hc26=>?_)
  .
   obtain⟨f,hx2⟩: ∃u,E[t]? =some u:=⟨_,aQ (by omega)⟩;have hf:=hE f (aW hx2);haveI:=GC hf (p:=p) (d:=d) (i:=i) (j:=1001);refine ix _ J (b8 hx2) J<|cl J (HW hf (p:=p) (i:=i) (by omega)) J<|bb J J J (fun hc31=>?_) (fun hc31=>?_)
   .
    exact at_ ⟨t+1,s⟩ (by dsimp only;exact⟨⟨by omega,by rw[zZ hx2,<-g2];unfold jO;rw[if_pos hc31],g3⟩,(by omega)⟩)
   .
    refine cl J (MH hf (p:=p) (d:=d) (i:=i) (j:=1001) (by omega) (by decide)) J<|bb J J J (fun hc39=>?_) (fun hc39=>?_)
    .
     refine cl J (Qb (p:=s) (q:=(gu f p d).1) (i:=(2*i+6*1001+9000)) (j:=(2*i+6*1001+9000)) (by omega) (by omega)) J<|at_ ⟨t+1,if(gu f p d).1<s then(gu f p d).1 else s⟩ (by dsimp only;exact⟨⟨by omega,by rw[zZ hx2,<-g2];unfold jO;simp[show fC f p=false by simpa using hc31,hc39],by have h9:=Fw hf (p:=p) (d:=d) (i:=i) (j:=1001) g3;unfold jO at h9;simpa[show fC f p=false by simpa using hc31,hc39] using h9⟩,(by omega)⟩)
    .
     exact at_ ⟨t+1,s⟩ (by dsimp only;exact⟨⟨by omega,by rw[zZ hx2,<-g2];unfold jO;simp[show(gu f p d).2=false by simpa using hc39],g3⟩,(by omega)⟩)
  .
   obtain rfl:t=E.length:=by omega
   rw[bT] at g2;refine cl J (WO (q:=s) (i:=(2*i+6*1001+9000)) (by omega)) J<|cl J (ug (p:=d) (c:=s*mkRat 1 2) (i:=1001) (j:=(2*i+6*1001+9000)+2) (by decide) (by omega)) J<|cl (fu:=⟨0⟩) J (wv (p:=p) (q:=d.scale (s*mkRat 1 2)) (i:=i) (j:=1001+((2*i+6*1001+9000)+2)) (by omega) (by omega)) J<|ah 50 (.d (eZ (kw E p d))) J (by rw[xH,g2];rfl)<|gx J<|rf J J<|ap (hv:=by simp only[aj];exact⟨by kernel_rfl,by omega⟩) (((W.take (k+1)).map (kw E p)).map eZ) J (QU hx) (lj [kw E p d]) J<|d4 52 5 J<|at_ (k+1) ⟨(by omega),(by omega)⟩
 .
  obtain rfl:k=W.length:=by omega
  rw[bT];refine gO 5 J<|rz J J
def GF{W:List aa}{g:aa->Bool}{k:Nat}{d:aa}(h:W[k]? =some d):(W.take (k+1)).any g=((W.take k).any g||g d):=by
 rw[cX,h,List.any_append];simp
def IS{W:List aa}{g:aa->Bool}{k:Nat}{d:aa}(h:W[k]? =some d):(W.take (k+1)).all g=((W.take k).all g&&g d):=by
 rw[cX,h,List.all_append];simp
def G9{E:List aE}(hE: ∀f∈E,FE f)(hn:E.length<=100000){p:aa}{i:Nat}[hp:aq p i](hi:i<=20000){f:FuncId}{c2:List Value}{ds2:List DV}(hc:IsLs GB ds2 c2){acc:aa->Bool}(hF: ∀q,aq q 80000->PF GB prog f (eZ q::ds2) (vB (acc q))):PF GB prog 60 [.sl (E.map bF),eZ p, .v (.func (.func f) ⟨[]⟩ ⟨c2⟩)] (vI (t6 E p acc)):=by
 obtain⟨W,hW⟩: ∃W,W=(fG (jg E p)).map (kw E p):=⟨_,rfl⟩;have hwm:(W.map eZ).length=W.length:=aZ ..;have hrl:=I8 E p;have hsl:=IC (jg E p);have hWl:W.length=(fG (jg E p)).length:=by rw[hW,aZ]
 have hWb: ∀q∈W,aq q 80000:=fun q hq=>by
  rw[hW] at hq;obtain⟨d,hd,rfl⟩:=bV.1 hq;haveI:=Ia (CG hE p) (by decide) d hd;exact(Vb hE (p:=p) (d:=d) (i:=i) (j:=1001)).mono (by omega)
 have hcl:t6 E p acc=if(W.any acc&&W.all acc) then 2 else if W.any acc then 1 else 0:=by
  unfold t6;rw[hW,List.any_map,List.all_map];rfl
 refine fn func60 J J ntmps60 J J (fun C=>?_);refine cl (fu:=⟨0⟩) J (Rz hE hn (p:=p) (i:=i) hi) J<|ah 13 (.d (.sl (W.map eZ))) J (by rw[hW])<|gx (fu:=⟨1⟩) J<|ah 14 (.d (vI (W.length:Nat))) J (by rw[hwm]<;>rfl)<|gx J<|BC 7 _ J J<|BC 8 _ J J<|lp (X:=Nat) (fun k=>[(15, .d (vI (k:Nat))),(7, .d (vB ((W.take k).any acc))),(8, .d (vB ((W.take k).all acc)))]) (fun k=>[]) (fun k=>k<=W.length) (fun k=>W.length-k) 0 J (bJ _) (fun _=>J) (fun k hk=>?_);refine br J J J (fun hc16=>?_) (fun hc16=>?_)
 .
  obtain⟨q,hx⟩: ∃u,W[k]? =some u:=⟨_,aQ (by omega)⟩;haveI:=hWb q (aW hx);refine ix (fu:=⟨9⟩) _ J (b8 hx) J<|pp (ds1:=[]) (ds2:=ds2) J (b4.2 J) hc (hF q (hWb q (aW hx))) J<|bb J J J (fun hc21=>?_) (fun hc21=>?_)
  .
   refine sF 7 _ J J<|ah 7 (.d (vB ((W.take (k+1)).any acc))) J (by rw[GF hx,hc21,Bool.or_true]<;>rfl)<|ah 8 (.d (vB ((W.take (k+1)).all acc))) J (by rw[IS hx,hc21,pL]<;>rfl)<|at_ (k+1) ⟨(by omega),(by omega)⟩
  .
   refine sF 8 _ J J<|ah 7 (.d (vB ((W.take (k+1)).any acc))) J (by rw[GF hx,hc21,Bool.or_false]<;>rfl)<|ah 8 (.d (vB ((W.take (k+1)).all acc))) J (by rw[IS hx,hc21,Bool.and_false]<;>rfl)<|at_ (k+1) ⟨(by omega),(by omega)⟩
 .
  obtain rfl:k=W.length:=by omega
  rw[bT];refine cl J (Ox (b:=W.any acc) (c:=W.all acc)) J<|rz J (by rw[hcl];rfl)
def JV{C:az}{n:Nat}{Q0:Exit->Act->World->Prop}{fr:ao}{own:aA}{ops:Array Oper}{r:List Oper}{K:List Kt}(k:Nat){d:DV}{pv:Value}(hl:aD fr k=some (.d (.v pv)))(hp:Is GB d pv)(h:ak prog GB C n Q0 ((k, .d d)::fr) own (.ops ops r K)):ak prog GB C n Q0 fr own (.ops ops r K):=by
 refine⟨fun ρ G ov a w r0=>?_⟩;obtain⟨y,hy,hy'⟩:=r0.fx k _ hl;obtain rfl:=(aH (G:=G)).1 hy';refine h.run ρ G ov a w ⟨r0.gb,r0.h,r0.sz,r0.df,fun j f e=>?_,r0.bx,r0.dj,r0.fxd⟩;rw[e7] at e;split at e
 .rename_i hj
  cases e;subst hj
  exact⟨y,hy,hp.up r0.gb⟩
 .exact r0.fx j f e
def F1{E:List aE}(hE: ∀f∈E,FE f)(hn:E.length<=100000){fill:Int}{q:aa}{i:Nat}[hq:aq q i](hi:i<=80000:=by decide):PF GB prog 59 [eZ q, .pt [vI fill], .pt [.sl (E.map bF)]] (vB (lm fill (e6 E q))):=by
 refine fn (fu:=⟨3⟩) func59 J J ntmps59 J J (fun C=>?_);refine r7 1 J<|r7 2 J<|gx J<|cl J (Ky hE (by omega) (p:=q) (i:=i) (by omega)) J<|cl J (S4 (fill:=fill) (n:=e6 E q)) J<|rz J J
def Xd{rs:List (List ZP)}(h: ∀r∈rs,f9 r)(hn:rs.length<=200){fill:Int}(hfill:fill=1\/fill=2){p:aa}{i:Nat}[hp:aq p i](hi:i<=20000):PF GB prog 22 [.sl (rs.map iu),vI fill,dy p] (.tp [vI (t6 (dB rs) p fun q=>lm fill (e6 (dB rs) q)), .v .nilIface]):=by
 have hel:=DG h hn;have hfe:=Li fun r hr=>(h r hr).ok;refine fn func22 J J ntmps22 J J (fun C=>?_);refine cl (fu:=⟨13⟩) J (H3 h hn) J<|dq J J J<|cs (fu2:=⟨12⟩) 23 J J J (fun hg23=>?_) (fun hg23=>?_)
 .
  refine br (fu2:=⟨5⟩) J J J (fun hc20=>?_) (fun hc20=>?_)
  .
   exact absurd hfill (by omega)
  .
   refine fz 4 J J<|fz 8 J J<|tn 4 J (fun GB1 pv1 hg1 hp1=>?_);refine tn 8 J (fun GB2 pv2 hg2 hp2=>?_);refine IW (fu:=⟨0⟩) J J<|JV 8 J hp2<|r7 8 J<|gx J<|cl J (nG (p:=p) (i:=i) (by omega)) J<|cl J (G9 hfe (by omega) (p:=p) (i:=i) (by omega) (f:=59) (c2:=[pv1,pv2]) (ds2:=[.pt [vI fill], .pt [.sl ((dB rs).map bF)]]) (.cons (hp1.up hg2) (.cons hp2 (b4.2 J))) (acc:=fun q=>lm fill (e6 (dB rs) q)) (fun q hq=>F1 hfe (by omega))) J<|rz J J
 .
  refine fz 4 J J<|fz 8 J J<|tn 4 J (fun GB1 pv1 hg1 hp1=>?_);refine tn 8 J (fun GB2 pv2 hg2 hp2=>?_);refine IW (fu:=⟨0⟩) J J<|JV 8 J hp2<|r7 8 J<|gx J<|cl J (nG (p:=p) (i:=i) (by omega)) J<|cl J (G9 hfe (by omega) (p:=p) (i:=i) (by omega) (f:=59) (c2:=[pv1,pv2]) (ds2:=[.pt [vI fill], .pt [.sl ((dB rs).map bF)]]) (.cons (hp1.up hg2) (.cons hp2 (b4.2 J))) (acc:=fun q=>lm fill (e6 (dB rs) q)) (fun q hq=>F1 hfe (by omega))) J<|rz J J
def oA:List ZP:=kC 0 0 2 2
def LG: ∀r∈[oA],f9 r:=fun r hr=>by
 rw[aL.1 hr];exact⟨I4,by decide+kernel⟩
def NF:GM [oA] (iP 1 1)=false:=by decide+kernel
def Ua:e6 (dB [oA]) (iP 1 1)=1:=by decide+kernel
def Pq:t6 (dB [oA]) (iP 1 0) (fun q=>lm 2 (e6 (dB [oA]) q))=1:=by decide+kernel
theorem Ot: ∀p∈[iP 0 0,iP 2 0,iP 2 2,iP 0 2],aq p 1200:=fun p hp=>by
 simp only[aR,jU,or_false] at hp;rcases hp with rfl|rfl|rfl|rfl<;>exact⟨BQ.int1200,BQ.int1200⟩
def sU:PF GB prog 17 [] (.v (.bool true)):=by
 haveI:aq (iP 1 1) 22:=⟨e8,e8⟩;haveI:aq (iP 1 0) 22:=⟨e8,e8⟩;refine fn func17 J J ntmps17 J J (fun C=>?_);refine cl J (iv (m:=0) (n:=0)) J<|cl J (iv (m:=2) (n:=0)) J<|cl J (iv (m:=2) (n:=2)) J<|cl J (iv (m:=0) (n:=2)) J<|rf (fu:=⟨0⟩) J J<|ah 10 (.d (.sl ([iP 0 0,iP 2 0,iP 2 2,iP 0 2].map eP))) J J<|gx J<|cl J (Dv (ps:=[iP 0 0,iP 2 0,iP 2 2,iP 0 2]) Ot (by decide)) J<|rf (fu:=⟨0⟩) J J<|ah 12 (.d (.sl ([oA].map iu))) J J<|gx J<|cl J (DK (m:=1) (n:=1)) J<|cl (fu:=⟨0⟩) J (Xg (rs:=[oA]) LG (by decide) (p:=iP 1 1) (i:=22) NF (by decide)) J<|ah 16 (.d (.tp [vI 1, .v .nilIface])) J (by rw[Ua])<|gx J<|cl J (DK (m:=1) (n:=0)) J<|cl (fu:=⟨0⟩) J (Xd (rs:=[oA]) LG (by decide) (fill:=2) (.inr J) (p:=iP 1 0) (i:=22) (by decide)) J<|ah 22 (.d (.tp [vI 1, .v .nilIface])) J (by rw[Pq])<|gx (fu:=⟨10⟩) J<|ic (fu:=⟨2⟩) J J J<|ic (fu:=⟨3⟩) J J J<|ic (fu:=⟨3⟩) J J J<|ic J J J<|rz J J
def Nk(r:List ZP)(p:aa):Nat->Bool
 |0=>true
 |k+1=>Nk r p k&&decide (0<=sG (r.getD k (0,0)).q (d5 r k).q p)
def M9(r:List ZP)(p:aa):Nat->Bool
 |0=>false
 |k+1=>M9 r p k||decide (sG (r.getD k (0,0)).q (d5 r k).q p=0)
def LQ{a:aa}{t:List aa}:gt (a::t) a=((0:Nat):Int):=wq (k:=0) (q:=a) J J ⟨J,J⟩
def VF{a b c:aa}{t:List aa}(h1:a≠b)(h2:a≠c)(h3:b≠c):3<=cB (a::b::c::t) (a::b::c::t).length:=by
 have ne: ∀{x y:aa},x≠y->(!decide (x.x=y.x/\x.y=y.y))=true:=fun{x y} h=>by
  rw[decide_eq_false (fun k=>h (by cases x;cases y;simp only[aa.mk.injEq] at*;exact k))];rfl
 have e0:=rk (l:=a::b::c::t) (k:=0) (p:=a) J LQ;have e1:=rk (l:=a::b::c::t) (k:=1) (p:=b) J (wq (k:=1) (q:=b) J (by simp only[List.take,List.all_cons,List.all_nil,pL,ne h1]) ⟨J,J⟩);have e2:=rk (l:=a::b::c::t) (k:=2) (p:=c) J (wq (k:=2) (q:=c) J (by simp only[List.take,List.all_cons,List.all_nil,pL,ne h2,ne h3]) ⟨J,J⟩);have mono: ∀n m,n<=m->cB (a::b::c::t) n<=cB (a::b::c::t) m:=by
  intro n m h
  induction m with
  |zero=>rw[show n=0 by omega];exact aM _
  |succ m ih=>
   by_cases k:n=m+1
   .rw[k];exact aM _
   .exact fJ (ih (by omega)) u7
 have:=mono 3 (a::b::c::t).length (by simp);have z:cB (a::b::c::t) 0=0:=J;rw[dW] at e0;rw[show 1+1=2 from J] at e1;rw[show 2+1=3 from J] at e2;omega
def BT{a b c:ZP}{t:List ZP}(ho:en (a::b::c::t))(h1:a≠b)(h2:a≠c)(h3:b≠c):f9 (a::b::c::t):=
 ⟨ho,VF (t:=t.map ZP.q) (fun e=>h1 (vu e)) (fun e=>h2 (vu e)) (fun e=>h3 (vu e))⟩
def W4{a b c d:Int}(ho:en (kC a b c d))(h1:a<c)(h2:b<d):f9 (kC a b c d):=
 BT ho (fun e=>by have:=congrArg Prod.fst e;dsimp only at this;omega) (fun e=>by have:=congrArg Prod.fst e;dsimp only at this;omega) (fun e=>by have:=congrArg Prod.snd e;dsimp only at this;omega)
def Pr{p u v:ZP}(ho:en (mc p u v))(h:ni u v≠0):f9 (mc p u v):=by
 have hu: ∀{a b:ZP},(a=(0,0)\/b=(0,0)\/a=b)->ni a b=0:=fun{a b} k=>by
  unfold ni;rcases k with rfl|rfl|rfl
  .simp
  .simp
  .rw[rQ];omega
 refine BT ho (fun e=>h (hu (.inl ?_))) (fun e=>h (hu (.inr (.inl ?_)))) (fun e=>h (hu (.inr (.inr ?_))))
 .have e1:=congrArg Prod.fst e
  have e2:=congrArg Prod.snd e;unfold rB at e1 e2;dsimp only at e1 e2;exact Prod.ext (by dsimp only;omega) (by dsimp only;omega)
 .have e1:=congrArg Prod.fst e
  have e2:=congrArg Prod.snd e;unfold rB at e1 e2;dsimp only at e1 e2;exact Prod.ext (by dsimp only;omega) (by dsimp only;omega)
 .have e1:=congrArg Prod.fst e
  have e2:=congrArg Prod.snd e;unfold rB at e1 e2;dsimp only at e1 e2;exact Prod.ext (by omega) (by omega)
def Cc(n:Int)(d:Nat):Int:=n*zv false d
def Te(n:Int)(d:Nat):(Cc n d).natAbs=n.natAbs*d:=by unfold Cc;rw[dV,i9]
instance BN.prx (n:Int) (d i j:Nat) [h:BI n i] [k:BN d j]:BN (Cc n d).natAbs (i+j):=⟨by rw[Te];exact jk h.h k.h⟩
def Yk(S:List aa)(x:aa)(R:List aa)(k:Nat):List aa:=S.take k++x::(S.drop k++R)
def X6(S:List aa)(x:aa)(R:List aa)(m:Nat):List aa:=S.take m++x::x::(S.drop (m+1)++R)
def YH(t:Tr)(p:aa):Int:=if VL t p then 2 else if RY t p then 1 else 0
def Yh(t:Tr)(p:aa)(V:List aa)(k:Nat):Bool:=(V.take k).any fun v=>(ny t p v).1
def alV(t:Tr)(p:aa)(V:List aa)(k:Nat):Bool:=(V.take k).all fun v=>(ny t p v).1
def y6{l:List aa}{x:aa}(h:x∈l): ∃i:Nat,i<l.length/\gt l x=(i:Int)/\l.getD i ⟨0,0⟩=x:=by
 cases e:l.findIdx? (fun q=>decide (q.x=x.x/\q.y=x.y)) with
 |none=>
  rw[List.findIdx?_eq_none_iff] at e;have:=e x h;simp at this
 |some i=>
  have e0:=e;rw[List.findIdx?_eq_some_iff_getElem] at e;obtain⟨h1,h2,_⟩:=e;refine⟨i,h1,by unfold gt;rw[e0],?_⟩;have h3:=of_decide_eq_true h2;rw[aJ,aQ h1,gN];generalize l[i]=q at*
  cases q;cases x
  simp only[aa.mk.injEq] at*;exact h3
def CS(l:List aa): ∀n,cB l n=((List.range n).filter fun k=>decide (gt l (l.getD k ⟨0,0⟩)=((k:Nat):Int))).length
 |0=>rfl
 |n+1=>by
  rw[cB,List.range_succ,List.filter_append,aN,CS l n];congr 1;by_cases h:gt l (l.getD n ⟨0,0⟩)=((n:Nat):Int)
  .rw[if_pos h];simp only[nR,decide_eq_true h,if_true];rfl
  .rw[if_neg h];simp only[nR,decide_eq_false h];rfl
def Pa{F:List Nat}{i j k:Nat}(hi:i∈F)(hj:j∈F)(hk:k∈F)(h1:i≠j)(h2:i≠k)(h3:j≠k):3<=F.length:=by
 match F with
 |[]=>cases hi
 |[a]=>simp at hi hj;omega
 |[a,b]=>simp at hi hj hk;omega
 |a::b::c::t=>simp
def J9{l:List aa}{a b c:aa}(ha:a∈l)(hb:b∈l)(hc:c∈l)(h1:a≠b)(h2:a≠c)(h3:b≠c):3<=cB l l.length:=by
 obtain⟨i,i1,i2,i3⟩:=y6 ha;obtain⟨j,j1,j2,j3⟩:=y6 hb;obtain⟨k,k1,k2,k3⟩:=y6 hc;rw[CS];have mk: ∀{x:aa} {m:Nat},m<l.length->gt l x=(m:Int)->l.getD m ⟨0,0⟩=x->m∈(List.range l.length).filter fun k=>decide (gt l (l.getD k ⟨0,0⟩)=((k:Nat):Int)):=fun{x m} q1 q2 q3=>List.mem_filter.2 ⟨pQ.2 q1,decide_eq_true (by rw[q3];exact q2)⟩;exact Pa (mk i1 i2 i3) (mk j1 j2 j3) (mk k1 k2 k3) (fun e=>h1 (by rw[<-i3,<-j3,e])) (fun e=>h2 (by rw[<-i3,<-k3,e])) (fun e=>h3 (by rw[<-j3,<-k3,e]))
def xK{p q:ZP}:gD p q<0↔p.1<q.1\/(p.1=q.1/\p.2<q.2):=by
 unfold gD
 repeat' split
 all_goals (constructor<;>intro h<;>omega)
def Py{p q:ZP}:gD p q=0↔p.1=q.1/\p.2=q.2:=by
 unfold gD
 repeat' split
 all_goals (constructor<;>intro h<;>omega)
def Ap{x y:ZP}: ∀{l:List ZP},y∈fP x l->y=x\/y∈l
 |[],h=>by simp[fP] at h;exact .inl h
 |u::t,h=>by
  rw[fP] at h;split at h
  .rcases aR.1 h with rfl|h
   .exact .inr aX
   .exact(Ap h).imp id fun k=>aK _ k
  .split at h
   .exact .inr h
   .rcases aR.1 h with rfl|h
    .exact .inl J
    .exact .inr h
def Lx{x:ZP}: ∀{l:List ZP},l.Pairwise (fun a b=>gD a b<0)->(fP x l).Pairwise (fun a b=>gD a b<0)
 |[],_=>by simp[fP]
 |u::t,h=>by
  obtain⟨h1,h2⟩:=bZ.1 h;rw[fP];split
  .rename_i hu
   refine bZ.2 ⟨fun y hy=>?_,Lx h2⟩;rcases Ap hy with rfl|hy
   .exact hu
   .exact h1 y hy
  .split
   .exact h
   .rename_i k1 k2
    rw[xK] at k1;rw[Py] at k2;refine bZ.2 ⟨fun y hy=>?_,h⟩;rw[xK];rcases aR.1 hy with rfl|hy
    .omega
    .have:=xK.1 (h1 y hy);omega
def P3(l:List ZP):(kl l).Pairwise (fun a b=>gD a b<0)/\ ∀y∈kl l,y∈l:=by
 have key: ∀(l o:List ZP),o.Pairwise (fun a b=>gD a b<0)->(l.foldl (fun out x=>fP x out) o).Pairwise (fun a b=>gD a b<0)/\ ∀y∈l.foldl (fun out x=>fP x out) o,y∈l\/y∈o:=by
  intro l
  induction l with
  |nil=>intro o ho;exact⟨ho,fun y hy=> .inr hy⟩
  |cons x t ih=>
   intro o ho;obtain⟨i1,i2⟩:=ih (fP x o) (Lx ho);refine⟨i1,fun y hy=>?_⟩;rcases i2 y hy with h|h
   .exact .inl (aK _ h)
   .rcases Ap h with rfl|h
    .exact .inl aX
    .exact .inr h
 obtain⟨k1,k2⟩:=key l [] .nil;exact⟨k1,fun y hy=>(k2 y hy).resolve_right (by simp)⟩
def LN{r:List ZP}(ho:en r)(h:3<=(kl r).length):f9 r:=by
 refine⟨ho,?_⟩;obtain⟨k1,k2⟩:=P3 r
 match hs:kl r with
 |[]=>rw[hs] at h;simp at h
 |[a]=>rw[hs] at h;simp at h
 |[a,b]=>rw[hs] at h;simp at h
 |a::b::c::t=>
  rw[hs] at k1 k2;obtain⟨p1,p2⟩:=bZ.1 k1;obtain⟨p3,_⟩:=bZ.1 p2;have ne: ∀{x y:ZP},gD x y<0->x.q≠y.q:=fun{x y} q e=>by
   have:=vu e;subst this;have:=xK.1 q;omega
  exact J9 (mQ (k2 a (by simp))) (mQ (k2 b (by simp))) (mQ (k2 c (by simp))) (ne (p1 b (by simp))) (ne (p1 c (by simp))) (ne (p3 c (by simp)))
def Eo{es:List Int}{a:Nat}(ha:a<=es.length):f9 (kv es a).1:=by
 have hok:=(Ao ha).1;unfold kv at*;dsimp only at*;split
 .exact BT KH (by decide) (by decide) (by decide)
 .rename_i h
  rw[if_neg h] at hok;exact LN hok (by omega)
def Wx{es:List Int}{a:Nat}(ha:a<=es.length):f9 (et es a).1:=by
 have hok:=(Ah ha).1;have h0:=fi (n:=4) ha;unfold et at*;dsimp only at*;split
 .rename_i h
  rw[if_pos h] at hok;unfold tH at*;dsimp only at*;exact W4 hok (by omega) (by omega)
 .rename_i h
  rw[if_neg h] at hok;split
  .rename_i k
   rw[if_pos k] at hok;obtain⟨p1,p2,p3⟩:=qe h0;obtain⟨u1,u2,u3,u4⟩:=sM p3;obtain⟨v1,v2,v3,v4⟩:=sM u4;split
   .rename_i hc
    rw[if_pos hc] at hok;exact Pr hok hc
   .exact Eo v4
  .exact Eo h0
structure EGW (GB:Gh) (ar:Addr):Prop where
 ErrRange:GB 3=some [.iface 364 (.pointer (some ar))]
def n0(es:List Int):Nat->Nat->List (List ZP)->List (List ZP)×Nat
 |0,a,out=>(out,a)
 |n+1,a,out=>n0 es n (et es a).2 (out++[(et es a).1])
def jf(es:List Int)(m a:Nat):List (List ZP)×Nat:=n0 es (au es (m+1) a).1 (au es (m+1) a).2 []
def Fm{es:List Int}: ∀{n a:Nat} {out:List (List ZP)},a<=es.length->(∀r∈out,f9 r)->(∀r∈(n0 es n a out).1,f9 r)/\(n0 es n a out).1.length=out.length+n/\(n0 es n a out).2<=es.length
 |0,a,out,ha,h=>⟨h,J,ha⟩
 |n+1,a,out,ha,h=>by
  have h1:=(Ah ha).2;obtain⟨i1,i2,i3⟩:=Fm (n:=n) (out:=out++[(et es a).1]) h1 fun r hr=>by
   rcases cM.1 hr with hr|hr
   .exact h r hr
   .rw[aL.1 hr];exact Wx ha
  exact⟨i1,by rw[n0,i2,aN];simp;omega,i3⟩
def E6{es:List Int}{m a:Nat}(ha:a<=es.length):(∀r∈(jf es m a).1,f9 r)/\(jf es m a).1.length<=m/\(jf es m a).2<=es.length:=by
 have h1:=gi (es:=es) (n:=m+1) (a:=a) (by omega);obtain⟨i1,i2,i3⟩:=Fm (es:=es) (n:=(au es (m+1) a).1) (out:=[]) (fi (n:=m+1) ha) (fun r hr=>by cases hr);exact⟨i1,by unfold jf;rw[i2];simp;omega,i3⟩
def PS{b:Nat}{es:List Int}(hes:es.length<=400){a:Nat}(ha:a<=es.length){md:Nat}(hmd:md<=100):PM GB prog 10 (fE [none,some (.v (.int .i64 (md:Nat)))] b) b 85 [.sl (es.map vI), .v (.int .i64 (a:Nat))] (.sl ((jf es md a).1.map ku)) [.sl (es.map vI), .v (.int .i64 ((jf es md a).2:Nat))]:=by
 have hj1:=gi (es:=es) (n:=md+1) (a:=a) (by omega);have hj2:=fi (n:=md+1) ha;refine qv func10 J J ntmps10 J J (fun C b m lo hmb=>?_);refine cm J (fun b=>(lB (n:=(md:Int)+1) hes ha (by omega) (by omega))) J<|nr 5 5 83 1 J J J<|lp (X:=List (List ZP)×Nat×Nat) (fun⟨rs,i,b⟩=>[(6, .d (vI (i:Nat))),(5, .rw 5)]) (fun⟨rs,i,b⟩=>[(1000000,some (.o 85 [.d (.sl (es.map vI)), .d (.v (.int .i64 (b:Nat)))] false)),(5,some (.b 83 1 (rs.map ku) true))]) (fun⟨rs,i,b⟩=>n0 es i b rs=jf es md a/\b<=es.length/\rs.length+i<=100) (fun⟨rs,i,b⟩=>i) ⟨[],(au es (md+1) a).1,(au es (md+1) a).2⟩ J ⟨J,hj2,by simp;omega⟩ (fun _=>J) (fun⟨rs,i,b⟩ hk=>?_)
 try dsimp only at hk⊢
 obtain⟨h1,h2,h3⟩:=hk;have hrl:(rs.map ku).length=rs.length:=by simp
 refine br (fu2:=⟨0⟩) J J J (fun hc12=>?_) (fun hc12=>?_)
 .
  obtain⟨j,rfl⟩: ∃j,i=j+1:=⟨i-1,by omega⟩;have hq:=(Ah h2).2;refine cm J (fun b=>(VD hes h2)) J<|rf J J<|ap ((rs++[(et es b).1]).map ku) J (by rw[cK];rfl) (Nl [_]) J<|d4 19 5 J<|at_ ⟨rs++[(et es b).1],j,(et es b).2⟩ (by dsimp only;exact⟨⟨by rw[<-h1,n0],hq,by simp;omega⟩,(by omega)⟩)
 .
  obtain rfl:i=0:=by omega
  have hfin:jf es md a=(rs,b):=by rw[<-h1,n0]
  refine px 5 J<|gx J<|?_;exact gz hmb J J (by rw[hfin];rfl) (by rw[hfin])
def Sz(a b p:aa):Bool:=decide (sG a b p=0)&&decide ((aa.dot (eh a p (-1)) (eh b p (-1))).num.sign<=0)
def Z5(r:List ZP)(p:aa):Bool:=(List.range r.length).any fun k=>Sz (r.getD k (0,0)).q (d5 r k).q p
section
variable {GB:Gh} {C:az} {n:Nat} {Q0:Exit->Act->World->Prop} {fr fr':ao} {own own':aA} {cf cf':Cf} {vc:List Prop} {lk:LK} {bk:BM}
variable {dst:Option Nat} {t t' ty':TypeId} {pos:String} {af:Array Edge} {gd:Option (Nat×Bool)} {x y:Operand}
def ZW(fr:ao)(cf:Cf):Option (List DV):=match bE fr cf with
 |some ⟨_, .binOp .eql t x (.const (.slice none _ _)) _,_,_,_,_⟩=>match co tt t with
  |some ⟨.sl _ _ _,_,_,_⟩=>match aB (aP fr cf) x with
   |some (.d (.sl l))=>some l
   |_=>none
  |_=>none
 |_=>none
def Zg(GB:Gh)(P:Program)(f:FuncId)(s off m:Nat)(ty:TypeId)(dsi dso:List DV):Prop:=
 ∀G w b c B,ba GB G->cG G ⟨w,s,ty,dsi,false⟩ B->w.a=some ⟨b,0,none⟩->m<=c->iD P f [.slice (some ⟨b,off*s,none⟩) m c] B G (fun v own' G'=>Is G' (.tp []) v/\cG G' ⟨w,s,ty,dso,false⟩ own')
structure CV where
 f:FuncId
 nm:Nat
 s:Nat
 off:Nat
 m:Nat
 ty:TypeId
 ds:List DV
 lo:Bool
def cvA(fr:ao)(own:aA)(cf:Cf):Option CV:=match bE fr cf with
 |some ⟨_, .call ⟨.value fo,⟨[x]⟩,_⟩,_,_,_,_⟩=>match aB (aP fr cf) fo with
  |some (.d (.v (.func (.func f) ⟨[]⟩ ⟨[]⟩)))=>match aB (aP fr cf) x with
   |some (.rs nm s off m)=>match dO fr own cf nm with
    |some (.b ty s' ds lo)=>bif Nat.beq s s' then some ⟨f,nm,s,off,m,ty,ds,lo⟩ else none
    |_=>none
   |_=>none
  |_=>none
 |_=>none
end

def Zm(r:List ZP):List ZP:=r.take 1++(r.drop 1).reverse
section
variable {r:List ZP} {p:aa} {L:List ab}
end


def Gb:Go.Sort.SWO (Go.Proofs.ltOf cF):=by
 have e: ∀x y,Go.Proofs.ltOf cF x y=true↔cF x y<0:=fun x y=>by simp[Go.Proofs.ltOf]
 have e2: ∀x y,Go.Proofs.ltOf cF x y=false↔ ¬cF x y<0:=fun x y=>by rw[<-e];simp
 refine⟨fun x=>(e2 x x).2 ?_,fun x y z h k=>(e x z).2 ?_,fun x y z h k=>(e2 x z).2 ?_⟩
 .rw[n7];omega
 .have h:=(e x y).1 h
  have k:=(e y z).1 k;rw[n7] at*;omega
 .have h:=(e2 x y).1 h
  have k:=(e2 y z).1 k;rw[n7] at*;omega
def f0(x:ab):List ab->List ab
 |[]=>[]
 |y::l=>if y=x then f0 y l else y::f0 y l
def lA:List ab->List ab
 |[]=>[]
 |x::l=>x::f0 x l
def EH: ∀{l m:List ab},l.Pairwise (fun a b=>cF a b<0)->m.Pairwise (fun a b=>cF a b<0)->(∀x,x∈l↔x∈m)->l=m
 |[],[],_,_,_=>rfl
 |[],b::m,_,_,h=>absurd ((h b).2 aX) (by simp)
 |a::l,[],_,_,h=>absurd ((h a).1 aX) (by simp)
 |a::l,b::m,h1,h2,h=>by
  have ay: ∀{u v:ab},cF u v<0->cF v u<0->False:=fun h k=>by rw[n7] at*;omega
  obtain⟨p1,p2⟩:=bZ.1 h1;obtain⟨q1,q2⟩:=bZ.1 h2;have e:a=b:=by
   rcases aR.1 ((h a).1 aX) with e|e
   .exact e
   .rcases aR.1 ((h b).2 aX) with f|f
    .exact f.symm
    .exact(ay (q1 a e) (p1 b f)).elim
  subst e;congr 1;refine EH p2 q2 fun x=>⟨fun hx=>?_,fun hx=>?_⟩
  .rcases aR.1 ((h x).1 (aK _ hx)) with e|e
   .subst e;exact(ay (p1 _ hx) (p1 _ hx)).elim
   .exact e
  .rcases aR.1 ((h x).2 (aK _ hx)) with e|e
   .subst e;exact(ay (q1 _ hx) (q1 _ hx)).elim
   .exact e
def Oj{x z:ab}(h: ¬cF z x<0)(k:z≠x):cF x z<0:=by
 have k: ¬cF z x=0:=fun e=>k ((Ce z x).1 e);rw[zX] at k;rw[n7] at*;omega
def JO: ∀{l:List ab} {x:ab},(x::l).Pairwise (fun a b=> ¬cF b a<0)->(f0 x l).Pairwise (fun a b=>cF a b<0)/\(∀y∈f0 x l,cF x y<0)/\ ∀y,y∈x::f0 x l↔y∈x::l
 |[],_,_=>⟨.nil,(fun y hy=>by cases hy),fun _=>Iff.rfl⟩
 |z::l,x,h=>by
  obtain⟨p1,p2⟩:=bZ.1 h;obtain⟨i1,i2,i3⟩:=JO p2;rw[f0];by_cases e:z=x
  .rw[if_pos e]
   subst e;exact⟨i1,i2,fun y=>by rw[i3];simp⟩
  .rw[if_neg e]
   have hb:cF x z<0:=Oj (p1 z aX) e;refine⟨bZ.2 ⟨i2,i1⟩,fun y hy=>?_,fun y=>?_⟩
   .rcases aR.1 hy with rfl|hy
    .exact hb
    .have:=i2 y hy
     rw[n7] at*;omega
   .rw[aR,i3,aR (b:=x) (l:=z::l)]
def JE: ∀(l:List ab) (x:ab),(f0 x l).length<=l.length
 |[],_=>aM _
 |y::l,x=>by
  have:=JE l y;rw[f0];split<;>simp only[bR]<;>omega
def W1(l:List ab):(lA l).length<=l.length:=by
 cases l with
 |nil=>exact aM _
 |cons x l=>have:=JE l x;simp only[lA,bR];omega
def MB(ls:List ab):lA (ey cF (ls.map ab.canon))=lH ls:=by
 have hm: ∀y,y∈ey cF (ls.map ab.canon)↔y∈ls.map ab.canon:=fun y=>(pk cF _).mem_iff;have h1:=BO Gb (ls.map ab.canon);have hc:(lA (ey cF (ls.map ab.canon))).Pairwise (fun a b=>cF a b<0)/\ ∀y,y∈lA (ey cF (ls.map ab.canon))↔y∈ey cF (ls.map ab.canon):=by
  generalize ey cF (ls.map ab.canon)=l at*
  cases l with
  |nil=>exact⟨.nil,fun _=>Iff.rfl⟩
  |cons x l=>
   obtain⟨i1,i2,i3⟩:=JO h1;exact⟨bZ.2 ⟨i2,i1⟩,i3⟩
 refine EH hc.1 (NV ls) fun x=>?_;rw[hc.2,hm];constructor
 .intro h
  obtain⟨l,hl,rfl⟩:=bV.1 h;exact PD hl
 .intro h
  obtain⟨l,hl,rfl⟩:=LD h;exact mQ hl
def vV{l:List ab}{k:Nat}{x y:ab}(h:l[k]? =some y):f0 x (l.drop k)=if y=x then f0 y (l.drop (k+1)) else y::f0 y (l.drop (k+1)):=by
 obtain⟨h1,h2⟩:=aT.1 h;rw[bM h1,h2,f0]
def Uc{l:List ab}(h:l.length<2):lA l=l:=by
 cases l with
 |nil=>rfl
 |cons x l=>cases l with
  |nil=>rfl
  |cons y l=>simp at h;omega
def WE{l:List ab}{x:ab}(h:l[0]? =some x):lA l=l.take 1++f0 x (l.drop 1):=by
 cases l with
 |nil=>cases h
 |cons y l=>cases h;rfl
end Go.Sx
end
